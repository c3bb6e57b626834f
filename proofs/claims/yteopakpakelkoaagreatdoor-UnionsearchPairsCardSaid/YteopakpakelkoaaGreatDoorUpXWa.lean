/- similarity.Words: the small functions that it calls. -/
import Derived.Test.YteopakpakelkoaaGreatDoorProg
import Derived.Test.YteopakpakelkoaaGreatDoorUpWD
import Derived.WalkKit
import Derived.BigCall
import Derived.Lib.OthersKept
set_option linter.all false
namespace Go.Proofs
open Go Go.RowKit Go.Sort Go.Lib
def ZGL (r:Nat):Bool:=decide ((97<=r/\r<=122)\/(65<=r/\r<=90)\/(48<=r/\r<=57))
def ZO3 (r:Nat):Nat:=bif decide (65<=r)&&decide (r<=90)then r+32 else r
theorem Tryz.belongs_walk (r:Nat) (b:r<=2147483647) (w:World):Calls Tryz.prog 151 #[.int .i32 r] w fun e a=>e= .returned (.bool (ZGL r))/\a=w:=by
 go_enter Tryz.func151,Tryz.ntmps151
 go_wp2
 all_goals (try go_ret)
 all_goals (refine⟨congrArg Ending.returned ?_,rfl⟩)
 all_goals (refine congrArg Value.bool ?_)
 all_goals (unfold ZGL;rw[Bool.eq_iff_iff];simp only[Bool.or_eq_true,Bool.and_eq_true,decide_eq_true_eq,true_iff,Bool.false_eq_true,false_iff];omega)
theorem Tryz.lower_walk (r:Nat) (c:r<=2147483647) (w:World):Calls Tryz.prog 153 #[.int .i32 r] w fun e b=>e= .returned (.int .i32 (ZO3 r))/\b=w:=by
 go_enter Tryz.func153,Tryz.ntmps153
 go_wp2
 all_goals (try go_ret)
 all_goals (refine⟨congrArg Ending.returned ?_,rfl⟩)
 all_goals (refine congrArg (Value.int .i32) ?_)
 all_goals (unfold ZO3)
 all_goals (cases a:(decide (65<=r)&&decide (r<=90))<;>simp at a<;>simp only[cond_true,cond_false]<;>omega)
theorem Tryz.reset_walk (b:Nat) (p v:Value) (w:World) (a:w.heap[b]? =some (.cells #[p,v] 168 (0,0))):
  Calls Tryz.prog 156 #[.pointer (some ⟨b,0,none⟩)] w fun e c=>e= .returned (.tuple #[])/\c=(w.setCell ⟨b,0,none⟩ (.pointer none)).setCell ⟨b,1,none⟩ (.slice none 0 0):=by
 have g:w.cell? ⟨b,0,none⟩=some p:=by simp[World.cell?,a]
 have h:w.cell? ⟨b,1,none⟩=some v:=by simp[World.cell?,a]
 have d:w.frozen? ⟨b,0,none⟩=false:=by simp[World.frozen?,a]
 have f:w.frozen? ⟨b,1,none⟩=false:=by simp[World.frozen?,a]
 go_enter Tryz.func156,Tryz.ntmps156
 go_wp2
 go_end0
 exact⟨rfl,rfl⟩
theorem Tryz.reset_k (b:Nat) (p v:Value) (w:World) (c:w.heap[b]? =some (.cells #[p,v] 168 (0,0))):
  Calls Tryz.prog 156 #[.pointer (some ⟨b,0,none⟩)] w fun e a=>e= .returned (.tuple #[])/\IsBuilderF 168 5 b b [] a/\Below b w a/\(∀k,k≠b->a.heap[k]? =w.heap[k]?)/\a.heap.size=w.heap.size:=by
 refine(Tryz.reset_walk b p v w c).mono ?_;rintro e a ⟨rfl,rfl⟩;refine⟨rfl,.inl ⟨Nat.le_refl _,.slice none 0 0, ?_,World.ownsRowF_nil _ _ _ _,by simp[Value.ownBlock]⟩,((Below.refl b w).setCell (p:=⟨b,0,none⟩) (Nat.le_refl _) _).setCell (p:=⟨b,1,none⟩) (Nat.le_refl _) _,fun k d=> ?_,by simp[World.setCell]⟩
 ·simp[World.setCell,Array.getElem?_modify,c]
 ·rw[Below.heap_setCell _ _ _ _ (fun e=>d (by simpa using e)),Below.heap_setCell _ _ _ _ (fun e=>d (by simpa using e))]
end Go.Proofs

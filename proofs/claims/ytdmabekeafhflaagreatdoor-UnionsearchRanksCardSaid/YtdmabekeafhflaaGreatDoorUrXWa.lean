/- similarity.Words: the small functions that it calls. -/
import Derived.Test.YtdmabekeafhflaaGreatDoorProg
import Derived.Test.YtdmabekeafhflaaGreatDoorUrWD
import Derived.WalkKit
import Derived.BigCall
import Derived.Lib.OthersKept
set_option linter.unusedVariables false
set_option linter.unusedSimpArgs false
set_option linter.unusedSectionVars false
namespace Go.Proofs
open Go Go.RowKit Go.Sort Go.Lib
def ZCL (r:Nat):Bool:=decide ((97≤r∧r≤122)∨(65≤r∧r≤90)∨(48≤r∧r≤57))
def ZJ9 (r:Nat):Nat:=bif decide (65≤r)&&decide (r≤90)then r+32 else r
theorem Tryz.belongs_walk (r:Nat) (hr:r≤2147483647) (w:World):Calls Tryz.prog 128 #[.int .i32 r] w fun e w'=>e= .returned (.bool (ZCL r))∧w'=w:=by
 go_enter Tryz.func128,Tryz.ntmps128
 go_wp2
 all_goals (try go_ret)
 all_goals (refine⟨congrArg Ending.returned ?_,rfl⟩)
 all_goals (refine congrArg Value.bool ?_)
 all_goals (unfold ZCL;rw[Bool.eq_iff_iff];simp only[Bool.or_eq_true,Bool.and_eq_true,decide_eq_true_eq,true_iff,Bool.false_eq_true,false_iff];omega)
theorem Tryz.lower_walk (r:Nat) (hr:r≤2147483647) (w:World):Calls Tryz.prog 130 #[.int .i32 r] w fun e w'=>e= .returned (.int .i32 (ZJ9 r))∧w'=w:=by
 go_enter Tryz.func130,Tryz.ntmps130
 go_wp2
 all_goals (try go_ret)
 all_goals (refine⟨congrArg Ending.returned ?_,rfl⟩)
 all_goals (refine congrArg (Value.int .i32) ?_)
 all_goals (unfold ZJ9)
 all_goals (cases hb:(decide (65≤r)&&decide (r≤90))<;>simp at hb<;>simp only[cond_true,cond_false]<;>omega)
theorem Tryz.reset_walk (b:Nat) (p v:Value) (w:World) (hb:w.heap[b]? =some (.cells #[p,v] 162 (0,0))):
  Calls Tryz.prog 133 #[.pointer (some ⟨b,0,none⟩)] w fun e w'=>e= .returned (.tuple #[])∧w'=(w.setCell ⟨b,0,none⟩ (.pointer none)).setCell ⟨b,1,none⟩ (.slice none 0 0):=by
 have c0:w.cell? ⟨b,0,none⟩=some p:=by simp[World.cell?,hb]
 have c1:w.cell? ⟨b,1,none⟩=some v:=by simp[World.cell?,hb]
 have f0:w.frozen? ⟨b,0,none⟩=false:=by simp[World.frozen?,hb]
 have f1:w.frozen? ⟨b,1,none⟩=false:=by simp[World.frozen?,hb]
 go_enter Tryz.func133,Tryz.ntmps133
 go_wp2
 go_end0
 exact⟨rfl,rfl⟩
theorem Tryz.reset_k (b:Nat) (p v:Value) (w:World) (hb:w.heap[b]? =some (.cells #[p,v] 162 (0,0))):
  Calls Tryz.prog 133 #[.pointer (some ⟨b,0,none⟩)] w fun e w'=>e= .returned (.tuple #[])∧IsBuilderF 162 5 b b [] w'∧Below b w w'∧(∀k,k≠b→w'.heap[k]? =w.heap[k]?)∧w'.heap.size=w.heap.size:=by
 refine(Tryz.reset_walk b p v w hb).mono ?_;rintro e w' ⟨rfl,rfl⟩;refine⟨rfl,.inl ⟨Nat.le_refl _,.slice none 0 0, ?_,World.ownsRowF_nil _ _ _ _,by simp[Value.ownBlock]⟩,((Below.refl b w).setCell (p:=⟨b,0,none⟩) (Nat.le_refl _) _).setCell (p:=⟨b,1,none⟩) (Nat.le_refl _) _,fun k hk=> ?_,by simp[World.setCell]⟩
 ·simp[World.setCell,Array.getElem?_modify,hb]
 ·rw[Below.heap_setCell _ _ _ _ (fun e=>hk (by simpa using e)),Below.heap_setCell _ _ _ _ (fun e=>hk (by simpa using e))]
end Go.Proofs

/- The contracts that similarity.Words leans on: strings.Builder's writers, slices.Sort, slices.Compact. -/
import Derived.Test.YteopakpakelkoaaGreatDoorUpLaySim
import Derived.Test.YteopakpakelkoaaGreatDoorUpXWb
import Derived.Lib.FrozenHead2
set_option linter.all false
namespace Go.Proofs
open Go Go.RowKit Go.Sort Go.Lib
theorem Tryz.infoByte:(Tryz.prog.info? 5).map (fun i=>(i.zero,i.size,i.bytes))=some (some (.int .u8 0),1,1):=by kernel_rfl
theorem Tryz.bxStr:Builder.Extra Tryz.prog Tryz.laysBStr_ren:={sizeBuilder:=by kernel_rfl,liesBuilder:=by kernel_rfl,t5:=Tryz.underlying5,a5:=Tryz.isAgg5,z5:=Tryz.sizeOf5,v5:=Tryz.zeroValue5,infoByte:=by kernel_rfl,cellsByte:=by kernel_rfl,sizeByte:=by kernel_rfl,neB5:=by decide}
theorem Tryz.sizeB:(Tryz.prog.info? 168).map (·.size)=some 2:=by kernel_rfl
theorem Tryz.liesB:liesAt Tryz.prog Tryz.prog.depth 168 (2 / Tryz.prog.cellsOf 168) 0 168 1=true:=by kernel_rfl
set_option maxHeartbeats 1000000 in
set_option maxRecDepth 100000 in
theorem Tryz.check_used (b:Nat) (w:World) (h0:w.cell? ⟨b,0,none⟩=some (.pointer (some ⟨b,0,none⟩))):
  Calls Tryz.prog 201 #[.pointer (some ⟨b,0,none⟩)] w fun e w'=>e= .returned (.tuple #[])/\w'=w:=by
 obtain⟨j,hj,_⟩:=Option.map_eq_some_iff.1 Tryz.sizeB
 go_enter Tryz.func201,Tryz.ntmps201
 go_wp2
 rw[Lib.run_neq_ptr_same w _ Tryz.underlying165 hj]
 go_wp2
 go_end0
 exact⟨rfl,rfl⟩
set_option maxHeartbeats 1000000 in
set_option maxRecDepth 100000 in
theorem Tryz.check_fresh (b:Nat) (w:World) (h0:w.cell? ⟨b,0,none⟩=some (.pointer none)) (hsh:w.shape? b=some (168,2)) (hfz:w.frozen? ⟨b,0,none⟩=false):
  Calls Tryz.prog 201 #[.pointer (some ⟨b,0,none⟩)] w fun e w'=>e= .returned (.tuple #[])/\w'=w.setCell ⟨b,0,none⟩ (.pointer (some ⟨b,0,none⟩)):=by
 obtain⟨j,hj,hjs⟩:=Option.map_eq_some_iff.1 Tryz.sizeB
 go_enter Tryz.func201,Tryz.ntmps201
 go_wp2
 rw[Lib.run_to_unsafe w ⟨b,0,none⟩ Tryz.underlying165 Tryz.underlying249 hj (by rw[hjs];decide) hsh (Nat.zero_lt_succ 1)];simp only[Result.andThen];rw[Oper.upon_value]
 go_wp2
 rw[run_callFunc_extern Tryz.func233 (by kernel_rfl) (by kernel_rfl) (by kernel_rfl) (e:=Extern.AbiNoEscape.same) (by kernel_rfl)];rw[Lib.run_noEscape];simp only[Result.andThen];rw[Oper.upon_value]
 go_wp2
 rw[Lib.run_from_unsafe w ⟨b,0,none⟩ Tryz.underlying249 Tryz.underlying165 hj hsh Tryz.liesB];simp only[Result.andThen];rw[Oper.upon_value]
 go_wp2
 go_end0
 exact⟨rfl,rfl⟩
theorem Tryz.check_k (B b:Nat) (c:List Value) (w:World) (h:Lib.IsBuilderF 168 5 B b c w):
  Calls Tryz.prog 201 #[.pointer (some ⟨b,0,none⟩)] w fun e a=>e= .returned (.tuple #[])/\(Lib.BuilderAtF 168 5 B b (.pointer (some ⟨b,0,none⟩)) c a/\Below B w a/\Lib.OthersKept 5 (some b) w a):=by
 rcases h with h |h
 ·refine(Tryz.check_fresh b w h.cell0 h.shape h.frozen0).mono ?_;rintro e a ⟨rfl,rfl⟩;exact⟨rfl,h.used _,(Below.refl B w).setCell (p:=⟨b,0,none⟩) h.1 _,(Lib.OthersKept.refl _ _ w).setCell ⟨b,0,none⟩ rfl _⟩
 ·refine(Tryz.check_used b w h.cell0).mono ?_;rintro e a ⟨rfl,rfl⟩;exact⟨rfl,h,Below.refl B _,Lib.OthersKept.refl _ _ _⟩
set_option maxHeartbeats 4000000 in
set_option maxRecDepth 100000 in
theorem Tryz.AppendRune_ascii (B:Nat) (v:Value) (n:Nat) (xs:List Value) (r:Int) (h0:0<=r) (h1:r<=127) (w:World) (hown:w.ownsRowF B 5 1 v n xs) (hlen:n+4<=140737488355328) (hBw:B<=w.heap.size):
  Calls Tryz.prog 202 #[v,.int .i32 r] w fun e w'=>∃v',e= .returned v'/\w'.ownsRowF B 5 1 v' (n+1) (xs++[.int .u8 r])/\∃o,(w.alloc o).grownBy w' v.ownBlock:=by
 obtain⟨i0,hi,hz0,hz1,hz2⟩:=info_parts Tryz.infoByte
 go_enter Tryz.func202,Tryz.ntmps202
 go_wp2_with (at_builtin;refine wpList_append_ownF _ rfl _ _ 166 rfl B 5 i0 (.int .u8 0) 1 1 Tryz.underlying166 hi hz0 hz1 hz2 rfl (by decide) _ _ _ rfl (hown.alloc _) ⟨w.heap.size,0,none⟩ 1 1 [.int .u8 r] rfl rfl ?c1 ?c2 ?c3 ?c4 ?c5 ?_)
 all_goals first
  |(intro v' w2 hown' hgrow _;go_wp2;go_ret;exact⟨_,rfl,hown',_,hgrow⟩)
  |(unfold maxLen;omega)
  |omega
  |(simp;omega)
  |rfl
  |(intro u hu;simp at hu;subst hu;rfl)
  |(intro j u hj
    match j,hj with
    |0,hj=>simp at hj;subst hj;simp[Addr.add]
    |(j+1),hj=>simp at hj)
set_option maxHeartbeats 4000000 in
set_option maxRecDepth 100000 in
theorem Tryz.rune_k0 (B:Nat) (bs:List Value) (r:Int) (h0r:0<=r) (h1r:r<=127) (w:World) (h:IsBuilderF 168 5 B B bs w) (hlen:bs.length+4<=140737488355328) (hBw:B<=w.heap.size):
  Calls Tryz.prog 152 #[.pointer (some ⟨B,0,none⟩),.int .i32 r] w fun e w'=>(∃v,e= .returned (.tuple v))/\BuilderAtF 168 5 B B (.pointer (some ⟨B,0,none⟩)) (bs++[.int .u8 r]) w'/\Below B w w'/\OthersKept 5 (some B) w w':=by
 go_enter Tryz.func152,Tryz.ntmps152
 go_wp2_with (go_at_call 201;refine(Tryz.check_k B B bs _ h).mono ?_)
 rintro e w1 ⟨rfl,h1,hb1,hk1⟩;obtain⟨hB,v,hbk,hown,hne⟩:=h1;obtain⟨ao,cap,rfl⟩:∃ao cap,v= .slice ao bs.length cap:=by
  rcases hown.2 with ⟨hv,h0⟩ |⟨g,cap,cur,fz,hv,_⟩
  ·exact⟨none,0,by rw[hv,h0]⟩
  ·exact⟨_,_,hv⟩
 have c0:w1.cell? ⟨B,0,none⟩=some (.pointer (some ⟨B,0,none⟩)):=by rw[Lib.cell_of_heap hbk];rfl
 have c1:w1.cell? ⟨B,1,none⟩=some (.slice ao bs.length cap):=by rw[Lib.cell_of_heap hbk];rfl
 go_wp2_with (go_at_call 202;refine(Tryz.AppendRune_ascii B _ bs.length bs r h0r h1r _ hown hlen (by have:=hb1.size;omega)).mono ?_)
 rintro e w2 ⟨v',rfl,hown',o,hgrow⟩;have hlt:B < w1.heap.size:=by
  rcases Nat.lt_or_ge B w1.heap.size with h' |h'
  ·exact h'
  ·simp[Array.getElem?_eq_none h']at hbk
 have hb2:w2.heap[B]? =some (.cells #[.pointer (some ⟨B,0,none⟩),.slice ao bs.length cap] 168 (0,0)):=by rw[hgrow.block B (by simp;omega) (fun e=>hne e.symm),Lib.alloc_old w1 _ B hlt];exact hbk
 have d0:w2.cell? ⟨B,0,none⟩=some (.pointer (some ⟨B,0,none⟩)):=by rw[Lib.cell_of_heap hb2];rfl
 have d1:w2.cell? ⟨B,1,none⟩=some (.slice ao bs.length cap):=by rw[Lib.cell_of_heap hb2];rfl
 have f1:w2.frozen? ⟨B,1,none⟩=false:=Lib.frozen_of_heap hb2 1;obtain⟨g,cap',rfl⟩:∃g cap',v'= .slice (some ⟨g,0,none⟩) (bs.length+1) cap':=by
  rcases hown'.2 with ⟨_,h0⟩ |⟨g,cap',cur,fz,hv,_⟩
  ·omega
  ·exact⟨g,cap',hv⟩
 go_wp2
 go_ret2
 refine⟨⟨_,rfl⟩, ?_, ?_,((hk1.alloc _).grown hgrow (Lib.ownsRowF_kind (hown.alloc _))).setCell ⟨B,1,none⟩ rfl _⟩
 ·exact Lib.BuilderAtF.put (T:=168) (e:=5) hB hb2 (bs':=bs++[.int .u8 r]) (by simpa using hown') (by decide)
 ·exact((hb1.alloc (by have:=hb1.size;omega) _).grown hgrow (by have:=hb1.size;simp;omega) (fun k hk=>(hown.lt k hk).1)).setCell (p:=⟨B,1,none⟩) hB _
theorem Tryz.rune_k (B:Nat) (l:List UInt8) (c:Nat) (k:c < 128) (w:World) (h:IsBuilderF 168 5 B B (byteCells l) w) (a:l.length+4<=140737488355328) (d:B<=w.heap.size):
  Calls Tryz.prog 152 #[.pointer (some ⟨B,0,none⟩),.int .i32 c] w fun e b=>(∃v,e= .returned (.tuple v))/\IsBuilderF 168 5 B B (byteCells (l++[c.toUInt8])) b/\Below B w b/\OthersKept 5 (some B) w b:=by
 refine(Tryz.rune_k0 B (byteCells l) c (by omega) (by omega) w h (by rw[byteCells_length];exact a) d).mono ?_;rintro e b ⟨i,g,f,j⟩;refine⟨i,.inr ?_,f,j⟩;rw[byteCells_append];have e:byteCells [c.toUInt8]=[Value.int .u8 c]:=by
  have:(c.toUInt8).toNat=c:=by simp;omega
  simp[byteCells,this]
 rw[e];exact g
theorem Tryz.len_k (B:Nat) (l:List UInt8) (w:World) (h:IsBuilderF 168 5 B B (byteCells l) w):
  Calls Tryz.prog 154 #[.pointer (some ⟨B,0,none⟩)] w fun e a=>e= .returned (.int .i64 l.length)/\a=w:=by
 have:=Any.Builder_Len_f Tryz.laysBLen B B (byteCells l) w h
 rwa [byteCells_length]at this
theorem Tryz.str_k (B:Nat) (l:List UInt8) (w:World) (h:IsBuilderF 168 5 B B (byteCells l) w) (a:B<=w.heap.size):
  Calls Tryz.prog 155 #[.pointer (some ⟨B,0,none⟩)] w fun e b=>e= .returned (.string ⟨l.toArray⟩)/\IsBuilderF 168 5 B B (byteCells l) b/\Below B w b/\OthersKept 5 (some B) w b:=
 Any.Builder_String_any_k Tryz.laysBStr Tryz.bxStr B B l w h a
theorem Tryz.sort_k (a b d:Nat) (c:List (List UInt8)) (w:World) (i:Holds encStr w a b c.toArray) (f:a < w.heap.size) (g:c.length < 4611686018427387904):
  Calls Tryz.prog 157 #[.slice (some ⟨a,b,none⟩) c.length d] w fun e h=>
   e= .returned (.tuple #[])/\∃n os,h=grow (putRow encStr (Sort.ahead w n) a b (c.mergeSort fun x y=>decide (x<=y)).toArray) os:=AnyM.slices_Sort_string Tryz.laysSort a b d c w i f g
theorem Tryz.sort_none (p:Option Addr) (a:Nat) (w:World):
  Calls Tryz.prog 157 #[.slice p 0 a] w fun e b=>e= .returned (.tuple #[])/\b=w:=AnyM.slices_Sort_string_none Tryz.laysSort p a w
theorem Tryz.cut_k (b a c:Nat) (d:Array (List UInt8)) (w:World) (i:Holds encStr w b a d) (g:d.size<=9223372036854775807) (f:d.size<=c):
  Calls Tryz.prog 158 #[.slice (some ⟨b,a,none⟩) d.size c] w fun e h=>e= .returned (.slice (some ⟨b,a,none⟩) (compactUpTo d d.size).length c)/\∃q,h=putRow encStr (Sort.ahead w q) b a (compactUpTo d d.size++List.replicate (d.size - (compactUpTo d d.size).length) []).toArray:=AnyG.slices_Compact_string_arr Tryz.laysCut b a c d w i g f
theorem Tryz.cut_none (a:Option Addr) (b:Nat) (w:World):
  Calls Tryz.prog 158 #[.slice a 0 b] w fun e c=>e= .returned (.slice a 0 b)/\c=w:=AnyG.slices_Compact_string_empty Tryz.laysCut a b w
end Go.Proofs

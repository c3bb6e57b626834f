/- profile.texts: its iterator. -/
import Derived.RangeFuncBox
import Derived.RangeFuncNested
import Derived.RangeFuncLeaves
import Derived.Shelf.Abstract
import Derived.WalkKit
import Derived.OwnWalkIn
import Derived.TacticsInMore
import Derived.LoopNIn
import Derived.LoopIn
import Derived.Maps.OwnIn
import Derived.Test.YtdmabekeafhflaaGreatDoorProg
set_option linter.unusedVariables false
set_option linter.unusedSimpArgs false
set_option linter.unusedSectionVars false
namespace Go.Proofs
open Go.RowKit Go.Shelf
attribute [local go_sem] Oper.semAt_some
abbrev Txt:={x:List UInt8 // x.length≤9223372036854775807}
def Txt.val (x:Txt):Value:= .string ⟨x.1.toArray⟩
def tx (l:List (Bool×Txt)):List Txt:=(l.filter fun p=> !p.1).map (·.2)
theorem ZMW {zs:List (Bool×Txt)} {k:Nat} {p:Bool×Txt} (h:zs[k]? =some p):tx (zs.take (k+1))=tx (zs.take k)++(if p.1 then []else [p.2]):=by
 have hk:=(List.getElem?_eq_some_iff.1 h).1;have:zs[k]=p:=(List.getElem?_eq_some_iff.1 h).2;rw[List.take_succ_eq_append_getElem hk,this];unfold tx;rw[List.filter_append,List.map_append];congr 1;cases p with
 |mk b t=>cases b<;>rfl
theorem ZL0 (l:List (Bool×Txt)):(tx l).length≤l.length:=by unfold tx;rw[List.length_map];exact List.length_filter_le _ _
def ZGF (n₀:Nat) (W:World) (sv:Value) (zs:List (Bool×Txt)):Prop:=
 ∃a cap,sv= .slice a zs.length cap∧(zs≠[]→∃b off,a=some ⟨b,off,none⟩∧b < n₀∧
  ∀j p,zs[j]? =some p→W.cell? ⟨b,off+j*2,none⟩=some (.bool p.1)∧W.cell? ⟨b,off+j*2+1,none⟩=some (Txt.val p.2))
theorem ZGF.below {n₀:Nat} {A B:World} (h:Below n₀ A B) {sv:Value} {zs:List (Bool×Txt)} (hp:ZGF n₀ A sv zs):ZGF n₀ B sv zs:=by obtain⟨a,cap,e,hc⟩:=hp;refine⟨a,cap,e,fun hne=> ?_⟩;obtain⟨b,off,ea,hb,hcs⟩:=hc hne;refine⟨b,off,ea,hb,fun j p hj=> ?_⟩;obtain⟨c0,c1⟩:=hcs j p hj;exact⟨(h.cell (p:=⟨b,off+j*2,none⟩) hb).trans c0,(h.cell (p:=⟨b,off+j*2+1,none⟩) hb).trans c1⟩
theorem ZGF.mono {n₀ n₁:Nat} (h:n₀≤n₁) {W:World} {sv:Value} {zs:List (Bool×Txt)} (hp:ZGF n₀ W sv zs):ZGF n₁ W sv zs:=by obtain⟨a,cap,e,hc⟩:=hp;refine⟨a,cap,e,fun hne=> ?_⟩;obtain⟨b,off,ea,hb,hcs⟩:=hc hne;exact⟨b,off,ea,Nat.lt_of_lt_of_le hb h,hcs⟩
set_option maxRecDepth 100000 in
set_option maxHeartbeats 2000000 in
theorem Tryz.texts1_in (F:Fence) (n:Nat) (hf:F.fn 171) (hro:F.round=none) (hn:1≤n) (l Bs n₀ b off cap:Nat) (zs:List (Bool×Txt)) (hreach:zs.length≤1099511627776) (hb:b < n₀) (hBn:Bs < n₀) (J Jx:List Txt→World→Prop)
  (hY:∀pre x W,J pre W→pre.length < zs.length→YieldAt F (n - 1) Tryz.prog l #[Txt.val x] W fun e W'=>
   (e= .returned (.bool true)∧J (pre++[x]) W'∧Below n₀ W W')∨(e= .returned (.bool false)∧Jx (pre++[x]) W'))
  (W:World) (hJ:AbidesFrom W.heap.size J) (hnW:n₀≤W.heap.size) (hBs:W.cell? ⟨Bs,1,none⟩=some (.slice (some ⟨b,off,none⟩) zs.length cap))
  (hc:∀j p,zs[j]? =some p→W.cell? ⟨b,off+j*2,none⟩=some (.bool p.1)∧W.cell? ⟨b,off+j*2+1,none⟩=some (Txt.val p.2)) (h0:J [] W):
  CallsIn F n Tryz.prog 171 #[.func (.yield l) #[] #[],.pointer (some ⟨Bs,0,none⟩)] W fun e W'=>(∃v,e= .returned v)∧
   (J (tx zs) W'∨(∃k,Jx (tx (zs.take k)) W')):=by
 refine callsIn_of_wp Tryz.func171 rfl hf ?_ hro;simp only[Tryz.ntmps171,List.size_toArray,List.length_cons,List.length_nil,Nat.reduceAdd,Nat.reduceSub,Array.replicate_succ,Array.replicate_zero,List.push_toArray,List.append_toArray,List.nil_append,List.cons_append]
 gi_wp2
 gi_loopw [8] (fun i wr=>∃k:Nat,k≤zs.length∧i= .int .i64 k∧J (tx (zs.take k)) wr∧Below n₀ W wr)
  (fun i _=>zs.length - (intOf i).toNat)
 case atStart=>exact⟨0,Nat.zero_le _,rfl,h0,Below.refl _ _⟩
 case round=>
  obtain⟨k,hk,rfl,hJs,hnx⟩:=hrel
  by_cases hlt:k < zs.length
  ·obtain⟨⟨nul,t⟩,hp⟩:∃p,zs[k]? =some p:=⟨_,List.getElem?_eq_getElem hlt⟩;obtain⟨c0,c1⟩:=hc k _ hp;have d0:=(hnx.cell (p:=⟨b,off+k*2,none⟩) hb).trans c0;have d1:=(hnx.cell (p:=⟨b,off+k*2+1,none⟩) hb).trans c1;have hts:=ZMW hp;have hJ2:J (tx (zs.take k)) (wr.alloc (.cells #[.bool nul,Txt.val t] 50)):=hJ _ wr _ none hJs (World.grownBy_alloc _ _ none) (fun r e=>by cases e);have hB2:Below n₀ W (wr.alloc (.cells #[.bool nul,Txt.val t] 50)):=hnx.alloc (by have:=hnx.size;omega) _;obtain⟨fn,tmps,assign,body,hy,hR⟩:=hY _ t _ hJ2 (by have:=ZL0 (zs.take k);rw[List.length_take]at this;omega);dsimp only[Txt.val]at d0 d1 hy hR hJ2 hB2;cases nul with
   |true=>
    gi_wp2
    refine⟨fun _ h=>(by cases h), ?_⟩
    gi_wp2
    go_roundw
    case rel=>exact⟨k+1,by omega,by simp,by rw[hts,if_pos (by trivial),List.append_nil];exact hJ2,hB2⟩
    case measure=>simp[intOf];omega
   |false=>
    gi_wp2
    refine hR.mono ?_;rintro e W3 (⟨rfl,hJ3,hk3⟩ |⟨rfl,hJx3⟩)
    ·gi_wp2
     go_roundw
     case rel=>exact⟨k+1,by omega,by simp,by rw[hts,if_neg (by simp)];exact hJ3,hB2.trans hk3⟩
     case measure=>simp[intOf];omega
    ·gi_wp2
     refine bodyPost_ret (results_none rfl _ _ _) rfl ?_;exact⟨⟨_,rfl⟩,.inr ⟨k+1,by rw[hts,if_neg (by simp)];exact hJx3⟩⟩
  ·obtain rfl:k=zs.length:=by omega
   gi_wp2
   go_end0
   rw[List.take_length]at hJs;exact⟨⟨_,rfl⟩,.inl hJs⟩
set_option maxRecDepth 100000 in
set_option maxHeartbeats 1000000 in
theorem Tryz.texts1_nil_in (F:Fence) (n:Nat) (hf:F.fn 171) (hro:F.round=none) (l Bs:Nat) (a:Option Addr) (cap:Nat) (J:List Txt→World→Prop) (W:World) (hBs:W.cell? ⟨Bs,1,none⟩=some (.slice a 0 cap)) (h0:J [] W):
  CallsIn F n Tryz.prog 171 #[.func (.yield l) #[] #[],.pointer (some ⟨Bs,0,none⟩)] W fun e W'=>(∃v,e= .returned v)∧J [] W':=by
 refine callsIn_of_wp Tryz.func171 rfl hf ?_ hro;simp only[Tryz.ntmps171,List.size_toArray,List.length_cons,List.length_nil,Nat.reduceAdd,Nat.reduceSub,Array.replicate_succ,Array.replicate_zero,List.push_toArray,List.append_toArray,List.nil_append,List.cons_append]
 gi_wp2
 gi_loopw [8] (fun i wr=>i= .int .i64 0∧J [] wr) (fun _ _=>0)
 case atStart=>exact⟨rfl,h0⟩
 case round=>
  obtain⟨rfl,hJs⟩:=hrel
  gi_wp2
  go_end0
  exact⟨⟨_,rfl⟩,hJs⟩
theorem Tryz.texts_stops (F:Fence) (n:Nat) (hf:F.fn 171) (hro:F.round=none) (hn:1≤n) (Bs n₀:Nat) (sv:Value) (zs:List (Bool×Txt)) (hreach:zs.length≤1099511627776) (w:World) (hBs:Bs < w.heap.size) (hBn:Bs < n₀) (hn₀:n₀≤w.heap.size)
  (hc:w.cell? ⟨Bs,1,none⟩=some sv) (hI:ZGF n₀ w sv zs):
  SeqStopsK F n Tryz.prog 171 #[.pointer (some ⟨Bs,0,none⟩)] (fun x:Txt=> #[Txt.val x]) (Below n₀) (fun ys=>ys=tx zs) (fun _=>True) zs.length w:=fun l J Jx W hW hJ _ hY h0=>by
 have hc':=(hW.cell (p:=⟨Bs,1,none⟩) hBs).trans hc;obtain⟨a,cap,rfl,hcs⟩:=hI.below (hW.mono hn₀);cases hz:zs with
 |nil=>
  subst hz;exact(Tryz.texts1_nil_in F n hf hro l Bs a cap J W hc' h0).mono fun e W' ⟨he,hj⟩=>⟨he,.inl ⟨_,rfl,hj⟩⟩
 |cons z l'=>
  have hne:zs≠[]:=by rw[hz];simp
  rw[←hz];obtain⟨b,off,rfl,hb,hcs⟩:=hcs hne;refine(Tryz.texts1_in F n hf hro hn l Bs n₀ b off cap zs hreach hb hBn J Jx hY W hJ (Nat.le_trans hn₀ hW.size) hc' hcs h0).mono ?_;rintro e W' ⟨he,hj |⟨k,hj⟩⟩
  ·exact⟨he,.inl ⟨_,rfl,hj⟩⟩
  ·exact⟨he,.inr ⟨_,trivial,hj⟩⟩
set_option maxHeartbeats 1000000 in
theorem Tryz.texts_in (F:Fence) (n:Nat) (hf:F.fn 127) (hro:F.round=none) (nm sv:Value) (h1:nm.oneCell'=true) (h2:sv.oneCell'=true) (w:World):
  CallsIn F n Tryz.prog 127 #[.agg #[nm,sv]] w fun e w'=>e= .returned (.func (.func 171) #[] #[.pointer (some ⟨w.heap.size,0,none⟩)])∧w'=w.alloc (.cells #[nm,sv] 48):=by
 refine callsIn_of_wp Tryz.func127 rfl hf ?_ hro;simp only[Tryz.ntmps127,List.size_toArray,List.length_cons,List.length_nil,Nat.reduceAdd,Nat.reduceSub,Array.replicate_succ,Array.replicate_zero,List.push_toArray,List.append_toArray,List.nil_append,List.cons_append]
 gi_wp2
 go_ret
 exact⟨rfl,rfl⟩
end Go.Proofs

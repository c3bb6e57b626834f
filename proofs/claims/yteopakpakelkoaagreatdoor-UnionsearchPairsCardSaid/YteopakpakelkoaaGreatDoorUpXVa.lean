/- profile.texts: its iterator. -/
import Derived.RangeFuncBox
import Derived.RangeFuncNested
import Derived.RangeFuncLeaves
import Derived.Shelf.Abstract
import Derived.WalkKit
import Derived.OwnWalkIn
import Derived.TacticsInMore
import Derived.LoopNIn
import Derived.LoopIn
import Derived.Maps.OwnIn
import Derived.Test.YteopakpakelkoaaGreatDoorProg
set_option linter.all false
namespace Go.Proofs
open Go.RowKit Go.Shelf
attribute [local go_sem] Oper.semAt_some
abbrev Txt:={x:List UInt8 // x.length<=9223372036854775807}
def Txt.val (x:Txt):Value:= .string ⟨x.1.toArray⟩
def tx (l:List (Bool×Txt)):List Txt:=(l.filter fun p=> !p.1).map (·.2)
theorem ZSk {a:List (Bool×Txt)} {k:Nat} {p:Bool×Txt} (h:a[k]? =some p):tx (a.take (k+1))=tx (a.take k)++(if p.1 then []else [p.2]):=by
 have c:=(List.getElem?_eq_some_iff.1 h).1;have:a[k]=p:=(List.getElem?_eq_some_iff.1 h).2;rw[List.take_succ_eq_append_getElem c,this];unfold tx;rw[List.filter_append,List.map_append];congr 1;cases p with
 |mk b t=>cases b<;>rfl
theorem ZRk (l:List (Bool×Txt)):(tx l).length<=l.length:=by unfold tx;rw[List.length_map];exact List.length_filter_le _ _
def ZLd (d:Nat) (W:World) (g:Value) (e:List (Bool×Txt)):Prop:=
 ∃a f,g= .slice a e.length f/\(e≠[]->∃b c,a=some ⟨b,c,none⟩/\b < d/\
  ∀j p,e[j]? =some p->W.cell? ⟨b,c+j*2,none⟩=some (.bool p.1)/\W.cell? ⟨b,c+j*2+1,none⟩=some (Txt.val p.2))
theorem ZLd.below {c:Nat} {A B:World} (h:Below c A B) {l:Value} {m:List (Bool×Txt)} (t:ZLd c A l m):ZLd c B l m:=by obtain⟨a,i,e,q⟩:=t;refine⟨a,i,e,fun k=> ?_⟩;obtain⟨b,d,n,f,g⟩:=q k;refine⟨b,d,n,f,fun j p o=> ?_⟩;obtain⟨r,s⟩:=g j p o;exact⟨(h.cell (p:=⟨b,d+j*2,none⟩) f).trans r,(h.cell (p:=⟨b,d+j*2+1,none⟩) f).trans s⟩
theorem ZLd.mono {d c:Nat} (h:d<=c) {W:World} {k:Value} {l:List (Bool×Txt)} (p:ZLd d W k l):ZLd c W k l:=by obtain⟨a,i,e,o⟩:=p;refine⟨a,i,e,fun j=> ?_⟩;obtain⟨b,f,m,n,g⟩:=o j;exact⟨b,f,m,Nat.lt_of_lt_of_le n h,g⟩
set_option maxRecDepth 100000 in
set_option maxHeartbeats 2000000 in
theorem Tryz.texts1_in (F:Fence) (n:Nat) (hf:F.fn 200) (hro:F.round=none) (hn:1<=n) (l Bs n₀ b off cap:Nat) (zs:List (Bool×Txt)) (hreach:zs.length<=1099511627776) (hb:b < n₀) (hBn:Bs < n₀) (J Jx:List Txt->World->Prop)
  (hY:∀pre x W,J pre W->pre.length < zs.length->YieldAt F (n - 1) Tryz.prog l #[Txt.val x] W fun e W'=>
   (e= .returned (.bool true)/\J (pre++[x]) W'/\Below n₀ W W')\/(e= .returned (.bool false)/\Jx (pre++[x]) W'))
  (W:World) (hJ:AbidesFrom W.heap.size J) (hnW:n₀<=W.heap.size) (hBs:W.cell? ⟨Bs,1,none⟩=some (.slice (some ⟨b,off,none⟩) zs.length cap))
  (hc:∀j p,zs[j]? =some p->W.cell? ⟨b,off+j*2,none⟩=some (.bool p.1)/\W.cell? ⟨b,off+j*2+1,none⟩=some (Txt.val p.2)) (h0:J [] W):
  CallsIn F n Tryz.prog 200 #[.func (.yield l) #[] #[],.pointer (some ⟨Bs,0,none⟩)] W fun e W'=>(∃v,e= .returned v)/\
   (J (tx zs) W'\/(∃k,Jx (tx (zs.take k)) W')):=by
 refine callsIn_of_wp Tryz.func200 rfl hf ?_ hro;simp only[Tryz.ntmps200,List.size_toArray,List.length_cons,List.length_nil,Nat.reduceAdd,Nat.reduceSub,Array.replicate_succ,Array.replicate_zero,List.push_toArray,List.append_toArray,List.nil_append,List.cons_append]
 gi_wp2
 gi_loopw [8] (fun i wr=>∃k:Nat,k<=zs.length/\i= .int .i64 k/\J (tx (zs.take k)) wr/\Below n₀ W wr)
  (fun i _=>zs.length - (intOf i).toNat)
 case atStart=>exact⟨0,Nat.zero_le _,rfl,h0,Below.refl _ _⟩
 case round=>
  obtain⟨k,hk,rfl,hJs,hnx⟩:=hrel
  by_cases hlt:k < zs.length
  ·obtain⟨⟨nul,t⟩,hp⟩:∃p,zs[k]? =some p:=⟨_,List.getElem?_eq_getElem hlt⟩;obtain⟨c0,c1⟩:=hc k _ hp;have d0:=(hnx.cell (p:=⟨b,off+k*2,none⟩) hb).trans c0;have d1:=(hnx.cell (p:=⟨b,off+k*2+1,none⟩) hb).trans c1;have hts:=ZSk hp;have hJ2:J (tx (zs.take k)) (wr.alloc (.cells #[.bool nul,Txt.val t] 64)):=hJ _ wr _ none hJs (World.grownBy_alloc _ _ none) (fun r e=>by cases e);have hB2:Below n₀ W (wr.alloc (.cells #[.bool nul,Txt.val t] 64)):=hnx.alloc (by have:=hnx.size;omega) _;obtain⟨fn,tmps,assign,body,hy,hR⟩:=hY _ t _ hJ2 (by have:=ZRk (zs.take k);rw[List.length_take]at this;omega);dsimp only[Txt.val]at d0 d1 hy hR hJ2 hB2;cases nul with
   |true=>
    gi_wp2
    refine⟨fun _ h=>(by cases h), ?_⟩
    gi_wp2
    go_roundw
    case rel=>exact⟨k+1,by omega,by simp,by rw[hts,if_pos (by trivial),List.append_nil];exact hJ2,hB2⟩
    case measure=>simp[intOf];omega
   |false=>
    gi_wp2
    refine hR.mono ?_;rintro e W3 (⟨rfl,hJ3,hk3⟩ |⟨rfl,hJx3⟩)
    ·gi_wp2
     go_roundw
     case rel=>exact⟨k+1,by omega,by simp,by rw[hts,if_neg (by simp)];exact hJ3,hB2.trans hk3⟩
     case measure=>simp[intOf];omega
    ·gi_wp2
     refine bodyPost_ret (results_none rfl _ _ _) rfl ?_;exact⟨⟨_,rfl⟩,.inr ⟨k+1,by rw[hts,if_neg (by simp)];exact hJx3⟩⟩
  ·obtain rfl:k=zs.length:=by omega
   gi_wp2
   go_end0
   rw[List.take_length]at hJs;exact⟨⟨_,rfl⟩,.inl hJs⟩
set_option maxRecDepth 100000 in
set_option maxHeartbeats 1000000 in
theorem Tryz.texts1_nil_in (F:Fence) (n:Nat) (hf:F.fn 200) (hro:F.round=none) (l Bs:Nat) (a:Option Addr) (cap:Nat) (J:List Txt->World->Prop) (W:World) (hBs:W.cell? ⟨Bs,1,none⟩=some (.slice a 0 cap)) (h0:J [] W):
  CallsIn F n Tryz.prog 200 #[.func (.yield l) #[] #[],.pointer (some ⟨Bs,0,none⟩)] W fun e W'=>(∃v,e= .returned v)/\J [] W':=by
 refine callsIn_of_wp Tryz.func200 rfl hf ?_ hro;simp only[Tryz.ntmps200,List.size_toArray,List.length_cons,List.length_nil,Nat.reduceAdd,Nat.reduceSub,Array.replicate_succ,Array.replicate_zero,List.push_toArray,List.append_toArray,List.nil_append,List.cons_append]
 gi_wp2
 gi_loopw [8] (fun i wr=>i= .int .i64 0/\J [] wr) (fun _ _=>0)
 case atStart=>exact⟨rfl,h0⟩
 case round=>
  obtain⟨rfl,hJs⟩:=hrel
  gi_wp2
  go_end0
  exact⟨⟨_,rfl⟩,hJs⟩
theorem Tryz.texts_stops (F:Fence) (n:Nat) (y:F.fn 200) (m:F.round=none) (K:1<=n) (Bs c:Nat) (B:Value) (g:List (Bool×Txt)) (f:g.length<=1099511627776) (w:World) (s:Bs < w.heap.size) (u:Bs < c) (d:c<=w.heap.size)
  (I:w.cell? ⟨Bs,1,none⟩=some B) (D:ZLd c w B g):
  SeqStopsK F n Tryz.prog 200 #[.pointer (some ⟨Bs,0,none⟩)] (fun x:Txt=> #[Txt.val x]) (Below c) (fun C=>C=tx g) (fun _=>True) g.length w:=fun l J Jx W r G _ H A=>by
 have o:=(r.cell (p:=⟨Bs,1,none⟩) s).trans I;obtain⟨a,i,rfl,h⟩:=D.below (r.mono d);cases hz:g with
 |nil=>
  subst hz;exact(Tryz.texts1_nil_in F n y m l Bs a i J W o A).mono fun e W' ⟨q,j⟩=>⟨q,.inl ⟨_,rfl,j⟩⟩
 |cons z L=>
  have t:g≠[]:=by rw[hz];simp
  rw[<-hz];obtain⟨b,v,rfl,E,h⟩:=h t;refine(Tryz.texts1_in F n y m K l Bs c b v i g f E u J Jx H W G (Nat.le_trans d r.size) o h A).mono ?_;rintro e W' ⟨q,j |⟨k,j⟩⟩
  ·exact⟨q,.inl ⟨_,rfl,j⟩⟩
  ·exact⟨q,.inr ⟨_,trivial,j⟩⟩
set_option maxHeartbeats 1000000 in
theorem Tryz.texts_in (F:Fence) (n:Nat) (hf:F.fn 150) (hro:F.round=none) (nm sv:Value) (h1:nm.oneCell'=true) (h2:sv.oneCell'=true) (w:World):
  CallsIn F n Tryz.prog 150 #[.agg #[nm,sv]] w fun e w'=>e= .returned (.func (.func 200) #[] #[.pointer (some ⟨w.heap.size,0,none⟩)])/\w'=w.alloc (.cells #[nm,sv] 37):=by
 refine callsIn_of_wp Tryz.func150 rfl hf ?_ hro;simp only[Tryz.ntmps150,List.size_toArray,List.length_cons,List.length_nil,Nat.reduceAdd,Nat.reduceSub,Array.replicate_succ,Array.replicate_zero,List.push_toArray,List.append_toArray,List.nil_append,List.cons_append]
 gi_wp2
 go_ret
 exact⟨rfl,rfl⟩
end Go.Proofs

/- The engine, text 2: an abstract evaluator of Go code over pure data, proved sound. -/
import Derived.Test.YtpkmihjnkbkcjaaGreatDoorE1
import Derived.Laws.AppendOwn
import Derived.Laws.IdiomRangeMap
import Derived.Laws.RangeAny
import Derived.CallsIn
set_option linter.unusedVariables false
set_option linter.unusedSimpArgs false
set_option linter.unusedSectionVars false
open Array renaming getElem?_append→Znx, getElem?_eq_some_iff→Zm4, getElem?_modify→Zny, getElem?_toList→Znz, mem_iff_getElem→Zm6, mem_toList_iff→Zm7, toArray_toList→ZnA
open Bool renaming and_eq_true→Zm8, not_eq_true'→ZnB, or_eq_false_iff→ZnC
open List renaming all_eq_true→ZnD, any_eq_true→ZnE, cons_append→ZnF, contains_iff_mem→ZnG, eq_nil_of_length_eq_zero→ZnH, getElem?_append_left→ZnI, getElem?_append_right→ZnJ, getElem?_cons_succ→ZnK, getElem?_cons_zero→Znc, getElem?_eq_getElem→ZnL, getElem?_eq_some_iff→Zne, getElem?_map→Znf, getElem?_set_ne→ZnM, getElem?_set_self→ZnN, getElem?_take→Zng, length_replicate→ZnO, map_cons→Znh, mem_append→Zni, mem_append_left→ZnP, mem_append_right→ZnQ, mem_cons→Znj, mem_cons_of_mem→ZnR, mem_cons_self→Znk, mem_flatMap→Znl, mem_iff_getElem→ZnS, mem_map→ZnT, mem_of_getElem?→ZnU, mem_singleton→Znm, pairwise_iff_getElem→ZnV
open Nat renaming add_mul→Znp, add_zero→ZnW, le_refl→Znq, mul_le_mul_left→ZnX, mul_le_mul_right→Znr, one_mul→ZnY, zero_add→ZnZ
open Option renaming bind_some→Zn0, map_eq_some_iff→Znt, some.inj→Znu, some.injEq→Znv
open Prod renaming mk.injEq→Znw
namespace Eng
open Go
theorem ZV (b:Nat):∀(vs:List Value) (o:Nat) (w:World),(w.setCells b o vs).heap.size=w.heap.size
 | [],_,_=>rfl
 |v::r,o,w=>by rw[World.setCells,ZV b r];simp
theorem Zm (b:Nat):∀(vs:List Value) (o:Nat) (w:World) (k:Nat),k≠b→(w.setCells b o vs).heap[k]? =w.heap[k]?
 | [],_,_,_,_=>rfl
 |v::r,o,w,k,h=>by rw[World.setCells,Zm b r _ _ k h];simp only[World.setCell];rw[Zny];simp[Ne.symm h]
theorem Z5 {w:World} {b o:Nat} {vs:List Value} (hc:∀j,j < vs.length→(w.cell? ⟨b,o+j,none⟩).isSome=true) (m:Nat):
  (w.setCells b o vs).cell? ⟨b,m,none⟩=if o≤m∧m < o+vs.length then vs[m - o]? else w.cell? ⟨b,m,none⟩:=by
 by_cases h:o≤m∧m < o+vs.length
 ·rw[if_pos h];have:=World.cell?_setCells_in b vs o w hc (m - o) (by omega);rw[show o+(m - o)=m by omega]at this;rw[this];simp
 ·rw[if_neg h];exact World.cell?_setCells_out b vs o w _ (fun _ _=>by simp;omega)
section
variable {C:Ctx} {X:Nat→Prop} {ρ:Id→Option Lay} {S:Nat→Prop} {st:St} {a:Act} {w:World} {i:Nat} {o:Oper} {e:Eff}
theorem Zb2 {t:TypeId} {ti:TI} {b o':Nat} {v:Value} (hE:Zn C.E) (hty:C.E.ty t=some ti) (hl:v.cells.size=ti.size)
  (hc:∀j,j < v.cells.size→(w.cell? ⟨b,o'+j,none⟩).isSome=true) (hf:∀j,j < v.cells.size→w.frozen? ⟨b,o'+j,none⟩=false) (h1:∀u∈v.cells.toList,u.oneCell'=true):
  (Instr.storeAt t (.pointer (some ⟨b,o',none⟩)) v).run C.E.prog w= .ok () (w.setCells b o' v.cells.toList):=by
 have hst:=run_storeCells_cells (P:=C.E.prog) b o' v.cells.toList 0 w (by simpa using hc) (by simpa using hf) h1;have hsz:(Go.sizeOf t).run C.E.prog w= .ok ti.size w:=ZK hE hty w;simp only[ZnW]at hst;simp[Instr.storeAt,Instr.sureAddr,storeVar,hsz,hl,hst]
theorem Rep.putIn (h:Rep C X ρ S st a.tmps w) {t:Option Nat} (hi:¬X i) (ht:∀d,t=some d→d < C.E.nt) {id id2:Id} {i' sz c k lo lo':Nat} {out:Option Nat} {es cs l:List P} {L:Lay} {b:Nat} {v:Value}
  (hlk:st.objs id=some (.own sz c k es lo out)) (hlo:out=some i'∧i' < lo∧lo'=lo∨out=none∧lo=i'∧lo'=lo+1) (hlk2:st.objs id2=some (.arr k l false)) (hne:id2≠id) (hfz:st.fz id=false) (hfz2:st.fz id2=false) (hes:es[i']? =some (.agg cs))
  (hL:ρ id=some L) (hb:L.blk=some b) (hr:RelD w S ρ v (.sl id2 0 l.length)):
  ∃S',Rep C (fun j=>X j∨j=i) ρ S' (st.app i t {val:= .undef,wr:=[(id,.own sz c k (es.set i' (.agg (cs.set c (.sl k l)))) lo' none),(id2,.gone)]}) (a.put t undef).tmps (w.setCells b (L.base+i'*sz+c) [v]):=by
 obtain⟨κ,F⟩:=h.fam;obtain⟨L',hL',hsz,hel,hlc,hlm,hcz,hbn,hcells,hrel⟩:=h.objs id _ hlk (by simp);rw[hL]at hL';obtain rfl:=Znu hL';subst hsz;obtain⟨L2,hL2,hro2⟩:=h.objs id2 _ hlk2 (by simp);have h1v:Zbj v:=by cases hr;rfl
 have hie:i' < es.length:=(Zne.1 hes).1;have hmul:(i'+1)*L.sz≤L.cap*L.sz:=Znr _ (by omega);rw[Znp,ZnY]at hmul;have hnS:¬S b:=(h.own id _ L b hlk (by simp) hL hb).2.2.2 hfz;have hcs:∀m,m < [v].length→(w.cell? ⟨b,L.base+i'*L.sz+c+m,none⟩).isSome=true:=fun m hm=>by obtain⟨⟨v',q⟩,_⟩:=hcells b hb (i'*L.sz+c+m) (by simp at hm;omega);rw[show L.base+i'*L.sz+c+m=L.base+(i'*L.sz+c+m) by omega,q];rfl
 have hset:=fun m=>Z5 (w:=w) (b:=b) (o:=L.base+i'*L.sz+c) (vs:=[v]) hcs m
 have hat:(w.setCells b (L.base+i'*L.sz+c) [v]).cell? ⟨b,L.base+i'*L.sz+c,none⟩=some v:=by rw[hset,if_pos (by simp)];simp
 have hoff:∀m,m≠L.base+i'*L.sz+c→(w.setCells b (L.base+i'*L.sz+c) [v]).cell? ⟨b,m,none⟩=w.cell? ⟨b,m,none⟩:=fun m hm=>by rw[hset,if_neg (by simp only[List.length_cons,List.length_nil];omega)]
 have hoth:∀b',b'≠b→(w.setCells b (L.base+i'*L.sz+c) [v]).heap[b']? =w.heap[b']? :=fun b' hn=>Zm b _ _ _ b' hn
 have hfr:∀m,(w.setCells b (L.base+i'*L.sz+c) [v]).frozen? ⟨b,m,none⟩=w.frozen? ⟨b,m,none⟩:=fun m=>World.frozen?_setCells _ _ _ _ _
 have hsize:(w.setCells b (L.base+i'*L.sz+c) [v]).heap.size=w.heap.size:=ZV _ _ _ _;have hqt:ZP w (w.setCells b (L.base+i'*L.sz+c) [v]):=ZP.setCells _ _ _ _;have far:∀q j,q≠i'→j < L.sz→L.base+q*L.sz+j≠L.base+i'*L.sz+c:=fun q j hq hj=>by
  rcases Nat.lt_or_gt_of_ne hq with hlt |hgt
  ·have:(q+1)*L.sz≤i'*L.sz:=Znr _ hlt;rw[Znp,ZnY]at this;omega
  ·have:(i'+1)*L.sz≤q*L.sz:=Znr _ hgt;rw[Znp,ZnY]at this;omega
 generalize w.setCells b (L.base+i'*L.sz+c) [v]=w' at hset hat hoff hoth hfr hsize hqt;have kS:ZbQ S w w':=fun b' hb' _=>hoth b' fun e=>hnS (e▸hb')
 have mem2:∀id1 o,(id1,o)∈[(id,Obj.own L.sz c k (es.set i' (.agg (cs.set c (.sl k l)))) lo' none),(id2,Obj.gone)]→(id1=id∧o= .own L.sz c k (es.set i' (.agg (cs.set c (.sl k l)))) lo' none)∨(id1=id2∧o= .gone):=fun id1 o hm=>by simpa using hm
 refine h.stepG ρ hi ht (by omega) hqt (fun b' _ hn=>hoth b' fun e=>hn id _ L Znk hL (e▸hb)) (fun id1 o hm=> ?_) (fun _ _ h=>h) (fun _ h=> .inl h) (by simp) (fun _ _ hm=>by simp at hm) (fun _ _ _ _ _ _ _ hm=>by simp at hm)
  (fun id1 o L1 hm hg hL1 S' hS _=> ?_) (fun _ _ _ _ _=> .undef) (fun S' hS hS' _=> ?_)
 ·rcases mem2 _ _ hm with ⟨rfl,rfl⟩ |⟨rfl,rfl⟩
  ·exact⟨hfz,_,hlk,by simp⟩
  ·exact⟨hfz2,_,hlk2,by simp⟩
 ·rcases mem2 _ _ hm with ⟨rfl,rfl⟩ |⟨rfl,rfl⟩
  rotate_left
  ·exact absurd rfl hg
  rw[hL]at hL1;obtain rfl:=Znu hL1;refine⟨rfl,by simpa using hel,hlc,hlm,hcz,hbn,fun b1 hb1 m hm=> ?_,fun q e he=> ?_⟩
  ·rw[hb]at hb1;obtain rfl:=Znu hb1;rw[hfr];refine⟨?_,(hcells b hb m hm).2⟩
   by_cases hq:L.base+m=L.base+i'*L.sz+c
   ·rw[hq];exact⟨_,hat⟩
   ·rw[hoff _ hq];exact(hcells b hb m hm).1
  ·by_cases hq:q=i'
   ·subst hq;rw[ZnN hie]at he;cases he;obtain⟨cs0,l0,q1,q2,q3,q4⟩:=hrel q _ hes;simp only[P.agg.injEq]at q1;subst q1;refine⟨_,l,rfl,by simpa using q2,by rw[ZnN (by omega)],fun b1 hb1 j x u hx hu=> ?_⟩;rw[hb]at hb1;obtain rfl:=Znu hb1
    by_cases hj:j=c
    ·subst hj;rw[hat]at hu;obtain rfl:=Znu hu;exact⟨h1v,fun h=>h.elim (absurd rfl) fun h=>by omega⟩
    ·rw[ZnM (Ne.symm hj)]at hx;rw[hoff _ (by omega)]at hu;exact⟨(q4 b hb j x u hx hu).1,fun _=>((q4 b hb j x u hx hu).2 (.inl hj)).mono kS hS⟩
   ·rw[ZnM (Ne.symm hq)]at he;obtain⟨cs0,l0,q1,q2,q3,q4⟩:=hrel q e he;refine⟨cs0,l0,q1,q2,q3,fun b1 hb1 j x u hx hu=> ?_⟩;rw[hb]at hb1;obtain rfl:=Znu hb1;have hj:j < L.sz:=by have:=(Zne.1 hx).1;omega
    rw[hoff _ (far q j hq hj)]at hu;exact⟨(q4 b hb j x u hx hu).1,fun hj=>((q4 b hb j x u hx hu).2 (hj.imp id fun hj=>by omega)).mono kS hS⟩
 ·have hS0:∀b,S' b→S b:=fun b hb=>(hS' b hb).elim (fun h=>h) fun⟨_,_,_,hm,_⟩=>by simp at hm
  generalize he:(st.app i t {val:= .undef,wr:=[(id,.own L.sz c k (es.set i' (.agg (cs.set c (.sl k l)))) lo' none),(id2,.gone)]})=st2;have hob:∀id1 o,st2.objs id1=some o→(id1=id∧o= .own L.sz c k (es.set i' (.agg (cs.set c (.sl k l)))) lo' none)∨(id1=id2∧o= .gone)∨(id1≠id∧id1≠id2∧st.objs id1=some o):=by
   intro id1 o ho;rw[←he]at ho;rcases ZN st i t _ id1 o ho with ⟨k1,rfl,hm⟩ |hm |⟨hn,ho⟩
   ·simp at hm
   ·rcases mem2 _ _ hm with h1 |h1
    ·exact .inl h1
    ·exact .inr (.inl h1)
   ·exact .inr (.inr ⟨fun e=>hn (.own L.sz c k (es.set i' (.agg (cs.set c (.sl k l)))) lo' none) (by simp[e]),fun e=>hn .gone (by simp[e]),ho⟩)
  have hf2:∀id1,st2.fz id1=st.fz id1:=fun id1=>by rw[←he,ZbF];simp
  have ko:∀{id1 i1 sz1 c1 k1 l1},Kid st2.objs st2.fz id1 i1 sz1 c1 k1 l1→(id1=id∧i1=i'∧sz1=L.sz∧c1=c∧k1=k∧l1=l)∨(Kid st.objs st.fz id1 i1 sz1 c1 k1 l1∧¬(id1=id∧i1=i')):=by
   rintro id1 i1 sz1 c1 k1 l1 ⟨es1,lo1,out1,cs1,ho,hf,q1,q2,q0,q3⟩;rw[hf2]at hf;rcases hob _ _ ho with ⟨rfl,ho⟩ |⟨rfl,ho⟩ |⟨hne1,_,ho⟩
   ·simp only[Obj.own.injEq]at ho;obtain⟨rfl,rfl,rfl,rfl,rfl,rfl⟩:=ho
    by_cases hq:i1=i'
    ·subst hq;rw[ZnN hie]at q1;simp only[Znv,P.agg.injEq]at q1;subst q1;obtain⟨cs0,l0,r1,r2,_⟩:=hrel i1 _ hes;simp only[P.agg.injEq]at r1;subst r1;rw[ZnN (by omega)]at q2;simp only[Znv,P.sl.injEq]at q2;exact .inl ⟨rfl,rfl,rfl,rfl,rfl,q2.2.symm⟩
    ·rw[ZnM (Ne.symm hq)]at q1;exact .inr ⟨⟨es,lo,out,cs1,hlk,hf,q1,q2,by omega,fun e=>by rcases hlo with ⟨h1,_⟩ |⟨h1,_⟩<;>rw[h1]at e<;>simp at e;exact hq e.symm⟩,fun e=>hq e.2⟩
   ·simp at ho
   ·exact .inr ⟨⟨es1,lo1,out1,cs1,ho,hf,q1,q2,q0,q3⟩,fun e=>hne1 e.1⟩
  have kon:∀{id1 i1 sz1 c1 k1 l1 b1},Kid st.objs st.fz id1 i1 sz1 c1 k1 l1→(κ id1 i1).blk=some b1→b1≠b∧L2.blk≠some b1:=fun hk hb1=>
   have q:=(F.own _ _ _ _ _ _ _ hk hb1).2.2.2
   ⟨fun e=>q id _ L hlk (by simp) hL (e▸hb),q id2 _ L2 hlk2 (by simp) hL2⟩
  have l2b:L2.blk≠some b:=fun e=>hne (h.inj id2 _ L2 id _ L b hlk2 (by simp) hL2 e hlk (by simp) hL hb)
  have hroN:Zw w' S' (fun _=>none) L2 (.arr k l false):=by
   have:Zw w' S' ρ L2 (.arr k l false):=hro2.mono kS hS (fun _ _ h=>h) fun b' hb'=>hoth b' fun e=>l2b (e▸hb')
   exact this
  have hrN:RelD w' S' (fun _=>some L2) v (.sl (0,0,0) 0 l.length):=by
   cases hr with
   |sl _ _ _ cap ad Lk hLk hl hm hc ha=>
    rw[hL2]at hLk;obtain rfl:=Znu hLk;exact .sl _ _ _ cap ad _ rfl hl hm hc ha
  refine⟨fun id1 i1=>if id1=id∧i1=i' then L2 else κ id1 i1,fun id1 i1 sz1 c1 k1 l1 L1 hk1 hL1=> ?_,fun id1 i1 sz1 c1 k1 l1 b1 hk1 hb1=> ?_,fun id1 i1 sz1 c1 k1 l1 id3 i3 sz3 c3 k3 l3 b1 h1 h2 h3 h4=> ?_⟩
  ·rcases ko hk1 with ⟨rfl,rfl,rfl,rfl,rfl,rfl⟩ |⟨hk0,hn⟩
   ·simp only[and_self,if_true];rw[hL]at hL1;obtain rfl:=Znu hL1;exact⟨b,v,hb,hat,hrN,hroN⟩
   ·simp only[if_neg hn];obtain⟨b1,v1,q1,q2,q3,q4⟩:=F.kid _ _ _ _ _ _ L1 hk0 hL1;refine⟨b1,v1,q1, ?_,q3.mono kS hS (fun _ _ h=>h),q4.mono kS hS (fun _ _ h=>h) fun b' hb'=>hoth b' (kon hk0 hb').1⟩;have hk2:=hk0;obtain⟨es1,lo1,out1,cs1,ho,hf,p1,p2,p0,p3⟩:=hk2
    by_cases hbb:b1=b
    ·subst hbb;have:=h.inj id1 _ L1 id _ L b1 ho (by simp) hL1 q1 hlk (by simp) hL hb;subst this;rw[hL]at hL1;obtain rfl:=Znu hL1;rw[hlk]at ho;simp only[Znv,Obj.own.injEq]at ho;obtain⟨rfl,rfl,rfl,rfl,rfl,rfl⟩:=ho;rw[hoff _ (far i1 c (fun e=>hn ⟨rfl,e⟩) hcz)];exact q2
    ·rw[Z3 (hoth b1 hbb)];exact q2
  ·rcases ko hk1 with ⟨rfl,rfl,rfl,rfl,rfl,rfl⟩ |⟨hk0,hn⟩
   ·simp only[and_self,if_true]at hb1;obtain⟨q1,q2,_,q4⟩:=h.own id2 _ L2 b1 hlk2 (by simp) hL2 hb1;refine⟨by omega,q2,fun hs=>q4 hfz2 (hS0 _ hs),fun id3 o3 L3 ho3 hg3 hL3 hb3=> ?_⟩;rcases hob _ _ ho3 with ⟨rfl,ho⟩ |⟨rfl,ho⟩ |⟨_,hn2,ho⟩
    ·exact hne (h.inj id2 _ L2 id3 _ L3 b1 hlk2 (by simp) hL2 hb1 hlk (by simp) hL3 hb3)
    ·exact hg3 ho
    ·exact hn2 (h.inj id3 _ L3 id2 _ L2 b1 ho hg3 hL3 hb3 hlk2 (by simp) hL2 hb1)
   ·simp only[if_neg hn]at hb1;obtain⟨q1,q2,q3,q4⟩:=F.own _ _ _ _ _ _ b1 hk0 hb1;refine⟨by omega,q2,fun hs=>q3 (hS0 _ hs),fun id3 o3 L3 ho3 hg3 hL3 hb3=> ?_⟩;rcases hob _ _ ho3 with ⟨rfl,ho⟩ |⟨rfl,ho⟩ |⟨_,_,ho⟩
    ·exact q4 id3 _ L3 hlk (by simp) hL3 hb3
    ·exact hg3 ho
    ·exact q4 id3 o3 L3 ho hg3 hL3 hb3
  ·rcases ko h1 with ⟨rfl,rfl,rfl,rfl,rfl,rfl⟩ |⟨hk1,hn1⟩
   ·rcases ko h2 with ⟨rfl,rfl,_⟩ |⟨hk2,hn2⟩
    ·exact⟨rfl,rfl⟩
    ·simp only[and_self,if_true]at h3;simp only[if_neg hn2]at h4;exact absurd h3 (kon hk2 h4).2
   ·simp only[if_neg hn1]at h3;rcases ko h2 with ⟨rfl,rfl,_⟩ |⟨hk2,hn2⟩
    ·simp only[and_self,if_true]at h4;exact absurd h4 (kon hk1 h3).2
    ·simp only[if_neg hn2]at h4;exact F.inj _ _ _ _ _ _ _ _ _ _ _ _ b1 hk1 hk2 h3 h4
section
variable (h:Rep C X ρ S st a.tmps w) (hi:¬X i) (ht:∀d,o.dst=some d→d < C.E.nt) (hlit:o.op.operands.all ZD=true) (hE:Zn C.E)
include h hi ht hlit hE
theorem ZiZ {t:TypeId} {ad x:Operand} (ho:o.op= .store t ad x) (hc:Ze C.E st.ep i o.op o.type st.slots st.objs=some e) (hw:Zdq st e=true):Zx C X st a w i o e:=by
 rw[ho]at hc hlit;simp[Op.operands]at hlit;have h1:=Zk h 0 hlit.1;have h2:=Zk h t hlit.2;simp only[Ze]at hc;split at hc;rotate_left;simp at hc;rename_i ti hty;split at hc;rotate_left;simp at hc;rename_i id i' j hp;rw[hp]at h1;generalize hv:a.eval ad=pv at h1;cases h1 with
 |ptr _ _ _ L b hL hil hLb=>
 split at hc
 ·
  rename_i cs hlk;split at hc;rotate_left;simp at hc;rename_i hcnd;obtain⟨rfl,hl,hjl,hok⟩:=hcnd;cases hc;simp only[Nat.zero_mul,ZnW]at hv;obtain⟨hc1,hc2⟩:=Zeh h2 hok;obtain⟨L',hL',b',hLb',hsz,hln,hcell⟩:=h.objs id _ hlk (by simp);rw[hL]at hL';obtain rfl:=Znu hL';rw[hLb]at hLb';obtain rfl:=Znu hLb';have hfz:st.fz id=false:=by simpa[Zdq]using hw
  have hown:=h.own id _ L b hlk (by simp) hL hLb;have hnS:¬S b:=hown.2.2.2 hfz;have hat:∀(m:Nat) (hm:m < cs.length),∃v,w.cell? ⟨b,L.base+m,none⟩=some v∧w.frozen? ⟨b,L.base+m,none⟩=false∧Zbj v∧RelD w S ρ v cs[m]:=fun m hm=>hcell m cs[m] (by simp[hm])
  have hcs:∀m,m < (a.eval x).cells.size→(w.cell? ⟨b,L.base+j+m,none⟩).isSome=true:=fun m hm=>by obtain⟨v,q,_⟩:=hat (j+m) (by omega);rw[show L.base+j+m=L.base+(j+m) by omega,q];rfl
  have hrun:=Zb2 (w:=w) (b:=b) (o':=L.base+j) (v:=a.eval x) hE hty (by omega) hcs (fun m hm=>by
   obtain⟨v,_,q,_⟩:=hat (j+m) (by omega);rw[show L.base+j+m=L.base+(j+m) by omega];exact q) (fun u hu=>by
   obtain⟨m,hm,rfl⟩:=ZnS.1 hu;simp at hm;exact(hc2 m _ _ (by simp[hm]) (ZnL (by omega))).2)
  let w':=w.setCells b (L.base+j) (a.eval x).cells.toList;have hcell':=fun m=>Z5 (w:=w) (b:=b) (o:=L.base+j) (vs:=(a.eval x).cells.toList) (by simpa using hcs) m
  have kS:ZbQ S w w':=fun b' hb' _=>Zm b _ _ _ b' (fun e=>hnS (e▸hb'))
  let ds:=(ev C.E st.slots t x).cells;have hds:ds.length=(ev C.E st.slots t x).cells.length:=rfl;let ρ':Id→Option Lay:=fun id=>if id.1=st.ep∧id.2.1=i then Zjp ds 0 id.2.2 else ρ id
  have f:=h.fresh hi;have hρ:∀id L,ρ id=some L→ρ' id=some L:=by
   intro id L' hL;simp only[ρ'];split
   ·rename_i hc;obtain⟨ep,jj,k⟩:=id;simp only at hc;obtain⟨rfl,rfl⟩:=hc;rw[f k]at hL;simp at hL
   ·exact hL
  have hvl:∀k L,Zjp ds 0 k=some L→ρ' (st.ep,i,k)=some L:=fun k L' hk=>by simp[ρ',hk]
  have nv:∀k o L b,(k,o)∈ZU 0 ds→ρ' (st.ep,i,k)=some L→L.blk=some b→False:=by intro k o L b hm hL hb;obtain⟨h1,sz,h2,_⟩:=ZaE _ _ _ _ hm;rw[hvl _ ⟨none,0,sz,0,0⟩ (by simp[Zjp];rw[show k - 0=k by omega]at h2;rw[h2])]at hL;cases hL;simp at hb
  refine⟨.skip,undef,w', ?_,.inr ⟨rfl,rfl⟩,ρ',h.step ρ' hi ht (by rw[show w'.heap.size=w.heap.size from ZV _ _ _ _];exact Znq _) (ZP.setCells _ _ _ _) ?_ ?_ hρ ?_ (by simp) ?_ ?_ ?_ ?_ (ZdC _ _)⟩
  ·simp only[execOp,ho,hv,Sem.run_bind,hrun,Result.andThen_ok,Sem.run_pure];rfl
  ·intro b' hb' hne;exact Zm b _ _ _ b' (fun e=>hne id _ L (Znm.2 rfl) hL (e▸hLb))
  ·intro id' o' hm;simp only[Znm,Znw]at hm;obtain⟨rfl,rfl⟩:=hm;exact⟨hfz,_,hlk,by simp⟩
  ·intro id' hn;simp only[ρ']at hn;split at hn
   ·rename_i hc;exact .inr hc
   ·exact .inl hn
  ·intro k o' hm;obtain⟨h1,sz,h2,rfl⟩:=ZaE _ _ _ _ hm;refine⟨⟨none,0,sz,0,0⟩,hvl _ _ (by simp[Zjp];rw[show k - 0=k by omega]at h2;rw[h2]),by simp,fun S' _ _ _=>Zam sz false⟩
  ·intro k o1 L1 k' o2 L2 b1 hm _ hL1 hb1 _ _ _ _;exact(nv _ _ _ _ hm hL1 hb1).elim
  ·intro id' o' L1 hm _ hL1 S' hS _;simp only[Znm,Znw]at hm;obtain⟨rfl,rfl⟩:=hm;rw[hL]at hL1;obtain rfl:=Znu hL1;have hvlen:(ZeJ st.ep i 0 ds).length=ds.length:=Zdr _ _ _ _;have hsl:=ZbH cs j (ZeJ st.ep i 0 ds) (by rw[hvlen];exact hjl);refine⟨b,hLb,by rw[hsl];exact hsz,hln,fun m d hd=> ?_⟩;have hm:m < cs.length:=by have:m < (ZT cs j (ZeJ st.ep i 0 ds)).length:=(Zne.1 hd).1;omega
   rw[ZbI _ _ _ (by rw[hvlen];exact hjl)]at hd;obtain⟨v0,q1,q2,q3,q4⟩:=hat m hm;rw[show w'.frozen? ⟨b,L.base+m,none⟩=w.frozen? ⟨b,L.base+m,none⟩from World.frozen?_setCells _ _ _ _ _];rw[hcell' (L.base+m)]
   by_cases hin:j≤m∧m < j+ds.length
   ·rw[if_pos (by rw[hvlen];exact hin)]at hd;have hu:m - j < (a.eval x).cells.size:=by rw[hc1];omega
    rw[if_pos (by simp;omega)];have hu':m - j < ds.length:=by omega
    obtain⟨r1,r2⟩:=hc2 (m - j) (a.eval x).cells[m - j] ds[m - j] (by simp[hu]) (ZnL hu');obtain⟨d',hd',hr⟩:=ZhP (i:=i) (ep:=st.ep) (k0:=0) kS hS hρ hvl (ZnL hu':ds[m - j]? =some ds[m - j]) r1;rw[hd]at hd';obtain rfl:=Znu hd';refine⟨(a.eval x).cells[m - j], ?_,q2,r2,hr⟩;rw[show L.base+m - (L.base+j)=m - j by omega];simp[hu]
   ·rw[if_neg (by rw[hvlen];exact hin)]at hd;rw[if_neg (by simp;omega)];rw[ZnL hm]at hd;obtain rfl:=Znu hd;exact⟨v0,q1,q2,q3,q4.mono kS hS hρ⟩
  ·intro S' _ _ d _;exact .undef
 ·
  rename_i sz es fix hlk;split at hc;rotate_left;simp at hc;rename_i y hy;split at hc;rotate_left;simp at hc;rename_i hcnd;obtain⟨hyl,hjs,hpos⟩:=hcnd;cases hc;obtain⟨L',hL',hsz,hel,hlc,hlm,hbn,hcells,evs,hev,hcell,hrel⟩:=h.objs id _ hlk (by simp);rw[hL]at hL';obtain rfl:=Znu hL';subst hsz;have hids:=Zbn depth _ _ hy;have hapart:∀f,f∈(ev C.E st.slots t x).ids st.objs depth→id≠f:=by simp only[Zdq,Zm8,ZnD,Znm,forall_eq,decide_eq_true_eq]at hw;exact hw.2
  let FS:Nat→Prop:=fun b=>S b∨∃id' o L,id'∈(ev C.E st.slots t x).ids st.objs depth∧st.objs id'=some o∧o≠ .gone∧ρ id'=some L∧L.blk=some b
  have hvy:RelP w FS (a.eval x) y:=Zar (S':=FS) h.objs (fun b hb=> .inl hb) depth _ _ _ h2 hy (fun id' hid L b hL hb=>by obtain⟨o',q1,q2⟩:=hids id' hid;exact .inr ⟨id',o',L,hid,q1,q2,hL,hb⟩)
  have hvs:(a.eval x).cells.size=ti.size:=by rw[hvy.size];exact hyl
  have hfz:st.fz id=false:=by simp only[Zdq,Zm8,ZnD,Znm,forall_eq,ZnB]at hw;exact hw.1
  have hown:=h.own id _ L b hlk (by simp) hL hLb;have hnS:¬S b:=hown.2.2.2 hfz;have hblk:(i'+1)*L.sz≤L.cap*L.sz:=Znr _ (by omega);rw[Znp,ZnY]at hblk;have hcs:∀m,m < (a.eval x).cells.size→(w.cell? ⟨b,L.base+i'*L.sz+j+m,none⟩).isSome=true∧w.frozen? ⟨b,L.base+i'*L.sz+j+m,none⟩=false:=fun m hm=>by obtain⟨⟨v,q⟩,q2⟩:=hcells b hLb (i'*L.sz+j+m) (by omega);rw[show L.base+i'*L.sz+j+m=L.base+(i'*L.sz+j+m) by omega,q,q2];exact⟨rfl,rfl⟩
  have h1c:∀u∈(a.eval x).cells.toList,u.oneCell'=true:=fun u hu=>by obtain⟨m,hm,rfl⟩:=ZnS.1 hu;simp at hm;exact(hvy.cell (j:=m) (u:=(a.eval x).cells[m]) (c:=y.cells[m]'(by omega)) (by simp[hm]) (ZnL (by omega))).2
  have hrun:=Zb2 (w:=w) (b:=b) (o':=L.base+i'*L.sz+j) (v:=a.eval x) hE hty hvs (fun m hm=>(hcs m hm).1) (fun m hm=>(hcs m hm).2) h1c;let w':=w.setCells b (L.base+i'*L.sz+j) (a.eval x).cells.toList;have hcell':=fun m=>Z5 (w:=w) (b:=b) (o:=L.base+i'*L.sz+j) (vs:=(a.eval x).cells.toList) (by simpa using fun m hm=>(hcs m hm).1) m
  have kS:ZbQ S w w':=fun b' hb' _=>Zm b _ _ _ b' (fun e=>hnS (e▸hb'))
  refine⟨.skip,undef,w', ?_,.inr ⟨rfl,rfl⟩,ρ,h.step ρ hi ht (by rw[show w'.heap.size=w.heap.size from ZV _ _ _ _];exact Znq _) (ZP.setCells _ _ _ _) ?_ ?_ (fun _ _ h=>h) (fun id h=> .inl h) ?_ (fun _ _ hm=>by simp at hm) (fun _ _ _ _ _ _ _ hm=>by simp at hm) ?_ ?_⟩
  ·simp only[execOp,ho,hv,Sem.run_bind,hrun,Result.andThen_ok,Sem.run_pure];rfl
  ·intro b' hb' hne;exact Zm b _ _ _ b' (fun e=>hne id _ L (Znm.2 rfl) hL (e▸hLb))
  ·intro id' o' hm;simp only[Znm,Znw]at hm;obtain⟨rfl,rfl⟩:=hm;exact⟨hfz,_,hlk,by simp⟩
  ·intro id' hid;obtain⟨o',q1,q2⟩:=hids id' hid;obtain⟨L',hL',_⟩:=h.objs id' o' q1 q2;refine⟨by simp[hL'],fun o'' hm=> ?_⟩;simp only[Znm,Znw]at hm;obtain⟨rfl,_⟩:=hm;exact hapart _ hid rfl
  ·intro id' o' L1 hm _ hL1 S' hS hF;simp only[Znm,Znw]at hm;obtain⟨rfl,rfl⟩:=hm;rw[hL]at hL1;obtain rfl:=Znu hL1;have hie:i' < es.length:=by omega
   have hge:es.getD i' default=es[i']:=by simp[hie]
   have hFS:∀b,FS b→S' b:=fun b hb=>by
    rcases hb with hb |⟨idq,o',L,q1,q2,q3,q4,q5⟩
    ·exact hS b hb
    ·exact hF idq q1 o' L b q2 q3 q4 q5
   have kF:ZbQ FS w w':=fun b' hb' hlt=>by
    refine Zm b _ _ _ b' (fun e=> ?_);subst e;rcases hb' with hb |⟨idq,o',L',q1,q2,q3,q4,q5⟩
    ·exact hnS hb
    ·have:=h.inj idq o' L' id' _ L b' q2 q3 q4 q5 hlk (by simp) hL hLb;subst this;exact hapart _ q1 rfl
   have hri:=hrel i' es[i'] (by simp[hie]);have hsi:=hri.size;have hevi:=hev i' hil;have hput:∃v':Value,v'.cells.size=L.sz∧(∀(k:Nat) u,v'.cells[k]? =some u→w'.cell? ⟨b,L.base+i'*L.sz+k,none⟩=some u)∧RelP w' S' v' (es[i'].put L.sz j y):=by
    have hold:∀(k:Nat) u,(evs i').cells[k]? =some u→w.cell? ⟨b,L.base+i'*L.sz+k,none⟩=some u:=fun k u hu=>hcell b hLb i' k u hil hu
    unfold P.put;split
    ·rename_i hwhole;obtain⟨rfl,hws⟩:=hwhole;refine⟨a.eval x,by omega,fun k u hu=> ?_,hvy.mono kF hFS⟩;have hk:k < (a.eval x).cells.size:=(Zm4.1 hu).1;rw[hcell',if_pos (by simp;omega)];rw[show L.base+i'*L.sz+k - (L.base+i'*L.sz+0)=k by omega];simpa using hu
    ·rename_i hpart;have hbig:2≤L.sz:=by
      rcases Nat.lt_or_ge L.sz 2 with hlt |hge
      ·exact absurd ⟨by omega,by omega⟩ hpart
      ·exact hge
     generalize hex:es[i']=ex at hri hsi;generalize hevv:evs i'=ev' at hri hsi hevi hold;cases hri with
     |agg vs cs hl ho hr=>
      dsimp only;have hcl:cs.length=L.sz:=by rw[←hl];simpa[Value.cells]using hevi
      obtain⟨g1,g2⟩:=Zd6 j (a.eval x).cells vs;generalize (a.eval x).cells.zipIdx.foldl (fun cs (c,m)=>cs.setIfInBounds (j+m) c) vs=nv at g1 g2;have hold:∀(k:Nat) u,vs[k]? =some u→w.cell? ⟨b,L.base+i'*L.sz+k,none⟩=some u:=hold;refine⟨.agg nv,show nv.size=L.sz by omega,fun k u hu=> ?_, ?_⟩
      ·replace hu:nv[k]? =some u:=hu;rw[g2]at hu;rw[hcell']
       by_cases hin:j≤k∧k < j+(a.eval x).cells.size
       ·rw[if_pos ⟨hin.1,hin.2,by omega⟩]at hu;rw[if_pos (by simp;omega),show L.base+i'*L.sz+k - (L.base+i'*L.sz+j)=k - j by omega];simpa using hu
       ·rw[if_neg (by omega)]at hu;rw[if_neg (by simp;omega)];exact hold k u hu
      ·have hsp:=ZbH cs j y.cells (by omega);refine .agg _ _ (by rw[g1,hsp];exact hl) (fun k u hu=> ?_) (fun k u c hu hc=> ?_)
       ·rw[g2]at hu
        by_cases hin:j≤k∧k < j+(a.eval x).cells.size∧k < vs.size
        ·rw[if_pos hin]at hu;exact h1c u (by have:=Array.mem_of_getElem? hu;simpa using this)
        ·rw[if_neg hin]at hu;exact ho k u hu
       ·rw[g2]at hu;rw[ZbI _ _ _ (by omega)]at hc
        by_cases hin:j≤k∧k < j+(a.eval x).cells.size
        ·rw[if_pos ⟨hin.1,hin.2,by omega⟩]at hu;rw[if_pos (by omega)]at hc;exact((hvy.cell hu hc).1).mono kF hFS
        ·rw[if_neg (by omega)]at hu;rw[if_neg (by omega)]at hc;exact(hr k u c hu hc).mono kS hS
     |_=>simp[P.cells]at hsi;omega
   obtain⟨v',p1,p2,p3⟩:=hput;have other:∀(q k:Nat),q≠i'→k < L.sz→w'.cell? ⟨b,L.base+q*L.sz+k,none⟩=w.cell? ⟨b,L.base+q*L.sz+k,none⟩:=by
    intro q k hq hk;rw[hcell',if_neg];simp only[Array.length_toList];rintro⟨r1,r2⟩;rcases Nat.lt_or_gt_of_ne hq with hlt |hgt
    ·have:(q+1)*L.sz≤i'*L.sz:=Znr _ hlt;rw[Znp,ZnY]at this;omega
    ·have:(i'+1)*L.sz≤q*L.sz:=Znr _ hgt;rw[Znp,ZnY]at this;omega
   refine⟨rfl,by simpa using hel,hlc,hlm,hbn,fun b1 hb1 m hm=> ?_,fun q=>if q=i' then v' else evs q,fun q hq=> ?_,fun b1 hb1 q k u hq hu=> ?_,fun q z hz=> ?_⟩
   ·rw[hLb]at hb1;obtain rfl:=Znu hb1;obtain⟨⟨v0,q1⟩,q2⟩:=hcells b hLb m hm;rw[show w'.frozen? ⟨b,L.base+m,none⟩=w.frozen? ⟨b,L.base+m,none⟩from World.frozen?_setCells _ _ _ _ _];refine⟨?_,q2⟩;rw[hcell']
    by_cases hin:L.base+i'*L.sz+j≤L.base+m∧L.base+m < L.base+i'*L.sz+j+(a.eval x).cells.toList.length
    ·rw[if_pos hin];exact⟨_,ZnL (by omega)⟩
    ·rw[if_neg hin];exact⟨v0,q1⟩
   ·by_cases hqi:q=i'
    ·simp only[hqi,if_true];exact p1
    ·simp only[hqi,if_false];exact hev q hq
   ·rw[hLb]at hb1;obtain rfl:=Znu hb1
    by_cases hqi:q=i'
    ·subst hqi;simp only[if_true]at hu;exact p2 k u hu
    ·simp only[hqi,if_false]at hu;have hk:k < L.sz:=by have:=(Zm4.1 hu).1;have:=hev q hq;omega
     rw[other q k hqi hk];exact hcell b hLb q k u hq hu
   ·by_cases hqi:q=i'
    ·subst hqi;rw[ZnN hie]at hz;simp only[Znv]at hz;rw[hge]at hz;subst hz;simpa using p3
    ·rw[ZnM (Ne.symm hqi)]at hz;simp only[hqi,if_false];exact(hrel q z hz).mono kS hS
  ·intro S' _ _ d _;exact .undef
 ·
  rename_i sz c k es lo out hlk;split at hc;rotate_left;simp at hc;rename_i id2 len hx;split at hc;rotate_left;simp at hc;rename_i k' l cs hlk2 hes;split at hc;rotate_left;simp at hc;rename_i hcnd;obtain⟨hlo,rfl,rfl,rfl,hs1,hag,hne⟩:=hcnd;cases hc;have hfz:st.fz id=false∧st.fz id2=false:=by simpa[Zdq]using hw
  rw[hx]at h2;obtain⟨L',hL',hsz,hel,hlc,hlm,hcz,hbn,hcells,hrel⟩:=h.objs id _ hlk (by simp);rw[hL]at hL';obtain rfl:=Znu hL';subst hsz;have hmul:(i'+1)*L.sz≤L.cap*L.sz:=Znr _ (by omega);rw[Znp,ZnY]at hmul;obtain⟨S',hrep⟩:=h.putIn (t:=o.dst) (lo':=loUp out lo) hi ht hlk (hlo.imp (fun h=>⟨h.1,h.2,by rw[h.1];rfl⟩) fun h=>⟨h.1,h.2,by rw[h.1];rfl⟩) hlk2 hne hfz.1 hfz.2 hes hL hLb h2;have hcv:(a.eval x).cells= #[a.eval x]:=by generalize a.eval x=v at h2;cases h2;rfl
  have h1v:(a.eval x).oneCell'=true:=by generalize a.eval x=v at h2;cases h2;rfl
  obtain⟨⟨v0,q⟩,q2⟩:=hcells b hLb (i'*L.sz+j) (by omega);rw[←Nat.add_assoc]at q q2;have hrun:=Zb2 (w:=w) (b:=b) (o':=L.base+i'*L.sz+j) (v:=a.eval x) hE hty (by rw[hcv,hs1];rfl) (fun m hm=>by
   rw[hcv]at hm;obtain rfl:m=0:=by simp at hm;omega
   rw[ZnW,q];rfl) (fun m hm=>by
   rw[hcv]at hm;obtain rfl:m=0:=by simp at hm;omega
   rw[ZnW];exact q2) (fun u hu=>by rw[hcv]at hu;simp at hu;rw[hu];exact h1v)
  rw[hcv]at hrun;refine⟨.skip,undef,_, ?_,.inr ⟨rfl,rfl⟩,ρ,S',hrep⟩;simp only[execOp,ho,hv,Sem.run_bind,hrun,Result.andThen_ok,Sem.run_pure]
 ·simp at hc
end
end
end Eng
namespace Eng
open Go
section
variable {C:Ctx} {X:Nat→Prop} {ρ:Id→Option Lay} {S:Nat→Prop} {st:St} {a:Act} {w:World} {i:Nat} {o:Oper} {e:Eff}
def flat (sz:Nat) (evs:Nat→Value):Nat→List Value
 |0=>[]
 |n+1=>flat sz evs n++(evs n).cells.toList
theorem Zdv {sz:Nat} {evs:Nat→Value}:∀{n:Nat},(∀j,j < n→(evs j).cells.size=sz)→(flat sz evs n).length=n*sz
 |0,_=>by simp[flat]
 |n+1,h=>by
  have:=Zdv (n:=n) fun j hj=>h j (by omega)
  have h2:=h n (by omega);simp only[flat,List.length_append,this,Array.length_toList,h2,Znp,ZnY]
theorem Zii {sz:Nat} {evs:Nat→Value}:∀{n:Nat},(∀j,j < n→(evs j).cells.size=sz)→∀(j k:Nat) u,j < n→(evs j).cells[k]? =some u→(flat sz evs n)[j*sz+k]? =some u
 |0,_,j,k,u,hj,_=>by omega
 |n+1,h,j,k,u,hj,hu=>by
  have hl:=Zdv (n:=n) fun j hj=>h j (by omega)
  have hk:k < sz:=by have:=(Zm4.1 hu).1;have:=h j hj;omega
  simp only[flat]
  by_cases hjn:j=n
  ·subst hjn;rw[ZnJ (by omega),hl,show j*sz+k - j*sz=k by omega];simpa using hu
  ·have:(j+1)*sz≤n*sz:=Znr _ (by omega);rw[Znp,ZnY]at this;rw[ZnI (by omega)];exact Zii (fun j hj=>h j (by omega)) j k u (by omega) hu
theorem ZfK {sz:Nat} {evs:Nat→Value}:∀{n:Nat},(∀j,j < n→(evs j).cells.size=sz)→∀(m:Nat) u,(flat sz evs n)[m]? =some u→∃j k,j < n∧m=j*sz+k∧(evs j).cells[k]? =some u
 |0,_,m,u,hu=>by simp[flat]at hu
 |n+1,h,m,u,hu=>by
  have hl:=Zdv (n:=n) fun j hj=>h j (by omega)
  simp only[flat]at hu
  by_cases hm:m < n*sz
  ·rw[ZnI (by omega)]at hu;obtain⟨j,k,h1,h2,h3⟩:=ZfK (fun j hj=>h j (by omega)) m u hu;exact⟨j,k,by omega,h2,h3⟩
  ·rw[ZnJ (by omega),hl]at hu;exact⟨n,m - n*sz,by omega,by omega,by simpa using hu⟩
def Src (P:Program) (w:World) (S:Nat→Prop) (sz:Nat) (v:Value) (xs:List Eng.P):Prop:=
 ∃(news:List Value) (evs:Nat→Value),news.length=xs.length*sz∧xs.length≤Zq∧(∀w',(Builtin.lenOf v).run P w'= .ok xs.length w')∧
  (∀n,n≤xs.length→∀w',w'.heap=w.heap→(Builtin.firstCells sz n v).run P w'= .ok (news.take (n*sz)).toArray w')∧(∀u∈news,Zbj u)∧
  (∀j,j < xs.length→(evs j).cells.size=sz∧∀(k:Nat) u,(evs j).cells[k]? =some u→news[j*sz+k]? =some u)∧∀(j:Nat) x,xs[j]? =some x→RelP w S (evs j) x
theorem Zku {w w':World} (h:w'.heap=w.heap) (x:Addr):w'.cell? x=w.cell? x:=by simp[World.cell?,h]
theorem Zac {P:Program} {ad:Option Addr} {len cap sz:Nat} {es:List Eng.P} {evs:Nat→Value} (hl:es.length=len) (hm:len≤Z7)
  (hsz:∀i,i < len→(evs i).cells.size=sz)
  (hcell:∀i,i < len→∃b o,ad=some ⟨b,o,none⟩∧∀(j:Nat) v,(evs i).cells[j]? =some v→w.cell? ⟨b,o+i*sz+j,none⟩=some v)
  (hr:∀(i:Nat) x,es[i]? =some x→RelP w S (evs i) x):Src P w S sz (.slice ad len cap) es:=by
 subst hl;have hfl:=Zdv hsz;refine⟨flat sz evs es.length,evs,hfl,by unfold Z7 at hm;unfold Zq;omega,fun w'=>by simp[Builtin.lenOf],fun n hn w' hw=> ?_,fun u hu=> ?_,fun j hj=>⟨hsz j hj,fun k u hu=>Zii hsz j k u hj hu⟩,hr⟩
 ·cases ad with
  |none=>
   have h0:es.length=0:=by
    rcases Nat.eq_zero_or_pos es.length with h |h
    ·exact h
    ·obtain⟨b,o',hb,_⟩:=hcell 0 h;simp at hb
   have:n=0:=by omega
   subst this;simp[Builtin.firstCells]
  |some ad=>
   have hlen:((flat sz evs es.length).take (n*sz)).length=n*sz:=by have:n*sz≤es.length*sz:=Znr _ hn;simp;omega
   refine run_firstCells_some (P:=P) w' sz n ad es.length cap _ hlen fun m u hu=> ?_
   rw[Zng]at hu;split at hu;rotate_left;simp at hu;obtain⟨j,k,hj,rfl,hk⟩:=ZfK hsz m u hu;obtain⟨b,o',hb,hc⟩:=hcell j hj;cases hb;rw[Z6,Zku hw,←Nat.add_assoc];exact hc k u hk
 ·obtain⟨m,hm',rfl⟩:=ZnS.1 hu;obtain⟨j,k,hj,_,hk⟩:=ZfK hsz m _ (ZnL hm');have h1:=hr j es[j] (by simp[hj]);have h2:=h1.size;have hkl:k < es[j].cells.length:=by have:=(Zm4.1 hk).1;omega
  exact(h1.cell hk (ZnL hkl)).2
theorem ZdE {P:Program} {lk:Id→Option Obj} (hob:Objs w S ρ lk) {v:Value} {x:D} {sz:Nat} {xs:List Eng.P} (hx:RelD w S ρ v x) (hs:ZcI lk sz x=some xs):Src P w S sz v xs:=by
 unfold ZcI at hs;split at hs
 ·
  rename_i s;split at hs;rotate_left;simp at hs;rename_i h1;subst h1;cases hs;obtain⟨rfl,hl⟩:=hx.of_p.str_inv;refine⟨s.map fun b=>Value.int .u8 b.toNat,fun j=> .int .u8 (s.getD j 0).toNat,by simp[ZaL],by simpa[ZaL]using hl,fun w'=>by simp[Builtin.lenOf,ZaL,Za3],fun n hn w' _=> ?_,fun u hu=> ?_,fun j hj=>⟨rfl,fun k u hu=> ?_⟩,fun j x hx=> ?_⟩
  ·simp only[ZaL,List.length_map]at hn;simp[Builtin.firstCells]
  ·obtain⟨b,_,rfl⟩:=ZnT.1 hu;rfl
  ·cases k with
   |succ k=>simp[Value.cells]at hu
   |zero=>
    simp only[ZaL,List.length_map]at hj;simp[Value.cells]at hu;subst hu;simp[hj]
  ·have hj:j < s.length:=by have:=(Zne.1 hx).1;simpa[ZaL]using this
   simp[ZaL,hj]at hx;subst hx;have hsj:(s.getD j 0)=s[j]:=by simp[hj]
   dsimp only;rw[hsj];have hb:=s[j].toNat_lt;refine .int .u8 _ ?_ ?_<;>simp[IntKind.min,IntKind.max,IntKind.signed,IntKind.bits]<;>omega
 ·split at hs;rotate_left;simp at hs;rename_i sz' es ht;split at hs;rotate_left;simp at hs;rename_i hsz';subst hsz';cases hs;cases hx with
  |p v x h=>
   simp at ht;subst ht;cases h with
   |sl ad len cap sz es evs hl hm hc hsz hcell hr=>
    exact Zac hl hm hsz (fun i hi=>let ⟨b,o,h1,_,h2⟩:=hcell i hi;⟨b,o,h1,h2⟩) hr
  |val v=>simp[D.toP]at ht
  |nils sz=>
   simp at ht;obtain⟨rfl,rfl⟩:=ht;exact Zac (evs:=fun _=>default) rfl (by simp) (by simp) (by simp) (by simp)
  |clip ad n sz es h=>
   simp at ht;obtain⟨rfl,rfl⟩:=ht;cases h with
   |sl ad len cap sz es evs hl hm hc hsz hcell hr=>
    exact Zac hl hm hsz (fun i hi=>let ⟨b,o,h1,_,h2⟩:=hcell i hi;⟨b,o,h1,h2⟩) hr
  |sl id off len cap ad L hL hl hm' hc ha=>
   rw[Zbf]at ht;split at ht;rotate_left;simp at ht;rename_i sz es fix hlk;simp only[Znv,Eng.P.sl.injEq]at ht;obtain⟨rfl,rfl⟩:=ht;obtain⟨L',hL',hsz,hel,hlc,hlm,hbn,hcells,evs,hev,hcell,hrel⟩:=hob id _ hlk (by simp);rw[hL]at hL';obtain rfl:=Znu hL';refine Zac (evs:=fun i=>evs (off+i)) (by simp;omega) (by omega) (fun i hi'=>hev _ (by omega)) (fun i hi'=> ?_) (fun i x hx=> ?_)
   ·rcases ha with h0 |⟨b,hb,rfl,hcap⟩
    ·omega
    ·refine⟨b,_,rfl,fun j u hu=> ?_⟩;have:=hcell b hb (off+i) j u (by omega) hu;rw[Znp]at this;rw[hsz,←this];congr 2;omega
   ·rw[Zng]at hx;split at hx;rotate_left;simp at hx;rw[List.getElem?_drop]at hx;exact hrel _ x hx
  |dead v=>simp[D.toP]at ht
  |undef=>simp[D.toP]at ht
  |anyb b=>simp[D.toP]at ht
  |agg vs cs hl h1 h=>simp[D.toP]at ht
  |tup vs cs hl h=>simp[D.toP]at ht
  |ptr id i j L b hL hi hb=>
   simp only[D.toP]at ht;split at ht
   ·split at ht<;>simp at ht
   ·simp at ht
   ·simp at ht
  |map id L b hL hb=>
   rw[Zbm]at ht;split at ht<;>simp at ht
  |it id L b hL hb=>simp[D.toP]at ht
  |fn f fs cs a b hf hc h h'=>
   simp only[D.toP]at ht;split at ht<;>simp at ht
theorem Zck {P:Program} {t u ty el:TypeId} {te:TI} {ds:TypeDesc} {E:Env} (hE:Zn E) (hP:E.prog=P) (ht:P.underlying t=some (.slice el)) (hte:E.ty el=some te) (hu:P.underlying u=some ds) (hds:∀k,ds≠ .int k)
  {b o sLen sCap:Nat} {x:Value} {news:List Value} {m:Nat} (hlo:∀w',(Builtin.lenOf x).run P w'= .ok m w') (hf:(Builtin.firstCells te.size m x).run P w= .ok news.toArray w)
  (hroom:sLen+m≤sCap) (hc:∀j,j < news.length→(w.cell? ⟨b,o+sLen*te.size+j,none⟩).isSome=true) (hz:∀j,j < news.length→w.frozen? ⟨b,o+sLen*te.size+j,none⟩=false) (h1:∀u∈news,u.oneCell'=true):
  (Builtin.append_ #[t,u] ty #[.slice (some ⟨b,o,none⟩) sLen sCap,x]).run P w= .ok (.slice (some ⟨b,o,none⟩) (sLen+m) sCap) (w.setCells b (o+sLen*te.size) news):=by
 subst hP;have hszr:∀w,(Go.sizeOf el).run E.prog w= .ok te.size w:=ZK hE hte;have hst:=run_storeCells_cells (P:=E.prog) b (o+sLen*te.size) news 0 w (by simpa using hc) (by simpa using hz) h1;simp only[ZnW]at hst;have hint:(match ds with | .int _=>true |_=>false)=false:=by cases ds<;>first |rfl |exact absurd rfl (hds _)
 simp[Builtin.append_,Za ht,Za hu,hszr,hint,hlo,hroom,hf,Z6,hst]
theorem Zbp {P:Program} {t u ty el:TypeId} {te:TI} {ds:TypeDesc} {E:Env} (hE:Zn E) (hP:E.prog=P) (ht:P.underlying t=some (.slice el)) (hte:E.ty el=some te) (hu:P.underlying u=some ds) (hds:∀k,ds≠ .int k)
  {x:Value} {ad:Option Addr} {sCap:Nat} (hlo:∀w',(Builtin.lenOf x).run P w'= .ok 0 w') (hf:(Builtin.firstCells te.size 0 x).run P w= .ok #[] w):
  (Builtin.append_ #[t,u] ty #[.slice ad 0 sCap,x]).run P w= .ok (.slice ad 0 sCap) w:=by
 subst hP;have hszr:∀w,(Go.sizeOf el).run E.prog w= .ok te.size w:=ZK hE hte;have hint:(match ds with | .int _=>true |_=>false)=false:=by cases ds<;>first |rfl |exact absurd rfl (hds _)
 cases ad with
 |none=>simp[Builtin.append_,Za ht,Za hu,hszr,hint,hlo,hf]
 |some ad=>simp[Builtin.append_,Za ht,Za hu,hszr,hint,hlo,hf,storeCells]
theorem ZbT {P:Program} {t u ty el:TypeId} {te:TI} {ds:TypeDesc} {E:Env} (hE:Zn E) (hP:E.prog=P) (ht:P.underlying t=some (.slice el)) (hte:E.ty el=some te) (hu:P.underlying u=some ds) (hds:∀k,ds≠ .int k)
  {ad:Option Addr} {sLen sCap:Nat} {x:Value} {olds news:List Value} {m:Nat} (hlo:∀w',(Builtin.lenOf x).run P w'= .ok m w') (hf:∀w',w'.heap=w.heap→(Builtin.firstCells te.size m x).run P w'= .ok news.toArray w')
  (hfo:∀w',w'.heap=w.heap→(Builtin.firstCells te.size sLen (.slice ad sLen sCap)).run P w'= .ok olds.toArray w')
  (hg:sCap < sLen+m) (h63:sLen+m≤Zq) (hfit:(sLen+m)*te.bytes≤ZC):
  ∃(rest:Array Value),rest.size=(grownCap w (sLen+m) sCap el - (sLen+m))*te.size∧
  (Builtin.append_ #[t,u] ty #[.slice ad sLen sCap,x]).run P w=
   .ok (.slice (some ⟨w.heap.size,0,none⟩) (sLen+m) (grownCap w (sLen+m) sCap el)) (w.drew.alloc (.cells (olds.toArray++news.toArray++rest) el)):=by
 subst hP;obtain⟨ii,dd,z,hti⟩:=hE.is hte;have hszr:∀w,(Go.sizeOf el).run E.prog w= .ok te.size w:=ZK hE hte;have hint:(match ds with | .int _=>true |_=>false)=false:=by cases ds<;>first |rfl |exact absurd rfl (hds _)
 have hn:¬(sLen+m≤sCap):=by omega
 have h63':¬(9223372036854775807 < ((sLen:Int)+(m:Int))):=by unfold Zq at h63;omega
 have h48:=growslice_fits hg hfit;have h48':¬(281474976710656 < Builtin.nextslicecap (sLen+m) sCap*ii.bytes):=by rw[hti.bytes];omega
 have hz:∀w,(zeroValue el).run E.prog w= .ok z w:=fun w=>ZY hti.info hti.zero w
 have hzs:z.cells.size=te.size:=by have:=(Zch hti.zs).1;simp at this;rw[this];exact hti.zl
 refine⟨Builtin.zeroCells z.cells (grownCap w (sLen+m) sCap el - (sLen+m)),by rw[size_zeroCells,hzs], ?_⟩;have hf':=hf w.drew rfl;have hfo':=hfo w.drew rfl;simp[Builtin.append_,Za ht,Za hu,hszr,hint,hlo,hn,ZB hti.info,h63',h48',Question.forced,hf',hfo',hz,newRow,grownCap];congr 2;apply Array.ext';simp[List.append_assoc]
def Zg1 (Pg:Program) (w:World) (S:Nat→Prop) (t u el:TypeId) (te:TI) (x:Value) (xs:List P):Prop:=
 ∃(news:List Value) (evs:Nat→Value),news.length=xs.length*te.size∧xs.length≤Zq∧(∀u∈news,Zbj u)∧
  (∀j,j < xs.length→(evs j).cells.size=te.size∧∀(k:Nat) u,(evs j).cells[k]? =some u→news[j*te.size+k]? =some u)∧(∀(j:Nat) x,xs[j]? =some x→RelP w S (evs j) x)∧
  (∀(ty:TypeId) (b o sLen sCap:Nat),sLen+xs.length≤sCap→(sLen+xs.length)*te.bytes≤ZC→(∀j,j < news.length→(w.cell? ⟨b,o+sLen*te.size+j,none⟩).isSome=true)→(∀j,j < news.length→w.frozen? ⟨b,o+sLen*te.size+j,none⟩=false)→
   (Builtin.append_ #[t,u] ty #[.slice (some ⟨b,o,none⟩) sLen sCap,x]).run Pg w= .ok (.slice (some ⟨b,o,none⟩) (sLen+xs.length) sCap) (w.setCells b (o+sLen*te.size) news))∧
  (xs.length=0→∀(ty:TypeId) (ad:Option Addr) (sCap:Nat),(Builtin.append_ #[t,u] ty #[.slice ad 0 sCap,x]).run Pg w= .ok (.slice ad 0 sCap) w)∧
  ∀(ty:TypeId) (ad:Option Addr) (sLen sCap:Nat) (olds:List Value),(∀w',w'.heap=w.heap→(Builtin.firstCells te.size sLen (.slice ad sLen sCap)).run Pg w'= .ok olds.toArray w')→sCap < sLen+xs.length→sLen+xs.length≤Zq→(sLen+xs.length)*te.bytes≤ZC→
   ∃(rest:Array Value),rest.size=(grownCap w (sLen+xs.length) sCap el - (sLen+xs.length))*te.size∧
   (Builtin.append_ #[t,u] ty #[.slice ad sLen sCap,x]).run Pg w= .ok (.slice (some ⟨w.heap.size,0,none⟩) (sLen+xs.length) (grownCap w (sLen+xs.length) sCap el)) (w.drew.alloc (.cells (olds.toArray++news.toArray++rest) el))
theorem ZkG {E:Env} (hE:Zn E) {t u el:TypeId} {te:TI} {ds:TypeDesc} (ht:E.prog.underlying t=some (.slice el)) (hte:E.ty el=some te) (hu:E.prog.underlying u=some ds) (hds:∀k,ds≠ .int k) {x:Value} {xs:List P} (hx:Src E.prog w S te.size x xs):
  Zg1 E.prog w S t u el te x xs:=by
 obtain⟨news,evs',n1,n2,n3,n4,n5,n6,n7⟩:=hx;have hf:∀w',w'.heap=w.heap→(Builtin.firstCells te.size xs.length x).run E.prog w'= .ok news.toArray w':=fun w' hw'=>by
  have:=n4 xs.length (Znq _) w' hw'
  rwa [List.take_of_length_le (by omega)]at this
 exact⟨news,evs',n1,n2,n5,n6,n7,fun ty b o sLen sCap h1 _ h2 h3=>Zck hE rfl ht hte hu hds n3 (hf w rfl) h1 h2 h3 n5,
  fun h0 ty ad sCap=>Zbp hE rfl ht hte hu hds (by rw[←h0];exact n3) (by simpa using n4 0 (by simp) w rfl),fun ty ad sLen sCap olds h1 h2 h3 h4=>ZbT hE rfl ht hte hu hds n3 hf h1 h2 h3 h4⟩
theorem ZhL {C:Ctx} (hE:Zn C.E) {t u el:TypeId} {te:TI} {k:IntKind} (ht:C.E.prog.underlying t=some (.slice el)) (hte:C.E.ty el=some te) (hu:C.E.prog.underlying u=some (.int k)) {k':IntKind} {n:Nat} (hm:n≤Zq):
  Zg1 C.E.prog w S t u el te (.int k' (n:Int)) (List.replicate n te.zeroP):=by
 obtain⟨z,hz,hzs,hzr⟩:=Zbk (C:=C) (w:=w) (S:=S) hE hte;obtain⟨ii,dd,z',hti⟩:=hE.is hte;have hszr:∀w,(Go.sizeOf el).run C.E.prog w= .ok te.size w:=ZK hE hte;have hwr:IntKind.wrap .i64 (n:Int)=n:=by unfold Zq at hm;rw[IntKind.wrap_i64];omega
 have hna:¬(n:Int) < 0:=by omega
 have hzl:(Builtin.zeroCells z.cells n).size=n*te.size:=by rw[size_zeroCells,hzs]
 have hcell:∀j,j < n*te.size→(Builtin.zeroCells z.cells n)[j]? =some (z.cells[j % te.size]!):=fun j hj=>by simp[Builtin.zeroCells,hj,hzs]
 have hone:∀v∈(Builtin.zeroCells z.cells n).toList,Zbj v:=fun v hv=>by
  obtain⟨m,hm,rfl⟩:=Zm6.1 (Zm7.1 hv);have hm':m < n*te.size:=by omega
  have hpos:0 < te.size:=Nat.pos_of_ne_zero fun e=>by rw[e,Nat.mul_zero]at hm';omega
  have hlt:m % te.size < z.cells.size:=by rw[hzs];exact Nat.mod_lt _ hpos
  have q:=hcell m hm';rw[Array.getElem?_eq_getElem hm]at q;have q:=Znu q;rw[q,getElem!_pos z.cells _ hlt];have hsz:=hzr.size;exact(hzr.cell (Array.getElem?_eq_getElem hlt) (ZnL (by omega))).2
 have he:n*te.size=0→Builtin.zeroCells z.cells n= #[]:=fun h=>Array.eq_empty_of_size_eq_zero (by rw[hzl,h])
 have hb:∀{m:Nat},(m+n)*te.bytes≤ZC→¬281474976710656 < (n:Int)*(ii.bytes:Int):=fun {m} h=>by
  have h1:n*te.bytes≤ZC:=Nat.le_trans (Znr _ (Nat.le_add_left _ _)) h;rw[hti.bytes];have h2:(n:Int)*(te.bytes:Int)=((n*te.bytes:Nat):Int):=by rw[Int.natCast_mul]
  unfold ZC at h1;omega
 refine⟨(Builtin.zeroCells z.cells n).toList,fun _=>z,by simp[hzl],by rw[ZnO];exact hm,hone,fun j hj=>⟨hzs,fun k v hv=> ?_⟩,fun j x hx=> ?_,fun ty b o sLen sCap h1 h2 h3 h4=> ?_,fun h0 ty ad sCap=> ?_,fun ty ad sLen sCap olds h1 h2 h3 h4=> ?_⟩
 ·rw[ZnO]at hj;have hk:k < te.size:=by have:=(Zm4.1 hv).1;rw[←hzs];exact this
  have hlt:j*te.size+k < n*te.size:=by have:(j+1)*te.size≤n*te.size:=Znr _ hj;rw[Znp]at this;omega
  rw[Znz,hcell _ hlt];have:(j*te.size+k) % te.size=k:=by rw[Nat.mul_comm,Nat.mul_add_mod];exact Nat.mod_eq_of_lt hk
  rw[this,getElem!_def,hv]
 ·rw[List.getElem?_replicate]at hx;split at hx;rotate_left;simp at hx;cases hx;exact hzr
 ·rw[ZnO]at h1 h2⊢
  have hst:=run_storeCells_cells (P:=C.E.prog) b (o+sLen*te.size) (Builtin.zeroCells z.cells n).toList 0 w (by simpa using h3) (by simpa using h4) hone;simp only[ZnW]at hst
  by_cases hn:n*te.size=0
  ·have he:=he hn;rw[he]at hst⊢
   simp only[Array.toList_empty]at hst;simp[Builtin.append_,Za ht,Za hu,hszr,asInt,asIntOf,hwr,hna,ZB hti.info,hb h2,h1,hn,Z6,hst]
  ·simp[Builtin.append_,Za ht,Za hu,hszr,asInt,asIntOf,hwr,hna,ZB hti.info,hb h2,h1,hn,hz,Z6,hst]
 ·rw[ZnO]at h0;subst h0;cases ad with
  |none=>simp[Builtin.append_,Za ht,Za hu,hszr,asInt,asIntOf,IntKind.wrap_i64,ZB hti.info]
  |some ad=>simp[Builtin.append_,Za ht,Za hu,hszr,asInt,asIntOf,IntKind.wrap_i64,ZB hti.info,storeCells]
 ·rw[ZnO]at h2 h3 h4⊢
  have hn:¬(sLen+n≤sCap):=by omega
  have h63':¬(9223372036854775807 < ((sLen:Int)+(n:Int))):=by unfold Zq at h3;omega
  have h48:=growslice_fits h2 h4;have h48':¬(281474976710656 < Builtin.nextslicecap (sLen+n) sCap*ii.bytes):=by rw[hti.bytes];omega
  refine⟨Builtin.zeroCells z.cells (grownCap w (sLen+n) sCap el - (sLen+n)),by rw[size_zeroCells,hzs], ?_⟩;have hfo':=h1 w.drew rfl
  by_cases hn0:n*te.size=0
  ·have he:=he hn0;rw[he];simp[Builtin.append_,Za ht,Za hu,hszr,asInt,asIntOf,hwr,hna,hb h4,hn,hn0,ZB hti.info,h63',h48',Question.forced,hfo',hz,newRow,grownCap]
  ·simp[Builtin.append_,Za ht,Za hu,hszr,asInt,asIntOf,hwr,hna,hb h4,hn,hn0,ZB hti.info,h63',h48',Question.forced,hfo',hz,newRow,grownCap]
def Zg2 (n:Nat) (f g:Nat→Value):Nat→Value:=fun j=>if j < n then f j else g (j - n)
section
variable (h:Rep C X ρ S st a.tmps w) (hi:¬X i) (ht:∀d,o.dst=some d→d < C.E.nt) (hlit:o.op.operands.all ZD=true) (hE:Zn C.E)
include h hi ht hlit hE
theorem Zc6 {args:Array Operand} {t u el:Nat} {te:TI} (ho:o.op= .call {callee:= .builtin .append,args,argTypes:= #[t,u]}) {ad:Option Addr} {sLen sCap:Nat} {x:Value} (hargs:args.map a.eval= #[.slice ad sLen sCap,x])
  (hut:C.E.prog.underlying t=some (.slice el)) (hte:C.E.ty el=some te) {es xs:List P} (hold:Src C.E.prog w S te.size (.slice ad sLen sCap) es) (hnew:Zg1 C.E.prog w S t u el te x xs)
  (hl:es.length=sLen) (hg:sCap < sLen+xs.length) (hfit:(sLen+xs.length)*max te.bytes 1≤ZC) {wr:List (Id×Obj)} (hwr:∀x∈wr,x.2= .gone) (hw0:∀id o,(id,o)∈wr→st.fz id=false∧∃o',st.objs id=some o'∧o'≠ .gone) {c:List Bool}
  (he:e={val:= .sl (st.ep,i,0) 0 (sLen+xs.length),new:=[(0,.arr te.size (es++xs) false)],wr:=wr,cond:=c}):Zx C X st a w i o e:=by
 subst he;obtain⟨olds,evs,o1,o2,o3,o4,o5,o6,o7⟩:=hold;obtain⟨news,evs',n1,n2,n5,n6,n7,rin,rnil,rnew⟩:=hnew;have hb1:(sLen+xs.length)*te.bytes≤ZC:=Nat.le_trans (ZnX _ (Nat.le_max_left _ _)) hfit;have hb2:sLen+xs.length≤ZC:=by have:=ZnX (sLen+xs.length) (Nat.le_max_right te.bytes 1);omega
 obtain⟨rest,hrs,hrun⟩:=rnew o.type ad sLen sCap olds (fun w' hw'=>by
   have:=o4 sLen (by omega) w' hw'
   rwa [List.take_of_length_le (by rw[o1,hl];exact Znq _)]at this) hg (by unfold ZC at hb2;unfold Zq;omega) hb1
 have hcap:=grownCap_ge w (sLen+xs.length) sCap el;have hcapm:grownCap w (sLen+xs.length) sCap el≤Zq:=grownCap_le_maxLen w (sLen+xs.length) sCap el (by unfold ZC at hb2;unfold maxLen;omega);generalize grownCap w (sLen+xs.length) sCap el=cap at hrun hrs hcap hcapm;let L:Lay:=⟨some w.heap.size,0,te.size,sLen+xs.length,cap⟩;let w':=w.drew.alloc (.cells (olds.toArray++news.toArray++rest) el);have hw:w'.heap=w.heap.push (.cells (olds.toArray++news.toArray++rest) el):=rfl;let ρ':Id→Option Lay:=upd ρ (st.ep,i,0) (some L);have f:=h.fresh hi;have hρ:∀id L,ρ id=some L→ρ' id=some L:=by
  intro id L' hL;simp only[ρ',upd];split
  ·rename_i hc;subst hc;rw[f]at hL;simp at hL
  ·exact hL
 have hbox:ρ' (st.ep,i,0)=some L:=by simp[ρ',upd]
 have kp:∀b,b < w.heap.size→w'.heap[b]? =w.heap[b]? :=fun b hb=>Zal hw hb
 have hsz:w'.heap.size=w.heap.size+1:=by rw[hw];simp
 have hc:∀j,w'.cell? ⟨w.heap.size,j,none⟩=(olds.toArray++news.toArray++rest)[j]? :=fun j=>by simp[World.cell?,Z0 hw]
 have hfz:∀j,w'.frozen? ⟨w.heap.size,j,none⟩=false:=fun j=>by simp[World.frozen?,Z0 hw]
 have hos:olds.length=sLen*te.size:=by rw[o1,hl]
 have hall:(olds.toArray++news.toArray++rest).size=cap*te.size:=by simp only[Array.size_append,List.size_toArray,hos,n1,hrs];rw[←Znp,←Znp];congr 1;omega
 refine⟨_,_,w', ?_,.inl rfl,ρ',h.step (v:= .slice (some ⟨w.heap.size,0,none⟩) (sLen+xs.length) cap) ρ' hi ht (by omega) ⟨rfl,rfl⟩ (fun b hb _=>kp b hb) hw0 hρ ?_ (by simp) ?_ ?_ (fun id o' L hm hg=>absurd (hwr _ hm) hg) ?_ (wown:=fun id o hm=>by rw[show o= .gone from hwr _ hm];rfl)⟩
 ·obtain⟨cs,hx⟩:=ZE (a:=a) (w:=w) (P:=C.E.prog) ho;rw[hx,hargs];exact Zge hrun
 ·intro id hn;simp only[ρ',upd]at hn;split at hn
  ·rename_i hc;subst hc;exact .inr ⟨rfl,rfl⟩
  ·exact .inl hn
 ·intro k o' hm;simp only[Znm,Znw]at hm;obtain⟨rfl,rfl⟩:=hm;refine⟨L,hbox,fun b hb=> ?_,fun S' hS hF _=>⟨rfl,by simp[L,hl],hcap,by simp only[L];unfold ZC at hb2;unfold Z7;omega,by simp[L],fun b hb j hj=> ?_,Zg2 sLen evs evs',fun j hj=> ?_,fun b hb j k v hj hv=> ?_,fun j x hx=> ?_⟩⟩
  ·simp only[L,Znv]at hb;subst hb;exact⟨.inl (Znq _),by omega⟩
  ·simp only[L,Znv]at hb;subst hb;simp only[L]at hj;have hj':j < (olds.toArray++news.toArray++rest).size:=by omega
   exact⟨⟨_,by simp only[L,ZnZ,hc];exact Array.getElem?_eq_getElem hj'⟩,by simp[L,hfz]⟩
  ·simp only[L]at hj;unfold Zg2;split
   ·exact(o6 j (by omega)).1
   ·exact(n6 (j - sLen) (by omega)).1
  ·simp only[L,Znv]at hb;subst hb;simp only[L]at hj;simp only[L,ZnZ,hc];unfold Zg2 at hv;split at hv
   ·rename_i hlt;have:=(o6 j (by omega)).2 k v hv;have hl':j*te.size+k < olds.length:=(Zne.1 this).1;rw[Znx,if_pos (by simp;omega),Znx,if_pos (by simpa using hl')];simpa using this
   ·rename_i hlt;have:=(n6 (j - sLen) (by omega)).2 k v hv;have hl':(j - sLen)*te.size+k < news.length:=(Zne.1 this).1;have hjs:j*te.size=sLen*te.size+(j - sLen)*te.size:=by rw[←Znp];congr 1;omega
    rw[Znx,if_pos (by simp;omega),Znx,if_neg (by simp;omega)];simp only[List.size_toArray,List.getElem?_toArray];rw[show j*te.size+k - olds.length=(j - sLen)*te.size+k by omega];exact this
  ·have kS:ZbQ S w w':=fun b _ hb=>kp b hb
   unfold Zg2
   by_cases hlt:j < sLen
   ·rw[ZnI (by omega)]at hx;rw[if_pos hlt];exact(o7 j x hx).mono kS hS
   ·rw[ZnJ (by omega),hl]at hx;rw[if_neg hlt];exact(n7 _ x hx).mono kS hS
 ·intro k o1 L1 k' o2 L2 b hm _ hL hb hm' _ hL' hb';simp only[Znm,Znw]at hm hm';rw[hm.1,hm'.1]
 ·intro S' _ _ d _;exact .sl _ 0 _ cap _ L hbox (by simp[L]) ⟨by unfold ZC at hb2;unfold Z7;omega,hcapm⟩ hcap (.inr ⟨w.heap.size,rfl,by simp[L],by simp[L]⟩)
theorem ZkE {args:Array Operand} {t u el:Nat} {te:TI} (ho:o.op= .call {callee:= .builtin .append,args,argTypes:= #[t,u]}) {ad:Option Addr} {sLen sCap:Nat} {x:Value} (hargs:args.map a.eval= #[.slice ad sLen sCap,x])
  (hut:C.E.prog.underlying t=some (.slice el)) (hte:C.E.ty el=some te) {es xs:List P} (hnew:Zg1 C.E.prog w S t u el te x xs) {id:Id} {L0:Lay} {fix:Bool}
  (hlk:st.objs id=some (.arr te.size es fix)) (hL0:ρ id=some L0) (hfz:st.fz id=false) (hle:sLen≤L0.len) (hlm:sLen≤sCap) (hcm:sCap≤Zq) (ha:sCap=0∨∃b,L0.blk=some b∧ad=some ⟨b,L0.base,none⟩∧sCap≤L0.cap)
  (hroom:sLen+xs.length≤sCap) (hfit:(sLen+xs.length)*max te.bytes 1≤ZC) {c:List Bool}
  (he:e={val:= .sl (st.ep,i,0) 0 (sLen+xs.length),new:=[(0,.arr te.size (es.take sLen++xs) false)],wr:=[(id,.gone)],cond:=c}):Zx C X st a w i o e:=by
 subst he;obtain⟨news,evs',n1,n2,n5,n6,n7,rin,rnil,rnew⟩:=hnew;have hb1:(sLen+xs.length)*te.bytes≤ZC:=Nat.le_trans (ZnX _ (Nat.le_max_left _ _)) hfit;have hb2:sLen+xs.length≤ZC:=by have:=ZnX (sLen+xs.length) (Nat.le_max_right te.bytes 1);omega
 obtain⟨L',hL',hsz,hel,hlc,hlm',hbn,hcells,evs,hev,hcell,hrel⟩:=h.objs id _ hlk (by simp);rw[hL0]at hL';obtain rfl:=Znu hL';have f:=h.fresh hi;have wrg:∀id' o',(id',o')∈[(id,Obj.gone)]→st.fz id'=false∧∃o',st.objs id'=some o'∧o'≠ .gone:=by intro id' o' hm;simp only[Znm,Znw]at hm;obtain⟨rfl,rfl⟩:=hm;exact⟨hfz,_,hlk,by simp⟩
 obtain⟨csb,hx⟩:=ZE (a:=a) (w:=w) (P:=C.E.prog) ho;have key:∀(L:Lay) (w':World),L.len=sLen+xs.length→(w'.heap.size=w.heap.size)→ZP w w'→(∀b,L.blk=some b→L0.blk=some b)→(∀b,L0.blk≠some b→w'.heap[b]? =w.heap[b]?)→
   (Builtin.append_ #[t,u] o.type #[.slice ad sLen sCap,x]).run C.E.prog w= .ok (.slice ad (sLen+xs.length) sCap) w'→
   (∀S' ρ',(∀b,S b→S' b)→Zw w' S' ρ' L (.arr te.size (es.take sLen++xs) false))→
   (∀S' ρ',ρ' (st.ep,i,0)=some L→RelD w' S' ρ' (.slice ad (sLen+xs.length) sCap) (.sl (st.ep,i,0) 0 (sLen+xs.length)))→
   Zx C X st a w i o {val:= .sl (st.ep,i,0) 0 (sLen+xs.length),new:=[(0,.arr te.size (es.take sLen++xs) false)],wr:=[(id,.gone)],cond:=c}:=by
  intro L w' _ hws hqu hLb hkeep hrun hobj hval;let ρ':Id→Option Lay:=upd ρ (st.ep,i,0) (some L);have hρ:∀id L,ρ id=some L→ρ' id=some L:=by
   intro id L' hL;simp only[ρ',upd];split
   ·rename_i hc;subst hc;rw[f]at hL;simp at hL
   ·exact hL
  have hbox:ρ' (st.ep,i,0)=some L:=by simp[ρ',upd]
  refine⟨_,_,w', ?_,.inl rfl,ρ',h.step (v:= .slice ad (sLen+xs.length) sCap) ρ' hi ht (by omega) hqu ?_ wrg hρ ?_ (by simp) ?_ ?_ (fun id o' L hm hg=>by simp only[Znm,Znw]at hm;exact absurd hm.2 hg) ?_⟩
  ·rw[hx,hargs];exact Zge hrun
  ·intro b hb hne;exact hkeep b (hne id _ L0 (Znm.2 rfl) hL0)
  ·intro id hn;simp only[ρ',upd]at hn;split at hn
   ·rename_i hc;subst hc;exact .inr ⟨rfl,rfl⟩
   ·exact .inl hn
  ·intro k o' hm;simp only[Znm,Znw]at hm;obtain⟨rfl,rfl⟩:=hm;refine⟨L,hbox,fun b hb=>⟨.inr ⟨id,_,L0,Znm.2 rfl,hlk,by simp,hL0,hLb b hb,fun o'' hm=> ?_⟩, ?_⟩,fun S' hS hF _=>hobj S' ρ' hS⟩
   ·simp only[Znm,Znw]at hm;exact hm.2
   ·have:=(h.own id _ L0 b hlk (by simp) hL0 (hLb b hb)).1;omega
  ·intro k o1 L1 k' o2 L2 b hm _ hL hb hm' _ hL' hb';simp only[Znm,Znw]at hm hm';rw[hm.1,hm'.1]
  ·intro S' _ _ d _;exact hval S' ρ' hbox
 rcases ha with h0 |⟨b,hLb,rfl,hcap⟩
 ·
  have hs0:sLen=0:=by omega
  have hx0:xs.length=0:=by omega
  subst hs0;have hxs:xs=[]:=ZnH hx0;subst hxs;refine key ⟨none,0,te.size,0,0⟩ w rfl rfl (ZP.refl _) (by simp) (fun _ _=>rfl) ?_ (fun S' ρ' _=> ?_) (fun S' ρ' hL=> ?_)
  ·exact rnil rfl o.type ad sCap
  ·simpa using Zam te.size false
  ·exact .sl _ 0 _ _ _ _ hL (by simp) ⟨by simp,hcm⟩ (by simp) (.inl h0)
 ·have hcs:∀m,m < news.length→(w.cell? ⟨b,L0.base+sLen*te.size+m,none⟩).isSome=true∧w.frozen? ⟨b,L0.base+sLen*te.size+m,none⟩=false:=fun m hm=>by have hle2:(sLen+xs.length)*te.size≤L0.cap*te.size:=Znr _ (by omega);rw[Znp,←n1]at hle2;obtain⟨⟨v,q⟩,q2⟩:=hcells b hLb (sLen*te.size+m) (by omega);rw[show L0.base+sLen*te.size+m=L0.base+(sLen*te.size+m) by omega,q,q2];exact⟨rfl,rfl⟩
  have hrun:=rin o.type b L0.base sLen sCap hroom hb1 (fun m hm=>(hcs m hm).1) (fun m hm=>(hcs m hm).2);clear hte hx rin rnil rnew;generalize te.size=tsz at*
  subst hsz;have hcell':=fun m=>Z5 (w:=w) (b:=b) (o:=L0.base+sLen*L0.sz) (vs:=news) (fun m hm=>(hcs m hm).1) m
  have hown:=h.own id _ L0 b hlk (by simp) hL0 hLb;have hnS:¬S b:=hown.2.2.2 hfz;have kS:ZbQ S w (w.setCells b (L0.base+sLen*L0.sz) news):=fun b' hb' _=>Zm b _ _ _ b' (fun e=>hnS (e▸hb'))
  refine key ⟨some b,L0.base,L0.sz,sLen+xs.length,sCap⟩ _ rfl (ZV _ _ _ _) (ZP.setCells _ _ _ _) (fun b1 hb1=>by cases hb1;exact hLb) (fun b' hne=>Zm b _ _ _ b' (fun e=>hne (e▸hLb))) hrun (fun S' ρ' hS=> ?_) (fun S' ρ' hL=> ?_)
  ·have hlel:sLen≤es.length:=by omega
   refine⟨rfl,by simp;omega,hroom,by dsimp only;unfold ZC at hb2;unfold Z7;omega,by simp,fun b1 hb1 m hm=> ?_,Zg2 sLen evs evs',fun j hj=> ?_,fun b1 hb1 j k v hj hv=> ?_,fun j x hx=> ?_⟩
   ·cases hb1;have hle2:sCap*L0.sz≤L0.cap*L0.sz:=Znr _ hcap;obtain⟨⟨v,q⟩,q2⟩:=hcells b hLb m (by dsimp only at hm;omega);refine⟨?_,by rw[World.frozen?_setCells];exact q2⟩;dsimp only;rw[hcell'];split
    ·exact⟨_,ZnL (by omega)⟩
    ·exact⟨v,q⟩
   ·dsimp only at hj;unfold Zg2;split
    ·exact hev j (by omega)
    ·exact(n6 (j - sLen) (by omega)).1
   ·cases hb1;dsimp only at hj⊢
    unfold Zg2 at hv;rw[hcell'];split at hv
    ·rename_i hlt;have hk:k < L0.sz:=by have:=(Zm4.1 hv).1;have:=hev j (by omega);omega
     have:(j+1)*L0.sz≤sLen*L0.sz:=Znr _ hlt;rw[Znp,ZnY]at this;rw[if_neg (by omega)];exact hcell b hLb j k v (by omega) hv
    ·rename_i hlt;have:=(n6 (j - sLen) (by omega)).2 k v hv;have hl':(j - sLen)*L0.sz+k < news.length:=(Zne.1 this).1;have hjs:j*L0.sz=sLen*L0.sz+(j - sLen)*L0.sz:=by rw[←Znp];congr 1;omega
     rw[if_pos (by omega),show L0.base+j*L0.sz+k - (L0.base+sLen*L0.sz)=(j - sLen)*L0.sz+k by omega];exact this
   ·unfold Zg2
    by_cases hlt:j < sLen
    ·rw[ZnI (by simp;omega),Zng,if_pos hlt]at hx;rw[if_pos hlt];exact(hrel j x hx).mono kS hS
    ·rw[ZnJ (by simp;omega)]at hx;rw[if_neg hlt];have:j - (es.take sLen).length=j - sLen:=by simp;omega
     rw[this]at hx;exact(n7 _ x hx).mono kS hS
  ·exact .sl _ 0 _ _ _ _ hL (by simp) ⟨by unfold ZC at hb2;unfold Z7;omega,hcm⟩ hroom (.inr ⟨b,rfl,by simp,by simp⟩)
theorem ZhC {args:Array Operand} {ats:Array TypeId} (ho:o.op= .call {callee:= .builtin .append,args,argTypes:=ats}) (hc:Ze C.E st.ep i o.op o.type st.slots st.objs=some e) (hcond:∀q∈e.cond,q=true) (hw:Zdq st e=true):Zx C X st a w i o e:=by
 rw[ho]at hc hlit;simp only[Ze,ZL]at hc;unfold Zcf at hc;split at hc<;>(try simp only[reduceCtorEq]at hc);rename_i t u s x hds hlen;have hats:ats= #[t,u]:=by rw[←ZnA (xs:=ats),hds]
 subst hats;have huse:∃te ds,C.E.elem t=some te∧C.E.prog.underlying u=some ds∧(((∀k,ds≠ .int k)∧ZaN st.objs st.ep i te s x=some e)∨∃(k:IntKind) (n:Nat),ds= .int k∧x= .p (.int .i64 (n:Int))∧Zaa st.objs st.ep i te s (List.replicate n te.zeroP)=some e):=by
  split at hc
  ·rename_i te el hel htu;obtain⟨d,hu,hd⟩:=hE.und htu;exact⟨te,d,hel,hu,.inl ⟨fun k hk=>by subst hk;simp[Zaz]at hd,hc⟩⟩
  ·rename_i te hel htu;obtain⟨d,hu,hd⟩:=hE.und htu;exact⟨te,d,hel,hu,.inl ⟨fun k hk=>by subst hk;simp[Zaz]at hd,hc⟩⟩
  ·rename_i te k hel htu;obtain⟨d,hu,hd⟩:=hE.und htu;split at hc;rotate_left;simp at hc;rename_i a;split at hc;rotate_left;simp at hc;rename_i h0;have hdk:∃k,d= .int k:=by cases d<;>first |exact⟨_,rfl⟩ |(simp[Zaz]at hd)
   obtain⟨k,rfl⟩:=hdk;exact⟨te,_,hel,hu,.inr ⟨k,a.toNat,rfl,by rw[Int.toNat_of_nonneg h0],hc⟩⟩
  ·simp at hc
 obtain⟨te,ds,hel,huu,hc'⟩:=huse;clear hc;have hc:=hc';clear hc';obtain⟨hl,hr⟩:=Zai h args.toList [t,u] (fun x hx=>by simp[Op.operands,Call.operands]at hlit;obtain⟨j,hj,rfl⟩:=Zm6.1 (Zm7.1 hx);exact hlit j hj)
 simp only[List.toList_toArray]at hlen hl hr;rw[hlen]at hl hr;obtain⟨el,hty,hte⟩:∃el,(∃sz by_ ze,C.E.ty t=some {d:= .sl el,size:=sz,bytes:=by_,zero:=ze})∧C.E.ty el=some te:=by unfold Env.elem at hel;split at hel;rotate_left;simp at hel;rename_i e' _ _ _ hq;exact⟨e',⟨_,_,_,hq⟩,hel⟩
 obtain⟨_,_,_,hty⟩:=hty;have hut:=hE.slice hty rfl
 match hxx:args.toList,hl with
 | [xs0,xx0],_=>
  rw[hxx]at hr;have hrs:=hr 0 (a.eval xs0) s rfl rfl;have hrx:=hr 1 (a.eval xx0) x rfl rfl;have hargs:args.map a.eval= #[a.eval xs0,a.eval xx0]:=by rw[←ZnA (xs:=args),hxx];simp
  have hsrcs:∃xs,Zg1 C.E.prog w S t u el te (a.eval xx0) xs∧Zaa st.objs st.ep i te s xs=some e:=by
   rcases hc with ⟨hdsn,hc⟩ |⟨k,n,rfl,rfl,hc⟩
   ·unfold ZaN at hc;split at hc
    ·simp at hc
    ·rename_i xs hxs;exact⟨xs,ZkG hE hut hte huu hdsn (ZdE (P:=C.E.prog) h.objs hrx hxs),hc⟩
   ·obtain⟨e2,_,g2⟩:=ZbR hrx;refine⟨_, ?_,hc⟩;rw[e2];exact ZhL hE hut hte huu (by rw[show IntKind.max .i64=9223372036854775807 from by decide]at g2;unfold Zq;omega)
  obtain⟨xs,hnew,hc1⟩:=hsrcs;clear hc;revert hc1;intro hc
  ·generalize a.eval xx0=vx at hargs hnew hrx;unfold Zaa at hc;generalize hvs:a.eval xs0=vs at hargs hrs;split at hc
   ·
    rename_i sz0;simp only[Znv]at hc;cases hrs with
    |nils=>
    have hcnd:=of_decide_eq_true (hcond _ (by rw[←hc];exact Znk))
    by_cases h0:xs.length=0
    ·have hxs0:xs=[]:=ZnH h0;subst hxs0;obtain⟨news,evs',n1,n2,n5,n6,n7,rin,rnil,rnew⟩:=hnew;have hrun:=rnil rfl o.type none 0;obtain⟨csb,hx⟩:=ZE (a:=a) (w:=w) (P:=C.E.prog) ho;have f:=h.fresh hi;let ρ':Id→Option Lay:=upd ρ (st.ep,i,0) (some ⟨none,0,te.size,0,0⟩);have hρ:∀id L,ρ id=some L→ρ' id=some L:=by
      intro id L' hL;simp only[ρ',upd];split
      ·rename_i hc;subst hc;rw[f]at hL;simp at hL
      ·exact hL
     have hbox:ρ' (st.ep,i,0)=some ⟨none,0,te.size,0,0⟩:=by simp[ρ',upd]
     subst hc;refine⟨_,_,w, ?_,.inl rfl,ρ',h.step (v:= .slice none 0 0) ρ' hi ht (Znq _) (ZP.refl _) (fun _ _ _=>rfl) (by simp) hρ ?_ (by simp) ?_ ?_ (by simp) ?_⟩
     ·rw[hx,hargs];exact Zge hrun
     ·intro id hn;simp only[ρ',upd]at hn;split at hn
      ·rename_i hc;subst hc;exact .inr ⟨rfl,rfl⟩
      ·exact .inl hn
     ·intro k o' hm;simp only[Znm,Znw]at hm;obtain⟨rfl,rfl⟩:=hm;exact⟨_,hbox,by simp,fun S' _ _ _=>Zam te.size false⟩
     ·intro k o1 L1 k' o2 L2 b hm _ hL hb hm' _ hL' hb';simp only[Znm,Znw]at hm hm';rw[hm.1,hm'.1]
     ·intro S' _ _ d _;exact .sl _ 0 0 0 none _ hbox (by simp) (by simp) (by simp) (.inl rfl)
    ·refine Zc6 h hi ht (by rw[ho];exact hlit) hE ho hargs hut hte (es:=[]) ?_ hnew rfl (by omega) (by simpa using hcnd) (wr:=[]) (by simp) (by simp) (c:=[decide (xs.length*max te.bytes 1≤ZC)]) (by rw[←hc];simp);exact Zac (evs:=fun _=>default) rfl (by simp) (by simp) (by simp) (by simp)
   ·
    rename_i sz0 es _;split at hc;rotate_left;simp at hc;rename_i hsz0;subst hsz0;simp only[Znv]at hc;cases hrs with
    |clip ad n _ _ hp=>
    obtain⟨hne,hcnd⟩:=of_decide_eq_true (hcond _ (by rw[←hc];exact Znk));have hpos:0 < xs.length:=by
     rcases Nat.eq_zero_or_pos xs.length with h0 |h0
     ·rw[ZnH h0]at hne;simp at hne
     ·exact h0
    cases hp with
    |sl _ _ _ _ _ evs hel' hm hc' hsz hcell hr'=>
     subst hel';refine Zc6 h hi ht (by rw[ho];exact hlit) hE ho hargs hut hte (es:=es) ?_ hnew rfl (by omega) hcnd (wr:=[]) (by simp) (by simp) (c:=[decide (xs.isEmpty=false∧(es.length+xs.length)*max te.bytes 1≤ZC)]) (by rw[←hc]);exact Zac rfl hm hsz (fun i hi=>let ⟨b,o,h1,_,h2⟩:=hcell i hi;⟨b,o,h1,h2⟩) hr'
   ·
    rename_i id len _;split at hc;rotate_left;simp at hc;rename_i sz0 es hlk;split at hc;rotate_left;simp at hc;rename_i hsz0;subst hsz0;simp only[Znv]at hc;have hsrc:=ZdE (P:=C.E.prog) (sz:=te.size) (xs:=es.take len) h.objs hrs (by simp[ZcI,Zbf,hlk]);cases hrs with
    |sl _ _ _ cap ad L hL hll hm hcp ha=>
    have hcnd:=of_decide_eq_true (hcond _ (by rw[←hc];exact Znk));have hfz:st.fz id=false:=by rw[←hc]at hw;simp only[Zdq,Zm8,ZnD,Znm,forall_eq,ZnB]at hw;exact hw.1
    obtain⟨L',hL',hsz,hel2,hlc,_⟩:=h.objs id _ hlk (by simp);rw[hL]at hL';obtain rfl:=Znu hL'
    by_cases hroom:len+xs.length≤cap
    ·refine ZkE h hi ht (by rw[ho];exact hlit) hE ho hargs hut hte hnew hlk hL hfz (by omega) hcp hm.2 ?_ hroom hcnd (c:=[decide ((len+xs.length)*max te.bytes 1≤ZC)]) (by rw[←hc]);rcases ha with h0 |⟨b,h1,h2,h3⟩
     ·exact .inl h0
     ·exact .inr ⟨b,h1,by simpa using h2,by omega⟩
    ·refine Zc6 h hi ht (by rw[ho];exact hlit) hE ho hargs hut hte hsrc hnew (by simp;omega) (by omega) hcnd (wr:=[(id,.gone)]) (by simp) ?_ (c:=[decide ((len+xs.length)*max te.bytes 1≤ZC)]) (by rw[←hc]);intro id' o' hm;simp only[Znm,Znw]at hm;obtain⟨rfl,rfl⟩:=hm;exact⟨hfz,_,hlk,by simp⟩
   ·simp at hc
end
end
end Eng
namespace Eng
open Go
section
variable {C:Ctx} {X:Nat→Prop} {ρ:Id→Option Lay} {S:Nat→Prop} {st:St} {a:Act} {w:World} {i:Nat} {o:Oper} {e:Eff}
variable (h:Rep C X ρ S st a.tmps w) (hi:¬X i) (ht:∀d,o.dst=some d→d < C.E.nt) (hlit:o.op.operands.all ZD=true) (hE:Zn C.E)
include h hi ht hlit hE
theorem Zkr {args:Array Operand} {ats:Array TypeId} (ho:o.op= .call {callee:= .builtin .copy,args,argTypes:=ats}) (hc:Ze C.E st.ep i o.op o.type st.slots st.objs=some e) (hw:Zdq st e=true):Zx C X st a w i o e:=by
 rw[ho]at hc hlit;simp only[Ze,ZL]at hc;unfold Zja at hc;split at hc<;>(try simp only[reduceCtorEq]at hc);rename_i t ts d s hds hlen;split at hc<;>(try simp only[reduceCtorEq]at hc);rename_i te hel;have hats:ats[0]? =some t:=by rw[←Znz,hds];rfl
 obtain⟨hl,hr⟩:=Zai h args.toList ats.toList (fun x hx=>by simp[Op.operands,Call.operands]at hlit;obtain⟨j,hj,rfl⟩:=Zm6.1 (Zm7.1 hx);exact hlit j hj)
 rw[hlen]at hl hr;obtain⟨el,hty,hte⟩:∃el,(∃sz by_ ze,C.E.ty t=some {d:= .sl el,size:=sz,bytes:=by_,zero:=ze})∧C.E.ty el=some te:=by unfold Env.elem at hel;split at hel;rotate_left;simp at hel;rename_i e' _ _ _ hq;exact⟨e',⟨_,_,_,hq⟩,hel⟩
 obtain⟨_,_,_,hty⟩:=hty;have hut:=hE.slice hty rfl;have hszr:∀w,(Go.sizeOf el).run C.E.prog w= .ok te.size w:=ZK hE hte
 match hxx:args.toList,hl with
 | [xd0,xs0],_=>
  rw[hxx]at hr;have hrd:=hr 0 (a.eval xd0) d rfl rfl;have hrs:=hr 1 (a.eval xs0) s rfl rfl;have hargs:args.map a.eval= #[a.eval xd0,a.eval xs0]:=by rw[←ZnA (xs:=args),hxx];simp
  generalize a.eval xs0=vx at hargs hrs;generalize a.eval xd0=vd at hargs hrd;unfold ZfR at hc;split at hc<;>(try simp only[reduceCtorEq]at hc);rename_i id off len _;split at hc<;>(try simp only[reduceCtorEq]at hc);rename_i sz es fix hlk;split at hc<;>(try simp only[reduceCtorEq]at hc);rename_i xs hxs;split at hc<;>(try simp only[reduceCtorEq]at hc);rename_i hsz0;cases hc;obtain⟨news,evs',n1,n2,n3,n4,n5,n6,n7⟩:=ZdE (P:=C.E.prog) h.objs hrs hxs;cases hrd with
  |sl _ _ _ cap ad L hL hll hm hcp ha=>
  have hfz:st.fz id=false:=by simp only[Zdq,Zm8,ZnD,Znm,forall_eq,ZnB]at hw;exact hw.1
  obtain⟨L',hL',hsz,hel2,hlc,hlm',hbn,hcells,evs,hev,hcell,hrel⟩:=h.objs id _ hlk (by simp);rw[hL]at hL';obtain rfl:=Znu hL';have hmin:min xs.length len≤xs.length:=Nat.min_le_left _ _;have hmin2:min xs.length len≤len:=Nat.min_le_right _ _;generalize hn:min xs.length len=n at hmin hmin2;have hn':Nat.min xs.length len=n:=hn;have hnf:=n4 n hmin w rfl;rw[hsz0]at hnf;obtain⟨csb,hx⟩:=ZE (a:=a) (w:=w) (P:=C.E.prog) ho;have hval:IntKind.i64.min≤(n:Int)∧(n:Int)≤IntKind.i64.max:=ZdR (by omega);have hchg:∀w',w'.heap.size=w.heap.size→ZP w w'→(∀b,L.blk≠some b→w'.heap[b]? =w.heap[b]?)→(Builtin.copy_ ats o.type #[.slice ad len cap,vx]).run C.E.prog w= .ok (goInt n) w'→
    (∀S',(∀b,S b→S' b)→Zw w' S' ρ L (.arr sz (ZT es off (xs.take n)) fix))→
    Zx C X st a w i o {val:= .p (.int .i64 (n:Nat)),wr:=[(id,.arr sz (ZT es off (xs.take n)) fix)]}:=by
   intro w' hws hqu hkeep hrun hobj;refine⟨_,_,w', ?_,.inl rfl,ρ,h.step (v:= .int .i64 n) ρ hi ht (by omega) hqu ?_ ?_ (fun _ _ h=>h) (fun id h=> .inl h) (by simp) (fun _ _ hm=>by simp at hm) (fun _ _ _ _ _ _ _ hm=>by simp at hm) ?_ ?_⟩
   ·rw[hx,hargs];exact Zge hrun
   ·intro b hb hne;exact hkeep b (hne id _ L (Znm.2 rfl) hL)
   ·intro id' o' hm;simp only[Znm,Znw]at hm;obtain⟨rfl,rfl⟩:=hm;exact⟨hfz,_,hlk,by simp⟩
   ·intro id' o' L1 hm _ hL1 S' hS _;simp only[Znm,Znw]at hm;obtain⟨rfl,rfl⟩:=hm;rw[hL]at hL1;obtain rfl:=Znu hL1;exact hobj S' hS
   ·intro S' _ _ d _;exact .p _ _ (.int _ _ hval.1 hval.2)
  rcases ha with h0 |⟨b,hLb,rfl,hcap⟩
  ·have hn0:n=0:=by omega
   subst hn0;refine hchg w rfl (ZP.refl _) (fun _ _=>rfl) ?_ (fun S' hS=> ?_)
   ·have hf:(Builtin.firstCells te.size 0 vx).run C.E.prog w= .ok #[] w:=by simpa using hnf
    cases ad<;>simp[Builtin.copy_,hats,Za hut,n3,hn',hszr,hf,storeCells]
   ·have hsp:ZT es off (xs.take 0)=es:=by simp[ZT]
    rw[hsp];exact(show Zw w S ρ L (.arr sz es fix)from ⟨hsz,hel2,hlc,hlm',hbn,hcells,evs,hev,hcell,hrel⟩).mono (fun _ _ _=>rfl) hS (fun _ _ h=>h) (fun _ _=>rfl)
  ·have hnl:(news.take (n*sz)).length=n*sz:=by have:n*sz≤xs.length*sz:=Znr _ hmin;simp;omega
   have hin:∀m,m < n*sz→off*sz+m < L.cap*sz:=fun m hm=>by have:(off+n)*sz≤L.cap*sz:=Znr _ (by omega);rw[Znp]at this;omega
   have hcs:∀m,m < (news.take (n*sz)).length→(w.cell? ⟨b,L.base+off*sz+m,none⟩).isSome=true∧w.frozen? ⟨b,L.base+off*sz+m,none⟩=false:=fun m hm=>by obtain⟨⟨v,q⟩,q2⟩:=hcells b hLb (off*sz+m) (hin m (by omega));rw[show L.base+off*sz+m=L.base+(off*sz+m) by omega,q,q2];exact⟨rfl,rfl⟩
   have hst:=run_storeCells_cells (P:=C.E.prog) b (L.base+off*sz) (news.take (n*sz)) 0 w (fun m hm=>by simpa using (hcs m hm).1) (fun m hm=>by simpa using (hcs m hm).2) (fun u hu=>n5 u (List.mem_of_mem_take hu));have hcell':=fun m=>Z5 (w:=w) (b:=b) (o:=L.base+off*sz) (vs:=news.take (n*sz)) (fun m hm=>(hcs m hm).1) m
   have hown:=h.own id _ L b hlk (by simp) hL hLb;have hnS:¬S b:=hown.2.2.2 hfz;have kS:ZbQ S w (w.setCells b (L.base+off*sz) (news.take (n*sz))):=fun b' hb' _=>Zm b _ _ _ b' (fun e=>hnS (e▸hb'))
   simp only[ZnW]at hst;refine hchg (w.setCells b (L.base+off*sz) (news.take (n*sz))) (ZV _ _ _ _) (ZP.setCells _ _ _ _) (fun b' hne=>Zm b _ _ _ b' (fun e=>hne (e▸hLb))) ?_ (fun S' hS=> ?_)
   ·have hsz':∀w,(Go.sizeOf el).run C.E.prog w= .ok sz w:=fun w=>by rw[hszr,hsz0]
    rw[hsz];rw[←hsz0]at hnf;simp[Builtin.copy_,hats,Za hut,n3,hn',hsz',hnf,hst]
   ·have hxt:(xs.take n).length=n:=by simp;omega
    have hsp:=ZbH es off (xs.take n) (by omega);refine⟨hsz,by rw[hsp];exact hel2,hlc,hlm',hbn,fun b1 hb1 m hm=> ?_,fun j=>if off≤j∧j < off+n then evs' (j - off)else evs j,fun j hj=> ?_,fun b1 hb1 j k u hj hu=> ?_,fun j z hz=> ?_⟩
    ·rw[hLb]at hb1;obtain rfl:=Znu hb1;obtain⟨⟨v0,q1⟩,q2⟩:=hcells b hLb m hm;refine⟨?_,by rw[World.frozen?_setCells];exact q2⟩;rw[hcell'];split
     ·exact⟨_,ZnL (by omega)⟩
     ·exact⟨v0,q1⟩
    ·dsimp only;split
     ·exact(n6 (j - off) (by omega)).1
     ·exact hev j hj
    ·rw[hLb]at hb1;obtain rfl:=Znu hb1;dsimp only at hu;rw[hcell'];split at hu
     ·rename_i hin';have hq:=(n6 (j - off) (by omega)).2 k u hu;have hk:k < sz:=by have:=(Zm4.1 hu).1;have:=(n6 (j - off) (by omega)).1;omega
      have h1:j*sz=off*sz+(j - off)*sz:=by rw[←Znp];congr 1;omega
      have h2:(j - off+1)*sz≤n*sz:=Znr _ (by omega);rw[Znp,ZnY]at h2;rw[if_pos (by omega),show L.base+j*sz+k - (L.base+off*sz)=(j - off)*sz+k by omega,Zng,if_pos (by omega)];exact hq
     ·rename_i hout;have hk:k < sz:=by have:=(Zm4.1 hu).1;have:=hev j hj;omega
      rw[if_neg]
      ·exact hcell b hLb j k u hj hu
      ·rintro⟨r1,r2⟩;rcases Nat.lt_or_ge j off with hlt |hge
       ·have:(j+1)*sz≤off*sz:=Znr _ hlt;rw[Znp,ZnY]at this;omega
       ·have:(off+n)*sz≤j*sz:=Znr _ (by omega);rw[Znp]at this;omega
    ·rw[ZbI _ _ _ (by omega),hxt]at hz;dsimp only;split at hz
     ·rename_i hin';rw[if_pos hin'];rw[Zng,if_pos (by omega)]at hz;exact(n7 _ z hz).mono kS hS
     ·rename_i hout;rw[if_neg hout];exact(hrel j z hz).mono kS hS
end
end Eng
namespace Eng
open Go
theorem Zav {td:TD} {x y:P} (hx:Zp td x=true) (hy:Zp td y=true):P.key x y=true↔x=y:=by
 cases td<;>cases x<;>simp[Zp]at hx<;>cases y<;>simp[Zp]at hy
 ·simp[P.key,P.eqv,P.eqc]
 ·subst hx;subst hy;simp[P.key,P.eqv,P.eqc]
 ·simp[P.key,P.eqv,P.eqc]
theorem ZaR {td:TD} {x:P} (hx:Zp td x=true):P.key x x=true:=(Zav hx hx).2 rfl
def Zfk (td:TD) (kv:List (P×P)):Prop:=(kv.Pairwise fun a b=>P.key a.1 b.1=false)∧∀q∈kv,Zp td q.1=true
theorem Zfk.perm {td:TD} {a b:List (P×P)} (h:Zfk td a) (hp:a.Perm b):Zfk td b:=by
 have hl:∀q∈b,Zp td q.1=true:=fun q hq=>h.2 q (hp.mem_iff.2 hq)
 refine⟨?_,hl⟩;have h':a.Pairwise fun x y=>x.1≠y.1:=h.1.imp_of_mem fun ha hb hk e=>by have:=(Zav (h.2 _ ha) (h.2 _ hb)).2 e;rw[hk]at this;simp at this
 have h'':b.Pairwise fun x y=>x.1≠y.1:=(hp.pairwise_iff (fun hab=>Ne.symm hab)).1 h'
 exact h''.imp_of_mem fun ha hb hk=>by
  cases hc:P.key _ _ with
  |false=>rfl
  |true=>exact absurd ((Zav (hl _ ha) (hl _ hb)).1 hc) hk
theorem Zfk.uniq {td:TD} {kv:List (P×P)} (h:Zfk td kv) {k:P} {v v':P} (h1:(k,v)∈kv) (h2:(k,v')∈kv):v=v':=by
 obtain⟨i,hi,he⟩:=ZnS.1 h1;obtain⟨j,hj,he'⟩:=ZnS.1 h2;have hkk:=ZaR (h.2 _ h1);rcases Nat.lt_trichotomy i j with hlt |heq |hgt
 ·have:=ZnV.1 h.1 i j hi hj hlt;rw[he,he']at this;simp[hkk]at this
 ·subst heq;rw[he]at he';simpa using he'
 ·have:=ZnV.1 h.1 j i hj hi hgt;rw[he,he']at this;simp[hkk]at this
theorem Zbu {td:TD} {kv:List (P×P)} (h:Zfk td kv) {k:P} (hk:Zp td k=true) (v:P):Zbv kv k=some v↔(k,v)∈kv:=by
 unfold Zbv;rw[Znt];constructor
 ·rintro⟨q,hq,rfl⟩;have h1:=List.find?_some hq;have h2:=List.mem_of_find?_eq_some hq;have:=(Zav hk (h.2 _ h2)).1 h1;rw[this];exact h2
 ·intro hm;cases hf:kv.find? fun e=>P.key k e.1 with
  |none=>
   have:=List.find?_eq_none.1 hf _ hm;simp[ZaR hk]at this
  |some q=>
   have h1:=List.find?_some hf;have h2:=List.mem_of_find?_eq_some hf;have h3:=(Zav hk (h.2 _ h2)).1 h1;obtain⟨q1,q2⟩:=q;simp only at h3;subst h3;exact⟨_,rfl,h.uniq h2 hm⟩
theorem ZcX {td:TD} {kv:List (P×P)} {k:P}:Zbv kv k=none↔∀q∈kv,P.key k q.1=false:=by unfold Zbv;simp
theorem Ze1 {td:TD} {a b:List (P×P)} (h:Zfk td a) (hp:a.Perm b) {k:P} (hk:Zp td k=true):Zbv a k=Zbv b k:=by
 cases hb:Zbv b k with
 |some v=>exact(Zbu h hk v).2 (hp.mem_iff.2 ((Zbu (h.perm hp) hk v).1 hb))
 |none=>
  cases ha:Zbv a k with
  |none=>rfl
  |some v=>
   have:=(Zbu (h.perm hp) hk v).2 (hp.mem_iff.1 ((Zbu h hk v).1 ha));rw[hb]at this;simp at this
theorem Zib {td:TD} {kv:List (P×P)} (hK:Zfk td kv) {k v v':P} (hk:Zp td k=true) {j:Nat} (hj:kv[j]? =some (k,v)):Zjs kv k v'=kv.set j (k,v'):=by
 have hany:kv.any (fun e=>P.key k e.1)=true:=ZnE.2 ⟨(k,v),ZnU hj,ZaR hk⟩;unfold Zjs;rw[if_pos hany];apply List.ext_getElem?;intro m;rw[Znf]
 by_cases hm:m=j
 ·subst hm;have hlt:m < kv.length:=(Zne.1 hj).1;rw[hj,ZnN hlt];simp[ZaR hk]
 ·rw[ZnM (Ne.symm hm)];cases hq:kv[m]? with
  |none=>rfl
  |some q=>
   have:P.key k q.1=false:=by
    cases hc:P.key k q.1 with
    |false=>rfl
    |true=>
     exfalso;have heq:=(Zav hk (hK.2 q (ZnU hq))).1 hc;obtain⟨hlt,he⟩:=Zne.1 hj;obtain⟨hlt',he'⟩:=Zne.1 hq;have hkk:=ZaR hk;rcases Nat.lt_or_gt_of_ne hm with hl |hg
     ·have:=ZnV.1 hK.1 m j hlt' hlt hl;rw[he,he',←heq]at this;simp[hkk]at this
     ·have:=ZnV.1 hK.1 j m hlt hlt' hg;rw[he,he',←heq]at this;simp[hkk]at this
   simp[this]
theorem Zgv {kv:List (P×P)} {k v:P} (h:Zbv kv k=none):Zjs kv k v=kv++[(k,v)]:=by unfold Zjs;rw[if_neg];intro hany;obtain⟨q,hq,hk⟩:=ZnE.1 hany;have:=(ZcX (td:= .bool)).1 h q hq;rw[hk]at this;simp at this
theorem Zgu {td:TD} {a b:List (P×P)} (hK:Zfk td a) (hp:a.Perm b) {k v:P} (hk:Zp td k=true):(Zjs a k v).Perm (Zjs b k v):=by
 unfold Zjs;have:a.any (fun e=>P.key k e.1)=b.any (fun e=>P.key k e.1):=by
  rw[Bool.eq_iff_iff,ZnE,ZnE];constructor
  ·rintro⟨q,h1,h2⟩;exact⟨q,hp.mem_iff.1 h1,h2⟩
  ·rintro⟨q,h1,h2⟩;exact⟨q,hp.mem_iff.2 h1,h2⟩
 rw[this];split
 ·exact hp.map _
 ·exact hp.append_right _
theorem Zgw {td:TD} {kv:List (P×P)} (hK:Zfk td kv) {k v:P} (hk:Zp td k=true):Zfk td (Zjs kv k v):=by
 unfold Zjs;split
 ·refine⟨?_, ?_⟩
  ·rw[List.pairwise_map];refine hK.1.imp fun {a b} hab=> ?_
   by_cases h1:P.key k a.1<;>by_cases h2:P.key k b.1<;>simp[h1,h2,hab]
  ·intro q hq;obtain⟨a,ha,rfl⟩:=ZnT.1 hq;split<;>exact hK.2 a ha
 ·rename_i hany;refine⟨List.pairwise_append.2 ⟨hK.1,List.pairwise_singleton _ _,fun a ha b hb=> ?_⟩, ?_⟩
  ·simp only[Znm]at hb;subst hb;cases hc:P.key a.1 k with
   |false=>rfl
   |true=>
    exfalso;have heq:=(Zav (hK.2 a ha) hk).1 hc;exact hany (ZnE.2 ⟨a,ha,by rw[heq];exact ZaR hk⟩)
  ·intro q hq;rcases Zni.1 hq with hq |hq
   ·exact hK.2 q hq
   ·simp only[Znm]at hq;subst hq;exact hk
theorem Zic {td:TD} {kv:List (P×P)} (hK:Zfk td kv) {k v:P} (hk:Zp td k=true) {j:Nat} (hj:kv[j]? =some (k,v)):ZkM kv k=kv.eraseIdx j:=by
 unfold ZkM
 induction kv generalizing j with
 |nil=>simp at hj
 |cons q kv ih=>
  have hK':Zfk td kv:=⟨(List.pairwise_cons.1 hK.1).2,fun q hq=>hK.2 q (by simp[hq])⟩;cases j with
  |zero=>
   simp only[Znc,Znv]at hj;subst hj;simp only[List.filter_cons,ZaR hk,Bool.not_true,Bool.false_eq_true,if_false,List.eraseIdx_cons_zero];apply List.filter_eq_self.2;intro a ha;have:=(List.pairwise_cons.1 hK.1).1 a ha;simpa using this
  |succ j=>
   simp only[ZnK]at hj;have:P.key k q.1=false:=by
    cases hc:P.key k q.1 with
    |false=>rfl
    |true=>
     have heq:=(Zav hk (hK.2 q (by simp))).1 hc;have:=(List.pairwise_cons.1 hK.1).1 _ (ZnU hj);rw[←heq,ZaR hk]at this;simp at this
   simp only[List.filter_cons,this,Bool.not_false,if_true,List.eraseIdx_cons_succ];rw[ih hK' hj]
theorem Zgz {kv:List (P×P)} {k:P} (h:Zbv kv k=none):ZkM kv k=kv:=by unfold ZkM;apply List.filter_eq_self.2;intro a ha;simp[(ZcX (td:= .bool)).1 h a ha]
theorem Zgy {a b:List (P×P)} (hp:a.Perm b) (k:P):(ZkM a k).Perm (ZkM b k):=hp.filter _
theorem ZgA {td:TD} {kv:List (P×P)} (hK:Zfk td kv) (k:P):Zfk td (ZkM kv k):=
 ⟨hK.1.filter _,fun q hq=>hK.2 q (List.mem_filter.1 hq).1⟩
section
variable {w:World} {S:Nat→Prop}
def Zgx (d:TypeDesc) (td:TD):Prop:=Zaz d td=true∧td.same td=true
theorem Zl6 {a b:TD} (h:a.same b=true):a=b∧b.same b=true:=by cases a<;>cases b<;>simp[TD.same]at h⊢ <;>simp[h]
theorem ZgP (s t:List UInt8):((ByteArray.mk s.toArray) == (ByteArray.mk t.toArray))=(s == t):=by rw[beq_toListBytes,Zf3,Zf3]
theorem Zhc {d:TypeDesc} {td:TD} (hd:Zgx d td) {x y:P} {u v:Value} (hx:Zp td x=true) (hy:Zp td y=true) (hu:RelP w S u x) (hv:RelP w S v y):Instr.sameNow d u v=some (P.key x y):=by
 obtain⟨h1,h2⟩:=hd;cases td<;>simp[TD.same]at h2<;>cases d<;>simp[Zaz]at h1<;>cases x<;>simp[Zp]at hx<;>cases y<;>simp[Zp]at hy
 ·rw[hu.bool_inv,hv.bool_inv];simp[Instr.sameNow,P.key,P.eqv,P.eqc]
 ·subst hx;subst hy;rw[hu.int_inv.1,hv.int_inv.1];simp[Instr.sameNow,P.key,P.eqv,P.eqc]
 ·rw[hu.str_inv.1,hv.str_inv.1];rename_i s t;simp only[Instr.sameNow,P.key,P.eqv,P.eqc,Option.getD_some,Znv];exact ZgP s t
theorem Zd7 {d:TypeDesc} {td:TD} (hd:Zgx d td) {x:P} {u:Value} (hx:Zp td x=true) (hu:RelP w S u x):∀(es:List MapEntry) (kv:List (P×P)) (n:Nat),es.length=kv.length→(∀q∈kv,Zp td q.1=true)→
  (∀(i:Nat) e q,es[i]? =some e→kv[i]? =some q→RelP w S e.key q.1)→
  (∀q∈kv,P.key x q.1=false)∧Instr.findNow d u es n=some none∨
  ∃(j:Nat) (e:MapEntry) (q:P×P),es[j]? =some e∧kv[j]? =some q∧P.key x q.1=true∧Instr.findNow d u es n=some (some (n+j,e.val))
 | [],[],n,_,_,_=> .inl ⟨by simp,rfl⟩
 | [],_::_,n,h,_,_=>by simp at h
 |_::_,[],n,h,_,_=>by simp at h
 |e::es,q::kv,n,hl,hk,hr=>by
  have hs:=Zhc hd hx (hk q (by simp)) hu (hr 0 e q rfl rfl);simp only[Instr.findNow,hs];cases hc:P.key x q.1 with
  |true=>exact .inr ⟨0,e,q,rfl,rfl,hc,by simp⟩
  |false=>
   rcases Zd7 hd hx hu es kv (n+1) (by simpa using hl) (fun q hq=>hk q (by simp[hq])) (fun i e q he hq=>hr (i+1) e q (by simpa using he) (by simpa using hq))with ⟨h1,h2⟩ |⟨j,e',q',h1,h2,h3,h4⟩
   ·exact .inl ⟨by simp[hc];exact fun a b hab=>h1 (a,b) hab,h2⟩
   ·exact .inr ⟨j+1,e',q',by simpa using h1,by simpa using h2,h3,by rw[h4,Nat.add_assoc,Nat.add_comm 1]⟩
theorem Zcb {P:Program} {kt:TypeId} {d:TypeDesc} {td:TD} (hu:P.underlying kt=some d) (hd:Zgx d td) {x:Eng.P} {u:Value} (hx:Zp td x=true) (hr:RelP w S u x) {es:List MapEntry} {kv:List (Eng.P×Eng.P)} (hl:es.length=kv.length) (hk:Zfk td kv)
  (hrk:∀(i:Nat) e q,es[i]? =some e→kv[i]? =some q→RelP w S e.key q.1):
  (Zbv kv x=none∧∀w',(Instr.findKey kt u es).run P w'= .ok none w')∨
  ∃(j:Nat) (e:MapEntry) (v:Eng.P),es[j]? =some e∧kv[j]? =some (x,v)∧Zbv kv x=some v∧∀w',(Instr.findKey kt u es).run P w'= .ok (some (j,e.val)) w':=by
 rcases Zd7 hd hx hr es kv 0 hl hk.2 hrk with ⟨h1,h2⟩ |⟨j,e,q,h1,h2,h3,h4⟩
 ·exact .inl ⟨(ZcX (td:=td)).2 h1,fun w'=>by simp[Instr.findKey,Za hu,h2]⟩
 ·have hm:=ZnU h2;have:=(Zav hx (hk.2 q hm)).1 h3;obtain⟨q1,q2⟩:=q;simp only at this;subst this;exact .inr ⟨j,e,q2,h1,h2,(Zbu hk hx q2).2 hm,fun w'=>by simp[Instr.findKey,Za hu,h4]⟩
theorem Zax {P:Program} {kt:TypeId} {d:TypeDesc} {td:TD} (hu:P.underlying kt=some d) (hd:Zgx d td) (b:Bool) (v:Value) (w':World):(Instr.checkKey b 10000 kt v).run P w'= .ok () w':=by obtain⟨h1,h2⟩:=hd;show (Instr.checkKey b (9999+1) kt v).run P w'= .ok () w';generalize 9999=n;cases td<;>simp[TD.same]at h2<;>cases d<;>simp[Zaz]at h1<;>simp[Instr.checkKey,Za hu]
theorem ZcY {P:Program} {td:TD} {x:Eng.P} {u v:Value} (hx:Zp td x=true) (hu:RelP w S u x) (hv:RelP w S v x) (w':World):(Instr.keyThatStays u v).run P w'= .ok v w':=by
 have:Instr.sameBits 10000 u v=true:=by
  cases td<;>cases x<;>simp[Zp]at hx
  ·rw[hu.bool_inv,hv.bool_inv];simp[Instr.sameBits]
  ·rw[hu.int_inv.1,hv.int_inv.1];simp[Instr.sameBits]
  ·rw[hu.str_inv.1,hv.str_inv.1];simp[Instr.sameBits,ZgP]
 simp[Instr.keyThatStays,this]
end
end Eng
namespace Eng
open Go
section
variable {C:Ctx} {X:Nat→Prop} {ρ:Id→Option Lay} {S:Nat→Prop} {st:St} {a:Act} {w:World} {i:Nat} {o:Oper} {e:Eff}
theorem ZfH {td:TD} {S':Nat→Prop} {v:Value} {x:P} (hx:Zp td x=true) (h:RelP w S v x):RelP w S' v x:=by
 cases td<;>cases x<;>simp[Zp]at hx
 ·rw[h.bool_inv];exact .bool _
 ·obtain⟨rfl,h0,h1⟩:=h.int_inv;exact .int _ _ h0 h1
 ·obtain⟨rfl,h0⟩:=h.str_inv;exact .str _ h0
theorem Zn.key {E:Env} (hE:Zn E) {t:Nat} {ti:TI} {kt el:Nat} (hty:E.ty t=some ti) (hd:ti.d= .map kt el) {td:TD} (hs:(E.keyTD t).same td=true):∃d,E.prog.underlying kt=some d∧Zgx d td:=by
 have hk:E.keyTD t=(match E.td kt with |some d=>d |none=> .other):=by unfold Env.keyTD;rw[hty];cases ti;simp only at hd;subst hd;rfl
 rw[hk]at hs;cases hq:E.td kt with
 |none=>rw[hq]at hs;simp[TD.same]at hs
 |some d=>
  rw[hq]at hs;obtain⟨h1,h2⟩:=Zl6 hs;simp only at h1;subst h1;obtain⟨d',h3,h4⟩:=hE.und hq;exact⟨d',h3,h4,h2⟩
section
variable (h:Rep C X ρ S st a.tmps w) (hi:¬X i) (ht:∀d,o.dst=some d→d < C.E.nt) (hlit:o.op.operands.all ZD=true) (hE:Zn C.E)
include h hi ht hlit hE
theorem Zhz {t:TypeId} {m k:Operand} {ok:Bool} (ho:o.op= .lookup t m k ok) (hc:Ze C.E st.ep i o.op o.type st.slots st.objs=some e):Zx C X st a w i o e:=by
 rw[ho]at hc hlit;simp[Op.operands]at hlit;have h1:=Zk h 0 hlit.1;simp only[Ze]at hc;split at hc;rotate_left;simp at hc;rename_i kt el sz by_ ze hty;have h2:=Zk h kt hlit.2;split at hc;rotate_left;simp at hc;rename_i te td kv kp hte hm hk;split at hc;rotate_left;simp at hc;rename_i hcnd;simp only[Zm8]at hcnd;obtain⟨hs,hleaf⟩:=hcnd;simp only[Znv]at hc;have hum:=hE.map hty rfl;obtain⟨d,hud,hkd⟩:=hE.key hty rfl hs;have hkp:RelP w S (a.eval k) kp:=ZfH (S:=fun _=>True) hleaf (Zar (S':=fun _=>True) h.objs (fun _ _=>trivial) 1 _ _ _ h2 hk (fun _ _ _ _ _ _=>trivial));obtain⟨z,hz,hzs,hzr⟩:=Zbk (w:=w) (S:=S) hE hte;generalize hvk:a.eval k=vk at hkp;generalize hvm:a.eval m=vm at h1;have hmap:(vm= .map none∧kv=[])∨∃r es clock kv',vm= .map (some r)∧w.heap[r]? =some (.map es clock)∧kv'.Perm kv∧es.size=kv'.length∧Zfk td kv'∧
   ∀(i:Nat) e q,es[i]? =some e→kv'[i]? =some q→RelP w S e.key q.1∧RelP w S e.val q.2:=by
  unfold ZfE at hm;split at hm
  ·rename_i td' kv' hx;simp only[Znv,Znw]at hm;obtain⟨rfl,rfl⟩:=hm;rw[hx]at h1;have h1:=h1.of_p;cases h1 with
   |nilmap=>exact .inl ⟨rfl,rfl⟩
   |map td r es clock kv kv' hS hb hp hl hk hv hd hkey hborn hbd=>exact .inr ⟨r,es,clock,kv',rfl,hb,hp,hl,⟨hd,hkey⟩,fun i e q he hq=>⟨hk i e q he hq,hv i e q he hq⟩⟩
  ·rename_i id hx;split at hm;rotate_left;simp at hm;rename_i td' kv' hlk;simp only[Znv,Znw]at hm;obtain⟨rfl,rfl⟩:=hm;rw[hx]at h1;cases h1 with
   |map id L r hL hLb=>
    obtain⟨L',hL',r',hr',es,clock,kv',hb,hp,hl,hkv,hd2,hkey,hborn,hbd⟩:=h.objs id _ hlk (by simp);rw[hL]at hL';obtain rfl:=Znu hL';rw[hLb]at hr';obtain rfl:=Znu hr';exact .inr ⟨r,es,clock,kv',rfl,hb,hp,hl,⟨hd2,hkey⟩,hkv⟩
  ·simp at hm
 have hout:∃v b,(Instr.lookup t vm vk ok).run C.E.prog w= .ok (if ok then .tuple #[v,.bool b]else v) w∧
   (match Zbv kv kp with |some x=>RelP w S v x∧b=true |none=>RelP w S v te.zeroP∧b=false):=by
  rcases hmap with ⟨rfl,rfl⟩ |⟨r,es,clock,kv',rfl,hb,hp,hl,hK,hrel⟩
  ·refine⟨z,false, ?_,hzr,rfl⟩;have hck:=Zax hud hkd true vk w;have hfk:(Instr.findKey kt vk (#[]:Array MapEntry).toList).run C.E.prog w= .ok none w:=by simp[Instr.findKey,Za hud,Instr.findNow]
   cases ok<;>simp[Instr.lookup,Za hum,hck,hfk,hz]<;>simpa using hfk
  ·have hck:=Zax hud hkd es.isEmpty vk w;rcases Zcb (es:=es.toList) hud hkd hleaf hkp (by simpa using hl) hK (fun i e q he hq=>(hrel i e q (by simpa using he) hq).1)with ⟨g1,g2⟩ |⟨j,e',v',g1,g2,g3,g4⟩
   ·rw[←Ze1 hK hp hleaf,g1];refine⟨z,false, ?_,hzr,rfl⟩;cases ok<;>simp[Instr.lookup,Za hum,getObj,Sem.run,hb,hck,g2,hz]
   ·rw[←Ze1 hK hp hleaf,g3];refine⟨e'.val,true, ?_,(hrel j e' _ (by simpa using g1) g2).2,rfl⟩;cases ok<;>simp[Instr.lookup,Za hum,getObj,Sem.run,hb,hck,g4]
 obtain⟨v,b,hrun,hv⟩:=hout;subst hc;refine Zx.quiet h hi ht (v:=if ok then .tuple #[v,.bool b]else v) (by simp only[execOp,ho,hvm,hvk,Sem.run_bind,hrun,Result.andThen_ok,Sem.run_pure]) rfl rfl rfl ?_;have tup:∀(x:P),RelP w S v x→RelD w S ρ (.tuple #[v,.bool b]) (.tup [.p x,.p (.bool b)]):=by
  intro x hx;refine .tup _ _ rfl fun i u c hu hc=> ?_
  match i with
  |0=>simp at hu hc;subst hu hc;exact .p _ _ hx
  |1=>simp at hu hc;subst hu hc;exact .p _ _ (.bool b)
  |i+2=>simp at hc
 cases hf:Zbv kv kp with
 |some x=>
  rw[hf]at hv;obtain⟨hv,rfl⟩:=hv;cases ok
  ·exact .p _ _ hv
  ·exact tup x hv
 |none=>
  rw[hf]at hv;obtain⟨hv,rfl⟩:=hv;cases ok
  ·exact .p _ _ hv
  ·exact tup _ hv
theorem Zx.map {id:Id} {td:TD} {kv kv2:List (P×P)} {r:Nat} {L:Lay} {fs:List Id} {w':World} {c:List Bool} {n:Next} {es:Array MapEntry} {clock:Nat} {kv':List (P×P)}
  (hlk:st.objs id=some (.map td kv)) (hL:ρ id=some L) (hLb:L.blk=some r) (hfz:st.fz id=false) (hfs:∀f∈fs,∃o,st.objs f=some o∧o≠ .gone) (hap:∀f∈fs,id≠f)
  (hrun:(execOp a.eval o).run C.E.prog w= .ok n w') (hn:n= .value undef∨n= .skip)
  (hheap:w'.heap=w.heap.setIfInBounds r (.map es clock)) (hqu:ZP w w') (hK:Zfk td kv') (hp:kv'.Perm kv2) (hl:es.size=kv'.length)
  (hrel:∀S',(∀b,S b→S' b)→(∀f,f∈fs→∀o L b,st.objs f=some o→o≠ .gone→ρ f=some L→L.blk=some b→S' b)→∀(i:Nat) e q,es[i]? =some e→kv'[i]? =some q→RelP w S' e.key q.1∧RelP w S' e.val q.2)
  (hborn:∀(i:Nat) e,es[i]? =some e→e.born < clock) (hbd:∀(i j:Nat) e e',es[i]? =some e→es[j]? =some e'→e.born=e'.born→i=j)
  (he:e={val:= .undef,wr:=[(id,.map td kv2)],frz:=fs,cond:=c}):Zx C X st a w i o e:=by
 subst he;have hown:=h.own id _ L r hlk (by simp) hL hLb;have hnS:¬S r:=hown.2.2.2 hfz;have hold:∀b,b≠r→w'.heap[b]? =w.heap[b]? :=fun b hb=>by rw[hheap];exact Array.getElem?_setIfInBounds_ne (Ne.symm hb)
 have hnew:w'.heap[r]? =some (.map es clock):=by rw[hheap];simp[hown.1]
 have hsz:w'.heap.size=w.heap.size:=by rw[hheap];simp
 let FS:Nat→Prop:=fun b=>S b∨∃f o L,f∈fs∧st.objs f=some o∧o≠ .gone∧ρ f=some L∧L.blk=some b
 have kF:ZbQ FS w w':=fun b hb _=>hold b fun e=>by
  subst e;rcases hb with hb |⟨f,o',L',q1,q2,q3,q4,q5⟩
  ·exact hnS hb
  ·exact hap f q1 (h.inj id _ L f o' L' b hlk (by simp) hL hLb q2 q3 q4 q5)
 refine⟨n,undef,w',hrun,by rcases hn with rfl |rfl;exact .inl rfl;exact .inr ⟨rfl,rfl⟩,ρ,h.step ρ hi ht (by omega) hqu ?_ ?_ (fun _ _ h=>h) (fun id h=> .inl h) ?_ (fun _ _ hm=>by simp at hm) (fun _ _ _ _ _ _ _ hm=>by simp at hm) ?_ ?_⟩
 ·intro b hb hne;exact hold b (fun e=>hne id _ L (Znm.2 rfl) hL (e▸hLb))
 ·intro id' o' hm;simp only[Znm,Znw]at hm;obtain⟨rfl,rfl⟩:=hm;exact⟨hfz,_,hlk,by simp⟩
 ·intro f hf;obtain⟨o',q1,q2⟩:=hfs f hf;obtain⟨L',hL',_⟩:=h.objs f o' q1 q2;refine⟨by simp[hL'],fun o'' hm=> ?_⟩;simp only[Znm,Znw]at hm;exact hap f hf hm.1.symm
 ·intro id' o' L1 hm _ hL1 S' hS hF;simp only[Znm,Znw]at hm;obtain⟨rfl,rfl⟩:=hm;rw[hL]at hL1;obtain rfl:=Znu hL1;have hFS:∀b,FS b→S' b:=fun b hb=>by
   rcases hb with hb |⟨idq,o',L,q1,q2,q3,q4,q5⟩
   ·exact hS b hb
   ·exact hF idq q1 o' L b q2 q3 q4 q5
  have hr:=hrel FS (fun b hb=> .inl hb) (fun f hf o L b q2 q3 q4 q5=> .inr ⟨f,o,L,hf,q2,q3,q4,q5⟩);exact⟨r,hLb,es,clock,kv',hnew,hp,hl,fun i e q he hq=>⟨(hr i e q he hq).1.mono kF hFS,(hr i e q he hq).2.mono kF hFS⟩,hK.1,hK.2,hborn,hbd⟩
 ·intro S' _ _ d _;exact .undef
theorem Zb0 {t:TypeId} {m k v:Operand} (ho:o.op= .mapUpdate t m k v∨o.op= .insert t m k v) (hc:Ze C.E st.ep i o.op o.type st.slots st.objs=some e) (hw:Zdq st e=true):Zx C X st a w i o e:=by
 have hlm:ZD m=true∧ZD k=true∧ZD v=true:=by rcases ho with ho |ho<;>rw[ho]at hlit<;>simpa[Op.operands,and_assoc]using hlit
 have hc:Z4 C.E st.slots st.objs t m k v=some e:=by rcases ho with ho |ho<;>rw[ho]at hc<;>simpa[Ze]using hc
 have hexec:(execOp a.eval o).run C.E.prog w=((Instr.mapUpdate t (a.eval m) (a.eval k) (a.eval v)).run C.E.prog w).andThen fun _ w'=> .ok .skip w':=by rcases ho with ho |ho<;>simp only[execOp,ho,Sem.run_bind,Sem.run_pure]
 have h1:=Zk h 0 hlm.1;unfold Z4 at hc;split at hc;rotate_left;simp at hc;rename_i kt vt sz by_ ze hty;have h2:=Zk h kt hlm.2.1;have h3:=Zk h vt hlm.2.2;split at hc;rotate_left;simp at hc;rename_i id hm;split at hc;rotate_left;simp at hc;rename_i td kv kp vp hlk hk hv;split at hc;rotate_left;simp at hc;rename_i hcnd;simp only[Zm8]at hcnd;obtain⟨hs,hleaf⟩:=hcnd;simp only[Znv]at hc;have hum:=hE.map hty rfl;obtain⟨d,hud,hkd⟩:=hE.key hty rfl hs;have hkp:RelP w S (a.eval k) kp:=ZfH (S:=fun _=>True) hleaf (Zar (S':=fun _=>True) h.objs (fun _ _=>trivial) 1 _ _ _ h2 hk (fun _ _ _ _ _ _=>trivial));have hids:=Zbn depth _ _ hv;have hvp:∀S',(∀b,S b→S' b)→(∀f,f∈(ev C.E st.slots vt v).ids st.objs depth→∀o L b,st.objs f=some o→o≠ .gone→ρ f=some L→L.blk=some b→S' b)→RelP w S' (a.eval v) vp:=fun S' hS hF=>
  Zar (S':=S') h.objs hS depth _ _ _ h3 hv (fun id hid L b hL hb=>by obtain⟨o',q1,q2⟩:=hids id hid;exact hF id hid o' L b q1 q2 hL hb)
 generalize hvk:a.eval k=vk at hkp hexec;generalize hvm:a.eval m=vm at h1 hexec;generalize hvv:a.eval v=vv at hvp hexec;rw[hm]at h1;rw[←hc]at hw;simp only[Zdq,Zm8,ZnD,Znm,forall_eq,ZnB,decide_eq_true_eq]at hw;cases h1 with
 |map _ L r hL hLb=>
  obtain⟨L',hL',r',hr',es,clock,kv',hb,hp,hl,hkv,hd2,hkey,hborn,hbd⟩:=h.objs id _ hlk (by simp);rw[hL]at hL';obtain rfl:=Znu hL';rw[hLb]at hr';obtain rfl:=Znu hr';have hK:Zfk td kv':=⟨hd2,hkey⟩;have hck:=Zax hud hkd false vk w;rcases Zcb (es:=es.toList) hud hkd hleaf hkp (by simpa using hl) hK (fun i e q he hq=>(hkv i e q (by simpa using he) hq).1)with ⟨g1,g2⟩ |⟨j,e',v',g1,g2,g3,g4⟩
  ·refine Zx.map h hi ht hlit hE (w':={w with heap:=w.heap.setIfInBounds r (.map (es.push {key:=vk,val:=vv,born:=clock}) (clock+1))}) hlk hL hLb hw.1 hids hw.2 (n:= .skip) ?_ (.inr rfl) rfl ⟨rfl,rfl⟩ (Zgw hK hleaf (v:=vp)) (Zgu hK hp hleaf) ?_ ?_ ?_ ?_ (c:=[]) hc.symm
   ·rw[hexec];simp[Instr.mapUpdate,Za hum,getObj,setObj,Sem.run,hb,hck,g2]
   ·rw[Zgv g1];simp[hl]
   ·intro S' hS hF n e q he hq;rw[Zgv g1]at hq;rw[Array.getElem?_push]at he;split at he
    ·rename_i hn;cases he;rw[hn,hl,ZnJ (Znq _)]at hq;simp at hq;subst hq;exact⟨hkp.mono (fun _ _ _=>rfl) hS,hvp S' hS hF⟩
    ·have hn:n < kv'.length:=by have:=(Zm4.1 he).1;omega
     rw[ZnI hn]at hq;exact⟨(hkv n e q he hq).1.mono (fun _ _ _=>rfl) hS,(hkv n e q he hq).2.mono (fun _ _ _=>rfl) hS⟩
   ·intro n e he;rw[Array.getElem?_push]at he;split at he
    ·cases he;simp
    ·have:=hborn n e he;omega
   ·intro n m e e' he he' hb;rw[Array.getElem?_push]at he he';split at he<;>split at he'
    ·omega
    ·cases he;have:=hborn m e' he';simp at hb;omega
    ·simp only[Znv]at he';subst he';have:=hborn n e he;simp at hb;omega
    ·exact hbd n m e e' he he' hb
  ·have hje:es[j]? =some e':=by simpa using g1
   have hjl:j < es.size:=(Zm4.1 hje).1;refine Zx.map h hi ht hlit hE (w':={w with heap:=w.heap.setIfInBounds r (.map (es.modify j fun e=>{e with key:=vk,val:=vv}) clock)}) hlk hL hLb hw.1 hids hw.2 (n:= .skip) ?_ (.inr rfl) rfl ⟨rfl,rfl⟩ (Zgw hK hleaf (v:=vp)) (Zgu hK hp hleaf) ?_ ?_ ?_ ?_ (c:=[]) hc.symm
   ·have hst:=ZcY (P:=C.E.prog) hleaf (hkv j e' _ hje g2).1 hkp w;rw[hexec];simp[Instr.mapUpdate,Za hum,getObj,setObj,Sem.run,hb,hck,g4,hje,hst]
   ·rw[Zib hK hleaf g2];simp[hl]
   ·intro S' hS hF n e q he hq;rw[Zib hK hleaf g2]at hq;rw[Zny]at he;split at he
    ·rename_i hjn;subst hjn;rw[hje]at he;simp only[Option.map_some,Znv]at he;subst he;rw[ZnN (by omega)]at hq;cases hq;exact⟨hkp.mono (fun _ _ _=>rfl) hS,hvp S' hS hF⟩
    ·rename_i hjn;rw[ZnM hjn]at hq;exact⟨(hkv n e q he hq).1.mono (fun _ _ _=>rfl) hS,(hkv n e q he hq).2.mono (fun _ _ _=>rfl) hS⟩
   ·intro n e he;rw[Zny]at he;split at he
    ·rename_i hjn;subst hjn;rw[hje]at he;simp only[Option.map_some,Znv]at he;subst he;exact hborn _ e' hje
    ·exact hborn n e he
   ·have hbm:∀(n:Nat) (e:MapEntry),(es.modify j fun e=>{e with key:=vk,val:=vv})[n]? =some e→∃e0,es[n]? =some e0∧e0.born=e.born:=by
     intro n e he;rw[Zny]at he;split at he
     ·rename_i hjn;subst hjn;rw[hje]at he;simp only[Option.map_some,Znv]at he;subst he;exact⟨e',hje,rfl⟩
     ·exact⟨e,he,rfl⟩
    intro n m e1 e2 he1 he2 hb;obtain⟨a1,q1,q2⟩:=hbm n e1 he1;obtain⟨a2,q3,q4⟩:=hbm m e2 he2;exact hbd n m a1 a2 q1 q3 (by omega)
theorem Zkn {it:Operand} (ho:o.op= .next it true) (hc:Ze C.E st.ep i o.op o.type st.slots st.objs=some e) (hw:Zdq st e=true):Zx C X st a w i o e:=by
 rw[ho]at hc hlit;simp[Op.operands]at hlit;have h1:=Zk h 0 hlit;simp only[Ze]at hc;split at hc;rotate_left;simp at hc;rename_i id hx;rw[hx]at h1;generalize hv:a.eval it=v at h1;split at hc;rotate_left;simp at hc;rename_i s pos hlk;cases h1 with
 |it _ L b hL hLb=>
 obtain⟨L',hL',b',hLb',hheap,hsl⟩:=h.objs id _ hlk (by simp);rw[hL]at hL';obtain rfl:=Znu hL';rw[hLb]at hLb';obtain rfl:=Znu hLb';split at hc
 ·rename_i hlt;cases hc;have hfz:st.fz id=false:=by simp only[Zdq,Zm8,ZnD,Znm,forall_eq,ZnB]at hw;exact hw.1
  have hown:=h.own id _ L b hlk (by simp) hL hLb;have hr32:IntKind.i32.min≤((Utf8.decode ⟨s.toArray⟩ pos).1:Int)∧((Utf8.decode ⟨s.toArray⟩ pos).1:Int)≤IntKind.i32.max:=by
   have:=decode_le ⟨s.toArray⟩ pos;have e1:IntKind.i32.min= -2147483648:=by decide
   have e2:IntKind.i32.max=2147483647:=by decide
   omega
  refine⟨.value (.tuple #[.bool true,goInt pos,.int .i32 (Utf8.decode ⟨s.toArray⟩ pos).1]),_,{w with heap:=w.heap.setIfInBounds b (.stringIter ⟨s.toArray⟩ (pos+(Utf8.decode ⟨s.toArray⟩ pos).2))}, ?_,.inl rfl,ρ,
   h.step (v:= .tuple #[.bool true,goInt pos,.int .i32 (Utf8.decode ⟨s.toArray⟩ pos).1]) ρ hi ht (by simp) ⟨rfl,rfl⟩ ?_ ?_ (fun _ _ h=>h) (fun id h=> .inl h) (by simp) (fun _ _ hm=>by simp at hm) (fun _ _ _ _ _ _ _ hm=>by simp at hm) ?_ ?_⟩
  ·simp[execOp,ho,hv,Instr.next,getObj,setObj,Sem.run,hheap,Za3,hlt]
  ·intro b1 hb1 hne;have hbb:b≠b1:=fun e=>hne id _ L (Znm.2 rfl) hL (by rw[hLb,e])
   exact Array.getElem?_setIfInBounds_ne hbb
  ·intro id' o' hm;simp only[Znm,Znw]at hm;obtain⟨rfl,rfl⟩:=hm;exact⟨hfz,_,hlk,by simp⟩
  ·intro id' o' L1 hm _ hL1 S' hS _;simp only[Znm,Znw]at hm;obtain⟨rfl,rfl⟩:=hm;rw[hL]at hL1;obtain rfl:=Znu hL1;exact⟨b,hLb,by simp[hown.1],hsl⟩
  ·intro S' _ _ d _;refine .tup _ _ rfl fun j u c hu hc=> ?_
   match j with
   |0=>simp at hu hc;subst hu hc;exact .p _ _ (.bool true)
   |1=>simp at hu hc;subst hu hc;exact .p _ _ (.int _ _ (ZdR (by omega)).1 (ZdR (by omega)).2)
   |2=>simp at hu hc;subst hu hc;exact .p _ _ (.int _ _ hr32.1 hr32.2)
   |j+3=>simp at hc
 ·rename_i hge;cases hc;refine Zx.quiet h hi ht (v:= .tuple #[.bool false]) (by simp[execOp,ho,hv,Instr.next,getObj,Sem.run,hheap,Za3,hge]) rfl rfl rfl ?_;refine .tup _ _ rfl fun j u c hu hc=> ?_
  match j with
  |0=>simp at hu hc;subst hu hc;exact .p _ _ (.bool false)
  |j+1=>simp at hc
theorem Zi4 {it:Operand} (ho:o.op= .entry it) (hc:Ze C.E st.ep i o.op o.type st.slots st.objs=some e):Zx C X st a w i o e:=by
 rw[ho]at hc hlit;simp[Op.operands]at hlit;have h1:=Zk h 0 hlit;simp only[Ze]at hc;split at hc;rotate_left;simp at hc;rename_i id hx;rw[hx]at h1;generalize hv:a.eval it=v at h1;split at hc;rotate_left;simp at hc;rename_i rest k x hlk;cases h1 with
 |it _ L b hL hLb=>
 obtain⟨L',hL',b',hLb',hmit⟩:=h.objs id _ hlk (by simp);rw[hL]at hL';obtain rfl:=Znu hL';rw[hLb]at hLb';obtain rfl:=Znu hLb';cases hc;rcases hmit with ⟨_,_,_,_,_,hcn⟩ |⟨m,es,clock,seen,kv',hm,hbm,hbr,hl,hr,hborn,hbd,hperm,q,e',he',hq,hback⟩
 ·simp at hcn
 ·have hfind:es.find? (fun e=>e.born == e'.born)=some e':=by
   have hsome:∃y,es.find? (fun e=>e.born == e'.born)=some y:=by
    cases hf:es.find? (fun e=>e.born == e'.born)with
    |some y=>exact⟨y,rfl⟩
    |none=>
     have:=Array.find?_eq_none.1 hf e' (Array.mem_of_getElem? he');simp at this
   obtain⟨y,hy⟩:=hsome;have h1:=Array.find?_some hy;have h2:=Array.mem_of_find?_eq_some hy;obtain⟨n,hn,rfl⟩:=Zm6.1 h2;simp only[beq_iff_eq]at h1;have:=hbd n q es[n] e' (by simp[hn]) he' h1;subst this;rw[hy];simp[hn]at he';rw[he']
  have hrun:(Instr.entry (.pointer (some ⟨b,0,none⟩))).run C.E.prog w= .ok (.tuple #[e'.key,e'.val]) w:=by simp[Instr.entry,getObj,Sem.run,hbr,hbm,hback,hfind]
  refine Zx.quiet h hi ht (v:= .tuple #[e'.key,e'.val]) (by simp only[execOp,ho,hv,Sem.run_bind,hrun,Result.andThen_ok,Sem.run_pure]) rfl rfl rfl ?_;have hkv:=hr q e' _ he' hq;refine .tup _ _ rfl fun j u c hu hc=> ?_
  match j with
  |0=>simp at hu hc;subst hu hc;exact .p _ _ hkv.1
  |1=>simp at hu hc;subst hu hc;exact .p _ _ hkv.2
  |j+2=>simp at hc
theorem ZhA {args:Array Operand} {ats:Array TypeId} (ho:o.op= .call {callee:= .builtin .delete,args,argTypes:=ats}) (hc:Ze C.E st.ep i o.op o.type st.slots st.objs=some e) (hw:Zdq st e=true):Zx C X st a w i o e:=by
 have hlit':=hlit;rw[ho]at hc hlit';simp only[Ze,ZL]at hc;unfold Zef at hc;split at hc<;>(try simp only[reduceCtorEq]at hc);rename_i t ts id k hds hlen;have hats:ats[0]? =some t:=by rw[←Znz,hds];rfl
 obtain⟨hl,hr⟩:=Zai h args.toList ats.toList (fun x hx=>by simp[Op.operands,Call.operands]at hlit';obtain⟨j,hj,rfl⟩:=Zm6.1 (Zm7.1 hx);exact hlit' j hj)
 rw[hlen]at hl hr;split at hc<;>(try simp only[reduceCtorEq]at hc);rename_i kt el td kv kp htd hlk hk;split at hc<;>(try simp only[reduceCtorEq]at hc);rename_i hcnd;simp only[Zm8]at hcnd;obtain⟨hs,hleaf⟩:=hcnd;simp only[Znv]at hc;obtain⟨ti,hty,htid⟩:∃ti,C.E.ty t=some ti∧ti.d= .map kt el:=by unfold Env.td at htd;split at htd;rotate_left;simp at htd;rename_i ti hti;exact⟨ti,hti,by simpa using htd⟩
 have hum:=hE.map hty htid;obtain⟨d,hud,hkd⟩:=hE.key hty htid hs
 match hxx:args.toList,hl with
 | [xm0,xk0],_=>
  rw[hxx]at hr;have hrm:=hr 0 (a.eval xm0) (.map id) rfl rfl;have hrk:=hr 1 (a.eval xk0) k rfl rfl;have hargs:args.map a.eval= #[a.eval xm0,a.eval xk0]:=by rw[←ZnA (xs:=args),hxx];simp
  generalize a.eval xk0=vk at hargs hrk;generalize a.eval xm0=vm at hargs hrm;have hkp:RelP w S vk kp:=ZfH (S:=fun _=>True) hleaf (Zar (S':=fun _=>True) h.objs (fun _ _=>trivial) 1 _ _ _ hrk hk (fun _ _ _ _ _ _=>trivial));obtain⟨csb,hx⟩:=ZE (a:=a) (w:=w) (P:=C.E.prog) ho;cases hrm with
  |map _ L r hL hLb=>
   have hw':=hw;rw[←hc]at hw';simp only[Zdq,Zm8,ZnD,Znm,forall_eq,ZnB,decide_eq_true_eq]at hw';obtain⟨L',hL',r',hr',es,clock,kv',hb,hp,hl,hkv,hd2,hkey,hborn,hbd⟩:=h.objs id _ hlk (by simp);rw[hL]at hL';obtain rfl:=Znu hL';rw[hLb]at hr';obtain rfl:=Znu hr';have hK:Zfk td kv':=⟨hd2,hkey⟩;have hck:=Zax hud hkd es.isEmpty vk w;rcases Zcb (es:=es.toList) hud hkd hleaf hkp (by simpa using hl) hK (fun i e q he hq=>(hkv i e q (by simpa using he) hq).1)with ⟨g1,g2⟩ |⟨j,e',v',g1,g2,g3,g4⟩
   ·refine Zx.map h hi ht hlit hE (w':={w with heap:=w.heap.setIfInBounds r (.map es clock)}) (fs:=[]) hlk hL hLb hw'.1 (by simp) (by simp) (n:= .value (.tuple #[])) ?_ (.inl rfl) rfl ⟨rfl,rfl⟩ (ZgA hK kp) (Zgy hp kp) ?_ ?_ hborn hbd (c:=[]) hc.symm
    ·rw[hx,hargs];refine Zge ?_;simp[Builtin.delete_,hats,Za hum,getObj,setObj,Sem.run,hb,hck,g2]
    ·rw[Zgz g1];exact hl
    ·intro S' hS _ n e q he hq;rw[Zgz g1]at hq;exact⟨(hkv n e q he hq).1.mono (fun _ _ _=>rfl) hS,(hkv n e q he hq).2.mono (fun _ _ _=>rfl) hS⟩
   ·have hje:es[j]? =some e':=by simpa using g1
    have hjl:j < es.size:=(Zm4.1 hje).1;have her:∀n,(es.eraseIdxIfInBounds j)[n]? =if n < j then es[n]? else es[n+1]? :=by
     intro n;have hsub:(es.eraseIdxIfInBounds j).toList=es.toList.eraseIdx j:=by unfold Array.eraseIdxIfInBounds;simp[hjl]
     rw[←Znz,hsub,List.getElem?_eraseIdx];simp
    refine Zx.map h hi ht hlit hE (w':={w with heap:=w.heap.setIfInBounds r (.map (es.eraseIdxIfInBounds j) clock)}) (fs:=[]) hlk hL hLb hw'.1 (by simp) (by simp) (n:= .value (.tuple #[])) ?_ (.inl rfl) rfl ⟨rfl,rfl⟩ (ZgA hK kp) (Zgy hp kp) ?_ ?_ ?_ ?_ (c:=[]) hc.symm
    ·rw[hx,hargs];refine Zge ?_;simp[Builtin.delete_,hats,Za hum,getObj,setObj,Sem.run,hb,hck,g4]
    ·rw[Zic hK hleaf g2];have:(es.eraseIdxIfInBounds j).size=es.size - 1:=by unfold Array.eraseIdxIfInBounds;simp[hjl]
     rw[this,List.length_eraseIdx,if_pos (by omega),hl]
    ·intro S' hS _ n e q he hq;rw[Zic hK hleaf g2,List.getElem?_eraseIdx]at hq;rw[her]at he;split at he
     ·rename_i hn;rw[if_pos hn]at hq;exact⟨(hkv n e q he hq).1.mono (fun _ _ _=>rfl) hS,(hkv n e q he hq).2.mono (fun _ _ _=>rfl) hS⟩
     ·rename_i hn;rw[if_neg hn]at hq;exact⟨(hkv _ e q he hq).1.mono (fun _ _ _=>rfl) hS,(hkv _ e q he hq).2.mono (fun _ _ _=>rfl) hS⟩
    ·intro n e he;rw[her]at he;split at he
     ·exact hborn _ e he
     ·exact hborn _ e he
    ·intro n m e1 e2 he1 he2 hb;rw[her]at he1 he2;split at he1<;>split at he2
     ·exact hbd n m e1 e2 he1 he2 hb
     ·have:=hbd n (m+1) e1 e2 he1 he2 hb;omega
     ·have:=hbd (n+1) m e1 e2 he1 he2 hb;omega
     ·have:=hbd (n+1) (m+1) e1 e2 he1 he2 hb;omega
end
end
end Eng
namespace Eng
open Go
section
variable {C:Ctx} {X:Nat→Prop} {ρ:Id→Option Lay} {S:Nat→Prop} {st:St} {a:Act} {w:World} {i:Nat} {o:Oper} {e:Eff}
theorem Zbb {E:Env} (h:Zdm E o=true):∀d,o.dst=some d→d < E.nt:=fun d hd'=>by unfold Zdm at h;rw[hd']at h;simpa using h
theorem does (h:Rep C X ρ S st a.tmps w) (hi:¬X i) (hok:Zfx C.E o=true) (hE:Zn C.E)
  (hc:Ze C.E st.ep i o.op o.type st.slots st.objs=some e) (hw:Zdq st e=true) (hcond:∀q∈e.cond,q=true):Zx C X st a w i o e:=by
 simp only[Zfx,Zm8]at hok;obtain⟨hd,hlit⟩:=hok;have ht:=Zbb hd;cases ho:o.op with
 |move x=>exact Zko h hi ht hlit ho hc
 |assign x=>exact ZhB h hi ht hlit ho hc
 |pick c x y=>exact Zkm h hi ht hlit ho hc
 |alloc t=>exact Zi7 h hi ht hE ho hc
 |box t x=>exact Zln h hi ht hlit hE ho hc
 |build t ps=>exact Zi5 h hi ht hlit hE ho hc
 |buildSlice t n ps=>exact Zee h hi ht hlit hE ho hc
 |insert t m k v=>exact Zb0 h hi ht hlit hE (.inr ho) hc hw
 |load t x=>exact Zkp h hi ht hlit hE ho hc hw
 |store t x y=>exact ZiZ h hi ht hlit hE ho hc hw
 |nilCheck x=>exact ZfP h hi ht hlit ho hc
 |binOp b t x y u=>exact Zi6 h hi ht hlit hE ho hc hcond
 |unOp u t x=>exact Zkl h hi ht hlit ho hc hcond
 |convert s t x=>exact ZgM h hi ht hlit hE ho hc hcond
 |makeFunc f fs cs=>exact ZfQ h hi ht hlit ho hc
 |makeMap t r=>
  cases r with
  |none=>exact ZgK h hi ht ho hc
  |some r=>rw[ho]at hc;simp[Ze]at hc
 |makeSlice t l c=>exact ZeD h hi ht hlit hE ho hc hcond
 |slice t x lo hi' mx=>exact Zi0 h hi ht hlit hE ho hc hcond
 |fieldAddr t x f=>exact ZeF h hi ht hlit hE ho hc
 |field t x f=>exact Zi3 h hi ht hlit hE ho hc
 |indexAddr t x ix=>exact ZeE h hi ht hlit hE ho hc hcond
 |index t x ix=>exact Zi2 h hi ht hlit hE ho hc hcond
 |lookup t m k ok=>exact Zhz h hi ht hlit hE ho hc
 |mapUpdate t m k v=>exact Zb0 h hi ht hlit hE (.inl ho) hc hw
 |range t x=>exact Zi1 h hi ht hlit hE ho hc
 |next it s=>
  cases s with
  |true=>exact Zkn h hi ht hlit hE ho hc hw
  |false=>rw[ho]at hc;simp[Ze]at hc
 |entry it=>exact Zi4 h hi ht hlit hE ho hc
 |extract x n=>exact ZgL h hi ht hlit ho hc
 |call c=>
  obtain⟨cal,args,ats⟩:=c;cases cal with
  |builtin b=>
   cases b with
   |len=>exact Zlm h hi ht hlit hE ho hc hcond
   |append=>exact ZhC h hi ht hlit hE ho hc hcond hw
   |copy=>exact Zkr h hi ht hlit hE ho hc hw
   |max=>exact Zll h hi ht hlit ho hc
   |min=>exact Zlk h hi ht hlit ho hc
   |delete=>exact ZhA h hi ht hlit hE ho hc hw
   |_=>rw[ho]at hc;simp[Ze,ZL]at hc
  |_=>rw[ho]at hc;simp[Ze]at hc
 |_=>rw[ho]at hc;simp[Ze]at hc
end
end Eng
namespace Eng
open Go
def Zct (r:Option Nat):Fence:={fn:=fun _=>True,depth:=none,alive:=false,round:=r}
theorem Zz (P:Program) (r:Option Nat) (m:Machine):m.fenced P (Zct r):=by
 intro g _;refine⟨fun h=> ?_,Or.inl trivial,fun _ _=>trivial,fun _ h=> ?_⟩
 ·simp[Zct]at h
 ·simp[Zct]at h
def conc:Item→Go.Item
 | .c c=> .code c
 | .blk id=> .inBlock id
 | .lp c=> .inLoop c
 | .ops ops i=> .inRegion ops (List.range' i (ops.size - i))
def Xof:List Item→Nat→Prop
 | .ops _ i::_=>fun j=>j < i
 |_=>fun _=>False
abbrev Zg0:=Exit→Act→World→Prop
structure Fm where
 r:Option Nat
 ds:List Deferred
def AWP (C:Ctx) (r:Fm) (G:Zg0) (k:List Item) (st:St):Prop:=
 ∀ρ S a w,Rep C (Xof k) ρ S st a.tmps w→a.defers=r.ds→
  ∀(b:Frame) (k0:List Go.Item) (cs:List Frame),b.roundOf=r.r→
   ∃e a' w',G e a' w'∧ArrivesIn (Machine.fenced C.E.prog (Zct r.r)) C.E.prog (lone (b.atR a (k.map conc++k0)) cs w) b k0 cs e a' w'
theorem Rep.weakX {C:Ctx} {X X':Nat→Prop} {ρ:Id→Option Lay} {S:Nat→Prop} {st:St} {tm:Array Value} {w:World} (h:Rep C X ρ S st tm w) (hX:∀j,X j→X' j):Rep C X' ρ S st tm w:=
 {h with young:=fun id hn=>(h.young id hn).imp (fun h=>h) fun⟨h1,h2⟩=>⟨h1,hX _ h2⟩}
theorem Rep.nextEp {C:Ctx} {X:Nat→Prop} {ρ:Id→Option Lay} {S:Nat→Prop} {st:St} {tm:Array Value} {w:World} (h:Rep C X ρ S st tm w):Rep C (fun _=>False) ρ S st.next tm w:=
 {h with
  young:=by
   intro id hn;rcases h.young id hn with h1 |⟨h1,_⟩
   ·exact .inl (Nat.lt_succ_of_lt h1)
   ·exact .inl (h1▸Nat.lt_succ_self _)
  ep1:=Nat.le_succ_of_le h.ep1}
section
variable {C:Ctx} {r:Fm} {G:Zg0}
theorem Zcy {k k1:List Item} {st st1:St}
  (h:∀ρ S a w,Rep C (Xof k) ρ S st a.tmps w→a.defers=r.ds→∃ρ' S' a' w',Rep C (Xof k1) ρ' S' st1 a'.tmps w'∧a'.defers=r.ds∧
   ∀(b:Frame) (k0:List Go.Item) (cs:List Frame),b.roundOf=r.r→StepsIn (Machine.fenced C.E.prog (Zct r.r)) C.E.prog (lone (b.atR a (k.map conc++k0)) cs w) (lone (b.atR a' (k1.map conc++k0)) cs w'))
  (h1:AWP C r G k1 st1):AWP C r G k st:=by
 intro ρ S a w hr hd b k0 cs hb;obtain⟨ρ',S',a',w',hr',hd',hs⟩:=h ρ S a w hr hd;obtain⟨e,a2,w2,hg,harr⟩:=h1 ρ' S' a' w' hr' hd' b k0 cs hb;exact⟨e,a2,w2,hg,.of_steps (hs b k0 cs hb) harr⟩
theorem ZbC {k k1:List Item} {st:St} (hX:∀j,Xof k j→Xof k1 j)
  (h:∀(a:Act) (w:World) (b:Frame) (k0:List Go.Item) (cs:List Frame),step C.E.prog (lone (b.atR a (k.map conc++k0)) cs w)= .next (lone (b.atR a (k1.map conc++k0)) cs w))
  (h1:AWP C r G k1 st):AWP C r G k st:=
 Zcy (fun ρ S a w hr hd=>⟨ρ,S,a,w,hr.weakX hX,hd,fun b k0 cs _=> .one (Zz _ _ _) (h a w b k0 cs)⟩) h1
theorem ZaZ {id:Nat}:∀{k k':List Item} {k0:List Go.Item},Zao id k=some k'→exitTo id (k.map conc++k0)=some (k'.map conc++k0)
 | [],_,_,h=>by simp[Zao]at h
 |x::k,k',k0,h=>by
  cases x with
  |blk j=>
   simp only[Zao]at h;split at h
   ·rename_i hj;simp only[Znv]at h;subst h hj;simp[exitTo,conc]
   ·rename_i hj;have:(j == id)=false:=by simpa using hj
    simp only[Znh,ZnF,conc,exitTo,this,Bool.false_eq_true,if_false];exact ZaZ h
  |c _=>simp only[Zao]at h;simp only[Znh,ZnF,conc,exitTo];exact ZaZ h
  |ops _ _=>simp only[Zao]at h;simp only[Znh,ZnF,conc,exitTo];exact ZaZ h
  |lp _=>simp only[Zao]at h;simp only[Znh,ZnF,conc,exitTo];exact ZaZ h
@[simp] theorem ZmR (a:Act) (d:Option Tmp) (v:Value):(a.put d v).defers=a.defers:=by cases d<;>rfl
theorem ZaX {ρ:Id→Option Lay} {S:Nat→Prop} {X:Nat→Prop} {st:St} {a:Act} {w:World} (h:Rep C X ρ S st a.tmps w) {ops:Array Oper} {o:Oper} {v:Bool} (hg:ZW ops st o.guard=some v):
  Region.wanted o (yielded ops a.tmps)=v:=by
 unfold Region.wanted;cases hgd:o.guard with
 |none=>rw[hgd]at hg;simp[ZW]at hg;simp[hg]
 |some gw=>
  obtain⟨g,wv⟩:=gw;rw[hgd]at hg;simp only[ZW]at hg;simp only[yielded];cases hb:(ops[g]?).bind (·.dst)with
  |none=>rw[hb]at hg;simp at hg;subst hg;simp
  |some t=>
   rw[hb]at hg;dsimp only at hg;have hs:=h.slots t;split at hg
   ·rename_i b hst;cases hg;rw[hst]at hs;have:=hs.of_p.bool_inv;simp only[Zn0];cases hq:a.tmps[t]? with
    |none=>simp[hq]at this;simp[undef]at this
    |some v=>simp[hq]at this;subst this;simp
   ·rename_i hst;cases hg;rw[hst]at hs;generalize hv:a.tmps.getD t undef=v at hs;cases hs;simp only[Zn0];cases hq:a.tmps[t]? with
    |none=>simp
    |some v=>simp[hq]at hv;subst hv;simp[undef]
   ·simp at hg
theorem Za6 {n i:Nat} (h:i < n):List.range' i (n - i)=i::List.range' (i+1) (n - (i+1)):=by
 have:n - i=(n - (i+1))+1:=by omega
 rw[this,List.range'_succ]
theorem ZlQ {ops:Array Oper} {i:Nat} {o:Oper} {k:List Item} {st:St} {e:Eff} (hE:Zn C.E) (ho:ops[i]? =some o) (hg:ZW ops st o.guard=some true)
  (hc:Ze C.E st.ep i o.op o.type st.slots st.objs=some e) (hok:Zfx C.E o=true) (hw:Zdq st e=true) (hcond:∀q∈e.cond,q=true)
  (h1:AWP C r G (.ops ops (i+1)::k) (st.app i o.dst e)):AWP C r G (.ops ops i::k) st:=by
 have hi:i < ops.size:=(Zm4.1 ho).1;refine Zcy (fun ρ S a w hr hd=> ?_) h1;have hr':Rep C (fun j=>j < i) ρ S st a.tmps w:=hr;obtain⟨n,v,w',hrun,hn,ρ',S',hrep⟩:=does hr' (by omega) hok hE hc hw hcond;have hwant:=ZaX hr' hg;refine⟨ρ',S',a.put o.dst v,w',hrep.weakX (fun j hj=> ?_),by simp[hd],fun b k0 cs hb=> ?_⟩
 ·simp only[Xof];omega
 ·have hsem:o.semAt b.roundOf a.eval=execOp a.eval o:=Oper.semAt_eq _ _ _ (fun c hc'=>by rw[hc']at hc;simp[Ze]at hc);have hst:=stepGR_op (P:=C.E.prog) (b:=b) (a:=a) (k:=k.map conc++k0) (cs:=cs) (w:=w) (i:=i) (rest:=List.range' (i+1) (ops.size - (i+1))) ho hwant;have hfin:=Frame.finish_atR b a ops i (List.range' (i+1) (ops.size - (i+1))) (k.map conc++k0) v;simp only[ho,Zn0]at hfin;refine .one (Zz _ _ _) ?_;simp only[Znh,ZnF,conc,Za6 hi];refine step_lone_go ?_;rw[hst,hsem,←hfin];rcases hn with rfl |⟨rfl,rfl⟩<;>simp[stepG.apply,hrun]
theorem Zlr {ops:Array Oper} {i:Nat} {o:Oper} {k:List Item} {st:St} (ho:ops[i]? =some o) (hg:ZW ops st o.guard=some false) (ht:∀d,o.dst=some d→d < C.E.nt)
  (h1:AWP C r G (.ops ops (i+1)::k) (st.setO o.dst .undef)):AWP C r G (.ops ops i::k) st:=by
 have hi:i < ops.size:=(Zm4.1 ho).1;refine Zcy (fun ρ S a w hr hd=> ?_) h1;have hr':Rep C (fun j=>j < i) ρ S st a.tmps w:=hr;have hwant:=ZaX hr' hg;obtain⟨S',hrep⟩:=hr'.step (i:=i) (t:=o.dst) (e:={val:= .undef}) (v:=undef) (w':=w) ρ (by omega) ht (Znq _) (ZP.refl _) (fun _ _ _=>rfl) (by simp) (fun _ _ h=>h) (fun id h=> .inl h) (by simp) (fun _ _ hm=>by simp at hm) (fun _ _ _ _ _ _ _ hm=>by simp at hm) (by simp) (fun _ _ _ _ _=> .undef);refine⟨ρ,S',a.put o.dst undef,w, ?_,by simp[hd],fun b k0 cs hb=> ?_⟩
 ·have:st.app i o.dst {val:= .undef}=st.setO o.dst .undef:=by simp[St.app,St.objL,St.freezeL]
  rw[←this];exact hrep.weakX (fun j hj=>by simp only[Xof];omega)
 ·have hst:=stepR_op_skip (P:=C.E.prog) (b:=b) (a:=a) (k:=k.map conc++k0) (cs:=cs) (w:=w) (ops:=ops) (i:=i) (rest:=List.range' (i+1) (ops.size - (i+1))) (by simp[ho,hwant]);simp only[ho,Zn0]at hst;refine .one (Zz _ _ _) ?_;simp only[Znh,ZnF,conc,Za6 hi];exact hst
theorem ZkZ {E:Env}:∀(n:Nat) (k:List Item) (st:St) (ps:List Bool) {k':List Item} {st':St} {ps':List Bool},run E n k st ps=some (k',st',ps')→∀p∈ps,p∈ps':=by
 intro n
 induction n with
 |zero=>intro k st ps k' st' ps' h;simp only[run,Znv,Znw]at h;obtain⟨rfl,rfl,rfl⟩:=h;exact fun _ h=>h
 |succ n ih=>
  intro k st ps k' st' ps' h p hp
  match k with
  | []=>simp[run]at h
  | .c c::k=>
   cases c with
   |region id ops dr=>cases dr<;>simp only[run,reduceCtorEq]at h;exact ih _ _ _ h p hp
   |cond c x y=>
    simp only[run]at h;split at h;rotate_left;simp at h;split at h
    ·exact ih _ _ _ h p hp
    ·exact ih _ _ _ h p hp
    ·simp at h
   |exit id=>
    simp only[run]at h;split at h;rotate_left;simp at h;exact ih _ _ _ h p hp
   |_=>first |(simp only[run]at h;exact ih _ _ _ h p hp) |simp[run]at h
  | .blk id::k=>simp only[run]at h;exact ih _ _ _ h p hp
  | .lp x::k=>simp only[run]at h;exact ih _ _ _ h p hp
  | .ops ops i::k=>
   simp only[run]at h;split at h
   ·exact ih _ _ _ h p hp
   ·split at h
    ·split at h;rotate_left;simp at h;exact ih _ _ _ h p (ZnP _ hp)
    ·split at h;rotate_left;simp at h;exact ih _ _ _ h p hp
    ·simp at h
theorem Zas (hE:Zn C.E):∀(n:Nat) (k:List Item) (st:St) (ps:List Bool) {k':List Item} {st':St} {ps':List Bool},run C.E n k st ps=some (k',st',ps')→
  (∀p∈ps',p=true)→AWP C r G k' st'→AWP C r G k st:=by
 intro n
 induction n with
 |zero=>intro k st ps k' st' ps' h _ h1;simp only[run,Znv,Znw]at h;obtain⟨rfl,rfl,rfl⟩:=h;exact h1
 |succ n ih=>
  intro k st ps k' st' ps' h hp h1;have grow:= @ZkZ C.E
  match k with
  | []=>simp[run]at h
  | .c c::k=>
   cases c with
   |skip=>simp only[run]at h;exact ZbC (k1:=k) (fun _ h=>h.elim) (fun a w b k0 cs=>stepR_skip) (ih _ _ _ h hp h1)
   |seq x y=>simp only[run]at h;exact ZbC (k1:= .c x:: .c y::k) (fun _ h=>h.elim) (fun a w b k0 cs=>stepR_seq) (ih _ _ _ h hp h1)
   |block id x=>simp only[run]at h;exact ZbC (k1:= .c x:: .blk id::k) (fun _ h=>h.elim) (fun a w b k0 cs=>stepR_block) (ih _ _ _ h hp h1)
   |loop x=>simp only[run]at h;exact ZbC (k1:= .c x:: .lp x::k) (fun _ h=>h.elim) (fun a w b k0 cs=>stepR_loop) (ih _ _ _ h hp h1)
   |region id ops dr=>
    cases dr with
    |true=>simp[run]at h
    |false=>
     simp only[run]at h;refine ZbC (k1:= .ops ops 0::k) (fun _ h=>h.elim) (fun a w b k0 cs=> ?_) (ih _ _ _ h hp h1);have:=stepR_region (P:=C.E.prog) (b:=b) (a:=a) (k:=k.map conc++k0) (cs:=cs) (w:=w) (ops:=ops) (id:=id);simpa[conc,List.range_eq_range']using this
   |cond c x y=>
    simp only[run]at h;have go:∀t:Bool,ev C.E st.slots 0 c= .p (.bool t)→ZD c=true→AWP C r G (.c (if t then x else y)::k) st→AWP C r G (.c (.cond c x y)::k) st:=by intro t ht hl h2;refine Zcy (fun ρ S a w hr hd=>⟨ρ,S,a,w,hr.weakX (fun _ h=>h.elim),hd,fun b k0 cs _=> .one (Zz _ _ _) ?_⟩) h2;have:=Zk hr 0 hl;rw[ht]at this;exact stepR_cond this.of_p.bool_inv
    split at h;rotate_left;simp at h;rename_i hl;split at h
    ·rename_i hv;exact go true hv hl (ih _ _ _ h hp h1)
    ·rename_i hv;exact go false hv hl (ih _ _ _ h hp h1)
    ·simp at h
   |exit id=>
    simp only[run]at h;split at h;rotate_left;simp at h;rename_i k2 hk;exact ZbC (k1:=k2) (fun _ h=>h.elim) (fun a w b k0 cs=>stepR_exit (ZaZ hk)) (ih _ _ _ h hp h1)
   |_=>simp[run]at h
  | .blk id::k=>simp only[run]at h;exact ZbC (k1:=k) (fun _ h=>h.elim) (fun a w b k0 cs=>stepR_inBlock) (ih _ _ _ h hp h1)
  | .lp x::k=>simp only[run]at h;exact ZbC (k1:= .c x:: .lp x::k) (fun _ h=>h.elim) (fun a w b k0 cs=>stepR_inLoop) (ih _ _ _ h hp h1)
  | .ops ops i::k=>
   simp only[run]at h;split at h
   ·
    rename_i hn;refine Zcy (fun ρ S a w hr hd=>⟨ρ,S,a,w,(Rep.nextEp hr).weakX (fun _ h=>h.elim),hd,fun b k0 cs _=> .one (Zz _ _ _) ?_⟩) (ih _ _ _ h hp h1);have hi:ops.size≤i:=by simpa using hn
    have:ops.size - i=0:=by omega
    simp only[Znh,ZnF,conc,this,List.range'_zero];exact stepR_region_end
   ·rename_i o ho;split at h
    ·rename_i hg;split at h;rotate_left;simp at h;rename_i st2 qs hro;unfold runOp at hro;split at hro;rotate_left;simp at hro;rename_i e hc;split at hro;rotate_left;simp at hro;rename_i hok;simp only[Zm8]at hok;simp only[Znv,Znw]at hro;obtain⟨rfl,rfl⟩:=hro;exact ZlQ hE ho hg hc hok.2 hok.1 (fun q hq=>hp q (grow _ _ _ _ h q (ZnQ _ hq))) (ih _ _ _ h hp h1)
    ·rename_i hg;split at h;rotate_left;simp at h;rename_i hd;exact Zlr ho hg (Zbb hd) (ih _ _ _ h hp h1)
    ·simp at h
end
end Eng
namespace Eng
open Go
theorem Rep.stepN {C:Ctx} {X:Nat→Prop} {ρ:Id→Option Lay} {S:Nat→Prop} {st:St} {a:Act} {w:World} (h:Rep C X ρ S st a.tmps w)
  {i:Nat} {t:Option Nat} {e:Eff} {v:Value} {w':World} (ρ':Id→Option Lay) (N:Nat→Prop)
  (hN:∀b,N b→b < w'.heap.size∧(w.heap.size≤b∨∃id o' L',(id,Obj.gone)∈e.wr∧st.objs id=some o'∧o'≠ .gone∧ρ id=some L'∧L'.blk=some b∧(∀o'',(id,o'')∈e.wr→o''= .gone)))
  (hNm:∀k o L b,(k,o)∈e.new→ρ' (st.ep,i,k)=some L→L.blk=some b→¬N b)
  (hi:¬X i) (ht:∀d,t=some d→d < C.E.nt)
  (size:w.heap.size≤w'.heap.size) (hq:ZP w w')
  (keep:∀b,b < w.heap.size→(∀id o L,(id,o)∈e.wr→ρ id=some L→L.blk≠some b)→w'.heap[b]? =w.heap[b]?)
  (wr:∀id o,(id,o)∈e.wr→st.fz id=false∧∃o',st.objs id=some o'∧o'≠ .gone)
  (hρ:∀id L,ρ id=some L→ρ' id=some L)
  (hnew:∀id,ρ' id≠none→ρ id≠none∨(id.1=st.ep∧id.2.1=i))
  (frz:∀id,id∈e.frz→ρ id≠none∧∀o',(id,o')∈e.wr→o'≠ .gone)
  (made:∀k o,(k,o)∈e.new→∃L,ρ' (st.ep,i,k)=some L∧(∀b,L.blk=some b→
   (w.heap.size≤b∨∃id o' L',(id,Obj.gone)∈e.wr∧st.objs id=some o'∧o'≠ .gone∧ρ id=some L'∧L'.blk=some b∧(∀o'',(id,o'')∈e.wr→o''= .gone))∧b < w'.heap.size)∧
   ∀S',(∀b,N b→S' b)→(∀b,S b→S' b)→(∀id,id∈e.frz→∀o L b,st.objs id=some o→o≠ .gone→ρ id=some L→L.blk=some b→S' b)→o≠ .gone→Zw w' S' ρ' L o)
  (apart:∀k o L k' o' L' b,(k,o)∈e.new→o≠ .gone→ρ' (st.ep,i,k)=some L→L.blk=some b→(k',o')∈e.new→o'≠ .gone→ρ' (st.ep,i,k')=some L'→L'.blk=some b→k=k')
  (changed:∀id o L,(id,o)∈e.wr→o≠ .gone→ρ id=some L→∀S',(∀b,N b→S' b)→(∀b,S b→S' b)→(∀id,id∈e.frz→∀o L b,st.objs id=some o→o≠ .gone→ρ id=some L→L.blk=some b→S' b)→Zw w' S' ρ' L o)
  (val:∀S',(∀b,N b→S' b)→(∀b,S b→S' b)→(∀id,id∈e.frz→∀o L b,st.objs id=some o→o≠ .gone→ρ id=some L→L.blk=some b→S' b)→(∀d,t=some d→RelD w' S' ρ' v e.val))
  (nown:∀k o,(k,o)∈e.new→o.isOwn=false:=by simp) (wown:∀id o,(id,o)∈e.wr→o.isOwn=false:=by simp):
  ∃S',Rep C (fun j=>X j∨j=i) ρ' S' (st.app i t e) (a.put t v).tmps w':=by
 let S':Nat→Prop:=fun b=>(S b∨N b)∨∃id o L,id∈e.frz∧st.objs id=some o∧o≠ .gone∧ρ id=some L∧L.blk=some b
 have hSS:∀b,S b→S' b:=fun b hb=> .inl (.inl hb)
 have hNS:∀b,N b→S' b:=fun b hb=> .inl (.inr hb)
 have hwrS:∀b,S b→∀id o L,(id,o)∈e.wr→ρ id=some L→L.blk≠some b:=fun b hb id o L hm hL hbl=>by obtain⟨hf,o',ho',hg⟩:=wr id o hm;exact((h.own id o' L b ho' hg hL hbl).2.2.2 hf) hb
 have kp:ZbQ S w w':=fun b hb _=>keep b (h.sIn b hb) (hwrS b hb)
 have hnot:∀k,st.objs (st.ep,i,k)=none:=fun k=>by
  cases hc:st.objs (st.ep,i,k)with
  |none=>rfl
  |some o=>
   have:=h.young _ (h.known (st.ep,i,k) (by simp[hc]));simp[hi]at this
 have old:∀id o L,st.objs id=some o→o≠ .gone→(∀o',(id,o')∉e.wr)→ρ id=some L→∀b,L.blk=some b→w'.heap[b]? =w.heap[b]? :=by
  intro id o L ho hg hnw hL b hb;refine keep b (h.own id o L b ho hg hL hb).1 fun id' o' L' hm hL' hb'=> ?_
  obtain⟨_,o'',ho'',hg''⟩:=wr id' o' hm;have:=h.inj id o L id' o'' L' b ho hg hL hb ho'' hg'' hL' hb';subst this;exact hnw o' hm
 have rold:∀id L,ρ id≠none→ρ' id=some L→ρ id=some L:=fun id L hn hL=>by
  cases hc:ρ id with
  |none=>exact absurd hc hn
  |some L0=>have:=hρ id L0 hc;rw[hL]at this;rw[this]
 have fresh:∀k,ρ (st.ep,i,k)=none:=fun k=>by
  cases hc:ρ (st.ep,i,k)with
  |none=>rfl
  |some L=>have:=h.young (st.ep,i,k) (by simp[hc]);simp[hi]at this
 have one:∀id o L id' o' L' b,st.objs id=some o→o≠ .gone→ρ id=some L→L.blk=some b→st.objs id'=some o'→o'≠ .gone→ρ id'=some L'→L'.blk=some b→id=id':=h.inj;refine⟨S',⟨?_,by have:=h.grow;omega, ?_,fun b hb=> .inl (.inl (h.s0 b hb)), ?_, ?_, ?_, ?_, ?_, ?_, ?_, ?_,fun g cs hm=>(h.glob g cs hm).mono kp hSS, ?_,by rw[ZcE];exact h.ep1,h.quiet.trans hq, ?_,h.famStep ρ' size keep wr hρ kp hSS (fun b hb=> ?_) (fun k o L b hm hL hb=> ?_) nown wown⟩⟩
 rotate_right 2
 ·rcases hb with (hb |hb) |⟨id,o,L,_,r⟩
  ·exact .inl hb
  ·exact .inr ((hN b hb).2.imp (fun h=>h) fun⟨id,o,L,_,q1,q2,q3,q4,_⟩=>⟨id,o,L,q1,q2,q3,q4⟩)
  ·exact .inr (.inr ⟨id,o,L,r⟩)
 ·obtain⟨L',h1,h2,_⟩:=made k o hm;rw[hL]at h1;obtain rfl:=Znu h1;exact(h2 b hb).1.imp (fun h=>h) fun⟨id,o,L,_,q1,q2,q3,q4,_⟩=>⟨id,o,L,q1,q2,q3,q4⟩
 ·rw[←h.nt];cases t<;>simp[Act.put]
 ·intro b hb hl;rw[←h.frame b hb hl];refine keep b (by have:=h.grow;omega) fun id o L hm hL hbl=> ?_
  obtain⟨_,o',ho',hg⟩:=wr id o hm;rcases(h.own id o' L b ho' hg hL hbl).2.1 with h1 |h1
  ·omega
  ·exact hl h1
 ·intro b hb;rcases hb with (hb |hb) |⟨id,o,L,hm,ho,hg,hL,hbl⟩
  ·have:=h.sIn b hb;omega
  ·exact(hN b hb).1
  ·have:=(h.own id o L b ho hg hL hbl).1;omega
 ·intro k;rw[ZaO,Zig a t v k (fun d hd=>by rw[h.nt];exact ht d hd)]
  by_cases hk:t=some k
  ·simp only[hk,if_true];exact val S' hNS hSS (fun id hm o L b ho hg hL hbl=> .inr ⟨id,o,L,hm,ho,hg,hL,hbl⟩) k hk
  ·simp only[hk,if_false];exact(h.slots k).mono kp hSS hρ
 ·intro id o ho hg;rcases ZN st i t e id o ho with ⟨k,rfl,hm⟩ |hm |⟨hnw,ho⟩
  ·obtain⟨L,hL,_,hr⟩:=made k o hm;exact⟨L,hL,hr S' hNS hSS (fun id hm o L b ho hg hL hbl=> .inr ⟨id,o,L,hm,ho,hg,hL,hbl⟩) hg⟩
  ·obtain⟨_,o',ho',hg'⟩:=wr id o hm;obtain⟨L,hL,_⟩:=h.objs id o' ho' hg';exact⟨L,hρ _ _ hL,changed id o L hm hg hL S' hNS hSS (fun id hm o L b ho hg hL hbl=> .inr ⟨id,o,L,hm,ho,hg,hL,hbl⟩)⟩
  ·obtain⟨L,hL,hr⟩:=h.objs id o ho hg;exact⟨L,hρ _ _ hL,hr.mono kp hSS hρ (old id o L ho hg hnw hL)⟩
 ·intro id o L b ho hg hL hbl;rw[ZbF];rcases ZN st i t e id o ho with ⟨k,rfl,hm⟩ |hm |⟨hnw,ho⟩
  ·obtain⟨L',hL',hb,_⟩:=made k o hm;rw[hL]at hL';obtain rfl:=Znu hL';obtain⟨hbn,hblt⟩:=hb b hbl;have hnf:st.fz (st.ep,i,k)=false:=by
    cases hc:st.fz (st.ep,i,k)with
    |false=>rfl
    |true=>exact absurd (fresh k) (h.fzk _ hc)
   have hnc:(st.ep,i,k)∉e.frz:=fun hm'=>(frz _ hm').1 (fresh k)
   have hnS':¬S' b:=by
    rintro((hS |hS) |⟨id1,o1,L1,hm1,ho1,hg1,hL1,hb1⟩)
    ·rcases hbn with hbn |⟨id',o',L',hm',ho',hg',hL',hb',_⟩
     ·have:=h.sIn b hS;omega
     ·exact(h.own id' o' L' b ho' hg' hL' hb').2.2.2 (wr _ _ hm').1 hS
    ·exact hNm k o L b hm hL hbl hS
    ·rcases hbn with hbn |⟨id',o',L',hm',ho',hg',hL',hb',_⟩
     ·have:=(h.own id1 o1 L1 b ho1 hg1 hL1 hb1).1;omega
     ·have:=one _ _ _ _ _ _ _ ho1 hg1 hL1 hb1 ho' hg' hL' hb';subst this;exact(frz _ hm1).2 _ hm' rfl
   refine⟨hblt, ?_,fun hf=> ?_,fun _=>hnS'⟩
   ·rcases hbn with hbn |⟨id',o',L',hm',ho',hg',hL',hb',_⟩
    ·have:=h.grow;exact .inl (by omega)
    ·exact(h.own id' o' L' b ho' hg' hL' hb').2.1
   ·simp[hnf,hnc]at hf
  ·obtain⟨hf0,o',ho',hg'⟩:=wr id o hm;have hL0:=rold id L (h.known id (by simp[ho'])) hL;obtain⟨h1,h2,h3,h4⟩:=h.own id o' L b ho' hg' hL0 hbl;refine⟨by omega,h2,fun hf=> ?_,fun hfz'=> ?_⟩
   ·simp only[hf0,Bool.or_false,ZnG]at hf;exact .inr ⟨id,o',L,hf,ho',hg',hL0,hbl⟩
   have hnc:id∉e.frz:=fun hm'=>by simp[hm']at hfz'
   rintro((hS |hS) |⟨id1,o1,L1,hm1,ho1,hg1,hL1,hb1⟩)
   ·exact h4 hf0 hS
   ·rcases(hN b hS).2 with hbn |⟨idg,og,Lg,q1,q2,q3,q4,q5,q6⟩
    ·omega
    ·have:=one _ _ _ _ _ _ _ q2 q3 q4 q5 ho' hg' hL0 hbl;subst this;exact hg (q6 _ hm)
   ·have:=one _ _ _ _ _ _ _ ho1 hg1 hL1 hb1 ho' hg' hL0 hbl;subst this;exact hnc hm1
  ·have hL0:=rold id L (h.known id (by simp[ho])) hL;obtain⟨h1,h2,h3,h4⟩:=h.own id o L b ho hg hL0 hbl;refine⟨by omega,h2,fun hf=> ?_,fun hf=> ?_⟩
   ·simp only[Bool.or_eq_true,ZnG]at hf;rcases hf with hf |hf
    ·exact .inr ⟨id,o,L,hf,ho,hg,hL0,hbl⟩
    ·exact .inl (.inl (h3 hf))
   ·simp only[ZnC]at hf;rintro((hS |hS) |⟨id1,o1,L1,hm1,ho1,hg1,hL1,hb1⟩)
    ·exact h4 hf.2 hS
    ·rcases(hN b hS).2 with hbn |⟨idg,og,Lg,q1,q2,q3,q4,q5,q6⟩
     ·omega
     ·have:=one _ _ _ _ _ _ _ q2 q3 q4 q5 ho hg hL0 hbl;subst this;exact hnw _ q1
    ·have:=one _ _ _ _ _ _ _ ho1 hg1 hL1 hb1 ho hg hL0 hbl;subst this;have:=hf.1;simp[hm1]at this
 ·
  have newOld:∀k o L id' o' L' b,(k,o)∈e.new→o≠ .gone→ρ' (st.ep,i,k)=some L→L.blk=some b→(st.app i t e).objs id'=some o'→o'≠ .gone→
    ((id',o')∈e.wr∨((∀o'',(id',o'')∉e.wr)∧st.objs id'=some o'))→ρ' id'=some L'→L'.blk=some b→False:=by
   intro k o L id' o' L' b hm hg hL hbl _ hg' hcase hL' hbl';obtain⟨L0,hL0,hb,_⟩:=made k o hm;rw[hL]at hL0;obtain rfl:=Znu hL0;have hpres:∃o1,st.objs id'=some o1∧o1≠ .gone:=by
    rcases hcase with hc |hc
    ·exact(wr _ _ hc).2
    ·exact⟨o',hc.2,hg'⟩
   obtain⟨o1,ho1,hg1⟩:=hpres;have hL1:=rold id' L' (h.known id' (by simp[ho1])) hL';rcases(hb b hbl).1 with hbn |⟨id2,o2,L2,hm2,ho2,hg2,hL2,hb2,hall⟩
   ·have:=(h.own id' o1 L' b ho1 hg1 hL1 hbl').1;omega
   ·have:=one _ _ _ _ _ _ _ ho1 hg1 hL1 hbl' ho2 hg2 hL2 hb2;subst this;rcases hcase with hc |hc
    ·exact hg' (hall _ hc)
    ·exact hc.1 _ hm2
  intro id o L id' o' L' b ho hg hL hbl ho' hg' hL' hbl';rcases ZN st i t e id o ho with ⟨k,rfl,hm⟩ |hc
  ·rcases ZN st i t e id' o' ho' with ⟨k',rfl,hm'⟩ |hc'
   ·rw[apart k o L k' o' L' b hm hg hL hbl hm' hg' hL' hbl']
   ·exact(newOld k o L id' o' L' b hm hg hL hbl ho' hg' hc' hL' hbl').elim
  ·rcases ZN st i t e id' o' ho' with ⟨k',rfl,hm'⟩ |hc'
   ·exact(newOld k' o' L' id o L b hm' hg' hL' hbl' ho hg hc hL hbl).elim
   ·have pres:∀id o,o≠ .gone→((id,o)∈e.wr∨((∀o'',(id,o'')∉e.wr)∧st.objs id=some o))→∃o1,st.objs id=some o1∧o1≠ .gone:=by
     intro id o hg hc;rcases hc with hc |hc
     ·exact(wr _ _ hc).2
     ·exact⟨o,hc.2,hg⟩
    obtain⟨o1,ho1,hg1⟩:=pres id o hg hc;obtain⟨o2,ho2,hg2⟩:=pres id' o' hg' hc';exact one _ _ _ _ _ _ _ ho1 hg1 (rold id L (h.known id (by simp[ho1])) hL) hbl ho2 hg2 (rold id' L' (h.known id' (by simp[ho2])) hL') hbl'
 ·intro id hn;cases ho:(st.app i t e).objs id with
  |none=>exact absurd ho hn
  |some o=>
   rcases ZN st i t e id o ho with ⟨k,rfl,hm⟩ |hm |⟨_,ho⟩
   ·obtain⟨L,hL,_⟩:=made k o hm;simp[hL]
   ·obtain⟨_,o',ho',_⟩:=wr id o hm;have:=h.known id (by simp[ho']);cases hc:ρ id with
    |none=>exact absurd hc this
    |some L=>simp[hρ _ _ hc]
   ·have:=h.known id (by simp[ho]);cases hc:ρ id with
    |none=>exact absurd hc this
    |some L=>simp[hρ _ _ hc]
 ·intro id hn;rw[ZcE];rcases hnew id hn with h1 |⟨h1,h2⟩
  ·rcases h.young id h1 with h2 |⟨h2,h3⟩
   ·exact .inl h2
   ·exact .inr ⟨h2,.inl h3⟩
  ·exact .inr ⟨h1,.inr h2⟩
 ·intro id hf;rw[ZbF]at hf;simp only[Bool.or_eq_true,ZnG]at hf;have:ρ id≠none:=by
   rcases hf with hf |hf
   ·exact(frz id hf).1
   ·exact h.fzk id hf
  cases hc:ρ id with
  |none=>exact absurd hc this
  |some L=>simp[hρ _ _ hc]
 ·intro b hb;rcases hb with (hb |hb) |⟨id,o,L,hm,ho,hg,hL,hbl⟩
  ·exact h.sOut b hb
  ·rcases(hN b hb).2 with hbn |⟨idg,og,Lg,q1,q2,q3,q4,q5,q6⟩
   ·have:=h.grow;exact .inr (.inl (by omega))
   ·exact .inr (h.own _ _ _ b q2 q3 q4 q5).2.1
  ·exact .inr (h.own id o L b ho hg hL hbl).2.1
 ·intro k L hk hn;rcases hnew _ hn with h1 |⟨h1,_⟩
  ·exact hρ _ _ (h.lay k L hk h1)
  ·have:=h.ep1;simp only at h1;omega
end Eng
namespace Eng
open Go
def ren (pi:List (Id×Id)) (old:Id):Option Id:=
 match pi with
 | []=>none
 |(n,o)::r=>if o=old then some n else ren r old
def D.pur (lk:Id→Option Obj) (fz:Id→Bool) (d:D):Option D:=
 if (d.ids lk depth).all fz then match d.toP lk depth with |some x=>some (.p x) |none=>none else none
def D.can (lk:Id→Option Obj) (fz:Id→Bool) (pi:List (Id×Id)):Nat→D→Option D
 |_,.p x=>some (.p x)
 |_,.dead=>some .dead
 |_,.val v=>some (.val v)
 |_,.undef=>some .undef
 |_,.anyb=>some .anyb
 |_,.nils sz=>some (.nils sz)
 |_,.clip sz es=>some (.clip sz es)
 |_,.sl id off len=>match ren pi id with
  |some id'=>some (.sl id' off len)
  |none=>D.pur lk fz (.sl id off len)
 |_,.map id=>match ren pi id with
  |some id'=>some (.map id')
  |none=>D.pur lk fz (.map id)
 |_,.it id=>match ren pi id with
  |some id'=>some (.it id')
  |none=>none
 |_,.ptr id i j=>match ren pi id with
  |some id'=>some (.ptr id' i j)
  |none=>D.pur lk fz (.ptr id i j)
 |n+1,.agg cs=>match Zj (D.can lk fz pi n) cs with
  |some ds=>some (.mkAgg ds)
  |none=>none
 |n+1,.tup cs=>match Zj (D.can lk fz pi n) cs with
  |some ds=>some (.tup ds)
  |none=>none
 |n+1,.fn f a b=>match Zj (D.can lk fz pi n) a,Zj (D.can lk fz pi n) b with
  |some a',some b'=>some (match Zj D.pure? a',Zj D.pure? b' with
   |some x,some y=> .p (.fn f x y)
   |_,_=> .fn f a' b')
  |_,_=>none
 |_,_=>none
def Obj.can (lk:Id→Option Obj) (fz:Id→Bool) (pi:List (Id×Id)):Obj→Option Obj
 | .box cs=>match Zj (D.can lk fz pi depth) cs with
  |some ds=>some (.box ds)
  |none=>none
 | .arr sz es fix=>some (.arr sz es fix)
 | .map td kv=>some (.map td kv)
 | .sit s pos=>some (.sit s pos)
 | .mit rest cur=>some (.mit rest cur)
 | .gone=>none
 | .own sz c k es lo out=>some (.own sz c k es lo out)
def Z1 (pi:List (Id×Id)) (ρ:Id→Option Lay):Id→Option Lay:=fun id=>match Zg pi id with
 |some old=>ρ old
 |none=>none
def Zau {α:Type} [DecidableEq α]:List α→Bool
 | []=>true
 |a::r=>r.all (fun b=>decide (b≠a))&&Zau r
def Zgj (st:St) (pi:List (Id×Id)) (ep:Nat):Bool:=
 Zau (pi.map (·.1))&&Zau (pi.map (·.2))&&pi.all fun x=>decide (x.1.1 < ep)&& !st.fz x.2
theorem ZR {α β:Type} [DecidableEq α]:∀{l:List (α×β)} {a:α} {b:β},Zg l a=some b→(a,b)∈l
 | [],a,b,h=>by simp[Zg]at h
 |(x,y)::r,a,b,h=>by
  simp only[Zg]at h;split at h
  ·rename_i he;simp only[Znv]at h;subst he h;exact Znk
  ·exact ZnR _ (ZR h)
theorem ZM {α β:Type} [DecidableEq α]:∀{l:List (α×β)} {a:α} {b:β},Zau (l.map (·.1))=true→(a,b)∈l→Zg l a=some b
 | [],a,b,_,h=>by simp at h
 |(x,y)::r,a,b,hn,h=>by
  simp only[Znh,Zau,Zm8]at hn;simp only[Zg];rcases Znj.1 h with h |h
  ·simp only[Znw]at h;obtain⟨rfl,rfl⟩:=h;simp
  ·have hne:a≠x:=by have:=ZnD.1 hn.1 a (ZnT.2 ⟨(a,b),h,rfl⟩);simpa using this
   rw[if_neg hne];exact ZM hn.2 h
theorem ZjR {pi:List (Id×Id)} {old new:Id} (h:ren pi old=some new):(new,old)∈pi:=by
 induction pi with
 |nil=>simp[ren]at h
 |cons x r ih=>
  obtain⟨n,o⟩:=x;simp only[ren]at h;split at h
  ·rename_i he;simp only[Znv]at h;subst he h;exact Znk
  ·exact ZnR _ (ih h)
theorem ZdQ {pi:List (Id×Id)} (h:Zau (pi.map (·.2))=true) {a b o:Id} (h1:(a,o)∈pi) (h2:(b,o)∈pi):a=b:=by
 induction pi with
 |nil=>simp at h1
 |cons x r ih=>
  obtain⟨n,o'⟩:=x;simp only[Znh,Zau,Zm8]at h;have hne:∀c,(c,o)∈r→o≠o':=fun c hc=>by have:=ZnD.1 h.1 o (ZnT.2 ⟨(c,o),hc,rfl⟩);simpa using this
  rcases Znj.1 h1 with h1 |h1<;>rcases Znj.1 h2 with h2 |h2
  ·simp only[Znw]at h1 h2;rw[h1.1,h2.1]
  ·simp only[Znw]at h1;exact absurd h1.2 (hne _ h2)
  ·simp only[Znw]at h2;exact absurd h2.2 (hne _ h1)
  ·exact ih h.2 h1 h2
section
variable {C:Ctx} {X:Nat→Prop} {ρ:Id→Option Lay} {S:Nat→Prop} {st:St} {tm:Array Value} {w:World}
theorem Zhf (h:Rep C X ρ S st tm w) {v:Value} {d d':D} (hr:RelD w S ρ v d) (hp:D.pur st.objs st.fz d=some d') {ρ':Id→Option Lay}:RelD w S ρ' v d':=by unfold D.pur at hp;split at hp;rotate_left;simp at hp;rename_i hall;split at hp;rotate_left;simp at hp;rename_i x hx;cases hp;refine .p _ _ (Zar (S':=S) h.objs (fun _ h=>h) depth _ _ _ hr hx fun id hid L b hL hb=> ?_);obtain⟨o,q1,q2⟩:=Zbn depth _ _ hx id hid;exact(h.own id o L b q1 q2 hL hb).2.2.1 (ZnD.1 hall id hid)
theorem Zkw (h:Rep C X ρ S st tm w) {pi:List (Id×Id)} (hn:Zau (pi.map (·.1))=true):∀(n:Nat) (v:Value) (d d':D),RelD w S ρ v d→d.can st.objs st.fz pi n=some d'→RelD w S (Z1 pi ρ) v d':=by
 have hρ:∀{old new:Id} {L:Lay},ren pi old=some new→ρ old=some L→Z1 pi ρ new=some L:=by intro old new L hr hL;simp only[Z1,ZM hn (ZjR hr)];exact hL
 have base:∀(n:Nat) (v:Value) (d d':D),(∀cs,d≠ .agg cs)→(∀cs,d≠ .tup cs)→(∀f a b,d≠ .fn f a b)→RelD w S ρ v d→d.can st.objs st.fz pi n=some d'→RelD w S (Z1 pi ρ) v d':=by
  intro n v d d' h1 h2 h3 hr hc;cases hr with
  |p v x hp=>cases n<;>simp[D.can]at hc<;>subst hc<;>exact .p _ _ hp
  |dead v=>cases n<;>simp[D.can]at hc<;>subst hc<;>exact .dead _
  |val v=>cases n<;>simp[D.can]at hc<;>subst hc<;>exact .val _
  |undef=>cases n<;>simp[D.can]at hc<;>subst hc<;>exact .undef
  |anyb b=>cases n<;>simp[D.can]at hc<;>subst hc<;>exact .anyb _
  |nils sz=>cases n<;>simp[D.can]at hc<;>subst hc<;>exact .nils _
  |clip a m sz es hp=>cases n<;>simp[D.can]at hc<;>subst hc<;>exact .clip _ _ _ _ hp
  |agg vs cs=>exact absurd rfl (h1 cs)
  |tup vs cs=>exact absurd rfl (h2 cs)
  |fn f fs cs a b=>exact absurd rfl (h3 f a b)
  |sl id off len cap a L hL hl hm hcp ha=>
   have hc:(match ren pi id with |some id'=>some (D.sl id' off len) |none=>D.pur st.objs st.fz (.sl id off len))=some d':=by cases n<;>exact hc
   split at hc
   ·rename_i id' hid;cases hc;exact .sl id' off len cap a L (hρ hid hL) hl hm hcp ha
   ·exact Zhf h (.sl id off len cap a L hL hl hm hcp ha) hc
  |ptr id i j L b hL hi hb=>
   have hc:(match ren pi id with |some id'=>some (D.ptr id' i j) |none=>D.pur st.objs st.fz (.ptr id i j))=some d':=by cases n<;>exact hc
   split at hc
   ·rename_i id' hid;cases hc;exact .ptr id' i j L b (hρ hid hL) hi hb
   ·exact Zhf h (.ptr id i j L b hL hi hb) hc
  |map id L b hL hb=>
   have hc:(match ren pi id with |some id'=>some (D.map id') |none=>D.pur st.objs st.fz (.map id))=some d':=by cases n<;>exact hc
   split at hc
   ·rename_i id' hid;cases hc;exact .map id' L b (hρ hid hL) hb
   ·exact Zhf h (.map id L b hL hb) hc
  |it id L b hL hb=>
   have hc:(match ren pi id with |some id'=>some (D.it id') |none=>none)=some d':=by cases n<;>exact hc
   split at hc;rotate_left;simp at hc;rename_i id' hid;cases hc;exact .it id' L b (hρ hid hL) hb
 intro n
 induction n with
 |zero=>
  intro v d d' hr hc;refine base 0 v d d' ?_ ?_ ?_ hr hc
  all_goals (intros;intro he;subst he;simp[D.can]at hc)
 |succ n ih=>
  intro v d d' hr hc;cases hr with
  |agg vs cs hl h1 hh=>
   simp only[D.can]at hc;split at hc;rotate_left;simp at hc;rename_i ds hds;cases hc;obtain⟨q1,q2⟩:=Zl hds;refine Zgp (by omega) fun j u d hu hd=>⟨?_,h1 j u hu⟩
   have hj:j < cs.length:=by have:=(Zm4.1 hu).1;omega
   exact ih _ _ _ (hh j u cs[j] hu (by simp[hj])) (q2 j cs[j] d (by simp[hj]) hd)
  |tup vs cs hl hh=>
   simp only[D.can]at hc;split at hc;rotate_left;simp at hc;rename_i ds hds;cases hc;obtain⟨q1,q2⟩:=Zl hds;refine .tup _ _ (by omega) fun j u d hu hd=> ?_
   have hj:j < cs.length:=by have:=(Zm4.1 hu).1;omega
   exact ih _ _ _ (hh j u cs[j] hu (by simp[hj])) (q2 j cs[j] d (by simp[hj]) hd)
  |fn f fs cs a b hf hcl hh hh'=>
   simp only[D.can]at hc;split at hc;rotate_left;simp at hc;rename_i a' b' ha hb;cases hc;obtain⟨q1,q2⟩:=Zl ha;obtain⟨q3,q4⟩:=Zl hb;have e1:∀(j:Nat) u d,fs[j]? =some u→a'[j]? =some d→RelD w S (Z1 pi ρ) u d:=fun j u d hu hd=>by
    have hj:j < a.length:=by have:=(Zm4.1 hu).1;omega
    exact ih _ _ _ (hh j u a[j] hu (by simp[hj])) (q2 j a[j] d (by simp[hj]) hd)
   have e2:∀(j:Nat) u d,cs[j]? =some u→b'[j]? =some d→RelD w S (Z1 pi ρ) u d:=fun j u d hu hd=>by
    have hj:j < b.length:=by have:=(Zm4.1 hu).1;omega
    exact ih _ _ _ (hh' j u b[j] hu (by simp[hj])) (q4 j b[j] d (by simp[hj]) hd)
   split
   ·rename_i x y hx hy;have hx':=Zv hx;have hy':=Zv hy;subst hx' hy';simp only[List.length_map]at q1 q3;refine .p _ _ (.fn f fs cs x y (by omega) (by omega) (fun j u c hu hc=> ?_) (fun j u c hu hc=> ?_))
    ·exact(e1 j u (.p c) hu (by simp[hc])).of_p
    ·exact(e2 j u (.p c) hu (by simp[hc])).of_p
   ·exact .fn f fs cs a' b' (by omega) (by omega) e1 e2
  |_=>exact base (n+1) _ _ d' (by simp) (by simp) (by simp) (by constructor<;>assumption) hc
theorem ZiN (h:Rep C X ρ S st tm w) {pi:List (Id×Id)} (hn:Zau (pi.map (·.1))=true) {L:Lay} {o o':Obj} (hr:Zw w S ρ L o) (hc:o.can st.objs st.fz pi=some o'):Zw w S (Z1 pi ρ) L o':=by
 cases o with
 |box cs=>
  simp only[Obj.can]at hc;split at hc;rotate_left;simp at hc;rename_i ds hds;cases hc;obtain⟨q1,q2⟩:=Zl hds;obtain⟨b,r1,r2,r3,r4⟩:=hr;refine⟨b,r1,by omega,r3,fun j d hd=> ?_⟩;have hj:j < cs.length:=by have:=(Zne.1 hd).1;omega
  obtain⟨v,s1,s2,s3,s4⟩:=r4 j cs[j] (by simp[hj]);exact⟨v,s1,s2,s3,Zkw h hn _ _ _ _ s4 (q2 j cs[j] d (by simp[hj]) hd)⟩
 |arr sz es fix=>simp only[Obj.can,Znv]at hc;subst hc;exact hr
 |map td kv=>simp only[Obj.can,Znv]at hc;subst hc;exact hr
 |sit s pos=>simp only[Obj.can,Znv]at hc;subst hc;exact hr
 |mit rest cur=>simp only[Obj.can,Znv]at hc;subst hc;exact hr
 |gone=>simp[Obj.can]at hc
 |own sz c k es lo out=>simp only[Obj.can,Znv]at hc;subst hc;exact hr
theorem Obj.can_own {lk:Id→Option Obj} {fz:Id→Bool} {pi:List (Id×Id)} {o:Obj} {sz c k lo:Nat} {es:List P} {out:Option Nat} (hc:o.can lk fz pi=some (.own sz c k es lo out)):o= .own sz c k es lo out:=by
 cases o<;>simp[Obj.can]at hc
 ·split at hc<;>simp at hc
 ·obtain⟨rfl,rfl,rfl,rfl,rfl,rfl⟩:=hc;rfl
theorem Obj.can_gone {lk:Id→Option Obj} {fz:Id→Bool} {pi:List (Id×Id)} {o o':Obj} (hc:o.can lk fz pi=some o'):o≠ .gone∧o'≠ .gone:=by
 cases o<;>simp[Obj.can]at hc<;>refine⟨by simp, ?_⟩
 ·split at hc<;>simp at hc;subst hc;simp
 all_goals (subst hc;simp)
def ZmE (st:St) (pi:List (Id×Id)):Option (List Obj):=Zj (fun x=>match st.objs x.2 with |some o=>o.can st.objs st.fz pi |none=>none) pi
def Zh5 (pi:List (Id×Id)) (os:List Obj):Id→Option Obj:=Zg ((pi.map (·.1)).zip os)
theorem ZcR:∀{pi:List (Id×Id)} {os:List Obj} {id:Id} {o:Obj},Zh5 pi os id=some o→∃(j:Nat) (old:Id),pi[j]? =some (id,old)∧os[j]? =some o
 | [],os,id,o,h=>by simp[Zh5,Zg]at h
 |x::r,[],id,o,h=>by simp[Zh5,Zg]at h
 |(n,old)::r,u::os,id,o,h=>by
  simp only[Zh5,Znh,List.zip_cons_cons,Zg]at h;split at h
  ·rename_i he;simp only[Znv]at h;subst he h;exact⟨0,old,rfl,rfl⟩
  ·obtain⟨j,old',q1,q2⟩:=ZcR (pi:=r) (os:=os) h;exact⟨j+1,old',by simpa using q1,by simpa using q2⟩
theorem Rep.select (h:Rep C X ρ S st tm w) {pi:List (Id×Id)} {ep:Nat} {st':St} {tm':Array Value} {C':Ctx}
  (hpi:Zgj st pi ep=true) (hobj:∀new o',st'.objs new=some o'→∃old o,(new,old)∈pi∧st.objs old=some o∧o≠ .gone∧∀L,ρ old=some L→Zw w S ρ L o→Zw w S (Z1 pi ρ) L o')
  (hE:C'.E.globs=C.E.globs) (hnt:tm'.size=C'.E.nt)
  (hqt:ZP C'.W w) (hgrow:C'.H.size≤w.heap.size) (hframe:∀b,b < C'.H.size→¬C'.Lt b→w.heap[b]? =C'.H[b]?) (hs0:∀b,C'.S0 b→S b)
  (hlt:∀new old o L b,(new,old)∈pi→st.objs old=some o→o≠ .gone→ρ old=some L→L.blk=some b→C'.H.size≤b∨C'.Lt b)
  (hfz:∀id,st'.fz id=false) (hep:st'.ep=ep) (hep1:1≤ep) (hslots:∀k,RelD w S (Z1 pi ρ) (tm'.getD k undef) (st'.slots k))
  (hsO:∀b,S b→C'.S0 b∨C'.H.size≤b∨C'.Lt b) (hlay:∀k L,C'.lays k=some L→Z1 pi ρ (0,k,0)≠none→Z1 pi ρ (0,k,0)=some L)
  (hfam:∀new sz c k es lo out,st'.objs new=some (.own sz c k es lo out)→(∀old,(new,old)∈pi→st.objs old=some (.own sz c k es lo out))∧C'.H.size≤C.H.size∧∀b,C.Lt b→C'.Lt b):
  Rep C' (fun _=>False) (Z1 pi ρ) S st' tm' w:=by
 simp only[Zgj,Zm8,ZnD,decide_eq_true_eq,ZnB]at hpi;obtain⟨⟨hn1,hn2⟩,hall⟩:=hpi;have hrho:∀{new old:Id},(new,old)∈pi→Z1 pi ρ new=ρ old:=fun hm=>by simp only[Z1,ZM hn1 hm]
 have fam:∃κ,Fam C'.H.size C'.Lt S (Z1 pi ρ) st'.objs st'.fz w κ:=by
  obtain⟨κ,F⟩:=h.fam;have ko:∀{new i sz c k l},Kid st'.objs st'.fz new i sz c k l→∃old,(new,old)∈pi∧Kid st.objs st.fz old i sz c k l∧C'.H.size≤C.H.size∧∀b,C.Lt b→C'.Lt b:=by rintro new i sz c k l ⟨es,lo,out,cs,ho,_,r⟩;obtain⟨old,o,q1,_⟩:=hobj new _ ho;obtain⟨r1,r2,r3⟩:=hfam _ _ _ _ _ _ _ ho;exact⟨old,q1,⟨es,lo,out,cs,r1 old q1,(hall _ q1).2,r⟩,r2,r3⟩
  let κ':Id→Nat→Lay:=fun new=>match Zg pi new with
   |some old=>κ old
   |none=>fun _=>⟨none,0,0,0,0⟩
  have hκ:∀{new old:Id},(new,old)∈pi→κ' new=κ old:=fun hm=>by simp only[κ',ZM hn1 hm]
  refine⟨κ',fun new i sz c k l L hk hL=> ?_,fun new i sz c k l b hk hb=> ?_,fun new i sz c k l new' i' sz' c' k' l' b hk hk' hb hb'=> ?_⟩
  ·obtain⟨old,q1,q2,_⟩:=ko hk;rw[hrho q1]at hL;rw[hκ q1];exact F.kid _ _ _ _ _ _ L q2 hL
  ·obtain⟨old,q1,q2,q3,q4⟩:=ko hk;rw[hκ q1]at hb;obtain⟨r1,r2,r3,r4⟩:=F.own _ _ _ _ _ _ b q2 hb;refine⟨r1,r2.imp (fun h=>Nat.le_trans q3 h) (q4 b),r3,fun id' o L ho hg hL=> ?_⟩;obtain⟨old',o',s1,s2,s3,_⟩:=hobj id' o ho;rw[hrho s1]at hL;exact r4 old' o' L s2 s3 hL
  ·obtain⟨old,q1,q2,_⟩:=ko hk;obtain⟨old',q1',q2',_⟩:=ko hk';rw[hκ q1]at hb;rw[hκ q1']at hb';obtain⟨rfl,rfl⟩:=F.inj _ _ _ _ _ _ _ _ _ _ _ _ b q2 q2' hb hb';exact⟨ZdQ hn2 q1 q1',rfl⟩
 refine⟨hnt,hgrow,hframe,hs0,h.sIn,hslots, ?_, ?_, ?_, ?_, ?_, ?_, ?_,hsO,hep▸hep1,hqt,hlay,fam⟩
 ·intro id o' ho hg;obtain⟨old,o,q1,q2,q3,q4⟩:=hobj id o' ho;obtain⟨L,hL,hr⟩:=h.objs old o q2 q3;exact⟨L,by rw[hrho q1];exact hL,q4 L hL hr⟩
 ·intro id o' L b ho hg hL hb;obtain⟨old,o,q1,q2,q3,q4⟩:=hobj id o' ho;rw[hrho q1]at hL;obtain⟨r1,r2,r3,r4⟩:=h.own old o L b q2 q3 hL hb;have hf:=(hall _ q1).2;refine⟨r1,hlt id old o L b q1 q2 q3 hL hb,fun hq=> ?_,fun _=>r4 hf⟩;rw[hfz id]at hq;simp at hq
 ·intro id o1 L id' o2 L' b ho hg hL hb ho' hg' hL' hb';obtain⟨old,o,q1,q2,q3,q4⟩:=hobj id o1 ho;obtain⟨old',o',r1,r2,r3,r4⟩:=hobj id' o2 ho';rw[hrho q1]at hL;rw[hrho r1]at hL';have:=h.inj old o L old' o' L' b q2 q3 hL hb r2 r3 hL' hb';subst this;exact ZdQ hn2 q1 r1
 ·intro id hne;cases ho:st'.objs id with
  |none=>exact absurd ho hne
  |some o'=>
   obtain⟨old,o,q1,q2,q3,q4⟩:=hobj id o' ho;rw[hrho q1];exact h.known old (by simp[q2])
 ·intro id hne;left;rw[hep];unfold Z1 at hne;cases hq:Zg pi id with
  |none=>rw[hq]at hne;simp at hne
  |some old=>exact(hall _ (ZR hq)).1
 ·intro id hf;rw[hfz id]at hf;simp at hf
 ·intro g cs hm;exact h.glob g cs (hE▸hm)
def mkS (ep:Nat) (ls:List (Nat×D)) (lo:List (Id×Obj)):St:={slots:=Zat .dead ls,objs:=Zg lo,fz:=fun _=>false,ep:=ep}
theorem ZaM {α β:Type} [DecidableEq α] (d:β):∀(l:List (α×β)) (a:α),Zat d l a=d∨(a,Zat d l a)∈l
 | [],a=> .inl rfl
 |(x,y)::r,a=>by
  simp only[Zat];split
  ·rename_i he;subst he;exact .inr Znk
  ·exact(ZaM d r a).imp (fun h=>h) fun h=>ZnR _ h
def ZlG (pi:List (Id×Id)):Bool:=pi.all fun x=>decide (x.1.2.2≠0)||decide (x.1=x.2)
theorem Rep.canon (h:Rep C X ρ S st tm w) {pi:List (Id×Id)} {ep:Nat} {ls:List Nat} {ds:List D} {os:List Obj} (hep:1≤ep) (hpi:Zgj st pi ep=true) (hkeep:ZlG pi=true) (hos:ZmE st pi=some os)
  (hds:Zj (fun t=>(st.slots t).can st.objs st.fz pi depth) ls=some ds):Rep C (fun _=>False) (Z1 pi ρ) S (mkS ep (ls.zip ds) ((pi.map (·.1)).zip os)) tm w:=by
 have hn1:Zau (pi.map (·.1))=true:=by simp only[Zgj,Zm8]at hpi;exact hpi.1.1
 obtain⟨hol,hoi⟩:=Zl hos;obtain⟨hdl,hdi⟩:=Zl hds;refine h.select hpi ?_ rfl h.nt h.quiet h.grow h.frame h.s0 (fun new old o L b _ q2 q3 q4 q5=>(h.own old o L b q2 q3 q4 q5).2.1) (fun _=>rfl) rfl hep ?_ h.sOut ?_ (fun new sz c k es lo out ho=>⟨fun old hm=> ?_,Znq _,fun _ h=>h⟩)
 rotate_right
 ·obtain⟨j,old',q1,q2⟩:=ZcR ho;have:=hoi j _ _ q1 q2;dsimp only at this;split at this;rotate_left;simp at this;rename_i o hoo;obtain rfl:=Obj.can_own this;have e:=ZM hn1 hm;rw[ZM hn1 (ZnU q1)]at e;obtain rfl:=Znu e;exact hoo
 ·intro new o' ho;obtain⟨j,old,q1,q2⟩:=ZcR ho;have:=hoi j _ _ q1 q2;have hm:=ZnU q1;dsimp only at this;split at this;rotate_left;simp at this;rename_i o hoo;exact⟨old,o,hm,hoo,(Obj.can_gone this).1,fun L _ hr=>ZiN h hn1 hr this⟩
 ·intro k;rcases ZaM D.dead (ls.zip ds) k with hk |hk
  ·show RelD _ _ _ _ (Zat D.dead (ls.zip ds) k);rw[hk];exact .dead _
  ·obtain⟨j,hj⟩:=List.mem_iff_getElem?.1 hk;rw[List.getElem?_zip_eq_some]at hj;have:=hdi j _ _ hj.1 hj.2;exact Zkw h hn1 _ _ _ _ (h.slots k) this
 ·intro k L hk hn;unfold Z1 at hn⊢
  cases hq:Zg pi (0,k,0)with
  |none=>rw[hq]at hn;simp at hn
  |some old=>
   rw[hq]at hn;have hm:=ZR hq;have:=ZnD.1 hkeep _ hm;simp only[ne_eq,not_true_eq_false,decide_false,Bool.false_or,decide_eq_true_eq]at this;subst this;exact h.lay k L hk hn
end
def ZlR:List Bool→Prop
 | []=>True
 | [a]=>a=true
 |a::r=>a=true∧ZlR r
theorem Zdz:∀{l:List Bool},ZlR l→∀p∈l,p=true
 | [],_,p,hp=>by simp at hp
 | [a],h,p,hp=>by simp at hp;subst hp;exact h
 |a::b::r,h,p,hp=>by
  rcases Znj.1 hp with rfl |hp
  ·exact h.1
  ·exact Zdz h.2 p hp
section
variable {C:Ctx} {r:Fm} {G:Zg0}
end
end Eng
namespace Eng
open Go
inductive Arg where
 |p (x:P)
 |box (cs:List P)
 |arr (sz:Nat) (es:List P)
 |map (td:TD) (kv:List (P×P))
 |part (sz:Nat) (es:List P) (off len:Nat)
 deriving Inhabited
inductive RV where
 |p (x:P)
 |own (sz:Nat) (es:List P)
 |box (cs:List P)
 |map (td:TD) (kv:List (P×P))
 |view (k off len:Nat)
 |aown (pre:List P) (sz:Nat) (es post:List P)
 deriving Inhabited
structure Ret where
 res:List RV
 outs:List (Nat×Arg):=[]
 deriving Inhabited
def Arg.d (k:Nat):Arg→D
 | .p x=> .p x
 | .box _=> .ptr (0,k,0) 0 0
 | .arr _ es=> .sl (0,k,0) 0 es.length
 | .map _ _=> .map (0,k,0)
 | .part _ _ off len=> .sl (0,k,0) off len
def Arg.o:Arg→Option Obj
 | .p _=>none
 | .box cs=>some (.box (cs.map .p))
 | .arr sz es=>some (.arr sz es false)
 | .map td kv=>some (.map td kv)
 | .part sz es _ _=>some (.arr sz es false)
def Zc5:Nat→List Arg→List (Nat×D)
 |_,[]=>[]
 |k,a::r=>(k,a.d k)::Zc5 (k+1) r
def Zce:Nat→List Arg→List (Id×Obj)
 |_,[]=>[]
 |k,a::r=>match a.o with
  |some o=>((0,k,0),o)::Zce (k+1) r
  |none=>Zce (k+1) r
def Zep (args:List Arg):St:=mkS 1 (Zc5 0 args) (Zce 0 args)
def RV.d (j:Nat):RV→D
 | .p x=> .p x
 | .own _ es=> .sl (1,j,0) 0 es.length
 | .box _=> .ptr (1,j,0) 0 0
 | .map _ _=> .map (1,j,0)
 | .view k off len=> .sl (0,k,0) off len
 | .aown pre _ es post=> .agg (pre.map .p++ .sl (1,j,0) 0 es.length::post.map .p)
def RV.o:RV→Option Obj
 | .own sz es=>some (.arr sz es false)
 | .aown _ sz es _=>some (.arr sz es false)
 | .box cs=>some (.box (cs.map .p))
 | .map td kv=>some (.map td kv)
 |_=>none
def ZkK:Nat→List RV→List (Nat×D)
 |_,[]=>[]
 |j,x::r=>(j,x.d j)::ZkK (j+1) r
def Zgc:Nat→List RV→List (Id×Obj)
 |_,[]=>[]
 |j,x::r=>match x.o with
  |some o=>((1,j,0),o)::Zgc (j+1) r
  |none=>Zgc (j+1) r
def Zb4:List (Nat×Arg)→List (Id×Obj)
 | []=>[]
 |(k,a)::r=>match a.o with
  |some o=>((0,k,0),o)::Zb4 r
  |none=>Zb4 r
def Zcl (ret:Ret):St:=mkS 2 (ZkK 0 ret.res) (Zgc 0 ret.res++Zb4 ret.outs)
theorem Arg.o_own {a:Arg} {o:Obj} (h:a.o=some o):o.isOwn=false:=by cases a<;>simp[Arg.o]at h<;>subst h<;>rfl
theorem RV.o_own {x:RV} {o:Obj} (h:x.o=some o):o.isOwn=false:=by cases x<;>simp[RV.o]at h<;>subst h<;>rfl
theorem Zer:∀(k:Nat) (as:List Arg) (id:Id) (o:Obj),(id,o)∈Zce k as→o.isOwn=false
 |_,[],_,_,h=>by simp[Zce]at h
 |k,a::r,id,o,h=>by
  simp only[Zce]at h;split at h
  ·rename_i o' ho;rcases Znj.1 h with h |h
   ·cases h;exact Arg.o_own ho
   ·exact Zer _ r id o h
  ·exact Zer _ r id o h
theorem Zfv:∀(k:Nat) (as:List RV) (id:Id) (o:Obj),(id,o)∈Zgc k as→o.isOwn=false
 |_,[],_,_,h=>by simp[Zgc]at h
 |k,a::r,id,o,h=>by
  simp only[Zgc]at h;split at h
  ·rename_i o' ho;rcases Znj.1 h with h |h
   ·cases h;exact RV.o_own ho
   ·exact Zfv _ r id o h
  ·exact Zfv _ r id o h
theorem ZdL:∀(as:List (Nat×Arg)) (id:Id) (o:Obj),(id,o)∈Zb4 as→o.isOwn=false
 | [],_,_,h=>by simp[Zb4]at h
 |(k,a)::r,id,o,h=>by
  simp only[Zb4]at h;split at h
  ·rename_i o' ho;rcases Znj.1 h with h |h
   ·cases h;exact Arg.o_own ho
   ·exact ZdL r id o h
  ·exact ZdL r id o h
theorem ZkD {as:List Arg} {id:Id} {o:Obj} (h:(Zep as).objs id=some o):o.isOwn=false:=Zer 0 as id o (ZR h)
theorem ZjO {ret:Ret} {id:Id} {o:Obj} (h:(Zcl ret).objs id=some o):o.isOwn=false:=
 (Zni.1 (ZR h)).elim (Zfv _ _ id o) (ZdL _ id o)
def Zg6 (vs:Array Value):Value:=if h:vs.size=1 then vs[0]else .tuple vs
def Env.at (E:Env) (n:Nat):Env:={E with nt:=n}
def FunB (E:Env) (f:Nat) (args:List Arg) (ret:Ret):Prop:=
 (∃fn,E.prog.funcs[f]? =some fn∧(fn.name == "runtime.NumGoroutine")=false∧fn.body.isNone=false)∧
 ∀(w:World) (Lt S:Nat→Prop) (lays:Nat→Option Lay) (ρ:Id→Option Lay) (vals:Array Value),vals.size=args.length→
  Rep ⟨E.at vals.size,w,Lt,S,lays⟩ (fun _=>False) ρ S (Zep args) vals w→
  CallsIn (Zct none) 0 E.prog f vals w fun e w'=>∃vs ρ' S',e= .returned (Zg6 vs)∧vs.size=ret.res.length∧
   Rep ⟨E.at vs.size,w,Lt,S,lays⟩ (fun _=>False) ρ' S' (Zcl ret) vs w'
def FunX (E:Env) (f:Nat) (args:List Arg) (ret:Ret):Prop:=
 (∃fn,E.prog.funcs[f]? =some fn∧fn.body.isNone=true)∧
 ∀(w:World) (Lt S:Nat→Prop) (lays:Nat→Option Lay) (ρ:Id→Option Lay) (vals:Array Value),vals.size=args.length→
  Rep ⟨E.at vals.size,w,Lt,S,lays⟩ (fun _=>False) ρ S (Zep args) vals w→
  ∃vs ρ' S' w',(callFunc f vals).run E.prog w= .ok (.value (Zg6 vs)) w'∧vs.size=ret.res.length∧
   Rep ⟨E.at vs.size,w,Lt,S,lays⟩ (fun _=>False) ρ' S' (Zcl ret) vs w'
def Fun (E:Env) (f:Nat) (args:List Arg) (ret:Ret):Prop:=FunB E f args ret∨FunX E f args ret
def ZiH (C:Ctx) (fn:Func) (ret:Ret):Zg0:=fun e a w'=>
 (e= .normal∨e= .ret)∧a.defers=[]∧∃vs ρ' S',(results fn a.tmps).run C.E.prog w'= .ok (Zg6 vs) w'∧vs.size=ret.res.length∧
  Rep ⟨C.E.at vs.size,C.W,C.Lt,C.S0,C.lays⟩ (fun _=>False) ρ' S' (Zcl ret) vs w'
theorem ZiX {E:Env} {f:Nat} {fn:Func} {c:Code} {args:List Arg} {ret:Ret} (hf:E.prog.funcs[f]? =some fn) (hn:(fn.name == "runtime.NumGoroutine")=false) (hb:fn.body=some c) (hl:args.length≤fn.ntmps)
  (h:∀W Lt S0 lays,AWP ⟨E.at fn.ntmps,W,Lt,S0,lays⟩ ⟨none,[]⟩ (ZiH ⟨E.at fn.ntmps,W,Lt,S0,lays⟩ fn ret) [.c c] (Zep args)):Fun E f args ret:=by
 refine .inl ⟨⟨fn,hf,hn,by rw[hb];rfl⟩,fun w Lt S lays ρ vals hv hrep=> ?_⟩;refine callsIn_of_wp hf hb trivial ?_ rfl;intro b k cs hro _ _;have hrep':Rep ⟨E.at fn.ntmps,w,Lt,S,lays⟩ (Xof [.c c]) ρ S (Zep args) (vals++Array.replicate (fn.ntmps - vals.size) undef) w:=by
  refine⟨by simp[Env.at];omega,hrep.grow,hrep.frame,hrep.s0,hrep.sIn,fun k=> ?_,hrep.objs,hrep.own,hrep.inj,hrep.known,fun id hn=>(hrep.young id hn).imp (fun h=>h) (fun h=>h.2.elim),hrep.fzk,hrep.glob,hrep.sOut,hrep.ep1,hrep.quiet,hrep.lay,hrep.fam⟩;have:=hrep.slots k;have e:(vals++Array.replicate (fn.ntmps - vals.size) undef).getD k undef=vals.getD k undef:=by
   simp only[Array.getD_eq_getD_getElem?,Znx];split
   ·rfl
   ·rename_i hk;rw[Array.getElem?_eq_none (Nat.le_of_not_lt hk),Array.getElem?_replicate];split<;>rfl
  rw[e];exact this
 obtain⟨e,a',w',⟨he,hd,vs,ρ',S',hres,hvs,hr⟩,harr⟩:=h w Lt S lays ρ S {tmps:=vals++Array.replicate (fn.ntmps - vals.size) undef,defers:=[]} w hrep' rfl b k cs hro;refine⟨e,a',w', ?_,harr⟩;have:a'.defers=[]∧∃v,(results fn a'.tmps).run E.prog w'= .ok v w'∧∃vs ρ' S',Ending.returned v= .returned (Zg6 vs)∧vs.size=ret.res.length∧Rep ⟨E.at vs.size,w,Lt,S,lays⟩ (fun _=>False) ρ' S' (Zcl ret) vs w':=
  ⟨hd,_,hres,vs,ρ',S',rfl,hvs,hr⟩
 rcases he with rfl |rfl<;>exact this
end Eng
namespace Eng
open Go
section
variable {C:Ctx} {X:Nat→Prop} {ρ:Id→Option Lay} {S:Nat→Prop} {st:St} {tm:Array Value} {w:World}
theorem Rep.freeze (h:Rep C X ρ S st tm w) (fs:List Id) (hfs:∀f∈fs,∃o,st.objs f=some o∧o≠ .gone):∃S',(∀b,S b→S' b)∧(∀f∈fs,∀L b,ρ f=some L→L.blk=some b→S' b)∧Rep C X ρ S' (st.freezeL fs) tm w∧∀b,S' b→S b∨∃f L,f∈fs∧ρ f=some L∧L.blk=some b:=by
 let S':Nat→Prop:=fun b=>S b∨∃f L,f∈fs∧ρ f=some L∧L.blk=some b
 have hSS:∀b,S b→S' b:=fun b hb=> .inl hb
 have kp:ZbQ S w w:=fun _ _ _=>rfl
 have fam:∃κ,Fam C.H.size C.Lt S' ρ (st.freezeL fs).objs (st.freezeL fs).fz w κ:=by
  obtain⟨κ,F⟩:=h.fam;have ko:∀{id i sz c k l},Kid (st.freezeL fs).objs (st.freezeL fs).fz id i sz c k l→Kid st.objs st.fz id i sz c k l:=by rintro id i sz c k l ⟨es,lo,out,cs,ho,hf,r⟩;rw[Zy]at ho;rw[freezeL_fz]at hf;simp only[ZnC]at hf;exact⟨es,lo,out,cs,ho,hf.2,r⟩
  refine⟨κ,fun id i sz c k l L hk hL=> ?_,fun id i sz c k l b hk hb=> ?_,fun id i sz c k l id' i' sz' c' k' l' b hk hk'=>F.inj _ _ _ _ _ _ _ _ _ _ _ _ b (ko hk) (ko hk')⟩
  ·obtain⟨b,v,q1,q2,q3,q4⟩:=F.kid _ _ _ _ _ _ L (ko hk) hL;exact⟨b,v,q1,q2,q3.mono kp hSS (fun _ _ h=>h),q4.mono kp hSS (fun _ _ h=>h) fun _ _=>rfl⟩
  ·obtain⟨q1,q2,q3,q4⟩:=F.own _ _ _ _ _ _ b (ko hk) hb;refine⟨q1,q2, ?_,fun id' o L ho=> ?_⟩
   ·rintro(hs |⟨f,L,hf,hL,hb'⟩)
    ·exact q3 hs
    ·obtain⟨o,ho,hg⟩:=hfs f hf;exact q4 f o L ho hg hL hb'
   ·rw[Zy]at ho;exact q4 id' o L ho
 refine⟨S',hSS,fun f hf L b hL hb=> .inr ⟨f,L,hf,hL,hb⟩,⟨h.nt,h.grow,h.frame,fun b hb=> .inl (h.s0 b hb), ?_, ?_, ?_, ?_, ?_, ?_, ?_, ?_,fun g cs hm=>(h.glob g cs hm).mono kp hSS, ?_,by rw[Ze2];exact h.ep1,h.quiet,h.lay,fam⟩,fun _ h=>h⟩
 ·intro b hb;rcases hb with hb |⟨f,L,hf,hL,hb⟩
  ·exact h.sIn b hb
  ·obtain⟨o,ho,hg⟩:=hfs f hf;exact(h.own f o L b ho hg hL hb).1
 ·intro k;rw[Zcr];exact(h.slots k).mono kp hSS fun _ _ h=>h
 ·intro id o ho hg;rw[Zy]at ho;obtain⟨L,hL,hr⟩:=h.objs id o ho hg;exact⟨L,hL,hr.mono kp hSS (fun _ _ h=>h) fun _ _=>rfl⟩
 ·intro id o L b ho hg hL hb;rw[Zy]at ho;obtain⟨r1,r2,r3,r4⟩:=h.own id o L b ho hg hL hb;rw[freezeL_fz];refine⟨r1,r2,fun hf=> ?_,fun hf=> ?_⟩
  ·simp only[Bool.or_eq_true,ZnG]at hf;rcases hf with hf |hf
   ·exact .inr ⟨id,L,hf,hL,hb⟩
   ·exact .inl (r3 hf)
  ·simp only[ZnC]at hf;rintro(hS |⟨f,L',hf',hL',hb'⟩)
   ·exact r4 hf.2 hS
   ·obtain⟨o',ho',hg'⟩:=hfs f hf';have:=h.inj id o L f o' L' b ho hg hL hb ho' hg' hL' hb';subst this;have:=hf.1;simp[hf']at this
 ·intro id o L id' o' L' b ho hg hL hb ho' hg' hL' hb';rw[Zy]at ho ho';exact h.inj id o L id' o' L' b ho hg hL hb ho' hg' hL' hb'
 ·intro id hn;rw[Zy]at hn;exact h.known id hn
 ·intro id hn;rw[Ze2];exact h.young id hn
 ·intro id hf;rw[freezeL_fz]at hf;simp only[Bool.or_eq_true,ZnG]at hf;rcases hf with hf |hf
  ·obtain⟨o,ho,hg⟩:=hfs id hf;obtain⟨L,hL,_⟩:=h.objs id o ho hg;simp[hL]
  ·exact h.fzk id hf
 ·intro b hb;rcases hb with hb |⟨f,L,hf,hL,hb⟩
  ·exact h.sOut b hb
  ·obtain⟨o,ho,hg⟩:=hfs f hf;exact .inr (h.own f o L b ho hg hL hb).2.1
end
def ZlD (E:Env) (st:St):ResultVar→Option D
 | .tmp t=>some (st.slots t)
 | .cell ad t=>match E.ty t with
  |some ti=>match st.slots ad with
   | .p (.ptr cs)=>match Zdl ti cs with
    |some x=>some (.p x)
    |none=>none
   | .ptr id 0 j=>match st.objs id with
    |some (.box cs)=>ZfG ti (cs.drop j)
    |_=>none
   |_=>none
  |none=>none
inductive RM where
 |p |own |box |map |view |aown
 deriving Inhabited
def Zda:List D→Option (List P×Id×Nat×List P)
 | .p x::r=>match Zda r with
  |some (a,b)=>some (x::a,b)
  |none=>none
 | .sl id 0 len::r=>match Zj D.pure? r with
  |some q=>some ([],id,len,q)
  |none=>none
 |_=>none
theorem ZjD:∀{cs:List D} {pre post:List P} {id:Id} {len:Nat},Zda cs=some (pre,id,len,post)→cs=pre.map .p++ .sl id 0 len::post.map .p:=by
 intro cs
 induction cs with
 |nil=>intro pre post id len h;simp[Zda]at h
 |cons d r ih=>
  intro pre post id len h;unfold Zda at h;split at h
  ·rename_i x r' he;simp only[List.cons.injEq]at he;obtain⟨rfl,rfl⟩:=he;split at h;rotate_left;simp at h;rename_i a b hb;simp only[Znv,Znw]at h;obtain⟨rfl,rfl⟩:=h;rw[ih hb];rfl
  ·rename_i id' len' r' he;simp only[List.cons.injEq]at he;obtain⟨rfl,rfl⟩:=he;split at h;rotate_left;simp at h;rename_i q hq;simp only[Znv,Znw]at h;obtain⟨rfl,rfl,rfl,rfl⟩:=h;rw[Zv hq];rfl
  ·simp at h
theorem Zlv {s s':D} {post:List P}:∀{pre:List P} (i:Nat) c,(pre.map D.p++s'::post.map D.p)[i]? =some c→
  (∃x,c= .p x∧(pre.map D.p++s::post.map D.p)[i]? =some (.p x))∨(c=s'∧(pre.map D.p++s::post.map D.p)[i]? =some s):=by
 intro pre
 induction pre with
 |nil=>
  intro i c h;cases i with
  |zero=>simp at h;exact .inr ⟨h.symm,rfl⟩
  |succ i=>
   have h':(post.map D.p)[i]? =some c:=by simpa using h
   rw[Znf,Znt]at h';obtain⟨x,hx,rfl⟩:=h';exact .inl ⟨x,rfl,by simp[hx]⟩
 |cons y pre ih=>
  intro i c h;cases i with
  |zero=>simp at h;exact .inl ⟨y,h.symm,rfl⟩
  |succ i=>exact ih i c (by simpa using h)
theorem RelD.aown {w:World} {S S':Nat→Prop} {ρ ρ':Id→Option Lay} {v:Value} {pre post:List P} {id id':Id} {n:Nat} (h:RelD w S ρ v (.agg (pre.map .p++ .sl id 0 n::post.map .p))) (hS:∀b,S b→S' b) (hρ:ρ' id'=ρ id):
  RelD w S' ρ' v (.agg (pre.map .p++ .sl id' 0 n::post.map .p)):=by
 cases h with
 |agg vs cs hl h1 h=>
  refine .agg vs _ (by rw[hl];simp) h1 fun i u c hu hc=> ?_
  rcases Zlv (s:= .sl id 0 n) i c hc with ⟨x,rfl,hx⟩ |⟨rfl,hx⟩
  ·exact .p _ _ ((h i u _ hu hx).of_p.mono (fun _ _ _=>rfl) hS)
  ·have hr:=h i u _ hu hx;cases hr with
   |sl _ _ _ cap ad L hL hl hm hcp ha=>exact .sl _ 0 _ cap ad L (by rw[hρ];exact hL) hl hm hcp ha
def Zaf (st:St):Obj→Option (Arg×List Id)
 | .box ds=>match Zj (fun d=>d.toP st.objs depth) ds with
  |some cs=>some (.box cs,ds.flatMap fun d=>d.ids st.objs depth)
  |none=>none
 | .arr sz es false=>some (.arr sz es,[])
 | .map td kv=>some (.map td kv,[])
 |_=>none
structure RE where
 rv:RV
 fs:List Id:=[]
 id:Option Id:=none
 cond:List Bool:=[]
def Zjr (st:St) (m:RM) (d:D):Option RE:=
 match m,d with
 | .p,d=>match d.toP st.objs depth with
  |some x=>some {rv:= .p x,fs:=d.ids st.objs depth}
  |none=>none
 | .own,.sl id 0 len=>match st.objs id with
  |some (.arr sz es false)=>some {rv:= .own sz es,id:=some id,cond:=[decide (len=es.length)]}
  |_=>none
 | .box,.ptr id 0 0=>match st.objs id with
  |some (.box ds)=>match Zj (fun d=>d.toP st.objs depth) ds with
   |some cs=>some {rv:= .box cs,fs:=ds.flatMap fun d=>d.ids st.objs depth,id:=some id}
   |none=>none
  |_=>none
 | .map,.map id=>match st.objs id with
  |some (.map td kv)=>some {rv:= .map td kv,id:=some id}
  |_=>none
 | .view,.sl (0,k,0) off len=>some {rv:= .view k off len}
 | .aown,.agg cs=>match Zda cs with
  |some (pre,id,len,post)=>match st.objs id with
   |some (.arr sz es false)=>some {rv:= .aown pre sz es post,id:=some id,cond:=[decide (len=es.length)]}
   |_=>none
  |none=>none
 |_,_=>none
def ZmT (st:St) (k:Nat):Option ((Nat×Arg)×List Id):=
 match st.objs (0,k,0)with
 |some o=>match Zaf st o with
  |some (a,fs)=>some ((k,a),fs)
  |none=>none
 |none=>none
def ZiG:Nat→List RE→List (Id×Id)
 |_,[]=>[]
 |j,x::r=>match x.id with
  |some id=>((1,j,0),id)::ZiG (j+1) r
  |none=>ZiG (j+1) r
def Zf0 (os:List Nat):RV→Bool
 | .view k _ _=>os.contains k
 |_=>true
def ZmQ (E:Env) (st:St) (rs:List ResultVar) (ms:List RM) (outs:List Nat):Option (Ret×List Bool):=
 match Zj (ZlD E st) rs with
 |some ds=>if ds.length=ms.length then match Zj (fun x=>Zjr st x.1 x.2) (ms.zip ds),Zj (ZmT st) outs with
  |some res,some os=>
   let fs:=res.flatMap (·.fs)++os.flatMap (·.2)
   let pi:=ZiG 0 res++outs.map fun k=>((0,k,0),(0,k,0))
   if Zgj (st.freezeL fs) pi 2&&res.all (fun x=>Zf0 outs x.rv)then some (⟨res.map (·.rv),os.map (·.1)⟩,res.flatMap (·.cond))else none
  |_,_=>none
  else none
 |none=>none
theorem Zhe {P:Program} {fn:Func} {tm:Array Value} {w:World} {vs:List Value} (hl:vs.length=fn.results.size)
  (h:∀(j:Nat) rv v,fn.results[j]? =some rv→vs[j]? =some v→(match rv with | .tmp t=>pure (tm.getD t undef) | .cell a t=>do loadVar t (←asAddr (tm.getD a undef)):Sem Value).run P w= .ok v w):
  (results fn tm).run P w= .ok (Zg6 vs.toArray) w:=by
 have key:∀(l:List ResultVar) (us:List Value),us.length=l.length→(∀(j:Nat) rv v,l[j]? =some rv→us[j]? =some v→(match rv with | .tmp t=>pure (tm.getD t undef) | .cell a t=>do loadVar t (←asAddr (tm.getD a undef)):Sem Value).run P w= .ok v w)→
   (l.mapM fun | .tmp t=>pure (tm.getD t undef) | .cell a t=>do loadVar t (←asAddr (tm.getD a undef)):Sem (List Value)).run P w= .ok us w:=by
  intro l
  induction l with
  |nil=>intro us hu _;have:=ZnH hu;subst this;simp
  |cons rv l ih=>
   intro us hu hh
   match us,hu with
   |v::us,hu=>
    have h0:=hh 0 rv v rfl rfl;have h1:=ih us (by simpa using hu) fun j rv v hr hv=>hh (j+1) rv v (by simpa using hr) (by simpa using hv)
    rw[List.mapM_cons,Sem.run_bind,h0,Result.andThen_ok,Sem.run_bind,h1,Result.andThen_ok,Sem.run_pure]
 have:=key fn.results.toList vs (by simpa using hl) (fun j rv v hr hv=>h j rv v (by simpa using hr) hv);unfold results;rw[Array.mapM_eq_mapM_toList];rw[Sem.run_bind,Sem.run_map]
 erw [this]
 simp only[Result.andThen_ok,Sem.run_pure];rfl
section
variable {C:Ctx} {X:Nat→Prop} {ρ:Id→Option Lay} {S:Nat→Prop} {st:St} {w:World}
theorem Zk2 {a:Act} (hE:Zn C.E) (h:Rep C X ρ S st a.tmps w) {rv:ResultVar} {d:D} (hd:ZlD C.E st rv=some d):
  ∃v,(match rv with | .tmp t=>pure (a.tmps.getD t undef) | .cell ad t=>do loadVar t (←asAddr (a.tmps.getD ad undef)):Sem Value).run C.E.prog w= .ok v w∧RelD w S ρ v d:=by
 cases rv with
 |tmp t=>
  simp only[ZlD,Znv]at hd;subst hd;exact⟨_,by simp,h.slots t⟩
 |cell ad t=>
  simp only[ZlD]at hd;split at hd;rotate_left;simp at hd;rename_i ti hty;obtain⟨ii,ds,z,hti⟩:=hE.is hty;have hs:=h.slots ad;generalize hv:a.tmps.getD ad undef=pv at hs;split at hd
  ·rename_i cs hst;split at hd;rotate_left;simp at hd;rename_i x hx;cases hd;rw[hst]at hs;have hs:=hs.of_p;cases hs with
   |ptr b o' _ vs hS hcell h1 hr=>
    obtain⟨hle,hrel⟩:=Zbs (w:=w) (S:=S) hx hti.one;have get:∀(j:Nat) u,((List.range ti.size).map vs)[j]? =some u→j < ti.size∧u=vs j:=by
     intro j u hu;have hlt:j < ti.size:=by have:=(Zne.1 hu).1;simpa using this
     simp[hlt]at hu;exact⟨hlt,hu.symm⟩
    have hrun:=Zb9 (C:=C) (w:=w) hE hty b o' ((List.range ti.size).map vs) (by simp) (fun j u hu=>by obtain⟨hlt,rfl⟩:=get j u hu;exact hcell j cs[j] (by simp))
    refine⟨Zaq ti ((List.range ti.size).map vs).toArray,by
     have hv':a.tmps[ad]?.getD undef= .pointer (some ⟨b,o',none⟩):=by simpa using hv
     simp[asAddr,hv',hrun],.p _ _ (hrel _ (by simp) fun j u c hu hc=> ?_)⟩
    obtain⟨hlt,rfl⟩:=get j u hu;exact⟨hr j c hc,h1 j c hc⟩
  ·rename_i id j hst;split at hd;rotate_left;simp at hd;rename_i cs hlk;rw[hst]at hs;cases hs with
   |ptr _ _ _ L b hL hi hb=>
    obtain⟨hle,hrel⟩:=ZdX (w:=w) (S:=S) (ρ:=ρ) hd hti.one;obtain⟨L',hL',b',hb',hsz,hln,hcs⟩:=h.objs id _ hlk (by simp);rw[hL]at hL';obtain rfl:=Znu hL';rw[hb]at hb';obtain rfl:=Znu hb';have get:∀k,k < ti.size→∃u,w.cell? ⟨b,L.base+0*L.sz+j+k,none⟩=some u∧Zbj u∧∀c,(cs.drop j)[k]? =some c→RelD w S ρ u c:=by intro k hk;simp at hle;obtain⟨u,hu,_,h1,hr⟩:=hcs (j+k) cs[j+k] (by simp);refine⟨u,by rw[←hu];congr 2;omega,h1,fun c hc=> ?_⟩;rw[List.getElem?_drop]at hc;obtain⟨_,rfl⟩:=Zne.1 hc;exact hr
    let us:List Value:=(List.range ti.size).map fun k=>(w.cell? ⟨b,L.base+0*L.sz+j+k,none⟩).getD default
    have hus:∀(k:Nat) u,us[k]? =some u→k < ti.size∧w.cell? ⟨b,L.base+0*L.sz+j+k,none⟩=some u:=by
     intro k u hu;have hlt:k < ti.size:=by have:=(Zne.1 hu).1;simpa[us]using this
     obtain⟨u',q1,_⟩:=get k hlt;simp[us,hlt]at hu;simp only[Nat.zero_mul,ZnW]at q1⊢
     rw[q1]at hu;exact⟨hlt,by rw[q1];simpa using hu⟩
    have hrun:=Zb9 (C:=C) (w:=w) hE hty b (L.base+0*L.sz+j) us (by simp[us]) (fun k u hu=>(hus k u hu).2);refine⟨Zaq ti us.toArray,by
     have hv':a.tmps[ad]?.getD undef= .pointer (some ⟨b,L.base+0*L.sz+j,none⟩):=by simpa using hv
     simp only[Nat.zero_mul,ZnW]at hv' hrun;simp[asAddr,hv',hrun],hrel _ (by simp[us]) fun k u c hu hc=> ?_⟩
    obtain⟨q1,q2⟩:=hus k u hu;obtain⟨u',r1,r2,r3⟩:=get k q1;rw[q2]at r1;obtain rfl:=Znu r1;exact⟨r3 c hc,r2⟩
  ·simp at hd
end
theorem Zft:∀(n:Nat) (l:List RE) (j:Nat) (x:RE) (id:Id),l[j]? =some x→x.id=some id→((1,n+j,0),id)∈ZiG n l
 |n,[],j,x,id,h,_=>by simp at h
 |n,y::l,j,x,id,h,hid=>by
  cases j with
  |zero=>
   simp only[Znc,Znv]at h;subst h;simp[ZiG,hid]
  |succ j=>
   simp only[ZnK]at h;have:=Zft (n+1) l j x id h hid;rw[show n+(j+1)=n+1+j by omega];unfold ZiG;split
   ·exact ZnR _ this
   ·exact this
theorem ZhZ:∀(n:Nat) (l:List RV) (k:Nat) (d:D),(k,d)∈ZkK n l→∃j x,l[j]? =some x∧k=n+j∧d=x.d (n+j)
 |n,[],k,d,h=>by simp[ZkK]at h
 |n,x::l,k,d,h=>by
  rcases Znj.1 h with h |h
  ·simp only[Znw]at h;obtain⟨rfl,rfl⟩:=h;exact⟨0,x,rfl,rfl,rfl⟩
  ·obtain⟨j,x',q1,q2,q3⟩:=ZhZ (n+1) l k d h;exact⟨j+1,x',by simpa using q1,by omega,by rw[q3];congr 1;omega⟩
theorem ZhY:∀(n:Nat) (l:List RV) (id:Id) (o:Obj),(id,o)∈Zgc n l→∃j x,l[j]? =some x∧id=(1,n+j,0)∧x.o=some o
 |n,[],id,o,h=>by simp[Zgc]at h
 |n,x::l,id,o,h=>by
  have hrec:(id,o)∈Zgc (n+1) l→∃j x',(x::l)[j]? =some x'∧id=(1,n+j,0)∧x'.o=some o:=fun h=>by obtain⟨j,x',q1,q2,q3⟩:=ZhY (n+1) l id o h;exact⟨j+1,x',by simpa using q1,by rw[q2];congr 2;omega,q3⟩
  unfold Zgc at h;split at h
  ·rename_i u hu;rcases Znj.1 h with h |h
   ·simp only[Znw]at h;obtain⟨rfl,rfl⟩:=h;exact⟨0,x,rfl,rfl,hu⟩
   ·exact hrec h
  ·exact hrec h
theorem Zgk:∀(l:List (Nat×Arg)) (id:Id) (o:Obj),(id,o)∈Zb4 l→∃k a,(k,a)∈l∧id=(0,k,0)∧a.o=some o
 | [],id,o,h=>by simp[Zb4]at h
 |(k,a)::l,id,o,h=>by
  have hrec:(id,o)∈Zb4 l→∃k' a',(k',a')∈(k,a)::l∧id=(0,k',0)∧a'.o=some o:=fun h=>by obtain⟨k',a',q1,q2⟩:=Zgk l id o h;exact⟨k',a',ZnR _ q1,q2⟩
  unfold Zb4 at h;split at h
  ·rename_i u hu;rcases Znj.1 h with h |h
   ·simp only[Znw]at h;obtain⟨rfl,rfl⟩:=h;exact⟨k,a,Znk,rfl,hu⟩
   ·exact hrec h
  ·exact hrec h
section
variable {C:Ctx} {X:Nat→Prop} {ρ ρ':Id→Option Lay} {S S':Nat→Prop} {st:St} {tm:Array Value} {w:World}
theorem ZbJ (h:Rep C X ρ S st tm w) (hS:∀b,S b→S' b) {L:Lay} {o:Obj} {a:Arg} {fs:List Id} (ha:Zaf st o=some (a,fs)) (hfs:∀f∈fs,∀L b,ρ f=some L→L.blk=some b→S' b) (hr:Zw w S ρ L o):
  ∃o',a.o=some o'∧o≠ .gone∧Zw w S' ρ' L o':=by
 have kp:ZbQ S w w:=fun _ _ _=>rfl
 cases o with
 |box ds=>
  simp only[Zaf]at ha;split at ha;rotate_left;simp at ha;rename_i cs hcs;simp only[Znv,Znw]at ha;obtain⟨rfl,rfl⟩:=ha;obtain⟨q1,q2⟩:=Zl hcs;obtain⟨b,r1,r2,r3,r4⟩:=hr;refine⟨_,rfl,by simp,b,r1,by simp;omega,r3,fun j d hd=> ?_⟩;rw[Znf,Znt]at hd;obtain⟨c,hc,rfl⟩:=hd;have hj:j < ds.length:=by have:=(Zne.1 hc).1;omega
  obtain⟨v,s1,s2,s3,s4⟩:=r4 j ds[j] (by simp[hj]);exact⟨v,s1,s2,s3,.p _ _ (Zar h.objs hS depth _ _ _ s4 (q2 j ds[j] c (by simp[hj]) hc) fun id hid L b=>hfs id (Znl.2 ⟨ds[j],List.getElem_mem _,hid⟩) L b)⟩
 |arr sz es fix=>
  cases fix with
  |true=>simp[Zaf]at ha
  |false=>
   simp only[Zaf,Znv,Znw]at ha;obtain⟨rfl,rfl⟩:=ha;exact⟨_,rfl,by simp,hr.mono (ρ':=ρ) kp hS (fun _ _ h=>h) fun _ _=>rfl⟩
 |map td kv=>
  simp only[Zaf,Znv,Znw]at ha;obtain⟨rfl,rfl⟩:=ha;exact⟨_,rfl,by simp,hr.mono (ρ':=ρ) kp hS (fun _ _ h=>h) fun _ _=>rfl⟩
 |_=>simp[Zaf]at ha
theorem ZeR (h:Rep C X ρ S st tm w) {o:Obj} {a:Arg} {fs:List Id} (ha:Zaf st o=some (a,fs)):∀f∈fs,∃o,st.objs f=some o∧o≠ .gone:=by
 intro f hf;cases o with
 |box ds=>
  simp only[Zaf]at ha;split at ha;rotate_left;simp at ha;rename_i cs hcs;simp only[Znv,Znw]at ha;obtain⟨rfl,rfl⟩:=ha;obtain⟨q1,q2⟩:=Zl hcs;obtain⟨d,hd,hid⟩:=Znl.1 hf;obtain⟨j,hj,rfl⟩:=ZnS.1 hd;exact Zbn depth _ _ (q2 j ds[j] cs[j] (by simp[hj]) (by simp[q1,hj])) f hid
 |arr sz es fix=>
  cases fix<;>simp[Zaf]at ha;obtain⟨_,rfl⟩:=ha;simp at hf
 |map td kv=>
  simp only[Zaf,Znv,Znw]at ha;obtain⟨_,rfl⟩:=ha;simp at hf
 |_=>simp[Zaf]at ha
theorem Zk1 {m:RM} {d:D} {x:RE} (hx:Zjr st m d=some x):∀f∈x.fs,∃o,st.objs f=some o∧o≠ .gone:=by
 intro f hf;unfold Zjr at hx;split at hx
 ·split at hx;rotate_left;simp at hx;rename_i y hy;cases hx;exact Zbn depth _ _ hy f hf
 ·split at hx<;>simp at hx;subst hx;simp at hf
 ·split at hx;rotate_left;simp at hx;rename_i ds hlk;split at hx;rotate_left;simp at hx;rename_i cs hcs;cases hx;obtain⟨q1,q2⟩:=Zl hcs;obtain⟨d,hd,hid⟩:=Znl.1 hf;obtain⟨j,hj,rfl⟩:=ZnS.1 hd;exact Zbn depth _ _ (q2 j ds[j] cs[j] (by simp[hj]) (by simp[q1,hj])) f hid
 ·split at hx<;>simp at hx;subst hx;simp at hf
 ·cases hx;simp at hf
 ·split at hx;rotate_left;simp at hx;split at hx<;>simp at hx;subst hx;simp at hf
 ·simp at hx
end
section
variable {C:Ctx} {r:Fm}
theorem Zis {fn:Func} {k:List Item} {st:St} {ret0 ret:Ret} {ps:List Bool} (e:Exit) (he:e= .normal∨e= .ret) (ms:List RM) (outs:List Nat) (hE:Zn C.E) (hr:ZmQ C.E st fn.results.toList ms outs=some (ret0,ps)) (hre:ret0=ret) (hp:ZlR ps) (hds:r.ds=[])
  (hX:∀j,¬Xof k j)
  (harr:∀(a:Act) (w:World) (b:Frame) (k0:List Go.Item) (cs:List Frame),b.roundOf=r.r→ArrivesIn (Machine.fenced C.E.prog (Zct r.r)) C.E.prog (lone (b.atR a (k.map conc++k0)) cs w) b k0 cs e a w):AWP C r (ZiH C fn ret) k st:=by
 subst hre;intro ρ S a w hrep hd b k0 cs hb;refine⟨e,a,w,⟨he,by rw[hd,hds], ?_⟩,harr a w b k0 cs hb⟩;unfold ZmQ at hr;split at hr;rotate_left;simp at hr;rename_i ds hds';split at hr;rotate_left;simp at hr;rename_i hlen;split at hr;rotate_left;simp at hr;rename_i res os hres hos;dsimp only at hr;split at hr;rotate_left;simp at hr;rename_i hok;simp only[Zm8,ZnD]at hok;obtain⟨hpi,hview⟩:=hok;simp only[Znv,Znw]at hr;obtain⟨rfl,rfl⟩:=hr;obtain⟨d1,d2⟩:=Zl hds';obtain⟨r1,r2⟩:=Zl hres;obtain⟨o1,o2⟩:=Zl hos;have hv:∀j:Nat,∃v,∀rv d,fn.results[j]? =some rv→ds[j]? =some d→(match rv with | .tmp t=>pure (a.tmps.getD t undef) | .cell ad t=>do loadVar t (←asAddr (a.tmps.getD ad undef)):Sem Value).run C.E.prog w= .ok v w∧RelD w S ρ v d:=by
  intro j;cases hq:fn.results[j]? with
  |none=>exact⟨undef,fun rv d h=>by simp at h⟩
  |some rv=>
   have hj:j < ds.length:=by rw[d1];have:=(Zm4.1 hq).1;simpa using this
   obtain⟨v,q1,q2⟩:=Zk2 (a:=a) hE hrep (d2 j rv ds[j] (by simpa using hq) (by simp[hj]));refine⟨v,fun rv' d h1 h2=> ?_⟩;obtain rfl:=Znu h1;rw[ZnL hj]at h2;obtain rfl:=Znu h2;exact⟨q1,q2⟩
 let f:Nat→Value:=fun j=>(hv j).choose
 have hf:∀(j:Nat) rv d,fn.results[j]? =some rv→ds[j]? =some d→_:=fun j=>(hv j).choose_spec
 let vs:List Value:=(List.range fn.results.size).map f;have hvl:vs.length=fn.results.size:=by simp[vs]
 have hvj:∀(j:Nat) v,vs[j]? =some v→j < fn.results.size∧v=f j:=by
  intro j v hv;have hj:j < fn.results.size:=by have:=(Zne.1 hv).1;omega
  simp[vs,hj]at hv;exact⟨hj,hv.symm⟩
 have hrun:=Zhe (P:=C.E.prog) (fn:=fn) (tm:=a.tmps) (w:=w) hvl (fun j rv v hrv hv=>by
  obtain⟨hj,rfl⟩:=hvj j v hv;have hj':j < ds.length:=by rw[d1];simpa using hj
  exact(hf j rv ds[j] hrv (by simp[hj'])).1)
 have hlr:ds.length=fn.results.size:=by rw[d1];simp
 have hrl:res.length=fn.results.size:=by rw[r1,List.length_zip];omega
 let fs:=res.flatMap (·.fs)++os.flatMap (·.2);have hfs:∀g∈fs,∃o,st.objs g=some o∧o≠ .gone:=by
  intro g hg;rcases Zni.1 hg with hg |hg
  ·obtain⟨x,hx,hgx⟩:=Znl.1 hg;obtain⟨j,hj,rfl⟩:=ZnS.1 hx;have hz:j < (ms.zip ds).length:=by omega
   exact Zk1 (r2 j (ms.zip ds)[j] res[j] (by simp only[ZnL hz]) (ZnL hj)) g hgx
  ·obtain⟨x,hx,hgx⟩:=Znl.1 hg;obtain⟨j,hj,rfl⟩:=ZnS.1 hx;have hz:j < outs.length:=by omega
   have:=o2 j outs[j] os[j] (ZnL hz) (ZnL hj);unfold ZmT at this;split at this;rotate_left;simp at this;split at this;rotate_left;simp at this;rename_i a' fs' ha';have e1:=Znu this;rw[←e1]at hgx;exact ZeR hrep ha' g hgx
 obtain⟨S',hSS,hFS,hrep',_⟩:=hrep.freeze fs hfs;let pi:=ZiG 0 res++outs.map fun k=>(((0,k,0):Id),((0,k,0):Id))
 have hn1:Zau (pi.map (·.1))=true:=by have:=hpi;simp only[Zgj,Zm8]at this;exact this.1.1
 have hrho:∀{new old:Id},(new,old)∈pi→Z1 pi ρ new=ρ old:=fun hm=>by simp only[Z1,ZM hn1 hm]
 refine⟨vs.toArray,Z1 pi ρ,S',hrun,by simp[hvl,hrl],hrep'.select (C':=⟨C.E.at vs.toArray.size,C.W,C.Lt,C.S0,C.lays⟩) hpi ?_ rfl rfl hrep'.quiet hrep'.grow hrep'.frame hrep'.s0 (fun new old o L b _ q2 q3 q4 q5=>(hrep'.own old o L b q2 q3 q4 q5).2.1) (fun _=>rfl) rfl (by decide) ?_ hrep'.sOut ?_ (fun _ _ _ _ _ _ _ ho=>by have:=ZjO ho;simp[Obj.isOwn]at this)⟩
 ·intro new o' ho;have hm:=ZR ho;rw[Zy];rcases Zni.1 hm with hm |hm
  ·obtain⟨j,x,q1,q2,q3⟩:=ZhY 0 _ _ _ hm;rw[ZnZ]at q2;rw[Znf,Znt]at q1;obtain⟨re,q1,rfl⟩:=q1;have hj:j < res.length:=(Zne.1 q1).1;have hz:j < (ms.zip ds).length:=by omega
   have hre:=r2 j (ms.zip ds)[j] re (by simp only[ZnL hz]) q1;generalize (ms.zip ds)[j]=md at hre;obtain⟨m,d⟩:=md;have hin:∀id,re.id=some id→(new,id)∈pi:=fun id hid=>ZnP _ (by rw[q2];have:=Zft 0 res j re id q1 hid;rwa [ZnZ]at this)
   have hfsm:∀g∈re.fs,∀L b,ρ g=some L→L.blk=some b→S' b:=fun g hg=>hFS g (ZnP _ (Znl.2 ⟨re,ZnU q1,hg⟩))
   dsimp only at hre;unfold Zjr at hre;split at hre
   ·split at hre;rotate_left;simp at hre;cases hre;simp[RV.o]at q3
   ·rename_i id len;split at hre;rotate_left;simp at hre;rename_i sz es hlk;cases hre;simp only[RV.o,Znv]at q3;subst q3;exact⟨id,_,hin id rfl,hlk,by simp,fun L _ hr=>hr⟩
   ·rename_i id;split at hre;rotate_left;simp at hre;rename_i dsb hlk;split at hre;rotate_left;simp at hre;rename_i csb hcs;cases hre;simp only[RV.o,Znv]at q3;subst q3;refine⟨id,_,hin id rfl,hlk,by simp,fun L hL _=> ?_⟩;obtain⟨L',hL',hro⟩:=hrep.objs id _ hlk (by simp);rw[hL]at hL';obtain rfl:=Znu hL';obtain⟨o',p1,_,p3⟩:=ZbJ (ρ':=Z1 pi ρ) hrep hSS (a:= .box csb) (fs:=dsb.flatMap fun d=>d.ids st.objs depth) (by simp[Zaf,hcs]) hfsm hro;simp only[Arg.o,Znv]at p1;subst p1;exact p3
   ·rename_i id;split at hre;rotate_left;simp at hre;rename_i td kv hlk;cases hre;simp only[RV.o,Znv]at q3;subst q3;exact⟨id,_,hin id rfl,hlk,by simp,fun L _ hr=>hr⟩
   ·cases hre;simp[RV.o]at q3
   ·split at hre;rotate_left;simp at hre;rename_i pre id len post _;split at hre;rotate_left;simp at hre;rename_i sz es hlk;cases hre;simp only[RV.o,Znv]at q3;subst q3;exact⟨id,_,hin id rfl,hlk,by simp,fun L _ hr=>hr⟩
   ·simp at hre
  ·obtain⟨kk,aa,q1,q2,q3⟩:=Zgk _ _ _ hm;obtain⟨x,hx,hxe⟩:=ZnT.1 q1;obtain⟨j,hj,rfl⟩:=ZnS.1 hx;have hz:j < outs.length:=by omega
   have hout:=o2 j outs[j] os[j] (ZnL hz) (ZnL hj);unfold ZmT at hout;split at hout;rotate_left;simp at hout;rename_i o hlk;split at hout;rotate_left;simp at hout;rename_i a' fs' ha';have e1:=Znu hout;rw[←e1]at hxe;simp only[Znw]at hxe;obtain⟨rfl,rfl⟩:=hxe;obtain⟨L,hL,hro⟩:=hrep.objs _ o hlk (ZbJ (ρ':=Z1 pi ρ) (S':=fun _=>True) hrep (fun _ _=>trivial) ha' (fun _ _ _ _ _ _=>trivial) (hrep.objs _ o hlk (by intro hg;subst hg;simp[Zaf]at ha')).choose_spec.2).choose_spec.2.1;have hfsm:∀g∈fs',∀L b,ρ g=some L→L.blk=some b→S' b:=fun g hg=>hFS g (ZnQ _ (Znl.2 ⟨os[j],List.getElem_mem hj,by rw[←e1];exact hg⟩))
   obtain⟨o2',p1,p2,p3⟩:=ZbJ (ρ':=Z1 pi ρ) hrep hSS ha' hfsm hro;rw[p1]at q3;obtain rfl:=Znu q3;refine⟨(0,outs[j],0),o,ZnQ _ (ZnT.2 ⟨outs[j],List.getElem_mem hz,by rw[q2]⟩),hlk,p2,fun L' hL' _=> ?_⟩;rw[hL]at hL';obtain rfl:=Znu hL';exact p3
 ·intro k';show RelD w S' (Z1 pi ρ) (vs.toArray.getD k' undef) (Zat D.dead (ZkK 0 (res.map (·.rv))) k');rcases ZaM D.dead (ZkK 0 (res.map (·.rv))) k' with hk |hk
  ·rw[hk];exact .dead _
  ·obtain⟨j,x,q1,q2,q3⟩:=ZhZ 0 _ _ _ hk;rw[ZnZ]at q2 q3;subst q2;rw[q3];rw[Znf,Znt]at q1;obtain⟨re,q1,rfl⟩:=q1;have hj:k' < res.length:=(Zne.1 q1).1;have hz:k' < (ms.zip ds).length:=by omega
   have hdj:k' < ds.length:=by omega
   have hre:=r2 k' (ms.zip ds)[k'] re (by simp only[ZnL hz]) q1;simp only[List.getElem_zip]at hre;have hjr:k' < fn.results.size:=by omega
   have hrel:RelD w S ρ (f k') ds[k']:=(hf k' fn.results[k'] ds[k'] (by simp[hjr]) (by simp[hdj])).2;have hval:vs.toArray.getD k' undef=f k':=by simp[vs,hjr]
   rw[hval];have hin:∀id,re.id=some id→((1,k',0),id)∈pi:=fun id hid=>ZnP _ (by have:=Zft 0 res k' re id q1 hid;rwa [ZnZ]at this)
   have hfsm:∀g∈re.fs,∀L b,ρ g=some L→L.blk=some b→S' b:=fun g hg=>hFS g (ZnP _ (Znl.2 ⟨re,ZnU q1,hg⟩))
   have hcm:∀c∈re.cond,c=true:=fun c hc=>Zdz hp c (Znl.2 ⟨re,ZnU q1,hc⟩)
   have hvw:=hview re (ZnU q1);generalize ds[k']=d at hre hrel;generalize f k'=v at hrel⊢
   generalize ms[k']=m at hre;have kp:ZbQ S w w:=fun _ _ _=>rfl
   unfold Zjr at hre;split at hre
   ·split at hre;rotate_left;simp at hre;rename_i x hx;cases hre;exact .p _ _ (Zar hrep.objs hSS depth _ _ _ hrel hx hfsm)
   ·rename_i id len;split at hre;rotate_left;simp at hre;rename_i sz es hlk;cases hre;have hle:len=es.length:=of_decide_eq_true (hcm _ Znk);subst hle;cases hrel with
    |sl _ _ _ cap ad L hL hl hm hcp ha=>exact .sl _ 0 _ cap ad L (by rw[hrho (hin id rfl)];exact hL) hl hm hcp ha
   ·rename_i id;split at hre;rotate_left;simp at hre;split at hre;rotate_left;simp at hre;cases hre;cases hrel with
    |ptr _ _ _ L b hL hi hb=>exact .ptr _ 0 0 L b (by rw[hrho (hin id rfl)];exact hL) hi hb
   ·rename_i id;split at hre;rotate_left;simp at hre;cases hre;cases hrel with
    |map _ L b hL hb=>exact .map _ L b (by rw[hrho (hin id rfl)];exact hL) hb
   ·rename_i kk off len;cases hre;simp only[Zf0,ZnG]at hvw;cases hrel with
    |sl _ _ _ cap ad L hL hl hm hcp ha=>exact .sl _ off _ cap ad L (by rw[hrho (ZnQ _ (ZnT.2 ⟨kk,hvw,rfl⟩))];exact hL) hl hm hcp ha
   ·split at hre;rotate_left;simp at hre;rename_i pre id len post hsp;split at hre;rotate_left;simp at hre;rename_i sz es hlk;cases hre;have hle:len=es.length:=of_decide_eq_true (hcm _ Znk);subst hle;rw[ZjD hsp]at hrel;exact hrel.aown hSS (hrho (hin id rfl))
   ·simp at hre
 ·intro k L hk hn;unfold Z1 at hn⊢
  cases hq:Zg pi (0,k,0)with
  |none=>rw[hq]at hn;simp at hn
  |some old=>
   rw[hq]at hn;have hm:=ZR hq;have:old=(0,k,0):=by
    rcases Zni.1 hm with hm |hm
    ·exfalso;have:∀(n:Nat) (l:List RE) (a b:Id),(a,b)∈ZiG n l→a.1=1:=by
      intro n l
      induction l generalizing n with
      |nil=>intro a b h;simp[ZiG]at h
      |cons x l ih=>
       intro a b h;unfold ZiG at h;split at h
       ·rcases Znj.1 h with h |h
        ·simp only[Znw]at h;rw[h.1]
        ·exact ih _ a b h
       ·exact ih _ a b h
     have:=this _ _ _ _ hm;simp at this
    ·obtain⟨j,_,he⟩:=ZnT.1 hm;simp only[Znw]at he;rw[←he.2];have:=he.1.2.1;rw[this]
   subst this;exact hrep'.lay k L hk hn
end
end Eng
namespace Eng
open Go
section
variable {C:Ctx} {r:Fm}
theorem ZmH {fn:Func} {k:List Item} {st:St} {ret:Ret} (ret0:Ret) (ps:List Bool) (ms:List RM) (outs:List Nat) (hE:Zn C.E) (hr:ZmQ C.E st fn.results.toList ms outs=some (ret0,ps)) (hre:ret0=ret) (hp:ZlR ps) (hds:r.ds=[]):
  AWP C r (ZiH C fn ret) (.c .ret::k) st:=
 Zis .ret (.inr rfl) ms outs hE hr hre hp hds (fun _ h=>h.elim) fun _ _ _ k0 _ _=>
  ⟨fun hn=>⟨_,.one (Zz _ _ _) (stepR_ret hn)⟩,fun _=>⟨k.map conc++k0,.refl _⟩⟩
theorem ZmI {fn:Func} {st:St} {ret:Ret} (ret0:Ret) (ps:List Bool) (ms:List RM) (outs:List Nat) (hE:Zn C.E) (hr:ZmQ C.E st fn.results.toList ms outs=some (ret0,ps)) (hre:ret0=ret) (hp:ZlR ps) (hds:r.ds=[]):
  AWP C r (ZiH C fn ret) [] st:=
 Zis .normal (.inl rfl) ms outs hE hr hre hp hds (fun _ h=>h.elim) fun _ _ _ _ _ _=> .refl _
end
inductive AM where
 |p |lend |part
 deriving Inhabited
structure AE where
 arg:Arg
 fs:List Id:=[]
 id:Option Id:=none
 cond:List Bool:=[]
def ZgV (st:St) (m:AM) (d:D):Option AE:=
 match m,d with
 | .p,d=>match d.toP st.objs depth with
  |some x=>some {arg:= .p x,fs:=d.ids st.objs depth}
  |none=>none
 | .lend,.ptr id 0 0=>match st.objs id with
  |some (.box ds)=>match Zj (fun d=>d.toP st.objs depth) ds with
   |some cs=>some {arg:= .box cs,fs:=ds.flatMap fun d=>d.ids st.objs depth,id:=some id}
   |none=>none
  |_=>none
 | .lend,.sl id 0 len=>match st.objs id with
  |some (.arr sz es false)=>some {arg:= .arr sz es,id:=some id,cond:=[decide (len=es.length)]}
  |_=>none
 | .lend,.map id=>match st.objs id with
  |some (.map td kv)=>some {arg:= .map td kv,id:=some id}
  |_=>none
 | .part,.sl id off len=>match st.objs id with
  |some (.arr sz es false)=>some {arg:= .part sz es off len,id:=some id}
  |_=>none
 |_,_=>none
def Zcd:D→Option (Nat×List D×List D)
 | .p (.fn f a b)=>some (f,a.map .p,b.map .p)
 | .fn f a b=>some (f,a,b)
 |_=>none
def Zae:Nat→List AE→List (Id×Id)
 |_,[]=>[]
 |k,x::r=>match x.id with
  |some id=>((0,k,0),id)::Zae (k+1) r
  |none=>Zae (k+1) r
def Zdo (outs:List (Nat×Arg)) (k:Nat):Obj:=match Zg outs k with
 |some a=>match a.o with
  |some o=>o
  |none=> .gone
 |none=> .gone
theorem ZkA (outs:List (Nat×Arg)) (k:Nat):(Zdo outs k).isOwn=false:=by
 unfold Zdo;split
 ·split
  ·rename_i h;exact Arg.o_own h
  ·rfl
 ·rfl
def ZbB (outs:List (Nat×Arg)):Nat→List AE→List (Id×Obj)
 |_,[]=>[]
 |k,x::r=>match x.id with
  |some id=>(id,Zdo outs k)::ZbB outs (k+1) r
  |none=>ZbB outs (k+1) r
def RV.at (ep i:Nat) (as:List AE) (j:Nat):RV→Option D
 | .p x=>some (.p x)
 | .own _ es=>some (.sl (ep,i,j) 0 es.length)
 | .box _=>some (.ptr (ep,i,j) 0 0)
 | .map _ _=>some (.map (ep,i,j))
 | .view k off len=>match as[k]? with
  |some a=>match a.id with
   |some id=>some (.sl id off len)
   |none=>none
  |none=>none
 | .aown pre _ es post=>some (.agg (pre.map .p++ .sl (ep,i,j) 0 es.length::post.map .p))
def Zhd (ep i:Nat) (as:List AE):Nat→List RV→Option (List D)
 |_,[]=>some []
 |j,x::r=>match x.at ep i as j,Zhd ep i as (j+1) r with
  |some d,some ds=>some (d::ds)
  |_,_=>none
def Zbg:Nat→List RV→List (Nat×Obj)
 |_,[]=>[]
 |j,x::r=>match x.o with
  |some o=>(j,o)::Zbg (j+1) r
  |none=>Zbg (j+1) r
def tupD:List D→D
 | [d]=>d
 |ds=> .tup ds
def ZfT (st:St) (i:Nat) (as:List AE) (ret:Ret):Option Eff:=
 match Zhd st.ep i as 0 ret.res with
 |some ds=>some {val:=tupD ds,new:=Zbg 0 ret.res,wr:=ZbB ret.outs 0 as,frz:=as.flatMap (·.fs)}
 |none=>none
def ZlE (E:Env) (st:St) (c:Call) (pts:List Nat) (ms:List AM):Option (Nat×List AE):=
 match c.callee with
 | .value f=>match Zcd (ev E st.slots 0 f)with
  |some (g,first,caps)=>
   let ds:=first++ZZ E st.slots c.args.toList pts++caps
   if ds.length=ms.length then match Zj (fun x=>ZgV st x.1 x.2) (ms.zip ds)with
    |some as=>if Zgj (st.freezeL (as.flatMap (·.fs))) (Zae 0 as) 1&&(c.args.toList.all ZD)&&ZD f then some (g,as)else none
    |none=>none
   else none
  |none=>none
 |_=>none
end Eng
namespace Eng
open Go
theorem Zes:∀(n:Nat) (l:List Arg) (k:Nat) (d:D),(k,d)∈Zc5 n l→∃j x,l[j]? =some x∧k=n+j∧d=x.d (n+j)
 |n,[],k,d,h=>by simp[Zc5]at h
 |n,x::l,k,d,h=>by
  rcases Znj.1 h with h |h
  ·simp only[Znw]at h;obtain⟨rfl,rfl⟩:=h;exact⟨0,x,rfl,rfl,rfl⟩
  ·obtain⟨j,x',q1,q2,q3⟩:=Zes (n+1) l k d h;exact⟨j+1,x',by simpa using q1,by omega,by rw[q3];congr 1;omega⟩
theorem ZgU:∀(n:Nat) (l:List Arg) (id:Id) (o:Obj),(id,o)∈Zce n l→∃j x,l[j]? =some x∧id=(0,n+j,0)∧x.o=some o
 |n,[],id,o,h=>by simp[Zce]at h
 |n,x::l,id,o,h=>by
  have hrec:(id,o)∈Zce (n+1) l→∃j x',(x::l)[j]? =some x'∧id=(0,n+j,0)∧x'.o=some o:=fun h=>by obtain⟨j,x',q1,q2,q3⟩:=ZgU (n+1) l id o h;exact⟨j+1,x',by simpa using q1,by rw[q2];congr 2;omega,q3⟩
  unfold Zce at h;split at h
  ·rename_i u hu;rcases Znj.1 h with h |h
   ·simp only[Znw]at h;obtain⟨rfl,rfl⟩:=h;exact⟨0,x,rfl,rfl,hu⟩
   ·exact hrec h
  ·exact hrec h
theorem ZcB:∀(n:Nat) (l:List AE) (j:Nat) (x:AE) (id:Id),l[j]? =some x→x.id=some id→((0,n+j,0),id)∈Zae n l
 |n,[],j,x,id,h,_=>by simp at h
 |n,y::l,j,x,id,h,hid=>by
  cases j with
  |zero=>
   simp only[Znc,Znv]at h;subst h;simp[Zae,hid]
  |succ j=>
   simp only[ZnK]at h;have:=ZcB (n+1) l j x id h hid;rw[show n+(j+1)=n+1+j by omega];unfold Zae;split
   ·exact ZnR _ this
   ·exact this
theorem ZbD:∀(n:Nat) (l:List AE) (a b:Id),(a,b)∈Zae n l→∃j x,l[j]? =some x∧a=(0,n+j,0)∧x.id=some b
 |n,[],a,b,h=>by simp[Zae]at h
 |n,x::l,a,b,h=>by
  have hrec:(a,b)∈Zae (n+1) l→∃j x',(x::l)[j]? =some x'∧a=(0,n+j,0)∧x'.id=some b:=fun h=>by obtain⟨j,x',q1,q2,q3⟩:=ZbD (n+1) l a b h;exact⟨j+1,x',by simpa using q1,by rw[q2];congr 2;omega,q3⟩
  unfold Zae at h;split at h
  ·rename_i u hu;rcases Znj.1 h with h |h
   ·simp only[Znw]at h;obtain⟨rfl,rfl⟩:=h;exact⟨0,x,rfl,rfl,hu⟩
   ·exact hrec h
  ·exact hrec h
theorem Za0 {outs:List (Nat×Arg)}:∀(n:Nat) (l:List AE) (id:Id) (o:Obj),(id,o)∈ZbB outs n l→∃j x,l[j]? =some x∧x.id=some id∧o=Zdo outs (n+j)
 |n,[],id,o,h=>by simp[ZbB]at h
 |n,x::l,id,o,h=>by
  have hrec:(id,o)∈ZbB outs (n+1) l→∃j x',(x::l)[j]? =some x'∧x'.id=some id∧o=Zdo outs (n+j):=fun h=>by obtain⟨j,x',q1,q2,q3⟩:=Za0 (n+1) l id o h;exact⟨j+1,x',by simpa using q1,q2,by rw[q3,show n+1+j=n+(j+1) by omega]⟩
  unfold ZbB at h;split at h
  ·rename_i u hu;rcases Znj.1 h with h |h
   ·simp only[Znw]at h;obtain⟨rfl,rfl⟩:=h;exact⟨0,x,rfl,hu,rfl⟩
   ·exact hrec h
  ·exact hrec h
theorem Zdy {outs:List (Nat×Arg)}:∀(n:Nat) (l:List AE) (j:Nat) (x:AE) (id:Id),l[j]? =some x→x.id=some id→(id,Zdo outs (n+j))∈ZbB outs n l
 |n,[],j,x,id,h,_=>by simp at h
 |n,y::l,j,x,id,h,hid=>by
  cases j with
  |zero=>
   simp only[Znc,Znv]at h;subst h;simp[ZbB,hid]
  |succ j=>
   simp only[ZnK]at h;have:=Zdy (outs:=outs) (n+1) l j x id h hid;rw[show n+(j+1)=n+1+j by omega];unfold ZbB;split
   ·exact ZnR _ this
   ·exact this
theorem ZcL:∀(n:Nat) (l:List RV) (j:Nat) (o:Obj),(j,o)∈Zbg n l→∃m x,l[m]? =some x∧j=n+m∧x.o=some o
 |n,[],j,o,h=>by simp[Zbg]at h
 |n,x::l,j,o,h=>by
  have hrec:(j,o)∈Zbg (n+1) l→∃m x',(x::l)[m]? =some x'∧j=n+m∧x'.o=some o:=fun h=>by obtain⟨m,x',q1,q2,q3⟩:=ZcL (n+1) l j o h;exact⟨m+1,x',by simpa using q1,by omega,q3⟩
  unfold Zbg at h;split at h
  ·rename_i u hu;rcases Znj.1 h with h |h
   ·simp only[Znw]at h;obtain⟨rfl,rfl⟩:=h;exact⟨0,x,rfl,rfl,hu⟩
   ·exact hrec h
  ·exact hrec h
theorem ZjN:∀(n:Nat) (l:List RV) (j:Nat) (x:RV) (o:Obj),l[j]? =some x→x.o=some o→Zg (Zgc n l) (1,n+j,0)=some o
 |n,[],j,x,o,h,_=>by simp at h
 |n,y::l,j,x,o,h,ho=>by
  cases j with
  |zero=>
   simp only[Znc,Znv]at h;subst h;simp[Zgc,ho,Zg]
  |succ j=>
   simp only[ZnK]at h;have:=ZjN (n+1) l j x o h ho;rw[show n+(j+1)=n+1+j by omega];unfold Zgc;split
   ·simp only[Zg];rw[if_neg (by simp;omega)];exact this
   ·exact this
theorem Zgd {ep i:Nat} {as:List AE}:∀(n:Nat) (l:List RV) (ds:List D),Zhd ep i as n l=some ds→ds.length=l.length∧∀(j:Nat) x d,l[j]? =some x→ds[j]? =some d→x.at ep i as (n+j)=some d
 |n,[],ds,h=>by simp[Zhd]at h;subst h;exact⟨rfl,by simp⟩
 |n,x::l,ds,h=>by
  unfold Zhd at h;split at h;rotate_left;simp at h;rename_i d ds' hd hds;cases h;obtain⟨q1,q2⟩:=Zgd (n+1) l ds' hds;refine⟨by simp[q1],fun j x' d' hx hd'=> ?_⟩;cases j with
  |zero=>simp at hx hd';subst hx hd';exact hd
  |succ j=>
   simp at hx hd';have:=q2 j x' d' hx hd'
   rwa [show n+(j+1)=n+1+j by omega]
section
variable {C:Ctx} {X:Nat→Prop} {ρ:Id→Option Lay} {S:Nat→Prop} {st:St} {a:Act} {w:World}
theorem Zjd (h:Rep C X ρ S st a.tmps w) {c:Call} {pts:List Nat} {f:Operand} (hcal:c.callee= .value f) {g:Nat} {first caps:List D} (hc:Zcd (ev C.E st.slots 0 f)=some (g,first,caps))
  (hl:ZD f=true) (hal:∀x∈c.args.toList,ZD x=true):∃vals:Array Value,vals.size=(first++ZZ C.E st.slots c.args.toList pts++caps).length∧
   (∀(j:Nat) v d,vals[j]? =some v→(first++ZZ C.E st.slots c.args.toList pts++caps)[j]? =some d→RelD w S ρ v d)∧
   ∀(ty:TypeId),((do let d ←resolve a.eval c ty;invoke d.target d.args:Sem Next)).run C.E.prog w=(callFunc g vals).run C.E.prog w:=by
 have hf:=Zk h 0 hl;have hfn:∃fs cs:Array Value,a.eval f= .func (.func g) fs cs∧fs.size=first.length∧cs.size=caps.length∧(∀(j:Nat) v d,fs[j]? =some v→first[j]? =some d→RelD w S ρ v d)∧∀(j:Nat) v d,cs[j]? =some v→caps[j]? =some d→RelD w S ρ v d:=by
  unfold Zcd at hc;split at hc
  ·rename_i g' x y hev;simp only[Znv,Znw]at hc;obtain⟨rfl,rfl,rfl⟩:=hc;rw[hev]at hf;generalize a.eval f=vf at hf;have hf:=hf.of_p;cases hf with
   |fn _ fs cs _ _ h1 h2 h3 h4=>
    refine⟨fs,cs,rfl,by simpa using h1,by simpa using h2,fun j v d hv hd=> ?_,fun j v d hv hd=> ?_⟩
    ·rw[Znf,Znt]at hd;obtain⟨x,hx,rfl⟩:=hd;exact .p _ _ (h3 j v x hv hx)
    ·rw[Znf,Znt]at hd;obtain⟨x,hx,rfl⟩:=hd;exact .p _ _ (h4 j v x hv hx)
  ·rename_i g' x y hev;simp only[Znv,Znw]at hc;obtain⟨rfl,rfl,rfl⟩:=hc;rw[hev]at hf;generalize a.eval f=vf at hf;cases hf with
   |fn _ fs cs _ _ h1 h2 h3 h4=>exact⟨fs,cs,rfl,h1,h2,h3,h4⟩
  ·simp at hc
 obtain⟨fs,cs,hev,h1,h2,h3,h4⟩:=hfn;obtain⟨q1,q2⟩:=Zai h c.args.toList pts hal;refine⟨fs++c.args.map a.eval++cs,by simp[h1,h2,q1],fun j v d hv hd=> ?_,fun ty=> ?_⟩
 ·rw[Znx]at hv;have hs:(fs++c.args.map a.eval).size=(first++ZZ C.E st.slots c.args.toList pts).length:=by simp[h1,q1]
  split at hv
  ·rename_i hj;rw[ZnI (by omega)]at hd;rw[Znx]at hv;split at hv
   ·rename_i hj2;rw[ZnI (by omega)]at hd;exact h3 j v d hv hd
   ·rename_i hj2;rw[ZnJ (by omega)]at hd;refine q2 (j - first.length) v d ?_ hd;rw[h1]at hv;have:=hv;rw[←Znz]at this;simpa using this
  ·rename_i hj;rw[ZnJ (by omega)]at hd;rw[hs]at hv;exact h4 _ v d hv hd
 ·have hcallee:c.callee= .value f:=hcal;simp[resolve,hcallee,hev,Deferred.ofValue,invoke,Array.append_assoc]
theorem Zje {P:Program} {g:Nat} {fn:Func} (vals:Array Value) (w:World) (hfu:P.funcs[g]? =some fn) (hnm:(fn.name == "runtime.NumGoroutine")=false) (hbd:fn.body.isNone=false):(callFunc g vals).run P w= .ok (.enter g vals) w:=by
 have hnm':¬fn.name= "runtime.NumGoroutine" :=by simpa using hnm
 have hbd':¬fn.body=none:=by intro e;rw[e]at hbd;simp at hbd
 simp[callFunc,hfu,hnm',hbd']
theorem Zix {S1:Nat→Prop} (h:Rep C X ρ S st a.tmps w) (hSS:∀b,S b→S1 b) {m:AM} {d:D} {x:AE} (hx:ZgV st m d=some x) {v:Value} (hr:RelD w S ρ v d) (hfs:∀f∈x.fs,∀L b,ρ f=some L→L.blk=some b→S1 b)
  (hcond:∀c∈x.cond,c=true) {ρ':Id→Option Lay} {k:Nat} (hρ:∀id,x.id=some id→ρ' (0,k,0)=ρ id):
  RelD w S1 ρ' v (x.arg.d k)∧(∀f∈x.fs,∃o,st.objs f=some o∧o≠ .gone)∧(∀o',x.arg.o=some o'→∃id o,x.id=some id∧st.objs id=some o∧o≠ .gone∧o'≠ .gone∧∀L,ρ id=some L→Zw w S1 ρ L o→Zw w S1 ρ' L o')∧
   (∀id,x.id=some id→∃o,st.objs id=some o∧o≠ .gone):=by
 unfold ZgV at hx;split at hx
 ·split at hx;rotate_left;simp at hx;rename_i y hy;cases hx;exact⟨.p _ _ (Zar h.objs hSS depth _ _ _ hr hy hfs),Zbn depth _ _ hy,fun o' ho=>by simp[Arg.o]at ho,fun id hid=>by simp at hid⟩
 ·rename_i id;split at hx;rotate_left;simp at hx;rename_i ds hlk;split at hx;rotate_left;simp at hx;rename_i cs hcs;cases hx;obtain⟨q1,q2⟩:=Zl hcs;refine⟨?_,ZeR (a:= .box cs) (o:= .box ds) h (by simp[Zaf,hcs]),fun o' ho=> ?_,fun id' hid=>by simp at hid;subst hid;exact⟨_,hlk,by simp⟩⟩
  ·cases hr with
   |ptr _ _ _ L b hL hi hb=>exact .ptr _ 0 0 L b (by rw[hρ id rfl];exact hL) hi hb
  ·simp only[Arg.o,Znv]at ho;subst ho;refine⟨id,_,rfl,hlk,by simp,by simp,fun L hL hro=> ?_⟩;obtain⟨L',hL',hro0⟩:=h.objs id _ hlk (by simp);rw[hL]at hL';obtain rfl:=Znu hL';obtain⟨o',p1,_,p3⟩:=ZbJ (ρ':=ρ') h hSS (a:= .box cs) (fs:=ds.flatMap fun d=>d.ids st.objs depth) (by simp[Zaf,hcs]) hfs hro0;simp only[Arg.o,Znv]at p1;subst p1;exact p3
 ·rename_i id len;split at hx;rotate_left;simp at hx;rename_i sz es hlk;cases hx;have hle:len=es.length:=of_decide_eq_true (hcond _ Znk);subst hle;refine⟨?_,fun f hf=>by simp at hf,fun o' ho=> ?_,fun id' hid=>by simp at hid;subst hid;exact⟨_,hlk,by simp⟩⟩
  ·cases hr with
   |sl _ _ _ cap ad L hL hl hm hcp ha=>exact .sl _ 0 _ cap ad L (by rw[hρ id rfl];exact hL) hl hm hcp ha
  ·simp only[Arg.o,Znv]at ho;subst ho;exact⟨id,_,rfl,hlk,by simp,by simp,fun L _ hr=>hr⟩
 ·rename_i id;split at hx;rotate_left;simp at hx;rename_i td kv hlk;cases hx;refine⟨?_,fun f hf=>by simp at hf,fun o' ho=> ?_,fun id' hid=>by simp at hid;subst hid;exact⟨_,hlk,by simp⟩⟩
  ·cases hr with
   |map _ L b hL hb=>exact .map _ L b (by rw[hρ id rfl];exact hL) hb
  ·simp only[Arg.o,Znv]at ho;subst ho;exact⟨id,_,rfl,hlk,by simp,by simp,fun L _ hr=>hr⟩
 ·rename_i id off len;split at hx;rotate_left;simp at hx;rename_i sz es hlk;cases hx;refine⟨?_,fun f hf=>by simp at hf,fun o' ho=> ?_,fun id' hid=>by simp at hid;subst hid;exact⟨_,hlk,by simp⟩⟩
  ·cases hr with
   |sl _ _ _ cap ad L hL hl hm hcp ha=>exact .sl _ off len cap ad L (by rw[hρ id rfl];exact hL) hl hm hcp ha
  ·simp only[Arg.o,Znv]at ho;subst ho;exact⟨id,_,rfl,hlk,by simp,by simp,fun L _ hr=>hr⟩
 ·simp at hx
end
end Eng
namespace Eng
open Go
theorem Zw.pureArg {w w':World} {S S':Nat→Prop} {ρ ρ':Id→Option Lay} {L:Lay} {a:Arg} {o:Obj} (ha:a.o=some o) (hk:ZbQ S w w') (hs:∀b,S b→S' b) (hb:∀b,L.blk=some b→w'.heap[b]? =w.heap[b]?) (h:Zw w S ρ L o):Zw w' S' ρ' L o:=by
 cases a with
 |p x=>simp[Arg.o]at ha
 |box cs=>
  simp only[Arg.o,Znv]at ha;subst ha;obtain⟨b,h1,h2,h3,h4⟩:=h;refine⟨b,h1,h2,h3,fun j d hd=> ?_⟩;obtain⟨v,q1,q2,q3,q4⟩:=h4 j d hd;rw[Znf,Znt]at hd;obtain⟨x,hx,rfl⟩:=hd;exact⟨v,by rw[Z3 (hb b h1)];exact q1,by rw[ZaK (hb b h1)];exact q2,q3,.p _ _ (q4.of_p.mono hk hs)⟩
 |arr sz es=>
  simp only[Arg.o,Znv]at ha;subst ha;exact h.mono (ρ':=ρ) hk hs (fun _ _ h=>h) hb
 |map td kv=>
  simp only[Arg.o,Znv]at ha;subst ha;exact h.mono (ρ':=ρ) hk hs (fun _ _ h=>h) hb
 |part sz es off len=>
  simp only[Arg.o,Znv]at ha;subst ha;exact h.mono (ρ':=ρ) hk hs (fun _ _ h=>h) hb
theorem RV.o_arg {x:RV} {o:Obj} (h:x.o=some o):∃a:Arg,a.o=some o:=by
 cases x with
 |own sz es=>exact⟨.arr sz es,h⟩
 |aown pre sz es post=>exact⟨.arr sz es,h⟩
 |box cs=>exact⟨.box cs,h⟩
 |map td kv=>exact⟨.map td kv,h⟩
 |p x=>simp[RV.o]at h
 |view k off len=>simp[RV.o]at h
theorem Zgl:∀(l:List (Nat×Arg)) (k:Nat) (a:Arg) (o:Obj),Zg l k=some a→a.o=some o→Zg (Zb4 l) (0,k,0)=some o
 | [],k,a,o,h,_=>by simp[Zg]at h
 |(k',a')::l,k,a,o,h,ho=>by
  simp only[Zg]at h;split at h
  ·rename_i he;simp only[Znv]at h;subst he h;simp[Zb4,ho,Zg]
  ·rename_i hne;have:=Zgl l k a o h ho;unfold Zb4;split
   ·simp only[Zg];rw[if_neg (by simp;exact hne)];exact this
   ·exact this
theorem ZcA {α β:Type} [DecidableEq α] (l1 l2:List (α×β)) (a:α):Zg (l1++l2) a=match Zg l1 a with |some b=>some b |none=>Zg l2 a:=by
 induction l1 with
 |nil=>rfl
 |cons x r ih=>
  simp only[ZnF,Zg];split
  ·rfl
  ·exact ih
theorem ZcK:∀(n:Nat) (l:List RV) (k m:Nat),Zg (Zgc n l) (0,k,m)=none
 |n,[],k,m=>rfl
 |n,x::l,k,m=>by
  unfold Zgc;split
  ·simp only[Zg];rw[if_neg (by simp)];exact ZcK (n+1) l k m
  ·exact ZcK (n+1) l k m
theorem Zh0:∀(n:Nat) (l:List RV) (j:Nat) (x:RV),l[j]? =some x→Zat D.dead (ZkK n l) (n+j)=x.d (n+j)
 |n,[],j,x,h=>by simp at h
 |n,y::l,j,x,h=>by
  cases j with
  |zero=>
   simp only[Znc,Znv]at h;subst h;simp[ZkK,Zat]
  |succ j=>
   simp only[ZnK]at h;have:=Zh0 (n+1) l j x h;rw[show n+(j+1)=n+1+j by omega];simp only[ZkK,Zat];rw[if_neg (by omega)];exact this
theorem RV.o_gone {x:RV} {o:Obj} (h:x.o=some o):o≠ .gone:=by cases x<;>simp[RV.o]at h<;>subst h<;>simp
section
variable {C:Ctx} {r:Fm} {G:Zg0}
theorem Zkg {ops:Array Oper} {i:Nat} {o:Oper} {X:Nat→Prop} {st:St} {c:Call} (hnotX:¬X i) (hE:Zn C.E) (ho:ops[i]? =some o) (hg:ZW ops st o.guard=some true) (hop:o.op= .call c) (hdst:Zdm C.E o=true)
  (pts:List Nat) (ms:List AM) {f:Nat} {as:List AE} (hpre:ZlE C.E st c pts ms=some (f,as)) (hcnd:ZlR (as.flatMap (·.cond))) {args:List Arg} {ret:Ret} (hargs:as.map (·.arg)=args) (hf:Fun C.E f args ret)
  {e:Eff} (he:ZfT st i as ret=some e) {ρ:Id→Option Lay} {S:Nat→Prop} {a:Act} {w:World} (hrep:Rep C X ρ S st a.tmps w) (hd:a.defers=r.ds) (b:Frame) (rest:List Nat) (kk:List Go.Item) (cs:List Frame) (hb:b.roundOf=r.r):
  ∃ρ' S' a' w',Rep C (fun j=>X j∨j=i) ρ' S' (st.app i o.dst e) a'.tmps w'∧a'.defers=r.ds∧
   StepsIn (Machine.fenced C.E.prog (Zct r.r)) C.E.prog (lone (b.atR a (.inRegion ops (i::rest)::kk)) cs w) (lone (b.atR a' (.inRegion ops rest::kk)) cs w'):=by
 subst hargs;have hi:i < ops.size:=(Zm4.1 ho).1;have hwant:=ZaX hrep hg;unfold ZlE at hpre;split at hpre
 case h_2=>simp at hpre
 rename_i fo hcal;split at hpre
 case h_2=>simp at hpre
 rename_i g first caps hcd
 dsimp only at hpre;split at hpre
 case isFalse=>simp at hpre
 rename_i hlen;split at hpre
 case h_2=>simp at hpre
 rename_i as' has;split at hpre
 case isFalse=>simp at hpre
 rename_i hok;simp only[Znv,Znw]at hpre;obtain⟨rfl,rfl⟩:=hpre;simp only[Zm8]at hok;obtain⟨⟨hpi,hal⟩,hfl⟩:=hok;obtain⟨vals,hvs,hvr,hrun⟩:=Zjd hrep (pts:=pts) hcal hcd hfl (fun x hx=>ZnD.1 hal x hx);generalize hds:first++ZZ C.E st.slots c.args.toList pts++caps=ds at*
 have hrun:=hrun o.type;obtain⟨a1,a2⟩:=Zl has;have hal':as'.length=ds.length:=by rw[a1,List.length_zip];omega
 have hfs0:∀g∈as'.flatMap (·.fs),∃o,st.objs g=some o∧o≠ .gone:=by
  intro g hg;obtain⟨x,hx,hgx⟩:=Znl.1 hg;obtain⟨j,hj,rfl⟩:=ZnS.1 hx;have hz:j < (ms.zip ds).length:=by omega
  have hjd:j < ds.length:=by omega
  have hjv:j < vals.size:=by omega
  have hx':=a2 j (ms.zip ds)[j] as'[j] (ZnL hz) (ZnL hj);simp only[List.getElem_zip]at hx';exact(Zix (S1:=fun _=>True) (ρ':=fun id=>match as'[j].id with |some id=>ρ id |none=>none) (k:=0) hrep (fun _ _=>trivial) hx' (hvr j vals[j] ds[j] (by simp[hjv]) (by simp[hjd])) (fun _ _ _ _ _ _=>trivial)
   (fun c hc=>Zdz hcnd c (Znl.2 ⟨as'[j],hx,hc⟩)) (fun id hid=>by simp[hid])).2.1 g hgx
 obtain⟨S1,hS1,hF1,hrep1,hS1i⟩:=hrep.freeze _ hfs0;have hn1:Zau ((Zae 0 as').map (·.1))=true:=by have:=hpi;simp only[Zgj,Zm8]at this;exact this.1.1
 have hrho:∀{new old:Id},(new,old)∈Zae 0 as'→Z1 (Zae 0 as') ρ new=ρ old:=fun hm=>by simp only[Z1,ZM hn1 hm]
 have harg:∀(j:Nat) (hj:j < as'.length) (hjv:j < vals.size),RelD w S1 (Z1 (Zae 0 as') ρ) vals[j] (as'[j].arg.d j)∧
   (∀o',as'[j].arg.o=some o'→∃id o,as'[j].id=some id∧st.objs id=some o∧o≠ .gone∧o'≠ .gone∧∀L,ρ id=some L→Zw w S1 ρ L o→Zw w S1 (Z1 (Zae 0 as') ρ) L o')∧
   (∀id,as'[j].id=some id→∃o,st.objs id=some o∧o≠ .gone):=by
  intro j hj hjv;have hz:j < (ms.zip ds).length:=by omega
  have hjd:j < ds.length:=by omega
  have hx':=a2 j (ms.zip ds)[j] as'[j] (ZnL hz) (ZnL hj);simp only[List.getElem_zip]at hx';have hxm:=List.getElem_mem hj;have:=Zix (S1:=S1) (ρ':=Z1 (Zae 0 as') ρ) (k:=j) hrep hS1 hx' (hvr j vals[j] ds[j] (by simp[hjv]) (by simp[hjd])) (fun f hf=>hF1 f (Znl.2 ⟨_,hxm,hf⟩))
   (fun c hc=>Zdz hcnd c (Znl.2 ⟨_,hxm,hc⟩)) (fun id hid=>hrho (by have:=ZcB 0 as' j _ id (ZnL hj) hid;rwa [ZnZ]at this))
  exact⟨this.1,this.2.2.1,this.2.2.2⟩
 let Lt:Nat→Prop:=fun b=>∃new old o L,(new,old)∈Zae 0 as'∧st.objs old=some o∧o≠ .gone∧ρ old=some L∧L.blk=some b
 let C':Ctx:=⟨C.E.at vals.size,w,Lt,S1,fun k=>Z1 (Zae 0 as') ρ (0,k,0)⟩;have hvsz:vals.size=(as'.map (·.arg)).length:=by rw[List.length_map];omega
 have hcallee:Rep C' (fun _=>False) (Z1 (Zae 0 as') ρ) S1 (Zep (as'.map (·.arg))) vals w:=by
  refine hrep1.select (C':=C') hpi ?_ rfl rfl (ZP.refl _) (Znq _) (fun _ _ _=>rfl) (fun _ h=>h) ?_ (fun _=>rfl) rfl (Znq _) ?_ (fun b hb=> .inl hb) (fun k L hk _=>hk) (fun _ _ _ _ _ _ _ ho=>by have:=ZkD ho;simp[Obj.isOwn]at this)
  ·intro new o' ho';obtain⟨j,x,q1,q2,q3⟩:=ZgU 0 _ _ _ (ZR ho');rw[ZnZ]at q2;rw[Znf,Znt]at q1;obtain⟨ae,q1,rfl⟩:=q1;obtain⟨hj,rfl⟩:=Zne.1 q1;obtain⟨id,o1,r1,r2,r3,r4,r5⟩:=(harg j hj (by omega)).2.1 o' q3;refine⟨id,o1, ?_,by rw[Zy];exact r2,r3,r5⟩;rw[q2];have:=ZcB 0 as' j _ id (ZnL hj) r1
   rwa [ZnZ]at this
  ·intro new old o1 L b1 hm q2 q3 q4 q5;rw[Zy]at q2;exact .inr ⟨new,old,o1,L,hm,q2,q3,q4,q5⟩
  ·intro k';show RelD w S1 _ (vals.getD k' undef) (Zat D.dead (Zc5 0 (as'.map (·.arg))) k');rcases ZaM D.dead (Zc5 0 (as'.map (·.arg))) k' with hk |hk
   ·rw[hk];exact .dead _
   ·obtain⟨j,x,q1,q2,q3⟩:=Zes 0 _ _ _ hk;rw[ZnZ]at q2 q3;subst q2;rw[q3];rw[Znf,Znt]at q1;obtain⟨ae,q1,rfl⟩:=q1;obtain⟨hj,rfl⟩:=Zne.1 q1;have hjv:k' < vals.size:=by omega
    have:vals.getD k' undef=vals[k']:=by simp[hjv]
    rw[this];exact(harg k' hj hjv).1
 have hsem:o.semAt b.roundOf a.eval=execOp a.eval o:=Oper.semAt_eq _ _ _ (fun c hc'=>by rw[hc']at hop;cases hop);have hst:=stepGR_op (P:=C.E.prog) (b:=b) (a:=a) (k:=kk) (cs:=cs) (w:=w) (i:=i) (rest:=rest) ho hwant;have hcg:∃vs ρ2 S2 w',vs.size=ret.res.length∧Rep ⟨C.E.at vs.size,w,Lt,S1,fun k=>Z1 (Zae 0 as') ρ (0,k,0)⟩ (fun _=>False) ρ2 S2 (Zcl ret) vs w'∧
   StepsIn (Machine.fenced C.E.prog (Zct r.r)) C.E.prog (lone (b.atR a (.inRegion ops (i::rest)::kk)) cs w) (lone (b.atR (a.put o.dst (Zg6 vs)) (.inRegion ops rest::kk)) cs w'):=by
  rcases hf with hf |hf
  ·obtain⟨⟨fn,hfn1,hfn2,hfn3⟩,hcall⟩:=hf;obtain⟨_,hcall⟩:=hcall w Lt S1 _ _ vals hvsz hcallee;have hcg:=hcall (b.atR a (.inRegion ops (i::rest)::kk)::cs) (fun _ h=>by simp[Zct]at h);obtain⟨ee,w',fr,⟨vs,ρ2,S2,rfl,hvl,hrep2⟩,hsteps,hfrf,hleave⟩:=hcg;refine⟨vs,ρ2,S2,w',hvl,hrep2, ?_⟩;have hexec:(execOp a.eval o).run C.E.prog w= .ok (.enter g vals) w:=by simp only[execOp,hop];rw[hrun];exact Zje vals w hfn1 hfn2 hfn3
   have hfin:=Frame.finish_atR b a ops i rest kk (Zg6 vs);simp only[ho,Zn0]at hfin;refine .head (Zz _ _ _) (step_lone_go (fr':=Frame.enter C.E.prog g vals .normal) (cs':=b.atR a (.inRegion ops (i::rest)::kk)::cs) (w':=w) ?_) ?_
   ·rw[hst,hsem];simp[stepG.apply,hexec,Frame.atR]
   ·refine StepsIn.trans hsteps (.one (Zz _ _ _) ?_);rw[←hfin];exact step_leave_returned hleave
  ·obtain⟨vs,ρ2,S2,w',hv,hvl,hrep2⟩:=hf.2 w Lt S1 _ _ vals hvsz hcallee;refine⟨vs,ρ2,S2,w',hvl,hrep2, ?_⟩;have hexec:(execOp a.eval o).run C.E.prog w= .ok (.value (Zg6 vs)) w':=by simp only[execOp,hop];rw[hrun];exact hv
   have hfin:=Frame.finish_atR b a ops i rest kk (Zg6 vs);simp only[ho,Zn0]at hfin;refine .one (Zz _ _ _) ?_;refine step_lone_go ?_;rw[hst,hsem,←hfin];simp[stepG.apply,hexec]
 obtain⟨vs,ρ2,S2,w',hvl,hrep2,hsteps⟩:=hcg;have hall:∀x∈Zae 0 as',st.fz x.2=false∧x.2∉as'.flatMap (·.fs):=by intro x hx;have:=hpi;simp only[Zgj,Zm8,ZnD,ZnB,decide_eq_true_eq]at this;have:=(this.2 x hx).2;rw[freezeL_fz]at this;simp only[ZnC]at this;exact⟨this.2,by simpa using this.1⟩
 have hn2:Zau ((Zae 0 as').map (·.2))=true:=by have:=hpi;simp only[Zgj,Zm8]at this;exact this.1.2
 have hlent:∀(j:Nat) (x:AE) id,as'[j]? =some x→x.id=some id→((0,j,0),id)∈Zae 0 as'∧∃o L,st.objs id=some o∧o≠ .gone∧ρ id=some L∧Z1 (Zae 0 as') ρ (0,j,0)=some L:=by intro j x id hx hid;have hm:=ZcB 0 as' j x id hx hid;rw[ZnZ]at hm;obtain⟨hj,rfl⟩:=Zne.1 hx;obtain⟨o,q1,q2⟩:=(harg j hj (by omega)).2.2 id hid;obtain⟨L,hL,_⟩:=hrep.objs id o q1 q2;exact⟨hm,o,L,q1,q2,hL,by rw[hrho hm];exact hL⟩
 have hsame:∀(j j':Nat) (x x':AE) id,as'[j]? =some x→x.id=some id→as'[j']? =some x'→x'.id=some id→j=j':=by intro j j' x x' id h1 h2 h3 h4;have:=ZdQ hn2 (hlent j x id h1 h2).1 (hlent j' x' id h3 h4).1;simpa using this
 have hout:∀(j:Nat) (x:AE) id o',as'[j]? =some x→x.id=some id→Zdo ret.outs j=o'→o'≠ .gone→(∃aa:Arg,aa.o=some o')∧(Zcl ret).objs (0,j,0)=some o'∧∃L,ρ id=some L∧ρ2 (0,j,0)=some L∧Zw w' S2 ρ2 L o':=by
  intro j x id o' hx hid hb hg;unfold Zdo at hb;split at hb;rotate_left;exact absurd hb.symm hg;rename_i aa haa;split at hb;rotate_left;exact absurd hb.symm hg;rename_i oo hoo;subst hb;have hobj:(Zcl ret).objs (0,j,0)=some oo:=by show Zg (Zgc 0 ret.res++Zb4 ret.outs) (0,j,0)=some oo;rw[ZcA,ZcK];exact Zgl _ _ _ _ haa hoo
  obtain⟨L2,hL2,hro⟩:=hrep2.objs _ _ hobj hg;obtain⟨_,o1,L,q1,q2,q3,q4⟩:=hlent j x id hx hid;have:=hrep2.lay j L q4 (by rw[hL2];simp);rw[hL2]at this;obtain rfl:=Znu this;exact⟨⟨aa,hoo⟩,hobj,L2,q3,hL2,hro⟩
 have hgone:∀b1,Lt b1→(∀j o',(Zcl ret).objs (0,j,0)=some o'→o'≠ .gone→∀L,ρ2 (0,j,0)=some L→L.blk≠some b1)→
   ∃id o' L',(id,Obj.gone)∈ZbB ret.outs 0 as'∧st.objs id=some o'∧o'≠ .gone∧ρ id=some L'∧L'.blk=some b1∧(∀o'',(id,o'')∈ZbB ret.outs 0 as'→o''= .gone):=by
  rintro b1 ⟨new,old,o1,L,hm,q1,q2,q3,q4⟩ hno;obtain⟨j,x,hx,hnw,hid⟩:=ZbD 0 as' new old hm;rw[ZnZ]at hnw;have hbg:Zdo ret.outs j= .gone:=by
   cases hbo:Zdo ret.outs j with
   |gone=>rfl
   |_=>
    exfalso;obtain⟨_,r1,L2,r2,r3,_⟩:=hout j x old _ hx hid hbo (by simp);rw[q3]at r2;obtain rfl:=Znu r2;exact hno j _ r1 (by simp) _ r3 q4
  refine⟨old,o1,L, ?_,q1,q2,q3,q4,fun o'' hm''=> ?_⟩
  ·have:=Zdy (outs:=ret.outs) 0 as' j x old hx hid;rw[ZnZ,hbg]at this;exact this
  ·obtain⟨j',x',r1,r2,r3⟩:=Za0 0 as' old o'' hm'';rw[ZnZ]at r3;rw[r3,←hsame j j' x x' old hx hid r1 r2,hbg]
 unfold ZfT at he;split at he
 case h_2=>simp at he
 rename_i rds hrds;cases he;obtain⟨rl,rg⟩:=Zgd 0 _ _ hrds;have hfresh:=hrep.fresh hnotX;let ρc:Id→Option Lay:=fun id=>if id.1=st.ep∧id.2.1=i then ρ2 (1,id.2.2,0)else ρ id
 have hρc:∀id L,ρ id=some L→ρc id=some L:=by
  intro id L hL;simp only[ρc];split
  ·rename_i hc;obtain⟨ep,jj,kk⟩:=id;simp only at hc;obtain⟨rfl,rfl⟩:=hc;rw[hfresh kk]at hL;simp at hL
  ·exact hL
 have hρn:∀m,ρc (st.ep,i,m)=ρ2 (1,m,0):=fun m=>by simp[ρc]
 have hmade:∀m o',(m,o')∈Zbg 0 ret.res→(∃aa:Arg,aa.o=some o')∧o'≠ .gone∧(Zcl ret).objs (1,m,0)=some o'∧∃L,ρ2 (1,m,0)=some L∧Zw w' S2 ρ2 L o':=by
  intro m o' hm;obtain⟨j,x,q1,q2,q3⟩:=ZcL 0 _ _ _ hm;have hg:=RV.o_gone q3;have hobj:(Zcl ret).objs (1,m,0)=some o':=by show Zg (Zgc 0 ret.res++Zb4 ret.outs) (1,m,0)=some o';rw[ZcA,q2,ZjN 0 _ j x o' q1 q3]
  obtain⟨L,hL,hro⟩:=hrep2.objs _ _ hobj hg;exact⟨RV.o_arg q3,hg,hobj,L,hL,hro⟩
 have hmb:∀m o' L b1,(m,o')∈Zbg 0 ret.res→ρ2 (1,m,0)=some L→L.blk=some b1→b1 < w'.heap.size∧¬S2 b1∧(w.heap.size≤b1∨∃id o' L',(id,Obj.gone)∈ZbB ret.outs 0 as'∧st.objs id=some o'∧o'≠ .gone∧ρ id=some L'∧L'.blk=some b1∧(∀o'',(id,o'')∈ZbB ret.outs 0 as'→o''= .gone)):=by
  intro m o' L b1 hm hL hb1;obtain⟨_,hg,hobj,_,_,_⟩:=hmade m o' hm;obtain⟨r1,r2,r3,r4⟩:=hrep2.own _ _ L b1 hobj hg hL hb1;refine⟨r1,r4 rfl, ?_⟩;rcases r2 with r2 |r2
  ·exact .inl r2
  ·refine .inr (hgone b1 r2 fun j o'' ho'' hg'' L'' hL'' hb''=> ?_);have:=hrep2.inj _ _ L _ _ L'' b1 hobj hg hL hb1 ho'' hg'' hL'' hb'';simp at this
 let N:Nat→Prop:=fun b=>S2 b∧¬S1 b
 obtain⟨S',hrepc⟩:=hrep.stepN (i:=i) (t:=o.dst) (e:={val:=tupD rds,new:=Zbg 0 ret.res,wr:=ZbB ret.outs 0 as',frz:=as'.flatMap (·.fs)}) (v:=Zg6 vs) (w':=w') ρc N
  (nown:=fun m o' hm=>by obtain⟨_,x,_,_,q⟩:=ZcL 0 _ _ _ hm;exact RV.o_own q) (wown:=fun id o' hm=>by obtain⟨j,x,_,_,q⟩:=Za0 0 as' id o' hm;rw[q];exact ZkA _ _)
  (by
   rintro b1 ⟨h2,h3⟩;refine⟨hrep2.sIn b1 h2, ?_⟩;rcases hrep2.sOut b1 h2 with h4 |h4 |h4
   ·exact absurd h4 h3
   ·exact .inl h4
   ·refine .inr (hgone b1 h4 fun j o'' ho'' hg'' L'' hL'' hb''=> ?_);exact(hrep2.own _ _ L'' b1 ho'' hg'' hL'' hb'').2.2.2 rfl h2)
  (by
   rintro m o' L b1 hm hL hb1 ⟨h2,_⟩;rw[hρn]at hL;exact(hmb m o' L b1 hm hL hb1).2.1 h2)
  hnotX (Zbb hdst) hrep2.grow hrep2.quiet
  (by
   intro b1 hb1 hne;refine hrep2.frame b1 hb1 ?_;rintro⟨new,old,o1,L,hm,q1,q2,q3,q4⟩;obtain⟨j,x,hx,hnw,hid⟩:=ZbD 0 as' new old hm;exact hne old _ L (Zdy (outs:=ret.outs) 0 as' j x old hx hid) q3 q4)
  (by
   intro id o' hm;obtain⟨j,x,q1,q2,q3⟩:=Za0 0 as' id o' hm;obtain⟨r1,o1,L,r2,r3,_⟩:=hlent j x id q1 q2;exact⟨(hall _ r1).1,o1,r2,r3⟩)
  hρc
  (by
   intro id hn;simp only[ρc]at hn;split at hn
   ·rename_i hc;exact .inr hc
   ·exact .inl hn)
  (by
   intro id hm;obtain⟨o1,q1,q2⟩:=hfs0 id hm;obtain⟨L,hL,_⟩:=hrep.objs id o1 q1 q2;refine⟨by rw[hL];simp,fun o' hm'=> ?_⟩;obtain⟨j,x,r1,r2,_⟩:=Za0 0 as' id o' hm';exact absurd hm (hall _ (hlent j x id r1 r2).1).2)
  (by
   intro m o' hm;obtain⟨⟨aa,haa⟩,hg,hobj,L,hL,hro⟩:=hmade m o' hm;refine⟨L,by rw[hρn];exact hL,fun b1 hb1=> ?_,fun S'' hN hS hF _=> ?_⟩
   ·have:=hmb m o' L b1 hm hL hb1;exact⟨this.2.2,this.1⟩
   ·refine Zw.pureArg haa (fun _ _ _=>rfl) (fun b1 hb1=> ?_) (fun _ _=>rfl) hro
    by_cases h1:S1 b1
    ·rcases hS1i b1 h1 with h2 |⟨g,Lg,h2,h3,h4⟩
     ·exact hS b1 h2
     ·obtain⟨o1,q1,q2⟩:=hfs0 g h2;exact hF g h2 o1 Lg b1 q1 q2 h3 h4
    ·exact hN b1 ⟨hb1,h1⟩)
  (by
   intro m o1 L1 m' o2 L2 b1 hm hg hL hb1 hm' hg' hL' hb1';rw[hρn]at hL hL';have:=hrep2.inj _ _ L1 _ _ L2 b1 (hmade m o1 hm).2.2.1 hg hL hb1 (hmade m' o2 hm').2.2.1 hg' hL' hb1';simpa using this)
  (by
   intro id o' L hm hg hL S'' hN hS hF;obtain⟨j,x,q1,q2,q3⟩:=Za0 0 as' id o' hm;rw[ZnZ]at q3;obtain⟨⟨aa,haa⟩,_,L2,r2,r3,hro⟩:=hout j x id o' q1 q2 q3.symm hg;rw[hL]at r2;obtain rfl:=Znu r2;refine Zw.pureArg haa (fun _ _ _=>rfl) (fun b1 hb1=> ?_) (fun _ _=>rfl) hro
   by_cases h1:S1 b1
   ·rcases hS1i b1 h1 with h2 |⟨g,Lg,h2,h3,h4⟩
    ·exact hS b1 h2
    ·obtain⟨o1,q1,q2⟩:=hfs0 g h2;exact hF g h2 o1 Lg b1 q1 q2 h3 h4
   ·exact hN b1 ⟨hb1,h1⟩)
  (by
   intro S'' hN hS hF _ _;have hS2:∀b1,S2 b1→S'' b1:=fun b1 hb1=>by
    by_cases h1:S1 b1
    ·rcases hS1i b1 h1 with h2 |⟨g,Lg,h2,h3,h4⟩
     ·exact hS b1 h2
     ·obtain⟨o1,q1,q2⟩:=hfs0 g h2;exact hF g h2 o1 Lg b1 q1 q2 h3 h4
    ·exact hN b1 ⟨hb1,h1⟩
   have each:∀(j:Nat) (hj:j < vs.size) (hjr:j < rds.length),RelD w' S'' ρc vs[j] rds[j]:=by
    intro j hj hjr;have hjl:j < ret.res.length:=by omega
    have hs:=hrep2.slots j;have hsv:vs.getD j undef=vs[j]:=by simp[hj]
    rw[hsv,show (Zcl ret).slots j=Zat D.dead (ZkK 0 ret.res) j from rfl]at hs;have:=Zh0 0 ret.res j ret.res[j] (ZnL hjl);rw[ZnZ]at this;rw[this]at hs;have hat:=rg j ret.res[j] rds[j] (ZnL hjl) (ZnL hjr);rw[ZnZ]at hat;generalize vs[j]=v at hs;generalize ret.res[j]=x at hs hat;generalize rds[j]=d at hat;cases x with
    |p x=>
     simp only[RV.at,Znv]at hat;subst hat;exact .p _ _ (hs.of_p.mono (fun _ _ _=>rfl) hS2)
    |own sz es=>
     simp only[RV.at,Znv]at hat;subst hat;cases hs with
     |sl _ _ _ cap ad L hL hl hm hcp ha=>exact .sl _ 0 _ cap ad L (by rw[hρn];exact hL) hl hm hcp ha
    |box cs=>
     simp only[RV.at,Znv]at hat;subst hat;cases hs with
     |ptr _ _ _ L b hL hi hb=>exact .ptr _ 0 0 L b (by rw[hρn];exact hL) hi hb
    |map td kv=>
     simp only[RV.at,Znv]at hat;subst hat;cases hs with
     |map _ L b hL hb=>exact .map _ L b (by rw[hρn];exact hL) hb
    |view kk off len=>
     simp only[RV.at]at hat;split at hat;rotate_left;simp at hat;rename_i x hx;split at hat;rotate_left;simp at hat;rename_i id hid;cases hat;cases hs with
     |sl _ _ _ cap ad L hL hl hm hcp ha=>
      obtain⟨_,o1,L0,q1,q2,q3,q4⟩:=hlent kk x id hx hid;have:=hrep2.lay kk L0 q4 (by rw[hL];simp);rw[hL]at this;obtain rfl:=Znu this;exact .sl id off _ cap ad L (hρc _ _ q3) hl hm hcp ha
    |aown pre sz es post=>
     simp only[RV.at,Znv]at hat;subst hat;exact RelD.aown hs hS2 (hρn _)
   have hvr:vs.size=rds.length:=by omega
   show RelD _ _ _ _ (tupD rds);unfold tupD;split
   ·rename_i d;have h1:vs.size=1:=by simpa using hvr
    have:=each 0 (by omega) (by simp);unfold Zg6;rw[dif_pos h1];simpa using this
   ·rename_i hne;have h1:vs.size≠1:=fun h1=>by
     rw[h1]at hvr
     match rds,hvr with
     | [d],_=>exact hne d rfl
    unfold Zg6;rw[dif_neg h1];refine .tup _ _ hvr fun j u d hu hd=> ?_
    obtain⟨hj,rfl⟩:=Zm4.1 hu;obtain⟨hj',rfl⟩:=Zne.1 hd;exact each j hj hj')
 exact⟨ρc,S',a.put o.dst (Zg6 vs),w',hrepc,by simp[hd],hsteps⟩
end
end Eng

/- The engine,text 3:an abstract evaluator of Go code over pure data,proved sound. -/
import Derived.Test.YthefajbigloihaaGreatDoorE2
import Derived.ChangeSame
import Derived.Maps.RangeRun
set_option linter.unusedVariables false
set_option linter.unusedSimpArgs false
set_option linter.unusedSectionVars false
open Array renaming getElem?_append→ZmT, getElem?_eq_some_iff→Zmp, getElem?_toList→ZmU, toArray_toList→ZmV
open Bool renaming and_eq_false_iff→Znj, and_eq_true→Zmt, false_eq_true→Zmu, or_eq_false_iff→Znk
open List renaming all_eq_true→ZmX, eq_nil_of_length_eq_zero→Zm1, getD_eq_getElem?_getD→Znl, getElem?_cons_zero→Zm6, getElem?_eq_some_iff→ZmA, getElem?_map→ZmB, getElem?_zip_eq_some→Znm, length→Znn, length_append→Zno, length_map→Znp, map_append→Znq, map_cons→ZmD, map_drop→Znr, map_map→Zns, map_nil→Znt, map_take→Znu, mem_append→ZmE, mem_cons→ZmF, mem_cons_of_mem→Zna, mem_cons_self→ZmG, mem_iff_getElem?→Znv, mem_map→Znc, mem_of_mem_drop→Znw, mem_singleton→ZmI, zip_cons_cons→Znx
open Nat renaming le_refl→ZmL, zero_add→Znh
open Option renaming map_some→Zny, some.inj→ZmQ, some.injEq→ZmR
open Prod renaming mk.injEq→ZmS
namespace Eng
open Go
def Zgb (l:List (Id×Obj)) (id:Id):Option Obj:=
 match l with
 | []=>none
 |(a,o)::r=>match Zgb r id with
  |some u=>some u
  |none=>if id=a then some o else none
theorem Zkw (l:List (Id×Obj)):∀(st:St) (id:Id),(st.objL l).objs id=(Zgb l id).or (st.objs id):=by
 induction l with
 |nil=>intro st id;rfl
 |cons x r ih=>
  obtain⟨a,o⟩:=x;intro st id;simp only[St.objL,ih,Zgb];cases Zgb r id with
  |some u=>rfl
  |none=>
   simp only[St.obj,upd,Option.or]
   by_cases h:id=a<;>simp[h]
theorem Zau {l:List (Id×Obj)} {id:Id} (h:id∉l.map (·.1)):Zgb l id=none:=by
 induction l with
 |nil=>rfl
 |cons x r ih=>
  obtain⟨a,o⟩:=x;simp only[ZmD,ZmF,not_or]at h;simp only[Zgb,ih h.2,h.1,if_false]
def news (ep i:Nat) (e:Eff):List (Id×Obj):=e.new.map fun x=>((ep,i,x.1),x.2)
theorem Zj5 (st:St) (i:Nat) (t:Option Nat) (e:Eff) (id:Id):(st.app i t e).objs id=(Zgb (news st.ep i e) id).or ((Zgb e.wr id).or (st.objs id)):=by simp only[St.app,ZfU,ZH,Zkw,ZlF,news]
theorem Zg0 {ep i:Nat} {e:Eff} {id:Id} (h:id∈(news ep i e).map (·.1)):id.1=ep∧id.2.1=i:=by simp only[news,Zns,Znc]at h;obtain⟨x,_,rfl⟩:=h;exact⟨rfl,rfl⟩
def ZK (ep i:Nat) (W:List Id) (id:Id):Bool:=decide (id∈W)||(decide (id.1=ep)&&decide (id.2.1=i))
theorem ZcV {st:St} {i:Nat} {t:Option Nat} {e:Eff} {id:Id} (h:ZK st.ep i (e.wr.map (·.1)) id=false):(st.app i t e).objs id=st.objs id:=by simp only[ZK,Znk,decide_eq_false_iff_not,Znj]at h;rw[Zj5,Zau (fun hm=>by have:=Zg0 hm;rcases h.2 with h |h<;>simp_all),Zau h.1];rfl
theorem ZkT {st:St} {i j:Nat} {di dj:Option Nat} {ei ej:Eff} (hij:i≠j) (hd:∀d,di=some d→dj≠some d) (h1:∀id∈ei.wr.map (·.1),ZK st.ep j (ej.wr.map (·.1)) id=false)
  (h2:∀id∈ej.wr.map (·.1),ZK st.ep i (ei.wr.map (·.1)) id=false):(st.app i di ei).app j dj ej=(st.app j dj ej).app i di ei:=by
 have hs:((st.app i di ei).app j dj ej).slots=((st.app j dj ej).app i di ei).slots:=by
  funext k;simp only[ZaI]
  by_cases hi:di=some k
  ·have:=hd k hi;simp[hi,this]
  ·simp[hi]
 have ho:((st.app i di ei).app j dj ej).objs=((st.app j dj ej).app i di ei).objs:=by
  funext id;simp only[Zj5,Zcu]
  by_cases hi:ZK st.ep i (ei.wr.map (·.1)) id=true
  ·have hj:ZK st.ep j (ej.wr.map (·.1)) id=false:=by
    simp only[ZK,Bool.or_eq_true,decide_eq_true_eq,Zmt]at hi;rcases hi with hi |hi
    ·exact h1 id hi
    ·simp only[ZK,Znk,decide_eq_false_iff_not,Znj];refine⟨fun hm=> ?_,.inr fun hj=>hij (by rw[←hi.2,hj])⟩;have:=h2 id hm;simp[ZK,hi]at this
   simp only[ZK,Znk,decide_eq_false_iff_not,Znj]at hj;rw[Zau (l:=news st.ep j ej) (fun hm=>by have:=Zg0 hm;rcases hj.2 with h |h<;>simp_all),Zau hj.1];simp
  ·have hi:ZK st.ep i (ei.wr.map (·.1)) id=false:=by simpa using hi
   simp only[ZK,Znk,decide_eq_false_iff_not,Znj]at hi;rw[Zau (l:=news st.ep i ei) (fun hm=>by have:=Zg0 hm;rcases hi.2 with h |h<;>simp_all),Zau hi.1];simp
 have hf:((st.app i di ei).app j dj ej).fz=((st.app j dj ej).app i di ei).fz:=by funext id;simp only[Zee];cases ei.frz.contains id<;>cases ej.frz.contains id<;>rfl
 have he:((st.app i di ei).app j dj ej).ep=((st.app j dj ej).app i di ei).ep:=by simp
 generalize (st.app i di ei).app j dj ej=s1 at*
 generalize (st.app j dj ej).app i di ei=s2 at*
 cases s1;cases s2;simp only at hs ho hf he;subst hs ho hf he;rfl
structure Fp where
 R:List Id:=[]
 W:List Id:=[]
 F:List Id:=[]
def Zg6 (ops:Array Oper) (ep i j:Nat) (oi oj:Oper) (fi fj:Fp):Bool:=
 oi.apart ops oj&&(fi.R.all fun id=> !ZK ep j fj.W id)&&(fi.W.all fun id=> !ZK ep j fj.W id)&&(fj.R.all fun id=> !ZK ep i fi.W id)&&(fj.W.all fun id=> !ZK ep i fi.W id)&&
  (fi.F.all fun id=> !decide (id∈fj.W))&&(fj.F.all fun id=> !decide (id∈fi.W))
inductive Zex (ops:Array Oper):Nat→Nat→Prop
 |one {j:Nat} {o:Oper} {e:Edge} (hj:ops[j]? =some o) (he:e∈o.after) (hb:Region.binds .any e=true):Zex ops j e.on
 |more {j i:Nat} {o:Oper} {e:Edge} (hj:ops[j]? =some o) (he:e∈o.after) (hb:Region.binds .any e=true) (h:Zex ops e.on i):Zex ops j i
def Zfb (ops:Array Oper) (listed:Array Bool):Prop:=
 ∀j o,ops[j]? =some o→listed.getD j true=true→∀e∈o.after,Region.binds .any e=true→listed.getD e.on false=true
theorem Zg4 {listed:Array Bool} {j:Nat} (h:listed.getD j false=true):listed.getD j true=true:=by
 rcases Nat.lt_or_ge j listed.size with h' |h'
 ·simp[h']at h⊢;exact h
 ·simp[Array.getElem?_eq_none h']at h
theorem Zex.listed {ops:Array Oper} {listed:Array Bool} {j i:Nat} (h:Zex ops j i) (hc:Zfb ops listed) (hj:∀o,ops[j]? =some o→∀e∈o.after,Region.binds .any e=true→listed.getD e.on false=true):
  listed.getD i false=true:=by
 induction h with
 |one ho he hb=>exact hj _ ho _ he hb
 |more ho he hb _ ih=>exact ih fun o' ho' e' he' hb'=>hc _ o' ho' (Zg4 (hj _ ho _ he hb)) e' he' hb'
theorem Zfb.set {ops:Array Oper} {listed:Array Bool} (h:Zfb ops listed) {i:Nat} (hi:i∈Region.ready .any ops listed):Zfb ops (listed.setIfInBounds i true):=by
 intro j o hj hl e he hb;refine getD_set_true ?_;obtain⟨_,oi,hoi,hall⟩:=mem_ready.1 hi
 by_cases hji:j=i
 ·subst hji;rw[hj]at hoi;obtain rfl:=ZmQ hoi;exact hall e he hb
 ·rw[getD_set_ne true (Ne.symm hji)]at hl;exact h j o hj hl e he hb
section
variable {C:Ctx} {r:Fm} {ops:Array Oper} {tbl:List Fp} {K:St→Prop}
def D.isDead:D→Bool
 | .dead=>true
 |_=>false
def live (ops:Array Oper) (o:Oper) (st:St) (f:Fp):Bool:=(o.looksAt ops).all (fun t=> !(st.slots t).isDead)&&(f.R.all fun id=>(st.objs id).isSome)&&(f.W.all fun id=>(st.objs id).isSome)
def OEf (C:Ctx) (ops:Array Oper) (i:Nat) (o:Oper) (st:St) (e:Eff) (f:Fp):Prop:=OE C ops i o st e f.R∧f.W=e.wr.map (·.1)∧f.F=e.frz∧live ops o st f=true
def Zmo (C:Ctx) (ops:Array Oper) (tbl:List Fp) (K:St→Prop):Nat→Array Bool→St→Prop
 |0,listed,st=>Region.ready .any ops listed=[]∧K st
 |n+1,listed,st=>(Region.ready .any ops listed=[]→K st)∧
   ∀i∈Region.ready .any ops listed,∃o e f,ops[i]? =some o∧tbl[i]? =some f∧OEf C ops i o st e f∧Zmo C ops tbl K n (listed.setIfInBounds i true) (st.app i o.dst e)
theorem Zix {ep i j:Nat} {oi oj:Oper} {fi fj:Fp} (h:Zg6 ops ep i j oi oj fi fj=true):oi.apart ops oj=true∧(∀id∈fi.R,ZK ep j fj.W id=false)∧(∀id∈fi.W,ZK ep j fj.W id=false)∧
  (∀id∈fj.R,ZK ep i fi.W id=false)∧(∀id∈fj.W,ZK ep i fi.W id=false)∧(∀id∈fi.F,id∉fj.W)∧(∀id∈fj.F,id∉fi.W):=by
 simp only[Zg6,Zmt,ZmX,Bool.not_eq_true',decide_eq_false_iff_not]at h;obtain⟨⟨⟨⟨⟨⟨h1,h2⟩,h3⟩,h4⟩,h5⟩,h6⟩,h7⟩:=h;exact⟨h1,h2,h3,h4,h5,h6,h7⟩
theorem ZeQ {o:Oper} {st st':St} {f:Fp} (h:live ops o st f=true) (hs:∀t∈o.looksAt ops,st'.slots t=st.slots t) (hR:∀id∈f.R,st'.objs id=st.objs id) (hW:∀id∈f.W,st'.objs id=st.objs id):live ops o st' f=true:=by
 simp only[live,Zmt,ZmX]at h⊢
 exact⟨⟨fun t ht=>by rw[hs t ht];exact h.1.1 t ht,fun id hid=>by rw[hR id hid];exact h.1.2 id hid⟩,fun id hid=>by rw[hW id hid];exact h.2 id hid⟩
theorem OEf.swap {i j:Nat} {oi oj:Oper} {fi fj:Fp} {st:St} {ei ej:Eff} (hij:i≠j) (hi:OEf C ops i oi st ei fi) (hj:OEf C ops j oj (st.app i oi.dst ei) ej fj) (hin:Zg6 ops st.ep i j oi oj fi fj=true):
  OEf C ops j oj st ej fj∧OEf C ops i oi (st.app j oj.dst ej) ei fi∧(st.app i oi.dst ei).app j oj.dst ej=(st.app j oj.dst ej).app i oi.dst ei:=by
 obtain⟨h1,h2,h3,h4,h5,h6,h7⟩:=Zix hin;obtain⟨a1,a2,a3⟩:=Oper.apart_spec h1;obtain⟨hi0,hiW,hiF,hiL⟩:=hi;obtain⟨hj0,hjW,hjF,hjL⟩:=hj;have hj':OE C ops j oj st ej fj.R:=by
  refine hj0.congr (fun t ht=> ?_) (fun id hid=> ?_) (fun id hid=> ?_) (Zcu _ _ _ _).symm
  ·rw[ZaI,if_neg fun hd=>a1 t hd ht]
  ·exact(ZcV (by rw[←hiW];exact h4 id hid)).symm
  ·rw[Zee];have:id∉ei.frz:=fun hm=>h6 id (by rw[hiF];exact hm) (by rw[hjW];exact hid)
   simp[this]
 refine⟨⟨hj',hjW,hjF, ?_⟩,⟨?_,hiW,hiF, ?_⟩, ?_⟩
 ·refine ZeQ hjL (fun t ht=> ?_) (fun id hid=> ?_) (fun id hid=> ?_)
  ·rw[ZaI,if_neg fun hd=>a1 t hd ht]
  ·exact(ZcV (by rw[←hiW];exact h4 id hid)).symm
  ·exact(ZcV (by rw[←hiW];exact h5 id hid)).symm
 ·refine hi0.congr (fun t ht=> ?_) (fun id hid=> ?_) (fun id hid=> ?_) (Zcu _ _ _ _)
  ·rw[ZaI,if_neg fun hd=>a3 t hd ht]
  ·exact ZcV (by rw[←hjW];exact h2 id hid)
  ·rw[Zee];have:id∉ej.frz:=fun hm=>h7 id (by rw[hjF];exact hm) (by rw[hiW];exact hid)
   simp[this]
 ·refine ZeQ hiL (fun t ht=> ?_) (fun id hid=> ?_) (fun id hid=> ?_)
  ·rw[ZaI,if_neg fun hd=>a3 t hd ht]
  ·exact ZcV (by rw[←hjW];exact h2 id hid)
  ·exact ZcV (by rw[←hjW];exact h3 id hid)
 ·exact ZkT hij a2 (fun id hid=>by rw[←hjW];exact h3 id (by rw[hiW];exact hid)) (fun id hid=>by rw[←hiW];exact h5 id (by rw[hjW];exact hid))
theorem ZgH {listed:Array Bool} {i:Nat} (h0:listed.getD i true=false) (h1:listed.getD i false=true):False:=by
 rcases Nat.lt_or_ge i listed.size with h' |h'
 ·simp[h']at h0 h1;rw[h0]at h1;cases h1
 ·simp[Array.getElem?_eq_none h']at h1
theorem ZiW {i:Nat} {oi:Oper} {e:Eff} {f:Fp} (hi:ops[i]? =some oi) (hf:tbl[i]? =some f):∀(fuel:Nat) (listed:Array Bool) (st:St),Zfb ops listed→
   (∀j oj fj,ops[j]? =some oj→tbl[j]? =some fj→j≠i→listed.getD j true=false→¬Zex ops j i→Zg6 ops st.ep i j oi oj f fj=true)→
   i∈Region.ready .any ops listed→OEf C ops i oi st e f→
   Zmo C ops tbl K fuel (listed.setIfInBounds i true) (st.app i oi.dst e)→Zmo C ops tbl K (fuel+1) listed st:=by
 intro fuel
 induction fuel with
 |zero=>
  intro listed st _ _ hr hy H;refine⟨fun h=>(by rw[h]at hr;cases hr),fun j hj=> ?_⟩
  by_cases hji:j=i
  ·subst hji;exact⟨oi,e,f,hi,hf,hy,H⟩
  ·have:=ready_mono hj hji;rw[H.1]at this;cases this
 |succ fuel ih=>
  intro listed st hcl hfree hr hy H;refine⟨fun h=>(by rw[h]at hr;cases hr),fun j hj=> ?_⟩
  by_cases hji:j=i
  ·subst hji;exact⟨oi,e,f,hi,hf,hy,H⟩
  ·obtain⟨oj,ej,fj,hoj,hfj,hyj,H1⟩:=H.2 j (ready_mono hj hji);obtain⟨hjun,oj',hoj',hall⟩:=mem_ready.1 hj;rw[hoj]at hoj';obtain rfl:=ZmQ hoj';have hi0:=(mem_ready.1 hr).1;have hnw:¬Zex ops j i:=fun hw=>ZgH hi0 (hw.listed hcl fun o' ho'=>by rw[hoj]at ho';obtain rfl:=ZmQ ho';exact hall)
   obtain⟨q1,q2,q3⟩:=OEf.swap (Ne.symm hji) hy hyj (hfree j oj fj hoj hfj hji hjun hnw);refine⟨oj,ej,fj,hoj,hfj,q1,ih (listed.setIfInBounds j true) (st.app j oj.dst ej) (hcl.set hj) (fun k ok fk hk hfk hki hun hno=> ?_) (ready_mono hr (Ne.symm hji)) q2 ?_⟩
   ·rw[Zcu];refine hfree k ok fk hk hfk hki ?_ hno
    by_cases hjk:j=k
    ·subst hjk;exact hjun
    ·rw[getD_set_ne true hjk]at hun;exact hun
   ·rw[Array.setIfInBounds_comm _ _ hji,←q3];exact H1
def masks (ops:List Oper):List Nat:=
 ops.foldl (init:=[]) fun acc o=>acc++[o.after.toList.foldl (fun s e=>if Region.binds .any e then s|||2 ^ e.on|||acc.getD e.on 0 else s) 0]
def Zjy (acc:List Nat) (es:List Edge) (s:Nat):Nat:=es.foldl (fun s e=>if Region.binds .any e then s|||2 ^ e.on|||acc.getD e.on 0 else s) s
theorem ZdH {acc:List Nat} {i:Nat}:∀(es:List Edge) (s:Nat),(Zjy acc es s).testBit i=true→s.testBit i=true∨∃e∈es,Region.binds .any e=true∧(e.on=i∨(acc.getD e.on 0).testBit i=true)
 | [],s,h=> .inl h
 |e::es,s,h=>by
  have h:=ZdH es _ h;rcases h with h |⟨e',he',h⟩
  ·dsimp only at h;split at h
   ·rename_i hb;simp only[Nat.testBit_or,Bool.or_eq_true]at h;rcases h with (h |h) |h
    ·exact .inl h
    ·rw[Nat.testBit_two_pow]at h;exact .inr ⟨e,by simp,hb,.inl (by simpa using h)⟩
    ·exact .inr ⟨e,by simp,hb,.inr h⟩
   ·exact .inl h
  ·exact .inr ⟨e',by simp[he'],h⟩
theorem ZeP (ops:Array Oper):∀(l pre:List Oper) (acc:List Nat),pre++l=ops.toList→acc.length=pre.length→(∀j i,(acc.getD j 0).testBit i=true→Zex ops j i)→
  ∀j i,((l.foldl (init:=acc) fun acc o=>acc++[o.after.toList.foldl (fun s e=>if Region.binds .any e then s|||2 ^ e.on|||acc.getD e.on 0 else s) 0]).getD j 0).testBit i=true→Zex ops j i
 | [],pre,acc,_,_,h=>h
 |o::l,pre,acc,hp,hl,h=>by
  simp only[List.foldl_cons];refine ZeP ops l (pre++[o]) _ (by simpa using hp) (by simp[hl]) fun j i hb=> ?_
  have ho:ops[pre.length]? =some o:=by rw[←ZmU,←hp];simp
  by_cases hj:j < acc.length
  ·refine h j i ?_;simpa[Znl,List.getElem?_append_left hj]using hb
  ·by_cases hj2:j=acc.length
   ·subst hj2;have hb':(Zjy acc o.after.toList 0).testBit i=true:=by simpa[Znl,Zjy]using hb
    rcases ZdH _ _ hb' with h0 |⟨e,he,hbi,h0⟩
    ·simp at h0
    ·rw[hl];have he':e∈o.after:=by simpa using he
     rcases h0 with rfl |h0
     ·exact .one ho he' hbi
     ·exact .more ho he' hbi (h _ _ h0)
   ·have:((acc++[o.after.toList.foldl (fun s e=>if Region.binds .any e then s|||2 ^ e.on|||acc.getD e.on 0 else s) 0]).getD j 0)=0:=by rw[Znl,List.getElem?_eq_none (by simp;omega)];rfl
    rw[this]at hb;simp at hb
theorem Zg1 {ops:Array Oper} {j i:Nat} (h:((masks ops.toList).getD j 0).testBit i=true):Zex ops j i:=
 ZeP ops ops.toList [] [] rfl rfl (fun j i h=>by simp at h) j i h
def ZeG (ops:Array Oper) (ep i:Nat) (oi:Oper) (fi:Fp):Nat→List Oper→List Fp→List Nat→Bool
 |_,[],_,_=>true
 |j,oj::os,fj::fs,m::ms=>(m.testBit i||Zg6 ops ep i j oi oj fi fj)&&ZeG ops ep i oi fi (j+1) os fs ms
 |_,_,_,_=>false
def ZcD (ops:Array Oper) (ep:Nat):Nat→List Oper→List Fp→List Nat→Bool
 |_,[],_,_=>true
 |i,oi::os,fi::fs,m::ms=>ZeG ops ep i oi fi (i+1) os fs ms&&ZcD ops ep (i+1) os fs ms
 |_,_,_,_=>false
def Zh0:Nat→List Oper→Bool
 |_,[]=>true
 |i,o::os=>(o.after.toList.all fun e=> !Region.binds .any e||decide (e.on < i))&&Zh0 (i+1) os
def Zgo (ops:Array Oper) (ep:Nat) (tbl:List Fp):Bool:=Zh0 0 ops.toList&&ZcD ops ep 0 ops.toList tbl (masks ops.toList)
theorem Zd7:∀(l:List Oper) (i:Nat),Zh0 i l=true→∀k o,l[k]? =some o→∀e∈o.after,Region.binds .any e=true→e.on < i+k
 | [],_,_,k,o,h=>by simp at h
 |o::l,i,h,k,o',hk=>by
  simp only[Zh0,Zmt,ZmX,Bool.or_eq_true,Bool.not_eq_true',decide_eq_true_eq]at h;cases k with
  |zero=>
   simp at hk;subst hk;intro e he hb;have:=h.1 e (by simpa using he);rw[hb]at this;simpa using this
  |succ k=>
   simp at hk;intro e he hb;have:=Zd7 l (i+1) h.2 k o' hk e he hb;omega
theorem Zdw {ep i:Nat} {oi:Oper} {fi:Fp}:∀(os:List Oper) (fs:List Fp) (ms:List Nat) (j:Nat),ZeG ops ep i oi fi j os fs ms=true→∀k oj fj,os[k]? =some oj→fs[k]? =some fj→
  (ms.getD k 0).testBit i=true∨Zg6 ops ep i (j+k) oi oj fi fj=true
 | [],_,_,_,_,k,oj,fj,h,_=>by simp at h
 |o::os,[],_,_,h,_,_,_,_,_=>by simp[ZeG]at h
 |o::os,f::fs,[],_,h,_,_,_,_,_=>by simp[ZeG]at h
 |o::os,f::fs,m::ms,j,h,k,oj,fj,ho,hf=>by
  simp only[ZeG,Zmt,Bool.or_eq_true]at h;cases k with
  |zero=>simp at ho hf;subst ho hf;simpa using h.1
  |succ k=>
   simp at ho hf;have:=Zdw os fs ms (j+1) h.2 k oj fj ho hf;simpa[Nat.add_assoc,Nat.add_comm 1 k]using this
theorem Zc0 {ep:Nat}:∀(os:List Oper) (fs:List Fp) (ms:List Nat) (i:Nat),ZcD ops ep i os fs ms=true→∀k l oi oj fi fj,k < l→os[k]? =some oi→os[l]? =some oj→fs[k]? =some fi→fs[l]? =some fj→
  (ms.getD l 0).testBit (i+k)=true∨Zg6 ops ep (i+k) (i+l) oi oj fi fj=true
 | [],_,_,_,_,k,l,oi,oj,fi,fj,_,h,_,_,_=>by simp at h
 |o::os,[],_,_,h,_,_,_,_,_,_,_,_,_,_,_=>by simp[ZcD]at h
 |o::os,f::fs,[],_,h,_,_,_,_,_,_,_,_,_,_,_=>by simp[ZcD]at h
 |o::os,f::fs,m::ms,i,h,k,l,oi,oj,fi,fj,hkl,h1,h2,h3,h4=>by
  simp only[ZcD,Zmt]at h;cases l with
  |zero=>omega
  |succ l=>
   simp at h2 h4;cases k with
   |zero=>
    simp at h1 h3;subst h1 h3;have:=Zdw os fs ms (i+1) h.1 l oj fj h2 h4;simpa[Nat.add_assoc,Nat.add_comm 1 l]using this
   |succ k=>
    simp at h1 h3;have:=Zc0 os fs ms (i+1) h.2 k l oi oj fi fj (by omega) h1 h2 h3 h4;simpa[Nat.add_assoc,Nat.add_comm 1 l,Nat.add_comm 1 k]using this
def ZkW (C:Ctx) (ops:Array Oper):List Fp→Nat→St→St→Prop
 | [],_,st,st'=>st=st'
 |f::r,k,st,st'=>∃o e,ops[k]? =some o∧OEf C ops k o st e f∧ZkW C ops r (k+1) (st.app k o.dst e) st'
def Zmn (n k:Nat) (listed:Array Bool):Prop:=listed.size=n∧∀j,j < n→listed[j]? =some (decide (j < k))
theorem Zmn.set {n k:Nat} {listed:Array Bool} (h:Zmn n k listed):Zmn n (k+1) (listed.setIfInBounds k true):=by
 refine⟨by simp[h.1],fun j hj=> ?_⟩;rw[Array.getElem?_setIfInBounds]
 by_cases hjk:k=j
 ·subst hjk;simp[h.1,hj]
 ·rw[if_neg hjk,h.2 j hj];simp only[ZmR,decide_eq_decide];omega
theorem ZkV {ep:Nat} {st':St} (hok:Zgo ops ep tbl=true) (htl:tbl.length=ops.size) (hK:K st'):∀(l:List Fp) (k:Nat) (listed:Array Bool) (st:St),(∀j,l[j]? =tbl[k+j]?)→k+l.length=ops.size→
  Zmn ops.size k listed→st.ep=ep→ZkW C ops l k st st'→Zmo C ops tbl K l.length listed st:=by
 simp only[Zgo,Zmt]at hok;have hback:=Zd7 _ _ hok.1;have hpair:=Zc0 _ _ _ _ hok.2;have hback':∀k o,ops[k]? =some o→∀e∈o.after,Region.binds .any e=true→e.on < k:=fun k o hk e he hb=>by have:=hback k o (by rw[ZmU];exact hk) e he hb;omega
 have getD_t:∀{k:Nat} {listed:Array Bool},Zmn ops.size k listed→∀j,j < ops.size→∀d,listed.getD j d=decide (j < k):=fun hu j hj d=>by rw[Array.getD_eq_getD_getElem?,hu.2 j hj];rfl
 have hclosed:∀{k:Nat} {listed:Array Bool},k≤ops.size→Zmn ops.size k listed→Zfb ops listed:=by intro k listed hk hu j o hj hl e he hb;have hjs:=(Zmp.1 hj).1;rw[getD_t hu j hjs]at hl;have:=hback' j o hj e he hb;have hl:=of_decide_eq_true hl;rw[getD_t hu _ (by omega)];simp;omega
 intro l
 induction l with
 |nil=>
  intro k listed st _ hk hu _ hch;simp only[ZkW]at hch;subst hch;simp only[List.length_nil,Nat.add_zero]at hk;refine⟨?_,hK⟩;refine List.eq_nil_iff_forall_not_mem.2 fun j hj=> ?_
  obtain⟨h0,o,ho,_⟩:=mem_ready.1 hj;have hjs:=(Zmp.1 ho).1;rw[getD_t hu j hjs]at h0;simp at h0;omega
 |cons f l ih=>
  intro k listed st hl hk hu hep hch;obtain⟨o,e,ho,hoe,hch⟩:=hch;have hks:=(Zmp.1 ho).1;have hf:tbl[k]? =some f:=by simpa using (hl 0).symm
  simp only[List.length_cons]at hk⊢
  refine ZiW ho hf l.length listed st (hclosed (by omega) hu) (fun j oj fj hj hfj hjk hun hnw=> ?_) (mem_ready.2 ⟨?_,o,ho,fun e' he' hb=> ?_⟩) hoe
   (ih (k+1) _ _ (fun j=>by have:=hl (j+1);simpa[Nat.add_assoc,Nat.add_comm 1 j]using this) (by omega) hu.set (by rw[Zcu];exact hep) hch)
  ·have hjs:=(Zmp.1 hj).1;rw[getD_t hu j hjs]at hun;simp at hun;have:=hpair k j o oj f fj (by omega) (by rw[ZmU];exact ho) (by rw[ZmU];exact hj) hf hfj;simp only[Znh]at this;rcases this with h |h
   ·exact absurd (Zg1 h) hnw
   ·rw[hep];exact h
  ·rw[getD_t hu k hks];simp
  ·have:=hback' k o ho e' he' hb;rw[getD_t hu _ (by omega)];simpa using this
theorem Zmo.run (hE:Zk C.E) {b:Frame} (kk:List Go.Item) (cs:List Frame) (hb:b.roundOf=r.r):∀(fuel t:Nat) (listed:Array Bool) (st:St),Zmo C ops tbl K fuel listed st→∀(X:Nat→Prop),(∀j,j < ops.size→X j→listed.getD j true=true)→
  ∀ρ S a w,Rep C X ρ S st a.tmps w→a.defers=r.ds→∃X' ρ' S' st' a' w',Rep C X' ρ' S' st' a'.tmps w'∧a'.defers=r.ds∧K st'∧
   StepsIn (Machine.fenced C.E.prog (Zcj r.r)) C.E.prog (lone (b.atR a (.inRegion ops (Region.linearise.go .any ops fuel t listed [])::kk)) cs w) (lone (b.atR a' (.inRegion ops []::kk)) cs w'):=by
 intro fuel
 induction fuel with
 |zero=>
  intro t listed st h X hX ρ S a w hr hd;exact⟨X,ρ,S,st,a,w,hr,hd,h.2,by simp only[Region.linearise.go,List.reverse_nil];exact .refl _⟩
 |succ fuel ih=>
  intro t listed st h X hX ρ S a w hr hd;obtain⟨h0,h1⟩:=h;simp only[Region.linearise.go]
  change ∃X' ρ' S' st' a' w',_∧_∧_∧StepsIn _ _ (lone (b.atR a (.inRegion ops (match (Region.ready .any ops listed)[t % (Region.ready .any ops listed).length]? with
   |some i=>Region.linearise.go .any ops fuel (t / (Region.ready .any ops listed).length) (listed.setIfInBounds i true) [i]
   |none=>[].reverse)::kk)) cs w) _
  cases hi:(Region.ready .any ops listed)[t % (Region.ready .any ops listed).length]? with
  |none=>
   have hnil:Region.ready .any ops listed=[]:=by
    cases hr:Region.ready .any ops listed with
    |nil=>rfl
    |cons x xs=>
     rw[hr]at hi;have hlt:t % (x::xs).length < (x::xs).length:=Nat.mod_lt _ (by simp);simp at hi;simp at hlt;omega
   exact⟨X,ρ,S,st,a,w,hr,hd,h0 hnil,by simp only[List.reverse_nil];exact .refl _⟩
  |some i=>
   have hir:=List.mem_of_getElem? hi;obtain⟨o,e,f,ho,_,hoe,hrest⟩:=h1 i hir;have his:=(Zmp.1 ho).1;have hun:=(mem_ready.1 hir).1;obtain⟨ρ1,S1,a1,w1,hr1,hd1,hs1⟩:=(hoe.1.exec (r:=r) hE ho) X (fun hx=>by rw[hX i his hx]at hun;cases hun) ρ S a w hr hd b (Region.linearise.go .any ops fuel (t / (Region.ready .any ops listed).length) (listed.setIfInBounds i true) []) kk cs hb;obtain⟨X',ρ',S',st',a',w',q1,q2,q3,q4⟩:=ih (t / (Region.ready .any ops listed).length) _ _ hrest (fun j=>X j∨j=i) (fun j hjs hj=>by
    rcases hj with hj |rfl
    ·by_cases hji:i=j
     ·subst hji;rw[hX i his hj]at hun;cases hun
     ·rw[getD_set_ne true hji];exact hX j hjs hj
    ·rw[Array.getD_eq_getD_getElem?,Array.getElem?_setIfInBounds];simp only[if_true];split<;>rfl) ρ1 S1 a1 w1 hr1 hd1
   refine⟨X',ρ',S',st',a',w',q1,q2,q3, ?_⟩;dsimp only;rw[linearise_go_acc,List.reverse_singleton,List.singleton_append];exact hs1.trans q4
theorem Rep.drawn {X:Nat→Prop} {ρ:Id→Option Lay} {S:Nat→Prop} {st:St} {tm:Array Value} {w:World} (h:Rep C X ρ S st tm w) (n:Nat):Rep C X ρ S st tm {w with drawn:=n}:=by
 have kp:Zcx S w {w with drawn:=n}:=fun _ _ _=>rfl
 exact {h with
  slots:=fun k=>(h.slots k).mono kp (fun _ h=>h) (fun _ _ h=>h)
  objs:=fun id o ho hg=>by obtain⟨L,hL,hr⟩:=h.objs id o ho hg;exact⟨L,hL,hr.mono kp (fun _ h=>h) (fun _ _ h=>h) (fun _ _=>rfl)⟩
  glob:=fun g cs hm=>(h.glob g cs hm).mono kp (fun _ h=>h)}
variable {G:Zj8}
def DW (C:Ctx) (r:Fm) (G:Zj8) (k:List Item) (ops:Array Oper) (hist:List Fp) (st:St):Prop:=
 ∃rest st',(hist++rest).length=ops.size∧Zgo ops st.ep (hist++rest)=true∧ZkW C ops rest hist.length st st'∧AWP C r G k st'.next
theorem dw_op {k:List Item} {hist:List Fp} {st:St} {o:Oper} {e:Eff} {f:Fp} (ho:ops[hist.length]? =some o) (h:OEf C ops hist.length o st e f) (h1:DW C r G k ops (hist++[f]) (st.app hist.length o.dst e)):DW C r G k ops hist st:=by obtain⟨rest,st',q1,q2,q3,q4⟩:=h1;refine⟨f::rest,st',by simpa using q1,by simpa using q2,⟨o,e,ho,h,by simpa using q3⟩,q4⟩
theorem dw_end {k:List Item} {hist:List Fp} {st:St} (hl:hist.length=ops.size) (hok:Zgo ops st.ep hist=true) (h1:AWP C r G k st.next):DW C r G k ops hist st:=
 ⟨[],st,by simpa using hl,by simpa using hok,rfl,h1⟩
theorem ZkR {k:List Item} {st:St} {id:Nat} (hE:Zk C.E) (hm:C.E.prog.follows .mixedOrders=true) (h:DW C r G k ops [] st):AWP C r G (.c (.region id ops true)::k) st:=by intro ρ S a w hr hd b k0 cs hb;obtain⟨rest,st',q1,q2,q3,q4⟩:=h;simp only[List.nil_append]at q1 q2;have hany:=ZkV (K:=fun s=>s=st') q2 q1 rfl rest 0 (Array.replicate ops.size false) st (by simp) (by simpa using q1) ⟨by simp,fun j hj=>by simp[hj]⟩ rfl q3;rw[q1]at hany;have hr0:Rep C (fun _=>False) ρ S st a.tmps w:=hr;obtain⟨X',ρ',S',st2,a',w',p1,p2,p3,p4⟩:=hany.run hE (b:=b) (k.map conc++k0) cs hb ops.size (w.tape w.drawn (.order b.fn id)) _ _ (fun _=>False) (fun _ _ h=>h.elim) ρ S a {w with drawn:=w.drawn+1} (hr0.drawn _) hd;subst p3;obtain⟨e,a2,w2,hg,harr⟩:=q4 ρ' S' a' w' (p1.nextEp.weakX (fun _ h=>h.elim)) p2 b k0 cs hb;refine⟨e,a2,w2,hg,.of_steps ?_ harr⟩;refine .head (Zx _ _ _) (stepR_region_draw) (StepsIn.trans (m₁:=lone (b.atR a' (.inRegion ops []::(k.map conc++k0))) cs w') ?_ (.one (Zx _ _ _) stepR_region_end));simp only[Region.schedule,hm,Bool.true_or,if_true];exact p4
end
end Eng
namespace Eng
open Go
structure Under (st2 st:St):Prop where
 ep:st2.ep=st.ep
 slots:∀k,st2.slots k= .dead∨st2.slots k=st.slots k
 objs:∀id,st2.objs id=none∨st2.objs id=st.objs id
 fz:∀id,st2.fz id=st.fz id
section
variable {C:Ctx} {r:Fm} {G:Zj8} {ops:Array Oper}
def objL (st:St):List Id→Option (List Obj)
 | []=>some []
 |id::r=>match st.objs id,objL st r with
  |some o,some os=>some (o::os)
  |_,_=>none
end
end Eng
namespace Eng
open Go
def Zi2 (w w':World):Prop:=ZS w w'∧w.heap.size≤w'.heap.size∧∀b,b < w.heap.size→w'.heap[b]? =w.heap[b]?
theorem Zi2.keptBut {w w':World} (h:Zi2 w w') (may:MemPlace→Prop):w.keptBut w' may:=by
 refine⟨h.1.1,h.1.2,fun i hi=> ?_⟩;rw[h.2.2 i hi];cases w.heap[i]? with
 |none=>rfl
 |some o=>cases o<;>simp
theorem Ze4:∀(n:Nat) (xs:List P),Zdd n (xs.map .p)=[]
 |_,[]=>rfl
 |n,x::xs=>by simp only[ZmD,Zdd,Arg.o];exact Ze4 (n+1) xs
theorem ZjE {E:Env} {f:Nat} {xs:List P} {vals:Array Value} {w:World} {y:P} (hF:Fun E f (xs.map .p) ⟨[.p y],[]⟩) (hb:(E.prog.funcs[f]?.map fun fn=>fn.body.isNone)=some false) (hv:vals.size=xs.length)
  (hrel:∀(k:Nat) v x,vals[k]? =some v→xs[k]? =some x→RelP w (fun b=>b < w.heap.size) v x) (hglob:∀g cs,(g,cs)∈E.globs→Zej w (fun b=>b < w.heap.size) g cs):
  Calls E.prog f vals w fun e w'=>(∃v S,e= .returned v∧RelP w' S v y)∧Zi2 w w':=by
 obtain hF |⟨⟨fn,h1,h2⟩,_⟩:=hF
 case inr=>rw[h1,Zny,h2]at hb;cases hb
 refine Calls.mono (CallsIn.calls (hF.2 w (fun _=>False) (fun b=>b < w.heap.size) (fun _=>none) (fun _=>none) vals (by simpa using hv) ?_) (fun _=>by intro d hd;simp[Zcj]at hd)) ?_
 ·have ho:∀id,(Zew (xs.map .p)).objs id=none:=fun id=>by show Ze (Zdd 0 (xs.map .p)) id=none;rw[Ze4];rfl
  exact {
   nt:=rfl
   grow:=ZmL _
   frame:=fun _ _ _=>rfl
   s0:=fun _ h=>h
   sIn:=fun _ h=>h
   slots:=fun k=>by
    show RelD w _ _ (vals.getD k undef) (Zal D.dead (ZcT 0 (xs.map .p)) k);rcases ZaG D.dead (ZcT 0 (xs.map .p)) k with hk |hk
    ·rw[hk];exact .dead _
    ·obtain⟨j,x,q1,q2,q3⟩:=Zed 0 _ _ _ hk;rw[Znh]at q2 q3;subst q2;rw[ZmB,Option.map_eq_some_iff]at q1;obtain⟨x0,q1,rfl⟩:=q1;rw[q3];have hlt:=(ZmA.1 q1).1;have hv':vals[k]? =some vals[k]:=by simp
     rw[show vals.getD k undef=vals[k] by simp[show k < vals.size by omega]];exact .p _ _ (hrel k _ x0 hv' q1)
   objs:=fun id o h=>by rw[ho id]at h;cases h
   own:=fun id o L b h=>by rw[ho id]at h;cases h
   inj:=fun id o L id' o' L' b h=>by rw[ho id]at h;cases h
   known:=fun id h=>absurd (ho id) h
   young:=fun id h=>absurd rfl h
   fzk:=fun id h=>by cases h
   glob:=hglob
   sOut:=fun b h=> .inl h
   ep1:=ZmL _
   quiet:= .refl _
   lay:=fun k L h=>by cases h}
 ·rintro e w' ⟨vs,ρ',S',rfl,hvs,hrep⟩;refine⟨⟨ZgJ vs,S',rfl, ?_⟩,hrep.quiet,hrep.grow,fun b hb=>hrep.frame b hb (fun h=>h)⟩;have h1:vs.size=1:=by simpa using hvs
  have:=hrep.slots 0;have h2:vs.getD 0 undef=vs[0]:=by simp[h1]
  rw[h2]at this;unfold ZgJ;rw[dif_pos h1];exact this.of_p
theorem Zkc {E:Env} {f:Nat} {xs:List P} {vals:Array Value} {w:World} {y:Bool} (hF:Fun E f (xs.map .p) ⟨[.p (.bool y)],[]⟩) (hb:(E.prog.funcs[f]?.map fun fn=>fn.body.isNone)=some false) (hv:vals.size=xs.length)
  (hrel:∀(k:Nat) v x,vals[k]? =some v→xs[k]? =some x→RelP w (fun b=>b < w.heap.size) v x) (hglob:∀g cs,(g,cs)∈E.globs→Zej w (fun b=>b < w.heap.size) g cs):
  Calls E.prog f vals w fun e w'=>e= .returned (.bool y)∧Zi2 w w':=
 Calls.mono (ZjE hF hb hv hrel hglob) fun e w' ⟨⟨v,S,he,hr⟩,hk⟩=>⟨by cases hr;exact he,hk⟩
open Go.ChangeShapes Go.WideShapes in
theorem Zk2 {H:Type} {P:Program} {enc:TypeId×Value→H} {f:Func} {s:ChangeSpec} {apart fresh handsOn again:Bool} {W W':World} {args:Array Value} {v:Value} {ds gs:List (DataW H)} {before pa pv:List MemPlace}
  (hW:DataW.Whole enc P f.params.toList s.vars apart W args.toList ds gs before)
  (hres:∀(b:Nat) (sp:Nat→Bool) (hd:Bool),DataW.TrodAll enc P W' b sp hd f.resultTypes.toList (v.resultList f.resultTypes.size) (s.fn H (ds++gs)).results [])
  (hargs:∀sp:Nat→Bool,(∀p∈before,sp p.block=true)→DataW.TrodAll enc P W' 0 sp true f.params.toList args.toList (s.fn H (ds++gs)).args pa)
  (hvars:∀sp:Nat→Bool,(∀p∈before,sp p.block=true)→DataW.TrodVars enc P W' sp s.vars (s.fn H (ds++gs)).vars pv)
  (hps:before=pa++pv) (hk:Zi2 W W')
  (hok:∀(j:Nat) (t:TypeId) (r:Value),f.resultTypes[j]? =some t→(v.resultList f.resultTypes.size)[j]? =some r→Value.okWide P W' .any 0 t r):
  s.post enc P f apart fresh handsOn again W args v W':=by
 have hold:∀p∈before,(fun b=>decide (b < W.heap.size)) p.block=true:=fun p hp=>by simpa using hW.lt p hp
 have hlt:=hW.lt
 refine⟨ds,gs,before,[],pa,pv,hW,hres _ _ _,hargs _ hold,hvars _ hold,World.keptBut_mono (fun p hp=>⟨hp, ?_⟩) (hk.keptBut (· ∈before)),fun _=> ?_⟩
 ·rw[hps,List.mem_append]at hp
  exact Or.inr hp
 ·obtain⟨_,_,_,_,_,hz,hn⟩:=hW
  refine⟨hok,_,_,([]++pa)++pv,⟨[]++pa,pv,trodAll_append (hargs _ (fun _ _=>rfl)) (hres _ _ _),hvars _ (fun _ _=>rfl),rfl, ?_, ?_⟩, ?_⟩
  ·intro b off hp
   have hp':MemPlace.cell b off∈before:=by rw[hps];simpa using hp
   have hb:b < W.heap.size:=hlt _ hp'
   rw[Za6 (hk.2.2 b hb)]
   exact hz b off hp'
  ·intro ha
   have:=hn ha
   rw[hps]at this
   simpa using this
  ·intro p hp _
   rw[hps]
   simpa using hp
end Eng
namespace Eng
open Go
def chk {α:Type} (b:Bool) (k:Option α):Option α:=match b with
 |true=>k
 |false=>none
theorem Zo {α:Type} {b:Bool} {k:Option α} {r:α} (h:chk b k=some r):b=true∧k=some r:=by cases b<;>simp_all [chk]
@[simp] theorem chk_true {α:Type} (k:Option α):chk true k=k:=rfl
theorem bind_some {α β:Type} {x:Option α} {f:α→Option β} {r:β} (h:x.bind f=some r):∃a,x=some a∧f a=some r:=by cases x<;>simp_all
def inK (k:IntKind) (n:Int):Bool:=decide (k.min≤n∧n≤k.max)
def idx {α:Type} (xs:List α) (n:Int):Option α:=if 0≤n then xs[n.toNat]? else none
theorem ZhP {α:Type} {xs:List α} {n:Int} {x:α} (h:idx xs n=some x):0≤n∧n < xs.length∧xs[n.toNat]? =some x:=by unfold idx at h;split at h;rotate_left;cases h;rename_i h0;have:=(ZmA.1 h).1;exact⟨h0,by omega,h⟩
theorem Zhv {α:Type} (xs:List α) (f:α→P):(xs.map f).take xs.length=xs.map f:=by rw[←Znp (f:=f),List.take_length]
theorem dt_map {α:Type} (xs:List α) (f:α→P):((xs.map f).drop 0).take xs.length=xs.map f:=by rw[List.drop_zero,Zhv]
section
variable {C:Ctx} {r:Fm} {G:Zj8} {ops:Array Oper}
end
inductive Out (β ρ:Type) where
 |brk (b:β)
 |ret (r:ρ)
def Zlc (f:Func):Code:=match f.body with |some c=>c |none=> .skip
def sub:List Nat→Code→Code
 | [],c=>c
 |0::p,.seq a _=>sub p a
 |1::p,.seq _ b=>sub p b
 |2::p,.cond _ a _=>sub p a
 |3::p,.cond _ _ b=>sub p b
 |4::p,.block _ b=>sub p b
 |5::p,.loop b=>sub p b
 |_::_,_=> .skip
def big:Nat:=36893488147419103232
theorem big_eq:big=36893488147419103232:=rfl
abbrev Str:=List UInt8
def encL {α:Type} (sz:Nat) (f:α→P) (xs:List α):P:= .sl sz (xs.map f)
end Eng
namespace Eng
open Go
inductive Ty where
 |bool |int (k:IntKind) |str |sl (t:Ty) |st (n:Nat) |map (k v:Ty) |fnc
 deriving DecidableEq,Inhabited
def Ty.td:Ty→TD
 | .bool=> .bool
 | .int k=> .int k
 | .str=> .str
 |_=> .other
@[reducible] def El (car:Nat→Type):Ty→Type
 | .bool=>Bool
 | .int _=>Int
 | .str=>List UInt8
 | .sl t=>List (El car t)
 | .st n=>car n
 | .map k v=>List (El car k×El car v)
 | .fnc=>Option Nat
structure Lf (car:Nat→Type) where
 t:Ty
 x:El car t
structure Zc where
 car:Nat→Type
 size:Nat→Nat
 cells:(n:Nat)→car n→List (Lf car)
 of:(n:Nat)→List (Lf car)→Option (car n)
 enc:(n:Nat)→car n→P
def Zc.tsize (U:Zc):Ty→Nat
 | .st n=>U.size n
 |_=>1
def ZjM:Option Nat→P
 |some f=> .fn f [] []
 |none=> .nilfn
def Zc.encE (U:Zc):(t:Ty)→El U.car t→P
 | .bool,b=> .bool b
 | .int k,n=> .int k n
 | .str,s=> .str s
 | .sl t,xs=> .sl (U.tsize t) (xs.map (U.encE t))
 | .st n,x=>U.enc n x
 | .map k v,kv=> .map k.td (kv.map fun e=>(U.encE k e.1,U.encE v e.2))
 | .fnc,x=>ZjM x
def Zc.encL (U:Zc) (l:Lf U.car):P:=U.encE l.t l.x
def Zc.cellsE (U:Zc):(t:Ty)→El U.car t→List (Lf U.car)
 | .st n,x=>U.cells n x
 |t,x=>[⟨t,x⟩]
def Zc.ofE (U:Zc):(t:Ty)→List (Lf U.car)→Option (El U.car t)
 | .st n,cs=>U.of n cs
 |t,[c]=>if h:c.t=t then some (h▸c.x)else none
 |_,_=>none
structure UOk (U:Zc):Prop where
 of_cells:∀n cs x,U.of n cs=some x→U.cells n x=cs
 enc_cells:∀n x,U.enc n x= .agg ((U.cells n x).map U.encL)
 len:∀n x,(U.cells n x).length=U.size n
inductive TV (U:Zc) where
 |v (t:Ty) (x:El U.car t)
 |pp (cs:List (Lf U.car))
 |nilp |nilfn
 |dead |undef
 |nils (t:Ty)
 |clip (t:Ty) (xs:List (El U.car t))
 |agg (cs:List (TV U))
 |tup (vs:List (TV U))
 |full (id:Id) (n:Nat)
 |sl (id:Id) (off len:Nat)
 |ptr (id:Id) (i j:Nat)
 |map (id:Id)
 |it (id:Id)
 |fn (f:Nat) (first caps:List (TV U))
instance {U:Zc}:Inhabited (TV U):=⟨.dead⟩
inductive TO (U:Zc) where
 |box (cs:List (TV U))
 |arr (t:Ty) (xs:List (El U.car t)) (fix:Bool)
 |map (k v:Ty) (kv:List (El U.car k×El U.car v))
 |sit (s:List UInt8) (pos:Nat)
 |mit (k v:Ty) (rest:List (El U.car k×El U.car v)) (cur:Option (El U.car k×El U.car v))
 |gone
structure TS (U:Zc) where
 slots:Nat→TV U
 objs:Id→Option (TO U)
 fz:Id→Bool
 ep:Nat
def fnD (f:Nat) (a b:List D):D:=match Zm D.pure? a,Zm D.pure? b with
 |some x,some y=> .p (.fn f x y)
 |_,_=> .fn f a b
mutual
def TV.enc {U:Zc}:TV U→D
 | .v t x=> .p (U.encE t x)
 | .pp cs=> .p (.ptr (cs.map U.encL))
 | .nilp=> .p .nilp
 | .nilfn=> .p .nilfn
 | .dead=> .dead
 | .undef=> .undef
 | .nils t=> .nils (U.tsize t)
 | .clip t xs=> .clip (U.tsize t) (xs.map (U.encE t))
 | .agg cs=> .mkAgg (TV.encs cs)
 | .tup vs=> .tup (TV.encs vs)
 | .full id n=> .sl id 0 n
 | .sl id off len=> .sl id off len
 | .ptr id i j=> .ptr id i j
 | .map id=> .map id
 | .it id=> .it id
 | .fn f a b=>fnD f (TV.encs a) (TV.encs b)
def TV.encs {U:Zc}:List (TV U)→List D
 | []=>[]
 |d::r=>d.enc::TV.encs r
end
theorem ZaN {U:Zc}:∀l:List (TV U),TV.encs l=l.map TV.enc
 | []=>rfl
 |d::r=>by rw[TV.encs,ZaN r];rfl
def TO.enc {U:Zc}:TO U→Obj
 | .box cs=> .box (TV.encs cs)
 | .arr t xs fix=> .arr (U.tsize t) (xs.map (U.encE t)) fix
 | .map k v kv=> .map k.td (kv.map fun e=>(U.encE k e.1,U.encE v e.2))
 | .sit s pos=> .sit s pos
 | .mit k v rest cur=> .mit (rest.map fun e=>(U.encE k e.1,U.encE v e.2)) (cur.map fun e=>(U.encE k e.1,U.encE v e.2))
 | .gone=> .gone
def Zik {U:Zc}:Option (TO U)→Option Obj
 |some o=>some o.enc
 |none=>none
def TS.enc {U:Zc} (T:TS U):St:={slots:=fun k=>(T.slots k).enc,objs:=fun id=>Zik (T.objs id),fz:=T.fz,ep:=T.ep}
mutual
def TV.fulls {U:Zc}:TV U→List (Id×Nat)
 | .full id n=>[(id,n)]
 | .agg cs=>TV.fullsL cs
 | .tup cs=>TV.fullsL cs
 | .fn _ a b=>TV.fullsL a++TV.fullsL b
 |_=>[]
def TV.fullsL {U:Zc}:List (TV U)→List (Id×Nat)
 | []=>[]
 |d::r=>d.fulls++TV.fullsL r
end
theorem Zs {U:Zc} {q:Id×Nat}:∀{l:List (TV U)},q∈TV.fullsL l↔∃d∈l,q∈d.fulls
 | []=>by simp[TV.fullsL]
 |d::r=>by simp[TV.fullsL,Zs (l:=r)]
def Zis {U:Zc} (lk:Id→Option (TO U)) (q:Id×Nat):Prop:=∃o,lk q.1=some o∧∀t xs fix,o= .arr t xs fix→xs.length=q.2
def TV.inv {U:Zc} (lk:Id→Option (TO U)) (d:TV U):Prop:=∀q∈d.fulls,Zis lk q
def TO.inv {U:Zc} (lk:Id→Option (TO U)):TO U→Prop
 | .box cs=>∀d∈cs,d.inv lk
 |_=>True
structure TS.Inv {U:Zc} (T:TS U):Prop where
 slots:∀k,(T.slots k).inv T.objs
 objs:∀id o,T.objs id=some o→o.inv T.objs
theorem ZbH {U:Zc} (hU:UOk U) (t:Ty) (x:El U.car t):(U.cellsE t x).length=U.tsize t:=by cases t<;>first |exact hU.len _ _ |rfl
theorem Zav {U:Zc} (hU:UOk U) (t:Ty) (x:El U.car t):(U.encE t x).cells=(U.cellsE t x).map U.encL:=by
 cases t with
 |st n=>simp only[Zc.encE,Zc.cellsE,hU.enc_cells n x,P.cells]
 |fnc=>cases x<;>rfl
 |_=>rfl
theorem ZaC {U:Zc} (hU:UOk U) {t:Ty} {cs:List (Lf U.car)} {x:El U.car t} (h:U.ofE t cs=some x):U.cellsE t x=cs:=by
 have one:∀(t:Ty) (c:Lf U.car) (x:El U.car t),(if h:c.t=t then some (h▸c.x)else none)=some x→[(⟨t,x⟩:Lf U.car)]=[c]:=by intro t c x h;split at h;rotate_left;simp at h;rename_i he;obtain⟨t',y⟩:=c;dsimp only at he;subst he;cases h;rfl
 cases t with
 |st n=>exact hU.of_cells n cs x h
 |_=>
  match cs,h with
  | [c],h=>exact one _ c x h
end Eng
namespace Eng
open Go
structure TT (U:Zc) where
 ti:TI
 n:Option Nat
 ty:Ty
 zero:List (TV U)
 zl:Option (Lf U.car)
structure ZG (U:Zc) where
 prog:Program
 tt:List (Option (TT U))
 globs:List (Nat×List (Lf U.car))
 nt:Nat
def tiOf {U:Zc}:Option (TT U)→Option TI
 |some e=>some e.ti
 |none=>none
def ZG.E {U:Zc} (X:ZG U):Env:={prog:=X.prog,tys:=X.tt.map tiOf,globs:=X.globs.map fun g=>(g.1,g.2.map U.encL),nt:=X.nt}
def ZG.at {U:Zc} (X:ZG U) (n:Nat):ZG U:={X with nt:=n}
def ZG.get {U:Zc} (X:ZG U) (t:Nat):Option (TT U):=match X.tt[t]? with |some (some e)=>some e |_=>none
def ZG.elem {U:Zc} (X:ZG U) (t:Nat):Option (TT U):=match X.get t with
 |some e=>match e.ti.d with
  | .sl u=>X.get u
  |_=>none
 |none=>none
structure TOk {U:Zc} (X:ZG U):Prop where
 zero:∀t e,X.get t=some e→TV.encs e.zero=e.ti.zero.map Z.toD
 zl:∀t e l,X.get t=some e→e.zl=some l→U.encL l=e.ti.zeroP
 agg:∀t e,X.get t=some e→e.ti.isAgg=e.n.isSome
 size:∀t e n,X.get t=some e→e.n=some n→e.ti.size=U.size n
 key:∀t e k v,X.get t=some e→e.ty= .map k v→X.E.keyTD t=k.td
 inv:∀t e,X.get t=some e→∀d∈e.zero,d.fulls=[]
section
variable {U:Zc} {X:ZG U}
theorem Zw {t:Nat} {e:TT U} (h:X.get t=some e):X.E.ty t=some e.ti:=by unfold ZG.get at h;unfold Env.ty ZG.E;simp only[ZmB];split at h;rotate_left;simp at h;rename_i e' he;cases h;rw[he];rfl
theorem Zr {t:Nat} {e:TT U} (h:X.get t=some e):X.E.td t=some e.ti.d:=by simp only[Env.td,Zw h]
theorem ZaE {t:Nat} {e:TT U} (h:X.elem t=some e):X.E.elem t=some e.ti:=by unfold ZG.elem at h;unfold Env.elem;split at h;rotate_left;simp at h;rename_i e' he;rw[Zw he];split at h;rotate_left;simp at h;rename_i u hu;rw[←Zw h];generalize e'.ti=ti at hu;obtain⟨d,a,b,c⟩:=ti;dsimp only at hu;subst hu;rfl
def evT (X:ZG U) (sl:Nat→TV U) (t:Nat):Operand→Option (TV U)
 | .tmp s=>some (sl s)
 | .const (.bool b)=>some (.v .bool b)
 | .const (.int k n)=>some (.v (.int k) n)
 | .const (.string s)=>some (.v .str s.data.toList)
 | .const (.slice none 0 0)=>match X.elem t with
  |some e=>if U.tsize e.ty=e.ti.size then some (.nils e.ty)else none
  |none=>none
 | .const (.pointer none)=>some .nilp
 | .const .nilFunc=>some .nilfn
 | .const (.map none)=>match X.get t with
  |some e=>match e.ty with
   | .map k v=>some (.v (.map k v) [])
   |_=>none
  |none=>none
 | .func f=>some (.fn f [] [])
 | .global g=>match X.globs.find? (·.1 == g)with
  |some x=>some (.pp x.2)
  |none=>none
 |_=>none
theorem ZhU {α:Type} (f:α→P) (g:Nat):∀l:List (Nat×List α),(l.map fun x=>(x.1,x.2.map f)).find? (·.1 == g)=(l.find? (·.1 == g)).map fun x=>(x.1,x.2.map f)
 | []=>rfl
 |x::r=>by
  simp only[ZmD,List.find?_cons];split
  ·rfl
  ·exact ZhU f g r
theorem ZlW (hX:TOk X) {sl:Nat→TV U} {t:Nat} {x:Operand} {d:TV U} (h:evT X sl t x=some d):ev X.E (fun k=>(sl k).enc) t x=d.enc:=by
 unfold evT at h;split at h
 ·cases h;rfl
 ·cases h;rfl
 ·cases h;rfl
 ·cases h;rfl
 ·split at h;rotate_left;simp at h;rename_i e he;split at h;rotate_left;simp at h;rename_i hs;cases h;simp only[ev,D.ofV,Env.elemSize,ZaE he,TV.enc,hs]
 ·cases h;rfl
 ·cases h;rfl
 ·split at h;rotate_left;simp at h;rename_i e he;split at h;rotate_left;simp at h;rename_i k v hty;cases h;simp only[ev,D.ofV,hX.key t e k v he hty,TV.enc,Zc.encE,Znt]
 ·cases h;rfl
 ·split at h;rotate_left;simp at h;rename_i q hq;cases h;simp only[ev,Env.glob,ZG.E,ZhU,hq,Zny,TV.enc]
 ·simp at h
def lv (l:Lf U.car):TV U:= .v l.t l.x
def TV.leaf?:TV U→Option (Lf U.car)
 | .v t x=>some ⟨t,x⟩
 |_=>none
theorem ZjD {d:TV U} {l:Lf U.car} (h:d.leaf?=some l):d=lv l:=by cases d<;>simp[TV.leaf?]at h;subst h;rfl
def ZdE (n:Option Nat) (cs:List (TV U)):TV U:=
 match n,Zm TV.leaf? cs with
 |some n,some ls=>match U.of n ls with
  |some x=> .v (.st n) x
  |none=> .agg cs
 |_,_=> .agg cs
def TV.cells:TV U→List (TV U)
 | .agg cs=>cs
 | .v (.st n) x=>(U.cells n x).map lv
 |d=>[d]
theorem ZcP (ls:List (Lf U.car)):TV.encs (ls.map lv)=(ls.map U.encL).map .p:=by rw[ZaN,Zns,Zns];rfl
theorem Zas (ps:List P):Zm D.pure? (ps.map .p)=some ps:=by
 induction ps with
 |nil=>rfl
 |cons x r ih=>simp only[ZmD,Zm,D.pure?,ih]
theorem Zcd (ps:List P):D.mkAgg (ps.map .p)= .p (.agg ps):=by unfold D.mkAgg;rw[Zas]
theorem Zcv:∀{cs:List (TV U)} {ls:List (Lf U.car)},Zm TV.leaf? cs=some ls→cs=ls.map lv
 | [],ls,h=>by simp[Zm]at h;subst h;rfl
 |d::r,ls,h=>by simp only[Zm]at h;split at h;rotate_left;simp at h;rename_i l ls' h1 h2;cases h;simp only[ZmD,←Zcv h2,ZjD h1]
theorem ZeK (hU:UOk U) (n:Option Nat) (cs:List (TV U)):(ZdE n cs).enc=D.mkAgg (TV.encs cs):=by
 unfold ZdE;split
 ·rename_i n ls hls;rw[Zcv hls];split
  ·rename_i x hx;rw[ZcP,Zcd,TV.enc,Zc.encE,hU.enc_cells,hU.of_cells _ _ _ hx]
  ·rw[TV.enc]
 ·rw[TV.enc]
theorem Zf8 (n:Option Nat) (cs:List (TV U)) {q:Id×Nat} (h:q∈(ZdE n cs).fulls):∃d∈cs,q∈d.fulls:=by
 unfold ZdE at h;have:q∈TV.fullsL cs→∃d∈cs,q∈d.fulls:=fun h=>Zs.1 h
 split at h
 ·split at h
  ·simp[TV.fulls]at h
  ·exact this h
 ·exact this h
theorem ZiI (ds:List D):(D.mkAgg ds).cells=ds:=by
 unfold D.mkAgg;split
 ·rename_i ps h;rw[D.cells,Zu h]
 ·rfl
theorem ZjH (f:Nat) (a b:List D):(fnD f a b).cells=[fnD f a b]:=by unfold fnD;split<;>rfl
theorem Zd5 (hU:UOk U) (d:TV U):TV.encs d.cells=d.enc.cells:=by
 cases d with
 |agg cs=>rw[TV.cells,TV.enc,ZiI]
 |v t x=>
  cases t with
  |st n=>simp only[TV.cells,ZcP,TV.enc,Zc.encE,hU.enc_cells,D.cells]
  |fnc=>cases x<;>rfl
  |_=>rfl
 |fn f a b=>simp only[TV.cells,TV.encs,TV.enc,ZjH]
 |_=>rfl
theorem Zhh {d:TV U} {q:Id×Nat}:(∃c∈d.cells,q∈c.fulls)→q∈d.fulls:=by
 rintro⟨c,hc,hq⟩;cases d with
 |agg cs=>exact Zs.2 ⟨c,hc,hq⟩
 |v t x=>
  cases t<;>simp only[TV.cells,ZmI,Znc]at hc
  case st n=>obtain⟨l,_,rfl⟩:=hc;simp[lv,TV.fulls]at hq
  all_goals (subst hc;simpa using hq)
 |_=>simp only[TV.cells,ZmI]at hc;subst hc;exact hq
def TV.okv:TV U→Bool
 | .dead | .undef | .tup _=>false
 |_=>true
theorem Zfo {d:TV U} (h:d.okv=true):d.enc.okv=true:=by
 cases d with
 |agg cs=>rw[TV.enc];unfold D.mkAgg;cases Zm D.pure? (TV.encs cs)<;>rfl
 |fn f a b=>rw[TV.enc];unfold fnD;cases Zm D.pure? (TV.encs a)<;>cases Zm D.pure? (TV.encs b)<;>rfl
 |dead=>simp[TV.okv]at h
 |undef=>simp[TV.okv]at h
 |tup _=>simp[TV.okv]at h
 |_=>rfl
def TS.lf1 (T:TS U):TV U→Option (Lf U.car)
 | .v t x=>some ⟨t,x⟩
 | .nils t=>some ⟨.sl t,[]⟩
 | .clip t xs=>some ⟨.sl t,xs⟩
 | .nilfn=>some ⟨.fnc,none⟩
 | .fn f [] []=>some ⟨.fnc,some f⟩
 | .full id _=>match T.objs id with
  |some (.arr t xs _)=>some ⟨.sl t,xs⟩
  |_=>none
 | .sl id off len=>match T.objs id with
  |some (.arr t xs _)=>some ⟨.sl t,(xs.drop off).take len⟩
  |_=>none
 | .map id=>match T.objs id with
  |some (.map k v kv)=>some ⟨.map k v,kv⟩
  |_=>none
 |_=>none
def TS.lf (T:TS U) (h:Option Nat):TV U→Option (Lf U.car)
 | .agg cs=>match h,Zm T.lf1 cs with
  |some n,some ls=>match U.of n ls with
   |some x=>some ⟨.st n,x⟩
   |none=>none
  |_,_=>none
 |d=>T.lf1 d
theorem ZcI {T:TS U} {d:TV U} {l:Lf U.car} (hi:d.inv T.objs) (h:T.lf1 d=some l) (m:Nat):d.enc.toP T.enc.objs m=some (U.encL l):=by
 unfold TS.lf1 at h;split at h
 ·cases h;simp[TV.enc,Zc.encL]
 ·cases h;simp[TV.enc,Zc.encL,Zc.encE]
 ·cases h;simp[TV.enc,Zc.encL,Zc.encE]
 ·cases h;simp[TV.enc,Zc.encL,Zc.encE,ZjM]
 ·cases h;simp[TV.enc,TV.encs,fnD,Zm,Zc.encL,Zc.encE,ZjM]
 ·rename_i id n;split at h;rotate_left;simp at h;rename_i t xs fix ho;cases h;obtain⟨o,h1,h2⟩:=hi (id,n) (by simp[TV.fulls]);dsimp only at h1 h2;rw[ho,ZmR]at h1;subst h1;have hl:=h2 t xs fix rfl;simp only[TV.enc,Zbh,TS.enc,ho,Zik,TO.enc,Zc.encL,Zc.encE,←hl,dt_map]
 ·rename_i id off len;split at h;rotate_left;simp at h;rename_i t xs fix ho;cases h;simp only[TV.enc,Zbh,TS.enc,ho,Zik,TO.enc,Zc.encL,Zc.encE,Znu,Znr]
 ·rename_i id;split at h;rotate_left;simp at h;rename_i k v kv ho;cases h;simp only[TV.enc,Zbi,TS.enc,ho,Zik,TO.enc,Zc.encL,Zc.encE]
 ·simp at h
theorem Zi8 (lk:Id→Option Obj) (m:Nat) (ds:List D):(D.mkAgg ds).toP lk (m+1)=(Zm (D.toP lk m) ds).map .agg:=by
 unfold D.mkAgg;split
 ·rename_i ps h;rw[Zi7,Zu h];have:Zm (D.toP lk m) (ps.map .p)=some ps:=by
   clear h
   induction ps with
   |nil=>rfl
   |cons x r ih=>simp only[ZmD,Zm,Zi7,ih]
  rw[this];rfl
 ·rfl
theorem Zcg {T:TS U} (m:Nat):∀{cs:List (TV U)} {ls:List (Lf U.car)},(∀d∈cs,d.inv T.objs)→Zm T.lf1 cs=some ls→Zm (D.toP T.enc.objs m) (TV.encs cs)=some (ls.map U.encL)
 | [],ls,_,h=>by simp[Zm]at h;subst h;rfl
 |d::r,ls,hi,h=>by simp only[Zm]at h;split at h;rotate_left;simp at h;rename_i l ls' h1 h2;cases h;simp only[TV.encs,Zm,ZcI (hi d (by simp)) h1 m,Zcg m (fun x hx=>hi x (by simp[hx])) h2,ZmD]
theorem Zho {lk:Id→Option (TO U)} {cs:List (TV U)} (h:(TV.agg cs).inv lk):∀d∈cs,d.inv lk:=fun d hd q hq=>h q (Zs.2 ⟨d,hd,hq⟩)
theorem ZeR (hU:UOk U) {T:TS U} {hn:Option Nat} {d:TV U} {l:Lf U.car} (hi:d.inv T.objs) (h:T.lf hn d=some l) (m:Nat):d.enc.toP T.enc.objs (m+1)=some (U.encL l):=by
 cases d with
 |agg cs=>
  simp only[TS.lf]at h;split at h;rotate_left;simp at h;rename_i n ls hls;split at h;rotate_left;simp at h;rename_i x hx;cases h;rw[TV.enc,Zi8,Zcg m (Zho hi) hls];simp only[Zny,Zc.encL,Zc.encE,hU.enc_cells,hU.of_cells _ _ _ hx]
 |_=>exact ZcI hi h _
structure Zh (U:Zc) where
 val:TV U
 new:List (Nat×TO U):=[]
 wr:List (Id×TO U):=[]
 frz:List Id:=[]
def Zh.enc (e:Zh U) (cs:List Bool):Eff:=
 {val:=e.val.enc,new:=e.new.map fun x=>(x.1,x.2.enc),wr:=e.wr.map fun x=>(x.1,x.2.enc),frz:=e.frz,cond:=cs}
def TS.objL (T:TS U):List (Id×TO U)→TS U
 | []=>T
 |(id,o)::r=>TS.objL {T with objs:=upd T.objs id (some o)} r
def TS.freezeL (T:TS U) (l:List Id):TS U:={T with fz:=fun id=>l.contains id||T.fz id}
def TS.setO (T:TS U):Option Nat→TV U→TS U
 |some t,d=>{T with slots:=upd T.slots t d}
 |none,_=>T
def TS.app (T:TS U) (i:Nat) (dst:Option Nat) (e:Zh U):TS U:=
 (((T.objL e.wr).objL (e.new.map fun x=>((T.ep,i,x.1),x.2))).freezeL e.frz).setO dst e.val
def TS.next (T:TS U):TS U:={T with ep:=T.ep+1}
theorem ZfP {a b:St} (h1:a.slots=b.slots) (h2:a.objs=b.objs) (h3:a.fz=b.fz) (h4:a.ep=b.ep):a=b:=by cases a;cases b;simp_all
theorem objL_enc:∀(l:List (Id×TO U)) (T:TS U),(T.objL l).enc=T.enc.objL (l.map fun x=>(x.1,x.2.enc))
 | [],T=>rfl
 |(id,o)::r,T=>by simp only[TS.objL,ZmD,St.objL];rw[objL_enc r];congr 1;refine ZfP rfl ?_ rfl rfl;funext x;simp only[TS.enc,St.obj,upd];split<;>rfl
theorem freezeL_enc (l:List Id) (T:TS U):(T.freezeL l).enc=T.enc.freezeL l:=by
 refine ZfP ?_ ?_ ?_ ?_
 ·simp[TS.freezeL,TS.enc]
 ·simp[TS.freezeL,TS.enc]
 ·funext id;rw[Eng.freezeL_fz];rfl
 ·simp[TS.freezeL,TS.enc]
theorem Zko (T:TS U) (dst:Option Nat) (d:TV U):(T.setO dst d).enc=T.enc.setO dst d.enc:=by
 cases dst with
 |none=>rfl
 |some t=>
  refine ZfP ?_ rfl rfl rfl;funext x;simp only[TS.setO,TS.enc,St.setO,St.set,upd];split<;>rfl
theorem Zbb (T:TS U) (i:Nat) (dst:Option Nat) (e:Zh U) (cs:List Bool):(T.app i dst e).enc=T.enc.app i dst (e.enc cs):=by simp only[TS.app,St.app,Zko,Eng.freezeL_enc,Eng.objL_enc,Zh.enc,Zns];rfl
def ZdK (o:Option (TO U)) (o':TO U):Prop:=∀t xs fix,o'= .arr t xs fix→∃t' xs' fix',o=some (.arr t' xs' fix')∧xs.length=xs'.length
def fresh (T:TS U) (i:Nat) (e:Zh U):Bool:=e.new.all fun x=>(T.objs (T.ep,i,x.1)).isNone
theorem ZaR:∀(l:List (Id×TO U)) (T:TS U) (id:Id) (o:TO U),(T.objL l).objs id=some o→(id,o)∈l∨((∀o',(id,o')∉l)∧T.objs id=some o)
 | [],T,id,o,h=> .inr ⟨by simp,h⟩
 |(a,u)::r,T,id,o,h=>by
  simp only[TS.objL]at h;rcases ZaR r _ id o h with h |⟨h1,h2⟩
  ·exact .inl (Zna _ h)
  ·simp only[upd]at h2;split at h2
   ·rename_i he;simp only[ZmR]at h2;subst he h2;exact .inl ZmG
   ·rename_i he;exact .inr ⟨fun o' hm=>by rcases ZmF.1 hm with hm |hm;(·simp only[ZmS]at hm;exact he hm.1);exact h1 o' hm,h2⟩
theorem ZdB:∀(l:List (Id×TO U)) (T:TS U) (id:Id),(T.objs id).isSome=true→((T.objL l).objs id).isSome=true
 | [],T,id,h=>h
 |(a,u)::r,T,id,h=>by
  refine ZdB r _ id ?_;simp only[upd];split
  ·rfl
  ·exact h
def lkA (T:TS U) (i:Nat) (e:Zh U):Id→Option (TO U):=((T.objL e.wr).objL (e.new.map fun x=>((T.ep,i,x.1),x.2))).objs
theorem Ze9 (T:TS U) (i:Nat) (dst:Option Nat) (e:Zh U):(T.app i dst e).objs=lkA T i e:=by cases dst<;>rfl
theorem ZjC {T:TS U} {i:Nat} {e:Zh U} (hf:fresh T i e=true) (hw:∀id o,(id,o)∈e.wr→ZdK (T.objs id) o) {q:Id×Nat} (h:Zis T.objs q):Zis (lkA T i e) q:=by
 obtain⟨o,ho,hl⟩:=h;have hs:((T.objL e.wr).objs q.1).isSome=true:=ZdB _ _ _ (by rw[ho];rfl);have hs':=ZdB (e.new.map fun x=>((T.ep,i,x.1),x.2)) _ _ hs;obtain⟨o',ho'⟩:=Option.isSome_iff_exists.1 hs';refine⟨o',ho',fun t xs fix he=> ?_⟩;subst he;rcases ZaR _ _ _ _ ho' with hm |⟨_,h2⟩
 ·obtain⟨x,hx,he⟩:=Znc.1 hm;have:=ZmX.1 hf x hx;simp only[ZmS]at he;rw[he.1,ho]at this;simp at this
 ·rcases ZaR _ _ _ _ h2 with hm |⟨_,h3⟩
  ·obtain⟨t',xs',fix',h4,h5⟩:=hw _ _ hm t xs fix rfl;rw[ho,ZmR]at h4;rw[h5];exact hl _ _ _ h4
  ·rw[ho,ZmR]at h3;exact hl _ _ _ h3
structure ZJ (T:TS U) (i:Nat) (e:Zh U):Prop where
 wr:∀id o,(id,o)∈e.wr→ZdK (T.objs id) o
 val:fresh T i e=true→e.val.inv (lkA T i e)
 objs:fresh T i e=true→∀o,((∃k,(k,o)∈e.new)∨∃id,(id,o)∈e.wr)→o.inv (lkA T i e)
theorem TV.inv_old {T:TS U} {i:Nat} {e:Zh U} (hf:fresh T i e=true) (hw:∀id o,(id,o)∈e.wr→ZdK (T.objs id) o) {d:TV U} (h:d.inv T.objs):d.inv (lkA T i e):=
 fun q hq=>ZjC hf hw (h q hq)
theorem TS.Inv.app {T:TS U} (h:T.Inv) {i:Nat} {dst:Option Nat} {e:Zh U} (hf:fresh T i e=true) (he:ZJ T i e):(T.app i dst e).Inv:=by
 constructor
 ·intro k;rw[Ze9];have:(T.app i dst e).slots k=e.val∨(T.app i dst e).slots k=T.slots k:=by
   have h1:∀(l:List (Id×TO U)) (T:TS U),(T.objL l).slots=T.slots:=by
    intro l
    induction l with
    |nil=>intro T;rfl
    |cons x r ih=>intro T;simp only[TS.objL];rw[ih]
   cases dst with
   |none=>right;simp only[TS.app,TS.setO,TS.freezeL,h1]
   |some t=>
    simp only[TS.app,TS.setO,TS.freezeL,h1,upd];split
    ·exact .inl rfl
    ·exact .inr rfl
  rcases this with h1 |h1
  ·rw[h1];exact he.val hf
  ·rw[h1];exact TV.inv_old hf he.wr (h.slots k)
 ·intro id o ho;rw[Ze9]at ho⊢
  rcases ZaR _ _ _ _ ho with hm |⟨_,h2⟩
  ·obtain⟨x,hx,hq⟩:=Znc.1 hm;simp only[ZmS]at hq;obtain⟨_,rfl⟩:=hq;exact he.objs hf _ (.inl ⟨x.1,hx⟩)
  ·rcases ZaR _ _ _ _ h2 with hm |⟨_,h3⟩
   ·exact he.objs hf _ (.inr ⟨id,hm⟩)
   ·have:=h.objs id o h3;cases o with
    |box cs=>exact fun d hd=>TV.inv_old hf he.wr (this d hd)
    |_=>trivial
theorem TS.Inv.next {T:TS U} (h:T.Inv):T.next.Inv:=⟨h.slots,h.objs⟩
theorem ZJ.pure {T:TS U} {i:Nat} {d:TV U} {frz:List Id} (h:d.inv T.objs):ZJ T i {val:=d,frz:=frz}:=
 ⟨by simp,fun _=>h,by simp⟩
end
end Eng
namespace Eng
open Go
section
variable {U:Zc} {R:Type}
def chkL:List Bool→Option R→Option R
 | [],k=>k
 |b::r,k=>chk b (chkL r k)
def Lf.as {car:Nat→Type} (l:Lf car) (t:Ty):Option (El car t):=if h:l.t=t then some (h▸l.x)else none
def ZlY:P→Option (TV U)
 | .bool b=>some (.v .bool b)
 | .int k n=>some (.v (.int k) n)
 | .str s=>some (.v .str s)
 |_=>none
def Ziv:TV U→Option P
 | .v .bool b=>some (.bool b)
 | .v (.int k) n=>some (.int k n)
 | .v .str s=>some (.str s)
 |_=>none
def aggP:TV U→Option (List P)
 | .v (.st n) x=>some ((U.cells n x).map U.encL)
 | .agg cs=>match Zm TV.leaf? cs with
  |some ls=>some (ls.map U.encL)
  |none=>none
 |_=>none
def Zcy (ep i:Nat):Nat→List (TV U)→List (TV U)
 |_,[]=>[]
 |k,.nils _::r=> .full (ep,i,k) 0::Zcy ep i (k+1) r
 |k,d::r=>d::Zcy ep i (k+1) r
def ZF:Nat→List (TV U)→List (Nat×TO U)
 |_,[]=>[]
 |k,.nils t::r=>(k,.arr t [] false)::ZF (k+1) r
 |k,_::r=>ZF (k+1) r
def Zc9 (e:TT U) (cs:List (TV U)):Option (TV U):=
 if e.n.isSome then (if e.ti.size≤cs.length then some (ZdE e.n (cs.take e.ti.size))else none)
 else cs.head?
def ZdW (X:ZG U) (sl:Nat→TV U) (e:TT U):List (Nat×Operand)→List (TV U)→Option (List (TV U))
 | [],cs=>some cs
 |(i,x)::r,cs=>match e.ti.part X.E i with
  |some (off,t)=>match X.get t,evT X sl t x with
   |some tp,some d=>if d.cells.length=tp.ti.size∧off+d.cells.length≤cs.length∧d.okv=true then ZdW X sl e r (ZP cs off d.cells)else none
   |_,_=>none
  |none=>none
def ZaT (X:ZG U) (T:TS U) (t:Nat) (e:TT U) (n:Nat):List (Nat×Operand)→List (El U.car e.ty)→Option (List (El U.car e.ty))
 | [],es=>some es
 |(i,x)::r,es=>match evT X T.slots t x with
  |some d=>match T.lf e.n d with
   |some l=>match l.as e.ty with
    |some y=>if U.tsize e.ty=e.ti.size∧i < n then ZaT X T t e n r (es.set i y)else none
    |none=>none
   |none=>none
  |none=>none
def intT (X:ZG U) (sl:Nat→TV U):Option Operand→Option (Option Int)
 |none=>some none
 |some x=>match evT X sl 0 x with
  |some (.v (.int _) n)=>some (some n)
  |_=>none
def ZiZ (n b:Nat):Bool:=decide (n*max b 1≤ZO)
def Zb9 (lo hi n:Int):Bool:=decide (0≤lo∧lo≤hi∧hi≤n)
def Zmc (T:TS U) (x:TV U) (t:Ty):Option (List (El U.car t)):=
 match x with
 | .v .str s=>match t with
  | .int .u8=>some (s.map fun b=>((b.toNat:Nat):Int))
  |_=>none
 |x=>match T.lf1 x with
  |some l=>match l.as (.sl t)with
   |some ys=>some ys
   |none=>none
  |none=>none
def Zjt (X:ZG U) (T:TS U) (ty:Nat) (x:Operand) (k:Zh U→Option R):Option R:=
 match evT X T.slots ty x with
 |some d=>k {val:=d}
 |none=>none
def Zfm (X:ZG U) (T:TS U) (i ty:Nat) (x:Operand) (k:Zh U→Option R):Option R:=
 match evT X T.slots ty x with
 |some (.nils t)=>k {val:= .full (T.ep,i,0) 0,new:=[(0,.arr t [] false)]}
 |some d=>k {val:=d}
 |none=>none
def Zjr (X:ZG U) (T:TS U) (ty:Nat) (c a b:Operand) (k:Zh U→Option R):Option R:=
 match evT X T.slots ty c,evT X T.slots ty a,evT X T.slots ty b with
 |some (.v .bool x),some u,some v=>bif x then k {val:=u}else k {val:=v}
 |_,_,_=>none
def ZeZ (T:TS U) (i:Nat) (ds:List (TV U)):Zh U:={val:= .ptr (T.ep,i,0) 0 0,new:=(0,.box (Zcy T.ep i 1 ds))::ZF 1 ds}
def ZgZ (X:ZG U) (T:TS U) (i t:Nat) (k:Zh U→Option R):Option R:=
 match X.get t with
 |some e=>k (ZeZ T i e.zero)
 |none=>none
def ZlB (X:ZG U) (T:TS U) (i t:Nat) (x:Operand) (k:Zh U→Option R):Option R:=
 match X.get t,evT X T.slots t x with
 |some e,some d=>if d.cells.length=e.ti.size∧d.okv=true then k (ZeZ T i d.cells)else none
 |_,_=>none
def ZgY (X:ZG U) (T:TS U) (t:Nat) (parts:List (Nat×Operand)) (k:Zh U→Option R):Option R:=
 match X.get t with
 |some e=>if e.n.isSome then match ZdW X T.slots e parts e.zero with
  |some cs=>k {val:=ZdE e.n cs}
  |none=>none
  else none
 |none=>none
def Zbn (X:ZG U) (T:TS U) (i t n:Nat) (parts:List (Nat×Operand)) (k:Zh U→Option R):Option R:=
 match X.get t with
 |some e0=>match e0.ti.d with
  | .sl u=>match X.get u with
   |some e=>match e.zl with
    |some z=>match z.as e.ty with
     |some z=>match ZaT X T u e n parts (List.replicate n z)with
      |some es=>if n*e.ti.size≤16777216∧n≤16777216∧U.tsize e.ty=e.ti.size then
        k {val:= .full (T.ep,i,0) n,new:=[(0,.arr e.ty es false)],frz:=ZcN X.E T.enc.slots T.enc.objs u parts}else none
      |none=>none
     |none=>none
    |none=>none
   |none=>none
  |_=>none
 |none=>none
def Zju (X:ZG U) (T:TS U) (t:Nat) (a:Operand) (k:Zh U→Option R):Option R:=
 match X.get t,evT X T.slots 0 a with
 |some e,some (.pp cs)=>match Zc9 e (cs.map lv)with
  |some d=>k {val:=d}
  |none=>none
 |some e,some (.ptr id i j)=>match T.objs id with
  |some (.box cs)=>if i=0 then match Zc9 e (cs.drop j)with
   |some d=>k {val:=d}
   |none=>none
   else none
  |some (.arr u xs _)=>(xs[i]?).bind fun x=>match Zc9 e (((U.cellsE u x).drop j).map lv)with
   |some d=>k {val:=d}
   |none=>none
  |_=>none
 |_,_=>none
def ZgS (X:ZG U) (T:TS U) (ix t:Nat) (a x:Operand) (k:Zh U→Option R):Option R:=
 match X.get t,evT X T.slots 0 a,evT X T.slots t x with
 |some e,some (.ptr id i j),some d=>match T.objs id with
  |some (.box cs)=>if i=0∧d.cells.length=e.ti.size∧j+d.cells.length≤cs.length∧d.okv=true then
    k {val:= .undef,new:=ZF 0 d.cells,wr:=[(id,.box (ZP cs j (Zcy T.ep ix 0 d.cells)))]}else none
  |some (.arr u xs fix)=>match T.lf e.n d with
   |some l=>if U.tsize l.t=e.ti.size∧j+e.ti.size≤U.tsize u∧0 < e.ti.size then
     (if j=0∧U.tsize l.t=U.tsize u then match l.as u with
      |some y=>k {val:= .undef,wr:=[(id,.arr u (xs.set i y) fix)],frz:=d.enc.ids T.enc.objs depth}
      |none=>none
     else (xs[i]?).bind fun z=>match U.ofE u (ZP (U.cellsE u z) j (U.cellsE l.t l.x))with
      |some y=>k {val:= .undef,wr:=[(id,.arr u (xs.set i y) fix)],frz:=d.enc.ids T.enc.objs depth}
      |none=>none)else none
   |none=>none
  |_=>none
 |_,_,_=>none
def ZcF (X:ZG U) (T:TS U) (x:Operand) (k:Zh U→Option R):Option R:=
 match evT X T.slots 0 x with
 |some (.pp cs)=>k {val:= .pp cs}
 |some (.ptr id i j)=>k {val:= .ptr id i j}
 |some (.fn f a b)=>k {val:= .fn f a b}
 |_=>none
def opNil (X:ZG U) (T:TS U) (b:BinOp) (t:Nat) (x y:Operand) (k:Zh U→Option R):Option R:=
 match X.get t,evT X T.slots 0 x with
 |some e,some (.v .fnc z)=>match e.ti.d,y,b with
  | .func,.const .nilFunc,.eql=>k {val:= .v .bool (Option.isNone z)}
  | .func,.const .nilFunc,.neq=>k {val:= .v .bool (!Option.isNone z)}
  |_,_,_=>none
 |some e,some d=>match Zc1 e.ti.d y d.enc with
  |some (.p (.bool z))=>match b with
   | .eql=>k {val:= .v .bool z}
   | .neq=>k {val:= .v .bool (!z)}
   |_=>none
  |_=>none
 |_,_=>none
def ZlC (X:ZG U) (T:TS U) (b:BinOp) (t:Nat) (x y:Operand) (k:Zh U→Option R):Option R:=
 if Operand.isNil y then opNil X T b t x y k else
 match evT X T.slots 0 x,evT X T.slots 0 y with
 |some (.v .bool u),some (.v .bool v)=>match X.get t,Zj0 b u v with
  |some e,some z=>match e.ti.d,ZlY (U:=U) z with
   | .bool,some d=>k {val:=d}
   |_,_=>none
  |_,_=>none
 |some d,some d'=>match aggP d,aggP d' with
  |some u,some v=>match Zl9 X.E b t u v with
   |some z=>match ZlY z with
    |some d=>k {val:=d}
    |none=>none
   |none=>none
  |_,_=>match Ziv d,Ziv d' with
   |some u,some v=>match Zl3 b u v with
    |some (z,c)=>match ZlY z with
     |some d=>chkL c (k {val:=d})
     |none=>none
    |none=>none
   |_,_=>none
 |_,_=>none
def opUn (X:ZG U) (T:TS U) (u:UnOp) (x:Operand) (k:Zh U→Option R):Option R:=
 match evT X T.slots 0 x with
 |some d=>match Ziv d with
  |some v=>match unop u v with
   |some (z,c)=>match ZlY z with
    |some d=>chkL c (k {val:=d})
    |none=>none
   |none=>none
  |none=>none
 |none=>none
def ZdA (X:ZG U) (T:TS U) (i s t:Nat) (x:Operand) (k:Zh U→Option R):Option R:=
 match X.get s,X.get t,evT X T.slots 0 x with
 |some es,some et,some d=>match es.ti.d,et.ti.d,d with
  | .int _,.int k',.v (.int _) n=>k {val:= .v (.int k') (k'.wrap n)}
  | .str,.str,.v .str s=>k {val:= .v .str s}
  | .str,.sl u,.v .str s=>match X.get u with
   |some eu=>match eu.ti.d with
    | .int .u8=>chk (decide (s.length≤281474976710656)) (k {val:= .full (T.ep,i,0) s.length,new:=[(0,.arr (.int .u8) (s.map fun b=>((b.toNat:Nat):Int)) false)]})
    |_=>none
   |none=>none
  | .sl u,.str,d=>match X.get u,T.lf1 d with
   |some eu,some l=>match eu.ti.d,l.as (.sl (.int .u8))with
    | .int .u8,some xs=>k {val:= .v .str (xs.map fun n=>UInt8.ofNat n.toNat)}
    |_,_=>none
   |_,_=>none
  |_,_,_=>none
 |_,_,_=>none
def Zlb (X:ZG U) (sl:Nat→TV U) (xs:List Operand):Option (List (TV U)):=Zm (evT X sl 0) xs
def ZcG (X:ZG U) (T:TS U) (f:Nat) (first caps:List Operand) (k:Zh U→Option R):Option R:=
 match Zlb X T.slots first,Zlb X T.slots caps with
 |some a,some b=>k {val:= .fn f a b}
 |_,_=>none
def Zdy (X:ZG U) (T:TS U) (i t:Nat) (k:Zh U→Option R):Option R:=
 match X.get t with
 |some e=>match e.ty with
  | .map kt vt=>k {val:= .map (T.ep,i,0),new:=[(0,.map kt vt [])]}
  |_=>none
 |none=>none
def ZbX (X:ZG U) (T:TS U) (i t:Nat) (l c:Operand) (k:Zh U→Option R):Option R:=
 match X.elem t,evT X T.slots 0 l,evT X T.slots 0 c with
 |some e,some (.v (.int _) a),some (.v (.int _) b)=>match e.zl with
  |some z=>match z.as e.ty with
   |some z=>if U.tsize e.ty=e.ti.size then chk (decide (0≤a∧a≤b∧b*e.ti.bytes≤ZO∧b≤ZO)) (k {val:= .full (T.ep,i,0) a.toNat,new:=[(0,.arr e.ty (List.replicate a.toNat z) false)]})else none
   |none=>none
  |none=>none
 |_,_,_=>none
def cut {α:Type} (xs:List α):Option Int→Option Int→List α
 |none,none=>xs
 |none,some h=>xs.take h.toNat
 |some l,none=>xs.drop l.toNat
 |some l,some h=>(xs.take h.toNat).drop l.toNat
def Zhy (T:TS U) (sz:Option Nat) (d:TV U) (lo hi mx:Option Int) (k:Zh U→Option R):Option R:=
 match sz,d with
 |none,.v .str s=>match mx with
  |none=>chk (Zb9 (lo.getD 0) (hi.getD s.length) s.length) (k {val:= .v .str (cut s lo hi)})
  |some _=>none
 |some sz,.v (.sl t) xs=>if sz=U.tsize t then match mx,hi with
  |none,_=>chk (Zb9 (lo.getD 0) (hi.getD xs.length) xs.length) (k {val:= .v (.sl t) (cut xs lo hi)})
  |some m,some h=>chk (decide (0≤lo.getD 0∧lo.getD 0≤h∧h≤xs.length∧m=h)) (k {val:= .clip t (cut xs lo hi)})
  |_,_=>none
  else none
 |some sz,.full id n=>match T.objs id with
  |some (.arr t xs _)=>if sz=U.tsize t then match mx with
   |none=>chk (Zb9 (lo.getD 0) (hi.getD xs.length) xs.length) (match lo,hi with
    |none,none=>k {val:= .full id n}
    |lo,hi=>k {val:= .sl id (lo.getD 0).toNat ((hi.getD xs.length).toNat - (lo.getD 0).toNat)})
   |some m=>match hi with
    |some h=>chk (decide (0≤lo.getD 0∧lo.getD 0≤h∧h≤xs.length∧m=h)) (k {val:= .clip t (cut xs lo hi),frz:=[id]})
    |none=>none
   else none
  |_=>none
 |some sz,.sl id off len=>match T.objs id with
  |some (.arr t xs _)=>if sz=U.tsize t then match mx with
   |none=>chk (Zb9 (lo.getD 0) (hi.getD len) len) (k {val:= .sl id (off+(lo.getD 0).toNat) ((hi.getD len).toNat - (lo.getD 0).toNat)})
   |some _=>none
   else none
  |_=>none
 |some _,.nils t=>match mx with
  |none=>chk (decide (lo.getD 0=0∧hi.getD 0=0)) (k {val:= .nils t})
  |some _=>none
 |_,_=>none
def ZgT (X:ZG U) (T:TS U) (t:Nat) (x:Operand) (lo hi mx:Option Operand) (k:Zh U→Option R):Option R:=
 match X.get t,evT X T.slots 0 x,intT X T.slots lo,intT X T.slots hi,intT X T.slots mx with
 |some e,some d,some a,some b,some c=>match e.ti.d with
  | .str=>Zhy T none d a b c k
  | .sl u=>match X.get u with
   |some eu=>Zhy T (some eu.ti.size) d a b c k
   |none=>none
  |_=>none
 |_,_,_,_,_=>none
def ZbZ (X:ZG U) (T:TS U) (t:Nat) (x:Operand) (f:Nat) (k:Zh U→Option R):Option R:=
 match X.get t,evT X T.slots 0 x with
 |some e,some d=>match e.ti.d with
  | .struct fs=>match fs[f]? with
   |some (off,ft)=>match X.get ft with
    |some tf=>if tf.ti.size=0 then none else match d with
     | .pp cs=>k {val:= .pp (cs.drop off)}
     | .ptr id i j=>k {val:= .ptr id i (j+off)}
     |_=>none
    |none=>none
   |none=>none
  |_=>none
 |_,_=>none
def ZgW (X:ZG U) (T:TS U) (t:Nat) (x:Operand) (f:Nat) (k:Zh U→Option R):Option R:=
 match X.get t,evT X T.slots 0 x with
 |some e,some d=>match e.ti.d with
  | .struct fs=>match fs[f]? with
   |some (off,ft)=>match X.get ft with
    |some tf=>if tf.ti.size=0 then none else match d with
     | .v (.st n) x=>match Zc9 tf (((U.cells n x).drop off).map lv)with
      |some y=>k {val:=y}
      |none=>none
     | .agg cs=>match Zc9 tf (cs.drop off)with
      |some y=>k {val:=y}
      |none=>none
     |_=>none
    |none=>none
   |none=>none
  |_=>none
 |_,_=>none
def tabB {car:Nat→Type} (t:Ty) (cs:List (Lf car)) (n:Nat):Option (El car t):=match cs[n]? with
 |some l=>l.as t
 |none=>none
def tabK (cs:List (Lf U.car)):List Ty→Nat→(List (Lf U.car)→Option R)→Option R
 | [],_,k=>k []
 |t::r,n,k=>(tabB t cs n).bind fun x=>tabK cs r (n+1) fun ls=>k (⟨t,x⟩::ls)
def ZbY (X:ZG U) (T:TS U) (t:Nat) (x ix:Operand) (k:Zh U→Option R):Option R:=
 match X.get t,evT X T.slots 0 x,evT X T.slots 0 ix with
 |some e,some d,some (.v (.int _) n)=>match e.ti.d with
  | .sl u=>match X.get u with
   |some eu=>match d with
    | .v (.sl t') xs=>if U.tsize t'=eu.ti.size then (idx xs n).bind fun y=>k {val:= .pp (U.cellsE t' y)}else none
    | .full id m=>match T.objs id with
     |some (.arr t' xs _)=>if U.tsize t'=eu.ti.size then chk (decide (0≤n∧n < xs.length)) (k {val:= .ptr id n.toNat 0})else none
     |_=>none
    | .sl id off len=>match T.objs id with
     |some (.arr t' xs _)=>if U.tsize t'=eu.ti.size then chk (decide (0≤n∧n < len)) (k {val:= .ptr id (off+n.toNat) 0})else none
     |_=>none
    |_=>none
   |none=>none
  | .arr m u=>match X.get u with
   |some eu=>match d with
    | .pp cs=>chk (decide (0≤n∧n < m)) (bif Nat.blt 8 m then match eu.zl with
      |some z=>tabK cs ((U.cellsE z.t z.x).map (·.t)) (n.toNat*eu.ti.size) fun ls=>k {val:= .pp (ls++cs.drop (n.toNat*eu.ti.size+ls.length))}
      |none=>none
     else k {val:= .pp (cs.drop (n.toNat*eu.ti.size))})
    | .ptr id i j=>chk (decide (0≤n∧n < m)) (k {val:= .ptr id i (j+n.toNat*eu.ti.size)})
    |_=>none
   |none=>none
  |_=>none
 |_,_,_=>none
def ZgV (X:ZG U) (T:TS U) (t:Nat) (x ix:Operand) (k:Zh U→Option R):Option R:=
 match X.get t,evT X T.slots 0 x,evT X T.slots 0 ix with
 |some e,some (.v .str s),some (.v (.int _) n)=>match e.ti.d with
  | .str=>(idx s n).bind fun c=>k {val:= .v (.int .u8) ((c.toNat:Nat):Int)}
  |_=>none
 |_,_,_=>none
def ZlP {car:Nat→Type}:(k:Ty)→El car k→El car k→Bool
 | .bool,a,b=>a == b
 | .int _,a,b=>a == b
 | .str,a,b=>a == b
 |_,_,_=>false
def Ty.isKey:Ty→Bool
 | .bool | .int _ | .str=>true
 |_=>false
def Zg3 {car:Nat→Type} {k v:Ty} (kv:List (El car k×El car v)) (x:El car k):Option (El car v):=(kv.find? fun e=>ZlP k x e.1).map (·.2)
def setB {car:Nat→Type} {k v:Ty} (kv:List (El car k×El car v)) (x:El car k) (y:El car v):List (El car k×El car v):=
 if kv.any (fun e=>ZlP k x e.1)then kv.map fun e=>if ZlP k x e.1 then (e.1,y)else e else kv++[(x,y)]
def delB {car:Nat→Type} {k v:Ty} (kv:List (El car k×El car v)) (x:El car k):List (El car k×El car v):=kv.filter fun e=> !ZlP k x e.1
def mapT (T:TS U):TV U→Option (Lf U.car)
 | .v (.map k v) kv=>some ⟨.map k v,kv⟩
 | .map id=>match T.objs id with
  |some (.map k v kv)=>some ⟨.map k v,kv⟩
  |_=>none
 |_=>none
def Zfk (X:ZG U) (T:TS U) (t:Nat) (m k:Operand) (ok:Bool) (κ:Zh U→Option R):Option R:=
 match X.get t with
 |some e=>match e.ti.d,e.ty with
  | .map kt vt,.map a b=>match X.get vt,evT X T.slots 0 m,evT X T.slots kt k with
   |some ev,some dm,some dk=>match mapT T dm,T.lf1 dk,ev.zl with
    |some lm,some lk,some z=>match lm.as (.map a b),lk.as a,z.as b with
     |some kv,some key,some z=>if a.isKey=true∧(X.E.keyTD t).same a.td=true then (if ok then κ {val:= .tup [.v b ((Zg3 kv key).getD z),.v .bool (Zg3 kv key).isSome]}else κ {val:= .v b ((Zg3 kv key).getD z)})else none
     |_,_,_=>none
    |_,_,_=>none
   |_,_,_=>none
  |_,_=>none
 |none=>none
def Za2 (X:ZG U) (T:TS U) (t:Nat) (m k v:Operand) (κ:Zh U→Option R):Option R:=
 match X.get t with
 |some e=>match e.ti.d,e.ty with
  | .map kt vt,.map a b=>match X.get vt,evT X T.slots 0 m,evT X T.slots kt k,evT X T.slots vt v with
   |some ev,some (.map id),some dk,some dv=>match T.objs id,T.lf1 dk,T.lf ev.n dv with
    |some (.map a' b' kv),some lk,some lv=>match (Lf.mk (.map a' b') kv:Lf U.car).as (.map a b),lk.as a,lv.as b with
     |some kv,some key,some y=>if a.isKey=true∧(X.E.keyTD t).same a.td=true then κ {val:= .undef,wr:=[(id,.map a b (setB kv key y))],frz:=dv.enc.ids T.enc.objs depth}else none
     |_,_,_=>none
    |_,_,_=>none
   |_,_,_,_=>none
  |_,_=>none
 |none=>none
def ZgU (X:ZG U) (T:TS U) (i t:Nat) (x:Operand) (k:Zh U→Option R):Option R:=
 match X.get t,evT X T.slots 0 x with
 |some e,some (.v .str s)=>match e.ti.d with
  | .str=>k {val:= .it (T.ep,i,0),new:=[(0,.sit s 0)]}
  |_=>none
 |some e,some (.v (.map a b) kv)=>match e.ti.d with
  | .map _ _=>k {val:= .it (T.ep,i,0),new:=[(0,.mit a b kv none)]}
  |_=>none
 |some e,some (.map id)=>match e.ti.d,T.objs id with
  | .map _ _,some (.map a b kv)=>k {val:= .it (T.ep,i,0),new:=[(0,.mit a b kv none)],frz:=[id]}
  |_,_=>none
 |_,_=>none
def Zjs (X:ZG U) (T:TS U) (it:Operand) (k:Zh U→Option R):Option R:=
 match evT X T.slots 0 it with
 |some (.it id)=>match T.objs id with
  |some (.sit s pos)=>bif decide (pos < s.length)then
    k {val:= .tup [.v .bool true,.v (.int .i64) (pos:Int),.v (.int .i32) (Utf8.decode ⟨s.toArray⟩ pos).1],wr:=[(id,.sit s (pos+(Utf8.decode ⟨s.toArray⟩ pos).2))]}
   else k {val:= .tup [.v .bool false]}
  |_=>none
 |_=>none
def ZgX (X:ZG U) (T:TS U) (it:Operand) (k:Zh U→Option R):Option R:=
 match evT X T.slots 0 it with
 |some (.it id)=>match T.objs id with
  |some (.mit a b _ (some (x,y)))=>k {val:= .tup [.v a x,.v b y]}
  |_=>none
 |_=>none
def Zdz (X:ZG U) (T:TS U) (x:Operand) (ix:Nat) (k:Zh U→Option R):Option R:=
 match evT X T.slots 0 x with
 |some (.tup vs)=>match vs[ix]? with
  |some d=>k {val:=d}
  |none=>none
 |_=>none
def lenT (T:TS U):TV U→Option (Nat)
 | .v .str s=>some s.length
 | .v (.sl _) xs=>some xs.length
 | .clip _ xs=>some xs.length
 | .nils _=>some 0
 | .full id n=>match T.objs id with
  |some (.arr _ xs _)=>some xs.length
  |_=>none
 | .sl _ _ len=>some len
 |_=>none
def ZlA (X:ZG U) (T:TS U) (t:Nat) (x:Operand) (k:Zh U→Option R):Option R:=
 match X.get t,evT X T.slots t x with
 |some e,some d=>match e.ti.d with
  | .str=>match d with
   | .v .str s=>k {val:= .v (.int .i64) (s.length:Int)}
   |_=>none
  | .sl _=>match d with
   | .v (.sl _) xs=>k {val:= .v (.int .i64) (xs.length:Int)}
   | .clip _ xs=>k {val:= .v (.int .i64) (xs.length:Int)}
   | .nils _=>k {val:= .v (.int .i64) (0:Nat)}
   | .full id n=>match T.objs id with
    |some (.arr _ xs _)=>k {val:= .v (.int .i64) (xs.length:Int)}
    |_=>none
   | .sl _ _ len=>k {val:= .v (.int .i64) (len:Int)}
   |_=>none
  | .map _ _=>match mapT T d with
   |some ⟨.map _ _,kv⟩=>chk (decide (Znn kv≤Zq)) (k {val:= .v (.int .i64) (Znn kv:Int)})
   |_=>none
  | .arr n _=>chk (decide (n≤Zq)) (k {val:= .v (.int .i64) (n:Int)})
  |_=>none
 |_,_=>none
def Zki:TD→Bool
 | .sl _ | .str=>true
 |_=>false
def appX (T:TS U) (i:Nat) (e:TT U) (d:TV U) (ys:List (El U.car e.ty)) (k:Zh U→Option R):Option R:=
 match d with
 | .nils _=>chk (ZiZ ys.length e.ti.bytes) (k {val:= .full (T.ep,i,0) ys.length,new:=[(0,.arr e.ty ys false)]})
 | .clip t' xs=>match (Lf.mk (.sl t') xs:Lf U.car).as (.sl e.ty)with
  |some xs=>chk (decide (List.isEmpty ys=false)) (chk (ZiZ (Znn xs+ys.length) e.ti.bytes) (k {val:= .full (T.ep,i,0) (Znn xs+ys.length),new:=[(0,.arr e.ty (List.append xs ys) false)]}))
  |none=>none
 | .full id n=>match T.objs id with
  |some (.arr t' xs false)=>match (Lf.mk (.sl t') xs:Lf U.car).as (.sl e.ty)with
   |some xs=>chk (ZiZ (Znn xs+ys.length) e.ti.bytes) (k {val:= .full (T.ep,i,0) (Znn xs+ys.length),new:=[(0,.arr e.ty (List.append xs ys) false)],wr:=[(id,.gone)]})
   |none=>none
  |_=>none
 | .sl id 0 len=>match T.objs id with
  |some (.arr t' xs false)=>match (Lf.mk (.sl t') xs:Lf U.car).as (.sl e.ty)with
   |some xs=>chk (decide (len≤Znn xs)) (chk (ZiZ (len+ys.length) e.ti.bytes) (k {val:= .full (T.ep,i,0) (len+ys.length),new:=[(0,.arr e.ty (List.append (List.take len xs) ys) false)],wr:=[(id,.gone)]}))
   |none=>none
  |_=>none
 |_=>none
def Zfn (X:ZG U) (T:TS U) (i t u:Nat) (s x:Operand) (k:Zh U→Option R):Option R:=
 match X.elem t,X.get u,evT X T.slots t s,evT X T.slots u x with
 |some e,some eu,some d,some dx=>if U.tsize e.ty=e.ti.size then
   (if Zki eu.ti.d=true then match Zmc T dx e.ty with
    |some ys=>appX T i e d ys k
    |none=>none
   else match eu.ti.d,dx,e.zl with
    | .int _,.v (.int .i64) a,some z=>match z.as e.ty with
     |some z=>chk (decide (0≤a)) (appX T i e d (List.replicate a.toNat z) k)
     |none=>none
    |_,_,_=>none)
  else none
 |_,_,_,_=>none
def Zjv (X:ZG U) (T:TS U) (t u:Nat) (d s:Operand) (k:Zh U→Option R):Option R:=
 match X.elem t,evT X T.slots t d,evT X T.slots u s with
 |some e,some dd,some ds=>match dd with
  | .full id n=>match T.objs id with
   |some (.arr t' xs fix)=>match Zmc T ds t' with
    |some ys=>if U.tsize t'=e.ti.size then k {val:= .v (.int .i64) (min ys.length xs.length:Nat),wr:=[(id,.arr t' (ys.take xs.length++xs.drop ys.length) fix)]}else none
    |none=>none
   |_=>none
  | .sl id off len=>match T.objs id with
   |some (.arr t' xs fix)=>match Zmc T ds t' with
    |some ys=>if U.tsize t'=e.ti.size then chk (decide (off+len≤xs.length)) (k {val:= .v (.int .i64) (min ys.length len:Nat),wr:=[(id,.arr t' (ZP xs off (ys.take (min ys.length len))) fix)]})else none
    |none=>none
   |_=>none
  |_=>none
 |_,_,_=>none
def Zdc (X:ZG U) (sl:Nat→TV U):List Operand→List Nat→Option (List (TV U))
 | [],_=>some []
 |x::xs,[]=>match evT X sl 0 x,Zdc X sl xs []with
  |some d,some r=>some (d::r)
  |_,_=>none
 |x::xs,t::ts=>match evT X sl t x,Zdc X sl xs ts with
  |some d,some r=>some (d::r)
  |_,_=>none
def opMM (X:ZG U) (T:TS U) (mx:Bool) (args:List Operand) (ats:List Nat) (k:Zh U→Option R):Option R:=
 match Zdc X T.slots args ats with
 |some ds=>match (if mx then maxP (TV.encs ds)else minP (TV.encs ds))with
  |some z=>match ZlY z with
   |some d=>k {val:=d}
   |none=>none
  |none=>none
 |none=>none
def Zfl (X:ZG U) (T:TS U) (t u:Nat) (m k:Operand) (κ:Zh U→Option R):Option R:=
 match X.get t,evT X T.slots t m,evT X T.slots u k with
 |some e,some (.map id),some dk=>match e.ti.d,T.objs id,T.lf1 dk with
  | .map _ _,some (.map a b kv),some lk=>match lk.as a with
   |some key=>if a.isKey=true∧(X.E.keyTD t).same a.td=true then κ {val:= .undef,wr:=[(id,.map a b (delB kv key))]}else none
   |none=>none
  |_,_,_=>none
 |_,_,_=>none
def ZlZ (X:ZG U) (T:TS U) (i:Nat) (op:Op) (ty:Nat) (k:Zh U→Option R):Option R:=
 match op with
 | .move x=>Zjt X T ty x k
 | .assign x=>Zfm X T i ty x k
 | .pick c a b=>Zjr X T ty c a b k
 | .alloc t=>ZgZ X T i t k
 | .box t x=>ZlB X T i t x k
 | .build t parts=>ZgY X T t parts.toList k
 | .buildSlice t n parts=>Zbn X T i t n parts.toList k
 | .load t a=>Zju X T t a k
 | .store t a x=>ZgS X T i t a x k
 | .nilCheck x=>ZcF X T x k
 | .binOp b t x y _=>ZlC X T b t x y k
 | .unOp u _ x=>opUn X T u x k
 | .convert s t x=>ZdA X T i s t x k
 | .makeFunc (.func f) first caps=>ZcG X T f first.toList caps.toList k
 | .makeMap t none=>Zdy X T i t k
 | .makeSlice t l c=>ZbX X T i t l c k
 | .slice t x lo hi mx=>ZgT X T t x lo hi mx k
 | .fieldAddr t x f=>ZbZ X T t x f k
 | .field t x f=>ZgW X T t x f k
 | .indexAddr t x ix=>ZbY X T t x ix k
 | .index t x ix=>ZgV X T t x ix k
 | .lookup t m q ok=>Zfk X T t m q ok k
 | .mapUpdate t m q v=>Za2 X T t m q v k
 | .insert t m q v=>Za2 X T t m q v k
 | .range t x=>ZgU X T i t x k
 | .next it true=>Zjs X T it k
 | .entry it=>ZgX X T it k
 | .extract x ix=>Zdz X T x ix k
 | .call {callee:= .builtin b,args,argTypes}=>match b,args.toList,argTypes.toList with
  | .len,[x],[t]=>ZlA X T t x k
  | .append,[s,x],[t,u]=>Zfn X T i t u s x k
  | .copy,[d,s],[t,u]=>Zjv X T t u d s k
  | .max,xs,ts=>opMM X T true xs ts k
  | .min,xs,ts=>opMM X T false xs ts k
  | .delete,[m,q],[t,u]=>Zfl X T t u m q k
  |_,_,_=>none
 |_=>none
end
end Eng
namespace Eng
open Go
section
variable {U:Zc} {R:Type} {X:ZG U} {T:TS U} {i ty:Nat} {k:Zh U→Option R} {r:R}
def Snd (X:ZG U) (T:TS U) (i:Nat) (op:Op) (ty:Nat) (k:Zh U→Option R) (r:R):Prop:=
 ∃e cs,Zd X.E T.ep i op ty T.enc.slots T.enc.objs=some (e.enc cs)∧(∀q∈cs,q=true)∧ZJ T i e∧k e=some r
theorem Zd3:∀{cs:List Bool} {k:Option R},chkL cs k=some r→(∀q∈cs,q=true)∧k=some r
 | [],k,h=>⟨by simp,h⟩
 |b::cs,k,h=>by obtain⟨h1,h2⟩:=Zo h;obtain⟨h3,h4⟩:=Zd3 h2;exact⟨fun q hq=>by rcases ZmF.1 hq with rfl |hq;(·exact h1);exact h3 q hq,h4⟩
theorem ZE (hT:T.Inv) {t:Nat} {x:Operand} {d:TV U} (h:evT X T.slots t x=some d):d.inv T.objs:=by
 have nil:∀d:TV U,d.fulls=[]→d.inv T.objs:=fun d hd q hq=>by rw[hd]at hq;simp at hq
 unfold evT at h;split at h
 ·cases h;exact hT.slots _
 ·cases h;exact nil _ rfl
 ·cases h;exact nil _ rfl
 ·cases h;exact nil _ rfl
 ·split at h;rotate_left;simp at h;split at h;rotate_left;simp at h;cases h;exact nil _ rfl
 ·cases h;exact nil _ rfl
 ·cases h;exact nil _ rfl
 ·split at h;rotate_left;simp at h;split at h;rotate_left;simp at h;cases h;exact nil _ rfl
 ·cases h;exact nil _ rfl
 ·split at h;rotate_left;simp at h;cases h;exact nil _ rfl
 ·simp at h
theorem Zb (hX:TOk X) {t:Nat} {x:Operand} {d:TV U} (h:evT X T.slots t x=some d):ev X.E T.enc.slots t x=d.enc:=ZlW hX h
theorem Zg {id:Id} {o:TO U} (h:T.objs id=some o):T.enc.objs id=some o.enc:=by simp[TS.enc,Zik,h]
theorem Zah {lk:Id→Option (TO U)} (t:Ty) (x:El U.car t):(TV.v t x:TV U).inv lk:=fun q hq=>by simp[TV.fulls]at hq
theorem Zf {lk:Id→Option (TO U)} {d:TV U} (h:d.fulls=[]):d.inv lk:=fun q hq=>by rw[h]at hq;simp at hq
theorem ZdN {lk:Id→Option (TO U)} {d:TV U} (h:d.inv lk):∀c∈d.cells,c.inv lk:=fun c hc q hq=>h q (Zhh ⟨c,hc,hq⟩)
theorem Zgj {lk:Id→Option (TO U)} {n:Option Nat} {cs:List (TV U)} (h:∀c∈cs,c.inv lk):(ZdE n cs).inv lk:=fun q hq=>by obtain⟨d,hd,hq⟩:=Zf8 n cs hq;exact h d hd q hq
theorem ZaO (cs:List (TV U)):(TO.box cs).enc= .box (TV.encs cs):=rfl
theorem ZM (t:Ty) (xs:List (El U.car t)) (fix:Bool):(TO.arr t xs fix:TO U).enc= .arr (U.tsize t) (xs.map (U.encE t)) fix:=rfl
theorem Z0 (a b:Ty) (kv:List (El U.car a×El U.car b)):(TO.map a b kv:TO U).enc= .map a.td (kv.map fun e=>(U.encE a e.1,U.encE b e.2)):=rfl
theorem ZbS (s:List UInt8) (p:Nat):(TO.sit s p:TO U).enc= .sit s p:=rfl
theorem Zbt (a b:Ty) (kv:List (El U.car a×El U.car b)) (c:Option (El U.car a×El U.car b)):(TO.mit a b kv c:TO U).enc= .mit (kv.map fun e=>(U.encE a e.1,U.encE b e.2)) (c.map fun e=>(U.encE a e.1,U.encE b e.2)):=rfl
theorem Za7:(TO.gone:TO U).enc= .gone:=rfl
theorem ZjI (f:Nat) (a b:List D):(∃x y,fnD f a b= .p (.fn f x y))∨fnD f a b= .fn f a b:=by
 unfold fnD;split
 ·exact .inl ⟨_,_,rfl⟩
 ·exact .inr rfl
theorem Zkl (hX:TOk X) (hT:T.Inv) {x:Operand} (h:Zjt X T ty x k=some r):Snd X T i (.move x) ty k r:=by unfold Zjt at h;split at h;rotate_left;simp at h;rename_i d hd;exact⟨_,[],by simp only[Zd,Zb hX hd,Zh.enc,Znt],by simp,ZJ.pure (ZE hT hd),h⟩
theorem Zid (hX:TOk X) (hT:T.Inv) {x:Operand} (h:Zfm X T i ty x k=some r):Snd X T i (.assign x) ty k r:=by
 unfold Zfm at h;split at h
 ·rename_i t hd;refine⟨_,[], ?_,by simp, ?_,h⟩
  ·simp only[Zd,Zb hX hd,Zh.enc,TV.enc,Znt,ZmD,ZaO,ZM,Z0,ZbS,Zbt,Za7]
  ·refine⟨by simp,fun _ q hq=> ?_,fun _ o ho=> ?_⟩
   ·simp only[TV.fulls,ZmI]at hq;subst hq;refine⟨.arr t [] false,by simp[lkA,TS.objL,upd],fun t' xs fix he=> ?_⟩;cases he;rfl
   ·rcases ho with ⟨k',hk⟩ |⟨id,hk⟩
    ·simp only[ZmI,ZmS]at hk;obtain⟨_,rfl⟩:=hk;trivial
    ·simp at hk
 ·rename_i d hne hd;refine⟨_,[], ?_,by simp,ZJ.pure (ZE hT hd),h⟩;simp only[Zd,Zb hX hd];split
  ·rename_i sz he;exfalso;cases d<;>simp only[TV.enc,reduceCtorEq]at he
   ·exact hne _ rfl
   ·unfold D.mkAgg at he;split at he<;>simp at he
   ·unfold fnD at he;split at he<;>simp at he
  ·rfl
 ·simp at h
theorem Zkj (hX:TOk X) (hT:T.Inv) {c x y:Operand} (h:Zjr X T ty c x y k=some r):Snd X T i (.pick c x y) ty k r:=by
 unfold Zjr at h;split at h;rotate_left;simp at h;rename_i b u v hb hu hv;cases b
 ·exact⟨_,[],by simp only[Zd,Zb hX hb,Zb hX hu,Zb hX hv,TV.enc,Zc.encE,Zh.enc,Znt];rfl,by simp,ZJ.pure (ZE hT hv),h⟩
 ·exact⟨_,[],by simp only[Zd,Zb hX hb,Zb hX hu,Zb hX hv,TV.enc,Zc.encE,Zh.enc,Znt];rfl,by simp,ZJ.pure (ZE hT hu),h⟩
theorem Zdp (ep i:Nat):∀(k:Nat) (ds:List (TV U)),TV.encs (Zcy ep i k ds)=Zey ep i k (TV.encs ds)
 |k,[]=>rfl
 |k,d::r=>by
  cases d<;>simp only[Zcy,TV.encs,TV.enc,Zey,Zdp ep i (k+1) r]
  ·unfold D.mkAgg;split<;>simp only[Zey]
  ·unfold fnD;split<;>simp only[Zey]
theorem Zfc {k:Nat} {d:D} {r:List D} (h:∀sz,d≠ .nils sz):ZZ k (d::r)=ZZ (k+1) r:=by cases d<;>first |rfl |exact absurd rfl (h _)
theorem Zbg:∀(k:Nat) (ds:List (TV U)),(ZF k ds).map (fun x=>(x.1,x.2.enc))=ZZ k (TV.encs ds)
 |k,[]=>rfl
 |k,d::r=>by
  have ih:=Zbg (k+1) r;cases d
  case nils t=>rw[ZF,ZmD,ih];rfl
  all_goals
   rw[ZF,ih,TV.encs,Zfc]
   ·intro sz hq;simp only[TV.enc,reduceCtorEq]at hq<;>first |(unfold D.mkAgg at hq;split at hq<;>simp at hq) |(unfold fnD at hq;split at hq<;>simp at hq)
   all_goals (intros;simp_all)
theorem Z7:∀(k:Nat) (ds:List (TV U)) (j:Nat) (o:TO U),(j,o)∈ZF k ds→k≤j∧∃t,o= .arr t [] false
 |k,[],j,o,h=>by simp[ZF]at h
 |k,d::r,j,o,h=>by
  cases d
  case nils t=>
   simp only[ZF,ZmF,ZmS]at h;rcases h with ⟨rfl,rfl⟩ |h
   ·exact⟨ZmL _,t,rfl⟩
   ·have:=Z7 (k+1) r j o h;exact⟨by omega,this.2⟩
  all_goals
   simp only[ZF]at h;have:=Z7 (k+1) r j o h;exact⟨by omega,this.2⟩
theorem Zdo (ep i:Nat):∀(k:Nat) (ds:List (TV U)) (d:TV U),d∈Zcy ep i k ds→d∈ds∨∃j t,d= .full (ep,i,j) 0∧(j,TO.arr t [] false)∈ZF k ds
 |k,[],d,h=>by simp[Zcy]at h
 |k,x::r,d,h=>by
  cases x
  case nils t=>
   simp only[Zcy,ZmF]at h;rcases h with rfl |h
   ·exact .inr ⟨k,t,rfl,by simp[ZF]⟩
   ·rcases Zdo ep i (k+1) r d h with h |⟨j,t',h1,h2⟩
    ·exact .inl (Zna _ h)
    ·exact .inr ⟨j,t',h1,by simp[ZF,h2]⟩
  all_goals
   simp only[Zcy,ZmF]at h;rcases h with rfl |h
   ·exact .inl ZmG
   ·rcases Zdo ep i (k+1) r d h with h |⟨j,t',h1,h2⟩
    ·exact .inl (Zna _ h)
    ·exact .inr ⟨j,t',h1,by simp only[ZF];exact h2⟩
theorem Zf3:∀(l:List (Id×TO U)) (T:TS U) (id:Id),(∃o,(id,o)∈l)→(∀o,(id,o)∈l→∀t xs fix,o= .arr t xs fix→xs.length=0)→Zis (T.objL l).objs (id,0)
 | [],T,id,h,_=>by simp at h
 |(a,u)::l,T,id,h,hz=>by
  simp only[TS.objL]
  by_cases hm:∃o,(id,o)∈l
  ·exact Zf3 l _ id hm fun o ho=>hz o (Zna _ ho)
  ·obtain⟨o,ho⟩:=h;rcases ZmF.1 ho with ho |ho
   ·simp only[ZmS]at ho;obtain⟨rfl,rfl⟩:=ho;have key:∀(l:List (Id×TO U)) (T:TS U),(¬∃o,(id,o)∈l)→(T.objL l).objs id=T.objs id:=by
     intro l
     induction l with
     |nil=>intro T _;rfl
     |cons x l ih=>
      obtain⟨b,v⟩:=x;intro T hn;simp only[TS.objL];rw[ih _ (fun⟨o,ho⟩=>hn ⟨o,Zna _ ho⟩)];simp only[upd];split
      ·rename_i he;subst he;exact absurd ⟨v,ZmG⟩ hn
      ·rfl
    refine⟨o, ?_,fun t xs fix he=>hz o ZmG t xs fix he⟩;rw[key l _ hm];simp[upd]
   ·exact absurd ⟨o,ho⟩ hm
theorem Zgn (hT:T.Inv) {k0:Nat} {ds:List (TV U)} (hds:∀d∈ds,d.inv T.objs) {e:Zh U} (hval:e.val.fulls=[]) (hwr:∀id o,(id,o)∈e.wr→∃cs,o= .box cs∧∀d∈cs,d∈Zcy T.ep i k0 ds∨d.inv T.objs)
  (hnew:∀j o,(j,o)∈e.new→(∃cs,o= .box cs∧∀d∈cs,d∈Zcy T.ep i k0 ds∨d.inv T.objs)∨(j,o)∈ZF k0 ds) (hin:∀j o,(j,o)∈ZF k0 ds→(j,o)∈e.new) (h0:∀j o,(j,o)∈e.new→∀o',(j,o')∈ZF k0 ds→∃t,o= .arr t [] false):ZJ T i e:=by
 have hw:∀id o,(id,o)∈e.wr→ZdK (T.objs id) o:=fun id o hm t xs fix he=>by obtain⟨cs,rfl,_⟩:=hwr id o hm;simp at he
 have box:fresh T i e=true→∀d,d∈Zcy T.ep i k0 ds∨d.inv T.objs→d.inv (lkA T i e):=fun hf d hd=>by
  rcases hd with hd |hd
  ·rcases Zdo _ _ _ _ _ hd with hd |⟨j,t,rfl,hm⟩
   ·exact TV.inv_old hf hw (hds d hd)
   ·intro q hq;simp only[TV.fulls,ZmI]at hq;subst hq;refine Zf3 _ _ _ ⟨.arr t [] false,Znc.2 ⟨_,hin _ _ hm,rfl⟩⟩ fun o ho t' xs fix he=> ?_
    obtain⟨x,hx,hq⟩:=Znc.1 ho;simp only[ZmS,true_and]at hq;obtain⟨rfl,rfl⟩:=hq;obtain⟨t2,h2⟩:=h0 _ _ hx _ hm;rw[h2]at he;cases he;rfl
  ·exact TV.inv_old hf hw hd
 refine⟨hw,fun _=>Zf hval,fun hf o ho=> ?_⟩;rcases ho with ⟨j,hm⟩ |⟨id,hm⟩
 ·rcases hnew j o hm with ⟨cs,rfl,hc⟩ |hm
  ·exact fun d hd=>box hf d (hc d hd)
  ·obtain⟨_,t,rfl⟩:=Z7 _ _ _ _ hm;trivial
 ·obtain⟨cs,rfl,hc⟩:=hwr id o hm;exact fun d hd=>box hf d (hc d hd)
theorem ZhX (hT:T.Inv) {ds:List (TV U)} (hds:∀d∈ds,d.inv T.objs):ZJ T i (ZeZ T i ds):=by
 refine Zgn (k0:=1) hT hds rfl (by simp[ZeZ]) (fun j o hm=> ?_) (fun j o hm=>Zna _ hm) (fun j o hm o' hm'=> ?_)
 ·rcases ZmF.1 hm with hm |hm
  ·simp only[ZmS]at hm;obtain⟨rfl,rfl⟩:=hm;exact .inl ⟨_,rfl,fun d hd=> .inl hd⟩
  ·exact .inr hm
 ·rcases ZmF.1 hm with hm |hm
  ·simp only[ZmS]at hm;have:=(Z7 _ _ _ _ hm').1;omega
  ·exact(Z7 _ _ _ _ hm).2
theorem ZeY (T:TS U) (i:Nat) (ds:List (TV U)):(ZeZ T i ds).enc []={val:= .ptr (T.ep,i,0) 0 0,new:=(0,.box (Zey T.ep i 1 (TV.encs ds)))::ZZ 1 (TV.encs ds)}:=by simp only[ZeZ,Zh.enc,TV.enc,ZmD,ZaO,ZM,Z0,ZbS,Zbt,Za7,Zdp,Zbg,Znt]
theorem Zjh (hX:TOk X) (hT:T.Inv) {t:Nat} (h:ZgZ X T i t k=some r):Snd X T i (.alloc t) ty k r:=by unfold ZgZ at h;split at h;rotate_left;simp at h;rename_i e he;refine⟨_,[], ?_,by simp,ZhX hT (fun d hd=>Zf (hX.inv t e he d hd)),h⟩;rw[ZeY];simp only[Zd,Zw he,←hX.zero t e he]
theorem Zai (ds:List (TV U)):(TV.encs ds).length=ds.length:=by rw[ZaN,Znp]
theorem Zlp (hU:UOk U) (hX:TOk X) (hT:T.Inv) {t:Nat} {x:Operand} (h:ZlB X T i t x k=some r):Snd X T i (.box t x) ty k r:=by unfold ZlB at h;split at h;rotate_left;simp at h;rename_i e d he hd;split at h;rotate_left;simp at h;rename_i hc;refine⟨_,[], ?_,by simp,ZhX hT (ZdN (ZE hT hd)),h⟩;rw[ZeY];simp only[Zd,Zw he,Zb hX hd,←Zd5 hU,Zai,hc.1,Zfo hc.2,and_self,if_true]
theorem ZcA {α β:Type} (f:α→β) (xs ys:List α) (j:Nat):(ZP xs j ys).map f=ZP (xs.map f) j (ys.map f):=by simp only[ZP,Znq,Znu,Znr,Znp]
theorem Zd0 (xs ys:List (TV U)) (j:Nat):TV.encs (ZP xs j ys)=ZP (TV.encs xs) j (TV.encs ys):=by simp only[ZaN,ZcA]
theorem ZjL (xs:List (TV U)) (n:Nat):TV.encs (xs.take n)=(TV.encs xs).take n:=by simp only[ZaN,Znu]
theorem Zbs (xs:List (TV U)) (n:Nat):TV.encs (xs.drop n)=(TV.encs xs).drop n:=by simp only[ZaN,Znr]
theorem ZeA {α:Type} {xs ys:List α} {j:Nat} {a:α} (h:a∈ZP xs j ys):a∈xs∨a∈ys:=by
 simp only[ZP,ZmE]at h;rcases h with (h |h) |h
 ·exact .inl (List.mem_of_mem_take h)
 ·exact .inr h
 ·exact .inl (Znw h)
theorem ZdV (hU:UOk U) (hX:TOk X) (hT:T.Inv) {e:TT U}:∀(parts:List (Nat×Operand)) (cs ds:List (TV U)),(∀c∈cs,c.inv T.objs)→ZdW X T.slots e parts cs=some ds→
  ZbR X.E T.enc.slots e.ti parts (TV.encs cs)=some (TV.encs ds)∧∀d∈ds,d.inv T.objs
 | [],cs,ds,hi,h=>by simp only[ZdW,ZmR]at h;subst h;exact⟨rfl,hi⟩
 |(j,x)::r,cs,ds,hi,h=>by simp only[ZdW]at h;split at h;rotate_left;simp at h;rename_i off t hp;split at h;rotate_left;simp at h;rename_i tp d htp hd;split at h;rotate_left;simp at h;rename_i hc;have:=ZdV hU hX hT r _ ds (fun c hcm=>by rcases ZeA hcm with hm |hm;(·exact hi c hm);exact ZdN (ZE hT hd) c hm) h;refine⟨?_,this.2⟩;rw[Zd0]at this;simp only[ZbR,hp,Zw htp,Zb hX hd,←Zd5 hU,Zai,hc.1,Zfo hc.2.2,true_and,and_true];rw[if_pos (by rw[←hc.1];exact hc.2.1)];exact this.1
theorem Zjg (hU:UOk U) (hX:TOk X) (hT:T.Inv) {t:Nat} {parts:Array (Nat×Operand)} (h:ZgY X T t parts.toList k=some r):Snd X T i (.build t parts) ty k r:=by unfold ZgY at h;split at h;rotate_left;simp at h;rename_i e he;split at h;rotate_left;simp at h;rename_i hn;split at h;rotate_left;simp at h;rename_i cs hcs;obtain⟨q1,q2⟩:=ZdV hU hX hT _ _ _ (fun c hc=>Zf (hX.inv t e he c hc)) hcs;refine⟨_,[], ?_,by simp,ZJ.pure (Zgj q2),h⟩;rw[hX.zero t e he]at q1;simp only[Zd,Zw he,hX.agg t e he,hn,if_true,q1,Zh.enc,ZeK hU,Znt]
theorem ZN {l:Lf U.car} {t:Ty} {x:El U.car t} (h:l.as t=some x):l=⟨t,x⟩:=by unfold Lf.as at h;split at h;rotate_left;simp at h;rename_i he;obtain⟨t',y⟩:=l;dsimp only at he;subst he;cases h;rfl
theorem ZbT (hU:UOk U) (l:Lf U.car):(U.encL l).cells.length=U.tsize l.t:=by simp only[Zc.encL,Zav hU,Znp,ZbH hU]
theorem ZbQ (hU:UOk U) (hX:TOk X) (hT:T.Inv) {t n:Nat} {e:TT U}:∀(parts:List (Nat×Operand)) (es es':List (El U.car e.ty)),es.length=n→ZaT X T t e n parts es=some es'→
  ZD X.E T.enc.slots T.enc.objs t e.ti parts (es.map (U.encE e.ty))=some (es'.map (U.encE e.ty))∧es'.length=n
 | [],es,es',hl,h=>by simp only[ZaT,ZmR]at h;subst h;exact⟨rfl,hl⟩
 |(j,x)::r,es,es',hl,h=>by
  simp only[ZaT]at h;split at h;rotate_left;simp at h;rename_i d hd;split at h;rotate_left;simp at h;rename_i l hlf;split at h;rotate_left;simp at h;rename_i y hy;split at h;rotate_left;simp at h;rename_i hc;have:=ZbQ hU hX hT r _ es' (by simpa using hl) h;refine⟨?_,this.2⟩;have hl':=ZN hy;have ht:=ZeR hU (ZE hT hd) hlf 7;have hcl:=ZbT hU l;rw[hl']at ht hcl;simp only[ZD,Zb hX hd,depth,ht,Zc.encL]at hcl⊢
  rw[if_pos ⟨by rw[hcl];exact hc.1,by rw[Znp,hl];exact hc.2⟩,←List.map_set];exact this.1
theorem Za8 {t:Ty} {xs:List (El U.car t)} {n:Nat} {fix:Bool} {frz:List Id} {wr:List (Id×TO U)} (hn:xs.length=n) (hwr:∀id o,(id,o)∈wr→o= .gone):
  ZJ T i {val:= .full (T.ep,i,0) n,new:=[(0,.arr t xs fix)],wr:=wr,frz:=frz}:=by
 refine⟨fun id o hm t' xs' fix' he=> ?_,fun _ q hq=> ?_,fun _ o ho=> ?_⟩
 ·rw[hwr id o hm]at he;simp at he
 ·simp only[TV.fulls,ZmI]at hq;subst hq;refine⟨.arr t xs fix, ?_,fun t' xs' fix' he=> ?_⟩
  ·simp only[lkA,ZmD,Znt,TS.objL,upd,if_true]
  ·cases he;exact hn
 ·rcases ho with ⟨j,hk⟩ |⟨id,hk⟩
  ·simp only[ZmI,ZmS]at hk;obtain⟨_,rfl⟩:=hk;trivial
  ·rw[hwr id o hk];trivial
theorem Zel (hU:UOk U) (hX:TOk X) (hT:T.Inv) {t n:Nat} {parts:Array (Nat×Operand)} (h:Zbn X T i t n parts.toList k=some r):Snd X T i (.buildSlice t n parts) ty k r:=by unfold Zbn at h;split at h;rotate_left;simp at h;rename_i e0 he0;split at h;rotate_left;simp at h;rename_i u hu;split at h;rotate_left;simp at h;rename_i e he;split at h;rotate_left;simp at h;rename_i z0 hz0;split at h;rotate_left;simp at h;rename_i z hz;split at h;rotate_left;simp at h;rename_i es hes;split at h;rotate_left;simp at h;rename_i hc;obtain⟨q1,q2⟩:=ZbQ hU hX hT _ _ _ (by simp) hes;refine⟨_,[], ?_,by simp,Za8 q2 (by simp),h⟩;have hzp:=hX.zl u e z0 he hz0;rw[ZN hz]at hzp;rw[List.map_replicate,show U.encE e.ty z=e.ti.zeroP from hzp]at q1;have:=Zw he0;obtain⟨⟨d,a,b,c⟩,a',b',c',d'⟩:=e0;dsimp only at hu;subst hu;simp only[Zd,this,Zw he,q1,hc.1,hc.2.1,and_self,if_true,Zh.enc,TV.enc,ZmD,Znt,ZaO,ZM,Z0,ZbS,Zbt,Za7,hc.2.2]
theorem Zce (hU:UOk U) (hX:TOk X) {t:Nat} {e:TT U} (he:X.get t=some e) {cs:List (TV U)} {d:TV U} (h:Zc9 e cs=some d):Zfr e.ti (TV.encs cs)=some d.enc:=by
 unfold Zc9 at h;unfold Zfr;rw[hX.agg t e he];split at h
 ·rename_i hn;rw[if_pos hn];split at h;rotate_left;simp at h;rename_i hl;cases h;rw[if_pos (by rw[Zai];exact hl),ZeK hU,ZjL]
 ·rename_i hn;rw[if_neg hn];cases cs with
  |nil=>simp at h
  |cons c r=>simp only[List.head?_cons,ZmR]at h;subst h;rfl
theorem ZaD {lk:Id→Option (TO U)} {e:TT U} {cs:List (TV U)} {d:TV U} (hc:∀c∈cs,c.inv lk) (h:Zc9 e cs=some d):d.inv lk:=by
 unfold Zc9 at h;split at h
 ·split at h;rotate_left;simp at h;cases h;exact Zgj fun c hm=>hc c (List.mem_of_mem_take hm)
 ·exact hc d (List.mem_of_mem_head? h)
theorem ZjB (ti:TI) (ps:List P):Zfr ti (ps.map .p)=(ZdI ti ps).map .p:=by
 unfold Zfr ZdI;split
 ·rw[Znp];split
  ·rw[←Znu,Zcd];rfl
  ·rfl
 ·cases ps<;>rfl
theorem Za3 (hU:UOk U) (hX:TOk X) {t:Nat} {e:TT U} (he:X.get t=some e) {ls:List (Lf U.car)} {d:TV U} (h:Zc9 e (ls.map lv)=some d):∃x,ZdI e.ti (ls.map U.encL)=some x∧d.enc= .p x:=by
 have:=Zce hU hX he h;rw[ZcP,ZjB]at this;cases hq:ZdI e.ti (ls.map U.encL)with
 |none=>rw[hq]at this;simp at this
 |some x=>rw[hq]at this;simp only[Zny,ZmR]at this;exact⟨x,rfl,this.symm⟩
theorem Zfu {t:Ty} {xs:List (El U.car t)} {n:Nat} {x:El U.car t} (h:xs[n]? =some x):(xs.map (U.encE t)).getD n default=U.encE t x:=by rw[Znl,ZmB,h];rfl
theorem Zkm (hU:UOk U) (hX:TOk X) (hT:T.Inv) {t:Nat} {x:Operand} (h:Zju X T t x k=some r):Snd X T i (.load t x) ty k r:=by
 unfold Zju at h;split at h
 ·rename_i e cs he hd;split at h;rotate_left;simp at h;rename_i d hl;obtain⟨x',h1,h2⟩:=Za3 hU hX he hl;refine⟨_,[], ?_,by simp,ZJ.pure (ZaD (fun c hc=> ?_) hl),h⟩
  ·simp only[Zd,Zw he,Zb hX hd,TV.enc,h1,Zh.enc,h2,Znt]
  ·obtain⟨l,_,rfl⟩:=Znc.1 hc;exact Zah _ _
 ·rename_i e id i' j he hd;split at h
  ·rename_i cs ho;split at h;rotate_left;simp at h;rename_i h0;subst h0;split at h;rotate_left;simp at h;rename_i d hl;have:=Zce hU hX he hl;rw[Zbs]at this;refine⟨_,[], ?_,by simp,ZJ.pure (ZaD (fun c hc=>hT.objs id _ ho c (Znw hc)) hl),h⟩;simp only[Zd,Zw he,Zb hX hd,TV.enc,Zg ho,ZaO,ZM,Z0,ZbS,Zbt,Za7,if_true,this,Zh.enc,Znt]
  ·rename_i u xs fix ho;obtain⟨y,hy,h⟩:=bind_some h;split at h;rotate_left;simp at h;rename_i d hl;obtain⟨x',h1,h2⟩:=Za3 hU hX he hl;refine⟨_,[], ?_,by simp,ZJ.pure (ZaD (fun c hc=> ?_) hl),h⟩
   ·rw[Znr,←Zav hU]at h1;simp only[Zd,Zw he,Zb hX hd,TV.enc,Zg ho,ZaO,ZM,Z0,ZbS,Zbt,Za7,Zfu hy,h1,Zh.enc,h2,Znt]
   ·obtain⟨l,_,rfl⟩:=Znc.1 hc;exact Zah _ _
  ·simp at h
 ·simp at h
theorem Zjq {e x:P} {sz:Nat} (h:x.cells.length=sz):e.put sz 0 x=x:=by simp[P.put,h]
theorem Zja (hU:UOk U) (hX:TOk X) (hT:T.Inv) {t:Nat} {a x:Operand} (h:ZgS X T i t a x k=some r):Snd X T i (.store t a x) ty k r:=by
 unfold ZgS at h;split at h;rotate_left;simp at h;rename_i e id i' j d he ha hd;split at h
 ·rename_i cs ho;split at h;rotate_left;simp at h;rename_i hc;obtain⟨rfl,h1,h2,h3⟩:=hc;refine⟨_,[], ?_,by simp, ?_,h⟩
  ·simp only[Zd,Zw he,Zb hX ha,Zb hX hd,TV.enc,Zg ho,ZaO,ZM,Z0,ZbS,Zbt,Za7,←Zd5 hU,Zai,h1,Zfo h3,true_and,and_true,Zh.enc,Zbg,ZmD,Znt,Zd0,Zdp];rw[if_pos (by rw[←h1];exact h2)]
  ·refine Zgn (k0:=0) hT (ZdN (ZE hT hd)) rfl (fun id' o hm=> ?_) (fun j' o hm=> .inr hm) (fun _ _ hm=>hm) (fun j' o hm _ _=>(Z7 _ _ _ _ hm).2);simp only[ZmI,ZmS]at hm;obtain⟨rfl,rfl⟩:=hm;refine⟨_,rfl,fun d' hd'=> ?_⟩;rcases ZeA hd' with hm |hm
   ·exact .inr (hT.objs _ _ ho d' hm)
   ·exact .inl hm
 ·rename_i u xs fix ho;split at h;rotate_left;simp at h;rename_i l hl;split at h;rotate_left;simp at h;rename_i hc;have ht:=ZeR hU (ZE hT hd) hl 7;have hcl:=ZbT hU l;have hset:∀y:El U.car u,U.encE u y=((xs.map (U.encE u)).getD i' default).put (U.tsize u) j (U.encL l)→ZJ T i {val:=TV.undef,wr:=[(id,.arr u (xs.set i' y) fix)],frz:=d.enc.ids T.enc.objs depth}:=fun y _=>
   ⟨fun id' o hm t' xs' fix' he'=>by
    simp only[ZmI,ZmS]at hm;obtain⟨rfl,rfl⟩:=hm;cases he';exact⟨_,_,_,ho,by simp⟩,fun _=>Zf rfl,fun _ o hm=>by
    rcases hm with ⟨_,hm⟩ |⟨_,hm⟩
    ·simp at hm
    ·simp only[ZmI,ZmS]at hm;obtain⟨_,rfl⟩:=hm;trivial⟩
  have hcore:∀y:El U.car u,U.encE u y=((xs.map (U.encE u)).getD i' default).put (U.tsize u) j (U.encL l)→Zd X.E T.ep i (.store t a x) ty T.enc.slots T.enc.objs=some (({val:=TV.undef,wr:=[(id,.arr u (xs.set i' y) fix)],frz:=d.enc.ids T.enc.objs depth}:Zh U).enc []):=fun y hy=>by simp only[Zd,Zw he,Zb hX ha,Zb hX hd,TV.enc,Zg ho,ZaO,ZM,Z0,ZbS,Zbt,Za7,depth,ht,hcl,hc.1,hc.2.1,hc.2.2,and_self,if_true,Zh.enc,Znt,ZmD,List.map_set,hy]
  split at h
  ·rename_i hw;obtain⟨rfl,hs⟩:=hw;split at h;rotate_left;simp at h;rename_i y hy;have hyy:=ZN hy;have:U.encE u y=((xs.map (U.encE u)).getD i' default).put (U.tsize u) 0 (U.encL l):=by rw[Zjq (by rw[hcl,hs]),hyy];rfl
   exact⟨_,[],hcore y this,by simp,hset y this,h⟩
  ·rename_i hw;obtain⟨z,hz,h⟩:=bind_some h;split at h;rotate_left;simp at h;rename_i y hy;have:U.encE u y=((xs.map (U.encE u)).getD i' default).put (U.tsize u) j (U.encL l):=by
    rw[Zfu hz];have hcy:=ZaC hU hy;have e1:=Zav hU u y;rw[hcy,ZcA,←Zav hU,←Zav hU]at e1;unfold P.put;rw[if_neg (by rw[hcl];exact hw)];cases u with
    |st n=>
     simp only[Zc.encE,hU.enc_cells,P.cells]at e1⊢
     rw[e1];rfl
    |_=>
     exfalso;have:U.tsize l.t=1∧j=0:=by have h1:=hc.1;have h2:=hc.2.1;have h3:=hc.2.2;simp only[Zc.tsize]at h2;constructor<;>omega
     exact hw ⟨this.2,this.1⟩
   exact⟨_,[],hcore y this,by simp,hset y this,h⟩
 ·simp at h
theorem ZfQ (hX:TOk X) (hT:T.Inv) {x:Operand} (h:ZcF X T x k=some r):Snd X T i (.nilCheck x) ty k r:=by
 unfold ZcF at h;split at h
 ·rename_i cs hd;exact⟨_,[],by simp only[Zd,Zb hX hd,TV.enc,Zh.enc,Znt],by simp,ZJ.pure (Zf rfl),h⟩
 ·rename_i id a b hd;exact⟨_,[],by simp only[Zd,Zb hX hd,TV.enc,Zh.enc,Znt],by simp,ZJ.pure (Zf rfl),h⟩
 ·rename_i f a b hd;refine⟨_,[], ?_,by simp,ZJ.pure (ZE hT hd),h⟩;simp only[Zd,Zb hX hd,TV.enc,Zh.enc,Znt];rcases ZjI f (TV.encs a) (TV.encs b)with ⟨u,v,hq⟩ |hq<;>rw[hq]
 ·simp at h
end
end Eng
namespace Eng
open Go
section
variable {U:Zc} {R:Type} {X:ZG U} {T:TS U} {i ty:Nat} {k:Zh U→Option R} {r:R}
theorem Zv {b:Bool} (h:b=true):∀q∈[b],q=true:=fun q hq=>by rw[ZmI]at hq;rw[hq];exact h
theorem Zcl {p:P} {d:TV U} (h:ZlY p=some d):d.enc= .p p∧d.fulls=[]:=by unfold ZlY at h;split at h<;>first |(cases h;exact⟨rfl,rfl⟩) |simp at h
theorem ZdL {d:TV U} {p:P} (h:Ziv d=some p):d.enc= .p p∧(∀cs,p≠ .agg cs):=by unfold Ziv at h;split at h<;>first |(cases h;exact⟨rfl,by simp⟩) |simp at h
theorem Zh8 (hU:UOk U) {d:TV U} {ps:List P} (h:aggP d=some ps):d.enc= .p (.agg ps):=by
 unfold aggP at h;split at h
 ·cases h;simp only[TV.enc,Zc.encE,hU.enc_cells]
 ·split at h;rotate_left;simp at h;rename_i ls hls;cases h;rw[Zcv hls,TV.enc,ZcP,Zcd]
 ·simp at h
theorem Zlq (hU:UOk U) (hX:TOk X) (hT:T.Inv) {b:BinOp} {t u0:Nat} {x y:Operand} (h:ZlC X T b t x y k=some r):Snd X T i (.binOp b t x y u0) ty k r:=by
 unfold ZlC at h;split at h
 ·rename_i hn;unfold opNil at h;split at h
  ·rename_i e z he hd;have nc:∀td,td=TD.func→Zc1 td (.const .nilFunc) (.p (ZjM z))=some (.p (.bool (Option.isNone z))):=fun td htd=>by subst htd;cases z<;>rfl
   split at h
   ·rename_i htd;refine⟨_,[], ?_,by simp,ZJ.pure (Zah _ _),h⟩;simp only[Zd,hn,if_true,Zr he,Zb hX hd,TV.enc,Zc.encE,nc _ htd,Zh.enc,Znt]
   ·rename_i htd;refine⟨_,[], ?_,by simp,ZJ.pure (Zah _ _),h⟩;simp only[Zd,hn,if_true,Zr he,Zb hX hd,TV.enc,Zc.encE,nc _ htd,D.notb,Zh.enc,Znt]
   ·simp at h
  ·rename_i e d hne he hd;split at h;rotate_left;simp at h;rename_i z hz;split at h
   ·refine⟨_,[], ?_,by simp,ZJ.pure (Zah _ _),h⟩;simp only[Zd,hn,if_true,Zr he,Zb hX hd,hz,Zh.enc,TV.enc,Zc.encE,Znt]
   ·refine⟨_,[], ?_,by simp,ZJ.pure (Zah _ _),h⟩;simp only[Zd,hn,if_true,Zr he,Zb hX hd,hz,D.notb,Zh.enc,TV.enc,Zc.encE,Znt]
   ·simp at h
  ·simp at h
 ·rename_i hn;have hn':Operand.isNil y=false:=by simpa using hn
  split at h
  ·rename_i u v hu hv;split at h;rotate_left;simp at h;rename_i e z he hz;split at h;rotate_left;simp at h;rename_i d hd hz';obtain⟨q1,q2⟩:=Zcl hz';refine⟨_,[], ?_,by simp,ZJ.pure (Zf q2),h⟩;simp only[Zd,hn',Zmu,if_false,Zb hX hu,Zb hX hv,TV.enc,Zc.encE,Zr he,hd,hz,Zh.enc,q1,Znt]
  ·rename_i d d' hne hu hv;split at h
   ·rename_i us vs hus hvs;split at h;rotate_left;simp at h;rename_i z hz;split at h;rotate_left;simp at h;rename_i dz hdz;obtain⟨q1,q2⟩:=Zcl hdz;refine⟨_,[], ?_,by simp,ZJ.pure (Zf q2),h⟩;simp only[Zd,hn',Zmu,if_false,Zb hX hu,Zb hX hv,Zh8 hU hus,Zh8 hU hvs,hz,Zh.enc,q1,Znt]
   ·split at h;rotate_left;simp at h;rename_i p q hp hq;split at h;rotate_left;simp at h;rename_i z c hz;split at h;rotate_left;simp at h;rename_i dz hdz;obtain⟨q1,q2⟩:=Zcl hdz;obtain⟨hc,h⟩:=Zd3 h;refine⟨_,c, ?_,hc,ZJ.pure (Zf q2),h⟩;obtain⟨e1,e2⟩:=ZdL hp;obtain⟨e3,e4⟩:=ZdL hq;simp only[Zd,hn',Zmu,if_false,Zb hX hu,Zb hX hv,e1,e3];split
    ·rename_i a1 a2 e5 e6;cases e5;cases e6;exfalso;unfold Ziv at hp hq;split at hp<;>simp at hp;split at hq<;>simp at hq;subst hp hq;exact hne _ _ rfl rfl
    ·rename_i a1 a2 e5 e6;cases e5;exact absurd rfl (e2 _)
    ·rename_i a1 a2 e5 e6 e7 e8;cases e7;cases e8;simp only[hz,Zh.enc,q1,Znt]
    ·rename_i h7 h8 h9;exact(h9 p q rfl rfl).elim
  ·simp at h
theorem snd_un (hX:TOk X) (hT:T.Inv) {u:UnOp} {t:Nat} {x:Operand} (h:opUn X T u x k=some r):Snd X T i (.unOp u t x) ty k r:=by unfold opUn at h;split at h;rotate_left;simp at h;rename_i d hd;split at h;rotate_left;simp at h;rename_i v hv;split at h;rotate_left;simp at h;rename_i z c hz;split at h;rotate_left;simp at h;rename_i dz hdz;obtain⟨q1,q2⟩:=Zcl hdz;obtain⟨hc,h⟩:=Zd3 h;refine⟨_,c, ?_,hc,ZJ.pure (Zf q2),h⟩;simp only[Zd,Zb hX hd,(ZdL hv).1,hz,Zh.enc,q1,Znt]
theorem ZgM (hX:TOk X) (hT:T.Inv) {s t:Nat} {x:Operand} (h:ZdA X T i s t x k=some r):Snd X T i (.convert s t x) ty k r:=by
 unfold ZdA at h;split at h;rotate_left;simp at h;rename_i es et d hes het hd;split at h
 ·rename_i k1 k2 k3 n h1 h2;refine⟨_,[], ?_,by simp,ZJ.pure (Zah _ _),h⟩;simp only[Zd,Zaq,Zr hes,Zr het,Zb hX hd,h1,h2,TV.enc,Zc.encE,Zh.enc,Znt]
 ·rename_i str h1 h2;refine⟨_,[], ?_,by simp,ZJ.pure (Zah _ _),h⟩;simp only[Zd,Zaq,Zr hes,Zr het,Zb hX hd,h1,h2,TV.enc,Zc.encE,Zh.enc,Znt]
 ·rename_i u str h1 h2;split at h;rotate_left;simp at h;rename_i eu heu;split at h;rotate_left;simp at h;rename_i h3;obtain⟨hc,h⟩:=Zo h;refine⟨_,[decide (str.length≤281474976710656)], ?_,Zv hc,Za8 (by simp) (by simp),h⟩;simp only[Zd,Zaq,Zr hes,Zr het,Zr heu,Zb hX hd,h1,h2,h3,TV.enc,Zc.encE,Zh.enc,Znt,ZmD,ZM,Zc.tsize,ZaF,Zns];rfl
 ·rename_i u d' h1 h2;split at h;rotate_left;simp at h;rename_i eu l heu hl;split at h;rotate_left;simp at h;rename_i xs h3 hxs;have hl':=ZN hxs;refine⟨_,[true], ?_,by simp,ZJ.pure (Zah _ _),h⟩;have ht:=ZcI (ZE hT hd) hl 1;rw[hl']at ht;simp only[Zd,Zaq,Zr hes,Zr het,Zr heu,Zb hX hd,h1,h2,h3,ht,Zc.encL,Zc.encE,Zh.enc,TV.enc,Znt,Zns];have:(List.map (fun x=>P.int IntKind.u8 x) xs).all P.isU8=true:=by simp[P.isU8]
  rw[this];rfl
 ·simp at h
theorem Zg8 (hX:TOk X):∀{xs:List Operand} {ds:List (TV U)},Zlb X T.slots xs=some ds→xs.map (ev X.E T.enc.slots 0)=TV.encs ds
 | [],ds,h=>by simp[Zlb,Zm]at h;subst h;rfl
 |x::xs,ds,h=>by simp only[Zlb,Zm]at h;split at h;rotate_left;simp at h;rename_i d ds' h1 h2;cases h;simp only[ZmD,TV.encs,Zb hX h1,Zg8 hX h2]
theorem Zfx (hT:T.Inv):∀{xs:List Operand} {ds:List (TV U)},Zlb X T.slots xs=some ds→∀d∈ds,d.inv T.objs
 | [],ds,h=>by simp[Zlb,Zm]at h;subst h;simp
 |x::xs,ds,h=>by
  simp only[Zlb,Zm]at h;split at h;rotate_left;simp at h;rename_i d ds' h1 h2;cases h;intro a ha;rcases ZmF.1 ha with rfl |ha
  ·exact ZE hT h1
  ·exact Zfx hT h2 a ha
theorem ZfR (hX:TOk X) (hT:T.Inv) {f:Nat} {a b:Array Operand} (h:ZcG X T f a.toList b.toList k=some r):Snd X T i (.makeFunc (.func f) a b) ty k r:=by
 unfold ZcG at h;split at h;rotate_left;simp at h;rename_i as bs ha hb;refine⟨_,[], ?_,by simp,ZJ.pure ?_,h⟩
 ·simp only[Zd,Zg8 hX ha,Zg8 hX hb,Zh.enc,TV.enc,Znt];rfl
 ·intro q hq;simp only[TV.fulls,ZmE]at hq;rcases hq with hq |hq
  ·obtain⟨d,hd,hq⟩:=Zs.1 hq;exact Zfx hT ha d hd q hq
  ·obtain⟨d,hd,hq⟩:=Zs.1 hq;exact Zfx hT hb d hd q hq
theorem Zdk {d:TV U} {o:TO U} {frz:List Id} (hd:d.fulls=[]) (ho:∀lk,o.inv lk):ZJ T i {val:=d,new:=[(0,o)],frz:=frz}:=
 ⟨by simp,fun _=>Zf hd,fun _ o' hm=>by
  rcases hm with ⟨j,hm⟩ |⟨id,hm⟩
  ·simp only[ZmI,ZmS]at hm;obtain⟨_,rfl⟩:=hm;exact ho _
  ·simp at hm⟩
theorem Zb4 {d:TV U} {id:Id} {o:TO U} {frz:List Id} (hd:d.fulls=[]) (hk:ZdK (T.objs id) o) (ho:∀lk,o.inv lk):ZJ T i {val:=d,wr:=[(id,o)],frz:=frz}:=
 ⟨fun id' o' hm=>by simp only[ZmI,ZmS]at hm;obtain⟨rfl,rfl⟩:=hm;exact hk,fun _=>Zf hd,fun _ o' hm=>by
  rcases hm with ⟨j,hm⟩ |⟨id,hm⟩
  ·simp at hm
  ·simp only[ZmI,ZmS]at hm;obtain⟨_,rfl⟩:=hm;exact ho _⟩
theorem ZgK (hX:TOk X) (hT:T.Inv) {t:Nat} (h:Zdy X T i t k=some r):Snd X T i (.makeMap t none) ty k r:=by unfold Zdy at h;split at h;rotate_left;simp at h;rename_i e he;split at h;rotate_left;simp at h;rename_i kt vt hty;refine⟨_,[], ?_,by simp,Zdk rfl (fun _=>by trivial),h⟩;simp only[Zd,hX.key t e kt vt he hty,Zh.enc,TV.enc,ZmD,Znt,Z0,TS.enc]
theorem Zfd (hX:TOk X) (hT:T.Inv) {t:Nat} {l c:Operand} (h:ZbX X T i t l c k=some r):Snd X T i (.makeSlice t l c) ty k r:=by
 unfold ZbX at h;split at h;rotate_left;simp at h;rename_i e k1 a k2 b he hl hc;split at h;rotate_left;simp at h;rename_i z0 hz0;split at h;rotate_left;simp at h;rename_i z hz;split at h;rotate_left;simp at h;rename_i hs;obtain⟨hcond,h⟩:=Zo h;refine⟨_,[_], ?_,Zv hcond,Za8 (by simp) (by simp),h⟩;have hget:∃u,X.get u=some e:=by unfold ZG.elem at he;split at he;rotate_left;simp at he;split at he;rotate_left;simp at he;exact⟨_,he⟩
 obtain⟨u,hu⟩:=hget;have hzp:=hX.zl u e z0 hu hz0;rw[ZN hz]at hzp;simp only[Zd,ZaE he,Zb hX hl,Zb hX hc,TV.enc,Zc.encE,Zh.enc,ZmD,Znt,ZM,List.map_replicate,hs];rw[show U.encE e.ty z=e.ti.zeroP from hzp]
theorem ZbF (hX:TOk X) {x:Option Operand} {a:Option Int} (h:intT X T.slots x=some a):ZbN X.E T.enc.slots x=some a:=by
 unfold intT at h;split at h
 ·cases h;rfl
 ·rename_i x';split at h;rotate_left;simp at h;rename_i k' n hn;cases h;simp only[ZbN,Zb hX hn,TV.enc,Zc.encE]
theorem Zhf {α β:Type} (f:α→β) (xs:List α) (lo hi:Option Int):(cut xs lo hi).map f=cut (xs.map f) lo hi:=by unfold cut;split<;>simp
theorem ZjU {α:Type} (xs:List α) (lo hi:Option Int) (n:Nat) (hn:n=xs.length):cut xs lo hi=(xs.take (hi.getD n).toNat).drop (lo.getD 0).toNat:=by subst hn;unfold cut;split<;>simp
theorem Za5 (hT:T.Inv) {t:Nat} {x:Operand} {id:Id} {n:Nat} (hd:evT X T.slots t x=some (.full id n)) {u:Ty} {xs:List (El U.car u)} {fix:Bool} (ho:T.objs id=some (.arr u xs fix)):n=xs.length:=by obtain⟨o,h1,h2⟩:=ZE hT hd (id,n) (by simp[TV.fulls]);dsimp only at h1;rw[ho,ZmR]at h1;exact(h2 u xs fix h1.symm).symm
theorem ZeB (hT:T.Inv) {sz:Option Nat} {d:TV U} {lo hi mx:Option Int} (hd:d.inv T.objs) (h:Zhy T sz d lo hi mx k=some r):
  ∃e cs,ZaJ T.enc.objs sz d.enc lo hi mx=some (e.enc cs)∧(∀q∈cs,q=true)∧ZJ T i e∧k e=some r:=by
 unfold Zhy at h;split at h
 ·rename_i s;split at h;rotate_left;simp at h;obtain⟨hc,h⟩:=Zo h;refine⟨_,[_], ?_,Zv hc,ZJ.pure (Zah _ _),h⟩;simp only[ZaJ,TV.enc,Zc.encE,Zh.enc,Zb9,ZjU s lo hi s.length rfl,Znt]
 ·rename_i sz t xs;split at h;rotate_left;simp at h;rename_i hs;split at h
  ·obtain⟨hc,h⟩:=Zo h;refine⟨_,[_], ?_,Zv hc,ZJ.pure (Zah _ _),h⟩;simp only[ZaJ,TV.enc,Zc.encE,hs,if_true,Znp,Zh.enc,Zb9,Zhf,ZjU (xs.map (U.encE t)) lo hi xs.length (by simp),Znt]
  ·rename_i m hh;obtain⟨hc,h⟩:=Zo h;refine⟨_,[_], ?_,Zv hc,ZJ.pure (Zf rfl),h⟩;simp only[ZaJ,TV.enc,Zc.encE,hs,if_true,Znp,Zh.enc,Zhf,ZjU (xs.map (U.encE t)) lo (some hh) xs.length (by simp),Option.getD_some,Znt]
  ·simp at h
 ·rename_i sz id n;split at h;rotate_left;simp at h;rename_i t xs fix ho;obtain⟨o,h1,h2⟩:=hd (id,n) (by simp[TV.fulls]);dsimp only at h1;have hln:xs.length=n:=h2 t xs fix (by rw[ho,ZmR]at h1;exact h1.symm);split at h;rotate_left;simp at h;rename_i hs;split at h
  ·obtain⟨hc,h⟩:=Zo h;split at h
   ·refine⟨_,[_], ?_,Zv hc,ZJ.pure hd,h⟩;simp only[ZaJ,TV.enc,Zg ho,ZM,hs,if_true,Zh.enc,Zb9,Option.getD_none,Znt,hln];simp
   ·refine⟨_,[_], ?_,Zv hc,ZJ.pure (Zf rfl),h⟩;simp only[ZaJ,TV.enc,Zg ho,ZM,hs,if_true,Zh.enc,Zb9,Znt,hln,Znh]
  ·rename_i m;split at h;rotate_left;simp at h;rename_i hh;obtain⟨hc,h⟩:=Zo h;refine⟨_,[_], ?_,Zv hc,ZJ.pure (Zf rfl),h⟩;simp only[ZaJ,TV.enc,Zg ho,ZM,hs,if_true,Zh.enc,Znt,hln,Znh,Zhf];congr 2;unfold cut;cases lo with
   |none=>simp
   |some l=>simp[List.drop_take]
 ·rename_i sz id off len;split at h;rotate_left;simp at h;rename_i t xs fix ho;split at h;rotate_left;simp at h;rename_i hs;split at h;rotate_left;simp at h;obtain⟨hc,h⟩:=Zo h;refine⟨_,[_], ?_,Zv hc,ZJ.pure (Zf rfl),h⟩;simp only[ZaJ,TV.enc,Zg ho,ZM,hs,if_true,Zh.enc,Zb9,Znt]
 ·rename_i sz t;split at h;rotate_left;simp at h;obtain⟨hc,h⟩:=Zo h;refine⟨_,[_], ?_,Zv hc,ZJ.pure (Zf rfl),h⟩;simp only[ZaJ,TV.enc,Zh.enc,Znt]
 ·simp at h
theorem Zjb (hX:TOk X) (hT:T.Inv) {t:Nat} {x:Operand} {lo hi mx:Option Operand} (h:ZgT X T t x lo hi mx k=some r):Snd X T i (.slice t x lo hi mx) ty k r:=by
 unfold ZgT at h;split at h;rotate_left;simp at h;rename_i e d a b c he hd ha hb hc;split at h
 ·rename_i hstr;obtain⟨e',cs,h1,h2,h3,h4⟩:=ZeB (i:=i) hT (ZE hT hd) h;refine⟨e',cs, ?_,h2,h3,h4⟩;simp only[Zd,Zr he,hstr,ZbF hX ha,ZbF hX hb,ZbF hX hc,Zb hX hd,h1]
 ·rename_i u hsl;split at h;rotate_left;simp at h;rename_i eu heu;obtain⟨e',cs,h1,h2,h3,h4⟩:=ZeB (i:=i) hT (ZE hT hd) h;refine⟨e',cs, ?_,h2,h3,h4⟩;simp only[Zd,Zr he,hsl,Zw heu,ZbF hX ha,ZbF hX hb,ZbF hX hc,Zb hX hd,h1]
 ·simp at h
theorem ZfM {t:Nat} {e:TT U} {fs:List (Nat×Nat)} (he:X.get t=some e) (hd:e.ti.d= .struct fs):∃a b c,X.E.ty t=some ⟨.struct fs,a,b,c⟩:=by have:=Zw he;obtain⟨⟨d,a,b,c⟩,_,_,_,_⟩:=e;dsimp only at hd;subst hd;exact⟨a,b,c,this⟩
theorem Zff (hX:TOk X) (hT:T.Inv) {t f:Nat} {x:Operand} (h:ZbZ X T t x f k=some r):Snd X T i (.fieldAddr t x f) ty k r:=by
 unfold ZbZ at h;split at h;rotate_left;simp at h;rename_i e d he hd;split at h;rotate_left;simp at h;rename_i fs hfs;obtain⟨a,b,c,hty⟩:=ZfM he hfs;split at h;rotate_left;simp at h;rename_i off ft hf;split at h;rotate_left;simp at h;rename_i tf htf;split at h
 ·simp at h
 ·rename_i hz;split at h
  ·refine⟨_,[], ?_,by simp,ZJ.pure (Zf rfl),h⟩;simp only[Zd,hty,hf,Zw htf,hz,if_false,Zb hX hd,TV.enc,Zh.enc,Znt,Znr]
  ·refine⟨_,[], ?_,by simp,ZJ.pure (Zf rfl),h⟩;simp only[Zd,hty,hf,Zw htf,hz,if_false,Zb hX hd,TV.enc,Zh.enc,Znt]
  ·simp at h
theorem ZdD (ds:List D):(∃ps,ds=ps.map .p∧D.mkAgg ds= .p (.agg ps))∨D.mkAgg ds= .agg ds:=by
 unfold D.mkAgg;cases h:Zm D.pure? ds with
 |none=>exact .inr rfl
 |some ps=>exact .inl ⟨ps,Zu h,rfl⟩
theorem Zje (hU:UOk U) (hX:TOk X) (hT:T.Inv) {t f:Nat} {x:Operand} (h:ZgW X T t x f k=some r):Snd X T i (.field t x f) ty k r:=by
 unfold ZgW at h;split at h;rotate_left;simp at h;rename_i e d he hd;split at h;rotate_left;simp at h;rename_i fs hfs;obtain⟨a,b,c,hty⟩:=ZfM he hfs;split at h;rotate_left;simp at h;rename_i off ft hf;split at h;rotate_left;simp at h;rename_i tf htf;split at h
 ·simp at h
 ·rename_i hz;split at h
  ·rename_i n x';split at h;rotate_left;simp at h;rename_i y hy;obtain⟨p,h1,h2⟩:=Za3 hU hX htf hy;refine⟨_,[], ?_,by simp,ZJ.pure (ZaD (fun c hc=> ?_) hy),h⟩
   ·rw[Znr]at h1;simp only[Zd,hty,hf,Zw htf,hz,if_false,Zb hX hd,TV.enc,Zc.encE,hU.enc_cells,h1,Zny,Zh.enc,h2,Znt]
   ·obtain⟨l,_,rfl⟩:=Znc.1 hc;exact Zah _ _
  ·rename_i cs;split at h;rotate_left;simp at h;rename_i y hy;have h1:=Zce hU hX htf hy;refine⟨_,[], ?_,by simp,ZJ.pure (ZaD (fun c hc=>Zho (ZE hT hd) c (Znw hc)) hy),h⟩;rw[Zbs]at h1;have hev:=Zb hX hd;rw[TV.enc]at hev;rcases ZdD (TV.encs cs)with ⟨ps,q1,q2⟩ |q2
   ·rw[q2]at hev;rw[q1,←Znr,ZjB]at h1;cases hq:ZdI tf.ti (ps.drop off)with
    |none=>rw[hq]at h1;simp at h1
    |some p=>
     rw[hq]at h1;simp only[Zny,ZmR]at h1;simp only[Zd,hty,hf,Zw htf,hev,hz,if_false,hq,Zny,Zh.enc,Znt,←h1]
   ·rw[q2]at hev;simp only[Zd,hty,hf,Zw htf,hev,hz,if_false,h1,Zny,Zh.enc,Znt]
  ·simp at h
end
end Eng
namespace Eng
open Go
section
variable {U:Zc} {R:Type} {X:ZG U} {T:TS U} {i ty:Nat} {k:Zh U→Option R} {r:R}
theorem ty_sl {t u:Nat} {e:TT U} (he:X.get t=some e) (hd:e.ti.d= .sl u):∃a b c,X.E.ty t=some ⟨.sl u,a,b,c⟩:=by have:=Zw he;obtain⟨⟨d,a,b,c⟩,_,_,_,_⟩:=e;dsimp only at hd;subst hd;exact⟨a,b,c,this⟩
theorem ty_arr {t m u:Nat} {e:TT U} (he:X.get t=some e) (hd:e.ti.d= .arr m u):∃a b c,X.E.ty t=some ⟨.arr m u,a,b,c⟩:=by have:=Zw he;obtain⟨⟨d,a,b,c⟩,_,_,_,_⟩:=e;dsimp only at hd;subst hd;exact⟨a,b,c,this⟩
theorem ZkX {t a b:Nat} {e:TT U} (he:X.get t=some e) (hd:e.ti.d= .map a b):∃x y z,X.E.ty t=some ⟨.map a b,x,y,z⟩:=by have:=Zw he;obtain⟨⟨d,x,y,z⟩,_,_,_,_⟩:=e;dsimp only at hd;subst hd;exact⟨x,y,z,this⟩
theorem as_eq {car:Nat→Type} {l:Lf car} {t:Ty} {x:El car t} (h:l.as t=some x):l=⟨t,x⟩:=by unfold Lf.as at h;split at h;rotate_left;simp at h;rename_i he;obtain⟨t',y⟩:=l;dsimp only at he;subst he;cases h;rfl
theorem ZfO {cs:List (Lf U.car)}:∀(ts:List Ty) (n:Nat) (k:List (Lf U.car)→Option R) {r:R},tabK cs ts n k=some r→∃ls,cs.drop n=ls++cs.drop (n+ls.length)∧k ls=some r
 | [],n,k,r,h=>⟨[],by simp,h⟩
 |t::ts,n,k,r,h=>by simp only[tabK]at h;obtain⟨x,hx,h⟩:=bind_some h;obtain⟨ls,h1,h2⟩:=ZfO ts (n+1) _ h;unfold tabB at hx;split at hx;rotate_left;simp at hx;rename_i l hl;obtain⟨hlt,hle⟩:=ZmA.1 hl;have:=as_eq hx;refine⟨⟨t,x⟩::ls, ?_,h2⟩;rw[List.drop_eq_getElem_cons hlt,hle,this,h1,List.cons_append,List.length_cons];congr 3;omega
theorem Zfe (hU:UOk U) (hX:TOk X) (hT:T.Inv) {t:Nat} {x ix:Operand} (h:ZbY X T t x ix k=some r):Snd X T i (.indexAddr t x ix) ty k r:=by
 unfold ZbY at h;split at h;rotate_left;simp at h;rename_i e d k1 n he hd hn;split at h
 ·rename_i u hu;obtain⟨a,b,c,hty⟩:=ty_sl he hu;split at h;rotate_left;simp at h;rename_i eu heu;split at h
  ·rename_i t' xs;split at h;rotate_left;simp at h;rename_i hs;obtain⟨y,hy,h⟩:=bind_some h;obtain⟨i1,i2,i3⟩:=ZhP hy;refine⟨_,[true], ?_,by simp,ZJ.pure (Zf rfl),h⟩;simp only[Zd,Zb hX hn,Zb hX hd,TV.enc,Zc.encE,hty,Zw heu,hs,if_true,Zh.enc,Znt];rw[Zfu i3,Zav hU,Znp,decide_eq_true (⟨i1,i2⟩:0≤n∧n < (xs.length:Int))]
  ·rename_i id m;split at h;rotate_left;simp at h;rename_i t' xs fix ho;split at h;rotate_left;simp at h;rename_i hs;obtain⟨hc,h⟩:=Zo h;refine⟨_,[_], ?_,Zv hc,ZJ.pure (Zf rfl),h⟩;simp only[Zd,Zb hX hn,Zb hX hd,TV.enc,Zc.encE,hty,Zw heu,Zg ho,ZM,hs,if_true,Zh.enc,Znt,Za5 hT hd ho,Znh]
  ·rename_i id off len;split at h;rotate_left;simp at h;rename_i t' xs fix ho;split at h;rotate_left;simp at h;rename_i hs;obtain⟨hc,h⟩:=Zo h;refine⟨_,[_], ?_,Zv hc,ZJ.pure (Zf rfl),h⟩;simp only[Zd,Zb hX hn,Zb hX hd,TV.enc,Zc.encE,hty,Zw heu,Zg ho,ZM,hs,if_true,Zh.enc,Znt]
  ·simp at h
 ·rename_i m u hu;obtain⟨a,b,c,hty⟩:=ty_arr he hu;split at h;rotate_left;simp at h;rename_i eu heu;split at h
  ·rename_i cs;obtain⟨hc,h⟩:=Zo h;cases hm:Nat.blt 8 m with
   |true=>
    rw[hm,cond_true]at h;split at h;rotate_left;simp at h;obtain⟨ls,h1,h2⟩:=ZfO _ _ _ h;rw[←h1]at h2;refine⟨_,[_], ?_,Zv hc,ZJ.pure (Zf rfl),h2⟩;simp only[Zd,Zb hX hn,Zb hX hd,TV.enc,Zc.encE,hty,Zw heu,Zh.enc,Znt,Znr]
   |false=>
    rw[hm,cond_false]at h;refine⟨_,[_], ?_,Zv hc,ZJ.pure (Zf rfl),h⟩;simp only[Zd,Zb hX hn,Zb hX hd,TV.enc,Zc.encE,hty,Zw heu,Zh.enc,Znt,Znr]
  ·obtain⟨hc,h⟩:=Zo h;refine⟨_,[_], ?_,Zv hc,ZJ.pure (Zf rfl),h⟩;simp only[Zd,Zb hX hn,Zb hX hd,TV.enc,Zc.encE,hty,Zw heu,Zh.enc,Znt]
  ·simp at h
 ·simp at h
theorem Zjd (hX:TOk X) (hT:T.Inv) {t:Nat} {x ix:Operand} (h:ZgV X T t x ix k=some r):Snd X T i (.index t x ix) ty k r:=by unfold ZgV at h;split at h;rotate_left;simp at h;rename_i e s k1 n he hd hn;split at h;rotate_left;simp at h;rename_i hs;obtain⟨y,hy,h⟩:=bind_some h;obtain⟨i1,i2,i3⟩:=ZhP hy;refine⟨_,[true], ?_,by simp,ZJ.pure (Zah _ _),h⟩;simp only[Zd,Zb hX hn,Zb hX hd,TV.enc,Zc.encE,Zr he,hs,Zh.enc,Znt];rw[Znl,i3,decide_eq_true (⟨i1,i2⟩:0≤n∧n < (s.length:Int))];rfl
theorem Zdi {a:Ty} (ha:a.isKey=true) (x y:El U.car a):P.key (U.encE a x) (U.encE a y)=ZlP a x y:=by
 cases a<;>simp only[Ty.isKey,Zmu]at ha
 ·rfl
 ·simp only[Zc.encE,P.key,P.eqv,P.eqc,if_true,Option.getD_some];rfl
 ·rfl
theorem ZcJ {a:Ty} (ha:a.isKey=true) (x:El U.car a):Zn a.td (U.encE a x)=true:=by
 cases a<;>simp only[Ty.isKey,Zmu]at ha
 ·rfl
 ·simp[Ty.td,Zc.encE,Zn]
 ·rfl
theorem ZhV {a b:Ty} (ha:a.isKey=true) (x:El U.car a):∀kv:List (El U.car a×El U.car b),(kv.map fun e=>(U.encE a e.1,U.encE b e.2)).find? (fun e=>P.key (U.encE a x) e.1)=(kv.find? fun e=>ZlP a x e.1).map fun e=>(U.encE a e.1,U.encE b e.2)
 | []=>rfl
 |e::r=>by
  simp only[ZmD,List.find?_cons,Zdi ha];split
  ·rfl
  ·exact ZhV ha x r
theorem ZhK {a b:Ty} (ha:a.isKey=true) (x:El U.car a) (kv:List (El U.car a×El U.car b)):Zbq (kv.map fun e=>(U.encE a e.1,U.encE b e.2)) (U.encE a x)=(Zg3 kv x).map (U.encE b):=by unfold Zbq Zg3;rw[ZhV ha];cases kv.find? fun e=>ZlP a x e.1<;>rfl
theorem Zls {a b:Ty} (ha:a.isKey=true) (x:El U.car a) (y:El U.car b) (kv:List (El U.car a×El U.car b)):Zi0 (kv.map fun e=>(U.encE a e.1,U.encE b e.2)) (U.encE a x) (U.encE b y)=(setB kv x y).map fun e=>(U.encE a e.1,U.encE b e.2):=by
 unfold Zi0 setB;simp only[List.any_map,Function.comp_def,Zdi ha];split;rotate_left;simp;simp only[Zns];refine List.map_congr_left fun e _=> ?_
 simp only[Function.comp,Zdi ha];split<;>rfl
theorem ZlX {a b:Ty} (ha:a.isKey=true) (x:El U.car a) (kv:List (El U.car a×El U.car b)):Zkd (kv.map fun e=>(U.encE a e.1,U.encE b e.2)) (U.encE a x)=(delB kv x).map fun e=>(U.encE a e.1,U.encE b e.2):=by
 unfold Zkd delB;rw[List.filter_map];congr 1;refine List.filter_congr fun e _=> ?_
 simp only[Function.comp,Zdi ha]
theorem ZlL (hX:TOk X) {t:Nat} {x:Operand} {d:TV U} (hd:evT X T.slots t x=some d) {l:Lf U.car} (h:mapT T d=some l) {a b:Ty} {kv:List (El U.car a×El U.car b)} (hl:l.as (.map a b)=some kv):
  Zfp T.enc.objs (ev X.E T.enc.slots t x)=some (a.td,kv.map fun e=>(U.encE a e.1,U.encE b e.2)):=by
 rw[Zb hX hd];unfold mapT at h;split at h
 ·cases h;have:=ZN hl;cases this;rfl
 ·split at h;rotate_left;simp at h;rename_i ho;cases h;have:=ZN hl;cases this;simp only[TV.enc,Zfp,Zg ho,Z0]
 ·simp at h
theorem Zg5 (hX:TOk X) (hT:T.Inv) {t:Nat} {x:Operand} {d:TV U} (hd:evT X T.slots t x=some d) {l:Lf U.car} (h:T.lf1 d=some l) {a:Ty} {key:El U.car a} (hl:l.as a=some key) (m:Nat):(ev X.E T.enc.slots t x).toP T.enc.objs m=some (U.encE a key):=by rw[Zb hX hd,ZcI (ZE hT hd) h m,ZN hl];rfl
theorem Zib (hX:TOk X) (hT:T.Inv) {t:Nat} {m q:Operand} {ok:Bool} (h:Zfk X T t m q ok k=some r):Snd X T i (.lookup t m q ok) ty k r:=by
 unfold Zfk at h;split at h;rotate_left;simp at h;rename_i e he;split at h;rotate_left;simp at h;rename_i kt vt a b hd _;obtain⟨p1,p2,p3,hty⟩:=ZkX he hd;split at h;rotate_left;simp at h;rename_i ev' dm dk hev hm hk;split at h;rotate_left;simp at h;rename_i lm lk z0 hlm hlk hz0;split at h;rotate_left;simp at h;rename_i kv key z hkv hkey hz;split at h;rotate_left;simp at h;rename_i hc;have hzp:=hX.zl vt ev' z0 hev hz0;rw[ZN hz]at hzp;have hzp':U.encE b z=ev'.ti.zeroP:=hzp;have c0:((X.E.keyTD t).same a.td&&Zn a.td (U.encE a key))=true:=by rw[hc.2,ZcJ hc.1];rfl
 have hmo:=ZlL hX hm hlm hkv;have hkp:=Zg5 hX hT hk hlk hkey 1;cases ok
 ·refine⟨_,[], ?_,by simp,ZJ.pure (Zah _ _),h⟩;simp only[Zd,hty,Zw hev,hmo,hkp,c0,if_true,ZhK hc.1,Zh.enc,Znt,TV.enc];cases Zg3 kv key<;>simp[hzp']
 ·refine⟨_,[], ?_,by simp,ZJ.pure (Zf (by simp[TV.fulls,TV.fullsL])),h⟩;simp only[Zd,hty,Zw hev,hmo,hkp,c0,if_true,ZhK hc.1,Zh.enc,Znt,TV.enc,TV.encs];cases Zg3 kv key<;>simp[hzp',Zc.encE]
theorem Zi3 (hU:UOk U) (hX:TOk X) (hT:T.Inv) {t:Nat} {m q v:Operand} (h:Za2 X T t m q v k=some r):
  ∃e cs,ZX X.E T.enc.slots T.enc.objs t m q v=some (e.enc cs)∧(∀q∈cs,q=true)∧ZJ T i e∧k e=some r:=by
 unfold Za2 at h;split at h;rotate_left;simp at h;rename_i e he;split at h;rotate_left;simp at h;rename_i kt vt a b hd _;obtain⟨p1,p2,p3,hty⟩:=ZkX he hd;split at h;rotate_left;simp at h;rename_i ev' id dk dv hev hm hk hv;split at h;rotate_left;simp at h;rename_i a' b' kv0 lk lv' ho hlk hlv;split at h;rotate_left;simp at h;rename_i kv key y hkv hkey hy;split at h;rotate_left;simp at h;rename_i hc;have hab:=ZN hkv;cases hab;have c0:((X.E.keyTD t).same a.td&&Zn a.td (U.encE a key))=true:=by rw[hc.2,ZcJ hc.1];rfl
 have hkp:=Zg5 hX hT hk hlk hkey 1;have hvp:=ZeR hU (ZE hT hv) hlv 7;rw[ZN hy]at hvp;have hem:ev X.E T.enc.slots 0 m= .map id:=by rw[Zb hX hm];rfl
 refine⟨_,[], ?_,by simp,Zb4 rfl (fun t' xs fix hq=>by cases hq) (fun _=>by trivial),h⟩;simp only[ZX,hty,hem,Zg ho,Z0,hkp,Zb hX hv,depth,hvp,c0,if_true,Zc.encL,Zls hc.1,Zh.enc,Znt,ZmD,TV.enc]
theorem Zic (hX:TOk X) (hT:T.Inv) {t u:Nat} {m q:Operand} (h:Zfl X T t u m q k=some r):∃e cs,Zd2 X.E T.enc.objs [t,u] [ev X.E T.enc.slots t m,ev X.E T.enc.slots u q]=some (e.enc cs)∧(∀q∈cs,q=true)∧ZJ T i e∧k e=some r:=by
 unfold Zfl at h;split at h;rotate_left;simp at h;rename_i e id dk he hm hk;split at h;rotate_left;simp at h;rename_i a1 b1 a b kv lk hd ho hlk;split at h;rotate_left;simp at h;rename_i key hkey;split at h;rotate_left;simp at h;rename_i hc;have c0:((X.E.keyTD t).same a.td&&Zn a.td (U.encE a key))=true:=by rw[hc.2,ZcJ hc.1];rfl
 have hkp:=Zg5 hX hT hk hlk hkey 1;have hem:ev X.E T.enc.slots t m= .map id:=by rw[Zb hX hm];rfl
 refine⟨_,[], ?_,by simp,Zb4 rfl (fun t' xs fix hq=>by cases hq) (fun _=>by trivial),h⟩;simp only[Zd2,hem,Zr he,hd,Zg ho,Z0,hkp,c0,if_true,ZlX hc.1,Zh.enc,Znt,ZmD,TV.enc]
theorem Zjc (hX:TOk X) (hT:T.Inv) {t:Nat} {x:Operand} (h:ZgU X T i t x k=some r):Snd X T i (.range t x) ty k r:=by
 unfold ZgU at h;split at h
 ·rename_i e s he hd;split at h;rotate_left;simp at h;rename_i hs;refine⟨_,[], ?_,by simp,Zdk rfl (fun _=>by trivial),h⟩;simp only[Zd,Zr he,hs,Zb hX hd,TV.enc,Zc.encE,Zh.enc,ZmD,Znt,ZbS]
 ·rename_i e a b kv he hd;split at h;rotate_left;simp at h;rename_i hs;refine⟨_,[], ?_,by simp,Zdk rfl (fun _=>by trivial),h⟩;simp only[Zd,Zr he,hs,Zb hX hd,TV.enc,Zc.encE,Zh.enc,ZmD,Znt,Zbt,Option.map_none]
 ·rename_i e id he hd;split at h;rotate_left;simp at h;rename_i a1 b1 a b kv hs ho;refine⟨_,[], ?_,by simp,Zdk rfl (fun _=>by trivial),h⟩;simp only[Zd,Zr he,hs,Zb hX hd,TV.enc,Zg ho,Z0,Zh.enc,ZmD,Znt,Zbt,Option.map_none]
 ·simp at h
theorem Zkk (hX:TOk X) (hT:T.Inv) {x:Operand} (h:Zjs X T x k=some r):Snd X T i (.next x true) ty k r:=by
 unfold Zjs at h;split at h;rotate_left;simp at h;rename_i id hd;split at h;rotate_left;simp at h;rename_i s pos ho
 by_cases hp:pos < s.length
 ·rw[decide_eq_true hp]at h;refine⟨_,[], ?_,by simp,Zb4 (by simp[TV.fulls,TV.fullsL]) (fun t' xs fix hq=>by cases hq) (fun _=>by trivial),h⟩;simp only[Zd,Zb hX hd,TV.enc,TV.encs,Zc.encE,Zg ho,ZbS,if_pos hp,Zh.enc,ZmD,Znt]
 ·rw[decide_eq_false hp]at h;refine⟨_,[], ?_,by simp,ZJ.pure (Zf (by simp[TV.fulls,TV.fullsL])),h⟩;simp only[Zd,Zb hX hd,TV.enc,TV.encs,Zc.encE,Zg ho,ZbS,if_neg hp,Zh.enc,Znt]
theorem Zjf (hX:TOk X) (hT:T.Inv) {x:Operand} (h:ZgX X T x k=some r):Snd X T i (.entry x) ty k r:=by unfold ZgX at h;split at h;rotate_left;simp at h;rename_i id hd;split at h;rotate_left;simp at h;rename_i a b rest p q ho;refine⟨_,[], ?_,by simp,ZJ.pure (Zf (by simp[TV.fulls,TV.fullsL])),h⟩;simp only[Zd,Zb hX hd,TV.enc,TV.encs,Zg ho,Zbt,Zny,Zh.enc,Znt]
theorem ZgL (hX:TOk X) (hT:T.Inv) {x:Operand} {ix:Nat} (h:Zdz X T x ix k=some r):Snd X T i (.extract x ix) ty k r:=by unfold Zdz at h;split at h;rotate_left;simp at h;rename_i vs hd;split at h;rotate_left;simp at h;rename_i d hv;refine⟨_,[], ?_,by simp,ZJ.pure (fun q hq=>ZE hT hd q (Zs.2 ⟨d,List.mem_of_getElem? hv,hq⟩)),h⟩;simp only[Zd,Zb hX hd,TV.enc,ZaN,ZmB,hv,Zny,Zh.enc,Znt]
theorem Zlo (hX:TOk X) (hT:T.Inv) {t:Nat} {x:Operand} (h:ZlA X T t x k=some r):∃e cs,Zit X.E T.enc.objs [t] [ev X.E T.enc.slots t x]=some (e.enc cs)∧(∀q∈cs,q=true)∧ZJ T i e∧k e=some r:=by
 unfold ZlA at h;split at h;rotate_left;simp at h;rename_i e d he hd;have hev:=Zb hX hd;split at h
 ·rename_i htd;split at h;rotate_left;simp at h;refine⟨_,[], ?_,by simp,ZJ.pure (Zah _ _),h⟩;simp only[Zit,Zr he,htd,hev,TV.enc,Zc.encE,Zga,Zh.enc,Znt]
 ·rename_i u htd;split at h
  ·refine⟨_,[], ?_,by simp,ZJ.pure (Zah _ _),h⟩;simp only[Zit,Zr he,htd,hev,TV.enc,Zc.encE,Zga,Zh.enc,Znt,Znp]
  ·refine⟨_,[], ?_,by simp,ZJ.pure (Zah _ _),h⟩;simp only[Zit,Zr he,htd,hev,TV.enc,Zc.encE,Zga,Zh.enc,Znt,Znp]
  ·refine⟨_,[], ?_,by simp,ZJ.pure (Zah _ _),h⟩;simp only[Zit,Zr he,htd,hev,TV.enc,Zc.encE,Zga,Zh.enc,Znt]
  ·split at h;rotate_left;simp at h;rename_i ho;refine⟨_,[], ?_,by simp,ZJ.pure (Zah _ _),h⟩;simp only[Zit,Zr he,htd,hev,TV.enc,Zc.encE,Zga,Zh.enc,Znt,Za5 hT hd ho]
  ·refine⟨_,[], ?_,by simp,ZJ.pure (Zah _ _),h⟩;simp only[Zit,Zr he,htd,hev,TV.enc,Zc.encE,Zga,Zh.enc,Znt]
  ·simp at h
 ·rename_i u v htd;split at h;rotate_left;simp at h;rename_i a b kv hm;obtain⟨hc,h⟩:=Zo h;refine⟨_,[_], ?_,Zv hc,ZJ.pure (Zah _ _),h⟩;unfold mapT at hm;split at hm
  ·simp only[ZmR]at hm;cases hm;simp only[Zit,Zr he,htd,hev,TV.enc,Zc.encE,Zga,Zh.enc,Znt,Znp]
  ·split at hm;rotate_left;simp at hm;rename_i ho;simp only[ZmR]at hm;cases hm;simp only[Zit,Zr he,htd,hev,TV.enc,Zg ho,Z0,Zc.encE,Zga,Zh.enc,Znt,Znp]
  ·simp at hm
 ·rename_i n u htd;obtain⟨hc,h⟩:=Zo h;refine⟨_,[_], ?_,Zv hc,ZJ.pure (Zah _ _),h⟩;simp only[Zit,Zr he,htd,Zga,Zh.enc,Znt,TV.enc,Zc.encE]
 ·simp at h
theorem Zdh (hT:T.Inv) {t:Nat} {x:Operand} {d:TV U} (hX:TOk X) (hd:evT X T.slots t x=some d) {u:Ty} {ys:List (El U.car u)} (h:Zmc T d u=some ys):Zcz T.enc.objs (U.tsize u) d.enc=some (ys.map (U.encE u)):=by
 unfold Zmc at h;split at h
 ·split at h;rotate_left;simp at h;cases h;simp only[Zcz,TV.enc,Zc.encE,Zc.tsize,if_true,ZaF,Zns];rfl
 ·rename_i hns;split at h;rotate_left;simp at h;rename_i l hl;split at h;rotate_left;simp at h;rename_i ys' hys;cases h;have ht:=ZcI (ZE hT hd) hl 1;rw[ZN hys]at ht;unfold Zcz;split
  ·rename_i s hs;rw[hs]at ht;simp only[Zi7,ZmR,Zc.encL,Zc.encE,reduceCtorEq]at ht
  ·simp only[ht,Zc.encL,Zc.encE,if_true]
theorem ZaW {α:Type} (xs ys:List α):List.append xs ys=xs++ys:=rfl
theorem Zhx (hX:TOk X) (hT:T.Inv) {t:Nat} {s:Operand} {e:TT U} {d:TV U} (hd:evT X T.slots t s=some d) (hsz:U.tsize e.ty=e.ti.size) {ys:List (El U.car e.ty)} (h:appX T i e d ys k=some r):
  ∃ef cs,Z6 T.enc.objs T.ep i e.ti d.enc (ys.map (U.encE e.ty))=some (ef.enc cs)∧(∀q∈cs,q=true)∧ZJ T i ef∧k ef=some r:=by
 unfold appX at h;split at h
 ·obtain⟨hc,h⟩:=Zo h;refine⟨_,[_], ?_,Zv hc,Za8 rfl (by simp),h⟩;simp only[Z6,TV.enc,Znp,Zh.enc,ZmD,Znt,ZM,hsz,ZiZ]
 ·split at h;rotate_left;simp at h;rename_i xs hxs;obtain⟨hc1,h⟩:=Zo h;obtain⟨hc2,h⟩:=Zo h;have:=ZN hxs;cases this;refine⟨_,[true], ?_,by simp,Za8 (by rw[ZaW,Zno]) (by simp),h⟩;have c1:List.isEmpty ys=false:=by simpa using hc1
  have c2:(Znn xs+ys.length)*max e.ti.bytes 1≤ZO:=by simpa[ZiZ]using hc2
  simp only[Z6,TV.enc,hsz,if_true,Znp,Zh.enc,ZmD,Znt,ZM,ZaW,Znq,List.isEmpty_map];rw[decide_eq_true ⟨c1,c2⟩]
 ·rename_i id n;split at h;rotate_left;simp at h;rename_i t' xs0 ho;split at h;rotate_left;simp at h;rename_i xs hxs;obtain⟨hc,h⟩:=Zo h;have:=ZN hxs;cases this;refine⟨_,[_], ?_,Zv hc,Za8 (by rw[ZaW,Zno]) (by simp),h⟩;have hl:n=Znn xs:=Za5 hT hd ho;simp only[Z6,TV.enc,Zg ho,ZM,hsz,if_true,Znp,Zh.enc,ZmD,Znt,Za7,ZaW,Znq,hl,ZiZ,Zhv]
 ·rename_i id len;split at h;rotate_left;simp at h;rename_i t' xs0 ho;split at h;rotate_left;simp at h;rename_i xs hxs;obtain⟨hc1,h⟩:=Zo h;obtain⟨hc,h⟩:=Zo h;have:=ZN hxs;cases this;have hle:len≤Znn xs:=by simpa using hc1
  refine⟨_,[_], ?_,Zv hc,Za8 (by rw[ZaW,Zno,List.length_take,Nat.min_eq_left hle]) (by simp),h⟩;simp only[Z6,TV.enc,Zg ho,ZM,hsz,if_true,Znp,Zh.enc,ZmD,Znt,Za7,ZaW,Znq,ZiZ,Znu]
 ·simp at h
theorem Zie (hX:TOk X) (hT:T.Inv) {t u:Nat} {s x:Operand} (h:Zfn X T i t u s x k=some r):
  ∃e cs,Zb6 X.E T.ep i T.enc.objs [t,u] [ev X.E T.enc.slots t s,ev X.E T.enc.slots u x]=some (e.enc cs)∧(∀q∈cs,q=true)∧ZJ T i e∧k e=some r:=by
 unfold Zfn at h;split at h;rotate_left;simp at h;rename_i e eu d dx he heu hd hdx;split at h;rotate_left;simp at h;rename_i hsz;split at h
 ·rename_i h2;split at h;rotate_left;simp at h;rename_i ys hys;have hsrc:=Zdh hT hX hdx hys;rw[hsz]at hsrc;have happ:Zb6 X.E T.ep i T.enc.objs [t,u] [ev X.E T.enc.slots t s,ev X.E T.enc.slots u x]=ZaH T.enc.objs T.ep i e.ti d.enc dx.enc:=by unfold Zb6;simp only[ZaE he,Zr heu,Zb hX hd,Zb hX hdx];revert h2;cases eu.ti.d<;>simp[Zki]
  rw[happ,ZaH,hsrc];exact Zhx hX hT hd hsz h
 ·split at h;rotate_left;simp at h;rename_i k0 a z hk hz;split at h;rotate_left;simp at h;rename_i z' hz';obtain⟨hc,h⟩:=Zo h;have hget:∃u',X.get u'=some e:=by unfold ZG.elem at he;split at he;rotate_left;simp at he;split at he;rotate_left;simp at he;exact⟨_,he⟩
  obtain⟨u',hu⟩:=hget;have hzp:=hX.zl u' e z hu hz;rw[ZN hz']at hzp;obtain⟨ef,cs,q1,q2⟩:=Zhx hX hT hd hsz h;refine⟨ef,cs, ?_,q2⟩;rw[List.map_replicate,show U.encE e.ty z'=e.ti.zeroP from hzp]at q1;unfold Zb6;simp only[ZaE he,Zr heu,Zb hX hd,Zb hX hdx,hk,TV.enc,Zc.encE,if_pos (of_decide_eq_true hc)];exact q1
theorem Zkn (hX:TOk X) (hT:T.Inv) {t u:Nat} {d s:Operand} (h:Zjv X T t u d s k=some r):
  ∃e cs,ZiK X.E T.enc.objs [t,u] [ev X.E T.enc.slots t d,ev X.E T.enc.slots u s]=some (e.enc cs)∧(∀q∈cs,q=true)∧ZJ T i e∧k e=some r:=by
 unfold Zjv at h;split at h;rotate_left;simp at h;rename_i e dd ds he hd hs;split at h
 ·rename_i id n;split at h;rotate_left;simp at h;rename_i t' xs fix ho;split at h;rotate_left;simp at h;rename_i ys hys;have hsrc:=Zdh hT hX hs hys;split at h;rotate_left;simp at h;rename_i hsz;have hl:n=Znn xs:=Za5 hT hd ho;refine⟨_,[], ?_,by simp,Zb4 (by simp[TV.fulls]) (fun t2 xs2 fix2 hq=> ?_) (fun _=>by trivial),h⟩
  ·simp only[ZiK,ZaE he,Zb hX hd,Zb hX hs,TV.enc,ZfC,Zg ho,ZM,hsrc,hsz.symm,if_true,Zh.enc,ZmD,Znt,hl,Znp,Zc.encE,ZP];congr 4;simp only[List.take_zero,List.nil_append,List.length_take,Znp,Znh,Znq,Znu,Znr];have e1:List.take (min ys.length xs.length) (List.map (U.encE t') ys)=List.take xs.length (List.map (U.encE t') ys):=by rw[List.take_eq_take_iff];simp[Nat.min_comm]
   have e2:min (min ys.length xs.length) ys.length=min ys.length xs.length:=by omega
   rw[e1,e2];congr 1;rcases Nat.le_total ys.length xs.length with hh |hh
   ·rw[Nat.min_eq_left hh]
   ·rw[Nat.min_eq_right hh,List.drop_eq_nil_of_le (by simp),List.drop_eq_nil_of_le (by simpa using hh)]
  ·cases hq;refine⟨_,_,_,ho, ?_⟩;simp only[Zno,List.length_take,List.length_drop];omega
 ·rename_i id off len;split at h;rotate_left;simp at h;rename_i t' xs fix ho;split at h;rotate_left;simp at h;rename_i ys hys;have hsrc:=Zdh hT hX hs hys;split at h;rotate_left;simp at h;rename_i hsz;obtain⟨hc,h⟩:=Zo h;have hle:off+len≤Znn xs:=by simpa using hc
  refine⟨_,[], ?_,by simp,Zb4 (by simp[TV.fulls]) (fun t2 xs2 fix2 hq=> ?_) (fun _=>by trivial),h⟩
  ·simp only[ZiK,ZaE he,Zb hX hd,Zb hX hs,TV.enc,ZfC,Zg ho,ZM,hsrc,hsz.symm,if_true,Zh.enc,ZmD,Znt,Znp,Zc.encE,ZcA,Znu]
  ·cases hq;refine⟨_,_,_,ho, ?_⟩;simp only[ZP,Zno,List.length_take,List.length_drop];omega
 ·simp at h
theorem ZbI (hX:TOk X):∀{xs:List Operand} {ts:List Nat} {ds:List (TV U)},Zdc X T.slots xs ts=some ds→ZT X.E T.enc.slots xs ts=TV.encs ds
 | [],ts,ds,h=>by cases ts<;>simp[Zdc]at h<;>subst h<;>rfl
 |x::xs,[],ds,h=>by simp only[Zdc]at h;split at h;rotate_left;simp at h;rename_i d r h1 h2;cases h;simp only[ZT,TV.encs,Zb hX h1,ZbI hX h2]
 |x::xs,t::ts,ds,h=>by simp only[Zdc]at h;split at h;rotate_left;simp at h;rename_i d r h1 h2;cases h;simp only[ZT,TV.encs,Zb hX h1,ZbI hX h2]
theorem Zd8 (hT:T.Inv):∀{xs:List Operand} {ts:List Nat} {ds:List (TV U)},Zdc X T.slots xs ts=some ds→∀d∈ds,d.inv T.objs
 | [],ts,ds,h=>by cases ts<;>simp[Zdc]at h<;>subst h<;>simp
 |x::xs,[],ds,h=>by
  simp only[Zdc]at h;split at h;rotate_left;simp at h;rename_i d r h1 h2;cases h;intro a ha;rcases ZmF.1 ha with rfl |ha
  ·exact ZE hT h1
  ·exact Zd8 hT h2 a ha
 |x::xs,t::ts,ds,h=>by
  simp only[Zdc]at h;split at h;rotate_left;simp at h;rename_i d r h1 h2;cases h;intro a ha;rcases ZmF.1 ha with rfl |ha
  ·exact ZE hT h1
  ·exact Zd8 hT h2 a ha
theorem ZkY (hX:TOk X) (hT:T.Inv) {mx:Bool} {args:List Operand} {ats:List Nat} (h:opMM X T mx args ats k=some r):
  ∃e cs,ZI X.E T.ep i T.enc.objs (if mx then .max else .min) ats (ZT X.E T.enc.slots args ats)=some (e.enc cs)∧(∀q∈cs,q=true)∧ZJ T i e∧k e=some r:=by
 unfold opMM at h;split at h;rotate_left;simp at h;rename_i ds hds;split at h;rotate_left;simp at h;rename_i z hz;split at h;rotate_left;simp at h;rename_i d hd;obtain⟨q1,q2⟩:=Zcl hd;refine⟨_,[], ?_,by simp,ZJ.pure (Zf q2),h⟩;cases mx<;>simp only[Zmu,if_false,if_true]at hz<;>simp only[Zmu,if_false,if_true,ZI,ZbI hX hds,hz,Zh.enc,q1,Znt]
theorem snd (hU:UOk U) (hX:TOk X) (hT:T.Inv) {op:Op} (h:ZlZ X T i op ty k=some r):Snd X T i op ty k r:=by
 unfold ZlZ at h;split at h
 ·exact Zkl hX hT h
 ·exact Zid hX hT h
 ·exact Zkj hX hT h
 ·exact Zjh hX hT h
 ·exact Zlp hU hX hT h
 ·exact Zjg hU hX hT h
 ·exact Zel hU hX hT h
 ·exact Zkm hU hX hT h
 ·exact Zja hU hX hT h
 ·exact ZfQ hX hT h
 ·exact Zlq hU hX hT h
 ·exact snd_un hX hT h
 ·exact ZgM hX hT h
 ·exact ZfR hX hT h
 ·exact ZgK hX hT h
 ·exact Zfd hX hT h
 ·exact Zjb hX hT h
 ·exact Zff hX hT h
 ·exact Zje hU hX hT h
 ·exact Zfe hU hX hT h
 ·exact Zjd hX hT h
 ·exact Zib hX hT h
 ·exact Zi3 hU hX hT h
 ·exact Zi3 hU hX hT h
 ·exact Zjc hX hT h
 ·exact Zkk hX hT h
 ·exact Zjf hX hT h
 ·exact ZgL hX hT h
 ·rename_i b args ats;unfold Snd Zd;split at h
  ·rename_i x t hx ht;simp only[hx,ht,ZI,ZT];exact Zlo hX hT h
  ·rename_i s x t u hx ht;simp only[hx,ht,ZI,ZT];exact Zie hX hT h
  ·rename_i s x t u hx ht;simp only[hx,ht,ZI,ZT];exact Zkn hX hT h
  ·exact ZkY (mx:=true) hX hT h
  ·exact ZkY (mx:=false) hX hT h
  ·rename_i s x t u hx ht;simp only[hx,ht,ZI,ZT];exact Zic hX hT h
  ·simp at h
 ·simp at h
end
end Eng
namespace Eng
open Go
section
variable {U:Zc}
def Zlw (T:TS U) (d:TV U):Option (TV U):=
 if (d.enc.ids T.enc.objs depth).all T.fz then match d with
  | .ptr id i j=>match T.objs id with
   |some (.box cs)=>if i=0 then match Zm T.lf1 (cs.drop j)with
    |some ls=>some (.pp ls)
    |none=>none
    else none
   |_=>none
  |d=>match T.lf1 d with
   |some l=>some (lv l)
   |none=>none
 else none
def TV.can (T:TS U) (pi:List (Id×Id)):Nat→TV U→Option (TV U)
 |_,.v t x=>some (.v t x)
 |_,.pp cs=>some (.pp cs)
 |_,.nilp=>some .nilp
 |_,.nilfn=>some .nilfn
 |_,.dead=>some .dead
 |_,.undef=>some .undef
 |_,.nils t=>some (.nils t)
 |_,.clip t xs=>some (.clip t xs)
 |_,.full id n=>match ren pi id with
  |some id'=>some (.full id' n)
  |none=>Zlw T (.full id n)
 |_,.sl id off len=>match ren pi id with
  |some id'=>some (.sl id' off len)
  |none=>Zlw T (.sl id off len)
 |_,.map id=>match ren pi id with
  |some id'=>some (.map id')
  |none=>Zlw T (.map id)
 |_,.it id=>match ren pi id with
  |some id'=>some (.it id')
  |none=>none
 |_,.ptr id i j=>match ren pi id with
  |some id'=>some (.ptr id' i j)
  |none=>Zlw T (.ptr id i j)
 |n+1,.agg cs=>match Zm (TV.can T pi n) cs with
  |some ds=>some (.agg ds)
  |none=>none
 |n+1,.tup cs=>match Zm (TV.can T pi n) cs with
  |some ds=>some (.tup ds)
  |none=>none
 |n+1,.fn f a b=>match Zm (TV.can T pi n) a,Zm (TV.can T pi n) b with
  |some a',some b'=>some (.fn f a' b')
  |_,_=>none
 |_,_=>none
def TO.can (T:TS U) (pi:List (Id×Id)):TO U→Option (TO U)
 | .box cs=>match Zm (TV.can T pi depth) cs with
  |some ds=>some (.box ds)
  |none=>none
 | .gone=>none
 |o=>some o
theorem Zku (hU:UOk U) {T:TS U} {d d':TV U} (hi:d.inv T.objs) (hb:∀id cs,T.objs id=some (.box cs)→∀c∈cs,c.inv T.objs) (h:Zlw T d=some d'):D.pur T.enc.objs T.enc.fz d.enc=some d'.enc∧d'.fulls=[]:=by
 unfold Zlw at h;unfold D.pur;split at h;rotate_left;simp at h;rename_i hf;rw[if_pos (show ((d.enc.ids T.enc.objs depth).all T.enc.fz)=true from hf)];split at h
 ·rename_i id i' j;split at h;rotate_left;simp at h;rename_i cs ho;split at h;rotate_left;simp at h;rename_i h0;subst h0;split at h;rotate_left;simp at h;rename_i ls hls;cases h;have:=Zcg 7 (fun c hc=>hb id cs ho c (Znw hc)) hls;rw[Zbs]at this;simp only[TV.enc,depth,D.toP,Zg ho,ZaO,if_true,this,Zny];exact⟨trivial,rfl⟩
 ·split at h;rotate_left;simp at h;rename_i l hl;cases h;rw[ZcI hi hl depth];exact⟨rfl,rfl⟩
theorem Zhi (lk:Id→Option Obj) (fz:Id→Bool) (pi:List (Id×Id)) (n:Nat) (x:P):D.can lk fz pi n (.p x)=some (.p x):=by cases n<;>rfl
theorem ZhZ (hU:UOk U) {T:TS U} (hb:∀id cs,T.objs id=some (.box cs)→∀c∈cs,c.inv T.objs) {pi:List (Id×Id)}:∀(n:Nat) (d d':TV U),d.inv T.objs→d.can T pi n=some d'→
  d.enc.can T.enc.objs T.enc.fz pi n=some d'.enc∧∀q∈d'.fulls,∃id,ren pi id=some q.1∧(id,q.2)∈d.fulls:=by
 have pur:∀(d d':TV U),d.inv T.objs→Zlw T d=some d'→D.pur T.enc.objs T.enc.fz d.enc=some d'.enc∧∀q∈d'.fulls,∃id,ren pi id=some q.1∧(id,q.2)∈d.fulls:=fun d d' hi h=>by obtain⟨h1,h2⟩:=Zku hU hi hb h;exact⟨h1,by rw[h2];simp⟩
 have base:∀(n:Nat) (d d':TV U),(∀cs,d≠ .agg cs)→(∀cs,d≠ .tup cs)→(∀f a b,d≠ .fn f a b)→d.inv T.objs→d.can T pi n=some d'→
   d.enc.can T.enc.objs T.enc.fz pi n=some d'.enc∧∀q∈d'.fulls,∃id,ren pi id=some q.1∧(id,q.2)∈d.fulls:=by
  intro n d d' h1 h2 h3 hi h;cases d with
  |v t x=>simp only[TV.can,ZmR]at h;subst h;exact⟨Zhi _ _ _ _ _,by simp[TV.fulls]⟩
  |pp cs=>simp only[TV.can,ZmR]at h;subst h;exact⟨Zhi _ _ _ _ _,by simp[TV.fulls]⟩
  |nilp=>simp only[TV.can,ZmR]at h;subst h;exact⟨Zhi _ _ _ _ _,by simp[TV.fulls]⟩
  |nilfn=>simp only[TV.can,ZmR]at h;subst h;exact⟨Zhi _ _ _ _ _,by simp[TV.fulls]⟩
  |dead=>simp only[TV.can,ZmR]at h;subst h;exact⟨by cases n<;>rfl,by simp[TV.fulls]⟩
  |undef=>simp only[TV.can,ZmR]at h;subst h;exact⟨by cases n<;>rfl,by simp[TV.fulls]⟩
  |nils t=>simp only[TV.can,ZmR]at h;subst h;exact⟨by cases n<;>rfl,by simp[TV.fulls]⟩
  |clip t xs=>simp only[TV.can,ZmR]at h;subst h;exact⟨by cases n<;>rfl,by simp[TV.fulls]⟩
  |full id m=>
   simp only[TV.can]at h;split at h
   ·rename_i id' hr;cases h;refine⟨by cases n<;>simp only[TV.enc,D.can,hr],fun q hq=> ?_⟩;simp only[TV.fulls,ZmI]at hq;subst hq;exact⟨id,hr,by simp[TV.fulls]⟩
   ·rename_i hr;obtain⟨q1,q2⟩:=pur _ _ hi h;exact⟨by cases n<;>simp only[TV.enc,D.can,hr]<;>exact q1,q2⟩
  |sl id off len=>
   simp only[TV.can]at h;split at h
   ·rename_i id' hr;cases h;exact⟨by cases n<;>simp only[TV.enc,D.can,hr],by simp[TV.fulls]⟩
   ·rename_i hr;obtain⟨q1,q2⟩:=pur _ _ hi h;exact⟨by cases n<;>simp only[TV.enc,D.can,hr]<;>exact q1,q2⟩
  |map id=>
   simp only[TV.can]at h;split at h
   ·rename_i id' hr;cases h;exact⟨by cases n<;>simp only[TV.enc,D.can,hr],by simp[TV.fulls]⟩
   ·rename_i hr;obtain⟨q1,q2⟩:=pur _ _ hi h;exact⟨by cases n<;>simp only[TV.enc,D.can,hr]<;>exact q1,q2⟩
  |it id=>
   simp only[TV.can]at h;split at h;rotate_left;simp at h;rename_i id' hr;cases h;exact⟨by cases n<;>simp only[TV.enc,D.can,hr],by simp[TV.fulls]⟩
  |ptr id a j=>
   simp only[TV.can]at h;split at h
   ·rename_i id' hr;cases h;exact⟨by cases n<;>simp only[TV.enc,D.can,hr],by simp[TV.fulls]⟩
   ·rename_i hr;obtain⟨q1,q2⟩:=pur _ _ hi h;exact⟨by cases n<;>simp only[TV.enc,D.can,hr]<;>exact q1,q2⟩
  |agg cs=>exact absurd rfl (h1 cs)
  |tup cs=>exact absurd rfl (h2 cs)
  |fn f a b=>exact absurd rfl (h3 f a b)
 intro n
 induction n with
 |zero=>
  intro d d' hi h;refine base 0 d d' ?_ ?_ ?_ hi h
  all_goals (intros;intro hc;subst hc;simp[TV.can]at h)
 |succ n ih=>
  have lst:∀(cs ds:List (TV U)),(∀c∈cs,c.inv T.objs)→Zm (TV.can T pi n) cs=some ds→Zm (D.can T.enc.objs T.enc.fz pi n) (TV.encs cs)=some (TV.encs ds)∧∀q∈TV.fullsL ds,∃id,ren pi id=some q.1∧(id,q.2)∈TV.fullsL cs:=by
   intro cs
   induction cs with
   |nil=>intro ds _ h;simp[Zm]at h;subst h;exact⟨rfl,by simp[TV.fullsL]⟩
   |cons c cs ihc=>
    intro ds hi h;simp only[Zm]at h;split at h;rotate_left;simp at h;rename_i y ys h1 h2;cases h;obtain⟨q1,q2⟩:=ih c y (hi c (by simp)) h1;obtain⟨q3,q4⟩:=ihc ys (fun a ha=>hi a (by simp[ha])) h2;refine⟨by simp only[TV.encs,Zm,q1,q3],fun q hq=> ?_⟩;simp only[TV.fullsL,ZmE]at hq⊢
    rcases hq with hq |hq
    ·obtain⟨id,a1,a2⟩:=q2 q hq;exact⟨id,a1,.inl a2⟩
    ·obtain⟨id,a1,a2⟩:=q4 q hq;exact⟨id,a1,.inr a2⟩
  intro d d' hi h;cases d with
  |agg cs=>
   simp only[TV.can]at h;split at h;rotate_left;simp at h;rename_i ds hds;cases h;obtain⟨q1,q2⟩:=lst cs ds (Zho hi) hds;refine⟨?_,q2⟩;rw[TV.enc,TV.enc];rcases ZdD (TV.encs cs)with ⟨ps,p1,p2⟩ |p2
   ·rw[p2,Zhi];rw[p1]at q1;have:Zm (D.can T.enc.objs T.enc.fz pi n) (ps.map .p)=some (ps.map .p):=by
     clear q1 p1 p2
     induction ps with
     |nil=>rfl
     |cons x r ih=>simp only[ZmD,Zm,Zhi,ih]
    rw[this,ZmR]at q1;rw[←q1,Zcd]
   ·rw[p2];simp only[D.can,q1]
  |tup cs=>
   simp only[TV.can]at h;split at h;rotate_left;simp at h;rename_i ds hds;cases h;obtain⟨q1,q2⟩:=lst cs ds (fun c hc q hq=>hi q (Zs.2 ⟨c,hc,hq⟩)) hds;exact⟨by simp only[TV.enc,D.can,q1],q2⟩
  |fn f a b=>
   simp only[TV.can]at h;split at h;rotate_left;simp at h;rename_i a' b' ha hb';cases h;obtain⟨q1,q2⟩:=lst a a' (fun c hc q hq=>hi q (by simp only[TV.fulls,ZmE];exact .inl (Zs.2 ⟨c,hc,hq⟩))) ha;obtain⟨q3,q4⟩:=lst b b' (fun c hc q hq=>hi q (by simp only[TV.fulls,ZmE];exact .inr (Zs.2 ⟨c,hc,hq⟩))) hb';refine⟨?_,fun q hq=> ?_⟩
   ·rw[TV.enc,TV.enc];unfold fnD;cases hpa:Zm D.pure? (TV.encs a)with
    |none=>simp only[D.can,q1,q3];rfl
    |some x=>
     cases hpb:Zm D.pure? (TV.encs b)with
     |none=>simp only[D.can,q1,q3];rfl
     |some y=>
      have key:∀(ps:List P),Zm (D.can T.enc.objs T.enc.fz pi n) (ps.map .p)=some (ps.map .p):=by
       intro ps
       induction ps with
       |nil=>rfl
       |cons x r ih=>simp only[ZmD,Zm,Zhi,ih]
      rw[Zu hpa,key,ZmR]at q1;rw[Zu hpb,key,ZmR]at q3;rw[←q1,←q3,Zas,Zas];rfl
   ·simp only[TV.fulls,ZmE]at hq⊢
    rcases hq with hq |hq
    ·obtain⟨id,a1,a2⟩:=q2 q hq;exact⟨id,a1,.inl a2⟩
    ·obtain⟨id,a1,a2⟩:=q4 q hq;exact⟨id,a1,.inr a2⟩
  |_=>exact base (n+1) _ _ (by simp) (by simp) (by simp) hi h
def mkT (ep:Nat) (ls:List (Nat×TV U)) (lo:List (Id×TO U)):TS U:={slots:=Zal .dead ls,objs:=Ze lo,fz:=fun _=>false,ep:=ep}
theorem Zcp:∀(ks:List Nat) (ds:List (TV U)) (x:Nat),(Zal TV.dead (ks.zip ds) x).enc=Zal D.dead (ks.zip (TV.encs ds)) x
 | [],ds,x=>rfl
 |k::ks,[],x=>rfl
 |k::ks,d::ds,x=>by
  simp only[Znx,TV.encs,Zal];split
  ·rfl
  ·exact Zcp ks ds x
theorem ZbV:∀(ids:List Id) (os:List (TO U)) (x:Id),Zik (Ze (ids.zip os) x)=Ze (ids.zip (os.map TO.enc)) x
 | [],os,x=>rfl
 |k::ks,[],x=>rfl
 |k::ks,d::ds,x=>by
  simp only[Znx,ZmD,Ze];split
  ·rfl
  ·exact ZbV ks ds x
theorem ZlH (ep:Nat) (ks:List Nat) (ds:List (TV U)) (ids:List Id) (os:List (TO U)):(mkT ep (ks.zip ds) (ids.zip os)).enc=mkS ep (ks.zip (TV.encs ds)) (ids.zip (os.map TO.enc)):=by
 refine ZfP ?_ ?_ rfl rfl
 ·funext x;exact Zcp ks ds x
 ·funext x;exact ZbV ids os x
mutual
def TV.own (T:TS U):TV U→List Id
 | .full id _ | .sl id _ _ | .map id | .it id | .ptr id _ _=>if T.fz id then []else [id]
 | .agg cs=>TV.ownL T cs
 | .tup cs=>TV.ownL T cs
 | .fn _ a b=>TV.ownL T a++TV.ownL T b
 |_=>[]
def TV.ownL (T:TS U):List (TV U)→List Id
 | []=>[]
 |d::r=>d.own T++TV.ownL T r
end
def ZcQ (T:TS U):Nat→List Id→List Id→List Id
 |0,_,acc=>acc
 |_+1,[],acc=>acc
 |n+1,id::r,acc=>if acc.contains id then ZcQ T n r acc else match T.objs id with
  |some (.box cs)=>ZcQ T n (r++TV.ownL T cs) (acc++[id])
  |some _=>ZcQ T n r (acc++[id])
  |none=>ZcQ T n r acc
def Zky (lent:List Nat):Nat→List Id→List (Id×Id)
 |_,[]=>[]
 |c,id::r=>if id.1=0∧id.2.2=0∧lent.contains id.2.1=true then (id,id)::Zky lent c r else ((0,c,1),id)::Zky lent (c+1) r
def Zf6 (lent:List Nat) (n:Nat):List Id:=lent.map (fun k=>(0,k,0))++(List.range' 1 (n - lent.length)).map fun c=>(0,c,1)
def Zk6:Option (TO U)→Bool
 |some .gone=>false
 |some _=>true
 |none=>false
def Zk8 (T:TS U) (s:Nat):List Id:=
 match s / 100000 with
 |0=>(T.slots s).enc.ids T.enc.objs depth
 |_=>((T.slots (s % 100000)).enc.ids T.enc.objs depth).tail
def ZjX (T:TS U) (lent live frz:List Nat):Option (List (TV U)×List (TO U)):=
 let fs:=frz.flatMap (Zk8 T)
 let T1:=T.freezeL fs
 let pi:=Zky lent 1 (ZcQ T1 200 (lent.map (fun k=>(0,k,0))++TV.ownL T1 (live.map T1.slots)) [])
 if (fs.all fun id=>Zk6 (T.objs id))&&Zf0 T1.enc pi 1&&Zk3 pi then
  match Zm (fun t=>(T1.slots t).can T1 pi depth) live,Zm (fun x:Id×Id=>match T1.objs x.2 with |some o=>o.can T1 pi |none=>none) pi with
  |some ds,some os=>if pi.map (·.1)=Zf6 lent os.length then some (ds,os)else none
  |_,_=>none
 else none
def mkC (lent live:List Nat) (ds:List (TV U)) (os:List (TO U)):TS U:=mkT 1 (live.zip ds) ((Zf6 lent os.length).zip os)
theorem Zjm {pi:List (Id×Id)} (hn:Zam (pi.map (·.1))=true) {os:List (TO U)} {new old:Id} (h:ren pi old=some new) {j:Nat} (hj:pi[j]? =some (new,old)):Ze ((pi.map (·.1)).zip os) new=os[j]? :=by
 clear h
 induction pi generalizing os j with
 |nil=>simp at hj
 |cons x r ih=>
  obtain⟨a,b⟩:=x;simp only[ZmD,Zam,Zmt,ZmX,decide_eq_true_eq]at hn;cases os with
  |nil=>simp[Ze]
  |cons o os=>
   simp only[ZmD,Znx,Ze];cases j with
   |zero=>simp only[Zm6,ZmR,ZmS]at hj;simp[hj.1]
   |succ j=>
    simp only[List.getElem?_cons_succ]at hj⊢
    have hne:new≠a:=fun he=>by have:=hn.1 new (Znc.2 ⟨_,List.mem_of_getElem? hj,rfl⟩);exact this he
    rw[if_neg hne];exact ih hn.2 hj
theorem Zg7 {T:TS U} (h:T.Inv) (fs:List Id):(T.freezeL fs).Inv:=⟨h.slots,h.objs⟩
theorem ZiM (hU:UOk U) {C:Ctx} {r:Fm} {G:Zj8} {k:List Item} {T:TS U} (hT:T.Inv) {lent live frz:List Nat} {ds:List (TV U)} {os:List (TO U)} (h:ZjX T lent live frz=some (ds,os)):
  (mkC lent live ds os).Inv∧(AWP C r G k (mkC lent live ds os).enc→AWP C r G k T.enc):=by
 unfold ZjX at h;dsimp only at h;generalize hfs:frz.flatMap (Zk8 T)=fs at h;generalize hpi:Zky lent 1 (ZcQ (T.freezeL fs) 200 (lent.map (fun k=>(0,k,0))++TV.ownL (T.freezeL fs) (live.map (T.freezeL fs).slots)) [])=pi at h;split at h;rotate_left;simp at h;rename_i hc;simp only[Zmt,ZmX]at hc;obtain⟨⟨hhere,hok⟩,hkeep⟩:=hc;split at h;rotate_left;simp at h;rename_i ds' os' hds hos;split at h;rotate_left;simp at h;rename_i hids;simp only[ZmR,ZmS]at h;obtain⟨rfl,rfl⟩:=h;have hT1:=Zg7 hT fs;have hb:∀id cs,(T.freezeL fs).objs id=some (.box cs)→∀c∈cs,c.inv (T.freezeL fs).objs:=fun id cs ho=>hT1.objs id _ ho
 have hn1:Zam (pi.map (·.1))=true:=by simp only[Zf0,Zmt]at hok;exact hok.1.1
 have pdsL:Zm (fun t=>((T.freezeL fs).enc.slots t).can (T.freezeL fs).enc.objs (T.freezeL fs).enc.fz pi depth) live=some (TV.encs ds')∧∀d∈ds',∃t∈live,∀q∈d.fulls,∃id,ren pi id=some q.1∧(id,q.2)∈((T.freezeL fs).slots t).fulls:=by
  clear hpi hids
  induction live generalizing ds' with
  |nil=>simp[Zm]at hds;subst hds;exact⟨rfl,by simp⟩
  |cons t live ih=>
   simp only[Zm]at hds;split at hds;rotate_left;simp at hds;rename_i y ys h1 h2;cases hds;obtain⟨q1,q2⟩:=ZhZ hU hb depth _ _ (hT1.slots t) h1;obtain⟨q3,q4⟩:=ih ys h2;refine⟨by simp only[Zm,TV.encs,q3];rw[show ((T.freezeL fs).enc.slots t)=((T.freezeL fs).slots t).enc from rfl,q1],fun d hd=> ?_⟩;rcases ZmF.1 hd with rfl |hd
   ·exact⟨t,by simp,q2⟩
   ·obtain⟨t',ht',hq⟩:=q4 d hd;exact⟨t',by simp[ht'],hq⟩
 have objC:∀(l:List (Id×Id)) (ol:List (TO U)),Zm (fun x:Id×Id=>match (T.freezeL fs).objs x.2 with |some o=>o.can (T.freezeL fs) pi |none=>none) l=some ol→
   Zm (fun x:Id×Id=>match (T.freezeL fs).enc.objs x.2 with |some o=>o.can (T.freezeL fs).enc.objs (T.freezeL fs).enc.fz pi |none=>none) l=some (ol.map TO.enc)∧
   ∀(j:Nat) (x:Id×Id) (o:TO U),l[j]? =some x→ol[j]? =some o→∃o0,(T.freezeL fs).objs x.2=some o0∧(∀t xs fix,o= .arr t xs fix→o0=o)∧∀cs,o= .box cs→∃cs0,o0= .box cs0∧∀d∈cs,∃d0∈cs0,∀q∈d.fulls,∃id,ren pi id=some q.1∧(id,q.2)∈d0.fulls:=by
  intro l
  induction l with
  |nil=>intro ol h;simp[Zm]at h;subst h;exact⟨rfl,by simp⟩
  |cons x l ih=>
   intro ol h;simp only[Zm]at h;split at h;rotate_left;simp at h;rename_i o ol' h1 h2;cases h;obtain⟨q3,q4⟩:=ih ol' h2;split at h1;rotate_left;simp at h1;rename_i o0 ho;have he:(T.freezeL fs).enc.objs x.2=some o0.enc:=Zg ho;have main:o0.enc.can (T.freezeL fs).enc.objs (T.freezeL fs).enc.fz pi=some o.enc∧((∀t xs fix,o= .arr t xs fix→o0=o)∧∀cs,o= .box cs→∃cs0,o0= .box cs0∧∀d∈cs,∃d0∈cs0,∀q∈d.fulls,∃id,ren pi id=some q.1∧(id,q.2)∈d0.fulls):=by
    cases o0 with
    |box cs0=>
     simp only[TO.can]at h1;split at h1;rotate_left;simp at h1;rename_i cs1 hcs;cases h1;have lst:∀(c0 c1:List (TV U)),(∀c∈c0,c.inv (T.freezeL fs).objs)→Zm (TV.can (T.freezeL fs) pi depth) c0=some c1→Zm (D.can (T.freezeL fs).enc.objs (T.freezeL fs).enc.fz pi depth) (TV.encs c0)=some (TV.encs c1)∧∀d∈c1,∃d0∈c0,∀q∈d.fulls,∃id,ren pi id=some q.1∧(id,q.2)∈d0.fulls:=by
      intro c0
      induction c0 with
      |nil=>intro c1 _ h;simp[Zm]at h;subst h;exact⟨rfl,by simp⟩
      |cons c c0 ihc=>
       intro c1 hi h;simp only[Zm]at h;split at h;rotate_left;simp at h;rename_i y ys h1 h2;cases h;obtain⟨a1,a2⟩:=ZhZ hU hb depth c y (hi c (by simp)) h1;obtain⟨a3,a4⟩:=ihc ys (fun a ha=>hi a (by simp[ha])) h2;refine⟨by simp only[TV.encs,Zm,a1,a3],fun d hd=> ?_⟩;rcases ZmF.1 hd with rfl |hd
       ·exact⟨c,by simp,a2⟩
       ·obtain⟨d0,hd0,hq⟩:=a4 d hd;exact⟨d0,by simp[hd0],hq⟩
     obtain⟨a1,a2⟩:=lst cs0 cs1 (hb x.2 cs0 ho) hcs;refine⟨by simp only[ZaO,Obj.can,a1],(fun t xs fix hq=>by cases hq),fun cs hq=> ?_⟩;cases hq;exact⟨cs0,rfl,a2⟩
    |gone=>simp[TO.can]at h1
    |arr t xs fix=>simp only[TO.can,ZmR]at h1;subst h1;exact⟨rfl,fun _ _ _ _=>rfl,fun cs hq=>by cases hq⟩
    |map a b kv=>simp only[TO.can,ZmR]at h1;subst h1;exact⟨rfl,fun _ _ _ _=>rfl,fun cs hq=>by cases hq⟩
    |sit s p=>simp only[TO.can,ZmR]at h1;subst h1;exact⟨rfl,fun _ _ _ _=>rfl,fun cs hq=>by cases hq⟩
    |mit a b r c=>simp only[TO.can,ZmR]at h1;subst h1;exact⟨rfl,fun _ _ _ _=>rfl,fun cs hq=>by cases hq⟩
   refine⟨by simp only[Zm,he,main.1,q3,ZmD],fun j y o' hj hj'=> ?_⟩;cases j with
   |zero=>
    simp only[Zm6,ZmR]at hj hj';subst hj hj';exact⟨o0,ho,main.2⟩
   |succ j=>exact q4 j y o' (by simpa using hj) (by simpa using hj')
 obtain⟨o1,o2⟩:=objC pi os' hos;have hlen:os'.length=pi.length:=(Zj hos).1;have carry:∀q,(∃id,ren pi id=some q.1∧Zis (T.freezeL fs).objs (id,q.2))→Zis (mkC lent live ds' os').objs q:=by
  rintro q ⟨id,hr,o,ho,hl⟩;have hm:=Zjn hr;obtain⟨j,hj⟩:=Znv.1 hm;have hjl:j < os'.length:=by rw[hlen];exact(ZmA.1 hj).1
  have hoj:os'[j]? =some os'[j]:=by simp[hjl]
  obtain⟨o0,h0,h00,_⟩:=o2 j _ _ hj hoj;refine⟨os'[j], ?_,fun t xs fix he=> ?_⟩
  ·show Ze ((Zf6 lent os'.length).zip os') q.1=_;rw[←hids,Zjm hn1 hr hj,hoj]
  ·have:=h00 t xs fix he;rw[he]at this;dsimp only at h0 ho;rw[h0,ZmR]at ho;exact hl t xs fix (by rw[←ho,this])
 refine⟨⟨fun kk=> ?_,fun id o ho=> ?_⟩,fun ha=> ?_⟩
 ·show TV.inv _ (Zal TV.dead (live.zip ds') kk);rcases ZaG TV.dead (live.zip ds') kk with hq |hq
  ·rw[hq];exact Zf rfl
  ·have hm:=(List.of_mem_zip hq).2;obtain⟨t,_,hf⟩:=pdsL.2 _ hm;intro q hq';obtain⟨id,h1,h2⟩:=hf q hq';exact carry q ⟨id,h1,hT1.slots t _ h2⟩
 ·have ho':Ze ((Zf6 lent os'.length).zip os') id=some o:=ho;have hmem:=List.of_mem_zip (ZY ho');cases o with
  |box cs=>
   obtain⟨j,hj⟩:=Znv.1 hmem.2;have hjl:j < pi.length:=by rw[←hlen];exact(ZmA.1 hj).1
   obtain⟨o0,h0,_,hbx⟩:=o2 j pi[j] _ (by simp[hjl]) hj;obtain⟨cs0,rfl,hf⟩:=hbx cs rfl;intro d hd q hq;obtain⟨d0,hd0,hf⟩:=hf d hd;obtain⟨id',h1,h2⟩:=hf q hq;exact carry q ⟨id',h1,hb _ _ h0 d0 hd0 _ h2⟩
  |_=>trivial
 ·intro ρ S a w hrep hd;obtain⟨S',_,_,hfr,_⟩:=hrep.freeze fs (fun f hf=>by
   have:=hhere f hf;unfold Zk6 at this;split at this
   ·simp at this
   ·rename_i o hg ho;exact⟨o.enc,Zg ho,by
     intro he;cases o with
     |gone=>exact hg rfl
     |_=>simp[TO.enc]at he⟩
   ·simp at this)
  rw[←Eng.freezeL_enc]at hfr;have h2:=hfr.canon (ZmL 1) hok hkeep o1 pdsL.1;rw[show (pi.map (·.1))=Zf6 lent os'.length from hids]at h2;unfold mkC at ha;rw[ZlH]at ha;exact ha _ S' a w (h2.weakX fun _ h=>h.elim) hd
end
end Eng
namespace Eng
open Go
section
variable {U:Zc}
inductive TQ (U:Zc) where
 |l (x:Lf U.car)
 |ptr (cs:List (Lf U.car))
 |fn (f:Nat) (first caps:List (TQ U))
 |nilp |nilfn
mutual
def TQ.enc:TQ U→P
 | .l x=>U.encL x
 | .ptr cs=> .ptr (cs.map U.encL)
 | .fn f a b=> .fn f (TQ.encs a) (TQ.encs b)
 | .nilp=> .nilp
 | .nilfn=> .nilfn
def TQ.encs:List (TQ U)→List P
 | []=>[]
 |q::r=>q.enc::TQ.encs r
end
mutual
def TQ.tv:TQ U→TV U
 | .l x=>lv x
 | .ptr cs=> .pp cs
 | .fn f a b=> .fn f (TQ.tvs a) (TQ.tvs b)
 | .nilp=> .nilp
 | .nilfn=> .nilfn
def TQ.tvs:List (TQ U)→List (TV U)
 | []=>[]
 |q::r=>q.tv::TQ.tvs r
end
inductive ZR (U:Zc) where
 |p (q:TQ U)
 |box (cs:List (Lf U.car))
 |arr (t:Ty) (xs:List (El U.car t))
 |map (k v:Ty) (kv:List (El U.car k×El U.car v))
 |part (t:Ty) (xs:List (El U.car t)) (off len:Nat)
def ZR.enc:ZR U→Arg
 | .p q=> .p q.enc
 | .box cs=> .box (cs.map U.encL)
 | .arr t xs=> .arr (U.tsize t) (xs.map (U.encE t))
 | .map k v kv=> .map k.td (kv.map fun e=>(U.encE k e.1,U.encE v e.2))
 | .part t xs off len=> .part (U.tsize t) (xs.map (U.encE t)) off len
inductive TRV (U:Zc) where
 |p (l:Lf U.car)
 |own (t:Ty) (xs:List (El U.car t))
 |box (cs:List (Lf U.car))
 |map (k v:Ty) (kv:List (El U.car k×El U.car v))
 |view (k off len:Nat)
def TRV.enc:TRV U→RV
 | .p l=> .p (U.encL l)
 | .own t xs=> .own (U.tsize t) (xs.map (U.encE t))
 | .box cs=> .box (cs.map U.encL)
 | .map k v kv=> .map k.td (kv.map fun e=>(U.encE k e.1,U.encE v e.2))
 | .view k off len=> .view k off len
structure ZbA (U:Zc) where
 res:List (TRV U)
 outs:List (Nat×ZR U):=[]
def ZbA.enc (r:ZbA U):Ret:=⟨r.res.map TRV.enc,r.outs.map fun x=>(x.1,x.2.enc)⟩
structure SigR (U:Zc) where
 α:Type
 o:Option α
 give:α→ZbA U
structure Zi1 (U:Zc) where
 pts:List Nat
 ms:List AM
 hs:List (Option Nat)
 sig:List (ZR U)→Option (SigR U)
def Zc6 (T:TS U) (h:Option Nat):Nat→TV U→Option (TQ U)
 |_,.pp cs=>some (.ptr cs)
 |_,.nilp=>some .nilp
 |_,.nilfn=>some .nilfn
 |_,.ptr id i j=>match T.objs id with
  |some (.box cs)=>if i=0 then match Zm T.lf1 (cs.drop j)with
   |some ls=>some (.ptr ls)
   |none=>none
   else none
  |_=>none
 |n+1,.fn f a b=>match Zm (Zc6 T none n) a,Zm (Zc6 T none n) b with
  |some a',some b'=>some (.fn f a' b')
  |_,_=>none
 |_,d=>match T.lf h d with
  |some l=>some (.l l)
  |none=>none
theorem Zjp:∀l:List (TQ U),TQ.encs l=l.map TQ.enc
 | []=>rfl
 |q::r=>by rw[TQ.encs,Zjp r];rfl
mutual
theorem Zi5:∀q:TQ U,q.tv.enc= .p q.enc∧q.tv.fulls=[]
 | .l x=>⟨rfl,rfl⟩
 | .ptr cs=>⟨rfl,rfl⟩
 | .nilp=>⟨rfl,rfl⟩
 | .nilfn=>⟨rfl,rfl⟩
 | .fn f a b=>by obtain⟨a1,a2⟩:=ZgI a;obtain⟨b1,b2⟩:=ZgI b;refine⟨?_,by simp only[TQ.tv,TV.fulls,a2,b2,List.append_nil]⟩;simp only[TQ.tv,TV.enc,a1,b1,fnD,Zas,TQ.enc]
theorem ZgI:∀l:List (TQ U),TV.encs (TQ.tvs l)=(TQ.encs l).map .p∧TV.fullsL (TQ.tvs l)=[]
 | []=>⟨rfl,rfl⟩
 |q::r=>by obtain⟨a1,a2⟩:=Zi5 q;obtain⟨b1,b2⟩:=ZgI r;exact⟨by simp only[TQ.tvs,TV.encs,a1,b1,TQ.encs,ZmD],by simp only[TQ.tvs,TV.fullsL,a2,b2,List.append_nil]⟩
end
theorem Zjo (hU:UOk U) {T:TS U} (hT:T.Inv):∀(n:Nat) (h:Option Nat) (d:TV U) (q:TQ U),d.inv T.objs→Zc6 T h n d=some q→d.enc.toP T.enc.objs (n+1)=some q.enc:=by
 have base:∀(n:Nat) (h:Option Nat) (d:TV U) (q:TQ U),(∀f a b,d≠ .fn f a b)→d.inv T.objs→Zc6 T h n d=some q→d.enc.toP T.enc.objs (n+1)=some q.enc:=by
  intro n h d q hne hi hr;have dflt:(match T.lf h d with |some l=>some (TQ.l l) |none=>none)=some q→d.enc.toP T.enc.objs (n+1)=some q.enc:=fun hq=>by split at hq;rotate_left;simp at hq;rename_i l hl;cases hq;exact ZeR hU hi hl n
  cases d with
  |pp cs=>simp only[Zc6,ZmR]at hr;subst hr;simp[TV.enc,TQ.enc]
  |nilp=>simp only[Zc6,ZmR]at hr;subst hr;simp[TV.enc,TQ.enc]
  |nilfn=>simp only[Zc6,ZmR]at hr;subst hr;simp[TV.enc,TQ.enc]
  |ptr id i j=>
   simp only[Zc6]at hr;split at hr;rotate_left;simp at hr;rename_i cs ho;split at hr;rotate_left;simp at hr;rename_i h0;subst h0;split at hr;rotate_left;simp at hr;rename_i ls hls;cases hr;have:=Zcg n (fun c hc=>hT.objs id _ ho c (Znw hc)) hls;rw[Zbs]at this;simp only[TV.enc,D.toP,Zg ho,ZaO,if_true,this,Zny,TQ.enc]
  |fn f a b=>exact absurd rfl (hne f a b)
  |_=>cases n<;>exact dflt hr
 intro n
 induction n with
 |zero=>
  intro h d q hi hr;cases d with
  |fn f a b=>
   simp only[Zc6]at hr;split at hr;rotate_left;simp at hr;rename_i l hl;cases hr;exact ZeR hU hi hl 0
  |_=>exact base 0 h _ q (by simp) hi hr
 |succ n ih=>
  intro h d q hi hr;cases d with
  |fn f a b=>
   simp only[Zc6]at hr;split at hr;rotate_left;simp at hr;rename_i a' b' ha hb;cases hr;have lst:∀(l:List (TV U)) (l':List (TQ U)),(∀c∈l,c.inv T.objs)→Zm (Zc6 T none n) l=some l'→Zm (D.toP T.enc.objs (n+1)) (TV.encs l)=some (TQ.encs l'):=by
    intro l
    induction l with
    |nil=>intro l' _ h;simp[Zm]at h;subst h;rfl
    |cons c l ihl=>
     intro l' hi h;simp only[Zm]at h;split at h;rotate_left;simp at h;rename_i y ys h1 h2;cases h;simp only[TV.encs,Zm,ih none c y (hi c (by simp)) h1,ihl ys (fun a ha=>hi a (by simp[ha])) h2,TQ.encs]
   have la:=lst a a' (fun c hc q hq=>hi q (by simp only[TV.fulls,ZmE];exact .inl (Zs.2 ⟨c,hc,hq⟩))) ha;have lb:=lst b b' (fun c hc q hq=>hi q (by simp only[TV.fulls,ZmE];exact .inr (Zs.2 ⟨c,hc,hq⟩))) hb;rw[TV.enc,TQ.enc];unfold fnD;have pu:∀(ps:List P),Zm (D.toP T.enc.objs (n+1)) (ps.map .p)=some ps:=by
    intro ps
    induction ps with
    |nil=>rfl
    |cons x r ih=>simp only[ZmD,Zm,Zi7,ih]
   cases hpa:Zm D.pure? (TV.encs a)with
   |none=>simp only[D.toP,la,lb]
   |some x=>
    cases hpb:Zm D.pure? (TV.encs b)with
    |none=>simp only[D.toP,la,lb]
    |some y=>
     rw[Zu hpa,pu,ZmR]at la;rw[Zu hpb,pu,ZmR]at lb;simp only[Zi7,la,lb]
  |_=>exact base (n+1) h _ q (by simp) hi hr
structure AET (U:Zc) where
 arg:ZR U
 fs:List Id:=[]
 id:Option Id:=none
def argT (T:TS U) (m:AM) (h:Option Nat) (d:TV U):Option (AET U):=
 match m,d with
 | .p,d=>match Zc6 T h 7 d with
  |some q=>some {arg:= .p q,fs:=d.enc.ids T.enc.objs depth}
  |none=>none
 | .lend,.ptr id 0 0=>match T.objs id with
  |some (.box ds)=>match Zm T.lf1 ds with
   |some ls=>some {arg:= .box ls,fs:=(TV.encs ds).flatMap fun d=>d.ids T.enc.objs depth,id:=some id}
   |none=>none
  |_=>none
 | .lend,.full id _=>match T.objs id with
  |some (.arr t xs false)=>some {arg:= .arr t xs,id:=some id}
  |_=>none
 | .lend,.map id=>match T.objs id with
  |some (.map k v kv)=>some {arg:= .map k v kv,id:=some id}
  |_=>none
 | .part,.sl id off len=>match T.objs id with
  |some (.arr t xs false)=>some {arg:= .part t xs off len,id:=some id}
  |_=>none
 |_,_=>none
def AET.ae (a:AET U) (cs:List Bool):AE:={arg:=a.arg.enc,fs:=a.fs,id:=a.id,cond:=cs}
theorem ZcH {T:TS U} {cs:List (TV U)} {ls:List (Lf U.car)} (hi:∀d∈cs,d.inv T.objs) (h:Zm T.lf1 cs=some ls):Zm (fun d=>D.toP T.enc.objs depth d) (TV.encs cs)=some (ls.map U.encL):=Zcg depth hi h
theorem Zl6 (hU:UOk U) {T:TS U} (hT:T.Inv) {m:AM} {h:Option Nat} {d:TV U} {a:AET U} (hi:d.inv T.objs) (hr:argT T m h d=some a):∃cs,Zgz T.enc m d.enc=some (a.ae cs)∧∀q∈cs,q=true:=by
 unfold argT at hr;split at hr
 ·split at hr;rotate_left;simp at hr;rename_i q hq;cases hr;exact⟨[],by simp only[Zgz,depth,Zjo hU hT 7 h d q hi hq,AET.ae,ZR.enc],by simp⟩
 ·rename_i id;split at hr;rotate_left;simp at hr;rename_i ds ho;split at hr;rotate_left;simp at hr;rename_i ls hls;cases hr;refine⟨[], ?_,by simp⟩;simp only[Zgz,TV.enc,Zg ho,ZaO,ZcH (hT.objs id _ ho) hls,AET.ae,ZR.enc]
 ·rename_i id n;split at hr;rotate_left;simp at hr;rename_i t xs ho;cases hr;obtain⟨o,h1,h2⟩:=hi (id,n) (by simp[TV.fulls]);dsimp only at h1;have hl:=h2 t xs false (by rw[ho,ZmR]at h1;exact h1.symm);refine⟨[decide (n=(xs.map (U.encE t)).length)], ?_,by simp[hl]⟩;simp only[Zgz,TV.enc,Zg ho,ZM,AET.ae,ZR.enc]
 ·rename_i id;split at hr;rotate_left;simp at hr;rename_i k v kv ho;cases hr;exact⟨[],by simp only[Zgz,TV.enc,Zg ho,Z0,AET.ae,ZR.enc],by simp⟩
 ·rename_i id off len;split at hr;rotate_left;simp at hr;rename_i t xs ho;cases hr;exact⟨[],by simp only[Zgz,TV.enc,Zg ho,ZM,AET.ae,ZR.enc],by simp⟩
 ·simp at hr
def Z5 (T:TS U):List AM→List (Option Nat)→List (TV U)→Option (List (AET U))
 | [],_,[]=>some []
 |m::ms,h::hs,d::ds=>match argT T m h d,Z5 T ms hs ds with
  |some a,some r=>some (a::r)
  |_,_=>none
 |_,_,_=>none
theorem Ze3 (hU:UOk U) {T:TS U} (hT:T.Inv):∀{ms:List AM} {hs:List (Option Nat)} {ds:List (TV U)} {as:List (AET U)},(∀d∈ds,d.inv T.objs)→Z5 T ms hs ds=some as→
  ∃aes:List AE,Zm (fun x:AM×D=>Zgz T.enc x.1 x.2) (ms.zip (TV.encs ds))=some aes∧ds.length=ms.length∧aes.map (·.arg)=as.map (fun a=>a.arg.enc)∧aes.flatMap (·.fs)=as.flatMap (·.fs)∧(∀q∈aes.flatMap (·.cond),q=true)∧aes.map (·.id)=as.map (·.id)
 | [],hs,[],as,_,h=>by simp only[Z5,ZmR]at h;subst h;exact⟨[],rfl,rfl,rfl,rfl,by simp,rfl⟩
 | [],hs,d::ds,as,_,h=>by simp[Z5]at h
 |m::ms,[],ds,as,_,h=>by simp[Z5]at h
 |m::ms,hh::hs,[],as,_,h=>by simp[Z5]at h
 |m::ms,hh::hs,d::ds,as,hi,h=>by simp only[Z5]at h;split at h;rotate_left;simp at h;rename_i a r h1 h2;cases h;obtain⟨cs,q1,q2⟩:=Zl6 hU hT (hi d (by simp)) h1;obtain⟨aes,p1,p2,p3,p4,p5,p6⟩:=Ze3 hU hT (fun a ha=>hi a (by simp[ha])) h2;refine⟨a.ae cs::aes,by simp only[TV.encs,Znx,Zm,q1,p1],by simp[p2],by simp[AET.ae,p3],by simp[AET.ae,p4], ?_,by simp[AET.ae,p6]⟩;intro q hq;simp only[List.flatMap_cons,ZmE]at hq;exact hq.elim (fun h=>q2 q h) (fun h=>p5 q h)
def ZR.o:ZR U→Option (TO U)
 | .p _=>none
 | .box cs=>some (.box (cs.map lv))
 | .arr t xs=>some (.arr t xs false)
 | .map k v kv=>some (.map k v kv)
 | .part t xs _ _=>some (.arr t xs false)
def Ze1 (outs:List (Nat×ZR U)) (k:Nat):TO U:=match Ze outs k with
 |some a=>match a.o with
  |some o=>o
  |none=> .gone
 |none=> .gone
def Zgv (outs:List (Nat×ZR U)):Nat→List (AET U)→List (Id×TO U)
 |_,[]=>[]
 |k,x::r=>match x.id with
  |some id=>(id,Ze1 outs k)::Zgv outs (k+1) r
  |none=>Zgv outs (k+1) r
def TRV.at (ep i:Nat) (as:List (AET U)) (j:Nat):TRV U→Option (TV U)
 | .p l=>some (lv l)
 | .own _ es=>some (.full (ep,i,j) es.length)
 | .box _=>some (.ptr (ep,i,j) 0 0)
 | .map _ _ _=>some (.map (ep,i,j))
 | .view k off len=>match as[k]? with
  |some a=>match a.id with
   |some id=>some (.sl id off len)
   |none=>none
  |none=>none
def TRV.o:TRV U→Option (TO U)
 | .own t es=>some (.arr t es false)
 | .box cs=>some (.box (cs.map lv))
 | .map k v kv=>some (.map k v kv)
 |_=>none
def ZcY (ep i:Nat) (as:List (AET U)):Nat→List (TRV U)→Option (List (TV U))
 |_,[]=>some []
 |j,x::r=>match x.at ep i as j,ZcY ep i as (j+1) r with
  |some d,some ds=>some (d::ds)
  |_,_=>none
def ZaA:Nat→List (TRV U)→List (Nat×TO U)
 |_,[]=>[]
 |j,x::r=>match x.o with
  |some o=>(j,o)::ZaA (j+1) r
  |none=>ZaA (j+1) r
def tupT:List (TV U)→TV U
 | [d]=>d
 |ds=> .tup ds
def Zgs (T:TS U) (i:Nat) (as:List (AET U)) (ret:ZbA U):Option (Zh U):=
 match ZcY T.ep i as 0 ret.res with
 |some ds=>some {val:=tupT ds,new:=ZaA 0 ret.res,wr:=Zgv ret.outs 0 as,frz:=as.flatMap (·.fs)}
 |none=>none
theorem Zh6 (a:ZR U):Zik a.o=a.enc.o:=by
 cases a with
 |p q=>rfl
 |box cs=>simp only[ZR.o,Zik,TO.enc,ZcP,ZR.enc,Arg.o]
 |arr t xs=>rfl
 |map k v kv=>rfl
 |part t xs off len=>rfl
theorem Ze2 {α β γ:Type} [DecidableEq α] (f:β→γ):∀(l:List (α×β)) (x:α),Ze (l.map fun y=>(y.1,f y.2)) x=(Ze l x).map f
 | [],x=>rfl
 |(a,b)::r,x=>by
  simp only[ZmD,Ze];split
  ·rfl
  ·exact Ze2 f r x
theorem ZiS (outs:List (Nat×ZR U)) (k:Nat):(Ze1 outs k).enc=Zev (outs.map fun x=>(x.1,x.2.enc)) k:=by
 unfold Ze1 Zev;rw[Ze2];cases Ze outs k with
 |none=>rfl
 |some a=>
  simp only[Zny];rw[←Zh6 a];cases a.o<;>rfl
theorem Zd6 (outs:List (Nat×ZR U)):∀(k:Nat) (as:List (AET U)) (aes:List AE),aes.map (·.id)=as.map (·.id)→(Zgv outs k as).map (fun x=>(x.1,x.2.enc))=Zbw (outs.map fun x=>(x.1,x.2.enc)) k aes
 |k,[],[],_=>rfl
 |k,[],_::_,h=>by simp at h
 |k,_::_,[],h=>by simp at h
 |k,a::as,b::bs,h=>by
  simp only[ZmD,List.cons.injEq]at h;simp only[Zgv,Zbw,h.1];cases a.id with
  |none=>exact Zd6 outs (k+1) as bs h.2
  |some id=>simp only[ZmD,Zd6 outs (k+1) as bs h.2,ZiS]
theorem Zkp {ep i j:Nat} {as:List (AET U)} {aes:List AE} (hid:aes.map (·.id)=as.map (·.id)) {x:TRV U} {d:TV U} (h:x.at ep i as j=some d):x.enc.at ep i aes j=some d.enc:=by
 cases x with
 |p l=>simp only[TRV.at,ZmR]at h;subst h;rfl
 |own t es=>simp only[TRV.at,ZmR]at h;subst h;simp only[TRV.enc,RV.at,TV.enc,Znp]
 |box cs=>simp only[TRV.at,ZmR]at h;subst h;rfl
 |map k v kv=>simp only[TRV.at,ZmR]at h;subst h;rfl
 |view k off len=>
  simp only[TRV.at]at h;have hk:(aes[k]?).map (·.id)=(as[k]?).map (·.id):=by rw[←ZmB,←ZmB,hid]
  split at h;rotate_left;simp at h;rename_i a ha;rw[ha]at hk;cases hb:aes[k]? with
  |none=>rw[hb]at hk;simp at hk
  |some b=>
   rw[hb]at hk;simp only[Zny,ZmR]at hk;split at h;rotate_left;simp at h;rename_i id hid';cases h;simp only[TRV.enc,RV.at,hb,hk,hid',TV.enc]
theorem Zlu (x:TRV U):Zik x.o=x.enc.o:=by
 cases x with
 |box cs=>simp only[TRV.o,Zik,TO.enc,ZcP,TRV.enc,RV.o]
 |_=>rfl
theorem ZeF {ep i:Nat} {as:List (AET U)} {aes:List AE} (hid:aes.map (·.id)=as.map (·.id)):∀(j:Nat) (l:List (TRV U)) (ds:List (TV U)),ZcY ep i as j l=some ds→ZgP ep i aes j (l.map TRV.enc)=some (TV.encs ds)
 |j,[],ds,h=>by simp only[ZcY,ZmR]at h;subst h;rfl
 |j,x::r,ds,h=>by simp only[ZcY]at h;split at h;rotate_left;simp at h;rename_i d ds' h1 h2;cases h;simp only[ZmD,ZgP,Zkp hid h1,ZeF hid (j+1) r ds' h2,TV.encs]
theorem ZbW:∀(j:Nat) (l:List (TRV U)),(ZaA j l).map (fun x=>(x.1,x.2.enc))=Zbd j (l.map TRV.enc)
 |j,[]=>rfl
 |j,x::r=>by
  simp only[ZaA,ZmD,Zbd];have:=Zlu x;cases hx:x.o with
  |none=>rw[hx]at this;rw[←this];exact ZbW (j+1) r
  |some o=>rw[hx]at this;rw[←this];simp only[Zik,ZmD,ZbW (j+1) r]
theorem Zkg (ds:List (TV U)):(tupT ds).enc=tupD (TV.encs ds):=by
 match ds with
 | []=>rfl
 | [d]=>rfl
 |a::b::r=>rfl
theorem ZiQ {T:TS U} {i:Nat} {as:List (AET U)} {aes:List AE} {ret:ZbA U} {e:Zh U} (hid:aes.map (·.id)=as.map (·.id)) (hfs:aes.flatMap (·.fs)=as.flatMap (·.fs)) (h:Zgs T i as ret=some e):ZfE T.enc i aes ret.enc=some (e.enc []):=by unfold Zgs at h;split at h;rotate_left;simp at h;rename_i ds hds;cases h;unfold ZfE;rw[show T.enc.ep=T.ep from rfl,show ret.enc.res=ret.res.map TRV.enc from rfl,ZeF hid 0 _ ds hds];simp only[Zh.enc,Zkg,ZbW,ZbA.enc,Zd6 ret.outs 0 as aes hid,hfs]
def ZR.len?:ZR U→Option Nat
 | .arr _ xs=>some xs.length
 | .part _ xs _ _=>some xs.length
 |_=>none
def Zeh (args:List (ZR U)) (ret:ZbA U):Prop:=∀k a n,(k,a)∈ret.outs→a.len?=some n→∃a',args[k]? =some a'∧a'.len?=some n
theorem Zcn {outs:List (Nat×ZR U)}:∀(n:Nat) (l:List (AET U)) (id:Id) (o:TO U),(id,o)∈Zgv outs n l→∃j x,l[j]? =some x∧x.id=some id∧o=Ze1 outs (n+j)
 |n,[],id,o,h=>by simp[Zgv]at h
 |n,x::r,id,o,h=>by
  simp only[Zgv]at h;split at h
  ·rename_i id' hid;rcases ZmF.1 h with h |h
   ·simp only[ZmS]at h;exact⟨0,x,rfl,by rw[hid,h.1],by simpa using h.2⟩
   ·obtain⟨j,y,h1,h2,h3⟩:=Zcn (n+1) r id o h;exact⟨j+1,y,by simpa using h1,h2,by rw[h3];congr 1;omega⟩
  ·obtain⟨j,y,h1,h2,h3⟩:=Zcn (n+1) r id o h;exact⟨j+1,y,by simpa using h1,h2,by rw[h3];congr 1;omega⟩
theorem Zeb {T:TS U}:∀{ms:List AM} {hs:List (Option Nat)} {ds:List (TV U)} {as:List (AET U)},Z5 T ms hs ds=some as→∀(j:Nat) (a:AET U),as[j]? =some a→∃m h d,argT T m h d=some a
 | [],hs,[],as,h,j,a,ha=>by simp only[Z5,ZmR]at h;subst h;simp at ha
 | [],hs,d::ds,as,h,j,a,ha=>by simp[Z5]at h
 |m::ms,[],ds,as,h,j,a,ha=>by simp[Z5]at h
 |m::ms,hh::hs,[],as,h,j,a,ha=>by simp[Z5]at h
 |m::ms,hh::hs,d::ds,as,h,j,a,ha=>by
  simp only[Z5]at h;split at h;rotate_left;simp at h;rename_i b r h1 h2;cases h;cases j with
  |zero=>simp only[Zm6,ZmR]at ha;subst ha;exact⟨_,_,_,h1⟩
  |succ j=>exact Zeb h2 j a (by simpa using ha)
theorem ZaZ:∀(j:Nat) (l:List (TRV U)) (k:Nat) (o:TO U),(k,o)∈ZaA j l→∃(m:Nat) (x:TRV U),l[m]? =some x∧k=j+m∧x.o=some o
 |j,[],k,o,h=>by simp[ZaA]at h
 |j,x::r,k,o,h=>by
  simp only[ZaA]at h;split at h
  ·rename_i o' ho;rcases ZmF.1 h with h |h
   ·simp only[ZmS]at h;exact⟨0,x,rfl,by simp[h.1],by rw[ho,h.2]⟩
   ·obtain⟨m,y,h1,h2,h3⟩:=ZaZ (j+1) r k o h;exact⟨m+1,y,by simpa using h1,by omega,h3⟩
  ·obtain⟨m,y,h1,h2,h3⟩:=ZaZ (j+1) r k o h;exact⟨m+1,y,by simpa using h1,by omega,h3⟩
theorem ZeD:∀(j:Nat) (l:List (TRV U)) (m:Nat) (x:TRV U) (o:TO U),l[m]? =some x→x.o=some o→(j+m,o)∈ZaA j l
 |j,[],m,x,o,h,_=>by simp at h
 |j,y::r,m,x,o,h,ho=>by
  cases m with
  |zero=>
   simp only[Zm6,ZmR]at h;subst h;simp only[ZaA,ho];exact ZmG
  |succ m=>
   have:=ZeD (j+1) r m x o (by simpa using h) ho;rw[show j+1+m=j+(m+1) by omega]at this;simp only[ZaA];split
   ·exact Zna _ this
   ·exact this
theorem ZhH:∀(l:List (Id×TO U)) (T:TS U) (id:Id) (o:TO U),(id,o)∈l→(∀o',(id,o')∈l→o'=o)→(T.objL l).objs id=some o
 | [],T,id,o,h,_=>by simp at h
 |(a,u)::l,T,id,o,h,hu=>by
  simp only[TS.objL]
  by_cases hm:∃o',(id,o')∈l
  ·obtain⟨o',ho'⟩:=hm;have:=hu o' (Zna _ ho');subst this;exact ZhH l _ id o' ho' fun o2 h2=>hu o2 (Zna _ h2)
  ·rcases ZmF.1 h with h |h
   ·simp only[ZmS]at h;obtain⟨rfl,rfl⟩:=h;have key:∀(l:List (Id×TO U)) (T:TS U),(¬∃o,(id,o)∈l)→(T.objL l).objs id=T.objs id:=by
     intro l
     induction l with
     |nil=>intro T _;rfl
     |cons x l ih=>
      obtain⟨b,v⟩:=x;intro T hn;simp only[TS.objL];rw[ih _ (fun⟨o,ho⟩=>hn ⟨o,Zna _ ho⟩)];simp only[upd];split
      ·rename_i he;subst he;exact absurd ⟨v,ZmG⟩ hn
      ·rfl
    rw[key l _ hm];simp[upd]
   ·exact absurd ⟨o,h⟩ hm
theorem ZeE {ep i:Nat} {as:List (AET U)}:∀(j:Nat) (l:List (TRV U)) (ds:List (TV U)),ZcY ep i as j l=some ds→∀d∈ds,∃(m:Nat) (x:TRV U),l[m]? =some x∧x.at ep i as (j+m)=some d
 |j,[],ds,h,d,hd=>by simp only[ZcY,ZmR]at h;subst h;simp at hd
 |j,x::r,ds,h,d,hd=>by
  simp only[ZcY]at h;split at h;rotate_left;simp at h;rename_i d' ds' h1 h2;cases h;rcases ZmF.1 hd with rfl |hd
  ·exact⟨0,x,rfl,h1⟩
  ·obtain⟨m,y,q1,q2⟩:=ZeE (j+1) r ds' h2 d hd;exact⟨m+1,y,by simpa using q1,by rw[show j+(m+1)=j+1+m by omega];exact q2⟩
theorem ZiP {T:TS U} {i:Nat} {as:List (AET U)} {ms:List AM} {hs:List (Option Nat)} {ds0:List (TV U)} (has:Z5 T ms hs ds0=some as) {ret:ZbA U} (hol:Zeh (as.map (·.arg)) ret) {e:Zh U} (h:Zgs T i as ret=some e):ZJ T i e:=by
 unfold Zgs at h;split at h;rotate_left;simp at h;rename_i ds hds;cases h;have box:∀(cs:List (Lf U.car)) (lk:Id→Option (TO U)),(TO.box (cs.map lv)).inv lk:=fun cs lk d hd=>by obtain⟨l,_,rfl⟩:=Znc.1 hd;exact Zah _ _
 have argo:∀(a:ZR U) (o:TO U) (lk:Id→Option (TO U)),a.o=some o→o.inv lk:=fun a o lk ha=>by
  cases a<;>simp only[ZR.o,ZmR,reduceCtorEq]at ha<;>subst ha
  ·exact box _ _
  ·trivial
  ·trivial
  ·trivial
 refine⟨fun id o hm t xs fix he=> ?_,fun hf=> ?_,fun _ o ho=> ?_⟩
 ·obtain⟨j,x,q1,q2,q3⟩:=Zcn 0 as id o hm;rw[q3]at he;unfold Ze1 at he;split at he;rotate_left;simp at he;rename_i a ha;have key:∀t2 (xs2:List (El U.car t2)),a.o=some (.arr t2 xs2 false)→a.len?=some xs2.length:=fun t2 xs2 h=>by
   cases a with
   |p q=>simp[ZR.o]at h
   |box cs=>simp[ZR.o]at h
   |map k v kv=>simp[ZR.o]at h
   |arr t3 xs3=>simp only[ZR.o,ZmR,TO.arr.injEq]at h;obtain⟨rfl,h,_⟩:=h;cases h;rfl
   |part t3 xs3 off len=>simp only[ZR.o,ZmR,TO.arr.injEq]at h;obtain⟨rfl,h,_⟩:=h;cases h;rfl
  have hfix:fix=false:=by
   cases a<;>simp[ZR.o]at he
   ·exact he.2.2
   ·exact he.2.2
  split at he;rotate_left;simp at he;rename_i o ho;subst he;subst hfix;obtain⟨a',p1,p2⟩:=hol _ _ _ (ZY ha) (key t xs ho);rw[ZmB,Znh,q1,Zny,ZmR]at p1;subst p1;obtain⟨m,hh,d,hd⟩:=Zeb has j x q1;unfold argT at hd;split at hd
  ·split at hd;rotate_left;simp at hd;cases hd;simp at q2
  ·split at hd;rotate_left;simp at hd;split at hd;rotate_left;simp at hd;cases hd;simp[ZR.len?]at p2
  ·split at hd;rotate_left;simp at hd;rename_i t3 xs3 ho3;cases hd;cases q2;simp only[ZR.len?,ZmR]at p2;exact⟨_,_,_,ho3,p2.symm⟩
  ·split at hd;rotate_left;simp at hd;cases hd;simp[ZR.len?]at p2
  ·split at hd;rotate_left;simp at hd;rename_i t3 xs3 ho3;cases hd;cases q2;simp only[ZR.len?,ZmR]at p2;exact⟨_,_,_,ho3,p2.symm⟩
  ·simp at hd
 ·intro q hq;have:∃d∈ds,q∈d.fulls:=by
   match ds,hq with
   | [],hq=>simp[tupT,TV.fulls,TV.fullsL]at hq
   | [d],hq=>exact⟨d,by simp,hq⟩
   |a::b::r,hq=>exact Zs.1 hq
  obtain⟨d,hd,hq⟩:=this;obtain⟨m,x,q1,q2⟩:=ZeE 0 _ ds hds d hd;cases x with
  |p l=>simp only[TRV.at,ZmR]at q2;subst q2;simp[lv,TV.fulls]at hq
  |box cs=>simp only[TRV.at,ZmR]at q2;subst q2;simp[TV.fulls]at hq
  |map k v kv=>simp only[TRV.at,ZmR]at q2;subst q2;simp[TV.fulls]at hq
  |view k off len=>
   simp only[TRV.at]at q2;split at q2;rotate_left;simp at q2;split at q2;rotate_left;simp at q2;cases q2;simp[TV.fulls]at hq
  |own t xs=>
   simp only[TRV.at,ZmR]at q2;subst q2;simp only[TV.fulls,ZmI]at hq;subst hq;refine⟨.arr t xs false, ?_,fun t' xs' fix' he=>by cases he;rfl⟩;refine ZhH _ _ _ _ (Znc.2 ⟨_,ZeD 0 _ m _ _ q1 rfl,rfl⟩) fun o' ho'=> ?_
   obtain⟨y,hy,he⟩:=Znc.1 ho';simp only[ZmS,true_and]at he;obtain⟨h1,rfl⟩:=he;obtain⟨m',x',p1,p2,p3⟩:=ZaZ 0 _ _ _ hy;have:m'=m:=by omega
   subst this;rw[q1,ZmR]at p1;subst p1;simp only[TRV.o,ZmR]at p3;exact p3.symm
 ·rcases ho with ⟨k,hm⟩ |⟨id,hm⟩
  ·obtain⟨m,x,q1,q2,q3⟩:=ZaZ 0 _ _ _ hm;cases x<;>simp only[TRV.o,ZmR,reduceCtorEq]at q3<;>subst q3
   ·trivial
   ·exact box _ _
   ·trivial
  ·obtain⟨j,x,q1,q2,q3⟩:=Zcn 0 as id o hm;subst q3;unfold Ze1;split
   ·rename_i a ha;cases hao:a.o with
    |none=>trivial
    |some o=>exact argo a o _ hao
   ·trivial
end
end Eng
namespace Eng
open Go
open Go.ChangeMaps (setBlock)
section
variable {C:Ctx} {X:Nat→Prop} {ρ:Id→Option Lay} {S:Nat→Prop} {st:St} {a:Act} {w:World} {i:Nat} {o:Oper}
theorem ZbL {α β:Type} (p:α→Bool):∀(xs:List α) (ys:List β),xs.length=ys.length→((xs.zip ys).filter fun x=>p x.1).length=(xs.filter p).length
 | [],ys,h=>by simp
 |x::xs,[],h=>by simp at h
 |x::xs,y::ys,h=>by simp only[Znx,List.filter_cons];have:=ZbL p xs ys (by simpa using h);split<;>simp[this]
theorem ZeW {α:Type}:∀(l:List α) (j:Nat) (h:j < l.length),(l[j]::l.eraseIdx j).Perm l
 |x::l,0,h=> .refl _
 |x::l,j+1,h=>by simp only[List.getElem_cons_succ,List.eraseIdx_cons_succ];exact(List.Perm.swap _ _ _).trans ((ZeW l j (by simpa using h)).cons x)
theorem Zci {α β:Type} (f:α→β) [DecidableEq β] (seen:Array β) (e:α) (p:α→Prop):∀(l:List α),(∀x∈l,∀y∈l,f x=f y→x=y)→l.Nodup→e∈l→seen.contains (f e)=false→
  (e::l.filter fun x=> !(seen.push (f e)).contains (f x)).Perm (l.filter fun x=> !seen.contains (f x))
 | [],_,_,he,_=>by simp at he
 |x::l,hinj,hnd,he,hs=>by
  have push:∀y,(seen.push (f e)).contains (f y)=(seen.contains (f y)||decide (f y=f e)):=fun y=>by
   simp only[Array.contains_eq_mem,Array.mem_push]
   by_cases h1:f y∈seen<;>by_cases h2:f y=f e<;>simp[h1,h2]
  by_cases hx:x=e
  ·subst hx;have hrest:∀y∈l,decide (f y=f x)=false:=fun y hy=>by simp only[decide_eq_false_iff_not];intro hf;have:=hinj y (by simp[hy]) x (by simp) hf;subst this;exact(List.nodup_cons.1 hnd).1 hy
   have h1:(l.filter fun y=> !(seen.push (f x)).contains (f y))=l.filter fun y=> !seen.contains (f y):=List.filter_congr fun y hy=>by rw[push,hrest y hy];simp
   simp only[List.filter_cons,push x,hs,decide_true,Bool.or_true,Bool.not_true,Zmu,if_false,Bool.not_false,if_true,h1];exact .refl _
  ·have he':e∈l:=by simpa[Ne.symm hx]using he
   have hne:f x≠f e:=fun hf=>hx (hinj x (by simp) e he hf)
   have ih:=Zci f seen e p l (fun a ha b hb=>hinj a (by simp[ha]) b (by simp[hb])) (List.nodup_cons.1 hnd).2 he' hs;simp only[List.filter_cons,push x,hne,decide_false,Bool.or_false];split
   ·exact(List.Perm.swap x e _).trans (ih.cons x)
   ·exact ih
theorem Zkx {it:Operand} (h:Rep C X ρ S st a.tmps w) (hi:¬X i) (ht:∀d,o.dst=some d→d < C.E.nt) (hlit:Zz it=true) (ho:o.op= .next it false) {id:Id} {rest:List (P×P)} {cur:Option (P×P)}
  (hx:ev C.E st.slots 0 it= .it id) (hlk:st.objs id=some (.mit rest cur)) (hfz:st.fz id=false):
  (rest=[]∧∃v w',(execOp a.eval o).run C.E.prog w= .ok (.value v) w'∧∃ρ' S',Rep C (fun j=>X j∨j=i) ρ' S' (st.app i o.dst {val:= .tup [.p (.bool false)]}) (a.put o.dst v).tmps w')∨
  ∃(j:Nat) (q:P×P),rest[j]? =some q∧∃v w',(execOp a.eval o).run C.E.prog w= .ok (.value v) w'∧
   ∃ρ' S',Rep C (fun j=>X j∨j=i) ρ' S' (st.app i o.dst {val:= .tup [.p (.bool true),.p q.1,.p q.2],wr:=[(id,.mit (rest.eraseIdx j) (some q))]}) (a.put o.dst v).tmps w':=by
 have h1:=Zi h 0 hlit;rw[hx]at h1;generalize hv:a.eval it=v at h1;cases h1 with
 |it _ L b hL hLb=>
 obtain⟨L',hL',b',hLb',hmit⟩:=h.objs id _ hlk (by simp);rw[hL]at hL';obtain rfl:=ZmQ hL';rw[hLb]at hLb';obtain rfl:=ZmQ hLb';have hown:=h.own id _ L b hlk (by simp) hL hLb;have over:rest=[]→(Instr.next (.pointer (some ⟨b,0,none⟩)) false o.type).run C.E.prog w= .ok (.tuple #[.bool false]) w→
   ∃v w',(execOp a.eval o).run C.E.prog w= .ok (.value v) w'∧∃ρ' S',Rep C (fun j=>X j∨j=i) ρ' S' (st.app i o.dst {val:= .tup [.p (.bool false)]}) (a.put o.dst v).tmps w':=fun _ hr=>by
  obtain⟨S',hrep⟩:=h.step (i:=i) (t:=o.dst) (e:={val:= .tup [.p (.bool false)]}) (v:= .tuple #[.bool false]) (w':=w) ρ hi ht (ZmL _) (ZS.refl _) (fun _ _ _=>rfl) (by simp) (fun _ _ h=>h) (fun id h=> .inl h) (by simp) (fun _ _ hm=>by simp at hm) (fun _ _ _ _ _ _ _ hm=>by simp at hm) (by simp)
   (fun _ _ _ _ _=> .tup _ _ rfl fun j u c hu hc=>by
    match j with
    |0=>simp at hu hc;subst hu hc;exact .p _ _ (.bool false)
    |j+1=>simp at hc)
  exact⟨_,_,by simp[execOp,ho,hv,Sem.run_bind,hr,Result.andThen,Sem.run],ρ,S',hrep⟩
 rcases hmit with ⟨since,seen,stepped,hb,rfl,rfl⟩ |⟨m,es,clock,seen,kv',hSm,hm,hb,hel,hkv,hborn,hbinj,hperm,_⟩
 ·exact .inl ⟨rfl,over rfl (by simp[Instr.next,getObj,Sem.run,hb])⟩
 ·have hlen:es.toList.length=kv'.length:=by simpa using hel
  have hlf:(leftOf es seen).toList=es.toList.filter fun e=> !seen.contains e.born:=by simp[leftOf]
  rcases run_next_at (P:=C.E.prog) w o.type b m clock clock seen es clock hb hm (fun x hx=>by obtain⟨k,hk⟩:=Znv.1 hx;exact hborn k x (by simpa using hk)) (ZmL _)with ⟨h0,hr⟩ |⟨e,he,w1,hal,hr⟩
  ·refine .inl ?_;have hz:((es.toList.zip kv').filter fun x=> !seen.contains x.1.born).length=0:=by rw[ZbL (fun e:MapEntry=> !seen.contains e.born) es.toList kv' hlen,←hlf];simpa using h0
   have:rest=[]:=by have:=hperm.length_eq;rw[Znp,hz]at this;exact Zm1 this.symm
   exact⟨this,over this hr⟩
  ·refine .inr ?_;rw[hlf,List.mem_filter]at he;obtain⟨hee,hun⟩:=he;obtain⟨k,hk⟩:=Znv.1 hee;have hkl:k < es.toList.length:=(ZmA.1 hk).1;have hq:kv'[k]? =some kv'[k]:=by simp[hlen▸hkl]
   have hpair:(e,kv'[k])∈es.toList.zip kv':=by refine Znv.2 ⟨k, ?_⟩;rw[Znm];exact⟨hk,hq⟩
   have hun':seen.contains e.born=false:=by simpa using hun
   have zinj:∀x∈es.toList.zip kv',∀y∈es.toList.zip kv',x.1.born=y.1.born→x=y:=fun x hx y hy hxy=>by obtain⟨k1,h1⟩:=Znv.1 hx;obtain⟨k2,h2⟩:=Znv.1 hy;have g1:=Znm.1 h1;have g2:=Znm.1 h2;have:=hbinj k1 k2 _ _ (by simpa using g1.1) (by simpa using g2.1) hxy;subst this;rw[h1]at h2;exact ZmQ h2
   have znd:(es.toList.zip kv').Nodup:=by
    refine List.pairwise_iff_getElem.2 fun k1 k2 h1 h2 h12 heq=> ?_
    have hz:(es.toList.zip kv')[k1]? =some (es.toList.zip kv')[k1]:=List.getElem?_eq_getElem h1;have hz2:(es.toList.zip kv')[k2]? =some (es.toList.zip kv')[k1]:=by rw[heq];exact List.getElem?_eq_getElem h2
    have g1:=Znm.1 hz;have g2:=Znm.1 hz2;have e1:=ZmU (xs:=es) (i:=k1);have e2:=ZmU (xs:=es) (i:=k2);have:=hbinj k1 k2 _ _ (e1.symm.trans g1.1) (e2.symm.trans g2.1) rfl;omega
   have hrem:=Zci (fun x:MapEntry×(P×P)=>x.1.born) seen (e,kv'[k]) (fun _=>True) (es.toList.zip kv') zinj znd hpair hun';have hp2:(kv'[k]::(((es.toList.zip kv').filter fun x=> !(seen.push e.born).contains x.1.born).map (·.2))).Perm rest:=by have:=(hrem.map (·.2)).trans hperm;simpa using this
   have hmemr:kv'[k]∈rest:=hp2.subset (by simp);obtain⟨j,hj⟩:=Znv.1 hmemr;have hjl:=(ZmA.1 hj).1;have hjv:rest[j]=kv'[k]:=(ZmA.1 hj).2;have hp3:(((es.toList.zip kv').filter fun x=> !(seen.push e.born).contains x.1.born).map (·.2)).Perm (rest.eraseIdx j):=by have h5:(rest[j]::rest.eraseIdx j).Perm rest:=ZeW rest j hjl;rw[hjv]at h5;exact(hp2.trans h5.symm).cons_inv
   have hek:=hkv k e kv'[k] (by simpa using hk) hq;have hheap:∀b',b'≠b→(setBlock w1 b (.mapIter (some m) clock (seen.push e.born) clock)).heap[b']? =w.heap[b']? :=fun b' hne=>by
    have:w1.heap=w.heap:=by rcases hal with rfl |rfl<;>rfl
    simp only[setBlock,this];exact Array.getElem?_setIfInBounds_ne (Ne.symm hne)
   have hheapb:(setBlock w1 b (.mapIter (some m) clock (seen.push e.born) clock)).heap[b]? =some (.mapIter (some m) clock (seen.push e.born) clock):=by
    have:w1.heap=w.heap:=by rcases hal with rfl |rfl<;>rfl
    simp only[setBlock,this];simp[hown.1]
   have hsz:(setBlock w1 b (.mapIter (some m) clock (seen.push e.born) clock)).heap.size=w.heap.size:=by
    have:w1.heap=w.heap:=by rcases hal with rfl |rfl<;>rfl
    simp[setBlock,this]
   have hmb:m≠b:=fun hh=>(hown.2.2.2 hfz) (hh▸hSm)
   have kp:Zcx S w (setBlock w1 b (.mapIter (some m) clock (seen.push e.born) clock)):=fun b' hb' _=>hheap b' fun hh=>(hown.2.2.2 hfz) (hh▸hb')
   refine⟨j,kv'[k],hj,(.tuple #[.bool true,e.key,e.val]),setBlock w1 b (.mapIter (some m) clock (seen.push e.born) clock),by simp[execOp,ho,hv,Sem.run_bind,hr,Result.andThen,Sem.run],ρ, ?_⟩;refine h.step ρ hi ht (Nat.le_of_eq hsz.symm) ?_ ?_ ?_ (fun _ _ h=>h) (fun id h=> .inl h) (by simp) (fun _ _ hm=>by simp at hm) (fun _ _ _ _ _ _ _ hm=>by simp at hm) ?_ ?_
   ·rcases hal with rfl |rfl<;>exact⟨rfl,rfl⟩
   ·intro b1 hb1 hne;exact hheap b1 fun hh=>hne id _ L (ZmI.2 rfl) hL (by rw[hLb,hh])
   ·intro id' o' hm';simp only[ZmI,ZmS]at hm';obtain⟨rfl,rfl⟩:=hm';exact⟨hfz,_,hlk,by simp⟩
   ·intro id' o' L1 hm' _ hL1 S' hS _;simp only[ZmI,ZmS]at hm';obtain⟨rfl,rfl⟩:=hm';rw[hL]at hL1;obtain rfl:=ZmQ hL1;refine⟨b,hLb,.inr ⟨m,es,clock,seen.push e.born,kv',hS m hSm,by rw[hheap m hmb];exact hm,hheapb,hel,fun i' e' q' h1 h2=>⟨(hkv i' e' q' h1 h2).1.mono kp hS,(hkv i' e' q' h1 h2).2.mono kp hS⟩,hborn,hbinj,hp3, ?_⟩⟩;exact⟨k,e,by simpa using hk,hq,by simp⟩
   ·intro S' hS _ d _;refine .tup _ _ rfl fun j' u c hu hc=> ?_
    match j' with
    |0=>simp at hu hc;subst hu hc;exact .p _ _ (.bool true)
    |1=>simp at hu hc;subst hu hc;exact .p _ _ (hek.1.mono kp hS)
    |2=>simp at hu hc;subst hu hc;exact .p _ _ (hek.2.mono kp hS)
    |j'+3=>simp at hc
end
end Eng
namespace Eng
open Go
section
variable {C:Ctx} {X:Nat→Prop} {ρ:Id→Option Lay} {S:Nat→Prop} {st:St} {a:Act} {w:World} {i:Nat} {o:Oper}
theorem ZhY (h:Rep C X ρ S st a.tmps w) (hi:¬X i) (ht:∀d,o.dst=some d→d < C.E.nt) (hE:Zk C.E) {args:Array Operand} {ats:Array TypeId} {x:Operand} {t el:Nat} (ho:o.op= .call {callee:= .builtin .cap,args,argTypes:=ats})
  (hargs:args.toList=[x]) (hats:ats.toList=[t]) (hlit:Zz x=true) (hty:C.E.td t=some (.sl el)) {id:Id} {off len:Nat} (hx:ev C.E st.slots t x= .sl id off len):
  ∃c:Nat,len≤c∧c≤Zq∧∃v,(execOp a.eval o).run C.E.prog w= .ok (.value v) w∧∃ρ' S',Rep C (fun j=>X j∨j=i) ρ' S' (st.app i o.dst {val:= .p (.int .i64 c)}) (a.put o.dst v).tmps w:=by
 have hr:=Zi h t hlit;rw[hx]at hr;have ha:args.map a.eval= #[a.eval x]:=by rw[←ZmV (xs:=args),hargs];simp
 have hat:ats= #[t]:=by rw[←ZmV (xs:=ats),hats]
 subst hat;obtain⟨d,hu,hd⟩:=hE.und hty;have hu':C.E.prog.underlying t=some (.slice el):=by cases d<;>simp[Zat]at hd;subst hd;exact hu
 generalize a.eval x=v at ha hr;cases hr with
 |sl _ _ _ cap ad L hL hl hm hc hb=>
 obtain⟨csb,hxb⟩:=ZA (a:=a) (w:=w) (P:=C.E.prog) ho;have hrun:(Builtin.cap_ #[t] o.type #[.slice ad len cap]).run C.E.prog w= .ok (.int .i64 cap) w:=by simp[Builtin.cap_,Za hu',goInt]
 obtain⟨S',hrep⟩:=h.step (i:=i) (t:=o.dst) (e:={val:= .p (.int .i64 cap)}) (v:= .int .i64 cap) (w':=w) ρ hi ht (ZmL _) (ZS.refl _) (fun _ _ _=>rfl) (by simp) (fun _ _ h=>h) (fun id h=> .inl h) (by simp) (fun _ _ hm=>by simp at hm) (fun _ _ _ _ _ _ _ hm=>by simp at hm) (by simp)
  (fun _ _ _ _ _=> .p _ _ (.int .i64 _ (ZdC hm.2).1 (ZdC hm.2).2))
 refine⟨cap,hc,hm.2,_, ?_,ρ,S',hrep⟩;rw[hxb,ha];exact ZfW hrun
theorem ZjS (h:Rep C X ρ S st a.tmps w) (hi:¬X i) (ht:∀d,o.dst=some d→d < C.E.nt) (hE:Zk C.E) {args:Array Operand} {ats:Array TypeId} {s x:Operand} {t u:Nat} {te:TI} {tu:TD} (ho:o.op= .call {callee:= .builtin .append,args,argTypes:=ats})
  (hargs:args.toList=[s,x]) (hats:ats.toList=[t,u]) (hlit:∀y∈args.toList,Zz y=true) (hel:C.E.elem t=some te) (htu:C.E.td u=some tu) (htd:(∃e,tu= .sl e)∨tu= .str) {id:Id} {es xs:List P}
  (hs:ev C.E st.slots t s= .sl id 0 es.length) (hx:Zcz st.objs te.size (ev C.E st.slots u x)=some xs) (hlk:st.objs id=some (.arr te.size es false)) (hfz:st.fz id=false) (hfit:(es.length+xs.length)*max te.bytes 1≤ZO):
  ∃v w',(execOp a.eval o).run C.E.prog w= .ok (.value v) w'∧
   ∃ρ' S',Rep C (fun j=>X j∨j=i) ρ' S' (st.app i o.dst {val:= .p (.sl te.size (es++xs)),wr:=[(id,.arr te.size es true)],frz:=[id]}) (a.put o.dst v).tmps w':=by
 have ha:args.map a.eval= #[a.eval s,a.eval x]:=by rw[←ZmV (xs:=args),hargs];simp
 have hat:ats= #[t,u]:=by rw[←ZmV (xs:=ats),hats]
 subst hat;obtain⟨ds,huu,hdsn⟩:∃ds,C.E.prog.underlying u=some ds∧∀k,ds≠ .int k:=by obtain⟨d,hu,hd⟩:=hE.und htu;exact⟨d,hu,fun k hk=>by subst hk;rcases htd with ⟨e,rfl⟩ |rfl<;>simp[Zat]at hd⟩
 obtain⟨el,hty,hte⟩:∃el,(∃sz by_ ze,C.E.ty t=some {d:= .sl el,size:=sz,bytes:=by_,zero:=ze})∧C.E.ty el=some te:=by unfold Env.elem at hel;split at hel;rotate_left;simp at hel;rename_i e' _ _ _ hq;exact⟨e',⟨_,_,_,hq⟩,hel⟩
 obtain⟨_,_,_,hty⟩:=hty;have hut:=hE.slice hty rfl;have hrs:=Zi h t (hlit s (by simp[hargs]));have hrx:=Zi h u (hlit x (by simp[hargs]));rw[hs]at hrs;have hnew:=Zds (P:=C.E.prog) h.objs hrx hx;have hold:=Zds (P:=C.E.prog) (sz:=te.size) (xs:=es.take es.length) h.objs hrs (by simp[Zcz,Zbh,hlk]);rw[List.take_length]at hold;generalize a.eval x=vx at ha hnew hrx;generalize a.eval s=vs at ha hrs hold;cases hrs with
 |sl _ _ _ sCap ad L0 hL0 hll hm hcp hb0=>
 obtain⟨csb,hxb⟩:=ZA (a:=a) (w:=w) (P:=C.E.prog) ho;obtain⟨L',hL',hsz,hlen,hlc,hlm',hbn,hcells,evs,hev,hcell,hrel⟩:=h.objs id _ hlk (by simp);rw[hL0]at hL';obtain rfl:=ZmQ hL';obtain⟨news,evs',n1,n2,n3,n4,n5,n6,n7⟩:=hnew;obtain⟨olds,evo,o1,o2,o3,o4,o5,o6,o7⟩:=hold;have hb2:es.length+xs.length≤ZO:=by have:=Nat.mul_le_mul_left (es.length+xs.length) (Nat.le_max_right te.bytes 1);omega
 have hb1:(es.length+xs.length)*te.bytes≤ZO:=Nat.le_trans (Nat.mul_le_mul_left _ (Nat.le_max_left _ _)) hfit;have hown:∀b,L0.blk=some b→¬S b∧b < w.heap.size:=fun b hb=>⟨(h.own id _ L0 b hlk (by simp) hL0 hb).2.2.2 hfz,(h.own id _ L0 b hlk (by simp) hL0 hb).1⟩
 have wrg:∀id' o',(id',o')∈[(id,Obj.arr te.size es true)]→st.fz id'=false∧∃o',st.objs id'=some o'∧o'≠ .gone:=by intro id' o' hm';simp only[ZmI,ZmS]at hm';obtain⟨rfl,rfl⟩:=hm';exact⟨hfz,_,hlk,by simp⟩
 have key:∀(v:Value) (w':World) (N:Nat→Prop),(∀b,N b→b < w'.heap.size∧w.heap.size≤b)→w.heap.size≤w'.heap.size→ZS w w'→(∀b,b < w.heap.size→L0.blk≠some b→w'.heap[b]? =w.heap[b]?)→
   (Builtin.append_ #[t,u] o.type #[.slice ad es.length sCap,vx]).run C.E.prog w= .ok v w'→
   (∀S',(∀b,S b→S' b)→ZB w' S' ρ L0 (.arr te.size es true))→
   (∀S',(∀b,N b→S' b)→(∀b,S b→S' b)→(∀b,L0.blk=some b→S' b)→RelP w' S' v (.sl te.size (es++xs)))→
   ∃v w',(execOp a.eval o).run C.E.prog w= .ok (.value v) w'∧
    ∃ρ' S',Rep C (fun j=>X j∨j=i) ρ' S' (st.app i o.dst {val:= .p (.sl te.size (es++xs)),wr:=[(id,.arr te.size es true)],frz:=[id]}) (a.put o.dst v).tmps w':=by
  intro v w' N hN hsize hq hkp hrun hobj hval;obtain⟨S',hrep⟩:=h.stepN (i:=i) (t:=o.dst) (e:={val:= .p (.sl te.size (es++xs)),wr:=[(id,.arr te.size es true)],frz:=[id]}) (v:=v) (w':=w') ρ N
   (fun b hb=>⟨(hN b hb).1,.inl (hN b hb).2⟩) (fun _ _ _ _ hm'=>by simp at hm') hi ht hsize hq
   (fun b hb hne=>hkp b hb (hne id _ L0 (ZmI.2 rfl) hL0)) wrg (fun _ _ h=>h) (fun id h=> .inl h)
   (fun id' hm'=>by simp only[ZmI]at hm';subst hm';exact⟨by rw[hL0];simp,fun o' ho'=>by simp only[ZmI,ZmS]at ho';rw[ho'.2];simp⟩)
   (fun _ _ hm'=>by simp at hm') (fun _ _ _ _ _ _ _ hm'=>by simp at hm')
   (fun id' o' L hm' _ hL S' hNS hS hF=>by simp only[ZmI,ZmS]at hm';obtain⟨rfl,rfl⟩:=hm';rw[hL0]at hL;obtain rfl:=ZmQ hL;exact hobj S' hS)
   (fun S' hNS hS hF _ _=> .p _ _ (hval S' hNS hS fun b hb=>hF id (ZmI.2 rfl) _ L0 b hlk (by simp) hL0 hb))
  refine⟨v,w', ?_,ρ,S',hrep⟩;rw[hxb,ha];exact ZfW hrun
 by_cases hroom:es.length+xs.length≤sCap
 ·
  have hnf:=n4 xs.length (ZmL _) w rfl;rw[List.take_of_length_le (by omega)]at hnf;rcases hb0 with h0 |⟨b,hLb,rfl,hcap⟩
  ·have he0:es.length=0:=by omega
   have hx0:xs.length=0:=by omega
   have hes:es=[]:=Zm1 he0;have hxs:xs=[]:=Zm1 hx0;refine key (.slice ad 0 sCap) w (fun _=>False) (fun _ hb=>hb.elim) (ZmL _) (ZS.refl _) (fun _ _ _=>rfl) ?_ (fun S' hS=> ?_) (fun S' _ hS _=> ?_)
   ·have:=Zbl (w:=w) (ty:=o.type) (ad:=ad) (sCap:=sCap) hE rfl hut hte huu hdsn (by rw[←hx0];exact n3) (by simpa using n4 0 (by simp) w rfl);rw[he0];exact this
   ·exact⟨hsz,hlen,hlc,hlm',hbn,hcells,evs,hev,hcell,fun j e he=>(hrel j e he).mono (fun _ _ _=>rfl) hS⟩
   ·subst hes hxs;exact .sl _ 0 _ _ [] evs rfl (by simp) (by simp) (fun i hi=>by omega) (fun i hi=>by omega) (fun i e he=>by simp at he)
  ·have hcs:∀m,m < news.length→(w.cell? ⟨b,L0.base+es.length*te.size+m,none⟩).isSome=true∧w.frozen? ⟨b,L0.base+es.length*te.size+m,none⟩=false:=fun m hm'=>by have hle2:(es.length+xs.length)*te.size≤L0.cap*te.size:=Nat.mul_le_mul_right _ (by omega);rw[Nat.add_mul,←n1]at hle2;obtain⟨⟨v,q⟩,q2⟩:=hcells b hLb (es.length*te.size+m) (by omega);rw[show L0.base+es.length*te.size+m=L0.base+(es.length*te.size+m) by omega,q,q2];exact⟨rfl,rfl⟩
   have hrun:=Zca (w:=w) (ty:=o.type) hE rfl hut hte huu hdsn (b:=b) (o:=L0.base+0*L0.sz) (sLen:=es.length) (sCap:=sCap) n3 hnf hroom (fun m hm'=>by rw[show L0.base+0*L0.sz+es.length*te.size+m=L0.base+es.length*te.size+m by omega];exact(hcs m hm').1) (fun m hm'=>by rw[show L0.base+0*L0.sz+es.length*te.size+m=L0.base+es.length*te.size+m by omega];exact(hcs m hm').2) n5;rw[show L0.base+0*L0.sz+es.length*te.size=L0.base+es.length*te.size by omega]at hrun;have hcell':=fun m=>Zac (w:=w) (b:=b) (o:=L0.base+es.length*te.size) (vs:=news) (fun m hm'=>(hcs m hm').1) m
   have kS:Zcx S w (w.setCells b (L0.base+es.length*te.size) news):=fun b' hb' _=>Zp b _ _ _ b' (fun e=>(hown b hLb).1 (e▸hb'))
   have hold':∀(j k:Nat) v,j < L0.len→(evs j).cells[k]? =some v→(w.setCells b (L0.base+es.length*te.size) news).cell? ⟨b,L0.base+j*te.size+k,none⟩=some v:=fun j k v hj hv=>by
    have hk:k < te.size:=by have:=(Zmp.1 hv).1;have:=hev j hj;omega
    have:(j+1)*te.size≤es.length*te.size:=Nat.mul_le_mul_right _ (by omega);rw[Nat.add_mul,Nat.one_mul]at this;rw[hcell',if_neg (by omega)];exact hcell b hLb j k v hj hv
   refine key _ _ (fun _=>False) (fun _ hb=>hb.elim) (by rw[ZV];exact ZmL _) (ZS.setCells _ _ _ _) (fun b' _ hne=>Zp b _ _ _ b' (fun e=>hne (e▸hLb))) hrun (fun S' hS=> ?_) (fun S' _ hS hF=> ?_)
   ·refine⟨hsz,hlen,hlc,hlm',hbn,fun b1 hb1 m hm'=> ?_,evs,hev,fun b1 hb1 j k v hj hv=> ?_,fun j e he=>(hrel j e he).mono kS hS⟩
    ·rw[hLb,ZmR]at hb1;subst hb1;obtain⟨⟨v,q⟩,q2⟩:=hcells b hLb m hm';refine⟨?_,by rw[World.frozen?_setCells];exact q2⟩;rw[hcell'];split
     ·exact⟨_,List.getElem?_eq_getElem (by omega)⟩
     ·exact⟨v,q⟩
    ·rw[hLb,ZmR]at hb1;subst hb1;exact hold' j k v hj hv
   ·refine .sl _ _ _ _ _ (ZgF es.length evs evs') (by simp) (by unfold ZO at hb2;unfold Zag;omega) hroom (fun j hj=> ?_) (fun j hj=>⟨b,_,rfl,hF b hLb,fun k v hv=> ?_⟩) (fun j e he=> ?_)
    ·unfold ZgF;split
     ·exact hev j (by omega)
     ·exact(n6 (j - es.length) (by omega)).1
    ·unfold ZgF at hv;rw[show L0.base+0*L0.sz+j*te.size+k=L0.base+j*te.size+k by omega];split at hv
     ·exact hold' j k v (by omega) hv
     ·rename_i hlt;have:=(n6 (j - es.length) (by omega)).2 k v hv;have hl':(j - es.length)*te.size+k < news.length:=(ZmA.1 this).1;have hjs:j*te.size=es.length*te.size+(j - es.length)*te.size:=by rw[←Nat.add_mul];congr 1;omega
      rw[hcell',if_pos (by omega),show L0.base+j*te.size+k - (L0.base+es.length*te.size)=(j - es.length)*te.size+k by omega];exact this
    ·unfold ZgF
     by_cases hlt:j < es.length
     ·rw[List.getElem?_append_left hlt]at he;rw[if_pos hlt];exact(hrel j e he).mono kS hS
     ·rw[List.getElem?_append_right (by omega)]at he;rw[if_neg hlt];exact(n7 _ e he).mono kS hS
 ·
  obtain⟨rest,hrest,hrun⟩:=ZbM (w:=w) (ty:=o.type) hE rfl hut hte huu hdsn (m:=xs.length) n3 (news:=news) (fun w' hw'=>by
   have:=n4 xs.length (ZmL _) w' hw'
   rwa [List.take_of_length_le (by omega)]at this) (ad:=ad) (sLen:=es.length) (sCap:=sCap) (olds:=olds) (fun w' hw'=>by
   have:=o4 es.length (by omega) w' hw'
   rwa [List.take_of_length_le (by rw[o1];exact ZmL _)]at this) (by omega) (by unfold ZO at hb2;unfold Zq;omega) hb1
  have hcap:=grownCap_ge w (es.length+xs.length) sCap el;generalize grownCap w (es.length+xs.length) sCap el=cap at hrun hrest hcap;generalize hww:w.drew.alloc (.cells (olds.toArray++news.toArray++rest) el)=w' at hrun;have hw:w'.heap=w.heap.push (.cells (olds.toArray++news.toArray++rest) el):=by rw[←hww];rfl
  have kp:∀b,b < w.heap.size→w'.heap[b]? =w.heap[b]? :=fun b hb=>Zao hw hb
  have hsz':w'.heap.size=w.heap.size+1:=by rw[hw];simp
  have hc:∀j,w'.cell? ⟨w.heap.size,j,none⟩=(olds.toArray++news.toArray++rest)[j]? :=fun j=>by simp[World.cell?,Z2 hw]
  have kS:Zcx S w w':=fun b hb _=>kp b (h.sIn b hb)
  have hqu:ZS w w':=by rw[←hww];exact⟨rfl,rfl⟩
  refine key _ w' (fun b=>b=w.heap.size) (fun b hb=>by omega) (by omega) hqu (fun b hb _=>kp b hb) hrun (fun S' hS=> ?_) (fun S' hN hS hF=> ?_)
  ·have hro:ZB w S ρ L0 (.arr te.size es true):=⟨hsz,hlen,hlc,hlm',hbn,hcells,evs,hev,hcell,hrel⟩;exact hro.mono kS hS (fun _ _ h=>h) (fun b hb=>kp b (hown b hb).2)
  ·refine .sl _ _ _ _ _ (ZgF es.length evo evs') (by simp) (by unfold ZO at hb2;unfold Zag;omega) hcap (fun j hj=> ?_) (fun j hj=>⟨w.heap.size,0,rfl,hN _ rfl,fun k v hv=> ?_⟩) (fun j e he=> ?_)
   ·unfold ZgF;split
    ·exact(o6 j (by omega)).1
    ·exact(n6 (j - es.length) (by omega)).1
   ·rw[hc,Znh];unfold ZgF at hv;split at hv
    ·rename_i hlt;have:=(o6 j (by omega)).2 k v hv;have hl':j*te.size+k < olds.length:=(ZmA.1 this).1;rw[ZmT,if_pos (by simp;omega),ZmT,if_pos (by simpa using hl')];simpa using this
    ·rename_i hlt;have:=(n6 (j - es.length) (by omega)).2 k v hv;have hl':(j - es.length)*te.size+k < news.length:=(ZmA.1 this).1;have hjs:j*te.size=es.length*te.size+(j - es.length)*te.size:=by rw[←Nat.add_mul];congr 1;omega
     rw[ZmT,if_pos (by simp;omega),ZmT,if_neg (by simp;omega)];simp only[List.size_toArray,List.getElem?_toArray];rw[show j*te.size+k - olds.length=(j - es.length)*te.size+k by omega];exact this
   ·unfold ZgF
    by_cases hlt:j < es.length
    ·rw[List.getElem?_append_left hlt]at he;rw[if_pos hlt];exact(o7 j e he).mono kS hS
    ·rw[List.getElem?_append_right (by omega)]at he;rw[if_neg hlt];exact(n7 _ e he).mono kS hS
end
section
variable {U:Zc}
noncomputable def anyN {β:Type} (n:Nat) (f:Nat→Option β):Option β:=
 @dite _ (∃r,∀c,n≤c→c≤Zq→f c=some r) (Classical.propDecidable _) (fun h=>some h.choose) fun _=>none
theorem Zj7 {β:Type} {n:Nat} {f:Nat→Option β} {r:β} (h:anyN n f=some r) {c:Nat} (h1:n≤c) (h2:c≤Zq):f c=some r:=by unfold anyN at h;split at h;rotate_left;simp at h;rename_i hx;simp only[ZmR]at h;rw[←h];exact hx.choose_spec c h1 h2
theorem anyN_eq {β:Type} {n:Nat} {f:Nat→Option β} {r:β} (hn:n≤Zq) (h:∀c,n≤c→c≤Zq→f c=some r):anyN n f=some r:=by unfold anyN;have hx:∃r,∀c,n≤c→c≤Zq→f c=some r:=⟨r,h⟩;rw[dif_pos hx];have h1:=hx.choose_spec n (ZmL _) hn;have h2:=h n (ZmL _) hn;rw[h1]at h2;exact h2
def ZkN (X:ZG U) (T:TS U) (o:Oper):Option Nat:=
 match o.op with
 | .call c=>match c.callee,c.args.toList,c.argTypes.toList with
  | .builtin .cap,[x],[t]=>match X.get t,evT X T.slots t x with
   |some e,some d=>match e.ti.d with
    | .sl _=>match d with
     | .full id _=>match T.objs id with
      |some (.arr _ xs _)=>some (Znn xs)
      |_=>none
     | .sl _ _ len=>some len
     |_=>none
    |_=>none
   |_,_=>none
  |_,_,_=>none
 |_=>none
structure KpI (U:Zc) where
 id:Id
 t:Ty
 xs:List (El U.car t)
 ys:List (El U.car t)
 by_:Nat
def ZkE (keep:List Nat) (X:ZG U) (T:TS U) (o:Oper):Option (KpI U):=
 match o.dst with
 |some k=>if keep.contains k then match o.op with
  | .call c=>match c.callee,c.args.toList,c.argTypes.toList with
   | .builtin .append,[s,x],[t,u]=>match X.elem t,X.get u,evT X T.slots t s,evT X T.slots u x with
    |some e,some eu,some (.full id _),some dx=>if U.tsize e.ty=e.ti.size∧Zki eu.ti.d=true then match Zmc T dx e.ty,T.objs id with
     |some ys,some (.arr t' xs false)=>match (Lf.mk (.sl t') xs:Lf U.car).as (.sl e.ty)with
      |some xs=>if T.fz id=false then some ⟨id,e.ty,xs,ys,e.ti.bytes⟩else none
      |none=>none
     |_,_=>none
     else none
    |_,_,_,_=>none
   |_,_,_=>none
  |_=>none
  else none
 |none=>none
variable {C:Ctx} {Xs:Nat→Prop} {ρ:Id→Option Lay} {S:Nat→Prop} {a:Act} {w:World} {i:Nat} {o:Oper} {X:ZG U} {T:TS U}
theorem ZiL (hX:TOk X) (hT:T.Inv) (hCE:C.E=X.E) (h:Rep C Xs ρ S T.enc a.tmps w) (hi:¬Xs i) (hE:Zk C.E) (hok:Zfj X.E o=true) {n:Nat} (hc:ZkN X T o=some n):
  (∀c,o.op≠ .defer c)∧∃c:Nat,n≤c∧c≤Zq∧∃v,(execOp a.eval o).run C.E.prog w= .ok (.value v) w∧∃ρ' S',Rep C (fun j=>Xs j∨j=i) ρ' S' (T.enc.app i o.dst {val:= .p (.int .i64 c)}) (a.put o.dst v).tmps w:=by
 have ht:∀d,o.dst=some d→d < C.E.nt:=by rw[hCE];simp only[Zfj,Zmt]at hok;exact Za9 hok.1
 unfold ZkN at hc;split at hc;rotate_left;simp at hc;rename_i c hop;refine⟨fun c' hc'=>(by rw[hop]at hc';cases hc'), ?_⟩;obtain⟨cal,args,ats⟩:=c;dsimp only at hc;split at hc;rotate_left;simp at hc;rename_i x t hargs hats;split at hc;rotate_left;simp at hc;rename_i e d he hd;have hlit:Zz x=true:=by simp only[Zfj,Zmt]at hok;have:=hok.2;rw[hop]at this;simp only[Op.operands,Call.operands,Array.all_eq_true']at this;exact this x (by simp[←Array.mem_toList_iff,hargs])
 split at hc;rotate_left;simp at hc;rename_i el hel;have htd:C.E.td t=some (.sl el):=by rw[hCE];rw[←hel];exact Zr he
 split at hc
 ·split at hc;rotate_left;simp at hc;rename_i hobj;cases hc;exact ZhY h hi ht hE hop hargs hats hlit htd (by rw[hCE,Zb hX hd,←Za5 hT hd hobj];rfl)
 ·cases hc;exact ZhY h hi ht hE hop hargs hats hlit htd (by rw[hCE,Zb hX hd];rfl)
 ·simp at hc
theorem Ziw (hX:TOk X) (hT:T.Inv) (hCE:C.E=X.E) (h:Rep C Xs ρ S T.enc a.tmps w) (hi:¬Xs i) (hE:Zk C.E) (hok:Zfj X.E o=true) {keep:List Nat} {q:KpI U} (hc:ZkE keep X T o=some q) (hroom:ZiZ (q.xs.length+q.ys.length) q.by_=true):
  (∀c,o.op≠ .defer c)∧ZJ T i {val:= .v (.sl q.t) (q.xs++q.ys),wr:=[(q.id,.arr q.t q.xs true)],frz:=[q.id]}∧∃v w',(execOp a.eval o).run C.E.prog w= .ok (.value v) w'∧
   ∃ρ' S',Rep C (fun j=>Xs j∨j=i) ρ' S' (T.enc.app i o.dst (Zh.enc {val:= .v (.sl q.t) (q.xs++q.ys),wr:=[(q.id,.arr q.t q.xs true)],frz:=[q.id]} [])) (a.put o.dst v).tmps w':=by
 have ht:∀d,o.dst=some d→d < C.E.nt:=by rw[hCE];simp only[Zfj,Zmt]at hok;exact Za9 hok.1
 unfold ZkE at hc;split at hc;rotate_left;simp at hc;split at hc;rotate_left;simp at hc;split at hc;rotate_left;simp at hc;rename_i c hop;refine⟨fun c' hc'=>(by rw[hop]at hc';cases hc'), ?_⟩;obtain⟨cal,args,ats⟩:=c;dsimp only at hc;split at hc;rotate_left;simp at hc;rename_i s x t u hargs hats;have hlit:∀y∈args.toList,Zz y=true:=by simp only[Zfj,Zmt]at hok;have:=hok.2;rw[hop]at this;simp only[Op.operands,Call.operands,Array.all_eq_true']at this;exact fun y hy=>this y (by simpa using hy)
 split at hc;rotate_left;simp at hc;rename_i e eu id n dx he heu hd hdx;split at hc;rotate_left;simp at hc;rename_i hc0;split at hc;rotate_left;simp at hc;rename_i ys t' xs0 hys hobj;split at hc;rotate_left;simp at hc;rename_i xs hxs;split at hc;rotate_left;simp at hc;rename_i hfz;cases hc;have hq:=ZN hxs;cases hq;have hl:n=Znn xs:=Za5 hT hd hobj;have hsrc:=Zdh hT hX hdx hys;rw[hc0.1]at hsrc;have hel:C.E.elem t=some e.ti:=by rw[hCE];exact ZaE he
 have htu:C.E.td u=some eu.ti.d:=by rw[hCE];exact Zr heu
 have htd:(∃e,eu.ti.d= .sl e)∨eu.ti.d= .str:=by have h2:=hc0.2;revert h2;cases eu.ti.d<;>simp[Zki]
 refine⟨Zb4 rfl (fun t2 xs2 fix2 he2=> ?_) (fun _=>by trivial), ?_⟩
 ·cases he2;exact⟨_,_,_,hobj,rfl⟩
 ·have:=ZjS (es:=xs.map (U.encE e.ty)) (xs:=ys.map (U.encE e.ty)) h hi ht hE hop hargs hats hlit hel htu htd (id:=id) (by rw[hCE,Zb hX hd,Znp,←hl];rfl) (by rw[hCE,Zb hX hdx];exact hsrc)
   (by rw[Zg hobj,ZM,hc0.1]) hfz (by simpa[ZiZ]using hroom)
  simpa only[Zh.enc,TV.enc,Zc.encE,ZmD,Znt,ZM,Znq,hc0.1]using this
end
end Eng

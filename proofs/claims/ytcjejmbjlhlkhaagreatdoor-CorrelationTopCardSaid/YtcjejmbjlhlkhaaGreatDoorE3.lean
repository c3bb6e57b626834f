/- The engine, text 3: an abstract evaluator of Go code over pure data, proved sound. -/
import Derived.Test.YtcjejmbjlhlkhaaGreatDoorE2
import Derived.ChangeSame
import Derived.Maps.RangeRun
set_option linter.all false
open Array renaming getElem?_append->Zm1, getElem?_eq_some_iff->Zmy, getElem?_toList->Zm2, toArray_toList->Zm3
open Bool renaming and_eq_false_iff->Znr, and_eq_true->ZmC, false_eq_true->ZmD, or_eq_false_iff->Zns
open List renaming all_eq_true->Zm5, eq_nil_of_length_eq_zero->Zm9, getD_eq_getElem?_getD->Znt, getElem?_cons_zero->Zne, getElem?_eq_some_iff->ZmI, getElem?_map->ZmJ, getElem?_zip_eq_some->Znu, length->Znv, length_append->Znw, length_map->Znx, map_append->Zny, map_cons->ZmL, map_drop->Znz, map_map->ZnA, map_nil->ZnB, map_take->ZnC, mem_append->ZmM, mem_cons->ZmN, mem_cons_of_mem->Zni, mem_cons_self->ZmO, mem_iff_getElem?->ZnD, mem_map->Znk, mem_of_mem_drop->ZnE, mem_singleton->ZmQ, zip_cons_cons->ZnF
open Nat renaming le_refl->ZmT, zero_add->Znp
open Option renaming map_some->ZnG, some.inj->ZmY, some.injEq->ZmZ
open Prod renaming mk.injEq->Zm0
namespace Eng
open Go
def Zgg (l:List (Id×Obj)) (id:Id):Option Obj:=
 match l with
 | []=>none
 |(a,o)::r=>match Zgg r id with
  |some u=>some u
  |none=>if id=a then some o else none
theorem ZkE (l:List (Id×Obj)):∀(b:St) (id:Id),(b.objL l).objs id=(Zgg l id).or (b.objs id):=by
 induction l with
 |nil=>intro b id;rfl
 |cons x r c=>
  obtain⟨a,o⟩:=x;intro b id;simp only[St.objL,c,Zgg];cases Zgg r id with
  |some u=>rfl
  |none=>
   simp only[St.obj,upd,Option.or]
   by_cases h:id=a<;>simp[h]
theorem Zav {l:List (Id×Obj)} {id:Id} (h:id∉l.map (·.1)):Zgg l id=none:=by
 induction l with
 |nil=>rfl
 |cons x r b=>
  obtain⟨a,o⟩:=x;simp only[ZmL,ZmN,not_or]at h;simp only[Zgg,b h.2,h.1,if_false]
def news (ep i:Nat) (e:Eff):List (Id×Obj):=e.new.map fun x=>((ep,i,x.1),x.2)
theorem Zkd (a:St) (i:Nat) (t:Option Nat) (e:Eff) (id:Id):(a.app i t e).objs id=(Zgg (news a.ep i e) id).or ((Zgg e.wr id).or (a.objs id)):=by simp only[St.app,ZfY,ZH,ZkE,ZlO,news]
theorem Zg5 {ep i:Nat} {e:Eff} {id:Id} (h:id∈(news ep i e).map (·.1)):id.1=ep/\id.2.1=i:=by simp only[news,ZnA,Znk]at h;obtain⟨x,_,rfl⟩:=h;exact⟨rfl,rfl⟩
def ZL (ep i:Nat) (W:List Id) (id:Id):Bool:=decide (id∈W)||(decide (id.1=ep)&&decide (id.2.1=i))
theorem ZcW {a:St} {i:Nat} {t:Option Nat} {e:Eff} {id:Id} (h:ZL a.ep i (e.wr.map (·.1)) id=false):(a.app i t e).objs id=a.objs id:=by simp only[ZL,Zns,decide_eq_false_iff_not,Znr]at h;rw[Zkd,Zav (fun b=>by have:=Zg5 b;rcases h.2 with h |h<;>simp_all),Zav h.1];rfl
theorem Zk1 {a:St} {i j:Nat} {e f:Option Nat} {b c:Eff} (n:i≠j) (s:∀d,e=some d->f≠some d) (u:∀id∈b.wr.map (·.1),ZL a.ep j (c.wr.map (·.1)) id=false)
  (t:∀id∈c.wr.map (·.1),ZL a.ep i (b.wr.map (·.1)) id=false):(a.app i e b).app j f c=(a.app j f c).app i e b:=by
 have q:((a.app i e b).app j f c).slots=((a.app j f c).app i e b).slots:=by
  funext k;simp only[ZaK]
  by_cases hi:e=some k
  ·have:=s k hi;simp[hi,this]
  ·simp[hi]
 have r:((a.app i e b).app j f c).objs=((a.app j f c).app i e b).objs:=by
  funext id;simp only[Zkd,Zcv]
  by_cases hi:ZL a.ep i (b.wr.map (·.1)) id=true
  ·have m:ZL a.ep j (c.wr.map (·.1)) id=false:=by
    simp only[ZL,Bool.or_eq_true,decide_eq_true_eq,ZmC]at hi;rcases hi with hi |hi
    ·exact u id hi
    ·simp only[ZL,Zns,decide_eq_false_iff_not,Znr];refine⟨fun g=> ?_,.inr fun m=>n (by rw[<-hi.2,m])⟩;have:=t id g;simp[ZL,hi]at this
   simp only[ZL,Zns,decide_eq_false_iff_not,Znr]at m;rw[Zav (l:=news a.ep j c) (fun g=>by have:=Zg5 g;rcases m.2 with h |h<;>simp_all),Zav m.1];simp
  ·have hi:ZL a.ep i (b.wr.map (·.1)) id=false:=by simpa using hi
   simp only[ZL,Zns,decide_eq_false_iff_not,Znr]at hi;rw[Zav (l:=news a.ep i b) (fun g=>by have:=Zg5 g;rcases hi.2 with h |h<;>simp_all),Zav hi.1];simp
 have o:((a.app i e b).app j f c).fz=((a.app j f c).app i e b).fz:=by funext id;simp only[Zeg];cases b.frz.contains id<;>cases c.frz.contains id<;>rfl
 have p:((a.app i e b).app j f c).ep=((a.app j f c).app i e b).ep:=by simp
 generalize (a.app i e b).app j f c=s1 at*
 generalize (a.app j f c).app i e b=s2 at*
 cases s1;cases s2;simp only at q r o p;subst q r o p;rfl
structure Fp where
 R:List Id:=[]
 W:List Id:=[]
 F:List Id:=[]
def Zhb (ops:Array Oper) (ep i j:Nat) (d c:Oper) (a b:Fp):Bool:=
 d.apart ops c&&(a.R.all fun id=> !ZL ep j b.W id)&&(a.W.all fun id=> !ZL ep j b.W id)&&(b.R.all fun id=> !ZL ep i a.W id)&&(b.W.all fun id=> !ZL ep i a.W id)&&
  (a.F.all fun id=> !decide (id∈b.W))&&(b.F.all fun id=> !decide (id∈a.W))
inductive Zez (ops:Array Oper):Nat->Nat->Prop
 |one {j:Nat} {o:Oper} {e:Edge} (hj:ops[j]? =some o) (he:e∈o.after) (hb:Region.binds .any e=true):Zez ops j e.on
 |more {j i:Nat} {o:Oper} {e:Edge} (hj:ops[j]? =some o) (he:e∈o.after) (hb:Region.binds .any e=true) (h:Zez ops e.on i):Zez ops j i
def Zfc (ops:Array Oper) (a:Array Bool):Prop:=
 ∀j o,ops[j]? =some o->a.getD j true=true->∀e∈o.after,Region.binds .any e=true->a.getD e.on false=true
theorem Zg9 {a:Array Bool} {j:Nat} (h:a.getD j false=true):a.getD j true=true:=by
 rcases Nat.lt_or_ge j a.size with b |b
 ·simp[b]at h|-;exact h
 ·simp[Array.getElem?_eq_none b]at h
theorem Zez.listed {ops:Array Oper} {a:Array Bool} {j i:Nat} (h:Zez ops j i) (m:Zfc ops a) (l:∀o,ops[j]? =some o->∀e∈o.after,Region.binds .any e=true->a.getD e.on false=true):
  a.getD i false=true:=by
 induction h with
 |one k g f=>exact l _ k _ g f
 |more k g f _ n=>exact n fun o' d e' c b=>m _ o' d (Zg9 (l _ k _ g f)) e' c b
theorem Zfc.set {ops:Array Oper} {a:Array Bool} (h:Zfc ops a) {i:Nat} (hi:i∈Region.ready .any ops a):Zfc ops (a.setIfInBounds i true):=by
 intro j o k d e g f;refine getD_set_true ?_;obtain⟨_,l,c,b⟩:=mem_ready.1 hi
 by_cases hji:j=i
 ·subst hji;rw[k]at c;obtain rfl:=ZmY c;exact b e g f
 ·rw[getD_set_ne true (Ne.symm hji)]at d;exact h j o k d e g f
section
variable {C:Ctx} {r:Fm} {ops:Array Oper} {tbl:List Fp} {K:St->Prop}
def D.isDead:D->Bool
 | .dead=>true
 |_=>false
def live (ops:Array Oper) (o:Oper) (a:St) (f:Fp):Bool:=(o.looksAt ops).all (fun t=> !(a.slots t).isDead)&&(f.R.all fun id=>(a.objs id).isSome)&&(f.W.all fun id=>(a.objs id).isSome)
def OEf (C:Ctx) (ops:Array Oper) (i:Nat) (o:Oper) (a:St) (e:Eff) (f:Fp):Prop:=OE C ops i o a e f.R/\f.W=e.wr.map (·.1)/\f.F=e.frz/\live ops o a f=true
def Zmx (C:Ctx) (ops:Array Oper) (a:List Fp) (K:St->Prop):Nat->Array Bool->St->Prop
 |0,listed,st=>Region.ready .any ops listed=[]/\K st
 |n+1,listed,st=>(Region.ready .any ops listed=[]->K st)/\
   ∀i∈Region.ready .any ops listed,∃o e f,ops[i]? =some o/\a[i]? =some f/\OEf C ops i o st e f/\Zmx C ops a K n (listed.setIfInBounds i true) (st.app i o.dst e)
theorem ZiC {ep i j:Nat} {c d:Oper} {a b:Fp} (h:Zhb ops ep i j c d a b=true):c.apart ops d=true/\(∀id∈a.R,ZL ep j b.W id=false)/\(∀id∈a.W,ZL ep j b.W id=false)/\
  (∀id∈b.R,ZL ep i a.W id=false)/\(∀id∈b.W,ZL ep i a.W id=false)/\(∀id∈a.F,id∉b.W)/\(∀id∈b.F,id∉a.W):=by
 simp only[Zhb,ZmC,Zm5,Bool.not_eq_true',decide_eq_false_iff_not]at h;obtain⟨⟨⟨⟨⟨⟨l,k⟩,m⟩,n⟩,g⟩,e⟩,f⟩:=h;exact⟨l,k,m,n,g,e,f⟩
theorem ZeR {o:Oper} {c b:St} {f:Fp} (h:live ops o c f=true) (e:∀t∈o.looksAt ops,b.slots t=c.slots t) (i:∀id∈f.R,b.objs id=c.objs id) (g:∀id∈f.W,b.objs id=c.objs id):live ops o b f=true:=by
 simp only[live,ZmC,Zm5]at h|-
 exact⟨⟨fun t d=>by rw[e t d];exact h.1.1 t d,fun id a=>by rw[i id a];exact h.1.2 id a⟩,fun id a=>by rw[g id a];exact h.2 id a⟩
theorem OEf.swap {i j:Nat} {k f:Oper} {x o:Fp} {d:St} {l e:Eff} (v:i≠j) (hi:OEf C ops i k d l x) (K:OEf C ops j f (d.app i k.dst l) e o) (q:Zhb ops d.ep i j k f x o=true):
  OEf C ops j f d e o/\OEf C ops i k (d.app j f.dst e) l x/\(d.app i k.dst l).app j f.dst e=(d.app j f.dst e).app i k.dst l:=by
 obtain⟨H,F,z,A,E,I,G⟩:=ZiC q;obtain⟨D,J,B⟩:=Oper.apart_spec H;obtain⟨u,c,m,s⟩:=hi;obtain⟨w,b,n,p⟩:=K;have r:OE C ops j f d e o.R:=by
  refine w.congr (fun t h=> ?_) (fun id a=> ?_) (fun id a=> ?_) (Zcv _ _ _ _).symm
  ·rw[ZaK,if_neg fun g=>D t g h]
  ·exact(ZcW (by rw[<-c];exact A id a)).symm
  ·rw[Zeg];have:id∉l.frz:=fun y=>I id (by rw[m];exact y) (by rw[b];exact a)
   simp[this]
 refine⟨⟨r,b,n, ?_⟩,⟨?_,c,m, ?_⟩, ?_⟩
 ·refine ZeR p (fun t h=> ?_) (fun id a=> ?_) (fun id a=> ?_)
  ·rw[ZaK,if_neg fun g=>D t g h]
  ·exact(ZcW (by rw[<-c];exact A id a)).symm
  ·exact(ZcW (by rw[<-c];exact E id a)).symm
 ·refine u.congr (fun t h=> ?_) (fun id a=> ?_) (fun id a=> ?_) (Zcv _ _ _ _)
  ·rw[ZaK,if_neg fun g=>B t g h]
  ·exact ZcW (by rw[<-b];exact F id a)
  ·rw[Zeg];have:id∉e.frz:=fun y=>G id (by rw[n];exact y) (by rw[c];exact a)
   simp[this]
 ·refine ZeR s (fun t h=> ?_) (fun id a=> ?_) (fun id a=> ?_)
  ·rw[ZaK,if_neg fun g=>B t g h]
  ·exact ZcW (by rw[<-b];exact F id a)
  ·exact ZcW (by rw[<-b];exact z id a)
 ·exact Zk1 v J (fun id a=>by rw[<-b];exact z id (by rw[c];exact a)) (fun id a=>by rw[<-c];exact E id (by rw[b];exact a))
theorem ZgM {a:Array Bool} {i:Nat} (d:a.getD i true=false) (b:a.getD i false=true):False:=by
 rcases Nat.lt_or_ge i a.size with c |c
 ·simp[c]at d b;rw[d]at b;cases b
 ·simp[Array.getElem?_eq_none c]at b
theorem Zi2 {i:Nat} {q:Oper} {e:Eff} {f:Fp} (hi:ops[i]? =some q) (I:tbl[i]? =some f):∀(c:Nat) (a:Array Bool) (o:St),Zfc ops a->
   (∀j p r,ops[j]? =some p->tbl[j]? =some r->j≠i->a.getD j true=false->¬Zez ops j i->Zhb ops o.ep i j q p f r=true)->
   i∈Region.ready .any ops a->OEf C ops i q o e f->
   Zmx C ops tbl K c (a.setIfInBounds i true) (o.app i q.dst e)->Zmx C ops tbl K (c+1) a o:=by
 intro c
 induction c with
 |zero=>
  intro a o _ _ n y H;refine⟨fun h=>(by rw[h]at n;cases n),fun j s=> ?_⟩
  by_cases b:j=i
  ·subst b;exact⟨q,e,f,hi,I,y,H⟩
  ·have:=ready_mono s b;rw[H.1]at this;cases this
 |succ c N=>
  intro a o x d n y H;refine⟨fun h=>(by rw[h]at n;cases n),fun j s=> ?_⟩
  by_cases b:j=i
  ·subst b;exact⟨q,e,f,hi,I,y,H⟩
  ·obtain⟨p,G,r,g,t,z,H1⟩:=H.2 j (ready_mono s b);obtain⟨l,J,m,v⟩:=mem_ready.1 s;rw[g]at m;obtain rfl:=ZmY m;have B:=(mem_ready.1 n).1;have D:¬Zez ops j i:=fun hw=>ZgM B (hw.listed x fun o' u=>by rw[g]at u;obtain rfl:=ZmY u;exact v)
   obtain⟨q1,M,P⟩:=OEf.swap (Ne.symm b) y z (d j p r g t b l D);refine⟨p,G,r,g,t,q1,N (a.setIfInBounds j true) (o.app j p.dst G) (x.set s) (fun k O L Q F A w E=> ?_) (ready_mono n (Ne.symm b)) M ?_⟩
   ·rw[Zcv];refine d k O L Q F A ?_ E
    by_cases hjk:j=k
    ·subst hjk;exact l
    ·rw[getD_set_ne true hjk]at w;exact w
   ·rw[Array.setIfInBounds_comm _ _ b,<-P];exact H1
def masks (ops:List Oper):List Nat:=
 ops.foldl (init:=[]) fun a o=>a++[o.after.toList.foldl (fun s e=>if Region.binds .any e then s|||2 ^ e.on|||a.getD e.on 0 else s) 0]
def ZjG (a:List Nat) (es:List Edge) (s:Nat):Nat:=es.foldl (fun s e=>if Region.binds .any e then s|||2 ^ e.on|||a.getD e.on 0 else s) s
theorem ZdJ {a:List Nat} {i:Nat}:∀(es:List Edge) (s:Nat),(ZjG a es s).testBit i=true->s.testBit i=true\/∃e∈es,Region.binds .any e=true/\(e.on=i\/(a.getD e.on 0).testBit i=true)
 | [],s,h=> .inl h
 |e::es,s,h=>by
  have h:=ZdJ es _ h;rcases h with h |⟨e',b,h⟩
  ·dsimp only at h;split at h
   ·rename_i c;simp only[Nat.testBit_or,Bool.or_eq_true]at h;rcases h with (h |h) |h
    ·exact .inl h
    ·rw[Nat.testBit_two_pow]at h;exact .inr ⟨e,by simp,c,.inl (by simpa using h)⟩
    ·exact .inr ⟨e,by simp,c,.inr h⟩
   ·exact .inl h
  ·exact .inr ⟨e',by simp[b],h⟩
theorem ZeQ (ops:Array Oper):∀(l pre:List Oper) (a:List Nat),pre++l=ops.toList->a.length=pre.length->(∀j i,(a.getD j 0).testBit i=true->Zez ops j i)->
  ∀j i,((l.foldl (init:=a) fun a o=>a++[o.after.toList.foldl (fun s e=>if Region.binds .any e then s|||2 ^ e.on|||a.getD e.on 0 else s) 0]).getD j 0).testBit i=true->Zez ops j i
 | [],pre,a,_,_,h=>h
 |o::l,pre,a,hp,hl,h=>by
  simp only[List.foldl_cons];refine ZeQ ops l (pre++[o]) _ (by simpa using hp) (by simp[hl]) fun j i f=> ?_
  have k:ops[pre.length]? =some o:=by rw[<-Zm2,<-hp];simp
  by_cases hj:j < a.length
  ·refine h j i ?_;simpa[Znt,List.getElem?_append_left hj]using f
  ·by_cases hj2:j=a.length
   ·subst hj2;have g:(ZjG a o.after.toList 0).testBit i=true:=by simpa[Znt,ZjG]using f
    rcases ZdJ _ _ g with c |⟨e,m,d,c⟩
    ·simp at c
    ·rw[hl];have b:e∈o.after:=by simpa using m
     rcases c with rfl |c
     ·exact .one k b d
     ·exact .more k b d (h _ _ c)
   ·have:((a++[o.after.toList.foldl (fun s e=>if Region.binds .any e then s|||2 ^ e.on|||a.getD e.on 0 else s) 0]).getD j 0)=0:=by rw[Znt,List.getElem?_eq_none (by simp;omega)];rfl
    rw[this]at f;simp at f
theorem Zg6 {ops:Array Oper} {j i:Nat} (h:((masks ops.toList).getD j 0).testBit i=true):Zez ops j i:=
 ZeQ ops ops.toList [] [] rfl rfl (fun j i h=>by simp at h) j i h
def ZeH (ops:Array Oper) (ep i:Nat) (b:Oper) (a:Fp):Nat->List Oper->List Fp->List Nat->Bool
 |_,[],_,_=>true
 |j,oj::os,fj::fs,m::ms=>(m.testBit i||Zhb ops ep i j b oj a fj)&&ZeH ops ep i b a (j+1) os fs ms
 |_,_,_,_=>false
def ZcF (ops:Array Oper) (ep:Nat):Nat->List Oper->List Fp->List Nat->Bool
 |_,[],_,_=>true
 |i,oi::os,fi::fs,m::ms=>ZeH ops ep i oi fi (i+1) os fs ms&&ZcF ops ep (i+1) os fs ms
 |_,_,_,_=>false
def Zh5:Nat->List Oper->Bool
 |_,[]=>true
 |i,o::os=>(o.after.toList.all fun e=> !Region.binds .any e||decide (e.on < i))&&Zh5 (i+1) os
def Zgt (ops:Array Oper) (ep:Nat) (a:List Fp):Bool:=Zh5 0 ops.toList&&ZcF ops ep 0 ops.toList a (masks ops.toList)
theorem Zd9:∀(l:List Oper) (i:Nat),Zh5 i l=true->∀k o,l[k]? =some o->∀e∈o.after,Region.binds .any e=true->e.on < i+k
 | [],_,_,k,o,h=>by simp at h
 |o::l,i,h,k,o',hk=>by
  simp only[Zh5,ZmC,Zm5,Bool.or_eq_true,Bool.not_eq_true',decide_eq_true_eq]at h;cases k with
  |zero=>
   simp at hk;subst hk;intro e b a;have:=h.1 e (by simpa using b);rw[a]at this;simpa using this
  |succ k=>
   simp at hk;intro e b a;have:=Zd9 l (i+1) h.2 k o' hk e b a;omega
theorem Zdy {ep i:Nat} {d:Oper} {c:Fp}:∀(os:List Oper) (fs:List Fp) (ms:List Nat) (j:Nat),ZeH ops ep i d c j os fs ms=true->∀k a b,os[k]? =some a->fs[k]? =some b->
  (ms.getD k 0).testBit i=true\/Zhb ops ep i (j+k) d a c b=true
 | [],_,_,_,_,k,a,b,h,_=>by simp at h
 |o::os,[],_,_,h,_,_,_,_,_=>by simp[ZeH]at h
 |o::os,f::fs,[],_,h,_,_,_,_,_=>by simp[ZeH]at h
 |o::os,f::fs,m::ms,j,h,k,a,b,ho,hf=>by
  simp only[ZeH,ZmC,Bool.or_eq_true]at h;cases k with
  |zero=>simp at ho hf;subst ho hf;simpa using h.1
  |succ k=>
   simp at ho hf;have:=Zdy os fs ms (j+1) h.2 k a b ho hf;simpa[Nat.add_assoc,Nat.add_comm 1 k]using this
theorem Zc2 {ep:Nat}:∀(os:List Oper) (fs:List Fp) (ms:List Nat) (i:Nat),ZcF ops ep i os fs ms=true->∀k l d a c b,k < l->os[k]? =some d->os[l]? =some a->fs[k]? =some c->fs[l]? =some b->
  (ms.getD l 0).testBit (i+k)=true\/Zhb ops ep (i+k) (i+l) d a c b=true
 | [],_,_,_,_,k,l,d,a,c,b,_,h,_,_,_=>by simp at h
 |o::os,[],_,_,h,_,_,_,_,_,_,_,_,_,_,_=>by simp[ZcF]at h
 |o::os,f::fs,[],_,h,_,_,_,_,_,_,_,_,_,_,_=>by simp[ZcF]at h
 |o::os,f::fs,m::ms,i,h,k,l,d,a,c,b,hkl,h1,h2,h3,h4=>by
  simp only[ZcF,ZmC]at h;cases l with
  |zero=>omega
  |succ l=>
   simp at h2 h4;cases k with
   |zero=>
    simp at h1 h3;subst h1 h3;have:=Zdy os fs ms (i+1) h.1 l a b h2 h4;simpa[Nat.add_assoc,Nat.add_comm 1 l]using this
   |succ k=>
    simp at h1 h3;have:=Zc2 os fs ms (i+1) h.2 k l d a c b (by omega) h1 h2 h3 h4;simpa[Nat.add_assoc,Nat.add_comm 1 l,Nat.add_comm 1 k]using this
def Zk5 (C:Ctx) (ops:Array Oper):List Fp->Nat->St->St->Prop
 | [],_,st,st'=>st=st'
 |f::r,k,st,st'=>∃o e,ops[k]? =some o/\OEf C ops k o st e f/\Zk5 C ops r (k+1) (st.app k o.dst e) st'
def Zmw (n k:Nat) (a:Array Bool):Prop:=a.size=n/\∀j,j < n->a[j]? =some (decide (j < k))
theorem Zmw.set {n k:Nat} {a:Array Bool} (h:Zmw n k a):Zmw n (k+1) (a.setIfInBounds k true):=by
 refine⟨by simp[h.1],fun j b=> ?_⟩;rw[Array.getElem?_setIfInBounds]
 by_cases hjk:k=j
 ·subst hjk;simp[h.1,b]
 ·rw[if_neg hjk,h.2 j b];simp only[ZmZ,decide_eq_decide];omega
theorem Zk4 {ep:Nat} {z:St} (q:Zgt ops ep tbl=true) (O:tbl.length=ops.size) (N:K z):∀(l:List Fp) (k:Nat) (a:Array Bool) (v:St),(∀j,l[j]? =tbl[k+j]?)->k+l.length=ops.size->
  Zmw ops.size k a->v.ep=ep->Zk5 C ops l k v z->Zmx C ops tbl K l.length a v:=by
 simp only[Zgt,ZmC]at q;have s:=Zd9 _ _ q.1;have r:=Zc2 _ _ _ _ q.2;have c:∀k o,ops[k]? =some o->∀e∈o.after,Region.binds .any e=true->e.on < k:=fun k o w e B y=>by have:=s k o (by rw[Zm2];exact w) e B y;omega
 have b:∀{k:Nat} {a:Array Bool},Zmw ops.size k a->∀j,j < ops.size->∀d,a.getD j d=decide (j < k):=fun i j p d=>by rw[Array.getD_eq_getD_getElem?,i.2 j p];rfl
 have n:∀{k:Nat} {a:Array Bool},k<=ops.size->Zmw ops.size k a->Zfc ops a:=by intro k a w i j o p u e B y;have m:=(Zmy.1 p).1;rw[b i j m]at u;have:=c j o p e B y;have u:=of_decide_eq_true u;rw[b i _ (by omega)];simp;omega
 intro l
 induction l with
 |nil=>
  intro k a v _ w i _ g;simp only[Zk5]at g;subst g;simp only[List.length_nil,Nat.add_zero]at w;refine⟨?_,N⟩;refine List.eq_nil_iff_forall_not_mem.2 fun j p=> ?_
  obtain⟨I,o,t,_⟩:=mem_ready.1 p;have m:=(Zmy.1 t).1;rw[b i j m]at I;simp at I;omega
 |cons f l P=>
  intro k a v u w i x g;obtain⟨o,e,t,H,g⟩:=g;have F:=(Zmy.1 t).1;have J:tbl[k]? =some f:=by simpa using (u 0).symm
  simp only[List.length_cons]at w|-
  refine Zi2 t J l.length a v (n (by omega) i) (fun j L M p G Q A E=> ?_) (mem_ready.2 ⟨?_,o,t,fun e' D y=> ?_⟩) H
   (P (k+1) _ _ (fun j=>by have:=u (j+1);simpa[Nat.add_assoc,Nat.add_comm 1 j]using this) (by omega) i.set (by rw[Zcv];exact x) g)
  ·have m:=(Zmy.1 p).1;rw[b i j m]at A;simp at A;have:=r k j o L f M (by omega) (by rw[Zm2];exact t) (by rw[Zm2];exact p) J G;simp only[Znp]at this;rcases this with h |h
   ·exact absurd (Zg6 h) E
   ·rw[x];exact h
  ·rw[b i k F];simp
  ·have:=c k o t e' D y;rw[b i _ (by omega)];simpa using this
theorem Zmx.run (U:Zl C.E) {b:Frame} (y:List Go.Item) (cs:List Frame) (Q:b.roundOf=r.r):∀(d t:Nat) (c:Array Bool) (n:St),Zmx C ops tbl K d c n->∀(X:Nat->Prop),(∀j,j < ops.size->X j->c.getD j true=true)->
  ∀ρ S a w,Rep C X ρ S n a.tmps w->a.defers=r.ds->∃X' ρ' S' g p w',Rep C X' ρ' S' g p.tmps w'/\p.defers=r.ds/\K g/\
   StepsIn (Machine.fenced C.E.prog (Zck r.r)) C.E.prog (lone (b.atR a (.inRegion ops (Region.linearise.go .any ops d t c [])::y)) cs w) (lone (b.atR p (.inRegion ops []::y)) cs w'):=by
 intro d
 induction d with
 |zero=>
  intro t c n h X A ρ S a w m v;exact⟨X,ρ,S,n,a,w,m,v,h.2,by simp only[Region.linearise.go,List.reverse_nil];exact .refl _⟩
 |succ d P=>
  intro t c n h X A ρ S a w m v;obtain⟨M,J⟩:=h;simp only[Region.linearise.go]
  change ∃X' ρ' S' g p w',_/\_/\_/\StepsIn _ _ (lone (b.atR a (.inRegion ops (match (Region.ready .any ops c)[t % (Region.ready .any ops c).length]? with
   |some i=>Region.linearise.go .any ops d (t / (Region.ready .any ops c).length) (c.setIfInBounds i true) [i]
   |none=>[].reverse)::y)) cs w) _
  cases hi:(Region.ready .any ops c)[t % (Region.ready .any ops c).length]? with
  |none=>
   have q:Region.ready .any ops c=[]:=by
    cases m:Region.ready .any ops c with
    |nil=>rfl
    |cons x xs=>
     rw[m]at hi;have F:t % (x::xs).length < (x::xs).length:=Nat.mod_lt _ (by simp);simp at hi;simp at F;omega
   exact⟨X,ρ,S,n,a,w,m,v,M q,by simp only[List.reverse_nil];exact .refl _⟩
  |some i=>
   have u:=List.mem_of_getElem? hi;obtain⟨o,e,f,I,_,H,l⟩:=J i u;have s:=(Zmy.1 I).1;have k:=(mem_ready.1 u).1;obtain⟨ρ1,S1,O,T,D,G,E⟩:=(H.1.exec (r:=r) U I) X (fun R=>by rw[A i s R]at k;cases k) ρ S a w m v b (Region.linearise.go .any ops d (t / (Region.ready .any ops c).length) (c.setIfInBounds i true) []) y cs Q;obtain⟨X',ρ',S',g,p,w',q1,N,V,L⟩:=P (t / (Region.ready .any ops c).length) _ _ l (fun j=>X j\/j=i) (fun j B z=>by
    rcases z with z |rfl
    ·by_cases hji:i=j
     ·subst hji;rw[A i s z]at k;cases k
     ·rw[getD_set_ne true hji];exact A j B z
    ·rw[Array.getD_eq_getD_getElem?,Array.getElem?_setIfInBounds];simp only[if_true];split<;>rfl) ρ1 S1 O T D G
   refine⟨X',ρ',S',g,p,w',q1,N,V, ?_⟩;dsimp only;rw[linearise_go_acc,List.reverse_singleton,List.singleton_append];exact E.trans L
theorem Rep.drawn {X:Nat->Prop} {ρ:Id->Option Lay} {S:Nat->Prop} {b:St} {tm:Array Value} {w:World} (h:Rep C X ρ S b tm w) (n:Nat):Rep C X ρ S b tm {w with drawn:=n}:=by
 have a:Zcy S w {w with drawn:=n}:=fun _ _ _=>rfl
 exact {h with
  slots:=fun k=>(h.slots k).mono a (fun _ h=>h) (fun _ _ h=>h)
  objs:=fun id o e f=>by obtain⟨L,hL,c⟩:=h.objs id o e f;exact⟨L,hL,c.mono a (fun _ h=>h) (fun _ _ h=>h) (fun _ _=>rfl)⟩
  glob:=fun g cs d=>(h.glob g cs d).mono a (fun _ h=>h)}
variable {G:Zkg}
def DW (C:Ctx) (r:Fm) (G:Zkg) (k:List Item) (ops:Array Oper) (a:List Fp) (c:St):Prop:=
 ∃rest b,(a++rest).length=ops.size/\Zgt ops c.ep (a++rest)=true/\Zk5 C ops rest a.length c b/\AWP C r G k b.next
theorem dw_op {k:List Item} {a:List Fp} {b:St} {o:Oper} {e:Eff} {f:Fp} (i:ops[a.length]? =some o) (h:OEf C ops a.length o b e f) (g:DW C r G k ops (a++[f]) (b.app a.length o.dst e)):DW C r G k ops a b:=by obtain⟨rest,c,q1,j,d,l⟩:=g;refine⟨f::rest,c,by simpa using q1,by simpa using j,⟨o,e,i,h,by simpa using d⟩,l⟩
theorem dw_end {k:List Item} {a:List Fp} {b:St} (d:a.length=ops.size) (c:Zgt ops b.ep a=true) (e:AWP C r G k b.next):DW C r G k ops a b:=
 ⟨[],b,by simpa using d,by simpa using c,rfl,e⟩
theorem ZkZ {k:List Item} {st:St} {id:Nat} (hE:Zl C.E) (hm:C.E.prog.follows .mixedOrders=true) (h:DW C r G k ops [] st):AWP C r G (.c (.region id ops true)::k) st:=by intro ρ S a w hr hd b k0 cs hb;obtain⟨rest,st',q1,q2,q3,q4⟩:=h;simp only[List.nil_append]at q1 q2;have hany:=Zk4 (K:=fun s=>s=st') q2 q1 rfl rest 0 (Array.replicate ops.size false) st (by simp) (by simpa using q1) ⟨by simp,fun j hj=>by simp[hj]⟩ rfl q3;rw[q1]at hany;have hr0:Rep C (fun _=>False) ρ S st a.tmps w:=hr;obtain⟨X',ρ',S',st2,a',w',p1,p2,p3,p4⟩:=hany.run hE (b:=b) (k.map conc++k0) cs hb ops.size (w.tape w.drawn (.order b.fn id)) _ _ (fun _=>False) (fun _ _ h=>h.elim) ρ S a {w with drawn:=w.drawn+1} (hr0.drawn _) hd;subst p3;obtain⟨e,a2,w2,hg,harr⟩:=q4 ρ' S' a' w' (p1.nextEp.weakX (fun _ h=>h.elim)) p2 b k0 cs hb;refine⟨e,a2,w2,hg,.of_steps ?_ harr⟩;refine .head (Zx _ _ _) (stepR_region_draw) (StepsIn.trans (m₁:=lone (b.atR a' (.inRegion ops []::(k.map conc++k0))) cs w') ?_ (.one (Zx _ _ _) stepR_region_end));simp only[Region.schedule,hm,Bool.true_or,if_true];exact p4
end
end Eng
namespace Eng
open Go
structure Under (st2 st:St):Prop where
 ep:st2.ep=st.ep
 slots:∀k,st2.slots k= .dead\/st2.slots k=st.slots k
 objs:∀id,st2.objs id=none\/st2.objs id=st.objs id
 fz:∀id,st2.fz id=st.fz id
section
variable {C:Ctx} {r:Fm} {G:Zkg} {ops:Array Oper}
def objL (a:St):List Id->Option (List Obj)
 | []=>some []
 |id::r=>match a.objs id,objL a r with
  |some o,some os=>some (o::os)
  |_,_=>none
end
end Eng
namespace Eng
open Go
def Zi9 (w w':World):Prop:=ZS w w'/\w.heap.size<=w'.heap.size/\∀b,b < w.heap.size->w'.heap[b]? =w.heap[b]?
theorem Zi9.keptBut {w w':World} (h:Zi9 w w') (a:MemPlace->Prop):w.keptBut w' a:=by
 refine⟨h.1.1,h.1.2,fun i hi=> ?_⟩;rw[h.2.2 i hi];cases w.heap[i]? with
 |none=>rfl
 |some o=>cases o<;>simp
theorem Ze5:∀(n:Nat) (xs:List P),Zdf n (xs.map .p)=[]
 |_,[]=>rfl
 |n,x::xs=>by simp only[ZmL,Zdf,Arg.o];exact Ze5 (n+1) xs
theorem ZjM {E:Env} {f:Nat} {xs:List P} {a:Array Value} {w:World} {y:P} (s:Fun E f (xs.map .p) ⟨[.p y],[]⟩) (m:(E.prog.funcs[f]?.map fun fn=>fn.body.isNone)=some false) (G:a.size=xs.length)
  (l:∀(k:Nat) v x,a[k]? =some v->xs[k]? =some x->RelP w (fun b=>b < w.heap.size) v x) (i:∀g cs,(g,cs)∈E.globs->Zel w (fun b=>b < w.heap.size) g cs):
  Calls E.prog f a w fun e w'=>(∃v S,e= .returned v/\RelP w' S v y)/\Zi9 w w':=by
 obtain s |⟨⟨fn,n,r⟩,_⟩:=s
 case inr=>rw[n,ZnG,r]at m;cases m
 refine Calls.mono (CallsIn.calls (s.2 w (fun _=>False) (fun b=>b < w.heap.size) (fun _=>none) (fun _=>none) a (by simpa using G) ?_) (fun _=>by intro d A;simp[Zck]at A)) ?_
 ·have p:∀id,(Zey (xs.map .p)).objs id=none:=fun id=>by show Ze (Zdf 0 (xs.map .p)) id=none;rw[Ze5];rfl
  exact {
   nt:=rfl
   grow:=ZmT _
   frame:=fun _ _ _=>rfl
   s0:=fun _ h=>h
   sIn:=fun _ h=>h
   slots:=fun k=>by
    show RelD w _ _ (a.getD k undef) (Zam D.dead (ZcU 0 (xs.map .p)) k);rcases ZaI D.dead (ZcU 0 (xs.map .p)) k with u |u
    ·rw[u];exact .dead _
    ·obtain⟨j,x,q1,q2,z⟩:=Zef 0 _ _ _ u;rw[Znp]at q2 z;subst q2;rw[ZmJ,Option.map_eq_some_iff]at q1;obtain⟨F,q1,rfl⟩:=q1;rw[z];have C:=(ZmI.1 q1).1;have q:a[k]? =some a[k]:=by simp
     rw[show a.getD k undef=a[k] by simp[show k < a.size by omega]];exact .p _ _ (l k _ F q q1)
   objs:=fun id o h=>by rw[p id]at h;cases h
   own:=fun id o L b h=>by rw[p id]at h;cases h
   inj:=fun id o L B o' L' b h=>by rw[p id]at h;cases h
   known:=fun id h=>absurd (p id) h
   young:=fun id h=>absurd rfl h
   fzk:=fun id h=>by cases h
   glob:=i
   sOut:=fun b h=> .inl h
   ep1:=ZmT _
   quiet:= .refl _
   lay:=fun k L h=>by cases h}
 ·rintro e w' ⟨vs,ρ',S',rfl,t,c⟩;refine⟨⟨ZgO vs,S',rfl, ?_⟩,c.quiet,c.grow,fun b m=>c.frame b m (fun h=>h)⟩;have n:vs.size=1:=by simpa using t
  have:=c.slots 0;have r:vs.getD 0 undef=vs[0]:=by simp[n]
  rw[r]at this;unfold ZgO;rw[dif_pos n];exact this.of_p
theorem Zkk {E:Env} {f:Nat} {xs:List P} {a:Array Value} {w:World} {y:Bool} (i:Fun E f (xs.map .p) ⟨[.p (.bool y)],[]⟩) (h:(E.prog.funcs[f]?.map fun fn=>fn.body.isNone)=some false) (j:a.size=xs.length)
  (d:∀(k:Nat) v x,a[k]? =some v->xs[k]? =some x->RelP w (fun b=>b < w.heap.size) v x) (c:∀g cs,(g,cs)∈E.globs->Zel w (fun b=>b < w.heap.size) g cs):
  Calls E.prog f a w fun e w'=>e= .returned (.bool y)/\Zi9 w w':=
 Calls.mono (ZjM i h j d c) fun e w' ⟨⟨v,S,he,hr⟩,hk⟩=>⟨by cases hr;exact he,hk⟩
open Go.ChangeShapes Go.WideShapes in
theorem Zlb {H:Type} {P:Program} {enc:TypeId×Value->H} {f:Func} {s:ChangeSpec} {apart fresh handsOn again:Bool} {W W':World} {args:Array Value} {v:Value} {ds gs:List (DataW H)} {before pa pv:List MemPlace}
  (hW:DataW.Whole enc P f.params.toList s.vars apart W args.toList ds gs before)
  (hres:∀(b:Nat) (sp:Nat->Bool) (hd:Bool),DataW.TrodAll enc P W' b sp hd f.resultTypes.toList (v.resultList f.resultTypes.size) (s.fn H (ds++gs)).results [])
  (hargs:∀sp:Nat->Bool,(∀p∈before,sp p.block=true)->DataW.TrodAll enc P W' 0 sp true f.params.toList args.toList (s.fn H (ds++gs)).args pa)
  (hvars:∀sp:Nat->Bool,(∀p∈before,sp p.block=true)->DataW.TrodVars enc P W' sp s.vars (s.fn H (ds++gs)).vars pv)
  (hps:before=pa++pv) (hk:Zi9 W W')
  (hok:∀(j:Nat) (t:TypeId) (r:Value),f.resultTypes[j]? =some t->(v.resultList f.resultTypes.size)[j]? =some r->Value.okWide P W' .any 0 t r):
  s.post enc P f apart fresh handsOn again W args v W':=by
 have hold:∀p∈before,(fun b=>decide (b < W.heap.size)) p.block=true:=fun p hp=>by simpa using hW.lt p hp
 have hlt:=hW.lt
 refine⟨ds,gs,before,[],pa,pv,hW,hres _ _ _,hargs _ hold,hvars _ hold,World.keptBut_mono (fun p hp=>⟨hp, ?_⟩) (hk.keptBut (· ∈before)),fun _=> ?_⟩
 ·rw[hps,List.mem_append]at hp
  exact Or.inr hp
 ·obtain⟨_,_,_,_,_,hz,hn⟩:=hW
  refine⟨hok,_,_,([]++pa)++pv,⟨[]++pa,pv,trodAll_append (hargs _ (fun _ _=>rfl)) (hres _ _ _),hvars _ (fun _ _=>rfl),rfl, ?_, ?_⟩, ?_⟩
  ·intro b off hp
   have hp':MemPlace.cell b off∈before:=by rw[hps];simpa using hp
   have hb:b < W.heap.size:=hlt _ hp'
   rw[Za6 (hk.2.2 b hb)]
   exact hz b off hp'
  ·intro ha
   have:=hn ha
   rw[hps]at this
   simpa using this
  ·intro p hp _
   rw[hps]
   simpa using hp
end Eng
namespace Eng
open Go
def chk {a:Type} (b:Bool) (k:Option a):Option a:=match b with
 |true=>k
 |false=>none
theorem Zo {a:Type} {b:Bool} {k:Option a} {r:a} (h:chk b k=some r):b=true/\k=some r:=by cases b<;>simp_all [chk]
@[simp] theorem chk_true {a:Type} (k:Option a):chk true k=k:=rfl
theorem bind_some {b β:Type} {x:Option b} {f:b->Option β} {r:β} (h:x.bind f=some r):∃a,x=some a/\f a=some r:=by cases x<;>simp_all
def inK (k:IntKind) (n:Int):Bool:=decide (k.min<=n/\n<=k.max)
def idx {a:Type} (xs:List a) (n:Int):Option a:=if 0<=n then xs[n.toNat]? else none
theorem ZhT {a:Type} {xs:List a} {n:Int} {x:a} (h:idx xs n=some x):0<=n/\n < xs.length/\xs[n.toNat]? =some x:=by unfold idx at h;split at h;rotate_left;cases h;rename_i b;have:=(ZmI.1 h).1;exact⟨b,by omega,h⟩
theorem ZhA {a:Type} (xs:List a) (f:a->P):(xs.map f).take xs.length=xs.map f:=by rw[<-Znx (f:=f),List.take_length]
theorem dt_map {a:Type} (xs:List a) (f:a->P):((xs.map f).drop 0).take xs.length=xs.map f:=by rw[List.drop_zero,ZhA]
section
variable {C:Ctx} {r:Fm} {G:Zkg} {ops:Array Oper}
end
inductive Out (β ρ:Type) where
 |brk (b:β)
 |ret (r:ρ)
def Zll (f:Func):Code:=match f.body with |some c=>c |none=> .skip
def sub:List Nat->Code->Code
 | [],c=>c
 |0::p,.seq a _=>sub p a
 |1::p,.seq _ b=>sub p b
 |2::p,.cond _ a _=>sub p a
 |3::p,.cond _ _ b=>sub p b
 |4::p,.block _ b=>sub p b
 |5::p,.loop b=>sub p b
 |_::_,_=> .skip
def big:Nat:=36893488147419103232
theorem big_eq:big=36893488147419103232:=rfl
abbrev Str:=List UInt8
def encL {a:Type} (sz:Nat) (f:a->P) (xs:List a):P:= .sl sz (xs.map f)
end Eng
namespace Eng
open Go
inductive Ty where
 |bool |int (k:IntKind) |str |sl (t:Ty) |st (n:Nat) |map (k v:Ty) |fnc
 deriving DecidableEq,Inhabited
def Ty.td:Ty->TD
 | .bool=> .bool
 | .int k=> .int k
 | .str=> .str
 |_=> .other
@[reducible] def El (car:Nat->Type):Ty->Type
 | .bool=>Bool
 | .int _=>Int
 | .str=>List UInt8
 | .sl t=>List (El car t)
 | .st n=>car n
 | .map k v=>List (El car k×El car v)
 | .fnc=>Option Nat
structure Lf (car:Nat->Type) where
 t:Ty
 x:El car t
structure Zc where
 car:Nat->Type
 size:Nat->Nat
 cells:(n:Nat)->car n->List (Lf car)
 of:(n:Nat)->List (Lf car)->Option (car n)
 enc:(n:Nat)->car n->P
def Zc.tsize (U:Zc):Ty->Nat
 | .st n=>U.size n
 |_=>1
def ZjU:Option Nat->P
 |some f=> .fn f [] []
 |none=> .nilfn
def Zc.encE (U:Zc):(t:Ty)->El U.car t->P
 | .bool,b=> .bool b
 | .int k,n=> .int k n
 | .str,s=> .str s
 | .sl t,xs=> .sl (U.tsize t) (xs.map (U.encE t))
 | .st n,x=>U.enc n x
 | .map k v,kv=> .map k.td (kv.map fun e=>(U.encE k e.1,U.encE v e.2))
 | .fnc,x=>ZjU x
def Zc.encL (U:Zc) (l:Lf U.car):P:=U.encE l.t l.x
def Zc.cellsE (U:Zc):(t:Ty)->El U.car t->List (Lf U.car)
 | .st n,x=>U.cells n x
 |t,x=>[⟨t,x⟩]
def Zc.ofE (U:Zc):(t:Ty)->List (Lf U.car)->Option (El U.car t)
 | .st n,cs=>U.of n cs
 |t,[c]=>if h:c.t=t then some (h▸c.x)else none
 |_,_=>none
structure UOk (U:Zc):Prop where
 of_cells:∀n cs x,U.of n cs=some x->U.cells n x=cs
 enc_cells:∀n x,U.enc n x= .agg ((U.cells n x).map U.encL)
 len:∀n x,(U.cells n x).length=U.size n
inductive TV (U:Zc) where
 |v (t:Ty) (x:El U.car t)
 |pp (cs:List (Lf U.car))
 |nilp |nilfn
 |dead |undef
 |nils (t:Ty)
 |clip (t:Ty) (xs:List (El U.car t))
 |agg (cs:List (TV U))
 |tup (vs:List (TV U))
 |full (id:Id) (n:Nat)
 |sl (id:Id) (off len:Nat)
 |ptr (id:Id) (i j:Nat)
 |map (id:Id)
 |it (id:Id)
 |fn (f:Nat) (first caps:List (TV U))
instance {U:Zc}:Inhabited (TV U):=⟨.dead⟩
inductive TO (U:Zc) where
 |box (cs:List (TV U))
 |arr (t:Ty) (xs:List (El U.car t)) (fix:Bool)
 |map (k v:Ty) (kv:List (El U.car k×El U.car v))
 |sit (s:List UInt8) (pos:Nat)
 |mit (k v:Ty) (rest:List (El U.car k×El U.car v)) (cur:Option (El U.car k×El U.car v))
 |gone
structure TS (U:Zc) where
 slots:Nat->TV U
 objs:Id->Option (TO U)
 fz:Id->Bool
 ep:Nat
def fnD (f:Nat) (a b:List D):D:=match Zh D.pure? a,Zh D.pure? b with
 |some x,some y=> .p (.fn f x y)
 |_,_=> .fn f a b
mutual
def TV.enc {U:Zc}:TV U->D
 | .v t x=> .p (U.encE t x)
 | .pp cs=> .p (.ptr (cs.map U.encL))
 | .nilp=> .p .nilp
 | .nilfn=> .p .nilfn
 | .dead=> .dead
 | .undef=> .undef
 | .nils t=> .nils (U.tsize t)
 | .clip t xs=> .clip (U.tsize t) (xs.map (U.encE t))
 | .agg cs=> .mkAgg (TV.encs cs)
 | .tup vs=> .tup (TV.encs vs)
 | .full id n=> .sl id 0 n
 | .sl id c len=> .sl id c len
 | .ptr id i j=> .ptr id i j
 | .map id=> .map id
 | .it id=> .it id
 | .fn f a b=>fnD f (TV.encs a) (TV.encs b)
def TV.encs {U:Zc}:List (TV U)->List D
 | []=>[]
 |d::r=>d.enc::TV.encs r
end
theorem Zac {U:Zc}:∀l:List (TV U),TV.encs l=l.map TV.enc
 | []=>rfl
 |d::r=>by rw[TV.encs,Zac r];rfl
def TO.enc {U:Zc}:TO U->Obj
 | .box cs=> .box (TV.encs cs)
 | .arr t xs fix=> .arr (U.tsize t) (xs.map (U.encE t)) fix
 | .map k v c=> .map k.td (c.map fun e=>(U.encE k e.1,U.encE v e.2))
 | .sit s a=> .sit s a
 | .mit k v rest b=> .mit (rest.map fun e=>(U.encE k e.1,U.encE v e.2)) (b.map fun e=>(U.encE k e.1,U.encE v e.2))
 | .gone=> .gone
def Zip {U:Zc}:Option (TO U)->Option Obj
 |some o=>some o.enc
 |none=>none
def TS.enc {U:Zc} (T:TS U):St:={slots:=fun k=>(T.slots k).enc,objs:=fun id=>Zip (T.objs id),fz:=T.fz,ep:=T.ep}
mutual
def TV.fulls {U:Zc}:TV U->List (Id×Nat)
 | .full id n=>[(id,n)]
 | .agg cs=>TV.fullsL cs
 | .tup cs=>TV.fullsL cs
 | .fn _ a b=>TV.fullsL a++TV.fullsL b
 |_=>[]
def TV.fullsL {U:Zc}:List (TV U)->List (Id×Nat)
 | []=>[]
 |d::r=>d.fulls++TV.fullsL r
end
theorem Zr {U:Zc} {q:Id×Nat}:∀{l:List (TV U)},q∈TV.fullsL l<->∃d∈l,q∈d.fulls
 | []=>by simp[TV.fullsL]
 |d::r=>by simp[TV.fullsL,Zr (l:=r)]
def Zix {U:Zc} (lk:Id->Option (TO U)) (q:Id×Nat):Prop:=∃o,lk q.1=some o/\∀t xs fix,o= .arr t xs fix->xs.length=q.2
def TV.inv {U:Zc} (lk:Id->Option (TO U)) (d:TV U):Prop:=∀q∈d.fulls,Zix lk q
def TO.inv {U:Zc} (lk:Id->Option (TO U)):TO U->Prop
 | .box cs=>∀d∈cs,d.inv lk
 |_=>True
structure TS.Inv {U:Zc} (T:TS U):Prop where
 slots:∀k,(T.slots k).inv T.objs
 objs:∀id o,T.objs id=some o->o.inv T.objs
theorem ZbI {U:Zc} (a:UOk U) (t:Ty) (x:El U.car t):(U.cellsE t x).length=U.tsize t:=by cases t<;>first |exact a.len _ _ |rfl
theorem Zaw {U:Zc} (a:UOk U) (t:Ty) (x:El U.car t):(U.encE t x).cells=(U.cellsE t x).map U.encL:=by
 cases t with
 |st n=>simp only[Zc.encE,Zc.cellsE,a.enc_cells n x,P.cells]
 |fnc=>cases x<;>rfl
 |_=>rfl
theorem ZaE {U:Zc} (d:UOk U) {t:Ty} {cs:List (Lf U.car)} {x:El U.car t} (h:U.ofE t cs=some x):U.cellsE t x=cs:=by
 have a:∀(t:Ty) (c:Lf U.car) (x:El U.car t),(if h:c.t=t then some (h▸c.x)else none)=some x->[(⟨t,x⟩:Lf U.car)]=[c]:=by intro t c x h;split at h;rotate_left;simp at h;rename_i b;obtain⟨e,y⟩:=c;dsimp only at b;subst b;cases h;rfl
 cases t with
 |st n=>exact d.of_cells n cs x h
 |_=>
  match cs,h with
  | [c],h=>exact a _ c x h
end Eng
namespace Eng
open Go
structure TT (U:Zc) where
 ti:TI
 n:Option Nat
 ty:Ty
 zero:List (TV U)
 zl:Option (Lf U.car)
structure ZG (U:Zc) where
 prog:Program
 tt:List (Option (TT U))
 globs:List (Nat×List (Lf U.car))
 nt:Nat
def tiOf {U:Zc}:Option (TT U)->Option TI
 |some e=>some e.ti
 |none=>none
def ZG.E {U:Zc} (X:ZG U):Env:={prog:=X.prog,tys:=X.tt.map tiOf,globs:=X.globs.map fun g=>(g.1,g.2.map U.encL),nt:=X.nt}
def ZG.at {U:Zc} (X:ZG U) (n:Nat):ZG U:={X with nt:=n}
def ZG.get {U:Zc} (X:ZG U) (t:Nat):Option (TT U):=match X.tt[t]? with |some (some e)=>some e |_=>none
def ZG.elem {U:Zc} (X:ZG U) (t:Nat):Option (TT U):=match X.get t with
 |some e=>match e.ti.d with
  | .sl u=>X.get u
  |_=>none
 |none=>none
structure TOk {U:Zc} (X:ZG U):Prop where
 zero:∀t e,X.get t=some e->TV.encs e.zero=e.ti.zero.map Z.toD
 zl:∀t e l,X.get t=some e->e.zl=some l->U.encL l=e.ti.zeroP
 agg:∀t e,X.get t=some e->e.ti.isAgg=e.n.isSome
 size:∀t e n,X.get t=some e->e.n=some n->e.ti.size=U.size n
 key:∀t e k v,X.get t=some e->e.ty= .map k v->X.E.keyTD t=k.td
 inv:∀t e,X.get t=some e->∀d∈e.zero,d.fulls=[]
section
variable {U:Zc} {X:ZG U}
theorem Zw {t:Nat} {e:TT U} (h:X.get t=some e):X.E.ty t=some e.ti:=by unfold ZG.get at h;unfold Env.ty ZG.E;simp only[ZmJ];split at h;rotate_left;simp at h;rename_i e' a;cases h;rw[a];rfl
theorem Zs {t:Nat} {e:TT U} (h:X.get t=some e):X.E.td t=some e.ti.d:=by simp only[Env.td,Zw h]
theorem ZaG {t:Nat} {e:TT U} (h:X.elem t=some e):X.E.elem t=some e.ti:=by unfold ZG.elem at h;unfold Env.elem;split at h;rotate_left;simp at h;rename_i e' g;rw[Zw g];split at h;rotate_left;simp at h;rename_i u f;rw[<-Zw h];generalize e'.ti=ti at f;obtain⟨d,a,b,c⟩:=ti;dsimp only at f;subst f;rfl
def evT (X:ZG U) (sl:Nat->TV U) (t:Nat):Operand->Option (TV U)
 | .tmp s=>some (sl s)
 | .const (.bool b)=>some (.v .bool b)
 | .const (.int k n)=>some (.v (.int k) n)
 | .const (.string s)=>some (.v .str s.data.toList)
 | .const (.slice none 0 0)=>match X.elem t with
  |some e=>if U.tsize e.ty=e.ti.size then some (.nils e.ty)else none
  |none=>none
 | .const (.pointer none)=>some .nilp
 | .const .nilFunc=>some .nilfn
 | .const (.map none)=>match X.get t with
  |some e=>match e.ty with
   | .map k v=>some (.v (.map k v) [])
   |_=>none
  |none=>none
 | .func f=>some (.fn f [] [])
 | .global g=>match X.globs.find? (·.1 == g)with
  |some x=>some (.pp x.2)
  |none=>none
 |_=>none
theorem ZhY {a:Type} (f:a->P) (g:Nat):∀l:List (Nat×List a),(l.map fun x=>(x.1,x.2.map f)).find? (·.1 == g)=(l.find? (·.1 == g)).map fun x=>(x.1,x.2.map f)
 | []=>rfl
 |x::r=>by
  simp only[ZmL,List.find?_cons];split
  ·rfl
  ·exact ZhY f g r
theorem Zl5 (g:TOk X) {sl:Nat->TV U} {t:Nat} {x:Operand} {d:TV U} (h:evT X sl t x=some d):ev X.E (fun k=>(sl k).enc) t x=d.enc:=by
 unfold evT at h;split at h
 ·cases h;rfl
 ·cases h;rfl
 ·cases h;rfl
 ·cases h;rfl
 ·split at h;rotate_left;simp at h;rename_i e a;split at h;rotate_left;simp at h;rename_i f;cases h;simp only[ev,D.ofV,Env.elemSize,ZaG a,TV.enc,f]
 ·cases h;rfl
 ·cases h;rfl
 ·split at h;rotate_left;simp at h;rename_i e a;split at h;rotate_left;simp at h;rename_i k v b;cases h;simp only[ev,D.ofV,g.key t e k v a b,TV.enc,Zc.encE,ZnB]
 ·cases h;rfl
 ·split at h;rotate_left;simp at h;rename_i q c;cases h;simp only[ev,Env.glob,ZG.E,ZhY,c,ZnG,TV.enc]
 ·simp at h
def lv (l:Lf U.car):TV U:= .v l.t l.x
def TV.leaf?:TV U->Option (Lf U.car)
 | .v t x=>some ⟨t,x⟩
 |_=>none
theorem ZjL {d:TV U} {l:Lf U.car} (h:d.leaf?=some l):d=lv l:=by cases d<;>simp[TV.leaf?]at h;subst h;rfl
def ZdG (n:Option Nat) (cs:List (TV U)):TV U:=
 match n,Zh TV.leaf? cs with
 |some n,some ls=>match U.of n ls with
  |some x=> .v (.st n) x
  |none=> .agg cs
 |_,_=> .agg cs
def TV.cells:TV U->List (TV U)
 | .agg cs=>cs
 | .v (.st n) x=>(U.cells n x).map lv
 |d=>[d]
theorem Zbs (a:List (Lf U.car)):TV.encs (a.map lv)=(a.map U.encL).map .p:=by rw[Zac,ZnA,ZnA];rfl
theorem Zat (a:List P):Zh D.pure? (a.map .p)=some a:=by
 induction a with
 |nil=>rfl
 |cons x r b=>simp only[ZmL,Zh,D.pure?,b]
theorem Zce (a:List P):D.mkAgg (a.map .p)= .p (.agg a):=by unfold D.mkAgg;rw[Zat]
theorem Zcw:∀{cs:List (TV U)} {a:List (Lf U.car)},Zh TV.leaf? cs=some a->cs=a.map lv
 | [],a,h=>by simp[Zh]at h;subst h;rfl
 |d::r,a,h=>by simp only[Zh]at h;split at h;rotate_left;simp at h;rename_i l e c b;cases h;simp only[ZmL,<-Zcw b,ZjL c]
theorem ZeL (b:UOk U) (n:Option Nat) (cs:List (TV U)):(ZdG n cs).enc=D.mkAgg (TV.encs cs):=by
 unfold ZdG;split
 ·rename_i n d a;rw[Zcw a];split
  ·rename_i x c;rw[Zbs,Zce,TV.enc,Zc.encE,b.enc_cells,b.of_cells _ _ _ c]
  ·rw[TV.enc]
 ·rw[TV.enc]
theorem Zgd (n:Option Nat) (cs:List (TV U)) {q:Id×Nat} (h:q∈(ZdG n cs).fulls):∃d∈cs,q∈d.fulls:=by
 unfold ZdG at h;have:q∈TV.fullsL cs->∃d∈cs,q∈d.fulls:=fun h=>Zr.1 h
 split at h
 ·split at h
  ·simp[TV.fulls]at h
  ·exact this h
 ·exact this h
theorem ZiO (a:List D):(D.mkAgg a).cells=a:=by
 unfold D.mkAgg;split
 ·rename_i b h;rw[D.cells,Zt h]
 ·rfl
theorem ZjP (f:Nat) (a b:List D):(fnD f a b).cells=[fnD f a b]:=by unfold fnD;split<;>rfl
theorem Zd7 (c:UOk U) (d:TV U):TV.encs d.cells=d.enc.cells:=by
 cases d with
 |agg cs=>rw[TV.cells,TV.enc,ZiO]
 |v t x=>
  cases t with
  |st n=>simp only[TV.cells,Zbs,TV.enc,Zc.encE,c.enc_cells,D.cells]
  |fnc=>cases x<;>rfl
  |_=>rfl
 |fn f a b=>simp only[TV.cells,TV.encs,TV.enc,ZjP]
 |_=>rfl
theorem Zhm {d:TV U} {q:Id×Nat}:(∃c∈d.cells,q∈c.fulls)->q∈d.fulls:=by
 rintro⟨c,a,b⟩;cases d with
 |agg cs=>exact Zr.2 ⟨c,a,b⟩
 |v t x=>
  cases t<;>simp only[TV.cells,ZmQ,Znk]at a
  case st n=>obtain⟨l,_,rfl⟩:=a;simp[lv,TV.fulls]at b
  all_goals (subst a;simpa using b)
 |_=>simp only[TV.cells,ZmQ]at a;subst a;exact b
def TV.okv:TV U->Bool
 | .dead | .undef | .tup _=>false
 |_=>true
theorem Zfp {d:TV U} (h:d.okv=true):d.enc.okv=true:=by
 cases d with
 |agg cs=>rw[TV.enc];unfold D.mkAgg;cases Zh D.pure? (TV.encs cs)<;>rfl
 |fn f a b=>rw[TV.enc];unfold fnD;cases Zh D.pure? (TV.encs a)<;>cases Zh D.pure? (TV.encs b)<;>rfl
 |dead=>simp[TV.okv]at h
 |undef=>simp[TV.okv]at h
 |tup _=>simp[TV.okv]at h
 |_=>rfl
def TS.lf1 (T:TS U):TV U->Option (Lf U.car)
 | .v t x=>some ⟨t,x⟩
 | .nils t=>some ⟨.sl t,[]⟩
 | .clip t xs=>some ⟨.sl t,xs⟩
 | .nilfn=>some ⟨.fnc,none⟩
 | .fn f [] []=>some ⟨.fnc,some f⟩
 | .full id _=>match T.objs id with
  |some (.arr t xs _)=>some ⟨.sl t,xs⟩
  |_=>none
 | .sl id a len=>match T.objs id with
  |some (.arr t xs _)=>some ⟨.sl t,(xs.drop a).take len⟩
  |_=>none
 | .map id=>match T.objs id with
  |some (.map k v kv)=>some ⟨.map k v,kv⟩
  |_=>none
 |_=>none
def TS.lf (T:TS U) (h:Option Nat):TV U->Option (Lf U.car)
 | .agg cs=>match h,Zh T.lf1 cs with
  |some n,some ls=>match U.of n ls with
   |some x=>some ⟨.st n,x⟩
   |none=>none
  |_,_=>none
 |d=>T.lf1 d
theorem ZcK {T:TS U} {d:TV U} {l:Lf U.car} (hi:d.inv T.objs) (h:T.lf1 d=some l) (m:Nat):d.enc.toP T.enc.objs m=some (U.encL l):=by
 unfold TS.lf1 at h;split at h
 ·cases h;simp[TV.enc,Zc.encL]
 ·cases h;simp[TV.enc,Zc.encL,Zc.encE]
 ·cases h;simp[TV.enc,Zc.encL,Zc.encE]
 ·cases h;simp[TV.enc,Zc.encL,Zc.encE,ZjU]
 ·cases h;simp[TV.enc,TV.encs,fnD,Zh,Zc.encL,Zc.encE,ZjU]
 ·rename_i id n;split at h;rotate_left;simp at h;rename_i t xs fix a;cases h;obtain⟨o,b,c⟩:=hi (id,n) (by simp[TV.fulls]);dsimp only at b c;rw[a,ZmZ]at b;subst b;have e:=c t xs fix rfl;simp only[TV.enc,Zbh,TS.enc,a,Zip,TO.enc,Zc.encL,Zc.encE,<-e,dt_map]
 ·rename_i id f len;split at h;rotate_left;simp at h;rename_i t xs fix a;cases h;simp only[TV.enc,Zbh,TS.enc,a,Zip,TO.enc,Zc.encL,Zc.encE,ZnC,Znz]
 ·rename_i id;split at h;rotate_left;simp at h;rename_i k v g a;cases h;simp only[TV.enc,Zbi,TS.enc,a,Zip,TO.enc,Zc.encL,Zc.encE]
 ·simp at h
theorem Zjf (lk:Id->Option Obj) (m:Nat) (b:List D):(D.mkAgg b).toP lk (m+1)=(Zh (D.toP lk m) b).map .agg:=by
 unfold D.mkAgg;split
 ·rename_i a h;rw[Zje,Zt h];have:Zh (D.toP lk m) (a.map .p)=some a:=by
   clear h
   induction a with
   |nil=>rfl
   |cons x r c=>simp only[ZmL,Zh,Zje,c]
  rw[this];rfl
 ·rfl
theorem Zch {T:TS U} (m:Nat):∀{cs:List (TV U)} {a:List (Lf U.car)},(∀d∈cs,d.inv T.objs)->Zh T.lf1 cs=some a->Zh (D.toP T.enc.objs m) (TV.encs cs)=some (a.map U.encL)
 | [],a,_,h=>by simp[Zh]at h;subst h;rfl
 |d::r,a,hi,h=>by simp only[Zh]at h;split at h;rotate_left;simp at h;rename_i l f c b;cases h;simp only[TV.encs,Zh,ZcK (hi d (by simp)) c m,Zch m (fun x e=>hi x (by simp[e])) b,ZmL]
theorem Zht {lk:Id->Option (TO U)} {cs:List (TV U)} (h:(TV.agg cs).inv lk):∀d∈cs,d.inv lk:=fun d a q b=>h q (Zr.2 ⟨d,a,b⟩)
theorem ZeS (b:UOk U) {T:TS U} {c:Option Nat} {d:TV U} {l:Lf U.car} (hi:d.inv T.objs) (h:T.lf c d=some l) (m:Nat):d.enc.toP T.enc.objs (m+1)=some (U.encL l):=by
 cases d with
 |agg cs=>
  simp only[TS.lf]at h;split at h;rotate_left;simp at h;rename_i n f a;split at h;rotate_left;simp at h;rename_i x e;cases h;rw[TV.enc,Zjf,Zch m (Zht hi) a];simp only[ZnG,Zc.encL,Zc.encE,b.enc_cells,b.of_cells _ _ _ e]
 |_=>exact ZcK hi h _
structure Zi (U:Zc) where
 val:TV U
 new:List (Nat×TO U):=[]
 wr:List (Id×TO U):=[]
 frz:List Id:=[]
def Zi.enc (e:Zi U) (cs:List Bool):Eff:=
 {val:=e.val.enc,new:=e.new.map fun x=>(x.1,x.2.enc),wr:=e.wr.map fun x=>(x.1,x.2.enc),frz:=e.frz,cond:=cs}
def TS.objL (T:TS U):List (Id×TO U)->TS U
 | []=>T
 |(id,o)::r=>TS.objL {T with objs:=upd T.objs id (some o)} r
def TS.freezeL (T:TS U) (l:List Id):TS U:={T with fz:=fun id=>l.contains id||T.fz id}
def TS.setO (T:TS U):Option Nat->TV U->TS U
 |some t,d=>{T with slots:=upd T.slots t d}
 |none,_=>T
def TS.app (T:TS U) (i:Nat) (dst:Option Nat) (e:Zi U):TS U:=
 (((T.objL e.wr).objL (e.new.map fun x=>((T.ep,i,x.1),x.2))).freezeL e.frz).setO dst e.val
def TS.next (T:TS U):TS U:={T with ep:=T.ep+1}
theorem ZfR {a b:St} (d:a.slots=b.slots) (f:a.objs=b.objs) (e:a.fz=b.fz) (c:a.ep=b.ep):a=b:=by cases a;cases b;simp_all
theorem objL_enc:∀(l:List (Id×TO U)) (T:TS U),(T.objL l).enc=T.enc.objL (l.map fun x=>(x.1,x.2.enc))
 | [],T=>rfl
 |(id,o)::r,T=>by simp only[TS.objL,ZmL,St.objL];rw[objL_enc r];congr 1;refine ZfR rfl ?_ rfl rfl;funext x;simp only[TS.enc,St.obj,upd];split<;>rfl
theorem freezeL_enc (l:List Id) (T:TS U):(T.freezeL l).enc=T.enc.freezeL l:=by
 refine ZfR ?_ ?_ ?_ ?_
 ·simp[TS.freezeL,TS.enc]
 ·simp[TS.freezeL,TS.enc]
 ·funext id;rw[Eng.freezeL_fz];rfl
 ·simp[TS.freezeL,TS.enc]
theorem Zkw (T:TS U) (dst:Option Nat) (d:TV U):(T.setO dst d).enc=T.enc.setO dst d.enc:=by
 cases dst with
 |none=>rfl
 |some t=>
  refine ZfR ?_ rfl rfl rfl;funext x;simp only[TS.setO,TS.enc,St.setO,St.set,upd];split<;>rfl
theorem Zbb (T:TS U) (i:Nat) (dst:Option Nat) (e:Zi U) (cs:List Bool):(T.app i dst e).enc=T.enc.app i dst (e.enc cs):=by simp only[TS.app,St.app,Zkw,Eng.freezeL_enc,Eng.objL_enc,Zi.enc,ZnA];rfl
def ZdM (o:Option (TO U)) (o':TO U):Prop:=∀t xs fix,o'= .arr t xs fix->∃c a b,o=some (.arr c a b)/\xs.length=a.length
def fresh (T:TS U) (i:Nat) (e:Zi U):Bool:=e.new.all fun x=>(T.objs (T.ep,i,x.1)).isNone
theorem ZaS:∀(l:List (Id×TO U)) (T:TS U) (id:Id) (o:TO U),(T.objL l).objs id=some o->(id,o)∈l\/((∀o',(id,o')∉l)/\T.objs id=some o)
 | [],T,id,o,h=> .inr ⟨by simp,h⟩
 |(a,u)::r,T,id,o,h=>by
  simp only[TS.objL]at h;rcases ZaS r _ id o h with h |⟨e,c⟩
  ·exact .inl (Zni _ h)
  ·simp only[upd]at c;split at c
   ·rename_i d;simp only[ZmZ]at c;subst d c;exact .inl ZmO
   ·rename_i d;exact .inr ⟨fun o' b=>by rcases ZmN.1 b with b |b;(·simp only[Zm0]at b;exact d b.1);exact e o' b,c⟩
theorem ZdD:∀(l:List (Id×TO U)) (T:TS U) (id:Id),(T.objs id).isSome=true->((T.objL l).objs id).isSome=true
 | [],T,id,h=>h
 |(a,u)::r,T,id,h=>by
  refine ZdD r _ id ?_;simp only[upd];split
  ·rfl
  ·exact h
def lkA (T:TS U) (i:Nat) (e:Zi U):Id->Option (TO U):=((T.objL e.wr).objL (e.new.map fun x=>((T.ep,i,x.1),x.2))).objs
theorem Zfa (T:TS U) (i:Nat) (dst:Option Nat) (e:Zi U):(T.app i dst e).objs=lkA T i e:=by cases dst<;>rfl
theorem ZjK {T:TS U} {i:Nat} {e:Zi U} (m:fresh T i e=true) (hw:∀id o,(id,o)∈e.wr->ZdM (T.objs id) o) {q:Id×Nat} (h:Zix T.objs q):Zix (lkA T i e) q:=by
 obtain⟨o,c,g⟩:=h;have r:((T.objL e.wr).objs q.1).isSome=true:=ZdD _ _ _ (by rw[c];rfl);have f:=ZdD (e.new.map fun x=>((T.ep,i,x.1),x.2)) _ _ r;obtain⟨o',a⟩:=Option.isSome_iff_exists.1 f;refine⟨o',a,fun t xs fix b=> ?_⟩;subst b;rcases ZaS _ _ _ _ a with d |⟨_,n⟩
 ·obtain⟨x,u,b⟩:=Znk.1 d;have:=Zm5.1 m x u;simp only[Zm0]at b;rw[b.1,c]at this;simp at this
 ·rcases ZaS _ _ _ _ n with d |⟨_,j⟩
  ·obtain⟨v,s,l,k,p⟩:=hw _ _ d t xs fix rfl;rw[c,ZmZ]at k;rw[p];exact g _ _ _ k
  ·rw[c,ZmZ]at j;exact g _ _ _ j
structure ZK (T:TS U) (i:Nat) (e:Zi U):Prop where
 wr:∀id o,(id,o)∈e.wr->ZdM (T.objs id) o
 val:fresh T i e=true->e.val.inv (lkA T i e)
 objs:fresh T i e=true->∀o,((∃k,(k,o)∈e.new)\/∃id,(id,o)∈e.wr)->o.inv (lkA T i e)
theorem TV.inv_old {T:TS U} {i:Nat} {e:Zi U} (b:fresh T i e=true) (hw:∀id o,(id,o)∈e.wr->ZdM (T.objs id) o) {d:TV U} (h:d.inv T.objs):d.inv (lkA T i e):=
 fun q a=>ZjK b hw (h q a)
theorem TS.Inv.app {T:TS U} (h:T.Inv) {i:Nat} {dst:Option Nat} {e:Zi U} (b:fresh T i e=true) (c:ZK T i e):(T.app i dst e).Inv:=by
 constructor
 ·intro k;rw[Zfa];have:(T.app i dst e).slots k=e.val\/(T.app i dst e).slots k=T.slots k:=by
   have a:∀(l:List (Id×TO U)) (T:TS U),(T.objL l).slots=T.slots:=by
    intro l
    induction l with
    |nil=>intro T;rfl
    |cons x r n=>intro T;simp only[TS.objL];rw[n]
   cases dst with
   |none=>right;simp only[TS.app,TS.setO,TS.freezeL,a]
   |some t=>
    simp only[TS.app,TS.setO,TS.freezeL,a,upd];split
    ·exact .inl rfl
    ·exact .inr rfl
  rcases this with a |a
  ·rw[a];exact c.val b
  ·rw[a];exact TV.inv_old b c.wr (h.slots k)
 ·intro id o j;rw[Zfa]at j|-
  rcases ZaS _ _ _ _ j with f |⟨_,p⟩
  ·obtain⟨x,s,g⟩:=Znk.1 f;simp only[Zm0]at g;obtain⟨_,rfl⟩:=g;exact c.objs b _ (.inl ⟨x.1,s⟩)
  ·rcases ZaS _ _ _ _ p with f |⟨_,q⟩
   ·exact c.objs b _ (.inr ⟨id,f⟩)
   ·have:=h.objs id o q;cases o with
    |box cs=>exact fun d m=>TV.inv_old b c.wr (this d m)
    |_=>trivial
theorem TS.Inv.next {T:TS U} (h:T.Inv):T.next.Inv:=⟨h.slots,h.objs⟩
theorem ZK.pure {T:TS U} {i:Nat} {d:TV U} {frz:List Id} (h:d.inv T.objs):ZK T i {val:=d,frz:=frz}:=
 ⟨by simp,fun _=>h,by simp⟩
end
end Eng
namespace Eng
open Go
section
variable {U:Zc} {R:Type}
def chkL:List Bool->Option R->Option R
 | [],k=>k
 |b::r,k=>chk b (chkL r k)
def Lf.as {car:Nat->Type} (l:Lf car) (t:Ty):Option (El car t):=if h:l.t=t then some (h▸l.x)else none
def Zl7:P->Option (TV U)
 | .bool b=>some (.v .bool b)
 | .int k n=>some (.v (.int k) n)
 | .str s=>some (.v .str s)
 |_=>none
def ZiA:TV U->Option P
 | .v .bool b=>some (.bool b)
 | .v (.int k) n=>some (.int k n)
 | .v .str s=>some (.str s)
 |_=>none
def aggP:TV U->Option (List P)
 | .v (.st n) x=>some ((U.cells n x).map U.encL)
 | .agg cs=>match Zh TV.leaf? cs with
  |some a=>some (a.map U.encL)
  |none=>none
 |_=>none
def Zcz (ep i:Nat):Nat->List (TV U)->List (TV U)
 |_,[]=>[]
 |k,.nils _::r=> .full (ep,i,k) 0::Zcz ep i (k+1) r
 |k,d::r=>d::Zcz ep i (k+1) r
def ZF:Nat->List (TV U)->List (Nat×TO U)
 |_,[]=>[]
 |k,.nils t::r=>(k,.arr t [] false)::ZF (k+1) r
 |k,_::r=>ZF (k+1) r
def Zdb (e:TT U) (cs:List (TV U)):Option (TV U):=
 if e.n.isSome then (if e.ti.size<=cs.length then some (ZdG e.n (cs.take e.ti.size))else none)
 else cs.head?
def ZdY (X:ZG U) (sl:Nat->TV U) (e:TT U):List (Nat×Operand)->List (TV U)->Option (List (TV U))
 | [],cs=>some cs
 |(i,x)::r,cs=>match e.ti.part X.E i with
  |some (off,t)=>match X.get t,evT X sl t x with
   |some tp,some d=>if d.cells.length=tp.ti.size/\off+d.cells.length<=cs.length/\d.okv=true then ZdY X sl e r (ZP cs off d.cells)else none
   |_,_=>none
  |none=>none
def ZaU (X:ZG U) (T:TS U) (t:Nat) (e:TT U) (n:Nat):List (Nat×Operand)->List (El U.car e.ty)->Option (List (El U.car e.ty))
 | [],es=>some es
 |(i,x)::r,es=>match evT X T.slots t x with
  |some d=>match T.lf e.n d with
   |some l=>match l.as e.ty with
    |some y=>if U.tsize e.ty=e.ti.size/\i < n then ZaU X T t e n r (es.set i y)else none
    |none=>none
   |none=>none
  |none=>none
def intT (X:ZG U) (sl:Nat->TV U):Option Operand->Option (Option Int)
 |none=>some none
 |some x=>match evT X sl 0 x with
  |some (.v (.int _) n)=>some (some n)
  |_=>none
def Zi5 (n b:Nat):Bool:=decide (n*max b 1<=ZO)
def Zca (lo hi n:Int):Bool:=decide (0<=lo/\lo<=hi/\hi<=n)
def Zml (T:TS U) (x:TV U) (t:Ty):Option (List (El U.car t)):=
 match x with
 | .v .str s=>match t with
  | .int .u8=>some (s.map fun b=>((b.toNat:Nat):Int))
  |_=>none
 |x=>match T.lf1 x with
  |some l=>match l.as (.sl t)with
   |some a=>some a
   |none=>none
  |none=>none
def ZjB (X:ZG U) (T:TS U) (ty:Nat) (x:Operand) (k:Zi U->Option R):Option R:=
 match evT X T.slots ty x with
 |some d=>k {val:=d}
 |none=>none
def Zfn (X:ZG U) (T:TS U) (i ty:Nat) (x:Operand) (k:Zi U->Option R):Option R:=
 match evT X T.slots ty x with
 |some (.nils t)=>k {val:= .full (T.ep,i,0) 0,new:=[(0,.arr t [] false)]}
 |some d=>k {val:=d}
 |none=>none
def Zjz (X:ZG U) (T:TS U) (ty:Nat) (c a b:Operand) (k:Zi U->Option R):Option R:=
 match evT X T.slots ty c,evT X T.slots ty a,evT X T.slots ty b with
 |some (.v .bool x),some u,some v=>bif x then k {val:=u}else k {val:=v}
 |_,_,_=>none
def Ze0 (T:TS U) (i:Nat) (a:List (TV U)):Zi U:={val:= .ptr (T.ep,i,0) 0 0,new:=(0,.box (Zcz T.ep i 1 a))::ZF 1 a}
def Zg4 (X:ZG U) (T:TS U) (i t:Nat) (k:Zi U->Option R):Option R:=
 match X.get t with
 |some e=>k (Ze0 T i e.zero)
 |none=>none
def ZlK (X:ZG U) (T:TS U) (i t:Nat) (x:Operand) (k:Zi U->Option R):Option R:=
 match X.get t,evT X T.slots t x with
 |some e,some d=>if d.cells.length=e.ti.size/\d.okv=true then k (Ze0 T i d.cells)else none
 |_,_=>none
def Zg3 (X:ZG U) (T:TS U) (t:Nat) (a:List (Nat×Operand)) (k:Zi U->Option R):Option R:=
 match X.get t with
 |some e=>if e.n.isSome then match ZdY X T.slots e a e.zero with
  |some cs=>k {val:=ZdG e.n cs}
  |none=>none
  else none
 |none=>none
def Zbn (X:ZG U) (T:TS U) (i t n:Nat) (a:List (Nat×Operand)) (k:Zi U->Option R):Option R:=
 match X.get t with
 |some b=>match b.ti.d with
  | .sl u=>match X.get u with
   |some e=>match e.zl with
    |some z=>match z.as e.ty with
     |some z=>match ZaU X T u e n a (List.replicate n z)with
      |some es=>if n*e.ti.size<=16777216/\n<=16777216/\U.tsize e.ty=e.ti.size then
        k {val:= .full (T.ep,i,0) n,new:=[(0,.arr e.ty es false)],frz:=ZcP X.E T.enc.slots T.enc.objs u a}else none
      |none=>none
     |none=>none
    |none=>none
   |none=>none
  |_=>none
 |none=>none
def ZjC (X:ZG U) (T:TS U) (t:Nat) (a:Operand) (k:Zi U->Option R):Option R:=
 match X.get t,evT X T.slots 0 a with
 |some e,some (.pp cs)=>match Zdb e (cs.map lv)with
  |some d=>k {val:=d}
  |none=>none
 |some e,some (.ptr id i j)=>match T.objs id with
  |some (.box cs)=>if i=0 then match Zdb e (cs.drop j)with
   |some d=>k {val:=d}
   |none=>none
   else none
  |some (.arr u xs _)=>(xs[i]?).bind fun x=>match Zdb e (((U.cellsE u x).drop j).map lv)with
   |some d=>k {val:=d}
   |none=>none
  |_=>none
 |_,_=>none
def ZgX (X:ZG U) (T:TS U) (b t:Nat) (a x:Operand) (k:Zi U->Option R):Option R:=
 match X.get t,evT X T.slots 0 a,evT X T.slots t x with
 |some e,some (.ptr id i j),some d=>match T.objs id with
  |some (.box cs)=>if i=0/\d.cells.length=e.ti.size/\j+d.cells.length<=cs.length/\d.okv=true then
    k {val:= .undef,new:=ZF 0 d.cells,wr:=[(id,.box (ZP cs j (Zcz T.ep b 0 d.cells)))]}else none
  |some (.arr u xs fix)=>match T.lf e.n d with
   |some l=>if U.tsize l.t=e.ti.size/\j+e.ti.size<=U.tsize u/\0 < e.ti.size then
     (if j=0/\U.tsize l.t=U.tsize u then match l.as u with
      |some y=>k {val:= .undef,wr:=[(id,.arr u (xs.set i y) fix)],frz:=d.enc.ids T.enc.objs depth}
      |none=>none
     else (xs[i]?).bind fun z=>match U.ofE u (ZP (U.cellsE u z) j (U.cellsE l.t l.x))with
      |some y=>k {val:= .undef,wr:=[(id,.arr u (xs.set i y) fix)],frz:=d.enc.ids T.enc.objs depth}
      |none=>none)else none
   |none=>none
  |_=>none
 |_,_,_=>none
def ZcH (X:ZG U) (T:TS U) (x:Operand) (k:Zi U->Option R):Option R:=
 match evT X T.slots 0 x with
 |some (.pp cs)=>k {val:= .pp cs}
 |some (.ptr id i j)=>k {val:= .ptr id i j}
 |some (.fn f a b)=>k {val:= .fn f a b}
 |_=>none
def opNil (X:ZG U) (T:TS U) (b:BinOp) (t:Nat) (x y:Operand) (k:Zi U->Option R):Option R:=
 match X.get t,evT X T.slots 0 x with
 |some e,some (.v .fnc z)=>match e.ti.d,y,b with
  | .func,.const .nilFunc,.eql=>k {val:= .v .bool (Option.isNone z)}
  | .func,.const .nilFunc,.neq=>k {val:= .v .bool (!Option.isNone z)}
  |_,_,_=>none
 |some e,some d=>match Zc3 e.ti.d y d.enc with
  |some (.p (.bool z))=>match b with
   | .eql=>k {val:= .v .bool z}
   | .neq=>k {val:= .v .bool (!z)}
   |_=>none
  |_=>none
 |_,_=>none
def ZlL (X:ZG U) (T:TS U) (b:BinOp) (t:Nat) (x y:Operand) (k:Zi U->Option R):Option R:=
 if Operand.isNil y then opNil X T b t x y k else
 match evT X T.slots 0 x,evT X T.slots 0 y with
 |some (.v .bool u),some (.v .bool v)=>match X.get t,Zj8 b u v with
  |some e,some z=>match e.ti.d,Zl7 (U:=U) z with
   | .bool,some d=>k {val:=d}
   |_,_=>none
  |_,_=>none
 |some d,some d'=>match aggP d,aggP d' with
  |some u,some v=>match Zmi X.E b t u v with
   |some z=>match Zl7 z with
    |some d=>k {val:=d}
    |none=>none
   |none=>none
  |_,_=>match ZiA d,ZiA d' with
   |some u,some v=>match Zmc b u v with
    |some (z,c)=>match Zl7 z with
     |some d=>chkL c (k {val:=d})
     |none=>none
    |none=>none
   |_,_=>none
 |_,_=>none
def opUn (X:ZG U) (T:TS U) (u:UnOp) (x:Operand) (k:Zi U->Option R):Option R:=
 match evT X T.slots 0 x with
 |some d=>match ZiA d with
  |some v=>match unop u v with
   |some (z,c)=>match Zl7 z with
    |some d=>chkL c (k {val:=d})
    |none=>none
   |none=>none
  |none=>none
 |none=>none
def ZdC (X:ZG U) (T:TS U) (i s t:Nat) (x:Operand) (k:Zi U->Option R):Option R:=
 match X.get s,X.get t,evT X T.slots 0 x with
 |some es,some et,some d=>match es.ti.d,et.ti.d,d with
  | .int _,.int k',.v (.int _) n=>k {val:= .v (.int k') (k'.wrap n)}
  | .str,.str,.v .str s=>k {val:= .v .str s}
  | .str,.sl u,.v .str s=>match X.get u with
   |some a=>match a.ti.d with
    | .int .u8=>chk (decide (s.length<=281474976710656)) (k {val:= .full (T.ep,i,0) s.length,new:=[(0,.arr (.int .u8) (s.map fun b=>((b.toNat:Nat):Int)) false)]})
    |_=>none
   |none=>none
  | .sl u,.str,d=>match X.get u,T.lf1 d with
   |some a,some l=>match a.ti.d,l.as (.sl (.int .u8))with
    | .int .u8,some xs=>k {val:= .v .str (xs.map fun n=>UInt8.ofNat n.toNat)}
    |_,_=>none
   |_,_=>none
  |_,_,_=>none
 |_,_,_=>none
def Zlk (X:ZG U) (sl:Nat->TV U) (xs:List Operand):Option (List (TV U)):=Zh (evT X sl 0) xs
def ZcI (X:ZG U) (T:TS U) (f:Nat) (c d:List Operand) (k:Zi U->Option R):Option R:=
 match Zlk X T.slots c,Zlk X T.slots d with
 |some a,some b=>k {val:= .fn f a b}
 |_,_=>none
def ZdA (X:ZG U) (T:TS U) (i t:Nat) (k:Zi U->Option R):Option R:=
 match X.get t with
 |some e=>match e.ty with
  | .map a b=>k {val:= .map (T.ep,i,0),new:=[(0,.map a b [])]}
  |_=>none
 |none=>none
def ZbY (X:ZG U) (T:TS U) (i t:Nat) (l c:Operand) (k:Zi U->Option R):Option R:=
 match X.elem t,evT X T.slots 0 l,evT X T.slots 0 c with
 |some e,some (.v (.int _) a),some (.v (.int _) b)=>match e.zl with
  |some z=>match z.as e.ty with
   |some z=>if U.tsize e.ty=e.ti.size then chk (decide (0<=a/\a<=b/\b*e.ti.bytes<=ZO/\b<=ZO)) (k {val:= .full (T.ep,i,0) a.toNat,new:=[(0,.arr e.ty (List.replicate a.toNat z) false)]})else none
   |none=>none
  |none=>none
 |_,_,_=>none
def cut {a:Type} (xs:List a):Option Int->Option Int->List a
 |none,none=>xs
 |none,some h=>xs.take h.toNat
 |some l,none=>xs.drop l.toNat
 |some l,some h=>(xs.take h.toNat).drop l.toNat
def ZhD (T:TS U) (sz:Option Nat) (d:TV U) (lo hi mx:Option Int) (k:Zi U->Option R):Option R:=
 match sz,d with
 |none,.v .str s=>match mx with
  |none=>chk (Zca (lo.getD 0) (hi.getD s.length) s.length) (k {val:= .v .str (cut s lo hi)})
  |some _=>none
 |some sz,.v (.sl t) xs=>if sz=U.tsize t then match mx,hi with
  |none,_=>chk (Zca (lo.getD 0) (hi.getD xs.length) xs.length) (k {val:= .v (.sl t) (cut xs lo hi)})
  |some m,some h=>chk (decide (0<=lo.getD 0/\lo.getD 0<=h/\h<=xs.length/\m=h)) (k {val:= .clip t (cut xs lo hi)})
  |_,_=>none
  else none
 |some sz,.full id n=>match T.objs id with
  |some (.arr t xs _)=>if sz=U.tsize t then match mx with
   |none=>chk (Zca (lo.getD 0) (hi.getD xs.length) xs.length) (match lo,hi with
    |none,none=>k {val:= .full id n}
    |lo,hi=>k {val:= .sl id (lo.getD 0).toNat ((hi.getD xs.length).toNat - (lo.getD 0).toNat)})
   |some m=>match hi with
    |some h=>chk (decide (0<=lo.getD 0/\lo.getD 0<=h/\h<=xs.length/\m=h)) (k {val:= .clip t (cut xs lo hi),frz:=[id]})
    |none=>none
   else none
  |_=>none
 |some sz,.sl id off len=>match T.objs id with
  |some (.arr t xs _)=>if sz=U.tsize t then match mx with
   |none=>chk (Zca (lo.getD 0) (hi.getD len) len) (k {val:= .sl id (off+(lo.getD 0).toNat) ((hi.getD len).toNat - (lo.getD 0).toNat)})
   |some _=>none
   else none
  |_=>none
 |some _,.nils t=>match mx with
  |none=>chk (decide (lo.getD 0=0/\hi.getD 0=0)) (k {val:= .nils t})
  |some _=>none
 |_,_=>none
def ZgY (X:ZG U) (T:TS U) (t:Nat) (x:Operand) (lo hi mx:Option Operand) (k:Zi U->Option R):Option R:=
 match X.get t,evT X T.slots 0 x,intT X T.slots lo,intT X T.slots hi,intT X T.slots mx with
 |some e,some d,some a,some b,some c=>match e.ti.d with
  | .str=>ZhD T none d a b c k
  | .sl u=>match X.get u with
   |some f=>ZhD T (some f.ti.size) d a b c k
   |none=>none
  |_=>none
 |_,_,_,_,_=>none
def Zb0 (X:ZG U) (T:TS U) (t:Nat) (x:Operand) (f:Nat) (k:Zi U->Option R):Option R:=
 match X.get t,evT X T.slots 0 x with
 |some e,some d=>match e.ti.d with
  | .struct fs=>match fs[f]? with
   |some (off,ft)=>match X.get ft with
    |some a=>if a.ti.size=0 then none else match d with
     | .pp cs=>k {val:= .pp (cs.drop off)}
     | .ptr id i j=>k {val:= .ptr id i (j+off)}
     |_=>none
    |none=>none
   |none=>none
  |_=>none
 |_,_=>none
def Zg1 (X:ZG U) (T:TS U) (t:Nat) (x:Operand) (f:Nat) (k:Zi U->Option R):Option R:=
 match X.get t,evT X T.slots 0 x with
 |some e,some d=>match e.ti.d with
  | .struct fs=>match fs[f]? with
   |some (off,ft)=>match X.get ft with
    |some a=>if a.ti.size=0 then none else match d with
     | .v (.st n) x=>match Zdb a (((U.cells n x).drop off).map lv)with
      |some y=>k {val:=y}
      |none=>none
     | .agg cs=>match Zdb a (cs.drop off)with
      |some y=>k {val:=y}
      |none=>none
     |_=>none
    |none=>none
   |none=>none
  |_=>none
 |_,_=>none
def tabB {car:Nat->Type} (t:Ty) (cs:List (Lf car)) (n:Nat):Option (El car t):=match cs[n]? with
 |some l=>l.as t
 |none=>none
def tabK (cs:List (Lf U.car)):List Ty->Nat->(List (Lf U.car)->Option R)->Option R
 | [],_,k=>k []
 |t::r,n,k=>(tabB t cs n).bind fun x=>tabK cs r (n+1) fun a=>k (⟨t,x⟩::a)
def ZbZ (X:ZG U) (T:TS U) (t:Nat) (x f:Operand) (k:Zi U->Option R):Option R:=
 match X.get t,evT X T.slots 0 x,evT X T.slots 0 f with
 |some e,some d,some (.v (.int _) n)=>match e.ti.d with
  | .sl u=>match X.get u with
   |some a=>match d with
    | .v (.sl t') xs=>if U.tsize t'=a.ti.size then (idx xs n).bind fun y=>k {val:= .pp (U.cellsE t' y)}else none
    | .full id m=>match T.objs id with
     |some (.arr t' xs _)=>if U.tsize t'=a.ti.size then chk (decide (0<=n/\n < xs.length)) (k {val:= .ptr id n.toNat 0})else none
     |_=>none
    | .sl id b len=>match T.objs id with
     |some (.arr t' xs _)=>if U.tsize t'=a.ti.size then chk (decide (0<=n/\n < len)) (k {val:= .ptr id (b+n.toNat) 0})else none
     |_=>none
    |_=>none
   |none=>none
  | .arr m u=>match X.get u with
   |some a=>match d with
    | .pp cs=>chk (decide (0<=n/\n < m)) (bif Nat.blt 8 m then match a.zl with
      |some z=>tabK cs ((U.cellsE z.t z.x).map (·.t)) (n.toNat*a.ti.size) fun c=>k {val:= .pp (c++cs.drop (n.toNat*a.ti.size+c.length))}
      |none=>none
     else k {val:= .pp (cs.drop (n.toNat*a.ti.size))})
    | .ptr id i j=>chk (decide (0<=n/\n < m)) (k {val:= .ptr id i (j+n.toNat*a.ti.size)})
    |_=>none
   |none=>none
  |_=>none
 |_,_,_=>none
def Zg0 (X:ZG U) (T:TS U) (t:Nat) (x a:Operand) (k:Zi U->Option R):Option R:=
 match X.get t,evT X T.slots 0 x,evT X T.slots 0 a with
 |some e,some (.v .str s),some (.v (.int _) n)=>match e.ti.d with
  | .str=>(idx s n).bind fun c=>k {val:= .v (.int .u8) ((c.toNat:Nat):Int)}
  |_=>none
 |_,_,_=>none
def ZlY {car:Nat->Type}:(k:Ty)->El car k->El car k->Bool
 | .bool,a,b=>a == b
 | .int _,a,b=>a == b
 | .str,a,b=>a == b
 |_,_,_=>false
def Ty.isKey:Ty->Bool
 | .bool | .int _ | .str=>true
 |_=>false
def Zg8 {car:Nat->Type} {k v:Ty} (a:List (El car k×El car v)) (x:El car k):Option (El car v):=(a.find? fun e=>ZlY k x e.1).map (·.2)
def setB {car:Nat->Type} {k v:Ty} (a:List (El car k×El car v)) (x:El car k) (y:El car v):List (El car k×El car v):=
 if a.any (fun e=>ZlY k x e.1)then a.map fun e=>if ZlY k x e.1 then (e.1,y)else e else a++[(x,y)]
def delB {car:Nat->Type} {k v:Ty} (a:List (El car k×El car v)) (x:El car k):List (El car k×El car v):=a.filter fun e=> !ZlY k x e.1
def mapT (T:TS U):TV U->Option (Lf U.car)
 | .v (.map k v) kv=>some ⟨.map k v,kv⟩
 | .map id=>match T.objs id with
  |some (.map k v kv)=>some ⟨.map k v,kv⟩
  |_=>none
 |_=>none
def Zfl (X:ZG U) (T:TS U) (t:Nat) (m k:Operand) (d:Bool) (c:Zi U->Option R):Option R:=
 match X.get t with
 |some e=>match e.ti.d,e.ty with
  | .map kt vt,.map a b=>match X.get vt,evT X T.slots 0 m,evT X T.slots kt k with
   |some ev,some dm,some dk=>match mapT T dm,T.lf1 dk,ev.zl with
    |some lm,some lk,some z=>match lm.as (.map a b),lk.as a,z.as b with
     |some kv,some key,some z=>if a.isKey=true/\(X.E.keyTD t).same a.td=true then (if d then c {val:= .tup [.v b ((Zg8 kv key).getD z),.v .bool (Zg8 kv key).isSome]}else c {val:= .v b ((Zg8 kv key).getD z)})else none
     |_,_,_=>none
    |_,_,_=>none
   |_,_,_=>none
  |_,_=>none
 |none=>none
def Za2 (X:ZG U) (T:TS U) (t:Nat) (m k v:Operand) (c:Zi U->Option R):Option R:=
 match X.get t with
 |some e=>match e.ti.d,e.ty with
  | .map kt vt,.map a b=>match X.get vt,evT X T.slots 0 m,evT X T.slots kt k,evT X T.slots vt v with
   |some ev,some (.map id),some dk,some dv=>match T.objs id,T.lf1 dk,T.lf ev.n dv with
    |some (.map a' b' kv),some lk,some lv=>match (Lf.mk (.map a' b') kv:Lf U.car).as (.map a b),lk.as a,lv.as b with
     |some kv,some key,some y=>if a.isKey=true/\(X.E.keyTD t).same a.td=true then c {val:= .undef,wr:=[(id,.map a b (setB kv key y))],frz:=dv.enc.ids T.enc.objs depth}else none
     |_,_,_=>none
    |_,_,_=>none
   |_,_,_,_=>none
  |_,_=>none
 |none=>none
def ZgZ (X:ZG U) (T:TS U) (i t:Nat) (x:Operand) (k:Zi U->Option R):Option R:=
 match X.get t,evT X T.slots 0 x with
 |some e,some (.v .str s)=>match e.ti.d with
  | .str=>k {val:= .it (T.ep,i,0),new:=[(0,.sit s 0)]}
  |_=>none
 |some e,some (.v (.map a b) kv)=>match e.ti.d with
  | .map _ _=>k {val:= .it (T.ep,i,0),new:=[(0,.mit a b kv none)]}
  |_=>none
 |some e,some (.map id)=>match e.ti.d,T.objs id with
  | .map _ _,some (.map a b kv)=>k {val:= .it (T.ep,i,0),new:=[(0,.mit a b kv none)],frz:=[id]}
  |_,_=>none
 |_,_=>none
def ZjA (X:ZG U) (T:TS U) (b:Operand) (k:Zi U->Option R):Option R:=
 match evT X T.slots 0 b with
 |some (.it id)=>match T.objs id with
  |some (.sit s a)=>bif decide (a < s.length)then
    k {val:= .tup [.v .bool true,.v (.int .i64) (a:Int),.v (.int .i32) (Utf8.decode ⟨s.toArray⟩ a).1],wr:=[(id,.sit s (a+(Utf8.decode ⟨s.toArray⟩ a).2))]}
   else k {val:= .tup [.v .bool false]}
  |_=>none
 |_=>none
def Zg2 (X:ZG U) (T:TS U) (c:Operand) (k:Zi U->Option R):Option R:=
 match evT X T.slots 0 c with
 |some (.it id)=>match T.objs id with
  |some (.mit a b _ (some (x,y)))=>k {val:= .tup [.v a x,.v b y]}
  |_=>none
 |_=>none
def ZdB (X:ZG U) (T:TS U) (x:Operand) (a:Nat) (k:Zi U->Option R):Option R:=
 match evT X T.slots 0 x with
 |some (.tup vs)=>match vs[a]? with
  |some d=>k {val:=d}
  |none=>none
 |_=>none
def lenT (T:TS U):TV U->Option (Nat)
 | .v .str s=>some s.length
 | .v (.sl _) xs=>some xs.length
 | .clip _ xs=>some xs.length
 | .nils _=>some 0
 | .full id n=>match T.objs id with
  |some (.arr _ xs _)=>some xs.length
  |_=>none
 | .sl _ _ len=>some len
 |_=>none
def ZlJ (X:ZG U) (T:TS U) (t:Nat) (x:Operand) (k:Zi U->Option R):Option R:=
 match X.get t,evT X T.slots t x with
 |some e,some d=>match e.ti.d with
  | .str=>match d with
   | .v .str s=>k {val:= .v (.int .i64) (s.length:Int)}
   |_=>none
  | .sl _=>match d with
   | .v (.sl _) xs=>k {val:= .v (.int .i64) (xs.length:Int)}
   | .clip _ xs=>k {val:= .v (.int .i64) (xs.length:Int)}
   | .nils _=>k {val:= .v (.int .i64) (0:Nat)}
   | .full id n=>match T.objs id with
    |some (.arr _ xs _)=>k {val:= .v (.int .i64) (xs.length:Int)}
    |_=>none
   | .sl _ _ len=>k {val:= .v (.int .i64) (len:Int)}
   |_=>none
  | .map _ _=>match mapT T d with
   |some ⟨.map _ _,a⟩=>chk (decide (Znv a<=Zq)) (k {val:= .v (.int .i64) (Znv a:Int)})
   |_=>none
  | .arr n _=>chk (decide (n<=Zq)) (k {val:= .v (.int .i64) (n:Int)})
  |_=>none
 |_,_=>none
def Zkq:TD->Bool
 | .sl _ | .str=>true
 |_=>false
def appX (T:TS U) (i:Nat) (e:TT U) (d:TV U) (a:List (El U.car e.ty)) (k:Zi U->Option R):Option R:=
 match d with
 | .nils _=>chk (Zi5 a.length e.ti.bytes) (k {val:= .full (T.ep,i,0) a.length,new:=[(0,.arr e.ty a false)]})
 | .clip b xs=>match (Lf.mk (.sl b) xs:Lf U.car).as (.sl e.ty)with
  |some xs=>chk (decide (List.isEmpty a=false)) (chk (Zi5 (Znv xs+a.length) e.ti.bytes) (k {val:= .full (T.ep,i,0) (Znv xs+a.length),new:=[(0,.arr e.ty (List.append xs a) false)]}))
  |none=>none
 | .full id n=>match T.objs id with
  |some (.arr b xs false)=>match (Lf.mk (.sl b) xs:Lf U.car).as (.sl e.ty)with
   |some xs=>chk (Zi5 (Znv xs+a.length) e.ti.bytes) (k {val:= .full (T.ep,i,0) (Znv xs+a.length),new:=[(0,.arr e.ty (List.append xs a) false)],wr:=[(id,.gone)]})
   |none=>none
  |_=>none
 | .sl id 0 len=>match T.objs id with
  |some (.arr b xs false)=>match (Lf.mk (.sl b) xs:Lf U.car).as (.sl e.ty)with
   |some xs=>chk (decide (len<=Znv xs)) (chk (Zi5 (len+a.length) e.ti.bytes) (k {val:= .full (T.ep,i,0) (len+a.length),new:=[(0,.arr e.ty (List.append (List.take len xs) a) false)],wr:=[(id,.gone)]}))
   |none=>none
  |_=>none
 |_=>none
def Zfo (X:ZG U) (T:TS U) (i t u:Nat) (s x:Operand) (k:Zi U->Option R):Option R:=
 match X.elem t,X.get u,evT X T.slots t s,evT X T.slots u x with
 |some e,some eu,some d,some dx=>if U.tsize e.ty=e.ti.size then
   (if Zkq eu.ti.d=true then match Zml T dx e.ty with
    |some b=>appX T i e d b k
    |none=>none
   else match eu.ti.d,dx,e.zl with
    | .int _,.v (.int .i64) a,some z=>match z.as e.ty with
     |some z=>chk (decide (0<=a)) (appX T i e d (List.replicate a.toNat z) k)
     |none=>none
    |_,_,_=>none)
  else none
 |_,_,_,_=>none
def ZjD (X:ZG U) (T:TS U) (t u:Nat) (d s:Operand) (k:Zi U->Option R):Option R:=
 match X.elem t,evT X T.slots t d,evT X T.slots u s with
 |some e,some dd,some ds=>match dd with
  | .full id n=>match T.objs id with
   |some (.arr t' xs fix)=>match Zml T ds t' with
    |some a=>if U.tsize t'=e.ti.size then k {val:= .v (.int .i64) (min a.length xs.length:Nat),wr:=[(id,.arr t' (a.take xs.length++xs.drop a.length) fix)]}else none
    |none=>none
   |_=>none
  | .sl id b len=>match T.objs id with
   |some (.arr t' xs fix)=>match Zml T ds t' with
    |some a=>if U.tsize t'=e.ti.size then chk (decide (b+len<=xs.length)) (k {val:= .v (.int .i64) (min a.length len:Nat),wr:=[(id,.arr t' (ZP xs b (a.take (min a.length len))) fix)]})else none
    |none=>none
   |_=>none
  |_=>none
 |_,_,_=>none
def Zde (X:ZG U) (sl:Nat->TV U):List Operand->List Nat->Option (List (TV U))
 | [],_=>some []
 |x::xs,[]=>match evT X sl 0 x,Zde X sl xs []with
  |some d,some r=>some (d::r)
  |_,_=>none
 |x::xs,t::ts=>match evT X sl t x,Zde X sl xs ts with
  |some d,some r=>some (d::r)
  |_,_=>none
def opMM (X:ZG U) (T:TS U) (mx:Bool) (args:List Operand) (a:List Nat) (k:Zi U->Option R):Option R:=
 match Zde X T.slots args a with
 |some b=>match (if mx then maxP (TV.encs b)else minP (TV.encs b))with
  |some z=>match Zl7 z with
   |some d=>k {val:=d}
   |none=>none
  |none=>none
 |none=>none
def Zfm (X:ZG U) (T:TS U) (t u:Nat) (m k:Operand) (c:Zi U->Option R):Option R:=
 match X.get t,evT X T.slots t m,evT X T.slots u k with
 |some e,some (.map id),some dk=>match e.ti.d,T.objs id,T.lf1 dk with
  | .map _ _,some (.map a b kv),some lk=>match lk.as a with
   |some key=>if a.isKey=true/\(X.E.keyTD t).same a.td=true then c {val:= .undef,wr:=[(id,.map a b (delB kv key))]}else none
   |none=>none
  |_,_,_=>none
 |_,_,_=>none
def Zl8 (X:ZG U) (T:TS U) (i:Nat) (o:Op) (ty:Nat) (k:Zi U->Option R):Option R:=
 match o with
 | .move x=>ZjB X T ty x k
 | .assign x=>Zfn X T i ty x k
 | .pick c a b=>Zjz X T ty c a b k
 | .alloc t=>Zg4 X T i t k
 | .box t x=>ZlK X T i t x k
 | .build t e=>Zg3 X T t e.toList k
 | .buildSlice t n e=>Zbn X T i t n e.toList k
 | .load t a=>ZjC X T t a k
 | .store t a x=>ZgX X T i t a x k
 | .nilCheck x=>ZcH X T x k
 | .binOp b t x y _=>ZlL X T b t x y k
 | .unOp u _ x=>opUn X T u x k
 | .convert s t x=>ZdC X T i s t x k
 | .makeFunc (.func f) first caps=>ZcI X T f first.toList caps.toList k
 | .makeMap t none=>ZdA X T i t k
 | .makeSlice t l c=>ZbY X T i t l c k
 | .slice t x lo hi mx=>ZgY X T t x lo hi mx k
 | .fieldAddr t x f=>Zb0 X T t x f k
 | .field t x f=>Zg1 X T t x f k
 | .indexAddr t x g=>ZbZ X T t x g k
 | .index t x g=>Zg0 X T t x g k
 | .lookup t m q j=>Zfl X T t m q j k
 | .mapUpdate t m q v=>Za2 X T t m q v k
 | .insert t m q v=>Za2 X T t m q v k
 | .range t x=>ZgZ X T i t x k
 | .next h true=>ZjA X T h k
 | .entry h=>Zg2 X T h k
 | .extract x g=>ZdB X T x g k
 | .call {callee:= .builtin b,args,argTypes}=>match b,args.toList,argTypes.toList with
  | .len,[x],[t]=>ZlJ X T t x k
  | .append,[s,x],[t,u]=>Zfo X T i t u s x k
  | .copy,[d,s],[t,u]=>ZjD X T t u d s k
  | .max,xs,ts=>opMM X T true xs ts k
  | .min,xs,ts=>opMM X T false xs ts k
  | .delete,[m,q],[t,u]=>Zfm X T t u m q k
  |_,_,_=>none
 |_=>none
end
end Eng
namespace Eng
open Go
section
variable {U:Zc} {R:Type} {X:ZG U} {T:TS U} {i ty:Nat} {k:Zi U->Option R} {r:R}
def Snd (X:ZG U) (T:TS U) (i:Nat) (a:Op) (ty:Nat) (k:Zi U->Option R) (r:R):Prop:=
 ∃e cs,Zd X.E T.ep i a ty T.enc.slots T.enc.objs=some (e.enc cs)/\(∀q∈cs,q=true)/\ZK T i e/\k e=some r
theorem Zd5:∀{cs:List Bool} {k:Option R},chkL cs k=some r->(∀q∈cs,q=true)/\k=some r
 | [],k,h=>⟨by simp,h⟩
 |b::cs,k,h=>by obtain⟨d,c⟩:=Zo h;obtain⟨e,f⟩:=Zd5 c;exact⟨fun q a=>by rcases ZmN.1 a with rfl |a;(·exact d);exact e q a,f⟩
theorem ZE (e:T.Inv) {t:Nat} {x:Operand} {d:TV U} (h:evT X T.slots t x=some d):d.inv T.objs:=by
 have a:∀d:TV U,d.fulls=[]->d.inv T.objs:=fun d c q b=>by rw[c]at b;simp at b
 unfold evT at h;split at h
 ·cases h;exact e.slots _
 ·cases h;exact a _ rfl
 ·cases h;exact a _ rfl
 ·cases h;exact a _ rfl
 ·split at h;rotate_left;simp at h;split at h;rotate_left;simp at h;cases h;exact a _ rfl
 ·cases h;exact a _ rfl
 ·cases h;exact a _ rfl
 ·split at h;rotate_left;simp at h;split at h;rotate_left;simp at h;cases h;exact a _ rfl
 ·cases h;exact a _ rfl
 ·split at h;rotate_left;simp at h;cases h;exact a _ rfl
 ·simp at h
theorem Zb (a:TOk X) {t:Nat} {x:Operand} {d:TV U} (h:evT X T.slots t x=some d):ev X.E T.enc.slots t x=d.enc:=Zl5 a h
theorem Zf {id:Id} {o:TO U} (h:T.objs id=some o):T.enc.objs id=some o.enc:=by simp[TS.enc,Zip,h]
theorem Zai {lk:Id->Option (TO U)} (t:Ty) (x:El U.car t):(TV.v t x:TV U).inv lk:=fun q a=>by simp[TV.fulls]at a
theorem Zg {lk:Id->Option (TO U)} {d:TV U} (h:d.fulls=[]):d.inv lk:=fun q a=>by rw[h]at a;simp at a
theorem ZdP {lk:Id->Option (TO U)} {d:TV U} (h:d.inv lk):∀c∈d.cells,c.inv lk:=fun c b q a=>h q (Zhm ⟨c,b,a⟩)
theorem Zgo {lk:Id->Option (TO U)} {n:Option Nat} {cs:List (TV U)} (h:∀c∈cs,c.inv lk):(ZdG n cs).inv lk:=fun q a=>by obtain⟨d,b,a⟩:=Zgd n cs a;exact h d b q a
theorem ZaP (cs:List (TV U)):(TO.box cs).enc= .box (TV.encs cs):=rfl
theorem ZJ (t:Ty) (xs:List (El U.car t)) (fix:Bool):(TO.arr t xs fix:TO U).enc= .arr (U.tsize t) (xs.map (U.encE t)) fix:=rfl
theorem Z0 (a b:Ty) (c:List (El U.car a×El U.car b)):(TO.map a b c:TO U).enc= .map a.td (c.map fun e=>(U.encE a e.1,U.encE b e.2)):=rfl
theorem ZbT (s:List UInt8) (p:Nat):(TO.sit s p:TO U).enc= .sit s p:=rfl
theorem Zbu (a b:Ty) (d:List (El U.car a×El U.car b)) (c:Option (El U.car a×El U.car b)):(TO.mit a b d c:TO U).enc= .mit (d.map fun e=>(U.encE a e.1,U.encE b e.2)) (c.map fun e=>(U.encE a e.1,U.encE b e.2)):=rfl
theorem Za7:(TO.gone:TO U).enc= .gone:=rfl
theorem ZjQ (f:Nat) (a b:List D):(∃x y,fnD f a b= .p (.fn f x y))\/fnD f a b= .fn f a b:=by
 unfold fnD;split
 ·exact .inl ⟨_,_,rfl⟩
 ·exact .inr rfl
theorem Zkt (b:TOk X) (c:T.Inv) {x:Operand} (h:ZjB X T ty x k=some r):Snd X T i (.move x) ty k r:=by unfold ZjB at h;split at h;rotate_left;simp at h;rename_i d a;exact⟨_,[],by simp only[Zd,Zb b a,Zi.enc,ZnB],by simp,ZK.pure (ZE c a),h⟩
theorem Zii (g:TOk X) (l:T.Inv) {x:Operand} (h:Zfn X T i ty x k=some r):Snd X T i (.assign x) ty k r:=by
 unfold Zfn at h;split at h
 ·rename_i t b;refine⟨_,[], ?_,by simp, ?_,h⟩
  ·simp only[Zd,Zb g b,Zi.enc,TV.enc,ZnB,ZmL,ZaP,ZJ,Z0,ZbT,Zbu,Za7]
  ·refine⟨by simp,fun _ q f=> ?_,fun _ o j=> ?_⟩
   ·simp only[TV.fulls,ZmQ]at f;subst f;refine⟨.arr t [] false,by simp[lkA,TS.objL,upd],fun n xs fix a=> ?_⟩;cases a;rfl
   ·rcases j with ⟨m,c⟩ |⟨id,c⟩
    ·simp only[ZmQ,Zm0]at c;obtain⟨_,rfl⟩:=c;trivial
    ·simp at c
 ·rename_i d e b;refine⟨_,[], ?_,by simp,ZK.pure (ZE l b),h⟩;simp only[Zd,Zb g b];split
  ·rename_i sz a;exfalso;cases d<;>simp only[TV.enc,reduceCtorEq]at a
   ·exact e _ rfl
   ·unfold D.mkAgg at a;split at a<;>simp at a
   ·unfold fnD at a;split at a<;>simp at a
  ·rfl
 ·simp at h
theorem Zkr (a:TOk X) (g:T.Inv) {c x y:Operand} (h:Zjz X T ty c x y k=some r):Snd X T i (.pick c x y) ty k r:=by
 unfold Zjz at h;split at h;rotate_left;simp at h;rename_i b u v f d e;cases b
 ·exact⟨_,[],by simp only[Zd,Zb a f,Zb a d,Zb a e,TV.enc,Zc.encE,Zi.enc,ZnB];rfl,by simp,ZK.pure (ZE g e),h⟩
 ·exact⟨_,[],by simp only[Zd,Zb a f,Zb a d,Zb a e,TV.enc,Zc.encE,Zi.enc,ZnB];rfl,by simp,ZK.pure (ZE g d),h⟩
theorem Zdr (ep i:Nat):∀(k:Nat) (a:List (TV U)),TV.encs (Zcz ep i k a)=ZeA ep i k (TV.encs a)
 |k,[]=>rfl
 |k,d::r=>by
  cases d<;>simp only[Zcz,TV.encs,TV.enc,ZeA,Zdr ep i (k+1) r]
  ·unfold D.mkAgg;split<;>simp only[ZeA]
  ·unfold fnD;split<;>simp only[ZeA]
theorem Zfd {k:Nat} {d:D} {r:List D} (h:∀sz,d≠ .nils sz):ZZ k (d::r)=ZZ (k+1) r:=by cases d<;>first |rfl |exact absurd rfl (h _)
theorem Zbg:∀(k:Nat) (b:List (TV U)),(ZF k b).map (fun x=>(x.1,x.2.enc))=ZZ k (TV.encs b)
 |k,[]=>rfl
 |k,d::r=>by
  have c:=Zbg (k+1) r;cases d
  case nils t=>rw[ZF,ZmL,c];rfl
  all_goals
   rw[ZF,c,TV.encs,Zfd]
   ·intro sz a;simp only[TV.enc,reduceCtorEq]at a<;>first |(unfold D.mkAgg at a;split at a<;>simp at a) |(unfold fnD at a;split at a<;>simp at a)
   all_goals (intros;simp_all)
theorem Z7:∀(k:Nat) (a:List (TV U)) (j:Nat) (o:TO U),(j,o)∈ZF k a->k<=j/\∃t,o= .arr t [] false
 |k,[],j,o,h=>by simp[ZF]at h
 |k,d::r,j,o,h=>by
  cases d
  case nils t=>
   simp only[ZF,ZmN,Zm0]at h;rcases h with ⟨rfl,rfl⟩ |h
   ·exact⟨ZmT _,t,rfl⟩
   ·have:=Z7 (k+1) r j o h;exact⟨by omega,this.2⟩
  all_goals
   simp only[ZF]at h;have:=Z7 (k+1) r j o h;exact⟨by omega,this.2⟩
theorem Zdq (ep i:Nat):∀(k:Nat) (b:List (TV U)) (d:TV U),d∈Zcz ep i k b->d∈b\/∃j t,d= .full (ep,i,j) 0/\(j,TO.arr t [] false)∈ZF k b
 |k,[],d,h=>by simp[Zcz]at h
 |k,x::r,d,h=>by
  cases x
  case nils t=>
   simp only[Zcz,ZmN]at h;rcases h with rfl |h
   ·exact .inr ⟨k,t,rfl,by simp[ZF]⟩
   ·rcases Zdq ep i (k+1) r d h with h |⟨j,e,c,a⟩
    ·exact .inl (Zni _ h)
    ·exact .inr ⟨j,e,c,by simp[ZF,a]⟩
  all_goals
   simp only[Zcz,ZmN]at h;rcases h with rfl |h
   ·exact .inl ZmO
   ·rcases Zdq ep i (k+1) r d h with h |⟨j,e,c,a⟩
    ·exact .inl (Zni _ h)
    ·exact .inr ⟨j,e,c,by simp only[ZF];exact a⟩
theorem Zf8:∀(l:List (Id×TO U)) (T:TS U) (id:Id),(∃o,(id,o)∈l)->(∀o,(id,o)∈l->∀t xs fix,o= .arr t xs fix->xs.length=0)->Zix (T.objL l).objs (id,0)
 | [],T,id,h,_=>by simp at h
 |(a,u)::l,T,id,h,hz=>by
  simp only[TS.objL]
  by_cases hm:∃o,(id,o)∈l
  ·exact Zf8 l _ id hm fun o c=>hz o (Zni _ c)
  ·obtain⟨o,c⟩:=h;rcases ZmN.1 c with c |c
   ·simp only[Zm0]at c;obtain⟨rfl,rfl⟩:=c;have key:∀(l:List (Id×TO U)) (T:TS U),(¬∃o,(id,o)∈l)->(T.objL l).objs id=T.objs id:=by
     intro l
     induction l with
     |nil=>intro T _;rfl
     |cons x l f=>
      obtain⟨b,v⟩:=x;intro T e;simp only[TS.objL];rw[f _ (fun⟨o,c⟩=>e ⟨o,Zni _ c⟩)];simp only[upd];split
      ·rename_i d;subst d;exact absurd ⟨v,ZmO⟩ e
      ·rfl
    refine⟨o, ?_,fun t xs fix d=>hz o ZmO t xs fix d⟩;rw[key l _ hm];simp[upd]
   ·exact absurd ⟨o,c⟩ hm
theorem Zgs (B:T.Inv) {k0:Nat} {c:List (TV U)} (r:∀d∈c,d.inv T.objs) {e:Zi U} (h:e.val.fulls=[]) (l:∀id o,(id,o)∈e.wr->∃cs,o= .box cs/\∀d∈cs,d∈Zcz T.ep i k0 c\/d.inv T.objs)
  (g:∀j o,(j,o)∈e.new->(∃cs,o= .box cs/\∀d∈cs,d∈Zcz T.ep i k0 c\/d.inv T.objs)\/(j,o)∈ZF k0 c) (p:∀j o,(j,o)∈ZF k0 c->(j,o)∈e.new) (v:∀j o,(j,o)∈e.new->∀o',(j,o')∈ZF k0 c->∃t,o= .arr t [] false):ZK T i e:=by
 have hw:∀id o,(id,o)∈e.wr->ZdM (T.objs id) o:=fun id o b t xs fix n=>by obtain⟨cs,rfl,_⟩:=l id o b;simp at n
 have m:fresh T i e=true->∀d,d∈Zcz T.ep i k0 c\/d.inv T.objs->d.inv (lkA T i e):=fun k d a=>by
  rcases a with a |a
  ·rcases Zdq _ _ _ _ _ a with a |⟨j,t,rfl,b⟩
   ·exact TV.inv_old k hw (r d a)
   ·intro q f;simp only[TV.fulls,ZmQ]at f;subst f;refine Zf8 _ _ _ ⟨.arr t [] false,Znk.2 ⟨_,p _ _ b,rfl⟩⟩ fun o s z xs fix n=> ?_
    obtain⟨x,y,f⟩:=Znk.1 s;simp only[Zm0,true_and]at f;obtain⟨rfl,rfl⟩:=f;obtain⟨A,w⟩:=v _ _ y _ b;rw[w]at n;cases n;rfl
  ·exact TV.inv_old k hw a
 refine⟨hw,fun _=>Zg h,fun k o s=> ?_⟩;rcases s with ⟨j,b⟩ |⟨id,b⟩
 ·rcases g j o b with ⟨cs,rfl,u⟩ |b
  ·exact fun d a=>m k d (u d a)
  ·obtain⟨_,t,rfl⟩:=Z7 _ _ _ _ b;trivial
 ·obtain⟨cs,rfl,u⟩:=l id o b;exact fun d a=>m k d (u d a)
theorem Zh2 (g:T.Inv) {e:List (TV U)} (b:∀d∈e,d.inv T.objs):ZK T i (Ze0 T i e):=by
 refine Zgs (k0:=1) g b rfl (by simp[Ze0]) (fun j o a=> ?_) (fun j o a=>Zni _ a) (fun j o a o' c=> ?_)
 ·rcases ZmN.1 a with a |a
  ·simp only[Zm0]at a;obtain⟨rfl,rfl⟩:=a;exact .inl ⟨_,rfl,fun d f=> .inl f⟩
  ·exact .inr a
 ·rcases ZmN.1 a with a |a
  ·simp only[Zm0]at a;have:=(Z7 _ _ _ _ c).1;omega
  ·exact(Z7 _ _ _ _ a).2
theorem ZeZ (T:TS U) (i:Nat) (a:List (TV U)):(Ze0 T i a).enc []={val:= .ptr (T.ep,i,0) 0 0,new:=(0,.box (ZeA T.ep i 1 (TV.encs a)))::ZZ 1 (TV.encs a)}:=by simp only[Ze0,Zi.enc,TV.enc,ZmL,ZaP,ZJ,Z0,ZbT,Zbu,Za7,Zdr,Zbg,ZnB]
theorem Zjq (b:TOk X) (f:T.Inv) {t:Nat} (h:Zg4 X T i t k=some r):Snd X T i (.alloc t) ty k r:=by unfold Zg4 at h;split at h;rotate_left;simp at h;rename_i e a;refine⟨_,[], ?_,by simp,Zh2 f (fun d c=>Zg (b.inv t e a d c)),h⟩;rw[ZeZ];simp only[Zd,Zw a,<-b.zero t e a]
theorem Zaj (a:List (TV U)):(TV.encs a).length=a.length:=by rw[Zac,Znx]
theorem Zly (j:UOk U) (g:TOk X) (c:T.Inv) {t:Nat} {x:Operand} (h:ZlK X T i t x k=some r):Snd X T i (.box t x) ty k r:=by unfold ZlK at h;split at h;rotate_left;simp at h;rename_i e d f a;split at h;rotate_left;simp at h;rename_i b;refine⟨_,[], ?_,by simp,Zh2 c (ZdP (ZE c a)),h⟩;rw[ZeZ];simp only[Zd,Zw f,Zb g a,<-Zd7 j,Zaj,b.1,Zfp b.2,and_self,if_true]
theorem ZcB {b β:Type} (f:b->β) (xs a:List b) (j:Nat):(ZP xs j a).map f=ZP (xs.map f) j (a.map f):=by simp only[ZP,Zny,ZnC,Znz,Znx]
theorem Zd2 (xs a:List (TV U)) (j:Nat):TV.encs (ZP xs j a)=ZP (TV.encs xs) j (TV.encs a):=by simp only[Zac,ZcB]
theorem ZjT (xs:List (TV U)) (n:Nat):TV.encs (xs.take n)=(TV.encs xs).take n:=by simp only[Zac,ZnC]
theorem Zbt (xs:List (TV U)) (n:Nat):TV.encs (xs.drop n)=(TV.encs xs).drop n:=by simp only[Zac,Znz]
theorem ZeC {c:Type} {xs b:List c} {j:Nat} {a:c} (h:a∈ZP xs j b):a∈xs\/a∈b:=by
 simp only[ZP,ZmM]at h;rcases h with (h |h) |h
 ·exact .inl (List.mem_of_mem_take h)
 ·exact .inr h
 ·exact .inl (ZnE h)
theorem ZdX (m:UOk U) (n:TOk X) (o:T.Inv) {e:TT U}:∀(a:List (Nat×Operand)) (cs b:List (TV U)),(∀c∈cs,c.inv T.objs)->ZdY X T.slots e a cs=some b->
  ZbS X.E T.enc.slots e.ti a (TV.encs cs)=some (TV.encs b)/\∀d∈b,d.inv T.objs
 | [],cs,b,hi,h=>by simp only[ZdY,ZmZ]at h;subst h;exact⟨rfl,hi⟩
 |(j,x)::r,cs,b,hi,h=>by simp only[ZdY]at h;split at h;rotate_left;simp at h;rename_i p t q;split at h;rotate_left;simp at h;rename_i s d i l;split at h;rotate_left;simp at h;rename_i f;have:=ZdX m n o r _ b (fun c k=>by rcases ZeC k with g |g;(·exact hi c g);exact ZdP (ZE o l) c g) h;refine⟨?_,this.2⟩;rw[Zd2]at this;simp only[ZbS,q,Zw i,Zb n l,<-Zd7 m,Zaj,f.1,Zfp f.2.2,true_and,and_true];rw[if_pos (by rw[<-f.1];exact f.2.1)];exact this.1
theorem Zjp (g:UOk U) (d:TOk X) (n:T.Inv) {t:Nat} {a:Array (Nat×Operand)} (h:Zg3 X T t a.toList k=some r):Snd X T i (.build t a) ty k r:=by unfold Zg3 at h;split at h;rotate_left;simp at h;rename_i e b;split at h;rotate_left;simp at h;rename_i j;split at h;rotate_left;simp at h;rename_i cs f;obtain⟨q1,l⟩:=ZdX g d n _ _ _ (fun c m=>Zg (d.inv t e b c m)) f;refine⟨_,[], ?_,by simp,ZK.pure (Zgo l),h⟩;rw[d.zero t e b]at q1;simp only[Zd,Zw b,d.agg t e b,j,if_true,q1,Zi.enc,ZeL g,ZnB]
theorem ZN {l:Lf U.car} {t:Ty} {x:El U.car t} (h:l.as t=some x):l=⟨t,x⟩:=by unfold Lf.as at h;split at h;rotate_left;simp at h;rename_i a;obtain⟨b,y⟩:=l;dsimp only at a;subst a;cases h;rfl
theorem ZbU (a:UOk U) (l:Lf U.car):(U.encL l).cells.length=U.tsize l.t:=by simp only[Zc.encL,Zaw a,Znx,ZbI a]
theorem ZbR (i:UOk U) (o:TOk X) (q:T.Inv) {t n:Nat} {e:TT U}:∀(b:List (Nat×Operand)) (es a:List (El U.car e.ty)),es.length=n->ZaU X T t e n b es=some a->
  ZD X.E T.enc.slots T.enc.objs t e.ti b (es.map (U.encE e.ty))=some (a.map (U.encE e.ty))/\a.length=n
 | [],es,a,hl,h=>by simp only[ZaU,ZmZ]at h;subst h;exact⟨rfl,hl⟩
 |(j,x)::r,es,a,hl,h=>by
  simp only[ZaU]at h;split at h;rotate_left;simp at h;rename_i d k;split at h;rotate_left;simp at h;rename_i l f;split at h;rotate_left;simp at h;rename_i y s;split at h;rotate_left;simp at h;rename_i p;have:=ZbR i o q r _ a (by simpa using hl) h;refine⟨?_,this.2⟩;have g:=ZN s;have m:=ZeS i (ZE q k) f 7;have c:=ZbU i l;rw[g]at m c;simp only[ZD,Zb o k,depth,m,Zc.encL]at c|-
  rw[if_pos ⟨by rw[c];exact p.1,by rw[Znx,hl];exact p.2⟩,<-List.map_set];exact this.1
theorem Za8 {t:Ty} {xs:List (El U.car t)} {n:Nat} {fix:Bool} {frz:List Id} {wr:List (Id×TO U)} (g:xs.length=n) (a:∀id o,(id,o)∈wr->o= .gone):
  ZK T i {val:= .full (T.ep,i,0) n,new:=[(0,.arr t xs fix)],wr:=wr,frz:=frz}:=by
 refine⟨fun id o h k e b c=> ?_,fun _ q f=> ?_,fun _ o l=> ?_⟩
 ·rw[a id o h]at c;simp at c
 ·simp only[TV.fulls,ZmQ]at f;subst f;refine⟨.arr t xs fix, ?_,fun k e b c=> ?_⟩
  ·simp only[lkA,ZmL,ZnB,TS.objL,upd,if_true]
  ·cases c;exact g
 ·rcases l with ⟨j,d⟩ |⟨id,d⟩
  ·simp only[ZmQ,Zm0]at d;obtain⟨_,rfl⟩:=d;trivial
  ·rw[a id o d];trivial
theorem Zen (B:UOk U) (s:TOk X) (y:T.Inv) {t n:Nat} {f:Array (Nat×Operand)} (h:Zbn X T i t n f.toList k=some r):Snd X T i (.buildSlice t n f) ty k r:=by unfold Zbn at h;split at h;rotate_left;simp at h;rename_i w j;split at h;rotate_left;simp at h;rename_i u p;split at h;rotate_left;simp at h;rename_i e q;split at h;rotate_left;simp at h;rename_i A m;split at h;rotate_left;simp at h;rename_i z v;split at h;rotate_left;simp at h;rename_i es l;split at h;rotate_left;simp at h;rename_i o;obtain⟨q1,x⟩:=ZbR B s y _ _ _ (by simp) l;refine⟨_,[], ?_,by simp,Za8 x (by simp),h⟩;have g:=s.zl u e A q m;rw[ZN v]at g;rw[List.map_replicate,show U.encE e.ty z=e.ti.zeroP from g]at q1;have:=Zw j;obtain⟨⟨d,a,b,c⟩,C,b',D,E⟩:=w;dsimp only at p;subst p;simp only[Zd,this,Zw q,q1,o.1,o.2.1,and_self,if_true,Zi.enc,TV.enc,ZmL,ZnB,ZaP,ZJ,Z0,ZbT,Zbu,Za7,o.2.2]
theorem Zcf (i:UOk U) (g:TOk X) {t:Nat} {e:TT U} (f:X.get t=some e) {cs:List (TV U)} {d:TV U} (h:Zdb e cs=some d):Zft e.ti (TV.encs cs)=some d.enc:=by
 unfold Zdb at h;unfold Zft;rw[g.agg t e f];split at h
 ·rename_i a;rw[if_pos a];split at h;rotate_left;simp at h;rename_i b;cases h;rw[if_pos (by rw[Zaj];exact b),ZeL i,ZjT]
 ·rename_i a;rw[if_neg a];cases cs with
  |nil=>simp at h
  |cons c r=>simp only[List.head?_cons,ZmZ]at h;subst h;rfl
theorem ZaF {lk:Id->Option (TO U)} {e:TT U} {cs:List (TV U)} {d:TV U} (a:∀c∈cs,c.inv lk) (h:Zdb e cs=some d):d.inv lk:=by
 unfold Zdb at h;split at h
 ·split at h;rotate_left;simp at h;cases h;exact Zgo fun c b=>a c (List.mem_of_mem_take b)
 ·exact a d (List.mem_of_mem_head? h)
theorem ZjJ (ti:TI) (a:List P):Zft ti (a.map .p)=(ZdK ti a).map .p:=by
 unfold Zft ZdK;split
 ·rw[Znx];split
  ·rw[<-ZnC,Zce];rfl
  ·rfl
 ·cases a<;>rfl
theorem Za3 (f:UOk U) (b:TOk X) {t:Nat} {e:TT U} (c:X.get t=some e) {a:List (Lf U.car)} {d:TV U} (h:Zdb e (a.map lv)=some d):∃x,ZdK e.ti (a.map U.encL)=some x/\d.enc= .p x:=by
 have:=Zcf f b c h;rw[Zbs,ZjJ]at this;cases hq:ZdK e.ti (a.map U.encL)with
 |none=>rw[hq]at this;simp at this
 |some x=>rw[hq]at this;simp only[ZnG,ZmZ]at this;exact⟨x,rfl,this.symm⟩
theorem Zfw {t:Ty} {xs:List (El U.car t)} {n:Nat} {x:El U.car t} (h:xs[n]? =some x):(xs.map (U.encE t)).getD n default=U.encE t x:=by rw[Znt,ZmJ,h];rfl
theorem Zku (p:UOk U) (f:TOk X) (z:T.Inv) {t:Nat} {x:Operand} (h:ZjC X T t x k=some r):Snd X T i (.load t x) ty k r:=by
 unfold ZjC at h;split at h
 ·rename_i e cs b m;split at h;rotate_left;simp at h;rename_i d a;obtain⟨v,n,q⟩:=Za3 p f b a;refine⟨_,[], ?_,by simp,ZK.pure (ZaF (fun c g=> ?_) a),h⟩
  ·simp only[Zd,Zw b,Zb f m,TV.enc,n,Zi.enc,q,ZnB]
  ·obtain⟨l,_,rfl⟩:=Znk.1 g;exact Zai _ _
 ·rename_i e id i' j b m;split at h
  ·rename_i cs o;split at h;rotate_left;simp at h;rename_i w;subst w;split at h;rotate_left;simp at h;rename_i d a;have:=Zcf p f b a;rw[Zbt]at this;refine⟨_,[], ?_,by simp,ZK.pure (ZaF (fun c g=>z.objs id _ o c (ZnE g)) a),h⟩;simp only[Zd,Zw b,Zb f m,TV.enc,Zf o,ZaP,ZJ,Z0,ZbT,Zbu,Za7,if_true,this,Zi.enc,ZnB]
  ·rename_i u xs fix o;obtain⟨y,s,h⟩:=bind_some h;split at h;rotate_left;simp at h;rename_i d a;obtain⟨v,n,q⟩:=Za3 p f b a;refine⟨_,[], ?_,by simp,ZK.pure (ZaF (fun c g=> ?_) a),h⟩
   ·rw[Znz,<-Zaw p]at n;simp only[Zd,Zw b,Zb f m,TV.enc,Zf o,ZaP,ZJ,Z0,ZbT,Zbu,Za7,Zfw s,n,Zi.enc,q,ZnB]
   ·obtain⟨l,_,rfl⟩:=Znk.1 g;exact Zai _ _
  ·simp at h
 ·simp at h
theorem Zjy {e x:P} {sz:Nat} (h:x.cells.length=sz):e.put sz 0 x=x:=by simp[P.put,h]
theorem Zjj (m:UOk U) (w:TOk X) (A:T.Inv) {t:Nat} {a x:Operand} (h:ZgX X T i t a x k=some r):Snd X T i (.store t a x) ty k r:=by
 unfold ZgX at h;split at h;rotate_left;simp at h;rename_i e id i' j d L J v;split at h
 ·rename_i cs s;split at h;rotate_left;simp at h;rename_i g;obtain⟨rfl,B,G,K⟩:=g;refine⟨_,[], ?_,by simp, ?_,h⟩
  ·simp only[Zd,Zw L,Zb w J,Zb w v,TV.enc,Zf s,ZaP,ZJ,Z0,ZbT,Zbu,Za7,<-Zd7 m,Zaj,B,Zfp K,true_and,and_true,Zi.enc,Zbg,ZmL,ZnB,Zd2,Zdr];rw[if_pos (by rw[<-B];exact G)]
  ·refine Zgs (k0:=0) A (ZdP (ZE A v)) rfl (fun E o b=> ?_) (fun W o b=> .inr b) (fun _ _ b=>b) (fun W o b _ _=>(Z7 _ _ _ _ b).2);simp only[ZmQ,Zm0]at b;obtain⟨rfl,rfl⟩:=b;refine⟨_,rfl,fun Q I=> ?_⟩;rcases ZeC I with b |b
   ·exact .inr (A.objs _ _ s Q b)
   ·exact .inl b
 ·rename_i u xs fix s;split at h;rotate_left;simp at h;rename_i l N;split at h;rotate_left;simp at h;rename_i g;have S:=ZeS m (ZE A v) N 7;have p:=ZbU m l;have f:∀y:El U.car u,U.encE u y=((xs.map (U.encE u)).getD i' default).put (U.tsize u) j (U.encL l)->ZK T i {val:=TV.undef,wr:=[(id,.arr u (xs.set i' y) fix)],frz:=d.enc.ids T.enc.objs depth}:=fun y _=>
   ⟨fun E o b Y R M F=>by
    simp only[ZmQ,Zm0]at b;obtain⟨rfl,rfl⟩:=b;cases F;exact⟨_,_,_,s,by simp⟩,fun _=>Zg rfl,fun _ o b=>by
    rcases b with ⟨_,b⟩ |⟨_,b⟩
    ·simp at b
    ·simp only[ZmQ,Zm0]at b;obtain⟨_,rfl⟩:=b;trivial⟩
  have c:∀y:El U.car u,U.encE u y=((xs.map (U.encE u)).getD i' default).put (U.tsize u) j (U.encL l)->Zd X.E T.ep i (.store t a x) ty T.enc.slots T.enc.objs=some (({val:=TV.undef,wr:=[(id,.arr u (xs.set i' y) fix)],frz:=d.enc.ids T.enc.objs depth}:Zi U).enc []):=fun y q=>by simp only[Zd,Zw L,Zb w J,Zb w v,TV.enc,Zf s,ZaP,ZJ,Z0,ZbT,Zbu,Za7,depth,S,p,g.1,g.2.1,g.2.2,and_self,if_true,Zi.enc,ZnB,ZmL,List.map_set,q]
  split at h
  ·rename_i hw;obtain⟨rfl,O⟩:=hw;split at h;rotate_left;simp at h;rename_i y q;have H:=ZN q;have:U.encE u y=((xs.map (U.encE u)).getD i' default).put (U.tsize u) 0 (U.encL l):=by rw[Zjy (by rw[p,O]),H];rfl
   exact⟨_,[],c y this,by simp,f y this,h⟩
  ·rename_i hw;obtain⟨z,V,h⟩:=bind_some h;split at h;rotate_left;simp at h;rename_i y q;have:U.encE u y=((xs.map (U.encE u)).getD i' default).put (U.tsize u) j (U.encL l):=by
    rw[Zfw V];have D:=ZaE m q;have C:=Zaw m u y;rw[D,ZcB,<-Zaw m,<-Zaw m]at C;unfold P.put;rw[if_neg (by rw[p];exact hw)];cases u with
    |st n=>
     simp only[Zc.encE,m.enc_cells,P.cells]at C|-
     rw[C];rfl
    |_=>
     exfalso;have:U.tsize l.t=1/\j=0:=by have B:=g.1;have G:=g.2.1;have K:=g.2.2;simp only[Zc.tsize]at G;constructor<;>omega
     exact hw ⟨this.2,this.1⟩
   exact⟨_,[],c y this,by simp,f y this,h⟩
 ·simp at h
theorem ZfU (d:TOk X) (g:T.Inv) {x:Operand} (h:ZcH X T x k=some r):Snd X T i (.nilCheck x) ty k r:=by
 unfold ZcH at h;split at h
 ·rename_i cs c;exact⟨_,[],by simp only[Zd,Zb d c,TV.enc,Zi.enc,ZnB],by simp,ZK.pure (Zg rfl),h⟩
 ·rename_i id a b c;exact⟨_,[],by simp only[Zd,Zb d c,TV.enc,Zi.enc,ZnB],by simp,ZK.pure (Zg rfl),h⟩
 ·rename_i f a b c;refine⟨_,[], ?_,by simp,ZK.pure (ZE g c),h⟩;simp only[Zd,Zb d c,TV.enc,Zi.enc,ZnB];rcases ZjQ f (TV.encs a) (TV.encs b)with ⟨u,v,e⟩ |e<;>rw[e]
 ·simp at h
end
end Eng
namespace Eng
open Go
section
variable {U:Zc} {R:Type} {X:ZG U} {T:TS U} {i ty:Nat} {k:Zi U->Option R} {r:R}
theorem Zv {b:Bool} (h:b=true):∀q∈[b],q=true:=fun q a=>by rw[ZmQ]at a;rw[a];exact h
theorem Zcm {p:P} {d:TV U} (h:Zl7 p=some d):d.enc= .p p/\d.fulls=[]:=by unfold Zl7 at h;split at h<;>first |(cases h;exact⟨rfl,rfl⟩) |simp at h
theorem ZdN {d:TV U} {p:P} (h:ZiA d=some p):d.enc= .p p/\(∀cs,p≠ .agg cs):=by unfold ZiA at h;split at h<;>first |(cases h;exact⟨rfl,by simp⟩) |simp at h
theorem Zid (c:UOk U) {d:TV U} {b:List P} (h:aggP d=some b):d.enc= .p (.agg b):=by
 unfold aggP at h;split at h
 ·cases h;simp only[TV.enc,Zc.encE,c.enc_cells]
 ·split at h;rotate_left;simp at h;rename_i e a;cases h;rw[Zcw a,TV.enc,Zbs,Zce]
 ·simp at h
theorem Zlz (N:UOk U) (f:TOk X) (hT:T.Inv) {b:BinOp} {t V:Nat} {x y:Operand} (h:ZlL X T b t x y k=some r):Snd X T i (.binOp b t x y V) ty k r:=by
 unfold ZlL at h;split at h
 ·rename_i o;unfold opNil at h;split at h
  ·rename_i e z l n;have K:∀td,td=TD.func->Zc3 td (.const .nilFunc) (.p (ZjU z))=some (.p (.bool (Option.isNone z))):=fun td a=>by subst a;cases z<;>rfl
   split at h
   ·rename_i a;refine⟨_,[], ?_,by simp,ZK.pure (Zai _ _),h⟩;simp only[Zd,o,if_true,Zs l,Zb f n,TV.enc,Zc.encE,K _ a,Zi.enc,ZnB]
   ·rename_i a;refine⟨_,[], ?_,by simp,ZK.pure (Zai _ _),h⟩;simp only[Zd,o,if_true,Zs l,Zb f n,TV.enc,Zc.encE,K _ a,D.notb,Zi.enc,ZnB]
   ·simp at h
  ·rename_i e d A l n;split at h;rotate_left;simp at h;rename_i z g;split at h
   ·refine⟨_,[], ?_,by simp,ZK.pure (Zai _ _),h⟩;simp only[Zd,o,if_true,Zs l,Zb f n,g,Zi.enc,TV.enc,Zc.encE,ZnB]
   ·refine⟨_,[], ?_,by simp,ZK.pure (Zai _ _),h⟩;simp only[Zd,o,if_true,Zs l,Zb f n,g,D.notb,Zi.enc,TV.enc,Zc.encE,ZnB]
   ·simp at h
  ·simp at h
 ·rename_i o;have m:Operand.isNil y=false:=by simpa using o
  split at h
  ·rename_i u v C E;split at h;rotate_left;simp at h;rename_i e z l g;split at h;rotate_left;simp at h;rename_i d n H;obtain⟨q1,w⟩:=Zcm H;refine⟨_,[], ?_,by simp,ZK.pure (Zg w),h⟩;simp only[Zd,m,ZmD,if_false,Zb f C,Zb f E,TV.enc,Zc.encE,Zs l,n,g,Zi.enc,q1,ZnB]
  ·rename_i d d' A C E;split at h
   ·rename_i us vs I G;split at h;rotate_left;simp at h;rename_i z g;split at h;rotate_left;simp at h;rename_i Y j;obtain⟨q1,w⟩:=Zcm j;refine⟨_,[], ?_,by simp,ZK.pure (Zg w),h⟩;simp only[Zd,m,ZmD,if_false,Zb f C,Zb f E,Zid N I,Zid N G,g,Zi.enc,q1,ZnB]
   ·split at h;rotate_left;simp at h;rename_i p q B s;split at h;rotate_left;simp at h;rename_i z c g;split at h;rotate_left;simp at h;rename_i Y j;obtain⟨q1,w⟩:=Zcm j;obtain⟨W,h⟩:=Zd5 h;refine⟨_,c, ?_,W,ZK.pure (Zg w),h⟩;obtain⟨Q,S⟩:=ZdN B;obtain⟨P,e4⟩:=ZdN s;simp only[Zd,m,ZmD,if_false,Zb f C,Zb f E,Q,P];split
    ·rename_i M L F J;cases F;cases J;exfalso;unfold ZiA at B s;split at B<;>simp at B;split at s<;>simp at s;subst B s;exact A _ _ rfl rfl
    ·rename_i M L F J;cases F;exact absurd rfl (S _)
    ·rename_i M L F J O Z;cases O;cases Z;simp only[g,Zi.enc,q1,ZnB]
    ·rename_i h7 h8 R;exact(R p q rfl rfl).elim
  ·simp at h
theorem snd_un (g:TOk X) (n:T.Inv) {u:UnOp} {t:Nat} {x:Operand} (h:opUn X T u x k=some r):Snd X T i (.unOp u t x) ty k r:=by unfold opUn at h;split at h;rotate_left;simp at h;rename_i d b;split at h;rotate_left;simp at h;rename_i v f;split at h;rotate_left;simp at h;rename_i z c e;split at h;rotate_left;simp at h;rename_i m a;obtain⟨q1,l⟩:=Zcm a;obtain⟨j,h⟩:=Zd5 h;refine⟨_,c, ?_,j,ZK.pure (Zg l),h⟩;simp only[Zd,Zb g b,(ZdN f).1,e,Zi.enc,q1,ZnB]
theorem ZgR (m:TOk X) (A:T.Inv) {s t:Nat} {x:Operand} (h:ZdC X T i s t x k=some r):Snd X T i (.convert s t x) ty k r:=by
 unfold ZdC at h;split at h;rotate_left;simp at h;rename_i es D d a b j;split at h
 ·rename_i k1 E B n c e;refine⟨_,[], ?_,by simp,ZK.pure (Zai _ _),h⟩;simp only[Zd,Zar,Zs a,Zs b,Zb m j,c,e,TV.enc,Zc.encE,Zi.enc,ZnB]
 ·rename_i g c e;refine⟨_,[], ?_,by simp,ZK.pure (Zai _ _),h⟩;simp only[Zd,Zar,Zs a,Zs b,Zb m j,c,e,TV.enc,Zc.encE,Zi.enc,ZnB]
 ·rename_i u g c e;split at h;rotate_left;simp at h;rename_i y f;split at h;rotate_left;simp at h;rename_i o;obtain⟨z,h⟩:=Zo h;refine⟨_,[decide (g.length<=281474976710656)], ?_,Zv z,Za8 (by simp) (by simp),h⟩;simp only[Zd,Zar,Zs a,Zs b,Zs f,Zb m j,c,e,o,TV.enc,Zc.encE,Zi.enc,ZnB,ZmL,ZJ,Zc.tsize,ZaH,ZnA];rfl
 ·rename_i u C c e;split at h;rotate_left;simp at h;rename_i y l f w;split at h;rotate_left;simp at h;rename_i xs o q;have p:=ZN q;refine⟨_,[true], ?_,by simp,ZK.pure (Zai _ _),h⟩;have v:=ZcK (ZE A j) w 1;rw[p]at v;simp only[Zd,Zar,Zs a,Zs b,Zs f,Zb m j,c,e,o,v,Zc.encL,Zc.encE,Zi.enc,TV.enc,ZnB,ZnA];have:(List.map (fun x=>P.int IntKind.u8 x) xs).all P.isU8=true:=by simp[P.isU8]
  rw[this];rfl
 ·simp at h
theorem Zhd (b:TOk X):∀{xs:List Operand} {a:List (TV U)},Zlk X T.slots xs=some a->xs.map (ev X.E T.enc.slots 0)=TV.encs a
 | [],a,h=>by simp[Zlk,Zh]at h;subst h;rfl
 |x::xs,a,h=>by simp only[Zlk,Zh]at h;split at h;rotate_left;simp at h;rename_i d f e c;cases h;simp only[ZmL,TV.encs,Zb b e,Zhd b c]
theorem Zfz (e:T.Inv):∀{xs:List Operand} {b:List (TV U)},Zlk X T.slots xs=some b->∀d∈b,d.inv T.objs
 | [],b,h=>by simp[Zlk,Zh]at h;subst h;simp
 |x::xs,b,h=>by
  simp only[Zlk,Zh]at h;split at h;rotate_left;simp at h;rename_i d i g f;cases h;intro a c;rcases ZmN.1 c with rfl |c
  ·exact ZE e g
  ·exact Zfz e f a c
theorem ZfV (l:TOk X) (m:T.Inv) {f:Nat} {a b:Array Operand} (h:ZcI X T f a.toList b.toList k=some r):Snd X T i (.makeFunc (.func f) a b) ty k r:=by
 unfold ZcI at h;split at h;rotate_left;simp at h;rename_i n bs g j;refine⟨_,[], ?_,by simp,ZK.pure ?_,h⟩
 ·simp only[Zd,Zhd l g,Zhd l j,Zi.enc,TV.enc,ZnB];rfl
 ·intro q c;simp only[TV.fulls,ZmM]at c;rcases c with c |c
  ·obtain⟨d,e,c⟩:=Zr.1 c;exact Zfz m g d e q c
  ·obtain⟨d,e,c⟩:=Zr.1 c;exact Zfz m j d e q c
theorem Zdm {d:TV U} {o:TO U} {frz:List Id} (b:d.fulls=[]) (c:∀lk,o.inv lk):ZK T i {val:=d,new:=[(0,o)],frz:=frz}:=
 ⟨by simp,fun _=>Zg b,fun _ o' a=>by
  rcases a with ⟨j,a⟩ |⟨id,a⟩
  ·simp only[ZmQ,Zm0]at a;obtain⟨_,rfl⟩:=a;exact c _
  ·simp at a⟩
theorem Zb5 {d:TV U} {id:Id} {o:TO U} {frz:List Id} (b:d.fulls=[]) (e:ZdM (T.objs id) o) (f:∀lk,o.inv lk):ZK T i {val:=d,wr:=[(id,o)],frz:=frz}:=
 ⟨fun c o' a=>by simp only[ZmQ,Zm0]at a;obtain⟨rfl,rfl⟩:=a;exact e,fun _=>Zg b,fun _ o' a=>by
  rcases a with ⟨j,a⟩ |⟨id,a⟩
  ·simp at a
  ·simp only[ZmQ,Zm0]at a;obtain⟨_,rfl⟩:=a;exact f _⟩
theorem ZgP (d:TOk X) (g:T.Inv) {t:Nat} (h:ZdA X T i t k=some r):Snd X T i (.makeMap t none) ty k r:=by unfold ZdA at h;split at h;rotate_left;simp at h;rename_i e b;split at h;rotate_left;simp at h;rename_i f c a;refine⟨_,[], ?_,by simp,Zdm rfl (fun _=>by trivial),h⟩;simp only[Zd,d.key t e f c b a,Zi.enc,TV.enc,ZmL,ZnB,Z0,TS.enc]
theorem Zfe (n:TOk X) (y:T.Inv) {t:Nat} {l c:Operand} (h:ZbY X T i t l c k=some r):Snd X T i (.makeSlice t l c) ty k r:=by
 unfold ZbY at h;split at h;rotate_left;simp at h;rename_i e k1 a x b f p v;split at h;rotate_left;simp at h;rename_i w m;split at h;rotate_left;simp at h;rename_i z o;split at h;rotate_left;simp at h;rename_i s;obtain⟨d,h⟩:=Zo h;refine⟨_,[_], ?_,Zv d,Za8 (by simp) (by simp),h⟩;have j:∃u,X.get u=some e:=by unfold ZG.elem at f;split at f;rotate_left;simp at f;split at f;rotate_left;simp at f;exact⟨_,f⟩
 obtain⟨u,q⟩:=j;have g:=n.zl u e w q m;rw[ZN o]at g;simp only[Zd,ZaG f,Zb n p,Zb n v,TV.enc,Zc.encE,Zi.enc,ZmL,ZnB,ZJ,List.map_replicate,s];rw[show U.encE e.ty z=e.ti.zeroP from g]
theorem ZbG (c:TOk X) {x:Option Operand} {a:Option Int} (h:intT X T.slots x=some a):ZbO X.E T.enc.slots x=some a:=by
 unfold intT at h;split at h
 ·cases h;rfl
 ·rename_i e;split at h;rotate_left;simp at h;rename_i d n b;cases h;simp only[ZbO,Zb c b,TV.enc,Zc.encE]
theorem Zhk {a β:Type} (f:a->β) (xs:List a) (lo hi:Option Int):(cut xs lo hi).map f=cut (xs.map f) lo hi:=by unfold cut;split<;>simp
theorem Zj2 {b:Type} (xs:List b) (lo hi:Option Int) (n:Nat) (a:n=xs.length):cut xs lo hi=(xs.take (hi.getD n).toNat).drop (lo.getD 0).toNat:=by subst a;unfold cut;split<;>simp
theorem Za5 (e:T.Inv) {t:Nat} {x:Operand} {id:Id} {n:Nat} (b:evT X T.slots t x=some (.full id n)) {u:Ty} {xs:List (El U.car u)} {fix:Bool} (d:T.objs id=some (.arr u xs fix)):n=xs.length:=by obtain⟨o,a,c⟩:=ZE e b (id,n) (by simp[TV.fulls]);dsimp only at a;rw[d,ZmZ]at a;exact(c u xs fix a.symm).symm
theorem ZeD (w:T.Inv) {sz:Option Nat} {d:TV U} {lo hi mx:Option Int} (j:d.inv T.objs) (h:ZhD T sz d lo hi mx k=some r):
  ∃e cs,ZaL T.enc.objs sz d.enc lo hi mx=some (e.enc cs)/\(∀q∈cs,q=true)/\ZK T i e/\k e=some r:=by
 unfold ZhD at h;split at h
 ·rename_i s;split at h;rotate_left;simp at h;obtain⟨a,h⟩:=Zo h;refine⟨_,[_], ?_,Zv a,ZK.pure (Zai _ _),h⟩;simp only[ZaL,TV.enc,Zc.encE,Zi.enc,Zca,Zj2 s lo hi s.length rfl,ZnB]
 ·rename_i sz t xs;split at h;rotate_left;simp at h;rename_i b;split at h
  ·obtain⟨a,h⟩:=Zo h;refine⟨_,[_], ?_,Zv a,ZK.pure (Zai _ _),h⟩;simp only[ZaL,TV.enc,Zc.encE,b,if_true,Znx,Zi.enc,Zca,Zhk,Zj2 (xs.map (U.encE t)) lo hi xs.length (by simp),ZnB]
  ·rename_i m p;obtain⟨a,h⟩:=Zo h;refine⟨_,[_], ?_,Zv a,ZK.pure (Zg rfl),h⟩;simp only[ZaL,TV.enc,Zc.encE,b,if_true,Znx,Zi.enc,Zhk,Zj2 (xs.map (U.encE t)) lo (some p) xs.length (by simp),Option.getD_some,ZnB]
  ·simp at h
 ·rename_i sz id n;split at h;rotate_left;simp at h;rename_i t xs fix f;obtain⟨o,g,u⟩:=j (id,n) (by simp[TV.fulls]);dsimp only at g;have c:xs.length=n:=u t xs fix (by rw[f,ZmZ]at g;exact g.symm);split at h;rotate_left;simp at h;rename_i b;split at h
  ·obtain⟨a,h⟩:=Zo h;split at h
   ·refine⟨_,[_], ?_,Zv a,ZK.pure j,h⟩;simp only[ZaL,TV.enc,Zf f,ZJ,b,if_true,Zi.enc,Zca,Option.getD_none,ZnB,c];simp
   ·refine⟨_,[_], ?_,Zv a,ZK.pure (Zg rfl),h⟩;simp only[ZaL,TV.enc,Zf f,ZJ,b,if_true,Zi.enc,Zca,ZnB,c,Znp]
  ·rename_i m;split at h;rotate_left;simp at h;rename_i p;obtain⟨a,h⟩:=Zo h;refine⟨_,[_], ?_,Zv a,ZK.pure (Zg rfl),h⟩;simp only[ZaL,TV.enc,Zf f,ZJ,b,if_true,Zi.enc,ZnB,c,Znp,Zhk];congr 2;unfold cut;cases lo with
   |none=>simp
   |some l=>simp[List.drop_take]
 ·rename_i sz id v len;split at h;rotate_left;simp at h;rename_i t xs fix f;split at h;rotate_left;simp at h;rename_i b;split at h;rotate_left;simp at h;obtain⟨a,h⟩:=Zo h;refine⟨_,[_], ?_,Zv a,ZK.pure (Zg rfl),h⟩;simp only[ZaL,TV.enc,Zf f,ZJ,b,if_true,Zi.enc,Zca,ZnB]
 ·rename_i sz t;split at h;rotate_left;simp at h;obtain⟨a,h⟩:=Zo h;refine⟨_,[_], ?_,Zv a,ZK.pure (Zg rfl),h⟩;simp only[ZaL,TV.enc,Zi.enc,ZnB]
 ·simp at h
theorem Zjk (f:TOk X) (l:T.Inv) {t:Nat} {x:Operand} {lo hi mx:Option Operand} (h:ZgY X T t x lo hi mx k=some r):Snd X T i (.slice t x lo hi mx) ty k r:=by
 unfold ZgY at h;split at h;rotate_left;simp at h;rename_i e d a b c y j v w z;split at h
 ·rename_i g;obtain⟨e',cs,o,n,p,s⟩:=ZeD (i:=i) l (ZE l j) h;refine⟨e',cs, ?_,n,p,s⟩;simp only[Zd,Zs y,g,ZbG f v,ZbG f w,ZbG f z,Zb f j,o]
 ·rename_i u m;split at h;rotate_left;simp at h;rename_i A q;obtain⟨e',cs,o,n,p,s⟩:=ZeD (i:=i) l (ZE l j) h;refine⟨e',cs, ?_,n,p,s⟩;simp only[Zd,Zs y,m,Zw q,ZbG f v,ZbG f w,ZbG f z,Zb f j,o]
 ·simp at h
theorem ZfO {t:Nat} {e:TT U} {fs:List (Nat×Nat)} (g:X.get t=some e) (f:e.ti.d= .struct fs):∃a b c,X.E.ty t=some ⟨.struct fs,a,b,c⟩:=by have:=Zw g;obtain⟨⟨d,a,b,c⟩,_,_,_,_⟩:=e;dsimp only at f;subst f;exact⟨a,b,c,this⟩
theorem Zfg (p:TOk X) (w:T.Inv) {t f:Nat} {x:Operand} (h:Zb0 X T t x f k=some r):Snd X T i (.fieldAddr t x f) ty k r:=by
 unfold Zb0 at h;split at h;rotate_left;simp at h;rename_i e d s m;split at h;rotate_left;simp at h;rename_i fs l;obtain⟨a,b,c,j⟩:=ZfO s l;split at h;rotate_left;simp at h;rename_i q v o;split at h;rotate_left;simp at h;rename_i u g;split at h
 ·simp at h
 ·rename_i n;split at h
  ·refine⟨_,[], ?_,by simp,ZK.pure (Zg rfl),h⟩;simp only[Zd,j,o,Zw g,n,if_false,Zb p m,TV.enc,Zi.enc,ZnB,Znz]
  ·refine⟨_,[], ?_,by simp,ZK.pure (Zg rfl),h⟩;simp only[Zd,j,o,Zw g,n,if_false,Zb p m,TV.enc,Zi.enc,ZnB]
  ·simp at h
theorem ZdF (a:List D):(∃b,a=b.map .p/\D.mkAgg a= .p (.agg b))\/D.mkAgg a= .agg a:=by
 unfold D.mkAgg;cases h:Zh D.pure? a with
 |none=>exact .inr rfl
 |some b=>exact .inl ⟨b,Zt h,rfl⟩
theorem Zjn (A:UOk U) (s:TOk X) (I:T.Inv) {t f:Nat} {x:Operand} (h:Zg1 X T t x f k=some r):Snd X T i (.field t x f) ty k r:=by
 unfold Zg1 at h;split at h;rotate_left;simp at h;rename_i e d F v;split at h;rotate_left;simp at h;rename_i fs D;obtain⟨a,b,c,o⟩:=ZfO F D;split at h;rotate_left;simp at h;rename_i w J C;split at h;rotate_left;simp at h;rename_i E m;split at h
 ·simp at h
 ·rename_i B;split at h
  ·rename_i n K;split at h;rotate_left;simp at h;rename_i y q;obtain⟨p,g,H⟩:=Za3 A s m q;refine⟨_,[], ?_,by simp,ZK.pure (ZaF (fun c z=> ?_) q),h⟩
   ·rw[Znz]at g;simp only[Zd,o,C,Zw m,B,if_false,Zb s v,TV.enc,Zc.encE,A.enc_cells,g,ZnG,Zi.enc,H,ZnB]
   ·obtain⟨l,_,rfl⟩:=Znk.1 z;exact Zai _ _
  ·rename_i cs;split at h;rotate_left;simp at h;rename_i y q;have g:=Zcf A s m q;refine⟨_,[], ?_,by simp,ZK.pure (ZaF (fun c z=>Zht (ZE I v) c (ZnE z)) q),h⟩;rw[Zbt]at g;have j:=Zb s v;rw[TV.enc]at j;rcases ZdF (TV.encs cs)with ⟨G,q1,u⟩ |u
   ·rw[u]at j;rw[q1,<-Znz,ZjJ]at g;cases hq:ZdK E.ti (G.drop w)with
    |none=>rw[hq]at g;simp at g
    |some p=>
     rw[hq]at g;simp only[ZnG,ZmZ]at g;simp only[Zd,o,C,Zw m,j,B,if_false,hq,ZnG,Zi.enc,ZnB,<-g]
   ·rw[u]at j;simp only[Zd,o,C,Zw m,j,B,if_false,g,ZnG,Zi.enc,ZnB]
  ·simp at h
end
end Eng
namespace Eng
open Go
section
variable {U:Zc} {R:Type} {X:ZG U} {T:TS U} {i ty:Nat} {k:Zi U->Option R} {r:R}
theorem ty_sl {t u:Nat} {e:TT U} (g:X.get t=some e) (f:e.ti.d= .sl u):∃a b c,X.E.ty t=some ⟨.sl u,a,b,c⟩:=by have:=Zw g;obtain⟨⟨d,a,b,c⟩,_,_,_,_⟩:=e;dsimp only at f;subst f;exact⟨a,b,c,this⟩
theorem ty_arr {t m u:Nat} {e:TT U} (g:X.get t=some e) (f:e.ti.d= .arr m u):∃a b c,X.E.ty t=some ⟨.arr m u,a,b,c⟩:=by have:=Zw g;obtain⟨⟨d,a,b,c⟩,_,_,_,_⟩:=e;dsimp only at f;subst f;exact⟨a,b,c,this⟩
theorem Zk6 {t a b:Nat} {e:TT U} (f:X.get t=some e) (c:e.ti.d= .map a b):∃x y z,X.E.ty t=some ⟨.map a b,x,y,z⟩:=by have:=Zw f;obtain⟨⟨d,x,y,z⟩,_,_,_,_⟩:=e;dsimp only at c;subst c;exact⟨x,y,z,this⟩
theorem as_eq {car:Nat->Type} {l:Lf car} {t:Ty} {x:El car t} (h:l.as t=some x):l=⟨t,x⟩:=by unfold Lf.as at h;split at h;rotate_left;simp at h;rename_i a;obtain⟨b,y⟩:=l;dsimp only at a;subst a;cases h;rfl
theorem ZfQ {cs:List (Lf U.car)}:∀(ts:List Ty) (n:Nat) (k:List (Lf U.car)->Option R) {r:R},tabK cs ts n k=some r->∃a,cs.drop n=a++cs.drop (n+a.length)/\k a=some r
 | [],n,k,r,h=>⟨[],by simp,h⟩
 |t::ts,n,k,r,h=>by simp only[tabK]at h;obtain⟨x,b,h⟩:=bind_some h;obtain⟨a,g,f⟩:=ZfQ ts (n+1) _ h;unfold tabB at b;split at b;rotate_left;simp at b;rename_i l e;obtain⟨c,d⟩:=ZmI.1 e;have:=as_eq b;refine⟨⟨t,x⟩::a, ?_,f⟩;rw[List.drop_eq_getElem_cons c,d,this,g,List.cons_append,List.length_cons];congr 3;omega
theorem Zff (J:UOk U) (j:TOk X) (K:T.Inv) {t:Nat} {x A:Operand} (h:ZbZ X T t x A k=some r):Snd X T i (.indexAddr t x A) ty k r:=by
 unfold ZbZ at h;split at h;rotate_left;simp at h;rename_i e d k1 n w o p;split at h
 ·rename_i u v;obtain⟨a,b,c,g⟩:=ty_sl w v;split at h;rotate_left;simp at h;rename_i H f;split at h
  ·rename_i z xs;split at h;rotate_left;simp at h;rename_i q;obtain⟨y,F,h⟩:=bind_some h;obtain⟨D,I,E⟩:=ZhT F;refine⟨_,[true], ?_,by simp,ZK.pure (Zg rfl),h⟩;simp only[Zd,Zb j p,Zb j o,TV.enc,Zc.encE,g,Zw f,q,if_true,Zi.enc,ZnB];rw[Zfw E,Zaw J,Znx,decide_eq_true (⟨D,I⟩:0<=n/\n < (xs.length:Int))]
  ·rename_i id m;split at h;rotate_left;simp at h;rename_i z xs fix s;split at h;rotate_left;simp at h;rename_i q;obtain⟨l,h⟩:=Zo h;refine⟨_,[_], ?_,Zv l,ZK.pure (Zg rfl),h⟩;simp only[Zd,Zb j p,Zb j o,TV.enc,Zc.encE,g,Zw f,Zf s,ZJ,q,if_true,Zi.enc,ZnB,Za5 K o s,Znp]
  ·rename_i id G len;split at h;rotate_left;simp at h;rename_i z xs fix s;split at h;rotate_left;simp at h;rename_i q;obtain⟨l,h⟩:=Zo h;refine⟨_,[_], ?_,Zv l,ZK.pure (Zg rfl),h⟩;simp only[Zd,Zb j p,Zb j o,TV.enc,Zc.encE,g,Zw f,Zf s,ZJ,q,if_true,Zi.enc,ZnB]
  ·simp at h
 ·rename_i m u v;obtain⟨a,b,c,g⟩:=ty_arr w v;split at h;rotate_left;simp at h;rename_i H f;split at h
  ·rename_i cs;obtain⟨l,h⟩:=Zo h;cases hm:Nat.blt 8 m with
   |true=>
    rw[hm,cond_true]at h;split at h;rotate_left;simp at h;obtain⟨L,C,B⟩:=ZfQ _ _ _ h;rw[<-C]at B;refine⟨_,[_], ?_,Zv l,ZK.pure (Zg rfl),B⟩;simp only[Zd,Zb j p,Zb j o,TV.enc,Zc.encE,g,Zw f,Zi.enc,ZnB,Znz]
   |false=>
    rw[hm,cond_false]at h;refine⟨_,[_], ?_,Zv l,ZK.pure (Zg rfl),h⟩;simp only[Zd,Zb j p,Zb j o,TV.enc,Zc.encE,g,Zw f,Zi.enc,ZnB,Znz]
  ·obtain⟨l,h⟩:=Zo h;refine⟨_,[_], ?_,Zv l,ZK.pure (Zg rfl),h⟩;simp only[Zd,Zb j p,Zb j o,TV.enc,Zc.encE,g,Zw f,Zi.enc,ZnB]
  ·simp at h
 ·simp at h
theorem Zjm (a:TOk X) (p:T.Inv) {t:Nat} {x b:Operand} (h:Zg0 X T t x b k=some r):Snd X T i (.index t x b) ty k r:=by unfold Zg0 at h;split at h;rotate_left;simp at h;rename_i e s k1 n l c d;split at h;rotate_left;simp at h;rename_i m;obtain⟨y,j,h⟩:=bind_some h;obtain⟨g,o,f⟩:=ZhT j;refine⟨_,[true], ?_,by simp,ZK.pure (Zai _ _),h⟩;simp only[Zd,Zb a d,Zb a c,TV.enc,Zc.encE,Zs l,m,Zi.enc,ZnB];rw[Znt,f,decide_eq_true (⟨g,o⟩:0<=n/\n < (s.length:Int))];rfl
theorem Zdk {a:Ty} (b:a.isKey=true) (x y:El U.car a):P.key (U.encE a x) (U.encE a y)=ZlY a x y:=by
 cases a<;>simp only[Ty.isKey,ZmD]at b
 ·rfl
 ·simp only[Zc.encE,P.key,P.eqv,P.eqc,if_true,Option.getD_some];rfl
 ·rfl
theorem ZcL {a:Ty} (b:a.isKey=true) (x:El U.car a):Zn a.td (U.encE a x)=true:=by
 cases a<;>simp only[Ty.isKey,ZmD]at b
 ·rfl
 ·simp[Ty.td,Zc.encE,Zn]
 ·rfl
theorem ZhZ {a b:Ty} (c:a.isKey=true) (x:El U.car a):∀d:List (El U.car a×El U.car b),(d.map fun e=>(U.encE a e.1,U.encE b e.2)).find? (fun e=>P.key (U.encE a x) e.1)=(d.find? fun e=>ZlY a x e.1).map fun e=>(U.encE a e.1,U.encE b e.2)
 | []=>rfl
 |e::r=>by
  simp only[ZmL,List.find?_cons,Zdk c];split
  ·rfl
  ·exact ZhZ c x r
theorem ZhO {a b:Ty} (d:a.isKey=true) (x:El U.car a) (c:List (El U.car a×El U.car b)):Zbq (c.map fun e=>(U.encE a e.1,U.encE b e.2)) (U.encE a x)=(Zg8 c x).map (U.encE b):=by unfold Zbq Zg8;rw[ZhZ d];cases c.find? fun e=>ZlY a x e.1<;>rfl
theorem ZlB {a b:Ty} (c:a.isKey=true) (x:El U.car a) (y:El U.car b) (d:List (El U.car a×El U.car b)):Zi7 (d.map fun e=>(U.encE a e.1,U.encE b e.2)) (U.encE a x) (U.encE b y)=(setB d x y).map fun e=>(U.encE a e.1,U.encE b e.2):=by
 unfold Zi7 setB;simp only[List.any_map,Function.comp_def,Zdk c];split;rotate_left;simp;simp only[ZnA];refine List.map_congr_left fun e _=> ?_
 simp only[Function.comp,Zdk c];split<;>rfl
theorem Zl6 {a b:Ty} (d:a.isKey=true) (x:El U.car a) (c:List (El U.car a×El U.car b)):Zkl (c.map fun e=>(U.encE a e.1,U.encE b e.2)) (U.encE a x)=(delB c x).map fun e=>(U.encE a e.1,U.encE b e.2):=by
 unfold Zkl delB;rw[List.filter_map];congr 1;refine List.filter_congr fun e _=> ?_
 simp only[Function.comp,Zdk d]
theorem ZlU (j:TOk X) {t:Nat} {x:Operand} {d:TV U} (g:evT X T.slots t x=some d) {l:Lf U.car} (h:mapT T d=some l) {a b:Ty} {c:List (El U.car a×El U.car b)} (f:l.as (.map a b)=some c):
  Zfr T.enc.objs (ev X.E T.enc.slots t x)=some (a.td,c.map fun e=>(U.encE a e.1,U.encE b e.2)):=by
 rw[Zb j g];unfold mapT at h;split at h
 ·cases h;have:=ZN f;cases this;rfl
 ·split at h;rotate_left;simp at h;rename_i i;cases h;have:=ZN f;cases this;simp only[TV.enc,Zfr,Zf i,Z0]
 ·simp at h
theorem Zha (c:TOk X) (f:T.Inv) {t:Nat} {x:Operand} {d:TV U} (b:evT X T.slots t x=some d) {l:Lf U.car} (h:T.lf1 d=some l) {a:Ty} {key:El U.car a} (e:l.as a=some key) (m:Nat):(ev X.E T.enc.slots t x).toP T.enc.objs m=some (U.encE a key):=by rw[Zb c b,ZcK (ZE f b) h m,ZN e];rfl
theorem Zig (y:TOk X) (I:T.Inv) {t:Nat} {m q:Operand} {v:Bool} (h:Zfl X T t m q v k=some r):Snd X T i (.lookup t m q v) ty k r:=by
 unfold Zfl at h;split at h;rotate_left;simp at h;rename_i e D;split at h;rotate_left;simp at h;rename_i P C a b E _;obtain⟨Q,K,L,l⟩:=Zk6 D E;split at h;rotate_left;simp at h;rename_i o N O d H G;split at h;rotate_left;simp at h;rename_i M lk J s w x;split at h;rotate_left;simp at h;rename_i A key z u j F;split at h;rotate_left;simp at h;rename_i p;have n:=y.zl C o J d x;rw[ZN F]at n;have c:U.encE b z=o.ti.zeroP:=n;have B:((X.E.keyTD t).same a.td&&Zn a.td (U.encE a key))=true:=by rw[p.2,ZcL p.1];rfl
 have f:=ZlU y H s u;have g:=Zha y I G w j 1;cases v
 ·refine⟨_,[], ?_,by simp,ZK.pure (Zai _ _),h⟩;simp only[Zd,l,Zw d,f,g,B,if_true,ZhO p.1,Zi.enc,ZnB,TV.enc];cases Zg8 A key<;>simp[c]
 ·refine⟨_,[], ?_,by simp,ZK.pure (Zg (by simp[TV.fulls,TV.fullsL])),h⟩;simp only[Zd,l,Zw d,f,g,B,if_true,ZhO p.1,Zi.enc,ZnB,TV.enc,TV.encs];cases Zg8 A key<;>simp[c,Zc.encE]
theorem Zja (I:UOk U) (u:TOk X) (x:T.Inv) {t:Nat} {m q v:Operand} (h:Za2 X T t m q v k=some r):
  ∃e cs,ZX X.E T.enc.slots T.enc.objs t m q v=some (e.enc cs)/\(∀q∈cs,q=true)/\ZK T i e/\k e=some r:=by
 unfold Za2 at h;split at h;rotate_left;simp at h;rename_i e B;split at h;rotate_left;simp at h;rename_i S N a b E _;obtain⟨W,M,O,g⟩:=Zk6 B E;split at h;rotate_left;simp at h;rename_i J id R Y D L K w;split at h;rotate_left;simp at h;rename_i V b' C lk G H o l;split at h;rotate_left;simp at h;rename_i P key y n c F;split at h;rotate_left;simp at h;rename_i j;have s:=ZN n;cases s;have A:((X.E.keyTD t).same a.td&&Zn a.td (U.encE a key))=true:=by rw[j.2,ZcL j.1];rfl
 have f:=Zha u x K o c 1;have d:=ZeS I (ZE x w) l 7;rw[ZN F]at d;have p:ev X.E T.enc.slots 0 m= .map id:=by rw[Zb u L];rfl
 refine⟨_,[], ?_,by simp,Zb5 rfl (fun Q xs fix z=>by cases z) (fun _=>by trivial),h⟩;simp only[ZX,g,p,Zf H,Z0,f,Zb u w,depth,d,A,if_true,Zc.encL,ZlB j.1,Zi.enc,ZnB,ZmL,TV.enc]
theorem Zih (l:TOk X) (y:T.Inv) {t u:Nat} {m q:Operand} (h:Zfm X T t u m q k=some r):∃e cs,Zd4 X.E T.enc.objs [t,u] [ev X.E T.enc.slots t m,ev X.E T.enc.slots u q]=some (e.enc cs)/\(∀q∈cs,q=true)/\ZK T i e/\k e=some r:=by
 unfold Zfm at h;split at h;rotate_left;simp at h;rename_i e id D p x w;split at h;rotate_left;simp at h;rename_i C z a b A lk s v g;split at h;rotate_left;simp at h;rename_i key c;split at h;rotate_left;simp at h;rename_i f;have o:((X.E.keyTD t).same a.td&&Zn a.td (U.encE a key))=true:=by rw[f.2,ZcL f.1];rfl
 have d:=Zha l y w g c 1;have j:ev X.E T.enc.slots t m= .map id:=by rw[Zb l x];rfl
 refine⟨_,[], ?_,by simp,Zb5 rfl (fun B xs fix n=>by cases n) (fun _=>by trivial),h⟩;simp only[Zd4,j,Zs p,s,Zf v,Z0,d,o,if_true,Zl6 f.1,Zi.enc,ZnB,ZmL,TV.enc]
theorem Zjl (g:TOk X) (n:T.Inv) {t:Nat} {x:Operand} (h:ZgZ X T i t x k=some r):Snd X T i (.range t x) ty k r:=by
 unfold ZgZ at h;split at h
 ·rename_i e s d c;split at h;rotate_left;simp at h;rename_i f;refine⟨_,[], ?_,by simp,Zdm rfl (fun _=>by trivial),h⟩;simp only[Zd,Zs d,f,Zb g c,TV.enc,Zc.encE,Zi.enc,ZmL,ZnB,ZbT]
 ·rename_i e a b j d c;split at h;rotate_left;simp at h;rename_i f;refine⟨_,[], ?_,by simp,Zdm rfl (fun _=>by trivial),h⟩;simp only[Zd,Zs d,f,Zb g c,TV.enc,Zc.encE,Zi.enc,ZmL,ZnB,Zbu,Option.map_none]
 ·rename_i e id d c;split at h;rotate_left;simp at h;rename_i o m a b j f l;refine⟨_,[], ?_,by simp,Zdm rfl (fun _=>by trivial),h⟩;simp only[Zd,Zs d,f,Zb g c,TV.enc,Zf l,Z0,Zi.enc,ZmL,ZnB,Zbu,Option.map_none]
 ·simp at h
theorem Zks (d:TOk X) (g:T.Inv) {x:Operand} (h:ZjA X T x k=some r):Snd X T i (.next x true) ty k r:=by
 unfold ZjA at h;split at h;rotate_left;simp at h;rename_i id b;split at h;rotate_left;simp at h;rename_i s a c
 by_cases hp:a < s.length
 ·rw[decide_eq_true hp]at h;refine⟨_,[], ?_,by simp,Zb5 (by simp[TV.fulls,TV.fullsL]) (fun f xs fix e=>by cases e) (fun _=>by trivial),h⟩;simp only[Zd,Zb d b,TV.enc,TV.encs,Zc.encE,Zf c,ZbT,if_pos hp,Zi.enc,ZmL,ZnB]
 ·rw[decide_eq_false hp]at h;refine⟨_,[], ?_,by simp,ZK.pure (Zg (by simp[TV.fulls,TV.fullsL])),h⟩;simp only[Zd,Zb d b,TV.enc,TV.encs,Zc.encE,Zf c,ZbT,if_neg hp,Zi.enc,ZnB]
theorem Zjo (d:TOk X) (f:T.Inv) {x:Operand} (h:Zg2 X T x k=some r):Snd X T i (.entry x) ty k r:=by unfold Zg2 at h;split at h;rotate_left;simp at h;rename_i id c;split at h;rotate_left;simp at h;rename_i a b rest p q e;refine⟨_,[], ?_,by simp,ZK.pure (Zg (by simp[TV.fulls,TV.fullsL])),h⟩;simp only[Zd,Zb d c,TV.enc,TV.encs,Zf e,Zbu,ZnG,Zi.enc,ZnB]
theorem ZgQ (f:TOk X) (g:T.Inv) {x:Operand} {c:Nat} (h:ZdB X T x c k=some r):Snd X T i (.extract x c) ty k r:=by unfold ZdB at h;split at h;rotate_left;simp at h;rename_i vs a;split at h;rotate_left;simp at h;rename_i d b;refine⟨_,[], ?_,by simp,ZK.pure (fun q e=>ZE g a q (Zr.2 ⟨d,List.mem_of_getElem? b,e⟩)),h⟩;simp only[Zd,Zb f a,TV.enc,Zac,ZmJ,b,ZnG,Zi.enc,ZnB]
theorem Zlx (p:TOk X) (s:T.Inv) {t:Nat} {x:Operand} (h:ZlJ X T t x k=some r):∃e cs,Ziy X.E T.enc.objs [t] [ev X.E T.enc.slots t x]=some (e.enc cs)/\(∀q∈cs,q=true)/\ZK T i e/\k e=some r:=by
 unfold ZlJ at h;split at h;rotate_left;simp at h;rename_i e d g o;have f:=Zb p o;split at h
 ·rename_i c;split at h;rotate_left;simp at h;refine⟨_,[], ?_,by simp,ZK.pure (Zai _ _),h⟩;simp only[Ziy,Zs g,c,f,TV.enc,Zc.encE,Zgf,Zi.enc,ZnB]
 ·rename_i u c;split at h
  ·refine⟨_,[], ?_,by simp,ZK.pure (Zai _ _),h⟩;simp only[Ziy,Zs g,c,f,TV.enc,Zc.encE,Zgf,Zi.enc,ZnB,Znx]
  ·refine⟨_,[], ?_,by simp,ZK.pure (Zai _ _),h⟩;simp only[Ziy,Zs g,c,f,TV.enc,Zc.encE,Zgf,Zi.enc,ZnB,Znx]
  ·refine⟨_,[], ?_,by simp,ZK.pure (Zai _ _),h⟩;simp only[Ziy,Zs g,c,f,TV.enc,Zc.encE,Zgf,Zi.enc,ZnB]
  ·split at h;rotate_left;simp at h;rename_i l;refine⟨_,[], ?_,by simp,ZK.pure (Zai _ _),h⟩;simp only[Ziy,Zs g,c,f,TV.enc,Zc.encE,Zgf,Zi.enc,ZnB,Za5 s o l]
  ·refine⟨_,[], ?_,by simp,ZK.pure (Zai _ _),h⟩;simp only[Ziy,Zs g,c,f,TV.enc,Zc.encE,Zgf,Zi.enc,ZnB]
  ·simp at h
 ·rename_i u v c;split at h;rotate_left;simp at h;rename_i a b w j;obtain⟨m,h⟩:=Zo h;refine⟨_,[_], ?_,Zv m,ZK.pure (Zai _ _),h⟩;unfold mapT at j;split at j
  ·simp only[ZmZ]at j;cases j;simp only[Ziy,Zs g,c,f,TV.enc,Zc.encE,Zgf,Zi.enc,ZnB,Znx]
  ·split at j;rotate_left;simp at j;rename_i l;simp only[ZmZ]at j;cases j;simp only[Ziy,Zs g,c,f,TV.enc,Zf l,Z0,Zc.encE,Zgf,Zi.enc,ZnB,Znx]
  ·simp at j
 ·rename_i n u c;obtain⟨m,h⟩:=Zo h;refine⟨_,[_], ?_,Zv m,ZK.pure (Zai _ _),h⟩;simp only[Ziy,Zs g,c,Zgf,Zi.enc,ZnB,TV.enc,Zc.encE]
 ·simp at h
theorem Zdj (k:T.Inv) {t:Nat} {x:Operand} {d:TV U} (m:TOk X) (e:evT X T.slots t x=some d) {u:Ty} {c:List (El U.car u)} (h:Zml T d u=some c):ZcA T.enc.objs (U.tsize u) d.enc=some (c.map (U.encE u)):=by
 unfold Zml at h;split at h
 ·split at h;rotate_left;simp at h;cases h;simp only[ZcA,TV.enc,Zc.encE,Zc.tsize,if_true,ZaH,ZnA];rfl
 ·rename_i j;split at h;rotate_left;simp at h;rename_i l f;split at h;rotate_left;simp at h;rename_i g b;cases h;have a:=ZcK (ZE k e) f 1;rw[ZN b]at a;unfold ZcA;split
  ·rename_i s i;rw[i]at a;simp only[Zje,ZmZ,Zc.encL,Zc.encE,reduceCtorEq]at a
  ·simp only[a,Zc.encL,Zc.encE,if_true]
theorem ZaX {b:Type} (xs a:List b):List.append xs a=xs++a:=rfl
theorem ZhC (A:TOk X) (z:T.Inv) {t:Nat} {s:Operand} {e:TT U} {d:TV U} (u:evT X T.slots t s=some d) (b:U.tsize e.ty=e.ti.size) {g:List (El U.car e.ty)} (h:appX T i e d g k=some r):
  ∃o cs,Z6 T.enc.objs T.ep i e.ti d.enc (g.map (U.encE e.ty))=some (o.enc cs)/\(∀q∈cs,q=true)/\ZK T i o/\k o=some r:=by
 unfold appX at h;split at h
 ·obtain⟨f,h⟩:=Zo h;refine⟨_,[_], ?_,Zv f,Za8 rfl (by simp),h⟩;simp only[Z6,TV.enc,Znx,Zi.enc,ZmL,ZnB,ZJ,b,Zi5]
 ·split at h;rotate_left;simp at h;rename_i xs a;obtain⟨c,h⟩:=Zo h;obtain⟨m,h⟩:=Zo h;have:=ZN a;cases this;refine⟨_,[true], ?_,by simp,Za8 (by rw[ZaX,Znw]) (by simp),h⟩;have w:List.isEmpty g=false:=by simpa using c
  have x:(Znv xs+g.length)*max e.ti.bytes 1<=ZO:=by simpa[Zi5]using m
  simp only[Z6,TV.enc,b,if_true,Znx,Zi.enc,ZmL,ZnB,ZJ,ZaX,Zny,List.isEmpty_map];rw[decide_eq_true ⟨w,x⟩]
 ·rename_i id n;split at h;rotate_left;simp at h;rename_i y p j;split at h;rotate_left;simp at h;rename_i xs a;obtain⟨f,h⟩:=Zo h;have:=ZN a;cases this;refine⟨_,[_], ?_,Zv f,Za8 (by rw[ZaX,Znw]) (by simp),h⟩;have v:n=Znv xs:=Za5 z u j;simp only[Z6,TV.enc,Zf j,ZJ,b,if_true,Znx,Zi.enc,ZmL,ZnB,Za7,ZaX,Zny,v,Zi5,ZhA]
 ·rename_i id len;split at h;rotate_left;simp at h;rename_i y p j;split at h;rotate_left;simp at h;rename_i xs a;obtain⟨c,h⟩:=Zo h;obtain⟨f,h⟩:=Zo h;have:=ZN a;cases this;have l:len<=Znv xs:=by simpa using c
  refine⟨_,[_], ?_,Zv f,Za8 (by rw[ZaX,Znw,List.length_take,Nat.min_eq_left l]) (by simp),h⟩;simp only[Z6,TV.enc,Zf j,ZJ,b,if_true,Znx,Zi.enc,ZmL,ZnB,Za7,ZaX,Zny,Zi5,ZnC]
 ·simp at h
theorem Zij (f:TOk X) (A:T.Inv) {t u:Nat} {s x:Operand} (h:Zfo X T i t u s x k=some r):
  ∃e cs,Zb7 X.E T.ep i T.enc.objs [t,u] [ev X.E T.enc.slots t s,ev X.E T.enc.slots u x]=some (e.enc cs)/\(∀q∈cs,q=true)/\ZK T i e/\k e=some r:=by
 unfold Zfo at h;split at h;rotate_left;simp at h;rename_i e G d E b n p g;split at h;rotate_left;simp at h;rename_i j;split at h
 ·rename_i F;split at h;rotate_left;simp at h;rename_i L w;have c:=Zdj A f g w;rw[j]at c;have m:Zb7 X.E T.ep i T.enc.objs [t,u] [ev X.E T.enc.slots t s,ev X.E T.enc.slots u x]=ZaJ T.enc.objs T.ep i e.ti d.enc E.enc:=by unfold Zb7;simp only[ZaG b,Zs n,Zb f p,Zb f g];revert F;cases G.ti.d<;>simp[Zkq]
  rw[m,ZaJ,c];exact ZhC f A p j h
 ·split at h;rotate_left;simp at h;rename_i k0 a z K I;split at h;rotate_left;simp at h;rename_i B v;obtain⟨H,h⟩:=Zo h;have l:∃y,X.get y=some e:=by unfold ZG.elem at b;split at b;rotate_left;simp at b;split at b;rotate_left;simp at b;exact⟨_,b⟩
  obtain⟨y,C⟩:=l;have o:=f.zl y e z C I;rw[ZN v]at o;obtain⟨J,cs,q1,D⟩:=ZhC f A p j h;refine⟨J,cs, ?_,D⟩;rw[List.map_replicate,show U.encE e.ty B=e.ti.zeroP from o]at q1;unfold Zb7;simp only[ZaG b,Zs n,Zb f p,Zb f g,K,TV.enc,Zc.encE,if_pos (of_decide_eq_true H)];exact q1
theorem Zkv (j:TOk X) (z:T.Inv) {t u:Nat} {d s:Operand} (h:ZjD X T t u d s k=some r):
  ∃e cs,ZiQ X.E T.enc.objs [t,u] [ev X.E T.enc.slots t d,ev X.E T.enc.slots u s]=some (e.enc cs)/\(∀q∈cs,q=true)/\ZK T i e/\k e=some r:=by
 unfold ZjD at h;split at h;rotate_left;simp at h;rename_i e I H A x m;split at h
 ·rename_i id n;split at h;rotate_left;simp at h;rename_i w xs fix g;split at h;rotate_left;simp at h;rename_i b c;have a:=Zdj z j m c;split at h;rotate_left;simp at h;rename_i f;have B:n=Znv xs:=Za5 z x g;refine⟨_,[], ?_,by simp,Zb5 (by simp[TV.fulls]) (fun E v l p=> ?_) (fun _=>by trivial),h⟩
  ·simp only[ZiQ,ZaG A,Zb j x,Zb j m,TV.enc,ZfE,Zf g,ZJ,a,f.symm,if_true,Zi.enc,ZmL,ZnB,B,Znx,Zc.encE,ZP];congr 4;simp only[List.take_zero,List.nil_append,List.length_take,Znx,Znp,Zny,ZnC,Znz];have C:List.take (min b.length xs.length) (List.map (U.encE w) b)=List.take xs.length (List.map (U.encE w) b):=by rw[List.take_eq_take_iff];simp[Nat.min_comm]
   have D:min (min b.length xs.length) b.length=min b.length xs.length:=by omega
   rw[C,D];congr 1;rcases Nat.le_total b.length xs.length with o |o
   ·rw[Nat.min_eq_left o]
   ·rw[Nat.min_eq_right o,List.drop_eq_nil_of_le (by simp),List.drop_eq_nil_of_le (by simpa using o)]
  ·cases p;refine⟨_,_,_,g, ?_⟩;simp only[Znw,List.length_take,List.length_drop];omega
 ·rename_i id y len;split at h;rotate_left;simp at h;rename_i w xs fix g;split at h;rotate_left;simp at h;rename_i b c;have a:=Zdj z j m c;split at h;rotate_left;simp at h;rename_i f;obtain⟨F,h⟩:=Zo h;have G:y+len<=Znv xs:=by simpa using F
  refine⟨_,[], ?_,by simp,Zb5 (by simp[TV.fulls]) (fun E v l p=> ?_) (fun _=>by trivial),h⟩
  ·simp only[ZiQ,ZaG A,Zb j x,Zb j m,TV.enc,ZfE,Zf g,ZJ,a,f.symm,if_true,Zi.enc,ZmL,ZnB,Znx,Zc.encE,ZcB,ZnC]
  ·cases p;refine⟨_,_,_,g, ?_⟩;simp only[ZP,Znw,List.length_take,List.length_drop];omega
 ·simp at h
theorem ZbJ (b:TOk X):∀{xs:List Operand} {ts:List Nat} {a:List (TV U)},Zde X T.slots xs ts=some a->ZT X.E T.enc.slots xs ts=TV.encs a
 | [],ts,a,h=>by cases ts<;>simp[Zde]at h<;>subst h<;>rfl
 |x::xs,[],a,h=>by simp only[Zde]at h;split at h;rotate_left;simp at h;rename_i d r e c;cases h;simp only[ZT,TV.encs,Zb b e,ZbJ b c]
 |x::xs,t::ts,a,h=>by simp only[Zde]at h;split at h;rotate_left;simp at h;rename_i d r e c;cases h;simp only[ZT,TV.encs,Zb b e,ZbJ b c]
theorem Zea (e:T.Inv):∀{xs:List Operand} {ts:List Nat} {c:List (TV U)},Zde X T.slots xs ts=some c->∀d∈c,d.inv T.objs
 | [],ts,c,h=>by cases ts<;>simp[Zde]at h<;>subst h<;>simp
 |x::xs,[],c,h=>by
  simp only[Zde]at h;split at h;rotate_left;simp at h;rename_i d r g f;cases h;intro a b;rcases ZmN.1 b with rfl |b
  ·exact ZE e g
  ·exact Zea e f a b
 |x::xs,t::ts,c,h=>by
  simp only[Zde]at h;split at h;rotate_left;simp at h;rename_i d r g f;cases h;intro a b;rcases ZmN.1 b with rfl |b
  ·exact ZE e g
  ·exact Zea e f a b
theorem Zk7 (g:TOk X) (m:T.Inv) {mx:Bool} {args:List Operand} {a:List Nat} (h:opMM X T mx args a k=some r):
  ∃e cs,ZI X.E T.ep i T.enc.objs (if mx then .max else .min) a (ZT X.E T.enc.slots args a)=some (e.enc cs)/\(∀q∈cs,q=true)/\ZK T i e/\k e=some r:=by
 unfold opMM at h;split at h;rotate_left;simp at h;rename_i l b;split at h;rotate_left;simp at h;rename_i z c;split at h;rotate_left;simp at h;rename_i d f;obtain⟨q1,j⟩:=Zcm f;refine⟨_,[], ?_,by simp,ZK.pure (Zg j),h⟩;cases mx<;>simp only[ZmD,if_false,if_true]at c<;>simp only[ZmD,if_false,if_true,ZI,ZbJ g b,c,Zi.enc,q1,ZnB]
theorem snd (d:UOk U) (a:TOk X) (c:T.Inv) {g:Op} (h:Zl8 X T i g ty k=some r):Snd X T i g ty k r:=by
 unfold Zl8 at h;split at h
 ·exact Zkt a c h
 ·exact Zii a c h
 ·exact Zkr a c h
 ·exact Zjq a c h
 ·exact Zly d a c h
 ·exact Zjp d a c h
 ·exact Zen d a c h
 ·exact Zku d a c h
 ·exact Zjj d a c h
 ·exact ZfU a c h
 ·exact Zlz d a c h
 ·exact snd_un a c h
 ·exact ZgR a c h
 ·exact ZfV a c h
 ·exact ZgP a c h
 ·exact Zfe a c h
 ·exact Zjk a c h
 ·exact Zfg a c h
 ·exact Zjn d a c h
 ·exact Zff d a c h
 ·exact Zjm a c h
 ·exact Zig a c h
 ·exact Zja d a c h
 ·exact Zja d a c h
 ·exact Zjl a c h
 ·exact Zks a c h
 ·exact Zjo a c h
 ·exact ZgQ a c h
 ·rename_i b args j;unfold Snd Zd;split at h
  ·rename_i x t e f;simp only[e,f,ZI,ZT];exact Zlx a c h
  ·rename_i s x t u e f;simp only[e,f,ZI,ZT];exact Zij a c h
  ·rename_i s x t u e f;simp only[e,f,ZI,ZT];exact Zkv a c h
  ·exact Zk7 (mx:=true) a c h
  ·exact Zk7 (mx:=false) a c h
  ·rename_i s x t u e f;simp only[e,f,ZI,ZT];exact Zih a c h
  ·simp at h
 ·simp at h
end
end Eng
namespace Eng
open Go
section
variable {U:Zc}
def ZlF (T:TS U) (d:TV U):Option (TV U):=
 if (d.enc.ids T.enc.objs depth).all T.fz then match d with
  | .ptr id i j=>match T.objs id with
   |some (.box cs)=>if i=0 then match Zh T.lf1 (cs.drop j)with
    |some a=>some (.pp a)
    |none=>none
    else none
   |_=>none
  |d=>match T.lf1 d with
   |some l=>some (lv l)
   |none=>none
 else none
def TV.can (T:TS U) (pi:List (Id×Id)):Nat->TV U->Option (TV U)
 |_,.v t x=>some (.v t x)
 |_,.pp cs=>some (.pp cs)
 |_,.nilp=>some .nilp
 |_,.nilfn=>some .nilfn
 |_,.dead=>some .dead
 |_,.undef=>some .undef
 |_,.nils t=>some (.nils t)
 |_,.clip t xs=>some (.clip t xs)
 |_,.full id n=>match ren pi id with
  |some c=>some (.full c n)
  |none=>ZlF T (.full id n)
 |_,.sl id off len=>match ren pi id with
  |some c=>some (.sl c off len)
  |none=>ZlF T (.sl id off len)
 |_,.map id=>match ren pi id with
  |some c=>some (.map c)
  |none=>ZlF T (.map id)
 |_,.it id=>match ren pi id with
  |some c=>some (.it c)
  |none=>none
 |_,.ptr id i j=>match ren pi id with
  |some c=>some (.ptr c i j)
  |none=>ZlF T (.ptr id i j)
 |n+1,.agg cs=>match Zh (TV.can T pi n) cs with
  |some d=>some (.agg d)
  |none=>none
 |n+1,.tup cs=>match Zh (TV.can T pi n) cs with
  |some d=>some (.tup d)
  |none=>none
 |n+1,.fn f a b=>match Zh (TV.can T pi n) a,Zh (TV.can T pi n) b with
  |some a',some b'=>some (.fn f a' b')
  |_,_=>none
 |_,_=>none
def TO.can (T:TS U) (pi:List (Id×Id)):TO U->Option (TO U)
 | .box cs=>match Zh (TV.can T pi depth) cs with
  |some a=>some (.box a)
  |none=>none
 | .gone=>none
 |o=>some o
theorem ZkC (o:UOk U) {T:TS U} {d b:TV U} (hi:d.inv T.objs) (i:∀id cs,T.objs id=some (.box cs)->∀c∈cs,c.inv T.objs) (h:ZlF T d=some b):D.pur T.enc.objs T.enc.fz d.enc=some b.enc/\b.fulls=[]:=by
 unfold ZlF at h;unfold D.pur;split at h;rotate_left;simp at h;rename_i f;rw[if_pos (show ((d.enc.ids T.enc.objs depth).all T.enc.fz)=true from f)];split at h
 ·rename_i id i' j;split at h;rotate_left;simp at h;rename_i cs e;split at h;rotate_left;simp at h;rename_i k;subst k;split at h;rotate_left;simp at h;rename_i n a;cases h;have:=Zch 7 (fun c m=>i id cs e c (ZnE m)) a;rw[Zbt]at this;simp only[TV.enc,depth,D.toP,Zf e,ZaP,if_true,this,ZnG];exact⟨trivial,rfl⟩
 ·split at h;rotate_left;simp at h;rename_i l g;cases h;rw[ZcK hi g depth];exact⟨rfl,rfl⟩
theorem Zhn (lk:Id->Option Obj) (a:Id->Bool) (pi:List (Id×Id)) (n:Nat) (x:P):D.can lk a pi n (.p x)=some (.p x):=by cases n<;>rfl
theorem Zh4 (S:UOk U) {T:TS U} (Q:∀id cs,T.objs id=some (.box cs)->∀c∈cs,c.inv T.objs) {pi:List (Id×Id)}:∀(n:Nat) (d i:TV U),d.inv T.objs->d.can T pi n=some i->
  d.enc.can T.enc.objs T.enc.fz pi n=some i.enc/\∀q∈i.fulls,∃id,ren pi id=some q.1/\(id,q.2)∈d.fulls:=by
 have l:∀(d i:TV U),d.inv T.objs->ZlF T d=some i->D.pur T.enc.objs T.enc.fz d.enc=some i.enc/\∀q∈i.fulls,∃id,ren pi id=some q.1/\(id,q.2)∈d.fulls:=fun d i hi h=>by obtain⟨E,G⟩:=ZkC S hi Q h;exact⟨E,by rw[G];simp⟩
 have base:∀(n:Nat) (d i:TV U),(∀cs,d≠ .agg cs)->(∀cs,d≠ .tup cs)->(∀f a b,d≠ .fn f a b)->d.inv T.objs->d.can T pi n=some i->
   d.enc.can T.enc.objs T.enc.fz pi n=some i.enc/\∀q∈i.fulls,∃id,ren pi id=some q.1/\(id,q.2)∈d.fulls:=by
  intro n d i E G O hi h;cases d with
  |v t x=>simp only[TV.can,ZmZ]at h;subst h;exact⟨Zhn _ _ _ _ _,by simp[TV.fulls]⟩
  |pp cs=>simp only[TV.can,ZmZ]at h;subst h;exact⟨Zhn _ _ _ _ _,by simp[TV.fulls]⟩
  |nilp=>simp only[TV.can,ZmZ]at h;subst h;exact⟨Zhn _ _ _ _ _,by simp[TV.fulls]⟩
  |nilfn=>simp only[TV.can,ZmZ]at h;subst h;exact⟨Zhn _ _ _ _ _,by simp[TV.fulls]⟩
  |dead=>simp only[TV.can,ZmZ]at h;subst h;exact⟨by cases n<;>rfl,by simp[TV.fulls]⟩
  |undef=>simp only[TV.can,ZmZ]at h;subst h;exact⟨by cases n<;>rfl,by simp[TV.fulls]⟩
  |nils t=>simp only[TV.can,ZmZ]at h;subst h;exact⟨by cases n<;>rfl,by simp[TV.fulls]⟩
  |clip t xs=>simp only[TV.can,ZmZ]at h;subst h;exact⟨by cases n<;>rfl,by simp[TV.fulls]⟩
  |full id m=>
   simp only[TV.can]at h;split at h
   ·rename_i s g;cases h;refine⟨by cases n<;>simp only[TV.enc,D.can,g],fun q e=> ?_⟩;simp only[TV.fulls,ZmQ]at e;subst e;exact⟨id,g,by simp[TV.fulls]⟩
   ·rename_i g;obtain⟨q1,k⟩:=l _ _ hi h;exact⟨by cases n<;>simp only[TV.enc,D.can,g]<;>exact q1,k⟩
  |sl id R len=>
   simp only[TV.can]at h;split at h
   ·rename_i s g;cases h;exact⟨by cases n<;>simp only[TV.enc,D.can,g],by simp[TV.fulls]⟩
   ·rename_i g;obtain⟨q1,k⟩:=l _ _ hi h;exact⟨by cases n<;>simp only[TV.enc,D.can,g]<;>exact q1,k⟩
  |map id=>
   simp only[TV.can]at h;split at h
   ·rename_i s g;cases h;exact⟨by cases n<;>simp only[TV.enc,D.can,g],by simp[TV.fulls]⟩
   ·rename_i g;obtain⟨q1,k⟩:=l _ _ hi h;exact⟨by cases n<;>simp only[TV.enc,D.can,g]<;>exact q1,k⟩
  |it id=>
   simp only[TV.can]at h;split at h;rotate_left;simp at h;rename_i s g;cases h;exact⟨by cases n<;>simp only[TV.enc,D.can,g],by simp[TV.fulls]⟩
  |ptr id a j=>
   simp only[TV.can]at h;split at h
   ·rename_i s g;cases h;exact⟨by cases n<;>simp only[TV.enc,D.can,g],by simp[TV.fulls]⟩
   ·rename_i g;obtain⟨q1,k⟩:=l _ _ hi h;exact⟨by cases n<;>simp only[TV.enc,D.can,g]<;>exact q1,k⟩
  |agg cs=>exact absurd rfl (E cs)
  |tup cs=>exact absurd rfl (G cs)
  |fn f a b=>exact absurd rfl (O f a b)
 intro n
 induction n with
 |zero=>
  intro d i hi h;refine base 0 d i ?_ ?_ ?_ hi h
  all_goals (intros;intro B;subst B;simp[TV.can]at h)
 |succ n F=>
  have o:∀(cs p:List (TV U)),(∀c∈cs,c.inv T.objs)->Zh (TV.can T pi n) cs=some p->Zh (D.can T.enc.objs T.enc.fz pi n) (TV.encs cs)=some (TV.encs p)/\∀q∈TV.fullsL p,∃id,ren pi id=some q.1/\(id,q.2)∈TV.fullsL cs:=by
   intro cs
   induction cs with
   |nil=>intro p _ h;simp[Zh]at h;subst h;exact⟨rfl,by simp[TV.fullsL]⟩
   |cons c cs L=>
    intro p hi h;simp only[Zh]at h;split at h;rotate_left;simp at h;rename_i y N E G;cases h;obtain⟨q1,k⟩:=F c y (hi c (by simp)) E;obtain⟨C,J⟩:=L N (fun a I=>hi a (by simp[I])) G;refine⟨by simp only[TV.encs,Zh,q1,C],fun q e=> ?_⟩;simp only[TV.fullsL,ZmM]at e|-
    rcases e with e |e
    ·obtain⟨id,A,z⟩:=k q e;exact⟨id,A,.inl z⟩
    ·obtain⟨id,A,z⟩:=J q e;exact⟨id,A,.inr z⟩
  intro d i hi h;cases d with
  |agg cs=>
   simp only[TV.can]at h;split at h;rotate_left;simp at h;rename_i p w;cases h;obtain⟨q1,k⟩:=o cs p (Zht hi) w;refine⟨?_,k⟩;rw[TV.enc,TV.enc];rcases ZdF (TV.encs cs)with ⟨u,M,H⟩ |H
   ·rw[H,Zhn];rw[M]at q1;have:Zh (D.can T.enc.objs T.enc.fz pi n) (u.map .p)=some (u.map .p):=by
     clear q1 M H
     induction u with
     |nil=>rfl
     |cons x r F=>simp only[ZmL,Zh,Zhn,F]
    rw[this,ZmZ]at q1;rw[<-q1,Zce]
   ·rw[H];simp only[D.can,q1]
  |tup cs=>
   simp only[TV.can]at h;split at h;rotate_left;simp at h;rename_i p w;cases h;obtain⟨q1,k⟩:=o cs p (fun c B q e=>hi q (Zr.2 ⟨c,B,e⟩)) w;exact⟨by simp only[TV.enc,D.can,q1],k⟩
  |fn f a b=>
   simp only[TV.can]at h;split at h;rotate_left;simp at h;rename_i V b' I K;cases h;obtain⟨q1,k⟩:=o a V (fun c B q e=>hi q (by simp only[TV.fulls,ZmM];exact .inl (Zr.2 ⟨c,B,e⟩))) I;obtain⟨C,J⟩:=o b b' (fun c B q e=>hi q (by simp only[TV.fulls,ZmM];exact .inr (Zr.2 ⟨c,B,e⟩))) K;refine⟨?_,fun q e=> ?_⟩
   ·rw[TV.enc,TV.enc];unfold fnD;cases hpa:Zh D.pure? (TV.encs a)with
    |none=>simp only[D.can,q1,C];rfl
    |some x=>
     cases hpb:Zh D.pure? (TV.encs b)with
     |none=>simp only[D.can,q1,C];rfl
     |some y=>
      have key:∀(u:List P),Zh (D.can T.enc.objs T.enc.fz pi n) (u.map .p)=some (u.map .p):=by
       intro u
       induction u with
       |nil=>rfl
       |cons x r F=>simp only[ZmL,Zh,Zhn,F]
      rw[Zt hpa,key,ZmZ]at q1;rw[Zt hpb,key,ZmZ]at C;rw[<-q1,<-C,Zat,Zat];rfl
   ·simp only[TV.fulls,ZmM]at e|-
    rcases e with e |e
    ·obtain⟨id,A,z⟩:=k q e;exact⟨id,A,.inl z⟩
    ·obtain⟨id,A,z⟩:=J q e;exact⟨id,A,.inr z⟩
  |_=>exact base (n+1) _ _ (by simp) (by simp) (by simp) hi h
def mkT (ep:Nat) (a:List (Nat×TV U)) (lo:List (Id×TO U)):TS U:={slots:=Zam .dead a,objs:=Ze lo,fz:=fun _=>false,ep:=ep}
theorem Zcq:∀(ks:List Nat) (a:List (TV U)) (x:Nat),(Zam TV.dead (ks.zip a) x).enc=Zam D.dead (ks.zip (TV.encs a)) x
 | [],a,x=>rfl
 |k::ks,[],x=>rfl
 |k::ks,d::a,x=>by
  simp only[ZnF,TV.encs,Zam];split
  ·rfl
  ·exact Zcq ks a x
theorem ZbW:∀(a:List Id) (os:List (TO U)) (x:Id),Zip (Ze (a.zip os) x)=Ze (a.zip (os.map TO.enc)) x
 | [],os,x=>rfl
 |k::ks,[],x=>rfl
 |k::ks,d::ds,x=>by
  simp only[ZnF,ZmL,Ze];split
  ·rfl
  ·exact ZbW ks ds x
theorem ZlQ (ep:Nat) (ks:List Nat) (b:List (TV U)) (a:List Id) (os:List (TO U)):(mkT ep (ks.zip b) (a.zip os)).enc=mkS ep (ks.zip (TV.encs b)) (a.zip (os.map TO.enc)):=by
 refine ZfR ?_ ?_ rfl rfl
 ·funext x;exact Zcq ks b x
 ·funext x;exact ZbW a os x
mutual
def TV.own (T:TS U):TV U->List Id
 | .full id _ | .sl id _ _ | .map id | .it id | .ptr id _ _=>if T.fz id then []else [id]
 | .agg cs=>TV.ownL T cs
 | .tup cs=>TV.ownL T cs
 | .fn _ a b=>TV.ownL T a++TV.ownL T b
 |_=>[]
def TV.ownL (T:TS U):List (TV U)->List Id
 | []=>[]
 |d::r=>d.own T++TV.ownL T r
end
def ZcR (T:TS U):Nat->List Id->List Id->List Id
 |0,_,acc=>acc
 |_+1,[],acc=>acc
 |n+1,id::r,acc=>if acc.contains id then ZcR T n r acc else match T.objs id with
  |some (.box cs)=>ZcR T n (r++TV.ownL T cs) (acc++[id])
  |some _=>ZcR T n r (acc++[id])
  |none=>ZcR T n r acc
def ZkG (a:List Nat):Nat->List Id->List (Id×Id)
 |_,[]=>[]
 |c,id::r=>if id.1=0/\id.2.2=0/\a.contains id.2.1=true then (id,id)::ZkG a c r else ((0,c,1),id)::ZkG a (c+1) r
def Zgb (a:List Nat) (n:Nat):List Id:=a.map (fun k=>(0,k,0))++(List.range' 1 (n - a.length)).map fun c=>(0,c,1)
def Zlf:Option (TO U)->Bool
 |some .gone=>false
 |some _=>true
 |none=>false
def Zlh (T:TS U) (s:Nat):List Id:=
 match s / 100000 with
 |0=>(T.slots s).enc.ids T.enc.objs depth
 |_=>((T.slots (s % 100000)).enc.ids T.enc.objs depth).tail
def Zj5 (T:TS U) (a live frz:List Nat):Option (List (TV U)×List (TO U)):=
 let fs:=frz.flatMap (Zlh T)
 let T1:=T.freezeL fs
 let pi:=ZkG a 1 (ZcR T1 200 (a.map (fun k=>(0,k,0))++TV.ownL T1 (live.map T1.slots)) [])
 if (fs.all fun id=>Zlf (T.objs id))&&Zf5 T1.enc pi 1&&Zlc pi then
  match Zh (fun t=>(T1.slots t).can T1 pi depth) live,Zh (fun x:Id×Id=>match T1.objs x.2 with |some o=>o.can T1 pi |none=>none) pi with
  |some ds,some os=>if pi.map (·.1)=Zgb a os.length then some (ds,os)else none
  |_,_=>none
 else none
def mkC (a live:List Nat) (b:List (TV U)) (os:List (TO U)):TS U:=mkT 1 (live.zip b) ((Zgb a os.length).zip os)
theorem Zju {pi:List (Id×Id)} (f:Zan (pi.map (·.1))=true) {os:List (TO U)} {c e:Id} (h:ren pi e=some c) {j:Nat} (d:pi[j]? =some (c,e)):Ze ((pi.map (·.1)).zip os) c=os[j]? :=by
 clear h
 induction pi generalizing os j with
 |nil=>simp at d
 |cons x r i=>
  obtain⟨a,b⟩:=x;simp only[ZmL,Zan,ZmC,Zm5,decide_eq_true_eq]at f;cases os with
  |nil=>simp[Ze]
  |cons o os=>
   simp only[ZmL,ZnF,Ze];cases j with
   |zero=>simp only[Zne,ZmZ,Zm0]at d;simp[d.1]
   |succ j=>
    simp only[List.getElem?_cons_succ]at d|-
    have g:c≠a:=fun k=>by have:=f.1 c (Znk.2 ⟨_,List.mem_of_getElem? d,rfl⟩);exact this k
    rw[if_neg g];exact i f.2 d
theorem Zhc {T:TS U} (h:T.Inv) (fs:List Id):(T.freezeL fs).Inv:=⟨h.slots,h.objs⟩
theorem ZiS (hU:UOk U) {C:Ctx} {r:Fm} {G:Zkg} {k:List Item} {T:TS U} (hT:T.Inv) {lent live frz:List Nat} {ds:List (TV U)} {os:List (TO U)} (h:Zj5 T lent live frz=some (ds,os)):
  (mkC lent live ds os).Inv/\(AWP C r G k (mkC lent live ds os).enc->AWP C r G k T.enc):=by
 unfold Zj5 at h;dsimp only at h;generalize hfs:frz.flatMap (Zlh T)=fs at h;generalize hpi:ZkG lent 1 (ZcR (T.freezeL fs) 200 (lent.map (fun k=>(0,k,0))++TV.ownL (T.freezeL fs) (live.map (T.freezeL fs).slots)) [])=pi at h;split at h;rotate_left;simp at h;rename_i hc;simp only[ZmC,Zm5]at hc;obtain⟨⟨hhere,hok⟩,hkeep⟩:=hc;split at h;rotate_left;simp at h;rename_i ds' os' hds hos;split at h;rotate_left;simp at h;rename_i hids;simp only[ZmZ,Zm0]at h;obtain⟨rfl,rfl⟩:=h;have hT1:=Zhc hT fs;have hb:∀id cs,(T.freezeL fs).objs id=some (.box cs)->∀c∈cs,c.inv (T.freezeL fs).objs:=fun id cs ho=>hT1.objs id _ ho
 have hn1:Zan (pi.map (·.1))=true:=by simp only[Zf5,ZmC]at hok;exact hok.1.1
 have pdsL:Zh (fun t=>((T.freezeL fs).enc.slots t).can (T.freezeL fs).enc.objs (T.freezeL fs).enc.fz pi depth) live=some (TV.encs ds')/\∀d∈ds',∃t∈live,∀q∈d.fulls,∃id,ren pi id=some q.1/\(id,q.2)∈((T.freezeL fs).slots t).fulls:=by
  clear hpi hids
  induction live generalizing ds' with
  |nil=>simp[Zh]at hds;subst hds;exact⟨rfl,by simp⟩
  |cons t live ih=>
   simp only[Zh]at hds;split at hds;rotate_left;simp at hds;rename_i y ys h1 h2;cases hds;obtain⟨q1,q2⟩:=Zh4 hU hb depth _ _ (hT1.slots t) h1;obtain⟨q3,q4⟩:=ih ys h2;refine⟨by simp only[Zh,TV.encs,q3];rw[show ((T.freezeL fs).enc.slots t)=((T.freezeL fs).slots t).enc from rfl,q1],fun d hd=> ?_⟩;rcases ZmN.1 hd with rfl |hd
   ·exact⟨t,by simp,q2⟩
   ·obtain⟨t',ht',hq⟩:=q4 d hd;exact⟨t',by simp[ht'],hq⟩
 have objC:∀(l:List (Id×Id)) (ol:List (TO U)),Zh (fun x:Id×Id=>match (T.freezeL fs).objs x.2 with |some o=>o.can (T.freezeL fs) pi |none=>none) l=some ol->
   Zh (fun x:Id×Id=>match (T.freezeL fs).enc.objs x.2 with |some o=>o.can (T.freezeL fs).enc.objs (T.freezeL fs).enc.fz pi |none=>none) l=some (ol.map TO.enc)/\
   ∀(j:Nat) (x:Id×Id) (o:TO U),l[j]? =some x->ol[j]? =some o->∃o0,(T.freezeL fs).objs x.2=some o0/\(∀t xs fix,o= .arr t xs fix->o0=o)/\∀cs,o= .box cs->∃cs0,o0= .box cs0/\∀d∈cs,∃d0∈cs0,∀q∈d.fulls,∃id,ren pi id=some q.1/\(id,q.2)∈d0.fulls:=by
  intro l
  induction l with
  |nil=>intro ol h;simp[Zh]at h;subst h;exact⟨rfl,by simp⟩
  |cons x l ih=>
   intro ol h;simp only[Zh]at h;split at h;rotate_left;simp at h;rename_i o ol' h1 h2;cases h;obtain⟨q3,q4⟩:=ih ol' h2;split at h1;rotate_left;simp at h1;rename_i o0 ho;have he:(T.freezeL fs).enc.objs x.2=some o0.enc:=Zf ho;have main:o0.enc.can (T.freezeL fs).enc.objs (T.freezeL fs).enc.fz pi=some o.enc/\((∀t xs fix,o= .arr t xs fix->o0=o)/\∀cs,o= .box cs->∃cs0,o0= .box cs0/\∀d∈cs,∃d0∈cs0,∀q∈d.fulls,∃id,ren pi id=some q.1/\(id,q.2)∈d0.fulls):=by
    cases o0 with
    |box cs0=>
     simp only[TO.can]at h1;split at h1;rotate_left;simp at h1;rename_i cs1 hcs;cases h1;have lst:∀(c0 c1:List (TV U)),(∀c∈c0,c.inv (T.freezeL fs).objs)->Zh (TV.can (T.freezeL fs) pi depth) c0=some c1->Zh (D.can (T.freezeL fs).enc.objs (T.freezeL fs).enc.fz pi depth) (TV.encs c0)=some (TV.encs c1)/\∀d∈c1,∃d0∈c0,∀q∈d.fulls,∃id,ren pi id=some q.1/\(id,q.2)∈d0.fulls:=by
      intro c0
      induction c0 with
      |nil=>intro c1 _ h;simp[Zh]at h;subst h;exact⟨rfl,by simp⟩
      |cons c c0 ihc=>
       intro c1 hi h;simp only[Zh]at h;split at h;rotate_left;simp at h;rename_i y ys h1 h2;cases h;obtain⟨a1,a2⟩:=Zh4 hU hb depth c y (hi c (by simp)) h1;obtain⟨a3,a4⟩:=ihc ys (fun a ha=>hi a (by simp[ha])) h2;refine⟨by simp only[TV.encs,Zh,a1,a3],fun d hd=> ?_⟩;rcases ZmN.1 hd with rfl |hd
       ·exact⟨c,by simp,a2⟩
       ·obtain⟨d0,hd0,hq⟩:=a4 d hd;exact⟨d0,by simp[hd0],hq⟩
     obtain⟨a1,a2⟩:=lst cs0 cs1 (hb x.2 cs0 ho) hcs;refine⟨by simp only[ZaP,Obj.can,a1],(fun t xs fix hq=>by cases hq),fun cs hq=> ?_⟩;cases hq;exact⟨cs0,rfl,a2⟩
    |gone=>simp[TO.can]at h1
    |arr t xs fix=>simp only[TO.can,ZmZ]at h1;subst h1;exact⟨rfl,fun _ _ _ _=>rfl,fun cs hq=>by cases hq⟩
    |map a b kv=>simp only[TO.can,ZmZ]at h1;subst h1;exact⟨rfl,fun _ _ _ _=>rfl,fun cs hq=>by cases hq⟩
    |sit s p=>simp only[TO.can,ZmZ]at h1;subst h1;exact⟨rfl,fun _ _ _ _=>rfl,fun cs hq=>by cases hq⟩
    |mit a b r c=>simp only[TO.can,ZmZ]at h1;subst h1;exact⟨rfl,fun _ _ _ _=>rfl,fun cs hq=>by cases hq⟩
   refine⟨by simp only[Zh,he,main.1,q3,ZmL],fun j y o' hj hj'=> ?_⟩;cases j with
   |zero=>
    simp only[Zne,ZmZ]at hj hj';subst hj hj';exact⟨o0,ho,main.2⟩
   |succ j=>exact q4 j y o' (by simpa using hj) (by simpa using hj')
 obtain⟨o1,o2⟩:=objC pi os' hos;have hlen:os'.length=pi.length:=(Zk hos).1;have carry:∀q,(∃id,ren pi id=some q.1/\Zix (T.freezeL fs).objs (id,q.2))->Zix (mkC lent live ds' os').objs q:=by
  rintro q ⟨id,hr,o,ho,hl⟩;have hm:=Zjv hr;obtain⟨j,hj⟩:=ZnD.1 hm;have hjl:j < os'.length:=by rw[hlen];exact(ZmI.1 hj).1
  have hoj:os'[j]? =some os'[j]:=by simp[hjl]
  obtain⟨o0,h0,h00,_⟩:=o2 j _ _ hj hoj;refine⟨os'[j], ?_,fun t xs fix he=> ?_⟩
  ·show Ze ((Zgb lent os'.length).zip os') q.1=_;rw[<-hids,Zju hn1 hr hj,hoj]
  ·have:=h00 t xs fix he;rw[he]at this;dsimp only at h0 ho;rw[h0,ZmZ]at ho;exact hl t xs fix (by rw[<-ho,this])
 refine⟨⟨fun kk=> ?_,fun id o ho=> ?_⟩,fun ha=> ?_⟩
 ·show TV.inv _ (Zam TV.dead (live.zip ds') kk);rcases ZaI TV.dead (live.zip ds') kk with hq |hq
  ·rw[hq];exact Zg rfl
  ·have hm:=(List.of_mem_zip hq).2;obtain⟨t,_,hf⟩:=pdsL.2 _ hm;intro q hq';obtain⟨id,h1,h2⟩:=hf q hq';exact carry q ⟨id,h1,hT1.slots t _ h2⟩
 ·have ho':Ze ((Zgb lent os'.length).zip os') id=some o:=ho;have hmem:=List.of_mem_zip (ZY ho');cases o with
  |box cs=>
   obtain⟨j,hj⟩:=ZnD.1 hmem.2;have hjl:j < pi.length:=by rw[<-hlen];exact(ZmI.1 hj).1
   obtain⟨o0,h0,_,hbx⟩:=o2 j pi[j] _ (by simp[hjl]) hj;obtain⟨cs0,rfl,hf⟩:=hbx cs rfl;intro d hd q hq;obtain⟨d0,hd0,hf⟩:=hf d hd;obtain⟨id',h1,h2⟩:=hf q hq;exact carry q ⟨id',h1,hb _ _ h0 d0 hd0 _ h2⟩
  |_=>trivial
 ·intro ρ S a w hrep hd;obtain⟨S',_,_,hfr,_⟩:=hrep.freeze fs (fun f hf=>by
   have:=hhere f hf;unfold Zlf at this;split at this
   ·simp at this
   ·rename_i o hg ho;exact⟨o.enc,Zf ho,by
     intro he;cases o with
     |gone=>exact hg rfl
     |_=>simp[TO.enc]at he⟩
   ·simp at this)
  rw[<-Eng.freezeL_enc]at hfr;have h2:=hfr.canon (ZmT 1) hok hkeep o1 pdsL.1;rw[show (pi.map (·.1))=Zgb lent os'.length from hids]at h2;unfold mkC at ha;rw[ZlQ]at ha;exact ha _ S' a w (h2.weakX fun _ h=>h.elim) hd
end
end Eng
namespace Eng
open Go
section
variable {U:Zc}
inductive TQ (U:Zc) where
 |l (x:Lf U.car)
 |ptr (cs:List (Lf U.car))
 |fn (f:Nat) (first caps:List (TQ U))
 |nilp |nilfn
mutual
def TQ.enc:TQ U->P
 | .l x=>U.encL x
 | .ptr cs=> .ptr (cs.map U.encL)
 | .fn f a b=> .fn f (TQ.encs a) (TQ.encs b)
 | .nilp=> .nilp
 | .nilfn=> .nilfn
def TQ.encs:List (TQ U)->List P
 | []=>[]
 |q::r=>q.enc::TQ.encs r
end
mutual
def TQ.tv:TQ U->TV U
 | .l x=>lv x
 | .ptr cs=> .pp cs
 | .fn f a b=> .fn f (TQ.tvs a) (TQ.tvs b)
 | .nilp=> .nilp
 | .nilfn=> .nilfn
def TQ.tvs:List (TQ U)->List (TV U)
 | []=>[]
 |q::r=>q.tv::TQ.tvs r
end
inductive ZR (U:Zc) where
 |p (q:TQ U)
 |box (cs:List (Lf U.car))
 |arr (t:Ty) (xs:List (El U.car t))
 |map (k v:Ty) (kv:List (El U.car k×El U.car v))
 |part (t:Ty) (xs:List (El U.car t)) (off len:Nat)
def ZR.enc:ZR U->Arg
 | .p q=> .p q.enc
 | .box cs=> .box (cs.map U.encL)
 | .arr t xs=> .arr (U.tsize t) (xs.map (U.encE t))
 | .map k v b=> .map k.td (b.map fun e=>(U.encE k e.1,U.encE v e.2))
 | .part t xs a len=> .part (U.tsize t) (xs.map (U.encE t)) a len
inductive TRV (U:Zc) where
 |p (l:Lf U.car)
 |own (t:Ty) (xs:List (El U.car t))
 |box (cs:List (Lf U.car))
 |map (k v:Ty) (kv:List (El U.car k×El U.car v))
 |view (k off len:Nat)
 |aown (pre:List (Lf U.car)) (t:Ty) (xs:List (El U.car t)) (post:List (Lf U.car))
def TRV.enc:TRV U->RV
 | .p l=> .p (U.encL l)
 | .own t xs=> .own (U.tsize t) (xs.map (U.encE t))
 | .box cs=> .box (cs.map U.encL)
 | .map k v c=> .map k.td (c.map fun e=>(U.encE k e.1,U.encE v e.2))
 | .view k b len=> .view k b len
 | .aown pre t xs a=> .aown (pre.map U.encL) (U.tsize t) (xs.map (U.encE t)) (a.map U.encL)
structure ZbB (U:Zc) where
 res:List (TRV U)
 outs:List (Nat×ZR U):=[]
def ZbB.enc (r:ZbB U):Ret:=⟨r.res.map TRV.enc,r.outs.map fun x=>(x.1,x.2.enc)⟩
structure SigR (U:Zc) where
 α:Type
 o:Option α
 give:α->ZbB U
structure Zi8 (U:Zc) where
 pts:List Nat
 ms:List AM
 hs:List (Option Nat)
 sig:List (ZR U)->Option (SigR U)
def Zc8 (T:TS U) (h:Option Nat):Nat->TV U->Option (TQ U)
 |_,.pp cs=>some (.ptr cs)
 |_,.nilp=>some .nilp
 |_,.nilfn=>some .nilfn
 |_,.ptr id i j=>match T.objs id with
  |some (.box cs)=>if i=0 then match Zh T.lf1 (cs.drop j)with
   |some c=>some (.ptr c)
   |none=>none
   else none
  |_=>none
 |n+1,.fn f a b=>match Zh (Zc8 T none n) a,Zh (Zc8 T none n) b with
  |some a',some b'=>some (.fn f a' b')
  |_,_=>none
 |_,d=>match T.lf h d with
  |some l=>some (.l l)
  |none=>none
theorem Zjx:∀l:List (TQ U),TQ.encs l=l.map TQ.enc
 | []=>rfl
 |q::r=>by rw[TQ.encs,Zjx r];rfl
mutual
theorem Zjc:∀q:TQ U,q.tv.enc= .p q.enc/\q.tv.fulls=[]
 | .l x=>⟨rfl,rfl⟩
 | .ptr cs=>⟨rfl,rfl⟩
 | .nilp=>⟨rfl,rfl⟩
 | .nilfn=>⟨rfl,rfl⟩
 | .fn f a b=>by obtain⟨g,c⟩:=ZgN a;obtain⟨e,d⟩:=ZgN b;refine⟨?_,by simp only[TQ.tv,TV.fulls,c,d,List.append_nil]⟩;simp only[TQ.tv,TV.enc,g,e,fnD,Zat,TQ.enc]
theorem ZgN:∀l:List (TQ U),TV.encs (TQ.tvs l)=(TQ.encs l).map .p/\TV.fullsL (TQ.tvs l)=[]
 | []=>⟨rfl,rfl⟩
 |q::r=>by obtain⟨a,d⟩:=Zjc q;obtain⟨c,b⟩:=ZgN r;exact⟨by simp only[TQ.tvs,TV.encs,a,c,TQ.encs,ZmL],by simp only[TQ.tvs,TV.fullsL,d,b,List.append_nil]⟩
end
theorem Zjw (E:UOk U) {T:TS U} (L:T.Inv):∀(n:Nat) (h:Option Nat) (d:TV U) (q:TQ U),d.inv T.objs->Zc8 T h n d=some q->d.enc.toP T.enc.objs (n+1)=some q.enc:=by
 have base:∀(n:Nat) (h:Option Nat) (d:TV U) (q:TQ U),(∀f a b,d≠ .fn f a b)->d.inv T.objs->Zc8 T h n d=some q->d.enc.toP T.enc.objs (n+1)=some q.enc:=by
  intro n h d q z hi e;have k:(match T.lf h d with |some l=>some (TQ.l l) |none=>none)=some q->d.enc.toP T.enc.objs (n+1)=some q.enc:=fun g=>by split at g;rotate_left;simp at g;rename_i l u;cases g;exact ZeS E hi u n
  cases d with
  |pp cs=>simp only[Zc8,ZmZ]at e;subst e;simp[TV.enc,TQ.enc]
  |nilp=>simp only[Zc8,ZmZ]at e;subst e;simp[TV.enc,TQ.enc]
  |nilfn=>simp only[Zc8,ZmZ]at e;subst e;simp[TV.enc,TQ.enc]
  |ptr id i j=>
   simp only[Zc8]at e;split at e;rotate_left;simp at e;rename_i cs C;split at e;rotate_left;simp at e;rename_i H;subst H;split at e;rotate_left;simp at e;rename_i M t;cases e;have:=Zch n (fun c o=>L.objs id _ C c (ZnE o)) t;rw[Zbt]at this;simp only[TV.enc,D.toP,Zf C,ZaP,if_true,this,ZnG,TQ.enc]
  |fn f a b=>exact absurd rfl (z f a b)
  |_=>cases n<;>exact k e
 intro n
 induction n with
 |zero=>
  intro h d q hi e;cases d with
  |fn f a b=>
   simp only[Zc8]at e;split at e;rotate_left;simp at e;rename_i l u;cases e;exact ZeS E hi u 0
  |_=>exact base 0 h _ q (by simp) hi e
 |succ n A=>
  intro h d q hi e;cases d with
  |fn f a b=>
   simp only[Zc8]at e;split at e;rotate_left;simp at e;rename_i K b' v J;cases e;have m:∀(l:List (TV U)) (l':List (TQ U)),(∀c∈l,c.inv T.objs)->Zh (Zc8 T none n) l=some l'->Zh (D.toP T.enc.objs (n+1)) (TV.encs l)=some (TQ.encs l'):=by
    intro l
    induction l with
    |nil=>intro l' _ h;simp[Zh]at h;subst h;rfl
    |cons c l w=>
     intro l' hi h;simp only[Zh]at h;split at h;rotate_left;simp at h;rename_i y F G I;cases h;simp only[TV.encs,Zh,A none c y (hi c (by simp)) G,w F (fun a v=>hi a (by simp[v])) I,TQ.encs]
   have p:=m a K (fun c o q g=>hi q (by simp only[TV.fulls,ZmM];exact .inl (Zr.2 ⟨c,o,g⟩))) v;have lb:=m b b' (fun c o q g=>hi q (by simp only[TV.fulls,ZmM];exact .inr (Zr.2 ⟨c,o,g⟩))) J;rw[TV.enc,TQ.enc];unfold fnD;have B:∀(s:List P),Zh (D.toP T.enc.objs (n+1)) (s.map .p)=some s:=by
    intro s
    induction s with
    |nil=>rfl
    |cons x r A=>simp only[ZmL,Zh,Zje,A]
   cases hpa:Zh D.pure? (TV.encs a)with
   |none=>simp only[D.toP,p,lb]
   |some x=>
    cases hpb:Zh D.pure? (TV.encs b)with
    |none=>simp only[D.toP,p,lb]
    |some y=>
     rw[Zt hpa,B,ZmZ]at p;rw[Zt hpb,B,ZmZ]at lb;simp only[Zje,p,lb]
  |_=>exact base (n+1) h _ q (by simp) hi e
structure AET (U:Zc) where
 arg:ZR U
 fs:List Id:=[]
 id:Option Id:=none
def argT (T:TS U) (m:AM) (h:Option Nat) (d:TV U):Option (AET U):=
 match m,d with
 | .p,d=>match Zc8 T h 7 d with
  |some q=>some {arg:= .p q,fs:=d.enc.ids T.enc.objs depth}
  |none=>none
 | .lend,.ptr id 0 0=>match T.objs id with
  |some (.box ds)=>match Zh T.lf1 ds with
   |some a=>some {arg:= .box a,fs:=(TV.encs ds).flatMap fun d=>d.ids T.enc.objs depth,id:=some id}
   |none=>none
  |_=>none
 | .lend,.full id _=>match T.objs id with
  |some (.arr t xs false)=>some {arg:= .arr t xs,id:=some id}
  |_=>none
 | .lend,.map id=>match T.objs id with
  |some (.map k v kv)=>some {arg:= .map k v kv,id:=some id}
  |_=>none
 | .part,.sl id off len=>match T.objs id with
  |some (.arr t xs false)=>some {arg:= .part t xs off len,id:=some id}
  |_=>none
 |_,_=>none
def AET.ae (a:AET U) (cs:List Bool):AE:={arg:=a.arg.enc,fs:=a.fs,id:=a.id,cond:=cs}
theorem ZcJ {T:TS U} {cs:List (TV U)} {a:List (Lf U.car)} (hi:∀d∈cs,d.inv T.objs) (h:Zh T.lf1 cs=some a):Zh (fun d=>D.toP T.enc.objs depth d) (TV.encs cs)=some (a.map U.encL):=Zch depth hi h
theorem Zmf (r:UOk U) {T:TS U} (g:T.Inv) {m:AM} {h:Option Nat} {d:TV U} {a:AET U} (hi:d.inv T.objs) (b:argT T m h d=some a):∃cs,ZgE T.enc m d.enc=some (a.ae cs)/\∀q∈cs,q=true:=by
 unfold argT at b;split at b
 ·split at b;rotate_left;simp at b;rename_i q i;cases b;exact⟨[],by simp only[ZgE,depth,Zjw r g 7 h d q hi i,AET.ae,ZR.enc],by simp⟩
 ·rename_i id;split at b;rotate_left;simp at b;rename_i w c;split at b;rotate_left;simp at b;rename_i u e;cases b;refine⟨[], ?_,by simp⟩;simp only[ZgE,TV.enc,Zf c,ZaP,ZcJ (g.objs id _ c) e,AET.ae,ZR.enc]
 ·rename_i id n;split at b;rotate_left;simp at b;rename_i t xs c;cases b;obtain⟨o,f,l⟩:=hi (id,n) (by simp[TV.fulls]);dsimp only at f;have j:=l t xs false (by rw[c,ZmZ]at f;exact f.symm);refine⟨[decide (n=(xs.map (U.encE t)).length)], ?_,by simp[j]⟩;simp only[ZgE,TV.enc,Zf c,ZJ,AET.ae,ZR.enc]
 ·rename_i id;split at b;rotate_left;simp at b;rename_i k v s c;cases b;exact⟨[],by simp only[ZgE,TV.enc,Zf c,Z0,AET.ae,ZR.enc],by simp⟩
 ·rename_i id p len;split at b;rotate_left;simp at b;rename_i t xs c;cases b;exact⟨[],by simp only[ZgE,TV.enc,Zf c,ZJ,AET.ae,ZR.enc],by simp⟩
 ·simp at b
def Z5 (T:TS U):List AM->List (Option Nat)->List (TV U)->Option (List (AET U))
 | [],_,[]=>some []
 |m::ms,h::hs,d::ds=>match argT T m h d,Z5 T ms hs ds with
  |some a,some r=>some (a::r)
  |_,_=>none
 |_,_,_=>none
theorem Ze4 (j:UOk U) {T:TS U} (i:T.Inv):∀{ms:List AM} {f:List (Option Nat)} {e:List (TV U)} {c:List (AET U)},(∀d∈e,d.inv T.objs)->Z5 T ms f e=some c->
  ∃b:List AE,Zh (fun x:AM×D=>ZgE T.enc x.1 x.2) (ms.zip (TV.encs e))=some b/\e.length=ms.length/\b.map (·.arg)=c.map (fun a=>a.arg.enc)/\b.flatMap (·.fs)=c.flatMap (·.fs)/\(∀q∈b.flatMap (·.cond),q=true)/\b.map (·.id)=c.map (·.id)
 | [],f,[],c,_,h=>by simp only[Z5,ZmZ]at h;subst h;exact⟨[],rfl,rfl,rfl,rfl,by simp,rfl⟩
 | [],f,d::e,c,_,h=>by simp[Z5]at h
 |m::ms,[],e,c,_,h=>by simp[Z5]at h
 |m::ms,hh::f,[],c,_,h=>by simp[Z5]at h
 |m::ms,hh::f,d::e,c,hi,h=>by simp only[Z5]at h;split at h;rotate_left;simp at h;rename_i a r t s;cases h;obtain⟨cs,q1,w⟩:=Zmf j i (hi d (by simp)) t;obtain⟨b,o,n,k,u,v,l⟩:=Ze4 j i (fun a p=>hi a (by simp[p])) s;refine⟨a.ae cs::b,by simp only[TV.encs,ZnF,Zh,q1,o],by simp[n],by simp[AET.ae,k],by simp[AET.ae,u], ?_,by simp[AET.ae,l]⟩;intro q g;simp only[List.flatMap_cons,ZmM]at g;exact g.elim (fun h=>w q h) (fun h=>v q h)
def ZR.o:ZR U->Option (TO U)
 | .p _=>none
 | .box cs=>some (.box (cs.map lv))
 | .arr t xs=>some (.arr t xs false)
 | .map k v a=>some (.map k v a)
 | .part t xs _ _=>some (.arr t xs false)
def Ze2 (outs:List (Nat×ZR U)) (k:Nat):TO U:=match Ze outs k with
 |some a=>match a.o with
  |some o=>o
  |none=> .gone
 |none=> .gone
def ZgA (outs:List (Nat×ZR U)):Nat->List (AET U)->List (Id×TO U)
 |_,[]=>[]
 |k,x::r=>match x.id with
  |some id=>(id,Ze2 outs k)::ZgA outs (k+1) r
  |none=>ZgA outs (k+1) r
def TRV.at (ep i:Nat) (d:List (AET U)) (j:Nat):TRV U->Option (TV U)
 | .p l=>some (lv l)
 | .own _ es=>some (.full (ep,i,j) es.length)
 | .box _=>some (.ptr (ep,i,j) 0 0)
 | .map _ _ _=>some (.map (ep,i,j))
 | .view k c len=>match d[k]? with
  |some a=>match a.id with
   |some id=>some (.sl id c len)
   |none=>none
  |none=>none
 | .aown pre _ es b=>some (.agg (pre.map lv++ .full (ep,i,j) es.length::b.map lv))
def TRV.o:TRV U->Option (TO U)
 | .own t es=>some (.arr t es false)
 | .aown _ t es _=>some (.arr t es false)
 | .box cs=>some (.box (cs.map lv))
 | .map k v a=>some (.map k v a)
 |_=>none
def Zc0 (ep i:Nat) (a:List (AET U)):Nat->List (TRV U)->Option (List (TV U))
 |_,[]=>some []
 |j,x::r=>match x.at ep i a j,Zc0 ep i a (j+1) r with
  |some d,some ds=>some (d::ds)
  |_,_=>none
def ZaC:Nat->List (TRV U)->List (Nat×TO U)
 |_,[]=>[]
 |j,x::r=>match x.o with
  |some o=>(j,o)::ZaC (j+1) r
  |none=>ZaC (j+1) r
def tupT:List (TV U)->TV U
 | [d]=>d
 |ds=> .tup ds
def Zgx (T:TS U) (i:Nat) (a:List (AET U)) (ret:ZbB U):Option (Zi U):=
 match Zc0 T.ep i a 0 ret.res with
 |some b=>some {val:=tupT b,new:=ZaC 0 ret.res,wr:=ZgA ret.outs 0 a,frz:=a.flatMap (·.fs)}
 |none=>none
theorem Zib (a:ZR U):Zip a.o=a.enc.o:=by
 cases a with
 |p q=>rfl
 |box cs=>simp only[ZR.o,Zip,TO.enc,Zbs,ZR.enc,Arg.o]
 |arr t xs=>rfl
 |map k v c=>rfl
 |part t xs b len=>rfl
theorem Ze3 {c β d:Type} [DecidableEq c] (f:β->d):∀(l:List (c×β)) (x:c),Ze (l.map fun y=>(y.1,f y.2)) x=(Ze l x).map f
 | [],x=>rfl
 |(a,b)::r,x=>by
  simp only[ZmL,Ze];split
  ·rfl
  ·exact Ze3 f r x
theorem ZiY (outs:List (Nat×ZR U)) (k:Nat):(Ze2 outs k).enc=Zex (outs.map fun x=>(x.1,x.2.enc)) k:=by
 unfold Ze2 Zex;rw[Ze3];cases Ze outs k with
 |none=>rfl
 |some a=>
  simp only[ZnG];rw[<-Zib a];cases a.o<;>rfl
theorem Zd8 (outs:List (Nat×ZR U)):∀(k:Nat) (d:List (AET U)) (c:List AE),c.map (·.id)=d.map (·.id)->(ZgA outs k d).map (fun x=>(x.1,x.2.enc))=Zbx (outs.map fun x=>(x.1,x.2.enc)) k c
 |k,[],[],_=>rfl
 |k,[],_::_,h=>by simp at h
 |k,_::_,[],h=>by simp at h
 |k,a::d,b::bs,h=>by
  simp only[ZmL,List.cons.injEq]at h;simp only[ZgA,Zbx,h.1];cases a.id with
  |none=>exact Zd8 outs (k+1) d bs h.2
  |some id=>simp only[ZmL,Zd8 outs (k+1) d bs h.2,ZiY]
theorem Zf3 (d:D) (b:d.pure?=none) (a:List D):∀pre:List P,Zh D.pure? (pre.map D.p++d::a)=none
 | []=>by simp[Zh,b]
 |x::pre=>by have:=Zf3 d b a pre;simp[Zh,this]
theorem Zh1 (pre a:List (Lf U.car)) (id:Id) (n:Nat):(TV.agg (pre.map lv++ .full id n::a.map lv):TV U).enc= .agg ((pre.map U.encL).map .p++ .sl id 0 n::(a.map U.encL).map .p):=by
 have e:TV.encs (pre.map lv++ .full id n::a.map lv)=(pre.map U.encL).map .p++ .sl id 0 n::(a.map U.encL).map .p:=by rw[Zac,Zny,ZmL,<-Zac,<-Zac,Zbs,Zbs];rfl
 rw[TV.enc,e];unfold D.mkAgg;rw[Zf3 _ rfl]
theorem ZiE {pre b:List (Lf U.car)} {id:Id} {n:Nat} {q:Id×Nat} (h:q∈(TV.agg (pre.map lv++ .full id n::b.map lv):TV U).fulls):q=(id,n):=by
 rw[TV.fulls]at h;obtain⟨d,a,c⟩:=Zr.1 h;rcases ZmM.1 a with a |a
 ·obtain⟨l,_,rfl⟩:=Znk.1 a;simp[lv,TV.fulls]at c
 ·rcases ZmN.1 a with rfl |a
  ·simpa[TV.fulls]using c
  ·obtain⟨l,_,rfl⟩:=Znk.1 a;simp[lv,TV.fulls]at c
theorem Zkx {ep i j:Nat} {g:List (AET U)} {c:List AE} (m:c.map (·.id)=g.map (·.id)) {x:TRV U} {d:TV U} (h:x.at ep i g j=some d):x.enc.at ep i c j=some d.enc:=by
 cases x with
 |p l=>simp only[TRV.at,ZmZ]at h;subst h;rfl
 |own t es=>simp only[TRV.at,ZmZ]at h;subst h;simp only[TRV.enc,RV.at,TV.enc,Znx]
 |box cs=>simp only[TRV.at,ZmZ]at h;subst h;rfl
 |map k v r=>simp only[TRV.at,ZmZ]at h;subst h;rfl
 |aown pre t es n=>simp only[TRV.at,ZmZ]at h;subst h;simp only[Zh1,TRV.enc,RV.at,Znx]
 |view k q len=>
  simp only[TRV.at]at h;have e:(c[k]?).map (·.id)=(g[k]?).map (·.id):=by rw[<-ZmJ,<-ZmJ,m]
  split at h;rotate_left;simp at h;rename_i a o;rw[o]at e;cases hb:c[k]? with
  |none=>rw[hb]at e;simp at e
  |some b=>
   rw[hb]at e;simp only[ZnG,ZmZ]at e;split at h;rotate_left;simp at h;rename_i id f;cases h;simp only[TRV.enc,RV.at,hb,e,f,TV.enc]
theorem ZlD (x:TRV U):Zip x.o=x.enc.o:=by
 cases x with
 |box cs=>simp only[TRV.o,Zip,TO.enc,Zbs,TRV.enc,RV.o]
 |_=>rfl
theorem ZeG {ep i:Nat} {f:List (AET U)} {b:List AE} (a:b.map (·.id)=f.map (·.id)):∀(j:Nat) (l:List (TRV U)) (c:List (TV U)),Zc0 ep i f j l=some c->ZgU ep i b j (l.map TRV.enc)=some (TV.encs c)
 |j,[],c,h=>by simp only[Zc0,ZmZ]at h;subst h;rfl
 |j,x::r,c,h=>by simp only[Zc0]at h;split at h;rotate_left;simp at h;rename_i d e k g;cases h;simp only[ZmL,ZgU,Zkx a k,ZeG a (j+1) r e g,TV.encs]
theorem ZbX:∀(j:Nat) (l:List (TRV U)),(ZaC j l).map (fun x=>(x.1,x.2.enc))=Zbd j (l.map TRV.enc)
 |j,[]=>rfl
 |j,x::r=>by
  simp only[ZaC,ZmL,Zbd];have:=ZlD x;cases hx:x.o with
  |none=>rw[hx]at this;rw[<-this];exact ZbX (j+1) r
  |some o=>rw[hx]at this;rw[<-this];simp only[Zip,ZmL,ZbX (j+1) r]
theorem Zko (c:List (TV U)):(tupT c).enc=tupD (TV.encs c):=by
 match c with
 | []=>rfl
 | [d]=>rfl
 |a::b::r=>rfl
theorem ZiW {T:TS U} {i:Nat} {c:List (AET U)} {a:List AE} {ret:ZbB U} {e:Zi U} (b:a.map (·.id)=c.map (·.id)) (d:a.flatMap (·.fs)=c.flatMap (·.fs)) (h:Zgx T i c ret=some e):ZfG T.enc i a ret.enc=some (e.enc []):=by unfold Zgx at h;split at h;rotate_left;simp at h;rename_i g f;cases h;unfold ZfG;rw[show T.enc.ep=T.ep from rfl,show ret.enc.res=ret.res.map TRV.enc from rfl,ZeG b 0 _ g f];simp only[Zi.enc,Zko,ZbX,ZbB.enc,Zd8 ret.outs 0 c a b,d]
def ZR.len?:ZR U->Option Nat
 | .arr _ xs=>some xs.length
 | .part _ xs _ _=>some xs.length
 |_=>none
def Zej (args:List (ZR U)) (ret:ZbB U):Prop:=∀k a n,(k,a)∈ret.outs->a.len?=some n->∃b,args[k]? =some b/\b.len?=some n
theorem Zco {outs:List (Nat×ZR U)}:∀(n:Nat) (l:List (AET U)) (id:Id) (o:TO U),(id,o)∈ZgA outs n l->∃j x,l[j]? =some x/\x.id=some id/\o=Ze2 outs (n+j)
 |n,[],id,o,h=>by simp[ZgA]at h
 |n,x::r,id,o,h=>by
  simp only[ZgA]at h;split at h
  ·rename_i e b;rcases ZmN.1 h with h |h
   ·simp only[Zm0]at h;exact⟨0,x,rfl,by rw[b,h.1],by simpa using h.2⟩
   ·obtain⟨j,y,c,a,d⟩:=Zco (n+1) r id o h;exact⟨j+1,y,by simpa using c,a,by rw[d];congr 1;omega⟩
  ·obtain⟨j,y,c,a,d⟩:=Zco (n+1) r id o h;exact⟨j+1,y,by simpa using c,a,by rw[d];congr 1;omega⟩
theorem Zed {T:TS U}:∀{ms:List AM} {e:List (Option Nat)} {f:List (TV U)} {c:List (AET U)},Z5 T ms e f=some c->∀(j:Nat) (a:AET U),c[j]? =some a->∃m h d,argT T m h d=some a
 | [],e,[],c,h,j,a,ha=>by simp only[Z5,ZmZ]at h;subst h;simp at ha
 | [],e,d::f,c,h,j,a,ha=>by simp[Z5]at h
 |m::ms,[],f,c,h,j,a,ha=>by simp[Z5]at h
 |m::ms,hh::e,[],c,h,j,a,ha=>by simp[Z5]at h
 |m::ms,hh::e,d::f,c,h,j,a,ha=>by
  simp only[Z5]at h;split at h;rotate_left;simp at h;rename_i b r i g;cases h;cases j with
  |zero=>simp only[Zne,ZmZ]at ha;subst ha;exact⟨_,_,_,i⟩
  |succ j=>exact Zed g j a (by simpa using ha)
theorem ZaB:∀(j:Nat) (l:List (TRV U)) (k:Nat) (o:TO U),(k,o)∈ZaC j l->∃(m:Nat) (x:TRV U),l[m]? =some x/\k=j+m/\x.o=some o
 |j,[],k,o,h=>by simp[ZaC]at h
 |j,x::r,k,o,h=>by
  simp only[ZaC]at h;split at h
  ·rename_i o' d;rcases ZmN.1 h with h |h
   ·simp only[Zm0]at h;exact⟨0,x,rfl,by simp[h.1],by rw[d,h.2]⟩
   ·obtain⟨m,y,a,c,b⟩:=ZaB (j+1) r k o h;exact⟨m+1,y,by simpa using a,by omega,b⟩
  ·obtain⟨m,y,a,c,b⟩:=ZaB (j+1) r k o h;exact⟨m+1,y,by simpa using a,by omega,b⟩
theorem ZcD:∀(j:Nat) (l:List (TRV U)) (m:Nat) (x:TRV U) (o:TO U),l[m]? =some x->x.o=some o->(j+m,o)∈ZaC j l
 |j,[],m,x,o,h,_=>by simp at h
 |j,y::r,m,x,o,h,ho=>by
  cases m with
  |zero=>
   simp only[Zne,ZmZ]at h;subst h;simp only[ZaC,ho];exact ZmO
  |succ m=>
   have:=ZcD (j+1) r m x o (by simpa using h) ho;rw[show j+1+m=j+(m+1) by omega]at this;simp only[ZaC];split
   ·exact Zni _ this
   ·exact this
theorem Zfq:∀(l:List (Id×TO U)) (T:TS U) (id:Id) (o:TO U),(id,o)∈l->(∀o',(id,o')∈l->o'=o)->(T.objL l).objs id=some o
 | [],T,id,o,h,_=>by simp at h
 |(a,u)::l,T,id,o,h,hu=>by
  simp only[TS.objL]
  by_cases hm:∃o',(id,o')∈l
  ·obtain⟨o',c⟩:=hm;have:=hu o' (Zni _ c);subst this;exact Zfq l _ id o' c fun e g=>hu e (Zni _ g)
  ·rcases ZmN.1 h with h |h
   ·simp only[Zm0]at h;obtain⟨rfl,rfl⟩:=h;have key:∀(l:List (Id×TO U)) (T:TS U),(¬∃o,(id,o)∈l)->(T.objL l).objs id=T.objs id:=by
     intro l
     induction l with
     |nil=>intro T _;rfl
     |cons x l f=>
      obtain⟨b,v⟩:=x;intro T d;simp only[TS.objL];rw[f _ (fun⟨o,j⟩=>d ⟨o,Zni _ j⟩)];simp only[upd];split
      ·rename_i i;subst i;exact absurd ⟨v,ZmO⟩ d
      ·rfl
    rw[key l _ hm];simp[upd]
   ·exact absurd ⟨o,h⟩ hm
theorem ZeF {ep i:Nat} {e:List (AET U)}:∀(j:Nat) (l:List (TRV U)) (b:List (TV U)),Zc0 ep i e j l=some b->∀d∈b,∃(m:Nat) (x:TRV U),l[m]? =some x/\x.at ep i e (j+m)=some d
 |j,[],b,h,d,a=>by simp only[Zc0,ZmZ]at h;subst h;simp at a
 |j,x::r,b,h,d,a=>by
  simp only[Zc0]at h;split at h;rotate_left;simp at h;rename_i n c g f;cases h;rcases ZmN.1 a with rfl |a
  ·exact⟨0,x,rfl,g⟩
  ·obtain⟨m,y,q1,k⟩:=ZeF (j+1) r c f d a;exact⟨m+1,y,by simpa using q1,by rw[show j+(m+1)=j+1+m by omega];exact k⟩
theorem ZiV {T:TS U} {i:Nat} {E:List (AET U)} {ms:List AM} {hs:List (Option Nat)} {X:List (TV U)} (K:Z5 T ms hs X=some E) {ret:ZbB U} (V:Zej (E.map (·.arg)) ret) {e:Zi U} (h:Zgx T i E ret=some e):ZK T i e:=by
 unfold Zgx at h;split at h;rotate_left;simp at h;rename_i M L;cases h;have box:∀(cs:List (Lf U.car)) (lk:Id->Option (TO U)),(TO.box (cs.map lv)).inv lk:=fun cs lk d c=>by obtain⟨l,_,rfl⟩:=Znk.1 c;exact Zai _ _
 have H:∀(a:ZR U) (o:TO U) (lk:Id->Option (TO U)),a.o=some o->o.inv lk:=fun a o lk F=>by
  cases a<;>simp only[ZR.o,ZmZ,reduceCtorEq]at F<;>subst F
  ·exact box _ _
  ·trivial
  ·trivial
  ·trivial
 refine⟨fun id o I t xs fix g=> ?_,fun hf=> ?_,fun _ o S=> ?_⟩
 ·obtain⟨j,x,q1,f,C⟩:=Zco 0 E id o I;rw[C]at g;unfold Ze2 at g;split at g;rotate_left;simp at g;rename_i a F;have key:∀N (w:List (El U.car N)),a.o=some (.arr N w false)->a.len?=some w.length:=fun N w h=>by
   cases a with
   |p q=>simp[ZR.o]at h
   |box cs=>simp[ZR.o]at h
   |map k v kv=>simp[ZR.o]at h
   |arr R z=>simp only[ZR.o,ZmZ,TO.arr.injEq]at h;obtain⟨rfl,h,_⟩:=h;cases h;rfl
   |part R z P len=>simp only[ZR.o,ZmZ,TO.arr.injEq]at h;obtain⟨rfl,h,_⟩:=h;cases h;rfl
  have D:fix=false:=by
   cases a<;>simp[ZR.o]at g
   ·exact g.2.2
   ·exact g.2.2
  split at g;rotate_left;simp at g;rename_i o S;subst g;subst D;obtain⟨a',u,s⟩:=V _ _ _ (ZY F) (key t xs S);rw[ZmJ,Znp,q1,ZnG,ZmZ]at u;subst u;obtain⟨m,hh,d,c⟩:=Zed K j x q1;unfold argT at c;split at c
  ·split at c;rotate_left;simp at c;cases c;simp at f
  ·split at c;rotate_left;simp at c;split at c;rotate_left;simp at c;cases c;simp[ZR.len?]at s
  ·split at c;rotate_left;simp at c;rename_i R z B;cases c;cases f;simp only[ZR.len?,ZmZ]at s;exact⟨_,_,_,B,s.symm⟩
  ·split at c;rotate_left;simp at c;cases c;simp[ZR.len?]at s
  ·split at c;rotate_left;simp at c;rename_i R z B;cases c;cases f;simp only[ZR.len?,ZmZ]at s;exact⟨_,_,_,B,s.symm⟩
  ·simp at c
 ·intro q n;have:∃d∈M,q∈d.fulls:=by
   match M,n with
   | [],n=>simp[tupT,TV.fulls,TV.fullsL]at n
   | [d],n=>exact⟨d,by simp,n⟩
   |a::b::r,n=>exact Zr.1 n
  obtain⟨d,c,n⟩:=this;obtain⟨m,x,q1,f⟩:=ZeF 0 _ M L d c;cases x with
  |p l=>simp only[TRV.at,ZmZ]at f;subst f;simp[lv,TV.fulls]at n
  |box cs=>simp only[TRV.at,ZmZ]at f;subst f;simp[TV.fulls]at n
  |map k v kv=>simp only[TRV.at,ZmZ]at f;subst f;simp[TV.fulls]at n
  |view k P len=>
   simp only[TRV.at]at f;split at f;rotate_left;simp at f;split at f;rotate_left;simp at f;cases f;simp[TV.fulls]at n
  |aown pre t xs Y=>
   simp only[TRV.at,ZmZ]at f;subst f;obtain rfl:=ZiE n;refine⟨.arr t xs false, ?_,fun t' Q J g=>by cases g;rfl⟩;refine Zfq _ _ _ _ (Znk.2 ⟨_,ZcD 0 _ m _ _ q1 rfl,rfl⟩) fun o' A=> ?_
   obtain⟨y,O,g⟩:=Znk.1 A;simp only[Zm0,true_and]at g;obtain⟨Z,rfl⟩:=g;obtain⟨W,x',u,s,G⟩:=ZaB 0 _ _ _ O;have:W=m:=by omega
   subst this;rw[q1,ZmZ]at u;subst u;simp only[TRV.o,ZmZ]at G;exact G.symm
  |own t xs=>
   simp only[TRV.at,ZmZ]at f;subst f;simp only[TV.fulls,ZmQ]at n;subst n;refine⟨.arr t xs false, ?_,fun t' Q J g=>by cases g;rfl⟩;refine Zfq _ _ _ _ (Znk.2 ⟨_,ZcD 0 _ m _ _ q1 rfl,rfl⟩) fun o' A=> ?_
   obtain⟨y,O,g⟩:=Znk.1 A;simp only[Zm0,true_and]at g;obtain⟨Z,rfl⟩:=g;obtain⟨W,x',u,s,G⟩:=ZaB 0 _ _ _ O;have:W=m:=by omega
   subst this;rw[q1,ZmZ]at u;subst u;simp only[TRV.o,ZmZ]at G;exact G.symm
 ·rcases S with ⟨k,I⟩ |⟨id,I⟩
  ·obtain⟨m,x,q1,f,C⟩:=ZaB 0 _ _ _ I;cases x<;>simp only[TRV.o,ZmZ,reduceCtorEq]at C<;>subst C
   ·trivial
   ·exact box _ _
   ·trivial
   ·trivial
  ·obtain⟨j,x,q1,f,C⟩:=Zco 0 E id o I;subst C;unfold Ze2;split
   ·rename_i a F;cases hao:a.o with
    |none=>trivial
    |some o=>exact H a o _ hao
   ·trivial
end
end Eng
namespace Eng
open Go
open Go.ChangeMaps (setBlock)
section
variable {C:Ctx} {X:Nat->Prop} {ρ:Id->Option Lay} {S:Nat->Prop} {st:St} {a:Act} {w:World} {i:Nat} {o:Oper}
theorem ZbM {b β:Type} (p:b->Bool):∀(xs:List b) (a:List β),xs.length=a.length->((xs.zip a).filter fun x=>p x.1).length=(xs.filter p).length
 | [],a,h=>by simp
 |x::xs,[],h=>by simp at h
 |x::xs,y::a,h=>by simp only[ZnF,List.filter_cons];have:=ZbM p xs a (by simpa using h);split<;>simp[this]
theorem ZeX {a:Type}:∀(l:List a) (j:Nat) (h:j < l.length),(l[j]::l.eraseIdx j).Perm l
 |x::l,0,h=> .refl _
 |x::l,j+1,h=>by simp only[List.getElem_cons_succ,List.eraseIdx_cons_succ];exact(List.Perm.swap _ _ _).trans ((ZeX l j (by simpa using h)).cons x)
theorem Zcj {i β:Type} (f:i->β) [DecidableEq β] (c:Array β) (e:i) (p:i->Prop):∀(l:List i),(∀x∈l,∀y∈l,f x=f y->x=y)->l.Nodup->e∈l->c.contains (f e)=false->
  (e::l.filter fun x=> !(c.push (f e)).contains (f x)).Perm (l.filter fun x=> !c.contains (f x))
 | [],_,_,he,_=>by simp at he
 |x::l,hinj,hnd,he,hs=>by
  have d:∀y,(c.push (f e)).contains (f y)=(c.contains (f y)||decide (f y=f e)):=fun y=>by
   simp only[Array.contains_eq_mem,Array.mem_push]
   by_cases m:f y∈c<;>by_cases h2:f y=f e<;>simp[m,h2]
  by_cases hx:x=e
  ·subst hx;have g:∀y∈l,decide (f y=f x)=false:=fun y h=>by simp only[decide_eq_false_iff_not];intro j;have:=hinj y (by simp[h]) x (by simp) j;subst this;exact(List.nodup_cons.1 hnd).1 h
   have m:(l.filter fun y=> !(c.push (f x)).contains (f y))=l.filter fun y=> !c.contains (f y):=List.filter_congr fun y h=>by rw[d,g y h];simp
   simp only[List.filter_cons,d x,hs,decide_true,Bool.or_true,Bool.not_true,ZmD,if_false,Bool.not_false,if_true,m];exact .refl _
  ·have k:e∈l:=by simpa[Ne.symm hx]using he
   have n:f x≠f e:=fun j=>hx (hinj x (by simp) e he j)
   have o:=Zcj f c e p l (fun a q b r=>hinj a (by simp[q]) b (by simp[r])) (List.nodup_cons.1 hnd).2 k hs;simp only[List.filter_cons,d x,n,decide_false,Bool.or_false];split
   ·exact(List.Perm.swap x e _).trans (o.cons x)
   ·exact o
theorem ZkF {it:Operand} (h:Rep C X ρ S st a.tmps w) (hi:¬X i) (ht:∀d,o.dst=some d->d < C.E.nt) (hlit:Zz it=true) (ho:o.op= .next it false) {id:Id} {rest:List (P×P)} {cur:Option (P×P)}
  (hx:ev C.E st.slots 0 it= .it id) (hlk:st.objs id=some (.mit rest cur)) (hfz:st.fz id=false):
  (rest=[]/\∃v w',(execOp a.eval o).run C.E.prog w= .ok (.value v) w'/\∃ρ' S',Rep C (fun j=>X j\/j=i) ρ' S' (st.app i o.dst {val:= .tup [.p (.bool false)]}) (a.put o.dst v).tmps w')\/
  ∃(j:Nat) (q:P×P),rest[j]? =some q/\∃v w',(execOp a.eval o).run C.E.prog w= .ok (.value v) w'/\
   ∃ρ' S',Rep C (fun j=>X j\/j=i) ρ' S' (st.app i o.dst {val:= .tup [.p (.bool true),.p q.1,.p q.2],wr:=[(id,.mit (rest.eraseIdx j) (some q))]}) (a.put o.dst v).tmps w':=by
 have h1:=Zj h 0 hlit;rw[hx]at h1;generalize hv:a.eval it=v at h1;cases h1 with
 |it _ L b hL hLb=>
 obtain⟨L',hL',b',hLb',hmit⟩:=h.objs id _ hlk (by simp);rw[hL]at hL';obtain rfl:=ZmY hL';rw[hLb]at hLb';obtain rfl:=ZmY hLb';have hown:=h.own id _ L b hlk (by simp) hL hLb;have over:rest=[]->(Instr.next (.pointer (some ⟨b,0,none⟩)) false o.type).run C.E.prog w= .ok (.tuple #[.bool false]) w->
   ∃v w',(execOp a.eval o).run C.E.prog w= .ok (.value v) w'/\∃ρ' S',Rep C (fun j=>X j\/j=i) ρ' S' (st.app i o.dst {val:= .tup [.p (.bool false)]}) (a.put o.dst v).tmps w':=fun _ hr=>by
  obtain⟨S',hrep⟩:=h.step (i:=i) (t:=o.dst) (e:={val:= .tup [.p (.bool false)]}) (v:= .tuple #[.bool false]) (w':=w) ρ hi ht (ZmT _) (ZS.refl _) (fun _ _ _=>rfl) (by simp) (fun _ _ h=>h) (fun id h=> .inl h) (by simp) (fun _ _ hm=>by simp at hm) (fun _ _ _ _ _ _ _ hm=>by simp at hm) (by simp)
   (fun _ _ _ _ _=> .tup _ _ rfl fun j u c hu hc=>by
    match j with
    |0=>simp at hu hc;subst hu hc;exact .p _ _ (.bool false)
    |j+1=>simp at hc)
  exact⟨_,_,by simp[execOp,ho,hv,Sem.run_bind,hr,Result.andThen,Sem.run],ρ,S',hrep⟩
 rcases hmit with ⟨since,seen,stepped,hb,rfl,rfl⟩ |⟨m,es,clock,seen,kv',hSm,hm,hb,hel,hkv,hborn,hbinj,hperm,_⟩
 ·exact .inl ⟨rfl,over rfl (by simp[Instr.next,getObj,Sem.run,hb])⟩
 ·have hlen:es.toList.length=kv'.length:=by simpa using hel
  have hlf:(leftOf es seen).toList=es.toList.filter fun e=> !seen.contains e.born:=by simp[leftOf]
  rcases run_next_at (P:=C.E.prog) w o.type b m clock clock seen es clock hb hm (fun x hx=>by obtain⟨k,hk⟩:=ZnD.1 hx;exact hborn k x (by simpa using hk)) (ZmT _)with ⟨h0,hr⟩ |⟨e,he,w1,hal,hr⟩
  ·refine .inl ?_;have hz:((es.toList.zip kv').filter fun x=> !seen.contains x.1.born).length=0:=by rw[ZbM (fun e:MapEntry=> !seen.contains e.born) es.toList kv' hlen,<-hlf];simpa using h0
   have:rest=[]:=by have:=hperm.length_eq;rw[Znx,hz]at this;exact Zm9 this.symm
   exact⟨this,over this hr⟩
  ·refine .inr ?_;rw[hlf,List.mem_filter]at he;obtain⟨hee,hun⟩:=he;obtain⟨k,hk⟩:=ZnD.1 hee;have hkl:k < es.toList.length:=(ZmI.1 hk).1;have hq:kv'[k]? =some kv'[k]:=by simp[hlen▸hkl]
   have hpair:(e,kv'[k])∈es.toList.zip kv':=by refine ZnD.2 ⟨k, ?_⟩;rw[Znu];exact⟨hk,hq⟩
   have hun':seen.contains e.born=false:=by simpa using hun
   have zinj:∀x∈es.toList.zip kv',∀y∈es.toList.zip kv',x.1.born=y.1.born->x=y:=fun x hx y hy hxy=>by obtain⟨k1,h1⟩:=ZnD.1 hx;obtain⟨k2,h2⟩:=ZnD.1 hy;have g1:=Znu.1 h1;have g2:=Znu.1 h2;have:=hbinj k1 k2 _ _ (by simpa using g1.1) (by simpa using g2.1) hxy;subst this;rw[h1]at h2;exact ZmY h2
   have znd:(es.toList.zip kv').Nodup:=by
    refine List.pairwise_iff_getElem.2 fun k1 k2 h1 h2 h12 heq=> ?_
    have hz:(es.toList.zip kv')[k1]? =some (es.toList.zip kv')[k1]:=List.getElem?_eq_getElem h1;have hz2:(es.toList.zip kv')[k2]? =some (es.toList.zip kv')[k1]:=by rw[heq];exact List.getElem?_eq_getElem h2
    have g1:=Znu.1 hz;have g2:=Znu.1 hz2;have e1:=Zm2 (xs:=es) (i:=k1);have e2:=Zm2 (xs:=es) (i:=k2);have:=hbinj k1 k2 _ _ (e1.symm.trans g1.1) (e2.symm.trans g2.1) rfl;omega
   have hrem:=Zcj (fun x:MapEntry×(P×P)=>x.1.born) seen (e,kv'[k]) (fun _=>True) (es.toList.zip kv') zinj znd hpair hun';have hp2:(kv'[k]::(((es.toList.zip kv').filter fun x=> !(seen.push e.born).contains x.1.born).map (·.2))).Perm rest:=by have:=(hrem.map (·.2)).trans hperm;simpa using this
   have hmemr:kv'[k]∈rest:=hp2.subset (by simp);obtain⟨j,hj⟩:=ZnD.1 hmemr;have hjl:=(ZmI.1 hj).1;have hjv:rest[j]=kv'[k]:=(ZmI.1 hj).2;have hp3:(((es.toList.zip kv').filter fun x=> !(seen.push e.born).contains x.1.born).map (·.2)).Perm (rest.eraseIdx j):=by have h5:(rest[j]::rest.eraseIdx j).Perm rest:=ZeX rest j hjl;rw[hjv]at h5;exact(hp2.trans h5.symm).cons_inv
   have hek:=hkv k e kv'[k] (by simpa using hk) hq;have hheap:∀b',b'≠b->(setBlock w1 b (.mapIter (some m) clock (seen.push e.born) clock)).heap[b']? =w.heap[b']? :=fun b' hne=>by
    have:w1.heap=w.heap:=by rcases hal with rfl |rfl<;>rfl
    simp only[setBlock,this];exact Array.getElem?_setIfInBounds_ne (Ne.symm hne)
   have hheapb:(setBlock w1 b (.mapIter (some m) clock (seen.push e.born) clock)).heap[b]? =some (.mapIter (some m) clock (seen.push e.born) clock):=by
    have:w1.heap=w.heap:=by rcases hal with rfl |rfl<;>rfl
    simp only[setBlock,this];simp[hown.1]
   have hsz:(setBlock w1 b (.mapIter (some m) clock (seen.push e.born) clock)).heap.size=w.heap.size:=by
    have:w1.heap=w.heap:=by rcases hal with rfl |rfl<;>rfl
    simp[setBlock,this]
   have hmb:m≠b:=fun hh=>(hown.2.2.2 hfz) (hh▸hSm)
   have kp:Zcy S w (setBlock w1 b (.mapIter (some m) clock (seen.push e.born) clock)):=fun b' hb' _=>hheap b' fun hh=>(hown.2.2.2 hfz) (hh▸hb')
   refine⟨j,kv'[k],hj,(.tuple #[.bool true,e.key,e.val]),setBlock w1 b (.mapIter (some m) clock (seen.push e.born) clock),by simp[execOp,ho,hv,Sem.run_bind,hr,Result.andThen,Sem.run],ρ, ?_⟩;refine h.step ρ hi ht (Nat.le_of_eq hsz.symm) ?_ ?_ ?_ (fun _ _ h=>h) (fun id h=> .inl h) (by simp) (fun _ _ hm=>by simp at hm) (fun _ _ _ _ _ _ _ hm=>by simp at hm) ?_ ?_
   ·rcases hal with rfl |rfl<;>exact⟨rfl,rfl⟩
   ·intro b1 hb1 hne;exact hheap b1 fun hh=>hne id _ L (ZmQ.2 rfl) hL (by rw[hLb,hh])
   ·intro id' o' hm';simp only[ZmQ,Zm0]at hm';obtain⟨rfl,rfl⟩:=hm';exact⟨hfz,_,hlk,by simp⟩
   ·intro id' o' L1 hm' _ hL1 S' hS _;simp only[ZmQ,Zm0]at hm';obtain⟨rfl,rfl⟩:=hm';rw[hL]at hL1;obtain rfl:=ZmY hL1;refine⟨b,hLb,.inr ⟨m,es,clock,seen.push e.born,kv',hS m hSm,by rw[hheap m hmb];exact hm,hheapb,hel,fun i' e' q' h1 h2=>⟨(hkv i' e' q' h1 h2).1.mono kp hS,(hkv i' e' q' h1 h2).2.mono kp hS⟩,hborn,hbinj,hp3, ?_⟩⟩;exact⟨k,e,by simpa using hk,hq,by simp⟩
   ·intro S' hS _ d _;refine .tup _ _ rfl fun j' u c hu hc=> ?_
    match j' with
    |0=>simp at hu hc;subst hu hc;exact .p _ _ (.bool true)
    |1=>simp at hu hc;subst hu hc;exact .p _ _ (hek.1.mono kp hS)
    |2=>simp at hu hc;subst hu hc;exact .p _ _ (hek.2.mono kp hS)
    |j'+3=>simp at hc
end
end Eng
namespace Eng
open Go
section
variable {C:Ctx} {X:Nat->Prop} {ρ:Id->Option Lay} {S:Nat->Prop} {st:St} {a:Act} {w:World} {i:Nat} {o:Oper}
theorem Zh3 (h:Rep C X ρ S st a.tmps w) (hi:¬X i) (F:∀d,o.dst=some d->d < C.E.nt) (H:Zl C.E) {args:Array Operand} {b:Array TypeId} {x:Operand} {t B:Nat} (G:o.op= .call {callee:= .builtin .cap,args,argTypes:=b})
  (f:args.toList=[x]) (n:b.toList=[t]) (m:Zz x=true) (s:C.E.td t=some (.sl B)) {id:Id} {q len:Nat} (E:ev C.E st.slots t x= .sl id q len):
  ∃c:Nat,len<=c/\c<=Zq/\∃v,(execOp a.eval o).run C.E.prog w= .ok (.value v) w/\∃ρ' S',Rep C (fun j=>X j\/j=i) ρ' S' (st.app i o.dst {val:= .p (.int .i64 c)}) (a.put o.dst v).tmps w:=by
 have p:=Zj h t m;rw[E]at p;have z:args.map a.eval= #[a.eval x]:=by rw[<-Zm3 (xs:=args),f];simp
 have y:b= #[t]:=by rw[<-Zm3 (xs:=b),n]
 subst y;obtain⟨d,D,A⟩:=H.und s;have r:C.E.prog.underlying t=some (.slice B):=by cases d<;>simp[Zau]at A;subst A;exact D
 generalize a.eval x=v at z p;cases p with
 |sl _ _ _ cap ad L M K g I N=>
 obtain⟨J,u⟩:=ZA (a:=a) (w:=w) (P:=C.E.prog) G;have k:(Builtin.cap_ #[t] o.type #[.slice ad len cap]).run C.E.prog w= .ok (.int .i64 cap) w:=by simp[Builtin.cap_,Za r,goInt]
 obtain⟨S',l⟩:=h.step (i:=i) (t:=o.dst) (e:={val:= .p (.int .i64 cap)}) (v:= .int .i64 cap) (w':=w) ρ hi F (ZmT _) (ZS.refl _) (fun _ _ _=>rfl) (by simp) (fun _ _ h=>h) (fun id h=> .inl h) (by simp) (fun _ _ g=>by simp at g) (fun _ _ _ _ _ _ _ g=>by simp at g) (by simp)
  (fun _ _ _ _ _=> .p _ _ (.int .i64 _ (ZdE g.2).1 (ZdE g.2).2))
 refine⟨cap,I,g.2,_, ?_,ρ,S',l⟩;rw[u,z];exact Zf0 k
theorem Zj0 (h:Rep C X ρ S st a.tmps w) (hi:¬X i) (ht:∀d,o.dst=some d->d < C.E.nt) (hE:Zl C.E) {args:Array Operand} {V:Array TypeId} {s x:Operand} {t u:Nat} {te:TI} {tu:TD} (ho:o.op= .call {callee:= .builtin .append,args,argTypes:=V})
  (F:args.toList=[s,x]) (a3:V.toList=[t,u]) (ab:∀y∈args.toList,Zz y=true) (W:C.E.elem t=some te) (ba:C.E.td u=some tu) (bk:(∃e,tu= .sl e)\/tu= .str) {id:Id} {es xs:List P}
  (hs:ev C.E st.slots t s= .sl id 0 es.length) (hx:ZcA st.objs te.size (ev C.E st.slots u x)=some xs) (I:st.objs id=some (.arr te.size es false)) (av:st.fz id=false) (az:(es.length+xs.length)*max te.bytes 1<=ZO):
  ∃v w',(execOp a.eval o).run C.E.prog w= .ok (.value v) w'/\
   ∃ρ' S',Rep C (fun j=>X j\/j=i) ρ' S' (st.app i o.dst {val:= .p (.sl te.size (es++xs)),wr:=[(id,.arr te.size es true)],frz:=[id]}) (a.put o.dst v).tmps w':=by
 have ha:args.map a.eval= #[a.eval s,a.eval x]:=by rw[<-Zm3 (xs:=args),F];simp
 have bd:V= #[t,u]:=by rw[<-Zm3 (xs:=V),a3]
 subst bd;obtain⟨ds,aq,O⟩:∃ds,C.E.prog.underlying u=some ds/\∀k,ds≠ .int k:=by obtain⟨d,hu,hd⟩:=hE.und ba;exact⟨d,hu,fun k hk=>by subst hk;rcases bk with ⟨e,rfl⟩ |rfl<;>simp[Zau]at hd⟩
 obtain⟨el,al,ah⟩:∃el,(∃sz a8 ze,C.E.ty t=some {d:= .sl el,size:=sz,bytes:=a8,zero:=ze})/\C.E.ty el=some te:=by unfold Env.elem at W;split at W;rotate_left;simp at W;rename_i e' _ _ _ hq;exact⟨e',⟨_,_,_,hq⟩,W⟩
 obtain⟨_,_,_,al⟩:=al;have an:=hE.slice al rfl;have Y:=Zj h t (ab s (by simp[F]));have as:=Zj h u (ab x (by simp[F]));rw[hs]at Y;have Z:=Zdu (P:=C.E.prog) h.objs as hx;have Q:=Zdu (P:=C.E.prog) (sz:=te.size) (xs:=es.take es.length) h.objs Y (by simp[ZcA,Zbh,I]);rw[List.take_length]at Q;generalize a.eval x=vx at ha Z as;generalize a.eval s=vs at ha Y Q;cases Y with
 |sl _ _ _ sCap ad L0 A bo hm bq bh=>
 obtain⟨bp,bf⟩:=ZA (a:=a) (w:=w) (P:=C.E.prog) ho;obtain⟨L',a1,ai,U,ap,T,aj,g,evs,M,D,H⟩:=h.objs id _ I (by simp);rw[A]at a1;obtain rfl:=ZmY a1;obtain⟨news,aa,n1,n2,n3,n4,n5,n6,n7⟩:=Z;obtain⟨olds,bl,o1,o2,o3,o4,o5,o6,o7⟩:=Q;have af:es.length+xs.length<=ZO:=by have:=Nat.mul_le_mul_left (es.length+xs.length) (Nat.le_max_right te.bytes 1);omega
 have E:(es.length+xs.length)*te.bytes<=ZO:=Nat.le_trans (Nat.mul_le_mul_left _ (Nat.le_max_left _ _)) az;have ac:∀b,L0.blk=some b->¬S b/\b < w.heap.size:=fun b l=>⟨(h.own id _ L0 b I (by simp) A l).2.2.2 av,(h.own id _ L0 b I (by simp) A l).1⟩
 have bm:∀J o',(J,o')∈[(id,Obj.arr te.size es true)]->st.fz J=false/\∃o',st.objs J=some o'/\o'≠ .gone:=by intro J o' c;simp only[ZmQ,Zm0]at c;obtain⟨rfl,rfl⟩:=c;exact⟨av,_,I,by simp⟩
 have key:∀(v:Value) (w':World) (N:Nat->Prop),(∀b,N b->b < w'.heap.size/\w.heap.size<=b)->w.heap.size<=w'.heap.size->ZS w w'->(∀b,b < w.heap.size->L0.blk≠some b->w'.heap[b]? =w.heap[b]?)->
   (Builtin.append_ #[t,u] o.type #[.slice ad es.length sCap,vx]).run C.E.prog w= .ok v w'->
   (∀S',(∀b,S b->S' b)->ZB w' S' ρ L0 (.arr te.size es true))->
   (∀S',(∀b,N b->S' b)->(∀b,S b->S' b)->(∀b,L0.blk=some b->S' b)->RelP w' S' v (.sl te.size (es++xs)))->
   ∃v w',(execOp a.eval o).run C.E.prog w= .ok (.value v) w'/\
    ∃ρ' S',Rep C (fun j=>X j\/j=i) ρ' S' (st.app i o.dst {val:= .p (.sl te.size (es++xs)),wr:=[(id,.arr te.size es true)],frz:=[id]}) (a.put o.dst v).tmps w':=by
  intro v w' N hN ar hq be f a4 a5;obtain⟨S',ay⟩:=h.stepN (i:=i) (t:=o.dst) (e:={val:= .p (.sl te.size (es++xs)),wr:=[(id,.arr te.size es true)],frz:=[id]}) (v:=v) (w':=w') ρ N
   (fun b l=>⟨(hN b l).1,.inl (hN b l).2⟩) (fun _ _ _ _ c=>by simp at c) hi ht ar hq
   (fun b l ag=>be b l (ag id _ L0 (ZmQ.2 rfl) A)) bm (fun _ _ h=>h) (fun id h=> .inl h)
   (fun J c=>by simp only[ZmQ]at c;subst c;exact⟨by rw[A];simp,fun o' a6=>by simp only[ZmQ,Zm0]at a6;rw[a6.2];simp⟩)
   (fun _ _ c=>by simp at c) (fun _ _ _ _ _ _ _ c=>by simp at c)
   (fun J o' L c _ hL S' a7 z hF=>by simp only[ZmQ,Zm0]at c;obtain⟨rfl,rfl⟩:=c;rw[A]at hL;obtain rfl:=ZmY hL;exact a4 S' z)
   (fun S' a7 z hF _ _=> .p _ _ (a5 S' a7 z fun b l=>hF id (ZmQ.2 rfl) _ L0 b I (by simp) A l))
  refine⟨v,w', ?_,ρ,S',ay⟩;rw[bf,ha];exact Zf0 f
 by_cases hroom:es.length+xs.length<=sCap
 ·
  have a2:=n4 xs.length (ZmT _) w rfl;rw[List.take_of_length_le (by omega)]at a2;rcases bh with h0 |⟨b,r,rfl,R⟩
  ·have ax:es.length=0:=by omega
   have au:xs.length=0:=by omega
   have bb:es=[]:=Zm9 ax;have bg:xs=[]:=Zm9 au;refine key (.slice ad 0 sCap) w (fun _=>False) (fun _ l=>l.elim) (ZmT _) (ZS.refl _) (fun _ _ _=>rfl) ?_ (fun S' z=> ?_) (fun S' _ z _=> ?_)
   ·have:=Zbl (w:=w) (ty:=o.type) (ad:=ad) (sCap:=sCap) hE rfl an ah aq O (by rw[<-au];exact n3) (by simpa using n4 0 (by simp) w rfl);rw[ax];exact this
   ·exact⟨ai,U,ap,T,aj,g,evs,M,D,fun j e B=>(H j e B).mono (fun _ _ _=>rfl) z⟩
   ·subst bb bg;exact .sl _ 0 _ _ [] evs rfl (by simp) (by simp) (fun i hi=>by omega) (fun i hi=>by omega) (fun i e B=>by simp at B)
  ·have ak:∀m,m < news.length->(w.cell? ⟨b,L0.base+es.length*te.size+m,none⟩).isSome=true/\w.frozen? ⟨b,L0.base+es.length*te.size+m,none⟩=false:=fun m c=>by have aw:(es.length+xs.length)*te.size<=L0.cap*te.size:=Nat.mul_le_mul_right _ (by omega);rw[Nat.add_mul,<-n1]at aw;obtain⟨⟨v,q⟩,q2⟩:=g b r (es.length*te.size+m) (by omega);rw[show L0.base+es.length*te.size+m=L0.base+(es.length*te.size+m) by omega,q,q2];exact⟨rfl,rfl⟩
   have f:=Zcb (w:=w) (ty:=o.type) hE rfl an ah aq O (b:=b) (o:=L0.base+0*L0.sz) (sLen:=es.length) (sCap:=sCap) n3 a2 hroom (fun m c=>by rw[show L0.base+0*L0.sz+es.length*te.size+m=L0.base+es.length*te.size+m by omega];exact(ak m c).1) (fun m c=>by rw[show L0.base+0*L0.sz+es.length*te.size+m=L0.base+es.length*te.size+m by omega];exact(ak m c).2) n5;rw[show L0.base+0*L0.sz+es.length*te.size=L0.base+es.length*te.size by omega]at f;have p:=fun m=>Zad (w:=w) (b:=b) (o:=L0.base+es.length*te.size) (vs:=news) (fun m c=>(ak m c).1) m
   have kS:Zcy S w (w.setCells b (L0.base+es.length*te.size) news):=fun b' bc _=>Zp b _ _ _ b' (fun e=>(ac b r).1 (e▸bc))
   have K:∀(j k:Nat) v,j < L0.len->(evs j).cells[k]? =some v->(w.setCells b (L0.base+es.length*te.size) news).cell? ⟨b,L0.base+j*te.size+k,none⟩=some v:=fun j k v hj G=>by
    have hk:k < te.size:=by have:=(Zmy.1 G).1;have:=M j hj;omega
    have:(j+1)*te.size<=es.length*te.size:=Nat.mul_le_mul_right _ (by omega);rw[Nat.add_mul,Nat.one_mul]at this;rw[p,if_neg (by omega)];exact D b r j k v hj G
   refine key _ _ (fun _=>False) (fun _ l=>l.elim) (by rw[ZV];exact ZmT _) (ZS.setCells _ _ _ _) (fun b' _ ag=>Zp b _ _ _ b' (fun e=>ag (e▸r))) f (fun S' z=> ?_) (fun S' _ z hF=> ?_)
   ·refine⟨ai,U,ap,T,aj,fun b1 E m c=> ?_,evs,M,fun b1 E j k v hj G=> ?_,fun j e B=>(H j e B).mono kS z⟩
    ·rw[r,ZmZ]at E;subst E;obtain⟨⟨v,q⟩,q2⟩:=g b r m c;refine⟨?_,by rw[World.frozen?_setCells];exact q2⟩;rw[p];split
     ·exact⟨_,List.getElem?_eq_getElem (by omega)⟩
     ·exact⟨v,q⟩
    ·rw[r,ZmZ]at E;subst E;exact K j k v hj G
   ·refine .sl _ _ _ _ _ (ZgK es.length evs aa) (by simp) (by unfold ZO at af;unfold Zah;omega) hroom (fun j hj=> ?_) (fun j hj=>⟨b,_,rfl,hF b r,fun k v G=> ?_⟩) (fun j e B=> ?_)
    ·unfold ZgK;split
     ·exact M j (by omega)
     ·exact(n6 (j - es.length) (by omega)).1
    ·unfold ZgK at G;rw[show L0.base+0*L0.sz+j*te.size+k=L0.base+j*te.size+k by omega];split at G
     ·exact K j k v (by omega) G
     ·rename_i n;have:=(n6 (j - es.length) (by omega)).2 k v G;have ao:(j - es.length)*te.size+k < news.length:=(ZmI.1 this).1;have a9:j*te.size=es.length*te.size+(j - es.length)*te.size:=by rw[<-Nat.add_mul];congr 1;omega
      rw[p,if_pos (by omega),show L0.base+j*te.size+k - (L0.base+es.length*te.size)=(j - es.length)*te.size+k by omega];exact this
    ·unfold ZgK
     by_cases n:j < es.length
     ·rw[List.getElem?_append_left n]at B;rw[if_pos n];exact(H j e B).mono kS z
     ·rw[List.getElem?_append_right (by omega)]at B;rw[if_neg n];exact(n7 _ e B).mono kS z
 ·
  obtain⟨rest,am,f⟩:=ZbN (w:=w) (ty:=o.type) hE rfl an ah aq O (m:=xs.length) n3 (news:=news) (fun w' ae=>by
   have:=n4 xs.length (ZmT _) w' ae
   rwa [List.take_of_length_le (by omega)]at this) (ad:=ad) (sLen:=es.length) (sCap:=sCap) (olds:=olds) (fun w' ae=>by
   have:=o4 es.length (by omega) w' ae
   rwa [List.take_of_length_le (by rw[o1];exact ZmT _)]at this) (by omega) (by unfold ZO at af;unfold Zq;omega) E
  have R:=grownCap_ge w (es.length+xs.length) sCap el;generalize grownCap w (es.length+xs.length) sCap el=cap at f am R;generalize hww:w.drew.alloc (.cells (olds.toArray++news.toArray++rest) el)=w' at f;have hw:w'.heap=w.heap.push (.cells (olds.toArray++news.toArray++rest) el):=by rw[<-hww];rfl
  have kp:∀b,b < w.heap.size->w'.heap[b]? =w.heap[b]? :=fun b l=>Zap hw l
  have bn:w'.heap.size=w.heap.size+1:=by rw[hw];simp
  have hc:∀j,w'.cell? ⟨w.heap.size,j,none⟩=(olds.toArray++news.toArray++rest)[j]? :=fun j=>by simp[World.cell?,Z2 hw]
  have kS:Zcy S w w':=fun b l _=>kp b (h.sIn b l)
  have bi:ZS w w':=by rw[<-hww];exact⟨rfl,rfl⟩
  refine key _ w' (fun b=>b=w.heap.size) (fun b l=>by omega) (by omega) bi (fun b l _=>kp b l) f (fun S' z=> ?_) (fun S' hN z hF=> ?_)
  ·have bj:ZB w S ρ L0 (.arr te.size es true):=⟨ai,U,ap,T,aj,g,evs,M,D,H⟩;exact bj.mono kS z (fun _ _ h=>h) (fun b l=>kp b (ac b l).2)
  ·refine .sl _ _ _ _ _ (ZgK es.length bl aa) (by simp) (by unfold ZO at af;unfold Zah;omega) R (fun j hj=> ?_) (fun j hj=>⟨w.heap.size,0,rfl,hN _ rfl,fun k v G=> ?_⟩) (fun j e B=> ?_)
   ·unfold ZgK;split
    ·exact(o6 j (by omega)).1
    ·exact(n6 (j - es.length) (by omega)).1
   ·rw[hc,Znp];unfold ZgK at G;split at G
    ·rename_i n;have:=(o6 j (by omega)).2 k v G;have ao:j*te.size+k < olds.length:=(ZmI.1 this).1;rw[Zm1,if_pos (by simp;omega),Zm1,if_pos (by simpa using ao)];simpa using this
    ·rename_i n;have:=(n6 (j - es.length) (by omega)).2 k v G;have ao:(j - es.length)*te.size+k < news.length:=(ZmI.1 this).1;have a9:j*te.size=es.length*te.size+(j - es.length)*te.size:=by rw[<-Nat.add_mul];congr 1;omega
     rw[Zm1,if_pos (by simp;omega),Zm1,if_neg (by simp;omega)];simp only[List.size_toArray,List.getElem?_toArray];rw[show j*te.size+k - olds.length=(j - es.length)*te.size+k by omega];exact this
   ·unfold ZgK
    by_cases n:j < es.length
    ·rw[List.getElem?_append_left n]at B;rw[if_pos n];exact(o7 j e B).mono kS z
    ·rw[List.getElem?_append_right (by omega)]at B;rw[if_neg n];exact(n7 _ e B).mono kS z
end
section
variable {U:Zc}
noncomputable def anyN {β:Type} (n:Nat) (f:Nat->Option β):Option β:=
 @dite _ (∃r,∀c,n<=c->c<=Zq->f c=some r) (Classical.propDecidable _) (fun h=>some h.choose) fun _=>none
theorem Zkf {β:Type} {n:Nat} {f:Nat->Option β} {r:β} (h:anyN n f=some r) {c:Nat} (b:n<=c) (a:c<=Zq):f c=some r:=by unfold anyN at h;split at h;rotate_left;simp at h;rename_i d;simp only[ZmZ]at h;rw[<-h];exact d.choose_spec c b a
theorem anyN_eq {β:Type} {n:Nat} {f:Nat->Option β} {r:β} (a:n<=Zq) (h:∀c,n<=c->c<=Zq->f c=some r):anyN n f=some r:=by unfold anyN;have b:∃r,∀c,n<=c->c<=Zq->f c=some r:=⟨r,h⟩;rw[dif_pos b];have e:=b.choose_spec n (ZmT _) a;have d:=h n (ZmT _) a;rw[e]at d;exact d
def ZkV (X:ZG U) (T:TS U) (o:Oper):Option Nat:=
 match o.op with
 | .call c=>match c.callee,c.args.toList,c.argTypes.toList with
  | .builtin .cap,[x],[t]=>match X.get t,evT X T.slots t x with
   |some e,some d=>match e.ti.d with
    | .sl _=>match d with
     | .full id _=>match T.objs id with
      |some (.arr _ xs _)=>some (Znv xs)
      |_=>none
     | .sl _ _ len=>some len
     |_=>none
    |_=>none
   |_,_=>none
  |_,_,_=>none
 |_=>none
structure KpI (U:Zc) where
 id:Id
 t:Ty
 xs:List (El U.car t)
 ys:List (El U.car t)
 by_:Nat
def ZkM (a:List Nat) (X:ZG U) (T:TS U) (o:Oper):Option (KpI U):=
 match o.dst with
 |some k=>if a.contains k then match o.op with
  | .call c=>match c.callee,c.args.toList,c.argTypes.toList with
   | .builtin .append,[s,x],[t,u]=>match X.elem t,X.get u,evT X T.slots t s,evT X T.slots u x with
    |some e,some eu,some (.full id _),some dx=>if U.tsize e.ty=e.ti.size/\Zkq eu.ti.d=true then match Zml T dx e.ty,T.objs id with
     |some ys,some (.arr t' xs false)=>match (Lf.mk (.sl t') xs:Lf U.car).as (.sl e.ty)with
      |some xs=>if T.fz id=false then some ⟨id,e.ty,xs,ys,e.ti.bytes⟩else none
      |none=>none
     |_,_=>none
     else none
    |_,_,_,_=>none
   |_,_,_=>none
  |_=>none
  else none
 |none=>none
variable {C:Ctx} {Xs:Nat->Prop} {ρ:Id->Option Lay} {S:Nat->Prop} {a:Act} {w:World} {i:Nat} {o:Oper} {X:ZG U} {T:TS U}
theorem ZiR (B:TOk X) (H:T.Inv) (g:C.E=X.E) (h:Rep C Xs ρ S T.enc a.tmps w) (hi:¬Xs i) (A:Zl C.E) (k:Zfk X.E o=true) {n:Nat} (b:ZkV X T o=some n):
  (∀c,o.op≠ .defer c)/\∃c:Nat,n<=c/\c<=Zq/\∃v,(execOp a.eval o).run C.E.prog w= .ok (.value v) w/\∃ρ' S',Rep C (fun j=>Xs j\/j=i) ρ' S' (T.enc.app i o.dst {val:= .p (.int .i64 c)}) (a.put o.dst v).tmps w:=by
 have z:∀d,o.dst=some d->d < C.E.nt:=by rw[g];simp only[Zfk,ZmC]at k;exact Za9 k.1
 unfold ZkV at b;split at b;rotate_left;simp at b;rename_i c l;refine⟨fun I q=>(by rw[l]at q;cases q), ?_⟩;obtain⟨G,args,E⟩:=c;dsimp only at b;split at b;rotate_left;simp at b;rename_i x t f p;split at b;rotate_left;simp at b;rename_i e d D y;have m:Zz x=true:=by simp only[Zfk,ZmC]at k;have:=k.2;rw[l]at this;simp only[Op.operands,Call.operands,Array.all_eq_true']at this;exact this x (by simp[<-Array.mem_toList_iff,f])
 split at b;rotate_left;simp at b;rename_i F u;have r:C.E.td t=some (.sl F):=by rw[g];rw[<-u];exact Zs D
 split at b
 ·split at b;rotate_left;simp at b;rename_i s;cases b;exact Zh3 h hi z A l f p m r (by rw[g,Zb B y,<-Za5 H y s];rfl)
 ·cases b;exact Zh3 h hi z A l f p m r (by rw[g,Zb B y];rfl)
 ·simp at b
theorem ZiB (P:TOk X) (V:T.Inv) (f:C.E=X.E) (h:Rep C Xs ρ S T.enc a.tmps w) (hi:¬Xs i) (hE:Zl C.E) (k:Zfk X.E o=true) {A:List Nat} {q:KpI U} (b:ZkM A X T o=some q) (z:Zi5 (q.xs.length+q.ys.length) q.by_=true):
  (∀c,o.op≠ .defer c)/\ZK T i {val:= .v (.sl q.t) (q.xs++q.ys),wr:=[(q.id,.arr q.t q.xs true)],frz:=[q.id]}/\∃v w',(execOp a.eval o).run C.E.prog w= .ok (.value v) w'/\
   ∃ρ' S',Rep C (fun j=>Xs j\/j=i) ρ' S' (T.enc.app i o.dst (Zi.enc {val:= .v (.sl q.t) (q.xs++q.ys),wr:=[(q.id,.arr q.t q.xs true)],frz:=[q.id]} [])) (a.put o.dst v).tmps w':=by
 have ht:∀d,o.dst=some d->d < C.E.nt:=by rw[f];simp only[Zfk,ZmC]at k;exact Za9 k.1
 unfold ZkM at b;split at b;rotate_left;simp at b;split at b;rotate_left;simp at b;split at b;rotate_left;simp at b;rename_i c r;refine⟨fun c' D=>(by rw[r]at D;cases D), ?_⟩;obtain⟨ae,args,ac⟩:=c;dsimp only at b;split at b;rotate_left;simp at b;rename_i s x t u p E;have B:∀y∈args.toList,Zz y=true:=by simp only[Zfk,ZmC]at k;have:=k.2;rw[r]at this;simp only[Op.operands,Call.operands,Array.all_eq_true']at this;exact fun y hy=>this y (by simpa using hy)
 split at b;rotate_left;simp at b;rename_i e G id n dx he L Q F;split at b;rotate_left;simp at b;rename_i l;split at b;rotate_left;simp at b;rename_i Y t' ab K g;split at b;rotate_left;simp at b;rename_i xs N;split at b;rotate_left;simp at b;rename_i I;cases b;have W:=ZN N;cases W;have Z:n=Znv xs:=Za5 V Q g;have m:=Zdj V P F K;rw[l.1]at m;have J:C.E.elem t=some e.ti:=by rw[f];exact ZaG he
 have H:C.E.td u=some G.ti.d:=by rw[f];exact Zs L
 have O:(∃e,G.ti.d= .sl e)\/G.ti.d= .str:=by have h2:=l.2;revert h2;cases G.ti.d<;>simp[Zkq]
 refine⟨Zb5 rfl (fun t2 aa R M=> ?_) (fun _=>by trivial), ?_⟩
 ·cases M;exact⟨_,_,_,g,rfl⟩
 ·have:=Zj0 (es:=xs.map (U.encE e.ty)) (xs:=Y.map (U.encE e.ty)) h hi ht hE r p E B J H O (id:=id) (by rw[f,Zb P Q,Znx,<-Z];rfl) (by rw[f,Zb P F];exact m)
   (by rw[Zf g,ZJ,l.1]) I (by simpa[Zi5]using z)
  simpa only[Zi.enc,TV.enc,Zc.encE,ZmL,ZnB,ZJ,Zny,l.1]using this
end
end Eng

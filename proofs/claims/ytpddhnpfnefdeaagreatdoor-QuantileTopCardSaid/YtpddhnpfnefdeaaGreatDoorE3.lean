/- The engine,text 3:an abstract evaluator of Go code over pure data,proved sound. -/
import Derived.Test.YtpddhnpfnefdeaaGreatDoorE2
import Derived.ChangeSame
import Derived.Maps.RangeRun
set_option linter.all false
open Array renaming getElem?_append->ZmT, getElem?_eq_some_iff->Zmp, getElem?_toList->ZmU, toArray_toList->ZmV
open Bool renaming and_eq_false_iff->Znj, and_eq_true->Zmt, false_eq_true->Zmu, or_eq_false_iff->Znk
open List renaming all_eq_true->ZmX, eq_nil_of_length_eq_zero->Zm1, getD_eq_getElem?_getD->Znl, getElem?_cons_zero->Zm6, getElem?_eq_some_iff->ZmA, getElem?_map->ZmB, getElem?_zip_eq_some->Znm, length->Znn, length_append->Zno, length_map->Znp, map_append->Znq, map_cons->ZmD, map_drop->Znr, map_map->Zns, map_nil->Znt, map_take->Znu, mem_append->ZmE, mem_cons->ZmF, mem_cons_of_mem->Zna, mem_cons_self->ZmG, mem_iff_getElem?->Znv, mem_map->Znc, mem_of_mem_drop->Znw, mem_singleton->ZmI, zip_cons_cons->Znx
open Nat renaming le_refl->ZmL, zero_add->Znh
open Option renaming map_some->Zny, some.inj->ZmQ, some.injEq->ZmR
open Prod renaming mk.injEq->ZmS
namespace Eng
open Go
def Zgb (l:List (Id×Obj)) (id:Id):Option Obj:=
 match l with
 | []=>none
 |(a,o)::r=>match Zgb r id with
  |some u=>some u
  |none=>if id=a then some o else none
theorem Zkw (l:List (Id×Obj)):∀(b:St) (id:Id),(b.objL l).objs id=(Zgb l id).or (b.objs id):=by
 induction l with
 |nil=>intro b id;rfl
 |cons x r c=>
  obtain⟨a,o⟩:=x;intro b id;simp only[St.objL,c,Zgb];cases Zgb r id with
  |some u=>rfl
  |none=>
   simp only[St.obj,upd,Option.or]
   by_cases h:id=a<;>simp[h]
theorem Zau {l:List (Id×Obj)} {id:Id} (h:id∉l.map (·.1)):Zgb l id=none:=by
 induction l with
 |nil=>rfl
 |cons x r b=>
  obtain⟨a,o⟩:=x;simp only[ZmD,ZmF,not_or]at h;simp only[Zgb,b h.2,h.1,if_false]
def news (ep i:Nat) (e:Eff):List (Id×Obj):=e.new.map fun x=>((ep,i,x.1),x.2)
theorem Zj5 (a:St) (i:Nat) (t:Option Nat) (e:Eff) (id:Id):(a.app i t e).objs id=(Zgb (news a.ep i e) id).or ((Zgb e.wr id).or (a.objs id)):=by simp only[St.app,ZfU,ZH,Zkw,ZlF,news]
theorem Zg0 {ep i:Nat} {e:Eff} {id:Id} (h:id∈(news ep i e).map (·.1)):id.1=ep/\id.2.1=i:=by simp only[news,Zns,Znc]at h;obtain⟨x,_,rfl⟩:=h;exact⟨rfl,rfl⟩
def ZK (ep i:Nat) (W:List Id) (id:Id):Bool:=decide (id∈W)||(decide (id.1=ep)&&decide (id.2.1=i))
theorem ZcV {a:St} {i:Nat} {t:Option Nat} {e:Eff} {id:Id} (h:ZK a.ep i (e.wr.map (·.1)) id=false):(a.app i t e).objs id=a.objs id:=by simp only[ZK,Znk,decide_eq_false_iff_not,Znj]at h;rw[Zj5,Zau (fun b=>by have:=Zg0 b;rcases h.2 with h |h<;>simp_all),Zau h.1];rfl
theorem ZkT {a:St} {i j:Nat} {e f:Option Nat} {b c:Eff} (n:i≠j) (s:∀d,e=some d->f≠some d) (t:∀id∈b.wr.map (·.1),ZK a.ep j (c.wr.map (·.1)) id=false)
  (u:∀id∈c.wr.map (·.1),ZK a.ep i (b.wr.map (·.1)) id=false):(a.app i e b).app j f c=(a.app j f c).app i e b:=by
 have o:((a.app i e b).app j f c).slots=((a.app j f c).app i e b).slots:=by
  funext k;simp only[ZaI]
  by_cases hi:e=some k
  ·have:=s k hi;simp[hi,this]
  ·simp[hi]
 have q:((a.app i e b).app j f c).objs=((a.app j f c).app i e b).objs:=by
  funext id;simp only[Zj5,Zcu]
  by_cases hi:ZK a.ep i (b.wr.map (·.1)) id=true
  ·have m:ZK a.ep j (c.wr.map (·.1)) id=false:=by
    simp only[ZK,Bool.or_eq_true,decide_eq_true_eq,Zmt]at hi;rcases hi with hi |hi
    ·exact t id hi
    ·simp only[ZK,Znk,decide_eq_false_iff_not,Znj];refine⟨fun g=> ?_,.inr fun m=>n (by rw[<-hi.2,m])⟩;have:=u id g;simp[ZK,hi]at this
   simp only[ZK,Znk,decide_eq_false_iff_not,Znj]at m;rw[Zau (l:=news a.ep j c) (fun g=>by have:=Zg0 g;rcases m.2 with h |h<;>simp_all),Zau m.1];simp
  ·have hi:ZK a.ep i (b.wr.map (·.1)) id=false:=by simpa using hi
   simp only[ZK,Znk,decide_eq_false_iff_not,Znj]at hi;rw[Zau (l:=news a.ep i b) (fun g=>by have:=Zg0 g;rcases hi.2 with h |h<;>simp_all),Zau hi.1];simp
 have r:((a.app i e b).app j f c).fz=((a.app j f c).app i e b).fz:=by funext id;simp only[Zee];cases b.frz.contains id<;>cases c.frz.contains id<;>rfl
 have p:((a.app i e b).app j f c).ep=((a.app j f c).app i e b).ep:=by simp
 generalize (a.app i e b).app j f c=s1 at*
 generalize (a.app j f c).app i e b=s2 at*
 cases s1;cases s2;simp only at o q r p;subst o q r p;rfl
structure Fp where
 R:List Id:=[]
 W:List Id:=[]
 F:List Id:=[]
def Zg6 (ops:Array Oper) (ep i j:Nat) (d c:Oper) (b a:Fp):Bool:=
 d.apart ops c&&(b.R.all fun id=> !ZK ep j a.W id)&&(b.W.all fun id=> !ZK ep j a.W id)&&(a.R.all fun id=> !ZK ep i b.W id)&&(a.W.all fun id=> !ZK ep i b.W id)&&
  (b.F.all fun id=> !decide (id∈a.W))&&(a.F.all fun id=> !decide (id∈b.W))
inductive Zex (ops:Array Oper):Nat->Nat->Prop
 |one {j:Nat} {o:Oper} {e:Edge} (hj:ops[j]? =some o) (he:e∈o.after) (hb:Region.binds .any e=true):Zex ops j e.on
 |more {j i:Nat} {o:Oper} {e:Edge} (hj:ops[j]? =some o) (he:e∈o.after) (hb:Region.binds .any e=true) (h:Zex ops e.on i):Zex ops j i
def Zfb (ops:Array Oper) (a:Array Bool):Prop:=
 ∀j o,ops[j]? =some o->a.getD j true=true->∀e∈o.after,Region.binds .any e=true->a.getD e.on false=true
theorem Zg4 {a:Array Bool} {j:Nat} (h:a.getD j false=true):a.getD j true=true:=by
 rcases Nat.lt_or_ge j a.size with b |b
 ·simp[b]at h|-;exact h
 ·simp[Array.getElem?_eq_none b]at h
theorem Zex.listed {ops:Array Oper} {a:Array Bool} {j i:Nat} (h:Zex ops j i) (n:Zfb ops a) (l:∀o,ops[j]? =some o->∀e∈o.after,Region.binds .any e=true->a.getD e.on false=true):
  a.getD i false=true:=by
 induction h with
 |one g k c=>exact l _ g _ k c
 |more g k c _ m=>exact m fun o' d e' f b=>n _ o' d (Zg4 (l _ g _ k c)) e' f b
theorem Zfb.set {ops:Array Oper} {a:Array Bool} (h:Zfb ops a) {i:Nat} (hi:i∈Region.ready .any ops a):Zfb ops (a.setIfInBounds i true):=by
 intro j o g f e k d;refine getD_set_true ?_;obtain⟨_,l,c,b⟩:=mem_ready.1 hi
 by_cases hji:j=i
 ·subst hji;rw[g]at c;obtain rfl:=ZmQ c;exact b e k d
 ·rw[getD_set_ne true (Ne.symm hji)]at f;exact h j o g f e k d
section
variable {C:Ctx} {r:Fm} {ops:Array Oper} {tbl:List Fp} {K:St->Prop}
def D.isDead:D->Bool
 | .dead=>true
 |_=>false
def live (ops:Array Oper) (o:Oper) (a:St) (f:Fp):Bool:=(o.looksAt ops).all (fun t=> !(a.slots t).isDead)&&(f.R.all fun id=>(a.objs id).isSome)&&(f.W.all fun id=>(a.objs id).isSome)
def OEf (C:Ctx) (ops:Array Oper) (i:Nat) (o:Oper) (a:St) (e:Eff) (f:Fp):Prop:=OE C ops i o a e f.R/\f.W=e.wr.map (·.1)/\f.F=e.frz/\live ops o a f=true
def Zmo (C:Ctx) (ops:Array Oper) (a:List Fp) (K:St->Prop):Nat->Array Bool->St->Prop
 |0,listed,st=>Region.ready .any ops listed=[]/\K st
 |n+1,listed,st=>(Region.ready .any ops listed=[]->K st)/\
   ∀i∈Region.ready .any ops listed,∃o e f,ops[i]? =some o/\a[i]? =some f/\OEf C ops i o st e f/\Zmo C ops a K n (listed.setIfInBounds i true) (st.app i o.dst e)
theorem Zix {ep i j:Nat} {d c:Oper} {a b:Fp} (h:Zg6 ops ep i j d c a b=true):d.apart ops c=true/\(∀id∈a.R,ZK ep j b.W id=false)/\(∀id∈a.W,ZK ep j b.W id=false)/\
  (∀id∈b.R,ZK ep i a.W id=false)/\(∀id∈b.W,ZK ep i a.W id=false)/\(∀id∈a.F,id∉b.W)/\(∀id∈b.F,id∉a.W):=by
 simp only[Zg6,Zmt,ZmX,Bool.not_eq_true',decide_eq_false_iff_not]at h;obtain⟨⟨⟨⟨⟨⟨m,n⟩,g⟩,f⟩,l⟩,e⟩,k⟩:=h;exact⟨m,n,g,f,l,e,k⟩
theorem ZeQ {o:Oper} {c b:St} {f:Fp} (h:live ops o c f=true) (g:∀t∈o.looksAt ops,b.slots t=c.slots t) (i:∀id∈f.R,b.objs id=c.objs id) (e:∀id∈f.W,b.objs id=c.objs id):live ops o b f=true:=by
 simp only[live,Zmt,ZmX]at h|-
 exact⟨⟨fun t d=>by rw[g t d];exact h.1.1 t d,fun id a=>by rw[i id a];exact h.1.2 id a⟩,fun id a=>by rw[e id a];exact h.2 id a⟩
theorem OEf.swap {i j:Nat} {l h:Oper} {w o:Fp} {d:St} {k g:Eff} (q:i≠j) (hi:OEf C ops i l d k w) (H:OEf C ops j h (d.app i l.dst k) g o) (y:Zg6 ops d.ep i j l h w o=true):
  OEf C ops j h d g o/\OEf C ops i l (d.app j h.dst g) k w/\(d.app i l.dst k).app j h.dst g=(d.app j h.dst g).app i l.dst k:=by
 obtain⟨I,B,E,z,D,K,G⟩:=Zix y;obtain⟨A,J,F⟩:=Oper.apart_spec I;obtain⟨v,c,n,x⟩:=hi;obtain⟨r,b,m,p⟩:=H;have s:OE C ops j h d g o.R:=by
  refine r.congr (fun t f=> ?_) (fun id a=> ?_) (fun id a=> ?_) (Zcu _ _ _ _).symm
  ·rw[ZaI,if_neg fun e=>A t e f]
  ·exact(ZcV (by rw[<-c];exact z id a)).symm
  ·rw[Zee];have:id∉k.frz:=fun u=>K id (by rw[n];exact u) (by rw[b];exact a)
   simp[this]
 refine⟨⟨s,b,m, ?_⟩,⟨?_,c,n, ?_⟩, ?_⟩
 ·refine ZeQ p (fun t f=> ?_) (fun id a=> ?_) (fun id a=> ?_)
  ·rw[ZaI,if_neg fun e=>A t e f]
  ·exact(ZcV (by rw[<-c];exact z id a)).symm
  ·exact(ZcV (by rw[<-c];exact D id a)).symm
 ·refine v.congr (fun t f=> ?_) (fun id a=> ?_) (fun id a=> ?_) (Zcu _ _ _ _)
  ·rw[ZaI,if_neg fun e=>F t e f]
  ·exact ZcV (by rw[<-b];exact B id a)
  ·rw[Zee];have:id∉g.frz:=fun u=>G id (by rw[m];exact u) (by rw[c];exact a)
   simp[this]
 ·refine ZeQ x (fun t f=> ?_) (fun id a=> ?_) (fun id a=> ?_)
  ·rw[ZaI,if_neg fun e=>F t e f]
  ·exact ZcV (by rw[<-b];exact B id a)
  ·exact ZcV (by rw[<-b];exact E id a)
 ·exact ZkT q J (fun id a=>by rw[<-b];exact E id (by rw[c];exact a)) (fun id a=>by rw[<-c];exact D id (by rw[b];exact a))
theorem ZgH {a:Array Bool} {i:Nat} (d:a.getD i true=false) (b:a.getD i false=true):False:=by
 rcases Nat.lt_or_ge i a.size with c |c
 ·simp[c]at d b;rw[d]at b;cases b
 ·simp[Array.getElem?_eq_none c]at b
theorem ZiW {i:Nat} {p:Oper} {e:Eff} {f:Fp} (hi:ops[i]? =some p) (I:tbl[i]? =some f):∀(c:Nat) (a:Array Bool) (n:St),Zfb ops a->
   (∀j q r,ops[j]? =some q->tbl[j]? =some r->j≠i->a.getD j true=false->¬Zex ops j i->Zg6 ops n.ep i j p q f r=true)->
   i∈Region.ready .any ops a->OEf C ops i p n e f->
   Zmo C ops tbl K c (a.setIfInBounds i true) (n.app i p.dst e)->Zmo C ops tbl K (c+1) a n:=by
 intro c
 induction c with
 |zero=>
  intro a n _ _ o y H;refine⟨fun h=>(by rw[h]at o;cases o),fun j u=> ?_⟩
  by_cases b:j=i
  ·subst b;exact⟨p,e,f,hi,I,y,H⟩
  ·have:=ready_mono u b;rw[H.1]at this;cases this
 |succ c L=>
  intro a n s d o y H;refine⟨fun h=>(by rw[h]at o;cases o),fun j u=> ?_⟩
  by_cases b:j=i
  ·subst b;exact⟨p,e,f,hi,I,y,H⟩
  ·obtain⟨q,G,r,g,t,z,H1⟩:=H.2 j (ready_mono u b);obtain⟨m,O,l,v⟩:=mem_ready.1 u;rw[g]at l;obtain rfl:=ZmQ l;have F:=(mem_ready.1 o).1;have A:¬Zex ops j i:=fun hw=>ZgH F (hw.listed s fun o' w=>by rw[g]at w;obtain rfl:=ZmQ w;exact v)
   obtain⟨q1,P,N⟩:=OEf.swap (Ne.symm b) y z (d j q r g t b m A);refine⟨q,G,r,g,t,q1,L (a.setIfInBounds j true) (n.app j q.dst G) (s.set u) (fun k M J Q E D x B=> ?_) (ready_mono o (Ne.symm b)) P ?_⟩
   ·rw[Zcu];refine d k M J Q E D ?_ B
    by_cases hjk:j=k
    ·subst hjk;exact m
    ·rw[getD_set_ne true hjk]at x;exact x
   ·rw[Array.setIfInBounds_comm _ _ b,<-N];exact H1
def masks (ops:List Oper):List Nat:=
 ops.foldl (init:=[]) fun a o=>a++[o.after.toList.foldl (fun s e=>if Region.binds .any e then s|||2 ^ e.on|||a.getD e.on 0 else s) 0]
def Zjy (a:List Nat) (es:List Edge) (s:Nat):Nat:=es.foldl (fun s e=>if Region.binds .any e then s|||2 ^ e.on|||a.getD e.on 0 else s) s
theorem ZdH {a:List Nat} {i:Nat}:∀(es:List Edge) (s:Nat),(Zjy a es s).testBit i=true->s.testBit i=true\/∃e∈es,Region.binds .any e=true/\(e.on=i\/(a.getD e.on 0).testBit i=true)
 | [],s,h=> .inl h
 |e::es,s,h=>by
  have h:=ZdH es _ h;rcases h with h |⟨e',b,h⟩
  ·dsimp only at h;split at h
   ·rename_i c;simp only[Nat.testBit_or,Bool.or_eq_true]at h;rcases h with (h |h) |h
    ·exact .inl h
    ·rw[Nat.testBit_two_pow]at h;exact .inr ⟨e,by simp,c,.inl (by simpa using h)⟩
    ·exact .inr ⟨e,by simp,c,.inr h⟩
   ·exact .inl h
  ·exact .inr ⟨e',by simp[b],h⟩
theorem ZeP (ops:Array Oper):∀(l pre:List Oper) (a:List Nat),pre++l=ops.toList->a.length=pre.length->(∀j i,(a.getD j 0).testBit i=true->Zex ops j i)->
  ∀j i,((l.foldl (init:=a) fun a o=>a++[o.after.toList.foldl (fun s e=>if Region.binds .any e then s|||2 ^ e.on|||a.getD e.on 0 else s) 0]).getD j 0).testBit i=true->Zex ops j i
 | [],pre,a,_,_,h=>h
 |o::l,pre,a,hp,hl,h=>by
  simp only[List.foldl_cons];refine ZeP ops l (pre++[o]) _ (by simpa using hp) (by simp[hl]) fun j i f=> ?_
  have k:ops[pre.length]? =some o:=by rw[<-ZmU,<-hp];simp
  by_cases hj:j < a.length
  ·refine h j i ?_;simpa[Znl,List.getElem?_append_left hj]using f
  ·by_cases hj2:j=a.length
   ·subst hj2;have g:(Zjy a o.after.toList 0).testBit i=true:=by simpa[Znl,Zjy]using f
    rcases ZdH _ _ g with b |⟨e,m,c,b⟩
    ·simp at b
    ·rw[hl];have d:e∈o.after:=by simpa using m
     rcases b with rfl |b
     ·exact .one k d c
     ·exact .more k d c (h _ _ b)
   ·have:((a++[o.after.toList.foldl (fun s e=>if Region.binds .any e then s|||2 ^ e.on|||a.getD e.on 0 else s) 0]).getD j 0)=0:=by rw[Znl,List.getElem?_eq_none (by simp;omega)];rfl
    rw[this]at f;simp at f
theorem Zg1 {ops:Array Oper} {j i:Nat} (h:((masks ops.toList).getD j 0).testBit i=true):Zex ops j i:=
 ZeP ops ops.toList [] [] rfl rfl (fun j i h=>by simp at h) j i h
def ZeG (ops:Array Oper) (ep i:Nat) (b:Oper) (a:Fp):Nat->List Oper->List Fp->List Nat->Bool
 |_,[],_,_=>true
 |j,oj::os,fj::fs,m::ms=>(m.testBit i||Zg6 ops ep i j b oj a fj)&&ZeG ops ep i b a (j+1) os fs ms
 |_,_,_,_=>false
def ZcD (ops:Array Oper) (ep:Nat):Nat->List Oper->List Fp->List Nat->Bool
 |_,[],_,_=>true
 |i,oi::os,fi::fs,m::ms=>ZeG ops ep i oi fi (i+1) os fs ms&&ZcD ops ep (i+1) os fs ms
 |_,_,_,_=>false
def Zh0:Nat->List Oper->Bool
 |_,[]=>true
 |i,o::os=>(o.after.toList.all fun e=> !Region.binds .any e||decide (e.on < i))&&Zh0 (i+1) os
def Zgo (ops:Array Oper) (ep:Nat) (a:List Fp):Bool:=Zh0 0 ops.toList&&ZcD ops ep 0 ops.toList a (masks ops.toList)
theorem Zd7:∀(l:List Oper) (i:Nat),Zh0 i l=true->∀k o,l[k]? =some o->∀e∈o.after,Region.binds .any e=true->e.on < i+k
 | [],_,_,k,o,h=>by simp at h
 |o::l,i,h,k,o',hk=>by
  simp only[Zh0,Zmt,ZmX,Bool.or_eq_true,Bool.not_eq_true',decide_eq_true_eq]at h;cases k with
  |zero=>
   simp at hk;subst hk;intro e b a;have:=h.1 e (by simpa using b);rw[a]at this;simpa using this
  |succ k=>
   simp at hk;intro e b a;have:=Zd7 l (i+1) h.2 k o' hk e b a;omega
theorem Zdw {ep i:Nat} {d:Oper} {c:Fp}:∀(os:List Oper) (fs:List Fp) (ms:List Nat) (j:Nat),ZeG ops ep i d c j os fs ms=true->∀k b a,os[k]? =some b->fs[k]? =some a->
  (ms.getD k 0).testBit i=true\/Zg6 ops ep i (j+k) d b c a=true
 | [],_,_,_,_,k,b,a,h,_=>by simp at h
 |o::os,[],_,_,h,_,_,_,_,_=>by simp[ZeG]at h
 |o::os,f::fs,[],_,h,_,_,_,_,_=>by simp[ZeG]at h
 |o::os,f::fs,m::ms,j,h,k,b,a,ho,hf=>by
  simp only[ZeG,Zmt,Bool.or_eq_true]at h;cases k with
  |zero=>simp at ho hf;subst ho hf;simpa using h.1
  |succ k=>
   simp at ho hf;have:=Zdw os fs ms (j+1) h.2 k b a ho hf;simpa[Nat.add_assoc,Nat.add_comm 1 k]using this
theorem Zc0 {ep:Nat}:∀(os:List Oper) (fs:List Fp) (ms:List Nat) (i:Nat),ZcD ops ep i os fs ms=true->∀k l d b c a,k < l->os[k]? =some d->os[l]? =some b->fs[k]? =some c->fs[l]? =some a->
  (ms.getD l 0).testBit (i+k)=true\/Zg6 ops ep (i+k) (i+l) d b c a=true
 | [],_,_,_,_,k,l,d,b,c,a,_,h,_,_,_=>by simp at h
 |o::os,[],_,_,h,_,_,_,_,_,_,_,_,_,_,_=>by simp[ZcD]at h
 |o::os,f::fs,[],_,h,_,_,_,_,_,_,_,_,_,_,_=>by simp[ZcD]at h
 |o::os,f::fs,m::ms,i,h,k,l,d,b,c,a,hkl,h1,h2,h3,h4=>by
  simp only[ZcD,Zmt]at h;cases l with
  |zero=>omega
  |succ l=>
   simp at h2 h4;cases k with
   |zero=>
    simp at h1 h3;subst h1 h3;have:=Zdw os fs ms (i+1) h.1 l b a h2 h4;simpa[Nat.add_assoc,Nat.add_comm 1 l]using this
   |succ k=>
    simp at h1 h3;have:=Zc0 os fs ms (i+1) h.2 k l d b c a (by omega) h1 h2 h3 h4;simpa[Nat.add_assoc,Nat.add_comm 1 l,Nat.add_comm 1 k]using this
def ZkW (C:Ctx) (ops:Array Oper):List Fp->Nat->St->St->Prop
 | [],_,st,st'=>st=st'
 |f::r,k,st,st'=>∃o e,ops[k]? =some o/\OEf C ops k o st e f/\ZkW C ops r (k+1) (st.app k o.dst e) st'
def Zmn (n k:Nat) (a:Array Bool):Prop:=a.size=n/\∀j,j < n->a[j]? =some (decide (j < k))
theorem Zmn.set {n k:Nat} {a:Array Bool} (h:Zmn n k a):Zmn n (k+1) (a.setIfInBounds k true):=by
 refine⟨by simp[h.1],fun j b=> ?_⟩;rw[Array.getElem?_setIfInBounds]
 by_cases hjk:k=j
 ·subst hjk;simp[h.1,b]
 ·rw[if_neg hjk,h.2 j b];simp only[ZmR,decide_eq_decide];omega
theorem ZkV {ep:Nat} {x:St} (s:Zgo ops ep tbl=true) (N:tbl.length=ops.size) (P:K x):∀(l:List Fp) (k:Nat) (a:Array Bool) (v:St),(∀j,l[j]? =tbl[k+j]?)->k+l.length=ops.size->
  Zmn ops.size k a->v.ep=ep->ZkW C ops l k v x->Zmo C ops tbl K l.length a v:=by
 simp only[Zgo,Zmt]at s;have q:=Zd7 _ _ s.1;have r:=Zc0 _ _ _ _ s.2;have c:∀k o,ops[k]? =some o->∀e∈o.after,Region.binds .any e=true->e.on < k:=fun k o w e H y=>by have:=q k o (by rw[ZmU];exact w) e H y;omega
 have b:∀{k:Nat} {a:Array Bool},Zmn ops.size k a->∀j,j < ops.size->∀d,a.getD j d=decide (j < k):=fun i j p d=>by rw[Array.getD_eq_getD_getElem?,i.2 j p];rfl
 have n:∀{k:Nat} {a:Array Bool},k<=ops.size->Zmn ops.size k a->Zfb ops a:=by intro k a w i j o p u e H y;have m:=(Zmp.1 p).1;rw[b i j m]at u;have:=c j o p e H y;have u:=of_decide_eq_true u;rw[b i _ (by omega)];simp;omega
 intro l
 induction l with
 |nil=>
  intro k a v _ w i _ g;simp only[ZkW]at g;subst g;simp only[List.length_nil,Nat.add_zero]at w;refine⟨?_,P⟩;refine List.eq_nil_iff_forall_not_mem.2 fun j p=> ?_
  obtain⟨I,o,t,_⟩:=mem_ready.1 p;have m:=(Zmp.1 t).1;rw[b i j m]at I;simp at I;omega
 |cons f l M=>
  intro k a v u w i z g;obtain⟨o,e,t,B,g⟩:=g;have G:=(Zmp.1 t).1;have J:tbl[k]? =some f:=by simpa using (u 0).symm
  simp only[List.length_cons]at w|-
  refine ZiW t J l.length a v (n (by omega) i) (fun j Q L p D O A E=> ?_) (mem_ready.2 ⟨?_,o,t,fun e' F y=> ?_⟩) B
   (M (k+1) _ _ (fun j=>by have:=u (j+1);simpa[Nat.add_assoc,Nat.add_comm 1 j]using this) (by omega) i.set (by rw[Zcu];exact z) g)
  ·have m:=(Zmp.1 p).1;rw[b i j m]at A;simp at A;have:=r k j o Q f L (by omega) (by rw[ZmU];exact t) (by rw[ZmU];exact p) J D;simp only[Znh]at this;rcases this with h |h
   ·exact absurd (Zg1 h) E
   ·rw[z];exact h
  ·rw[b i k G];simp
  ·have:=c k o t e' F y;rw[b i _ (by omega)];simpa using this
theorem Zmo.run (V:Zk C.E) {b:Frame} (A:List Go.Item) (cs:List Frame) (Q:b.roundOf=r.r):∀(d t:Nat) (c:Array Bool) (n:St),Zmo C ops tbl K d c n->∀(X:Nat->Prop),(∀j,j < ops.size->X j->c.getD j true=true)->
  ∀ρ S a w,Rep C X ρ S n a.tmps w->a.defers=r.ds->∃X' ρ' S' g m w',Rep C X' ρ' S' g m.tmps w'/\m.defers=r.ds/\K g/\
   StepsIn (Machine.fenced C.E.prog (Zcj r.r)) C.E.prog (lone (b.atR a (.inRegion ops (Region.linearise.go .any ops d t c [])::A)) cs w) (lone (b.atR m (.inRegion ops []::A)) cs w'):=by
 intro d
 induction d with
 |zero=>
  intro t c n h X y ρ S a w p v;exact⟨X,ρ,S,n,a,w,p,v,h.2,by simp only[Region.linearise.go,List.reverse_nil];exact .refl _⟩
 |succ d M=>
  intro t c n h X y ρ S a w p v;obtain⟨P,T⟩:=h;simp only[Region.linearise.go]
  change ∃X' ρ' S' g m w',_/\_/\_/\StepsIn _ _ (lone (b.atR a (.inRegion ops (match (Region.ready .any ops c)[t % (Region.ready .any ops c).length]? with
   |some i=>Region.linearise.go .any ops d (t / (Region.ready .any ops c).length) (c.setIfInBounds i true) [i]
   |none=>[].reverse)::A)) cs w) _
  cases hi:(Region.ready .any ops c)[t % (Region.ready .any ops c).length]? with
  |none=>
   have s:Region.ready .any ops c=[]:=by
    cases p:Region.ready .any ops c with
    |nil=>rfl
    |cons x xs=>
     rw[p]at hi;have E:t % (x::xs).length < (x::xs).length:=Nat.mod_lt _ (by simp);simp at hi;simp at E;omega
   exact⟨X,ρ,S,n,a,w,p,v,P s,by simp only[List.reverse_nil];exact .refl _⟩
  |some i=>
   have u:=List.mem_of_getElem? hi;obtain⟨o,e,f,I,_,D,l⟩:=T i u;have q:=(Zmp.1 I).1;have k:=(mem_ready.1 u).1;obtain⟨ρ1,S1,L,R,G,H,F⟩:=(D.1.exec (r:=r) V I) X (fun J=>by rw[y i q J]at k;cases k) ρ S a w p v b (Region.linearise.go .any ops d (t / (Region.ready .any ops c).length) (c.setIfInBounds i true) []) A cs Q;obtain⟨X',ρ',S',g,m,w',q1,U,N,O⟩:=M (t / (Region.ready .any ops c).length) _ _ l (fun j=>X j\/j=i) (fun j B z=>by
    rcases z with z |rfl
    ·by_cases hji:i=j
     ·subst hji;rw[y i q z]at k;cases k
     ·rw[getD_set_ne true hji];exact y j B z
    ·rw[Array.getD_eq_getD_getElem?,Array.getElem?_setIfInBounds];simp only[if_true];split<;>rfl) ρ1 S1 L R G H
   refine⟨X',ρ',S',g,m,w',q1,U,N, ?_⟩;dsimp only;rw[linearise_go_acc,List.reverse_singleton,List.singleton_append];exact F.trans O
theorem Rep.drawn {X:Nat->Prop} {ρ:Id->Option Lay} {S:Nat->Prop} {b:St} {tm:Array Value} {w:World} (h:Rep C X ρ S b tm w) (n:Nat):Rep C X ρ S b tm {w with drawn:=n}:=by
 have a:Zcx S w {w with drawn:=n}:=fun _ _ _=>rfl
 exact {h with
  slots:=fun k=>(h.slots k).mono a (fun _ h=>h) (fun _ _ h=>h)
  objs:=fun id o e c=>by obtain⟨L,hL,f⟩:=h.objs id o e c;exact⟨L,hL,f.mono a (fun _ h=>h) (fun _ _ h=>h) (fun _ _=>rfl)⟩
  glob:=fun g cs d=>(h.glob g cs d).mono a (fun _ h=>h)}
variable {G:Zj8}
def DW (C:Ctx) (r:Fm) (G:Zj8) (k:List Item) (ops:Array Oper) (a:List Fp) (c:St):Prop:=
 ∃rest b,(a++rest).length=ops.size/\Zgo ops c.ep (a++rest)=true/\ZkW C ops rest a.length c b/\AWP C r G k b.next
theorem dw_op {k:List Item} {a:List Fp} {b:St} {o:Oper} {e:Eff} {f:Fp} (j:ops[a.length]? =some o) (h:OEf C ops a.length o b e f) (i:DW C r G k ops (a++[f]) (b.app a.length o.dst e)):DW C r G k ops a b:=by obtain⟨rest,c,q1,l,g,d⟩:=i;refine⟨f::rest,c,by simpa using q1,by simpa using l,⟨o,e,j,h,by simpa using g⟩,d⟩
theorem dw_end {k:List Item} {a:List Fp} {b:St} (d:a.length=ops.size) (c:Zgo ops b.ep a=true) (e:AWP C r G k b.next):DW C r G k ops a b:=
 ⟨[],b,by simpa using d,by simpa using c,rfl,e⟩
theorem ZkR {k:List Item} {st:St} {id:Nat} (hE:Zk C.E) (hm:C.E.prog.follows .mixedOrders=true) (h:DW C r G k ops [] st):AWP C r G (.c (.region id ops true)::k) st:=by intro ρ S a w hr hd b k0 cs hb;obtain⟨rest,st',q1,q2,q3,q4⟩:=h;simp only[List.nil_append]at q1 q2;have hany:=ZkV (K:=fun s=>s=st') q2 q1 rfl rest 0 (Array.replicate ops.size false) st (by simp) (by simpa using q1) ⟨by simp,fun j hj=>by simp[hj]⟩ rfl q3;rw[q1]at hany;have hr0:Rep C (fun _=>False) ρ S st a.tmps w:=hr;obtain⟨X',ρ',S',st2,a',w',p1,p2,p3,p4⟩:=hany.run hE (b:=b) (k.map conc++k0) cs hb ops.size (w.tape w.drawn (.order b.fn id)) _ _ (fun _=>False) (fun _ _ h=>h.elim) ρ S a {w with drawn:=w.drawn+1} (hr0.drawn _) hd;subst p3;obtain⟨e,a2,w2,hg,harr⟩:=q4 ρ' S' a' w' (p1.nextEp.weakX (fun _ h=>h.elim)) p2 b k0 cs hb;refine⟨e,a2,w2,hg,.of_steps ?_ harr⟩;refine .head (Zx _ _ _) (stepR_region_draw) (StepsIn.trans (m₁:=lone (b.atR a' (.inRegion ops []::(k.map conc++k0))) cs w') ?_ (.one (Zx _ _ _) stepR_region_end));simp only[Region.schedule,hm,Bool.true_or,if_true];exact p4
end
end Eng
namespace Eng
open Go
structure Under (st2 st:St):Prop where
 ep:st2.ep=st.ep
 slots:∀k,st2.slots k= .dead\/st2.slots k=st.slots k
 objs:∀id,st2.objs id=none\/st2.objs id=st.objs id
 fz:∀id,st2.fz id=st.fz id
section
variable {C:Ctx} {r:Fm} {G:Zj8} {ops:Array Oper}
def objL (a:St):List Id->Option (List Obj)
 | []=>some []
 |id::r=>match a.objs id,objL a r with
  |some o,some os=>some (o::os)
  |_,_=>none
end
end Eng
namespace Eng
open Go
def Zi2 (w w':World):Prop:=ZS w w'/\w.heap.size<=w'.heap.size/\∀b,b < w.heap.size->w'.heap[b]? =w.heap[b]?
theorem Zi2.keptBut {w w':World} (h:Zi2 w w') (a:MemPlace->Prop):w.keptBut w' a:=by
 refine⟨h.1.1,h.1.2,fun i hi=> ?_⟩;rw[h.2.2 i hi];cases w.heap[i]? with
 |none=>rfl
 |some o=>cases o<;>simp
theorem Ze4:∀(n:Nat) (xs:List P),Zdd n (xs.map .p)=[]
 |_,[]=>rfl
 |n,x::xs=>by simp only[ZmD,Zdd,Arg.o];exact Ze4 (n+1) xs
theorem ZjE {E:Env} {f:Nat} {xs:List P} {a:Array Value} {w:World} {y:P} (r:Fun E f (xs.map .p) ⟨[.p y],[]⟩) (m:(E.prog.funcs[f]?.map fun fn=>fn.body.isNone)=some false) (F:a.size=xs.length)
  (l:∀(k:Nat) v x,a[k]? =some v->xs[k]? =some x->RelP w (fun b=>b < w.heap.size) v x) (i:∀g cs,(g,cs)∈E.globs->Zej w (fun b=>b < w.heap.size) g cs):
  Calls E.prog f a w fun e w'=>(∃v S,e= .returned v/\RelP w' S v y)/\Zi2 w w':=by
 obtain r |⟨⟨fn,n,u⟩,_⟩:=r
 case inr=>rw[n,Zny,u]at m;cases m
 refine Calls.mono (CallsIn.calls (r.2 w (fun _=>False) (fun b=>b < w.heap.size) (fun _=>none) (fun _=>none) a (by simpa using F) ?_) (fun _=>by intro d G;simp[Zcj]at G)) ?_
 ·have p:∀id,(Zew (xs.map .p)).objs id=none:=fun id=>by show Ze (Zdd 0 (xs.map .p)) id=none;rw[Ze4];rfl
  exact {
   nt:=rfl
   grow:=ZmL _
   frame:=fun _ _ _=>rfl
   s0:=fun _ h=>h
   sIn:=fun _ h=>h
   slots:=fun k=>by
    show RelD w _ _ (a.getD k undef) (Zal D.dead (ZcT 0 (xs.map .p)) k);rcases ZaG D.dead (ZcT 0 (xs.map .p)) k with q |q
    ·rw[q];exact .dead _
    ·obtain⟨j,x,q1,q2,z⟩:=Zed 0 _ _ _ q;rw[Znh]at q2 z;subst q2;rw[ZmB,Option.map_eq_some_iff]at q1;obtain⟨B,q1,rfl⟩:=q1;rw[z];have C:=(ZmA.1 q1).1;have s:a[k]? =some a[k]:=by simp
     rw[show a.getD k undef=a[k] by simp[show k < a.size by omega]];exact .p _ _ (l k _ B s q1)
   objs:=fun id o h=>by rw[p id]at h;cases h
   own:=fun id o L b h=>by rw[p id]at h;cases h
   inj:=fun id o L A o' L' b h=>by rw[p id]at h;cases h
   known:=fun id h=>absurd (p id) h
   young:=fun id h=>absurd rfl h
   fzk:=fun id h=>by cases h
   glob:=i
   sOut:=fun b h=> .inl h
   ep1:=ZmL _
   quiet:= .refl _
   lay:=fun k L h=>by cases h}
 ·rintro e w' ⟨vs,ρ',S',rfl,t,c⟩;refine⟨⟨ZgJ vs,S',rfl, ?_⟩,c.quiet,c.grow,fun b m=>c.frame b m (fun h=>h)⟩;have n:vs.size=1:=by simpa using t
  have:=c.slots 0;have u:vs.getD 0 undef=vs[0]:=by simp[n]
  rw[u]at this;unfold ZgJ;rw[dif_pos n];exact this.of_p
theorem Zkc {E:Env} {f:Nat} {xs:List P} {a:Array Value} {w:World} {y:Bool} (i:Fun E f (xs.map .p) ⟨[.p (.bool y)],[]⟩) (h:(E.prog.funcs[f]?.map fun fn=>fn.body.isNone)=some false) (j:a.size=xs.length)
  (d:∀(k:Nat) v x,a[k]? =some v->xs[k]? =some x->RelP w (fun b=>b < w.heap.size) v x) (c:∀g cs,(g,cs)∈E.globs->Zej w (fun b=>b < w.heap.size) g cs):
  Calls E.prog f a w fun e w'=>e= .returned (.bool y)/\Zi2 w w':=
 Calls.mono (ZjE i h j d c) fun e w' ⟨⟨v,S,he,hr⟩,hk⟩=>⟨by cases hr;exact he,hk⟩
open Go.ChangeShapes Go.WideShapes in
theorem Zk2 {H:Type} {P:Program} {enc:TypeId×Value->H} {f:Func} {s:ChangeSpec} {apart fresh handsOn again:Bool} {W W':World} {args:Array Value} {v:Value} {ds gs:List (DataW H)} {before pa pv:List MemPlace}
  (hW:DataW.Whole enc P f.params.toList s.vars apart W args.toList ds gs before)
  (hres:∀(b:Nat) (sp:Nat->Bool) (hd:Bool),DataW.TrodAll enc P W' b sp hd f.resultTypes.toList (v.resultList f.resultTypes.size) (s.fn H (ds++gs)).results [])
  (hargs:∀sp:Nat->Bool,(∀p∈before,sp p.block=true)->DataW.TrodAll enc P W' 0 sp true f.params.toList args.toList (s.fn H (ds++gs)).args pa)
  (hvars:∀sp:Nat->Bool,(∀p∈before,sp p.block=true)->DataW.TrodVars enc P W' sp s.vars (s.fn H (ds++gs)).vars pv)
  (hps:before=pa++pv) (hk:Zi2 W W')
  (hok:∀(j:Nat) (t:TypeId) (r:Value),f.resultTypes[j]? =some t->(v.resultList f.resultTypes.size)[j]? =some r->Value.okWide P W' .any 0 t r):
  s.post enc P f apart fresh handsOn again W args v W':=by
 have hold:∀p∈before,(fun b=>decide (b < W.heap.size)) p.block=true:=fun p hp=>by simpa using hW.lt p hp
 have hlt:=hW.lt
 refine⟨ds,gs,before,[],pa,pv,hW,hres _ _ _,hargs _ hold,hvars _ hold,World.keptBut_mono (fun p hp=>⟨hp, ?_⟩) (hk.keptBut (· ∈before)),fun _=> ?_⟩
 ·rw[hps,List.mem_append]at hp
  exact Or.inr hp
 ·obtain⟨_,_,_,_,_,hz,hn⟩:=hW
  refine⟨hok,_,_,([]++pa)++pv,⟨[]++pa,pv,trodAll_append (hargs _ (fun _ _=>rfl)) (hres _ _ _),hvars _ (fun _ _=>rfl),rfl, ?_, ?_⟩, ?_⟩
  ·intro b off hp
   have hp':MemPlace.cell b off∈before:=by rw[hps];simpa using hp
   have hb:b < W.heap.size:=hlt _ hp'
   rw[Za6 (hk.2.2 b hb)]
   exact hz b off hp'
  ·intro ha
   have:=hn ha
   rw[hps]at this
   simpa using this
  ·intro p hp _
   rw[hps]
   simpa using hp
end Eng
namespace Eng
open Go
def chk {a:Type} (b:Bool) (k:Option a):Option a:=match b with
 |true=>k
 |false=>none
theorem Zo {a:Type} {b:Bool} {k:Option a} {r:a} (h:chk b k=some r):b=true/\k=some r:=by cases b<;>simp_all [chk]
@[simp] theorem chk_true {a:Type} (k:Option a):chk true k=k:=rfl
theorem bind_some {b β:Type} {x:Option b} {f:b->Option β} {r:β} (h:x.bind f=some r):∃a,x=some a/\f a=some r:=by cases x<;>simp_all
def inK (k:IntKind) (n:Int):Bool:=decide (k.min<=n/\n<=k.max)
def idx {a:Type} (xs:List a) (n:Int):Option a:=if 0<=n then xs[n.toNat]? else none
theorem ZhP {a:Type} {xs:List a} {n:Int} {x:a} (h:idx xs n=some x):0<=n/\n < xs.length/\xs[n.toNat]? =some x:=by unfold idx at h;split at h;rotate_left;cases h;rename_i b;have:=(ZmA.1 h).1;exact⟨b,by omega,h⟩
theorem Zhv {a:Type} (xs:List a) (f:a->P):(xs.map f).take xs.length=xs.map f:=by rw[<-Znp (f:=f),List.take_length]
theorem dt_map {a:Type} (xs:List a) (f:a->P):((xs.map f).drop 0).take xs.length=xs.map f:=by rw[List.drop_zero,Zhv]
section
variable {C:Ctx} {r:Fm} {G:Zj8} {ops:Array Oper}
end
inductive Out (β ρ:Type) where
 |brk (b:β)
 |ret (r:ρ)
def Zlc (f:Func):Code:=match f.body with |some c=>c |none=> .skip
def sub:List Nat->Code->Code
 | [],c=>c
 |0::p,.seq a _=>sub p a
 |1::p,.seq _ b=>sub p b
 |2::p,.cond _ a _=>sub p a
 |3::p,.cond _ _ b=>sub p b
 |4::p,.block _ b=>sub p b
 |5::p,.loop b=>sub p b
 |_::_,_=> .skip
def big:Nat:=36893488147419103232
theorem big_eq:big=36893488147419103232:=rfl
abbrev Str:=List UInt8
def encL {a:Type} (sz:Nat) (f:a->P) (xs:List a):P:= .sl sz (xs.map f)
end Eng
namespace Eng
open Go
inductive Ty where
 |bool |int (k:IntKind) |str |sl (t:Ty) |st (n:Nat) |map (k v:Ty) |fnc
 deriving DecidableEq,Inhabited
def Ty.td:Ty->TD
 | .bool=> .bool
 | .int k=> .int k
 | .str=> .str
 |_=> .other
@[reducible] def El (car:Nat->Type):Ty->Type
 | .bool=>Bool
 | .int _=>Int
 | .str=>List UInt8
 | .sl t=>List (El car t)
 | .st n=>car n
 | .map k v=>List (El car k×El car v)
 | .fnc=>Option Nat
structure Lf (car:Nat->Type) where
 t:Ty
 x:El car t
structure Zc where
 car:Nat->Type
 size:Nat->Nat
 cells:(n:Nat)->car n->List (Lf car)
 of:(n:Nat)->List (Lf car)->Option (car n)
 enc:(n:Nat)->car n->P
def Zc.tsize (U:Zc):Ty->Nat
 | .st n=>U.size n
 |_=>1
def ZjM:Option Nat->P
 |some f=> .fn f [] []
 |none=> .nilfn
def Zc.encE (U:Zc):(t:Ty)->El U.car t->P
 | .bool,b=> .bool b
 | .int k,n=> .int k n
 | .str,s=> .str s
 | .sl t,xs=> .sl (U.tsize t) (xs.map (U.encE t))
 | .st n,x=>U.enc n x
 | .map k v,kv=> .map k.td (kv.map fun e=>(U.encE k e.1,U.encE v e.2))
 | .fnc,x=>ZjM x
def Zc.encL (U:Zc) (l:Lf U.car):P:=U.encE l.t l.x
def Zc.cellsE (U:Zc):(t:Ty)->El U.car t->List (Lf U.car)
 | .st n,x=>U.cells n x
 |t,x=>[⟨t,x⟩]
def Zc.ofE (U:Zc):(t:Ty)->List (Lf U.car)->Option (El U.car t)
 | .st n,cs=>U.of n cs
 |t,[c]=>if h:c.t=t then some (h▸c.x)else none
 |_,_=>none
structure UOk (U:Zc):Prop where
 of_cells:∀n cs x,U.of n cs=some x->U.cells n x=cs
 enc_cells:∀n x,U.enc n x= .agg ((U.cells n x).map U.encL)
 len:∀n x,(U.cells n x).length=U.size n
inductive TV (U:Zc) where
 |v (t:Ty) (x:El U.car t)
 |pp (cs:List (Lf U.car))
 |nilp |nilfn
 |dead |undef
 |nils (t:Ty)
 |clip (t:Ty) (xs:List (El U.car t))
 |agg (cs:List (TV U))
 |tup (vs:List (TV U))
 |full (id:Id) (n:Nat)
 |sl (id:Id) (off len:Nat)
 |ptr (id:Id) (i j:Nat)
 |map (id:Id)
 |it (id:Id)
 |fn (f:Nat) (first caps:List (TV U))
instance {U:Zc}:Inhabited (TV U):=⟨.dead⟩
inductive TO (U:Zc) where
 |box (cs:List (TV U))
 |arr (t:Ty) (xs:List (El U.car t)) (fix:Bool)
 |map (k v:Ty) (kv:List (El U.car k×El U.car v))
 |sit (s:List UInt8) (pos:Nat)
 |mit (k v:Ty) (rest:List (El U.car k×El U.car v)) (cur:Option (El U.car k×El U.car v))
 |gone
structure TS (U:Zc) where
 slots:Nat->TV U
 objs:Id->Option (TO U)
 fz:Id->Bool
 ep:Nat
def fnD (f:Nat) (a b:List D):D:=match Zm D.pure? a,Zm D.pure? b with
 |some x,some y=> .p (.fn f x y)
 |_,_=> .fn f a b
mutual
def TV.enc {U:Zc}:TV U->D
 | .v t x=> .p (U.encE t x)
 | .pp cs=> .p (.ptr (cs.map U.encL))
 | .nilp=> .p .nilp
 | .nilfn=> .p .nilfn
 | .dead=> .dead
 | .undef=> .undef
 | .nils t=> .nils (U.tsize t)
 | .clip t xs=> .clip (U.tsize t) (xs.map (U.encE t))
 | .agg cs=> .mkAgg (TV.encs cs)
 | .tup vs=> .tup (TV.encs vs)
 | .full id n=> .sl id 0 n
 | .sl id c len=> .sl id c len
 | .ptr id i j=> .ptr id i j
 | .map id=> .map id
 | .it id=> .it id
 | .fn f a b=>fnD f (TV.encs a) (TV.encs b)
def TV.encs {U:Zc}:List (TV U)->List D
 | []=>[]
 |d::r=>d.enc::TV.encs r
end
theorem ZaN {U:Zc}:∀l:List (TV U),TV.encs l=l.map TV.enc
 | []=>rfl
 |d::r=>by rw[TV.encs,ZaN r];rfl
def TO.enc {U:Zc}:TO U->Obj
 | .box cs=> .box (TV.encs cs)
 | .arr t xs fix=> .arr (U.tsize t) (xs.map (U.encE t)) fix
 | .map k v c=> .map k.td (c.map fun e=>(U.encE k e.1,U.encE v e.2))
 | .sit s b=> .sit s b
 | .mit k v rest a=> .mit (rest.map fun e=>(U.encE k e.1,U.encE v e.2)) (a.map fun e=>(U.encE k e.1,U.encE v e.2))
 | .gone=> .gone
def Zik {U:Zc}:Option (TO U)->Option Obj
 |some o=>some o.enc
 |none=>none
def TS.enc {U:Zc} (T:TS U):St:={slots:=fun k=>(T.slots k).enc,objs:=fun id=>Zik (T.objs id),fz:=T.fz,ep:=T.ep}
mutual
def TV.fulls {U:Zc}:TV U->List (Id×Nat)
 | .full id n=>[(id,n)]
 | .agg cs=>TV.fullsL cs
 | .tup cs=>TV.fullsL cs
 | .fn _ a b=>TV.fullsL a++TV.fullsL b
 |_=>[]
def TV.fullsL {U:Zc}:List (TV U)->List (Id×Nat)
 | []=>[]
 |d::r=>d.fulls++TV.fullsL r
end
theorem Zs {U:Zc} {q:Id×Nat}:∀{l:List (TV U)},q∈TV.fullsL l<->∃d∈l,q∈d.fulls
 | []=>by simp[TV.fullsL]
 |d::r=>by simp[TV.fullsL,Zs (l:=r)]
def Zis {U:Zc} (lk:Id->Option (TO U)) (q:Id×Nat):Prop:=∃o,lk q.1=some o/\∀t xs fix,o= .arr t xs fix->xs.length=q.2
def TV.inv {U:Zc} (lk:Id->Option (TO U)) (d:TV U):Prop:=∀q∈d.fulls,Zis lk q
def TO.inv {U:Zc} (lk:Id->Option (TO U)):TO U->Prop
 | .box cs=>∀d∈cs,d.inv lk
 |_=>True
structure TS.Inv {U:Zc} (T:TS U):Prop where
 slots:∀k,(T.slots k).inv T.objs
 objs:∀id o,T.objs id=some o->o.inv T.objs
theorem ZbH {U:Zc} (a:UOk U) (t:Ty) (x:El U.car t):(U.cellsE t x).length=U.tsize t:=by cases t<;>first |exact a.len _ _ |rfl
theorem Zav {U:Zc} (a:UOk U) (t:Ty) (x:El U.car t):(U.encE t x).cells=(U.cellsE t x).map U.encL:=by
 cases t with
 |st n=>simp only[Zc.encE,Zc.cellsE,a.enc_cells n x,P.cells]
 |fnc=>cases x<;>rfl
 |_=>rfl
theorem ZaC {U:Zc} (d:UOk U) {t:Ty} {cs:List (Lf U.car)} {x:El U.car t} (h:U.ofE t cs=some x):U.cellsE t x=cs:=by
 have a:∀(t:Ty) (c:Lf U.car) (x:El U.car t),(if h:c.t=t then some (h▸c.x)else none)=some x->[(⟨t,x⟩:Lf U.car)]=[c]:=by intro t c x h;split at h;rotate_left;simp at h;rename_i b;obtain⟨e,y⟩:=c;dsimp only at b;subst b;cases h;rfl
 cases t with
 |st n=>exact d.of_cells n cs x h
 |_=>
  match cs,h with
  | [c],h=>exact a _ c x h
end Eng
namespace Eng
open Go
structure TT (U:Zc) where
 ti:TI
 n:Option Nat
 ty:Ty
 zero:List (TV U)
 zl:Option (Lf U.car)
structure ZG (U:Zc) where
 prog:Program
 tt:List (Option (TT U))
 globs:List (Nat×List (Lf U.car))
 nt:Nat
def tiOf {U:Zc}:Option (TT U)->Option TI
 |some e=>some e.ti
 |none=>none
def ZG.E {U:Zc} (X:ZG U):Env:={prog:=X.prog,tys:=X.tt.map tiOf,globs:=X.globs.map fun g=>(g.1,g.2.map U.encL),nt:=X.nt}
def ZG.at {U:Zc} (X:ZG U) (n:Nat):ZG U:={X with nt:=n}
def ZG.get {U:Zc} (X:ZG U) (t:Nat):Option (TT U):=match X.tt[t]? with |some (some e)=>some e |_=>none
def ZG.elem {U:Zc} (X:ZG U) (t:Nat):Option (TT U):=match X.get t with
 |some e=>match e.ti.d with
  | .sl u=>X.get u
  |_=>none
 |none=>none
structure TOk {U:Zc} (X:ZG U):Prop where
 zero:∀t e,X.get t=some e->TV.encs e.zero=e.ti.zero.map Z.toD
 zl:∀t e l,X.get t=some e->e.zl=some l->U.encL l=e.ti.zeroP
 agg:∀t e,X.get t=some e->e.ti.isAgg=e.n.isSome
 size:∀t e n,X.get t=some e->e.n=some n->e.ti.size=U.size n
 key:∀t e k v,X.get t=some e->e.ty= .map k v->X.E.keyTD t=k.td
 inv:∀t e,X.get t=some e->∀d∈e.zero,d.fulls=[]
section
variable {U:Zc} {X:ZG U}
theorem Zw {t:Nat} {e:TT U} (h:X.get t=some e):X.E.ty t=some e.ti:=by unfold ZG.get at h;unfold Env.ty ZG.E;simp only[ZmB];split at h;rotate_left;simp at h;rename_i e' a;cases h;rw[a];rfl
theorem Zr {t:Nat} {e:TT U} (h:X.get t=some e):X.E.td t=some e.ti.d:=by simp only[Env.td,Zw h]
theorem ZaE {t:Nat} {e:TT U} (h:X.elem t=some e):X.E.elem t=some e.ti:=by unfold ZG.elem at h;unfold Env.elem;split at h;rotate_left;simp at h;rename_i e' g;rw[Zw g];split at h;rotate_left;simp at h;rename_i u f;rw[<-Zw h];generalize e'.ti=ti at f;obtain⟨d,a,b,c⟩:=ti;dsimp only at f;subst f;rfl
def evT (X:ZG U) (sl:Nat->TV U) (t:Nat):Operand->Option (TV U)
 | .tmp s=>some (sl s)
 | .const (.bool b)=>some (.v .bool b)
 | .const (.int k n)=>some (.v (.int k) n)
 | .const (.string s)=>some (.v .str s.data.toList)
 | .const (.slice none 0 0)=>match X.elem t with
  |some e=>if U.tsize e.ty=e.ti.size then some (.nils e.ty)else none
  |none=>none
 | .const (.pointer none)=>some .nilp
 | .const .nilFunc=>some .nilfn
 | .const (.map none)=>match X.get t with
  |some e=>match e.ty with
   | .map k v=>some (.v (.map k v) [])
   |_=>none
  |none=>none
 | .func f=>some (.fn f [] [])
 | .global g=>match X.globs.find? (·.1 == g)with
  |some x=>some (.pp x.2)
  |none=>none
 |_=>none
theorem ZhU {a:Type} (f:a->P) (g:Nat):∀l:List (Nat×List a),(l.map fun x=>(x.1,x.2.map f)).find? (·.1 == g)=(l.find? (·.1 == g)).map fun x=>(x.1,x.2.map f)
 | []=>rfl
 |x::r=>by
  simp only[ZmD,List.find?_cons];split
  ·rfl
  ·exact ZhU f g r
theorem ZlW (c:TOk X) {sl:Nat->TV U} {t:Nat} {x:Operand} {d:TV U} (h:evT X sl t x=some d):ev X.E (fun k=>(sl k).enc) t x=d.enc:=by
 unfold evT at h;split at h
 ·cases h;rfl
 ·cases h;rfl
 ·cases h;rfl
 ·cases h;rfl
 ·split at h;rotate_left;simp at h;rename_i e b;split at h;rotate_left;simp at h;rename_i f;cases h;simp only[ev,D.ofV,Env.elemSize,ZaE b,TV.enc,f]
 ·cases h;rfl
 ·cases h;rfl
 ·split at h;rotate_left;simp at h;rename_i e b;split at h;rotate_left;simp at h;rename_i k v a;cases h;simp only[ev,D.ofV,c.key t e k v b a,TV.enc,Zc.encE,Znt]
 ·cases h;rfl
 ·split at h;rotate_left;simp at h;rename_i q g;cases h;simp only[ev,Env.glob,ZG.E,ZhU,g,Zny,TV.enc]
 ·simp at h
def lv (l:Lf U.car):TV U:= .v l.t l.x
def TV.leaf?:TV U->Option (Lf U.car)
 | .v t x=>some ⟨t,x⟩
 |_=>none
theorem ZjD {d:TV U} {l:Lf U.car} (h:d.leaf?=some l):d=lv l:=by cases d<;>simp[TV.leaf?]at h;subst h;rfl
def ZdE (n:Option Nat) (cs:List (TV U)):TV U:=
 match n,Zm TV.leaf? cs with
 |some n,some ls=>match U.of n ls with
  |some x=> .v (.st n) x
  |none=> .agg cs
 |_,_=> .agg cs
def TV.cells:TV U->List (TV U)
 | .agg cs=>cs
 | .v (.st n) x=>(U.cells n x).map lv
 |d=>[d]
theorem ZcP (a:List (Lf U.car)):TV.encs (a.map lv)=(a.map U.encL).map .p:=by rw[ZaN,Zns,Zns];rfl
theorem Zas (a:List P):Zm D.pure? (a.map .p)=some a:=by
 induction a with
 |nil=>rfl
 |cons x r b=>simp only[ZmD,Zm,D.pure?,b]
theorem Zcd (a:List P):D.mkAgg (a.map .p)= .p (.agg a):=by unfold D.mkAgg;rw[Zas]
theorem Zcv:∀{cs:List (TV U)} {a:List (Lf U.car)},Zm TV.leaf? cs=some a->cs=a.map lv
 | [],a,h=>by simp[Zm]at h;subst h;rfl
 |d::r,a,h=>by simp only[Zm]at h;split at h;rotate_left;simp at h;rename_i l c b e;cases h;simp only[ZmD,<-Zcv e,ZjD b]
theorem ZeK (b:UOk U) (n:Option Nat) (cs:List (TV U)):(ZdE n cs).enc=D.mkAgg (TV.encs cs):=by
 unfold ZdE;split
 ·rename_i n d a;rw[Zcv a];split
  ·rename_i x c;rw[ZcP,Zcd,TV.enc,Zc.encE,b.enc_cells,b.of_cells _ _ _ c]
  ·rw[TV.enc]
 ·rw[TV.enc]
theorem Zf8 (n:Option Nat) (cs:List (TV U)) {q:Id×Nat} (h:q∈(ZdE n cs).fulls):∃d∈cs,q∈d.fulls:=by
 unfold ZdE at h;have:q∈TV.fullsL cs->∃d∈cs,q∈d.fulls:=fun h=>Zs.1 h
 split at h
 ·split at h
  ·simp[TV.fulls]at h
  ·exact this h
 ·exact this h
theorem ZiI (a:List D):(D.mkAgg a).cells=a:=by
 unfold D.mkAgg;split
 ·rename_i b h;rw[D.cells,Zu h]
 ·rfl
theorem ZjH (f:Nat) (a b:List D):(fnD f a b).cells=[fnD f a b]:=by unfold fnD;split<;>rfl
theorem Zd5 (c:UOk U) (d:TV U):TV.encs d.cells=d.enc.cells:=by
 cases d with
 |agg cs=>rw[TV.cells,TV.enc,ZiI]
 |v t x=>
  cases t with
  |st n=>simp only[TV.cells,ZcP,TV.enc,Zc.encE,c.enc_cells,D.cells]
  |fnc=>cases x<;>rfl
  |_=>rfl
 |fn f a b=>simp only[TV.cells,TV.encs,TV.enc,ZjH]
 |_=>rfl
theorem Zhh {d:TV U} {q:Id×Nat}:(∃c∈d.cells,q∈c.fulls)->q∈d.fulls:=by
 rintro⟨c,a,b⟩;cases d with
 |agg cs=>exact Zs.2 ⟨c,a,b⟩
 |v t x=>
  cases t<;>simp only[TV.cells,ZmI,Znc]at a
  case st n=>obtain⟨l,_,rfl⟩:=a;simp[lv,TV.fulls]at b
  all_goals (subst a;simpa using b)
 |_=>simp only[TV.cells,ZmI]at a;subst a;exact b
def TV.okv:TV U->Bool
 | .dead | .undef | .tup _=>false
 |_=>true
theorem Zfo {d:TV U} (h:d.okv=true):d.enc.okv=true:=by
 cases d with
 |agg cs=>rw[TV.enc];unfold D.mkAgg;cases Zm D.pure? (TV.encs cs)<;>rfl
 |fn f a b=>rw[TV.enc];unfold fnD;cases Zm D.pure? (TV.encs a)<;>cases Zm D.pure? (TV.encs b)<;>rfl
 |dead=>simp[TV.okv]at h
 |undef=>simp[TV.okv]at h
 |tup _=>simp[TV.okv]at h
 |_=>rfl
def TS.lf1 (T:TS U):TV U->Option (Lf U.car)
 | .v t x=>some ⟨t,x⟩
 | .nils t=>some ⟨.sl t,[]⟩
 | .clip t xs=>some ⟨.sl t,xs⟩
 | .nilfn=>some ⟨.fnc,none⟩
 | .fn f [] []=>some ⟨.fnc,some f⟩
 | .full id _=>match T.objs id with
  |some (.arr t xs _)=>some ⟨.sl t,xs⟩
  |_=>none
 | .sl id a len=>match T.objs id with
  |some (.arr t xs _)=>some ⟨.sl t,(xs.drop a).take len⟩
  |_=>none
 | .map id=>match T.objs id with
  |some (.map k v kv)=>some ⟨.map k v,kv⟩
  |_=>none
 |_=>none
def TS.lf (T:TS U) (h:Option Nat):TV U->Option (Lf U.car)
 | .agg cs=>match h,Zm T.lf1 cs with
  |some n,some ls=>match U.of n ls with
   |some x=>some ⟨.st n,x⟩
   |none=>none
  |_,_=>none
 |d=>T.lf1 d
theorem ZcI {T:TS U} {d:TV U} {l:Lf U.car} (hi:d.inv T.objs) (h:T.lf1 d=some l) (m:Nat):d.enc.toP T.enc.objs m=some (U.encL l):=by
 unfold TS.lf1 at h;split at h
 ·cases h;simp[TV.enc,Zc.encL]
 ·cases h;simp[TV.enc,Zc.encL,Zc.encE]
 ·cases h;simp[TV.enc,Zc.encL,Zc.encE]
 ·cases h;simp[TV.enc,Zc.encL,Zc.encE,ZjM]
 ·cases h;simp[TV.enc,TV.encs,fnD,Zm,Zc.encL,Zc.encE,ZjM]
 ·rename_i id n;split at h;rotate_left;simp at h;rename_i t xs fix a;cases h;obtain⟨o,b,c⟩:=hi (id,n) (by simp[TV.fulls]);dsimp only at b c;rw[a,ZmR]at b;subst b;have e:=c t xs fix rfl;simp only[TV.enc,Zbh,TS.enc,a,Zik,TO.enc,Zc.encL,Zc.encE,<-e,dt_map]
 ·rename_i id f len;split at h;rotate_left;simp at h;rename_i t xs fix a;cases h;simp only[TV.enc,Zbh,TS.enc,a,Zik,TO.enc,Zc.encL,Zc.encE,Znu,Znr]
 ·rename_i id;split at h;rotate_left;simp at h;rename_i k v g a;cases h;simp only[TV.enc,Zbi,TS.enc,a,Zik,TO.enc,Zc.encL,Zc.encE]
 ·simp at h
theorem Zi8 (lk:Id->Option Obj) (m:Nat) (b:List D):(D.mkAgg b).toP lk (m+1)=(Zm (D.toP lk m) b).map .agg:=by
 unfold D.mkAgg;split
 ·rename_i a h;rw[Zi7,Zu h];have:Zm (D.toP lk m) (a.map .p)=some a:=by
   clear h
   induction a with
   |nil=>rfl
   |cons x r c=>simp only[ZmD,Zm,Zi7,c]
  rw[this];rfl
 ·rfl
theorem Zcg {T:TS U} (m:Nat):∀{cs:List (TV U)} {a:List (Lf U.car)},(∀d∈cs,d.inv T.objs)->Zm T.lf1 cs=some a->Zm (D.toP T.enc.objs m) (TV.encs cs)=some (a.map U.encL)
 | [],a,_,h=>by simp[Zm]at h;subst h;rfl
 |d::r,a,hi,h=>by simp only[Zm]at h;split at h;rotate_left;simp at h;rename_i l e c f;cases h;simp only[TV.encs,Zm,ZcI (hi d (by simp)) c m,Zcg m (fun x b=>hi x (by simp[b])) f,ZmD]
theorem Zho {lk:Id->Option (TO U)} {cs:List (TV U)} (h:(TV.agg cs).inv lk):∀d∈cs,d.inv lk:=fun d b q a=>h q (Zs.2 ⟨d,b,a⟩)
theorem ZeR (b:UOk U) {T:TS U} {e:Option Nat} {d:TV U} {l:Lf U.car} (hi:d.inv T.objs) (h:T.lf e d=some l) (m:Nat):d.enc.toP T.enc.objs (m+1)=some (U.encL l):=by
 cases d with
 |agg cs=>
  simp only[TS.lf]at h;split at h;rotate_left;simp at h;rename_i n f a;split at h;rotate_left;simp at h;rename_i x c;cases h;rw[TV.enc,Zi8,Zcg m (Zho hi) a];simp only[Zny,Zc.encL,Zc.encE,b.enc_cells,b.of_cells _ _ _ c]
 |_=>exact ZcI hi h _
structure Zh (U:Zc) where
 val:TV U
 new:List (Nat×TO U):=[]
 wr:List (Id×TO U):=[]
 frz:List Id:=[]
def Zh.enc (e:Zh U) (cs:List Bool):Eff:=
 {val:=e.val.enc,new:=e.new.map fun x=>(x.1,x.2.enc),wr:=e.wr.map fun x=>(x.1,x.2.enc),frz:=e.frz,cond:=cs}
def TS.objL (T:TS U):List (Id×TO U)->TS U
 | []=>T
 |(id,o)::r=>TS.objL {T with objs:=upd T.objs id (some o)} r
def TS.freezeL (T:TS U) (l:List Id):TS U:={T with fz:=fun id=>l.contains id||T.fz id}
def TS.setO (T:TS U):Option Nat->TV U->TS U
 |some t,d=>{T with slots:=upd T.slots t d}
 |none,_=>T
def TS.app (T:TS U) (i:Nat) (dst:Option Nat) (e:Zh U):TS U:=
 (((T.objL e.wr).objL (e.new.map fun x=>((T.ep,i,x.1),x.2))).freezeL e.frz).setO dst e.val
def TS.next (T:TS U):TS U:={T with ep:=T.ep+1}
theorem ZfP {a b:St} (f:a.slots=b.slots) (e:a.objs=b.objs) (c:a.fz=b.fz) (d:a.ep=b.ep):a=b:=by cases a;cases b;simp_all
theorem objL_enc:∀(l:List (Id×TO U)) (T:TS U),(T.objL l).enc=T.enc.objL (l.map fun x=>(x.1,x.2.enc))
 | [],T=>rfl
 |(id,o)::r,T=>by simp only[TS.objL,ZmD,St.objL];rw[objL_enc r];congr 1;refine ZfP rfl ?_ rfl rfl;funext x;simp only[TS.enc,St.obj,upd];split<;>rfl
theorem freezeL_enc (l:List Id) (T:TS U):(T.freezeL l).enc=T.enc.freezeL l:=by
 refine ZfP ?_ ?_ ?_ ?_
 ·simp[TS.freezeL,TS.enc]
 ·simp[TS.freezeL,TS.enc]
 ·funext id;rw[Eng.freezeL_fz];rfl
 ·simp[TS.freezeL,TS.enc]
theorem Zko (T:TS U) (dst:Option Nat) (d:TV U):(T.setO dst d).enc=T.enc.setO dst d.enc:=by
 cases dst with
 |none=>rfl
 |some t=>
  refine ZfP ?_ rfl rfl rfl;funext x;simp only[TS.setO,TS.enc,St.setO,St.set,upd];split<;>rfl
theorem Zbb (T:TS U) (i:Nat) (dst:Option Nat) (e:Zh U) (cs:List Bool):(T.app i dst e).enc=T.enc.app i dst (e.enc cs):=by simp only[TS.app,St.app,Zko,Eng.freezeL_enc,Eng.objL_enc,Zh.enc,Zns];rfl
def ZdK (o:Option (TO U)) (o':TO U):Prop:=∀t xs fix,o'= .arr t xs fix->∃c a b,o=some (.arr c a b)/\xs.length=a.length
def fresh (T:TS U) (i:Nat) (e:Zh U):Bool:=e.new.all fun x=>(T.objs (T.ep,i,x.1)).isNone
theorem ZaR:∀(l:List (Id×TO U)) (T:TS U) (id:Id) (o:TO U),(T.objL l).objs id=some o->(id,o)∈l\/((∀o',(id,o')∉l)/\T.objs id=some o)
 | [],T,id,o,h=> .inr ⟨by simp,h⟩
 |(a,u)::r,T,id,o,h=>by
  simp only[TS.objL]at h;rcases ZaR r _ id o h with h |⟨e,c⟩
  ·exact .inl (Zna _ h)
  ·simp only[upd]at c;split at c
   ·rename_i d;simp only[ZmR]at c;subst d c;exact .inl ZmG
   ·rename_i d;exact .inr ⟨fun o' b=>by rcases ZmF.1 b with b |b;(·simp only[ZmS]at b;exact d b.1);exact e o' b,c⟩
theorem ZdB:∀(l:List (Id×TO U)) (T:TS U) (id:Id),(T.objs id).isSome=true->((T.objL l).objs id).isSome=true
 | [],T,id,h=>h
 |(a,u)::r,T,id,h=>by
  refine ZdB r _ id ?_;simp only[upd];split
  ·rfl
  ·exact h
def lkA (T:TS U) (i:Nat) (e:Zh U):Id->Option (TO U):=((T.objL e.wr).objL (e.new.map fun x=>((T.ep,i,x.1),x.2))).objs
theorem Ze9 (T:TS U) (i:Nat) (dst:Option Nat) (e:Zh U):(T.app i dst e).objs=lkA T i e:=by cases dst<;>rfl
theorem ZjC {T:TS U} {i:Nat} {e:Zh U} (u:fresh T i e=true) (hw:∀id o,(id,o)∈e.wr->ZdK (T.objs id) o) {q:Id×Nat} (h:Zis T.objs q):Zis (lkA T i e) q:=by
 obtain⟨o,b,k⟩:=h;have p:((T.objL e.wr).objs q.1).isSome=true:=ZdB _ _ _ (by rw[b];rfl);have d:=ZdB (e.new.map fun x=>((T.ep,i,x.1),x.2)) _ _ p;obtain⟨o',a⟩:=Option.isSome_iff_exists.1 d;refine⟨o',a,fun t xs fix c=> ?_⟩;subst c;rcases ZaR _ _ _ _ a with f |⟨_,s⟩
 ·obtain⟨x,m,c⟩:=Znc.1 f;have:=ZmX.1 u x m;simp only[ZmS]at c;rw[c.1,b]at this;simp at this
 ·rcases ZaR _ _ _ _ s with f |⟨_,j⟩
  ·obtain⟨v,r,l,g,n⟩:=hw _ _ f t xs fix rfl;rw[b,ZmR]at g;rw[n];exact k _ _ _ g
  ·rw[b,ZmR]at j;exact k _ _ _ j
structure ZJ (T:TS U) (i:Nat) (e:Zh U):Prop where
 wr:∀id o,(id,o)∈e.wr->ZdK (T.objs id) o
 val:fresh T i e=true->e.val.inv (lkA T i e)
 objs:fresh T i e=true->∀o,((∃k,(k,o)∈e.new)\/∃id,(id,o)∈e.wr)->o.inv (lkA T i e)
theorem TV.inv_old {T:TS U} {i:Nat} {e:Zh U} (b:fresh T i e=true) (hw:∀id o,(id,o)∈e.wr->ZdK (T.objs id) o) {d:TV U} (h:d.inv T.objs):d.inv (lkA T i e):=
 fun q a=>ZjC b hw (h q a)
theorem TS.Inv.app {T:TS U} (h:T.Inv) {i:Nat} {dst:Option Nat} {e:Zh U} (b:fresh T i e=true) (c:ZJ T i e):(T.app i dst e).Inv:=by
 constructor
 ·intro k;rw[Ze9];have:(T.app i dst e).slots k=e.val\/(T.app i dst e).slots k=T.slots k:=by
   have a:∀(l:List (Id×TO U)) (T:TS U),(T.objL l).slots=T.slots:=by
    intro l
    induction l with
    |nil=>intro T;rfl
    |cons x r n=>intro T;simp only[TS.objL];rw[n]
   cases dst with
   |none=>right;simp only[TS.app,TS.setO,TS.freezeL,a]
   |some t=>
    simp only[TS.app,TS.setO,TS.freezeL,a,upd];split
    ·exact .inl rfl
    ·exact .inr rfl
  rcases this with a |a
  ·rw[a];exact c.val b
  ·rw[a];exact TV.inv_old b c.wr (h.slots k)
 ·intro id o j;rw[Ze9]at j|-
  rcases ZaR _ _ _ _ j with f |⟨_,q⟩
  ·obtain⟨x,m,g⟩:=Znc.1 f;simp only[ZmS]at g;obtain⟨_,rfl⟩:=g;exact c.objs b _ (.inl ⟨x.1,m⟩)
  ·rcases ZaR _ _ _ _ q with f |⟨_,p⟩
   ·exact c.objs b _ (.inr ⟨id,f⟩)
   ·have:=h.objs id o p;cases o with
    |box cs=>exact fun d s=>TV.inv_old b c.wr (this d s)
    |_=>trivial
theorem TS.Inv.next {T:TS U} (h:T.Inv):T.next.Inv:=⟨h.slots,h.objs⟩
theorem ZJ.pure {T:TS U} {i:Nat} {d:TV U} {frz:List Id} (h:d.inv T.objs):ZJ T i {val:=d,frz:=frz}:=
 ⟨by simp,fun _=>h,by simp⟩
end
end Eng
namespace Eng
open Go
section
variable {U:Zc} {R:Type}
def chkL:List Bool->Option R->Option R
 | [],k=>k
 |b::r,k=>chk b (chkL r k)
def Lf.as {car:Nat->Type} (l:Lf car) (t:Ty):Option (El car t):=if h:l.t=t then some (h▸l.x)else none
def ZlY:P->Option (TV U)
 | .bool b=>some (.v .bool b)
 | .int k n=>some (.v (.int k) n)
 | .str s=>some (.v .str s)
 |_=>none
def Ziv:TV U->Option P
 | .v .bool b=>some (.bool b)
 | .v (.int k) n=>some (.int k n)
 | .v .str s=>some (.str s)
 |_=>none
def aggP:TV U->Option (List P)
 | .v (.st n) x=>some ((U.cells n x).map U.encL)
 | .agg cs=>match Zm TV.leaf? cs with
  |some a=>some (a.map U.encL)
  |none=>none
 |_=>none
def Zcy (ep i:Nat):Nat->List (TV U)->List (TV U)
 |_,[]=>[]
 |k,.nils _::r=> .full (ep,i,k) 0::Zcy ep i (k+1) r
 |k,d::r=>d::Zcy ep i (k+1) r
def ZF:Nat->List (TV U)->List (Nat×TO U)
 |_,[]=>[]
 |k,.nils t::r=>(k,.arr t [] false)::ZF (k+1) r
 |k,_::r=>ZF (k+1) r
def Zc9 (e:TT U) (cs:List (TV U)):Option (TV U):=
 if e.n.isSome then (if e.ti.size<=cs.length then some (ZdE e.n (cs.take e.ti.size))else none)
 else cs.head?
def ZdW (X:ZG U) (sl:Nat->TV U) (e:TT U):List (Nat×Operand)->List (TV U)->Option (List (TV U))
 | [],cs=>some cs
 |(i,x)::r,cs=>match e.ti.part X.E i with
  |some (off,t)=>match X.get t,evT X sl t x with
   |some tp,some d=>if d.cells.length=tp.ti.size/\off+d.cells.length<=cs.length/\d.okv=true then ZdW X sl e r (ZP cs off d.cells)else none
   |_,_=>none
  |none=>none
def ZaT (X:ZG U) (T:TS U) (t:Nat) (e:TT U) (n:Nat):List (Nat×Operand)->List (El U.car e.ty)->Option (List (El U.car e.ty))
 | [],es=>some es
 |(i,x)::r,es=>match evT X T.slots t x with
  |some d=>match T.lf e.n d with
   |some l=>match l.as e.ty with
    |some y=>if U.tsize e.ty=e.ti.size/\i < n then ZaT X T t e n r (es.set i y)else none
    |none=>none
   |none=>none
  |none=>none
def intT (X:ZG U) (sl:Nat->TV U):Option Operand->Option (Option Int)
 |none=>some none
 |some x=>match evT X sl 0 x with
  |some (.v (.int _) n)=>some (some n)
  |_=>none
def ZiZ (n b:Nat):Bool:=decide (n*max b 1<=ZO)
def Zb9 (lo hi n:Int):Bool:=decide (0<=lo/\lo<=hi/\hi<=n)
def Zmc (T:TS U) (x:TV U) (t:Ty):Option (List (El U.car t)):=
 match x with
 | .v .str s=>match t with
  | .int .u8=>some (s.map fun b=>((b.toNat:Nat):Int))
  |_=>none
 |x=>match T.lf1 x with
  |some l=>match l.as (.sl t)with
   |some a=>some a
   |none=>none
  |none=>none
def Zjt (X:ZG U) (T:TS U) (ty:Nat) (x:Operand) (k:Zh U->Option R):Option R:=
 match evT X T.slots ty x with
 |some d=>k {val:=d}
 |none=>none
def Zfm (X:ZG U) (T:TS U) (i ty:Nat) (x:Operand) (k:Zh U->Option R):Option R:=
 match evT X T.slots ty x with
 |some (.nils t)=>k {val:= .full (T.ep,i,0) 0,new:=[(0,.arr t [] false)]}
 |some d=>k {val:=d}
 |none=>none
def Zjr (X:ZG U) (T:TS U) (ty:Nat) (c a b:Operand) (k:Zh U->Option R):Option R:=
 match evT X T.slots ty c,evT X T.slots ty a,evT X T.slots ty b with
 |some (.v .bool x),some u,some v=>bif x then k {val:=u}else k {val:=v}
 |_,_,_=>none
def ZeZ (T:TS U) (i:Nat) (a:List (TV U)):Zh U:={val:= .ptr (T.ep,i,0) 0 0,new:=(0,.box (Zcy T.ep i 1 a))::ZF 1 a}
def ZgZ (X:ZG U) (T:TS U) (i t:Nat) (k:Zh U->Option R):Option R:=
 match X.get t with
 |some e=>k (ZeZ T i e.zero)
 |none=>none
def ZlB (X:ZG U) (T:TS U) (i t:Nat) (x:Operand) (k:Zh U->Option R):Option R:=
 match X.get t,evT X T.slots t x with
 |some e,some d=>if d.cells.length=e.ti.size/\d.okv=true then k (ZeZ T i d.cells)else none
 |_,_=>none
def ZgY (X:ZG U) (T:TS U) (t:Nat) (a:List (Nat×Operand)) (k:Zh U->Option R):Option R:=
 match X.get t with
 |some e=>if e.n.isSome then match ZdW X T.slots e a e.zero with
  |some cs=>k {val:=ZdE e.n cs}
  |none=>none
  else none
 |none=>none
def Zbn (X:ZG U) (T:TS U) (i t n:Nat) (a:List (Nat×Operand)) (k:Zh U->Option R):Option R:=
 match X.get t with
 |some b=>match b.ti.d with
  | .sl u=>match X.get u with
   |some e=>match e.zl with
    |some z=>match z.as e.ty with
     |some z=>match ZaT X T u e n a (List.replicate n z)with
      |some es=>if n*e.ti.size<=16777216/\n<=16777216/\U.tsize e.ty=e.ti.size then
        k {val:= .full (T.ep,i,0) n,new:=[(0,.arr e.ty es false)],frz:=ZcN X.E T.enc.slots T.enc.objs u a}else none
      |none=>none
     |none=>none
    |none=>none
   |none=>none
  |_=>none
 |none=>none
def Zju (X:ZG U) (T:TS U) (t:Nat) (a:Operand) (k:Zh U->Option R):Option R:=
 match X.get t,evT X T.slots 0 a with
 |some e,some (.pp cs)=>match Zc9 e (cs.map lv)with
  |some d=>k {val:=d}
  |none=>none
 |some e,some (.ptr id i j)=>match T.objs id with
  |some (.box cs)=>if i=0 then match Zc9 e (cs.drop j)with
   |some d=>k {val:=d}
   |none=>none
   else none
  |some (.arr u xs _)=>(xs[i]?).bind fun x=>match Zc9 e (((U.cellsE u x).drop j).map lv)with
   |some d=>k {val:=d}
   |none=>none
  |_=>none
 |_,_=>none
def ZgS (X:ZG U) (T:TS U) (b t:Nat) (a x:Operand) (k:Zh U->Option R):Option R:=
 match X.get t,evT X T.slots 0 a,evT X T.slots t x with
 |some e,some (.ptr id i j),some d=>match T.objs id with
  |some (.box cs)=>if i=0/\d.cells.length=e.ti.size/\j+d.cells.length<=cs.length/\d.okv=true then
    k {val:= .undef,new:=ZF 0 d.cells,wr:=[(id,.box (ZP cs j (Zcy T.ep b 0 d.cells)))]}else none
  |some (.arr u xs fix)=>match T.lf e.n d with
   |some l=>if U.tsize l.t=e.ti.size/\j+e.ti.size<=U.tsize u/\0 < e.ti.size then
     (if j=0/\U.tsize l.t=U.tsize u then match l.as u with
      |some y=>k {val:= .undef,wr:=[(id,.arr u (xs.set i y) fix)],frz:=d.enc.ids T.enc.objs depth}
      |none=>none
     else (xs[i]?).bind fun z=>match U.ofE u (ZP (U.cellsE u z) j (U.cellsE l.t l.x))with
      |some y=>k {val:= .undef,wr:=[(id,.arr u (xs.set i y) fix)],frz:=d.enc.ids T.enc.objs depth}
      |none=>none)else none
   |none=>none
  |_=>none
 |_,_,_=>none
def ZcF (X:ZG U) (T:TS U) (x:Operand) (k:Zh U->Option R):Option R:=
 match evT X T.slots 0 x with
 |some (.pp cs)=>k {val:= .pp cs}
 |some (.ptr id i j)=>k {val:= .ptr id i j}
 |some (.fn f a b)=>k {val:= .fn f a b}
 |_=>none
def opNil (X:ZG U) (T:TS U) (b:BinOp) (t:Nat) (x y:Operand) (k:Zh U->Option R):Option R:=
 match X.get t,evT X T.slots 0 x with
 |some e,some (.v .fnc z)=>match e.ti.d,y,b with
  | .func,.const .nilFunc,.eql=>k {val:= .v .bool (Option.isNone z)}
  | .func,.const .nilFunc,.neq=>k {val:= .v .bool (!Option.isNone z)}
  |_,_,_=>none
 |some e,some d=>match Zc1 e.ti.d y d.enc with
  |some (.p (.bool z))=>match b with
   | .eql=>k {val:= .v .bool z}
   | .neq=>k {val:= .v .bool (!z)}
   |_=>none
  |_=>none
 |_,_=>none
def ZlC (X:ZG U) (T:TS U) (b:BinOp) (t:Nat) (x y:Operand) (k:Zh U->Option R):Option R:=
 if Operand.isNil y then opNil X T b t x y k else
 match evT X T.slots 0 x,evT X T.slots 0 y with
 |some (.v .bool u),some (.v .bool v)=>match X.get t,Zj0 b u v with
  |some e,some z=>match e.ti.d,ZlY (U:=U) z with
   | .bool,some d=>k {val:=d}
   |_,_=>none
  |_,_=>none
 |some d,some d'=>match aggP d,aggP d' with
  |some u,some v=>match Zl9 X.E b t u v with
   |some z=>match ZlY z with
    |some d=>k {val:=d}
    |none=>none
   |none=>none
  |_,_=>match Ziv d,Ziv d' with
   |some u,some v=>match Zl3 b u v with
    |some (z,c)=>match ZlY z with
     |some d=>chkL c (k {val:=d})
     |none=>none
    |none=>none
   |_,_=>none
 |_,_=>none
def opUn (X:ZG U) (T:TS U) (u:UnOp) (x:Operand) (k:Zh U->Option R):Option R:=
 match evT X T.slots 0 x with
 |some d=>match Ziv d with
  |some v=>match unop u v with
   |some (z,c)=>match ZlY z with
    |some d=>chkL c (k {val:=d})
    |none=>none
   |none=>none
  |none=>none
 |none=>none
def ZdA (X:ZG U) (T:TS U) (i s t:Nat) (x:Operand) (k:Zh U->Option R):Option R:=
 match X.get s,X.get t,evT X T.slots 0 x with
 |some es,some et,some d=>match es.ti.d,et.ti.d,d with
  | .int _,.int k',.v (.int _) n=>k {val:= .v (.int k') (k'.wrap n)}
  | .str,.str,.v .str s=>k {val:= .v .str s}
  | .str,.sl u,.v .str s=>match X.get u with
   |some a=>match a.ti.d with
    | .int .u8=>chk (decide (s.length<=281474976710656)) (k {val:= .full (T.ep,i,0) s.length,new:=[(0,.arr (.int .u8) (s.map fun b=>((b.toNat:Nat):Int)) false)]})
    |_=>none
   |none=>none
  | .sl u,.str,d=>match X.get u,T.lf1 d with
   |some a,some l=>match a.ti.d,l.as (.sl (.int .u8))with
    | .int .u8,some xs=>k {val:= .v .str (xs.map fun n=>UInt8.ofNat n.toNat)}
    |_,_=>none
   |_,_=>none
  |_,_,_=>none
 |_,_,_=>none
def Zlb (X:ZG U) (sl:Nat->TV U) (xs:List Operand):Option (List (TV U)):=Zm (evT X sl 0) xs
def ZcG (X:ZG U) (T:TS U) (f:Nat) (c d:List Operand) (k:Zh U->Option R):Option R:=
 match Zlb X T.slots c,Zlb X T.slots d with
 |some a,some b=>k {val:= .fn f a b}
 |_,_=>none
def Zdy (X:ZG U) (T:TS U) (i t:Nat) (k:Zh U->Option R):Option R:=
 match X.get t with
 |some e=>match e.ty with
  | .map a b=>k {val:= .map (T.ep,i,0),new:=[(0,.map a b [])]}
  |_=>none
 |none=>none
def ZbX (X:ZG U) (T:TS U) (i t:Nat) (l c:Operand) (k:Zh U->Option R):Option R:=
 match X.elem t,evT X T.slots 0 l,evT X T.slots 0 c with
 |some e,some (.v (.int _) a),some (.v (.int _) b)=>match e.zl with
  |some z=>match z.as e.ty with
   |some z=>if U.tsize e.ty=e.ti.size then chk (decide (0<=a/\a<=b/\b*e.ti.bytes<=ZO/\b<=ZO)) (k {val:= .full (T.ep,i,0) a.toNat,new:=[(0,.arr e.ty (List.replicate a.toNat z) false)]})else none
   |none=>none
  |none=>none
 |_,_,_=>none
def cut {a:Type} (xs:List a):Option Int->Option Int->List a
 |none,none=>xs
 |none,some h=>xs.take h.toNat
 |some l,none=>xs.drop l.toNat
 |some l,some h=>(xs.take h.toNat).drop l.toNat
def Zhy (T:TS U) (sz:Option Nat) (d:TV U) (lo hi mx:Option Int) (k:Zh U->Option R):Option R:=
 match sz,d with
 |none,.v .str s=>match mx with
  |none=>chk (Zb9 (lo.getD 0) (hi.getD s.length) s.length) (k {val:= .v .str (cut s lo hi)})
  |some _=>none
 |some sz,.v (.sl t) xs=>if sz=U.tsize t then match mx,hi with
  |none,_=>chk (Zb9 (lo.getD 0) (hi.getD xs.length) xs.length) (k {val:= .v (.sl t) (cut xs lo hi)})
  |some m,some h=>chk (decide (0<=lo.getD 0/\lo.getD 0<=h/\h<=xs.length/\m=h)) (k {val:= .clip t (cut xs lo hi)})
  |_,_=>none
  else none
 |some sz,.full id n=>match T.objs id with
  |some (.arr t xs _)=>if sz=U.tsize t then match mx with
   |none=>chk (Zb9 (lo.getD 0) (hi.getD xs.length) xs.length) (match lo,hi with
    |none,none=>k {val:= .full id n}
    |lo,hi=>k {val:= .sl id (lo.getD 0).toNat ((hi.getD xs.length).toNat - (lo.getD 0).toNat)})
   |some m=>match hi with
    |some h=>chk (decide (0<=lo.getD 0/\lo.getD 0<=h/\h<=xs.length/\m=h)) (k {val:= .clip t (cut xs lo hi),frz:=[id]})
    |none=>none
   else none
  |_=>none
 |some sz,.sl id off len=>match T.objs id with
  |some (.arr t xs _)=>if sz=U.tsize t then match mx with
   |none=>chk (Zb9 (lo.getD 0) (hi.getD len) len) (k {val:= .sl id (off+(lo.getD 0).toNat) ((hi.getD len).toNat - (lo.getD 0).toNat)})
   |some _=>none
   else none
  |_=>none
 |some _,.nils t=>match mx with
  |none=>chk (decide (lo.getD 0=0/\hi.getD 0=0)) (k {val:= .nils t})
  |some _=>none
 |_,_=>none
def ZgT (X:ZG U) (T:TS U) (t:Nat) (x:Operand) (lo hi mx:Option Operand) (k:Zh U->Option R):Option R:=
 match X.get t,evT X T.slots 0 x,intT X T.slots lo,intT X T.slots hi,intT X T.slots mx with
 |some e,some d,some a,some b,some c=>match e.ti.d with
  | .str=>Zhy T none d a b c k
  | .sl u=>match X.get u with
   |some f=>Zhy T (some f.ti.size) d a b c k
   |none=>none
  |_=>none
 |_,_,_,_,_=>none
def ZbZ (X:ZG U) (T:TS U) (t:Nat) (x:Operand) (f:Nat) (k:Zh U->Option R):Option R:=
 match X.get t,evT X T.slots 0 x with
 |some e,some d=>match e.ti.d with
  | .struct fs=>match fs[f]? with
   |some (off,ft)=>match X.get ft with
    |some a=>if a.ti.size=0 then none else match d with
     | .pp cs=>k {val:= .pp (cs.drop off)}
     | .ptr id i j=>k {val:= .ptr id i (j+off)}
     |_=>none
    |none=>none
   |none=>none
  |_=>none
 |_,_=>none
def ZgW (X:ZG U) (T:TS U) (t:Nat) (x:Operand) (f:Nat) (k:Zh U->Option R):Option R:=
 match X.get t,evT X T.slots 0 x with
 |some e,some d=>match e.ti.d with
  | .struct fs=>match fs[f]? with
   |some (off,ft)=>match X.get ft with
    |some a=>if a.ti.size=0 then none else match d with
     | .v (.st n) x=>match Zc9 a (((U.cells n x).drop off).map lv)with
      |some y=>k {val:=y}
      |none=>none
     | .agg cs=>match Zc9 a (cs.drop off)with
      |some y=>k {val:=y}
      |none=>none
     |_=>none
    |none=>none
   |none=>none
  |_=>none
 |_,_=>none
def tabB {car:Nat->Type} (t:Ty) (cs:List (Lf car)) (n:Nat):Option (El car t):=match cs[n]? with
 |some l=>l.as t
 |none=>none
def tabK (cs:List (Lf U.car)):List Ty->Nat->(List (Lf U.car)->Option R)->Option R
 | [],_,k=>k []
 |t::r,n,k=>(tabB t cs n).bind fun x=>tabK cs r (n+1) fun a=>k (⟨t,x⟩::a)
def ZbY (X:ZG U) (T:TS U) (t:Nat) (x f:Operand) (k:Zh U->Option R):Option R:=
 match X.get t,evT X T.slots 0 x,evT X T.slots 0 f with
 |some e,some d,some (.v (.int _) n)=>match e.ti.d with
  | .sl u=>match X.get u with
   |some a=>match d with
    | .v (.sl t') xs=>if U.tsize t'=a.ti.size then (idx xs n).bind fun y=>k {val:= .pp (U.cellsE t' y)}else none
    | .full id m=>match T.objs id with
     |some (.arr t' xs _)=>if U.tsize t'=a.ti.size then chk (decide (0<=n/\n < xs.length)) (k {val:= .ptr id n.toNat 0})else none
     |_=>none
    | .sl id b len=>match T.objs id with
     |some (.arr t' xs _)=>if U.tsize t'=a.ti.size then chk (decide (0<=n/\n < len)) (k {val:= .ptr id (b+n.toNat) 0})else none
     |_=>none
    |_=>none
   |none=>none
  | .arr m u=>match X.get u with
   |some a=>match d with
    | .pp cs=>chk (decide (0<=n/\n < m)) (bif Nat.blt 8 m then match a.zl with
      |some z=>tabK cs ((U.cellsE z.t z.x).map (·.t)) (n.toNat*a.ti.size) fun c=>k {val:= .pp (c++cs.drop (n.toNat*a.ti.size+c.length))}
      |none=>none
     else k {val:= .pp (cs.drop (n.toNat*a.ti.size))})
    | .ptr id i j=>chk (decide (0<=n/\n < m)) (k {val:= .ptr id i (j+n.toNat*a.ti.size)})
    |_=>none
   |none=>none
  |_=>none
 |_,_,_=>none
def ZgV (X:ZG U) (T:TS U) (t:Nat) (x a:Operand) (k:Zh U->Option R):Option R:=
 match X.get t,evT X T.slots 0 x,evT X T.slots 0 a with
 |some e,some (.v .str s),some (.v (.int _) n)=>match e.ti.d with
  | .str=>(idx s n).bind fun c=>k {val:= .v (.int .u8) ((c.toNat:Nat):Int)}
  |_=>none
 |_,_,_=>none
def ZlP {car:Nat->Type}:(k:Ty)->El car k->El car k->Bool
 | .bool,a,b=>a == b
 | .int _,a,b=>a == b
 | .str,a,b=>a == b
 |_,_,_=>false
def Ty.isKey:Ty->Bool
 | .bool | .int _ | .str=>true
 |_=>false
def Zg3 {car:Nat->Type} {k v:Ty} (a:List (El car k×El car v)) (x:El car k):Option (El car v):=(a.find? fun e=>ZlP k x e.1).map (·.2)
def setB {car:Nat->Type} {k v:Ty} (a:List (El car k×El car v)) (x:El car k) (y:El car v):List (El car k×El car v):=
 if a.any (fun e=>ZlP k x e.1)then a.map fun e=>if ZlP k x e.1 then (e.1,y)else e else a++[(x,y)]
def delB {car:Nat->Type} {k v:Ty} (a:List (El car k×El car v)) (x:El car k):List (El car k×El car v):=a.filter fun e=> !ZlP k x e.1
def mapT (T:TS U):TV U->Option (Lf U.car)
 | .v (.map k v) kv=>some ⟨.map k v,kv⟩
 | .map id=>match T.objs id with
  |some (.map k v kv)=>some ⟨.map k v,kv⟩
  |_=>none
 |_=>none
def Zfk (X:ZG U) (T:TS U) (t:Nat) (m k:Operand) (d:Bool) (c:Zh U->Option R):Option R:=
 match X.get t with
 |some e=>match e.ti.d,e.ty with
  | .map kt vt,.map a b=>match X.get vt,evT X T.slots 0 m,evT X T.slots kt k with
   |some ev,some dm,some dk=>match mapT T dm,T.lf1 dk,ev.zl with
    |some lm,some lk,some z=>match lm.as (.map a b),lk.as a,z.as b with
     |some kv,some key,some z=>if a.isKey=true/\(X.E.keyTD t).same a.td=true then (if d then c {val:= .tup [.v b ((Zg3 kv key).getD z),.v .bool (Zg3 kv key).isSome]}else c {val:= .v b ((Zg3 kv key).getD z)})else none
     |_,_,_=>none
    |_,_,_=>none
   |_,_,_=>none
  |_,_=>none
 |none=>none
def Za2 (X:ZG U) (T:TS U) (t:Nat) (m k v:Operand) (c:Zh U->Option R):Option R:=
 match X.get t with
 |some e=>match e.ti.d,e.ty with
  | .map kt vt,.map a b=>match X.get vt,evT X T.slots 0 m,evT X T.slots kt k,evT X T.slots vt v with
   |some ev,some (.map id),some dk,some dv=>match T.objs id,T.lf1 dk,T.lf ev.n dv with
    |some (.map a' b' kv),some lk,some lv=>match (Lf.mk (.map a' b') kv:Lf U.car).as (.map a b),lk.as a,lv.as b with
     |some kv,some key,some y=>if a.isKey=true/\(X.E.keyTD t).same a.td=true then c {val:= .undef,wr:=[(id,.map a b (setB kv key y))],frz:=dv.enc.ids T.enc.objs depth}else none
     |_,_,_=>none
    |_,_,_=>none
   |_,_,_,_=>none
  |_,_=>none
 |none=>none
def ZgU (X:ZG U) (T:TS U) (i t:Nat) (x:Operand) (k:Zh U->Option R):Option R:=
 match X.get t,evT X T.slots 0 x with
 |some e,some (.v .str s)=>match e.ti.d with
  | .str=>k {val:= .it (T.ep,i,0),new:=[(0,.sit s 0)]}
  |_=>none
 |some e,some (.v (.map a b) kv)=>match e.ti.d with
  | .map _ _=>k {val:= .it (T.ep,i,0),new:=[(0,.mit a b kv none)]}
  |_=>none
 |some e,some (.map id)=>match e.ti.d,T.objs id with
  | .map _ _,some (.map a b kv)=>k {val:= .it (T.ep,i,0),new:=[(0,.mit a b kv none)],frz:=[id]}
  |_,_=>none
 |_,_=>none
def Zjs (X:ZG U) (T:TS U) (b:Operand) (k:Zh U->Option R):Option R:=
 match evT X T.slots 0 b with
 |some (.it id)=>match T.objs id with
  |some (.sit s a)=>bif decide (a < s.length)then
    k {val:= .tup [.v .bool true,.v (.int .i64) (a:Int),.v (.int .i32) (Utf8.decode ⟨s.toArray⟩ a).1],wr:=[(id,.sit s (a+(Utf8.decode ⟨s.toArray⟩ a).2))]}
   else k {val:= .tup [.v .bool false]}
  |_=>none
 |_=>none
def ZgX (X:ZG U) (T:TS U) (c:Operand) (k:Zh U->Option R):Option R:=
 match evT X T.slots 0 c with
 |some (.it id)=>match T.objs id with
  |some (.mit a b _ (some (x,y)))=>k {val:= .tup [.v a x,.v b y]}
  |_=>none
 |_=>none
def Zdz (X:ZG U) (T:TS U) (x:Operand) (a:Nat) (k:Zh U->Option R):Option R:=
 match evT X T.slots 0 x with
 |some (.tup vs)=>match vs[a]? with
  |some d=>k {val:=d}
  |none=>none
 |_=>none
def ZlA (X:ZG U) (T:TS U) (t:Nat) (x:Operand) (k:Zh U->Option R):Option R:=
 match X.get t,evT X T.slots t x with
 |some e,some d=>match e.ti.d with
  | .str=>match d with
   | .v .str s=>k {val:= .v (.int .i64) (s.length:Int)}
   |_=>none
  | .sl _=>match d with
   | .v (.sl _) xs=>k {val:= .v (.int .i64) (xs.length:Int)}
   | .clip _ xs=>k {val:= .v (.int .i64) (xs.length:Int)}
   | .nils _=>k {val:= .v (.int .i64) (0:Nat)}
   | .full id n=>match T.objs id with
    |some (.arr _ xs _)=>k {val:= .v (.int .i64) (xs.length:Int)}
    |_=>none
   | .sl _ _ len=>k {val:= .v (.int .i64) (len:Int)}
   |_=>none
  | .map _ _=>match mapT T d with
   |some ⟨.map _ _,a⟩=>chk (decide (Znn a<=Zq)) (k {val:= .v (.int .i64) (Znn a:Int)})
   |_=>none
  | .arr n _=>chk (decide (n<=Zq)) (k {val:= .v (.int .i64) (n:Int)})
  |_=>none
 |_,_=>none
def Zki:TD->Bool
 | .sl _ | .str=>true
 |_=>false
def appX (T:TS U) (i:Nat) (e:TT U) (d:TV U) (a:List (El U.car e.ty)) (k:Zh U->Option R):Option R:=
 match d with
 | .nils _=>chk (ZiZ a.length e.ti.bytes) (k {val:= .full (T.ep,i,0) a.length,new:=[(0,.arr e.ty a false)]})
 | .clip b xs=>match (Lf.mk (.sl b) xs:Lf U.car).as (.sl e.ty)with
  |some xs=>chk (decide (List.isEmpty a=false)) (chk (ZiZ (Znn xs+a.length) e.ti.bytes) (k {val:= .full (T.ep,i,0) (Znn xs+a.length),new:=[(0,.arr e.ty (List.append xs a) false)]}))
  |none=>none
 | .full id n=>match T.objs id with
  |some (.arr b xs false)=>match (Lf.mk (.sl b) xs:Lf U.car).as (.sl e.ty)with
   |some xs=>chk (ZiZ (Znn xs+a.length) e.ti.bytes) (k {val:= .full (T.ep,i,0) (Znn xs+a.length),new:=[(0,.arr e.ty (List.append xs a) false)],wr:=[(id,.gone)]})
   |none=>none
  |_=>none
 | .sl id 0 len=>match T.objs id with
  |some (.arr b xs false)=>match (Lf.mk (.sl b) xs:Lf U.car).as (.sl e.ty)with
   |some xs=>chk (decide (len<=Znn xs)) (chk (ZiZ (len+a.length) e.ti.bytes) (k {val:= .full (T.ep,i,0) (len+a.length),new:=[(0,.arr e.ty (List.append (List.take len xs) a) false)],wr:=[(id,.gone)]}))
   |none=>none
  |_=>none
 |_=>none
def Zfn (X:ZG U) (T:TS U) (i t u:Nat) (s x:Operand) (k:Zh U->Option R):Option R:=
 match X.elem t,X.get u,evT X T.slots t s,evT X T.slots u x with
 |some e,some eu,some d,some dx=>if U.tsize e.ty=e.ti.size then
   (if Zki eu.ti.d=true then match Zmc T dx e.ty with
    |some b=>appX T i e d b k
    |none=>none
   else match eu.ti.d,dx,e.zl with
    | .int _,.v (.int .i64) a,some z=>match z.as e.ty with
     |some z=>chk (decide (0<=a)) (appX T i e d (List.replicate a.toNat z) k)
     |none=>none
    |_,_,_=>none)
  else none
 |_,_,_,_=>none
def Zjv (X:ZG U) (T:TS U) (t u:Nat) (d s:Operand) (k:Zh U->Option R):Option R:=
 match X.elem t,evT X T.slots t d,evT X T.slots u s with
 |some e,some dd,some ds=>match dd with
  | .full id n=>match T.objs id with
   |some (.arr t' xs fix)=>match Zmc T ds t' with
    |some a=>if U.tsize t'=e.ti.size then k {val:= .v (.int .i64) (min a.length xs.length:Nat),wr:=[(id,.arr t' (a.take xs.length++xs.drop a.length) fix)]}else none
    |none=>none
   |_=>none
  | .sl id b len=>match T.objs id with
   |some (.arr t' xs fix)=>match Zmc T ds t' with
    |some a=>if U.tsize t'=e.ti.size then chk (decide (b+len<=xs.length)) (k {val:= .v (.int .i64) (min a.length len:Nat),wr:=[(id,.arr t' (ZP xs b (a.take (min a.length len))) fix)]})else none
    |none=>none
   |_=>none
  |_=>none
 |_,_,_=>none
def Zdc (X:ZG U) (sl:Nat->TV U):List Operand->List Nat->Option (List (TV U))
 | [],_=>some []
 |x::xs,[]=>match evT X sl 0 x,Zdc X sl xs []with
  |some d,some r=>some (d::r)
  |_,_=>none
 |x::xs,t::ts=>match evT X sl t x,Zdc X sl xs ts with
  |some d,some r=>some (d::r)
  |_,_=>none
def opMM (X:ZG U) (T:TS U) (mx:Bool) (args:List Operand) (a:List Nat) (k:Zh U->Option R):Option R:=
 match Zdc X T.slots args a with
 |some b=>match (if mx then maxP (TV.encs b)else minP (TV.encs b))with
  |some z=>match ZlY z with
   |some d=>k {val:=d}
   |none=>none
  |none=>none
 |none=>none
def Zfl (X:ZG U) (T:TS U) (t u:Nat) (m k:Operand) (c:Zh U->Option R):Option R:=
 match X.get t,evT X T.slots t m,evT X T.slots u k with
 |some e,some (.map id),some dk=>match e.ti.d,T.objs id,T.lf1 dk with
  | .map _ _,some (.map a b kv),some lk=>match lk.as a with
   |some key=>if a.isKey=true/\(X.E.keyTD t).same a.td=true then c {val:= .undef,wr:=[(id,.map a b (delB kv key))]}else none
   |none=>none
  |_,_,_=>none
 |_,_,_=>none
def ZlZ (X:ZG U) (T:TS U) (i:Nat) (o:Op) (ty:Nat) (k:Zh U->Option R):Option R:=
 match o with
 | .move x=>Zjt X T ty x k
 | .assign x=>Zfm X T i ty x k
 | .pick c a b=>Zjr X T ty c a b k
 | .alloc t=>ZgZ X T i t k
 | .box t x=>ZlB X T i t x k
 | .build t e=>ZgY X T t e.toList k
 | .buildSlice t n e=>Zbn X T i t n e.toList k
 | .load t a=>Zju X T t a k
 | .store t a x=>ZgS X T i t a x k
 | .nilCheck x=>ZcF X T x k
 | .binOp b t x y _=>ZlC X T b t x y k
 | .unOp u _ x=>opUn X T u x k
 | .convert s t x=>ZdA X T i s t x k
 | .makeFunc (.func f) first caps=>ZcG X T f first.toList caps.toList k
 | .makeMap t none=>Zdy X T i t k
 | .makeSlice t l c=>ZbX X T i t l c k
 | .slice t x lo hi mx=>ZgT X T t x lo hi mx k
 | .fieldAddr t x f=>ZbZ X T t x f k
 | .field t x f=>ZgW X T t x f k
 | .indexAddr t x g=>ZbY X T t x g k
 | .index t x g=>ZgV X T t x g k
 | .lookup t m q j=>Zfk X T t m q j k
 | .mapUpdate t m q v=>Za2 X T t m q v k
 | .insert t m q v=>Za2 X T t m q v k
 | .range t x=>ZgU X T i t x k
 | .next h true=>Zjs X T h k
 | .entry h=>ZgX X T h k
 | .extract x g=>Zdz X T x g k
 | .call {callee:= .builtin b,args,argTypes}=>match b,args.toList,argTypes.toList with
  | .len,[x],[t]=>ZlA X T t x k
  | .append,[s,x],[t,u]=>Zfn X T i t u s x k
  | .copy,[d,s],[t,u]=>Zjv X T t u d s k
  | .max,xs,ts=>opMM X T true xs ts k
  | .min,xs,ts=>opMM X T false xs ts k
  | .delete,[m,q],[t,u]=>Zfl X T t u m q k
  |_,_,_=>none
 |_=>none
end
end Eng
namespace Eng
open Go
section
variable {U:Zc} {R:Type} {X:ZG U} {T:TS U} {i ty:Nat} {k:Zh U->Option R} {r:R}
def Snd (X:ZG U) (T:TS U) (i:Nat) (a:Op) (ty:Nat) (k:Zh U->Option R) (r:R):Prop:=
 ∃e cs,Zd X.E T.ep i a ty T.enc.slots T.enc.objs=some (e.enc cs)/\(∀q∈cs,q=true)/\ZJ T i e/\k e=some r
theorem Zd3:∀{cs:List Bool} {k:Option R},chkL cs k=some r->(∀q∈cs,q=true)/\k=some r
 | [],k,h=>⟨by simp,h⟩
 |b::cs,k,h=>by obtain⟨e,f⟩:=Zo h;obtain⟨d,c⟩:=Zd3 f;exact⟨fun q a=>by rcases ZmF.1 a with rfl |a;(·exact e);exact d q a,c⟩
theorem ZE (c:T.Inv) {t:Nat} {x:Operand} {d:TV U} (h:evT X T.slots t x=some d):d.inv T.objs:=by
 have a:∀d:TV U,d.fulls=[]->d.inv T.objs:=fun d e q b=>by rw[e]at b;simp at b
 unfold evT at h;split at h
 ·cases h;exact c.slots _
 ·cases h;exact a _ rfl
 ·cases h;exact a _ rfl
 ·cases h;exact a _ rfl
 ·split at h;rotate_left;simp at h;split at h;rotate_left;simp at h;cases h;exact a _ rfl
 ·cases h;exact a _ rfl
 ·cases h;exact a _ rfl
 ·split at h;rotate_left;simp at h;split at h;rotate_left;simp at h;cases h;exact a _ rfl
 ·cases h;exact a _ rfl
 ·split at h;rotate_left;simp at h;cases h;exact a _ rfl
 ·simp at h
theorem Zb (a:TOk X) {t:Nat} {x:Operand} {d:TV U} (h:evT X T.slots t x=some d):ev X.E T.enc.slots t x=d.enc:=ZlW a h
theorem Zg {id:Id} {o:TO U} (h:T.objs id=some o):T.enc.objs id=some o.enc:=by simp[TS.enc,Zik,h]
theorem Zah {lk:Id->Option (TO U)} (t:Ty) (x:El U.car t):(TV.v t x:TV U).inv lk:=fun q a=>by simp[TV.fulls]at a
theorem Zf {lk:Id->Option (TO U)} {d:TV U} (h:d.fulls=[]):d.inv lk:=fun q a=>by rw[h]at a;simp at a
theorem ZdN {lk:Id->Option (TO U)} {d:TV U} (h:d.inv lk):∀c∈d.cells,c.inv lk:=fun c b q a=>h q (Zhh ⟨c,b,a⟩)
theorem Zgj {lk:Id->Option (TO U)} {n:Option Nat} {cs:List (TV U)} (h:∀c∈cs,c.inv lk):(ZdE n cs).inv lk:=fun q a=>by obtain⟨d,b,a⟩:=Zf8 n cs a;exact h d b q a
theorem ZaO (cs:List (TV U)):(TO.box cs).enc= .box (TV.encs cs):=rfl
theorem ZM (t:Ty) (xs:List (El U.car t)) (fix:Bool):(TO.arr t xs fix:TO U).enc= .arr (U.tsize t) (xs.map (U.encE t)) fix:=rfl
theorem Z0 (a b:Ty) (c:List (El U.car a×El U.car b)):(TO.map a b c:TO U).enc= .map a.td (c.map fun e=>(U.encE a e.1,U.encE b e.2)):=rfl
theorem ZbS (s:List UInt8) (p:Nat):(TO.sit s p:TO U).enc= .sit s p:=rfl
theorem Zbt (a b:Ty) (d:List (El U.car a×El U.car b)) (c:Option (El U.car a×El U.car b)):(TO.mit a b d c:TO U).enc= .mit (d.map fun e=>(U.encE a e.1,U.encE b e.2)) (c.map fun e=>(U.encE a e.1,U.encE b e.2)):=rfl
theorem Za7:(TO.gone:TO U).enc= .gone:=rfl
theorem ZjI (f:Nat) (a b:List D):(∃x y,fnD f a b= .p (.fn f x y))\/fnD f a b= .fn f a b:=by
 unfold fnD;split
 ·exact .inl ⟨_,_,rfl⟩
 ·exact .inr rfl
theorem Zkl (c:TOk X) (b:T.Inv) {x:Operand} (h:Zjt X T ty x k=some r):Snd X T i (.move x) ty k r:=by unfold Zjt at h;split at h;rotate_left;simp at h;rename_i d a;exact⟨_,[],by simp only[Zd,Zb c a,Zh.enc,Znt],by simp,ZJ.pure (ZE b a),h⟩
theorem Zid (f:TOk X) (j:T.Inv) {x:Operand} (h:Zfm X T i ty x k=some r):Snd X T i (.assign x) ty k r:=by
 unfold Zfm at h;split at h
 ·rename_i t c;refine⟨_,[], ?_,by simp, ?_,h⟩
  ·simp only[Zd,Zb f c,Zh.enc,TV.enc,Znt,ZmD,ZaO,ZM,Z0,ZbS,Zbt,Za7]
  ·refine⟨by simp,fun _ q g=> ?_,fun _ o l=> ?_⟩
   ·simp only[TV.fulls,ZmI]at g;subst g;refine⟨.arr t [] false,by simp[lkA,TS.objL,upd],fun m xs fix a=> ?_⟩;cases a;rfl
   ·rcases l with ⟨n,b⟩ |⟨id,b⟩
    ·simp only[ZmI,ZmS]at b;obtain⟨_,rfl⟩:=b;trivial
    ·simp at b
 ·rename_i d e c;refine⟨_,[], ?_,by simp,ZJ.pure (ZE j c),h⟩;simp only[Zd,Zb f c];split
  ·rename_i sz a;exfalso;cases d<;>simp only[TV.enc,reduceCtorEq]at a
   ·exact e _ rfl
   ·unfold D.mkAgg at a;split at a<;>simp at a
   ·unfold fnD at a;split at a<;>simp at a
  ·rfl
 ·simp at h
theorem Zkj (a:TOk X) (g:T.Inv) {c x y:Operand} (h:Zjr X T ty c x y k=some r):Snd X T i (.pick c x y) ty k r:=by
 unfold Zjr at h;split at h;rotate_left;simp at h;rename_i b u v f d e;cases b
 ·exact⟨_,[],by simp only[Zd,Zb a f,Zb a d,Zb a e,TV.enc,Zc.encE,Zh.enc,Znt];rfl,by simp,ZJ.pure (ZE g e),h⟩
 ·exact⟨_,[],by simp only[Zd,Zb a f,Zb a d,Zb a e,TV.enc,Zc.encE,Zh.enc,Znt];rfl,by simp,ZJ.pure (ZE g d),h⟩
theorem Zdp (ep i:Nat):∀(k:Nat) (a:List (TV U)),TV.encs (Zcy ep i k a)=Zey ep i k (TV.encs a)
 |k,[]=>rfl
 |k,d::r=>by
  cases d<;>simp only[Zcy,TV.encs,TV.enc,Zey,Zdp ep i (k+1) r]
  ·unfold D.mkAgg;split<;>simp only[Zey]
  ·unfold fnD;split<;>simp only[Zey]
theorem Zfc {k:Nat} {d:D} {r:List D} (h:∀sz,d≠ .nils sz):ZZ k (d::r)=ZZ (k+1) r:=by cases d<;>first |rfl |exact absurd rfl (h _)
theorem Zbg:∀(k:Nat) (b:List (TV U)),(ZF k b).map (fun x=>(x.1,x.2.enc))=ZZ k (TV.encs b)
 |k,[]=>rfl
 |k,d::r=>by
  have c:=Zbg (k+1) r;cases d
  case nils t=>rw[ZF,ZmD,c];rfl
  all_goals
   rw[ZF,c,TV.encs,Zfc]
   ·intro sz a;simp only[TV.enc,reduceCtorEq]at a<;>first |(unfold D.mkAgg at a;split at a<;>simp at a) |(unfold fnD at a;split at a<;>simp at a)
   all_goals (intros;simp_all)
theorem Z7:∀(k:Nat) (a:List (TV U)) (j:Nat) (o:TO U),(j,o)∈ZF k a->k<=j/\∃t,o= .arr t [] false
 |k,[],j,o,h=>by simp[ZF]at h
 |k,d::r,j,o,h=>by
  cases d
  case nils t=>
   simp only[ZF,ZmF,ZmS]at h;rcases h with ⟨rfl,rfl⟩ |h
   ·exact⟨ZmL _,t,rfl⟩
   ·have:=Z7 (k+1) r j o h;exact⟨by omega,this.2⟩
  all_goals
   simp only[ZF]at h;have:=Z7 (k+1) r j o h;exact⟨by omega,this.2⟩
theorem Zdo (ep i:Nat):∀(k:Nat) (e:List (TV U)) (d:TV U),d∈Zcy ep i k e->d∈e\/∃j t,d= .full (ep,i,j) 0/\(j,TO.arr t [] false)∈ZF k e
 |k,[],d,h=>by simp[Zcy]at h
 |k,x::r,d,h=>by
  cases x
  case nils t=>
   simp only[Zcy,ZmF]at h;rcases h with rfl |h
   ·exact .inr ⟨k,t,rfl,by simp[ZF]⟩
   ·rcases Zdo ep i (k+1) r d h with h |⟨j,b,a,c⟩
    ·exact .inl (Zna _ h)
    ·exact .inr ⟨j,b,a,by simp[ZF,c]⟩
  all_goals
   simp only[Zcy,ZmF]at h;rcases h with rfl |h
   ·exact .inl ZmG
   ·rcases Zdo ep i (k+1) r d h with h |⟨j,b,a,c⟩
    ·exact .inl (Zna _ h)
    ·exact .inr ⟨j,b,a,by simp only[ZF];exact c⟩
theorem Zf3:∀(l:List (Id×TO U)) (T:TS U) (id:Id),(∃o,(id,o)∈l)->(∀o,(id,o)∈l->∀t xs fix,o= .arr t xs fix->xs.length=0)->Zis (T.objL l).objs (id,0)
 | [],T,id,h,_=>by simp at h
 |(a,u)::l,T,id,h,hz=>by
  simp only[TS.objL]
  by_cases hm:∃o,(id,o)∈l
  ·exact Zf3 l _ id hm fun o c=>hz o (Zna _ c)
  ·obtain⟨o,c⟩:=h;rcases ZmF.1 c with c |c
   ·simp only[ZmS]at c;obtain⟨rfl,rfl⟩:=c;have key:∀(l:List (Id×TO U)) (T:TS U),(¬∃o,(id,o)∈l)->(T.objL l).objs id=T.objs id:=by
     intro l
     induction l with
     |nil=>intro T _;rfl
     |cons x l f=>
      obtain⟨b,v⟩:=x;intro T e;simp only[TS.objL];rw[f _ (fun⟨o,c⟩=>e ⟨o,Zna _ c⟩)];simp only[upd];split
      ·rename_i d;subst d;exact absurd ⟨v,ZmG⟩ e
      ·rfl
    refine⟨o, ?_,fun t xs fix d=>hz o ZmG t xs fix d⟩;rw[key l _ hm];simp[upd]
   ·exact absurd ⟨o,c⟩ hm
theorem Zgn (B:T.Inv) {k0:Nat} {c:List (TV U)} (r:∀d∈c,d.inv T.objs) {e:Zh U} (g:e.val.fulls=[]) (m:∀id o,(id,o)∈e.wr->∃cs,o= .box cs/\∀d∈cs,d∈Zcy T.ep i k0 c\/d.inv T.objs)
  (k:∀j o,(j,o)∈e.new->(∃cs,o= .box cs/\∀d∈cs,d∈Zcy T.ep i k0 c\/d.inv T.objs)\/(j,o)∈ZF k0 c) (s:∀j o,(j,o)∈ZF k0 c->(j,o)∈e.new) (y:∀j o,(j,o)∈e.new->∀o',(j,o')∈ZF k0 c->∃t,o= .arr t [] false):ZJ T i e:=by
 have hw:∀id o,(id,o)∈e.wr->ZdK (T.objs id) o:=fun id o b t xs fix n=>by obtain⟨cs,rfl,_⟩:=m id o b;simp at n
 have f:fresh T i e=true->∀d,d∈Zcy T.ep i k0 c\/d.inv T.objs->d.inv (lkA T i e):=fun l d a=>by
  rcases a with a |a
  ·rcases Zdo _ _ _ _ _ a with a |⟨j,t,rfl,b⟩
   ·exact TV.inv_old l hw (r d a)
   ·intro q h;simp only[TV.fulls,ZmI]at h;subst h;refine Zf3 _ _ _ ⟨.arr t [] false,Znc.2 ⟨_,s _ _ b,rfl⟩⟩ fun o u A xs fix n=> ?_
    obtain⟨x,v,h⟩:=Znc.1 u;simp only[ZmS,true_and]at h;obtain⟨rfl,rfl⟩:=h;obtain⟨z,w⟩:=y _ _ v _ b;rw[w]at n;cases n;rfl
  ·exact TV.inv_old l hw a
 refine⟨hw,fun _=>Zf g,fun l o u=> ?_⟩;rcases u with ⟨j,b⟩ |⟨id,b⟩
 ·rcases k j o b with ⟨cs,rfl,p⟩ |b
  ·exact fun d a=>f l d (p d a)
  ·obtain⟨_,t,rfl⟩:=Z7 _ _ _ _ b;trivial
 ·obtain⟨cs,rfl,p⟩:=m id o b;exact fun d a=>f l d (p d a)
theorem ZhX (f:T.Inv) {e:List (TV U)} (b:∀d∈e,d.inv T.objs):ZJ T i (ZeZ T i e):=by
 refine Zgn (k0:=1) f b rfl (by simp[ZeZ]) (fun j o a=> ?_) (fun j o a=>Zna _ a) (fun j o a o' c=> ?_)
 ·rcases ZmF.1 a with a |a
  ·simp only[ZmS]at a;obtain⟨rfl,rfl⟩:=a;exact .inl ⟨_,rfl,fun d g=> .inl g⟩
  ·exact .inr a
 ·rcases ZmF.1 a with a |a
  ·simp only[ZmS]at a;have:=(Z7 _ _ _ _ c).1;omega
  ·exact(Z7 _ _ _ _ a).2
theorem ZeY (T:TS U) (i:Nat) (a:List (TV U)):(ZeZ T i a).enc []={val:= .ptr (T.ep,i,0) 0 0,new:=(0,.box (Zey T.ep i 1 (TV.encs a)))::ZZ 1 (TV.encs a)}:=by simp only[ZeZ,Zh.enc,TV.enc,ZmD,ZaO,ZM,Z0,ZbS,Zbt,Za7,Zdp,Zbg,Znt]
theorem Zjh (b:TOk X) (c:T.Inv) {t:Nat} (h:ZgZ X T i t k=some r):Snd X T i (.alloc t) ty k r:=by unfold ZgZ at h;split at h;rotate_left;simp at h;rename_i e a;refine⟨_,[], ?_,by simp,ZhX c (fun d f=>Zf (b.inv t e a d f)),h⟩;rw[ZeY];simp only[Zd,Zw a,<-b.zero t e a]
theorem Zai (a:List (TV U)):(TV.encs a).length=a.length:=by rw[ZaN,Znp]
theorem Zlp (g:UOk U) (f:TOk X) (a:T.Inv) {t:Nat} {x:Operand} (h:ZlB X T i t x k=some r):Snd X T i (.box t x) ty k r:=by unfold ZlB at h;split at h;rotate_left;simp at h;rename_i e d j c;split at h;rotate_left;simp at h;rename_i b;refine⟨_,[], ?_,by simp,ZhX a (ZdN (ZE a c)),h⟩;rw[ZeY];simp only[Zd,Zw j,Zb f c,<-Zd5 g,Zai,b.1,Zfo b.2,and_self,if_true]
theorem ZcA {a β:Type} (f:a->β) (xs b:List a) (j:Nat):(ZP xs j b).map f=ZP (xs.map f) j (b.map f):=by simp only[ZP,Znq,Znu,Znr,Znp]
theorem Zd0 (xs a:List (TV U)) (j:Nat):TV.encs (ZP xs j a)=ZP (TV.encs xs) j (TV.encs a):=by simp only[ZaN,ZcA]
theorem ZjL (xs:List (TV U)) (n:Nat):TV.encs (xs.take n)=(TV.encs xs).take n:=by simp only[ZaN,Znu]
theorem Zbs (xs:List (TV U)) (n:Nat):TV.encs (xs.drop n)=(TV.encs xs).drop n:=by simp only[ZaN,Znr]
theorem ZeA {b:Type} {xs c:List b} {j:Nat} {a:b} (h:a∈ZP xs j c):a∈xs\/a∈c:=by
 simp only[ZP,ZmE]at h;rcases h with (h |h) |h
 ·exact .inl (List.mem_of_mem_take h)
 ·exact .inr h
 ·exact .inl (Znw h)
theorem ZdV (n:UOk U) (l:TOk X) (m:T.Inv) {e:TT U}:∀(a:List (Nat×Operand)) (cs b:List (TV U)),(∀c∈cs,c.inv T.objs)->ZdW X T.slots e a cs=some b->
  ZbR X.E T.enc.slots e.ti a (TV.encs cs)=some (TV.encs b)/\∀d∈b,d.inv T.objs
 | [],cs,b,hi,h=>by simp only[ZdW,ZmR]at h;subst h;exact⟨rfl,hi⟩
 |(j,x)::r,cs,b,hi,h=>by simp only[ZdW]at h;split at h;rotate_left;simp at h;rename_i q t p;split at h;rotate_left;simp at h;rename_i s d k o;split at h;rotate_left;simp at h;rename_i f;have:=ZdV n l m r _ b (fun c g=>by rcases ZeA g with i |i;(·exact hi c i);exact ZdN (ZE m o) c i) h;refine⟨?_,this.2⟩;rw[Zd0]at this;simp only[ZbR,p,Zw k,Zb l o,<-Zd5 n,Zai,f.1,Zfo f.2.2,true_and,and_true];rw[if_pos (by rw[<-f.1];exact f.2.1)];exact this.1
theorem Zjg (g:UOk U) (b:TOk X) (j:T.Inv) {t:Nat} {a:Array (Nat×Operand)} (h:ZgY X T t a.toList k=some r):Snd X T i (.build t a) ty k r:=by unfold ZgY at h;split at h;rotate_left;simp at h;rename_i e d;split at h;rotate_left;simp at h;rename_i l;split at h;rotate_left;simp at h;rename_i cs f;obtain⟨q1,m⟩:=ZdV g b j _ _ _ (fun c n=>Zf (b.inv t e d c n)) f;refine⟨_,[], ?_,by simp,ZJ.pure (Zgj m),h⟩;rw[b.zero t e d]at q1;simp only[Zd,Zw d,b.agg t e d,l,if_true,q1,Zh.enc,ZeK g,Znt]
theorem ZN {l:Lf U.car} {t:Ty} {x:El U.car t} (h:l.as t=some x):l=⟨t,x⟩:=by unfold Lf.as at h;split at h;rotate_left;simp at h;rename_i a;obtain⟨b,y⟩:=l;dsimp only at a;subst a;cases h;rfl
theorem ZbT (a:UOk U) (l:Lf U.car):(U.encL l).cells.length=U.tsize l.t:=by simp only[Zc.encL,Zav a,Znp,ZbH a]
theorem ZbQ (g:UOk U) (m:TOk X) (o:T.Inv) {t n:Nat} {e:TT U}:∀(b:List (Nat×Operand)) (es a:List (El U.car e.ty)),es.length=n->ZaT X T t e n b es=some a->
  ZD X.E T.enc.slots T.enc.objs t e.ti b (es.map (U.encE e.ty))=some (a.map (U.encE e.ty))/\a.length=n
 | [],es,a,hl,h=>by simp only[ZaT,ZmR]at h;subst h;exact⟨rfl,hl⟩
 |(j,x)::r,es,a,hl,h=>by
  simp only[ZaT]at h;split at h;rotate_left;simp at h;rename_i d q;split at h;rotate_left;simp at h;rename_i l i;split at h;rotate_left;simp at h;rename_i y s;split at h;rotate_left;simp at h;rename_i p;have:=ZbQ g m o r _ a (by simpa using hl) h;refine⟨?_,this.2⟩;have f:=ZN s;have k:=ZeR g (ZE o q) i 7;have c:=ZbT g l;rw[f]at k c;simp only[ZD,Zb m q,depth,k,Zc.encL]at c|-
  rw[if_pos ⟨by rw[c];exact p.1,by rw[Znp,hl];exact p.2⟩,<-List.map_set];exact this.1
theorem Za8 {t:Ty} {xs:List (El U.car t)} {n:Nat} {fix:Bool} {frz:List Id} {wr:List (Id×TO U)} (l:xs.length=n) (a:∀id o,(id,o)∈wr->o= .gone):
  ZJ T i {val:= .full (T.ep,i,0) n,new:=[(0,.arr t xs fix)],wr:=wr,frz:=frz}:=by
 refine⟨fun id o h g e b d=> ?_,fun _ q f=> ?_,fun _ o k=> ?_⟩
 ·rw[a id o h]at d;simp at d
 ·simp only[TV.fulls,ZmI]at f;subst f;refine⟨.arr t xs fix, ?_,fun g e b d=> ?_⟩
  ·simp only[lkA,ZmD,Znt,TS.objL,upd,if_true]
  ·cases d;exact l
 ·rcases k with ⟨j,c⟩ |⟨id,c⟩
  ·simp only[ZmI,ZmS]at c;obtain⟨_,rfl⟩:=c;trivial
  ·rw[a id o c];trivial
theorem Zel (y:UOk U) (q:TOk X) (w:T.Inv) {t n:Nat} {f:Array (Nat×Operand)} (h:Zbn X T i t n f.toList k=some r):Snd X T i (.buildSlice t n f) ty k r:=by unfold Zbn at h;split at h;rotate_left;simp at h;rename_i B l;split at h;rotate_left;simp at h;rename_i u p;split at h;rotate_left;simp at h;rename_i e s;split at h;rotate_left;simp at h;rename_i v o;split at h;rotate_left;simp at h;rename_i z x;split at h;rotate_left;simp at h;rename_i es j;split at h;rotate_left;simp at h;rename_i m;obtain⟨q1,A⟩:=ZbQ y q w _ _ _ (by simp) j;refine⟨_,[], ?_,by simp,Za8 A (by simp),h⟩;have g:=q.zl u e v s o;rw[ZN x]at g;rw[List.map_replicate,show U.encE e.ty z=e.ti.zeroP from g]at q1;have:=Zw l;obtain⟨⟨d,a,b,c⟩,D,b',C,E⟩:=B;dsimp only at p;subst p;simp only[Zd,this,Zw s,q1,m.1,m.2.1,and_self,if_true,Zh.enc,TV.enc,ZmD,Znt,ZaO,ZM,Z0,ZbS,Zbt,Za7,m.2.2]
theorem Zce (g:UOk U) (b:TOk X) {t:Nat} {e:TT U} (i:X.get t=some e) {cs:List (TV U)} {d:TV U} (h:Zc9 e cs=some d):Zfr e.ti (TV.encs cs)=some d.enc:=by
 unfold Zc9 at h;unfold Zfr;rw[b.agg t e i];split at h
 ·rename_i a;rw[if_pos a];split at h;rotate_left;simp at h;rename_i f;cases h;rw[if_pos (by rw[Zai];exact f),ZeK g,ZjL]
 ·rename_i a;rw[if_neg a];cases cs with
  |nil=>simp at h
  |cons c r=>simp only[List.head?_cons,ZmR]at h;subst h;rfl
theorem ZaD {lk:Id->Option (TO U)} {e:TT U} {cs:List (TV U)} {d:TV U} (a:∀c∈cs,c.inv lk) (h:Zc9 e cs=some d):d.inv lk:=by
 unfold Zc9 at h;split at h
 ·split at h;rotate_left;simp at h;cases h;exact Zgj fun c b=>a c (List.mem_of_mem_take b)
 ·exact a d (List.mem_of_mem_head? h)
theorem ZjB (ti:TI) (a:List P):Zfr ti (a.map .p)=(ZdI ti a).map .p:=by
 unfold Zfr ZdI;split
 ·rw[Znp];split
  ·rw[<-Znu,Zcd];rfl
  ·rfl
 ·cases a<;>rfl
theorem Za3 (f:UOk U) (b:TOk X) {t:Nat} {e:TT U} (c:X.get t=some e) {a:List (Lf U.car)} {d:TV U} (h:Zc9 e (a.map lv)=some d):∃x,ZdI e.ti (a.map U.encL)=some x/\d.enc= .p x:=by
 have:=Zce f b c h;rw[ZcP,ZjB]at this;cases hq:ZdI e.ti (a.map U.encL)with
 |none=>rw[hq]at this;simp at this
 |some x=>rw[hq]at this;simp only[Zny,ZmR]at this;exact⟨x,rfl,this.symm⟩
theorem Zfu {t:Ty} {xs:List (El U.car t)} {n:Nat} {x:El U.car t} (h:xs[n]? =some x):(xs.map (U.encE t)).getD n default=U.encE t x:=by rw[Znl,ZmB,h];rfl
theorem Zkm (m:UOk U) (f:TOk X) (z:T.Inv) {t:Nat} {x:Operand} (h:Zju X T t x k=some r):Snd X T i (.load t x) ty k r:=by
 unfold Zju at h;split at h
 ·rename_i e cs b p;split at h;rotate_left;simp at h;rename_i d a;obtain⟨w,n,q⟩:=Za3 m f b a;refine⟨_,[], ?_,by simp,ZJ.pure (ZaD (fun c g=> ?_) a),h⟩
  ·simp only[Zd,Zw b,Zb f p,TV.enc,n,Zh.enc,q,Znt]
  ·obtain⟨l,_,rfl⟩:=Znc.1 g;exact Zah _ _
 ·rename_i e id i' j b p;split at h
  ·rename_i cs o;split at h;rotate_left;simp at h;rename_i v;subst v;split at h;rotate_left;simp at h;rename_i d a;have:=Zce m f b a;rw[Zbs]at this;refine⟨_,[], ?_,by simp,ZJ.pure (ZaD (fun c g=>z.objs id _ o c (Znw g)) a),h⟩;simp only[Zd,Zw b,Zb f p,TV.enc,Zg o,ZaO,ZM,Z0,ZbS,Zbt,Za7,if_true,this,Zh.enc,Znt]
  ·rename_i u xs fix o;obtain⟨y,s,h⟩:=bind_some h;split at h;rotate_left;simp at h;rename_i d a;obtain⟨w,n,q⟩:=Za3 m f b a;refine⟨_,[], ?_,by simp,ZJ.pure (ZaD (fun c g=> ?_) a),h⟩
   ·rw[Znr,<-Zav m]at n;simp only[Zd,Zw b,Zb f p,TV.enc,Zg o,ZaO,ZM,Z0,ZbS,Zbt,Za7,Zfu s,n,Zh.enc,q,Znt]
   ·obtain⟨l,_,rfl⟩:=Znc.1 g;exact Zah _ _
  ·simp at h
 ·simp at h
theorem Zjq {e x:P} {sz:Nat} (h:x.cells.length=sz):e.put sz 0 x=x:=by simp[P.put,h]
theorem Zja (g:UOk U) (w:TOk X) (A:T.Inv) {t:Nat} {a x:Operand} (h:ZgS X T i t a x k=some r):Snd X T i (.store t a x) ty k r:=by
 unfold ZgS at h;split at h;rotate_left;simp at h;rename_i e id i' j d K J v;split at h
 ·rename_i cs s;split at h;rotate_left;simp at h;rename_i m;obtain⟨rfl,F,C,L⟩:=m;refine⟨_,[], ?_,by simp, ?_,h⟩
  ·simp only[Zd,Zw K,Zb w J,Zb w v,TV.enc,Zg s,ZaO,ZM,Z0,ZbS,Zbt,Za7,<-Zd5 g,Zai,F,Zfo L,true_and,and_true,Zh.enc,Zbg,ZmD,Znt,Zd0,Zdp];rw[if_pos (by rw[<-F];exact C)]
  ·refine Zgn (k0:=0) A (ZdN (ZE A v)) rfl (fun D o b=> ?_) (fun W o b=> .inr b) (fun _ _ b=>b) (fun W o b _ _=>(Z7 _ _ _ _ b).2);simp only[ZmI,ZmS]at b;obtain⟨rfl,rfl⟩:=b;refine⟨_,rfl,fun S G=> ?_⟩;rcases ZeA G with b |b
   ·exact .inr (A.objs _ _ s S b)
   ·exact .inl b
 ·rename_i u xs fix s;split at h;rotate_left;simp at h;rename_i l N;split at h;rotate_left;simp at h;rename_i m;have O:=ZeR g (ZE A v) N 7;have p:=ZbT g l;have f:∀y:El U.car u,U.encE u y=((xs.map (U.encE u)).getD i' default).put (U.tsize u) j (U.encL l)->ZJ T i {val:=TV.undef,wr:=[(id,.arr u (xs.set i' y) fix)],frz:=d.enc.ids T.enc.objs depth}:=fun y _=>
   ⟨fun D o b Y R M E=>by
    simp only[ZmI,ZmS]at b;obtain⟨rfl,rfl⟩:=b;cases E;exact⟨_,_,_,s,by simp⟩,fun _=>Zf rfl,fun _ o b=>by
    rcases b with ⟨_,b⟩ |⟨_,b⟩
    ·simp at b
    ·simp only[ZmI,ZmS]at b;obtain⟨_,rfl⟩:=b;trivial⟩
  have c:∀y:El U.car u,U.encE u y=((xs.map (U.encE u)).getD i' default).put (U.tsize u) j (U.encL l)->Zd X.E T.ep i (.store t a x) ty T.enc.slots T.enc.objs=some (({val:=TV.undef,wr:=[(id,.arr u (xs.set i' y) fix)],frz:=d.enc.ids T.enc.objs depth}:Zh U).enc []):=fun y q=>by simp only[Zd,Zw K,Zb w J,Zb w v,TV.enc,Zg s,ZaO,ZM,Z0,ZbS,Zbt,Za7,depth,O,p,m.1,m.2.1,m.2.2,and_self,if_true,Zh.enc,Znt,ZmD,List.map_set,q]
  split at h
  ·rename_i hw;obtain⟨rfl,V⟩:=hw;split at h;rotate_left;simp at h;rename_i y q;have B:=ZN q;have:U.encE u y=((xs.map (U.encE u)).getD i' default).put (U.tsize u) 0 (U.encL l):=by rw[Zjq (by rw[p,V]),B];rfl
   exact⟨_,[],c y this,by simp,f y this,h⟩
  ·rename_i hw;obtain⟨z,Q,h⟩:=bind_some h;split at h;rotate_left;simp at h;rename_i y q;have:U.encE u y=((xs.map (U.encE u)).getD i' default).put (U.tsize u) j (U.encL l):=by
    rw[Zfu Q];have I:=ZaC g q;have H:=Zav g u y;rw[I,ZcA,<-Zav g,<-Zav g]at H;unfold P.put;rw[if_neg (by rw[p];exact hw)];cases u with
    |st n=>
     simp only[Zc.encE,g.enc_cells,P.cells]at H|-
     rw[H];rfl
    |_=>
     exfalso;have:U.tsize l.t=1/\j=0:=by have F:=m.1;have C:=m.2.1;have L:=m.2.2;simp only[Zc.tsize]at C;constructor<;>omega
     exact hw ⟨this.2,this.1⟩
   exact⟨_,[],c y this,by simp,f y this,h⟩
 ·simp at h
theorem ZfQ (d:TOk X) (g:T.Inv) {x:Operand} (h:ZcF X T x k=some r):Snd X T i (.nilCheck x) ty k r:=by
 unfold ZcF at h;split at h
 ·rename_i cs c;exact⟨_,[],by simp only[Zd,Zb d c,TV.enc,Zh.enc,Znt],by simp,ZJ.pure (Zf rfl),h⟩
 ·rename_i id a b c;exact⟨_,[],by simp only[Zd,Zb d c,TV.enc,Zh.enc,Znt],by simp,ZJ.pure (Zf rfl),h⟩
 ·rename_i f a b c;refine⟨_,[], ?_,by simp,ZJ.pure (ZE g c),h⟩;simp only[Zd,Zb d c,TV.enc,Zh.enc,Znt];rcases ZjI f (TV.encs a) (TV.encs b)with ⟨u,v,e⟩ |e<;>rw[e]
 ·simp at h
end
end Eng
namespace Eng
open Go
section
variable {U:Zc} {R:Type} {X:ZG U} {T:TS U} {i ty:Nat} {k:Zh U->Option R} {r:R}
theorem Zv {b:Bool} (h:b=true):∀q∈[b],q=true:=fun q a=>by rw[ZmI]at a;rw[a];exact h
theorem Zcl {p:P} {d:TV U} (h:ZlY p=some d):d.enc= .p p/\d.fulls=[]:=by unfold ZlY at h;split at h<;>first |(cases h;exact⟨rfl,rfl⟩) |simp at h
theorem ZdL {d:TV U} {p:P} (h:Ziv d=some p):d.enc= .p p/\(∀cs,p≠ .agg cs):=by unfold Ziv at h;split at h<;>first |(cases h;exact⟨rfl,by simp⟩) |simp at h
theorem Zh8 (c:UOk U) {d:TV U} {b:List P} (h:aggP d=some b):d.enc= .p (.agg b):=by
 unfold aggP at h;split at h
 ·cases h;simp only[TV.enc,Zc.encE,c.enc_cells]
 ·split at h;rotate_left;simp at h;rename_i e a;cases h;rw[Zcv a,TV.enc,ZcP,Zcd]
 ·simp at h
theorem Zlq (M:UOk U) (f:TOk X) (hT:T.Inv) {b:BinOp} {t R:Nat} {x y:Operand} (h:ZlC X T b t x y k=some r):Snd X T i (.binOp b t x y R) ty k r:=by
 unfold ZlC at h;split at h
 ·rename_i o;unfold opNil at h;split at h
  ·rename_i e z m l;have L:∀td,td=TD.func->Zc1 td (.const .nilFunc) (.p (ZjM z))=some (.p (.bool (Option.isNone z))):=fun td a=>by subst a;cases z<;>rfl
   split at h
   ·rename_i a;refine⟨_,[], ?_,by simp,ZJ.pure (Zah _ _),h⟩;simp only[Zd,o,if_true,Zr m,Zb f l,TV.enc,Zc.encE,L _ a,Zh.enc,Znt]
   ·rename_i a;refine⟨_,[], ?_,by simp,ZJ.pure (Zah _ _),h⟩;simp only[Zd,o,if_true,Zr m,Zb f l,TV.enc,Zc.encE,L _ a,D.notb,Zh.enc,Znt]
   ·simp at h
  ·rename_i e d s m l;split at h;rotate_left;simp at h;rename_i z g;split at h
   ·refine⟨_,[], ?_,by simp,ZJ.pure (Zah _ _),h⟩;simp only[Zd,o,if_true,Zr m,Zb f l,g,Zh.enc,TV.enc,Zc.encE,Znt]
   ·refine⟨_,[], ?_,by simp,ZJ.pure (Zah _ _),h⟩;simp only[Zd,o,if_true,Zr m,Zb f l,g,D.notb,Zh.enc,TV.enc,Zc.encE,Znt]
   ·simp at h
  ·simp at h
 ·rename_i o;have n:Operand.isNil y=false:=by simpa using o
  split at h
  ·rename_i u v F C;split at h;rotate_left;simp at h;rename_i e z m g;split at h;rotate_left;simp at h;rename_i d l J;obtain⟨q1,B⟩:=Zcl J;refine⟨_,[], ?_,by simp,ZJ.pure (Zf B),h⟩;simp only[Zd,n,Zmu,if_false,Zb f F,Zb f C,TV.enc,Zc.encE,Zr m,l,g,Zh.enc,q1,Znt]
  ·rename_i d d' s F C;split at h
   ·rename_i us vs I H;split at h;rotate_left;simp at h;rename_i z g;split at h;rotate_left;simp at h;rename_i Y j;obtain⟨q1,B⟩:=Zcl j;refine⟨_,[], ?_,by simp,ZJ.pure (Zf B),h⟩;simp only[Zd,n,Zmu,if_false,Zb f F,Zb f C,Zh8 M I,Zh8 M H,g,Zh.enc,q1,Znt]
   ·split at h;rotate_left;simp at h;rename_i p q w A;split at h;rotate_left;simp at h;rename_i z c g;split at h;rotate_left;simp at h;rename_i Y j;obtain⟨q1,B⟩:=Zcl j;obtain⟨S,h⟩:=Zd3 h;refine⟨_,c, ?_,S,ZJ.pure (Zf B),h⟩;obtain⟨Z,O⟩:=ZdL w;obtain⟨V,e4⟩:=ZdL A;simp only[Zd,n,Zmu,if_false,Zb f F,Zb f C,Z,V];split
    ·rename_i K N E G;cases E;cases G;exfalso;unfold Ziv at w A;split at w<;>simp at w;split at A<;>simp at A;subst w A;exact s _ _ rfl rfl
    ·rename_i K N E G;cases E;exact absurd rfl (O _)
    ·rename_i K N E G P Q;cases P;cases Q;simp only[g,Zh.enc,q1,Znt]
    ·rename_i h7 h8 W;exact(W p q rfl rfl).elim
  ·simp at h
theorem snd_un (e:TOk X) (m:T.Inv) {u:UnOp} {t:Nat} {x:Operand} (h:opUn X T u x k=some r):Snd X T i (.unOp u t x) ty k r:=by unfold opUn at h;split at h;rotate_left;simp at h;rename_i d l;split at h;rotate_left;simp at h;rename_i v f;split at h;rotate_left;simp at h;rename_i z c b;split at h;rotate_left;simp at h;rename_i n a;obtain⟨q1,g⟩:=Zcl a;obtain⟨j,h⟩:=Zd3 h;refine⟨_,c, ?_,j,ZJ.pure (Zf g),h⟩;simp only[Zd,Zb e l,(ZdL f).1,b,Zh.enc,q1,Znt]
theorem ZgM (m:TOk X) (y:T.Inv) {s t:Nat} {x:Operand} (h:ZdA X T i s t x k=some r):Snd X T i (.convert s t x) ty k r:=by
 unfold ZdA at h;split at h;rotate_left;simp at h;rename_i es D d b a g;split at h
 ·rename_i k1 B C n f e;refine⟨_,[], ?_,by simp,ZJ.pure (Zah _ _),h⟩;simp only[Zd,Zaq,Zr b,Zr a,Zb m g,f,e,TV.enc,Zc.encE,Zh.enc,Znt]
 ·rename_i j f e;refine⟨_,[], ?_,by simp,ZJ.pure (Zah _ _),h⟩;simp only[Zd,Zaq,Zr b,Zr a,Zb m g,f,e,TV.enc,Zc.encE,Zh.enc,Znt]
 ·rename_i u j f e;split at h;rotate_left;simp at h;rename_i A c;split at h;rotate_left;simp at h;rename_i q;obtain⟨z,h⟩:=Zo h;refine⟨_,[decide (j.length<=281474976710656)], ?_,Zv z,Za8 (by simp) (by simp),h⟩;simp only[Zd,Zaq,Zr b,Zr a,Zr c,Zb m g,f,e,q,TV.enc,Zc.encE,Zh.enc,Znt,ZmD,ZM,Zc.tsize,ZaF,Zns];rfl
 ·rename_i u E f e;split at h;rotate_left;simp at h;rename_i A l c w;split at h;rotate_left;simp at h;rename_i xs q o;have p:=ZN o;refine⟨_,[true], ?_,by simp,ZJ.pure (Zah _ _),h⟩;have v:=ZcI (ZE y g) w 1;rw[p]at v;simp only[Zd,Zaq,Zr b,Zr a,Zr c,Zb m g,f,e,q,v,Zc.encL,Zc.encE,Zh.enc,TV.enc,Znt,Zns];have:(List.map (fun x=>P.int IntKind.u8 x) xs).all P.isU8=true:=by simp[P.isU8]
  rw[this];rfl
 ·simp at h
theorem Zg8 (b:TOk X):∀{xs:List Operand} {a:List (TV U)},Zlb X T.slots xs=some a->xs.map (ev X.E T.enc.slots 0)=TV.encs a
 | [],a,h=>by simp[Zlb,Zm]at h;subst h;rfl
 |x::xs,a,h=>by simp only[Zlb,Zm]at h;split at h;rotate_left;simp at h;rename_i d e c f;cases h;simp only[ZmD,TV.encs,Zb b c,Zg8 b f]
theorem Zfx (e:T.Inv):∀{xs:List Operand} {b:List (TV U)},Zlb X T.slots xs=some b->∀d∈b,d.inv T.objs
 | [],b,h=>by simp[Zlb,Zm]at h;subst h;simp
 |x::xs,b,h=>by
  simp only[Zlb,Zm]at h;split at h;rotate_left;simp at h;rename_i d g f i;cases h;intro a c;rcases ZmF.1 c with rfl |c
  ·exact ZE e f
  ·exact Zfx e i a c
theorem ZfR (j:TOk X) (l:T.Inv) {f:Nat} {a b:Array Operand} (h:ZcG X T f a.toList b.toList k=some r):Snd X T i (.makeFunc (.func f) a b) ty k r:=by
 unfold ZcG at h;split at h;rotate_left;simp at h;rename_i n bs m g;refine⟨_,[], ?_,by simp,ZJ.pure ?_,h⟩
 ·simp only[Zd,Zg8 j m,Zg8 j g,Zh.enc,TV.enc,Znt];rfl
 ·intro q c;simp only[TV.fulls,ZmE]at c;rcases c with c |c
  ·obtain⟨d,e,c⟩:=Zs.1 c;exact Zfx l m d e q c
  ·obtain⟨d,e,c⟩:=Zs.1 c;exact Zfx l g d e q c
theorem Zdk {d:TV U} {o:TO U} {frz:List Id} (c:d.fulls=[]) (b:∀lk,o.inv lk):ZJ T i {val:=d,new:=[(0,o)],frz:=frz}:=
 ⟨by simp,fun _=>Zf c,fun _ o' a=>by
  rcases a with ⟨j,a⟩ |⟨id,a⟩
  ·simp only[ZmI,ZmS]at a;obtain⟨_,rfl⟩:=a;exact b _
  ·simp at a⟩
theorem Zb4 {d:TV U} {id:Id} {o:TO U} {frz:List Id} (f:d.fulls=[]) (c:ZdK (T.objs id) o) (e:∀lk,o.inv lk):ZJ T i {val:=d,wr:=[(id,o)],frz:=frz}:=
 ⟨fun b o' a=>by simp only[ZmI,ZmS]at a;obtain⟨rfl,rfl⟩:=a;exact c,fun _=>Zf f,fun _ o' a=>by
  rcases a with ⟨j,a⟩ |⟨id,a⟩
  ·simp at a
  ·simp only[ZmI,ZmS]at a;obtain⟨_,rfl⟩:=a;exact e _⟩
theorem ZgK (c:TOk X) (g:T.Inv) {t:Nat} (h:Zdy X T i t k=some r):Snd X T i (.makeMap t none) ty k r:=by unfold Zdy at h;split at h;rotate_left;simp at h;rename_i e f;split at h;rotate_left;simp at h;rename_i d b a;refine⟨_,[], ?_,by simp,Zdk rfl (fun _=>by trivial),h⟩;simp only[Zd,c.key t e d b f a,Zh.enc,TV.enc,ZmD,Znt,Z0,TS.enc]
theorem Zfd (n:TOk X) (y:T.Inv) {t:Nat} {l c:Operand} (h:ZbX X T i t l c k=some r):Snd X T i (.makeSlice t l c) ty k r:=by
 unfold ZbX at h;split at h;rotate_left;simp at h;rename_i e k1 a x b f p w;split at h;rotate_left;simp at h;rename_i q m;split at h;rotate_left;simp at h;rename_i z s;split at h;rotate_left;simp at h;rename_i v;obtain⟨d,h⟩:=Zo h;refine⟨_,[_], ?_,Zv d,Za8 (by simp) (by simp),h⟩;have j:∃u,X.get u=some e:=by unfold ZG.elem at f;split at f;rotate_left;simp at f;split at f;rotate_left;simp at f;exact⟨_,f⟩
 obtain⟨u,o⟩:=j;have g:=n.zl u e q o m;rw[ZN s]at g;simp only[Zd,ZaE f,Zb n p,Zb n w,TV.enc,Zc.encE,Zh.enc,ZmD,Znt,ZM,List.map_replicate,v];rw[show U.encE e.ty z=e.ti.zeroP from g]
theorem ZbF (b:TOk X) {x:Option Operand} {a:Option Int} (h:intT X T.slots x=some a):ZbN X.E T.enc.slots x=some a:=by
 unfold intT at h;split at h
 ·cases h;rfl
 ·rename_i d;split at h;rotate_left;simp at h;rename_i e n c;cases h;simp only[ZbN,Zb b c,TV.enc,Zc.encE]
theorem Zhf {a β:Type} (f:a->β) (xs:List a) (lo hi:Option Int):(cut xs lo hi).map f=cut (xs.map f) lo hi:=by unfold cut;split<;>simp
theorem ZjU {b:Type} (xs:List b) (lo hi:Option Int) (n:Nat) (a:n=xs.length):cut xs lo hi=(xs.take (hi.getD n).toNat).drop (lo.getD 0).toNat:=by subst a;unfold cut;split<;>simp
theorem Za5 (b:T.Inv) {t:Nat} {x:Operand} {id:Id} {n:Nat} (e:evT X T.slots t x=some (.full id n)) {u:Ty} {xs:List (El U.car u)} {fix:Bool} (c:T.objs id=some (.arr u xs fix)):n=xs.length:=by obtain⟨o,a,d⟩:=ZE b e (id,n) (by simp[TV.fulls]);dsimp only at a;rw[c,ZmR]at a;exact(d u xs fix a.symm).symm
theorem ZeB (w:T.Inv) {sz:Option Nat} {d:TV U} {lo hi mx:Option Int} (p:d.inv T.objs) (h:Zhy T sz d lo hi mx k=some r):
  ∃e cs,ZaJ T.enc.objs sz d.enc lo hi mx=some (e.enc cs)/\(∀q∈cs,q=true)/\ZJ T i e/\k e=some r:=by
 unfold Zhy at h;split at h
 ·rename_i s;split at h;rotate_left;simp at h;obtain⟨a,h⟩:=Zo h;refine⟨_,[_], ?_,Zv a,ZJ.pure (Zah _ _),h⟩;simp only[ZaJ,TV.enc,Zc.encE,Zh.enc,Zb9,ZjU s lo hi s.length rfl,Znt]
 ·rename_i sz t xs;split at h;rotate_left;simp at h;rename_i b;split at h
  ·obtain⟨a,h⟩:=Zo h;refine⟨_,[_], ?_,Zv a,ZJ.pure (Zah _ _),h⟩;simp only[ZaJ,TV.enc,Zc.encE,b,if_true,Znp,Zh.enc,Zb9,Zhf,ZjU (xs.map (U.encE t)) lo hi xs.length (by simp),Znt]
  ·rename_i m j;obtain⟨a,h⟩:=Zo h;refine⟨_,[_], ?_,Zv a,ZJ.pure (Zf rfl),h⟩;simp only[ZaJ,TV.enc,Zc.encE,b,if_true,Znp,Zh.enc,Zhf,ZjU (xs.map (U.encE t)) lo (some j) xs.length (by simp),Option.getD_some,Znt]
  ·simp at h
 ·rename_i sz id n;split at h;rotate_left;simp at h;rename_i t xs fix f;obtain⟨o,g,v⟩:=p (id,n) (by simp[TV.fulls]);dsimp only at g;have c:xs.length=n:=v t xs fix (by rw[f,ZmR]at g;exact g.symm);split at h;rotate_left;simp at h;rename_i b;split at h
  ·obtain⟨a,h⟩:=Zo h;split at h
   ·refine⟨_,[_], ?_,Zv a,ZJ.pure p,h⟩;simp only[ZaJ,TV.enc,Zg f,ZM,b,if_true,Zh.enc,Zb9,Option.getD_none,Znt,c];simp
   ·refine⟨_,[_], ?_,Zv a,ZJ.pure (Zf rfl),h⟩;simp only[ZaJ,TV.enc,Zg f,ZM,b,if_true,Zh.enc,Zb9,Znt,c,Znh]
  ·rename_i m;split at h;rotate_left;simp at h;rename_i j;obtain⟨a,h⟩:=Zo h;refine⟨_,[_], ?_,Zv a,ZJ.pure (Zf rfl),h⟩;simp only[ZaJ,TV.enc,Zg f,ZM,b,if_true,Zh.enc,Znt,c,Znh,Zhf];congr 2;unfold cut;cases lo with
   |none=>simp
   |some l=>simp[List.drop_take]
 ·rename_i sz id u len;split at h;rotate_left;simp at h;rename_i t xs fix f;split at h;rotate_left;simp at h;rename_i b;split at h;rotate_left;simp at h;obtain⟨a,h⟩:=Zo h;refine⟨_,[_], ?_,Zv a,ZJ.pure (Zf rfl),h⟩;simp only[ZaJ,TV.enc,Zg f,ZM,b,if_true,Zh.enc,Zb9,Znt]
 ·rename_i sz t;split at h;rotate_left;simp at h;obtain⟨a,h⟩:=Zo h;refine⟨_,[_], ?_,Zv a,ZJ.pure (Zf rfl),h⟩;simp only[ZaJ,TV.enc,Zh.enc,Znt]
 ·simp at h
theorem Zjb (f:TOk X) (j:T.Inv) {t:Nat} {x:Operand} {lo hi mx:Option Operand} (h:ZgT X T t x lo hi mx k=some r):Snd X T i (.slice t x lo hi mx) ty k r:=by
 unfold ZgT at h;split at h;rotate_left;simp at h;rename_i e d a b c z l w v y;split at h
 ·rename_i g;obtain⟨e',cs,o,m,p,n⟩:=ZeB (i:=i) j (ZE j l) h;refine⟨e',cs, ?_,m,p,n⟩;simp only[Zd,Zr z,g,ZbF f w,ZbF f v,ZbF f y,Zb f l,o]
 ·rename_i u s;split at h;rotate_left;simp at h;rename_i A q;obtain⟨e',cs,o,m,p,n⟩:=ZeB (i:=i) j (ZE j l) h;refine⟨e',cs, ?_,m,p,n⟩;simp only[Zd,Zr z,s,Zw q,ZbF f w,ZbF f v,ZbF f y,Zb f l,o]
 ·simp at h
theorem ZfM {t:Nat} {e:TT U} {fs:List (Nat×Nat)} (g:X.get t=some e) (f:e.ti.d= .struct fs):∃a b c,X.E.ty t=some ⟨.struct fs,a,b,c⟩:=by have:=Zw g;obtain⟨⟨d,a,b,c⟩,_,_,_,_⟩:=e;dsimp only at f;subst f;exact⟨a,b,c,this⟩
theorem Zff (m:TOk X) (v:T.Inv) {t f:Nat} {x:Operand} (h:ZbZ X T t x f k=some r):Snd X T i (.fieldAddr t x f) ty k r:=by
 unfold ZbZ at h;split at h;rotate_left;simp at h;rename_i e d s p;split at h;rotate_left;simp at h;rename_i fs l;obtain⟨a,b,c,g⟩:=ZfM s l;split at h;rotate_left;simp at h;rename_i q w o;split at h;rotate_left;simp at h;rename_i u j;split at h
 ·simp at h
 ·rename_i n;split at h
  ·refine⟨_,[], ?_,by simp,ZJ.pure (Zf rfl),h⟩;simp only[Zd,g,o,Zw j,n,if_false,Zb m p,TV.enc,Zh.enc,Znt,Znr]
  ·refine⟨_,[], ?_,by simp,ZJ.pure (Zf rfl),h⟩;simp only[Zd,g,o,Zw j,n,if_false,Zb m p,TV.enc,Zh.enc,Znt]
  ·simp at h
theorem ZdD (a:List D):(∃b,a=b.map .p/\D.mkAgg a= .p (.agg b))\/D.mkAgg a= .agg a:=by
 unfold D.mkAgg;cases h:Zm D.pure? a with
 |none=>exact .inr rfl
 |some b=>exact .inl ⟨b,Zu h,rfl⟩
theorem Zje (u:UOk U) (s:TOk X) (H:T.Inv) {t f:Nat} {x:Operand} (h:ZgW X T t x f k=some r):Snd X T i (.field t x f) ty k r:=by
 unfold ZgW at h;split at h;rotate_left;simp at h;rename_i e d F v;split at h;rotate_left;simp at h;rename_i fs w;obtain⟨a,b,c,o⟩:=ZfM F w;split at h;rotate_left;simp at h;rename_i B J D;split at h;rotate_left;simp at h;rename_i G m;split at h
 ·simp at h
 ·rename_i z;split at h
  ·rename_i n K;split at h;rotate_left;simp at h;rename_i y q;obtain⟨p,j,E⟩:=Za3 u s m q;refine⟨_,[], ?_,by simp,ZJ.pure (ZaD (fun c C=> ?_) q),h⟩
   ·rw[Znr]at j;simp only[Zd,o,D,Zw m,z,if_false,Zb s v,TV.enc,Zc.encE,u.enc_cells,j,Zny,Zh.enc,E,Znt]
   ·obtain⟨l,_,rfl⟩:=Znc.1 C;exact Zah _ _
  ·rename_i cs;split at h;rotate_left;simp at h;rename_i y q;have j:=Zce u s m q;refine⟨_,[], ?_,by simp,ZJ.pure (ZaD (fun c C=>Zho (ZE H v) c (Znw C)) q),h⟩;rw[Zbs]at j;have g:=Zb s v;rw[TV.enc]at g;rcases ZdD (TV.encs cs)with ⟨I,q1,A⟩ |A
   ·rw[A]at g;rw[q1,<-Znr,ZjB]at j;cases hq:ZdI G.ti (I.drop B)with
    |none=>rw[hq]at j;simp at j
    |some p=>
     rw[hq]at j;simp only[Zny,ZmR]at j;simp only[Zd,o,D,Zw m,g,z,if_false,hq,Zny,Zh.enc,Znt,<-j]
   ·rw[A]at g;simp only[Zd,o,D,Zw m,g,z,if_false,j,Zny,Zh.enc,Znt]
  ·simp at h
end
end Eng
namespace Eng
open Go
section
variable {U:Zc} {R:Type} {X:ZG U} {T:TS U} {i ty:Nat} {k:Zh U->Option R} {r:R}
theorem ty_sl {t u:Nat} {e:TT U} (g:X.get t=some e) (f:e.ti.d= .sl u):∃a b c,X.E.ty t=some ⟨.sl u,a,b,c⟩:=by have:=Zw g;obtain⟨⟨d,a,b,c⟩,_,_,_,_⟩:=e;dsimp only at f;subst f;exact⟨a,b,c,this⟩
theorem ty_arr {t m u:Nat} {e:TT U} (g:X.get t=some e) (f:e.ti.d= .arr m u):∃a b c,X.E.ty t=some ⟨.arr m u,a,b,c⟩:=by have:=Zw g;obtain⟨⟨d,a,b,c⟩,_,_,_,_⟩:=e;dsimp only at f;subst f;exact⟨a,b,c,this⟩
theorem ZkX {t a b:Nat} {e:TT U} (f:X.get t=some e) (c:e.ti.d= .map a b):∃x y z,X.E.ty t=some ⟨.map a b,x,y,z⟩:=by have:=Zw f;obtain⟨⟨d,x,y,z⟩,_,_,_,_⟩:=e;dsimp only at c;subst c;exact⟨x,y,z,this⟩
theorem as_eq {car:Nat->Type} {l:Lf car} {t:Ty} {x:El car t} (h:l.as t=some x):l=⟨t,x⟩:=by unfold Lf.as at h;split at h;rotate_left;simp at h;rename_i a;obtain⟨b,y⟩:=l;dsimp only at a;subst a;cases h;rfl
theorem ZfO {cs:List (Lf U.car)}:∀(ts:List Ty) (n:Nat) (k:List (Lf U.car)->Option R) {r:R},tabK cs ts n k=some r->∃a,cs.drop n=a++cs.drop (n+a.length)/\k a=some r
 | [],n,k,r,h=>⟨[],by simp,h⟩
 |t::ts,n,k,r,h=>by simp only[tabK]at h;obtain⟨x,b,h⟩:=bind_some h;obtain⟨a,f,g⟩:=ZfO ts (n+1) _ h;unfold tabB at b;split at b;rotate_left;simp at b;rename_i l e;obtain⟨c,d⟩:=ZmA.1 e;have:=as_eq b;refine⟨⟨t,x⟩::a, ?_,g⟩;rw[List.drop_eq_getElem_cons c,d,this,f,List.cons_append,List.length_cons];congr 3;omega
theorem Zfe (C:UOk U) (j:TOk X) (H:T.Inv) {t:Nat} {x z:Operand} (h:ZbY X T t x z k=some r):Snd X T i (.indexAddr t x z) ty k r:=by
 unfold ZbY at h;split at h;rotate_left;simp at h;rename_i e d k1 n A o p;split at h
 ·rename_i u v;obtain⟨a,b,c,g⟩:=ty_sl A v;split at h;rotate_left;simp at h;rename_i K f;split at h
  ·rename_i B xs;split at h;rotate_left;simp at h;rename_i q;obtain⟨y,F,h⟩:=bind_some h;obtain⟨G,E,D⟩:=ZhP F;refine⟨_,[true], ?_,by simp,ZJ.pure (Zf rfl),h⟩;simp only[Zd,Zb j p,Zb j o,TV.enc,Zc.encE,g,Zw f,q,if_true,Zh.enc,Znt];rw[Zfu D,Zav C,Znp,decide_eq_true (⟨G,E⟩:0<=n/\n < (xs.length:Int))]
  ·rename_i id m;split at h;rotate_left;simp at h;rename_i B xs fix s;split at h;rotate_left;simp at h;rename_i q;obtain⟨l,h⟩:=Zo h;refine⟨_,[_], ?_,Zv l,ZJ.pure (Zf rfl),h⟩;simp only[Zd,Zb j p,Zb j o,TV.enc,Zc.encE,g,Zw f,Zg s,ZM,q,if_true,Zh.enc,Znt,Za5 H o s,Znh]
  ·rename_i id J len;split at h;rotate_left;simp at h;rename_i B xs fix s;split at h;rotate_left;simp at h;rename_i q;obtain⟨l,h⟩:=Zo h;refine⟨_,[_], ?_,Zv l,ZJ.pure (Zf rfl),h⟩;simp only[Zd,Zb j p,Zb j o,TV.enc,Zc.encE,g,Zw f,Zg s,ZM,q,if_true,Zh.enc,Znt]
  ·simp at h
 ·rename_i m u v;obtain⟨a,b,c,g⟩:=ty_arr A v;split at h;rotate_left;simp at h;rename_i K f;split at h
  ·rename_i cs;obtain⟨l,h⟩:=Zo h;cases hm:Nat.blt 8 m with
   |true=>
    rw[hm,cond_true]at h;split at h;rotate_left;simp at h;obtain⟨L,I,w⟩:=ZfO _ _ _ h;rw[<-I]at w;refine⟨_,[_], ?_,Zv l,ZJ.pure (Zf rfl),w⟩;simp only[Zd,Zb j p,Zb j o,TV.enc,Zc.encE,g,Zw f,Zh.enc,Znt,Znr]
   |false=>
    rw[hm,cond_false]at h;refine⟨_,[_], ?_,Zv l,ZJ.pure (Zf rfl),h⟩;simp only[Zd,Zb j p,Zb j o,TV.enc,Zc.encE,g,Zw f,Zh.enc,Znt,Znr]
  ·obtain⟨l,h⟩:=Zo h;refine⟨_,[_], ?_,Zv l,ZJ.pure (Zf rfl),h⟩;simp only[Zd,Zb j p,Zb j o,TV.enc,Zc.encE,g,Zw f,Zh.enc,Znt]
  ·simp at h
 ·simp at h
theorem Zjd (b:TOk X) (p:T.Inv) {t:Nat} {x a:Operand} (h:ZgV X T t x a k=some r):Snd X T i (.index t x a) ty k r:=by unfold ZgV at h;split at h;rotate_left;simp at h;rename_i e s k1 n m o l;split at h;rotate_left;simp at h;rename_i j;obtain⟨y,f,h⟩:=bind_some h;obtain⟨g,c,d⟩:=ZhP f;refine⟨_,[true], ?_,by simp,ZJ.pure (Zah _ _),h⟩;simp only[Zd,Zb b l,Zb b o,TV.enc,Zc.encE,Zr m,j,Zh.enc,Znt];rw[Znl,d,decide_eq_true (⟨g,c⟩:0<=n/\n < (s.length:Int))];rfl
theorem Zdi {a:Ty} (b:a.isKey=true) (x y:El U.car a):P.key (U.encE a x) (U.encE a y)=ZlP a x y:=by
 cases a<;>simp only[Ty.isKey,Zmu]at b
 ·rfl
 ·simp only[Zc.encE,P.key,P.eqv,P.eqc,if_true,Option.getD_some];rfl
 ·rfl
theorem ZcJ {a:Ty} (b:a.isKey=true) (x:El U.car a):Zn a.td (U.encE a x)=true:=by
 cases a<;>simp only[Ty.isKey,Zmu]at b
 ·rfl
 ·simp[Ty.td,Zc.encE,Zn]
 ·rfl
theorem ZhV {a b:Ty} (c:a.isKey=true) (x:El U.car a):∀d:List (El U.car a×El U.car b),(d.map fun e=>(U.encE a e.1,U.encE b e.2)).find? (fun e=>P.key (U.encE a x) e.1)=(d.find? fun e=>ZlP a x e.1).map fun e=>(U.encE a e.1,U.encE b e.2)
 | []=>rfl
 |e::r=>by
  simp only[ZmD,List.find?_cons,Zdi c];split
  ·rfl
  ·exact ZhV c x r
theorem ZhK {a b:Ty} (d:a.isKey=true) (x:El U.car a) (c:List (El U.car a×El U.car b)):Zbq (c.map fun e=>(U.encE a e.1,U.encE b e.2)) (U.encE a x)=(Zg3 c x).map (U.encE b):=by unfold Zbq Zg3;rw[ZhV d];cases c.find? fun e=>ZlP a x e.1<;>rfl
theorem Zls {a b:Ty} (c:a.isKey=true) (x:El U.car a) (y:El U.car b) (d:List (El U.car a×El U.car b)):Zi0 (d.map fun e=>(U.encE a e.1,U.encE b e.2)) (U.encE a x) (U.encE b y)=(setB d x y).map fun e=>(U.encE a e.1,U.encE b e.2):=by
 unfold Zi0 setB;simp only[List.any_map,Function.comp_def,Zdi c];split;rotate_left;simp;simp only[Zns];refine List.map_congr_left fun e _=> ?_
 simp only[Function.comp,Zdi c];split<;>rfl
theorem ZlX {a b:Ty} (d:a.isKey=true) (x:El U.car a) (c:List (El U.car a×El U.car b)):Zkd (c.map fun e=>(U.encE a e.1,U.encE b e.2)) (U.encE a x)=(delB c x).map fun e=>(U.encE a e.1,U.encE b e.2):=by
 unfold Zkd delB;rw[List.filter_map];congr 1;refine List.filter_congr fun e _=> ?_
 simp only[Function.comp,Zdi d]
theorem ZlL (g:TOk X) {t:Nat} {x:Operand} {d:TV U} (j:evT X T.slots t x=some d) {l:Lf U.car} (h:mapT T d=some l) {a b:Ty} {f:List (El U.car a×El U.car b)} (c:l.as (.map a b)=some f):
  Zfp T.enc.objs (ev X.E T.enc.slots t x)=some (a.td,f.map fun e=>(U.encE a e.1,U.encE b e.2)):=by
 rw[Zb g j];unfold mapT at h;split at h
 ·cases h;have:=ZN c;cases this;rfl
 ·split at h;rotate_left;simp at h;rename_i i;cases h;have:=ZN c;cases this;simp only[TV.enc,Zfp,Zg i,Z0]
 ·simp at h
theorem Zg5 (e:TOk X) (c:T.Inv) {t:Nat} {x:Operand} {d:TV U} (b:evT X T.slots t x=some d) {l:Lf U.car} (h:T.lf1 d=some l) {a:Ty} {key:El U.car a} (f:l.as a=some key) (m:Nat):(ev X.E T.enc.slots t x).toP T.enc.objs m=some (U.encE a key):=by rw[Zb e b,ZcI (ZE c b) h m,ZN f];rfl
theorem Zib (w:TOk X) (F:T.Inv) {t:Nat} {m q:Operand} {v:Bool} (h:Zfk X T t m q v k=some r):Snd X T i (.lookup t m q v) ty k r:=by
 unfold Zfk at h;split at h;rotate_left;simp at h;rename_i e E;split at h;rotate_left;simp at h;rename_i P J a b C _;obtain⟨L,Q,K,n⟩:=ZkX E C;split at h;rotate_left;simp at h;rename_i o N M d G I;split at h;rotate_left;simp at h;rename_i O lk H x u s;split at h;rotate_left;simp at h;rename_i B key z y f D;split at h;rotate_left;simp at h;rename_i p;have l:=w.zl J o H d s;rw[ZN D]at l;have c:U.encE b z=o.ti.zeroP:=l;have A:((X.E.keyTD t).same a.td&&Zn a.td (U.encE a key))=true:=by rw[p.2,ZcJ p.1];rfl
 have g:=ZlL w G x y;have j:=Zg5 w F I u f 1;cases v
 ·refine⟨_,[], ?_,by simp,ZJ.pure (Zah _ _),h⟩;simp only[Zd,n,Zw d,g,j,A,if_true,ZhK p.1,Zh.enc,Znt,TV.enc];cases Zg3 B key<;>simp[c]
 ·refine⟨_,[], ?_,by simp,ZJ.pure (Zf (by simp[TV.fulls,TV.fullsL])),h⟩;simp only[Zd,n,Zw d,g,j,A,if_true,ZhK p.1,Zh.enc,Znt,TV.enc,TV.encs];cases Zg3 B key<;>simp[c,Zc.encE]
theorem Zi3 (A:UOk U) (l:TOk X) (x:T.Inv) {t:Nat} {m q v:Operand} (h:Za2 X T t m q v k=some r):
  ∃e cs,ZX X.E T.enc.slots T.enc.objs t m q v=some (e.enc cs)/\(∀q∈cs,q=true)/\ZJ T i e/\k e=some r:=by
 unfold Za2 at h;split at h;rotate_left;simp at h;rename_i e F;split at h;rotate_left;simp at h;rename_i V S a b C _;obtain⟨O,W,M,p⟩:=ZkX F C;split at h;rotate_left;simp at h;rename_i I id Q R E H J w;split at h;rotate_left;simp at h;rename_i N b' B lk L K g u;split at h;rotate_left;simp at h;rename_i Y key y s d G;split at h;rotate_left;simp at h;rename_i o;have f:=ZN s;cases f;have z:((X.E.keyTD t).same a.td&&Zn a.td (U.encE a key))=true:=by rw[o.2,ZcJ o.1];rfl
 have j:=Zg5 l x J g d 1;have c:=ZeR A (ZE x w) u 7;rw[ZN G]at c;have n:ev X.E T.enc.slots 0 m= .map id:=by rw[Zb l H];rfl
 refine⟨_,[], ?_,by simp,Zb4 rfl (fun P xs fix D=>by cases D) (fun _=>by trivial),h⟩;simp only[ZX,p,n,Zg K,Z0,j,Zb l w,depth,c,z,if_true,Zc.encL,Zls o.1,Zh.enc,Znt,ZmD,TV.enc]
theorem Zic (l:TOk X) (v:T.Inv) {t u:Nat} {m q:Operand} (h:Zfl X T t u m q k=some r):∃e cs,Zd2 X.E T.enc.objs [t,u] [ev X.E T.enc.slots t m,ev X.E T.enc.slots u q]=some (e.enc cs)/\(∀q∈cs,q=true)/\ZJ T i e/\k e=some r:=by
 unfold Zfl at h;split at h;rotate_left;simp at h;rename_i e id C s w x;split at h;rotate_left;simp at h;rename_i A z a b D lk o y d;split at h;rotate_left;simp at h;rename_i key c;split at h;rotate_left;simp at h;rename_i j;have n:((X.E.keyTD t).same a.td&&Zn a.td (U.encE a key))=true:=by rw[j.2,ZcJ j.1];rfl
 have f:=Zg5 l v x d c 1;have g:ev X.E T.enc.slots t m= .map id:=by rw[Zb l w];rfl
 refine⟨_,[], ?_,by simp,Zb4 rfl (fun B xs fix p=>by cases p) (fun _=>by trivial),h⟩;simp only[Zd2,g,Zr s,o,Zg y,Z0,f,n,if_true,ZlX j.1,Zh.enc,Znt,ZmD,TV.enc]
theorem Zjc (g:TOk X) (o:T.Inv) {t:Nat} {x:Operand} (h:ZgU X T i t x k=some r):Snd X T i (.range t x) ty k r:=by
 unfold ZgU at h;split at h
 ·rename_i e s d f;split at h;rotate_left;simp at h;rename_i c;refine⟨_,[], ?_,by simp,Zdk rfl (fun _=>by trivial),h⟩;simp only[Zd,Zr d,c,Zb g f,TV.enc,Zc.encE,Zh.enc,ZmD,Znt,ZbS]
 ·rename_i e a b l d f;split at h;rotate_left;simp at h;rename_i c;refine⟨_,[], ?_,by simp,Zdk rfl (fun _=>by trivial),h⟩;simp only[Zd,Zr d,c,Zb g f,TV.enc,Zc.encE,Zh.enc,ZmD,Znt,Zbt,Option.map_none]
 ·rename_i e id d f;split at h;rotate_left;simp at h;rename_i n m a b l c j;refine⟨_,[], ?_,by simp,Zdk rfl (fun _=>by trivial),h⟩;simp only[Zd,Zr d,c,Zb g f,TV.enc,Zg j,Z0,Zh.enc,ZmD,Znt,Zbt,Option.map_none]
 ·simp at h
theorem Zkk (b:TOk X) (g:T.Inv) {x:Operand} (h:Zjs X T x k=some r):Snd X T i (.next x true) ty k r:=by
 unfold Zjs at h;split at h;rotate_left;simp at h;rename_i id d;split at h;rotate_left;simp at h;rename_i s a c
 by_cases hp:a < s.length
 ·rw[decide_eq_true hp]at h;refine⟨_,[], ?_,by simp,Zb4 (by simp[TV.fulls,TV.fullsL]) (fun f xs fix e=>by cases e) (fun _=>by trivial),h⟩;simp only[Zd,Zb b d,TV.enc,TV.encs,Zc.encE,Zg c,ZbS,if_pos hp,Zh.enc,ZmD,Znt]
 ·rw[decide_eq_false hp]at h;refine⟨_,[], ?_,by simp,ZJ.pure (Zf (by simp[TV.fulls,TV.fullsL])),h⟩;simp only[Zd,Zb b d,TV.enc,TV.encs,Zc.encE,Zg c,ZbS,if_neg hp,Zh.enc,Znt]
theorem Zjf (d:TOk X) (f:T.Inv) {x:Operand} (h:ZgX X T x k=some r):Snd X T i (.entry x) ty k r:=by unfold ZgX at h;split at h;rotate_left;simp at h;rename_i id e;split at h;rotate_left;simp at h;rename_i a b rest p q c;refine⟨_,[], ?_,by simp,ZJ.pure (Zf (by simp[TV.fulls,TV.fullsL])),h⟩;simp only[Zd,Zb d e,TV.enc,TV.encs,Zg c,Zbt,Zny,Zh.enc,Znt]
theorem ZgL (e:TOk X) (f:T.Inv) {x:Operand} {a:Nat} (h:Zdz X T x a k=some r):Snd X T i (.extract x a) ty k r:=by unfold Zdz at h;split at h;rotate_left;simp at h;rename_i vs c;split at h;rotate_left;simp at h;rename_i d b;refine⟨_,[], ?_,by simp,ZJ.pure (fun q g=>ZE f c q (Zs.2 ⟨d,List.mem_of_getElem? b,g⟩)),h⟩;simp only[Zd,Zb e c,TV.enc,ZaN,ZmB,b,Zny,Zh.enc,Znt]
theorem Zlo (p:TOk X) (s:T.Inv) {t:Nat} {x:Operand} (h:ZlA X T t x k=some r):∃e cs,Zit X.E T.enc.objs [t] [ev X.E T.enc.slots t x]=some (e.enc cs)/\(∀q∈cs,q=true)/\ZJ T i e/\k e=some r:=by
 unfold ZlA at h;split at h;rotate_left;simp at h;rename_i e d j o;have f:=Zb p o;split at h
 ·rename_i c;split at h;rotate_left;simp at h;refine⟨_,[], ?_,by simp,ZJ.pure (Zah _ _),h⟩;simp only[Zit,Zr j,c,f,TV.enc,Zc.encE,Zga,Zh.enc,Znt]
 ·rename_i u c;split at h
  ·refine⟨_,[], ?_,by simp,ZJ.pure (Zah _ _),h⟩;simp only[Zit,Zr j,c,f,TV.enc,Zc.encE,Zga,Zh.enc,Znt,Znp]
  ·refine⟨_,[], ?_,by simp,ZJ.pure (Zah _ _),h⟩;simp only[Zit,Zr j,c,f,TV.enc,Zc.encE,Zga,Zh.enc,Znt,Znp]
  ·refine⟨_,[], ?_,by simp,ZJ.pure (Zah _ _),h⟩;simp only[Zit,Zr j,c,f,TV.enc,Zc.encE,Zga,Zh.enc,Znt]
  ·split at h;rotate_left;simp at h;rename_i m;refine⟨_,[], ?_,by simp,ZJ.pure (Zah _ _),h⟩;simp only[Zit,Zr j,c,f,TV.enc,Zc.encE,Zga,Zh.enc,Znt,Za5 s o m]
  ·refine⟨_,[], ?_,by simp,ZJ.pure (Zah _ _),h⟩;simp only[Zit,Zr j,c,f,TV.enc,Zc.encE,Zga,Zh.enc,Znt]
  ·simp at h
 ·rename_i u v c;split at h;rotate_left;simp at h;rename_i a b w g;obtain⟨l,h⟩:=Zo h;refine⟨_,[_], ?_,Zv l,ZJ.pure (Zah _ _),h⟩;unfold mapT at g;split at g
  ·simp only[ZmR]at g;cases g;simp only[Zit,Zr j,c,f,TV.enc,Zc.encE,Zga,Zh.enc,Znt,Znp]
  ·split at g;rotate_left;simp at g;rename_i m;simp only[ZmR]at g;cases g;simp only[Zit,Zr j,c,f,TV.enc,Zg m,Z0,Zc.encE,Zga,Zh.enc,Znt,Znp]
  ·simp at g
 ·rename_i n u c;obtain⟨l,h⟩:=Zo h;refine⟨_,[_], ?_,Zv l,ZJ.pure (Zah _ _),h⟩;simp only[Zit,Zr j,c,Zga,Zh.enc,Znt,TV.enc,Zc.encE]
 ·simp at h
theorem Zdh (f:T.Inv) {t:Nat} {x:Operand} {d:TV U} (m:TOk X) (k:evT X T.slots t x=some d) {u:Ty} {c:List (El U.car u)} (h:Zmc T d u=some c):Zcz T.enc.objs (U.tsize u) d.enc=some (c.map (U.encE u)):=by
 unfold Zmc at h;split at h
 ·split at h;rotate_left;simp at h;cases h;simp only[Zcz,TV.enc,Zc.encE,Zc.tsize,if_true,ZaF,Zns];rfl
 ·rename_i i;split at h;rotate_left;simp at h;rename_i l e;split at h;rotate_left;simp at h;rename_i j b;cases h;have a:=ZcI (ZE f k) e 1;rw[ZN b]at a;unfold Zcz;split
  ·rename_i s g;rw[g]at a;simp only[Zi7,ZmR,Zc.encL,Zc.encE,reduceCtorEq]at a
  ·simp only[a,Zc.encL,Zc.encE,if_true]
theorem ZaW {b:Type} (xs a:List b):List.append xs a=xs++a:=rfl
theorem Zhx (A:TOk X) (v:T.Inv) {t:Nat} {s:Operand} {e:TT U} {d:TV U} (z:evT X T.slots t s=some d) (b:U.tsize e.ty=e.ti.size) {g:List (El U.car e.ty)} (h:appX T i e d g k=some r):
  ∃m cs,Z6 T.enc.objs T.ep i e.ti d.enc (g.map (U.encE e.ty))=some (m.enc cs)/\(∀q∈cs,q=true)/\ZJ T i m/\k m=some r:=by
 unfold appX at h;split at h
 ·obtain⟨f,h⟩:=Zo h;refine⟨_,[_], ?_,Zv f,Za8 rfl (by simp),h⟩;simp only[Z6,TV.enc,Znp,Zh.enc,ZmD,Znt,ZM,b,ZiZ]
 ·split at h;rotate_left;simp at h;rename_i xs a;obtain⟨c,h⟩:=Zo h;obtain⟨l,h⟩:=Zo h;have:=ZN a;cases this;refine⟨_,[true], ?_,by simp,Za8 (by rw[ZaW,Zno]) (by simp),h⟩;have x:List.isEmpty g=false:=by simpa using c
  have w:(Znn xs+g.length)*max e.ti.bytes 1<=ZO:=by simpa[ZiZ]using l
  simp only[Z6,TV.enc,b,if_true,Znp,Zh.enc,ZmD,Znt,ZM,ZaW,Znq,List.isEmpty_map];rw[decide_eq_true ⟨x,w⟩]
 ·rename_i id n;split at h;rotate_left;simp at h;rename_i y o j;split at h;rotate_left;simp at h;rename_i xs a;obtain⟨f,h⟩:=Zo h;have:=ZN a;cases this;refine⟨_,[_], ?_,Zv f,Za8 (by rw[ZaW,Zno]) (by simp),h⟩;have u:n=Znn xs:=Za5 v z j;simp only[Z6,TV.enc,Zg j,ZM,b,if_true,Znp,Zh.enc,ZmD,Znt,Za7,ZaW,Znq,u,ZiZ,Zhv]
 ·rename_i id len;split at h;rotate_left;simp at h;rename_i y o j;split at h;rotate_left;simp at h;rename_i xs a;obtain⟨c,h⟩:=Zo h;obtain⟨f,h⟩:=Zo h;have:=ZN a;cases this;have p:len<=Znn xs:=by simpa using c
  refine⟨_,[_], ?_,Zv f,Za8 (by rw[ZaW,Zno,List.length_take,Nat.min_eq_left p]) (by simp),h⟩;simp only[Z6,TV.enc,Zg j,ZM,b,if_true,Znp,Zh.enc,ZmD,Znt,Za7,ZaW,Znq,ZiZ,Znu]
 ·simp at h
theorem Zie (c:TOk X) (w:T.Inv) {t u:Nat} {s x:Operand} (h:Zfn X T i t u s x k=some r):
  ∃e cs,Zb6 X.E T.ep i T.enc.objs [t,u] [ev X.E T.enc.slots t s,ev X.E T.enc.slots u x]=some (e.enc cs)/\(∀q∈cs,q=true)/\ZJ T i e/\k e=some r:=by
 unfold Zfn at h;split at h;rotate_left;simp at h;rename_i e K d D f l p g;split at h;rotate_left;simp at h;rename_i j;split at h
 ·rename_i C;split at h;rotate_left;simp at h;rename_i L y;have b:=Zdh w c g y;rw[j]at b;have o:Zb6 X.E T.ep i T.enc.objs [t,u] [ev X.E T.enc.slots t s,ev X.E T.enc.slots u x]=ZaH T.enc.objs T.ep i e.ti d.enc D.enc:=by unfold Zb6;simp only[ZaE f,Zr l,Zb c p,Zb c g];revert C;cases K.ti.d<;>simp[Zki]
  rw[o,ZaH,b];exact Zhx c w p j h
 ·split at h;rotate_left;simp at h;rename_i k0 a z I E;split at h;rotate_left;simp at h;rename_i J A;obtain⟨H,h⟩:=Zo h;have m:∃v,X.get v=some e:=by unfold ZG.elem at f;split at f;rotate_left;simp at f;split at f;rotate_left;simp at f;exact⟨_,f⟩
  obtain⟨v,F⟩:=m;have n:=c.zl v e z F E;rw[ZN A]at n;obtain⟨B,cs,q1,G⟩:=Zhx c w p j h;refine⟨B,cs, ?_,G⟩;rw[List.map_replicate,show U.encE e.ty J=e.ti.zeroP from n]at q1;unfold Zb6;simp only[ZaE f,Zr l,Zb c p,Zb c g,I,TV.enc,Zc.encE,if_pos (of_decide_eq_true H)];exact q1
theorem Zkn (g:TOk X) (x:T.Inv) {t u:Nat} {d s:Operand} (h:Zjv X T t u d s k=some r):
  ∃e cs,ZiK X.E T.enc.objs [t,u] [ev X.E T.enc.slots t d,ev X.E T.enc.slots u s]=some (e.enc cs)/\(∀q∈cs,q=true)/\ZJ T i e/\k e=some r:=by
 unfold Zjv at h;split at h;rotate_left;simp at h;rename_i e I H A p o;split at h
 ·rename_i id n;split at h;rotate_left;simp at h;rename_i z xs fix j;split at h;rotate_left;simp at h;rename_i b f;have a:=Zdh x g o f;split at h;rotate_left;simp at h;rename_i c;have C:n=Znn xs:=Za5 x p j;refine⟨_,[], ?_,by simp,Zb4 (by simp[TV.fulls]) (fun D w l v=> ?_) (fun _=>by trivial),h⟩
  ·simp only[ZiK,ZaE A,Zb g p,Zb g o,TV.enc,ZfC,Zg j,ZM,a,c.symm,if_true,Zh.enc,ZmD,Znt,C,Znp,Zc.encE,ZP];congr 4;simp only[List.take_zero,List.nil_append,List.length_take,Znp,Znh,Znq,Znu,Znr];have G:List.take (min b.length xs.length) (List.map (U.encE z) b)=List.take xs.length (List.map (U.encE z) b):=by rw[List.take_eq_take_iff];simp[Nat.min_comm]
   have B:min (min b.length xs.length) b.length=min b.length xs.length:=by omega
   rw[G,B];congr 1;rcases Nat.le_total b.length xs.length with m |m
   ·rw[Nat.min_eq_left m]
   ·rw[Nat.min_eq_right m,List.drop_eq_nil_of_le (by simp),List.drop_eq_nil_of_le (by simpa using m)]
  ·cases v;refine⟨_,_,_,j, ?_⟩;simp only[Zno,List.length_take,List.length_drop];omega
 ·rename_i id y len;split at h;rotate_left;simp at h;rename_i z xs fix j;split at h;rotate_left;simp at h;rename_i b f;have a:=Zdh x g o f;split at h;rotate_left;simp at h;rename_i c;obtain⟨F,h⟩:=Zo h;have E:y+len<=Znn xs:=by simpa using F
  refine⟨_,[], ?_,by simp,Zb4 (by simp[TV.fulls]) (fun D w l v=> ?_) (fun _=>by trivial),h⟩
  ·simp only[ZiK,ZaE A,Zb g p,Zb g o,TV.enc,ZfC,Zg j,ZM,a,c.symm,if_true,Zh.enc,ZmD,Znt,Znp,Zc.encE,ZcA,Znu]
  ·cases v;refine⟨_,_,_,j, ?_⟩;simp only[ZP,Zno,List.length_take,List.length_drop];omega
 ·simp at h
theorem ZbI (b:TOk X):∀{xs:List Operand} {ts:List Nat} {a:List (TV U)},Zdc X T.slots xs ts=some a->ZT X.E T.enc.slots xs ts=TV.encs a
 | [],ts,a,h=>by cases ts<;>simp[Zdc]at h<;>subst h<;>rfl
 |x::xs,[],a,h=>by simp only[Zdc]at h;split at h;rotate_left;simp at h;rename_i d r c e;cases h;simp only[ZT,TV.encs,Zb b c,ZbI b e]
 |x::xs,t::ts,a,h=>by simp only[Zdc]at h;split at h;rotate_left;simp at h;rename_i d r c e;cases h;simp only[ZT,TV.encs,Zb b c,ZbI b e]
theorem Zd8 (e:T.Inv):∀{xs:List Operand} {ts:List Nat} {c:List (TV U)},Zdc X T.slots xs ts=some c->∀d∈c,d.inv T.objs
 | [],ts,c,h=>by cases ts<;>simp[Zdc]at h<;>subst h<;>simp
 |x::xs,[],c,h=>by
  simp only[Zdc]at h;split at h;rotate_left;simp at h;rename_i d r f g;cases h;intro a b;rcases ZmF.1 b with rfl |b
  ·exact ZE e f
  ·exact Zd8 e g a b
 |x::xs,t::ts,c,h=>by
  simp only[Zdc]at h;split at h;rotate_left;simp at h;rename_i d r f g;cases h;intro a b;rcases ZmF.1 b with rfl |b
  ·exact ZE e f
  ·exact Zd8 e g a b
theorem ZkY (f:TOk X) (l:T.Inv) {mx:Bool} {args:List Operand} {a:List Nat} (h:opMM X T mx args a k=some r):
  ∃e cs,ZI X.E T.ep i T.enc.objs (if mx then .max else .min) a (ZT X.E T.enc.slots args a)=some (e.enc cs)/\(∀q∈cs,q=true)/\ZJ T i e/\k e=some r:=by
 unfold opMM at h;split at h;rotate_left;simp at h;rename_i m b;split at h;rotate_left;simp at h;rename_i z c;split at h;rotate_left;simp at h;rename_i d j;obtain⟨q1,g⟩:=Zcl j;refine⟨_,[], ?_,by simp,ZJ.pure (Zf g),h⟩;cases mx<;>simp only[Zmu,if_false,if_true]at c<;>simp only[Zmu,if_false,if_true,ZI,ZbI f b,c,Zh.enc,q1,Znt]
theorem snd (d:UOk U) (a:TOk X) (c:T.Inv) {g:Op} (h:ZlZ X T i g ty k=some r):Snd X T i g ty k r:=by
 unfold ZlZ at h;split at h
 ·exact Zkl a c h
 ·exact Zid a c h
 ·exact Zkj a c h
 ·exact Zjh a c h
 ·exact Zlp d a c h
 ·exact Zjg d a c h
 ·exact Zel d a c h
 ·exact Zkm d a c h
 ·exact Zja d a c h
 ·exact ZfQ a c h
 ·exact Zlq d a c h
 ·exact snd_un a c h
 ·exact ZgM a c h
 ·exact ZfR a c h
 ·exact ZgK a c h
 ·exact Zfd a c h
 ·exact Zjb a c h
 ·exact Zff a c h
 ·exact Zje d a c h
 ·exact Zfe d a c h
 ·exact Zjd a c h
 ·exact Zib a c h
 ·exact Zi3 d a c h
 ·exact Zi3 d a c h
 ·exact Zjc a c h
 ·exact Zkk a c h
 ·exact Zjf a c h
 ·exact ZgL a c h
 ·rename_i b args j;unfold Snd Zd;split at h
  ·rename_i x t e f;simp only[e,f,ZI,ZT];exact Zlo a c h
  ·rename_i s x t u e f;simp only[e,f,ZI,ZT];exact Zie a c h
  ·rename_i s x t u e f;simp only[e,f,ZI,ZT];exact Zkn a c h
  ·exact ZkY (mx:=true) a c h
  ·exact ZkY (mx:=false) a c h
  ·rename_i s x t u e f;simp only[e,f,ZI,ZT];exact Zic a c h
  ·simp at h
 ·simp at h
end
end Eng
namespace Eng
open Go
section
variable {U:Zc}
def Zlw (T:TS U) (d:TV U):Option (TV U):=
 if (d.enc.ids T.enc.objs depth).all T.fz then match d with
  | .ptr id i j=>match T.objs id with
   |some (.box cs)=>if i=0 then match Zm T.lf1 (cs.drop j)with
    |some a=>some (.pp a)
    |none=>none
    else none
   |_=>none
  |d=>match T.lf1 d with
   |some l=>some (lv l)
   |none=>none
 else none
def TV.can (T:TS U) (pi:List (Id×Id)):Nat->TV U->Option (TV U)
 |_,.v t x=>some (.v t x)
 |_,.pp cs=>some (.pp cs)
 |_,.nilp=>some .nilp
 |_,.nilfn=>some .nilfn
 |_,.dead=>some .dead
 |_,.undef=>some .undef
 |_,.nils t=>some (.nils t)
 |_,.clip t xs=>some (.clip t xs)
 |_,.full id n=>match ren pi id with
  |some c=>some (.full c n)
  |none=>Zlw T (.full id n)
 |_,.sl id off len=>match ren pi id with
  |some c=>some (.sl c off len)
  |none=>Zlw T (.sl id off len)
 |_,.map id=>match ren pi id with
  |some c=>some (.map c)
  |none=>Zlw T (.map id)
 |_,.it id=>match ren pi id with
  |some c=>some (.it c)
  |none=>none
 |_,.ptr id i j=>match ren pi id with
  |some c=>some (.ptr c i j)
  |none=>Zlw T (.ptr id i j)
 |n+1,.agg cs=>match Zm (TV.can T pi n) cs with
  |some d=>some (.agg d)
  |none=>none
 |n+1,.tup cs=>match Zm (TV.can T pi n) cs with
  |some d=>some (.tup d)
  |none=>none
 |n+1,.fn f a b=>match Zm (TV.can T pi n) a,Zm (TV.can T pi n) b with
  |some a',some b'=>some (.fn f a' b')
  |_,_=>none
 |_,_=>none
def TO.can (T:TS U) (pi:List (Id×Id)):TO U->Option (TO U)
 | .box cs=>match Zm (TV.can T pi depth) cs with
  |some a=>some (.box a)
  |none=>none
 | .gone=>none
 |o=>some o
theorem Zku (o:UOk U) {T:TS U} {d b:TV U} (hi:d.inv T.objs) (g:∀id cs,T.objs id=some (.box cs)->∀c∈cs,c.inv T.objs) (h:Zlw T d=some b):D.pur T.enc.objs T.enc.fz d.enc=some b.enc/\b.fulls=[]:=by
 unfold Zlw at h;unfold D.pur;split at h;rotate_left;simp at h;rename_i m;rw[if_pos (show ((d.enc.ids T.enc.objs depth).all T.enc.fz)=true from m)];split at h
 ·rename_i id i' j;split at h;rotate_left;simp at h;rename_i cs e;split at h;rotate_left;simp at h;rename_i f;subst f;split at h;rotate_left;simp at h;rename_i n a;cases h;have:=Zcg 7 (fun c k=>g id cs e c (Znw k)) a;rw[Zbs]at this;simp only[TV.enc,depth,D.toP,Zg e,ZaO,if_true,this,Zny];exact⟨trivial,rfl⟩
 ·split at h;rotate_left;simp at h;rename_i l i;cases h;rw[ZcI hi i depth];exact⟨rfl,rfl⟩
theorem Zhi (lk:Id->Option Obj) (a:Id->Bool) (pi:List (Id×Id)) (n:Nat) (x:P):D.can lk a pi n (.p x)=some (.p x):=by cases n<;>rfl
theorem ZhZ (N:UOk U) {T:TS U} (Q:∀id cs,T.objs id=some (.box cs)->∀c∈cs,c.inv T.objs) {pi:List (Id×Id)}:∀(n:Nat) (d i:TV U),d.inv T.objs->d.can T pi n=some i->
  d.enc.can T.enc.objs T.enc.fz pi n=some i.enc/\∀q∈i.fulls,∃id,ren pi id=some q.1/\(id,q.2)∈d.fulls:=by
 have l:∀(d i:TV U),d.inv T.objs->Zlw T d=some i->D.pur T.enc.objs T.enc.fz d.enc=some i.enc/\∀q∈i.fulls,∃id,ren pi id=some q.1/\(id,q.2)∈d.fulls:=fun d i hi h=>by obtain⟨G,E⟩:=Zku N hi Q h;exact⟨G,by rw[E];simp⟩
 have base:∀(n:Nat) (d i:TV U),(∀cs,d≠ .agg cs)->(∀cs,d≠ .tup cs)->(∀f a b,d≠ .fn f a b)->d.inv T.objs->d.can T pi n=some i->
   d.enc.can T.enc.objs T.enc.fz pi n=some i.enc/\∀q∈i.fulls,∃id,ren pi id=some q.1/\(id,q.2)∈d.fulls:=by
  intro n d i G E S hi h;cases d with
  |v t x=>simp only[TV.can,ZmR]at h;subst h;exact⟨Zhi _ _ _ _ _,by simp[TV.fulls]⟩
  |pp cs=>simp only[TV.can,ZmR]at h;subst h;exact⟨Zhi _ _ _ _ _,by simp[TV.fulls]⟩
  |nilp=>simp only[TV.can,ZmR]at h;subst h;exact⟨Zhi _ _ _ _ _,by simp[TV.fulls]⟩
  |nilfn=>simp only[TV.can,ZmR]at h;subst h;exact⟨Zhi _ _ _ _ _,by simp[TV.fulls]⟩
  |dead=>simp only[TV.can,ZmR]at h;subst h;exact⟨by cases n<;>rfl,by simp[TV.fulls]⟩
  |undef=>simp only[TV.can,ZmR]at h;subst h;exact⟨by cases n<;>rfl,by simp[TV.fulls]⟩
  |nils t=>simp only[TV.can,ZmR]at h;subst h;exact⟨by cases n<;>rfl,by simp[TV.fulls]⟩
  |clip t xs=>simp only[TV.can,ZmR]at h;subst h;exact⟨by cases n<;>rfl,by simp[TV.fulls]⟩
  |full id m=>
   simp only[TV.can]at h;split at h
   ·rename_i p g;cases h;refine⟨by cases n<;>simp only[TV.enc,D.can,g],fun q e=> ?_⟩;simp only[TV.fulls,ZmI]at e;subst e;exact⟨id,g,by simp[TV.fulls]⟩
   ·rename_i g;obtain⟨q1,k⟩:=l _ _ hi h;exact⟨by cases n<;>simp only[TV.enc,D.can,g]<;>exact q1,k⟩
  |sl id R len=>
   simp only[TV.can]at h;split at h
   ·rename_i p g;cases h;exact⟨by cases n<;>simp only[TV.enc,D.can,g],by simp[TV.fulls]⟩
   ·rename_i g;obtain⟨q1,k⟩:=l _ _ hi h;exact⟨by cases n<;>simp only[TV.enc,D.can,g]<;>exact q1,k⟩
  |map id=>
   simp only[TV.can]at h;split at h
   ·rename_i p g;cases h;exact⟨by cases n<;>simp only[TV.enc,D.can,g],by simp[TV.fulls]⟩
   ·rename_i g;obtain⟨q1,k⟩:=l _ _ hi h;exact⟨by cases n<;>simp only[TV.enc,D.can,g]<;>exact q1,k⟩
  |it id=>
   simp only[TV.can]at h;split at h;rotate_left;simp at h;rename_i p g;cases h;exact⟨by cases n<;>simp only[TV.enc,D.can,g],by simp[TV.fulls]⟩
  |ptr id a j=>
   simp only[TV.can]at h;split at h
   ·rename_i p g;cases h;exact⟨by cases n<;>simp only[TV.enc,D.can,g],by simp[TV.fulls]⟩
   ·rename_i g;obtain⟨q1,k⟩:=l _ _ hi h;exact⟨by cases n<;>simp only[TV.enc,D.can,g]<;>exact q1,k⟩
  |agg cs=>exact absurd rfl (G cs)
  |tup cs=>exact absurd rfl (E cs)
  |fn f a b=>exact absurd rfl (S f a b)
 intro n
 induction n with
 |zero=>
  intro d i hi h;refine base 0 d i ?_ ?_ ?_ hi h
  all_goals (intros;intro z;subst z;simp[TV.can]at h)
 |succ n F=>
  have s:∀(cs o:List (TV U)),(∀c∈cs,c.inv T.objs)->Zm (TV.can T pi n) cs=some o->Zm (D.can T.enc.objs T.enc.fz pi n) (TV.encs cs)=some (TV.encs o)/\∀q∈TV.fullsL o,∃id,ren pi id=some q.1/\(id,q.2)∈TV.fullsL cs:=by
   intro cs
   induction cs with
   |nil=>intro o _ h;simp[Zm]at h;subst h;exact⟨rfl,by simp[TV.fullsL]⟩
   |cons c cs K=>
    intro o hi h;simp only[Zm]at h;split at h;rotate_left;simp at h;rename_i y V G E;cases h;obtain⟨q1,k⟩:=F c y (hi c (by simp)) G;obtain⟨C,L⟩:=K V (fun a J=>hi a (by simp[J])) E;refine⟨by simp only[TV.encs,Zm,q1,C],fun q e=> ?_⟩;simp only[TV.fullsL,ZmE]at e|-
    rcases e with e |e
    ·obtain⟨id,w,A⟩:=k q e;exact⟨id,w,.inl A⟩
    ·obtain⟨id,w,A⟩:=L q e;exact⟨id,w,.inr A⟩
  intro d i hi h;cases d with
  |agg cs=>
   simp only[TV.can]at h;split at h;rotate_left;simp at h;rename_i o B;cases h;obtain⟨q1,k⟩:=s cs o (Zho hi) B;refine⟨?_,k⟩;rw[TV.enc,TV.enc];rcases ZdD (TV.encs cs)with ⟨u,M,H⟩ |H
   ·rw[H,Zhi];rw[M]at q1;have:Zm (D.can T.enc.objs T.enc.fz pi n) (u.map .p)=some (u.map .p):=by
     clear q1 M H
     induction u with
     |nil=>rfl
     |cons x r F=>simp only[ZmD,Zm,Zhi,F]
    rw[this,ZmR]at q1;rw[<-q1,Zcd]
   ·rw[H];simp only[D.can,q1]
  |tup cs=>
   simp only[TV.can]at h;split at h;rotate_left;simp at h;rename_i o B;cases h;obtain⟨q1,k⟩:=s cs o (fun c z q e=>hi q (Zs.2 ⟨c,z,e⟩)) B;exact⟨by simp only[TV.enc,D.can,q1],k⟩
  |fn f a b=>
   simp only[TV.can]at h;split at h;rotate_left;simp at h;rename_i O b' J I;cases h;obtain⟨q1,k⟩:=s a O (fun c z q e=>hi q (by simp only[TV.fulls,ZmE];exact .inl (Zs.2 ⟨c,z,e⟩))) J;obtain⟨C,L⟩:=s b b' (fun c z q e=>hi q (by simp only[TV.fulls,ZmE];exact .inr (Zs.2 ⟨c,z,e⟩))) I;refine⟨?_,fun q e=> ?_⟩
   ·rw[TV.enc,TV.enc];unfold fnD;cases hpa:Zm D.pure? (TV.encs a)with
    |none=>simp only[D.can,q1,C];rfl
    |some x=>
     cases hpb:Zm D.pure? (TV.encs b)with
     |none=>simp only[D.can,q1,C];rfl
     |some y=>
      have key:∀(u:List P),Zm (D.can T.enc.objs T.enc.fz pi n) (u.map .p)=some (u.map .p):=by
       intro u
       induction u with
       |nil=>rfl
       |cons x r F=>simp only[ZmD,Zm,Zhi,F]
      rw[Zu hpa,key,ZmR]at q1;rw[Zu hpb,key,ZmR]at C;rw[<-q1,<-C,Zas,Zas];rfl
   ·simp only[TV.fulls,ZmE]at e|-
    rcases e with e |e
    ·obtain⟨id,w,A⟩:=k q e;exact⟨id,w,.inl A⟩
    ·obtain⟨id,w,A⟩:=L q e;exact⟨id,w,.inr A⟩
  |_=>exact base (n+1) _ _ (by simp) (by simp) (by simp) hi h
def mkT (ep:Nat) (a:List (Nat×TV U)) (lo:List (Id×TO U)):TS U:={slots:=Zal .dead a,objs:=Ze lo,fz:=fun _=>false,ep:=ep}
theorem Zcp:∀(ks:List Nat) (a:List (TV U)) (x:Nat),(Zal TV.dead (ks.zip a) x).enc=Zal D.dead (ks.zip (TV.encs a)) x
 | [],a,x=>rfl
 |k::ks,[],x=>rfl
 |k::ks,d::a,x=>by
  simp only[Znx,TV.encs,Zal];split
  ·rfl
  ·exact Zcp ks a x
theorem ZbV:∀(a:List Id) (os:List (TO U)) (x:Id),Zik (Ze (a.zip os) x)=Ze (a.zip (os.map TO.enc)) x
 | [],os,x=>rfl
 |k::ks,[],x=>rfl
 |k::ks,d::ds,x=>by
  simp only[Znx,ZmD,Ze];split
  ·rfl
  ·exact ZbV ks ds x
theorem ZlH (ep:Nat) (ks:List Nat) (b:List (TV U)) (a:List Id) (os:List (TO U)):(mkT ep (ks.zip b) (a.zip os)).enc=mkS ep (ks.zip (TV.encs b)) (a.zip (os.map TO.enc)):=by
 refine ZfP ?_ ?_ rfl rfl
 ·funext x;exact Zcp ks b x
 ·funext x;exact ZbV a os x
mutual
def TV.own (T:TS U):TV U->List Id
 | .full id _ | .sl id _ _ | .map id | .it id | .ptr id _ _=>if T.fz id then []else [id]
 | .agg cs=>TV.ownL T cs
 | .tup cs=>TV.ownL T cs
 | .fn _ a b=>TV.ownL T a++TV.ownL T b
 |_=>[]
def TV.ownL (T:TS U):List (TV U)->List Id
 | []=>[]
 |d::r=>d.own T++TV.ownL T r
end
def ZcQ (T:TS U):Nat->List Id->List Id->List Id
 |0,_,acc=>acc
 |_+1,[],acc=>acc
 |n+1,id::r,acc=>if acc.contains id then ZcQ T n r acc else match T.objs id with
  |some (.box cs)=>ZcQ T n (r++TV.ownL T cs) (acc++[id])
  |some _=>ZcQ T n r (acc++[id])
  |none=>ZcQ T n r acc
def Zky (a:List Nat):Nat->List Id->List (Id×Id)
 |_,[]=>[]
 |c,id::r=>if id.1=0/\id.2.2=0/\a.contains id.2.1=true then (id,id)::Zky a c r else ((0,c,1),id)::Zky a (c+1) r
def Zf6 (a:List Nat) (n:Nat):List Id:=a.map (fun k=>(0,k,0))++(List.range' 1 (n - a.length)).map fun c=>(0,c,1)
def Zk6:Option (TO U)->Bool
 |some .gone=>false
 |some _=>true
 |none=>false
def Zk8 (T:TS U) (s:Nat):List Id:=
 match s / 100000 with
 |0=>(T.slots s).enc.ids T.enc.objs depth
 |_=>((T.slots (s % 100000)).enc.ids T.enc.objs depth).tail
def ZjX (T:TS U) (a live frz:List Nat):Option (List (TV U)×List (TO U)):=
 let fs:=frz.flatMap (Zk8 T)
 let T1:=T.freezeL fs
 let pi:=Zky a 1 (ZcQ T1 200 (a.map (fun k=>(0,k,0))++TV.ownL T1 (live.map T1.slots)) [])
 if (fs.all fun id=>Zk6 (T.objs id))&&Zf0 T1.enc pi 1&&Zk3 pi then
  match Zm (fun t=>(T1.slots t).can T1 pi depth) live,Zm (fun x:Id×Id=>match T1.objs x.2 with |some o=>o.can T1 pi |none=>none) pi with
  |some ds,some os=>if pi.map (·.1)=Zf6 a os.length then some (ds,os)else none
  |_,_=>none
 else none
def mkC (a live:List Nat) (b:List (TV U)) (os:List (TO U)):TS U:=mkT 1 (live.zip b) ((Zf6 a os.length).zip os)
theorem Zjm {pi:List (Id×Id)} (g:Zam (pi.map (·.1))=true) {os:List (TO U)} {c e:Id} (h:ren pi e=some c) {j:Nat} (d:pi[j]? =some (c,e)):Ze ((pi.map (·.1)).zip os) c=os[j]? :=by
 clear h
 induction pi generalizing os j with
 |nil=>simp at d
 |cons x r i=>
  obtain⟨a,b⟩:=x;simp only[ZmD,Zam,Zmt,ZmX,decide_eq_true_eq]at g;cases os with
  |nil=>simp[Ze]
  |cons o os=>
   simp only[ZmD,Znx,Ze];cases j with
   |zero=>simp only[Zm6,ZmR,ZmS]at d;simp[d.1]
   |succ j=>
    simp only[List.getElem?_cons_succ]at d|-
    have f:c≠a:=fun k=>by have:=g.1 c (Znc.2 ⟨_,List.mem_of_getElem? d,rfl⟩);exact this k
    rw[if_neg f];exact i g.2 d
theorem Zg7 {T:TS U} (h:T.Inv) (fs:List Id):(T.freezeL fs).Inv:=⟨h.slots,h.objs⟩
theorem ZiM (hU:UOk U) {C:Ctx} {r:Fm} {G:Zj8} {k:List Item} {T:TS U} (hT:T.Inv) {lent live frz:List Nat} {ds:List (TV U)} {os:List (TO U)} (h:ZjX T lent live frz=some (ds,os)):
  (mkC lent live ds os).Inv/\(AWP C r G k (mkC lent live ds os).enc->AWP C r G k T.enc):=by
 unfold ZjX at h;dsimp only at h;generalize hfs:frz.flatMap (Zk8 T)=fs at h;generalize hpi:Zky lent 1 (ZcQ (T.freezeL fs) 200 (lent.map (fun k=>(0,k,0))++TV.ownL (T.freezeL fs) (live.map (T.freezeL fs).slots)) [])=pi at h;split at h;rotate_left;simp at h;rename_i hc;simp only[Zmt,ZmX]at hc;obtain⟨⟨hhere,hok⟩,hkeep⟩:=hc;split at h;rotate_left;simp at h;rename_i ds' os' hds hos;split at h;rotate_left;simp at h;rename_i hids;simp only[ZmR,ZmS]at h;obtain⟨rfl,rfl⟩:=h;have hT1:=Zg7 hT fs;have hb:∀id cs,(T.freezeL fs).objs id=some (.box cs)->∀c∈cs,c.inv (T.freezeL fs).objs:=fun id cs ho=>hT1.objs id _ ho
 have hn1:Zam (pi.map (·.1))=true:=by simp only[Zf0,Zmt]at hok;exact hok.1.1
 have pdsL:Zm (fun t=>((T.freezeL fs).enc.slots t).can (T.freezeL fs).enc.objs (T.freezeL fs).enc.fz pi depth) live=some (TV.encs ds')/\∀d∈ds',∃t∈live,∀q∈d.fulls,∃id,ren pi id=some q.1/\(id,q.2)∈((T.freezeL fs).slots t).fulls:=by
  clear hpi hids
  induction live generalizing ds' with
  |nil=>simp[Zm]at hds;subst hds;exact⟨rfl,by simp⟩
  |cons t live ih=>
   simp only[Zm]at hds;split at hds;rotate_left;simp at hds;rename_i y ys h1 h2;cases hds;obtain⟨q1,q2⟩:=ZhZ hU hb depth _ _ (hT1.slots t) h1;obtain⟨q3,q4⟩:=ih ys h2;refine⟨by simp only[Zm,TV.encs,q3];rw[show ((T.freezeL fs).enc.slots t)=((T.freezeL fs).slots t).enc from rfl,q1],fun d hd=> ?_⟩;rcases ZmF.1 hd with rfl |hd
   ·exact⟨t,by simp,q2⟩
   ·obtain⟨t',ht',hq⟩:=q4 d hd;exact⟨t',by simp[ht'],hq⟩
 have objC:∀(l:List (Id×Id)) (ol:List (TO U)),Zm (fun x:Id×Id=>match (T.freezeL fs).objs x.2 with |some o=>o.can (T.freezeL fs) pi |none=>none) l=some ol->
   Zm (fun x:Id×Id=>match (T.freezeL fs).enc.objs x.2 with |some o=>o.can (T.freezeL fs).enc.objs (T.freezeL fs).enc.fz pi |none=>none) l=some (ol.map TO.enc)/\
   ∀(j:Nat) (x:Id×Id) (o:TO U),l[j]? =some x->ol[j]? =some o->∃o0,(T.freezeL fs).objs x.2=some o0/\(∀t xs fix,o= .arr t xs fix->o0=o)/\∀cs,o= .box cs->∃cs0,o0= .box cs0/\∀d∈cs,∃d0∈cs0,∀q∈d.fulls,∃id,ren pi id=some q.1/\(id,q.2)∈d0.fulls:=by
  intro l
  induction l with
  |nil=>intro ol h;simp[Zm]at h;subst h;exact⟨rfl,by simp⟩
  |cons x l ih=>
   intro ol h;simp only[Zm]at h;split at h;rotate_left;simp at h;rename_i o ol' h1 h2;cases h;obtain⟨q3,q4⟩:=ih ol' h2;split at h1;rotate_left;simp at h1;rename_i o0 ho;have he:(T.freezeL fs).enc.objs x.2=some o0.enc:=Zg ho;have main:o0.enc.can (T.freezeL fs).enc.objs (T.freezeL fs).enc.fz pi=some o.enc/\((∀t xs fix,o= .arr t xs fix->o0=o)/\∀cs,o= .box cs->∃cs0,o0= .box cs0/\∀d∈cs,∃d0∈cs0,∀q∈d.fulls,∃id,ren pi id=some q.1/\(id,q.2)∈d0.fulls):=by
    cases o0 with
    |box cs0=>
     simp only[TO.can]at h1;split at h1;rotate_left;simp at h1;rename_i cs1 hcs;cases h1;have lst:∀(c0 c1:List (TV U)),(∀c∈c0,c.inv (T.freezeL fs).objs)->Zm (TV.can (T.freezeL fs) pi depth) c0=some c1->Zm (D.can (T.freezeL fs).enc.objs (T.freezeL fs).enc.fz pi depth) (TV.encs c0)=some (TV.encs c1)/\∀d∈c1,∃d0∈c0,∀q∈d.fulls,∃id,ren pi id=some q.1/\(id,q.2)∈d0.fulls:=by
      intro c0
      induction c0 with
      |nil=>intro c1 _ h;simp[Zm]at h;subst h;exact⟨rfl,by simp⟩
      |cons c c0 ihc=>
       intro c1 hi h;simp only[Zm]at h;split at h;rotate_left;simp at h;rename_i y ys h1 h2;cases h;obtain⟨a1,a2⟩:=ZhZ hU hb depth c y (hi c (by simp)) h1;obtain⟨a3,a4⟩:=ihc ys (fun a ha=>hi a (by simp[ha])) h2;refine⟨by simp only[TV.encs,Zm,a1,a3],fun d hd=> ?_⟩;rcases ZmF.1 hd with rfl |hd
       ·exact⟨c,by simp,a2⟩
       ·obtain⟨d0,hd0,hq⟩:=a4 d hd;exact⟨d0,by simp[hd0],hq⟩
     obtain⟨a1,a2⟩:=lst cs0 cs1 (hb x.2 cs0 ho) hcs;refine⟨by simp only[ZaO,Obj.can,a1],(fun t xs fix hq=>by cases hq),fun cs hq=> ?_⟩;cases hq;exact⟨cs0,rfl,a2⟩
    |gone=>simp[TO.can]at h1
    |arr t xs fix=>simp only[TO.can,ZmR]at h1;subst h1;exact⟨rfl,fun _ _ _ _=>rfl,fun cs hq=>by cases hq⟩
    |map a b kv=>simp only[TO.can,ZmR]at h1;subst h1;exact⟨rfl,fun _ _ _ _=>rfl,fun cs hq=>by cases hq⟩
    |sit s p=>simp only[TO.can,ZmR]at h1;subst h1;exact⟨rfl,fun _ _ _ _=>rfl,fun cs hq=>by cases hq⟩
    |mit a b r c=>simp only[TO.can,ZmR]at h1;subst h1;exact⟨rfl,fun _ _ _ _=>rfl,fun cs hq=>by cases hq⟩
   refine⟨by simp only[Zm,he,main.1,q3,ZmD],fun j y o' hj hj'=> ?_⟩;cases j with
   |zero=>
    simp only[Zm6,ZmR]at hj hj';subst hj hj';exact⟨o0,ho,main.2⟩
   |succ j=>exact q4 j y o' (by simpa using hj) (by simpa using hj')
 obtain⟨o1,o2⟩:=objC pi os' hos;have hlen:os'.length=pi.length:=(Zj hos).1;have carry:∀q,(∃id,ren pi id=some q.1/\Zis (T.freezeL fs).objs (id,q.2))->Zis (mkC lent live ds' os').objs q:=by
  rintro q ⟨id,hr,o,ho,hl⟩;have hm:=Zjn hr;obtain⟨j,hj⟩:=Znv.1 hm;have hjl:j < os'.length:=by rw[hlen];exact(ZmA.1 hj).1
  have hoj:os'[j]? =some os'[j]:=by simp[hjl]
  obtain⟨o0,h0,h00,_⟩:=o2 j _ _ hj hoj;refine⟨os'[j], ?_,fun t xs fix he=> ?_⟩
  ·show Ze ((Zf6 lent os'.length).zip os') q.1=_;rw[<-hids,Zjm hn1 hr hj,hoj]
  ·have:=h00 t xs fix he;rw[he]at this;dsimp only at h0 ho;rw[h0,ZmR]at ho;exact hl t xs fix (by rw[<-ho,this])
 refine⟨⟨fun kk=> ?_,fun id o ho=> ?_⟩,fun ha=> ?_⟩
 ·show TV.inv _ (Zal TV.dead (live.zip ds') kk);rcases ZaG TV.dead (live.zip ds') kk with hq |hq
  ·rw[hq];exact Zf rfl
  ·have hm:=(List.of_mem_zip hq).2;obtain⟨t,_,hf⟩:=pdsL.2 _ hm;intro q hq';obtain⟨id,h1,h2⟩:=hf q hq';exact carry q ⟨id,h1,hT1.slots t _ h2⟩
 ·have ho':Ze ((Zf6 lent os'.length).zip os') id=some o:=ho;have hmem:=List.of_mem_zip (ZY ho');cases o with
  |box cs=>
   obtain⟨j,hj⟩:=Znv.1 hmem.2;have hjl:j < pi.length:=by rw[<-hlen];exact(ZmA.1 hj).1
   obtain⟨o0,h0,_,hbx⟩:=o2 j pi[j] _ (by simp[hjl]) hj;obtain⟨cs0,rfl,hf⟩:=hbx cs rfl;intro d hd q hq;obtain⟨d0,hd0,hf⟩:=hf d hd;obtain⟨id',h1,h2⟩:=hf q hq;exact carry q ⟨id',h1,hb _ _ h0 d0 hd0 _ h2⟩
  |_=>trivial
 ·intro ρ S a w hrep hd;obtain⟨S',_,_,hfr,_⟩:=hrep.freeze fs (fun f hf=>by
   have:=hhere f hf;unfold Zk6 at this;split at this
   ·simp at this
   ·rename_i o hg ho;exact⟨o.enc,Zg ho,by
     intro he;cases o with
     |gone=>exact hg rfl
     |_=>simp[TO.enc]at he⟩
   ·simp at this)
  rw[<-Eng.freezeL_enc]at hfr;have h2:=hfr.canon (ZmL 1) hok hkeep o1 pdsL.1;rw[show (pi.map (·.1))=Zf6 lent os'.length from hids]at h2;unfold mkC at ha;rw[ZlH]at ha;exact ha _ S' a w (h2.weakX fun _ h=>h.elim) hd
end
end Eng
namespace Eng
open Go
section
variable {U:Zc}
inductive TQ (U:Zc) where
 |l (x:Lf U.car)
 |ptr (cs:List (Lf U.car))
 |fn (f:Nat) (first caps:List (TQ U))
 |nilp |nilfn
mutual
def TQ.enc:TQ U->P
 | .l x=>U.encL x
 | .ptr cs=> .ptr (cs.map U.encL)
 | .fn f a b=> .fn f (TQ.encs a) (TQ.encs b)
 | .nilp=> .nilp
 | .nilfn=> .nilfn
def TQ.encs:List (TQ U)->List P
 | []=>[]
 |q::r=>q.enc::TQ.encs r
end
mutual
def TQ.tv:TQ U->TV U
 | .l x=>lv x
 | .ptr cs=> .pp cs
 | .fn f a b=> .fn f (TQ.tvs a) (TQ.tvs b)
 | .nilp=> .nilp
 | .nilfn=> .nilfn
def TQ.tvs:List (TQ U)->List (TV U)
 | []=>[]
 |q::r=>q.tv::TQ.tvs r
end
inductive ZR (U:Zc) where
 |p (q:TQ U)
 |box (cs:List (Lf U.car))
 |arr (t:Ty) (xs:List (El U.car t))
 |map (k v:Ty) (kv:List (El U.car k×El U.car v))
 |part (t:Ty) (xs:List (El U.car t)) (off len:Nat)
def ZR.enc:ZR U->Arg
 | .p q=> .p q.enc
 | .box cs=> .box (cs.map U.encL)
 | .arr t xs=> .arr (U.tsize t) (xs.map (U.encE t))
 | .map k v b=> .map k.td (b.map fun e=>(U.encE k e.1,U.encE v e.2))
 | .part t xs a len=> .part (U.tsize t) (xs.map (U.encE t)) a len
inductive TRV (U:Zc) where
 |p (l:Lf U.car)
 |own (t:Ty) (xs:List (El U.car t))
 |box (cs:List (Lf U.car))
 |map (k v:Ty) (kv:List (El U.car k×El U.car v))
 |view (k off len:Nat)
def TRV.enc:TRV U->RV
 | .p l=> .p (U.encL l)
 | .own t xs=> .own (U.tsize t) (xs.map (U.encE t))
 | .box cs=> .box (cs.map U.encL)
 | .map k v b=> .map k.td (b.map fun e=>(U.encE k e.1,U.encE v e.2))
 | .view k a len=> .view k a len
structure ZbA (U:Zc) where
 res:List (TRV U)
 outs:List (Nat×ZR U):=[]
def ZbA.enc (r:ZbA U):Ret:=⟨r.res.map TRV.enc,r.outs.map fun x=>(x.1,x.2.enc)⟩
structure SigR (U:Zc) where
 α:Type
 o:Option α
 give:α->ZbA U
structure Zi1 (U:Zc) where
 pts:List Nat
 ms:List AM
 hs:List (Option Nat)
 sig:List (ZR U)->Option (SigR U)
def Zc6 (T:TS U) (h:Option Nat):Nat->TV U->Option (TQ U)
 |_,.pp cs=>some (.ptr cs)
 |_,.nilp=>some .nilp
 |_,.nilfn=>some .nilfn
 |_,.ptr id i j=>match T.objs id with
  |some (.box cs)=>if i=0 then match Zm T.lf1 (cs.drop j)with
   |some c=>some (.ptr c)
   |none=>none
   else none
  |_=>none
 |n+1,.fn f a b=>match Zm (Zc6 T none n) a,Zm (Zc6 T none n) b with
  |some a',some b'=>some (.fn f a' b')
  |_,_=>none
 |_,d=>match T.lf h d with
  |some l=>some (.l l)
  |none=>none
mutual
theorem Zi5:∀q:TQ U,q.tv.enc= .p q.enc/\q.tv.fulls=[]
 | .l x=>⟨rfl,rfl⟩
 | .ptr cs=>⟨rfl,rfl⟩
 | .nilp=>⟨rfl,rfl⟩
 | .nilfn=>⟨rfl,rfl⟩
 | .fn f a b=>by obtain⟨d,c⟩:=ZgI a;obtain⟨g,e⟩:=ZgI b;refine⟨?_,by simp only[TQ.tv,TV.fulls,c,e,List.append_nil]⟩;simp only[TQ.tv,TV.enc,d,g,fnD,Zas,TQ.enc]
theorem ZgI:∀l:List (TQ U),TV.encs (TQ.tvs l)=(TQ.encs l).map .p/\TV.fullsL (TQ.tvs l)=[]
 | []=>⟨rfl,rfl⟩
 |q::r=>by obtain⟨b,a⟩:=Zi5 q;obtain⟨d,c⟩:=ZgI r;exact⟨by simp only[TQ.tvs,TV.encs,b,d,TQ.encs,ZmD],by simp only[TQ.tvs,TV.fullsL,a,c,List.append_nil]⟩
end
theorem Zjo (B:UOk U) {T:TS U} (J:T.Inv):∀(n:Nat) (h:Option Nat) (d:TV U) (q:TQ U),d.inv T.objs->Zc6 T h n d=some q->d.enc.toP T.enc.objs (n+1)=some q.enc:=by
 have base:∀(n:Nat) (h:Option Nat) (d:TV U) (q:TQ U),(∀f a b,d≠ .fn f a b)->d.inv T.objs->Zc6 T h n d=some q->d.enc.toP T.enc.objs (n+1)=some q.enc:=by
  intro n h d q w hi e;have o:(match T.lf h d with |some l=>some (TQ.l l) |none=>none)=some q->d.enc.toP T.enc.objs (n+1)=some q.enc:=fun g=>by split at g;rotate_left;simp at g;rename_i l t;cases g;exact ZeR B hi t n
  cases d with
  |pp cs=>simp only[Zc6,ZmR]at e;subst e;simp[TV.enc,TQ.enc]
  |nilp=>simp only[Zc6,ZmR]at e;subst e;simp[TV.enc,TQ.enc]
  |nilfn=>simp only[Zc6,ZmR]at e;subst e;simp[TV.enc,TQ.enc]
  |ptr id i j=>
   simp only[Zc6]at e;split at e;rotate_left;simp at e;rename_i cs E;split at e;rotate_left;simp at e;rename_i H;subst H;split at e;rotate_left;simp at e;rename_i M u;cases e;have:=Zcg n (fun c m=>J.objs id _ E c (Znw m)) u;rw[Zbs]at this;simp only[TV.enc,D.toP,Zg E,ZaO,if_true,this,Zny,TQ.enc]
  |fn f a b=>exact absurd rfl (w f a b)
  |_=>cases n<;>exact o e
 intro n
 induction n with
 |zero=>
  intro h d q hi e;cases d with
  |fn f a b=>
   simp only[Zc6]at e;split at e;rotate_left;simp at e;rename_i l t;cases e;exact ZeR B hi t 0
  |_=>exact base 0 h _ q (by simp) hi e
 |succ n z=>
  intro h d q hi e;cases d with
  |fn f a b=>
   simp only[Zc6]at e;split at e;rotate_left;simp at e;rename_i G b' v I;cases e;have k:∀(l:List (TV U)) (l':List (TQ U)),(∀c∈l,c.inv T.objs)->Zm (Zc6 T none n) l=some l'->Zm (D.toP T.enc.objs (n+1)) (TV.encs l)=some (TQ.encs l'):=by
    intro l
    induction l with
    |nil=>intro l' _ h;simp[Zm]at h;subst h;rfl
    |cons c l A=>
     intro l' hi h;simp only[Zm]at h;split at h;rotate_left;simp at h;rename_i y L K F;cases h;simp only[TV.encs,Zm,z none c y (hi c (by simp)) K,A L (fun a v=>hi a (by simp[v])) F,TQ.encs]
   have p:=k a G (fun c m q g=>hi q (by simp only[TV.fulls,ZmE];exact .inl (Zs.2 ⟨c,m,g⟩))) v;have lb:=k b b' (fun c m q g=>hi q (by simp only[TV.fulls,ZmE];exact .inr (Zs.2 ⟨c,m,g⟩))) I;rw[TV.enc,TQ.enc];unfold fnD;have C:∀(s:List P),Zm (D.toP T.enc.objs (n+1)) (s.map .p)=some s:=by
    intro s
    induction s with
    |nil=>rfl
    |cons x r z=>simp only[ZmD,Zm,Zi7,z]
   cases hpa:Zm D.pure? (TV.encs a)with
   |none=>simp only[D.toP,p,lb]
   |some x=>
    cases hpb:Zm D.pure? (TV.encs b)with
    |none=>simp only[D.toP,p,lb]
    |some y=>
     rw[Zu hpa,C,ZmR]at p;rw[Zu hpb,C,ZmR]at lb;simp only[Zi7,p,lb]
  |_=>exact base (n+1) h _ q (by simp) hi e
structure AET (U:Zc) where
 arg:ZR U
 fs:List Id:=[]
 id:Option Id:=none
def argT (T:TS U) (m:AM) (h:Option Nat) (d:TV U):Option (AET U):=
 match m,d with
 | .p,d=>match Zc6 T h 7 d with
  |some q=>some {arg:= .p q,fs:=d.enc.ids T.enc.objs depth}
  |none=>none
 | .lend,.ptr id 0 0=>match T.objs id with
  |some (.box ds)=>match Zm T.lf1 ds with
   |some a=>some {arg:= .box a,fs:=(TV.encs ds).flatMap fun d=>d.ids T.enc.objs depth,id:=some id}
   |none=>none
  |_=>none
 | .lend,.full id _=>match T.objs id with
  |some (.arr t xs false)=>some {arg:= .arr t xs,id:=some id}
  |_=>none
 | .lend,.map id=>match T.objs id with
  |some (.map k v kv)=>some {arg:= .map k v kv,id:=some id}
  |_=>none
 | .part,.sl id off len=>match T.objs id with
  |some (.arr t xs false)=>some {arg:= .part t xs off len,id:=some id}
  |_=>none
 |_,_=>none
def AET.ae (a:AET U) (cs:List Bool):AE:={arg:=a.arg.enc,fs:=a.fs,id:=a.id,cond:=cs}
theorem ZcH {T:TS U} {cs:List (TV U)} {a:List (Lf U.car)} (hi:∀d∈cs,d.inv T.objs) (h:Zm T.lf1 cs=some a):Zm (fun d=>D.toP T.enc.objs depth d) (TV.encs cs)=some (a.map U.encL):=Zcg depth hi h
theorem Zl6 (l:UOk U) {T:TS U} (g:T.Inv) {m:AM} {h:Option Nat} {d:TV U} {a:AET U} (hi:d.inv T.objs) (b:argT T m h d=some a):∃cs,Zgz T.enc m d.enc=some (a.ae cs)/\∀q∈cs,q=true:=by
 unfold argT at b;split at b
 ·split at b;rotate_left;simp at b;rename_i q p;cases b;exact⟨[],by simp only[Zgz,depth,Zjo l g 7 h d q hi p,AET.ae,ZR.enc],by simp⟩
 ·rename_i id;split at b;rotate_left;simp at b;rename_i w c;split at b;rotate_left;simp at b;rename_i s e;cases b;refine⟨[], ?_,by simp⟩;simp only[Zgz,TV.enc,Zg c,ZaO,ZcH (g.objs id _ c) e,AET.ae,ZR.enc]
 ·rename_i id n;split at b;rotate_left;simp at b;rename_i t xs c;cases b;obtain⟨o,f,i⟩:=hi (id,n) (by simp[TV.fulls]);dsimp only at f;have j:=i t xs false (by rw[c,ZmR]at f;exact f.symm);refine⟨[decide (n=(xs.map (U.encE t)).length)], ?_,by simp[j]⟩;simp only[Zgz,TV.enc,Zg c,ZM,AET.ae,ZR.enc]
 ·rename_i id;split at b;rotate_left;simp at b;rename_i k v u c;cases b;exact⟨[],by simp only[Zgz,TV.enc,Zg c,Z0,AET.ae,ZR.enc],by simp⟩
 ·rename_i id r len;split at b;rotate_left;simp at b;rename_i t xs c;cases b;exact⟨[],by simp only[Zgz,TV.enc,Zg c,ZM,AET.ae,ZR.enc],by simp⟩
 ·simp at b
def Z5 (T:TS U):List AM->List (Option Nat)->List (TV U)->Option (List (AET U))
 | [],_,[]=>some []
 |m::ms,h::hs,d::ds=>match argT T m h d,Z5 T ms hs ds with
  |some a,some r=>some (a::r)
  |_,_=>none
 |_,_,_=>none
theorem Ze3 (i:UOk U) {T:TS U} (g:T.Inv):∀{ms:List AM} {f:List (Option Nat)} {e:List (TV U)} {c:List (AET U)},(∀d∈e,d.inv T.objs)->Z5 T ms f e=some c->
  ∃b:List AE,Zm (fun x:AM×D=>Zgz T.enc x.1 x.2) (ms.zip (TV.encs e))=some b/\e.length=ms.length/\b.map (·.arg)=c.map (fun a=>a.arg.enc)/\b.flatMap (·.fs)=c.flatMap (·.fs)/\(∀q∈b.flatMap (·.cond),q=true)/\b.map (·.id)=c.map (·.id)
 | [],f,[],c,_,h=>by simp only[Z5,ZmR]at h;subst h;exact⟨[],rfl,rfl,rfl,rfl,by simp,rfl⟩
 | [],f,d::e,c,_,h=>by simp[Z5]at h
 |m::ms,[],e,c,_,h=>by simp[Z5]at h
 |m::ms,hh::f,[],c,_,h=>by simp[Z5]at h
 |m::ms,hh::f,d::e,c,hi,h=>by simp only[Z5]at h;split at h;rotate_left;simp at h;rename_i a r s v;cases h;obtain⟨cs,q1,u⟩:=Zl6 i g (hi d (by simp)) s;obtain⟨b,n,t,k,w,l,o⟩:=Ze3 i g (fun a p=>hi a (by simp[p])) v;refine⟨a.ae cs::b,by simp only[TV.encs,Znx,Zm,q1,n],by simp[t],by simp[AET.ae,k],by simp[AET.ae,w], ?_,by simp[AET.ae,o]⟩;intro q j;simp only[List.flatMap_cons,ZmE]at j;exact j.elim (fun h=>u q h) (fun h=>l q h)
def ZR.o:ZR U->Option (TO U)
 | .p _=>none
 | .box cs=>some (.box (cs.map lv))
 | .arr t xs=>some (.arr t xs false)
 | .map k v a=>some (.map k v a)
 | .part t xs _ _=>some (.arr t xs false)
def Ze1 (outs:List (Nat×ZR U)) (k:Nat):TO U:=match Ze outs k with
 |some a=>match a.o with
  |some o=>o
  |none=> .gone
 |none=> .gone
def Zgv (outs:List (Nat×ZR U)):Nat->List (AET U)->List (Id×TO U)
 |_,[]=>[]
 |k,x::r=>match x.id with
  |some id=>(id,Ze1 outs k)::Zgv outs (k+1) r
  |none=>Zgv outs (k+1) r
def TRV.at (ep i:Nat) (c:List (AET U)) (j:Nat):TRV U->Option (TV U)
 | .p l=>some (lv l)
 | .own _ es=>some (.full (ep,i,j) es.length)
 | .box _=>some (.ptr (ep,i,j) 0 0)
 | .map _ _ _=>some (.map (ep,i,j))
 | .view k b len=>match c[k]? with
  |some a=>match a.id with
   |some id=>some (.sl id b len)
   |none=>none
  |none=>none
def TRV.o:TRV U->Option (TO U)
 | .own t es=>some (.arr t es false)
 | .box cs=>some (.box (cs.map lv))
 | .map k v a=>some (.map k v a)
 |_=>none
def ZcY (ep i:Nat) (a:List (AET U)):Nat->List (TRV U)->Option (List (TV U))
 |_,[]=>some []
 |j,x::r=>match x.at ep i a j,ZcY ep i a (j+1) r with
  |some d,some ds=>some (d::ds)
  |_,_=>none
def ZaA:Nat->List (TRV U)->List (Nat×TO U)
 |_,[]=>[]
 |j,x::r=>match x.o with
  |some o=>(j,o)::ZaA (j+1) r
  |none=>ZaA (j+1) r
def tupT:List (TV U)->TV U
 | [d]=>d
 |ds=> .tup ds
def Zgs (T:TS U) (i:Nat) (a:List (AET U)) (ret:ZbA U):Option (Zh U):=
 match ZcY T.ep i a 0 ret.res with
 |some b=>some {val:=tupT b,new:=ZaA 0 ret.res,wr:=Zgv ret.outs 0 a,frz:=a.flatMap (·.fs)}
 |none=>none
theorem Zh6 (a:ZR U):Zik a.o=a.enc.o:=by
 cases a with
 |p q=>rfl
 |box cs=>simp only[ZR.o,Zik,TO.enc,ZcP,ZR.enc,Arg.o]
 |arr t xs=>rfl
 |map k v c=>rfl
 |part t xs b len=>rfl
theorem Ze2 {c β d:Type} [DecidableEq c] (f:β->d):∀(l:List (c×β)) (x:c),Ze (l.map fun y=>(y.1,f y.2)) x=(Ze l x).map f
 | [],x=>rfl
 |(a,b)::r,x=>by
  simp only[ZmD,Ze];split
  ·rfl
  ·exact Ze2 f r x
theorem ZiS (outs:List (Nat×ZR U)) (k:Nat):(Ze1 outs k).enc=Zev (outs.map fun x=>(x.1,x.2.enc)) k:=by
 unfold Ze1 Zev;rw[Ze2];cases Ze outs k with
 |none=>rfl
 |some a=>
  simp only[Zny];rw[<-Zh6 a];cases a.o<;>rfl
theorem Zd6 (outs:List (Nat×ZR U)):∀(k:Nat) (d:List (AET U)) (c:List AE),c.map (·.id)=d.map (·.id)->(Zgv outs k d).map (fun x=>(x.1,x.2.enc))=Zbw (outs.map fun x=>(x.1,x.2.enc)) k c
 |k,[],[],_=>rfl
 |k,[],_::_,h=>by simp at h
 |k,_::_,[],h=>by simp at h
 |k,a::d,b::bs,h=>by
  simp only[ZmD,List.cons.injEq]at h;simp only[Zgv,Zbw,h.1];cases a.id with
  |none=>exact Zd6 outs (k+1) d bs h.2
  |some id=>simp only[ZmD,Zd6 outs (k+1) d bs h.2,ZiS]
theorem Zkp {ep i j:Nat} {g:List (AET U)} {c:List AE} (m:c.map (·.id)=g.map (·.id)) {x:TRV U} {d:TV U} (h:x.at ep i g j=some d):x.enc.at ep i c j=some d.enc:=by
 cases x with
 |p l=>simp only[TRV.at,ZmR]at h;subst h;rfl
 |own t es=>simp only[TRV.at,ZmR]at h;subst h;simp only[TRV.enc,RV.at,TV.enc,Znp]
 |box cs=>simp only[TRV.at,ZmR]at h;subst h;rfl
 |map k v q=>simp only[TRV.at,ZmR]at h;subst h;rfl
 |view k o len=>
  simp only[TRV.at]at h;have e:(c[k]?).map (·.id)=(g[k]?).map (·.id):=by rw[<-ZmB,<-ZmB,m]
  split at h;rotate_left;simp at h;rename_i a n;rw[n]at e;cases hb:c[k]? with
  |none=>rw[hb]at e;simp at e
  |some b=>
   rw[hb]at e;simp only[Zny,ZmR]at e;split at h;rotate_left;simp at h;rename_i id f;cases h;simp only[TRV.enc,RV.at,hb,e,f,TV.enc]
theorem Zlu (x:TRV U):Zik x.o=x.enc.o:=by
 cases x with
 |box cs=>simp only[TRV.o,Zik,TO.enc,ZcP,TRV.enc,RV.o]
 |_=>rfl
theorem ZeF {ep i:Nat} {f:List (AET U)} {b:List AE} (a:b.map (·.id)=f.map (·.id)):∀(j:Nat) (l:List (TRV U)) (c:List (TV U)),ZcY ep i f j l=some c->ZgP ep i b j (l.map TRV.enc)=some (TV.encs c)
 |j,[],c,h=>by simp only[ZcY,ZmR]at h;subst h;rfl
 |j,x::r,c,h=>by simp only[ZcY]at h;split at h;rotate_left;simp at h;rename_i d e g k;cases h;simp only[ZmD,ZgP,Zkp a g,ZeF a (j+1) r e k,TV.encs]
theorem ZbW:∀(j:Nat) (l:List (TRV U)),(ZaA j l).map (fun x=>(x.1,x.2.enc))=Zbd j (l.map TRV.enc)
 |j,[]=>rfl
 |j,x::r=>by
  simp only[ZaA,ZmD,Zbd];have:=Zlu x;cases hx:x.o with
  |none=>rw[hx]at this;rw[<-this];exact ZbW (j+1) r
  |some o=>rw[hx]at this;rw[<-this];simp only[Zik,ZmD,ZbW (j+1) r]
theorem Zkg (c:List (TV U)):(tupT c).enc=tupD (TV.encs c):=by
 match c with
 | []=>rfl
 | [d]=>rfl
 |a::b::r=>rfl
theorem ZiQ {T:TS U} {i:Nat} {c:List (AET U)} {a:List AE} {ret:ZbA U} {e:Zh U} (b:a.map (·.id)=c.map (·.id)) (f:a.flatMap (·.fs)=c.flatMap (·.fs)) (h:Zgs T i c ret=some e):ZfE T.enc i a ret.enc=some (e.enc []):=by unfold Zgs at h;split at h;rotate_left;simp at h;rename_i g d;cases h;unfold ZfE;rw[show T.enc.ep=T.ep from rfl,show ret.enc.res=ret.res.map TRV.enc from rfl,ZeF b 0 _ g d];simp only[Zh.enc,Zkg,ZbW,ZbA.enc,Zd6 ret.outs 0 c a b,f]
def ZR.len?:ZR U->Option Nat
 | .arr _ xs=>some xs.length
 | .part _ xs _ _=>some xs.length
 |_=>none
def Zeh (args:List (ZR U)) (ret:ZbA U):Prop:=∀k a n,(k,a)∈ret.outs->a.len?=some n->∃b,args[k]? =some b/\b.len?=some n
theorem Zcn {outs:List (Nat×ZR U)}:∀(n:Nat) (l:List (AET U)) (id:Id) (o:TO U),(id,o)∈Zgv outs n l->∃j x,l[j]? =some x/\x.id=some id/\o=Ze1 outs (n+j)
 |n,[],id,o,h=>by simp[Zgv]at h
 |n,x::r,id,o,h=>by
  simp only[Zgv]at h;split at h
  ·rename_i e b;rcases ZmF.1 h with h |h
   ·simp only[ZmS]at h;exact⟨0,x,rfl,by rw[b,h.1],by simpa using h.2⟩
   ·obtain⟨j,y,c,d,a⟩:=Zcn (n+1) r id o h;exact⟨j+1,y,by simpa using c,d,by rw[a];congr 1;omega⟩
  ·obtain⟨j,y,c,d,a⟩:=Zcn (n+1) r id o h;exact⟨j+1,y,by simpa using c,d,by rw[a];congr 1;omega⟩
theorem Zeb {T:TS U}:∀{ms:List AM} {e:List (Option Nat)} {f:List (TV U)} {c:List (AET U)},Z5 T ms e f=some c->∀(j:Nat) (a:AET U),c[j]? =some a->∃m h d,argT T m h d=some a
 | [],e,[],c,h,j,a,ha=>by simp only[Z5,ZmR]at h;subst h;simp at ha
 | [],e,d::f,c,h,j,a,ha=>by simp[Z5]at h
 |m::ms,[],f,c,h,j,a,ha=>by simp[Z5]at h
 |m::ms,hh::e,[],c,h,j,a,ha=>by simp[Z5]at h
 |m::ms,hh::e,d::f,c,h,j,a,ha=>by
  simp only[Z5]at h;split at h;rotate_left;simp at h;rename_i b r g i;cases h;cases j with
  |zero=>simp only[Zm6,ZmR]at ha;subst ha;exact⟨_,_,_,g⟩
  |succ j=>exact Zeb i j a (by simpa using ha)
theorem ZaZ:∀(j:Nat) (l:List (TRV U)) (k:Nat) (o:TO U),(k,o)∈ZaA j l->∃(m:Nat) (x:TRV U),l[m]? =some x/\k=j+m/\x.o=some o
 |j,[],k,o,h=>by simp[ZaA]at h
 |j,x::r,k,o,h=>by
  simp only[ZaA]at h;split at h
  ·rename_i o' d;rcases ZmF.1 h with h |h
   ·simp only[ZmS]at h;exact⟨0,x,rfl,by simp[h.1],by rw[d,h.2]⟩
   ·obtain⟨m,y,a,c,b⟩:=ZaZ (j+1) r k o h;exact⟨m+1,y,by simpa using a,by omega,b⟩
  ·obtain⟨m,y,a,c,b⟩:=ZaZ (j+1) r k o h;exact⟨m+1,y,by simpa using a,by omega,b⟩
theorem ZeD:∀(j:Nat) (l:List (TRV U)) (m:Nat) (x:TRV U) (o:TO U),l[m]? =some x->x.o=some o->(j+m,o)∈ZaA j l
 |j,[],m,x,o,h,_=>by simp at h
 |j,y::r,m,x,o,h,ho=>by
  cases m with
  |zero=>
   simp only[Zm6,ZmR]at h;subst h;simp only[ZaA,ho];exact ZmG
  |succ m=>
   have:=ZeD (j+1) r m x o (by simpa using h) ho;rw[show j+1+m=j+(m+1) by omega]at this;simp only[ZaA];split
   ·exact Zna _ this
   ·exact this
theorem ZhH:∀(l:List (Id×TO U)) (T:TS U) (id:Id) (o:TO U),(id,o)∈l->(∀o',(id,o')∈l->o'=o)->(T.objL l).objs id=some o
 | [],T,id,o,h,_=>by simp at h
 |(a,u)::l,T,id,o,h,hu=>by
  simp only[TS.objL]
  by_cases hm:∃o',(id,o')∈l
  ·obtain⟨o',c⟩:=hm;have:=hu o' (Zna _ c);subst this;exact ZhH l _ id o' c fun f i=>hu f (Zna _ i)
  ·rcases ZmF.1 h with h |h
   ·simp only[ZmS]at h;obtain⟨rfl,rfl⟩:=h;have key:∀(l:List (Id×TO U)) (T:TS U),(¬∃o,(id,o)∈l)->(T.objL l).objs id=T.objs id:=by
     intro l
     induction l with
     |nil=>intro T _;rfl
     |cons x l e=>
      obtain⟨b,v⟩:=x;intro T d;simp only[TS.objL];rw[e _ (fun⟨o,g⟩=>d ⟨o,Zna _ g⟩)];simp only[upd];split
      ·rename_i j;subst j;exact absurd ⟨v,ZmG⟩ d
      ·rfl
    rw[key l _ hm];simp[upd]
   ·exact absurd ⟨o,h⟩ hm
theorem ZeE {ep i:Nat} {e:List (AET U)}:∀(j:Nat) (l:List (TRV U)) (b:List (TV U)),ZcY ep i e j l=some b->∀d∈b,∃(m:Nat) (x:TRV U),l[m]? =some x/\x.at ep i e (j+m)=some d
 |j,[],b,h,d,a=>by simp only[ZcY,ZmR]at h;subst h;simp at a
 |j,x::r,b,h,d,a=>by
  simp only[ZcY]at h;split at h;rotate_left;simp at h;rename_i n c f k;cases h;rcases ZmF.1 a with rfl |a
  ·exact⟨0,x,rfl,f⟩
  ·obtain⟨m,y,q1,g⟩:=ZeE (j+1) r c k d a;exact⟨m+1,y,by simpa using q1,by rw[show j+(m+1)=j+1+m by omega];exact g⟩
theorem ZiP {T:TS U} {i:Nat} {E:List (AET U)} {ms:List AM} {Y:List (Option Nat)} {J:List (TV U)} (H:Z5 T ms Y J=some E) {ret:ZbA U} (K:Zeh (E.map (·.arg)) ret) {e:Zh U} (h:Zgs T i E ret=some e):ZJ T i e:=by
 unfold Zgs at h;split at h;rotate_left;simp at h;rename_i I P;cases h;have box:∀(cs:List (Lf U.car)) (lk:Id->Option (TO U)),(TO.box (cs.map lv)).inv lk:=fun cs lk d c=>by obtain⟨l,_,rfl⟩:=Znc.1 c;exact Zah _ _
 have C:∀(a:ZR U) (o:TO U) (lk:Id->Option (TO U)),a.o=some o->o.inv lk:=fun a o lk D=>by
  cases a<;>simp only[ZR.o,ZmR,reduceCtorEq]at D<;>subst D
  ·exact box _ _
  ·trivial
  ·trivial
  ·trivial
 refine⟨fun id o G t xs fix g=> ?_,fun hf=> ?_,fun _ o Q=> ?_⟩
 ·obtain⟨j,x,q1,f,A⟩:=Zcn 0 E id o G;rw[A]at g;unfold Ze1 at g;split at g;rotate_left;simp at g;rename_i a D;have key:∀M (u:List (El U.car M)),a.o=some (.arr M u false)->a.len?=some u.length:=fun M u h=>by
   cases a with
   |p q=>simp[ZR.o]at h
   |box cs=>simp[ZR.o]at h
   |map k v Z=>simp[ZR.o]at h
   |arr L w=>simp only[ZR.o,ZmR,TO.arr.injEq]at h;obtain⟨rfl,h,_⟩:=h;cases h;rfl
   |part L w N len=>simp only[ZR.o,ZmR,TO.arr.injEq]at h;obtain⟨rfl,h,_⟩:=h;cases h;rfl
  have B:fix=false:=by
   cases a<;>simp[ZR.o]at g
   ·exact g.2.2
   ·exact g.2.2
  split at g;rotate_left;simp at g;rename_i o Q;subst g;subst B;obtain⟨a',F,z⟩:=K _ _ _ (ZY D) (key t xs Q);rw[ZmB,Znh,q1,Zny,ZmR]at F;subst F;obtain⟨m,hh,d,c⟩:=Zeb H j x q1;unfold argT at c;split at c
  ·split at c;rotate_left;simp at c;cases c;simp at f
  ·split at c;rotate_left;simp at c;split at c;rotate_left;simp at c;cases c;simp[ZR.len?]at z
  ·split at c;rotate_left;simp at c;rename_i L w s;cases c;cases f;simp only[ZR.len?,ZmR]at z;exact⟨_,_,_,s,z.symm⟩
  ·split at c;rotate_left;simp at c;cases c;simp[ZR.len?]at z
  ·split at c;rotate_left;simp at c;rename_i L w s;cases c;cases f;simp only[ZR.len?,ZmR]at z;exact⟨_,_,_,s,z.symm⟩
  ·simp at c
 ·intro q n;have:∃d∈I,q∈d.fulls:=by
   match I,n with
   | [],n=>simp[tupT,TV.fulls,TV.fullsL]at n
   | [d],n=>exact⟨d,by simp,n⟩
   |a::b::r,n=>exact Zs.1 n
  obtain⟨d,c,n⟩:=this;obtain⟨m,x,q1,f⟩:=ZeE 0 _ I P d c;cases x with
  |p l=>simp only[TRV.at,ZmR]at f;subst f;simp[lv,TV.fulls]at n
  |box cs=>simp only[TRV.at,ZmR]at f;subst f;simp[TV.fulls]at n
  |map k v Z=>simp only[TRV.at,ZmR]at f;subst f;simp[TV.fulls]at n
  |view k N len=>
   simp only[TRV.at]at f;split at f;rotate_left;simp at f;split at f;rotate_left;simp at f;cases f;simp[TV.fulls]at n
  |own t xs=>
   simp only[TRV.at,ZmR]at f;subst f;simp only[TV.fulls,ZmI]at n;subst n;refine⟨.arr t xs false, ?_,fun t' X S g=>by cases g;rfl⟩;refine ZhH _ _ _ _ (Znc.2 ⟨_,ZeD 0 _ m _ _ q1 rfl,rfl⟩) fun o' O=> ?_
   obtain⟨y,W,g⟩:=Znc.1 O;simp only[ZmS,true_and]at g;obtain⟨h1,rfl⟩:=g;obtain⟨V,x',F,z,R⟩:=ZaZ 0 _ _ _ W;have:V=m:=by omega
   subst this;rw[q1,ZmR]at F;subst F;simp only[TRV.o,ZmR]at R;exact R.symm
 ·rcases Q with ⟨k,G⟩ |⟨id,G⟩
  ·obtain⟨m,x,q1,f,A⟩:=ZaZ 0 _ _ _ G;cases x<;>simp only[TRV.o,ZmR,reduceCtorEq]at A<;>subst A
   ·trivial
   ·exact box _ _
   ·trivial
  ·obtain⟨j,x,q1,f,A⟩:=Zcn 0 E id o G;subst A;unfold Ze1;split
   ·rename_i a D;cases hao:a.o with
    |none=>trivial
    |some o=>exact C a o _ hao
   ·trivial
end
end Eng
namespace Eng
open Go
open Go.ChangeMaps (setBlock)
section
variable {C:Ctx} {X:Nat->Prop} {ρ:Id->Option Lay} {S:Nat->Prop} {st:St} {a:Act} {w:World} {i:Nat} {o:Oper}
theorem ZbL {b β:Type} (p:b->Bool):∀(xs:List b) (a:List β),xs.length=a.length->((xs.zip a).filter fun x=>p x.1).length=(xs.filter p).length
 | [],a,h=>by simp
 |x::xs,[],h=>by simp at h
 |x::xs,y::a,h=>by simp only[Znx,List.filter_cons];have:=ZbL p xs a (by simpa using h);split<;>simp[this]
theorem ZeW {a:Type}:∀(l:List a) (j:Nat) (h:j < l.length),(l[j]::l.eraseIdx j).Perm l
 |x::l,0,h=> .refl _
 |x::l,j+1,h=>by simp only[List.getElem_cons_succ,List.eraseIdx_cons_succ];exact(List.Perm.swap _ _ _).trans ((ZeW l j (by simpa using h)).cons x)
theorem Zci {i β:Type} (f:i->β) [DecidableEq β] (c:Array β) (e:i) (p:i->Prop):∀(l:List i),(∀x∈l,∀y∈l,f x=f y->x=y)->l.Nodup->e∈l->c.contains (f e)=false->
  (e::l.filter fun x=> !(c.push (f e)).contains (f x)).Perm (l.filter fun x=> !c.contains (f x))
 | [],_,_,he,_=>by simp at he
 |x::l,hinj,hnd,he,hs=>by
  have d:∀y,(c.push (f e)).contains (f y)=(c.contains (f y)||decide (f y=f e)):=fun y=>by
   simp only[Array.contains_eq_mem,Array.mem_push]
   by_cases j:f y∈c<;>by_cases h2:f y=f e<;>simp[j,h2]
  by_cases hx:x=e
  ·subst hx;have g:∀y∈l,decide (f y=f x)=false:=fun y h=>by simp only[decide_eq_false_iff_not];intro n;have:=hinj y (by simp[h]) x (by simp) n;subst this;exact(List.nodup_cons.1 hnd).1 h
   have j:(l.filter fun y=> !(c.push (f x)).contains (f y))=l.filter fun y=> !c.contains (f y):=List.filter_congr fun y h=>by rw[d,g y h];simp
   simp only[List.filter_cons,d x,hs,decide_true,Bool.or_true,Bool.not_true,Zmu,if_false,Bool.not_false,if_true,j];exact .refl _
  ·have m:e∈l:=by simpa[Ne.symm hx]using he
   have k:f x≠f e:=fun n=>hx (hinj x (by simp) e he n)
   have o:=Zci f c e p l (fun a r b q=>hinj a (by simp[r]) b (by simp[q])) (List.nodup_cons.1 hnd).2 m hs;simp only[List.filter_cons,d x,k,decide_false,Bool.or_false];split
   ·exact(List.Perm.swap x e _).trans (o.cons x)
   ·exact o
theorem Zkx {it:Operand} (h:Rep C X ρ S st a.tmps w) (hi:¬X i) (ht:∀d,o.dst=some d->d < C.E.nt) (hlit:Zz it=true) (ho:o.op= .next it false) {id:Id} {rest:List (P×P)} {cur:Option (P×P)}
  (hx:ev C.E st.slots 0 it= .it id) (hlk:st.objs id=some (.mit rest cur)) (hfz:st.fz id=false):
  (rest=[]/\∃v w',(execOp a.eval o).run C.E.prog w= .ok (.value v) w'/\∃ρ' S',Rep C (fun j=>X j\/j=i) ρ' S' (st.app i o.dst {val:= .tup [.p (.bool false)]}) (a.put o.dst v).tmps w')\/
  ∃(j:Nat) (q:P×P),rest[j]? =some q/\∃v w',(execOp a.eval o).run C.E.prog w= .ok (.value v) w'/\
   ∃ρ' S',Rep C (fun j=>X j\/j=i) ρ' S' (st.app i o.dst {val:= .tup [.p (.bool true),.p q.1,.p q.2],wr:=[(id,.mit (rest.eraseIdx j) (some q))]}) (a.put o.dst v).tmps w':=by
 have h1:=Zi h 0 hlit;rw[hx]at h1;generalize hv:a.eval it=v at h1;cases h1 with
 |it _ L b hL hLb=>
 obtain⟨L',hL',b',hLb',hmit⟩:=h.objs id _ hlk (by simp);rw[hL]at hL';obtain rfl:=ZmQ hL';rw[hLb]at hLb';obtain rfl:=ZmQ hLb';have hown:=h.own id _ L b hlk (by simp) hL hLb;have over:rest=[]->(Instr.next (.pointer (some ⟨b,0,none⟩)) false o.type).run C.E.prog w= .ok (.tuple #[.bool false]) w->
   ∃v w',(execOp a.eval o).run C.E.prog w= .ok (.value v) w'/\∃ρ' S',Rep C (fun j=>X j\/j=i) ρ' S' (st.app i o.dst {val:= .tup [.p (.bool false)]}) (a.put o.dst v).tmps w':=fun _ hr=>by
  obtain⟨S',hrep⟩:=h.step (i:=i) (t:=o.dst) (e:={val:= .tup [.p (.bool false)]}) (v:= .tuple #[.bool false]) (w':=w) ρ hi ht (ZmL _) (ZS.refl _) (fun _ _ _=>rfl) (by simp) (fun _ _ h=>h) (fun id h=> .inl h) (by simp) (fun _ _ hm=>by simp at hm) (fun _ _ _ _ _ _ _ hm=>by simp at hm) (by simp)
   (fun _ _ _ _ _=> .tup _ _ rfl fun j u c hu hc=>by
    match j with
    |0=>simp at hu hc;subst hu hc;exact .p _ _ (.bool false)
    |j+1=>simp at hc)
  exact⟨_,_,by simp[execOp,ho,hv,Sem.run_bind,hr,Result.andThen,Sem.run],ρ,S',hrep⟩
 rcases hmit with ⟨since,seen,stepped,hb,rfl,rfl⟩ |⟨m,es,clock,seen,kv',hSm,hm,hb,hel,hkv,hborn,hbinj,hperm,_⟩
 ·exact .inl ⟨rfl,over rfl (by simp[Instr.next,getObj,Sem.run,hb])⟩
 ·have hlen:es.toList.length=kv'.length:=by simpa using hel
  have hlf:(leftOf es seen).toList=es.toList.filter fun e=> !seen.contains e.born:=by simp[leftOf]
  rcases run_next_at (P:=C.E.prog) w o.type b m clock clock seen es clock hb hm (fun x hx=>by obtain⟨k,hk⟩:=Znv.1 hx;exact hborn k x (by simpa using hk)) (ZmL _)with ⟨h0,hr⟩ |⟨e,he,w1,hal,hr⟩
  ·refine .inl ?_;have hz:((es.toList.zip kv').filter fun x=> !seen.contains x.1.born).length=0:=by rw[ZbL (fun e:MapEntry=> !seen.contains e.born) es.toList kv' hlen,<-hlf];simpa using h0
   have:rest=[]:=by have:=hperm.length_eq;rw[Znp,hz]at this;exact Zm1 this.symm
   exact⟨this,over this hr⟩
  ·refine .inr ?_;rw[hlf,List.mem_filter]at he;obtain⟨hee,hun⟩:=he;obtain⟨k,hk⟩:=Znv.1 hee;have hkl:k < es.toList.length:=(ZmA.1 hk).1;have hq:kv'[k]? =some kv'[k]:=by simp[hlen▸hkl]
   have hpair:(e,kv'[k])∈es.toList.zip kv':=by refine Znv.2 ⟨k, ?_⟩;rw[Znm];exact⟨hk,hq⟩
   have hun':seen.contains e.born=false:=by simpa using hun
   have zinj:∀x∈es.toList.zip kv',∀y∈es.toList.zip kv',x.1.born=y.1.born->x=y:=fun x hx y hy hxy=>by obtain⟨k1,h1⟩:=Znv.1 hx;obtain⟨k2,h2⟩:=Znv.1 hy;have g1:=Znm.1 h1;have g2:=Znm.1 h2;have:=hbinj k1 k2 _ _ (by simpa using g1.1) (by simpa using g2.1) hxy;subst this;rw[h1]at h2;exact ZmQ h2
   have znd:(es.toList.zip kv').Nodup:=by
    refine List.pairwise_iff_getElem.2 fun k1 k2 h1 h2 h12 heq=> ?_
    have hz:(es.toList.zip kv')[k1]? =some (es.toList.zip kv')[k1]:=List.getElem?_eq_getElem h1;have hz2:(es.toList.zip kv')[k2]? =some (es.toList.zip kv')[k1]:=by rw[heq];exact List.getElem?_eq_getElem h2
    have g1:=Znm.1 hz;have g2:=Znm.1 hz2;have e1:=ZmU (xs:=es) (i:=k1);have e2:=ZmU (xs:=es) (i:=k2);have:=hbinj k1 k2 _ _ (e1.symm.trans g1.1) (e2.symm.trans g2.1) rfl;omega
   have hrem:=Zci (fun x:MapEntry×(P×P)=>x.1.born) seen (e,kv'[k]) (fun _=>True) (es.toList.zip kv') zinj znd hpair hun';have hp2:(kv'[k]::(((es.toList.zip kv').filter fun x=> !(seen.push e.born).contains x.1.born).map (·.2))).Perm rest:=by have:=(hrem.map (·.2)).trans hperm;simpa using this
   have hmemr:kv'[k]∈rest:=hp2.subset (by simp);obtain⟨j,hj⟩:=Znv.1 hmemr;have hjl:=(ZmA.1 hj).1;have hjv:rest[j]=kv'[k]:=(ZmA.1 hj).2;have hp3:(((es.toList.zip kv').filter fun x=> !(seen.push e.born).contains x.1.born).map (·.2)).Perm (rest.eraseIdx j):=by have h5:(rest[j]::rest.eraseIdx j).Perm rest:=ZeW rest j hjl;rw[hjv]at h5;exact(hp2.trans h5.symm).cons_inv
   have hek:=hkv k e kv'[k] (by simpa using hk) hq;have hheap:∀b',b'≠b->(setBlock w1 b (.mapIter (some m) clock (seen.push e.born) clock)).heap[b']? =w.heap[b']? :=fun b' hne=>by
    have:w1.heap=w.heap:=by rcases hal with rfl |rfl<;>rfl
    simp only[setBlock,this];exact Array.getElem?_setIfInBounds_ne (Ne.symm hne)
   have hheapb:(setBlock w1 b (.mapIter (some m) clock (seen.push e.born) clock)).heap[b]? =some (.mapIter (some m) clock (seen.push e.born) clock):=by
    have:w1.heap=w.heap:=by rcases hal with rfl |rfl<;>rfl
    simp only[setBlock,this];simp[hown.1]
   have hsz:(setBlock w1 b (.mapIter (some m) clock (seen.push e.born) clock)).heap.size=w.heap.size:=by
    have:w1.heap=w.heap:=by rcases hal with rfl |rfl<;>rfl
    simp[setBlock,this]
   have hmb:m≠b:=fun hh=>(hown.2.2.2 hfz) (hh▸hSm)
   have kp:Zcx S w (setBlock w1 b (.mapIter (some m) clock (seen.push e.born) clock)):=fun b' hb' _=>hheap b' fun hh=>(hown.2.2.2 hfz) (hh▸hb')
   refine⟨j,kv'[k],hj,(.tuple #[.bool true,e.key,e.val]),setBlock w1 b (.mapIter (some m) clock (seen.push e.born) clock),by simp[execOp,ho,hv,Sem.run_bind,hr,Result.andThen,Sem.run],ρ, ?_⟩;refine h.step ρ hi ht (Nat.le_of_eq hsz.symm) ?_ ?_ ?_ (fun _ _ h=>h) (fun id h=> .inl h) (by simp) (fun _ _ hm=>by simp at hm) (fun _ _ _ _ _ _ _ hm=>by simp at hm) ?_ ?_
   ·rcases hal with rfl |rfl<;>exact⟨rfl,rfl⟩
   ·intro b1 hb1 hne;exact hheap b1 fun hh=>hne id _ L (ZmI.2 rfl) hL (by rw[hLb,hh])
   ·intro id' o' hm';simp only[ZmI,ZmS]at hm';obtain⟨rfl,rfl⟩:=hm';exact⟨hfz,_,hlk,by simp⟩
   ·intro id' o' L1 hm' _ hL1 S' hS _;simp only[ZmI,ZmS]at hm';obtain⟨rfl,rfl⟩:=hm';rw[hL]at hL1;obtain rfl:=ZmQ hL1;refine⟨b,hLb,.inr ⟨m,es,clock,seen.push e.born,kv',hS m hSm,by rw[hheap m hmb];exact hm,hheapb,hel,fun i' e' q' h1 h2=>⟨(hkv i' e' q' h1 h2).1.mono kp hS,(hkv i' e' q' h1 h2).2.mono kp hS⟩,hborn,hbinj,hp3, ?_⟩⟩;exact⟨k,e,by simpa using hk,hq,by simp⟩
   ·intro S' hS _ d _;refine .tup _ _ rfl fun j' u c hu hc=> ?_
    match j' with
    |0=>simp at hu hc;subst hu hc;exact .p _ _ (.bool true)
    |1=>simp at hu hc;subst hu hc;exact .p _ _ (hek.1.mono kp hS)
    |2=>simp at hu hc;subst hu hc;exact .p _ _ (hek.2.mono kp hS)
    |j'+3=>simp at hc
end
end Eng
namespace Eng
open Go
section
variable {C:Ctx} {X:Nat->Prop} {ρ:Id->Option Lay} {S:Nat->Prop} {st:St} {a:Act} {w:World} {i:Nat} {o:Oper}
theorem ZhY (h:Rep C X ρ S st a.tmps w) (hi:¬X i) (E:∀d,o.dst=some d->d < C.E.nt) (I:Zk C.E) {args:Array Operand} {b:Array TypeId} {x:Operand} {t B:Nat} (J:o.op= .call {callee:= .builtin .cap,args,argTypes:=b})
  (f:args.toList=[x]) (m:b.toList=[t]) (k:Zz x=true) (u:C.E.td t=some (.sl B)) {id:Id} {s len:Nat} (D:ev C.E st.slots t x= .sl id s len):
  ∃c:Nat,len<=c/\c<=Zq/\∃v,(execOp a.eval o).run C.E.prog w= .ok (.value v) w/\∃ρ' S',Rep C (fun j=>X j\/j=i) ρ' S' (st.app i o.dst {val:= .p (.int .i64 c)}) (a.put o.dst v).tmps w:=by
 have y:=Zi h t k;rw[D]at y;have z:args.map a.eval= #[a.eval x]:=by rw[<-ZmV (xs:=args),f];simp
 have r:b= #[t]:=by rw[<-ZmV (xs:=b),m]
 subst r;obtain⟨d,F,A⟩:=I.und u;have p:C.E.prog.underlying t=some (.slice B):=by cases d<;>simp[Zat]at A;subst A;exact F
 generalize a.eval x=v at z y;cases y with
 |sl _ _ _ cap ad L M K g H N=>
 obtain⟨G,q⟩:=ZA (a:=a) (w:=w) (P:=C.E.prog) J;have l:(Builtin.cap_ #[t] o.type #[.slice ad len cap]).run C.E.prog w= .ok (.int .i64 cap) w:=by simp[Builtin.cap_,Za p,goInt]
 obtain⟨S',n⟩:=h.step (i:=i) (t:=o.dst) (e:={val:= .p (.int .i64 cap)}) (v:= .int .i64 cap) (w':=w) ρ hi E (ZmL _) (ZS.refl _) (fun _ _ _=>rfl) (by simp) (fun _ _ h=>h) (fun id h=> .inl h) (by simp) (fun _ _ g=>by simp at g) (fun _ _ _ _ _ _ _ g=>by simp at g) (by simp)
  (fun _ _ _ _ _=> .p _ _ (.int .i64 _ (ZdC g.2).1 (ZdC g.2).2))
 refine⟨cap,H,g.2,_, ?_,ρ,S',n⟩;rw[q,z];exact ZfW l
theorem ZjS (h:Rep C X ρ S st a.tmps w) (hi:¬X i) (ht:∀d,o.dst=some d->d < C.E.nt) (hE:Zk C.E) {args:Array Operand} {W:Array TypeId} {s x:Operand} {t u:Nat} {te:TI} {tu:TD} (ho:o.op= .call {callee:= .builtin .append,args,argTypes:=W})
  (F:args.toList=[s,x]) (a3:W.toList=[t,u]) (ac:∀y∈args.toList,Zz y=true) (V:C.E.elem t=some te) (bm:C.E.td u=some tu) (bk:(∃e,tu= .sl e)\/tu= .str) {id:Id} {es xs:List P}
  (hs:ev C.E st.slots t s= .sl id 0 es.length) (hx:Zcz st.objs te.size (ev C.E st.slots u x)=some xs) (I:st.objs id=some (.arr te.size es false)) (a2:st.fz id=false) (aw:(es.length+xs.length)*max te.bytes 1<=ZO):
  ∃v w',(execOp a.eval o).run C.E.prog w= .ok (.value v) w'/\
   ∃ρ' S',Rep C (fun j=>X j\/j=i) ρ' S' (st.app i o.dst {val:= .p (.sl te.size (es++xs)),wr:=[(id,.arr te.size es true)],frz:=[id]}) (a.put o.dst v).tmps w':=by
 have ha:args.map a.eval= #[a.eval s,a.eval x]:=by rw[<-ZmV (xs:=args),F];simp
 have bl:W= #[t,u]:=by rw[<-ZmV (xs:=W),a3]
 subst bl;obtain⟨ds,an,Q⟩:∃ds,C.E.prog.underlying u=some ds/\∀k,ds≠ .int k:=by obtain⟨d,hu,hd⟩:=hE.und bm;exact⟨d,hu,fun k hk=>by subst hk;rcases bk with ⟨e,rfl⟩ |rfl<;>simp[Zat]at hd⟩
 obtain⟨el,ar,ai⟩:∃el,(∃sz bb ze,C.E.ty t=some {d:= .sl el,size:=sz,bytes:=bb,zero:=ze})/\C.E.ty el=some te:=by unfold Env.elem at V;split at V;rotate_left;simp at V;rename_i e' _ _ _ hq;exact⟨e',⟨_,_,_,hq⟩,V⟩
 obtain⟨_,_,_,ar⟩:=ar;have aj:=hE.slice ar rfl;have Y:=Zi h t (ac s (by simp[F]));have a5:=Zi h u (ac x (by simp[F]));rw[hs]at Y;have aa:=Zds (P:=C.E.prog) h.objs a5 hx;have T:=Zds (P:=C.E.prog) (sz:=te.size) (xs:=es.take es.length) h.objs Y (by simp[Zcz,Zbh,I]);rw[List.take_length]at T;generalize a.eval x=vx at ha aa a5;generalize a.eval s=vs at ha Y T;cases Y with
 |sl _ _ _ sCap ad L0 A bp hm bo bi=>
 obtain⟨bq,be⟩:=ZA (a:=a) (w:=w) (P:=C.E.prog) ho;obtain⟨L',a4,af,K,ag,U,am,g,evs,M,D,H⟩:=h.objs id _ I (by simp);rw[A]at a4;obtain rfl:=ZmQ a4;obtain⟨news,ab,n1,n2,n3,n4,n5,n6,n7⟩:=aa;obtain⟨olds,bj,o1,o2,o3,o4,o5,o6,o7⟩:=T;have aq:es.length+xs.length<=ZO:=by have:=Nat.mul_le_mul_left (es.length+xs.length) (Nat.le_max_right te.bytes 1);omega
 have B:(es.length+xs.length)*te.bytes<=ZO:=Nat.le_trans (Nat.mul_le_mul_left _ (Nat.le_max_left _ _)) aw;have Z:∀b,L0.blk=some b->¬S b/\b < w.heap.size:=fun b l=>⟨(h.own id _ L0 b I (by simp) A l).2.2.2 a2,(h.own id _ L0 b I (by simp) A l).1⟩
 have bc:∀J o',(J,o')∈[(id,Obj.arr te.size es true)]->st.fz J=false/\∃o',st.objs J=some o'/\o'≠ .gone:=by intro J o' c;simp only[ZmI,ZmS]at c;obtain⟨rfl,rfl⟩:=c;exact⟨a2,_,I,by simp⟩
 have key:∀(v:Value) (w':World) (N:Nat->Prop),(∀b,N b->b < w'.heap.size/\w.heap.size<=b)->w.heap.size<=w'.heap.size->ZS w w'->(∀b,b < w.heap.size->L0.blk≠some b->w'.heap[b]? =w.heap[b]?)->
   (Builtin.append_ #[t,u] o.type #[.slice ad es.length sCap,vx]).run C.E.prog w= .ok v w'->
   (∀S',(∀b,S b->S' b)->ZB w' S' ρ L0 (.arr te.size es true))->
   (∀S',(∀b,N b->S' b)->(∀b,S b->S' b)->(∀b,L0.blk=some b->S' b)->RelP w' S' v (.sl te.size (es++xs)))->
   ∃v w',(execOp a.eval o).run C.E.prog w= .ok (.value v) w'/\
    ∃ρ' S',Rep C (fun j=>X j\/j=i) ρ' S' (st.app i o.dst {val:= .p (.sl te.size (es++xs)),wr:=[(id,.arr te.size es true)],frz:=[id]}) (a.put o.dst v).tmps w':=by
  intro v w' N hN ao hq bh f au as;obtain⟨S',ay⟩:=h.stepN (i:=i) (t:=o.dst) (e:={val:= .p (.sl te.size (es++xs)),wr:=[(id,.arr te.size es true)],frz:=[id]}) (v:=v) (w':=w') ρ N
   (fun b l=>⟨(hN b l).1,.inl (hN b l).2⟩) (fun _ _ _ _ c=>by simp at c) hi ht ao hq
   (fun b l ae=>bh b l (ae id _ L0 (ZmI.2 rfl) A)) bc (fun _ _ h=>h) (fun id h=> .inl h)
   (fun J c=>by simp only[ZmI]at c;subst c;exact⟨by rw[A];simp,fun o' az=>by simp only[ZmI,ZmS]at az;rw[az.2];simp⟩)
   (fun _ _ c=>by simp at c) (fun _ _ _ _ _ _ _ c=>by simp at c)
   (fun J o' L c _ hL S' a1 z hF=>by simp only[ZmI,ZmS]at c;obtain⟨rfl,rfl⟩:=c;rw[A]at hL;obtain rfl:=ZmQ hL;exact au S' z)
   (fun S' a1 z hF _ _=> .p _ _ (as S' a1 z fun b l=>hF id (ZmI.2 rfl) _ L0 b I (by simp) A l))
  refine⟨v,w', ?_,ρ,S',ay⟩;rw[be,ha];exact ZfW f
 by_cases hroom:es.length+xs.length<=sCap
 ·
  have av:=n4 xs.length (ZmL _) w rfl;rw[List.take_of_length_le (by omega)]at av;rcases bi with h0 |⟨b,r,rfl,R⟩
  ·have ax:es.length=0:=by omega
   have a7:xs.length=0:=by omega
   have ba:es=[]:=Zm1 ax;have bd:xs=[]:=Zm1 a7;refine key (.slice ad 0 sCap) w (fun _=>False) (fun _ l=>l.elim) (ZmL _) (ZS.refl _) (fun _ _ _=>rfl) ?_ (fun S' z=> ?_) (fun S' _ z _=> ?_)
   ·have:=Zbl (w:=w) (ty:=o.type) (ad:=ad) (sCap:=sCap) hE rfl aj ai an Q (by rw[<-a7];exact n3) (by simpa using n4 0 (by simp) w rfl);rw[ax];exact this
   ·exact⟨af,K,ag,U,am,g,evs,M,D,fun j e E=>(H j e E).mono (fun _ _ _=>rfl) z⟩
   ·subst ba bd;exact .sl _ 0 _ _ [] evs rfl (by simp) (by simp) (fun i hi=>by omega) (fun i hi=>by omega) (fun i e E=>by simp at E)
  ·have ah:∀m,m < news.length->(w.cell? ⟨b,L0.base+es.length*te.size+m,none⟩).isSome=true/\w.frozen? ⟨b,L0.base+es.length*te.size+m,none⟩=false:=fun m c=>by have a6:(es.length+xs.length)*te.size<=L0.cap*te.size:=Nat.mul_le_mul_right _ (by omega);rw[Nat.add_mul,<-n1]at a6;obtain⟨⟨v,q⟩,q2⟩:=g b r (es.length*te.size+m) (by omega);rw[show L0.base+es.length*te.size+m=L0.base+(es.length*te.size+m) by omega,q,q2];exact⟨rfl,rfl⟩
   have f:=Zca (w:=w) (ty:=o.type) hE rfl aj ai an Q (b:=b) (o:=L0.base+0*L0.sz) (sLen:=es.length) (sCap:=sCap) n3 av hroom (fun m c=>by rw[show L0.base+0*L0.sz+es.length*te.size+m=L0.base+es.length*te.size+m by omega];exact(ah m c).1) (fun m c=>by rw[show L0.base+0*L0.sz+es.length*te.size+m=L0.base+es.length*te.size+m by omega];exact(ah m c).2) n5;rw[show L0.base+0*L0.sz+es.length*te.size=L0.base+es.length*te.size by omega]at f;have p:=fun m=>Zac (w:=w) (b:=b) (o:=L0.base+es.length*te.size) (vs:=news) (fun m c=>(ah m c).1) m
   have kS:Zcx S w (w.setCells b (L0.base+es.length*te.size) news):=fun b' bg _=>Zp b _ _ _ b' (fun e=>(Z b r).1 (e▸bg))
   have O:∀(j k:Nat) v,j < L0.len->(evs j).cells[k]? =some v->(w.setCells b (L0.base+es.length*te.size) news).cell? ⟨b,L0.base+j*te.size+k,none⟩=some v:=fun j k v hj G=>by
    have hk:k < te.size:=by have:=(Zmp.1 G).1;have:=M j hj;omega
    have:(j+1)*te.size<=es.length*te.size:=Nat.mul_le_mul_right _ (by omega);rw[Nat.add_mul,Nat.one_mul]at this;rw[p,if_neg (by omega)];exact D b r j k v hj G
   refine key _ _ (fun _=>False) (fun _ l=>l.elim) (by rw[ZV];exact ZmL _) (ZS.setCells _ _ _ _) (fun b' _ ae=>Zp b _ _ _ b' (fun e=>ae (e▸r))) f (fun S' z=> ?_) (fun S' _ z hF=> ?_)
   ·refine⟨af,K,ag,U,am,fun b1 B m c=> ?_,evs,M,fun b1 B j k v hj G=> ?_,fun j e E=>(H j e E).mono kS z⟩
    ·rw[r,ZmR]at B;subst B;obtain⟨⟨v,q⟩,q2⟩:=g b r m c;refine⟨?_,by rw[World.frozen?_setCells];exact q2⟩;rw[p];split
     ·exact⟨_,List.getElem?_eq_getElem (by omega)⟩
     ·exact⟨v,q⟩
    ·rw[r,ZmR]at B;subst B;exact O j k v hj G
   ·refine .sl _ _ _ _ _ (ZgF es.length evs ab) (by simp) (by unfold ZO at aq;unfold Zag;omega) hroom (fun j hj=> ?_) (fun j hj=>⟨b,_,rfl,hF b r,fun k v G=> ?_⟩) (fun j e E=> ?_)
    ·unfold ZgF;split
     ·exact M j (by omega)
     ·exact(n6 (j - es.length) (by omega)).1
    ·unfold ZgF at G;rw[show L0.base+0*L0.sz+j*te.size+k=L0.base+j*te.size+k by omega];split at G
     ·exact O j k v (by omega) G
     ·rename_i n;have:=(n6 (j - es.length) (by omega)).2 k v G;have ak:(j - es.length)*te.size+k < news.length:=(ZmA.1 this).1;have a8:j*te.size=es.length*te.size+(j - es.length)*te.size:=by rw[<-Nat.add_mul];congr 1;omega
      rw[p,if_pos (by omega),show L0.base+j*te.size+k - (L0.base+es.length*te.size)=(j - es.length)*te.size+k by omega];exact this
    ·unfold ZgF
     by_cases n:j < es.length
     ·rw[List.getElem?_append_left n]at E;rw[if_pos n];exact(H j e E).mono kS z
     ·rw[List.getElem?_append_right (by omega)]at E;rw[if_neg n];exact(n7 _ e E).mono kS z
 ·
  obtain⟨rest,al,f⟩:=ZbM (w:=w) (ty:=o.type) hE rfl aj ai an Q (m:=xs.length) n3 (news:=news) (fun w' ap=>by
   have:=n4 xs.length (ZmL _) w' ap
   rwa [List.take_of_length_le (by omega)]at this) (ad:=ad) (sLen:=es.length) (sCap:=sCap) (olds:=olds) (fun w' ap=>by
   have:=o4 es.length (by omega) w' ap
   rwa [List.take_of_length_le (by rw[o1];exact ZmL _)]at this) (by omega) (by unfold ZO at aq;unfold Zq;omega) B
  have R:=grownCap_ge w (es.length+xs.length) sCap el;generalize grownCap w (es.length+xs.length) sCap el=cap at f al R;generalize hww:w.drew.alloc (.cells (olds.toArray++news.toArray++rest) el)=w' at f;have hw:w'.heap=w.heap.push (.cells (olds.toArray++news.toArray++rest) el):=by rw[<-hww];rfl
  have kp:∀b,b < w.heap.size->w'.heap[b]? =w.heap[b]? :=fun b l=>Zao hw l
  have bn:w'.heap.size=w.heap.size+1:=by rw[hw];simp
  have hc:∀j,w'.cell? ⟨w.heap.size,j,none⟩=(olds.toArray++news.toArray++rest)[j]? :=fun j=>by simp[World.cell?,Z2 hw]
  have kS:Zcx S w w':=fun b l _=>kp b (h.sIn b l)
  have a9:ZS w w':=by rw[<-hww];exact⟨rfl,rfl⟩
  refine key _ w' (fun b=>b=w.heap.size) (fun b l=>by omega) (by omega) a9 (fun b l _=>kp b l) f (fun S' z=> ?_) (fun S' hN z hF=> ?_)
  ·have bf:ZB w S ρ L0 (.arr te.size es true):=⟨af,K,ag,U,am,g,evs,M,D,H⟩;exact bf.mono kS z (fun _ _ h=>h) (fun b l=>kp b (Z b l).2)
  ·refine .sl _ _ _ _ _ (ZgF es.length bj ab) (by simp) (by unfold ZO at aq;unfold Zag;omega) R (fun j hj=> ?_) (fun j hj=>⟨w.heap.size,0,rfl,hN _ rfl,fun k v G=> ?_⟩) (fun j e E=> ?_)
   ·unfold ZgF;split
    ·exact(o6 j (by omega)).1
    ·exact(n6 (j - es.length) (by omega)).1
   ·rw[hc,Znh];unfold ZgF at G;split at G
    ·rename_i n;have:=(o6 j (by omega)).2 k v G;have ak:j*te.size+k < olds.length:=(ZmA.1 this).1;rw[ZmT,if_pos (by simp;omega),ZmT,if_pos (by simpa using ak)];simpa using this
    ·rename_i n;have:=(n6 (j - es.length) (by omega)).2 k v G;have ak:(j - es.length)*te.size+k < news.length:=(ZmA.1 this).1;have a8:j*te.size=es.length*te.size+(j - es.length)*te.size:=by rw[<-Nat.add_mul];congr 1;omega
     rw[ZmT,if_pos (by simp;omega),ZmT,if_neg (by simp;omega)];simp only[List.size_toArray,List.getElem?_toArray];rw[show j*te.size+k - olds.length=(j - es.length)*te.size+k by omega];exact this
   ·unfold ZgF
    by_cases n:j < es.length
    ·rw[List.getElem?_append_left n]at E;rw[if_pos n];exact(o7 j e E).mono kS z
    ·rw[List.getElem?_append_right (by omega)]at E;rw[if_neg n];exact(n7 _ e E).mono kS z
end
section
variable {U:Zc}
noncomputable def anyN {β:Type} (n:Nat) (f:Nat->Option β):Option β:=
 @dite _ (∃r,∀c,n<=c->c<=Zq->f c=some r) (Classical.propDecidable _) (fun h=>some h.choose) fun _=>none
theorem Zj7 {β:Type} {n:Nat} {f:Nat->Option β} {r:β} (h:anyN n f=some r) {c:Nat} (d:n<=c) (b:c<=Zq):f c=some r:=by unfold anyN at h;split at h;rotate_left;simp at h;rename_i a;simp only[ZmR]at h;rw[<-h];exact a.choose_spec c d b
def ZkN (X:ZG U) (T:TS U) (o:Oper):Option Nat:=
 match o.op with
 | .call c=>match c.callee,c.args.toList,c.argTypes.toList with
  | .builtin .cap,[x],[t]=>match X.get t,evT X T.slots t x with
   |some e,some d=>match e.ti.d with
    | .sl _=>match d with
     | .full id _=>match T.objs id with
      |some (.arr _ xs _)=>some (Znn xs)
      |_=>none
     | .sl _ _ len=>some len
     |_=>none
    |_=>none
   |_,_=>none
  |_,_,_=>none
 |_=>none
structure KpI (U:Zc) where
 id:Id
 t:Ty
 xs:List (El U.car t)
 ys:List (El U.car t)
 by_:Nat
def ZkE (a:List Nat) (X:ZG U) (T:TS U) (o:Oper):Option (KpI U):=
 match o.dst with
 |some k=>if a.contains k then match o.op with
  | .call c=>match c.callee,c.args.toList,c.argTypes.toList with
   | .builtin .append,[s,x],[t,u]=>match X.elem t,X.get u,evT X T.slots t s,evT X T.slots u x with
    |some e,some eu,some (.full id _),some dx=>if U.tsize e.ty=e.ti.size/\Zki eu.ti.d=true then match Zmc T dx e.ty,T.objs id with
     |some ys,some (.arr t' xs false)=>match (Lf.mk (.sl t') xs:Lf U.car).as (.sl e.ty)with
      |some xs=>if T.fz id=false then some ⟨id,e.ty,xs,ys,e.ti.bytes⟩else none
      |none=>none
     |_,_=>none
     else none
    |_,_,_,_=>none
   |_,_,_=>none
  |_=>none
  else none
 |none=>none
variable {C:Ctx} {Xs:Nat->Prop} {ρ:Id->Option Lay} {S:Nat->Prop} {a:Act} {w:World} {i:Nat} {o:Oper} {X:ZG U} {T:TS U}
theorem ZiL (A:TOk X) (E:T.Inv) (k:C.E=X.E) (h:Rep C Xs ρ S T.enc a.tmps w) (hi:¬Xs i) (B:Zk C.E) (l:Zfj X.E o=true) {n:Nat} (b:ZkN X T o=some n):
  (∀c,o.op≠ .defer c)/\∃c:Nat,n<=c/\c<=Zq/\∃v,(execOp a.eval o).run C.E.prog w= .ok (.value v) w/\∃ρ' S',Rep C (fun j=>Xs j\/j=i) ρ' S' (T.enc.app i o.dst {val:= .p (.int .i64 c)}) (a.put o.dst v).tmps w:=by
 have z:∀d,o.dst=some d->d < C.E.nt:=by rw[k];simp only[Zfj,Zmt]at l;exact Za9 l.1
 unfold ZkN at b;split at b;rotate_left;simp at b;rename_i c g;refine⟨fun I q=>(by rw[g]at q;cases q), ?_⟩;obtain⟨G,args,H⟩:=c;dsimp only at b;split at b;rotate_left;simp at b;rename_i x t f p;split at b;rotate_left;simp at b;rename_i e d D y;have m:Zz x=true:=by simp only[Zfj,Zmt]at l;have:=l.2;rw[g]at this;simp only[Op.operands,Call.operands,Array.all_eq_true']at this;exact this x (by simp[<-Array.mem_toList_iff,f])
 split at b;rotate_left;simp at b;rename_i F u;have s:C.E.td t=some (.sl F):=by rw[k];rw[<-u];exact Zr D
 split at b
 ·split at b;rotate_left;simp at b;rename_i r;cases b;exact ZhY h hi z B g f p m s (by rw[k,Zb A y,<-Za5 E y r];rfl)
 ·cases b;exact ZhY h hi z B g f p m s (by rw[k,Zb A y];rfl)
 ·simp at b
theorem Ziw (K:TOk X) (R:T.Inv) (g:C.E=X.E) (h:Rep C Xs ρ S T.enc a.tmps w) (hi:¬Xs i) (hE:Zk C.E) (l:Zfj X.E o=true) {D:List Nat} {q:KpI U} (b:ZkE D X T o=some q) (p:ZiZ (q.xs.length+q.ys.length) q.by_=true):
  (∀c,o.op≠ .defer c)/\ZJ T i {val:= .v (.sl q.t) (q.xs++q.ys),wr:=[(q.id,.arr q.t q.xs true)],frz:=[q.id]}/\∃v w',(execOp a.eval o).run C.E.prog w= .ok (.value v) w'/\
   ∃ρ' S',Rep C (fun j=>Xs j\/j=i) ρ' S' (T.enc.app i o.dst (Zh.enc {val:= .v (.sl q.t) (q.xs++q.ys),wr:=[(q.id,.arr q.t q.xs true)],frz:=[q.id]} [])) (a.put o.dst v).tmps w':=by
 have ht:∀d,o.dst=some d->d < C.E.nt:=by rw[g];simp only[Zfj,Zmt]at l;exact Za9 l.1
 unfold ZkE at b;split at b;rotate_left;simp at b;split at b;rotate_left;simp at b;split at b;rotate_left;simp at b;rename_i c z;refine⟨fun c' A=>(by rw[z]at A;cases A), ?_⟩;obtain⟨ab,args,ac⟩:=c;dsimp only at b;split at b;rotate_left;simp at b;rename_i s x t u r F;have B:∀y∈args.toList,Zz y=true:=by simp only[Zfj,Zmt]at l;have:=l.2;rw[z]at this;simp only[Op.operands,Call.operands,Array.all_eq_true']at this;exact fun y hy=>this y (by simpa using hy)
 split at b;rotate_left;simp at b;rename_i e G id n dx he I Q E;split at b;rotate_left;simp at b;rename_i k;split at b;rotate_left;simp at b;rename_i ys t' Y N f;split at b;rotate_left;simp at b;rename_i xs L;split at b;rotate_left;simp at b;rename_i J;cases b;have hq:=ZN L;cases hq;have W:n=Znn xs:=Za5 R Q f;have m:=Zdh R K E N;rw[k.1]at m;have H:C.E.elem t=some e.ti:=by rw[g];exact ZaE he
 have P:C.E.td u=some G.ti.d:=by rw[g];exact Zr I
 have O:(∃e,G.ti.d= .sl e)\/G.ti.d= .str:=by have Z:=k.2;revert Z;cases G.ti.d<;>simp[Zki]
 refine⟨Zb4 rfl (fun t2 aa V M=> ?_) (fun _=>by trivial), ?_⟩
 ·cases M;exact⟨_,_,_,f,rfl⟩
 ·have:=ZjS (es:=xs.map (U.encE e.ty)) (xs:=ys.map (U.encE e.ty)) h hi ht hE z r F B H P O (id:=id) (by rw[g,Zb K Q,Znp,<-W];rfl) (by rw[g,Zb K E];exact m)
   (by rw[Zg f,ZM,k.1]) J (by simpa[ZiZ]using p)
  simpa only[Zh.enc,TV.enc,Zc.encE,ZmD,Znt,ZM,Znq,k.1]using this
end
end Eng

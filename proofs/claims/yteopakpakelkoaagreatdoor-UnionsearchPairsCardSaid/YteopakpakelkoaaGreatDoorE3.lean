/- The engine, text 3: an abstract evaluator of Go code over pure data, proved sound. -/
import Derived.Test.YteopakpakelkoaaGreatDoorE2
import Derived.ChangeSame
set_option linter.all false
open Array renaming getElem?_eq_some_iff->Znq, getElem?_append->ZnQ, getElem?_toList->ZnS
open Bool renaming and_eq_true->Znu, false_eq_true->Znv, not_eq_true'->ZnU, and_eq_false_iff->Zol, or_eq_false_iff->Zom
open List renaming getElem?_eq_some_iff->ZnA, getElem?_map->ZnB, map_cons->Zn6, mem_append->Zn7, mem_cons->ZnD, mem_cons_self->ZnE, mem_flatMap->Zob, mem_singleton->ZnF, all_eq_true->ZnV, getElem?_append_left->Zn0, getElem?_append_right->Zn1, getElem?_cons_succ->Zop, getElem?_eq_getElem->Zn2, mem_cons_of_mem->Zoa, mem_iff_getElem->Zoc, mem_map->Zod, mem_of_getElem?->Zoe, flatMap_cons->Zon, getD_eq_getElem?_getD->Zoo, length->Zoq, length_map->Zor, map_append->ZoA, map_drop->Zos, map_map->ZoB, map_nil->Zot, map_take->ZoG, mem_iff_getElem?->Zou, mem_map_of_mem->Zov
open Nat renaming add_assoc->ZnH, add_mul->ZnI, le_refl->ZnJ, mul_le_mul_right->ZnK, one_mul->Zoj, zero_add->Zok
open Option renaming map_eq_some_iff->ZnM, some.inj->ZnN, some.injEq->ZnO, map_some->Zow
open Prod renaming mk.injEq->ZnP
namespace Eng
open Go
theorem Zex:∀(n:Nat) (l:List Arg) (k:Nat) (d:D),(k,d)∈Zc9 n l->∃j x,l[j]? =some x/\k=n+j/\d=x.d (n+j)
 |n,[],k,d,h=>by grind[Zc9]
 |n,x::l,k,d,h=>by
  rcases ZnD.1 h with h |h
  ·simp only[ZnP]at h;obtain⟨rfl,rfl⟩:=h;grind
  ·obtain⟨j,a,q1,c,b⟩:=Zex (n+1) l k d h;exact⟨j+1,a,by simp_all,by omega,by grind⟩
theorem Zg1:∀(n:Nat) (l:List Arg) (id:Id) (o:Obj),(id,o)∈Zcl n l->∃j x,l[j]? =some x/\id=(0,n+j,0)/\x.o=some o
 |n,[],id,o,h=>by grind[Zcl]
 |n,x::l,id,o,h=>by
  have b:(id,o)∈Zcl (n+1) l->∃j a,(x::l)[j]? =some a/\id=(0,n+j,0)/\a.o=some o:=fun h=>by obtain⟨j,a,q1,e,c⟩:=Zg1 (n+1) l id o h;exact⟨j+1,a,by simp_all,by grind,c⟩
  unfold Zcl at h;split at h
  ·rename_i u d;rcases ZnD.1 h with h |h
   ·simp only[ZnP]at h;obtain⟨rfl,rfl⟩:=h;exact⟨0,x,rfl,rfl,d⟩
   simp_all
  simp_all
theorem ZcH:∀(n:Nat) (l:List AE) (j:Nat) (x:AE) (id:Id),l[j]? =some x->x.id=some id->((0,n+j,0),id)∈Zaa n l
 |n,[],j,x,id,h,_=>by grind
 |n,y::l,j,x,id,h,hid=>by
  cases j with
  |zero=>
   grind[Zaa]
  |succ j=>
   simp only[Zop]at h;have:=ZcH (n+1) l j x id h hid;grind[Zaa]
theorem ZbI:∀(n:Nat) (l:List AE) (a b:Id),(a,b)∈Zaa n l->∃j x,l[j]? =some x/\a=(0,n+j,0)/\x.id=some b
 |n,[],a,b,h=>by grind[Zaa]
 |n,x::l,a,b,h=>by
  have d:(a,b)∈Zaa (n+1) l->∃j c,(x::l)[j]? =some c/\a=(0,n+j,0)/\c.id=some b:=fun h=>by obtain⟨j,c,q1,g,e⟩:=ZbI (n+1) l a b h;exact⟨j+1,c,by simp_all,by grind,e⟩
  unfold Zaa at h;split at h
  ·rename_i u f;rcases ZnD.1 h with h |h
   ·simp only[ZnP]at h;obtain⟨rfl,rfl⟩:=h;exact⟨0,x,rfl,rfl,f⟩
   simp_all
  simp_all
theorem Za6 {outs:List (Nat×Arg)}:∀(n:Nat) (l:List AE) (id:Id) (o:Obj),(id,o)∈Zbr outs n l->∃j x,l[j]? =some x/\x.id=some id/\o=Zds outs (n+j)
 |n,[],id,o,h=>by grind[Zbr]
 |n,x::l,id,o,h=>by
  have b:(id,o)∈Zbr outs (n+1) l->∃j a,(x::l)[j]? =some a/\a.id=some id/\o=Zds outs (n+j):=fun h=>by obtain⟨j,a,q1,c,e⟩:=Za6 (n+1) l id o h;exact⟨j+1,a,by simp_all,c,by grind⟩
  unfold Zbr at h;split at h
  ·rename_i u d;rcases ZnD.1 h with h |h
   ·simp only[ZnP]at h;obtain⟨rfl,rfl⟩:=h;exact⟨0,x,rfl,d,rfl⟩
   simp_all
  simp_all
theorem ZdC {outs:List (Nat×Arg)}:∀(n:Nat) (l:List AE) (j:Nat) (x:AE) (id:Id),l[j]? =some x->x.id=some id->(id,Zds outs (n+j))∈Zbr outs n l
 |n,[],j,x,id,h,_=>by grind
 |n,y::l,j,x,id,h,hid=>by
  cases j with
  |zero=>
   grind[Zbr]
  |succ j=>
   simp only[Zop]at h;have:=ZdC (outs:=outs) (n+1) l j x id h hid;grind[Zbr]
theorem ZeT:∀(n:Nat) (l:List RV) (j:Nat) (o:Obj),(j,o)∈Za1 n l->∃m x,l[m]? =some x/\j=n+m/\x.o=some o
 |n,[],j,o,h=>by grind[Za1]
 |n,x::l,j,o,h=>by
  have b:(j,o)∈Za1 (n+1) l->∃m a,(x::l)[m]? =some a/\j=n+m/\a.o=some o:=fun h=>by obtain⟨m,a,q1,d,c⟩:=ZeT (n+1) l j o h;exact⟨m+1,a,by simp_all,by omega,c⟩
  unfold Za1 at h;split at h
  ·rename_i u e;rcases ZnD.1 h with h |h
   ·simp only[ZnP]at h;obtain⟨rfl,rfl⟩:=h;grind
   simp_all
  simp_all
theorem ZjY:∀(n:Nat) (l:List RV) (j:Nat) (x:RV) (o:Obj),l[j]? =some x->x.o=some o->Zg (Zh7 n l) (1,n+j,0)=some o
 |n,[],j,x,o,h,_=>by grind
 |n,y::l,j,x,o,h,ho=>by
  cases j with
  |zero=>
   grind[Zh7,Zg]
  |succ j=>
   simp only[Zop]at h;have:=ZjY (n+1) l j x o h ho;grind[Zh7,Zg]
theorem Zgj {ep i:Nat} {e:List AE}:∀(n:Nat) (l:List RV) (a:List D),Zhj ep i e n l=some a->a.length=l.length/\∀(j:Nat) x d,l[j]? =some x->a[j]? =some d->x.at ep i e (n+j)=some d
 |n,[],a,h=>by grind[Zhj]
 |n,x::l,a,h=>by
  unfold Zhj at h;split at h;rotate_left;simp at h;rename_i d c f b;cases h;obtain⟨q1,g⟩:=Zgj (n+1) l c b;grind
section
variable {C:Ctx} {X:Nat->Prop} {ρ:Id->Option Lay} {S:Fz} {st:St} {a:Act} {w:World}
theorem Zjo (h:Rep C X ρ S st a.tmps w) {c:Call} {pts:List Nat} {f:Operand} (r:c.callee= .value f) {g:Nat} {b e:List D} (q:Zck (ev C.E st.slots 0 f)=some (g,b,e))
  (F:ZE f=true) (B:∀x∈c.args.toList,ZE x=true):∃l:Array Value,l.size=(b++ZY C.E st.slots c.args.toList pts++e).length/\
   (∀(j:Nat) v d,l[j]? =some v->(b++ZY C.E st.slots c.args.toList pts++e)[j]? =some d->RelD w S ρ v d)/\
   ∀(ty:TypeId),((do let d <-resolve a.eval c ty;invoke d.target d.args:Sem Next)).run C.E.prog w=(callFunc g l).run C.E.prog w:=by
 have o:=Zm h 0 F;have E:∃fs cs:Array Value,a.eval f= .func (.func g) fs cs/\fs.size=b.length/\cs.size=e.length/\(∀(j:Nat) v d,fs[j]? =some v->b[j]? =some d->RelD w S ρ v d)/\∀(j:Nat) v d,cs[j]? =some v->e[j]? =some d->RelD w S ρ v d:=by
  unfold Zck at q;split at q
  ·rename_i G x y n;simp only[ZnO,ZnP]at q;obtain⟨rfl,rfl,rfl⟩:=q;rw[n]at o;generalize a.eval f=vf at o;have o:=o.of_p;cases o with
   |fn _ fs cs _ _ p t u s=>
    refine⟨fs,cs,rfl,by simpa using p,by simpa using t,fun j v d k i=> ?_,fun j v d k i=> ?_⟩
    ·rw[ZnB,ZnM]at i;obtain⟨x,z,rfl⟩:=i;exact .p _ _ (u j v x k z)
    ·rw[ZnB,ZnM]at i;obtain⟨x,z,rfl⟩:=i;exact .p _ _ (s j v x k z)
  ·rename_i G x y n;simp only[ZnO,ZnP]at q;obtain⟨rfl,rfl,rfl⟩:=q;rw[n]at o;generalize a.eval f=vf at o;cases o with
   |fn _ fs cs _ _ p t u s=>exact⟨fs,cs,rfl,p,t,u,s⟩
  ·simp at q
 obtain⟨fs,cs,n,p,t,u,s⟩:=E;obtain⟨q1,H⟩:=Zaj h c.args.toList pts B;refine⟨fs++c.args.map a.eval++cs,by simp[p,t,q1],fun j v d k i=> ?_,fun ty=> ?_⟩
 ·rw[ZnQ]at k;have J:(fs++c.args.map a.eval).size=(b++ZY C.E st.slots c.args.toList pts).length:=by simp[p,q1]
  split at k
  ·rename_i I;rw[Zn0 (by omega)]at i;rw[ZnQ]at k;split at k
   ·rename_i A;rw[Zn0 (by omega)]at i;exact u j v d k i
   ·rename_i A;rw[Zn1 (by omega)]at i;refine H (j - b.length) v d ?_ i;rw[p]at k;have:=k;rw[<-ZnS]at this;simpa using this
  ·rename_i I;rw[Zn1 (by omega)]at i;rw[J]at k;exact s _ v d k i
 ·have m:c.callee= .value f:=r;simp[resolve,m,n,Deferred.ofValue,invoke,Array.append_assoc]
theorem Zjp {P:Program} {g:Nat} {fn:Func} (vals:Array Value) (w:World) (hfu:P.funcs[g]? =some fn) (hnm:(fn.name == "runtime.NumGoroutine")=false) (hbd:fn.body.isNone=false):(callFunc g vals).run P w= .ok (.enter g vals) w:=by
 have hnm':¬fn.name= "runtime.NumGoroutine" :=by simp_all
 have hbd':¬fn.body=none:=by grind
 simp_all[callFunc]
theorem ZlK (h:Rep C X ρ S st a.tmps w) {m:AM} {d:D} {x:AE} (b:ZdD st m d=some x):∀f∈x.fs,∃o,st.objs f=some o/\o≠ .gone:=by
 unfold ZdD at b;split at b
 ·split at b;rotate_left;simp at b;grind[ZaY]
 ·split at b;rotate_left;simp at b;rename_i g e;split at b;rotate_left;simp at b;rename_i cs c;cases b;exact ZeX (a:= .box cs) (o:= .box g) h (by simp[Zag,c])
 all_goals grind[ZaY]
theorem ZlI {S1:Fz} (h:Rep C X ρ S st a.tmps w) (hSS:∀b c,S b c->S1 b c) {m:AM} {d:D} {x:AE} (hx:ZdD st m d=some x) {v:Value} (hr:RelD w S ρ v d) (hfs:∀f∈x.fs,∀L b,ρ f=some L->L.blk=some b->∀c,inL (st.objs f) L c->S1 b c)
  (hcond:∀c∈x.cond,c=true) {ρ':Id->Option Lay} {k:Nat} (hρ:∀id,x.id=some id->ρ' (0,k,0)=ρ id)
  (hρr:∀y k' m,x.arg= .boxr y k'->x.ref=some m->ρ' (0,k',0)=ρ m):
  x.arg.vis=true/\RelD w S1 ρ' v (x.arg.d k)/\(∀o',x.arg.o=some o'->∃id o,x.id=some id/\st.objs id=some o/\o≠ .gone/\o'≠ .gone/\∀L,ρ id=some L->Zp w S1 ρ L o->Zp w S1 ρ' L o')/\
   (∀id,x.id=some id->∃o,st.objs id=some o/\o≠ .gone/\o.soft=false):=by
 unfold ZdD at hx;split at hx
 ·split at hx;rotate_left;simp at hx;rename_i y hy;cases hx;exact⟨rfl,.p _ _ (Zaf h.objs hSS depth _ _ _ hr hy hfs),fun o' ho=>by grind[Arg.o],fun id hid=>by simp_all⟩
 ·rename_i id;split at hx;rotate_left;simp at hx;rename_i ds hlk;split at hx;rotate_left;simp at hx;rename_i cs hcs;cases hx;obtain⟨q1,q2⟩:=Zh hcs;refine⟨rfl, ?_,fun o' ho=> ?_,fun id' hid=>by simp_all⟩
  ·cases hr with
   |ptr _ _ _ L b hL hi hb=>exact .ptr _ 0 0 L b (by simp_all) hi hb
  ·simp only[Arg.o,ZnO]at ho;subst ho;refine⟨id,_,rfl,hlk,by simp,by simp,fun L hL hro=> ?_⟩;obtain⟨L',hL',hro0⟩:=h.objs id _ hlk (by simp);rw[hL]at hL';obtain rfl:=ZnN hL';obtain⟨o',p1,_,p3⟩:=ZbP (ρ':=ρ') h hSS (a:= .box cs) (fs:=ds.flatMap fun d=>d.ids st.objs depth) (by grind[Zag]) hfs hro0;grind[Arg.o]
 ·rename_i id len;split at hx;rotate_left;simp at hx;rename_i sz es hlk;cases hx;have hle:len=es.length:=of_decide_eq_true (hcond _ ZnE);subst hle;refine⟨rfl, ?_,fun o' ho=> ?_,fun id' hid=>by simp_all⟩
  ·cases hr with
   |sl _ _ _ cap ad L hL hl hm hcp ha=>exact .sl _ 0 _ cap ad L (by simp_all) hl hm hcp ha
  ·simp only[Arg.o,ZnO]at ho;subst ho;exact⟨id,_,rfl,hlk,by simp,by simp,fun L _ hr=>hr⟩
 ·rename_i id;split at hx;rotate_left;simp at hx;rename_i td kv hlk;cases hx;refine⟨rfl, ?_,fun o' ho=> ?_,fun id' hid=>by simp_all⟩
  ·cases hr with
   |map _ L b hL hb=>exact .map _ L b (by simp_all) hb
  ·simp only[Arg.o,ZnO]at ho;subst ho;exact⟨id,_,rfl,hlk,by simp,by simp,fun L _ hr=>hr⟩
 ·rename_i id off len;split at hx;rotate_left;simp at hx;rename_i sz es hlk;cases hx;refine⟨rfl, ?_,fun o' ho=> ?_,fun id' hid=>by simp_all⟩
  ·cases hr with
   |sl _ _ _ cap ad L hL hl hm hcp ha=>exact .sl _ off len cap ad L (by simp_all) hl hm hcp ha
  ·simp only[Arg.o,ZnO]at ho;subst ho;exact⟨id,_,rfl,hlk,by simp,by simp,fun L _ hr=>hr⟩
 ·rename_i k' id;split at hx;rotate_left;simp at hx;rename_i d m hlk;split at hx;rotate_left;simp at hx;rename_i y hy;cases hx;refine⟨rfl, ?_,fun o' ho=>by grind[Arg.o],fun id' hid=>by simp_all⟩;cases hr with
  |ptr _ _ _ L b hL hi hb=>
   obtain⟨L',hL',b',r1,r2,r3,r4⟩:=h.objs id _ hlk (by simp);rw[hL]at hL';obtain rfl:=ZnN hL';rw[hb]at r1;obtain rfl:=ZnN r1;obtain⟨v,s1,s2,s3,s4⟩:=r4 0 d rfl;obtain⟨v',t1,t2,t3,t4⟩:=r4 1 _ rfl;cases t4 with
   |map _ Lm bm hLm hbm=>
    have hS1:=hfs id ZnE L b hL hb;have q:=Zaf h.objs hSS depth _ _ _ s4 hy fun f hf=>hfs f (Zoa _ hf)
    exact .rp (some y) (0,k',0) b _ bm v Lm (fun c=>hS1 c (by rw[hlk];trivial)) (fun y' hy'=>by simp_all) (by simp_all) (by simp_all) hbm
 ·rename_i k' y m;cases hx;refine⟨rfl, ?_,fun o' ho=>by grind[Arg.o],fun id' hid=>by simp_all⟩;cases hr with
  |rp _ _ b o' r u L hS hy hm hL hb=>
   exact .rp (some y) (0,k',0) b o' r u L (fun c=>hSS b c (hS c)) (fun y' hy'=>⟨(hy y' hy').1,(hy y' hy').2.1,(hy y' hy').2.2.mono (.refl _ _) hSS⟩) hm (by simp_all) hb
 simp_all
end
end Eng
namespace Eng
open Go
theorem Zp.pureArg {w w':World} {S S':Fz} {ρ ρ':Id->Option Lay} {L:Lay} {a:Arg} {o:Obj} (e:a.o=some o) (g:ZbM S w w') (f:∀b c,S b c->S' b c) (i:∀b,L.blk=some b->w'.heap[b]? =w.heap[b]?) (h:Zp w S ρ L o):Zp w' S' ρ' L o:=by
 cases a with
 |p x=>grind[Arg.o]
 |box cs=>
  simp only[Arg.o,ZnO]at e;subst e;obtain⟨b,u,n,t,m⟩:=h;refine⟨b,u,n,t,fun j d l=> ?_⟩;obtain⟨v,q1,z,q,s⟩:=m j d l;rw[ZnB,ZnM]at l;obtain⟨x,A,rfl⟩:=l;exact⟨v,by grind[ZS],by grind[ZaQ],q,.p _ _ (s.of_p.mono g f)⟩
 |arr sz es=>
  simp only[Arg.o,ZnO]at e;subst e;exact h.mono (ρ':=ρ) g f (fun _ _ h=>h) i
 |map td r=>
  simp only[Arg.o,ZnO]at e;subst e;exact h.mono (ρ':=ρ) g f (fun _ _ h=>h) i
 |part sz es y len=>
  simp only[Arg.o,ZnO]at e;subst e;exact h.mono (ρ':=ρ) g f (fun _ _ h=>h) i
 |hmap td r=>
  simp only[Arg.o,ZnO]at e;subst e;exact h.mono (ρ':=ρ) g f (fun _ _ h=>h) i
 |boxr x k=>grind[Arg.o]
theorem Zp.pureRV {w w':World} {S S':Fz} {ρ ρ':Id->Option Lay} {L:Lay} {x:RV} {o:Obj} (d:x.o=some o) (g:ZbM S w w') (e:∀b c,S b c->S' b c) (f:∀b,L.blk=some b->w'.heap[b]? =w.heap[b]?) (h:Zp w S ρ L o):Zp w' S' ρ' L o:=by
 cases x with
 |own sz es=>exact h.pureArg (a:= .arr sz es) d g e f
 |aown pre sz es i l=>
  cases l with
  |none=>exact h.pureArg (a:= .arr sz es) d g e f
  |some q=>
   simp only[RV.o,arrO,ZnO]at d;subst d;exact h.mono (ρ':=ρ) g e (fun _ _ h=>h) f
 |box cs=>exact h.pureArg (a:= .box cs) d g e f
 |map td j=>exact h.pureArg (a:= .map td j) d g e f
 |p x=>grind[RV.o]
 |view k m len=>grind[RV.o]
theorem Zgs:∀(l:List (Nat×Arg)) (k:Nat) (a:Arg) (o:Obj),Zg l k=some a->a.o=some o->Zg (Zcb l) (0,k,0)=some o
 | [],k,a,o,h,_=>by grind[Zg]
 |(k',a')::l,k,a,o,h,ho=>by
  simp only[Zg]at h;split at h
  ·grind[Zcb,Zg]
  ·rename_i b;have:=Zgs l k a o h ho;grind[Zcb,Zg]
theorem ZcG {d β:Type} [DecidableEq d] (c e:List (d×β)) (a:d):Zg (c++e) a=match Zg c a with |some b=>some b |none=>Zg e a:=by
 induction c with
 |nil=>rfl
 |cons x r f=>
  grind[Zg]
theorem ZcR:∀(n:Nat) (l:List RV) (k m:Nat),Zg (Zh7 n l) (0,k,m)=none
 |n,[],k,m=>rfl
 |n,x::l,k,m=>by
  unfold Zh7;split
  ·simp only[Zg];rw[if_neg (by simp)];exact ZcR (n+1) l k m
  ·exact ZcR (n+1) l k m
theorem Zh9:∀(n:Nat) (l:List RV) (j:Nat) (x:RV),l[j]? =some x->Zaz D.dead (ZkW n l) (n+j)=x.d (n+j)
 |n,[],j,x,h=>by simp at h
 |n,y::l,j,x,h=>by
  cases j with
  |zero=>
   simp only[List.getElem?_cons_zero,ZnO]at h;subst h;simp[ZkW,Zaz]
  |succ j=>
   simp only[List.getElem?_cons_succ]at h;have:=Zh9 (n+1) l j x h;rw[show n+(j+1)=n+1+j by omega];simp only[ZkW,Zaz];rw[if_neg (by omega)];exact this
theorem RV.o_gone {x:RV} {o:Obj} (h:x.o=some o):o≠ .gone:=by
 cases x<;>simp[RV.o]at h<;>subst h
 case aown ow=>cases ow<;>simp[arrO]
 all_goals simp
section
variable {C:Ctx} {r:Fm} {G:Zg6}
theorem retSt_soft {ret:Ret} {id:Id} {o:Obj} (h:(ZbY ret).objs id=some o):o.soft=false:=by
 rcases Zn7.1 (Z1 h)with h |h
 all_goals grind[Zh6,RV.o_soft,Zgr,Arg.o_soft]
theorem Zks {ops:Array Oper} {i:Nat} {o:Oper} {X:Nat->Prop} {st:St} {c:Call} (hnotX:¬X i) (hE:Zl C.E) (ho:ops[i]? =some o) (hg:ZX ops st o.guard=some true) (hop:o.op= .call c) (hdst:Zdq C.E o=true)
  (pts:List Nat) (ms:List AM) {f:Nat} {as:List AE} (hpre:ZlX C.E st c pts ms=some (f,as)) (hcnd:Zmc (as.flatMap (·.cond))) {args:List Arg} {ret:Ret} (hargs:as.map (·.arg)=args) (hf:Fun C.E f args ret)
  {e:Eff} (he:ZfY st i as ret=some e) {ρ:Id->Option Lay} {S:Fz} {a:Act} {w:World} (hrep:Rep C X ρ S st a.tmps w) (hd:a.defers=r.ds) (b:Frame) (rest:List Nat) (kk:List Go.Item) (cs:List Frame) (hb:b.roundOf=r.r):
  ∃ρ' S' a' w',Rep C (fun j=>X j\/j=i) ρ' S' (st.app i o.dst e) a'.tmps w'/\a'.defers=r.ds/\
   StepsIn (Machine.fenced C.E.prog (Zcz r.r)) C.E.prog (lone (b.atR a (.inRegion ops (i::rest)::kk)) cs w) (lone (b.atR a' (.inRegion ops rest::kk)) cs w'):=by
 subst hargs;have hi:i < ops.size:=(Znq.1 ho).1;have hwant:=Za3 hrep hg;unfold ZlX at hpre;split at hpre
 case h_2=>simp_all
 rename_i fo hcal;split at hpre
 case h_2=>simp_all
 rename_i g first caps hcd
 dsimp only at hpre;split at hpre
 case isFalse=>simp_all
 rename_i hlen;split at hpre
 case h_2=>simp_all
 rename_i as0 has;split at hpre
 case h_2=>simp_all
 rename_i hs0 hhs;split at hpre
 case isFalse=>simp_all
 rename_i hok;simp only[ZnO,ZnP]at hpre;obtain⟨rfl,rfl⟩:=hpre;simp only[Znu]at hok;obtain⟨⟨⟨hpi,hal⟩,hfl⟩,hrefs⟩:=hok;obtain⟨vals,hvs,hvr,hrun⟩:=Zjo hrep (pts:=pts) hcal hcd hfl (fun x hx=>ZnV.1 hal x hx);generalize hds:first++ZY C.E st.slots c.args.toList pts++caps=ds at*
 have hrun:=hrun o.type;obtain⟨a1,a2⟩:=Zh has;obtain⟨b1,b2⟩:=Zh hhs;have hal0:as0.length=vals.size:=by simp_all
 have hhid:∀x∈hs0,∃m td kv,x={arg:= .hmap td kv,id:=some m}/\st.objs m=some (.map td kv):=by intro x hx;obtain⟨j,hj,rfl⟩:=Zoc.1 hx;have:=b2 j _ _ (Zn2 (by omega)) (Zn2 hj);grind[Zlt]
 have hvis:∀(j:Nat) x,as0[j]? =some x->∃(hj:j < vals.size) (hjd:j < ds.length) (m:AM),ZdD st m ds[j]=some x/\RelD w S ρ vals[j] ds[j]:=by
  intro j x hx;obtain⟨hj,rfl⟩:=ZnA.1 hx;have hz:j < (ms.zip ds).length:=by omega
  have hjd:j < ds.length:=by omega
  have hx':=a2 j (ms.zip ds)[j] as0[j] (Zn2 hz) hx;simp only[List.getElem_zip]at hx';exact⟨by omega,hjd,_,hx',hvr j _ _ (by simp_all) (by grind)⟩
 generalize has':as0++hs0=as' at*
 have hfs0:∀g∈as'.flatMap (·.fs),∃o,st.objs g=some o/\o≠ .gone:=by
  intro g hg;obtain⟨x,hx,hgx⟩:=Zob.1 hg;have hx0:=hx;rw[<-has']at hx;rcases Zn7.1 hx with hx |hx
  ·obtain⟨j,hj⟩:=Zou.1 hx;grind[ZlK]
  grind
 obtain⟨S1,hS1,hF1,hrep1,hS1i⟩:=hrep.freeze _ hfs0;have hn1:ZaA ((Zaa 0 as').map (·.1))=true:=by grind[Zgp]
 have hrho:∀{new old:Id},(new,old)∈Zaa 0 as'->Z2 (Zaa 0 as') ρ new=ρ old:=fun hm=>by simp only[Z2,Zy hn1 hm]
 have hpim:∀{j:Nat} {x:AE} {id:Id},as'[j]? =some x->x.id=some id->((0,j,0),id)∈Zaa 0 as':=fun h1 h2=>by have:=ZcH 0 as' _ _ _ h1 h2;grind
 have hv0:∀(j:Nat) (x:AE),as0[j]? =some x->as'[j]? =some x:=fun j x h=>by grind
 have hargV:∀(j:Nat) x,as0[j]? =some x->∃hj:j < vals.size,x.arg.vis=true/\RelD w S1 (Z2 (Zaa 0 as') ρ) vals[j] (x.arg.d j)/\
   (∀o',x.arg.o=some o'->∃id o,x.id=some id/\st.objs id=some o/\o≠ .gone/\o'≠ .gone/\∀L,ρ id=some L->Zp w S1 ρ L o->Zp w S1 (Z2 (Zaa 0 as') ρ) L o')/\
   (∀id,x.id=some id->∃o,st.objs id=some o/\o≠ .gone/\o.soft=false):=by
  intro j x hxj;obtain⟨hj,hjd,m,h1,h2⟩:=hvis j x hxj;have hxm:x∈as':=Zoe (hv0 j x hxj);have:=ZlI (S1:=S1) (ρ':=Z2 (Zaa 0 as') ρ) (k:=j) hrep hS1 h1 h2 (fun f hf=>hF1 f (Zob.2 ⟨_,hxm,hf⟩))
   (fun c hc=>Zf2 hcnd c (Zob.2 ⟨_,hxm,hc⟩)) (fun id hid=>hrho (hpim (hv0 j x hxj) hid)) (fun y k' m' e1 e2=>by have:=ZnV.1 hrefs (x.arg.rk,x.ref) (Zoe (i:=j) (by grind));grind[Arg.rk])
  grind
 have harg:∀(j:Nat) (hj:j < as'.length),(∀o',as'[j].arg.o=some o'->∃id o,as'[j].id=some id/\st.objs id=some o/\o≠ .gone/\o'≠ .gone/\∀L,ρ id=some L->Zp w S1 ρ L o->Zp w S1 (Z2 (Zaa 0 as') ρ) L o')/\
   (∀id,as'[j].id=some id->∃o,st.objs id=some o/\o≠ .gone/\o.soft=false):=by
  intro j hj;have hx:as'[j]∈as0++hs0:=by grind
  generalize as'[j]=x at hx|-
  rcases Zn7.1 hx with hx |hx
  ·grind[Zou]
  ·obtain⟨m,td,kv,rfl,hm⟩:=hhid x hx;refine⟨fun o' ho=> ?_,fun id hid=>by obtain rfl:=ZnN hid;exact⟨_,hm,by simp,rfl⟩⟩;simp only[Arg.o,ZnO]at ho;subst ho;exact⟨m,_,rfl,hm,by simp,by simp,fun L _ hr=>hr.mono (ρ':=ρ) (.refl _ _) (fun _ _ h=>h) (fun _ _ h=>h) fun _ _=>rfl⟩
 let Lt:Nat->Prop:=fun b=>∃new old o L,(new,old)∈Zaa 0 as'/\st.objs old=some o/\o≠ .gone/\ρ old=some L/\L.blk=some b
 let C':Ctx:=⟨C.E.at vals.size,w,Lt,S1,fun k=>Z2 (Zaa 0 as') ρ (0,k,0)⟩;have hvsz:vals.size=ZmD (as'.map (·.arg)):=by
  have e1:(as0.map (·.arg)).filter Arg.vis=as0.map (·.arg):=List.filter_eq_self.2 fun a ha=>by grind[Zou]
  have e2:(hs0.map (·.arg)).filter Arg.vis=[]:=List.filter_eq_nil_iff.2 fun a ha=>by grind[Arg.vis]
  grind[ZmD]
 have hcallee:Rep C' (fun _=>False) (Z2 (Zaa 0 as') ρ) S1 (Zeu (as'.map (·.arg))) vals w:=by
  refine hrep1.select (C':=C') hpi ?_ rfl rfl (ZQ.refl _) (ZnJ _) (fun _ _ _=>rfl) (fun _ _ h=>h) ?_ (fun _=>rfl) rfl (ZnJ _) ?_ (fun b c hb=> .inl hb) (fun k L hk _=>hk) (fun _ _ _ _ _ _ _ ho=>by have:=ZkP ho;grind[Obj.isOwn])
  ·intro new o' ho';obtain⟨j,x,q1,q2,q3⟩:=Zg1 0 _ _ _ (Z1 ho');rw[Zok]at q2;rw[ZnB,ZnM]at q1;obtain⟨ae,q1,rfl⟩:=q1;obtain⟨hj,rfl⟩:=ZnA.1 q1;obtain⟨id,o1,r1,r2,r3,r4,r5⟩:=(harg j hj).1 o' q3;refine⟨id,o1, ?_,by grind[Zu],r3,fun hs=> ?_,r5⟩;rotate_left
   ·grind
   grind
  ·grind[Zu]
  ·intro k';show RelD w S1 _ (vals.getD k' undef) (Zaz D.dead (Zc9 0 (as'.map (·.arg))) k');rcases ZaS D.dead (Zc9 0 (as'.map (·.arg))) k' with hk |hk
   ·rw[hk];exact .dead _
   ·obtain⟨j,x,q1,q2,q3⟩:=Zex 0 _ _ _ hk;rw[Zok]at q2 q3;subst q2;rw[q3];rw[ZnB,ZnM]at q1;obtain⟨ae,q1,rfl⟩:=q1;rw[<-has',List.getElem?_append]at q1;split at q1
    ·obtain⟨hj,_,h,_⟩:=hargV k' ae q1;have:vals.getD k' undef=vals[k']:=by simp[hj]
     grind
    ·obtain⟨m,td,kv,rfl,_⟩:=hhid ae (Zoe q1);exact .dead _
 have hsem:o.semAt b.roundOf a.eval=execOp a.eval o:=Oper.semAt_eq _ _ _ (fun c hc'=>by simp_all);have hst:=stepGR_op (P:=C.E.prog) (b:=b) (a:=a) (k:=kk) (cs:=cs) (w:=w) (i:=i) (rest:=rest) ho hwant;have hcg:∃vs ρ2 S2 w',vs.size=ret.res.length/\Rep ⟨C.E.at vs.size,w,Lt,S1,fun k=>Z2 (Zaa 0 as') ρ (0,k,0)⟩ (fun _=>False) ρ2 S2 (ZbY ret) vs w'/\
   StepsIn (Machine.fenced C.E.prog (Zcz r.r)) C.E.prog (lone (b.atR a (.inRegion ops (i::rest)::kk)) cs w) (lone (b.atR (a.put o.dst (Zhc vs)) (.inRegion ops rest::kk)) cs w'):=by
  rcases hf with hf |hf
  ·obtain⟨⟨fn,hfn1,hfn2,hfn3⟩,hcall⟩:=hf;obtain⟨_,hcall⟩:=hcall w Lt S1 _ _ vals hvsz hcallee;have hcg:=hcall (b.atR a (.inRegion ops (i::rest)::kk)::cs) (fun _ h=>by grind[Zcz]);obtain⟨ee,w',fr,⟨vs,ρ2,S2,rfl,hvl,hrep2⟩,hsteps,hfrf,hleave⟩:=hcg;refine⟨vs,ρ2,S2,w',hvl,hrep2, ?_⟩;have hexec:(execOp a.eval o).run C.E.prog w= .ok (.enter g vals) w:=by simp only[execOp,hop];rw[hrun];grind[Zjp]
   have hfin:=Frame.finish_atR b a ops i rest kk (Zhc vs);simp only[ho,Option.bind_some]at hfin;refine .head (Zz _ _ _) (step_lone_go (fr':=Frame.enter C.E.prog g vals .normal) (cs':=b.atR a (.inRegion ops (i::rest)::kk)::cs) (w':=w) ?_) ?_
   ·rw[hst,hsem];simp[stepG.apply,hexec,Frame.atR]
   ·refine StepsIn.trans hsteps (.one (Zz _ _ _) ?_);rw[<-hfin];exact step_leave_returned hleave
  ·obtain⟨vs,ρ2,S2,w',hv,hvl,hrep2⟩:=hf.2 w Lt S1 _ _ vals hvsz hcallee;refine⟨vs,ρ2,S2,w',hvl,hrep2, ?_⟩;have hexec:(execOp a.eval o).run C.E.prog w= .ok (.value (Zhc vs)) w':=by simp only[execOp,hop];rw[hrun];exact hv
   have hfin:=Frame.finish_atR b a ops i rest kk (Zhc vs);simp only[ho,Option.bind_some]at hfin;refine .one (Zz _ _ _) ?_;refine step_lone_go ?_;rw[hst,hsem,<-hfin];simp[stepG.apply,hexec]
 obtain⟨vs,ρ2,S2,w',hvl,hrep2,hsteps⟩:=hcg;have hall:∀x∈Zaa 0 as',st.fz x.2=false/\x.2∉as'.flatMap (·.fs):=by intro x hx;have:=hpi;simp only[Zgp,Znu,ZnV,ZnU,decide_eq_true_eq]at this;have:=(this.2 x hx).2;rw[freezeL_fz]at this;simp only[Zom]at this;exact⟨this.2,by simpa using this.1⟩
 have hn2:ZaA ((Zaa 0 as').map (·.2))=true:=by have:=hpi;simp only[Zgp,Znu]at this;exact this.1.2
 have hlent:∀(j:Nat) (x:AE) id,as'[j]? =some x->x.id=some id->((0,j,0),id)∈Zaa 0 as'/\∃o L,st.objs id=some o/\o≠ .gone/\ρ id=some L/\Z2 (Zaa 0 as') ρ (0,j,0)=some L:=by intro j x id hx hid;have hm:=ZcH 0 as' j x id hx hid;rw[Zok]at hm;obtain⟨hj,rfl⟩:=ZnA.1 hx;obtain⟨o,q1,q2,_⟩:=(harg j hj).2 id hid;obtain⟨L,hL,_⟩:=hrep.objs id o q1 q2;exact⟨hm,o,L,q1,q2,hL,by rw[hrho hm];exact hL⟩
 have hsame:∀(j j':Nat) (x x':AE) id,as'[j]? =some x->x.id=some id->as'[j']? =some x'->x'.id=some id->j=j':=by intro j j' x x' id h1 h2 h3 h4;have:=ZdU hn2 (hlent j x id h1 h2).1 (hlent j' x' id h3 h4).1;simpa using this
 have hout:∀(j:Nat) (x:AE) id o',as'[j]? =some x->x.id=some id->Zds ret.outs j=o'->o'≠ .gone->(∃aa:Arg,aa.o=some o')/\(ZbY ret).objs (0,j,0)=some o'/\∃L,ρ id=some L/\ρ2 (0,j,0)=some L/\Zp w' S2 ρ2 L o':=by
  intro j x id o' hx hid hb hg;unfold Zds at hb;split at hb;rotate_left;exact absurd hb.symm hg;rename_i aa haa;split at hb;rotate_left;exact absurd hb.symm hg;rename_i oo hoo;subst hb;have hobj:(ZbY ret).objs (0,j,0)=some oo:=by show Zg (Zh7 0 ret.res++Zcb ret.outs) (0,j,0)=some oo;rw[ZcG,ZcR];exact Zgs _ _ _ _ haa hoo
  obtain⟨L2,hL2,hro⟩:=hrep2.objs _ _ hobj hg;obtain⟨_,o1,L,q1,q2,q3,q4⟩:=hlent j x id hx hid;have:=hrep2.lay j L q4 (by rw[hL2];simp);rw[hL2]at this;obtain rfl:=ZnN this;exact⟨⟨aa,hoo⟩,hobj,L2,q3,hL2,hro⟩
 have hgone:∀b1,Lt b1->(∀j o',(ZbY ret).objs (0,j,0)=some o'->o'≠ .gone->∀L,ρ2 (0,j,0)=some L->L.blk≠some b1)->
   ∃id o' L',(id,Obj.gone)∈Zbr ret.outs 0 as'/\st.objs id=some o'/\o'≠ .gone/\ρ id=some L'/\L'.blk=some b1/\(∀o'',(id,o'')∈Zbr ret.outs 0 as'->o''= .gone):=by
  rintro b1 ⟨new,old,o1,L,hm,q1,q2,q3,q4⟩ hno;obtain⟨j,x,hx,hnw,hid⟩:=ZbI 0 as' new old hm;rw[Zok]at hnw;have hbg:Zds ret.outs j= .gone:=by
   cases hbo:Zds ret.outs j with
   |gone=>rfl
   |_=>
    exfalso;obtain⟨_,r1,L2,r2,r3,_⟩:=hout j x old _ hx hid hbo (by simp);rw[q3]at r2;obtain rfl:=ZnN r2;exact hno j _ r1 (by simp) _ r3 q4
  refine⟨old,o1,L, ?_,q1,q2,q3,q4,fun o'' hm''=> ?_⟩
  ·have:=ZdC (outs:=ret.outs) 0 as' j x old hx hid;rw[Zok,hbg]at this;exact this
  ·obtain⟨j',x',r1,r2,r3⟩:=Za6 0 as' old o'' hm'';rw[Zok]at r3;rw[r3,<-hsame j j' x x' old hx hid r1 r2,hbg]
 unfold ZfY at he;split at he
 case h_2=>simp at he
 rename_i rds hrds;cases he;obtain⟨rl,rg⟩:=Zgj 0 _ _ hrds;have hfresh:=hrep.fresh hnotX;let ρc:Id->Option Lay:=fun id=>if id.1=st.ep/\id.2.1=i then ρ2 (1,id.2.2,0)else ρ id
 have hρc:∀id L,ρ id=some L->ρc id=some L:=by
  intro id L hL;simp only[ρc];split
  ·rename_i hc;obtain⟨ep,jj,kk⟩:=id;simp only at hc;obtain⟨rfl,rfl⟩:=hc;rw[hfresh kk]at hL;simp at hL
  ·exact hL
 have hρn:∀m,ρc (st.ep,i,m)=ρ2 (1,m,0):=fun m=>by simp[ρc]
 have hmade:∀m o',(m,o')∈Za1 0 ret.res->(∃aa:RV,aa.o=some o')/\o'≠ .gone/\(ZbY ret).objs (1,m,0)=some o'/\∃L,ρ2 (1,m,0)=some L/\Zp w' S2 ρ2 L o':=by
  intro m o' hm;obtain⟨j,x,q1,q2,q3⟩:=ZeT 0 _ _ _ hm;have hg:=RV.o_gone q3;have hobj:(ZbY ret).objs (1,m,0)=some o':=by show Zg (Zh7 0 ret.res++Zcb ret.outs) (1,m,0)=some o';rw[ZcG,q2,ZjY 0 _ j x o' q1 q3]
  obtain⟨L,hL,hro⟩:=hrep2.objs _ _ hobj hg;exact⟨⟨x,q3⟩,hg,hobj,L,hL,hro⟩
 have hmb:∀m o' L b1,(m,o')∈Za1 0 ret.res->ρ2 (1,m,0)=some L->L.blk=some b1->b1 < w'.heap.size/\(∀c,¬S2 b1 c)/\(w.heap.size<=b1\/∃id o' L',(id,Obj.gone)∈Zbr ret.outs 0 as'/\st.objs id=some o'/\o'≠ .gone/\ρ id=some L'/\L'.blk=some b1/\(∀o'',(id,o'')∈Zbr ret.outs 0 as'->o''= .gone)):=by
  intro m o' L b1 hm hL hb1;obtain⟨⟨aa,haa⟩,hg,hobj,_,_,_⟩:=hmade m o' hm;obtain⟨r1,r2,r3,r4⟩:=hrep2.own _ _ L b1 hobj hg hL hb1;refine⟨r1,hrep2.notS hobj hg hL hb1 rfl (RV.o_soft haa), ?_⟩;rcases r2 with r2 |r2
  ·exact .inl r2
  ·refine .inr (hgone b1 r2 fun j o'' ho'' hg'' L'' hL'' hb''=> ?_);have:=hrep2.inj _ _ L _ _ L'' b1 hobj hg hL hb1 ho'' hg'' hL'' hb'';simp at this
 let N:Fz:=fun b c=>S2 b c/\¬S1 b c
 obtain⟨S',hrepc⟩:=hrep.stepN (i:=i) (t:=o.dst) (e:={val:=Zm9 rds,new:=Za1 0 ret.res,wr:=Zbr ret.outs 0 as',frz:=as'.flatMap (·.fs)}) (v:=Zhc vs) (w':=w') ρc N
  (nfam:=fun S'' hN hS hF hback=>by
   obtain⟨κ2,F2⟩:=hrep2.fam;have hS2:∀b1 c,S2 b1 c->S'' b1 c:=fun b1 c1 hb1=>by
    by_cases h1:S1 b1 c1
    ·rcases hS1i b1 c1 h1 with h2 |⟨g,Lg,h2,h3,h4,h5⟩
     ·exact hS b1 c1 h2
     ·obtain⟨o1,q1,q2⟩:=hfs0 g h2;exact hF g h2 o1 Lg b1 q1 q2 h3 h4 c1 (q1▸h5)
    ·exact hN b1 c1 ⟨hb1,h1⟩
   have hkid:∀{m j sz c k l},Zmf {val:=Zm9 rds,new:=Za1 0 ret.res,wr:=Zbr ret.outs 0 as',frz:=as'.flatMap (·.fs)} m j sz c k l->Kid (ZbY ret).objs (ZbY ret).fz (1,m,0) j sz c k l:=by rintro m j sz c k l ⟨es,lo,out,cs,hm,r1,r2,r3,r4⟩;exact⟨es,lo,out,cs,(hmade m _ hm).2.2.1,rfl,r1,r2,r3,r4⟩
   refine⟨fun m=>κ2 (1,m,0),fun m j sz c k l L hk hL=> ?_,fun m j sz c k l b1 hk hb1=> ?_,fun m j sz c k l m' j' sz' c' k' l' b1 hk hk' hb1 hb1'=> ?_⟩
   ·rw[hρn]at hL;obtain⟨b1,v,q1,q2,q3,q4⟩:=F2.kid _ _ _ _ _ _ L (hkid hk) hL;exact⟨b1,v,q1,q2,q3.mono (.refl _ _) hS2 (fun _ _ h=>h),q4.mono (.refl _ _) hS2 (fun _ _ h=>h) fun _ _=>rfl⟩
   ·obtain⟨q1,q2,q3,q4⟩:=F2.own _ _ _ _ _ _ b1 (hkid hk) hb1;refine⟨q1,fun c1 hs=> ?_, ?_,fun m' o' L' hm hg hL=> ?_⟩
    ·rcases hback b1 c1 hs with (hs |hs) |⟨id,o1,L,h1,h2,h3,h4,h5,h6⟩
     ·exact q3 c1 (hrep2.s0 _ _ (hS1 _ _ hs))
     ·exact q3 c1 hs.1
     ·exact q3 c1 (hrep2.s0 _ _ (hF1 id h1 L b1 h4 h5 c1 (by rw[h2];exact h6)))
    ·exact q2.imp id fun q2=>hgone b1 q2 fun j o'' ho'' hg'' L'' hL''=>q4 _ o'' L'' ho'' hg'' hL''
    ·rw[hρn]at hL;exact q4 _ o' L' (hmade m' o' hm).2.2.1 hg hL
   ·obtain⟨q1,q2⟩:=F2.inj _ _ _ _ _ _ _ _ _ _ _ _ b1 (hkid hk) (hkid hk') hb1 hb1';simp only[ZnP]at q1;exact⟨q1.2.1,q2⟩) (wown:=fun id o' hm=>by obtain⟨j,x,_,_,q⟩:=Za6 0 as' id o' hm;rw[q];exact ZkL _ _)
  (by
   rintro b1 c1 ⟨h2,h3⟩;refine⟨hrep2.sIn b1 c1 h2, ?_⟩;rcases hrep2.sOut b1 c1 h2 with h4 |h4 |h4
   ·exact absurd h4 h3
   ·exact .inl h4
   ·refine .inr (hgone b1 h4 fun j o'' ho'' hg'' L'' hL'' hb''=> ?_);have:=((hrep2.own _ _ L'' b1 ho'' hg'' hL'' hb'').2.2.2 c1 h2).2;rcases this with h |h
    ·cases h
    ·rw[retSt_soft ho'']at h;cases h)
  (by
   rintro m o' L b1 hm hL hb1 c1 ⟨h2,_⟩;rw[hρn]at hL;exact(hmb m o' L b1 hm hL hb1).2.1 c1 h2)
  hnotX (Zbi hdst) hrep2.grow hrep2.quiet
  (by
   intro b1 hb1 hne;refine hrep2.frame b1 hb1 ?_;rintro⟨new,old,o1,L,hm,q1,q2,q3,q4⟩;obtain⟨j,x,hx,hnw,hid⟩:=ZbI 0 as' new old hm;exact hne old _ L (ZdC (outs:=ret.outs) 0 as' j x old hx hid) q3 q4)
  (by
   intro id o' hm;obtain⟨j,x,q1,q2,q3⟩:=Za6 0 as' id o' hm;obtain⟨r1,o1,L,r2,r3,_⟩:=hlent j x id q1 q2;exact⟨(hall _ r1).1,o1,r2,r3⟩)
  hρc
  (by
   intro id hn;simp only[ρc]at hn;split at hn
   ·rename_i hc;exact .inr hc
   ·exact .inl hn)
  (by
   intro id hm;obtain⟨o1,q1,q2⟩:=hfs0 id hm;obtain⟨L,hL,_⟩:=hrep.objs id o1 q1 q2;refine⟨by rw[hL];simp,fun o' hm'=> ?_⟩;obtain⟨j,x,r1,r2,_⟩:=Za6 0 as' id o' hm';exact absurd hm (hall _ (hlent j x id r1 r2).1).2)
  (by
   intro id o' o'' hm' ho'';obtain⟨j,x,r1,r2,_⟩:=Za6 0 as' id o' hm';obtain⟨hj,rfl⟩:=ZnA.1 r1;obtain⟨o2,s1,_,s2⟩:=(harg j hj).2 id r2;rw[ho'']at s1;obtain rfl:=ZnN s1;exact s2)
  (by
   intro m o' hm;obtain⟨⟨aa,haa⟩,hg,hobj,L,hL,hro⟩:=hmade m o' hm;refine⟨L,by rw[hρn];exact hL,fun b1 hb1=> ?_,fun S'' hN hS hF _=> ?_⟩
   ·have:=hmb m o' L b1 hm hL hb1;exact⟨this.2.2,this.1⟩
   ·refine Zp.pureRV haa (.refl _ _) (fun b1 c1 hb1=> ?_) (fun _ _=>rfl) hro
    by_cases h1:S1 b1 c1
    ·rcases hS1i b1 c1 h1 with h2 |⟨g,Lg,h2,h3,h4,h5⟩
     ·exact hS b1 c1 h2
     ·obtain⟨o1,q1,q2⟩:=hfs0 g h2;exact hF g h2 o1 Lg b1 q1 q2 h3 h4 c1 (q1▸h5)
    ·exact hN b1 c1 ⟨hb1,h1⟩)
  (by
   intro m o1 L1 m' o2 L2 b1 hm hg hL hb1 hm' hg' hL' hb1';rw[hρn]at hL hL';have:=hrep2.inj _ _ L1 _ _ L2 b1 (hmade m o1 hm).2.2.1 hg hL hb1 (hmade m' o2 hm').2.2.1 hg' hL' hb1';simpa using this)
  (by
   intro id o' L hm hg hL S'' hN hS hF;obtain⟨j,x,q1,q2,q3⟩:=Za6 0 as' id o' hm;rw[Zok]at q3;obtain⟨⟨aa,haa⟩,_,L2,r2,r3,hro⟩:=hout j x id o' q1 q2 q3.symm hg;rw[hL]at r2;obtain rfl:=ZnN r2;refine Zp.pureArg haa (.refl _ _) (fun b1 c1 hb1=> ?_) (fun _ _=>rfl) hro
   by_cases h1:S1 b1 c1
   ·rcases hS1i b1 c1 h1 with h2 |⟨g,Lg,h2,h3,h4,h5⟩
    ·exact hS b1 c1 h2
    ·obtain⟨o1,q1,q2⟩:=hfs0 g h2;exact hF g h2 o1 Lg b1 q1 q2 h3 h4 c1 (q1▸h5)
   ·exact hN b1 c1 ⟨hb1,h1⟩)
  (by
   intro S'' hN hS hF _ _;have hS2:∀b1 c,S2 b1 c->S'' b1 c:=fun b1 c1 hb1=>by
    by_cases h1:S1 b1 c1
    ·rcases hS1i b1 c1 h1 with h2 |⟨g,Lg,h2,h3,h4,h5⟩
     ·exact hS b1 c1 h2
     ·obtain⟨o1,q1,q2⟩:=hfs0 g h2;exact hF g h2 o1 Lg b1 q1 q2 h3 h4 c1 (q1▸h5)
    ·exact hN b1 c1 ⟨hb1,h1⟩
   have each:∀(j:Nat) (hj:j < vs.size) (hjr:j < rds.length),RelD w' S'' ρc vs[j] rds[j]:=by
    intro j hj hjr;have hjl:j < ret.res.length:=by omega
    have hs:=hrep2.slots j;have hsv:vs.getD j undef=vs[j]:=by simp[hj]
    rw[hsv,show (ZbY ret).slots j=Zaz D.dead (ZkW 0 ret.res) j from rfl]at hs;have:=Zh9 0 ret.res j ret.res[j] (Zn2 hjl);rw[Zok]at this;rw[this]at hs;have hat:=rg j ret.res[j] rds[j] (Zn2 hjl) (Zn2 hjr);rw[Zok]at hat;generalize vs[j]=v at hs;generalize ret.res[j]=x at hs hat;generalize rds[j]=d at hat;cases x with
    |p x=>
     simp only[RV.at,ZnO]at hat;subst hat;exact .p _ _ (hs.of_p.mono (.refl _ _) hS2)
    |own sz es=>
     simp only[RV.at,ZnO]at hat;subst hat;cases hs with
     |sl _ _ _ cap ad L hL hl hm hcp ha=>exact .sl _ 0 _ cap ad L (by rw[hρn];exact hL) hl hm hcp ha
    |box cs=>
     simp only[RV.at,ZnO]at hat;subst hat;cases hs with
     |ptr _ _ _ L b hL hi hb=>exact .ptr _ 0 0 L b (by rw[hρn];exact hL) hi hb
    |map td kv=>
     simp only[RV.at,ZnO]at hat;subst hat;cases hs with
     |map _ L b hL hb=>exact .map _ L b (by rw[hρn];exact hL) hb
    |view kk off len=>
     simp only[RV.at]at hat;split at hat;rotate_left;simp at hat;rename_i x hx;split at hat;rotate_left;simp at hat;rename_i id hid;cases hat;cases hs with
     |sl _ _ _ cap ad L hL hl hm hcp ha=>
      obtain⟨_,o1,L0,q1,q2,q3,q4⟩:=hlent kk x id hx hid;have:=hrep2.lay kk L0 q4 (by rw[hL];simp);rw[hL]at this;obtain rfl:=ZnN this;exact .sl id off _ cap ad L (hρc _ _ q3) hl hm hcp ha
    |aown pre sz es post ow=>
     simp only[RV.at,ZnO]at hat;subst hat;exact RelD.aown hs hS2 (hρn _)
   have hvr:vs.size=rds.length:=by omega
   show RelD _ _ _ _ (Zm9 rds);unfold Zm9;split
   ·rename_i d;have h1:vs.size=1:=by simpa using hvr
    have:=each 0 (by omega) (by simp);unfold Zhc;rw[dif_pos h1];simpa using this
   ·rename_i hne;have h1:vs.size≠1:=fun h1=>by
     rw[h1]at hvr
     match rds,hvr with
     | [d],_=>exact hne d rfl
    unfold Zhc;rw[dif_neg h1];refine .tup _ _ hvr fun j u d hu hd=> ?_
    obtain⟨hj,rfl⟩:=Znq.1 hu;obtain⟨hj',rfl⟩:=ZnA.1 hd;exact each j hj hj')
 exact⟨ρc,S',a.put o.dst (Zhc vs),w',hrepc,by simp[hd],hsteps⟩
end
end Eng
namespace Eng
open Go
def Zn (lk lk':Id->Option Obj) (l:List Id):Prop:=∀id∈l,lk id=lk' id
theorem Zlr {lk:Id->Option Obj}:∀(n:Nat) (d:D) (id:Id),id∈d.ids lk n->id∈d.ids lk (n+1):=by
 intro n
 induction n with
 |zero=>
  intro d id h;cases d with
  |ptr c i j=>grind[D.ids]
  |agg cs=>simp[D.ids]at h
  |tup cs=>simp[D.ids]at h
  |fn f a b=>simp[D.ids]at h
  |it c=>grind[D.ids]
  |rp y c=>grind[D.ids]
  |sl c o l=>simp_all
  |map c=>simp_all
  |_=>simp[D.ids]at h
 |succ n g=>
  intro d id h;have e:∀cs:List D,id∈cs.flatMap (D.ids lk n)->id∈cs.flatMap (D.ids lk (n+1)):=fun cs k=>by grind
  cases d with
  |ptr c i j=>
   grind[D.ids]
  |agg cs=>grind[D.ids]
  |tup cs=>grind[D.ids]
  |fn f a b=>
   grind[D.ids]
  |it c=>grind[D.ids]
  |rp y c=>grind[D.ids]
  |sl c o l=>simp_all
  |map c=>simp_all
  |_=>simp[D.ids]at h
theorem Zd6 {lk:Id->Option Obj} {n m:Nat} (h:n<=m) (d:D) {id:Id} (hi:id∈d.ids lk n):id∈d.ids lk m:=by
 induction h with
 |refl=>omega
 |step _ a=>grind[Zlr]
theorem Za8 {a β:Type} {f g:a->Option β}:∀{l:List a},(∀x∈l,f x=g x)->Zj f l=Zj g l
 | [],_=>rfl
 |x::l,h=>by simp only[Zj,h x (by simp),Za8 (l:=l) fun y b=>h y (by grind)]
theorem ZB {lk lk':Id->Option Obj}:∀(n:Nat) (d:D),Zn lk lk' (d.ids lk n)->d.toP lk n=d.toP lk' n/\d.ids lk n=d.ids lk' n:=by
 intro n
 induction n with
 |zero=>
  intro d h;cases d with
  |sl id o l=>rw[Zbm,Zbm,h id (by simp)];simp
  |map id=>rw[Zbu,Zbu,h id (by simp)];simp
  |_=>simp[D.toP,D.ids]
 |succ n ih=>
  intro d h;have lst:∀cs:List D,(∀id∈cs.flatMap (D.ids lk n),lk id=lk' id)->Zj (D.toP lk n) cs=Zj (D.toP lk' n) cs/\cs.flatMap (D.ids lk n)=cs.flatMap (D.ids lk' n):=fun cs hm=>by
   have hh:∀c∈cs,D.toP lk n c=D.toP lk' n c/\D.ids lk n c=D.ids lk' n c:=fun c hc=>ih c fun id hid=>hm id (Zob.2 ⟨c,hc,hid⟩)
   refine⟨Za8 fun c hc=>(hh c hc).1, ?_⟩;clear hm
   induction cs with
   |nil=>rfl
   |cons c cs ihc=>
    simp_all
  cases d with
  |sl id o l=>rw[Zbm,Zbm,h id (by simp)];simp
  |map id=>rw[Zbu,Zbu,h id (by simp)];simp
  |agg cs=>
   obtain⟨q1,q2⟩:=lst cs (fun id hid=>h id (by grind[D.ids]));grind[D.toP,D.ids]
  |ptr id i j=>
   have h0:=h id (by simp[D.ids]);cases hlk:lk id with
   |none=>grind[D.toP,D.ids]
   |some o=>
    rw[hlk]at h0;cases o with
    |box cs=>
     obtain⟨q1,q2⟩:=lst (cs.drop j) (fun id' hid=>h id' (by grind[D.ids]));grind[D.toP,D.ids]
    |_=>simp[D.toP,D.ids,hlk,<-h0]
  |tup cs=>
   obtain⟨q1,q2⟩:=lst cs (fun id hid=>h id (by grind[D.ids]));grind[D.toP,D.ids]
  |fn f a b=>
   obtain⟨q1,q2⟩:=lst a (fun id hid=>h id (by grind[D.ids]));obtain⟨q3,q4⟩:=lst b (fun id hid=>h id (by grind[D.ids]));grind[D.toP,D.ids]
  |_=>simp[D.toP,D.ids]
def Zdo (E:Env) (sl:Nat->D) (lk:Id->Option Obj) (xs:List Operand):List Id:=xs.flatMap fun x=>(ev E sl 0 x).ids lk (depth+1)
theorem Ziu {E:Env} {sl:Nat->D} {lk:Id->Option Obj} (n t:Nat) (x:Operand):(ev E sl t x).ids lk n=(ev E sl 0 x).ids lk n:=by
 cases x with
 |const v=>
  have:∀sz td,(D.ofV sz td v).ids lk n=[]:=by intro sz td;unfold D.ofV;grind[D.ids]
  grind[ev]
 |_=>rfl
section
variable {E:Env} {sl sl':Nat->D} {lk lk':Id->Option Obj} {xs:List Operand}
theorem ZaN (h:Zn lk lk' (Zdo E sl lk xs)) {x:Operand} (b:x∈xs) (t:Nat) {n:Nat} (c:n<=depth+1):Zn lk lk' ((ev E sl t x).ids lk n):=fun id a=>by refine h id (Zob.2 ⟨x,b, ?_⟩);grind[Ziu,Zd6]
theorem ZdJ {d:D} {sz:Nat} (h:Zn lk lk' (d.ids lk 1)):ZcP lk sz d=ZcP lk' sz d:=by
 have:=(ZB 1 d h).1;unfold ZcP;grind
theorem Zi3 {d:D} {td:TD} (h:Zn lk lk' (d.ids lk 1)):Zf4 lk td d=Zf4 lk' td d:=by
 unfold Zf4;split<;>try rfl
 rename_i id _;rw[h _ (by simp)]
theorem Zhw {d:D} (h:Zn lk lk' (d.ids lk 1)):ZfI lk d=ZfI lk' d:=by
 unfold ZfI;split<;>try rfl
 rw[h _ (by simp)]
theorem ZbC {t:Nat} {te:TI} (b:∀t x,x∈xs->ev E sl t x=ev E sl' t x) (h:Zn lk lk' (Zdo E sl lk xs)):
  ∀(a:List (Nat×Operand)) (es:List P),(∀p∈a,p.2∈xs)->ZH E sl lk t te a es=ZH E sl' lk' t te a es
 | [],_,_=>rfl
 |(i,x)::r,es,hp=>by
  have c:=hp (i,x) (by simp);simp only[ZH,<-b t x c,<-(ZB depth _ (ZaN h c t (by decide))).1];split
  ·split
   ·exact ZbC b h r _ fun p d=>hp p (by grind)
   ·rfl
  ·rfl
theorem Zd7 {t:Nat} (b:∀t x,x∈xs->ev E sl t x=ev E sl' t x) (h:Zn lk lk' (Zdo E sl lk xs)):
  ∀(a:List (Nat×Operand)),(∀p∈a,p.2∈xs)->Zc4 E sl lk t a=Zc4 E sl' lk' t a
 | [],_=>rfl
 |(i,x)::r,hp=>by
  have c:=hp (i,x) (by simp);have:=Zd7 (t:=t) b h r fun p d=>hp p (by grind)
  unfold Zc4 at this|-
  simp only[Zon,<-b t x c,<-(ZB depth _ (ZaN h c t (by decide))).2,this]
theorem Zdj {ti:TI} (b:∀t x,x∈xs->ev E sl t x=ev E sl' t x):∀(a:List (Nat×Operand)) (cs:List D),(∀p∈a,p.2∈xs)->Zb4 E sl ti a cs=Zb4 E sl' ti a cs
 | [],_,_=>rfl
 |(i,x)::r,cs,hp=>by
  have c:=hp (i,x) (by simp);simp only[Zb4];split
  ·split
   ·simp only[<-b _ x c];split
    ·exact Zdj b r _ fun p d=>hp p (by grind)
    ·rfl
   ·rfl
  ·rfl
theorem Zbj (a:∀t x,x∈xs->ev E sl t x=ev E sl' t x):∀(args:List Operand) (ts:List Nat),(∀x∈args,x∈xs)->ZY E sl args ts=ZY E sl' args ts
 | [],_,_=>by cases ‹List Nat› <;>rfl
 |x::r,[],h=>by simp only[ZY,a 0 x (h x (by simp)),Zbj a r [] fun y b=>h y (by grind)]
 |x::r,t::ts,h=>by simp only[ZY,a t x (h x (by simp)),Zbj a r ts fun y b=>h y (by grind)]
theorem Zes (h:Zn lk lk' (Zdo E sl lk xs)):∀(args:List Operand) (ts:List Nat),(∀x∈args,x∈xs)->∀d∈ZY E sl args ts,Zn lk lk' (d.ids lk (depth+1))
 | [],ts,_,d,a=>by grind[ZY]
 |x::r,[],hx,d,a=>by
  simp only[ZY,ZnD]at a;rcases a with rfl |a
  ·grind[ZaN]
  ·exact Zes h r [] (fun y b=>hx y (by grind)) d a
 |x::r,t::ts,hx,d,a=>by
  simp only[ZY,ZnD]at a;rcases a with rfl |a
  ·grind[ZaN]
  ·exact Zes h r ts (fun y b=>hx y (by grind)) d a
end
end Eng
namespace Eng
open Go
def D.shal:D->List Id
 | .sl id _ _=>[id]
 | .ptr id _ _=>[id]
 | .map id=>[id]
 | .it id=>[id]
 |_=>[]
def Zea (E:Env) (op:Op) (sl:Nat->D) (lk:Id->Option Obj):List Id:=
 match op with
 | .move _ | .assign _ | .pick .. | .alloc _ | .box .. | .build .. | .nilCheck _ | .fieldAddr .. | .field .. | .binOp .. | .unOp .. | .extract .. | .makeFunc .. | .makeMap .. | .makeSlice .. | .index .. =>[]
 | .load _ a=>(ev E sl 0 a).shal
 | .store _ a x=>(ev E sl 0 a).shal++(ev E sl 0 x).ids lk depth
 | .indexAddr _ x _=>(ev E sl 0 x).shal
 | .slice _ x _ _ _=>(ev E sl 0 x).shal
 | .next x _=>(ev E sl 0 x).shal
 | .range _ x=>(ev E sl 0 x).shal
 |op=>Zdo E sl lk op.operands.toList
theorem Zbx {E:Env} {sl sl':Nat->D} {x:Option Operand} (h:∀y,x=some y->ev E sl 0 y=ev E sl' 0 y):Zb1 E sl x=Zb1 E sl' x:=by
 cases x with
 |none=>rfl
 |some y=>grind[Zb1]
theorem Z4 {E:Env} {sl sl':Nat->D} {lk lk':Id->Option Obj}:∀{xs:List Operand},(∀t x,x∈xs->ev E sl t x=ev E sl' t x)->Zn lk lk' (Zdo E sl lk xs)->Zdo E sl lk xs=Zdo E sl' lk' xs
 | [],_,_=>rfl
 |x::r,he,h=>by
  have b:Zn lk lk' ((ev E sl 0 x).ids lk (depth+1)):=fun id a=>h id (Zob.2 ⟨x,by simp,a⟩)
  have c:Zn lk lk' (Zdo E sl lk r):=fun id a=>by obtain⟨y,d,hi⟩:=Zob.1 a;exact h id (Zob.2 ⟨y,by grind,hi⟩)
  have:=Z4 (xs:=r) (fun t y d=>he t y (by grind)) c;unfold Zdo at this|-
  simp only[Zon,<-he 0 x (by simp),<-(ZB _ _ b).2,this]
section
variable {E:Env} {sl sl':Nat->D} {lk lk':Id->Option Obj}
theorem Zbn {t:Nat} {m k v:Operand} (a:∀t x,x∈[m,k,v]->ev E sl t x=ev E sl' t x) (h:Zn lk lk' (Zdo E sl lk [m,k,v])):Z6 E sl lk t m k v=Z6 E sl' lk' t m k v:=by
 have c:=fun t=>a t m (by simp)
 have e:=fun t=>a t k (by simp)
 have b:=fun t=>a t v (by simp)
 have g:=fun t n=>ZaN (n:=n) h (x:=m) (by simp) t
 have f:=fun t=>(ZB 1 _ (ZaN h (x:=k) (by simp) t (by decide)))
 have d:=fun t=>(ZB depth _ (ZaN h (x:=v) (by simp) t (by decide)))
 unfold Z6;simp only[<-c,<-e,<-b,<-f,<-d];split<;>try rfl
 split<;>try rfl
 rename_i id i;have:=g 0 1 (by decide) id (by simp_all);grind
theorem ZeL {ep i s t:Nat} {d:D} (h:Zn lk lk' (d.ids lk 1)):ZaD E ep i lk s t d=ZaD E ep i lk' s t d:=by
 have:=(ZB 1 d h).1;unfold ZaD;grind
theorem Zgf {sz:Option Nat} {d:D} {a b c:Option Int} (h:Zn lk lk' d.shal):ZaV lk sz d a b c=ZaV lk' sz d a b c:=by
 unfold ZaV;split<;>try rfl
 rename_i id _ _;rw[h id (by simp[D.shal])]
theorem ZcJ {ep i:Nat} {te:TI} {s:D} {xs:List P} (a:Zn lk lk' (s.ids lk 1)):Zab lk ep i te s xs=Zab lk' ep i te s xs:=by
 unfold Zab;split<;>try rfl
 rename_i id _;rw[a id (by simp)]
theorem Zf0 {ep i:Nat} {te:TI} {s x:D} (b:Zn lk lk' (s.ids lk 1)) (a:Zn lk lk' (x.ids lk 1)):ZaT lk ep i te s x=ZaT lk' ep i te s x:=by
 grind[ZaT,ZdJ,ZcJ]
theorem ZhL {te:TI} {s x:D} (a:Zn lk lk' (s.ids lk 1)) (b:Zn lk lk' (x.ids lk 1)):ZfW lk te s x=ZfW lk' te s x:=by
 unfold ZfW;split<;>try rfl
 rename_i id _ _;rw[a id (by simp)];grind[ZdJ]
theorem ZeM {ep i:Nat} {b:Builtin} {a:List Nat} {e:List D} (h:∀d∈e,Zn lk lk' (d.ids lk (depth+1))):ZO E ep i lk b a e=ZO E ep i lk' b a e:=by
 have c:∀d∈e,Zn lk lk' (d.ids lk 1):=fun d g id f=>h d g id (Zd6 (by decide) d f)
 unfold ZO;split<;>try rfl
 ·unfold Zii;grind[Zi3]
 ·unfold Zcm;split<;>try rfl
  rename_i t u s x;simp only[show ∀te,ZaT lk ep i te s x=ZaT lk' ep i te s x from fun te=>Zf0 (c s (by simp)) (c x (by simp)),show ∀te xs,Zab lk ep i te s xs=Zab lk' ep i te s xs from fun te xs=>ZcJ (c s (by simp))]
 ·unfold Zjl;grind[ZhL]
 ·unfold Zek;split<;>try rfl
  rename_i t _ id k;rw[c (.map id) (by simp) id (by simp),(ZB 1 _ (c k (by simp))).1]
theorem Zjk {ep i:Nat} {A:Op} {ty:Nat} (d:∀t x,x∈A.operands.toList->ev E sl t x=ev E sl' t x) (h:Zn lk lk' (Zea E A sl lk)):
  Zf E ep i A ty sl lk=Zf E ep i A ty sl' lk'/\Zea E A sl lk=Zea E A sl' lk':=by
 cases A with
 |move x=>have:=fun t=>d t x (by simp[Op.operands]);exact⟨by simp only[Zf,this],rfl⟩
 |assign x=>have:=fun t=>d t x (by simp[Op.operands]);exact⟨by simp only[Zf,this],rfl⟩
 |pick c a b=>
  have e:=fun t=>d t c (by simp[Op.operands])
  have o:=fun t=>d t a (by simp[Op.operands])
  have Q:=fun t=>d t b (by simp[Op.operands])
  exact⟨by simp only[Zf,e,o,Q],rfl⟩
 |alloc t=>exact⟨rfl,rfl⟩
 |box t x=>have:=fun t=>d t x (by simp[Op.operands]);exact⟨by simp only[Zf,this],rfl⟩
 |build t z=>
  refine⟨?_,rfl⟩;have:=fun ti cs=>Zdj (E:=E) (sl:=sl) (sl':=sl') (ti:=ti) (xs:=z.toList.map (·.2)) (fun t x g=>d t x (by simpa[Op.operands]using g)) z.toList cs (fun p C=>Zov C)
  simp only[Zf,this]
 |buildSlice t n z=>
  have L:Zn lk lk' (Zdo E sl lk (z.toList.map (·.2))):=by simpa[Zea,Op.operands]using h
  have q:∀t x,x∈z.toList.map (·.2)->ev E sl t x=ev E sl' t x:=fun t x g=>d t x (by simpa[Op.operands]using g)
  have e:=fun t te es=>ZbC (t:=t) (te:=te) q L z.toList es (fun p C=>Zov C)
  have o:=fun t=>Zd7 (t:=t) q L z.toList (fun p C=>Zov C)
  exact⟨by simp only[Zf,e,o],Z4 d h⟩
 |insert t m k v=>
  have q:∀t x,x∈[m,k,v]->ev E sl t x=ev E sl' t x:=fun t x g=>d t x (by simpa[Op.operands]using g)
  exact⟨by simp only[Zf];exact Zbn q (by simpa[Zea,Op.operands]using h),Z4 d h⟩
 |mapUpdate t m k v=>
  have q:∀t x,x∈[m,k,v]->ev E sl t x=ev E sl' t x:=fun t x g=>d t x (by simpa[Op.operands]using g)
  exact⟨by simp only[Zf];exact Zbn q (by simpa[Zea,Op.operands]using h),Z4 d h⟩
 |load t x=>
  have e:=fun t=>d t x (by simp[Op.operands])
  refine⟨?_,by simp only[Zea,e]⟩;simp only[Zea]at h;simp only[Zf,<-e];split<;>try rfl
  split<;>try rfl
  rename_i id _ _ q;rw[h id (by rw[q];simp[D.shal])]
 |store t a x=>
  have e:=fun t=>d t a (by simp[Op.operands])
  have o:=fun t=>d t x (by simp[Op.operands])
  simp only[Zea]at h;have g:Zn lk lk' ((ev E sl t x).ids lk depth):=fun id j=>h id (by rw[Ziu]at j;simp[j])
  have H:Zn lk lk' ((ev E sl 0 x).ids lk depth):=fun id j=>h id (by simp[j])
  refine⟨?_,by simp only[Zea,<-e,<-o,<-(ZB depth _ H).2]⟩;simp only[Zf,<-e,<-o,<-(ZB depth _ g).1,<-(ZB depth _ g).2];split<;>try rfl
  split<;>try rfl
  rename_i id _ _ q;rw[h id (by rw[q];simp[D.shal])];split<;>try rfl
  split<;>try rfl
  rename_i J _ G;rw[g J (by rw[G];simp[D.ids])]
 |nilCheck x=>have:=fun t=>d t x (by simp[Op.operands]);exact⟨by simp only[Zf,this],rfl⟩
 |binOp b t x y u=>
  have e:=fun t=>d t x (by simp[Op.operands])
  have o:=fun t=>d t y (by simp[Op.operands])
  exact⟨by simp only[Zf,e,o],rfl⟩
 |unOp u t x=>have:=fun t=>d t x (by simp[Op.operands]);exact⟨by simp only[Zf,this],rfl⟩
 |convert s t x=>
  have e:=fun t=>d t x (by simp[Op.operands])
  refine⟨?_,Z4 d h⟩;simp only[Zf,<-e];exact ZeL fun id j=>h id (Zob.2 ⟨x,by simp[Op.operands],Zd6 (by decide) _ j⟩)
 |makeFunc f fs cs=>
  refine⟨?_,rfl⟩;have e:fs.toList.map (ev E sl 0)=fs.toList.map (ev E sl' 0):=List.map_congr_left fun x g=>d 0 x (by simp[Op.operands]at g|-;exact .inl g)
  have o:cs.toList.map (ev E sl 0)=cs.toList.map (ev E sl' 0):=List.map_congr_left fun x g=>d 0 x (by simp[Op.operands]at g|-;exact .inr g)
  cases f<;>simp only[Zf,e,o]
 |makeMap t r=>refine⟨?_,rfl⟩;cases r<;>simp only[Zf]
 |makeSlice t l c=>
  have e:=fun t=>d t l (by simp[Op.operands])
  have o:=fun t=>d t c (by simp[Op.operands])
  exact⟨by simp only[Zf,e,o],rfl⟩
 |slice t x lo hi mx=>
  have e:=fun t=>d t x (by simp[Op.operands])
  have R:=Zbx (E:=E) (sl:=sl) (sl':=sl') (x:=lo) fun y B=>d 0 y (by subst B;simp[Op.operands])
  have M:=Zbx (E:=E) (sl:=sl) (sl':=sl') (x:=hi) fun y B=>d 0 y (by subst B;simp[Op.operands])
  have N:=Zbx (E:=E) (sl:=sl) (sl':=sl') (x:=mx) fun y B=>d 0 y (by subst B;simp[Op.operands])
  simp only[Zea]at h;refine⟨?_,by simp only[Zea,e]⟩;have:=fun sz a b c=>Zgf (sz:=sz) (a:=a) (b:=b) (c:=c) h
  simp only[Zf,<-e,<-R,<-M,<-N,this]
 |fieldAddr t x f=>have:=fun t=>d t x (by simp[Op.operands]);exact⟨by simp only[Zf,this],rfl⟩
 |field t x f=>have:=fun t=>d t x (by simp[Op.operands]);exact⟨by simp only[Zf,this],rfl⟩
 |indexAddr t x F=>
  have e:=fun t=>d t x (by simp[Op.operands])
  have o:=fun t=>d t F (by simp[Op.operands])
  simp only[Zea]at h;refine⟨?_,by simp only[Zea,e]⟩;simp only[Zf,<-e,<-o];split<;>try rfl
  split<;>try rfl
  split<;>try rfl
  split<;>try rfl
  rename_i id _ _ q;rw[h id (by rw[q];simp[D.shal])]
 |index t x F=>
  have e:=fun t=>d t x (by simp[Op.operands])
  have o:=fun t=>d t F (by simp[Op.operands])
  exact⟨by simp only[Zf,e,o],rfl⟩
 |lookup t m k S=>
  have e:=fun t=>d t m (by simp[Op.operands])
  have o:=fun t=>d t k (by simp[Op.operands])
  refine⟨?_,Z4 d h⟩;have P:ZfI lk (ev E sl 0 m)=ZfI lk' (ev E sl 0 m):=Zhw fun id j=>h id (Zob.2 ⟨m,by simp[Op.operands],Zd6 (by decide) _ j⟩)
  have O:=fun t=>(ZB (lk:=lk) (lk':=lk') 1 (ev E sl t k) fun id j=>h id (Zob.2 ⟨k,by simp[Op.operands],by rw[Ziu]at j;exact Zd6 (by decide) _ j⟩)).1
  simp only[Zf,<-e,<-o,P,O]
 |range t x=>
  have e:=fun t=>d t x (by simp[Op.operands])
  simp only[Zea]at h;refine⟨?_,by simp only[Zea,e]⟩;simp only[Zf,<-e]
 |next x s=>
  have e:=fun t=>d t x (by simp[Op.operands])
  simp only[Zea]at h;refine⟨?_,by simp only[Zea,e]⟩;cases s with
  |false=>simp only[Zf]
  |true=>
   simp only[Zf,<-e];split<;>try rfl
   rename_i id q;rw[h id (by rw[q];simp[D.shal])]
 |entry x=>exact⟨rfl,Z4 d h⟩
 |extract x n=>have:=fun t=>d t x (by simp[Op.operands]);exact⟨by simp only[Zf,this],rfl⟩
 |call c=>
  obtain⟨I,args,w⟩:=c;refine⟨?_,Z4 d h⟩;cases I with
  |builtin b=>
   simp only[Zf];have g:∀x∈args.toList,x∈(Op.call {callee:= .builtin b,args:=args,argTypes:=w}).operands.toList:=fun x g=>by simpa[Op.operands,Call.operands]using g
   rw[<-Zbj (xs:=args.toList) (fun t x K=>d t x (g x K)) args.toList w.toList (fun x g=>g)];exact ZeM (Zes h args.toList w.toList g)
  |_=>simp only[Zf]
 |_=>exact⟨by simp only[Zf],Z4 d h⟩
end
end Eng
namespace Eng
open Go
def Exec (C:Ctx) (r:Fm) (ops:Array Oper) (i:Nat) (f c:St):Prop:=
 ∀(X:Nat->Prop),¬X i->∀ρ S a w,Rep C X ρ S f a.tmps w->a.defers=r.ds->∀(b:Frame) (rest:List Nat) (e:List Go.Item) (cs:List Frame),b.roundOf=r.r->
  ∃ρ' S' d w',Rep C (fun j=>X j\/j=i) ρ' S' c d.tmps w'/\d.defers=r.ds/\
   StepsIn (Machine.fenced C.E.prog (Zcz r.r)) C.E.prog (lone (b.atR a (.inRegion ops (i::rest)::e)) cs w) (lone (b.atR d (.inRegion ops rest::e)) cs w')
section
variable {C:Ctx} {r:Fm}
theorem ZmR {ops:Array Oper} {i:Nat} {o:Oper} {g:St} {e:Eff} (D:Zl C.E) (t:ops[i]? =some o) (y:ZX ops g o.guard=some true)
  (F:Zf C.E g.ep i o.op o.type g.slots g.objs=some e) (s:ZfB C.E o=true) (hw:Zdu g e=true) (h:∀q∈e.cond,q=true):Exec C r ops i g (g.app i o.dst e):=by
 intro X z ρ S a w u A b rest x cs G;obtain⟨n,v,w',l,E,ρ',S',m⟩:=does u z s D F hw h;have f:=Za3 u y;refine⟨ρ',S',a.put o.dst v,w',m,by simp[A], ?_⟩;have j:o.semAt b.roundOf a.eval=execOp a.eval o:=Oper.semAt_eq _ _ _ (fun c B=>by grind[Zf]);have p:=stepGR_op (P:=C.E.prog) (b:=b) (a:=a) (k:=x) (cs:=cs) (w:=w) (i:=i) (rest:=rest) t f;have d:=Frame.finish_atR b a ops i rest x v;simp only[t,Option.bind_some]at d;refine .one (Zz _ _ _) ?_;refine step_lone_go ?_;rw[p,j,<-d];rcases E with rfl |⟨rfl,rfl⟩<;>simp[stepG.apply,l]
theorem ZgM {ops:Array Oper} {i:Nat} {o:Oper} {st:St} (ho:ops[i]? =some o) (hg:ZX ops st o.guard=some false) (ht:Zdq C.E o=true):Exec C r ops i st (st.app i o.dst {val:= .undef}):=by intro X hX ρ S a w hr hd b rest kk cs hb;have hwant:=Za3 hr hg;obtain⟨S',hrep⟩:=hr.step (i:=i) (t:=o.dst) (e:={val:= .undef}) (v:=undef) (w':=w) ρ hX (Zbi ht) (ZnJ _) (ZQ.refl _) (fun _ _ _=>rfl) (by simp) (fun _ _ h=>h) (fun id h=> .inl h) (by simp) (fun _ _ hm=>by simp_all) (fun _ _ _ _ _ _ _ hm=>by simp_all) (by simp) (fun _ _ _ _ _=> .undef);refine⟨ρ,S',a.put o.dst undef,w,hrep,by simp[hd], ?_⟩;have hst:=stepR_op_skip (P:=C.E.prog) (b:=b) (a:=a) (k:=kk) (cs:=cs) (w:=w) (ops:=ops) (i:=i) (rest:=rest) (by simp_all);simp only[ho,Option.bind_some]at hst;exact .one (Zz _ _ _) hst
def Za0 (E:Env) (sl:Nat->D) (lk:Id->Option Obj) (xs:List Operand):List Id:=xs.flatMap fun x=>(ev E sl 0 x).ids lk (depth+2)
inductive OE (C:Ctx) (ops:Array Oper) (i:Nat) (o:Oper) (st:St):Eff->List Id->Prop
 |skip (hg:ZX ops st o.guard=some false) (hd:Zdq C.E o=true):OE C ops i o st {val:= .undef} []
 |op {e:Eff} (hg:ZX ops st o.guard=some true) (hc:Zf C.E st.ep i o.op o.type st.slots st.objs=some e) (hok:ZfB C.E o=true) (hw:Zdu st e=true) (hcond:∀q∈e.cond,q=true):
   OE C ops i o st e (Zea C.E o.op st.slots st.objs)
 |call {c:Call} {pts:List Nat} {ms:List AM} {f:Nat} {as:List AE} {ret:Ret} {e:Eff} (hg:ZX ops st o.guard=some true) (hop:o.op= .call c) (hd:Zdq C.E o=true)
   (hpre:ZlX C.E st c pts ms=some (f,as)) (hcnd:Zmc (as.flatMap (·.cond))) (hf:Fun C.E f (as.map (·.arg)) ret) (he:ZfY st i as ret=some e):OE C ops i o st e (Za0 C.E st.slots st.objs c.operands.toList)
theorem OE.exec {ops:Array Oper} {i:Nat} {o:Oper} {k:St} {e:Eff} {R:List Id} (n:Zl C.E) (t:ops[i]? =some o) (h:OE C ops i o k e R):Exec C r ops i k (k.app i o.dst e):=by
 cases h with
 |skip l m=>grind[ZgM]
 |op l z s hw j=>grind[ZmR]
 |call l g m d c v x=>
  intro X p ρ S a w y f b rest q cs u;exact Zks p n t l g m _ _ d c rfl v x y f b rest q cs u
theorem Zjx {b a:St} {m:AM} {d:D} (h:Zn b.objs a.objs (d.ids b.objs (depth+1))):ZdD b m d=ZdD a m d:=by
 have t:=ZB depth d fun id g=>h id (Zd6 (by decide) d g)
 unfold ZdD;split
 ·simp_all
 ·rename_i id;rw[<-h id (by simp[D.ids])];cases hlk:b.objs id with
  |none=>rfl
  |some o=>
   cases o with
   |box f=>
    have i:∀x∈f,x.toP b.objs depth=x.toP a.objs depth/\x.ids b.objs depth=x.ids a.objs depth:=fun x j=>ZB depth x fun e c=>h e (by
     grind[D.ids])
    have p:Zj (fun d=>d.toP b.objs depth) f=Zj (fun d=>d.toP a.objs depth) f:=Za8 fun x j=>(i x j).1
    have s:(f.flatMap fun d=>d.ids b.objs depth)=f.flatMap fun d=>d.ids a.objs depth:=by
     clear hlk p
     induction f with
     |nil=>rfl
     |cons x r q=>simp_all
    simp_all
   |_=>rfl
 ·rename_i id len;rw[<-h id (by simp)]
 ·rename_i id;rw[<-h id (by simp)]
 ·rename_i id n len;rw[<-h id (by simp)]
 ·rename_i k id;rw[<-h id (by simp[D.ids])];cases hlk:b.objs id with
  |none=>rfl
  |some o=>
   split
   ·rename_i d m l;obtain rfl:=ZnN l;have i:=ZB (lk:=b.objs) (lk':=a.objs) depth d fun e c=>h e (by
     simp only[D.ids,hlk,ZnD];exact .inr (Zob.2 ⟨d,by simp,c⟩))
    simp_all
   ·rfl
 all_goals simp_all
theorem ZlJ {c:St} {m:AM} {d:D} {x:AE} {r:Id} (a:ZdD c m d=some x) (b:x.ref=some r):r∈d.ids c.objs (depth+1):=by
 unfold ZdD at a;split at a
 ·split at a<;>simp at a;subst a;simp at b
 ·split at a;rotate_left;simp at a;split at a<;>simp at a;subst a;simp at b
 ·split at a<;>simp at a;subst a;simp at b
 all_goals grind[D.ids]
theorem Zfc {lk:Id->Option Obj} {d:D} {g:Nat} {a b:List D} (h:Zck d=some (g,a,b)) (n:Nat):∀x,x∈a++b->∀id∈x.ids lk n,id∈d.ids lk (n+1):=by
 unfold Zck at h;grind[D.ids]
theorem ZcC {E:Env} {sl sl':Nat->D} {lk lk':Id->Option Obj}:∀{xs:List Operand},(∀t x,x∈xs->ev E sl t x=ev E sl' t x)->Zn lk lk' (Za0 E sl lk xs)->Za0 E sl lk xs=Za0 E sl' lk' xs
 | [],_,_=>rfl
 |x::r,he,h=>by
  have b:Zn lk lk' ((ev E sl 0 x).ids lk (depth+2)):=fun id a=>h id (Zob.2 ⟨x,by simp,a⟩)
  have c:Zn lk lk' (Za0 E sl lk r):=fun id a=>by obtain⟨y,d,hi⟩:=Zob.1 a;exact h id (Zob.2 ⟨y,by grind,hi⟩)
  have:=ZcC (xs:=r) (fun t y d=>he t y (by grind)) c;unfold Za0 at this|-
  simp only[Zon,<-he 0 x (by simp),<-(ZB _ _ b).2,this]
theorem Zer {E:Env} {sl:Nat->D}:∀(args:List Operand) (ts:List Nat) (d:D),d∈ZY E sl args ts->∃x t,x∈args/\d=ev E sl t x
 | [],ts,d,h=>by grind[ZY]
 |x::r,[],d,h=>by
  simp only[ZY,ZnD]at h;rcases h with rfl |h
  ·grind
  ·obtain⟨y,t,a,rfl⟩:=Zer r [] d h;grind
 |x::r,t::ts,d,h=>by
  simp only[ZY,ZnD]at h;rcases h with rfl |h
  ·grind
  ·obtain⟨y,t,a,rfl⟩:=Zer r ts d h;grind
theorem ZiT {E:Env} {b a:St} {c:Call} {pts:List Nat} {ms:List AM} {f:Nat} {H:List AE} (F:∀t x,x∈c.operands.toList->ev E b.slots t x=ev E a.slots t x)
  (h:Zn b.objs a.objs (Za0 E b.slots b.objs c.operands.toList)) (Q:∀k id,((0,k,0),id)∈Zaa 0 H->a.fz id=b.fz id) (n:ZlX E b c pts ms=some (f,H)):ZlX E a c pts ms=some (f,H):=by
 have q:∀x∈c.operands.toList,∀t,Zn b.objs a.objs ((ev E b.slots t x).ids b.objs (depth+2)):=fun x r t id i=>h id (Zob.2 ⟨x,r,by rw[Ziu]at i;exact i⟩)
 unfold ZlX at n|-
 split at n
 case h_2=>simp at n
 rename_i G s;have u:G∈c.operands.toList:=by simp[Call.operands,s]
 have p:∀x∈c.args.toList,x∈c.operands.toList:=fun x r=>by simp[Call.operands,s];exact .inr (by simpa using r)
 rw[<-F 0 G u];split at n
 case h_2=>simp at n
 rename_i g e o y
 simp only[<-Zbj (xs:=c.operands.toList) F c.args.toList pts p];have A:∀d∈e++ZY E b.slots c.args.toList pts++o,Zn b.objs a.objs (d.ids b.objs (depth+1)):=by
  intro d l id i;simp only[Zn7]at l;rcases l with (l |l) |l
  ·exact q G u 0 id (Zfc y (depth+1) d (by simp[l]) id i)
  ·obtain⟨x,t,r,rfl⟩:=Zer _ _ _ l;exact q x (p x r) t id (Zd6 (by decide) _ i)
  ·exact q G u 0 id (Zfc y (depth+1) d (by simp[l]) id i)
 have z:∀d∈e++ZY E b.slots c.args.toList pts++o,∀m,ZdD b m d=ZdD a m d:=fun d l m=>Zjx (A d l)
 rw[<-Za8 (f:=fun x:AM×D=>ZdD b x.1 x.2) (g:=fun x=>ZdD a x.1 x.2) fun x r=>z _ (List.of_mem_zip r).2 x.1];dsimp only at n|-
 split at n
 case isFalse=>simp at n
 rename_i v;simp only[v,if_true];split at n
 case h_2=>simp at n
 rename_i B J;have C:∀m∈B.filterMap (·.ref),Zlt b m=Zlt a m:=by
  intro m P;obtain⟨x,r,O⟩:=List.mem_filterMap.1 P;obtain⟨j,K⟩:=Zou.1 r;obtain⟨R,L⟩:=Zh J;have w:j < (ms.zip (e++ZY E b.slots c.args.toList pts++o)).length:=by rw[<-R];exact(ZnA.1 K).1
  have N:=L j _ x (Zn2 w) K;have l:=(List.of_mem_zip (List.getElem_mem w)).2;unfold Zlt;rw[A _ l m (ZlJ N O)]
 rw[<-Za8 C];split at n
 case h_2=>simp at n
 rename_i I M;generalize B++I=as' at*
 grind[Zgp,ZbI,freezeL_fz]
theorem ZhQ {b a:St} {i:Nat} {c:List AE} {ret:Ret} (h:a.ep=b.ep):ZfY a i c ret=ZfY b i c ret:=by grind[ZfY]
theorem ZfM {ops:Array Oper} {b a:St} {o:Oper} (h:∀t∈o.looksAt ops,a.slots t=b.slots t):ZX ops a o.guard=ZX ops b o.guard:=by
 grind[ZX,Oper.looksAt]
theorem Zlw {E:Env} {sl sl':Nat->D} {t:Nat} {x:Operand} (h:∀k,x= .tmp k->sl' k=sl k):ev E sl t x=ev E sl' t x:=by
 cases x with
 |tmp k=>grind[ev]
 |_=>rfl
theorem OE.congr {ops:Array Oper} {i:Nat} {o:Oper} {b a:St} {e:Eff} {R:List Id} (h:OE C ops i o b e R) (D:∀t∈o.looksAt ops,a.slots t=b.slots t) (B:∀id∈R,a.objs id=b.objs id)
  (F:∀id∈e.wr.map (·.1),a.fz id=b.fz id) (G:a.ep=b.ep):OE C ops i o a e R:=by
 have q:∀t x,x∈o.op.operands.toList->ev C.E b.slots t x=ev C.E a.slots t x:=fun t x A=>Zlw fun k K=>D k (by
  grind[Oper.looksAt])
 have E:=ZfM D;cases h with
 |skip z u=>exact .skip (by simp_all) u
 |op z L v hw l=>
  obtain⟨q1,y⟩:=Zjk (ep:=b.ep) (i:=i) (ty:=o.type) q (fun id g=>(B id g).symm);rw[y];refine .op (by simp_all) (by simp_all) v ?_ l;grind[Zdu]
 |call z r u n p J s=>
  rename_i c pts ms f w ret;have d:∀t x,x∈c.operands.toList->ev C.E b.slots t x=ev C.E a.slots t x:=fun t x A=>q t x (by rw[r];exact A)
  have m:Zn b.objs a.objs (Za0 C.E b.slots b.objs c.operands.toList):=fun id g=>(B id g).symm
  rw[ZcC d m];refine .call (pts:=pts) (ms:=ms) (by simp_all) r u (ZiT d m (fun k id I=> ?_) n) p J (by grind[ZhQ]);obtain⟨j,x,q1,y,H⟩:=ZbI 0 w _ _ I;refine F id ?_;unfold ZfY at s;split at s;rotate_left;simp at s;cases s;exact Zod.2 ⟨_,ZdC 0 w j x id q1 H,rfl⟩
end
end Eng
namespace Eng
open Go
def ZgA (l:List (Id×Obj)) (id:Id):Option Obj:=
 match l with
 | []=>none
 |(a,o)::r=>match ZgA r id with
  |some u=>some u
  |none=>if id=a then some o else none
theorem Zli (l:List (Id×Obj)):∀(b:St) (id:Id),(b.objL l).objs id=(ZgA l id).or (b.objs id):=by
 induction l with
 |nil=>intro b id;rfl
 |cons x r c=>
  obtain⟨a,o⟩:=x;intro b id;simp only[St.objL,c,ZgA];cases ZgA r id with
  |some u=>rfl
  |none=>
   simp only[St.obj,upd,Option.or]
   grind
theorem ZaG {l:List (Id×Obj)} {id:Id} (h:id∉l.map (·.1)):ZgA l id=none:=by
 induction l with
 |nil=>rfl
 |cons x r a=>
  grind[ZgA]
def ZoF (ep i:Nat) (e:Eff):List (Id×Obj):=e.new.map fun x=>((ep,i,x.1),x.2)
theorem ZkR (a:St) (i:Nat) (t:Option Nat) (e:Eff) (id:Id):(a.app i t e).objs id=(ZgA (ZoF a.ep i e) id).or ((ZgA e.wr id).or (a.objs id)):=by simp only[St.app,Zgi,Zu,Zli,ZmC,ZoF]
theorem Zhu {ep i:Nat} {e:Eff} {id:Id} (h:id∈(ZoF ep i e).map (·.1)):id.1=ep/\id.2.1=i:=by simp only[ZoF,ZoB,Zod]at h;obtain⟨x,_,rfl⟩:=h;exact⟨rfl,rfl⟩
def ZR (ep i:Nat) (W:List Id) (id:Id):Bool:=decide (id∈W)||(decide (id.1=ep)&&decide (id.2.1=i))
theorem Zdb {a:St} {i:Nat} {t:Option Nat} {e:Eff} {id:Id} (h:ZR a.ep i (e.wr.map (·.1)) id=false):(a.app i t e).objs id=a.objs id:=by grind[ZR,ZkR,ZaG,Zhu]
theorem ZlL {a:St} {i j:Nat} {e f:Option Nat} {b c:Eff} (n:i≠j) (s:∀d,e=some d->f≠some d) (u:∀id∈b.wr.map (·.1),ZR a.ep j (c.wr.map (·.1)) id=false)
  (t:∀id∈c.wr.map (·.1),ZR a.ep i (b.wr.map (·.1)) id=false):(a.app i e b).app j f c=(a.app j f c).app i e b:=by
 have p:((a.app i e b).app j f c).slots=((a.app j f c).app i e b).slots:=by
  funext k;simp only[ZaU]
  by_cases hi:e=some k
  ·have:=s k hi;simp[hi,this]
  ·simp[hi]
 have q:((a.app i e b).app j f c).objs=((a.app j f c).app i e b).objs:=by
  funext id;simp only[ZkR,ZcK]
  by_cases hi:ZR a.ep i (b.wr.map (·.1)) id=true
  ·have m:ZR a.ep j (c.wr.map (·.1)) id=false:=by
    simp only[ZR,Bool.or_eq_true,decide_eq_true_eq,Znu]at hi;rcases hi with hi |hi
    ·exact u id hi
    ·simp only[ZR,Zom,decide_eq_false_iff_not,Zol];refine⟨fun g=> ?_,.inr fun m=>n (by rw[<-hi.2,m])⟩;have:=t id g;simp[ZR,hi]at this
   simp only[ZR,Zom,decide_eq_false_iff_not,Zol]at m;rw[ZaG (l:=ZoF a.ep j c) (fun g=>by have:=Zhu g;rcases m.2 with h |h<;>simp_all),ZaG m.1];simp
  ·have hi:ZR a.ep i (b.wr.map (·.1)) id=false:=by simpa using hi
   simp only[ZR,Zom,decide_eq_false_iff_not,Zol]at hi;rw[ZaG (l:=ZoF a.ep i b) (fun g=>by have:=Zhu g;rcases hi.2 with h |h<;>simp_all),ZaG hi.1];simp
 have r:((a.app i e b).app j f c).fz=((a.app j f c).app i e b).fz:=by funext id;simp only[ZbK];cases b.frz.contains id<;>cases c.frz.contains id<;>rfl
 have o:((a.app i e b).app j f c).ep=((a.app j f c).app i e b).ep:=by simp
 generalize (a.app i e b).app j f c=s1 at*
 generalize (a.app j f c).app i e b=s2 at*
 cases s1;cases s2;simp only at p q r o;subst p q r o;rfl
structure Fp where
 R:List Id:=[]
 W:List Id:=[]
 F:List Id:=[]
def ZhB (ops:Array Oper) (ep i j:Nat) (d c:Oper) (b a:Fp):Bool:=
 d.apart ops c&&(b.R.all fun id=> !ZR ep j a.W id)&&(b.W.all fun id=> !ZR ep j a.W id)&&(a.R.all fun id=> !ZR ep i b.W id)&&(a.W.all fun id=> !ZR ep i b.W id)&&
  (b.F.all fun id=> !decide (id∈a.W))&&(a.F.all fun id=> !decide (id∈b.W))
inductive ZeN (ops:Array Oper):Nat->Nat->Prop
 |one {j:Nat} {o:Oper} {e:Edge} (hj:ops[j]? =some o) (he:e∈o.after) (hb:Region.binds .any e=true):ZeN ops j e.on
 |more {j i:Nat} {o:Oper} {e:Edge} (hj:ops[j]? =some o) (he:e∈o.after) (hb:Region.binds .any e=true) (h:ZeN ops e.on i):ZeN ops j i
def Zfr (ops:Array Oper) (a:Array Bool):Prop:=
 ∀j o,ops[j]? =some o->a.getD j true=true->∀e∈o.after,Region.binds .any e=true->a.getD e.on false=true
theorem Zhy {a:Array Bool} {j:Nat} (h:a.getD j false=true):a.getD j true=true:=by
 grind
theorem ZeN.listed {ops:Array Oper} {a:Array Bool} {j i:Nat} (h:ZeN ops j i) (n:Zfr ops a) (m:∀o,ops[j]? =some o->∀e∈o.after,Region.binds .any e=true->a.getD e.on false=true):
  a.getD i false=true:=by
 induction h with
 |one f k g=>simp_all
 |more f k g _ l=>exact l fun o' d e' b c=>n _ o' d (Zhy (m _ f _ k g)) e' b c
theorem Zfr.set {ops:Array Oper} {a:Array Bool} (h:Zfr ops a) {i:Nat} (hi:i∈Region.ready .any ops a):Zfr ops (a.setIfInBounds i true):=by
 intro j o d b e k g;refine getD_set_true ?_;obtain⟨_,l,f,c⟩:=mem_ready.1 hi
 by_cases hji:j=i
 ·simp_all
 ·rw[getD_set_ne true (Ne.symm hji)]at b;exact h j o d b e k g
section
variable {C:Ctx} {r:Fm} {ops:Array Oper} {tbl:List Fp} {K:St->Prop}
def D.isDead:D->Bool
 | .dead=>true
 |_=>false
def live (ops:Array Oper) (o:Oper) (a:St) (f:Fp):Bool:=(o.looksAt ops).all (fun t=> !(a.slots t).isDead)&&(f.R.all fun id=>(a.objs id).isSome)&&(f.W.all fun id=>(a.objs id).isSome)
def OEf (C:Ctx) (ops:Array Oper) (i:Nat) (o:Oper) (a:St) (e:Eff) (f:Fp):Prop:=OE C ops i o a e f.R/\f.W=e.wr.map (·.1)/\f.F=e.frz/\live ops o a f=true
def Zno (C:Ctx) (ops:Array Oper) (a:List Fp) (K:St->Prop):Nat->Array Bool->St->Prop
 |0,listed,st=>Region.ready .any ops listed=[]/\K st
 |n+1,listed,st=>(Region.ready .any ops listed=[]->K st)/\
   ∀i∈Region.ready .any ops listed,∃o e f,ops[i]? =some o/\a[i]? =some f/\OEf C ops i o st e f/\Zno C ops a K n (listed.setIfInBounds i true) (st.app i o.dst e)
theorem Zi6 {ep i j:Nat} {d c:Oper} {b a:Fp} (h:ZhB ops ep i j d c b a=true):d.apart ops c=true/\(∀id∈b.R,ZR ep j a.W id=false)/\(∀id∈b.W,ZR ep j a.W id=false)/\
  (∀id∈a.R,ZR ep i b.W id=false)/\(∀id∈a.W,ZR ep i b.W id=false)/\(∀id∈b.F,id∉a.W)/\(∀id∈a.F,id∉b.W):=by
 grind[ZhB]
theorem Ze5 {o:Oper} {b a:St} {f:Fp} (h:live ops o b f=true) (d:∀t∈o.looksAt ops,a.slots t=b.slots t) (c:∀id∈f.R,a.objs id=b.objs id) (e:∀id∈f.W,a.objs id=b.objs id):live ops o a f=true:=by
 grind[live]
theorem OEf.swap {i j:Nat} {d b:Oper} {p g:Fp} {a:St} {f e:Eff} (s:i≠j) (hi:OEf C ops i d a f p) (x:OEf C ops j b (a.app i d.dst f) e g) (k:ZhB ops a.ep i j d b p g=true):
  OEf C ops j b a e g/\OEf C ops i d (a.app j b.dst e) f p/\(a.app i d.dst f).app j b.dst e=(a.app j b.dst e).app i d.dst f:=by
 obtain⟨w,E,F,D,I,B,H⟩:=Zi6 k;obtain⟨G,z,A⟩:=Oper.apart_spec w;obtain⟨o,r,h,v⟩:=hi;obtain⟨m,q,n,u⟩:=x;have l:OE C ops j b a e g.R:=by
  refine m.congr (fun t y=> ?_) (fun id c=> ?_) (fun id c=> ?_) (ZcK _ _ _ _).symm
  all_goals grind[ZaU,Zdb,ZbK]
 refine⟨⟨l,q,n, ?_⟩,⟨?_,r,h, ?_⟩, ?_⟩
 ·grind[Ze5,ZaU,Zdb]
 ·refine o.congr (fun t y=> ?_) (fun id c=> ?_) (fun id c=> ?_) (ZcK _ _ _ _)
  all_goals grind[ZaU,Zdb,ZbK]
 all_goals grind[Ze5,ZaU,Zdb,ZlL]
theorem Zha {a:Array Bool} {i:Nat} (c:a.getD i true=false) (b:a.getD i false=true):False:=by
 grind
theorem Zjz {i:Nat} {w:Oper} {e:Eff} {f:Fp} (hi:ops[i]? =some w) (Q:tbl[i]? =some f):∀(b:Nat) (a:Array Bool) (n:St),Zfr ops a->
   (∀j o u,ops[j]? =some o->tbl[j]? =some u->j≠i->a.getD j true=false->¬ZeN ops j i->ZhB ops n.ep i j w o f u=true)->
   i∈Region.ready .any ops a->OEf C ops i w n e f->
   Zno C ops tbl K b (a.setIfInBounds i true) (n.app i w.dst e)->Zno C ops tbl K (b+1) a n:=by
 intro b
 induction b with
 |zero=>
  intro a n _ _ y F H;refine⟨fun h=>(by simp_all),fun j s=> ?_⟩
  by_cases c:j=i
  ·grind
  ·have:=ready_mono s c;rw[H.1]at this;simp_all
 |succ b O=>
  intro a n r d y F H;refine⟨fun h=>(by simp_all),fun j s=> ?_⟩
  by_cases c:j=i
  ·grind
  ·obtain⟨o,G,u,g,p,A,H1⟩:=H.2 j (ready_mono s c);obtain⟨l,J,m,q⟩:=mem_ready.1 s;rw[g]at m;obtain rfl:=ZnN m;have B:=(mem_ready.1 y).1;have x:¬ZeN ops j i:=fun hw=>Zha B (hw.listed r fun o' t=>by rw[g]at t;obtain rfl:=ZnN t;exact q)
   obtain⟨q1,I,P⟩:=OEf.swap (Ne.symm c) F A (d j o u g p c l x);refine⟨o,G,u,g,p,q1,O (a.setIfInBounds j true) (n.app j o.dst G) (r.set s) (fun k M N L E D v z=> ?_) (ready_mono y (Ne.symm c)) I ?_⟩
   ·rw[ZcK];refine d k M N L E D ?_ z
    by_cases hjk:j=k
    ·subst hjk;exact l
    ·rw[getD_set_ne true hjk]at v;exact v
   grind[Array.setIfInBounds_comm]
def masks (ops:List Oper):List Nat:=
 ops.foldl (init:=[]) fun a o=>a++[o.after.toList.foldl (fun s e=>if Region.binds .any e then s|||2 ^ e.on|||a.getD e.on 0 else s) 0]
def Zkd (a:List Nat) (es:List Edge) (s:Nat):Nat:=es.foldl (fun s e=>if Region.binds .any e then s|||2 ^ e.on|||a.getD e.on 0 else s) s
theorem Zd0 {a:List Nat} {i:Nat}:∀(es:List Edge) (s:Nat),(Zkd a es s).testBit i=true->s.testBit i=true\/∃e∈es,Region.binds .any e=true/\(e.on=i\/(a.getD e.on 0).testBit i=true)
 | [],s,h=> .inl h
 |e::es,s,h=>by
  have h:=Zd0 es _ h;grind
theorem Ze4 (ops:Array Oper):∀(l pre:List Oper) (a:List Nat),pre++l=ops.toList->a.length=pre.length->(∀j i,(a.getD j 0).testBit i=true->ZeN ops j i)->
  ∀j i,((l.foldl (init:=a) fun a o=>a++[o.after.toList.foldl (fun s e=>if Region.binds .any e then s|||2 ^ e.on|||a.getD e.on 0 else s) 0]).getD j 0).testBit i=true->ZeN ops j i
 | [],pre,a,_,_,h=>h
 |o::l,pre,a,hp,hl,h=>by
  simp only[List.foldl_cons];refine Ze4 ops l (pre++[o]) _ (by simpa using hp) (by simp[hl]) fun j i f=> ?_
  have k:ops[pre.length]? =some o:=by rw[<-ZnS,<-hp];simp
  by_cases hj:j < a.length
  ·refine h j i ?_;simpa[Zoo,List.getElem?_append_left hj]using f
  ·by_cases hj2:j=a.length
   ·subst hj2;have g:(Zkd a o.after.toList 0).testBit i=true:=by simpa[Zoo,Zkd]using f
    rcases Zd0 _ _ g with d |⟨e,m,c,d⟩
    ·simp at d
    ·rw[hl];have b:e∈o.after:=by simpa using m
     rcases d with rfl |d
     ·exact .one k b c
     ·exact .more k b c (h _ _ d)
   ·have:((a++[o.after.toList.foldl (fun s e=>if Region.binds .any e then s|||2 ^ e.on|||a.getD e.on 0 else s) 0]).getD j 0)=0:=by rw[Zoo,List.getElem?_eq_none (by simp;omega)];rfl
    rw[this]at f;simp at f
theorem Zhv {ops:Array Oper} {j i:Nat} (h:((masks ops.toList).getD j 0).testBit i=true):ZeN ops j i:=
 Ze4 ops ops.toList [] [] rfl rfl (fun j i h=>by grind) j i h
def ZeW (ops:Array Oper) (ep i:Nat) (a:Oper) (b:Fp):Nat->List Oper->List Fp->List Nat->Bool
 |_,[],_,_=>true
 |j,oj::os,fj::fs,m::ms=>(m.testBit i||ZhB ops ep i j a oj b fj)&&ZeW ops ep i a b (j+1) os fs ms
 |_,_,_,_=>false
def ZcT (ops:Array Oper) (ep:Nat):Nat->List Oper->List Fp->List Nat->Bool
 |_,[],_,_=>true
 |i,oi::os,fi::fs,m::ms=>ZeW ops ep i oi fi (i+1) os fs ms&&ZcT ops ep (i+1) os fs ms
 |_,_,_,_=>false
def Ziy:Nat->List Oper->Bool
 |_,[]=>true
 |i,o::os=>(o.after.toList.all fun e=> !Region.binds .any e||decide (e.on < i))&&Ziy (i+1) os
def ZgP (ops:Array Oper) (ep:Nat) (a:List Fp):Bool:=Ziy 0 ops.toList&&ZcT ops ep 0 ops.toList a (masks ops.toList)
theorem Zep:∀(l:List Oper) (i:Nat),Ziy i l=true->∀k o,l[k]? =some o->∀e∈o.after,Region.binds .any e=true->e.on < i+k
 | [],_,_,k,o,h=>by grind
 |o::l,i,h,k,o',hk=>by
  simp only[Ziy,Znu,ZnV,Bool.or_eq_true,Bool.not_eq_true',decide_eq_true_eq]at h;cases k with
  |zero=>
   grind
  |succ k=>
   simp at hk;intro e a b;have:=Zep l (i+1) h.2 k o' hk e a b;omega
theorem ZdO {ep i:Nat} {c:Oper} {d:Fp}:∀(os:List Oper) (fs:List Fp) (ms:List Nat) (j:Nat),ZeW ops ep i c d j os fs ms=true->∀k b a,os[k]? =some b->fs[k]? =some a->
  (ms.getD k 0).testBit i=true\/ZhB ops ep i (j+k) c b d a=true
 | [],_,_,_,_,k,b,a,h,_=>by grind
 |o::os,[],_,_,h,_,_,_,_,_=>by simp_all
 |o::os,f::fs,[],_,h,_,_,_,_,_=>by grind[ZeW]
 |o::os,f::fs,m::ms,j,h,k,b,a,ho,hf=>by
  simp only[ZeW,Znu,Bool.or_eq_true]at h;cases k with
  |zero=>simp_all
  |succ k=>
   simp at ho hf;have:=ZdO os fs ms (j+1) h.2 k b a ho hf;grind
theorem Zdh {ep:Nat}:∀(os:List Oper) (fs:List Fp) (ms:List Nat) (i:Nat),ZcT ops ep i os fs ms=true->∀k l c b d a,k < l->os[k]? =some c->os[l]? =some b->fs[k]? =some d->fs[l]? =some a->
  (ms.getD l 0).testBit (i+k)=true\/ZhB ops ep (i+k) (i+l) c b d a=true
 | [],_,_,_,_,k,l,c,b,d,a,_,h,_,_,_=>by grind
 |o::os,[],_,_,h,_,_,_,_,_,_,_,_,_,_,_=>by simp_all
 |o::os,f::fs,[],_,h,_,_,_,_,_,_,_,_,_,_,_=>by grind[ZcT]
 |o::os,f::fs,m::ms,i,h,k,l,c,b,d,a,hkl,h1,h2,h3,h4=>by
  simp only[ZcT,Znu]at h;cases l with
  |zero=>omega
  |succ l=>
   simp at h2 h4;cases k with
   |zero=>
    simp at h1 h3;subst h1 h3;have:=ZdO os fs ms (i+1) h.1 l b a h2 h4;grind
   |succ k=>
    simp at h1 h3;have:=Zdh os fs ms (i+1) h.2 k l c b d a (by omega) h1 h2 h3 h4;grind
def ZlQ (C:Ctx) (ops:Array Oper):List Fp->Nat->St->St->Prop
 | [],_,st,st'=>st=st'
 |f::r,k,st,st'=>∃o e,ops[k]? =some o/\OEf C ops k o st e f/\ZlQ C ops r (k+1) (st.app k o.dst e) st'
def Znn (n k:Nat) (a:Array Bool):Prop:=a.size=n/\∀j,j < n->a[j]? =some (decide (j < k))
theorem Znn.set {n k:Nat} {a:Array Bool} (h:Znn n k a):Znn n (k+1) (a.setIfInBounds k true):=by
 refine⟨by simp[h.1],fun j b=> ?_⟩;rw[Array.getElem?_setIfInBounds]
 by_cases hjk:k=j
 ·subst hjk;simp[h.1,b]
 ·rw[if_neg hjk,h.2 j b];grind[ZnO]
theorem ZlP {ep:Nat} {v:St} (r:ZgP ops ep tbl=true) (L:tbl.length=ops.size) (M:K v):∀(l:List Fp) (k:Nat) (a:Array Bool) (u:St),(∀j,l[j]? =tbl[k+j]?)->k+l.length=ops.size->
  Znn ops.size k a->u.ep=ep->ZlQ C ops l k u v->Zno C ops tbl K l.length a u:=by
 simp only[ZgP,Znu]at r;have A:=Zep _ _ r.1;have s:=Zdh _ _ _ _ r.2;have c:∀k o,ops[k]? =some o->∀e∈o.after,Region.binds .any e=true->e.on < k:=fun k o w e I z=>by simp_all
 have b:∀{k:Nat} {a:Array Bool},Znn ops.size k a->∀j,j < ops.size->∀d,a.getD j d=decide (j < k):=fun i j p d=>by rw[Array.getD_eq_getD_getElem?,i.2 j p];rfl
 have n:∀{k:Nat} {a:Array Bool},k<=ops.size->Znn ops.size k a->Zfr ops a:=by intro k a w i j o p t e I z;have m:=(Znq.1 p).1;rw[b i j m]at t;have:=c j o p e I z;have t:=of_decide_eq_true t;rw[b i _ (by omega)];grind
 intro l
 induction l with
 |nil=>
  intro k a u _ w i _ g;simp only[ZlQ]at g;subst g;simp only[List.length_nil,Nat.add_zero]at w;refine⟨?_,M⟩;refine List.eq_nil_iff_forall_not_mem.2 fun j p=> ?_
  obtain⟨N,o,q,_⟩:=mem_ready.1 p;have m:=(Znq.1 q).1;rw[b i j m]at N;simp_all
 |cons f l Q=>
  intro k a u t w i x g;obtain⟨o,e,q,E,g⟩:=g;have G:=(Znq.1 q).1;have H:tbl[k]? =some f:=by simpa using (t 0).symm
  simp only[List.length_cons]at w|-
  refine Zjz q H l.length a u (n (by omega) i) (fun j J O p B P y D=> ?_) (mem_ready.2 ⟨?_,o,q,fun e' F z=> ?_⟩) E
   (Q (k+1) _ _ (fun j=>by have:=t (j+1);simpa[ZnH,Nat.add_comm 1 j]using this) (by omega) i.set (by rw[ZcK];exact x) g)
  ·have m:=(Znq.1 p).1;rw[b i j m]at y;simp at y;have:=s k j o J f O (by omega) (by rw[ZnS];exact q) (by rw[ZnS];exact p) H B;simp only[Zok]at this;rcases this with h |h
   ·exact absurd (Zhv h) D
   ·rw[x];exact h
  ·rw[b i k G];simp
  ·have:=c k o q e' F z;rw[b i _ (by omega)];simpa using this
theorem Zno.run (hE:Zl C.E) {b:Frame} (kk:List Go.Item) (cs:List Frame) (hb:b.roundOf=r.r):∀(fuel t:Nat) (listed:Array Bool) (st:St),Zno C ops tbl K fuel listed st->∀(X:Nat->Prop),(∀j,j < ops.size->X j->listed.getD j true=true)->
  ∀ρ S a w,Rep C X ρ S st a.tmps w->a.defers=r.ds->∃X' ρ' S' st' a' w',Rep C X' ρ' S' st' a'.tmps w'/\a'.defers=r.ds/\K st'/\
   StepsIn (Machine.fenced C.E.prog (Zcz r.r)) C.E.prog (lone (b.atR a (.inRegion ops (Region.linearise.go .any ops fuel t listed [])::kk)) cs w) (lone (b.atR a' (.inRegion ops []::kk)) cs w'):=by
 intro fuel
 induction fuel with
 |zero=>
  intro t listed st h X hX ρ S a w hr hd;exact⟨X,ρ,S,st,a,w,hr,hd,h.2,by simp only[Region.linearise.go,List.reverse_nil];exact .refl _⟩
 |succ fuel ih=>
  intro t listed st h X hX ρ S a w hr hd;obtain⟨h0,h1⟩:=h;simp only[Region.linearise.go]
  change ∃X' ρ' S' st' a' w',_/\_/\_/\StepsIn _ _ (lone (b.atR a (.inRegion ops (match (Region.ready .any ops listed)[t % (Region.ready .any ops listed).length]? with
   |some i=>Region.linearise.go .any ops fuel (t / (Region.ready .any ops listed).length) (listed.setIfInBounds i true) [i]
   |none=>[].reverse)::kk)) cs w) _
  cases hi:(Region.ready .any ops listed)[t % (Region.ready .any ops listed).length]? with
  |none=>
   have hnil:Region.ready .any ops listed=[]:=by
    cases hr:Region.ready .any ops listed with
    |nil=>rfl
    |cons x xs=>
     grind[Nat.mod_lt]
   exact⟨X,ρ,S,st,a,w,hr,hd,h0 hnil,by simp only[List.reverse_nil];exact .refl _⟩
  |some i=>
   have hir:=Zoe hi;obtain⟨o,e,f,ho,_,hoe,hrest⟩:=h1 i hir;have his:=(Znq.1 ho).1;have hun:=(mem_ready.1 hir).1;obtain⟨ρ1,S1,a1,w1,hr1,hd1,hs1⟩:=(hoe.1.exec (r:=r) hE ho) X (fun hx=>by simp_all) ρ S a w hr hd b (Region.linearise.go .any ops fuel (t / (Region.ready .any ops listed).length) (listed.setIfInBounds i true) []) kk cs hb;obtain⟨X',ρ',S',st',a',w',q1,q2,q3,q4⟩:=ih (t / (Region.ready .any ops listed).length) _ _ hrest (fun j=>X j\/j=i) (fun j hjs hj=>by
    rcases hj with hj |rfl
    ·by_cases hji:i=j
     ·subst hji;rw[hX i his hj]at hun;cases hun
     ·rw[getD_set_ne true hji];exact hX j hjs hj
    simp_all) ρ1 S1 a1 w1 hr1 hd1
   refine⟨X',ρ',S',st',a',w',q1,q2,q3, ?_⟩;dsimp only;rw[linearise_go_acc,List.reverse_singleton,List.singleton_append];exact hs1.trans q4
theorem Rep.drawn {X:Nat->Prop} {ρ:Id->Option Lay} {S:Fz} {d:St} {tm:Array Value} {w:World} (h:Rep C X ρ S d tm w) (n:Nat):Rep C X ρ S d tm {w with drawn:=n}:=by
 have a:ZbM S w {w with drawn:=n}:= .of fun _ _ _ _=>rfl
 exact {h with
  slots:=fun k=>(h.slots k).mono a (fun _ _ h=>h) (fun _ _ h=>h)
  objs:=fun id o q e=>by obtain⟨L,hL,m⟩:=h.objs id o q e;exact⟨L,hL,m.mono a (fun _ _ h=>h) (fun _ _ h=>h) (fun _ _=>rfl)⟩
  glob:=fun g cs j=>(h.glob g cs j).mono a (fun _ _ h=>h)
  fam:=by obtain⟨κ,F⟩:=h.fam;refine⟨κ,fun id i sz c k l L p hL=> ?_,F.own,F.inj⟩;obtain⟨b,v,q1,q2,q3,f⟩:=F.kid _ _ _ _ _ _ L p hL;exact⟨b,v,q1,q2,q3.mono a (fun _ _ h=>h) (fun _ _ h=>h),f.mono a (fun _ _ h=>h) (fun _ _ h=>h) fun _ _=>rfl⟩}
variable {G:Zg6}
def DW (C:Ctx) (r:Fm) (G:Zg6) (k:List Item) (ops:Array Oper) (a:List Fp) (c:St):Prop:=
 ∃rest b,(a++rest).length=ops.size/\ZgP ops c.ep (a++rest)=true/\ZlQ C ops rest a.length c b/\AWP C r G k b.next
theorem dw_op {k:List Item} {a:List Fp} {c:St} {o:Oper} {e:Eff} {f:Fp} (g:ops[a.length]? =some o) (h:OEf C ops a.length o c e f) (i:DW C r G k ops (a++[f]) (c.app a.length o.dst e)):DW C r G k ops a c:=by obtain⟨rest,b,q1,l,j,d⟩:=i;refine⟨f::rest,b,by simp_all,by simp_all,⟨o,e,g,h,by simp_all⟩,d⟩
theorem dw_end {k:List Item} {a:List Fp} {b:St} (e:a.length=ops.size) (c:ZgP ops b.ep a=true) (d:AWP C r G k b.next):DW C r G k ops a b:=
 ⟨[],b,by simp_all,by simp_all,rfl,d⟩
theorem ZlF {k:List Item} {st:St} {id:Nat} (hE:Zl C.E) (hm:C.E.prog.follows .mixedOrders=true) (h:DW C r G k ops [] st):AWP C r G (.c (.region id ops true)::k) st:=by intro ρ S a w hr hd b k0 cs hb;obtain⟨rest,st',q1,q2,q3,q4⟩:=h;simp only[List.nil_append]at q1 q2;have hany:=ZlP (K:=fun s=>s=st') q2 q1 rfl rest 0 (Array.replicate ops.size false) st (by simp) (by omega) ⟨by simp,fun j hj=>by grind⟩ rfl q3;rw[q1]at hany;have hr0:Rep C (fun _=>False) ρ S st a.tmps w:=hr;obtain⟨X',ρ',S',st2,a',w',p1,p2,p3,p4⟩:=hany.run hE (b:=b) (k.map conc++k0) cs hb ops.size (w.tape w.drawn (.order b.fn id)) _ _ (fun _=>False) (fun _ _ h=>h.elim) ρ S a {w with drawn:=w.drawn+1} (hr0.drawn _) hd;subst p3;obtain⟨e,a2,w2,hg,harr⟩:=q4 ρ' S' a' w' (p1.nextEp.weakX (fun _ h=>h.elim)) p2 b k0 cs hb;refine⟨e,a2,w2,hg,.of_steps ?_ harr⟩;refine .head (Zz _ _ _) (stepR_region_draw) (StepsIn.trans (m₁:=lone (b.atR a' (.inRegion ops []::(k.map conc++k0))) cs w') ?_ (.one (Zz _ _ _) stepR_region_end));simp only[Region.schedule,hm,Bool.true_or,if_true];exact p4
end
end Eng
namespace Eng
open Go
structure Under (st2 st:St):Prop where
 ep:st2.ep=st.ep
 slots:∀k,st2.slots k= .dead\/st2.slots k=st.slots k
 objs:∀id,st2.objs id=none\/st2.objs id=st.objs id
 fz:∀id,st2.fz id=st.fz id
section
variable {C:Ctx} {r:Fm} {G:Zg6} {ops:Array Oper}
def objL (a:St):List Id->Option (List Obj)
 | []=>some []
 |id::r=>match a.objs id,objL a r with
  |some o,some os=>some (o::os)
  |_,_=>none
end
end Eng
namespace Eng
open Go
def ZjF (w w':World):Prop:=ZQ w w'/\w.heap.size<=w'.heap.size/\∀b,b < w.heap.size->w'.heap[b]? =w.heap[b]?
theorem ZjF.keptBut {w w':World} (h:ZjF w w') (a:MemPlace->Prop):w.keptBut w' a:=by
 refine⟨h.1.1,h.1.2,fun i hi=> ?_⟩;rw[h.2.2 i hi];grind
theorem Zfj:∀(n:Nat) (xs:List P),Zcl n (xs.map .p)=[]
 |_,[]=>rfl
 |n,x::xs=>by simp only[Zn6,Zcl,Arg.o];exact Zfj (n+1) xs
theorem Zkk {E:Env} {f:Nat} {xs:List P} {a:Array Value} {w:World} {y:P} (n:Fun E f (xs.map .p) ⟨[.p y],[]⟩) (s:(E.prog.funcs[f]?.map fun fn=>fn.body.isNone)=some false) (G:a.size=xs.length)
  (m:∀(k:Nat) v x,a[k]? =some v->xs[k]? =some x->RelP w (fun b _=>b < w.heap.size) v x) (l:∀g cs,(g,cs)∈E.globs->ZeC w (fun b _=>b < w.heap.size) g cs):
  Calls E.prog f a w fun e w'=>(∃v S,e= .returned v/\RelP w' S v y)/\ZjF w w':=by
 obtain n |⟨⟨fn,q,u⟩,_⟩:=n
 case inr=>simp_all
 refine Calls.mono (CallsIn.calls (n.2 w (fun _=>False) (fun b _=>b < w.heap.size) (fun _=>none) (fun _=>none) a (by simp_all) ?_) (fun _=>by intro d H;grind[Zcz])) ?_
 ·have B:∀id,(Zeu (xs.map .p)).objs id=none:=fun id=>by show Zg (Zcl 0 (xs.map .p)) id=none;rw[Zfj];rfl
  exact {
   nt:=rfl
   grow:=ZnJ _
   frame:=fun _ _ _=>rfl
   s0:=fun _ _ h=>h
   sIn:=fun _ _ h=>h
   slots:=fun k=>by
    show RelD w _ _ (a.getD k undef) (Zaz D.dead (Zc9 0 (xs.map .p)) k);rcases ZaS D.dead (Zc9 0 (xs.map .p)) k with r |r
    ·rw[r];exact .dead _
    ·obtain⟨j,x,q1,q2,t⟩:=Zex 0 _ _ _ r;rw[Zok]at q2 t;subst q2;rw[ZnB,ZnM]at q1;obtain⟨C,q1,rfl⟩:=q1;rw[t];have z:=(ZnA.1 q1).1;have p:a[k]? =some a[k]:=by simp
     rw[show a.getD k undef=a[k] by simp_all];exact .p _ _ (m k _ C p q1)
   objs:=fun id o h=>by simp_all
   own:=fun id o L b h=>by simp_all
   inj:=fun id o L A o' L' b h=>by simp_all
   known:=fun id h=>absurd (B id) h
   young:=fun id h=>absurd rfl h
   fzk:=fun id h=>by cases h
   glob:=l
   sOut:=fun b c h=> .inl h
   ep1:=ZnJ _
   quiet:= .refl _
   lay:=fun k L h=>by grind
   fam:=Fam.none fun id o h=>by simp_all}
 ·rintro e w' ⟨vs,ρ',S',rfl,F,i⟩;refine⟨⟨Zhc vs,S',rfl, ?_⟩,i.quiet,i.grow,fun b s=>i.frame b s (fun h=>h)⟩;have q:vs.size=1:=by omega
  have:=i.slots 0;have u:vs.getD 0 undef=vs[0]:=by simp[q]
  rw[u]at this;unfold Zhc;rw[dif_pos q];exact this.of_p
theorem ZkX {E:Env} {f:Nat} {xs:List P} {a:Array Value} {w:World} {y:Bool} (h:Fun E f (xs.map .p) ⟨[.p (.bool y)],[]⟩) (j:(E.prog.funcs[f]?.map fun fn=>fn.body.isNone)=some false) (i:a.size=xs.length)
  (d:∀(k:Nat) v x,a[k]? =some v->xs[k]? =some x->RelP w (fun b _=>b < w.heap.size) v x) (c:∀g cs,(g,cs)∈E.globs->ZeC w (fun b _=>b < w.heap.size) g cs):
  Calls E.prog f a w fun e w'=>e= .returned (.bool y)/\ZjF w w':=
 Calls.mono (Zkk h j i d c) fun e w' ⟨⟨v,S,he,hr⟩,hk⟩=>⟨by cases hr;omega,hk⟩
open Go.ChangeShapes Go.WideShapes in
theorem ZlY {H:Type} {P:Program} {enc:TypeId×Value->H} {f:Func} {s:ChangeSpec} {apart fresh handsOn again:Bool} {W W':World} {args:Array Value} {v:Value} {ds gs:List (DataW H)} {before pa pv:List MemPlace}
  (hW:DataW.Whole enc P f.params.toList s.vars apart W args.toList ds gs before)
  (hres:∀(b:Nat) (sp:Nat->Bool) (hd:Bool),DataW.TrodAll enc P W' b sp hd f.resultTypes.toList (v.resultList f.resultTypes.size) (s.fn H (ds++gs)).results [])
  (hargs:∀sp:Nat->Bool,(∀p∈before,sp p.block=true)->DataW.TrodAll enc P W' 0 sp true f.params.toList args.toList (s.fn H (ds++gs)).args pa)
  (hvars:∀sp:Nat->Bool,(∀p∈before,sp p.block=true)->DataW.TrodVars enc P W' sp s.vars (s.fn H (ds++gs)).vars pv)
  (hps:before=pa++pv) (hk:ZjF W W')
  (hok:∀(j:Nat) (t:TypeId) (r:Value),f.resultTypes[j]? =some t->(v.resultList f.resultTypes.size)[j]? =some r->Value.okWide P W' .any 0 t r):
  s.post enc P f apart fresh handsOn again W args v W':=by
 have hold:∀p∈before,(fun b=>decide (b < W.heap.size)) p.block=true:=fun p hp=>by simpa using hW.lt p hp
 have hlt:=hW.lt
 refine⟨ds,gs,before,[],pa,pv,hW,hres _ _ _,hargs _ hold,hvars _ hold,World.keptBut_mono (fun p hp=>⟨hp, ?_⟩) (hk.keptBut (· ∈before)),fun _=> ?_⟩
 ·rw[hps,List.mem_append]at hp
  exact Or.inr hp
 ·obtain⟨_,_,_,_,_,hz,hn⟩:=hW
  refine⟨hok,_,_,([]++pa)++pv,⟨[]++pa,pv,trodAll_append (hargs _ (fun _ _=>rfl)) (hres _ _ _),hvars _ (fun _ _=>rfl),rfl, ?_, ?_⟩, ?_⟩
  ·intro b off hp
   have hp':MemPlace.cell b off∈before:=by rw[hps];simpa using hp
   have hb:b < W.heap.size:=hlt _ hp'
   rw[ZaQ (hk.2.2 b hb)]
   exact hz b off hp'
  ·intro ha
   have:=hn ha
   rw[hps]at this
   simpa using this
  ·intro p hp _
   rw[hps]
   simpa using hp
end Eng
namespace Eng
open Go
def chk {a:Type} (b:Bool) (k:Option a):Option a:=match b with
 |true=>k
 |false=>none
theorem Zi {a:Type} {b:Bool} {k:Option a} {r:a} (h:chk b k=some r):b=true/\k=some r:=by cases b<;>simp_all [chk]
@[simp] theorem chk_true {a:Type} (k:Option a):chk true k=k:=rfl
theorem bind_some {b β:Type} {x:Option b} {f:b->Option β} {r:β} (h:x.bind f=some r):∃a,x=some a/\f a=some r:=by cases x<;>simp_all
def inK (k:IntKind) (n:Int):Bool:=match k with
 | .i64=>Zls n
 |k=>decide (k.min<=n/\n<=k.max)
def idx {a:Type} (xs:List a) (n:Int):Option a:=if 0<=n then xs[n.toNat]? else none
theorem Zin {a:Type} {xs:List a} {n:Int} {x:a} (h:idx xs n=some x):0<=n/\n < xs.length/\xs[n.toNat]? =some x:=by grind[idx]
theorem Zh1 {a:Type} (xs:List a) (f:a->P):(xs.map f).take xs.length=xs.map f:=by grind[Zor]
theorem dt_map {a:Type} (xs:List a) (f:a->P):((xs.map f).drop 0).take xs.length=xs.map f:=by grind[Zh1]
section
variable {C:Ctx} {r:Fm} {G:Zg6} {ops:Array Oper}
end
inductive Out (β ρ:Type) where
 |brk (b:β)
 |ret (r:ρ)
def Zma (f:Func):Code:=match f.body with |some c=>c |none=> .skip
def sub:List Nat->Code->Code
 | [],c=>c
 |0::p,.seq a _=>sub p a
 |1::p,.seq _ b=>sub p b
 |2::p,.cond _ a _=>sub p a
 |3::p,.cond _ _ b=>sub p b
 |4::p,.block _ b=>sub p b
 |5::p,.loop b=>sub p b
 |_::_,_=> .skip
def big:Nat:=36893488147419103232
theorem big_eq:big=36893488147419103232:=rfl
abbrev Str:=List UInt8
def encL {a:Type} (sz:Nat) (f:a->P) (xs:List a):P:= .sl sz (xs.map f)
end Eng
namespace Eng
open Go
section
variable {C:Ctx} {X:Nat->Prop} {ρ:Id->Option Lay} {S:Fz} {st:St} {tm:Array Value} {w:World}
theorem obj_fz (a:St) (id:Id) (o:Obj):(a.obj id o).fz=a.fz:=rfl
theorem Zka (b:St) (id a:Id) (o:Obj):(b.obj id o).objs a=if a=id then some o else b.objs a:=rfl
theorem Rep.settle (h:Rep C X ρ S st tm w) {id:Id} {sz c k lo:Nat} {es:List P} (hlk:st.objs id=some (.own sz c k es lo none)) (hfz:st.fz id=false):
  ∃S',Rep C X ρ S' (st.obj id (.arr sz es false)) tm w:=by
 obtain⟨κ,F⟩:=h.fam;let S':Fz:=fun b c'=>S b c'\/∃i l,Kid st.objs st.fz id i sz c k l/\(κ id i).blk=some b
 have hSS:∀b c,S b c->S' b c:=fun b c hb=> .inl hb
 have kp:ZbM S w w:= .refl S w;obtain⟨L,hL,hsz,hel,hlc,hlm,hcz,hbn,hcells,hrel⟩:=h.objs id _ hlk (by simp);subst hsz;have get:∀{id1 o},(st.obj id (.arr L.sz es false)).objs id1=some o->(id1=id/\o= .arr L.sz es false)\/(id1≠id/\st.objs id1=some o):=by
  grind[Zka]
 have old:∀{id1 o},(st.obj id (.arr L.sz es false)).objs id1=some o->o≠ .gone->∃o',st.objs id1=some o'/\o'≠ .gone:=fun ho hg=>by
  grind
 have notKid:∀{id1 o L1 b},st.objs id1=some o->o≠ .gone->ρ id1=some L1->L1.blk=some b->¬∃i l,Kid st.objs st.fz id i L.sz c k l/\(κ id i).blk=some b:=by rintro id1 o L1 b ho hg hL1 hb ⟨i,l,hk,hb'⟩;exact(F.own _ _ _ _ _ _ b hk hb').2.2.2 id1 o L1 ho hg hL1 hb
 have ko:∀{id1 i sz1 c1 k1 l},Kid (st.obj id (.arr L.sz es false)).objs (st.obj id (.arr L.sz es false)).fz id1 i sz1 c1 k1 l->Kid st.objs st.fz id1 i sz1 c1 k1 l/\id1≠id:=by
  rintro id1 i sz1 c1 k1 l ⟨es1,lo1,out1,cs1,ho,hf,r⟩;rcases get ho with ⟨rfl,he⟩ |⟨hne,ho⟩
  ·grind
  ·exact⟨⟨es1,lo1,out1,cs1,ho,hf,r⟩,hne⟩
 refine⟨S',h.nt,h.grow,h.frame,fun b c hb=> .inl (h.s0 b c hb),fun b c hb=> ?_,fun k=>(h.slots k).mono kp hSS (fun _ _ h=>h),fun id1 o ho hg=> ?_,fun id1 o L1 b ho hg hL1 hb=> ?_,fun id1 o L1 id2 o2 L2 b ho hg hL1 hb ho2 hg2 hL2 hb2=> ?_,fun id1 hn=> ?_,h.young,h.fzk,fun g cs hm=>(h.glob g cs hm).mono kp hSS,fun b c hb=> ?_,h.ep1,h.quiet,h.lay,κ,fun id1 i sz1 c1 k1 l L1 hk hL1=> ?_,fun id1 i sz1 c1 k1 l b hk hb=> ?_,fun id1 i sz1 c1 k1 l id2 i2 sz2 c2 k2 l2 b hk hk2=>F.inj _ _ _ _ _ _ _ _ _ _ _ _ b (ko hk).1 (ko hk2).1⟩
 ·rcases hb with hb |⟨i,l,hk,hb⟩
  ·exact h.sIn b c hb
  ·exact(F.own _ _ _ _ _ _ b hk hb).1
 ·rcases get ho with ⟨rfl,rfl⟩ |⟨_,ho⟩
  ·
   refine⟨L,hL,rfl,hel,hlc,hlm,hbn,hcells,fun i=> .agg ((Array.range L.sz).map fun j=>match L.blk with |some b=>(w.cell? ⟨b,L.base+i*L.sz+j,none⟩).getD default |none=>default),fun i _=>by simp[Value.cells],fun b hb i j v hi hv=> ?_,fun i e he=> ?_⟩
   ·have hmul:(i+1)*L.sz<=L.cap*L.sz:=ZnK _ (by omega);rw[ZnI,Zoj]at hmul;simp only[Value.cells,hb,Array.getElem?_map,ZnM]at hv;obtain⟨j',hj',rfl⟩:=hv;have hjj:j < L.sz:=by grind
    have:j'=j:=by grind
    subst this;obtain⟨⟨u,hu⟩,_⟩:=hcells b hb (i*L.sz+j') (by omega);grind
   ·have hi:i < L.len:=by grind
    obtain⟨cs,l,rfl,q2,q3,q4⟩:=hrel i e he;cases hbk:L.blk with
    |none=>simp_all
    |some b=>
     have hmul:(i+1)*L.sz<=L.cap*L.sz:=ZnK _ (by omega);rw[ZnI,Zoj]at hmul;have cl:∀j v,((Array.range L.sz).map fun j=>(w.cell? ⟨b,L.base+i*L.sz+j,none⟩).getD default)[j]? =some v->w.cell? ⟨b,L.base+i*L.sz+j,none⟩=some v:=by
      intro j v hv;simp only[Array.getElem?_map,ZnM]at hv;obtain⟨j',hj',rfl⟩:=hv;have hjj:j < L.sz:=by grind
      have:j'=j:=by grind
      subst this;obtain⟨⟨u,hu⟩,_⟩:=hcells b hbk (i*L.sz+j') (by omega);grind
     refine .agg _ cs (by grind) (fun j v hv=> ?_) (fun j v x hv hx=> ?_)
     ·grind
     ·have r:=q4 b hbk j x v hx (cl j v hv)
      by_cases hj:j≠c\/lo<=i
      ·exact(r.2 hj).mono kp hSS
      ·have hjc:j=c:=by omega
       subst hjc;have hk:Kid st.objs st.fz id1 i L.sz j k l:=⟨es,lo,none,cs,hlk,hfz,he,q3,by omega,by simp⟩;rw[q3]at hx;obtain rfl:=ZnN hx;obtain⟨b',v',hb',hv',hr,hro⟩:=F.kid _ _ _ _ _ _ L hk hL;rw[hbk]at hb';obtain rfl:=ZnN hb';rw[cl j v hv]at hv';obtain rfl:=ZnN hv';refine Zaf (S:=S) (ρ:=fun _=>some (κ id1 i)) (lk:=fun _=>some (.arr k l false)) (fun _ o ho _=>⟨_,rfl,by cases ho;exact hro⟩) hSS 0 _ v _ hr (by simp[Zbm]) (fun id2 _ L2 b2 hL2 hb2 c2 _=> ?_);cases hL2;exact .inr ⟨i,l,hk,hb2⟩
  ·obtain⟨L1,hL1,hr⟩:=h.objs id1 o ho hg;exact⟨L1,hL1,hr.mono kp hSS (fun _ _ h=>h) fun _ _=>rfl⟩
 ·obtain⟨o',ho',hg'⟩:=old ho hg;obtain⟨q1,q2,q3,q4⟩:=h.own id1 o' L1 b ho' hg' hL1 hb;have hno:=notKid ho' hg' hL1 hb;rcases get ho with ⟨rfl,rfl⟩ |⟨_,ho1⟩
  ·exact⟨q1,q2,fun hf=>(by rw[obj_fz,hfz]at hf;cases hf),fun c1 hs=>hs.elim (fun hs=>absurd hs (h.notS hlk (by simp) hL1 hb hfz rfl c1)) fun hs=>absurd hs hno⟩
  ·rw[ho1]at ho';obtain rfl:=ZnN ho';exact⟨q1,q2,fun hf c1 hc=> .inl (q3 hf c1 hc),fun c1 hs=>hs.elim (q4 c1) fun hs=>absurd hs hno⟩
 ·obtain⟨o',ho',hg'⟩:=old ho hg;obtain⟨o2',ho2',hg2'⟩:=old ho2 hg2;exact h.inj _ _ _ _ _ _ b ho' hg' hL1 hb ho2' hg2' hL2 hb2
 ·cases ho:(st.obj id (.arr L.sz es false)).objs id1 with
  |none=>exact absurd ho hn
  |some o=>
   rcases get ho with ⟨rfl,_⟩ |⟨_,ho⟩
   ·exact h.known _ (by simp[hlk])
   ·exact h.known _ (by simp[ho])
 ·rcases hb with hb |⟨i,l,hk,hb⟩
  ·exact h.sOut b c hb
  ·exact .inr (F.own _ _ _ _ _ _ b hk hb).2.1
 ·obtain⟨b,v,q1,q2,q3,q4⟩:=F.kid _ _ _ _ _ _ L1 (ko hk).1 hL1;exact⟨b,v,q1,q2,q3.mono kp hSS (fun _ _ h=>h),q4.mono kp hSS (fun _ _ h=>h) fun _ _=>rfl⟩
 ·obtain⟨q1,q2,q3,q4⟩:=F.own _ _ _ _ _ _ b (ko hk).1 hb;refine⟨q1,q2,fun c1 hs=>hs.elim (q3 c1) fun⟨i',l',hk',hb'⟩=> ?_,fun id2 o L2 ho hg hL2 hb2=> ?_⟩
  ·exact(ko hk).2 (F.inj _ _ _ _ _ _ _ _ _ _ _ _ b (ko hk).1 hk' hb hb').1
  ·obtain⟨o',ho',hg'⟩:=old ho hg;exact q4 id2 o' L2 ho' hg' hL2 hb2
theorem Rep.unsettle (h:Rep C X ρ S st tm w) {id:Id} {sz c k:Nat} {es:List P} (E:st.objs id=some (.arr sz es false)) (ae:st.fz id=false) (hc:∀e∈es,∃cs l,e= .agg cs/\cs[c]? =some (.sl k l)) (O:c < sz):
  Rep C X ρ S (st.obj id (.own sz c k es 0 none)) tm w:=by
 obtain⟨κ,F⟩:=h.fam;have p:∀{a o},(st.obj id (.own sz c k es 0 none)).objs a=some o->(a=id/\o= .own sz c k es 0 none)\/(a≠id/\st.objs a=some o):=by
  grind[Zka]
 have z:∀{a o},(st.obj id (.own sz c k es 0 none)).objs a=some o->o≠ .gone->∃o',st.objs a=some o'/\o'≠ .gone:=fun d A=>by
  grind
 have M:∀{a i g t k1 l},Kid (st.obj id (.own sz c k es 0 none)).objs (st.obj id (.own sz c k es 0 none)).fz a i g t k1 l->Kid st.objs st.fz a i g t k1 l:=by
  rintro a i g t k1 l ⟨af,Z,J,Y,d,hf,q1,B,q0,r⟩;rcases p d with ⟨rfl,he⟩ |⟨am,d⟩
  ·simp_all
  ·exact⟨af,Z,J,Y,d,hf,q1,B,q0,r⟩
 refine⟨h.nt,h.grow,h.frame,h.s0,h.sIn,h.slots,fun a o d A=> ?_,fun a o L1 b d A f s=> ?_,fun a o L1 ag o2 L2 b d A f s ab aa N U=> ?_,fun a hn=> ?_,h.young,h.fzk,h.glob,h.sOut,h.ep1,h.quiet,h.lay,κ,fun a i g t k1 l L1 G f=>F.kid _ _ _ _ _ _ L1 (M G) f,fun a i g t k1 l b G s=> ?_,fun a i g t k1 l ag i2 ak c2 k2 l2 b G ah=>F.inj _ _ _ _ _ _ _ _ _ _ _ _ b (M G) (M ah)⟩
 ·rcases p d with ⟨rfl,rfl⟩ |⟨_,d⟩
  ·obtain⟨L,hL,ac,W,V,Q,ai,n,evs,T,u,H⟩:=h.objs a _ E (by simp);subst ac;refine⟨L,hL,rfl,W,V,Q,O,ai,n,fun i e he=> ?_⟩;obtain⟨cs,l,rfl,q⟩:=hc e (Zoe he);have hi:i < L.len:=by grind
   have hr:=H i _ he;have D:=hr.size;rw[T i hi]at D;simp only[P.cells]at D;refine⟨cs,l,rfl,D.symm,q,fun b s j x v hx hv=> ?_⟩;have al:j < (evs i).cells.size:=by grind
   have hu:(evs i).cells[j]? =some (evs i).cells[j]:=by grind
   have:=u b s i j _ hi hu;rw[hv]at this;obtain rfl:=ZnN this;have r:=hr.cell hu hx;simp_all
  ·exact h.objs a o d A
 ·obtain⟨o',m,y⟩:=z d A;obtain⟨q1,B,q3,q4⟩:=h.own a o' L1 b m y f s;rcases p d with ⟨rfl,rfl⟩ |⟨_,R⟩
  ·exact⟨q1,B,fun hf=>(by grind[obj_fz]),fun t D=>absurd D (h.notS E (by simp) f s ae rfl t)⟩
  ·rw[R]at m;obtain rfl:=ZnN m;exact⟨q1,B,q3,q4⟩
 ·obtain⟨o',m,y⟩:=z d A;obtain⟨aj,I,K⟩:=z ab aa;exact h.inj _ _ _ _ _ _ b m y f s I K N U
 ·cases d:(st.obj id (.own sz c k es 0 none)).objs a with
  |none=>simp_all
  |some o=>
   rcases p d with ⟨rfl,_⟩ |⟨_,d⟩
   ·exact h.known _ (by grind)
   ·exact h.known _ (by grind)
 ·obtain⟨q1,B,q3,q4⟩:=F.own _ _ _ _ _ _ b (M G) s;grind
def St.soften (a:St) (id:Id) (sz:Nat) (es:List P):St:={a with objs:=upd a.objs id (some (.arr sz es true)),fz:=upd a.fz id false}
theorem Rep.soften (h:Rep C X ρ S st tm w) {id:Id} {sz:Nat} {es:List P} {fix:Bool} (q:st.objs id=some (.arr sz es fix)):Rep C X ρ S (st.soften id sz es) tm w:=by
 obtain⟨κ,F⟩:=h.fam;have f:∀{a o},(st.soften id sz es).objs a=some o->(a=id/\o= .arr sz es true)\/(a≠id/\st.objs a=some o):=by
  intro a o c;simp only[St.soften,upd]at c;grind
 have n:∀{a},a≠id->(st.soften id sz es).fz a=st.fz a:=fun j=>by simp[St.soften,upd,j]
 have x:∀{a o},(st.soften id sz es).objs a=some o->o≠ .gone->∃o',st.objs a=some o'/\o'≠ .gone:=fun c m=>by
  grind
 have y:∀{a i e g k1 l},Kid (st.soften id sz es).objs (st.soften id sz es).fz a i e g k1 l->Kid st.objs st.fz a i e g k1 l:=by
  rintro a i e g k1 l ⟨J,E,u,D,c,p,r⟩;rcases f c with ⟨rfl,Z⟩ |⟨j,c⟩
  ·grind
  ·exact⟨J,E,u,D,c,by simp_all,r⟩
 refine⟨h.nt,h.grow,h.frame,h.s0,h.sIn,h.slots,fun a o c m=> ?_,fun a o L1 b c m d k=> ?_,fun a o L1 K o2 L2 b c m d k G H z B=> ?_,fun a j=> ?_,h.young,fun a p=> ?_,h.glob,h.sOut,h.ep1,h.quiet,h.lay,κ,fun a i e g k1 l L1 s d=>F.kid _ _ _ _ _ _ L1 (y s) d,fun a i e g k1 l b s k=> ?_,fun a i e g k1 l K i2 R c2 k2 W b s M=>F.inj _ _ _ _ _ _ _ _ _ _ _ _ b (y s) (y M)⟩
 ·rcases f c with ⟨rfl,rfl⟩ |⟨_,c⟩
  ·obtain⟨L,V,U⟩:=h.objs a _ q (by simp);exact⟨L,V,U⟩
  ·exact h.objs a o c m
 ·rcases f c with ⟨rfl,rfl⟩ |⟨j,c⟩
  ·obtain⟨q1,N,_,O⟩:=h.own a _ L1 b q (by simp) d k;exact⟨q1,N,fun p=>by simp[St.soften,upd]at p,fun g T=>⟨(O g T).1,.inr rfl⟩⟩
  ·rw[n j];exact h.own a o L1 b c m d k
 ·obtain⟨o',A,I⟩:=x c m;obtain⟨Q,t,v⟩:=x G H;exact h.inj _ _ _ _ _ _ b A I d k t v z B
 ·cases c:(st.soften id sz es).objs a with
  |none=>simp_all
  |some o=>
   rcases f c with ⟨rfl,_⟩ |⟨_,c⟩
   ·exact h.known _ (by grind)
   ·exact h.known _ (by grind)
 ·by_cases j:a=id
  ·simp_all[St.soften,upd]
  ·rw[n j]at p;exact h.fzk a p
 ·obtain⟨q1,N,Y,O⟩:=F.own _ _ _ _ _ _ b (y s) k;grind
end
theorem Zju {C:Ctx} {r:Fm} {G:Zg6} {k:List Item} {b:St} {id:Id} {sz c g lo:Nat} {es:List P} (e:b.objs id=some (.own sz c g es lo none)) (f:b.fz id=false)
  (h:AWP C r G k (b.obj id (.arr sz es false))):AWP C r G k b:=fun ρ S a w j i=>by
 obtain⟨S',d⟩:=j.settle e f;exact h ρ S' a w d i
theorem ZgY {C:Ctx} {r:Fm} {G:Zg6} {k:List Item} {b:St} {id:Id} {sz c i:Nat} {es:List P} (g:b.objs id=some (.arr sz es false)) (d:b.fz id=false) (j:∀e∈es,∃cs l,e= .agg cs/\cs[c]? =some (.sl i l)) (f:c < sz)
  (h:AWP C r G k (b.obj id (.own sz c i es 0 none))):AWP C r G k b:=fun ρ S a w m n=>h ρ S a w (m.unsettle g d j f) n
theorem awp_soften {C:Ctx} {r:Fm} {G:Zg6} {k:List Item} {c:St} {id:Id} {sz:Nat} {es:List P} {fix:Bool} (b:c.objs id=some (.arr sz es fix))
  (h:AWP C r G k (c.soften id sz es)):AWP C r G k c:=fun ρ S a w d e=>h ρ S a w (d.soften b) e
end Eng
namespace Eng
open Go
inductive Ty where
 |bool |int (k:IntKind) |str |sl (t:Ty) |st (n:Nat) |map (k v:Ty) |fnc
 deriving DecidableEq,Inhabited
def Ty.td:Ty->TD
 | .bool=> .bool
 | .int k=> .int k
 | .str=> .str
 | .st _=> .arr 2 0
 |_=> .other
@[reducible] def El (car:Nat->Type):Ty->Type
 | .bool=>Bool
 | .int _=>Int
 | .str=>List UInt8
 | .sl t=>List (El car t)
 | .st n=>car n
 | .map k v=>List (El car k×El car v)
 | .fnc=>Option Nat
structure Lf (car:Nat->Type) where
 t:Ty
 x:El car t
structure Zd where
 car:Nat->Type
 size:Nat->Nat
 cells:(n:Nat)->car n->List (Lf car)
 of:(n:Nat)->List (Lf car)->Option (car n)
 enc:(n:Nat)->car n->P
def Zd.tsize (U:Zd):Ty->Nat
 | .st n=>U.size n
 |_=>1
def Zkw:Option Nat->P
 |some f=> .fn f [] []
 |none=> .nilfn
def Zd.encE (U:Zd):(t:Ty)->El U.car t->P
 | .bool,b=> .bool b
 | .int k,n=> .int k n
 | .str,s=> .str s
 | .sl t,xs=> .sl (U.tsize t) (xs.map (U.encE t))
 | .st n,x=>U.enc n x
 | .map k v,kv=> .map k.td (kv.map fun e=>(U.encE k e.1,U.encE v e.2))
 | .fnc,x=>Zkw x
def Zd.encL (U:Zd) (l:Lf U.car):P:=U.encE l.t l.x
def Zd.cellsE (U:Zd):(t:Ty)->El U.car t->List (Lf U.car)
 | .st n,x=>U.cells n x
 |t,x=>[⟨t,x⟩]
def Zd.ofE (U:Zd):(t:Ty)->List (Lf U.car)->Option (El U.car t)
 | .st n,cs=>U.of n cs
 |t,[c]=>if h:c.t=t then some (h▸c.x)else none
 |_,_=>none
structure UOk (U:Zd):Prop where
 of_cells:∀n cs x,U.of n cs=some x->U.cells n x=cs
 enc_cells:∀n x,U.enc n x= .agg ((U.cells n x).map U.encL)
 len:∀n x,(U.cells n x).length=U.size n
inductive TV (U:Zd) where
 |v (t:Ty) (x:El U.car t)
 |pp (cs:List (Lf U.car))
 |nilp |nilfn
 |dead |undef
 |nils (t:Ty)
 |clip (t:Ty) (xs:List (El U.car t))
 |agg (cs:List (TV U))
 |tup (vs:List (TV U))
 |full (id:Id) (n:Nat)
 |sl (id:Id) (off len:Nat)
 |ptr (id:Id) (i j:Nat)
 |map (id:Id)
 |it (id:Id)
 |fn (f:Nat) (first caps:List (TV U))
 |rp (x:Option (Lf U.car)) (id:Id)
instance {U:Zd}:Inhabited (TV U):=⟨.dead⟩
inductive TO (U:Zd) where
 |box (cs:List (TV U))
 |arr (t:Ty) (xs:List (El U.car t)) (fix:Bool)
 |map (k v:Ty) (kv:List (El U.car k×El U.car v))
 |sit (s:List UInt8) (pos:Nat)
 |gone
 |own (t:Ty) (c:Nat) (u:Ty) (xs:List (El U.car t)) (lo:Nat) (out:Option Nat)
structure TS (U:Zd) where
 slots:Nat->TV U
 objs:Id->Option (TO U)
 fz:Id->Bool
 ep:Nat
def fnD (f:Nat) (a b:List D):D:=match Zj D.pure? a,Zj D.pure? b with
 |some x,some y=> .p (.fn f x y)
 |_,_=> .fn f a b
mutual
def TV.enc {U:Zd}:TV U->D
 | .v t x=> .p (U.encE t x)
 | .pp cs=> .p (.ptr (cs.map U.encL))
 | .nilp=> .p .nilp
 | .nilfn=> .p .nilfn
 | .dead=> .dead
 | .undef=> .undef
 | .nils t=> .nils (U.tsize t)
 | .clip t xs=> .clip (U.tsize t) (xs.map (U.encE t))
 | .agg cs=> .mkAgg (TV.encs cs)
 | .tup vs=> .tup (TV.encs vs)
 | .full id n=> .sl id 0 n
 | .sl id c len=> .sl id c len
 | .ptr id i j=> .ptr id i j
 | .map id=> .map id
 | .it id=> .it id
 | .fn f a b=>fnD f (TV.encs a) (TV.encs b)
 | .rp x id=> .rp (x.map U.encL) id
def TV.encs {U:Zd}:List (TV U)->List D
 | []=>[]
 |d::r=>d.enc::TV.encs r
end
theorem Zai {U:Zd}:∀l:List (TV U),TV.encs l=l.map TV.enc
 | []=>rfl
 |d::r=>by rw[TV.encs,Zai r];rfl
def TO.enc {U:Zd}:TO U->Obj
 | .box cs=> .box (TV.encs cs)
 | .arr t xs fix=> .arr (U.tsize t) (xs.map (U.encE t)) fix
 | .map k v d=> .map k.td (d.map fun e=>(U.encE k e.1,U.encE v e.2))
 | .sit s a=> .sit s a
 | .gone=> .gone
 | .own t c u xs lo b=> .own (U.tsize t) c (U.tsize u) (xs.map (U.encE t)) lo b
def TO.len? {U:Zd}:TO U->Option Nat
 | .arr _ xs _=>some xs.length
 | .own _ _ _ xs _ _=>some xs.length
 |_=>none
def ZiV {U:Zd}:Option (TO U)->Option Obj
 |some o=>some o.enc
 |none=>none
def TS.enc {U:Zd} (T:TS U):St:={slots:=fun k=>(T.slots k).enc,objs:=fun id=>ZiV (T.objs id),fz:=T.fz,ep:=T.ep}
mutual
def TV.fulls {U:Zd}:TV U->List (Id×Nat)
 | .full id n=>[(id,n)]
 | .agg cs=>TV.fullsL cs
 | .tup cs=>TV.fullsL cs
 | .fn _ a b=>TV.fullsL a++TV.fullsL b
 |_=>[]
def TV.fullsL {U:Zd}:List (TV U)->List (Id×Nat)
 | []=>[]
 |d::r=>d.fulls++TV.fullsL r
end
theorem Zq {U:Zd} {q:Id×Nat}:∀{l:List (TV U)},q∈TV.fullsL l<->∃d∈l,q∈d.fulls
 | []=>by simp[TV.fullsL]
 |d::r=>by simp[TV.fullsL,Zq (l:=r)]
def Zgz {U:Zd} (lk:Id->Option (TO U)) (q:Id×Nat):Prop:=∃o,lk q.1=some o/\∀n,o.len?=some n->n=q.2
def TV.inv {U:Zd} (lk:Id->Option (TO U)) (d:TV U):Prop:=∀q∈d.fulls,Zgz lk q
def TO.inv {U:Zd} (lk:Id->Option (TO U)):TO U->Prop
 | .box cs=>∀d∈cs,d.inv lk
 |_=>True
structure TS.Inv {U:Zd} (T:TS U):Prop where
 slots:∀k,(T.slots k).inv T.objs
 objs:∀id o,T.objs id=some o->o.inv T.objs
theorem ZbV {U:Zd} (a:UOk U) (t:Ty) (x:El U.car t):(U.cellsE t x).length=U.tsize t:=by cases t<;>first |exact a.len _ _ |rfl
theorem ZaH {U:Zd} (a:UOk U) (t:Ty) (x:El U.car t):(U.encE t x).cells=(U.cellsE t x).map U.encL:=by
 cases t with
 |st n=>simp only[Zd.encE,Zd.cellsE,a.enc_cells n x,P.cells]
 |fnc=>cases x<;>rfl
 |_=>rfl
theorem ZaO {U:Zd} (b:UOk U) {t:Ty} {cs:List (Lf U.car)} {x:El U.car t} (h:U.ofE t cs=some x):U.cellsE t x=cs:=by
 have a:∀(t:Ty) (c:Lf U.car) (x:El U.car t),(if h:c.t=t then some (h▸c.x)else none)=some x->[(⟨t,x⟩:Lf U.car)]=[c]:=by intro t c x h;split at h;rotate_left;simp at h;rename_i d;obtain⟨e,y⟩:=c;grind
 cases t with
 |st n=>exact b.of_cells n cs x h
 |_=>
  match cs,h with
  | [c],h=>exact a _ c x h
end Eng
namespace Eng
open Go
structure TT (U:Zd) where
 ti:TI
 n:Option Nat
 ty:Ty
 zero:List (TV U)
 zl:Option (Lf U.car)
structure OwnT where
 t:Nat
 n:Nat
 c:Nat
 u:Ty
structure ZG (U:Zd) where
 prog:Program
 tt:List (Option (TT U))
 globs:List (Nat×List (Lf U.car))
 nt:Nat
 owns:List OwnT:=[]
 keys:List Nat:=[]
 kq:(n:Nat)->U.car n->U.car n->Bool:=fun _ _ _=>false
def tiOf {U:Zd}:Option (TT U)->Option TI
 |some e=>some e.ti
 |none=>none
def ZG.E {U:Zd} (X:ZG U):Env:={prog:=X.prog,tys:=X.tt.map tiOf,globs:=X.globs.map fun g=>(g.1,g.2.map U.encL),nt:=X.nt,owns:=X.owns.map fun q=>(q.t,q.c,U.tsize q.u)}
def ZG.at {U:Zd} (X:ZG U) (n:Nat):ZG U:={X with nt:=n}
def ZG.get {U:Zd} (X:ZG U) (t:Nat):Option (TT U):=match X.tt[t]? with |some (some e)=>some e |_=>none
def ZG.elem {U:Zd} (X:ZG U) (t:Nat):Option (TT U):=match X.get t with
 |some e=>match e.ti.d with
  | .sl u=>X.get u
  |_=>none
 |none=>none
structure TOk {U:Zd} (X:ZG U):Prop where
 zero:∀t e,X.get t=some e->TV.encs e.zero=e.ti.zero.map Z.toD
 zl:∀t e l,X.get t=some e->e.zl=some l->U.encL l=e.ti.zeroP
 agg:∀t e,X.get t=some e->e.ti.isAgg=e.n.isSome
 size:∀t e n,X.get t=some e->e.n=some n->e.ti.size=U.size n
 key:∀t e k v,X.get t=some e->e.ty= .map k v->X.E.keyTD t=k.td
 inv:∀t e,X.get t=some e->∀d∈e.zero,d.fulls=[]
 own:∀q∈X.owns,q.c < U.size q.n/\∀x:U.car q.n,∃l,(U.cells q.n x)[q.c]? =some ⟨.sl q.u,l⟩
 kq:∀n∈X.keys,∀x y:U.car n,∃a b c d,U.enc n x= .agg [.int .i64 a,.int .i64 b]/\U.enc n y= .agg [.int .i64 c,.int .i64 d]/\X.kq n x y=(a == c&&b == d)
section
variable {U:Zd} {X:ZG U}
theorem Zs {t:Nat} {e:TT U} (h:X.get t=some e):X.E.ty t=some e.ti:=by unfold ZG.get at h;unfold Env.ty ZG.E;simp only[ZnB];split at h;rotate_left;simp at h;rename_i e' a;cases h;rw[a];rfl
theorem Zt {t:Nat} {e:TT U} (h:X.get t=some e):X.E.td t=some e.ti.d:=by grind[Env.td,Zs]
theorem Zax {t:Nat} {e:TT U} (h:X.elem t=some e):X.E.elem t=some e.ti:=by unfold ZG.elem at h;unfold Env.elem;split at h;rotate_left;simp at h;rename_i e' g;rw[Zs g];split at h;rotate_left;simp at h;rename_i u f;rw[<-Zs h];generalize e'.ti=ti at f;obtain⟨d,a,b,c⟩:=ti;simp_all
def evT (X:ZG U) (sl:Nat->TV U) (t:Nat):Operand->Option (TV U)
 | .tmp s=>some (sl s)
 | .const (.bool b)=>some (.v .bool b)
 | .const (.int k n)=>some (.v (.int k) n)
 | .const (.string s)=>some (.v .str s.data.toList)
 | .const (.slice none 0 0)=>match X.elem t with
  |some e=>if U.tsize e.ty=e.ti.size then some (.nils e.ty)else none
  |none=>none
 | .const (.pointer none)=>some .nilp
 | .const .nilFunc=>some .nilfn
 | .const (.map none)=>match X.get t with
  |some e=>match e.ty with
   | .map k v=>some (.v (.map k v) [])
   |_=>none
  |none=>none
 | .func f=>some (.fn f [] [])
 | .global g=>match X.globs.find? (·.1 == g)with
  |some x=>some (.pp x.2)
  |none=>none
 |_=>none
theorem Zis {a:Type} (f:a->P) (g:Nat):∀l:List (Nat×List a),(l.map fun x=>(x.1,x.2.map f)).find? (·.1 == g)=(l.find? (·.1 == g)).map fun x=>(x.1,x.2.map f)
 | []=>rfl
 |x::r=>by
  simp only[Zn6,List.find?_cons];split
  ·rfl
  ·exact Zis f g r
theorem ZmT (c:TOk X) {sl:Nat->TV U} {t:Nat} {x:Operand} {d:TV U} (h:evT X sl t x=some d):ev X.E (fun k=>(sl k).enc) t x=d.enc:=by
 unfold evT at h;split at h
 ·cases h;rfl
 ·cases h;rfl
 ·cases h;rfl
 ·cases h;rfl
 ·grind[ev,D.ofV,Env.elemSize,TV.enc,Zax]
 ·cases h;rfl
 ·cases h;rfl
 ·split at h;rotate_left;simp at h;rename_i e b;split at h;rotate_left;simp at h;rename_i k v a;cases h;simp only[ev,D.ofV,c.key t e k v b a,TV.enc,Zd.encE,Zot]
 ·cases h;rfl
 ·split at h;rotate_left;simp at h;rename_i q f;cases h;simp only[ev,Env.glob,ZG.E,Zis,f,Zow,TV.enc]
 simp_all
def lv (l:Lf U.car):TV U:= .v l.t l.x
def TV.leaf?:TV U->Option (Lf U.car)
 | .v t x=>some ⟨t,x⟩
 |_=>none
theorem Zkj {d:TV U} {l:Lf U.car} (h:d.leaf?=some l):d=lv l:=by cases d<;>simp[TV.leaf?]at h;subst h;rfl
def ZdX (n:Option Nat) (cs:List (TV U)):TV U:=
 match n,Zj TV.leaf? cs with
 |some n,some ls=>match U.of n ls with
  |some x=> .v (.st n) x
  |none=> .agg cs
 |_,_=> .agg cs
def TV.cells:TV U->List (TV U)
 | .agg cs=>cs
 | .v (.st n) x=>(U.cells n x).map lv
 |d=>[d]
theorem ZbD (ls:List (Lf U.car)):TV.encs (ls.map lv)=(ls.map U.encL).map .p:=by rw[Zai,ZoB,ZoB];rfl
theorem ZaF (a:List P):Zj D.pure? (a.map .p)=some a:=by
 induction a with
 |nil=>rfl
 |cons x r b=>grind[Zj,D.pure?]
theorem Zcu (a:List P):D.mkAgg (a.map .p)= .p (.agg a):=by grind[D.mkAgg,ZaF]
theorem ZcL:∀{cs:List (TV U)} {ls:List (Lf U.car)},Zj TV.leaf? cs=some ls->cs=ls.map lv
 | [],ls,h=>by grind[Zj]
 |d::r,ls,h=>by simp only[Zj]at h;split at h;rotate_left;simp at h;rename_i l c a b;cases h;simp only[Zn6,<-ZcL b,Zkj a]
theorem ZeZ (b:UOk U) (n:Option Nat) (cs:List (TV U)):(ZdX n cs).enc=D.mkAgg (TV.encs cs):=by
 unfold ZdX;split
 ·rename_i n ls a;rw[ZcL a];split
  ·rename_i x c;rw[ZbD,Zcu,TV.enc,Zd.encE,b.enc_cells,b.of_cells _ _ _ c]
  ·rw[TV.enc]
 ·rw[TV.enc]
theorem Zgx (n:Option Nat) (cs:List (TV U)) {q:Id×Nat} (h:q∈(ZdX n cs).fulls):∃d∈cs,q∈d.fulls:=by
 unfold ZdX at h;grind[Zq,TV.fulls]
theorem Zjj (a:List D):(D.mkAgg a).cells=a:=by
 grind[D.mkAgg,D.cells,Zx]
theorem Zkq (f:Nat) (a b:List D):(fnD f a b).cells=[fnD f a b]:=by unfold fnD;split<;>rfl
theorem Zen (c:UOk U) (d:TV U):TV.encs d.cells=d.enc.cells:=by
 cases d with
 |agg cs=>rw[TV.cells,TV.enc,Zjj]
 |v t x=>
  cases t with
  |st n=>simp only[TV.cells,ZbD,TV.enc,Zd.encE,c.enc_cells,D.cells]
  |fnc=>cases x<;>rfl
  |_=>rfl
 |fn f a b=>grind[TV.cells,TV.encs,TV.enc,Zkq]
 |_=>rfl
theorem ZhM {d:TV U} {q:Id×Nat}:(∃c∈d.cells,q∈c.fulls)->q∈d.fulls:=by
 rintro⟨c,a,b⟩;cases d with
 |agg cs=>exact Zq.2 ⟨c,a,b⟩
 |v t x=>
  cases t<;>simp only[TV.cells,ZnF,Zod]at a
  all_goals grind[lv,TV.fulls]
 |_=>simp only[TV.cells,ZnF]at a;subst a;exact b
def TV.okv:TV U->Bool
 | .dead | .undef | .tup _=>false
 |_=>true
theorem ZfG {d:TV U} (h:d.okv=true):d.enc.okv=true:=by
 cases d with
 |agg cs=>rw[TV.enc];unfold D.mkAgg;cases Zj D.pure? (TV.encs cs)<;>rfl
 |fn f a b=>rw[TV.enc];unfold fnD;cases Zj D.pure? (TV.encs a)<;>cases Zj D.pure? (TV.encs b)<;>rfl
 |dead=>grind[TV.okv]
 |undef=>grind[TV.okv]
 |tup _=>grind[TV.okv]
 |_=>rfl
def TS.lf1 (T:TS U):TV U->Option (Lf U.car)
 | .v t x=>some ⟨t,x⟩
 | .nils t=>some ⟨.sl t,[]⟩
 | .clip t xs=>some ⟨.sl t,xs⟩
 | .nilfn=>some ⟨.fnc,none⟩
 | .fn f [] []=>some ⟨.fnc,some f⟩
 | .full id _=>match T.objs id with
  |some (.arr t xs _)=>some ⟨.sl t,xs⟩
  |_=>none
 | .sl id a len=>match T.objs id with
  |some (.arr t xs _)=>some ⟨.sl t,(xs.drop a).take len⟩
  |_=>none
 | .map id=>match T.objs id with
  |some (.map k v kv)=>some ⟨.map k v,kv⟩
  |_=>none
 |_=>none
def TS.lf (T:TS U) (h:Option Nat):TV U->Option (Lf U.car)
 | .agg cs=>match h,Zj T.lf1 cs with
  |some n,some ls=>match U.of n ls with
   |some x=>some ⟨.st n,x⟩
   |none=>none
  |_,_=>none
 |d=>T.lf1 d
theorem ZcZ {T:TS U} {d:TV U} {l:Lf U.car} (hi:d.inv T.objs) (h:T.lf1 d=some l) (m:Nat):d.enc.toP T.enc.objs m=some (U.encL l):=by
 unfold TS.lf1 at h;split at h
 ·cases h;simp[TV.enc,Zd.encL]
 ·cases h;simp[TV.enc,Zd.encL,Zd.encE]
 ·cases h;simp[TV.enc,Zd.encL,Zd.encE]
 ·cases h;simp[TV.enc,Zd.encL,Zd.encE,Zkw]
 ·cases h;simp[TV.enc,TV.encs,fnD,Zj,Zd.encL,Zd.encE,Zkw]
 ·rename_i id n;split at h;rotate_left;simp at h;rename_i t xs fix a;cases h;obtain⟨o,b,c⟩:=hi (id,n) (by simp[TV.fulls]);dsimp only at b c;rw[a,ZnO]at b;subst b;have e:=c _ rfl;simp only[TV.enc,Zbm,TS.enc,a,ZiV,TO.enc,Zd.encL,Zd.encE,<-e,dt_map]
 ·rename_i id f len;split at h;rotate_left;simp at h;rename_i t xs fix a;cases h;simp only[TV.enc,Zbm,TS.enc,a,ZiV,TO.enc,Zd.encL,Zd.encE,ZoG,Zos]
 ·rename_i id;split at h;rotate_left;simp at h;rename_i k v g a;cases h;simp only[TV.enc,Zbu,TS.enc,a,ZiV,TO.enc,Zd.encL,Zd.encE]
 ·simp at h
theorem ZjL (lk:Id->Option Obj) (m:Nat) (b:List D):(D.mkAgg b).toP lk (m+1)=(Zj (D.toP lk m) b).map .agg:=by
 unfold D.mkAgg;split
 ·rename_i a h;rw[ZjK,Zx h];have:Zj (D.toP lk m) (a.map .p)=some a:=by
   clear h
   induction a with
   |nil=>rfl
   |cons x r c=>grind[Zj,ZjK]
  simp_all
 ·rfl
theorem Zcw {T:TS U} (m:Nat):∀{cs:List (TV U)} {ls:List (Lf U.car)},(∀d∈cs,d.inv T.objs)->Zj T.lf1 cs=some ls->Zj (D.toP T.enc.objs m) (TV.encs cs)=some (ls.map U.encL)
 | [],ls,_,h=>by simp[Zj]at h;subst h;rfl
 |d::r,ls,hi,h=>by simp only[Zj]at h;split at h;rotate_left;simp at h;rename_i l c a b;cases h;simp only[TV.encs,Zj,ZcZ (hi d (by simp)) a m,Zcw m (fun x e=>hi x (by grind)) b,Zn6]
theorem ZhU {lk:Id->Option (TO U)} {cs:List (TV U)} (h:(TV.agg cs).inv lk):∀d∈cs,d.inv lk:=fun d a q b=>h q (Zq.2 ⟨d,a,b⟩)
theorem Zd2 (b:UOk U) {T:TS U} {c:Option Nat} {d:TV U} {l:Lf U.car} (hi:d.inv T.objs) (h:T.lf c d=some l) (m:Nat):d.enc.toP T.enc.objs (m+1)=some (U.encL l):=by
 cases d with
 |agg cs=>
  simp only[TS.lf]at h;split at h;rotate_left;simp at h;rename_i n ls a;split at h;rotate_left;simp at h;rename_i x e;cases h;rw[TV.enc,ZjL,Zcw m (ZhU hi) a];simp only[Zow,Zd.encL,Zd.encE,b.enc_cells,b.of_cells _ _ _ e]
 |_=>exact ZcZ hi h _
structure Zk (U:Zd) where
 val:TV U
 new:List (Nat×TO U):=[]
 wr:List (Id×TO U):=[]
 frz:List Id:=[]
def Zk.enc (e:Zk U) (cs:List Bool):Eff:=
 {val:=e.val.enc,new:=e.new.map fun x=>(x.1,x.2.enc),wr:=e.wr.map fun x=>(x.1,x.2.enc),frz:=e.frz,cond:=cs}
def TS.objL (T:TS U):List (Id×TO U)->TS U
 | []=>T
 |(id,o)::r=>TS.objL {T with objs:=upd T.objs id (some o)} r
def TS.freezeL (T:TS U) (l:List Id):TS U:={T with fz:=fun id=>l.contains id||T.fz id}
def TS.setO (T:TS U):Option Nat->TV U->TS U
 |some t,d=>{T with slots:=upd T.slots t d}
 |none,_=>T
def TS.app (T:TS U) (i:Nat) (dst:Option Nat) (e:Zk U):TS U:=
 (((T.objL e.wr).objL (e.new.map fun x=>((T.ep,i,x.1),x.2))).freezeL e.frz).setO dst e.val
def TS.next (T:TS U):TS U:={T with ep:=T.ep+1}
theorem ZeQ {a b:St} (d:a.slots=b.slots) (e:a.objs=b.objs) (f:a.fz=b.fz) (c:a.ep=b.ep):a=b:=by cases a;simp_all
theorem objL_enc:∀(l:List (Id×TO U)) (T:TS U),(T.objL l).enc=T.enc.objL (l.map fun x=>(x.1,x.2.enc))
 | [],T=>rfl
 |(id,o)::r,T=>by simp only[TS.objL,Zn6,St.objL];rw[objL_enc r];congr 1;refine ZeQ rfl ?_ rfl rfl;funext x;simp only[TS.enc,St.obj,upd];split<;>rfl
theorem freezeL_enc (l:List Id) (T:TS U):(T.freezeL l).enc=T.enc.freezeL l:=by
 refine ZeQ ?_ ?_ ?_ ?_
 ·simp[TS.freezeL,TS.enc]
 ·simp[TS.freezeL,TS.enc]
 ·funext id;rw[Eng.freezeL_fz];rfl
 ·simp[TS.freezeL,TS.enc]
theorem Zk9 (T:TS U) (dst:Option Nat) (d:TV U):(T.setO dst d).enc=T.enc.setO dst d.enc:=by
 cases dst with
 |none=>rfl
 |some t=>
  refine ZeQ ?_ rfl rfl rfl;funext x;simp only[TS.setO,TS.enc,St.setO,St.set,upd];grind
theorem Zbk (T:TS U) (i:Nat) (dst:Option Nat) (e:Zk U) (cs:List Bool):(T.app i dst e).enc=T.enc.app i dst (e.enc cs):=by simp only[TS.app,St.app,Zk9,Eng.freezeL_enc,Eng.objL_enc,Zk.enc,ZoB];rfl
def Zc0 (o:Option (TO U)) (o':TO U):Prop:=∀n,o'.len?=some n->∃a,o=some a/\a.len?=some n
def fresh (T:TS U) (i:Nat) (e:Zk U):Bool:=e.new.all fun x=>(T.objs (T.ep,i,x.1)).isNone
theorem Za2:∀(l:List (Id×TO U)) (T:TS U) (id:Id) (o:TO U),(T.objL l).objs id=some o->(id,o)∈l\/((∀o',(id,o')∉l)/\T.objs id=some o)
 | [],T,id,o,h=> .inr ⟨by simp,h⟩
 |(a,u)::r,T,id,o,h=>by
  simp only[TS.objL]at h;rcases Za2 r _ id o h with h |⟨e,c⟩
  ·exact .inl (Zoa _ h)
  ·simp only[upd]at c;split at c
   ·rename_i d;simp only[ZnO]at c;subst d c;exact .inl List.mem_cons_self
   ·rename_i d;exact .inr ⟨fun o' b=>by rcases ZnD.1 b with b |b;(·simp only[ZnP]at b;exact d b.1);exact e o' b,c⟩
theorem ZdT:∀(l:List (Id×TO U)) (T:TS U) (id:Id),(T.objs id).isSome=true->((T.objL l).objs id).isSome=true
 | [],T,id,h=>h
 |(a,u)::r,T,id,h=>by
  refine ZdT r _ id ?_;grind[upd]
def lkA (T:TS U) (i:Nat) (e:Zk U):Id->Option (TO U):=((T.objL e.wr).objL (e.new.map fun x=>((T.ep,i,x.1),x.2))).objs
theorem Zfo (T:TS U) (i:Nat) (dst:Option Nat) (e:Zk U):(T.app i dst e).objs=lkA T i e:=by cases dst<;>rfl
theorem Zki {T:TS U} {i:Nat} {e:Zk U} (g:fresh T i e=true) (hw:∀id o,(id,o)∈e.wr->Zc0 (T.objs id) o) {q:Id×Nat} (h:Zgz T.objs q):Zgz (lkA T i e) q:=by
 obtain⟨o,s,l⟩:=h;have f:((T.objL e.wr).objs q.1).isSome=true:=ZdT _ _ _ (by simp_all);have c:=ZdT (e.new.map fun x=>((T.ep,i,x.1),x.2)) _ _ f;obtain⟨o',a⟩:=Option.isSome_iff_exists.1 c;refine⟨o',a,fun n d=> ?_⟩;rcases Za2 _ _ _ _ a with b |⟨_,j⟩
 ·obtain⟨x,k,d⟩:=Zod.1 b;have:=ZnV.1 g x k;simp_all
 ·rcases Za2 _ _ _ _ j with b |⟨_,p⟩
  ·obtain⟨m,r,t⟩:=hw _ _ b n d;simp_all
  simp_all
structure ZL (T:TS U) (i:Nat) (e:Zk U):Prop where
 wr:∀id o,(id,o)∈e.wr->Zc0 (T.objs id) o
 val:fresh T i e=true->e.val.inv (lkA T i e)
 objs:fresh T i e=true->∀o,((∃k,(k,o)∈e.new)\/∃id,(id,o)∈e.wr)->o.inv (lkA T i e)
theorem TV.inv_old {T:TS U} {i:Nat} {e:Zk U} (a:fresh T i e=true) (hw:∀id o,(id,o)∈e.wr->Zc0 (T.objs id) o) {d:TV U} (h:d.inv T.objs):d.inv (lkA T i e):=
 fun q b=>Zki a hw (h q b)
theorem TS.Inv.app {T:TS U} (h:T.Inv) {i:Nat} {dst:Option Nat} {e:Zk U} (b:fresh T i e=true) (a:ZL T i e):(T.app i dst e).Inv:=by
 constructor
 ·intro k;rw[Zfo];have:(T.app i dst e).slots k=e.val\/(T.app i dst e).slots k=T.slots k:=by
   have c:∀(l:List (Id×TO U)) (T:TS U),(T.objL l).slots=T.slots:=by
    intro l
    induction l with
    |nil=>intro T;rfl
    |cons x r s=>grind[TS.objL]
   cases dst with
   |none=>grind[TS.app,TS.setO,TS.freezeL]
   |some t=>
    simp only[TS.app,TS.setO,TS.freezeL,c,upd];grind
  rcases this with c |c
  ·rw[c];exact a.val b
  ·rw[c];exact TV.inv_old b a.wr (h.slots k)
 ·intro id o j;rw[Zfo]at j|-
  rcases Za2 _ _ _ _ j with f |⟨_,p⟩
  ·obtain⟨x,q,g⟩:=Zod.1 f;simp only[ZnP]at g;obtain⟨_,rfl⟩:=g;exact a.objs b _ (.inl ⟨x.1,q⟩)
  ·rcases Za2 _ _ _ _ p with f |⟨_,m⟩
   ·exact a.objs b _ (.inr ⟨id,f⟩)
   ·have:=h.objs id o m;cases o with
    |box cs=>exact fun d n=>TV.inv_old b a.wr (this d n)
    |_=>trivial
theorem TS.Inv.next {T:TS U} (h:T.Inv):T.next.Inv:=⟨h.slots,h.objs⟩
theorem ZL.pure {T:TS U} {i:Nat} {d:TV U} {frz:List Id} (h:d.inv T.objs):ZL T i {val:=d,frz:=frz}:=
 ⟨by simp,fun _=>h,by simp⟩
end
end Eng
namespace Eng
open Go
section
variable {U:Zd} {R:Type}
def chkL:List Bool->Option R->Option R
 | [],k=>k
 |b::r,k=>chk b (chkL r k)
def Lf.as {car:Nat->Type} (l:Lf car) (t:Ty):Option (El car t):=if h:l.t=t then some (h▸l.x)else none
def ZmV:P->Option (TV U)
 | .bool b=>some (.v .bool b)
 | .int k n=>some (.v (.int k) n)
 | .str s=>some (.v .str s)
 |_=>none
def Zi4:TV U->Option P
 | .v .bool b=>some (.bool b)
 | .v (.int k) n=>some (.int k n)
 | .v .str s=>some (.str s)
 |_=>none
def aggP:TV U->Option (List P)
 | .v (.st n) x=>some ((U.cells n x).map U.encL)
 | .agg cs=>match Zj TV.leaf? cs with
  |some ls=>some (ls.map U.encL)
  |none=>none
 |_=>none
def ZcO (ep i:Nat):Nat->List (TV U)->List (TV U)
 |_,[]=>[]
 |k,.nils _::r=> .full (ep,i,k) 0::ZcO ep i (k+1) r
 |k,d::r=>d::ZcO ep i (k+1) r
def ZJ:Nat->List (TV U)->List (Nat×TO U)
 |_,[]=>[]
 |k,.nils t::r=>(k,.arr t [] false)::ZJ (k+1) r
 |k,_::r=>ZJ (k+1) r
def ZcY (e:TT U) (cs:List (TV U)):Option (TV U):=
 if e.n.isSome then (if e.ti.size<=cs.length then some (ZdX e.n (cs.take e.ti.size))else none)
 else cs.head?
def Zee (X:ZG U) (sl:Nat->TV U) (e:TT U):List (Nat×Operand)->List (TV U)->Option (List (TV U))
 | [],cs=>some cs
 |(i,x)::r,cs=>match e.ti.part X.E i with
  |some (off,t)=>match X.get t,evT X sl t x with
   |some tp,some d=>if d.cells.length=tp.ti.size/\off+d.cells.length<=cs.length/\d.okv=true then Zee X sl e r (ZT cs off d.cells)else none
   |_,_=>none
  |none=>none
def Za4 (X:ZG U) (T:TS U) (t:Nat) (e:TT U) (n:Nat):List (Nat×Operand)->List (El U.car e.ty)->Option (List (El U.car e.ty))
 | [],es=>some es
 |(i,x)::r,es=>match evT X T.slots t x with
  |some d=>match T.lf e.n d with
   |some l=>match l.as e.ty with
    |some y=>if U.tsize e.ty=e.ti.size/\i < n then Za4 X T t e n r (es.set i y)else none
    |none=>none
   |none=>none
  |none=>none
def intT (X:ZG U) (sl:Nat->TV U):Option Operand->Option (Option Int)
 |none=>some none
 |some x=>match evT X sl 0 x with
  |some (.v (.int _) n)=>some (some n)
  |_=>none
def ZjC (n b:Nat):Bool:=decide (n*max b 1<=ZD)
def Zcp (lo hi n:Int):Bool:=decide (0<=lo/\lo<=hi/\hi<=n)
def srcT (T:TS U) (x:TV U) (t:Ty):Option (List (El U.car t)):=
 match x with
 | .v .str s=>match t with
  | .int .u8=>some (s.map fun b=>((b.toNat:Nat):Int))
  |_=>none
 |x=>match T.lf1 x with
  |some l=>match l.as (.sl t)with
   |some a=>some a
   |none=>none
  |none=>none
def Zj7 (X:ZG U) (T:TS U) (ty:Nat) (x:Operand) (k:Zk U->Option R):Option R:=
 match evT X T.slots ty x with
 |some d=>k {val:=d}
 |none=>none
def ZfE (X:ZG U) (T:TS U) (i ty:Nat) (x:Operand) (k:Zk U->Option R):Option R:=
 match evT X T.slots ty x with
 |some (.nils t)=>k {val:= .full (T.ep,i,0) 0,new:=[(0,.arr t [] false)]}
 |some d=>k {val:=d}
 |none=>none
def Zj5 (X:ZG U) (T:TS U) (ty:Nat) (c a b:Operand) (k:Zk U->Option R):Option R:=
 match evT X T.slots ty c,evT X T.slots ty a,evT X T.slots ty b with
 |some (.v .bool x),some u,some v=>bif x then k {val:=u}else k {val:=v}
 |_,_,_=>none
def Zfe (T:TS U) (i:Nat) (a:List (TV U)):Zk U:={val:= .ptr (T.ep,i,0) 0 0,new:=(0,.box (ZcO T.ep i 1 a))::ZJ 1 a}
def Zht (X:ZG U) (T:TS U) (i t:Nat) (k:Zk U->Option R):Option R:=
 match X.get t with
 |some e=>k (Zfe T i e.zero)
 |none=>none
def Zmy (X:ZG U) (T:TS U) (i t:Nat) (x:Operand) (k:Zk U->Option R):Option R:=
 match X.get t,evT X T.slots t x with
 |some e,some d=>if d.cells.length=e.ti.size/\d.okv=true then k (Zfe T i d.cells)else none
 |_,_=>none
def Zhs (X:ZG U) (T:TS U) (t:Nat) (a:List (Nat×Operand)) (k:Zk U->Option R):Option R:=
 match X.get t with
 |some e=>if e.n.isSome then match Zee X T.slots e a e.zero with
  |some cs=>k {val:=ZdX e.n cs}
  |none=>none
  else none
 |none=>none
def Zby (X:ZG U) (T:TS U) (i t n:Nat) (a:List (Nat×Operand)) (k:Zk U->Option R):Option R:=
 match X.get t with
 |some b=>match b.ti.d with
  | .sl u=>match X.get u with
   |some e=>match e.zl with
    |some z=>match z.as e.ty with
     |some z=>match Za4 X T u e n a (List.replicate n z)with
      |some es=>if n*e.ti.size<=16777216/\n<=16777216/\U.tsize e.ty=e.ti.size then
        k {val:= .full (T.ep,i,0) n,new:=[(0,.arr e.ty es false)],frz:=Zc4 X.E T.enc.slots T.enc.objs u a}else none
      |none=>none
     |none=>none
    |none=>none
   |none=>none
  |_=>none
 |none=>none
def Zj8 (X:ZG U) (T:TS U) (ix t:Nat) (a:Operand) (k:Zk U->Option R):Option R:=
 match X.get t,evT X T.slots 0 a with
 |some e,some (.pp cs)=>match ZcY e (cs.map lv)with
  |some d=>k {val:=d}
  |none=>none
 |some e,some (.ptr id i j)=>match T.objs id with
  |some (.box cs)=>if i=0 then match ZcY e (cs.drop j)with
   |some d=>k {val:=d}
   |none=>none
   else none
  |some (.arr u xs _)=>(xs[i]?).bind fun x=>match ZcY e (((U.cellsE u x).drop j).map lv)with
   |some d=>k {val:=d}
   |none=>none
  |some (.own (.st n) c u xs lo out)=>(xs[i]?).bind fun x=>
   if e.n.isSome then chk (decide (lo<=i)) (match ZcY e (((U.cells n x).drop j).map lv)with
    |some d=>k {val:=d}
    |none=>none)
   else match out,(U.cells n x)[c]? with
    |none,some ⟨.sl u',l⟩=>if j=c/\u'=u/\e.ti.size=1 then chk (decide (i < lo)) (k {val:= .full (T.ep,ix,0) (Zoq l),new:=[(0,.arr u' l false)],wr:=[(id,.own (.st n) c u xs lo (some i))]})else none
    |_,_=>none
  |_=>none
 |some e,some (.rp none id)=>if e.ti.size=1/\e.ti.isAgg=false then k {val:= .map id}else none
 |_,_=>none
def Zhm (X:ZG U) (T:TS U) (g t:Nat) (a x:Operand) (k:Zk U->Option R):Option R:=
 match X.get t,evT X T.slots 0 a,evT X T.slots t x with
 |some e,some (.ptr id i j),some d=>match T.objs id with
  |some (.box cs)=>if i=0/\d.cells.length=e.ti.size/\j+d.cells.length<=cs.length/\d.okv=true then
    k {val:= .undef,new:=ZJ 0 d.cells,wr:=[(id,.box (ZT cs j (ZcO T.ep g 0 d.cells)))]}else none
  |some (.arr u xs false)=>match T.lf e.n d with
   |some l=>if U.tsize l.t=e.ti.size/\j+e.ti.size<=U.tsize u/\0 < e.ti.size then
     (if j=0/\U.tsize l.t=U.tsize u then match l.as u with
      |some y=>k {val:= .undef,wr:=[(id,.arr u (xs.set i y) false)],frz:=d.enc.ids T.enc.objs depth}
      |none=>none
     else (xs[i]?).bind fun z=>match U.ofE u (ZT (U.cellsE u z) j (U.cellsE l.t l.x))with
      |some y=>k {val:= .undef,wr:=[(id,.arr u (xs.set i y) false)],frz:=d.enc.ids T.enc.objs depth}
      |none=>none)else none
   |none=>none
  |some (.own (.st n) c u xs lo out)=>match d with
   | .full b _=>match T.objs b with
    |some (.arr f l false)=>if f=u/\j=c/\e.ti.size=1/\e.n.isNone then
      chk (match out with |none=>decide (lo=i) |some i0=>decide (i0=i/\i < lo)) ((xs[i]?).bind fun x=>match U.of n (List.set (U.cells n x) c ⟨.sl f,l⟩)with
       |some y=>k {val:= .undef,wr:=[(id,.own (.st n) c u (xs.set i y) (loUp out lo) none),(b,.gone)]}
       |none=>none)else none
    |_=>none
   |_=>none
  |_=>none
 |_,_,_=>none
def ZcV (X:ZG U) (T:TS U) (x:Operand) (k:Zk U->Option R):Option R:=
 match evT X T.slots 0 x with
 |some (.pp cs)=>k {val:= .pp cs}
 |some (.ptr id i j)=>k {val:= .ptr id i j}
 |some (.fn f a b)=>k {val:= .fn f a b}
 |some (.rp x id)=>k {val:= .rp x id}
 |_=>none
def opNil (X:ZG U) (T:TS U) (b:BinOp) (t:Nat) (x y:Operand) (k:Zk U->Option R):Option R:=
 match X.get t,evT X T.slots 0 x with
 |some e,some (.v .fnc z)=>match e.ti.d,y,b with
  | .func,.const .nilFunc,.eql=>k {val:= .v .bool (Option.isNone z)}
  | .func,.const .nilFunc,.neq=>k {val:= .v .bool (!Option.isNone z)}
  |_,_,_=>none
 |some e,some d=>match Zdi e.ti.d y d.enc with
  |some (.p (.bool z))=>match b with
   | .eql=>k {val:= .v .bool z}
   | .neq=>k {val:= .v .bool (!z)}
   |_=>none
  |_=>none
 |_,_=>none
def Zmz (X:ZG U) (T:TS U) (b:BinOp) (t:Nat) (x y:Operand) (k:Zk U->Option R):Option R:=
 if Operand.isNil y then opNil X T b t x y k else
 match evT X T.slots 0 x,evT X T.slots 0 y with
 |some (.v .bool u),some (.v .bool v)=>match X.get t,ZkJ b u v with
  |some e,some z=>match e.ti.d,ZmV (U:=U) z with
   | .bool,some d=>k {val:=d}
   |_,_=>none
  |_,_=>none
 |some d,some d'=>match aggP d,aggP d' with
  |some u,some v=>match Zm6 X.E b t u v with
   |some z=>match ZmV z with
    |some d=>k {val:=d}
    |none=>none
   |none=>none
  |_,_=>match Zi4 d,Zi4 d' with
   |some u,some v=>match Zm0 b u v with
    |some (z,c)=>match ZmV z with
     |some d=>chkL c (k {val:=d})
     |none=>none
    |none=>none
   |_,_=>none
 |_,_=>none
def opUn (X:ZG U) (T:TS U) (u:UnOp) (x:Operand) (k:Zk U->Option R):Option R:=
 match evT X T.slots 0 x with
 |some d=>match Zi4 d with
  |some v=>match unop u v with
   |some (z,c)=>match ZmV z with
    |some d=>chkL c (k {val:=d})
    |none=>none
   |none=>none
  |none=>none
 |none=>none
def ZdS (X:ZG U) (T:TS U) (i s t:Nat) (x:Operand) (k:Zk U->Option R):Option R:=
 match X.get s,X.get t,evT X T.slots 0 x with
 |some es,some et,some d=>match es.ti.d,et.ti.d,d with
  | .int _,.int k',.v (.int _) n=>k {val:= .v (.int k') (k'.wrap n)}
  | .str,.str,.v .str s=>k {val:= .v .str s}
  | .str,.sl u,.v .str s=>match X.get u with
   |some a=>match a.ti.d with
    | .int .u8=>chk (decide (s.length<=281474976710656)) (k {val:= .full (T.ep,i,0) s.length,new:=[(0,.arr (.int .u8) (s.map fun b=>((b.toNat:Nat):Int)) false)]})
    |_=>none
   |none=>none
  | .sl u,.str,d=>match X.get u,T.lf1 d with
   |some a,some l=>match a.ti.d,l.as (.sl (.int .u8))with
    | .int .u8,some xs=>k {val:= .v .str (xs.map fun n=>UInt8.ofNat n.toNat)}
    |_,_=>none
   |_,_=>none
  |_,_,_=>none
 |_,_,_=>none
def Zl9 (X:ZG U) (sl:Nat->TV U) (xs:List Operand):Option (List (TV U)):=Zj (evT X sl 0) xs
def ZcW (X:ZG U) (T:TS U) (f:Nat) (c d:List Operand) (k:Zk U->Option R):Option R:=
 match Zl9 X T.slots c,Zl9 X T.slots d with
 |some a,some b=>k {val:= .fn f a b}
 |_,_=>none
def ZdQ (X:ZG U) (T:TS U) (i t:Nat) (k:Zk U->Option R):Option R:=
 match X.get t with
 |some e=>match e.ty with
  | .map b a=>k {val:= .map (T.ep,i,0),new:=[(0,.map b a [])]}
  |_=>none
 |none=>none
def zNil (U:Zd) (e:TT U) (c:Nat) (u:Ty):Bool:=match e.ti.zero[c]? with
 |some (.nils k)=>k == U.tsize u
 |_=>false
def Zcc (X:ZG U) (T:TS U) (i t:Nat) (l c:Operand) (k:Zk U->Option R):Option R:=
 match X.elem t,evT X T.slots 0 l,evT X T.slots 0 c with
 |some e,some (.v (.int _) a),some (.v (.int _) b)=>match X.owns.find? (·.t == t)with
  |some q=>match e.zl with
   |some ⟨.st n,z⟩=>if n=q.n/\e.n.isSome/\U.size n=e.ti.size/\zNil U e q.c q.u=true then
     chk (decide (0<=a/\a<=b/\b*e.ti.bytes<=ZD/\b<=ZD)) (k {val:= .full (T.ep,i,0) a.toNat,new:=[(0,.own (.st n) q.c q.u (List.replicate a.toNat z) a.toNat none)]})else none
   |_=>none
  |none=>match e.zl with
  |some z=>match z.as e.ty with
   |some z=>if U.tsize e.ty=e.ti.size then chk (decide (0<=a/\a<=b/\b*e.ti.bytes<=ZD/\b<=ZD)) (k {val:= .full (T.ep,i,0) a.toNat,new:=[(0,.arr e.ty (List.replicate a.toNat z) false)]})else none
   |none=>none
  |none=>none
 |_,_,_=>none
def cut {a:Type} (xs:List a):Option Int->Option Int->List a
 |none,none=>xs
 |none,some h=>xs.take h.toNat
 |some l,none=>xs.drop l.toNat
 |some l,some h=>(xs.take h.toNat).drop l.toNat
def Zh4 (T:TS U) (sz:Option Nat) (d:TV U) (lo hi mx:Option Int) (k:Zk U->Option R):Option R:=
 match sz,d with
 |none,.v .str s=>match mx with
  |none=>chk (Zcp (lo.getD 0) (hi.getD s.length) s.length) (k {val:= .v .str (cut s lo hi)})
  |some _=>none
 |some sz,.v (.sl t) xs=>if sz=U.tsize t then match mx,hi with
  |none,_=>chk (Zcp (lo.getD 0) (hi.getD xs.length) xs.length) (k {val:= .v (.sl t) (cut xs lo hi)})
  |some m,some h=>chk (decide (0<=lo.getD 0/\lo.getD 0<=h/\h<=xs.length/\m=h)) (k {val:= .clip t (cut xs lo hi)})
  |_,_=>none
  else none
 |some sz,.full id n=>match T.objs id with
  |some (.arr t xs _)=>if sz=U.tsize t then match mx with
   |none=>chk (Zcp (lo.getD 0) (hi.getD xs.length) xs.length) (match lo,hi with
    |none,none=>k {val:= .full id n}
    |lo,hi=>k {val:= .sl id (lo.getD 0).toNat ((hi.getD xs.length).toNat - (lo.getD 0).toNat)})
   |some m=>match hi with
    |some h=>chk (decide (0<=lo.getD 0/\lo.getD 0<=h/\h<=xs.length/\m=h)) (k {val:= .clip t (cut xs lo hi),frz:=[id]})
    |none=>none
   else none
  |_=>none
 |some sz,.sl id off len=>match T.objs id with
  |some (.arr t xs _)=>if sz=U.tsize t then match mx with
   |none=>chk (Zcp (lo.getD 0) (hi.getD len) len) (k {val:= .sl id (off+(lo.getD 0).toNat) ((hi.getD len).toNat - (lo.getD 0).toNat)})
   |some _=>none
   else none
  |_=>none
 |some _,.nils t=>match mx with
  |none=>chk (decide (lo.getD 0=0/\hi.getD 0=0)) (k {val:= .nils t})
  |some _=>none
 |_,_=>none
def Zhn (X:ZG U) (T:TS U) (t:Nat) (x:Operand) (lo hi mx:Option Operand) (k:Zk U->Option R):Option R:=
 match X.get t,evT X T.slots 0 x,intT X T.slots lo,intT X T.slots hi,intT X T.slots mx with
 |some e,some d,some a,some b,some c=>match e.ti.d with
  | .str=>Zh4 T none d a b c k
  | .sl u=>match X.get u with
   |some f=>Zh4 T (some f.ti.size) d a b c k
   |none=>none
  |_=>none
 |_,_,_,_,_=>none
def Zce (X:ZG U) (T:TS U) (t:Nat) (x:Operand) (f:Nat) (k:Zk U->Option R):Option R:=
 match X.get t,evT X T.slots 0 x with
 |some e,some d=>match e.ti.d with
  | .struct fs=>match fs[f]? with
   |some (off,ft)=>match X.get ft with
    |some a=>if a.ti.size=0 then none else match d with
     | .pp cs=>k {val:= .pp (cs.drop off)}
     | .ptr id i j=>k {val:= .ptr id i (j+off)}
     | .rp (some x) id=>match off with
      |0=>k {val:= .pp [x]}
      |1=>k {val:= .rp none id}
      |_=>none
     |_=>none
    |none=>none
   |none=>none
  |_=>none
 |_,_=>none
def Zhq (X:ZG U) (T:TS U) (t:Nat) (x:Operand) (f:Nat) (k:Zk U->Option R):Option R:=
 match X.get t,evT X T.slots 0 x with
 |some e,some d=>match e.ti.d with
  | .struct fs=>match fs[f]? with
   |some (off,ft)=>match X.get ft with
    |some a=>if a.ti.size=0 then none else match d with
     | .v (.st n) x=>match ZcY a (((U.cells n x).drop off).map lv)with
      |some y=>k {val:=y}
      |none=>none
     | .agg cs=>match ZcY a (cs.drop off)with
      |some y=>k {val:=y}
      |none=>none
     |_=>none
    |none=>none
   |none=>none
  |_=>none
 |_,_=>none
def tabB {car:Nat->Type} (t:Ty) (cs:List (Lf car)) (n:Nat):Option (El car t):=match cs[n]? with
 |some l=>l.as t
 |none=>none
def tabK (cs:List (Lf U.car)):List Ty->Nat->(List (Lf U.car)->Option R)->Option R
 | [],_,k=>k []
 |t::r,n,k=>(tabB t cs n).bind fun x=>tabK cs r (n+1) fun ls=>k (⟨t,x⟩::ls)
def Zcd (X:ZG U) (T:TS U) (t:Nat) (x c:Operand) (k:Zk U->Option R):Option R:=
 match X.get t,evT X T.slots 0 x,evT X T.slots 0 c with
 |some e,some d,some (.v (.int _) n)=>match e.ti.d with
  | .sl u=>match X.get u with
   |some a=>match d with
    | .v (.sl t') xs=>if U.tsize t'=a.ti.size then (idx xs n).bind fun y=>k {val:= .pp (U.cellsE t' y)}else none
    | .full id m=>match T.objs id with
     |some (.arr t' xs _)=>if U.tsize t'=a.ti.size then chk (decide (0<=n/\n < xs.length)) (k {val:= .ptr id n.toNat 0})else none
     |some (.own t' _ _ xs _ _)=>if U.tsize t'=a.ti.size then chk (decide (0<=n/\n < xs.length)) (k {val:= .ptr id n.toNat 0})else none
     |_=>none
    | .sl id b len=>match T.objs id with
     |some (.arr t' xs _)=>if U.tsize t'=a.ti.size then chk (decide (0<=n/\n < len)) (k {val:= .ptr id (b+n.toNat) 0})else none
     |_=>none
    |_=>none
   |none=>none
  | .arr m u=>match X.get u with
   |some a=>match d with
    | .pp cs=>chk (decide (0<=n/\n < m)) (bif Nat.blt 8 m then match a.zl with
      |some z=>tabK cs ((U.cellsE z.t z.x).map (·.t)) (n.toNat*a.ti.size) fun ls=>k {val:= .pp (ls++cs.drop (n.toNat*a.ti.size+ls.length))}
      |none=>none
     else k {val:= .pp (cs.drop (n.toNat*a.ti.size))})
    | .ptr id i j=>chk (decide (0<=n/\n < m)) (k {val:= .ptr id i (j+n.toNat*a.ti.size)})
    |_=>none
   |none=>none
  |_=>none
 |_,_,_=>none
def Zhp (X:ZG U) (T:TS U) (t:Nat) (x a:Operand) (k:Zk U->Option R):Option R:=
 match X.get t,evT X T.slots 0 x,evT X T.slots 0 a with
 |some e,some (.v .str s),some (.v (.int _) n)=>match e.ti.d with
  | .str=>(idx s n).bind fun c=>k {val:= .v (.int .u8) ((c.toNat:Nat):Int)}
  |_=>none
 |_,_,_=>none
def Zl3 {car:Nat->Type} (q:(n:Nat)->car n->car n->Bool):(k:Ty)->El car k->El car k->Bool
 | .bool,a,b=>a == b
 | .int _,a,b=>a == b
 | .str,a,b=>a == b
 | .st n,a,b=>q n a b
 |_,_,_=>false
def Ty.isKey (l:List Nat):Ty->Bool
 | .bool | .int _ | .str=>true
 | .st n=>l.contains n
 |_=>false
def Zhx {car:Nat->Type} (q:(n:Nat)->car n->car n->Bool:=fun _ _ _=>false) {k v:Ty} (a:List (El car k×El car v)) (x:El car k):Option (El car v):=(a.find? fun e=>Zl3 q k x e.1).map (·.2)
def setB {car:Nat->Type} (q:(n:Nat)->car n->car n->Bool:=fun _ _ _=>false) {k v:Ty} (a:List (El car k×El car v)) (x:El car k) (y:El car v):List (El car k×El car v):=
 if a.any (fun e=>Zl3 q k x e.1)then a.map fun e=>if Zl3 q k x e.1 then (e.1,y)else e else a++[(x,y)]
def delB {car:Nat->Type} (q:(n:Nat)->car n->car n->Bool:=fun _ _ _=>false) {k v:Ty} (a:List (El car k×El car v)) (x:El car k):List (El car k×El car v):=a.filter fun e=> !Zl3 q k x e.1
def keyL (X:ZG U) (T:TS U) (a:Nat) (d:TV U):Option (Lf U.car):=match X.get a with
 |some e=>T.lf e.n d
 |none=>none
def mapT (T:TS U):TV U->Option (Lf U.car)
 | .v (.map k v) kv=>some ⟨.map k v,kv⟩
 | .map id=>match T.objs id with
  |some (.map k v kv)=>some ⟨.map k v,kv⟩
  |_=>none
 |_=>none
def ZfC (X:ZG U) (T:TS U) (t:Nat) (m k:Operand) (d:Bool) (c:Zk U->Option R):Option R:=
 match X.get t with
 |some e=>match e.ti.d,e.ty with
  | .map kt vt,.map a b=>match X.get vt,evT X T.slots 0 m,evT X T.slots kt k with
   |some ev,some dm,some dk=>match mapT T dm,keyL X T kt dk,ev.zl with
    |some lm,some lk,some z=>match lm.as (.map a b),lk.as a,z.as b with
     |some kv,some key,some z=>if a.isKey X.keys=true/\(X.E.keyTD t).same a.td=true then (if d then c {val:= .tup [.v b ((Zhx X.kq kv key).getD z),.v .bool (Zhx X.kq kv key).isSome]}else c {val:= .v b ((Zhx X.kq kv key).getD z)})else none
     |_,_,_=>none
    |_,_,_=>none
   |_,_,_=>none
  |_,_=>none
 |none=>none
def Zbe (X:ZG U) (T:TS U) (t:Nat) (m k v:Operand) (c:Zk U->Option R):Option R:=
 match X.get t with
 |some e=>match e.ti.d,e.ty with
  | .map kt vt,.map a b=>match X.get vt,evT X T.slots 0 m,evT X T.slots kt k,evT X T.slots vt v with
   |some ev,some (.map id),some dk,some dv=>match T.objs id,keyL X T kt dk,T.lf ev.n dv with
    |some (.map a' b' kv),some lk,some lv=>match (Lf.mk (.map a' b') kv:Lf U.car).as (.map a b),lk.as a,lv.as b with
     |some kv,some key,some y=>if a.isKey X.keys=true/\(X.E.keyTD t).same a.td=true then c {val:= .undef,wr:=[(id,.map a b (setB X.kq kv key y))],frz:=dv.enc.ids T.enc.objs depth}else none
     |_,_,_=>none
    |_,_,_=>none
   |_,_,_,_=>none
  |_,_=>none
 |none=>none
def Zho (X:ZG U) (T:TS U) (i t:Nat) (x:Operand) (k:Zk U->Option R):Option R:=
 match X.get t,evT X T.slots 0 x with
 |some e,some (.v .str s)=>match e.ti.d with
  | .str=>k {val:= .it (T.ep,i,0),new:=[(0,.sit s 0)]}
  |_=>none
 |_,_=>none
def Zj6 (X:ZG U) (T:TS U) (b:Operand) (k:Zk U->Option R):Option R:=
 match evT X T.slots 0 b with
 |some (.it id)=>match T.objs id with
  |some (.sit s a)=>bif decide (a < s.length)then
    k {val:= .tup [.v .bool true,.v (.int .i64) (a:Int),.v (.int .i32) (Utf8.decode ⟨s.toArray⟩ a).1],wr:=[(id,.sit s (a+(Utf8.decode ⟨s.toArray⟩ a).2))]}
   else k {val:= .tup [.v .bool false]}
  |_=>none
 |_=>none
def ZdR (X:ZG U) (T:TS U) (x:Operand) (a:Nat) (k:Zk U->Option R):Option R:=
 match evT X T.slots 0 x with
 |some (.tup vs)=>match vs[a]? with
  |some d=>k {val:=d}
  |none=>none
 |_=>none
def Zmx (X:ZG U) (T:TS U) (t:Nat) (x:Operand) (k:Zk U->Option R):Option R:=
 match X.get t,evT X T.slots t x with
 |some e,some d=>match e.ti.d with
  | .str=>match d with
   | .v .str s=>k {val:= .v (.int .i64) (s.length:Int)}
   |_=>none
  | .sl _=>match d with
   | .v (.sl _) xs=>k {val:= .v (.int .i64) (xs.length:Int)}
   | .clip _ xs=>k {val:= .v (.int .i64) (xs.length:Int)}
   | .nils _=>k {val:= .v (.int .i64) (0:Nat)}
   | .full id n=>match T.objs id with
    |some (.arr _ xs _)=>k {val:= .v (.int .i64) (xs.length:Int)}
    |some (.own _ _ _ xs _ _)=>k {val:= .v (.int .i64) (xs.length:Int)}
    |_=>none
   | .sl _ _ len=>k {val:= .v (.int .i64) (len:Int)}
   |_=>none
  | .map _ _=>match mapT T d with
   |some ⟨.map _ _,a⟩=>chk (decide (Zoq a<=Zr)) (k {val:= .v (.int .i64) (Zoq a:Int)})
   |_=>none
  | .arr n _=>chk (decide (n<=Zr)) (k {val:= .v (.int .i64) (n:Int)})
  |_=>none
 |_,_=>none
def srcTd:TD->Bool
 | .sl _ | .str=>true
 |_=>false
def appX (T:TS U) (i:Nat) (e:TT U) (d:TV U) (a:List (El U.car e.ty)) (k:Zk U->Option R):Option R:=
 match d with
 | .nils _=>chk (ZjC a.length e.ti.bytes) (k {val:= .full (T.ep,i,0) a.length,new:=[(0,.arr e.ty a false)]})
 | .clip b xs=>match (Lf.mk (.sl b) xs:Lf U.car).as (.sl e.ty)with
  |some xs=>chk (decide (List.isEmpty a=false)) (chk (ZjC (Zoq xs+a.length) e.ti.bytes) (k {val:= .full (T.ep,i,0) (Zoq xs+a.length),new:=[(0,.arr e.ty (List.append xs a) false)]}))
  |none=>none
 | .full id n=>match T.objs id with
  |some (.arr b xs fix)=>match (Lf.mk (.sl b) xs:Lf U.car).as (.sl e.ty)with
   |some xs=>chk (ZjC (Zoq xs+a.length) e.ti.bytes) (k {val:= .full (T.ep,i,0) (Zoq xs+a.length),new:=[(0,.arr e.ty (List.append xs a) fix)],wr:=[(id,.gone)]})
   |none=>none
  |_=>none
 | .sl id 0 len=>match T.objs id with
  |some (.arr b xs false)=>match (Lf.mk (.sl b) xs:Lf U.car).as (.sl e.ty)with
   |some xs=>chk (decide (len<=Zoq xs)) (chk (ZjC (len+a.length) e.ti.bytes) (k {val:= .full (T.ep,i,0) (len+a.length),new:=[(0,.arr e.ty (List.append (List.take len xs) a) false)],wr:=[(id,.gone)]}))
   |none=>none
  |_=>none
 |_=>none
def ZfF (X:ZG U) (T:TS U) (i t u:Nat) (s x:Operand) (k:Zk U->Option R):Option R:=
 match X.elem t,X.get u,evT X T.slots t s,evT X T.slots u x with
 |some e,some eu,some d,some dx=>if U.tsize e.ty=e.ti.size then
   (if srcTd eu.ti.d=true then match srcT T dx e.ty with
    |some b=>appX T i e d b k
    |none=>none
   else match eu.ti.d,dx,e.zl with
    | .int _,.v (.int .i64) a,some z=>match z.as e.ty with
     |some z=>chk (decide (0<=a)) (appX T i e d (List.replicate a.toNat z) k)
     |none=>none
    |_,_,_=>none)
  else none
 |_,_,_,_=>none
def Zj9 (X:ZG U) (T:TS U) (t u:Nat) (d s:Operand) (k:Zk U->Option R):Option R:=
 match X.elem t,evT X T.slots t d,evT X T.slots u s with
 |some e,some dd,some ds=>match dd with
  | .full id n=>match T.objs id with
   |some (.arr t' xs false)=>match srcT T ds t' with
    |some a=>if U.tsize t'=e.ti.size then k {val:= .v (.int .i64) (min a.length xs.length:Nat),wr:=[(id,.arr t' (a.take xs.length++xs.drop a.length) false)]}else none
    |none=>none
   |_=>none
  | .sl id b len=>match T.objs id with
   |some (.arr t' xs false)=>match srcT T ds t' with
    |some a=>if U.tsize t'=e.ti.size then chk (decide (b+len<=xs.length)) (k {val:= .v (.int .i64) (min a.length len:Nat),wr:=[(id,.arr t' (ZT xs b (a.take (min a.length len))) false)]})else none
    |none=>none
   |_=>none
  |_=>none
 |_,_,_=>none
def Zdt (X:ZG U) (sl:Nat->TV U):List Operand->List Nat->Option (List (TV U))
 | [],_=>some []
 |x::xs,[]=>match evT X sl 0 x,Zdt X sl xs []with
  |some d,some r=>some (d::r)
  |_,_=>none
 |x::xs,t::ts=>match evT X sl t x,Zdt X sl xs ts with
  |some d,some r=>some (d::r)
  |_,_=>none
def opMM (X:ZG U) (T:TS U) (mx:Bool) (args:List Operand) (a:List Nat) (k:Zk U->Option R):Option R:=
 match Zdt X T.slots args a with
 |some b=>match (if mx then maxP (TV.encs b)else minP (TV.encs b))with
  |some z=>match ZmV z with
   |some d=>k {val:=d}
   |none=>none
  |none=>none
 |none=>none
def ZfD (X:ZG U) (T:TS U) (t u:Nat) (m k:Operand) (c:Zk U->Option R):Option R:=
 match X.get t,evT X T.slots t m,evT X T.slots u k with
 |some e,some (.map id),some dk=>match e.ti.d,T.objs id,keyL X T u dk with
  | .map _ _,some (.map a b kv),some lk=>match lk.as a with
   |some key=>if a.isKey X.keys=true/\(X.E.keyTD t).same a.td=true then c {val:= .undef,wr:=[(id,.map a b (delB X.kq kv key))]}else none
   |none=>none
  |_,_,_=>none
 |_,_,_=>none
def ZmW (X:ZG U) (T:TS U) (i:Nat) (h:Op) (ty:Nat) (k:Zk U->Option R):Option R:=
 match h with
 | .move x=>Zj7 X T ty x k
 | .assign x=>ZfE X T i ty x k
 | .pick c a b=>Zj5 X T ty c a b k
 | .alloc t=>Zht X T i t k
 | .box t x=>Zmy X T i t x k
 | .build t e=>Zhs X T t e.toList k
 | .buildSlice t n e=>Zby X T i t n e.toList k
 | .load t a=>Zj8 X T i t a k
 | .store t a x=>Zhm X T i t a x k
 | .nilCheck x=>ZcV X T x k
 | .binOp b t x y _=>Zmz X T b t x y k
 | .unOp u _ x=>opUn X T u x k
 | .convert s t x=>ZdS X T i s t x k
 | .makeFunc (.func f) first caps=>ZcW X T f first.toList caps.toList k
 | .makeMap t none=>ZdQ X T i t k
 | .makeSlice t l c=>Zcc X T i t l c k
 | .slice t x lo hi mx=>Zhn X T t x lo hi mx k
 | .fieldAddr t x f=>Zce X T t x f k
 | .field t x f=>Zhq X T t x f k
 | .indexAddr t x g=>Zcd X T t x g k
 | .index t x g=>Zhp X T t x g k
 | .lookup t m q j=>ZfC X T t m q j k
 | .mapUpdate t m q v=>Zbe X T t m q v k
 | .insert t m q v=>Zbe X T t m q v k
 | .range t x=>Zho X T i t x k
 | .next o true=>Zj6 X T o k
 | .extract x g=>ZdR X T x g k
 | .call {callee:= .builtin b,args,argTypes}=>match b,args.toList,argTypes.toList with
  | .len,[x],[t]=>Zmx X T t x k
  | .append,[s,x],[t,u]=>ZfF X T i t u s x k
  | .copy,[d,s],[t,u]=>Zj9 X T t u d s k
  | .max,xs,ts=>opMM X T true xs ts k
  | .min,xs,ts=>opMM X T false xs ts k
  | .delete,[m,q],[t,u]=>ZfD X T t u m q k
  |_,_,_=>none
 |_=>none
end
end Eng
namespace Eng
open Go
section
variable {U:Zd} {R:Type} {X:ZG U} {T:TS U} {i ty:Nat} {k:Zk U->Option R} {r:R}
def Snd (X:ZG U) (T:TS U) (i:Nat) (a:Op) (ty:Nat) (k:Zk U->Option R) (r:R):Prop:=
 ∃e cs,Zf X.E T.ep i a ty T.enc.slots T.enc.objs=some (e.enc cs)/\(∀q∈cs,q=true)/\ZL T i e/\k e=some r
theorem Zel:∀{cs:List Bool} {k:Option R},chkL cs k=some r->(∀q∈cs,q=true)/\k=some r
 | [],k,h=>⟨by simp,h⟩
 |b::cs,k,h=>by obtain⟨d,a⟩:=Zi h;obtain⟨e,c⟩:=Zel a;simp_all
theorem ZA (b:T.Inv) {t:Nat} {x:Operand} {d:TV U} (h:evT X T.slots t x=some d):d.inv T.objs:=by
 have a:∀d:TV U,d.fulls=[]->d.inv T.objs:=fun d c q e=>by simp_all
 unfold evT at h;split at h
 ·cases h;exact b.slots _
 ·cases h;exact a _ rfl
 ·cases h;exact a _ rfl
 ·cases h;exact a _ rfl
 ·split at h;rotate_left;simp at h;split at h;rotate_left;simp at h;cases h;exact a _ rfl
 ·cases h;exact a _ rfl
 ·cases h;exact a _ rfl
 ·split at h;rotate_left;simp at h;split at h;rotate_left;simp at h;cases h;exact a _ rfl
 ·cases h;exact a _ rfl
 ·split at h;rotate_left;simp at h;cases h;exact a _ rfl
 simp_all
theorem Zb (a:TOk X) {t:Nat} {x:Operand} {d:TV U} (h:evT X T.slots t x=some d):ev X.E T.enc.slots t x=d.enc:=ZmT a h
theorem Zc {id:Id} {o:TO U} (h:T.objs id=some o):T.enc.objs id=some o.enc:=by simp[TS.enc,ZiV,h]
theorem Zah {lk:Id->Option (TO U)} (t:Ty) (x:El U.car t):(TV.v t x:TV U).inv lk:=fun q a=>by grind[TV.fulls]
theorem Ze {lk:Id->Option (TO U)} {d:TV U} (h:d.fulls=[]):d.inv lk:=fun q a=>by simp_all
theorem Zd5 {lk:Id->Option (TO U)} {d:TV U} (h:d.inv lk):∀c∈d.cells,c.inv lk:=fun c a q b=>h q (ZhM ⟨c,a,b⟩)
theorem ZgI {lk:Id->Option (TO U)} {n:Option Nat} {cs:List (TV U)} (h:∀c∈cs,c.inv lk):(ZdX n cs).inv lk:=fun q a=>by obtain⟨d,b,a⟩:=Zgx n cs a;exact h d b q a
theorem ZaB (cs:List (TV U)):(TO.box cs).enc= .box (TV.encs cs):=rfl
theorem ZI (t:Ty) (xs:List (El U.car t)) (fix:Bool):(TO.arr t xs fix:TO U).enc= .arr (U.tsize t) (xs.map (U.encE t)) fix:=rfl
theorem Z5 (a b:Ty) (c:List (El U.car a×El U.car b)):(TO.map a b c:TO U).enc= .map a.td (c.map fun e=>(U.encE a e.1,U.encE b e.2)):=rfl
theorem Zb5 (s:List UInt8) (p:Nat):(TO.sit s p:TO U).enc= .sit s p:=rfl
theorem ZaZ:(TO.gone:TO U).enc= .gone:=rfl
theorem Zfb (t:Ty) (c:Nat) (u:Ty) (xs:List (El U.car t)) (lo:Nat) (a:Option Nat):(TO.own t c u xs lo a:TO U).enc= .own (U.tsize t) c (U.tsize u) (xs.map (U.encE t)) lo a:=rfl
theorem Zkr (f:Nat) (a b:List D):(∃x y,fnD f a b= .p (.fn f x y))\/fnD f a b= .fn f a b:=by
 grind[fnD]
theorem Zk6 (c:TOk X) (a:T.Inv) {x:Operand} (h:Zj7 X T ty x k=some r):Snd X T i (.move x) ty k r:=by unfold Zj7 at h;split at h;rotate_left;simp at h;rename_i d b;exact⟨_,[],by grind[Zf,Zk.enc,Zb],by simp,ZL.pure (ZA a b),h⟩
theorem ZiM (f:TOk X) (l:T.Inv) {x:Operand} (h:ZfE X T i ty x k=some r):Snd X T i (.assign x) ty k r:=by
 unfold ZfE at h;split at h
 ·rename_i t b;refine⟨_,[], ?_,by simp, ?_,h⟩
  ·simp only[Zf,Zb f b,Zk.enc,TV.enc,Zot,Zn6,ZaB,ZI,Z5,Zb5,ZaZ]
  ·refine⟨by simp,fun _ q g=> ?_,fun _ o j=> ?_⟩
   ·simp only[TV.fulls,ZnF]at g;subst g;refine⟨.arr t [] false,by simp[lkA,TS.objL,upd],fun n a=> ?_⟩;cases a;rfl
   ·rcases j with ⟨m,c⟩ |⟨id,c⟩
    ·simp only[ZnF,ZnP]at c;obtain⟨_,rfl⟩:=c;trivial
    ·simp at c
 ·rename_i d e b;refine⟨_,[], ?_,by simp,ZL.pure (ZA l b),h⟩;simp only[Zf,Zb f b];split
  ·rename_i sz a;exfalso;cases d<;>simp only[TV.enc,reduceCtorEq]at a
   ·exact e _ rfl
   ·unfold D.mkAgg at a;split at a<;>simp at a
   ·unfold fnD at a;split at a<;>simp at a
  ·rfl
 ·simp at h
theorem Zk4 (f:TOk X) (a:T.Inv) {c x y:Operand} (h:Zj5 X T ty c x y k=some r):Snd X T i (.pick c x y) ty k r:=by
 unfold Zj5 at h;split at h;rotate_left;simp at h;rename_i b u v g e d;cases b
 ·exact⟨_,[],by simp_all[Zf,TV.enc,Zd.encE,Zk.enc,Zb],by simp,ZL.pure (ZA a d),h⟩
 ·exact⟨_,[],by simp_all[Zf,TV.enc,Zd.encE,Zk.enc,Zb],by simp,ZL.pure (ZA a e),h⟩
theorem ZdF (ep i:Nat):∀(k:Nat) (a:List (TV U)),TV.encs (ZcO ep i k a)=ZeO ep i k (TV.encs a)
 |k,[]=>rfl
 |k,d::r=>by
  cases d<;>simp only[ZcO,TV.encs,TV.enc,ZeO,ZdF ep i (k+1) r]
  all_goals grind[D.mkAgg,ZeO,fnD]
theorem Zfs {k:Nat} {d:D} {r:List D} (h:∀sz,d≠ .nils sz):ZU k (d::r)=ZU (k+1) r:=by cases d<;>first |rfl |simp_all
theorem Zbt:∀(k:Nat) (a:List (TV U)),(ZJ k a).map (fun x=>(x.1,x.2.enc))=ZU k (TV.encs a)
 |k,[]=>rfl
 |k,d::r=>by
  have b:=Zbt (k+1) r;cases d
  case nils t=>rw[ZJ,Zn6,b];rfl
  all_goals grind[ZJ,TV.encs,Zfs,TV.enc,D.mkAgg,fnD]
theorem Zac:∀(k:Nat) (a:List (TV U)) (j:Nat) (o:TO U),(j,o)∈ZJ k a->k<=j/\∃t,o= .arr t [] false
 |k,[],j,o,h=>by grind[ZJ]
 |k,d::r,j,o,h=>by
  cases d
  case nils t=>
   simp only[ZJ,ZnD,ZnP]at h;rcases h with ⟨rfl,rfl⟩ |h
   ·simp_all
   ·have:=Zac (k+1) r j o h;grind
  all_goals
   simp only[ZJ]at h;have:=Zac (k+1) r j o h;exact⟨by omega,this.2⟩
theorem ZdE (ep i:Nat):∀(k:Nat) (e:List (TV U)) (d:TV U),d∈ZcO ep i k e->d∈e\/∃j t,d= .full (ep,i,j) 0/\(j,TO.arr t [] false)∈ZJ k e
 |k,[],d,h=>by simp[ZcO]at h
 |k,x::r,d,h=>by
  cases x
  case nils t=>
   simp only[ZcO,ZnD]at h;rcases h with rfl |h
   ·exact .inr ⟨k,t,rfl,by simp[ZJ]⟩
   ·rcases ZdE ep i (k+1) r d h with h |⟨j,a,b,c⟩
    ·exact .inl (Zoa _ h)
    ·exact .inr ⟨j,a,b,by simp[ZJ,c]⟩
  all_goals
   simp only[ZcO,ZnD]at h;rcases h with rfl |h
   ·exact .inl List.mem_cons_self
   ·rcases ZdE ep i (k+1) r d h with h |⟨j,a,b,c⟩
    ·exact .inl (Zoa _ h)
    ·exact .inr ⟨j,a,b,by simp only[ZJ];exact c⟩
theorem Zgt:∀(l:List (Id×TO U)) (T:TS U) (id:Id),(∃o,(id,o)∈l)->(∀o,(id,o)∈l->∀n,o.len?=some n->n=0)->Zgz (T.objL l).objs (id,0)
 | [],T,id,h,_=>by simp at h
 |(a,u)::l,T,id,h,hz=>by
  simp only[TS.objL]
  by_cases hm:∃o,(id,o)∈l
  ·exact Zgt l _ id hm fun o c=>hz o (Zoa _ c)
  ·obtain⟨o,c⟩:=h;rcases ZnD.1 c with c |c
   ·simp only[ZnP]at c;obtain⟨rfl,rfl⟩:=c;have key:∀(l:List (Id×TO U)) (T:TS U),(¬∃o,(id,o)∈l)->(T.objL l).objs id=T.objs id:=by
     intro l
     induction l with
     |nil=>intro T _;rfl
     |cons x l f=>
      obtain⟨b,v⟩:=x;intro T e;simp only[TS.objL];rw[f _ (fun⟨o,c⟩=>e ⟨o,Zoa _ c⟩)];simp only[upd];split
      ·rename_i d;subst d;exact absurd ⟨v,List.mem_cons_self⟩ e
      ·rfl
    refine⟨o, ?_,fun n d=>hz o List.mem_cons_self n d⟩;rw[key l _ hm];simp[upd]
   ·exact absurd ⟨o,c⟩ hm
theorem ZgN (A:T.Inv) {k0:Nat} {c:List (TV U)} (w:∀d∈c,d.inv T.objs) {e:Zk U} (k:e.val.fulls=[]) (r:∀id o,(id,o)∈e.wr->∃cs,o= .box cs/\∀d∈cs,d∈ZcO T.ep i k0 c\/d.inv T.objs)
  (h:∀j o,(j,o)∈e.new->(∃cs,o= .box cs/\∀d∈cs,d∈ZcO T.ep i k0 c\/d.inv T.objs)\/(j,o)∈ZJ k0 c) (m:∀j o,(j,o)∈ZJ k0 c->(j,o)∈e.new) (z:∀j o,(j,o)∈e.new->∀o',(j,o')∈ZJ k0 c->∃t,o= .arr t [] false):ZL T i e:=by
 have hw:∀id o,(id,o)∈e.wr->Zc0 (T.objs id) o:=fun id o b n p=>by grind[TO.len?]
 have g:fresh T i e=true->∀d,d∈ZcO T.ep i k0 c\/d.inv T.objs->d.inv (lkA T i e):=fun u d a=>by
  rcases a with a |a
  ·rcases ZdE _ _ _ _ _ a with a |⟨j,t,rfl,b⟩
   ·grind[TV.inv_old]
   ·intro q f;simp only[TV.fulls,ZnF]at f;subst f;refine Zgt _ _ _ ⟨.arr t [] false,Zod.2 ⟨_,m _ _ b,rfl⟩⟩ fun o l n p=> ?_
    obtain⟨x,v,f⟩:=Zod.1 l;simp only[ZnP,true_and]at f;obtain⟨rfl,rfl⟩:=f;obtain⟨B,y⟩:=z _ _ v _ b;rw[y]at p;cases p;rfl
  grind[TV.inv_old]
 refine⟨hw,fun _=>Ze k,fun u o l=> ?_⟩;rcases l with ⟨j,b⟩ |⟨id,b⟩
 ·rcases h j o b with ⟨cs,rfl,s⟩ |b
  ·exact fun d a=>g u d (s d a)
  ·obtain⟨_,t,rfl⟩:=Zac _ _ _ _ b;trivial
 ·obtain⟨cs,rfl,s⟩:=r id o b;exact fun d a=>g u d (s d a)
theorem Ziv (f:T.Inv) {e:List (TV U)} (c:∀d∈e,d.inv T.objs):ZL T i (Zfe T i e):=by
 refine ZgN (k0:=1) f c rfl (by simp[Zfe]) (fun j o a=> ?_) (fun j o a=>Zoa _ a) (fun j o a o' b=> ?_)
 ·rcases ZnD.1 a with a |a
  all_goals simp_all
 ·rcases ZnD.1 a with a |a
  ·simp only[ZnP]at a;have:=(Zac _ _ _ _ b).1;omega
  ·exact(Zac _ _ _ _ a).2
theorem Zfd (T:TS U) (i:Nat) (a:List (TV U)):(Zfe T i a).enc []={val:= .ptr (T.ep,i,0) 0 0,new:=(0,.box (ZeO T.ep i 1 (TV.encs a)))::ZU 1 (TV.encs a)}:=by simp only[Zfe,Zk.enc,TV.enc,Zn6,ZaB,ZI,Z5,Zb5,ZaZ,ZdF,Zbt,Zot]
theorem ZjV (b:TOk X) (c:T.Inv) {t:Nat} (h:Zht X T i t k=some r):Snd X T i (.alloc t) ty k r:=by unfold Zht at h;split at h;rotate_left;simp at h;rename_i e a;refine⟨_,[], ?_,by simp,Ziv c (fun d f=>Ze (b.inv t e a d f)),h⟩;rw[Zfd];simp only[Zf,Zs a,<-b.zero t e a]
theorem Zap (a:List (TV U)):(TV.encs a).length=a.length:=by rw[Zai,Zor]
theorem Zmo (f:UOk U) (c:TOk X) (a:T.Inv) {t:Nat} {x:Operand} (h:Zmy X T i t x k=some r):Snd X T i (.box t x) ty k r:=by unfold Zmy at h;split at h;rotate_left;simp at h;rename_i e d j b;split at h;rotate_left;simp at h;rename_i g;refine⟨_,[], ?_,by simp,Ziv a (Zd5 (ZA a b)),h⟩;grind[Zfd,Zf,Zap,Zs,Zb,Zen,ZfG]
theorem ZcQ {a β:Type} (f:a->β) (xs b:List a) (j:Nat):(ZT xs j b).map f=ZT (xs.map f) j (b.map f):=by simp only[ZT,ZoA,ZoG,Zos,Zor]
theorem Zei (xs a:List (TV U)) (j:Nat):TV.encs (ZT xs j a)=ZT (TV.encs xs) j (TV.encs a):=by grind[Zai,ZcQ]
theorem Zku (xs:List (TV U)) (n:Nat):TV.encs (xs.take n)=(TV.encs xs).take n:=by simp only[Zai,ZoG]
theorem ZbE (xs:List (TV U)) (n:Nat):TV.encs (xs.drop n)=(TV.encs xs).drop n:=by grind[Zai,Zos]
theorem ZeR {b:Type} {xs c:List b} {j:Nat} {a:b} (h:a∈ZT xs j c):a∈xs\/a∈c:=by
 grind[ZT]
theorem Zed (o:UOk U) (k:TOk X) (i:T.Inv) {e:TT U}:∀(a:List (Nat×Operand)) (cs b:List (TV U)),(∀c∈cs,c.inv T.objs)->Zee X T.slots e a cs=some b->
  Zb4 X.E T.enc.slots e.ti a (TV.encs cs)=some (TV.encs b)/\∀d∈b,d.inv T.objs
 | [],cs,b,hi,h=>by simp only[Zee,ZnO]at h;subst h;exact⟨rfl,hi⟩
 |(j,x)::r,cs,b,hi,h=>by simp only[Zee]at h;split at h;rotate_left;simp at h;rename_i n t p;split at h;rotate_left;simp at h;rename_i s d m l;split at h;rotate_left;simp at h;rename_i q;have:=Zed o k i r _ b (fun c f=>by rcases ZeR f with g |g;(·simp_all);exact Zd5 (ZA i l) c g) h;grind[Zei,Zb4,Zap,Zs,Zb,Zen,ZfG]
theorem ZjU (g:UOk U) (b:TOk X) (l:T.Inv) {t:Nat} {a:Array (Nat×Operand)} (h:Zhs X T t a.toList k=some r):Snd X T i (.build t a) ty k r:=by unfold Zhs at h;split at h;rotate_left;simp at h;rename_i e d;split at h;rotate_left;simp at h;rename_i j;split at h;rotate_left;simp at h;rename_i cs f;obtain⟨q1,m⟩:=Zed g b l _ _ _ (fun c n=>Ze (b.inv t e d c n)) f;refine⟨_,[], ?_,by simp,ZL.pure (ZgI m),h⟩;rw[b.zero t e d]at q1;simp only[Zf,Zs d,b.agg t e d,j,if_true,q1,Zk.enc,ZeZ g,Zot]
theorem ZM {l:Lf U.car} {t:Ty} {x:El U.car t} (h:l.as t=some x):l=⟨t,x⟩:=by unfold Lf.as at h;split at h;rotate_left;simp at h;rename_i b;obtain⟨a,y⟩:=l;grind
theorem Zb6 (a:UOk U) (l:Lf U.car):(U.encL l).cells.length=U.tsize l.t:=by grind[Zd.encL,ZaH,ZbV]
theorem Zb3 (g:UOk U) (i:TOk X) (f:T.Inv) {t n:Nat} {e:TT U}:∀(b:List (Nat×Operand)) (es a:List (El U.car e.ty)),es.length=n->Za4 X T t e n b es=some a->
  ZH X.E T.enc.slots T.enc.objs t e.ti b (es.map (U.encE e.ty))=some (a.map (U.encE e.ty))/\a.length=n
 | [],es,a,hl,h=>by simp only[Za4,ZnO]at h;subst h;exact⟨rfl,hl⟩
 |(j,x)::r,es,a,hl,h=>by
  simp only[Za4]at h;split at h;rotate_left;simp at h;rename_i d o;split at h;rotate_left;simp at h;rename_i l c;split at h;rotate_left;simp at h;rename_i y k;split at h;rotate_left;simp at h;rename_i p;have:=Zb3 g i f r _ a (by simp_all) h;refine⟨?_,this.2⟩;have m:=ZM k;have q:=Zd2 g (ZA f o) c 7;grind[Zb6,ZH,depth,Zd.encL,Zb,List.map_set]
theorem Zbh {t:Ty} {xs:List (El U.car t)} {n:Nat} {fix:Bool} {frz:List Id} {wr:List (Id×TO U)} (h:xs.length=n) (b:∀id o,(id,o)∈wr->o= .gone):
  ZL T i {val:= .full (T.ep,i,0) n,new:=[(0,.arr t xs fix)],wr:=wr,frz:=frz}:=by
 refine⟨fun id o f n d=> ?_,fun _ q c=> ?_,fun _ o e=> ?_⟩
 ·grind[TO.len?]
 ·simp only[TV.fulls,ZnF]at c;subst c;refine⟨.arr t xs fix, ?_,fun g d=> ?_⟩
  ·simp_all[lkA,TS.objL,upd]
  ·cases d;omega
 ·rcases e with ⟨j,a⟩ |⟨id,a⟩
  ·simp only[ZnF,ZnP]at a;obtain⟨_,rfl⟩:=a;trivial
  ·rw[b id o a];trivial
theorem ZgO {o:TO U} {n:Nat} {wr:List (Id×TO U)} (d:∀m,o.len?=some m->m=n) (f:∀lk,o.inv lk) (a:∀id o,(id,o)∈wr->Zc0 (T.objs id) o/\∀lk,o.inv lk):
  ZL T i {val:= .full (T.ep,i,0) n,new:=[(0,o)],wr:=wr}:=by
 refine⟨fun id o c=>(a id o c).1,fun _ q b=> ?_,fun _ o' e=> ?_⟩
 ·simp only[TV.fulls,ZnF]at b;subst b;exact⟨o,by simp_all[lkA,TS.objL,upd],d⟩
 grind
theorem Zia (a:UOk U) {n i':Nat} {xs:List (U.car n)} {y:U.car n} (b:xs[i']? =some y):(xs.map (U.encE (.st n)))[i']? =some (.agg ((U.cells n y).map U.encL)):=by rw[ZnB,b];simp only[Zow,Zd.encE,a.enc_cells]
theorem ZeD (v:UOk U) (p:TOk X) (w:T.Inv) {t n:Nat} {f:Array (Nat×Operand)} (h:Zby X T i t n f.toList k=some r):Snd X T i (.buildSlice t n f) ty k r:=by unfold Zby at h;split at h;rotate_left;simp at h;rename_i B o;split at h;rotate_left;simp at h;rename_i u q;split at h;rotate_left;simp at h;rename_i e s;split at h;rotate_left;simp at h;rename_i y l;split at h;rotate_left;simp at h;rename_i z A;split at h;rotate_left;simp at h;rename_i es j;split at h;rotate_left;simp at h;rename_i m;obtain⟨q1,x⟩:=Zb3 v p w _ _ _ (by simp) j;refine⟨_,[], ?_,by simp,Zbh x (by simp),h⟩;have g:=p.zl u e y s l;rw[ZM A]at g;rw[List.map_replicate,show U.encE e.ty z=e.ti.zeroP from g]at q1;have:=Zs o;obtain⟨⟨d,a,b,c⟩,D,b',E,C⟩:=B;dsimp only at q;subst q;simp only[Zf,this,Zs s,q1,m.1,m.2.1,and_self,if_true,Zk.enc,TV.enc,Zn6,Zot,ZaB,ZI,Z5,Zb5,ZaZ,m.2.2]
theorem Zcv (g:UOk U) (f:TOk X) {t:Nat} {e:TT U} (b:X.get t=some e) {cs:List (TV U)} {d:TV U} (h:ZcY e cs=some d):ZfK e.ti (TV.encs cs)=some d.enc:=by
 unfold ZcY at h;unfold ZfK;rw[f.agg t e b];split at h
 ·grind[Zap,ZeZ,Zku]
 ·rename_i a;rw[if_neg a];cases cs with
  |nil=>grind
  |cons c r=>simp only[List.head?_cons,ZnO]at h;subst h;rfl
theorem Zav {lk:Id->Option (TO U)} {e:TT U} {cs:List (TV U)} {d:TV U} (a:∀c∈cs,c.inv lk) (h:ZcY e cs=some d):d.inv lk:=by
 grind[ZcY,ZgI,List.mem_of_mem_head?]
theorem Zkg (ti:TI) (a:List P):ZfK ti (a.map .p)=(Zdp ti a).map .p:=by
 unfold ZfK Zdp;split
 ·rw[Zor];split
  ·rw[<-ZoG,Zcu];rfl
  ·rfl
 ·cases a<;>rfl
theorem ZaP (a:UOk U) (c:TOk X) {t:Nat} {e:TT U} (b:X.get t=some e) {ls:List (Lf U.car)} {d:TV U} (h:ZcY e (ls.map lv)=some d):∃x,Zdp e.ti (ls.map U.encL)=some x/\d.enc= .p x:=by
 have:=Zcv a c b h;rw[ZbD,Zkg]at this;cases hq:Zdp e.ti (ls.map U.encL)with
 |none=>simp_all
 |some x=>simp_all
theorem ZfN {t:Ty} {xs:List (El U.car t)} {n:Nat} {x:El U.car t} (h:xs[n]? =some x):(xs.map (U.encE t)).getD n default=U.encE t x:=by simp_all
theorem Zk7 (w:UOk U) (f:TOk X) (L:T.Inv) {t:Nat} {x:Operand} (h:Zj8 X T i t x k=some r):Snd X T i (.load t x) ty k r:=by
 unfold Zj8 at h;split at h
 ·rename_i e cs a s;split at h;rotate_left;simp at h;rename_i d b;obtain⟨H,v,A⟩:=ZaP w f a b;refine⟨_,[], ?_,by simp,ZL.pure (Zav (fun c p=> ?_) b),h⟩
  ·simp only[Zf,Zs a,Zb f s,TV.enc,v,Zk.enc,A,Zot]
  ·obtain⟨l,_,rfl⟩:=Zod.1 p;exact Zah _ _
 ·rename_i e id i' j a s;split at h
  ·rename_i cs q;split at h;rotate_left;simp at h;rename_i M;subst M;split at h;rotate_left;simp at h;rename_i d b;have:=Zcv w f a b;rw[ZbE]at this;refine⟨_,[], ?_,by simp,ZL.pure (Zav (fun c p=>L.objs id _ q c (List.mem_of_mem_drop p)) b),h⟩;simp only[Zf,Zs a,Zb f s,TV.enc,Zc q,ZaB,ZI,Z5,Zb5,ZaZ,if_true,this,Zk.enc,Zot]
  ·rename_i u xs fix q;obtain⟨y,F,h⟩:=bind_some h;split at h;rotate_left;simp at h;rename_i d b;obtain⟨H,v,A⟩:=ZaP w f a b;refine⟨_,[], ?_,by simp,ZL.pure (Zav (fun c p=> ?_) b),h⟩
   ·rw[Zos,<-ZaH w]at v;simp only[Zf,Zs a,Zb f s,TV.enc,Zc q,ZaB,ZI,Z5,Zb5,ZaZ,ZfN F,v,Zk.enc,A,Zot]
   ·obtain⟨l,_,rfl⟩:=Zod.1 p;exact Zah _ _
  ·rename_i n c u xs lo J q;obtain⟨y,F,h⟩:=bind_some h;have G:=Zia w F;split at h
   ·obtain⟨g,h⟩:=Zi h;split at h;rotate_left;simp at h;rename_i d b;obtain⟨H,v,A⟩:=ZaP w f a b;rw[Zos]at v;refine⟨_,[], ?_,by simp,ZL.pure (Zav (fun c p=> ?_) b),h⟩
    ·simp only[Zf,Zs a,Zb f s,TV.enc,Zc q,Zfb,G,if_pos (of_decide_eq_true g),v,Zk.enc,A,Zot]
    ·obtain⟨l,_,rfl⟩:=Zod.1 p;exact Zah _ _
   ·rename_i D;split at h;rotate_left;simp at h;rename_i I l C O;split at h;rotate_left;simp at h;rename_i B;obtain⟨rfl,rfl,N⟩:=B;obtain⟨g,h⟩:=Zi h;have g:=of_decide_eq_true g;refine⟨_,[], ?_,by simp,ZgO (o:= .arr I l false) (fun m z=>by simpa[TO.len?]using z.symm) (fun _=>trivial) (fun K o z=> ?_),h⟩
    ·have E:e.ti.isAgg=false:=by rw[f.agg t e a];simpa using D
     simp only[Zf,Zs a,Zb f s,TV.enc,Zc q,Zfb,G,if_neg (Nat.not_le.2 g),N,E,Zk.enc,Zot,Zn6,ZI];rw[ZnB,C];simp only[Zow,Zd.encL,Zd.encE,and_self,if_true,Zor]
    ·simp only[ZnF,ZnP]at z;obtain⟨rfl,rfl⟩:=z;exact⟨fun m z=>⟨_,q,z⟩,fun _=>trivial⟩
  ·simp at h
 ·rename_i e id a s;split at h;rotate_left;simp at h;rename_i p;refine⟨_,[], ?_,by simp,ZL.pure (Ze rfl),h⟩;simp only[Zf,Zs a,Zb f s,TV.enc,Option.map_none,p,and_self,if_true,Zk.enc,Zot]
 ·simp at h
theorem Zj4 {e x:P} {sz:Nat} (h:x.cells.length=sz):e.put sz 0 x=x:=by simp[P.put,h]
theorem ZjO (f:UOk U) (v:TOk X) (H:T.Inv) {t:Nat} {a x:Operand} (h:Zhm X T i t a x k=some r):Snd X T i (.store t a x) ty k r:=by
 unfold Zhm at h;split at h;rotate_left;simp at h;rename_i e id i' j d J V B;split at h
 ·rename_i cs w;split at h;rotate_left;simp at h;rename_i q;obtain⟨rfl,A,I,h3⟩:=q;refine⟨_,[], ?_,by simp, ?_,h⟩
  ·simp only[Zf,Zs J,Zb v V,Zb v B,TV.enc,Zc w,ZaB,ZI,Z5,Zb5,ZaZ,<-Zen f,Zap,A,ZfG h3,true_and,and_true,Zk.enc,Zbt,Zn6,Zot,Zei,ZdF];simp_all
  ·refine ZgN (k0:=0) H (Zd5 (ZA H B)) rfl (fun E o b=> ?_) (fun j' o b=> .inr b) (fun _ _ b=>b) (fun j' o b _ _=>(Zac _ _ _ _ b).2);simp only[ZnF,ZnP]at b;obtain⟨rfl,rfl⟩:=b;refine⟨_,rfl,fun d' O=> ?_⟩;rcases ZeR O with b |b
   ·exact .inr (H.objs _ _ w d' b)
   simp_all
 ·rename_i u xs w;split at h;rotate_left;simp at h;rename_i l hl;split at h;rotate_left;simp at h;rename_i q;have ht:=Zd2 f (ZA H B) hl 7;have K:=Zb6 f l;have p:∀y:El U.car u,U.encE u y=((xs.map (U.encE u)).getD i' default).put (U.tsize u) j (U.encL l)->ZL T i {val:=TV.undef,wr:=[(id,.arr u (xs.set i' y) false)],frz:=d.enc.ids T.enc.objs depth}:=fun y _=>
   ⟨fun E o b n' ac=>by
    grind[TO.len?],fun _=>Ze rfl,fun _ o b=>by
    rcases b with ⟨_,b⟩ |⟨_,b⟩
    ·simp_all
    ·simp only[ZnF,ZnP]at b;obtain⟨_,rfl⟩:=b;trivial⟩
  have g:∀y:El U.car u,U.encE u y=((xs.map (U.encE u)).getD i' default).put (U.tsize u) j (U.encL l)->Zf X.E T.ep i (.store t a x) ty T.enc.slots T.enc.objs=some (({val:=TV.undef,wr:=[(id,.arr u (xs.set i' y) false)],frz:=d.enc.ids T.enc.objs depth}:Zk U).enc []):=fun y s=>by simp only[Zf,Zs J,Zb v V,Zb v B,TV.enc,Zc w,ZaB,ZI,Z5,Zb5,ZaZ,depth,ht,K,q.1,q.2.1,q.2.2,and_self,if_true,Zk.enc,Zot,Zn6,List.map_set,s]
  split at h
  ·rename_i hw;obtain⟨rfl,hs⟩:=hw;split at h;rotate_left;simp at h;rename_i y s;have S:=ZM s;have:U.encE u y=((xs.map (U.encE u)).getD i' default).put (U.tsize u) 0 (U.encL l):=by rw[Zj4 (by omega),S];rfl
   exact⟨_,[],g y this,by simp,p y this,h⟩
  ·rename_i hw;obtain⟨z,M,h⟩:=bind_some h;split at h;rotate_left;simp at h;rename_i y s;have:U.encE u y=((xs.map (U.encE u)).getD i' default).put (U.tsize u) j (U.encL l):=by
    rw[ZfN M];have Q:=ZaO f s;have N:=ZaH f u y;rw[Q,ZcQ,<-ZaH f,<-ZaH f]at N;unfold P.put;rw[if_neg (by omega)];cases u with
    |st n=>
     simp only[Zd.encE,f.enc_cells,P.cells]at N|-
     rw[N];rfl
    |_=>
     exfalso;have:U.tsize l.t=1/\j=0:=by have A:=q.1;have I:=q.2.1;have h3:=q.2.2;simp only[Zd.tsize]at I;constructor<;>omega
     exact hw ⟨this.2,this.1⟩
   exact⟨_,[],g y this,by simp,p y this,h⟩
 ·rename_i n c u xs lo C w;split at h;rotate_left;simp at h;rename_i G m;split at h;rotate_left;simp at h;rename_i Z l F;split at h;rotate_left;simp at h;rename_i D;obtain⟨rfl,rfl,hs,ab⟩:=D;obtain⟨aa,h⟩:=Zi h;obtain⟨y,s,h⟩:=bind_some h;split at h;rotate_left;simp at h;rename_i z M;have hg:=Zia f s;obtain⟨o,A,I⟩:=ZA H B (G,m) (by simp[TV.fulls]);dsimp only at A;rw[F,ZnO]at A;have b:Zoq l=m:=I _ (by rw[<-A];rfl);have L:e.ti.isAgg=false:=by rw[v.agg t e J];simp_all
  have Y:G≠id:=fun e=>by grind
  have W:U.encE (.st n) z= .agg (List.set ((U.cells n y).map U.encL) j (.sl (U.tsize Z) (l.map (U.encE Z)))):=by rw[Zd.encE,f.enc_cells,f.of_cells _ _ _ M,List.map_set];rfl
  have R:(C=some i'/\i' < lo\/C=none/\lo=i'):=by
   grind
  refine⟨_,[], ?_,by simp,⟨fun E o b=> ?_,fun _=>Ze rfl,fun _ o b=> ?_⟩,h⟩
  ·simp only[Zf,Zs J,Zb v V,Zb v B,TV.enc,Zc w,Zc F,Zfb,ZI,hg,Zor,b,hs,L,Y,ne_eq,not_false_eq_true,and_self,and_true,R,if_true,Zk.enc,Zot,Zn6,List.map_set,W,ZaZ]
  ·simp only[ZnD,ZnP,List.not_mem_nil,or_false]at b;rcases b with ⟨rfl,rfl⟩ |⟨rfl,rfl⟩
   ·exact fun k hk=>⟨_,w,by grind[TO.len?]⟩
   ·exact fun k hk=>by grind[TO.len?]
  ·rcases b with ⟨_,b⟩ |⟨_,b⟩
   ·simp_all
   ·simp only[ZnD,ZnP,List.not_mem_nil,or_false]at b;rcases b with ⟨_,rfl⟩ |⟨_,rfl⟩<;>trivial
 simp_all
theorem Zgd (e:TOk X) (d:T.Inv) {x:Operand} (h:ZcV X T x k=some r):Snd X T i (.nilCheck x) ty k r:=by
 unfold ZcV at h;split at h
 ·rename_i cs c;exact⟨_,[],by grind[Zf,TV.enc,Zk.enc,Zb],by simp,ZL.pure (Ze rfl),h⟩
 ·rename_i id a b c;exact⟨_,[],by grind[Zf,TV.enc,Zk.enc,Zb],by simp,ZL.pure (Ze rfl),h⟩
 ·rename_i f a b c;refine⟨_,[], ?_,by simp,ZL.pure (ZA d c),h⟩;grind[Zf,TV.enc,Zk.enc,Zb,Zkr]
 ·rename_i y id c;exact⟨_,[],by grind[Zf,TV.enc,Zk.enc,Zb],by simp,ZL.pure (Ze rfl),h⟩
 simp_all
end
end Eng
namespace Eng
open Go
section
variable {U:Zd} {R:Type} {X:ZG U} {T:TS U} {i ty:Nat} {k:Zk U->Option R} {r:R}
theorem Zw {b:Bool} (h:b=true):∀q∈[b],q=true:=fun q a=>by simp_all
theorem ZcB {p:P} {d:TV U} (h:ZmV p=some d):d.enc= .p p/\d.fulls=[]:=by unfold ZmV at h;split at h<;>first |(cases h;exact⟨rfl,rfl⟩) |grind
theorem Zd3 {d:TV U} {p:P} (h:Zi4 d=some p):d.enc= .p p/\(∀cs,p≠ .agg cs):=by unfold Zi4 at h;split at h<;>first |(cases h;exact⟨rfl,by simp⟩) |grind
theorem ZiG (c:UOk U) {d:TV U} {b:List P} (h:aggP d=some b):d.enc= .p (.agg b):=by
 unfold aggP at h;split at h
 ·cases h;simp only[TV.enc,Zd.encE,c.enc_cells]
 ·split at h;rotate_left;simp at h;rename_i ls a;cases h;rw[ZcL a,TV.enc,ZbD,Zcu]
 simp_all
theorem Zmp (L:UOk U) (f:TOk X) (hT:T.Inv) {b:BinOp} {t V:Nat} {x y:Operand} (h:Zmz X T b t x y k=some r):Snd X T i (.binOp b t x y V) ty k r:=by
 unfold Zmz at h;split at h
 ·rename_i o;unfold opNil at h;split at h
  ·rename_i e z j l;have N:∀td,td=TD.func->Zdi td (.const .nilFunc) (.p (Zkw z))=some (.p (.bool (Option.isNone z))):=fun td a=>by subst a;cases z<;>rfl
   split at h
   ·rename_i a;refine⟨_,[], ?_,by simp,ZL.pure (Zah _ _),h⟩;simp only[Zf,o,if_true,Zt j,Zb f l,TV.enc,Zd.encE,N _ a,Zk.enc,Zot]
   ·rename_i a;refine⟨_,[], ?_,by simp,ZL.pure (Zah _ _),h⟩;simp only[Zf,o,if_true,Zt j,Zb f l,TV.enc,Zd.encE,N _ a,D.notb,Zk.enc,Zot]
   ·simp at h
  ·rename_i e d A j l;split at h;rotate_left;simp at h;rename_i z g;split at h
   ·refine⟨_,[], ?_,by simp,ZL.pure (Zah _ _),h⟩;simp only[Zf,o,if_true,Zt j,Zb f l,g,Zk.enc,TV.enc,Zd.encE,Zot]
   ·refine⟨_,[], ?_,by simp,ZL.pure (Zah _ _),h⟩;simp only[Zf,o,if_true,Zt j,Zb f l,g,D.notb,Zk.enc,TV.enc,Zd.encE,Zot]
   ·simp at h
  ·simp at h
 ·rename_i o;have m:Operand.isNil y=false:=by simpa using o
  split at h
  ·rename_i u v F C;split at h;rotate_left;simp at h;rename_i e z j g;split at h;rotate_left;simp at h;rename_i d l J;obtain⟨q1,w⟩:=ZcB J;refine⟨_,[], ?_,by simp,ZL.pure (Ze w),h⟩;simp only[Zf,m,Znv,if_false,Zb f F,Zb f C,TV.enc,Zd.encE,Zt j,l,g,Zk.enc,q1,Zot]
  ·rename_i d d' A F C;split at h
   ·rename_i us vs H G;split at h;rotate_left;simp at h;rename_i z g;split at h;rotate_left;simp at h;rename_i S n;obtain⟨q1,w⟩:=ZcB n;refine⟨_,[], ?_,by simp,ZL.pure (Ze w),h⟩;simp only[Zf,m,Znv,if_false,Zb f F,Zb f C,ZiG L H,ZiG L G,g,Zk.enc,q1,Zot]
   ·split at h;rotate_left;simp at h;rename_i p q B s;split at h;rotate_left;simp at h;rename_i z c g;split at h;rotate_left;simp at h;rename_i S n;obtain⟨q1,w⟩:=ZcB n;obtain⟨W,h⟩:=Zel h;refine⟨_,c, ?_,W,ZL.pure (Ze w),h⟩;obtain⟨O,R⟩:=Zd3 B;obtain⟨Y,e4⟩:=Zd3 s;simp only[Zf,m,Znv,if_false,Zb f F,Zb f C,O,Y];split
    ·rename_i M K E I;cases E;cases I;exfalso;unfold Zi4 at B s;split at B<;>simp at B;split at s<;>simp at s;subst B s;exact A _ _ rfl rfl
    ·rename_i M K E I;cases E;exact absurd rfl (R _)
    ·rename_i M K E I Z P;cases Z;cases P;simp only[g,Zk.enc,q1,Zot]
    ·rename_i h7 h8 Q;exact(Q p q rfl rfl).elim
  ·simp at h
theorem snd_un (g:TOk X) (m:T.Inv) {u:UnOp} {t:Nat} {x:Operand} (h:opUn X T u x k=some r):Snd X T i (.unOp u t x) ty k r:=by unfold opUn at h;split at h;rotate_left;simp at h;rename_i d j;split at h;rotate_left;simp at h;rename_i v f;split at h;rotate_left;simp at h;rename_i z c n;split at h;rotate_left;simp at h;rename_i l a;obtain⟨q1,b⟩:=ZcB a;obtain⟨e,h⟩:=Zel h;refine⟨_,c, ?_,e,ZL.pure (Ze b),h⟩;simp_all[Zf,Zk.enc,Zb,Zd3]
theorem Zhf (m:TOk X) (z:T.Inv) {s t:Nat} {x:Operand} (h:ZdS X T i s t x k=some r):Snd X T i (.convert s t x) ty k r:=by
 unfold ZdS at h;split at h;rotate_left;simp at h;rename_i es E d b a g;split at h
 ·rename_i k1 D B n c e;refine⟨_,[], ?_,by simp,ZL.pure (Zah _ _),h⟩;simp only[Zf,ZaD,Zt b,Zt a,Zb m g,c,e,TV.enc,Zd.encE,Zk.enc,Zot]
 ·rename_i j c e;refine⟨_,[], ?_,by simp,ZL.pure (Zah _ _),h⟩;simp only[Zf,ZaD,Zt b,Zt a,Zb m g,c,e,TV.enc,Zd.encE,Zk.enc,Zot]
 ·rename_i u j c e;split at h;rotate_left;simp at h;rename_i y f;split at h;rotate_left;simp at h;rename_i q;obtain⟨A,h⟩:=Zi h;refine⟨_,[decide (j.length<=281474976710656)], ?_,Zw A,Zbh (by simp) (by simp),h⟩;simp only[Zf,ZaD,Zt b,Zt a,Zt f,Zb m g,c,e,q,TV.enc,Zd.encE,Zk.enc,Zot,Zn6,ZI,Zd.tsize,ZaR,ZoB];rfl
 ·rename_i u C c e;split at h;rotate_left;simp at h;rename_i y l f w;split at h;rotate_left;simp at h;rename_i xs q p;have o:=ZM p;refine⟨_,[true], ?_,by simp,ZL.pure (Zah _ _),h⟩;have v:=ZcZ (ZA z g) w 1;rw[o]at v;simp only[Zf,ZaD,Zt b,Zt a,Zt f,Zb m g,c,e,q,v,Zd.encL,Zd.encE,Zk.enc,TV.enc,Zot,ZoB];have:(List.map (fun x=>P.int IntKind.u8 x) xs).all P.isU8=true:=by simp[P.isU8]
  rw[this];rfl
 ·simp at h
theorem ZhD (b:TOk X):∀{xs:List Operand} {a:List (TV U)},Zl9 X T.slots xs=some a->xs.map (ev X.E T.enc.slots 0)=TV.encs a
 | [],a,h=>by simp[Zl9,Zj]at h;subst h;rfl
 |x::xs,a,h=>by simp only[Zl9,Zj]at h;split at h;rotate_left;simp at h;rename_i d c e f;cases h;simp only[Zn6,TV.encs,Zb b e,ZhD b f]
theorem ZfQ (e:T.Inv):∀{xs:List Operand} {b:List (TV U)},Zl9 X T.slots xs=some b->∀d∈b,d.inv T.objs
 | [],b,h=>by grind[Zl9,Zj]
 |x::xs,b,h=>by
  simp only[Zl9,Zj]at h;split at h;rotate_left;simp at h;rename_i d f i g;cases h;intro a c;rcases ZnD.1 c with rfl |c
  ·grind[ZA]
  ·exact ZfQ e g a c
theorem Zge (j:TOk X) (l:T.Inv) {f:Nat} {a b:Array Operand} (h:ZcW X T f a.toList b.toList k=some r):Snd X T i (.makeFunc (.func f) a b) ty k r:=by
 unfold ZcW at h;split at h;rotate_left;simp at h;rename_i n bs g m;refine⟨_,[], ?_,by simp,ZL.pure ?_,h⟩
 ·simp only[Zf,ZhD j g,ZhD j m,Zk.enc,TV.enc,Zot];rfl
 ·intro q c;simp only[TV.fulls,Zn7]at c;rcases c with c |c
  ·obtain⟨d,e,c⟩:=Zq.1 c;exact ZfQ l g d e q c
  ·obtain⟨d,e,c⟩:=Zq.1 c;exact ZfQ l m d e q c
theorem ZdA {d:TV U} {o:TO U} {frz:List Id} (a:d.fulls=[]) (c:∀lk,o.inv lk):ZL T i {val:=d,new:=[(0,o)],frz:=frz}:=
 ⟨by simp,fun _=>Ze a,fun _ o' b=>by
  simp_all⟩
theorem Zcj {d:TV U} {id:Id} {o:TO U} {frz:List Id} (b:d.fulls=[]) (f:Zc0 (T.objs id) o) (e:∀lk,o.inv lk):ZL T i {val:=d,wr:=[(id,o)],frz:=frz}:=
 ⟨fun c o' a=>by simp_all,fun _=>Ze b,fun _ o' a=>by
  simp_all⟩
theorem Zhd (b:TOk X) (g:T.Inv) {t:Nat} (h:ZdQ X T i t k=some r):Snd X T i (.makeMap t none) ty k r:=by unfold ZdQ at h;split at h;rotate_left;simp at h;rename_i e f;split at h;rotate_left;simp at h;rename_i c d a;refine⟨_,[], ?_,by simp,ZdA rfl (fun _=>by trivial),h⟩;simp only[Zf,b.key t e c d f a,Zk.enc,TV.enc,Zn6,Zot,Z5,TS.enc]
theorem Zfu (g:TOk X) (J:T.Inv) {t:Nat} {l c:Operand} (h:Zcc X T i t l c k=some r):Snd X T i (.makeSlice t l c) ty k r:=by
 unfold Zcc at h;split at h;rotate_left;simp at h;rename_i e k1 a L b E D F;have s:∃u,X.get u=some e:=by grind[ZG.elem]
 obtain⟨u,C⟩:=s;have f:X.E.owns.find? (·.1 == t)=(X.owns.find? (·.t == t)).map fun q=>(q.t,q.c,U.tsize q.u):=by show (X.owns.map fun q=>(q.t,q.c,U.tsize q.u)).find? (·.1 == t)=_;rw[List.find?_map];rfl
 split at h
 ·rename_i q v;split at h;rotate_left;simp at h;rename_i n z p;split at h;rotate_left;simp at h;rename_i B;obtain⟨rfl,K,y,H⟩:=B;obtain⟨d,h⟩:=Zi h;have j:=g.zl u e _ C p;have x:e.ti.isAgg=true:=by rw[g.agg u e C];omega
  have A:q.c < e.ti.size:=by rw[<-y];exact(g.own q (List.mem_of_find?_eq_some v)).1
  have w:e.ti.zero[q.c]? =some (.nils (U.tsize q.u)):=by grind[zNil]
  refine⟨_,[_], ?_,Zw d,ZgO (o:= .own (.st q.n) q.c q.u (List.replicate a.toNat z) a.toNat none) (fun m M=>by grind[TO.len?]) (fun _=>trivial) (by simp),h⟩;simp only[Zf,Zax E,Zb g D,Zb g F,TV.enc,Zd.encE,Zk.enc,Zn6,Zot,Zfb,List.map_replicate,f,v,Zow,x,A,and_self,if_true,w];grind[Zd.tsize,Zd.encL,Zd.encE]
 rename_i v;split at h;rotate_left;simp at h;rename_i G p;split at h;rotate_left;simp at h;rename_i z I;split at h;rotate_left;simp at h;rename_i B;obtain⟨d,h⟩:=Zi h;refine⟨_,[_], ?_,Zw d,Zbh (by simp) (by simp),h⟩;have j:=g.zl u e G C p;rw[ZM I]at j;simp only[Zf,Zax E,Zb g D,Zb g F,TV.enc,Zd.encE,Zk.enc,Zn6,Zot,ZI,List.map_replicate,B,f,v,Option.map_none];rw[show U.encE e.ty z=e.ti.zeroP from j]
theorem ZbT (b:TOk X) {x:Option Operand} {a:Option Int} (h:intT X T.slots x=some a):Zb1 X.E T.enc.slots x=some a:=by
 unfold intT at h;split at h
 ·cases h;rfl
 ·rename_i c;split at h;all_goals simp_all[Zb1,TV.enc,Zd.encE,Zb]
theorem ZhK {a β:Type} (f:a->β) (xs:List a) (lo hi:Option Int):(cut xs lo hi).map f=cut (xs.map f) lo hi:=by unfold cut;split<;>simp
theorem ZkE {b:Type} (xs:List b) (lo hi:Option Int) (n:Nat) (a:n=xs.length):cut xs lo hi=(xs.take (hi.getD n).toNat).drop (lo.getD 0).toNat:=by subst a;unfold cut;split<;>simp
theorem Zbg (c:T.Inv) {t:Nat} {x:Operand} {id:Id} {n:Nat} (b:evT X T.slots t x=some (.full id n)) {u:Ty} {xs:List (El U.car u)} {fix:Bool} (d:T.objs id=some (.arr u xs fix)):n=xs.length:=by obtain⟨o,a,e⟩:=ZA c b (id,n) (by simp[TV.fulls]);dsimp only at a;rw[d,ZnO]at a;exact(e _ (by rw[<-a];rfl)).symm
theorem ZgL (e:T.Inv) {t:Nat} {x:Operand} {id:Id} {n:Nat} (d:evT X T.slots t x=some (.full id n)) {u v:Ty} {c:Nat} {xs:List (El U.car u)} {lo:Nat} {a:Option Nat} (f:T.objs id=some (.own u c v xs lo a)):n=xs.length:=by obtain⟨o,b,g⟩:=ZA e d (id,n) (by simp[TV.fulls]);dsimp only at b;rw[f,ZnO]at b;exact(g _ (by rw[<-b];rfl)).symm
theorem ZeS (w:T.Inv) {sz:Option Nat} {d:TV U} {lo hi mx:Option Int} (j:d.inv T.objs) (h:Zh4 T sz d lo hi mx k=some r):
  ∃e cs,ZaV T.enc.objs sz d.enc lo hi mx=some (e.enc cs)/\(∀q∈cs,q=true)/\ZL T i e/\k e=some r:=by
 unfold Zh4 at h;split at h
 ·rename_i s;split at h;rotate_left;simp at h;obtain⟨a,h⟩:=Zi h;refine⟨_,[_], ?_,Zw a,ZL.pure (Zah _ _),h⟩;grind[ZaV,TV.enc,Zd.encE,Zk.enc,Zcp,ZkE]
 ·rename_i sz t xs;split at h;rotate_left;simp at h;rename_i c;split at h
  ·obtain⟨a,h⟩:=Zi h;refine⟨_,[_], ?_,Zw a,ZL.pure (Zah _ _),h⟩;grind[ZaV,TV.enc,Zd.encE,Zk.enc,Zcp,ZhK,ZkE]
  ·rename_i m p;obtain⟨a,h⟩:=Zi h;refine⟨_,[_], ?_,Zw a,ZL.pure (Ze rfl),h⟩;grind[ZaV,TV.enc,Zd.encE,Zk.enc,ZhK,ZkE]
  simp_all
 ·rename_i sz id n;split at h;rotate_left;simp at h;rename_i t xs fix f;obtain⟨o,g,v⟩:=j (id,n) (by simp[TV.fulls]);dsimp only at g;have b:xs.length=n:=v _ (by rw[f,ZnO]at g;rw[<-g];rfl);split at h;rotate_left;simp at h;rename_i c;split at h
  ·obtain⟨a,h⟩:=Zi h;split at h
   ·refine⟨_,[_], ?_,Zw a,ZL.pure j,h⟩;simp only[ZaV,TV.enc,Zc f,ZI,c,if_true,Zk.enc,Zcp,Option.getD_none,Zot,b];simp
   ·refine⟨_,[_], ?_,Zw a,ZL.pure (Ze rfl),h⟩;simp only[ZaV,TV.enc,Zc f,ZI,c,if_true,Zk.enc,Zcp,Zot,b,Zok]
  ·rename_i m;split at h;rotate_left;simp at h;rename_i p;obtain⟨a,h⟩:=Zi h;refine⟨_,[_], ?_,Zw a,ZL.pure (Ze rfl),h⟩;simp only[ZaV,TV.enc,Zc f,ZI,c,if_true,Zk.enc,Zot,b,Zok,ZhK];congr 2;unfold cut;cases lo with
   |none=>simp
   |some l=>simp[List.drop_take]
 ·rename_i sz id u len;split at h;rotate_left;simp at h;rename_i t xs fix f;split at h;rotate_left;simp at h;rename_i c;split at h;rotate_left;simp at h;obtain⟨a,h⟩:=Zi h;refine⟨_,[_], ?_,Zw a,ZL.pure (Ze rfl),h⟩;simp only[ZaV,TV.enc,Zc f,ZI,c,if_true,Zk.enc,Zcp,Zot]
 ·rename_i sz t;split at h;rotate_left;simp at h;obtain⟨a,h⟩:=Zi h;refine⟨_,[_], ?_,Zw a,ZL.pure (Ze rfl),h⟩;simp only[ZaV,TV.enc,Zk.enc,Zot]
 simp_all
theorem ZjP (v:TOk X) (f:T.Inv) {t:Nat} {x:Operand} {lo hi mx:Option Operand} (h:Zhn X T t x lo hi mx k=some r):Snd X T i (.slice t x lo hi mx) ty k r:=by
 unfold Zhn at h;split at h;rotate_left;simp at h;rename_i e d a b c y m s z A;split at h
 ·rename_i n;obtain⟨e',cs,p,l,g,j⟩:=ZeS (i:=i) f (ZA f m) h;refine⟨e',cs, ?_,l,g,j⟩;grind[Zf,Zt,ZbT,Zb]
 ·rename_i u o;split at h;rotate_left;simp at h;rename_i w q;obtain⟨e',cs,p,l,g,j⟩:=ZeS (i:=i) f (ZA f m) h;refine⟨e',cs, ?_,l,g,j⟩;grind[Zf,Zt,Zs,ZbT,Zb]
 simp_all
theorem Zf8 {t:Nat} {e:TT U} {fs:List (Nat×Nat)} (f:X.get t=some e) (g:e.ti.d= .struct fs):∃a b c,X.E.ty t=some ⟨.struct fs,a,b,c⟩:=by have:=Zs f;obtain⟨⟨d,a,b,c⟩,_,_,_,_⟩:=e;simp_all
theorem Zfw (p:TOk X) (u:T.Inv) {t f:Nat} {x:Operand} (h:Zce X T t x f k=some r):Snd X T i (.fieldAddr t x f) ty k r:=by
 unfold Zce at h;split at h;rotate_left;simp at h;rename_i e d m q;split at h;rotate_left;simp at h;rename_i fs g;obtain⟨a,b,c,l⟩:=Zf8 m g;split at h;rotate_left;simp at h;rename_i j o v;split at h;rotate_left;simp at h;rename_i s n;split at h
 ·grind
 ·rename_i w;split at h
  ·refine⟨_,[], ?_,by simp,ZL.pure (Ze rfl),h⟩;simp_all[Zf,TV.enc,Zk.enc,Zs,Zb]
  ·refine⟨_,[], ?_,by simp,ZL.pure (Ze rfl),h⟩;simp_all[Zf,TV.enc,Zk.enc,Zs,Zb]
  ·split at h
   ·refine⟨_,[], ?_,by simp,ZL.pure (Ze rfl),h⟩;simp_all[Zf,TV.enc,Zk.enc,Zs,Zb]
   ·refine⟨_,[], ?_,by simp,ZL.pure (Ze rfl),h⟩;simp_all[Zf,TV.enc,Zk.enc,Zs,Zb]
   simp_all
  simp_all
theorem ZdW (a:List D):(∃b,a=b.map .p/\D.mkAgg a= .p (.agg b))\/D.mkAgg a= .agg a:=by
 grind[D.mkAgg,Zx]
theorem ZjS (v:UOk U) (q:TOk X) (C:T.Inv) {t f:Nat} {x:Operand} (h:Zhq X T t x f k=some r):Snd X T i (.field t x f) ty k r:=by
 unfold Zhq at h;split at h;rotate_left;simp at h;rename_i e d B u;split at h;rotate_left;simp at h;rename_i fs s;obtain⟨a,b,c,z⟩:=Zf8 B s;split at h;rotate_left;simp at h;rename_i E K F;split at h;rotate_left;simp at h;rename_i H g;split at h
 ·grind
 ·rename_i G;split at h
  ·rename_i n I;split at h;rotate_left;simp at h;rename_i y m;obtain⟨p,j,D⟩:=ZaP v q g m;refine⟨_,[], ?_,by simp,ZL.pure (Zav (fun c w=> ?_) m),h⟩
   ·rw[Zos]at j;simp only[Zf,z,F,Zs g,G,if_false,Zb q u,TV.enc,Zd.encE,v.enc_cells,j,Zow,Zk.enc,D,Zot]
   ·obtain⟨l,_,rfl⟩:=Zod.1 w;exact Zah _ _
  ·rename_i cs;split at h;rotate_left;simp at h;rename_i y m;have j:=Zcv v q g m;refine⟨_,[], ?_,by simp,ZL.pure (Zav (fun c w=>ZhU (ZA C u) c (List.mem_of_mem_drop w)) m),h⟩;rw[ZbE]at j;have o:=Zb q u;rw[TV.enc]at o;rcases ZdW (TV.encs cs)with ⟨J,q1,A⟩ |A
   ·rw[A]at o;rw[q1,<-Zos,Zkg]at j;simp_all[Zf,Zk.enc,Zs]
   grind[Zf,Zk.enc,Zs]
  simp_all
end
end Eng

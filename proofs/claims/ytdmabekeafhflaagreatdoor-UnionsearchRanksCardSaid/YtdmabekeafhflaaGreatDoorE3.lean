/- The engine, text 3: an abstract evaluator of Go code over pure data, proved sound. -/
import Derived.Test.YtdmabekeafhflaaGreatDoorE2
import Derived.ChangeSame
set_option linter.unusedVariables false
set_option linter.unusedSimpArgs false
set_option linter.unusedSectionVars false
open Array renaming getElem?_eq_some_iff→Znq, getElem?_toList→ZnS
open Bool renaming and_eq_false_iff→Zol, and_eq_true→Znu, or_eq_false_iff→Zom
open List renaming all_eq_true→ZnV, flatMap_cons→Zon, getD_eq_getElem?_getD→Zoo, getElem?_append_left→Zn0, getElem?_cons_succ→Zop, getElem?_cons_zero→Zny, getElem?_eq_getElem→Zn2, getElem?_eq_some_iff→ZnA, getElem?_map→ZnB, length→Zoq, length_map→Zor, map_cons→Zn6, map_drop→Zos, map_nil→Zot, mem_append→Zn7, mem_cons→ZnD, mem_cons_of_mem→Zoa, mem_cons_self→ZnE, mem_flatMap→Zob, mem_iff_getElem?→Zou, mem_map→Zod, mem_map_of_mem→Zov, mem_of_getElem?→Zoe, mem_singleton→ZnF
open Nat renaming add_assoc→ZnH, le_refl→ZnJ, zero_add→Zok
open Option renaming map_eq_some_iff→ZnM, map_some→Zow, some.inj→ZnN, some.injEq→ZnO
open Prod renaming mk.injEq→ZnP
namespace Eng
open Go
theorem Zex:∀(n:Nat) (l:List Arg) (k:Nat) (d:D),(k,d)∈Zc9 n l→∃j x,l[j]? =some x∧k=n+j∧d=x.d (n+j)
 |n,[],k,d,h=>by grind[Zc9]
 |n,x::l,k,d,h=>by
  rcases ZnD.1 h with h |h
  ·simp only[ZnP]at h;obtain⟨rfl,rfl⟩:=h;grind
  ·obtain⟨j,x',q1,q2,q3⟩:=Zex (n+1) l k d h;exact⟨j+1,x',by simp_all,by omega,by grind⟩
theorem Zg1:∀(n:Nat) (l:List Arg) (id:Id) (o:Obj),(id,o)∈Zcl n l→∃j x,l[j]? =some x∧id=(0,n+j,0)∧x.o=some o
 |n,[],id,o,h=>by grind[Zcl]
 |n,x::l,id,o,h=>by
  have hrec:(id,o)∈Zcl (n+1) l→∃j x',(x::l)[j]? =some x'∧id=(0,n+j,0)∧x'.o=some o:=fun h=>by obtain⟨j,x',q1,q2,q3⟩:=Zg1 (n+1) l id o h;exact⟨j+1,x',by simp_all,by grind,q3⟩
  unfold Zcl at h;split at h
  ·rename_i u hu;rcases ZnD.1 h with h |h
   ·simp only[ZnP]at h;obtain⟨rfl,rfl⟩:=h;exact⟨0,x,rfl,rfl,hu⟩
   simp_all
  simp_all
theorem ZcH:∀(n:Nat) (l:List AE) (j:Nat) (x:AE) (id:Id),l[j]? =some x→x.id=some id→((0,n+j,0),id)∈Zaa n l
 |n,[],j,x,id,h,_=>by grind
 |n,y::l,j,x,id,h,hid=>by
  cases j with
  |zero=>
   grind[Zaa]
  |succ j=>
   simp only[Zop]at h;have:=ZcH (n+1) l j x id h hid;grind[Zaa]
theorem ZbI:∀(n:Nat) (l:List AE) (a b:Id),(a,b)∈Zaa n l→∃j x,l[j]? =some x∧a=(0,n+j,0)∧x.id=some b
 |n,[],a,b,h=>by grind[Zaa]
 |n,x::l,a,b,h=>by
  have hrec:(a,b)∈Zaa (n+1) l→∃j x',(x::l)[j]? =some x'∧a=(0,n+j,0)∧x'.id=some b:=fun h=>by obtain⟨j,x',q1,q2,q3⟩:=ZbI (n+1) l a b h;exact⟨j+1,x',by simp_all,by grind,q3⟩
  unfold Zaa at h;split at h
  ·rename_i u hu;rcases ZnD.1 h with h |h
   ·simp only[ZnP]at h;obtain⟨rfl,rfl⟩:=h;exact⟨0,x,rfl,rfl,hu⟩
   simp_all
  simp_all
theorem Za6 {outs:List (Nat×Arg)}:∀(n:Nat) (l:List AE) (id:Id) (o:Obj),(id,o)∈Zbr outs n l→∃j x,l[j]? =some x∧x.id=some id∧o=Zds outs (n+j)
 |n,[],id,o,h=>by grind[Zbr]
 |n,x::l,id,o,h=>by
  have hrec:(id,o)∈Zbr outs (n+1) l→∃j x',(x::l)[j]? =some x'∧x'.id=some id∧o=Zds outs (n+j):=fun h=>by obtain⟨j,x',q1,q2,q3⟩:=Za6 (n+1) l id o h;exact⟨j+1,x',by simp_all,q2,by grind⟩
  unfold Zbr at h;split at h
  ·rename_i u hu;rcases ZnD.1 h with h |h
   ·simp only[ZnP]at h;obtain⟨rfl,rfl⟩:=h;exact⟨0,x,rfl,hu,rfl⟩
   simp_all
  simp_all
theorem ZdC {outs:List (Nat×Arg)}:∀(n:Nat) (l:List AE) (j:Nat) (x:AE) (id:Id),l[j]? =some x→x.id=some id→(id,Zds outs (n+j))∈Zbr outs n l
 |n,[],j,x,id,h,_=>by grind
 |n,y::l,j,x,id,h,hid=>by
  cases j with
  |zero=>
   grind[Zbr]
  |succ j=>
   simp only[Zop]at h;have:=ZdC (outs:=outs) (n+1) l j x id h hid;grind[Zbr]
theorem ZeT:∀(n:Nat) (l:List RV) (j:Nat) (o:Obj),(j,o)∈Za1 n l→∃m x,l[m]? =some x∧j=n+m∧x.o=some o
 |n,[],j,o,h=>by grind[Za1]
 |n,x::l,j,o,h=>by
  have hrec:(j,o)∈Za1 (n+1) l→∃m x',(x::l)[m]? =some x'∧j=n+m∧x'.o=some o:=fun h=>by obtain⟨m,x',q1,q2,q3⟩:=ZeT (n+1) l j o h;exact⟨m+1,x',by simp_all,by omega,q3⟩
  unfold Za1 at h;split at h
  ·rename_i u hu;rcases ZnD.1 h with h |h
   ·simp only[ZnP]at h;obtain⟨rfl,rfl⟩:=h;grind
   simp_all
  simp_all
theorem ZjY:∀(n:Nat) (l:List RV) (j:Nat) (x:RV) (o:Obj),l[j]? =some x→x.o=some o→Zg (Zh7 n l) (1,n+j,0)=some o
 |n,[],j,x,o,h,_=>by grind
 |n,y::l,j,x,o,h,ho=>by
  cases j with
  |zero=>
   grind[Zh7,Zg]
  |succ j=>
   simp only[Zop]at h;have:=ZjY (n+1) l j x o h ho;grind[Zh7,Zg]
theorem Zgj {ep i:Nat} {as:List AE}:∀(n:Nat) (l:List RV) (ds:List D),Zhj ep i as n l=some ds→ds.length=l.length∧∀(j:Nat) x d,l[j]? =some x→ds[j]? =some d→x.at ep i as (n+j)=some d
 |n,[],ds,h=>by grind[Zhj]
 |n,x::l,ds,h=>by
  unfold Zhj at h;split at h;rotate_left;simp at h;rename_i d ds' hd hds;cases h;obtain⟨q1,q2⟩:=Zgj (n+1) l ds' hds;grind
section
variable {C:Ctx} {X:Nat→Prop} {ρ:Id→Option Lay} {S:Nat→Prop} {st:St} {a:Act} {w:World}
theorem Zjo (h:Rep C X ρ S st a.tmps w) {c:Call} {pts:List Nat} {f:Operand} (hcal:c.callee= .value f) {g:Nat} {first caps:List D} (hc:Zck (ev C.E st.slots 0 f)=some (g,first,caps))
  (hl:ZE f=true) (hal:∀x∈c.args.toList,ZE x=true):∃vals:Array Value,vals.size=(first++ZY C.E st.slots c.args.toList pts++caps).length∧
   (∀(j:Nat) v d,vals[j]? =some v→(first++ZY C.E st.slots c.args.toList pts++caps)[j]? =some d→RelD w S ρ v d)∧
   ∀(ty:TypeId),((do let d ←resolve a.eval c ty;invoke d.target d.args:Sem Next)).run C.E.prog w=(callFunc g vals).run C.E.prog w:=by
 have hf:=Zm h 0 hl;have hfn:∃fs cs:Array Value,a.eval f= .func (.func g) fs cs∧fs.size=first.length∧cs.size=caps.length∧(∀(j:Nat) v d,fs[j]? =some v→first[j]? =some d→RelD w S ρ v d)∧∀(j:Nat) v d,cs[j]? =some v→caps[j]? =some d→RelD w S ρ v d:=by
  unfold Zck at hc;split at hc
  ·rename_i g' x y hev;simp only[ZnO,ZnP]at hc;obtain⟨rfl,rfl,rfl⟩:=hc;rw[hev]at hf;generalize a.eval f=vf at hf;have hf:=hf.of_p;cases hf with
   |fn _ fs cs _ _ h1 h2 h3 h4=>
    refine⟨fs,cs,rfl,by simp_all,by simp_all,fun j v d hv hd=> ?_,fun j v d hv hd=> ?_⟩
    ·rw[ZnB,ZnM]at hd;obtain⟨x,hx,rfl⟩:=hd;exact .p _ _ (h3 j v x hv hx)
    ·rw[ZnB,ZnM]at hd;obtain⟨x,hx,rfl⟩:=hd;exact .p _ _ (h4 j v x hv hx)
  ·rename_i g' x y hev;simp only[ZnO,ZnP]at hc;obtain⟨rfl,rfl,rfl⟩:=hc;rw[hev]at hf;generalize a.eval f=vf at hf;cases hf with
   |fn _ fs cs _ _ h1 h2 h3 h4=>grind
  simp_all
 obtain⟨fs,cs,hev,h1,h2,h3,h4⟩:=hfn;obtain⟨q1,q2⟩:=Zaj h c.args.toList pts hal;refine⟨fs++c.args.map a.eval++cs,by simp_all,fun j v d hv hd=> ?_,fun ty=> ?_⟩
 ·grind
 grind[resolve,Deferred.ofValue,invoke]
theorem Zjp {P:Program} {g:Nat} {fn:Func} (vals:Array Value) (w:World) (hfu:P.funcs[g]? =some fn) (hnm:(fn.name == "runtime.NumGoroutine")=false) (hbd:fn.body.isNone=false):(callFunc g vals).run P w= .ok (.enter g vals) w:=by
 have hnm':¬fn.name= "runtime.NumGoroutine" :=by simp_all
 have hbd':¬fn.body=none:=by grind
 simp_all[callFunc]
theorem ZlK (h:Rep C X ρ S st a.tmps w) {m:AM} {d:D} {x:AE} (hx:ZdD st m d=some x):∀f∈x.fs,∃o,st.objs f=some o∧o≠ .gone:=by
 unfold ZdD at hx;split at hx
 ·split at hx;rotate_left;simp at hx;grind[ZaY]
 ·split at hx;rotate_left;simp at hx;rename_i ds hlk;split at hx;rotate_left;simp at hx;rename_i cs hcs;cases hx;exact ZeX (a:= .box cs) (o:= .box ds) h (by simp[Zag,hcs])
 all_goals grind[ZaY]
theorem ZlI {S1:Nat→Prop} (h:Rep C X ρ S st a.tmps w) (hSS:∀b,S b→S1 b) {m:AM} {d:D} {x:AE} (hx:ZdD st m d=some x) {v:Value} (hr:RelD w S ρ v d) (hfs:∀f∈x.fs,∀L b,ρ f=some L→L.blk=some b→S1 b)
  (hcond:∀c∈x.cond,c=true) {ρ':Id→Option Lay} {k:Nat} (hρ:∀id,x.id=some id→ρ' (0,k,0)=ρ id)
  (hρr:∀y k' m,x.arg= .boxr y k'→x.ref=some m→ρ' (0,k',0)=ρ m):
  x.arg.vis=true∧RelD w S1 ρ' v (x.arg.d k)∧(∀o',x.arg.o=some o'→∃id o,x.id=some id∧st.objs id=some o∧o≠ .gone∧o'≠ .gone∧∀L,ρ id=some L→Zp w S1 ρ L o→Zp w S1 ρ' L o')∧
   (∀id,x.id=some id→∃o,st.objs id=some o∧o≠ .gone):=by
 unfold ZdD at hx;split at hx
 ·split at hx;rotate_left;simp at hx;rename_i y hy;cases hx;exact⟨rfl,.p _ _ (Zaf h.objs hSS depth _ _ _ hr hy hfs),fun o' ho=>by grind[Arg.o],fun id hid=>by simp_all⟩
 ·rename_i id;split at hx;rotate_left;simp at hx;rename_i ds hlk;split at hx;rotate_left;simp at hx;rename_i cs hcs;cases hx;obtain⟨q1,q2⟩:=Zh hcs;refine⟨rfl, ?_,fun o' ho=> ?_,fun id' hid=>by simp_all⟩
  ·cases hr with
   |ptr _ _ _ L b hL hi hb=>exact .ptr _ 0 0 L b (by simp_all) hi hb
  ·simp only[Arg.o,ZnO]at ho;subst ho;refine⟨id,_,rfl,hlk,by simp,by simp,fun L hL hro=> ?_⟩;obtain⟨L',hL',hro0⟩:=h.objs id _ hlk (by simp);rw[hL]at hL';obtain rfl:=ZnN hL';obtain⟨o',p1,_,p3⟩:=ZbP (ρ':=ρ') h hSS (a:= .box cs) (fs:=ds.flatMap fun d=>d.ids st.objs depth) (by grind[Zag]) hfs hro0;grind[Arg.o]
 ·rename_i id len;split at hx;rotate_left;simp at hx;rename_i sz es hlk;cases hx;have hle:len=es.length:=of_decide_eq_true (hcond _ ZnE);subst hle;refine⟨rfl, ?_,fun o' ho=> ?_,fun id' hid=>by simp_all⟩
  ·cases hr with
   |sl _ _ _ cap ad L hL hl hm hcp ha=>exact .sl _ 0 _ cap ad L (by simp_all) hl hm hcp ha
  ·simp only[Arg.o,ZnO]at ho;subst ho;exact⟨id,_,rfl,hlk,by simp,by simp,fun L _ hr=>hr⟩
 ·rename_i id;split at hx;rotate_left;simp at hx;rename_i td kv hlk;cases hx;refine⟨rfl, ?_,fun o' ho=> ?_,fun id' hid=>by simp_all⟩
  ·cases hr with
   |map _ L b hL hb=>exact .map _ L b (by simp_all) hb
  ·simp only[Arg.o,ZnO]at ho;subst ho;exact⟨id,_,rfl,hlk,by simp,by simp,fun L _ hr=>hr⟩
 ·rename_i id off len;split at hx;rotate_left;simp at hx;rename_i sz es hlk;cases hx;refine⟨rfl, ?_,fun o' ho=> ?_,fun id' hid=>by simp_all⟩
  ·cases hr with
   |sl _ _ _ cap ad L hL hl hm hcp ha=>exact .sl _ off len cap ad L (by simp_all) hl hm hcp ha
  ·simp only[Arg.o,ZnO]at ho;subst ho;exact⟨id,_,rfl,hlk,by simp,by simp,fun L _ hr=>hr⟩
 ·rename_i k' id;split at hx;rotate_left;simp at hx;rename_i d m hlk;split at hx;rotate_left;simp at hx;rename_i y hy;cases hx;refine⟨rfl, ?_,fun o' ho=>by grind[Arg.o],fun id' hid=>by simp_all⟩;cases hr with
  |ptr _ _ _ L b hL hi hb=>
   obtain⟨L',hL',b',r1,r2,r3,r4⟩:=h.objs id _ hlk (by simp);rw[hL]at hL';obtain rfl:=ZnN hL';rw[hb]at r1;obtain rfl:=ZnN r1;obtain⟨v,s1,s2,s3,s4⟩:=r4 0 d rfl;obtain⟨v',t1,t2,t3,t4⟩:=r4 1 _ rfl;cases t4 with
   |map _ Lm bm hLm hbm=>
    have hS1:=hfs id ZnE L b hL hb;have q:=Zaf h.objs hSS depth _ _ _ s4 hy fun f hf=>hfs f (Zoa _ hf)
    exact .rp (some y) (0,k',0) b _ bm v Lm hS1 (fun y' hy'=>by simp_all) (by simp_all) (by simp_all) hbm
 ·rename_i k' y m;cases hx;refine⟨rfl, ?_,fun o' ho=>by grind[Arg.o],fun id' hid=>by simp_all⟩;cases hr with
  |rp _ _ b o' r u L hS hy hm hL hb=>
   exact .rp (some y) (0,k',0) b o' r u L (hSS b hS) (fun y' hy'=>⟨(hy y' hy').1,(hy y' hy').2.1,(hy y' hy').2.2.mono (fun _ _ _=>rfl) hSS⟩) hm (by simp_all) hb
 simp_all
end
end Eng
namespace Eng
open Go
theorem Zp.pureArg {w w':World} {S S':Nat→Prop} {ρ ρ':Id→Option Lay} {L:Lay} {a:Arg} {o:Obj} (ha:a.o=some o) (hk:ZbM S w w') (hs:∀b,S b→S' b) (hb:∀b,L.blk=some b→w'.heap[b]? =w.heap[b]?) (h:Zp w S ρ L o):Zp w' S' ρ' L o:=by
 cases a with
 |p x=>grind[Arg.o]
 |box cs=>
  simp only[Arg.o,ZnO]at ha;subst ha;obtain⟨b,h1,h2,h3,h4⟩:=h;refine⟨b,h1,h2,h3,fun j d hd=> ?_⟩;obtain⟨v,q1,q2,q3,q4⟩:=h4 j d hd;rw[ZnB,ZnM]at hd;obtain⟨x,hx,rfl⟩:=hd;exact⟨v,by grind[ZS],by grind[ZaQ],q3,.p _ _ (q4.of_p.mono hk hs)⟩
 |arr sz es=>
  simp only[Arg.o,ZnO]at ha;subst ha;exact h.mono (ρ':=ρ) hk hs (fun _ _ h=>h) hb
 |map td kv=>
  simp only[Arg.o,ZnO]at ha;subst ha;exact h.mono (ρ':=ρ) hk hs (fun _ _ h=>h) hb
 |part sz es off len=>
  simp only[Arg.o,ZnO]at ha;subst ha;exact h.mono (ρ':=ρ) hk hs (fun _ _ h=>h) hb
 |hmap td kv=>
  simp only[Arg.o,ZnO]at ha;subst ha;exact h.mono (ρ':=ρ) hk hs (fun _ _ h=>h) hb
 |boxr x k=>grind[Arg.o]
theorem Zp.pureRV {w w':World} {S S':Nat→Prop} {ρ ρ':Id→Option Lay} {L:Lay} {x:RV} {o:Obj} (hx:x.o=some o) (hk:ZbM S w w') (hs:∀b,S b→S' b) (hb:∀b,L.blk=some b→w'.heap[b]? =w.heap[b]?) (h:Zp w S ρ L o):Zp w' S' ρ' L o:=by
 cases x with
 |own sz es=>exact h.pureArg (a:= .arr sz es) hx hk hs hb
 |aown pre sz es post ow=>
  cases ow with
  |none=>exact h.pureArg (a:= .arr sz es) hx hk hs hb
  |some q=>
   simp only[RV.o,arrO,ZnO]at hx;subst hx;exact h.mono (ρ':=ρ) hk hs (fun _ _ h=>h) hb
 |box cs=>exact h.pureArg (a:= .box cs) hx hk hs hb
 |map td kv=>exact h.pureArg (a:= .map td kv) hx hk hs hb
 |p x=>grind[RV.o]
 |view k off len=>grind[RV.o]
theorem Zgs:∀(l:List (Nat×Arg)) (k:Nat) (a:Arg) (o:Obj),Zg l k=some a→a.o=some o→Zg (Zcb l) (0,k,0)=some o
 | [],k,a,o,h,_=>by grind[Zg]
 |(k',a')::l,k,a,o,h,ho=>by
  simp only[Zg]at h;split at h
  ·grind[Zcb,Zg]
  ·rename_i hne;have:=Zgs l k a o h ho;grind[Zcb,Zg]
theorem ZcG {α β:Type} [DecidableEq α] (l1 l2:List (α×β)) (a:α):Zg (l1++l2) a=match Zg l1 a with |some b=>some b |none=>Zg l2 a:=by
 induction l1 with
 |nil=>rfl
 |cons x r ih=>
  grind[Zg]
theorem ZcR:∀(n:Nat) (l:List RV) (k m:Nat),Zg (Zh7 n l) (0,k,m)=none
 |n,[],k,m=>rfl
 |n,x::l,k,m=>by
  unfold Zh7;split
  ·simp only[Zg];rw[if_neg (by simp)];exact ZcR (n+1) l k m
  ·exact ZcR (n+1) l k m
theorem Zh9:∀(n:Nat) (l:List RV) (j:Nat) (x:RV),l[j]? =some x→Zaz D.dead (ZkW n l) (n+j)=x.d (n+j)
 |n,[],j,x,h=>by grind
 |n,y::l,j,x,h=>by
  cases j with
  |zero=>
   grind[ZkW,Zaz]
  |succ j=>
   simp only[Zop]at h;have:=Zh9 (n+1) l j x h;grind[ZkW,Zaz]
theorem RV.o_gone {x:RV} {o:Obj} (h:x.o=some o):o≠ .gone:=by
 cases x<;>simp[RV.o]at h<;>subst h
 case aown ow=>cases ow<;>simp[arrO]
 all_goals simp
section
variable {C:Ctx} {r:Fm} {G:Zg6}
theorem Zks {ops:Array Oper} {i:Nat} {o:Oper} {X:Nat→Prop} {st:St} {c:Call} (hnotX:¬X i) (hE:Zl C.E) (ho:ops[i]? =some o) (hg:ZX ops st o.guard=some true) (hop:o.op= .call c) (hdst:Zdq C.E o=true)
  (pts:List Nat) (ms:List AM) {f:Nat} {as:List AE} (hpre:ZlX C.E st c pts ms=some (f,as)) (hcnd:Zmc (as.flatMap (·.cond))) {args:List Arg} {ret:Ret} (hargs:as.map (·.arg)=args) (hf:Fun C.E f args ret)
  {e:Eff} (he:ZfY st i as ret=some e) {ρ:Id→Option Lay} {S:Nat→Prop} {a:Act} {w:World} (hrep:Rep C X ρ S st a.tmps w) (hd:a.defers=r.ds) (b:Frame) (rest:List Nat) (kk:List Go.Item) (cs:List Frame) (hb:b.roundOf=r.r):
  ∃ρ' S' a' w',Rep C (fun j=>X j∨j=i) ρ' S' (st.app i o.dst e) a'.tmps w'∧a'.defers=r.ds∧
   StepsIn (Machine.fenced C.E.prog (Zcz r.r)) C.E.prog (lone (b.atR a (.inRegion ops (i::rest)::kk)) cs w) (lone (b.atR a' (.inRegion ops rest::kk)) cs w'):=by
 subst hargs;have hi:i < ops.size:=(Znq.1 ho).1;have hwant:=Za3 hrep hg;unfold ZlX at hpre;split at hpre
 case h_2=>simp_all
 rename_i fo hcal;split at hpre
 case h_2=>simp_all
 rename_i g first caps hcd
 dsimp only at hpre;split at hpre
 case isFalse=>simp_all
 rename_i hlen;split at hpre
 case h_2=>simp_all
 rename_i as0 has;split at hpre
 case h_2=>simp_all
 rename_i hs0 hhs;split at hpre
 case isFalse=>simp_all
 rename_i hok;simp only[ZnO,ZnP]at hpre;obtain⟨rfl,rfl⟩:=hpre;simp only[Znu]at hok;obtain⟨⟨⟨hpi,hal⟩,hfl⟩,hrefs⟩:=hok;obtain⟨vals,hvs,hvr,hrun⟩:=Zjo hrep (pts:=pts) hcal hcd hfl (fun x hx=>ZnV.1 hal x hx);generalize hds:first++ZY C.E st.slots c.args.toList pts++caps=ds at*
 have hrun:=hrun o.type;obtain⟨a1,a2⟩:=Zh has;obtain⟨b1,b2⟩:=Zh hhs;have hal0:as0.length=vals.size:=by simp_all
 have hhid:∀x∈hs0,∃m td kv,x={arg:= .hmap td kv,id:=some m}∧st.objs m=some (.map td kv):=by intro x hx;obtain⟨j,hj,rfl⟩:=List.mem_iff_getElem.1 hx;have:=b2 j _ _ (Zn2 (by omega)) (Zn2 hj);grind[Zlt]
 have hvis:∀(j:Nat) x,as0[j]? =some x→∃(hj:j < vals.size) (hjd:j < ds.length) (m:AM),ZdD st m ds[j]=some x∧RelD w S ρ vals[j] ds[j]:=by
  intro j x hx;obtain⟨hj,rfl⟩:=ZnA.1 hx;have hz:j < (ms.zip ds).length:=by omega
  have hjd:j < ds.length:=by omega
  have hx':=a2 j (ms.zip ds)[j] as0[j] (Zn2 hz) hx;simp only[List.getElem_zip]at hx';exact⟨by omega,hjd,_,hx',hvr j _ _ (by simp_all) (by grind)⟩
 generalize has':as0++hs0=as' at*
 have hfs0:∀g∈as'.flatMap (·.fs),∃o,st.objs g=some o∧o≠ .gone:=by
  intro g hg;obtain⟨x,hx,hgx⟩:=Zob.1 hg;have hx0:=hx;rw[←has']at hx;rcases Zn7.1 hx with hx |hx
  ·obtain⟨j,hj⟩:=Zou.1 hx;grind[ZlK]
  grind
 obtain⟨S1,hS1,hF1,hrep1,hS1i⟩:=hrep.freeze _ hfs0;have hn1:ZaA ((Zaa 0 as').map (·.1))=true:=by grind[Zgp]
 have hrho:∀{new old:Id},(new,old)∈Zaa 0 as'→Z2 (Zaa 0 as') ρ new=ρ old:=fun hm=>by simp only[Z2,Zy hn1 hm]
 have hpim:∀{j:Nat} {x:AE} {id:Id},as'[j]? =some x→x.id=some id→((0,j,0),id)∈Zaa 0 as':=fun h1 h2=>by have:=ZcH 0 as' _ _ _ h1 h2;grind
 have hv0:∀(j:Nat) (x:AE),as0[j]? =some x→as'[j]? =some x:=fun j x h=>by grind
 have hargV:∀(j:Nat) x,as0[j]? =some x→∃hj:j < vals.size,x.arg.vis=true∧RelD w S1 (Z2 (Zaa 0 as') ρ) vals[j] (x.arg.d j)∧
   (∀o',x.arg.o=some o'→∃id o,x.id=some id∧st.objs id=some o∧o≠ .gone∧o'≠ .gone∧∀L,ρ id=some L→Zp w S1 ρ L o→Zp w S1 (Z2 (Zaa 0 as') ρ) L o')∧
   (∀id,x.id=some id→∃o,st.objs id=some o∧o≠ .gone):=by
  intro j x hxj;obtain⟨hj,hjd,m,h1,h2⟩:=hvis j x hxj;have hxm:x∈as':=Zoe (hv0 j x hxj);have:=ZlI (S1:=S1) (ρ':=Z2 (Zaa 0 as') ρ) (k:=j) hrep hS1 h1 h2 (fun f hf=>hF1 f (Zob.2 ⟨_,hxm,hf⟩))
   (fun c hc=>Zf2 hcnd c (Zob.2 ⟨_,hxm,hc⟩)) (fun id hid=>hrho (hpim (hv0 j x hxj) hid)) (fun y k' m' e1 e2=>by have:=ZnV.1 hrefs (x.arg.rk,x.ref) (Zoe (i:=j) (by grind));grind[Arg.rk])
  grind
 have harg:∀(j:Nat) (hj:j < as'.length),(∀o',as'[j].arg.o=some o'→∃id o,as'[j].id=some id∧st.objs id=some o∧o≠ .gone∧o'≠ .gone∧∀L,ρ id=some L→Zp w S1 ρ L o→Zp w S1 (Z2 (Zaa 0 as') ρ) L o')∧
   (∀id,as'[j].id=some id→∃o,st.objs id=some o∧o≠ .gone):=by
  intro j hj;have hx:as'[j]∈as0++hs0:=by grind
  generalize as'[j]=x at hx⊢
  rcases Zn7.1 hx with hx |hx
  ·grind[Zou]
  ·obtain⟨m,td,kv,rfl,hm⟩:=hhid x hx;refine⟨fun o' ho=> ?_,fun id hid=>by grind⟩;simp only[Arg.o,ZnO]at ho;subst ho;exact⟨m,_,rfl,hm,by simp,by simp,fun L _ hr=>hr.mono (ρ':=ρ) (fun _ _ _=>rfl) (fun _ h=>h) (fun _ _ h=>h) fun _ _=>rfl⟩
 let Lt:Nat→Prop:=fun b=>∃new old o L,(new,old)∈Zaa 0 as'∧st.objs old=some o∧o≠ .gone∧ρ old=some L∧L.blk=some b
 let C':Ctx:=⟨C.E.at vals.size,w,Lt,S1,fun k=>Z2 (Zaa 0 as') ρ (0,k,0)⟩;have hvsz:vals.size=ZmD (as'.map (·.arg)):=by
  have e1:(as0.map (·.arg)).filter Arg.vis=as0.map (·.arg):=List.filter_eq_self.2 fun a ha=>by grind[Zou]
  have e2:(hs0.map (·.arg)).filter Arg.vis=[]:=List.filter_eq_nil_iff.2 fun a ha=>by grind[Arg.vis]
  grind[ZmD]
 have hcallee:Rep C' (fun _=>False) (Z2 (Zaa 0 as') ρ) S1 (Zeu (as'.map (·.arg))) vals w:=by
  refine hrep1.select (C':=C') hpi ?_ rfl rfl (ZQ.refl _) (ZnJ _) (fun _ _ _=>rfl) (fun _ h=>h) ?_ (fun _=>rfl) rfl (ZnJ _) ?_ (fun b hb=> .inl hb) (fun k L hk _=>hk) (fun _ _ _ _ _ _ _ ho=>by have:=ZkP ho;grind[Obj.isOwn])
  ·intro new o' ho';obtain⟨j,x,q1,q2,q3⟩:=Zg1 0 _ _ _ (Z1 ho');rw[Zok]at q2;rw[ZnB,ZnM]at q1;obtain⟨ae,q1,rfl⟩:=q1;obtain⟨hj,rfl⟩:=ZnA.1 q1;obtain⟨id,o1,r1,r2,r3,r4,r5⟩:=(harg j hj).1 o' q3;refine⟨id,o1, ?_,by grind[Zu],r3,r5⟩;grind
  ·grind[Zu]
  ·intro k';show RelD w S1 _ (vals.getD k' undef) (Zaz D.dead (Zc9 0 (as'.map (·.arg))) k');rcases ZaS D.dead (Zc9 0 (as'.map (·.arg))) k' with hk |hk
   ·rw[hk];exact .dead _
   ·obtain⟨j,x,q1,q2,q3⟩:=Zex 0 _ _ _ hk;rw[Zok]at q2 q3;subst q2;rw[q3];rw[ZnB,ZnM]at q1;obtain⟨ae,q1,rfl⟩:=q1;rw[←has',List.getElem?_append]at q1;split at q1
    ·obtain⟨hj,_,h,_⟩:=hargV k' ae q1;have:vals.getD k' undef=vals[k']:=by simp[hj]
     rw[this];exact h
    ·obtain⟨m,td,kv,rfl,_⟩:=hhid ae (Zoe q1);exact .dead _
 have hsem:o.semAt b.roundOf a.eval=execOp a.eval o:=Oper.semAt_eq _ _ _ (fun c hc'=>by rw[hc']at hop;cases hop);have hst:=stepGR_op (P:=C.E.prog) (b:=b) (a:=a) (k:=kk) (cs:=cs) (w:=w) (i:=i) (rest:=rest) ho hwant;have hcg:∃vs ρ2 S2 w',vs.size=ret.res.length∧Rep ⟨C.E.at vs.size,w,Lt,S1,fun k=>Z2 (Zaa 0 as') ρ (0,k,0)⟩ (fun _=>False) ρ2 S2 (ZbY ret) vs w'∧
   StepsIn (Machine.fenced C.E.prog (Zcz r.r)) C.E.prog (lone (b.atR a (.inRegion ops (i::rest)::kk)) cs w) (lone (b.atR (a.put o.dst (Zhc vs)) (.inRegion ops rest::kk)) cs w'):=by
  rcases hf with hf |hf
  ·obtain⟨⟨fn,hfn1,hfn2,hfn3⟩,hcall⟩:=hf;obtain⟨_,hcall⟩:=hcall w Lt S1 _ _ vals hvsz hcallee;have hcg:=hcall (b.atR a (.inRegion ops (i::rest)::kk)::cs) (fun _ h=>by simp[Zcz]at h);obtain⟨ee,w',fr,⟨vs,ρ2,S2,rfl,hvl,hrep2⟩,hsteps,hfrf,hleave⟩:=hcg;refine⟨vs,ρ2,S2,w',hvl,hrep2, ?_⟩;have hexec:(execOp a.eval o).run C.E.prog w= .ok (.enter g vals) w:=by simp only[execOp,hop];rw[hrun];exact Zjp vals w hfn1 hfn2 hfn3
   have hfin:=Frame.finish_atR b a ops i rest kk (Zhc vs);simp only[ho,Option.bind_some]at hfin;refine .head (Zz _ _ _) (step_lone_go (fr':=Frame.enter C.E.prog g vals .normal) (cs':=b.atR a (.inRegion ops (i::rest)::kk)::cs) (w':=w) ?_) ?_
   ·rw[hst,hsem];simp[stepG.apply,hexec,Frame.atR]
   ·refine StepsIn.trans hsteps (.one (Zz _ _ _) ?_);rw[←hfin];exact step_leave_returned hleave
  ·obtain⟨vs,ρ2,S2,w',hv,hvl,hrep2⟩:=hf.2 w Lt S1 _ _ vals hvsz hcallee;refine⟨vs,ρ2,S2,w',hvl,hrep2, ?_⟩;have hexec:(execOp a.eval o).run C.E.prog w= .ok (.value (Zhc vs)) w':=by simp only[execOp,hop];rw[hrun];exact hv
   have hfin:=Frame.finish_atR b a ops i rest kk (Zhc vs);simp only[ho,Option.bind_some]at hfin;refine .one (Zz _ _ _) ?_;refine step_lone_go ?_;rw[hst,hsem,←hfin];simp[stepG.apply,hexec]
 obtain⟨vs,ρ2,S2,w',hvl,hrep2,hsteps⟩:=hcg;have hall:∀x∈Zaa 0 as',st.fz x.2=false∧x.2∉as'.flatMap (·.fs):=by intro x hx;have:=hpi;simp only[Zgp,Znu,ZnV,Bool.not_eq_true',decide_eq_true_eq]at this;have:=(this.2 x hx).2;rw[freezeL_fz]at this;simp only[Zom]at this;exact⟨this.2,by simpa using this.1⟩
 have hn2:ZaA ((Zaa 0 as').map (·.2))=true:=by have:=hpi;simp only[Zgp,Znu]at this;exact this.1.2
 have hlent:∀(j:Nat) (x:AE) id,as'[j]? =some x→x.id=some id→((0,j,0),id)∈Zaa 0 as'∧∃o L,st.objs id=some o∧o≠ .gone∧ρ id=some L∧Z2 (Zaa 0 as') ρ (0,j,0)=some L:=by intro j x id hx hid;have hm:=ZcH 0 as' j x id hx hid;rw[Zok]at hm;obtain⟨hj,rfl⟩:=ZnA.1 hx;obtain⟨o,q1,q2⟩:=(harg j hj).2 id hid;obtain⟨L,hL,_⟩:=hrep.objs id o q1 q2;exact⟨hm,o,L,q1,q2,hL,by rw[hrho hm];exact hL⟩
 have hsame:∀(j j':Nat) (x x':AE) id,as'[j]? =some x→x.id=some id→as'[j']? =some x'→x'.id=some id→j=j':=by intro j j' x x' id h1 h2 h3 h4;have:=ZdU hn2 (hlent j x id h1 h2).1 (hlent j' x' id h3 h4).1;simpa using this
 have hout:∀(j:Nat) (x:AE) id o',as'[j]? =some x→x.id=some id→Zds ret.outs j=o'→o'≠ .gone→(∃aa:Arg,aa.o=some o')∧(ZbY ret).objs (0,j,0)=some o'∧∃L,ρ id=some L∧ρ2 (0,j,0)=some L∧Zp w' S2 ρ2 L o':=by
  intro j x id o' hx hid hb hg;unfold Zds at hb;split at hb;rotate_left;exact absurd hb.symm hg;rename_i aa haa;split at hb;rotate_left;exact absurd hb.symm hg;rename_i oo hoo;subst hb;have hobj:(ZbY ret).objs (0,j,0)=some oo:=by show Zg (Zh7 0 ret.res++Zcb ret.outs) (0,j,0)=some oo;rw[ZcG,ZcR];exact Zgs _ _ _ _ haa hoo
  obtain⟨L2,hL2,hro⟩:=hrep2.objs _ _ hobj hg;obtain⟨_,o1,L,q1,q2,q3,q4⟩:=hlent j x id hx hid;have:=hrep2.lay j L q4 (by rw[hL2];simp);rw[hL2]at this;obtain rfl:=ZnN this;exact⟨⟨aa,hoo⟩,hobj,L2,q3,hL2,hro⟩
 have hgone:∀b1,Lt b1→(∀j o',(ZbY ret).objs (0,j,0)=some o'→o'≠ .gone→∀L,ρ2 (0,j,0)=some L→L.blk≠some b1)→
   ∃id o' L',(id,Obj.gone)∈Zbr ret.outs 0 as'∧st.objs id=some o'∧o'≠ .gone∧ρ id=some L'∧L'.blk=some b1∧(∀o'',(id,o'')∈Zbr ret.outs 0 as'→o''= .gone):=by
  rintro b1 ⟨new,old,o1,L,hm,q1,q2,q3,q4⟩ hno;obtain⟨j,x,hx,hnw,hid⟩:=ZbI 0 as' new old hm;rw[Zok]at hnw;have hbg:Zds ret.outs j= .gone:=by
   cases hbo:Zds ret.outs j with
   |gone=>rfl
   |_=>
    exfalso;obtain⟨_,r1,L2,r2,r3,_⟩:=hout j x old _ hx hid hbo (by simp);rw[q3]at r2;obtain rfl:=ZnN r2;exact hno j _ r1 (by simp) _ r3 q4
  refine⟨old,o1,L, ?_,q1,q2,q3,q4,fun o'' hm''=> ?_⟩
  ·have:=ZdC (outs:=ret.outs) 0 as' j x old hx hid;rw[Zok,hbg]at this;exact this
  ·obtain⟨j',x',r1,r2,r3⟩:=Za6 0 as' old o'' hm'';rw[Zok]at r3;rw[r3,←hsame j j' x x' old hx hid r1 r2,hbg]
 unfold ZfY at he;split at he
 case h_2=>simp at he
 rename_i rds hrds;cases he;obtain⟨rl,rg⟩:=Zgj 0 _ _ hrds;have hfresh:=hrep.fresh hnotX;let ρc:Id→Option Lay:=fun id=>if id.1=st.ep∧id.2.1=i then ρ2 (1,id.2.2,0)else ρ id
 have hρc:∀id L,ρ id=some L→ρc id=some L:=by
  intro id L hL;simp only[ρc];split
  ·rename_i hc;obtain⟨ep,jj,kk⟩:=id;simp only at hc;obtain⟨rfl,rfl⟩:=hc;rw[hfresh kk]at hL;simp at hL
  ·exact hL
 have hρn:∀m,ρc (st.ep,i,m)=ρ2 (1,m,0):=fun m=>by simp[ρc]
 have hmade:∀m o',(m,o')∈Za1 0 ret.res→(∃aa:RV,aa.o=some o')∧o'≠ .gone∧(ZbY ret).objs (1,m,0)=some o'∧∃L,ρ2 (1,m,0)=some L∧Zp w' S2 ρ2 L o':=by
  intro m o' hm;obtain⟨j,x,q1,q2,q3⟩:=ZeT 0 _ _ _ hm;have hg:=RV.o_gone q3;have hobj:(ZbY ret).objs (1,m,0)=some o':=by show Zg (Zh7 0 ret.res++Zcb ret.outs) (1,m,0)=some o';rw[ZcG,q2,ZjY 0 _ j x o' q1 q3]
  obtain⟨L,hL,hro⟩:=hrep2.objs _ _ hobj hg;exact⟨⟨x,q3⟩,hg,hobj,L,hL,hro⟩
 have hmb:∀m o' L b1,(m,o')∈Za1 0 ret.res→ρ2 (1,m,0)=some L→L.blk=some b1→b1 < w'.heap.size∧¬S2 b1∧(w.heap.size≤b1∨∃id o' L',(id,Obj.gone)∈Zbr ret.outs 0 as'∧st.objs id=some o'∧o'≠ .gone∧ρ id=some L'∧L'.blk=some b1∧(∀o'',(id,o'')∈Zbr ret.outs 0 as'→o''= .gone)):=by
  intro m o' L b1 hm hL hb1;obtain⟨_,hg,hobj,_,_,_⟩:=hmade m o' hm;obtain⟨r1,r2,r3,r4⟩:=hrep2.own _ _ L b1 hobj hg hL hb1;refine⟨r1,r4 rfl, ?_⟩;rcases r2 with r2 |r2
  ·exact .inl r2
  ·refine .inr (hgone b1 r2 fun j o'' ho'' hg'' L'' hL'' hb''=> ?_);have:=hrep2.inj _ _ L _ _ L'' b1 hobj hg hL hb1 ho'' hg'' hL'' hb'';simp at this
 let N:Nat→Prop:=fun b=>S2 b∧¬S1 b
 obtain⟨S',hrepc⟩:=hrep.stepN (i:=i) (t:=o.dst) (e:={val:=Zm9 rds,new:=Za1 0 ret.res,wr:=Zbr ret.outs 0 as',frz:=as'.flatMap (·.fs)}) (v:=Zhc vs) (w':=w') ρc N
  (nfam:=fun S'' hN hS hF hback=>by
   obtain⟨κ2,F2⟩:=hrep2.fam;have hS2:∀b1,S2 b1→S'' b1:=fun b1 hb1=>by
    by_cases h1:S1 b1
    ·rcases hS1i b1 h1 with h2 |⟨g,Lg,h2,h3,h4⟩
     ·exact hS b1 h2
     ·obtain⟨o1,q1,q2⟩:=hfs0 g h2;exact hF g h2 o1 Lg b1 q1 q2 h3 h4
    ·exact hN b1 ⟨hb1,h1⟩
   have hkid:∀{m j sz c k l},Zmf {val:=Zm9 rds,new:=Za1 0 ret.res,wr:=Zbr ret.outs 0 as',frz:=as'.flatMap (·.fs)} m j sz c k l→Kid (ZbY ret).objs (ZbY ret).fz (1,m,0) j sz c k l:=by rintro m j sz c k l ⟨es,lo,out,cs,hm,r1,r2,r3,r4⟩;exact⟨es,lo,out,cs,(hmade m _ hm).2.2.1,rfl,r1,r2,r3,r4⟩
   refine⟨fun m=>κ2 (1,m,0),fun m j sz c k l L hk hL=> ?_,fun m j sz c k l b1 hk hb1=> ?_,fun m j sz c k l m' j' sz' c' k' l' b1 hk hk' hb1 hb1'=> ?_⟩
   ·rw[hρn]at hL;obtain⟨b1,v,q1,q2,q3,q4⟩:=F2.kid _ _ _ _ _ _ L (hkid hk) hL;exact⟨b1,v,q1,q2,q3.mono (fun _ _ _=>rfl) hS2 (fun _ _ h=>h),q4.mono (fun _ _ _=>rfl) hS2 (fun _ _ h=>h) fun _ _=>rfl⟩
   ·obtain⟨q1,q2,q3,q4⟩:=F2.own _ _ _ _ _ _ b1 (hkid hk) hb1;refine⟨q1,fun hs=> ?_, ?_,fun m' o' L' hm hg hL=> ?_⟩
    ·rcases hback b1 hs with (hs |hs) |⟨id,o1,L,h1,h2,h3,h4,h5⟩
     ·exact q3 (hrep2.s0 _ (hS1 _ hs))
     ·exact q3 hs.1
     ·exact q3 (hrep2.s0 _ (hF1 id h1 L b1 h4 h5))
    ·exact q2.imp id fun q2=>hgone b1 q2 fun j o'' ho'' hg'' L'' hL''=>q4 _ o'' L'' ho'' hg'' hL''
    ·rw[hρn]at hL;exact q4 _ o' L' (hmade m' o' hm).2.2.1 hg hL
   ·obtain⟨q1,q2⟩:=F2.inj _ _ _ _ _ _ _ _ _ _ _ _ b1 (hkid hk) (hkid hk') hb1 hb1';simp only[ZnP]at q1;exact⟨q1.2.1,q2⟩) (wown:=fun id o' hm=>by obtain⟨j,x,_,_,q⟩:=Za6 0 as' id o' hm;rw[q];exact ZkL _ _)
  (by
   rintro b1 ⟨h2,h3⟩;refine⟨hrep2.sIn b1 h2, ?_⟩;rcases hrep2.sOut b1 h2 with h4 |h4 |h4
   ·exact absurd h4 h3
   ·exact .inl h4
   ·refine .inr (hgone b1 h4 fun j o'' ho'' hg'' L'' hL'' hb''=> ?_);exact(hrep2.own _ _ L'' b1 ho'' hg'' hL'' hb'').2.2.2 rfl h2)
  (by
   rintro m o' L b1 hm hL hb1 ⟨h2,_⟩;rw[hρn]at hL;exact(hmb m o' L b1 hm hL hb1).2.1 h2)
  hnotX (Zbi hdst) hrep2.grow hrep2.quiet
  (by
   intro b1 hb1 hne;refine hrep2.frame b1 hb1 ?_;rintro⟨new,old,o1,L,hm,q1,q2,q3,q4⟩;obtain⟨j,x,hx,hnw,hid⟩:=ZbI 0 as' new old hm;exact hne old _ L (ZdC (outs:=ret.outs) 0 as' j x old hx hid) q3 q4)
  (by
   intro id o' hm;obtain⟨j,x,q1,q2,q3⟩:=Za6 0 as' id o' hm;obtain⟨r1,o1,L,r2,r3,_⟩:=hlent j x id q1 q2;exact⟨(hall _ r1).1,o1,r2,r3⟩)
  hρc
  (by
   intro id hn;simp only[ρc]at hn;split at hn
   ·rename_i hc;exact .inr hc
   ·exact .inl hn)
  (by
   intro id hm;obtain⟨o1,q1,q2⟩:=hfs0 id hm;obtain⟨L,hL,_⟩:=hrep.objs id o1 q1 q2;refine⟨by rw[hL];simp,fun o' hm'=> ?_⟩;obtain⟨j,x,r1,r2,_⟩:=Za6 0 as' id o' hm';exact absurd hm (hall _ (hlent j x id r1 r2).1).2)
  (by
   intro m o' hm;obtain⟨⟨aa,haa⟩,hg,hobj,L,hL,hro⟩:=hmade m o' hm;refine⟨L,by rw[hρn];exact hL,fun b1 hb1=> ?_,fun S'' hN hS hF _=> ?_⟩
   ·have:=hmb m o' L b1 hm hL hb1;exact⟨this.2.2,this.1⟩
   ·refine Zp.pureRV haa (fun _ _ _=>rfl) (fun b1 hb1=> ?_) (fun _ _=>rfl) hro
    by_cases h1:S1 b1
    ·rcases hS1i b1 h1 with h2 |⟨g,Lg,h2,h3,h4⟩
     ·exact hS b1 h2
     ·obtain⟨o1,q1,q2⟩:=hfs0 g h2;exact hF g h2 o1 Lg b1 q1 q2 h3 h4
    ·exact hN b1 ⟨hb1,h1⟩)
  (by
   intro m o1 L1 m' o2 L2 b1 hm hg hL hb1 hm' hg' hL' hb1';rw[hρn]at hL hL';have:=hrep2.inj _ _ L1 _ _ L2 b1 (hmade m o1 hm).2.2.1 hg hL hb1 (hmade m' o2 hm').2.2.1 hg' hL' hb1';simpa using this)
  (by
   intro id o' L hm hg hL S'' hN hS hF;obtain⟨j,x,q1,q2,q3⟩:=Za6 0 as' id o' hm;rw[Zok]at q3;obtain⟨⟨aa,haa⟩,_,L2,r2,r3,hro⟩:=hout j x id o' q1 q2 q3.symm hg;rw[hL]at r2;obtain rfl:=ZnN r2;refine Zp.pureArg haa (fun _ _ _=>rfl) (fun b1 hb1=> ?_) (fun _ _=>rfl) hro
   by_cases h1:S1 b1
   ·rcases hS1i b1 h1 with h2 |⟨g,Lg,h2,h3,h4⟩
    ·exact hS b1 h2
    ·obtain⟨o1,q1,q2⟩:=hfs0 g h2;exact hF g h2 o1 Lg b1 q1 q2 h3 h4
   ·exact hN b1 ⟨hb1,h1⟩)
  (by
   intro S'' hN hS hF _ _;have hS2:∀b1,S2 b1→S'' b1:=fun b1 hb1=>by
    by_cases h1:S1 b1
    ·rcases hS1i b1 h1 with h2 |⟨g,Lg,h2,h3,h4⟩
     ·exact hS b1 h2
     ·obtain⟨o1,q1,q2⟩:=hfs0 g h2;exact hF g h2 o1 Lg b1 q1 q2 h3 h4
    ·exact hN b1 ⟨hb1,h1⟩
   have each:∀(j:Nat) (hj:j < vs.size) (hjr:j < rds.length),RelD w' S'' ρc vs[j] rds[j]:=by
    intro j hj hjr;have hjl:j < ret.res.length:=by omega
    have hs:=hrep2.slots j;have hsv:vs.getD j undef=vs[j]:=by simp[hj]
    rw[hsv,show (ZbY ret).slots j=Zaz D.dead (ZkW 0 ret.res) j from rfl]at hs;have:=Zh9 0 ret.res j ret.res[j] (Zn2 hjl);rw[Zok]at this;rw[this]at hs;have hat:=rg j ret.res[j] rds[j] (Zn2 hjl) (Zn2 hjr);rw[Zok]at hat;generalize vs[j]=v at hs;generalize ret.res[j]=x at hs hat;generalize rds[j]=d at hat;cases x with
    |p x=>
     simp only[RV.at,ZnO]at hat;subst hat;exact .p _ _ (hs.of_p.mono (fun _ _ _=>rfl) hS2)
    |own sz es=>
     simp only[RV.at,ZnO]at hat;subst hat;cases hs with
     |sl _ _ _ cap ad L hL hl hm hcp ha=>exact .sl _ 0 _ cap ad L (by rw[hρn];exact hL) hl hm hcp ha
    |box cs=>
     simp only[RV.at,ZnO]at hat;subst hat;cases hs with
     |ptr _ _ _ L b hL hi hb=>exact .ptr _ 0 0 L b (by rw[hρn];exact hL) hi hb
    |map td kv=>
     simp only[RV.at,ZnO]at hat;subst hat;cases hs with
     |map _ L b hL hb=>exact .map _ L b (by rw[hρn];exact hL) hb
    |view kk off len=>
     simp only[RV.at]at hat;split at hat;rotate_left;simp at hat;rename_i x hx;split at hat;rotate_left;simp at hat;rename_i id hid;cases hat;cases hs with
     |sl _ _ _ cap ad L hL hl hm hcp ha=>
      obtain⟨_,o1,L0,q1,q2,q3,q4⟩:=hlent kk x id hx hid;have:=hrep2.lay kk L0 q4 (by rw[hL];simp);rw[hL]at this;obtain rfl:=ZnN this;exact .sl id off _ cap ad L (hρc _ _ q3) hl hm hcp ha
    |aown pre sz es post ow=>
     simp only[RV.at,ZnO]at hat;subst hat;exact RelD.aown hs hS2 (hρn _)
   have hvr:vs.size=rds.length:=by omega
   show RelD _ _ _ _ (Zm9 rds);unfold Zm9;split
   ·rename_i d;have h1:vs.size=1:=by simpa using hvr
    have:=each 0 (by omega) (by simp);unfold Zhc;rw[dif_pos h1];simpa using this
   ·rename_i hne;have h1:vs.size≠1:=fun h1=>by
     rw[h1]at hvr
     match rds,hvr with
     | [d],_=>exact hne d rfl
    unfold Zhc;rw[dif_neg h1];refine .tup _ _ hvr fun j u d hu hd=> ?_
    obtain⟨hj,rfl⟩:=Znq.1 hu;obtain⟨hj',rfl⟩:=ZnA.1 hd;exact each j hj hj')
 exact⟨ρc,S',a.put o.dst (Zhc vs),w',hrepc,by simp[hd],hsteps⟩
end
end Eng
namespace Eng
open Go
def Zn (lk lk':Id→Option Obj) (l:List Id):Prop:=∀id∈l,lk id=lk' id
theorem Zlr {lk:Id→Option Obj}:∀(n:Nat) (d:D) (id:Id),id∈d.ids lk n→id∈d.ids lk (n+1):=by
 intro n
 induction n with
 |zero=>
  intro d id h;cases d with
  |ptr id' i j=>grind[D.ids]
  |agg cs=>simp[D.ids]at h
  |tup cs=>simp[D.ids]at h
  |fn f a b=>simp[D.ids]at h
  |it id'=>grind[D.ids]
  |rp y id'=>grind[D.ids]
  |sl id' o l=>simp_all
  |map id'=>simp_all
  |_=>simp[D.ids]at h
 |succ n ih=>
  intro d id h;have lst:∀cs:List D,id∈cs.flatMap (D.ids lk n)→id∈cs.flatMap (D.ids lk (n+1)):=fun cs hm=>by grind
  cases d with
  |ptr id' i j=>
   grind[D.ids]
  |agg cs=>grind[D.ids]
  |tup cs=>grind[D.ids]
  |fn f a b=>
   grind[D.ids]
  |it id'=>grind[D.ids]
  |rp y id'=>grind[D.ids]
  |sl id' o l=>simp_all
  |map id'=>simp_all
  |_=>simp[D.ids]at h
theorem Zd6 {lk:Id→Option Obj} {n m:Nat} (h:n≤m) (d:D) {id:Id} (hi:id∈d.ids lk n):id∈d.ids lk m:=by
 induction h with
 |refl=>omega
 |step _ ih=>grind[Zlr]
theorem Za8 {α β:Type} {f g:α→Option β}:∀{l:List α},(∀x∈l,f x=g x)→Zj f l=Zj g l
 | [],_=>rfl
 |x::l,h=>by simp only[Zj,h x (by simp),Za8 (l:=l) fun y hy=>h y (by grind)]
theorem ZB {lk lk':Id→Option Obj}:∀(n:Nat) (d:D),Zn lk lk' (d.ids lk n)→d.toP lk n=d.toP lk' n∧d.ids lk n=d.ids lk' n:=by
 intro n
 induction n with
 |zero=>
  intro d h;cases d with
  |sl id o l=>rw[Zbm,Zbm,h id (by simp)];simp
  |map id=>rw[Zbu,Zbu,h id (by simp)];simp
  |_=>simp[D.toP,D.ids]
 |succ n ih=>
  intro d h;have lst:∀cs:List D,(∀id∈cs.flatMap (D.ids lk n),lk id=lk' id)→Zj (D.toP lk n) cs=Zj (D.toP lk' n) cs∧cs.flatMap (D.ids lk n)=cs.flatMap (D.ids lk' n):=fun cs hm=>by
   have hh:∀c∈cs,D.toP lk n c=D.toP lk' n c∧D.ids lk n c=D.ids lk' n c:=fun c hc=>ih c fun id hid=>hm id (Zob.2 ⟨c,hc,hid⟩)
   refine⟨Za8 fun c hc=>(hh c hc).1, ?_⟩;clear hm
   induction cs with
   |nil=>rfl
   |cons c cs ihc=>
    simp_all
  cases d with
  |sl id o l=>rw[Zbm,Zbm,h id (by simp)];simp
  |map id=>rw[Zbu,Zbu,h id (by simp)];simp
  |agg cs=>
   obtain⟨q1,q2⟩:=lst cs (fun id hid=>h id (by grind[D.ids]));grind[D.toP,D.ids]
  |ptr id i j=>
   have h0:=h id (by simp[D.ids]);cases hlk:lk id with
   |none=>grind[D.toP,D.ids]
   |some o=>
    rw[hlk]at h0;cases o with
    |box cs=>
     obtain⟨q1,q2⟩:=lst (cs.drop j) (fun id' hid=>h id' (by grind[D.ids]));grind[D.toP,D.ids]
    |_=>simp[D.toP,D.ids,hlk,←h0]
  |tup cs=>
   obtain⟨q1,q2⟩:=lst cs (fun id hid=>h id (by grind[D.ids]));grind[D.toP,D.ids]
  |fn f a b=>
   obtain⟨q1,q2⟩:=lst a (fun id hid=>h id (by grind[D.ids]));obtain⟨q3,q4⟩:=lst b (fun id hid=>h id (by grind[D.ids]));grind[D.toP,D.ids]
  |_=>simp[D.toP,D.ids]
def Zdo (E:Env) (sl:Nat→D) (lk:Id→Option Obj) (xs:List Operand):List Id:=xs.flatMap fun x=>(ev E sl 0 x).ids lk (depth+1)
theorem Ziu {E:Env} {sl:Nat→D} {lk:Id→Option Obj} (n:Nat) (t:Nat) (x:Operand):(ev E sl t x).ids lk n=(ev E sl 0 x).ids lk n:=by
 cases x with
 |const v=>
  have:∀sz td,(D.ofV sz td v).ids lk n=[]:=by intro sz td;unfold D.ofV;grind[D.ids]
  grind[ev]
 |_=>rfl
section
variable {E:Env} {sl sl':Nat→D} {lk lk':Id→Option Obj} {xs:List Operand}
theorem ZaN (h:Zn lk lk' (Zdo E sl lk xs)) {x:Operand} (hx:x∈xs) (t:Nat) {n:Nat} (hn:n≤depth+1):Zn lk lk' ((ev E sl t x).ids lk n):=fun id hid=>by refine h id (Zob.2 ⟨x,hx, ?_⟩);grind[Ziu,Zd6]
theorem ZdJ {d:D} {sz:Nat} (h:Zn lk lk' (d.ids lk 1)):ZcP lk sz d=ZcP lk' sz d:=by
 have:=(ZB 1 d h).1;unfold ZcP;grind
theorem Zi3 {d:D} {td:TD} (h:Zn lk lk' (d.ids lk 1)):Zf4 lk td d=Zf4 lk' td d:=by
 unfold Zf4;split<;>try rfl
 rename_i id _;rw[h _ (by simp)]
theorem Zhw {d:D} (h:Zn lk lk' (d.ids lk 1)):ZfI lk d=ZfI lk' d:=by
 unfold ZfI;split<;>try rfl
 rw[h _ (by simp)]
theorem ZbC {t:Nat} {te:TI} (hev:∀t x,x∈xs→ev E sl t x=ev E sl' t x) (h:Zn lk lk' (Zdo E sl lk xs)):
  ∀(parts:List (Nat×Operand)) (es:List P),(∀p∈parts,p.2∈xs)→ZH E sl lk t te parts es=ZH E sl' lk' t te parts es
 | [],_,_=>rfl
 |(i,x)::r,es,hp=>by
  have hx:=hp (i,x) (by simp);simp only[ZH,←hev t x hx,←(ZB depth _ (ZaN h hx t (by decide))).1];split
  ·split
   ·exact ZbC hev h r _ fun p hp'=>hp p (by grind)
   ·rfl
  ·rfl
theorem Zd7 {t:Nat} (hev:∀t x,x∈xs→ev E sl t x=ev E sl' t x) (h:Zn lk lk' (Zdo E sl lk xs)):
  ∀(parts:List (Nat×Operand)),(∀p∈parts,p.2∈xs)→Zc4 E sl lk t parts=Zc4 E sl' lk' t parts
 | [],_=>rfl
 |(i,x)::r,hp=>by
  have hx:=hp (i,x) (by simp);have:=Zd7 (t:=t) hev h r fun p hp'=>hp p (by grind)
  unfold Zc4 at this⊢
  simp only[Zon,←hev t x hx,←(ZB depth _ (ZaN h hx t (by decide))).2,this]
theorem Zdj {ti:TI} (hev:∀t x,x∈xs→ev E sl t x=ev E sl' t x):∀(parts:List (Nat×Operand)) (cs:List D),(∀p∈parts,p.2∈xs)→Zb4 E sl ti parts cs=Zb4 E sl' ti parts cs
 | [],_,_=>rfl
 |(i,x)::r,cs,hp=>by
  have hx:=hp (i,x) (by simp);simp only[Zb4];split
  ·split
   ·simp only[←hev _ x hx];split
    ·exact Zdj hev r _ fun p hp'=>hp p (by grind)
    ·rfl
   ·rfl
  ·rfl
theorem Zbj (hev:∀t x,x∈xs→ev E sl t x=ev E sl' t x):∀(args:List Operand) (ts:List Nat),(∀x∈args,x∈xs)→ZY E sl args ts=ZY E sl' args ts
 | [],_,_=>by cases ‹List Nat› <;>rfl
 |x::r,[],h=>by simp only[ZY,hev 0 x (h x (by simp)),Zbj hev r [] fun y hy=>h y (by grind)]
 |x::r,t::ts,h=>by simp only[ZY,hev t x (h x (by simp)),Zbj hev r ts fun y hy=>h y (by grind)]
theorem Zes (h:Zn lk lk' (Zdo E sl lk xs)):∀(args:List Operand) (ts:List Nat),(∀x∈args,x∈xs)→∀d∈ZY E sl args ts,Zn lk lk' (d.ids lk (depth+1))
 | [],ts,_,d,hd=>by grind[ZY]
 |x::r,[],hx,d,hd=>by
  simp only[ZY,ZnD]at hd;rcases hd with rfl |hd
  ·grind[ZaN]
  ·exact Zes h r [] (fun y hy=>hx y (by grind)) d hd
 |x::r,t::ts,hx,d,hd=>by
  simp only[ZY,ZnD]at hd;rcases hd with rfl |hd
  ·grind[ZaN]
  ·exact Zes h r ts (fun y hy=>hx y (by grind)) d hd
end
end Eng
namespace Eng
open Go
def D.shal:D→List Id
 | .sl id _ _=>[id]
 | .ptr id _ _=>[id]
 | .map id=>[id]
 | .it id=>[id]
 |_=>[]
def Zea (E:Env) (op:Op) (sl:Nat→D) (lk:Id→Option Obj):List Id:=
 match op with
 | .move _ | .assign _ | .pick .. | .alloc _ | .box .. | .build .. | .nilCheck _ | .fieldAddr .. | .field .. | .binOp .. | .unOp .. | .extract .. | .makeFunc .. | .makeMap .. | .makeSlice .. | .index .. =>[]
 | .load _ a=>(ev E sl 0 a).shal
 | .store _ a x=>(ev E sl 0 a).shal++(ev E sl 0 x).ids lk depth
 | .indexAddr _ x _=>(ev E sl 0 x).shal
 | .slice _ x _ _ _=>(ev E sl 0 x).shal
 | .next x _=>(ev E sl 0 x).shal
 | .entry x=>(ev E sl 0 x).shal
 | .range _ x=>(ev E sl 0 x).shal
 |op=>Zdo E sl lk op.operands.toList
theorem Zbx {E:Env} {sl sl':Nat→D} {x:Option Operand} (h:∀y,x=some y→ev E sl 0 y=ev E sl' 0 y):Zb1 E sl x=Zb1 E sl' x:=by
 cases x with
 |none=>rfl
 |some y=>grind[Zb1]
theorem Z4 {E:Env} {sl sl':Nat→D} {lk lk':Id→Option Obj}:∀{xs:List Operand},(∀t x,x∈xs→ev E sl t x=ev E sl' t x)→Zn lk lk' (Zdo E sl lk xs)→Zdo E sl lk xs=Zdo E sl' lk' xs
 | [],_,_=>rfl
 |x::r,he,h=>by
  have h1:Zn lk lk' ((ev E sl 0 x).ids lk (depth+1)):=fun id hid=>h id (Zob.2 ⟨x,by simp,hid⟩)
  have h2:Zn lk lk' (Zdo E sl lk r):=fun id hid=>by obtain⟨y,hy,hi⟩:=Zob.1 hid;exact h id (Zob.2 ⟨y,by grind,hi⟩)
  have:=Z4 (xs:=r) (fun t y hy=>he t y (by grind)) h2;unfold Zdo at this⊢
  simp only[Zon,←he 0 x (by simp),←(ZB _ _ h1).2,this]
section
variable {E:Env} {sl sl':Nat→D} {lk lk':Id→Option Obj}
theorem Zbn {t:Nat} {m k v:Operand} (hev:∀t x,x∈[m,k,v]→ev E sl t x=ev E sl' t x) (h:Zn lk lk' (Zdo E sl lk [m,k,v])):Z6 E sl lk t m k v=Z6 E sl' lk' t m k v:=by
 have hm:=fun t=>hev t m (by simp)
 have hk:=fun t=>hev t k (by simp)
 have hv:=fun t=>hev t v (by simp)
 have cm:=fun t n=>ZaN (n:=n) h (x:=m) (by simp) t
 have ck:=fun t=>(ZB 1 _ (ZaN h (x:=k) (by simp) t (by decide)))
 have cv:=fun t=>(ZB depth _ (ZaN h (x:=v) (by simp) t (by decide)))
 unfold Z6;simp only[←hm,←hk,←hv,←ck,←cv];split<;>try rfl
 split<;>try rfl
 rename_i id he;have:=cm 0 1 (by decide) id (by simp_all);grind
theorem ZeL {ep i s t:Nat} {d:D} (h:Zn lk lk' (d.ids lk 1)):ZaD E ep i lk s t d=ZaD E ep i lk' s t d:=by
 have:=(ZB 1 d h).1;unfold ZaD;grind
theorem Zgf {sz:Option Nat} {d:D} {a b c:Option Int} (h:Zn lk lk' d.shal):ZaV lk sz d a b c=ZaV lk' sz d a b c:=by
 unfold ZaV;split<;>try rfl
 rename_i id _ _;rw[h id (by simp[D.shal])]
theorem ZcJ {ep i:Nat} {te:TI} {s:D} {xs:List P} (hs:Zn lk lk' (s.ids lk 1)):Zab lk ep i te s xs=Zab lk' ep i te s xs:=by
 unfold Zab;split<;>try rfl
 rename_i id _;rw[hs id (by simp)]
theorem Zf0 {ep i:Nat} {te:TI} {s x:D} (hs:Zn lk lk' (s.ids lk 1)) (hx:Zn lk lk' (x.ids lk 1)):ZaT lk ep i te s x=ZaT lk' ep i te s x:=by
 grind[ZaT,ZdJ,ZcJ]
theorem ZhL {te:TI} {s x:D} (hs:Zn lk lk' (s.ids lk 1)) (hx:Zn lk lk' (x.ids lk 1)):ZfW lk te s x=ZfW lk' te s x:=by
 unfold ZfW;split<;>try rfl
 rename_i id _ _;rw[hs id (by simp)];grind[ZdJ]
theorem ZeM {ep i:Nat} {b:Builtin} {ats:List Nat} {ds:List D} (h:∀d∈ds,Zn lk lk' (d.ids lk (depth+1))):ZO E ep i lk b ats ds=ZO E ep i lk' b ats ds:=by
 have h1:∀d∈ds,Zn lk lk' (d.ids lk 1):=fun d hd id hid=>h d hd id (Zd6 (by decide) d hid)
 unfold ZO;split<;>try rfl
 ·unfold Zii;grind[Zi3]
 ·unfold Zcm;split<;>try rfl
  rename_i t u s x;simp only[show ∀te,ZaT lk ep i te s x=ZaT lk' ep i te s x from fun te=>Zf0 (h1 s (by simp)) (h1 x (by simp)),show ∀te xs,Zab lk ep i te s xs=Zab lk' ep i te s xs from fun te xs=>ZcJ (h1 s (by simp))]
 ·unfold Zjl;grind[ZhL]
 ·unfold Zek;split<;>try rfl
  rename_i t _ id k;rw[h1 (.map id) (by simp) id (by simp),(ZB 1 _ (h1 k (by simp))).1]
theorem Zjk {ep i:Nat} {op:Op} {ty:Nat} (hev:∀t x,x∈op.operands.toList→ev E sl t x=ev E sl' t x) (h:Zn lk lk' (Zea E op sl lk)):
  Zf E ep i op ty sl lk=Zf E ep i op ty sl' lk'∧Zea E op sl lk=Zea E op sl' lk':=by
 cases op with
 |move x=>have:=fun t=>hev t x (by simp[Op.operands]);exact⟨by grind[Zf],rfl⟩
 |assign x=>have:=fun t=>hev t x (by simp[Op.operands]);exact⟨by grind[Zf],rfl⟩
 |pick c a b=>
  have h1:=fun t=>hev t c (by simp[Op.operands])
  have h2:=fun t=>hev t a (by simp[Op.operands])
  have h3:=fun t=>hev t b (by simp[Op.operands])
  exact⟨by grind[Zf],rfl⟩
 |alloc t=>exact⟨rfl,rfl⟩
 |box t x=>have:=fun t=>hev t x (by simp[Op.operands]);exact⟨by grind[Zf],rfl⟩
 |build t ps=>
  refine⟨?_,rfl⟩;have:=fun ti cs=>Zdj (E:=E) (sl:=sl) (sl':=sl') (ti:=ti) (xs:=ps.toList.map (·.2)) (fun t x hx=>hev t x (by grind[Op.operands])) ps.toList cs (fun p hp=>Zov hp)
  grind[Zf]
 |buildSlice t n ps=>
  have h0:Zn lk lk' (Zdo E sl lk (ps.toList.map (·.2))):=by grind[Zea,Op.operands]
  have he:∀t x,x∈ps.toList.map (·.2)→ev E sl t x=ev E sl' t x:=fun t x hx=>hev t x (by grind[Op.operands])
  have h1:=fun t te es=>ZbC (t:=t) (te:=te) he h0 ps.toList es (fun p hp=>Zov hp)
  have h2:=fun t=>Zd7 (t:=t) he h0 ps.toList (fun p hp=>Zov hp)
  exact⟨by simp_all[Zf],Z4 hev h⟩
 |insert t m k v=>
  grind[Op.operands,Zf,Zbn,Zea,Z4]
 |mapUpdate t m k v=>
  grind[Op.operands,Zf,Zbn,Zea,Z4]
 |load t x=>
  have h1:=fun t=>hev t x (by simp[Op.operands])
  refine⟨?_,by grind[Zea]⟩;simp only[Zea]at h;simp only[Zf,←h1];split<;>try rfl
  split<;>try rfl
  rename_i id _ _ he;rw[h id (by grind[D.shal])]
 |store t a x=>
  have h1:=fun t=>hev t a (by simp[Op.operands])
  have h2:=fun t=>hev t x (by simp[Op.operands])
  simp only[Zea]at h;have hx:Zn lk lk' ((ev E sl t x).ids lk depth):=fun id hid=>h id (by grind[Ziu])
  have hx0:Zn lk lk' ((ev E sl 0 x).ids lk depth):=fun id hid=>h id (by grind)
  refine⟨?_,by simp only[Zea,←h1,←h2,←(ZB depth _ hx0).2]⟩;simp only[Zf,←h1,←h2,←(ZB depth _ hx).1,←(ZB depth _ hx).2];split<;>try rfl
  split<;>try rfl
  rename_i id _ _ he;rw[h id (by grind[D.shal])];split<;>try rfl
  split<;>try rfl
  rename_i id2 _ he2;rw[hx id2 (by simp_all)]
 |nilCheck x=>have:=fun t=>hev t x (by simp[Op.operands]);exact⟨by grind[Zf],rfl⟩
 |binOp b t x y u=>
  have h1:=fun t=>hev t x (by simp[Op.operands])
  have h2:=fun t=>hev t y (by simp[Op.operands])
  exact⟨by grind[Zf],rfl⟩
 |unOp u t x=>have:=fun t=>hev t x (by simp[Op.operands]);exact⟨by grind[Zf],rfl⟩
 |convert s t x=>
  have h1:=fun t=>hev t x (by simp[Op.operands])
  refine⟨?_,Z4 hev h⟩;simp only[Zf,←h1];exact ZeL fun id hid=>h id (Zob.2 ⟨x,by simp[Op.operands],Zd6 (by decide) _ hid⟩)
 |makeFunc f fs cs=>
  refine⟨?_,rfl⟩;have h1:fs.toList.map (ev E sl 0)=fs.toList.map (ev E sl' 0):=List.map_congr_left fun x hx=>hev 0 x (by grind[Op.operands])
  have h2:cs.toList.map (ev E sl 0)=cs.toList.map (ev E sl' 0):=List.map_congr_left fun x hx=>hev 0 x (by grind[Op.operands])
  cases f<;>simp only[Zf,h1,h2]
 |makeMap t r=>refine⟨?_,rfl⟩;cases r<;>simp only[Zf]
 |makeSlice t l c=>
  have h1:=fun t=>hev t l (by simp[Op.operands])
  have h2:=fun t=>hev t c (by simp[Op.operands])
  exact⟨by grind[Zf],rfl⟩
 |slice t x lo hi mx=>
  have h1:=fun t=>hev t x (by simp[Op.operands])
  have a1:=Zbx (E:=E) (sl:=sl) (sl':=sl') (x:=lo) fun y hy=>hev 0 y (by grind[Op.operands])
  have a2:=Zbx (E:=E) (sl:=sl) (sl':=sl') (x:=hi) fun y hy=>hev 0 y (by grind[Op.operands])
  have a3:=Zbx (E:=E) (sl:=sl) (sl':=sl') (x:=mx) fun y hy=>hev 0 y (by grind[Op.operands])
  grind[Zea,Zgf,Zf]
 |fieldAddr t x f=>have:=fun t=>hev t x (by simp[Op.operands]);exact⟨by grind[Zf],rfl⟩
 |field t x f=>have:=fun t=>hev t x (by simp[Op.operands]);exact⟨by grind[Zf],rfl⟩
 |indexAddr t x ix=>
  have h1:=fun t=>hev t x (by simp[Op.operands])
  have h2:=fun t=>hev t ix (by simp[Op.operands])
  simp only[Zea]at h;refine⟨?_,by simp only[Zea,h1]⟩;simp only[Zf,←h1,←h2];split<;>try rfl
  split<;>try rfl
  split<;>try rfl
  split<;>try rfl
  rename_i id _ _ he;rw[h id (by rw[he];simp[D.shal])]
 |index t x ix=>
  have h1:=fun t=>hev t x (by simp[Op.operands])
  have h2:=fun t=>hev t ix (by simp[Op.operands])
  exact⟨by simp only[Zf,h1,h2],rfl⟩
 |lookup t m k ok=>
  have h1:=fun t=>hev t m (by simp[Op.operands])
  have h2:=fun t=>hev t k (by simp[Op.operands])
  refine⟨?_,Z4 hev h⟩;have hm:ZfI lk (ev E sl 0 m)=ZfI lk' (ev E sl 0 m):=Zhw fun id hid=>h id (Zob.2 ⟨m,by simp[Op.operands],Zd6 (by decide) _ hid⟩)
  have hk:=fun t=>(ZB (lk:=lk) (lk':=lk') 1 (ev E sl t k) fun id hid=>h id (Zob.2 ⟨k,by simp[Op.operands],by rw[Ziu]at hid;exact Zd6 (by decide) _ hid⟩)).1
  simp only[Zf,←h1,←h2,hm,hk]
 |range t x=>
  have h1:=fun t=>hev t x (by simp[Op.operands])
  simp only[Zea]at h;refine⟨?_,by simp only[Zea,h1]⟩;simp only[Zf,←h1];split<;>try rfl
  rename_i id _ he;rw[h id (by rw[he];simp[D.shal])]
 |next x s=>
  have h1:=fun t=>hev t x (by simp[Op.operands])
  simp only[Zea]at h;refine⟨?_,by simp only[Zea,h1]⟩;cases s with
  |false=>simp only[Zf]
  |true=>
   simp only[Zf,←h1];split<;>try rfl
   rename_i id he;rw[h id (by rw[he];simp[D.shal])]
 |entry x=>
  have h1:=fun t=>hev t x (by simp[Op.operands])
  simp only[Zea]at h;refine⟨?_,by simp only[Zea,h1]⟩;simp only[Zf,←h1];split<;>try rfl
  rename_i id he;rw[h id (by rw[he];simp[D.shal])]
 |extract x n=>have:=fun t=>hev t x (by simp[Op.operands]);exact⟨by simp only[Zf,this],rfl⟩
 |call c=>
  obtain⟨cal,args,ats⟩:=c;refine⟨?_,Z4 hev h⟩;cases cal with
  |builtin b=>
   simp only[Zf];have hx:∀x∈args.toList,x∈(Op.call {callee:= .builtin b,args:=args,argTypes:=ats}).operands.toList:=fun x hx=>by simpa[Op.operands,Call.operands]using hx
   rw[←Zbj (xs:=args.toList) (fun t x hx'=>hev t x (hx x hx')) args.toList ats.toList (fun x hx=>hx)];exact ZeM (Zes h args.toList ats.toList hx)
  |_=>simp only[Zf]
 |_=>exact⟨by simp only[Zf],Z4 hev h⟩
end
end Eng
namespace Eng
open Go
def Exec (C:Ctx) (r:Fm) (ops:Array Oper) (i:Nat) (st st':St):Prop:=
 ∀(X:Nat→Prop),¬X i→∀ρ S a w,Rep C X ρ S st a.tmps w→a.defers=r.ds→∀(b:Frame) (rest:List Nat) (kk:List Go.Item) (cs:List Frame),b.roundOf=r.r→
  ∃ρ' S' a' w',Rep C (fun j=>X j∨j=i) ρ' S' st' a'.tmps w'∧a'.defers=r.ds∧
   StepsIn (Machine.fenced C.E.prog (Zcz r.r)) C.E.prog (lone (b.atR a (.inRegion ops (i::rest)::kk)) cs w) (lone (b.atR a' (.inRegion ops rest::kk)) cs w')
section
variable {C:Ctx} {r:Fm}
theorem ZmR {ops:Array Oper} {i:Nat} {o:Oper} {st:St} {e:Eff} (hE:Zl C.E) (ho:ops[i]? =some o) (hg:ZX ops st o.guard=some true)
  (hc:Zf C.E st.ep i o.op o.type st.slots st.objs=some e) (hok:ZfB C.E o=true) (hw:Zdu st e=true) (hcond:∀q∈e.cond,q=true):Exec C r ops i st (st.app i o.dst e):=by
 intro X hX ρ S a w hr hd b rest kk cs hb;obtain⟨n,v,w',hrun,hn,ρ',S',hrep⟩:=does hr hX hok hE hc hw hcond;have hwant:=Za3 hr hg;refine⟨ρ',S',a.put o.dst v,w',hrep,by simp[hd], ?_⟩;have hsem:o.semAt b.roundOf a.eval=execOp a.eval o:=Oper.semAt_eq _ _ _ (fun c hc'=>by grind[Zf]);have hst:=stepGR_op (P:=C.E.prog) (b:=b) (a:=a) (k:=kk) (cs:=cs) (w:=w) (i:=i) (rest:=rest) ho hwant;have hfin:=Frame.finish_atR b a ops i rest kk v;simp only[ho,Option.bind_some]at hfin;refine .one (Zz _ _ _) ?_;refine step_lone_go ?_;rw[hst,hsem,←hfin];rcases hn with rfl |⟨rfl,rfl⟩<;>simp[stepG.apply,hrun]
theorem ZgM {ops:Array Oper} {i:Nat} {o:Oper} {st:St} (ho:ops[i]? =some o) (hg:ZX ops st o.guard=some false) (ht:Zdq C.E o=true):Exec C r ops i st (st.app i o.dst {val:= .undef}):=by intro X hX ρ S a w hr hd b rest kk cs hb;have hwant:=Za3 hr hg;obtain⟨S',hrep⟩:=hr.step (i:=i) (t:=o.dst) (e:={val:= .undef}) (v:=undef) (w':=w) ρ hX (Zbi ht) (ZnJ _) (ZQ.refl _) (fun _ _ _=>rfl) (by simp) (fun _ _ h=>h) (fun id h=> .inl h) (by simp) (fun _ _ hm=>by simp_all) (fun _ _ _ _ _ _ _ hm=>by simp_all) (by simp) (fun _ _ _ _ _=> .undef);refine⟨ρ,S',a.put o.dst undef,w,hrep,by simp[hd], ?_⟩;have hst:=stepR_op_skip (P:=C.E.prog) (b:=b) (a:=a) (k:=kk) (cs:=cs) (w:=w) (ops:=ops) (i:=i) (rest:=rest) (by simp_all);simp only[ho,Option.bind_some]at hst;exact .one (Zz _ _ _) hst
def Za0 (E:Env) (sl:Nat→D) (lk:Id→Option Obj) (xs:List Operand):List Id:=xs.flatMap fun x=>(ev E sl 0 x).ids lk (depth+2)
inductive OE (C:Ctx) (ops:Array Oper) (i:Nat) (o:Oper) (st:St):Eff→List Id→Prop
 |skip (hg:ZX ops st o.guard=some false) (hd:Zdq C.E o=true):OE C ops i o st {val:= .undef} []
 |op {e:Eff} (hg:ZX ops st o.guard=some true) (hc:Zf C.E st.ep i o.op o.type st.slots st.objs=some e) (hok:ZfB C.E o=true) (hw:Zdu st e=true) (hcond:∀q∈e.cond,q=true):
   OE C ops i o st e (Zea C.E o.op st.slots st.objs)
 |call {c:Call} {pts:List Nat} {ms:List AM} {f:Nat} {as:List AE} {ret:Ret} {e:Eff} (hg:ZX ops st o.guard=some true) (hop:o.op= .call c) (hd:Zdq C.E o=true)
   (hpre:ZlX C.E st c pts ms=some (f,as)) (hcnd:Zmc (as.flatMap (·.cond))) (hf:Fun C.E f (as.map (·.arg)) ret) (he:ZfY st i as ret=some e):OE C ops i o st e (Za0 C.E st.slots st.objs c.operands.toList)
theorem OE.exec {ops:Array Oper} {i:Nat} {o:Oper} {st:St} {e:Eff} {R:List Id} (hE:Zl C.E) (ho:ops[i]? =some o) (h:OE C ops i o st e R):Exec C r ops i st (st.app i o.dst e):=by
 cases h with
 |skip hg hd=>grind[ZgM]
 |op hg hc hok hw hcond=>grind[ZmR]
 |call hg hop hd hpre hcnd hf he=>
  intro X hX ρ S a w hr hda b rest kk cs hb;exact Zks hX hE ho hg hop hd _ _ hpre hcnd rfl hf he hr hda b rest kk cs hb
theorem Zjx {st st':St} {m:AM} {d:D} (h:Zn st.objs st'.objs (d.ids st.objs (depth+1))):ZdD st m d=ZdD st' m d:=by
 have h0:=ZB depth d fun id hid=>h id (Zd6 (by decide) d hid)
 unfold ZdD;split
 ·simp_all
 ·rename_i id;rw[←h id (by simp[D.ids])];cases hlk:st.objs id with
  |none=>rfl
  |some o=>
   cases o with
   |box ds=>
    have hh:∀x∈ds,x.toP st.objs depth=x.toP st'.objs depth∧x.ids st.objs depth=x.ids st'.objs depth:=fun x hx=>ZB depth x fun id' hid'=>h id' (by
     grind[D.ids])
    have h1:Zj (fun d=>d.toP st.objs depth) ds=Zj (fun d=>d.toP st'.objs depth) ds:=Za8 fun x hx=>(hh x hx).1
    have h2:(ds.flatMap fun d=>d.ids st.objs depth)=ds.flatMap fun d=>d.ids st'.objs depth:=by
     clear hlk h1
     induction ds with
     |nil=>rfl
     |cons x r ih=>simp_all
    simp_all
   |_=>rfl
 ·rename_i id len;rw[←h id (by simp)]
 ·rename_i id;rw[←h id (by simp)]
 ·rename_i id off len;rw[←h id (by simp)]
 ·rename_i k id;rw[←h id (by simp[D.ids])];cases hlk:st.objs id with
  |none=>rfl
  |some o=>
   split
   ·rename_i d m he;obtain rfl:=ZnN he;have hh:=ZB (lk:=st.objs) (lk':=st'.objs) depth d fun id' hid'=>h id' (by
     simp only[D.ids,hlk,ZnD];exact .inr (Zob.2 ⟨d,by simp,hid'⟩))
    simp_all
   ·rfl
 all_goals simp_all
theorem ZlJ {st:St} {m:AM} {d:D} {x:AE} {r:Id} (hx:ZdD st m d=some x) (hr:x.ref=some r):r∈d.ids st.objs (depth+1):=by
 unfold ZdD at hx;split at hx
 ·split at hx<;>simp at hx;subst hx;simp at hr
 ·split at hx;rotate_left;simp at hx;split at hx<;>simp at hx;subst hx;simp at hr
 ·split at hx<;>simp at hx;subst hx;simp at hr
 all_goals grind[D.ids]
theorem Zfc {lk:Id→Option Obj} {d:D} {g:Nat} {first caps:List D} (h:Zck d=some (g,first,caps)) (n:Nat):∀x,x∈first++caps→∀id∈x.ids lk n,id∈d.ids lk (n+1):=by
 unfold Zck at h;grind[D.ids]
theorem ZcC {E:Env} {sl sl':Nat→D} {lk lk':Id→Option Obj}:∀{xs:List Operand},(∀t x,x∈xs→ev E sl t x=ev E sl' t x)→Zn lk lk' (Za0 E sl lk xs)→Za0 E sl lk xs=Za0 E sl' lk' xs
 | [],_,_=>rfl
 |x::r,he,h=>by
  have h1:Zn lk lk' ((ev E sl 0 x).ids lk (depth+2)):=fun id hid=>h id (Zob.2 ⟨x,by simp,hid⟩)
  have h2:Zn lk lk' (Za0 E sl lk r):=fun id hid=>by obtain⟨y,hy,hi⟩:=Zob.1 hid;exact h id (Zob.2 ⟨y,by grind,hi⟩)
  have:=ZcC (xs:=r) (fun t y hy=>he t y (by grind)) h2;unfold Za0 at this⊢
  simp only[Zon,←he 0 x (by simp),←(ZB _ _ h1).2,this]
theorem Zer {E:Env} {sl:Nat→D}:∀(args:List Operand) (ts:List Nat) (d:D),d∈ZY E sl args ts→∃x t,x∈args∧d=ev E sl t x
 | [],ts,d,h=>by grind[ZY]
 |x::r,[],d,h=>by
  simp only[ZY,ZnD]at h;rcases h with rfl |h
  ·grind
  ·obtain⟨y,t,hy,rfl⟩:=Zer r [] d h;grind
 |x::r,t::ts,d,h=>by
  simp only[ZY,ZnD]at h;rcases h with rfl |h
  ·grind
  ·obtain⟨y,t,hy,rfl⟩:=Zer r ts d h;grind
theorem ZiT {E:Env} {st st':St} {c:Call} {pts:List Nat} {ms:List AM} {f:Nat} {as:List AE} (hev:∀t x,x∈c.operands.toList→ev E st.slots t x=ev E st'.slots t x)
  (h:Zn st.objs st'.objs (Za0 E st.slots st.objs c.operands.toList)) (hfz:∀k id,((0,k,0),id)∈Zaa 0 as→st'.fz id=st.fz id) (hp:ZlX E st c pts ms=some (f,as)):ZlX E st' c pts ms=some (f,as):=by
 have hids:∀x∈c.operands.toList,∀t,Zn st.objs st'.objs ((ev E st.slots t x).ids st.objs (depth+2)):=fun x hx t id hid=>h id (Zob.2 ⟨x,hx,by rw[Ziu]at hid;exact hid⟩)
 unfold ZlX at hp⊢
 split at hp
 case h_2=>simp at hp
 rename_i fo hcal;have hfo:fo∈c.operands.toList:=by simp[Call.operands,hcal]
 have hargs:∀x∈c.args.toList,x∈c.operands.toList:=fun x hx=>by simp[Call.operands,hcal];exact .inr (by simpa using hx)
 rw[←hev 0 fo hfo];split at hp
 case h_2=>simp at hp
 rename_i g first caps hcd
 simp only[←Zbj (xs:=c.operands.toList) hev c.args.toList pts hargs];have hag:∀d∈first++ZY E st.slots c.args.toList pts++caps,Zn st.objs st'.objs (d.ids st.objs (depth+1)):=by
  intro d hd id hid;simp only[Zn7]at hd;rcases hd with (hd |hd) |hd
  ·exact hids fo hfo 0 id (Zfc hcd (depth+1) d (by simp[hd]) id hid)
  ·obtain⟨x,t,hx,rfl⟩:=Zer _ _ _ hd;exact hids x (hargs x hx) t id (Zd6 (by decide) _ hid)
  ·exact hids fo hfo 0 id (Zfc hcd (depth+1) d (by simp[hd]) id hid)
 have hall:∀d∈first++ZY E st.slots c.args.toList pts++caps,∀m,ZdD st m d=ZdD st' m d:=fun d hd m=>Zjx (hag d hd)
 rw[←Za8 (f:=fun x:AM×D=>ZdD st x.1 x.2) (g:=fun x=>ZdD st' x.1 x.2) fun x hx=>hall _ (List.of_mem_zip hx).2 x.1];dsimp only at hp⊢
 split at hp
 case isFalse=>simp at hp
 rename_i hlen;simp only[hlen,if_true];split at hp
 case h_2=>simp at hp
 rename_i as0 has;have hhid:∀m∈as0.filterMap (·.ref),Zlt st m=Zlt st' m:=by
  intro m hm;obtain⟨x,hx,hr⟩:=List.mem_filterMap.1 hm;obtain⟨j,hj⟩:=Zou.1 hx;obtain⟨a1,a2⟩:=Zh has;have hjz:j < (ms.zip (first++ZY E st.slots c.args.toList pts++caps)).length:=by rw[←a1];exact(ZnA.1 hj).1
  have he:=a2 j _ x (Zn2 hjz) hj;have hd:=(List.of_mem_zip (List.getElem_mem hjz)).2;unfold Zlt;rw[hag _ hd m (ZlJ he hr)]
 rw[←Za8 hhid];split at hp
 case h_2=>simp at hp
 rename_i hs0 hhs;generalize as0++hs0=as' at*
 grind[Zgp,ZbI,freezeL_fz]
theorem ZhQ {st st':St} {i:Nat} {as:List AE} {ret:Ret} (h:st'.ep=st.ep):ZfY st' i as ret=ZfY st i as ret:=by grind[ZfY]
theorem ZfM {ops:Array Oper} {st st':St} {o:Oper} (h:∀t∈o.looksAt ops,st'.slots t=st.slots t):ZX ops st' o.guard=ZX ops st o.guard:=by
 grind[ZX,Oper.looksAt]
theorem Zlw {E:Env} {sl sl':Nat→D} {t:Nat} {x:Operand} (h:∀k,x= .tmp k→sl' k=sl k):ev E sl t x=ev E sl' t x:=by
 cases x with
 |tmp k=>grind[ev]
 |_=>rfl
theorem OE.congr {ops:Array Oper} {i:Nat} {o:Oper} {st st':St} {e:Eff} {R:List Id} (h:OE C ops i o st e R) (hs:∀t∈o.looksAt ops,st'.slots t=st.slots t) (hR:∀id∈R,st'.objs id=st.objs id)
  (hW:∀id∈e.wr.map (·.1),st'.fz id=st.fz id) (hep:st'.ep=st.ep):OE C ops i o st' e R:=by
 have hev:∀t x,x∈o.op.operands.toList→ev C.E st.slots t x=ev C.E st'.slots t x:=fun t x hx=>Zlw fun k hk=>hs k (by
  grind[Oper.looksAt])
 have hg':=ZfM hs;cases h with
 |skip hg hd=>exact .skip (by simp_all) hd
 |op hg hc hok hw hcond=>
  obtain⟨q1,q2⟩:=Zjk (ep:=st.ep) (i:=i) (ty:=o.type) hev (fun id hid=>(hR id hid).symm);rw[q2];refine .op (by simp_all) (by simp_all) hok ?_ hcond;grind[Zdu]
 |call hg hop hd hpre hcnd hf he=>
  rename_i c pts ms f as ret;have hev':∀t x,x∈c.operands.toList→ev C.E st.slots t x=ev C.E st'.slots t x:=fun t x hx=>hev t x (by rw[hop];exact hx)
  have hR':Zn st.objs st'.objs (Za0 C.E st.slots st.objs c.operands.toList):=fun id hid=>(hR id hid).symm
  rw[ZcC hev' hR'];refine .call (pts:=pts) (ms:=ms) (by simp_all) hop hd (ZiT hev' hR' (fun k id hm=> ?_) hpre) hcnd hf (by grind[ZhQ]);obtain⟨j,x,q1,q2,q3⟩:=ZbI 0 as _ _ hm;refine hW id ?_;unfold ZfY at he;split at he;rotate_left;simp at he;cases he;exact Zod.2 ⟨_,ZdC 0 as j x id q1 q3,rfl⟩
end
end Eng
namespace Eng
open Go
def ZgA (l:List (Id×Obj)) (id:Id):Option Obj:=
 match l with
 | []=>none
 |(a,o)::r=>match ZgA r id with
  |some u=>some u
  |none=>if id=a then some o else none
theorem Zli (l:List (Id×Obj)):∀(st:St) (id:Id),(st.objL l).objs id=(ZgA l id).or (st.objs id):=by
 induction l with
 |nil=>intro st id;rfl
 |cons x r ih=>
  obtain⟨a,o⟩:=x;intro st id;simp only[St.objL,ih,ZgA];cases ZgA r id with
  |some u=>rfl
  |none=>
   simp only[St.obj,upd,Option.or]
   grind
theorem ZaG {l:List (Id×Obj)} {id:Id} (h:id∉l.map (·.1)):ZgA l id=none:=by
 induction l with
 |nil=>rfl
 |cons x r ih=>
  grind[ZgA]
def news (ep i:Nat) (e:Eff):List (Id×Obj):=e.new.map fun x=>((ep,i,x.1),x.2)
theorem ZkR (st:St) (i:Nat) (t:Option Nat) (e:Eff) (id:Id):(st.app i t e).objs id=(ZgA (news st.ep i e) id).or ((ZgA e.wr id).or (st.objs id)):=by simp_all[St.app,Zli,news]
theorem Zhu {ep i:Nat} {e:Eff} {id:Id} (h:id∈(news ep i e).map (·.1)):id.1=ep∧id.2.1=i:=by grind[news]
def ZR (ep i:Nat) (W:List Id) (id:Id):Bool:=decide (id∈W)||(decide (id.1=ep)&&decide (id.2.1=i))
theorem Zdb {st:St} {i:Nat} {t:Option Nat} {e:Eff} {id:Id} (h:ZR st.ep i (e.wr.map (·.1)) id=false):(st.app i t e).objs id=st.objs id:=by grind[ZR,ZkR,ZaG,Zhu]
theorem ZlL {st:St} {i j:Nat} {di dj:Option Nat} {ei ej:Eff} (hij:i≠j) (hd:∀d,di=some d→dj≠some d) (h1:∀id∈ei.wr.map (·.1),ZR st.ep j (ej.wr.map (·.1)) id=false)
  (h2:∀id∈ej.wr.map (·.1),ZR st.ep i (ei.wr.map (·.1)) id=false):(st.app i di ei).app j dj ej=(st.app j dj ej).app i di ei:=by
 have hs:((st.app i di ei).app j dj ej).slots=((st.app j dj ej).app i di ei).slots:=by
  grind[ZaU]
 have ho:((st.app i di ei).app j dj ej).objs=((st.app j dj ej).app i di ei).objs:=by
  funext id;simp only[ZkR,ZcK]
  grind[ZR,ZaG,Zhu]
 have hf:((st.app i di ei).app j dj ej).fz=((st.app j dj ej).app i di ei).fz:=by grind[ZbK]
 have he:((st.app i di ei).app j dj ej).ep=((st.app j dj ej).app i di ei).ep:=by simp
 generalize (st.app i di ei).app j dj ej=s1 at*
 generalize (st.app j dj ej).app i di ei=s2 at*
 cases s1;simp_all
structure Fp where
 R:List Id:=[]
 W:List Id:=[]
 F:List Id:=[]
def ZhB (ops:Array Oper) (ep i j:Nat) (oi oj:Oper) (fi fj:Fp):Bool:=
 oi.apart ops oj&&(fi.R.all fun id=> !ZR ep j fj.W id)&&(fi.W.all fun id=> !ZR ep j fj.W id)&&(fj.R.all fun id=> !ZR ep i fi.W id)&&(fj.W.all fun id=> !ZR ep i fi.W id)&&
  (fi.F.all fun id=> !decide (id∈fj.W))&&(fj.F.all fun id=> !decide (id∈fi.W))
inductive ZeN (ops:Array Oper):Nat→Nat→Prop
 |one {j:Nat} {o:Oper} {e:Edge} (hj:ops[j]? =some o) (he:e∈o.after) (hb:Region.binds .any e=true):ZeN ops j e.on
 |more {j i:Nat} {o:Oper} {e:Edge} (hj:ops[j]? =some o) (he:e∈o.after) (hb:Region.binds .any e=true) (h:ZeN ops e.on i):ZeN ops j i
def Zfr (ops:Array Oper) (listed:Array Bool):Prop:=
 ∀j o,ops[j]? =some o→listed.getD j true=true→∀e∈o.after,Region.binds .any e=true→listed.getD e.on false=true
theorem Zhy {listed:Array Bool} {j:Nat} (h:listed.getD j false=true):listed.getD j true=true:=by
 grind
theorem ZeN.listed {ops:Array Oper} {listed:Array Bool} {j i:Nat} (h:ZeN ops j i) (hc:Zfr ops listed) (hj:∀o,ops[j]? =some o→∀e∈o.after,Region.binds .any e=true→listed.getD e.on false=true):
  listed.getD i false=true:=by
 induction h with
 |one ho he hb=>simp_all
 |more ho he hb _ ih=>exact ih fun o' ho' e' he' hb'=>hc _ o' ho' (Zhy (hj _ ho _ he hb)) e' he' hb'
theorem Zfr.set {ops:Array Oper} {listed:Array Bool} (h:Zfr ops listed) {i:Nat} (hi:i∈Region.ready .any ops listed):Zfr ops (listed.setIfInBounds i true):=by
 intro j o hj hl e he hb;refine getD_set_true ?_;obtain⟨_,oi,hoi,hall⟩:=mem_ready.1 hi
 by_cases hji:j=i
 ·simp_all
 ·rw[getD_set_ne true (Ne.symm hji)]at hl;exact h j o hj hl e he hb
section
variable {C:Ctx} {r:Fm} {ops:Array Oper} {tbl:List Fp} {K:St→Prop}
def D.isDead:D→Bool
 | .dead=>true
 |_=>false
def live (ops:Array Oper) (o:Oper) (st:St) (f:Fp):Bool:=(o.looksAt ops).all (fun t=> !(st.slots t).isDead)&&(f.R.all fun id=>(st.objs id).isSome)&&(f.W.all fun id=>(st.objs id).isSome)
def OEf (C:Ctx) (ops:Array Oper) (i:Nat) (o:Oper) (st:St) (e:Eff) (f:Fp):Prop:=OE C ops i o st e f.R∧f.W=e.wr.map (·.1)∧f.F=e.frz∧live ops o st f=true
def Zno (C:Ctx) (ops:Array Oper) (tbl:List Fp) (K:St→Prop):Nat→Array Bool→St→Prop
 |0,listed,st=>Region.ready .any ops listed=[]∧K st
 |n+1,listed,st=>(Region.ready .any ops listed=[]→K st)∧
   ∀i∈Region.ready .any ops listed,∃o e f,ops[i]? =some o∧tbl[i]? =some f∧OEf C ops i o st e f∧Zno C ops tbl K n (listed.setIfInBounds i true) (st.app i o.dst e)
theorem Zi6 {ep i j:Nat} {oi oj:Oper} {fi fj:Fp} (h:ZhB ops ep i j oi oj fi fj=true):oi.apart ops oj=true∧(∀id∈fi.R,ZR ep j fj.W id=false)∧(∀id∈fi.W,ZR ep j fj.W id=false)∧
  (∀id∈fj.R,ZR ep i fi.W id=false)∧(∀id∈fj.W,ZR ep i fi.W id=false)∧(∀id∈fi.F,id∉fj.W)∧(∀id∈fj.F,id∉fi.W):=by
 grind[ZhB]
theorem Ze5 {o:Oper} {st st':St} {f:Fp} (h:live ops o st f=true) (hs:∀t∈o.looksAt ops,st'.slots t=st.slots t) (hR:∀id∈f.R,st'.objs id=st.objs id) (hW:∀id∈f.W,st'.objs id=st.objs id):live ops o st' f=true:=by
 grind[live]
theorem OEf.swap {i j:Nat} {oi oj:Oper} {fi fj:Fp} {st:St} {ei ej:Eff} (hij:i≠j) (hi:OEf C ops i oi st ei fi) (hj:OEf C ops j oj (st.app i oi.dst ei) ej fj) (hin:ZhB ops st.ep i j oi oj fi fj=true):
  OEf C ops j oj st ej fj∧OEf C ops i oi (st.app j oj.dst ej) ei fi∧(st.app i oi.dst ei).app j oj.dst ej=(st.app j oj.dst ej).app i oi.dst ei:=by
 obtain⟨h1,h2,h3,h4,h5,h6,h7⟩:=Zi6 hin;obtain⟨a1,a2,a3⟩:=Oper.apart_spec h1;obtain⟨hi0,hiW,hiF,hiL⟩:=hi;obtain⟨hj0,hjW,hjF,hjL⟩:=hj;have hj':OE C ops j oj st ej fj.R:=by
  refine hj0.congr (fun t ht=> ?_) (fun id hid=> ?_) (fun id hid=> ?_) (ZcK _ _ _ _).symm
  all_goals grind[ZaU,Zdb,ZbK]
 refine⟨⟨hj',hjW,hjF, ?_⟩,⟨?_,hiW,hiF, ?_⟩, ?_⟩
 ·grind[Ze5,ZaU,Zdb]
 ·refine hi0.congr (fun t ht=> ?_) (fun id hid=> ?_) (fun id hid=> ?_) (ZcK _ _ _ _)
  all_goals grind[ZaU,Zdb,ZbK]
 all_goals grind[Ze5,ZaU,Zdb,ZlL]
theorem Zha {listed:Array Bool} {i:Nat} (h0:listed.getD i true=false) (h1:listed.getD i false=true):False:=by
 grind
theorem Zjz {i:Nat} {oi:Oper} {e:Eff} {f:Fp} (hi:ops[i]? =some oi) (hf:tbl[i]? =some f):∀(fuel:Nat) (listed:Array Bool) (st:St),Zfr ops listed→
   (∀j oj fj,ops[j]? =some oj→tbl[j]? =some fj→j≠i→listed.getD j true=false→¬ZeN ops j i→ZhB ops st.ep i j oi oj f fj=true)→
   i∈Region.ready .any ops listed→OEf C ops i oi st e f→
   Zno C ops tbl K fuel (listed.setIfInBounds i true) (st.app i oi.dst e)→Zno C ops tbl K (fuel+1) listed st:=by
 intro fuel
 induction fuel with
 |zero=>
  intro listed st _ _ hr hy H;refine⟨fun h=>(by simp_all),fun j hj=> ?_⟩
  by_cases hji:j=i
  ·grind
  ·have:=ready_mono hj hji;rw[H.1]at this;simp_all
 |succ fuel ih=>
  intro listed st hcl hfree hr hy H;refine⟨fun h=>(by simp_all),fun j hj=> ?_⟩
  by_cases hji:j=i
  ·grind
  ·obtain⟨oj,ej,fj,hoj,hfj,hyj,H1⟩:=H.2 j (ready_mono hj hji);obtain⟨hjun,oj',hoj',hall⟩:=mem_ready.1 hj;rw[hoj]at hoj';obtain rfl:=ZnN hoj';have hi0:=(mem_ready.1 hr).1;have hnw:¬ZeN ops j i:=fun hw=>Zha hi0 (hw.listed hcl fun o' ho'=>by rw[hoj]at ho';obtain rfl:=ZnN ho';exact hall)
   obtain⟨q1,q2,q3⟩:=OEf.swap (Ne.symm hji) hy hyj (hfree j oj fj hoj hfj hji hjun hnw);refine⟨oj,ej,fj,hoj,hfj,q1,ih (listed.setIfInBounds j true) (st.app j oj.dst ej) (hcl.set hj) (fun k ok fk hk hfk hki hun hno=> ?_) (ready_mono hr (Ne.symm hji)) q2 ?_⟩
   ·rw[ZcK];refine hfree k ok fk hk hfk hki ?_ hno
    by_cases hjk:j=k
    ·subst hjk;exact hjun
    ·rw[getD_set_ne true hjk]at hun;exact hun
   grind[Array.setIfInBounds_comm]
def masks (ops:List Oper):List Nat:=
 ops.foldl (init:=[]) fun acc o=>acc++[o.after.toList.foldl (fun s e=>if Region.binds .any e then s|||2 ^ e.on|||acc.getD e.on 0 else s) 0]
def Zkd (acc:List Nat) (es:List Edge) (s:Nat):Nat:=es.foldl (fun s e=>if Region.binds .any e then s|||2 ^ e.on|||acc.getD e.on 0 else s) s
theorem Zd0 {acc:List Nat} {i:Nat}:∀(es:List Edge) (s:Nat),(Zkd acc es s).testBit i=true→s.testBit i=true∨∃e∈es,Region.binds .any e=true∧(e.on=i∨(acc.getD e.on 0).testBit i=true)
 | [],s,h=> .inl h
 |e::es,s,h=>by
  have h:=Zd0 es _ h;grind
theorem Ze4 (ops:Array Oper):∀(l pre:List Oper) (acc:List Nat),pre++l=ops.toList→acc.length=pre.length→(∀j i,(acc.getD j 0).testBit i=true→ZeN ops j i)→
  ∀j i,((l.foldl (init:=acc) fun acc o=>acc++[o.after.toList.foldl (fun s e=>if Region.binds .any e then s|||2 ^ e.on|||acc.getD e.on 0 else s) 0]).getD j 0).testBit i=true→ZeN ops j i
 | [],pre,acc,_,_,h=>h
 |o::l,pre,acc,hp,hl,h=>by
  simp only[List.foldl_cons];refine Ze4 ops l (pre++[o]) _ (by simp_all) (by grind) fun j i hb=> ?_
  have ho:ops[pre.length]? =some o:=by rw[←ZnS,←hp];simp
  by_cases hj:j < acc.length
  ·grind
  ·by_cases hj2:j=acc.length
   ·subst hj2;have hb':(Zkd acc o.after.toList 0).testBit i=true:=by simpa[Zoo,Zkd]using hb
    rcases Zd0 _ _ hb' with h0 |⟨e,he,hbi,h0⟩
    ·simp at h0
    ·rw[hl];have he':e∈o.after:=by simpa using he
     rcases h0 with rfl |h0
     ·exact .one ho he' hbi
     ·exact .more ho he' hbi (h _ _ h0)
   grind
theorem Zhv {ops:Array Oper} {j i:Nat} (h:((masks ops.toList).getD j 0).testBit i=true):ZeN ops j i:=
 Ze4 ops ops.toList [] [] rfl rfl (fun j i h=>by grind) j i h
def ZeW (ops:Array Oper) (ep i:Nat) (oi:Oper) (fi:Fp):Nat→List Oper→List Fp→List Nat→Bool
 |_,[],_,_=>true
 |j,oj::os,fj::fs,m::ms=>(m.testBit i||ZhB ops ep i j oi oj fi fj)&&ZeW ops ep i oi fi (j+1) os fs ms
 |_,_,_,_=>false
def ZcT (ops:Array Oper) (ep:Nat):Nat→List Oper→List Fp→List Nat→Bool
 |_,[],_,_=>true
 |i,oi::os,fi::fs,m::ms=>ZeW ops ep i oi fi (i+1) os fs ms&&ZcT ops ep (i+1) os fs ms
 |_,_,_,_=>false
def Ziy:Nat→List Oper→Bool
 |_,[]=>true
 |i,o::os=>(o.after.toList.all fun e=> !Region.binds .any e||decide (e.on < i))&&Ziy (i+1) os
def ZgP (ops:Array Oper) (ep:Nat) (tbl:List Fp):Bool:=Ziy 0 ops.toList&&ZcT ops ep 0 ops.toList tbl (masks ops.toList)
theorem Zep:∀(l:List Oper) (i:Nat),Ziy i l=true→∀k o,l[k]? =some o→∀e∈o.after,Region.binds .any e=true→e.on < i+k
 | [],_,_,k,o,h=>by grind
 |o::l,i,h,k,o',hk=>by
  simp only[Ziy,Znu,ZnV,Bool.or_eq_true,Bool.not_eq_true',decide_eq_true_eq]at h;cases k with
  |zero=>
   grind
  |succ k=>
   simp at hk;intro e he hb;have:=Zep l (i+1) h.2 k o' hk e he hb;omega
theorem ZdO {ep i:Nat} {oi:Oper} {fi:Fp}:∀(os:List Oper) (fs:List Fp) (ms:List Nat) (j:Nat),ZeW ops ep i oi fi j os fs ms=true→∀k oj fj,os[k]? =some oj→fs[k]? =some fj→
  (ms.getD k 0).testBit i=true∨ZhB ops ep i (j+k) oi oj fi fj=true
 | [],_,_,_,_,k,oj,fj,h,_=>by grind
 |o::os,[],_,_,h,_,_,_,_,_=>by simp_all
 |o::os,f::fs,[],_,h,_,_,_,_,_=>by grind[ZeW]
 |o::os,f::fs,m::ms,j,h,k,oj,fj,ho,hf=>by
  simp only[ZeW,Znu,Bool.or_eq_true]at h;cases k with
  |zero=>simp_all
  |succ k=>
   simp at ho hf;have:=ZdO os fs ms (j+1) h.2 k oj fj ho hf;grind
theorem Zdh {ep:Nat}:∀(os:List Oper) (fs:List Fp) (ms:List Nat) (i:Nat),ZcT ops ep i os fs ms=true→∀k l oi oj fi fj,k < l→os[k]? =some oi→os[l]? =some oj→fs[k]? =some fi→fs[l]? =some fj→
  (ms.getD l 0).testBit (i+k)=true∨ZhB ops ep (i+k) (i+l) oi oj fi fj=true
 | [],_,_,_,_,k,l,oi,oj,fi,fj,_,h,_,_,_=>by grind
 |o::os,[],_,_,h,_,_,_,_,_,_,_,_,_,_,_=>by simp_all
 |o::os,f::fs,[],_,h,_,_,_,_,_,_,_,_,_,_,_=>by grind[ZcT]
 |o::os,f::fs,m::ms,i,h,k,l,oi,oj,fi,fj,hkl,h1,h2,h3,h4=>by
  simp only[ZcT,Znu]at h;cases l with
  |zero=>omega
  |succ l=>
   simp at h2 h4;cases k with
   |zero=>
    simp at h1 h3;subst h1 h3;have:=ZdO os fs ms (i+1) h.1 l oj fj h2 h4;grind
   |succ k=>
    simp at h1 h3;have:=Zdh os fs ms (i+1) h.2 k l oi oj fi fj (by omega) h1 h2 h3 h4;grind
def ZlQ (C:Ctx) (ops:Array Oper):List Fp→Nat→St→St→Prop
 | [],_,st,st'=>st=st'
 |f::r,k,st,st'=>∃o e,ops[k]? =some o∧OEf C ops k o st e f∧ZlQ C ops r (k+1) (st.app k o.dst e) st'
def Znn (n k:Nat) (listed:Array Bool):Prop:=listed.size=n∧∀j,j < n→listed[j]? =some (decide (j < k))
theorem Znn.set {n k:Nat} {listed:Array Bool} (h:Znn n k listed):Znn n (k+1) (listed.setIfInBounds k true):=by
 refine⟨by simp[h.1],fun j hj=> ?_⟩;rw[Array.getElem?_setIfInBounds]
 by_cases hjk:k=j
 ·subst hjk;simp[h.1,hj]
 ·rw[if_neg hjk,h.2 j hj];grind[ZnO]
theorem ZlP {ep:Nat} {st':St} (hok:ZgP ops ep tbl=true) (htl:tbl.length=ops.size) (hK:K st'):∀(l:List Fp) (k:Nat) (listed:Array Bool) (st:St),(∀j,l[j]? =tbl[k+j]?)→k+l.length=ops.size→
  Znn ops.size k listed→st.ep=ep→ZlQ C ops l k st st'→Zno C ops tbl K l.length listed st:=by
 simp only[ZgP,Znu]at hok;have hback:=Zep _ _ hok.1;have hpair:=Zdh _ _ _ _ hok.2;have hback':∀k o,ops[k]? =some o→∀e∈o.after,Region.binds .any e=true→e.on < k:=fun k o hk e he hb=>by simp_all
 have getD_t:∀{k:Nat} {listed:Array Bool},Znn ops.size k listed→∀j,j < ops.size→∀d,listed.getD j d=decide (j < k):=fun hu j hj d=>by rw[Array.getD_eq_getD_getElem?,hu.2 j hj];rfl
 have hclosed:∀{k:Nat} {listed:Array Bool},k≤ops.size→Znn ops.size k listed→Zfr ops listed:=by intro k listed hk hu j o hj hl e he hb;have hjs:=(Znq.1 hj).1;rw[getD_t hu j hjs]at hl;have:=hback' j o hj e he hb;have hl:=of_decide_eq_true hl;rw[getD_t hu _ (by omega)];grind
 intro l
 induction l with
 |nil=>
  intro k listed st _ hk hu _ hch;simp only[ZlQ]at hch;subst hch;simp only[List.length_nil,Nat.add_zero]at hk;refine⟨?_,hK⟩;refine List.eq_nil_iff_forall_not_mem.2 fun j hj=> ?_
  obtain⟨h0,o,ho,_⟩:=mem_ready.1 hj;have hjs:=(Znq.1 ho).1;rw[getD_t hu j hjs]at h0;simp_all
 |cons f l ih=>
  intro k listed st hl hk hu hep hch;obtain⟨o,e,ho,hoe,hch⟩:=hch;have hks:=(Znq.1 ho).1;have hf:tbl[k]? =some f:=by simpa using (hl 0).symm
  simp only[List.length_cons]at hk⊢
  refine Zjz ho hf l.length listed st (hclosed (by omega) hu) (fun j oj fj hj hfj hjk hun hnw=> ?_) (mem_ready.2 ⟨?_,o,ho,fun e' he' hb=> ?_⟩) hoe
   (ih (k+1) _ _ (fun j=>by have:=hl (j+1);simpa[ZnH,Nat.add_comm 1 j]using this) (by omega) hu.set (by rw[ZcK];exact hep) hch)
  ·have hjs:=(Znq.1 hj).1;rw[getD_t hu j hjs]at hun;simp at hun;have:=hpair k j o oj f fj (by omega) (by rw[ZnS];exact ho) (by rw[ZnS];exact hj) hf hfj;simp only[Zok]at this;rcases this with h |h
   ·exact absurd (Zhv h) hnw
   ·rw[hep];exact h
  ·rw[getD_t hu k hks];simp
  ·have:=hback' k o ho e' he' hb;rw[getD_t hu _ (by omega)];simpa using this
theorem Zno.run (hE:Zl C.E) {b:Frame} (kk:List Go.Item) (cs:List Frame) (hb:b.roundOf=r.r):∀(fuel t:Nat) (listed:Array Bool) (st:St),Zno C ops tbl K fuel listed st→∀(X:Nat→Prop),(∀j,j < ops.size→X j→listed.getD j true=true)→
  ∀ρ S a w,Rep C X ρ S st a.tmps w→a.defers=r.ds→∃X' ρ' S' st' a' w',Rep C X' ρ' S' st' a'.tmps w'∧a'.defers=r.ds∧K st'∧
   StepsIn (Machine.fenced C.E.prog (Zcz r.r)) C.E.prog (lone (b.atR a (.inRegion ops (Region.linearise.go .any ops fuel t listed [])::kk)) cs w) (lone (b.atR a' (.inRegion ops []::kk)) cs w'):=by
 intro fuel
 induction fuel with
 |zero=>
  intro t listed st h X hX ρ S a w hr hd;exact⟨X,ρ,S,st,a,w,hr,hd,h.2,by simp only[Region.linearise.go,List.reverse_nil];exact .refl _⟩
 |succ fuel ih=>
  intro t listed st h X hX ρ S a w hr hd;obtain⟨h0,h1⟩:=h;simp only[Region.linearise.go]
  change ∃X' ρ' S' st' a' w',_∧_∧_∧StepsIn _ _ (lone (b.atR a (.inRegion ops (match (Region.ready .any ops listed)[t % (Region.ready .any ops listed).length]? with
   |some i=>Region.linearise.go .any ops fuel (t / (Region.ready .any ops listed).length) (listed.setIfInBounds i true) [i]
   |none=>[].reverse)::kk)) cs w) _
  cases hi:(Region.ready .any ops listed)[t % (Region.ready .any ops listed).length]? with
  |none=>
   have hnil:Region.ready .any ops listed=[]:=by
    cases hr:Region.ready .any ops listed with
    |nil=>rfl
    |cons x xs=>
     grind[Nat.mod_lt]
   exact⟨X,ρ,S,st,a,w,hr,hd,h0 hnil,by simp only[List.reverse_nil];exact .refl _⟩
  |some i=>
   have hir:=Zoe hi;obtain⟨o,e,f,ho,_,hoe,hrest⟩:=h1 i hir;have his:=(Znq.1 ho).1;have hun:=(mem_ready.1 hir).1;obtain⟨ρ1,S1,a1,w1,hr1,hd1,hs1⟩:=(hoe.1.exec (r:=r) hE ho) X (fun hx=>by simp_all) ρ S a w hr hd b (Region.linearise.go .any ops fuel (t / (Region.ready .any ops listed).length) (listed.setIfInBounds i true) []) kk cs hb;obtain⟨X',ρ',S',st',a',w',q1,q2,q3,q4⟩:=ih (t / (Region.ready .any ops listed).length) _ _ hrest (fun j=>X j∨j=i) (fun j hjs hj=>by
    rcases hj with hj |rfl
    ·by_cases hji:i=j
     ·subst hji;rw[hX i his hj]at hun;cases hun
     ·rw[getD_set_ne true hji];exact hX j hjs hj
    simp_all) ρ1 S1 a1 w1 hr1 hd1
   refine⟨X',ρ',S',st',a',w',q1,q2,q3, ?_⟩;dsimp only;rw[linearise_go_acc,List.reverse_singleton,List.singleton_append];exact hs1.trans q4
theorem Rep.drawn {X:Nat→Prop} {ρ:Id→Option Lay} {S:Nat→Prop} {st:St} {tm:Array Value} {w:World} (h:Rep C X ρ S st tm w) (n:Nat):Rep C X ρ S st tm {w with drawn:=n}:=by
 have kp:ZbM S w {w with drawn:=n}:=fun _ _ _=>rfl
 exact {h with
  slots:=fun k=>(h.slots k).mono kp (fun _ h=>h) (fun _ _ h=>h)
  objs:=fun id o ho hg=>by obtain⟨L,hL,hr⟩:=h.objs id o ho hg;exact⟨L,hL,hr.mono kp (fun _ h=>h) (fun _ _ h=>h) (fun _ _=>rfl)⟩
  glob:=fun g cs hm=>(h.glob g cs hm).mono kp (fun _ h=>h)
  fam:=by obtain⟨κ,F⟩:=h.fam;refine⟨κ,fun id i sz c k l L hk hL=> ?_,F.own,F.inj⟩;obtain⟨b,v,q1,q2,q3,q4⟩:=F.kid _ _ _ _ _ _ L hk hL;exact⟨b,v,q1,q2,q3.mono kp (fun _ h=>h) (fun _ _ h=>h),q4.mono kp (fun _ h=>h) (fun _ _ h=>h) fun _ _=>rfl⟩}
variable {G:Zg6}
def DW (C:Ctx) (r:Fm) (G:Zg6) (k:List Item) (ops:Array Oper) (hist:List Fp) (st:St):Prop:=
 ∃rest st',(hist++rest).length=ops.size∧ZgP ops st.ep (hist++rest)=true∧ZlQ C ops rest hist.length st st'∧AWP C r G k st'.next
theorem dw_op {k:List Item} {hist:List Fp} {st:St} {o:Oper} {e:Eff} {f:Fp} (ho:ops[hist.length]? =some o) (h:OEf C ops hist.length o st e f) (h1:DW C r G k ops (hist++[f]) (st.app hist.length o.dst e)):DW C r G k ops hist st:=by obtain⟨rest,st',q1,q2,q3,q4⟩:=h1;refine⟨f::rest,st',by simp_all,by simp_all,⟨o,e,ho,h,by simp_all⟩,q4⟩
theorem dw_end {k:List Item} {hist:List Fp} {st:St} (hl:hist.length=ops.size) (hok:ZgP ops st.ep hist=true) (h1:AWP C r G k st.next):DW C r G k ops hist st:=
 ⟨[],st,by simp_all,by simp_all,rfl,h1⟩
theorem ZlF {k:List Item} {st:St} {id:Nat} (hE:Zl C.E) (hm:C.E.prog.follows .mixedOrders=true) (h:DW C r G k ops [] st):AWP C r G (.c (.region id ops true)::k) st:=by intro ρ S a w hr hd b k0 cs hb;obtain⟨rest,st',q1,q2,q3,q4⟩:=h;simp only[List.nil_append]at q1 q2;have hany:=ZlP (K:=fun s=>s=st') q2 q1 rfl rest 0 (Array.replicate ops.size false) st (by simp) (by omega) ⟨by simp,fun j hj=>by grind⟩ rfl q3;rw[q1]at hany;have hr0:Rep C (fun _=>False) ρ S st a.tmps w:=hr;obtain⟨X',ρ',S',st2,a',w',p1,p2,p3,p4⟩:=hany.run hE (b:=b) (k.map conc++k0) cs hb ops.size (w.tape w.drawn (.order b.fn id)) _ _ (fun _=>False) (fun _ _ h=>h.elim) ρ S a {w with drawn:=w.drawn+1} (hr0.drawn _) hd;subst p3;obtain⟨e,a2,w2,hg,harr⟩:=q4 ρ' S' a' w' (p1.nextEp.weakX (fun _ h=>h.elim)) p2 b k0 cs hb;refine⟨e,a2,w2,hg,.of_steps ?_ harr⟩;refine .head (Zz _ _ _) (stepR_region_draw) (StepsIn.trans (m₁:=lone (b.atR a' (.inRegion ops []::(k.map conc++k0))) cs w') ?_ (.one (Zz _ _ _) stepR_region_end));simp only[Region.schedule,hm,Bool.true_or,if_true];exact p4
end
end Eng
namespace Eng
open Go
structure Under (st2 st:St):Prop where
 ep:st2.ep=st.ep
 slots:∀k,st2.slots k= .dead∨st2.slots k=st.slots k
 objs:∀id,st2.objs id=none∨st2.objs id=st.objs id
 fz:∀id,st2.fz id=st.fz id
section
variable {C:Ctx} {r:Fm} {G:Zg6} {ops:Array Oper}
def objL (st:St):List Id→Option (List Obj)
 | []=>some []
 |id::r=>match st.objs id,objL st r with
  |some o,some os=>some (o::os)
  |_,_=>none
end
end Eng
namespace Eng
open Go
def ZjF (w w':World):Prop:=ZQ w w'∧w.heap.size≤w'.heap.size∧∀b,b < w.heap.size→w'.heap[b]? =w.heap[b]?
theorem ZjF.keptBut {w w':World} (h:ZjF w w') (may:MemPlace→Prop):w.keptBut w' may:=by
 refine⟨h.1.1,h.1.2,fun i hi=> ?_⟩;rw[h.2.2 i hi];grind
theorem Zfj:∀(n:Nat) (xs:List P),Zcl n (xs.map .p)=[]
 |_,[]=>rfl
 |n,x::xs=>by simp only[Zn6,Zcl,Arg.o];exact Zfj (n+1) xs
theorem Zkk {E:Env} {f:Nat} {xs:List P} {vals:Array Value} {w:World} {y:P} (hF:Fun E f (xs.map .p) ⟨[.p y],[]⟩) (hb:(E.prog.funcs[f]?.map fun fn=>fn.body.isNone)=some false) (hv:vals.size=xs.length)
  (hrel:∀(k:Nat) v x,vals[k]? =some v→xs[k]? =some x→RelP w (fun b=>b < w.heap.size) v x) (hglob:∀g cs,(g,cs)∈E.globs→ZeC w (fun b=>b < w.heap.size) g cs):
  Calls E.prog f vals w fun e w'=>(∃v S,e= .returned v∧RelP w' S v y)∧ZjF w w':=by
 obtain hF |⟨⟨fn,h1,h2⟩,_⟩:=hF
 case inr=>simp_all
 refine Calls.mono (CallsIn.calls (hF.2 w (fun _=>False) (fun b=>b < w.heap.size) (fun _=>none) (fun _=>none) vals (by simp_all) ?_) (fun _=>by intro d hd;grind[Zcz])) ?_
 ·have ho:∀id,(Zeu (xs.map .p)).objs id=none:=fun id=>by show Zg (Zcl 0 (xs.map .p)) id=none;rw[Zfj];rfl
  exact {
   nt:=rfl
   grow:=ZnJ _
   frame:=fun _ _ _=>rfl
   s0:=fun _ h=>h
   sIn:=fun _ h=>h
   slots:=fun k=>by
    show RelD w _ _ (vals.getD k undef) (Zaz D.dead (Zc9 0 (xs.map .p)) k);rcases ZaS D.dead (Zc9 0 (xs.map .p)) k with hk |hk
    ·rw[hk];exact .dead _
    ·obtain⟨j,x,q1,q2,q3⟩:=Zex 0 _ _ _ hk;rw[Zok]at q2 q3;subst q2;rw[ZnB,ZnM]at q1;obtain⟨x0,q1,rfl⟩:=q1;rw[q3];have hlt:=(ZnA.1 q1).1;have hv':vals[k]? =some vals[k]:=by simp
     rw[show vals.getD k undef=vals[k] by simp_all];exact .p _ _ (hrel k _ x0 hv' q1)
   objs:=fun id o h=>by simp_all
   own:=fun id o L b h=>by simp_all
   inj:=fun id o L id' o' L' b h=>by simp_all
   known:=fun id h=>absurd (ho id) h
   young:=fun id h=>absurd rfl h
   fzk:=fun id h=>by cases h
   glob:=hglob
   sOut:=fun b h=> .inl h
   ep1:=ZnJ _
   quiet:= .refl _
   lay:=fun k L h=>by grind
   fam:=Fam.none fun id o h=>by simp_all}
 ·rintro e w' ⟨vs,ρ',S',rfl,hvs,hrep⟩;refine⟨⟨Zhc vs,S',rfl, ?_⟩,hrep.quiet,hrep.grow,fun b hb=>hrep.frame b hb (fun h=>h)⟩;have h1:vs.size=1:=by omega
  have:=hrep.slots 0;have h2:vs.getD 0 undef=vs[0]:=by simp[h1]
  rw[h2]at this;unfold Zhc;rw[dif_pos h1];exact this.of_p
theorem ZkX {E:Env} {f:Nat} {xs:List P} {vals:Array Value} {w:World} {y:Bool} (hF:Fun E f (xs.map .p) ⟨[.p (.bool y)],[]⟩) (hb:(E.prog.funcs[f]?.map fun fn=>fn.body.isNone)=some false) (hv:vals.size=xs.length)
  (hrel:∀(k:Nat) v x,vals[k]? =some v→xs[k]? =some x→RelP w (fun b=>b < w.heap.size) v x) (hglob:∀g cs,(g,cs)∈E.globs→ZeC w (fun b=>b < w.heap.size) g cs):
  Calls E.prog f vals w fun e w'=>e= .returned (.bool y)∧ZjF w w':=
 Calls.mono (Zkk hF hb hv hrel hglob) fun e w' ⟨⟨v,S,he,hr⟩,hk⟩=>⟨by cases hr;omega,hk⟩
open Go.ChangeShapes Go.WideShapes in
theorem ZlY {H:Type} {P:Program} {enc:TypeId×Value→H} {f:Func} {s:ChangeSpec} {apart fresh handsOn again:Bool} {W W':World} {args:Array Value} {v:Value} {ds gs:List (DataW H)} {before pa pv:List MemPlace}
  (hW:DataW.Whole enc P f.params.toList s.vars apart W args.toList ds gs before)
  (hres:∀(b:Nat) (sp:Nat→Bool) (hd:Bool),DataW.TrodAll enc P W' b sp hd f.resultTypes.toList (v.resultList f.resultTypes.size) (s.fn H (ds++gs)).results [])
  (hargs:∀sp:Nat→Bool,(∀p∈before,sp p.block=true)→DataW.TrodAll enc P W' 0 sp true f.params.toList args.toList (s.fn H (ds++gs)).args pa)
  (hvars:∀sp:Nat→Bool,(∀p∈before,sp p.block=true)→DataW.TrodVars enc P W' sp s.vars (s.fn H (ds++gs)).vars pv)
  (hps:before=pa++pv) (hk:ZjF W W')
  (hok:∀(j:Nat) (t:TypeId) (r:Value),f.resultTypes[j]? =some t→(v.resultList f.resultTypes.size)[j]? =some r→Value.okWide P W' .any 0 t r):
  s.post enc P f apart fresh handsOn again W args v W':=by
 have hold:∀p∈before,(fun b=>decide (b < W.heap.size)) p.block=true:=fun p hp=>by simpa using hW.lt p hp
 have hlt:=hW.lt
 refine⟨ds,gs,before,[],pa,pv,hW,hres _ _ _,hargs _ hold,hvars _ hold,World.keptBut_mono (fun p hp=>⟨hp, ?_⟩) (hk.keptBut (· ∈before)),fun _=> ?_⟩
 ·rw[hps,List.mem_append]at hp
  exact Or.inr hp
 ·obtain⟨_,_,_,_,_,hz,hn⟩:=hW
  refine⟨hok,_,_,([]++pa)++pv,⟨[]++pa,pv,trodAll_append (hargs _ (fun _ _=>rfl)) (hres _ _ _),hvars _ (fun _ _=>rfl),rfl, ?_, ?_⟩, ?_⟩
  ·intro b off hp
   have hp':MemPlace.cell b off∈before:=by rw[hps];simpa using hp
   have hb:b < W.heap.size:=hlt _ hp'
   rw[ZaQ (hk.2.2 b hb)]
   exact hz b off hp'
  ·intro ha
   have:=hn ha
   rw[hps]at this
   simpa using this
  ·intro p hp _
   rw[hps]
   simpa using hp
end Eng
namespace Eng
open Go
def chk {α:Type} (b:Bool) (k:Option α):Option α:=match b with
 |true=>k
 |false=>none
theorem Zi {α:Type} {b:Bool} {k:Option α} {r:α} (h:chk b k=some r):b=true∧k=some r:=by cases b<;>simp_all [chk]
@[simp] theorem chk_true {α:Type} (k:Option α):chk true k=k:=rfl
theorem bind_some {α β:Type} {x:Option α} {f:α→Option β} {r:β} (h:x.bind f=some r):∃a,x=some a∧f a=some r:=by cases x<;>simp_all
def inK (k:IntKind) (n:Int):Bool:=match k with
 | .i64=>Zls n
 |k=>decide (k.min≤n∧n≤k.max)
def idx {α:Type} (xs:List α) (n:Int):Option α:=if 0≤n then xs[n.toNat]? else none
theorem Zin {α:Type} {xs:List α} {n:Int} {x:α} (h:idx xs n=some x):0≤n∧n < xs.length∧xs[n.toNat]? =some x:=by grind[idx]
theorem Zh1 {α:Type} (xs:List α) (f:α→P):(xs.map f).take xs.length=xs.map f:=by grind[Zor]
theorem dt_map {α:Type} (xs:List α) (f:α→P):((xs.map f).drop 0).take xs.length=xs.map f:=by grind[Zh1]
section
variable {C:Ctx} {r:Fm} {G:Zg6} {ops:Array Oper}
end
inductive Out (β ρ:Type) where
 |brk (b:β)
 |ret (r:ρ)
def Zma (f:Func):Code:=match f.body with |some c=>c |none=> .skip
def sub:List Nat→Code→Code
 | [],c=>c
 |0::p,.seq a _=>sub p a
 |1::p,.seq _ b=>sub p b
 |2::p,.cond _ a _=>sub p a
 |3::p,.cond _ _ b=>sub p b
 |4::p,.block _ b=>sub p b
 |5::p,.loop b=>sub p b
 |_::_,_=> .skip
def big:Nat:=36893488147419103232
theorem big_eq:big=36893488147419103232:=rfl
abbrev Str:=List UInt8
def encL {α:Type} (sz:Nat) (f:α→P) (xs:List α):P:= .sl sz (xs.map f)
end Eng
namespace Eng
open Go
section
variable {C:Ctx} {X:Nat→Prop} {ρ:Id→Option Lay} {S:Nat→Prop} {st:St} {tm:Array Value} {w:World}
theorem obj_fz (st:St) (id:Id) (o:Obj):(st.obj id o).fz=st.fz:=rfl
theorem Zka (st:St) (id id':Id) (o:Obj):(st.obj id o).objs id'=if id'=id then some o else st.objs id':=rfl
theorem Rep.settle (h:Rep C X ρ S st tm w) {id:Id} {sz c k lo:Nat} {es:List P} (hlk:st.objs id=some (.own sz c k es lo none)) (hfz:st.fz id=false):
  ∃S',Rep C X ρ S' (st.obj id (.arr sz es false)) tm w:=by
 obtain⟨κ,F⟩:=h.fam;let S':Nat→Prop:=fun b=>S b∨∃i l,Kid st.objs st.fz id i sz c k l∧(κ id i).blk=some b
 have hSS:∀b,S b→S' b:=fun b hb=> .inl hb
 have kp:ZbM S w w:=fun _ _ _=>rfl
 obtain⟨L,hL,hsz,hel,hlc,hlm,hcz,hbn,hcells,hrel⟩:=h.objs id _ hlk (by simp);subst hsz;have get:∀{id1 o},(st.obj id (.arr L.sz es false)).objs id1=some o→(id1=id∧o= .arr L.sz es false)∨(id1≠id∧st.objs id1=some o):=by
  grind[Zka]
 have old:∀{id1 o},(st.obj id (.arr L.sz es false)).objs id1=some o→o≠ .gone→∃o',st.objs id1=some o'∧o'≠ .gone:=fun ho hg=>by
  grind
 have notKid:∀{id1 o L1 b},st.objs id1=some o→o≠ .gone→ρ id1=some L1→L1.blk=some b→¬∃i l,Kid st.objs st.fz id i L.sz c k l∧(κ id i).blk=some b:=by rintro id1 o L1 b ho hg hL1 hb ⟨i,l,hk,hb'⟩;exact(F.own _ _ _ _ _ _ b hk hb').2.2.2 id1 o L1 ho hg hL1 hb
 have ko:∀{id1 i sz1 c1 k1 l},Kid (st.obj id (.arr L.sz es false)).objs (st.obj id (.arr L.sz es false)).fz id1 i sz1 c1 k1 l→Kid st.objs st.fz id1 i sz1 c1 k1 l∧id1≠id:=by
  rintro id1 i sz1 c1 k1 l ⟨es1,lo1,out1,cs1,ho,hf,r⟩;rcases get ho with ⟨rfl,he⟩ |⟨hne,ho⟩
  ·grind
  ·exact⟨⟨es1,lo1,out1,cs1,ho,hf,r⟩,hne⟩
 refine⟨S',h.nt,h.grow,h.frame,fun b hb=> .inl (h.s0 b hb),fun b hb=> ?_,fun k=>(h.slots k).mono kp hSS (fun _ _ h=>h),fun id1 o ho hg=> ?_,fun id1 o L1 b ho hg hL1 hb=> ?_,fun id1 o L1 id2 o2 L2 b ho hg hL1 hb ho2 hg2 hL2 hb2=> ?_,fun id1 hn=> ?_,h.young,h.fzk,fun g cs hm=>(h.glob g cs hm).mono kp hSS,fun b hb=> ?_,h.ep1,h.quiet,h.lay,κ,fun id1 i sz1 c1 k1 l L1 hk hL1=> ?_,fun id1 i sz1 c1 k1 l b hk hb=> ?_,fun id1 i sz1 c1 k1 l id2 i2 sz2 c2 k2 l2 b hk hk2=>F.inj _ _ _ _ _ _ _ _ _ _ _ _ b (ko hk).1 (ko hk2).1⟩
 ·rcases hb with hb |⟨i,l,hk,hb⟩
  ·exact h.sIn b hb
  ·exact(F.own _ _ _ _ _ _ b hk hb).1
 ·rcases get ho with ⟨rfl,rfl⟩ |⟨_,ho⟩
  ·
   refine⟨L,hL,rfl,hel,hlc,hlm,hbn,hcells,fun i=> .agg ((Array.range L.sz).map fun j=>match L.blk with |some b=>(w.cell? ⟨b,L.base+i*L.sz+j,none⟩).getD default |none=>default),fun i _=>by simp[Value.cells],fun b hb i j v hi hv=> ?_,fun i e he=> ?_⟩
   ·have hmul:(i+1)*L.sz≤L.cap*L.sz:=Nat.mul_le_mul_right _ (by omega);rw[Nat.add_mul,Nat.one_mul]at hmul;simp only[Value.cells,hb,Array.getElem?_map,ZnM]at hv;obtain⟨j',hj',rfl⟩:=hv;have hjj:j < L.sz:=by grind
    have:j'=j:=by grind
    subst this;obtain⟨⟨u,hu⟩,_⟩:=hcells b hb (i*L.sz+j') (by omega);grind
   ·have hi:i < L.len:=by grind
    obtain⟨cs,l,rfl,q2,q3,q4⟩:=hrel i e he;cases hbk:L.blk with
    |none=>simp_all
    |some b=>
     have hmul:(i+1)*L.sz≤L.cap*L.sz:=Nat.mul_le_mul_right _ (by omega);rw[Nat.add_mul,Nat.one_mul]at hmul;have cl:∀j v,((Array.range L.sz).map fun j=>(w.cell? ⟨b,L.base+i*L.sz+j,none⟩).getD default)[j]? =some v→w.cell? ⟨b,L.base+i*L.sz+j,none⟩=some v:=by
      intro j v hv;simp only[Array.getElem?_map,ZnM]at hv;obtain⟨j',hj',rfl⟩:=hv;have hjj:j < L.sz:=by have:=(Znq.1 hj').1;simpa using this
      have:j'=j:=by obtain⟨_,e⟩:=Znq.1 hj';simpa using e.symm
      subst this;obtain⟨⟨u,hu⟩,_⟩:=hcells b hbk (i*L.sz+j') (by omega);grind
     refine .agg _ cs (by simp[q2]) (fun j v hv=> ?_) (fun j v x hv hx=> ?_)
     ·have hjl:j < cs.length:=by have:=(Znq.1 hv).1;simp at this;omega
      exact(q4 b hbk j cs[j] v (by simp) (cl j v hv)).1
     ·have r:=q4 b hbk j x v hx (cl j v hv)
      by_cases hj:j≠c∨lo≤i
      ·exact(r.2 hj).mono kp hSS
      ·have hjc:j=c:=by omega
       subst hjc;have hk:Kid st.objs st.fz id1 i L.sz j k l:=⟨es,lo,none,cs,hlk,hfz,he,q3,by omega,by simp⟩;rw[q3]at hx;obtain rfl:=ZnN hx;obtain⟨b',v',hb',hv',hr,hro⟩:=F.kid _ _ _ _ _ _ L hk hL;rw[hbk]at hb';obtain rfl:=ZnN hb';rw[cl j v hv]at hv';obtain rfl:=ZnN hv';refine Zaf (S:=S) (ρ:=fun _=>some (κ id1 i)) (lk:=fun _=>some (.arr k l false)) (fun _ o ho _=>⟨_,rfl,by cases ho;exact hro⟩) hSS 0 _ v _ hr (by simp[Zbm]) (fun id2 _ L2 b2 hL2 hb2=> ?_);cases hL2;exact .inr ⟨i,l,hk,hb2⟩
  ·obtain⟨L1,hL1,hr⟩:=h.objs id1 o ho hg;exact⟨L1,hL1,hr.mono kp hSS (fun _ _ h=>h) fun _ _=>rfl⟩
 ·obtain⟨o',ho',hg'⟩:=old ho hg;obtain⟨q1,q2,q3,q4⟩:=h.own id1 o' L1 b ho' hg' hL1 hb;exact⟨q1,q2,fun hf=> .inl (q3 hf),fun hf hs=>hs.elim (q4 hf) (notKid ho' hg' hL1 hb)⟩
 ·obtain⟨o',ho',hg'⟩:=old ho hg;obtain⟨o2',ho2',hg2'⟩:=old ho2 hg2;exact h.inj _ _ _ _ _ _ b ho' hg' hL1 hb ho2' hg2' hL2 hb2
 ·cases ho:(st.obj id (.arr L.sz es false)).objs id1 with
  |none=>exact absurd ho hn
  |some o=>
   rcases get ho with ⟨rfl,_⟩ |⟨_,ho⟩
   ·exact h.known _ (by simp[hlk])
   ·exact h.known _ (by simp[ho])
 ·rcases hb with hb |⟨i,l,hk,hb⟩
  ·exact h.sOut b hb
  ·exact .inr (F.own _ _ _ _ _ _ b hk hb).2.1
 ·obtain⟨b,v,q1,q2,q3,q4⟩:=F.kid _ _ _ _ _ _ L1 (ko hk).1 hL1;exact⟨b,v,q1,q2,q3.mono kp hSS (fun _ _ h=>h),q4.mono kp hSS (fun _ _ h=>h) fun _ _=>rfl⟩
 ·obtain⟨q1,q2,q3,q4⟩:=F.own _ _ _ _ _ _ b (ko hk).1 hb;refine⟨q1,q2,fun hs=>hs.elim q3 fun⟨i',l',hk',hb'⟩=> ?_,fun id2 o L2 ho hg hL2 hb2=> ?_⟩
  ·exact(ko hk).2 (F.inj _ _ _ _ _ _ _ _ _ _ _ _ b (ko hk).1 hk' hb hb').1
  ·obtain⟨o',ho',hg'⟩:=old ho hg;exact q4 id2 o' L2 ho' hg' hL2 hb2
theorem Rep.unsettle (h:Rep C X ρ S st tm w) {id:Id} {sz c k:Nat} {es:List P} (hlk:st.objs id=some (.arr sz es false)) (hc:∀e∈es,∃cs l,e= .agg cs∧cs[c]? =some (.sl k l)) (hcz:c < sz):
  Rep C X ρ S (st.obj id (.own sz c k es 0 none)) tm w:=by
 obtain⟨κ,F⟩:=h.fam;have get:∀{id1 o},(st.obj id (.own sz c k es 0 none)).objs id1=some o→(id1=id∧o= .own sz c k es 0 none)∨(id1≠id∧st.objs id1=some o):=by
  grind[Zka]
 have old:∀{id1 o},(st.obj id (.own sz c k es 0 none)).objs id1=some o→o≠ .gone→∃o',st.objs id1=some o'∧o'≠ .gone:=fun ho hg=>by
  grind
 have ko:∀{id1 i sz1 c1 k1 l},Kid (st.obj id (.own sz c k es 0 none)).objs (st.obj id (.own sz c k es 0 none)).fz id1 i sz1 c1 k1 l→Kid st.objs st.fz id1 i sz1 c1 k1 l:=by
  rintro id1 i sz1 c1 k1 l ⟨es1,lo1,out1,cs1,ho,hf,q1,q2,q0,r⟩;rcases get ho with ⟨rfl,he⟩ |⟨hne,ho⟩
  ·simp_all
  ·exact⟨es1,lo1,out1,cs1,ho,hf,q1,q2,q0,r⟩
 refine⟨h.nt,h.grow,h.frame,h.s0,h.sIn,h.slots,fun id1 o ho hg=> ?_,fun id1 o L1 b ho hg hL1 hb=> ?_,fun id1 o L1 id2 o2 L2 b ho hg hL1 hb ho2 hg2 hL2 hb2=> ?_,fun id1 hn=> ?_,h.young,h.fzk,h.glob,h.sOut,h.ep1,h.quiet,h.lay,κ,fun id1 i sz1 c1 k1 l L1 hk hL1=>F.kid _ _ _ _ _ _ L1 (ko hk) hL1,fun id1 i sz1 c1 k1 l b hk hb=> ?_,fun id1 i sz1 c1 k1 l id2 i2 sz2 c2 k2 l2 b hk hk2=>F.inj _ _ _ _ _ _ _ _ _ _ _ _ b (ko hk) (ko hk2)⟩
 ·rcases get ho with ⟨rfl,rfl⟩ |⟨_,ho⟩
  ·obtain⟨L,hL,hsz,hel,hlc,hlm,hbn,hcells,evs,hev,hcell,hrel⟩:=h.objs id1 _ hlk (by simp);subst hsz;refine⟨L,hL,rfl,hel,hlc,hlm,hcz,hbn,hcells,fun i e he=> ?_⟩;obtain⟨cs,l,rfl,q⟩:=hc e (Zoe he);have hi:i < L.len:=by grind
   have hr:=hrel i _ he;have hs:=hr.size;rw[hev i hi]at hs;simp only[P.cells]at hs;refine⟨cs,l,rfl,hs.symm,q,fun b hb j x v hx hv=> ?_⟩;have hjl:j < (evs i).cells.size:=by grind
   have hu:(evs i).cells[j]? =some (evs i).cells[j]:=by grind
   have:=hcell b hb i j _ hi hu;rw[hv]at this;obtain rfl:=ZnN this;have r:=hr.cell hu hx;simp_all
  ·exact h.objs id1 o ho hg
 ·obtain⟨o',ho',hg'⟩:=old ho hg;exact h.own id1 o' L1 b ho' hg' hL1 hb
 ·obtain⟨o',ho',hg'⟩:=old ho hg;obtain⟨o2',ho2',hg2'⟩:=old ho2 hg2;exact h.inj _ _ _ _ _ _ b ho' hg' hL1 hb ho2' hg2' hL2 hb2
 ·cases ho:(st.obj id (.own sz c k es 0 none)).objs id1 with
  |none=>simp_all
  |some o=>
   rcases get ho with ⟨rfl,_⟩ |⟨_,ho⟩
   ·exact h.known _ (by grind)
   ·exact h.known _ (by grind)
 ·obtain⟨q1,q2,q3,q4⟩:=F.own _ _ _ _ _ _ b (ko hk) hb;grind
end
theorem Zju {C:Ctx} {r:Fm} {G:Zg6} {k:List Item} {st:St} {id:Id} {sz c kk lo:Nat} {es:List P} (hlk:st.objs id=some (.own sz c kk es lo none)) (hfz:st.fz id=false)
  (h:AWP C r G k (st.obj id (.arr sz es false))):AWP C r G k st:=fun ρ S a w hr hd=>by
 obtain⟨S',hr'⟩:=hr.settle hlk hfz;exact h ρ S' a w hr' hd
theorem ZgY {C:Ctx} {r:Fm} {G:Zg6} {k:List Item} {st:St} {id:Id} {sz c kk:Nat} {es:List P} (hlk:st.objs id=some (.arr sz es false)) (hc:∀e∈es,∃cs l,e= .agg cs∧cs[c]? =some (.sl kk l)) (hcz:c < sz)
  (h:AWP C r G k (st.obj id (.own sz c kk es 0 none))):AWP C r G k st:=fun ρ S a w hr hd=>h ρ S a w (hr.unsettle hlk hc hcz) hd
end Eng
namespace Eng
open Go
inductive Ty where
 |bool |int (k:IntKind) |str |sl (t:Ty) |st (n:Nat) |map (k v:Ty) |fnc
 deriving DecidableEq,Inhabited
def Ty.td:Ty→TD
 | .bool=> .bool
 | .int k=> .int k
 | .str=> .str
 | .st _=> .arr 2 0
 |_=> .other
@[reducible] def El (car:Nat→Type):Ty→Type
 | .bool=>Bool
 | .int _=>Int
 | .str=>List UInt8
 | .sl t=>List (El car t)
 | .st n=>car n
 | .map k v=>List (El car k×El car v)
 | .fnc=>Option Nat
structure Lf (car:Nat→Type) where
 t:Ty
 x:El car t
structure Zd where
 car:Nat→Type
 size:Nat→Nat
 cells:(n:Nat)→car n→List (Lf car)
 of:(n:Nat)→List (Lf car)→Option (car n)
 enc:(n:Nat)→car n→P
def Zd.tsize (U:Zd):Ty→Nat
 | .st n=>U.size n
 |_=>1
def Zkw:Option Nat→P
 |some f=> .fn f [] []
 |none=> .nilfn
def Zd.encE (U:Zd):(t:Ty)→El U.car t→P
 | .bool,b=> .bool b
 | .int k,n=> .int k n
 | .str,s=> .str s
 | .sl t,xs=> .sl (U.tsize t) (xs.map (U.encE t))
 | .st n,x=>U.enc n x
 | .map k v,kv=> .map k.td (kv.map fun e=>(U.encE k e.1,U.encE v e.2))
 | .fnc,x=>Zkw x
def Zd.encL (U:Zd) (l:Lf U.car):P:=U.encE l.t l.x
def Zd.cellsE (U:Zd):(t:Ty)→El U.car t→List (Lf U.car)
 | .st n,x=>U.cells n x
 |t,x=>[⟨t,x⟩]
def Zd.ofE (U:Zd):(t:Ty)→List (Lf U.car)→Option (El U.car t)
 | .st n,cs=>U.of n cs
 |t,[c]=>if h:c.t=t then some (h▸c.x)else none
 |_,_=>none
structure UOk (U:Zd):Prop where
 of_cells:∀n cs x,U.of n cs=some x→U.cells n x=cs
 enc_cells:∀n x,U.enc n x= .agg ((U.cells n x).map U.encL)
 len:∀n x,(U.cells n x).length=U.size n
inductive TV (U:Zd) where
 |v (t:Ty) (x:El U.car t)
 |pp (cs:List (Lf U.car))
 |nilp |nilfn
 |dead |undef
 |nils (t:Ty)
 |clip (t:Ty) (xs:List (El U.car t))
 |agg (cs:List (TV U))
 |tup (vs:List (TV U))
 |full (id:Id) (n:Nat)
 |sl (id:Id) (off len:Nat)
 |ptr (id:Id) (i j:Nat)
 |map (id:Id)
 |it (id:Id)
 |fn (f:Nat) (first caps:List (TV U))
 |rp (x:Option (Lf U.car)) (id:Id)
instance {U:Zd}:Inhabited (TV U):=⟨.dead⟩
inductive TO (U:Zd) where
 |box (cs:List (TV U))
 |arr (t:Ty) (xs:List (El U.car t)) (fix:Bool)
 |map (k v:Ty) (kv:List (El U.car k×El U.car v))
 |sit (s:List UInt8) (pos:Nat)
 |mit (k v:Ty) (rest:List (El U.car k×El U.car v)) (cur:Option (El U.car k×El U.car v))
 |gone
 |own (t:Ty) (c:Nat) (u:Ty) (xs:List (El U.car t)) (lo:Nat) (out:Option Nat)
structure TS (U:Zd) where
 slots:Nat→TV U
 objs:Id→Option (TO U)
 fz:Id→Bool
 ep:Nat
def fnD (f:Nat) (a b:List D):D:=match Zj D.pure? a,Zj D.pure? b with
 |some x,some y=> .p (.fn f x y)
 |_,_=> .fn f a b
mutual
def TV.enc {U:Zd}:TV U→D
 | .v t x=> .p (U.encE t x)
 | .pp cs=> .p (.ptr (cs.map U.encL))
 | .nilp=> .p .nilp
 | .nilfn=> .p .nilfn
 | .dead=> .dead
 | .undef=> .undef
 | .nils t=> .nils (U.tsize t)
 | .clip t xs=> .clip (U.tsize t) (xs.map (U.encE t))
 | .agg cs=> .mkAgg (TV.encs cs)
 | .tup vs=> .tup (TV.encs vs)
 | .full id n=> .sl id 0 n
 | .sl id off len=> .sl id off len
 | .ptr id i j=> .ptr id i j
 | .map id=> .map id
 | .it id=> .it id
 | .fn f a b=>fnD f (TV.encs a) (TV.encs b)
 | .rp x id=> .rp (x.map U.encL) id
def TV.encs {U:Zd}:List (TV U)→List D
 | []=>[]
 |d::r=>d.enc::TV.encs r
end
theorem Zai {U:Zd}:∀l:List (TV U),TV.encs l=l.map TV.enc
 | []=>rfl
 |d::r=>by rw[TV.encs,Zai r];rfl
def TO.enc {U:Zd}:TO U→Obj
 | .box cs=> .box (TV.encs cs)
 | .arr t xs fix=> .arr (U.tsize t) (xs.map (U.encE t)) fix
 | .map k v kv=> .map k.td (kv.map fun e=>(U.encE k e.1,U.encE v e.2))
 | .sit s pos=> .sit s pos
 | .mit k v rest cur=> .mit (rest.map fun e=>(U.encE k e.1,U.encE v e.2)) (cur.map fun e=>(U.encE k e.1,U.encE v e.2))
 | .gone=> .gone
 | .own t c u xs lo out=> .own (U.tsize t) c (U.tsize u) (xs.map (U.encE t)) lo out
def TO.len? {U:Zd}:TO U→Option Nat
 | .arr _ xs _=>some xs.length
 | .own _ _ _ xs _ _=>some xs.length
 |_=>none
def ZiV {U:Zd}:Option (TO U)→Option Obj
 |some o=>some o.enc
 |none=>none
def TS.enc {U:Zd} (T:TS U):St:={slots:=fun k=>(T.slots k).enc,objs:=fun id=>ZiV (T.objs id),fz:=T.fz,ep:=T.ep}
mutual
def TV.fulls {U:Zd}:TV U→List (Id×Nat)
 | .full id n=>[(id,n)]
 | .agg cs=>TV.fullsL cs
 | .tup cs=>TV.fullsL cs
 | .fn _ a b=>TV.fullsL a++TV.fullsL b
 |_=>[]
def TV.fullsL {U:Zd}:List (TV U)→List (Id×Nat)
 | []=>[]
 |d::r=>d.fulls++TV.fullsL r
end
theorem Zq {U:Zd} {q:Id×Nat}:∀{l:List (TV U)},q∈TV.fullsL l↔∃d∈l,q∈d.fulls
 | []=>by simp[TV.fullsL]
 |d::r=>by simp[TV.fullsL,Zq (l:=r)]
def Zgz {U:Zd} (lk:Id→Option (TO U)) (q:Id×Nat):Prop:=∃o,lk q.1=some o∧∀n,o.len?=some n→n=q.2
def TV.inv {U:Zd} (lk:Id→Option (TO U)) (d:TV U):Prop:=∀q∈d.fulls,Zgz lk q
def TO.inv {U:Zd} (lk:Id→Option (TO U)):TO U→Prop
 | .box cs=>∀d∈cs,d.inv lk
 |_=>True
structure TS.Inv {U:Zd} (T:TS U):Prop where
 slots:∀k,(T.slots k).inv T.objs
 objs:∀id o,T.objs id=some o→o.inv T.objs
theorem ZbV {U:Zd} (hU:UOk U) (t:Ty) (x:El U.car t):(U.cellsE t x).length=U.tsize t:=by cases t<;>first |exact hU.len _ _ |rfl
theorem ZaH {U:Zd} (hU:UOk U) (t:Ty) (x:El U.car t):(U.encE t x).cells=(U.cellsE t x).map U.encL:=by
 cases t with
 |st n=>simp only[Zd.encE,Zd.cellsE,hU.enc_cells n x,P.cells]
 |fnc=>cases x<;>rfl
 |_=>rfl
theorem ZaO {U:Zd} (hU:UOk U) {t:Ty} {cs:List (Lf U.car)} {x:El U.car t} (h:U.ofE t cs=some x):U.cellsE t x=cs:=by
 have one:∀(t:Ty) (c:Lf U.car) (x:El U.car t),(if h:c.t=t then some (h▸c.x)else none)=some x→[(⟨t,x⟩:Lf U.car)]=[c]:=by intro t c x h;split at h;rotate_left;simp at h;rename_i he;obtain⟨t',y⟩:=c;grind
 cases t with
 |st n=>exact hU.of_cells n cs x h
 |_=>
  match cs,h with
  | [c],h=>exact one _ c x h
end Eng
namespace Eng
open Go
structure TT (U:Zd) where
 ti:TI
 n:Option Nat
 ty:Ty
 zero:List (TV U)
 zl:Option (Lf U.car)
structure OwnT where
 t:Nat
 n:Nat
 c:Nat
 u:Ty
structure ZG (U:Zd) where
 prog:Program
 tt:List (Option (TT U))
 globs:List (Nat×List (Lf U.car))
 nt:Nat
 owns:List OwnT:=[]
 keys:List Nat:=[]
 kq:(n:Nat)→U.car n→U.car n→Bool:=fun _ _ _=>false
def tiOf {U:Zd}:Option (TT U)→Option TI
 |some e=>some e.ti
 |none=>none
def ZG.E {U:Zd} (X:ZG U):Env:={prog:=X.prog,tys:=X.tt.map tiOf,globs:=X.globs.map fun g=>(g.1,g.2.map U.encL),nt:=X.nt,owns:=X.owns.map fun q=>(q.t,q.c,U.tsize q.u)}
def ZG.at {U:Zd} (X:ZG U) (n:Nat):ZG U:={X with nt:=n}
def ZG.get {U:Zd} (X:ZG U) (t:Nat):Option (TT U):=match X.tt[t]? with |some (some e)=>some e |_=>none
def ZG.elem {U:Zd} (X:ZG U) (t:Nat):Option (TT U):=match X.get t with
 |some e=>match e.ti.d with
  | .sl u=>X.get u
  |_=>none
 |none=>none
structure TOk {U:Zd} (X:ZG U):Prop where
 zero:∀t e,X.get t=some e→TV.encs e.zero=e.ti.zero.map Z.toD
 zl:∀t e l,X.get t=some e→e.zl=some l→U.encL l=e.ti.zeroP
 agg:∀t e,X.get t=some e→e.ti.isAgg=e.n.isSome
 size:∀t e n,X.get t=some e→e.n=some n→e.ti.size=U.size n
 key:∀t e k v,X.get t=some e→e.ty= .map k v→X.E.keyTD t=k.td
 inv:∀t e,X.get t=some e→∀d∈e.zero,d.fulls=[]
 own:∀q∈X.owns,q.c < U.size q.n∧∀x:U.car q.n,∃l,(U.cells q.n x)[q.c]? =some ⟨.sl q.u,l⟩
 kq:∀n∈X.keys,∀x y:U.car n,∃a b c d,U.enc n x= .agg [.int .i64 a,.int .i64 b]∧U.enc n y= .agg [.int .i64 c,.int .i64 d]∧X.kq n x y=(a == c&&b == d)
section
variable {U:Zd} {X:ZG U}
theorem Zs {t:Nat} {e:TT U} (h:X.get t=some e):X.E.ty t=some e.ti:=by unfold ZG.get at h;unfold Env.ty ZG.E;simp only[ZnB];split at h;rotate_left;simp at h;rename_i e' he;cases h;rw[he];rfl
theorem Zt {t:Nat} {e:TT U} (h:X.get t=some e):X.E.td t=some e.ti.d:=by grind[Env.td,Zs]
theorem Zax {t:Nat} {e:TT U} (h:X.elem t=some e):X.E.elem t=some e.ti:=by unfold ZG.elem at h;unfold Env.elem;split at h;rotate_left;simp at h;rename_i e' he;rw[Zs he];split at h;rotate_left;simp at h;rename_i u hu;rw[←Zs h];generalize e'.ti=ti at hu;obtain⟨d,a,b,c⟩:=ti;simp_all
def evT (X:ZG U) (sl:Nat→TV U) (t:Nat):Operand→Option (TV U)
 | .tmp s=>some (sl s)
 | .const (.bool b)=>some (.v .bool b)
 | .const (.int k n)=>some (.v (.int k) n)
 | .const (.string s)=>some (.v .str s.data.toList)
 | .const (.slice none 0 0)=>match X.elem t with
  |some e=>if U.tsize e.ty=e.ti.size then some (.nils e.ty)else none
  |none=>none
 | .const (.pointer none)=>some .nilp
 | .const .nilFunc=>some .nilfn
 | .const (.map none)=>match X.get t with
  |some e=>match e.ty with
   | .map k v=>some (.v (.map k v) [])
   |_=>none
  |none=>none
 | .func f=>some (.fn f [] [])
 | .global g=>match X.globs.find? (·.1 == g)with
  |some x=>some (.pp x.2)
  |none=>none
 |_=>none
theorem Zis {α:Type} (f:α→P) (g:Nat):∀l:List (Nat×List α),(l.map fun x=>(x.1,x.2.map f)).find? (·.1 == g)=(l.find? (·.1 == g)).map fun x=>(x.1,x.2.map f)
 | []=>rfl
 |x::r=>by
  simp only[Zn6,List.find?_cons];split
  ·rfl
  ·exact Zis f g r
theorem ZmT (hX:TOk X) {sl:Nat→TV U} {t:Nat} {x:Operand} {d:TV U} (h:evT X sl t x=some d):ev X.E (fun k=>(sl k).enc) t x=d.enc:=by
 unfold evT at h;split at h
 ·cases h;rfl
 ·cases h;rfl
 ·cases h;rfl
 ·cases h;rfl
 ·grind[ev,D.ofV,Env.elemSize,TV.enc,Zax]
 ·cases h;rfl
 ·cases h;rfl
 ·split at h;rotate_left;simp at h;rename_i e he;split at h;rotate_left;simp at h;rename_i k v hty;cases h;simp only[ev,D.ofV,hX.key t e k v he hty,TV.enc,Zd.encE,Zot]
 ·cases h;rfl
 ·split at h;rotate_left;simp at h;rename_i q hq;cases h;simp only[ev,Env.glob,ZG.E,Zis,hq,Zow,TV.enc]
 simp_all
def lv (l:Lf U.car):TV U:= .v l.t l.x
def TV.leaf?:TV U→Option (Lf U.car)
 | .v t x=>some ⟨t,x⟩
 |_=>none
theorem Zkj {d:TV U} {l:Lf U.car} (h:d.leaf?=some l):d=lv l:=by cases d<;>simp[TV.leaf?]at h;subst h;rfl
def ZdX (n:Option Nat) (cs:List (TV U)):TV U:=
 match n,Zj TV.leaf? cs with
 |some n,some ls=>match U.of n ls with
  |some x=> .v (.st n) x
  |none=> .agg cs
 |_,_=> .agg cs
def TV.cells:TV U→List (TV U)
 | .agg cs=>cs
 | .v (.st n) x=>(U.cells n x).map lv
 |d=>[d]
theorem ZbD (ls:List (Lf U.car)):TV.encs (ls.map lv)=(ls.map U.encL).map .p:=by rw[Zai,List.map_map,List.map_map];rfl
theorem ZaF (ps:List P):Zj D.pure? (ps.map .p)=some ps:=by
 induction ps with
 |nil=>rfl
 |cons x r ih=>grind[Zj,D.pure?]
theorem Zcu (ps:List P):D.mkAgg (ps.map .p)= .p (.agg ps):=by grind[D.mkAgg,ZaF]
theorem ZcL:∀{cs:List (TV U)} {ls:List (Lf U.car)},Zj TV.leaf? cs=some ls→cs=ls.map lv
 | [],ls,h=>by grind[Zj]
 |d::r,ls,h=>by simp only[Zj]at h;split at h;rotate_left;simp at h;rename_i l ls' h1 h2;cases h;simp only[Zn6,←ZcL h2,Zkj h1]
theorem ZeZ (hU:UOk U) (n:Option Nat) (cs:List (TV U)):(ZdX n cs).enc=D.mkAgg (TV.encs cs):=by
 unfold ZdX;split
 ·rename_i n ls hls;rw[ZcL hls];split
  ·rename_i x hx;rw[ZbD,Zcu,TV.enc,Zd.encE,hU.enc_cells,hU.of_cells _ _ _ hx]
  ·rw[TV.enc]
 ·rw[TV.enc]
theorem Zgx (n:Option Nat) (cs:List (TV U)) {q:Id×Nat} (h:q∈(ZdX n cs).fulls):∃d∈cs,q∈d.fulls:=by
 unfold ZdX at h;grind[Zq,TV.fulls]
theorem Zjj (ds:List D):(D.mkAgg ds).cells=ds:=by
 grind[D.mkAgg,D.cells,Zx]
theorem Zkq (f:Nat) (a b:List D):(fnD f a b).cells=[fnD f a b]:=by unfold fnD;split<;>rfl
theorem Zen (hU:UOk U) (d:TV U):TV.encs d.cells=d.enc.cells:=by
 cases d with
 |agg cs=>rw[TV.cells,TV.enc,Zjj]
 |v t x=>
  cases t with
  |st n=>simp only[TV.cells,ZbD,TV.enc,Zd.encE,hU.enc_cells,D.cells]
  |fnc=>cases x<;>rfl
  |_=>rfl
 |fn f a b=>grind[TV.cells,TV.encs,TV.enc,Zkq]
 |_=>rfl
theorem ZhM {d:TV U} {q:Id×Nat}:(∃c∈d.cells,q∈c.fulls)→q∈d.fulls:=by
 rintro⟨c,hc,hq⟩;cases d with
 |agg cs=>exact Zq.2 ⟨c,hc,hq⟩
 |v t x=>
  cases t<;>simp only[TV.cells,ZnF,Zod]at hc
  all_goals grind[lv,TV.fulls]
 |_=>simp only[TV.cells,ZnF]at hc;subst hc;exact hq
def TV.okv:TV U→Bool
 | .dead | .undef | .tup _=>false
 |_=>true
theorem ZfG {d:TV U} (h:d.okv=true):d.enc.okv=true:=by
 cases d with
 |agg cs=>rw[TV.enc];unfold D.mkAgg;cases Zj D.pure? (TV.encs cs)<;>rfl
 |fn f a b=>rw[TV.enc];unfold fnD;cases Zj D.pure? (TV.encs a)<;>cases Zj D.pure? (TV.encs b)<;>rfl
 |dead=>grind[TV.okv]
 |undef=>grind[TV.okv]
 |tup _=>grind[TV.okv]
 |_=>rfl
def TS.lf1 (T:TS U):TV U→Option (Lf U.car)
 | .v t x=>some ⟨t,x⟩
 | .nils t=>some ⟨.sl t,[]⟩
 | .clip t xs=>some ⟨.sl t,xs⟩
 | .nilfn=>some ⟨.fnc,none⟩
 | .fn f [] []=>some ⟨.fnc,some f⟩
 | .full id _=>match T.objs id with
  |some (.arr t xs _)=>some ⟨.sl t,xs⟩
  |_=>none
 | .sl id off len=>match T.objs id with
  |some (.arr t xs _)=>some ⟨.sl t,(xs.drop off).take len⟩
  |_=>none
 | .map id=>match T.objs id with
  |some (.map k v kv)=>some ⟨.map k v,kv⟩
  |_=>none
 |_=>none
def TS.lf (T:TS U) (h:Option Nat):TV U→Option (Lf U.car)
 | .agg cs=>match h,Zj T.lf1 cs with
  |some n,some ls=>match U.of n ls with
   |some x=>some ⟨.st n,x⟩
   |none=>none
  |_,_=>none
 |d=>T.lf1 d
theorem ZcZ {T:TS U} {d:TV U} {l:Lf U.car} (hi:d.inv T.objs) (h:T.lf1 d=some l) (m:Nat):d.enc.toP T.enc.objs m=some (U.encL l):=by
 unfold TS.lf1 at h;split at h
 ·cases h;simp[TV.enc,Zd.encL]
 ·cases h;simp[TV.enc,Zd.encL,Zd.encE]
 ·cases h;simp[TV.enc,Zd.encL,Zd.encE]
 ·cases h;simp[TV.enc,Zd.encL,Zd.encE,Zkw]
 ·cases h;simp[TV.enc,TV.encs,fnD,Zj,Zd.encL,Zd.encE,Zkw]
 ·rename_i id n;split at h;rotate_left;simp at h;rename_i t xs fix ho;cases h;obtain⟨o,h1,h2⟩:=hi (id,n) (by simp[TV.fulls]);dsimp only at h1 h2;rw[ho,ZnO]at h1;subst h1;have hl:=h2 _ rfl;grind[TV.enc,Zbm,TS.enc,ZiV,TO.enc,Zd.encL,Zd.encE,dt_map]
 ·rename_i id off len;split at h;rotate_left;simp at h;rename_i t xs fix ho;cases h;grind[TV.enc,Zbm,TS.enc,ZiV,TO.enc,Zd.encL,Zd.encE,List.map_take,Zos]
 ·rename_i id;split at h;rotate_left;simp at h;rename_i k v kv ho;cases h;grind[TV.enc,Zbu,TS.enc,ZiV,TO.enc,Zd.encL,Zd.encE]
 simp_all
theorem ZjL (lk:Id→Option Obj) (m:Nat) (ds:List D):(D.mkAgg ds).toP lk (m+1)=(Zj (D.toP lk m) ds).map .agg:=by
 unfold D.mkAgg;split
 ·rename_i ps h;rw[ZjK,Zx h];have:Zj (D.toP lk m) (ps.map .p)=some ps:=by
   clear h
   induction ps with
   |nil=>rfl
   |cons x r ih=>grind[Zj,ZjK]
  simp_all
 ·rfl
theorem Zcw {T:TS U} (m:Nat):∀{cs:List (TV U)} {ls:List (Lf U.car)},(∀d∈cs,d.inv T.objs)→Zj T.lf1 cs=some ls→Zj (D.toP T.enc.objs m) (TV.encs cs)=some (ls.map U.encL)
 | [],ls,_,h=>by simp[Zj]at h;subst h;rfl
 |d::r,ls,hi,h=>by simp only[Zj]at h;split at h;rotate_left;simp at h;rename_i l ls' h1 h2;cases h;simp only[TV.encs,Zj,ZcZ (hi d (by simp)) h1 m,Zcw m (fun x hx=>hi x (by grind)) h2,Zn6]
theorem ZhU {lk:Id→Option (TO U)} {cs:List (TV U)} (h:(TV.agg cs).inv lk):∀d∈cs,d.inv lk:=fun d hd q hq=>h q (Zq.2 ⟨d,hd,hq⟩)
theorem Zd2 (hU:UOk U) {T:TS U} {hn:Option Nat} {d:TV U} {l:Lf U.car} (hi:d.inv T.objs) (h:T.lf hn d=some l) (m:Nat):d.enc.toP T.enc.objs (m+1)=some (U.encL l):=by
 cases d with
 |agg cs=>
  simp only[TS.lf]at h;split at h;rotate_left;simp at h;rename_i n ls hls;split at h;rotate_left;simp at h;rename_i x hx;cases h;rw[TV.enc,ZjL,Zcw m (ZhU hi) hls];simp only[Zow,Zd.encL,Zd.encE,hU.enc_cells,hU.of_cells _ _ _ hx]
 |_=>exact ZcZ hi h _
structure Zk (U:Zd) where
 val:TV U
 new:List (Nat×TO U):=[]
 wr:List (Id×TO U):=[]
 frz:List Id:=[]
def Zk.enc (e:Zk U) (cs:List Bool):Eff:=
 {val:=e.val.enc,new:=e.new.map fun x=>(x.1,x.2.enc),wr:=e.wr.map fun x=>(x.1,x.2.enc),frz:=e.frz,cond:=cs}
def TS.objL (T:TS U):List (Id×TO U)→TS U
 | []=>T
 |(id,o)::r=>TS.objL {T with objs:=upd T.objs id (some o)} r
def TS.freezeL (T:TS U) (l:List Id):TS U:={T with fz:=fun id=>l.contains id||T.fz id}
def TS.setO (T:TS U):Option Nat→TV U→TS U
 |some t,d=>{T with slots:=upd T.slots t d}
 |none,_=>T
def TS.app (T:TS U) (i:Nat) (dst:Option Nat) (e:Zk U):TS U:=
 (((T.objL e.wr).objL (e.new.map fun x=>((T.ep,i,x.1),x.2))).freezeL e.frz).setO dst e.val
def TS.next (T:TS U):TS U:={T with ep:=T.ep+1}
theorem ZeQ {a b:St} (h1:a.slots=b.slots) (h2:a.objs=b.objs) (h3:a.fz=b.fz) (h4:a.ep=b.ep):a=b:=by cases a;simp_all
theorem objL_enc:∀(l:List (Id×TO U)) (T:TS U),(T.objL l).enc=T.enc.objL (l.map fun x=>(x.1,x.2.enc))
 | [],T=>rfl
 |(id,o)::r,T=>by simp only[TS.objL,Zn6,St.objL];rw[objL_enc r];congr 1;refine ZeQ rfl ?_ rfl rfl;funext x;simp only[TS.enc,St.obj,upd];split<;>rfl
theorem freezeL_enc (l:List Id) (T:TS U):(T.freezeL l).enc=T.enc.freezeL l:=by
 refine ZeQ ?_ ?_ ?_ ?_
 ·simp[TS.freezeL,TS.enc]
 ·simp[TS.freezeL,TS.enc]
 ·funext id;rw[Eng.freezeL_fz];rfl
 ·simp[TS.freezeL,TS.enc]
theorem Zk9 (T:TS U) (dst:Option Nat) (d:TV U):(T.setO dst d).enc=T.enc.setO dst d.enc:=by
 cases dst with
 |none=>rfl
 |some t=>
  refine ZeQ ?_ rfl rfl rfl;funext x;simp only[TS.setO,TS.enc,St.setO,St.set,upd];grind
theorem Zbk (T:TS U) (i:Nat) (dst:Option Nat) (e:Zk U) (cs:List Bool):(T.app i dst e).enc=T.enc.app i dst (e.enc cs):=by simp only[TS.app,St.app,Zk9,Eng.freezeL_enc,Eng.objL_enc,Zk.enc,List.map_map];rfl
def Zc0 (o:Option (TO U)) (o':TO U):Prop:=∀n,o'.len?=some n→∃o0,o=some o0∧o0.len?=some n
def fresh (T:TS U) (i:Nat) (e:Zk U):Bool:=e.new.all fun x=>(T.objs (T.ep,i,x.1)).isNone
theorem Za2:∀(l:List (Id×TO U)) (T:TS U) (id:Id) (o:TO U),(T.objL l).objs id=some o→(id,o)∈l∨((∀o',(id,o')∉l)∧T.objs id=some o)
 | [],T,id,o,h=> .inr ⟨by simp,h⟩
 |(a,u)::r,T,id,o,h=>by
  simp only[TS.objL]at h;rcases Za2 r _ id o h with h |⟨h1,h2⟩
  all_goals grind[upd]
theorem ZdT:∀(l:List (Id×TO U)) (T:TS U) (id:Id),(T.objs id).isSome=true→((T.objL l).objs id).isSome=true
 | [],T,id,h=>h
 |(a,u)::r,T,id,h=>by
  refine ZdT r _ id ?_;grind[upd]
def lkA (T:TS U) (i:Nat) (e:Zk U):Id→Option (TO U):=((T.objL e.wr).objL (e.new.map fun x=>((T.ep,i,x.1),x.2))).objs
theorem Zfo (T:TS U) (i:Nat) (dst:Option Nat) (e:Zk U):(T.app i dst e).objs=lkA T i e:=by cases dst<;>rfl
theorem Zki {T:TS U} {i:Nat} {e:Zk U} (hf:fresh T i e=true) (hw:∀id o,(id,o)∈e.wr→Zc0 (T.objs id) o) {q:Id×Nat} (h:Zgz T.objs q):Zgz (lkA T i e) q:=by
 obtain⟨o,ho,hl⟩:=h;have hs:((T.objL e.wr).objs q.1).isSome=true:=ZdT _ _ _ (by simp_all);have hs':=ZdT (e.new.map fun x=>((T.ep,i,x.1),x.2)) _ _ hs;obtain⟨o',ho'⟩:=Option.isSome_iff_exists.1 hs';refine⟨o',ho',fun n he=> ?_⟩;rcases Za2 _ _ _ _ ho' with hm |⟨_,h2⟩
 ·obtain⟨x,hx,he⟩:=Zod.1 hm;have:=ZnV.1 hf x hx;simp_all
 ·rcases Za2 _ _ _ _ h2 with hm |⟨_,h3⟩
  ·obtain⟨o0,h4,h5⟩:=hw _ _ hm n he;simp_all
  simp_all
structure ZL (T:TS U) (i:Nat) (e:Zk U):Prop where
 wr:∀id o,(id,o)∈e.wr→Zc0 (T.objs id) o
 val:fresh T i e=true→e.val.inv (lkA T i e)
 objs:fresh T i e=true→∀o,((∃k,(k,o)∈e.new)∨∃id,(id,o)∈e.wr)→o.inv (lkA T i e)
theorem TV.inv_old {T:TS U} {i:Nat} {e:Zk U} (hf:fresh T i e=true) (hw:∀id o,(id,o)∈e.wr→Zc0 (T.objs id) o) {d:TV U} (h:d.inv T.objs):d.inv (lkA T i e):=
 fun q hq=>Zki hf hw (h q hq)
theorem TS.Inv.app {T:TS U} (h:T.Inv) {i:Nat} {dst:Option Nat} {e:Zk U} (hf:fresh T i e=true) (he:ZL T i e):(T.app i dst e).Inv:=by
 constructor
 ·intro k;rw[Zfo];have:(T.app i dst e).slots k=e.val∨(T.app i dst e).slots k=T.slots k:=by
   have h1:∀(l:List (Id×TO U)) (T:TS U),(T.objL l).slots=T.slots:=by
    intro l
    induction l with
    |nil=>intro T;rfl
    |cons x r ih=>grind[TS.objL]
   cases dst with
   |none=>grind[TS.app,TS.setO,TS.freezeL]
   |some t=>
    simp only[TS.app,TS.setO,TS.freezeL,h1,upd];grind
  rcases this with h1 |h1
  ·rw[h1];exact he.val hf
  ·rw[h1];exact TV.inv_old hf he.wr (h.slots k)
 ·intro id o ho;rw[Zfo]at ho⊢
  rcases Za2 _ _ _ _ ho with hm |⟨_,h2⟩
  ·obtain⟨x,hx,hq⟩:=Zod.1 hm;simp only[ZnP]at hq;obtain⟨_,rfl⟩:=hq;exact he.objs hf _ (.inl ⟨x.1,hx⟩)
  ·rcases Za2 _ _ _ _ h2 with hm |⟨_,h3⟩
   ·exact he.objs hf _ (.inr ⟨id,hm⟩)
   ·have:=h.objs id o h3;cases o with
    |box cs=>exact fun d hd=>TV.inv_old hf he.wr (this d hd)
    |_=>trivial
theorem TS.Inv.next {T:TS U} (h:T.Inv):T.next.Inv:=⟨h.slots,h.objs⟩
theorem ZL.pure {T:TS U} {i:Nat} {d:TV U} {frz:List Id} (h:d.inv T.objs):ZL T i {val:=d,frz:=frz}:=
 ⟨by simp,fun _=>h,by simp⟩
end
end Eng
namespace Eng
open Go
section
variable {U:Zd} {R:Type}
def chkL:List Bool→Option R→Option R
 | [],k=>k
 |b::r,k=>chk b (chkL r k)
def Lf.as {car:Nat→Type} (l:Lf car) (t:Ty):Option (El car t):=if h:l.t=t then some (h▸l.x)else none
def ZmV:P→Option (TV U)
 | .bool b=>some (.v .bool b)
 | .int k n=>some (.v (.int k) n)
 | .str s=>some (.v .str s)
 |_=>none
def Zi4:TV U→Option P
 | .v .bool b=>some (.bool b)
 | .v (.int k) n=>some (.int k n)
 | .v .str s=>some (.str s)
 |_=>none
def aggP:TV U→Option (List P)
 | .v (.st n) x=>some ((U.cells n x).map U.encL)
 | .agg cs=>match Zj TV.leaf? cs with
  |some ls=>some (ls.map U.encL)
  |none=>none
 |_=>none
def ZcO (ep i:Nat):Nat→List (TV U)→List (TV U)
 |_,[]=>[]
 |k,.nils _::r=> .full (ep,i,k) 0::ZcO ep i (k+1) r
 |k,d::r=>d::ZcO ep i (k+1) r
def ZJ:Nat→List (TV U)→List (Nat×TO U)
 |_,[]=>[]
 |k,.nils t::r=>(k,.arr t [] false)::ZJ (k+1) r
 |k,_::r=>ZJ (k+1) r
def ZcY (e:TT U) (cs:List (TV U)):Option (TV U):=
 if e.n.isSome then (if e.ti.size≤cs.length then some (ZdX e.n (cs.take e.ti.size))else none)
 else cs.head?
def Zee (X:ZG U) (sl:Nat→TV U) (e:TT U):List (Nat×Operand)→List (TV U)→Option (List (TV U))
 | [],cs=>some cs
 |(i,x)::r,cs=>match e.ti.part X.E i with
  |some (off,t)=>match X.get t,evT X sl t x with
   |some tp,some d=>if d.cells.length=tp.ti.size∧off+d.cells.length≤cs.length∧d.okv=true then Zee X sl e r (ZT cs off d.cells)else none
   |_,_=>none
  |none=>none
def Za4 (X:ZG U) (T:TS U) (t:Nat) (e:TT U) (n:Nat):List (Nat×Operand)→List (El U.car e.ty)→Option (List (El U.car e.ty))
 | [],es=>some es
 |(i,x)::r,es=>match evT X T.slots t x with
  |some d=>match T.lf e.n d with
   |some l=>match l.as e.ty with
    |some y=>if U.tsize e.ty=e.ti.size∧i < n then Za4 X T t e n r (es.set i y)else none
    |none=>none
   |none=>none
  |none=>none
def intT (X:ZG U) (sl:Nat→TV U):Option Operand→Option (Option Int)
 |none=>some none
 |some x=>match evT X sl 0 x with
  |some (.v (.int _) n)=>some (some n)
  |_=>none
def ZjC (n b:Nat):Bool:=decide (n*max b 1≤ZD)
def Zcp (lo hi n:Int):Bool:=decide (0≤lo∧lo≤hi∧hi≤n)
def Zna (T:TS U) (x:TV U) (t:Ty):Option (List (El U.car t)):=
 match x with
 | .v .str s=>match t with
  | .int .u8=>some (s.map fun b=>((b.toNat:Nat):Int))
  |_=>none
 |x=>match T.lf1 x with
  |some l=>match l.as (.sl t)with
   |some ys=>some ys
   |none=>none
  |none=>none
def Zj7 (X:ZG U) (T:TS U) (ty:Nat) (x:Operand) (k:Zk U→Option R):Option R:=
 match evT X T.slots ty x with
 |some d=>k {val:=d}
 |none=>none
def ZfE (X:ZG U) (T:TS U) (i ty:Nat) (x:Operand) (k:Zk U→Option R):Option R:=
 match evT X T.slots ty x with
 |some (.nils t)=>k {val:= .full (T.ep,i,0) 0,new:=[(0,.arr t [] false)]}
 |some d=>k {val:=d}
 |none=>none
def Zj5 (X:ZG U) (T:TS U) (ty:Nat) (c a b:Operand) (k:Zk U→Option R):Option R:=
 match evT X T.slots ty c,evT X T.slots ty a,evT X T.slots ty b with
 |some (.v .bool x),some u,some v=>bif x then k {val:=u}else k {val:=v}
 |_,_,_=>none
def Zfe (T:TS U) (i:Nat) (ds:List (TV U)):Zk U:={val:= .ptr (T.ep,i,0) 0 0,new:=(0,.box (ZcO T.ep i 1 ds))::ZJ 1 ds}
def Zht (X:ZG U) (T:TS U) (i t:Nat) (k:Zk U→Option R):Option R:=
 match X.get t with
 |some e=>k (Zfe T i e.zero)
 |none=>none
def Zmy (X:ZG U) (T:TS U) (i t:Nat) (x:Operand) (k:Zk U→Option R):Option R:=
 match X.get t,evT X T.slots t x with
 |some e,some d=>if d.cells.length=e.ti.size∧d.okv=true then k (Zfe T i d.cells)else none
 |_,_=>none
def Zhs (X:ZG U) (T:TS U) (t:Nat) (parts:List (Nat×Operand)) (k:Zk U→Option R):Option R:=
 match X.get t with
 |some e=>if e.n.isSome then match Zee X T.slots e parts e.zero with
  |some cs=>k {val:=ZdX e.n cs}
  |none=>none
  else none
 |none=>none
def Zby (X:ZG U) (T:TS U) (i t n:Nat) (parts:List (Nat×Operand)) (k:Zk U→Option R):Option R:=
 match X.get t with
 |some e0=>match e0.ti.d with
  | .sl u=>match X.get u with
   |some e=>match e.zl with
    |some z=>match z.as e.ty with
     |some z=>match Za4 X T u e n parts (List.replicate n z)with
      |some es=>if n*e.ti.size≤16777216∧n≤16777216∧U.tsize e.ty=e.ti.size then
        k {val:= .full (T.ep,i,0) n,new:=[(0,.arr e.ty es false)],frz:=Zc4 X.E T.enc.slots T.enc.objs u parts}else none
      |none=>none
     |none=>none
    |none=>none
   |none=>none
  |_=>none
 |none=>none
def Zj8 (X:ZG U) (T:TS U) (ix t:Nat) (a:Operand) (k:Zk U→Option R):Option R:=
 match X.get t,evT X T.slots 0 a with
 |some e,some (.pp cs)=>match ZcY e (cs.map lv)with
  |some d=>k {val:=d}
  |none=>none
 |some e,some (.ptr id i j)=>match T.objs id with
  |some (.box cs)=>if i=0 then match ZcY e (cs.drop j)with
   |some d=>k {val:=d}
   |none=>none
   else none
  |some (.arr u xs _)=>(xs[i]?).bind fun x=>match ZcY e (((U.cellsE u x).drop j).map lv)with
   |some d=>k {val:=d}
   |none=>none
  |some (.own (.st n) c u xs lo out)=>(xs[i]?).bind fun x=>
   if e.n.isSome then chk (decide (lo≤i)) (match ZcY e (((U.cells n x).drop j).map lv)with
    |some d=>k {val:=d}
    |none=>none)
   else match out,(U.cells n x)[c]? with
    |none,some ⟨.sl u',l⟩=>if j=c∧u'=u∧e.ti.size=1 then chk (decide (i < lo)) (k {val:= .full (T.ep,ix,0) (Zoq l),new:=[(0,.arr u' l false)],wr:=[(id,.own (.st n) c u xs lo (some i))]})else none
    |_,_=>none
  |_=>none
 |some e,some (.rp none id)=>if e.ti.size=1∧e.ti.isAgg=false then k {val:= .map id}else none
 |_,_=>none
def Zhm (X:ZG U) (T:TS U) (ix t:Nat) (a x:Operand) (k:Zk U→Option R):Option R:=
 match X.get t,evT X T.slots 0 a,evT X T.slots t x with
 |some e,some (.ptr id i j),some d=>match T.objs id with
  |some (.box cs)=>if i=0∧d.cells.length=e.ti.size∧j+d.cells.length≤cs.length∧d.okv=true then
    k {val:= .undef,new:=ZJ 0 d.cells,wr:=[(id,.box (ZT cs j (ZcO T.ep ix 0 d.cells)))]}else none
  |some (.arr u xs fix)=>match T.lf e.n d with
   |some l=>if U.tsize l.t=e.ti.size∧j+e.ti.size≤U.tsize u∧0 < e.ti.size then
     (if j=0∧U.tsize l.t=U.tsize u then match l.as u with
      |some y=>k {val:= .undef,wr:=[(id,.arr u (xs.set i y) fix)],frz:=d.enc.ids T.enc.objs depth}
      |none=>none
     else (xs[i]?).bind fun z=>match U.ofE u (ZT (U.cellsE u z) j (U.cellsE l.t l.x))with
      |some y=>k {val:= .undef,wr:=[(id,.arr u (xs.set i y) fix)],frz:=d.enc.ids T.enc.objs depth}
      |none=>none)else none
   |none=>none
  |some (.own (.st n) c u xs lo out)=>match d with
   | .full id2 _=>match T.objs id2 with
    |some (.arr u' l false)=>if u'=u∧j=c∧e.ti.size=1∧e.n.isNone then
      chk (match out with |none=>decide (lo=i) |some i0=>decide (i0=i∧i < lo)) ((xs[i]?).bind fun x=>match U.of n (List.set (U.cells n x) c ⟨.sl u',l⟩)with
       |some y=>k {val:= .undef,wr:=[(id,.own (.st n) c u (xs.set i y) (loUp out lo) none),(id2,.gone)]}
       |none=>none)else none
    |_=>none
   |_=>none
  |_=>none
 |_,_,_=>none
def ZcV (X:ZG U) (T:TS U) (x:Operand) (k:Zk U→Option R):Option R:=
 match evT X T.slots 0 x with
 |some (.pp cs)=>k {val:= .pp cs}
 |some (.ptr id i j)=>k {val:= .ptr id i j}
 |some (.fn f a b)=>k {val:= .fn f a b}
 |some (.rp x id)=>k {val:= .rp x id}
 |_=>none
def opNil (X:ZG U) (T:TS U) (b:BinOp) (t:Nat) (x y:Operand) (k:Zk U→Option R):Option R:=
 match X.get t,evT X T.slots 0 x with
 |some e,some (.v .fnc z)=>match e.ti.d,y,b with
  | .func,.const .nilFunc,.eql=>k {val:= .v .bool (Option.isNone z)}
  | .func,.const .nilFunc,.neq=>k {val:= .v .bool (!Option.isNone z)}
  |_,_,_=>none
 |some e,some d=>match Zdi e.ti.d y d.enc with
  |some (.p (.bool z))=>match b with
   | .eql=>k {val:= .v .bool z}
   | .neq=>k {val:= .v .bool (!z)}
   |_=>none
  |_=>none
 |_,_=>none
def Zmz (X:ZG U) (T:TS U) (b:BinOp) (t:Nat) (x y:Operand) (k:Zk U→Option R):Option R:=
 if Operand.isNil y then opNil X T b t x y k else
 match evT X T.slots 0 x,evT X T.slots 0 y with
 |some (.v .bool u),some (.v .bool v)=>match X.get t,ZkJ b u v with
  |some e,some z=>match e.ti.d,ZmV (U:=U) z with
   | .bool,some d=>k {val:=d}
   |_,_=>none
  |_,_=>none
 |some d,some d'=>match aggP d,aggP d' with
  |some u,some v=>match Zm6 X.E b t u v with
   |some z=>match ZmV z with
    |some d=>k {val:=d}
    |none=>none
   |none=>none
  |_,_=>match Zi4 d,Zi4 d' with
   |some u,some v=>match Zm0 b u v with
    |some (z,c)=>match ZmV z with
     |some d=>chkL c (k {val:=d})
     |none=>none
    |none=>none
   |_,_=>none
 |_,_=>none
def opUn (X:ZG U) (T:TS U) (u:UnOp) (x:Operand) (k:Zk U→Option R):Option R:=
 match evT X T.slots 0 x with
 |some d=>match Zi4 d with
  |some v=>match unop u v with
   |some (z,c)=>match ZmV z with
    |some d=>chkL c (k {val:=d})
    |none=>none
   |none=>none
  |none=>none
 |none=>none
def ZdS (X:ZG U) (T:TS U) (i s t:Nat) (x:Operand) (k:Zk U→Option R):Option R:=
 match X.get s,X.get t,evT X T.slots 0 x with
 |some es,some et,some d=>match es.ti.d,et.ti.d,d with
  | .int _,.int k',.v (.int _) n=>k {val:= .v (.int k') (k'.wrap n)}
  | .str,.str,.v .str s=>k {val:= .v .str s}
  | .str,.sl u,.v .str s=>match X.get u with
   |some eu=>match eu.ti.d with
    | .int .u8=>chk (decide (s.length≤281474976710656)) (k {val:= .full (T.ep,i,0) s.length,new:=[(0,.arr (.int .u8) (s.map fun b=>((b.toNat:Nat):Int)) false)]})
    |_=>none
   |none=>none
  | .sl u,.str,d=>match X.get u,T.lf1 d with
   |some eu,some l=>match eu.ti.d,l.as (.sl (.int .u8))with
    | .int .u8,some xs=>k {val:= .v .str (xs.map fun n=>UInt8.ofNat n.toNat)}
    |_,_=>none
   |_,_=>none
  |_,_,_=>none
 |_,_,_=>none
def Zl9 (X:ZG U) (sl:Nat→TV U) (xs:List Operand):Option (List (TV U)):=Zj (evT X sl 0) xs
def ZcW (X:ZG U) (T:TS U) (f:Nat) (first caps:List Operand) (k:Zk U→Option R):Option R:=
 match Zl9 X T.slots first,Zl9 X T.slots caps with
 |some a,some b=>k {val:= .fn f a b}
 |_,_=>none
def ZdQ (X:ZG U) (T:TS U) (i t:Nat) (k:Zk U→Option R):Option R:=
 match X.get t with
 |some e=>match e.ty with
  | .map kt vt=>k {val:= .map (T.ep,i,0),new:=[(0,.map kt vt [])]}
  |_=>none
 |none=>none
def zNil (U:Zd) (e:TT U) (c:Nat) (u:Ty):Bool:=match e.ti.zero[c]? with
 |some (.nils k)=>k == U.tsize u
 |_=>false
def Zcc (X:ZG U) (T:TS U) (i t:Nat) (l c:Operand) (k:Zk U→Option R):Option R:=
 match X.elem t,evT X T.slots 0 l,evT X T.slots 0 c with
 |some e,some (.v (.int _) a),some (.v (.int _) b)=>match X.owns.find? (·.t == t)with
  |some q=>match e.zl with
   |some ⟨.st n,z⟩=>if n=q.n∧e.n.isSome∧U.size n=e.ti.size∧zNil U e q.c q.u=true then
     chk (decide (0≤a∧a≤b∧b*e.ti.bytes≤ZD∧b≤ZD)) (k {val:= .full (T.ep,i,0) a.toNat,new:=[(0,.own (.st n) q.c q.u (List.replicate a.toNat z) a.toNat none)]})else none
   |_=>none
  |none=>match e.zl with
  |some z=>match z.as e.ty with
   |some z=>if U.tsize e.ty=e.ti.size then chk (decide (0≤a∧a≤b∧b*e.ti.bytes≤ZD∧b≤ZD)) (k {val:= .full (T.ep,i,0) a.toNat,new:=[(0,.arr e.ty (List.replicate a.toNat z) false)]})else none
   |none=>none
  |none=>none
 |_,_,_=>none
def cut {α:Type} (xs:List α):Option Int→Option Int→List α
 |none,none=>xs
 |none,some h=>xs.take h.toNat
 |some l,none=>xs.drop l.toNat
 |some l,some h=>(xs.take h.toNat).drop l.toNat
def Zh4 (T:TS U) (sz:Option Nat) (d:TV U) (lo hi mx:Option Int) (k:Zk U→Option R):Option R:=
 match sz,d with
 |none,.v .str s=>match mx with
  |none=>chk (Zcp (lo.getD 0) (hi.getD s.length) s.length) (k {val:= .v .str (cut s lo hi)})
  |some _=>none
 |some sz,.v (.sl t) xs=>if sz=U.tsize t then match mx,hi with
  |none,_=>chk (Zcp (lo.getD 0) (hi.getD xs.length) xs.length) (k {val:= .v (.sl t) (cut xs lo hi)})
  |some m,some h=>chk (decide (0≤lo.getD 0∧lo.getD 0≤h∧h≤xs.length∧m=h)) (k {val:= .clip t (cut xs lo hi)})
  |_,_=>none
  else none
 |some sz,.full id n=>match T.objs id with
  |some (.arr t xs _)=>if sz=U.tsize t then match mx with
   |none=>chk (Zcp (lo.getD 0) (hi.getD xs.length) xs.length) (match lo,hi with
    |none,none=>k {val:= .full id n}
    |lo,hi=>k {val:= .sl id (lo.getD 0).toNat ((hi.getD xs.length).toNat - (lo.getD 0).toNat)})
   |some m=>match hi with
    |some h=>chk (decide (0≤lo.getD 0∧lo.getD 0≤h∧h≤xs.length∧m=h)) (k {val:= .clip t (cut xs lo hi),frz:=[id]})
    |none=>none
   else none
  |_=>none
 |some sz,.sl id off len=>match T.objs id with
  |some (.arr t xs _)=>if sz=U.tsize t then match mx with
   |none=>chk (Zcp (lo.getD 0) (hi.getD len) len) (k {val:= .sl id (off+(lo.getD 0).toNat) ((hi.getD len).toNat - (lo.getD 0).toNat)})
   |some _=>none
   else none
  |_=>none
 |some _,.nils t=>match mx with
  |none=>chk (decide (lo.getD 0=0∧hi.getD 0=0)) (k {val:= .nils t})
  |some _=>none
 |_,_=>none
def Zhn (X:ZG U) (T:TS U) (t:Nat) (x:Operand) (lo hi mx:Option Operand) (k:Zk U→Option R):Option R:=
 match X.get t,evT X T.slots 0 x,intT X T.slots lo,intT X T.slots hi,intT X T.slots mx with
 |some e,some d,some a,some b,some c=>match e.ti.d with
  | .str=>Zh4 T none d a b c k
  | .sl u=>match X.get u with
   |some eu=>Zh4 T (some eu.ti.size) d a b c k
   |none=>none
  |_=>none
 |_,_,_,_,_=>none
def Zce (X:ZG U) (T:TS U) (t:Nat) (x:Operand) (f:Nat) (k:Zk U→Option R):Option R:=
 match X.get t,evT X T.slots 0 x with
 |some e,some d=>match e.ti.d with
  | .struct fs=>match fs[f]? with
   |some (off,ft)=>match X.get ft with
    |some tf=>if tf.ti.size=0 then none else match d with
     | .pp cs=>k {val:= .pp (cs.drop off)}
     | .ptr id i j=>k {val:= .ptr id i (j+off)}
     | .rp (some x) id=>match off with
      |0=>k {val:= .pp [x]}
      |1=>k {val:= .rp none id}
      |_=>none
     |_=>none
    |none=>none
   |none=>none
  |_=>none
 |_,_=>none
def Zhq (X:ZG U) (T:TS U) (t:Nat) (x:Operand) (f:Nat) (k:Zk U→Option R):Option R:=
 match X.get t,evT X T.slots 0 x with
 |some e,some d=>match e.ti.d with
  | .struct fs=>match fs[f]? with
   |some (off,ft)=>match X.get ft with
    |some tf=>if tf.ti.size=0 then none else match d with
     | .v (.st n) x=>match ZcY tf (((U.cells n x).drop off).map lv)with
      |some y=>k {val:=y}
      |none=>none
     | .agg cs=>match ZcY tf (cs.drop off)with
      |some y=>k {val:=y}
      |none=>none
     |_=>none
    |none=>none
   |none=>none
  |_=>none
 |_,_=>none
def tabB {car:Nat→Type} (t:Ty) (cs:List (Lf car)) (n:Nat):Option (El car t):=match cs[n]? with
 |some l=>l.as t
 |none=>none
def tabK (cs:List (Lf U.car)):List Ty→Nat→(List (Lf U.car)→Option R)→Option R
 | [],_,k=>k []
 |t::r,n,k=>(tabB t cs n).bind fun x=>tabK cs r (n+1) fun ls=>k (⟨t,x⟩::ls)
def Zcd (X:ZG U) (T:TS U) (t:Nat) (x ix:Operand) (k:Zk U→Option R):Option R:=
 match X.get t,evT X T.slots 0 x,evT X T.slots 0 ix with
 |some e,some d,some (.v (.int _) n)=>match e.ti.d with
  | .sl u=>match X.get u with
   |some eu=>match d with
    | .v (.sl t') xs=>if U.tsize t'=eu.ti.size then (idx xs n).bind fun y=>k {val:= .pp (U.cellsE t' y)}else none
    | .full id m=>match T.objs id with
     |some (.arr t' xs _)=>if U.tsize t'=eu.ti.size then chk (decide (0≤n∧n < xs.length)) (k {val:= .ptr id n.toNat 0})else none
     |some (.own t' _ _ xs _ _)=>if U.tsize t'=eu.ti.size then chk (decide (0≤n∧n < xs.length)) (k {val:= .ptr id n.toNat 0})else none
     |_=>none
    | .sl id off len=>match T.objs id with
     |some (.arr t' xs _)=>if U.tsize t'=eu.ti.size then chk (decide (0≤n∧n < len)) (k {val:= .ptr id (off+n.toNat) 0})else none
     |_=>none
    |_=>none
   |none=>none
  | .arr m u=>match X.get u with
   |some eu=>match d with
    | .pp cs=>chk (decide (0≤n∧n < m)) (bif Nat.blt 8 m then match eu.zl with
      |some z=>tabK cs ((U.cellsE z.t z.x).map (·.t)) (n.toNat*eu.ti.size) fun ls=>k {val:= .pp (ls++cs.drop (n.toNat*eu.ti.size+ls.length))}
      |none=>none
     else k {val:= .pp (cs.drop (n.toNat*eu.ti.size))})
    | .ptr id i j=>chk (decide (0≤n∧n < m)) (k {val:= .ptr id i (j+n.toNat*eu.ti.size)})
    |_=>none
   |none=>none
  |_=>none
 |_,_,_=>none
def Zhp (X:ZG U) (T:TS U) (t:Nat) (x ix:Operand) (k:Zk U→Option R):Option R:=
 match X.get t,evT X T.slots 0 x,evT X T.slots 0 ix with
 |some e,some (.v .str s),some (.v (.int _) n)=>match e.ti.d with
  | .str=>(idx s n).bind fun c=>k {val:= .v (.int .u8) ((c.toNat:Nat):Int)}
  |_=>none
 |_,_,_=>none
def Zl3 {car:Nat→Type} (q:(n:Nat)→car n→car n→Bool):(k:Ty)→El car k→El car k→Bool
 | .bool,a,b=>a == b
 | .int _,a,b=>a == b
 | .str,a,b=>a == b
 | .st n,a,b=>q n a b
 |_,_,_=>false
def Ty.isKey (l:List Nat):Ty→Bool
 | .bool | .int _ | .str=>true
 | .st n=>l.contains n
 |_=>false
def Zhx {car:Nat→Type} (q:(n:Nat)→car n→car n→Bool:=fun _ _ _=>false) {k v:Ty} (kv:List (El car k×El car v)) (x:El car k):Option (El car v):=(kv.find? fun e=>Zl3 q k x e.1).map (·.2)
def setB {car:Nat→Type} (q:(n:Nat)→car n→car n→Bool:=fun _ _ _=>false) {k v:Ty} (kv:List (El car k×El car v)) (x:El car k) (y:El car v):List (El car k×El car v):=
 if kv.any (fun e=>Zl3 q k x e.1)then kv.map fun e=>if Zl3 q k x e.1 then (e.1,y)else e else kv++[(x,y)]
def delB {car:Nat→Type} (q:(n:Nat)→car n→car n→Bool:=fun _ _ _=>false) {k v:Ty} (kv:List (El car k×El car v)) (x:El car k):List (El car k×El car v):=kv.filter fun e=> !Zl3 q k x e.1
def keyL (X:ZG U) (T:TS U) (kt:Nat) (d:TV U):Option (Lf U.car):=match X.get kt with
 |some e=>T.lf e.n d
 |none=>none
def mapT (T:TS U):TV U→Option (Lf U.car)
 | .v (.map k v) kv=>some ⟨.map k v,kv⟩
 | .map id=>match T.objs id with
  |some (.map k v kv)=>some ⟨.map k v,kv⟩
  |_=>none
 |_=>none
def ZfC (X:ZG U) (T:TS U) (t:Nat) (m k:Operand) (ok:Bool) (κ:Zk U→Option R):Option R:=
 match X.get t with
 |some e=>match e.ti.d,e.ty with
  | .map kt vt,.map a b=>match X.get vt,evT X T.slots 0 m,evT X T.slots kt k with
   |some ev,some dm,some dk=>match mapT T dm,keyL X T kt dk,ev.zl with
    |some lm,some lk,some z=>match lm.as (.map a b),lk.as a,z.as b with
     |some kv,some key,some z=>if a.isKey X.keys=true∧(X.E.keyTD t).same a.td=true then (if ok then κ {val:= .tup [.v b ((Zhx X.kq kv key).getD z),.v .bool (Zhx X.kq kv key).isSome]}else κ {val:= .v b ((Zhx X.kq kv key).getD z)})else none
     |_,_,_=>none
    |_,_,_=>none
   |_,_,_=>none
  |_,_=>none
 |none=>none
def Zbe (X:ZG U) (T:TS U) (t:Nat) (m k v:Operand) (κ:Zk U→Option R):Option R:=
 match X.get t with
 |some e=>match e.ti.d,e.ty with
  | .map kt vt,.map a b=>match X.get vt,evT X T.slots 0 m,evT X T.slots kt k,evT X T.slots vt v with
   |some ev,some (.map id),some dk,some dv=>match T.objs id,keyL X T kt dk,T.lf ev.n dv with
    |some (.map a' b' kv),some lk,some lv=>match (Lf.mk (.map a' b') kv:Lf U.car).as (.map a b),lk.as a,lv.as b with
     |some kv,some key,some y=>if a.isKey X.keys=true∧(X.E.keyTD t).same a.td=true then κ {val:= .undef,wr:=[(id,.map a b (setB X.kq kv key y))],frz:=dv.enc.ids T.enc.objs depth}else none
     |_,_,_=>none
    |_,_,_=>none
   |_,_,_,_=>none
  |_,_=>none
 |none=>none
def Zho (X:ZG U) (T:TS U) (i t:Nat) (x:Operand) (k:Zk U→Option R):Option R:=
 match X.get t,evT X T.slots 0 x with
 |some e,some (.v .str s)=>match e.ti.d with
  | .str=>k {val:= .it (T.ep,i,0),new:=[(0,.sit s 0)]}
  |_=>none
 |some e,some (.v (.map a b) kv)=>match e.ti.d with
  | .map _ _=>k {val:= .it (T.ep,i,0),new:=[(0,.mit a b kv none)]}
  |_=>none
 |some e,some (.map id)=>match e.ti.d,T.objs id with
  | .map _ _,some (.map a b kv)=>k {val:= .it (T.ep,i,0),new:=[(0,.mit a b kv none)],frz:=[id]}
  |_,_=>none
 |_,_=>none
def Zj6 (X:ZG U) (T:TS U) (it:Operand) (k:Zk U→Option R):Option R:=
 match evT X T.slots 0 it with
 |some (.it id)=>match T.objs id with
  |some (.sit s pos)=>bif decide (pos < s.length)then
    k {val:= .tup [.v .bool true,.v (.int .i64) (pos:Int),.v (.int .i32) (Utf8.decode ⟨s.toArray⟩ pos).1],wr:=[(id,.sit s (pos+(Utf8.decode ⟨s.toArray⟩ pos).2))]}
   else k {val:= .tup [.v .bool false]}
  |_=>none
 |_=>none
def Zhr (X:ZG U) (T:TS U) (it:Operand) (k:Zk U→Option R):Option R:=
 match evT X T.slots 0 it with
 |some (.it id)=>match T.objs id with
  |some (.mit a b _ (some (x,y)))=>k {val:= .tup [.v a x,.v b y]}
  |_=>none
 |_=>none
def ZdR (X:ZG U) (T:TS U) (x:Operand) (ix:Nat) (k:Zk U→Option R):Option R:=
 match evT X T.slots 0 x with
 |some (.tup vs)=>match vs[ix]? with
  |some d=>k {val:=d}
  |none=>none
 |_=>none
def lenT (T:TS U):TV U→Option (Nat)
 | .v .str s=>some s.length
 | .v (.sl _) xs=>some xs.length
 | .clip _ xs=>some xs.length
 | .nils _=>some 0
 | .full id n=>match T.objs id with
  |some (.arr _ xs _)=>some xs.length
  |_=>none
 | .sl _ _ len=>some len
 |_=>none
def Zmx (X:ZG U) (T:TS U) (t:Nat) (x:Operand) (k:Zk U→Option R):Option R:=
 match X.get t,evT X T.slots t x with
 |some e,some d=>match e.ti.d with
  | .str=>match d with
   | .v .str s=>k {val:= .v (.int .i64) (s.length:Int)}
   |_=>none
  | .sl _=>match d with
   | .v (.sl _) xs=>k {val:= .v (.int .i64) (xs.length:Int)}
   | .clip _ xs=>k {val:= .v (.int .i64) (xs.length:Int)}
   | .nils _=>k {val:= .v (.int .i64) (0:Nat)}
   | .full id n=>match T.objs id with
    |some (.arr _ xs _)=>k {val:= .v (.int .i64) (xs.length:Int)}
    |some (.own _ _ _ xs _ _)=>k {val:= .v (.int .i64) (xs.length:Int)}
    |_=>none
   | .sl _ _ len=>k {val:= .v (.int .i64) (len:Int)}
   |_=>none
  | .map _ _=>match mapT T d with
   |some ⟨.map _ _,kv⟩=>chk (decide (Zoq kv≤Zr)) (k {val:= .v (.int .i64) (Zoq kv:Int)})
   |_=>none
  | .arr n _=>chk (decide (n≤Zr)) (k {val:= .v (.int .i64) (n:Int)})
  |_=>none
 |_,_=>none
def Zk3:TD→Bool
 | .sl _ | .str=>true
 |_=>false
def appX (T:TS U) (i:Nat) (e:TT U) (d:TV U) (ys:List (El U.car e.ty)) (k:Zk U→Option R):Option R:=
 match d with
 | .nils _=>chk (ZjC ys.length e.ti.bytes) (k {val:= .full (T.ep,i,0) ys.length,new:=[(0,.arr e.ty ys false)]})
 | .clip t' xs=>match (Lf.mk (.sl t') xs:Lf U.car).as (.sl e.ty)with
  |some xs=>chk (decide (List.isEmpty ys=false)) (chk (ZjC (Zoq xs+ys.length) e.ti.bytes) (k {val:= .full (T.ep,i,0) (Zoq xs+ys.length),new:=[(0,.arr e.ty (List.append xs ys) false)]}))
  |none=>none
 | .full id n=>match T.objs id with
  |some (.arr t' xs false)=>match (Lf.mk (.sl t') xs:Lf U.car).as (.sl e.ty)with
   |some xs=>chk (ZjC (Zoq xs+ys.length) e.ti.bytes) (k {val:= .full (T.ep,i,0) (Zoq xs+ys.length),new:=[(0,.arr e.ty (List.append xs ys) false)],wr:=[(id,.gone)]})
   |none=>none
  |_=>none
 | .sl id 0 len=>match T.objs id with
  |some (.arr t' xs false)=>match (Lf.mk (.sl t') xs:Lf U.car).as (.sl e.ty)with
   |some xs=>chk (decide (len≤Zoq xs)) (chk (ZjC (len+ys.length) e.ti.bytes) (k {val:= .full (T.ep,i,0) (len+ys.length),new:=[(0,.arr e.ty (List.append (List.take len xs) ys) false)],wr:=[(id,.gone)]}))
   |none=>none
  |_=>none
 |_=>none
def ZfF (X:ZG U) (T:TS U) (i t u:Nat) (s x:Operand) (k:Zk U→Option R):Option R:=
 match X.elem t,X.get u,evT X T.slots t s,evT X T.slots u x with
 |some e,some eu,some d,some dx=>if U.tsize e.ty=e.ti.size then
   (if Zk3 eu.ti.d=true then match Zna T dx e.ty with
    |some ys=>appX T i e d ys k
    |none=>none
   else match eu.ti.d,dx,e.zl with
    | .int _,.v (.int .i64) a,some z=>match z.as e.ty with
     |some z=>chk (decide (0≤a)) (appX T i e d (List.replicate a.toNat z) k)
     |none=>none
    |_,_,_=>none)
  else none
 |_,_,_,_=>none
def Zj9 (X:ZG U) (T:TS U) (t u:Nat) (d s:Operand) (k:Zk U→Option R):Option R:=
 match X.elem t,evT X T.slots t d,evT X T.slots u s with
 |some e,some dd,some ds=>match dd with
  | .full id n=>match T.objs id with
   |some (.arr t' xs fix)=>match Zna T ds t' with
    |some ys=>if U.tsize t'=e.ti.size then k {val:= .v (.int .i64) (min ys.length xs.length:Nat),wr:=[(id,.arr t' (ys.take xs.length++xs.drop ys.length) fix)]}else none
    |none=>none
   |_=>none
  | .sl id off len=>match T.objs id with
   |some (.arr t' xs fix)=>match Zna T ds t' with
    |some ys=>if U.tsize t'=e.ti.size then chk (decide (off+len≤xs.length)) (k {val:= .v (.int .i64) (min ys.length len:Nat),wr:=[(id,.arr t' (ZT xs off (ys.take (min ys.length len))) fix)]})else none
    |none=>none
   |_=>none
  |_=>none
 |_,_,_=>none
def Zdt (X:ZG U) (sl:Nat→TV U):List Operand→List Nat→Option (List (TV U))
 | [],_=>some []
 |x::xs,[]=>match evT X sl 0 x,Zdt X sl xs []with
  |some d,some r=>some (d::r)
  |_,_=>none
 |x::xs,t::ts=>match evT X sl t x,Zdt X sl xs ts with
  |some d,some r=>some (d::r)
  |_,_=>none
def opMM (X:ZG U) (T:TS U) (mx:Bool) (args:List Operand) (ats:List Nat) (k:Zk U→Option R):Option R:=
 match Zdt X T.slots args ats with
 |some ds=>match (if mx then maxP (TV.encs ds)else minP (TV.encs ds))with
  |some z=>match ZmV z with
   |some d=>k {val:=d}
   |none=>none
  |none=>none
 |none=>none
def ZfD (X:ZG U) (T:TS U) (t u:Nat) (m k:Operand) (κ:Zk U→Option R):Option R:=
 match X.get t,evT X T.slots t m,evT X T.slots u k with
 |some e,some (.map id),some dk=>match e.ti.d,T.objs id,keyL X T u dk with
  | .map _ _,some (.map a b kv),some lk=>match lk.as a with
   |some key=>if a.isKey X.keys=true∧(X.E.keyTD t).same a.td=true then κ {val:= .undef,wr:=[(id,.map a b (delB X.kq kv key))]}else none
   |none=>none
  |_,_,_=>none
 |_,_,_=>none
def ZmW (X:ZG U) (T:TS U) (i:Nat) (op:Op) (ty:Nat) (k:Zk U→Option R):Option R:=
 match op with
 | .move x=>Zj7 X T ty x k
 | .assign x=>ZfE X T i ty x k
 | .pick c a b=>Zj5 X T ty c a b k
 | .alloc t=>Zht X T i t k
 | .box t x=>Zmy X T i t x k
 | .build t parts=>Zhs X T t parts.toList k
 | .buildSlice t n parts=>Zby X T i t n parts.toList k
 | .load t a=>Zj8 X T i t a k
 | .store t a x=>Zhm X T i t a x k
 | .nilCheck x=>ZcV X T x k
 | .binOp b t x y _=>Zmz X T b t x y k
 | .unOp u _ x=>opUn X T u x k
 | .convert s t x=>ZdS X T i s t x k
 | .makeFunc (.func f) first caps=>ZcW X T f first.toList caps.toList k
 | .makeMap t none=>ZdQ X T i t k
 | .makeSlice t l c=>Zcc X T i t l c k
 | .slice t x lo hi mx=>Zhn X T t x lo hi mx k
 | .fieldAddr t x f=>Zce X T t x f k
 | .field t x f=>Zhq X T t x f k
 | .indexAddr t x ix=>Zcd X T t x ix k
 | .index t x ix=>Zhp X T t x ix k
 | .lookup t m q ok=>ZfC X T t m q ok k
 | .mapUpdate t m q v=>Zbe X T t m q v k
 | .insert t m q v=>Zbe X T t m q v k
 | .range t x=>Zho X T i t x k
 | .next it true=>Zj6 X T it k
 | .entry it=>Zhr X T it k
 | .extract x ix=>ZdR X T x ix k
 | .call {callee:= .builtin b,args,argTypes}=>match b,args.toList,argTypes.toList with
  | .len,[x],[t]=>Zmx X T t x k
  | .append,[s,x],[t,u]=>ZfF X T i t u s x k
  | .copy,[d,s],[t,u]=>Zj9 X T t u d s k
  | .max,xs,ts=>opMM X T true xs ts k
  | .min,xs,ts=>opMM X T false xs ts k
  | .delete,[m,q],[t,u]=>ZfD X T t u m q k
  |_,_,_=>none
 |_=>none
end
end Eng
namespace Eng
open Go
section
variable {U:Zd} {R:Type} {X:ZG U} {T:TS U} {i ty:Nat} {k:Zk U→Option R} {r:R}
def Snd (X:ZG U) (T:TS U) (i:Nat) (op:Op) (ty:Nat) (k:Zk U→Option R) (r:R):Prop:=
 ∃e cs,Zf X.E T.ep i op ty T.enc.slots T.enc.objs=some (e.enc cs)∧(∀q∈cs,q=true)∧ZL T i e∧k e=some r
theorem Zel:∀{cs:List Bool} {k:Option R},chkL cs k=some r→(∀q∈cs,q=true)∧k=some r
 | [],k,h=>⟨by simp,h⟩
 |b::cs,k,h=>by obtain⟨h1,h2⟩:=Zi h;obtain⟨h3,h4⟩:=Zel h2;simp_all
theorem ZA (hT:T.Inv) {t:Nat} {x:Operand} {d:TV U} (h:evT X T.slots t x=some d):d.inv T.objs:=by
 have nil:∀d:TV U,d.fulls=[]→d.inv T.objs:=fun d hd q hq=>by simp_all
 unfold evT at h;split at h
 ·cases h;exact hT.slots _
 ·cases h;exact nil _ rfl
 ·cases h;exact nil _ rfl
 ·cases h;exact nil _ rfl
 ·split at h;rotate_left;simp at h;split at h;rotate_left;simp at h;cases h;exact nil _ rfl
 ·cases h;exact nil _ rfl
 ·cases h;exact nil _ rfl
 ·split at h;rotate_left;simp at h;split at h;rotate_left;simp at h;cases h;exact nil _ rfl
 ·cases h;exact nil _ rfl
 ·split at h;rotate_left;simp at h;cases h;exact nil _ rfl
 simp_all
theorem Zb (hX:TOk X) {t:Nat} {x:Operand} {d:TV U} (h:evT X T.slots t x=some d):ev X.E T.enc.slots t x=d.enc:=ZmT hX h
theorem Zc {id:Id} {o:TO U} (h:T.objs id=some o):T.enc.objs id=some o.enc:=by simp[TS.enc,ZiV,h]
theorem Zah {lk:Id→Option (TO U)} (t:Ty) (x:El U.car t):(TV.v t x:TV U).inv lk:=fun q hq=>by grind[TV.fulls]
theorem Ze {lk:Id→Option (TO U)} {d:TV U} (h:d.fulls=[]):d.inv lk:=fun q hq=>by simp_all
theorem Zd5 {lk:Id→Option (TO U)} {d:TV U} (h:d.inv lk):∀c∈d.cells,c.inv lk:=fun c hc q hq=>h q (ZhM ⟨c,hc,hq⟩)
theorem ZgI {lk:Id→Option (TO U)} {n:Option Nat} {cs:List (TV U)} (h:∀c∈cs,c.inv lk):(ZdX n cs).inv lk:=fun q hq=>by obtain⟨d,hd,hq⟩:=Zgx n cs hq;exact h d hd q hq
theorem ZaB (cs:List (TV U)):(TO.box cs).enc= .box (TV.encs cs):=rfl
theorem ZI (t:Ty) (xs:List (El U.car t)) (fix:Bool):(TO.arr t xs fix:TO U).enc= .arr (U.tsize t) (xs.map (U.encE t)) fix:=rfl
theorem Z5 (a b:Ty) (kv:List (El U.car a×El U.car b)):(TO.map a b kv:TO U).enc= .map a.td (kv.map fun e=>(U.encE a e.1,U.encE b e.2)):=rfl
theorem Zb5 (s:List UInt8) (p:Nat):(TO.sit s p:TO U).enc= .sit s p:=rfl
theorem ZbF (a b:Ty) (kv:List (El U.car a×El U.car b)) (c:Option (El U.car a×El U.car b)):(TO.mit a b kv c:TO U).enc= .mit (kv.map fun e=>(U.encE a e.1,U.encE b e.2)) (c.map fun e=>(U.encE a e.1,U.encE b e.2)):=rfl
theorem ZaZ:(TO.gone:TO U).enc= .gone:=rfl
theorem Zfb (t:Ty) (c:Nat) (u:Ty) (xs:List (El U.car t)) (lo:Nat) (out:Option Nat):(TO.own t c u xs lo out:TO U).enc= .own (U.tsize t) c (U.tsize u) (xs.map (U.encE t)) lo out:=rfl
theorem Zkr (f:Nat) (a b:List D):(∃x y,fnD f a b= .p (.fn f x y))∨fnD f a b= .fn f a b:=by
 grind[fnD]
theorem Zk6 (hX:TOk X) (hT:T.Inv) {x:Operand} (h:Zj7 X T ty x k=some r):Snd X T i (.move x) ty k r:=by unfold Zj7 at h;split at h;rotate_left;simp at h;rename_i d hd;exact⟨_,[],by grind[Zf,Zk.enc,Zb],by simp,ZL.pure (ZA hT hd),h⟩
theorem ZiM (hX:TOk X) (hT:T.Inv) {x:Operand} (h:ZfE X T i ty x k=some r):Snd X T i (.assign x) ty k r:=by
 unfold ZfE at h;split at h
 ·rename_i t hd;refine⟨_,[], ?_,by simp, ?_,h⟩
  ·simp_all[Zf,Zk.enc,TV.enc,ZI,Zb]
  ·refine⟨by simp,fun _ q hq=> ?_,fun _ o ho=> ?_⟩
   ·simp only[TV.fulls,ZnF]at hq;subst hq;refine⟨.arr t [] false,by simp[lkA,TS.objL,upd],fun n he=> ?_⟩;cases he;rfl
   ·rcases ho with ⟨k',hk⟩ |⟨id,hk⟩
    ·simp only[ZnF,ZnP]at hk;obtain⟨_,rfl⟩:=hk;trivial
    simp_all
 ·rename_i d hne hd;refine⟨_,[], ?_,by simp,ZL.pure (ZA hT hd),h⟩;simp only[Zf,Zb hX hd];split
  ·rename_i sz he;exfalso;cases d<;>simp only[TV.enc,reduceCtorEq]at he
   all_goals grind[D.mkAgg,fnD]
  ·rfl
 simp_all
theorem Zk4 (hX:TOk X) (hT:T.Inv) {c x y:Operand} (h:Zj5 X T ty c x y k=some r):Snd X T i (.pick c x y) ty k r:=by
 unfold Zj5 at h;split at h;rotate_left;simp at h;rename_i b u v hb hu hv;cases b
 ·exact⟨_,[],by simp_all[Zf,TV.enc,Zd.encE,Zk.enc,Zb],by simp,ZL.pure (ZA hT hv),h⟩
 ·exact⟨_,[],by simp_all[Zf,TV.enc,Zd.encE,Zk.enc,Zb],by simp,ZL.pure (ZA hT hu),h⟩
theorem ZdF (ep i:Nat):∀(k:Nat) (ds:List (TV U)),TV.encs (ZcO ep i k ds)=ZeO ep i k (TV.encs ds)
 |k,[]=>rfl
 |k,d::r=>by
  cases d<;>simp only[ZcO,TV.encs,TV.enc,ZeO,ZdF ep i (k+1) r]
  all_goals grind[D.mkAgg,ZeO,fnD]
theorem Zfs {k:Nat} {d:D} {r:List D} (h:∀sz,d≠ .nils sz):ZU k (d::r)=ZU (k+1) r:=by cases d<;>first |rfl |simp_all
theorem Zbt:∀(k:Nat) (ds:List (TV U)),(ZJ k ds).map (fun x=>(x.1,x.2.enc))=ZU k (TV.encs ds)
 |k,[]=>rfl
 |k,d::r=>by
  have ih:=Zbt (k+1) r;cases d
  case nils t=>rw[ZJ,Zn6,ih];rfl
  all_goals grind[ZJ,TV.encs,Zfs,TV.enc,D.mkAgg,fnD]
theorem Zac:∀(k:Nat) (ds:List (TV U)) (j:Nat) (o:TO U),(j,o)∈ZJ k ds→k≤j∧∃t,o= .arr t [] false
 |k,[],j,o,h=>by grind[ZJ]
 |k,d::r,j,o,h=>by
  cases d
  case nils t=>
   simp only[ZJ,ZnD,ZnP]at h;rcases h with ⟨rfl,rfl⟩ |h
   ·simp_all
   ·have:=Zac (k+1) r j o h;grind
  all_goals
   simp only[ZJ]at h;have:=Zac (k+1) r j o h;exact⟨by omega,this.2⟩
theorem ZdE (ep i:Nat):∀(k:Nat) (ds:List (TV U)) (d:TV U),d∈ZcO ep i k ds→d∈ds∨∃j t,d= .full (ep,i,j) 0∧(j,TO.arr t [] false)∈ZJ k ds
 |k,[],d,h=>by grind[ZcO]
 |k,x::r,d,h=>by
  cases x
  case nils t=>
   simp only[ZcO,ZnD]at h;rcases h with rfl |h
   ·grind[ZJ]
   ·rcases ZdE ep i (k+1) r d h with h |⟨j,t',h1,h2⟩
    all_goals grind[ZJ]
  all_goals
   simp only[ZcO,ZnD]at h;rcases h with rfl |h
   ·exact .inl ZnE
   ·rcases ZdE ep i (k+1) r d h with h |⟨j,t',h1,h2⟩
    ·exact .inl (Zoa _ h)
    ·exact .inr ⟨j,t',h1,by simp only[ZJ];exact h2⟩
theorem Zgt:∀(l:List (Id×TO U)) (T:TS U) (id:Id),(∃o,(id,o)∈l)→(∀o,(id,o)∈l→∀n,o.len?=some n→n=0)→Zgz (T.objL l).objs (id,0)
 | [],T,id,h,_=>by grind
 |(a,u)::l,T,id,h,hz=>by
  simp only[TS.objL]
  by_cases hm:∃o,(id,o)∈l
  ·exact Zgt l _ id hm fun o ho=>hz o (Zoa _ ho)
  ·obtain⟨o,ho⟩:=h;rcases ZnD.1 ho with ho |ho
   ·simp only[ZnP]at ho;obtain⟨rfl,rfl⟩:=ho;have key:∀(l:List (Id×TO U)) (T:TS U),(¬∃o,(id,o)∈l)→(T.objL l).objs id=T.objs id:=by
     intro l
     induction l with
     |nil=>intro T _;rfl
     |cons x l ih=>
      grind[TS.objL,upd]
    refine⟨o, ?_,fun n he=>hz o ZnE n he⟩;grind[upd]
   simp_all
theorem ZgN (hT:T.Inv) {k0:Nat} {ds:List (TV U)} (hds:∀d∈ds,d.inv T.objs) {e:Zk U} (hval:e.val.fulls=[]) (hwr:∀id o,(id,o)∈e.wr→∃cs,o= .box cs∧∀d∈cs,d∈ZcO T.ep i k0 ds∨d.inv T.objs)
  (hnew:∀j o,(j,o)∈e.new→(∃cs,o= .box cs∧∀d∈cs,d∈ZcO T.ep i k0 ds∨d.inv T.objs)∨(j,o)∈ZJ k0 ds) (hin:∀j o,(j,o)∈ZJ k0 ds→(j,o)∈e.new) (h0:∀j o,(j,o)∈e.new→∀o',(j,o')∈ZJ k0 ds→∃t,o= .arr t [] false):ZL T i e:=by
 have hw:∀id o,(id,o)∈e.wr→Zc0 (T.objs id) o:=fun id o hm n he=>by grind[TO.len?]
 have box:fresh T i e=true→∀d,d∈ZcO T.ep i k0 ds∨d.inv T.objs→d.inv (lkA T i e):=fun hf d hd=>by
  rcases hd with hd |hd
  ·rcases ZdE _ _ _ _ _ hd with hd |⟨j,t,rfl,hm⟩
   ·grind[TV.inv_old]
   ·intro q hq;simp only[TV.fulls,ZnF]at hq;subst hq;refine Zgt _ _ _ ⟨.arr t [] false,Zod.2 ⟨_,hin _ _ hm,rfl⟩⟩ fun o ho n he=> ?_
    obtain⟨x,hx,hq⟩:=Zod.1 ho;simp only[ZnP,true_and]at hq;obtain⟨rfl,rfl⟩:=hq;obtain⟨t2,h2⟩:=h0 _ _ hx _ hm;rw[h2]at he;cases he;rfl
  grind[TV.inv_old]
 refine⟨hw,fun _=>Ze hval,fun hf o ho=> ?_⟩;rcases ho with ⟨j,hm⟩ |⟨id,hm⟩
 ·rcases hnew j o hm with ⟨cs,rfl,hc⟩ |hm
  ·exact fun d hd=>box hf d (hc d hd)
  ·obtain⟨_,t,rfl⟩:=Zac _ _ _ _ hm;trivial
 ·obtain⟨cs,rfl,hc⟩:=hwr id o hm;exact fun d hd=>box hf d (hc d hd)
theorem Ziv (hT:T.Inv) {ds:List (TV U)} (hds:∀d∈ds,d.inv T.objs):ZL T i (Zfe T i ds):=by
 refine ZgN (k0:=1) hT hds rfl (by simp[Zfe]) (fun j o hm=> ?_) (fun j o hm=>Zoa _ hm) (fun j o hm o' hm'=> ?_)
 ·rcases ZnD.1 hm with hm |hm
  all_goals simp_all
 ·rcases ZnD.1 hm with hm |hm
  ·simp only[ZnP]at hm;have:=(Zac _ _ _ _ hm').1;omega
  ·exact(Zac _ _ _ _ hm).2
theorem Zfd (T:TS U) (i:Nat) (ds:List (TV U)):(Zfe T i ds).enc []={val:= .ptr (T.ep,i,0) 0 0,new:=(0,.box (ZeO T.ep i 1 (TV.encs ds)))::ZU 1 (TV.encs ds)}:=by grind[Zfe,Zk.enc,TV.enc,ZaB,ZdF,Zbt]
theorem ZjV (hX:TOk X) (hT:T.Inv) {t:Nat} (h:Zht X T i t k=some r):Snd X T i (.alloc t) ty k r:=by unfold Zht at h;split at h;rotate_left;simp at h;rename_i e he;refine⟨_,[], ?_,by simp,Ziv hT (fun d hd=>Ze (hX.inv t e he d hd)),h⟩;rw[Zfd];simp only[Zf,Zs he,←hX.zero t e he]
theorem Zap (ds:List (TV U)):(TV.encs ds).length=ds.length:=by rw[Zai,Zor]
theorem Zmo (hU:UOk U) (hX:TOk X) (hT:T.Inv) {t:Nat} {x:Operand} (h:Zmy X T i t x k=some r):Snd X T i (.box t x) ty k r:=by unfold Zmy at h;split at h;rotate_left;simp at h;rename_i e d he hd;split at h;rotate_left;simp at h;rename_i hc;refine⟨_,[], ?_,by simp,Ziv hT (Zd5 (ZA hT hd)),h⟩;grind[Zfd,Zf,Zap,Zs,Zb,Zen,ZfG]
theorem ZcQ {α β:Type} (f:α→β) (xs ys:List α) (j:Nat):(ZT xs j ys).map f=ZT (xs.map f) j (ys.map f):=by grind[ZT,List.map_take,Zos]
theorem Zei (xs ys:List (TV U)) (j:Nat):TV.encs (ZT xs j ys)=ZT (TV.encs xs) j (TV.encs ys):=by grind[Zai,ZcQ]
theorem Zku (xs:List (TV U)) (n:Nat):TV.encs (xs.take n)=(TV.encs xs).take n:=by grind[Zai,List.map_take]
theorem ZbE (xs:List (TV U)) (n:Nat):TV.encs (xs.drop n)=(TV.encs xs).drop n:=by grind[Zai,Zos]
theorem ZeR {α:Type} {xs ys:List α} {j:Nat} {a:α} (h:a∈ZT xs j ys):a∈xs∨a∈ys:=by
 grind[ZT]
theorem Zed (hU:UOk U) (hX:TOk X) (hT:T.Inv) {e:TT U}:∀(parts:List (Nat×Operand)) (cs ds:List (TV U)),(∀c∈cs,c.inv T.objs)→Zee X T.slots e parts cs=some ds→
  Zb4 X.E T.enc.slots e.ti parts (TV.encs cs)=some (TV.encs ds)∧∀d∈ds,d.inv T.objs
 | [],cs,ds,hi,h=>by simp only[Zee,ZnO]at h;subst h;exact⟨rfl,hi⟩
 |(j,x)::r,cs,ds,hi,h=>by simp only[Zee]at h;split at h;rotate_left;simp at h;rename_i off t hp;split at h;rotate_left;simp at h;rename_i tp d htp hd;split at h;rotate_left;simp at h;rename_i hc;have:=Zed hU hX hT r _ ds (fun c hcm=>by rcases ZeR hcm with hm |hm;(·simp_all);exact Zd5 (ZA hT hd) c hm) h;grind[Zei,Zb4,Zap,Zs,Zb,Zen,ZfG]
theorem ZjU (hU:UOk U) (hX:TOk X) (hT:T.Inv) {t:Nat} {parts:Array (Nat×Operand)} (h:Zhs X T t parts.toList k=some r):Snd X T i (.build t parts) ty k r:=by unfold Zhs at h;split at h;rotate_left;simp at h;rename_i e he;split at h;rotate_left;simp at h;rename_i hn;split at h;rotate_left;simp at h;rename_i cs hcs;obtain⟨q1,q2⟩:=Zed hU hX hT _ _ _ (fun c hc=>Ze (hX.inv t e he c hc)) hcs;refine⟨_,[], ?_,by simp,ZL.pure (ZgI q2),h⟩;rw[hX.zero t e he]at q1;simp only[Zf,Zs he,hX.agg t e he,hn,if_true,q1,Zk.enc,ZeZ hU,Zot]
theorem ZM {l:Lf U.car} {t:Ty} {x:El U.car t} (h:l.as t=some x):l=⟨t,x⟩:=by unfold Lf.as at h;split at h;rotate_left;simp at h;rename_i he;obtain⟨t',y⟩:=l;grind
theorem Zb6 (hU:UOk U) (l:Lf U.car):(U.encL l).cells.length=U.tsize l.t:=by grind[Zd.encL,ZaH,ZbV]
theorem Zb3 (hU:UOk U) (hX:TOk X) (hT:T.Inv) {t n:Nat} {e:TT U}:∀(parts:List (Nat×Operand)) (es es':List (El U.car e.ty)),es.length=n→Za4 X T t e n parts es=some es'→
  ZH X.E T.enc.slots T.enc.objs t e.ti parts (es.map (U.encE e.ty))=some (es'.map (U.encE e.ty))∧es'.length=n
 | [],es,es',hl,h=>by simp only[Za4,ZnO]at h;subst h;exact⟨rfl,hl⟩
 |(j,x)::r,es,es',hl,h=>by
  simp only[Za4]at h;split at h;rotate_left;simp at h;rename_i d hd;split at h;rotate_left;simp at h;rename_i l hlf;split at h;rotate_left;simp at h;rename_i y hy;split at h;rotate_left;simp at h;rename_i hc;have:=Zb3 hU hX hT r _ es' (by simp_all) h;refine⟨?_,this.2⟩;have hl':=ZM hy;have ht:=Zd2 hU (ZA hT hd) hlf 7;grind[Zb6,ZH,depth,Zd.encL,Zb,List.map_set]
theorem Zbh {t:Ty} {xs:List (El U.car t)} {n:Nat} {fix:Bool} {frz:List Id} {wr:List (Id×TO U)} (hn:xs.length=n) (hwr:∀id o,(id,o)∈wr→o= .gone):
  ZL T i {val:= .full (T.ep,i,0) n,new:=[(0,.arr t xs fix)],wr:=wr,frz:=frz}:=by
 refine⟨fun id o hm n he=> ?_,fun _ q hq=> ?_,fun _ o ho=> ?_⟩
 ·grind[TO.len?]
 ·simp only[TV.fulls,ZnF]at hq;subst hq;refine⟨.arr t xs fix, ?_,fun n' he=> ?_⟩
  ·simp_all[lkA,TS.objL,upd]
  ·cases he;omega
 ·rcases ho with ⟨j,hk⟩ |⟨id,hk⟩
  ·simp only[ZnF,ZnP]at hk;obtain⟨_,rfl⟩:=hk;trivial
  ·rw[hwr id o hk];trivial
theorem ZgO {o:TO U} {n:Nat} {wr:List (Id×TO U)} (hn:∀m,o.len?=some m→m=n) (ho:∀lk,o.inv lk) (hwr:∀id o,(id,o)∈wr→Zc0 (T.objs id) o∧∀lk,o.inv lk):
  ZL T i {val:= .full (T.ep,i,0) n,new:=[(0,o)],wr:=wr}:=by
 refine⟨fun id o hm=>(hwr id o hm).1,fun _ q hq=> ?_,fun _ o' ho'=> ?_⟩
 ·simp only[TV.fulls,ZnF]at hq;subst hq;exact⟨o,by simp_all[lkA,TS.objL,upd],hn⟩
 grind
theorem Zia (hU:UOk U) {n i':Nat} {xs:List (U.car n)} {y:U.car n} (hy:xs[i']? =some y):(xs.map (U.encE (.st n)))[i']? =some (.agg ((U.cells n y).map U.encL)):=by rw[ZnB,hy];simp only[Zow,Zd.encE,hU.enc_cells]
theorem ZeD (hU:UOk U) (hX:TOk X) (hT:T.Inv) {t n:Nat} {parts:Array (Nat×Operand)} (h:Zby X T i t n parts.toList k=some r):Snd X T i (.buildSlice t n parts) ty k r:=by unfold Zby at h;split at h;rotate_left;simp at h;rename_i e0 he0;split at h;rotate_left;simp at h;rename_i u hu;split at h;rotate_left;simp at h;rename_i e he;split at h;rotate_left;simp at h;rename_i z0 hz0;split at h;rotate_left;simp at h;rename_i z hz;split at h;rotate_left;simp at h;rename_i es hes;split at h;rotate_left;simp at h;rename_i hc;obtain⟨q1,q2⟩:=Zb3 hU hX hT _ _ _ (by simp) hes;refine⟨_,[], ?_,by simp,Zbh q2 (by simp),h⟩;have hzp:=hX.zl u e z0 he hz0;rw[ZM hz]at hzp;rw[List.map_replicate,show U.encE e.ty z=e.ti.zeroP from hzp]at q1;have:=Zs he0;obtain⟨⟨d,a,b,c⟩,a',b',c',d'⟩:=e0;grind[Zf,Zk.enc,TV.enc,ZI,Zs]
theorem Zcv (hU:UOk U) (hX:TOk X) {t:Nat} {e:TT U} (he:X.get t=some e) {cs:List (TV U)} {d:TV U} (h:ZcY e cs=some d):ZfK e.ti (TV.encs cs)=some d.enc:=by
 unfold ZcY at h;unfold ZfK;rw[hX.agg t e he];split at h
 ·grind[Zap,ZeZ,Zku]
 ·rename_i hn;rw[if_neg hn];cases cs with
  |nil=>grind
  |cons c r=>simp only[List.head?_cons,ZnO]at h;subst h;rfl
theorem Zav {lk:Id→Option (TO U)} {e:TT U} {cs:List (TV U)} {d:TV U} (hc:∀c∈cs,c.inv lk) (h:ZcY e cs=some d):d.inv lk:=by
 grind[ZcY,ZgI,List.mem_of_mem_head?]
theorem Zkg (ti:TI) (ps:List P):ZfK ti (ps.map .p)=(Zdp ti ps).map .p:=by
 unfold ZfK Zdp;split
 ·rw[Zor];split
  ·rw[←List.map_take,Zcu];rfl
  ·rfl
 simp_all
theorem ZaP (hU:UOk U) (hX:TOk X) {t:Nat} {e:TT U} (he:X.get t=some e) {ls:List (Lf U.car)} {d:TV U} (h:ZcY e (ls.map lv)=some d):∃x,Zdp e.ti (ls.map U.encL)=some x∧d.enc= .p x:=by
 have:=Zcv hU hX he h;rw[ZbD,Zkg]at this;cases hq:Zdp e.ti (ls.map U.encL)with
 |none=>simp_all
 |some x=>simp_all
theorem ZfN {t:Ty} {xs:List (El U.car t)} {n:Nat} {x:El U.car t} (h:xs[n]? =some x):(xs.map (U.encE t)).getD n default=U.encE t x:=by simp_all
theorem Zk7 (hU:UOk U) (hX:TOk X) (hT:T.Inv) {t:Nat} {x:Operand} (h:Zj8 X T i t x k=some r):Snd X T i (.load t x) ty k r:=by
 unfold Zj8 at h;split at h
 ·rename_i e cs he hd;split at h;rotate_left;simp at h;rename_i d hl;obtain⟨x',h1,h2⟩:=ZaP hU hX he hl;refine⟨_,[], ?_,by simp,ZL.pure (Zav (fun c hc=> ?_) hl),h⟩
  ·simp_all[Zf,TV.enc,Zk.enc,Zs,Zb]
  ·obtain⟨l,_,rfl⟩:=Zod.1 hc;exact Zah _ _
 ·rename_i e id i' j he hd;split at h
  ·rename_i cs ho;split at h;rotate_left;simp at h;rename_i h0;subst h0;split at h;rotate_left;simp at h;rename_i d hl;have:=Zcv hU hX he hl;rw[ZbE]at this;refine⟨_,[], ?_,by simp,ZL.pure (Zav (fun c hc=>hT.objs id _ ho c (List.mem_of_mem_drop hc)) hl),h⟩;simp_all[Zf,TV.enc,ZaB,Zk.enc,Zs,Zb,Zc]
  ·rename_i u xs fix ho;obtain⟨y,hy,h⟩:=bind_some h;split at h;rotate_left;simp at h;rename_i d hl;obtain⟨x',h1,h2⟩:=ZaP hU hX he hl;refine⟨_,[], ?_,by simp,ZL.pure (Zav (fun c hc=> ?_) hl),h⟩
   ·rw[Zos,←ZaH hU]at h1;simp_all[Zf,TV.enc,ZI,Zk.enc,Zs,Zb,Zc]
   ·obtain⟨l,_,rfl⟩:=Zod.1 hc;exact Zah _ _
  ·rename_i n c u xs lo out ho;obtain⟨y,hy,h⟩:=bind_some h;have hg:=Zia hU hy;split at h
   ·obtain⟨hlo,h⟩:=Zi h;split at h;rotate_left;simp at h;rename_i d hl;obtain⟨x',h1,h2⟩:=ZaP hU hX he hl;rw[Zos]at h1;refine⟨_,[], ?_,by simp,ZL.pure (Zav (fun c hc=> ?_) hl),h⟩
    ·simp_all[Zf,TV.enc,Zfb,Zk.enc,Zs,Zb,Zc,if_pos,of_decide_eq_true]
    ·obtain⟨l,_,rfl⟩:=Zod.1 hc;exact Zah _ _
   ·rename_i hns;split at h;rotate_left;simp at h;rename_i u' l hcl hx;split at h;rotate_left;simp at h;rename_i hcnd;obtain⟨rfl,rfl,hs⟩:=hcnd;obtain⟨hlo,h⟩:=Zi h;have hlo:=of_decide_eq_true hlo;refine⟨_,[], ?_,by simp,ZgO (o:= .arr u' l false) (fun m hm=>by simpa[TO.len?]using hm.symm) (fun _=>trivial) (fun id' o hm=> ?_),h⟩
    ·have hag:e.ti.isAgg=false:=by rw[hX.agg t e he];simpa using hns
     simp only[Zf,Zs he,Zb hX hd,TV.enc,Zc ho,Zfb,hg,if_neg (Nat.not_le.2 hlo),hs,hag,Zk.enc,Zot,Zn6,ZI];rw[ZnB,hcl];simp only[Zow,Zd.encL,Zd.encE,and_self,if_true,Zor]
    ·simp only[ZnF,ZnP]at hm;obtain⟨rfl,rfl⟩:=hm;exact⟨fun m hm=>⟨_,ho,hm⟩,fun _=>trivial⟩
  simp_all
 ·rename_i e id he hd;split at h;rotate_left;simp at h;rename_i hc;refine⟨_,[], ?_,by simp,ZL.pure (Ze rfl),h⟩;simp only[Zf,Zs he,Zb hX hd,TV.enc,Option.map_none,hc,and_self,if_true,Zk.enc,Zot]
 simp_all
theorem Zj4 {e x:P} {sz:Nat} (h:x.cells.length=sz):e.put sz 0 x=x:=by simp[P.put,h]
theorem ZjO (hU:UOk U) (hX:TOk X) (hT:T.Inv) {t:Nat} {a x:Operand} (h:Zhm X T i t a x k=some r):Snd X T i (.store t a x) ty k r:=by
 unfold Zhm at h;split at h;rotate_left;simp at h;rename_i e id i' j d he ha hd;split at h
 ·rename_i cs ho;split at h;rotate_left;simp at h;rename_i hc;obtain⟨rfl,h1,h2,h3⟩:=hc;refine⟨_,[], ?_,by simp, ?_,h⟩
  ·simp only[Zf,Zs he,Zb hX ha,Zb hX hd,TV.enc,Zc ho,ZaB,ZI,Z5,Zb5,ZbF,ZaZ,←Zen hU,Zap,h1,ZfG h3,true_and,and_true,Zk.enc,Zbt,Zn6,Zot,Zei,ZdF];simp_all
  ·refine ZgN (k0:=0) hT (Zd5 (ZA hT hd)) rfl (fun id' o hm=> ?_) (fun j' o hm=> .inr hm) (fun _ _ hm=>hm) (fun j' o hm _ _=>(Zac _ _ _ _ hm).2);simp only[ZnF,ZnP]at hm;obtain⟨rfl,rfl⟩:=hm;refine⟨_,rfl,fun d' hd'=> ?_⟩;rcases ZeR hd' with hm |hm
   ·exact .inr (hT.objs _ _ ho d' hm)
   simp_all
 ·rename_i u xs fix ho;split at h;rotate_left;simp at h;rename_i l hl;split at h;rotate_left;simp at h;rename_i hc;have ht:=Zd2 hU (ZA hT hd) hl 7;have hcl:=Zb6 hU l;have hset:∀y:El U.car u,U.encE u y=((xs.map (U.encE u)).getD i' default).put (U.tsize u) j (U.encL l)→ZL T i {val:=TV.undef,wr:=[(id,.arr u (xs.set i' y) fix)],frz:=d.enc.ids T.enc.objs depth}:=fun y _=>
   ⟨fun id' o hm n' he'=>by
    grind[TO.len?],fun _=>Ze rfl,fun _ o hm=>by
    rcases hm with ⟨_,hm⟩ |⟨_,hm⟩
    ·simp_all
    ·simp only[ZnF,ZnP]at hm;obtain⟨_,rfl⟩:=hm;trivial⟩
  have hcore:∀y:El U.car u,U.encE u y=((xs.map (U.encE u)).getD i' default).put (U.tsize u) j (U.encL l)→Zf X.E T.ep i (.store t a x) ty T.enc.slots T.enc.objs=some (({val:=TV.undef,wr:=[(id,.arr u (xs.set i' y) fix)],frz:=d.enc.ids T.enc.objs depth}:Zk U).enc []):=fun y hy=>by simp only[Zf,Zs he,Zb hX ha,Zb hX hd,TV.enc,Zc ho,ZaB,ZI,Z5,Zb5,ZbF,ZaZ,depth,ht,hcl,hc.1,hc.2.1,hc.2.2,and_self,if_true,Zk.enc,Zot,Zn6,List.map_set,hy]
  split at h
  ·rename_i hw;obtain⟨rfl,hs⟩:=hw;split at h;rotate_left;simp at h;rename_i y hy;have hyy:=ZM hy;have:U.encE u y=((xs.map (U.encE u)).getD i' default).put (U.tsize u) 0 (U.encL l):=by rw[Zj4 (by omega),hyy];rfl
   exact⟨_,[],hcore y this,by simp,hset y this,h⟩
  ·rename_i hw;obtain⟨z,hz,h⟩:=bind_some h;split at h;rotate_left;simp at h;rename_i y hy;have:U.encE u y=((xs.map (U.encE u)).getD i' default).put (U.tsize u) j (U.encL l):=by
    rw[ZfN hz];have hcy:=ZaO hU hy;have e1:=ZaH hU u y;rw[hcy,ZcQ,←ZaH hU,←ZaH hU]at e1;unfold P.put;rw[if_neg (by omega)];cases u with
    |st n=>
     simp only[Zd.encE,hU.enc_cells,P.cells]at e1⊢
     rw[e1];rfl
    |_=>
     exfalso;have:U.tsize l.t=1∧j=0:=by have h1:=hc.1;have h2:=hc.2.1;have h3:=hc.2.2;simp only[Zd.tsize]at h2;constructor<;>omega
     exact hw ⟨this.2,this.1⟩
   exact⟨_,[],hcore y this,by simp,hset y this,h⟩
 ·rename_i n c u xs lo out ho;split at h;rotate_left;simp at h;rename_i id2 m;split at h;rotate_left;simp at h;rename_i u' l ho2;split at h;rotate_left;simp at h;rename_i hcnd;obtain⟨rfl,rfl,hs,hnn⟩:=hcnd;obtain⟨hout,h⟩:=Zi h;obtain⟨y,hy,h⟩:=bind_some h;split at h;rotate_left;simp at h;rename_i z hz;have hg:=Zia hU hy;obtain⟨o,h1,h2⟩:=ZA hT hd (id2,m) (by simp[TV.fulls]);dsimp only at h1;rw[ho2,ZnO]at h1;have hm:Zoq l=m:=h2 _ (by rw[←h1];rfl);have hag:e.ti.isAgg=false:=by rw[hX.agg t e he];simp_all
  have hne:id2≠id:=fun e=>by grind
  have hzc:U.encE (.st n) z= .agg (List.set ((U.cells n y).map U.encL) j (.sl (U.tsize u') (l.map (U.encE u')))):=by rw[Zd.encE,hU.enc_cells,hU.of_cells _ _ _ hz,List.map_set];rfl
  have hou:(out=some i'∧i' < lo∨out=none∧lo=i'):=by
   grind
  refine⟨_,[], ?_,by simp,⟨fun id' o hm=> ?_,fun _=>Ze rfl,fun _ o hm=> ?_⟩,h⟩
  ·simp only[Zf,Zs he,Zb hX ha,Zb hX hd,TV.enc,Zc ho,Zc ho2,Zfb,ZI,hg,Zor,hm,hs,hag,hne,ne_eq,not_false_eq_true,and_self,and_true,hou,if_true,Zk.enc,Zot,Zn6,List.map_set,hzc,ZaZ]
  ·simp only[ZnD,ZnP,List.not_mem_nil,or_false]at hm;rcases hm with ⟨rfl,rfl⟩ |⟨rfl,rfl⟩
   ·exact fun k hk=>⟨_,ho,by simpa[TO.len?]using hk⟩
   ·exact fun k hk=>by simp[TO.len?]at hk
  ·rcases hm with ⟨_,hm⟩ |⟨_,hm⟩
   ·simp at hm
   ·simp only[ZnD,ZnP,List.not_mem_nil,or_false]at hm;rcases hm with ⟨_,rfl⟩ |⟨_,rfl⟩<;>trivial
 simp_all
theorem Zgd (hX:TOk X) (hT:T.Inv) {x:Operand} (h:ZcV X T x k=some r):Snd X T i (.nilCheck x) ty k r:=by
 unfold ZcV at h;split at h
 ·rename_i cs hd;exact⟨_,[],by grind[Zf,TV.enc,Zk.enc,Zb],by simp,ZL.pure (Ze rfl),h⟩
 ·rename_i id a b hd;exact⟨_,[],by grind[Zf,TV.enc,Zk.enc,Zb],by simp,ZL.pure (Ze rfl),h⟩
 ·rename_i f a b hd;refine⟨_,[], ?_,by simp,ZL.pure (ZA hT hd),h⟩;grind[Zf,TV.enc,Zk.enc,Zb,Zkr]
 ·rename_i y id hd;exact⟨_,[],by grind[Zf,TV.enc,Zk.enc,Zb],by simp,ZL.pure (Ze rfl),h⟩
 simp_all
end
end Eng
namespace Eng
open Go
section
variable {U:Zd} {R:Type} {X:ZG U} {T:TS U} {i ty:Nat} {k:Zk U→Option R} {r:R}
theorem Zw {b:Bool} (h:b=true):∀q∈[b],q=true:=fun q hq=>by simp_all
theorem ZcB {p:P} {d:TV U} (h:ZmV p=some d):d.enc= .p p∧d.fulls=[]:=by unfold ZmV at h;split at h<;>first |(cases h;exact⟨rfl,rfl⟩) |grind
theorem Zd3 {d:TV U} {p:P} (h:Zi4 d=some p):d.enc= .p p∧(∀cs,p≠ .agg cs):=by unfold Zi4 at h;split at h<;>first |(cases h;exact⟨rfl,by simp⟩) |grind
theorem ZiG (hU:UOk U) {d:TV U} {ps:List P} (h:aggP d=some ps):d.enc= .p (.agg ps):=by
 unfold aggP at h;split at h
 ·cases h;simp only[TV.enc,Zd.encE,hU.enc_cells]
 ·split at h;rotate_left;simp at h;rename_i ls hls;cases h;rw[ZcL hls,TV.enc,ZbD,Zcu]
 simp_all
theorem Zmp (hU:UOk U) (hX:TOk X) (hT:T.Inv) {b:BinOp} {t u0:Nat} {x y:Operand} (h:Zmz X T b t x y k=some r):Snd X T i (.binOp b t x y u0) ty k r:=by
 unfold Zmz at h;split at h
 ·rename_i hn;unfold opNil at h;split at h
  ·rename_i e z he hd;have nc:∀td,td=TD.func→Zdi td (.const .nilFunc) (.p (Zkw z))=some (.p (.bool (Option.isNone z))):=fun td htd=>by subst htd;cases z<;>rfl
   split at h
   ·rename_i htd;refine⟨_,[], ?_,by simp,ZL.pure (Zah _ _),h⟩;simp_all[Zf,TV.enc,Zd.encE,Zk.enc,Zt,Zb]
   ·rename_i htd;refine⟨_,[], ?_,by simp,ZL.pure (Zah _ _),h⟩;simp_all[Zf,TV.enc,Zd.encE,D.notb,Zk.enc,Zt,Zb]
   simp_all
  ·rename_i e d hne he hd;split at h;rotate_left;simp at h;rename_i z hz;split at h
   ·refine⟨_,[], ?_,by simp,ZL.pure (Zah _ _),h⟩;grind[Zf,Zk.enc,TV.enc,Zd.encE,Zt,Zb]
   ·refine⟨_,[], ?_,by simp,ZL.pure (Zah _ _),h⟩;grind[Zf,D.notb,Zk.enc,TV.enc,Zd.encE,Zt,Zb]
   simp_all
  simp_all
 ·rename_i hn;have hn':Operand.isNil y=false:=by simp_all
  split at h
  ·rename_i u v hu hv;split at h;rotate_left;simp at h;rename_i e z he hz;split at h;rotate_left;simp at h;rename_i d hd hz';obtain⟨q1,q2⟩:=ZcB hz';refine⟨_,[], ?_,by simp,ZL.pure (Ze q2),h⟩;simp_all[Zf,TV.enc,Zd.encE,Zk.enc,Zb,Zt]
  ·rename_i d d' hne hu hv;split at h
   ·rename_i us vs hus hvs;split at h;rotate_left;simp at h;rename_i z hz;split at h;rotate_left;simp at h;rename_i dz hdz;obtain⟨q1,q2⟩:=ZcB hdz;refine⟨_,[], ?_,by simp,ZL.pure (Ze q2),h⟩;simp_all[Zf,Zk.enc,Zb,ZiG]
   ·split at h;rotate_left;simp at h;rename_i p q hp hq;split at h;rotate_left;simp at h;rename_i z c hz;split at h;rotate_left;simp at h;rename_i dz hdz;obtain⟨q1,q2⟩:=ZcB hdz;obtain⟨hc,h⟩:=Zel h;refine⟨_,c, ?_,hc,ZL.pure (Ze q2),h⟩;obtain⟨e1,e2⟩:=Zd3 hp;obtain⟨e3,e4⟩:=Zd3 hq;simp only[Zf,hn',Bool.false_eq_true,if_false,Zb hX hu,Zb hX hv,e1,e3];split
    ·rename_i a1 a2 e5 e6;cases e5;cases e6;exfalso;unfold Zi4 at hp hq;split at hp<;>simp at hp;split at hq<;>simp at hq;subst hp hq;exact hne _ _ rfl rfl
    all_goals grind[Zk.enc]
  simp_all
theorem snd_un (hX:TOk X) (hT:T.Inv) {u:UnOp} {t:Nat} {x:Operand} (h:opUn X T u x k=some r):Snd X T i (.unOp u t x) ty k r:=by unfold opUn at h;split at h;rotate_left;simp at h;rename_i d hd;split at h;rotate_left;simp at h;rename_i v hv;split at h;rotate_left;simp at h;rename_i z c hz;split at h;rotate_left;simp at h;rename_i dz hdz;obtain⟨q1,q2⟩:=ZcB hdz;obtain⟨hc,h⟩:=Zel h;refine⟨_,c, ?_,hc,ZL.pure (Ze q2),h⟩;simp_all[Zf,Zk.enc,Zb,Zd3]
theorem Zhf (hX:TOk X) (hT:T.Inv) {s t:Nat} {x:Operand} (h:ZdS X T i s t x k=some r):Snd X T i (.convert s t x) ty k r:=by
 unfold ZdS at h;split at h;rotate_left;simp at h;rename_i es et d hes het hd;split at h
 ·rename_i k1 k2 k3 n h1 h2;refine⟨_,[], ?_,by simp,ZL.pure (Zah _ _),h⟩;simp_all[Zf,ZaD,TV.enc,Zd.encE,Zk.enc,Zt,Zb]
 ·rename_i str h1 h2;refine⟨_,[], ?_,by simp,ZL.pure (Zah _ _),h⟩;simp_all[Zf,ZaD,TV.enc,Zd.encE,Zk.enc,Zt,Zb]
 ·rename_i u str h1 h2;split at h;rotate_left;simp at h;rename_i eu heu;split at h;rotate_left;simp at h;rename_i h3;obtain⟨hc,h⟩:=Zi h;refine⟨_,[decide (str.length≤281474976710656)], ?_,Zw hc,Zbh (by simp) (by simp),h⟩;simp_all[Zf,ZaD,TV.enc,Zd.encE,Zk.enc,ZI,Zd.tsize,ZaR,Zt,Zb]
 ·rename_i u d' h1 h2;split at h;rotate_left;simp at h;rename_i eu l heu hl;split at h;rotate_left;simp at h;rename_i xs h3 hxs;have hl':=ZM hxs;refine⟨_,[true], ?_,by simp,ZL.pure (Zah _ _),h⟩;have ht:=ZcZ (ZA hT hd) hl 1;rw[hl']at ht;simp only[Zf,ZaD,Zt hes,Zt het,Zt heu,Zb hX hd,h1,h2,h3,ht,Zd.encL,Zd.encE,Zk.enc,TV.enc,Zot,List.map_map];have:(List.map (fun x=>P.int IntKind.u8 x) xs).all P.isU8=true:=by simp[P.isU8]
  rw[this];rfl
 simp_all
theorem ZhD (hX:TOk X):∀{xs:List Operand} {ds:List (TV U)},Zl9 X T.slots xs=some ds→xs.map (ev X.E T.enc.slots 0)=TV.encs ds
 | [],ds,h=>by simp[Zl9,Zj]at h;subst h;rfl
 |x::xs,ds,h=>by simp only[Zl9,Zj]at h;split at h;rotate_left;simp at h;rename_i d ds' h1 h2;cases h;simp only[Zn6,TV.encs,Zb hX h1,ZhD hX h2]
theorem ZfQ (hT:T.Inv):∀{xs:List Operand} {ds:List (TV U)},Zl9 X T.slots xs=some ds→∀d∈ds,d.inv T.objs
 | [],ds,h=>by grind[Zl9,Zj]
 |x::xs,ds,h=>by
  simp only[Zl9,Zj]at h;split at h;rotate_left;simp at h;rename_i d ds' h1 h2;cases h;intro a ha;rcases ZnD.1 ha with rfl |ha
  ·grind[ZA]
  ·exact ZfQ hT h2 a ha
theorem Zge (hX:TOk X) (hT:T.Inv) {f:Nat} {a b:Array Operand} (h:ZcW X T f a.toList b.toList k=some r):Snd X T i (.makeFunc (.func f) a b) ty k r:=by
 unfold ZcW at h;split at h;rotate_left;simp at h;rename_i as bs ha hb;refine⟨_,[], ?_,by simp,ZL.pure ?_,h⟩
 ·simp only[Zf,ZhD hX ha,ZhD hX hb,Zk.enc,TV.enc,Zot];rfl
 ·intro q hq;simp only[TV.fulls,Zn7]at hq;rcases hq with hq |hq
  ·obtain⟨d,hd,hq⟩:=Zq.1 hq;exact ZfQ hT ha d hd q hq
  ·obtain⟨d,hd,hq⟩:=Zq.1 hq;exact ZfQ hT hb d hd q hq
theorem ZdA {d:TV U} {o:TO U} {frz:List Id} (hd:d.fulls=[]) (ho:∀lk,o.inv lk):ZL T i {val:=d,new:=[(0,o)],frz:=frz}:=
 ⟨by simp,fun _=>Ze hd,fun _ o' hm=>by
  simp_all⟩
theorem Zcj {d:TV U} {id:Id} {o:TO U} {frz:List Id} (hd:d.fulls=[]) (hk:Zc0 (T.objs id) o) (ho:∀lk,o.inv lk):ZL T i {val:=d,wr:=[(id,o)],frz:=frz}:=
 ⟨fun id' o' hm=>by simp_all,fun _=>Ze hd,fun _ o' hm=>by
  simp_all⟩
theorem Zhd (hX:TOk X) (hT:T.Inv) {t:Nat} (h:ZdQ X T i t k=some r):Snd X T i (.makeMap t none) ty k r:=by unfold ZdQ at h;split at h;rotate_left;simp at h;rename_i e he;split at h;rotate_left;simp at h;rename_i kt vt hty;refine⟨_,[], ?_,by simp,ZdA rfl (fun _=>by trivial),h⟩;simp only[Zf,hX.key t e kt vt he hty,Zk.enc,TV.enc,Zn6,Zot,Z5,TS.enc]
theorem Zfu (hX:TOk X) (hT:T.Inv) {t:Nat} {l c:Operand} (h:Zcc X T i t l c k=some r):Snd X T i (.makeSlice t l c) ty k r:=by
 unfold Zcc at h;split at h;rotate_left;simp at h;rename_i e k1 a k2 b he hl hc;have hget:∃u,X.get u=some e:=by grind[ZG.elem]
 obtain⟨u,hu⟩:=hget;have hfind:X.E.owns.find? (·.1 == t)=(X.owns.find? (·.t == t)).map fun q=>(q.t,q.c,U.tsize q.u):=by show (X.owns.map fun q=>(q.t,q.c,U.tsize q.u)).find? (·.1 == t)=_;rw[List.find?_map];rfl
 split at h
 ·rename_i q hq;split at h;rotate_left;simp at h;rename_i n z hz0;split at h;rotate_left;simp at h;rename_i hs;obtain⟨rfl,hn,hsz,hzn⟩:=hs;obtain⟨hcond,h⟩:=Zi h;have hzp:=hX.zl u e _ hu hz0;have hag:e.ti.isAgg=true:=by rw[hX.agg u e hu];omega
  have hlt:q.c < e.ti.size:=by rw[←hsz];exact(hX.own q (List.mem_of_find?_eq_some hq)).1
  have hzc:e.ti.zero[q.c]? =some (.nils (U.tsize q.u)):=by grind[zNil]
  refine⟨_,[_], ?_,Zw hcond,ZgO (o:= .own (.st q.n) q.c q.u (List.replicate a.toNat z) a.toNat none) (fun m hm=>by grind[TO.len?]) (fun _=>trivial) (by simp),h⟩;simp only[Zf,Zax he,Zb hX hl,Zb hX hc,TV.enc,Zd.encE,Zk.enc,Zn6,Zot,Zfb,List.map_replicate,hfind,hq,Zow,hag,hlt,and_self,if_true,hzc];grind[Zd.tsize,Zd.encL,Zd.encE]
 rename_i hq;split at h;rotate_left;simp at h;rename_i z0 hz0;split at h;rotate_left;simp at h;rename_i z hz;split at h;rotate_left;simp at h;rename_i hs;obtain⟨hcond,h⟩:=Zi h;refine⟨_,[_], ?_,Zw hcond,Zbh (by simp) (by simp),h⟩;have hzp:=hX.zl u e z0 hu hz0;rw[ZM hz]at hzp;simp only[Zf,Zax he,Zb hX hl,Zb hX hc,TV.enc,Zd.encE,Zk.enc,Zn6,Zot,ZI,List.map_replicate,hs,hfind,hq,Option.map_none];rw[show U.encE e.ty z=e.ti.zeroP from hzp]
theorem ZbT (hX:TOk X) {x:Option Operand} {a:Option Int} (h:intT X T.slots x=some a):Zb1 X.E T.enc.slots x=some a:=by
 unfold intT at h;split at h
 ·cases h;rfl
 ·rename_i x';split at h;all_goals simp_all[Zb1,TV.enc,Zd.encE,Zb]
theorem ZhK {α β:Type} (f:α→β) (xs:List α) (lo hi:Option Int):(cut xs lo hi).map f=cut (xs.map f) lo hi:=by unfold cut;split<;>simp
theorem ZkE {α:Type} (xs:List α) (lo hi:Option Int) (n:Nat) (hn:n=xs.length):cut xs lo hi=(xs.take (hi.getD n).toNat).drop (lo.getD 0).toNat:=by subst hn;unfold cut;split<;>simp
theorem Zbg (hT:T.Inv) {t:Nat} {x:Operand} {id:Id} {n:Nat} (hd:evT X T.slots t x=some (.full id n)) {u:Ty} {xs:List (El U.car u)} {fix:Bool} (ho:T.objs id=some (.arr u xs fix)):n=xs.length:=by obtain⟨o,h1,h2⟩:=ZA hT hd (id,n) (by simp[TV.fulls]);dsimp only at h1;rw[ho,ZnO]at h1;exact(h2 _ (by rw[←h1];rfl)).symm
theorem ZgL (hT:T.Inv) {t:Nat} {x:Operand} {id:Id} {n:Nat} (hd:evT X T.slots t x=some (.full id n)) {u v:Ty} {c:Nat} {xs:List (El U.car u)} {lo:Nat} {out:Option Nat} (ho:T.objs id=some (.own u c v xs lo out)):n=xs.length:=by obtain⟨o,h1,h2⟩:=ZA hT hd (id,n) (by simp[TV.fulls]);dsimp only at h1;rw[ho,ZnO]at h1;exact(h2 _ (by rw[←h1];rfl)).symm
theorem ZeS (hT:T.Inv) {sz:Option Nat} {d:TV U} {lo hi mx:Option Int} (hd:d.inv T.objs) (h:Zh4 T sz d lo hi mx k=some r):
  ∃e cs,ZaV T.enc.objs sz d.enc lo hi mx=some (e.enc cs)∧(∀q∈cs,q=true)∧ZL T i e∧k e=some r:=by
 unfold Zh4 at h;split at h
 ·rename_i s;split at h;rotate_left;simp at h;obtain⟨hc,h⟩:=Zi h;refine⟨_,[_], ?_,Zw hc,ZL.pure (Zah _ _),h⟩;grind[ZaV,TV.enc,Zd.encE,Zk.enc,Zcp,ZkE]
 ·rename_i sz t xs;split at h;rotate_left;simp at h;rename_i hs;split at h
  ·obtain⟨hc,h⟩:=Zi h;refine⟨_,[_], ?_,Zw hc,ZL.pure (Zah _ _),h⟩;grind[ZaV,TV.enc,Zd.encE,Zk.enc,Zcp,ZhK,ZkE]
  ·rename_i m hh;obtain⟨hc,h⟩:=Zi h;refine⟨_,[_], ?_,Zw hc,ZL.pure (Ze rfl),h⟩;grind[ZaV,TV.enc,Zd.encE,Zk.enc,ZhK,ZkE]
  simp_all
 ·rename_i sz id n;split at h;rotate_left;simp at h;rename_i t xs fix ho;obtain⟨o,h1,h2⟩:=hd (id,n) (by simp[TV.fulls]);dsimp only at h1;have hln:xs.length=n:=h2 _ (by rw[ho,ZnO]at h1;rw[←h1];rfl);split at h;rotate_left;simp at h;rename_i hs;split at h
  ·obtain⟨hc,h⟩:=Zi h;split at h
   ·refine⟨_,[_], ?_,Zw hc,ZL.pure hd,h⟩;simp only[ZaV,TV.enc,Zc ho,ZI,hs,if_true,Zk.enc,Zcp,Option.getD_none,Zot,hln];simp
   ·refine⟨_,[_], ?_,Zw hc,ZL.pure (Ze rfl),h⟩;simp only[ZaV,TV.enc,Zc ho,ZI,hs,if_true,Zk.enc,Zcp,Zot,hln,Zok]
  ·rename_i m;split at h;rotate_left;simp at h;rename_i hh;obtain⟨hc,h⟩:=Zi h;refine⟨_,[_], ?_,Zw hc,ZL.pure (Ze rfl),h⟩;simp only[ZaV,TV.enc,Zc ho,ZI,hs,if_true,Zk.enc,Zot,hln,Zok,ZhK];congr 2;unfold cut;cases lo with
   |none=>simp
   |some l=>simp[List.drop_take]
 ·rename_i sz id off len;split at h;rotate_left;simp at h;rename_i t xs fix ho;split at h;rotate_left;simp at h;rename_i hs;split at h;rotate_left;simp at h;obtain⟨hc,h⟩:=Zi h;refine⟨_,[_], ?_,Zw hc,ZL.pure (Ze rfl),h⟩;simp only[ZaV,TV.enc,Zc ho,ZI,hs,if_true,Zk.enc,Zcp,Zot]
 ·rename_i sz t;split at h;rotate_left;simp at h;obtain⟨hc,h⟩:=Zi h;refine⟨_,[_], ?_,Zw hc,ZL.pure (Ze rfl),h⟩;simp only[ZaV,TV.enc,Zk.enc,Zot]
 simp_all
theorem ZjP (hX:TOk X) (hT:T.Inv) {t:Nat} {x:Operand} {lo hi mx:Option Operand} (h:Zhn X T t x lo hi mx k=some r):Snd X T i (.slice t x lo hi mx) ty k r:=by
 unfold Zhn at h;split at h;rotate_left;simp at h;rename_i e d a b c he hd ha hb hc;split at h
 ·rename_i hstr;obtain⟨e',cs,h1,h2,h3,h4⟩:=ZeS (i:=i) hT (ZA hT hd) h;refine⟨e',cs, ?_,h2,h3,h4⟩;grind[Zf,Zt,ZbT,Zb]
 ·rename_i u hsl;split at h;rotate_left;simp at h;rename_i eu heu;obtain⟨e',cs,h1,h2,h3,h4⟩:=ZeS (i:=i) hT (ZA hT hd) h;refine⟨e',cs, ?_,h2,h3,h4⟩;grind[Zf,Zt,Zs,ZbT,Zb]
 simp_all
theorem Zf8 {t:Nat} {e:TT U} {fs:List (Nat×Nat)} (he:X.get t=some e) (hd:e.ti.d= .struct fs):∃a b c,X.E.ty t=some ⟨.struct fs,a,b,c⟩:=by have:=Zs he;obtain⟨⟨d,a,b,c⟩,_,_,_,_⟩:=e;simp_all
theorem Zfw (hX:TOk X) (hT:T.Inv) {t f:Nat} {x:Operand} (h:Zce X T t x f k=some r):Snd X T i (.fieldAddr t x f) ty k r:=by
 unfold Zce at h;split at h;rotate_left;simp at h;rename_i e d he hd;split at h;rotate_left;simp at h;rename_i fs hfs;obtain⟨a,b,c,hty⟩:=Zf8 he hfs;split at h;rotate_left;simp at h;rename_i off ft hf;split at h;rotate_left;simp at h;rename_i tf htf;split at h
 ·grind
 ·rename_i hz;split at h
  ·refine⟨_,[], ?_,by simp,ZL.pure (Ze rfl),h⟩;simp_all[Zf,TV.enc,Zk.enc,Zs,Zb]
  ·refine⟨_,[], ?_,by simp,ZL.pure (Ze rfl),h⟩;simp_all[Zf,TV.enc,Zk.enc,Zs,Zb]
  ·split at h
   ·refine⟨_,[], ?_,by simp,ZL.pure (Ze rfl),h⟩;simp_all[Zf,TV.enc,Zk.enc,Zs,Zb]
   ·refine⟨_,[], ?_,by simp,ZL.pure (Ze rfl),h⟩;simp_all[Zf,TV.enc,Zk.enc,Zs,Zb]
   simp_all
  simp_all
theorem ZdW (ds:List D):(∃ps,ds=ps.map .p∧D.mkAgg ds= .p (.agg ps))∨D.mkAgg ds= .agg ds:=by
 grind[D.mkAgg,Zx]
theorem ZjS (hU:UOk U) (hX:TOk X) (hT:T.Inv) {t f:Nat} {x:Operand} (h:Zhq X T t x f k=some r):Snd X T i (.field t x f) ty k r:=by
 unfold Zhq at h;split at h;rotate_left;simp at h;rename_i e d he hd;split at h;rotate_left;simp at h;rename_i fs hfs;obtain⟨a,b,c,hty⟩:=Zf8 he hfs;split at h;rotate_left;simp at h;rename_i off ft hf;split at h;rotate_left;simp at h;rename_i tf htf;split at h
 ·grind
 ·rename_i hz;split at h
  ·rename_i n x';split at h;rotate_left;simp at h;rename_i y hy;obtain⟨p,h1,h2⟩:=ZaP hU hX htf hy;refine⟨_,[], ?_,by simp,ZL.pure (Zav (fun c hc=> ?_) hy),h⟩
   ·rw[Zos]at h1;simp only[Zf,hty,hf,Zs htf,hz,if_false,Zb hX hd,TV.enc,Zd.encE,hU.enc_cells,h1,Zow,Zk.enc,h2,Zot]
   ·obtain⟨l,_,rfl⟩:=Zod.1 hc;exact Zah _ _
  ·rename_i cs;split at h;rotate_left;simp at h;rename_i y hy;have h1:=Zcv hU hX htf hy;refine⟨_,[], ?_,by simp,ZL.pure (Zav (fun c hc=>ZhU (ZA hT hd) c (List.mem_of_mem_drop hc)) hy),h⟩;rw[ZbE]at h1;have hev:=Zb hX hd;rw[TV.enc]at hev;rcases ZdW (TV.encs cs)with ⟨ps,q1,q2⟩ |q2
   ·rw[q2]at hev;rw[q1,←Zos,Zkg]at h1;simp_all[Zf,Zk.enc,Zs]
   grind[Zf,Zk.enc,Zs]
  simp_all
end
end Eng

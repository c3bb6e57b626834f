/- The engine, text 3: an abstract evaluator of Go code over pure data, proved sound. -/
import Derived.Test.YtpkmihjnkbkcjaaGreatDoorE2
import Derived.ChangeSame
set_option linter.unusedVariables false
set_option linter.unusedSimpArgs false
set_option linter.unusedSectionVars false
open Array renaming getElem?_eq_some_iff→Zm4, getElem?_toList→Znz
open Bool renaming and_eq_false_iff→Zn1, and_eq_true→Zm8, false_eq_true→Zm9, or_eq_false_iff→ZnC
open List renaming all_eq_true→ZnD, flatMap_cons→Zn2, getD_eq_getElem?_getD→Zn3, getElem?_eq_some_iff→Zne, getElem?_map→Znf, length→Zn4, length_append→Zn5, length_map→Zn6, map_append→Zn7, map_cons→Znh, map_drop→Zn8, map_map→Zn9, map_nil→Zoa, map_take→Zob, mem_append→Zni, mem_cons→Znj, mem_cons_of_mem→ZnR, mem_flatMap→Znl, mem_map→ZnT, mem_map_of_mem→Zoc, mem_of_getElem?→ZnU, mem_of_mem_drop→Zod, mem_singleton→Znm
open Nat renaming add_assoc→Zno, le_refl→Znq, zero_add→ZnZ
open Option renaming map_some→Zoe, some.inj→Znu, some.injEq→Znv
open Prod renaming mk.injEq→Znw
namespace Eng
open Go
def Zo (lk lk':Id→Option Obj) (l:List Id):Prop:=∀id∈l,lk id=lk' id
theorem Zlf {lk:Id→Option Obj}:∀(n:Nat) (d:D) (id:Id),id∈d.ids lk n→id∈d.ids lk (n+1):=by
 intro n
 induction n with
 |zero=>
  intro d id h;cases d with
  |ptr id' i j=>simp only[D.ids,Znm]at h;subst h;simp[D.ids]
  |agg cs=>simp[D.ids]at h
  |tup cs=>simp[D.ids]at h
  |fn f a b=>simp[D.ids]at h
  |it id'=>simpa[D.ids]using h
  |sl id' o l=>simpa using h
  |map id'=>simpa using h
  |_=>simp[D.ids]at h
 |succ n ih=>
  intro d id h;have lst:∀cs:List D,id∈cs.flatMap (D.ids lk n)→id∈cs.flatMap (D.ids lk (n+1)):=fun cs hm=>by obtain⟨c,hc,hi⟩:=Znl.1 hm;exact Znl.2 ⟨c,hc,ih c id hi⟩
  cases d with
  |ptr id' i j=>
   simp only[D.ids,Znj]at h⊢
   rcases h with h |h
   ·exact .inl h
   ·right;split at h;rotate_left;simp at h;rename_i cs hlk;exact lst _ h
  |agg cs=>simp only[D.ids]at h⊢;exact lst _ h
  |tup cs=>simp only[D.ids]at h⊢;exact lst _ h
  |fn f a b=>
   simp only[D.ids,Zni]at h⊢
   exact h.imp (lst _) (lst _)
  |it id'=>simpa[D.ids]using h
  |sl id' o l=>simpa using h
  |map id'=>simpa using h
  |_=>simp[D.ids]at h
theorem Zd1 {lk:Id→Option Obj} {n m:Nat} (h:n≤m) (d:D) {id:Id} (hi:id∈d.ids lk n):id∈d.ids lk m:=by
 induction h with
 |refl=>exact hi
 |step _ ih=>exact Zlf _ _ _ ih
theorem ZbP {α β:Type} {f g:α→Option β}:∀{l:List α},(∀x∈l,f x=g x)→Zj f l=Zj g l
 | [],_=>rfl
 |x::l,h=>by simp only[Zj,h x (by simp),ZbP (l:=l) fun y hy=>h y (by simp[hy])]
theorem ZG {lk lk':Id→Option Obj}:∀(n:Nat) (d:D),Zo lk lk' (d.ids lk n)→d.toP lk n=d.toP lk' n∧d.ids lk n=d.ids lk' n:=by
 intro n
 induction n with
 |zero=>
  intro d h;cases d with
  |sl id o l=>rw[Zbf,Zbf,h id (by simp)];simp
  |map id=>rw[Zbm,Zbm,h id (by simp)];simp
  |_=>simp[D.toP,D.ids]
 |succ n ih=>
  intro d h;have lst:∀cs:List D,(∀id∈cs.flatMap (D.ids lk n),lk id=lk' id)→Zj (D.toP lk n) cs=Zj (D.toP lk' n) cs∧cs.flatMap (D.ids lk n)=cs.flatMap (D.ids lk' n):=fun cs hm=>by
   have hh:∀c∈cs,D.toP lk n c=D.toP lk' n c∧D.ids lk n c=D.ids lk' n c:=fun c hc=>ih c fun id hid=>hm id (Znl.2 ⟨c,hc,hid⟩)
   refine⟨ZbP fun c hc=>(hh c hc).1, ?_⟩;clear hm
   induction cs with
   |nil=>rfl
   |cons c cs ihc=>
    simp only[Zn2,(hh c (by simp)).2,ihc fun c hc=>hh c (by simp[hc])]
  cases d with
  |sl id o l=>rw[Zbf,Zbf,h id (by simp)];simp
  |map id=>rw[Zbm,Zbm,h id (by simp)];simp
  |agg cs=>
   obtain⟨q1,q2⟩:=lst cs (fun id hid=>h id (by simpa[D.ids]using hid));simp[D.toP,D.ids,q1,q2]
  |ptr id i j=>
   have h0:=h id (by simp[D.ids]);cases hlk:lk id with
   |none=>rw[hlk]at h0;simp[D.toP,D.ids,hlk,←h0]
   |some o=>
    rw[hlk]at h0;cases o with
    |box cs=>
     obtain⟨q1,q2⟩:=lst (cs.drop j) (fun id' hid=>h id' (by simp only[D.ids,hlk,Znj];exact .inr hid));simp only[D.toP,D.ids,hlk,←h0,q1,q2,and_self]
    |_=>simp[D.toP,D.ids,hlk,←h0]
  |tup cs=>
   obtain⟨q1,q2⟩:=lst cs (fun id hid=>h id (by simpa[D.ids]using hid));simp[D.toP,D.ids,q2]
  |fn f a b=>
   obtain⟨q1,q2⟩:=lst a (fun id hid=>h id (by simp only[D.ids,Zni];exact .inl hid));obtain⟨q3,q4⟩:=lst b (fun id hid=>h id (by simp only[D.ids,Zni];exact .inr hid));simp[D.toP,D.ids,q1,q2,q3,q4]
  |_=>simp[D.toP,D.ids]
def Zdk (E:Env) (sl:Nat→D) (lk:Id→Option Obj) (xs:List Operand):List Id:=xs.flatMap fun x=>(ev E sl 0 x).ids lk (depth+1)
theorem Zil {E:Env} {sl:Nat→D} {lk:Id→Option Obj} (n:Nat) (t:Nat) (x:Operand):(ev E sl t x).ids lk n=(ev E sl 0 x).ids lk n:=by
 cases x with
 |const v=>
  have:∀sz td,(D.ofV sz td v).ids lk n=[]:=by intro sz td;unfold D.ofV;split<;>cases n<;>simp[D.ids]
  simp only[ev,this]
 |_=>rfl
section
variable {E:Env} {sl sl':Nat→D} {lk lk':Id→Option Obj} {xs:List Operand}
theorem ZaH (h:Zo lk lk' (Zdk E sl lk xs)) {x:Operand} (hx:x∈xs) (t:Nat) {n:Nat} (hn:n≤depth+1):Zo lk lk' ((ev E sl t x).ids lk n):=fun id hid=>by refine h id (Znl.2 ⟨x,hx, ?_⟩);rw[←Zil (depth+1) t x];exact Zd1 hn _ hid
theorem ZdF {d:D} {sz:Nat} (h:Zo lk lk' (d.ids lk 1)):ZcI lk sz d=ZcI lk' sz d:=by
 have:=(ZG 1 d h).1;unfold ZcI;split
 ·rfl
 ·rw[this]
theorem ZiT {d:D} {td:TD} (h:Zo lk lk' (d.ids lk 1)):ZfY lk td d=ZfY lk' td d:=by
 unfold ZfY;split<;>try rfl
 rename_i id _;rw[h _ (by simp)]
theorem Zhq {d:D} (h:Zo lk lk' (d.ids lk 1)):ZfE lk d=ZfE lk' d:=by
 unfold ZfE;split<;>try rfl
 rw[h _ (by simp)]
theorem Zbw {t:Nat} {te:TI} (hev:∀t x,x∈xs→ev E sl t x=ev E sl' t x) (h:Zo lk lk' (Zdk E sl lk xs)):
  ∀(parts:List (Nat×Operand)) (es:List P),(∀p∈parts,p.2∈xs)→ZH E sl lk t te parts es=ZH E sl' lk' t te parts es
 | [],_,_=>rfl
 |(i,x)::r,es,hp=>by
  have hx:=hp (i,x) (by simp);simp only[ZH,←hev t x hx,←(ZG depth _ (ZaH h hx t (by decide))).1];split
  ·split
   ·exact Zbw hev h r _ fun p hp'=>hp p (by simp[hp'])
   ·rfl
  ·rfl
theorem Zd2 {t:Nat} (hev:∀t x,x∈xs→ev E sl t x=ev E sl' t x) (h:Zo lk lk' (Zdk E sl lk xs)):
  ∀(parts:List (Nat×Operand)),(∀p∈parts,p.2∈xs)→Zc0 E sl lk t parts=Zc0 E sl' lk' t parts
 | [],_=>rfl
 |(i,x)::r,hp=>by
  have hx:=hp (i,x) (by simp);have:=Zd2 (t:=t) hev h r fun p hp'=>hp p (by simp[hp'])
  unfold Zc0 at this⊢
  simp only[Zn2,←hev t x hx,←(ZG depth _ (ZaH h hx t (by decide))).2,this]
theorem Zdf {ti:TI} (hev:∀t x,x∈xs→ev E sl t x=ev E sl' t x):∀(parts:List (Nat×Operand)) (cs:List D),(∀p∈parts,p.2∈xs)→ZbX E sl ti parts cs=ZbX E sl' ti parts cs
 | [],_,_=>rfl
 |(i,x)::r,cs,hp=>by
  have hx:=hp (i,x) (by simp);simp only[ZbX];split
  ·split
   ·simp only[←hev _ x hx];split
    ·exact Zdf hev r _ fun p hp'=>hp p (by simp[hp'])
    ·rfl
   ·rfl
  ·rfl
theorem Zbc (hev:∀t x,x∈xs→ev E sl t x=ev E sl' t x):∀(args:List Operand) (ts:List Nat),(∀x∈args,x∈xs)→ZZ E sl args ts=ZZ E sl' args ts
 | [],_,_=>by cases ‹List Nat› <;>rfl
 |x::r,[],h=>by simp only[ZZ,hev 0 x (h x (by simp)),Zbc hev r [] fun y hy=>h y (by simp[hy])]
 |x::r,t::ts,h=>by simp only[ZZ,hev t x (h x (by simp)),Zbc hev r ts fun y hy=>h y (by simp[hy])]
theorem Zen (h:Zo lk lk' (Zdk E sl lk xs)):∀(args:List Operand) (ts:List Nat),(∀x∈args,x∈xs)→∀d∈ZZ E sl args ts,Zo lk lk' (d.ids lk (depth+1))
 | [],ts,_,d,hd=>by cases ts<;>simp[ZZ]at hd
 |x::r,[],hx,d,hd=>by
  simp only[ZZ,Znj]at hd;rcases hd with rfl |hd
  ·exact ZaH h (hx x (by simp)) 0 (Znq _)
  ·exact Zen h r [] (fun y hy=>hx y (by simp[hy])) d hd
 |x::r,t::ts,hx,d,hd=>by
  simp only[ZZ,Znj]at hd;rcases hd with rfl |hd
  ·exact ZaH h (hx x (by simp)) t (Znq _)
  ·exact Zen h r ts (fun y hy=>hx y (by simp[hy])) d hd
end
end Eng
namespace Eng
open Go
def D.shal:D→List Id
 | .sl id _ _=>[id]
 | .ptr id _ _=>[id]
 | .map id=>[id]
 | .it id=>[id]
 |_=>[]
def Zd5 (E:Env) (op:Op) (sl:Nat→D) (lk:Id→Option Obj):List Id:=
 match op with
 | .move _ | .assign _ | .pick .. | .alloc _ | .box .. | .build .. | .nilCheck _ | .fieldAddr .. | .field .. | .binOp .. | .unOp .. | .extract .. | .makeFunc .. | .makeMap .. | .makeSlice .. | .index .. =>[]
 | .load _ a=>(ev E sl 0 a).shal
 | .store _ a x=>(ev E sl 0 a).shal++(ev E sl 0 x).ids lk depth
 | .indexAddr _ x _=>(ev E sl 0 x).shal
 | .slice _ x _ _ _=>(ev E sl 0 x).shal
 | .next x _=>(ev E sl 0 x).shal
 | .entry x=>(ev E sl 0 x).shal
 | .range _ x=>(ev E sl 0 x).shal
 |op=>Zdk E sl lk op.operands.toList
theorem Zbq {E:Env} {sl sl':Nat→D} {x:Option Operand} (h:∀y,x=some y→ev E sl 0 y=ev E sl' 0 y):ZbU E sl x=ZbU E sl' x:=by
 cases x with
 |none=>rfl
 |some y=>simp only[ZbU,h y rfl]
theorem Z2 {E:Env} {sl sl':Nat→D} {lk lk':Id→Option Obj}:∀{xs:List Operand},(∀t x,x∈xs→ev E sl t x=ev E sl' t x)→Zo lk lk' (Zdk E sl lk xs)→Zdk E sl lk xs=Zdk E sl' lk' xs
 | [],_,_=>rfl
 |x::r,he,h=>by
  have h1:Zo lk lk' ((ev E sl 0 x).ids lk (depth+1)):=fun id hid=>h id (Znl.2 ⟨x,by simp,hid⟩)
  have h2:Zo lk lk' (Zdk E sl lk r):=fun id hid=>by obtain⟨y,hy,hi⟩:=Znl.1 hid;exact h id (Znl.2 ⟨y,by simp[hy],hi⟩)
  have:=Z2 (xs:=r) (fun t y hy=>he t y (by simp[hy])) h2;unfold Zdk at this⊢
  simp only[Zn2,←he 0 x (by simp),←(ZG _ _ h1).2,this]
section
variable {E:Env} {sl sl':Nat→D} {lk lk':Id→Option Obj}
theorem Zbh {t:Nat} {m k v:Operand} (hev:∀t x,x∈[m,k,v]→ev E sl t x=ev E sl' t x) (h:Zo lk lk' (Zdk E sl lk [m,k,v])):Z4 E sl lk t m k v=Z4 E sl' lk' t m k v:=by
 have hm:=fun t=>hev t m (by simp)
 have hk:=fun t=>hev t k (by simp)
 have hv:=fun t=>hev t v (by simp)
 have cm:=fun t n=>ZaH (n:=n) h (x:=m) (by simp) t
 have ck:=fun t=>(ZG 1 _ (ZaH h (x:=k) (by simp) t (by decide)))
 have cv:=fun t=>(ZG depth _ (ZaH h (x:=v) (by simp) t (by decide)))
 unfold Z4;simp only[←hm,←hk,←hv,←ck,←cv];split<;>try rfl
 split<;>try rfl
 rename_i id he;have:=cm 0 1 (by decide) id (by rw[he];simp);rw[this]
theorem ZeG {ep i s t:Nat} {d:D} (h:Zo lk lk' (d.ids lk 1)):Zaw E ep i lk s t d=Zaw E ep i lk' s t d:=by
 have:=(ZG 1 d h).1;unfold Zaw;split<;>try rfl
 rw[this]
theorem Zf9 {sz:Option Nat} {d:D} {a b c:Option Int} (h:Zo lk lk' d.shal):ZaP lk sz d a b c=ZaP lk' sz d a b c:=by
 unfold ZaP;split<;>try rfl
 rename_i id _ _;rw[h id (by simp[D.shal])]
theorem ZcD {ep i:Nat} {te:TI} {s:D} {xs:List P} (hs:Zo lk lk' (s.ids lk 1)):Zaa lk ep i te s xs=Zaa lk' ep i te s xs:=by
 unfold Zaa;split<;>try rfl
 rename_i id _;rw[hs id (by simp)]
theorem ZfV {ep i:Nat} {te:TI} {s x:D} (hs:Zo lk lk' (s.ids lk 1)) (hx:Zo lk lk' (x.ids lk 1)):ZaN lk ep i te s x=ZaN lk' ep i te s x:=by
 unfold ZaN;rw[ZdF hx];split
 ·rfl
 ·exact ZcD hs
theorem ZhE {te:TI} {s x:D} (hs:Zo lk lk' (s.ids lk 1)) (hx:Zo lk lk' (x.ids lk 1)):ZfR lk te s x=ZfR lk' te s x:=by
 unfold ZfR;split<;>try rfl
 rename_i id _ _;rw[hs id (by simp)];split<;>try rfl
 rw[ZdF hx]
theorem ZeH {ep i:Nat} {b:Builtin} {ats:List Nat} {ds:List D} (h:∀d∈ds,Zo lk lk' (d.ids lk (depth+1))):ZL E ep i lk b ats ds=ZL E ep i lk' b ats ds:=by
 have h1:∀d∈ds,Zo lk lk' (d.ids lk 1):=fun d hd id hid=>h d hd id (Zd1 (by decide) d hid)
 unfold ZL;split<;>try rfl
 ·unfold Zh9;split<;>try rfl
  rename_i t d;simp only[show ∀td,ZfY lk td d=ZfY lk' td d from fun td=>ZiT (h1 d (by simp))]
 ·unfold Zcf;split<;>try rfl
  rename_i t u s x;simp only[show ∀te,ZaN lk ep i te s x=ZaN lk' ep i te s x from fun te=>ZfV (h1 s (by simp)) (h1 x (by simp)),show ∀te xs,Zaa lk ep i te s xs=Zaa lk' ep i te s xs from fun te xs=>ZcD (h1 s (by simp))]
 ·unfold Zja;split<;>try rfl
  rename_i t _ d s;simp only[show ∀te,ZfR lk te d s=ZfR lk' te d s from fun te=>ZhE (h1 d (by simp)) (h1 s (by simp))]
 ·unfold Zef;split<;>try rfl
  rename_i t _ id k;rw[h1 (.map id) (by simp) id (by simp),(ZG 1 _ (h1 k (by simp))).1]
theorem Zi9 {ep i:Nat} {op:Op} {ty:Nat} (hev:∀t x,x∈op.operands.toList→ev E sl t x=ev E sl' t x) (h:Zo lk lk' (Zd5 E op sl lk)):
  Ze E ep i op ty sl lk=Ze E ep i op ty sl' lk'∧Zd5 E op sl lk=Zd5 E op sl' lk':=by
 cases op with
 |move x=>have:=fun t=>hev t x (by simp[Op.operands]);exact⟨by simp only[Ze,this],rfl⟩
 |assign x=>have:=fun t=>hev t x (by simp[Op.operands]);exact⟨by simp only[Ze,this],rfl⟩
 |pick c a b=>
  have h1:=fun t=>hev t c (by simp[Op.operands])
  have h2:=fun t=>hev t a (by simp[Op.operands])
  have h3:=fun t=>hev t b (by simp[Op.operands])
  exact⟨by simp only[Ze,h1,h2,h3],rfl⟩
 |alloc t=>exact⟨rfl,rfl⟩
 |box t x=>have:=fun t=>hev t x (by simp[Op.operands]);exact⟨by simp only[Ze,this],rfl⟩
 |build t ps=>
  refine⟨?_,rfl⟩;have:=fun ti cs=>Zdf (E:=E) (sl:=sl) (sl':=sl') (ti:=ti) (xs:=ps.toList.map (·.2)) (fun t x hx=>hev t x (by simpa[Op.operands]using hx)) ps.toList cs (fun p hp=>Zoc hp)
  simp only[Ze,this]
 |buildSlice t n ps=>
  have h0:Zo lk lk' (Zdk E sl lk (ps.toList.map (·.2))):=by simpa[Zd5,Op.operands]using h
  have he:∀t x,x∈ps.toList.map (·.2)→ev E sl t x=ev E sl' t x:=fun t x hx=>hev t x (by simpa[Op.operands]using hx)
  have h1:=fun t te es=>Zbw (t:=t) (te:=te) he h0 ps.toList es (fun p hp=>Zoc hp)
  have h2:=fun t=>Zd2 (t:=t) he h0 ps.toList (fun p hp=>Zoc hp)
  exact⟨by simp only[Ze,h1,h2],Z2 hev h⟩
 |insert t m k v=>
  have he:∀t x,x∈[m,k,v]→ev E sl t x=ev E sl' t x:=fun t x hx=>hev t x (by simpa[Op.operands]using hx)
  exact⟨by simp only[Ze];exact Zbh he (by simpa[Zd5,Op.operands]using h),Z2 hev h⟩
 |mapUpdate t m k v=>
  have he:∀t x,x∈[m,k,v]→ev E sl t x=ev E sl' t x:=fun t x hx=>hev t x (by simpa[Op.operands]using hx)
  exact⟨by simp only[Ze];exact Zbh he (by simpa[Zd5,Op.operands]using h),Z2 hev h⟩
 |load t x=>
  have h1:=fun t=>hev t x (by simp[Op.operands])
  refine⟨?_,by simp only[Zd5,h1]⟩;simp only[Zd5]at h;simp only[Ze,←h1];split<;>try rfl
  split<;>try rfl
  rename_i id _ _ he;rw[h id (by rw[he];simp[D.shal])]
 |store t a x=>
  have h1:=fun t=>hev t a (by simp[Op.operands])
  have h2:=fun t=>hev t x (by simp[Op.operands])
  simp only[Zd5]at h;have hx:Zo lk lk' ((ev E sl t x).ids lk depth):=fun id hid=>h id (by rw[Zil]at hid;simp[hid])
  have hx0:Zo lk lk' ((ev E sl 0 x).ids lk depth):=fun id hid=>h id (by simp[hid])
  refine⟨?_,by simp only[Zd5,←h1,←h2,←(ZG depth _ hx0).2]⟩;simp only[Ze,←h1,←h2,←(ZG depth _ hx).1,←(ZG depth _ hx).2];split<;>try rfl
  split<;>try rfl
  rename_i id _ _ he;rw[h id (by rw[he];simp[D.shal])];split<;>try rfl
  split<;>try rfl
  rename_i id2 _ he2;rw[hx id2 (by rw[he2];simp[D.ids])]
 |nilCheck x=>have:=fun t=>hev t x (by simp[Op.operands]);exact⟨by simp only[Ze,this],rfl⟩
 |binOp b t x y u=>
  have h1:=fun t=>hev t x (by simp[Op.operands])
  have h2:=fun t=>hev t y (by simp[Op.operands])
  exact⟨by simp only[Ze,h1,h2],rfl⟩
 |unOp u t x=>have:=fun t=>hev t x (by simp[Op.operands]);exact⟨by simp only[Ze,this],rfl⟩
 |convert s t x=>
  have h1:=fun t=>hev t x (by simp[Op.operands])
  refine⟨?_,Z2 hev h⟩;simp only[Ze,←h1];exact ZeG fun id hid=>h id (Znl.2 ⟨x,by simp[Op.operands],Zd1 (by decide) _ hid⟩)
 |makeFunc f fs cs=>
  refine⟨?_,rfl⟩;have h1:fs.toList.map (ev E sl 0)=fs.toList.map (ev E sl' 0):=List.map_congr_left fun x hx=>hev 0 x (by simp[Op.operands]at hx⊢;exact .inl hx)
  have h2:cs.toList.map (ev E sl 0)=cs.toList.map (ev E sl' 0):=List.map_congr_left fun x hx=>hev 0 x (by simp[Op.operands]at hx⊢;exact .inr hx)
  cases f<;>simp only[Ze,h1,h2]
 |makeMap t r=>refine⟨?_,rfl⟩;cases r<;>simp only[Ze]
 |makeSlice t l c=>
  have h1:=fun t=>hev t l (by simp[Op.operands])
  have h2:=fun t=>hev t c (by simp[Op.operands])
  exact⟨by simp only[Ze,h1,h2],rfl⟩
 |slice t x lo hi mx=>
  have h1:=fun t=>hev t x (by simp[Op.operands])
  have a1:=Zbq (E:=E) (sl:=sl) (sl':=sl') (x:=lo) fun y hy=>hev 0 y (by subst hy;simp[Op.operands])
  have a2:=Zbq (E:=E) (sl:=sl) (sl':=sl') (x:=hi) fun y hy=>hev 0 y (by subst hy;simp[Op.operands])
  have a3:=Zbq (E:=E) (sl:=sl) (sl':=sl') (x:=mx) fun y hy=>hev 0 y (by subst hy;simp[Op.operands])
  simp only[Zd5]at h;refine⟨?_,by simp only[Zd5,h1]⟩;have:=fun sz a b c=>Zf9 (sz:=sz) (a:=a) (b:=b) (c:=c) h
  simp only[Ze,←h1,←a1,←a2,←a3,this]
 |fieldAddr t x f=>have:=fun t=>hev t x (by simp[Op.operands]);exact⟨by simp only[Ze,this],rfl⟩
 |field t x f=>have:=fun t=>hev t x (by simp[Op.operands]);exact⟨by simp only[Ze,this],rfl⟩
 |indexAddr t x ix=>
  have h1:=fun t=>hev t x (by simp[Op.operands])
  have h2:=fun t=>hev t ix (by simp[Op.operands])
  simp only[Zd5]at h;refine⟨?_,by simp only[Zd5,h1]⟩;simp only[Ze,←h1,←h2];split<;>try rfl
  split<;>try rfl
  split<;>try rfl
  split<;>try rfl
  rename_i id _ _ he;rw[h id (by rw[he];simp[D.shal])]
 |index t x ix=>
  have h1:=fun t=>hev t x (by simp[Op.operands])
  have h2:=fun t=>hev t ix (by simp[Op.operands])
  exact⟨by simp only[Ze,h1,h2],rfl⟩
 |lookup t m k ok=>
  have h1:=fun t=>hev t m (by simp[Op.operands])
  have h2:=fun t=>hev t k (by simp[Op.operands])
  refine⟨?_,Z2 hev h⟩;have hm:ZfE lk (ev E sl 0 m)=ZfE lk' (ev E sl 0 m):=Zhq fun id hid=>h id (Znl.2 ⟨m,by simp[Op.operands],Zd1 (by decide) _ hid⟩)
  have hk:=fun t=>(ZG (lk:=lk) (lk':=lk') 1 (ev E sl t k) fun id hid=>h id (Znl.2 ⟨k,by simp[Op.operands],by rw[Zil]at hid;exact Zd1 (by decide) _ hid⟩)).1
  simp only[Ze,←h1,←h2,hm,hk]
 |range t x=>
  have h1:=fun t=>hev t x (by simp[Op.operands])
  simp only[Zd5]at h;refine⟨?_,by simp only[Zd5,h1]⟩;simp only[Ze,←h1];split<;>try rfl
  rename_i id _ he;rw[h id (by rw[he];simp[D.shal])]
 |next x s=>
  have h1:=fun t=>hev t x (by simp[Op.operands])
  simp only[Zd5]at h;refine⟨?_,by simp only[Zd5,h1]⟩;cases s with
  |false=>simp only[Ze]
  |true=>
   simp only[Ze,←h1];split<;>try rfl
   rename_i id he;rw[h id (by rw[he];simp[D.shal])]
 |entry x=>
  have h1:=fun t=>hev t x (by simp[Op.operands])
  simp only[Zd5]at h;refine⟨?_,by simp only[Zd5,h1]⟩;simp only[Ze,←h1];split<;>try rfl
  rename_i id he;rw[h id (by rw[he];simp[D.shal])]
 |extract x n=>have:=fun t=>hev t x (by simp[Op.operands]);exact⟨by simp only[Ze,this],rfl⟩
 |call c=>
  obtain⟨cal,args,ats⟩:=c;refine⟨?_,Z2 hev h⟩;cases cal with
  |builtin b=>
   simp only[Ze];have hx:∀x∈args.toList,x∈(Op.call {callee:= .builtin b,args:=args,argTypes:=ats}).operands.toList:=fun x hx=>by simpa[Op.operands,Call.operands]using hx
   rw[←Zbc (xs:=args.toList) (fun t x hx'=>hev t x (hx x hx')) args.toList ats.toList (fun x hx=>hx)];exact ZeH (Zen h args.toList ats.toList hx)
  |_=>simp only[Ze]
 |_=>exact⟨by simp only[Ze],Z2 hev h⟩
end
end Eng
namespace Eng
open Go
def Exec (C:Ctx) (r:Fm) (ops:Array Oper) (i:Nat) (st st':St):Prop:=
 ∀(X:Nat→Prop),¬X i→∀ρ S a w,Rep C X ρ S st a.tmps w→a.defers=r.ds→∀(b:Frame) (rest:List Nat) (kk:List Go.Item) (cs:List Frame),b.roundOf=r.r→
  ∃ρ' S' a' w',Rep C (fun j=>X j∨j=i) ρ' S' st' a'.tmps w'∧a'.defers=r.ds∧
   StepsIn (Machine.fenced C.E.prog (Zct r.r)) C.E.prog (lone (b.atR a (.inRegion ops (i::rest)::kk)) cs w) (lone (b.atR a' (.inRegion ops rest::kk)) cs w')
section
variable {C:Ctx} {r:Fm}
theorem Zmx {ops:Array Oper} {i:Nat} {o:Oper} {st:St} {e:Eff} (hE:Zn C.E) (ho:ops[i]? =some o) (hg:ZW ops st o.guard=some true)
  (hc:Ze C.E st.ep i o.op o.type st.slots st.objs=some e) (hok:Zfx C.E o=true) (hw:Zdq st e=true) (hcond:∀q∈e.cond,q=true):Exec C r ops i st (st.app i o.dst e):=by
 intro X hX ρ S a w hr hd b rest kk cs hb;obtain⟨n,v,w',hrun,hn,ρ',S',hrep⟩:=does hr hX hok hE hc hw hcond;have hwant:=ZaX hr hg;refine⟨ρ',S',a.put o.dst v,w',hrep,by simp[hd], ?_⟩;have hsem:o.semAt b.roundOf a.eval=execOp a.eval o:=Oper.semAt_eq _ _ _ (fun c hc'=>by rw[hc']at hc;simp[Ze]at hc);have hst:=stepGR_op (P:=C.E.prog) (b:=b) (a:=a) (k:=kk) (cs:=cs) (w:=w) (i:=i) (rest:=rest) ho hwant;have hfin:=Frame.finish_atR b a ops i rest kk v;simp only[ho,Option.bind_some]at hfin;refine .one (Zz _ _ _) ?_;refine step_lone_go ?_;rw[hst,hsem,←hfin];rcases hn with rfl |⟨rfl,rfl⟩<;>simp[stepG.apply,hrun]
theorem ZgF {ops:Array Oper} {i:Nat} {o:Oper} {st:St} (ho:ops[i]? =some o) (hg:ZW ops st o.guard=some false) (ht:Zdm C.E o=true):Exec C r ops i st (st.app i o.dst {val:= .undef}):=by intro X hX ρ S a w hr hd b rest kk cs hb;have hwant:=ZaX hr hg;obtain⟨S',hrep⟩:=hr.step (i:=i) (t:=o.dst) (e:={val:= .undef}) (v:=undef) (w':=w) ρ hX (Zbb ht) (Znq _) (ZP.refl _) (fun _ _ _=>rfl) (by simp) (fun _ _ h=>h) (fun id h=> .inl h) (by simp) (fun _ _ hm=>by simp at hm) (fun _ _ _ _ _ _ _ hm=>by simp at hm) (by simp) (fun _ _ _ _ _=> .undef);refine⟨ρ,S',a.put o.dst undef,w,hrep,by simp[hd], ?_⟩;have hst:=stepR_op_skip (P:=C.E.prog) (b:=b) (a:=a) (k:=kk) (cs:=cs) (w:=w) (ops:=ops) (i:=i) (rest:=rest) (by simp[ho,hwant]);simp only[ho,Option.bind_some]at hst;exact .one (Zz _ _ _) hst
def ZaV (E:Env) (sl:Nat→D) (lk:Id→Option Obj) (xs:List Operand):List Id:=xs.flatMap fun x=>(ev E sl 0 x).ids lk (depth+2)
inductive OE (C:Ctx) (ops:Array Oper) (i:Nat) (o:Oper) (st:St):Eff→List Id→Prop
 |skip (hg:ZW ops st o.guard=some false) (hd:Zdm C.E o=true):OE C ops i o st {val:= .undef} []
 |op {e:Eff} (hg:ZW ops st o.guard=some true) (hc:Ze C.E st.ep i o.op o.type st.slots st.objs=some e) (hok:Zfx C.E o=true) (hw:Zdq st e=true) (hcond:∀q∈e.cond,q=true):
   OE C ops i o st e (Zd5 C.E o.op st.slots st.objs)
 |call {c:Call} {pts:List Nat} {ms:List AM} {f:Nat} {as:List AE} {ret:Ret} {e:Eff} (hg:ZW ops st o.guard=some true) (hop:o.op= .call c) (hd:Zdm C.E o=true)
   (hpre:ZlE C.E st c pts ms=some (f,as)) (hcnd:ZlR (as.flatMap (·.cond))) (hf:Fun C.E f (as.map (·.arg)) ret) (he:ZfT st i as ret=some e):OE C ops i o st e (ZaV C.E st.slots st.objs c.operands.toList)
theorem OE.exec {ops:Array Oper} {i:Nat} {o:Oper} {st:St} {e:Eff} {R:List Id} (hE:Zn C.E) (ho:ops[i]? =some o) (h:OE C ops i o st e R):Exec C r ops i st (st.app i o.dst e):=by
 cases h with
 |skip hg hd=>exact ZgF ho hg hd
 |op hg hc hok hw hcond=>exact Zmx hE ho hg hc hok hw hcond
 |call hg hop hd hpre hcnd hf he=>
  intro X hX ρ S a w hr hda b rest kk cs hb;exact Zkg hX hE ho hg hop hd _ _ hpre hcnd rfl hf he hr hda b rest kk cs hb
theorem Zjl {st st':St} {m:AM} {d:D} (h:Zo st.objs st'.objs (d.ids st.objs (depth+1))):ZgV st m d=ZgV st' m d:=by
 have h0:=ZG depth d fun id hid=>h id (Zd1 (by decide) d hid)
 unfold ZgV;split
 ·rw[h0.1,h0.2]
 ·rename_i id;rw[←h id (by simp[D.ids])];cases hlk:st.objs id with
  |none=>rfl
  |some o=>
   cases o with
   |box ds=>
    have hh:∀x∈ds,x.toP st.objs depth=x.toP st'.objs depth∧x.ids st.objs depth=x.ids st'.objs depth:=fun x hx=>ZG depth x fun id' hid'=>h id' (by
     simp only[D.ids,hlk,Znj];exact .inr (Znl.2 ⟨x,by simpa using hx,hid'⟩))
    have h1:Zj (fun d=>d.toP st.objs depth) ds=Zj (fun d=>d.toP st'.objs depth) ds:=ZbP fun x hx=>(hh x hx).1
    have h2:(ds.flatMap fun d=>d.ids st.objs depth)=ds.flatMap fun d=>d.ids st'.objs depth:=by
     clear hlk h1
     induction ds with
     |nil=>rfl
     |cons x r ih=>simp only[Zn2,(hh x (by simp)).2,ih fun y hy=>hh y (by simp[hy])]
    simp only[h1,h2]
   |_=>rfl
 ·rename_i id len;rw[←h id (by simp)]
 ·rename_i id;rw[←h id (by simp)]
 ·rename_i id off len;rw[←h id (by simp)]
 ·rename_i h1 h2 h3 h4 h5
  first
   |rfl
   |(cases m<;>first |rfl |(cases d<;>simp_all))
theorem Ze7 {lk:Id→Option Obj} {d:D} {g:Nat} {first caps:List D} (h:Zcd d=some (g,first,caps)) (n:Nat):∀x,x∈first++caps→∀id∈x.ids lk n,id∈d.ids lk (n+1):=by
 unfold Zcd at h;split at h
 ·simp only[Znv,Znw]at h;obtain⟨rfl,rfl,rfl⟩:=h;intro x hx id hid;simp only[Zni,ZnT]at hx;rcases hx with ⟨y,_,rfl⟩ |⟨y,_,rfl⟩<;>cases n<;>simp[D.ids]at hid
 ·simp only[Znv,Znw]at h;obtain⟨rfl,rfl,rfl⟩:=h;intro x hx id hid;simp only[D.ids,Zni,Znl];simp only[Zni]at hx;exact hx.imp (fun h=>⟨x,h,hid⟩) (fun h=>⟨x,h,hid⟩)
 ·simp at h
theorem Zcw {E:Env} {sl sl':Nat→D} {lk lk':Id→Option Obj}:∀{xs:List Operand},(∀t x,x∈xs→ev E sl t x=ev E sl' t x)→Zo lk lk' (ZaV E sl lk xs)→ZaV E sl lk xs=ZaV E sl' lk' xs
 | [],_,_=>rfl
 |x::r,he,h=>by
  have h1:Zo lk lk' ((ev E sl 0 x).ids lk (depth+2)):=fun id hid=>h id (Znl.2 ⟨x,by simp,hid⟩)
  have h2:Zo lk lk' (ZaV E sl lk r):=fun id hid=>by obtain⟨y,hy,hi⟩:=Znl.1 hid;exact h id (Znl.2 ⟨y,by simp[hy],hi⟩)
  have:=Zcw (xs:=r) (fun t y hy=>he t y (by simp[hy])) h2;unfold ZaV at this⊢
  simp only[Zn2,←he 0 x (by simp),←(ZG _ _ h1).2,this]
theorem Zem {E:Env} {sl:Nat→D}:∀(args:List Operand) (ts:List Nat) (d:D),d∈ZZ E sl args ts→∃x t,x∈args∧d=ev E sl t x
 | [],ts,d,h=>by cases ts<;>simp[ZZ]at h
 |x::r,[],d,h=>by
  simp only[ZZ,Znj]at h;rcases h with rfl |h
  ·exact⟨x,0,by simp,rfl⟩
  ·obtain⟨y,t,hy,rfl⟩:=Zem r [] d h;exact⟨y,t,by simp[hy],rfl⟩
 |x::r,t::ts,d,h=>by
  simp only[ZZ,Znj]at h;rcases h with rfl |h
  ·exact⟨x,t,by simp,rfl⟩
  ·obtain⟨y,t,hy,rfl⟩:=Zem r ts d h;exact⟨y,t,by simp[hy],rfl⟩
theorem ZiJ {E:Env} {st st':St} {c:Call} {pts:List Nat} {ms:List AM} {f:Nat} {as:List AE} (hev:∀t x,x∈c.operands.toList→ev E st.slots t x=ev E st'.slots t x)
  (h:Zo st.objs st'.objs (ZaV E st.slots st.objs c.operands.toList)) (hfz:∀k id,((0,k,0),id)∈Zae 0 as→st'.fz id=st.fz id) (hp:ZlE E st c pts ms=some (f,as)):ZlE E st' c pts ms=some (f,as):=by
 have hids:∀x∈c.operands.toList,∀t,Zo st.objs st'.objs ((ev E st.slots t x).ids st.objs (depth+2)):=fun x hx t id hid=>h id (Znl.2 ⟨x,hx,by rw[Zil]at hid;exact hid⟩)
 unfold ZlE at hp⊢
 split at hp
 case h_2=>simp at hp
 rename_i fo hcal;have hfo:fo∈c.operands.toList:=by simp[Call.operands,hcal]
 have hargs:∀x∈c.args.toList,x∈c.operands.toList:=fun x hx=>by simp[Call.operands,hcal];exact .inr (by simpa using hx)
 rw[←hev 0 fo hfo];split at hp
 case h_2=>simp at hp
 rename_i g first caps hcd
 simp only[←Zbc (xs:=c.operands.toList) hev c.args.toList pts hargs];have hall:∀d∈first++ZZ E st.slots c.args.toList pts++caps,∀m,ZgV st m d=ZgV st' m d:=by
  intro d hd m;refine Zjl fun id hid=> ?_
  simp only[Zni]at hd;rcases hd with (hd |hd) |hd
  ·exact hids fo hfo 0 id (Ze7 hcd (depth+1) d (by simp[hd]) id hid)
  ·obtain⟨x,t,hx,rfl⟩:=Zem _ _ _ hd;exact hids x (hargs x hx) t id (Zd1 (by decide) _ hid)
  ·exact hids fo hfo 0 id (Ze7 hcd (depth+1) d (by simp[hd]) id hid)
 rw[←ZbP (f:=fun x:AM×D=>ZgV st x.1 x.2) (g:=fun x=>ZgV st' x.1 x.2) fun x hx=>hall _ (List.of_mem_zip hx).2 x.1];dsimp only at hp⊢
 split at hp
 case isFalse=>simp at hp
 rename_i hlen;simp only[hlen,if_true];split at hp
 case h_2=>simp at hp
 rename_i as' has;split at hp
 case isFalse=>simp at hp
 rename_i hok;simp only[Znv,Znw]at hp;obtain⟨rfl,rfl⟩:=hp;have:Zgj (st'.freezeL (as'.flatMap (·.fs))) (Zae 0 as') 1=Zgj (st.freezeL (as'.flatMap (·.fs))) (Zae 0 as') 1:=by
  unfold Zgj;congr 1;refine Bool.eq_iff_iff.2 ?_;simp only[ZnD];have hh:∀x∈Zae 0 as',(st'.freezeL (as'.flatMap (·.fs))).fz x.2=(st.freezeL (as'.flatMap (·.fs))).fz x.2:=fun x hx=>by obtain⟨j,ae,_,q2,_⟩:=ZbD 0 as' x.1 x.2 hx;rw[freezeL_fz,freezeL_fz,hfz (0+j) x.2 (by rw[←q2];exact hx)]
  exact⟨fun q x hx=>by have:=q x hx;rwa [hh x hx]at this,fun q x hx=>by have:=q x hx;rwa [←hh x hx]at this⟩
 simp only[this,hok,if_true]
theorem ZhI {st st':St} {i:Nat} {as:List AE} {ret:Ret} (h:st'.ep=st.ep):ZfT st' i as ret=ZfT st i as ret:=by unfold ZfT;rw[h]
theorem ZfI {ops:Array Oper} {st st':St} {o:Oper} (h:∀t∈o.looksAt ops,st'.slots t=st.slots t):ZW ops st' o.guard=ZW ops st o.guard:=by
 cases hg:o.guard with
 |none=>rfl
 |some gw=>
  obtain⟨g,w⟩:=gw;simp only[ZW];split
  ·rename_i t ht;rw[h t (by simp[Oper.looksAt,hg,ht])]
  ·rfl
theorem Zlj {E:Env} {sl sl':Nat→D} {t:Nat} {x:Operand} (h:∀k,x= .tmp k→sl' k=sl k):ev E sl t x=ev E sl' t x:=by
 cases x with
 |tmp k=>simp only[ev,h k rfl]
 |_=>rfl
theorem OE.congr {ops:Array Oper} {i:Nat} {o:Oper} {st st':St} {e:Eff} {R:List Id} (h:OE C ops i o st e R) (hs:∀t∈o.looksAt ops,st'.slots t=st.slots t) (hR:∀id∈R,st'.objs id=st.objs id)
  (hW:∀id∈e.wr.map (·.1),st'.fz id=st.fz id) (hep:st'.ep=st.ep):OE C ops i o st' e R:=by
 have hev:∀t x,x∈o.op.operands.toList→ev C.E st.slots t x=ev C.E st'.slots t x:=fun t x hx=>Zlj fun k hk=>hs k (by
  subst hk;simp only[Oper.looksAt,Zni,List.mem_filterMap];exact .inl ⟨.tmp k,hx,rfl⟩)
 have hg':=ZfI hs;cases h with
 |skip hg hd=>exact .skip (by rw[hg'];exact hg) hd
 |op hg hc hok hw hcond=>
  obtain⟨q1,q2⟩:=Zi9 (ep:=st.ep) (i:=i) (ty:=o.type) hev (fun id hid=>(hR id hid).symm);rw[q2];refine .op (by rw[hg'];exact hg) (by rw[hep,←q1];exact hc) hok ?_ hcond;unfold Zdq at hw⊢
  simp only[Zm8,ZnD]at hw⊢
  exact⟨fun x hx=>by rw[hW x.1 (Zoc hx)];exact hw.1 x hx,hw.2⟩
 |call hg hop hd hpre hcnd hf he=>
  rename_i c pts ms f as ret;have hev':∀t x,x∈c.operands.toList→ev C.E st.slots t x=ev C.E st'.slots t x:=fun t x hx=>hev t x (by rw[hop];exact hx)
  have hR':Zo st.objs st'.objs (ZaV C.E st.slots st.objs c.operands.toList):=fun id hid=>(hR id hid).symm
  rw[Zcw hev' hR'];refine .call (pts:=pts) (ms:=ms) (by rw[hg'];exact hg) hop hd (ZiJ hev' hR' (fun k id hm=> ?_) hpre) hcnd hf (by rw[ZhI hep];exact he);obtain⟨j,x,q1,q2,q3⟩:=ZbD 0 as _ _ hm;refine hW id ?_;unfold ZfT at he;split at he;rotate_left;simp at he;cases he;exact ZnT.2 ⟨_,Zdy 0 as j x id q1 q3,rfl⟩
end
end Eng
namespace Eng
open Go
def Zgt (l:List (Id×Obj)) (id:Id):Option Obj:=
 match l with
 | []=>none
 |(a,o)::r=>match Zgt r id with
  |some u=>some u
  |none=>if id=a then some o else none
theorem Zk6 (l:List (Id×Obj)):∀(st:St) (id:Id),(st.objL l).objs id=(Zgt l id).or (st.objs id):=by
 induction l with
 |nil=>intro st id;rfl
 |cons x r ih=>
  obtain⟨a,o⟩:=x;intro st id;simp only[St.objL,ih,Zgt];cases Zgt r id with
  |some u=>rfl
  |none=>
   simp only[St.obj,upd,Option.or]
   by_cases h:id=a<;>simp[h]
theorem ZaA {l:List (Id×Obj)} {id:Id} (h:id∉l.map (·.1)):Zgt l id=none:=by
 induction l with
 |nil=>rfl
 |cons x r ih=>
  obtain⟨a,o⟩:=x;simp only[Znh,Znj,not_or]at h;simp only[Zgt,ih h.2,h.1,if_false]
def news (ep i:Nat) (e:Eff):List (Id×Obj):=e.new.map fun x=>((ep,i,x.1),x.2)
theorem ZkF (st:St) (i:Nat) (t:Option Nat) (e:Eff) (id:Id):(st.app i t e).objs id=(Zgt (news st.ep i e) id).or ((Zgt e.wr id).or (st.objs id)):=by simp only[St.app,Zgb,Zy,Zk6,Zmi,news]
theorem Zho {ep i:Nat} {e:Eff} {id:Id} (h:id∈(news ep i e).map (·.1)):id.1=ep∧id.2.1=i:=by simp only[news,Zn9,ZnT]at h;obtain⟨x,_,rfl⟩:=h;exact⟨rfl,rfl⟩
def ZQ (ep i:Nat) (W:List Id) (id:Id):Bool:=decide (id∈W)||(decide (id.1=ep)&&decide (id.2.1=i))
theorem Zc7 {st:St} {i:Nat} {t:Option Nat} {e:Eff} {id:Id} (h:ZQ st.ep i (e.wr.map (·.1)) id=false):(st.app i t e).objs id=st.objs id:=by simp only[ZQ,ZnC,decide_eq_false_iff_not,Zn1]at h;rw[ZkF,ZaA (fun hm=>by have:=Zho hm;rcases h.2 with h |h<;>simp_all),ZaA h.1];rfl
theorem Zlu {st:St} {i j:Nat} {di dj:Option Nat} {ei ej:Eff} (hij:i≠j) (hd:∀d,di=some d→dj≠some d) (h1:∀id∈ei.wr.map (·.1),ZQ st.ep j (ej.wr.map (·.1)) id=false)
  (h2:∀id∈ej.wr.map (·.1),ZQ st.ep i (ei.wr.map (·.1)) id=false):(st.app i di ei).app j dj ej=(st.app j dj ej).app i di ei:=by
 have hs:((st.app i di ei).app j dj ej).slots=((st.app j dj ej).app i di ei).slots:=by
  funext k;simp only[ZaO]
  by_cases hi:di=some k
  ·have:=hd k hi;simp[hi,this]
  ·simp[hi]
 have ho:((st.app i di ei).app j dj ej).objs=((st.app j dj ej).app i di ei).objs:=by
  funext id;simp only[ZkF,ZcE]
  by_cases hi:ZQ st.ep i (ei.wr.map (·.1)) id=true
  ·have hj:ZQ st.ep j (ej.wr.map (·.1)) id=false:=by
    simp only[ZQ,Bool.or_eq_true,decide_eq_true_eq,Zm8]at hi;rcases hi with hi |hi
    ·exact h1 id hi
    ·simp only[ZQ,ZnC,decide_eq_false_iff_not,Zn1];refine⟨fun hm=> ?_,.inr fun hj=>hij (by rw[←hi.2,hj])⟩;have:=h2 id hm;simp[ZQ,hi]at this
   simp only[ZQ,ZnC,decide_eq_false_iff_not,Zn1]at hj;rw[ZaA (l:=news st.ep j ej) (fun hm=>by have:=Zho hm;rcases hj.2 with h |h<;>simp_all),ZaA hj.1];simp
  ·have hi:ZQ st.ep i (ei.wr.map (·.1)) id=false:=by simpa using hi
   simp only[ZQ,ZnC,decide_eq_false_iff_not,Zn1]at hi;rw[ZaA (l:=news st.ep i ei) (fun hm=>by have:=Zho hm;rcases hi.2 with h |h<;>simp_all),ZaA hi.1];simp
 have hf:((st.app i di ei).app j dj ej).fz=((st.app j dj ej).app i di ei).fz:=by funext id;simp only[ZbF];cases ei.frz.contains id<;>cases ej.frz.contains id<;>rfl
 have he:((st.app i di ei).app j dj ej).ep=((st.app j dj ej).app i di ei).ep:=by simp
 generalize (st.app i di ei).app j dj ej=s1 at*
 generalize (st.app j dj ej).app i di ei=s2 at*
 cases s1;cases s2;simp only at hs ho hf he;subst hs ho hf he;rfl
structure Fp where
 R:List Id:=[]
 W:List Id:=[]
 F:List Id:=[]
def Zhu (ops:Array Oper) (ep i j:Nat) (oi oj:Oper) (fi fj:Fp):Bool:=
 oi.apart ops oj&&(fi.R.all fun id=> !ZQ ep j fj.W id)&&(fi.W.all fun id=> !ZQ ep j fj.W id)&&(fj.R.all fun id=> !ZQ ep i fi.W id)&&(fj.W.all fun id=> !ZQ ep i fi.W id)&&
  (fi.F.all fun id=> !decide (id∈fj.W))&&(fj.F.all fun id=> !decide (id∈fi.W))
inductive ZeI (ops:Array Oper):Nat→Nat→Prop
 |one {j:Nat} {o:Oper} {e:Edge} (hj:ops[j]? =some o) (he:e∈o.after) (hb:Region.binds .any e=true):ZeI ops j e.on
 |more {j i:Nat} {o:Oper} {e:Edge} (hj:ops[j]? =some o) (he:e∈o.after) (hb:Region.binds .any e=true) (h:ZeI ops e.on i):ZeI ops j i
def Zfl (ops:Array Oper) (listed:Array Bool):Prop:=
 ∀j o,ops[j]? =some o→listed.getD j true=true→∀e∈o.after,Region.binds .any e=true→listed.getD e.on false=true
theorem Zhs {listed:Array Bool} {j:Nat} (h:listed.getD j false=true):listed.getD j true=true:=by
 rcases Nat.lt_or_ge j listed.size with h' |h'
 ·simp[h']at h⊢;exact h
 ·simp[Array.getElem?_eq_none h']at h
theorem ZeI.listed {ops:Array Oper} {listed:Array Bool} {j i:Nat} (h:ZeI ops j i) (hc:Zfl ops listed) (hj:∀o,ops[j]? =some o→∀e∈o.after,Region.binds .any e=true→listed.getD e.on false=true):
  listed.getD i false=true:=by
 induction h with
 |one ho he hb=>exact hj _ ho _ he hb
 |more ho he hb _ ih=>exact ih fun o' ho' e' he' hb'=>hc _ o' ho' (Zhs (hj _ ho _ he hb)) e' he' hb'
theorem Zfl.set {ops:Array Oper} {listed:Array Bool} (h:Zfl ops listed) {i:Nat} (hi:i∈Region.ready .any ops listed):Zfl ops (listed.setIfInBounds i true):=by
 intro j o hj hl e he hb;refine getD_set_true ?_;obtain⟨_,oi,hoi,hall⟩:=mem_ready.1 hi
 by_cases hji:j=i
 ·subst hji;rw[hj]at hoi;obtain rfl:=Znu hoi;exact hall e he hb
 ·rw[getD_set_ne true (Ne.symm hji)]at hl;exact h j o hj hl e he hb
section
variable {C:Ctx} {r:Fm} {ops:Array Oper} {tbl:List Fp} {K:St→Prop}
def D.isDead:D→Bool
 | .dead=>true
 |_=>false
def live (ops:Array Oper) (o:Oper) (st:St) (f:Fp):Bool:=(o.looksAt ops).all (fun t=> !(st.slots t).isDead)&&(f.R.all fun id=>(st.objs id).isSome)&&(f.W.all fun id=>(st.objs id).isSome)
def OEf (C:Ctx) (ops:Array Oper) (i:Nat) (o:Oper) (st:St) (e:Eff) (f:Fp):Prop:=OE C ops i o st e f.R∧f.W=e.wr.map (·.1)∧f.F=e.frz∧live ops o st f=true
def Zm2 (C:Ctx) (ops:Array Oper) (tbl:List Fp) (K:St→Prop):Nat→Array Bool→St→Prop
 |0,listed,st=>Region.ready .any ops listed=[]∧K st
 |n+1,listed,st=>(Region.ready .any ops listed=[]→K st)∧
   ∀i∈Region.ready .any ops listed,∃o e f,ops[i]? =some o∧tbl[i]? =some f∧OEf C ops i o st e f∧Zm2 C ops tbl K n (listed.setIfInBounds i true) (st.app i o.dst e)
theorem ZiW {ep i j:Nat} {oi oj:Oper} {fi fj:Fp} (h:Zhu ops ep i j oi oj fi fj=true):oi.apart ops oj=true∧(∀id∈fi.R,ZQ ep j fj.W id=false)∧(∀id∈fi.W,ZQ ep j fj.W id=false)∧
  (∀id∈fj.R,ZQ ep i fi.W id=false)∧(∀id∈fj.W,ZQ ep i fi.W id=false)∧(∀id∈fi.F,id∉fj.W)∧(∀id∈fj.F,id∉fi.W):=by
 simp only[Zhu,Zm8,ZnD,Bool.not_eq_true',decide_eq_false_iff_not]at h;obtain⟨⟨⟨⟨⟨⟨h1,h2⟩,h3⟩,h4⟩,h5⟩,h6⟩,h7⟩:=h;exact⟨h1,h2,h3,h4,h5,h6,h7⟩
theorem ZeZ {o:Oper} {st st':St} {f:Fp} (h:live ops o st f=true) (hs:∀t∈o.looksAt ops,st'.slots t=st.slots t) (hR:∀id∈f.R,st'.objs id=st.objs id) (hW:∀id∈f.W,st'.objs id=st.objs id):live ops o st' f=true:=by
 simp only[live,Zm8,ZnD]at h⊢
 exact⟨⟨fun t ht=>by rw[hs t ht];exact h.1.1 t ht,fun id hid=>by rw[hR id hid];exact h.1.2 id hid⟩,fun id hid=>by rw[hW id hid];exact h.2 id hid⟩
theorem OEf.swap {i j:Nat} {oi oj:Oper} {fi fj:Fp} {st:St} {ei ej:Eff} (hij:i≠j) (hi:OEf C ops i oi st ei fi) (hj:OEf C ops j oj (st.app i oi.dst ei) ej fj) (hin:Zhu ops st.ep i j oi oj fi fj=true):
  OEf C ops j oj st ej fj∧OEf C ops i oi (st.app j oj.dst ej) ei fi∧(st.app i oi.dst ei).app j oj.dst ej=(st.app j oj.dst ej).app i oi.dst ei:=by
 obtain⟨h1,h2,h3,h4,h5,h6,h7⟩:=ZiW hin;obtain⟨a1,a2,a3⟩:=Oper.apart_spec h1;obtain⟨hi0,hiW,hiF,hiL⟩:=hi;obtain⟨hj0,hjW,hjF,hjL⟩:=hj;have hj':OE C ops j oj st ej fj.R:=by
  refine hj0.congr (fun t ht=> ?_) (fun id hid=> ?_) (fun id hid=> ?_) (ZcE _ _ _ _).symm
  ·rw[ZaO,if_neg fun hd=>a1 t hd ht]
  ·exact(Zc7 (by rw[←hiW];exact h4 id hid)).symm
  ·rw[ZbF];have:id∉ei.frz:=fun hm=>h6 id (by rw[hiF];exact hm) (by rw[hjW];exact hid)
   simp[this]
 refine⟨⟨hj',hjW,hjF, ?_⟩,⟨?_,hiW,hiF, ?_⟩, ?_⟩
 ·refine ZeZ hjL (fun t ht=> ?_) (fun id hid=> ?_) (fun id hid=> ?_)
  ·rw[ZaO,if_neg fun hd=>a1 t hd ht]
  ·exact(Zc7 (by rw[←hiW];exact h4 id hid)).symm
  ·exact(Zc7 (by rw[←hiW];exact h5 id hid)).symm
 ·refine hi0.congr (fun t ht=> ?_) (fun id hid=> ?_) (fun id hid=> ?_) (ZcE _ _ _ _)
  ·rw[ZaO,if_neg fun hd=>a3 t hd ht]
  ·exact Zc7 (by rw[←hjW];exact h2 id hid)
  ·rw[ZbF];have:id∉ej.frz:=fun hm=>h7 id (by rw[hjF];exact hm) (by rw[hiW];exact hid)
   simp[this]
 ·refine ZeZ hiL (fun t ht=> ?_) (fun id hid=> ?_) (fun id hid=> ?_)
  ·rw[ZaO,if_neg fun hd=>a3 t hd ht]
  ·exact Zc7 (by rw[←hjW];exact h2 id hid)
  ·exact Zc7 (by rw[←hjW];exact h3 id hid)
 ·exact Zlu hij a2 (fun id hid=>by rw[←hjW];exact h3 id (by rw[hiW];exact hid)) (fun id hid=>by rw[←hiW];exact h5 id (by rw[hjW];exact hid))
theorem Zg4 {listed:Array Bool} {i:Nat} (h0:listed.getD i true=false) (h1:listed.getD i false=true):False:=by
 rcases Nat.lt_or_ge i listed.size with h' |h'
 ·simp[h']at h0 h1;rw[h0]at h1;cases h1
 ·simp[Array.getElem?_eq_none h']at h1
theorem Zjn {i:Nat} {oi:Oper} {e:Eff} {f:Fp} (hi:ops[i]? =some oi) (hf:tbl[i]? =some f):∀(fuel:Nat) (listed:Array Bool) (st:St),Zfl ops listed→
   (∀j oj fj,ops[j]? =some oj→tbl[j]? =some fj→j≠i→listed.getD j true=false→¬ZeI ops j i→Zhu ops st.ep i j oi oj f fj=true)→
   i∈Region.ready .any ops listed→OEf C ops i oi st e f→
   Zm2 C ops tbl K fuel (listed.setIfInBounds i true) (st.app i oi.dst e)→Zm2 C ops tbl K (fuel+1) listed st:=by
 intro fuel
 induction fuel with
 |zero=>
  intro listed st _ _ hr hy H;refine⟨fun h=>(by rw[h]at hr;cases hr),fun j hj=> ?_⟩
  by_cases hji:j=i
  ·subst hji;exact⟨oi,e,f,hi,hf,hy,H⟩
  ·have:=ready_mono hj hji;rw[H.1]at this;cases this
 |succ fuel ih=>
  intro listed st hcl hfree hr hy H;refine⟨fun h=>(by rw[h]at hr;cases hr),fun j hj=> ?_⟩
  by_cases hji:j=i
  ·subst hji;exact⟨oi,e,f,hi,hf,hy,H⟩
  ·obtain⟨oj,ej,fj,hoj,hfj,hyj,H1⟩:=H.2 j (ready_mono hj hji);obtain⟨hjun,oj',hoj',hall⟩:=mem_ready.1 hj;rw[hoj]at hoj';obtain rfl:=Znu hoj';have hi0:=(mem_ready.1 hr).1;have hnw:¬ZeI ops j i:=fun hw=>Zg4 hi0 (hw.listed hcl fun o' ho'=>by rw[hoj]at ho';obtain rfl:=Znu ho';exact hall)
   obtain⟨q1,q2,q3⟩:=OEf.swap (Ne.symm hji) hy hyj (hfree j oj fj hoj hfj hji hjun hnw);refine⟨oj,ej,fj,hoj,hfj,q1,ih (listed.setIfInBounds j true) (st.app j oj.dst ej) (hcl.set hj) (fun k ok fk hk hfk hki hun hno=> ?_) (ready_mono hr (Ne.symm hji)) q2 ?_⟩
   ·rw[ZcE];refine hfree k ok fk hk hfk hki ?_ hno
    by_cases hjk:j=k
    ·subst hjk;exact hjun
    ·rw[getD_set_ne true hjk]at hun;exact hun
   ·rw[Array.setIfInBounds_comm _ _ hji,←q3];exact H1
def masks (ops:List Oper):List Nat:=
 ops.foldl (init:=[]) fun acc o=>acc++[o.after.toList.foldl (fun s e=>if Region.binds .any e then s|||2 ^ e.on|||acc.getD e.on 0 else s) 0]
def Zj3 (acc:List Nat) (es:List Edge) (s:Nat):Nat:=es.foldl (fun s e=>if Region.binds .any e then s|||2 ^ e.on|||acc.getD e.on 0 else s) s
theorem ZdW {acc:List Nat} {i:Nat}:∀(es:List Edge) (s:Nat),(Zj3 acc es s).testBit i=true→s.testBit i=true∨∃e∈es,Region.binds .any e=true∧(e.on=i∨(acc.getD e.on 0).testBit i=true)
 | [],s,h=> .inl h
 |e::es,s,h=>by
  have h:=ZdW es _ h;rcases h with h |⟨e',he',h⟩
  ·dsimp only at h;split at h
   ·rename_i hb;simp only[Nat.testBit_or,Bool.or_eq_true]at h;rcases h with (h |h) |h
    ·exact .inl h
    ·rw[Nat.testBit_two_pow]at h;exact .inr ⟨e,by simp,hb,.inl (by simpa using h)⟩
    ·exact .inr ⟨e,by simp,hb,.inr h⟩
   ·exact .inl h
  ·exact .inr ⟨e',by simp[he'],h⟩
theorem ZeY (ops:Array Oper):∀(l pre:List Oper) (acc:List Nat),pre++l=ops.toList→acc.length=pre.length→(∀j i,(acc.getD j 0).testBit i=true→ZeI ops j i)→
  ∀j i,((l.foldl (init:=acc) fun acc o=>acc++[o.after.toList.foldl (fun s e=>if Region.binds .any e then s|||2 ^ e.on|||acc.getD e.on 0 else s) 0]).getD j 0).testBit i=true→ZeI ops j i
 | [],pre,acc,_,_,h=>h
 |o::l,pre,acc,hp,hl,h=>by
  simp only[List.foldl_cons];refine ZeY ops l (pre++[o]) _ (by simpa using hp) (by simp[hl]) fun j i hb=> ?_
  have ho:ops[pre.length]? =some o:=by rw[←Znz,←hp];simp
  by_cases hj:j < acc.length
  ·refine h j i ?_;simpa[Zn3,List.getElem?_append_left hj]using hb
  ·by_cases hj2:j=acc.length
   ·subst hj2;have hb':(Zj3 acc o.after.toList 0).testBit i=true:=by simpa[Zn3,Zj3]using hb
    rcases ZdW _ _ hb' with h0 |⟨e,he,hbi,h0⟩
    ·simp at h0
    ·rw[hl];have he':e∈o.after:=by simpa using he
     rcases h0 with rfl |h0
     ·exact .one ho he' hbi
     ·exact .more ho he' hbi (h _ _ h0)
   ·have:((acc++[o.after.toList.foldl (fun s e=>if Region.binds .any e then s|||2 ^ e.on|||acc.getD e.on 0 else s) 0]).getD j 0)=0:=by rw[Zn3,List.getElem?_eq_none (by simp;omega)];rfl
    rw[this]at hb;simp at hb
theorem Zhp {ops:Array Oper} {j i:Nat} (h:((masks ops.toList).getD j 0).testBit i=true):ZeI ops j i:=
 ZeY ops ops.toList [] [] rfl rfl (fun j i h=>by simp at h) j i h
def ZeQ (ops:Array Oper) (ep i:Nat) (oi:Oper) (fi:Fp):Nat→List Oper→List Fp→List Nat→Bool
 |_,[],_,_=>true
 |j,oj::os,fj::fs,m::ms=>(m.testBit i||Zhu ops ep i j oi oj fi fj)&&ZeQ ops ep i oi fi (j+1) os fs ms
 |_,_,_,_=>false
def ZcN (ops:Array Oper) (ep:Nat):Nat→List Oper→List Fp→List Nat→Bool
 |_,[],_,_=>true
 |i,oi::os,fi::fs,m::ms=>ZeQ ops ep i oi fi (i+1) os fs ms&&ZcN ops ep (i+1) os fs ms
 |_,_,_,_=>false
def Ziq:Nat→List Oper→Bool
 |_,[]=>true
 |i,o::os=>(o.after.toList.all fun e=> !Region.binds .any e||decide (e.on < i))&&Ziq (i+1) os
def ZgI (ops:Array Oper) (ep:Nat) (tbl:List Fp):Bool:=Ziq 0 ops.toList&&ZcN ops ep 0 ops.toList tbl (masks ops.toList)
theorem Zek:∀(l:List Oper) (i:Nat),Ziq i l=true→∀k o,l[k]? =some o→∀e∈o.after,Region.binds .any e=true→e.on < i+k
 | [],_,_,k,o,h=>by simp at h
 |o::l,i,h,k,o',hk=>by
  simp only[Ziq,Zm8,ZnD,Bool.or_eq_true,Bool.not_eq_true',decide_eq_true_eq]at h;cases k with
  |zero=>
   simp at hk;subst hk;intro e he hb;have:=h.1 e (by simpa using he);rw[hb]at this;simpa using this
  |succ k=>
   simp at hk;intro e he hb;have:=Zek l (i+1) h.2 k o' hk e he hb;omega
theorem ZdJ {ep i:Nat} {oi:Oper} {fi:Fp}:∀(os:List Oper) (fs:List Fp) (ms:List Nat) (j:Nat),ZeQ ops ep i oi fi j os fs ms=true→∀k oj fj,os[k]? =some oj→fs[k]? =some fj→
  (ms.getD k 0).testBit i=true∨Zhu ops ep i (j+k) oi oj fi fj=true
 | [],_,_,_,_,k,oj,fj,h,_=>by simp at h
 |o::os,[],_,_,h,_,_,_,_,_=>by simp[ZeQ]at h
 |o::os,f::fs,[],_,h,_,_,_,_,_=>by simp[ZeQ]at h
 |o::os,f::fs,m::ms,j,h,k,oj,fj,ho,hf=>by
  simp only[ZeQ,Zm8,Bool.or_eq_true]at h;cases k with
  |zero=>simp at ho hf;subst ho hf;simpa using h.1
  |succ k=>
   simp at ho hf;have:=ZdJ os fs ms (j+1) h.2 k oj fj ho hf;simpa[Zno,Nat.add_comm 1 k]using this
theorem Zdd {ep:Nat}:∀(os:List Oper) (fs:List Fp) (ms:List Nat) (i:Nat),ZcN ops ep i os fs ms=true→∀k l oi oj fi fj,k < l→os[k]? =some oi→os[l]? =some oj→fs[k]? =some fi→fs[l]? =some fj→
  (ms.getD l 0).testBit (i+k)=true∨Zhu ops ep (i+k) (i+l) oi oj fi fj=true
 | [],_,_,_,_,k,l,oi,oj,fi,fj,_,h,_,_,_=>by simp at h
 |o::os,[],_,_,h,_,_,_,_,_,_,_,_,_,_,_=>by simp[ZcN]at h
 |o::os,f::fs,[],_,h,_,_,_,_,_,_,_,_,_,_,_=>by simp[ZcN]at h
 |o::os,f::fs,m::ms,i,h,k,l,oi,oj,fi,fj,hkl,h1,h2,h3,h4=>by
  simp only[ZcN,Zm8]at h;cases l with
  |zero=>omega
  |succ l=>
   simp at h2 h4;cases k with
   |zero=>
    simp at h1 h3;subst h1 h3;have:=ZdJ os fs ms (i+1) h.1 l oj fj h2 h4;simpa[Zno,Nat.add_comm 1 l]using this
   |succ k=>
    simp at h1 h3;have:=Zdd os fs ms (i+1) h.2 k l oi oj fi fj (by omega) h1 h2 h3 h4;simpa[Zno,Nat.add_comm 1 l,Nat.add_comm 1 k]using this
def Zlz (C:Ctx) (ops:Array Oper):List Fp→Nat→St→St→Prop
 | [],_,st,st'=>st=st'
 |f::r,k,st,st'=>∃o e,ops[k]? =some o∧OEf C ops k o st e f∧Zlz C ops r (k+1) (st.app k o.dst e) st'
def Zm1 (n k:Nat) (listed:Array Bool):Prop:=listed.size=n∧∀j,j < n→listed[j]? =some (decide (j < k))
theorem Zm1.set {n k:Nat} {listed:Array Bool} (h:Zm1 n k listed):Zm1 n (k+1) (listed.setIfInBounds k true):=by
 refine⟨by simp[h.1],fun j hj=> ?_⟩;rw[Array.getElem?_setIfInBounds]
 by_cases hjk:k=j
 ·subst hjk;simp[h.1,hj]
 ·rw[if_neg hjk,h.2 j hj];simp only[Znv,decide_eq_decide];omega
theorem Zly {ep:Nat} {st':St} (hok:ZgI ops ep tbl=true) (htl:tbl.length=ops.size) (hK:K st'):∀(l:List Fp) (k:Nat) (listed:Array Bool) (st:St),(∀j,l[j]? =tbl[k+j]?)→k+l.length=ops.size→
  Zm1 ops.size k listed→st.ep=ep→Zlz C ops l k st st'→Zm2 C ops tbl K l.length listed st:=by
 simp only[ZgI,Zm8]at hok;have hback:=Zek _ _ hok.1;have hpair:=Zdd _ _ _ _ hok.2;have hback':∀k o,ops[k]? =some o→∀e∈o.after,Region.binds .any e=true→e.on < k:=fun k o hk e he hb=>by have:=hback k o (by rw[Znz];exact hk) e he hb;omega
 have getD_t:∀{k:Nat} {listed:Array Bool},Zm1 ops.size k listed→∀j,j < ops.size→∀d,listed.getD j d=decide (j < k):=fun hu j hj d=>by rw[Array.getD_eq_getD_getElem?,hu.2 j hj];rfl
 have hclosed:∀{k:Nat} {listed:Array Bool},k≤ops.size→Zm1 ops.size k listed→Zfl ops listed:=by intro k listed hk hu j o hj hl e he hb;have hjs:=(Zm4.1 hj).1;rw[getD_t hu j hjs]at hl;have:=hback' j o hj e he hb;have hl:=of_decide_eq_true hl;rw[getD_t hu _ (by omega)];simp;omega
 intro l
 induction l with
 |nil=>
  intro k listed st _ hk hu _ hch;simp only[Zlz]at hch;subst hch;simp only[List.length_nil,Nat.add_zero]at hk;refine⟨?_,hK⟩;refine List.eq_nil_iff_forall_not_mem.2 fun j hj=> ?_
  obtain⟨h0,o,ho,_⟩:=mem_ready.1 hj;have hjs:=(Zm4.1 ho).1;rw[getD_t hu j hjs]at h0;simp at h0;omega
 |cons f l ih=>
  intro k listed st hl hk hu hep hch;obtain⟨o,e,ho,hoe,hch⟩:=hch;have hks:=(Zm4.1 ho).1;have hf:tbl[k]? =some f:=by simpa using (hl 0).symm
  simp only[List.length_cons]at hk⊢
  refine Zjn ho hf l.length listed st (hclosed (by omega) hu) (fun j oj fj hj hfj hjk hun hnw=> ?_) (mem_ready.2 ⟨?_,o,ho,fun e' he' hb=> ?_⟩) hoe
   (ih (k+1) _ _ (fun j=>by have:=hl (j+1);simpa[Zno,Nat.add_comm 1 j]using this) (by omega) hu.set (by rw[ZcE];exact hep) hch)
  ·have hjs:=(Zm4.1 hj).1;rw[getD_t hu j hjs]at hun;simp at hun;have:=hpair k j o oj f fj (by omega) (by rw[Znz];exact ho) (by rw[Znz];exact hj) hf hfj;simp only[ZnZ]at this;rcases this with h |h
   ·exact absurd (Zhp h) hnw
   ·rw[hep];exact h
  ·rw[getD_t hu k hks];simp
  ·have:=hback' k o ho e' he' hb;rw[getD_t hu _ (by omega)];simpa using this
theorem Zm2.run (hE:Zn C.E) {b:Frame} (kk:List Go.Item) (cs:List Frame) (hb:b.roundOf=r.r):∀(fuel t:Nat) (listed:Array Bool) (st:St),Zm2 C ops tbl K fuel listed st→∀(X:Nat→Prop),(∀j,j < ops.size→X j→listed.getD j true=true)→
  ∀ρ S a w,Rep C X ρ S st a.tmps w→a.defers=r.ds→∃X' ρ' S' st' a' w',Rep C X' ρ' S' st' a'.tmps w'∧a'.defers=r.ds∧K st'∧
   StepsIn (Machine.fenced C.E.prog (Zct r.r)) C.E.prog (lone (b.atR a (.inRegion ops (Region.linearise.go .any ops fuel t listed [])::kk)) cs w) (lone (b.atR a' (.inRegion ops []::kk)) cs w'):=by
 intro fuel
 induction fuel with
 |zero=>
  intro t listed st h X hX ρ S a w hr hd;exact⟨X,ρ,S,st,a,w,hr,hd,h.2,by simp only[Region.linearise.go,List.reverse_nil];exact .refl _⟩
 |succ fuel ih=>
  intro t listed st h X hX ρ S a w hr hd;obtain⟨h0,h1⟩:=h;simp only[Region.linearise.go]
  change ∃X' ρ' S' st' a' w',_∧_∧_∧StepsIn _ _ (lone (b.atR a (.inRegion ops (match (Region.ready .any ops listed)[t % (Region.ready .any ops listed).length]? with
   |some i=>Region.linearise.go .any ops fuel (t / (Region.ready .any ops listed).length) (listed.setIfInBounds i true) [i]
   |none=>[].reverse)::kk)) cs w) _
  cases hi:(Region.ready .any ops listed)[t % (Region.ready .any ops listed).length]? with
  |none=>
   have hnil:Region.ready .any ops listed=[]:=by
    cases hr:Region.ready .any ops listed with
    |nil=>rfl
    |cons x xs=>
     rw[hr]at hi;have hlt:t % (x::xs).length < (x::xs).length:=Nat.mod_lt _ (by simp);simp at hi;simp at hlt;omega
   exact⟨X,ρ,S,st,a,w,hr,hd,h0 hnil,by simp only[List.reverse_nil];exact .refl _⟩
  |some i=>
   have hir:=ZnU hi;obtain⟨o,e,f,ho,_,hoe,hrest⟩:=h1 i hir;have his:=(Zm4.1 ho).1;have hun:=(mem_ready.1 hir).1;obtain⟨ρ1,S1,a1,w1,hr1,hd1,hs1⟩:=(hoe.1.exec (r:=r) hE ho) X (fun hx=>by rw[hX i his hx]at hun;cases hun) ρ S a w hr hd b (Region.linearise.go .any ops fuel (t / (Region.ready .any ops listed).length) (listed.setIfInBounds i true) []) kk cs hb;obtain⟨X',ρ',S',st',a',w',q1,q2,q3,q4⟩:=ih (t / (Region.ready .any ops listed).length) _ _ hrest (fun j=>X j∨j=i) (fun j hjs hj=>by
    rcases hj with hj |rfl
    ·by_cases hji:i=j
     ·subst hji;rw[hX i his hj]at hun;cases hun
     ·rw[getD_set_ne true hji];exact hX j hjs hj
    ·rw[Array.getD_eq_getD_getElem?,Array.getElem?_setIfInBounds];simp only[if_true];split<;>rfl) ρ1 S1 a1 w1 hr1 hd1
   refine⟨X',ρ',S',st',a',w',q1,q2,q3, ?_⟩;dsimp only;rw[linearise_go_acc,List.reverse_singleton,List.singleton_append];exact hs1.trans q4
theorem Rep.drawn {X:Nat→Prop} {ρ:Id→Option Lay} {S:Nat→Prop} {st:St} {tm:Array Value} {w:World} (h:Rep C X ρ S st tm w) (n:Nat):Rep C X ρ S st tm {w with drawn:=n}:=by
 have kp:ZbQ S w {w with drawn:=n}:=fun _ _ _=>rfl
 exact {h with
  slots:=fun k=>(h.slots k).mono kp (fun _ h=>h) (fun _ _ h=>h)
  objs:=fun id o ho hg=>by obtain⟨L,hL,hr⟩:=h.objs id o ho hg;exact⟨L,hL,hr.mono kp (fun _ h=>h) (fun _ _ h=>h) (fun _ _=>rfl)⟩
  glob:=fun g cs hm=>(h.glob g cs hm).mono kp (fun _ h=>h)
  fam:=by obtain⟨κ,F⟩:=h.fam;refine⟨κ,fun id i sz c k l L hk hL=> ?_,F.own,F.inj⟩;obtain⟨b,v,q1,q2,q3,q4⟩:=F.kid _ _ _ _ _ _ L hk hL;exact⟨b,v,q1,q2,q3.mono kp (fun _ h=>h) (fun _ _ h=>h),q4.mono kp (fun _ h=>h) (fun _ _ h=>h) fun _ _=>rfl⟩}
variable {G:Zg0}
def DW (C:Ctx) (r:Fm) (G:Zg0) (k:List Item) (ops:Array Oper) (hist:List Fp) (st:St):Prop:=
 ∃rest st',(hist++rest).length=ops.size∧ZgI ops st.ep (hist++rest)=true∧Zlz C ops rest hist.length st st'∧AWP C r G k st'.next
theorem dw_op {k:List Item} {hist:List Fp} {st:St} {o:Oper} {e:Eff} {f:Fp} (ho:ops[hist.length]? =some o) (h:OEf C ops hist.length o st e f) (h1:DW C r G k ops (hist++[f]) (st.app hist.length o.dst e)):DW C r G k ops hist st:=by obtain⟨rest,st',q1,q2,q3,q4⟩:=h1;refine⟨f::rest,st',by simpa using q1,by simpa using q2,⟨o,e,ho,h,by simpa using q3⟩,q4⟩
theorem dw_end {k:List Item} {hist:List Fp} {st:St} (hl:hist.length=ops.size) (hok:ZgI ops st.ep hist=true) (h1:AWP C r G k st.next):DW C r G k ops hist st:=
 ⟨[],st,by simpa using hl,by simpa using hok,rfl,h1⟩
theorem Zls {k:List Item} {st:St} {id:Nat} (hE:Zn C.E) (hm:C.E.prog.follows .mixedOrders=true) (h:DW C r G k ops [] st):AWP C r G (.c (.region id ops true)::k) st:=by intro ρ S a w hr hd b k0 cs hb;obtain⟨rest,st',q1,q2,q3,q4⟩:=h;simp only[List.nil_append]at q1 q2;have hany:=Zly (K:=fun s=>s=st') q2 q1 rfl rest 0 (Array.replicate ops.size false) st (by simp) (by simpa using q1) ⟨by simp,fun j hj=>by simp[hj]⟩ rfl q3;rw[q1]at hany;have hr0:Rep C (fun _=>False) ρ S st a.tmps w:=hr;obtain⟨X',ρ',S',st2,a',w',p1,p2,p3,p4⟩:=hany.run hE (b:=b) (k.map conc++k0) cs hb ops.size (w.tape w.drawn (.order b.fn id)) _ _ (fun _=>False) (fun _ _ h=>h.elim) ρ S a {w with drawn:=w.drawn+1} (hr0.drawn _) hd;subst p3;obtain⟨e,a2,w2,hg,harr⟩:=q4 ρ' S' a' w' (p1.nextEp.weakX (fun _ h=>h.elim)) p2 b k0 cs hb;refine⟨e,a2,w2,hg,.of_steps ?_ harr⟩;refine .head (Zz _ _ _) (stepR_region_draw) (StepsIn.trans (m₁:=lone (b.atR a' (.inRegion ops []::(k.map conc++k0))) cs w') ?_ (.one (Zz _ _ _) stepR_region_end));simp only[Region.schedule,hm,Bool.true_or,if_true];exact p4
end
end Eng
namespace Eng
open Go
structure Under (st2 st:St):Prop where
 ep:st2.ep=st.ep
 slots:∀k,st2.slots k= .dead∨st2.slots k=st.slots k
 objs:∀id,st2.objs id=none∨st2.objs id=st.objs id
 fz:∀id,st2.fz id=st.fz id
section
variable {C:Ctx} {r:Fm} {G:Zg0} {ops:Array Oper}
def objL (st:St):List Id→Option (List Obj)
 | []=>some []
 |id::r=>match st.objs id,objL st r with
  |some o,some os=>some (o::os)
  |_,_=>none
end
end Eng
namespace Eng
open Go
def Zju (w w':World):Prop:=ZP w w'∧w.heap.size≤w'.heap.size∧∀b,b < w.heap.size→w'.heap[b]? =w.heap[b]?
theorem Zju.keptBut {w w':World} (h:Zju w w') (may:MemPlace→Prop):w.keptBut w' may:=by
 refine⟨h.1.1,h.1.2,fun i hi=> ?_⟩;rw[h.2.2 i hi];cases w.heap[i]? with
 |none=>rfl
 |some o=>cases o<;>simp
theorem Zfe:∀(n:Nat) (xs:List P),Zce n (xs.map .p)=[]
 |_,[]=>rfl
 |n,x::xs=>by simp only[Znh,Zce,Arg.o];exact Zfe (n+1) xs
theorem Zj9 {E:Env} {f:Nat} {xs:List P} {vals:Array Value} {w:World} {y:P} (hF:Fun E f (xs.map .p) ⟨[.p y],[]⟩) (hb:(E.prog.funcs[f]?.map fun fn=>fn.body.isNone)=some false) (hv:vals.size=xs.length)
  (hrel:∀(k:Nat) v x,vals[k]? =some v→xs[k]? =some x→RelP w (fun b=>b < w.heap.size) v x) (hglob:∀g cs,(g,cs)∈E.globs→Zex w (fun b=>b < w.heap.size) g cs):
  Calls E.prog f vals w fun e w'=>(∃v S,e= .returned v∧RelP w' S v y)∧Zju w w':=by
 obtain hF |⟨⟨fn,h1,h2⟩,_⟩:=hF
 case inr=>rw[h1,Zoe,h2]at hb;cases hb
 refine Calls.mono (CallsIn.calls (hF.2 w (fun _=>False) (fun b=>b < w.heap.size) (fun _=>none) (fun _=>none) vals (by simpa using hv) ?_) (fun _=>by intro d hd;simp[Zct]at hd)) ?_
 ·have ho:∀id,(Zep (xs.map .p)).objs id=none:=fun id=>by show Zg (Zce 0 (xs.map .p)) id=none;rw[Zfe];rfl
  exact {
   nt:=rfl
   grow:=Znq _
   frame:=fun _ _ _=>rfl
   s0:=fun _ h=>h
   sIn:=fun _ h=>h
   slots:=fun k=>by
    show RelD w _ _ (vals.getD k undef) (Zat D.dead (Zc5 0 (xs.map .p)) k);rcases ZaM D.dead (Zc5 0 (xs.map .p)) k with hk |hk
    ·rw[hk];exact .dead _
    ·obtain⟨j,x,q1,q2,q3⟩:=Zes 0 _ _ _ hk;rw[ZnZ]at q2 q3;subst q2;rw[Znf,Option.map_eq_some_iff]at q1;obtain⟨x0,q1,rfl⟩:=q1;rw[q3];have hlt:=(Zne.1 q1).1;have hv':vals[k]? =some vals[k]:=by simp
     rw[show vals.getD k undef=vals[k] by simp[show k < vals.size by omega]];exact .p _ _ (hrel k _ x0 hv' q1)
   objs:=fun id o h=>by rw[ho id]at h;cases h
   own:=fun id o L b h=>by rw[ho id]at h;cases h
   inj:=fun id o L id' o' L' b h=>by rw[ho id]at h;cases h
   known:=fun id h=>absurd (ho id) h
   young:=fun id h=>absurd rfl h
   fzk:=fun id h=>by cases h
   glob:=hglob
   sOut:=fun b h=> .inl h
   ep1:=Znq _
   quiet:= .refl _
   lay:=fun k L h=>by cases h
   fam:=Fam.none fun id o h=>by rw[ho id]at h;cases h}
 ·rintro e w' ⟨vs,ρ',S',rfl,hvs,hrep⟩;refine⟨⟨Zg6 vs,S',rfl, ?_⟩,hrep.quiet,hrep.grow,fun b hb=>hrep.frame b hb (fun h=>h)⟩;have h1:vs.size=1:=by simpa using hvs
  have:=hrep.slots 0;have h2:vs.getD 0 undef=vs[0]:=by simp[h1]
  rw[h2]at this;unfold Zg6;rw[dif_pos h1];exact this.of_p
theorem ZkL {E:Env} {f:Nat} {xs:List P} {vals:Array Value} {w:World} {y:Bool} (hF:Fun E f (xs.map .p) ⟨[.p (.bool y)],[]⟩) (hb:(E.prog.funcs[f]?.map fun fn=>fn.body.isNone)=some false) (hv:vals.size=xs.length)
  (hrel:∀(k:Nat) v x,vals[k]? =some v→xs[k]? =some x→RelP w (fun b=>b < w.heap.size) v x) (hglob:∀g cs,(g,cs)∈E.globs→Zex w (fun b=>b < w.heap.size) g cs):
  Calls E.prog f vals w fun e w'=>e= .returned (.bool y)∧Zju w w':=
 Calls.mono (Zj9 hF hb hv hrel hglob) fun e w' ⟨⟨v,S,he,hr⟩,hk⟩=>⟨by cases hr;exact he,hk⟩
open Go.ChangeShapes Go.WideShapes in
theorem ZlF {H:Type} {P:Program} {enc:TypeId×Value→H} {f:Func} {s:ChangeSpec} {apart fresh handsOn again:Bool} {W W':World} {args:Array Value} {v:Value} {ds gs:List (DataW H)} {before pa pv:List MemPlace}
  (hW:DataW.Whole enc P f.params.toList s.vars apart W args.toList ds gs before)
  (hres:∀(b:Nat) (sp:Nat→Bool) (hd:Bool),DataW.TrodAll enc P W' b sp hd f.resultTypes.toList (v.resultList f.resultTypes.size) (s.fn H (ds++gs)).results [])
  (hargs:∀sp:Nat→Bool,(∀p∈before,sp p.block=true)→DataW.TrodAll enc P W' 0 sp true f.params.toList args.toList (s.fn H (ds++gs)).args pa)
  (hvars:∀sp:Nat→Bool,(∀p∈before,sp p.block=true)→DataW.TrodVars enc P W' sp s.vars (s.fn H (ds++gs)).vars pv)
  (hps:before=pa++pv) (hk:Zju W W')
  (hok:∀(j:Nat) (t:TypeId) (r:Value),f.resultTypes[j]? =some t→(v.resultList f.resultTypes.size)[j]? =some r→Value.okWide P W' .any 0 t r):
  s.post enc P f apart fresh handsOn again W args v W':=by
 have hold:∀p∈before,(fun b=>decide (b < W.heap.size)) p.block=true:=fun p hp=>by simpa using hW.lt p hp
 have hlt:=hW.lt
 refine⟨ds,gs,before,[],pa,pv,hW,hres _ _ _,hargs _ hold,hvars _ hold,World.keptBut_mono (fun p hp=>⟨hp, ?_⟩) (hk.keptBut (· ∈before)),fun _=> ?_⟩
 ·rw[hps,List.mem_append]at hp
  exact Or.inr hp
 ·obtain⟨_,_,_,_,_,hz,hn⟩:=hW
  refine⟨hok,_,_,([]++pa)++pv,⟨[]++pa,pv,trodAll_append (hargs _ (fun _ _=>rfl)) (hres _ _ _),hvars _ (fun _ _=>rfl),rfl, ?_, ?_⟩, ?_⟩
  ·intro b off hp
   have hp':MemPlace.cell b off∈before:=by rw[hps];simpa using hp
   have hb:b < W.heap.size:=hlt _ hp'
   rw[ZaK (hk.2.2 b hb)]
   exact hz b off hp'
  ·intro ha
   have:=hn ha
   rw[hps]at this
   simpa using this
  ·intro p hp _
   rw[hps]
   simpa using hp
end Eng
namespace Eng
open Go
def chk {α:Type} (b:Bool) (k:Option α):Option α:=match b with
 |true=>k
 |false=>none
theorem Zh {α:Type} {b:Bool} {k:Option α} {r:α} (h:chk b k=some r):b=true∧k=some r:=by cases b<;>simp_all [chk]
@[simp] theorem chk_true {α:Type} (k:Option α):chk true k=k:=rfl
theorem bind_some {α β:Type} {x:Option α} {f:α→Option β} {r:β} (h:x.bind f=some r):∃a,x=some a∧f a=some r:=by cases x<;>simp_all
def inK (k:IntKind) (n:Int):Bool:=match k with
 | .i64=>Zlg n
 |k=>decide (k.min≤n∧n≤k.max)
def idx {α:Type} (xs:List α) (n:Int):Option α:=if 0≤n then xs[n.toNat]? else none
theorem Zie {α:Type} {xs:List α} {n:Int} {x:α} (h:idx xs n=some x):0≤n∧n < xs.length∧xs[n.toNat]? =some x:=by unfold idx at h;split at h;rotate_left;cases h;rename_i h0;have:=(Zne.1 h).1;exact⟨h0,by omega,h⟩
theorem ZhT {α:Type} (xs:List α) (f:α→P):(xs.map f).take xs.length=xs.map f:=by rw[←Zn6 (f:=f),List.take_length]
theorem dt_map {α:Type} (xs:List α) (f:α→P):((xs.map f).drop 0).take xs.length=xs.map f:=by rw[List.drop_zero,ZhT]
section
variable {C:Ctx} {r:Fm} {G:Zg0} {ops:Array Oper}
end
inductive Out (β ρ:Type) where
 |brk (b:β)
 |ret (r:ρ)
def ZlP (f:Func):Code:=match f.body with |some c=>c |none=> .skip
def sub:List Nat→Code→Code
 | [],c=>c
 |0::p,.seq a _=>sub p a
 |1::p,.seq _ b=>sub p b
 |2::p,.cond _ a _=>sub p a
 |3::p,.cond _ _ b=>sub p b
 |4::p,.block _ b=>sub p b
 |5::p,.loop b=>sub p b
 |_::_,_=> .skip
def big:Nat:=36893488147419103232
theorem big_eq:big=36893488147419103232:=rfl
abbrev Str:=List UInt8
def encL {α:Type} (sz:Nat) (f:α→P) (xs:List α):P:= .sl sz (xs.map f)
end Eng
namespace Eng
open Go
section
variable {C:Ctx} {X:Nat→Prop} {ρ:Id→Option Lay} {S:Nat→Prop} {st:St} {tm:Array Value} {w:World}
theorem obj_fz (st:St) (id:Id) (o:Obj):(st.obj id o).fz=st.fz:=rfl
theorem Zj0 (st:St) (id id':Id) (o:Obj):(st.obj id o).objs id'=if id'=id then some o else st.objs id':=rfl
theorem Rep.settle (h:Rep C X ρ S st tm w) {id:Id} {sz c k lo:Nat} {es:List P} (hlk:st.objs id=some (.own sz c k es lo none)) (hfz:st.fz id=false):
  ∃S',Rep C X ρ S' (st.obj id (.arr sz es false)) tm w:=by
 obtain⟨κ,F⟩:=h.fam;let S':Nat→Prop:=fun b=>S b∨∃i l,Kid st.objs st.fz id i sz c k l∧(κ id i).blk=some b
 have hSS:∀b,S b→S' b:=fun b hb=> .inl hb
 have kp:ZbQ S w w:=fun _ _ _=>rfl
 obtain⟨L,hL,hsz,hel,hlc,hlm,hcz,hbn,hcells,hrel⟩:=h.objs id _ hlk (by simp);subst hsz;have get:∀{id1 o},(st.obj id (.arr L.sz es false)).objs id1=some o→(id1=id∧o= .arr L.sz es false)∨(id1≠id∧st.objs id1=some o):=by
  intro id1 o ho;rw[Zj0]at ho;split at ho
  ·rename_i he;simp only[Znv]at ho;exact .inl ⟨he,ho.symm⟩
  ·rename_i he;exact .inr ⟨he,ho⟩
 have old:∀{id1 o},(st.obj id (.arr L.sz es false)).objs id1=some o→o≠ .gone→∃o',st.objs id1=some o'∧o'≠ .gone:=fun ho hg=>by
  rcases get ho with ⟨rfl,_⟩ |⟨_,h1⟩
  ·exact⟨_,hlk,by simp⟩
  ·exact⟨_,h1,hg⟩
 have notKid:∀{id1 o L1 b},st.objs id1=some o→o≠ .gone→ρ id1=some L1→L1.blk=some b→¬∃i l,Kid st.objs st.fz id i L.sz c k l∧(κ id i).blk=some b:=by rintro id1 o L1 b ho hg hL1 hb ⟨i,l,hk,hb'⟩;exact(F.own _ _ _ _ _ _ b hk hb').2.2.2 id1 o L1 ho hg hL1 hb
 have ko:∀{id1 i sz1 c1 k1 l},Kid (st.obj id (.arr L.sz es false)).objs (st.obj id (.arr L.sz es false)).fz id1 i sz1 c1 k1 l→Kid st.objs st.fz id1 i sz1 c1 k1 l∧id1≠id:=by
  rintro id1 i sz1 c1 k1 l ⟨es1,lo1,out1,cs1,ho,hf,r⟩;rcases get ho with ⟨rfl,he⟩ |⟨hne,ho⟩
  ·cases he
  ·exact⟨⟨es1,lo1,out1,cs1,ho,hf,r⟩,hne⟩
 refine⟨S',h.nt,h.grow,h.frame,fun b hb=> .inl (h.s0 b hb),fun b hb=> ?_,fun k=>(h.slots k).mono kp hSS (fun _ _ h=>h),fun id1 o ho hg=> ?_,fun id1 o L1 b ho hg hL1 hb=> ?_,fun id1 o L1 id2 o2 L2 b ho hg hL1 hb ho2 hg2 hL2 hb2=> ?_,fun id1 hn=> ?_,h.young,h.fzk,fun g cs hm=>(h.glob g cs hm).mono kp hSS,fun b hb=> ?_,h.ep1,h.quiet,h.lay,κ,fun id1 i sz1 c1 k1 l L1 hk hL1=> ?_,fun id1 i sz1 c1 k1 l b hk hb=> ?_,fun id1 i sz1 c1 k1 l id2 i2 sz2 c2 k2 l2 b hk hk2=>F.inj _ _ _ _ _ _ _ _ _ _ _ _ b (ko hk).1 (ko hk2).1⟩
 ·rcases hb with hb |⟨i,l,hk,hb⟩
  ·exact h.sIn b hb
  ·exact(F.own _ _ _ _ _ _ b hk hb).1
 ·rcases get ho with ⟨rfl,rfl⟩ |⟨_,ho⟩
  ·
   refine⟨L,hL,rfl,hel,hlc,hlm,hbn,hcells,fun i=> .agg ((Array.range L.sz).map fun j=>match L.blk with |some b=>(w.cell? ⟨b,L.base+i*L.sz+j,none⟩).getD default |none=>default),fun i _=>by simp[Value.cells],fun b hb i j v hi hv=> ?_,fun i e he=> ?_⟩
   ·have hmul:(i+1)*L.sz≤L.cap*L.sz:=Nat.mul_le_mul_right _ (by omega);rw[Nat.add_mul,Nat.one_mul]at hmul;simp only[Value.cells,hb,Array.getElem?_map,Option.map_eq_some_iff]at hv;obtain⟨j',hj',rfl⟩:=hv;have hjj:j < L.sz:=by have:=(Zm4.1 hj').1;simpa using this
    have:j'=j:=by obtain⟨_,e⟩:=Zm4.1 hj';simpa using e.symm
    subst this;obtain⟨⟨u,hu⟩,_⟩:=hcells b hb (i*L.sz+j') (by omega);rw[←Zno]at hu;rw[hu];rfl
   ·have hi:i < L.len:=by have:=(Zne.1 he).1;omega
    obtain⟨cs,l,rfl,q2,q3,q4⟩:=hrel i e he;cases hbk:L.blk with
    |none=>have:=hbn hbk;omega
    |some b=>
     have hmul:(i+1)*L.sz≤L.cap*L.sz:=Nat.mul_le_mul_right _ (by omega);rw[Nat.add_mul,Nat.one_mul]at hmul;have cl:∀j v,((Array.range L.sz).map fun j=>(w.cell? ⟨b,L.base+i*L.sz+j,none⟩).getD default)[j]? =some v→w.cell? ⟨b,L.base+i*L.sz+j,none⟩=some v:=by
      intro j v hv;simp only[Array.getElem?_map,Option.map_eq_some_iff]at hv;obtain⟨j',hj',rfl⟩:=hv;have hjj:j < L.sz:=by have:=(Zm4.1 hj').1;simpa using this
      have:j'=j:=by obtain⟨_,e⟩:=Zm4.1 hj';simpa using e.symm
      subst this;obtain⟨⟨u,hu⟩,_⟩:=hcells b hbk (i*L.sz+j') (by omega);rw[←Zno]at hu;rw[hu];rfl
     refine .agg _ cs (by simp[q2]) (fun j v hv=> ?_) (fun j v x hv hx=> ?_)
     ·have hjl:j < cs.length:=by have:=(Zm4.1 hv).1;simp at this;omega
      exact(q4 b hbk j cs[j] v (by simp) (cl j v hv)).1
     ·have r:=q4 b hbk j x v hx (cl j v hv)
      by_cases hj:j≠c∨lo≤i
      ·exact(r.2 hj).mono kp hSS
      ·have hjc:j=c:=by omega
       subst hjc;have hk:Kid st.objs st.fz id1 i L.sz j k l:=⟨es,lo,none,cs,hlk,hfz,he,q3,by omega,by simp⟩;rw[q3]at hx;obtain rfl:=Znu hx;obtain⟨b',v',hb',hv',hr,hro⟩:=F.kid _ _ _ _ _ _ L hk hL;rw[hbk]at hb';obtain rfl:=Znu hb';rw[cl j v hv]at hv';obtain rfl:=Znu hv';refine Zar (S:=S) (ρ:=fun _=>some (κ id1 i)) (lk:=fun _=>some (.arr k l false)) (fun _ o ho _=>⟨_,rfl,by cases ho;exact hro⟩) hSS 0 _ v _ hr (by simp[Zbf]) (fun id2 _ L2 b2 hL2 hb2=> ?_);cases hL2;exact .inr ⟨i,l,hk,hb2⟩
  ·obtain⟨L1,hL1,hr⟩:=h.objs id1 o ho hg;exact⟨L1,hL1,hr.mono kp hSS (fun _ _ h=>h) fun _ _=>rfl⟩
 ·obtain⟨o',ho',hg'⟩:=old ho hg;obtain⟨q1,q2,q3,q4⟩:=h.own id1 o' L1 b ho' hg' hL1 hb;exact⟨q1,q2,fun hf=> .inl (q3 hf),fun hf hs=>hs.elim (q4 hf) (notKid ho' hg' hL1 hb)⟩
 ·obtain⟨o',ho',hg'⟩:=old ho hg;obtain⟨o2',ho2',hg2'⟩:=old ho2 hg2;exact h.inj _ _ _ _ _ _ b ho' hg' hL1 hb ho2' hg2' hL2 hb2
 ·cases ho:(st.obj id (.arr L.sz es false)).objs id1 with
  |none=>exact absurd ho hn
  |some o=>
   rcases get ho with ⟨rfl,_⟩ |⟨_,ho⟩
   ·exact h.known _ (by simp[hlk])
   ·exact h.known _ (by simp[ho])
 ·rcases hb with hb |⟨i,l,hk,hb⟩
  ·exact h.sOut b hb
  ·exact .inr (F.own _ _ _ _ _ _ b hk hb).2.1
 ·obtain⟨b,v,q1,q2,q3,q4⟩:=F.kid _ _ _ _ _ _ L1 (ko hk).1 hL1;exact⟨b,v,q1,q2,q3.mono kp hSS (fun _ _ h=>h),q4.mono kp hSS (fun _ _ h=>h) fun _ _=>rfl⟩
 ·obtain⟨q1,q2,q3,q4⟩:=F.own _ _ _ _ _ _ b (ko hk).1 hb;refine⟨q1,q2,fun hs=>hs.elim q3 fun⟨i',l',hk',hb'⟩=> ?_,fun id2 o L2 ho hg hL2 hb2=> ?_⟩
  ·exact(ko hk).2 (F.inj _ _ _ _ _ _ _ _ _ _ _ _ b (ko hk).1 hk' hb hb').1
  ·obtain⟨o',ho',hg'⟩:=old ho hg;exact q4 id2 o' L2 ho' hg' hL2 hb2
theorem Rep.unsettle (h:Rep C X ρ S st tm w) {id:Id} {sz c k:Nat} {es:List P} (hlk:st.objs id=some (.arr sz es false)) (hc:∀e∈es,∃cs l,e= .agg cs∧cs[c]? =some (.sl k l)) (hcz:c < sz):
  Rep C X ρ S (st.obj id (.own sz c k es 0 none)) tm w:=by
 obtain⟨κ,F⟩:=h.fam;have get:∀{id1 o},(st.obj id (.own sz c k es 0 none)).objs id1=some o→(id1=id∧o= .own sz c k es 0 none)∨(id1≠id∧st.objs id1=some o):=by
  intro id1 o ho;rw[Zj0]at ho;split at ho
  ·rename_i he;simp only[Znv]at ho;exact .inl ⟨he,ho.symm⟩
  ·rename_i he;exact .inr ⟨he,ho⟩
 have old:∀{id1 o},(st.obj id (.own sz c k es 0 none)).objs id1=some o→o≠ .gone→∃o',st.objs id1=some o'∧o'≠ .gone:=fun ho hg=>by
  rcases get ho with ⟨rfl,_⟩ |⟨_,h1⟩
  ·exact⟨_,hlk,by simp⟩
  ·exact⟨_,h1,hg⟩
 have ko:∀{id1 i sz1 c1 k1 l},Kid (st.obj id (.own sz c k es 0 none)).objs (st.obj id (.own sz c k es 0 none)).fz id1 i sz1 c1 k1 l→Kid st.objs st.fz id1 i sz1 c1 k1 l:=by
  rintro id1 i sz1 c1 k1 l ⟨es1,lo1,out1,cs1,ho,hf,q1,q2,q0,r⟩;rcases get ho with ⟨rfl,he⟩ |⟨hne,ho⟩
  ·cases he;omega
  ·exact⟨es1,lo1,out1,cs1,ho,hf,q1,q2,q0,r⟩
 refine⟨h.nt,h.grow,h.frame,h.s0,h.sIn,h.slots,fun id1 o ho hg=> ?_,fun id1 o L1 b ho hg hL1 hb=> ?_,fun id1 o L1 id2 o2 L2 b ho hg hL1 hb ho2 hg2 hL2 hb2=> ?_,fun id1 hn=> ?_,h.young,h.fzk,h.glob,h.sOut,h.ep1,h.quiet,h.lay,κ,fun id1 i sz1 c1 k1 l L1 hk hL1=>F.kid _ _ _ _ _ _ L1 (ko hk) hL1,fun id1 i sz1 c1 k1 l b hk hb=> ?_,fun id1 i sz1 c1 k1 l id2 i2 sz2 c2 k2 l2 b hk hk2=>F.inj _ _ _ _ _ _ _ _ _ _ _ _ b (ko hk) (ko hk2)⟩
 ·rcases get ho with ⟨rfl,rfl⟩ |⟨_,ho⟩
  ·obtain⟨L,hL,hsz,hel,hlc,hlm,hbn,hcells,evs,hev,hcell,hrel⟩:=h.objs id1 _ hlk (by simp);subst hsz;refine⟨L,hL,rfl,hel,hlc,hlm,hcz,hbn,hcells,fun i e he=> ?_⟩;obtain⟨cs,l,rfl,q⟩:=hc e (ZnU he);have hi:i < L.len:=by have:=(Zne.1 he).1;omega
   have hr:=hrel i _ he;have hs:=hr.size;rw[hev i hi]at hs;simp only[P.cells]at hs;refine⟨cs,l,rfl,hs.symm,q,fun b hb j x v hx hv=> ?_⟩;have hjl:j < (evs i).cells.size:=by rw[hev i hi];have:=(Zne.1 hx).1;omega
   have hu:(evs i).cells[j]? =some (evs i).cells[j]:=by simp[hjl]
   have:=hcell b hb i j _ hi hu;rw[hv]at this;obtain rfl:=Znu this;have r:=hr.cell hu hx;exact⟨r.2,fun _=>r.1⟩
  ·exact h.objs id1 o ho hg
 ·obtain⟨o',ho',hg'⟩:=old ho hg;exact h.own id1 o' L1 b ho' hg' hL1 hb
 ·obtain⟨o',ho',hg'⟩:=old ho hg;obtain⟨o2',ho2',hg2'⟩:=old ho2 hg2;exact h.inj _ _ _ _ _ _ b ho' hg' hL1 hb ho2' hg2' hL2 hb2
 ·cases ho:(st.obj id (.own sz c k es 0 none)).objs id1 with
  |none=>exact absurd ho hn
  |some o=>
   rcases get ho with ⟨rfl,_⟩ |⟨_,ho⟩
   ·exact h.known _ (by simp[hlk])
   ·exact h.known _ (by simp[ho])
 ·obtain⟨q1,q2,q3,q4⟩:=F.own _ _ _ _ _ _ b (ko hk) hb;refine⟨q1,q2,q3,fun id2 o L2 ho hg hL2 hb2=> ?_⟩;obtain⟨o',ho',hg'⟩:=old ho hg;exact q4 id2 o' L2 ho' hg' hL2 hb2
end
theorem Zjj {C:Ctx} {r:Fm} {G:Zg0} {k:List Item} {st:St} {id:Id} {sz c kk lo:Nat} {es:List P} (hlk:st.objs id=some (.own sz c kk es lo none)) (hfz:st.fz id=false)
  (h:AWP C r G k (st.obj id (.arr sz es false))):AWP C r G k st:=fun ρ S a w hr hd=>by
 obtain⟨S',hr'⟩:=hr.settle hlk hfz;exact h ρ S' a w hr' hd
theorem ZgR {C:Ctx} {r:Fm} {G:Zg0} {k:List Item} {st:St} {id:Id} {sz c kk:Nat} {es:List P} (hlk:st.objs id=some (.arr sz es false)) (hc:∀e∈es,∃cs l,e= .agg cs∧cs[c]? =some (.sl kk l)) (hcz:c < sz)
  (h:AWP C r G k (st.obj id (.own sz c kk es 0 none))):AWP C r G k st:=fun ρ S a w hr hd=>h ρ S a w (hr.unsettle hlk hc hcz) hd
end Eng
namespace Eng
open Go
inductive Ty where
 |bool |int (k:IntKind) |str |sl (t:Ty) |st (n:Nat) |map (k v:Ty) |fnc
 deriving DecidableEq,Inhabited
def Ty.td:Ty→TD
 | .bool=> .bool
 | .int k=> .int k
 | .str=> .str
 |_=> .other
@[reducible] def El (car:Nat→Type):Ty→Type
 | .bool=>Bool
 | .int _=>Int
 | .str=>List UInt8
 | .sl t=>List (El car t)
 | .st n=>car n
 | .map k v=>List (El car k×El car v)
 | .fnc=>Option Nat
structure Lf (car:Nat→Type) where
 t:Ty
 x:El car t
structure Zc where
 car:Nat→Type
 size:Nat→Nat
 cells:(n:Nat)→car n→List (Lf car)
 of:(n:Nat)→List (Lf car)→Option (car n)
 enc:(n:Nat)→car n→P
def Zc.tsize (U:Zc):Ty→Nat
 | .st n=>U.size n
 |_=>1
def Zkk:Option Nat→P
 |some f=> .fn f [] []
 |none=> .nilfn
def Zc.encE (U:Zc):(t:Ty)→El U.car t→P
 | .bool,b=> .bool b
 | .int k,n=> .int k n
 | .str,s=> .str s
 | .sl t,xs=> .sl (U.tsize t) (xs.map (U.encE t))
 | .st n,x=>U.enc n x
 | .map k v,kv=> .map k.td (kv.map fun e=>(U.encE k e.1,U.encE v e.2))
 | .fnc,x=>Zkk x
def Zc.encL (U:Zc) (l:Lf U.car):P:=U.encE l.t l.x
def Zc.cellsE (U:Zc):(t:Ty)→El U.car t→List (Lf U.car)
 | .st n,x=>U.cells n x
 |t,x=>[⟨t,x⟩]
def Zc.ofE (U:Zc):(t:Ty)→List (Lf U.car)→Option (El U.car t)
 | .st n,cs=>U.of n cs
 |t,[c]=>if h:c.t=t then some (h▸c.x)else none
 |_,_=>none
structure UOk (U:Zc):Prop where
 of_cells:∀n cs x,U.of n cs=some x→U.cells n x=cs
 enc_cells:∀n x,U.enc n x= .agg ((U.cells n x).map U.encL)
 len:∀n x,(U.cells n x).length=U.size n
inductive TV (U:Zc) where
 |v (t:Ty) (x:El U.car t)
 |pp (cs:List (Lf U.car))
 |nilp |nilfn
 |dead |undef
 |nils (t:Ty)
 |clip (t:Ty) (xs:List (El U.car t))
 |agg (cs:List (TV U))
 |tup (vs:List (TV U))
 |full (id:Id) (n:Nat)
 |sl (id:Id) (off len:Nat)
 |ptr (id:Id) (i j:Nat)
 |map (id:Id)
 |it (id:Id)
 |fn (f:Nat) (first caps:List (TV U))
instance {U:Zc}:Inhabited (TV U):=⟨.dead⟩
inductive TO (U:Zc) where
 |box (cs:List (TV U))
 |arr (t:Ty) (xs:List (El U.car t)) (fix:Bool)
 |map (k v:Ty) (kv:List (El U.car k×El U.car v))
 |sit (s:List UInt8) (pos:Nat)
 |mit (k v:Ty) (rest:List (El U.car k×El U.car v)) (cur:Option (El U.car k×El U.car v))
 |gone
 |own (t:Ty) (c:Nat) (u:Ty) (xs:List (El U.car t)) (lo:Nat) (out:Option Nat)
structure TS (U:Zc) where
 slots:Nat→TV U
 objs:Id→Option (TO U)
 fz:Id→Bool
 ep:Nat
def fnD (f:Nat) (a b:List D):D:=match Zj D.pure? a,Zj D.pure? b with
 |some x,some y=> .p (.fn f x y)
 |_,_=> .fn f a b
mutual
def TV.enc {U:Zc}:TV U→D
 | .v t x=> .p (U.encE t x)
 | .pp cs=> .p (.ptr (cs.map U.encL))
 | .nilp=> .p .nilp
 | .nilfn=> .p .nilfn
 | .dead=> .dead
 | .undef=> .undef
 | .nils t=> .nils (U.tsize t)
 | .clip t xs=> .clip (U.tsize t) (xs.map (U.encE t))
 | .agg cs=> .mkAgg (TV.encs cs)
 | .tup vs=> .tup (TV.encs vs)
 | .full id n=> .sl id 0 n
 | .sl id off len=> .sl id off len
 | .ptr id i j=> .ptr id i j
 | .map id=> .map id
 | .it id=> .it id
 | .fn f a b=>fnD f (TV.encs a) (TV.encs b)
def TV.encs {U:Zc}:List (TV U)→List D
 | []=>[]
 |d::r=>d.enc::TV.encs r
end
theorem Zah {U:Zc}:∀l:List (TV U),TV.encs l=l.map TV.enc
 | []=>rfl
 |d::r=>by rw[TV.encs,Zah r];rfl
def TO.enc {U:Zc}:TO U→Obj
 | .box cs=> .box (TV.encs cs)
 | .arr t xs fix=> .arr (U.tsize t) (xs.map (U.encE t)) fix
 | .map k v kv=> .map k.td (kv.map fun e=>(U.encE k e.1,U.encE v e.2))
 | .sit s pos=> .sit s pos
 | .mit k v rest cur=> .mit (rest.map fun e=>(U.encE k e.1,U.encE v e.2)) (cur.map fun e=>(U.encE k e.1,U.encE v e.2))
 | .gone=> .gone
 | .own t c u xs lo out=> .own (U.tsize t) c (U.tsize u) (xs.map (U.encE t)) lo out
def TO.len? {U:Zc}:TO U→Option Nat
 | .arr _ xs _=>some xs.length
 | .own _ _ _ xs _ _=>some xs.length
 |_=>none
def ZiL {U:Zc}:Option (TO U)→Option Obj
 |some o=>some o.enc
 |none=>none
def TS.enc {U:Zc} (T:TS U):St:={slots:=fun k=>(T.slots k).enc,objs:=fun id=>ZiL (T.objs id),fz:=T.fz,ep:=T.ep}
mutual
def TV.fulls {U:Zc}:TV U→List (Id×Nat)
 | .full id n=>[(id,n)]
 | .agg cs=>TV.fullsL cs
 | .tup cs=>TV.fullsL cs
 | .fn _ a b=>TV.fullsL a++TV.fullsL b
 |_=>[]
def TV.fullsL {U:Zc}:List (TV U)→List (Id×Nat)
 | []=>[]
 |d::r=>d.fulls++TV.fullsL r
end
theorem Zr {U:Zc} {q:Id×Nat}:∀{l:List (TV U)},q∈TV.fullsL l↔∃d∈l,q∈d.fulls
 | []=>by simp[TV.fullsL]
 |d::r=>by simp[TV.fullsL,Zr (l:=r)]
def Zgs {U:Zc} (lk:Id→Option (TO U)) (q:Id×Nat):Prop:=∃o,lk q.1=some o∧∀n,o.len?=some n→n=q.2
def TV.inv {U:Zc} (lk:Id→Option (TO U)) (d:TV U):Prop:=∀q∈d.fulls,Zgs lk q
def TO.inv {U:Zc} (lk:Id→Option (TO U)):TO U→Prop
 | .box cs=>∀d∈cs,d.inv lk
 |_=>True
structure TS.Inv {U:Zc} (T:TS U):Prop where
 slots:∀k,(T.slots k).inv T.objs
 objs:∀id o,T.objs id=some o→o.inv T.objs
theorem ZbN {U:Zc} (hU:UOk U) (t:Ty) (x:El U.car t):(U.cellsE t x).length=U.tsize t:=by cases t<;>first |exact hU.len _ _ |rfl
theorem ZaB {U:Zc} (hU:UOk U) (t:Ty) (x:El U.car t):(U.encE t x).cells=(U.cellsE t x).map U.encL:=by
 cases t with
 |st n=>simp only[Zc.encE,Zc.cellsE,hU.enc_cells n x,P.cells]
 |fnc=>cases x<;>rfl
 |_=>rfl
theorem ZaI {U:Zc} (hU:UOk U) {t:Ty} {cs:List (Lf U.car)} {x:El U.car t} (h:U.ofE t cs=some x):U.cellsE t x=cs:=by
 have one:∀(t:Ty) (c:Lf U.car) (x:El U.car t),(if h:c.t=t then some (h▸c.x)else none)=some x→[(⟨t,x⟩:Lf U.car)]=[c]:=by intro t c x h;split at h;rotate_left;simp at h;rename_i he;obtain⟨t',y⟩:=c;dsimp only at he;subst he;cases h;rfl
 cases t with
 |st n=>exact hU.of_cells n cs x h
 |_=>
  match cs,h with
  | [c],h=>exact one _ c x h
end Eng
namespace Eng
open Go
structure TT (U:Zc) where
 ti:TI
 n:Option Nat
 ty:Ty
 zero:List (TV U)
 zl:Option (Lf U.car)
structure OwnT where
 t:Nat
 n:Nat
 c:Nat
 u:Ty
structure ZF (U:Zc) where
 prog:Program
 tt:List (Option (TT U))
 globs:List (Nat×List (Lf U.car))
 nt:Nat
 owns:List OwnT:=[]
def tiOf {U:Zc}:Option (TT U)→Option TI
 |some e=>some e.ti
 |none=>none
def ZF.E {U:Zc} (X:ZF U):Env:={prog:=X.prog,tys:=X.tt.map tiOf,globs:=X.globs.map fun g=>(g.1,g.2.map U.encL),nt:=X.nt,owns:=X.owns.map fun q=>(q.t,q.c,U.tsize q.u)}
def ZF.at {U:Zc} (X:ZF U) (n:Nat):ZF U:={X with nt:=n}
def ZF.get {U:Zc} (X:ZF U) (t:Nat):Option (TT U):=match X.tt[t]? with |some (some e)=>some e |_=>none
def ZF.elem {U:Zc} (X:ZF U) (t:Nat):Option (TT U):=match X.get t with
 |some e=>match e.ti.d with
  | .sl u=>X.get u
  |_=>none
 |none=>none
structure TOk {U:Zc} (X:ZF U):Prop where
 zero:∀t e,X.get t=some e→TV.encs e.zero=e.ti.zero.map Z.toD
 zl:∀t e l,X.get t=some e→e.zl=some l→U.encL l=e.ti.zeroP
 agg:∀t e,X.get t=some e→e.ti.isAgg=e.n.isSome
 size:∀t e n,X.get t=some e→e.n=some n→e.ti.size=U.size n
 key:∀t e k v,X.get t=some e→e.ty= .map k v→X.E.keyTD t=k.td
 inv:∀t e,X.get t=some e→∀d∈e.zero,d.fulls=[]
 own:∀q∈X.owns,q.c < U.size q.n∧∀x:U.car q.n,∃l,(U.cells q.n x)[q.c]? =some ⟨.sl q.u,l⟩
section
variable {U:Zc} {X:ZF U}
theorem Zs {t:Nat} {e:TT U} (h:X.get t=some e):X.E.ty t=some e.ti:=by unfold ZF.get at h;unfold Env.ty ZF.E;simp only[Znf];split at h;rotate_left;simp at h;rename_i e' he;cases h;rw[he];rfl
theorem Zt {t:Nat} {e:TT U} (h:X.get t=some e):X.E.td t=some e.ti.d:=by simp only[Env.td,Zs h]
theorem Zap {t:Nat} {e:TT U} (h:X.elem t=some e):X.E.elem t=some e.ti:=by unfold ZF.elem at h;unfold Env.elem;split at h;rotate_left;simp at h;rename_i e' he;rw[Zs he];split at h;rotate_left;simp at h;rename_i u hu;rw[←Zs h];generalize e'.ti=ti at hu;obtain⟨d,a,b,c⟩:=ti;dsimp only at hu;subst hu;rfl
def evT (X:ZF U) (sl:Nat→TV U) (t:Nat):Operand→Option (TV U)
 | .tmp s=>some (sl s)
 | .const (.bool b)=>some (.v .bool b)
 | .const (.int k n)=>some (.v (.int k) n)
 | .const (.string s)=>some (.v .str s.data.toList)
 | .const (.slice none 0 0)=>match X.elem t with
  |some e=>if U.tsize e.ty=e.ti.size then some (.nils e.ty)else none
  |none=>none
 | .const (.pointer none)=>some .nilp
 | .const .nilFunc=>some .nilfn
 | .const (.map none)=>match X.get t with
  |some e=>match e.ty with
   | .map k v=>some (.v (.map k v) [])
   |_=>none
  |none=>none
 | .func f=>some (.fn f [] [])
 | .global g=>match X.globs.find? (·.1 == g)with
  |some x=>some (.pp x.2)
  |none=>none
 |_=>none
theorem Zij {α:Type} (f:α→P) (g:Nat):∀l:List (Nat×List α),(l.map fun x=>(x.1,x.2.map f)).find? (·.1 == g)=(l.find? (·.1 == g)).map fun x=>(x.1,x.2.map f)
 | []=>rfl
 |x::r=>by
  simp only[Znh,List.find?_cons];split
  ·rfl
  ·exact Zij f g r
theorem Zmz (hX:TOk X) {sl:Nat→TV U} {t:Nat} {x:Operand} {d:TV U} (h:evT X sl t x=some d):ev X.E (fun k=>(sl k).enc) t x=d.enc:=by
 unfold evT at h;split at h
 ·cases h;rfl
 ·cases h;rfl
 ·cases h;rfl
 ·cases h;rfl
 ·split at h;rotate_left;simp at h;rename_i e he;split at h;rotate_left;simp at h;rename_i hs;cases h;simp only[ev,D.ofV,Env.elemSize,Zap he,TV.enc,hs]
 ·cases h;rfl
 ·cases h;rfl
 ·split at h;rotate_left;simp at h;rename_i e he;split at h;rotate_left;simp at h;rename_i k v hty;cases h;simp only[ev,D.ofV,hX.key t e k v he hty,TV.enc,Zc.encE,Zoa]
 ·cases h;rfl
 ·split at h;rotate_left;simp at h;rename_i q hq;cases h;simp only[ev,Env.glob,ZF.E,Zij,hq,Zoe,TV.enc]
 ·simp at h
def lv (l:Lf U.car):TV U:= .v l.t l.x
def TV.leaf?:TV U→Option (Lf U.car)
 | .v t x=>some ⟨t,x⟩
 |_=>none
theorem Zj8 {d:TV U} {l:Lf U.car} (h:d.leaf?=some l):d=lv l:=by cases d<;>simp[TV.leaf?]at h;subst h;rfl
def ZdT (n:Option Nat) (cs:List (TV U)):TV U:=
 match n,Zj TV.leaf? cs with
 |some n,some ls=>match U.of n ls with
  |some x=> .v (.st n) x
  |none=> .agg cs
 |_,_=> .agg cs
def TV.cells:TV U→List (TV U)
 | .agg cs=>cs
 | .v (.st n) x=>(U.cells n x).map lv
 |d=>[d]
theorem Zbx (ls:List (Lf U.car)):TV.encs (ls.map lv)=(ls.map U.encL).map .p:=by rw[Zah,Zn9,Zn9];rfl
theorem Zay (ps:List P):Zj D.pure? (ps.map .p)=some ps:=by
 induction ps with
 |nil=>rfl
 |cons x r ih=>simp only[Znh,Zj,D.pure?,ih]
theorem Zco (ps:List P):D.mkAgg (ps.map .p)= .p (.agg ps):=by unfold D.mkAgg;rw[Zay]
theorem ZcF:∀{cs:List (TV U)} {ls:List (Lf U.car)},Zj TV.leaf? cs=some ls→cs=ls.map lv
 | [],ls,h=>by simp[Zj]at h;subst h;rfl
 |d::r,ls,h=>by simp only[Zj]at h;split at h;rotate_left;simp at h;rename_i l ls' h1 h2;cases h;simp only[Znh,←ZcF h2,Zj8 h1]
theorem ZeT (hU:UOk U) (n:Option Nat) (cs:List (TV U)):(ZdT n cs).enc=D.mkAgg (TV.encs cs):=by
 unfold ZdT;split
 ·rename_i n ls hls;rw[ZcF hls];split
  ·rename_i x hx;rw[Zbx,Zco,TV.enc,Zc.encE,hU.enc_cells,hU.of_cells _ _ _ hx]
  ·rw[TV.enc]
 ·rw[TV.enc]
theorem Zgq (n:Option Nat) (cs:List (TV U)) {q:Id×Nat} (h:q∈(ZdT n cs).fulls):∃d∈cs,q∈d.fulls:=by
 unfold ZdT at h;have:q∈TV.fullsL cs→∃d∈cs,q∈d.fulls:=fun h=>Zr.1 h
 split at h
 ·split at h
  ·simp[TV.fulls]at h
  ·exact this h
 ·exact this h
theorem Zi8 (ds:List D):(D.mkAgg ds).cells=ds:=by
 unfold D.mkAgg;split
 ·rename_i ps h;rw[D.cells,Zv h]
 ·rfl
theorem Zke (f:Nat) (a b:List D):(fnD f a b).cells=[fnD f a b]:=by unfold fnD;split<;>rfl
theorem Zei (hU:UOk U) (d:TV U):TV.encs d.cells=d.enc.cells:=by
 cases d with
 |agg cs=>rw[TV.cells,TV.enc,Zi8]
 |v t x=>
  cases t with
  |st n=>simp only[TV.cells,Zbx,TV.enc,Zc.encE,hU.enc_cells,D.cells]
  |fnc=>cases x<;>rfl
  |_=>rfl
 |fn f a b=>simp only[TV.cells,TV.encs,TV.enc,Zke]
 |_=>rfl
theorem ZhF {d:TV U} {q:Id×Nat}:(∃c∈d.cells,q∈c.fulls)→q∈d.fulls:=by
 rintro⟨c,hc,hq⟩;cases d with
 |agg cs=>exact Zr.2 ⟨c,hc,hq⟩
 |v t x=>
  cases t<;>simp only[TV.cells,Znm,ZnT]at hc
  case st n=>obtain⟨l,_,rfl⟩:=hc;simp[lv,TV.fulls]at hq
  all_goals (subst hc;simpa using hq)
 |_=>simp only[TV.cells,Znm]at hc;subst hc;exact hq
def TV.okv:TV U→Bool
 | .dead | .undef | .tup _=>false
 |_=>true
theorem ZfC {d:TV U} (h:d.okv=true):d.enc.okv=true:=by
 cases d with
 |agg cs=>rw[TV.enc];unfold D.mkAgg;cases Zj D.pure? (TV.encs cs)<;>rfl
 |fn f a b=>rw[TV.enc];unfold fnD;cases Zj D.pure? (TV.encs a)<;>cases Zj D.pure? (TV.encs b)<;>rfl
 |dead=>simp[TV.okv]at h
 |undef=>simp[TV.okv]at h
 |tup _=>simp[TV.okv]at h
 |_=>rfl
def TS.lf1 (T:TS U):TV U→Option (Lf U.car)
 | .v t x=>some ⟨t,x⟩
 | .nils t=>some ⟨.sl t,[]⟩
 | .clip t xs=>some ⟨.sl t,xs⟩
 | .nilfn=>some ⟨.fnc,none⟩
 | .fn f [] []=>some ⟨.fnc,some f⟩
 | .full id _=>match T.objs id with
  |some (.arr t xs _)=>some ⟨.sl t,xs⟩
  |_=>none
 | .sl id off len=>match T.objs id with
  |some (.arr t xs _)=>some ⟨.sl t,(xs.drop off).take len⟩
  |_=>none
 | .map id=>match T.objs id with
  |some (.map k v kv)=>some ⟨.map k v,kv⟩
  |_=>none
 |_=>none
def TS.lf (T:TS U) (h:Option Nat):TV U→Option (Lf U.car)
 | .agg cs=>match h,Zj T.lf1 cs with
  |some n,some ls=>match U.of n ls with
   |some x=>some ⟨.st n,x⟩
   |none=>none
  |_,_=>none
 |d=>T.lf1 d
theorem ZcU {T:TS U} {d:TV U} {l:Lf U.car} (hi:d.inv T.objs) (h:T.lf1 d=some l) (m:Nat):d.enc.toP T.enc.objs m=some (U.encL l):=by
 unfold TS.lf1 at h;split at h
 ·cases h;simp[TV.enc,Zc.encL]
 ·cases h;simp[TV.enc,Zc.encL,Zc.encE]
 ·cases h;simp[TV.enc,Zc.encL,Zc.encE]
 ·cases h;simp[TV.enc,Zc.encL,Zc.encE,Zkk]
 ·cases h;simp[TV.enc,TV.encs,fnD,Zj,Zc.encL,Zc.encE,Zkk]
 ·rename_i id n;split at h;rotate_left;simp at h;rename_i t xs fix ho;cases h;obtain⟨o,h1,h2⟩:=hi (id,n) (by simp[TV.fulls]);dsimp only at h1 h2;rw[ho,Znv]at h1;subst h1;have hl:=h2 _ rfl;simp only[TV.enc,Zbf,TS.enc,ho,ZiL,TO.enc,Zc.encL,Zc.encE,←hl,dt_map]
 ·rename_i id off len;split at h;rotate_left;simp at h;rename_i t xs fix ho;cases h;simp only[TV.enc,Zbf,TS.enc,ho,ZiL,TO.enc,Zc.encL,Zc.encE,Zob,Zn8]
 ·rename_i id;split at h;rotate_left;simp at h;rename_i k v kv ho;cases h;simp only[TV.enc,Zbm,TS.enc,ho,ZiL,TO.enc,Zc.encL,Zc.encE]
 ·simp at h
theorem ZjA (lk:Id→Option Obj) (m:Nat) (ds:List D):(D.mkAgg ds).toP lk (m+1)=(Zj (D.toP lk m) ds).map .agg:=by
 unfold D.mkAgg;split
 ·rename_i ps h;rw[Zjz,Zv h];have:Zj (D.toP lk m) (ps.map .p)=some ps:=by
   clear h
   induction ps with
   |nil=>rfl
   |cons x r ih=>simp only[Znh,Zj,Zjz,ih]
  rw[this];rfl
 ·rfl
theorem Zcq {T:TS U} (m:Nat):∀{cs:List (TV U)} {ls:List (Lf U.car)},(∀d∈cs,d.inv T.objs)→Zj T.lf1 cs=some ls→Zj (D.toP T.enc.objs m) (TV.encs cs)=some (ls.map U.encL)
 | [],ls,_,h=>by simp[Zj]at h;subst h;rfl
 |d::r,ls,hi,h=>by simp only[Zj]at h;split at h;rotate_left;simp at h;rename_i l ls' h1 h2;cases h;simp only[TV.encs,Zj,ZcU (hi d (by simp)) h1 m,Zcq m (fun x hx=>hi x (by simp[hx])) h2,Znh]
theorem ZhM {lk:Id→Option (TO U)} {cs:List (TV U)} (h:(TV.agg cs).inv lk):∀d∈cs,d.inv lk:=fun d hd q hq=>h q (Zr.2 ⟨d,hd,hq⟩)
theorem Ze0 (hU:UOk U) {T:TS U} {hn:Option Nat} {d:TV U} {l:Lf U.car} (hi:d.inv T.objs) (h:T.lf hn d=some l) (m:Nat):d.enc.toP T.enc.objs (m+1)=some (U.encL l):=by
 cases d with
 |agg cs=>
  simp only[TS.lf]at h;split at h;rotate_left;simp at h;rename_i n ls hls;split at h;rotate_left;simp at h;rename_i x hx;cases h;rw[TV.enc,ZjA,Zcq m (ZhM hi) hls];simp only[Zoe,Zc.encL,Zc.encE,hU.enc_cells,hU.of_cells _ _ _ hx]
 |_=>exact ZcU hi h _
structure Zi (U:Zc) where
 val:TV U
 new:List (Nat×TO U):=[]
 wr:List (Id×TO U):=[]
 frz:List Id:=[]
def Zi.enc (e:Zi U) (cs:List Bool):Eff:=
 {val:=e.val.enc,new:=e.new.map fun x=>(x.1,x.2.enc),wr:=e.wr.map fun x=>(x.1,x.2.enc),frz:=e.frz,cond:=cs}
def TS.objL (T:TS U):List (Id×TO U)→TS U
 | []=>T
 |(id,o)::r=>TS.objL {T with objs:=upd T.objs id (some o)} r
def TS.freezeL (T:TS U) (l:List Id):TS U:={T with fz:=fun id=>l.contains id||T.fz id}
def TS.setO (T:TS U):Option Nat→TV U→TS U
 |some t,d=>{T with slots:=upd T.slots t d}
 |none,_=>T
def TS.app (T:TS U) (i:Nat) (dst:Option Nat) (e:Zi U):TS U:=
 (((T.objL e.wr).objL (e.new.map fun x=>((T.ep,i,x.1),x.2))).freezeL e.frz).setO dst e.val
def TS.next (T:TS U):TS U:={T with ep:=T.ep+1}
theorem ZeL {a b:St} (h1:a.slots=b.slots) (h2:a.objs=b.objs) (h3:a.fz=b.fz) (h4:a.ep=b.ep):a=b:=by cases a;cases b;simp_all
theorem objL_enc:∀(l:List (Id×TO U)) (T:TS U),(T.objL l).enc=T.enc.objL (l.map fun x=>(x.1,x.2.enc))
 | [],T=>rfl
 |(id,o)::r,T=>by simp only[TS.objL,Znh,St.objL];rw[objL_enc r];congr 1;refine ZeL rfl ?_ rfl rfl;funext x;simp only[TS.enc,St.obj,upd];split<;>rfl
theorem freezeL_enc (l:List Id) (T:TS U):(T.freezeL l).enc=T.enc.freezeL l:=by
 refine ZeL ?_ ?_ ?_ ?_
 ·simp[TS.freezeL,TS.enc]
 ·simp[TS.freezeL,TS.enc]
 ·funext id;rw[Eng.freezeL_fz];rfl
 ·simp[TS.freezeL,TS.enc]
theorem ZkX (T:TS U) (dst:Option Nat) (d:TV U):(T.setO dst d).enc=T.enc.setO dst d.enc:=by
 cases dst with
 |none=>rfl
 |some t=>
  refine ZeL ?_ rfl rfl rfl;funext x;simp only[TS.setO,TS.enc,St.setO,St.set,upd];split<;>rfl
theorem Zbd (T:TS U) (i:Nat) (dst:Option Nat) (e:Zi U) (cs:List Bool):(T.app i dst e).enc=T.enc.app i dst (e.enc cs):=by simp only[TS.app,St.app,ZkX,Eng.freezeL_enc,Eng.objL_enc,Zi.enc,Zn9];rfl
def ZcV (o:Option (TO U)) (o':TO U):Prop:=∀n,o'.len?=some n→∃o0,o=some o0∧o0.len?=some n
def fresh (T:TS U) (i:Nat) (e:Zi U):Bool:=e.new.all fun x=>(T.objs (T.ep,i,x.1)).isNone
theorem ZaW:∀(l:List (Id×TO U)) (T:TS U) (id:Id) (o:TO U),(T.objL l).objs id=some o→(id,o)∈l∨((∀o',(id,o')∉l)∧T.objs id=some o)
 | [],T,id,o,h=> .inr ⟨by simp,h⟩
 |(a,u)::r,T,id,o,h=>by
  simp only[TS.objL]at h;rcases ZaW r _ id o h with h |⟨h1,h2⟩
  ·exact .inl (ZnR _ h)
  ·simp only[upd]at h2;split at h2
   ·rename_i he;simp only[Znv]at h2;subst he h2;exact .inl List.mem_cons_self
   ·rename_i he;exact .inr ⟨fun o' hm=>by rcases Znj.1 hm with hm |hm;(·simp only[Znw]at hm;exact he hm.1);exact h1 o' hm,h2⟩
theorem ZdP:∀(l:List (Id×TO U)) (T:TS U) (id:Id),(T.objs id).isSome=true→((T.objL l).objs id).isSome=true
 | [],T,id,h=>h
 |(a,u)::r,T,id,h=>by
  refine ZdP r _ id ?_;simp only[upd];split
  ·rfl
  ·exact h
def lkA (T:TS U) (i:Nat) (e:Zi U):Id→Option (TO U):=((T.objL e.wr).objL (e.new.map fun x=>((T.ep,i,x.1),x.2))).objs
theorem Zfj (T:TS U) (i:Nat) (dst:Option Nat) (e:Zi U):(T.app i dst e).objs=lkA T i e:=by cases dst<;>rfl
theorem Zj7 {T:TS U} {i:Nat} {e:Zi U} (hf:fresh T i e=true) (hw:∀id o,(id,o)∈e.wr→ZcV (T.objs id) o) {q:Id×Nat} (h:Zgs T.objs q):Zgs (lkA T i e) q:=by
 obtain⟨o,ho,hl⟩:=h;have hs:((T.objL e.wr).objs q.1).isSome=true:=ZdP _ _ _ (by rw[ho];rfl);have hs':=ZdP (e.new.map fun x=>((T.ep,i,x.1),x.2)) _ _ hs;obtain⟨o',ho'⟩:=Option.isSome_iff_exists.1 hs';refine⟨o',ho',fun n he=> ?_⟩;rcases ZaW _ _ _ _ ho' with hm |⟨_,h2⟩
 ·obtain⟨x,hx,he⟩:=ZnT.1 hm;have:=ZnD.1 hf x hx;simp only[Znw]at he;rw[he.1,ho]at this;simp at this
 ·rcases ZaW _ _ _ _ h2 with hm |⟨_,h3⟩
  ·obtain⟨o0,h4,h5⟩:=hw _ _ hm n he;rw[ho,Znv]at h4;rw[←h4]at h5;exact hl _ h5
  ·rw[ho,Znv]at h3;rw[←h3]at he;exact hl _ he
structure ZO (T:TS U) (i:Nat) (e:Zi U):Prop where
 wr:∀id o,(id,o)∈e.wr→ZcV (T.objs id) o
 val:fresh T i e=true→e.val.inv (lkA T i e)
 objs:fresh T i e=true→∀o,((∃k,(k,o)∈e.new)∨∃id,(id,o)∈e.wr)→o.inv (lkA T i e)
theorem TV.inv_old {T:TS U} {i:Nat} {e:Zi U} (hf:fresh T i e=true) (hw:∀id o,(id,o)∈e.wr→ZcV (T.objs id) o) {d:TV U} (h:d.inv T.objs):d.inv (lkA T i e):=
 fun q hq=>Zj7 hf hw (h q hq)
theorem TS.Inv.app {T:TS U} (h:T.Inv) {i:Nat} {dst:Option Nat} {e:Zi U} (hf:fresh T i e=true) (he:ZO T i e):(T.app i dst e).Inv:=by
 constructor
 ·intro k;rw[Zfj];have:(T.app i dst e).slots k=e.val∨(T.app i dst e).slots k=T.slots k:=by
   have h1:∀(l:List (Id×TO U)) (T:TS U),(T.objL l).slots=T.slots:=by
    intro l
    induction l with
    |nil=>intro T;rfl
    |cons x r ih=>intro T;simp only[TS.objL];rw[ih]
   cases dst with
   |none=>right;simp only[TS.app,TS.setO,TS.freezeL,h1]
   |some t=>
    simp only[TS.app,TS.setO,TS.freezeL,h1,upd];split
    ·exact .inl rfl
    ·exact .inr rfl
  rcases this with h1 |h1
  ·rw[h1];exact he.val hf
  ·rw[h1];exact TV.inv_old hf he.wr (h.slots k)
 ·intro id o ho;rw[Zfj]at ho⊢
  rcases ZaW _ _ _ _ ho with hm |⟨_,h2⟩
  ·obtain⟨x,hx,hq⟩:=ZnT.1 hm;simp only[Znw]at hq;obtain⟨_,rfl⟩:=hq;exact he.objs hf _ (.inl ⟨x.1,hx⟩)
  ·rcases ZaW _ _ _ _ h2 with hm |⟨_,h3⟩
   ·exact he.objs hf _ (.inr ⟨id,hm⟩)
   ·have:=h.objs id o h3;cases o with
    |box cs=>exact fun d hd=>TV.inv_old hf he.wr (this d hd)
    |_=>trivial
theorem TS.Inv.next {T:TS U} (h:T.Inv):T.next.Inv:=⟨h.slots,h.objs⟩
theorem ZO.pure {T:TS U} {i:Nat} {d:TV U} {frz:List Id} (h:d.inv T.objs):ZO T i {val:=d,frz:=frz}:=
 ⟨by simp,fun _=>h,by simp⟩
end
end Eng
namespace Eng
open Go
section
variable {U:Zc} {R:Type}
def chkL:List Bool→Option R→Option R
 | [],k=>k
 |b::r,k=>chk b (chkL r k)
def Lf.as {car:Nat→Type} (l:Lf car) (t:Ty):Option (El car t):=if h:l.t=t then some (h▸l.x)else none
def ZmB:P→Option (TV U)
 | .bool b=>some (.v .bool b)
 | .int k n=>some (.v (.int k) n)
 | .str s=>some (.v .str s)
 |_=>none
def ZiU:TV U→Option P
 | .v .bool b=>some (.bool b)
 | .v (.int k) n=>some (.int k n)
 | .v .str s=>some (.str s)
 |_=>none
def aggP:TV U→Option (List P)
 | .v (.st n) x=>some ((U.cells n x).map U.encL)
 | .agg cs=>match Zj TV.leaf? cs with
  |some ls=>some (ls.map U.encL)
  |none=>none
 |_=>none
def ZcH (ep i:Nat):Nat→List (TV U)→List (TV U)
 |_,[]=>[]
 |k,.nils _::r=> .full (ep,i,k) 0::ZcH ep i (k+1) r
 |k,d::r=>d::ZcH ep i (k+1) r
def ZJ:Nat→List (TV U)→List (Nat×TO U)
 |_,[]=>[]
 |k,.nils t::r=>(k,.arr t [] false)::ZJ (k+1) r
 |k,_::r=>ZJ (k+1) r
def ZcS (e:TT U) (cs:List (TV U)):Option (TV U):=
 if e.n.isSome then (if e.ti.size≤cs.length then some (ZdT e.n (cs.take e.ti.size))else none)
 else cs.head?
def Zd9 (X:ZF U) (sl:Nat→TV U) (e:TT U):List (Nat×Operand)→List (TV U)→Option (List (TV U))
 | [],cs=>some cs
 |(i,x)::r,cs=>match e.ti.part X.E i with
  |some (off,t)=>match X.get t,evT X sl t x with
   |some tp,some d=>if d.cells.length=tp.ti.size∧off+d.cells.length≤cs.length∧d.okv=true then Zd9 X sl e r (ZT cs off d.cells)else none
   |_,_=>none
  |none=>none
def ZaY (X:ZF U) (T:TS U) (t:Nat) (e:TT U) (n:Nat):List (Nat×Operand)→List (El U.car e.ty)→Option (List (El U.car e.ty))
 | [],es=>some es
 |(i,x)::r,es=>match evT X T.slots t x with
  |some d=>match T.lf e.n d with
   |some l=>match l.as e.ty with
    |some y=>if U.tsize e.ty=e.ti.size∧i < n then ZaY X T t e n r (es.set i y)else none
    |none=>none
   |none=>none
  |none=>none
def intT (X:ZF U) (sl:Nat→TV U):Option Operand→Option (Option Int)
 |none=>some none
 |some x=>match evT X sl 0 x with
  |some (.v (.int _) n)=>some (some n)
  |_=>none
def Zjq (n b:Nat):Bool:=decide (n*max b 1≤ZC)
def Zci (lo hi n:Int):Bool:=decide (0≤lo∧lo≤hi∧hi≤n)
def ZmP (T:TS U) (x:TV U) (t:Ty):Option (List (El U.car t)):=
 match x with
 | .v .str s=>match t with
  | .int .u8=>some (s.map fun b=>((b.toNat:Nat):Int))
  |_=>none
 |x=>match T.lf1 x with
  |some l=>match l.as (.sl t)with
   |some ys=>some ys
   |none=>none
  |none=>none
def ZjX (X:ZF U) (T:TS U) (ty:Nat) (x:Operand) (k:Zi U→Option R):Option R:=
 match evT X T.slots ty x with
 |some d=>k {val:=d}
 |none=>none
def ZfA (X:ZF U) (T:TS U) (i ty:Nat) (x:Operand) (k:Zi U→Option R):Option R:=
 match evT X T.slots ty x with
 |some (.nils t)=>k {val:= .full (T.ep,i,0) 0,new:=[(0,.arr t [] false)]}
 |some d=>k {val:=d}
 |none=>none
def ZjV (X:ZF U) (T:TS U) (ty:Nat) (c a b:Operand) (k:Zi U→Option R):Option R:=
 match evT X T.slots ty c,evT X T.slots ty a,evT X T.slots ty b with
 |some (.v .bool x),some u,some v=>bif x then k {val:=u}else k {val:=v}
 |_,_,_=>none
def Ze9 (T:TS U) (i:Nat) (ds:List (TV U)):Zi U:={val:= .ptr (T.ep,i,0) 0 0,new:=(0,.box (ZcH T.ep i 1 ds))::ZJ 1 ds}
def Zhn (X:ZF U) (T:TS U) (i t:Nat) (k:Zi U→Option R):Option R:=
 match X.get t with
 |some e=>k (Ze9 T i e.zero)
 |none=>none
def Zme (X:ZF U) (T:TS U) (i t:Nat) (x:Operand) (k:Zi U→Option R):Option R:=
 match X.get t,evT X T.slots t x with
 |some e,some d=>if d.cells.length=e.ti.size∧d.okv=true then k (Ze9 T i d.cells)else none
 |_,_=>none
def Zhm (X:ZF U) (T:TS U) (t:Nat) (parts:List (Nat×Operand)) (k:Zi U→Option R):Option R:=
 match X.get t with
 |some e=>if e.n.isSome then match Zd9 X T.slots e parts e.zero with
  |some cs=>k {val:=ZdT e.n cs}
  |none=>none
  else none
 |none=>none
def Zbr (X:ZF U) (T:TS U) (i t n:Nat) (parts:List (Nat×Operand)) (k:Zi U→Option R):Option R:=
 match X.get t with
 |some e0=>match e0.ti.d with
  | .sl u=>match X.get u with
   |some e=>match e.zl with
    |some z=>match z.as e.ty with
     |some z=>match ZaY X T u e n parts (List.replicate n z)with
      |some es=>if n*e.ti.size≤16777216∧n≤16777216∧U.tsize e.ty=e.ti.size then
        k {val:= .full (T.ep,i,0) n,new:=[(0,.arr e.ty es false)],frz:=Zc0 X.E T.enc.slots T.enc.objs u parts}else none
      |none=>none
     |none=>none
    |none=>none
   |none=>none
  |_=>none
 |none=>none
def ZjY (X:ZF U) (T:TS U) (ix t:Nat) (a:Operand) (k:Zi U→Option R):Option R:=
 match X.get t,evT X T.slots 0 a with
 |some e,some (.pp cs)=>match ZcS e (cs.map lv)with
  |some d=>k {val:=d}
  |none=>none
 |some e,some (.ptr id i j)=>match T.objs id with
  |some (.box cs)=>if i=0 then match ZcS e (cs.drop j)with
   |some d=>k {val:=d}
   |none=>none
   else none
  |some (.arr u xs _)=>(xs[i]?).bind fun x=>match ZcS e (((U.cellsE u x).drop j).map lv)with
   |some d=>k {val:=d}
   |none=>none
  |some (.own (.st n) c u xs lo out)=>(xs[i]?).bind fun x=>
   if e.n.isSome then chk (decide (lo≤i)) (match ZcS e (((U.cells n x).drop j).map lv)with
    |some d=>k {val:=d}
    |none=>none)
   else match out,(U.cells n x)[c]? with
    |none,some ⟨.sl u',l⟩=>if j=c∧u'=u∧e.ti.size=1 then chk (decide (i < lo)) (k {val:= .full (T.ep,ix,0) (Zn4 l),new:=[(0,.arr u' l false)],wr:=[(id,.own (.st n) c u xs lo (some i))]})else none
    |_,_=>none
  |_=>none
 |_,_=>none
def Zhg (X:ZF U) (T:TS U) (ix t:Nat) (a x:Operand) (k:Zi U→Option R):Option R:=
 match X.get t,evT X T.slots 0 a,evT X T.slots t x with
 |some e,some (.ptr id i j),some d=>match T.objs id with
  |some (.box cs)=>if i=0∧d.cells.length=e.ti.size∧j+d.cells.length≤cs.length∧d.okv=true then
    k {val:= .undef,new:=ZJ 0 d.cells,wr:=[(id,.box (ZT cs j (ZcH T.ep ix 0 d.cells)))]}else none
  |some (.arr u xs fix)=>match T.lf e.n d with
   |some l=>if U.tsize l.t=e.ti.size∧j+e.ti.size≤U.tsize u∧0 < e.ti.size then
     (if j=0∧U.tsize l.t=U.tsize u then match l.as u with
      |some y=>k {val:= .undef,wr:=[(id,.arr u (xs.set i y) fix)],frz:=d.enc.ids T.enc.objs depth}
      |none=>none
     else (xs[i]?).bind fun z=>match U.ofE u (ZT (U.cellsE u z) j (U.cellsE l.t l.x))with
      |some y=>k {val:= .undef,wr:=[(id,.arr u (xs.set i y) fix)],frz:=d.enc.ids T.enc.objs depth}
      |none=>none)else none
   |none=>none
  |some (.own (.st n) c u xs lo out)=>match d with
   | .full id2 _=>match T.objs id2 with
    |some (.arr u' l false)=>if u'=u∧j=c∧e.ti.size=1∧e.n.isNone then
      chk (match out with |none=>decide (lo=i) |some i0=>decide (i0=i∧i < lo)) ((xs[i]?).bind fun x=>match U.of n (List.set (U.cells n x) c ⟨.sl u',l⟩)with
       |some y=>k {val:= .undef,wr:=[(id,.own (.st n) c u (xs.set i y) (loUp out lo) none),(id2,.gone)]}
       |none=>none)else none
    |_=>none
   |_=>none
  |_=>none
 |_,_,_=>none
def ZcP (X:ZF U) (T:TS U) (x:Operand) (k:Zi U→Option R):Option R:=
 match evT X T.slots 0 x with
 |some (.pp cs)=>k {val:= .pp cs}
 |some (.ptr id i j)=>k {val:= .ptr id i j}
 |some (.fn f a b)=>k {val:= .fn f a b}
 |_=>none
def opNil (X:ZF U) (T:TS U) (b:BinOp) (t:Nat) (x y:Operand) (k:Zi U→Option R):Option R:=
 match X.get t,evT X T.slots 0 x with
 |some e,some (.v .fnc z)=>match e.ti.d,y,b with
  | .func,.const .nilFunc,.eql=>k {val:= .v .bool (Option.isNone z)}
  | .func,.const .nilFunc,.neq=>k {val:= .v .bool (!Option.isNone z)}
  |_,_,_=>none
 |some e,some d=>match Zde e.ti.d y d.enc with
  |some (.p (.bool z))=>match b with
   | .eql=>k {val:= .v .bool z}
   | .neq=>k {val:= .v .bool (!z)}
   |_=>none
  |_=>none
 |_,_=>none
def Zmf (X:ZF U) (T:TS U) (b:BinOp) (t:Nat) (x y:Operand) (k:Zi U→Option R):Option R:=
 if Operand.isNil y then opNil X T b t x y k else
 match evT X T.slots 0 x,evT X T.slots 0 y with
 |some (.v .bool u),some (.v .bool v)=>match X.get t,Zky b u v with
  |some e,some z=>match e.ti.d,ZmB (U:=U) z with
   | .bool,some d=>k {val:=d}
   |_,_=>none
  |_,_=>none
 |some d,some d'=>match aggP d,aggP d' with
  |some u,some v=>match ZmM X.E b t u v with
   |some z=>match ZmB z with
    |some d=>k {val:=d}
    |none=>none
   |none=>none
  |_,_=>match ZiU d,ZiU d' with
   |some u,some v=>match ZmG b u v with
    |some (z,c)=>match ZmB z with
     |some d=>chkL c (k {val:=d})
     |none=>none
    |none=>none
   |_,_=>none
 |_,_=>none
def opUn (X:ZF U) (T:TS U) (u:UnOp) (x:Operand) (k:Zi U→Option R):Option R:=
 match evT X T.slots 0 x with
 |some d=>match ZiU d with
  |some v=>match unop u v with
   |some (z,c)=>match ZmB z with
    |some d=>chkL c (k {val:=d})
    |none=>none
   |none=>none
  |none=>none
 |none=>none
def ZdO (X:ZF U) (T:TS U) (i s t:Nat) (x:Operand) (k:Zi U→Option R):Option R:=
 match X.get s,X.get t,evT X T.slots 0 x with
 |some es,some et,some d=>match es.ti.d,et.ti.d,d with
  | .int _,.int k',.v (.int _) n=>k {val:= .v (.int k') (k'.wrap n)}
  | .str,.str,.v .str s=>k {val:= .v .str s}
  | .str,.sl u,.v .str s=>match X.get u with
   |some eu=>match eu.ti.d with
    | .int .u8=>chk (decide (s.length≤281474976710656)) (k {val:= .full (T.ep,i,0) s.length,new:=[(0,.arr (.int .u8) (s.map fun b=>((b.toNat:Nat):Int)) false)]})
    |_=>none
   |none=>none
  | .sl u,.str,d=>match X.get u,T.lf1 d with
   |some eu,some l=>match eu.ti.d,l.as (.sl (.int .u8))with
    | .int .u8,some xs=>k {val:= .v .str (xs.map fun n=>UInt8.ofNat n.toNat)}
    |_,_=>none
   |_,_=>none
  |_,_,_=>none
 |_,_,_=>none
def ZlO (X:ZF U) (sl:Nat→TV U) (xs:List Operand):Option (List (TV U)):=Zj (evT X sl 0) xs
def ZcQ (X:ZF U) (T:TS U) (f:Nat) (first caps:List Operand) (k:Zi U→Option R):Option R:=
 match ZlO X T.slots first,ZlO X T.slots caps with
 |some a,some b=>k {val:= .fn f a b}
 |_,_=>none
def ZdM (X:ZF U) (T:TS U) (i t:Nat) (k:Zi U→Option R):Option R:=
 match X.get t with
 |some e=>match e.ty with
  | .map kt vt=>k {val:= .map (T.ep,i,0),new:=[(0,.map kt vt [])]}
  |_=>none
 |none=>none
def zNil (U:Zc) (e:TT U) (c:Nat) (u:Ty):Bool:=match e.ti.zero[c]? with
 |some (.nils k)=>k == U.tsize u
 |_=>false
def Zb5 (X:ZF U) (T:TS U) (i t:Nat) (l c:Operand) (k:Zi U→Option R):Option R:=
 match X.elem t,evT X T.slots 0 l,evT X T.slots 0 c with
 |some e,some (.v (.int _) a),some (.v (.int _) b)=>match X.owns.find? (·.t == t)with
  |some q=>match e.zl with
   |some ⟨.st n,z⟩=>if n=q.n∧e.n.isSome∧U.size n=e.ti.size∧zNil U e q.c q.u=true then
     chk (decide (0≤a∧a≤b∧b*e.ti.bytes≤ZC∧b≤ZC)) (k {val:= .full (T.ep,i,0) a.toNat,new:=[(0,.own (.st n) q.c q.u (List.replicate a.toNat z) a.toNat none)]})else none
   |_=>none
  |none=>match e.zl with
  |some z=>match z.as e.ty with
   |some z=>if U.tsize e.ty=e.ti.size then chk (decide (0≤a∧a≤b∧b*e.ti.bytes≤ZC∧b≤ZC)) (k {val:= .full (T.ep,i,0) a.toNat,new:=[(0,.arr e.ty (List.replicate a.toNat z) false)]})else none
   |none=>none
  |none=>none
 |_,_,_=>none
def cut {α:Type} (xs:List α):Option Int→Option Int→List α
 |none,none=>xs
 |none,some h=>xs.take h.toNat
 |some l,none=>xs.drop l.toNat
 |some l,some h=>(xs.take h.toNat).drop l.toNat
def ZhW (T:TS U) (sz:Option Nat) (d:TV U) (lo hi mx:Option Int) (k:Zi U→Option R):Option R:=
 match sz,d with
 |none,.v .str s=>match mx with
  |none=>chk (Zci (lo.getD 0) (hi.getD s.length) s.length) (k {val:= .v .str (cut s lo hi)})
  |some _=>none
 |some sz,.v (.sl t) xs=>if sz=U.tsize t then match mx,hi with
  |none,_=>chk (Zci (lo.getD 0) (hi.getD xs.length) xs.length) (k {val:= .v (.sl t) (cut xs lo hi)})
  |some m,some h=>chk (decide (0≤lo.getD 0∧lo.getD 0≤h∧h≤xs.length∧m=h)) (k {val:= .clip t (cut xs lo hi)})
  |_,_=>none
  else none
 |some sz,.full id n=>match T.objs id with
  |some (.arr t xs _)=>if sz=U.tsize t then match mx with
   |none=>chk (Zci (lo.getD 0) (hi.getD xs.length) xs.length) (match lo,hi with
    |none,none=>k {val:= .full id n}
    |lo,hi=>k {val:= .sl id (lo.getD 0).toNat ((hi.getD xs.length).toNat - (lo.getD 0).toNat)})
   |some m=>match hi with
    |some h=>chk (decide (0≤lo.getD 0∧lo.getD 0≤h∧h≤xs.length∧m=h)) (k {val:= .clip t (cut xs lo hi),frz:=[id]})
    |none=>none
   else none
  |_=>none
 |some sz,.sl id off len=>match T.objs id with
  |some (.arr t xs _)=>if sz=U.tsize t then match mx with
   |none=>chk (Zci (lo.getD 0) (hi.getD len) len) (k {val:= .sl id (off+(lo.getD 0).toNat) ((hi.getD len).toNat - (lo.getD 0).toNat)})
   |some _=>none
   else none
  |_=>none
 |some _,.nils t=>match mx with
  |none=>chk (decide (lo.getD 0=0∧hi.getD 0=0)) (k {val:= .nils t})
  |some _=>none
 |_,_=>none
def Zhh (X:ZF U) (T:TS U) (t:Nat) (x:Operand) (lo hi mx:Option Operand) (k:Zi U→Option R):Option R:=
 match X.get t,evT X T.slots 0 x,intT X T.slots lo,intT X T.slots hi,intT X T.slots mx with
 |some e,some d,some a,some b,some c=>match e.ti.d with
  | .str=>ZhW T none d a b c k
  | .sl u=>match X.get u with
   |some eu=>ZhW T (some eu.ti.size) d a b c k
   |none=>none
  |_=>none
 |_,_,_,_,_=>none
def Zb7 (X:ZF U) (T:TS U) (t:Nat) (x:Operand) (f:Nat) (k:Zi U→Option R):Option R:=
 match X.get t,evT X T.slots 0 x with
 |some e,some d=>match e.ti.d with
  | .struct fs=>match fs[f]? with
   |some (off,ft)=>match X.get ft with
    |some tf=>if tf.ti.size=0 then none else match d with
     | .pp cs=>k {val:= .pp (cs.drop off)}
     | .ptr id i j=>k {val:= .ptr id i (j+off)}
     |_=>none
    |none=>none
   |none=>none
  |_=>none
 |_,_=>none
def Zhk (X:ZF U) (T:TS U) (t:Nat) (x:Operand) (f:Nat) (k:Zi U→Option R):Option R:=
 match X.get t,evT X T.slots 0 x with
 |some e,some d=>match e.ti.d with
  | .struct fs=>match fs[f]? with
   |some (off,ft)=>match X.get ft with
    |some tf=>if tf.ti.size=0 then none else match d with
     | .v (.st n) x=>match ZcS tf (((U.cells n x).drop off).map lv)with
      |some y=>k {val:=y}
      |none=>none
     | .agg cs=>match ZcS tf (cs.drop off)with
      |some y=>k {val:=y}
      |none=>none
     |_=>none
    |none=>none
   |none=>none
  |_=>none
 |_,_=>none
def tabB {car:Nat→Type} (t:Ty) (cs:List (Lf car)) (n:Nat):Option (El car t):=match cs[n]? with
 |some l=>l.as t
 |none=>none
def tabK (cs:List (Lf U.car)):List Ty→Nat→(List (Lf U.car)→Option R)→Option R
 | [],_,k=>k []
 |t::r,n,k=>(tabB t cs n).bind fun x=>tabK cs r (n+1) fun ls=>k (⟨t,x⟩::ls)
def Zb6 (X:ZF U) (T:TS U) (t:Nat) (x ix:Operand) (k:Zi U→Option R):Option R:=
 match X.get t,evT X T.slots 0 x,evT X T.slots 0 ix with
 |some e,some d,some (.v (.int _) n)=>match e.ti.d with
  | .sl u=>match X.get u with
   |some eu=>match d with
    | .v (.sl t') xs=>if U.tsize t'=eu.ti.size then (idx xs n).bind fun y=>k {val:= .pp (U.cellsE t' y)}else none
    | .full id m=>match T.objs id with
     |some (.arr t' xs _)=>if U.tsize t'=eu.ti.size then chk (decide (0≤n∧n < xs.length)) (k {val:= .ptr id n.toNat 0})else none
     |some (.own t' _ _ xs _ _)=>if U.tsize t'=eu.ti.size then chk (decide (0≤n∧n < xs.length)) (k {val:= .ptr id n.toNat 0})else none
     |_=>none
    | .sl id off len=>match T.objs id with
     |some (.arr t' xs _)=>if U.tsize t'=eu.ti.size then chk (decide (0≤n∧n < len)) (k {val:= .ptr id (off+n.toNat) 0})else none
     |_=>none
    |_=>none
   |none=>none
  | .arr m u=>match X.get u with
   |some eu=>match d with
    | .pp cs=>chk (decide (0≤n∧n < m)) (bif Nat.blt 8 m then match eu.zl with
      |some z=>tabK cs ((U.cellsE z.t z.x).map (·.t)) (n.toNat*eu.ti.size) fun ls=>k {val:= .pp (ls++cs.drop (n.toNat*eu.ti.size+ls.length))}
      |none=>none
     else k {val:= .pp (cs.drop (n.toNat*eu.ti.size))})
    | .ptr id i j=>chk (decide (0≤n∧n < m)) (k {val:= .ptr id i (j+n.toNat*eu.ti.size)})
    |_=>none
   |none=>none
  |_=>none
 |_,_,_=>none
def Zhj (X:ZF U) (T:TS U) (t:Nat) (x ix:Operand) (k:Zi U→Option R):Option R:=
 match X.get t,evT X T.slots 0 x,evT X T.slots 0 ix with
 |some e,some (.v .str s),some (.v (.int _) n)=>match e.ti.d with
  | .str=>(idx s n).bind fun c=>k {val:= .v (.int .u8) ((c.toNat:Nat):Int)}
  |_=>none
 |_,_,_=>none
def Zms {car:Nat→Type}:(k:Ty)→El car k→El car k→Bool
 | .bool,a,b=>a == b
 | .int _,a,b=>a == b
 | .str,a,b=>a == b
 |_,_,_=>false
def Ty.isKey:Ty→Bool
 | .bool | .int _ | .str=>true
 |_=>false
def Zhr {car:Nat→Type} {k v:Ty} (kv:List (El car k×El car v)) (x:El car k):Option (El car v):=(kv.find? fun e=>Zms k x e.1).map (·.2)
def setB {car:Nat→Type} {k v:Ty} (kv:List (El car k×El car v)) (x:El car k) (y:El car v):List (El car k×El car v):=
 if kv.any (fun e=>Zms k x e.1)then kv.map fun e=>if Zms k x e.1 then (e.1,y)else e else kv++[(x,y)]
def delB {car:Nat→Type} {k v:Ty} (kv:List (El car k×El car v)) (x:El car k):List (El car k×El car v):=kv.filter fun e=> !Zms k x e.1
def mapT (T:TS U):TV U→Option (Lf U.car)
 | .v (.map k v) kv=>some ⟨.map k v,kv⟩
 | .map id=>match T.objs id with
  |some (.map k v kv)=>some ⟨.map k v,kv⟩
  |_=>none
 |_=>none
def Zfy (X:ZF U) (T:TS U) (t:Nat) (m k:Operand) (ok:Bool) (κ:Zi U→Option R):Option R:=
 match X.get t with
 |some e=>match e.ti.d,e.ty with
  | .map kt vt,.map a b=>match X.get vt,evT X T.slots 0 m,evT X T.slots kt k with
   |some ev,some dm,some dk=>match mapT T dm,T.lf1 dk,ev.zl with
    |some lm,some lk,some z=>match lm.as (.map a b),lk.as a,z.as b with
     |some kv,some key,some z=>if a.isKey=true∧(X.E.keyTD t).same a.td=true then (if ok then κ {val:= .tup [.v b ((Zhr kv key).getD z),.v .bool (Zhr kv key).isSome]}else κ {val:= .v b ((Zhr kv key).getD z)})else none
     |_,_,_=>none
    |_,_,_=>none
   |_,_,_=>none
  |_,_=>none
 |none=>none
def Za7 (X:ZF U) (T:TS U) (t:Nat) (m k v:Operand) (κ:Zi U→Option R):Option R:=
 match X.get t with
 |some e=>match e.ti.d,e.ty with
  | .map kt vt,.map a b=>match X.get vt,evT X T.slots 0 m,evT X T.slots kt k,evT X T.slots vt v with
   |some ev,some (.map id),some dk,some dv=>match T.objs id,T.lf1 dk,T.lf ev.n dv with
    |some (.map a' b' kv),some lk,some lv=>match (Lf.mk (.map a' b') kv:Lf U.car).as (.map a b),lk.as a,lv.as b with
     |some kv,some key,some y=>if a.isKey=true∧(X.E.keyTD t).same a.td=true then κ {val:= .undef,wr:=[(id,.map a b (setB kv key y))],frz:=dv.enc.ids T.enc.objs depth}else none
     |_,_,_=>none
    |_,_,_=>none
   |_,_,_,_=>none
  |_,_=>none
 |none=>none
def Zhi (X:ZF U) (T:TS U) (i t:Nat) (x:Operand) (k:Zi U→Option R):Option R:=
 match X.get t,evT X T.slots 0 x with
 |some e,some (.v .str s)=>match e.ti.d with
  | .str=>k {val:= .it (T.ep,i,0),new:=[(0,.sit s 0)]}
  |_=>none
 |some e,some (.v (.map a b) kv)=>match e.ti.d with
  | .map _ _=>k {val:= .it (T.ep,i,0),new:=[(0,.mit a b kv none)]}
  |_=>none
 |some e,some (.map id)=>match e.ti.d,T.objs id with
  | .map _ _,some (.map a b kv)=>k {val:= .it (T.ep,i,0),new:=[(0,.mit a b kv none)],frz:=[id]}
  |_,_=>none
 |_,_=>none
def ZjW (X:ZF U) (T:TS U) (it:Operand) (k:Zi U→Option R):Option R:=
 match evT X T.slots 0 it with
 |some (.it id)=>match T.objs id with
  |some (.sit s pos)=>bif decide (pos < s.length)then
    k {val:= .tup [.v .bool true,.v (.int .i64) (pos:Int),.v (.int .i32) (Utf8.decode ⟨s.toArray⟩ pos).1],wr:=[(id,.sit s (pos+(Utf8.decode ⟨s.toArray⟩ pos).2))]}
   else k {val:= .tup [.v .bool false]}
  |_=>none
 |_=>none
def Zhl (X:ZF U) (T:TS U) (it:Operand) (k:Zi U→Option R):Option R:=
 match evT X T.slots 0 it with
 |some (.it id)=>match T.objs id with
  |some (.mit a b _ (some (x,y)))=>k {val:= .tup [.v a x,.v b y]}
  |_=>none
 |_=>none
def ZdN (X:ZF U) (T:TS U) (x:Operand) (ix:Nat) (k:Zi U→Option R):Option R:=
 match evT X T.slots 0 x with
 |some (.tup vs)=>match vs[ix]? with
  |some d=>k {val:=d}
  |none=>none
 |_=>none
def lenT (T:TS U):TV U→Option (Nat)
 | .v .str s=>some s.length
 | .v (.sl _) xs=>some xs.length
 | .clip _ xs=>some xs.length
 | .nils _=>some 0
 | .full id n=>match T.objs id with
  |some (.arr _ xs _)=>some xs.length
  |_=>none
 | .sl _ _ len=>some len
 |_=>none
def Zmd (X:ZF U) (T:TS U) (t:Nat) (x:Operand) (k:Zi U→Option R):Option R:=
 match X.get t,evT X T.slots t x with
 |some e,some d=>match e.ti.d with
  | .str=>match d with
   | .v .str s=>k {val:= .v (.int .i64) (s.length:Int)}
   |_=>none
  | .sl _=>match d with
   | .v (.sl _) xs=>k {val:= .v (.int .i64) (xs.length:Int)}
   | .clip _ xs=>k {val:= .v (.int .i64) (xs.length:Int)}
   | .nils _=>k {val:= .v (.int .i64) (0:Nat)}
   | .full id n=>match T.objs id with
    |some (.arr _ xs _)=>k {val:= .v (.int .i64) (xs.length:Int)}
    |some (.own _ _ _ xs _ _)=>k {val:= .v (.int .i64) (xs.length:Int)}
    |_=>none
   | .sl _ _ len=>k {val:= .v (.int .i64) (len:Int)}
   |_=>none
  | .map _ _=>match mapT T d with
   |some ⟨.map _ _,kv⟩=>chk (decide (Zn4 kv≤Zq)) (k {val:= .v (.int .i64) (Zn4 kv:Int)})
   |_=>none
  | .arr n _=>chk (decide (n≤Zq)) (k {val:= .v (.int .i64) (n:Int)})
  |_=>none
 |_,_=>none
def ZkR:TD→Bool
 | .sl _ | .str=>true
 |_=>false
def appX (T:TS U) (i:Nat) (e:TT U) (d:TV U) (ys:List (El U.car e.ty)) (k:Zi U→Option R):Option R:=
 match d with
 | .nils _=>chk (Zjq ys.length e.ti.bytes) (k {val:= .full (T.ep,i,0) ys.length,new:=[(0,.arr e.ty ys false)]})
 | .clip t' xs=>match (Lf.mk (.sl t') xs:Lf U.car).as (.sl e.ty)with
  |some xs=>chk (decide (List.isEmpty ys=false)) (chk (Zjq (Zn4 xs+ys.length) e.ti.bytes) (k {val:= .full (T.ep,i,0) (Zn4 xs+ys.length),new:=[(0,.arr e.ty (List.append xs ys) false)]}))
  |none=>none
 | .full id n=>match T.objs id with
  |some (.arr t' xs false)=>match (Lf.mk (.sl t') xs:Lf U.car).as (.sl e.ty)with
   |some xs=>chk (Zjq (Zn4 xs+ys.length) e.ti.bytes) (k {val:= .full (T.ep,i,0) (Zn4 xs+ys.length),new:=[(0,.arr e.ty (List.append xs ys) false)],wr:=[(id,.gone)]})
   |none=>none
  |_=>none
 | .sl id 0 len=>match T.objs id with
  |some (.arr t' xs false)=>match (Lf.mk (.sl t') xs:Lf U.car).as (.sl e.ty)with
   |some xs=>chk (decide (len≤Zn4 xs)) (chk (Zjq (len+ys.length) e.ti.bytes) (k {val:= .full (T.ep,i,0) (len+ys.length),new:=[(0,.arr e.ty (List.append (List.take len xs) ys) false)],wr:=[(id,.gone)]}))
   |none=>none
  |_=>none
 |_=>none
def ZfB (X:ZF U) (T:TS U) (i t u:Nat) (s x:Operand) (k:Zi U→Option R):Option R:=
 match X.elem t,X.get u,evT X T.slots t s,evT X T.slots u x with
 |some e,some eu,some d,some dx=>if U.tsize e.ty=e.ti.size then
   (if ZkR eu.ti.d=true then match ZmP T dx e.ty with
    |some ys=>appX T i e d ys k
    |none=>none
   else match eu.ti.d,dx,e.zl with
    | .int _,.v (.int .i64) a,some z=>match z.as e.ty with
     |some z=>chk (decide (0≤a)) (appX T i e d (List.replicate a.toNat z) k)
     |none=>none
    |_,_,_=>none)
  else none
 |_,_,_,_=>none
def ZjZ (X:ZF U) (T:TS U) (t u:Nat) (d s:Operand) (k:Zi U→Option R):Option R:=
 match X.elem t,evT X T.slots t d,evT X T.slots u s with
 |some e,some dd,some ds=>match dd with
  | .full id n=>match T.objs id with
   |some (.arr t' xs fix)=>match ZmP T ds t' with
    |some ys=>if U.tsize t'=e.ti.size then k {val:= .v (.int .i64) (min ys.length xs.length:Nat),wr:=[(id,.arr t' (ys.take xs.length++xs.drop ys.length) fix)]}else none
    |none=>none
   |_=>none
  | .sl id off len=>match T.objs id with
   |some (.arr t' xs fix)=>match ZmP T ds t' with
    |some ys=>if U.tsize t'=e.ti.size then chk (decide (off+len≤xs.length)) (k {val:= .v (.int .i64) (min ys.length len:Nat),wr:=[(id,.arr t' (ZT xs off (ys.take (min ys.length len))) fix)]})else none
    |none=>none
   |_=>none
  |_=>none
 |_,_,_=>none
def Zdp (X:ZF U) (sl:Nat→TV U):List Operand→List Nat→Option (List (TV U))
 | [],_=>some []
 |x::xs,[]=>match evT X sl 0 x,Zdp X sl xs []with
  |some d,some r=>some (d::r)
  |_,_=>none
 |x::xs,t::ts=>match evT X sl t x,Zdp X sl xs ts with
  |some d,some r=>some (d::r)
  |_,_=>none
def opMM (X:ZF U) (T:TS U) (mx:Bool) (args:List Operand) (ats:List Nat) (k:Zi U→Option R):Option R:=
 match Zdp X T.slots args ats with
 |some ds=>match (if mx then maxP (TV.encs ds)else minP (TV.encs ds))with
  |some z=>match ZmB z with
   |some d=>k {val:=d}
   |none=>none
  |none=>none
 |none=>none
def Zfz (X:ZF U) (T:TS U) (t u:Nat) (m k:Operand) (κ:Zi U→Option R):Option R:=
 match X.get t,evT X T.slots t m,evT X T.slots u k with
 |some e,some (.map id),some dk=>match e.ti.d,T.objs id,T.lf1 dk with
  | .map _ _,some (.map a b kv),some lk=>match lk.as a with
   |some key=>if a.isKey=true∧(X.E.keyTD t).same a.td=true then κ {val:= .undef,wr:=[(id,.map a b (delB kv key))]}else none
   |none=>none
  |_,_,_=>none
 |_,_,_=>none
def ZmC (X:ZF U) (T:TS U) (i:Nat) (op:Op) (ty:Nat) (k:Zi U→Option R):Option R:=
 match op with
 | .move x=>ZjX X T ty x k
 | .assign x=>ZfA X T i ty x k
 | .pick c a b=>ZjV X T ty c a b k
 | .alloc t=>Zhn X T i t k
 | .box t x=>Zme X T i t x k
 | .build t parts=>Zhm X T t parts.toList k
 | .buildSlice t n parts=>Zbr X T i t n parts.toList k
 | .load t a=>ZjY X T i t a k
 | .store t a x=>Zhg X T i t a x k
 | .nilCheck x=>ZcP X T x k
 | .binOp b t x y _=>Zmf X T b t x y k
 | .unOp u _ x=>opUn X T u x k
 | .convert s t x=>ZdO X T i s t x k
 | .makeFunc (.func f) first caps=>ZcQ X T f first.toList caps.toList k
 | .makeMap t none=>ZdM X T i t k
 | .makeSlice t l c=>Zb5 X T i t l c k
 | .slice t x lo hi mx=>Zhh X T t x lo hi mx k
 | .fieldAddr t x f=>Zb7 X T t x f k
 | .field t x f=>Zhk X T t x f k
 | .indexAddr t x ix=>Zb6 X T t x ix k
 | .index t x ix=>Zhj X T t x ix k
 | .lookup t m q ok=>Zfy X T t m q ok k
 | .mapUpdate t m q v=>Za7 X T t m q v k
 | .insert t m q v=>Za7 X T t m q v k
 | .range t x=>Zhi X T i t x k
 | .next it true=>ZjW X T it k
 | .entry it=>Zhl X T it k
 | .extract x ix=>ZdN X T x ix k
 | .call {callee:= .builtin b,args,argTypes}=>match b,args.toList,argTypes.toList with
  | .len,[x],[t]=>Zmd X T t x k
  | .append,[s,x],[t,u]=>ZfB X T i t u s x k
  | .copy,[d,s],[t,u]=>ZjZ X T t u d s k
  | .max,xs,ts=>opMM X T true xs ts k
  | .min,xs,ts=>opMM X T false xs ts k
  | .delete,[m,q],[t,u]=>Zfz X T t u m q k
  |_,_,_=>none
 |_=>none
end
end Eng
namespace Eng
open Go
section
variable {U:Zc} {R:Type} {X:ZF U} {T:TS U} {i ty:Nat} {k:Zi U→Option R} {r:R}
def Snd (X:ZF U) (T:TS U) (i:Nat) (op:Op) (ty:Nat) (k:Zi U→Option R) (r:R):Prop:=
 ∃e cs,Ze X.E T.ep i op ty T.enc.slots T.enc.objs=some (e.enc cs)∧(∀q∈cs,q=true)∧ZO T i e∧k e=some r
theorem Zeg:∀{cs:List Bool} {k:Option R},chkL cs k=some r→(∀q∈cs,q=true)∧k=some r
 | [],k,h=>⟨by simp,h⟩
 |b::cs,k,h=>by obtain⟨h1,h2⟩:=Zh h;obtain⟨h3,h4⟩:=Zeg h2;exact⟨fun q hq=>by rcases Znj.1 hq with rfl |hq;(·exact h1);exact h3 q hq,h4⟩
theorem ZA (hT:T.Inv) {t:Nat} {x:Operand} {d:TV U} (h:evT X T.slots t x=some d):d.inv T.objs:=by
 have nil:∀d:TV U,d.fulls=[]→d.inv T.objs:=fun d hd q hq=>by rw[hd]at hq;simp at hq
 unfold evT at h;split at h
 ·cases h;exact hT.slots _
 ·cases h;exact nil _ rfl
 ·cases h;exact nil _ rfl
 ·cases h;exact nil _ rfl
 ·split at h;rotate_left;simp at h;split at h;rotate_left;simp at h;cases h;exact nil _ rfl
 ·cases h;exact nil _ rfl
 ·cases h;exact nil _ rfl
 ·split at h;rotate_left;simp at h;split at h;rotate_left;simp at h;cases h;exact nil _ rfl
 ·cases h;exact nil _ rfl
 ·split at h;rotate_left;simp at h;cases h;exact nil _ rfl
 ·simp at h
theorem Zb (hX:TOk X) {t:Nat} {x:Operand} {d:TV U} (h:evT X T.slots t x=some d):ev X.E T.enc.slots t x=d.enc:=Zmz hX h
theorem Zd {id:Id} {o:TO U} (h:T.objs id=some o):T.enc.objs id=some o.enc:=by simp[TS.enc,ZiL,h]
theorem Zag {lk:Id→Option (TO U)} (t:Ty) (x:El U.car t):(TV.v t x:TV U).inv lk:=fun q hq=>by simp[TV.fulls]at hq
theorem Zf {lk:Id→Option (TO U)} {d:TV U} (h:d.fulls=[]):d.inv lk:=fun q hq=>by rw[h]at hq;simp at hq
theorem Zd0 {lk:Id→Option (TO U)} {d:TV U} (h:d.inv lk):∀c∈d.cells,c.inv lk:=fun c hc q hq=>h q (ZhF ⟨c,hc,hq⟩)
theorem ZgB {lk:Id→Option (TO U)} {n:Option Nat} {cs:List (TV U)} (h:∀c∈cs,c.inv lk):(ZdT n cs).inv lk:=fun q hq=>by obtain⟨d,hd,hq⟩:=Zgq n cs hq;exact h d hd q hq
theorem ZaS (cs:List (TV U)):(TO.box cs).enc= .box (TV.encs cs):=rfl
theorem ZI (t:Ty) (xs:List (El U.car t)) (fix:Bool):(TO.arr t xs fix:TO U).enc= .arr (U.tsize t) (xs.map (U.encE t)) fix:=rfl
theorem Z8 (a b:Ty) (kv:List (El U.car a×El U.car b)):(TO.map a b kv:TO U).enc= .map a.td (kv.map fun e=>(U.encE a e.1,U.encE b e.2)):=rfl
theorem ZbY (s:List UInt8) (p:Nat):(TO.sit s p:TO U).enc= .sit s p:=rfl
theorem Zbz (a b:Ty) (kv:List (El U.car a×El U.car b)) (c:Option (El U.car a×El U.car b)):(TO.mit a b kv c:TO U).enc= .mit (kv.map fun e=>(U.encE a e.1,U.encE b e.2)) (c.map fun e=>(U.encE a e.1,U.encE b e.2)):=rfl
theorem ZaU:(TO.gone:TO U).enc= .gone:=rfl
theorem Ze6 (t:Ty) (c:Nat) (u:Ty) (xs:List (El U.car t)) (lo:Nat) (out:Option Nat):(TO.own t c u xs lo out:TO U).enc= .own (U.tsize t) c (U.tsize u) (xs.map (U.encE t)) lo out:=rfl
theorem Zkf (f:Nat) (a b:List D):(∃x y,fnD f a b= .p (.fn f x y))∨fnD f a b= .fn f a b:=by
 unfold fnD;split
 ·exact .inl ⟨_,_,rfl⟩
 ·exact .inr rfl
theorem ZkU (hX:TOk X) (hT:T.Inv) {x:Operand} (h:ZjX X T ty x k=some r):Snd X T i (.move x) ty k r:=by unfold ZjX at h;split at h;rotate_left;simp at h;rename_i d hd;exact⟨_,[],by simp only[Ze,Zb hX hd,Zi.enc,Zoa],by simp,ZO.pure (ZA hT hd),h⟩
theorem ZiD (hX:TOk X) (hT:T.Inv) {x:Operand} (h:ZfA X T i ty x k=some r):Snd X T i (.assign x) ty k r:=by
 unfold ZfA at h;split at h
 ·rename_i t hd;refine⟨_,[], ?_,by simp, ?_,h⟩
  ·simp only[Ze,Zb hX hd,Zi.enc,TV.enc,Zoa,Znh,ZaS,ZI,Z8,ZbY,Zbz,ZaU]
  ·refine⟨by simp,fun _ q hq=> ?_,fun _ o ho=> ?_⟩
   ·simp only[TV.fulls,Znm]at hq;subst hq;refine⟨.arr t [] false,by simp[lkA,TS.objL,upd],fun n he=> ?_⟩;cases he;rfl
   ·rcases ho with ⟨k',hk⟩ |⟨id,hk⟩
    ·simp only[Znm,Znw]at hk;obtain⟨_,rfl⟩:=hk;trivial
    ·simp at hk
 ·rename_i d hne hd;refine⟨_,[], ?_,by simp,ZO.pure (ZA hT hd),h⟩;simp only[Ze,Zb hX hd];split
  ·rename_i sz he;exfalso;cases d<;>simp only[TV.enc,reduceCtorEq]at he
   ·exact hne _ rfl
   ·unfold D.mkAgg at he;split at he<;>simp at he
   ·unfold fnD at he;split at he<;>simp at he
  ·rfl
 ·simp at h
theorem ZkS (hX:TOk X) (hT:T.Inv) {c x y:Operand} (h:ZjV X T ty c x y k=some r):Snd X T i (.pick c x y) ty k r:=by
 unfold ZjV at h;split at h;rotate_left;simp at h;rename_i b u v hb hu hv;cases b
 ·exact⟨_,[],by simp only[Ze,Zb hX hb,Zb hX hu,Zb hX hv,TV.enc,Zc.encE,Zi.enc,Zoa];rfl,by simp,ZO.pure (ZA hT hv),h⟩
 ·exact⟨_,[],by simp only[Ze,Zb hX hb,Zb hX hu,Zb hX hv,TV.enc,Zc.encE,Zi.enc,Zoa];rfl,by simp,ZO.pure (ZA hT hu),h⟩
theorem ZdB (ep i:Nat):∀(k:Nat) (ds:List (TV U)),TV.encs (ZcH ep i k ds)=ZeJ ep i k (TV.encs ds)
 |k,[]=>rfl
 |k,d::r=>by
  cases d<;>simp only[ZcH,TV.encs,TV.enc,ZeJ,ZdB ep i (k+1) r]
  ·unfold D.mkAgg;split<;>simp only[ZeJ]
  ·unfold fnD;split<;>simp only[ZeJ]
theorem Zfm {k:Nat} {d:D} {r:List D} (h:∀sz,d≠ .nils sz):ZU k (d::r)=ZU (k+1) r:=by cases d<;>first |rfl |exact absurd rfl (h _)
theorem Zbl:∀(k:Nat) (ds:List (TV U)),(ZJ k ds).map (fun x=>(x.1,x.2.enc))=ZU k (TV.encs ds)
 |k,[]=>rfl
 |k,d::r=>by
  have ih:=Zbl (k+1) r;cases d
  case nils t=>rw[ZJ,Znh,ih];rfl
  all_goals
   rw[ZJ,ih,TV.encs,Zfm]
   ·intro sz hq;simp only[TV.enc,reduceCtorEq]at hq<;>first |(unfold D.mkAgg at hq;split at hq<;>simp at hq) |(unfold fnD at hq;split at hq<;>simp at hq)
   all_goals (intros;simp_all)
theorem Zab:∀(k:Nat) (ds:List (TV U)) (j:Nat) (o:TO U),(j,o)∈ZJ k ds→k≤j∧∃t,o= .arr t [] false
 |k,[],j,o,h=>by simp[ZJ]at h
 |k,d::r,j,o,h=>by
  cases d
  case nils t=>
   simp only[ZJ,Znj,Znw]at h;rcases h with ⟨rfl,rfl⟩ |h
   ·exact⟨Znq _,t,rfl⟩
   ·have:=Zab (k+1) r j o h;exact⟨by omega,this.2⟩
  all_goals
   simp only[ZJ]at h;have:=Zab (k+1) r j o h;exact⟨by omega,this.2⟩
theorem ZdA (ep i:Nat):∀(k:Nat) (ds:List (TV U)) (d:TV U),d∈ZcH ep i k ds→d∈ds∨∃j t,d= .full (ep,i,j) 0∧(j,TO.arr t [] false)∈ZJ k ds
 |k,[],d,h=>by simp[ZcH]at h
 |k,x::r,d,h=>by
  cases x
  case nils t=>
   simp only[ZcH,Znj]at h;rcases h with rfl |h
   ·exact .inr ⟨k,t,rfl,by simp[ZJ]⟩
   ·rcases ZdA ep i (k+1) r d h with h |⟨j,t',h1,h2⟩
    ·exact .inl (ZnR _ h)
    ·exact .inr ⟨j,t',h1,by simp[ZJ,h2]⟩
  all_goals
   simp only[ZcH,Znj]at h;rcases h with rfl |h
   ·exact .inl List.mem_cons_self
   ·rcases ZdA ep i (k+1) r d h with h |⟨j,t',h1,h2⟩
    ·exact .inl (ZnR _ h)
    ·exact .inr ⟨j,t',h1,by simp only[ZJ];exact h2⟩
theorem Zgm:∀(l:List (Id×TO U)) (T:TS U) (id:Id),(∃o,(id,o)∈l)→(∀o,(id,o)∈l→∀n,o.len?=some n→n=0)→Zgs (T.objL l).objs (id,0)
 | [],T,id,h,_=>by simp at h
 |(a,u)::l,T,id,h,hz=>by
  simp only[TS.objL]
  by_cases hm:∃o,(id,o)∈l
  ·exact Zgm l _ id hm fun o ho=>hz o (ZnR _ ho)
  ·obtain⟨o,ho⟩:=h;rcases Znj.1 ho with ho |ho
   ·simp only[Znw]at ho;obtain⟨rfl,rfl⟩:=ho;have key:∀(l:List (Id×TO U)) (T:TS U),(¬∃o,(id,o)∈l)→(T.objL l).objs id=T.objs id:=by
     intro l
     induction l with
     |nil=>intro T _;rfl
     |cons x l ih=>
      obtain⟨b,v⟩:=x;intro T hn;simp only[TS.objL];rw[ih _ (fun⟨o,ho⟩=>hn ⟨o,ZnR _ ho⟩)];simp only[upd];split
      ·rename_i he;subst he;exact absurd ⟨v,List.mem_cons_self⟩ hn
      ·rfl
    refine⟨o, ?_,fun n he=>hz o List.mem_cons_self n he⟩;rw[key l _ hm];simp[upd]
   ·exact absurd ⟨o,ho⟩ hm
theorem ZgG (hT:T.Inv) {k0:Nat} {ds:List (TV U)} (hds:∀d∈ds,d.inv T.objs) {e:Zi U} (hval:e.val.fulls=[]) (hwr:∀id o,(id,o)∈e.wr→∃cs,o= .box cs∧∀d∈cs,d∈ZcH T.ep i k0 ds∨d.inv T.objs)
  (hnew:∀j o,(j,o)∈e.new→(∃cs,o= .box cs∧∀d∈cs,d∈ZcH T.ep i k0 ds∨d.inv T.objs)∨(j,o)∈ZJ k0 ds) (hin:∀j o,(j,o)∈ZJ k0 ds→(j,o)∈e.new) (h0:∀j o,(j,o)∈e.new→∀o',(j,o')∈ZJ k0 ds→∃t,o= .arr t [] false):ZO T i e:=by
 have hw:∀id o,(id,o)∈e.wr→ZcV (T.objs id) o:=fun id o hm n he=>by obtain⟨cs,rfl,_⟩:=hwr id o hm;simp[TO.len?]at he
 have box:fresh T i e=true→∀d,d∈ZcH T.ep i k0 ds∨d.inv T.objs→d.inv (lkA T i e):=fun hf d hd=>by
  rcases hd with hd |hd
  ·rcases ZdA _ _ _ _ _ hd with hd |⟨j,t,rfl,hm⟩
   ·exact TV.inv_old hf hw (hds d hd)
   ·intro q hq;simp only[TV.fulls,Znm]at hq;subst hq;refine Zgm _ _ _ ⟨.arr t [] false,ZnT.2 ⟨_,hin _ _ hm,rfl⟩⟩ fun o ho n he=> ?_
    obtain⟨x,hx,hq⟩:=ZnT.1 ho;simp only[Znw,true_and]at hq;obtain⟨rfl,rfl⟩:=hq;obtain⟨t2,h2⟩:=h0 _ _ hx _ hm;rw[h2]at he;cases he;rfl
  ·exact TV.inv_old hf hw hd
 refine⟨hw,fun _=>Zf hval,fun hf o ho=> ?_⟩;rcases ho with ⟨j,hm⟩ |⟨id,hm⟩
 ·rcases hnew j o hm with ⟨cs,rfl,hc⟩ |hm
  ·exact fun d hd=>box hf d (hc d hd)
  ·obtain⟨_,t,rfl⟩:=Zab _ _ _ _ hm;trivial
 ·obtain⟨cs,rfl,hc⟩:=hwr id o hm;exact fun d hd=>box hf d (hc d hd)
theorem Zin (hT:T.Inv) {ds:List (TV U)} (hds:∀d∈ds,d.inv T.objs):ZO T i (Ze9 T i ds):=by
 refine ZgG (k0:=1) hT hds rfl (by simp[Ze9]) (fun j o hm=> ?_) (fun j o hm=>ZnR _ hm) (fun j o hm o' hm'=> ?_)
 ·rcases Znj.1 hm with hm |hm
  ·simp only[Znw]at hm;obtain⟨rfl,rfl⟩:=hm;exact .inl ⟨_,rfl,fun d hd=> .inl hd⟩
  ·exact .inr hm
 ·rcases Znj.1 hm with hm |hm
  ·simp only[Znw]at hm;have:=(Zab _ _ _ _ hm').1;omega
  ·exact(Zab _ _ _ _ hm).2
theorem Ze8 (T:TS U) (i:Nat) (ds:List (TV U)):(Ze9 T i ds).enc []={val:= .ptr (T.ep,i,0) 0 0,new:=(0,.box (ZeJ T.ep i 1 (TV.encs ds)))::ZU 1 (TV.encs ds)}:=by simp only[Ze9,Zi.enc,TV.enc,Znh,ZaS,ZI,Z8,ZbY,Zbz,ZaU,ZdB,Zbl,Zoa]
theorem ZjL (hX:TOk X) (hT:T.Inv) {t:Nat} (h:Zhn X T i t k=some r):Snd X T i (.alloc t) ty k r:=by unfold Zhn at h;split at h;rotate_left;simp at h;rename_i e he;refine⟨_,[], ?_,by simp,Zin hT (fun d hd=>Zf (hX.inv t e he d hd)),h⟩;rw[Ze8];simp only[Ze,Zs he,←hX.zero t e he]
theorem Zak (ds:List (TV U)):(TV.encs ds).length=ds.length:=by rw[Zah,Zn6]
theorem Zl2 (hU:UOk U) (hX:TOk X) (hT:T.Inv) {t:Nat} {x:Operand} (h:Zme X T i t x k=some r):Snd X T i (.box t x) ty k r:=by unfold Zme at h;split at h;rotate_left;simp at h;rename_i e d he hd;split at h;rotate_left;simp at h;rename_i hc;refine⟨_,[], ?_,by simp,Zin hT (Zd0 (ZA hT hd)),h⟩;rw[Ze8];simp only[Ze,Zs he,Zb hX hd,←Zei hU,Zak,hc.1,ZfC hc.2,and_self,if_true]
theorem ZcJ {α β:Type} (f:α→β) (xs ys:List α) (j:Nat):(ZT xs j ys).map f=ZT (xs.map f) j (ys.map f):=by simp only[ZT,Zn7,Zob,Zn8,Zn6]
theorem Zed (xs ys:List (TV U)) (j:Nat):TV.encs (ZT xs j ys)=ZT (TV.encs xs) j (TV.encs ys):=by simp only[Zah,ZcJ]
theorem Zki (xs:List (TV U)) (n:Nat):TV.encs (xs.take n)=(TV.encs xs).take n:=by simp only[Zah,Zob]
theorem Zby (xs:List (TV U)) (n:Nat):TV.encs (xs.drop n)=(TV.encs xs).drop n:=by simp only[Zah,Zn8]
theorem ZeM {α:Type} {xs ys:List α} {j:Nat} {a:α} (h:a∈ZT xs j ys):a∈xs∨a∈ys:=by
 simp only[ZT,Zni]at h;rcases h with (h |h) |h
 ·exact .inl (List.mem_of_mem_take h)
 ·exact .inr h
 ·exact .inl (Zod h)
theorem Zd8 (hU:UOk U) (hX:TOk X) (hT:T.Inv) {e:TT U}:∀(parts:List (Nat×Operand)) (cs ds:List (TV U)),(∀c∈cs,c.inv T.objs)→Zd9 X T.slots e parts cs=some ds→
  ZbX X.E T.enc.slots e.ti parts (TV.encs cs)=some (TV.encs ds)∧∀d∈ds,d.inv T.objs
 | [],cs,ds,hi,h=>by simp only[Zd9,Znv]at h;subst h;exact⟨rfl,hi⟩
 |(j,x)::r,cs,ds,hi,h=>by simp only[Zd9]at h;split at h;rotate_left;simp at h;rename_i off t hp;split at h;rotate_left;simp at h;rename_i tp d htp hd;split at h;rotate_left;simp at h;rename_i hc;have:=Zd8 hU hX hT r _ ds (fun c hcm=>by rcases ZeM hcm with hm |hm;(·exact hi c hm);exact Zd0 (ZA hT hd) c hm) h;refine⟨?_,this.2⟩;rw[Zed]at this;simp only[ZbX,hp,Zs htp,Zb hX hd,←Zei hU,Zak,hc.1,ZfC hc.2.2,true_and,and_true];rw[if_pos (by rw[←hc.1];exact hc.2.1)];exact this.1
theorem ZjK (hU:UOk U) (hX:TOk X) (hT:T.Inv) {t:Nat} {parts:Array (Nat×Operand)} (h:Zhm X T t parts.toList k=some r):Snd X T i (.build t parts) ty k r:=by unfold Zhm at h;split at h;rotate_left;simp at h;rename_i e he;split at h;rotate_left;simp at h;rename_i hn;split at h;rotate_left;simp at h;rename_i cs hcs;obtain⟨q1,q2⟩:=Zd8 hU hX hT _ _ _ (fun c hc=>Zf (hX.inv t e he c hc)) hcs;refine⟨_,[], ?_,by simp,ZO.pure (ZgB q2),h⟩;rw[hX.zero t e he]at q1;simp only[Ze,Zs he,hX.agg t e he,hn,if_true,q1,Zi.enc,ZeT hU,Zoa]
theorem ZS {l:Lf U.car} {t:Ty} {x:El U.car t} (h:l.as t=some x):l=⟨t,x⟩:=by unfold Lf.as at h;split at h;rotate_left;simp at h;rename_i he;obtain⟨t',y⟩:=l;dsimp only at he;subst he;cases h;rfl
theorem ZbZ (hU:UOk U) (l:Lf U.car):(U.encL l).cells.length=U.tsize l.t:=by simp only[Zc.encL,ZaB hU,Zn6,ZbN hU]
theorem ZbW (hU:UOk U) (hX:TOk X) (hT:T.Inv) {t n:Nat} {e:TT U}:∀(parts:List (Nat×Operand)) (es es':List (El U.car e.ty)),es.length=n→ZaY X T t e n parts es=some es'→
  ZH X.E T.enc.slots T.enc.objs t e.ti parts (es.map (U.encE e.ty))=some (es'.map (U.encE e.ty))∧es'.length=n
 | [],es,es',hl,h=>by simp only[ZaY,Znv]at h;subst h;exact⟨rfl,hl⟩
 |(j,x)::r,es,es',hl,h=>by
  simp only[ZaY]at h;split at h;rotate_left;simp at h;rename_i d hd;split at h;rotate_left;simp at h;rename_i l hlf;split at h;rotate_left;simp at h;rename_i y hy;split at h;rotate_left;simp at h;rename_i hc;have:=ZbW hU hX hT r _ es' (by simpa using hl) h;refine⟨?_,this.2⟩;have hl':=ZS hy;have ht:=Ze0 hU (ZA hT hd) hlf 7;have hcl:=ZbZ hU l;rw[hl']at ht hcl;simp only[ZH,Zb hX hd,depth,ht,Zc.encL]at hcl⊢
  rw[if_pos ⟨by rw[hcl];exact hc.1,by rw[Zn6,hl];exact hc.2⟩,←List.map_set];exact this.1
theorem Zba {t:Ty} {xs:List (El U.car t)} {n:Nat} {fix:Bool} {frz:List Id} {wr:List (Id×TO U)} (hn:xs.length=n) (hwr:∀id o,(id,o)∈wr→o= .gone):
  ZO T i {val:= .full (T.ep,i,0) n,new:=[(0,.arr t xs fix)],wr:=wr,frz:=frz}:=by
 refine⟨fun id o hm n he=> ?_,fun _ q hq=> ?_,fun _ o ho=> ?_⟩
 ·rw[hwr id o hm]at he;simp[TO.len?]at he
 ·simp only[TV.fulls,Znm]at hq;subst hq;refine⟨.arr t xs fix, ?_,fun n' he=> ?_⟩
  ·simp only[lkA,Znh,Zoa,TS.objL,upd,if_true]
  ·cases he;exact hn
 ·rcases ho with ⟨j,hk⟩ |⟨id,hk⟩
  ·simp only[Znm,Znw]at hk;obtain⟨_,rfl⟩:=hk;trivial
  ·rw[hwr id o hk];trivial
theorem ZgH {o:TO U} {n:Nat} {wr:List (Id×TO U)} (hn:∀m,o.len?=some m→m=n) (ho:∀lk,o.inv lk) (hwr:∀id o,(id,o)∈wr→ZcV (T.objs id) o∧∀lk,o.inv lk):
  ZO T i {val:= .full (T.ep,i,0) n,new:=[(0,o)],wr:=wr}:=by
 refine⟨fun id o hm=>(hwr id o hm).1,fun _ q hq=> ?_,fun _ o' ho'=> ?_⟩
 ·simp only[TV.fulls,Znm]at hq;subst hq;exact⟨o,by simp only[lkA,Znh,Zoa,TS.objL,upd,if_true],hn⟩
 ·rcases ho' with ⟨j,hk⟩ |⟨id,hk⟩
  ·simp only[Znm,Znw]at hk;obtain⟨_,rfl⟩:=hk;exact ho _
  ·exact(hwr id o' hk).2 _
theorem Zh1 (hU:UOk U) {n i':Nat} {xs:List (U.car n)} {y:U.car n} (hy:xs[i']? =some y):(xs.map (U.encE (.st n)))[i']? =some (.agg ((U.cells n y).map U.encL)):=by rw[Znf,hy];simp only[Zoe,Zc.encE,hU.enc_cells]
theorem Zey (hU:UOk U) (hX:TOk X) (hT:T.Inv) {t n:Nat} {parts:Array (Nat×Operand)} (h:Zbr X T i t n parts.toList k=some r):Snd X T i (.buildSlice t n parts) ty k r:=by unfold Zbr at h;split at h;rotate_left;simp at h;rename_i e0 he0;split at h;rotate_left;simp at h;rename_i u hu;split at h;rotate_left;simp at h;rename_i e he;split at h;rotate_left;simp at h;rename_i z0 hz0;split at h;rotate_left;simp at h;rename_i z hz;split at h;rotate_left;simp at h;rename_i es hes;split at h;rotate_left;simp at h;rename_i hc;obtain⟨q1,q2⟩:=ZbW hU hX hT _ _ _ (by simp) hes;refine⟨_,[], ?_,by simp,Zba q2 (by simp),h⟩;have hzp:=hX.zl u e z0 he hz0;rw[ZS hz]at hzp;rw[List.map_replicate,show U.encE e.ty z=e.ti.zeroP from hzp]at q1;have:=Zs he0;obtain⟨⟨d,a,b,c⟩,a',b',c',d'⟩:=e0;dsimp only at hu;subst hu;simp only[Ze,this,Zs he,q1,hc.1,hc.2.1,and_self,if_true,Zi.enc,TV.enc,Znh,Zoa,ZaS,ZI,Z8,ZbY,Zbz,ZaU,hc.2.2]
theorem Zcp (hU:UOk U) (hX:TOk X) {t:Nat} {e:TT U} (he:X.get t=some e) {cs:List (TV U)} {d:TV U} (h:ZcS e cs=some d):ZfG e.ti (TV.encs cs)=some d.enc:=by
 unfold ZcS at h;unfold ZfG;rw[hX.agg t e he];split at h
 ·rename_i hn;rw[if_pos hn];split at h;rotate_left;simp at h;rename_i hl;cases h;rw[if_pos (by rw[Zak];exact hl),ZeT hU,Zki]
 ·rename_i hn;rw[if_neg hn];cases cs with
  |nil=>simp at h
  |cons c r=>simp only[List.head?_cons,Znv]at h;subst h;rfl
theorem Zan {lk:Id→Option (TO U)} {e:TT U} {cs:List (TV U)} {d:TV U} (hc:∀c∈cs,c.inv lk) (h:ZcS e cs=some d):d.inv lk:=by
 unfold ZcS at h;split at h
 ·split at h;rotate_left;simp at h;cases h;exact ZgB fun c hm=>hc c (List.mem_of_mem_take hm)
 ·exact hc d (List.mem_of_mem_head? h)
theorem Zj6 (ti:TI) (ps:List P):ZfG ti (ps.map .p)=(Zdl ti ps).map .p:=by
 unfold ZfG Zdl;split
 ·rw[Zn6];split
  ·rw[←Zob,Zco];rfl
  ·rfl
 ·cases ps<;>rfl
theorem ZaJ (hU:UOk U) (hX:TOk X) {t:Nat} {e:TT U} (he:X.get t=some e) {ls:List (Lf U.car)} {d:TV U} (h:ZcS e (ls.map lv)=some d):∃x,Zdl e.ti (ls.map U.encL)=some x∧d.enc= .p x:=by
 have:=Zcp hU hX he h;rw[Zbx,Zj6]at this;cases hq:Zdl e.ti (ls.map U.encL)with
 |none=>rw[hq]at this;simp at this
 |some x=>rw[hq]at this;simp only[Zoe,Znv]at this;exact⟨x,rfl,this.symm⟩
theorem ZfJ {t:Ty} {xs:List (El U.car t)} {n:Nat} {x:El U.car t} (h:xs[n]? =some x):(xs.map (U.encE t)).getD n default=U.encE t x:=by rw[Zn3,Znf,h];rfl
theorem ZkV (hU:UOk U) (hX:TOk X) (hT:T.Inv) {t:Nat} {x:Operand} (h:ZjY X T i t x k=some r):Snd X T i (.load t x) ty k r:=by
 unfold ZjY at h;split at h
 ·rename_i e cs he hd;split at h;rotate_left;simp at h;rename_i d hl;obtain⟨x',h1,h2⟩:=ZaJ hU hX he hl;refine⟨_,[], ?_,by simp,ZO.pure (Zan (fun c hc=> ?_) hl),h⟩
  ·simp only[Ze,Zs he,Zb hX hd,TV.enc,h1,Zi.enc,h2,Zoa]
  ·obtain⟨l,_,rfl⟩:=ZnT.1 hc;exact Zag _ _
 ·rename_i e id i' j he hd;split at h
  ·rename_i cs ho;split at h;rotate_left;simp at h;rename_i h0;subst h0;split at h;rotate_left;simp at h;rename_i d hl;have:=Zcp hU hX he hl;rw[Zby]at this;refine⟨_,[], ?_,by simp,ZO.pure (Zan (fun c hc=>hT.objs id _ ho c (Zod hc)) hl),h⟩;simp only[Ze,Zs he,Zb hX hd,TV.enc,Zd ho,ZaS,ZI,Z8,ZbY,Zbz,ZaU,if_true,this,Zi.enc,Zoa]
  ·rename_i u xs fix ho;obtain⟨y,hy,h⟩:=bind_some h;split at h;rotate_left;simp at h;rename_i d hl;obtain⟨x',h1,h2⟩:=ZaJ hU hX he hl;refine⟨_,[], ?_,by simp,ZO.pure (Zan (fun c hc=> ?_) hl),h⟩
   ·rw[Zn8,←ZaB hU]at h1;simp only[Ze,Zs he,Zb hX hd,TV.enc,Zd ho,ZaS,ZI,Z8,ZbY,Zbz,ZaU,ZfJ hy,h1,Zi.enc,h2,Zoa]
   ·obtain⟨l,_,rfl⟩:=ZnT.1 hc;exact Zag _ _
  ·rename_i n c u xs lo out ho;obtain⟨y,hy,h⟩:=bind_some h;have hg:=Zh1 hU hy;split at h
   ·obtain⟨hlo,h⟩:=Zh h;split at h;rotate_left;simp at h;rename_i d hl;obtain⟨x',h1,h2⟩:=ZaJ hU hX he hl;rw[Zn8]at h1;refine⟨_,[], ?_,by simp,ZO.pure (Zan (fun c hc=> ?_) hl),h⟩
    ·simp only[Ze,Zs he,Zb hX hd,TV.enc,Zd ho,Ze6,hg,if_pos (of_decide_eq_true hlo),h1,Zi.enc,h2,Zoa]
    ·obtain⟨l,_,rfl⟩:=ZnT.1 hc;exact Zag _ _
   ·rename_i hns;split at h;rotate_left;simp at h;rename_i u' l hcl hx;split at h;rotate_left;simp at h;rename_i hcnd;obtain⟨rfl,rfl,hs⟩:=hcnd;obtain⟨hlo,h⟩:=Zh h;have hlo:=of_decide_eq_true hlo;refine⟨_,[], ?_,by simp,ZgH (o:= .arr u' l false) (fun m hm=>by simpa[TO.len?]using hm.symm) (fun _=>trivial) (fun id' o hm=> ?_),h⟩
    ·have hag:e.ti.isAgg=false:=by rw[hX.agg t e he];simpa using hns
     simp only[Ze,Zs he,Zb hX hd,TV.enc,Zd ho,Ze6,hg,if_neg (Nat.not_le.2 hlo),hs,hag,Zi.enc,Zoa,Znh,ZI];rw[Znf,hcl];simp only[Zoe,Zc.encL,Zc.encE,and_self,if_true,Zn6]
    ·simp only[Znm,Znw]at hm;obtain⟨rfl,rfl⟩:=hm;exact⟨fun m hm=>⟨_,ho,hm⟩,fun _=>trivial⟩
  ·simp at h
 ·simp at h
theorem ZjU {e x:P} {sz:Nat} (h:x.cells.length=sz):e.put sz 0 x=x:=by simp[P.put,h]
theorem ZjE (hU:UOk U) (hX:TOk X) (hT:T.Inv) {t:Nat} {a x:Operand} (h:Zhg X T i t a x k=some r):Snd X T i (.store t a x) ty k r:=by
 unfold Zhg at h;split at h;rotate_left;simp at h;rename_i e id i' j d he ha hd;split at h
 ·rename_i cs ho;split at h;rotate_left;simp at h;rename_i hc;obtain⟨rfl,h1,h2,h3⟩:=hc;refine⟨_,[], ?_,by simp, ?_,h⟩
  ·simp only[Ze,Zs he,Zb hX ha,Zb hX hd,TV.enc,Zd ho,ZaS,ZI,Z8,ZbY,Zbz,ZaU,←Zei hU,Zak,h1,ZfC h3,true_and,and_true,Zi.enc,Zbl,Znh,Zoa,Zed,ZdB];rw[if_pos (by rw[←h1];exact h2)]
  ·refine ZgG (k0:=0) hT (Zd0 (ZA hT hd)) rfl (fun id' o hm=> ?_) (fun j' o hm=> .inr hm) (fun _ _ hm=>hm) (fun j' o hm _ _=>(Zab _ _ _ _ hm).2);simp only[Znm,Znw]at hm;obtain⟨rfl,rfl⟩:=hm;refine⟨_,rfl,fun d' hd'=> ?_⟩;rcases ZeM hd' with hm |hm
   ·exact .inr (hT.objs _ _ ho d' hm)
   ·exact .inl hm
 ·rename_i u xs fix ho;split at h;rotate_left;simp at h;rename_i l hl;split at h;rotate_left;simp at h;rename_i hc;have ht:=Ze0 hU (ZA hT hd) hl 7;have hcl:=ZbZ hU l;have hset:∀y:El U.car u,U.encE u y=((xs.map (U.encE u)).getD i' default).put (U.tsize u) j (U.encL l)→ZO T i {val:=TV.undef,wr:=[(id,.arr u (xs.set i' y) fix)],frz:=d.enc.ids T.enc.objs depth}:=fun y _=>
   ⟨fun id' o hm n' he'=>by
    simp only[Znm,Znw]at hm;obtain⟨rfl,rfl⟩:=hm;cases he';exact⟨_,ho,by simp[TO.len?]⟩,fun _=>Zf rfl,fun _ o hm=>by
    rcases hm with ⟨_,hm⟩ |⟨_,hm⟩
    ·simp at hm
    ·simp only[Znm,Znw]at hm;obtain⟨_,rfl⟩:=hm;trivial⟩
  have hcore:∀y:El U.car u,U.encE u y=((xs.map (U.encE u)).getD i' default).put (U.tsize u) j (U.encL l)→Ze X.E T.ep i (.store t a x) ty T.enc.slots T.enc.objs=some (({val:=TV.undef,wr:=[(id,.arr u (xs.set i' y) fix)],frz:=d.enc.ids T.enc.objs depth}:Zi U).enc []):=fun y hy=>by simp only[Ze,Zs he,Zb hX ha,Zb hX hd,TV.enc,Zd ho,ZaS,ZI,Z8,ZbY,Zbz,ZaU,depth,ht,hcl,hc.1,hc.2.1,hc.2.2,and_self,if_true,Zi.enc,Zoa,Znh,List.map_set,hy]
  split at h
  ·rename_i hw;obtain⟨rfl,hs⟩:=hw;split at h;rotate_left;simp at h;rename_i y hy;have hyy:=ZS hy;have:U.encE u y=((xs.map (U.encE u)).getD i' default).put (U.tsize u) 0 (U.encL l):=by rw[ZjU (by rw[hcl,hs]),hyy];rfl
   exact⟨_,[],hcore y this,by simp,hset y this,h⟩
  ·rename_i hw;obtain⟨z,hz,h⟩:=bind_some h;split at h;rotate_left;simp at h;rename_i y hy;have:U.encE u y=((xs.map (U.encE u)).getD i' default).put (U.tsize u) j (U.encL l):=by
    rw[ZfJ hz];have hcy:=ZaI hU hy;have e1:=ZaB hU u y;rw[hcy,ZcJ,←ZaB hU,←ZaB hU]at e1;unfold P.put;rw[if_neg (by rw[hcl];exact hw)];cases u with
    |st n=>
     simp only[Zc.encE,hU.enc_cells,P.cells]at e1⊢
     rw[e1];rfl
    |_=>
     exfalso;have:U.tsize l.t=1∧j=0:=by have h1:=hc.1;have h2:=hc.2.1;have h3:=hc.2.2;simp only[Zc.tsize]at h2;constructor<;>omega
     exact hw ⟨this.2,this.1⟩
   exact⟨_,[],hcore y this,by simp,hset y this,h⟩
 ·rename_i n c u xs lo out ho;split at h;rotate_left;simp at h;rename_i id2 m;split at h;rotate_left;simp at h;rename_i u' l ho2;split at h;rotate_left;simp at h;rename_i hcnd;obtain⟨rfl,rfl,hs,hnn⟩:=hcnd;obtain⟨hout,h⟩:=Zh h;obtain⟨y,hy,h⟩:=bind_some h;split at h;rotate_left;simp at h;rename_i z hz;have hg:=Zh1 hU hy;obtain⟨o,h1,h2⟩:=ZA hT hd (id2,m) (by simp[TV.fulls]);dsimp only at h1;rw[ho2,Znv]at h1;have hm:Zn4 l=m:=h2 _ (by rw[←h1];rfl);have hag:e.ti.isAgg=false:=by rw[hX.agg t e he];simpa using hnn
  have hne:id2≠id:=fun e=>by rw[e,ho]at ho2;cases ho2
  have hzc:U.encE (.st n) z= .agg (List.set ((U.cells n y).map U.encL) j (.sl (U.tsize u') (l.map (U.encE u')))):=by rw[Zc.encE,hU.enc_cells,hU.of_cells _ _ _ hz,List.map_set];rfl
  have hou:(out=some i'∧i' < lo∨out=none∧lo=i'):=by
   cases out with
   |none=>exact .inr ⟨rfl,of_decide_eq_true hout⟩
   |some i0=>have:=of_decide_eq_true hout;exact .inl ⟨by rw[this.1],this.2⟩
  refine⟨_,[], ?_,by simp,⟨fun id' o hm=> ?_,fun _=>Zf rfl,fun _ o hm=> ?_⟩,h⟩
  ·simp only[Ze,Zs he,Zb hX ha,Zb hX hd,TV.enc,Zd ho,Zd ho2,Ze6,ZI,hg,Zn6,hm,hs,hag,hne,ne_eq,not_false_eq_true,and_self,and_true,hou,if_true,Zi.enc,Zoa,Znh,List.map_set,hzc,ZaU]
  ·simp only[Znj,Znw,List.not_mem_nil,or_false]at hm;rcases hm with ⟨rfl,rfl⟩ |⟨rfl,rfl⟩
   ·exact fun k hk=>⟨_,ho,by simpa[TO.len?]using hk⟩
   ·exact fun k hk=>by simp[TO.len?]at hk
  ·rcases hm with ⟨_,hm⟩ |⟨_,hm⟩
   ·simp at hm
   ·simp only[Znj,Znw,List.not_mem_nil,or_false]at hm;rcases hm with ⟨_,rfl⟩ |⟨_,rfl⟩<;>trivial
 ·simp at h
theorem Zf7 (hX:TOk X) (hT:T.Inv) {x:Operand} (h:ZcP X T x k=some r):Snd X T i (.nilCheck x) ty k r:=by
 unfold ZcP at h;split at h
 ·rename_i cs hd;exact⟨_,[],by simp only[Ze,Zb hX hd,TV.enc,Zi.enc,Zoa],by simp,ZO.pure (Zf rfl),h⟩
 ·rename_i id a b hd;exact⟨_,[],by simp only[Ze,Zb hX hd,TV.enc,Zi.enc,Zoa],by simp,ZO.pure (Zf rfl),h⟩
 ·rename_i f a b hd;refine⟨_,[], ?_,by simp,ZO.pure (ZA hT hd),h⟩;simp only[Ze,Zb hX hd,TV.enc,Zi.enc,Zoa];rcases Zkf f (TV.encs a) (TV.encs b)with ⟨u,v,hq⟩ |hq<;>rw[hq]
 ·simp at h
end
end Eng
namespace Eng
open Go
section
variable {U:Zc} {R:Type} {X:ZF U} {T:TS U} {i ty:Nat} {k:Zi U→Option R} {r:R}
theorem Zu {b:Bool} (h:b=true):∀q∈[b],q=true:=fun q hq=>by rw[Znm]at hq;rw[hq];exact h
theorem Zcv {p:P} {d:TV U} (h:ZmB p=some d):d.enc= .p p∧d.fulls=[]:=by unfold ZmB at h;split at h<;>first |(cases h;exact⟨rfl,rfl⟩) |simp at h
theorem ZdY {d:TV U} {p:P} (h:ZiU d=some p):d.enc= .p p∧(∀cs,p≠ .agg cs):=by unfold ZiU at h;split at h<;>first |(cases h;exact⟨rfl,by simp⟩) |simp at h
theorem Ziy (hU:UOk U) {d:TV U} {ps:List P} (h:aggP d=some ps):d.enc= .p (.agg ps):=by
 unfold aggP at h;split at h
 ·cases h;simp only[TV.enc,Zc.encE,hU.enc_cells]
 ·split at h;rotate_left;simp at h;rename_i ls hls;cases h;rw[ZcF hls,TV.enc,Zbx,Zco]
 ·simp at h
theorem Zl3 (hU:UOk U) (hX:TOk X) (hT:T.Inv) {b:BinOp} {t u0:Nat} {x y:Operand} (h:Zmf X T b t x y k=some r):Snd X T i (.binOp b t x y u0) ty k r:=by
 unfold Zmf at h;split at h
 ·rename_i hn;unfold opNil at h;split at h
  ·rename_i e z he hd;have nc:∀td,td=TD.func→Zde td (.const .nilFunc) (.p (Zkk z))=some (.p (.bool (Option.isNone z))):=fun td htd=>by subst htd;cases z<;>rfl
   split at h
   ·rename_i htd;refine⟨_,[], ?_,by simp,ZO.pure (Zag _ _),h⟩;simp only[Ze,hn,if_true,Zt he,Zb hX hd,TV.enc,Zc.encE,nc _ htd,Zi.enc,Zoa]
   ·rename_i htd;refine⟨_,[], ?_,by simp,ZO.pure (Zag _ _),h⟩;simp only[Ze,hn,if_true,Zt he,Zb hX hd,TV.enc,Zc.encE,nc _ htd,D.notb,Zi.enc,Zoa]
   ·simp at h
  ·rename_i e d hne he hd;split at h;rotate_left;simp at h;rename_i z hz;split at h
   ·refine⟨_,[], ?_,by simp,ZO.pure (Zag _ _),h⟩;simp only[Ze,hn,if_true,Zt he,Zb hX hd,hz,Zi.enc,TV.enc,Zc.encE,Zoa]
   ·refine⟨_,[], ?_,by simp,ZO.pure (Zag _ _),h⟩;simp only[Ze,hn,if_true,Zt he,Zb hX hd,hz,D.notb,Zi.enc,TV.enc,Zc.encE,Zoa]
   ·simp at h
  ·simp at h
 ·rename_i hn;have hn':Operand.isNil y=false:=by simpa using hn
  split at h
  ·rename_i u v hu hv;split at h;rotate_left;simp at h;rename_i e z he hz;split at h;rotate_left;simp at h;rename_i d hd hz';obtain⟨q1,q2⟩:=Zcv hz';refine⟨_,[], ?_,by simp,ZO.pure (Zf q2),h⟩;simp only[Ze,hn',Zm9,if_false,Zb hX hu,Zb hX hv,TV.enc,Zc.encE,Zt he,hd,hz,Zi.enc,q1,Zoa]
  ·rename_i d d' hne hu hv;split at h
   ·rename_i us vs hus hvs;split at h;rotate_left;simp at h;rename_i z hz;split at h;rotate_left;simp at h;rename_i dz hdz;obtain⟨q1,q2⟩:=Zcv hdz;refine⟨_,[], ?_,by simp,ZO.pure (Zf q2),h⟩;simp only[Ze,hn',Zm9,if_false,Zb hX hu,Zb hX hv,Ziy hU hus,Ziy hU hvs,hz,Zi.enc,q1,Zoa]
   ·split at h;rotate_left;simp at h;rename_i p q hp hq;split at h;rotate_left;simp at h;rename_i z c hz;split at h;rotate_left;simp at h;rename_i dz hdz;obtain⟨q1,q2⟩:=Zcv hdz;obtain⟨hc,h⟩:=Zeg h;refine⟨_,c, ?_,hc,ZO.pure (Zf q2),h⟩;obtain⟨e1,e2⟩:=ZdY hp;obtain⟨e3,e4⟩:=ZdY hq;simp only[Ze,hn',Zm9,if_false,Zb hX hu,Zb hX hv,e1,e3];split
    ·rename_i a1 a2 e5 e6;cases e5;cases e6;exfalso;unfold ZiU at hp hq;split at hp<;>simp at hp;split at hq<;>simp at hq;subst hp hq;exact hne _ _ rfl rfl
    ·rename_i a1 a2 e5 e6;cases e5;exact absurd rfl (e2 _)
    ·rename_i a1 a2 e5 e6 e7 e8;cases e7;cases e8;simp only[hz,Zi.enc,q1,Zoa]
    ·rename_i h7 h8 h9;exact(h9 p q rfl rfl).elim
  ·simp at h
theorem snd_un (hX:TOk X) (hT:T.Inv) {u:UnOp} {t:Nat} {x:Operand} (h:opUn X T u x k=some r):Snd X T i (.unOp u t x) ty k r:=by unfold opUn at h;split at h;rotate_left;simp at h;rename_i d hd;split at h;rotate_left;simp at h;rename_i v hv;split at h;rotate_left;simp at h;rename_i z c hz;split at h;rotate_left;simp at h;rename_i dz hdz;obtain⟨q1,q2⟩:=Zcv hdz;obtain⟨hc,h⟩:=Zeg h;refine⟨_,c, ?_,hc,ZO.pure (Zf q2),h⟩;simp only[Ze,Zb hX hd,(ZdY hv).1,hz,Zi.enc,q1,Zoa]
theorem Zg9 (hX:TOk X) (hT:T.Inv) {s t:Nat} {x:Operand} (h:ZdO X T i s t x k=some r):Snd X T i (.convert s t x) ty k r:=by
 unfold ZdO at h;split at h;rotate_left;simp at h;rename_i es et d hes het hd;split at h
 ·rename_i k1 k2 k3 n h1 h2;refine⟨_,[], ?_,by simp,ZO.pure (Zag _ _),h⟩;simp only[Ze,Zaw,Zt hes,Zt het,Zb hX hd,h1,h2,TV.enc,Zc.encE,Zi.enc,Zoa]
 ·rename_i str h1 h2;refine⟨_,[], ?_,by simp,ZO.pure (Zag _ _),h⟩;simp only[Ze,Zaw,Zt hes,Zt het,Zb hX hd,h1,h2,TV.enc,Zc.encE,Zi.enc,Zoa]
 ·rename_i u str h1 h2;split at h;rotate_left;simp at h;rename_i eu heu;split at h;rotate_left;simp at h;rename_i h3;obtain⟨hc,h⟩:=Zh h;refine⟨_,[decide (str.length≤281474976710656)], ?_,Zu hc,Zba (by simp) (by simp),h⟩;simp only[Ze,Zaw,Zt hes,Zt het,Zt heu,Zb hX hd,h1,h2,h3,TV.enc,Zc.encE,Zi.enc,Zoa,Znh,ZI,Zc.tsize,ZaL,Zn9];rfl
 ·rename_i u d' h1 h2;split at h;rotate_left;simp at h;rename_i eu l heu hl;split at h;rotate_left;simp at h;rename_i xs h3 hxs;have hl':=ZS hxs;refine⟨_,[true], ?_,by simp,ZO.pure (Zag _ _),h⟩;have ht:=ZcU (ZA hT hd) hl 1;rw[hl']at ht;simp only[Ze,Zaw,Zt hes,Zt het,Zt heu,Zb hX hd,h1,h2,h3,ht,Zc.encL,Zc.encE,Zi.enc,TV.enc,Zoa,Zn9];have:(List.map (fun x=>P.int IntKind.u8 x) xs).all P.isU8=true:=by simp[P.isU8]
  rw[this];rfl
 ·simp at h
theorem Zhw (hX:TOk X):∀{xs:List Operand} {ds:List (TV U)},ZlO X T.slots xs=some ds→xs.map (ev X.E T.enc.slots 0)=TV.encs ds
 | [],ds,h=>by simp[ZlO,Zj]at h;subst h;rfl
 |x::xs,ds,h=>by simp only[ZlO,Zj]at h;split at h;rotate_left;simp at h;rename_i d ds' h1 h2;cases h;simp only[Znh,TV.encs,Zb hX h1,Zhw hX h2]
theorem ZfM (hT:T.Inv):∀{xs:List Operand} {ds:List (TV U)},ZlO X T.slots xs=some ds→∀d∈ds,d.inv T.objs
 | [],ds,h=>by simp[ZlO,Zj]at h;subst h;simp
 |x::xs,ds,h=>by
  simp only[ZlO,Zj]at h;split at h;rotate_left;simp at h;rename_i d ds' h1 h2;cases h;intro a ha;rcases Znj.1 ha with rfl |ha
  ·exact ZA hT h1
  ·exact ZfM hT h2 a ha
theorem Zf8 (hX:TOk X) (hT:T.Inv) {f:Nat} {a b:Array Operand} (h:ZcQ X T f a.toList b.toList k=some r):Snd X T i (.makeFunc (.func f) a b) ty k r:=by
 unfold ZcQ at h;split at h;rotate_left;simp at h;rename_i as bs ha hb;refine⟨_,[], ?_,by simp,ZO.pure ?_,h⟩
 ·simp only[Ze,Zhw hX ha,Zhw hX hb,Zi.enc,TV.enc,Zoa];rfl
 ·intro q hq;simp only[TV.fulls,Zni]at hq;rcases hq with hq |hq
  ·obtain⟨d,hd,hq⟩:=Zr.1 hq;exact ZfM hT ha d hd q hq
  ·obtain⟨d,hd,hq⟩:=Zr.1 hq;exact ZfM hT hb d hd q hq
theorem Zdw {d:TV U} {o:TO U} {frz:List Id} (hd:d.fulls=[]) (ho:∀lk,o.inv lk):ZO T i {val:=d,new:=[(0,o)],frz:=frz}:=
 ⟨by simp,fun _=>Zf hd,fun _ o' hm=>by
  rcases hm with ⟨j,hm⟩ |⟨id,hm⟩
  ·simp only[Znm,Znw]at hm;obtain⟨_,rfl⟩:=hm;exact ho _
  ·simp at hm⟩
theorem Zcc {d:TV U} {id:Id} {o:TO U} {frz:List Id} (hd:d.fulls=[]) (hk:ZcV (T.objs id) o) (ho:∀lk,o.inv lk):ZO T i {val:=d,wr:=[(id,o)],frz:=frz}:=
 ⟨fun id' o' hm=>by simp only[Znm,Znw]at hm;obtain⟨rfl,rfl⟩:=hm;exact hk,fun _=>Zf hd,fun _ o' hm=>by
  rcases hm with ⟨j,hm⟩ |⟨id,hm⟩
  ·simp at hm
  ·simp only[Znm,Znw]at hm;obtain⟨_,rfl⟩:=hm;exact ho _⟩
theorem Zg7 (hX:TOk X) (hT:T.Inv) {t:Nat} (h:ZdM X T i t k=some r):Snd X T i (.makeMap t none) ty k r:=by unfold ZdM at h;split at h;rotate_left;simp at h;rename_i e he;split at h;rotate_left;simp at h;rename_i kt vt hty;refine⟨_,[], ?_,by simp,Zdw rfl (fun _=>by trivial),h⟩;simp only[Ze,hX.key t e kt vt he hty,Zi.enc,TV.enc,Znh,Zoa,Z8,TS.enc]
theorem Zfo (hX:TOk X) (hT:T.Inv) {t:Nat} {l c:Operand} (h:Zb5 X T i t l c k=some r):Snd X T i (.makeSlice t l c) ty k r:=by
 unfold Zb5 at h;split at h;rotate_left;simp at h;rename_i e k1 a k2 b he hl hc;have hget:∃u,X.get u=some e:=by unfold ZF.elem at he;split at he;rotate_left;simp at he;split at he;rotate_left;simp at he;exact⟨_,he⟩
 obtain⟨u,hu⟩:=hget;have hfind:X.E.owns.find? (·.1 == t)=(X.owns.find? (·.t == t)).map fun q=>(q.t,q.c,U.tsize q.u):=by show (X.owns.map fun q=>(q.t,q.c,U.tsize q.u)).find? (·.1 == t)=_;rw[List.find?_map];rfl
 split at h
 ·rename_i q hq;split at h;rotate_left;simp at h;rename_i n z hz0;split at h;rotate_left;simp at h;rename_i hs;obtain⟨rfl,hn,hsz,hzn⟩:=hs;obtain⟨hcond,h⟩:=Zh h;have hzp:=hX.zl u e _ hu hz0;have hag:e.ti.isAgg=true:=by rw[hX.agg u e hu];exact hn
  have hlt:q.c < e.ti.size:=by rw[←hsz];exact(hX.own q (List.mem_of_find?_eq_some hq)).1
  have hzc:e.ti.zero[q.c]? =some (.nils (U.tsize q.u)):=by unfold zNil at hzn;split at hzn;rotate_left;simp at hzn;rename_i k' hk';rw[hk',eq_of_beq hzn]
  refine⟨_,[_], ?_,Zu hcond,ZgH (o:= .own (.st q.n) q.c q.u (List.replicate a.toNat z) a.toNat none) (fun m hm=>by simpa[TO.len?]using hm.symm) (fun _=>trivial) (by simp),h⟩;simp only[Ze,Zap he,Zb hX hl,Zb hX hc,TV.enc,Zc.encE,Zi.enc,Znh,Zoa,Ze6,List.map_replicate,hfind,hq,Zoe,hag,hlt,and_self,if_true,hzc];rw[←hzp];simp only[Zc.tsize,hsz,Zc.encL,Zc.encE]
 rename_i hq;split at h;rotate_left;simp at h;rename_i z0 hz0;split at h;rotate_left;simp at h;rename_i z hz;split at h;rotate_left;simp at h;rename_i hs;obtain⟨hcond,h⟩:=Zh h;refine⟨_,[_], ?_,Zu hcond,Zba (by simp) (by simp),h⟩;have hzp:=hX.zl u e z0 hu hz0;rw[ZS hz]at hzp;simp only[Ze,Zap he,Zb hX hl,Zb hX hc,TV.enc,Zc.encE,Zi.enc,Znh,Zoa,ZI,List.map_replicate,hs,hfind,hq,Option.map_none];rw[show U.encE e.ty z=e.ti.zeroP from hzp]
theorem ZbL (hX:TOk X) {x:Option Operand} {a:Option Int} (h:intT X T.slots x=some a):ZbU X.E T.enc.slots x=some a:=by
 unfold intT at h;split at h
 ·cases h;rfl
 ·rename_i x';split at h;rotate_left;simp at h;rename_i k' n hn;cases h;simp only[ZbU,Zb hX hn,TV.enc,Zc.encE]
theorem ZhD {α β:Type} (f:α→β) (xs:List α) (lo hi:Option Int):(cut xs lo hi).map f=cut (xs.map f) lo hi:=by unfold cut;split<;>simp
theorem Zks {α:Type} (xs:List α) (lo hi:Option Int) (n:Nat) (hn:n=xs.length):cut xs lo hi=(xs.take (hi.getD n).toNat).drop (lo.getD 0).toNat:=by subst hn;unfold cut;split<;>simp
theorem Za9 (hT:T.Inv) {t:Nat} {x:Operand} {id:Id} {n:Nat} (hd:evT X T.slots t x=some (.full id n)) {u:Ty} {xs:List (El U.car u)} {fix:Bool} (ho:T.objs id=some (.arr u xs fix)):n=xs.length:=by obtain⟨o,h1,h2⟩:=ZA hT hd (id,n) (by simp[TV.fulls]);dsimp only at h1;rw[ho,Znv]at h1;exact(h2 _ (by rw[←h1];rfl)).symm
theorem ZgE (hT:T.Inv) {t:Nat} {x:Operand} {id:Id} {n:Nat} (hd:evT X T.slots t x=some (.full id n)) {u v:Ty} {c:Nat} {xs:List (El U.car u)} {lo:Nat} {out:Option Nat} (ho:T.objs id=some (.own u c v xs lo out)):n=xs.length:=by obtain⟨o,h1,h2⟩:=ZA hT hd (id,n) (by simp[TV.fulls]);dsimp only at h1;rw[ho,Znv]at h1;exact(h2 _ (by rw[←h1];rfl)).symm
theorem ZeN (hT:T.Inv) {sz:Option Nat} {d:TV U} {lo hi mx:Option Int} (hd:d.inv T.objs) (h:ZhW T sz d lo hi mx k=some r):
  ∃e cs,ZaP T.enc.objs sz d.enc lo hi mx=some (e.enc cs)∧(∀q∈cs,q=true)∧ZO T i e∧k e=some r:=by
 unfold ZhW at h;split at h
 ·rename_i s;split at h;rotate_left;simp at h;obtain⟨hc,h⟩:=Zh h;refine⟨_,[_], ?_,Zu hc,ZO.pure (Zag _ _),h⟩;simp only[ZaP,TV.enc,Zc.encE,Zi.enc,Zci,Zks s lo hi s.length rfl,Zoa]
 ·rename_i sz t xs;split at h;rotate_left;simp at h;rename_i hs;split at h
  ·obtain⟨hc,h⟩:=Zh h;refine⟨_,[_], ?_,Zu hc,ZO.pure (Zag _ _),h⟩;simp only[ZaP,TV.enc,Zc.encE,hs,if_true,Zn6,Zi.enc,Zci,ZhD,Zks (xs.map (U.encE t)) lo hi xs.length (by simp),Zoa]
  ·rename_i m hh;obtain⟨hc,h⟩:=Zh h;refine⟨_,[_], ?_,Zu hc,ZO.pure (Zf rfl),h⟩;simp only[ZaP,TV.enc,Zc.encE,hs,if_true,Zn6,Zi.enc,ZhD,Zks (xs.map (U.encE t)) lo (some hh) xs.length (by simp),Option.getD_some,Zoa]
  ·simp at h
 ·rename_i sz id n;split at h;rotate_left;simp at h;rename_i t xs fix ho;obtain⟨o,h1,h2⟩:=hd (id,n) (by simp[TV.fulls]);dsimp only at h1;have hln:xs.length=n:=h2 _ (by rw[ho,Znv]at h1;rw[←h1];rfl);split at h;rotate_left;simp at h;rename_i hs;split at h
  ·obtain⟨hc,h⟩:=Zh h;split at h
   ·refine⟨_,[_], ?_,Zu hc,ZO.pure hd,h⟩;simp only[ZaP,TV.enc,Zd ho,ZI,hs,if_true,Zi.enc,Zci,Option.getD_none,Zoa,hln];simp
   ·refine⟨_,[_], ?_,Zu hc,ZO.pure (Zf rfl),h⟩;simp only[ZaP,TV.enc,Zd ho,ZI,hs,if_true,Zi.enc,Zci,Zoa,hln,ZnZ]
  ·rename_i m;split at h;rotate_left;simp at h;rename_i hh;obtain⟨hc,h⟩:=Zh h;refine⟨_,[_], ?_,Zu hc,ZO.pure (Zf rfl),h⟩;simp only[ZaP,TV.enc,Zd ho,ZI,hs,if_true,Zi.enc,Zoa,hln,ZnZ,ZhD];congr 2;unfold cut;cases lo with
   |none=>simp
   |some l=>simp[List.drop_take]
 ·rename_i sz id off len;split at h;rotate_left;simp at h;rename_i t xs fix ho;split at h;rotate_left;simp at h;rename_i hs;split at h;rotate_left;simp at h;obtain⟨hc,h⟩:=Zh h;refine⟨_,[_], ?_,Zu hc,ZO.pure (Zf rfl),h⟩;simp only[ZaP,TV.enc,Zd ho,ZI,hs,if_true,Zi.enc,Zci,Zoa]
 ·rename_i sz t;split at h;rotate_left;simp at h;obtain⟨hc,h⟩:=Zh h;refine⟨_,[_], ?_,Zu hc,ZO.pure (Zf rfl),h⟩;simp only[ZaP,TV.enc,Zi.enc,Zoa]
 ·simp at h
theorem ZjF (hX:TOk X) (hT:T.Inv) {t:Nat} {x:Operand} {lo hi mx:Option Operand} (h:Zhh X T t x lo hi mx k=some r):Snd X T i (.slice t x lo hi mx) ty k r:=by
 unfold Zhh at h;split at h;rotate_left;simp at h;rename_i e d a b c he hd ha hb hc;split at h
 ·rename_i hstr;obtain⟨e',cs,h1,h2,h3,h4⟩:=ZeN (i:=i) hT (ZA hT hd) h;refine⟨e',cs, ?_,h2,h3,h4⟩;simp only[Ze,Zt he,hstr,ZbL hX ha,ZbL hX hb,ZbL hX hc,Zb hX hd,h1]
 ·rename_i u hsl;split at h;rotate_left;simp at h;rename_i eu heu;obtain⟨e',cs,h1,h2,h3,h4⟩:=ZeN (i:=i) hT (ZA hT hd) h;refine⟨e',cs, ?_,h2,h3,h4⟩;simp only[Ze,Zt he,hsl,Zs heu,ZbL hX ha,ZbL hX hb,ZbL hX hc,Zb hX hd,h1]
 ·simp at h
theorem Zf2 {t:Nat} {e:TT U} {fs:List (Nat×Nat)} (he:X.get t=some e) (hd:e.ti.d= .struct fs):∃a b c,X.E.ty t=some ⟨.struct fs,a,b,c⟩:=by have:=Zs he;obtain⟨⟨d,a,b,c⟩,_,_,_,_⟩:=e;dsimp only at hd;subst hd;exact⟨a,b,c,this⟩
theorem Zfq (hX:TOk X) (hT:T.Inv) {t f:Nat} {x:Operand} (h:Zb7 X T t x f k=some r):Snd X T i (.fieldAddr t x f) ty k r:=by
 unfold Zb7 at h;split at h;rotate_left;simp at h;rename_i e d he hd;split at h;rotate_left;simp at h;rename_i fs hfs;obtain⟨a,b,c,hty⟩:=Zf2 he hfs;split at h;rotate_left;simp at h;rename_i off ft hf;split at h;rotate_left;simp at h;rename_i tf htf;split at h
 ·simp at h
 ·rename_i hz;split at h
  ·refine⟨_,[], ?_,by simp,ZO.pure (Zf rfl),h⟩;simp only[Ze,hty,hf,Zs htf,hz,if_false,Zb hX hd,TV.enc,Zi.enc,Zoa,Zn8]
  ·refine⟨_,[], ?_,by simp,ZO.pure (Zf rfl),h⟩;simp only[Ze,hty,hf,Zs htf,hz,if_false,Zb hX hd,TV.enc,Zi.enc,Zoa]
  ·simp at h
theorem ZdS (ds:List D):(∃ps,ds=ps.map .p∧D.mkAgg ds= .p (.agg ps))∨D.mkAgg ds= .agg ds:=by
 unfold D.mkAgg;cases h:Zj D.pure? ds with
 |none=>exact .inr rfl
 |some ps=>exact .inl ⟨ps,Zv h,rfl⟩
theorem ZjI (hU:UOk U) (hX:TOk X) (hT:T.Inv) {t f:Nat} {x:Operand} (h:Zhk X T t x f k=some r):Snd X T i (.field t x f) ty k r:=by
 unfold Zhk at h;split at h;rotate_left;simp at h;rename_i e d he hd;split at h;rotate_left;simp at h;rename_i fs hfs;obtain⟨a,b,c,hty⟩:=Zf2 he hfs;split at h;rotate_left;simp at h;rename_i off ft hf;split at h;rotate_left;simp at h;rename_i tf htf;split at h
 ·simp at h
 ·rename_i hz;split at h
  ·rename_i n x';split at h;rotate_left;simp at h;rename_i y hy;obtain⟨p,h1,h2⟩:=ZaJ hU hX htf hy;refine⟨_,[], ?_,by simp,ZO.pure (Zan (fun c hc=> ?_) hy),h⟩
   ·rw[Zn8]at h1;simp only[Ze,hty,hf,Zs htf,hz,if_false,Zb hX hd,TV.enc,Zc.encE,hU.enc_cells,h1,Zoe,Zi.enc,h2,Zoa]
   ·obtain⟨l,_,rfl⟩:=ZnT.1 hc;exact Zag _ _
  ·rename_i cs;split at h;rotate_left;simp at h;rename_i y hy;have h1:=Zcp hU hX htf hy;refine⟨_,[], ?_,by simp,ZO.pure (Zan (fun c hc=>ZhM (ZA hT hd) c (Zod hc)) hy),h⟩;rw[Zby]at h1;have hev:=Zb hX hd;rw[TV.enc]at hev;rcases ZdS (TV.encs cs)with ⟨ps,q1,q2⟩ |q2
   ·rw[q2]at hev;rw[q1,←Zn8,Zj6]at h1;cases hq:Zdl tf.ti (ps.drop off)with
    |none=>rw[hq]at h1;simp at h1
    |some p=>
     rw[hq]at h1;simp only[Zoe,Znv]at h1;simp only[Ze,hty,hf,Zs htf,hev,hz,if_false,hq,Zoe,Zi.enc,Zoa,←h1]
   ·rw[q2]at hev;simp only[Ze,hty,hf,Zs htf,hev,hz,if_false,h1,Zoe,Zi.enc,Zoa]
  ·simp at h
end
end Eng
namespace Eng
open Go
section
variable {U:Zc} {R:Type} {X:ZF U} {T:TS U} {i ty:Nat} {k:Zi U→Option R} {r:R}
theorem ty_sl {t u:Nat} {e:TT U} (he:X.get t=some e) (hd:e.ti.d= .sl u):∃a b c,X.E.ty t=some ⟨.sl u,a,b,c⟩:=by have:=Zs he;obtain⟨⟨d,a,b,c⟩,_,_,_,_⟩:=e;dsimp only at hd;subst hd;exact⟨a,b,c,this⟩
theorem ty_arr {t m u:Nat} {e:TT U} (he:X.get t=some e) (hd:e.ti.d= .arr m u):∃a b c,X.E.ty t=some ⟨.arr m u,a,b,c⟩:=by have:=Zs he;obtain⟨⟨d,a,b,c⟩,_,_,_,_⟩:=e;dsimp only at hd;subst hd;exact⟨a,b,c,this⟩
theorem ZlA {t a b:Nat} {e:TT U} (he:X.get t=some e) (hd:e.ti.d= .map a b):∃x y z,X.E.ty t=some ⟨.map a b,x,y,z⟩:=by have:=Zs he;obtain⟨⟨d,x,y,z⟩,_,_,_,_⟩:=e;dsimp only at hd;subst hd;exact⟨x,y,z,this⟩
theorem as_eq {car:Nat→Type} {l:Lf car} {t:Ty} {x:El car t} (h:l.as t=some x):l=⟨t,x⟩:=by unfold Lf.as at h;split at h;rotate_left;simp at h;rename_i he;obtain⟨t',y⟩:=l;dsimp only at he;subst he;cases h;rfl
theorem Zf4 {cs:List (Lf U.car)}:∀(ts:List Ty) (n:Nat) (k:List (Lf U.car)→Option R) {r:R},tabK cs ts n k=some r→∃ls,cs.drop n=ls++cs.drop (n+ls.length)∧k ls=some r
 | [],n,k,r,h=>⟨[],by simp,h⟩
 |t::ts,n,k,r,h=>by simp only[tabK]at h;obtain⟨x,hx,h⟩:=bind_some h;obtain⟨ls,h1,h2⟩:=Zf4 ts (n+1) _ h;unfold tabB at hx;split at hx;rotate_left;simp at hx;rename_i l hl;obtain⟨hlt,hle⟩:=Zne.1 hl;have:=as_eq hx;refine⟨⟨t,x⟩::ls, ?_,h2⟩;rw[List.drop_eq_getElem_cons hlt,hle,this,h1,List.cons_append,List.length_cons];congr 3;omega
theorem Zfp (hU:UOk U) (hX:TOk X) (hT:T.Inv) {t:Nat} {x ix:Operand} (h:Zb6 X T t x ix k=some r):Snd X T i (.indexAddr t x ix) ty k r:=by
 unfold Zb6 at h;split at h;rotate_left;simp at h;rename_i e d k1 n he hd hn;split at h
 ·rename_i u hu;obtain⟨a,b,c,hty⟩:=ty_sl he hu;split at h;rotate_left;simp at h;rename_i eu heu;split at h
  ·rename_i t' xs;split at h;rotate_left;simp at h;rename_i hs;obtain⟨y,hy,h⟩:=bind_some h;obtain⟨i1,i2,i3⟩:=Zie hy;refine⟨_,[true], ?_,by simp,ZO.pure (Zf rfl),h⟩;simp only[Ze,Zb hX hn,Zb hX hd,TV.enc,Zc.encE,hty,Zs heu,hs,if_true,Zi.enc,Zoa];rw[ZfJ i3,ZaB hU,Zn6,decide_eq_true (⟨i1,i2⟩:0≤n∧n < (xs.length:Int))]
  ·rename_i id m;split at h
   ·rename_i t' xs fix ho;split at h;rotate_left;simp at h;rename_i hs;obtain⟨hc,h⟩:=Zh h;refine⟨_,[_], ?_,Zu hc,ZO.pure (Zf rfl),h⟩;simp only[Ze,Zb hX hn,Zb hX hd,TV.enc,Zc.encE,hty,Zs heu,Zd ho,ZI,hs,if_true,Zi.enc,Zoa,Za9 hT hd ho,ZnZ]
   ·rename_i t' c v xs lo out ho;split at h;rotate_left;simp at h;rename_i hs;obtain⟨hc,h⟩:=Zh h;refine⟨_,[_], ?_,Zu hc,ZO.pure (Zf rfl),h⟩;simp only[Ze,Zb hX hn,Zb hX hd,TV.enc,Zc.encE,hty,Zs heu,Zd ho,Ze6,hs,if_true,Zi.enc,Zoa,ZgE hT hd ho,ZnZ]
   ·simp at h
  ·rename_i id off len;split at h;rotate_left;simp at h;rename_i t' xs fix ho;split at h;rotate_left;simp at h;rename_i hs;obtain⟨hc,h⟩:=Zh h;refine⟨_,[_], ?_,Zu hc,ZO.pure (Zf rfl),h⟩;simp only[Ze,Zb hX hn,Zb hX hd,TV.enc,Zc.encE,hty,Zs heu,Zd ho,ZI,hs,if_true,Zi.enc,Zoa]
  ·simp at h
 ·rename_i m u hu;obtain⟨a,b,c,hty⟩:=ty_arr he hu;split at h;rotate_left;simp at h;rename_i eu heu;split at h
  ·rename_i cs;obtain⟨hc,h⟩:=Zh h;cases hm:Nat.blt 8 m with
   |true=>
    rw[hm,cond_true]at h;split at h;rotate_left;simp at h;obtain⟨ls,h1,h2⟩:=Zf4 _ _ _ h;rw[←h1]at h2;refine⟨_,[_], ?_,Zu hc,ZO.pure (Zf rfl),h2⟩;simp only[Ze,Zb hX hn,Zb hX hd,TV.enc,Zc.encE,hty,Zs heu,Zi.enc,Zoa,Zn8]
   |false=>
    rw[hm,cond_false]at h;refine⟨_,[_], ?_,Zu hc,ZO.pure (Zf rfl),h⟩;simp only[Ze,Zb hX hn,Zb hX hd,TV.enc,Zc.encE,hty,Zs heu,Zi.enc,Zoa,Zn8]
  ·obtain⟨hc,h⟩:=Zh h;refine⟨_,[_], ?_,Zu hc,ZO.pure (Zf rfl),h⟩;simp only[Ze,Zb hX hn,Zb hX hd,TV.enc,Zc.encE,hty,Zs heu,Zi.enc,Zoa]
  ·simp at h
 ·simp at h
theorem ZjH (hX:TOk X) (hT:T.Inv) {t:Nat} {x ix:Operand} (h:Zhj X T t x ix k=some r):Snd X T i (.index t x ix) ty k r:=by unfold Zhj at h;split at h;rotate_left;simp at h;rename_i e s k1 n he hd hn;split at h;rotate_left;simp at h;rename_i hs;obtain⟨y,hy,h⟩:=bind_some h;obtain⟨i1,i2,i3⟩:=Zie hy;refine⟨_,[true], ?_,by simp,ZO.pure (Zag _ _),h⟩;simp only[Ze,Zb hX hn,Zb hX hd,TV.enc,Zc.encE,Zt he,hs,Zi.enc,Zoa];rw[Zn3,i3,decide_eq_true (⟨i1,i2⟩:0≤n∧n < (s.length:Int))];rfl
theorem Zdu {a:Ty} (ha:a.isKey=true) (x y:El U.car a):P.key (U.encE a x) (U.encE a y)=Zms a x y:=by
 cases a<;>simp only[Ty.isKey,Zm9]at ha
 ·rfl
 ·simp only[Zc.encE,P.key,P.eqv,P.eqc,if_true,Option.getD_some];rfl
 ·rfl
theorem ZcW {a:Ty} (ha:a.isKey=true) (x:El U.car a):Zp a.td (U.encE a x)=true:=by
 cases a<;>simp only[Ty.isKey,Zm9]at ha
 ·rfl
 ·simp[Ty.td,Zc.encE,Zp]
 ·rfl
theorem Zik {a b:Ty} (ha:a.isKey=true) (x:El U.car a):∀kv:List (El U.car a×El U.car b),(kv.map fun e=>(U.encE a e.1,U.encE b e.2)).find? (fun e=>P.key (U.encE a x) e.1)=(kv.find? fun e=>Zms a x e.1).map fun e=>(U.encE a e.1,U.encE b e.2)
 | []=>rfl
 |e::r=>by
  simp only[Znh,List.find?_cons,Zdu ha];split
  ·rfl
  ·exact Zik ha x r
theorem Zh8 {a b:Ty} (ha:a.isKey=true) (x:El U.car a) (kv:List (El U.car a×El U.car b)):Zbv (kv.map fun e=>(U.encE a e.1,U.encE b e.2)) (U.encE a x)=(Zhr kv x).map (U.encE b):=by unfold Zbv Zhr;rw[Zik ha];cases kv.find? fun e=>Zms a x e.1<;>rfl
theorem Zl5 {a b:Ty} (ha:a.isKey=true) (x:El U.car a) (y:El U.car b) (kv:List (El U.car a×El U.car b)):Zjs (kv.map fun e=>(U.encE a e.1,U.encE b e.2)) (U.encE a x) (U.encE b y)=(setB kv x y).map fun e=>(U.encE a e.1,U.encE b e.2):=by
 unfold Zjs setB;simp only[List.any_map,Function.comp_def,Zdu ha];split;rotate_left;simp;simp only[Zn9];refine List.map_congr_left fun e _=> ?_
 simp only[Function.comp,Zdu ha];split<;>rfl
theorem ZmA {a b:Ty} (ha:a.isKey=true) (x:El U.car a) (kv:List (El U.car a×El U.car b)):ZkM (kv.map fun e=>(U.encE a e.1,U.encE b e.2)) (U.encE a x)=(delB kv x).map fun e=>(U.encE a e.1,U.encE b e.2):=by
 unfold ZkM delB;rw[List.filter_map];congr 1;refine List.filter_congr fun e _=> ?_
 simp only[Function.comp,Zdu ha]
theorem Zmo (hX:TOk X) {t:Nat} {x:Operand} {d:TV U} (hd:evT X T.slots t x=some d) {l:Lf U.car} (h:mapT T d=some l) {a b:Ty} {kv:List (El U.car a×El U.car b)} (hl:l.as (.map a b)=some kv):
  ZfE T.enc.objs (ev X.E T.enc.slots t x)=some (a.td,kv.map fun e=>(U.encE a e.1,U.encE b e.2)):=by
 rw[Zb hX hd];unfold mapT at h;split at h
 ·cases h;have:=ZS hl;cases this;rfl
 ·split at h;rotate_left;simp at h;rename_i ho;cases h;have:=ZS hl;cases this;simp only[TV.enc,ZfE,Zd ho,Z8]
 ·simp at h
theorem Zht (hX:TOk X) (hT:T.Inv) {t:Nat} {x:Operand} {d:TV U} (hd:evT X T.slots t x=some d) {l:Lf U.car} (h:T.lf1 d=some l) {a:Ty} {key:El U.car a} (hl:l.as a=some key) (m:Nat):(ev X.E T.enc.slots t x).toP T.enc.objs m=some (U.encE a key):=by rw[Zb hX hd,ZcU (ZA hT hd) h m,ZS hl];rfl
theorem ZiB (hX:TOk X) (hT:T.Inv) {t:Nat} {m q:Operand} {ok:Bool} (h:Zfy X T t m q ok k=some r):Snd X T i (.lookup t m q ok) ty k r:=by
 unfold Zfy at h;split at h;rotate_left;simp at h;rename_i e he;split at h;rotate_left;simp at h;rename_i kt vt a b hd _;obtain⟨p1,p2,p3,hty⟩:=ZlA he hd;split at h;rotate_left;simp at h;rename_i ev' dm dk hev hm hk;split at h;rotate_left;simp at h;rename_i lm lk z0 hlm hlk hz0;split at h;rotate_left;simp at h;rename_i kv key z hkv hkey hz;split at h;rotate_left;simp at h;rename_i hc;have hzp:=hX.zl vt ev' z0 hev hz0;rw[ZS hz]at hzp;have hzp':U.encE b z=ev'.ti.zeroP:=hzp;have c0:((X.E.keyTD t).same a.td&&Zp a.td (U.encE a key))=true:=by rw[hc.2,ZcW hc.1];rfl
 have hmo:=Zmo hX hm hlm hkv;have hkp:=Zht hX hT hk hlk hkey 1;cases ok
 ·refine⟨_,[], ?_,by simp,ZO.pure (Zag _ _),h⟩;simp only[Ze,hty,Zs hev,hmo,hkp,c0,if_true,Zh8 hc.1,Zi.enc,Zoa,TV.enc];cases Zhr kv key<;>simp[hzp']
 ·refine⟨_,[], ?_,by simp,ZO.pure (Zf (by simp[TV.fulls,TV.fullsL])),h⟩;simp only[Ze,hty,Zs hev,hmo,hkp,c0,if_true,Zh8 hc.1,Zi.enc,Zoa,TV.enc,TV.encs];cases Zhr kv key<;>simp[hzp',Zc.encE]
theorem Zjv (hU:UOk U) (hX:TOk X) (hT:T.Inv) {t:Nat} {m q v:Operand} (h:Za7 X T t m q v k=some r):
  ∃e cs,Z4 X.E T.enc.slots T.enc.objs t m q v=some (e.enc cs)∧(∀q∈cs,q=true)∧ZO T i e∧k e=some r:=by
 unfold Za7 at h;split at h;rotate_left;simp at h;rename_i e he;split at h;rotate_left;simp at h;rename_i kt vt a b hd _;obtain⟨p1,p2,p3,hty⟩:=ZlA he hd;split at h;rotate_left;simp at h;rename_i ev' id dk dv hev hm hk hv;split at h;rotate_left;simp at h;rename_i a' b' kv0 lk lv' ho hlk hlv;split at h;rotate_left;simp at h;rename_i kv key y hkv hkey hy;split at h;rotate_left;simp at h;rename_i hc;have hab:=ZS hkv;cases hab;have c0:((X.E.keyTD t).same a.td&&Zp a.td (U.encE a key))=true:=by rw[hc.2,ZcW hc.1];rfl
 have hkp:=Zht hX hT hk hlk hkey 1;have hvp:=Ze0 hU (ZA hT hv) hlv 7;rw[ZS hy]at hvp;have hem:ev X.E T.enc.slots 0 m= .map id:=by rw[Zb hX hm];rfl
 refine⟨_,[], ?_,by simp,Zcc rfl (fun n' hq=>by cases hq) (fun _=>by trivial),h⟩;simp only[Z4,hty,hem,Zd ho,Z8,hkp,Zb hX hv,depth,hvp,c0,if_true,Zc.encL,Zl5 hc.1,Zi.enc,Zoa,Znh,TV.enc]
theorem ZiC (hX:TOk X) (hT:T.Inv) {t u:Nat} {m q:Operand} (h:Zfz X T t u m q k=some r):∃e cs,Zef X.E T.enc.objs [t,u] [ev X.E T.enc.slots t m,ev X.E T.enc.slots u q]=some (e.enc cs)∧(∀q∈cs,q=true)∧ZO T i e∧k e=some r:=by
 unfold Zfz at h;split at h;rotate_left;simp at h;rename_i e id dk he hm hk;split at h;rotate_left;simp at h;rename_i a1 b1 a b kv lk hd ho hlk;split at h;rotate_left;simp at h;rename_i key hkey;split at h;rotate_left;simp at h;rename_i hc;have c0:((X.E.keyTD t).same a.td&&Zp a.td (U.encE a key))=true:=by rw[hc.2,ZcW hc.1];rfl
 have hkp:=Zht hX hT hk hlk hkey 1;have hem:ev X.E T.enc.slots t m= .map id:=by rw[Zb hX hm];rfl
 refine⟨_,[], ?_,by simp,Zcc rfl (fun n' hq=>by cases hq) (fun _=>by trivial),h⟩;simp only[Zef,hem,Zt he,hd,Zd ho,Z8,hkp,c0,if_true,ZmA hc.1,Zi.enc,Zoa,Znh,TV.enc]
theorem ZjG (hX:TOk X) (hT:T.Inv) {t:Nat} {x:Operand} (h:Zhi X T i t x k=some r):Snd X T i (.range t x) ty k r:=by
 unfold Zhi at h;split at h
 ·rename_i e s he hd;split at h;rotate_left;simp at h;rename_i hs;refine⟨_,[], ?_,by simp,Zdw rfl (fun _=>by trivial),h⟩;simp only[Ze,Zt he,hs,Zb hX hd,TV.enc,Zc.encE,Zi.enc,Znh,Zoa,ZbY]
 ·rename_i e a b kv he hd;split at h;rotate_left;simp at h;rename_i hs;refine⟨_,[], ?_,by simp,Zdw rfl (fun _=>by trivial),h⟩;simp only[Ze,Zt he,hs,Zb hX hd,TV.enc,Zc.encE,Zi.enc,Znh,Zoa,Zbz,Option.map_none]
 ·rename_i e id he hd;split at h;rotate_left;simp at h;rename_i a1 b1 a b kv hs ho;refine⟨_,[], ?_,by simp,Zdw rfl (fun _=>by trivial),h⟩;simp only[Ze,Zt he,hs,Zb hX hd,TV.enc,Zd ho,Z8,Zi.enc,Znh,Zoa,Zbz,Option.map_none]
 ·simp at h
theorem ZkT (hX:TOk X) (hT:T.Inv) {x:Operand} (h:ZjW X T x k=some r):Snd X T i (.next x true) ty k r:=by
 unfold ZjW at h;split at h;rotate_left;simp at h;rename_i id hd;split at h;rotate_left;simp at h;rename_i s pos ho
 by_cases hp:pos < s.length
 ·rw[decide_eq_true hp]at h;refine⟨_,[], ?_,by simp,Zcc (by simp[TV.fulls,TV.fullsL]) (fun n' hq=>by cases hq) (fun _=>by trivial),h⟩;simp only[Ze,Zb hX hd,TV.enc,TV.encs,Zc.encE,Zd ho,ZbY,if_pos hp,Zi.enc,Znh,Zoa]
 ·rw[decide_eq_false hp]at h;refine⟨_,[], ?_,by simp,ZO.pure (Zf (by simp[TV.fulls,TV.fullsL])),h⟩;simp only[Ze,Zb hX hd,TV.enc,TV.encs,Zc.encE,Zd ho,ZbY,if_neg hp,Zi.enc,Zoa]
theorem ZjJ (hX:TOk X) (hT:T.Inv) {x:Operand} (h:Zhl X T x k=some r):Snd X T i (.entry x) ty k r:=by unfold Zhl at h;split at h;rotate_left;simp at h;rename_i id hd;split at h;rotate_left;simp at h;rename_i a b rest p q ho;refine⟨_,[], ?_,by simp,ZO.pure (Zf (by simp[TV.fulls,TV.fullsL])),h⟩;simp only[Ze,Zb hX hd,TV.enc,TV.encs,Zd ho,Zbz,Zoe,Zi.enc,Zoa]
theorem Zg8 (hX:TOk X) (hT:T.Inv) {x:Operand} {ix:Nat} (h:ZdN X T x ix k=some r):Snd X T i (.extract x ix) ty k r:=by unfold ZdN at h;split at h;rotate_left;simp at h;rename_i vs hd;split at h;rotate_left;simp at h;rename_i d hv;refine⟨_,[], ?_,by simp,ZO.pure (fun q hq=>ZA hT hd q (Zr.2 ⟨d,ZnU hv,hq⟩)),h⟩;simp only[Ze,Zb hX hd,TV.enc,Zah,Znf,hv,Zoe,Zi.enc,Zoa]
theorem Zl1 (hX:TOk X) (hT:T.Inv) {t:Nat} {x:Operand} (h:Zmd X T t x k=some r):∃e cs,Zh9 X.E T.enc.objs [t] [ev X.E T.enc.slots t x]=some (e.enc cs)∧(∀q∈cs,q=true)∧ZO T i e∧k e=some r:=by
 unfold Zmd at h;split at h;rotate_left;simp at h;rename_i e d he hd;have hev:=Zb hX hd;split at h
 ·rename_i htd;split at h;rotate_left;simp at h;refine⟨_,[], ?_,by simp,ZO.pure (Zag _ _),h⟩;simp only[Zh9,Zt he,htd,hev,TV.enc,Zc.encE,ZfY,Zi.enc,Zoa]
 ·rename_i u htd;split at h
  ·refine⟨_,[], ?_,by simp,ZO.pure (Zag _ _),h⟩;simp only[Zh9,Zt he,htd,hev,TV.enc,Zc.encE,ZfY,Zi.enc,Zoa,Zn6]
  ·refine⟨_,[], ?_,by simp,ZO.pure (Zag _ _),h⟩;simp only[Zh9,Zt he,htd,hev,TV.enc,Zc.encE,ZfY,Zi.enc,Zoa,Zn6]
  ·refine⟨_,[], ?_,by simp,ZO.pure (Zag _ _),h⟩;simp only[Zh9,Zt he,htd,hev,TV.enc,Zc.encE,ZfY,Zi.enc,Zoa]
  ·split at h
   ·rename_i ho;refine⟨_,[], ?_,by simp,ZO.pure (Zag _ _),h⟩;simp only[Zh9,Zt he,htd,hev,TV.enc,Zc.encE,ZfY,Zi.enc,Zoa,Za9 hT hd ho]
   ·rename_i ho;refine⟨_,[], ?_,by simp,ZO.pure (Zag _ _),h⟩;simp only[Zh9,Zt he,htd,hev,TV.enc,Zc.encE,ZfY,Zi.enc,Zoa,ZgE hT hd ho]
   ·simp at h
  ·refine⟨_,[], ?_,by simp,ZO.pure (Zag _ _),h⟩;simp only[Zh9,Zt he,htd,hev,TV.enc,Zc.encE,ZfY,Zi.enc,Zoa]
  ·simp at h
 ·rename_i u v htd;split at h;rotate_left;simp at h;rename_i a b kv hm;obtain⟨hc,h⟩:=Zh h;refine⟨_,[_], ?_,Zu hc,ZO.pure (Zag _ _),h⟩;unfold mapT at hm;split at hm
  ·simp only[Znv]at hm;cases hm;simp only[Zh9,Zt he,htd,hev,TV.enc,Zc.encE,ZfY,Zi.enc,Zoa,Zn6]
  ·split at hm;rotate_left;simp at hm;rename_i ho;simp only[Znv]at hm;cases hm;simp only[Zh9,Zt he,htd,hev,TV.enc,Zd ho,Z8,Zc.encE,ZfY,Zi.enc,Zoa,Zn6]
  ·simp at hm
 ·rename_i n u htd;obtain⟨hc,h⟩:=Zh h;refine⟨_,[_], ?_,Zu hc,ZO.pure (Zag _ _),h⟩;simp only[Zh9,Zt he,htd,ZfY,Zi.enc,Zoa,TV.enc,Zc.encE]
 ·simp at h
theorem Zdt (hT:T.Inv) {t:Nat} {x:Operand} {d:TV U} (hX:TOk X) (hd:evT X T.slots t x=some d) {u:Ty} {ys:List (El U.car u)} (h:ZmP T d u=some ys):ZcI T.enc.objs (U.tsize u) d.enc=some (ys.map (U.encE u)):=by
 unfold ZmP at h;split at h
 ·split at h;rotate_left;simp at h;cases h;simp only[ZcI,TV.enc,Zc.encE,Zc.tsize,if_true,ZaL,Zn9];rfl
 ·rename_i hns;split at h;rotate_left;simp at h;rename_i l hl;split at h;rotate_left;simp at h;rename_i ys' hys;cases h;have ht:=ZcU (ZA hT hd) hl 1;rw[ZS hys]at ht;unfold ZcI;split
  ·rename_i s hs;rw[hs]at ht;simp only[Zjz,Znv,Zc.encL,Zc.encE,reduceCtorEq]at ht
  ·simp only[ht,Zc.encL,Zc.encE,if_true]
theorem Za1 {α:Type} (xs ys:List α):List.append xs ys=xs++ys:=rfl
theorem ZhV (hX:TOk X) (hT:T.Inv) {t:Nat} {s:Operand} {e:TT U} {d:TV U} (hd:evT X T.slots t s=some d) (hsz:U.tsize e.ty=e.ti.size) {ys:List (El U.car e.ty)} (h:appX T i e d ys k=some r):
  ∃ef cs,Zaa T.enc.objs T.ep i e.ti d.enc (ys.map (U.encE e.ty))=some (ef.enc cs)∧(∀q∈cs,q=true)∧ZO T i ef∧k ef=some r:=by
 unfold appX at h;split at h
 ·obtain⟨hc,h⟩:=Zh h;refine⟨_,[_], ?_,Zu hc,Zba rfl (by simp),h⟩;simp only[Zaa,TV.enc,Zn6,Zi.enc,Znh,Zoa,ZI,hsz,Zjq]
 ·split at h;rotate_left;simp at h;rename_i xs hxs;obtain⟨hc1,h⟩:=Zh h;obtain⟨hc2,h⟩:=Zh h;have:=ZS hxs;cases this;refine⟨_,[true], ?_,by simp,Zba (by rw[Za1,Zn5]) (by simp),h⟩;have c1:List.isEmpty ys=false:=by simpa using hc1
  have c2:(Zn4 xs+ys.length)*max e.ti.bytes 1≤ZC:=by simpa[Zjq]using hc2
  simp only[Zaa,TV.enc,hsz,if_true,Zn6,Zi.enc,Znh,Zoa,ZI,Za1,Zn7,List.isEmpty_map];rw[decide_eq_true ⟨c1,c2⟩]
 ·rename_i id n;split at h;rotate_left;simp at h;rename_i t' xs0 ho;split at h;rotate_left;simp at h;rename_i xs hxs;obtain⟨hc,h⟩:=Zh h;have:=ZS hxs;cases this;refine⟨_,[_], ?_,Zu hc,Zba (by rw[Za1,Zn5]) (by simp),h⟩;have hl:n=Zn4 xs:=Za9 hT hd ho;simp only[Zaa,TV.enc,Zd ho,ZI,hsz,if_true,Zn6,Zi.enc,Znh,Zoa,ZaU,Za1,Zn7,hl,Zjq,ZhT]
 ·rename_i id len;split at h;rotate_left;simp at h;rename_i t' xs0 ho;split at h;rotate_left;simp at h;rename_i xs hxs;obtain⟨hc1,h⟩:=Zh h;obtain⟨hc,h⟩:=Zh h;have:=ZS hxs;cases this;have hle:len≤Zn4 xs:=by simpa using hc1
  refine⟨_,[_], ?_,Zu hc,Zba (by rw[Za1,Zn5,List.length_take,Nat.min_eq_left hle]) (by simp),h⟩;simp only[Zaa,TV.enc,Zd ho,ZI,hsz,if_true,Zn6,Zi.enc,Znh,Zoa,ZaU,Za1,Zn7,Zjq,Zob]
 ·simp at h
theorem ZiE (hX:TOk X) (hT:T.Inv) {t u:Nat} {s x:Operand} (h:ZfB X T i t u s x k=some r):
  ∃e cs,Zcf X.E T.ep i T.enc.objs [t,u] [ev X.E T.enc.slots t s,ev X.E T.enc.slots u x]=some (e.enc cs)∧(∀q∈cs,q=true)∧ZO T i e∧k e=some r:=by
 unfold ZfB at h;split at h;rotate_left;simp at h;rename_i e eu d dx he heu hd hdx;split at h;rotate_left;simp at h;rename_i hsz;split at h
 ·rename_i h2;split at h;rotate_left;simp at h;rename_i ys hys;have hsrc:=Zdt hT hX hdx hys;rw[hsz]at hsrc;have happ:Zcf X.E T.ep i T.enc.objs [t,u] [ev X.E T.enc.slots t s,ev X.E T.enc.slots u x]=ZaN T.enc.objs T.ep i e.ti d.enc dx.enc:=by unfold Zcf;simp only[Zap he,Zt heu,Zb hX hd,Zb hX hdx];revert h2;cases eu.ti.d<;>simp[ZkR]
  rw[happ,ZaN,hsrc];exact ZhV hX hT hd hsz h
 ·split at h;rotate_left;simp at h;rename_i k0 a z hk hz;split at h;rotate_left;simp at h;rename_i z' hz';obtain⟨hc,h⟩:=Zh h;have hget:∃u',X.get u'=some e:=by unfold ZF.elem at he;split at he;rotate_left;simp at he;split at he;rotate_left;simp at he;exact⟨_,he⟩
  obtain⟨u',hu⟩:=hget;have hzp:=hX.zl u' e z hu hz;rw[ZS hz']at hzp;obtain⟨ef,cs,q1,q2⟩:=ZhV hX hT hd hsz h;refine⟨ef,cs, ?_,q2⟩;rw[List.map_replicate,show U.encE e.ty z'=e.ti.zeroP from hzp]at q1;unfold Zcf;simp only[Zap he,Zt heu,Zb hX hd,Zb hX hdx,hk,TV.enc,Zc.encE,if_pos (of_decide_eq_true hc)];exact q1
theorem ZkW (hX:TOk X) (hT:T.Inv) {t u:Nat} {d s:Operand} (h:ZjZ X T t u d s k=some r):
  ∃e cs,Zja X.E T.enc.objs [t,u] [ev X.E T.enc.slots t d,ev X.E T.enc.slots u s]=some (e.enc cs)∧(∀q∈cs,q=true)∧ZO T i e∧k e=some r:=by
 unfold ZjZ at h;split at h;rotate_left;simp at h;rename_i e dd ds he hd hs;split at h
 ·rename_i id n;split at h;rotate_left;simp at h;rename_i t' xs fix ho;split at h;rotate_left;simp at h;rename_i ys hys;have hsrc:=Zdt hT hX hs hys;split at h;rotate_left;simp at h;rename_i hsz;have hl:n=Zn4 xs:=Za9 hT hd ho;refine⟨_,[], ?_,by simp,Zcc (by simp[TV.fulls]) (fun n2 hq=> ?_) (fun _=>by trivial),h⟩
  ·simp only[Zja,Zap he,Zb hX hd,Zb hX hs,TV.enc,ZfR,Zd ho,ZI,hsrc,hsz.symm,if_true,Zi.enc,Znh,Zoa,hl,Zn6,Zc.encE,ZT];congr 4;simp only[List.take_zero,List.nil_append,List.length_take,Zn6,ZnZ,Zn7,Zob,Zn8];have e1:List.take (min ys.length xs.length) (List.map (U.encE t') ys)=List.take xs.length (List.map (U.encE t') ys):=by rw[List.take_eq_take_iff];simp[Nat.min_comm]
   have e2:min (min ys.length xs.length) ys.length=min ys.length xs.length:=by omega
   rw[e1,e2];congr 1;rcases Nat.le_total ys.length xs.length with hh |hh
   ·rw[Nat.min_eq_left hh]
   ·rw[Nat.min_eq_right hh,List.drop_eq_nil_of_le (by simp),List.drop_eq_nil_of_le (by simpa using hh)]
  ·cases hq;refine⟨_,ho, ?_⟩;simp only[TO.len?,Znv,Zn5,List.length_take,List.length_drop];omega
 ·rename_i id off len;split at h;rotate_left;simp at h;rename_i t' xs fix ho;split at h;rotate_left;simp at h;rename_i ys hys;have hsrc:=Zdt hT hX hs hys;split at h;rotate_left;simp at h;rename_i hsz;obtain⟨hc,h⟩:=Zh h;have hle:off+len≤Zn4 xs:=by simpa using hc
  refine⟨_,[], ?_,by simp,Zcc (by simp[TV.fulls]) (fun n2 hq=> ?_) (fun _=>by trivial),h⟩
  ·simp only[Zja,Zap he,Zb hX hd,Zb hX hs,TV.enc,ZfR,Zd ho,ZI,hsrc,hsz.symm,if_true,Zi.enc,Znh,Zoa,Zn6,Zc.encE,ZcJ,Zob]
  ·cases hq;refine⟨_,ho, ?_⟩;simp only[TO.len?,Znv,ZT,Zn5,List.length_take,List.length_drop];omega
 ·simp at h
theorem ZbO (hX:TOk X):∀{xs:List Operand} {ts:List Nat} {ds:List (TV U)},Zdp X T.slots xs ts=some ds→ZZ X.E T.enc.slots xs ts=TV.encs ds
 | [],ts,ds,h=>by cases ts<;>simp[Zdp]at h<;>subst h<;>rfl
 |x::xs,[],ds,h=>by simp only[Zdp]at h;split at h;rotate_left;simp at h;rename_i d r h1 h2;cases h;simp only[ZZ,TV.encs,Zb hX h1,ZbO hX h2]
 |x::xs,t::ts,ds,h=>by simp only[Zdp]at h;split at h;rotate_left;simp at h;rename_i d r h1 h2;cases h;simp only[ZZ,TV.encs,Zb hX h1,ZbO hX h2]
theorem Zel (hT:T.Inv):∀{xs:List Operand} {ts:List Nat} {ds:List (TV U)},Zdp X T.slots xs ts=some ds→∀d∈ds,d.inv T.objs
 | [],ts,ds,h=>by cases ts<;>simp[Zdp]at h<;>subst h<;>simp
 |x::xs,[],ds,h=>by
  simp only[Zdp]at h;split at h;rotate_left;simp at h;rename_i d r h1 h2;cases h;intro a ha;rcases Znj.1 ha with rfl |ha
  ·exact ZA hT h1
  ·exact Zel hT h2 a ha
 |x::xs,t::ts,ds,h=>by
  simp only[Zdp]at h;split at h;rotate_left;simp at h;rename_i d r h1 h2;cases h;intro a ha;rcases Znj.1 ha with rfl |ha
  ·exact ZA hT h1
  ·exact Zel hT h2 a ha
theorem ZlB (hX:TOk X) (hT:T.Inv) {mx:Bool} {args:List Operand} {ats:List Nat} (h:opMM X T mx args ats k=some r):
  ∃e cs,ZL X.E T.ep i T.enc.objs (if mx then .max else .min) ats (ZZ X.E T.enc.slots args ats)=some (e.enc cs)∧(∀q∈cs,q=true)∧ZO T i e∧k e=some r:=by
 unfold opMM at h;split at h;rotate_left;simp at h;rename_i ds hds;split at h;rotate_left;simp at h;rename_i z hz;split at h;rotate_left;simp at h;rename_i d hd;obtain⟨q1,q2⟩:=Zcv hd;refine⟨_,[], ?_,by simp,ZO.pure (Zf q2),h⟩;cases mx<;>simp only[Zm9,if_false,if_true]at hz<;>simp only[Zm9,if_false,if_true,ZL,ZbO hX hds,hz,Zi.enc,q1,Zoa]
theorem snd (hU:UOk U) (hX:TOk X) (hT:T.Inv) {op:Op} (h:ZmC X T i op ty k=some r):Snd X T i op ty k r:=by
 unfold ZmC at h;split at h
 ·exact ZkU hX hT h
 ·exact ZiD hX hT h
 ·exact ZkS hX hT h
 ·exact ZjL hX hT h
 ·exact Zl2 hU hX hT h
 ·exact ZjK hU hX hT h
 ·exact Zey hU hX hT h
 ·exact ZkV hU hX hT h
 ·exact ZjE hU hX hT h
 ·exact Zf7 hX hT h
 ·exact Zl3 hU hX hT h
 ·exact snd_un hX hT h
 ·exact Zg9 hX hT h
 ·exact Zf8 hX hT h
 ·exact Zg7 hX hT h
 ·exact Zfo hX hT h
 ·exact ZjF hX hT h
 ·exact Zfq hX hT h
 ·exact ZjI hU hX hT h
 ·exact Zfp hU hX hT h
 ·exact ZjH hX hT h
 ·exact ZiB hX hT h
 ·exact Zjv hU hX hT h
 ·exact Zjv hU hX hT h
 ·exact ZjG hX hT h
 ·exact ZkT hX hT h
 ·exact ZjJ hX hT h
 ·exact Zg8 hX hT h
 ·rename_i b args ats;unfold Snd Ze;split at h
  ·rename_i x t hx ht;simp only[hx,ht,ZL,ZZ];exact Zl1 hX hT h
  ·rename_i s x t u hx ht;simp only[hx,ht,ZL,ZZ];exact ZiE hX hT h
  ·rename_i s x t u hx ht;simp only[hx,ht,ZL,ZZ];exact ZkW hX hT h
  ·exact ZlB (mx:=true) hX hT h
  ·exact ZlB (mx:=false) hX hT h
  ·rename_i s x t u hx ht;simp only[hx,ht,ZL,ZZ];exact ZiC hX hT h
  ·simp at h
 ·simp at h
end
end Eng
namespace Eng
open Go
section
variable {U:Zc}
def Zl9 (T:TS U) (d:TV U):Option (TV U):=
 if (d.enc.ids T.enc.objs depth).all T.fz then match d with
  | .ptr id i j=>match T.objs id with
   |some (.box cs)=>if i=0 then match Zj T.lf1 (cs.drop j)with
    |some ls=>some (.pp ls)
    |none=>none
    else none
   |_=>none
  |d=>match T.lf1 d with
   |some l=>some (lv l)
   |none=>none
 else none
def TV.can (T:TS U) (pi:List (Id×Id)):Nat→TV U→Option (TV U)
 |_,.v t x=>some (.v t x)
 |_,.pp cs=>some (.pp cs)
 |_,.nilp=>some .nilp
 |_,.nilfn=>some .nilfn
 |_,.dead=>some .dead
 |_,.undef=>some .undef
 |_,.nils t=>some (.nils t)
 |_,.clip t xs=>some (.clip t xs)
 |_,.full id n=>match ren pi id with
  |some id'=>some (.full id' n)
  |none=>Zl9 T (.full id n)
 |_,.sl id off len=>match ren pi id with
  |some id'=>some (.sl id' off len)
  |none=>Zl9 T (.sl id off len)
 |_,.map id=>match ren pi id with
  |some id'=>some (.map id')
  |none=>Zl9 T (.map id)
 |_,.it id=>match ren pi id with
  |some id'=>some (.it id')
  |none=>none
 |_,.ptr id i j=>match ren pi id with
  |some id'=>some (.ptr id' i j)
  |none=>Zl9 T (.ptr id i j)
 |n+1,.agg cs=>match Zj (TV.can T pi n) cs with
  |some ds=>some (.agg ds)
  |none=>none
 |n+1,.tup cs=>match Zj (TV.can T pi n) cs with
  |some ds=>some (.tup ds)
  |none=>none
 |n+1,.fn f a b=>match Zj (TV.can T pi n) a,Zj (TV.can T pi n) b with
  |some a',some b'=>some (.fn f a' b')
  |_,_=>none
 |_,_=>none
def TO.can (T:TS U) (pi:List (Id×Id)):TO U→Option (TO U)
 | .box cs=>match Zj (TV.can T pi depth) cs with
  |some ds=>some (.box ds)
  |none=>none
 | .gone=>none
 |o=>some o
theorem Zk3 (hU:UOk U) {T:TS U} {d d':TV U} (hi:d.inv T.objs) (hb:∀id cs,T.objs id=some (.box cs)→∀c∈cs,c.inv T.objs) (h:Zl9 T d=some d'):D.pur T.enc.objs T.enc.fz d.enc=some d'.enc∧d'.fulls=[]:=by
 unfold Zl9 at h;unfold D.pur;split at h;rotate_left;simp at h;rename_i hf;rw[if_pos (show ((d.enc.ids T.enc.objs depth).all T.enc.fz)=true from hf)];split at h
 ·rename_i id i' j;split at h;rotate_left;simp at h;rename_i cs ho;split at h;rotate_left;simp at h;rename_i h0;subst h0;split at h;rotate_left;simp at h;rename_i ls hls;cases h;have:=Zcq 7 (fun c hc=>hb id cs ho c (Zod hc)) hls;rw[Zby]at this;simp only[TV.enc,depth,D.toP,Zd ho,ZaS,if_true,this,Zoe];exact⟨trivial,rfl⟩
 ·split at h;rotate_left;simp at h;rename_i l hl;cases h;rw[ZcU hi hl depth];exact⟨rfl,rfl⟩
theorem ZhG (lk:Id→Option Obj) (fz:Id→Bool) (pi:List (Id×Id)) (n:Nat) (x:P):D.can lk fz pi n (.p x)=some (.p x):=by cases n<;>rfl
theorem Zip (hU:UOk U) {T:TS U} (hb:∀id cs,T.objs id=some (.box cs)→∀c∈cs,c.inv T.objs) {pi:List (Id×Id)}:∀(n:Nat) (d d':TV U),d.inv T.objs→d.can T pi n=some d'→
  d.enc.can T.enc.objs T.enc.fz pi n=some d'.enc∧∀q∈d'.fulls,∃id,ren pi id=some q.1∧(id,q.2)∈d.fulls:=by
 have pur:∀(d d':TV U),d.inv T.objs→Zl9 T d=some d'→D.pur T.enc.objs T.enc.fz d.enc=some d'.enc∧∀q∈d'.fulls,∃id,ren pi id=some q.1∧(id,q.2)∈d.fulls:=fun d d' hi h=>by obtain⟨h1,h2⟩:=Zk3 hU hi hb h;exact⟨h1,by rw[h2];simp⟩
 have base:∀(n:Nat) (d d':TV U),(∀cs,d≠ .agg cs)→(∀cs,d≠ .tup cs)→(∀f a b,d≠ .fn f a b)→d.inv T.objs→d.can T pi n=some d'→
   d.enc.can T.enc.objs T.enc.fz pi n=some d'.enc∧∀q∈d'.fulls,∃id,ren pi id=some q.1∧(id,q.2)∈d.fulls:=by
  intro n d d' h1 h2 h3 hi h;cases d with
  |v t x=>simp only[TV.can,Znv]at h;subst h;exact⟨ZhG _ _ _ _ _,by simp[TV.fulls]⟩
  |pp cs=>simp only[TV.can,Znv]at h;subst h;exact⟨ZhG _ _ _ _ _,by simp[TV.fulls]⟩
  |nilp=>simp only[TV.can,Znv]at h;subst h;exact⟨ZhG _ _ _ _ _,by simp[TV.fulls]⟩
  |nilfn=>simp only[TV.can,Znv]at h;subst h;exact⟨ZhG _ _ _ _ _,by simp[TV.fulls]⟩
  |dead=>simp only[TV.can,Znv]at h;subst h;exact⟨by cases n<;>rfl,by simp[TV.fulls]⟩
  |undef=>simp only[TV.can,Znv]at h;subst h;exact⟨by cases n<;>rfl,by simp[TV.fulls]⟩
  |nils t=>simp only[TV.can,Znv]at h;subst h;exact⟨by cases n<;>rfl,by simp[TV.fulls]⟩
  |clip t xs=>simp only[TV.can,Znv]at h;subst h;exact⟨by cases n<;>rfl,by simp[TV.fulls]⟩
  |full id m=>
   simp only[TV.can]at h;split at h
   ·rename_i id' hr;cases h;refine⟨by cases n<;>simp only[TV.enc,D.can,hr],fun q hq=> ?_⟩;simp only[TV.fulls,Znm]at hq;subst hq;exact⟨id,hr,by simp[TV.fulls]⟩
   ·rename_i hr;obtain⟨q1,q2⟩:=pur _ _ hi h;exact⟨by cases n<;>simp only[TV.enc,D.can,hr]<;>exact q1,q2⟩
  |sl id off len=>
   simp only[TV.can]at h;split at h
   ·rename_i id' hr;cases h;exact⟨by cases n<;>simp only[TV.enc,D.can,hr],by simp[TV.fulls]⟩
   ·rename_i hr;obtain⟨q1,q2⟩:=pur _ _ hi h;exact⟨by cases n<;>simp only[TV.enc,D.can,hr]<;>exact q1,q2⟩
  |map id=>
   simp only[TV.can]at h;split at h
   ·rename_i id' hr;cases h;exact⟨by cases n<;>simp only[TV.enc,D.can,hr],by simp[TV.fulls]⟩
   ·rename_i hr;obtain⟨q1,q2⟩:=pur _ _ hi h;exact⟨by cases n<;>simp only[TV.enc,D.can,hr]<;>exact q1,q2⟩
  |it id=>
   simp only[TV.can]at h;split at h;rotate_left;simp at h;rename_i id' hr;cases h;exact⟨by cases n<;>simp only[TV.enc,D.can,hr],by simp[TV.fulls]⟩
  |ptr id a j=>
   simp only[TV.can]at h;split at h
   ·rename_i id' hr;cases h;exact⟨by cases n<;>simp only[TV.enc,D.can,hr],by simp[TV.fulls]⟩
   ·rename_i hr;obtain⟨q1,q2⟩:=pur _ _ hi h;exact⟨by cases n<;>simp only[TV.enc,D.can,hr]<;>exact q1,q2⟩
  |agg cs=>exact absurd rfl (h1 cs)
  |tup cs=>exact absurd rfl (h2 cs)
  |fn f a b=>exact absurd rfl (h3 f a b)
 intro n
 induction n with
 |zero=>
  intro d d' hi h;refine base 0 d d' ?_ ?_ ?_ hi h
  all_goals (intros;intro hc;subst hc;simp[TV.can]at h)
 |succ n ih=>
  have lst:∀(cs ds:List (TV U)),(∀c∈cs,c.inv T.objs)→Zj (TV.can T pi n) cs=some ds→Zj (D.can T.enc.objs T.enc.fz pi n) (TV.encs cs)=some (TV.encs ds)∧∀q∈TV.fullsL ds,∃id,ren pi id=some q.1∧(id,q.2)∈TV.fullsL cs:=by
   intro cs
   induction cs with
   |nil=>intro ds _ h;simp[Zj]at h;subst h;exact⟨rfl,by simp[TV.fullsL]⟩
   |cons c cs ihc=>
    intro ds hi h;simp only[Zj]at h;split at h;rotate_left;simp at h;rename_i y ys h1 h2;cases h;obtain⟨q1,q2⟩:=ih c y (hi c (by simp)) h1;obtain⟨q3,q4⟩:=ihc ys (fun a ha=>hi a (by simp[ha])) h2;refine⟨by simp only[TV.encs,Zj,q1,q3],fun q hq=> ?_⟩;simp only[TV.fullsL,Zni]at hq⊢
    rcases hq with hq |hq
    ·obtain⟨id,a1,a2⟩:=q2 q hq;exact⟨id,a1,.inl a2⟩
    ·obtain⟨id,a1,a2⟩:=q4 q hq;exact⟨id,a1,.inr a2⟩
  intro d d' hi h;cases d with
  |agg cs=>
   simp only[TV.can]at h;split at h;rotate_left;simp at h;rename_i ds hds;cases h;obtain⟨q1,q2⟩:=lst cs ds (ZhM hi) hds;refine⟨?_,q2⟩;rw[TV.enc,TV.enc];rcases ZdS (TV.encs cs)with ⟨ps,p1,p2⟩ |p2
   ·rw[p2,ZhG];rw[p1]at q1;have:Zj (D.can T.enc.objs T.enc.fz pi n) (ps.map .p)=some (ps.map .p):=by
     clear q1 p1 p2
     induction ps with
     |nil=>rfl
     |cons x r ih=>simp only[Znh,Zj,ZhG,ih]
    rw[this,Znv]at q1;rw[←q1,Zco]
   ·rw[p2];simp only[D.can,q1]
  |tup cs=>
   simp only[TV.can]at h;split at h;rotate_left;simp at h;rename_i ds hds;cases h;obtain⟨q1,q2⟩:=lst cs ds (fun c hc q hq=>hi q (Zr.2 ⟨c,hc,hq⟩)) hds;exact⟨by simp only[TV.enc,D.can,q1],q2⟩
  |fn f a b=>
   simp only[TV.can]at h;split at h;rotate_left;simp at h;rename_i a' b' ha hb';cases h;obtain⟨q1,q2⟩:=lst a a' (fun c hc q hq=>hi q (by simp only[TV.fulls,Zni];exact .inl (Zr.2 ⟨c,hc,hq⟩))) ha;obtain⟨q3,q4⟩:=lst b b' (fun c hc q hq=>hi q (by simp only[TV.fulls,Zni];exact .inr (Zr.2 ⟨c,hc,hq⟩))) hb';refine⟨?_,fun q hq=> ?_⟩
   ·rw[TV.enc,TV.enc];unfold fnD;cases hpa:Zj D.pure? (TV.encs a)with
    |none=>simp only[D.can,q1,q3];rfl
    |some x=>
     cases hpb:Zj D.pure? (TV.encs b)with
     |none=>simp only[D.can,q1,q3];rfl
     |some y=>
      have key:∀(ps:List P),Zj (D.can T.enc.objs T.enc.fz pi n) (ps.map .p)=some (ps.map .p):=by
       intro ps
       induction ps with
       |nil=>rfl
       |cons x r ih=>simp only[Znh,Zj,ZhG,ih]
      rw[Zv hpa,key,Znv]at q1;rw[Zv hpb,key,Znv]at q3;rw[←q1,←q3,Zay,Zay];rfl
   ·simp only[TV.fulls,Zni]at hq⊢
    rcases hq with hq |hq
    ·obtain⟨id,a1,a2⟩:=q2 q hq;exact⟨id,a1,.inl a2⟩
    ·obtain⟨id,a1,a2⟩:=q4 q hq;exact⟨id,a1,.inr a2⟩
  |_=>exact base (n+1) _ _ (by simp) (by simp) (by simp) hi h
def mkT (ep:Nat) (ls:List (Nat×TV U)) (lo:List (Id×TO U)):TS U:={slots:=Zat .dead ls,objs:=Zg lo,fz:=fun _=>false,ep:=ep}
theorem Zcz:∀(ks:List Nat) (ds:List (TV U)) (x:Nat),(Zat TV.dead (ks.zip ds) x).enc=Zat D.dead (ks.zip (TV.encs ds)) x
 | [],ds,x=>rfl
 |k::ks,[],x=>rfl
 |k::ks,d::ds,x=>by
  simp only[List.zip_cons_cons,TV.encs,Zat];split
  ·rfl
  ·exact Zcz ks ds x
theorem Zb1:∀(ids:List Id) (os:List (TO U)) (x:Id),ZiL (Zg (ids.zip os) x)=Zg (ids.zip (os.map TO.enc)) x
 | [],os,x=>rfl
 |k::ks,[],x=>rfl
 |k::ks,d::ds,x=>by
  simp only[List.zip_cons_cons,Znh,Zg];split
  ·rfl
  ·exact Zb1 ks ds x
theorem Zmk (ep:Nat) (ks:List Nat) (ds:List (TV U)) (ids:List Id) (os:List (TO U)):(mkT ep (ks.zip ds) (ids.zip os)).enc=mkS ep (ks.zip (TV.encs ds)) (ids.zip (os.map TO.enc)):=by
 refine ZeL ?_ ?_ rfl rfl
 ·funext x;exact Zcz ks ds x
 ·funext x;exact Zb1 ids os x
mutual
def TV.own (T:TS U):TV U→List Id
 | .full id _ | .sl id _ _ | .map id | .it id | .ptr id _ _=>if T.fz id then []else [id]
 | .agg cs=>TV.ownL T cs
 | .tup cs=>TV.ownL T cs
 | .fn _ a b=>TV.ownL T a++TV.ownL T b
 |_=>[]
def TV.ownL (T:TS U):List (TV U)→List Id
 | []=>[]
 |d::r=>d.own T++TV.ownL T r
end
def Zc2 (T:TS U):Nat→List Id→List Id→List Id
 |0,_,acc=>acc
 |_+1,[],acc=>acc
 |n+1,id::r,acc=>if acc.contains id then Zc2 T n r acc else match T.objs id with
  |some (.box cs)=>Zc2 T n (r++TV.ownL T cs) (acc++[id])
  |some _=>Zc2 T n r (acc++[id])
  |none=>Zc2 T n r acc
def Zk8 (lent:List Nat):Nat→List Id→List (Id×Id)
 |_,[]=>[]
 |c,id::r=>if id.1=0∧id.2.2=0∧lent.contains id.2.1=true then (id,id)::Zk8 lent c r else ((0,c,1),id)::Zk8 lent (c+1) r
def Zgo (lent:List Nat) (n:Nat):List Id:=lent.map (fun k=>(0,k,0))++(List.range' 1 (n - lent.length)).map fun c=>(0,c,1)
def ZlJ:Option (TO U)→Bool
 |some .gone=>false
 |some _=>true
 |none=>false
def ZlL (T:TS U) (s:Nat):List Id:=
 match s / 100000 with
 |0=>(T.slots s).enc.ids T.enc.objs depth
 |_=>((T.slots (s % 100000)).enc.ids T.enc.objs depth).tail
def Zkv (T:TS U) (lent live frz:List Nat):Option (List (TV U)×List (TO U)):=
 let fs:=frz.flatMap (ZlL T)
 let T1:=T.freezeL fs
 let pi:=Zk8 lent 1 (Zc2 T1 200 (lent.map (fun k=>(0,k,0))++TV.ownL T1 (live.map T1.slots)) [])
 if (fs.all fun id=>ZlJ (T.objs id))&&Zgj T1.enc pi 1&&ZlG pi then
  match Zj (fun t=>(T1.slots t).can T1 pi depth) live,Zj (fun x:Id×Id=>match T1.objs x.2 with |some o=>o.can T1 pi |none=>none) pi with
  |some ds,some os=>if pi.map (·.1)=Zgo lent os.length then some (ds,os)else none
  |_,_=>none
 else none
def mkC (lent live:List Nat) (ds:List (TV U)) (os:List (TO U)):TS U:=mkT 1 (live.zip ds) ((Zgo lent os.length).zip os)
theorem ZjQ {pi:List (Id×Id)} (hn:Zau (pi.map (·.1))=true) {os:List (TO U)} {new old:Id} (h:ren pi old=some new) {j:Nat} (hj:pi[j]? =some (new,old)):Zg ((pi.map (·.1)).zip os) new=os[j]? :=by
 clear h
 induction pi generalizing os j with
 |nil=>simp at hj
 |cons x r ih=>
  obtain⟨a,b⟩:=x;simp only[Znh,Zau,Zm8,ZnD,decide_eq_true_eq]at hn;cases os with
  |nil=>simp[Zg]
  |cons o os=>
   simp only[Znh,List.zip_cons_cons,Zg];cases j with
   |zero=>simp only[List.getElem?_cons_zero,Znv,Znw]at hj;simp[hj.1]
   |succ j=>
    simp only[List.getElem?_cons_succ]at hj⊢
    have hne:new≠a:=fun he=>by have:=hn.1 new (ZnT.2 ⟨_,ZnU hj,rfl⟩);exact this he
    rw[if_neg hne];exact ih hn.2 hj
theorem Zhv {T:TS U} (h:T.Inv) (fs:List Id):(T.freezeL fs).Inv:=⟨h.slots,h.objs⟩
theorem Zjc (hU:UOk U) {C:Ctx} {r:Fm} {G:Zg0} {k:List Item} {T:TS U} (hT:T.Inv) {lent live frz:List Nat} {ds:List (TV U)} {os:List (TO U)} (h:Zkv T lent live frz=some (ds,os)):
  (mkC lent live ds os).Inv∧(AWP C r G k (mkC lent live ds os).enc→AWP C r G k T.enc):=by
 unfold Zkv at h;dsimp only at h;generalize hfs:frz.flatMap (ZlL T)=fs at h;generalize hpi:Zk8 lent 1 (Zc2 (T.freezeL fs) 200 (lent.map (fun k=>(0,k,0))++TV.ownL (T.freezeL fs) (live.map (T.freezeL fs).slots)) [])=pi at h;split at h;rotate_left;simp at h;rename_i hc;simp only[Zm8,ZnD]at hc;obtain⟨⟨hhere,hok⟩,hkeep⟩:=hc;split at h;rotate_left;simp at h;rename_i ds' os' hds hos;split at h;rotate_left;simp at h;rename_i hids;simp only[Znv,Znw]at h;obtain⟨rfl,rfl⟩:=h;have hT1:=Zhv hT fs;have hb:∀id cs,(T.freezeL fs).objs id=some (.box cs)→∀c∈cs,c.inv (T.freezeL fs).objs:=fun id cs ho=>hT1.objs id _ ho
 have hn1:Zau (pi.map (·.1))=true:=by simp only[Zgj,Zm8]at hok;exact hok.1.1
 have pdsL:Zj (fun t=>((T.freezeL fs).enc.slots t).can (T.freezeL fs).enc.objs (T.freezeL fs).enc.fz pi depth) live=some (TV.encs ds')∧∀d∈ds',∃t∈live,∀q∈d.fulls,∃id,ren pi id=some q.1∧(id,q.2)∈((T.freezeL fs).slots t).fulls:=by
  clear hpi hids
  induction live generalizing ds' with
  |nil=>simp[Zj]at hds;subst hds;exact⟨rfl,by simp⟩
  |cons t live ih=>
   simp only[Zj]at hds;split at hds;rotate_left;simp at hds;rename_i y ys h1 h2;cases hds;obtain⟨q1,q2⟩:=Zip hU hb depth _ _ (hT1.slots t) h1;obtain⟨q3,q4⟩:=ih ys h2;refine⟨by simp only[Zj,TV.encs,q3];rw[show ((T.freezeL fs).enc.slots t)=((T.freezeL fs).slots t).enc from rfl,q1],fun d hd=> ?_⟩;rcases Znj.1 hd with rfl |hd
   ·exact⟨t,by simp,q2⟩
   ·obtain⟨t',ht',hq⟩:=q4 d hd;exact⟨t',by simp[ht'],hq⟩
 have objC:∀(l:List (Id×Id)) (ol:List (TO U)),Zj (fun x:Id×Id=>match (T.freezeL fs).objs x.2 with |some o=>o.can (T.freezeL fs) pi |none=>none) l=some ol→
   Zj (fun x:Id×Id=>match (T.freezeL fs).enc.objs x.2 with |some o=>o.can (T.freezeL fs).enc.objs (T.freezeL fs).enc.fz pi |none=>none) l=some (ol.map TO.enc)∧
   ∀(j:Nat) (x:Id×Id) (o:TO U),l[j]? =some x→ol[j]? =some o→∃o0,(T.freezeL fs).objs x.2=some o0∧(∀n,o.len?=some n→o0=o)∧∀cs,o= .box cs→∃cs0,o0= .box cs0∧∀d∈cs,∃d0∈cs0,∀q∈d.fulls,∃id,ren pi id=some q.1∧(id,q.2)∈d0.fulls:=by
  intro l
  induction l with
  |nil=>intro ol h;simp[Zj]at h;subst h;exact⟨rfl,by simp⟩
  |cons x l ih=>
   intro ol h;simp only[Zj]at h;split at h;rotate_left;simp at h;rename_i o ol' h1 h2;cases h;obtain⟨q3,q4⟩:=ih ol' h2;split at h1;rotate_left;simp at h1;rename_i o0 ho;have he:(T.freezeL fs).enc.objs x.2=some o0.enc:=Zd ho;have main:o0.enc.can (T.freezeL fs).enc.objs (T.freezeL fs).enc.fz pi=some o.enc∧((∀n,o.len?=some n→o0=o)∧∀cs,o= .box cs→∃cs0,o0= .box cs0∧∀d∈cs,∃d0∈cs0,∀q∈d.fulls,∃id,ren pi id=some q.1∧(id,q.2)∈d0.fulls):=by
    cases o0 with
    |box cs0=>
     simp only[TO.can]at h1;split at h1;rotate_left;simp at h1;rename_i cs1 hcs;cases h1;have lst:∀(c0 c1:List (TV U)),(∀c∈c0,c.inv (T.freezeL fs).objs)→Zj (TV.can (T.freezeL fs) pi depth) c0=some c1→Zj (D.can (T.freezeL fs).enc.objs (T.freezeL fs).enc.fz pi depth) (TV.encs c0)=some (TV.encs c1)∧∀d∈c1,∃d0∈c0,∀q∈d.fulls,∃id,ren pi id=some q.1∧(id,q.2)∈d0.fulls:=by
      intro c0
      induction c0 with
      |nil=>intro c1 _ h;simp[Zj]at h;subst h;exact⟨rfl,by simp⟩
      |cons c c0 ihc=>
       intro c1 hi h;simp only[Zj]at h;split at h;rotate_left;simp at h;rename_i y ys h1 h2;cases h;obtain⟨a1,a2⟩:=Zip hU hb depth c y (hi c (by simp)) h1;obtain⟨a3,a4⟩:=ihc ys (fun a ha=>hi a (by simp[ha])) h2;refine⟨by simp only[TV.encs,Zj,a1,a3],fun d hd=> ?_⟩;rcases Znj.1 hd with rfl |hd
       ·exact⟨c,by simp,a2⟩
       ·obtain⟨d0,hd0,hq⟩:=a4 d hd;exact⟨d0,by simp[hd0],hq⟩
     obtain⟨a1,a2⟩:=lst cs0 cs1 (hb x.2 cs0 ho) hcs;refine⟨by simp only[ZaS,Obj.can,a1],(fun n hq=>by cases hq),fun cs hq=> ?_⟩;cases hq;exact⟨cs0,rfl,a2⟩
    |gone=>simp[TO.can]at h1
    |arr t xs fix=>simp only[TO.can,Znv]at h1;subst h1;exact⟨rfl,fun _ _=>rfl,fun cs hq=>by cases hq⟩
    |map a b kv=>simp only[TO.can,Znv]at h1;subst h1;exact⟨rfl,fun _ _=>rfl,fun cs hq=>by cases hq⟩
    |sit s p=>simp only[TO.can,Znv]at h1;subst h1;exact⟨rfl,fun _ _=>rfl,fun cs hq=>by cases hq⟩
    |own a b c d e f=>simp only[TO.can,Znv]at h1;subst h1;exact⟨rfl,fun _ _=>rfl,fun cs hq=>by cases hq⟩
    |mit a b r c=>simp only[TO.can,Znv]at h1;subst h1;exact⟨rfl,fun _ _=>rfl,fun cs hq=>by cases hq⟩
   refine⟨by simp only[Zj,he,main.1,q3,Znh],fun j y o' hj hj'=> ?_⟩;cases j with
   |zero=>
    simp only[List.getElem?_cons_zero,Znv]at hj hj';subst hj hj';exact⟨o0,ho,main.2⟩
   |succ j=>exact q4 j y o' (by simpa using hj) (by simpa using hj')
 obtain⟨o1,o2⟩:=objC pi os' hos;have hlen:os'.length=pi.length:=(Zl hos).1;have carry:∀q,(∃id,ren pi id=some q.1∧Zgs (T.freezeL fs).objs (id,q.2))→Zgs (mkC lent live ds' os').objs q:=by
  rintro q ⟨id,hr,o,ho,hl⟩;have hm:=ZjR hr;obtain⟨j,hj⟩:=List.mem_iff_getElem?.1 hm;have hjl:j < os'.length:=by rw[hlen];exact(Zne.1 hj).1
  have hoj:os'[j]? =some os'[j]:=by simp[hjl]
  obtain⟨o0,h0,h00,_⟩:=o2 j _ _ hj hoj;refine⟨os'[j], ?_,fun n he=> ?_⟩
  ·show Zg ((Zgo lent os'.length).zip os') q.1=_;rw[←hids,ZjQ hn1 hr hj,hoj]
  ·have:=h00 n he;dsimp only at h0 ho;rw[h0,Znv]at ho;exact hl n (by rw[←ho,this];exact he)
 refine⟨⟨fun kk=> ?_,fun id o ho=> ?_⟩,fun ha=> ?_⟩
 ·show TV.inv _ (Zat TV.dead (live.zip ds') kk);rcases ZaM TV.dead (live.zip ds') kk with hq |hq
  ·rw[hq];exact Zf rfl
  ·have hm:=(List.of_mem_zip hq).2;obtain⟨t,_,hf⟩:=pdsL.2 _ hm;intro q hq';obtain⟨id,h1,h2⟩:=hf q hq';exact carry q ⟨id,h1,hT1.slots t _ h2⟩
 ·have ho':Zg ((Zgo lent os'.length).zip os') id=some o:=ho;have hmem:=List.of_mem_zip (ZR ho');cases o with
  |box cs=>
   obtain⟨j,hj⟩:=List.mem_iff_getElem?.1 hmem.2;have hjl:j < pi.length:=by rw[←hlen];exact(Zne.1 hj).1
   obtain⟨o0,h0,_,hbx⟩:=o2 j pi[j] _ (by simp[hjl]) hj;obtain⟨cs0,rfl,hf⟩:=hbx cs rfl;intro d hd q hq;obtain⟨d0,hd0,hf⟩:=hf d hd;obtain⟨id',h1,h2⟩:=hf q hq;exact carry q ⟨id',h1,hb _ _ h0 d0 hd0 _ h2⟩
  |_=>trivial
 ·intro ρ S a w hrep hd;obtain⟨S',_,_,hfr,_⟩:=hrep.freeze fs (fun f hf=>by
   have:=hhere f hf;unfold ZlJ at this;split at this
   ·simp at this
   ·rename_i o hg ho;exact⟨o.enc,Zd ho,by
     intro he;cases o with
     |gone=>exact hg rfl
     |_=>simp[TO.enc]at he⟩
   ·simp at this)
  rw[←Eng.freezeL_enc]at hfr;have h2:=hfr.canon (Znq 1) hok hkeep o1 pdsL.1;rw[show (pi.map (·.1))=Zgo lent os'.length from hids]at h2;unfold mkC at ha;rw[Zmk]at ha;exact ha _ S' a w (h2.weakX fun _ h=>h.elim) hd
end
end Eng

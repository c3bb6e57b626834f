/- The engine, text 4: an abstract evaluator of Go code over pure data, proved sound. -/
import Derived.Test.YtdmabekeafhflaaGreatDoorE3
import Derived.Maps.RangeRun
import Derived.Below
import Derived.Laws.OwnMore
set_option linter.unusedVariables false
set_option linter.unusedSimpArgs false
set_option linter.unusedSectionVars false
open Array renaming getElem?_append→ZnQ, getElem?_eq_some_iff→Znq, toArray_toList→ZnT
open Bool renaming and_eq_true→Znu, false_eq_true→Znv
open List renaming all_eq_true→ZnV, cons.injEq→Zox, cons_append→ZnX, eq_nil_of_length_eq_zero→ZnZ, getElem?_append_right→Zn1, getElem?_cons_zero→Zny, getElem?_eq_getElem→Zn2, getElem?_eq_some_iff→ZnA, getElem?_map→ZnB, getElem?_zip_eq_some→Zoy, length→Zoq, length_append→Zoz, length_map→Zor, map_append→ZoA, map_cons→Zn6, map_map→ZoB, map_nil→Zot, mem_append→Zn7, mem_cons→ZnD, mem_cons_of_mem→Zoa, mem_iff_getElem?→Zou, mem_map→Zod, mem_of_find?_eq_some→ZoC, mem_of_getElem?→Zoe, mem_singleton→ZnF, zip_cons_cons→ZoD
open Nat renaming le_refl→ZnJ, zero_add→Zok
open Option renaming map_some→Zow, some.inj→ZnN, some.injEq→ZnO
open Prod renaming mk.injEq→ZnP
namespace Eng
open Go
section
variable {U:Zd} {R:Type} {X:ZG U} {T:TS U} {i ty:Nat} {k:Zk U→Option R} {r:R}
theorem ty_sl {t u:Nat} {e:TT U} (he:X.get t=some e) (hd:e.ti.d= .sl u):∃a b c,X.E.ty t=some ⟨.sl u,a,b,c⟩:=by have:=Zs he;obtain⟨⟨d,a,b,c⟩,_,_,_,_⟩:=e;simp_all
theorem ty_arr {t m u:Nat} {e:TT U} (he:X.get t=some e) (hd:e.ti.d= .arr m u):∃a b c,X.E.ty t=some ⟨.arr m u,a,b,c⟩:=by have:=Zs he;obtain⟨⟨d,a,b,c⟩,_,_,_,_⟩:=e;simp_all
theorem ZlR {t a b:Nat} {e:TT U} (he:X.get t=some e) (hd:e.ti.d= .map a b):∃x y z,X.E.ty t=some ⟨.map a b,x,y,z⟩:=by have:=Zs he;obtain⟨⟨d,x,y,z⟩,_,_,_,_⟩:=e;simp_all
theorem as_eq {car:Nat→Type} {l:Lf car} {t:Ty} {x:El car t} (h:l.as t=some x):l=⟨t,x⟩:=by unfold Lf.as at h;split at h;rotate_left;simp at h;rename_i he;obtain⟨t',y⟩:=l;grind
theorem Zga {cs:List (Lf U.car)}:∀(ts:List Ty) (n:Nat) (k:List (Lf U.car)→Option R) {r:R},tabK cs ts n k=some r→∃ls,cs.drop n=ls++cs.drop (n+ls.length)∧k ls=some r
 | [],n,k,r,h=>⟨[],by simp,h⟩
 |t::ts,n,k,r,h=>by simp only[tabK]at h;obtain⟨x,hx,h⟩:=bind_some h;obtain⟨ls,h1,h2⟩:=Zga ts (n+1) _ h;unfold tabB at hx;split at hx;rotate_left;simp at hx;rename_i l hl;obtain⟨hlt,hle⟩:=ZnA.1 hl;have:=as_eq hx;refine⟨⟨t,x⟩::ls, ?_,h2⟩;rw[List.drop_eq_getElem_cons hlt,hle,this,h1,ZnX,List.length_cons];grind
theorem Zfv (hU:UOk U) (hX:TOk X) (hT:T.Inv) {t:Nat} {x ix:Operand} (h:Zcd X T t x ix k=some r):Snd X T i (.indexAddr t x ix) ty k r:=by
 unfold Zcd at h;split at h;rotate_left;simp at h;rename_i e d k1 n he hd hn;split at h
 ·rename_i u hu;obtain⟨a,b,c,hty⟩:=ty_sl he hu;split at h;rotate_left;simp at h;rename_i eu heu;split at h
  ·rename_i t' xs;split at h;rotate_left;simp at h;rename_i hs;obtain⟨y,hy,h⟩:=bind_some h;obtain⟨i1,i2,i3⟩:=Zin hy;refine⟨_,[true], ?_,by simp,ZL.pure (Ze rfl),h⟩;simp_all[Zf,TV.enc,Zd.encE,Zk.enc,Zb,Zs,ZaH]
  ·rename_i id m;split at h
   ·rename_i t' xs fix ho;split at h;rotate_left;simp at h;rename_i hs;obtain⟨hc,h⟩:=Zi h;refine⟨_,[_], ?_,Zw hc,ZL.pure (Ze rfl),h⟩;simp only[Zf,Zb hX hn,Zb hX hd,TV.enc,Zd.encE,hty,Zs heu,Zc ho,ZI,hs,if_true,Zk.enc,Zot,Zbg hT hd ho,Zok]
   ·rename_i t' c v xs lo out ho;split at h;rotate_left;simp at h;rename_i hs;obtain⟨hc,h⟩:=Zi h;refine⟨_,[_], ?_,Zw hc,ZL.pure (Ze rfl),h⟩;simp only[Zf,Zb hX hn,Zb hX hd,TV.enc,Zd.encE,hty,Zs heu,Zc ho,Zfb,hs,if_true,Zk.enc,Zot,ZgL hT hd ho,Zok]
   simp_all
  ·rename_i id off len;split at h;rotate_left;simp at h;rename_i t' xs fix ho;split at h;rotate_left;simp at h;rename_i hs;obtain⟨hc,h⟩:=Zi h;refine⟨_,[_], ?_,Zw hc,ZL.pure (Ze rfl),h⟩;simp_all[Zf,TV.enc,Zd.encE,ZI,Zk.enc,Zb,Zs,Zc]
  simp_all
 ·rename_i m u hu;obtain⟨a,b,c,hty⟩:=ty_arr he hu;split at h;rotate_left;simp at h;rename_i eu heu;split at h
  ·rename_i cs;obtain⟨hc,h⟩:=Zi h;cases hm:Nat.blt 8 m with
   |true=>
    rw[hm,cond_true]at h;split at h;rotate_left;simp at h;obtain⟨ls,h1,h2⟩:=Zga _ _ _ h;rw[←h1]at h2;refine⟨_,[_], ?_,Zw hc,ZL.pure (Ze rfl),h2⟩;simp only[Zf,Zb hX hn,Zb hX hd,TV.enc,Zd.encE,hty,Zs heu,Zk.enc,Zot,List.map_drop]
   |false=>
    rw[hm,cond_false]at h;refine⟨_,[_], ?_,Zw hc,ZL.pure (Ze rfl),h⟩;simp_all[Zf,TV.enc,Zd.encE,Zk.enc,Zb,Zs]
  ·obtain⟨hc,h⟩:=Zi h;refine⟨_,[_], ?_,Zw hc,ZL.pure (Ze rfl),h⟩;simp only[Zf,Zb hX hn,Zb hX hd,TV.enc,Zd.encE,hty,Zs heu,Zk.enc,Zot]
  simp_all
 simp_all
theorem ZjR (hX:TOk X) (hT:T.Inv) {t:Nat} {x ix:Operand} (h:Zhp X T t x ix k=some r):Snd X T i (.index t x ix) ty k r:=by unfold Zhp at h;split at h;rotate_left;simp at h;rename_i e s k1 n he hd hn;split at h;rotate_left;simp at h;rename_i hs;obtain⟨y,hy,h⟩:=bind_some h;obtain⟨i1,i2,i3⟩:=Zin hy;refine⟨_,[true], ?_,by simp,ZL.pure (Zah _ _),h⟩;simp_all[Zf,TV.enc,Zd.encE,Zk.enc,Zb,Zt]
theorem Zdy (hX:TOk X) {a:Ty} (ha:a.isKey X.keys=true) (x y:El U.car a):P.key (U.encE a x) (U.encE a y)=Zl3 X.kq a x y:=by
 cases a<;>simp only[Ty.isKey,Znv]at ha
 ·rfl
 ·simp only[Zd.encE,P.key,P.eqv,P.eqc,if_true,Option.getD_some];rfl
 ·rfl
 ·obtain⟨p,q,r,s,h1,h2,h3⟩:=hX.kq _ (by simp_all) x y;grind[Zd.encE,ZhA,Zl3]
theorem Zc1 (hX:TOk X) {a:Ty} (ha:a.isKey X.keys=true) (x:El U.car a):Zam a.td (U.encE a x)=true:=by
 cases a<;>simp only[Ty.isKey,Znv]at ha
 ·rfl
 ·simp[Ty.td,Zd.encE,Zam,ZZ]
 ·rfl
 ·obtain⟨p,q,r,s,h1,_,_⟩:=hX.kq _ (by simp_all) x x;grind[Zd.encE,Ty.td,Zam]
theorem Zit (hX:TOk X) {a b:Ty} (ha:a.isKey X.keys=true) (x:El U.car a):∀kv:List (El U.car a×El U.car b),(kv.map fun e=>(U.encE a e.1,U.encE b e.2)).find? (fun e=>P.key (U.encE a x) e.1)=(kv.find? fun e=>Zl3 X.kq a x e.1).map fun e=>(U.encE a e.1,U.encE b e.2)
 | []=>rfl
 |e::r=>by
  simp only[Zn6,List.find?_cons,Zdy hX ha];split
  ·rfl
  ·exact Zit hX ha x r
theorem Zih (hX:TOk X) {a b:Ty} (ha:a.isKey X.keys=true) (x:El U.car a) (kv:List (El U.car a×El U.car b)):Zbq (kv.map fun e=>(U.encE a e.1,U.encE b e.2)) (U.encE a x)=(Zhx X.kq kv x).map (U.encE b):=by unfold Zbq Zhx;rw[Zit hX ha];cases kv.find? fun e=>Zl3 X.kq a x e.1<;>rfl
theorem Zmr (hX:TOk X) {a b:Ty} (ha:a.isKey X.keys=true) (x:El U.car a) (y:El U.car b) (kv:List (El U.car a×El U.car b)):ZjD (kv.map fun e=>(U.encE a e.1,U.encE b e.2)) (U.encE a x) (U.encE b y)=(setB X.kq kv x y).map fun e=>(U.encE a e.1,U.encE b e.2):=by
 grind[ZjD,setB,List.any_map,Zdy,List.map_congr_left]
theorem ZmU (hX:TOk X) {a b:Ty} (ha:a.isKey X.keys=true) (x:El U.car a) (kv:List (El U.car a×El U.car b)):ZkY (kv.map fun e=>(U.encE a e.1,U.encE b e.2)) (U.encE a x)=(delB X.kq kv x).map fun e=>(U.encE a e.1,U.encE b e.2):=by
 grind[ZkY,delB,List.filter_congr,Zdy]
theorem ZmJ (hX:TOk X) {t:Nat} {x:Operand} {d:TV U} (hd:evT X T.slots t x=some d) {l:Lf U.car} (h:mapT T d=some l) {a b:Ty} {kv:List (El U.car a×El U.car b)} (hl:l.as (.map a b)=some kv):
  ZfI T.enc.objs (ev X.E T.enc.slots t x)=some (a.td,kv.map fun e=>(U.encE a e.1,U.encE b e.2)):=by
 rw[Zb hX hd];unfold mapT at h;split at h
 ·cases h;have:=ZM hl;cases this;rfl
 ·split at h;rotate_left;simp at h;rename_i ho;cases h;have:=ZM hl;cases this;grind[TV.enc,ZfI,Z5,Zc]
 simp_all
theorem Zhz (hU:UOk U) (hX:TOk X) (hT:T.Inv) {t kt:Nat} {x:Operand} {d:TV U} (hd:evT X T.slots t x=some d) {l:Lf U.car} (h:keyL X T kt d=some l) {a:Ty} {key:El U.car a} (hl:l.as a=some key):(ev X.E T.enc.slots t x).toP T.enc.objs 1=some (U.encE a key):=by unfold keyL at h;split at h;rotate_left;simp at h;rw[Zb hX hd,Zd2 hU (ZA hT hd) h 0,ZM hl];rfl
theorem ZiK (hU:UOk U) (hX:TOk X) (hT:T.Inv) {t:Nat} {m q:Operand} {ok:Bool} (h:ZfC X T t m q ok k=some r):Snd X T i (.lookup t m q ok) ty k r:=by
 unfold ZfC at h;split at h;rotate_left;simp at h;rename_i e he;split at h;rotate_left;simp at h;rename_i kt vt a b hd _;obtain⟨p1,p2,p3,hty⟩:=ZlR he hd;split at h;rotate_left;simp at h;rename_i ev' dm dk hev hm hk;split at h;rotate_left;simp at h;rename_i lm lk z0 hlm hlk hz0;split at h;rotate_left;simp at h;rename_i kv key z hkv hkey hz;split at h;rotate_left;simp at h;rename_i hc;have hzp:=hX.zl vt ev' z0 hev hz0;rw[ZM hz]at hzp;have hzp':U.encE b z=ev'.ti.zeroP:=hzp;have c0:((X.E.keyTD t).same a.td&&Zam a.td (U.encE a key))=true:=by grind[Zc1]
 have hmo:=ZmJ hX hm hlm hkv;have hkp:=Zhz hU hX hT hk hlk hkey;cases ok
 ·refine⟨_,[], ?_,by simp,ZL.pure (Zah _ _),h⟩;simp only[Zf,hty,Zs hev,hmo,hkp,c0,if_true,Zih hX hc.1,Zk.enc,Zot,TV.enc];cases Zhx X.kq kv key<;>simp[hzp']
 ·refine⟨_,[], ?_,by simp,ZL.pure (Ze (by simp[TV.fulls,TV.fullsL])),h⟩;simp only[Zf,hty,Zs hev,hmo,hkp,c0,if_true,Zih hX hc.1,Zk.enc,Zot,TV.enc,TV.encs];cases Zhx X.kq kv key<;>simp[hzp',Zd.encE]
theorem ZjG (hU:UOk U) (hX:TOk X) (hT:T.Inv) {t:Nat} {m q v:Operand} (h:Zbe X T t m q v k=some r):
  ∃e cs,Z6 X.E T.enc.slots T.enc.objs t m q v=some (e.enc cs)∧(∀q∈cs,q=true)∧ZL T i e∧k e=some r:=by
 unfold Zbe at h;split at h;rotate_left;simp at h;rename_i e he;split at h;rotate_left;simp at h;rename_i kt vt a b hd _;obtain⟨p1,p2,p3,hty⟩:=ZlR he hd;split at h;rotate_left;simp at h;rename_i ev' id dk dv hev hm hk hv;split at h;rotate_left;simp at h;rename_i a' b' kv0 lk lv' ho hlk hlv;split at h;rotate_left;simp at h;rename_i kv key y hkv hkey hy;split at h;rotate_left;simp at h;rename_i hc;have hab:=ZM hkv;cases hab;have c0:((X.E.keyTD t).same a.td&&Zam a.td (U.encE a key))=true:=by grind[Zc1]
 have hkp:=Zhz hU hX hT hk hlk hkey;have hvp:=Zd2 hU (ZA hT hv) hlv 7;rw[ZM hy]at hvp;have hem:ev X.E T.enc.slots 0 m= .map id:=by rw[Zb hX hm];rfl
 refine⟨_,[], ?_,by simp,Zcj rfl (fun n' hq=>by cases hq) (fun _=>by trivial),h⟩;grind[Z6,Z5,depth,Zd.encL,Zk.enc,TV.enc,Zc,Zb,Zmr]
theorem ZiL (hU:UOk U) (hX:TOk X) (hT:T.Inv) {t u:Nat} {m q:Operand} (h:ZfD X T t u m q k=some r):∃e cs,Zek X.E T.enc.objs [t,u] [ev X.E T.enc.slots t m,ev X.E T.enc.slots u q]=some (e.enc cs)∧(∀q∈cs,q=true)∧ZL T i e∧k e=some r:=by
 unfold ZfD at h;split at h;rotate_left;simp at h;rename_i e id dk he hm hk;split at h;rotate_left;simp at h;rename_i a1 b1 a b kv lk hd ho hlk;split at h;rotate_left;simp at h;rename_i key hkey;split at h;rotate_left;simp at h;rename_i hc;have c0:((X.E.keyTD t).same a.td&&Zam a.td (U.encE a key))=true:=by grind[Zc1]
 have hkp:=Zhz hU hX hT hk hlk hkey;have hem:ev X.E T.enc.slots t m= .map id:=by rw[Zb hX hm];rfl
 refine⟨_,[], ?_,by simp,Zcj rfl (fun n' hq=>by cases hq) (fun _=>by trivial),h⟩;grind[Zek,Z5,Zk.enc,TV.enc,Zt,Zc,ZmU]
theorem ZjQ (hX:TOk X) (hT:T.Inv) {t:Nat} {x:Operand} (h:Zho X T i t x k=some r):Snd X T i (.range t x) ty k r:=by
 unfold Zho at h;split at h
 ·rename_i e s he hd;split at h;rotate_left;simp at h;rename_i hs;refine⟨_,[], ?_,by simp,ZdA rfl (fun _=>by trivial),h⟩;simp_all[Zf,TV.enc,Zd.encE,Zk.enc,Zb5,Zt,Zb]
 ·rename_i e a b kv he hd;split at h;rotate_left;simp at h;rename_i hs;refine⟨_,[], ?_,by simp,ZdA rfl (fun _=>by trivial),h⟩;simp_all[Zf,TV.enc,Zd.encE,Zk.enc,ZbF,Zt,Zb]
 ·rename_i e id he hd;split at h;rotate_left;simp at h;rename_i a1 b1 a b kv hs ho;refine⟨_,[], ?_,by simp,ZdA rfl (fun _=>by trivial),h⟩;simp_all[Zf,TV.enc,Z5,Zk.enc,ZbF,Zt,Zb,Zc]
 simp_all
theorem Zk5 (hX:TOk X) (hT:T.Inv) {x:Operand} (h:Zj6 X T x k=some r):Snd X T i (.next x true) ty k r:=by
 unfold Zj6 at h;split at h;rotate_left;simp at h;rename_i id hd;split at h;rotate_left;simp at h;rename_i s pos ho
 by_cases hp:pos < s.length
 ·rw[decide_eq_true hp]at h;refine⟨_,[], ?_,by simp,Zcj (by simp[TV.fulls,TV.fullsL]) (fun n' hq=>by cases hq) (fun _=>by trivial),h⟩;simp_all[Zf,TV.enc,TV.encs,Zd.encE,Zb5,Zk.enc,Zb,Zc]
 ·rw[decide_eq_false hp]at h;refine⟨_,[], ?_,by simp,ZL.pure (Ze (by simp[TV.fulls,TV.fullsL])),h⟩;simp_all[Zf,TV.enc,TV.encs,Zd.encE,Zb5,Zk.enc,Zb,Zc]
theorem ZjT (hX:TOk X) (hT:T.Inv) {x:Operand} (h:Zhr X T x k=some r):Snd X T i (.entry x) ty k r:=by unfold Zhr at h;split at h;rotate_left;simp at h;rename_i id hd;split at h;rotate_left;simp at h;rename_i a b rest p q ho;refine⟨_,[], ?_,by simp,ZL.pure (Ze (by simp[TV.fulls,TV.fullsL])),h⟩;simp_all[Zf,TV.enc,TV.encs,ZbF,Zk.enc,Zb,Zc]
theorem Zhe (hX:TOk X) (hT:T.Inv) {x:Operand} {ix:Nat} (h:ZdR X T x ix k=some r):Snd X T i (.extract x ix) ty k r:=by unfold ZdR at h;split at h;rotate_left;simp at h;rename_i vs hd;split at h;rotate_left;simp at h;rename_i d hv;refine⟨_,[], ?_,by simp,ZL.pure (fun q hq=>ZA hT hd q (Zq.2 ⟨d,Zoe hv,hq⟩)),h⟩;simp_all[Zf,TV.enc,Zai,Zk.enc,Zb]
theorem Zmn (hX:TOk X) (hT:T.Inv) {t:Nat} {x:Operand} (h:Zmx X T t x k=some r):∃e cs,Zii X.E T.enc.objs [t] [ev X.E T.enc.slots t x]=some (e.enc cs)∧(∀q∈cs,q=true)∧ZL T i e∧k e=some r:=by
 unfold Zmx at h;split at h;rotate_left;simp at h;rename_i e d he hd;have hev:=Zb hX hd;split at h
 ·rename_i htd;split at h;rotate_left;simp at h;refine⟨_,[], ?_,by simp,ZL.pure (Zah _ _),h⟩;grind[Zii,TV.enc,Zd.encE,Zf4,Zk.enc,Zt]
 ·rename_i u htd;split at h
  ·refine⟨_,[], ?_,by simp,ZL.pure (Zah _ _),h⟩;grind[Zii,TV.enc,Zd.encE,Zf4,Zk.enc,Zt]
  ·refine⟨_,[], ?_,by simp,ZL.pure (Zah _ _),h⟩;grind[Zii,TV.enc,Zd.encE,Zf4,Zk.enc,Zt]
  ·refine⟨_,[], ?_,by simp,ZL.pure (Zah _ _),h⟩;grind[Zii,TV.enc,Zd.encE,Zf4,Zk.enc,Zt]
  ·split at h
   ·rename_i ho;refine⟨_,[], ?_,by simp,ZL.pure (Zah _ _),h⟩;grind[Zii,TV.enc,Zd.encE,Zf4,Zk.enc,Zt,Zbg]
   ·rename_i ho;refine⟨_,[], ?_,by simp,ZL.pure (Zah _ _),h⟩;grind[Zii,TV.enc,Zd.encE,Zf4,Zk.enc,Zt,ZgL]
   simp_all
  ·refine⟨_,[], ?_,by simp,ZL.pure (Zah _ _),h⟩;grind[Zii,TV.enc,Zd.encE,Zf4,Zk.enc,Zt]
  simp_all
 ·rename_i u v htd;split at h;rotate_left;simp at h;rename_i a b kv hm;obtain⟨hc,h⟩:=Zi h;refine⟨_,[_], ?_,Zw hc,ZL.pure (Zah _ _),h⟩;unfold mapT at hm;split at hm
  ·simp only[ZnO]at hm;cases hm;simp only[Zii,Zt he,htd,hev,TV.enc,Zd.encE,Zf4,Zk.enc,Zot,Zor]
  all_goals grind[Zii,TV.enc,Z5,Zd.encE,Zf4,Zk.enc,Zt,Zc]
 ·rename_i n u htd;obtain⟨hc,h⟩:=Zi h;refine⟨_,[_], ?_,Zw hc,ZL.pure (Zah _ _),h⟩;simp only[Zii,Zt he,htd,Zf4,Zk.enc,Zot,TV.enc,Zd.encE]
 simp_all
theorem Zdx (hT:T.Inv) {t:Nat} {x:Operand} {d:TV U} (hX:TOk X) (hd:evT X T.slots t x=some d) {u:Ty} {ys:List (El U.car u)} (h:Zna T d u=some ys):ZcP T.enc.objs (U.tsize u) d.enc=some (ys.map (U.encE u)):=by
 unfold Zna at h;split at h
 ·split at h;rotate_left;simp at h;cases h;simp_all[ZcP,TV.enc,Zd.encE,Zd.tsize,ZaR]
 ·rename_i hns;split at h;rotate_left;simp at h;rename_i l hl;split at h;rotate_left;simp at h;rename_i ys' hys;cases h;have ht:=ZcZ (ZA hT hd) hl 1;rw[ZM hys]at ht;unfold ZcP;grind[ZjK,Zd.encL,Zd.encE]
theorem Za7 {α:Type} (xs ys:List α):List.append xs ys=xs++ys:=rfl
theorem Zh3 (hX:TOk X) (hT:T.Inv) {t:Nat} {s:Operand} {e:TT U} {d:TV U} (hd:evT X T.slots t s=some d) (hsz:U.tsize e.ty=e.ti.size) {ys:List (El U.car e.ty)} (h:appX T i e d ys k=some r):
  ∃ef cs,Zab T.enc.objs T.ep i e.ti d.enc (ys.map (U.encE e.ty))=some (ef.enc cs)∧(∀q∈cs,q=true)∧ZL T i ef∧k ef=some r:=by
 unfold appX at h;split at h
 ·obtain⟨hc,h⟩:=Zi h;refine⟨_,[_], ?_,Zw hc,Zbh rfl (by simp),h⟩;grind[Zab,TV.enc,Zk.enc,ZI,ZjC]
 ·split at h;rotate_left;simp at h;rename_i xs hxs;obtain⟨hc1,h⟩:=Zi h;obtain⟨hc2,h⟩:=Zi h;have:=ZM hxs;cases this;refine⟨_,[true], ?_,by simp,Zbh (by simp_all) (by simp),h⟩;have c1:List.isEmpty ys=false:=by simp_all
  have c2:(Zoq xs+ys.length)*max e.ti.bytes 1≤ZD:=by grind[ZjC]
  grind[Zab,TV.enc,Zk.enc,ZI,Za7,List.isEmpty_map]
 ·rename_i id n;split at h;rotate_left;simp at h;rename_i t' xs0 ho;split at h;rotate_left;simp at h;rename_i xs hxs;obtain⟨hc,h⟩:=Zi h;have:=ZM hxs;cases this;refine⟨_,[_], ?_,Zw hc,Zbh (by simp_all) (by simp),h⟩;have hl:n=Zoq xs:=Zbg hT hd ho;simp_all[Zab,TV.enc,ZI,Zk.enc,ZaZ,ZjC,Zh1,Zc]
 ·rename_i id len;split at h;rotate_left;simp at h;rename_i t' xs0 ho;split at h;rotate_left;simp at h;rename_i xs hxs;obtain⟨hc1,h⟩:=Zi h;obtain⟨hc,h⟩:=Zi h;have:=ZM hxs;cases this;have hle:len≤Zoq xs:=by simp_all
  refine⟨_,[_], ?_,Zw hc,Zbh (by simp_all) (by simp),h⟩;grind[Zab,TV.enc,ZI,Zk.enc,ZaZ,Za7,ZjC,List.map_take,Zc]
 simp_all
theorem ZiN (hX:TOk X) (hT:T.Inv) {t u:Nat} {s x:Operand} (h:ZfF X T i t u s x k=some r):
  ∃e cs,Zcm X.E T.ep i T.enc.objs [t,u] [ev X.E T.enc.slots t s,ev X.E T.enc.slots u x]=some (e.enc cs)∧(∀q∈cs,q=true)∧ZL T i e∧k e=some r:=by
 unfold ZfF at h;split at h;rotate_left;simp at h;rename_i e eu d dx he heu hd hdx;split at h;rotate_left;simp at h;rename_i hsz;split at h
 ·rename_i h2;split at h;rotate_left;simp at h;rename_i ys hys;have hsrc:=Zdx hT hX hdx hys;rw[hsz]at hsrc;have happ:Zcm X.E T.ep i T.enc.objs [t,u] [ev X.E T.enc.slots t s,ev X.E T.enc.slots u x]=ZaT T.enc.objs T.ep i e.ti d.enc dx.enc:=by unfold Zcm;simp only[Zax he,Zt heu,Zb hX hd,Zb hX hdx];revert h2;cases eu.ti.d<;>simp[Zk3]
  rw[happ,ZaT,hsrc];exact Zh3 hX hT hd hsz h
 ·split at h;rotate_left;simp at h;rename_i k0 a z hk hz;split at h;rotate_left;simp at h;rename_i z' hz';obtain⟨hc,h⟩:=Zi h;have hget:∃u',X.get u'=some e:=by grind[ZG.elem]
  obtain⟨u',hu⟩:=hget;have hzp:=hX.zl u' e z hu hz;rw[ZM hz']at hzp;obtain⟨ef,cs,q1,q2⟩:=Zh3 hX hT hd hsz h;refine⟨ef,cs, ?_,q2⟩;rw[List.map_replicate,show U.encE e.ty z'=e.ti.zeroP from hzp]at q1;simp_all[Zcm,TV.enc,Zd.encE,Zax,Zt,Zb]
theorem Zk8 (hX:TOk X) (hT:T.Inv) {t u:Nat} {d s:Operand} (h:Zj9 X T t u d s k=some r):
  ∃e cs,Zjl X.E T.enc.objs [t,u] [ev X.E T.enc.slots t d,ev X.E T.enc.slots u s]=some (e.enc cs)∧(∀q∈cs,q=true)∧ZL T i e∧k e=some r:=by
 unfold Zj9 at h;split at h;rotate_left;simp at h;rename_i e dd ds he hd hs;split at h
 ·rename_i id n;split at h;rotate_left;simp at h;rename_i t' xs fix ho;split at h;rotate_left;simp at h;rename_i ys hys;have hsrc:=Zdx hT hX hs hys;split at h;rotate_left;simp at h;rename_i hsz;have hl:n=Zoq xs:=Zbg hT hd ho;refine⟨_,[], ?_,by simp,Zcj (by simp[TV.fulls]) (fun n2 hq=> ?_) (fun _=>by trivial),h⟩
  ·simp only[Zjl,Zax he,Zb hX hd,Zb hX hs,TV.enc,ZfW,Zc ho,ZI,hsrc,hsz.symm,if_true,Zk.enc,Zn6,Zot,hl,Zor,Zd.encE,ZT];congr 4;simp only[List.take_zero,List.nil_append,List.length_take,Zor,Zok,ZoA,List.map_take,List.map_drop];grind[List.take_eq_take_iff,List.drop_eq_nil_of_le]
  grind[TO.len?]
 ·rename_i id off len;split at h;rotate_left;simp at h;rename_i t' xs fix ho;split at h;rotate_left;simp at h;rename_i ys hys;have hsrc:=Zdx hT hX hs hys;split at h;rotate_left;simp at h;rename_i hsz;obtain⟨hc,h⟩:=Zi h;have hle:off+len≤Zoq xs:=by simp_all
  refine⟨_,[], ?_,by simp,Zcj (by simp[TV.fulls]) (fun n2 hq=> ?_) (fun _=>by trivial),h⟩
  ·simp only[Zjl,Zax he,Zb hX hd,Zb hX hs,TV.enc,ZfW,Zc ho,ZI,hsrc,hsz.symm,if_true,Zk.enc,Zn6,Zot,Zor,Zd.encE,ZcQ,List.map_take]
  grind[TO.len?,ZT]
 simp_all
theorem ZbW (hX:TOk X):∀{xs:List Operand} {ts:List Nat} {ds:List (TV U)},Zdt X T.slots xs ts=some ds→ZY X.E T.enc.slots xs ts=TV.encs ds
 | [],ts,ds,h=>by cases ts<;>simp[Zdt]at h<;>subst h<;>rfl
 |x::xs,[],ds,h=>by simp only[Zdt]at h;split at h;rotate_left;simp at h;rename_i d r h1 h2;cases h;simp only[ZY,TV.encs,Zb hX h1,ZbW hX h2]
 |x::xs,t::ts,ds,h=>by simp only[Zdt]at h;split at h;rotate_left;simp at h;rename_i d r h1 h2;cases h;simp only[ZY,TV.encs,Zb hX h1,ZbW hX h2]
theorem Zeq (hT:T.Inv):∀{xs:List Operand} {ts:List Nat} {ds:List (TV U)},Zdt X T.slots xs ts=some ds→∀d∈ds,d.inv T.objs
 | [],ts,ds,h=>by grind[Zdt]
 |x::xs,[],ds,h=>by
  simp only[Zdt]at h;split at h;rotate_left;simp at h;rename_i d r h1 h2;cases h;intro a ha;rcases ZnD.1 ha with rfl |ha
  ·grind[ZA]
  ·exact Zeq hT h2 a ha
 |x::xs,t::ts,ds,h=>by
  simp only[Zdt]at h;split at h;rotate_left;simp at h;rename_i d r h1 h2;cases h;intro a ha;rcases ZnD.1 ha with rfl |ha
  ·grind[ZA]
  ·exact Zeq hT h2 a ha
theorem ZlS (hX:TOk X) (hT:T.Inv) {mx:Bool} {args:List Operand} {ats:List Nat} (h:opMM X T mx args ats k=some r):
  ∃e cs,ZO X.E T.ep i T.enc.objs (if mx then .max else .min) ats (ZY X.E T.enc.slots args ats)=some (e.enc cs)∧(∀q∈cs,q=true)∧ZL T i e∧k e=some r:=by
 unfold opMM at h;split at h;rotate_left;simp at h;rename_i ds hds;split at h;rotate_left;simp at h;rename_i z hz;split at h;rotate_left;simp at h;rename_i d hd;obtain⟨q1,q2⟩:=ZcB hd;refine⟨_,[], ?_,by simp,ZL.pure (Ze q2),h⟩;grind[ZO,Zk.enc,ZbW]
theorem snd (hU:UOk U) (hX:TOk X) (hT:T.Inv) {op:Op} (h:ZmW X T i op ty k=some r):Snd X T i op ty k r:=by
 unfold ZmW at h;split at h
 ·grind[Zk6]
 ·grind[ZiM]
 ·grind[Zk4]
 ·grind[ZjV]
 ·grind[Zmo]
 ·grind[ZjU]
 ·grind[ZeD]
 ·grind[Zk7]
 ·grind[ZjO]
 ·grind[Zgd]
 ·grind[Zmp]
 ·grind[snd_un]
 ·grind[Zhf]
 ·grind[Zge]
 ·grind[Zhd]
 ·grind[Zfu]
 ·grind[ZjP]
 ·grind[Zfw]
 ·grind[ZjS]
 ·grind[Zfv]
 ·grind[ZjR]
 ·grind[ZiK]
 ·exact ZjG hU hX hT h
 ·exact ZjG hU hX hT h
 ·grind[ZjQ]
 ·grind[Zk5]
 ·grind[ZjT]
 ·grind[Zhe]
 ·rename_i b args ats;unfold Snd Zf;split at h
  ·rename_i x t hx ht;simp only[hx,ht,ZO,ZY];exact Zmn hX hT h
  ·rename_i s x t u hx ht;simp only[hx,ht,ZO,ZY];exact ZiN hX hT h
  ·rename_i s x t u hx ht;simp only[hx,ht,ZO,ZY];exact Zk8 hX hT h
  ·exact ZlS (mx:=true) hX hT h
  ·exact ZlS (mx:=false) hX hT h
  ·rename_i s x t u hx ht;simp only[hx,ht,ZO,ZY];exact ZiL hU hX hT h
  simp_all
 grind
end
end Eng
namespace Eng
open Go
section
variable {U:Zd}
def ZlW (T:TS U) (d:TV U):Option (TV U):=
 if (d.enc.ids T.enc.objs depth).all T.fz then match d with
  | .ptr id i j=>match T.objs id with
   |some (.box cs)=>if i=0 then match Zj T.lf1 (cs.drop j)with
    |some ls=>some (.pp ls)
    |none=>none
    else none
   |_=>none
  |d=>match T.lf1 d with
   |some l=>some (lv l)
   |none=>none
 else none
def asRpT (T:TS U) (pi:List (Id×Id)) (id:Id):Option (TV U):=match T.objs id with
 |some (.box [d,.map m])=>if (T.fz id&&(d.enc.ids T.enc.objs depth).all T.fz)&& !T.fz m then match T.lf1 d,ren pi m with
  |some x,some m'=>some (.rp (some x) m')
  |_,_=>none
  else none
 |_=>none
def TV.can (T:TS U) (pi:List (Id×Id)):Nat→TV U→Option (TV U)
 |_,.v t x=>some (.v t x)
 |_,.pp cs=>some (.pp cs)
 |_,.nilp=>some .nilp
 |_,.nilfn=>some .nilfn
 |_,.dead=>some .dead
 |_,.undef=>some .undef
 |_,.nils t=>some (.nils t)
 |_,.clip t xs=>some (.clip t xs)
 |_,.full id n=>match ren pi id with
  |some id'=>some (.full id' n)
  |none=>ZlW T (.full id n)
 |_,.sl id off len=>match ren pi id with
  |some id'=>some (.sl id' off len)
  |none=>ZlW T (.sl id off len)
 |_,.map id=>match ren pi id with
  |some id'=>some (.map id')
  |none=>ZlW T (.map id)
 |_,.it id=>match ren pi id with
  |some id'=>some (.it id')
  |none=>none
 |_,.ptr id i j=>match ren pi id with
  |some id'=>some (.ptr id' i j)
  |none=>(ZlW T (.ptr id i j)).or (if i=0∧j=0 then asRpT T pi id else none)
 |_,.rp x id=>match ren pi id with
  |some id'=>some (.rp x id')
  |none=>none
 |n+1,.agg cs=>match Zj (TV.can T pi n) cs with
  |some ds=>some (.agg ds)
  |none=>none
 |n+1,.tup cs=>match Zj (TV.can T pi n) cs with
  |some ds=>some (.tup ds)
  |none=>none
 |n+1,.fn f a b=>match Zj (TV.can T pi n) a,Zj (TV.can T pi n) b with
  |some a',some b'=>some (.fn f a' b')
  |_,_=>none
 |_,_=>none
def TO.can (T:TS U) (pi:List (Id×Id)):TO U→Option (TO U)
 | .box cs=>match Zj (TV.can T pi depth) cs with
  |some ds=>some (.box ds)
  |none=>none
 | .gone=>none
 |o=>some o
theorem Zlf (hU:UOk U) {T:TS U} {d d':TV U} (hi:d.inv T.objs) (hb:∀id cs,T.objs id=some (.box cs)→∀c∈cs,c.inv T.objs) (h:ZlW T d=some d'):D.pur T.enc.objs T.enc.fz d.enc=some d'.enc∧d'.fulls=[]:=by
 unfold ZlW at h;unfold D.pur;split at h;rotate_left;simp at h;rename_i hf;rw[if_pos (show ((d.enc.ids T.enc.objs depth).all T.enc.fz)=true from hf)];split at h
 ·rename_i id i' j;split at h;rotate_left;simp at h;rename_i cs ho;split at h;rotate_left;simp at h;rename_i h0;subst h0;split at h;rotate_left;simp at h;rename_i ls hls;cases h;have:=Zcw 7 (fun c hc=>hb id cs ho c (List.mem_of_mem_drop hc)) hls;rw[ZbE]at this;simp only[TV.enc,depth,D.toP,Zc ho,ZaB,if_true,this,Zow];exact⟨trivial,rfl⟩
 ·split at h;rotate_left;simp at h;rename_i l hl;cases h;rw[ZcZ hi hl depth];exact⟨rfl,rfl⟩
theorem ZhO (lk:Id→Option Obj) (fz:Id→Bool) (pi:List (Id×Id)) (n:Nat) (x:P):D.can lk fz pi n (.p x)=some (.p x):=by cases n<;>rfl
theorem Zix (hU:UOk U) {T:TS U} (hb:∀id cs,T.objs id=some (.box cs)→∀c∈cs,c.inv T.objs) {pi:List (Id×Id)}:∀(n:Nat) (d d':TV U),d.inv T.objs→d.can T pi n=some d'→
  d.enc.can T.enc.objs T.enc.fz pi n=some d'.enc∧∀q∈d'.fulls,∃id,ren pi id=some q.1∧(id,q.2)∈d.fulls:=by
 have pur:∀(d d':TV U),d.inv T.objs→ZlW T d=some d'→D.pur T.enc.objs T.enc.fz d.enc=some d'.enc∧∀q∈d'.fulls,∃id,ren pi id=some q.1∧(id,q.2)∈d.fulls:=fun d d' hi h=>by grind[Zlf]
 have base:∀(n:Nat) (d d':TV U),(∀cs,d≠ .agg cs)→(∀cs,d≠ .tup cs)→(∀f a b,d≠ .fn f a b)→d.inv T.objs→d.can T pi n=some d'→
   d.enc.can T.enc.objs T.enc.fz pi n=some d'.enc∧∀q∈d'.fulls,∃id,ren pi id=some q.1∧(id,q.2)∈d.fulls:=by
  intro n d d' h1 h2 h3 hi h;cases d with
  |v t x=>simp only[TV.can,ZnO]at h;subst h;exact⟨ZhO _ _ _ _ _,by simp[TV.fulls]⟩
  |pp cs=>simp only[TV.can,ZnO]at h;subst h;exact⟨ZhO _ _ _ _ _,by simp[TV.fulls]⟩
  |nilp=>simp only[TV.can,ZnO]at h;subst h;exact⟨ZhO _ _ _ _ _,by simp[TV.fulls]⟩
  |nilfn=>simp only[TV.can,ZnO]at h;subst h;exact⟨ZhO _ _ _ _ _,by simp[TV.fulls]⟩
  |dead=>simp only[TV.can,ZnO]at h;subst h;exact⟨by cases n<;>rfl,by simp[TV.fulls]⟩
  |undef=>simp only[TV.can,ZnO]at h;subst h;exact⟨by cases n<;>rfl,by simp[TV.fulls]⟩
  |nils t=>simp only[TV.can,ZnO]at h;subst h;exact⟨by cases n<;>rfl,by simp[TV.fulls]⟩
  |clip t xs=>simp only[TV.can,ZnO]at h;subst h;exact⟨by cases n<;>rfl,by simp[TV.fulls]⟩
  |full id m=>
   grind[TV.can,TV.enc,D.can,TV.fulls]
  |sl id off len=>
   grind[TV.can,TV.enc,D.can,TV.fulls]
  |map id=>
   grind[TV.can,TV.enc,D.can,TV.fulls]
  |it id=>
   simp only[TV.can]at h;split at h;rotate_left;all_goals grind[TV.enc,D.can,TV.fulls]
  |ptr id a j=>
   simp only[TV.can]at h;split at h
   ·rename_i id' hr;cases h;exact⟨by cases n<;>simp only[TV.enc,D.can,hr],by simp[TV.fulls]⟩
   ·rename_i hr;cases hp:ZlW T (.ptr id a j)with
    |some y=>
     rw[hp]at h;simp only[Option.or]at h;obtain rfl:=ZnN h;obtain⟨q1,q2⟩:=pur _ _ hi hp;have q1:D.pur T.enc.objs T.enc.fz (.ptr id a j)=some y.enc:=q1;exact⟨by cases n<;>simp only[TV.enc,D.can,hr,q1,Option.or],q2⟩
    |none=>
     rw[hp]at h;simp only[Option.or]at h;split at h
     case isFalse=>simp at h
     rename_i h0;unfold asRpT at h;split at h
     case h_2=>simp at h
     rename_i c m ho;split at h
     case isFalse=>simp at h
     rename_i hf;split at h
     case h_2=>simp at h
     rename_i x m' hx hm;cases h;have ic:c.inv T.objs:=hb id _ ho c (by simp);have e1:D.asRp T.enc.objs T.enc.fz pi id=some (.rp (some (U.encL x)) m'):=by unfold D.asRp;simp only[Zc ho,ZaB,TV.encs,TV.enc];rw[if_pos (show (T.enc.fz id&&(c.enc.ids T.enc.objs depth).all T.enc.fz)=true from (Bool.and_eq_true_iff.1 hf).1)];simp only[ZcZ ic hx depth,hm]
     have e2:D.pur T.enc.objs T.enc.fz (.ptr id a j)=none:=by obtain⟨rfl,rfl⟩:=h0;unfold D.pur;rw[if_neg];intro ha;have hm':T.fz m=true:=ZnV.1 ha m (by simp[depth,D.ids,Zc ho,ZaB,TV.encs,TV.enc]);simp[hm']at hf
     refine⟨by cases n<;>simp only[TV.enc,D.can,hr,e2,Option.or,if_pos h0,e1,Zow],by simp[TV.fulls]⟩
  |rp x id=>
   simp only[TV.can]at h;split at h;rotate_left;simp at h;rename_i id' hr;cases h;exact⟨by cases n<;>simp only[TV.enc,D.can,hr],by simp[TV.fulls]⟩
  |agg cs=>exact absurd rfl (h1 cs)
  |tup cs=>exact absurd rfl (h2 cs)
  |fn f a b=>exact absurd rfl (h3 f a b)
 intro n
 induction n with
 |zero=>
  intro d d' hi h;refine base 0 d d' ?_ ?_ ?_ hi h
  all_goals (intros;intro hc;subst hc;simp[TV.can]at h)
 |succ n ih=>
  have lst:∀(cs ds:List (TV U)),(∀c∈cs,c.inv T.objs)→Zj (TV.can T pi n) cs=some ds→Zj (D.can T.enc.objs T.enc.fz pi n) (TV.encs cs)=some (TV.encs ds)∧∀q∈TV.fullsL ds,∃id,ren pi id=some q.1∧(id,q.2)∈TV.fullsL cs:=by
   intro cs
   induction cs with
   |nil=>intro ds _ h;simp[Zj]at h;subst h;exact⟨rfl,by simp[TV.fullsL]⟩
   |cons c cs ihc=>
    intro ds hi h;simp only[Zj]at h;split at h;rotate_left;simp at h;rename_i y ys h1 h2;cases h;obtain⟨q1,q2⟩:=ih c y (hi c (by simp)) h1;obtain⟨q3,q4⟩:=ihc ys (fun a ha=>hi a (by simp[ha])) h2;refine⟨by simp only[TV.encs,Zj,q1,q3],fun q hq=> ?_⟩;simp only[TV.fullsL,Zn7]at hq⊢
    rcases hq with hq |hq
    ·obtain⟨id,a1,a2⟩:=q2 q hq;exact⟨id,a1,.inl a2⟩
    ·obtain⟨id,a1,a2⟩:=q4 q hq;exact⟨id,a1,.inr a2⟩
  intro d d' hi h;cases d with
  |agg cs=>
   simp only[TV.can]at h;split at h;rotate_left;simp at h;rename_i ds hds;cases h;obtain⟨q1,q2⟩:=lst cs ds (ZhU hi) hds;refine⟨?_,q2⟩;rw[TV.enc,TV.enc];rcases ZdW (TV.encs cs)with ⟨ps,p1,p2⟩ |p2
   ·rw[p2,ZhO];rw[p1]at q1;have:Zj (D.can T.enc.objs T.enc.fz pi n) (ps.map .p)=some (ps.map .p):=by
     clear q1 p1 p2
     induction ps with
     |nil=>rfl
     |cons x r ih=>simp only[Zn6,Zj,ZhO,ih]
    rw[this,ZnO]at q1;rw[←q1,Zcu]
   ·rw[p2];simp only[D.can,q1]
  |tup cs=>
   simp only[TV.can]at h;split at h;rotate_left;simp at h;rename_i ds hds;cases h;obtain⟨q1,q2⟩:=lst cs ds (fun c hc q hq=>hi q (Zq.2 ⟨c,hc,hq⟩)) hds;exact⟨by simp only[TV.enc,D.can,q1],q2⟩
  |fn f a b=>
   simp only[TV.can]at h;split at h;rotate_left;simp at h;rename_i a' b' ha hb';cases h;obtain⟨q1,q2⟩:=lst a a' (fun c hc q hq=>hi q (by simp only[TV.fulls,Zn7];exact .inl (Zq.2 ⟨c,hc,hq⟩))) ha;obtain⟨q3,q4⟩:=lst b b' (fun c hc q hq=>hi q (by simp only[TV.fulls,Zn7];exact .inr (Zq.2 ⟨c,hc,hq⟩))) hb';refine⟨?_,fun q hq=> ?_⟩
   ·rw[TV.enc,TV.enc];unfold fnD;cases hpa:Zj D.pure? (TV.encs a)with
    |none=>simp only[D.can,q1,q3];rfl
    |some x=>
     cases hpb:Zj D.pure? (TV.encs b)with
     |none=>simp only[D.can,q1,q3];rfl
     |some y=>
      have key:∀(ps:List P),Zj (D.can T.enc.objs T.enc.fz pi n) (ps.map .p)=some (ps.map .p):=by
       intro ps
       induction ps with
       |nil=>rfl
       |cons x r ih=>simp only[Zn6,Zj,ZhO,ih]
      rw[Zx hpa,key,ZnO]at q1;rw[Zx hpb,key,ZnO]at q3;rw[←q1,←q3,ZaF,ZaF];rfl
   ·simp only[TV.fulls,Zn7]at hq⊢
    rcases hq with hq |hq
    ·obtain⟨id,a1,a2⟩:=q2 q hq;exact⟨id,a1,.inl a2⟩
    ·obtain⟨id,a1,a2⟩:=q4 q hq;exact⟨id,a1,.inr a2⟩
  |_=>exact base (n+1) _ _ (by simp) (by simp) (by simp) hi h
def mkT (ep:Nat) (ls:List (Nat×TV U)) (lo:List (Id×TO U)):TS U:={slots:=Zaz .dead ls,objs:=Zg lo,fz:=fun _=>false,ep:=ep}
theorem ZcF:∀(ks:List Nat) (ds:List (TV U)) (x:Nat),(Zaz TV.dead (ks.zip ds) x).enc=Zaz D.dead (ks.zip (TV.encs ds)) x
 | [],ds,x=>rfl
 |k::ks,[],x=>rfl
 |k::ks,d::ds,x=>by
  simp only[ZoD,TV.encs,Zaz];split
  ·rfl
  ·exact ZcF ks ds x
theorem Zb8:∀(ids:List Id) (os:List (TO U)) (x:Id),ZiV (Zg (ids.zip os) x)=Zg (ids.zip (os.map TO.enc)) x
 | [],os,x=>rfl
 |k::ks,[],x=>rfl
 |k::ks,d::ds,x=>by
  simp only[ZoD,Zn6,Zg];split
  ·rfl
  ·exact Zb8 ks ds x
theorem ZmF (ep:Nat) (ks:List Nat) (ds:List (TV U)) (ids:List Id) (os:List (TO U)):(mkT ep (ks.zip ds) (ids.zip os)).enc=mkS ep (ks.zip (TV.encs ds)) (ids.zip (os.map TO.enc)):=by
 refine ZeQ ?_ ?_ rfl rfl
 ·funext x;exact ZcF ks ds x
 ·funext x;exact Zb8 ids os x
mutual
def TV.own (T:TS U):TV U→List Id
 | .full id _ | .sl id _ _ | .map id | .it id | .rp _ id=>if T.fz id then []else [id]
 | .ptr id _ _=>if T.fz id then match T.objs id with
  |some (.box [_,.map m])=>if T.fz m then []else [m]
  |_=>[]
  else [id]
 | .agg cs=>TV.ownL T cs
 | .tup cs=>TV.ownL T cs
 | .fn _ a b=>TV.ownL T a++TV.ownL T b
 |_=>[]
def TV.ownL (T:TS U):List (TV U)→List Id
 | []=>[]
 |d::r=>d.own T++TV.ownL T r
end
def Zc6 (T:TS U):Nat→List Id→List Id→List Id
 |0,_,acc=>acc
 |_+1,[],acc=>acc
 |n+1,id::r,acc=>if acc.contains id then Zc6 T n r acc else match T.objs id with
  |some (.box cs)=>Zc6 T n (r++TV.ownL T cs) (acc++[id])
  |some _=>Zc6 T n r (acc++[id])
  |none=>Zc6 T n r acc
def Zlk (lent:List Nat):Nat→List Id→List (Id×Id)
 |_,[]=>[]
 |c,id::r=>if id.1=0∧id.2.2=0∧lent.contains id.2.1=true then (id,id)::Zlk lent c r else ((0,c,1),id)::Zlk lent (c+1) r
def Zgv (lent:List Nat) (n:Nat):List Id:=lent.map (fun k=>(0,k,0))++(List.range' 1 (n - lent.length)).map fun c=>(0,c,1)
def Zl4:Option (TO U)→Bool
 |some .gone=>false
 |some _=>true
 |none=>false
def Zl6 (T:TS U) (s:Nat):List Id:=
 match s / 100000 with
 |0=>(T.slots s).enc.ids T.enc.objs depth
 |2=>((T.slots (s % 100000)).enc.ids T.enc.objs depth).dropLast
 |_=>((T.slots (s % 100000)).enc.ids T.enc.objs depth).tail
def ZkG (T:TS U) (lent live frz:List Nat):Option (List (TV U)×List (TO U)):=
 let fs:=frz.flatMap (Zl6 T)
 let T1:=T.freezeL fs
 let pi:=Zlk lent 1 (Zc6 T1 200 (lent.map (fun k=>(0,k,0))++TV.ownL T1 (live.map T1.slots)) [])
 if (fs.all fun id=>Zl4 (T.objs id))&&Zgp T1.enc pi 1&&ZlZ pi then
  match Zj (fun t=>(T1.slots t).can T1 pi depth) live,Zj (fun x:Id×Id=>match T1.objs x.2 with |some o=>o.can T1 pi |none=>none) pi with
  |some ds,some os=>if pi.map (·.1)=Zgv lent os.length then some (ds,os)else none
  |_,_=>none
 else none
def mkC (lent live:List Nat) (ds:List (TV U)) (os:List (TO U)):TS U:=mkT 1 (live.zip ds) ((Zgv lent os.length).zip os)
theorem Zj0 {pi:List (Id×Id)} (hn:ZaA (pi.map (·.1))=true) {os:List (TO U)} {new old:Id} (h:ren pi old=some new) {j:Nat} (hj:pi[j]? =some (new,old)):Zg ((pi.map (·.1)).zip os) new=os[j]? :=by
 clear h
 induction pi generalizing os j with
 |nil=>simp_all
 |cons x r ih=>
  obtain⟨a,b⟩:=x;simp only[Zn6,ZaA,Znu,ZnV,decide_eq_true_eq]at hn;cases os with
  |nil=>simp[Zg]
  |cons o os=>
   simp only[Zn6,ZoD,Zg];grind
theorem ZhC {T:TS U} (h:T.Inv) (fs:List Id):(T.freezeL fs).Inv:=⟨h.slots,h.objs⟩
theorem Zjn (hU:UOk U) {C:Ctx} {r:Fm} {G:Zg6} {k:List Item} {T:TS U} (hT:T.Inv) {lent live frz:List Nat} {ds:List (TV U)} {os:List (TO U)} (h:ZkG T lent live frz=some (ds,os)):
  (mkC lent live ds os).Inv∧(AWP C r G k (mkC lent live ds os).enc→AWP C r G k T.enc):=by
 unfold ZkG at h;dsimp only at h;generalize hfs:frz.flatMap (Zl6 T)=fs at h;generalize hpi:Zlk lent 1 (Zc6 (T.freezeL fs) 200 (lent.map (fun k=>(0,k,0))++TV.ownL (T.freezeL fs) (live.map (T.freezeL fs).slots)) [])=pi at h;split at h;rotate_left;simp at h;rename_i hc;simp only[Znu,ZnV]at hc;obtain⟨⟨hhere,hok⟩,hkeep⟩:=hc;split at h;rotate_left;simp at h;rename_i ds' os' hds hos;split at h;rotate_left;simp at h;rename_i hids;simp only[ZnO,ZnP]at h;obtain⟨rfl,rfl⟩:=h;have hT1:=ZhC hT fs;have hb:∀id cs,(T.freezeL fs).objs id=some (.box cs)→∀c∈cs,c.inv (T.freezeL fs).objs:=fun id cs ho=>hT1.objs id _ ho
 have hn1:ZaA (pi.map (·.1))=true:=by grind[Zgp]
 have pdsL:Zj (fun t=>((T.freezeL fs).enc.slots t).can (T.freezeL fs).enc.objs (T.freezeL fs).enc.fz pi depth) live=some (TV.encs ds')∧∀d∈ds',∃t∈live,∀q∈d.fulls,∃id,ren pi id=some q.1∧(id,q.2)∈((T.freezeL fs).slots t).fulls:=by
  clear hpi hids
  induction live generalizing ds' with
  |nil=>simp[Zj]at hds;subst hds;exact⟨rfl,by simp⟩
  |cons t live ih=>
   simp only[Zj]at hds;split at hds;rotate_left;simp at hds;rename_i y ys h1 h2;cases hds;obtain⟨q1,q2⟩:=Zix hU hb depth _ _ (hT1.slots t) h1;obtain⟨q3,q4⟩:=ih ys h2;refine⟨by simp only[Zj,TV.encs,q3];rw[show ((T.freezeL fs).enc.slots t)=((T.freezeL fs).slots t).enc from rfl,q1],fun d hd=> ?_⟩;rcases ZnD.1 hd with rfl |hd
   ·exact⟨t,by simp,q2⟩
   grind
 have objC:∀(l:List (Id×Id)) (ol:List (TO U)),Zj (fun x:Id×Id=>match (T.freezeL fs).objs x.2 with |some o=>o.can (T.freezeL fs) pi |none=>none) l=some ol→
   Zj (fun x:Id×Id=>match (T.freezeL fs).enc.objs x.2 with |some o=>o.can (T.freezeL fs).enc.objs (T.freezeL fs).enc.fz pi |none=>none) l=some (ol.map TO.enc)∧
   ∀(j:Nat) (x:Id×Id) (o:TO U),l[j]? =some x→ol[j]? =some o→∃o0,(T.freezeL fs).objs x.2=some o0∧(∀n,o.len?=some n→o0=o)∧∀cs,o= .box cs→∃cs0,o0= .box cs0∧∀d∈cs,∃d0∈cs0,∀q∈d.fulls,∃id,ren pi id=some q.1∧(id,q.2)∈d0.fulls:=by
  intro l
  induction l with
  |nil=>grind[Zj]
  |cons x l ih=>
   intro ol h;simp only[Zj]at h;split at h;rotate_left;simp at h;rename_i o ol' h1 h2;cases h;obtain⟨q3,q4⟩:=ih ol' h2;split at h1;rotate_left;simp at h1;rename_i o0 ho;have he:(T.freezeL fs).enc.objs x.2=some o0.enc:=Zc ho;have main:o0.enc.can (T.freezeL fs).enc.objs (T.freezeL fs).enc.fz pi=some o.enc∧((∀n,o.len?=some n→o0=o)∧∀cs,o= .box cs→∃cs0,o0= .box cs0∧∀d∈cs,∃d0∈cs0,∀q∈d.fulls,∃id,ren pi id=some q.1∧(id,q.2)∈d0.fulls):=by
    cases o0 with
    |box cs0=>
     simp only[TO.can]at h1;split at h1;rotate_left;simp at h1;rename_i cs1 hcs;cases h1;have lst:∀(c0 c1:List (TV U)),(∀c∈c0,c.inv (T.freezeL fs).objs)→Zj (TV.can (T.freezeL fs) pi depth) c0=some c1→Zj (D.can (T.freezeL fs).enc.objs (T.freezeL fs).enc.fz pi depth) (TV.encs c0)=some (TV.encs c1)∧∀d∈c1,∃d0∈c0,∀q∈d.fulls,∃id,ren pi id=some q.1∧(id,q.2)∈d0.fulls:=by
      intro c0
      induction c0 with
      |nil=>intro c1 _ h;simp[Zj]at h;subst h;exact⟨rfl,by simp⟩
      |cons c c0 ihc=>
       intro c1 hi h;simp only[Zj]at h;split at h;rotate_left;simp at h;rename_i y ys h1 h2;cases h;obtain⟨a1,a2⟩:=Zix hU hb depth c y (hi c (by simp)) h1;obtain⟨a3,a4⟩:=ihc ys (fun a ha=>hi a (by grind)) h2;refine⟨by grind[TV.encs,Zj],fun d hd=> ?_⟩;rcases ZnD.1 hd with rfl |hd
       ·exact⟨c,by simp,a2⟩
       grind
     obtain⟨a1,a2⟩:=lst cs0 cs1 (hb x.2 cs0 ho) hcs;refine⟨by grind[ZaB,Obj.can],(fun n hq=>by cases hq),fun cs hq=> ?_⟩;grind
    |gone=>grind[TO.can]
    |arr t xs fix=>simp only[TO.can,ZnO]at h1;subst h1;exact⟨rfl,fun _ _=>rfl,fun cs hq=>by grind⟩
    |map a b kv=>simp only[TO.can,ZnO]at h1;subst h1;exact⟨rfl,fun _ _=>rfl,fun cs hq=>by grind⟩
    |sit s p=>simp only[TO.can,ZnO]at h1;subst h1;exact⟨rfl,fun _ _=>rfl,fun cs hq=>by cases hq⟩
    |own a b c d e f=>simp only[TO.can,ZnO]at h1;subst h1;exact⟨rfl,fun _ _=>rfl,fun cs hq=>by cases hq⟩
    |mit a b r c=>simp only[TO.can,ZnO]at h1;subst h1;exact⟨rfl,fun _ _=>rfl,fun cs hq=>by cases hq⟩
   refine⟨by simp only[Zj,he,main.1,q3,Zn6],fun j y o' hj hj'=> ?_⟩;cases j with
   |zero=>
    simp only[Zny,ZnO]at hj hj';subst hj hj';exact⟨o0,ho,main.2⟩
   |succ j=>exact q4 j y o' (by simpa using hj) (by simpa using hj')
 obtain⟨o1,o2⟩:=objC pi os' hos;have hlen:os'.length=pi.length:=(Zh hos).1;have carry:∀q,(∃id,ren pi id=some q.1∧Zgz (T.freezeL fs).objs (id,q.2))→Zgz (mkC lent live ds' os').objs q:=by
  rintro q ⟨id,hr,o,ho,hl⟩;have hm:=Zj1 hr;obtain⟨j,hj⟩:=Zou.1 hm;have hjl:j < os'.length:=by rw[hlen];exact(ZnA.1 hj).1
  have hoj:os'[j]? =some os'[j]:=by simp[hjl]
  obtain⟨o0,h0,h00,_⟩:=o2 j _ _ hj hoj;refine⟨os'[j], ?_,fun n he=> ?_⟩
  ·show Zg ((Zgv lent os'.length).zip os') q.1=_;rw[←hids,Zj0 hn1 hr hj,hoj]
  ·have:=h00 n he;dsimp only at h0 ho;rw[h0,ZnO]at ho;exact hl n (by rw[←ho,this];exact he)
 refine⟨⟨fun kk=> ?_,fun id o ho=> ?_⟩,fun ha=> ?_⟩
 ·show TV.inv _ (Zaz TV.dead (live.zip ds') kk);rcases ZaS TV.dead (live.zip ds') kk with hq |hq
  ·rw[hq];exact Ze rfl
  ·have hm:=(List.of_mem_zip hq).2;obtain⟨t,_,hf⟩:=pdsL.2 _ hm;intro q hq';obtain⟨id,h1,h2⟩:=hf q hq';exact carry q ⟨id,h1,hT1.slots t _ h2⟩
 ·have ho':Zg ((Zgv lent os'.length).zip os') id=some o:=ho;have hmem:=List.of_mem_zip (Z1 ho');cases o with
  |box cs=>
   obtain⟨j,hj⟩:=Zou.1 hmem.2;have hjl:j < pi.length:=by rw[←hlen];exact(ZnA.1 hj).1
   obtain⟨o0,h0,_,hbx⟩:=o2 j pi[j] _ (by simp[hjl]) hj;obtain⟨cs0,rfl,hf⟩:=hbx cs rfl;intro d hd q hq;obtain⟨d0,hd0,hf⟩:=hf d hd;obtain⟨id',h1,h2⟩:=hf q hq;exact carry q ⟨id',h1,hb _ _ h0 d0 hd0 _ h2⟩
  |_=>trivial
 ·intro ρ S a w hrep hd;obtain⟨S',_,_,hfr,_⟩:=hrep.freeze fs (fun f hf=>by
   have:=hhere f hf;unfold Zl4 at this;split at this
   ·simp at this
   ·rename_i o hg ho;exact⟨o.enc,Zc ho,by
     intro he;cases o with
     |gone=>exact hg rfl
     |_=>simp[TO.enc]at he⟩
   ·simp at this)
  rw[←Eng.freezeL_enc]at hfr;have h2:=hfr.canon (ZnJ 1) hok hkeep o1 pdsL.1;rw[show (pi.map (·.1))=Zgv lent os'.length from hids]at h2;unfold mkC at ha;rw[ZmF]at ha;exact ha _ S' a w (h2.weakX fun _ h=>h.elim) hd
end
end Eng
namespace Eng
open Go
section
variable {U:Zd}
inductive TQ (U:Zd) where
 |l (x:Lf U.car)
 |ptr (cs:List (Lf U.car))
 |fn (f:Nat) (first caps:List (TQ U))
 |nilp |nilfn
mutual
def TQ.enc:TQ U→P
 | .l x=>U.encL x
 | .ptr cs=> .ptr (cs.map U.encL)
 | .fn f a b=> .fn f (TQ.encs a) (TQ.encs b)
 | .nilp=> .nilp
 | .nilfn=> .nilfn
def TQ.encs:List (TQ U)→List P
 | []=>[]
 |q::r=>q.enc::TQ.encs r
end
mutual
def TQ.tv:TQ U→TV U
 | .l x=>lv x
 | .ptr cs=> .pp cs
 | .fn f a b=> .fn f (TQ.tvs a) (TQ.tvs b)
 | .nilp=> .nilp
 | .nilfn=> .nilfn
def TQ.tvs:List (TQ U)→List (TV U)
 | []=>[]
 |q::r=>q.tv::TQ.tvs r
end
inductive ZP (U:Zd) where
 |p (q:TQ U)
 |box (cs:List (Lf U.car))
 |arr (t:Ty) (xs:List (El U.car t))
 |map (k v:Ty) (kv:List (El U.car k×El U.car v))
 |part (t:Ty) (xs:List (El U.car t)) (off len:Nat)
 |boxr (l:Lf U.car) (k:Nat)
 |hmap (k v:Ty) (kv:List (El U.car k×El U.car v))
def ZP.enc:ZP U→Arg
 | .p q=> .p q.enc
 | .box cs=> .box (cs.map U.encL)
 | .arr t xs=> .arr (U.tsize t) (xs.map (U.encE t))
 | .map k v kv=> .map k.td (kv.map fun e=>(U.encE k e.1,U.encE v e.2))
 | .part t xs off len=> .part (U.tsize t) (xs.map (U.encE t)) off len
 | .boxr l k=> .boxr (U.encL l) k
 | .hmap k v kv=> .hmap k.td (kv.map fun e=>(U.encE k e.1,U.encE v e.2))
def ZP.rk:ZP U→Option Nat
 | .boxr _ k=>some k
 |_=>none
theorem rk_enc (a:ZP U):a.enc.rk=a.rk:=by cases a<;>rfl
inductive TRV (U:Zd) where
 |p (l:Lf U.car)
 |own (t:Ty) (xs:List (El U.car t))
 |box (cs:List (Lf U.car))
 |map (k v:Ty) (kv:List (El U.car k×El U.car v))
 |view (k off len:Nat)
 |aown (pre:List (Lf U.car)) (t:Ty) (xs:List (El U.car t)) (post:List (Lf U.car)) (ow:Option (Nat×Ty×Nat))
def TRV.enc:TRV U→RV
 | .p l=> .p (U.encL l)
 | .own t xs=> .own (U.tsize t) (xs.map (U.encE t))
 | .box cs=> .box (cs.map U.encL)
 | .map k v kv=> .map k.td (kv.map fun e=>(U.encE k e.1,U.encE v e.2))
 | .view k off len=> .view k off len
 | .aown pre t xs post ow=> .aown (pre.map U.encL) (U.tsize t) (xs.map (U.encE t)) (post.map U.encL) (ow.map fun q=>(q.1,U.tsize q.2.1,q.2.2))
structure ZbL (U:Zd) where
 res:List (TRV U)
 outs:List (Nat×ZP U):=[]
def ZbL.enc (r:ZbL U):Ret:=⟨r.res.map TRV.enc,r.outs.map fun x=>(x.1,x.2.enc)⟩
structure SigR (U:Zd) where
 α:Type
 o:Option α
 give:α→ZbL U
structure ZjE (U:Zd) where
 pts:List Nat
 ms:List AM
 hs:List (Option Nat)
 sig:List (ZP U)→Option (SigR U)
def Zdn (T:TS U) (h:Option Nat):Nat→TV U→Option (TQ U)
 |_,.pp cs=>some (.ptr cs)
 |_,.nilp=>some .nilp
 |_,.nilfn=>some .nilfn
 |_,.ptr id i j=>match T.objs id with
  |some (.box cs)=>if i=0 then match Zj T.lf1 (cs.drop j)with
   |some ls=>some (.ptr ls)
   |none=>none
   else none
  |_=>none
 |n+1,.fn f a b=>match Zj (Zdn T none n) a,Zj (Zdn T none n) b with
  |some a',some b'=>some (.fn f a' b')
  |_,_=>none
 |_,d=>match T.lf h d with
  |some l=>some (.l l)
  |none=>none
theorem Zj3:∀l:List (TQ U),TQ.encs l=l.map TQ.enc
 | []=>rfl
 |q::r=>by rw[TQ.encs,Zj3 r];rfl
mutual
theorem ZjI:∀q:TQ U,q.tv.enc= .p q.enc∧q.tv.fulls=[]
 | .l x=>⟨rfl,rfl⟩
 | .ptr cs=>⟨rfl,rfl⟩
 | .nilp=>⟨rfl,rfl⟩
 | .nilfn=>⟨rfl,rfl⟩
 | .fn f a b=>by obtain⟨a1,a2⟩:=Zhb a;obtain⟨b1,b2⟩:=Zhb b;refine⟨?_,by simp only[TQ.tv,TV.fulls,a2,b2,List.append_nil]⟩;simp only[TQ.tv,TV.enc,a1,b1,fnD,ZaF,TQ.enc]
theorem Zhb:∀l:List (TQ U),TV.encs (TQ.tvs l)=(TQ.encs l).map .p∧TV.fullsL (TQ.tvs l)=[]
 | []=>⟨rfl,rfl⟩
 |q::r=>by obtain⟨a1,a2⟩:=ZjI q;obtain⟨b1,b2⟩:=Zhb r;exact⟨by simp only[TQ.tvs,TV.encs,a1,b1,TQ.encs,Zn6],by simp only[TQ.tvs,TV.fullsL,a2,b2,List.append_nil]⟩
end
theorem Zj2 (hU:UOk U) {T:TS U} (hT:T.Inv):∀(n:Nat) (h:Option Nat) (d:TV U) (q:TQ U),d.inv T.objs→Zdn T h n d=some q→d.enc.toP T.enc.objs (n+1)=some q.enc:=by
 have base:∀(n:Nat) (h:Option Nat) (d:TV U) (q:TQ U),(∀f a b,d≠ .fn f a b)→d.inv T.objs→Zdn T h n d=some q→d.enc.toP T.enc.objs (n+1)=some q.enc:=by
  intro n h d q hne hi hr;have dflt:(match T.lf h d with |some l=>some (TQ.l l) |none=>none)=some q→d.enc.toP T.enc.objs (n+1)=some q.enc:=fun hq=>by split at hq;rotate_left;simp at hq;rename_i l hl;cases hq;exact Zd2 hU hi hl n
  cases d with
  |pp cs=>simp only[Zdn,ZnO]at hr;subst hr;simp[TV.enc,TQ.enc]
  |nilp=>simp only[Zdn,ZnO]at hr;subst hr;simp[TV.enc,TQ.enc]
  |nilfn=>simp only[Zdn,ZnO]at hr;subst hr;simp[TV.enc,TQ.enc]
  |ptr id i j=>
   simp only[Zdn]at hr;split at hr;rotate_left;simp at hr;rename_i cs ho;split at hr;rotate_left;simp at hr;rename_i h0;subst h0;split at hr;rotate_left;simp at hr;rename_i ls hls;cases hr;have:=Zcw n (fun c hc=>hT.objs id _ ho c (List.mem_of_mem_drop hc)) hls;grind[ZbE,TV.enc,D.toP,ZaB,TQ.enc,Zc]
  |fn f a b=>simp_all
  |_=>cases n<;>exact dflt hr
 intro n
 induction n with
 |zero=>
  intro h d q hi hr;cases d with
  |fn f a b=>
   simp only[Zdn]at hr;split at hr;rotate_left;simp at hr;rename_i l hl;cases hr;exact Zd2 hU hi hl 0
  |_=>exact base 0 h _ q (by simp) hi hr
 |succ n ih=>
  intro h d q hi hr;cases d with
  |fn f a b=>
   simp only[Zdn]at hr;split at hr;rotate_left;simp at hr;rename_i a' b' ha hb;cases hr;have lst:∀(l:List (TV U)) (l':List (TQ U)),(∀c∈l,c.inv T.objs)→Zj (Zdn T none n) l=some l'→Zj (D.toP T.enc.objs (n+1)) (TV.encs l)=some (TQ.encs l'):=by
    intro l
    induction l with
    |nil=>intro l' _ h;simp[Zj]at h;subst h;rfl
    |cons c l ihl=>
     grind[Zj,TV.encs,TQ.encs]
   have la:=lst a a' (fun c hc q hq=>hi q (by grind[TV.fulls,Zq])) ha;have lb:=lst b b' (fun c hc q hq=>hi q (by grind[TV.fulls,Zq])) hb;rw[TV.enc,TQ.enc];unfold fnD;have pu:∀(ps:List P),Zj (D.toP T.enc.objs (n+1)) (ps.map .p)=some ps:=by
    intro ps
    induction ps with
    |nil=>rfl
    |cons x r ih=>grind[Zj,ZjK]
   grind[D.toP,Zx]
  |_=>exact base (n+1) h _ q (by simp) hi hr
structure AET (U:Zd) where
 arg:ZP U
 fs:List Id:=[]
 id:Option Id:=none
 ref:Option Id:=none
def Znl (T:TS U) (m:AM) (h:Option Nat) (d:TV U):Option (AET U):=
 match m,d with
 | .p,d=>match Zdn T h 7 d with
  |some q=>some {arg:= .p q,fs:=d.enc.ids T.enc.objs depth}
  |none=>none
 | .lend,.ptr id 0 0=>match T.objs id with
  |some (.box ds)=>match Zj T.lf1 ds with
   |some ls=>some {arg:= .box ls,fs:=(TV.encs ds).flatMap fun d=>d.ids T.enc.objs depth,id:=some id}
   |none=>none
  |_=>none
 | .lend,.full id _=>match T.objs id with
  |some (.arr t xs false)=>some {arg:= .arr t xs,id:=some id}
  |_=>none
 | .lend,.map id=>match T.objs id with
  |some (.map k v kv)=>some {arg:= .map k v kv,id:=some id}
  |_=>none
 | .part,.sl id off len=>match T.objs id with
  |some (.arr t xs false)=>some {arg:= .part t xs off len,id:=some id}
  |_=>none
 | .lendr k,.ptr id 0 0=>match T.objs id with
  |some (.box [d,.map m])=>match T.lf1 d with
   |some l=>some {arg:= .boxr l k,fs:=id::d.enc.ids T.enc.objs depth,ref:=some m}
   |none=>none
  |_=>none
 | .lendr k,.rp (some l) m=>some {arg:= .boxr l k,ref:=some m}
 |_,_=>none
def hidT (T:TS U) (m:Id):Option (AET U):=match T.objs m with
 |some (.map k v kv)=>some {arg:= .hmap k v kv,id:=some m}
 |_=>none
def AET.ae (a:AET U) (cs:List Bool):AE:={arg:=a.arg.enc,fs:=a.fs,id:=a.id,cond:=cs,ref:=a.ref}
theorem ZbR {T:TS U} {cs:List (TV U)} {ls:List (Lf U.car)} (hi:∀d∈cs,d.inv T.objs) (h:Zj T.lf1 cs=some ls):Zj (fun d=>D.toP T.enc.objs depth d) (TV.encs cs)=some (ls.map U.encL):=Zcw depth hi h
theorem Zkh {T:TS U} {d:TV U} {l:Lf U.car} (hi:d.inv T.objs) (hl:T.lf1 d=some l):D.toP T.enc.objs depth d.enc=some (U.encL l):=by have hd:=ZbR (T:=T) (cs:=[d]) (ls:=[l]) (fun c hc=>by simp_all) (by grind[Zj]);grind[TV.encs,Zj]
theorem Zm3 (hU:UOk U) {T:TS U} (hT:T.Inv) {m:AM} {h:Option Nat} {d:TV U} {a:AET U} (hi:d.inv T.objs) (hr:Znl T m h d=some a):∃cs,ZdD T.enc m d.enc=some (a.ae cs)∧∀q∈cs,q=true:=by
 unfold Znl at hr;split at hr
 ·split at hr;rotate_left;simp at hr;rename_i q hq;cases hr;exact⟨[],by grind[ZdD,depth,AET.ae,ZP.enc,Zj2],by simp⟩
 ·rename_i id;split at hr;rotate_left;simp at hr;rename_i ds ho;split at hr;rotate_left;simp at hr;rename_i ls hls;cases hr;refine⟨[], ?_,by simp⟩;simp only[ZdD,TV.enc,Zc ho,ZaB,ZbR (hT.objs id _ ho) hls,AET.ae,ZP.enc]
 ·rename_i id n;split at hr;rotate_left;simp at hr;rename_i t xs ho;cases hr;obtain⟨o,h1,h2⟩:=hi (id,n) (by simp[TV.fulls]);dsimp only at h1;have hl:=h2 _ (by rw[ho,ZnO]at h1;rw[←h1];rfl);refine⟨[decide (n=(xs.map (U.encE t)).length)], ?_,by grind⟩;grind[ZdD,TV.enc,ZI,AET.ae,ZP.enc,Zc]
 ·rename_i id;split at hr;rotate_left;simp at hr;rename_i k v kv ho;cases hr;simp_all[ZdD,TV.enc,Z5,AET.ae,ZP.enc,Zc]
 ·rename_i id off len;split at hr;rotate_left;simp at hr;rename_i t xs ho;cases hr;simp_all[ZdD,TV.enc,ZI,AET.ae,ZP.enc,Zc]
 ·rename_i k id;split at hr;rotate_left;simp at hr;rename_i d m ho;split at hr;rotate_left;simp at hr;rename_i l hl;cases hr;refine⟨[], ?_,by simp⟩;simp only[ZdD,TV.enc,Zc ho,TO.enc,TV.encs,Zkh (hT.objs id _ ho d (by simp)) hl,AET.ae,ZP.enc]
 ·cases hr;exact⟨[],rfl,by simp⟩
 simp_all
theorem Zko {T:TS U} {m:Id} {a:AET U} (h:hidT T m=some a):Zlt T.enc m=some (a.ae [])∧a.fs=[]∧a.ref=none∧∃k v kv,a.arg= .hmap k v kv∧a.id=some m∧T.objs m=some (.map k v kv):=by grind[hidT,Zlt,Z5,AET.ae,ZP.enc,Zc]
def Zak (T:TS U):List AM→List (Option Nat)→List (TV U)→Option (List (AET U))
 | [],_,[]=>some []
 |m::ms,h::hs,d::ds=>match Znl T m h d,Zak T ms hs ds with
  |some a,some r=>some (a::r)
  |_,_=>none
 |_,_,_=>none
theorem Zfi (hU:UOk U) {T:TS U} (hT:T.Inv):∀{ms:List AM} {hs:List (Option Nat)} {ds:List (TV U)} {as:List (AET U)},(∀d∈ds,d.inv T.objs)→Zak T ms hs ds=some as→
  ∃aes:List AE,Zj (fun x:AM×D=>ZdD T.enc x.1 x.2) (ms.zip (TV.encs ds))=some aes∧ds.length=ms.length∧aes.map (·.arg)=as.map (fun a=>a.arg.enc)∧aes.flatMap (·.fs)=as.flatMap (·.fs)∧(∀q∈aes.flatMap (·.cond),q=true)∧aes.map (·.id)=as.map (·.id)∧aes.map (·.ref)=as.map (·.ref)
 | [],hs,[],as,_,h=>by simp only[Zak,ZnO]at h;subst h;exact⟨[],rfl,rfl,rfl,rfl,by simp,rfl,rfl⟩
 | [],hs,d::ds,as,_,h=>by grind[Zak]
 |m::ms,[],ds,as,_,h=>by grind[Zak]
 |m::ms,hh::hs,[],as,_,h=>by grind[Zak]
 |m::ms,hh::hs,d::ds,as,hi,h=>by simp only[Zak]at h;split at h;rotate_left;simp at h;rename_i a r h1 h2;cases h;obtain⟨cs,q1,q2⟩:=Zm3 hU hT (hi d (by simp)) h1;obtain⟨aes,p1,p2,p3,p4,p5,p6,p7⟩:=Zfi hU hT (fun a ha=>hi a (by grind)) h2;refine⟨a.ae cs::aes,by grind[TV.encs,ZoD,Zj],by grind,by grind[AET.ae],by grind[AET.ae], ?_,by grind[AET.ae],by grind[AET.ae]⟩;intro q hq;simp only[List.flatMap_cons,Zn7]at hq;exact hq.elim (fun h=>q2 q h) (fun h=>p5 q h)
def Zjw (T:TS U) (ms:List AM) (hs:List (Option Nat)) (ds:List (TV U)):Option (List (AET U)):=match Zak T ms hs ds with
 |some as=>match Zj (hidT T) (as.filterMap (·.ref))with
  |some hm=>some (as++hm)
  |none=>none
 |none=>none
theorem ZlH (hU:UOk U) {T:TS U} (hT:T.Inv) {ms:List AM} {hs:List (Option Nat)} {ds:List (TV U)} {as:List (AET U)} (hi:∀d∈ds,d.inv T.objs) (h:Zjw T ms hs ds=some as):
  ∃ae0 aeh:List AE,Zj (fun x:AM×D=>ZdD T.enc x.1 x.2) (ms.zip (TV.encs ds))=some ae0∧Zj (Zlt T.enc) (ae0.filterMap (·.ref))=some aeh∧ds.length=ms.length∧
   (ae0++aeh).map (·.arg)=as.map (fun a=>a.arg.enc)∧(ae0++aeh).flatMap (·.fs)=as.flatMap (·.fs)∧(∀q∈(ae0++aeh).flatMap (·.cond),q=true)∧(ae0++aeh).map (·.id)=as.map (·.id)∧(ae0++aeh).map (·.ref)=as.map (·.ref):=by
 unfold Zjw at h;split at h;rotate_left;simp at h;rename_i as0 h0;split at h;rotate_left;simp at h;rename_i hm h1;cases h;obtain⟨aes,p1,p2,p3,p4,p5,p6,p7⟩:=Zfi hU hT hi h0;have er:aes.filterMap (·.ref)=as0.filterMap (·.ref):=by rw[show (fun x:AE=>x.ref)=id∘(fun x:AE=>x.ref)from rfl,show (fun x:AET U=>x.ref)=id∘(fun x:AET U=>x.ref)from rfl,←List.filterMap_map,←List.filterMap_map,p7]
 have key:∀(l:List Id) (r:List (AET U)),Zj (hidT T) l=some r→Zj (Zlt T.enc) l=some (r.map (·.ae [])):=by
  intro l
  induction l with
  |nil=>grind[Zj]
  |cons x l ih=>
   grind[Zj,Zko]
 refine⟨aes,hm.map (·.ae []),p1,by simp_all,p2, ?_, ?_,fun q hq=> ?_, ?_, ?_⟩
 ·rw[ZoA,ZoA,p3,ZoB];rfl
 ·rw[List.flatMap_append,List.flatMap_append,p4,List.flatMap_map];rfl
 ·grind[AET.ae]
 ·rw[ZoA,ZoA,p6,ZoB];rfl
 ·rw[ZoA,ZoA,p7,ZoB];rfl
def ZP.o:ZP U→Option (TO U)
 | .p _=>none
 | .box cs=>some (.box (cs.map lv))
 | .arr t xs=>some (.arr t xs false)
 | .map k v kv=>some (.map k v kv)
 | .part t xs _ _=>some (.arr t xs false)
 | .boxr _ _=>none
 | .hmap k v kv=>some (.map k v kv)
def Zfg (outs:List (Nat×ZP U)) (k:Nat):TO U:=match Zg outs k with
 |some a=>match a.o with
  |some o=>o
  |none=> .gone
 |none=> .gone
def ZgX (outs:List (Nat×ZP U)):Nat→List (AET U)→List (Id×TO U)
 |_,[]=>[]
 |k,x::r=>match x.id with
  |some id=>(id,Zfg outs k)::ZgX outs (k+1) r
  |none=>ZgX outs (k+1) r
def TRV.at (ep i:Nat) (as:List (AET U)) (j:Nat):TRV U→Option (TV U)
 | .p l=>some (lv l)
 | .own _ es=>some (.full (ep,i,j) es.length)
 | .box _=>some (.ptr (ep,i,j) 0 0)
 | .map _ _ _=>some (.map (ep,i,j))
 | .view k off len=>match as[k]? with
  |some a=>match a.id with
   |some id=>some (.sl id off len)
   |none=>none
  |none=>none
 | .aown pre _ es post _=>some (.agg (pre.map lv++ .full (ep,i,j) es.length::post.map lv))
def arrTO (t:Ty) (es:List (El U.car t)):Option (Nat×Ty×Nat)→TO U
 |none=> .arr t es false
 |some (c,u,lo)=> .own t c u es lo none
def TRV.o:TRV U→Option (TO U)
 | .own t es=>some (.arr t es false)
 | .aown _ t es _ ow=>some (arrTO t es ow)
 | .box cs=>some (.box (cs.map lv))
 | .map k v kv=>some (.map k v kv)
 |_=>none
def Zdf (ep i:Nat) (as:List (AET U)):Nat→List (TRV U)→Option (List (TV U))
 |_,[]=>some []
 |j,x::r=>match x.at ep i as j,Zdf ep i as (j+1) r with
  |some d,some ds=>some (d::ds)
  |_,_=>none
def ZaM:Nat→List (TRV U)→List (Nat×TO U)
 |_,[]=>[]
 |j,x::r=>match x.o with
  |some o=>(j,o)::ZaM (j+1) r
  |none=>ZaM (j+1) r
def tupT:List (TV U)→TV U
 | [d]=>d
 |ds=> .tup ds
def ZgU (T:TS U) (i:Nat) (as:List (AET U)) (ret:ZbL U):Option (Zk U):=
 match Zdf T.ep i as 0 ret.res with
 |some ds=>some {val:=tupT ds,new:=ZaM 0 ret.res,wr:=ZgX ret.outs 0 as,frz:=as.flatMap (·.fs)}
 |none=>none
theorem ZiE (a:ZP U):ZiV a.o=a.enc.o:=by
 cases a with
 |p q=>rfl
 |box cs=>grind[ZP.o,ZiV,TO.enc,ZbD,ZP.enc,Arg.o]
 |arr t xs=>rfl
 |map k v kv=>rfl
 |part t xs off len=>rfl
 |boxr l k=>rfl
 |hmap k v kv=>rfl
theorem Zfh {α β γ:Type} [DecidableEq α] (f:β→γ):∀(l:List (α×β)) (x:α),Zg (l.map fun y=>(y.1,f y.2)) x=(Zg l x).map f
 | [],x=>rfl
 |(a,b)::r,x=>by
  simp only[Zn6,Zg];split
  ·rfl
  ·exact Zfh f r x
theorem Zjt (outs:List (Nat×ZP U)) (k:Nat):(Zfg outs k).enc=Zds (outs.map fun x=>(x.1,x.2.enc)) k:=by
 unfold Zfg Zds;rw[Zfh];cases Zg outs k with
 |none=>rfl
 |some a=>
  simp only[Zow];have key:(match a.o with |some o=>o |none=>TO.gone).enc=match a.enc.o with |some o=>o |none=>Obj.gone:=by rw[←ZiE a];cases a.o<;>rfl
  omega
theorem Zeo (outs:List (Nat×ZP U)):∀(k:Nat) (as:List (AET U)) (aes:List AE),aes.map (·.id)=as.map (·.id)→(ZgX outs k as).map (fun x=>(x.1,x.2.enc))=Zbr (outs.map fun x=>(x.1,x.2.enc)) k aes
 |k,[],[],_=>rfl
 |k,[],_::_,h=>by grind
 |k,_::_,[],h=>by grind
 |k,a::as,b::bs,h=>by
  simp only[Zn6,Zox]at h;simp only[ZgX,Zbr,h.1];cases a.id with
  |none=>exact Zeo outs (k+1) as bs h.2
  |some id=>simp only[Zn6,Zeo outs (k+1) as bs h.2,Zjt]
theorem Zgn (d:D) (hd:d.pure?=none) (post:List D):∀pre:List P,Zj D.pure? (pre.map D.p++d::post)=none
 | []=>by grind[Zj]
 |x::pre=>by have:=Zgn d hd post pre;grind[Zj]
theorem ZfT (pre post:List (Lf U.car)) (id:Id) (n:Nat):(TV.agg (pre.map lv++ .full id n::post.map lv):TV U).enc= .agg ((pre.map U.encL).map .p++ .sl id 0 n::(post.map U.encL).map .p):=by
 have e:TV.encs (pre.map lv++ .full id n::post.map lv)=(pre.map U.encL).map .p++ .sl id 0 n::(post.map U.encL).map .p:=by rw[Zai,ZoA,Zn6,←Zai,←Zai,ZbD,ZbD];rfl
 rw[TV.enc,e];unfold D.mkAgg;rw[Zgn _ rfl]
theorem Zi8 {pre post:List (Lf U.car)} {id:Id} {n:Nat} {q:Id×Nat} (h:q∈(TV.agg (pre.map lv++ .full id n::post.map lv):TV U).fulls):q=(id,n):=by
 grind[TV.fulls,Zq,lv]
theorem Zla {ep i j:Nat} {as:List (AET U)} {aes:List AE} (hid:aes.map (·.id)=as.map (·.id)) {x:TRV U} {d:TV U} (h:x.at ep i as j=some d):x.enc.at ep i aes j=some d.enc:=by
 cases x with
 |p l=>simp only[TRV.at,ZnO]at h;subst h;rfl
 |own t es=>grind[TRV.at,TRV.enc,RV.at,TV.enc]
 |box cs=>simp only[TRV.at,ZnO]at h;subst h;rfl
 |map k v kv=>simp only[TRV.at,ZnO]at h;subst h;rfl
 |aown pre t es post ow=>grind[TRV.at,ZfT,TRV.enc,RV.at]
 |view k off len=>
  simp only[TRV.at]at h;have hk:(aes[k]?).map (·.id)=(as[k]?).map (·.id):=by rw[←ZnB,←ZnB,hid]
  grind[TRV.enc,RV.at,TV.enc]
theorem Zms (x:TRV U):ZiV x.o=x.enc.o:=by
 cases x with
 |box cs=>grind[TRV.o,ZiV,TO.enc,ZbD,TRV.enc,RV.o]
 |aown pre t es post ow=>cases ow<;>rfl
 |_=>rfl
theorem ZeV {ep i:Nat} {as:List (AET U)} {aes:List AE} (hid:aes.map (·.id)=as.map (·.id)):∀(j:Nat) (l:List (TRV U)) (ds:List (TV U)),Zdf ep i as j l=some ds→Zhj ep i aes j (l.map TRV.enc)=some (TV.encs ds)
 |j,[],ds,h=>by simp only[Zdf,ZnO]at h;subst h;rfl
 |j,x::r,ds,h=>by simp only[Zdf]at h;split at h;rotate_left;simp at h;rename_i d ds' h1 h2;cases h;simp only[Zn6,Zhj,Zla hid h1,ZeV hid (j+1) r ds' h2,TV.encs]
theorem Zca:∀(j:Nat) (l:List (TRV U)),(ZaM j l).map (fun x=>(x.1,x.2.enc))=Za1 j (l.map TRV.enc)
 |j,[]=>rfl
 |j,x::r=>by
  simp only[ZaM,Zn6,Za1];have:=Zms x;cases hx:x.o with
  |none=>rw[hx]at this;rw[←this];exact Zca (j+1) r
  |some o=>rw[hx]at this;rw[←this];simp only[ZiV,Zn6,Zca (j+1) r]
theorem Zk1 (ds:List (TV U)):(tupT ds).enc=Zm9 (TV.encs ds):=by
 match ds with
 | []=>rfl
 | [d]=>rfl
 |a::b::r=>rfl
theorem Zjr {T:TS U} {i:Nat} {as:List (AET U)} {aes:List AE} {ret:ZbL U} {e:Zk U} (hid:aes.map (·.id)=as.map (·.id)) (hfs:aes.flatMap (·.fs)=as.flatMap (·.fs)) (h:ZgU T i as ret=some e):ZfY T.enc i aes ret.enc=some (e.enc []):=by unfold ZgU at h;split at h;rotate_left;simp at h;rename_i ds hds;cases h;unfold ZfY;rw[show T.enc.ep=T.ep from rfl,show ret.enc.res=ret.res.map TRV.enc from rfl,ZeV hid 0 _ ds hds];grind[Zk.enc,Zk1,Zca,ZbL.enc,Zeo]
def ZP.len?:ZP U→Option Nat
 | .arr _ xs=>some xs.length
 | .part _ xs _ _=>some xs.length
 |_=>none
def ZeA (args:List (ZP U)) (ret:ZbL U):Prop:=∀k a n,(k,a)∈ret.outs→a.len?=some n→∃a',args[k]? =some a'∧a'.len?=some n
theorem ZcD {outs:List (Nat×ZP U)}:∀(n:Nat) (l:List (AET U)) (id:Id) (o:TO U),(id,o)∈ZgX outs n l→∃j x,l[j]? =some x∧x.id=some id∧o=Zfg outs (n+j)
 |n,[],id,o,h=>by grind[ZgX]
 |n,x::r,id,o,h=>by
  simp only[ZgX]at h;split at h
  ·rename_i id' hid;rcases ZnD.1 h with h |h
   ·simp only[ZnP]at h;exact⟨0,x,rfl,by simp_all,by simp_all⟩
   ·obtain⟨j,y,h1,h2,h3⟩:=ZcD (n+1) r id o h;exact⟨j+1,y,by simp_all,h2,by grind⟩
  ·obtain⟨j,y,h1,h2,h3⟩:=ZcD (n+1) r id o h;exact⟨j+1,y,by simp_all,h2,by grind⟩
theorem Zet {T:TS U}:∀{ms:List AM} {hs:List (Option Nat)} {ds:List (TV U)} {as:List (AET U)},Zak T ms hs ds=some as→∀(j:Nat) (a:AET U),as[j]? =some a→∃m h d,Znl T m h d=some a
 | [],hs,[],as,h,j,a,ha=>by grind[Zak]
 | [],hs,d::ds,as,h,j,a,ha=>by grind[Zak]
 |m::ms,[],ds,as,h,j,a,ha=>by grind[Zak]
 |m::ms,hh::hs,[],as,h,j,a,ha=>by grind[Zak]
 |m::ms,hh::hs,d::ds,as,h,j,a,ha=>by
  simp only[Zak]at h;split at h;rotate_left;simp at h;rename_i b r h1 h2;cases h;cases j with
  |zero=>grind
  |succ j=>exact Zet h2 j a (by simp_all)
theorem ZaL:∀(j:Nat) (l:List (TRV U)) (k:Nat) (o:TO U),(k,o)∈ZaM j l→∃(m:Nat) (x:TRV U),l[m]? =some x∧k=j+m∧x.o=some o
 |j,[],k,o,h=>by grind[ZaM]
 |j,x::r,k,o,h=>by
  simp only[ZaM]at h;split at h
  ·rename_i o' ho;rcases ZnD.1 h with h |h
   ·simp only[ZnP]at h;exact⟨0,x,rfl,by omega,by simp_all⟩
   ·obtain⟨m,y,h1,h2,h3⟩:=ZaL (j+1) r k o h;exact⟨m+1,y,by simp_all,by omega,h3⟩
  ·obtain⟨m,y,h1,h2,h3⟩:=ZaL (j+1) r k o h;exact⟨m+1,y,by simp_all,by omega,h3⟩
theorem ZcS:∀(j:Nat) (l:List (TRV U)) (m:Nat) (x:TRV U) (o:TO U),l[m]? =some x→x.o=some o→(j+m,o)∈ZaM j l
 |j,[],m,x,o,h,_=>by grind
 |j,y::r,m,x,o,h,ho=>by
  cases m with
  |zero=>
   grind[ZaM]
  |succ m=>
   have:=ZcS (j+1) r m x o (by simp_all) ho;grind[ZaM]
theorem ZfH:∀(l:List (Id×TO U)) (T:TS U) (id:Id) (o:TO U),(id,o)∈l→(∀o',(id,o')∈l→o'=o)→(T.objL l).objs id=some o
 | [],T,id,o,h,_=>by grind
 |(a,u)::l,T,id,o,h,hu=>by
  simp only[TS.objL]
  by_cases hm:∃o',(id,o')∈l
  ·obtain⟨o',ho'⟩:=hm;have:=hu o' (Zoa _ ho');subst this;exact ZfH l _ id o' ho' fun o2 h2=>hu o2 (Zoa _ h2)
  ·rcases ZnD.1 h with h |h
   ·simp only[ZnP]at h;obtain⟨rfl,rfl⟩:=h;have key:∀(l:List (Id×TO U)) (T:TS U),(¬∃o,(id,o)∈l)→(T.objL l).objs id=T.objs id:=by
     intro l
     induction l with
     |nil=>intro T _;rfl
     |cons x l ih=>
      obtain⟨b,v⟩:=x;intro T hn;grind[TS.objL,upd,absurd,List.mem_cons_self]
    grind[upd]
   simp_all
theorem ZeU {ep i:Nat} {as:List (AET U)}:∀(j:Nat) (l:List (TRV U)) (ds:List (TV U)),Zdf ep i as j l=some ds→∀d∈ds,∃(m:Nat) (x:TRV U),l[m]? =some x∧x.at ep i as (j+m)=some d
 |j,[],ds,h,d,hd=>by grind[Zdf]
 |j,x::r,ds,h,d,hd=>by
  simp only[Zdf]at h;split at h;rotate_left;simp at h;rename_i d' ds' h1 h2;cases h;rcases ZnD.1 hd with rfl |hd
  ·exact⟨0,x,rfl,h1⟩
  ·obtain⟨m,y,q1,q2⟩:=ZeU (j+1) r ds' h2 d hd;exact⟨m+1,y,by simp_all,by grind⟩
theorem ZkM {T:TS U} {ms:List AM} {hs:List (Option Nat)} {ds:List (TV U)} {as:List (AET U)} (h:Zjw T ms hs ds=some as) (j:Nat) (a:AET U) (ha:as[j]? =some a):
  (∃k v kv,a.arg= .hmap k v kv)∨∃m h d,Znl T m h d=some a:=by
 unfold Zjw at h;split at h;rotate_left;simp at h;rename_i as0 h0;split at h;rotate_left;simp at h;rename_i hm h1;cases h;rw[List.getElem?_append]at ha;split at ha
 ·grind[Zet]
 ·obtain⟨e1,e2⟩:=Zh h1;have hj:=(ZnA.1 ha).1;obtain⟨_,_,_,k,v,kv,q,_⟩:=Zko (e2 _ _ a (Zn2 (by omega)) ha);simp_all
theorem Zjq {T:TS U} {i:Nat} {as:List (AET U)} {ms:List AM} {hs:List (Option Nat)} {ds0:List (TV U)} (has:Zjw T ms hs ds0=some as) {ret:ZbL U} (hol:ZeA (as.map (·.arg)) ret) {e:Zk U} (h:ZgU T i as ret=some e):ZL T i e:=by
 unfold ZgU at h;split at h;rotate_left;simp at h;rename_i ds hds;cases h;have box:∀(cs:List (Lf U.car)) (lk:Id→Option (TO U)),(TO.box (cs.map lv)).inv lk:=fun cs lk d hd=>by obtain⟨l,_,rfl⟩:=Zod.1 hd;exact Zah _ _
 have argo:∀(a:ZP U) (o:TO U) (lk:Id→Option (TO U)),a.o=some o→o.inv lk:=fun a o lk ha=>by
  cases a<;>simp only[ZP.o,ZnO,reduceCtorEq]at ha<;>subst ha
  ·simp_all
  ·trivial
  ·trivial
  ·trivial
  ·trivial
 refine⟨fun id o hm n he=> ?_,fun hf=> ?_,fun _ o ho=> ?_⟩
 ·obtain⟨j,x,q1,q2,q3⟩:=ZcD 0 as id o hm;rw[q3]at he;unfold Zfg at he;split at he;rotate_left;cases he;rename_i a ha;have key:∀o2,a.o=some o2→∀m,o2.len?=some m→a.len?=some m:=fun o2 h m hm=>by
   cases a with
   |p q=>grind[ZP.o]
   |box cs=>grind[ZP.o,TO.len?]
   |map k v kv=>grind[ZP.o,TO.len?]
   |arr t3 xs3=>simp only[ZP.o,ZnO]at h;subst h;exact hm
   |part t3 xs3 off len=>simp only[ZP.o,ZnO]at h;subst h;exact hm
   |boxr l k=>grind[ZP.o]
   |hmap k v kv=>grind[ZP.o,TO.len?]
  split at he;rotate_left;cases he;rename_i o ho;obtain⟨a',p1,p2⟩:=hol _ _ _ (Z1 ha) (key o ho n he);rw[ZnB,Zok,q1,Zow,ZnO]at p1;subst p1;rcases ZkM has j x q1 with ⟨k3,v3,kv3,hd⟩ |⟨m,hh,d,hd⟩
  ·grind[ZP.len?]
  unfold Znl at hd;split at hd
  ·grind
  ·grind[ZP.len?]
  ·split at hd;rotate_left;simp at hd;rename_i t3 xs3 ho3;cases hd;cases q2;simp only[ZP.len?,ZnO]at p2;exact⟨_,ho3,by rw[←p2];rfl⟩
  ·grind[ZP.len?]
  ·split at hd;rotate_left;simp at hd;rename_i t3 xs3 ho3;cases hd;cases q2;simp only[ZP.len?,ZnO]at p2;exact⟨_,ho3,by rw[←p2];rfl⟩
  all_goals grind
 ·intro q hq;have:∃d∈ds,q∈d.fulls:=by
   match ds,hq with
   | [],hq=>grind[tupT,TV.fulls,TV.fullsL]
   | [d],hq=>exact⟨d,by simp,hq⟩
   |a::b::r,hq=>exact Zq.1 hq
  obtain⟨d,hd,hq⟩:=this;obtain⟨m,x,q1,q2⟩:=ZeU 0 _ ds hds d hd;cases x with
  |p l=>grind[TRV.at,lv,TV.fulls]
  |box cs=>grind[TRV.at,TV.fulls]
  |map k v kv=>grind[TRV.at,TV.fulls]
  |view k off len=>
   grind[TRV.at,TV.fulls]
  |aown pre t xs post ow=>
   simp only[TRV.at,ZnO]at q2;subst q2;obtain rfl:=Zi8 hq;refine⟨arrTO t xs ow, ?_,fun n' he=>by cases ow<;>(cases he;rfl)⟩;refine ZfH _ _ _ _ (Zod.2 ⟨_,ZcS 0 _ m _ _ q1 rfl,rfl⟩) fun o' ho'=> ?_
   obtain⟨y,hy,he⟩:=Zod.1 ho';simp only[ZnP,true_and]at he;obtain⟨h1,rfl⟩:=he;obtain⟨m',x',p1,p2,p3⟩:=ZaL 0 _ _ _ hy;have:m'=m:=by omega
   subst this;grind[TRV.o]
  |own t xs=>
   simp only[TRV.at,ZnO]at q2;subst q2;simp only[TV.fulls,ZnF]at hq;subst hq;refine⟨.arr t xs false, ?_,fun n' he=>by cases he;rfl⟩;refine ZfH _ _ _ _ (Zod.2 ⟨_,ZcS 0 _ m _ _ q1 rfl,rfl⟩) fun o' ho'=> ?_
   obtain⟨y,hy,he⟩:=Zod.1 ho';simp only[ZnP,true_and]at he;obtain⟨h1,rfl⟩:=he;obtain⟨m',x',p1,p2,p3⟩:=ZaL 0 _ _ _ hy;have:m'=m:=by omega
   subst this;rw[q1,ZnO]at p1;subst p1;simp only[TRV.o,ZnO]at p3;exact p3.symm
 ·rcases ho with ⟨k,hm⟩ |⟨id,hm⟩
  ·obtain⟨m,x,q1,q2,q3⟩:=ZaL 0 _ _ _ hm;cases x<;>simp only[TRV.o,ZnO,reduceCtorEq]at q3<;>subst q3
   ·trivial
   ·exact box _ _
   ·trivial
   ·rename_i ow;cases ow<;>trivial
  ·obtain⟨j,x,q1,q2,q3⟩:=ZcD 0 as id o hm;subst q3;unfold Zfg;split
   ·rename_i a ha;split
    ·rename_i hao;exact argo _ _ _ hao
    ·trivial
   ·trivial
end
end Eng
namespace Eng
open Go
open Go.ChangeMaps (setBlock)
section
variable {C:Ctx} {X:Nat→Prop} {ρ:Id→Option Lay} {S:Nat→Prop} {st:St} {a:Act} {w:World} {i:Nat} {o:Oper}
theorem ZbZ {α β:Type} (p:α→Bool):∀(xs:List α) (ys:List β),xs.length=ys.length→((xs.zip ys).filter fun x=>p x.1).length=(xs.filter p).length
 | [],ys,h=>by simp
 |x::xs,[],h=>by grind
 |x::xs,y::ys,h=>by simp only[ZoD,List.filter_cons];have:=ZbZ p xs ys (by simp_all);grind
theorem Zfa {α:Type}:∀(l:List α) (j:Nat) (h:j < l.length),(l[j]::l.eraseIdx j).Perm l
 |x::l,0,h=> .refl _
 |x::l,j+1,h=>by simp only[List.getElem_cons_succ,List.eraseIdx_cons_succ];exact(List.Perm.swap _ _ _).trans ((Zfa l j (by simp_all)).cons x)
theorem Zcy {α β:Type} (f:α→β) [DecidableEq β] (seen:Array β) (e:α) (p:α→Prop):∀(l:List α),(∀x∈l,∀y∈l,f x=f y→x=y)→l.Nodup→e∈l→seen.contains (f e)=false→
  (e::l.filter fun x=> !(seen.push (f e)).contains (f x)).Perm (l.filter fun x=> !seen.contains (f x))
 | [],_,_,he,_=>by simp_all
 |x::l,hinj,hnd,he,hs=>by
  have push:∀y,(seen.push (f e)).contains (f y)=(seen.contains (f y)||decide (f y=f e)):=fun y=>by
   simp_all
  by_cases hx:x=e
  ·subst hx;have hrest:∀y∈l,decide (f y=f x)=false:=fun y hy=>by grind
   have h1:(l.filter fun y=> !(seen.push (f x)).contains (f y))=l.filter fun y=> !seen.contains (f y):=List.filter_congr fun y hy=>by simp_all
   simp_all
  ·have he':e∈l:=by grind
   have hne:f x≠f e:=fun hf=>hx (hinj x (by simp) e he hf)
   have ih:=Zcy f seen e p l (fun a ha b hb=>hinj a (by grind) b (by grind)) (List.nodup_cons.1 hnd).2 he' hs;simp only[List.filter_cons,push x,hne,decide_false,Bool.or_false];split
   ·exact(List.Perm.swap x e _).trans (ih.cons x)
   omega
theorem Zlj {it:Operand} (h:Rep C X ρ S st a.tmps w) (hi:¬X i) (ht:∀d,o.dst=some d→d < C.E.nt) (hlit:ZE it=true) (ho:o.op= .next it false) {id:Id} {rest:List (P×P)} {cur:Option (P×P)}
  (hx:ev C.E st.slots 0 it= .it id) (hlk:st.objs id=some (.mit rest cur)) (hfz:st.fz id=false):
  (rest=[]∧∃v w',(execOp a.eval o).run C.E.prog w= .ok (.value v) w'∧∃ρ' S',Rep C (fun j=>X j∨j=i) ρ' S' (st.app i o.dst {val:= .tup [.p (.bool false)]}) (a.put o.dst v).tmps w')∨
  ∃(j:Nat) (q:P×P),rest[j]? =some q∧∃v w',(execOp a.eval o).run C.E.prog w= .ok (.value v) w'∧
   ∃ρ' S',Rep C (fun j=>X j∨j=i) ρ' S' (st.app i o.dst {val:= .tup [.p (.bool true),.p q.1,.p q.2],wr:=[(id,.mit (rest.eraseIdx j) (some q))]}) (a.put o.dst v).tmps w':=by
 have h1:=Zm h 0 hlit;rw[hx]at h1;generalize hv:a.eval it=v at h1;cases h1 with
 |it _ L b hL hLb=>
 obtain⟨L',hL',b',hLb',hmit⟩:=h.objs id _ hlk (by simp);rw[hL]at hL';obtain rfl:=ZnN hL';rw[hLb]at hLb';obtain rfl:=ZnN hLb';have hown:=h.own id _ L b hlk (by simp) hL hLb;have over:rest=[]→(Instr.next (.pointer (some ⟨b,0,none⟩)) false o.type).run C.E.prog w= .ok (.tuple #[.bool false]) w→
   ∃v w',(execOp a.eval o).run C.E.prog w= .ok (.value v) w'∧∃ρ' S',Rep C (fun j=>X j∨j=i) ρ' S' (st.app i o.dst {val:= .tup [.p (.bool false)]}) (a.put o.dst v).tmps w':=fun _ hr=>by
  obtain⟨S',hrep⟩:=h.step (i:=i) (t:=o.dst) (e:={val:= .tup [.p (.bool false)]}) (v:= .tuple #[.bool false]) (w':=w) ρ hi ht (ZnJ _) (ZQ.refl _) (fun _ _ _=>rfl) (by simp) (fun _ _ h=>h) (fun id h=> .inl h) (by simp) (fun _ _ hm=>by simp_all) (fun _ _ _ _ _ _ _ hm=>by simp_all) (by simp)
   (fun _ _ _ _ _=> .tup _ _ rfl fun j u c hu hc=>by
    match j with
    |0=>simp at hu hc;subst hu hc;exact .p _ _ (.bool false)
    |j+1=>simp_all)
  exact⟨_,_,by simp_all[execOp],ρ,S',hrep⟩
 rcases hmit with ⟨since,seen,stepped,hb,rfl,rfl⟩ |⟨m,es,clock,seen,kv',hSm,hm,hb,hel,hkv,hborn,hbinj,hperm,_⟩
 ·exact .inl ⟨rfl,over rfl (by simp[Instr.next,getObj,Sem.run,hb])⟩
 ·have hlen:es.toList.length=kv'.length:=by omega
  have hlf:(leftOf es seen).toList=es.toList.filter fun e=> !seen.contains e.born:=by simp[leftOf]
  rcases run_next_at (P:=C.E.prog) w o.type b m clock clock seen es clock hb hm (fun x hx=>by grind[Zou]) (ZnJ _)with ⟨h0,hr⟩ |⟨e,he,w1,hal,hr⟩
  ·refine .inl ?_;have hz:((es.toList.zip kv').filter fun x=> !seen.contains x.1.born).length=0:=by grind[ZbZ]
   have:rest=[]:=by have:=hperm.length_eq;grind
   grind
  ·refine .inr ?_;rw[hlf,List.mem_filter]at he;obtain⟨hee,hun⟩:=he;obtain⟨k,hk⟩:=Zou.1 hee;have hkl:k < es.toList.length:=(ZnA.1 hk).1;have hq:kv'[k]? =some kv'[k]:=by grind
   have hpair:(e,kv'[k])∈es.toList.zip kv':=by refine Zou.2 ⟨k, ?_⟩;grind
   have hun':seen.contains e.born=false:=by grind
   have zinj:∀x∈es.toList.zip kv',∀y∈es.toList.zip kv',x.1.born=y.1.born→x=y:=fun x hx y hy hxy=>by obtain⟨k1,h1⟩:=Zou.1 hx;obtain⟨k2,h2⟩:=Zou.1 hy;have g1:=Zoy.1 h1;have g2:=Zoy.1 h2;have:=hbinj k1 k2 _ _ (by simpa using g1.1) (by simpa using g2.1) hxy;subst this;rw[h1]at h2;grind
   have znd:(es.toList.zip kv').Nodup:=by
    refine List.pairwise_iff_getElem.2 fun k1 k2 h1 h2 h12 heq=> ?_
    have hz:(es.toList.zip kv')[k1]? =some (es.toList.zip kv')[k1]:=Zn2 h1;have hz2:(es.toList.zip kv')[k2]? =some (es.toList.zip kv')[k1]:=by rw[heq];exact Zn2 h2
    have g1:=Zoy.1 hz;have g2:=Zoy.1 hz2;have e1:=Array.getElem?_toList (xs:=es) (i:=k1);have e2:=Array.getElem?_toList (xs:=es) (i:=k2);have:=hbinj k1 k2 _ _ (e1.symm.trans g1.1) (e2.symm.trans g2.1) rfl;omega
   have hrem:=Zcy (fun x:MapEntry×(P×P)=>x.1.born) seen (e,kv'[k]) (fun _=>True) (es.toList.zip kv') zinj znd hpair hun';have hp2:(kv'[k]::(((es.toList.zip kv').filter fun x=> !(seen.push e.born).contains x.1.born).map (·.2))).Perm rest:=by have:=(hrem.map (·.2)).trans hperm;simpa using this
   have hmemr:kv'[k]∈rest:=hp2.subset (by simp);obtain⟨j,hj⟩:=Zou.1 hmemr;have hjl:=(ZnA.1 hj).1;have hjv:rest[j]=kv'[k]:=(ZnA.1 hj).2;have hp3:(((es.toList.zip kv').filter fun x=> !(seen.push e.born).contains x.1.born).map (·.2)).Perm (rest.eraseIdx j):=by have h5:(rest[j]::rest.eraseIdx j).Perm rest:=Zfa rest j hjl;rw[hjv]at h5;exact(hp2.trans h5.symm).cons_inv
   have hek:=hkv k e kv'[k] (by simpa using hk) hq;have hheap:∀b',b'≠b→(setBlock w1 b (.mapIter (some m) clock (seen.push e.born) clock)).heap[b']? =w.heap[b']? :=fun b' hne=>by
    have:w1.heap=w.heap:=by rcases hal with rfl |rfl<;>rfl
    simp only[setBlock,this];exact Array.getElem?_setIfInBounds_ne (Ne.symm hne)
   have hheapb:(setBlock w1 b (.mapIter (some m) clock (seen.push e.born) clock)).heap[b]? =some (.mapIter (some m) clock (seen.push e.born) clock):=by
    have:w1.heap=w.heap:=by rcases hal with rfl |rfl<;>rfl
    simp only[setBlock,this];simp[hown.1]
   have hsz:(setBlock w1 b (.mapIter (some m) clock (seen.push e.born) clock)).heap.size=w.heap.size:=by
    have:w1.heap=w.heap:=by rcases hal with rfl |rfl<;>rfl
    simp[setBlock,this]
   have hmb:m≠b:=fun hh=>(hown.2.2.2 hfz) (hh▸hSm)
   have kp:ZbM S w (setBlock w1 b (.mapIter (some m) clock (seen.push e.born) clock)):=fun b' hb' _=>hheap b' fun hh=>(hown.2.2.2 hfz) (hh▸hb')
   refine⟨j,kv'[k],hj,(.tuple #[.bool true,e.key,e.val]),setBlock w1 b (.mapIter (some m) clock (seen.push e.born) clock),by simp[execOp,ho,hv,Sem.run_bind,hr,Result.andThen,Sem.run],ρ, ?_⟩;refine h.step ρ hi ht (Nat.le_of_eq hsz.symm) ?_ ?_ ?_ (fun _ _ h=>h) (fun id h=> .inl h) (by simp) (fun _ _ hm=>by simp at hm) (fun _ _ _ _ _ _ _ hm=>by simp at hm) ?_ ?_
   ·rcases hal with rfl |rfl<;>exact⟨rfl,rfl⟩
   ·intro b1 hb1 hne;exact hheap b1 fun hh=>hne id _ L (ZnF.2 rfl) hL (by rw[hLb,hh])
   ·intro id' o' hm';simp only[ZnF,ZnP]at hm';obtain⟨rfl,rfl⟩:=hm';exact⟨hfz,_,hlk,by simp⟩
   ·intro id' o' L1 hm' _ hL1 S' hS _;simp only[ZnF,ZnP]at hm';obtain⟨rfl,rfl⟩:=hm';rw[hL]at hL1;obtain rfl:=ZnN hL1;refine⟨b,hLb,.inr ⟨m,es,clock,seen.push e.born,kv',hS m hSm,by rw[hheap m hmb];exact hm,hheapb,hel,fun i' e' q' h1 h2=>⟨(hkv i' e' q' h1 h2).1.mono kp hS,(hkv i' e' q' h1 h2).2.mono kp hS⟩,hborn,hbinj,hp3, ?_⟩⟩;exact⟨k,e,by simpa using hk,hq,by simp⟩
   ·intro S' hS _ d _;refine .tup _ _ rfl fun j' u c hu hc=> ?_
    match j' with
    |0=>simp at hu hc;subst hu hc;exact .p _ _ (.bool true)
    |1=>simp at hu hc;subst hu hc;exact .p _ _ (hek.1.mono kp hS)
    |2=>simp at hu hc;subst hu hc;exact .p _ _ (hek.2.mono kp hS)
    |j'+3=>simp at hc
end
end Eng
namespace Eng
open Go
section
variable {C:Ctx} {X:Nat→Prop} {ρ:Id→Option Lay} {S:Nat→Prop} {st:St} {a:Act} {w:World} {i:Nat} {o:Oper}
theorem Ziw (h:Rep C X ρ S st a.tmps w) (hi:¬X i) (ht:∀d,o.dst=some d→d < C.E.nt) (hE:Zl C.E) {args:Array Operand} {ats:Array TypeId} {x:Operand} {t el:Nat} (ho:o.op= .call {callee:= .builtin .cap,args,argTypes:=ats})
  (hargs:args.toList=[x]) (hats:ats.toList=[t]) (hlit:ZE x=true) (hty:C.E.td t=some (.sl el)) {id:Id} {off len:Nat} (hx:ev C.E st.slots t x= .sl id off len):
  ∃c:Nat,len≤c∧c≤Zr∧∃v,(execOp a.eval o).run C.E.prog w= .ok (.value v) w∧∃ρ' S',Rep C (fun j=>X j∨j=i) ρ' S' (st.app i o.dst {val:= .p (.int .i64 c)}) (a.put o.dst v).tmps w:=by
 have hr:=Zm h t hlit;rw[hx]at hr;have ha:args.map a.eval= #[a.eval x]:=by rw[←ZnT (xs:=args),hargs];simp
 have hat:ats= #[t]:=by grind
 subst hat;obtain⟨d,hu,hd⟩:=hE.und hty;have hu':C.E.prog.underlying t=some (.slice el):=by cases d<;>simp[Zat]at hd;simp_all
 generalize a.eval x=v at ha hr;cases hr with
 |sl _ _ _ cap ad L hL hl hm hc hb=>
 obtain⟨csb,hxb⟩:=ZF (a:=a) (w:=w) (P:=C.E.prog) ho;have hrun:(Builtin.cap_ #[t] o.type #[.slice ad len cap]).run C.E.prog w= .ok (.int .i64 cap) w:=by simp[Builtin.cap_,Za hu',goInt]
 obtain⟨S',hrep⟩:=h.step (i:=i) (t:=o.dst) (e:={val:= .p (.int .i64 cap)}) (v:= .int .i64 cap) (w':=w) ρ hi ht (ZnJ _) (ZQ.refl _) (fun _ _ _=>rfl) (by simp) (fun _ _ h=>h) (fun id h=> .inl h) (by simp) (fun _ _ hm=>by simp_all) (fun _ _ _ _ _ _ _ hm=>by simp_all) (by simp)
  (fun _ _ _ _ _=> .p _ _ (.int .i64 _ (ZdV hm.2).1 (ZdV hm.2).2))
 refine⟨cap,hc,hm.2,_, ?_,ρ,S',hrep⟩;rw[hxb,ha];exact Zgk hrun
theorem ZkC (h:Rep C X ρ S st a.tmps w) (hi:¬X i) (ht:∀d,o.dst=some d→d < C.E.nt) (hE:Zl C.E) {args:Array Operand} {ats:Array TypeId} {s x:Operand} {t u:Nat} {te:TI} {tu:TD} (ho:o.op= .call {callee:= .builtin .append,args,argTypes:=ats})
  (hargs:args.toList=[s,x]) (hats:ats.toList=[t,u]) (hlit:∀y∈args.toList,ZE y=true) (hel:C.E.elem t=some te) (htu:C.E.td u=some tu) (htd:(∃e,tu= .sl e)∨tu= .str) {id:Id} {es xs:List P}
  (hs:ev C.E st.slots t s= .sl id 0 es.length) (hx:ZcP st.objs te.size (ev C.E st.slots u x)=some xs) (hlk:st.objs id=some (.arr te.size es false)) (hfz:st.fz id=false) (hfit:(es.length+xs.length)*max te.bytes 1≤ZD):
  ∃v w',(execOp a.eval o).run C.E.prog w= .ok (.value v) w'∧
   ∃ρ' S',Rep C (fun j=>X j∨j=i) ρ' S' (st.app i o.dst {val:= .p (.sl te.size (es++xs)),wr:=[(id,.arr te.size es true)],frz:=[id]}) (a.put o.dst v).tmps w':=by
 have ha:args.map a.eval= #[a.eval s,a.eval x]:=by rw[←ZnT (xs:=args),hargs];simp
 have hat:ats= #[t,u]:=by grind
 subst hat;obtain⟨ds,huu,hdsn⟩:∃ds,C.E.prog.underlying u=some ds∧∀k,ds≠ .int k:=by obtain⟨d,hu,hd⟩:=hE.und htu;grind[Zat]
 obtain⟨el,hty,hte⟩:∃el,(∃sz by_ ze,C.E.ty t=some {d:= .sl el,size:=sz,bytes:=by_,zero:=ze})∧C.E.ty el=some te:=by grind[Env.elem]
 obtain⟨_,_,_,hty⟩:=hty;have hut:=hE.slice hty rfl;have hrs:=Zm h t (hlit s (by simp_all));have hrx:=Zm h u (hlit x (by simp_all));rw[hs]at hrs;have hnew:=ZdI (P:=C.E.prog) h.objs hrx hx;have hold:=ZdI (P:=C.E.prog) (sz:=te.size) (xs:=es.take es.length) h.objs hrs (by grind[ZcP,Zbm]);rw[List.take_length]at hold;generalize a.eval x=vx at ha hnew hrx;generalize a.eval s=vs at ha hrs hold;cases hrs with
 |sl _ _ _ sCap ad L0 hL0 hll hm hcp hb0=>
 obtain⟨csb,hxb⟩:=ZF (a:=a) (w:=w) (P:=C.E.prog) ho;obtain⟨L',hL',hsz,hlen,hlc,hlm',hbn,hcells,evs,hev,hcell,hrel⟩:=h.objs id _ hlk (by simp);rw[hL0]at hL';obtain rfl:=ZnN hL';obtain⟨news,evs',n1,n2,n3,n4,n5,n6,n7⟩:=hnew;obtain⟨olds,evo,o1,o2,o3,o4,o5,o6,o7⟩:=hold;have hb2:es.length+xs.length≤ZD:=by have:=Nat.mul_le_mul_left (es.length+xs.length) (Nat.le_max_right te.bytes 1);omega
 have hb1:(es.length+xs.length)*te.bytes≤ZD:=Nat.le_trans (Nat.mul_le_mul_left _ (Nat.le_max_left _ _)) hfit;have hown:∀b,L0.blk=some b→¬S b∧b < w.heap.size:=fun b hb=>⟨(h.own id _ L0 b hlk (by simp) hL0 hb).2.2.2 hfz,(h.own id _ L0 b hlk (by simp) hL0 hb).1⟩
 have wrg:∀id' o',(id',o')∈[(id,Obj.arr te.size es true)]→st.fz id'=false∧∃o',st.objs id'=some o'∧o'≠ .gone:=by simp_all
 have key:∀(v:Value) (w':World) (N:Nat→Prop),(∀b,N b→b < w'.heap.size∧w.heap.size≤b)→w.heap.size≤w'.heap.size→ZQ w w'→(∀b,b < w.heap.size→L0.blk≠some b→w'.heap[b]? =w.heap[b]?)→
   (Builtin.append_ #[t,u] o.type #[.slice ad es.length sCap,vx]).run C.E.prog w= .ok v w'→
   (∀S',(∀b,S b→S' b)→Zp w' S' ρ L0 (.arr te.size es true))→
   (∀S',(∀b,N b→S' b)→(∀b,S b→S' b)→(∀b,L0.blk=some b→S' b)→RelP w' S' v (.sl te.size (es++xs)))→
   ∃v w',(execOp a.eval o).run C.E.prog w= .ok (.value v) w'∧
    ∃ρ' S',Rep C (fun j=>X j∨j=i) ρ' S' (st.app i o.dst {val:= .p (.sl te.size (es++xs)),wr:=[(id,.arr te.size es true)],frz:=[id]}) (a.put o.dst v).tmps w':=by
  intro v w' N hN hsize hq hkp hrun hobj hval;obtain⟨S',hrep⟩:=h.stepN (i:=i) (t:=o.dst) (e:={val:= .p (.sl te.size (es++xs)),wr:=[(id,.arr te.size es true)],frz:=[id]}) (v:=v) (w':=w') ρ N
   (fun b hb=>⟨(hN b hb).1,.inl (hN b hb).2⟩) (fun _ _ _ _ hm'=>by simp_all) hi ht hsize hq
   (fun b hb hne=>hkp b hb (hne id _ L0 (ZnF.2 rfl) hL0)) wrg (fun _ _ h=>h) (fun id h=> .inl h)
   (fun id' hm'=>by simp_all)
   (fun _ _ hm'=>by simp_all) (fun _ _ _ _ _ _ _ hm'=>by simp_all)
   (fun id' o' L hm' _ hL S' hNS hS hF=>by grind)
   (fun S' hNS hS hF _ _=> .p _ _ (hval S' hNS hS fun b hb=>hF id (ZnF.2 rfl) _ L0 b hlk (by simp) hL0 hb)) (fun _ _ _ _ _=>Zfp.none (by simp))
  refine⟨v,w', ?_,ρ,S',hrep⟩;rw[hxb,ha];exact Zgk hrun
 by_cases hroom:es.length+xs.length≤sCap
 ·
  have hnf:=n4 xs.length (ZnJ _) w rfl;rw[List.take_of_length_le (by omega)]at hnf;rcases hb0 with h0 |⟨b,hLb,rfl,hcap⟩
  ·have he0:es.length=0:=by omega
   have hx0:xs.length=0:=by omega
   have hes:es=[]:=ZnZ he0;have hxs:xs=[]:=ZnZ hx0;refine key (.slice ad 0 sCap) w (fun _=>False) (fun _ hb=>hb.elim) (ZnJ _) (ZQ.refl _) (fun _ _ _=>rfl) ?_ (fun S' hS=> ?_) (fun S' _ hS _=> ?_)
   ·have:=Zbw (w:=w) (ty:=o.type) (ad:=ad) (sCap:=sCap) hE rfl hut hte huu hdsn (by rw[←hx0];omega) (by simpa using n4 0 (by simp) w rfl);grind
   ·exact⟨hsz,hlen,hlc,hlm',hbn,hcells,evs,hev,hcell,fun j e he=>(hrel j e he).mono (fun _ _ _=>rfl) hS⟩
   ·subst hes hxs;exact .sl _ 0 _ _ [] evs rfl (by simp) (by simp) (fun i hi=>by omega) (fun i hi=>by omega) (fun i e he=>by grind)
  ·have hcs:∀m,m < news.length→(w.cell? ⟨b,L0.base+es.length*te.size+m,none⟩).isSome=true∧w.frozen? ⟨b,L0.base+es.length*te.size+m,none⟩=false:=fun m hm'=>by have hle2:(es.length+xs.length)*te.size≤L0.cap*te.size:=Nat.mul_le_mul_right _ (by omega);rw[Nat.add_mul,←n1]at hle2;obtain⟨⟨v,q⟩,q2⟩:=hcells b hLb (es.length*te.size+m) (by omega);grind
   have hrun:=Zcr (w:=w) (ty:=o.type) hE rfl hut hte huu hdsn (b:=b) (o:=L0.base+0*L0.sz) (sLen:=es.length) (sCap:=sCap) n3 hnf hroom (fun m hm'=>by grind) (fun m hm'=>by grind) n5;rw[show L0.base+0*L0.sz+es.length*te.size=L0.base+es.length*te.size by omega]at hrun;have hcell':=fun m=>Z7 (w:=w) (b:=b) (o:=L0.base+es.length*te.size) (vs:=news) (fun m hm'=>(hcs m hm').1) m
   have kS:ZbM S w (w.setCells b (L0.base+es.length*te.size) news):=fun b' hb' _=>Zo b _ _ _ b' (fun e=>(hown b hLb).1 (e▸hb'))
   have hold':∀(j k:Nat) v,j < L0.len→(evs j).cells[k]? =some v→(w.setCells b (L0.base+es.length*te.size) news).cell? ⟨b,L0.base+j*te.size+k,none⟩=some v:=fun j k v hj hv=>by
    have hk:k < te.size:=by grind
    have:(j+1)*te.size≤es.length*te.size:=Nat.mul_le_mul_right _ (by omega);rw[Nat.add_mul,Nat.one_mul]at this;rw[hcell',if_neg (by omega)];grind
   refine key _ _ (fun _=>False) (fun _ hb=>hb.elim) (by grind[ZV]) (ZQ.setCells _ _ _ _) (fun b' _ hne=>Zo b _ _ _ b' (fun e=>hne (e▸hLb))) hrun (fun S' hS=> ?_) (fun S' _ hS hF=> ?_)
   ·refine⟨hsz,hlen,hlc,hlm',hbn,fun b1 hb1 m hm'=> ?_,evs,hev,fun b1 hb1 j k v hj hv=> ?_,fun j e he=>(hrel j e he).mono kS hS⟩
    ·rw[hLb,ZnO]at hb1;subst hb1;obtain⟨⟨v,q⟩,q2⟩:=hcells b hLb m hm';refine⟨?_,by rw[World.frozen?_setCells];exact q2⟩;rw[hcell'];split
     ·exact⟨_,Zn2 (by omega)⟩
     grind
    grind
   ·refine .sl _ _ _ _ _ (Zg8 es.length evs evs') (by simp) (by unfold ZD at hb2;unfold Z9;omega) hroom (fun j hj=> ?_) (fun j hj=>⟨b,_,rfl,hF b hLb,fun k v hv=> ?_⟩) (fun j e he=> ?_)
    ·unfold Zg8;split
     ·exact hev j (by omega)
     ·exact(n6 (j - es.length) (by omega)).1
    ·unfold Zg8 at hv;rw[show L0.base+0*L0.sz+j*te.size+k=L0.base+j*te.size+k by omega];split at hv
     ·exact hold' j k v (by omega) hv
     ·rename_i hlt;have:=(n6 (j - es.length) (by omega)).2 k v hv;have hl':(j - es.length)*te.size+k < news.length:=(ZnA.1 this).1;have hjs:j*te.size=es.length*te.size+(j - es.length)*te.size:=by rw[←Nat.add_mul];congr 1;omega
      rw[hcell',if_pos (by omega),show L0.base+j*te.size+k - (L0.base+es.length*te.size)=(j - es.length)*te.size+k by omega];exact this
    ·unfold Zg8
     by_cases hlt:j < es.length
     ·rw[List.getElem?_append_left hlt]at he;rw[if_pos hlt];exact(hrel j e he).mono kS hS
     ·rw[Zn1 (by omega)]at he;rw[if_neg hlt];exact(n7 _ e he).mono kS hS
 ·
  obtain⟨rest,hrest,hrun⟩:=Zb0 (w:=w) (ty:=o.type) hE rfl hut hte huu hdsn (m:=xs.length) n3 (news:=news) (fun w' hw'=>by
   have:=n4 xs.length (ZnJ _) w' hw'
   rwa [List.take_of_length_le (by omega)]at this) (ad:=ad) (sLen:=es.length) (sCap:=sCap) (olds:=olds) (fun w' hw'=>by
   have:=o4 es.length (by omega) w' hw'
   rwa [List.take_of_length_le (by rw[o1];exact ZnJ _)]at this) (by omega) (by unfold ZD at hb2;unfold Zr;omega) hb1
  have hcap:=grownCap_ge w (es.length+xs.length) sCap el;generalize grownCap w (es.length+xs.length) sCap el=cap at hrun hrest hcap;generalize hww:w.drew.alloc (.cells (olds.toArray++news.toArray++rest) el)=w' at hrun;have hw:w'.heap=w.heap.push (.cells (olds.toArray++news.toArray++rest) el):=by rw[←hww];rfl
  have kp:∀b,b < w.heap.size→w'.heap[b]? =w.heap[b]? :=fun b hb=>Zaq hw hb
  have hsz':w'.heap.size=w.heap.size+1:=by rw[hw];simp
  have hc:∀j,w'.cell? ⟨w.heap.size,j,none⟩=(olds.toArray++news.toArray++rest)[j]? :=fun j=>by simp[World.cell?,Z3 hw]
  have kS:ZbM S w w':=fun b hb _=>kp b (h.sIn b hb)
  have hqu:ZQ w w':=by rw[←hww];exact⟨rfl,rfl⟩
  refine key _ w' (fun b=>b=w.heap.size) (fun b hb=>by omega) (by omega) hqu (fun b hb _=>kp b hb) hrun (fun S' hS=> ?_) (fun S' hN hS hF=> ?_)
  ·have hro:Zp w S ρ L0 (.arr te.size es true):=⟨hsz,hlen,hlc,hlm',hbn,hcells,evs,hev,hcell,hrel⟩;exact hro.mono kS hS (fun _ _ h=>h) (fun b hb=>kp b (hown b hb).2)
  ·refine .sl _ _ _ _ _ (Zg8 es.length evo evs') (by simp) (by unfold ZD at hb2;unfold Z9;omega) hcap (fun j hj=> ?_) (fun j hj=>⟨w.heap.size,0,rfl,hN _ rfl,fun k v hv=> ?_⟩) (fun j e he=> ?_)
   ·unfold Zg8;split
    ·exact(o6 j (by omega)).1
    ·exact(n6 (j - es.length) (by omega)).1
   ·rw[hc,Zok];unfold Zg8 at hv;split at hv
    ·rename_i hlt;have:=(o6 j (by omega)).2 k v hv;have hl':j*te.size+k < olds.length:=(ZnA.1 this).1;rw[ZnQ,if_pos (by simp;omega),ZnQ,if_pos (by simpa using hl')];simpa using this
    ·rename_i hlt;have:=(n6 (j - es.length) (by omega)).2 k v hv;have hl':(j - es.length)*te.size+k < news.length:=(ZnA.1 this).1;have hjs:j*te.size=es.length*te.size+(j - es.length)*te.size:=by rw[←Nat.add_mul];congr 1;omega
     rw[ZnQ,if_pos (by simp;omega),ZnQ,if_neg (by simp;omega)];simp only[List.size_toArray,List.getElem?_toArray];rw[show j*te.size+k - olds.length=(j - es.length)*te.size+k by omega];exact this
   ·unfold Zg8
    by_cases hlt:j < es.length
    ·rw[List.getElem?_append_left hlt]at he;rw[if_pos hlt];exact(o7 j e he).mono kS hS
    ·rw[Zn1 (by omega)]at he;rw[if_neg hlt];exact(n7 _ e he).mono kS hS
end
section
variable {U:Zd}
noncomputable def anyN {β:Type} (n:Nat) (f:Nat→Option β):Option β:=
 @dite _ (∃r,∀c,n≤c→c≤Zr→f c=some r) (Classical.propDecidable _) (fun h=>some h.choose) fun _=>none
theorem ZkT {β:Type} {n:Nat} {f:Nat→Option β} {r:β} (h:anyN n f=some r) {c:Nat} (h1:n≤c) (h2:c≤Zr):f c=some r:=by unfold anyN at h;split at h;all_goals grind
theorem anyN_eq {β:Type} {n:Nat} {f:Nat→Option β} {r:β} (hn:n≤Zr) (h:∀c,n≤c→c≤Zr→f c=some r):anyN n f=some r:=by unfold anyN;have hx:∃r,∀c,n≤c→c≤Zr→f c=some r:=⟨r,h⟩;grind
def ZlB (X:ZG U) (T:TS U) (o:Oper):Option Nat:=
 match o.op with
 | .call c=>match c.callee,c.args.toList,c.argTypes.toList with
  | .builtin .cap,[x],[t]=>match X.get t,evT X T.slots t x with
   |some e,some d=>match e.ti.d with
    | .sl _=>match d with
     | .full id _=>match T.objs id with
      |some (.arr _ xs _)=>some (Zoq xs)
      |_=>none
     | .sl _ _ len=>some len
     |_=>none
    |_=>none
   |_,_=>none
  |_,_,_=>none
 |_=>none
structure KpI (U:Zd) where
 id:Id
 t:Ty
 xs:List (El U.car t)
 ys:List (El U.car t)
 by_:Nat
def Zlq (keep:List Nat) (X:ZG U) (T:TS U) (o:Oper):Option (KpI U):=
 match o.dst with
 |some k=>if keep.contains k then match o.op with
  | .call c=>match c.callee,c.args.toList,c.argTypes.toList with
   | .builtin .append,[s,x],[t,u]=>match X.elem t,X.get u,evT X T.slots t s,evT X T.slots u x with
    |some e,some eu,some (.full id _),some dx=>if U.tsize e.ty=e.ti.size∧Zk3 eu.ti.d=true then match Zna T dx e.ty,T.objs id with
     |some ys,some (.arr t' xs false)=>match (Lf.mk (.sl t') xs:Lf U.car).as (.sl e.ty)with
      |some xs=>if T.fz id=false then some ⟨id,e.ty,xs,ys,e.ti.bytes⟩else none
      |none=>none
     |_,_=>none
     else none
    |_,_,_,_=>none
   |_,_,_=>none
  |_=>none
  else none
 |none=>none
variable {C:Ctx} {Xs:Nat→Prop} {ρ:Id→Option Lay} {S:Nat→Prop} {a:Act} {w:World} {i:Nat} {o:Oper} {X:ZG U} {T:TS U}
theorem Zjm (hX:TOk X) (hT:T.Inv) (hCE:C.E=X.E) (h:Rep C Xs ρ S T.enc a.tmps w) (hi:¬Xs i) (hE:Zl C.E) (hok:ZfB X.E o=true) {n:Nat} (hc:ZlB X T o=some n):
  (∀c,o.op≠ .defer c)∧∃c:Nat,n≤c∧c≤Zr∧∃v,(execOp a.eval o).run C.E.prog w= .ok (.value v) w∧∃ρ' S',Rep C (fun j=>Xs j∨j=i) ρ' S' (T.enc.app i o.dst {val:= .p (.int .i64 c)}) (a.put o.dst v).tmps w:=by
 have ht:∀d,o.dst=some d→d < C.E.nt:=by rw[hCE];simp only[ZfB,Znu]at hok;exact Zbi hok.1
 unfold ZlB at hc;split at hc;rotate_left;simp at hc;rename_i c hop;refine⟨fun c' hc'=>(by simp_all), ?_⟩;obtain⟨cal,args,ats⟩:=c;dsimp only at hc;split at hc;rotate_left;simp at hc;rename_i x t hargs hats;split at hc;rotate_left;simp at hc;rename_i e d he hd;have hlit:ZE x=true:=by grind[ZfB,Op.operands,Call.operands,Array.all_eq_true']
 split at hc;rotate_left;simp at hc;rename_i el hel;have htd:C.E.td t=some (.sl el):=by grind[Zt]
 split at hc
 ·split at hc;rotate_left;simp at hc;rename_i hobj;cases hc;exact Ziw h hi ht hE hop hargs hats hlit htd (by rw[hCE,Zb hX hd,←Zbg hT hd hobj];rfl)
 ·cases hc;exact Ziw h hi ht hE hop hargs hats hlit htd (by rw[hCE,Zb hX hd];rfl)
 simp_all
theorem Zi5 (hX:TOk X) (hT:T.Inv) (hCE:C.E=X.E) (h:Rep C Xs ρ S T.enc a.tmps w) (hi:¬Xs i) (hE:Zl C.E) (hok:ZfB X.E o=true) {keep:List Nat} {q:KpI U} (hc:Zlq keep X T o=some q) (hroom:ZjC (q.xs.length+q.ys.length) q.by_=true):
  (∀c,o.op≠ .defer c)∧ZL T i {val:= .v (.sl q.t) (q.xs++q.ys),wr:=[(q.id,.arr q.t q.xs true)],frz:=[q.id]}∧∃v w',(execOp a.eval o).run C.E.prog w= .ok (.value v) w'∧
   ∃ρ' S',Rep C (fun j=>Xs j∨j=i) ρ' S' (T.enc.app i o.dst (Zk.enc {val:= .v (.sl q.t) (q.xs++q.ys),wr:=[(q.id,.arr q.t q.xs true)],frz:=[q.id]} [])) (a.put o.dst v).tmps w':=by
 have ht:∀d,o.dst=some d→d < C.E.nt:=by rw[hCE];simp only[ZfB,Znu]at hok;exact Zbi hok.1
 unfold Zlq at hc;split at hc;rotate_left;simp at hc;split at hc;rotate_left;simp at hc;split at hc;rotate_left;simp at hc;rename_i c hop;refine⟨fun c' hc'=>(by simp_all), ?_⟩;obtain⟨cal,args,ats⟩:=c;dsimp only at hc;split at hc;rotate_left;simp at hc;rename_i s x t u hargs hats;have hlit:∀y∈args.toList,ZE y=true:=by grind[ZfB,Op.operands,Call.operands,Array.all_eq_true']
 split at hc;rotate_left;simp at hc;rename_i e eu id n dx he heu hd hdx;split at hc;rotate_left;simp at hc;rename_i hc0;split at hc;rotate_left;simp at hc;rename_i ys t' xs0 hys hobj;split at hc;rotate_left;simp at hc;rename_i xs hxs;split at hc;rotate_left;simp at hc;rename_i hfz;cases hc;have hq:=ZM hxs;cases hq;have hl:n=Zoq xs:=Zbg hT hd hobj;have hsrc:=Zdx hT hX hdx hys;rw[hc0.1]at hsrc;have hel:C.E.elem t=some e.ti:=by grind[Zax]
 have htu:C.E.td u=some eu.ti.d:=by grind[Zt]
 have htd:(∃e,eu.ti.d= .sl e)∨eu.ti.d= .str:=by have h2:=hc0.2;revert h2;cases eu.ti.d<;>simp[Zk3]
 refine⟨Zcj rfl (fun n2 he2=> ?_) (fun _=>by trivial), ?_⟩
 ·cases he2;exact⟨_,hobj,rfl⟩
 ·have:=ZkC (es:=xs.map (U.encE e.ty)) (xs:=ys.map (U.encE e.ty)) h hi ht hE hop hargs hats hlit hel htu htd (id:=id) (by rw[hCE,Zb hX hd,Zor,←hl];rfl) (by grind[Zb])
   (by grind[Zc,ZI]) hfz (by grind[ZjC])
  grind[Zk.enc,TV.enc,Zd.encE,ZI]
end
end Eng
namespace Eng
open Go
section
variable {U:Zd}
def resT (X:ZG U) (T:TS U):ResultVar→Option (TV U)
 | .tmp t=>some (T.slots t)
 | .cell ad t=>match X.get t with
  |some e=>match T.slots ad with
   | .pp cs=>ZcY e (cs.map lv)
   | .ptr id 0 j=>match T.objs id with
    |some (.box cs)=>ZcY e (cs.drop j)
    |_=>none
   |_=>none
  |none=>none
structure RET (U:Zd) where
 rv:TRV U
 fs:List Id:=[]
 id:Option Id:=none
def Zgb:List (TV U)→Option (List (Lf U.car)×Id×Nat×List (Lf U.car))
 | .v t x::r=>match Zgb r with
  |some (a,b)=>some (⟨t,x⟩::a,b)
  |none=>none
 | .full id n::r=>match Zj (fun d=>match d with |TV.v t x=>some (⟨t,x⟩:Lf U.car) |_=>none) r with
  |some q=>some ([],id,n,q)
  |none=>none
 |_=>none
theorem allLv:∀{r:List (TV U)} {q:List (Lf U.car)},Zj (fun d=>match d with |TV.v t x=>some (⟨t,x⟩:Lf U.car) |_=>none) r=some q→r=q.map lv
 | [],q,h=>by grind[Zj]
 |d::r,q,h=>by simp only[Zj]at h;split at h;rotate_left;simp at h;rename_i y ys h1 h2;cases h;split at h1;rotate_left;simp at h1;cases h1;rw[allLv h2];rfl
theorem ZjN:∀{cs:List (TV U)} {pre post:List (Lf U.car)} {id:Id} {n:Nat},Zgb cs=some (pre,id,n,post)→cs=pre.map lv++ .full id n::post.map lv:=by
 intro cs
 induction cs with
 |nil=>grind[Zgb]
 |cons d r ih=>
  intro pre post id n h;unfold Zgb at h;split at h
  ·rename_i t x r' he;simp only[Zox]at he;obtain⟨rfl,rfl⟩:=he;split at h;rotate_left;simp at h;rename_i a b hb;simp only[ZnO,ZnP]at h;obtain⟨rfl,rfl⟩:=h;rw[ih hb];rfl
  all_goals grind[allLv]
theorem ZdK (id:Id) (n:Nat) (post:List P):∀pre:List P,Zde (pre.map .p++ .sl id 0 n::post.map .p)=some (pre,id,n,post)
 | []=>by
  have h:∀l:List P,Zj D.pure? (l.map .p)=some l:=by
   intro l
   induction l with
   |nil=>rfl
   |cons x l ih=>rw[Zn6,Zj,ih];rfl
  grind[Zde]
 |x::pre=>by have:=ZdK id n post pre;grind[Zde]
def Zmt (T:TS U) (m:RM) (h:Option Nat) (d:TV U):Option (RET U):=
 match m,d with
 | .p,d=>match T.lf h d with
  |some l=>some {rv:= .p l,fs:=d.enc.ids T.enc.objs depth}
  |none=>none
 | .own,.full id _=>match T.objs id with
  |some (.arr t xs false)=>some {rv:= .own t xs,id:=some id}
  |_=>none
 | .box,.ptr id 0 0=>match T.objs id with
  |some (.box ds)=>match Zj T.lf1 ds with
   |some ls=>some {rv:= .box ls,fs:=(TV.encs ds).flatMap fun d=>d.ids T.enc.objs depth,id:=some id}
   |none=>none
  |_=>none
 | .map,.map id=>match T.objs id with
  |some (.map k v kv)=>some {rv:= .map k v kv,id:=some id}
  |_=>none
 | .view,.sl (0,k,0) off len=>some {rv:= .view k off len}
 | .view,.full (0,k,0) n=>some {rv:= .view k 0 n}
 | .aown,.agg cs=>match Zgb cs with
  |some (pre,id,_,post)=>match T.objs id with
   |some (.arr t xs false)=>some {rv:= .aown pre t xs post none,id:=some id}
   |some (.own t c u xs lo none)=>some {rv:= .aown pre t xs post (some (c,u,lo)),id:=some id}
   |_=>none
  |none=>none
 |_,_=>none
def RET.re (x:RET U) (cs:List Bool):RE:={rv:=x.rv.enc,fs:=x.fs,id:=x.id,cond:=cs}
theorem resT_d (hU:UOk U) {X:ZG U} (hX:TOk X) {T:TS U} (hT:T.Inv) {rv:ResultVar} {d:TV U} (h:resT X T rv=some d):ZlU X.E T.enc rv=some d.enc∧d.inv T.objs:=by
 unfold resT at h;split at h
 ·cases h;exact⟨rfl,hT.slots _⟩
 ·rename_i ad t;split at h;rotate_left;simp at h;rename_i e he;split at h
  ·rename_i cs hs;obtain⟨p,h1,h2⟩:=ZaP hU hX he h;refine⟨?_,Zav (fun c hc=> ?_) h⟩
   ·simp only[ZlU,Zs he,show T.enc.slots ad=(T.slots ad).enc from rfl,hs,TV.enc,h1,h2]
   ·obtain⟨l,_,rfl⟩:=Zod.1 hc;exact Zah _ _
  ·rename_i id j hs;split at h;rotate_left;simp at h;rename_i cs ho;have:=Zcv hU hX he h;rw[ZbE]at this;exact⟨by simp only[ZlU,Zs he,show T.enc.slots ad=(T.slots ad).enc from rfl,hs,TV.enc,Zc ho,ZaB,this],Zav (fun c hc=>hT.objs id _ ho c (List.mem_of_mem_drop hc)) h⟩
  simp_all
theorem Zlc (hU:UOk U) {T:TS U} (hT:T.Inv) {m:RM} {h:Option Nat} {d:TV U} {x:RET U} (hi:d.inv T.objs) (hr:Zmt T m h d=some x):∃cs,ZiS T.enc m d.enc=some (x.re cs)∧∀q∈cs,q=true:=by
 unfold Zmt at hr;split at hr
 ·split at hr;rotate_left;simp at hr;rename_i l hl;cases hr;exact⟨[],by grind[ZiS,depth,RET.re,TRV.enc,Zd2],by simp⟩
 ·rename_i id n;split at hr;rotate_left;simp at hr;rename_i t xs ho;cases hr;obtain⟨o,h1,h2⟩:=hi (id,n) (by simp[TV.fulls]);dsimp only at h1;have hl:=h2 _ (by rw[ho,ZnO]at h1;rw[←h1];rfl);refine⟨[decide (n=(xs.map (U.encE t)).length)], ?_,by grind⟩;grind[ZiS,TV.enc,ZI,RET.re,TRV.enc,Zc]
 ·rename_i id;split at hr;rotate_left;simp at hr;rename_i ds ho;split at hr;rotate_left;simp at hr;rename_i ls hls;cases hr;refine⟨[], ?_,by simp⟩;simp only[ZiS,TV.enc,Zc ho,ZaB,ZbR (hT.objs id _ ho) hls,RET.re,TRV.enc]
 ·rename_i id;split at hr;rotate_left;simp at hr;rename_i k v kv ho;cases hr;simp_all[ZiS,TV.enc,Z5,RET.re,TRV.enc,Zc]
 ·cases hr;exact⟨[],rfl,by simp⟩
 ·cases hr;exact⟨[],rfl,by simp⟩
 ·split at hr;rotate_left;simp at hr;rename_i pre id n post hsp;obtain rfl:=ZjN hsp;split at hr
  ·rename_i t xs ho;cases hr;obtain⟨o,h1,h2⟩:=hi (id,n) (by rw[TV.fulls];exact Zq.2 ⟨.full id n,by simp,by simp[TV.fulls]⟩);dsimp only at h1;have hl:=h2 _ (by rw[ho,ZnO]at h1;rw[←h1];rfl);refine⟨[decide (n=(xs.map (U.encE t)).length)], ?_,by grind⟩;grind[ZfT,ZiS,ZdK,ZI,RET.re,TRV.enc,Zc]
  ·rename_i t c u xs lo ho;cases hr;obtain⟨o,h1,h2⟩:=hi (id,n) (by rw[TV.fulls];exact Zq.2 ⟨.full id n,by simp,by simp[TV.fulls]⟩);dsimp only at h1;have hl:=h2 _ (by rw[ho,ZnO]at h1;rw[←h1];rfl);refine⟨[decide (n=(xs.map (U.encE t)).length)], ?_,by grind⟩;rw[ZfT];simp only[ZiS,ZdK,Zc ho,TO.enc,RET.re,TRV.enc,Zow]
  simp_all
 simp_all
def Zdg (T:TS U):List RM→List (Option Nat)→List (TV U)→Option (List (RET U))
 | [],_,[]=>some []
 |m::ms,h::hs,d::ds=>match Zmt T m h d,Zdg T ms hs ds with
  |some a,some r=>some (a::r)
  |_,_=>none
 |_,_,_=>none
theorem Zgm (hU:UOk U) {T:TS U} (hT:T.Inv):∀{ms:List RM} {hs:List (Option Nat)} {ds:List (TV U)} {as:List (RET U)},(∀d∈ds,d.inv T.objs)→Zdg T ms hs ds=some as→
  ∃res:List RE,Zj (fun x:RM×D=>ZiS T.enc x.1 x.2) (ms.zip (TV.encs ds))=some res∧ds.length=ms.length∧res.map (·.rv)=as.map (fun a=>a.rv.enc)∧res.flatMap (·.fs)=as.flatMap (·.fs)∧(∀q∈res.flatMap (·.cond),q=true)∧res.map (·.id)=as.map (·.id)
 | [],hs,[],as,_,h=>by simp only[Zdg,ZnO]at h;subst h;exact⟨[],rfl,rfl,rfl,rfl,by simp,rfl⟩
 | [],hs,d::ds,as,_,h=>by grind[Zdg]
 |m::ms,[],ds,as,_,h=>by grind[Zdg]
 |m::ms,hh::hs,[],as,_,h=>by grind[Zdg]
 |m::ms,hh::hs,d::ds,as,hi,h=>by simp only[Zdg]at h;split at h;rotate_left;simp at h;rename_i a r h1 h2;cases h;obtain⟨cs,q1,q2⟩:=Zlc hU hT (hi d (by simp)) h1;obtain⟨aes,p1,p2,p3,p4,p5,p6⟩:=Zgm hU hT (fun a ha=>hi a (by grind)) h2;refine⟨a.re cs::aes,by grind[TV.encs,ZoD,Zj],by grind,by grind[RET.re],by grind[RET.re], ?_,by grind[RET.re]⟩;intro q hq;simp only[List.flatMap_cons,Zn7]at hq;exact hq.elim (fun h=>q2 q h) (fun h=>p5 q h)
def Zlh (T:TS U) (k:Nat):Option ((Nat×ZP U)×List Id):=
 match T.objs (0,k,0)with
 |some (.box ds)=>match Zj T.lf1 ds with
  |some ls=>some ((k,.box ls),(TV.encs ds).flatMap fun d=>d.ids T.enc.objs depth)
  |none=>none
 |some (.arr t xs false)=>some ((k,.arr t xs),[])
 |some (.map a b kv)=>some ((k,.map a b kv),[])
 |_=>none
theorem Zmu {T:TS U} (hT:T.Inv) {k:Nat} {x:(Nat×ZP U)×List Id} (h:Zlh T k=some x):Zne T.enc k=some ((x.1.1,x.1.2.enc),x.2):=by
 unfold Zlh at h;unfold Zne;split at h
 ·rename_i ds ho;split at h;rotate_left;simp at h;rename_i ls hls;cases h;simp only[Zc ho,ZaB,Zag,ZbR (hT.objs _ _ ho) hls,ZP.enc]
 all_goals grind[ZI,Zag,ZP.enc,Zc,Z5]
theorem Zic {T:TS U} (hT:T.Inv):∀{ks:List Nat} {os:List ((Nat×ZP U)×List Id)},Zj (Zlh T) ks=some os→Zj (Zne T.enc) ks=some (os.map fun x=>((x.1.1,x.1.2.enc),x.2))
 | [],os,h=>by grind[Zj]
 |k::ks,os,h=>by simp only[Zj]at h;split at h;rotate_left;simp at h;rename_i y ys h1 h2;cases h;simp only[Zj,Zmu hT h1,Zic hT h2,Zn6]
def ZiO:Nat→List (RET U)→List (Id×Id)
 |_,[]=>[]
 |j,x::r=>match x.id with
  |some id=>((1,j,0),id)::ZiO (j+1) r
  |none=>ZiO (j+1) r
theorem ZfA:∀(j:Nat) (l:List (RET U)) (l':List RE),l'.map (·.id)=l.map (·.id)→ZiP j l'=ZiO j l
 |j,[],[],_=>rfl
 |j,[],_::_,h=>by grind
 |j,_::_,[],h=>by grind
 |j,x::l,y::l',h=>by
  simp only[Zn6,Zox]at h;simp only[ZiP,ZiO,h.1];cases x.id with
  |none=>exact ZfA (j+1) l l' h.2
  |some id=>simp only[ZfA (j+1) l l' h.2]
def retT (X:ZG U) (T:TS U) (rs:List ResultVar) (ms:List RM) (hs:List (Option Nat)) (outs:List Nat):Option (ZbL U):=
 match Zj (resT X T) rs with
 |some ds=>match Zdg T ms hs ds,Zj (Zlh T) outs with
  |some res,some os=>
   if Zgp (T.freezeL (res.flatMap (·.fs)++os.flatMap (·.2))).enc (ZiO 0 res++outs.map fun k=>((0,k,0),(0,k,0))) 2&&(res.map fun x=>x.rv.enc).all (Zf6 outs)then
    some ⟨res.map (·.rv),os.map (·.1)⟩else none
  |_,_=>none
 |none=>none
theorem ZjZ (hU:UOk U) {X:ZG U} (hX:TOk X) {T:TS U} (hT:T.Inv):∀{rs:List ResultVar} {ds:List (TV U)},Zj (resT X T) rs=some ds→Zj (ZlU X.E T.enc) rs=some (TV.encs ds)∧∀d∈ds,d.inv T.objs
 | [],ds,h=>by simp[Zj]at h;subst h;exact⟨rfl,by simp⟩
 |k::ks,ds,h=>by
  simp only[Zj]at h;split at h;rotate_left;simp at h;rename_i y ys h1 h2;cases h;obtain⟨q1,q2⟩:=resT_d hU hX hT h1;obtain⟨q3,q4⟩:=ZjZ hU hX hT h2;grind[Zj,TV.encs]
theorem ZlT (hU:UOk U) {X:ZG U} (hX:TOk X) {T:TS U} (hT:T.Inv) {rs:List ResultVar} {ms:List RM} {hs:List (Option Nat)} {outs:List Nat} {t:ZbL U} (h:retT X T rs ms hs outs=some t):
  ∃ps,Znb X.E T.enc rs ms outs=some (t.enc,ps)∧∀q∈ps,q=true:=by
 unfold retT at h;split at h;rotate_left;simp at h;rename_i ds hds;obtain⟨q1,q2⟩:=ZjZ hU hX hT hds;split at h;rotate_left;simp at h;rename_i res os hres hos;obtain⟨aes,p1,p2,p3,p4,p5,p6⟩:=Zgm hU hT q2 hres;have o1:=Zic hT hos;split at h;rotate_left;simp at h;rename_i hok;cases h;refine⟨_, ?_,p5⟩;unfold Znb;rw[q1];simp only[Zap,p2,if_true,p1,o1];have e1:ZiP 0 aes=ZiO 0 res:=ZfA 0 res aes p6;have e2:(os.map fun x=>((x.1.1,x.1.2.enc),x.2)).flatMap (·.2)=os.flatMap (·.2):=by rw[List.flatMap_map]
 have e3:aes.all (fun x=>Zf6 outs x.rv)=(res.map fun x=>x.rv.enc).all (Zf6 outs):=by grind
 simp_all[Eng.freezeL_enc,ZbL.enc]
theorem Zf1:∀{l:List Bool},(∀q∈l,q=true)→Zmc l
 | [],_=>trivial
 | [a],h=>h a (by simp)
 |a::b::r,h=>⟨h a (by simp),Zf1 fun q hq=>h q (by grind)⟩
structure Cut (U:Zd) (R:Type) where
 live:List Nat
 frz:List Nat
 κ:List (TV U)→List (TO U)→Option R
structure Par (U:Zd) (R:Type) where
 X:ZG U
 sigs:List (Nat×ZjE U)
 cuts:List (List Nat×Cut U R)
 back:Option (Cut U R)
 exits:List (Nat×Cut U R)
 lent:List Nat
 rs:List ResultVar
 rms:List RM
 rhs:List (Option Nat)
 ret:ZbL U→Option R
 keep:List Nat:=[]
 alt:List (Nat×Nat):=[]
inductive TI' where
 |c (p:List Nat) (c:Code)
 |ops (a:Array Oper) (i:Nat)
 |blk (id:Nat)
def TI'.conc:TI'→Item
 | .c _ x=> .c x
 | .ops a i=> .ops a i
 | .blk id=> .blk id
def ZcA (id:Nat):List TI'→Option (List TI')
 | .blk j::k=>if j=id then some k else ZcA id k
 |_::k=>ZcA id k
 | []=>none
noncomputable def agree {α:Type} (a b:Option α):Option α:= @ite _ (a=b) (Classical.propDecidable _) a none
variable {R:Type}
def Zg0:Nat→List (AET U)→List (Id×Id)
 |_,[]=>[]
 |k,x::r=>match x.id with
  |some id=>((0,k,0),id)::Zg0 (k+1) r
  |none=>Zg0 (k+1) r
def Zm4 (d:Nat):List (Nat×Nat)→Option Nat
 | []=>none
 |x::l=>if x.1=d then some x.2 else Zm4 d l
def Zmq (P:Par U R) (dst:Option Nat) (g:Nat):Option (Nat×ZjE U):=
 match (match dst with |some d=>Zm4 d P.alt |none=>none)with
 |some k=>match P.sigs[k]? with
  |some x=>if x.1 == g then some x else none
  |none=>none
 |none=>P.sigs.find? fun x=>x.1 == g
theorem ZjW {P:Par U R} {dst:Option Nat} {g:Nat} {sg:Nat×ZjE U} (h:Zmq P dst g=some sg):sg∈P.sigs∧sg.1=g:=by
 unfold Zmq at h;grind
def ck {R:Type} (c:Option Bool) (k:Option R):Option R:=match c with
 |none=>k
 |some b=>chk b k
theorem ZmX {R:Type} {c:Option Bool} {k:Option R} {r:R} (h:ck c k=some r):c≠some false∧k=some r:=by
 cases c with
 |none=>exact⟨by simp,h⟩
 |some b=>
  obtain⟨hb,h⟩:=Zi h;simp_all
def fnOf (P:Par U R) (dst:Option Nat):Option (TV U)→Option (Option Bool×Nat×List (TV U)×List (TV U))
 |some (.fn g a b)=>some (none,g,a,b)
 |some (.v .fnc x)=>match (match dst with |some d=>Zm4 d P.alt |none=>none)with
  |some k=>match P.sigs[k]? with
   |some s=>some (some (decide (x=some s.1)),s.1,[],[])
   |none=>none
  |none=>none
 |_=>none
def callT (P:Par U R) (T:TS U) (i:Nat) (dst:Option Nat) (c:Call) (κ:Zk U→Option R):Option R:=
 match c.callee with
 | .value f=>match fnOf P dst (evT P.X T.slots 0 f)with
  |some (b,g,first,caps)=>ck b (match Zmq P dst g with
   |some sg=>match Zdt P.X T.slots c.args.toList sg.2.pts with
    |some ds=>match Zjw T sg.2.ms sg.2.hs (first++ds++caps)with
     |some as=>if Zgp (T.freezeL (as.flatMap (·.fs))).enc (Zg0 0 as) 1&&c.args.toList.all ZE&&ZE f&&ZlV (as.map (·.id)) (as.map (·.ref)) (as.map (·.arg.rk))then match sg.2.sig (as.map (·.arg))with
      |some s=>s.o.bind fun a=>match ZgU T i as (s.give a)with
       |some e=>κ e
       |none=>none
      |none=>none
      else none
     |none=>none
    |none=>none
   |none=>none)
  |none=>none
 |_=>none
def Zch (o:Oper):Bool:=match o.op with
 | .call c=>match c.callee with
  | .value _=>true
  |_=>false
 |_=>false
def Zk2 (P:Par U R) (T:TS U) (i:Nat) (o:Oper) (κ:Zk U→Option R):Option R:=
 if Zch o then match o.op with
  | .call c=>callT P T i o.dst c κ
  |_=>none
 else ZmW P.X T i o.op o.type κ
def okE (P:Par U R) (T:TS U) (i:Nat) (o:Oper) (e:Zk U):Bool:=
 fresh T i e&&(if Zch o then Zdq P.X.E o else Zdu T.enc (e.enc [])&&ZfB P.X.E o)
def fpT (P:Par U R) (T:TS U) (o:Oper) (e:Zk U):Fp:=
 ⟨if Zch o then Za0 P.X.E T.enc.slots T.enc.objs o.op.operands.toList else Zea P.X.E o.op T.enc.slots T.enc.objs,e.wr.map (·.1),e.frz⟩
def Zio (ops:Array Oper) (T:TS U) (o:Oper) (κ:Bool→TS U→Option R):Option R:=
 match o.guard with
 |none=>κ true T
 |some (g,w)=>match (ops[g]?).bind (·.dst)with
  |some t=>match T.slots t with
   | .v .bool b=>bif b then κ w (T.setO (some t) (.v .bool true))else κ (!w) (T.setO (some t) (.v .bool false))
   | .undef=>κ false T
   |_=>none
  |none=>κ false T
def ZmE (X:ZG U) (T:TS U) (o:Oper):Option (Bool×Bool):=
 match o.op with
 | .binOp b t x (.const (.slice none 0 0)) _=>match X.get t,evT X T.slots 0 x with
  |some e,some d=>match e.ti.d with
   | .sl _=>match (match b with | .eql=>some true | .neq=>some false |_=>none)with
    |some q=>match d with
     | .v (.sl _) xs=>some (List.isEmpty xs,q)
     | .full id _=>match T.objs id with
      |some (.arr _ xs _)=>some (List.isEmpty xs,q)
      |_=>none
     |_=>none
    |none=>none
   |_=>none
  |_,_=>none
 |_=>none
noncomputable def ZdN {α β:Type} (xs:List α) (f:α→List α→Option β):Option β:=
 @dite _ (∃r,∀(j:Nat) q,xs[j]? =some q→f q (xs.eraseIdx j)=some r) (Classical.propDecidable _) (fun h=>some h.choose) fun _=>none
theorem Zgo {α β:Type} {xs:List α} {f:α→List α→Option β} {r:β} (h:ZdN xs f=some r) {j:Nat} {q:α} (hq:xs[j]? =some q):f q (xs.eraseIdx j)=some r:=by unfold ZdN at h;split at h;all_goals grind
theorem Znd {α β:Type} {xs:List α} {f:α→List α→Option β} {r:β} (hne:xs≠[]) (h:∀(j:Nat) q,xs[j]? =some q→f q (xs.eraseIdx j)=some r):ZdN xs f=some r:=by
 unfold ZdN;have hx:∃r,∀(j:Nat) q,xs[j]? =some q→f q (xs.eraseIdx j)=some r:=⟨r,h⟩;rw[dif_pos hx]
 match xs,hne with
 |x::l,_=>
  have h1:=hx.choose_spec 0 x rfl;grind
structure MitI (U:Zd) where
 id:Id
 a:Ty
 b:Ty
 rest:List (El U.car a×El U.car b)
def nextM (X:ZG U) (T:TS U) (o:Oper):Option (MitI U):=
 match o.op with
 | .next it false=>match evT X T.slots 0 it with
  |some (.it id)=>match T.objs id with
   |some (.mit a b rest _)=>if T.fz id=false then some ⟨id,a,b,rest⟩else none
   |_=>none
  |_=>none
 |_=>none
def Zkp (P:Par U R) (c:Cut U R) (T:TS U):Option R:=
 match ZkG T P.lent c.live c.frz with
 |some q=>c.κ q.1 q.2
 |none=>none
def Zfy (T:TS U) (id:Id):TS U:=match T.objs id with
 |some (.own t _ _ xs _ none)=>if T.fz id=false then {T with objs:=upd T.objs id (some (.arr t xs false))}else T
 |_=>T
def ZdM (T:TS U):List Id→TS U
 | []=>T
 |id::r=>ZdM (Zfy T id) r
def isOwnT:Option (TO U)→Bool
 |some (.own _ _ _ _ _ none)=>true
 |_=>false
def Zib (T:TS U) (ds:List (TV U)):List Id:=(TV.ownL T ds).filter fun id=>isOwnT (T.objs id)
def Zcq (X:ZG U) (T:TS U) (id:Id):TS U:=match T.objs id with
 |some (.arr (.st n) xs false)=>match X.owns.find? (·.n == n)with
  |some q=>{T with objs:=upd T.objs id (some (.own (.st n) q.c q.u xs 0 none))}
  |none=>T
 |_=>T
def Zfx (T:TS U):List Operand→List (TV U)
 | []=>[]
 | .tmp s::r=>T.slots s::Zfx T r
 |_::r=>Zfx T r
def preT (keep:List Nat) (X:ZG U) (T:TS U) (o:Oper):Option (TS U):=match o.dst with
 |some d=>if keep.contains (1000000+d)then match Zib T (Zfx T o.op.operands.toList)with
   | []=>none
   |l=>some (ZdM T l)
  else if keep.contains (2000000+d)then match Zfx T o.op.operands.toList with
   | .full id _::_=>match T.objs id with
    |some (.arr _ _ _)=>some (Zcq X T id)
    |_=>none
   |_=>none
  else none
 |none=>none
def ZiR (X:ZG U) (T:TS U):List ResultVar→List RM→List (TV U)
 |rv::r,.p::m=>match resT X T rv with
  |some d=>d::ZiR X T r m
  |none=>ZiR X T r m
 |_::r,_::m=>ZiR X T r m
 |_,_=>[]
def Zlu (P:Par U R) (T:TS U):Option R:=
 match retT P.X (ZdM T (Zib T (ZiR P.X T P.rs P.rms))) P.rs P.rms P.rhs P.lent with
 |some t=>P.ret t
 |none=>none
noncomputable def evl (P:Par U R):Nat→Option (Array Oper×List Fp)→List TI'→TS U→Option R
 |0,_,_,_=>none
 |n+1,some (ops,hist),pre,T=>match ops[hist.length]? with
  |none=>if ZgP ops T.ep hist&&decide (hist.length=ops.size)then evl P n none pre T.next else none
  |some o=>Zio ops T o fun g T=>match g with
   |true=>Zk2 P T hist.length o fun e=>if okE P T hist.length o e&&live ops o T.enc (fpT P T o e)then evl P n (some (ops,hist++[fpT P T o e])) pre (T.app hist.length o.dst e)else none
   |false=>if Zdq P.X.E o&&live ops o T.enc {}then evl P n (some (ops,hist++[{}])) pre (T.app hist.length o.dst {val:= .undef})else none
 |n+1,none,[],T=>match P.back with
  |some c=>Zkp P c T
  |none=>Zlu P T
 |n+1,none,.blk _::pre,T=>evl P n none pre T
 |n+1,none,.ops ops i::pre,T=>match ops[i]? with
  |none=>evl P n none pre T.next
  |some o=>match preT P.keep P.X T o with
  |some T'=>evl P n none (.ops ops i::pre) T'
  |none=>Zio ops T o fun g T=>match g with
   |true=>match ZmE P.X T o with
    |some (em,q)=>if Zdq P.X.E o&&ZfB P.X.E o then bif em then agree (evl P n none (.ops ops (i+1)::pre) (T.app i o.dst {val:= .v .bool true})) (evl P n none (.ops ops (i+1)::pre) (T.app i o.dst {val:= .v .bool false}))
      else evl P n none (.ops ops (i+1)::pre) (T.app i o.dst {val:= .v .bool (!q)})
     else none
    |none=>match nextM P.X T o with
     |some m=>if ZfB P.X.E o then bif List.isEmpty m.rest then evl P n none (.ops ops (i+1)::pre) (T.app i o.dst {val:= .tup [.v .bool false]})
       else ZdN m.rest fun q rest=>evl P n none (.ops ops (i+1)::pre) (T.app i o.dst {val:= .tup [.v .bool true,.v m.a q.1,.v m.b q.2],wr:=[(m.id,.mit m.a m.b rest (some q))]})
      else none
     |none=>match ZlB P.X T o with
      |some m=>if ZfB P.X.E o then anyN m fun c=>evl P n none (.ops ops (i+1)::pre) (T.app i o.dst {val:= .v (.int .i64) (c:Int)})else none
      |none=>match Zlq P.keep P.X T o with
       |some q=>if ZfB P.X.E o then chk (ZjC (Zoq q.xs+Zoq q.ys) q.by_) (evl P n none (.ops ops (i+1)::pre) (T.app i o.dst {val:= .v (.sl q.t) (List.append q.xs q.ys),wr:=[(q.id,.arr q.t q.xs true)],frz:=[q.id]}))else none
       |none=>Zk2 P T i o fun e=>if okE P T i o e then evl P n none (.ops ops (i+1)::pre) (T.app i o.dst e)else none
   |false=>if Zdq P.X.E o then evl P n none (.ops ops (i+1)::pre) (T.app i o.dst {val:= .undef})else none
 |n+1,none,.c p c::pre,T=>match P.cuts.find? fun x=>x.1 == p with
  |some x=>Zkp P x.2 T
  |none=>match c with
   | .skip=>evl P n none pre T
   | .seq a b=>evl P n none (.c (0::p) a:: .c (1::p) b::pre) T
   | .block id b=>evl P n none (.c (4::p) b:: .blk id::pre) T
   | .region _ ops false=>evl P n none (.ops ops 0::pre) T
   | .region _ ops true=>evl P n (some (ops,[])) pre T
   | .cond c a b=>if ZE c then match evT P.X T.slots 0 c with
    |some (.v .bool x)=>bif x then evl P n none (.c (2::p) a::pre) T else evl P n none (.c (3::p) b::pre) T
    |_=>none
    else none
   | .exit id=>match ZcA id pre with
    |some pre'=>evl P n none pre' T
    |none=>match P.exits.find? fun x=>x.1 == id with
     |some x=>Zkp P x.2 T
     |none=>none
   | .ret=>Zlu P T
   |_=>none
end
end Eng
namespace Eng
open Go
section
variable {U:Zd} {R:Type}
def atP (root:Code×List Item):List Nat→Option (Code×List Item)
 | []=>some root
 |d::p=>match atP root p with
  |some (c,k)=>match d,c with
   |0,.seq a b=>some (a,.c b::k)
   |1,.seq _ b=>some (b,k)
   |2,.cond _ a _=>some (a,k)
   |3,.cond _ _ b=>some (b,k)
   |4,.block id b=>some (b,.blk id::k)
   |5,.loop b=>some (b,.lp b::k)
   |_,_=>none
  |none=>none
def Wf (root:Code×List Item) (base:List Item):List TI'→Prop
 | []=>True
 | .c p c::k=>atP root p=some (c,k.map TI'.conc++base)∧Wf root base k
 | .blk _::k=>Wf root base k
 | .ops _ _::k=>Wf root base k
def Zez (E:Env) (g:Nat) (sg:ZjE U):Prop:=
 ∀args s,sg.sig args=some s→∀a,s.o=some a→Fun E g (args.map ZP.enc) (s.give a).enc∧ZeA args (s.give a)
def Hcut (P:Par U R) (C:Ctx) (fm:Fm) (fn:Func) (RT:Ret) (r:R) (cut:Cut U R) (k:List Item):Prop:=
 ∀ds os,(mkC P.lent cut.live ds os).Inv→cut.κ ds os=some r→AWP C fm (ZiQ C fn RT) k (mkC P.lent cut.live ds os).enc
structure Hyp (P:Par U R) (C:Ctx) (fm:Fm) (fn:Func) (RT:Ret) (r:R) (root:Code×List Item) (base:List Item):Prop where
 hU:UOk U
 hX:TOk P.X
 hE:Zl C.E
 hCE:C.E=P.X.E
 mixed:C.E.prog.follows .mixedOrders=true
 rs:fn.results.toList=P.rs
 ds:fm.ds=[]
 sigs:∀x∈P.sigs,Zez P.X.E x.1 x.2
 cuts:∀x∈P.cuts,∀c k,atP root x.1=some (c,k)→Hcut P C fm fn RT r x.2 (.c c::k)
 back:∀c,P.back=some c→Hcut P C fm fn RT r c base
 noback:P.back=none→base=[]
 exits:∀x∈P.exits,∃k,Zaw x.1 base=some k∧Hcut P C fm fn RT r x.2 k
 ret:∀t,P.ret t=some r→t.enc=RT
section
variable {P:Par U R} {C:Ctx} {fm:Fm} {fn:Func} {RT:Ret} {r:R} {root:Code×List Item} {base:List Item} {G:Zg6}
theorem Zkl {T:TS U} (hT:T.Inv) {id:Id} {o o':TO U} (ho:T.objs id=some o) (hl:∀n,o'.len?=some n→o.len?=some n) (hi:∀lk,o'.inv lk):({T with objs:=upd T.objs id (some o')}:TS U).Inv:=by
 have keep:∀q,Zgz T.objs q→Zgz (upd T.objs id (some o')) q:=fun q ⟨o1,h1,h2⟩=>by
  by_cases he:q.1=id
  ·refine⟨o',by grind[upd],fun n hn=>h2 n ?_⟩;simp_all
  ·exact⟨o1,by grind[upd],h2⟩
 refine⟨fun k q hq=>keep q (hT.slots k q hq),fun id1 o1 h1=> ?_⟩;simp only[upd]at h1;split at h1
 ·simp_all
 ·have:=hT.objs id1 o1 h1;cases o1 with
  |box cs=>exact fun d hd q hq=>keep q (this d hd q hq)
  |_=>trivial
theorem Zkv (T:TS U) (id:Id) (o:TO U):({T with objs:=upd T.objs id (some o)}:TS U).enc=T.enc.obj id o.enc:=by refine ZeQ rfl ?_ rfl rfl;funext x;simp only[TS.enc,St.obj,upd];split<;>rfl
theorem Zhh (T:TS U) (id:Id) (hT:T.Inv):(Zfy T id).Inv∧∀(C:Ctx) (fm:Fm) (G:Zg6) (k:List Item),AWP C fm G k (Zfy T id).enc→AWP C fm G k T.enc:=by
 unfold Zfy;split
 ·rename_i t c u xs lo ho;split
  ·rename_i hf;refine⟨Zkl hT ho (fun n h=>h) (fun _=>trivial),fun C fm G k h=> ?_⟩;rw[Zkv]at h;exact Zju (by rw[Zc ho,Zfb]) hf h
  simp_all
 simp_all
theorem Zbb:∀(l:List Id) (T:TS U),T.Inv→(ZdM T l).Inv∧∀(C:Ctx) (fm:Fm) (G:Zg6) (k:List Item),AWP C fm G k (ZdM T l).enc→AWP C fm G k T.enc
 | [],T,hT=>⟨hT,fun _ _ _ _ h=>h⟩
 |id::r,T,hT=>by obtain⟨h1,h2⟩:=Zhh T id hT;obtain⟨h3,h4⟩:=Zbb r _ h1;exact⟨h3,fun C fm G k h=>h2 C fm G k (h4 C fm G k h)⟩
theorem Zft (hU:UOk U) {X:ZG U} (hX:TOk X) (T:TS U) (id:Id) (hT:T.Inv):(Zcq X T id).Inv∧∀(C:Ctx) (fm:Fm) (G:Zg6) (k:List Item),AWP C fm G k (Zcq X T id).enc→AWP C fm G k T.enc:=by
 unfold Zcq;split
 ·rename_i n xs ho;split
  ·rename_i q hq;have hn:q.n=n:=by grind
   subst hn;obtain⟨h1,h2⟩:=hX.own q (ZoC hq);refine⟨Zkl hT ho (fun n h=>h) (fun _=>trivial),fun C fm G k h=> ?_⟩;rw[Zkv]at h;refine ZgY (by rw[Zc ho,ZI];rfl) (fun e he=> ?_) h1 h;obtain⟨x,_,rfl⟩:=Zod.1 he;obtain⟨l,hl⟩:=h2 x;exact⟨_,_,by rw[Zd.encE,hU.enc_cells],by rw[ZnB,hl];rfl⟩
  simp_all
 simp_all
theorem Zlg (hU:UOk U) {X:ZG U} (hX:TOk X) {keep:List Nat} {T T':TS U} {o:Oper} (hT:T.Inv) (h:preT keep X T o=some T'):T'.Inv∧∀(C:Ctx) (fm:Fm) (G:Zg6) (k:List Item),AWP C fm G k T'.enc→AWP C fm G k T.enc:=by
 grind[preT,Zbb,Zft]
theorem ZiB {ops:Array Oper} {i:Nat} {k:List Item} {st st':St} (hi:i < ops.size) (h:Exec C fm ops i st st') (h1:AWP C fm G (.ops ops (i+1)::k) st'):AWP C fm G (.ops ops i::k) st:=by intro ρ S a w hrep hd b k0 cs hb;have hrep:Rep C (fun j=>j < i) ρ S st a.tmps w:=hrep;obtain⟨ρ',S',a',w',hr',hd',hs⟩:=h (fun j=>j < i) (by simp) ρ S a w hrep hd b (List.range' (i+1) (ops.size - (i+1))) (k.map conc++k0) cs hb;obtain⟨e2,a2',w2,hg2,harr⟩:=h1 ρ' S' a' w' (hr'.weakX (fun j hj=>by grind[Xof])) hd' b k0 cs hb;refine⟨e2,a2',w2,hg2,.of_steps ?_ harr⟩;grind[conc,Zbc]
theorem ZlG {k:List Item} {st:St} {t:Nat} (h:∀b,AWP C fm G k (st.set t (.p (.bool b)))):AWP C fm G k (st.set t .anyb):=by
 intro ρ S a w hr hd;have hs:=hr.slots t;have e1:(st.set t .anyb).slots t= .anyb:=by simp[St.set,upd]
 rw[e1]at hs;generalize hv:a.tmps.getD t undef=v at hs;cases hs with
 |anyb b=>
  refine h b ρ S a w ?_ hd;have hsl:∀k',RelD w S ρ (a.tmps.getD k' undef) ((st.set t (.p (.bool b))).slots k'):=fun k'=>by
   have:=hr.slots k';simp only[St.set,upd]at this⊢
   split
   ·rename_i he;subst he;rw[hv];exact .p _ _ (.bool b)
   simp_all
  exact⟨hr.nt,hr.grow,hr.frame,hr.s0,hr.sIn,hsl,hr.objs,hr.own,hr.inj,hr.known,hr.young,hr.fzk,hr.glob,hr.sOut,hr.ep1,hr.quiet,hr.lay,hr.fam⟩
theorem ZhP (g:Nat) (a b:List D):Zck (fnD g a b)=some (g,a,b):=by
 grind[fnD,Zck,Zx]
theorem Zev:∀(j:Nat) (l:List (AET U)) (l':List AE),l'.map (·.id)=l.map (·.id)→Zaa j l'=Zg0 j l
 |j,[],[],_=>rfl
 |j,[],_::_,h=>by grind
 |j,_::_,[],h=>by grind
 |j,x::l,y::l',h=>by
  simp only[Zn6,Zox]at h;simp only[Zaa,Zg0,h.1];cases x.id with
  |none=>exact Zev (j+1) l l' h.2
  |some id=>simp only[Zev (j+1) l l' h.2]
theorem ZhE (a b:List (TV U)):TV.encs (a++b)=TV.encs a++TV.encs b:=by grind[Zai]
theorem Zlv (hX:TOk P.X) {T:TS U} (hT:T.Inv) {dst:Option Nat} {f:Operand} {g:Nat} {a b:List (TV U)} {c:Option Bool} (hc:c≠some false) (h:fnOf P dst (evT P.X T.slots 0 f)=some (c,g,a,b)):
  ev P.X.E T.enc.slots 0 f=fnD g (TV.encs a) (TV.encs b)∧(TV.fn g a b).inv T.objs:=by
 unfold fnOf at h;split at h
 ·rename_i g' a' b' hf;simp only[ZnO,ZnP]at h;obtain⟨-,rfl,rfl,rfl⟩:=h;exact⟨by simp_all[Zb,TV.enc],ZA hT hf⟩
 ·rename_i x hf;split at h;rotate_left;simp at h;rename_i k hk;split at h;rotate_left;simp at h;rename_i s hs;simp only[ZnO,ZnP]at h;obtain⟨rfl,rfl,rfl,rfl⟩:=h;have hx:x=some s.1:=by simp_all
  subst hx;exact⟨by rw[Zb hX hf];rfl,Ze rfl⟩
 simp_all
theorem Zh2 (H:Hyp P C fm fn RT r root base) {T:TS U} (hT:T.Inv) {ops:Array Oper} {i:Nat} {o:Oper} {κ:Zk U→Option R} (hg:ZX ops T.enc o.guard=some true) (h:Zk2 P T i o κ=some r):
  ∃e,ZL T i e∧κ e=some r∧(okE P T i o e=true→∃cs,OE C ops i o T.enc (e.enc cs) (fpT P T o e).R):=by
 unfold Zk2 at h;split at h
 ·rename_i hc;unfold Zch at hc;split at hc;rotate_left;simp at hc;rename_i c hop;split at hc;rotate_left;simp at hc;rename_i f hcal;rw[hop]at h;simp only[callT,hcal]at h;split at h;rotate_left;simp at h;rename_i b g first caps hf
  obtain⟨hb,h⟩:=ZmX h;obtain⟨hfe,hfi⟩:=Zlv H.hX hT hb hf;split at h;rotate_left;simp at h;rename_i sg hsg;obtain⟨hmem,hid⟩:=ZjW hsg;split at h;rotate_left;simp at h;rename_i ds hds;split at h;rotate_left;simp at h;rename_i as has;split at h;rotate_left;simp at h;rename_i hok;simp only[Znu]at hok;split at h;rotate_left;simp at h;rename_i s hs;obtain⟨a,ha,h⟩:=bind_some h;split at h;rotate_left;simp at h;rename_i e he;obtain⟨hfun,hol⟩:=H.sigs sg hmem _ s hs a ha;have hin:∀d∈first++ds++caps,d.inv T.objs:=by
   intro d hd;simp only[Zn7]at hd;rcases hd with (hd |hd) |hd
   ·exact fun q hq=>hfi q (by grind[TV.fulls,Zq])
   ·grind[Zeq]
   ·exact fun q hq=>hfi q (by grind[TV.fulls,Zq])
  obtain⟨ae0,aeh,p1,ph,p2,p3,p4,p5,p6,p7⟩:=ZlH H.hU hT hin has;refine⟨e,Zjq has hol he,h,fun hk=>⟨[], ?_⟩⟩;have hcall:Zch o=true:=by grind[Zch]
  simp only[okE,hcall,if_true,Znu]at hk;have hpre:ZlX C.E T.enc c sg.2.pts sg.2.ms=some (g,ae0++aeh):=by
   have pr:(ae0++aeh).map (·.arg.rk)=as.map (·.arg.rk):=by rw[show (fun x:AE=>x.arg.rk)=Arg.rk∘(fun x:AE=>x.arg)from rfl,←ZoB,p3,ZoB];exact List.map_congr_left fun x _=>rk_enc _
   unfold ZlX;rw[H.hCE];simp only[hcal,hfe,ZhP,ZbW H.hX hds,←ZhE,Zap,p2,if_true,p1,ph,p4,←Eng.freezeL_enc,Zev 0 as _ p6,p6,p7,pr,hok.1.1.1,hok.1.1.2,hok.1.2,hok.2,Bool.and_self]
  have hR:(fpT P T o e).R=Za0 C.E T.enc.slots T.enc.objs c.operands.toList:=by simp only[fpT,hcall,if_true,H.hCE,hop,Op.operands]
  rw[hR];refine .call (pts:=sg.2.pts) (ms:=sg.2.ms) hg hop (by rw[H.hCE];exact hk.2) hpre (Zf1 p5) ?_ (Zjr p6 p4 he);rw[p3,H.hCE,←hid];rw[ZoB]at hfun;exact hfun
 ·rename_i hc;obtain⟨e,cs,h1,h2,h3,h4⟩:=snd H.hU H.hX hT h;refine⟨e,h3,h4,fun hk=>⟨cs, ?_⟩⟩;have hcall:Zch o=false:=by simpa using hc
  simp only[okE,hcall,Znv,if_false,Znu]at hk;have hR:(fpT P T o e).R=Zea C.E o.op T.enc.slots T.enc.objs:=by simp only[fpT,hcall,Znv,if_false,H.hCE]
  rw[hR];exact .op hg (by rw[H.hCE];exact h1) (by rw[H.hCE];exact hk.2.2) hk.2.1 h2
theorem Zh5 {T:TS U} {t:Nat} {d:TV U} (h:T.slots t=d):T.setO (some t) d=T:=by
 have:upd T.slots t d=T.slots:=by
  grind[upd]
 simp_all[TS.setO]
theorem ZgJ {ops:Array Oper} {T:TS U} {o:Oper} {κ:Bool→TS U→Option R} (h:Zio ops T o κ=some r):∃g,ZX ops T.enc o.guard=some g∧κ g T=some r:=by
 unfold Zio at h;unfold ZX;split at h
 ·simp_all
 ·rename_i g w hg;rw[hg];simp only;split at h
  ·rename_i t ht;rw[ht];simp only;rw[show T.enc.slots t=(T.slots t).enc from rfl];split at h
   ·rename_i b hb;rw[hb];cases b
    ·refine⟨!w, ?_,by grind[Zh5]⟩;simp_all[TV.enc,Zd.encE]
    simp_all[Zh5,TV.enc,Zd.encE]
   ·rename_i hb;rw[hb];exact⟨false,rfl,h⟩
   simp_all
  grind
theorem Zae {id:Nat}:∀{pre pre':List TI'},ZcA id pre=some pre'→(∀base,Zaw id (pre.map TI'.conc++base)=some (pre'.map TI'.conc++base))∧(Wf root base pre→Wf root base pre')
 | [],_,h=>by grind[ZcA]
 |x::k,pre',h=>by
  cases x with
  |blk j=>
   simp only[ZcA]at h;split at h
   ·rename_i hj;cases h;exact⟨fun base=>by grind[TI'.conc,Zaw],fun hw=>hw⟩
   ·rename_i hj;obtain⟨q1,q2⟩:=Zae h;exact⟨fun base=>by grind[TI'.conc,Zaw],fun hw=>q2 hw⟩
  |c p c=>
   simp only[ZcA]at h;obtain⟨q1,q2⟩:=Zae h;exact⟨fun base=>by grind[TI'.conc,Zaw],fun hw=>q2 hw.2⟩
  |ops a i=>
   simp only[ZcA]at h;obtain⟨q1,q2⟩:=Zae h;exact⟨fun base=>by grind[TI'.conc,Zaw],fun hw=>q2 hw⟩
theorem ZbU {id:Nat}:∀{pre:List TI'},ZcA id pre=none→∀base,Zaw id (pre.map TI'.conc++base)=Zaw id base
 | [],_,base=>rfl
 |x::k,h,base=>by
  cases x with
  |blk j=>
   simp only[ZcA]at h;split at h
   ·grind
   ·rename_i hj;simp only[Zn6,ZnX,TI'.conc,Zaw,hj,if_false];exact ZbU h base
  |c p c=>simp only[ZcA]at h;simp only[Zn6,ZnX,TI'.conc,Zaw];exact ZbU h base
  |ops a i=>simp only[ZcA]at h;simp only[Zn6,ZnX,TI'.conc,Zaw];exact ZbU h base
theorem Zd9 (H:Hyp P C fm fn RT r root base) {T:TS U} (hT:T.Inv) {cut:Cut U R} {k:List Item} (hc:Hcut P C fm fn RT r cut k) (h:Zkp P cut T=some r):AWP C fm (ZiQ C fn RT) k T.enc:=by unfold Zkp at h;split at h;rotate_left;simp at h;rename_i q hq;obtain⟨h1,h2⟩:=Zjn (C:=C) (r:=fm) (G:=ZiQ C fn RT) (k:=k) H.hU hT hq;exact h2 (hc q.1 q.2 h1 h)
theorem ZiY (hX:TOk P.X) {T:TS U} (hT:T.Inv) {o:Oper} {i em q} (h:ZmE P.X T o=some (em,q)):
  (em=false→Zf P.X.E T.ep i o.op o.type T.enc.slots T.enc.objs=some {val:= .p (.bool !q)})∧(em=true→Zf P.X.E T.ep i o.op o.type T.enc.slots T.enc.objs=some {val:= .anyb}):=by
 unfold ZmE at h;split at h;rotate_left;simp at h;rename_i b t x u hop;rw[hop];split at h;rotate_left;simp at h;rename_i e d he hd;split at h;rotate_left;simp at h;rename_i u' hu;split at h;rotate_left;simp at h;rename_i q' hq';have fin:∀v:D,(Zdi e.ti.d (.const (.slice none 0 0)) (T.enc |> fun _=>d.enc)=some v)→∀em',(v=if em' then .anyb else .p (.bool false))→some (em',q')=some (em,q)→
   (em=false→Zf P.X.E T.ep i (.binOp b t x (.const (.slice none 0 0)) u) o.type T.enc.slots T.enc.objs=some {val:= .p (.bool !q)})∧(em=true→Zf P.X.E T.ep i (.binOp b t x (.const (.slice none 0 0)) u) o.type T.enc.slots T.enc.objs=some {val:= .anyb}):=by
  intro v hv em' hem hh;grind[ZnO,ZnP,Operand.isNil,Znv,Zf,Zt,Zb,reduceCtorEq,D.notb]
 split at h
 ·rename_i t' xs;refine fin _ ?_ _ rfl h;simp only[hu,TV.enc,Zd.encE,Zdi,List.isEmpty_map]
 ·rename_i id n;split at h;rotate_left;simp at h;rename_i t' xs fix ho;have hl:=Zbg hT hd ho;refine fin _ ?_ _ rfl h;simp only[hu,TV.enc,Zdi];rw[hl];cases xs<;>simp
 simp_all
theorem ZhS {ops:Array Oper} {i:Nat} {o:Oper} {k:List Item} {st:St} (ho:ops[i]? =some o) (hg:ZX ops st o.guard=some true) (hnc:∀c,o.op≠ .defer c)
  (h:∀(ρ:Id→Option Lay) (S:Nat→Prop) (a:Act) (w:World),Rep C (fun j=>j < i) ρ S st a.tmps w→a.defers=fm.ds→∃st1 v w',(execOp a.eval o).run C.E.prog w= .ok (.value v) w'∧(∃ρ' S',Rep C (fun j=>j < i∨j=i) ρ' S' st1 (a.put o.dst v).tmps w')∧AWP C fm G (.ops ops (i+1)::k) st1):
  AWP C fm G (.ops ops i::k) st:=by
 have hi:i < ops.size:=(Znq.1 ho).1;intro ρ S a w hrep hd b k0 cs hb;have hrep:Rep C (fun j=>j < i) ρ S st a.tmps w:=hrep;have hwant:=Za3 hrep hg;obtain⟨st1,v,w',hrun,⟨ρ',S',hr'⟩,h1⟩:=h ρ S a w hrep hd;obtain⟨e2,a2',w2,hg2,harr⟩:=h1 ρ' S' (a.put o.dst v) w' (hr'.weakX (fun j hj=>by grind[Xof])) (by simp[hd]) b k0 cs hb;refine⟨e2,a2',w2,hg2,.of_steps ?_ harr⟩;have hsem:o.semAt b.roundOf a.eval=execOp a.eval o:=Oper.semAt_eq _ _ _ hnc;have hst:=stepGR_op (P:=C.E.prog) (b:=b) (a:=a) (k:=k.map conc++k0) (cs:=cs) (w:=w) (i:=i) (rest:=List.range' (i+1) (ops.size - (i+1))) ho hwant;have hfin:=Frame.finish_atR b a ops i (List.range' (i+1) (ops.size - (i+1))) (k.map conc++k0) v;simp only[ho,Option.bind_some]at hfin;refine .one (Zz _ _ _) ?_;simp only[Zn6,ZnX,conc,Zbc hi];refine step_lone_go ?_;simp_all[stepG.apply]
theorem Zkb {α β γ δ:Type} (f:α→γ) (g:β→δ) (l:List (α×β)) (j:Nat):(l.map fun e=>(f e.1,g e.2)).eraseIdx j=(l.eraseIdx j).map fun e=>(f e.1,g e.2):=by
 induction l generalizing j with
 |nil=>simp
 |cons x l ih=>cases j with
  |zero=>simp
  |succ j=>grind
theorem ZmS (H:Hyp P C fm fn RT r root base):∀(n:Nat),
  (∀pre T,Wf root base pre→T.Inv→evl P n none pre T=some r→AWP C fm (ZiQ C fn RT) (pre.map TI'.conc++base) T.enc)∧
  (∀pre T ops hist,Wf root base pre→T.Inv→evl P n (some (ops,hist)) pre T=some r→DW C fm (ZiQ C fn RT) (pre.map TI'.conc++base) ops hist T.enc):=by
 intro n
 induction n with
 |zero=>grind[evl]
 |succ n ih=>
  obtain⟨ih1,ih2⟩:=ih;refine⟨fun pre T hw hT h=> ?_,fun pre T ops hist hw hT h=> ?_⟩
  ·match pre with
   | []=>
    simp only[evl]at h;split at h
    ·rename_i c hc;exact Zd9 H hT (H.back c hc) h
    ·rename_i hb;rw[H.noback hb];unfold Zlu at h;obtain⟨hT,hs⟩:=Zbb (Zib T (ZiR P.X T P.rs P.rms)) T hT;refine hs _ _ _ _ ?_;split at h;rotate_left;simp at h;rename_i t ht;obtain⟨ps,q1,q2⟩:=ZlT H.hU H.hX hT ht;exact Zm2 _ ps P.rms P.lent H.hE (by rw[H.hCE,H.rs];omega) (H.ret t h) (Zf1 q2) H.ds
   | .blk id::pre=>
    simp only[evl]at h;exact Zay (ps':=[]) H.hE 1 _ _ [] rfl (by simp) (ih1 pre T hw hT h)
   | .ops ops i::pre=>
    simp only[evl]at h;split at h
    ·rename_i hn;exact Zay (ps':=[]) H.hE 1 (.ops ops i::_) _ [] (by simp only[run,hn];rfl) (by simp) (ih1 pre T.next hw hT.next h)
    ·rename_i o ho;have hi:i < ops.size:=(Znq.1 ho).1;split at h
     ·rename_i T' hpre;obtain⟨hT',hs⟩:=Zlg H.hU H.hX hT hpre;grind
     obtain⟨g,hg,h⟩:=ZgJ h;cases g with
     |true=>
      simp only at h;split at h
      ·rename_i em q hnil;split at h;rotate_left;simp at h;rename_i hok;simp only[Znu]at hok;obtain⟨c1,c2⟩:=ZiY (i:=i) H.hX hT hnil;have einv:∀b,ZL T i {val:=(.v .bool b:TV U)}:=fun b=>ZL.pure (Zah _ _)
       have fr:∀b,fresh T i {val:=(.v .bool b:TV U)}=true:=fun b=>rfl
       have step:∀(v:D),Zf P.X.E T.ep i o.op o.type T.enc.slots T.enc.objs=some {val:=v}→AWP C fm (ZiQ C fn RT) (.ops ops (i+1)::(pre.map TI'.conc++base)) (T.enc.app i o.dst {val:=v})→AWP C fm (ZiQ C fn RT) (.ops ops i::(pre.map TI'.conc++base)) T.enc:=fun v hcv h1=>
        Zmb (e:={val:=v}) H.hE ho hg (by rw[H.hCE];exact hcv) (by rw[H.hCE];simp_all) rfl (by simp) h1
       have nxt:∀b,evl P n none (.ops ops (i+1)::pre) (T.app i o.dst {val:= .v .bool b})=some r→AWP C fm (ZiQ C fn RT) (.ops ops (i+1)::(pre.map TI'.conc++base)) (T.enc.app i o.dst {val:= .p (.bool b)}):=fun b hb=>by have:=ih1 (.ops ops (i+1)::pre) _ hw (hT.app (fr b) (einv b)) hb;rw[Zbk T i o.dst _ []]at this;exact this
       cases em with
       |false=>exact step _ (c1 rfl) (nxt _ h)
       |true=>
        simp only[cond_true,agree]at h;split at h;rotate_left;simp at h;rename_i hag;have ht:=nxt true h;have hf:=nxt false (by simp_all);refine step _ (c2 rfl) ?_;cases hd:o.dst with
        |none=>rw[hd]at ht;exact ht
        |some t=>
         rw[hd]at ht hf;exact ZlG fun b=>by cases b;(·exact hf);exact ht
      ·split at h
       ·rename_i m hm;split at h;rotate_left;simp at h;rename_i hok;unfold nextM at hm;split at hm;rotate_left;simp at hm;rename_i it hop;split at hm;rotate_left;simp at hm;rename_i id hid;split at hm;rotate_left;simp at hm;rename_i ka kb rest cur hobj;split at hm;rotate_left;simp at hm;rename_i hfz;cases hm;have hlit:ZE it=true:=by grind[ZfB,Op.operands]
        have hdst:∀d,o.dst=some d→d < C.E.nt:=by rw[H.hCE];simp only[ZfB,Znu]at hok;exact Zbi hok.1
        have hevi:ev C.E T.enc.slots 0 it= .it id:=by rw[H.hCE,Zb H.hX hid];rfl
        have hobj':T.enc.objs id=some (.mit (rest.map fun e=>(U.encE ka e.1,U.encE kb e.2)) (cur.map fun e=>(U.encE ka e.1,U.encE kb e.2))):=Zc hobj;refine ZhS ho hg (fun c hc=>by simp_all) fun ρ S a w hrep hd=> ?_
        rcases Zlj hrep (Nat.lt_irrefl i) hdst hlit hop hevi hobj' hfz with ⟨hnil,v,w',hrun,hrep'⟩ |⟨j,q,hq,v,w',hrun,hrep'⟩
        ·have:rest=[]:=by simp_all
         subst this;refine⟨_,v,w',hrun,hrep', ?_⟩;have:=ih1 (.ops ops (i+1)::pre) _ hw (hT.app (dst:=o.dst) rfl (ZL.pure (Ze (by simp[TV.fulls,TV.fullsL])))) h;rw[Zbk T i o.dst _ []]at this;exact this
        ·have hne:List.isEmpty rest=false:=by
          grind
         rw[ZnB]at hq;cases hr:rest[j]? with
         |none=>simp_all
         |some q0=>
          rw[hr]at hq;simp only[Zow,ZnO]at hq;subst hq;simp only[hne,cond_false]at h;have hb:=Zgo h hr;refine⟨_,v,w',hrun,hrep', ?_⟩;have:=ih1 (.ops ops (i+1)::pre) _ hw (hT.app (dst:=o.dst) rfl (Zcj (by simp[TV.fulls,TV.fullsL]) (fun n he=>by cases he) (fun _=>by trivial))) hb;rw[Zbk T i o.dst _ []]at this;simp only[Zk.enc,TV.enc,TV.encs,Zd.encE,Zn6,Zot,ZbF,Zow,←Zkb]at this;exact this
       split at h
       ·rename_i m hm;split at h;rotate_left;simp at h;rename_i hok;refine ZhS ho hg (fun c hc=> ?_) fun ρ S a w hrep hd=> ?_
        ·grind[ZlB]
        obtain⟨_,c,hc1,hc2,v,hrun,hrep'⟩:=Zjm H.hX hT H.hCE hrep (Nat.lt_irrefl i) H.hE hok hm;refine⟨_,v,w,hrun,hrep', ?_⟩;have:=ih1 (.ops ops (i+1)::pre) _ hw (hT.app (dst:=o.dst) rfl (ZL.pure (Zah _ _))) (ZkT h hc1 hc2);rw[Zbk T i o.dst _ []]at this;exact this
       split at h
       ·rename_i q hq;split at h;rotate_left;simp at h;rename_i hok;obtain⟨hroom,h⟩:=Zi h;refine ZhS ho hg (fun c hc=> ?_) fun ρ S a w hrep hd=> ?_
        ·grind[Zlq]
        obtain⟨_,heinv,v,w',hrun,hrep'⟩:=Zi5 H.hX hT H.hCE hrep (Nat.lt_irrefl i) H.hE hok hq hroom;refine⟨_,v,w',hrun,hrep', ?_⟩;have:=ih1 (.ops ops (i+1)::pre) _ hw (hT.app (dst:=o.dst) rfl heinv) h;rw[Zbk T i o.dst _ []]at this;exact this
       obtain⟨e,he1,he2,he3⟩:=Zh2 H hT hg h;split at he2;rotate_left;simp at he2;rename_i hok;obtain⟨cs,hoe⟩:=he3 hok;have hfr:fresh T i e=true:=by grind[okE]
       refine ZiB hi (hoe.exec H.hE ho) ?_;have:=ih1 (.ops ops (i+1)::pre) _ hw (hT.app hfr he1) he2;rw[Zbk T i o.dst e cs]at this;exact this
     |false=>
      simp only at h;split at h;rotate_left;simp at h;rename_i hd;have e0:ZL T i {val:=(.undef:TV U)}:=ZL.pure (Ze rfl);have:=ih1 (.ops ops (i+1)::pre) _ hw (hT.app rfl e0) h;rw[Zbk T i o.dst _ []]at this;exact ZiB hi (ZgM ho hg (by rw[H.hCE];omega)) this
   | .c p c::pre=>
    obtain⟨hat,hw'⟩:=hw;simp only[evl]at h;split at h
    ·rename_i x hx;have hm:=ZoC hx;have hp:x.1=p:=by have:=List.find?_some hx;simpa using this
     exact Zd9 H hT (H.cuts x hm c _ (by rw[hp];exact hat)) h
    ·cases c with
     |skip=>simp only at h;exact Zay (ps':=[]) H.hE 1 _ _ [] rfl (by simp) (ih1 pre T hw' hT h)
     |seq a b=>
      simp only at h;refine Zay (ps':=[]) H.hE 1 (.c (.seq a b)::_) _ [] rfl (by simp) (ih1 (.c (0::p) a:: .c (1::p) b::pre) T ⟨?_, ?_,hw'⟩ hT h)
      ·simp only[atP,hat];rfl
      ·simp only[atP,hat]
     |block id b=>
      simp only at h;refine Zay (ps':=[]) H.hE 1 (.c (.block id b)::_) _ [] rfl (by simp) (ih1 (.c (4::p) b:: .blk id::pre) T ⟨?_,hw'⟩ hT h);simp only[atP,hat];rfl
     |region id ops dr=>
      cases dr with
      |false=>simp only at h;exact Zay (ps':=[]) H.hE 1 (.c (.region id ops false)::_) _ [] rfl (by simp) (ih1 (.ops ops 0::pre) T hw' hT h)
      |true=>simp only at h;exact ZlF H.hE H.mixed (ih2 pre T ops [] hw' hT h)
     |cond x a b=>
      simp only at h;split at h;rotate_left;simp at h;rename_i hl;split at h;rotate_left;simp at h;rename_i v hv;have hev:ev C.E T.enc.slots 0 x= .p (.bool v):=by rw[H.hCE,Zb H.hX hv];rfl
      cases v with
      |true=>
       refine Zay (ps':=[]) H.hE 1 (.c (.cond x a b)::_) _ [] (by simp only[run,hl,if_true,hev];rfl) (by simp) (ih1 (.c (2::p) a::pre) T ⟨?_,hw'⟩ hT h);simp only[atP,hat]
      |false=>
       refine Zay (ps':=[]) H.hE 1 (.c (.cond x a b)::_) _ [] (by simp only[run,hl,if_true,hev];rfl) (by simp) (ih1 (.c (3::p) b::pre) T ⟨?_,hw'⟩ hT h);simp only[atP,hat]
     |exit id=>
      simp only at h;split at h
      ·rename_i pre' hp;obtain⟨q1,q2⟩:=Zae (root:=root) (base:=base) hp;refine Zay (ps':=[]) H.hE 1 (.c (.exit id)::_) _ [] (by have hx:Zaw id ((List.map TI'.conc pre).append base)=some (pre'.map TI'.conc++base):=q1 base;simp only[run,hx]) (by simp) (ih1 pre' T (q2 hw') hT h)
      ·rename_i hp;split at h;rotate_left;simp at h;rename_i x hx;have hm:=ZoC hx;have hpid:x.1=id:=by have:=List.find?_some hx;simpa using this
       obtain⟨k,hk,hc⟩:=H.exits x hm;have:=Zd9 H hT hc h;have hx:Zaw id ((List.map TI'.conc pre).append base)=some k:=by rw[←hk,hpid];exact ZbU hp base
       exact Zay (ps':=[]) H.hE 1 (.c (.exit id)::_) _ [] (by simp only[run,hx]) (by simp) this
     |ret=>
      simp only[Zlu]at h;obtain⟨hT,hs⟩:=Zbb (Zib T (ZiR P.X T P.rs P.rms)) T hT;refine hs _ _ _ _ ?_;split at h;rotate_left;simp at h;rename_i t ht;obtain⟨ps,q1,q2⟩:=ZlT H.hU H.hX hT ht;exact Zm1 _ ps P.rms P.lent H.hE (by rw[H.hCE,H.rs];exact q1) (H.ret t h) (Zf1 q2) H.ds
     |_=>simp at h
  ·simp only[evl]at h;split at h
   ·rename_i hn;split at h;rotate_left;simp at h;rename_i hok;simp only[Znu,decide_eq_true_eq]at hok;exact dw_end hok.2 hok.1 (ih1 pre T.next hw hT.next h)
   ·rename_i o ho;obtain⟨g,hg,h⟩:=ZgJ h;cases g with
    |true=>
     simp only at h;obtain⟨e,he1,he2,he3⟩:=Zh2 H hT hg h;split at he2;rotate_left;simp at he2;rename_i hok;simp only[Znu]at hok;obtain⟨cs,hoe⟩:=he3 hok.1;have hfr:fresh T hist.length e=true:=by have:=hok.1;simp only[okE,Znu]at this;exact this.1
     have:=ih2 pre _ ops _ hw (hT.app hfr he1) he2;rw[Zbk T hist.length o.dst e cs]at this;refine dw_op ho ⟨hoe, ?_,rfl,hok.2⟩ this;simp[fpT,Zk.enc,ZoB,Function.comp_def]
    |false=>
     simp only at h;split at h;rotate_left;simp at h;rename_i hd;simp only[Znu]at hd;have e0:ZL T hist.length {val:=(.undef:TV U)}:=ZL.pure (Ze rfl);have:=ih2 pre _ ops _ hw (hT.app rfl e0) h;rw[Zbk T hist.length o.dst _ []]at this;exact dw_op ho ⟨.skip hg (by rw[H.hCE];exact hd.1),rfl,rfl,hd.2⟩ this
end
end
end Eng
namespace Eng
open Go
inductive Sh1 where
 |v (t:Ty) |pp (t:Ty) |full (id:Id) |sl (id:Id) |ptr (id:Id) (i j:Nat) |ptrI (id:Id) (j:Nat)
 |map (id:Id) |it (id:Id) |nilp |nilfn |undef |nils (t:Ty) |clip (t:Ty) |rp (t:Ty) (id:Id)
inductive Sh where
 |o (s:Sh1) |agg (l:List Sh1) |fn (f:Nat) (a b:List Sh1)
inductive ShO where
 |box (l:List Sh) |boxS (t:Ty) |arr (t:Ty) (fix:Bool) |map (k v:Ty) |sit |mit (k v:Ty) |own (t:Ty) (c:Nat) (u:Ty)
abbrev Znm (U:Zd):Sh1→Type
 | .v t=>El U.car t
 | .pp t=>El U.car t
 | .full _=>Nat
 | .sl _=>Nat×Nat
 | .ptrI _ _=>Nat
 | .clip t=>List (El U.car t)
 | .rp t _=>El U.car t
 |_=>Unit
abbrev Zg4 (U:Zd):List Sh1→Type
 | []=>Unit
 |s::r=>Znm U s×Zg4 U r
abbrev Val (U:Zd):Sh→Type
 | .o s=>Znm U s
 | .agg l=>Zg4 U l
 | .fn _ a b=>Zg4 U a×Zg4 U b
abbrev Zcn (U:Zd):List Sh→Type
 | []=>Unit
 |s::r=>Val U s×Zcn U r
abbrev ValO (U:Zd):ShO→Type
 | .box l=>Zcn U l
 | .boxS t=>El U.car t
 | .arr t _=>List (El U.car t)
 | .map k v=>List (El U.car k×El U.car v)
 | .sit=>List UInt8×Nat
 | .mit k v=>List (El U.car k×El U.car v)×Option (El U.car k×El U.car v)
 | .own t _ _=>List (El U.car t)×Nat
abbrev Zal (U:Zd):List ShO→Type
 | []=>Unit
 |s::r=>ValO U s×Zal U r
section
variable {U:Zd}
def bld1:(s:Sh1)→Znm U s→TV U
 | .v t,x=> .v t x
 | .pp t,x=> .pp (U.cellsE t x)
 | .full id,n=> .full id n
 | .sl id,p=> .sl id p.1 p.2
 | .ptr id i j,_=> .ptr id i j
 | .ptrI id j,i=> .ptr id i j
 | .map id,_=> .map id
 | .it id,_=> .it id
 | .nilp,_=> .nilp
 | .nilfn,_=> .nilfn
 | .undef,_=> .undef
 | .nils t,_=> .nils t
 | .clip t,xs=> .clip t xs
 | .rp t id,x=> .rp (some ⟨t,x⟩) id
def Zjs:(l:List Sh1)→Zg4 U l→List (TV U)
 | [],_=>[]
 |s::r,v=>bld1 s v.1::Zjs r v.2
def bld:(s:Sh)→Val U s→TV U
 | .o s,x=>bld1 s x
 | .agg l,x=> .agg (Zjs l x)
 | .fn f a b,x=> .fn f (Zjs a x.1) (Zjs b x.2)
def Znj:(l:List Sh)→Zcn U l→List (TV U)
 | [],_=>[]
 |s::r,v=>bld s v.1::Znj r v.2
def bldO:(s:ShO)→ValO U s→TO U
 | .box l,x=> .box (Znj l x)
 | .boxS t,x=> .box ((U.cellsE t x).map lv)
 | .arr t fix,xs=> .arr t xs fix
 | .map k v,kv=> .map k v kv
 | .sit,p=> .sit p.1 p.2
 | .mit k v,p=> .mit k v p.1 p.2
 | .own t c u,p=> .own t c u p.1 p.2 none
def ZkK:(l:List ShO)→Zal U l→List (TO U)
 | [],_=>[]
 |s::r,v=>bldO s v.1::ZkK r v.2
def mat1:(s:Sh1)→TV U→Option (Znm U s)
 | .v t,.v t' x=>if h:t'=t then some (h▸x)else none
 | .pp t,.pp cs=>U.ofE t cs
 | .full id,.full id' n=>if id'=id then some n else none
 | .sl id,.sl id' o l=>if id'=id then some (o,l)else none
 | .ptr id i j,.ptr id' i' j'=>if id'=id∧i'=i∧j'=j then some ()else none
 | .ptrI id j,.ptr id' i j'=>if id'=id∧j'=j then some i else none
 | .map id,.map id'=>if id'=id then some ()else none
 | .it id,.it id'=>if id'=id then some ()else none
 | .nilp,.nilp=>some ()
 | .nilfn,.nilfn=>some ()
 | .undef,.undef=>some ()
 | .nils t,.nils t'=>if t'=t then some ()else none
 | .clip t,.clip t' xs=>if h:t'=t then some (h▸xs)else none
 | .rp t id,.rp (some l) id'=>if id'=id then l.as t else none
 |_,_=>none
def Zgy:(l:List Sh1)→List (TV U)→Option (Zg4 U l)
 | [],[]=>some ()
 |s::r,d::ds=>match mat1 s d,Zgy r ds with
  |some x,some y=>some (x,y)
  |_,_=>none
 |_,_=>none
def mat:(s:Sh)→TV U→Option (Val U s)
 | .o s,d=>mat1 s d
 | .agg l,.agg cs=>Zgy l cs
 | .fn f a b,.fn f' x y=>if f'=f then match Zgy a x,Zgy b y with
  |some p,some q=>some (p,q)
  |_,_=>none
  else none
 |_,_=>none
def ZmG:(l:List Sh)→List (TV U)→Option (Zcn U l)
 | [],[]=>some ()
 |s::r,d::ds=>match mat s d,ZmG r ds with
  |some x,some y=>some (x,y)
  |_,_=>none
 |_,_=>none
def matO:(s:ShO)→TO U→Option (ValO U s)
 | .box l,.box cs=>ZmG l cs
 | .boxS t,.box cs=>match Zj TV.leaf? cs with
  |some ls=>U.ofE t ls
  |none=>none
 | .arr t fix,.arr t' xs fix'=>if h:t'=t then if fix'=fix then some (h▸xs)else none else none
 | .map k v,.map k' v' kv=>if h:k'=k then if h':v'=v then some (h▸h'▸kv)else none else none
 | .sit,.sit s p=>some (s,p)
 | .mit k v,.mit k' v' r c=>if h:k'=k then if h':v'=v then some (h▸h'▸(r,c))else none else none
 | .own t c u,.own t' c' u' xs lo none=>if h:t'=t then if c'=c∧u'=u then some (h▸xs,lo)else none else none
 |_,_=>none
def Zi1:(l:List ShO)→List (TO U)→Option (Zal U l)
 | [],[]=>some ()
 |s::r,d::ds=>match matO s d,Zi1 r ds with
  |some x,some y=>some (x,y)
  |_,_=>none
 |_,_=>none
theorem Zig (hU:UOk U) {s:Sh1} {d:TV U} {x:Znm U s} (h:mat1 s d=some x):d=bld1 s x:=by
 unfold mat1 at h;split at h
 ·split at h;rotate_left;simp at h;rename_i he;subst he;cases h;rfl
 ·grind[ZaO,bld1]
 ·split at h;rotate_left;simp at h;rename_i he;subst he;cases h;rfl
 ·split at h;rotate_left;simp at h;rename_i he;subst he;cases h;rfl
 ·split at h;rotate_left;simp at h;rename_i he;obtain⟨rfl,rfl,rfl⟩:=he;rfl
 ·split at h;rotate_left;simp at h;rename_i he;obtain⟨rfl,rfl⟩:=he;cases h;rfl
 ·split at h;rotate_left;simp at h;rename_i he;subst he;rfl
 ·split at h;rotate_left;simp at h;rename_i he;subst he;rfl
 ·rfl
 ·rfl
 ·rfl
 ·split at h;rotate_left;simp at h;rename_i he;subst he;rfl
 ·split at h;rotate_left;simp at h;rename_i he;subst he;cases h;rfl
 ·split at h;rotate_left;simp at h;rename_i he;subst he;rw[ZM h];rfl
 simp_all
theorem ZbQ (hU:UOk U):∀{l:List Sh1} {ds:List (TV U)} {x:Zg4 U l},Zgy l ds=some x→ds=Zjs l x
 | [],[],x,h=>rfl
 | [],_::_,x,h=>by grind[Zgy]
 |_::_,[],x,h=>by grind[Zgy]
 |s::r,d::ds,x,h=>by simp only[Zgy]at h;split at h;rotate_left;simp at h;rename_i a b h1 h2;cases h;rw[Zjs,←Zig hU h1,←ZbQ hU h2]
theorem ZmH (hU:UOk U) {s:Sh} {d:TV U} {x:Val U s} (h:mat s d=some x):d=bld s x:=by
 unfold mat at h;grind[Zig,bld,ZbQ]
theorem ZdY (hU:UOk U):∀{l:List Sh} {ds:List (TV U)} {x:Zcn U l},ZmG l ds=some x→ds=Znj l x
 | [],[],x,h=>rfl
 | [],_::_,x,h=>by grind[ZmG]
 |_::_,[],x,h=>by grind[ZmG]
 |s::r,d::ds,x,h=>by simp only[ZmG]at h;split at h;rotate_left;simp at h;rename_i a b h1 h2;cases h;rw[Znj,←ZmH hU h1,←ZdY hU h2]
theorem Zlo (hU:UOk U) {s:ShO} {d:TO U} {x:ValO U s} (h:matO s d=some x):d=bldO s x:=by
 unfold matO at h;split at h
 ·grind[bldO,ZdY]
 ·grind[bldO,ZaO,ZcL]
 ·split at h;rotate_left;simp at h;rename_i he;subst he;split at h;rotate_left;simp at h;rename_i hf;subst hf;cases h;rfl
 ·split at h;rotate_left;simp at h;rename_i he;subst he;split at h;rotate_left;simp at h;rename_i hf;subst hf;cases h;rfl
 ·cases h;rfl
 ·split at h;rotate_left;simp at h;rename_i he;subst he;split at h;rotate_left;simp at h;rename_i hf;subst hf;cases h;rfl
 ·split at h;rotate_left;simp at h;rename_i he;subst he;split at h;rotate_left;simp at h;rename_i hf;obtain⟨rfl,rfl⟩:=hf;cases h;rfl
 simp_all
theorem Ze2 (hU:UOk U):∀{l:List ShO} {ds:List (TO U)} {x:Zal U l},Zi1 l ds=some x→ds=ZkK l x
 | [],[],x,h=>rfl
 | [],_::_,x,h=>by grind[Zi1]
 |_::_,[],x,h=>by grind[Zi1]
 |s::r,d::ds,x,h=>by simp only[Zi1]at h;split at h;rotate_left;simp at h;rename_i a b h1 h2;cases h;rw[ZkK,←Zlo hU h1,←Ze2 hU h2]
structure FC (U:Zd) where
 X:ZG U
 fn:Func
 c:Code
 sigs:List (Nat×ZjE U)
 lent:List Nat
 rms:List RM
 rhs:List (Option Nat)
 keep:List Nat:=[]
 alt:List (Nat×Nat):=[]
structure FOk (F:FC U):Prop where
 hU:UOk U
 hX:TOk F.X
 hE:Zl F.X.E
 mixed:F.X.prog.follows .mixedOrders=true
 sigs:∀x∈F.sigs,Zez F.X.E x.1 x.2
structure Lp (U:Zd) (R:Type) where
 live:List Nat
 frz:List Nat
 shs:List Sh
 sho:List ShO
 f:Zcn U shs→Zal U sho→Option R
variable {R:Type}
def Lp.cut (L:Lp U R):Cut U R:=⟨L.live,L.frz,fun ds os=>match ZmG L.shs ds,Zi1 L.sho os with
 |some v,some w=>L.f v w
 |_,_=>none⟩
def Lp.st (F:FC U) (L:Lp U R) (v:Zcn U L.shs) (w:Zal U L.sho):TS U:=mkC F.lent L.live (Znj L.shs v) (ZkK L.sho w)
def Pt (F:FC U) (RT:Ret) (k:List Item) (T:TS U):Prop:=
 ∀W Lt S0 lays,AWP ⟨F.X.E,W,Lt,S0,lays⟩ ⟨none,[]⟩ (ZiQ ⟨F.X.E,W,Lt,S0,lays⟩ F.fn RT) k T.enc
def ZhW (F:FC U) (RT:Ret) (r:R) (L:Lp U R) (k:List Item):Prop:=∀v w,(L.st F v w).Inv→L.f v w=some r→Pt F RT k (L.st F v w)
def cutsOf (l:List (List Nat×Lp U R)):List (List Nat×Cut U R):=l.map fun x=>(x.1,x.2.cut)
def ZmQ (l:List (Nat×Lp U R)):List (Nat×Cut U R):=l.map fun x=>(x.1,x.2.cut)
def Ziz:Option (Lp U R)→Option (Cut U R)
 |some L=>some L.cut
 |none=>none
def FC.par (F:FC U) (cuts:List (List Nat×Lp U R)) (back:Option (Lp U R)) (exits:List (Nat×Lp U R)) (ret:ZbL U→Option R):Par U R:=
 {X:=F.X,sigs:=F.sigs,cuts:=cutsOf cuts,back:=Ziz back,exits:=ZmQ exits,lent:=F.lent,rs:=F.fn.results.toList,rms:=F.rms,rhs:=F.rhs,ret:=ret,keep:=F.keep,alt:=F.alt}
def ZkV (F:FC U) (p:List Nat):List Item:=match atP (F.c,[]) p with
 |some x=> .c x.1::x.2
 |none=>[]
def Zbl (F:FC U) (RT:Ret) (r:R):List (List Nat×Lp U R)→Prop
 | []=>True
 |x::l=>ZhW F RT r x.2 (ZkV F x.1)∧Zbl F RT r l
def ZaX (F:FC U) (RT:Ret) (r:R) (base:List Item):List (Nat×Lp U R)→Prop
 | []=>True
 |x::l=>(∃k,Zaw x.1 base=some k∧ZhW F RT r x.2 k)∧ZaX F RT r base l
theorem ZhW.hcut {F:FC U} (hU:UOk U) {RT:Ret} {r:R} {L:Lp U R} {k:List Item} (h:ZhW F RT r L k) {P:Par U R} (hl:P.lent=F.lent) {W:World} {Lt S0:Nat→Prop} {lays:Nat→Option Lay}:
  Hcut P ⟨F.X.E,W,Lt,S0,lays⟩ ⟨none,[]⟩ F.fn RT r L.cut k:=by
 intro ds os hi hk;simp only[Lp.cut]at hk;split at hk;rotate_left;simp at hk;rename_i v w hv hw;have e1:=ZdY hU hv;have e2:=Ze2 hU hw;have:mkC P.lent L.cut.live ds os=L.st F v w:=by rw[e1,e2,hl];rfl
 rw[this]at hi⊢
 exact h v w hi hk W Lt S0 lays
theorem Pt.evl {F:FC U} (hF:FOk F) {RT:Ret} {r:R} (n:Nat) {cuts:List (List Nat×Lp U R)} {back:Option (Lp U R)} {exits:List (Nat×Lp U R)} {ret:ZbL U→Option R} {base:List Item} {pre:List TI'} {T:TS U}
  (hT:T.Inv) (h:Eng.evl (F.par cuts back exits ret) n none pre T=some r) (hw:Wf (F.c,[]) base pre) (hc:Zbl F RT r cuts) (hb:∀L,back=some L→ZhW F RT r L base) (hnb:back=none→base=[])
  (he:ZaX F RT r base exits) (hret:∀t,ret t=some r→t.enc=RT):Pt F RT (pre.map TI'.conc++base) T:=by
 intro W Lt S0 lays;refine(ZmS (fm:=⟨none,[]⟩) (fn:=F.fn) (RT:=RT) (r:=r) (root:=(F.c,[])) (base:=base) (C:=⟨F.X.E,W,Lt,S0,lays⟩) ?_ n).1 pre T hw hT h;refine⟨hF.hU,hF.hX,hF.hE,rfl,hF.mixed,rfl,rfl,hF.sigs,fun x hx c k hat=> ?_,fun c hc'=> ?_,fun hn=> ?_,fun x hx=> ?_,hret⟩
 ·obtain⟨y,hy,rfl⟩:=Zod.1 hx;have:ZhW F RT r y.2 (ZkV F y.1):=by
   clear h hx hat
   induction cuts with
   |nil=>simp_all
   |cons z l ih=>
    rcases ZnD.1 hy with rfl |hy
    ·exact hc.1
    ·exact ih hc.2 hy
  rw[show ZkV F y.1= .c c::k by grind[ZkV]]at this;exact this.hcut hF.hU rfl
 ·cases back with
  |none=>grind[FC.par,Ziz]
  |some L=>
   simp only[FC.par,Ziz,ZnO]at hc';subst hc';exact(hb L rfl).hcut hF.hU rfl
 ·cases back with
  |none=>simp_all
  |some L=>grind[FC.par,Ziz]
 ·obtain⟨y,hy,rfl⟩:=Zod.1 hx;have:∃k,Zaw y.1 base=some k∧ZhW F RT r y.2 k:=by
   clear h hx
   induction exits with
   |nil=>simp_all
   |cons z l ih=>
    rcases ZnD.1 hy with rfl |hy
    ·exact he.1
    ·exact ih he.2 hy
  obtain⟨k,hk,hl⟩:=this;exact⟨k,hk,hl.hcut hF.hU rfl⟩
theorem Pt.evlAt {F:FC U} (hF:FOk F) {RT:Ret} {r:R} (n:Nat) {cuts:List (List Nat×Lp U R)} {back:Option (Lp U R)} {exits:List (Nat×Lp U R)} {ret:ZbL U→Option R} {base:List Item} {pre:List TI'} {T:TS U} {k:List Item}
  (hk:k=pre.map TI'.conc++base) (hT:T.Inv) (h:Eng.evl (F.par cuts back exits ret) n none pre T=some r) (hw:Wf (F.c,[]) base pre) (hc:Zbl F RT r cuts) (hb:∀L,back=some L→ZhW F RT r L base) (hnb:back=none→base=[])
  (he:ZaX F RT r base exits) (hret:∀t,ret t=some r→t.enc=RT):Pt F RT k T:=hk▸Pt.evl hF n hT h hw hc hb hnb he hret
theorem Pt.lp {F:FC U} (hF:FOk F) {RT:Ret} {body:Code} {k:List Item} {T:TS U} (h:Pt F RT (.c body:: .lp body::k) T):Pt F RT (.lp body::k) T:=fun W Lt S0 lays=>
 Zay (ps':=[]) hF.hE 1 (.lp body::k) _ [] rfl (by simp) (h W Lt S0 lays)
theorem Pt.loop {F:FC U} (hF:FOk F) {RT:Ret} {body:Code} {k:List Item} {T:TS U} (h:Pt F RT (.c body:: .lp body::k) T):Pt F RT (.c (.loop body)::k) T:=fun W Lt S0 lays=>
 Zay (ps':=[]) hF.hE 1 (.c (.loop body)::k) _ [] rfl (by simp) (h W Lt S0 lays)
theorem ZmM {F:FC U} (hF:FOk F) {RT:Ret} {r:R} (N:Nat) {q:List Nat} {body:Code} {k:List Item} {live frz:List Nat} {shs:List Sh} {sho:List ShO} (f:Nat→Zcn U shs→Zal U sho→Option R)
  {cuts:Nat→List (List Nat×Lp U R)} {exits:List (Nat×Lp U R)} {ret:ZbL U→Option R} (hq:atP (F.c,[]) q=some (.loop body,k)) (h0:∀v w,f 0 v w=none)
  (hs:∀n v w,f (n+1) v w=evl (F.par (cuts n) (some ⟨live,frz,shs,sho,f n⟩) exits ret) N none [.c (5::q) body] (Lp.st F ⟨live,frz,shs,sho,f (n+1)⟩ v w))
  (hc:∀n,ZhW F RT r ⟨live,frz,shs,sho,f n⟩ (.lp body::k)→Zbl F RT r (cuts n)) (he:ZaX F RT r (.lp body::k) exits) (hret:∀t,ret t=some r→t.enc=RT):
  ∀n,ZhW F RT r ⟨live,frz,shs,sho,f n⟩ (ZkV F q):=by
 have hst:ZkV F q= .c (.loop body)::k:=by grind[ZkV]
 rw[hst];have key:∀n,ZhW F RT r ⟨live,frz,shs,sho,f n⟩ (.c body:: .lp body::k):=by
  intro n
  induction n with
  |zero=>intro v w _ h;simp_all
  |succ n ih=>
   intro v w hi h;have h':f (n+1) v w=some r:=h;rw[hs n v w]at h';have hback:ZhW F RT r ⟨live,frz,shs,sho,f n⟩ (.lp body::k):=fun v w hi h=>(ih v w hi h).lp hF
   refine Pt.evl hF N (base:= .lp body::k) hi h' ⟨?_,trivial⟩ (hc n hback) (fun L hL=> ?_) (fun hn=>by simp_all) he hret
   all_goals grind[atP]
 exact fun n v w hi h=>(key n v w hi h).loop hF
inductive ShA where
 |p (t:Ty) |box (t:Ty) |arr (t:Ty) |map (k v:Ty) |ptr (t:Ty) |fn (f:Nat) (a b:List Sh1) |nilp |nilfn |part (t:Ty) |boxr (t:Ty) (k:Nat) |hmap (k v:Ty)
inductive ShR where
 |p (t:Ty) |own (t:Ty) |box (t:Ty) |map (k v:Ty) |view (k:Nat) |aown (n k:Nat) (t:Ty) |aoown (n k:Nat) (t:Ty) (c:Nat) (u:Ty)
abbrev ZhV (U:Zd):Sh1→Type
 | .v t=>El U.car t
 | .pp t=>El U.car t
 |_=>Unit
abbrev ZcN (U:Zd):List Sh1→Type
 | []=>Unit
 |s::r=>ZhV U s×ZcN U r
abbrev Zmd (U:Zd):ShA→Type
 | .p t=>El U.car t
 | .box t=>El U.car t
 | .arr t=>List (El U.car t)
 | .map k v=>List (El U.car k×El U.car v)
 | .ptr t=>El U.car t
 | .fn _ a b=>ZcN U a×ZcN U b
 | .part t=>List (El U.car t)×Nat×Nat
 | .boxr t _=>El U.car t
 | .hmap k v=>List (El U.car k×El U.car v)
 | .nilp=>Unit
 | .nilfn=>Unit
abbrev Zf3 (U:Zd):List ShA→Type
 | []=>Unit
 |s::r=>Zmd U s×Zf3 U r
abbrev Zm7 (U:Zd):ShR→Type
 | .p t=>El U.car t
 | .own t=>List (El U.car t)
 | .box t=>El U.car t
 | .map k v=>List (El U.car k×El U.car v)
 | .view _=>Nat×Nat
 | .aown n _ _=>U.car n
 | .aoown n _ _ _ _=>U.car n×Nat
abbrev Zg3 (U:Zd):List ShR→Type
 | []=>Unit
 |s::r=>Zm7 U s×Zg3 U r
abbrev Zg2 (U:Zd):List (Nat×ShA)→Type
 | []=>Unit
 |s::r=>Zmd U s.2×Zg2 U r
def ZmZ:(s:Sh1)→ZhV U s→TQ U
 | .v t,x=> .l ⟨t,x⟩
 | .pp t,x=> .ptr (U.cellsE t x)
 | .nilp,_=> .nilp
 |_,_=> .nilfn
def ZgV:(l:List Sh1)→ZcN U l→List (TQ U)
 | [],_=>[]
 |s::r,v=>ZmZ s v.1::ZgV r v.2
def Znk:(s:ShA)→Zmd U s→ZP U
 | .p t,x=> .p (.l ⟨t,x⟩)
 | .box t,x=> .box (U.cellsE t x)
 | .arr t,xs=> .arr t xs
 | .map k v,kv=> .map k v kv
 | .ptr t,x=> .p (.ptr (U.cellsE t x))
 | .fn f a b,x=> .p (.fn f (ZgV a x.1) (ZgV b x.2))
 | .nilp,_=> .p .nilp
 | .nilfn,_=> .p .nilfn
 | .part t,x=> .part t x.1 x.2.1 x.2.2
 | .boxr t k,x=> .boxr ⟨t,x⟩ k
 | .hmap k v,kv=> .hmap k v kv
def Zdr:(l:List ShA)→Zf3 U l→List (ZP U)
 | [],_=>[]
 |s::r,v=>Znk s v.1::Zdr r v.2
def slAt (t:Ty):Option (Lf U.car)→List (El U.car t)
 |some l=>match l.as (.sl t)with
  |some xs=>xs
  |none=>[]
 |none=>[]
def bldR:(s:ShR)→Zm7 U s→TRV U
 | .p t,x=> .p ⟨t,x⟩
 | .own t,xs=> .own t xs
 | .box t,x=> .box (U.cellsE t x)
 | .map k v,kv=> .map k v kv
 | .view k,p=> .view k p.1 p.2
 | .aown n k t,x=> .aown ((U.cells n x).take k) t (slAt t (U.cells n x)[k]?) ((U.cells n x).drop (k+1)) none
 | .aoown n k t c u,x=> .aown ((U.cells n x.1).take k) t (slAt t (U.cells n x.1)[k]?) ((U.cells n x.1).drop (k+1)) (some (c,u,x.2))
def ZlD:(l:List ShR)→Zg3 U l→List (TRV U)
 | [],_=>[]
 |s::r,v=>bldR s v.1::ZlD r v.2
def ZlC:(l:List (Nat×ShA))→Zg2 U l→List (Nat×ZP U)
 | [],_=>[]
 |s::r,v=>(s.1,Znk s.2 v.1)::ZlC r v.2
def ZmI:(s:Sh1)→TQ U→Option (ZhV U s)
 | .v t,.l x=>x.as t
 | .pp t,.ptr cs=>U.ofE t cs
 | .nilp,.nilp=>some ()
 | .nilfn,.nilfn=>some ()
 |_,_=>none
def ZdZ:(l:List Sh1)→List (TQ U)→Option (ZcN U l)
 | [],[]=>some ()
 |s::r,d::ds=>match ZmI s d,ZdZ r ds with
  |some x,some y=>some (x,y)
  |_,_=>none
 |_,_=>none
def matA:(s:ShA)→ZP U→Option (Zmd U s)
 | .p t,.p (.l x)=>x.as t
 | .box t,.box cs=>U.ofE t cs
 | .arr t,.arr t' xs=>if h:t'=t then some (h▸xs)else none
 | .map k v,.map k' v' kv=>if h:k'=k then if h':v'=v then some (h▸h'▸kv)else none else none
 | .ptr t,.p (.ptr cs)=>U.ofE t cs
 | .fn f a b,.p (.fn f' x y)=>if f'=f then match ZdZ a x,ZdZ b y with
  |some p,some q=>some (p,q)
  |_,_=>none
  else none
 | .nilp,.p .nilp=>some ()
 | .nilfn,.p .nilfn=>some ()
 | .part t,.part t' xs off len=>if h:t'=t then some (h▸xs,off,len)else none
 | .boxr t k,.boxr l k'=>if k'=k then l.as t else none
 | .hmap k v,.hmap k' v' kv=>if h:k'=k then if h':v'=v then some (h▸h'▸kv)else none else none
 |_,_=>none
def Zi2:(l:List ShA)→List (ZP U)→Option (Zf3 U l)
 | [],[]=>some ()
 |s::r,d::ds=>match matA s d,Zi2 r ds with
  |some x,some y=>some (x,y)
  |_,_=>none
 |_,_=>none
def matR:(s:ShR)→TRV U→Option (Zm7 U s)
 | .p t,.p x=>x.as t
 | .own t,.own t' xs=>if h:t'=t then some (h▸xs)else none
 | .box t,.box cs=>U.ofE t cs
 | .map k v,.map k' v' kv=>if h:k'=k then if h':v'=v then some (h▸h'▸kv)else none else none
 | .view k,.view k' o l=>if k'=k then some (o,l)else none
 | .aown n k t,.aown pre t' xs post none=>if t'=t∧pre.length=k then U.of n (pre++⟨.sl t',xs⟩::post)else none
 | .aoown n k t c u,.aown pre t' xs post (some (c',u',lo))=>if t'=t∧pre.length=k∧c'=c∧u'=u then match U.of n (pre++⟨.sl t',xs⟩::post)with
  |some x=>some (x,lo)
  |none=>none
  else none
 |_,_=>none
def Zi0:(l:List ShR)→List (TRV U)→Option (Zg3 U l)
 | [],[]=>some ()
 |s::r,d::ds=>match matR s d,Zi0 r ds with
  |some x,some y=>some (x,y)
  |_,_=>none
 |_,_=>none
def ZiZ:(l:List (Nat×ShA))→List (Nat×ZP U)→Option (Zg2 U l)
 | [],[]=>some ()
 |s::r,d::ds=>if d.1=s.1 then match matA s.2 d.2,ZiZ r ds with
  |some x,some y=>some (x,y)
  |_,_=>none
  else none
 |_,_=>none
theorem Zkc (hU:UOk U) {s:Sh1} {d:TQ U} {x:ZhV U s} (h:ZmI s d=some x):d=ZmZ s x:=by
 unfold ZmI at h;grind[ZM,ZmZ,ZaO]
theorem Zcf (hU:UOk U):∀{l:List Sh1} {ds:List (TQ U)} {x:ZcN U l},ZdZ l ds=some x→ds=ZgV l x
 | [],[],x,h=>rfl
 | [],_::_,x,h=>by grind[ZdZ]
 |_::_,[],x,h=>by grind[ZdZ]
 |s::r,d::ds,x,h=>by simp only[ZdZ]at h;split at h;rotate_left;simp at h;rename_i a b h1 h2;cases h;rw[ZgV,←Zkc hU h1,←Zcf hU h2]
theorem Zif (hU:UOk U) {s:ShA} {d:ZP U} {x:Zmd U s} (h:matA s d=some x):d=Znk s x:=by
 unfold matA at h;split at h
 ·rw[ZM h];rfl
 ·grind[Znk,ZaO]
 ·split at h;rotate_left;simp at h;rename_i he;subst he;cases h;rfl
 ·split at h;rotate_left;simp at h;rename_i he;subst he;split at h;rotate_left;simp at h;rename_i hf;subst hf;cases h;rfl
 ·grind[Znk,ZaO]
 ·grind[Znk,Zcf]
 ·rfl
 ·rfl
 ·split at h;rotate_left;simp at h;rename_i he;subst he;cases h;rfl
 ·split at h;rotate_left;simp at h;rename_i he;subst he;rw[ZM h];rfl
 ·split at h;rotate_left;simp at h;rename_i he;subst he;split at h;rotate_left;simp at h;rename_i hf;subst hf;cases h;rfl
 simp_all
theorem Ze3 (hU:UOk U):∀{l:List ShA} {ds:List (ZP U)} {x:Zf3 U l},Zi2 l ds=some x→ds=Zdr l x
 | [],[],x,h=>rfl
 | [],_::_,x,h=>by grind[Zi2]
 |_::_,[],x,h=>by grind[Zi2]
 |s::r,d::ds,x,h=>by simp only[Zi2]at h;split at h;rotate_left;simp at h;rename_i a b h1 h2;cases h;rw[Zdr,←Zif hU h1,←Ze3 hU h2]
theorem ZiF (hU:UOk U) {n:Nat} {pre post:List (Lf U.car)} {t:Ty} {xs:List (El U.car t)} {x:U.car n} (h:U.of n (pre++⟨.sl t,xs⟩::post)=some x):
  (U.cells n x).take pre.length=pre∧slAt t (U.cells n x)[pre.length]? =xs∧(U.cells n x).drop (pre.length+1)=post:=by
 rw[hU.of_cells _ _ _ h];simp_all[slAt,Lf.as]
theorem Zln (hU:UOk U) {s:ShR} {d:TRV U} {x:Zm7 U s} (h:matR s d=some x):d=bldR s x:=by
 unfold matR at h;split at h
 ·rw[ZM h];rfl
 ·split at h;rotate_left;simp at h;rename_i he;subst he;cases h;rfl
 all_goals grind[bldR,ZaO,ZiF]
theorem Ze1 (hU:UOk U):∀{l:List ShR} {ds:List (TRV U)} {x:Zg3 U l},Zi0 l ds=some x→ds=ZlD l x
 | [],[],x,h=>rfl
 | [],_::_,x,h=>by grind[Zi0]
 |_::_,[],x,h=>by grind[Zi0]
 |s::r,d::ds,x,h=>by simp only[Zi0]at h;split at h;rotate_left;simp at h;rename_i a b h1 h2;cases h;rw[ZlD,←Zln hU h1,←Ze1 hU h2]
theorem Ze0 (hU:UOk U):∀{l:List (Nat×ShA)} {ds:List (Nat×ZP U)} {x:Zg2 U l},ZiZ l ds=some x→ds=ZlC l x
 | [],[],x,h=>rfl
 | [],_::_,x,h=>by grind[ZiZ]
 |_::_,[],x,h=>by grind[ZiZ]
 |s::r,d::ds,x,h=>by simp only[ZiZ]at h;split at h;rotate_left;simp at h;rename_i he;split at h;rotate_left;simp at h;rename_i a b h1 h2;cases h;rw[ZlC,←Zif hU h1,←Ze0 hU h2,←he]
structure RSh where
 rs:List ShR
 os:List (Nat×ShA)
abbrev ZlN (U:Zd) (S:RSh):Type:=Zg3 U S.rs×Zg2 U S.os
def RSh.bld (S:RSh) (v:ZlN U S):ZbL U:=⟨ZlD S.rs v.1,ZlC S.os v.2⟩
def RSh.mat (S:RSh) (t:ZbL U):Option (ZlN U S):=match Zi0 S.rs t.res,ZiZ S.os t.outs with
 |some x,some y=>some (x,y)
 |_,_=>none
def ZeE {ρ:Type} (S:RSh) (g:ZlN U S→ρ) (t:ZbL U):Option ρ:=match S.mat t with
 |some v=>some (g v)
 |none=>none
theorem Zgl (hU:UOk U) {ρ:Type} {S:RSh} {g:ZlN U S→ρ} {give:ρ→ZbL U} (hg:∀v,give (g v)=S.bld v) {t:ZbL U} {r:ρ} (h:ZeE S g t=some r):t.enc=(give r).enc:=by unfold ZeE at h;split at h;rotate_left;simp at h;rename_i v hv;cases h;unfold RSh.mat at hv;split at hv;rotate_left;simp at hv;rename_i x y hx hy;cases hv;rw[hg];obtain⟨a,b⟩:=t;simp only at hx hy;rw[Ze1 hU hx,Ze0 hU hy];rfl
def ZP.d (k:Nat):ZP U→TV U
 | .p q=>q.tv
 | .box _=> .ptr (0,k,0) 0 0
 | .arr _ xs=> .full (0,k,0) xs.length
 | .map _ _ _=> .map (0,k,0)
 | .part _ _ off len=> .sl (0,k,0) off len
 | .boxr l j=> .rp (some l) (0,j,0)
 | .hmap _ _ _=> .dead
def ZcI:Nat→List (ZP U)→List (Nat×TV U)
 |_,[]=>[]
 |k,a::r=>(k,a.d k)::ZcI (k+1) r
def ZbJ:Nat→List (ZP U)→List (Id×TO U)
 |_,[]=>[]
 |k,a::r=>match a.o with
  |some o=>((0,k,0),o)::ZbJ (k+1) r
  |none=>ZbJ (k+1) r
def ZkO (args:List (ZP U)):TS U:=mkT 1 (ZcI 0 args) (ZbJ 0 args)
theorem Zfn:∀(k:Nat) (as:List (ZP U)) (x:Nat),(Zaz TV.dead (ZcI k as) x).enc=Zaz D.dead (Zc9 k (as.map ZP.enc)) x
 |k,[],x=>rfl
 |k,a::r,x=>by
  simp only[ZcI,Zn6,Zc9,Zaz];split
  ·cases a with
   |p q=>exact(ZjI q).1
   |box cs=>rfl
   |arr t xs=>grind[ZP.d,TV.enc,ZP.enc,Arg.d]
   |map a b kv=>rfl
   |part t xs off len=>rfl
   |boxr l k=>rfl
   |hmap a b kv=>rfl
  ·exact Zfn (k+1) r x
theorem Zc8:∀(k:Nat) (as:List (ZP U)) (x:Id),ZiV (Zg (ZbJ k as) x)=Zg (Zcl k (as.map ZP.enc)) x
 |k,[],x=>rfl
 |k,a::r,x=>by
  simp only[ZbJ,Zn6,Zcl];have:=ZiE a;cases ha:a.o with
  |none=>rw[ha]at this;rw[←this];exact Zc8 (k+1) r x
  |some o=>
   rw[ha]at this;rw[←this];simp only[Zg,show ZiV (some o)=some o.enc from rfl]
   by_cases hx:x=(0,k,0)
   ·rw[if_pos hx,if_pos hx];rfl
   ·rw[if_neg hx,if_neg hx];exact Zc8 (k+1) r x
theorem ZkN (as:List (ZP U)):(ZkO as).enc=Zeu (as.map ZP.enc):=by
 refine ZeQ ?_ ?_ rfl rfl
 ·funext x;exact Zfn 0 as x
 ·funext x;exact Zc8 0 as x
theorem Zfm:∀(n:Nat) (l:List (ZP U)) (k:Nat) (d:TV U),(k,d)∈ZcI n l→∃j x,l[j]? =some x∧k=n+j∧d=x.d (n+j)
 |n,[],k,d,h=>by grind[ZcI]
 |n,x::r,k,d,h=>by
  simp only[ZcI,ZnD,ZnP]at h;rcases h with ⟨rfl,rfl⟩ |h
  ·grind
  ·obtain⟨j,y,h1,h2,h3⟩:=Zfm (n+1) r k d h;exact⟨j+1,y,by simp_all,by omega,by grind⟩
theorem Zfk:∀(n:Nat) (l:List (ZP U)) (j:Nat) (x:ZP U) (o:TO U),l[j]? =some x→x.o=some o→Zg (ZbJ n l) (0,n+j,0)=some o
 |n,[],j,x,o,h,_=>by grind
 |n,y::r,j,x,o,h,ho=>by
  cases j with
  |zero=>
   grind[ZbJ,Zg]
  |succ j=>
   have:=Zfk (n+1) r j x o (by simp_all) ho;grind[ZbJ,Zg]
theorem Zc7:∀(n:Nat) (l:List (ZP U)) (id:Id) (o:TO U),(id,o)∈ZbJ n l→∃x∈l,x.o=some o
 |n,[],id,o,h=>by grind[ZbJ]
 |n,x::r,id,o,h=>by
  simp only[ZbJ]at h;split at h
  ·rename_i o' ho;rcases ZnD.1 h with h |h
   ·simp_all
   ·obtain⟨y,h1,h2⟩:=Zc7 (n+1) r id o h;grind
  ·obtain⟨y,h1,h2⟩:=Zc7 (n+1) r id o h;grind
theorem ZgZ (as:List (ZP U)):(ZkO as).Inv:=by
 constructor
 ·intro k;show TV.inv _ (Zaz TV.dead (ZcI 0 as) k);rcases ZaS TV.dead (ZcI 0 as) k with hq |hq
  ·rw[hq];exact Ze rfl
  ·obtain⟨j,x,h1,h2,h3⟩:=Zfm 0 as k _ hq;rw[h3];cases x with
   |p q=>exact Ze (ZjI q).2
   |box cs=>exact Ze rfl
   |map a b kv=>exact Ze rfl
   |part t xs off len=>exact Ze rfl
   |boxr l k=>exact Ze rfl
   |hmap a b kv=>exact Ze rfl
   |arr t xs=>
    intro q hq;simp only[ZP.d,TV.fulls,ZnF]at hq;subst hq;exact⟨.arr t xs false,Zfk 0 as j _ _ h1 rfl,fun n' he=>by cases he;rfl⟩
 ·intro id o ho;obtain⟨x,_,hx⟩:=Zc7 0 as id o (Z1 ho);cases x<;>simp only[ZP.o,ZnO,reduceCtorEq]at hx<;>subst hx
  ·intro d hd;obtain⟨l,_,rfl⟩:=Zod.1 hd;exact Zah _ _
  ·trivial
  ·trivial
  ·trivial
  ·trivial
theorem ZgK {X0:ZG U} {F:FC U} {f:Nat} {args:List (ZP U)} {RT:Ret} (hX:F.X=X0.at F.fn.ntmps) (hf:X0.prog.funcs[f]? =some F.fn) (hn:(F.fn.name == "runtime.NumGoroutine")=false) (hb:F.fn.body=some F.c) (hl:args.length≤F.fn.ntmps)
  (h:Pt F RT [.c F.c] (ZkO args)):Fun X0.E f (args.map ZP.enc) RT:=by
 refine Zi7 (E:=X0.E) hf hn hb (by simp_all) fun W Lt S0 lays=> ?_
 have:=h W Lt S0 lays;rw[ZkN,hX]at this;exact this
structure ZkU (U:Zd) where
 ρ:Type
 pts:List Nat
 ms:List AM
 hs:List (Option Nat)
 as:List ShA
 s:Zf3 U as→Option ρ
 give:ρ→ZbL U
def ZkU.sig (S:ZkU U):ZjE U:=⟨S.pts,S.ms,S.hs,fun args=>match Zi2 S.as args with
 |some v=>some ⟨S.ρ,S.s v,S.give⟩
 |none=>none⟩
theorem ZkU.ok {S:ZkU U} (hU:UOk U) {E:Env} {f:Nat} (h:∀v r,S.s v=some r→Fun E f ((Zdr S.as v).map ZP.enc) (S.give r).enc∧ZeA (Zdr S.as v) (S.give r)):Zez E f S.sig:=by intro args s hs a ha;simp only[ZkU.sig]at hs;split at hs;rotate_left;simp at hs;rename_i v hv;cases hs;grind[Ze3]
theorem ZdP {args:List (ZP U)} {ret:ZbL U} (h:ret.outs.all (fun x=>x.2.len?.isNone)=true):ZeA args ret:=by intro k a n hm ha;grind
end
end Eng
namespace Eng
open Go
section
variable {U:Zd}
def ttZ (o:Option (TT U)):Option (List D×List D×Option P×Option P):=match o with
 |some e=>some (TV.encs e.zero,e.ti.zero.map Z.toD,(match e.zl with |some l=>some (U.encL l) |none=>none),(match e.zl with |some _=>some e.ti.zeroP |none=>none))
 |none=>none
def ttZ' (o:Option (TT U)):Option (List D×List D×Option P×Option P):=match o with
 |some e=>some (e.ti.zero.map Z.toD,e.ti.zero.map Z.toD,(match e.zl with |some _=>some e.ti.zeroP |none=>none),(match e.zl with |some _=>some e.ti.zeroP |none=>none))
 |none=>none
def TV.plain:TV U→Bool
 | .v _ _ | .nilp | .nilfn | .nils _=>true
 |_=>false
def ttB (U:Zd) (o:Option (TT U)):Bool:=match o with
 |some e=>(e.ti.isAgg == e.n.isSome)&&(match e.n with |some n=>decide (e.ti.size=U.size n) |none=>true)&&e.zero.all TV.plain
 |none=>true
def ttK (X:ZG U):Nat→List (Option (TT U))→List (TD×TD)
 |_,[]=>[]
 |t,some e::r=>(match e.ty with | .map k _=>(X.E.keyTD t,k.td) |_=>(.other,.other))::ttK X (t+1) r
 |t,none::r=>(.other,.other)::ttK X (t+1) r
def Zmk:List (Option (TT U))→List (TD×TD)
 | []=>[]
 |some e::r=>(match e.ty with | .map k _=>(k.td,k.td) |_=>(.other,.other))::Zmk r
 |none::r=>(.other,.other)::Zmk r
theorem ZjJ (X:ZG U):∀(l:List (Option (TT U))) (t0:Nat),ttK X t0 l=Zmk l→∀t e k v,l[t]? =some (some e)→e.ty= .map k v→X.E.keyTD (t0+t)=k.td
 | [],t0,_,t,e,k,v,h,_=>by grind
 |o::r,t0,h,t,e,k,v,ht,hty=>by
  cases t with
  |zero=>
   grind[ttK,Zmk]
  |succ t=>
   have h':ttK X (t0+1) r=Zmk r:=by cases o<;>simp only[ttK,Zmk,Zox]at h<;>exact h.2
   have:=ZjJ X r (t0+1) h' t e k v (by simp_all) hty;grind
def ZlO (U:Zd) (l:List OwnT):Prop:=∀q∈l,q.c < U.size q.n∧∀x:U.car q.n,∃l,(U.cells q.n x)[q.c]? =some ⟨.sl q.u,l⟩
def ZiJ (l:List Nat) (q:(n:Nat)→U.car n→U.car n→Bool):Prop:=∀n∈l,∀x y:U.car n,∃a b c d,U.enc n x= .agg [.int .i64 a,.int .i64 b]∧U.enc n y= .agg [.int .i64 c,.int .i64 d]∧q n x y=(a == c&&b == d)
theorem key0 {q:(n:Nat)→U.car n→U.car n→Bool}:ZiJ [] q:=fun _ h=>nomatch h
theorem key1 {n:Nat} {l:List Nat} {q:(n:Nat)→U.car n→U.car n→Bool} (f g:U.car n→Int) (h1:∀x,U.enc n x= .agg [.int .i64 (f x),.int .i64 (g x)]) (h2:∀x y,q n x y=(f x == f y&&g x == g y)) (h:ZiJ l q):ZiJ (n::l) q:=fun m hm=>by
 rcases ZnD.1 hm with rfl |hm
 ·exact fun x y=>⟨_,_,_,_,h1 x,h1 y,h2 x y⟩
 ·exact h m hm
theorem own0:ZlO U []:=fun _ h=>nomatch h
theorem own1 {t n c:Nat} {u:Ty} {l:List OwnT} (h1:c < U.size n) (f:U.car n→List (El U.car u)) (h2:∀x:U.car n,(U.cells n x)[c]? =some ⟨.sl u,f x⟩) (h:ZlO U l):ZlO U (⟨t,n,c,u⟩::l):=fun q hq=>by
 rcases ZnD.1 hq with rfl |hq
 ·simp_all
 ·exact h q hq
theorem tok_of {X:ZG U} (hz:X.tt.map ttZ=X.tt.map ttZ') (hb:X.tt.all (ttB U)=true) (hk:ttK X 0 X.tt=Zmk X.tt) (hw:ZlO U X.owns) (hq:ZiJ X.keys X.kq):TOk X:=by
 have get:∀{t e},X.get t=some e→X.tt[t]? =some (some e):=fun {t e} h=>by grind[ZG.get]
 have zz:∀{t e},X.get t=some e→ttZ (some e)=ttZ' (some e):=fun {t e} h=>by have h1:=congrArg (·[t]?) hz;simp_all
 have bb:∀{t e},X.get t=some e→ttB U (some e)=true:=fun {t e} h=>ZnV.1 hb _ (Zoe (get h))
 refine⟨fun t e h=> ?_,fun t e l h hl=> ?_,fun t e h=> ?_,fun t e n h hn=> ?_,fun t e k v h hty=> ?_,fun t e h d hd=> ?_,hw,hq⟩
 ·grind[ttZ,ttZ']
 ·grind[ttZ,ttZ']
 ·grind[ttB]
 ·grind[ttB]
 ·have:=ZjJ X X.tt 0 hk t e k v (get h) hty;simp_all
 ·have:=bb h;simp only[ttB,Znu,ZnV]at this;have:=this.2 d hd;unfold TV.plain at this;split at this<;>first |rfl |simp_all
theorem TOk.at {X:ZG U} (h:TOk X) (n:Nat):TOk (X.at n):=⟨h.zero,h.zl,h.agg,h.size,h.key,h.inv,h.own,h.kq⟩
theorem Zl.at {X:ZG U} (h:Zl X.E) (n:Nat):Zl (X.at n).E:=⟨h.tys⟩
theorem Zez.at {X:ZG U} {g:Nat} {sg:ZjE U} (h:Zez X.E g sg) (n:Nat):Zez (X.at n).E g sg:=h
def Zdd (X:ZG U):List (Nat×ZjE U)→Prop
 | []=>True
 |x::r=>Zez X.E x.1 x.2∧Zdd X r
theorem Zey {X:ZG U}:∀{l:List (Nat×ZjE U)},Zdd X l→∀x∈l,Zez X.E x.1 x.2
 | [],_,x,h=>by grind
 |y::r,ha,x,h=>by
  rcases ZnD.1 h with rfl |h
  ·exact ha.1
  ·exact Zey ha.2 x h
theorem fok {X0:ZG U} {F:FC U} (hU:UOk U) (hX:TOk X0) (hE:Zl X0.E) (hm:X0.prog.follows .mixedOrders=true) (hF:F.X=X0.at F.fn.ntmps) (hs:Zdd X0 F.sigs):FOk F:=by
 refine⟨hU, ?_, ?_, ?_, ?_⟩
 ·rw[hF];exact hX.at _
 ·rw[hF];exact hE.at _
 ·rw[hF];exact hm
 ·intro x hx;rw[hF];exact(Zey hs x hx).at _
def Zdl (F:FC U) (p:List Nat):Code:=match atP (F.c,[]) p with |some x=>x.1 |none=> .skip
def tc (F:FC U) (p:List Nat):TI':= .c p (Zdl F p)
def tc0 (F:FC U):TI':= .c [] F.c
theorem retOut {ρ β:Type} {S:RSh} {g:ZlN U S→ρ} {t:ZbL U} {x:Out β ρ} (h:ZeE S (fun v=>Out.ret (β:=β) (g v)) t=some x):∃q,x= .ret q∧ZeE S g t=some q:=by
 grind[ZeE]
end
theorem as_car {car:Nat→Type} {l:Lf car} {t:Ty} {x:El car t} (h:l.as t=some x):l=⟨t,x⟩:=by unfold Lf.as at h;split at h;rotate_left;simp at h;rename_i he;obtain⟨t',y⟩:=l;grind
theorem Zm5 {car:Nat→Type} {t:Ty}:∀{cs:List (Lf car)} {l:List (El car t)},Zj (fun c=>c.as t) cs=some l→cs=l.map fun y=>⟨t,y⟩
 | [],l,h=>by grind[Zj]
 |c::cs,l,h=>by simp only[Zj]at h;split at h;rotate_left;simp at h;rename_i y ys h1 h2;cases h;rw[Zn6,←Zm5 h2,as_car h1]
def andK (k:IntKind) (x y:Int):Int:=k.wrap (BitVec.ofInt k.bits x&&& BitVec.ofInt k.bits y).toNat
def orK (k:IntKind) (x y:Int):Int:=k.wrap (BitVec.ofInt k.bits x|||BitVec.ofInt k.bits y).toNat
def xorK (k:IntKind) (x y:Int):Int:=k.wrap (BitVec.ofInt k.bits x ^^^ BitVec.ofInt k.bits y).toNat
def andNotK (k:IntKind) (x y:Int):Int:=k.wrap (BitVec.ofInt k.bits x&&& ~~~BitVec.ofInt k.bits y).toNat
def shlK (k:IntKind) (x y:Int):Int:=k.wrap (x*2 ^ (min y.toNat k.bits))
def shrK (k:IntKind) (x y:Int):Int:=x.fdiv (2 ^ (min y.toNat k.bits))
def mkOk (a b:Int) (n:Nat):Bool:=decide (0≤a∧a≤b∧b*n≤ZD∧b≤ZD)
def inR (n m:Int):Bool:=decide (0≤n∧n < m)
end Eng
namespace Eng
open Go Go.RowKit
theorem ZjF.of_below {w w':World} (h:Below w.heap.size w w'):ZjF w w':=⟨⟨h.os,h.output⟩,h.size,fun b hb=>h.block b hb⟩
theorem ZjF.rfl' (w:World):ZjF w w:=⟨.refl _,ZnJ _,fun _ _=>rfl⟩
theorem Zfl:∀(n:Nat) (xs:List P) (k:Nat) (x:P),xs[k]? =some x→Zaz D.dead (Zc9 n (xs.map Arg.p)) (n+k)= .p x
 |n,[],k,x,h=>by grind
 |n,y::r,0,x,h=>by grind[Zc9,Zaz,Arg.d]
 |n,y::r,k+1,x,h=>by simp only[List.getElem?_cons_succ]at h;have:=Zfl (n+1) r k x h;grind[Zc9,Zaz]
theorem ZiD {xs:List P} {k:Nat} {x:P} (h:xs[k]? =some x):(Zeu (xs.map Arg.p)).slots k= .p x:=by
 have:=Zfl 0 xs k x h
 rwa [Zok]at this
theorem Zl5 {E:Env} {f:Nat} {xs:List P} {y:P} (hf:∃fn,E.prog.funcs[f]? =some fn∧(fn.name == "runtime.NumGoroutine")=false∧fn.body.isNone=false)
  (h:∀(w:World) (S:Nat→Prop) (vals:Array Value),vals.size=xs.length→(∀(k:Nat) v x,vals[k]? =some v→xs[k]? =some x→RelP w S v x)→
   (∀g cs,(g,cs)∈E.globs→ZeC w S g cs)→
   CallsIn (Zcz none) 0 E.prog f vals w fun e w'=>∃v,e= .returned v∧ZjF w w'∧RelP w' S v y):Fun E f (xs.map .p) ⟨[.p y],[]⟩:=by
 refine .inl ⟨hf,fun w Lt S lays ρ vals hv hrep=> ?_⟩;rw[Zl1]at hv;refine CallsIn.mono (h w S vals hv ?_ hrep.glob) ?_
 ·intro k v x hk hx;have h1:=hrep.slots k;have e1:(Zeu (xs.map Arg.p)).slots k= .p x:=ZiD hx;rw[e1]at h1;have hlt:=(Znq.1 hk).1;rw[show vals.getD k undef=v by simp[hk]]at h1;exact h1.of_p
 ·rintro e w' ⟨v,rfl,hk,hr⟩;have hK:ZbM S w w':=fun b _ hb=>hk.2.2 b hb
  refine⟨#[v],fun _=>none,S,rfl,rfl, ?_⟩;have ho:∀id,(ZbY ⟨[.p y],[]⟩).objs id=none:=fun id=>rfl
  exact {
   nt:=rfl
   grow:=hk.2.1
   frame:=fun b hb _=>hk.2.2 b hb
   s0:=fun _ h=>h
   sIn:=fun b hb=>Nat.lt_of_lt_of_le (hrep.sIn b hb) hk.2.1
   slots:=fun k=>by
    cases k with
    |zero=>exact .p _ _ hr
    |succ k=>exact .dead _
   objs:=fun id o h=>by simp_all
   own:=fun id o L b h=>by simp_all
   inj:=fun id o L id' o' L' b h=>by simp_all
   known:=fun id h=>absurd (ho id) h
   young:=fun id h=>absurd rfl h
   fzk:=fun id h=>by cases h
   glob:=fun g cs hg=>(hrep.glob g cs hg).mono hK fun _ h=>h
   sOut:=fun b h=> .inl h
   ep1:=by show 1≤2;omega
   quiet:=hk.1
   lay:=fun k L h1 h2=>absurd rfl h2
   fam:=Fam.none fun id o h=>by simp_all}
theorem ZmP {E:Env} {f:Nat} {xs:List P} {y z:P} (hf:∃fn,E.prog.funcs[f]? =some fn∧fn.body.isNone=true)
  (h:∀(w:World) (S:Nat→Prop) (vals:Array Value),vals.size=xs.length→(∀(k:Nat) v x,vals[k]? =some v→xs[k]? =some x→RelP w S v x)→
   ∃v u,(callFunc f vals).run E.prog w= .ok (.value (.tuple #[v,u])) w∧RelP w S v y∧RelP w S u z):Fun E f (xs.map .p) ⟨[.p y,.p z],[]⟩:=by
 refine .inr ⟨hf,fun w Lt S lays ρ vals hv hrep=> ?_⟩;rw[Zl1]at hv;obtain⟨v,u,hrun,hr,hr2⟩:=h w S vals hv (by
  intro k v x hk hx;have h1:=hrep.slots k;have e1:(Zeu (xs.map Arg.p)).slots k= .p x:=ZiD hx;rw[e1]at h1;have hlt:=(Znq.1 hk).1;rw[show vals.getD k undef=v by simp[hk]]at h1;exact h1.of_p)
 refine⟨#[v,u],fun _=>none,S,w,hrun,rfl, ?_⟩;have ho:∀id,(ZbY ⟨[.p y,.p z],[]⟩).objs id=none:=fun id=>rfl
 exact {
  nt:=rfl
  grow:=ZnJ _
  frame:=fun b hb _=>rfl
  s0:=fun _ h=>h
  sIn:=hrep.sIn
  slots:=fun k=>by
   match k with
   |0=>exact .p _ _ hr
   |1=>exact .p _ _ hr2
   |k+2=>exact .dead _
  objs:=fun id o h=>by simp_all
  own:=fun id o L b h=>by simp_all
  inj:=fun id o L id' o' L' b h=>by simp_all
  known:=fun id h=>absurd (ho id) h
  young:=fun id h=>absurd rfl h
  fzk:=fun id h=>by cases h
  glob:=hrep.glob
  sOut:=fun b h=> .inl h
  ep1:=by show 1≤2;omega
  quiet:= .refl _
  lay:=fun k L h1 h2=>absurd rfl h2
  fam:=Fam.none fun id o h=>by simp_all}
def Zid {U:Zd} (args:List (ZP U)) (ret:ZbL U):Bool:=ret.outs.all fun x=>match x.2.len? with
 |some n=>(match args[x.1]? with
  |some a=>(match a.len? with
   |some m=>decide (n=m)
   |none=>false)
  |none=>false)
 |none=>true
theorem ZiU {U:Zd} {args:List (ZP U)} {ret:ZbL U} (h:Zid args ret=true):ZeA args ret:=by intro k a n hm ha;have:=ZnV.1 h _ hm;grind
theorem chkLen {α:Type} {o:Option α} {p:α→Bool} {r:α} (h:(o.bind fun r=>chk (p r) (some r))=some r):o=some r∧p r=true:=by
 cases o with
 |none=>grind
 |some x=>
  simp only[Option.bind_some]at h;unfold chk at h;grind
section
variable {U:Zd}
theorem Pt.ev0 {F:FC U} (hF:FOk F) {ρ:Type} {r:ρ} {S:RSh} {g:ZlN U S→ρ} {b:ρ→ZbL U} {cuts:List (List Nat×Lp U ρ)} {pre:List TI'} {T:TS U} {k:List Item}
  (hk:k=pre.map TI'.conc++[]) (hT:T.Inv) (h:Eng.evl (F.par cuts none [] (ZeE S g)) 4000 none pre T=some r) (hw:Wf (F.c,[]) [] pre) (hc:Zbl F (b r).enc r cuts) (hg:∀v,b (g v)=S.bld v):Pt F (b r).enc k T:=
 Pt.evlAt hF 4000 hk hT h hw hc (fun _ hL=>nomatch hL) (fun _=>rfl) trivial (fun _ ht=>Zgl hF.hU hg ht)
theorem ZkU.ok0 {X0:ZG U} {F:FC U} (hF:FOk F) {S:ZkU U} {f:Nat} {R:RSh} {g:ZlN U R→S.ρ} {cuts:List (List Nat×Lp U S.ρ)} {pre:List TI'} (hX:F.X=X0.at F.fn.ntmps) (hf:X0.prog.funcs[f]? =some F.fn) (hn:(F.fn.name == "runtime.NumGoroutine")=false) (hb:F.fn.body=some F.c)
  (hl:∀v:Zf3 U S.as,(Zdr S.as v).length≤F.fn.ntmps) (hg:∀v,S.give (g v)=R.bld v) (hk:[.c F.c]=pre.map TI'.conc++[]) (h:∀v r,S.s v=some r→Eng.evl (F.par cuts none [] (ZeE R g)) 4000 none pre (ZkO (Zdr S.as v))=some r)
  (hw:Wf (F.c,[]) [] pre) (hc:∀r,Zbl F (S.give r).enc r cuts) (ho:∀r,(S.give r).outs.all (fun x=>x.2.len?.isNone)=true):Zez X0.E f S.sig:=
 ZkU.ok hF.hU fun v r hr=>⟨ZgK hX hf hn hb (hl v) (Pt.ev0 hF (b:=S.give) hk (ZgZ _) (h v r hr) hw (hc r) hg),ZdP (ho r)⟩
end
end Eng

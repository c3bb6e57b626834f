/- The engine, text 4: an abstract evaluator of Go code over pure data, proved sound. -/
import Derived.Test.YteopakpakelkoaaGreatDoorE3
import Derived.Below
import Derived.Laws.OwnMore
import Derived.OpenShut
import Derived.SizedLaws
import Derived.WideKeyArgs
import Derived.Carry
set_option linter.all false
open Array renaming getElem?_eq_some_iff->Znq
open Bool renaming and_eq_true->Znu, false_eq_true->Znv
open List renaming getElem?_cons_zero->Zny, getElem?_eq_some_iff->ZnA, getElem?_map->ZnB, map_cons->Zn6, mem_append->Zn7, mem_cons->ZnD, all_eq_true->ZnV, cons_append->ZnX, getElem?_eq_getElem->Zn2, mem_cons_of_mem->Zoa, mem_map->Zod, mem_of_getElem?->Zoe, range'->Zog, getD_eq_getElem?_getD->Zoo, length->Zoq, length_append->Zoz, length_map->Zor, map_append->ZoA, map_drop->Zos, map_map->ZoB, map_nil->Zot, map_take->ZoG, cons.injEq->Zox, mem_of_find?_eq_some->ZoC, zip_cons_cons->ZoD
open Nat renaming le_refl->ZnJ, zero_add->Zok
open Option renaming getD_some->ZnL, some.inj->ZnN, some.injEq->ZnO, map_some->Zow, isSome_iff_exists->ZoE
open Prod renaming mk.injEq->ZnP
namespace Eng
open Go
section
variable {U:Zd} {R:Type} {X:ZG U} {T:TS U} {i ty:Nat} {k:Zk U->Option R} {r:R}
theorem ty_sl {t u:Nat} {e:TT U} (f:X.get t=some e) (g:e.ti.d= .sl u):∃a b c,X.E.ty t=some ⟨.sl u,a,b,c⟩:=by have:=Zs f;obtain⟨⟨d,a,b,c⟩,_,_,_,_⟩:=e;simp_all
theorem ty_arr {t m u:Nat} {e:TT U} (f:X.get t=some e) (g:e.ti.d= .arr m u):∃a b c,X.E.ty t=some ⟨.arr m u,a,b,c⟩:=by have:=Zs f;obtain⟨⟨d,a,b,c⟩,_,_,_,_⟩:=e;simp_all
theorem ZlR {t a b:Nat} {e:TT U} (c:X.get t=some e) (f:e.ti.d= .map a b):∃x y z,X.E.ty t=some ⟨.map a b,x,y,z⟩:=by have:=Zs c;obtain⟨⟨d,x,y,z⟩,_,_,_,_⟩:=e;simp_all
theorem as_eq {car:Nat->Type} {l:Lf car} {t:Ty} {x:El car t} (h:l.as t=some x):l=⟨t,x⟩:=by unfold Lf.as at h;split at h;rotate_left;simp at h;rename_i b;obtain⟨a,y⟩:=l;grind
theorem Zga {cs:List (Lf U.car)}:∀(ts:List Ty) (n:Nat) (k:List (Lf U.car)->Option R) {r:R},tabK cs ts n k=some r->∃ls,cs.drop n=ls++cs.drop (n+ls.length)/\k ls=some r
 | [],n,k,r,h=>⟨[],by simp,h⟩
 |t::ts,n,k,r,h=>by simp only[tabK]at h;obtain⟨x,a,h⟩:=bind_some h;obtain⟨ls,f,e⟩:=Zga ts (n+1) _ h;unfold tabB at a;split at a;rotate_left;simp at a;rename_i l d;obtain⟨b,c⟩:=ZnA.1 d;have:=as_eq a;refine⟨⟨t,x⟩::ls, ?_,e⟩;rw[List.drop_eq_getElem_cons b,c,this,f,List.cons_append,List.length_cons];congr 3;omega
theorem Zfv (I:UOk U) (j:TOk X) (B:T.Inv) {t:Nat} {x D:Operand} (h:Zcd X T t x D k=some r):Snd X T i (.indexAddr t x D) ty k r:=by
 unfold Zcd at h;split at h;rotate_left;simp at h;rename_i e d k1 n A o q;split at h
 ·rename_i u z;obtain⟨a,b,c,g⟩:=ty_sl A z;split at h;rotate_left;simp at h;rename_i G f;split at h
  ·rename_i w xs;split at h;rotate_left;simp at h;rename_i s;obtain⟨y,L,h⟩:=bind_some h;obtain⟨F,H,K⟩:=Zin L;refine⟨_,[true], ?_,by simp,ZL.pure (Ze rfl),h⟩;simp only[Zf,Zb j q,Zb j o,TV.enc,Zd.encE,g,Zs f,s,if_true,Zk.enc,Zot];rw[ZfN K,ZaH I,Zor,decide_eq_true (⟨F,H⟩:0<=n/\n < (xs.length:Int))]
  ·rename_i id m;split at h
   ·rename_i w xs fix p;split at h;rotate_left;simp at h;rename_i s;obtain⟨l,h⟩:=Zi h;refine⟨_,[_], ?_,Zw l,ZL.pure (Ze rfl),h⟩;simp only[Zf,Zb j q,Zb j o,TV.enc,Zd.encE,g,Zs f,Zc p,ZI,s,if_true,Zk.enc,Zot,Zbg B o p,Zok]
   ·rename_i w c v xs lo E p;split at h;rotate_left;simp at h;rename_i s;obtain⟨l,h⟩:=Zi h;refine⟨_,[_], ?_,Zw l,ZL.pure (Ze rfl),h⟩;simp only[Zf,Zb j q,Zb j o,TV.enc,Zd.encE,g,Zs f,Zc p,Zfb,s,if_true,Zk.enc,Zot,ZgL B o p,Zok]
   ·simp at h
  ·rename_i id M len;split at h;rotate_left;simp at h;rename_i w xs fix p;split at h;rotate_left;simp at h;rename_i s;obtain⟨l,h⟩:=Zi h;refine⟨_,[_], ?_,Zw l,ZL.pure (Ze rfl),h⟩;simp only[Zf,Zb j q,Zb j o,TV.enc,Zd.encE,g,Zs f,Zc p,ZI,s,if_true,Zk.enc,Zot]
  ·simp at h
 ·rename_i m u z;obtain⟨a,b,c,g⟩:=ty_arr A z;split at h;rotate_left;simp at h;rename_i G f;split at h
  ·rename_i cs;obtain⟨l,h⟩:=Zi h;cases hm:Nat.blt 8 m with
   |true=>
    rw[hm,cond_true]at h;split at h;rotate_left;simp at h;obtain⟨ls,J,C⟩:=Zga _ _ _ h;rw[<-J]at C;refine⟨_,[_], ?_,Zw l,ZL.pure (Ze rfl),C⟩;simp only[Zf,Zb j q,Zb j o,TV.enc,Zd.encE,g,Zs f,Zk.enc,Zot,Zos]
   |false=>
    rw[hm,cond_false]at h;refine⟨_,[_], ?_,Zw l,ZL.pure (Ze rfl),h⟩;simp only[Zf,Zb j q,Zb j o,TV.enc,Zd.encE,g,Zs f,Zk.enc,Zot,Zos]
  ·obtain⟨l,h⟩:=Zi h;refine⟨_,[_], ?_,Zw l,ZL.pure (Ze rfl),h⟩;simp only[Zf,Zb j q,Zb j o,TV.enc,Zd.encE,g,Zs f,Zk.enc,Zot]
  ·simp at h
 ·simp at h
theorem ZjR (b:TOk X) (p:T.Inv) {t:Nat} {x a:Operand} (h:Zhp X T t x a k=some r):Snd X T i (.index t x a) ty k r:=by unfold Zhp at h;split at h;rotate_left;simp at h;rename_i e s k1 n m d g;split at h;rotate_left;simp at h;rename_i j;obtain⟨y,c,h⟩:=bind_some h;obtain⟨l,f,o⟩:=Zin c;refine⟨_,[true], ?_,by simp,ZL.pure (Zah _ _),h⟩;simp only[Zf,Zb b g,Zb b d,TV.enc,Zd.encE,Zt m,j,Zk.enc,Zot];rw[Zoo,o,decide_eq_true (⟨l,f⟩:0<=n/\n < (s.length:Int))];rfl
theorem Zdy (hX:TOk X) {a:Ty} (ha:a.isKey X.keys=true) (x y:El U.car a):P.key (U.encE a x) (U.encE a y)=Zl3 X.kq a x y:=by
 cases a<;>simp only[Ty.isKey,Znv]at ha
 ·rfl
 ·simp only[Zd.encE,P.key,P.eqv,P.eqc,if_true,Option.getD_some];rfl
 ·rfl
 ·obtain⟨p,q,r,s,h1,h2,h3⟩:=hX.kq _ (by simp_all) x y;grind[Zd.encE,ZhA,Zl3]
theorem Zc1 (hX:TOk X) {a:Ty} (ha:a.isKey X.keys=true) (x:El U.car a):Zam a.td (U.encE a x)=true:=by
 cases a<;>simp only[Ty.isKey,Znv]at ha
 ·rfl
 ·simp[Ty.td,Zd.encE,Zam,ZZ]
 ·rfl
 ·obtain⟨p,q,r,s,h1,_,_⟩:=hX.kq _ (by simp_all) x x;grind[Zd.encE,Ty.td,Zam]
theorem Zit (f:TOk X) {a b:Ty} (c:a.isKey X.keys=true) (x:El U.car a):∀d:List (El U.car a×El U.car b),(d.map fun e=>(U.encE a e.1,U.encE b e.2)).find? (fun e=>P.key (U.encE a x) e.1)=(d.find? fun e=>Zl3 X.kq a x e.1).map fun e=>(U.encE a e.1,U.encE b e.2)
 | []=>rfl
 |e::r=>by
  simp only[Zn6,List.find?_cons,Zdy f c];split
  ·rfl
  ·exact Zit f c x r
theorem Zih (f:TOk X) {a b:Ty} (d:a.isKey X.keys=true) (x:El U.car a) (c:List (El U.car a×El U.car b)):Zbq (c.map fun e=>(U.encE a e.1,U.encE b e.2)) (U.encE a x)=(Zhx X.kq c x).map (U.encE b):=by unfold Zbq Zhx;rw[Zit f d];cases c.find? fun e=>Zl3 X.kq a x e.1<;>rfl
theorem Zmr (f:TOk X) {a b:Ty} (d:a.isKey X.keys=true) (x:El U.car a) (y:El U.car b) (c:List (El U.car a×El U.car b)):ZjD (c.map fun e=>(U.encE a e.1,U.encE b e.2)) (U.encE a x) (U.encE b y)=(setB X.kq c x y).map fun e=>(U.encE a e.1,U.encE b e.2):=by
 grind[ZjD,setB,List.any_map,Zdy,List.map_congr_left]
theorem ZmU (f:TOk X) {a b:Ty} (d:a.isKey X.keys=true) (x:El U.car a) (c:List (El U.car a×El U.car b)):ZkY (c.map fun e=>(U.encE a e.1,U.encE b e.2)) (U.encE a x)=(delB X.kq c x).map fun e=>(U.encE a e.1,U.encE b e.2):=by
 grind[ZkY,delB,List.filter_congr,Zdy]
theorem ZmJ (g:TOk X) {t:Nat} {x:Operand} {d:TV U} (i:evT X T.slots t x=some d) {l:Lf U.car} (h:mapT T d=some l) {a b:Ty} {c:List (El U.car a×El U.car b)} (f:l.as (.map a b)=some c):
  ZfI T.enc.objs (ev X.E T.enc.slots t x)=some (a.td,c.map fun e=>(U.encE a e.1,U.encE b e.2)):=by
 rw[Zb g i];unfold mapT at h;split at h
 ·cases h;have:=ZM f;cases this;rfl
 ·split at h;rotate_left;simp at h;rename_i j;cases h;have:=ZM f;cases this;grind[TV.enc,ZfI,Z5,Zc]
 simp_all
theorem Zhz (i:UOk U) (c:TOk X) (g:T.Inv) {t f:Nat} {x:Operand} {d:TV U} (b:evT X T.slots t x=some d) {l:Lf U.car} (h:keyL X T f d=some l) {a:Ty} {key:El U.car a} (e:l.as a=some key):(ev X.E T.enc.slots t x).toP T.enc.objs 1=some (U.encE a key):=by unfold keyL at h;split at h;rotate_left;simp at h;rw[Zb c b,Zd2 i (ZA g b) h 0,ZM e];rfl
theorem ZiK (H:UOk U) (j:TOk X) (F:T.Inv) {t:Nat} {m q:Operand} {v:Bool} (h:ZfC X T t m q v k=some r):Snd X T i (.lookup t m q v) ty k r:=by
 unfold ZfC at h;split at h;rotate_left;simp at h;rename_i e C;split at h;rotate_left;simp at h;rename_i Q I a b E _;obtain⟨N,O,M,n⟩:=ZlR C E;split at h;rotate_left;simp at h;rename_i p P R d J D;split at h;rotate_left;simp at h;rename_i L lk G w u x;split at h;rotate_left;simp at h;rename_i y key z s f K;split at h;rotate_left;simp at h;rename_i B;have l:=j.zl I p G d x;rw[ZM K]at l;have c:U.encE b z=p.ti.zeroP:=l;have A:((X.E.keyTD t).same a.td&&Zam a.td (U.encE a key))=true:=by grind[Zc1]
 have g:=ZmJ j J w s;have o:=Zhz H j F D u f;cases v
 ·refine⟨_,[], ?_,by simp,ZL.pure (Zah _ _),h⟩;simp only[Zf,n,Zs d,g,o,A,if_true,Zih j B.1,Zk.enc,Zot,TV.enc];cases Zhx X.kq y key<;>simp[c]
 ·refine⟨_,[], ?_,by simp,ZL.pure (Ze (by simp[TV.fulls,TV.fullsL])),h⟩;simp only[Zf,n,Zs d,g,o,A,if_true,Zih j B.1,Zk.enc,Zot,TV.enc,TV.encs];cases Zhx X.kq y key<;>simp[c,Zd.encE]
theorem ZjG (p:UOk U) (n:TOk X) (o:T.Inv) {t:Nat} {m q v:Operand} (h:Zbe X T t m q v k=some r):
  ∃e cs,Z6 X.E T.enc.slots T.enc.objs t m q v=some (e.enc cs)/\(∀q∈cs,q=true)/\ZL T i e/\k e=some r:=by
 unfold Zbe at h;split at h;rotate_left;simp at h;rename_i e w;split at h;rotate_left;simp at h;rename_i W R a b A _;obtain⟨Q,V,L,E⟩:=ZlR w A;split at h;rotate_left;simp at h;rename_i I id Y O F G x B;split at h;rotate_left;simp at h;rename_i P b' z lk s K f l;split at h;rotate_left;simp at h;rename_i M key y d c C;split at h;rotate_left;simp at h;rename_i S;have g:=ZM d;cases g;have N:((X.E.keyTD t).same a.td&&Zam a.td (U.encE a key))=true:=by grind[Zc1]
 have H:=Zhz p n o x f c;have j:=Zd2 p (ZA o B) l 7;rw[ZM C]at j;have D:ev X.E T.enc.slots 0 m= .map id:=by rw[Zb n G];rfl
 refine⟨_,[], ?_,by simp,Zcj rfl (fun J u=>by cases u) (fun _=>by trivial),h⟩;grind[Z6,Z5,depth,Zd.encL,Zk.enc,TV.enc,Zc,Zb,Zmr]
theorem ZiL (n:UOk U) (f:TOk X) (l:T.Inv) {t u:Nat} {m q:Operand} (h:ZfD X T t u m q k=some r):∃e cs,Zek X.E T.enc.objs [t,u] [ev X.E T.enc.slots t m,ev X.E T.enc.slots u q]=some (e.enc cs)/\(∀q∈cs,q=true)/\ZL T i e/\k e=some r:=by
 unfold ZfD at h;split at h;rotate_left;simp at h;rename_i e id D x p j;split at h;rotate_left;simp at h;rename_i C E a b y lk z w d;split at h;rotate_left;simp at h;rename_i key c;split at h;rotate_left;simp at h;rename_i B;have A:((X.E.keyTD t).same a.td&&Zam a.td (U.encE a key))=true:=by grind[Zc1]
 have s:=Zhz n f l j d c;have o:ev X.E T.enc.slots t m= .map id:=by rw[Zb f p];rfl
 refine⟨_,[], ?_,by simp,Zcj rfl (fun v g=>by cases g) (fun _=>by trivial),h⟩;grind[Zek,Z5,Zk.enc,TV.enc,Zt,Zc,ZmU]
theorem ZjQ (a:TOk X) (f:T.Inv) {t:Nat} {x:Operand} (h:Zho X T i t x k=some r):Snd X T i (.range t x) ty k r:=by unfold Zho at h;split at h;rotate_left;simp at h;rename_i e s d b;split at h;rotate_left;simp at h;rename_i c;refine⟨_,[], ?_,by simp,ZdA rfl (fun _=>by trivial),h⟩;simp only[Zf,Zt d,c,Zb a b,TV.enc,Zd.encE,Zk.enc,Zn6,Zot,Zb5]
theorem Zk5 (d:TOk X) (f:T.Inv) {x:Operand} (h:Zj6 X T x k=some r):Snd X T i (.next x true) ty k r:=by
 unfold Zj6 at h;split at h;rotate_left;simp at h;rename_i id e;split at h;rotate_left;simp at h;rename_i s a g
 by_cases hp:a < s.length
 ·rw[decide_eq_true hp]at h;refine⟨_,[], ?_,by simp,Zcj (by simp[TV.fulls,TV.fullsL]) (fun c b=>by cases b) (fun _=>by trivial),h⟩;simp_all[Zf,TV.enc,TV.encs,Zd.encE,Zb5,Zk.enc,Zb,Zc]
 ·rw[decide_eq_false hp]at h;refine⟨_,[], ?_,by simp,ZL.pure (Ze (by simp[TV.fulls,TV.fullsL])),h⟩;simp_all[Zf,TV.enc,TV.encs,Zd.encE,Zb5,Zk.enc,Zb,Zc]
theorem Zhe (g:TOk X) (f:T.Inv) {x:Operand} {a:Nat} (h:ZdR X T x a k=some r):Snd X T i (.extract x a) ty k r:=by unfold ZdR at h;split at h;rotate_left;simp at h;rename_i vs c;split at h;rotate_left;simp at h;rename_i d b;refine⟨_,[], ?_,by simp,ZL.pure (fun q e=>ZA f c q (Zq.2 ⟨d,Zoe b,e⟩)),h⟩;simp_all[Zf,TV.enc,Zai,Zk.enc,Zb]
theorem Zmn (m:TOk X) (w:T.Inv) {t:Nat} {x:Operand} (h:Zmx X T t x k=some r):∃e cs,Zii X.E T.enc.objs [t] [ev X.E T.enc.slots t x]=some (e.enc cs)/\(∀q∈cs,q=true)/\ZL T i e/\k e=some r:=by
 unfold Zmx at h;split at h;rotate_left;simp at h;rename_i e d l o;have g:=Zb m o;split at h
 ·rename_i c;split at h;rotate_left;simp at h;refine⟨_,[], ?_,by simp,ZL.pure (Zah _ _),h⟩;grind[Zii,TV.enc,Zd.encE,Zf4,Zk.enc,Zt]
 ·rename_i u c;split at h
  ·refine⟨_,[], ?_,by simp,ZL.pure (Zah _ _),h⟩;grind[Zii,TV.enc,Zd.encE,Zf4,Zk.enc,Zt]
  ·refine⟨_,[], ?_,by simp,ZL.pure (Zah _ _),h⟩;grind[Zii,TV.enc,Zd.encE,Zf4,Zk.enc,Zt]
  ·refine⟨_,[], ?_,by simp,ZL.pure (Zah _ _),h⟩;grind[Zii,TV.enc,Zd.encE,Zf4,Zk.enc,Zt]
  ·split at h
   ·rename_i p;refine⟨_,[], ?_,by simp,ZL.pure (Zah _ _),h⟩;grind[Zii,TV.enc,Zd.encE,Zf4,Zk.enc,Zt,Zbg]
   ·rename_i p;refine⟨_,[], ?_,by simp,ZL.pure (Zah _ _),h⟩;grind[Zii,TV.enc,Zd.encE,Zf4,Zk.enc,Zt,ZgL]
   simp_all
  ·refine⟨_,[], ?_,by simp,ZL.pure (Zah _ _),h⟩;grind[Zii,TV.enc,Zd.encE,Zf4,Zk.enc,Zt]
  simp_all
 ·rename_i u v c;split at h;rotate_left;simp at h;rename_i a b s f;obtain⟨j,h⟩:=Zi h;refine⟨_,[_], ?_,Zw j,ZL.pure (Zah _ _),h⟩;unfold mapT at f;split at f
  ·simp only[ZnO]at f;cases f;simp only[Zii,Zt l,c,g,TV.enc,Zd.encE,Zf4,Zk.enc,Zot,Zor]
  all_goals grind[Zii,TV.enc,Z5,Zd.encE,Zf4,Zk.enc,Zt,Zc]
 ·rename_i n u c;obtain⟨j,h⟩:=Zi h;refine⟨_,[_], ?_,Zw j,ZL.pure (Zah _ _),h⟩;simp only[Zii,Zt l,c,Zf4,Zk.enc,Zot,TV.enc,Zd.encE]
 simp_all
theorem Zdx (k:T.Inv) {t:Nat} {x:Operand} {d:TV U} (m:TOk X) (g:evT X T.slots t x=some d) {u:Ty} {c:List (El U.car u)} (h:srcT T d u=some c):ZcP T.enc.objs (U.tsize u) d.enc=some (c.map (U.encE u)):=by
 unfold srcT at h;split at h
 ·split at h;rotate_left;simp at h;cases h;simp only[ZcP,TV.enc,Zd.encE,Zd.tsize,if_true,ZaR,ZoB];rfl
 ·rename_i j;split at h;rotate_left;simp at h;rename_i l f;split at h;rotate_left;simp at h;rename_i e b;cases h;have a:=ZcZ (ZA k g) f 1;rw[ZM b]at a;unfold ZcP;split
  ·rename_i s i;rw[i]at a;simp only[ZjK,ZnO,Zd.encL,Zd.encE,reduceCtorEq]at a
  ·simp only[a,Zd.encL,Zd.encE,if_true]
theorem Za7 {b:Type} (xs a:List b):List.append xs a=xs++a:=rfl
theorem Zh3 (z:TOk X) (w:T.Inv) {t:Nat} {s:Operand} {e:TT U} {d:TV U} (x:evT X T.slots t s=some d) (b:U.tsize e.ty=e.ti.size) {f:List (El U.car e.ty)} (h:appX T i e d f k=some r):
  ∃m cs,Zab T.enc.objs T.ep i e.ti d.enc (f.map (U.encE e.ty))=some (m.enc cs)/\(∀q∈cs,q=true)/\ZL T i m/\k m=some r:=by
 unfold appX at h;split at h
 ·obtain⟨c,h⟩:=Zi h;refine⟨_,[_], ?_,Zw c,Zbh rfl (by simp),h⟩;grind[Zab,TV.enc,Zk.enc,ZI,ZjC]
 ·split at h;rotate_left;simp at h;rename_i xs a;obtain⟨l,h⟩:=Zi h;obtain⟨v,h⟩:=Zi h;have:=ZM a;cases this;refine⟨_,[true], ?_,by simp,Zbh (by simp_all) (by simp),h⟩;have y:List.isEmpty f=false:=by simp_all
  have A:(Zoq xs+f.length)*max e.ti.bytes 1<=ZD:=by grind[ZjC]
  grind[Zab,TV.enc,Zk.enc,ZI,Za7,List.isEmpty_map]
 ·rename_i id n;split at h;rotate_left;simp at h;rename_i o j fix g;split at h;rotate_left;simp at h;rename_i xs a;obtain⟨c,h⟩:=Zi h;have:=ZM a;cases this;refine⟨_,[_], ?_,Zw c,Zbh (by simp_all) (by simp),h⟩;have u:n=Zoq xs:=Zbg w x g;simp only[Zab,TV.enc,Zc g,ZI,b,u,Zor,or_true,and_self,if_true,Zk.enc,Zn6,Zot,ZaZ,Za7,ZoA,ZjC,Zh1]
 ·rename_i id len;split at h;rotate_left;simp at h;rename_i o j g;split at h;rotate_left;simp at h;rename_i xs a;obtain⟨l,h⟩:=Zi h;obtain⟨c,h⟩:=Zi h;have:=ZM a;cases this;have p:len<=Zoq xs:=by simp_all
  refine⟨_,[_], ?_,Zw c,Zbh (by simp_all) (by simp),h⟩;simp only[Zab,TV.enc,Zc g,ZI,b,true_or,and_self,if_true,Zor,Zk.enc,Zn6,Zot,ZaZ,Za7,ZoA,ZjC,ZoG]
 simp_all
theorem ZiN (f:TOk X) (w:T.Inv) {t u:Nat} {s x:Operand} (h:ZfF X T i t u s x k=some r):
  ∃e cs,Zcm X.E T.ep i T.enc.objs [t,u] [ev X.E T.enc.slots t s,ev X.E T.enc.slots u x]=some (e.enc cs)/\(∀q∈cs,q=true)/\ZL T i e/\k e=some r:=by
 unfold ZfF at h;split at h;rotate_left;simp at h;rename_i e D d H c n p g;split at h;rotate_left;simp at h;rename_i j;split at h
 ·rename_i E;split at h;rotate_left;simp at h;rename_i L A;have b:=Zdx w f g A;rw[j]at b;have o:Zcm X.E T.ep i T.enc.objs [t,u] [ev X.E T.enc.slots t s,ev X.E T.enc.slots u x]=ZaT T.enc.objs T.ep i e.ti d.enc H.enc:=by unfold Zcm;simp only[Zax c,Zt n,Zb f p,Zb f g];revert E;cases D.ti.d<;>simp[srcTd]
  rw[o,ZaT,b];exact Zh3 f w p j h
 ·split at h;rotate_left;simp at h;rename_i k0 a z C K;split at h;rotate_left;simp at h;rename_i F y;obtain⟨G,h⟩:=Zi h;have l:∃v,X.get v=some e:=by unfold ZG.elem at c;split at c;rotate_left;simp at c;split at c;rotate_left;simp at c;exact⟨_,c⟩
  obtain⟨v,J⟩:=l;have m:=f.zl v e z J K;rw[ZM y]at m;obtain⟨I,cs,q1,B⟩:=Zh3 f w p j h;refine⟨I,cs, ?_,B⟩;rw[List.map_replicate,show U.encE e.ty F=e.ti.zeroP from m]at q1;unfold Zcm;simp only[Zax c,Zt n,Zb f p,Zb f g,C,TV.enc,Zd.encE,if_pos (of_decide_eq_true G)];exact q1
theorem Zk8 (f:TOk X) (o:T.Inv) {t u:Nat} {d s:Operand} (h:Zj9 X T t u d s k=some r):
  ∃e cs,Zjl X.E T.enc.objs [t,u] [ev X.E T.enc.slots t d,ev X.E T.enc.slots u s]=some (e.enc cs)/\(∀q∈cs,q=true)/\ZL T i e/\k e=some r:=by
 unfold Zj9 at h;split at h;rotate_left;simp at h;rename_i e B C p l g;split at h
 ·rename_i id n;split at h;rotate_left;simp at h;rename_i x xs j;split at h;rotate_left;simp at h;rename_i z c;have a:=Zdx o f g c;split at h;rotate_left;simp at h;rename_i b;have w:n=Zoq xs:=Zbg o l j;refine⟨_,[], ?_,by simp,Zcj (by simp[TV.fulls]) (fun y A=> ?_) (fun _=>by trivial),h⟩
  ·simp only[Zjl,Zax p,Zb f l,Zb f g,TV.enc,ZfW,Zc j,ZI,a,b.symm,if_true,Zk.enc,Zn6,Zot,w,Zor,Zd.encE,ZT];congr 4;simp only[List.take_zero,List.nil_append,List.length_take,Zor,Zok,ZoA,ZoG,Zos];grind[List.take_eq_take_iff,List.drop_eq_nil_of_le]
  grind[TO.len?]
 ·rename_i id m len;split at h;rotate_left;simp at h;rename_i x xs j;split at h;rotate_left;simp at h;rename_i z c;have a:=Zdx o f g c;split at h;rotate_left;simp at h;rename_i b;obtain⟨D,h⟩:=Zi h;have v:m+len<=Zoq xs:=by simp_all
  refine⟨_,[], ?_,by simp,Zcj (by simp[TV.fulls]) (fun y A=> ?_) (fun _=>by trivial),h⟩
  ·simp only[Zjl,Zax p,Zb f l,Zb f g,TV.enc,ZfW,Zc j,ZI,a,b.symm,if_true,Zk.enc,Zn6,Zot,Zor,Zd.encE,ZcQ,ZoG]
  grind[TO.len?,ZT]
 simp_all
theorem ZbW (b:TOk X):∀{xs:List Operand} {ts:List Nat} {a:List (TV U)},Zdt X T.slots xs ts=some a->ZY X.E T.enc.slots xs ts=TV.encs a
 | [],ts,a,h=>by cases ts<;>simp[Zdt]at h<;>subst h<;>rfl
 |x::xs,[],a,h=>by simp only[Zdt]at h;split at h;rotate_left;simp at h;rename_i d r c e;cases h;simp only[ZY,TV.encs,Zb b c,ZbW b e]
 |x::xs,t::ts,a,h=>by simp only[Zdt]at h;split at h;rotate_left;simp at h;rename_i d r c e;cases h;simp only[ZY,TV.encs,Zb b c,ZbW b e]
theorem Zeq (f:T.Inv):∀{xs:List Operand} {ts:List Nat} {c:List (TV U)},Zdt X T.slots xs ts=some c->∀d∈c,d.inv T.objs
 | [],ts,c,h=>by grind[Zdt]
 |x::xs,[],c,h=>by
  simp only[Zdt]at h;split at h;rotate_left;simp at h;rename_i d r g e;cases h;intro a b;rcases ZnD.1 b with rfl |b
  ·grind[ZA]
  ·exact Zeq f e a b
 |x::xs,t::ts,c,h=>by
  simp only[Zdt]at h;split at h;rotate_left;simp at h;rename_i d r g e;cases h;intro a b;rcases ZnD.1 b with rfl |b
  ·grind[ZA]
  ·exact Zeq f e a b
theorem ZlS (g:TOk X) (j:T.Inv) {mx:Bool} {args:List Operand} {a:List Nat} (h:opMM X T mx args a k=some r):
  ∃e cs,ZO X.E T.ep i T.enc.objs (if mx then .max else .min) a (ZY X.E T.enc.slots args a)=some (e.enc cs)/\(∀q∈cs,q=true)/\ZL T i e/\k e=some r:=by
 unfold opMM at h;split at h;rotate_left;simp at h;rename_i m c;split at h;rotate_left;simp at h;rename_i z l;split at h;rotate_left;simp at h;rename_i d b;obtain⟨q1,f⟩:=ZcB b;refine⟨_,[], ?_,by simp,ZL.pure (Ze f),h⟩;grind[ZO,Zk.enc,ZbW]
theorem snd (d:UOk U) (a:TOk X) (c:T.Inv) {g:Op} (h:ZmW X T i g ty k=some r):Snd X T i g ty k r:=by
 unfold ZmW at h;split at h
 ·exact Zk6 a c h
 ·exact ZiM a c h
 ·exact Zk4 a c h
 ·exact ZjV a c h
 ·exact Zmo d a c h
 ·exact ZjU d a c h
 ·exact ZeD d a c h
 ·exact Zk7 d a c h
 ·exact ZjO d a c h
 ·exact Zgd a c h
 ·exact Zmp d a c h
 ·exact snd_un a c h
 ·exact Zhf a c h
 ·exact Zge a c h
 ·exact Zhd a c h
 ·exact Zfu a c h
 ·exact ZjP a c h
 ·exact Zfw a c h
 ·exact ZjS d a c h
 ·exact Zfv d a c h
 ·exact ZjR a c h
 ·exact ZiK d a c h
 ·exact ZjG d a c h
 ·exact ZjG d a c h
 ·exact ZjQ a c h
 ·exact Zk5 a c h
 ·exact Zhe a c h
 ·rename_i b args j;unfold Snd Zf;split at h
  ·rename_i x t f e;simp only[f,e,ZO,ZY];exact Zmn a c h
  ·rename_i s x t u f e;simp only[f,e,ZO,ZY];exact ZiN a c h
  ·rename_i s x t u f e;simp only[f,e,ZO,ZY];exact Zk8 a c h
  ·exact ZlS (mx:=true) a c h
  ·exact ZlS (mx:=false) a c h
  ·rename_i s x t u f e;simp only[f,e,ZO,ZY];exact ZiL d a c h
  ·simp at h
 ·simp at h
end
end Eng
namespace Eng
open Go
section
variable {U:Zd}
def ZlW (T:TS U) (d:TV U):Option (TV U):=
 if (d.enc.ids T.enc.objs depth).all T.fz then match d with
  | .ptr id i j=>match T.objs id with
   |some (.box cs)=>if i=0 then match Zj T.lf1 (cs.drop j)with
    |some ls=>some (.pp ls)
    |none=>none
    else none
   |_=>none
  |d=>match T.lf1 d with
   |some l=>some (lv l)
   |none=>none
 else none
def asRpT (T:TS U) (pi:List (Id×Id)) (id:Id):Option (TV U):=match T.objs id with
 |some (.box [d,.map m])=>if (T.fz id&&(d.enc.ids T.enc.objs depth).all T.fz)&& !T.fz m then match T.lf1 d,ren pi m with
  |some x,some m'=>some (.rp (some x) m')
  |_,_=>none
  else none
 |_=>none
def TV.can (T:TS U) (pi:List (Id×Id)):Nat->TV U->Option (TV U)
 |_,.v t x=>some (.v t x)
 |_,.pp cs=>some (.pp cs)
 |_,.nilp=>some .nilp
 |_,.nilfn=>some .nilfn
 |_,.dead=>some .dead
 |_,.undef=>some .undef
 |_,.nils t=>some (.nils t)
 |_,.clip t xs=>some (.clip t xs)
 |_,.full id n=>match ren pi id with
  |some c=>some (.full c n)
  |none=>ZlW T (.full id n)
 |_,.sl id off len=>match ren pi id with
  |some c=>some (.sl c off len)
  |none=>ZlW T (.sl id off len)
 |_,.map id=>match ren pi id with
  |some c=>some (.map c)
  |none=>ZlW T (.map id)
 |_,.it id=>match ren pi id with
  |some c=>some (.it c)
  |none=>none
 |_,.ptr id i j=>match ren pi id with
  |some c=>some (.ptr c i j)
  |none=>(ZlW T (.ptr id i j)).or (if i=0/\j=0 then asRpT T pi id else none)
 |_,.rp x id=>match ren pi id with
  |some c=>some (.rp x c)
  |none=>none
 |n+1,.agg cs=>match Zj (TV.can T pi n) cs with
  |some d=>some (.agg d)
  |none=>none
 |n+1,.tup cs=>match Zj (TV.can T pi n) cs with
  |some d=>some (.tup d)
  |none=>none
 |n+1,.fn f a b=>match Zj (TV.can T pi n) a,Zj (TV.can T pi n) b with
  |some a',some b'=>some (.fn f a' b')
  |_,_=>none
 |_,_=>none
def TO.can (T:TS U) (pi:List (Id×Id)):TO U->Option (TO U)
 | .box cs=>match Zj (TV.can T pi depth) cs with
  |some a=>some (.box a)
  |none=>none
 | .gone=>none
 |o=>some o
theorem Zlf (n:UOk U) {T:TS U} {d a:TV U} (hi:d.inv T.objs) (g:∀id cs,T.objs id=some (.box cs)->∀c∈cs,c.inv T.objs) (h:ZlW T d=some a):D.pur T.enc.objs T.enc.fz d.enc=some a.enc/\a.fulls=[]:=by
 unfold ZlW at h;unfold D.pur;split at h;rotate_left;simp at h;rename_i i;rw[if_pos (show ((d.enc.ids T.enc.objs depth).all T.enc.fz)=true from i)];split at h
 ·rename_i id i' j;split at h;rotate_left;simp at h;rename_i cs e;split at h;rotate_left;simp at h;rename_i m;subst m;split at h;rotate_left;simp at h;rename_i ls b;cases h;have:=Zcw 7 (fun c k=>g id cs e c (List.mem_of_mem_drop k)) b;rw[ZbE]at this;simp only[TV.enc,depth,D.toP,Zc e,ZaB,if_true,this,Zow];exact⟨trivial,rfl⟩
 ·split at h;rotate_left;simp at h;rename_i l f;cases h;rw[ZcZ hi f depth];exact⟨rfl,rfl⟩
theorem ZhO (lk:Id->Option Obj) (a:Id->Bool) (pi:List (Id×Id)) (n:Nat) (x:P):D.can lk a pi n (.p x)=some (.p x):=by cases n<;>rfl
theorem Zix (hU:UOk U) {T:TS U} (Q:∀id cs,T.objs id=some (.box cs)->∀c∈cs,c.inv T.objs) {pi:List (Id×Id)}:∀(n:Nat) (d i:TV U),d.inv T.objs->d.can T pi n=some i->
  d.enc.can T.enc.objs T.enc.fz pi n=some i.enc/\∀q∈i.fulls,∃id,ren pi id=some q.1/\(id,q.2)∈d.fulls:=by
 have o:∀(d i:TV U),d.inv T.objs->ZlW T d=some i->D.pur T.enc.objs T.enc.fz d.enc=some i.enc/\∀q∈i.fulls,∃id,ren pi id=some q.1/\(id,q.2)∈d.fulls:=fun d i hi h=>by obtain⟨F,G⟩:=Zlf hU hi Q h;exact⟨F,by rw[G];simp⟩
 have base:∀(n:Nat) (d i:TV U),(∀cs,d≠ .agg cs)->(∀cs,d≠ .tup cs)->(∀f a b,d≠ .fn f a b)->d.inv T.objs->d.can T pi n=some i->
   d.enc.can T.enc.objs T.enc.fz pi n=some i.enc/\∀q∈i.fulls,∃id,ren pi id=some q.1/\(id,q.2)∈d.fulls:=by
  intro n d i F G h3 hi h;cases d with
  |v t x=>simp only[TV.can,ZnO]at h;subst h;exact⟨ZhO _ _ _ _ _,by simp[TV.fulls]⟩
  |pp cs=>simp only[TV.can,ZnO]at h;subst h;exact⟨ZhO _ _ _ _ _,by simp[TV.fulls]⟩
  |nilp=>simp only[TV.can,ZnO]at h;subst h;exact⟨ZhO _ _ _ _ _,by simp[TV.fulls]⟩
  |nilfn=>simp only[TV.can,ZnO]at h;subst h;exact⟨ZhO _ _ _ _ _,by simp[TV.fulls]⟩
  |dead=>simp only[TV.can,ZnO]at h;subst h;exact⟨by cases n<;>rfl,by simp[TV.fulls]⟩
  |undef=>simp only[TV.can,ZnO]at h;subst h;exact⟨by cases n<;>rfl,by simp[TV.fulls]⟩
  |nils t=>simp only[TV.can,ZnO]at h;subst h;exact⟨by cases n<;>rfl,by simp[TV.fulls]⟩
  |clip t xs=>simp only[TV.can,ZnO]at h;subst h;exact⟨by cases n<;>rfl,by simp[TV.fulls]⟩
  |full id m=>
   simp only[TV.can]at h;split at h
   ·rename_i l g;cases h;refine⟨by cases n<;>simp only[TV.enc,D.can,g],fun q e=> ?_⟩;simp only[TV.fulls,List.mem_singleton]at e;subst e;exact⟨id,g,by simp[TV.fulls]⟩
   ·rename_i g;obtain⟨q1,k⟩:=o _ _ hi h;exact⟨by cases n<;>simp only[TV.enc,D.can,g]<;>exact q1,k⟩
  |sl id aa len=>
   simp only[TV.can]at h;split at h
   ·rename_i l g;cases h;exact⟨by cases n<;>simp only[TV.enc,D.can,g],by simp[TV.fulls]⟩
   ·rename_i g;obtain⟨q1,k⟩:=o _ _ hi h;exact⟨by cases n<;>simp only[TV.enc,D.can,g]<;>exact q1,k⟩
  |map id=>
   simp only[TV.can]at h;split at h
   ·rename_i l g;cases h;exact⟨by cases n<;>simp only[TV.enc,D.can,g],by simp[TV.fulls]⟩
   ·rename_i g;obtain⟨q1,k⟩:=o _ _ hi h;exact⟨by cases n<;>simp only[TV.enc,D.can,g]<;>exact q1,k⟩
  |it id=>
   simp only[TV.can]at h;split at h;rotate_left;simp at h;rename_i l g;cases h;exact⟨by cases n<;>simp only[TV.enc,D.can,g],by simp[TV.fulls]⟩
  |ptr id a j=>
   simp only[TV.can]at h;split at h
   ·rename_i l g;cases h;exact⟨by cases n<;>simp only[TV.enc,D.can,g],by simp[TV.fulls]⟩
   ·rename_i g;cases N:ZlW T (.ptr id a j)with
    |some y=>
     rw[N]at h;simp only[Option.or]at h;obtain rfl:=ZnN h;obtain⟨q1,k⟩:=o _ _ hi N;have q1:D.pur T.enc.objs T.enc.fz (.ptr id a j)=some y.enc:=q1;exact⟨by cases n<;>simp only[TV.enc,D.can,g,q1,Option.or],k⟩
    |none=>
     rw[N]at h;simp only[Option.or]at h;split at h
     case isFalse=>simp at h
     rename_i S;unfold asRpT at h;split at h
     case h_2=>simp at h
     rename_i c m K;split at h
     case isFalse=>simp at h
     rename_i V;split at h
     case h_2=>simp at h
     rename_i x m' X hm;cases h;have ic:c.inv T.objs:=Q id _ K c (by simp);have W:D.asRp T.enc.objs T.enc.fz pi id=some (.rp (some (U.encL x)) m'):=by unfold D.asRp;simp only[Zc K,ZaB,TV.encs,TV.enc];rw[if_pos (show (T.enc.fz id&&(c.enc.ids T.enc.objs depth).all T.enc.fz)=true from (Bool.and_eq_true_iff.1 V).1)];simp only[ZcZ ic X depth,hm]
     have Y:D.pur T.enc.objs T.enc.fz (.ptr id a j)=none:=by obtain⟨rfl,rfl⟩:=S;unfold D.pur;rw[if_neg];intro E;have O:T.fz m=true:=ZnV.1 E m (by simp[depth,D.ids,Zc K,ZaB,TV.encs,TV.enc]);simp[O]at V
     refine⟨by cases n<;>simp only[TV.enc,D.can,g,Y,Option.or,if_pos S,W,Zow],by simp[TV.fulls]⟩
  |rp x id=>
   simp only[TV.can]at h;split at h;rotate_left;simp at h;rename_i l g;cases h;exact⟨by cases n<;>simp only[TV.enc,D.can,g],by simp[TV.fulls]⟩
  |agg cs=>exact absurd rfl (F cs)
  |tup cs=>exact absurd rfl (G cs)
  |fn f a b=>exact absurd rfl (h3 f a b)
 intro n
 induction n with
 |zero=>
  intro d i hi h;refine base 0 d i ?_ ?_ ?_ hi h
  all_goals (intros;intro A;subst A;simp[TV.can]at h)
 |succ n H=>
  have p:∀(cs s:List (TV U)),(∀c∈cs,c.inv T.objs)->Zj (TV.can T pi n) cs=some s->Zj (D.can T.enc.objs T.enc.fz pi n) (TV.encs cs)=some (TV.encs s)/\∀q∈TV.fullsL s,∃id,ren pi id=some q.1/\(id,q.2)∈TV.fullsL cs:=by
   intro cs
   induction cs with
   |nil=>intro s _ h;simp[Zj]at h;subst h;exact⟨rfl,by simp[TV.fullsL]⟩
   |cons c cs L=>
    intro s hi h;simp only[Zj]at h;split at h;rotate_left;simp at h;rename_i y Z F G;cases h;obtain⟨q1,k⟩:=H c y (hi c (by simp)) F;obtain⟨C,M⟩:=L Z (fun a E=>hi a (by simp[E])) G;refine⟨by simp only[TV.encs,Zj,q1,C],fun q e=> ?_⟩;simp only[TV.fullsL,Zn7]at e|-
    rcases e with e |e
    ·obtain⟨id,B,w⟩:=k q e;exact⟨id,B,.inl w⟩
    ·obtain⟨id,B,w⟩:=M q e;exact⟨id,B,.inr w⟩
  intro d i hi h;cases d with
  |agg cs=>
   simp only[TV.can]at h;split at h;rotate_left;simp at h;rename_i s z;cases h;obtain⟨q1,k⟩:=p cs s (ZhU hi) z;refine⟨?_,k⟩;rw[TV.enc,TV.enc];rcases ZdW (TV.encs cs)with ⟨u,R,I⟩ |I
   ·rw[I,ZhO];rw[R]at q1;have:Zj (D.can T.enc.objs T.enc.fz pi n) (u.map .p)=some (u.map .p):=by
     clear q1 R I
     induction u with
     |nil=>rfl
     |cons x r H=>simp only[Zn6,Zj,ZhO,H]
    rw[this,ZnO]at q1;rw[<-q1,Zcu]
   ·rw[I];simp only[D.can,q1]
  |tup cs=>
   simp only[TV.can]at h;split at h;rotate_left;simp at h;rename_i s z;cases h;obtain⟨q1,k⟩:=p cs s (fun c A q e=>hi q (Zq.2 ⟨c,A,e⟩)) z;exact⟨by simp only[TV.enc,D.can,q1],k⟩
  |fn f a b=>
   simp only[TV.can]at h;split at h;rotate_left;simp at h;rename_i a' b' E J;cases h;obtain⟨q1,k⟩:=p a a' (fun c A q e=>hi q (by simp only[TV.fulls,Zn7];exact .inl (Zq.2 ⟨c,A,e⟩))) E;obtain⟨C,M⟩:=p b b' (fun c A q e=>hi q (by simp only[TV.fulls,Zn7];exact .inr (Zq.2 ⟨c,A,e⟩))) J;refine⟨?_,fun q e=> ?_⟩
   ·rw[TV.enc,TV.enc];unfold fnD;cases hpa:Zj D.pure? (TV.encs a)with
    |none=>simp only[D.can,q1,C];rfl
    |some x=>
     cases hpb:Zj D.pure? (TV.encs b)with
     |none=>simp only[D.can,q1,C];rfl
     |some y=>
      have key:∀(u:List P),Zj (D.can T.enc.objs T.enc.fz pi n) (u.map .p)=some (u.map .p):=by
       intro u
       induction u with
       |nil=>rfl
       |cons x r H=>simp only[Zn6,Zj,ZhO,H]
      rw[Zx hpa,key,ZnO]at q1;rw[Zx hpb,key,ZnO]at C;rw[<-q1,<-C,ZaF,ZaF];rfl
   ·simp only[TV.fulls,Zn7]at e|-
    rcases e with e |e
    ·obtain⟨id,B,w⟩:=k q e;exact⟨id,B,.inl w⟩
    ·obtain⟨id,B,w⟩:=M q e;exact⟨id,B,.inr w⟩
  |_=>exact base (n+1) _ _ (by simp) (by simp) (by simp) hi h
def mkT (ep:Nat) (ls:List (Nat×TV U)) (lo:List (Id×TO U)):TS U:={slots:=Zaz .dead ls,objs:=Zg lo,fz:=fun _=>false,ep:=ep}
theorem ZcF:∀(ks:List Nat) (a:List (TV U)) (x:Nat),(Zaz TV.dead (ks.zip a) x).enc=Zaz D.dead (ks.zip (TV.encs a)) x
 | [],a,x=>rfl
 |k::ks,[],x=>rfl
 |k::ks,d::a,x=>by
  simp only[ZoD,TV.encs,Zaz];split
  ·rfl
  ·exact ZcF ks a x
theorem Zb8:∀(a:List Id) (os:List (TO U)) (x:Id),ZiV (Zg (a.zip os) x)=Zg (a.zip (os.map TO.enc)) x
 | [],os,x=>rfl
 |k::ks,[],x=>rfl
 |k::ks,d::ds,x=>by
  simp only[ZoD,Zn6,Zg];split
  ·rfl
  ·exact Zb8 ks ds x
theorem ZmF (ep:Nat) (ks:List Nat) (b:List (TV U)) (a:List Id) (os:List (TO U)):(mkT ep (ks.zip b) (a.zip os)).enc=mkS ep (ks.zip (TV.encs b)) (a.zip (os.map TO.enc)):=by
 refine ZeQ ?_ ?_ rfl rfl
 ·funext x;exact ZcF ks b x
 ·funext x;exact Zb8 a os x
mutual
def TV.own (T:TS U):TV U->List Id
 | .full id _ | .sl id _ _ | .map id | .it id | .rp _ id=>if T.fz id then []else [id]
 | .ptr id _ _=>if T.fz id then match T.objs id with
  |some (.box [_,.map m])=>if T.fz m then []else [m]
  |_=>[]
  else [id]
 | .agg cs=>TV.ownL T cs
 | .tup cs=>TV.ownL T cs
 | .fn _ a b=>TV.ownL T a++TV.ownL T b
 |_=>[]
def TV.ownL (T:TS U):List (TV U)->List Id
 | []=>[]
 |d::r=>d.own T++TV.ownL T r
end
def Zc6 (T:TS U):Nat->List Id->List Id->List Id
 |0,_,acc=>acc
 |_+1,[],acc=>acc
 |n+1,id::r,acc=>if acc.contains id then Zc6 T n r acc else match T.objs id with
  |some (.box cs)=>Zc6 T n (r++TV.ownL T cs) (acc++[id])
  |some _=>Zc6 T n r (acc++[id])
  |none=>Zc6 T n r acc
def Zlk (a:List Nat):Nat->List Id->List (Id×Id)
 |_,[]=>[]
 |c,id::r=>if id.1=0/\id.2.2=0/\a.contains id.2.1=true then (id,id)::Zlk a c r else ((0,c,1),id)::Zlk a (c+1) r
def Zgv (a:List Nat) (n:Nat):List Id:=a.map (fun k=>(0,k,0))++(List.range' 1 (n - a.length)).map fun c=>(0,c,1)
def Zl4:Option (TO U)->Bool
 |some .gone=>false
 |some _=>true
 |none=>false
def Zl6 (T:TS U) (s:Nat):List Id:=
 match s / 100000 with
 |0=>(T.slots s).enc.ids T.enc.objs depth
 |2=>((T.slots (s % 100000)).enc.ids T.enc.objs depth).dropLast
 |_=>((T.slots (s % 100000)).enc.ids T.enc.objs depth).tail
def ZkG (T:TS U) (a live frz:List Nat):Option (List (TV U)×List (TO U)):=
 let fs:=frz.flatMap (Zl6 T)
 let T1:=T.freezeL fs
 let pi:=Zlk a 1 (Zc6 T1 200 (a.map (fun k=>(0,k,0))++TV.ownL T1 (live.map T1.slots)) [])
 if (fs.all fun id=>Zl4 (T.objs id))&&Zgp T1.enc pi 1&&ZlZ pi then
  match Zj (fun t=>(T1.slots t).can T1 pi depth) live,Zj (fun x:Id×Id=>match T1.objs x.2 with |some o=>o.can T1 pi |none=>none) pi with
  |some ds,some os=>if pi.map (·.1)=Zgv a os.length then some (ds,os)else none
  |_,_=>none
 else none
def mkC (a live:List Nat) (b:List (TV U)) (os:List (TO U)):TS U:=mkT 1 (live.zip b) ((Zgv a os.length).zip os)
theorem Zj0 {pi:List (Id×Id)} (e:ZaA (pi.map (·.1))=true) {os:List (TO U)} {c d:Id} (h:ren pi d=some c) {j:Nat} (g:pi[j]? =some (c,d)):Zg ((pi.map (·.1)).zip os) c=os[j]? :=by
 clear h
 induction pi generalizing os j with
 |nil=>simp_all
 |cons x r f=>
  obtain⟨a,b⟩:=x;simp only[Zn6,ZaA,Znu,ZnV,decide_eq_true_eq]at e;cases os with
  |nil=>simp[Zg]
  |cons o os=>
   simp only[Zn6,ZoD,Zg];grind
theorem ZhC {T:TS U} (h:T.Inv) (fs:List Id):(T.freezeL fs).Inv:=⟨h.slots,h.objs⟩
theorem Zjn (hU:UOk U) {C:Ctx} {r:Fm} {G:Zg6} {k:List Item} {T:TS U} (hT:T.Inv) {lent live frz:List Nat} {ds:List (TV U)} {os:List (TO U)} (h:ZkG T lent live frz=some (ds,os)):
  (mkC lent live ds os).Inv/\(AWP C r G k (mkC lent live ds os).enc->AWP C r G k T.enc):=by
 unfold ZkG at h;dsimp only at h;generalize hfs:frz.flatMap (Zl6 T)=fs at h;generalize hpi:Zlk lent 1 (Zc6 (T.freezeL fs) 200 (lent.map (fun k=>(0,k,0))++TV.ownL (T.freezeL fs) (live.map (T.freezeL fs).slots)) [])=pi at h;split at h;rotate_left;simp at h;rename_i hc;simp only[Znu,ZnV]at hc;obtain⟨⟨hhere,hok⟩,hkeep⟩:=hc;split at h;rotate_left;simp at h;rename_i ds' os' hds hos;split at h;rotate_left;simp at h;rename_i hids;simp only[ZnO,ZnP]at h;obtain⟨rfl,rfl⟩:=h;have hT1:=ZhC hT fs;have hb:∀id cs,(T.freezeL fs).objs id=some (.box cs)->∀c∈cs,c.inv (T.freezeL fs).objs:=fun id cs ho=>hT1.objs id _ ho
 have hn1:ZaA (pi.map (·.1))=true:=by simp only[Zgp,Znu]at hok;exact hok.1.1
 have pdsL:Zj (fun t=>((T.freezeL fs).enc.slots t).can (T.freezeL fs).enc.objs (T.freezeL fs).enc.fz pi depth) live=some (TV.encs ds')/\∀d∈ds',∃t∈live,∀q∈d.fulls,∃id,ren pi id=some q.1/\(id,q.2)∈((T.freezeL fs).slots t).fulls:=by
  clear hpi hids
  induction live generalizing ds' with
  |nil=>simp[Zj]at hds;subst hds;exact⟨rfl,by simp⟩
  |cons t live ih=>
   simp only[Zj]at hds;split at hds;rotate_left;simp at hds;rename_i y ys h1 h2;cases hds;obtain⟨q1,q2⟩:=Zix hU hb depth _ _ (hT1.slots t) h1;obtain⟨q3,q4⟩:=ih ys h2;refine⟨by simp only[Zj,TV.encs,q3];rw[show ((T.freezeL fs).enc.slots t)=((T.freezeL fs).slots t).enc from rfl,q1],fun d hd=> ?_⟩;rcases ZnD.1 hd with rfl |hd
   ·exact⟨t,by simp,q2⟩
   ·obtain⟨t',ht',hq⟩:=q4 d hd;exact⟨t',by simp[ht'],hq⟩
 have objC:∀(l:List (Id×Id)) (ol:List (TO U)),Zj (fun x:Id×Id=>match (T.freezeL fs).objs x.2 with |some o=>o.can (T.freezeL fs) pi |none=>none) l=some ol->
   Zj (fun x:Id×Id=>match (T.freezeL fs).enc.objs x.2 with |some o=>o.can (T.freezeL fs).enc.objs (T.freezeL fs).enc.fz pi |none=>none) l=some (ol.map TO.enc)/\
   ∀(j:Nat) (x:Id×Id) (o:TO U),l[j]? =some x->ol[j]? =some o->∃o0,(T.freezeL fs).objs x.2=some o0/\(∀n,o.len?=some n->o0=o)/\∀cs,o= .box cs->∃cs0,o0= .box cs0/\∀d∈cs,∃d0∈cs0,∀q∈d.fulls,∃id,ren pi id=some q.1/\(id,q.2)∈d0.fulls:=by
  intro l
  induction l with
  |nil=>intro ol h;simp[Zj]at h;subst h;exact⟨rfl,by simp⟩
  |cons x l ih=>
   intro ol h;simp only[Zj]at h;split at h;rotate_left;simp at h;rename_i o ol' h1 h2;cases h;obtain⟨q3,q4⟩:=ih ol' h2;split at h1;rotate_left;simp at h1;rename_i o0 ho;have he:(T.freezeL fs).enc.objs x.2=some o0.enc:=Zc ho;have main:o0.enc.can (T.freezeL fs).enc.objs (T.freezeL fs).enc.fz pi=some o.enc/\((∀n,o.len?=some n->o0=o)/\∀cs,o= .box cs->∃cs0,o0= .box cs0/\∀d∈cs,∃d0∈cs0,∀q∈d.fulls,∃id,ren pi id=some q.1/\(id,q.2)∈d0.fulls):=by
    cases o0 with
    |box cs0=>
     simp only[TO.can]at h1;split at h1;rotate_left;simp at h1;rename_i cs1 hcs;cases h1;have lst:∀(c0 c1:List (TV U)),(∀c∈c0,c.inv (T.freezeL fs).objs)->Zj (TV.can (T.freezeL fs) pi depth) c0=some c1->Zj (D.can (T.freezeL fs).enc.objs (T.freezeL fs).enc.fz pi depth) (TV.encs c0)=some (TV.encs c1)/\∀d∈c1,∃d0∈c0,∀q∈d.fulls,∃id,ren pi id=some q.1/\(id,q.2)∈d0.fulls:=by
      intro c0
      induction c0 with
      |nil=>intro c1 _ h;simp[Zj]at h;subst h;exact⟨rfl,by simp⟩
      |cons c c0 ihc=>
       intro c1 hi h;simp only[Zj]at h;split at h;rotate_left;simp at h;rename_i y ys h1 h2;cases h;obtain⟨a1,a2⟩:=Zix hU hb depth c y (hi c (by simp)) h1;obtain⟨a3,a4⟩:=ihc ys (fun a ha=>hi a (by simp[ha])) h2;refine⟨by simp only[TV.encs,Zj,a1,a3],fun d hd=> ?_⟩;rcases ZnD.1 hd with rfl |hd
       ·exact⟨c,by simp,a2⟩
       ·obtain⟨d0,hd0,hq⟩:=a4 d hd;exact⟨d0,by simp[hd0],hq⟩
     obtain⟨a1,a2⟩:=lst cs0 cs1 (hb x.2 cs0 ho) hcs;refine⟨by simp only[ZaB,Obj.can,a1],(fun n hq=>by cases hq),fun cs hq=> ?_⟩;cases hq;exact⟨cs0,rfl,a2⟩
    |gone=>simp[TO.can]at h1
    |arr t xs fix=>simp only[TO.can,ZnO]at h1;subst h1;exact⟨rfl,fun _ _=>rfl,fun cs hq=>by cases hq⟩
    |map a b kv=>simp only[TO.can,ZnO]at h1;subst h1;exact⟨rfl,fun _ _=>rfl,fun cs hq=>by cases hq⟩
    |sit s p=>simp only[TO.can,ZnO]at h1;subst h1;exact⟨rfl,fun _ _=>rfl,fun cs hq=>by cases hq⟩
    |own a b c d e f=>simp only[TO.can,ZnO]at h1;subst h1;exact⟨rfl,fun _ _=>rfl,fun cs hq=>by cases hq⟩
   refine⟨by simp only[Zj,he,main.1,q3,Zn6],fun j y o' hj hj'=> ?_⟩;cases j with
   |zero=>
    simp only[Zny,ZnO]at hj hj';subst hj hj';exact⟨o0,ho,main.2⟩
   |succ j=>exact q4 j y o' (by simpa using hj) (by simpa using hj')
 obtain⟨o1,o2⟩:=objC pi os' hos;have hlen:os'.length=pi.length:=(Zh hos).1;have carry:∀q,(∃id,ren pi id=some q.1/\Zgz (T.freezeL fs).objs (id,q.2))->Zgz (mkC lent live ds' os').objs q:=by
  rintro q ⟨id,hr,o,ho,hl⟩;have hm:=Zj1 hr;obtain⟨j,hj⟩:=List.mem_iff_getElem?.1 hm;have hjl:j < os'.length:=by rw[hlen];exact(ZnA.1 hj).1
  have hoj:os'[j]? =some os'[j]:=by simp[hjl]
  obtain⟨o0,h0,h00,_⟩:=o2 j _ _ hj hoj;refine⟨os'[j], ?_,fun n he=> ?_⟩
  ·show Zg ((Zgv lent os'.length).zip os') q.1=_;rw[<-hids,Zj0 hn1 hr hj,hoj]
  ·have:=h00 n he;dsimp only at h0 ho;rw[h0,ZnO]at ho;exact hl n (by rw[<-ho,this];exact he)
 refine⟨⟨fun kk=> ?_,fun id o ho=> ?_⟩,fun ha=> ?_⟩
 ·show TV.inv _ (Zaz TV.dead (live.zip ds') kk);rcases ZaS TV.dead (live.zip ds') kk with hq |hq
  ·rw[hq];exact Ze rfl
  ·have hm:=(List.of_mem_zip hq).2;obtain⟨t,_,hf⟩:=pdsL.2 _ hm;intro q hq';obtain⟨id,h1,h2⟩:=hf q hq';exact carry q ⟨id,h1,hT1.slots t _ h2⟩
 ·have ho':Zg ((Zgv lent os'.length).zip os') id=some o:=ho;have hmem:=List.of_mem_zip (Z1 ho');cases o with
  |box cs=>
   obtain⟨j,hj⟩:=List.mem_iff_getElem?.1 hmem.2;have hjl:j < pi.length:=by rw[<-hlen];exact(ZnA.1 hj).1
   obtain⟨o0,h0,_,hbx⟩:=o2 j pi[j] _ (by simp[hjl]) hj;obtain⟨cs0,rfl,hf⟩:=hbx cs rfl;intro d hd q hq;obtain⟨d0,hd0,hf⟩:=hf d hd;obtain⟨id',h1,h2⟩:=hf q hq;exact carry q ⟨id',h1,hb _ _ h0 d0 hd0 _ h2⟩
  |_=>trivial
 ·intro ρ S a w hrep hd;obtain⟨S',_,_,hfr,_⟩:=hrep.freeze fs (fun f hf=>by
   have:=hhere f hf;unfold Zl4 at this;split at this
   ·simp at this
   ·rename_i o hg ho;exact⟨o.enc,Zc ho,by
     intro he;cases o with
     |gone=>exact hg rfl
     |_=>simp[TO.enc]at he⟩
   ·simp at this)
  rw[<-Eng.freezeL_enc]at hfr;have h2:=hfr.canon (Nat.le_refl 1) hok hkeep o1 pdsL.1;rw[show (pi.map (·.1))=Zgv lent os'.length from hids]at h2;unfold mkC at ha;rw[ZmF]at ha;exact ha _ S' a w (h2.weakX fun _ h=>h.elim) hd
end
end Eng
namespace Eng
open Go
section
variable {U:Zd}
inductive TQ (U:Zd) where
 |l (x:Lf U.car)
 |ptr (cs:List (Lf U.car))
 |fn (f:Nat) (first caps:List (TQ U))
 |nilp |nilfn
mutual
def TQ.enc:TQ U->P
 | .l x=>U.encL x
 | .ptr cs=> .ptr (cs.map U.encL)
 | .fn f a b=> .fn f (TQ.encs a) (TQ.encs b)
 | .nilp=> .nilp
 | .nilfn=> .nilfn
def TQ.encs:List (TQ U)->List P
 | []=>[]
 |q::r=>q.enc::TQ.encs r
end
mutual
def TQ.tv:TQ U->TV U
 | .l x=>lv x
 | .ptr cs=> .pp cs
 | .fn f a b=> .fn f (TQ.tvs a) (TQ.tvs b)
 | .nilp=> .nilp
 | .nilfn=> .nilfn
def TQ.tvs:List (TQ U)->List (TV U)
 | []=>[]
 |q::r=>q.tv::TQ.tvs r
end
inductive ZP (U:Zd) where
 |p (q:TQ U)
 |box (cs:List (Lf U.car))
 |arr (t:Ty) (xs:List (El U.car t))
 |map (k v:Ty) (kv:List (El U.car k×El U.car v))
 |part (t:Ty) (xs:List (El U.car t)) (off len:Nat)
 |boxr (l:Lf U.car) (k:Nat)
 |hmap (k v:Ty) (kv:List (El U.car k×El U.car v))
def ZP.enc:ZP U->Arg
 | .p q=> .p q.enc
 | .box cs=> .box (cs.map U.encL)
 | .arr t xs=> .arr (U.tsize t) (xs.map (U.encE t))
 | .map k v a=> .map k.td (a.map fun e=>(U.encE k e.1,U.encE v e.2))
 | .part t xs b len=> .part (U.tsize t) (xs.map (U.encE t)) b len
 | .boxr l k=> .boxr (U.encL l) k
 | .hmap k v a=> .hmap k.td (a.map fun e=>(U.encE k e.1,U.encE v e.2))
def ZP.rk:ZP U->Option Nat
 | .boxr _ k=>some k
 |_=>none
theorem rk_enc (a:ZP U):a.enc.rk=a.rk:=by cases a<;>rfl
inductive TRV (U:Zd) where
 |p (l:Lf U.car)
 |own (t:Ty) (xs:List (El U.car t))
 |box (cs:List (Lf U.car))
 |map (k v:Ty) (kv:List (El U.car k×El U.car v))
 |view (k off len:Nat)
 |aown (pre:List (Lf U.car)) (t:Ty) (xs:List (El U.car t)) (post:List (Lf U.car)) (ow:Option (Nat×Ty×Nat))
def TRV.enc:TRV U->RV
 | .p l=> .p (U.encL l)
 | .own t xs=> .own (U.tsize t) (xs.map (U.encE t))
 | .box cs=> .box (cs.map U.encL)
 | .map k v c=> .map k.td (c.map fun e=>(U.encE k e.1,U.encE v e.2))
 | .view k b len=> .view k b len
 | .aown pre t xs a d=> .aown (pre.map U.encL) (U.tsize t) (xs.map (U.encE t)) (a.map U.encL) (d.map fun q=>(q.1,U.tsize q.2.1,q.2.2))
structure ZbL (U:Zd) where
 res:List (TRV U)
 outs:List (Nat×ZP U):=[]
def ZbL.enc (r:ZbL U):Ret:=⟨r.res.map TRV.enc,r.outs.map fun x=>(x.1,x.2.enc)⟩
structure SigR (U:Zd) where
 α:Type
 o:Option α
 give:α->ZbL U
structure ZjE (U:Zd) where
 pts:List Nat
 ms:List AM
 hs:List (Option Nat)
 sig:List (ZP U)->Option (SigR U)
def Zdn (T:TS U) (h:Option Nat):Nat->TV U->Option (TQ U)
 |_,.pp cs=>some (.ptr cs)
 |_,.nilp=>some .nilp
 |_,.nilfn=>some .nilfn
 |_,.ptr id i j=>match T.objs id with
  |some (.box cs)=>if i=0 then match Zj T.lf1 (cs.drop j)with
   |some ls=>some (.ptr ls)
   |none=>none
   else none
  |_=>none
 |n+1,.fn f a b=>match Zj (Zdn T none n) a,Zj (Zdn T none n) b with
  |some a',some b'=>some (.fn f a' b')
  |_,_=>none
 |_,d=>match T.lf h d with
  |some l=>some (.l l)
  |none=>none
mutual
theorem ZjI:∀q:TQ U,q.tv.enc= .p q.enc/\q.tv.fulls=[]
 | .l x=>⟨rfl,rfl⟩
 | .ptr cs=>⟨rfl,rfl⟩
 | .nilp=>⟨rfl,rfl⟩
 | .nilfn=>⟨rfl,rfl⟩
 | .fn f a b=>by obtain⟨d,e⟩:=Zhb a;obtain⟨c,g⟩:=Zhb b;refine⟨?_,by simp only[TQ.tv,TV.fulls,e,g,List.append_nil]⟩;simp only[TQ.tv,TV.enc,d,c,fnD,ZaF,TQ.enc]
theorem Zhb:∀l:List (TQ U),TV.encs (TQ.tvs l)=(TQ.encs l).map .p/\TV.fullsL (TQ.tvs l)=[]
 | []=>⟨rfl,rfl⟩
 |q::r=>by obtain⟨b,c⟩:=ZjI q;obtain⟨a,d⟩:=Zhb r;exact⟨by simp only[TQ.tvs,TV.encs,b,a,TQ.encs,Zn6],by simp only[TQ.tvs,TV.fullsL,c,d,List.append_nil]⟩
end
theorem Zj2 (u:UOk U) {T:TS U} (A:T.Inv):∀(n:Nat) (h:Option Nat) (d:TV U) (q:TQ U),d.inv T.objs->Zdn T h n d=some q->d.enc.toP T.enc.objs (n+1)=some q.enc:=by
 have base:∀(n:Nat) (h:Option Nat) (d:TV U) (q:TQ U),(∀f a b,d≠ .fn f a b)->d.inv T.objs->Zdn T h n d=some q->d.enc.toP T.enc.objs (n+1)=some q.enc:=by
  intro n h d q F hi e;have k:(match T.lf h d with |some l=>some (TQ.l l) |none=>none)=some q->d.enc.toP T.enc.objs (n+1)=some q.enc:=fun g=>by split at g;rotate_left;simp at g;rename_i l p;cases g;exact Zd2 u hi p n
  cases d with
  |pp cs=>simp only[Zdn,ZnO]at e;subst e;simp[TV.enc,TQ.enc]
  |nilp=>simp only[Zdn,ZnO]at e;subst e;simp[TV.enc,TQ.enc]
  |nilfn=>simp only[Zdn,ZnO]at e;subst e;simp[TV.enc,TQ.enc]
  |ptr id i j=>
   simp only[Zdn]at e;split at e;rotate_left;simp at e;rename_i cs v;split at e;rotate_left;simp at e;rename_i C;subst C;split at e;rotate_left;simp at e;rename_i ls s;cases e;have:=Zcw n (fun c t=>A.objs id _ v c (List.mem_of_mem_drop t)) s;grind[ZbE,TV.enc,D.toP,ZaB,TQ.enc,Zc]
  |fn f a b=>simp_all
  |_=>cases n<;>exact k e
 intro n
 induction n with
 |zero=>
  intro h d q hi e;cases d with
  |fn f a b=>
   simp only[Zdn]at e;split at e;rotate_left;simp at e;rename_i l p;cases e;exact Zd2 u hi p 0
  |_=>exact base 0 h _ q (by simp) hi e
 |succ n E=>
  intro h d q hi e;cases d with
  |fn f a b=>
   simp only[Zdn]at e;split at e;rotate_left;simp at e;rename_i B b' w z;cases e;have m:∀(l:List (TV U)) (l':List (TQ U)),(∀c∈l,c.inv T.objs)->Zj (Zdn T none n) l=some l'->Zj (D.toP T.enc.objs (n+1)) (TV.encs l)=some (TQ.encs l'):=by
    intro l
    induction l with
    |nil=>intro l' _ h;simp[Zj]at h;subst h;rfl
    |cons c l y=>
     grind[Zj,TV.encs,TQ.encs]
   have G:=m a B (fun c t q g=>hi q (by grind[TV.fulls,Zq])) w;have lb:=m b b' (fun c t q g=>hi q (by grind[TV.fulls,Zq])) z;rw[TV.enc,TQ.enc];unfold fnD;have H:∀(o:List P),Zj (D.toP T.enc.objs (n+1)) (o.map .p)=some o:=by
    intro o
    induction o with
    |nil=>rfl
    |cons x r E=>grind[Zj,ZjK]
   grind[D.toP,Zx]
  |_=>exact base (n+1) h _ q (by simp) hi e
structure AET (U:Zd) where
 arg:ZP U
 fs:List Id:=[]
 id:Option Id:=none
 ref:Option Id:=none
def Znl (T:TS U) (m:AM) (h:Option Nat) (d:TV U):Option (AET U):=
 match m,d with
 | .p,d=>match Zdn T h 7 d with
  |some q=>some {arg:= .p q,fs:=d.enc.ids T.enc.objs depth}
  |none=>none
 | .lend,.ptr id 0 0=>match T.objs id with
  |some (.box ds)=>match Zj T.lf1 ds with
   |some ls=>some {arg:= .box ls,fs:=(TV.encs ds).flatMap fun d=>d.ids T.enc.objs depth,id:=some id}
   |none=>none
  |_=>none
 | .lend,.full id _=>match T.objs id with
  |some (.arr t xs false)=>some {arg:= .arr t xs,id:=some id}
  |_=>none
 | .lend,.map id=>match T.objs id with
  |some (.map k v kv)=>some {arg:= .map k v kv,id:=some id}
  |_=>none
 | .part,.sl id off len=>match T.objs id with
  |some (.arr t xs false)=>some {arg:= .part t xs off len,id:=some id}
  |_=>none
 | .lendr k,.ptr id 0 0=>match T.objs id with
  |some (.box [d,.map m])=>match T.lf1 d with
   |some l=>some {arg:= .boxr l k,fs:=id::d.enc.ids T.enc.objs depth,ref:=some m}
   |none=>none
  |_=>none
 | .lendr k,.rp (some l) m=>some {arg:= .boxr l k,ref:=some m}
 |_,_=>none
def hidT (T:TS U) (m:Id):Option (AET U):=match T.objs m with
 |some (.map k v kv)=>some {arg:= .hmap k v kv,id:=some m}
 |_=>none
def AET.ae (a:AET U) (cs:List Bool):AE:={arg:=a.arg.enc,fs:=a.fs,id:=a.id,cond:=cs,ref:=a.ref}
theorem ZbR {T:TS U} {cs:List (TV U)} {ls:List (Lf U.car)} (hi:∀d∈cs,d.inv T.objs) (h:Zj T.lf1 cs=some ls):Zj (fun d=>D.toP T.enc.objs depth d) (TV.encs cs)=some (ls.map U.encL):=Zcw depth hi h
theorem Zkh {T:TS U} {d:TV U} {l:Lf U.car} (hi:d.inv T.objs) (e:T.lf1 d=some l):D.toP T.enc.objs depth d.enc=some (U.encL l):=by have a:=ZbR (T:=T) (cs:=[d]) (ls:=[l]) (fun c b=>by simp at b;rw[b];exact hi) (by simp[Zj,e]);simp only[TV.encs,Zn6,List.map_nil]at a;unfold Zj at a;split at a;rotate_left;simp at a;rename_i y g f h;simp only[ZnO,Zox]at a;rw[f,a.1]
theorem Zm3 (w:UOk U) {T:TS U} (i:T.Inv) {m:AM} {h:Option Nat} {d:TV U} {a:AET U} (hi:d.inv T.objs) (b:Znl T m h d=some a):∃cs,ZdD T.enc m d.enc=some (a.ae cs)/\∀q∈cs,q=true:=by
 unfold Znl at b;split at b
 ·split at b;rotate_left;simp at b;rename_i q s;cases b;exact⟨[],by grind[ZdD,depth,AET.ae,ZP.enc,Zj2],by simp⟩
 ·rename_i id;split at b;rotate_left;simp at b;rename_i u c;split at b;rotate_left;simp at b;rename_i ls e;cases b;refine⟨[], ?_,by simp⟩;simp only[ZdD,TV.enc,Zc c,ZaB,ZbR (i.objs id _ c) e,AET.ae,ZP.enc]
 ·rename_i id n;split at b;rotate_left;simp at b;rename_i t xs c;cases b;obtain⟨o,f,p⟩:=hi (id,n) (by simp[TV.fulls]);dsimp only at f;have g:=p _ (by rw[c,ZnO]at f;rw[<-f];rfl);refine⟨[decide (n=(xs.map (U.encE t)).length)], ?_,by grind⟩;grind[ZdD,TV.enc,ZI,AET.ae,ZP.enc,Zc]
 ·rename_i id;split at b;rotate_left;simp at b;rename_i k v r c;cases b;simp_all[ZdD,TV.enc,Z5,AET.ae,ZP.enc,Zc]
 ·rename_i id j len;split at b;rotate_left;simp at b;rename_i t xs c;cases b;simp_all[ZdD,TV.enc,ZI,AET.ae,ZP.enc,Zc]
 ·rename_i k id;split at b;rotate_left;simp at b;rename_i d m c;split at b;rotate_left;simp at b;rename_i l g;cases b;refine⟨[], ?_,by simp⟩;simp only[ZdD,TV.enc,Zc c,TO.enc,TV.encs,Zkh (i.objs id _ c d (by simp)) g,AET.ae,ZP.enc]
 ·cases b;exact⟨[],rfl,by simp⟩
 simp_all
theorem Zko {T:TS U} {m:Id} {a:AET U} (h:hidT T m=some a):Zlt T.enc m=some (a.ae [])/\a.fs=[]/\a.ref=none/\∃k v b,a.arg= .hmap k v b/\a.id=some m/\T.objs m=some (.map k v b):=by grind[hidT,Zlt,Z5,AET.ae,ZP.enc,Zc]
def Zak (T:TS U):List AM->List (Option Nat)->List (TV U)->Option (List (AET U))
 | [],_,[]=>some []
 |m::ms,h::hs,d::ds=>match Znl T m h d,Zak T ms hs ds with
  |some a,some r=>some (a::r)
  |_,_=>none
 |_,_,_=>none
theorem Zfi (hU:UOk U) {T:TS U} (hT:T.Inv):∀{ms:List AM} {hs:List (Option Nat)} {ds:List (TV U)} {as:List (AET U)},(∀d∈ds,d.inv T.objs)->Zak T ms hs ds=some as->
  ∃aes:List AE,Zj (fun x:AM×D=>ZdD T.enc x.1 x.2) (ms.zip (TV.encs ds))=some aes/\ds.length=ms.length/\aes.map (·.arg)=as.map (fun a=>a.arg.enc)/\aes.flatMap (·.fs)=as.flatMap (·.fs)/\(∀q∈aes.flatMap (·.cond),q=true)/\aes.map (·.id)=as.map (·.id)/\aes.map (·.ref)=as.map (·.ref)
 | [],hs,[],as,_,h=>by simp only[Zak,ZnO]at h;subst h;exact⟨[],rfl,rfl,rfl,rfl,by simp,rfl,rfl⟩
 | [],hs,d::ds,as,_,h=>by grind[Zak]
 |m::ms,[],ds,as,_,h=>by grind[Zak]
 |m::ms,hh::hs,[],as,_,h=>by grind[Zak]
 |m::ms,hh::hs,d::ds,as,hi,h=>by simp only[Zak]at h;split at h;rotate_left;simp at h;rename_i a r h1 h2;cases h;obtain⟨cs,q1,q2⟩:=Zm3 hU hT (hi d (by simp)) h1;obtain⟨aes,p1,p2,p3,p4,p5,p6,p7⟩:=Zfi hU hT (fun a ha=>hi a (by grind)) h2;refine⟨a.ae cs::aes,by grind[TV.encs,ZoD,Zj],by grind,by grind[AET.ae],by grind[AET.ae], ?_,by grind[AET.ae],by grind[AET.ae]⟩;intro q hq;simp only[List.flatMap_cons,Zn7]at hq;exact hq.elim (fun h=>q2 q h) (fun h=>p5 q h)
def Zjw (T:TS U) (ms:List AM) (d:List (Option Nat)) (c:List (TV U)):Option (List (AET U)):=match Zak T ms d c with
 |some a=>match Zj (hidT T) (a.filterMap (·.ref))with
  |some b=>some (a++b)
  |none=>none
 |none=>none
theorem ZlH (o:UOk U) {T:TS U} (n:T.Inv) {ms:List AM} {w:List (Option Nat)} {g:List (TV U)} {e:List (AET U)} (hi:∀d∈g,d.inv T.objs) (h:Zjw T ms w g=some e):
  ∃b c:List AE,Zj (fun x:AM×D=>ZdD T.enc x.1 x.2) (ms.zip (TV.encs g))=some b/\Zj (Zlt T.enc) (b.filterMap (·.ref))=some c/\g.length=ms.length/\
   (b++c).map (·.arg)=e.map (fun a=>a.arg.enc)/\(b++c).flatMap (·.fs)=e.flatMap (·.fs)/\(∀q∈(b++c).flatMap (·.cond),q=true)/\(b++c).map (·.id)=e.map (·.id)/\(b++c).map (·.ref)=e.map (·.ref):=by
 unfold Zjw at h;split at h;rotate_left;simp at h;rename_i i t;split at h;rotate_left;simp at h;rename_i v B;cases h;obtain⟨f,s,u,m,k,z,p,j⟩:=Zfi o n hi t;have A:f.filterMap (·.ref)=i.filterMap (·.ref):=by rw[show (fun x:AE=>x.ref)=id∘(fun x:AE=>x.ref)from rfl,show (fun x:AET U=>x.ref)=id∘(fun x:AET U=>x.ref)from rfl,<-List.filterMap_map,<-List.filterMap_map,j]
 have key:∀(l:List Id) (r:List (AET U)),Zj (hidT T) l=some r->Zj (Zlt T.enc) l=some (r.map (·.ae [])):=by
  intro l
  induction l with
  |nil=>grind[Zj]
  |cons x l C=>
   grind[Zj,Zko]
 refine⟨f,v.map (·.ae []),s,by simp_all,u, ?_, ?_,fun q y=> ?_, ?_, ?_⟩
 ·rw[ZoA,ZoA,m,ZoB];rfl
 ·rw[List.flatMap_append,List.flatMap_append,k,List.flatMap_map];rfl
 ·grind[AET.ae]
 ·rw[ZoA,ZoA,p,ZoB];rfl
 ·rw[ZoA,ZoA,j,ZoB];rfl
def ZP.o:ZP U->Option (TO U)
 | .p _=>none
 | .box cs=>some (.box (cs.map lv))
 | .arr t xs=>some (.arr t xs false)
 | .map k v a=>some (.map k v a)
 | .part t xs _ _=>some (.arr t xs false)
 | .boxr _ _=>none
 | .hmap k v a=>some (.map k v a)
def Zfg (outs:List (Nat×ZP U)) (k:Nat):TO U:=match Zg outs k with
 |some a=>match a.o with
  |some o=>o
  |none=> .gone
 |none=> .gone
def ZgX (outs:List (Nat×ZP U)):Nat->List (AET U)->List (Id×TO U)
 |_,[]=>[]
 |k,x::r=>match x.id with
  |some id=>(id,Zfg outs k)::ZgX outs (k+1) r
  |none=>ZgX outs (k+1) r
def TRV.at (ep i:Nat) (d:List (AET U)) (j:Nat):TRV U->Option (TV U)
 | .p l=>some (lv l)
 | .own _ es=>some (.full (ep,i,j) es.length)
 | .box _=>some (.ptr (ep,i,j) 0 0)
 | .map _ _ _=>some (.map (ep,i,j))
 | .view k c len=>match d[k]? with
  |some a=>match a.id with
   |some id=>some (.sl id c len)
   |none=>none
  |none=>none
 | .aown pre _ es b _=>some (.agg (pre.map lv++ .full (ep,i,j) es.length::b.map lv))
def arrTO (t:Ty) (es:List (El U.car t)):Option (Nat×Ty×Nat)->TO U
 |none=> .arr t es false
 |some (c,u,lo)=> .own t c u es lo none
def TRV.o:TRV U->Option (TO U)
 | .own t es=>some (.arr t es false)
 | .aown _ t es _ b=>some (arrTO t es b)
 | .box cs=>some (.box (cs.map lv))
 | .map k v a=>some (.map k v a)
 |_=>none
def Zdf (ep i:Nat) (a:List (AET U)):Nat->List (TRV U)->Option (List (TV U))
 |_,[]=>some []
 |j,x::r=>match x.at ep i a j,Zdf ep i a (j+1) r with
  |some d,some ds=>some (d::ds)
  |_,_=>none
def ZaM:Nat->List (TRV U)->List (Nat×TO U)
 |_,[]=>[]
 |j,x::r=>match x.o with
  |some o=>(j,o)::ZaM (j+1) r
  |none=>ZaM (j+1) r
def tupT:List (TV U)->TV U
 | [d]=>d
 |ds=> .tup ds
def ZgU (T:TS U) (i:Nat) (a:List (AET U)) (ret:ZbL U):Option (Zk U):=
 match Zdf T.ep i a 0 ret.res with
 |some b=>some {val:=tupT b,new:=ZaM 0 ret.res,wr:=ZgX ret.outs 0 a,frz:=a.flatMap (·.fs)}
 |none=>none
theorem ZiE (a:ZP U):ZiV a.o=a.enc.o:=by
 cases a with
 |p q=>rfl
 |box cs=>grind[ZP.o,ZiV,TO.enc,ZbD,ZP.enc,Arg.o]
 |arr t xs=>rfl
 |map k v b=>rfl
 |part t xs c len=>rfl
 |boxr l k=>rfl
 |hmap k v b=>rfl
theorem Zfh {c β d:Type} [DecidableEq c] (f:β->d):∀(l:List (c×β)) (x:c),Zg (l.map fun y=>(y.1,f y.2)) x=(Zg l x).map f
 | [],x=>rfl
 |(a,b)::r,x=>by
  simp only[Zn6,Zg];split
  ·rfl
  ·exact Zfh f r x
theorem Zjt (outs:List (Nat×ZP U)) (k:Nat):(Zfg outs k).enc=Zds (outs.map fun x=>(x.1,x.2.enc)) k:=by
 unfold Zfg Zds;rw[Zfh];cases Zg outs k with
 |none=>rfl
 |some a=>
  simp only[Zow];have key:(match a.o with |some o=>o |none=>TO.gone).enc=match a.enc.o with |some o=>o |none=>Obj.gone:=by rw[<-ZiE a];cases a.o<;>rfl
  omega
theorem Zeo (outs:List (Nat×ZP U)):∀(k:Nat) (d:List (AET U)) (c:List AE),c.map (·.id)=d.map (·.id)->(ZgX outs k d).map (fun x=>(x.1,x.2.enc))=Zbr (outs.map fun x=>(x.1,x.2.enc)) k c
 |k,[],[],_=>rfl
 |k,[],_::_,h=>by grind
 |k,_::_,[],h=>by grind
 |k,a::d,b::bs,h=>by
  simp only[Zn6,Zox]at h;simp only[ZgX,Zbr,h.1];cases a.id with
  |none=>exact Zeo outs (k+1) d bs h.2
  |some id=>simp only[Zn6,Zeo outs (k+1) d bs h.2,Zjt]
theorem Zgn (d:D) (b:d.pure?=none) (a:List D):∀pre:List P,Zj D.pure? (pre.map D.p++d::a)=none
 | []=>by grind[Zj]
 |x::pre=>by have:=Zgn d b a pre;grind[Zj]
theorem ZfT (pre a:List (Lf U.car)) (id:Id) (n:Nat):(TV.agg (pre.map lv++ .full id n::a.map lv):TV U).enc= .agg ((pre.map U.encL).map .p++ .sl id 0 n::(a.map U.encL).map .p):=by
 have e:TV.encs (pre.map lv++ .full id n::a.map lv)=(pre.map U.encL).map .p++ .sl id 0 n::(a.map U.encL).map .p:=by rw[Zai,ZoA,Zn6,<-Zai,<-Zai,ZbD,ZbD];rfl
 rw[TV.enc,e];unfold D.mkAgg;rw[Zgn _ rfl]
theorem Zi8 {pre a:List (Lf U.car)} {id:Id} {n:Nat} {q:Id×Nat} (h:q∈(TV.agg (pre.map lv++ .full id n::a.map lv):TV U).fulls):q=(id,n):=by
 grind[TV.fulls,Zq,lv]
theorem Zla {ep i j:Nat} {g:List (AET U)} {c:List AE} (m:c.map (·.id)=g.map (·.id)) {x:TRV U} {d:TV U} (h:x.at ep i g j=some d):x.enc.at ep i c j=some d.enc:=by
 cases x with
 |p l=>simp only[TRV.at,ZnO]at h;subst h;rfl
 |own t es=>simp only[TRV.at,ZnO]at h;subst h;simp only[TRV.enc,RV.at,TV.enc,List.length_map]
 |box cs=>simp only[TRV.at,ZnO]at h;subst h;rfl
 |map k v r=>simp only[TRV.at,ZnO]at h;subst h;rfl
 |aown pre t es n s=>simp only[TRV.at,ZnO]at h;subst h;simp only[ZfT,TRV.enc,RV.at,List.length_map]
 |view k q len=>
  simp only[TRV.at]at h;have e:(c[k]?).map (·.id)=(g[k]?).map (·.id):=by rw[<-ZnB,<-ZnB,m]
  split at h;rotate_left;simp at h;rename_i a o;rw[o]at e;cases hb:c[k]? with
  |none=>rw[hb]at e;simp at e
  |some b=>
   rw[hb]at e;simp only[Zow,ZnO]at e;split at h;rotate_left;simp at h;rename_i id f;cases h;simp only[TRV.enc,RV.at,hb,e,f,TV.enc]
theorem Zms (x:TRV U):ZiV x.o=x.enc.o:=by
 cases x with
 |box cs=>grind[TRV.o,ZiV,TO.enc,ZbD,TRV.enc,RV.o]
 |aown pre t es a b=>cases b<;>rfl
 |_=>rfl
theorem ZeV {ep i:Nat} {f:List (AET U)} {a:List AE} (b:a.map (·.id)=f.map (·.id)):∀(j:Nat) (l:List (TRV U)) (c:List (TV U)),Zdf ep i f j l=some c->Zhj ep i a j (l.map TRV.enc)=some (TV.encs c)
 |j,[],c,h=>by simp only[Zdf,ZnO]at h;subst h;rfl
 |j,x::r,c,h=>by simp only[Zdf]at h;split at h;rotate_left;simp at h;rename_i d e k g;cases h;simp only[Zn6,Zhj,Zla b k,ZeV b (j+1) r e g,TV.encs]
theorem Zca:∀(j:Nat) (l:List (TRV U)),(ZaM j l).map (fun x=>(x.1,x.2.enc))=Za1 j (l.map TRV.enc)
 |j,[]=>rfl
 |j,x::r=>by
  simp only[ZaM,Zn6,Za1];have:=Zms x;cases hx:x.o with
  |none=>rw[hx]at this;rw[<-this];exact Zca (j+1) r
  |some o=>rw[hx]at this;rw[<-this];simp only[ZiV,Zn6,Zca (j+1) r]
theorem Zk1 (c:List (TV U)):(tupT c).enc=Zm9 (TV.encs c):=by
 match c with
 | []=>rfl
 | [d]=>rfl
 |a::b::r=>rfl
theorem Zjr {T:TS U} {i:Nat} {b:List (AET U)} {a:List AE} {ret:ZbL U} {e:Zk U} (c:a.map (·.id)=b.map (·.id)) (f:a.flatMap (·.fs)=b.flatMap (·.fs)) (h:ZgU T i b ret=some e):ZfY T.enc i a ret.enc=some (e.enc []):=by unfold ZgU at h;split at h;rotate_left;simp at h;rename_i g d;cases h;unfold ZfY;rw[show T.enc.ep=T.ep from rfl,show ret.enc.res=ret.res.map TRV.enc from rfl,ZeV c 0 _ g d];grind[Zk.enc,Zk1,Zca,ZbL.enc,Zeo]
def ZP.len?:ZP U->Option Nat
 | .arr _ xs=>some xs.length
 | .part _ xs _ _=>some xs.length
 |_=>none
def ZeA (args:List (ZP U)) (ret:ZbL U):Prop:=∀k a n,(k,a)∈ret.outs->a.len?=some n->∃b,args[k]? =some b/\b.len?=some n
theorem ZcD {outs:List (Nat×ZP U)}:∀(n:Nat) (l:List (AET U)) (id:Id) (o:TO U),(id,o)∈ZgX outs n l->∃j x,l[j]? =some x/\x.id=some id/\o=Zfg outs (n+j)
 |n,[],id,o,h=>by grind[ZgX]
 |n,x::r,id,o,h=>by
  simp only[ZgX]at h;split at h
  ·rename_i d b;rcases ZnD.1 h with h |h
   ·simp only[ZnP]at h;exact⟨0,x,rfl,by simp_all,by simp_all⟩
   ·obtain⟨j,y,e,a,c⟩:=ZcD (n+1) r id o h;exact⟨j+1,y,by simp_all,a,by grind⟩
  ·obtain⟨j,y,e,a,c⟩:=ZcD (n+1) r id o h;exact⟨j+1,y,by simp_all,a,by grind⟩
theorem Zet {T:TS U}:∀{ms:List AM} {e:List (Option Nat)} {f:List (TV U)} {c:List (AET U)},Zak T ms e f=some c->∀(j:Nat) (a:AET U),c[j]? =some a->∃m h d,Znl T m h d=some a
 | [],e,[],c,h,j,a,ha=>by grind[Zak]
 | [],e,d::f,c,h,j,a,ha=>by grind[Zak]
 |m::ms,[],f,c,h,j,a,ha=>by grind[Zak]
 |m::ms,hh::e,[],c,h,j,a,ha=>by grind[Zak]
 |m::ms,hh::e,d::f,c,h,j,a,ha=>by
  simp only[Zak]at h;split at h;rotate_left;simp at h;rename_i b r i g;cases h;cases j with
  |zero=>grind
  |succ j=>exact Zet g j a (by simp_all)
theorem ZaL:∀(j:Nat) (l:List (TRV U)) (k:Nat) (o:TO U),(k,o)∈ZaM j l->∃(m:Nat) (x:TRV U),l[m]? =some x/\k=j+m/\x.o=some o
 |j,[],k,o,h=>by grind[ZaM]
 |j,x::r,k,o,h=>by
  simp only[ZaM]at h;split at h
  ·rename_i o' d;rcases ZnD.1 h with h |h
   ·simp only[ZnP]at h;exact⟨0,x,rfl,by omega,by simp_all⟩
   ·obtain⟨m,y,b,c,a⟩:=ZaL (j+1) r k o h;exact⟨m+1,y,by simp_all,by omega,a⟩
  ·obtain⟨m,y,b,c,a⟩:=ZaL (j+1) r k o h;exact⟨m+1,y,by simp_all,by omega,a⟩
theorem ZcS:∀(j:Nat) (l:List (TRV U)) (m:Nat) (x:TRV U) (o:TO U),l[m]? =some x->x.o=some o->(j+m,o)∈ZaM j l
 |j,[],m,x,o,h,_=>by grind
 |j,y::r,m,x,o,h,ho=>by
  cases m with
  |zero=>
   grind[ZaM]
  |succ m=>
   have:=ZcS (j+1) r m x o (by simp_all) ho;grind[ZaM]
theorem ZfH:∀(l:List (Id×TO U)) (T:TS U) (id:Id) (o:TO U),(id,o)∈l->(∀o',(id,o')∈l->o'=o)->(T.objL l).objs id=some o
 | [],T,id,o,h,_=>by grind
 |(a,u)::l,T,id,o,h,hu=>by
  simp only[TS.objL]
  by_cases hm:∃o',(id,o')∈l
  ·obtain⟨o',c⟩:=hm;have:=hu o' (Zoa _ c);subst this;exact ZfH l _ id o' c fun e d=>hu e (Zoa _ d)
  ·rcases ZnD.1 h with h |h
   ·simp only[ZnP]at h;obtain⟨rfl,rfl⟩:=h;have key:∀(l:List (Id×TO U)) (T:TS U),(¬∃o,(id,o)∈l)->(T.objL l).objs id=T.objs id:=by
     intro l
     induction l with
     |nil=>intro T _;rfl
     |cons x l f=>
      obtain⟨b,v⟩:=x;intro T g;grind[TS.objL,upd,absurd,List.mem_cons_self]
    grind[upd]
   simp_all
theorem ZeU {ep i:Nat} {e:List (AET U)}:∀(j:Nat) (l:List (TRV U)) (b:List (TV U)),Zdf ep i e j l=some b->∀d∈b,∃(m:Nat) (x:TRV U),l[m]? =some x/\x.at ep i e (j+m)=some d
 |j,[],b,h,d,a=>by grind[Zdf]
 |j,x::r,b,h,d,a=>by
  simp only[Zdf]at h;split at h;rotate_left;simp at h;rename_i k c g f;cases h;rcases ZnD.1 a with rfl |a
  ·exact⟨0,x,rfl,g⟩
  ·obtain⟨m,y,q1,n⟩:=ZeU (j+1) r c f d a;exact⟨m+1,y,by simp_all,by grind⟩
theorem ZkM {T:TS U} {ms:List AM} {i:List (Option Nat)} {n:List (TV U)} {e:List (AET U)} (h:Zjw T ms i n=some e) (j:Nat) (a:AET U) (b:e[j]? =some a):
  (∃k v c,a.arg= .hmap k v c)\/∃m h d,Znl T m h d=some a:=by
 unfold Zjw at h;split at h;rotate_left;simp at h;rename_i f s;split at h;rotate_left;simp at h;rename_i o l;cases h;rw[List.getElem?_append]at b;split at b
 ·grind[Zet]
 ·obtain⟨r,g⟩:=Zh l;have p:=(ZnA.1 b).1;obtain⟨_,_,_,k,v,c,q,_⟩:=Zko (g _ _ a (Zn2 (by omega)) b);simp_all
theorem Zjq {T:TS U} {i:Nat} {E:List (AET U)} {ms:List AM} {hs:List (Option Nat)} {R:List (TV U)} (O:Zjw T ms hs R=some E) {ret:ZbL U} (Q:ZeA (E.map (·.arg)) ret) {e:Zk U} (h:ZgU T i E ret=some e):ZL T i e:=by
 unfold ZgU at h;split at h;rotate_left;simp at h;rename_i V N;cases h;have box:∀(cs:List (Lf U.car)) (lk:Id->Option (TO U)),(TO.box (cs.map lv)).inv lk:=fun cs lk d c=>by obtain⟨l,_,rfl⟩:=Zod.1 c;exact Zah _ _
 have H:∀(a:ZP U) (o:TO U) (lk:Id->Option (TO U)),a.o=some o->o.inv lk:=fun a o lk F=>by
  cases a<;>simp only[ZP.o,ZnO,reduceCtorEq]at F<;>subst F
  ·exact box _ _
  ·trivial
  ·trivial
  ·trivial
  ·trivial
 refine⟨fun id o w n g=> ?_,fun hf=> ?_,fun _ o J=> ?_⟩
 ·obtain⟨j,x,q1,f,D⟩:=ZcD 0 E id o w;rw[D]at g;unfold Zfg at g;split at g;rotate_left;cases g;rename_i a F;have key:∀L,a.o=some L->∀m,L.len?=some m->a.len?=some m:=fun L h m w=>by
   cases a with
   |p q=>simp[ZP.o]at h
   |box cs=>simp only[ZP.o,ZnO]at h;subst h;simp[TO.len?]at w
   |map k v X=>simp only[ZP.o,ZnO]at h;subst h;simp[TO.len?]at w
   |arr K A=>simp only[ZP.o,ZnO]at h;subst h;exact w
   |part K A S len=>simp only[ZP.o,ZnO]at h;subst h;exact w
   |boxr l k=>simp[ZP.o]at h
   |hmap k v X=>simp only[ZP.o,ZnO]at h;subst h;simp[TO.len?]at w
  split at g;rotate_left;cases g;rename_i o J;obtain⟨a',z,u⟩:=Q _ _ _ (Z1 F) (key o J n g);rw[ZnB,Nat.zero_add,q1,Zow,ZnO]at z;subst z;rcases ZkM O j x q1 with ⟨k3,v3,aa,c⟩ |⟨m,hh,d,c⟩
  ·rw[c]at u;simp[ZP.len?]at u
  unfold Znl at c;split at c
  ·split at c;rotate_left;simp at c;cases c;simp at f
  ·split at c;rotate_left;simp at c;split at c;rotate_left;simp at c;cases c;simp[ZP.len?]at u
  ·split at c;rotate_left;simp at c;rename_i K A C;cases c;cases f;simp only[ZP.len?,ZnO]at u;exact⟨_,C,by rw[<-u];rfl⟩
  ·split at c;rotate_left;simp at c;cases c;simp[ZP.len?]at u
  ·split at c;rotate_left;simp at c;rename_i K A C;cases c;cases f;simp only[ZP.len?,ZnO]at u;exact⟨_,C,by rw[<-u];rfl⟩
  ·split at c;rotate_left;simp at c;split at c;rotate_left;simp at c;cases c;simp[ZP.len?]at u
  ·cases c;simp[ZP.len?]at u
  ·simp at c
 ·intro q s;have:∃d∈V,q∈d.fulls:=by
   match V,s with
   | [],s=>simp[tupT,TV.fulls,TV.fullsL]at s
   | [d],s=>exact⟨d,by simp,s⟩
   |a::b::r,s=>exact Zq.1 s
  obtain⟨d,c,s⟩:=this;obtain⟨m,x,q1,f⟩:=ZeU 0 _ V N d c;cases x with
  |p l=>simp only[TRV.at,ZnO]at f;subst f;simp[lv,TV.fulls]at s
  |box cs=>simp only[TRV.at,ZnO]at f;subst f;simp[TV.fulls]at s
  |map k v X=>simp only[TRV.at,ZnO]at f;subst f;simp[TV.fulls]at s
  |view k S len=>
   simp only[TRV.at]at f;split at f;rotate_left;simp at f;split at f;rotate_left;simp at f;cases f;simp[TV.fulls]at s
  |aown pre t xs Y I=>
   simp only[TRV.at,ZnO]at f;subst f;obtain rfl:=Zi8 s;refine⟨arrTO t xs I, ?_,fun Z g=>by cases I<;>(cases g;rfl)⟩;refine ZfH _ _ _ _ (Zod.2 ⟨_,ZcS 0 _ m _ _ q1 rfl,rfl⟩) fun o' B=> ?_
   obtain⟨y,P,g⟩:=Zod.1 B;simp only[ZnP,true_and]at g;obtain⟨h1,rfl⟩:=g;obtain⟨W,x',z,u,G⟩:=ZaL 0 _ _ _ P;have:W=m:=by omega
   subst this;rw[q1,ZnO]at z;subst z;simp only[TRV.o,ZnO]at G;exact G.symm
  |own t xs=>
   simp only[TRV.at,ZnO]at f;subst f;simp only[TV.fulls,List.mem_singleton]at s;subst s;refine⟨.arr t xs false, ?_,fun Z g=>by cases g;rfl⟩;refine ZfH _ _ _ _ (Zod.2 ⟨_,ZcS 0 _ m _ _ q1 rfl,rfl⟩) fun o' B=> ?_
   obtain⟨y,P,g⟩:=Zod.1 B;simp only[ZnP,true_and]at g;obtain⟨h1,rfl⟩:=g;obtain⟨W,x',z,u,G⟩:=ZaL 0 _ _ _ P;have:W=m:=by omega
   subst this;rw[q1,ZnO]at z;subst z;simp only[TRV.o,ZnO]at G;exact G.symm
 ·rcases J with ⟨k,w⟩ |⟨id,w⟩
  ·obtain⟨m,x,q1,f,D⟩:=ZaL 0 _ _ _ w;cases x<;>simp only[TRV.o,ZnO,reduceCtorEq]at D<;>subst D
   ·trivial
   ·exact box _ _
   ·trivial
   ·rename_i I;cases I<;>trivial
  ·obtain⟨j,x,q1,f,D⟩:=ZcD 0 E id o w;subst D;unfold Zfg;split
   ·rename_i a F;split
    ·rename_i M;exact H _ _ _ M
    ·trivial
   ·trivial
end
end Eng
namespace Eng
open Go
section
variable {U:Zd}
def resT (X:ZG U) (T:TS U):ResultVar->Option (TV U)
 | .tmp t=>some (T.slots t)
 | .cell ad t=>match X.get t with
  |some e=>match T.slots ad with
   | .pp cs=>ZcY e (cs.map lv)
   | .ptr id 0 j=>match T.objs id with
    |some (.box cs)=>ZcY e (cs.drop j)
    |_=>none
   |_=>none
  |none=>none
structure RET (U:Zd) where
 rv:TRV U
 fs:List Id:=[]
 id:Option Id:=none
def Zgb:List (TV U)->Option (List (Lf U.car)×Id×Nat×List (Lf U.car))
 | .v t x::r=>match Zgb r with
  |some (a,b)=>some (⟨t,x⟩::a,b)
  |none=>none
 | .full id n::r=>match Zj (fun d=>match d with |TV.v t x=>some (⟨t,x⟩:Lf U.car) |_=>none) r with
  |some q=>some ([],id,n,q)
  |none=>none
 |_=>none
theorem allLv:∀{r:List (TV U)} {q:List (Lf U.car)},Zj (fun d=>match d with |TV.v t x=>some (⟨t,x⟩:Lf U.car) |_=>none) r=some q->r=q.map lv
 | [],q,h=>by grind[Zj]
 |d::r,q,h=>by simp only[Zj]at h;split at h;rotate_left;simp at h;rename_i y ys h1 h2;cases h;split at h1;rotate_left;simp at h1;cases h1;rw[allLv h2];rfl
theorem ZjN:∀{cs:List (TV U)} {pre post:List (Lf U.car)} {id:Id} {n:Nat},Zgb cs=some (pre,id,n,post)->cs=pre.map lv++ .full id n::post.map lv:=by
 intro cs
 induction cs with
 |nil=>grind[Zgb]
 |cons d r ih=>
  intro pre post id n h;unfold Zgb at h;split at h
  ·rename_i t x r' he;simp only[Zox]at he;obtain⟨rfl,rfl⟩:=he;split at h;rotate_left;simp at h;rename_i a b hb;simp only[ZnO,ZnP]at h;obtain⟨rfl,rfl⟩:=h;rw[ih hb];rfl
  all_goals grind[allLv]
theorem ZdK (id:Id) (n:Nat) (a:List P):∀pre:List P,Zde (pre.map .p++ .sl id 0 n::a.map .p)=some (pre,id,n,a)
 | []=>by
  have h:∀l:List P,Zj D.pure? (l.map .p)=some l:=by
   intro l
   induction l with
   |nil=>rfl
   |cons x l b=>rw[Zn6,Zj,b];rfl
  simp only[List.map_nil,List.nil_append,Zde,h]
 |x::pre=>by have:=ZdK id n a pre;simp only[Zn6,ZnX,Zde,this]
def Zmt (T:TS U) (m:RM) (h:Option Nat) (d:TV U):Option (RET U):=
 match m,d with
 | .p,d=>match T.lf h d with
  |some l=>some {rv:= .p l,fs:=d.enc.ids T.enc.objs depth}
  |none=>none
 | .own,.full id _=>match T.objs id with
  |some (.arr t xs false)=>some {rv:= .own t xs,id:=some id}
  |_=>none
 | .box,.ptr id 0 0=>match T.objs id with
  |some (.box ds)=>match Zj T.lf1 ds with
   |some ls=>some {rv:= .box ls,fs:=(TV.encs ds).flatMap fun d=>d.ids T.enc.objs depth,id:=some id}
   |none=>none
  |_=>none
 | .map,.map id=>match T.objs id with
  |some (.map k v kv)=>some {rv:= .map k v kv,id:=some id}
  |_=>none
 | .view,.sl (0,k,0) off len=>some {rv:= .view k off len}
 | .view,.full (0,k,0) n=>some {rv:= .view k 0 n}
 | .aown,.agg cs=>match Zgb cs with
  |some (pre,id,_,post)=>match T.objs id with
   |some (.arr t xs false)=>some {rv:= .aown pre t xs post none,id:=some id}
   |some (.own t c u xs lo none)=>some {rv:= .aown pre t xs post (some (c,u,lo)),id:=some id}
   |_=>none
  |none=>none
 |_,_=>none
def RET.re (x:RET U) (cs:List Bool):RE:={rv:=x.rv.enc,fs:=x.fs,id:=x.id,cond:=cs}
theorem resT_d (n:UOk U) {X:ZG U} (g:TOk X) {T:TS U} (m:T.Inv) {i:ResultVar} {d:TV U} (h:resT X T i=some d):ZlU X.E T.enc i=some d.enc/\d.inv T.objs:=by
 unfold resT at h;split at h
 ·cases h;exact⟨rfl,m.slots _⟩
 ·rename_i ad t;split at h;rotate_left;simp at h;rename_i e a;split at h
  ·rename_i cs b;obtain⟨p,o,q⟩:=ZaP n g a h;refine⟨?_,Zav (fun c f=> ?_) h⟩
   ·simp only[ZlU,Zs a,show T.enc.slots ad=(T.slots ad).enc from rfl,b,TV.enc,o,q]
   ·obtain⟨l,_,rfl⟩:=Zod.1 f;exact Zah _ _
  ·rename_i id j b;split at h;rotate_left;simp at h;rename_i cs k;have:=Zcv n g a h;rw[ZbE]at this;exact⟨by simp only[ZlU,Zs a,show T.enc.slots ad=(T.slots ad).enc from rfl,b,TV.enc,Zc k,ZaB,this],Zav (fun c f=>m.objs id _ k c (List.mem_of_mem_drop f)) h⟩
  simp_all
theorem Zlc (w:UOk U) {T:TS U} (r:T.Inv) {m:RM} {h:Option Nat} {d:TV U} {x:RET U} (hi:d.inv T.objs) (a:Zmt T m h d=some x):∃cs,ZiS T.enc m d.enc=some (x.re cs)/\∀q∈cs,q=true:=by
 unfold Zmt at a;split at a
 ·split at a;rotate_left;simp at a;rename_i l g;cases a;exact⟨[],by grind[ZiS,depth,RET.re,TRV.enc,Zd2],by simp⟩
 ·rename_i id n;split at a;rotate_left;simp at a;rename_i t xs e;cases a;obtain⟨o,b,f⟩:=hi (id,n) (by simp[TV.fulls]);dsimp only at b;have g:=f _ (by rw[e,ZnO]at b;rw[<-b];rfl);refine⟨[decide (n=(xs.map (U.encE t)).length)], ?_,by grind⟩;grind[ZiS,TV.enc,ZI,RET.re,TRV.enc,Zc]
 ·rename_i id;split at a;rotate_left;simp at a;rename_i y e;split at a;rotate_left;simp at a;rename_i ls j;cases a;refine⟨[], ?_,by simp⟩;simp only[ZiS,TV.enc,Zc e,ZaB,ZbR (r.objs id _ e) j,RET.re,TRV.enc]
 ·rename_i id;split at a;rotate_left;simp at a;rename_i k v s e;cases a;simp_all[ZiS,TV.enc,Z5,RET.re,TRV.enc,Zc]
 ·cases a;exact⟨[],rfl,by simp⟩
 ·cases a;exact⟨[],rfl,by simp⟩
 ·split at a;rotate_left;simp at a;rename_i pre id n p i;obtain rfl:=ZjN i;split at a
  ·rename_i t xs e;cases a;obtain⟨o,b,f⟩:=hi (id,n) (by rw[TV.fulls];exact Zq.2 ⟨.full id n,by simp,by simp[TV.fulls]⟩);dsimp only at b;have g:=f _ (by rw[e,ZnO]at b;rw[<-b];rfl);refine⟨[decide (n=(xs.map (U.encE t)).length)], ?_,by grind⟩;grind[ZfT,ZiS,ZdK,ZI,RET.re,TRV.enc,Zc]
  ·rename_i t c u xs lo e;cases a;obtain⟨o,b,f⟩:=hi (id,n) (by rw[TV.fulls];exact Zq.2 ⟨.full id n,by simp,by simp[TV.fulls]⟩);dsimp only at b;have g:=f _ (by rw[e,ZnO]at b;rw[<-b];rfl);refine⟨[decide (n=(xs.map (U.encE t)).length)], ?_,by grind⟩;rw[ZfT];simp only[ZiS,ZdK,Zc e,TO.enc,RET.re,TRV.enc,Zow]
  simp_all
 simp_all
def Zdg (T:TS U):List RM->List (Option Nat)->List (TV U)->Option (List (RET U))
 | [],_,[]=>some []
 |m::ms,h::hs,d::ds=>match Zmt T m h d,Zdg T ms hs ds with
  |some a,some r=>some (a::r)
  |_,_=>none
 |_,_,_=>none
theorem Zgm (hU:UOk U) {T:TS U} (hT:T.Inv):∀{ms:List RM} {hs:List (Option Nat)} {ds:List (TV U)} {as:List (RET U)},(∀d∈ds,d.inv T.objs)->Zdg T ms hs ds=some as->
  ∃res:List RE,Zj (fun x:RM×D=>ZiS T.enc x.1 x.2) (ms.zip (TV.encs ds))=some res/\ds.length=ms.length/\res.map (·.rv)=as.map (fun a=>a.rv.enc)/\res.flatMap (·.fs)=as.flatMap (·.fs)/\(∀q∈res.flatMap (·.cond),q=true)/\res.map (·.id)=as.map (·.id)
 | [],hs,[],as,_,h=>by simp only[Zdg,ZnO]at h;subst h;exact⟨[],rfl,rfl,rfl,rfl,by simp,rfl⟩
 | [],hs,d::ds,as,_,h=>by grind[Zdg]
 |m::ms,[],ds,as,_,h=>by grind[Zdg]
 |m::ms,hh::hs,[],as,_,h=>by grind[Zdg]
 |m::ms,hh::hs,d::ds,as,hi,h=>by simp only[Zdg]at h;split at h;rotate_left;simp at h;rename_i a r h1 h2;cases h;obtain⟨cs,q1,q2⟩:=Zlc hU hT (hi d (by simp)) h1;obtain⟨aes,p1,p2,p3,p4,p5,p6⟩:=Zgm hU hT (fun a ha=>hi a (by grind)) h2;refine⟨a.re cs::aes,by grind[TV.encs,ZoD,Zj],by grind,by grind[RET.re],by grind[RET.re], ?_,by grind[RET.re]⟩;intro q hq;simp only[List.flatMap_cons,Zn7]at hq;exact hq.elim (fun h=>q2 q h) (fun h=>p5 q h)
def Zlh (T:TS U) (k:Nat):Option ((Nat×ZP U)×List Id):=
 match T.objs (0,k,0)with
 |some (.box ds)=>match Zj T.lf1 ds with
  |some ls=>some ((k,.box ls),(TV.encs ds).flatMap fun d=>d.ids T.enc.objs depth)
  |none=>none
 |some (.arr t xs false)=>some ((k,.arr t xs),[])
 |some (.map a b kv)=>some ((k,.map a b kv),[])
 |_=>none
theorem Zmu {T:TS U} (c:T.Inv) {k:Nat} {x:(Nat×ZP U)×List Id} (h:Zlh T k=some x):Zne T.enc k=some ((x.1.1,x.1.2.enc),x.2):=by
 unfold Zlh at h;unfold Zne;split at h
 ·rename_i d b;split at h;rotate_left;simp at h;rename_i ls a;cases h;simp only[Zc b,ZaB,Zag,ZbR (c.objs _ _ b) a,ZP.enc]
 all_goals grind[ZI,Zag,ZP.enc,Zc,Z5]
theorem Zic {T:TS U} (a:T.Inv):∀{ks:List Nat} {os:List ((Nat×ZP U)×List Id)},Zj (Zlh T) ks=some os->Zj (Zne T.enc) ks=some (os.map fun x=>((x.1.1,x.1.2.enc),x.2))
 | [],os,h=>by grind[Zj]
 |k::ks,os,h=>by simp only[Zj]at h;split at h;rotate_left;simp at h;rename_i y d b c;cases h;simp only[Zj,Zmu a b,Zic a c,Zn6]
def ZiO:Nat->List (RET U)->List (Id×Id)
 |_,[]=>[]
 |j,x::r=>match x.id with
  |some id=>((1,j,0),id)::ZiO (j+1) r
  |none=>ZiO (j+1) r
theorem ZfA:∀(j:Nat) (l:List (RET U)) (l':List RE),l'.map (·.id)=l.map (·.id)->ZiP j l'=ZiO j l
 |j,[],[],_=>rfl
 |j,[],_::_,h=>by grind
 |j,_::_,[],h=>by grind
 |j,x::l,y::l',h=>by
  simp only[Zn6,Zox]at h;simp only[ZiP,ZiO,h.1];cases x.id with
  |none=>exact ZfA (j+1) l l' h.2
  |some id=>simp only[ZfA (j+1) l l' h.2]
def retT (X:ZG U) (T:TS U) (b:List ResultVar) (ms:List RM) (a:List (Option Nat)) (outs:List Nat):Option (ZbL U):=
 match Zj (resT X T) b with
 |some c=>match Zdg T ms a c,Zj (Zlh T) outs with
  |some res,some os=>
   if Zgp (T.freezeL (res.flatMap (·.fs)++os.flatMap (·.2))).enc (ZiO 0 res++outs.map fun k=>((0,k,0),(0,k,0))) 2&&(res.map fun x=>x.rv.enc).all (Zf6 outs)then
    some ⟨res.map (·.rv),os.map (·.1)⟩else none
  |_,_=>none
 |none=>none
theorem ZjZ (f:UOk U) {X:ZG U} (b:TOk X) {T:TS U} (e:T.Inv):∀{c:List ResultVar} {a:List (TV U)},Zj (resT X T) c=some a->Zj (ZlU X.E T.enc) c=some (TV.encs a)/\∀d∈a,d.inv T.objs
 | [],a,h=>by simp[Zj]at h;subst h;exact⟨rfl,by simp⟩
 |k::ks,a,h=>by
  simp only[Zj]at h;split at h;rotate_left;simp at h;rename_i y l g i;cases h;obtain⟨q1,n⟩:=resT_d f b e g;obtain⟨j,m⟩:=ZjZ f b e i;grind[Zj,TV.encs]
theorem ZlT (g:UOk U) {X:ZG U} (m:TOk X) {T:TS U} (e:T.Inv) {i:List ResultVar} {ms:List RM} {s:List (Option Nat)} {outs:List Nat} {t:ZbL U} (h:retT X T i ms s outs=some t):
  ∃j,Znb X.E T.enc i ms outs=some (t.enc,j)/\∀q∈j,q=true:=by
 unfold retT at h;split at h;rotate_left;simp at h;rename_i B d;obtain⟨q1,k⟩:=ZjZ g m e d;split at h;rotate_left;simp at h;rename_i a os c f;obtain⟨b,p,r,y,v,l,n⟩:=Zgm g e k c;have u:=Zic e f;split at h;rotate_left;simp at h;rename_i o;cases h;refine⟨_, ?_,l⟩;unfold Znb;rw[q1];simp only[Zap,r,if_true,p,u];have w:ZiP 0 b=ZiO 0 a:=ZfA 0 a b n;have z:(os.map fun x=>((x.1.1,x.1.2.enc),x.2)).flatMap (·.2)=os.flatMap (·.2):=by rw[List.flatMap_map]
 have A:b.all (fun x=>Zf6 outs x.rv)=(a.map fun x=>x.rv.enc).all (Zf6 outs):=by grind
 simp_all[Eng.freezeL_enc,ZbL.enc]
theorem Zf1:∀{l:List Bool},(∀q∈l,q=true)->Zmc l
 | [],_=>trivial
 | [a],h=>h a (by simp)
 |a::b::r,h=>⟨h a (by simp),Zf1 fun q c=>h q (by grind)⟩
structure Cut (U:Zd) (R:Type) where
 live:List Nat
 frz:List Nat
 κ:List (TV U)->List (TO U)->Option R
structure Par (U:Zd) (R:Type) where
 X:ZG U
 sigs:List (Nat×ZjE U)
 cuts:List (List Nat×Cut U R)
 back:Option (Cut U R)
 exits:List (Nat×Cut U R)
 lent:List Nat
 rs:List ResultVar
 rms:List RM
 rhs:List (Option Nat)
 ret:ZbL U->Option R
 keep:List Nat:=[]
 alt:List (Nat×Nat):=[]
inductive TI' where
 |c (p:List Nat) (c:Code)
 |ops (a:Array Oper) (i:Nat)
 |blk (id:Nat)
def TI'.conc:TI'->Item
 | .c _ x=> .c x
 | .ops a i=> .ops a i
 | .blk id=> .blk id
def ZcA (id:Nat):List TI'->Option (List TI')
 | .blk j::k=>if j=id then some k else ZcA id k
 |_::k=>ZcA id k
 | []=>none
noncomputable def agree {c:Type} (a b:Option c):Option c:= @ite _ (a=b) (Classical.propDecidable _) a none
variable {R:Type}
def Zg0:Nat->List (AET U)->List (Id×Id)
 |_,[]=>[]
 |k,x::r=>match x.id with
  |some id=>((0,k,0),id)::Zg0 (k+1) r
  |none=>Zg0 (k+1) r
def Zm4 (d:Nat):List (Nat×Nat)->Option Nat
 | []=>none
 |x::l=>if x.1=d then some x.2 else Zm4 d l
def Zmq (P:Par U R) (dst:Option Nat) (g:Nat):Option (Nat×ZjE U):=
 match (match dst with |some d=>Zm4 d P.alt |none=>none)with
 |some k=>match P.sigs[k]? with
  |some x=>if x.1 == g then some x else none
  |none=>none
 |none=>P.sigs.find? fun x=>x.1 == g
theorem ZjW {P:Par U R} {dst:Option Nat} {g:Nat} {a:Nat×ZjE U} (h:Zmq P dst g=some a):a∈P.sigs/\a.1=g:=by
 unfold Zmq at h;grind
def ck {R:Type} (c:Option Bool) (k:Option R):Option R:=match c with
 |none=>k
 |some b=>chk b k
theorem ZmX {R:Type} {c:Option Bool} {k:Option R} {r:R} (h:ck c k=some r):c≠some false/\k=some r:=by
 cases c with
 |none=>exact⟨by simp,h⟩
 |some b=>
  obtain⟨a,h⟩:=Zi h;simp_all
def fnOf (P:Par U R) (dst:Option Nat):Option (TV U)->Option (Option Bool×Nat×List (TV U)×List (TV U))
 |some (.fn g a b)=>some (none,g,a,b)
 |some (.v .fnc x)=>match (match dst with |some d=>Zm4 d P.alt |none=>none)with
  |some k=>match P.sigs[k]? with
   |some s=>some (some (decide (x=some s.1)),s.1,[],[])
   |none=>none
  |none=>none
 |_=>none
def callT (P:Par U R) (T:TS U) (i:Nat) (dst:Option Nat) (c:Call) (j:Zk U->Option R):Option R:=
 match c.callee with
 | .value f=>match fnOf P dst (evT P.X T.slots 0 f)with
  |some (b,g,first,caps)=>ck b (match Zmq P dst g with
   |some h=>match Zdt P.X T.slots c.args.toList h.2.pts with
    |some k=>match Zjw T h.2.ms h.2.hs (first++k++caps)with
     |some d=>if Zgp (T.freezeL (d.flatMap (·.fs))).enc (Zg0 0 d) 1&&c.args.toList.all ZE&&ZE f&&ZlV (d.map (·.id)) (d.map (·.ref)) (d.map (·.arg.rk))then match h.2.sig (d.map (·.arg))with
      |some s=>s.o.bind fun a=>match ZgU T i d (s.give a)with
       |some e=>j e
       |none=>none
      |none=>none
      else none
     |none=>none
    |none=>none
   |none=>none)
  |none=>none
 |_=>none
def Zch (o:Oper):Bool:=match o.op with
 | .call c=>match c.callee with
  | .value _=>true
  |_=>false
 |_=>false
def Zk2 (P:Par U R) (T:TS U) (i:Nat) (o:Oper) (a:Zk U->Option R):Option R:=
 if Zch o then match o.op with
  | .call c=>callT P T i o.dst c a
  |_=>none
 else ZmW P.X T i o.op o.type a
def okE (P:Par U R) (T:TS U) (i:Nat) (o:Oper) (e:Zk U):Bool:=
 fresh T i e&&(if Zch o then Zdq P.X.E o else Zdu T.enc (e.enc [])&&ZfB P.X.E o)
def fpT (P:Par U R) (T:TS U) (o:Oper) (e:Zk U):Fp:=
 ⟨if Zch o then Za0 P.X.E T.enc.slots T.enc.objs o.op.operands.toList else Zea P.X.E o.op T.enc.slots T.enc.objs,e.wr.map (·.1),e.frz⟩
def Zio (ops:Array Oper) (T:TS U) (o:Oper) (a:Bool->TS U->Option R):Option R:=
 match o.guard with
 |none=>a true T
 |some (g,w)=>match (ops[g]?).bind (·.dst)with
  |some t=>match T.slots t with
   | .v .bool b=>bif b then a w (T.setO (some t) (.v .bool true))else a (!w) (T.setO (some t) (.v .bool false))
   | .undef=>a false T
   |_=>none
  |none=>a false T
def ZmE (X:ZG U) (T:TS U) (o:Oper):Option (Bool×Bool):=
 match o.op with
 | .binOp b t x (.const (.slice none 0 0)) _=>match X.get t,evT X T.slots 0 x with
  |some e,some d=>match e.ti.d with
   | .sl _=>match (match b with | .eql=>some true | .neq=>some false |_=>none)with
    |some q=>match d with
     | .v (.sl _) xs=>some (List.isEmpty xs,q)
     | .full id _=>match T.objs id with
      |some (.arr _ xs _)=>some (List.isEmpty xs,q)
      |_=>none
     |_=>none
    |none=>none
   |_=>none
  |_,_=>none
 |_=>none
def soften1 (T:TS U) (id:Id):TS U:=match T.objs id with
 |some (.arr t xs _)=>{T with objs:=upd T.objs id (some (.arr t xs true)),fz:=upd T.fz id false}
 |_=>T
def softenL (T:TS U):List Id->TS U
 | []=>T
 |id::r=>softenL (soften1 T id) r
def softIds (T:TS U) (frz:List Nat):List Id:=(frz.filter fun s=>Nat.ble 400000 s).flatMap fun s=>(T.slots (s % 100000)).enc.ids T.enc.objs depth
def Zkp (P:Par U R) (c:Cut U R) (T:TS U):Option R:=
 match ZkG (softenL T (softIds T c.frz)) P.lent c.live (c.frz.filter fun s=> !Nat.ble 400000 s)with
 |some q=>c.κ q.1 q.2
 |none=>none
def Zfy (T:TS U) (id:Id):TS U:=match T.objs id with
 |some (.own t _ _ xs _ none)=>if T.fz id=false then {T with objs:=upd T.objs id (some (.arr t xs false))}else T
 |_=>T
def ZdM (T:TS U):List Id->TS U
 | []=>T
 |id::r=>ZdM (Zfy T id) r
def isOwnT:Option (TO U)->Bool
 |some (.own _ _ _ _ _ none)=>true
 |_=>false
def Zib (T:TS U) (a:List (TV U)):List Id:=(TV.ownL T a).filter fun id=>isOwnT (T.objs id)
def Zcq (X:ZG U) (T:TS U) (id:Id):TS U:=match T.objs id with
 |some (.arr (.st n) xs false)=>match X.owns.find? (·.n == n)with
  |some q=>if T.fz id=false then {T with objs:=upd T.objs id (some (.own (.st n) q.c q.u xs 0 none))}else T
  |none=>T
 |_=>T
def Zfx (T:TS U):List Operand->List (TV U)
 | []=>[]
 | .tmp s::r=>T.slots s::Zfx T r
 |_::r=>Zfx T r
def preT (a:List Nat) (X:ZG U) (T:TS U) (o:Oper):Option (TS U):=match o.dst with
 |some d=>if a.contains (1000000+d)then match Zib T (Zfx T o.op.operands.toList)with
   | []=>none
   |l=>some (ZdM T l)
  else if a.contains (2000000+d)then match Zfx T o.op.operands.toList with
   | .full id _::_=>match T.objs id with
    |some (.arr _ _ _)=>some (Zcq X T id)
    |_=>none
   |_=>none
  else none
 |none=>none
def ZiR (X:ZG U) (T:TS U):List ResultVar->List RM->List (TV U)
 |rv::r,.p::m=>match resT X T rv with
  |some d=>d::ZiR X T r m
  |none=>ZiR X T r m
 |_::r,_::m=>ZiR X T r m
 |_,_=>[]
def Zlu (P:Par U R) (T:TS U):Option R:=
 match retT P.X (ZdM T (Zib T (ZiR P.X T P.rs P.rms))) P.rs P.rms P.rhs P.lent with
 |some t=>P.ret t
 |none=>none
noncomputable def evl (P:Par U R):Nat->Option (Array Oper×List Fp)->List TI'->TS U->Option R
 |0,_,_,_=>none
 |n+1,some (ops,hist),pre,T=>match ops[hist.length]? with
  |none=>if ZgP ops T.ep hist&&decide (hist.length=ops.size)then evl P n none pre T.next else none
  |some o=>Zio ops T o fun g T=>match g with
   |true=>Zk2 P T hist.length o fun e=>if okE P T hist.length o e&&live ops o T.enc (fpT P T o e)then evl P n (some (ops,hist++[fpT P T o e])) pre (T.app hist.length o.dst e)else none
   |false=>if Zdq P.X.E o&&live ops o T.enc {}then evl P n (some (ops,hist++[{}])) pre (T.app hist.length o.dst {val:= .undef})else none
 |n+1,none,[],T=>match P.back with
  |some c=>Zkp P c T
  |none=>Zlu P T
 |n+1,none,.blk _::pre,T=>evl P n none pre T
 |n+1,none,.ops ops i::pre,T=>match ops[i]? with
  |none=>evl P n none pre T.next
  |some o=>match preT P.keep P.X T o with
  |some T'=>evl P n none (.ops ops i::pre) T'
  |none=>Zio ops T o fun g T=>match g with
   |true=>match ZmE P.X T o with
    |some (em,q)=>if Zdq P.X.E o&&ZfB P.X.E o then bif em then agree (evl P n none (.ops ops (i+1)::pre) (T.app i o.dst {val:= .v .bool true})) (evl P n none (.ops ops (i+1)::pre) (T.app i o.dst {val:= .v .bool false}))
      else evl P n none (.ops ops (i+1)::pre) (T.app i o.dst {val:= .v .bool (!q)})
     else none
    |none=>Zk2 P T i o fun e=>if okE P T i o e then evl P n none (.ops ops (i+1)::pre) (T.app i o.dst e)else none
   |false=>if Zdq P.X.E o then evl P n none (.ops ops (i+1)::pre) (T.app i o.dst {val:= .undef})else none
 |n+1,none,.c p c::pre,T=>match P.cuts.find? fun x=>x.1 == p with
  |some x=>Zkp P x.2 T
  |none=>match c with
   | .skip=>evl P n none pre T
   | .seq a b=>evl P n none (.c (0::p) a:: .c (1::p) b::pre) T
   | .block id b=>evl P n none (.c (4::p) b:: .blk id::pre) T
   | .region _ ops false=>evl P n none (.ops ops 0::pre) T
   | .region _ ops true=>evl P n (some (ops,[])) pre T
   | .cond c a b=>if ZE c then match evT P.X T.slots 0 c with
    |some (.v .bool x)=>bif x then evl P n none (.c (2::p) a::pre) T else evl P n none (.c (3::p) b::pre) T
    |_=>none
    else none
   | .exit id=>match ZcA id pre with
    |some d=>evl P n none d T
    |none=>match P.exits.find? fun x=>x.1 == id with
     |some x=>Zkp P x.2 T
     |none=>none
   | .ret=>Zlu P T
   |_=>none
end
end Eng
namespace Eng
open Go
section
variable {U:Zd} {R:Type}
def atP (root:Code×List Item):List Nat->Option (Code×List Item)
 | []=>some root
 |d::p=>match atP root p with
  |some (c,k)=>match d,c with
   |0,.seq a b=>some (a,.c b::k)
   |1,.seq _ b=>some (b,k)
   |2,.cond _ a _=>some (a,k)
   |3,.cond _ _ b=>some (b,k)
   |4,.block id b=>some (b,.blk id::k)
   |5,.loop b=>some (b,.lp b::k)
   |_,_=>none
  |none=>none
def Wf (root:Code×List Item) (base:List Item):List TI'->Prop
 | []=>True
 | .c p c::k=>atP root p=some (c,k.map TI'.conc++base)/\Wf root base k
 | .blk _::k=>Wf root base k
 | .ops _ _::k=>Wf root base k
def Zez (E:Env) (g:Nat) (b:ZjE U):Prop:=
 ∀args s,b.sig args=some s->∀a,s.o=some a->Fun E g (args.map ZP.enc) (s.give a).enc/\ZeA args (s.give a)
def Hcut (P:Par U R) (C:Ctx) (fm:Fm) (fn:Func) (RT:Ret) (r:R) (a:Cut U R) (k:List Item):Prop:=
 ∀b os,(mkC P.lent a.live b os).Inv->a.κ b os=some r->AWP C fm (ZiQ C fn RT) k (mkC P.lent a.live b os).enc
structure Hyp (P:Par U R) (C:Ctx) (fm:Fm) (fn:Func) (RT:Ret) (r:R) (root:Code×List Item) (base:List Item):Prop where
 hU:UOk U
 hX:TOk P.X
 hE:Zl C.E
 hCE:C.E=P.X.E
 mixed:C.E.prog.follows .mixedOrders=true
 rs:fn.results.toList=P.rs
 ds:fm.ds=[]
 sigs:∀x∈P.sigs,Zez P.X.E x.1 x.2
 cuts:∀x∈P.cuts,∀c k,atP root x.1=some (c,k)->Hcut P C fm fn RT r x.2 (.c c::k)
 back:∀c,P.back=some c->Hcut P C fm fn RT r c base
 noback:P.back=none->base=[]
 exits:∀x∈P.exits,∃k,Zaw x.1 base=some k/\Hcut P C fm fn RT r x.2 k
 ret:∀t,P.ret t=some r->t.enc=RT
section
variable {P:Par U R} {C:Ctx} {fm:Fm} {fn:Func} {RT:Ret} {r:R} {root:Code×List Item} {base:List Item} {G:Zg6}
theorem Zkl {T:TS U} (g:T.Inv) {id:Id} {o o':TO U} (l:T.objs id=some o) (i:∀n,o'.len?=some n->o.len?=some n) (hi:∀lk,o'.inv lk):({T with objs:=upd T.objs id (some o')}:TS U).Inv:=by
 have a:∀q,Zgz T.objs q->Zgz (upd T.objs id (some o')) q:=fun q ⟨b,c,h2⟩=>by
  by_cases he:q.1=id
  ·refine⟨o',by grind[upd],fun n j=>h2 n ?_⟩;simp_all
  ·exact⟨b,by grind[upd],h2⟩
 refine⟨fun k q e=>a q (g.slots k q e),fun f b c=> ?_⟩;simp only[upd]at c;split at c
 ·simp_all
 ·have:=g.objs f b c;cases b with
  |box cs=>exact fun d h q e=>a q (this d h q e)
  |_=>trivial
theorem Zkv (T:TS U) (id:Id) (o:TO U):({T with objs:=upd T.objs id (some o)}:TS U).enc=T.enc.obj id o.enc:=by refine ZeQ rfl ?_ rfl rfl;funext x;simp only[TS.enc,St.obj,upd];split<;>rfl
theorem Zhh (T:TS U) (id:Id) (d:T.Inv):(Zfy T id).Inv/\∀(C:Ctx) (fm:Fm) (G:Zg6) (k:List Item),AWP C fm G k (Zfy T id).enc->AWP C fm G k T.enc:=by
 unfold Zfy;split
 ·rename_i t c u xs lo a;split
  ·rename_i b;refine⟨Zkl d a (fun n h=>h) (fun _=>trivial),fun C fm G k h=> ?_⟩;rw[Zkv]at h;exact Zju (by rw[Zc a,Zfb]) b h
  simp_all
 simp_all
theorem Zbb:∀(l:List Id) (T:TS U),T.Inv->(ZdM T l).Inv/\∀(C:Ctx) (fm:Fm) (G:Zg6) (k:List Item),AWP C fm G k (ZdM T l).enc->AWP C fm G k T.enc
 | [],T,a=>⟨a,fun _ _ _ _ h=>h⟩
 |id::r,T,a=>by obtain⟨d,e⟩:=Zhh T id a;obtain⟨b,c⟩:=Zbb r _ d;exact⟨b,fun C fm G k h=>e C fm G k (c C fm G k h)⟩
theorem soften1_awp (T:TS U) (id:Id) (c:T.Inv):(soften1 T id).Inv/\∀(C:Ctx) (fm:Fm) (G:Zg6) (k:List Item),AWP C fm G k (soften1 T id).enc->AWP C fm G k T.enc:=by
 unfold soften1;split
 ·rename_i t xs b a;have hi:=Zkl (o':= .arr t xs true) c a (fun n h=>h) (fun _=>trivial);refine⟨⟨hi.slots,hi.objs⟩,fun C fm G k h=>awp_soften (id:=id) (sz:=U.tsize t) (es:=xs.map (U.encE t)) (fix:=b) (by rw[Zc a,ZI]) ?_⟩;have e:({T with objs:=upd T.objs id (some (.arr t xs true)),fz:=upd T.fz id false}:TS U).enc=T.enc.soften id (U.tsize t) (xs.map (U.encE t)):=by refine ZeQ rfl ?_ rfl rfl;funext x;simp only[TS.enc,St.soften,upd];split<;>rfl
  simp_all
 simp_all
theorem softenL_awp:∀(l:List Id) (T:TS U),T.Inv->(softenL T l).Inv/\∀(C:Ctx) (fm:Fm) (G:Zg6) (k:List Item),AWP C fm G k (softenL T l).enc->AWP C fm G k T.enc
 | [],T,a=>⟨a,fun _ _ _ _ h=>h⟩
 |id::r,T,a=>by obtain⟨d,e⟩:=soften1_awp T id a;obtain⟨c,b⟩:=softenL_awp r _ d;exact⟨c,fun C fm G k h=>e C fm G k (b C fm G k h)⟩
theorem Zft (g:UOk U) {X:ZG U} (f:TOk X) (T:TS U) (id:Id) (j:T.Inv):(Zcq X T id).Inv/\∀(C:Ctx) (fm:Fm) (G:Zg6) (k:List Item),AWP C fm G k (Zcq X T id).enc->AWP C fm G k T.enc:=by
 unfold Zcq;split
 ·rename_i n xs a;split
  ·rename_i q o;have b:q.n=n:=by grind
   subst b;obtain⟨m,p⟩:=f.own q (ZoC o);split
   ·rename_i i;refine⟨Zkl j a (fun n h=>h) (fun _=>trivial),fun C fm G k h=> ?_⟩;rw[Zkv]at h;refine ZgY (by rw[Zc a,ZI];rfl) i (fun e d=> ?_) m h;obtain⟨x,_,rfl⟩:=Zod.1 d;obtain⟨l,c⟩:=p x;exact⟨_,_,by rw[Zd.encE,g.enc_cells],by rw[ZnB,c];rfl⟩
   simp_all
  simp_all
 simp_all
theorem Zlg (b:UOk U) {X:ZG U} (d:TOk X) {a:List Nat} {T T':TS U} {o:Oper} (c:T.Inv) (h:preT a X T o=some T'):T'.Inv/\∀(C:Ctx) (fm:Fm) (G:Zg6) (k:List Item),AWP C fm G k T'.enc->AWP C fm G k T.enc:=by
 grind[preT,Zbb,Zft]
theorem ZiB {ops:Array Oper} {i:Nat} {k:List Item} {st st':St} (hi:i < ops.size) (h:Exec C fm ops i st st') (h1:AWP C fm G (.ops ops (i+1)::k) st'):AWP C fm G (.ops ops i::k) st:=by intro ρ S a w hrep hd b k0 cs hb;have hrep:Rep C (fun j=>j < i) ρ S st a.tmps w:=hrep;obtain⟨ρ',S',a',w',hr',hd',hs⟩:=h (fun j=>j < i) (by simp) ρ S a w hrep hd b (List.range' (i+1) (ops.size - (i+1))) (k.map conc++k0) cs hb;obtain⟨e2,a2',w2,hg2,harr⟩:=h1 ρ' S' a' w' (hr'.weakX (fun j hj=>by grind[Xof])) hd' b k0 cs hb;refine⟨e2,a2',w2,hg2,.of_steps ?_ harr⟩;grind[conc,Zbc]
theorem ZlG {k:List Item} {e:St} {t:Nat} (h:∀b,AWP C fm G k (e.set t (.p (.bool b)))):AWP C fm G k (e.set t .anyb):=by
 intro ρ S a w c i;have f:=c.slots t;have j:(e.set t .anyb).slots t= .anyb:=by simp[St.set,upd]
 rw[j]at f;generalize hv:a.tmps.getD t undef=v at f;cases f with
 |anyb b=>
  refine h b ρ S a w ?_ i;have g:∀d,RelD w S ρ (a.tmps.getD d undef) ((e.set t (.p (.bool b))).slots d):=fun d=>by
   have:=c.slots d;simp only[St.set,upd]at this|-
   split
   ·rename_i l;subst l;rw[hv];exact .p _ _ (.bool b)
   simp_all
  exact⟨c.nt,c.grow,c.frame,c.s0,c.sIn,g,c.objs,c.own,c.inj,c.known,c.young,c.fzk,c.glob,c.sOut,c.ep1,c.quiet,c.lay,c.fam⟩
theorem ZhP (g:Nat) (a b:List D):Zck (fnD g a b)=some (g,a,b):=by
 grind[fnD,Zck,Zx]
theorem Zev:∀(j:Nat) (l:List (AET U)) (l':List AE),l'.map (·.id)=l.map (·.id)->Zaa j l'=Zg0 j l
 |j,[],[],_=>rfl
 |j,[],_::_,h=>by grind
 |j,_::_,[],h=>by grind
 |j,x::l,y::l',h=>by
  simp only[Zn6,Zox]at h;simp only[Zaa,Zg0,h.1];cases x.id with
  |none=>exact Zev (j+1) l l' h.2
  |some id=>simp only[Zev (j+1) l l' h.2]
theorem ZhE (a b:List (TV U)):TV.encs (a++b)=TV.encs a++TV.encs b:=by grind[Zai]
theorem Zlv (e:TOk P.X) {T:TS U} (i:T.Inv) {dst:Option Nat} {f:Operand} {g:Nat} {a b:List (TV U)} {c:Option Bool} (o:c≠some false) (h:fnOf P dst (evT P.X T.slots 0 f)=some (c,g,a,b)):
  ev P.X.E T.enc.slots 0 f=fnD g (TV.encs a) (TV.encs b)/\(TV.fn g a b).inv T.objs:=by
 unfold fnOf at h;split at h
 ·rename_i l n b' d;simp only[ZnO,ZnP]at h;obtain⟨-,rfl,rfl,rfl⟩:=h;exact⟨by simp_all[Zb,TV.enc],ZA i d⟩
 ·rename_i x d;split at h;rotate_left;simp at h;rename_i k p;split at h;rotate_left;simp at h;rename_i s m;simp only[ZnO,ZnP]at h;obtain⟨rfl,rfl,rfl,rfl⟩:=h;have j:x=some s.1:=by simp_all
  subst j;exact⟨by rw[Zb e d];rfl,Ze rfl⟩
 simp_all
theorem Zh2 (H:Hyp P C fm fn RT r root base) {T:TS U} (L:T.Inv) {ops:Array Oper} {i:Nat} {o:Oper} {W:Zk U->Option R} (Y:ZX ops T.enc o.guard=some true) (h:Zk2 P T i o W=some r):
  ∃e,ZL T i e/\W e=some r/\(okE P T i o e=true->∃cs,OE C ops i o T.enc (e.enc cs) (fpT P T o e).R):=by
 unfold Zk2 at h;split at h
 ·rename_i p;unfold Zch at p;split at p;rotate_left;simp at p;rename_i c t;split at p;rotate_left;simp at p;rename_i f l;rw[t]at h;simp only[callT,l]at h;split at h;rotate_left;simp at h;rename_i b g n w hf
  obtain⟨hb,h⟩:=ZmX h;obtain⟨I,A⟩:=Zlv H.hX L hb hf;split at h;rotate_left;simp at h;rename_i E J;obtain⟨v,O⟩:=ZjW J;split at h;rotate_left;simp at h;rename_i ds K;split at h;rotate_left;simp at h;rename_i V z;split at h;rotate_left;simp at h;rename_i k;simp only[Znu]at k;split at h;rotate_left;simp at h;rename_i s hs;obtain⟨a,ha,h⟩:=bind_some h;split at h;rotate_left;simp at h;rename_i e X;obtain⟨m,N⟩:=H.sigs E v _ s hs a ha;have G:∀d∈n++ds++w,d.inv T.objs:=by
   intro d y;simp only[Zn7]at y;rcases y with (y |y) |y
   ·exact fun q hq=>A q (by grind[TV.fulls,Zq])
   ·grind[Zeq]
   ·exact fun q hq=>A q (by grind[TV.fulls,Zq])
  obtain⟨F,D,p1,ph,p2,Z,S,p5,M,p7⟩:=ZlH H.hU L G z;refine⟨e,Zjq z N X,h,fun u=>⟨[], ?_⟩⟩;have j:Zch o=true:=by grind[Zch]
  simp only[okE,j,if_true,Znu]at u;have B:ZlX C.E T.enc c E.2.pts E.2.ms=some (g,F++D):=by
   have pr:(F++D).map (·.arg.rk)=V.map (·.arg.rk):=by rw[show (fun x:AE=>x.arg.rk)=Arg.rk∘(fun x:AE=>x.arg)from rfl,<-ZoB,Z,ZoB];exact List.map_congr_left fun x _=>rk_enc _
   unfold ZlX;rw[H.hCE];simp only[l,I,ZhP,ZbW H.hX K,<-ZhE,Zap,p2,if_true,p1,ph,S,<-Eng.freezeL_enc,Zev 0 V _ M,M,p7,pr,k.1.1.1,k.1.1.2,k.1.2,k.2,Bool.and_self]
  have Q:(fpT P T o e).R=Za0 C.E T.enc.slots T.enc.objs c.operands.toList:=by simp only[fpT,j,if_true,H.hCE,t,Op.operands]
  rw[Q];refine .call (pts:=E.2.pts) (ms:=E.2.ms) Y t (by rw[H.hCE];exact u.2) B (Zf1 p5) ?_ (Zjr M S X);rw[Z,H.hCE,<-O];rw[ZoB]at m;exact m
 ·rename_i p;obtain⟨e,cs,h1,h2,h3,h4⟩:=snd H.hU H.hX L h;refine⟨e,h3,h4,fun u=>⟨cs, ?_⟩⟩;have j:Zch o=false:=by simpa using p
  simp only[okE,j,Znv,if_false,Znu]at u;have Q:(fpT P T o e).R=Zea C.E o.op T.enc.slots T.enc.objs:=by simp only[fpT,j,Znv,if_false,H.hCE]
  rw[Q];exact .op Y (by rw[H.hCE];exact h1) (by rw[H.hCE];exact u.2.2) u.2.1 h2
theorem Zh5 {T:TS U} {t:Nat} {d:TV U} (h:T.slots t=d):T.setO (some t) d=T:=by
 have:upd T.slots t d=T.slots:=by
  grind[upd]
 simp_all[TS.setO]
theorem ZgJ {ops:Array Oper} {T:TS U} {o:Oper} {c:Bool->TS U->Option R} (h:Zio ops T o c=some r):∃g,ZX ops T.enc o.guard=some g/\c g T=some r:=by
 unfold Zio at h;unfold ZX;split at h
 ·simp_all
 ·rename_i g w d;rw[d];simp only;split at h
  ·rename_i t e;rw[e];simp only;rw[show T.enc.slots t=(T.slots t).enc from rfl];split at h
   ·rename_i b a;rw[a];cases b
    ·refine⟨!w, ?_,by grind[Zh5]⟩;simp_all[TV.enc,Zd.encE]
    simp_all[Zh5,TV.enc,Zd.encE]
   ·rename_i a;rw[a];exact⟨false,rfl,h⟩
   simp_all
  grind
theorem Zae {id:Nat}:∀{pre b:List TI'},ZcA id pre=some b->(∀base,Zaw id (pre.map TI'.conc++base)=some (b.map TI'.conc++base))/\(Wf root base pre->Wf root base b)
 | [],_,h=>by grind[ZcA]
 |x::k,b,h=>by
  cases x with
  |blk j=>
   simp only[ZcA]at h;split at h
   ·rename_i e;cases h;exact⟨fun base=>by grind[TI'.conc,Zaw],fun hw=>hw⟩
   ·rename_i e;obtain⟨q1,d⟩:=Zae h;exact⟨fun base=>by grind[TI'.conc,Zaw],fun hw=>d hw⟩
  |c p c=>
   simp only[ZcA]at h;obtain⟨q1,d⟩:=Zae h;exact⟨fun base=>by grind[TI'.conc,Zaw],fun hw=>d hw.2⟩
  |ops a i=>
   simp only[ZcA]at h;obtain⟨q1,d⟩:=Zae h;exact⟨fun base=>by grind[TI'.conc,Zaw],fun hw=>d hw⟩
theorem ZbU {id:Nat}:∀{pre:List TI'},ZcA id pre=none->∀base,Zaw id (pre.map TI'.conc++base)=Zaw id base
 | [],_,base=>rfl
 |x::k,h,base=>by
  cases x with
  |blk j=>
   simp only[ZcA]at h;split at h
   ·grind
   ·rename_i b;simp only[Zn6,ZnX,TI'.conc,Zaw,b,if_false];exact ZbU h base
  |c p c=>simp only[ZcA]at h;simp only[Zn6,ZnX,TI'.conc,Zaw];exact ZbU h base
  |ops a i=>simp only[ZcA]at h;simp only[Zn6,ZnX,TI'.conc,Zaw];exact ZbU h base
theorem Zd9 (H:Hyp P C fm fn RT r root base) {T:TS U} (e:T.Inv) {a:Cut U R} {k:List Item} (d:Hcut P C fm fn RT r a k) (h:Zkp P a T=some r):AWP C fm (ZiQ C fn RT) k T.enc:=by unfold Zkp at h;split at h;rotate_left;simp at h;rename_i q g;obtain⟨b,c⟩:=softenL_awp (softIds T a.frz) T e;obtain⟨f,i⟩:=Zjn (C:=C) (r:=fm) (G:=ZiQ C fn RT) (k:=k) H.hU b g;exact c C fm _ k (i (d q.1 q.2 f h))
theorem ZiY (y:TOk P.X) {T:TS U} (m:T.Inv) {o:Oper} {i em q} (h:ZmE P.X T o=some (em,q)):
  (em=false->Zf P.X.E T.ep i o.op o.type T.enc.slots T.enc.objs=some {val:= .p (.bool !q)})/\(em=true->Zf P.X.E T.ep i o.op o.type T.enc.slots T.enc.objs=some {val:= .anyb}):=by
 unfold ZmE at h;split at h;rotate_left;simp at h;rename_i b t x u c;rw[c];split at h;rotate_left;simp at h;rename_i e d B k;split at h;rotate_left;simp at h;rename_i A f;split at h;rotate_left;simp at h;rename_i s p;have fin:∀v:D,(Zdi e.ti.d (.const (.slice none 0 0)) (T.enc |> fun _=>d.enc)=some v)->∀a,(v=if a then .anyb else .p (.bool false))->some (a,s)=some (em,q)->
   (em=false->Zf P.X.E T.ep i (.binOp b t x (.const (.slice none 0 0)) u) o.type T.enc.slots T.enc.objs=some {val:= .p (.bool !q)})/\(em=true->Zf P.X.E T.ep i (.binOp b t x (.const (.slice none 0 0)) u) o.type T.enc.slots T.enc.objs=some {val:= .anyb}):=by
  intro v w a g z;grind[ZnO,ZnP,Operand.isNil,Znv,Zf,Zt,Zb,reduceCtorEq,D.notb]
 split at h
 ·rename_i r xs;refine fin _ ?_ _ rfl h;simp only[f,TV.enc,Zd.encE,Zdi,List.isEmpty_map]
 ·rename_i id n;split at h;rotate_left;simp at h;rename_i r xs fix l;have j:=Zbg m k l;refine fin _ ?_ _ rfl h;simp only[f,TV.enc,Zdi];rw[j];cases xs<;>simp
 simp_all
theorem ZmS (H:Hyp P C fm fn RT r root base):∀(n:Nat),
  (∀pre T,Wf root base pre->T.Inv->evl P n none pre T=some r->AWP C fm (ZiQ C fn RT) (pre.map TI'.conc++base) T.enc)/\
  (∀pre T ops l,Wf root base pre->T.Inv->evl P n (some (ops,l)) pre T=some r->DW C fm (ZiQ C fn RT) (pre.map TI'.conc++base) ops l T.enc):=by
 intro n
 induction n with
 |zero=>exact⟨fun pre T _ _ h=>by simp[evl]at h,fun pre T ops l _ _ h=>by simp[evl]at h⟩
 |succ n ih=>
  obtain⟨j,K⟩:=ih;refine⟨fun pre T hw f h=> ?_,fun pre T ops l hw f h=> ?_⟩
  ·match pre with
   | []=>
    simp only[evl]at h;split at h
    ·rename_i c hc;exact Zd9 H f (H.back c hc) h
    ·rename_i Y;rw[H.noback Y];unfold Zlu at h;obtain⟨f,W⟩:=Zbb (Zib T (ZiR P.X T P.rs P.rms)) T f;refine W _ _ _ _ ?_;split at h;rotate_left;simp at h;rename_i t A;obtain⟨ps,q1,M⟩:=ZlT H.hU H.hX f A;exact Zm2 _ ps P.rms P.lent H.hE (by rw[H.hCE,H.rs];exact q1) (H.ret t h) (Zf1 M) H.ds
   | .blk id::pre=>
    simp only[evl]at h;exact Zay (ps':=[]) H.hE 1 _ _ [] rfl (by simp) (j pre T hw f h)
   | .ops ops i::pre=>
    simp only[evl]at h;split at h
    ·rename_i hn;exact Zay (ps':=[]) H.hE 1 (.ops ops i::_) _ [] (by simp only[run,hn];rfl) (by simp) (j pre T.next hw f.next h)
    ·rename_i o G;have hi:i < ops.size:=(Znq.1 G).1;split at h
     ·rename_i T' Q;obtain⟨X,W⟩:=Zlg H.hU H.hX f Q;exact W _ _ _ _ (j (.ops ops i::pre) T' hw X h)
     obtain⟨g,L,h⟩:=ZgJ h;cases g with
     |true=>
      simp only at h;split at h
      ·rename_i em q N;split at h;rotate_left;simp at h;rename_i d;simp only[Znu]at d;obtain⟨c1,c2⟩:=ZiY (i:=i) H.hX f N;have R:∀b,ZL T i {val:=(.v .bool b:TV U)}:=fun b=>ZL.pure (Zah _ _)
       have fr:∀b,fresh T i {val:=(.v .bool b:TV U)}=true:=fun b=>rfl
       have step:∀(v:D),Zf P.X.E T.ep i o.op o.type T.enc.slots T.enc.objs=some {val:=v}->AWP C fm (ZiQ C fn RT) (.ops ops (i+1)::(pre.map TI'.conc++base)) (T.enc.app i o.dst {val:=v})->AWP C fm (ZiQ C fn RT) (.ops ops i::(pre.map TI'.conc++base)) T.enc:=fun v aa h1=>
        Zmb (e:={val:=v}) H.hE G L (by rw[H.hCE];exact aa) (by rw[H.hCE];exact d.2) rfl (by simp) h1
       have E:∀b,evl P n none (.ops ops (i+1)::pre) (T.app i o.dst {val:= .v .bool b})=some r->AWP C fm (ZiQ C fn RT) (.ops ops (i+1)::(pre.map TI'.conc++base)) (T.enc.app i o.dst {val:= .p (.bool b)}):=fun b Y=>by have:=j (.ops ops (i+1)::pre) _ hw (f.app (fr b) (R b)) Y;rw[Zbk T i o.dst _ []]at this;exact this
       cases em with
       |false=>exact step _ (c1 rfl) (E _ h)
       |true=>
        simp only[cond_true,agree]at h;split at h;rotate_left;simp at h;rename_i Z;have A:=E true h;have hf:=E false (by rw[<-Z];exact h);refine step _ (c2 rfl) ?_;cases z:o.dst with
        |none=>rw[z]at A;exact A
        |some t=>
         rw[z]at A hf;exact ZlG fun b=>by cases b;(·exact hf);exact A
      ·obtain⟨e,F,s,J⟩:=Zh2 H f L h;split at s;rotate_left;simp at s;rename_i d;obtain⟨cs,I⟩:=J d;have B:fresh T i e=true:=by simp only[okE,Znu]at d;exact d.1
       refine ZiB hi (I.exec H.hE G) ?_;have:=j (.ops ops (i+1)::pre) _ hw (f.app B F) s;rw[Zbk T i o.dst e cs]at this;exact this
     |false=>
      simp only at h;split at h;rotate_left;simp at h;rename_i z;have e0:ZL T i {val:=(.undef:TV U)}:=ZL.pure (Ze rfl);have:=j (.ops ops (i+1)::pre) _ hw (f.app rfl e0) h;rw[Zbk T i o.dst _ []]at this;exact ZiB hi (ZgM G L (by rw[H.hCE];exact z)) this
   | .c p c::pre=>
    obtain⟨u,m⟩:=hw;simp only[evl]at h;split at h
    ·rename_i x w;have hm:=ZoC w;have V:x.1=p:=by have:=List.find?_some w;simpa using this
     exact Zd9 H f (H.cuts x hm c _ (by rw[V];exact u)) h
    ·cases c with
     |skip=>simp only at h;exact Zay (ps':=[]) H.hE 1 _ _ [] rfl (by simp) (j pre T m f h)
     |seq a b=>
      simp only at h;refine Zay (ps':=[]) H.hE 1 (.c (.seq a b)::_) _ [] rfl (by simp) (j (.c (0::p) a:: .c (1::p) b::pre) T ⟨?_, ?_,m⟩ f h)
      ·simp only[atP,u];rfl
      ·simp only[atP,u]
     |block id b=>
      simp only at h;refine Zay (ps':=[]) H.hE 1 (.c (.block id b)::_) _ [] rfl (by simp) (j (.c (4::p) b:: .blk id::pre) T ⟨?_,m⟩ f h);simp only[atP,u];rfl
     |region id ops dr=>
      cases dr with
      |false=>simp only at h;exact Zay (ps':=[]) H.hE 1 (.c (.region id ops false)::_) _ [] rfl (by simp) (j (.ops ops 0::pre) T m f h)
      |true=>simp only at h;exact ZlF H.hE H.mixed (K pre T ops [] m f h)
     |cond x a b=>
      simp only at h;split at h;rotate_left;simp at h;rename_i hl;split at h;rotate_left;simp at h;rename_i v hv;have S:ev C.E T.enc.slots 0 x= .p (.bool v):=by rw[H.hCE,Zb H.hX hv];rfl
      cases v with
      |true=>
       refine Zay (ps':=[]) H.hE 1 (.c (.cond x a b)::_) _ [] (by simp only[run,hl,if_true,S];rfl) (by simp) (j (.c (2::p) a::pre) T ⟨?_,m⟩ f h);simp only[atP,u]
      |false=>
       refine Zay (ps':=[]) H.hE 1 (.c (.cond x a b)::_) _ [] (by simp only[run,hl,if_true,S];rfl) (by simp) (j (.c (3::p) b::pre) T ⟨?_,m⟩ f h);simp only[atP,u]
     |exit id=>
      simp only at h;split at h
      ·rename_i y V;obtain⟨q1,M⟩:=Zae (root:=root) (base:=base) V;refine Zay (ps':=[]) H.hE 1 (.c (.exit id)::_) _ [] (by have w:Zaw id ((List.map TI'.conc pre).append base)=some (y.map TI'.conc++base):=q1 base;simp only[run,w]) (by simp) (j y T (M m) f h)
      ·rename_i V;split at h;rotate_left;simp at h;rename_i x w;have hm:=ZoC w;have O:x.1=id:=by have:=List.find?_some w;simpa using this
       obtain⟨k,hk,hc⟩:=H.exits x hm;have:=Zd9 H f hc h;have w:Zaw id ((List.map TI'.conc pre).append base)=some k:=by rw[<-hk,O];exact ZbU V base
       exact Zay (ps':=[]) H.hE 1 (.c (.exit id)::_) _ [] (by simp only[run,w]) (by simp) this
     |ret=>
      simp only[Zlu]at h;obtain⟨f,W⟩:=Zbb (Zib T (ZiR P.X T P.rs P.rms)) T f;refine W _ _ _ _ ?_;split at h;rotate_left;simp at h;rename_i t A;obtain⟨ps,q1,M⟩:=ZlT H.hU H.hX f A;exact Zm1 _ ps P.rms P.lent H.hE (by rw[H.hCE,H.rs];exact q1) (H.ret t h) (Zf1 M) H.ds
     |_=>simp at h
  ·simp only[evl]at h;split at h
   ·rename_i hn;split at h;rotate_left;simp at h;rename_i d;simp only[Znu,decide_eq_true_eq]at d;exact dw_end d.2 d.1 (j pre T.next hw f.next h)
   ·rename_i o G;obtain⟨g,L,h⟩:=ZgJ h;cases g with
    |true=>
     simp only at h;obtain⟨e,F,s,J⟩:=Zh2 H f L h;split at s;rotate_left;simp at s;rename_i d;simp only[Znu]at d;obtain⟨cs,I⟩:=J d.1;have B:fresh T l.length e=true:=by have:=d.1;simp only[okE,Znu]at this;exact this.1
     have:=K pre _ ops _ hw (f.app B F) s;rw[Zbk T l.length o.dst e cs]at this;refine dw_op G ⟨I, ?_,rfl,d.2⟩ this;simp[fpT,Zk.enc,ZoB,Function.comp_def]
    |false=>
     simp only at h;split at h;rotate_left;simp at h;rename_i z;simp only[Znu]at z;have e0:ZL T l.length {val:=(.undef:TV U)}:=ZL.pure (Ze rfl);have:=K pre _ ops _ hw (f.app rfl e0) h;rw[Zbk T l.length o.dst _ []]at this;exact dw_op G ⟨.skip L (by rw[H.hCE];exact z.1),rfl,rfl,z.2⟩ this
end
end
end Eng
namespace Eng
open Go
inductive Sh1 where
 |v (t:Ty) |pp (t:Ty) |full (id:Id) |sl (id:Id) |ptr (id:Id) (i j:Nat) |ptrI (id:Id) (j:Nat)
 |map (id:Id) |it (id:Id) |nilp |nilfn |undef |nils (t:Ty) |clip (t:Ty) |rp (t:Ty) (id:Id)
inductive Sh where
 |o (s:Sh1) |agg (l:List Sh1) |fn (f:Nat) (a b:List Sh1)
inductive ShO where
 |box (l:List Sh) |boxS (t:Ty) |arr (t:Ty) (fix:Bool) |map (k v:Ty) |sit |own (t:Ty) (c:Nat) (u:Ty)
abbrev Znm (U:Zd):Sh1->Type
 | .v t=>El U.car t
 | .pp t=>El U.car t
 | .full _=>Nat
 | .sl _=>Nat×Nat
 | .ptrI _ _=>Nat
 | .clip t=>List (El U.car t)
 | .rp t _=>El U.car t
 |_=>Unit
abbrev Zg4 (U:Zd):List Sh1->Type
 | []=>Unit
 |s::r=>Znm U s×Zg4 U r
abbrev Val (U:Zd):Sh->Type
 | .o s=>Znm U s
 | .agg l=>Zg4 U l
 | .fn _ a b=>Zg4 U a×Zg4 U b
abbrev Zcn (U:Zd):List Sh->Type
 | []=>Unit
 |s::r=>Val U s×Zcn U r
abbrev ValO (U:Zd):ShO->Type
 | .box l=>Zcn U l
 | .boxS t=>El U.car t
 | .arr t _=>List (El U.car t)
 | .map k v=>List (El U.car k×El U.car v)
 | .sit=>List UInt8×Nat
 | .own t _ _=>List (El U.car t)×Nat
abbrev Zal (U:Zd):List ShO->Type
 | []=>Unit
 |s::r=>ValO U s×Zal U r
section
variable {U:Zd}
def bld1:(s:Sh1)->Znm U s->TV U
 | .v t,x=> .v t x
 | .pp t,x=> .pp (U.cellsE t x)
 | .full id,n=> .full id n
 | .sl id,p=> .sl id p.1 p.2
 | .ptr id i j,_=> .ptr id i j
 | .ptrI id j,i=> .ptr id i j
 | .map id,_=> .map id
 | .it id,_=> .it id
 | .nilp,_=> .nilp
 | .nilfn,_=> .nilfn
 | .undef,_=> .undef
 | .nils t,_=> .nils t
 | .clip t,xs=> .clip t xs
 | .rp t id,x=> .rp (some ⟨t,x⟩) id
def Zjs:(l:List Sh1)->Zg4 U l->List (TV U)
 | [],_=>[]
 |s::r,v=>bld1 s v.1::Zjs r v.2
def bld:(s:Sh)->Val U s->TV U
 | .o s,x=>bld1 s x
 | .agg l,x=> .agg (Zjs l x)
 | .fn f a b,x=> .fn f (Zjs a x.1) (Zjs b x.2)
def Znj:(l:List Sh)->Zcn U l->List (TV U)
 | [],_=>[]
 |s::r,v=>bld s v.1::Znj r v.2
def bldO:(s:ShO)->ValO U s->TO U
 | .box l,x=> .box (Znj l x)
 | .boxS t,x=> .box ((U.cellsE t x).map lv)
 | .arr t fix,xs=> .arr t xs fix
 | .map k v,kv=> .map k v kv
 | .sit,p=> .sit p.1 p.2
 | .own t c u,p=> .own t c u p.1 p.2 none
def ZkK:(l:List ShO)->Zal U l->List (TO U)
 | [],_=>[]
 |s::r,v=>bldO s v.1::ZkK r v.2
def mat1:(s:Sh1)->TV U->Option (Znm U s)
 | .v t,.v t' x=>if h:t'=t then some (h▸x)else none
 | .pp t,.pp cs=>U.ofE t cs
 | .full id,.full id' n=>if id'=id then some n else none
 | .sl id,.sl id' o l=>if id'=id then some (o,l)else none
 | .ptr id i j,.ptr id' i' j'=>if id'=id/\i'=i/\j'=j then some ()else none
 | .ptrI id j,.ptr id' i j'=>if id'=id/\j'=j then some i else none
 | .map id,.map id'=>if id'=id then some ()else none
 | .it id,.it id'=>if id'=id then some ()else none
 | .nilp,.nilp=>some ()
 | .nilfn,.nilfn=>some ()
 | .undef,.undef=>some ()
 | .nils t,.nils t'=>if t'=t then some ()else none
 | .clip t,.clip t' xs=>if h:t'=t then some (h▸xs)else none
 | .rp t id,.rp (some l) id'=>if id'=id then l.as t else none
 |_,_=>none
def Zgy:(l:List Sh1)->List (TV U)->Option (Zg4 U l)
 | [],[]=>some ()
 |s::r,d::ds=>match mat1 s d,Zgy r ds with
  |some x,some y=>some (x,y)
  |_,_=>none
 |_,_=>none
def mat:(s:Sh)->TV U->Option (Val U s)
 | .o s,d=>mat1 s d
 | .agg l,.agg cs=>Zgy l cs
 | .fn f a b,.fn f' x y=>if f'=f then match Zgy a x,Zgy b y with
  |some p,some q=>some (p,q)
  |_,_=>none
  else none
 |_,_=>none
def ZmG:(l:List Sh)->List (TV U)->Option (Zcn U l)
 | [],[]=>some ()
 |s::r,d::ds=>match mat s d,ZmG r ds with
  |some x,some y=>some (x,y)
  |_,_=>none
 |_,_=>none
def matO:(s:ShO)->TO U->Option (ValO U s)
 | .box l,.box cs=>ZmG l cs
 | .boxS t,.box cs=>match Zj TV.leaf? cs with
  |some ls=>U.ofE t ls
  |none=>none
 | .arr t fix,.arr t' xs fix'=>if h:t'=t then if fix'=fix then some (h▸xs)else none else none
 | .map k v,.map k' v' kv=>if h:k'=k then if h':v'=v then some (h▸h'▸kv)else none else none
 | .sit,.sit s p=>some (s,p)
 | .own t c u,.own t' c' u' xs lo none=>if h:t'=t then if c'=c/\u'=u then some (h▸xs,lo)else none else none
 |_,_=>none
def Zi1:(l:List ShO)->List (TO U)->Option (Zal U l)
 | [],[]=>some ()
 |s::r,d::ds=>match matO s d,Zi1 r ds with
  |some x,some y=>some (x,y)
  |_,_=>none
 |_,_=>none
theorem Zig (b:UOk U) {s:Sh1} {d:TV U} {x:Znm U s} (h:mat1 s d=some x):d=bld1 s x:=by
 unfold mat1 at h;split at h
 ·split at h;rotate_left;simp at h;rename_i a;subst a;cases h;rfl
 ·grind[ZaO,bld1]
 ·split at h;rotate_left;simp at h;rename_i a;subst a;cases h;rfl
 ·split at h;rotate_left;simp at h;rename_i a;subst a;cases h;rfl
 ·split at h;rotate_left;simp at h;rename_i a;obtain⟨rfl,rfl,rfl⟩:=a;rfl
 ·split at h;rotate_left;simp at h;rename_i a;obtain⟨rfl,rfl⟩:=a;cases h;rfl
 ·split at h;rotate_left;simp at h;rename_i a;subst a;rfl
 ·split at h;rotate_left;simp at h;rename_i a;subst a;rfl
 ·rfl
 ·rfl
 ·rfl
 ·split at h;rotate_left;simp at h;rename_i a;subst a;rfl
 ·split at h;rotate_left;simp at h;rename_i a;subst a;cases h;rfl
 ·split at h;rotate_left;simp at h;rename_i a;subst a;rw[ZM h];rfl
 simp_all
theorem ZbQ (e:UOk U):∀{l:List Sh1} {c:List (TV U)} {x:Zg4 U l},Zgy l c=some x->c=Zjs l x
 | [],[],x,h=>rfl
 | [],_::_,x,h=>by grind[Zgy]
 |_::_,[],x,h=>by grind[Zgy]
 |s::r,d::c,x,h=>by simp only[Zgy]at h;split at h;rotate_left;simp at h;rename_i a b f g;cases h;rw[Zjs,<-Zig e f,<-ZbQ e g]
theorem ZmH (a:UOk U) {s:Sh} {d:TV U} {x:Val U s} (h:mat s d=some x):d=bld s x:=by
 unfold mat at h;grind[Zig,bld,ZbQ]
theorem ZdY (e:UOk U):∀{l:List Sh} {c:List (TV U)} {x:Zcn U l},ZmG l c=some x->c=Znj l x
 | [],[],x,h=>rfl
 | [],_::_,x,h=>by grind[ZmG]
 |_::_,[],x,h=>by grind[ZmG]
 |s::r,d::c,x,h=>by simp only[ZmG]at h;split at h;rotate_left;simp at h;rename_i a b f g;cases h;rw[Znj,<-ZmH e f,<-ZdY e g]
theorem Zlo (e:UOk U) {s:ShO} {d:TO U} {x:ValO U s} (h:matO s d=some x):d=bldO s x:=by
 unfold matO at h;split at h
 ·rw[bldO,ZdY e h]
 ·split at h;rotate_left;simp at h;rename_i ls c;rw[bldO,ZaO e h,ZcL c]
 ·split at h;rotate_left;simp at h;rename_i b;subst b;split at h;rotate_left;simp at h;rename_i a;subst a;cases h;rfl
 ·split at h;rotate_left;simp at h;rename_i b;subst b;split at h;rotate_left;simp at h;rename_i a;subst a;cases h;rfl
 ·cases h;rfl
 ·split at h;rotate_left;simp at h;rename_i b;subst b;split at h;rotate_left;simp at h;rename_i a;obtain⟨rfl,rfl⟩:=a;cases h;rfl
 ·simp at h
theorem Ze2 (e:UOk U):∀{l:List ShO} {c:List (TO U)} {x:Zal U l},Zi1 l c=some x->c=ZkK l x
 | [],[],x,h=>rfl
 | [],_::_,x,h=>by grind[Zi1]
 |_::_,[],x,h=>by grind[Zi1]
 |s::r,d::c,x,h=>by simp only[Zi1]at h;split at h;rotate_left;simp at h;rename_i a b f g;cases h;rw[ZkK,<-Zlo e f,<-Ze2 e g]
structure FC (U:Zd) where
 X:ZG U
 fn:Func
 c:Code
 sigs:List (Nat×ZjE U)
 lent:List Nat
 rms:List RM
 rhs:List (Option Nat)
 keep:List Nat:=[]
 alt:List (Nat×Nat):=[]
structure FOk (F:FC U):Prop where
 hU:UOk U
 hX:TOk F.X
 hE:Zl F.X.E
 mixed:F.X.prog.follows .mixedOrders=true
 sigs:∀x∈F.sigs,Zez F.X.E x.1 x.2
structure Lp (U:Zd) (R:Type) where
 live:List Nat
 frz:List Nat
 shs:List Sh
 sho:List ShO
 f:Zcn U shs->Zal U sho->Option R
variable {R:Type}
def Lp.cut (L:Lp U R):Cut U R:=⟨L.live,L.frz,fun a os=>match ZmG L.shs a,Zi1 L.sho os with
 |some v,some w=>L.f v w
 |_,_=>none⟩
def Lp.st (F:FC U) (L:Lp U R) (v:Zcn U L.shs) (w:Zal U L.sho):TS U:=mkC F.lent L.live (Znj L.shs v) (ZkK L.sho w)
def Pt (F:FC U) (RT:Ret) (k:List Item) (T:TS U):Prop:=
 ∀W Lt S0 a,AWP ⟨F.X.E,W,Lt,S0,a⟩ ⟨none,[]⟩ (ZiQ ⟨F.X.E,W,Lt,S0,a⟩ F.fn RT) k T.enc
def ZhW (F:FC U) (RT:Ret) (r:R) (L:Lp U R) (k:List Item):Prop:=∀v w,(L.st F v w).Inv->L.f v w=some r->Pt F RT k (L.st F v w)
def cutsOf (l:List (List Nat×Lp U R)):List (List Nat×Cut U R):=l.map fun x=>(x.1,x.2.cut)
def ZmQ (l:List (Nat×Lp U R)):List (Nat×Cut U R):=l.map fun x=>(x.1,x.2.cut)
def Ziz:Option (Lp U R)->Option (Cut U R)
 |some L=>some L.cut
 |none=>none
def FC.par (F:FC U) (cuts:List (List Nat×Lp U R)) (back:Option (Lp U R)) (exits:List (Nat×Lp U R)) (ret:ZbL U->Option R):Par U R:=
 {X:=F.X,sigs:=F.sigs,cuts:=cutsOf cuts,back:=Ziz back,exits:=ZmQ exits,lent:=F.lent,rs:=F.fn.results.toList,rms:=F.rms,rhs:=F.rhs,ret:=ret,keep:=F.keep,alt:=F.alt}
def ZkV (F:FC U) (p:List Nat):List Item:=match atP (F.c,[]) p with
 |some x=> .c x.1::x.2
 |none=>[]
def Zbl (F:FC U) (RT:Ret) (r:R):List (List Nat×Lp U R)->Prop
 | []=>True
 |x::l=>ZhW F RT r x.2 (ZkV F x.1)/\Zbl F RT r l
def ZaX (F:FC U) (RT:Ret) (r:R) (base:List Item):List (Nat×Lp U R)->Prop
 | []=>True
 |x::l=>(∃k,Zaw x.1 base=some k/\ZhW F RT r x.2 k)/\ZaX F RT r base l
theorem ZhW.hcut {F:FC U} (c:UOk U) {RT:Ret} {r:R} {L:Lp U R} {k:List Item} (h:ZhW F RT r L k) {P:Par U R} (g:P.lent=F.lent) {W:World} {Lt:Nat->Prop} {S0:Fz} {a:Nat->Option Lay}:
  Hcut P ⟨F.X.E,W,Lt,S0,a⟩ ⟨none,[]⟩ F.fn RT r L.cut k:=by
 intro d os hi b;simp only[Lp.cut]at b;split at b;rotate_left;simp at b;rename_i v w f hw;have e:=ZdY c f;have i:=Ze2 c hw;have:mkC P.lent L.cut.live d os=L.st F v w:=by rw[e,i,g];rfl
 rw[this]at hi|-
 exact h v w hi b W Lt S0 a
theorem Pt.evl {F:FC U} (a:FOk F) {RT:Ret} {r:R} (n:Nat) {cuts:List (List Nat×Lp U R)} {back:Option (Lp U R)} {exits:List (Nat×Lp U R)} {ret:ZbL U->Option R} {base:List Item} {pre:List TI'} {T:TS U}
  (u:T.Inv) (h:Eng.evl (F.par cuts back exits ret) n none pre T=some r) (hw:Wf (F.c,[]) base pre) (o:Zbl F RT r cuts) (v:∀L,back=some L->ZhW F RT r L base) (p:back=none->base=[])
  (m:ZaX F RT r base exits) (e:∀t,ret t=some r->t.enc=RT):Pt F RT (pre.map TI'.conc++base) T:=by
 intro W Lt S0 f;refine(ZmS (fm:=⟨none,[]⟩) (fn:=F.fn) (RT:=RT) (r:=r) (root:=(F.c,[])) (base:=base) (C:=⟨F.X.E,W,Lt,S0,f⟩) ?_ n).1 pre T hw u h;refine⟨a.hU,a.hX,a.hE,rfl,a.mixed,rfl,rfl,a.sigs,fun x g c k j=> ?_,fun c d=> ?_,fun w=> ?_,fun x g=> ?_,e⟩
 ·obtain⟨y,b,rfl⟩:=Zod.1 g;have:ZhW F RT r y.2 (ZkV F y.1):=by
   clear h g j
   induction cuts with
   |nil=>simp_all
   |cons z l i=>
    rcases ZnD.1 b with rfl |b
    ·exact o.1
    ·exact i o.2 b
  rw[show ZkV F y.1= .c c::k by grind[ZkV]]at this;exact this.hcut a.hU rfl
 ·cases back with
  |none=>grind[FC.par,Ziz]
  |some L=>
   simp only[FC.par,Ziz,ZnO]at d;subst d;exact(v L rfl).hcut a.hU rfl
 ·cases back with
  |none=>simp_all
  |some L=>grind[FC.par,Ziz]
 ·obtain⟨y,b,rfl⟩:=Zod.1 g;have:∃k,Zaw y.1 base=some k/\ZhW F RT r y.2 k:=by
   clear h g
   induction exits with
   |nil=>simp_all
   |cons z l i=>
    rcases ZnD.1 b with rfl |b
    ·exact m.1
    ·exact i m.2 b
  obtain⟨k,s,q⟩:=this;exact⟨k,s,q.hcut a.hU rfl⟩
theorem Pt.evlAt {F:FC U} (c:FOk F) {RT:Ret} {r:R} (n:Nat) {cuts:List (List Nat×Lp U R)} {back:Option (Lp U R)} {exits:List (Nat×Lp U R)} {ret:ZbL U->Option R} {base:List Item} {pre:List TI'} {T:TS U} {k:List Item}
  (i:k=pre.map TI'.conc++base) (e:T.Inv) (h:Eng.evl (F.par cuts back exits ret) n none pre T=some r) (hw:Wf (F.c,[]) base pre) (g:Zbl F RT r cuts) (f:∀L,back=some L->ZhW F RT r L base) (b:back=none->base=[])
  (d:ZaX F RT r base exits) (a:∀t,ret t=some r->t.enc=RT):Pt F RT k T:=i▸Pt.evl c n e h hw g f b d a
theorem Pt.lp {F:FC U} (b:FOk F) {RT:Ret} {body:Code} {k:List Item} {T:TS U} (h:Pt F RT (.c body:: .lp body::k) T):Pt F RT (.lp body::k) T:=fun W Lt S0 a=>
 Zay (ps':=[]) b.hE 1 (.lp body::k) _ [] rfl (by simp) (h W Lt S0 a)
theorem Pt.loop {F:FC U} (b:FOk F) {RT:Ret} {body:Code} {k:List Item} {T:TS U} (h:Pt F RT (.c body:: .lp body::k) T):Pt F RT (.c (.loop body)::k) T:=fun W Lt S0 a=>
 Zay (ps':=[]) b.hE 1 (.c (.loop body)::k) _ [] rfl (by simp) (h W Lt S0 a)
theorem ZmM {F:FC U} (c:FOk F) {RT:Ret} {r:R} (N:Nat) {q:List Nat} {body:Code} {k:List Item} {live frz:List Nat} {shs:List Sh} {sho:List ShO} (f:Nat->Zcn U shs->Zal U sho->Option R)
  {cuts:Nat->List (List Nat×Lp U R)} {exits:List (Nat×Lp U R)} {ret:ZbL U->Option R} (e:atP (F.c,[]) q=some (.loop body,k)) (s:∀v w,f 0 v w=none)
  (m:∀n v w,f (n+1) v w=evl (F.par (cuts n) (some ⟨live,frz,shs,sho,f n⟩) exits ret) N none [.c (5::q) body] (Lp.st F ⟨live,frz,shs,sho,f (n+1)⟩ v w))
  (o:∀n,ZhW F RT r ⟨live,frz,shs,sho,f n⟩ (.lp body::k)->Zbl F RT r (cuts n)) (p:ZaX F RT r (.lp body::k) exits) (b:∀t,ret t=some r->t.enc=RT):
  ∀n,ZhW F RT r ⟨live,frz,shs,sho,f n⟩ (ZkV F q):=by
 have d:ZkV F q= .c (.loop body)::k:=by unfold ZkV;rw[e]
 rw[d];have key:∀n,ZhW F RT r ⟨live,frz,shs,sho,f n⟩ (.c body:: .lp body::k):=by
  intro n
  induction n with
  |zero=>intro v w _ h;rw[show (Lp.mk live frz shs sho (f 0)).f v w=f 0 v w from rfl,s]at h;simp at h
  |succ n j=>
   intro v w hi h;have g:f (n+1) v w=some r:=h;rw[m n v w]at g;have a:ZhW F RT r ⟨live,frz,shs,sho,f n⟩ (.lp body::k):=fun v w hi h=>(j v w hi h).lp c
   refine Pt.evl c N (base:= .lp body::k) hi g ⟨?_,trivial⟩ (o n a) (fun L i=> ?_) (fun l=>by simp at l) p b
   ·simp only[atP,e,List.map_nil,List.nil_append]
   ·cases i;exact a
 exact fun n v w hi h=>(key n v w hi h).loop c
inductive ShA where
 |p (t:Ty) |box (t:Ty) |arr (t:Ty) |map (k v:Ty) |ptr (t:Ty) |fn (f:Nat) (a b:List Sh1) |nilp |nilfn |part (t:Ty) |boxr (t:Ty) (k:Nat) |hmap (k v:Ty)
inductive ShR where
 |p (t:Ty) |own (t:Ty) |box (t:Ty) |map (k v:Ty) |view (k:Nat) |aown (n k:Nat) (t:Ty) |aoown (n k:Nat) (t:Ty) (c:Nat) (u:Ty)
abbrev ZhV (U:Zd):Sh1->Type
 | .v t=>El U.car t
 | .pp t=>El U.car t
 |_=>Unit
abbrev ZcN (U:Zd):List Sh1->Type
 | []=>Unit
 |s::r=>ZhV U s×ZcN U r
abbrev Zmd (U:Zd):ShA->Type
 | .p t=>El U.car t
 | .box t=>El U.car t
 | .arr t=>List (El U.car t)
 | .map k v=>List (El U.car k×El U.car v)
 | .ptr t=>El U.car t
 | .fn _ a b=>ZcN U a×ZcN U b
 | .part t=>List (El U.car t)×Nat×Nat
 | .boxr t _=>El U.car t
 | .hmap k v=>List (El U.car k×El U.car v)
 | .nilp=>Unit
 | .nilfn=>Unit
abbrev Zf3 (U:Zd):List ShA->Type
 | []=>Unit
 |s::r=>Zmd U s×Zf3 U r
abbrev Zm7 (U:Zd):ShR->Type
 | .p t=>El U.car t
 | .own t=>List (El U.car t)
 | .box t=>El U.car t
 | .map k v=>List (El U.car k×El U.car v)
 | .view _=>Nat×Nat
 | .aown n _ _=>U.car n
 | .aoown n _ _ _ _=>U.car n×Nat
abbrev Zg3 (U:Zd):List ShR->Type
 | []=>Unit
 |s::r=>Zm7 U s×Zg3 U r
abbrev Zg2 (U:Zd):List (Nat×ShA)->Type
 | []=>Unit
 |s::r=>Zmd U s.2×Zg2 U r
def ZmZ:(s:Sh1)->ZhV U s->TQ U
 | .v t,x=> .l ⟨t,x⟩
 | .pp t,x=> .ptr (U.cellsE t x)
 | .nilp,_=> .nilp
 |_,_=> .nilfn
def ZgV:(l:List Sh1)->ZcN U l->List (TQ U)
 | [],_=>[]
 |s::r,v=>ZmZ s v.1::ZgV r v.2
def Znk:(s:ShA)->Zmd U s->ZP U
 | .p t,x=> .p (.l ⟨t,x⟩)
 | .box t,x=> .box (U.cellsE t x)
 | .arr t,xs=> .arr t xs
 | .map k v,kv=> .map k v kv
 | .ptr t,x=> .p (.ptr (U.cellsE t x))
 | .fn f a b,x=> .p (.fn f (ZgV a x.1) (ZgV b x.2))
 | .nilp,_=> .p .nilp
 | .nilfn,_=> .p .nilfn
 | .part t,x=> .part t x.1 x.2.1 x.2.2
 | .boxr t k,x=> .boxr ⟨t,x⟩ k
 | .hmap k v,kv=> .hmap k v kv
def Zdr:(l:List ShA)->Zf3 U l->List (ZP U)
 | [],_=>[]
 |s::r,v=>Znk s v.1::Zdr r v.2
def slAt (t:Ty):Option (Lf U.car)->List (El U.car t)
 |some l=>match l.as (.sl t)with
  |some xs=>xs
  |none=>[]
 |none=>[]
def bldR:(s:ShR)->Zm7 U s->TRV U
 | .p t,x=> .p ⟨t,x⟩
 | .own t,xs=> .own t xs
 | .box t,x=> .box (U.cellsE t x)
 | .map k v,kv=> .map k v kv
 | .view k,p=> .view k p.1 p.2
 | .aown n k t,x=> .aown ((U.cells n x).take k) t (slAt t (U.cells n x)[k]?) ((U.cells n x).drop (k+1)) none
 | .aoown n k t c u,x=> .aown ((U.cells n x.1).take k) t (slAt t (U.cells n x.1)[k]?) ((U.cells n x.1).drop (k+1)) (some (c,u,x.2))
def ZlD:(l:List ShR)->Zg3 U l->List (TRV U)
 | [],_=>[]
 |s::r,v=>bldR s v.1::ZlD r v.2
def ZlC:(l:List (Nat×ShA))->Zg2 U l->List (Nat×ZP U)
 | [],_=>[]
 |s::r,v=>(s.1,Znk s.2 v.1)::ZlC r v.2
def ZmI:(s:Sh1)->TQ U->Option (ZhV U s)
 | .v t,.l x=>x.as t
 | .pp t,.ptr cs=>U.ofE t cs
 | .nilp,.nilp=>some ()
 | .nilfn,.nilfn=>some ()
 |_,_=>none
def ZdZ:(l:List Sh1)->List (TQ U)->Option (ZcN U l)
 | [],[]=>some ()
 |s::r,d::ds=>match ZmI s d,ZdZ r ds with
  |some x,some y=>some (x,y)
  |_,_=>none
 |_,_=>none
def matA:(s:ShA)->ZP U->Option (Zmd U s)
 | .p t,.p (.l x)=>x.as t
 | .box t,.box cs=>U.ofE t cs
 | .arr t,.arr t' xs=>if h:t'=t then some (h▸xs)else none
 | .map k v,.map k' v' kv=>if h:k'=k then if h':v'=v then some (h▸h'▸kv)else none else none
 | .ptr t,.p (.ptr cs)=>U.ofE t cs
 | .fn f a b,.p (.fn f' x y)=>if f'=f then match ZdZ a x,ZdZ b y with
  |some p,some q=>some (p,q)
  |_,_=>none
  else none
 | .nilp,.p .nilp=>some ()
 | .nilfn,.p .nilfn=>some ()
 | .part t,.part t' xs off len=>if h:t'=t then some (h▸xs,off,len)else none
 | .boxr t k,.boxr l k'=>if k'=k then l.as t else none
 | .hmap k v,.hmap k' v' kv=>if h:k'=k then if h':v'=v then some (h▸h'▸kv)else none else none
 |_,_=>none
def Zi2:(l:List ShA)->List (ZP U)->Option (Zf3 U l)
 | [],[]=>some ()
 |s::r,d::ds=>match matA s d,Zi2 r ds with
  |some x,some y=>some (x,y)
  |_,_=>none
 |_,_=>none
def matR:(s:ShR)->TRV U->Option (Zm7 U s)
 | .p t,.p x=>x.as t
 | .own t,.own t' xs=>if h:t'=t then some (h▸xs)else none
 | .box t,.box cs=>U.ofE t cs
 | .map k v,.map k' v' kv=>if h:k'=k then if h':v'=v then some (h▸h'▸kv)else none else none
 | .view k,.view k' o l=>if k'=k then some (o,l)else none
 | .aown n k t,.aown pre t' xs post none=>if t'=t/\pre.length=k then U.of n (pre++⟨.sl t',xs⟩::post)else none
 | .aoown n k t c u,.aown pre t' xs post (some (c',u',lo))=>if t'=t/\pre.length=k/\c'=c/\u'=u then match U.of n (pre++⟨.sl t',xs⟩::post)with
  |some x=>some (x,lo)
  |none=>none
  else none
 |_,_=>none
def Zi0:(l:List ShR)->List (TRV U)->Option (Zg3 U l)
 | [],[]=>some ()
 |s::r,d::ds=>match matR s d,Zi0 r ds with
  |some x,some y=>some (x,y)
  |_,_=>none
 |_,_=>none
def ZiZ:(l:List (Nat×ShA))->List (Nat×ZP U)->Option (Zg2 U l)
 | [],[]=>some ()
 |s::r,d::ds=>if d.1=s.1 then match matA s.2 d.2,ZiZ r ds with
  |some x,some y=>some (x,y)
  |_,_=>none
  else none
 |_,_=>none
theorem Zkc (a:UOk U) {s:Sh1} {d:TQ U} {x:ZhV U s} (h:ZmI s d=some x):d=ZmZ s x:=by
 unfold ZmI at h;grind[ZM,ZmZ,ZaO]
theorem Zcf (e:UOk U):∀{l:List Sh1} {c:List (TQ U)} {x:ZcN U l},ZdZ l c=some x->c=ZgV l x
 | [],[],x,h=>rfl
 | [],_::_,x,h=>by grind[ZdZ]
 |_::_,[],x,h=>by grind[ZdZ]
 |s::r,d::c,x,h=>by simp only[ZdZ]at h;split at h;rotate_left;simp at h;rename_i a b f g;cases h;rw[ZgV,<-Zkc e f,<-Zcf e g]
theorem Zif (c:UOk U) {s:ShA} {d:ZP U} {x:Zmd U s} (h:matA s d=some x):d=Znk s x:=by
 unfold matA at h;split at h
 ·rw[ZM h];rfl
 ·grind[Znk,ZaO]
 ·split at h;rotate_left;simp at h;rename_i a;subst a;cases h;rfl
 ·split at h;rotate_left;simp at h;rename_i a;subst a;split at h;rotate_left;simp at h;rename_i b;subst b;cases h;rfl
 ·grind[Znk,ZaO]
 ·grind[Znk,Zcf]
 ·rfl
 ·rfl
 ·split at h;rotate_left;simp at h;rename_i a;subst a;cases h;rfl
 ·split at h;rotate_left;simp at h;rename_i a;subst a;rw[ZM h];rfl
 ·split at h;rotate_left;simp at h;rename_i a;subst a;split at h;rotate_left;simp at h;rename_i b;subst b;cases h;rfl
 simp_all
theorem Ze3 (e:UOk U):∀{l:List ShA} {c:List (ZP U)} {x:Zf3 U l},Zi2 l c=some x->c=Zdr l x
 | [],[],x,h=>rfl
 | [],_::_,x,h=>by grind[Zi2]
 |_::_,[],x,h=>by grind[Zi2]
 |s::r,d::c,x,h=>by simp only[Zi2]at h;split at h;rotate_left;simp at h;rename_i a b f g;cases h;rw[Zdr,<-Zif e f,<-Ze3 e g]
theorem ZiF (b:UOk U) {n:Nat} {pre a:List (Lf U.car)} {t:Ty} {xs:List (El U.car t)} {x:U.car n} (h:U.of n (pre++⟨.sl t,xs⟩::a)=some x):
  (U.cells n x).take pre.length=pre/\slAt t (U.cells n x)[pre.length]? =xs/\(U.cells n x).drop (pre.length+1)=a:=by
 rw[b.of_cells _ _ _ h];refine⟨List.take_left' rfl, ?_,by rw[List.drop_append,List.drop_of_length_le (by omega)];simp⟩;rw[List.getElem?_append_right (Nat.le_refl _),Nat.sub_self,Zny];simp[slAt,Lf.as]
theorem Zln (b:UOk U) {s:ShR} {d:TRV U} {x:Zm7 U s} (h:matR s d=some x):d=bldR s x:=by
 unfold matR at h;split at h
 ·rw[ZM h];rfl
 ·split at h;rotate_left;simp at h;rename_i a;subst a;cases h;rfl
 all_goals grind[bldR,ZaO,ZiF]
theorem Ze1 (e:UOk U):∀{l:List ShR} {c:List (TRV U)} {x:Zg3 U l},Zi0 l c=some x->c=ZlD l x
 | [],[],x,h=>rfl
 | [],_::_,x,h=>by grind[Zi0]
 |_::_,[],x,h=>by grind[Zi0]
 |s::r,d::c,x,h=>by simp only[Zi0]at h;split at h;rotate_left;simp at h;rename_i a b f g;cases h;rw[ZlD,<-Zln e f,<-Ze1 e g]
theorem Ze0 (e:UOk U):∀{l:List (Nat×ShA)} {c:List (Nat×ZP U)} {x:Zg2 U l},ZiZ l c=some x->c=ZlC l x
 | [],[],x,h=>rfl
 | [],_::_,x,h=>by grind[ZiZ]
 |_::_,[],x,h=>by grind[ZiZ]
 |s::r,d::c,x,h=>by simp only[ZiZ]at h;split at h;rotate_left;simp at h;rename_i f;split at h;rotate_left;simp at h;rename_i a b g i;cases h;rw[ZlC,<-Zif e g,<-Ze0 e i,<-f]
structure RSh where
 rs:List ShR
 os:List (Nat×ShA)
abbrev ZlN (U:Zd) (S:RSh):Type:=Zg3 U S.rs×Zg2 U S.os
def RSh.bld (S:RSh) (v:ZlN U S):ZbL U:=⟨ZlD S.rs v.1,ZlC S.os v.2⟩
def RSh.mat (S:RSh) (t:ZbL U):Option (ZlN U S):=match Zi0 S.rs t.res,ZiZ S.os t.outs with
 |some x,some y=>some (x,y)
 |_,_=>none
def ZeE {ρ:Type} (S:RSh) (g:ZlN U S->ρ) (t:ZbL U):Option ρ:=match S.mat t with
 |some v=>some (g v)
 |none=>none
theorem Zgl (e:UOk U) {ρ:Type} {S:RSh} {g:ZlN U S->ρ} {give:ρ->ZbL U} (i:∀v,give (g v)=S.bld v) {t:ZbL U} {r:ρ} (h:ZeE S g t=some r):t.enc=(give r).enc:=by unfold ZeE at h;split at h;rotate_left;simp at h;rename_i v c;cases h;unfold RSh.mat at c;split at c;rotate_left;simp at c;rename_i x y f d;cases c;rw[i];obtain⟨a,b⟩:=t;simp only at f d;rw[Ze1 e f,Ze0 e d];rfl
def ZP.d (k:Nat):ZP U->TV U
 | .p q=>q.tv
 | .box _=> .ptr (0,k,0) 0 0
 | .arr _ xs=> .full (0,k,0) xs.length
 | .map _ _ _=> .map (0,k,0)
 | .part _ _ a len=> .sl (0,k,0) a len
 | .boxr l j=> .rp (some l) (0,j,0)
 | .hmap _ _ _=> .dead
def ZcI:Nat->List (ZP U)->List (Nat×TV U)
 |_,[]=>[]
 |k,a::r=>(k,a.d k)::ZcI (k+1) r
def ZbJ:Nat->List (ZP U)->List (Id×TO U)
 |_,[]=>[]
 |k,a::r=>match a.o with
  |some o=>((0,k,0),o)::ZbJ (k+1) r
  |none=>ZbJ (k+1) r
def ZkO (args:List (ZP U)):TS U:=mkT 1 (ZcI 0 args) (ZbJ 0 args)
theorem Zfn:∀(k:Nat) (c:List (ZP U)) (x:Nat),(Zaz TV.dead (ZcI k c) x).enc=Zaz D.dead (Zc9 k (c.map ZP.enc)) x
 |k,[],x=>rfl
 |k,a::r,x=>by
  simp only[ZcI,Zn6,Zc9,Zaz];split
  ·cases a with
   |p q=>exact(ZjI q).1
   |box cs=>rfl
   |arr t xs=>simp only[ZP.d,TV.enc,ZP.enc,Arg.d,List.length_map]
   |map a b d=>rfl
   |part t xs e len=>rfl
   |boxr l k=>rfl
   |hmap a b d=>rfl
  ·exact Zfn (k+1) r x
theorem Zc8:∀(k:Nat) (b:List (ZP U)) (x:Id),ZiV (Zg (ZbJ k b) x)=Zg (Zcl k (b.map ZP.enc)) x
 |k,[],x=>rfl
 |k,a::r,x=>by
  simp only[ZbJ,Zn6,Zcl];have:=ZiE a;cases ha:a.o with
  |none=>rw[ha]at this;rw[<-this];exact Zc8 (k+1) r x
  |some o=>
   rw[ha]at this;rw[<-this];simp only[Zg,show ZiV (some o)=some o.enc from rfl]
   by_cases hx:x=(0,k,0)
   ·rw[if_pos hx,if_pos hx];rfl
   ·rw[if_neg hx,if_neg hx];exact Zc8 (k+1) r x
theorem ZkN (a:List (ZP U)):(ZkO a).enc=Zeu (a.map ZP.enc):=by
 refine ZeQ ?_ ?_ rfl rfl
 ·funext x;exact Zfn 0 a x
 ·funext x;exact Zc8 0 a x
theorem Zfm:∀(n:Nat) (l:List (ZP U)) (k:Nat) (d:TV U),(k,d)∈ZcI n l->∃j x,l[j]? =some x/\k=n+j/\d=x.d (n+j)
 |n,[],k,d,h=>by grind[ZcI]
 |n,x::r,k,d,h=>by
  simp only[ZcI,ZnD,ZnP]at h;rcases h with ⟨rfl,rfl⟩ |h
  ·grind
  ·obtain⟨j,y,a,b,c⟩:=Zfm (n+1) r k d h;exact⟨j+1,y,by simp_all,by omega,by grind⟩
theorem Zfk:∀(n:Nat) (l:List (ZP U)) (j:Nat) (x:ZP U) (o:TO U),l[j]? =some x->x.o=some o->Zg (ZbJ n l) (0,n+j,0)=some o
 |n,[],j,x,o,h,_=>by grind
 |n,y::r,j,x,o,h,ho=>by
  cases j with
  |zero=>
   grind[ZbJ,Zg]
  |succ j=>
   have:=Zfk (n+1) r j x o (by simp_all) ho;grind[ZbJ,Zg]
theorem Zc7:∀(n:Nat) (l:List (ZP U)) (id:Id) (o:TO U),(id,o)∈ZbJ n l->∃x∈l,x.o=some o
 |n,[],id,o,h=>by grind[ZbJ]
 |n,x::r,id,o,h=>by
  simp only[ZbJ]at h;split at h
  ·rename_i o' c;rcases ZnD.1 h with h |h
   ·simp_all
   ·obtain⟨y,a,b⟩:=Zc7 (n+1) r id o h;grind
  ·obtain⟨y,a,b⟩:=Zc7 (n+1) r id o h;grind
theorem ZgZ (c:List (ZP U)):(ZkO c).Inv:=by
 constructor
 ·intro k;show TV.inv _ (Zaz TV.dead (ZcI 0 c) k);rcases ZaS TV.dead (ZcI 0 c) k with e |e
  ·rw[e];exact Ze rfl
  ·obtain⟨j,x,s,v,h⟩:=Zfm 0 c k _ e;rw[h];cases x with
   |p q=>exact Ze (ZjI q).2
   |box cs=>exact Ze rfl
   |map a b g=>exact Ze rfl
   |part t xs r len=>exact Ze rfl
   |boxr l k=>exact Ze rfl
   |hmap a b g=>exact Ze rfl
   |arr t xs=>
    intro q e;simp only[ZP.d,TV.fulls,List.mem_singleton]at e;subst e;exact⟨.arr t xs false,Zfk 0 c j _ _ s rfl,fun u m=>by cases m;rfl⟩
 ·intro id o n;obtain⟨x,_,f⟩:=Zc7 0 c id o (Z1 n);cases x<;>simp only[ZP.o,ZnO,reduceCtorEq]at f<;>subst f
  ·intro d i;obtain⟨l,_,rfl⟩:=Zod.1 i;exact Zah _ _
  ·trivial
  ·trivial
  ·trivial
  ·trivial
theorem ZgK {X0:ZG U} {F:FC U} {f:Nat} {args:List (ZP U)} {RT:Ret} (hX:F.X=X0.at F.fn.ntmps) (hf:X0.prog.funcs[f]? =some F.fn) (hn:(F.fn.name == "runtime.NumGoroutine")=false) (hb:F.fn.body=some F.c) (hl:args.length<=F.fn.ntmps)
  (h:Pt F RT [.c F.c] (ZkO args)):Fun X0.E f (args.map ZP.enc) RT:=by
 refine Zi7 (E:=X0.E) hf hn hb (by rw[List.length_map];exact hl) fun W Lt S0 lays=> ?_
 have:=h W Lt S0 lays;rw[ZkN,hX]at this;exact this
structure ZkU (U:Zd) where
 ρ:Type
 pts:List Nat
 ms:List AM
 hs:List (Option Nat)
 as:List ShA
 s:Zf3 U as->Option ρ
 give:ρ->ZbL U
def ZkU.sig (S:ZkU U):ZjE U:=⟨S.pts,S.ms,S.hs,fun args=>match Zi2 S.as args with
 |some v=>some ⟨S.ρ,S.s v,S.give⟩
 |none=>none⟩
theorem ZkU.ok {S:ZkU U} (e:UOk U) {E:Env} {f:Nat} (h:∀v r,S.s v=some r->Fun E f ((Zdr S.as v).map ZP.enc) (S.give r).enc/\ZeA (Zdr S.as v) (S.give r)):Zez E f S.sig:=by intro args s b a c;simp only[ZkU.sig]at b;split at b;rotate_left;simp at b;rename_i v d;cases b;grind[Ze3]
theorem ZdP {args:List (ZP U)} {ret:ZbL U} (h:ret.outs.all (fun x=>x.2.len?.isNone)=true):ZeA args ret:=by intro k a n c b;grind
end
end Eng
namespace Eng
open Go
section
variable {U:Zd}
def ttZ (o:Option (TT U)):Option (List D×List D×Option P×Option P):=match o with
 |some e=>some (TV.encs e.zero,e.ti.zero.map Z.toD,(match e.zl with |some l=>some (U.encL l) |none=>none),(match e.zl with |some _=>some e.ti.zeroP |none=>none))
 |none=>none
def ttZ' (o:Option (TT U)):Option (List D×List D×Option P×Option P):=match o with
 |some e=>some (e.ti.zero.map Z.toD,e.ti.zero.map Z.toD,(match e.zl with |some _=>some e.ti.zeroP |none=>none),(match e.zl with |some _=>some e.ti.zeroP |none=>none))
 |none=>none
def TV.plain:TV U->Bool
 | .v _ _ | .nilp | .nilfn | .nils _=>true
 |_=>false
def ttB (U:Zd) (o:Option (TT U)):Bool:=match o with
 |some e=>(e.ti.isAgg == e.n.isSome)&&(match e.n with |some n=>decide (e.ti.size=U.size n) |none=>true)&&e.zero.all TV.plain
 |none=>true
def ttK (X:ZG U):Nat->List (Option (TT U))->List (TD×TD)
 |_,[]=>[]
 |t,some e::r=>(match e.ty with | .map k _=>(X.E.keyTD t,k.td) |_=>(.other,.other))::ttK X (t+1) r
 |t,none::r=>(.other,.other)::ttK X (t+1) r
def Zmk:List (Option (TT U))->List (TD×TD)
 | []=>[]
 |some e::r=>(match e.ty with | .map k _=>(k.td,k.td) |_=>(.other,.other))::Zmk r
 |none::r=>(.other,.other)::Zmk r
theorem ZjJ (X:ZG U):∀(l:List (Option (TT U))) (a:Nat),ttK X a l=Zmk l->∀t e k v,l[t]? =some (some e)->e.ty= .map k v->X.E.keyTD (a+t)=k.td
 | [],a,_,t,e,k,v,h,_=>by grind
 |o::r,a,h,t,e,k,v,ht,hty=>by
  cases t with
  |zero=>
   grind[ttK,Zmk]
  |succ t=>
   have b:ttK X (a+1) r=Zmk r:=by cases o<;>simp only[ttK,Zmk,Zox]at h<;>exact h.2
   have:=ZjJ X r (a+1) b t e k v (by simp_all) hty;grind
def ZlO (U:Zd) (l:List OwnT):Prop:=∀q∈l,q.c < U.size q.n/\∀x:U.car q.n,∃l,(U.cells q.n x)[q.c]? =some ⟨.sl q.u,l⟩
def ZiJ (l:List Nat) (q:(n:Nat)->U.car n->U.car n->Bool):Prop:=∀n∈l,∀x y:U.car n,∃a b c d,U.enc n x= .agg [.int .i64 a,.int .i64 b]/\U.enc n y= .agg [.int .i64 c,.int .i64 d]/\q n x y=(a == c&&b == d)
theorem key0 {q:(n:Nat)->U.car n->U.car n->Bool}:ZiJ [] q:=fun _ h=>nomatch h
theorem key1 {n:Nat} {l:List Nat} {q:(n:Nat)->U.car n->U.car n->Bool} (f g:U.car n->Int) (b:∀x,U.enc n x= .agg [.int .i64 (f x),.int .i64 (g x)]) (c:∀x y,q n x y=(f x == f y&&g x == g y)) (h:ZiJ l q):ZiJ (n::l) q:=fun m a=>by
 rcases ZnD.1 a with rfl |a
 ·exact fun x y=>⟨_,_,_,_,b x,b y,c x y⟩
 ·exact h m a
theorem own0:ZlO U []:=fun _ h=>nomatch h
theorem own1 {t n c:Nat} {u:Ty} {l:List OwnT} (b:c < U.size n) (f:U.car n->List (El U.car u)) (d:∀x:U.car n,(U.cells n x)[c]? =some ⟨.sl u,f x⟩) (h:ZlO U l):ZlO U (⟨t,n,c,u⟩::l):=fun q a=>by
 rcases ZnD.1 a with rfl |a
 ·simp_all
 ·exact h q a
theorem tok_of {X:ZG U} (s:X.tt.map ttZ=X.tt.map ttZ') (p:X.tt.all (ttB U)=true) (q:ttK X 0 X.tt=Zmk X.tt) (hw:ZlO U X.owns) (m:ZiJ X.keys X.kq):TOk X:=by
 have a:∀{t e},X.get t=some e->X.tt[t]? =some (some e):=fun {t e} h=>by unfold ZG.get at h;split at h;rotate_left;simp at h;rename_i e' r;cases h;exact r
 have f:∀{t e},X.get t=some e->ttZ (some e)=ttZ' (some e):=fun {t e} h=>by have j:=congrArg (·[t]?) s;simpa[ZnB,a h]using j
 have b:∀{t e},X.get t=some e->ttB U (some e)=true:=fun {t e} h=>ZnV.1 p _ (Zoe (a h))
 refine⟨fun t e h=> ?_,fun t e l h g=> ?_,fun t e h=> ?_,fun t e n h o=> ?_,fun t e k v h c=> ?_,fun t e h d i=> ?_,hw,m⟩
 ·have:=f h;simp only[ttZ,ttZ',ZnO,ZnP]at this;exact this.1
 ·have:=f h;simp only[ttZ,ttZ',ZnO,ZnP,g]at this;exact this.2.2.1
 ·have:=b h;simp only[ttB,Znu,beq_iff_eq]at this;exact this.1.1
 ·have:=b h;simp only[ttB,Znu,o,decide_eq_true_eq]at this;exact this.1.2
 ·have:=ZjJ X X.tt 0 q t e k v (a h) c;rw[Nat.zero_add]at this;exact this
 ·have:=b h;simp only[ttB,Znu,ZnV]at this;have:=this.2 d i;unfold TV.plain at this;split at this<;>first |rfl |simp at this
theorem TOk.at {X:ZG U} (h:TOk X) (n:Nat):TOk (X.at n):=⟨h.zero,h.zl,h.agg,h.size,h.key,h.inv,h.own,h.kq⟩
theorem Zl.at {X:ZG U} (h:Zl X.E) (n:Nat):Zl (X.at n).E:=⟨h.tys⟩
theorem Zez.at {X:ZG U} {g:Nat} {a:ZjE U} (h:Zez X.E g a) (n:Nat):Zez (X.at n).E g a:=h
def Zdd (X:ZG U):List (Nat×ZjE U)->Prop
 | []=>True
 |x::r=>Zez X.E x.1 x.2/\Zdd X r
theorem Zey {X:ZG U}:∀{l:List (Nat×ZjE U)},Zdd X l->∀x∈l,Zez X.E x.1 x.2
 | [],_,x,h=>by grind
 |y::r,ha,x,h=>by
  rcases ZnD.1 h with rfl |h
  ·exact ha.1
  ·exact Zey ha.2 x h
theorem fok {X0:ZG U} {F:FC U} (f:UOk U) (d:TOk X0) (b:Zl X0.E) (c:X0.prog.follows .mixedOrders=true) (a:F.X=X0.at F.fn.ntmps) (e:Zdd X0 F.sigs):FOk F:=by
 refine⟨f, ?_, ?_, ?_, ?_⟩
 ·rw[a];exact d.at _
 ·rw[a];exact b.at _
 ·rw[a];exact c
 ·intro x g;rw[a];exact(Zey e x g).at _
def Zdl (F:FC U) (p:List Nat):Code:=match atP (F.c,[]) p with |some x=>x.1 |none=> .skip
def tc (F:FC U) (p:List Nat):TI':= .c p (Zdl F p)
def tc0 (F:FC U):TI':= .c [] F.c
end
theorem as_car {car:Nat->Type} {l:Lf car} {t:Ty} {x:El car t} (h:l.as t=some x):l=⟨t,x⟩:=by unfold Lf.as at h;split at h;rotate_left;simp at h;rename_i b;obtain⟨a,y⟩:=l;grind
theorem Zm5 {car:Nat->Type} {t:Ty}:∀{cs:List (Lf car)} {l:List (El car t)},Zj (fun c=>c.as t) cs=some l->cs=l.map fun y=>⟨t,y⟩
 | [],l,h=>by grind[Zj]
 |c::cs,l,h=>by simp only[Zj]at h;split at h;rotate_left;simp at h;rename_i y d a b;cases h;rw[Zn6,<-Zm5 b,as_car a]
def andK (k:IntKind) (x y:Int):Int:=k.wrap (BitVec.ofInt k.bits x&&& BitVec.ofInt k.bits y).toNat
def orK (k:IntKind) (x y:Int):Int:=k.wrap (BitVec.ofInt k.bits x|||BitVec.ofInt k.bits y).toNat
def xorK (k:IntKind) (x y:Int):Int:=k.wrap (BitVec.ofInt k.bits x ^^^ BitVec.ofInt k.bits y).toNat
def andNotK (k:IntKind) (x y:Int):Int:=k.wrap (BitVec.ofInt k.bits x&&& ~~~BitVec.ofInt k.bits y).toNat
def shlK (k:IntKind) (x y:Int):Int:=k.wrap (x*2 ^ (min y.toNat k.bits))
def shrK (k:IntKind) (x y:Int):Int:=x.fdiv (2 ^ (min y.toNat k.bits))
def mkOk (a b:Int) (n:Nat):Bool:=decide (0<=a/\a<=b/\b*n<=ZD/\b<=ZD)
def inR (n m:Int):Bool:=decide (0<=n/\n < m)
end Eng
namespace Eng
open Go Go.RowKit
theorem Zfl:∀(n:Nat) (xs:List P) (k:Nat) (x:P),xs[k]? =some x->Zaz D.dead (Zc9 n (xs.map Arg.p)) (n+k)= .p x
 |n,[],k,x,h=>by grind
 |n,y::r,0,x,h=>by grind[Zc9,Zaz,Arg.d]
 |n,y::r,k+1,x,h=>by simp only[List.getElem?_cons_succ]at h;have:=Zfl (n+1) r k x h;grind[Zc9,Zaz]
theorem ZiD {xs:List P} {k:Nat} {x:P} (h:xs[k]? =some x):(Zeu (xs.map Arg.p)).slots k= .p x:=by
 have:=Zfl 0 xs k x h
 rwa [Nat.zero_add]at this
theorem Zl5 {E:Env} {f:Nat} {xs:List P} {y:P} (hf:∃fn,E.prog.funcs[f]? =some fn/\(fn.name == "runtime.NumGoroutine")=false/\fn.body.isNone=false)
  (h:∀(w:World) (S:Fz) (vals:Array Value),vals.size=xs.length->(∀(k:Nat) v x,vals[k]? =some v->xs[k]? =some x->RelP w S v x)->
   (∀g cs,(g,cs)∈E.globs->ZeC w S g cs)->
   CallsIn (Zcz none) 0 E.prog f vals w fun e w'=>∃v,e= .returned v/\ZjF w w'/\RelP w' S v y):Fun E f (xs.map .p) ⟨[.p y],[]⟩:=by
 refine .inl ⟨hf,fun w Lt S lays ρ vals hv hrep=> ?_⟩;rw[Zl1]at hv;refine CallsIn.mono (h w S vals hv ?_ hrep.glob) ?_
 ·intro k v x hk hx;have h1:=hrep.slots k;have e1:(Zeu (xs.map Arg.p)).slots k= .p x:=ZiD hx;rw[e1]at h1;have hlt:=(Znq.1 hk).1;rw[show vals.getD k undef=v by simp[hk]]at h1;exact h1.of_p
 ·rintro e w' ⟨v,rfl,hk,hr⟩;have hK:ZbM S w w':= .of fun b _ _ hb=>hk.2.2 b hb
  refine⟨#[v],fun _=>none,S,rfl,rfl, ?_⟩;have ho:∀id,(ZbY ⟨[.p y],[]⟩).objs id=none:=fun id=>rfl
  exact {
   nt:=rfl
   grow:=hk.2.1
   frame:=fun b hb _=>hk.2.2 b hb
   s0:=fun _ _ h=>h
   sIn:=fun b c hb=>Nat.lt_of_lt_of_le (hrep.sIn b c hb) hk.2.1
   slots:=fun k=>by
    cases k with
    |zero=>exact .p _ _ hr
    |succ k=>exact .dead _
   objs:=fun id o h=>by simp_all
   own:=fun id o L b h=>by simp_all
   inj:=fun id o L id' o' L' b h=>by simp_all
   known:=fun id h=>absurd (ho id) h
   young:=fun id h=>absurd rfl h
   fzk:=fun id h=>by cases h
   glob:=fun g cs hg=>(hrep.glob g cs hg).mono hK fun _ _ h=>h
   sOut:=fun b c h=> .inl h
   ep1:=by show 1<=2;omega
   quiet:=hk.1
   lay:=fun k L h1 h2=>absurd rfl h2
   fam:=Fam.none fun id o h=>by simp_all}
def Zid {U:Zd} (args:List (ZP U)) (ret:ZbL U):Bool:=ret.outs.all fun x=>match x.2.len? with
 |some n=>(match args[x.1]? with
  |some a=>(match a.len? with
   |some m=>decide (n=m)
   |none=>false)
  |none=>false)
 |none=>true
theorem ZiU {U:Zd} {args:List (ZP U)} {ret:ZbL U} (h:Zid args ret=true):ZeA args ret:=by intro k a n b c;have:=ZnV.1 h _ b;grind
theorem chkLen {a:Type} {o:Option a} {p:a->Bool} {r:a} (h:(o.bind fun r=>chk (p r) (some r))=some r):o=some r/\p r=true:=by
 cases o with
 |none=>grind
 |some x=>
  simp only[Option.bind_some]at h;unfold chk at h;grind
section
variable {U:Zd}
theorem Pt.ev0 {F:FC U} (a:FOk F) {ρ:Type} {r:ρ} {S:RSh} {g:ZlN U S->ρ} {b:ρ->ZbL U} {cuts:List (List Nat×Lp U ρ)} {pre:List TI'} {T:TS U} {k:List Item}
  (f:k=pre.map TI'.conc++[]) (d:T.Inv) (h:Eng.evl (F.par cuts none [] (ZeE S g)) 4000 none pre T=some r) (hw:Wf (F.c,[]) [] pre) (e:Zbl F (b r).enc r cuts) (i:∀v,b (g v)=S.bld v):Pt F (b r).enc k T:=
 Pt.evlAt a 4000 f d h hw e (fun _ c=>nomatch c) (fun _=>rfl) trivial (fun _ j=>Zgl a.hU i j)
end
end Eng
namespace Eng
open Go
abbrev HL:List Type->Type
 | []=>Unit
 |a::r=>a×HL r
abbrev HT:List Type->Type
 | []=>Unit
 | [a]=>a
 |a::b::r=>a×HT (b::r)
abbrev ZjA:List Type->Type->Type
 | [],X=>X
 |a::r,X=>a->ZjA r X
abbrev app {X:Type}:(ts:List Type)->ZjA ts X->HL ts->X
 | [],f,_=>f
 |_::r,f,v=>app r (f v.1) v.2
abbrev Zml:(ts:List Type)->HL ts->HT ts
 | [],_=>()
 | [_],v=>v.1
 |_::b::r,v=>(v.1,Zml (b::r) v.2)
abbrev ZmB:(ts:List Type)->HT ts->HL ts
 | [],_=>()
 | [_],x=>(x,())
 |_::b::r,x=>(x.1,ZmB (b::r) x.2)
theorem Zct:∀(ts:List Type) (v:HL ts),ZmB ts (Zml ts v)=v
 | [],_=>rfl
 | [_],_=>rfl
 |_::b::r,v=>by show (v.1,ZmB (b::r) (Zml (b::r) v.2))=v;rw[Zct (b::r) v.2]
abbrev unT {X:Type} (ts:List Type) (f:ZjA ts X) (x:HT ts):X:=app ts f (ZmB ts x)
section
variable (U:Zd)
abbrev lv1:Sh1->List Type->List Type
 | .v t,r=>El U.car t::r
 | .pp t,r=>El U.car t::r
 | .full _,r=>r
 | .sl _,r=>Nat::Nat::r
 | .ptr _ _ _,r=>r
 | .ptrI _ _,r=>Nat::r
 | .map _,r=>r
 | .it _,r=>r
 | .nilp,r=>r
 | .nilfn,r=>r
 | .undef,r=>r
 | .nils _,r=>r
 | .clip t,r=>List (El U.car t)::r
 | .rp t _,r=>El U.car t::r
abbrev lvs1:List Sh1->List Type->List Type
 | [],r=>r
 |s::l,r=>lv1 U s (lvs1 l r)
abbrev lvS:Sh->List Type->List Type
 | .o s,r=>lv1 U s r
 | .agg l,r=>lvs1 U l r
 | .fn _ a b,r=>lvs1 U a (lvs1 U b r)
abbrev lvs:List Sh->List Type->List Type
 | [],r=>r
 |s::l,r=>lvS U s (lvs l r)
abbrev lvO:ShO->List Type->List Type
 | .box l,r=>lvs U l r
 | .boxS t,r=>El U.car t::r
 | .arr t _,r=>List (El U.car t)::r
 | .map k v,r=>List (El U.car k×El U.car v)::r
 | .sit,r=>List UInt8::Nat::r
 | .own t _ _,r=>List (El U.car t)::Nat::r
abbrev lvsO:List ShO->List Type->List Type
 | [],r=>r
 |s::l,r=>lvO U s (lvsO l r)
abbrev lvQ:List Sh->List ShO->List Type:=fun shs sho=>lvs U shs (lvsO U sho [])
abbrev lq1:Sh1->List Type->List Type
 | .v t,r=>El U.car t::r
 | .pp t,r=>El U.car t::r
 | .full _,r=>r
 | .sl _,r=>r
 | .ptr _ _ _,r=>r
 | .ptrI _ _,r=>r
 | .map _,r=>r
 | .it _,r=>r
 | .nilp,r=>r
 | .nilfn,r=>r
 | .undef,r=>r
 | .nils _,r=>r
 | .clip _,r=>r
 | .rp _ _,r=>r
abbrev Zkf:List Sh1->List Type->List Type
 | [],r=>r
 |s::l,r=>lq1 U s (Zkf l r)
abbrev lvA:ShA->List Type->List Type
 | .p t,r=>El U.car t::r
 | .box t,r=>El U.car t::r
 | .arr t,r=>List (El U.car t)::r
 | .map k v,r=>List (El U.car k×El U.car v)::r
 | .ptr t,r=>El U.car t::r
 | .fn _ a b,r=>Zkf U a (Zkf U b r)
 | .nilp,r=>r
 | .nilfn,r=>r
 | .part t,r=>List (El U.car t)::Nat::Nat::r
 | .boxr t _,r=>El U.car t::r
 | .hmap k v,r=>List (El U.car k×El U.car v)::r
abbrev Zke:List ShA->List Type->List Type
 | [],r=>r
 |s::l,r=>lvA U s (Zke l r)
abbrev lvR:ShR->List Type->List Type
 | .p t,r=>El U.car t::r
 | .own t,r=>List (El U.car t)::r
 | .box t,r=>El U.car t::r
 | .map k v,r=>List (El U.car k×El U.car v)::r
 | .view _,r=>Nat::Nat::r
 | .aown n _ _,r=>U.car n::r
 | .aoown n _ _ _ _,r=>U.car n::Nat::r
abbrev ZmL:List ShR->List Type->List Type
 | [],r=>r
 |s::l,r=>lvR U s (ZmL l r)
abbrev ZmK:List (Nat×ShA)->List Type->List Type
 | [],r=>r
 |s::l,r=>lvA U s.2 (ZmK l r)
end
section
variable {U:Zd} {r:List Type}
abbrev fl1:(s:Sh1)->Znm U s->HL r->HL (lv1 U s r)
 | .v _,x,y=>(x,y)
 | .pp _,x,y=>(x,y)
 | .full _,_,y=>y
 | .sl _,x,y=>(x.1,x.2,y)
 | .ptr _ _ _,_,y=>y
 | .ptrI _ _,x,y=>(x,y)
 | .map _,_,y=>y
 | .it _,_,y=>y
 | .nilp,_,y=>y
 | .nilfn,_,y=>y
 | .undef,_,y=>y
 | .nils _,_,y=>y
 | .clip _,x,y=>(x,y)
 | .rp _ _,x,y=>(x,y)
abbrev fls1:(l:List Sh1)->Zg4 U l->HL r->HL (lvs1 U l r)
 | [],_,y=>y
 |s::l,x,y=>fl1 s x.1 (fls1 l x.2 y)
abbrev flS:(s:Sh)->Val U s->HL r->HL (lvS U s r)
 | .o s,x,y=>fl1 s x y
 | .agg l,x,y=>fls1 l x y
 | .fn _ a b,x,y=>fls1 a x.1 (fls1 b x.2 y)
abbrev fls:(l:List Sh)->Zcn U l->HL r->HL (lvs U l r)
 | [],_,y=>y
 |s::l,x,y=>flS s x.1 (fls l x.2 y)
abbrev flO:(s:ShO)->ValO U s->HL r->HL (lvO U s r)
 | .box l,x,y=>fls l x y
 | .boxS _,x,y=>(x,y)
 | .arr _ _,x,y=>(x,y)
 | .map _ _,x,y=>(x,y)
 | .sit,x,y=>(x.1,x.2,y)
 | .own _ _ _,x,y=>(x.1,x.2,y)
abbrev flsO:(l:List ShO)->Zal U l->HL r->HL (lvsO U l r)
 | [],_,y=>y
 |s::l,x,y=>flO s x.1 (flsO l x.2 y)
abbrev flQ (shs:List Sh) (sho:List ShO) (v:Zcn U shs) (w:Zal U sho):HL (lvQ U shs sho):=fls shs v (flsO (r:=[]) sho w ())
abbrev unc {X:Type} (shs:List Sh) (sho:List ShO) (f:ZjA (lvQ U shs sho) X) (v:Zcn U shs) (w:Zal U sho):X:=app (lvQ U shs sho) f (flQ shs sho v w)
def fq1:(s:Sh1)->ZhV U s->HL r->HL (lq1 U s r)
 | .v _,x,y=>(x,y)
 | .pp _,x,y=>(x,y)
 | .full _,_,y=>y
 | .sl _,_,y=>y
 | .ptr _ _ _,_,y=>y
 | .ptrI _ _,_,y=>y
 | .map _,_,y=>y
 | .it _,_,y=>y
 | .nilp,_,y=>y
 | .nilfn,_,y=>y
 | .undef,_,y=>y
 | .nils _,_,y=>y
 | .clip _,_,y=>y
 | .rp _ _,_,y=>y
def fqs1:(l:List Sh1)->ZcN U l->HL r->HL (Zkf U l r)
 | [],_,y=>y
 |s::l,x,y=>fq1 s x.1 (fqs1 l x.2 y)
abbrev flA:(s:ShA)->Zmd U s->HL r->HL (lvA U s r)
 | .p _,x,y=>(x,y)
 | .box _,x,y=>(x,y)
 | .arr _,x,y=>(x,y)
 | .map _ _,x,y=>(x,y)
 | .ptr _,x,y=>(x,y)
 | .fn _ a b,x,y=>fqs1 a x.1 (fqs1 b x.2 y)
 | .nilp,_,y=>y
 | .nilfn,_,y=>y
 | .part _,x,y=>(x.1,x.2.1,x.2.2,y)
 | .boxr _ _,x,y=>(x,y)
 | .hmap _ _,x,y=>(x,y)
abbrev Zl8:(l:List ShA)->Zf3 U l->HL r->HL (Zke U l r)
 | [],_,y=>y
 |s::l,x,y=>flA s x.1 (Zl8 l x.2 y)
abbrev flR:(s:ShR)->Zm7 U s->HL r->HL (lvR U s r)
 | .p _,x,y=>(x,y)
 | .own _,x,y=>(x,y)
 | .box _,x,y=>(x,y)
 | .map _ _,x,y=>(x,y)
 | .view _,x,y=>(x.1,x.2,y)
 | .aown _ _ _,x,y=>(x,y)
 | .aoown _ _ _ _ _,x,y=>(x.1,x.2,y)
abbrev Znh:(l:List ShR)->Zg3 U l->HL r->HL (ZmL U l r)
 | [],_,y=>y
 |s::l,x,y=>flR s x.1 (Znh l x.2 y)
abbrev Zl7:(l:List (Nat×ShA))->Zg2 U l->HL r->HL (ZmK U l r)
 | [],_,y=>y
 |s::l,x,y=>flA s.2 x.1 (Zl7 l x.2 y)
def uq1:(s:Sh1)->HL (lq1 U s r)->ZhV U s×HL r
 | .v _,y=>y
 | .pp _,y=>y
 | .full _,y=>((),y)
 | .sl _,y=>((),y)
 | .ptr _ _ _,y=>((),y)
 | .ptrI _ _,y=>((),y)
 | .map _,y=>((),y)
 | .it _,y=>((),y)
 | .nilp,y=>((),y)
 | .nilfn,y=>((),y)
 | .undef,y=>((),y)
 | .nils _,y=>((),y)
 | .clip _,y=>((),y)
 | .rp _ _,y=>((),y)
def Zk0:(l:List Sh1)->HL (Zkf U l r)->ZcN U l×HL r
 | [],y=>((),y)
 |s::l,y=>(((uq1 (r:=Zkf U l r) s y).1,(Zk0 l (uq1 (r:=Zkf U l r) s y).2).1),(Zk0 l (uq1 (r:=Zkf U l r) s y).2).2)
def uA:(s:ShA)->HL (lvA U s r)->Zmd U s×HL r
 | .p _,y=>y
 | .box _,y=>y
 | .arr _,y=>y
 | .map _ _,y=>y
 | .ptr _,y=>y
 | .fn _ a b,y=>(((Zk0 (r:=Zkf U b r) a y).1,(Zk0 b (Zk0 (r:=Zkf U b r) a y).2).1),(Zk0 b (Zk0 (r:=Zkf U b r) a y).2).2)
 | .nilp,y=>((),y)
 | .nilfn,y=>((),y)
 | .part _,y=>((y.1,y.2.1,y.2.2.1),y.2.2.2)
 | .boxr _ _,y=>y
 | .hmap _ _,y=>y
def uR:(s:ShR)->HL (lvR U s r)->Zm7 U s×HL r
 | .p _,y=>y
 | .own _,y=>y
 | .box _,y=>y
 | .map _ _,y=>y
 | .view _,y=>((y.1,y.2.1),y.2.2)
 | .aown _ _ _,y=>y
 | .aoown _ _ _ _ _,y=>((y.1,y.2.1),y.2.2)
def usR:(l:List ShR)->HL (ZmL U l r)->Zg3 U l×HL r
 | [],y=>((),y)
 |s::l,y=>(((uR (r:=ZmL U l r) s y).1,(usR l (uR (r:=ZmL U l r) s y).2).1),(usR l (uR (r:=ZmL U l r) s y).2).2)
def usU:(l:List (Nat×ShA))->HL (ZmK U l r)->Zg2 U l×HL r
 | [],y=>((),y)
 |s::l,y=>(((uA (r:=ZmK U l r) s.2 y).1,(usU l (uA (r:=ZmK U l r) s.2 y).2).1),(usU l (uA (r:=ZmK U l r) s.2 y).2).2)
theorem Zmj (s:Sh1) (x:ZhV U s) (y:HL r):uq1 s (fq1 s x y)=(x,y):=by cases s<;>rfl
theorem Zf7:∀(l:List Sh1) (x:ZcN U l) (y:HL r),Zk0 l (fqs1 l x y)=(x,y)
 | [],_,_=>rfl
 |s::l,x,y=>by simp only[fqs1,Zk0,Zmj,Zf7 l]
theorem uA_flA (s:ShA) (x:Zmd U s) (y:HL r):uA s (flA s x y)=(x,y):=by
 cases s with
 |fn f a b=>simp only[flA,uA,Zf7]
 |_=>rfl
theorem uR_flR (s:ShR) (x:Zm7 U s) (y:HL r):uR s (flR s x y)=(x,y):=by cases s<;>rfl
theorem Zh0:∀(l:List ShR) (x:Zg3 U l) (y:HL r),usR l (Znh l x y)=(x,y)
 | [],_,_=>rfl
 |s::l,x,y=>by simp only[Znh,usR,uR_flR,Zh0 l]
theorem ZhZ:∀(l:List (Nat×ShA)) (x:Zg2 U l) (y:HL r),usU l (Zl7 l x y)=(x,y)
 | [],_,_=>rfl
 |s::l,x,y=>by simp only[Zl7,usU,uA_flA,ZhZ l]
end
def pthF:Nat->Nat->List Nat->List Nat
 |0,_,acc=>acc
 |k+1,n,acc=>bif Nat.beq n 9 then acc else pthF k (n / 10) (n % 10::acc)
def pth (n:Nat):List Nat:=pthF 1000 n []
section
variable {U:Zd}
def blkId:Code->Nat
 | .block id _=>id
 |_=>0
def Zd4:Code->Bool
 | .loop _=>true
 |_=>false
abbrev kOf (F:FC U) (a:List Nat):List Nat->List TI'
 | []=>[]
 |d::q=>bif (d::q) == a then []else match d with
  |0=>tc F (1::q)::kOf F a q
  |4=> .blk (blkId (Zdl F q))::kOf F a q
  |_=>kOf F a q
def inP (a:List Nat):List Nat->Bool
 | []=>a.isEmpty
 |d::q=>bif (d::q) == a then true else (d != 5)&&inP a q
def chkP (F:FC U) (a p:List Nat):Bool:=(atP (F.c,[]) p).isSome&&inP a p
def ZfX (F:FC U) (a q:List Nat):Bool:=Zd4 (Zdl F q)&&inP a q
abbrev xpre (F:FC U) (b q:List Nat) (a:Nat):List TI':=(ZcA a (kOf F b q)).getD []
def Zni (F:FC U) (b q:List Nat) (a:Nat):Bool:=(ZcA a (kOf F b q)).isSome
theorem ZbG {F:FC U} {p:List Nat} {c:Code} {k:List Item} (h:atP (F.c,[]) p=some (c,k)):Zdl F p=c:=by unfold Zdl;rw[h]
theorem Zim (F:FC U) {g:List Nat} {cb:Code} {base:List Item} (j:atP (F.c,[]) g=some (cb,base)):∀(p:List Nat),inP g p=true->∀c k,atP (F.c,[]) p=some (c,k)->
  k=(kOf F g p).map TI'.conc++base/\Wf (F.c,[]) base (kOf F g p)
 | [],h,c,k,hp=>by simp only[inP,List.isEmpty_iff]at h;subst h;rw[j]at hp;cases hp;exact⟨rfl,trivial⟩
 |d::q,h,c,k,hp=>by
  unfold inP at h;unfold kOf;cases he:((d::q) == g)with
  |true=>
   have:=eq_of_beq he;subst this;rw[j]at hp;cases hp;exact⟨rfl,trivial⟩
  |false=>
   rw[he]at h;simp only[cond_false,Znu,bne_iff_ne,ne_eq]at h|-
   obtain⟨o,r⟩:=h;have n:=hp;unfold atP at hp;split at hp;rotate_left;simp at hp;rename_i s l e;obtain⟨f,i⟩:=Zim F j q r s l e;split at hp
   ·simp only[ZnO,ZnP]at hp;obtain⟨rfl,rfl⟩:=hp;rename_i a b;have m:atP (F.c,[]) (1::q)=some (b,l):=by simp only[atP,e]
    simp only[Zn6,ZnX,tc,TI'.conc,ZbG m];refine⟨by rw[<-f], ?_,i⟩;rw[m,f]
   ·simp only[ZnO,ZnP]at hp;obtain⟨rfl,rfl⟩:=hp;exact⟨f,i⟩
   ·simp only[ZnO,ZnP]at hp;obtain⟨rfl,rfl⟩:=hp;exact⟨f,i⟩
   ·simp only[ZnO,ZnP]at hp;obtain⟨rfl,rfl⟩:=hp;exact⟨f,i⟩
   ·simp only[ZnO,ZnP]at hp;obtain⟨rfl,rfl⟩:=hp;simp only[Zn6,ZnX,TI'.conc,ZbG e,blkId];exact⟨by rw[<-f],i⟩
   ·exact absurd rfl o
   ·simp at hp
inductive CT (U:Zd) (ρ:Type):Type->Type 1
 |nil {R:Type}:CT U ρ R
 |j {R:Type} (p:Nat) (live frz:List Nat) (shs:List Sh) (sho:List ShO) (f:ZjA (lvQ U shs sho) (Option R)) (k:CT U ρ R):CT U ρ R
 |lo {R:Type} (q:Nat) (live frz:List Nat) (shs:List Sh) (sho:List ShO) (xid:Nat) (xlive xfrz:List Nat) (xshs:List Sh) (xsho:List ShO)
   (hd:Nat->ZjA (lvQ U shs sho) (Option (HT (lvQ U xshs xsho)))) (af:ZjA (lvQ U xshs xsho) (Option R)) (body:Nat->CT U ρ (HT (lvQ U xshs xsho))) (k:CT U ρ R):CT U ρ R
 |lr {R:Type} (q:Nat) (live frz:List Nat) (shs:List Sh) (sho:List ShO) (xid:Nat) (xlive xfrz:List Nat) (xshs:List Sh) (xsho:List ShO)
   (hd:Nat->ZjA (lvQ U shs sho) (Option (Out (HT (lvQ U xshs xsho)) ρ))) (af:ZjA (lvQ U xshs xsho) (Option R)) (body:Nat->CT U ρ (Out (HT (lvQ U xshs xsho)) ρ)) (k:CT U ρ R):CT U ρ R
 |lz {R:Type} (q:Nat) (live frz:List Nat) (shs:List Sh) (sho:List ShO)
   (hd:Nat->ZjA (lvQ U shs sho) (Option (Out Unit ρ))) (body:Nat->CT U ρ (Out Unit ρ)) (k:CT U ρ R):CT U ρ R
structure CC (U:Zd) (R:Type) where
 pb:List Nat
 back:Option (Lp U R)
 exits:List (Nat×Lp U R)
 ret:ZbL U->Option R
variable {ρ:Type}
abbrev outB {β R:Type} (c:ρ->Option R) (a:β->Option R):Out β ρ->Option R
 | .ret q=>c q
 | .brk b=>a b
abbrev CT.cuts:{R:Type}->CT U ρ R->(ρ->Option R)->List (List Nat×Lp U R)
 |_,.nil,_=>[]
 |_,.j p live frz shs sho f k,em=>(pth p,⟨live,frz,shs,sho,unc shs sho f⟩)::k.cuts em
 |_,.lo q live frz shs sho _ _ _ xshs xsho hd af _ k,em=>(pth q,⟨live,frz,shs,sho,fun v w=>(unc shs sho (hd big) v w).bind (unT (lvQ U xshs xsho) af)⟩)::k.cuts em
 |_,.lr q live frz shs sho _ _ _ xshs xsho hd af _ k,em=>(pth q,⟨live,frz,shs,sho,fun v w=>(unc shs sho (hd big) v w).bind (outB em (unT (lvQ U xshs xsho) af))⟩)::k.cuts em
 |_,.lz q live frz shs sho hd _ k,em=>(pth q,⟨live,frz,shs,sho,fun v w=>(unc shs sho (hd big) v w).bind (outB em fun _=>none)⟩)::k.cuts em
abbrev CT.Ty:{R:Type}->CT U ρ R->Type
 |_,.nil=>Unit
 |R,.j _ _ _ shs sho _ k=>Bool×(Zcn U shs->Zal U sho->Option R)×k.Ty
 |R,.lo _ _ _ shs sho _ _ _ xshs xsho _ _ body k=>Bool×(Zcn U shs->Zal U sho->Option (HT (lvQ U xshs xsho)))×(Nat->Zcn U shs->Zal U sho->Option (HT (lvQ U xshs xsho)))×((n:Nat)->(body n).Ty)×(Zcn U xshs->Zal U xsho->Option R)×k.Ty
 |R,.lr _ _ _ shs sho _ _ _ xshs xsho _ _ body k=>Bool×(Zcn U shs->Zal U sho->Option (Out (HT (lvQ U xshs xsho)) ρ))×(Nat->Zcn U shs->Zal U sho->Option (Out (HT (lvQ U xshs xsho)) ρ))×((n:Nat)->(body n).Ty)×(Zcn U xshs->Zal U xsho->Option R)×k.Ty
 |_,.lz _ _ _ shs sho _ body k=>Bool×(Zcn U shs->Zal U sho->Option (Out Unit ρ))×(Nat->Zcn U shs->Zal U sho->Option (Out Unit ρ))×((n:Nat)->(body n).Ty)×k.Ty
abbrev stC (F:FC U) (live:List Nat) (shs:List Sh) (sho:List ShO) (v:Zcn U shs) (w:Zal U sho):TS U:=mkC F.lent live (Znj shs v) (ZkK sho w)
abbrev Zc3 (ret0:ZbL U->Option ρ) {X:Type} (b:ρ->Option X) (q:List Nat) (L:Lp U X) (a:List (Nat×Lp U X)):CC U X:=⟨5::q,some L,a,fun t=>(ret0 t).bind b⟩
abbrev lx (c d:List Nat) (b:List Sh) (a:List ShO) {X:Type} (m:HT (lvQ U b a)->X):Lp U X:=⟨c,d,b,a,fun v w=>some (m (Zml (lvQ U b a) (flQ b a v w)))⟩
noncomputable abbrev evp (F:FC U) {R:Type} (C:CC U R) (cuts:List (List Nat×Lp U R)) (pre:List TI') (T:TS U):Option R:=evl (F.par cuts C.back C.exits C.ret) 4000 none pre T
noncomputable abbrev CT.lhs (F:FC U) (ret0:ZbL U->Option ρ):{R:Type}->(t:CT U ρ R)->CC U R->(ρ->Option R)->t.Ty
 |_,.nil,_,_=>()
 |_,.j p live _ shs sho _ k,C,em=>(chkP F C.pb (pth p),fun v w=>evp F C (k.cuts em) (tc F (pth p)::kOf F C.pb (pth p)) (stC F live shs sho v w),k.lhs F ret0 C em)
 |_,.lo q live frz shs sho xid xlive xfrz xshs xsho hd _ body k,C,em=>(ZfX F C.pb (pth q)&&Zni F C.pb (pth q) xid,fun v w=>unc shs sho (hd 0) v w,
   fun n v w=>evp F (Zc3 ret0 (fun _=>none) (pth q) ⟨live,frz,shs,sho,unc shs sho (hd n)⟩ [(xid,lx xlive xfrz xshs xsho id)]) ((body n).cuts fun _=>none) [tc F (5::pth q)] (stC F live shs sho v w),
   fun n=>(body n).lhs F ret0 (Zc3 ret0 (fun _=>none) (pth q) ⟨live,frz,shs,sho,unc shs sho (hd n)⟩ [(xid,lx xlive xfrz xshs xsho id)]) fun _=>none,
   fun v w=>evp F C (k.cuts em) (xpre F C.pb (pth q) xid) (stC F xlive xshs xsho v w),k.lhs F ret0 C em)
 |_,.lr q live frz shs sho xid xlive xfrz xshs xsho hd _ body k,C,em=>(ZfX F C.pb (pth q)&&Zni F C.pb (pth q) xid,fun v w=>unc shs sho (hd 0) v w,
   fun n v w=>evp F (Zc3 ret0 (fun q=>some (.ret q)) (pth q) ⟨live,frz,shs,sho,unc shs sho (hd n)⟩ [(xid,lx xlive xfrz xshs xsho .brk)]) ((body n).cuts fun q=>some (.ret q)) [tc F (5::pth q)] (stC F live shs sho v w),
   fun n=>(body n).lhs F ret0 (Zc3 ret0 (fun q=>some (.ret q)) (pth q) ⟨live,frz,shs,sho,unc shs sho (hd n)⟩ [(xid,lx xlive xfrz xshs xsho .brk)]) fun q=>some (.ret q),
   fun v w=>evp F C (k.cuts em) (xpre F C.pb (pth q) xid) (stC F xlive xshs xsho v w),k.lhs F ret0 C em)
 |_,.lz q live frz shs sho hd body k,C,em=>(ZfX F C.pb (pth q),fun v w=>unc shs sho (hd 0) v w,
   fun n v w=>evp F (Zc3 ret0 (fun q=>some (.ret q)) (pth q) ⟨live,frz,shs,sho,unc shs sho (hd n)⟩ []) ((body n).cuts fun q=>some (.ret q)) [tc F (5::pth q)] (stC F live shs sho v w),
   fun n=>(body n).lhs F ret0 (Zc3 ret0 (fun q=>some (.ret q)) (pth q) ⟨live,frz,shs,sho,unc shs sho (hd n)⟩ []) fun q=>some (.ret q),
   k.lhs F ret0 C em)
abbrev CT.rhs:{R:Type}->(t:CT U ρ R)->t.Ty
 |_,.nil=>()
 |_,.j _ _ _ shs sho f k=>(true,fun v w=>unc shs sho f v w,k.rhs)
 |_,.lo _ _ _ shs sho _ _ _ xshs xsho hd af body k=>(true,fun _ _=>none,fun n v w=>unc shs sho (hd (n+1)) v w,fun n=>(body n).rhs,fun v w=>unc xshs xsho af v w,k.rhs)
 |_,.lr _ _ _ shs sho _ _ _ xshs xsho hd af body k=>(true,fun _ _=>none,fun n v w=>unc shs sho (hd (n+1)) v w,fun n=>(body n).rhs,fun v w=>unc xshs xsho af v w,k.rhs)
 |_,.lz _ _ _ shs sho hd body k=>(true,fun _ _=>none,fun n v w=>unc shs sho (hd (n+1)) v w,fun n=>(body n).rhs,k.rhs)
variable {F:FC U}
theorem ZfJ (f:FOk F) {X:Type} {RT:Ret} {x:X} {q live frz:List Nat} {shs:List Sh} {sho:List ShO} {a:Nat->ZjA (lvQ U shs sho) (Option X)} {cuts:Nat->List (List Nat×Lp U X)}
  {d:List (Nat×Lp U X)} {ret:ZbL U->Option X} {b:Code} {k:List Item} (e:atP (F.c,[]) q=some (.loop b,k)) (l:(fun v w=>unc shs sho (a 0) v w)=fun _ _=>none)
  (g:(fun n v w=>evp F (⟨5::q,some ⟨live,frz,shs,sho,unc shs sho (a n)⟩,d,ret⟩:CC U X) (cuts n) [tc F (5::q)] (stC F live shs sho v w))=fun n v w=>unc shs sho (a (n+1)) v w)
  (h:∀n,ZhW F RT x ⟨live,frz,shs,sho,unc shs sho (a n)⟩ (.lp b::k)->Zbl F RT x (cuts n)) (j:ZaX F RT x (.lp b::k) d) (c:∀t,ret t=some x->t.enc=RT) (n:Nat):
  ZhW F RT x ⟨live,frz,shs,sho,unc shs sho (a n)⟩ (ZkV F q):=
 ZmM f 4000 (cuts:=cuts) (exits:=d) (ret:=ret) (fun n=>unc shs sho (a n)) e (fun v w=>congrFun (congrFun l v) w) (fun n v w=>by
  rw[<-congrFun (congrFun (congrFun g n) v) w];have i:atP (F.c,[]) (5::q)=some (b,.lp b::k):=by simp only[atP,e]
  unfold evp tc;rw[ZbG i];rfl) h j c n
theorem CT.ok (A:FOk F) {ret0:ZbL U->Option ρ}:∀{R:Type} (t:CT U ρ R) (C:CC U R) (g:ρ->Option R),(C.ret=fun t=>(ret0 t).bind g)->t.lhs F ret0 C g=t.rhs->∀{RT:Ret} {r:R} {cb:Code} {base:List Item},
  atP (F.c,[]) C.pb=some (cb,base)->(∀L,C.back=some L->ZhW F RT r L base)->(C.back=none->base=[])->ZaX F RT r base C.exits->(∀t,C.ret t=some r->t.enc=RT)->Zbl F RT r (t.cuts g)
 |_,.nil,_,_,_,_,_,_,_,_,_,_,_,_,_=>trivial
 |R,.j p live frz shs sho f k,C,g,hr,h,RT,r,cb,base,J,hk,hn,hx,ht=>by
  have h: @Eq (Bool×(Zcn U shs->Zal U sho->Option R)×k.Ty) (_,_,_) (_,_,_):=h;have D:chkP F C.pb (pth p)=true:=congrArg (fun x=>x.1) h;have N:=congrArg (fun x=>x.2.1) h;have S:k.lhs F ret0 C g=k.rhs:=congrArg (fun x=>x.2.2) h;have K:=CT.ok A k C g hr S J hk hn hx ht;refine⟨fun v w hi O=> ?_,K⟩;simp only[chkP,Znu,ZoE]at D;obtain⟨⟨⟨c,kk⟩,hp⟩,z⟩:=D;obtain⟨T,X⟩:=Zim F J _ z _ _ hp;have e3:ZkV F (pth p)=(tc F (pth p)::kOf F C.pb (pth p)).map TI'.conc++base:=by simp only[ZkV,hp,tc,Zn6,TI'.conc,ZbG hp,ZnX,T]
  refine Pt.evlAt A 4000 (cuts:=k.cuts g) (back:=C.back) (exits:=C.exits) (ret:=C.ret) (base:=base) (pre:=tc F (pth p)::kOf F C.pb (pth p)) e3 hi ?_ ?_ K hk hn hx ht
  ·exact(congrFun (congrFun N v) w).trans O
  ·exact⟨by rw[ZbG hp,hp,T],X⟩
 |R,.lo q live frz shs sho xid xlive xfrz d a hd af body k,C,g,hr,h,RT,r,cb,base,J,hk,hn,hx,ht=>by
  have h: @Eq (Bool×(Zcn U shs->Zal U sho->Option (HT (lvQ U d a)))×(Nat->Zcn U shs->Zal U sho->Option (HT (lvQ U d a)))×((n:Nat)->(body n).Ty)×(Zcn U d->Zal U a->Option R)×k.Ty) (_,_,_,_,_,_) (_,_,_,_,_,_):=h;have D:(ZfX F C.pb (pth q)&&Zni F C.pb (pth q) xid)=true:=congrArg (fun x=>x.1) h;have N:=congrArg (fun x=>x.2.1) h;have S:=congrArg (fun x=>x.2.2.1) h;have Y:=congrArg (fun x=>x.2.2.2.1) h;have h5:=congrArg (fun x=>x.2.2.2.2.1) h;have V:k.lhs F ret0 C g=k.rhs:=congrArg (fun x=>x.2.2.2.2.2) h;have K:=CT.ok A k C g hr V J hk hn hx ht;refine⟨fun v w hi O=> ?_,K⟩;obtain⟨x,G,m⟩:=bind_some O;simp only[ZfX,Zni,Znu,ZoE]at D;obtain⟨⟨u,z⟩,j,e⟩:=D;have o:∃b i,atP (F.c,[]) (pth q)=some (.loop b,i):=by
   unfold Zdl at u;split at u
   ·rename_i y M;obtain⟨c,i⟩:=y;cases c<;>simp only[Zd4,Znv]at u;exact⟨_,_,M⟩
   ·simp[Zd4]at u
  obtain⟨b,i,o⟩:=o;obtain⟨T,X⟩:=Zim F J _ z _ _ o;have B:atP (F.c,[]) (5::pth q)=some (b,.lp b::i):=by simp only[atP,o]
  have H:ZaX F RT x (.lp b::i) [(xid,lx xlive xfrz d a id)]:=by
   refine⟨⟨j.map TI'.conc++base, ?_,fun Z w' P h'=> ?_⟩,trivial⟩
   ·show Zaw xid i=_;rw[T];exact(Zae (root:=(F.c,[])) (base:=base) e).1 base
   ·obtain rfl:Zml _ (flQ d a Z w')=x:=ZnN h';refine Pt.evlAt A 4000 (cuts:=k.cuts g) (back:=C.back) (exits:=C.exits) (ret:=C.ret) (base:=base) (pre:=j) rfl P ?_ ((Zae e).2 X) K hk hn hx ht;have e5:=congrFun (congrFun h5 Z) w';simp only[xpre,e,ZnL]at e5;refine Eq.trans e5 ?_;simp only[unT,Zct]at m;exact m
  exact ZfJ A o N S (fun n W=>CT.ok A (body n) _ _ rfl (congrFun Y n) B (fun L l=>by simp only[Zc3,ZnO]at l;subst l;exact W) (fun I=>by simp[Zc3]at I) H (fun t s=>by simp[Zc3]at s)) H
   (fun t s=>by simp at s) big v w hi G
 |R,.lr q live frz shs sho xid xlive xfrz d a hd af body k,C,g,hr,h,RT,r,cb,base,J,hk,hn,hx,ht=>by
  have h: @Eq (Bool×(Zcn U shs->Zal U sho->Option (Out (HT (lvQ U d a)) ρ))×(Nat->Zcn U shs->Zal U sho->Option (Out (HT (lvQ U d a)) ρ))×((n:Nat)->(body n).Ty)×(Zcn U d->Zal U a->Option R)×k.Ty) (_,_,_,_,_,_) (_,_,_,_,_,_):=h;have D:(ZfX F C.pb (pth q)&&Zni F C.pb (pth q) xid)=true:=congrArg (fun x=>x.1) h;have N:=congrArg (fun x=>x.2.1) h;have S:=congrArg (fun x=>x.2.2.1) h;have Y:=congrArg (fun x=>x.2.2.2.1) h;have h5:=congrArg (fun x=>x.2.2.2.2.1) h;have V:k.lhs F ret0 C g=k.rhs:=congrArg (fun x=>x.2.2.2.2.2) h;have K:=CT.ok A k C g hr V J hk hn hx ht;refine⟨fun v w hi O=> ?_,K⟩;obtain⟨x,G,m⟩:=bind_some O;simp only[ZfX,Zni,Znu,ZoE]at D;obtain⟨⟨u,z⟩,j,e⟩:=D;have o:∃b i,atP (F.c,[]) (pth q)=some (.loop b,i):=by
   unfold Zdl at u;split at u
   ·rename_i y M;obtain⟨c,i⟩:=y;cases c<;>simp only[Zd4,Znv]at u;exact⟨_,_,M⟩
   ·simp[Zd4]at u
  obtain⟨b,i,o⟩:=o;obtain⟨T,X⟩:=Zim F J _ z _ _ o;have B:atP (F.c,[]) (5::pth q)=some (b,.lp b::i):=by simp only[atP,o]
  have H:ZaX F RT x (.lp b::i) [(xid,lx xlive xfrz d a .brk)]:=by
   refine⟨⟨j.map TI'.conc++base, ?_,fun Z w' P h'=> ?_⟩,trivial⟩
   ·show Zaw xid i=_;rw[T];exact(Zae (root:=(F.c,[])) (base:=base) e).1 base
   ·obtain rfl:Out.brk (Zml _ (flQ d a Z w'))=x:=ZnN h';refine Pt.evlAt A 4000 (cuts:=k.cuts g) (back:=C.back) (exits:=C.exits) (ret:=C.ret) (base:=base) (pre:=j) rfl P ?_ ((Zae e).2 X) K hk hn hx ht;have e5:=congrFun (congrFun h5 Z) w';simp only[xpre,e,ZnL]at e5;refine Eq.trans e5 ?_;simp only[outB,unT,Zct]at m;exact m
  have E:∀t:ZbL U,((ret0 t).bind fun q=>some (Out.ret q))=some x->t.enc=RT:=fun t s=>by obtain⟨y,M,Q⟩:=bind_some s;obtain rfl:=ZnN Q;refine ht t ?_;rw[hr];show (ret0 t).bind g=some r;rw[M];exact m
  exact ZfJ A o N S (fun n W=>CT.ok A (body n) _ _ rfl (congrFun Y n) B (fun L l=>by simp only[Zc3,ZnO]at l;subst l;exact W) (fun I=>by simp[Zc3]at I) H E) H E big v w hi G
 |_,.lz q live frz shs sho hd body k,C,g,hr,h,RT,r,cb,base,J,hk,hn,hx,ht=>by
  have h: @Eq (Bool×(Zcn U shs->Zal U sho->Option (Out Unit ρ))×(Nat->Zcn U shs->Zal U sho->Option (Out Unit ρ))×((n:Nat)->(body n).Ty)×k.Ty) (_,_,_,_,_) (_,_,_,_,_):=h;have D:ZfX F C.pb (pth q)=true:=congrArg (fun x=>x.1) h;have N:=congrArg (fun x=>x.2.1) h;have S:=congrArg (fun x=>x.2.2.1) h;have Y:=congrArg (fun x=>x.2.2.2.1) h;have V:k.lhs F ret0 C g=k.rhs:=congrArg (fun x=>x.2.2.2.2) h;have K:=CT.ok A k C g hr V J hk hn hx ht;refine⟨fun v w hi O=> ?_,K⟩;obtain⟨x,G,m⟩:=bind_some O;simp only[ZfX,Znu]at D;obtain⟨u,z⟩:=D;have o:∃b i,atP (F.c,[]) (pth q)=some (.loop b,i):=by
   unfold Zdl at u;split at u
   ·rename_i y M;obtain⟨c,i⟩:=y;cases c<;>simp only[Zd4,Znv]at u;exact⟨_,_,M⟩
   ·simp[Zd4]at u
  obtain⟨b,i,o⟩:=o;have B:atP (F.c,[]) (5::pth q)=some (b,.lp b::i):=by simp only[atP,o]
  have E:∀t:ZbL U,((ret0 t).bind fun q=>some (Out.ret q))=some x->t.enc=RT:=fun t s=>by obtain⟨y,M,Q⟩:=bind_some s;obtain rfl:=ZnN Q;refine ht t ?_;rw[hr];show (ret0 t).bind g=some r;rw[M];exact m
  exact ZfJ A o N S (fun n W=>CT.ok A (body n) _ _ rfl (congrFun Y n) B (fun L l=>by simp only[Zc3,ZnO]at l;subst l;exact W) (fun I=>by simp[Zc3]at I) trivial E) trivial E big v w hi G
end
abbrev oTy (U:Zd) (os:List (Nat×ShA)) (a:List ShR):List Type:=ZmL U a (ZmK U os [])
def amOf:ShA->AM
 | .box _ | .arr _ | .map _ _=> .lend
 | .part _=> .part
 | .boxr _ k=> .lendr k
 |_=> .p
def isVis:ShA->Bool
 | .hmap _ _=>false
 |_=>true
def ahOf:ShA->Option Nat
 | .p (.st n)=>some n
 |_=>none
def rmOf:ShR->RM
 | .p _=> .p
 | .own _=> .own
 | .box _=> .box
 | .map _ _=> .map
 | .view _=> .view
 | .aown _ _ _=> .aown
 | .aoown _ _ _ _ _=> .aown
def rhOf:ShR->Option Nat
 | .p (.st n)=>some n
 |_=>none
def isAr:ShA->Bool
 | .arr _ | .part _=>true
 |_=>false
section
variable {U:Zd}
structure FD (U:Zd) where
 f:Nat
 fn:Func
 sigs:List (Nat×ZjE U)
 as:List ShA
 os:List (Nat×ShA)
 rs:List ShR
 keep:List Nat
 alt:List (Nat×Nat)
 s:ZjA (Zke U as []) (Option (HT (oTy U os rs)))
 w:ZjA (Zke U as []) (Option (HT (oTy U os rs)))
 t:CT U (HT (oTy U os rs)) (HT (oTy U os rs))
namespace FD
variable (D:FD U)
abbrev rho:Type:=HT (oTy U D.os D.rs)
abbrev R:RSh:=⟨D.rs,D.os⟩
abbrev g (v:ZlN U D.R):D.rho:=Zml (oTy U D.os D.rs) (Znh D.rs v.1 (Zl7 (r:=[]) (D.os) v.2 ()))
abbrev b (x:D.rho):ZbL U:=D.R.bld ((usR D.rs (ZmB (oTy U D.os D.rs) x)).1,(usU (r:=[]) (D.os) (usR D.rs (ZmB (oTy U D.os D.rs) x)).2).1)
theorem b_g (v:ZlN U D.R):D.b (D.g v)=D.R.bld v:=by obtain⟨c,a⟩:=v;have e:ZmB (oTy U D.os D.rs) (D.g (c,a))=Znh D.rs c (Zl7 (r:=[]) (D.os) a ()):=Zct _ _;have d:usR D.rs (Znh D.rs c (Zl7 (r:=[]) (D.os) a ()))=(c,Zl7 (r:=[]) (D.os) a ()):=Zh0 _ _ _;have f:(usU (r:=[]) (D.os) (Zl7 (r:=[]) (D.os) a ())).1=a:=congrArg Prod.fst (ZhZ _ _ _);unfold b;rw[e,d];exact congrArg (fun x=>D.R.bld (c,x)) f
abbrev FS:ZkU U:=⟨D.rho,D.fn.params.toList,(D.as.filter isVis).map amOf,(D.as.filter isVis).map ahOf,D.as,fun v=>app (Zke U D.as []) D.w (Zl8 (r:=[]) D.as v ()),D.b⟩
abbrev sig:ZjE U:=D.FS.sig
abbrev sg:Nat×ZjE U:=(D.f,D.sig)
abbrev F (X0:ZG U):FC U:=⟨X0.at D.fn.ntmps,D.fn,Zma D.fn,D.sigs,D.os.map (·.1),D.rs.map rmOf,D.rs.map rhOf,D.keep,D.alt⟩
abbrev C:CC U D.rho:=⟨[],none,[],ZeE D.R D.g⟩
def chk0:Bool:= !(D.fn.name == "runtime.NumGoroutine")&&D.fn.body.isSome&&Nat.ble D.as.length D.fn.ntmps
abbrev Ty:Type:=Bool×(D.rho->Bool)×(Zf3 U D.as->Option D.rho)×D.t.Ty
noncomputable abbrev lhs (X0:ZG U):D.Ty:=(D.chk0,fun r=>D.os.any (fun x=>isAr x.2)||(D.b r).outs.all (fun x=>x.2.len?.isNone),
 fun v=>evp (D.F X0) D.C (D.t.cuts some) [tc0 (D.F X0)] (ZkO (Zdr D.as v)),D.t.lhs (D.F X0) (ZeE D.R D.g) D.C some)
abbrev rhs:D.Ty:=(true,fun _=>true,fun v=>app (Zke U D.as []) D.s (Zl8 (r:=[]) D.as v ()),D.t.rhs)
end FD
structure Gnd (X0:ZG U):Prop where
 hU:UOk U
 hX:TOk X0
 hE:Zl X0.E
 hm:X0.prog.follows .mixedOrders=true
theorem Zdm:∀(a:List ShA) (v:Zf3 U a),(Zdr a v).length=a.length
 | [],_=>rfl
 |s::r,v=>by rw[Zdr,List.length_cons,List.length_cons,Zdm r]
theorem FD.fun {X0:ZG U} (G:Gnd X0) (D:FD U) (n:X0.prog.funcs[D.f]? =some D.fn) (o:Zdd X0 D.sigs) (h:D.lhs X0=D.rhs):
  (∀v r,app (Zke U D.as []) D.s (Zl8 (r:=[]) D.as v ())=some r->Fun X0.E D.f ((Zdr D.as v).map ZP.enc) (D.b r).enc)/\∀r,(D.os.any (fun x=>isAr x.2)||(D.b r).outs.all (fun x=>x.2.len?.isNone))=true:=by
 simp only[FD.lhs,FD.rhs,ZnP]at h;obtain⟨i,m,s,u⟩:=h;simp only[FD.chk0,Znu,Bool.not_eq_true',ZoE]at i;obtain⟨⟨p,c,f⟩,l⟩:=i;have e:FOk (D.F X0):=fok G.hU G.hX G.hE G.hm rfl o;have a:∀r,Zbl (D.F X0) (D.b r).enc r (D.t.cuts some):=fun r=>by
  have d:∀t,D.C.ret t=some r->t.enc=(D.b r).enc:=fun t w=>Zgl G.hU D.b_g w
  refine CT.ok e (ret0:=ZeE D.R D.g) D.t D.C some (by funext t;simp[FD.C]) u (cb:=(D.F X0).c) (base:=[]) rfl (fun L k=>by simp[FD.C]at k) (fun _=>rfl) trivial d
 have q:D.fn.body=some (D.F X0).c:=by rw[f];simp only[FD.F,Zma,f]
 exact⟨fun v r j=>ZgK (F:=D.F X0) rfl n p q (by rw[Zdm];exact Nat.le_of_ble_eq_true l)
   (Pt.ev0 e (b:=D.b) (S:=D.R) (g:=D.g) (pre:=[tc0 (D.F X0)]) rfl (ZgZ _) ((congrFun s v).trans j) ⟨rfl,trivial⟩ (a r) D.b_g),fun r=>congrFun m r⟩
theorem FD.ok {X0:ZG U} (G:Gnd X0) (D:FD U) (e:X0.prog.funcs[D.f]? =some D.fn) (d:Zdd X0 D.sigs) (c:D.os.any (fun x=>isAr x.2)=false) (hw:D.w=D.s) (h:D.lhs X0=D.rhs):Zez X0.E D.f D.sig:=by
 obtain⟨f,g⟩:=D.fun G e d h;refine ZkU.ok (S:=D.FS) G.hU fun v r a=> ?_
 have a:app (Zke U D.as []) D.w (Zl8 (r:=[]) D.as v ())=some r:=a;rw[hw]at a;have b:=g r;rw[c,Bool.false_or]at b;exact⟨f v r a,ZdP b⟩
theorem FD.okA {X0:ZG U} (G:Gnd X0) (D:FD U) (e:X0.prog.funcs[D.f]? =some D.fn) (c:Zdd X0 D.sigs)
  (hw:(fun v=>app (Zke U D.as []) D.w (Zl8 (r:=[]) D.as v ()))=fun v=>(app (Zke U D.as []) D.s (Zl8 (r:=[]) D.as v ())).bind fun r=>chk (Zid (Zdr D.as v) (D.b r)) (some r)) (h:D.lhs X0=D.rhs):Zez X0.E D.f D.sig:=by
 obtain⟨f,g⟩:=D.fun G e c h;refine ZkU.ok (S:=D.FS) G.hU fun v r a=> ?_
 have a:app (Zke U D.as []) D.w (Zl8 (r:=[]) D.as v ())=some r:=a;have b:=congrFun hw v;rw[a]at b;obtain⟨q1,d⟩:=chkLen b.symm;exact⟨f v r q1,ZiU d⟩
end
end Eng
namespace Eng
open Go
section
variable {U:Zd}
def Ty.isSt:Ty->Bool
 | .st _=>true
 |_=>false
def Zm8 (U:Zd):Prop:=∀n x,(U.cells n x).all (fun l=> !l.t.isSt)=true
def Zg9 (w:World) (cs:List Value) (ls:List (Lf U.car)):Prop:=
 cs.length=ls.length/\∀(j:Nat) v l,cs[j]? =some v->ls[j]? =some l->RelP w (fun b _=>b < w.heap.size) v (U.encL l)
theorem Zg9.one {w:World} {v:Value} {l:Lf U.car} (h:RelP w (fun b _=>b < w.heap.size) v (U.encL l)):Zg9 (U:=U) w [v] [l]:=by
 refine⟨rfl,fun j c l' a d=> ?_⟩;grind
theorem Zg9.append {w:World} {cs cs':List Value} {ls c:List (Lf U.car)} (h:Zg9 w cs ls) (d:Zg9 w cs' c):Zg9 w (cs++cs') (ls++c):=by
 refine⟨by simp[h.1,d.1],fun j v l a b=> ?_⟩;rw[List.getElem?_append]at a b
 by_cases hj:j < cs.length
 ·rw[if_pos hj]at a;rw[if_pos (by rw[<-h.1];exact hj)]at b;exact h.2 j v l a b
 ·rw[if_neg hj]at a;rw[if_neg (by rw[<-h.1];exact hj),<-h.1]at b;exact d.2 _ v l a b
def ZkZ (T:Ty) (cs:List Value):Value:=if T.isSt then .agg cs.toArray else cs.headD Go.undef
theorem Zij {w:World} {S:Fz} {v:Value} {l:Lf U.car} (b:l.t.isSt=false) (h:RelP w S v (U.encL l)):Zbp v/\v.cells= #[v]:=by
 obtain⟨t,x⟩:=l;generalize hz:U.encL ⟨t,x⟩=z at h;cases h with
 |agg vs cs a c h=>
  exfalso;cases t<;>first |(simp[Ty.isSt]at b;done) |(simp[Zd.encL,Zd.encE]at hz;done) |(cases x<;>simp[Zd.encL,Zd.encE,Zkw]at hz)
 |_=>exact⟨rfl,rfl⟩
theorem Zdw (o:UOk U) (j:Zm8 U) {w:World} {T:Ty} {y:El U.car T} {cs:List Value} (h:Zg9 w cs (U.cellsE T y)):
  RelP w (fun b _=>b < w.heap.size) (ZkZ T cs) (U.encE T y)/\(ZkZ T cs).cells=cs.toArray:=by
 cases T with
 |st n=>
  refine⟨?_,rfl⟩;simp only[Zd.encE,o.enc_cells n y];show RelP w _ (.agg cs.toArray) _;have d:=j n y;rw[ZnV]at d;refine .agg _ _ (by have g:cs.length=(U.cells n y).length:=h.1;simp_all) (fun i v m=> ?_) (fun i v c m e=> ?_)
  ·have a:cs[i]? =some v:=by simp_all
   have hi:i < (U.cells n y).length:=by have:=(ZnA.1 a).1;have g:cs.length=(U.cells n y).length:=h.1;omega
   have f:(U.cells n y)[i]? =some (U.cells n y)[i]:=Zn2 hi;exact(Zij (by simp_all) (h.2 i v _ a f)).1
  ·have a:cs[i]? =some v:=by simp_all
   rw[ZnB]at e;cases f:(U.cells n y)[i]? with
   |none=>simp_all
   |some l=>
    rw[f]at e;simp only[Zow,ZnO]at e;subst e;exact h.2 i v l a f
 |bool |int k |str |sl t |map k v |fnc=>
  obtain⟨g,p⟩:=h
  match cs,g with
  | [c],_=>
   have:=p 0 c _ rfl rfl;exact⟨this,(Zij rfl this).2⟩
def ZeB (P:Program) (U:Zd) (t:TypeId) (T:Ty):Prop:=
 ∀{H:Type} (enc:TypeId×Value->H) (w:World) (a:Nat) (cs:List Value) (x:DataW H×List MemPlace),DataW.trod enc P w 0 (fun _=>true) true a t cs=some x->
  (∀n∈x.1.weights P t,n<=reachBytes)->∃y:El U.car T,Zg9 w cs (U.cellsE T y)
variable {P:Program}
theorem Znf {t:TypeId} (c:P.underlying t=some .bool):ZeB P U t .bool:=fun enc w a cs x h _=>by obtain⟨b,rfl,_⟩:=DataW.trod_bool c h;exact⟨b,.one (.bool b)⟩
theorem opens_int {t:TypeId} {k:IntKind} (b:P.underlying t=some (.int k)):ZeB P U t (.int k):=fun enc w a cs x h _=>by obtain⟨n,rfl,_,hw⟩:=DataW.trod_int b h;simp only[Lit.wf,Znu,decide_eq_true_eq]at hw;exact⟨n,.one (.int k n hw.1 hw.2)⟩
theorem opens_str {t:TypeId} (b:P.underlying t=some .string):ZeB P U t .str:=fun enc w a cs x h _=>by obtain⟨⟨⟨l⟩⟩,rfl,_,c⟩:=DataW.trod_string b h;exact⟨l,.one (.str l c)⟩
theorem Zeg {b:Type} {R:Nat->b->Prop}:∀n,(∀i,i < n->∃y,R i y)->∃l:List b,l.length=n/\∀i y,l[i]? =some y->R i y
 |0,_=>⟨[],rfl,fun i y h=>by simp at h⟩
 |n+1,h=>by
  obtain⟨l,c,e⟩:=Zeg n fun i hi=>h i (by omega)
  obtain⟨y,d⟩:=h n (by omega);refine⟨l++[y],by simp[c],fun i z a=> ?_⟩;rw[List.getElem?_append]at a;split at a
  ·exact e i z a
  ·rename_i hi;have:i=n:=by have:=(ZnA.1 a).1;simp at this;omega
   subst this;simp[c]at a;subst a;exact d
theorem Zb2 {H:Type} {P:Program} {e:TypeId}:∀{l:List (DataW H)} {d:DataW H},d∈l->∀n∈d.weights P e,n∈DataW.weightsAll P e l
 |x::r,d,a,n,hn=>by
  simp only[DataW.weightsAll,Zn7];rcases ZnD.1 a with rfl |a
  ·exact .inl hn
  ·exact .inr (Zb2 a n hn)
theorem Zmv (q:UOk U) (L:Zm8 U) {t e:TypeId} {T:Ty} (O:P.underlying t=some (.slice e)) (aa:P.cellsOf e=U.tsize T) (K:0 < U.tsize T) (Y:1<=P.bytesOf e) (he:ZeB P U e T):ZeB P U t (.sl T):=fun enc w N cs x h hw=>by
 rcases DataW.trod_slice O h with ⟨rfl,_⟩ |⟨a,len,cap,b,rest,n,_,rfl,rfl,_,V,_,M,D,_,_⟩
 ·refine⟨[],.one ?_⟩;exact .sl none 0 0 _ _ (fun _=>Go.undef) rfl (by simp) (ZnJ _) (fun i hi=>by omega) (fun i hi=>by omega) (fun i e h=>by grind)
 ·have G:len<=reachBytes:=by have:=hw ((b.length+rest.length)*P.bytesOf e) (by grind[DataW.weights]);have k:b.length*1<=(b.length+rest.length)*P.bytesOf e:=Nat.mul_le_mul (by omega) Y;omega
  have f:∀i,i < len->∃y:El U.car T,∃c,w.cells? 0 (a.add (i*P.cellsOf e)) (P.cellsOf e)=some c/\Zg9 w c (U.cellsE T y):=fun i hi=>by
   obtain⟨p,o⟩:∃p,b[i]? =some p:=⟨_,Zn2 (by omega)⟩;have k:=D i hi;rw[o]at k;obtain⟨c,ab,F⟩:=Option.bind_eq_some_iff.1 k;obtain⟨y,W⟩:=he enc w n c p F fun m Z=>hw m (by
    simp only[DataW.weights,O,ZnD,Zn7];exact .inr (.inl (Zb2 (Zod.2 ⟨p,Zoe o,rfl⟩) m Z)))
   grind
  obtain⟨H,ae,W⟩:=Zeg len f;have d:∀i,i < len->∃y c,H[i]? =some y/\w.cells? 0 (a.add (i*P.cellsOf e)) (P.cellsOf e)=some c/\Zg9 w c (U.cellsE T y):=fun i hi=>by simp_all
  refine⟨H,.one ?_⟩;show RelP w _ (.slice (some a) len cap) (.sl (U.tsize T) (H.map (U.encE T)));refine .sl (some a) len cap _ _ (fun i=>ZkZ T ((w.cells? 0 (a.add (i*P.cellsOf e)) (P.cellsOf e)).getD [])) (by grind) (Nat.le_trans G (by decide)) V (fun i hi=> ?_) (fun i hi=> ?_) (fun i z hz=> ?_)
  ·obtain⟨y,c,k,l,g⟩:=d i hi;simp only[l,ZnL,(Zdw q L g).2];have:=g.1;grind[ZbV]
  ·obtain⟨y,c,k,l,g⟩:=d i hi;have X:c.length=U.tsize T:=by rw[g.1,ZbV q]
   obtain⟨_,ac,R⟩:=World.cells?_some l;have B:a.spot=none:=by
    obtain⟨y0,S,_,C,A⟩:=d 0 (by omega);have af:S.length=U.tsize T:=by rw[A.1,ZbV q]
    have r:=(World.cells?_some C).2.2 0 (by omega);rw[Nat.zero_mul,show (a.add 0).add 0=a from rfl,Zn2 (by omega)]at r;unfold World.cell? at r;cases hs:a.spot with
    |none=>rfl
    |some s=>grind
   have Q:a=⟨a.block,a.off,none⟩:=by cases a;simp_all
   have u:a.block < w.heap.size:=by have:=World.cells?_block l (by omega);unfold Addr.add at this;grind
   have J:∀n,a.add n=⟨a.block,a.off+n,none⟩:=fun n=>by
    unfold Addr.add;split
    ·rename_i r;subst r;exact Q
    ·rfl
   refine⟨a.block,a.off,by rw[<-Q],fun j v I=>⟨u, ?_⟩⟩;simp only[l,ZnL,(Zdw q L g).2]at I;have E:c[j]? =some v:=by simpa using I
   have hj:=(ZnA.1 E).1;grind[Addr.add]
  grind[Zdw]
abbrev Ys (U:Zd):List Ty->Type
 | []=>Unit
 |T::r=>El U.car T×Ys U r
def Ys.cells:(Ts:List Ty)->Ys U Ts->List (Lf U.car)
 | [],_=>[]
 |T::r,y=>U.cellsE T y.1++Ys.cells r y.2
def Zdc (P:Program) (U:Zd):Nat->List Field->List Ty->Prop
 |_,[],[]=>True
 |off,f::fs,T::Ts=>f.offset=off/\P.cellsOf f.type=U.tsize T/\ZeB P U f.type T/\Zdc P U (off+U.tsize T) fs Ts
 |_,_,_=>False
def Zgh (U:Zd):List Ty->Nat
 | []=>0
 |T::r=>U.tsize T+Zgh U r
theorem Zef (hU:UOk U) {H:Type} (enc:TypeId×Value->H) (w:World) (n:Nat) (cs:List Value):∀(off:Nat) (fs:List Field) (Ts:List Ty) (xs:List (DataW H×List MemPlace)),Zdc P U off fs Ts->xs.length=fs.length->
  (∀(i:Nat) (f:Field),fs[i]? =some f->DataW.trod enc P w 0 (fun _=>true) true n f.type ((cs.drop f.offset).take (P.cellsOf f.type))=xs[i]?)->
  (∀m∈DataW.weightsEach P (fs.map (·.type)) (xs.map (·.1)),m<=reachBytes)->cs.length=off+Zgh U Ts->∃ys:Ys U Ts,Zg9 w (cs.drop off) (ys.cells Ts)
 |off,[],[],xs,_,_,_,_,hl=>⟨(),by simp[Ys.cells,Zg9,hl,Zgh]⟩
 |off,f::fs,T::Ts,[],_,hx,_,_,_=>by simp at hx
 |off,f::fs,T::Ts,x::xs,⟨h1,h2,h3,h4⟩,hx,hf,hw,hl=>by
  have hf0:=hf 0 f rfl;rw[Zny,h1,h2]at hf0;simp only[Zn6,DataW.weightsEach,Zn7]at hw;obtain⟨y,hy⟩:=h3 enc w n _ x hf0 fun m hm=>hw m (.inl hm)
  obtain⟨ys,hys⟩:=Zef hU enc w n cs (off+U.tsize T) fs Ts xs h4 (by simpa using hx) (fun i g hg=>hf (i+1) g (by simpa using hg)) (fun m hm=>hw m (.inr hm)) (by simp only[Zgh]at hl;omega);refine⟨(y,ys), ?_⟩;have:cs.drop off=(cs.drop off).take (U.tsize T)++cs.drop (off+U.tsize T):=by rw[<-List.drop_drop,List.take_append_drop]
  rw[this];exact hy.append hys
 |_,[],_::_,_,h,_,_,_,_=>h.elim
 |_,_::_,[],_,h,_,_,_,_=>h.elim
theorem Zl0 (hU:UOk U) {t:TypeId} {fs:Array Field} {k:Nat} {Ts:List Ty} (ht:P.underlying t=some (.struct fs)) (hs:P.cellsOf t=Zgh U Ts) (hf:Zdc P U 0 fs.toList Ts)
  (mk:∀ys:Ys U Ts,∃x:U.car k,U.cells k x=ys.cells Ts):ZeB P U t (.st k):=fun enc w fuel cs x h hw=>by
 obtain⟨xs,n,_,rfl,hl,hx,hfs⟩:=DataW.trod_struct ht h;obtain⟨ys,hys⟩:=Zef hU enc w n cs 0 fs.toList Ts xs hf (by simpa using hx) (fun i f hi=>hfs i f (by simpa using hi)) (fun m hm=>hw m (by simpa[DataW.weights,ht]using hm)) (by rw[hl,hs];omega);obtain⟨y,hy⟩:=mk ys;refine⟨y, ?_⟩;show Zg9 w cs (U.cells k y);rw[hy];simpa using hys
theorem open_arg (j:UOk U) (g:Zm8 U) {H:Type} {enc:TypeId×Value->H} {t:TypeId} {T:Ty} (c:ZeB P U t T) {w:World} {v:Value} {d:DataW H} {f:List MemPlace} (h:DataW.Trod enc P w 0 (fun _=>true) true t v d f)
  (hw:∀n∈d.weights P t,n<=reachBytes) (i:ZkZ T v.cells.toList=v):∃y:El U.car T,RelP w (fun b _=>b < w.heap.size) v (U.encE T y):=by
 obtain⟨a,e⟩:=h;obtain⟨y,k⟩:=c enc w a _ _ e hw;refine⟨y, ?_⟩;grind[Zdw]
theorem okv_plain {w:World} {r:Reach} {base:Nat} {t:TypeId} {v:Value} {T:Ty} (c:T.isSt=false) (f:∃d,P.underlying t=some d/\(match d with | .bool | .string | .int _ | .slice _=>True |_=>False)) (h:Value.okWide P w r base t v):ZkZ T v.cells.toList=v:=by
 obtain⟨d,a,b⟩:=f;have key:v.cells= #[v]->ZkZ T v.cells.toList=v:=fun e=>by unfold ZkZ;rw[c,e];rfl
 cases d<;>simp only at b
 all_goals (simp only[Value.okWide,a,Cell.okWide]at h;cases v<;>first |exact key rfl |(simp[Cell.ok,a]at h;done))
theorem okv_st {w:World} {r:Reach} {base:Nat} {t:TypeId} {v:Value} {n:Nat} (c:∃d,P.underlying t=some d/\(match d with | .struct _ | .array _ _=>True |_=>False)) (h:Value.okWide P w r base t v):ZkZ (.st n) v.cells.toList=v:=by
 obtain⟨d,a,b⟩:=c;cases d<;>simp only at b
 all_goals (simp only[Value.okWide,a]at h;obtain⟨cs,rfl,_⟩:=h;simp[ZkZ,Ty.isSt,Value.cells])
theorem ZjF.trod {H:Type} {enc:TypeId×Value->H} {t:TypeId} (i:laidOutB P=true) (j:P.readableRec t=true) (a:t < P.types.size) {W W':World} {v:Value} {d:DataW H} {c:List MemPlace}
  (h:DataW.Trod enc P W 0 (fun _=>true) true t v d c) (k:ZjF W W') (e:∀x∈c,x.block < W.heap.size) {g:Nat->Bool} (f:∀x∈c,g x.block=true):DataW.Trod enc P W' 0 g true t v d c:=
 WideElems.Trod_stays i j a h (fun x l=>by
  have:=k.2.2 _ (e x l);cases x with
  |cell b o=>exact World.cell?_of_block (w:=W) this
  |map b=>exact this) f
end
end Eng

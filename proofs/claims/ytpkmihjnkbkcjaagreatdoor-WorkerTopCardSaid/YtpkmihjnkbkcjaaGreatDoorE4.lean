/- The engine, text 4: an abstract evaluator of Go code over pure data, proved sound. -/
import Derived.Test.YtpkmihjnkbkcjaaGreatDoorE3
import Derived.Maps.RangeRun
import Derived.Below
import Derived.Laws.OwnMore
import Derived.OpenShut
import Derived.SizedLaws
import Derived.WideKeyArgs
import Derived.Carry
set_option linter.unusedVariables false
set_option linter.unusedSimpArgs false
set_option linter.unusedSectionVars false
open Array renaming getElem?_append→Znx, getElem?_eq_some_iff→Zm4, toArray_toList→ZnA
open Bool renaming and_eq_true→Zm8, false_eq_true→Zm9
open List renaming all_eq_true→ZnD, cons.injEq→Zof, cons_append→ZnF, eq_nil_of_length_eq_zero→ZnH, getElem?_append_right→ZnJ, getElem?_cons_zero→Znc, getElem?_eq_getElem→ZnL, getElem?_eq_some_iff→Zne, getElem?_map→Znf, getElem?_zip_eq_some→Zog, length_map→Zn6, map_cons→Znh, mem_append→Zni, mem_cons→Znj, mem_cons_of_mem→ZnR, mem_iff_getElem?→Zoh, mem_map→ZnT, mem_of_find?_eq_some→Zoi, mem_singleton→Znm
open Nat renaming le_refl→Znq
open Option renaming getD_some→Zns, isSome_iff_exists→Zoj, map_some→Zoe, some.inj→Znu, some.injEq→Znv
open Prod renaming mk.injEq→Znw
namespace Eng
open Go
section
variable {U:Zc}
inductive TQ (U:Zc) where
 |l (x:Lf U.car)
 |ptr (cs:List (Lf U.car))
 |fn (f:Nat) (first caps:List (TQ U))
 |nilp |nilfn
mutual
def TQ.enc:TQ U→P
 | .l x=>U.encL x
 | .ptr cs=> .ptr (cs.map U.encL)
 | .fn f a b=> .fn f (TQ.encs a) (TQ.encs b)
 | .nilp=> .nilp
 | .nilfn=> .nilfn
def TQ.encs:List (TQ U)→List P
 | []=>[]
 |q::r=>q.enc::TQ.encs r
end
mutual
def TQ.tv:TQ U→TV U
 | .l x=>lv x
 | .ptr cs=> .pp cs
 | .fn f a b=> .fn f (TQ.tvs a) (TQ.tvs b)
 | .nilp=> .nilp
 | .nilfn=> .nilfn
def TQ.tvs:List (TQ U)→List (TV U)
 | []=>[]
 |q::r=>q.tv::TQ.tvs r
end
inductive ZX (U:Zc) where
 |p (q:TQ U)
 |box (cs:List (Lf U.car))
 |arr (t:Ty) (xs:List (El U.car t))
 |map (k v:Ty) (kv:List (El U.car k×El U.car v))
 |part (t:Ty) (xs:List (El U.car t)) (off len:Nat)
def ZX.enc:ZX U→Arg
 | .p q=> .p q.enc
 | .box cs=> .box (cs.map U.encL)
 | .arr t xs=> .arr (U.tsize t) (xs.map (U.encE t))
 | .map k v kv=> .map k.td (kv.map fun e=>(U.encE k e.1,U.encE v e.2))
 | .part t xs off len=> .part (U.tsize t) (xs.map (U.encE t)) off len
inductive TRV (U:Zc) where
 |p (l:Lf U.car)
 |own (t:Ty) (xs:List (El U.car t))
 |box (cs:List (Lf U.car))
 |map (k v:Ty) (kv:List (El U.car k×El U.car v))
 |view (k off len:Nat)
 |aown (pre:List (Lf U.car)) (t:Ty) (xs:List (El U.car t)) (post:List (Lf U.car))
def TRV.enc:TRV U→RV
 | .p l=> .p (U.encL l)
 | .own t xs=> .own (U.tsize t) (xs.map (U.encE t))
 | .box cs=> .box (cs.map U.encL)
 | .map k v kv=> .map k.td (kv.map fun e=>(U.encE k e.1,U.encE v e.2))
 | .view k off len=> .view k off len
 | .aown pre t xs post=> .aown (pre.map U.encL) (U.tsize t) (xs.map (U.encE t)) (post.map U.encL)
structure ZbG (U:Zc) where
 res:List (TRV U)
 outs:List (Nat×ZX U):=[]
def ZbG.enc (r:ZbG U):Ret:=⟨r.res.map TRV.enc,r.outs.map fun x=>(x.1,x.2.enc)⟩
structure SigR (U:Zc) where
 α:Type
 o:Option α
 give:α→ZbG U
structure Zjt (U:Zc) where
 pts:List Nat
 ms:List AM
 hs:List (Option Nat)
 sig:List (ZX U)→Option (SigR U)
def Zdj (T:TS U) (h:Option Nat):Nat→TV U→Option (TQ U)
 |_,.pp cs=>some (.ptr cs)
 |_,.nilp=>some .nilp
 |_,.nilfn=>some .nilfn
 |_,.ptr id i j=>match T.objs id with
  |some (.box cs)=>if i=0 then match Zj T.lf1 (cs.drop j)with
   |some ls=>some (.ptr ls)
   |none=>none
   else none
  |_=>none
 |n+1,.fn f a b=>match Zj (Zdj T none n) a,Zj (Zdj T none n) b with
  |some a',some b'=>some (.fn f a' b')
  |_,_=>none
 |_,d=>match T.lf h d with
  |some l=>some (.l l)
  |none=>none
theorem ZjT:∀l:List (TQ U),TQ.encs l=l.map TQ.enc
 | []=>rfl
 |q::r=>by rw[TQ.encs,ZjT r];rfl
mutual
theorem Zjx:∀q:TQ U,q.tv.enc= .p q.enc∧q.tv.fulls=[]
 | .l x=>⟨rfl,rfl⟩
 | .ptr cs=>⟨rfl,rfl⟩
 | .nilp=>⟨rfl,rfl⟩
 | .nilfn=>⟨rfl,rfl⟩
 | .fn f a b=>by obtain⟨a1,a2⟩:=Zg5 a;obtain⟨b1,b2⟩:=Zg5 b;refine⟨?_,by simp only[TQ.tv,TV.fulls,a2,b2,List.append_nil]⟩;simp only[TQ.tv,TV.enc,a1,b1,fnD,Zay,TQ.enc]
theorem Zg5:∀l:List (TQ U),TV.encs (TQ.tvs l)=(TQ.encs l).map .p∧TV.fullsL (TQ.tvs l)=[]
 | []=>⟨rfl,rfl⟩
 |q::r=>by obtain⟨a1,a2⟩:=Zjx q;obtain⟨b1,b2⟩:=Zg5 r;exact⟨by simp only[TQ.tvs,TV.encs,a1,b1,TQ.encs,Znh],by simp only[TQ.tvs,TV.fullsL,a2,b2,List.append_nil]⟩
end
theorem ZjS (hU:UOk U) {T:TS U} (hT:T.Inv):∀(n:Nat) (h:Option Nat) (d:TV U) (q:TQ U),d.inv T.objs→Zdj T h n d=some q→d.enc.toP T.enc.objs (n+1)=some q.enc:=by
 have base:∀(n:Nat) (h:Option Nat) (d:TV U) (q:TQ U),(∀f a b,d≠ .fn f a b)→d.inv T.objs→Zdj T h n d=some q→d.enc.toP T.enc.objs (n+1)=some q.enc:=by
  intro n h d q hne hi hr;have dflt:(match T.lf h d with |some l=>some (TQ.l l) |none=>none)=some q→d.enc.toP T.enc.objs (n+1)=some q.enc:=fun hq=>by split at hq;rotate_left;simp at hq;rename_i l hl;cases hq;exact Ze0 hU hi hl n
  cases d with
  |pp cs=>simp only[Zdj,Znv]at hr;subst hr;simp[TV.enc,TQ.enc]
  |nilp=>simp only[Zdj,Znv]at hr;subst hr;simp[TV.enc,TQ.enc]
  |nilfn=>simp only[Zdj,Znv]at hr;subst hr;simp[TV.enc,TQ.enc]
  |ptr id i j=>
   simp only[Zdj]at hr;split at hr;rotate_left;simp at hr;rename_i cs ho;split at hr;rotate_left;simp at hr;rename_i h0;subst h0;split at hr;rotate_left;simp at hr;rename_i ls hls;cases hr;have:=Zcq n (fun c hc=>hT.objs id _ ho c (List.mem_of_mem_drop hc)) hls;rw[Zby]at this;simp only[TV.enc,D.toP,Zd ho,ZaS,if_true,this,Zoe,TQ.enc]
  |fn f a b=>exact absurd rfl (hne f a b)
  |_=>cases n<;>exact dflt hr
 intro n
 induction n with
 |zero=>
  intro h d q hi hr;cases d with
  |fn f a b=>
   simp only[Zdj]at hr;split at hr;rotate_left;simp at hr;rename_i l hl;cases hr;exact Ze0 hU hi hl 0
  |_=>exact base 0 h _ q (by simp) hi hr
 |succ n ih=>
  intro h d q hi hr;cases d with
  |fn f a b=>
   simp only[Zdj]at hr;split at hr;rotate_left;simp at hr;rename_i a' b' ha hb;cases hr;have lst:∀(l:List (TV U)) (l':List (TQ U)),(∀c∈l,c.inv T.objs)→Zj (Zdj T none n) l=some l'→Zj (D.toP T.enc.objs (n+1)) (TV.encs l)=some (TQ.encs l'):=by
    intro l
    induction l with
    |nil=>intro l' _ h;simp[Zj]at h;subst h;rfl
    |cons c l ihl=>
     intro l' hi h;simp only[Zj]at h;split at h;rotate_left;simp at h;rename_i y ys h1 h2;cases h;simp only[TV.encs,Zj,ih none c y (hi c (by simp)) h1,ihl ys (fun a ha=>hi a (by simp[ha])) h2,TQ.encs]
   have la:=lst a a' (fun c hc q hq=>hi q (by simp only[TV.fulls,Zni];exact .inl (Zr.2 ⟨c,hc,hq⟩))) ha;have lb:=lst b b' (fun c hc q hq=>hi q (by simp only[TV.fulls,Zni];exact .inr (Zr.2 ⟨c,hc,hq⟩))) hb;rw[TV.enc,TQ.enc];unfold fnD;have pu:∀(ps:List P),Zj (D.toP T.enc.objs (n+1)) (ps.map .p)=some ps:=by
    intro ps
    induction ps with
    |nil=>rfl
    |cons x r ih=>simp only[Znh,Zj,Zjz,ih]
   cases hpa:Zj D.pure? (TV.encs a)with
   |none=>simp only[D.toP,la,lb]
   |some x=>
    cases hpb:Zj D.pure? (TV.encs b)with
    |none=>simp only[D.toP,la,lb]
    |some y=>
     rw[Zv hpa,pu,Znv]at la;rw[Zv hpb,pu,Znv]at lb;simp only[Zjz,la,lb]
  |_=>exact base (n+1) h _ q (by simp) hi hr
structure AET (U:Zc) where
 arg:ZX U
 fs:List Id:=[]
 id:Option Id:=none
def argT (T:TS U) (m:AM) (h:Option Nat) (d:TV U):Option (AET U):=
 match m,d with
 | .p,d=>match Zdj T h 7 d with
  |some q=>some {arg:= .p q,fs:=d.enc.ids T.enc.objs depth}
  |none=>none
 | .lend,.ptr id 0 0=>match T.objs id with
  |some (.box ds)=>match Zj T.lf1 ds with
   |some ls=>some {arg:= .box ls,fs:=(TV.encs ds).flatMap fun d=>d.ids T.enc.objs depth,id:=some id}
   |none=>none
  |_=>none
 | .lend,.full id _=>match T.objs id with
  |some (.arr t xs false)=>some {arg:= .arr t xs,id:=some id}
  |_=>none
 | .lend,.map id=>match T.objs id with
  |some (.map k v kv)=>some {arg:= .map k v kv,id:=some id}
  |_=>none
 | .part,.sl id off len=>match T.objs id with
  |some (.arr t xs false)=>some {arg:= .part t xs off len,id:=some id}
  |_=>none
 |_,_=>none
def AET.ae (a:AET U) (cs:List Bool):AE:={arg:=a.arg.enc,fs:=a.fs,id:=a.id,cond:=cs}
theorem ZcT {T:TS U} {cs:List (TV U)} {ls:List (Lf U.car)} (hi:∀d∈cs,d.inv T.objs) (h:Zj T.lf1 cs=some ls):Zj (fun d=>D.toP T.enc.objs depth d) (TV.encs cs)=some (ls.map U.encL):=Zcq depth hi h
theorem ZmJ (hU:UOk U) {T:TS U} (hT:T.Inv) {m:AM} {h:Option Nat} {d:TV U} {a:AET U} (hi:d.inv T.objs) (hr:argT T m h d=some a):∃cs,ZgV T.enc m d.enc=some (a.ae cs)∧∀q∈cs,q=true:=by
 unfold argT at hr;split at hr
 ·split at hr;rotate_left;simp at hr;rename_i q hq;cases hr;exact⟨[],by simp only[ZgV,depth,ZjS hU hT 7 h d q hi hq,AET.ae,ZX.enc],by simp⟩
 ·rename_i id;split at hr;rotate_left;simp at hr;rename_i ds ho;split at hr;rotate_left;simp at hr;rename_i ls hls;cases hr;refine⟨[], ?_,by simp⟩;simp only[ZgV,TV.enc,Zd ho,ZaS,ZcT (hT.objs id _ ho) hls,AET.ae,ZX.enc]
 ·rename_i id n;split at hr;rotate_left;simp at hr;rename_i t xs ho;cases hr;obtain⟨o,h1,h2⟩:=hi (id,n) (by simp[TV.fulls]);dsimp only at h1;have hl:=h2 _ (by rw[ho,Znv]at h1;rw[←h1];rfl);refine⟨[decide (n=(xs.map (U.encE t)).length)], ?_,by simp[hl]⟩;simp only[ZgV,TV.enc,Zd ho,ZI,AET.ae,ZX.enc]
 ·rename_i id;split at hr;rotate_left;simp at hr;rename_i k v kv ho;cases hr;exact⟨[],by simp only[ZgV,TV.enc,Zd ho,Z8,AET.ae,ZX.enc],by simp⟩
 ·rename_i id off len;split at hr;rotate_left;simp at hr;rename_i t xs ho;cases hr;exact⟨[],by simp only[ZgV,TV.enc,Zd ho,ZI,AET.ae,ZX.enc],by simp⟩
 ·simp at hr
def Z9 (T:TS U):List AM→List (Option Nat)→List (TV U)→Option (List (AET U))
 | [],_,[]=>some []
 |m::ms,h::hs,d::ds=>match argT T m h d,Z9 T ms hs ds with
  |some a,some r=>some (a::r)
  |_,_=>none
 |_,_,_=>none
theorem Zfd (hU:UOk U) {T:TS U} (hT:T.Inv):∀{ms:List AM} {hs:List (Option Nat)} {ds:List (TV U)} {as:List (AET U)},(∀d∈ds,d.inv T.objs)→Z9 T ms hs ds=some as→
  ∃aes:List AE,Zj (fun x:AM×D=>ZgV T.enc x.1 x.2) (ms.zip (TV.encs ds))=some aes∧ds.length=ms.length∧aes.map (·.arg)=as.map (fun a=>a.arg.enc)∧aes.flatMap (·.fs)=as.flatMap (·.fs)∧(∀q∈aes.flatMap (·.cond),q=true)∧aes.map (·.id)=as.map (·.id)
 | [],hs,[],as,_,h=>by simp only[Z9,Znv]at h;subst h;exact⟨[],rfl,rfl,rfl,rfl,by simp,rfl⟩
 | [],hs,d::ds,as,_,h=>by simp[Z9]at h
 |m::ms,[],ds,as,_,h=>by simp[Z9]at h
 |m::ms,hh::hs,[],as,_,h=>by simp[Z9]at h
 |m::ms,hh::hs,d::ds,as,hi,h=>by simp only[Z9]at h;split at h;rotate_left;simp at h;rename_i a r h1 h2;cases h;obtain⟨cs,q1,q2⟩:=ZmJ hU hT (hi d (by simp)) h1;obtain⟨aes,p1,p2,p3,p4,p5,p6⟩:=Zfd hU hT (fun a ha=>hi a (by simp[ha])) h2;refine⟨a.ae cs::aes,by simp only[TV.encs,List.zip_cons_cons,Zj,q1,p1],by simp[p2],by simp[AET.ae,p3],by simp[AET.ae,p4], ?_,by simp[AET.ae,p6]⟩;intro q hq;simp only[List.flatMap_cons,Zni]at hq;exact hq.elim (fun h=>q2 q h) (fun h=>p5 q h)
def ZX.o:ZX U→Option (TO U)
 | .p _=>none
 | .box cs=>some (.box (cs.map lv))
 | .arr t xs=>some (.arr t xs false)
 | .map k v kv=>some (.map k v kv)
 | .part t xs _ _=>some (.arr t xs false)
def Zfb (outs:List (Nat×ZX U)) (k:Nat):TO U:=match Zg outs k with
 |some a=>match a.o with
  |some o=>o
  |none=> .gone
 |none=> .gone
def ZgQ (outs:List (Nat×ZX U)):Nat→List (AET U)→List (Id×TO U)
 |_,[]=>[]
 |k,x::r=>match x.id with
  |some id=>(id,Zfb outs k)::ZgQ outs (k+1) r
  |none=>ZgQ outs (k+1) r
def TRV.at (ep i:Nat) (as:List (AET U)) (j:Nat):TRV U→Option (TV U)
 | .p l=>some (lv l)
 | .own _ es=>some (.full (ep,i,j) es.length)
 | .box _=>some (.ptr (ep,i,j) 0 0)
 | .map _ _ _=>some (.map (ep,i,j))
 | .view k off len=>match as[k]? with
  |some a=>match a.id with
   |some id=>some (.sl id off len)
   |none=>none
  |none=>none
 | .aown pre _ es post=>some (.agg (pre.map lv++ .full (ep,i,j) es.length::post.map lv))
def TRV.o:TRV U→Option (TO U)
 | .own t es=>some (.arr t es false)
 | .aown _ t es _=>some (.arr t es false)
 | .box cs=>some (.box (cs.map lv))
 | .map k v kv=>some (.map k v kv)
 |_=>none
def Zdb (ep i:Nat) (as:List (AET U)):Nat→List (TRV U)→Option (List (TV U))
 |_,[]=>some []
 |j,x::r=>match x.at ep i as j,Zdb ep i as (j+1) r with
  |some d,some ds=>some (d::ds)
  |_,_=>none
def ZaG:Nat→List (TRV U)→List (Nat×TO U)
 |_,[]=>[]
 |j,x::r=>match x.o with
  |some o=>(j,o)::ZaG (j+1) r
  |none=>ZaG (j+1) r
def tupT:List (TV U)→TV U
 | [d]=>d
 |ds=> .tup ds
def ZgN (T:TS U) (i:Nat) (as:List (AET U)) (ret:ZbG U):Option (Zi U):=
 match Zdb T.ep i as 0 ret.res with
 |some ds=>some {val:=tupT ds,new:=ZaG 0 ret.res,wr:=ZgQ ret.outs 0 as,frz:=as.flatMap (·.fs)}
 |none=>none
theorem Ziw (a:ZX U):ZiL a.o=a.enc.o:=by
 cases a with
 |p q=>rfl
 |box cs=>simp only[ZX.o,ZiL,TO.enc,Zbx,ZX.enc,Arg.o]
 |arr t xs=>rfl
 |map k v kv=>rfl
 |part t xs off len=>rfl
theorem Zfc {α β γ:Type} [DecidableEq α] (f:β→γ):∀(l:List (α×β)) (x:α),Zg (l.map fun y=>(y.1,f y.2)) x=(Zg l x).map f
 | [],x=>rfl
 |(a,b)::r,x=>by
  simp only[Znh,Zg];split
  ·rfl
  ·exact Zfc f r x
theorem Zji (outs:List (Nat×ZX U)) (k:Nat):(Zfb outs k).enc=Zdo (outs.map fun x=>(x.1,x.2.enc)) k:=by
 unfold Zfb Zdo;rw[Zfc];cases Zg outs k with
 |none=>rfl
 |some a=>
  simp only[Zoe];rw[←Ziw a];cases a.o<;>rfl
theorem Zej (outs:List (Nat×ZX U)):∀(k:Nat) (as:List (AET U)) (aes:List AE),aes.map (·.id)=as.map (·.id)→(ZgQ outs k as).map (fun x=>(x.1,x.2.enc))=ZbB (outs.map fun x=>(x.1,x.2.enc)) k aes
 |k,[],[],_=>rfl
 |k,[],_::_,h=>by simp at h
 |k,_::_,[],h=>by simp at h
 |k,a::as,b::bs,h=>by
  simp only[Znh,Zof]at h;simp only[ZgQ,ZbB,h.1];cases a.id with
  |none=>exact Zej outs (k+1) as bs h.2
  |some id=>simp only[Znh,Zej outs (k+1) as bs h.2,Zji]
theorem Zgh (d:D) (hd:d.pure?=none) (post:List D):∀pre:List P,Zj D.pure? (pre.map D.p++d::post)=none
 | []=>by simp[Zj,hd]
 |x::pre=>by have:=Zgh d hd post pre;simp[Zj,this]
theorem Zim (pre post:List (Lf U.car)) (id:Id) (n:Nat):(TV.agg (pre.map lv++ .full id n::post.map lv):TV U).enc= .agg ((pre.map U.encL).map .p++ .sl id 0 n::(post.map U.encL).map .p):=by
 have e:TV.encs (pre.map lv++ .full id n::post.map lv)=(pre.map U.encL).map .p++ .sl id 0 n::(post.map U.encL).map .p:=by rw[Zah,List.map_append,Znh,←Zah,←Zah,Zbx,Zbx];rfl
 rw[TV.enc,e];unfold D.mkAgg;rw[Zgh _ rfl]
theorem ZiY {pre post:List (Lf U.car)} {id:Id} {n:Nat} {q:Id×Nat} (h:q∈(TV.agg (pre.map lv++ .full id n::post.map lv):TV U).fulls):q=(id,n):=by
 rw[TV.fulls]at h;obtain⟨d,hd,hq⟩:=Zr.1 h;rcases Zni.1 hd with hd |hd
 ·obtain⟨l,_,rfl⟩:=ZnT.1 hd;simp[lv,TV.fulls]at hq
 ·rcases Znj.1 hd with rfl |hd
  ·simpa[TV.fulls]using hq
  ·obtain⟨l,_,rfl⟩:=ZnT.1 hd;simp[lv,TV.fulls]at hq
theorem ZkY {ep i j:Nat} {as:List (AET U)} {aes:List AE} (hid:aes.map (·.id)=as.map (·.id)) {x:TRV U} {d:TV U} (h:x.at ep i as j=some d):x.enc.at ep i aes j=some d.enc:=by
 cases x with
 |p l=>simp only[TRV.at,Znv]at h;subst h;rfl
 |own t es=>simp only[TRV.at,Znv]at h;subst h;simp only[TRV.enc,RV.at,TV.enc,Zn6]
 |box cs=>simp only[TRV.at,Znv]at h;subst h;rfl
 |map k v kv=>simp only[TRV.at,Znv]at h;subst h;rfl
 |aown pre t es post=>simp only[TRV.at,Znv]at h;subst h;simp only[Zim,TRV.enc,RV.at,Zn6]
 |view k off len=>
  simp only[TRV.at]at h;have hk:(aes[k]?).map (·.id)=(as[k]?).map (·.id):=by rw[←Znf,←Znf,hid]
  split at h;rotate_left;simp at h;rename_i a ha;rw[ha]at hk;cases hb:aes[k]? with
  |none=>rw[hb]at hk;simp at hk
  |some b=>
   rw[hb]at hk;simp only[Zoe,Znv]at hk;split at h;rotate_left;simp at h;rename_i id hid';cases h;simp only[TRV.enc,RV.at,hb,hk,hid',TV.enc]
theorem Zl7 (x:TRV U):ZiL x.o=x.enc.o:=by
 cases x with
 |box cs=>simp only[TRV.o,ZiL,TO.enc,Zbx,TRV.enc,RV.o]
 |_=>rfl
theorem ZeP {ep i:Nat} {as:List (AET U)} {aes:List AE} (hid:aes.map (·.id)=as.map (·.id)):∀(j:Nat) (l:List (TRV U)) (ds:List (TV U)),Zdb ep i as j l=some ds→Zhd ep i aes j (l.map TRV.enc)=some (TV.encs ds)
 |j,[],ds,h=>by simp only[Zdb,Znv]at h;subst h;rfl
 |j,x::r,ds,h=>by simp only[Zdb]at h;split at h;rotate_left;simp at h;rename_i d ds' h1 h2;cases h;simp only[Znh,Zhd,ZkY hid h1,ZeP hid (j+1) r ds' h2,TV.encs]
theorem Zb3:∀(j:Nat) (l:List (TRV U)),(ZaG j l).map (fun x=>(x.1,x.2.enc))=Zbg j (l.map TRV.enc)
 |j,[]=>rfl
 |j,x::r=>by
  simp only[ZaG,Znh,Zbg];have:=Zl7 x;cases hx:x.o with
  |none=>rw[hx]at this;rw[←this];exact Zb3 (j+1) r
  |some o=>rw[hx]at this;rw[←this];simp only[ZiL,Znh,Zb3 (j+1) r]
theorem ZkP (ds:List (TV U)):(tupT ds).enc=tupD (TV.encs ds):=by
 match ds with
 | []=>rfl
 | [d]=>rfl
 |a::b::r=>rfl
theorem Zjg {T:TS U} {i:Nat} {as:List (AET U)} {aes:List AE} {ret:ZbG U} {e:Zi U} (hid:aes.map (·.id)=as.map (·.id)) (hfs:aes.flatMap (·.fs)=as.flatMap (·.fs)) (h:ZgN T i as ret=some e):ZfT T.enc i aes ret.enc=some (e.enc []):=by unfold ZgN at h;split at h;rotate_left;simp at h;rename_i ds hds;cases h;unfold ZfT;rw[show T.enc.ep=T.ep from rfl,show ret.enc.res=ret.res.map TRV.enc from rfl,ZeP hid 0 _ ds hds];simp only[Zi.enc,ZkP,Zb3,ZbG.enc,Zej ret.outs 0 as aes hid,hfs]
def ZX.len?:ZX U→Option Nat
 | .arr _ xs=>some xs.length
 | .part _ xs _ _=>some xs.length
 |_=>none
def Zev (args:List (ZX U)) (ret:ZbG U):Prop:=∀k a n,(k,a)∈ret.outs→a.len?=some n→∃a',args[k]? =some a'∧a'.len?=some n
theorem Zcx {outs:List (Nat×ZX U)}:∀(n:Nat) (l:List (AET U)) (id:Id) (o:TO U),(id,o)∈ZgQ outs n l→∃j x,l[j]? =some x∧x.id=some id∧o=Zfb outs (n+j)
 |n,[],id,o,h=>by simp[ZgQ]at h
 |n,x::r,id,o,h=>by
  simp only[ZgQ]at h;split at h
  ·rename_i id' hid;rcases Znj.1 h with h |h
   ·simp only[Znw]at h;exact⟨0,x,rfl,by rw[hid,h.1],by simpa using h.2⟩
   ·obtain⟨j,y,h1,h2,h3⟩:=Zcx (n+1) r id o h;exact⟨j+1,y,by simpa using h1,h2,by rw[h3];congr 1;omega⟩
  ·obtain⟨j,y,h1,h2,h3⟩:=Zcx (n+1) r id o h;exact⟨j+1,y,by simpa using h1,h2,by rw[h3];congr 1;omega⟩
theorem Zeo {T:TS U}:∀{ms:List AM} {hs:List (Option Nat)} {ds:List (TV U)} {as:List (AET U)},Z9 T ms hs ds=some as→∀(j:Nat) (a:AET U),as[j]? =some a→∃m h d,argT T m h d=some a
 | [],hs,[],as,h,j,a,ha=>by simp only[Z9,Znv]at h;subst h;simp at ha
 | [],hs,d::ds,as,h,j,a,ha=>by simp[Z9]at h
 |m::ms,[],ds,as,h,j,a,ha=>by simp[Z9]at h
 |m::ms,hh::hs,[],as,h,j,a,ha=>by simp[Z9]at h
 |m::ms,hh::hs,d::ds,as,h,j,a,ha=>by
  simp only[Z9]at h;split at h;rotate_left;simp at h;rename_i b r h1 h2;cases h;cases j with
  |zero=>simp only[Znc,Znv]at ha;subst ha;exact⟨_,_,_,h1⟩
  |succ j=>exact Zeo h2 j a (by simpa using ha)
theorem ZaF:∀(j:Nat) (l:List (TRV U)) (k:Nat) (o:TO U),(k,o)∈ZaG j l→∃(m:Nat) (x:TRV U),l[m]? =some x∧k=j+m∧x.o=some o
 |j,[],k,o,h=>by simp[ZaG]at h
 |j,x::r,k,o,h=>by
  simp only[ZaG]at h;split at h
  ·rename_i o' ho;rcases Znj.1 h with h |h
   ·simp only[Znw]at h;exact⟨0,x,rfl,by simp[h.1],by rw[ho,h.2]⟩
   ·obtain⟨m,y,h1,h2,h3⟩:=ZaF (j+1) r k o h;exact⟨m+1,y,by simpa using h1,by omega,h3⟩
  ·obtain⟨m,y,h1,h2,h3⟩:=ZaF (j+1) r k o h;exact⟨m+1,y,by simpa using h1,by omega,h3⟩
theorem ZcM:∀(j:Nat) (l:List (TRV U)) (m:Nat) (x:TRV U) (o:TO U),l[m]? =some x→x.o=some o→(j+m,o)∈ZaG j l
 |j,[],m,x,o,h,_=>by simp at h
 |j,y::r,m,x,o,h,ho=>by
  cases m with
  |zero=>
   simp only[Znc,Znv]at h;subst h;simp only[ZaG,ho];exact List.mem_cons_self
  |succ m=>
   have:=ZcM (j+1) r m x o (by simpa using h) ho;rw[show j+1+m=j+(m+1) by omega]at this;simp only[ZaG];split
   ·exact ZnR _ this
   ·exact this
theorem ZfD:∀(l:List (Id×TO U)) (T:TS U) (id:Id) (o:TO U),(id,o)∈l→(∀o',(id,o')∈l→o'=o)→(T.objL l).objs id=some o
 | [],T,id,o,h,_=>by simp at h
 |(a,u)::l,T,id,o,h,hu=>by
  simp only[TS.objL]
  by_cases hm:∃o',(id,o')∈l
  ·obtain⟨o',ho'⟩:=hm;have:=hu o' (ZnR _ ho');subst this;exact ZfD l _ id o' ho' fun o2 h2=>hu o2 (ZnR _ h2)
  ·rcases Znj.1 h with h |h
   ·simp only[Znw]at h;obtain⟨rfl,rfl⟩:=h;have key:∀(l:List (Id×TO U)) (T:TS U),(¬∃o,(id,o)∈l)→(T.objL l).objs id=T.objs id:=by
     intro l
     induction l with
     |nil=>intro T _;rfl
     |cons x l ih=>
      obtain⟨b,v⟩:=x;intro T hn;simp only[TS.objL];rw[ih _ (fun⟨o,ho⟩=>hn ⟨o,ZnR _ ho⟩)];simp only[upd];split
      ·rename_i he;subst he;exact absurd ⟨v,List.mem_cons_self⟩ hn
      ·rfl
    rw[key l _ hm];simp[upd]
   ·exact absurd ⟨o,h⟩ hm
theorem ZeO {ep i:Nat} {as:List (AET U)}:∀(j:Nat) (l:List (TRV U)) (ds:List (TV U)),Zdb ep i as j l=some ds→∀d∈ds,∃(m:Nat) (x:TRV U),l[m]? =some x∧x.at ep i as (j+m)=some d
 |j,[],ds,h,d,hd=>by simp only[Zdb,Znv]at h;subst h;simp at hd
 |j,x::r,ds,h,d,hd=>by
  simp only[Zdb]at h;split at h;rotate_left;simp at h;rename_i d' ds' h1 h2;cases h;rcases Znj.1 hd with rfl |hd
  ·exact⟨0,x,rfl,h1⟩
  ·obtain⟨m,y,q1,q2⟩:=ZeO (j+1) r ds' h2 d hd;exact⟨m+1,y,by simpa using q1,by rw[show j+(m+1)=j+1+m by omega];exact q2⟩
theorem Zjf {T:TS U} {i:Nat} {as:List (AET U)} {ms:List AM} {hs:List (Option Nat)} {ds0:List (TV U)} (has:Z9 T ms hs ds0=some as) {ret:ZbG U} (hol:Zev (as.map (·.arg)) ret) {e:Zi U} (h:ZgN T i as ret=some e):ZO T i e:=by
 unfold ZgN at h;split at h;rotate_left;simp at h;rename_i ds hds;cases h;have box:∀(cs:List (Lf U.car)) (lk:Id→Option (TO U)),(TO.box (cs.map lv)).inv lk:=fun cs lk d hd=>by obtain⟨l,_,rfl⟩:=ZnT.1 hd;exact Zag _ _
 have argo:∀(a:ZX U) (o:TO U) (lk:Id→Option (TO U)),a.o=some o→o.inv lk:=fun a o lk ha=>by
  cases a<;>simp only[ZX.o,Znv,reduceCtorEq]at ha<;>subst ha
  ·exact box _ _
  ·trivial
  ·trivial
  ·trivial
 refine⟨fun id o hm n he=> ?_,fun hf=> ?_,fun _ o ho=> ?_⟩
 ·obtain⟨j,x,q1,q2,q3⟩:=Zcx 0 as id o hm;rw[q3]at he;unfold Zfb at he;split at he;rotate_left;cases he;rename_i a ha;have key:∀o2,a.o=some o2→∀m,o2.len?=some m→a.len?=some m:=fun o2 h m hm=>by
   cases a with
   |p q=>simp[ZX.o]at h
   |box cs=>simp only[ZX.o,Znv]at h;subst h;simp[TO.len?]at hm
   |map k v kv=>simp only[ZX.o,Znv]at h;subst h;simp[TO.len?]at hm
   |arr t3 xs3=>simp only[ZX.o,Znv]at h;subst h;exact hm
   |part t3 xs3 off len=>simp only[ZX.o,Znv]at h;subst h;exact hm
  split at he;rotate_left;cases he;rename_i o ho;obtain⟨a',p1,p2⟩:=hol _ _ _ (ZR ha) (key o ho n he);rw[Znf,Nat.zero_add,q1,Zoe,Znv]at p1;subst p1;obtain⟨m,hh,d,hd⟩:=Zeo has j x q1;unfold argT at hd;split at hd
  ·split at hd;rotate_left;simp at hd;cases hd;simp at q2
  ·split at hd;rotate_left;simp at hd;split at hd;rotate_left;simp at hd;cases hd;simp[ZX.len?]at p2
  ·split at hd;rotate_left;simp at hd;rename_i t3 xs3 ho3;cases hd;cases q2;simp only[ZX.len?,Znv]at p2;exact⟨_,ho3,by rw[←p2];rfl⟩
  ·split at hd;rotate_left;simp at hd;cases hd;simp[ZX.len?]at p2
  ·split at hd;rotate_left;simp at hd;rename_i t3 xs3 ho3;cases hd;cases q2;simp only[ZX.len?,Znv]at p2;exact⟨_,ho3,by rw[←p2];rfl⟩
  ·simp at hd
 ·intro q hq;have:∃d∈ds,q∈d.fulls:=by
   match ds,hq with
   | [],hq=>simp[tupT,TV.fulls,TV.fullsL]at hq
   | [d],hq=>exact⟨d,by simp,hq⟩
   |a::b::r,hq=>exact Zr.1 hq
  obtain⟨d,hd,hq⟩:=this;obtain⟨m,x,q1,q2⟩:=ZeO 0 _ ds hds d hd;cases x with
  |p l=>simp only[TRV.at,Znv]at q2;subst q2;simp[lv,TV.fulls]at hq
  |box cs=>simp only[TRV.at,Znv]at q2;subst q2;simp[TV.fulls]at hq
  |map k v kv=>simp only[TRV.at,Znv]at q2;subst q2;simp[TV.fulls]at hq
  |view k off len=>
   simp only[TRV.at]at q2;split at q2;rotate_left;simp at q2;split at q2;rotate_left;simp at q2;cases q2;simp[TV.fulls]at hq
  |aown pre t xs post=>
   simp only[TRV.at,Znv]at q2;subst q2;obtain rfl:=ZiY hq;refine⟨.arr t xs false, ?_,fun n' he=>by cases he;rfl⟩;refine ZfD _ _ _ _ (ZnT.2 ⟨_,ZcM 0 _ m _ _ q1 rfl,rfl⟩) fun o' ho'=> ?_
   obtain⟨y,hy,he⟩:=ZnT.1 ho';simp only[Znw,true_and]at he;obtain⟨h1,rfl⟩:=he;obtain⟨m',x',p1,p2,p3⟩:=ZaF 0 _ _ _ hy;have:m'=m:=by omega
   subst this;rw[q1,Znv]at p1;subst p1;simp only[TRV.o,Znv]at p3;exact p3.symm
  |own t xs=>
   simp only[TRV.at,Znv]at q2;subst q2;simp only[TV.fulls,Znm]at hq;subst hq;refine⟨.arr t xs false, ?_,fun n' he=>by cases he;rfl⟩;refine ZfD _ _ _ _ (ZnT.2 ⟨_,ZcM 0 _ m _ _ q1 rfl,rfl⟩) fun o' ho'=> ?_
   obtain⟨y,hy,he⟩:=ZnT.1 ho';simp only[Znw,true_and]at he;obtain⟨h1,rfl⟩:=he;obtain⟨m',x',p1,p2,p3⟩:=ZaF 0 _ _ _ hy;have:m'=m:=by omega
   subst this;rw[q1,Znv]at p1;subst p1;simp only[TRV.o,Znv]at p3;exact p3.symm
 ·rcases ho with ⟨k,hm⟩ |⟨id,hm⟩
  ·obtain⟨m,x,q1,q2,q3⟩:=ZaF 0 _ _ _ hm;cases x<;>simp only[TRV.o,Znv,reduceCtorEq]at q3<;>subst q3
   ·trivial
   ·exact box _ _
   ·trivial
   ·trivial
  ·obtain⟨j,x,q1,q2,q3⟩:=Zcx 0 as id o hm;subst q3;unfold Zfb;split
   ·rename_i a ha;cases hao:a.o with
    |none=>trivial
    |some o=>exact argo a o _ hao
   ·trivial
end
end Eng
namespace Eng
open Go
open Go.ChangeMaps (setBlock)
section
variable {C:Ctx} {X:Nat→Prop} {ρ:Id→Option Lay} {S:Nat→Prop} {st:St} {a:Act} {w:World} {i:Nat} {o:Oper}
theorem ZbS {α β:Type} (p:α→Bool):∀(xs:List α) (ys:List β),xs.length=ys.length→((xs.zip ys).filter fun x=>p x.1).length=(xs.filter p).length
 | [],ys,h=>by simp
 |x::xs,[],h=>by simp at h
 |x::xs,y::ys,h=>by simp only[List.zip_cons_cons,List.filter_cons];have:=ZbS p xs ys (by simpa using h);split<;>simp[this]
theorem Ze5 {α:Type}:∀(l:List α) (j:Nat) (h:j < l.length),(l[j]::l.eraseIdx j).Perm l
 |x::l,0,h=> .refl _
 |x::l,j+1,h=>by simp only[List.getElem_cons_succ,List.eraseIdx_cons_succ];exact(List.Perm.swap _ _ _).trans ((Ze5 l j (by simpa using h)).cons x)
theorem Zcs {α β:Type} (f:α→β) [DecidableEq β] (seen:Array β) (e:α) (p:α→Prop):∀(l:List α),(∀x∈l,∀y∈l,f x=f y→x=y)→l.Nodup→e∈l→seen.contains (f e)=false→
  (e::l.filter fun x=> !(seen.push (f e)).contains (f x)).Perm (l.filter fun x=> !seen.contains (f x))
 | [],_,_,he,_=>by simp at he
 |x::l,hinj,hnd,he,hs=>by
  have push:∀y,(seen.push (f e)).contains (f y)=(seen.contains (f y)||decide (f y=f e)):=fun y=>by
   simp only[Array.contains_eq_mem,Array.mem_push]
   by_cases h1:f y∈seen<;>by_cases h2:f y=f e<;>simp[h1,h2]
  by_cases hx:x=e
  ·subst hx;have hrest:∀y∈l,decide (f y=f x)=false:=fun y hy=>by simp only[decide_eq_false_iff_not];intro hf;have:=hinj y (by simp[hy]) x (by simp) hf;subst this;exact(List.nodup_cons.1 hnd).1 hy
   have h1:(l.filter fun y=> !(seen.push (f x)).contains (f y))=l.filter fun y=> !seen.contains (f y):=List.filter_congr fun y hy=>by rw[push,hrest y hy];simp
   simp only[List.filter_cons,push x,hs,decide_true,Bool.or_true,Bool.not_true,Zm9,if_false,Bool.not_false,if_true,h1];exact .refl _
  ·have he':e∈l:=by simpa[Ne.symm hx]using he
   have hne:f x≠f e:=fun hf=>hx (hinj x (by simp) e he hf)
   have ih:=Zcs f seen e p l (fun a ha b hb=>hinj a (by simp[ha]) b (by simp[hb])) (List.nodup_cons.1 hnd).2 he' hs;simp only[List.filter_cons,push x,hne,decide_false,Bool.or_false];split
   ·exact(List.Perm.swap x e _).trans (ih.cons x)
   ·exact ih
theorem Zk7 {it:Operand} (h:Rep C X ρ S st a.tmps w) (hi:¬X i) (ht:∀d,o.dst=some d→d < C.E.nt) (hlit:ZD it=true) (ho:o.op= .next it false) {id:Id} {rest:List (P×P)} {cur:Option (P×P)}
  (hx:ev C.E st.slots 0 it= .it id) (hlk:st.objs id=some (.mit rest cur)) (hfz:st.fz id=false):
  (rest=[]∧∃v w',(execOp a.eval o).run C.E.prog w= .ok (.value v) w'∧∃ρ' S',Rep C (fun j=>X j∨j=i) ρ' S' (st.app i o.dst {val:= .tup [.p (.bool false)]}) (a.put o.dst v).tmps w')∨
  ∃(j:Nat) (q:P×P),rest[j]? =some q∧∃v w',(execOp a.eval o).run C.E.prog w= .ok (.value v) w'∧
   ∃ρ' S',Rep C (fun j=>X j∨j=i) ρ' S' (st.app i o.dst {val:= .tup [.p (.bool true),.p q.1,.p q.2],wr:=[(id,.mit (rest.eraseIdx j) (some q))]}) (a.put o.dst v).tmps w':=by
 have h1:=Zk h 0 hlit;rw[hx]at h1;generalize hv:a.eval it=v at h1;cases h1 with
 |it _ L b hL hLb=>
 obtain⟨L',hL',b',hLb',hmit⟩:=h.objs id _ hlk (by simp);rw[hL]at hL';obtain rfl:=Znu hL';rw[hLb]at hLb';obtain rfl:=Znu hLb';have hown:=h.own id _ L b hlk (by simp) hL hLb;have over:rest=[]→(Instr.next (.pointer (some ⟨b,0,none⟩)) false o.type).run C.E.prog w= .ok (.tuple #[.bool false]) w→
   ∃v w',(execOp a.eval o).run C.E.prog w= .ok (.value v) w'∧∃ρ' S',Rep C (fun j=>X j∨j=i) ρ' S' (st.app i o.dst {val:= .tup [.p (.bool false)]}) (a.put o.dst v).tmps w':=fun _ hr=>by
  obtain⟨S',hrep⟩:=h.step (i:=i) (t:=o.dst) (e:={val:= .tup [.p (.bool false)]}) (v:= .tuple #[.bool false]) (w':=w) ρ hi ht (Znq _) (ZP.refl _) (fun _ _ _=>rfl) (by simp) (fun _ _ h=>h) (fun id h=> .inl h) (by simp) (fun _ _ hm=>by simp at hm) (fun _ _ _ _ _ _ _ hm=>by simp at hm) (by simp)
   (fun _ _ _ _ _=> .tup _ _ rfl fun j u c hu hc=>by
    match j with
    |0=>simp at hu hc;subst hu hc;exact .p _ _ (.bool false)
    |j+1=>simp at hc)
  exact⟨_,_,by simp[execOp,ho,hv,Sem.run_bind,hr,Result.andThen,Sem.run],ρ,S',hrep⟩
 rcases hmit with ⟨since,seen,stepped,hb,rfl,rfl⟩ |⟨m,es,clock,seen,kv',hSm,hm,hb,hel,hkv,hborn,hbinj,hperm,_⟩
 ·exact .inl ⟨rfl,over rfl (by simp[Instr.next,getObj,Sem.run,hb])⟩
 ·have hlen:es.toList.length=kv'.length:=by simpa using hel
  have hlf:(leftOf es seen).toList=es.toList.filter fun e=> !seen.contains e.born:=by simp[leftOf]
  rcases run_next_at (P:=C.E.prog) w o.type b m clock clock seen es clock hb hm (fun x hx=>by obtain⟨k,hk⟩:=Zoh.1 hx;exact hborn k x (by simpa using hk)) (Znq _)with ⟨h0,hr⟩ |⟨e,he,w1,hal,hr⟩
  ·refine .inl ?_;have hz:((es.toList.zip kv').filter fun x=> !seen.contains x.1.born).length=0:=by rw[ZbS (fun e:MapEntry=> !seen.contains e.born) es.toList kv' hlen,←hlf];simpa using h0
   have:rest=[]:=by have:=hperm.length_eq;rw[Zn6,hz]at this;exact ZnH this.symm
   exact⟨this,over this hr⟩
  ·refine .inr ?_;rw[hlf,List.mem_filter]at he;obtain⟨hee,hun⟩:=he;obtain⟨k,hk⟩:=Zoh.1 hee;have hkl:k < es.toList.length:=(Zne.1 hk).1;have hq:kv'[k]? =some kv'[k]:=by simp[hlen▸hkl]
   have hpair:(e,kv'[k])∈es.toList.zip kv':=by refine Zoh.2 ⟨k, ?_⟩;rw[Zog];exact⟨hk,hq⟩
   have hun':seen.contains e.born=false:=by simpa using hun
   have zinj:∀x∈es.toList.zip kv',∀y∈es.toList.zip kv',x.1.born=y.1.born→x=y:=fun x hx y hy hxy=>by obtain⟨k1,h1⟩:=Zoh.1 hx;obtain⟨k2,h2⟩:=Zoh.1 hy;have g1:=Zog.1 h1;have g2:=Zog.1 h2;have:=hbinj k1 k2 _ _ (by simpa using g1.1) (by simpa using g2.1) hxy;subst this;rw[h1]at h2;exact Znu h2
   have znd:(es.toList.zip kv').Nodup:=by
    refine List.pairwise_iff_getElem.2 fun k1 k2 h1 h2 h12 heq=> ?_
    have hz:(es.toList.zip kv')[k1]? =some (es.toList.zip kv')[k1]:=ZnL h1;have hz2:(es.toList.zip kv')[k2]? =some (es.toList.zip kv')[k1]:=by rw[heq];exact ZnL h2
    have g1:=Zog.1 hz;have g2:=Zog.1 hz2;have e1:=Array.getElem?_toList (xs:=es) (i:=k1);have e2:=Array.getElem?_toList (xs:=es) (i:=k2);have:=hbinj k1 k2 _ _ (e1.symm.trans g1.1) (e2.symm.trans g2.1) rfl;omega
   have hrem:=Zcs (fun x:MapEntry×(P×P)=>x.1.born) seen (e,kv'[k]) (fun _=>True) (es.toList.zip kv') zinj znd hpair hun';have hp2:(kv'[k]::(((es.toList.zip kv').filter fun x=> !(seen.push e.born).contains x.1.born).map (·.2))).Perm rest:=by have:=(hrem.map (·.2)).trans hperm;simpa using this
   have hmemr:kv'[k]∈rest:=hp2.subset (by simp);obtain⟨j,hj⟩:=Zoh.1 hmemr;have hjl:=(Zne.1 hj).1;have hjv:rest[j]=kv'[k]:=(Zne.1 hj).2;have hp3:(((es.toList.zip kv').filter fun x=> !(seen.push e.born).contains x.1.born).map (·.2)).Perm (rest.eraseIdx j):=by have h5:(rest[j]::rest.eraseIdx j).Perm rest:=Ze5 rest j hjl;rw[hjv]at h5;exact(hp2.trans h5.symm).cons_inv
   have hek:=hkv k e kv'[k] (by simpa using hk) hq;have hheap:∀b',b'≠b→(setBlock w1 b (.mapIter (some m) clock (seen.push e.born) clock)).heap[b']? =w.heap[b']? :=fun b' hne=>by
    have:w1.heap=w.heap:=by rcases hal with rfl |rfl<;>rfl
    simp only[setBlock,this];exact Array.getElem?_setIfInBounds_ne (Ne.symm hne)
   have hheapb:(setBlock w1 b (.mapIter (some m) clock (seen.push e.born) clock)).heap[b]? =some (.mapIter (some m) clock (seen.push e.born) clock):=by
    have:w1.heap=w.heap:=by rcases hal with rfl |rfl<;>rfl
    simp only[setBlock,this];simp[hown.1]
   have hsz:(setBlock w1 b (.mapIter (some m) clock (seen.push e.born) clock)).heap.size=w.heap.size:=by
    have:w1.heap=w.heap:=by rcases hal with rfl |rfl<;>rfl
    simp[setBlock,this]
   have hmb:m≠b:=fun hh=>(hown.2.2.2 hfz) (hh▸hSm)
   have kp:ZbQ S w (setBlock w1 b (.mapIter (some m) clock (seen.push e.born) clock)):=fun b' hb' _=>hheap b' fun hh=>(hown.2.2.2 hfz) (hh▸hb')
   refine⟨j,kv'[k],hj,(.tuple #[.bool true,e.key,e.val]),setBlock w1 b (.mapIter (some m) clock (seen.push e.born) clock),by simp[execOp,ho,hv,Sem.run_bind,hr,Result.andThen,Sem.run],ρ, ?_⟩;refine h.step ρ hi ht (Nat.le_of_eq hsz.symm) ?_ ?_ ?_ (fun _ _ h=>h) (fun id h=> .inl h) (by simp) (fun _ _ hm=>by simp at hm) (fun _ _ _ _ _ _ _ hm=>by simp at hm) ?_ ?_
   ·rcases hal with rfl |rfl<;>exact⟨rfl,rfl⟩
   ·intro b1 hb1 hne;exact hheap b1 fun hh=>hne id _ L (Znm.2 rfl) hL (by rw[hLb,hh])
   ·intro id' o' hm';simp only[Znm,Znw]at hm';obtain⟨rfl,rfl⟩:=hm';exact⟨hfz,_,hlk,by simp⟩
   ·intro id' o' L1 hm' _ hL1 S' hS _;simp only[Znm,Znw]at hm';obtain⟨rfl,rfl⟩:=hm';rw[hL]at hL1;obtain rfl:=Znu hL1;refine⟨b,hLb,.inr ⟨m,es,clock,seen.push e.born,kv',hS m hSm,by rw[hheap m hmb];exact hm,hheapb,hel,fun i' e' q' h1 h2=>⟨(hkv i' e' q' h1 h2).1.mono kp hS,(hkv i' e' q' h1 h2).2.mono kp hS⟩,hborn,hbinj,hp3, ?_⟩⟩;exact⟨k,e,by simpa using hk,hq,by simp⟩
   ·intro S' hS _ d _;refine .tup _ _ rfl fun j' u c hu hc=> ?_
    match j' with
    |0=>simp at hu hc;subst hu hc;exact .p _ _ (.bool true)
    |1=>simp at hu hc;subst hu hc;exact .p _ _ (hek.1.mono kp hS)
    |2=>simp at hu hc;subst hu hc;exact .p _ _ (hek.2.mono kp hS)
    |j'+3=>simp at hc
end
end Eng
namespace Eng
open Go
section
variable {C:Ctx} {X:Nat→Prop} {ρ:Id→Option Lay} {S:Nat→Prop} {st:St} {a:Act} {w:World} {i:Nat} {o:Oper}
theorem Zio (h:Rep C X ρ S st a.tmps w) (hi:¬X i) (ht:∀d,o.dst=some d→d < C.E.nt) (hE:Zn C.E) {args:Array Operand} {ats:Array TypeId} {x:Operand} {t el:Nat} (ho:o.op= .call {callee:= .builtin .cap,args,argTypes:=ats})
  (hargs:args.toList=[x]) (hats:ats.toList=[t]) (hlit:ZD x=true) (hty:C.E.td t=some (.sl el)) {id:Id} {off len:Nat} (hx:ev C.E st.slots t x= .sl id off len):
  ∃c:Nat,len≤c∧c≤Zq∧∃v,(execOp a.eval o).run C.E.prog w= .ok (.value v) w∧∃ρ' S',Rep C (fun j=>X j∨j=i) ρ' S' (st.app i o.dst {val:= .p (.int .i64 c)}) (a.put o.dst v).tmps w:=by
 have hr:=Zk h t hlit;rw[hx]at hr;have ha:args.map a.eval= #[a.eval x]:=by rw[←ZnA (xs:=args),hargs];simp
 have hat:ats= #[t]:=by rw[←ZnA (xs:=ats),hats]
 subst hat;obtain⟨d,hu,hd⟩:=hE.und hty;have hu':C.E.prog.underlying t=some (.slice el):=by cases d<;>simp[Zaz]at hd;subst hd;exact hu
 generalize a.eval x=v at ha hr;cases hr with
 |sl _ _ _ cap ad L hL hl hm hc hb=>
 obtain⟨csb,hxb⟩:=ZE (a:=a) (w:=w) (P:=C.E.prog) ho;have hrun:(Builtin.cap_ #[t] o.type #[.slice ad len cap]).run C.E.prog w= .ok (.int .i64 cap) w:=by simp[Builtin.cap_,Za hu',goInt]
 obtain⟨S',hrep⟩:=h.step (i:=i) (t:=o.dst) (e:={val:= .p (.int .i64 cap)}) (v:= .int .i64 cap) (w':=w) ρ hi ht (Znq _) (ZP.refl _) (fun _ _ _=>rfl) (by simp) (fun _ _ h=>h) (fun id h=> .inl h) (by simp) (fun _ _ hm=>by simp at hm) (fun _ _ _ _ _ _ _ hm=>by simp at hm) (by simp)
  (fun _ _ _ _ _=> .p _ _ (.int .i64 _ (ZdR hm.2).1 (ZdR hm.2).2))
 refine⟨cap,hc,hm.2,_, ?_,ρ,S',hrep⟩;rw[hxb,ha];exact Zge hrun
theorem Zkq (h:Rep C X ρ S st a.tmps w) (hi:¬X i) (ht:∀d,o.dst=some d→d < C.E.nt) (hE:Zn C.E) {args:Array Operand} {ats:Array TypeId} {s x:Operand} {t u:Nat} {te:TI} {tu:TD} (ho:o.op= .call {callee:= .builtin .append,args,argTypes:=ats})
  (hargs:args.toList=[s,x]) (hats:ats.toList=[t,u]) (hlit:∀y∈args.toList,ZD y=true) (hel:C.E.elem t=some te) (htu:C.E.td u=some tu) (htd:(∃e,tu= .sl e)∨tu= .str) {id:Id} {es xs:List P}
  (hs:ev C.E st.slots t s= .sl id 0 es.length) (hx:ZcI st.objs te.size (ev C.E st.slots u x)=some xs) (hlk:st.objs id=some (.arr te.size es false)) (hfz:st.fz id=false) (hfit:(es.length+xs.length)*max te.bytes 1≤ZC):
  ∃v w',(execOp a.eval o).run C.E.prog w= .ok (.value v) w'∧
   ∃ρ' S',Rep C (fun j=>X j∨j=i) ρ' S' (st.app i o.dst {val:= .p (.sl te.size (es++xs)),wr:=[(id,.arr te.size es true)],frz:=[id]}) (a.put o.dst v).tmps w':=by
 have ha:args.map a.eval= #[a.eval s,a.eval x]:=by rw[←ZnA (xs:=args),hargs];simp
 have hat:ats= #[t,u]:=by rw[←ZnA (xs:=ats),hats]
 subst hat;obtain⟨ds,huu,hdsn⟩:∃ds,C.E.prog.underlying u=some ds∧∀k,ds≠ .int k:=by obtain⟨d,hu,hd⟩:=hE.und htu;exact⟨d,hu,fun k hk=>by subst hk;rcases htd with ⟨e,rfl⟩ |rfl<;>simp[Zaz]at hd⟩
 obtain⟨el,hty,hte⟩:∃el,(∃sz by_ ze,C.E.ty t=some {d:= .sl el,size:=sz,bytes:=by_,zero:=ze})∧C.E.ty el=some te:=by unfold Env.elem at hel;split at hel;rotate_left;simp at hel;rename_i e' _ _ _ hq;exact⟨e',⟨_,_,_,hq⟩,hel⟩
 obtain⟨_,_,_,hty⟩:=hty;have hut:=hE.slice hty rfl;have hrs:=Zk h t (hlit s (by simp[hargs]));have hrx:=Zk h u (hlit x (by simp[hargs]));rw[hs]at hrs;have hnew:=ZdE (P:=C.E.prog) h.objs hrx hx;have hold:=ZdE (P:=C.E.prog) (sz:=te.size) (xs:=es.take es.length) h.objs hrs (by simp[ZcI,Zbf,hlk]);rw[List.take_length]at hold;generalize a.eval x=vx at ha hnew hrx;generalize a.eval s=vs at ha hrs hold;cases hrs with
 |sl _ _ _ sCap ad L0 hL0 hll hm hcp hb0=>
 obtain⟨csb,hxb⟩:=ZE (a:=a) (w:=w) (P:=C.E.prog) ho;obtain⟨L',hL',hsz,hlen,hlc,hlm',hbn,hcells,evs,hev,hcell,hrel⟩:=h.objs id _ hlk (by simp);rw[hL0]at hL';obtain rfl:=Znu hL';obtain⟨news,evs',n1,n2,n3,n4,n5,n6,n7⟩:=hnew;obtain⟨olds,evo,o1,o2,o3,o4,o5,o6,o7⟩:=hold;have hb2:es.length+xs.length≤ZC:=by have:=Nat.mul_le_mul_left (es.length+xs.length) (Nat.le_max_right te.bytes 1);omega
 have hb1:(es.length+xs.length)*te.bytes≤ZC:=Nat.le_trans (Nat.mul_le_mul_left _ (Nat.le_max_left _ _)) hfit;have hown:∀b,L0.blk=some b→¬S b∧b < w.heap.size:=fun b hb=>⟨(h.own id _ L0 b hlk (by simp) hL0 hb).2.2.2 hfz,(h.own id _ L0 b hlk (by simp) hL0 hb).1⟩
 have wrg:∀id' o',(id',o')∈[(id,Obj.arr te.size es true)]→st.fz id'=false∧∃o',st.objs id'=some o'∧o'≠ .gone:=by intro id' o' hm';simp only[Znm,Znw]at hm';obtain⟨rfl,rfl⟩:=hm';exact⟨hfz,_,hlk,by simp⟩
 have key:∀(v:Value) (w':World) (N:Nat→Prop),(∀b,N b→b < w'.heap.size∧w.heap.size≤b)→w.heap.size≤w'.heap.size→ZP w w'→(∀b,b < w.heap.size→L0.blk≠some b→w'.heap[b]? =w.heap[b]?)→
   (Builtin.append_ #[t,u] o.type #[.slice ad es.length sCap,vx]).run C.E.prog w= .ok v w'→
   (∀S',(∀b,S b→S' b)→Zw w' S' ρ L0 (.arr te.size es true))→
   (∀S',(∀b,N b→S' b)→(∀b,S b→S' b)→(∀b,L0.blk=some b→S' b)→RelP w' S' v (.sl te.size (es++xs)))→
   ∃v w',(execOp a.eval o).run C.E.prog w= .ok (.value v) w'∧
    ∃ρ' S',Rep C (fun j=>X j∨j=i) ρ' S' (st.app i o.dst {val:= .p (.sl te.size (es++xs)),wr:=[(id,.arr te.size es true)],frz:=[id]}) (a.put o.dst v).tmps w':=by
  intro v w' N hN hsize hq hkp hrun hobj hval;obtain⟨S',hrep⟩:=h.stepN (i:=i) (t:=o.dst) (e:={val:= .p (.sl te.size (es++xs)),wr:=[(id,.arr te.size es true)],frz:=[id]}) (v:=v) (w':=w') ρ N
   (fun b hb=>⟨(hN b hb).1,.inl (hN b hb).2⟩) (fun _ _ _ _ hm'=>by simp at hm') hi ht hsize hq
   (fun b hb hne=>hkp b hb (hne id _ L0 (Znm.2 rfl) hL0)) wrg (fun _ _ h=>h) (fun id h=> .inl h)
   (fun id' hm'=>by simp only[Znm]at hm';subst hm';exact⟨by rw[hL0];simp,fun o' ho'=>by simp only[Znm,Znw]at ho';rw[ho'.2];simp⟩)
   (fun _ _ hm'=>by simp at hm') (fun _ _ _ _ _ _ _ hm'=>by simp at hm')
   (fun id' o' L hm' _ hL S' hNS hS hF=>by simp only[Znm,Znw]at hm';obtain⟨rfl,rfl⟩:=hm';rw[hL0]at hL;obtain rfl:=Znu hL;exact hobj S' hS)
   (fun S' hNS hS hF _ _=> .p _ _ (hval S' hNS hS fun b hb=>hF id (Znm.2 rfl) _ L0 b hlk (by simp) hL0 hb))
  refine⟨v,w', ?_,ρ,S',hrep⟩;rw[hxb,ha];exact Zge hrun
 by_cases hroom:es.length+xs.length≤sCap
 ·
  have hnf:=n4 xs.length (Znq _) w rfl;rw[List.take_of_length_le (by omega)]at hnf;rcases hb0 with h0 |⟨b,hLb,rfl,hcap⟩
  ·have he0:es.length=0:=by omega
   have hx0:xs.length=0:=by omega
   have hes:es=[]:=ZnH he0;have hxs:xs=[]:=ZnH hx0;refine key (.slice ad 0 sCap) w (fun _=>False) (fun _ hb=>hb.elim) (Znq _) (ZP.refl _) (fun _ _ _=>rfl) ?_ (fun S' hS=> ?_) (fun S' _ hS _=> ?_)
   ·have:=Zbp (w:=w) (ty:=o.type) (ad:=ad) (sCap:=sCap) hE rfl hut hte huu hdsn (by rw[←hx0];exact n3) (by simpa using n4 0 (by simp) w rfl);rw[he0];exact this
   ·exact⟨hsz,hlen,hlc,hlm',hbn,hcells,evs,hev,hcell,fun j e he=>(hrel j e he).mono (fun _ _ _=>rfl) hS⟩
   ·subst hes hxs;exact .sl _ 0 _ _ [] evs rfl (by simp) (by simp) (fun i hi=>by omega) (fun i hi=>by omega) (fun i e he=>by simp at he)
  ·have hcs:∀m,m < news.length→(w.cell? ⟨b,L0.base+es.length*te.size+m,none⟩).isSome=true∧w.frozen? ⟨b,L0.base+es.length*te.size+m,none⟩=false:=fun m hm'=>by have hle2:(es.length+xs.length)*te.size≤L0.cap*te.size:=Nat.mul_le_mul_right _ (by omega);rw[Nat.add_mul,←n1]at hle2;obtain⟨⟨v,q⟩,q2⟩:=hcells b hLb (es.length*te.size+m) (by omega);rw[show L0.base+es.length*te.size+m=L0.base+(es.length*te.size+m) by omega,q,q2];exact⟨rfl,rfl⟩
   have hrun:=Zck (w:=w) (ty:=o.type) hE rfl hut hte huu hdsn (b:=b) (o:=L0.base+0*L0.sz) (sLen:=es.length) (sCap:=sCap) n3 hnf hroom (fun m hm'=>by rw[show L0.base+0*L0.sz+es.length*te.size+m=L0.base+es.length*te.size+m by omega];exact(hcs m hm').1) (fun m hm'=>by rw[show L0.base+0*L0.sz+es.length*te.size+m=L0.base+es.length*te.size+m by omega];exact(hcs m hm').2) n5;rw[show L0.base+0*L0.sz+es.length*te.size=L0.base+es.length*te.size by omega]at hrun;have hcell':=fun m=>Z5 (w:=w) (b:=b) (o:=L0.base+es.length*te.size) (vs:=news) (fun m hm'=>(hcs m hm').1) m
   have kS:ZbQ S w (w.setCells b (L0.base+es.length*te.size) news):=fun b' hb' _=>Zm b _ _ _ b' (fun e=>(hown b hLb).1 (e▸hb'))
   have hold':∀(j k:Nat) v,j < L0.len→(evs j).cells[k]? =some v→(w.setCells b (L0.base+es.length*te.size) news).cell? ⟨b,L0.base+j*te.size+k,none⟩=some v:=fun j k v hj hv=>by
    have hk:k < te.size:=by have:=(Zm4.1 hv).1;have:=hev j hj;omega
    have:(j+1)*te.size≤es.length*te.size:=Nat.mul_le_mul_right _ (by omega);rw[Nat.add_mul,Nat.one_mul]at this;rw[hcell',if_neg (by omega)];exact hcell b hLb j k v hj hv
   refine key _ _ (fun _=>False) (fun _ hb=>hb.elim) (by rw[ZV];exact Znq _) (ZP.setCells _ _ _ _) (fun b' _ hne=>Zm b _ _ _ b' (fun e=>hne (e▸hLb))) hrun (fun S' hS=> ?_) (fun S' _ hS hF=> ?_)
   ·refine⟨hsz,hlen,hlc,hlm',hbn,fun b1 hb1 m hm'=> ?_,evs,hev,fun b1 hb1 j k v hj hv=> ?_,fun j e he=>(hrel j e he).mono kS hS⟩
    ·rw[hLb,Znv]at hb1;subst hb1;obtain⟨⟨v,q⟩,q2⟩:=hcells b hLb m hm';refine⟨?_,by rw[World.frozen?_setCells];exact q2⟩;rw[hcell'];split
     ·exact⟨_,ZnL (by omega)⟩
     ·exact⟨v,q⟩
    ·rw[hLb,Znv]at hb1;subst hb1;exact hold' j k v hj hv
   ·refine .sl _ _ _ _ _ (Zg2 es.length evs evs') (by simp) (by unfold ZC at hb2;unfold Z7;omega) hroom (fun j hj=> ?_) (fun j hj=>⟨b,_,rfl,hF b hLb,fun k v hv=> ?_⟩) (fun j e he=> ?_)
    ·unfold Zg2;split
     ·exact hev j (by omega)
     ·exact(n6 (j - es.length) (by omega)).1
    ·unfold Zg2 at hv;rw[show L0.base+0*L0.sz+j*te.size+k=L0.base+j*te.size+k by omega];split at hv
     ·exact hold' j k v (by omega) hv
     ·rename_i hlt;have:=(n6 (j - es.length) (by omega)).2 k v hv;have hl':(j - es.length)*te.size+k < news.length:=(Zne.1 this).1;have hjs:j*te.size=es.length*te.size+(j - es.length)*te.size:=by rw[←Nat.add_mul];congr 1;omega
      rw[hcell',if_pos (by omega),show L0.base+j*te.size+k - (L0.base+es.length*te.size)=(j - es.length)*te.size+k by omega];exact this
    ·unfold Zg2
     by_cases hlt:j < es.length
     ·rw[List.getElem?_append_left hlt]at he;rw[if_pos hlt];exact(hrel j e he).mono kS hS
     ·rw[ZnJ (by omega)]at he;rw[if_neg hlt];exact(n7 _ e he).mono kS hS
 ·
  obtain⟨rest,hrest,hrun⟩:=ZbT (w:=w) (ty:=o.type) hE rfl hut hte huu hdsn (m:=xs.length) n3 (news:=news) (fun w' hw'=>by
   have:=n4 xs.length (Znq _) w' hw'
   rwa [List.take_of_length_le (by omega)]at this) (ad:=ad) (sLen:=es.length) (sCap:=sCap) (olds:=olds) (fun w' hw'=>by
   have:=o4 es.length (by omega) w' hw'
   rwa [List.take_of_length_le (by rw[o1];exact Znq _)]at this) (by omega) (by unfold ZC at hb2;unfold Zq;omega) hb1
  have hcap:=grownCap_ge w (es.length+xs.length) sCap el;generalize grownCap w (es.length+xs.length) sCap el=cap at hrun hrest hcap;generalize hww:w.drew.alloc (.cells (olds.toArray++news.toArray++rest) el)=w' at hrun;have hw:w'.heap=w.heap.push (.cells (olds.toArray++news.toArray++rest) el):=by rw[←hww];rfl
  have kp:∀b,b < w.heap.size→w'.heap[b]? =w.heap[b]? :=fun b hb=>Zal hw hb
  have hsz':w'.heap.size=w.heap.size+1:=by rw[hw];simp
  have hc:∀j,w'.cell? ⟨w.heap.size,j,none⟩=(olds.toArray++news.toArray++rest)[j]? :=fun j=>by simp[World.cell?,Z0 hw]
  have kS:ZbQ S w w':=fun b hb _=>kp b (h.sIn b hb)
  have hqu:ZP w w':=by rw[←hww];exact⟨rfl,rfl⟩
  refine key _ w' (fun b=>b=w.heap.size) (fun b hb=>by omega) (by omega) hqu (fun b hb _=>kp b hb) hrun (fun S' hS=> ?_) (fun S' hN hS hF=> ?_)
  ·have hro:Zw w S ρ L0 (.arr te.size es true):=⟨hsz,hlen,hlc,hlm',hbn,hcells,evs,hev,hcell,hrel⟩;exact hro.mono kS hS (fun _ _ h=>h) (fun b hb=>kp b (hown b hb).2)
  ·refine .sl _ _ _ _ _ (Zg2 es.length evo evs') (by simp) (by unfold ZC at hb2;unfold Z7;omega) hcap (fun j hj=> ?_) (fun j hj=>⟨w.heap.size,0,rfl,hN _ rfl,fun k v hv=> ?_⟩) (fun j e he=> ?_)
   ·unfold Zg2;split
    ·exact(o6 j (by omega)).1
    ·exact(n6 (j - es.length) (by omega)).1
   ·rw[hc,Nat.zero_add];unfold Zg2 at hv;split at hv
    ·rename_i hlt;have:=(o6 j (by omega)).2 k v hv;have hl':j*te.size+k < olds.length:=(Zne.1 this).1;rw[Znx,if_pos (by simp;omega),Znx,if_pos (by simpa using hl')];simpa using this
    ·rename_i hlt;have:=(n6 (j - es.length) (by omega)).2 k v hv;have hl':(j - es.length)*te.size+k < news.length:=(Zne.1 this).1;have hjs:j*te.size=es.length*te.size+(j - es.length)*te.size:=by rw[←Nat.add_mul];congr 1;omega
     rw[Znx,if_pos (by simp;omega),Znx,if_neg (by simp;omega)];simp only[List.size_toArray,List.getElem?_toArray];rw[show j*te.size+k - olds.length=(j - es.length)*te.size+k by omega];exact this
   ·unfold Zg2
    by_cases hlt:j < es.length
    ·rw[List.getElem?_append_left hlt]at he;rw[if_pos hlt];exact(o7 j e he).mono kS hS
    ·rw[ZnJ (by omega)]at he;rw[if_neg hlt];exact(n7 _ e he).mono kS hS
end
section
variable {U:Zc}
noncomputable def anyN {β:Type} (n:Nat) (f:Nat→Option β):Option β:=
 @dite _ (∃r,∀c,n≤c→c≤Zq→f c=some r) (Classical.propDecidable _) (fun h=>some h.choose) fun _=>none
theorem ZkH {β:Type} {n:Nat} {f:Nat→Option β} {r:β} (h:anyN n f=some r) {c:Nat} (h1:n≤c) (h2:c≤Zq):f c=some r:=by unfold anyN at h;split at h;rotate_left;simp at h;rename_i hx;simp only[Znv]at h;rw[←h];exact hx.choose_spec c h1 h2
theorem anyN_eq {β:Type} {n:Nat} {f:Nat→Option β} {r:β} (hn:n≤Zq) (h:∀c,n≤c→c≤Zq→f c=some r):anyN n f=some r:=by unfold anyN;have hx:∃r,∀c,n≤c→c≤Zq→f c=some r:=⟨r,h⟩;rw[dif_pos hx];have h1:=hx.choose_spec n (Znq _) hn;have h2:=h n (Znq _) hn;rw[h1]at h2;exact h2
def Zlo (X:ZF U) (T:TS U) (o:Oper):Option Nat:=
 match o.op with
 | .call c=>match c.callee,c.args.toList,c.argTypes.toList with
  | .builtin .cap,[x],[t]=>match X.get t,evT X T.slots t x with
   |some e,some d=>match e.ti.d with
    | .sl _=>match d with
     | .full id _=>match T.objs id with
      |some (.arr _ xs _)=>some (List.length xs)
      |_=>none
     | .sl _ _ len=>some len
     |_=>none
    |_=>none
   |_,_=>none
  |_,_,_=>none
 |_=>none
structure KpI (U:Zc) where
 id:Id
 t:Ty
 xs:List (El U.car t)
 ys:List (El U.car t)
 by_:Nat
def Zle (keep:List Nat) (X:ZF U) (T:TS U) (o:Oper):Option (KpI U):=
 match o.dst with
 |some k=>if keep.contains k then match o.op with
  | .call c=>match c.callee,c.args.toList,c.argTypes.toList with
   | .builtin .append,[s,x],[t,u]=>match X.elem t,X.get u,evT X T.slots t s,evT X T.slots u x with
    |some e,some eu,some (.full id _),some dx=>if U.tsize e.ty=e.ti.size∧ZkR eu.ti.d=true then match ZmP T dx e.ty,T.objs id with
     |some ys,some (.arr t' xs false)=>match (Lf.mk (.sl t') xs:Lf U.car).as (.sl e.ty)with
      |some xs=>if T.fz id=false then some ⟨id,e.ty,xs,ys,e.ti.bytes⟩else none
      |none=>none
     |_,_=>none
     else none
    |_,_,_,_=>none
   |_,_,_=>none
  |_=>none
  else none
 |none=>none
variable {C:Ctx} {Xs:Nat→Prop} {ρ:Id→Option Lay} {S:Nat→Prop} {a:Act} {w:World} {i:Nat} {o:Oper} {X:ZF U} {T:TS U}
theorem Zjb (hX:TOk X) (hT:T.Inv) (hCE:C.E=X.E) (h:Rep C Xs ρ S T.enc a.tmps w) (hi:¬Xs i) (hE:Zn C.E) (hok:Zfx X.E o=true) {n:Nat} (hc:Zlo X T o=some n):
  (∀c,o.op≠ .defer c)∧∃c:Nat,n≤c∧c≤Zq∧∃v,(execOp a.eval o).run C.E.prog w= .ok (.value v) w∧∃ρ' S',Rep C (fun j=>Xs j∨j=i) ρ' S' (T.enc.app i o.dst {val:= .p (.int .i64 c)}) (a.put o.dst v).tmps w:=by
 have ht:∀d,o.dst=some d→d < C.E.nt:=by rw[hCE];simp only[Zfx,Zm8]at hok;exact Zbb hok.1
 unfold Zlo at hc;split at hc;rotate_left;simp at hc;rename_i c hop;refine⟨fun c' hc'=>(by rw[hop]at hc';cases hc'), ?_⟩;obtain⟨cal,args,ats⟩:=c;dsimp only at hc;split at hc;rotate_left;simp at hc;rename_i x t hargs hats;split at hc;rotate_left;simp at hc;rename_i e d he hd;have hlit:ZD x=true:=by simp only[Zfx,Zm8]at hok;have:=hok.2;rw[hop]at this;simp only[Op.operands,Call.operands,Array.all_eq_true']at this;exact this x (by simp[←Array.mem_toList_iff,hargs])
 split at hc;rotate_left;simp at hc;rename_i el hel;have htd:C.E.td t=some (.sl el):=by rw[hCE];rw[←hel];exact Zt he
 split at hc
 ·split at hc;rotate_left;simp at hc;rename_i hobj;cases hc;exact Zio h hi ht hE hop hargs hats hlit htd (by rw[hCE,Zb hX hd,←Za9 hT hd hobj];rfl)
 ·cases hc;exact Zio h hi ht hE hop hargs hats hlit htd (by rw[hCE,Zb hX hd];rfl)
 ·simp at hc
theorem ZiV (hX:TOk X) (hT:T.Inv) (hCE:C.E=X.E) (h:Rep C Xs ρ S T.enc a.tmps w) (hi:¬Xs i) (hE:Zn C.E) (hok:Zfx X.E o=true) {keep:List Nat} {q:KpI U} (hc:Zle keep X T o=some q) (hroom:Zjq (q.xs.length+q.ys.length) q.by_=true):
  (∀c,o.op≠ .defer c)∧ZO T i {val:= .v (.sl q.t) (q.xs++q.ys),wr:=[(q.id,.arr q.t q.xs true)],frz:=[q.id]}∧∃v w',(execOp a.eval o).run C.E.prog w= .ok (.value v) w'∧
   ∃ρ' S',Rep C (fun j=>Xs j∨j=i) ρ' S' (T.enc.app i o.dst (Zi.enc {val:= .v (.sl q.t) (q.xs++q.ys),wr:=[(q.id,.arr q.t q.xs true)],frz:=[q.id]} [])) (a.put o.dst v).tmps w':=by
 have ht:∀d,o.dst=some d→d < C.E.nt:=by rw[hCE];simp only[Zfx,Zm8]at hok;exact Zbb hok.1
 unfold Zle at hc;split at hc;rotate_left;simp at hc;split at hc;rotate_left;simp at hc;split at hc;rotate_left;simp at hc;rename_i c hop;refine⟨fun c' hc'=>(by rw[hop]at hc';cases hc'), ?_⟩;obtain⟨cal,args,ats⟩:=c;dsimp only at hc;split at hc;rotate_left;simp at hc;rename_i s x t u hargs hats;have hlit:∀y∈args.toList,ZD y=true:=by simp only[Zfx,Zm8]at hok;have:=hok.2;rw[hop]at this;simp only[Op.operands,Call.operands,Array.all_eq_true']at this;exact fun y hy=>this y (by simpa using hy)
 split at hc;rotate_left;simp at hc;rename_i e eu id n dx he heu hd hdx;split at hc;rotate_left;simp at hc;rename_i hc0;split at hc;rotate_left;simp at hc;rename_i ys t' xs0 hys hobj;split at hc;rotate_left;simp at hc;rename_i xs hxs;split at hc;rotate_left;simp at hc;rename_i hfz;cases hc;have hq:=ZS hxs;cases hq;have hl:n=List.length xs:=Za9 hT hd hobj;have hsrc:=Zdt hT hX hdx hys;rw[hc0.1]at hsrc;have hel:C.E.elem t=some e.ti:=by rw[hCE];exact Zap he
 have htu:C.E.td u=some eu.ti.d:=by rw[hCE];exact Zt heu
 have htd:(∃e,eu.ti.d= .sl e)∨eu.ti.d= .str:=by have h2:=hc0.2;revert h2;cases eu.ti.d<;>simp[ZkR]
 refine⟨Zcc rfl (fun n2 he2=> ?_) (fun _=>by trivial), ?_⟩
 ·cases he2;exact⟨_,hobj,rfl⟩
 ·have:=Zkq (es:=xs.map (U.encE e.ty)) (xs:=ys.map (U.encE e.ty)) h hi ht hE hop hargs hats hlit hel htu htd (id:=id) (by rw[hCE,Zb hX hd,Zn6,←hl];rfl) (by rw[hCE,Zb hX hdx];exact hsrc)
   (by rw[Zd hobj,ZI,hc0.1]) hfz (by simpa[Zjq]using hroom)
  simpa only[Zi.enc,TV.enc,Zc.encE,Znh,List.map_nil,ZI,List.map_append,hc0.1]using this
end
end Eng
namespace Eng
open Go
section
variable {U:Zc}
def resT (X:ZF U) (T:TS U):ResultVar→Option (TV U)
 | .tmp t=>some (T.slots t)
 | .cell ad t=>match X.get t with
  |some e=>match T.slots ad with
   | .pp cs=>ZcS e (cs.map lv)
   | .ptr id 0 j=>match T.objs id with
    |some (.box cs)=>ZcS e (cs.drop j)
    |_=>none
   |_=>none
  |none=>none
structure RET (U:Zc) where
 rv:TRV U
 fs:List Id:=[]
 id:Option Id:=none
def Zf5:List (TV U)→Option (List (Lf U.car)×Id×Nat×List (Lf U.car))
 | .v t x::r=>match Zf5 r with
  |some (a,b)=>some (⟨t,x⟩::a,b)
  |none=>none
 | .full id n::r=>match Zj (fun d=>match d with |TV.v t x=>some (⟨t,x⟩:Lf U.car) |_=>none) r with
  |some q=>some ([],id,n,q)
  |none=>none
 |_=>none
theorem allLv:∀{r:List (TV U)} {q:List (Lf U.car)},Zj (fun d=>match d with |TV.v t x=>some (⟨t,x⟩:Lf U.car) |_=>none) r=some q→r=q.map lv
 | [],q,h=>by simp[Zj]at h;subst h;rfl
 |d::r,q,h=>by simp only[Zj]at h;split at h;rotate_left;simp at h;rename_i y ys h1 h2;cases h;split at h1;rotate_left;simp at h1;cases h1;rw[allLv h2];rfl
theorem ZjC:∀{cs:List (TV U)} {pre post:List (Lf U.car)} {id:Id} {n:Nat},Zf5 cs=some (pre,id,n,post)→cs=pre.map lv++ .full id n::post.map lv:=by
 intro cs
 induction cs with
 |nil=>intro pre post id n h;simp[Zf5]at h
 |cons d r ih=>
  intro pre post id n h;unfold Zf5 at h;split at h
  ·rename_i t x r' he;simp only[Zof]at he;obtain⟨rfl,rfl⟩:=he;split at h;rotate_left;simp at h;rename_i a b hb;simp only[Znv,Znw]at h;obtain⟨rfl,rfl⟩:=h;rw[ih hb];rfl
  ·rename_i id' n' r' he;simp only[Zof]at he;obtain⟨rfl,rfl⟩:=he;split at h;rotate_left;simp at h;rename_i q hq;simp only[Znv,Znw]at h;obtain⟨rfl,rfl,rfl,rfl⟩:=h;rw[allLv hq];rfl
  ·simp at h
theorem Zf6 (id:Id) (n:Nat) (post:List P):∀pre:List P,Zda (pre.map .p++ .sl id 0 n::post.map .p)=some (pre,id,n,post)
 | []=>by
  have h:∀l:List P,Zj D.pure? (l.map .p)=some l:=by
   intro l
   induction l with
   |nil=>rfl
   |cons x l ih=>rw[Znh,Zj,ih];rfl
  simp only[List.map_nil,List.nil_append,Zda,h]
 |x::pre=>by have:=Zf6 id n post pre;simp only[Znh,ZnF,Zda,this]
def Zl8 (T:TS U) (m:RM) (h:Option Nat) (d:TV U):Option (RET U):=
 match m,d with
 | .p,d=>match T.lf h d with
  |some l=>some {rv:= .p l,fs:=d.enc.ids T.enc.objs depth}
  |none=>none
 | .own,.full id _=>match T.objs id with
  |some (.arr t xs false)=>some {rv:= .own t xs,id:=some id}
  |_=>none
 | .box,.ptr id 0 0=>match T.objs id with
  |some (.box ds)=>match Zj T.lf1 ds with
   |some ls=>some {rv:= .box ls,fs:=(TV.encs ds).flatMap fun d=>d.ids T.enc.objs depth,id:=some id}
   |none=>none
  |_=>none
 | .map,.map id=>match T.objs id with
  |some (.map k v kv)=>some {rv:= .map k v kv,id:=some id}
  |_=>none
 | .view,.sl (0,k,0) off len=>some {rv:= .view k off len}
 | .view,.full (0,k,0) n=>some {rv:= .view k 0 n}
 | .aown,.agg cs=>match Zf5 cs with
  |some (pre,id,_,post)=>match T.objs id with
   |some (.arr t xs false)=>some {rv:= .aown pre t xs post,id:=some id}
   |_=>none
  |none=>none
 |_,_=>none
def RET.re (x:RET U) (cs:List Bool):RE:={rv:=x.rv.enc,fs:=x.fs,id:=x.id,cond:=cs}
theorem resT_d (hU:UOk U) {X:ZF U} (hX:TOk X) {T:TS U} (hT:T.Inv) {rv:ResultVar} {d:TV U} (h:resT X T rv=some d):ZlD X.E T.enc rv=some d.enc∧d.inv T.objs:=by
 unfold resT at h;split at h
 ·cases h;exact⟨rfl,hT.slots _⟩
 ·rename_i ad t;split at h;rotate_left;simp at h;rename_i e he;split at h
  ·rename_i cs hs;obtain⟨p,h1,h2⟩:=ZaJ hU hX he h;refine⟨?_,Zan (fun c hc=> ?_) h⟩
   ·simp only[ZlD,Zs he,show T.enc.slots ad=(T.slots ad).enc from rfl,hs,TV.enc,h1,h2]
   ·obtain⟨l,_,rfl⟩:=ZnT.1 hc;exact Zag _ _
  ·rename_i id j hs;split at h;rotate_left;simp at h;rename_i cs ho;have:=Zcp hU hX he h;rw[Zby]at this;exact⟨by simp only[ZlD,Zs he,show T.enc.slots ad=(T.slots ad).enc from rfl,hs,TV.enc,Zd ho,ZaS,this],Zan (fun c hc=>hT.objs id _ ho c (List.mem_of_mem_drop hc)) h⟩
  ·simp at h
theorem Zk0 (hU:UOk U) {T:TS U} (hT:T.Inv) {m:RM} {h:Option Nat} {d:TV U} {x:RET U} (hi:d.inv T.objs) (hr:Zl8 T m h d=some x):∃cs,Zjr T.enc m d.enc=some (x.re cs)∧∀q∈cs,q=true:=by
 unfold Zl8 at hr;split at hr
 ·split at hr;rotate_left;simp at hr;rename_i l hl;cases hr;exact⟨[],by simp only[Zjr,depth,Ze0 hU hi hl 7,RET.re,TRV.enc],by simp⟩
 ·rename_i id n;split at hr;rotate_left;simp at hr;rename_i t xs ho;cases hr;obtain⟨o,h1,h2⟩:=hi (id,n) (by simp[TV.fulls]);dsimp only at h1;have hl:=h2 _ (by rw[ho,Znv]at h1;rw[←h1];rfl);refine⟨[decide (n=(xs.map (U.encE t)).length)], ?_,by simp[hl]⟩;simp only[Zjr,TV.enc,Zd ho,ZI,RET.re,TRV.enc]
 ·rename_i id;split at hr;rotate_left;simp at hr;rename_i ds ho;split at hr;rotate_left;simp at hr;rename_i ls hls;cases hr;refine⟨[], ?_,by simp⟩;simp only[Zjr,TV.enc,Zd ho,ZaS,ZcT (hT.objs id _ ho) hls,RET.re,TRV.enc]
 ·rename_i id;split at hr;rotate_left;simp at hr;rename_i k v kv ho;cases hr;exact⟨[],by simp only[Zjr,TV.enc,Zd ho,Z8,RET.re,TRV.enc],by simp⟩
 ·cases hr;exact⟨[],rfl,by simp⟩
 ·cases hr;exact⟨[],rfl,by simp⟩
 ·split at hr;rotate_left;simp at hr;rename_i pre id n post hsp;obtain rfl:=ZjC hsp;split at hr;rotate_left;simp at hr;rename_i t xs ho;cases hr;obtain⟨o,h1,h2⟩:=hi (id,n) (by rw[TV.fulls];exact Zr.2 ⟨.full id n,by simp,by simp[TV.fulls]⟩);dsimp only at h1;have hl:=h2 _ (by rw[ho,Znv]at h1;rw[←h1];rfl);refine⟨[decide (n=(xs.map (U.encE t)).length)], ?_,by simp[hl]⟩;rw[Zim];simp only[Zjr,Zf6,Zd ho,ZI,RET.re,TRV.enc]
 ·simp at hr
def Zdc (T:TS U):List RM→List (Option Nat)→List (TV U)→Option (List (RET U))
 | [],_,[]=>some []
 |m::ms,h::hs,d::ds=>match Zl8 T m h d,Zdc T ms hs ds with
  |some a,some r=>some (a::r)
  |_,_=>none
 |_,_,_=>none
theorem Zgg (hU:UOk U) {T:TS U} (hT:T.Inv):∀{ms:List RM} {hs:List (Option Nat)} {ds:List (TV U)} {as:List (RET U)},(∀d∈ds,d.inv T.objs)→Zdc T ms hs ds=some as→
  ∃res:List RE,Zj (fun x:RM×D=>Zjr T.enc x.1 x.2) (ms.zip (TV.encs ds))=some res∧ds.length=ms.length∧res.map (·.rv)=as.map (fun a=>a.rv.enc)∧res.flatMap (·.fs)=as.flatMap (·.fs)∧(∀q∈res.flatMap (·.cond),q=true)∧res.map (·.id)=as.map (·.id)
 | [],hs,[],as,_,h=>by simp only[Zdc,Znv]at h;subst h;exact⟨[],rfl,rfl,rfl,rfl,by simp,rfl⟩
 | [],hs,d::ds,as,_,h=>by simp[Zdc]at h
 |m::ms,[],ds,as,_,h=>by simp[Zdc]at h
 |m::ms,hh::hs,[],as,_,h=>by simp[Zdc]at h
 |m::ms,hh::hs,d::ds,as,hi,h=>by simp only[Zdc]at h;split at h;rotate_left;simp at h;rename_i a r h1 h2;cases h;obtain⟨cs,q1,q2⟩:=Zk0 hU hT (hi d (by simp)) h1;obtain⟨aes,p1,p2,p3,p4,p5,p6⟩:=Zgg hU hT (fun a ha=>hi a (by simp[ha])) h2;refine⟨a.re cs::aes,by simp only[TV.encs,List.zip_cons_cons,Zj,q1,p1],by simp[p2],by simp[RET.re,p3],by simp[RET.re,p4], ?_,by simp[RET.re,p6]⟩;intro q hq;simp only[List.flatMap_cons,Zni]at hq;exact hq.elim (fun h=>q2 q h) (fun h=>p5 q h)
def Zk5 (T:TS U) (k:Nat):Option ((Nat×ZX U)×List Id):=
 match T.objs (0,k,0)with
 |some (.box ds)=>match Zj T.lf1 ds with
  |some ls=>some ((k,.box ls),(TV.encs ds).flatMap fun d=>d.ids T.enc.objs depth)
  |none=>none
 |some (.arr t xs false)=>some ((k,.arr t xs),[])
 |some (.map a b kv)=>some ((k,.map a b kv),[])
 |_=>none
theorem Zma {T:TS U} (hT:T.Inv) {k:Nat} {x:(Nat×ZX U)×List Id} (h:Zk5 T k=some x):ZmT T.enc k=some ((x.1.1,x.1.2.enc),x.2):=by
 unfold Zk5 at h;unfold ZmT;split at h
 ·rename_i ds ho;split at h;rotate_left;simp at h;rename_i ls hls;cases h;simp only[Zd ho,ZaS,Zaf,ZcT (hT.objs _ _ ho) hls,ZX.enc]
 ·rename_i t xs ho;cases h;simp only[Zd ho,ZI,Zaf,ZX.enc]
 ·rename_i a b kv ho;cases h;simp only[Zd ho,Z8,Zaf,ZX.enc]
 ·simp at h
theorem Zh3 {T:TS U} (hT:T.Inv):∀{ks:List Nat} {os:List ((Nat×ZX U)×List Id)},Zj (Zk5 T) ks=some os→Zj (ZmT T.enc) ks=some (os.map fun x=>((x.1.1,x.1.2.enc),x.2))
 | [],os,h=>by simp[Zj]at h;subst h;rfl
 |k::ks,os,h=>by simp only[Zj]at h;split at h;rotate_left;simp at h;rename_i y ys h1 h2;cases h;simp only[Zj,Zma hT h1,Zh3 hT h2,Znh]
def ZiF:Nat→List (RET U)→List (Id×Id)
 |_,[]=>[]
 |j,x::r=>match x.id with
  |some id=>((1,j,0),id)::ZiF (j+1) r
  |none=>ZiF (j+1) r
theorem Zfu:∀(j:Nat) (l:List (RET U)) (l':List RE),l'.map (·.id)=l.map (·.id)→ZiG j l'=ZiF j l
 |j,[],[],_=>rfl
 |j,[],_::_,h=>by simp at h
 |j,_::_,[],h=>by simp at h
 |j,x::l,y::l',h=>by
  simp only[Znh,Zof]at h;simp only[ZiG,ZiF,h.1];cases x.id with
  |none=>exact Zfu (j+1) l l' h.2
  |some id=>simp only[Zfu (j+1) l l' h.2]
def retT (X:ZF U) (T:TS U) (rs:List ResultVar) (ms:List RM) (hs:List (Option Nat)) (outs:List Nat):Option (ZbG U):=
 match Zj (resT X T) rs with
 |some ds=>match Zdc T ms hs ds,Zj (Zk5 T) outs with
  |some res,some os=>
   if Zgj (T.freezeL (res.flatMap (·.fs)++os.flatMap (·.2))).enc (ZiF 0 res++outs.map fun k=>((0,k,0),(0,k,0))) 2&&(res.map fun x=>x.rv.enc).all (Zf0 outs)then
    some ⟨res.map (·.rv),os.map (·.1)⟩else none
  |_,_=>none
 |none=>none
theorem ZjP (hU:UOk U) {X:ZF U} (hX:TOk X) {T:TS U} (hT:T.Inv):∀{rs:List ResultVar} {ds:List (TV U)},Zj (resT X T) rs=some ds→Zj (ZlD X.E T.enc) rs=some (TV.encs ds)∧∀d∈ds,d.inv T.objs
 | [],ds,h=>by simp[Zj]at h;subst h;exact⟨rfl,by simp⟩
 |k::ks,ds,h=>by
  simp only[Zj]at h;split at h;rotate_left;simp at h;rename_i y ys h1 h2;cases h;obtain⟨q1,q2⟩:=resT_d hU hX hT h1;obtain⟨q3,q4⟩:=ZjP hU hX hT h2;refine⟨by simp only[Zj,q1,q3,TV.encs],fun d hd=> ?_⟩;rcases Znj.1 hd with rfl |hd
  ·exact q2
  ·exact q4 d hd
theorem ZlC (hU:UOk U) {X:ZF U} (hX:TOk X) {T:TS U} (hT:T.Inv) {rs:List ResultVar} {ms:List RM} {hs:List (Option Nat)} {outs:List Nat} {t:ZbG U} (h:retT X T rs ms hs outs=some t):
  ∃ps,ZmQ X.E T.enc rs ms outs=some (t.enc,ps)∧∀q∈ps,q=true:=by
 unfold retT at h;split at h;rotate_left;simp at h;rename_i ds hds;obtain⟨q1,q2⟩:=ZjP hU hX hT hds;split at h;rotate_left;simp at h;rename_i res os hres hos;obtain⟨aes,p1,p2,p3,p4,p5,p6⟩:=Zgg hU hT q2 hres;have o1:=Zh3 hT hos;split at h;rotate_left;simp at h;rename_i hok;cases h;refine⟨_, ?_,p5⟩;unfold ZmQ;rw[q1];simp only[Zak,p2,if_true,p1,o1];have e1:ZiG 0 aes=ZiF 0 res:=Zfu 0 res aes p6;have e2:(os.map fun x=>((x.1.1,x.1.2.enc),x.2)).flatMap (·.2)=os.flatMap (·.2):=by rw[List.flatMap_map]
 have e3:aes.all (fun x=>Zf0 outs x.rv)=(res.map fun x=>x.rv.enc).all (Zf0 outs):=by rw[←p3,List.all_map];rfl
 rw[p4,e1,e2,e3,←Eng.freezeL_enc,if_pos hok];simp only[Znv,Znw,and_true,ZbG.enc,Ret.mk.injEq,p3,List.map_map];exact⟨rfl,rfl⟩
theorem ZfW:∀{l:List Bool},(∀q∈l,q=true)→ZlR l
 | [],_=>trivial
 | [a],h=>h a (by simp)
 |a::b::r,h=>⟨h a (by simp),ZfW fun q hq=>h q (by simp[hq])⟩
structure Cut (U:Zc) (R:Type) where
 live:List Nat
 frz:List Nat
 κ:List (TV U)→List (TO U)→Option R
structure Par (U:Zc) (R:Type) where
 X:ZF U
 sigs:List (Nat×Zjt U)
 cuts:List (List Nat×Cut U R)
 back:Option (Cut U R)
 exits:List (Nat×Cut U R)
 lent:List Nat
 rs:List ResultVar
 rms:List RM
 rhs:List (Option Nat)
 ret:ZbG U→Option R
 keep:List Nat:=[]
 alt:List (Nat×Nat):=[]
inductive TI' where
 |c (p:List Nat) (c:Code)
 |ops (a:Array Oper) (i:Nat)
 |blk (id:Nat)
def TI'.conc:TI'→Item
 | .c _ x=> .c x
 | .ops a i=> .ops a i
 | .blk id=> .blk id
def Zcu (id:Nat):List TI'→Option (List TI')
 | .blk j::k=>if j=id then some k else Zcu id k
 |_::k=>Zcu id k
 | []=>none
noncomputable def agree {α:Type} (a b:Option α):Option α:= @ite _ (a=b) (Classical.propDecidable _) a none
variable {R:Type}
def ZgT:Nat→List (AET U)→List (Id×Id)
 |_,[]=>[]
 |k,x::r=>match x.id with
  |some id=>((0,k,0),id)::ZgT (k+1) r
  |none=>ZgT (k+1) r
def ZmK (d:Nat):List (Nat×Nat)→Option Nat
 | []=>none
 |x::l=>if x.1=d then some x.2 else ZmK d l
def Zl4 (P:Par U R) (dst:Option Nat) (g:Nat):Option (Nat×Zjt U):=
 match (match dst with |some d=>ZmK d P.alt |none=>none)with
 |some k=>match P.sigs[k]? with
  |some x=>if x.1 == g then some x else none
  |none=>none
 |none=>P.sigs.find? fun x=>x.1 == g
theorem ZjM {P:Par U R} {dst:Option Nat} {g:Nat} {sg:Nat×Zjt U} (h:Zl4 P dst g=some sg):sg∈P.sigs∧sg.1=g:=by
 unfold Zl4 at h;split at h
 ·split at h;rotate_left;simp at h;rename_i x hx;split at h;rotate_left;simp at h;rename_i he;cases h;exact⟨List.mem_of_getElem? hx,by simpa using he⟩
 ·exact⟨Zoi h,by have:=List.find?_some h;simpa using this⟩
def ck {R:Type} (c:Option Bool) (k:Option R):Option R:=match c with
 |none=>k
 |some b=>chk b k
theorem ZmD {R:Type} {c:Option Bool} {k:Option R} {r:R} (h:ck c k=some r):c≠some false∧k=some r:=by
 cases c with
 |none=>exact⟨by simp,h⟩
 |some b=>
  obtain⟨hb,h⟩:=Zh h;exact⟨by rw[hb];simp,h⟩
def fnOf (P:Par U R) (dst:Option Nat):Option (TV U)→Option (Option Bool×Nat×List (TV U)×List (TV U))
 |some (.fn g a b)=>some (none,g,a,b)
 |some (.v .fnc x)=>match (match dst with |some d=>ZmK d P.alt |none=>none)with
  |some k=>match P.sigs[k]? with
   |some s=>some (some (decide (x=some s.1)),s.1,[],[])
   |none=>none
  |none=>none
 |_=>none
def callT (P:Par U R) (T:TS U) (i:Nat) (dst:Option Nat) (c:Call) (κ:Zi U→Option R):Option R:=
 match c.callee with
 | .value f=>match fnOf P dst (evT P.X T.slots 0 f)with
  |some (b,g,first,caps)=>ck b (match Zl4 P dst g with
   |some sg=>match Zdp P.X T.slots c.args.toList sg.2.pts with
    |some ds=>match Z9 T sg.2.ms sg.2.hs (first++ds++caps)with
     |some as=>if Zgj (T.freezeL (as.flatMap (·.fs))).enc (ZgT 0 as) 1&&c.args.toList.all ZD&&ZD f then match sg.2.sig (as.map (·.arg))with
      |some s=>s.o.bind fun a=>match ZgN T i as (s.give a)with
       |some e=>κ e
       |none=>none
      |none=>none
      else none
     |none=>none
    |none=>none
   |none=>none)
  |none=>none
 |_=>none
def Zca (o:Oper):Bool:=match o.op with
 | .call c=>match c.callee with
  | .value _=>true
  |_=>false
 |_=>false
def ZkQ (P:Par U R) (T:TS U) (i:Nat) (o:Oper) (κ:Zi U→Option R):Option R:=
 if Zca o then match o.op with
  | .call c=>callT P T i o.dst c κ
  |_=>none
 else ZmC P.X T i o.op o.type κ
def okE (P:Par U R) (T:TS U) (i:Nat) (o:Oper) (e:Zi U):Bool:=
 fresh T i e&&(if Zca o then Zdm P.X.E o else Zdq T.enc (e.enc [])&&Zfx P.X.E o)
def fpT (P:Par U R) (T:TS U) (o:Oper) (e:Zi U):Fp:=
 ⟨if Zca o then ZaV P.X.E T.enc.slots T.enc.objs o.op.operands.toList else Zd5 P.X.E o.op T.enc.slots T.enc.objs,e.wr.map (·.1),e.frz⟩
def Zif (ops:Array Oper) (T:TS U) (o:Oper) (κ:Bool→TS U→Option R):Option R:=
 match o.guard with
 |none=>κ true T
 |some (g,w)=>match (ops[g]?).bind (·.dst)with
  |some t=>match T.slots t with
   | .v .bool b=>bif b then κ w (T.setO (some t) (.v .bool true))else κ (!w) (T.setO (some t) (.v .bool false))
   | .undef=>κ false T
   |_=>none
  |none=>κ false T
def Zmj (X:ZF U) (T:TS U) (o:Oper):Option (Bool×Bool):=
 match o.op with
 | .binOp b t x (.const (.slice none 0 0)) _=>match X.get t,evT X T.slots 0 x with
  |some e,some d=>match e.ti.d with
   | .sl _=>match (match b with | .eql=>some true | .neq=>some false |_=>none)with
    |some q=>match d with
     | .v (.sl _) xs=>some (List.isEmpty xs,q)
     | .full id _=>match T.objs id with
      |some (.arr _ xs _)=>some (List.isEmpty xs,q)
      |_=>none
     |_=>none
    |none=>none
   |_=>none
  |_,_=>none
 |_=>none
noncomputable def ZdI {α β:Type} (xs:List α) (f:α→List α→Option β):Option β:=
 @dite _ (∃r,∀(j:Nat) q,xs[j]? =some q→f q (xs.eraseIdx j)=some r) (Classical.propDecidable _) (fun h=>some h.choose) fun _=>none
theorem Zgi {α β:Type} {xs:List α} {f:α→List α→Option β} {r:β} (h:ZdI xs f=some r) {j:Nat} {q:α} (hq:xs[j]? =some q):f q (xs.eraseIdx j)=some r:=by unfold ZdI at h;split at h;rotate_left;simp at h;rename_i hx;simp only[Znv]at h;rw[←h];exact hx.choose_spec j q hq
theorem ZmS {α β:Type} {xs:List α} {f:α→List α→Option β} {r:β} (hne:xs≠[]) (h:∀(j:Nat) q,xs[j]? =some q→f q (xs.eraseIdx j)=some r):ZdI xs f=some r:=by
 unfold ZdI;have hx:∃r,∀(j:Nat) q,xs[j]? =some q→f q (xs.eraseIdx j)=some r:=⟨r,h⟩;rw[dif_pos hx]
 match xs,hne with
 |x::l,_=>
  have h1:=hx.choose_spec 0 x rfl;have h2:=h 0 x rfl;rw[h1]at h2;exact h2
structure MitI (U:Zc) where
 id:Id
 a:Ty
 b:Ty
 rest:List (El U.car a×El U.car b)
def nextM (X:ZF U) (T:TS U) (o:Oper):Option (MitI U):=
 match o.op with
 | .next it false=>match evT X T.slots 0 it with
  |some (.it id)=>match T.objs id with
   |some (.mit a b rest _)=>if T.fz id=false then some ⟨id,a,b,rest⟩else none
   |_=>none
  |_=>none
 |_=>none
def Zkd (P:Par U R) (c:Cut U R) (T:TS U):Option R:=
 match Zkv T P.lent c.live c.frz with
 |some q=>c.κ q.1 q.2
 |none=>none
def Zfs (T:TS U) (id:Id):TS U:=match T.objs id with
 |some (.own t _ _ xs _ none)=>if T.fz id=false then {T with objs:=upd T.objs id (some (.arr t xs false))}else T
 |_=>T
def ZdH (T:TS U):List Id→TS U
 | []=>T
 |id::r=>ZdH (Zfs T id) r
def isOwnT:Option (TO U)→Bool
 |some (.own _ _ _ _ _ none)=>true
 |_=>false
def Zh2 (T:TS U) (ds:List (TV U)):List Id:=(TV.ownL T ds).filter fun id=>isOwnT (T.objs id)
def Zcj (X:ZF U) (T:TS U) (id:Id):TS U:=match T.objs id with
 |some (.arr (.st n) xs false)=>match X.owns.find? (·.n == n)with
  |some q=>{T with objs:=upd T.objs id (some (.own (.st n) q.c q.u xs 0 none))}
  |none=>T
 |_=>T
def Zfr (T:TS U):List Operand→List (TV U)
 | []=>[]
 | .tmp s::r=>T.slots s::Zfr T r
 |_::r=>Zfr T r
def preT (keep:List Nat) (X:ZF U) (T:TS U) (o:Oper):Option (TS U):=match o.dst with
 |some d=>if keep.contains (1000000+d)then match Zh2 T (Zfr T o.op.operands.toList)with
   | []=>none
   |l=>some (ZdH T l)
  else if keep.contains (2000000+d)then match Zfr T o.op.operands.toList with
   | .full id _::_=>match T.objs id with
    |some (.arr _ _ _)=>some (Zcj X T id)
    |_=>none
   |_=>none
  else none
 |none=>none
def ZiI (X:ZF U) (T:TS U):List ResultVar→List RM→List (TV U)
 |rv::r,.p::m=>match resT X T rv with
  |some d=>d::ZiI X T r m
  |none=>ZiI X T r m
 |_::r,_::m=>ZiI X T r m
 |_,_=>[]
def Zlh (P:Par U R) (T:TS U):Option R:=
 match retT P.X (ZdH T (Zh2 T (ZiI P.X T P.rs P.rms))) P.rs P.rms P.rhs P.lent with
 |some t=>P.ret t
 |none=>none
noncomputable def evl (P:Par U R):Nat→Option (Array Oper×List Fp)→List TI'→TS U→Option R
 |0,_,_,_=>none
 |n+1,some (ops,hist),pre,T=>match ops[hist.length]? with
  |none=>if ZgI ops T.ep hist&&decide (hist.length=ops.size)then evl P n none pre T.next else none
  |some o=>Zif ops T o fun g T=>match g with
   |true=>ZkQ P T hist.length o fun e=>if okE P T hist.length o e&&live ops o T.enc (fpT P T o e)then evl P n (some (ops,hist++[fpT P T o e])) pre (T.app hist.length o.dst e)else none
   |false=>if Zdm P.X.E o&&live ops o T.enc {}then evl P n (some (ops,hist++[{}])) pre (T.app hist.length o.dst {val:= .undef})else none
 |n+1,none,[],T=>match P.back with
  |some c=>Zkd P c T
  |none=>Zlh P T
 |n+1,none,.blk _::pre,T=>evl P n none pre T
 |n+1,none,.ops ops i::pre,T=>match ops[i]? with
  |none=>evl P n none pre T.next
  |some o=>match preT P.keep P.X T o with
  |some T'=>evl P n none (.ops ops i::pre) T'
  |none=>Zif ops T o fun g T=>match g with
   |true=>match Zmj P.X T o with
    |some (em,q)=>if Zdm P.X.E o&&Zfx P.X.E o then bif em then agree (evl P n none (.ops ops (i+1)::pre) (T.app i o.dst {val:= .v .bool true})) (evl P n none (.ops ops (i+1)::pre) (T.app i o.dst {val:= .v .bool false}))
      else evl P n none (.ops ops (i+1)::pre) (T.app i o.dst {val:= .v .bool (!q)})
     else none
    |none=>match nextM P.X T o with
     |some m=>if Zfx P.X.E o then bif List.isEmpty m.rest then evl P n none (.ops ops (i+1)::pre) (T.app i o.dst {val:= .tup [.v .bool false]})
       else ZdI m.rest fun q rest=>evl P n none (.ops ops (i+1)::pre) (T.app i o.dst {val:= .tup [.v .bool true,.v m.a q.1,.v m.b q.2],wr:=[(m.id,.mit m.a m.b rest (some q))]})
      else none
     |none=>match Zlo P.X T o with
      |some m=>if Zfx P.X.E o then anyN m fun c=>evl P n none (.ops ops (i+1)::pre) (T.app i o.dst {val:= .v (.int .i64) (c:Int)})else none
      |none=>match Zle P.keep P.X T o with
       |some q=>if Zfx P.X.E o then chk (Zjq (List.length q.xs+List.length q.ys) q.by_) (evl P n none (.ops ops (i+1)::pre) (T.app i o.dst {val:= .v (.sl q.t) (List.append q.xs q.ys),wr:=[(q.id,.arr q.t q.xs true)],frz:=[q.id]}))else none
       |none=>ZkQ P T i o fun e=>if okE P T i o e then evl P n none (.ops ops (i+1)::pre) (T.app i o.dst e)else none
   |false=>if Zdm P.X.E o then evl P n none (.ops ops (i+1)::pre) (T.app i o.dst {val:= .undef})else none
 |n+1,none,.c p c::pre,T=>match P.cuts.find? fun x=>x.1 == p with
  |some x=>Zkd P x.2 T
  |none=>match c with
   | .skip=>evl P n none pre T
   | .seq a b=>evl P n none (.c (0::p) a:: .c (1::p) b::pre) T
   | .block id b=>evl P n none (.c (4::p) b:: .blk id::pre) T
   | .region _ ops false=>evl P n none (.ops ops 0::pre) T
   | .region _ ops true=>evl P n (some (ops,[])) pre T
   | .cond c a b=>if ZD c then match evT P.X T.slots 0 c with
    |some (.v .bool x)=>bif x then evl P n none (.c (2::p) a::pre) T else evl P n none (.c (3::p) b::pre) T
    |_=>none
    else none
   | .exit id=>match Zcu id pre with
    |some pre'=>evl P n none pre' T
    |none=>match P.exits.find? fun x=>x.1 == id with
     |some x=>Zkd P x.2 T
     |none=>none
   | .ret=>Zlh P T
   |_=>none
end
end Eng
namespace Eng
open Go
section
variable {U:Zc} {R:Type}
def atP (root:Code×List Item):List Nat→Option (Code×List Item)
 | []=>some root
 |d::p=>match atP root p with
  |some (c,k)=>match d,c with
   |0,.seq a b=>some (a,.c b::k)
   |1,.seq _ b=>some (b,k)
   |2,.cond _ a _=>some (a,k)
   |3,.cond _ _ b=>some (b,k)
   |4,.block id b=>some (b,.blk id::k)
   |5,.loop b=>some (b,.lp b::k)
   |_,_=>none
  |none=>none
def Wf (root:Code×List Item) (base:List Item):List TI'→Prop
 | []=>True
 | .c p c::k=>atP root p=some (c,k.map TI'.conc++base)∧Wf root base k
 | .blk _::k=>Wf root base k
 | .ops _ _::k=>Wf root base k
def Zeu (E:Env) (g:Nat) (sg:Zjt U):Prop:=
 ∀args s,sg.sig args=some s→∀a,s.o=some a→Fun E g (args.map ZX.enc) (s.give a).enc∧Zev args (s.give a)
def Hcut (P:Par U R) (C:Ctx) (fm:Fm) (fn:Func) (RT:Ret) (r:R) (cut:Cut U R) (k:List Item):Prop:=
 ∀ds os,(mkC P.lent cut.live ds os).Inv→cut.κ ds os=some r→AWP C fm (ZiH C fn RT) k (mkC P.lent cut.live ds os).enc
structure Hyp (P:Par U R) (C:Ctx) (fm:Fm) (fn:Func) (RT:Ret) (r:R) (root:Code×List Item) (base:List Item):Prop where
 hU:UOk U
 hX:TOk P.X
 hE:Zn C.E
 hCE:C.E=P.X.E
 mixed:C.E.prog.follows .mixedOrders=true
 rs:fn.results.toList=P.rs
 ds:fm.ds=[]
 sigs:∀x∈P.sigs,Zeu P.X.E x.1 x.2
 cuts:∀x∈P.cuts,∀c k,atP root x.1=some (c,k)→Hcut P C fm fn RT r x.2 (.c c::k)
 back:∀c,P.back=some c→Hcut P C fm fn RT r c base
 noback:P.back=none→base=[]
 exits:∀x∈P.exits,∃k,Zao x.1 base=some k∧Hcut P C fm fn RT r x.2 k
 ret:∀t,P.ret t=some r→t.enc=RT
section
variable {P:Par U R} {C:Ctx} {fm:Fm} {fn:Func} {RT:Ret} {r:R} {root:Code×List Item} {base:List Item} {G:Zg0}
theorem Zka {T:TS U} (hT:T.Inv) {id:Id} {o o':TO U} (ho:T.objs id=some o) (hl:∀n,o'.len?=some n→o.len?=some n) (hi:∀lk,o'.inv lk):({T with objs:=upd T.objs id (some o')}:TS U).Inv:=by
 have keep:∀q,Zgs T.objs q→Zgs (upd T.objs id (some o')) q:=fun q ⟨o1,h1,h2⟩=>by
  by_cases he:q.1=id
  ·refine⟨o',by simp[upd,he],fun n hn=>h2 n ?_⟩;rw[he,ho]at h1;obtain rfl:=Znu h1;exact hl n hn
  ·exact⟨o1,by simp only[upd,if_neg he];exact h1,h2⟩
 refine⟨fun k q hq=>keep q (hT.slots k q hq),fun id1 o1 h1=> ?_⟩;simp only[upd]at h1;split at h1
 ·cases h1;exact hi _
 ·have:=hT.objs id1 o1 h1;cases o1 with
  |box cs=>exact fun d hd q hq=>keep q (this d hd q hq)
  |_=>trivial
theorem Zkj (T:TS U) (id:Id) (o:TO U):({T with objs:=upd T.objs id (some o)}:TS U).enc=T.enc.obj id o.enc:=by refine ZeL rfl ?_ rfl rfl;funext x;simp only[TS.enc,St.obj,upd];split<;>rfl
theorem Zhb (T:TS U) (id:Id) (hT:T.Inv):(Zfs T id).Inv∧∀(C:Ctx) (fm:Fm) (G:Zg0) (k:List Item),AWP C fm G k (Zfs T id).enc→AWP C fm G k T.enc:=by
 unfold Zfs;split
 ·rename_i t c u xs lo ho;split
  ·rename_i hf;refine⟨Zka hT ho (fun n h=>h) (fun _=>trivial),fun C fm G k h=> ?_⟩;rw[Zkj]at h;exact Zjj (by rw[Zd ho,Ze6]) hf h
  ·exact⟨hT,fun _ _ _ _ h=>h⟩
 ·exact⟨hT,fun _ _ _ _ h=>h⟩
theorem Za4:∀(l:List Id) (T:TS U),T.Inv→(ZdH T l).Inv∧∀(C:Ctx) (fm:Fm) (G:Zg0) (k:List Item),AWP C fm G k (ZdH T l).enc→AWP C fm G k T.enc
 | [],T,hT=>⟨hT,fun _ _ _ _ h=>h⟩
 |id::r,T,hT=>by obtain⟨h1,h2⟩:=Zhb T id hT;obtain⟨h3,h4⟩:=Za4 r _ h1;exact⟨h3,fun C fm G k h=>h2 C fm G k (h4 C fm G k h)⟩
theorem Zfn (hU:UOk U) {X:ZF U} (hX:TOk X) (T:TS U) (id:Id) (hT:T.Inv):(Zcj X T id).Inv∧∀(C:Ctx) (fm:Fm) (G:Zg0) (k:List Item),AWP C fm G k (Zcj X T id).enc→AWP C fm G k T.enc:=by
 unfold Zcj;split
 ·rename_i n xs ho;split
  ·rename_i q hq;have hn:q.n=n:=by have:=List.find?_some hq;simpa using this
   subst hn;obtain⟨h1,h2⟩:=hX.own q (Zoi hq);refine⟨Zka hT ho (fun n h=>h) (fun _=>trivial),fun C fm G k h=> ?_⟩;rw[Zkj]at h;refine ZgR (by rw[Zd ho,ZI];rfl) (fun e he=> ?_) h1 h;obtain⟨x,_,rfl⟩:=ZnT.1 he;obtain⟨l,hl⟩:=h2 x;exact⟨_,_,by rw[Zc.encE,hU.enc_cells],by rw[Znf,hl];rfl⟩
  ·exact⟨hT,fun _ _ _ _ h=>h⟩
 ·exact⟨hT,fun _ _ _ _ h=>h⟩
theorem Zk4 (hU:UOk U) {X:ZF U} (hX:TOk X) {keep:List Nat} {T T':TS U} {o:Oper} (hT:T.Inv) (h:preT keep X T o=some T'):T'.Inv∧∀(C:Ctx) (fm:Fm) (G:Zg0) (k:List Item),AWP C fm G k T'.enc→AWP C fm G k T.enc:=by
 unfold preT at h;split at h;rotate_left;simp at h;split at h
 ·split at h
  ·simp at h
  ·cases h;exact Za4 _ T hT
 ·split at h;rotate_left;simp at h;split at h;rotate_left;simp at h;split at h;rotate_left;simp at h;cases h;exact Zfn hU hX T _ hT
theorem Zit {ops:Array Oper} {i:Nat} {k:List Item} {st st':St} (hi:i < ops.size) (h:Exec C fm ops i st st') (h1:AWP C fm G (.ops ops (i+1)::k) st'):AWP C fm G (.ops ops i::k) st:=by intro ρ S a w hrep hd b k0 cs hb;have hrep:Rep C (fun j=>j < i) ρ S st a.tmps w:=hrep;obtain⟨ρ',S',a',w',hr',hd',hs⟩:=h (fun j=>j < i) (by simp) ρ S a w hrep hd b (List.range' (i+1) (ops.size - (i+1))) (k.map conc++k0) cs hb;obtain⟨e2,a2',w2,hg2,harr⟩:=h1 ρ' S' a' w' (hr'.weakX (fun j hj=>by simp only[Xof];omega)) hd' b k0 cs hb;refine⟨e2,a2',w2,hg2,.of_steps ?_ harr⟩;simp only[Znh,ZnF,conc,Za6 hi];exact hs
theorem Zlt {k:List Item} {st:St} {t:Nat} (h:∀b,AWP C fm G k (st.set t (.p (.bool b)))):AWP C fm G k (st.set t .anyb):=by
 intro ρ S a w hr hd;have hs:=hr.slots t;have e1:(st.set t .anyb).slots t= .anyb:=by simp[St.set,upd]
 rw[e1]at hs;generalize hv:a.tmps.getD t undef=v at hs;cases hs with
 |anyb b=>
  refine h b ρ S a w ?_ hd;have hsl:∀k',RelD w S ρ (a.tmps.getD k' undef) ((st.set t (.p (.bool b))).slots k'):=fun k'=>by
   have:=hr.slots k';simp only[St.set,upd]at this⊢
   split
   ·rename_i he;subst he;rw[hv];exact .p _ _ (.bool b)
   ·rename_i he;rw[if_neg he]at this;exact this
  exact⟨hr.nt,hr.grow,hr.frame,hr.s0,hr.sIn,hsl,hr.objs,hr.own,hr.inj,hr.known,hr.young,hr.fzk,hr.glob,hr.sOut,hr.ep1,hr.quiet,hr.lay,hr.fam⟩
theorem ZhH (g:Nat) (a b:List D):Zcd (fnD g a b)=some (g,a,b):=by
 unfold fnD;cases ha:Zj D.pure? a with
 |none=>rfl
 |some x=>
  cases hb:Zj D.pure? b with
  |none=>rfl
  |some y=>simp only[Zcd,←Zv ha,←Zv hb]
theorem Zeq:∀(j:Nat) (l:List (AET U)) (l':List AE),l'.map (·.id)=l.map (·.id)→Zae j l'=ZgT j l
 |j,[],[],_=>rfl
 |j,[],_::_,h=>by simp at h
 |j,_::_,[],h=>by simp at h
 |j,x::l,y::l',h=>by
  simp only[Znh,Zof]at h;simp only[Zae,ZgT,h.1];cases x.id with
  |none=>exact Zeq (j+1) l l' h.2
  |some id=>simp only[Zeq (j+1) l l' h.2]
theorem Zhx (a b:List (TV U)):TV.encs (a++b)=TV.encs a++TV.encs b:=by simp only[Zah,List.map_append]
theorem Zli (hX:TOk P.X) {T:TS U} (hT:T.Inv) {dst:Option Nat} {f:Operand} {g:Nat} {a b:List (TV U)} {c:Option Bool} (hc:c≠some false) (h:fnOf P dst (evT P.X T.slots 0 f)=some (c,g,a,b)):
  ev P.X.E T.enc.slots 0 f=fnD g (TV.encs a) (TV.encs b)∧(TV.fn g a b).inv T.objs:=by
 unfold fnOf at h;split at h
 ·rename_i g' a' b' hf;simp only[Znv,Znw]at h;obtain⟨-,rfl,rfl,rfl⟩:=h;exact⟨by rw[Zb hX hf];simp only[TV.enc],ZA hT hf⟩
 ·rename_i x hf;split at h;rotate_left;simp at h;rename_i k hk;split at h;rotate_left;simp at h;rename_i s hs;simp only[Znv,Znw]at h;obtain⟨rfl,rfl,rfl,rfl⟩:=h;have hx:x=some s.1:=by simp only[ne_eq,Znv,decide_eq_false_iff_not,Classical.not_not]at hc;exact hc
  subst hx;exact⟨by rw[Zb hX hf];rfl,Zf rfl⟩
 ·simp at h
theorem ZhU (H:Hyp P C fm fn RT r root base) {T:TS U} (hT:T.Inv) {ops:Array Oper} {i:Nat} {o:Oper} {κ:Zi U→Option R} (hg:ZW ops T.enc o.guard=some true) (h:ZkQ P T i o κ=some r):
  ∃e,ZO T i e∧κ e=some r∧(okE P T i o e=true→∃cs,OE C ops i o T.enc (e.enc cs) (fpT P T o e).R):=by
 unfold ZkQ at h;split at h
 ·rename_i hc;unfold Zca at hc;split at hc;rotate_left;simp at hc;rename_i c hop;split at hc;rotate_left;simp at hc;rename_i f hcal;rw[hop]at h;simp only[callT,hcal]at h;split at h;rotate_left;simp at h;rename_i b g first caps hf
  obtain⟨hb,h⟩:=ZmD h;obtain⟨hfe,hfi⟩:=Zli H.hX hT hb hf;split at h;rotate_left;simp at h;rename_i sg hsg;obtain⟨hmem,hid⟩:=ZjM hsg;split at h;rotate_left;simp at h;rename_i ds hds;split at h;rotate_left;simp at h;rename_i as has;split at h;rotate_left;simp at h;rename_i hok;simp only[Zm8]at hok;split at h;rotate_left;simp at h;rename_i s hs;obtain⟨a,ha,h⟩:=bind_some h;split at h;rotate_left;simp at h;rename_i e he;obtain⟨hfun,hol⟩:=H.sigs sg hmem _ s hs a ha;have hin:∀d∈first++ds++caps,d.inv T.objs:=by
   intro d hd;simp only[Zni]at hd;rcases hd with (hd |hd) |hd
   ·exact fun q hq=>hfi q (by simp only[TV.fulls,Zni];exact .inl (Zr.2 ⟨d,hd,hq⟩))
   ·exact Zel hT hds d hd
   ·exact fun q hq=>hfi q (by simp only[TV.fulls,Zni];exact .inr (Zr.2 ⟨d,hd,hq⟩))
  obtain⟨aes,p1,p2,p3,p4,p5,p6⟩:=Zfd H.hU hT hin has;refine⟨e,Zjf has hol he,h,fun hk=>⟨[], ?_⟩⟩;have hcall:Zca o=true:=by unfold Zca;rw[hop];simp only[hcal]
  simp only[okE,hcall,if_true,Zm8]at hk;have hpre:ZlE C.E T.enc c sg.2.pts sg.2.ms=some (g,aes):=by unfold ZlE;rw[H.hCE];simp only[hcal,hfe,ZhH,ZbO H.hX hds,←Zhx,Zak,p2,if_true,p1,p4,←Eng.freezeL_enc,Zeq 0 as aes p6,hok.1.1,hok.1.2,hok.2,Bool.and_self]
  have hR:(fpT P T o e).R=ZaV C.E T.enc.slots T.enc.objs c.operands.toList:=by simp only[fpT,hcall,if_true,H.hCE,hop,Op.operands]
  rw[hR];refine .call (pts:=sg.2.pts) (ms:=sg.2.ms) hg hop (by rw[H.hCE];exact hk.2) hpre (ZfW p5) ?_ (Zjg p6 p4 he);rw[p3,H.hCE,←hid];rw[List.map_map]at hfun;exact hfun
 ·rename_i hc;obtain⟨e,cs,h1,h2,h3,h4⟩:=snd H.hU H.hX hT h;refine⟨e,h3,h4,fun hk=>⟨cs, ?_⟩⟩;have hcall:Zca o=false:=by simpa using hc
  simp only[okE,hcall,Zm9,if_false,Zm8]at hk;have hR:(fpT P T o e).R=Zd5 C.E o.op T.enc.slots T.enc.objs:=by simp only[fpT,hcall,Zm9,if_false,H.hCE]
  rw[hR];exact .op hg (by rw[H.hCE];exact h1) (by rw[H.hCE];exact hk.2.2) hk.2.1 h2
theorem ZhX {T:TS U} {t:Nat} {d:TV U} (h:T.slots t=d):T.setO (some t) d=T:=by
 have:upd T.slots t d=T.slots:=by
  funext x;simp only[upd];split
  ·rename_i he;rw[he,h]
  ·rfl
 cases T;simp only[TS.setO]at this⊢
 rw[this]
theorem ZgC {ops:Array Oper} {T:TS U} {o:Oper} {κ:Bool→TS U→Option R} (h:Zif ops T o κ=some r):∃g,ZW ops T.enc o.guard=some g∧κ g T=some r:=by
 unfold Zif at h;unfold ZW;split at h
 ·rename_i hg;rw[hg];exact⟨true,rfl,h⟩
 ·rename_i g w hg;rw[hg];simp only;split at h
  ·rename_i t ht;rw[ht];simp only;rw[show T.enc.slots t=(T.slots t).enc from rfl];split at h
   ·rename_i b hb;rw[hb];cases b
    ·refine⟨!w, ?_,by rw[cond_false,ZhX hb]at h;exact h⟩;simp only[TV.enc,Zc.encE];cases w<;>rfl
    ·refine⟨w, ?_,by rw[cond_true,ZhX hb]at h;exact h⟩;simp only[TV.enc,Zc.encE];cases w<;>rfl
   ·rename_i hb;rw[hb];exact⟨false,rfl,h⟩
   ·simp at h
  ·rename_i ht;rw[ht];exact⟨false,rfl,h⟩
theorem Zad {id:Nat}:∀{pre pre':List TI'},Zcu id pre=some pre'→(∀base,Zao id (pre.map TI'.conc++base)=some (pre'.map TI'.conc++base))∧(Wf root base pre→Wf root base pre')
 | [],_,h=>by simp[Zcu]at h
 |x::k,pre',h=>by
  cases x with
  |blk j=>
   simp only[Zcu]at h;split at h
   ·rename_i hj;cases h;exact⟨fun base=>by simp[TI'.conc,Zao,hj],fun hw=>hw⟩
   ·rename_i hj;obtain⟨q1,q2⟩:=Zad h;exact⟨fun base=>by simp only[Znh,ZnF,TI'.conc,Zao,hj,if_false];exact q1 base,fun hw=>q2 hw⟩
  |c p c=>
   simp only[Zcu]at h;obtain⟨q1,q2⟩:=Zad h;exact⟨fun base=>by simp only[Znh,ZnF,TI'.conc,Zao];exact q1 base,fun hw=>q2 hw.2⟩
  |ops a i=>
   simp only[Zcu]at h;obtain⟨q1,q2⟩:=Zad h;exact⟨fun base=>by simp only[Znh,ZnF,TI'.conc,Zao];exact q1 base,fun hw=>q2 hw⟩
theorem ZbM {id:Nat}:∀{pre:List TI'},Zcu id pre=none→∀base,Zao id (pre.map TI'.conc++base)=Zao id base
 | [],_,base=>rfl
 |x::k,h,base=>by
  cases x with
  |blk j=>
   simp only[Zcu]at h;split at h
   ·simp at h
   ·rename_i hj;simp only[Znh,ZnF,TI'.conc,Zao,hj,if_false];exact ZbM h base
  |c p c=>simp only[Zcu]at h;simp only[Znh,ZnF,TI'.conc,Zao];exact ZbM h base
  |ops a i=>simp only[Zcu]at h;simp only[Znh,ZnF,TI'.conc,Zao];exact ZbM h base
theorem Zd4 (H:Hyp P C fm fn RT r root base) {T:TS U} (hT:T.Inv) {cut:Cut U R} {k:List Item} (hc:Hcut P C fm fn RT r cut k) (h:Zkd P cut T=some r):AWP C fm (ZiH C fn RT) k T.enc:=by unfold Zkd at h;split at h;rotate_left;simp at h;rename_i q hq;obtain⟨h1,h2⟩:=Zjc (C:=C) (r:=fm) (G:=ZiH C fn RT) (k:=k) H.hU hT hq;exact h2 (hc q.1 q.2 h1 h)
theorem ZiO (hX:TOk P.X) {T:TS U} (hT:T.Inv) {o:Oper} {i em q} (h:Zmj P.X T o=some (em,q)):
  (em=false→Ze P.X.E T.ep i o.op o.type T.enc.slots T.enc.objs=some {val:= .p (.bool !q)})∧(em=true→Ze P.X.E T.ep i o.op o.type T.enc.slots T.enc.objs=some {val:= .anyb}):=by
 unfold Zmj at h;split at h;rotate_left;simp at h;rename_i b t x u hop;rw[hop];split at h;rotate_left;simp at h;rename_i e d he hd;split at h;rotate_left;simp at h;rename_i u' hu;split at h;rotate_left;simp at h;rename_i q' hq';have fin:∀v:D,(Zde e.ti.d (.const (.slice none 0 0)) (T.enc |> fun _=>d.enc)=some v)→∀em',(v=if em' then .anyb else .p (.bool false))→some (em',q')=some (em,q)→
   (em=false→Ze P.X.E T.ep i (.binOp b t x (.const (.slice none 0 0)) u) o.type T.enc.slots T.enc.objs=some {val:= .p (.bool !q)})∧(em=true→Ze P.X.E T.ep i (.binOp b t x (.const (.slice none 0 0)) u) o.type T.enc.slots T.enc.objs=some {val:= .anyb}):=by
  intro v hv em' hem hh;simp only[Znv,Znw]at hh;obtain⟨rfl,rfl⟩:=hh;have hn:Operand.isNil (.const (.slice none 0 0))=true:=rfl;constructor
  ·intro h0;subst h0;simp only[Zm9,if_false]at hem;subst hem;simp only[Ze,hn,if_true,Zt he,Zb hX hd,hv];split at hq'<;>simp only[Znv,reduceCtorEq]at hq'<;>subst hq'<;>simp[D.notb]
  ·intro h0;subst h0;simp only[if_true]at hem;subst hem;simp only[Ze,hn,if_true,Zt he,Zb hX hd,hv];split at hq'<;>simp only[Znv,reduceCtorEq]at hq'<;>subst hq'<;>simp[D.notb]
 split at h
 ·rename_i t' xs;refine fin _ ?_ _ rfl h;simp only[hu,TV.enc,Zc.encE,Zde,List.isEmpty_map]
 ·rename_i id n;split at h;rotate_left;simp at h;rename_i t' xs fix ho;have hl:=Za9 hT hd ho;refine fin _ ?_ _ rfl h;simp only[hu,TV.enc,Zde];rw[hl];cases xs<;>simp
 ·simp at h
theorem ZhK {ops:Array Oper} {i:Nat} {o:Oper} {k:List Item} {st:St} (ho:ops[i]? =some o) (hg:ZW ops st o.guard=some true) (hnc:∀c,o.op≠ .defer c)
  (h:∀(ρ:Id→Option Lay) (S:Nat→Prop) (a:Act) (w:World),Rep C (fun j=>j < i) ρ S st a.tmps w→a.defers=fm.ds→∃st1 v w',(execOp a.eval o).run C.E.prog w= .ok (.value v) w'∧(∃ρ' S',Rep C (fun j=>j < i∨j=i) ρ' S' st1 (a.put o.dst v).tmps w')∧AWP C fm G (.ops ops (i+1)::k) st1):
  AWP C fm G (.ops ops i::k) st:=by
 have hi:i < ops.size:=(Zm4.1 ho).1;intro ρ S a w hrep hd b k0 cs hb;have hrep:Rep C (fun j=>j < i) ρ S st a.tmps w:=hrep;have hwant:=ZaX hrep hg;obtain⟨st1,v,w',hrun,⟨ρ',S',hr'⟩,h1⟩:=h ρ S a w hrep hd;obtain⟨e2,a2',w2,hg2,harr⟩:=h1 ρ' S' (a.put o.dst v) w' (hr'.weakX (fun j hj=>by simp only[Xof];omega)) (by simp[hd]) b k0 cs hb;refine⟨e2,a2',w2,hg2,.of_steps ?_ harr⟩;have hsem:o.semAt b.roundOf a.eval=execOp a.eval o:=Oper.semAt_eq _ _ _ hnc;have hst:=stepGR_op (P:=C.E.prog) (b:=b) (a:=a) (k:=k.map conc++k0) (cs:=cs) (w:=w) (i:=i) (rest:=List.range' (i+1) (ops.size - (i+1))) ho hwant;have hfin:=Frame.finish_atR b a ops i (List.range' (i+1) (ops.size - (i+1))) (k.map conc++k0) v;simp only[ho,Option.bind_some]at hfin;refine .one (Zz _ _ _) ?_;simp only[Znh,ZnF,conc,Za6 hi];refine step_lone_go ?_;rw[hst,hsem,←hfin];simp[stepG.apply,hrun]
theorem Zj1 {α β γ δ:Type} (f:α→γ) (g:β→δ) (l:List (α×β)) (j:Nat):(l.map fun e=>(f e.1,g e.2)).eraseIdx j=(l.eraseIdx j).map fun e=>(f e.1,g e.2):=by
 induction l generalizing j with
 |nil=>simp
 |cons x l ih=>cases j with
  |zero=>simp
  |succ j=>simp[ih]
theorem Zmy (H:Hyp P C fm fn RT r root base):∀(n:Nat),
  (∀pre T,Wf root base pre→T.Inv→evl P n none pre T=some r→AWP C fm (ZiH C fn RT) (pre.map TI'.conc++base) T.enc)∧
  (∀pre T ops hist,Wf root base pre→T.Inv→evl P n (some (ops,hist)) pre T=some r→DW C fm (ZiH C fn RT) (pre.map TI'.conc++base) ops hist T.enc):=by
 intro n
 induction n with
 |zero=>exact⟨fun pre T _ _ h=>by simp[evl]at h,fun pre T ops hist _ _ h=>by simp[evl]at h⟩
 |succ n ih=>
  obtain⟨ih1,ih2⟩:=ih;refine⟨fun pre T hw hT h=> ?_,fun pre T ops hist hw hT h=> ?_⟩
  ·match pre with
   | []=>
    simp only[evl]at h;split at h
    ·rename_i c hc;exact Zd4 H hT (H.back c hc) h
    ·rename_i hb;rw[H.noback hb];unfold Zlh at h;obtain⟨hT,hs⟩:=Za4 (Zh2 T (ZiI P.X T P.rs P.rms)) T hT;refine hs _ _ _ _ ?_;split at h;rotate_left;simp at h;rename_i t ht;obtain⟨ps,q1,q2⟩:=ZlC H.hU H.hX hT ht;exact ZmI _ ps P.rms P.lent H.hE (by rw[H.hCE,H.rs];exact q1) (H.ret t h) (ZfW q2) H.ds
   | .blk id::pre=>
    simp only[evl]at h;exact Zas (ps':=[]) H.hE 1 _ _ [] rfl (by simp) (ih1 pre T hw hT h)
   | .ops ops i::pre=>
    simp only[evl]at h;split at h
    ·rename_i hn;exact Zas (ps':=[]) H.hE 1 (.ops ops i::_) _ [] (by simp only[run,hn];rfl) (by simp) (ih1 pre T.next hw hT.next h)
    ·rename_i o ho;have hi:i < ops.size:=(Zm4.1 ho).1;split at h
     ·rename_i T' hpre;obtain⟨hT',hs⟩:=Zk4 H.hU H.hX hT hpre;exact hs _ _ _ _ (ih1 (.ops ops i::pre) T' hw hT' h)
     obtain⟨g,hg,h⟩:=ZgC h;cases g with
     |true=>
      simp only at h;split at h
      ·rename_i em q hnil;split at h;rotate_left;simp at h;rename_i hok;simp only[Zm8]at hok;obtain⟨c1,c2⟩:=ZiO (i:=i) H.hX hT hnil;have einv:∀b,ZO T i {val:=(.v .bool b:TV U)}:=fun b=>ZO.pure (Zag _ _)
       have fr:∀b,fresh T i {val:=(.v .bool b:TV U)}=true:=fun b=>rfl
       have step:∀(v:D),Ze P.X.E T.ep i o.op o.type T.enc.slots T.enc.objs=some {val:=v}→AWP C fm (ZiH C fn RT) (.ops ops (i+1)::(pre.map TI'.conc++base)) (T.enc.app i o.dst {val:=v})→AWP C fm (ZiH C fn RT) (.ops ops i::(pre.map TI'.conc++base)) T.enc:=fun v hcv h1=>
        ZlQ (e:={val:=v}) H.hE ho hg (by rw[H.hCE];exact hcv) (by rw[H.hCE];exact hok.2) rfl (by simp) h1
       have nxt:∀b,evl P n none (.ops ops (i+1)::pre) (T.app i o.dst {val:= .v .bool b})=some r→AWP C fm (ZiH C fn RT) (.ops ops (i+1)::(pre.map TI'.conc++base)) (T.enc.app i o.dst {val:= .p (.bool b)}):=fun b hb=>by have:=ih1 (.ops ops (i+1)::pre) _ hw (hT.app (fr b) (einv b)) hb;rw[Zbd T i o.dst _ []]at this;exact this
       cases em with
       |false=>exact step _ (c1 rfl) (nxt _ h)
       |true=>
        simp only[cond_true,agree]at h;split at h;rotate_left;simp at h;rename_i hag;have ht:=nxt true h;have hf:=nxt false (by rw[←hag];exact h);refine step _ (c2 rfl) ?_;cases hd:o.dst with
        |none=>rw[hd]at ht;exact ht
        |some t=>
         rw[hd]at ht hf;exact Zlt fun b=>by cases b;(·exact hf);exact ht
      ·split at h
       ·rename_i m hm;split at h;rotate_left;simp at h;rename_i hok;unfold nextM at hm;split at hm;rotate_left;simp at hm;rename_i it hop;split at hm;rotate_left;simp at hm;rename_i id hid;split at hm;rotate_left;simp at hm;rename_i ka kb rest cur hobj;split at hm;rotate_left;simp at hm;rename_i hfz;cases hm;have hlit:ZD it=true:=by simp only[Zfx,Zm8]at hok;have:=hok.2;rw[hop]at this;simp[Op.operands]at this;exact this
        have hdst:∀d,o.dst=some d→d < C.E.nt:=by rw[H.hCE];simp only[Zfx,Zm8]at hok;exact Zbb hok.1
        have hevi:ev C.E T.enc.slots 0 it= .it id:=by rw[H.hCE,Zb H.hX hid];rfl
        have hobj':T.enc.objs id=some (.mit (rest.map fun e=>(U.encE ka e.1,U.encE kb e.2)) (cur.map fun e=>(U.encE ka e.1,U.encE kb e.2))):=Zd hobj;refine ZhK ho hg (fun c hc=>by rw[hop]at hc;cases hc) fun ρ S a w hrep hd=> ?_
        rcases Zk7 hrep (Nat.lt_irrefl i) hdst hlit hop hevi hobj' hfz with ⟨hnil,v,w',hrun,hrep'⟩ |⟨j,q,hq,v,w',hrun,hrep'⟩
        ·have:rest=[]:=by simpa using hnil
         subst this;refine⟨_,v,w',hrun,hrep', ?_⟩;have:=ih1 (.ops ops (i+1)::pre) _ hw (hT.app (dst:=o.dst) rfl (ZO.pure (Zf (by simp[TV.fulls,TV.fullsL])))) h;rw[Zbd T i o.dst _ []]at this;exact this
        ·have hne:List.isEmpty rest=false:=by
          cases rest with
          |nil=>simp at hq
          |cons x l=>rfl
         rw[Znf]at hq;cases hr:rest[j]? with
         |none=>rw[hr]at hq;simp at hq
         |some q0=>
          rw[hr]at hq;simp only[Zoe,Znv]at hq;subst hq;simp only[hne,cond_false]at h;have hb:=Zgi h hr;refine⟨_,v,w',hrun,hrep', ?_⟩;have:=ih1 (.ops ops (i+1)::pre) _ hw (hT.app (dst:=o.dst) rfl (Zcc (by simp[TV.fulls,TV.fullsL]) (fun n he=>by cases he) (fun _=>by trivial))) hb;rw[Zbd T i o.dst _ []]at this;simp only[Zi.enc,TV.enc,TV.encs,Zc.encE,Znh,List.map_nil,Zbz,Zoe,←Zj1]at this;exact this
       split at h
       ·rename_i m hm;split at h;rotate_left;simp at h;rename_i hok;refine ZhK ho hg (fun c hc=> ?_) fun ρ S a w hrep hd=> ?_
        ·unfold Zlo at hm;rw[hc]at hm;simp at hm
        obtain⟨_,c,hc1,hc2,v,hrun,hrep'⟩:=Zjb H.hX hT H.hCE hrep (Nat.lt_irrefl i) H.hE hok hm;refine⟨_,v,w,hrun,hrep', ?_⟩;have:=ih1 (.ops ops (i+1)::pre) _ hw (hT.app (dst:=o.dst) rfl (ZO.pure (Zag _ _))) (ZkH h hc1 hc2);rw[Zbd T i o.dst _ []]at this;exact this
       split at h
       ·rename_i q hq;split at h;rotate_left;simp at h;rename_i hok;obtain⟨hroom,h⟩:=Zh h;refine ZhK ho hg (fun c hc=> ?_) fun ρ S a w hrep hd=> ?_
        ·unfold Zle at hq;rw[hc]at hq;split at hq<;>simp at hq
        obtain⟨_,heinv,v,w',hrun,hrep'⟩:=ZiV H.hX hT H.hCE hrep (Nat.lt_irrefl i) H.hE hok hq hroom;refine⟨_,v,w',hrun,hrep', ?_⟩;have:=ih1 (.ops ops (i+1)::pre) _ hw (hT.app (dst:=o.dst) rfl heinv) h;rw[Zbd T i o.dst _ []]at this;exact this
       obtain⟨e,he1,he2,he3⟩:=ZhU H hT hg h;split at he2;rotate_left;simp at he2;rename_i hok;obtain⟨cs,hoe⟩:=he3 hok;have hfr:fresh T i e=true:=by simp only[okE,Zm8]at hok;exact hok.1
       refine Zit hi (hoe.exec H.hE ho) ?_;have:=ih1 (.ops ops (i+1)::pre) _ hw (hT.app hfr he1) he2;rw[Zbd T i o.dst e cs]at this;exact this
     |false=>
      simp only at h;split at h;rotate_left;simp at h;rename_i hd;have e0:ZO T i {val:=(.undef:TV U)}:=ZO.pure (Zf rfl);have:=ih1 (.ops ops (i+1)::pre) _ hw (hT.app rfl e0) h;rw[Zbd T i o.dst _ []]at this;exact Zit hi (ZgF ho hg (by rw[H.hCE];exact hd)) this
   | .c p c::pre=>
    obtain⟨hat,hw'⟩:=hw;simp only[evl]at h;split at h
    ·rename_i x hx;have hm:=Zoi hx;have hp:x.1=p:=by have:=List.find?_some hx;simpa using this
     exact Zd4 H hT (H.cuts x hm c _ (by rw[hp];exact hat)) h
    ·cases c with
     |skip=>simp only at h;exact Zas (ps':=[]) H.hE 1 _ _ [] rfl (by simp) (ih1 pre T hw' hT h)
     |seq a b=>
      simp only at h;refine Zas (ps':=[]) H.hE 1 (.c (.seq a b)::_) _ [] rfl (by simp) (ih1 (.c (0::p) a:: .c (1::p) b::pre) T ⟨?_, ?_,hw'⟩ hT h)
      ·simp only[atP,hat];rfl
      ·simp only[atP,hat]
     |block id b=>
      simp only at h;refine Zas (ps':=[]) H.hE 1 (.c (.block id b)::_) _ [] rfl (by simp) (ih1 (.c (4::p) b:: .blk id::pre) T ⟨?_,hw'⟩ hT h);simp only[atP,hat];rfl
     |region id ops dr=>
      cases dr with
      |false=>simp only at h;exact Zas (ps':=[]) H.hE 1 (.c (.region id ops false)::_) _ [] rfl (by simp) (ih1 (.ops ops 0::pre) T hw' hT h)
      |true=>simp only at h;exact Zls H.hE H.mixed (ih2 pre T ops [] hw' hT h)
     |cond x a b=>
      simp only at h;split at h;rotate_left;simp at h;rename_i hl;split at h;rotate_left;simp at h;rename_i v hv;have hev:ev C.E T.enc.slots 0 x= .p (.bool v):=by rw[H.hCE,Zb H.hX hv];rfl
      cases v with
      |true=>
       refine Zas (ps':=[]) H.hE 1 (.c (.cond x a b)::_) _ [] (by simp only[run,hl,if_true,hev];rfl) (by simp) (ih1 (.c (2::p) a::pre) T ⟨?_,hw'⟩ hT h);simp only[atP,hat]
      |false=>
       refine Zas (ps':=[]) H.hE 1 (.c (.cond x a b)::_) _ [] (by simp only[run,hl,if_true,hev];rfl) (by simp) (ih1 (.c (3::p) b::pre) T ⟨?_,hw'⟩ hT h);simp only[atP,hat]
     |exit id=>
      simp only at h;split at h
      ·rename_i pre' hp;obtain⟨q1,q2⟩:=Zad (root:=root) (base:=base) hp;refine Zas (ps':=[]) H.hE 1 (.c (.exit id)::_) _ [] (by have hx:Zao id ((List.map TI'.conc pre).append base)=some (pre'.map TI'.conc++base):=q1 base;simp only[run,hx]) (by simp) (ih1 pre' T (q2 hw') hT h)
      ·rename_i hp;split at h;rotate_left;simp at h;rename_i x hx;have hm:=Zoi hx;have hpid:x.1=id:=by have:=List.find?_some hx;simpa using this
       obtain⟨k,hk,hc⟩:=H.exits x hm;have:=Zd4 H hT hc h;have hx:Zao id ((List.map TI'.conc pre).append base)=some k:=by rw[←hk,hpid];exact ZbM hp base
       exact Zas (ps':=[]) H.hE 1 (.c (.exit id)::_) _ [] (by simp only[run,hx]) (by simp) this
     |ret=>
      simp only[Zlh]at h;obtain⟨hT,hs⟩:=Za4 (Zh2 T (ZiI P.X T P.rs P.rms)) T hT;refine hs _ _ _ _ ?_;split at h;rotate_left;simp at h;rename_i t ht;obtain⟨ps,q1,q2⟩:=ZlC H.hU H.hX hT ht;exact ZmH _ ps P.rms P.lent H.hE (by rw[H.hCE,H.rs];exact q1) (H.ret t h) (ZfW q2) H.ds
     |_=>simp at h
  ·simp only[evl]at h;split at h
   ·rename_i hn;split at h;rotate_left;simp at h;rename_i hok;simp only[Zm8,decide_eq_true_eq]at hok;exact dw_end hok.2 hok.1 (ih1 pre T.next hw hT.next h)
   ·rename_i o ho;obtain⟨g,hg,h⟩:=ZgC h;cases g with
    |true=>
     simp only at h;obtain⟨e,he1,he2,he3⟩:=ZhU H hT hg h;split at he2;rotate_left;simp at he2;rename_i hok;simp only[Zm8]at hok;obtain⟨cs,hoe⟩:=he3 hok.1;have hfr:fresh T hist.length e=true:=by have:=hok.1;simp only[okE,Zm8]at this;exact this.1
     have:=ih2 pre _ ops _ hw (hT.app hfr he1) he2;rw[Zbd T hist.length o.dst e cs]at this;refine dw_op ho ⟨hoe, ?_,rfl,hok.2⟩ this;simp[fpT,Zi.enc,List.map_map,Function.comp_def]
    |false=>
     simp only at h;split at h;rotate_left;simp at h;rename_i hd;simp only[Zm8]at hd;have e0:ZO T hist.length {val:=(.undef:TV U)}:=ZO.pure (Zf rfl);have:=ih2 pre _ ops _ hw (hT.app rfl e0) h;rw[Zbd T hist.length o.dst _ []]at this;exact dw_op ho ⟨.skip hg (by rw[H.hCE];exact hd.1),rfl,rfl,hd.2⟩ this
end
end
end Eng
namespace Eng
open Go
inductive Sh1 where
 |v (t:Ty) |pp (t:Ty) |full (id:Id) |sl (id:Id) |ptr (id:Id) (i j:Nat) |ptrI (id:Id) (j:Nat)
 |map (id:Id) |it (id:Id) |nilp |nilfn |undef |nils (t:Ty) |clip (t:Ty)
inductive Sh where
 |o (s:Sh1) |agg (l:List Sh1) |fn (f:Nat) (a b:List Sh1)
inductive ShO where
 |box (l:List Sh) |boxS (t:Ty) |arr (t:Ty) (fix:Bool) |map (k v:Ty) |sit |mit (k v:Ty) |own (t:Ty) (c:Nat) (u:Ty)
abbrev Zm0 (U:Zc):Sh1→Type
 | .v t=>El U.car t
 | .pp t=>El U.car t
 | .full _=>Nat
 | .sl _=>Nat×Nat
 | .ptrI _ _=>Nat
 | .clip t=>List (El U.car t)
 |_=>Unit
abbrev ZgY (U:Zc):List Sh1→Type
 | []=>Unit
 |s::r=>Zm0 U s×ZgY U r
abbrev Val (U:Zc):Sh→Type
 | .o s=>Zm0 U s
 | .agg l=>ZgY U l
 | .fn _ a b=>ZgY U a×ZgY U b
abbrev Zcg (U:Zc):List Sh→Type
 | []=>Unit
 |s::r=>Val U s×Zcg U r
abbrev ValO (U:Zc):ShO→Type
 | .box l=>Zcg U l
 | .boxS t=>El U.car t
 | .arr t _=>List (El U.car t)
 | .map k v=>List (El U.car k×El U.car v)
 | .sit=>List UInt8×Nat
 | .mit k v=>List (El U.car k×El U.car v)×Option (El U.car k×El U.car v)
 | .own t _ _=>List (El U.car t)×Nat
abbrev Zaj (U:Zc):List ShO→Type
 | []=>Unit
 |s::r=>ValO U s×Zaj U r
section
variable {U:Zc}
def bld1:(s:Sh1)→Zm0 U s→TV U
 | .v t,x=> .v t x
 | .pp t,x=> .pp (U.cellsE t x)
 | .full id,n=> .full id n
 | .sl id,p=> .sl id p.1 p.2
 | .ptr id i j,_=> .ptr id i j
 | .ptrI id j,i=> .ptr id i j
 | .map id,_=> .map id
 | .it id,_=> .it id
 | .nilp,_=> .nilp
 | .nilfn,_=> .nilfn
 | .undef,_=> .undef
 | .nils t,_=> .nils t
 | .clip t,xs=> .clip t xs
def Zjh:(l:List Sh1)→ZgY U l→List (TV U)
 | [],_=>[]
 |s::r,v=>bld1 s v.1::Zjh r v.2
def bld:(s:Sh)→Val U s→TV U
 | .o s,x=>bld1 s x
 | .agg l,x=> .agg (Zjh l x)
 | .fn f a b,x=> .fn f (Zjh a x.1) (Zjh b x.2)
def ZmY:(l:List Sh)→Zcg U l→List (TV U)
 | [],_=>[]
 |s::r,v=>bld s v.1::ZmY r v.2
def bldO:(s:ShO)→ValO U s→TO U
 | .box l,x=> .box (ZmY l x)
 | .boxS t,x=> .box ((U.cellsE t x).map lv)
 | .arr t fix,xs=> .arr t xs fix
 | .map k v,kv=> .map k v kv
 | .sit,p=> .sit p.1 p.2
 | .mit k v,p=> .mit k v p.1 p.2
 | .own t c u,p=> .own t c u p.1 p.2 none
def Zkz:(l:List ShO)→Zaj U l→List (TO U)
 | [],_=>[]
 |s::r,v=>bldO s v.1::Zkz r v.2
def mat1:(s:Sh1)→TV U→Option (Zm0 U s)
 | .v t,.v t' x=>if h:t'=t then some (h▸x)else none
 | .pp t,.pp cs=>U.ofE t cs
 | .full id,.full id' n=>if id'=id then some n else none
 | .sl id,.sl id' o l=>if id'=id then some (o,l)else none
 | .ptr id i j,.ptr id' i' j'=>if id'=id∧i'=i∧j'=j then some ()else none
 | .ptrI id j,.ptr id' i j'=>if id'=id∧j'=j then some i else none
 | .map id,.map id'=>if id'=id then some ()else none
 | .it id,.it id'=>if id'=id then some ()else none
 | .nilp,.nilp=>some ()
 | .nilfn,.nilfn=>some ()
 | .undef,.undef=>some ()
 | .nils t,.nils t'=>if t'=t then some ()else none
 | .clip t,.clip t' xs=>if h:t'=t then some (h▸xs)else none
 |_,_=>none
def Zgr:(l:List Sh1)→List (TV U)→Option (ZgY U l)
 | [],[]=>some ()
 |s::r,d::ds=>match mat1 s d,Zgr r ds with
  |some x,some y=>some (x,y)
  |_,_=>none
 |_,_=>none
def mat:(s:Sh)→TV U→Option (Val U s)
 | .o s,d=>mat1 s d
 | .agg l,.agg cs=>Zgr l cs
 | .fn f a b,.fn f' x y=>if f'=f then match Zgr a x,Zgr b y with
  |some p,some q=>some (p,q)
  |_,_=>none
  else none
 |_,_=>none
def Zml:(l:List Sh)→List (TV U)→Option (Zcg U l)
 | [],[]=>some ()
 |s::r,d::ds=>match mat s d,Zml r ds with
  |some x,some y=>some (x,y)
  |_,_=>none
 |_,_=>none
def matO:(s:ShO)→TO U→Option (ValO U s)
 | .box l,.box cs=>Zml l cs
 | .boxS t,.box cs=>match Zj TV.leaf? cs with
  |some ls=>U.ofE t ls
  |none=>none
 | .arr t fix,.arr t' xs fix'=>if h:t'=t then if fix'=fix then some (h▸xs)else none else none
 | .map k v,.map k' v' kv=>if h:k'=k then if h':v'=v then some (h▸h'▸kv)else none else none
 | .sit,.sit s p=>some (s,p)
 | .mit k v,.mit k' v' r c=>if h:k'=k then if h':v'=v then some (h▸h'▸(r,c))else none else none
 | .own t c u,.own t' c' u' xs lo none=>if h:t'=t then if c'=c∧u'=u then some (h▸xs,lo)else none else none
 |_,_=>none
def ZiR:(l:List ShO)→List (TO U)→Option (Zaj U l)
 | [],[]=>some ()
 |s::r,d::ds=>match matO s d,ZiR r ds with
  |some x,some y=>some (x,y)
  |_,_=>none
 |_,_=>none
theorem Zh7 (hU:UOk U) {s:Sh1} {d:TV U} {x:Zm0 U s} (h:mat1 s d=some x):d=bld1 s x:=by
 unfold mat1 at h;split at h
 ·split at h;rotate_left;simp at h;rename_i he;subst he;cases h;rfl
 ·have:=ZaI hU h;rw[bld1,this]
 ·split at h;rotate_left;simp at h;rename_i he;subst he;cases h;rfl
 ·split at h;rotate_left;simp at h;rename_i he;subst he;cases h;rfl
 ·split at h;rotate_left;simp at h;rename_i he;obtain⟨rfl,rfl,rfl⟩:=he;rfl
 ·split at h;rotate_left;simp at h;rename_i he;obtain⟨rfl,rfl⟩:=he;cases h;rfl
 ·split at h;rotate_left;simp at h;rename_i he;subst he;rfl
 ·split at h;rotate_left;simp at h;rename_i he;subst he;rfl
 ·rfl
 ·rfl
 ·rfl
 ·split at h;rotate_left;simp at h;rename_i he;subst he;rfl
 ·split at h;rotate_left;simp at h;rename_i he;subst he;cases h;rfl
 ·simp at h
theorem ZbK (hU:UOk U):∀{l:List Sh1} {ds:List (TV U)} {x:ZgY U l},Zgr l ds=some x→ds=Zjh l x
 | [],[],x,h=>rfl
 | [],_::_,x,h=>by simp[Zgr]at h
 |_::_,[],x,h=>by simp[Zgr]at h
 |s::r,d::ds,x,h=>by simp only[Zgr]at h;split at h;rotate_left;simp at h;rename_i a b h1 h2;cases h;rw[Zjh,←Zh7 hU h1,←ZbK hU h2]
theorem Zmm (hU:UOk U) {s:Sh} {d:TV U} {x:Val U s} (h:mat s d=some x):d=bld s x:=by
 unfold mat at h;split at h
 ·exact Zh7 hU h
 ·rw[bld,ZbK hU h]
 ·split at h;rotate_left;simp at h;rename_i he;subst he;split at h;rotate_left;simp at h;rename_i p q h1 h2;cases h;rw[bld,ZbK hU h1,ZbK hU h2]
 ·simp at h
theorem ZdU (hU:UOk U):∀{l:List Sh} {ds:List (TV U)} {x:Zcg U l},Zml l ds=some x→ds=ZmY l x
 | [],[],x,h=>rfl
 | [],_::_,x,h=>by simp[Zml]at h
 |_::_,[],x,h=>by simp[Zml]at h
 |s::r,d::ds,x,h=>by simp only[Zml]at h;split at h;rotate_left;simp at h;rename_i a b h1 h2;cases h;rw[ZmY,←Zmm hU h1,←ZdU hU h2]
theorem Zlc (hU:UOk U) {s:ShO} {d:TO U} {x:ValO U s} (h:matO s d=some x):d=bldO s x:=by
 unfold matO at h;split at h
 ·rw[bldO,ZdU hU h]
 ·split at h;rotate_left;simp at h;rename_i ls hls;rw[bldO,ZaI hU h,ZcF hls]
 ·split at h;rotate_left;simp at h;rename_i he;subst he;split at h;rotate_left;simp at h;rename_i hf;subst hf;cases h;rfl
 ·split at h;rotate_left;simp at h;rename_i he;subst he;split at h;rotate_left;simp at h;rename_i hf;subst hf;cases h;rfl
 ·cases h;rfl
 ·split at h;rotate_left;simp at h;rename_i he;subst he;split at h;rotate_left;simp at h;rename_i hf;subst hf;cases h;rfl
 ·split at h;rotate_left;simp at h;rename_i he;subst he;split at h;rotate_left;simp at h;rename_i hf;obtain⟨rfl,rfl⟩:=hf;cases h;rfl
 ·simp at h
theorem ZeW (hU:UOk U):∀{l:List ShO} {ds:List (TO U)} {x:Zaj U l},ZiR l ds=some x→ds=Zkz l x
 | [],[],x,h=>rfl
 | [],_::_,x,h=>by simp[ZiR]at h
 |_::_,[],x,h=>by simp[ZiR]at h
 |s::r,d::ds,x,h=>by simp only[ZiR]at h;split at h;rotate_left;simp at h;rename_i a b h1 h2;cases h;rw[Zkz,←Zlc hU h1,←ZeW hU h2]
structure FC (U:Zc) where
 X:ZF U
 fn:Func
 c:Code
 sigs:List (Nat×Zjt U)
 lent:List Nat
 rms:List RM
 rhs:List (Option Nat)
 keep:List Nat:=[]
 alt:List (Nat×Nat):=[]
structure FOk (F:FC U):Prop where
 hU:UOk U
 hX:TOk F.X
 hE:Zn F.X.E
 mixed:F.X.prog.follows .mixedOrders=true
 sigs:∀x∈F.sigs,Zeu F.X.E x.1 x.2
structure Lp (U:Zc) (R:Type) where
 live:List Nat
 frz:List Nat
 shs:List Sh
 sho:List ShO
 f:Zcg U shs→Zaj U sho→Option R
variable {R:Type}
def Lp.cut (L:Lp U R):Cut U R:=⟨L.live,L.frz,fun ds os=>match Zml L.shs ds,ZiR L.sho os with
 |some v,some w=>L.f v w
 |_,_=>none⟩
def Lp.st (F:FC U) (L:Lp U R) (v:Zcg U L.shs) (w:Zaj U L.sho):TS U:=mkC F.lent L.live (ZmY L.shs v) (Zkz L.sho w)
def Pt (F:FC U) (RT:Ret) (k:List Item) (T:TS U):Prop:=
 ∀W Lt S0 lays,AWP ⟨F.X.E,W,Lt,S0,lays⟩ ⟨none,[]⟩ (ZiH ⟨F.X.E,W,Lt,S0,lays⟩ F.fn RT) k T.enc
def ZhO (F:FC U) (RT:Ret) (r:R) (L:Lp U R) (k:List Item):Prop:=∀v w,(L.st F v w).Inv→L.f v w=some r→Pt F RT k (L.st F v w)
def cutsOf (l:List (List Nat×Lp U R)):List (List Nat×Cut U R):=l.map fun x=>(x.1,x.2.cut)
def Zmw (l:List (Nat×Lp U R)):List (Nat×Cut U R):=l.map fun x=>(x.1,x.2.cut)
def Zir:Option (Lp U R)→Option (Cut U R)
 |some L=>some L.cut
 |none=>none
def FC.par (F:FC U) (cuts:List (List Nat×Lp U R)) (back:Option (Lp U R)) (exits:List (Nat×Lp U R)) (ret:ZbG U→Option R):Par U R:=
 {X:=F.X,sigs:=F.sigs,cuts:=cutsOf cuts,back:=Zir back,exits:=Zmw exits,lent:=F.lent,rs:=F.fn.results.toList,rms:=F.rms,rhs:=F.rhs,ret:=ret,keep:=F.keep,alt:=F.alt}
def ZkJ (F:FC U) (p:List Nat):List Item:=match atP (F.c,[]) p with
 |some x=> .c x.1::x.2
 |none=>[]
def Zbe (F:FC U) (RT:Ret) (r:R):List (List Nat×Lp U R)→Prop
 | []=>True
 |x::l=>ZhO F RT r x.2 (ZkJ F x.1)∧Zbe F RT r l
def ZaT (F:FC U) (RT:Ret) (r:R) (base:List Item):List (Nat×Lp U R)→Prop
 | []=>True
 |x::l=>(∃k,Zao x.1 base=some k∧ZhO F RT r x.2 k)∧ZaT F RT r base l
theorem ZhO.hcut {F:FC U} (hU:UOk U) {RT:Ret} {r:R} {L:Lp U R} {k:List Item} (h:ZhO F RT r L k) {P:Par U R} (hl:P.lent=F.lent) {W:World} {Lt S0:Nat→Prop} {lays:Nat→Option Lay}:
  Hcut P ⟨F.X.E,W,Lt,S0,lays⟩ ⟨none,[]⟩ F.fn RT r L.cut k:=by
 intro ds os hi hk;simp only[Lp.cut]at hk;split at hk;rotate_left;simp at hk;rename_i v w hv hw;have e1:=ZdU hU hv;have e2:=ZeW hU hw;have:mkC P.lent L.cut.live ds os=L.st F v w:=by rw[e1,e2,hl];rfl
 rw[this]at hi⊢
 exact h v w hi hk W Lt S0 lays
theorem Pt.evl {F:FC U} (hF:FOk F) {RT:Ret} {r:R} (n:Nat) {cuts:List (List Nat×Lp U R)} {back:Option (Lp U R)} {exits:List (Nat×Lp U R)} {ret:ZbG U→Option R} {base:List Item} {pre:List TI'} {T:TS U}
  (hT:T.Inv) (h:Eng.evl (F.par cuts back exits ret) n none pre T=some r) (hw:Wf (F.c,[]) base pre) (hc:Zbe F RT r cuts) (hb:∀L,back=some L→ZhO F RT r L base) (hnb:back=none→base=[])
  (he:ZaT F RT r base exits) (hret:∀t,ret t=some r→t.enc=RT):Pt F RT (pre.map TI'.conc++base) T:=by
 intro W Lt S0 lays;refine(Zmy (fm:=⟨none,[]⟩) (fn:=F.fn) (RT:=RT) (r:=r) (root:=(F.c,[])) (base:=base) (C:=⟨F.X.E,W,Lt,S0,lays⟩) ?_ n).1 pre T hw hT h;refine⟨hF.hU,hF.hX,hF.hE,rfl,hF.mixed,rfl,rfl,hF.sigs,fun x hx c k hat=> ?_,fun c hc'=> ?_,fun hn=> ?_,fun x hx=> ?_,hret⟩
 ·obtain⟨y,hy,rfl⟩:=ZnT.1 hx;have:ZhO F RT r y.2 (ZkJ F y.1):=by
   clear h hx hat
   induction cuts with
   |nil=>simp at hy
   |cons z l ih=>
    rcases Znj.1 hy with rfl |hy
    ·exact hc.1
    ·exact ih hc.2 hy
  rw[show ZkJ F y.1= .c c::k by unfold ZkJ;rw[show atP (F.c,[]) y.1=some (c,k)from hat]]at this;exact this.hcut hF.hU rfl
 ·cases back with
  |none=>simp[FC.par,Zir]at hc'
  |some L=>
   simp only[FC.par,Zir,Znv]at hc';subst hc';exact(hb L rfl).hcut hF.hU rfl
 ·cases back with
  |none=>exact hnb rfl
  |some L=>simp[FC.par,Zir]at hn
 ·obtain⟨y,hy,rfl⟩:=ZnT.1 hx;have:∃k,Zao y.1 base=some k∧ZhO F RT r y.2 k:=by
   clear h hx
   induction exits with
   |nil=>simp at hy
   |cons z l ih=>
    rcases Znj.1 hy with rfl |hy
    ·exact he.1
    ·exact ih he.2 hy
  obtain⟨k,hk,hl⟩:=this;exact⟨k,hk,hl.hcut hF.hU rfl⟩
theorem Pt.evlAt {F:FC U} (hF:FOk F) {RT:Ret} {r:R} (n:Nat) {cuts:List (List Nat×Lp U R)} {back:Option (Lp U R)} {exits:List (Nat×Lp U R)} {ret:ZbG U→Option R} {base:List Item} {pre:List TI'} {T:TS U} {k:List Item}
  (hk:k=pre.map TI'.conc++base) (hT:T.Inv) (h:Eng.evl (F.par cuts back exits ret) n none pre T=some r) (hw:Wf (F.c,[]) base pre) (hc:Zbe F RT r cuts) (hb:∀L,back=some L→ZhO F RT r L base) (hnb:back=none→base=[])
  (he:ZaT F RT r base exits) (hret:∀t,ret t=some r→t.enc=RT):Pt F RT k T:=hk▸Pt.evl hF n hT h hw hc hb hnb he hret
theorem Pt.lp {F:FC U} (hF:FOk F) {RT:Ret} {body:Code} {k:List Item} {T:TS U} (h:Pt F RT (.c body:: .lp body::k) T):Pt F RT (.lp body::k) T:=fun W Lt S0 lays=>
 Zas (ps':=[]) hF.hE 1 (.lp body::k) _ [] rfl (by simp) (h W Lt S0 lays)
theorem Pt.loop {F:FC U} (hF:FOk F) {RT:Ret} {body:Code} {k:List Item} {T:TS U} (h:Pt F RT (.c body:: .lp body::k) T):Pt F RT (.c (.loop body)::k) T:=fun W Lt S0 lays=>
 Zas (ps':=[]) hF.hE 1 (.c (.loop body)::k) _ [] rfl (by simp) (h W Lt S0 lays)
theorem Zmr {F:FC U} (hF:FOk F) {RT:Ret} {r:R} (N:Nat) {q:List Nat} {body:Code} {k:List Item} {live frz:List Nat} {shs:List Sh} {sho:List ShO} (f:Nat→Zcg U shs→Zaj U sho→Option R)
  {cuts:Nat→List (List Nat×Lp U R)} {exits:List (Nat×Lp U R)} {ret:ZbG U→Option R} (hq:atP (F.c,[]) q=some (.loop body,k)) (h0:∀v w,f 0 v w=none)
  (hs:∀n v w,f (n+1) v w=evl (F.par (cuts n) (some ⟨live,frz,shs,sho,f n⟩) exits ret) N none [.c (5::q) body] (Lp.st F ⟨live,frz,shs,sho,f (n+1)⟩ v w))
  (hc:∀n,ZhO F RT r ⟨live,frz,shs,sho,f n⟩ (.lp body::k)→Zbe F RT r (cuts n)) (he:ZaT F RT r (.lp body::k) exits) (hret:∀t,ret t=some r→t.enc=RT):
  ∀n,ZhO F RT r ⟨live,frz,shs,sho,f n⟩ (ZkJ F q):=by
 have hst:ZkJ F q= .c (.loop body)::k:=by unfold ZkJ;rw[hq]
 rw[hst];have key:∀n,ZhO F RT r ⟨live,frz,shs,sho,f n⟩ (.c body:: .lp body::k):=by
  intro n
  induction n with
  |zero=>intro v w _ h;rw[show (Lp.mk live frz shs sho (f 0)).f v w=f 0 v w from rfl,h0]at h;simp at h
  |succ n ih=>
   intro v w hi h;have h':f (n+1) v w=some r:=h;rw[hs n v w]at h';have hback:ZhO F RT r ⟨live,frz,shs,sho,f n⟩ (.lp body::k):=fun v w hi h=>(ih v w hi h).lp hF
   refine Pt.evl hF N (base:= .lp body::k) hi h' ⟨?_,trivial⟩ (hc n hback) (fun L hL=> ?_) (fun hn=>by simp at hn) he hret
   ·simp only[atP,hq,List.map_nil,List.nil_append]
   ·cases hL;exact hback
 exact fun n v w hi h=>(key n v w hi h).loop hF
inductive ShA where
 |p (t:Ty) |box (t:Ty) |arr (t:Ty) |map (k v:Ty) |ptr (t:Ty) |fn (f:Nat) (a b:List Sh1) |nilp |nilfn |part (t:Ty)
inductive ShR where
 |p (t:Ty) |own (t:Ty) |box (t:Ty) |map (k v:Ty) |view (k:Nat) |aown (n k:Nat) (t:Ty)
abbrev ZhN (U:Zc):Sh1→Type
 | .v t=>El U.car t
 | .pp t=>El U.car t
 |_=>Unit
abbrev ZcG (U:Zc):List Sh1→Type
 | []=>Unit
 |s::r=>ZhN U s×ZcG U r
abbrev ZlS (U:Zc):ShA→Type
 | .p t=>El U.car t
 | .box t=>El U.car t
 | .arr t=>List (El U.car t)
 | .map k v=>List (El U.car k×El U.car v)
 | .ptr t=>El U.car t
 | .fn _ a b=>ZcG U a×ZcG U b
 | .part t=>List (El U.car t)×Nat×Nat
 | .nilp=>Unit
 | .nilfn=>Unit
abbrev ZfX (U:Zc):List ShA→Type
 | []=>Unit
 |s::r=>ZlS U s×ZfX U r
abbrev ZmN (U:Zc):ShR→Type
 | .p t=>El U.car t
 | .own t=>List (El U.car t)
 | .box t=>El U.car t
 | .map k v=>List (El U.car k×El U.car v)
 | .view _=>Nat×Nat
 | .aown n _ _=>U.car n
abbrev ZgX (U:Zc):List ShR→Type
 | []=>Unit
 |s::r=>ZmN U s×ZgX U r
abbrev ZgW (U:Zc):List (Nat×ShA)→Type
 | []=>Unit
 |s::r=>ZlS U s.2×ZgW U r
def ZmF:(s:Sh1)→ZhN U s→TQ U
 | .v t,x=> .l ⟨t,x⟩
 | .pp t,x=> .ptr (U.cellsE t x)
 | .nilp,_=> .nilp
 |_,_=> .nilfn
def ZgO:(l:List Sh1)→ZcG U l→List (TQ U)
 | [],_=>[]
 |s::r,v=>ZmF s v.1::ZgO r v.2
def ZmZ:(s:ShA)→ZlS U s→ZX U
 | .p t,x=> .p (.l ⟨t,x⟩)
 | .box t,x=> .box (U.cellsE t x)
 | .arr t,xs=> .arr t xs
 | .map k v,kv=> .map k v kv
 | .ptr t,x=> .p (.ptr (U.cellsE t x))
 | .fn f a b,x=> .p (.fn f (ZgO a x.1) (ZgO b x.2))
 | .nilp,_=> .p .nilp
 | .nilfn,_=> .p .nilfn
 | .part t,x=> .part t x.1 x.2.1 x.2.2
def Zdn:(l:List ShA)→ZfX U l→List (ZX U)
 | [],_=>[]
 |s::r,v=>ZmZ s v.1::Zdn r v.2
def slAt (t:Ty):Option (Lf U.car)→List (El U.car t)
 |some l=>match l.as (.sl t)with
  |some xs=>xs
  |none=>[]
 |none=>[]
def bldR:(s:ShR)→ZmN U s→TRV U
 | .p t,x=> .p ⟨t,x⟩
 | .own t,xs=> .own t xs
 | .box t,x=> .box (U.cellsE t x)
 | .map k v,kv=> .map k v kv
 | .view k,p=> .view k p.1 p.2
 | .aown n k t,x=> .aown ((U.cells n x).take k) t (slAt t (U.cells n x)[k]?) ((U.cells n x).drop (k+1))
def Zlq:(l:List ShR)→ZgX U l→List (TRV U)
 | [],_=>[]
 |s::r,v=>bldR s v.1::Zlq r v.2
def Zlp:(l:List (Nat×ShA))→ZgW U l→List (Nat×ZX U)
 | [],_=>[]
 |s::r,v=>(s.1,ZmZ s.2 v.1)::Zlp r v.2
def Zmn:(s:Sh1)→TQ U→Option (ZhN U s)
 | .v t,.l x=>x.as t
 | .pp t,.ptr cs=>U.ofE t cs
 | .nilp,.nilp=>some ()
 | .nilfn,.nilfn=>some ()
 |_,_=>none
def ZdV:(l:List Sh1)→List (TQ U)→Option (ZcG U l)
 | [],[]=>some ()
 |s::r,d::ds=>match Zmn s d,ZdV r ds with
  |some x,some y=>some (x,y)
  |_,_=>none
 |_,_=>none
def matA:(s:ShA)→ZX U→Option (ZlS U s)
 | .p t,.p (.l x)=>x.as t
 | .box t,.box cs=>U.ofE t cs
 | .arr t,.arr t' xs=>if h:t'=t then some (h▸xs)else none
 | .map k v,.map k' v' kv=>if h:k'=k then if h':v'=v then some (h▸h'▸kv)else none else none
 | .ptr t,.p (.ptr cs)=>U.ofE t cs
 | .fn f a b,.p (.fn f' x y)=>if f'=f then match ZdV a x,ZdV b y with
  |some p,some q=>some (p,q)
  |_,_=>none
  else none
 | .nilp,.p .nilp=>some ()
 | .nilfn,.p .nilfn=>some ()
 | .part t,.part t' xs off len=>if h:t'=t then some (h▸xs,off,len)else none
 |_,_=>none
def ZiS:(l:List ShA)→List (ZX U)→Option (ZfX U l)
 | [],[]=>some ()
 |s::r,d::ds=>match matA s d,ZiS r ds with
  |some x,some y=>some (x,y)
  |_,_=>none
 |_,_=>none
def matR:(s:ShR)→TRV U→Option (ZmN U s)
 | .p t,.p x=>x.as t
 | .own t,.own t' xs=>if h:t'=t then some (h▸xs)else none
 | .box t,.box cs=>U.ofE t cs
 | .map k v,.map k' v' kv=>if h:k'=k then if h':v'=v then some (h▸h'▸kv)else none else none
 | .view k,.view k' o l=>if k'=k then some (o,l)else none
 | .aown n k t,.aown pre t' xs post=>if t'=t∧pre.length=k then U.of n (pre++⟨.sl t',xs⟩::post)else none
 |_,_=>none
def ZiQ:(l:List ShR)→List (TRV U)→Option (ZgX U l)
 | [],[]=>some ()
 |s::r,d::ds=>match matR s d,ZiQ r ds with
  |some x,some y=>some (x,y)
  |_,_=>none
 |_,_=>none
def ZiP:(l:List (Nat×ShA))→List (Nat×ZX U)→Option (ZgW U l)
 | [],[]=>some ()
 |s::r,d::ds=>if d.1=s.1 then match matA s.2 d.2,ZiP r ds with
  |some x,some y=>some (x,y)
  |_,_=>none
  else none
 |_,_=>none
theorem Zj2 (hU:UOk U) {s:Sh1} {d:TQ U} {x:ZhN U s} (h:Zmn s d=some x):d=ZmF s x:=by
 unfold Zmn at h;split at h
 ·rw[ZS h];rfl
 ·rw[ZmF,ZaI hU h]
 ·rfl
 ·rfl
 ·simp at h
theorem Zb8 (hU:UOk U):∀{l:List Sh1} {ds:List (TQ U)} {x:ZcG U l},ZdV l ds=some x→ds=ZgO l x
 | [],[],x,h=>rfl
 | [],_::_,x,h=>by simp[ZdV]at h
 |_::_,[],x,h=>by simp[ZdV]at h
 |s::r,d::ds,x,h=>by simp only[ZdV]at h;split at h;rotate_left;simp at h;rename_i a b h1 h2;cases h;rw[ZgO,←Zj2 hU h1,←Zb8 hU h2]
theorem Zh6 (hU:UOk U) {s:ShA} {d:ZX U} {x:ZlS U s} (h:matA s d=some x):d=ZmZ s x:=by
 unfold matA at h;split at h
 ·rw[ZS h];rfl
 ·rw[ZmZ,ZaI hU h]
 ·split at h;rotate_left;simp at h;rename_i he;subst he;cases h;rfl
 ·split at h;rotate_left;simp at h;rename_i he;subst he;split at h;rotate_left;simp at h;rename_i hf;subst hf;cases h;rfl
 ·rw[ZmZ,ZaI hU h]
 ·split at h;rotate_left;simp at h;rename_i he;subst he;split at h;rotate_left;simp at h;rename_i p q h1 h2;cases h;rw[ZmZ,Zb8 hU h1,Zb8 hU h2]
 ·rfl
 ·rfl
 ·split at h;rotate_left;simp at h;rename_i he;subst he;cases h;rfl
 ·simp at h
theorem ZeX (hU:UOk U):∀{l:List ShA} {ds:List (ZX U)} {x:ZfX U l},ZiS l ds=some x→ds=Zdn l x
 | [],[],x,h=>rfl
 | [],_::_,x,h=>by simp[ZiS]at h
 |_::_,[],x,h=>by simp[ZiS]at h
 |s::r,d::ds,x,h=>by simp only[ZiS]at h;split at h;rotate_left;simp at h;rename_i a b h1 h2;cases h;rw[Zdn,←Zh6 hU h1,←ZeX hU h2]
theorem Zlb (hU:UOk U) {s:ShR} {d:TRV U} {x:ZmN U s} (h:matR s d=some x):d=bldR s x:=by
 unfold matR at h;split at h
 ·rw[ZS h];rfl
 ·split at h;rotate_left;simp at h;rename_i he;subst he;cases h;rfl
 ·rw[bldR,ZaI hU h]
 ·split at h;rotate_left;simp at h;rename_i he;subst he;split at h;rotate_left;simp at h;rename_i hf;subst hf;cases h;rfl
 ·split at h;rotate_left;simp at h;rename_i he;subst he;cases h;rfl
 ·split at h;rotate_left;simp at h;rename_i he;obtain⟨rfl,rfl⟩:=he;rename_i n pre t xs post;have hc:=hU.of_cells _ _ _ h;show TRV.aown pre t xs post=TRV.aown ((U.cells n x).take pre.length) t (slAt t (U.cells n x)[pre.length]?) ((U.cells n x).drop (pre.length+1));rw[hc];have e:slAt (U:=U) t (pre++⟨.sl t,xs⟩::post)[pre.length]? =xs:=by rw[ZnJ (Znq _),Nat.sub_self,Znc];simp[slAt,Lf.as]
  rw[e,List.take_left' rfl,List.drop_append,List.drop_of_length_le (by omega)];simp
 ·simp at h
theorem ZeV (hU:UOk U):∀{l:List ShR} {ds:List (TRV U)} {x:ZgX U l},ZiQ l ds=some x→ds=Zlq l x
 | [],[],x,h=>rfl
 | [],_::_,x,h=>by simp[ZiQ]at h
 |_::_,[],x,h=>by simp[ZiQ]at h
 |s::r,d::ds,x,h=>by simp only[ZiQ]at h;split at h;rotate_left;simp at h;rename_i a b h1 h2;cases h;rw[Zlq,←Zlb hU h1,←ZeV hU h2]
theorem ZeU (hU:UOk U):∀{l:List (Nat×ShA)} {ds:List (Nat×ZX U)} {x:ZgW U l},ZiP l ds=some x→ds=Zlp l x
 | [],[],x,h=>rfl
 | [],_::_,x,h=>by simp[ZiP]at h
 |_::_,[],x,h=>by simp[ZiP]at h
 |s::r,d::ds,x,h=>by simp only[ZiP]at h;split at h;rotate_left;simp at h;rename_i he;split at h;rotate_left;simp at h;rename_i a b h1 h2;cases h;rw[Zlp,←Zh6 hU h1,←ZeU hU h2,←he]
structure RSh where
 rs:List ShR
 os:List (Nat×ShA)
abbrev Zlw (U:Zc) (S:RSh):Type:=ZgX U S.rs×ZgW U S.os
def RSh.bld (S:RSh) (v:Zlw U S):ZbG U:=⟨Zlq S.rs v.1,Zlp S.os v.2⟩
def RSh.mat (S:RSh) (t:ZbG U):Option (Zlw U S):=match ZiQ S.rs t.res,ZiP S.os t.outs with
 |some x,some y=>some (x,y)
 |_,_=>none
def Zez {ρ:Type} (S:RSh) (g:Zlw U S→ρ) (t:ZbG U):Option ρ:=match S.mat t with
 |some v=>some (g v)
 |none=>none
theorem Zgf (hU:UOk U) {ρ:Type} {S:RSh} {g:Zlw U S→ρ} {give:ρ→ZbG U} (hg:∀v,give (g v)=S.bld v) {t:ZbG U} {r:ρ} (h:Zez S g t=some r):t.enc=(give r).enc:=by unfold Zez at h;split at h;rotate_left;simp at h;rename_i v hv;cases h;unfold RSh.mat at hv;split at hv;rotate_left;simp at hv;rename_i x y hx hy;cases hv;rw[hg];obtain⟨a,b⟩:=t;simp only at hx hy;rw[ZeV hU hx,ZeU hU hy];rfl
def ZX.d (k:Nat):ZX U→TV U
 | .p q=>q.tv
 | .box _=> .ptr (0,k,0) 0 0
 | .arr _ xs=> .full (0,k,0) xs.length
 | .map _ _ _=> .map (0,k,0)
 | .part _ _ off len=> .sl (0,k,0) off len
def ZcC:Nat→List (ZX U)→List (Nat×TV U)
 |_,[]=>[]
 |k,a::r=>(k,a.d k)::ZcC (k+1) r
def ZbE:Nat→List (ZX U)→List (Id×TO U)
 |_,[]=>[]
 |k,a::r=>match a.o with
  |some o=>((0,k,0),o)::ZbE (k+1) r
  |none=>ZbE (k+1) r
def ZkC (args:List (ZX U)):TS U:=mkT 1 (ZcC 0 args) (ZbE 0 args)
theorem Zfi:∀(k:Nat) (as:List (ZX U)) (x:Nat),(Zat TV.dead (ZcC k as) x).enc=Zat D.dead (Zc5 k (as.map ZX.enc)) x
 |k,[],x=>rfl
 |k,a::r,x=>by
  simp only[ZcC,Znh,Zc5,Zat];split
  ·cases a with
   |p q=>exact(Zjx q).1
   |box cs=>rfl
   |arr t xs=>simp only[ZX.d,TV.enc,ZX.enc,Arg.d,Zn6]
   |map a b kv=>rfl
   |part t xs off len=>rfl
  ·exact Zfi (k+1) r x
theorem Zc4:∀(k:Nat) (as:List (ZX U)) (x:Id),ZiL (Zg (ZbE k as) x)=Zg (Zce k (as.map ZX.enc)) x
 |k,[],x=>rfl
 |k,a::r,x=>by
  simp only[ZbE,Znh,Zce];have:=Ziw a;cases ha:a.o with
  |none=>rw[ha]at this;rw[←this];exact Zc4 (k+1) r x
  |some o=>
   rw[ha]at this;rw[←this];simp only[Zg,show ZiL (some o)=some o.enc from rfl]
   by_cases hx:x=(0,k,0)
   ·rw[if_pos hx,if_pos hx];rfl
   ·rw[if_neg hx,if_neg hx];exact Zc4 (k+1) r x
theorem ZkB (as:List (ZX U)):(ZkC as).enc=Zep (as.map ZX.enc):=by
 refine ZeL ?_ ?_ rfl rfl
 ·funext x;exact Zfi 0 as x
 ·funext x;exact Zc4 0 as x
theorem Zfh:∀(n:Nat) (l:List (ZX U)) (k:Nat) (d:TV U),(k,d)∈ZcC n l→∃j x,l[j]? =some x∧k=n+j∧d=x.d (n+j)
 |n,[],k,d,h=>by simp[ZcC]at h
 |n,x::r,k,d,h=>by
  simp only[ZcC,Znj,Znw]at h;rcases h with ⟨rfl,rfl⟩ |h
  ·exact⟨0,x,rfl,by simp,by simp⟩
  ·obtain⟨j,y,h1,h2,h3⟩:=Zfh (n+1) r k d h;exact⟨j+1,y,by simpa using h1,by omega,by rw[h3];congr 1;omega⟩
theorem Zff:∀(n:Nat) (l:List (ZX U)) (j:Nat) (x:ZX U) (o:TO U),l[j]? =some x→x.o=some o→Zg (ZbE n l) (0,n+j,0)=some o
 |n,[],j,x,o,h,_=>by simp at h
 |n,y::r,j,x,o,h,ho=>by
  cases j with
  |zero=>
   simp only[Znc,Znv]at h;subst h;simp only[ZbE,ho,Zg,Nat.add_zero,if_true]
  |succ j=>
   have:=Zff (n+1) r j x o (by simpa using h) ho;rw[show n+1+j=n+(j+1) by omega]at this;simp only[ZbE];split
   ·simp only[Zg];rw[if_neg (by simp only[Znw,true_and,and_true];omega)];exact this
   ·exact this
theorem Zc3:∀(n:Nat) (l:List (ZX U)) (id:Id) (o:TO U),(id,o)∈ZbE n l→∃x∈l,x.o=some o
 |n,[],id,o,h=>by simp[ZbE]at h
 |n,x::r,id,o,h=>by
  simp only[ZbE]at h;split at h
  ·rename_i o' ho;rcases Znj.1 h with h |h
   ·simp only[Znw]at h;exact⟨x,by simp,by rw[ho,h.2]⟩
   ·obtain⟨y,h1,h2⟩:=Zc3 (n+1) r id o h;exact⟨y,by simp[h1],h2⟩
  ·obtain⟨y,h1,h2⟩:=Zc3 (n+1) r id o h;exact⟨y,by simp[h1],h2⟩
theorem ZgS (as:List (ZX U)):(ZkC as).Inv:=by
 constructor
 ·intro k;show TV.inv _ (Zat TV.dead (ZcC 0 as) k);rcases ZaM TV.dead (ZcC 0 as) k with hq |hq
  ·rw[hq];exact Zf rfl
  ·obtain⟨j,x,h1,h2,h3⟩:=Zfh 0 as k _ hq;rw[h3];cases x with
   |p q=>exact Zf (Zjx q).2
   |box cs=>exact Zf rfl
   |map a b kv=>exact Zf rfl
   |part t xs off len=>exact Zf rfl
   |arr t xs=>
    intro q hq;simp only[ZX.d,TV.fulls,Znm]at hq;subst hq;exact⟨.arr t xs false,Zff 0 as j _ _ h1 rfl,fun n' he=>by cases he;rfl⟩
 ·intro id o ho;obtain⟨x,_,hx⟩:=Zc3 0 as id o (ZR ho);cases x<;>simp only[ZX.o,Znv,reduceCtorEq]at hx<;>subst hx
  ·intro d hd;obtain⟨l,_,rfl⟩:=ZnT.1 hd;exact Zag _ _
  ·trivial
  ·trivial
  ·trivial
theorem ZgD {X0:ZF U} {F:FC U} {f:Nat} {args:List (ZX U)} {RT:Ret} (hX:F.X=X0.at F.fn.ntmps) (hf:X0.prog.funcs[f]? =some F.fn) (hn:(F.fn.name == "runtime.NumGoroutine")=false) (hb:F.fn.body=some F.c) (hl:args.length≤F.fn.ntmps)
  (h:Pt F RT [.c F.c] (ZkC args)):Fun X0.E f (args.map ZX.enc) RT:=by
 refine ZiX (E:=X0.E) hf hn hb (by rw[Zn6];exact hl) fun W Lt S0 lays=> ?_
 have:=h W Lt S0 lays;rw[ZkB,hX]at this;exact this
structure ZkI (U:Zc) where
 ρ:Type
 pts:List Nat
 ms:List AM
 hs:List (Option Nat)
 as:List ShA
 s:ZfX U as→Option ρ
 give:ρ→ZbG U
def ZkI.sig (S:ZkI U):Zjt U:=⟨S.pts,S.ms,S.hs,fun args=>match ZiS S.as args with
 |some v=>some ⟨S.ρ,S.s v,S.give⟩
 |none=>none⟩
theorem ZkI.ok {S:ZkI U} (hU:UOk U) {E:Env} {f:Nat} (h:∀v r,S.s v=some r→Fun E f ((Zdn S.as v).map ZX.enc) (S.give r).enc∧Zev (Zdn S.as v) (S.give r)):Zeu E f S.sig:=by intro args s hs a ha;simp only[ZkI.sig]at hs;split at hs;rotate_left;simp at hs;rename_i v hv;cases hs;rw[ZeX hU hv];exact h v a ha
theorem ZdK {args:List (ZX U)} {ret:ZbG U} (h:ret.outs.all (fun x=>x.2.len?.isNone)=true):Zev args ret:=by intro k a n hm ha;have:=ZnD.1 h _ hm;dsimp only at this;rw[ha]at this;simp at this
end
end Eng
namespace Eng
open Go
section
variable {U:Zc}
def ttZ (o:Option (TT U)):Option (List D×List D×Option P×Option P):=match o with
 |some e=>some (TV.encs e.zero,e.ti.zero.map Z.toD,(match e.zl with |some l=>some (U.encL l) |none=>none),(match e.zl with |some _=>some e.ti.zeroP |none=>none))
 |none=>none
def ttZ' (o:Option (TT U)):Option (List D×List D×Option P×Option P):=match o with
 |some e=>some (e.ti.zero.map Z.toD,e.ti.zero.map Z.toD,(match e.zl with |some _=>some e.ti.zeroP |none=>none),(match e.zl with |some _=>some e.ti.zeroP |none=>none))
 |none=>none
def TV.plain:TV U→Bool
 | .v _ _ | .nilp | .nilfn | .nils _=>true
 |_=>false
def ttB (U:Zc) (o:Option (TT U)):Bool:=match o with
 |some e=>(e.ti.isAgg == e.n.isSome)&&(match e.n with |some n=>decide (e.ti.size=U.size n) |none=>true)&&e.zero.all TV.plain
 |none=>true
def ttK (X:ZF U):Nat→List (Option (TT U))→List (TD×TD)
 |_,[]=>[]
 |t,some e::r=>(match e.ty with | .map k _=>(X.E.keyTD t,k.td) |_=>(.other,.other))::ttK X (t+1) r
 |t,none::r=>(.other,.other)::ttK X (t+1) r
def ZlY:List (Option (TT U))→List (TD×TD)
 | []=>[]
 |some e::r=>(match e.ty with | .map k _=>(k.td,k.td) |_=>(.other,.other))::ZlY r
 |none::r=>(.other,.other)::ZlY r
theorem Zjy (X:ZF U):∀(l:List (Option (TT U))) (t0:Nat),ttK X t0 l=ZlY l→∀t e k v,l[t]? =some (some e)→e.ty= .map k v→X.E.keyTD (t0+t)=k.td
 | [],t0,_,t,e,k,v,h,_=>by simp at h
 |o::r,t0,h,t,e,k,v,ht,hty=>by
  cases t with
  |zero=>
   simp only[Znc,Znv]at ht;subst ht;simp only[ttK,ZlY,hty,Zof,Znw]at h;exact h.1.1
  |succ t=>
   have h':ttK X (t0+1) r=ZlY r:=by cases o<;>simp only[ttK,ZlY,Zof]at h<;>exact h.2
   have:=Zjy X r (t0+1) h' t e k v (by simpa using ht) hty;rw[show t0+(t+1)=t0+1+t by omega];exact this
def Zlx (U:Zc) (l:List OwnT):Prop:=∀q∈l,q.c < U.size q.n∧∀x:U.car q.n,∃l,(U.cells q.n x)[q.c]? =some ⟨.sl q.u,l⟩
theorem own0:Zlx U []:=fun _ h=>nomatch h
theorem own1 {t n c:Nat} {u:Ty} {l:List OwnT} (h1:c < U.size n) (f:U.car n→List (El U.car u)) (h2:∀x:U.car n,(U.cells n x)[c]? =some ⟨.sl u,f x⟩) (h:Zlx U l):Zlx U (⟨t,n,c,u⟩::l):=fun q hq=>by
 rcases Znj.1 hq with rfl |hq
 ·exact⟨h1,fun x=>⟨_,h2 x⟩⟩
 ·exact h q hq
theorem tok_of {X:ZF U} (hz:X.tt.map ttZ=X.tt.map ttZ') (hb:X.tt.all (ttB U)=true) (hk:ttK X 0 X.tt=ZlY X.tt) (hw:Zlx U X.owns):TOk X:=by
 have get:∀{t e},X.get t=some e→X.tt[t]? =some (some e):=fun {t e} h=>by unfold ZF.get at h;split at h;rotate_left;simp at h;rename_i e' he;cases h;exact he
 have zz:∀{t e},X.get t=some e→ttZ (some e)=ttZ' (some e):=fun {t e} h=>by have h1:=congrArg (·[t]?) hz;simpa[Znf,get h]using h1
 have bb:∀{t e},X.get t=some e→ttB U (some e)=true:=fun {t e} h=>ZnD.1 hb _ (List.mem_of_getElem? (get h))
 refine⟨fun t e h=> ?_,fun t e l h hl=> ?_,fun t e h=> ?_,fun t e n h hn=> ?_,fun t e k v h hty=> ?_,fun t e h d hd=> ?_,hw⟩
 ·have:=zz h;simp only[ttZ,ttZ',Znv,Znw]at this;exact this.1
 ·have:=zz h;simp only[ttZ,ttZ',Znv,Znw,hl]at this;exact this.2.2.1
 ·have:=bb h;simp only[ttB,Zm8,beq_iff_eq]at this;exact this.1.1
 ·have:=bb h;simp only[ttB,Zm8,hn,decide_eq_true_eq]at this;exact this.1.2
 ·have:=Zjy X X.tt 0 hk t e k v (get h) hty;rw[Nat.zero_add]at this;exact this
 ·have:=bb h;simp only[ttB,Zm8,ZnD]at this;have:=this.2 d hd;unfold TV.plain at this;split at this<;>first |rfl |simp at this
theorem TOk.at {X:ZF U} (h:TOk X) (n:Nat):TOk (X.at n):=⟨h.zero,h.zl,h.agg,h.size,h.key,h.inv,h.own⟩
theorem Zn.at {X:ZF U} (h:Zn X.E) (n:Nat):Zn (X.at n).E:=⟨h.tys⟩
theorem Zeu.at {X:ZF U} {g:Nat} {sg:Zjt U} (h:Zeu X.E g sg) (n:Nat):Zeu (X.at n).E g sg:=h
def Zc9 (X:ZF U):List (Nat×Zjt U)→Prop
 | []=>True
 |x::r=>Zeu X.E x.1 x.2∧Zc9 X r
theorem Zet {X:ZF U}:∀{l:List (Nat×Zjt U)},Zc9 X l→∀x∈l,Zeu X.E x.1 x.2
 | [],_,x,h=>by simp at h
 |y::r,ha,x,h=>by
  rcases Znj.1 h with rfl |h
  ·exact ha.1
  ·exact Zet ha.2 x h
theorem fok {X0:ZF U} {F:FC U} (hU:UOk U) (hX:TOk X0) (hE:Zn X0.E) (hm:X0.prog.follows .mixedOrders=true) (hF:F.X=X0.at F.fn.ntmps) (hs:Zc9 X0 F.sigs):FOk F:=by
 refine⟨hU, ?_, ?_, ?_, ?_⟩
 ·rw[hF];exact hX.at _
 ·rw[hF];exact hE.at _
 ·rw[hF];exact hm
 ·intro x hx;rw[hF];exact(Zet hs x hx).at _
def Zdh (F:FC U) (p:List Nat):Code:=match atP (F.c,[]) p with |some x=>x.1 |none=> .skip
def tc (F:FC U) (p:List Nat):TI':= .c p (Zdh F p)
def tc0 (F:FC U):TI':= .c [] F.c
theorem retOut {ρ β:Type} {S:RSh} {g:Zlw U S→ρ} {t:ZbG U} {x:Out β ρ} (h:Zez S (fun v=>Out.ret (β:=β) (g v)) t=some x):∃q,x= .ret q∧Zez S g t=some q:=by
 unfold Zez at h⊢
 split at h;rotate_left;simp at h;rename_i v hv;simp only[Znv]at h;exact⟨g v,h.symm,rfl⟩
end
theorem as_car {car:Nat→Type} {l:Lf car} {t:Ty} {x:El car t} (h:l.as t=some x):l=⟨t,x⟩:=by unfold Lf.as at h;split at h;rotate_left;simp at h;rename_i he;obtain⟨t',y⟩:=l;dsimp only at he;subst he;cases h;rfl
theorem ZmL {car:Nat→Type} {t:Ty}:∀{cs:List (Lf car)} {l:List (El car t)},Zj (fun c=>c.as t) cs=some l→cs=l.map fun y=>⟨t,y⟩
 | [],l,h=>by simp only[Zj,Znv]at h;subst h;rfl
 |c::cs,l,h=>by simp only[Zj]at h;split at h;rotate_left;simp at h;rename_i y ys h1 h2;cases h;rw[Znh,←ZmL h2,as_car h1]
def andK (k:IntKind) (x y:Int):Int:=k.wrap (BitVec.ofInt k.bits x&&& BitVec.ofInt k.bits y).toNat
def orK (k:IntKind) (x y:Int):Int:=k.wrap (BitVec.ofInt k.bits x|||BitVec.ofInt k.bits y).toNat
def xorK (k:IntKind) (x y:Int):Int:=k.wrap (BitVec.ofInt k.bits x ^^^ BitVec.ofInt k.bits y).toNat
def andNotK (k:IntKind) (x y:Int):Int:=k.wrap (BitVec.ofInt k.bits x&&& ~~~BitVec.ofInt k.bits y).toNat
def shlK (k:IntKind) (x y:Int):Int:=k.wrap (x*2 ^ (min y.toNat k.bits))
def shrK (k:IntKind) (x y:Int):Int:=x.fdiv (2 ^ (min y.toNat k.bits))
def mkOk (a b:Int) (n:Nat):Bool:=decide (0≤a∧a≤b∧b*n≤ZC∧b≤ZC)
def inR (n m:Int):Bool:=decide (0≤n∧n < m)
end Eng
namespace Eng
open Go Go.RowKit
theorem Zju.of_below {w w':World} (h:Below w.heap.size w w'):Zju w w':=⟨⟨h.os,h.output⟩,h.size,fun b hb=>h.block b hb⟩
theorem Zju.rfl' (w:World):Zju w w:=⟨.refl _,Znq _,fun _ _=>rfl⟩
theorem Zfg:∀(n:Nat) (xs:List P) (k:Nat) (x:P),xs[k]? =some x→Zat D.dead (Zc5 n (xs.map Arg.p)) (n+k)= .p x
 |n,[],k,x,h=>by simp at h
 |n,y::r,0,x,h=>by simp only[Znc,Znv]at h;subst h;simp[Zc5,Zat,Arg.d]
 |n,y::r,k+1,x,h=>by simp only[List.getElem?_cons_succ]at h;have:=Zfg (n+1) r k x h;rw[Nat.add_right_comm,Nat.add_assoc]at this;simp only[Znh,Zc5,Zat];rw[if_neg (by omega)];exact this
theorem Ziv {xs:List P} {k:Nat} {x:P} (h:xs[k]? =some x):(Zep (xs.map Arg.p)).slots k= .p x:=by
 have:=Zfg 0 xs k x h
 rwa [Nat.zero_add]at this
theorem ZlK {E:Env} {f:Nat} {xs:List P} {y:P} (hf:∃fn,E.prog.funcs[f]? =some fn∧(fn.name == "runtime.NumGoroutine")=false∧fn.body.isNone=false)
  (h:∀(w:World) (S:Nat→Prop) (vals:Array Value),vals.size=xs.length→(∀(k:Nat) v x,vals[k]? =some v→xs[k]? =some x→RelP w S v x)→
   (∀g cs,(g,cs)∈E.globs→Zex w S g cs)→
   CallsIn (Zct none) 0 E.prog f vals w fun e w'=>∃v,e= .returned v∧Zju w w'∧RelP w' S v y):Fun E f (xs.map .p) ⟨[.p y],[]⟩:=by
 refine .inl ⟨hf,fun w Lt S lays ρ vals hv hrep=> ?_⟩;rw[Zn6]at hv;refine CallsIn.mono (h w S vals hv ?_ hrep.glob) ?_
 ·intro k v x hk hx;have h1:=hrep.slots k;have e1:(Zep (xs.map Arg.p)).slots k= .p x:=Ziv hx;rw[e1]at h1;have hlt:=(Zm4.1 hk).1;rw[show vals.getD k undef=v by simp[hk]]at h1;exact h1.of_p
 ·rintro e w' ⟨v,rfl,hk,hr⟩;have hK:ZbQ S w w':=fun b _ hb=>hk.2.2 b hb
  refine⟨#[v],fun _=>none,S,rfl,rfl, ?_⟩;have ho:∀id,(Zcl ⟨[.p y],[]⟩).objs id=none:=fun id=>rfl
  exact {
   nt:=rfl
   grow:=hk.2.1
   frame:=fun b hb _=>hk.2.2 b hb
   s0:=fun _ h=>h
   sIn:=fun b hb=>Nat.lt_of_lt_of_le (hrep.sIn b hb) hk.2.1
   slots:=fun k=>by
    cases k with
    |zero=>exact .p _ _ hr
    |succ k=>exact .dead _
   objs:=fun id o h=>by rw[ho id]at h;cases h
   own:=fun id o L b h=>by rw[ho id]at h;cases h
   inj:=fun id o L id' o' L' b h=>by rw[ho id]at h;cases h
   known:=fun id h=>absurd (ho id) h
   young:=fun id h=>absurd rfl h
   fzk:=fun id h=>by cases h
   glob:=fun g cs hg=>(hrep.glob g cs hg).mono hK fun _ h=>h
   sOut:=fun b h=> .inl h
   ep1:=by show 1≤2;omega
   quiet:=hk.1
   lay:=fun k L h1 h2=>absurd rfl h2
   fam:=Fam.none fun id o h=>by rw[ho id]at h;cases h}
theorem Zmv {E:Env} {f:Nat} {xs:List P} {y z:P} (hf:∃fn,E.prog.funcs[f]? =some fn∧fn.body.isNone=true)
  (h:∀(w:World) (S:Nat→Prop) (vals:Array Value),vals.size=xs.length→(∀(k:Nat) v x,vals[k]? =some v→xs[k]? =some x→RelP w S v x)→
   ∃v u,(callFunc f vals).run E.prog w= .ok (.value (.tuple #[v,u])) w∧RelP w S v y∧RelP w S u z):Fun E f (xs.map .p) ⟨[.p y,.p z],[]⟩:=by
 refine .inr ⟨hf,fun w Lt S lays ρ vals hv hrep=> ?_⟩;rw[Zn6]at hv;obtain⟨v,u,hrun,hr,hr2⟩:=h w S vals hv (by
  intro k v x hk hx;have h1:=hrep.slots k;have e1:(Zep (xs.map Arg.p)).slots k= .p x:=Ziv hx;rw[e1]at h1;have hlt:=(Zm4.1 hk).1;rw[show vals.getD k undef=v by simp[hk]]at h1;exact h1.of_p)
 refine⟨#[v,u],fun _=>none,S,w,hrun,rfl, ?_⟩;have ho:∀id,(Zcl ⟨[.p y,.p z],[]⟩).objs id=none:=fun id=>rfl
 exact {
  nt:=rfl
  grow:=Znq _
  frame:=fun b hb _=>rfl
  s0:=fun _ h=>h
  sIn:=hrep.sIn
  slots:=fun k=>by
   match k with
   |0=>exact .p _ _ hr
   |1=>exact .p _ _ hr2
   |k+2=>exact .dead _
  objs:=fun id o h=>by rw[ho id]at h;cases h
  own:=fun id o L b h=>by rw[ho id]at h;cases h
  inj:=fun id o L id' o' L' b h=>by rw[ho id]at h;cases h
  known:=fun id h=>absurd (ho id) h
  young:=fun id h=>absurd rfl h
  fzk:=fun id h=>by cases h
  glob:=hrep.glob
  sOut:=fun b h=> .inl h
  ep1:=by show 1≤2;omega
  quiet:= .refl _
  lay:=fun k L h1 h2=>absurd rfl h2
  fam:=Fam.none fun id o h=>by rw[ho id]at h;cases h}
def Zh4 {U:Zc} (args:List (ZX U)) (ret:ZbG U):Bool:=ret.outs.all fun x=>match x.2.len? with
 |some n=>(match args[x.1]? with
  |some a=>(match a.len? with
   |some m=>decide (n=m)
   |none=>false)
  |none=>false)
 |none=>true
theorem ZiK {U:Zc} {args:List (ZX U)} {ret:ZbG U} (h:Zh4 args ret=true):Zev args ret:=by intro k a n hm ha;have:=ZnD.1 h _ hm;dsimp only at this;rw[ha]at this;dsimp only at this;split at this;rotate_left;simp at this;rename_i a' he;split at this;rotate_left;simp at this;rename_i m hm';exact⟨a',he,by rw[hm',of_decide_eq_true this]⟩
theorem chkLen {α:Type} {o:Option α} {p:α→Bool} {r:α} (h:(o.bind fun r=>chk (p r) (some r))=some r):o=some r∧p r=true:=by
 cases o with
 |none=>simp at h
 |some x=>
  simp only[Option.bind_some]at h;unfold chk at h;cases hp:p x with
  |false=>rw[hp]at h;simp at h
  |true=>rw[hp]at h;simp only[cond_true,Znv]at h;subst h;exact⟨rfl,hp⟩
section
variable {U:Zc}
theorem Pt.ev0 {F:FC U} (hF:FOk F) {ρ:Type} {r:ρ} {S:RSh} {g:Zlw U S→ρ} {b:ρ→ZbG U} {cuts:List (List Nat×Lp U ρ)} {pre:List TI'} {T:TS U} {k:List Item}
  (hk:k=pre.map TI'.conc++[]) (hT:T.Inv) (h:Eng.evl (F.par cuts none [] (Zez S g)) 4000 none pre T=some r) (hw:Wf (F.c,[]) [] pre) (hc:Zbe F (b r).enc r cuts) (hg:∀v,b (g v)=S.bld v):Pt F (b r).enc k T:=
 Pt.evlAt hF 4000 hk hT h hw hc (fun _ hL=>nomatch hL) (fun _=>rfl) trivial (fun _ ht=>Zgf hF.hU hg ht)
theorem ZkI.ok0 {X0:ZF U} {F:FC U} (hF:FOk F) {S:ZkI U} {f:Nat} {R:RSh} {g:Zlw U R→S.ρ} {cuts:List (List Nat×Lp U S.ρ)} {pre:List TI'} (hX:F.X=X0.at F.fn.ntmps) (hf:X0.prog.funcs[f]? =some F.fn) (hn:(F.fn.name == "runtime.NumGoroutine")=false) (hb:F.fn.body=some F.c)
  (hl:∀v:ZfX U S.as,(Zdn S.as v).length≤F.fn.ntmps) (hg:∀v,S.give (g v)=R.bld v) (hk:[.c F.c]=pre.map TI'.conc++[]) (h:∀v r,S.s v=some r→Eng.evl (F.par cuts none [] (Zez R g)) 4000 none pre (ZkC (Zdn S.as v))=some r)
  (hw:Wf (F.c,[]) [] pre) (hc:∀r,Zbe F (S.give r).enc r cuts) (ho:∀r,(S.give r).outs.all (fun x=>x.2.len?.isNone)=true):Zeu X0.E f S.sig:=
 ZkI.ok hF.hU fun v r hr=>⟨ZgD hX hf hn hb (hl v) (Pt.ev0 hF (b:=S.give) hk (ZgS _) (h v r hr) hw (hc r) hg),ZdK (ho r)⟩
end
end Eng
namespace Eng
open Go
abbrev HL:List Type→Type
 | []=>Unit
 |a::r=>a×HL r
abbrev HT:List Type→Type
 | []=>Unit
 | [a]=>a
 |a::b::r=>a×HT (b::r)
abbrev Zjo:List Type→Type→Type
 | [],X=>X
 |a::r,X=>a→Zjo r X
abbrev app {X:Type}:(ts:List Type)→Zjo ts X→HL ts→X
 | [],f,_=>f
 |_::r,f,v=>app r (f v.1) v.2
abbrev ZlZ:(ts:List Type)→HL ts→HT ts
 | [],_=>()
 | [_],v=>v.1
 |_::b::r,v=>(v.1,ZlZ (b::r) v.2)
abbrev Zmh:(ts:List Type)→HT ts→HL ts
 | [],_=>()
 | [_],x=>(x,())
 |_::b::r,x=>(x.1,Zmh (b::r) x.2)
theorem Zcn:∀(ts:List Type) (v:HL ts),Zmh ts (ZlZ ts v)=v
 | [],_=>rfl
 | [_],_=>rfl
 |_::b::r,v=>by show (v.1,Zmh (b::r) (ZlZ (b::r) v.2))=v;rw[Zcn (b::r) v.2]
abbrev unT {X:Type} (ts:List Type) (f:Zjo ts X) (x:HT ts):X:=app ts f (Zmh ts x)
section
variable (U:Zc)
abbrev lv1:Sh1→List Type→List Type
 | .v t,r=>El U.car t::r
 | .pp t,r=>El U.car t::r
 | .full _,r=>r
 | .sl _,r=>Nat::Nat::r
 | .ptr _ _ _,r=>r
 | .ptrI _ _,r=>Nat::r
 | .map _,r=>r
 | .it _,r=>r
 | .nilp,r=>r
 | .nilfn,r=>r
 | .undef,r=>r
 | .nils _,r=>r
 | .clip t,r=>List (El U.car t)::r
abbrev lvs1:List Sh1→List Type→List Type
 | [],r=>r
 |s::l,r=>lv1 U s (lvs1 l r)
abbrev lvS:Sh→List Type→List Type
 | .o s,r=>lv1 U s r
 | .agg l,r=>lvs1 U l r
 | .fn _ a b,r=>lvs1 U a (lvs1 U b r)
abbrev lvs:List Sh→List Type→List Type
 | [],r=>r
 |s::l,r=>lvS U s (lvs l r)
abbrev lvO:ShO→List Type→List Type
 | .box l,r=>lvs U l r
 | .boxS t,r=>El U.car t::r
 | .arr t _,r=>List (El U.car t)::r
 | .map k v,r=>List (El U.car k×El U.car v)::r
 | .sit,r=>List UInt8::Nat::r
 | .mit k v,r=>List (El U.car k×El U.car v)::Option (El U.car k×El U.car v)::r
 | .own t _ _,r=>List (El U.car t)::Nat::r
abbrev lvsO:List ShO→List Type→List Type
 | [],r=>r
 |s::l,r=>lvO U s (lvsO l r)
abbrev lvQ:List Sh→List ShO→List Type:=fun shs sho=>lvs U shs (lvsO U sho [])
abbrev lq1:Sh1→List Type→List Type
 | .v t,r=>El U.car t::r
 | .pp t,r=>El U.car t::r
 | .full _,r=>r
 | .sl _,r=>r
 | .ptr _ _ _,r=>r
 | .ptrI _ _,r=>r
 | .map _,r=>r
 | .it _,r=>r
 | .nilp,r=>r
 | .nilfn,r=>r
 | .undef,r=>r
 | .nils _,r=>r
 | .clip _,r=>r
abbrev Zj5:List Sh1→List Type→List Type
 | [],r=>r
 |s::l,r=>lq1 U s (Zj5 l r)
abbrev lvA:ShA→List Type→List Type
 | .p t,r=>El U.car t::r
 | .box t,r=>El U.car t::r
 | .arr t,r=>List (El U.car t)::r
 | .map k v,r=>List (El U.car k×El U.car v)::r
 | .ptr t,r=>El U.car t::r
 | .fn _ a b,r=>Zj5 U a (Zj5 U b r)
 | .nilp,r=>r
 | .nilfn,r=>r
 | .part t,r=>List (El U.car t)::Nat::Nat::r
abbrev Zj4:List ShA→List Type→List Type
 | [],r=>r
 |s::l,r=>lvA U s (Zj4 l r)
abbrev lvR:ShR→List Type→List Type
 | .p t,r=>El U.car t::r
 | .own t,r=>List (El U.car t)::r
 | .box t,r=>El U.car t::r
 | .map k v,r=>List (El U.car k×El U.car v)::r
 | .view _,r=>Nat::Nat::r
 | .aown n _ _,r=>U.car n::r
abbrev Zmq:List ShR→List Type→List Type
 | [],r=>r
 |s::l,r=>lvR U s (Zmq l r)
abbrev Zmp:List (Nat×ShA)→List Type→List Type
 | [],r=>r
 |s::l,r=>lvA U s.2 (Zmp l r)
end
section
variable {U:Zc} {r:List Type}
abbrev fl1:(s:Sh1)→Zm0 U s→HL r→HL (lv1 U s r)
 | .v _,x,y=>(x,y)
 | .pp _,x,y=>(x,y)
 | .full _,_,y=>y
 | .sl _,x,y=>(x.1,x.2,y)
 | .ptr _ _ _,_,y=>y
 | .ptrI _ _,x,y=>(x,y)
 | .map _,_,y=>y
 | .it _,_,y=>y
 | .nilp,_,y=>y
 | .nilfn,_,y=>y
 | .undef,_,y=>y
 | .nils _,_,y=>y
 | .clip _,x,y=>(x,y)
abbrev fls1:(l:List Sh1)→ZgY U l→HL r→HL (lvs1 U l r)
 | [],_,y=>y
 |s::l,x,y=>fl1 s x.1 (fls1 l x.2 y)
abbrev flS:(s:Sh)→Val U s→HL r→HL (lvS U s r)
 | .o s,x,y=>fl1 s x y
 | .agg l,x,y=>fls1 l x y
 | .fn _ a b,x,y=>fls1 a x.1 (fls1 b x.2 y)
abbrev fls:(l:List Sh)→Zcg U l→HL r→HL (lvs U l r)
 | [],_,y=>y
 |s::l,x,y=>flS s x.1 (fls l x.2 y)
abbrev flO:(s:ShO)→ValO U s→HL r→HL (lvO U s r)
 | .box l,x,y=>fls l x y
 | .boxS _,x,y=>(x,y)
 | .arr _ _,x,y=>(x,y)
 | .map _ _,x,y=>(x,y)
 | .sit,x,y=>(x.1,x.2,y)
 | .mit _ _,x,y=>(x.1,x.2,y)
 | .own _ _ _,x,y=>(x.1,x.2,y)
abbrev flsO:(l:List ShO)→Zaj U l→HL r→HL (lvsO U l r)
 | [],_,y=>y
 |s::l,x,y=>flO s x.1 (flsO l x.2 y)
abbrev flQ (shs:List Sh) (sho:List ShO) (v:Zcg U shs) (w:Zaj U sho):HL (lvQ U shs sho):=fls shs v (flsO (r:=[]) sho w ())
abbrev unc {X:Type} (shs:List Sh) (sho:List ShO) (f:Zjo (lvQ U shs sho) X) (v:Zcg U shs) (w:Zaj U sho):X:=app (lvQ U shs sho) f (flQ shs sho v w)
def fq1:(s:Sh1)→ZhN U s→HL r→HL (lq1 U s r)
 | .v _,x,y=>(x,y)
 | .pp _,x,y=>(x,y)
 | .full _,_,y=>y
 | .sl _,_,y=>y
 | .ptr _ _ _,_,y=>y
 | .ptrI _ _,_,y=>y
 | .map _,_,y=>y
 | .it _,_,y=>y
 | .nilp,_,y=>y
 | .nilfn,_,y=>y
 | .undef,_,y=>y
 | .nils _,_,y=>y
 | .clip _,_,y=>y
def fqs1:(l:List Sh1)→ZcG U l→HL r→HL (Zj5 U l r)
 | [],_,y=>y
 |s::l,x,y=>fq1 s x.1 (fqs1 l x.2 y)
abbrev flA:(s:ShA)→ZlS U s→HL r→HL (lvA U s r)
 | .p _,x,y=>(x,y)
 | .box _,x,y=>(x,y)
 | .arr _,x,y=>(x,y)
 | .map _ _,x,y=>(x,y)
 | .ptr _,x,y=>(x,y)
 | .fn _ a b,x,y=>fqs1 a x.1 (fqs1 b x.2 y)
 | .nilp,_,y=>y
 | .nilfn,_,y=>y
 | .part _,x,y=>(x.1,x.2.1,x.2.2,y)
abbrev ZlN:(l:List ShA)→ZfX U l→HL r→HL (Zj4 U l r)
 | [],_,y=>y
 |s::l,x,y=>flA s x.1 (ZlN l x.2 y)
abbrev flR:(s:ShR)→ZmN U s→HL r→HL (lvR U s r)
 | .p _,x,y=>(x,y)
 | .own _,x,y=>(x,y)
 | .box _,x,y=>(x,y)
 | .map _ _,x,y=>(x,y)
 | .view _,x,y=>(x.1,x.2,y)
 | .aown _ _ _,x,y=>(x,y)
abbrev ZmW:(l:List ShR)→ZgX U l→HL r→HL (Zmq U l r)
 | [],_,y=>y
 |s::l,x,y=>flR s x.1 (ZmW l x.2 y)
abbrev ZlM:(l:List (Nat×ShA))→ZgW U l→HL r→HL (Zmp U l r)
 | [],_,y=>y
 |s::l,x,y=>flA s.2 x.1 (ZlM l x.2 y)
def uq1:(s:Sh1)→HL (lq1 U s r)→ZhN U s×HL r
 | .v _,y=>y
 | .pp _,y=>y
 | .full _,y=>((),y)
 | .sl _,y=>((),y)
 | .ptr _ _ _,y=>((),y)
 | .ptrI _ _,y=>((),y)
 | .map _,y=>((),y)
 | .it _,y=>((),y)
 | .nilp,y=>((),y)
 | .nilfn,y=>((),y)
 | .undef,y=>((),y)
 | .nils _,y=>((),y)
 | .clip _,y=>((),y)
def ZkO:(l:List Sh1)→HL (Zj5 U l r)→ZcG U l×HL r
 | [],y=>((),y)
 |s::l,y=>(((uq1 (r:=Zj5 U l r) s y).1,(ZkO l (uq1 (r:=Zj5 U l r) s y).2).1),(ZkO l (uq1 (r:=Zj5 U l r) s y).2).2)
def uA:(s:ShA)→HL (lvA U s r)→ZlS U s×HL r
 | .p _,y=>y
 | .box _,y=>y
 | .arr _,y=>y
 | .map _ _,y=>y
 | .ptr _,y=>y
 | .fn _ a b,y=>(((ZkO (r:=Zj5 U b r) a y).1,(ZkO b (ZkO (r:=Zj5 U b r) a y).2).1),(ZkO b (ZkO (r:=Zj5 U b r) a y).2).2)
 | .nilp,y=>((),y)
 | .nilfn,y=>((),y)
 | .part _,y=>((y.1,y.2.1,y.2.2.1),y.2.2.2)
def uR:(s:ShR)→HL (lvR U s r)→ZmN U s×HL r
 | .p _,y=>y
 | .own _,y=>y
 | .box _,y=>y
 | .map _ _,y=>y
 | .view _,y=>((y.1,y.2.1),y.2.2)
 | .aown _ _ _,y=>y
def usR:(l:List ShR)→HL (Zmq U l r)→ZgX U l×HL r
 | [],y=>((),y)
 |s::l,y=>(((uR (r:=Zmq U l r) s y).1,(usR l (uR (r:=Zmq U l r) s y).2).1),(usR l (uR (r:=Zmq U l r) s y).2).2)
def usU:(l:List (Nat×ShA))→HL (Zmp U l r)→ZgW U l×HL r
 | [],y=>((),y)
 |s::l,y=>(((uA (r:=Zmp U l r) s.2 y).1,(usU l (uA (r:=Zmp U l r) s.2 y).2).1),(usU l (uA (r:=Zmp U l r) s.2 y).2).2)
theorem ZlX (s:Sh1) (x:ZhN U s) (y:HL r):uq1 s (fq1 s x y)=(x,y):=by cases s<;>rfl
theorem Zf1:∀(l:List Sh1) (x:ZcG U l) (y:HL r),ZkO l (fqs1 l x y)=(x,y)
 | [],_,_=>rfl
 |s::l,x,y=>by simp only[fqs1,ZkO,ZlX,Zf1 l]
theorem uA_flA (s:ShA) (x:ZlS U s) (y:HL r):uA s (flA s x y)=(x,y):=by
 cases s with
 |fn f a b=>simp only[flA,uA,Zf1]
 |_=>rfl
theorem uR_flR (s:ShR) (x:ZmN U s) (y:HL r):uR s (flR s x y)=(x,y):=by cases s<;>rfl
theorem ZhS:∀(l:List ShR) (x:ZgX U l) (y:HL r),usR l (ZmW l x y)=(x,y)
 | [],_,_=>rfl
 |s::l,x,y=>by simp only[ZmW,usR,uR_flR,ZhS l]
theorem ZhR:∀(l:List (Nat×ShA)) (x:ZgW U l) (y:HL r),usU l (ZlM l x y)=(x,y)
 | [],_,_=>rfl
 |s::l,x,y=>by simp only[ZlM,usU,uA_flA,ZhR l]
end
def pthF:Nat→Nat→List Nat→List Nat
 |0,_,acc=>acc
 |k+1,n,acc=>bif Nat.beq n 9 then acc else pthF k (n / 10) (n % 10::acc)
def pth (n:Nat):List Nat:=pthF 1000 n []
section
variable {U:Zc}
def blkId:Code→Nat
 | .block id _=>id
 |_=>0
def ZdZ:Code→Bool
 | .loop _=>true
 |_=>false
abbrev kOf (F:FC U) (pb:List Nat):List Nat→List TI'
 | []=>[]
 |d::q=>bif (d::q) == pb then []else match d with
  |0=>tc F (1::q)::kOf F pb q
  |4=> .blk (blkId (Zdh F q))::kOf F pb q
  |_=>kOf F pb q
def inP (pb:List Nat):List Nat→Bool
 | []=>pb.isEmpty
 |d::q=>bif (d::q) == pb then true else (d != 5)&&inP pb q
def chkP (F:FC U) (pb p:List Nat):Bool:=(atP (F.c,[]) p).isSome&&inP pb p
def ZfS (F:FC U) (pb q:List Nat):Bool:=ZdZ (Zdh F q)&&inP pb q
abbrev xpre (F:FC U) (pb q:List Nat) (xid:Nat):List TI':=(Zcu xid (kOf F pb q)).getD []
def ZmX (F:FC U) (pb q:List Nat) (xid:Nat):Bool:=(Zcu xid (kOf F pb q)).isSome
theorem ZbA {F:FC U} {p:List Nat} {c:Code} {k:List Item} (h:atP (F.c,[]) p=some (c,k)):Zdh F p=c:=by unfold Zdh;rw[h]
theorem Zid (F:FC U) {pb:List Nat} {cb:Code} {base:List Item} (hb:atP (F.c,[]) pb=some (cb,base)):∀(p:List Nat),inP pb p=true→∀c k,atP (F.c,[]) p=some (c,k)→
  k=(kOf F pb p).map TI'.conc++base∧Wf (F.c,[]) base (kOf F pb p)
 | [],h,c,k,hp=>by simp only[inP,List.isEmpty_iff]at h;subst h;rw[hb]at hp;cases hp;exact⟨rfl,trivial⟩
 |d::q,h,c,k,hp=>by
  unfold inP at h;unfold kOf;cases he:((d::q) == pb)with
  |true=>
   have:=eq_of_beq he;subst this;rw[hb]at hp;cases hp;exact⟨rfl,trivial⟩
  |false=>
   rw[he]at h;simp only[cond_false,Zm8,bne_iff_ne,ne_eq]at h⊢
   obtain⟨hd,hq⟩:=h;have hp0:=hp;unfold atP at hp;split at hp;rotate_left;simp at hp;rename_i c' k' hq';obtain⟨i1,i2⟩:=Zid F hb q hq c' k' hq';split at hp
   ·simp only[Znv,Znw]at hp;obtain⟨rfl,rfl⟩:=hp;rename_i a b;have h1:atP (F.c,[]) (1::q)=some (b,k'):=by simp only[atP,hq']
    simp only[Znh,ZnF,tc,TI'.conc,ZbA h1];refine⟨by rw[←i1], ?_,i2⟩;rw[h1,i1]
   ·simp only[Znv,Znw]at hp;obtain⟨rfl,rfl⟩:=hp;exact⟨i1,i2⟩
   ·simp only[Znv,Znw]at hp;obtain⟨rfl,rfl⟩:=hp;exact⟨i1,i2⟩
   ·simp only[Znv,Znw]at hp;obtain⟨rfl,rfl⟩:=hp;exact⟨i1,i2⟩
   ·simp only[Znv,Znw]at hp;obtain⟨rfl,rfl⟩:=hp;simp only[Znh,ZnF,TI'.conc,ZbA hq',blkId];exact⟨by rw[←i1],i2⟩
   ·exact absurd rfl hd
   ·simp at hp
inductive CT (U:Zc) (ρ:Type):Type→Type 1
 |nil {R:Type}:CT U ρ R
 |j {R:Type} (p:Nat) (live frz:List Nat) (shs:List Sh) (sho:List ShO) (f:Zjo (lvQ U shs sho) (Option R)) (k:CT U ρ R):CT U ρ R
 |lo {R:Type} (q:Nat) (live frz:List Nat) (shs:List Sh) (sho:List ShO) (xid:Nat) (xlive xfrz:List Nat) (xshs:List Sh) (xsho:List ShO)
   (hd:Nat→Zjo (lvQ U shs sho) (Option (HT (lvQ U xshs xsho)))) (af:Zjo (lvQ U xshs xsho) (Option R)) (body:Nat→CT U ρ (HT (lvQ U xshs xsho))) (k:CT U ρ R):CT U ρ R
 |lr {R:Type} (q:Nat) (live frz:List Nat) (shs:List Sh) (sho:List ShO) (xid:Nat) (xlive xfrz:List Nat) (xshs:List Sh) (xsho:List ShO)
   (hd:Nat→Zjo (lvQ U shs sho) (Option (Out (HT (lvQ U xshs xsho)) ρ))) (af:Zjo (lvQ U xshs xsho) (Option R)) (body:Nat→CT U ρ (Out (HT (lvQ U xshs xsho)) ρ)) (k:CT U ρ R):CT U ρ R
 |lz {R:Type} (q:Nat) (live frz:List Nat) (shs:List Sh) (sho:List ShO)
   (hd:Nat→Zjo (lvQ U shs sho) (Option (Out Unit ρ))) (body:Nat→CT U ρ (Out Unit ρ)) (k:CT U ρ R):CT U ρ R
structure CC (U:Zc) (R:Type) where
 pb:List Nat
 back:Option (Lp U R)
 exits:List (Nat×Lp U R)
 ret:ZbG U→Option R
variable {ρ:Type}
abbrev outB {β R:Type} (em:ρ→Option R) (af:β→Option R):Out β ρ→Option R
 | .ret q=>em q
 | .brk b=>af b
abbrev CT.cuts:{R:Type}→CT U ρ R→(ρ→Option R)→List (List Nat×Lp U R)
 |_,.nil,_=>[]
 |_,.j p live frz shs sho f k,em=>(pth p,⟨live,frz,shs,sho,unc shs sho f⟩)::k.cuts em
 |_,.lo q live frz shs sho _ _ _ xshs xsho hd af _ k,em=>(pth q,⟨live,frz,shs,sho,fun v w=>(unc shs sho (hd big) v w).bind (unT (lvQ U xshs xsho) af)⟩)::k.cuts em
 |_,.lr q live frz shs sho _ _ _ xshs xsho hd af _ k,em=>(pth q,⟨live,frz,shs,sho,fun v w=>(unc shs sho (hd big) v w).bind (outB em (unT (lvQ U xshs xsho) af))⟩)::k.cuts em
 |_,.lz q live frz shs sho hd _ k,em=>(pth q,⟨live,frz,shs,sho,fun v w=>(unc shs sho (hd big) v w).bind (outB em fun _=>none)⟩)::k.cuts em
abbrev CT.Ty:{R:Type}→CT U ρ R→Type
 |_,.nil=>Unit
 |R,.j _ _ _ shs sho _ k=>Bool×(Zcg U shs→Zaj U sho→Option R)×k.Ty
 |R,.lo _ _ _ shs sho _ _ _ xshs xsho _ _ body k=>Bool×(Zcg U shs→Zaj U sho→Option (HT (lvQ U xshs xsho)))×(Nat→Zcg U shs→Zaj U sho→Option (HT (lvQ U xshs xsho)))×((n:Nat)→(body n).Ty)×(Zcg U xshs→Zaj U xsho→Option R)×k.Ty
 |R,.lr _ _ _ shs sho _ _ _ xshs xsho _ _ body k=>Bool×(Zcg U shs→Zaj U sho→Option (Out (HT (lvQ U xshs xsho)) ρ))×(Nat→Zcg U shs→Zaj U sho→Option (Out (HT (lvQ U xshs xsho)) ρ))×((n:Nat)→(body n).Ty)×(Zcg U xshs→Zaj U xsho→Option R)×k.Ty
 |_,.lz _ _ _ shs sho _ body k=>Bool×(Zcg U shs→Zaj U sho→Option (Out Unit ρ))×(Nat→Zcg U shs→Zaj U sho→Option (Out Unit ρ))×((n:Nat)→(body n).Ty)×k.Ty
abbrev stC (F:FC U) (live:List Nat) (shs:List Sh) (sho:List ShO) (v:Zcg U shs) (w:Zaj U sho):TS U:=mkC F.lent live (ZmY shs v) (Zkz sho w)
abbrev ZcZ (ret0:ZbG U→Option ρ) {X:Type} (em:ρ→Option X) (q:List Nat) (L:Lp U X) (ex:List (Nat×Lp U X)):CC U X:=⟨5::q,some L,ex,fun t=>(ret0 t).bind em⟩
abbrev lx (xlive xfrz:List Nat) (xshs:List Sh) (xsho:List ShO) {X:Type} (m:HT (lvQ U xshs xsho)→X):Lp U X:=⟨xlive,xfrz,xshs,xsho,fun v w=>some (m (ZlZ (lvQ U xshs xsho) (flQ xshs xsho v w)))⟩
noncomputable abbrev evp (F:FC U) {R:Type} (C:CC U R) (cuts:List (List Nat×Lp U R)) (pre:List TI') (T:TS U):Option R:=evl (F.par cuts C.back C.exits C.ret) 4000 none pre T
noncomputable abbrev CT.lhs (F:FC U) (ret0:ZbG U→Option ρ):{R:Type}→(t:CT U ρ R)→CC U R→(ρ→Option R)→t.Ty
 |_,.nil,_,_=>()
 |_,.j p live _ shs sho _ k,C,em=>(chkP F C.pb (pth p),fun v w=>evp F C (k.cuts em) (tc F (pth p)::kOf F C.pb (pth p)) (stC F live shs sho v w),k.lhs F ret0 C em)
 |_,.lo q live frz shs sho xid xlive xfrz xshs xsho hd _ body k,C,em=>(ZfS F C.pb (pth q)&&ZmX F C.pb (pth q) xid,fun v w=>unc shs sho (hd 0) v w,
   fun n v w=>evp F (ZcZ ret0 (fun _=>none) (pth q) ⟨live,frz,shs,sho,unc shs sho (hd n)⟩ [(xid,lx xlive xfrz xshs xsho id)]) ((body n).cuts fun _=>none) [tc F (5::pth q)] (stC F live shs sho v w),
   fun n=>(body n).lhs F ret0 (ZcZ ret0 (fun _=>none) (pth q) ⟨live,frz,shs,sho,unc shs sho (hd n)⟩ [(xid,lx xlive xfrz xshs xsho id)]) fun _=>none,
   fun v w=>evp F C (k.cuts em) (xpre F C.pb (pth q) xid) (stC F xlive xshs xsho v w),k.lhs F ret0 C em)
 |_,.lr q live frz shs sho xid xlive xfrz xshs xsho hd _ body k,C,em=>(ZfS F C.pb (pth q)&&ZmX F C.pb (pth q) xid,fun v w=>unc shs sho (hd 0) v w,
   fun n v w=>evp F (ZcZ ret0 (fun q=>some (.ret q)) (pth q) ⟨live,frz,shs,sho,unc shs sho (hd n)⟩ [(xid,lx xlive xfrz xshs xsho .brk)]) ((body n).cuts fun q=>some (.ret q)) [tc F (5::pth q)] (stC F live shs sho v w),
   fun n=>(body n).lhs F ret0 (ZcZ ret0 (fun q=>some (.ret q)) (pth q) ⟨live,frz,shs,sho,unc shs sho (hd n)⟩ [(xid,lx xlive xfrz xshs xsho .brk)]) fun q=>some (.ret q),
   fun v w=>evp F C (k.cuts em) (xpre F C.pb (pth q) xid) (stC F xlive xshs xsho v w),k.lhs F ret0 C em)
 |_,.lz q live frz shs sho hd body k,C,em=>(ZfS F C.pb (pth q),fun v w=>unc shs sho (hd 0) v w,
   fun n v w=>evp F (ZcZ ret0 (fun q=>some (.ret q)) (pth q) ⟨live,frz,shs,sho,unc shs sho (hd n)⟩ []) ((body n).cuts fun q=>some (.ret q)) [tc F (5::pth q)] (stC F live shs sho v w),
   fun n=>(body n).lhs F ret0 (ZcZ ret0 (fun q=>some (.ret q)) (pth q) ⟨live,frz,shs,sho,unc shs sho (hd n)⟩ []) fun q=>some (.ret q),
   k.lhs F ret0 C em)
abbrev CT.rhs:{R:Type}→(t:CT U ρ R)→t.Ty
 |_,.nil=>()
 |_,.j _ _ _ shs sho f k=>(true,fun v w=>unc shs sho f v w,k.rhs)
 |_,.lo _ _ _ shs sho _ _ _ xshs xsho hd af body k=>(true,fun _ _=>none,fun n v w=>unc shs sho (hd (n+1)) v w,fun n=>(body n).rhs,fun v w=>unc xshs xsho af v w,k.rhs)
 |_,.lr _ _ _ shs sho _ _ _ xshs xsho hd af body k=>(true,fun _ _=>none,fun n v w=>unc shs sho (hd (n+1)) v w,fun n=>(body n).rhs,fun v w=>unc xshs xsho af v w,k.rhs)
 |_,.lz _ _ _ shs sho hd body k=>(true,fun _ _=>none,fun n v w=>unc shs sho (hd (n+1)) v w,fun n=>(body n).rhs,k.rhs)
variable {F:FC U}
theorem ZfF (hF:FOk F) {X:Type} {RT:Ret} {x:X} {q:List Nat} {live frz:List Nat} {shs:List Sh} {sho:List ShO} {hd:Nat→Zjo (lvQ U shs sho) (Option X)} {cuts:Nat→List (List Nat×Lp U X)}
  {ex:List (Nat×Lp U X)} {ret:ZbG U→Option X} {b:Code} {k:List Item} (hq:atP (F.c,[]) q=some (.loop b,k)) (h0:(fun v w=>unc shs sho (hd 0) v w)=fun _ _=>none)
  (hs:(fun n v w=>evp F (⟨5::q,some ⟨live,frz,shs,sho,unc shs sho (hd n)⟩,ex,ret⟩:CC U X) (cuts n) [tc F (5::q)] (stC F live shs sho v w))=fun n v w=>unc shs sho (hd (n+1)) v w)
  (hc:∀n,ZhO F RT x ⟨live,frz,shs,sho,unc shs sho (hd n)⟩ (.lp b::k)→Zbe F RT x (cuts n)) (he:ZaT F RT x (.lp b::k) ex) (hret:∀t,ret t=some x→t.enc=RT) (n:Nat):
  ZhO F RT x ⟨live,frz,shs,sho,unc shs sho (hd n)⟩ (ZkJ F q):=
 Zmr hF 4000 (cuts:=cuts) (exits:=ex) (ret:=ret) (fun n=>unc shs sho (hd n)) hq (fun v w=>congrFun (congrFun h0 v) w) (fun n v w=>by
  rw[←congrFun (congrFun (congrFun hs n) v) w];have h5:atP (F.c,[]) (5::q)=some (b,.lp b::k):=by simp only[atP,hq]
  unfold evp tc;rw[ZbA h5];rfl) hc he hret n
theorem CT.ok (hF:FOk F) {ret0:ZbG U→Option ρ}:∀{R:Type} (t:CT U ρ R) (C:CC U R) (em:ρ→Option R),(C.ret=fun t=>(ret0 t).bind em)→t.lhs F ret0 C em=t.rhs→∀{RT:Ret} {r:R} {cb:Code} {base:List Item},
  atP (F.c,[]) C.pb=some (cb,base)→(∀L,C.back=some L→ZhO F RT r L base)→(C.back=none→base=[])→ZaT F RT r base C.exits→(∀t,C.ret t=some r→t.enc=RT)→Zbe F RT r (t.cuts em)
 |_,.nil,_,_,_,_,_,_,_,_,_,_,_,_,_=>trivial
 |R,.j p live frz shs sho f k,C,em,hr,h,RT,r,cb,base,hb,hk,hn,hx,ht=>by
  have h: @Eq (Bool×(Zcg U shs→Zaj U sho→Option R)×k.Ty) (_,_,_) (_,_,_):=h;have h1:chkP F C.pb (pth p)=true:=congrArg (fun x=>x.1) h;have h2:=congrArg (fun x=>x.2.1) h;have h3:k.lhs F ret0 C em=k.rhs:=congrArg (fun x=>x.2.2) h;have ih:=CT.ok hF k C em hr h3 hb hk hn hx ht;refine⟨fun v w hi hv=> ?_,ih⟩;simp only[chkP,Zm8,Zoj]at h1;obtain⟨⟨⟨c,kk⟩,hp⟩,hin⟩:=h1;obtain⟨e1,e2⟩:=Zid F hb _ hin _ _ hp;have e3:ZkJ F (pth p)=(tc F (pth p)::kOf F C.pb (pth p)).map TI'.conc++base:=by simp only[ZkJ,hp,tc,Znh,TI'.conc,ZbA hp,ZnF,e1]
  refine Pt.evlAt hF 4000 (cuts:=k.cuts em) (back:=C.back) (exits:=C.exits) (ret:=C.ret) (base:=base) (pre:=tc F (pth p)::kOf F C.pb (pth p)) e3 hi ?_ ?_ ih hk hn hx ht
  ·exact(congrFun (congrFun h2 v) w).trans hv
  ·exact⟨by rw[ZbA hp,hp,e1],e2⟩
 |R,.lo q live frz shs sho xid xlive xfrz xshs xsho hd af body k,C,em,hr,h,RT,r,cb,base,hb,hk,hn,hx,ht=>by
  have h: @Eq (Bool×(Zcg U shs→Zaj U sho→Option (HT (lvQ U xshs xsho)))×(Nat→Zcg U shs→Zaj U sho→Option (HT (lvQ U xshs xsho)))×((n:Nat)→(body n).Ty)×(Zcg U xshs→Zaj U xsho→Option R)×k.Ty) (_,_,_,_,_,_) (_,_,_,_,_,_):=h;have h1:(ZfS F C.pb (pth q)&&ZmX F C.pb (pth q) xid)=true:=congrArg (fun x=>x.1) h;have h2:=congrArg (fun x=>x.2.1) h;have h3:=congrArg (fun x=>x.2.2.1) h;have h4:=congrArg (fun x=>x.2.2.2.1) h;have h5:=congrArg (fun x=>x.2.2.2.2.1) h;have h6:k.lhs F ret0 C em=k.rhs:=congrArg (fun x=>x.2.2.2.2.2) h;have ih:=CT.ok hF k C em hr h6 hb hk hn hx ht;refine⟨fun v w hi hv=> ?_,ih⟩;obtain⟨x,hx0,hxa⟩:=bind_some hv;simp only[ZfS,ZmX,Zm8,Zoj]at h1;obtain⟨⟨hl,hin⟩,pre',hpre⟩:=h1;have hq:∃b kq,atP (F.c,[]) (pth q)=some (.loop b,kq):=by
   unfold Zdh at hl;split at hl
   ·rename_i y hy;obtain⟨c,kq⟩:=y;cases c<;>simp only[ZdZ,Zm9]at hl;exact⟨_,_,hy⟩
   ·simp[ZdZ]at hl
  obtain⟨b,kq,hq⟩:=hq;obtain⟨e1,e2⟩:=Zid F hb _ hin _ _ hq;have h5q:atP (F.c,[]) (5::pth q)=some (b,.lp b::kq):=by simp only[atP,hq]
  have hex:ZaT F RT x (.lp b::kq) [(xid,lx xlive xfrz xshs xsho id)]:=by
   refine⟨⟨pre'.map TI'.conc++base, ?_,fun v' w' hi' h'=> ?_⟩,trivial⟩
   ·show Zao xid kq=_;rw[e1];exact(Zad (root:=(F.c,[])) (base:=base) hpre).1 base
   ·obtain rfl:ZlZ _ (flQ xshs xsho v' w')=x:=Znu h';refine Pt.evlAt hF 4000 (cuts:=k.cuts em) (back:=C.back) (exits:=C.exits) (ret:=C.ret) (base:=base) (pre:=pre') rfl hi' ?_ ((Zad hpre).2 e2) ih hk hn hx ht;have e5:=congrFun (congrFun h5 v') w';simp only[xpre,hpre,Zns]at e5;refine Eq.trans e5 ?_;simp only[unT,Zcn]at hxa;exact hxa
  exact ZfF hF hq h2 h3 (fun n hL=>CT.ok hF (body n) _ _ rfl (congrFun h4 n) h5q (fun L hLe=>by simp only[ZcZ,Znv]at hLe;subst hLe;exact hL) (fun hne=>by simp[ZcZ]at hne) hex (fun t htt=>by simp[ZcZ]at htt)) hex
   (fun t htt=>by simp at htt) big v w hi hx0
 |R,.lr q live frz shs sho xid xlive xfrz xshs xsho hd af body k,C,em,hr,h,RT,r,cb,base,hb,hk,hn,hx,ht=>by
  have h: @Eq (Bool×(Zcg U shs→Zaj U sho→Option (Out (HT (lvQ U xshs xsho)) ρ))×(Nat→Zcg U shs→Zaj U sho→Option (Out (HT (lvQ U xshs xsho)) ρ))×((n:Nat)→(body n).Ty)×(Zcg U xshs→Zaj U xsho→Option R)×k.Ty) (_,_,_,_,_,_) (_,_,_,_,_,_):=h;have h1:(ZfS F C.pb (pth q)&&ZmX F C.pb (pth q) xid)=true:=congrArg (fun x=>x.1) h;have h2:=congrArg (fun x=>x.2.1) h;have h3:=congrArg (fun x=>x.2.2.1) h;have h4:=congrArg (fun x=>x.2.2.2.1) h;have h5:=congrArg (fun x=>x.2.2.2.2.1) h;have h6:k.lhs F ret0 C em=k.rhs:=congrArg (fun x=>x.2.2.2.2.2) h;have ih:=CT.ok hF k C em hr h6 hb hk hn hx ht;refine⟨fun v w hi hv=> ?_,ih⟩;obtain⟨x,hx0,hxa⟩:=bind_some hv;simp only[ZfS,ZmX,Zm8,Zoj]at h1;obtain⟨⟨hl,hin⟩,pre',hpre⟩:=h1;have hq:∃b kq,atP (F.c,[]) (pth q)=some (.loop b,kq):=by
   unfold Zdh at hl;split at hl
   ·rename_i y hy;obtain⟨c,kq⟩:=y;cases c<;>simp only[ZdZ,Zm9]at hl;exact⟨_,_,hy⟩
   ·simp[ZdZ]at hl
  obtain⟨b,kq,hq⟩:=hq;obtain⟨e1,e2⟩:=Zid F hb _ hin _ _ hq;have h5q:atP (F.c,[]) (5::pth q)=some (b,.lp b::kq):=by simp only[atP,hq]
  have hex:ZaT F RT x (.lp b::kq) [(xid,lx xlive xfrz xshs xsho .brk)]:=by
   refine⟨⟨pre'.map TI'.conc++base, ?_,fun v' w' hi' h'=> ?_⟩,trivial⟩
   ·show Zao xid kq=_;rw[e1];exact(Zad (root:=(F.c,[])) (base:=base) hpre).1 base
   ·obtain rfl:Out.brk (ZlZ _ (flQ xshs xsho v' w'))=x:=Znu h';refine Pt.evlAt hF 4000 (cuts:=k.cuts em) (back:=C.back) (exits:=C.exits) (ret:=C.ret) (base:=base) (pre:=pre') rfl hi' ?_ ((Zad hpre).2 e2) ih hk hn hx ht;have e5:=congrFun (congrFun h5 v') w';simp only[xpre,hpre,Zns]at e5;refine Eq.trans e5 ?_;simp only[outB,unT,Zcn]at hxa;exact hxa
  have hrr:∀t:ZbG U,((ret0 t).bind fun q=>some (Out.ret q))=some x→t.enc=RT:=fun t htt=>by obtain⟨y,hy,hyx⟩:=bind_some htt;obtain rfl:=Znu hyx;refine ht t ?_;rw[hr];show (ret0 t).bind em=some r;rw[hy];exact hxa
  exact ZfF hF hq h2 h3 (fun n hL=>CT.ok hF (body n) _ _ rfl (congrFun h4 n) h5q (fun L hLe=>by simp only[ZcZ,Znv]at hLe;subst hLe;exact hL) (fun hne=>by simp[ZcZ]at hne) hex hrr) hex hrr big v w hi hx0
 |_,.lz q live frz shs sho hd body k,C,em,hr,h,RT,r,cb,base,hb,hk,hn,hx,ht=>by
  have h: @Eq (Bool×(Zcg U shs→Zaj U sho→Option (Out Unit ρ))×(Nat→Zcg U shs→Zaj U sho→Option (Out Unit ρ))×((n:Nat)→(body n).Ty)×k.Ty) (_,_,_,_,_) (_,_,_,_,_):=h;have h1:ZfS F C.pb (pth q)=true:=congrArg (fun x=>x.1) h;have h2:=congrArg (fun x=>x.2.1) h;have h3:=congrArg (fun x=>x.2.2.1) h;have h4:=congrArg (fun x=>x.2.2.2.1) h;have h6:k.lhs F ret0 C em=k.rhs:=congrArg (fun x=>x.2.2.2.2) h;have ih:=CT.ok hF k C em hr h6 hb hk hn hx ht;refine⟨fun v w hi hv=> ?_,ih⟩;obtain⟨x,hx0,hxa⟩:=bind_some hv;simp only[ZfS,Zm8]at h1;obtain⟨hl,hin⟩:=h1;have hq:∃b kq,atP (F.c,[]) (pth q)=some (.loop b,kq):=by
   unfold Zdh at hl;split at hl
   ·rename_i y hy;obtain⟨c,kq⟩:=y;cases c<;>simp only[ZdZ,Zm9]at hl;exact⟨_,_,hy⟩
   ·simp[ZdZ]at hl
  obtain⟨b,kq,hq⟩:=hq;have h5q:atP (F.c,[]) (5::pth q)=some (b,.lp b::kq):=by simp only[atP,hq]
  have hrr:∀t:ZbG U,((ret0 t).bind fun q=>some (Out.ret q))=some x→t.enc=RT:=fun t htt=>by obtain⟨y,hy,hyx⟩:=bind_some htt;obtain rfl:=Znu hyx;refine ht t ?_;rw[hr];show (ret0 t).bind em=some r;rw[hy];exact hxa
  exact ZfF hF hq h2 h3 (fun n hL=>CT.ok hF (body n) _ _ rfl (congrFun h4 n) h5q (fun L hLe=>by simp only[ZcZ,Znv]at hLe;subst hLe;exact hL) (fun hne=>by simp[ZcZ]at hne) trivial hrr) trivial hrr big v w hi hx0
end
abbrev oTy (U:Zc) (os:List (Nat×ShA)) (rs:List ShR):List Type:=Zmq U rs (Zmp U os [])
def amOf:ShA→AM
 | .box _ | .arr _=> .lend
 | .part _=> .part
 |_=> .p
def ahOf:ShA→Option Nat
 | .p (.st n)=>some n
 |_=>none
def rmOf:ShR→RM
 | .p _=> .p
 | .own _=> .own
 | .box _=> .box
 | .map _ _=> .map
 | .view _=> .view
 | .aown _ _ _=> .aown
def rhOf:ShR→Option Nat
 | .p (.st n)=>some n
 |_=>none
def isAr:ShA→Bool
 | .arr _ | .part _=>true
 |_=>false
section
variable {U:Zc}
structure FD (U:Zc) where
 f:Nat
 fn:Func
 sigs:List (Nat×Zjt U)
 as:List ShA
 os:List (Nat×ShA)
 rs:List ShR
 keep:List Nat
 alt:List (Nat×Nat)
 s:Zjo (Zj4 U as []) (Option (HT (oTy U os rs)))
 w:Zjo (Zj4 U as []) (Option (HT (oTy U os rs)))
 t:CT U (HT (oTy U os rs)) (HT (oTy U os rs))
namespace FD
variable (D:FD U)
abbrev rho:Type:=HT (oTy U D.os D.rs)
abbrev R:RSh:=⟨D.rs,D.os⟩
abbrev g (v:Zlw U D.R):D.rho:=ZlZ (oTy U D.os D.rs) (ZmW D.rs v.1 (ZlM (r:=[]) (D.os) v.2 ()))
abbrev b (x:D.rho):ZbG U:=D.R.bld ((usR D.rs (Zmh (oTy U D.os D.rs) x)).1,(usU (r:=[]) (D.os) (usR D.rs (Zmh (oTy U D.os D.rs) x)).2).1)
theorem b_g (v:Zlw U D.R):D.b (D.g v)=D.R.bld v:=by obtain⟨v1,v2⟩:=v;have e:Zmh (oTy U D.os D.rs) (D.g (v1,v2))=ZmW D.rs v1 (ZlM (r:=[]) (D.os) v2 ()):=Zcn _ _;have e2:usR D.rs (ZmW D.rs v1 (ZlM (r:=[]) (D.os) v2 ()))=(v1,ZlM (r:=[]) (D.os) v2 ()):=ZhS _ _ _;have e3:(usU (r:=[]) (D.os) (ZlM (r:=[]) (D.os) v2 ())).1=v2:=congrArg Prod.fst (ZhR _ _ _);unfold b;rw[e,e2];exact congrArg (fun x=>D.R.bld (v1,x)) e3
abbrev FS:ZkI U:=⟨D.rho,D.fn.params.toList,D.as.map amOf,D.as.map ahOf,D.as,fun v=>app (Zj4 U D.as []) D.w (ZlN (r:=[]) D.as v ()),D.b⟩
abbrev sig:Zjt U:=D.FS.sig
abbrev sg:Nat×Zjt U:=(D.f,D.sig)
abbrev F (X0:ZF U):FC U:=⟨X0.at D.fn.ntmps,D.fn,ZlP D.fn,D.sigs,D.os.map (·.1),D.rs.map rmOf,D.rs.map rhOf,D.keep,D.alt⟩
abbrev C:CC U D.rho:=⟨[],none,[],Zez D.R D.g⟩
def chk0:Bool:= !(D.fn.name == "runtime.NumGoroutine")&&D.fn.body.isSome&&Nat.ble D.as.length D.fn.ntmps
abbrev Ty:Type:=Bool×(D.rho→Bool)×(ZfX U D.as→Option D.rho)×D.t.Ty
noncomputable abbrev lhs (X0:ZF U):D.Ty:=(D.chk0,fun r=>D.os.any (fun x=>isAr x.2)||(D.b r).outs.all (fun x=>x.2.len?.isNone),
 fun v=>evp (D.F X0) D.C (D.t.cuts some) [tc0 (D.F X0)] (ZkC (Zdn D.as v)),D.t.lhs (D.F X0) (Zez D.R D.g) D.C some)
abbrev rhs:D.Ty:=(true,fun _=>true,fun v=>app (Zj4 U D.as []) D.s (ZlN (r:=[]) D.as v ()),D.t.rhs)
end FD
structure Gnd (X0:ZF U):Prop where
 hU:UOk U
 hX:TOk X0
 hE:Zn X0.E
 hm:X0.prog.follows .mixedOrders=true
theorem Zdi:∀(as:List ShA) (v:ZfX U as),(Zdn as v).length=as.length
 | [],_=>rfl
 |s::r,v=>by rw[Zdn,List.length_cons,List.length_cons,Zdi r]
theorem FD.fun {X0:ZF U} (G:Gnd X0) (D:FD U) (hf:X0.prog.funcs[D.f]? =some D.fn) (hs:Zc9 X0 D.sigs) (h:D.lhs X0=D.rhs):
  (∀v r,app (Zj4 U D.as []) D.s (ZlN (r:=[]) D.as v ())=some r→Fun X0.E D.f ((Zdn D.as v).map ZX.enc) (D.b r).enc)∧∀r,(D.os.any (fun x=>isAr x.2)||(D.b r).outs.all (fun x=>x.2.len?.isNone))=true:=by
 simp only[FD.lhs,FD.rhs,Znw]at h;obtain⟨h1,h3,h4,h5⟩:=h;simp only[FD.chk0,Zm8,Bool.not_eq_true',Zoj]at h1;obtain⟨⟨hn,c,hc⟩,hl⟩:=h1;have hF:FOk (D.F X0):=fok G.hU G.hX G.hE G.hm rfl hs;have hcuts:∀r,Zbe (D.F X0) (D.b r).enc r (D.t.cuts some):=fun r=>by
  have hret:∀t,D.C.ret t=some r→t.enc=(D.b r).enc:=fun t ht=>Zgf G.hU D.b_g ht
  refine CT.ok hF (ret0:=Zez D.R D.g) D.t D.C some (by funext t;simp[FD.C]) h5 (cb:=(D.F X0).c) (base:=[]) rfl (fun L hL=>by simp[FD.C]at hL) (fun _=>rfl) trivial hret
 have hb:D.fn.body=some (D.F X0).c:=by rw[hc];simp only[FD.F,ZlP,hc]
 exact⟨fun v r hv=>ZgD (F:=D.F X0) rfl hf hn hb (by rw[Zdi];exact Nat.le_of_ble_eq_true hl)
   (Pt.ev0 hF (b:=D.b) (S:=D.R) (g:=D.g) (pre:=[tc0 (D.F X0)]) rfl (ZgS _) ((congrFun h4 v).trans hv) ⟨rfl,trivial⟩ (hcuts r) D.b_g),fun r=>congrFun h3 r⟩
theorem FD.ok {X0:ZF U} (G:Gnd X0) (D:FD U) (hf:X0.prog.funcs[D.f]? =some D.fn) (hs:Zc9 X0 D.sigs) (ha:D.os.any (fun x=>isAr x.2)=false) (hw:D.w=D.s) (h:D.lhs X0=D.rhs):Zeu X0.E D.f D.sig:=by
 obtain⟨h1,h2⟩:=D.fun G hf hs h;refine ZkI.ok (S:=D.FS) G.hU fun v r hr=> ?_
 have hr:app (Zj4 U D.as []) D.w (ZlN (r:=[]) D.as v ())=some r:=hr;rw[hw]at hr;have h3:=h2 r;rw[ha,Bool.false_or]at h3;exact⟨h1 v r hr,ZdK h3⟩
theorem FD.okA {X0:ZF U} (G:Gnd X0) (D:FD U) (hf:X0.prog.funcs[D.f]? =some D.fn) (hs:Zc9 X0 D.sigs)
  (hw:(fun v=>app (Zj4 U D.as []) D.w (ZlN (r:=[]) D.as v ()))=fun v=>(app (Zj4 U D.as []) D.s (ZlN (r:=[]) D.as v ())).bind fun r=>chk (Zh4 (Zdn D.as v) (D.b r)) (some r)) (h:D.lhs X0=D.rhs):Zeu X0.E D.f D.sig:=by
 obtain⟨h1,h2⟩:=D.fun G hf hs h;refine ZkI.ok (S:=D.FS) G.hU fun v r hr=> ?_
 have hr:app (Zj4 U D.as []) D.w (ZlN (r:=[]) D.as v ())=some r:=hr;have e2:=congrFun hw v;rw[hr]at e2;obtain⟨q1,q2⟩:=chkLen e2.symm;exact⟨h1 v r q1,ZiK q2⟩
end
end Eng
namespace Eng
open Go
section
variable {U:Zc}
def Ty.isSt:Ty→Bool
 | .st _=>true
 |_=>false
def ZmO (U:Zc):Prop:=∀n x,(U.cells n x).all (fun l=> !l.t.isSt)=true
def Zg3 (w:World) (cs:List Value) (ls:List (Lf U.car)):Prop:=
 cs.length=ls.length∧∀(j:Nat) v l,cs[j]? =some v→ls[j]? =some l→RelP w (fun b=>b < w.heap.size) v (U.encL l)
theorem Zg3.one {w:World} {v:Value} {l:Lf U.car} (h:RelP w (fun b=>b < w.heap.size) v (U.encL l)):Zg3 (U:=U) w [v] [l]:=by
 refine⟨rfl,fun j v' l' h1 h2=> ?_⟩;cases j with
 |zero=>simp at h1 h2;subst h1;subst h2;exact h
 |succ j=>simp at h1
theorem Zg3.append {w:World} {cs cs':List Value} {ls ls':List (Lf U.car)} (h:Zg3 w cs ls) (h':Zg3 w cs' ls'):Zg3 w (cs++cs') (ls++ls'):=by
 refine⟨by simp[h.1,h'.1],fun j v l h1 h2=> ?_⟩;rw[List.getElem?_append]at h1 h2
 by_cases hj:j < cs.length
 ·rw[if_pos hj]at h1;rw[if_pos (by rw[←h.1];exact hj)]at h2;exact h.2 j v l h1 h2
 ·rw[if_neg hj]at h1;rw[if_neg (by rw[←h.1];exact hj),←h.1]at h2;exact h'.2 _ v l h1 h2
def ZkN (T:Ty) (cs:List Value):Value:=if T.isSt then .agg cs.toArray else cs.headD Go.undef
theorem Zia {w:World} {S:Nat→Prop} {v:Value} {l:Lf U.car} (hl:l.t.isSt=false) (h:RelP w S v (U.encL l)):Zbj v∧v.cells= #[v]:=by
 obtain⟨t,x⟩:=l;generalize hz:U.encL ⟨t,x⟩=z at h;cases h with
 |agg vs cs hl' h1 h=>
  exfalso;cases t<;>first |(simp[Ty.isSt]at hl;done) |(simp[Zc.encL,Zc.encE]at hz;done) |(cases x<;>simp[Zc.encL,Zc.encE,Zkk]at hz)
 |_=>exact⟨rfl,rfl⟩
theorem Zds (hU:UOk U) (hF:ZmO U) {w:World} {T:Ty} {y:El U.car T} {cs:List Value} (h:Zg3 w cs (U.cellsE T y)):
  RelP w (fun b=>b < w.heap.size) (ZkN T cs) (U.encE T y)∧(ZkN T cs).cells=cs.toArray:=by
 cases T with
 |st n=>
  refine⟨?_,rfl⟩;simp only[Zc.encE,hU.enc_cells n y];show RelP w _ (.agg cs.toArray) _;have hall:=hF n y;rw[ZnD]at hall;refine .agg _ _ (by have h1:cs.length=(U.cells n y).length:=h.1;simpa using h1) (fun i v hv=> ?_) (fun i v c hv hc=> ?_)
  ·have hv':cs[i]? =some v:=by simpa using hv
   have hi:i < (U.cells n y).length:=by have:=(Zne.1 hv').1;have h1:cs.length=(U.cells n y).length:=h.1;omega
   have hl:(U.cells n y)[i]? =some (U.cells n y)[i]:=ZnL hi;exact(Zia (by simpa using hall _ (List.getElem_mem hi)) (h.2 i v _ hv' hl)).1
  ·have hv':cs[i]? =some v:=by simpa using hv
   rw[Znf]at hc;cases hl:(U.cells n y)[i]? with
   |none=>rw[hl]at hc;simp at hc
   |some l=>
    rw[hl]at hc;simp only[Zoe,Znv]at hc;subst hc;exact h.2 i v l hv' hl
 |bool |int k |str |sl t |map k v |fnc=>
  obtain⟨h1,h2⟩:=h
  match cs,h1 with
  | [c],_=>
   have:=h2 0 c _ rfl rfl;exact⟨this,(Zia rfl this).2⟩
def Zew (P:Program) (U:Zc) (t:TypeId) (T:Ty):Prop:=
 ∀{H:Type} (enc:TypeId×Value→H) (w:World) (fuel:Nat) (cs:List Value) (x:DataW H×List MemPlace),DataW.trod enc P w 0 (fun _=>true) true fuel t cs=some x→
  (∀n∈x.1.weights P t,n≤reachBytes)→∃y:El U.car T,Zg3 w cs (U.cellsE T y)
variable {P:Program}
theorem ZmU {t:TypeId} (ht:P.underlying t=some .bool):Zew P U t .bool:=fun enc w fuel cs x h _=>by obtain⟨b,rfl,_⟩:=DataW.trod_bool ht h;exact⟨b,.one (.bool b)⟩
theorem opens_int {t:TypeId} {k:IntKind} (ht:P.underlying t=some (.int k)):Zew P U t (.int k):=fun enc w fuel cs x h _=>by obtain⟨n,rfl,_,hw⟩:=DataW.trod_int ht h;simp only[Lit.wf,Zm8,decide_eq_true_eq]at hw;exact⟨n,.one (.int k n hw.1 hw.2)⟩
theorem opens_str {t:TypeId} (ht:P.underlying t=some .string):Zew P U t .str:=fun enc w fuel cs x h _=>by obtain⟨⟨⟨l⟩⟩,rfl,_,hs⟩:=DataW.trod_string ht h;exact⟨l,.one (.str l hs)⟩
theorem Zeb {α:Type} {R:Nat→α→Prop}:∀n,(∀i,i < n→∃y,R i y)→∃l:List α,l.length=n∧∀i y,l[i]? =some y→R i y
 |0,_=>⟨[],rfl,fun i y h=>by simp at h⟩
 |n+1,h=>by
  obtain⟨l,h1,h2⟩:=Zeb n fun i hi=>h i (by omega)
  obtain⟨y,hy⟩:=h n (by omega);refine⟨l++[y],by simp[h1],fun i z hz=> ?_⟩;rw[List.getElem?_append]at hz;split at hz
  ·exact h2 i z hz
  ·rename_i hi;have:i=n:=by have:=(Zne.1 hz).1;simp at this;omega
   subst this;simp[h1]at hz;subst hz;exact hy
theorem ZbV {H:Type} {P:Program} {e:TypeId}:∀{l:List (DataW H)} {d:DataW H},d∈l→∀n∈d.weights P e,n∈DataW.weightsAll P e l
 |x::r,d,hd,n,hn=>by
  simp only[DataW.weightsAll,Zni];rcases Znj.1 hd with rfl |hd
  ·exact .inl hn
  ·exact .inr (ZbV hd n hn)
theorem Zmb (hU:UOk U) (hF:ZmO U) {t e:TypeId} {T:Ty} (ht:P.underlying t=some (.slice e)) (hsz:P.cellsOf e=U.tsize T) (hpos:0 < U.tsize T) (hb:1≤P.bytesOf e) (he:Zew P U e T):Zew P U t (.sl T):=fun enc w fuel cs x h hw=>by
 rcases DataW.trod_slice ht h with ⟨rfl,_⟩ |⟨a,len,cap,elems,rest,n,_,rfl,rfl,_,hl,_,hlen,hel,_,_⟩
 ·refine⟨[],.one ?_⟩;exact .sl none 0 0 _ _ (fun _=>Go.undef) rfl (by simp) (Znq _) (fun i hi=>by omega) (fun i hi=>by omega) (fun i e h=>by simp at h)
 ·have hw0:len≤reachBytes:=by have:=hw ((elems.length+rest.length)*P.bytesOf e) (by simp[DataW.weights,ht]);have h1:elems.length*1≤(elems.length+rest.length)*P.bytesOf e:=Nat.mul_le_mul (by omega) hb;omega
  have each:∀i,i < len→∃y:El U.car T,∃ci,w.cells? 0 (a.add (i*P.cellsOf e)) (P.cellsOf e)=some ci∧Zg3 w ci (U.cellsE T y):=fun i hi=>by
   obtain⟨xi,hxi⟩:∃xi,elems[i]? =some xi:=⟨_,ZnL (by omega)⟩;have h1:=hel i hi;rw[hxi]at h1;obtain⟨ci,hci,htr⟩:=Option.bind_eq_some_iff.1 h1;obtain⟨y,hy⟩:=he enc w n ci xi htr fun m hm=>hw m (by
    simp only[DataW.weights,ht,Znj,Zni];exact .inr (.inl (ZbV (ZnT.2 ⟨xi,List.mem_of_getElem? hxi,rfl⟩) m hm)))
   exact⟨y,ci,hci,hy⟩
  obtain⟨ys,hys,hy⟩:=Zeb len each;have hcl:∀i,i < len→∃y ci,ys[i]? =some y∧w.cells? 0 (a.add (i*P.cellsOf e)) (P.cellsOf e)=some ci∧Zg3 w ci (U.cellsE T y):=fun i hi=>by obtain⟨y,hyi⟩:∃y,ys[i]? =some y:=⟨_,ZnL (by omega)⟩;obtain⟨ci,h1,h2⟩:=hy i y hyi;exact⟨y,ci,hyi,h1,h2⟩
  refine⟨ys,.one ?_⟩;show RelP w _ (.slice (some a) len cap) (.sl (U.tsize T) (ys.map (U.encE T)));refine .sl (some a) len cap _ _ (fun i=>ZkN T ((w.cells? 0 (a.add (i*P.cellsOf e)) (P.cellsOf e)).getD [])) (by simp[hys]) (Nat.le_trans hw0 (by decide)) hl (fun i hi=> ?_) (fun i hi=> ?_) (fun i z hz=> ?_)
  ·obtain⟨y,ci,h1,h2,h3⟩:=hcl i hi;simp only[h2,Zns,(Zds hU hF h3).2];have:=h3.1;rw[ZbN hU]at this;simpa using this
  ·obtain⟨y,ci,h1,h2,h3⟩:=hcl i hi;have hlc:ci.length=U.tsize T:=by rw[h3.1,ZbN hU]
   obtain⟨_,hc1,hc2⟩:=World.cells?_some h2;have hspot:a.spot=none:=by
    obtain⟨y0,c0,_,h20,h30⟩:=hcl 0 (by omega);have hl0:c0.length=U.tsize T:=by rw[h30.1,ZbN hU]
    have h0:=(World.cells?_some h20).2.2 0 (by omega);rw[Nat.zero_mul,show (a.add 0).add 0=a from rfl,ZnL (by omega)]at h0;unfold World.cell? at h0;cases hs:a.spot with
    |none=>rfl
    |some s=>rw[hs]at h0;split at h0<;>simp at h0
   have ha:a=⟨a.block,a.off,none⟩:=by cases a;simp at hspot;subst hspot;rfl
   have hlt:a.block < w.heap.size:=by have:=World.cells?_block h2 (by omega);unfold Addr.add at this;split at this<;>exact this
   have hadd:∀n,a.add n=⟨a.block,a.off+n,none⟩:=fun n=>by
    unfold Addr.add;split
    ·rename_i h0;subst h0;exact ha
    ·rfl
   refine⟨a.block,a.off,by rw[←ha],hlt,fun j v hv=> ?_⟩;simp only[h2,Zns,(Zds hU hF h3).2]at hv;have hv':ci[j]? =some v:=by simpa using hv
   have hj:=(Zne.1 hv').1;have:=hc2 j (by omega);rw[hv',hadd,hsz]at this;rw[←this];congr 1;unfold Addr.add;split
   ·rename_i h0;subst h0;rfl
   ·rfl
  ·rw[Znf]at hz;cases hyi:ys[i]? with
   |none=>rw[hyi]at hz;simp at hz
   |some y=>
    rw[hyi]at hz;simp only[Zoe,Znv]at hz;subst hz;obtain⟨ci,h2,h3⟩:=hy i y hyi;simp only[h2,Zns];exact(Zds hU hF h3).1
abbrev Ys (U:Zc):List Ty→Type
 | []=>Unit
 |T::r=>El U.car T×Ys U r
def Ys.cells:(Ts:List Ty)→Ys U Ts→List (Lf U.car)
 | [],_=>[]
 |T::r,y=>U.cellsE T y.1++Ys.cells r y.2
def Zc8 (P:Program) (U:Zc):Nat→List Field→List Ty→Prop
 |_,[],[]=>True
 |off,f::fs,T::Ts=>f.offset=off∧P.cellsOf f.type=U.tsize T∧Zew P U f.type T∧Zc8 P U (off+U.tsize T) fs Ts
 |_,_,_=>False
def Zga (U:Zc):List Ty→Nat
 | []=>0
 |T::r=>U.tsize T+Zga U r
theorem Zea (hU:UOk U) {H:Type} (enc:TypeId×Value→H) (w:World) (n:Nat) (cs:List Value):∀(off:Nat) (fs:List Field) (Ts:List Ty) (xs:List (DataW H×List MemPlace)),Zc8 P U off fs Ts→xs.length=fs.length→
  (∀(i:Nat) (f:Field),fs[i]? =some f→DataW.trod enc P w 0 (fun _=>true) true n f.type ((cs.drop f.offset).take (P.cellsOf f.type))=xs[i]?)→
  (∀m∈DataW.weightsEach P (fs.map (·.type)) (xs.map (·.1)),m≤reachBytes)→cs.length=off+Zga U Ts→∃ys:Ys U Ts,Zg3 w (cs.drop off) (ys.cells Ts)
 |off,[],[],xs,_,_,_,_,hl=>⟨(),by simp[Ys.cells,Zg3,hl,Zga]⟩
 |off,f::fs,T::Ts,[],_,hx,_,_,_=>by simp at hx
 |off,f::fs,T::Ts,x::xs,⟨h1,h2,h3,h4⟩,hx,hf,hw,hl=>by
  have hf0:=hf 0 f rfl;rw[Znc,h1,h2]at hf0;simp only[Znh,DataW.weightsEach,Zni]at hw;obtain⟨y,hy⟩:=h3 enc w n _ x hf0 fun m hm=>hw m (.inl hm)
  obtain⟨ys,hys⟩:=Zea hU enc w n cs (off+U.tsize T) fs Ts xs h4 (by simpa using hx) (fun i g hg=>hf (i+1) g (by simpa using hg)) (fun m hm=>hw m (.inr hm)) (by simp only[Zga]at hl;omega);refine⟨(y,ys), ?_⟩;have:cs.drop off=(cs.drop off).take (U.tsize T)++cs.drop (off+U.tsize T):=by rw[←List.drop_drop,List.take_append_drop]
  rw[this];exact hy.append hys
 |_,[],_::_,_,h,_,_,_,_=>h.elim
 |_,_::_,[],_,h,_,_,_,_=>h.elim
theorem ZlH (hU:UOk U) {t:TypeId} {fs:Array Field} {k:Nat} {Ts:List Ty} (ht:P.underlying t=some (.struct fs)) (hs:P.cellsOf t=Zga U Ts) (hf:Zc8 P U 0 fs.toList Ts)
  (mk:∀ys:Ys U Ts,∃x:U.car k,U.cells k x=ys.cells Ts):Zew P U t (.st k):=fun enc w fuel cs x h hw=>by
 obtain⟨xs,n,_,rfl,hl,hx,hfs⟩:=DataW.trod_struct ht h;obtain⟨ys,hys⟩:=Zea hU enc w n cs 0 fs.toList Ts xs hf (by simpa using hx) (fun i f hi=>hfs i f (by simpa using hi)) (fun m hm=>hw m (by simpa[DataW.weights,ht]using hm)) (by rw[hl,hs];omega);obtain⟨y,hy⟩:=mk ys;refine⟨y, ?_⟩;show Zg3 w cs (U.cells k y);rw[hy];simpa using hys
def Zjk (T:Ty):Nat→List Ty
 |0=>[]
 |n+1=>T::Zjk T n
theorem Ziu (hU:UOk U) {H:Type} (enc:TypeId×Value→H) (w:World) (n:Nat) (cs:List Value) {e:TypeId} {T:Ty} (hsz:P.cellsOf e=U.tsize T) (he:Zew P U e T):∀(m:Nat) (i0:Nat) (xs:List (DataW H×List MemPlace)),xs.length=m→
  (∀(i:Nat),i < m→DataW.trod enc P w 0 (fun _=>true) true n e ((cs.drop ((i0+i)*P.cellsOf e)).take (P.cellsOf e))=xs[i]?)→
  (∀q∈DataW.weightsAll P e (xs.map (·.1)),q≤reachBytes)→cs.length=(i0+m)*U.tsize T→∃ys:Ys U (Zjk T m),Zg3 w (cs.drop (i0*U.tsize T)) (ys.cells (Zjk T m))
 |0,i0,xs,_,_,_,hl=>⟨(),by simp[Zjk,Ys.cells,Zg3,hl]⟩
 |m+1,i0,[],hx,_,_,_=>by simp at hx
 |m+1,i0,x::xs,hx,hf,hw,hl=>by
  have hf0:=hf 0 (by omega);rw[Znc,hsz,Nat.add_zero]at hf0;simp only[Znh,DataW.weightsAll,Zni]at hw;obtain⟨y,hy⟩:=he enc w n _ x hf0 fun m hm=>hw m (.inl hm)
  obtain⟨ys,hys⟩:=Ziu hU enc w n cs hsz he m (i0+1) xs (by simpa using hx) (fun i hi=>by have:=hf (i+1) (by omega);rw[List.getElem?_cons_succ]at this;rw[Nat.add_right_comm,Nat.add_assoc];exact this) (fun q hq=>hw q (.inr hq)) (by rw[hl];congr 1;omega)
  refine⟨(y,ys), ?_⟩;have:cs.drop (i0*U.tsize T)=(cs.drop (i0*U.tsize T)).take (U.tsize T)++cs.drop ((i0+1)*U.tsize T):=by rw[Nat.succ_mul,←List.drop_drop,List.take_append_drop]
  rw[this];exact hy.append hys
theorem Zmc (hU:UOk U) {t e:TypeId} {m k:Nat} {T:Ty} (ht:P.underlying t=some (.array m e)) (hs:P.cellsOf t=m*U.tsize T) (hsz:P.cellsOf e=U.tsize T) (he:Zew P U e T)
  (mk:∀ys:Ys U (Zjk T m),∃x:U.car k,U.cells k x=ys.cells (Zjk T m)):Zew P U t (.st k):=fun enc w fuel cs x h hw=>by
 obtain⟨xs,n,_,rfl,hl,hx,hfs⟩:=DataW.trod_array ht h;obtain⟨ys,hys⟩:=Ziu hU enc w n cs hsz he m 0 xs hx (fun i hi=>by rw[Nat.zero_add];exact hfs i hi) (fun q hq=>hw q (by simpa[DataW.weights,ht]using hq)) (by rw[hl,hs,Nat.zero_add]);obtain⟨y,hy⟩:=mk ys;refine⟨y, ?_⟩;show Zg3 w cs (U.cells k y);rw[hy];simpa using hys
theorem open_arg (hU:UOk U) (hF:ZmO U) {H:Type} {enc:TypeId×Value→H} {t:TypeId} {T:Ty} (ho:Zew P U t T) {w:World} {v:Value} {d:DataW H} {ps:List MemPlace} (h:DataW.Trod enc P w 0 (fun _=>true) true t v d ps)
  (hw:∀n∈d.weights P t,n≤reachBytes) (hv:ZkN T v.cells.toList=v):∃y:El U.car T,RelP w (fun b=>b < w.heap.size) v (U.encE T y):=by
 obtain⟨fuel,hf⟩:=h;obtain⟨y,hy⟩:=ho enc w fuel _ _ hf hw;refine⟨y, ?_⟩;have:=(Zds hU hF hy).1
 rwa [hv]at this
theorem okv_plain {w:World} {r:Reach} {base:Nat} {t:TypeId} {v:Value} {T:Ty} (hT:T.isSt=false) (ht:∃d,P.underlying t=some d∧(match d with | .bool | .string | .int _ | .slice _=>True |_=>False)) (h:Value.okWide P w r base t v):ZkN T v.cells.toList=v:=by
 obtain⟨d,hu,hd⟩:=ht;have key:v.cells= #[v]→ZkN T v.cells.toList=v:=fun he=>by unfold ZkN;rw[hT,he];rfl
 cases d<;>simp only at hd
 all_goals (simp only[Value.okWide,hu,Cell.okWide]at h;cases v<;>first |exact key rfl |(simp[Cell.ok,hu]at h;done))
theorem okv_st {w:World} {r:Reach} {base:Nat} {t:TypeId} {v:Value} {n:Nat} (ht:∃d,P.underlying t=some d∧(match d with | .struct _ | .array _ _=>True |_=>False)) (h:Value.okWide P w r base t v):ZkN (.st n) v.cells.toList=v:=by
 obtain⟨d,hu,hd⟩:=ht;cases d<;>simp only at hd
 all_goals (simp only[Value.okWide,hu]at h;obtain⟨cs,rfl,_⟩:=h;simp[ZkN,Ty.isSt,Value.cells])
theorem Zju.trod {H:Type} {enc:TypeId×Value→H} {t:TypeId} (hl:laidOutB P=true) (hr:P.readableRec t=true) (hrow:t < P.types.size) {W W':World} {v:Value} {d:DataW H} {ps:List MemPlace}
  (h:DataW.Trod enc P W 0 (fun _=>true) true t v d ps) (hk:Zju W W') (hlt:∀x∈ps,x.block < W.heap.size) {sp:Nat→Bool} (hsp:∀x∈ps,sp x.block=true):DataW.Trod enc P W' 0 sp true t v d ps:=
 WideElems.Trod_stays hl hr hrow h (fun x hx=>by
  have:=hk.2.2 _ (hlt x hx);cases x with
  |cell b o=>exact World.cell?_of_block (w:=W) this
  |map b=>exact this) hsp
end
end Eng

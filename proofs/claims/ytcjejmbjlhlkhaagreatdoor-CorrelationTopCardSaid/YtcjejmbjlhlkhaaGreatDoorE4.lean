/- The engine, text 4: an abstract evaluator of Go code over pure data, proved sound. -/
import Derived.Test.YtcjejmbjlhlkhaaGreatDoorE3
import Derived.Below
import Derived.Laws.OwnMore
import Derived.OpenShut
import Derived.SizedLaws
import Derived.WideKeyArgs
import Derived.Carry
set_option linter.all false
open Array renaming getElem?_eq_some_iff->Zmy
open Bool renaming and_eq_true->ZmC, false_eq_true->ZmD
open List renaming all_eq_true->Zm5, cons.injEq->ZnH, cons_append->Zm7, getElem?_cons_zero->Zne, getElem?_eq_getElem->ZmH, map_cons->ZmL, mem_append->ZmM, mem_cons->ZmN
open Option renaming getD_some->ZmW, isSome_iff_exists->ZnI, some.injEq->ZmZ
open Prod renaming mk.injEq->Zm0
namespace Eng
open Go
section
variable {U:Zc}
def resT (X:ZG U) (T:TS U):ResultVar->Option (TV U)
 | .tmp t=>some (T.slots t)
 | .cell ad t=>match X.get t with
  |some e=>match T.slots ad with
   | .pp cs=>Zdb e (cs.map lv)
   | .ptr id 0 j=>match T.objs id with
    |some (.box cs)=>Zdb e (cs.drop j)
    |_=>none
   |_=>none
  |none=>none
structure RET (U:Zc) where
 rv:TRV U
 fs:List Id:=[]
 id:Option Id:=none
def ZfS:List (TV U)->Option (List (Lf U.car)×Id×Nat×List (Lf U.car))
 | .v t x::r=>match ZfS r with
  |some (a,b)=>some (⟨t,x⟩::a,b)
  |none=>none
 | .full id n::r=>match Zh (fun d=>match d with |TV.v t x=>some (⟨t,x⟩:Lf U.car) |_=>none) r with
  |some q=>some ([],id,n,q)
  |none=>none
 |_=>none
theorem allLv:∀{r:List (TV U)} {q:List (Lf U.car)},Zh (fun d=>match d with |TV.v t x=>some (⟨t,x⟩:Lf U.car) |_=>none) r=some q->r=q.map lv
 | [],q,h=>by grind[Zh]
 |d::r,q,h=>by simp only[Zh]at h;split at h;rotate_left;simp at h;rename_i y ys h1 h2;cases h;split at h1;rotate_left;simp at h1;cases h1;rw[allLv h2];rfl
theorem Zjh:∀{cs:List (TV U)} {pre post:List (Lf U.car)} {id:Id} {n:Nat},ZfS cs=some (pre,id,n,post)->cs=pre.map lv++ .full id n::post.map lv:=by
 intro cs
 induction cs with
 |nil=>grind[ZfS]
 |cons d r ih=>
  intro pre post id n h;unfold ZfS at h;split at h
  ·rename_i t x r' he;simp only[ZnH]at he;obtain⟨rfl,rfl⟩:=he;split at h;rotate_left;simp at h;rename_i a b hb;simp only[ZmZ,Zm0]at h;obtain⟨rfl,rfl⟩:=h;rw[ih hb];rfl
  all_goals grind[allLv]
theorem ZfT (id:Id) (n:Nat) (a:List P):∀pre:List P,ZcZ (pre.map .p++ .sl id 0 n::a.map .p)=some (pre,id,n,a)
 | []=>by
  have h:∀l:List P,Zh D.pure? (l.map .p)=some l:=by
   intro l
   induction l with
   |nil=>rfl
   |cons x l b=>rw[ZmL,Zh,b];rfl
  grind[ZcZ]
 |x::pre=>by have:=ZfT id n a pre;grind[ZcZ]
def ZlE (T:TS U) (m:RM) (h:Option Nat) (d:TV U):Option (RET U):=
 match m,d with
 | .p,d=>match T.lf h d with
  |some l=>some {rv:= .p l,fs:=d.enc.ids T.enc.objs depth}
  |none=>none
 | .own,.full id _=>match T.objs id with
  |some (.arr t xs false)=>some {rv:= .own t xs,id:=some id}
  |_=>none
 | .box,.ptr id 0 0=>match T.objs id with
  |some (.box ds)=>match Zh T.lf1 ds with
   |some a=>some {rv:= .box a,fs:=(TV.encs ds).flatMap fun d=>d.ids T.enc.objs depth,id:=some id}
   |none=>none
  |_=>none
 | .map,.map id=>match T.objs id with
  |some (.map k v kv)=>some {rv:= .map k v kv,id:=some id}
  |_=>none
 | .view,.sl (0,k,0) off len=>some {rv:= .view k off len}
 | .view,.full (0,k,0) n=>some {rv:= .view k 0 n}
 | .aown,.agg cs=>match ZfS cs with
  |some (pre,id,_,post)=>match T.objs id with
   |some (.arr t xs false)=>some {rv:= .aown pre t xs post,id:=some id}
   |_=>none
  |none=>none
 |_,_=>none
def RET.re (x:RET U) (cs:List Bool):RE:={rv:=x.rv.enc,fs:=x.fs,id:=x.id,cond:=cs}
theorem resT_d (n:UOk U) {X:ZG U} (k:TOk X) {T:TS U} (m:T.Inv) {g:ResultVar} {d:TV U} (h:resT X T g=some d):Zk9 X.E T.enc g=some d.enc/\d.inv T.objs:=by
 unfold resT at h;split at h
 ·cases h;exact⟨rfl,m.slots _⟩
 ·rename_i ad t;split at h;rotate_left;simp at h;rename_i e a;split at h
  ·rename_i cs b;obtain⟨p,q,o⟩:=Za3 n k a h;refine⟨?_,ZaF (fun c f=> ?_) h⟩
   ·simp only[Zk9,Zw a,show T.enc.slots ad=(T.slots ad).enc from rfl,b,TV.enc,q,o]
   ·obtain⟨l,_,rfl⟩:=List.mem_map.1 f;exact Zai _ _
  ·rename_i id j b;split at h;rotate_left;simp at h;rename_i cs i;have:=Zcf n k a h;rw[Zbt]at this;exact⟨by simp only[Zk9,Zw a,show T.enc.slots ad=(T.slots ad).enc from rfl,b,TV.enc,Zf i,ZaP,this],ZaF (fun c f=>m.objs id _ i c (List.mem_of_mem_drop f)) h⟩
  simp_all
theorem Zkz (r:UOk U) {T:TS U} (p:T.Inv) {m:RM} {h:Option Nat} {d:TV U} {x:RET U} (hi:d.inv T.objs) (a:ZlE T m h d=some x):∃cs,Zi6 T.enc m d.enc=some (x.re cs)/\∀q∈cs,q=true:=by
 unfold ZlE at a;split at a
 ·split at a;rotate_left;simp at a;rename_i l e;cases a;exact⟨[],by grind[Zi6,depth,RET.re,TRV.enc,ZeS],by simp⟩
 ·rename_i id n;split at a;rotate_left;simp at a;rename_i t xs b;cases a;obtain⟨o,c,g⟩:=hi (id,n) (by simp[TV.fulls]);dsimp only at c;have e:=g t xs false (by simp_all);refine⟨[decide (n=(xs.map (U.encE t)).length)], ?_,by grind⟩;grind[Zi6,TV.enc,ZJ,RET.re,TRV.enc,Zf]
 ·rename_i id;split at a;rotate_left;simp at a;rename_i w b;split at a;rotate_left;simp at a;rename_i u f;cases a;refine⟨[], ?_,by simp⟩;simp only[Zi6,TV.enc,Zf b,ZaP,ZcJ (p.objs id _ b) f,RET.re,TRV.enc]
 ·rename_i id;split at a;rotate_left;simp at a;rename_i k v s b;cases a;simp_all[Zi6,TV.enc,Z0,RET.re,TRV.enc,Zf]
 ·cases a;exact⟨[],rfl,by simp⟩
 ·cases a;exact⟨[],rfl,by simp⟩
 ·split at a;rotate_left;simp at a;rename_i pre id n j i;obtain rfl:=Zjh i;split at a;rotate_left;simp at a;rename_i t xs b;cases a;obtain⟨o,c,g⟩:=hi (id,n) (by rw[TV.fulls];exact Zr.2 ⟨.full id n,by simp,by simp[TV.fulls]⟩);dsimp only at c;have e:=g t xs false (by simp_all);refine⟨[decide (n=(xs.map (U.encE t)).length)], ?_,by grind⟩;grind[Zh1,Zi6,ZfT,ZJ,RET.re,TRV.enc,Zf]
 simp_all
def Zc1 (T:TS U):List RM->List (Option Nat)->List (TV U)->Option (List (RET U))
 | [],_,[]=>some []
 |m::ms,h::hs,d::ds=>match ZlE T m h d,Zc1 T ms hs ds with
  |some a,some r=>some (a::r)
  |_,_=>none
 |_,_,_=>none
theorem Zf2 (k:UOk U) {T:TS U} (j:T.Inv):∀{ms:List RM} {f:List (Option Nat)} {e:List (TV U)} {c:List (RET U)},(∀d∈e,d.inv T.objs)->Zc1 T ms f e=some c->
  ∃b:List RE,Zh (fun x:RM×D=>Zi6 T.enc x.1 x.2) (ms.zip (TV.encs e))=some b/\e.length=ms.length/\b.map (·.rv)=c.map (fun a=>a.rv.enc)/\b.flatMap (·.fs)=c.flatMap (·.fs)/\(∀q∈b.flatMap (·.cond),q=true)/\b.map (·.id)=c.map (·.id)
 | [],f,[],c,_,h=>by simp only[Zc1,ZmZ]at h;subst h;exact⟨[],rfl,rfl,rfl,rfl,by simp,rfl⟩
 | [],f,d::e,c,_,h=>by grind[Zc1]
 |m::ms,[],e,c,_,h=>by grind[Zc1]
 |m::ms,hh::f,[],c,_,h=>by grind[Zc1]
 |m::ms,hh::f,d::e,c,hi,h=>by simp only[Zc1]at h;split at h;rotate_left;simp at h;rename_i a r u t;cases h;obtain⟨cs,q1,y⟩:=Zkz k j (hi d (by simp)) u;obtain⟨g,p,o,l,v,w,n⟩:=Zf2 k j (fun a s=>hi a (by grind)) t;refine⟨a.re cs::g,by grind[TV.encs,List.zip_cons_cons,Zh],by grind,by simp[RET.re,l],by simp[RET.re,v], ?_,by simp[RET.re,n]⟩;intro q i;simp only[List.flatMap_cons,ZmM]at i;exact i.elim (fun h=>y q h) (fun h=>w q h)
def ZkD (T:TS U) (k:Nat):Option ((Nat×ZR U)×List Id):=
 match T.objs (0,k,0)with
 |some (.box ds)=>match Zh T.lf1 ds with
  |some c=>some ((k,.box c),(TV.encs ds).flatMap fun d=>d.ids T.enc.objs depth)
  |none=>none
 |some (.arr t xs false)=>some ((k,.arr t xs),[])
 |some (.map a b kv)=>some ((k,.map a b kv),[])
 |_=>none
theorem ZlG {T:TS U} (e:T.Inv) {k:Nat} {x:(Nat×ZR U)×List Id} (h:ZkD T k=some x):Zmp T.enc k=some ((x.1.1,x.1.2.enc),x.2):=by
 unfold ZkD at h;unfold Zmp;split at h
 ·rename_i g c;split at h;rotate_left;simp at h;rename_i i d;cases h;simp only[Zf c,ZaP,Zab,ZcJ (e.objs _ _ c) d,ZR.enc]
 all_goals grind[ZJ,Zab,ZR.enc,Zf,Z0]
theorem ZhJ {T:TS U} (a:T.Inv):∀{ks:List Nat} {os:List ((Nat×ZR U)×List Id)},Zh (ZkD T) ks=some os->Zh (Zmp T.enc) ks=some (os.map fun x=>((x.1.1,x.1.2.enc),x.2))
 | [],os,h=>by grind[Zh]
 |k::ks,os,h=>by simp only[Zh]at h;split at h;rotate_left;simp at h;rename_i y d c b;cases h;simp only[Zh,ZlG a c,ZhJ a b,ZmL]
def Zik:Nat->List (RET U)->List (Id×Id)
 |_,[]=>[]
 |j,x::r=>match x.id with
  |some id=>((1,j,0),id)::Zik (j+1) r
  |none=>Zik (j+1) r
theorem Zfi:∀(j:Nat) (l:List (RET U)) (l':List RE),l'.map (·.id)=l.map (·.id)->Zil j l'=Zik j l
 |j,[],[],_=>rfl
 |j,[],_::_,h=>by grind
 |j,_::_,[],h=>by grind
 |j,x::l,y::l',h=>by
  simp only[ZmL,ZnH]at h;simp only[Zil,Zik,h.1];cases x.id with
  |none=>exact Zfi (j+1) l l' h.2
  |some id=>simp only[Zfi (j+1) l l' h.2]
def retT (X:ZG U) (T:TS U) (c:List ResultVar) (ms:List RM) (a:List (Option Nat)) (outs:List Nat):Option (ZbB U):=
 match Zh (resT X T) c with
 |some b=>match Zc1 T ms a b,Zh (ZkD T) outs with
  |some res,some os=>
   if Zf5 (T.freezeL (res.flatMap (·.fs)++os.flatMap (·.2))).enc (Zik 0 res++outs.map fun k=>((0,k,0),(0,k,0))) 2&&(res.map fun x=>x.rv.enc).all (ZfM outs)then
    some ⟨res.map (·.rv),os.map (·.1)⟩else none
  |_,_=>none
 |none=>none
theorem Zjt (g:UOk U) {X:ZG U} (e:TOk X) {T:TS U} (f:T.Inv):∀{c:List ResultVar} {a:List (TV U)},Zh (resT X T) c=some a->Zh (Zk9 X.E T.enc) c=some (TV.encs a)/\∀d∈a,d.inv T.objs
 | [],a,h=>by simp[Zh]at h;subst h;exact⟨rfl,by simp⟩
 |k::ks,a,h=>by
  simp only[Zh]at h;split at h;rotate_left;simp at h;rename_i y o l j;cases h;obtain⟨q1,n⟩:=resT_d g e f l;obtain⟨i,m⟩:=Zjt g e f j;grind[Zh,TV.encs]
theorem Zk8 (l:UOk U) {X:ZG U} (A:TOk X) {T:TS U} (g:T.Inv) {j:List ResultVar} {ms:List RM} {r:List (Option Nat)} {outs:List Nat} {t:ZbB U} (h:retT X T j ms r outs=some t):
  ∃k,Zmm X.E T.enc j ms outs=some (t.enc,k)/\∀q∈k,q=true:=by
 unfold retT at h;split at h;rotate_left;simp at h;rename_i B e;obtain⟨q1,s⟩:=Zjt l A g e;split at h;rotate_left;simp at h;rename_i a os c f;obtain⟨b,z,o,i,w,y,v⟩:=Zf2 l g s c;have m:=ZhJ g f;split at h;rotate_left;simp at h;rename_i d;cases h;refine⟨_, ?_,y⟩;unfold Zmm;rw[q1];simp only[Zaj,o,if_true,z,m];have p:Zil 0 b=Zik 0 a:=Zfi 0 a b v;have u:(os.map fun x=>((x.1.1,x.1.2.enc),x.2)).flatMap (·.2)=os.flatMap (·.2):=by rw[List.flatMap_map]
 have n:b.all (fun x=>ZfM outs x.rv)=(a.map fun x=>x.rv.enc).all (ZfM outs):=by grind
 simp_all[Eng.freezeL_enc,ZbB.enc]
theorem ZfJ:∀{l:List Bool},(∀q∈l,q=true)->Zln l
 | [],_=>trivial
 | [a],h=>h a (by simp)
 |a::b::r,h=>⟨h a (by simp),ZfJ fun q c=>h q (by grind)⟩
structure Cut (U:Zc) (R:Type) where
 live:List Nat
 frz:List Nat
 κ:List (TV U)->List (TO U)->Option R
structure Par (U:Zc) (R:Type) where
 X:ZG U
 sigs:List (Nat×Zi8 U)
 cuts:List (List Nat×Cut U R)
 back:Option (Cut U R)
 exits:List (Nat×Cut U R)
 lent:List Nat
 rs:List ResultVar
 rms:List RM
 rhs:List (Option Nat)
 ret:ZbB U->Option R
 keep:List Nat:=[]
 alt:List (Nat×Nat):=[]
inductive TI' where
 |c (p:List Nat) (c:Code)
 |ops (a:Array Oper) (i:Nat)
 |blk (id:Nat)
def TI'.conc:TI'->Item
 | .c _ x=> .c x
 | .ops a i=> .ops a i
 | .blk id=> .blk id
def Zcl (id:Nat):List TI'->Option (List TI')
 | .blk j::k=>if j=id then some k else Zcl id k
 |_::k=>Zcl id k
 | []=>none
noncomputable def agree {c:Type} (a b:Option c):Option c:= @ite _ (a=b) (Classical.propDecidable _) a none
variable {R:Type}
def ZgC:Nat->List (AET U)->List (Id×Id)
 |_,[]=>[]
 |k,x::r=>match x.id with
  |some id=>((0,k,0),id)::ZgC (k+1) r
  |none=>ZgC (k+1) r
def Zmg (d:Nat):List (Nat×Nat)->Option Nat
 | []=>none
 |x::l=>if x.1=d then some x.2 else Zmg d l
def ZlA (P:Par U R) (dst:Option Nat) (g:Nat):Option (Nat×Zi8 U):=
 match (match dst with |some d=>Zmg d P.alt |none=>none)with
 |some k=>match P.sigs[k]? with
  |some x=>if x.1 == g then some x else none
  |none=>none
 |none=>P.sigs.find? fun x=>x.1 == g
theorem Zjr {P:Par U R} {dst:Option Nat} {g:Nat} {a:Nat×Zi8 U} (h:ZlA P dst g=some a):a∈P.sigs/\a.1=g:=by
 unfold ZlA at h;grind
def ck {R:Type} (c:Option Bool) (k:Option R):Option R:=match c with
 |none=>k
 |some b=>chk b k
theorem Zl9 {R:Type} {c:Option Bool} {k:Option R} {r:R} (h:ck c k=some r):c≠some false/\k=some r:=by
 cases c with
 |none=>exact⟨by simp,h⟩
 |some b=>
  obtain⟨a,h⟩:=Zo h;simp_all
def fnOf (P:Par U R) (dst:Option Nat):Option (TV U)->Option (Option Bool×Nat×List (TV U)×List (TV U))
 |some (.fn g a b)=>some (none,g,a,b)
 |some (.v .fnc x)=>match (match dst with |some d=>Zmg d P.alt |none=>none)with
  |some k=>match P.sigs[k]? with
   |some s=>some (some (decide (x=some s.1)),s.1,[],[])
   |none=>none
  |none=>none
 |_=>none
def callT (P:Par U R) (T:TS U) (i:Nat) (dst:Option Nat) (c:Call) (k:Zi U->Option R):Option R:=
 match c.callee with
 | .value f=>match fnOf P dst (evT P.X T.slots 0 f)with
  |some (b,g,first,caps)=>ck b (match ZlA P dst g with
   |some h=>match Zde P.X T.slots c.args.toList h.2.pts with
    |some j=>match Z5 T h.2.ms h.2.hs (first++j++caps)with
     |some d=>if Zf5 (T.freezeL (d.flatMap (·.fs))).enc (ZgC 0 d) 1&&c.args.toList.all Zz&&Zz f then match h.2.sig (d.map (·.arg))with
      |some s=>s.o.bind fun a=>match Zgx T i d (s.give a)with
       |some e=>k e
       |none=>none
      |none=>none
      else none
     |none=>none
    |none=>none
   |none=>none)
  |none=>none
 |_=>none
def Zb3 (o:Oper):Bool:=match o.op with
 | .call c=>match c.callee with
  | .value _=>true
  |_=>false
 |_=>false
def Zkp (P:Par U R) (T:TS U) (i:Nat) (o:Oper) (a:Zi U->Option R):Option R:=
 if Zb3 o then match o.op with
  | .call c=>callT P T i o.dst c a
  |_=>none
 else Zl8 P.X T i o.op o.type a
def okE (P:Par U R) (T:TS U) (i:Nat) (o:Oper) (e:Zi U):Bool:=
 fresh T i e&&(if Zb3 o then Zdc P.X.E o else Zem T.enc (e.enc [])&&Zfk P.X.E o)
def fpT (P:Par U R) (T:TS U) (o:Oper) (e:Zi U):Fp:=
 ⟨if Zb3 o then ZaR P.X.E T.enc.slots T.enc.objs o.op.operands.toList else ZdU P.X.E o.op T.enc.slots T.enc.objs,e.wr.map (·.1),e.frz⟩
def ZhU (ops:Array Oper) (T:TS U) (o:Oper) (a:Bool->TS U->Option R):Option R:=
 match o.guard with
 |none=>a true T
 |some (g,w)=>match (ops[g]?).bind (·.dst)with
  |some t=>match T.slots t with
   | .v .bool b=>bif b then a w (T.setO (some t) (.v .bool true))else a (!w) (T.setO (some t) (.v .bool false))
   | .undef=>a false T
   |_=>none
  |none=>a false T
def ZlP (X:ZG U) (T:TS U) (o:Oper):Option (Bool×Bool):=
 match o.op with
 | .binOp b t x (.const (.slice none 0 0)) _=>match X.get t,evT X T.slots 0 x with
  |some e,some d=>match e.ti.d with
   | .sl _=>match (match b with | .eql=>some true | .neq=>some false |_=>none)with
    |some q=>match d with
     | .v (.sl _) xs=>some (List.isEmpty xs,q)
     | .full id _=>match T.objs id with
      |some (.arr _ xs _)=>some (List.isEmpty xs,q)
      |_=>none
     |_=>none
    |none=>none
   |_=>none
  |_,_=>none
 |_=>none
noncomputable def Zdx {a β:Type} (xs:List a) (f:a->List a->Option β):Option β:=
 @dite _ (∃r,∀(j:Nat) q,xs[j]? =some q->f q (xs.eraseIdx j)=some r) (Classical.propDecidable _) (fun h=>some h.choose) fun _=>none
theorem Zf4 {a β:Type} {xs:List a} {f:a->List a->Option β} {r:β} (h:Zdx xs f=some r) {j:Nat} {q:a} (b:xs[j]? =some q):f q (xs.eraseIdx j)=some r:=by unfold Zdx at h;split at h;all_goals grind
theorem Zmo {a β:Type} {xs:List a} {f:a->List a->Option β} {r:β} (b:xs≠[]) (h:∀(j:Nat) q,xs[j]? =some q->f q (xs.eraseIdx j)=some r):Zdx xs f=some r:=by
 unfold Zdx;have d:∃r,∀(j:Nat) q,xs[j]? =some q->f q (xs.eraseIdx j)=some r:=⟨r,h⟩;rw[dif_pos d]
 match xs,b with
 |x::l,_=>
  have e:=d.choose_spec 0 x rfl;grind
structure MitI (U:Zc) where
 id:Id
 a:Ty
 b:Ty
 rest:List (El U.car a×El U.car b)
def nextM (X:ZG U) (T:TS U) (o:Oper):Option (MitI U):=
 match o.op with
 | .next c false=>match evT X T.slots 0 c with
  |some (.it id)=>match T.objs id with
   |some (.mit a b rest _)=>if T.fz id=false then some ⟨id,a,b,rest⟩else none
   |_=>none
  |_=>none
 |_=>none
def ZjO (P:Par U R) (c:Cut U R) (T:TS U):Option R:=
 match Zj5 T P.lent c.live c.frz with
 |some q=>c.κ q.1 q.2
 |none=>none
def ZkO (P:Par U R) (T:TS U):Option R:=
 match retT P.X T P.rs P.rms P.rhs P.lent with
 |some t=>P.ret t
 |none=>none
noncomputable def evl (P:Par U R):Nat->Option (Array Oper×List Fp)->List TI'->TS U->Option R
 |0,_,_,_=>none
 |n+1,some (ops,hist),pre,T=>match ops[hist.length]? with
  |none=>if Zgt ops T.ep hist&&decide (hist.length=ops.size)then evl P n none pre T.next else none
  |some o=>ZhU ops T o fun g T=>match g with
   |true=>Zkp P T hist.length o fun e=>if okE P T hist.length o e&&live ops o T.enc (fpT P T o e)then evl P n (some (ops,hist++[fpT P T o e])) pre (T.app hist.length o.dst e)else none
   |false=>if Zdc P.X.E o&&live ops o T.enc {}then evl P n (some (ops,hist++[{}])) pre (T.app hist.length o.dst {val:= .undef})else none
 |n+1,none,[],T=>match P.back with
  |some c=>ZjO P c T
  |none=>ZkO P T
 |n+1,none,.blk _::pre,T=>evl P n none pre T
 |n+1,none,.ops ops i::pre,T=>match ops[i]? with
  |none=>evl P n none pre T.next
  |some o=>ZhU ops T o fun g T=>match g with
   |true=>match ZlP P.X T o with
    |some (em,q)=>if Zdc P.X.E o&&Zfk P.X.E o then bif em then agree (evl P n none (.ops ops (i+1)::pre) (T.app i o.dst {val:= .v .bool true})) (evl P n none (.ops ops (i+1)::pre) (T.app i o.dst {val:= .v .bool false}))
      else evl P n none (.ops ops (i+1)::pre) (T.app i o.dst {val:= .v .bool (!q)})
     else none
    |none=>match nextM P.X T o with
     |some m=>if Zfk P.X.E o then bif List.isEmpty m.rest then evl P n none (.ops ops (i+1)::pre) (T.app i o.dst {val:= .tup [.v .bool false]})
       else Zdx m.rest fun q rest=>evl P n none (.ops ops (i+1)::pre) (T.app i o.dst {val:= .tup [.v .bool true,.v m.a q.1,.v m.b q.2],wr:=[(m.id,.mit m.a m.b rest (some q))]})
      else none
     |none=>match ZkV P.X T o with
      |some m=>if Zfk P.X.E o then anyN m fun c=>evl P n none (.ops ops (i+1)::pre) (T.app i o.dst {val:= .v (.int .i64) (c:Int)})else none
      |none=>match ZkM P.keep P.X T o with
       |some q=>if Zfk P.X.E o then chk (Zi5 (List.length q.xs+List.length q.ys) q.by_) (evl P n none (.ops ops (i+1)::pre) (T.app i o.dst {val:= .v (.sl q.t) (List.append q.xs q.ys),wr:=[(q.id,.arr q.t q.xs true)],frz:=[q.id]}))else none
       |none=>Zkp P T i o fun e=>if okE P T i o e then evl P n none (.ops ops (i+1)::pre) (T.app i o.dst e)else none
   |false=>if Zdc P.X.E o then evl P n none (.ops ops (i+1)::pre) (T.app i o.dst {val:= .undef})else none
 |n+1,none,.c p c::pre,T=>match P.cuts.find? fun x=>x.1 == p with
  |some x=>ZjO P x.2 T
  |none=>match c with
   | .skip=>evl P n none pre T
   | .seq a b=>evl P n none (.c (0::p) a:: .c (1::p) b::pre) T
   | .block id b=>evl P n none (.c (4::p) b:: .blk id::pre) T
   | .region _ ops false=>evl P n none (.ops ops 0::pre) T
   | .region _ ops true=>evl P n (some (ops,[])) pre T
   | .cond c a b=>if Zz c then match evT P.X T.slots 0 c with
    |some (.v .bool x)=>bif x then evl P n none (.c (2::p) a::pre) T else evl P n none (.c (3::p) b::pre) T
    |_=>none
    else none
   | .exit id=>match Zcl id pre with
    |some d=>evl P n none d T
    |none=>match P.exits.find? fun x=>x.1 == id with
     |some x=>ZjO P x.2 T
     |none=>none
   | .ret=>ZkO P T
   |_=>none
end
end Eng
namespace Eng
open Go
section
variable {U:Zc} {R:Type}
def atP (root:Code×List Item):List Nat->Option (Code×List Item)
 | []=>some root
 |d::p=>match atP root p with
  |some (c,k)=>match d,c with
   |0,.seq a b=>some (a,.c b::k)
   |1,.seq _ b=>some (b,k)
   |2,.cond _ a _=>some (a,k)
   |3,.cond _ _ b=>some (b,k)
   |4,.block id b=>some (b,.blk id::k)
   |5,.loop b=>some (b,.lp b::k)
   |_,_=>none
  |none=>none
def Wf (root:Code×List Item) (base:List Item):List TI'->Prop
 | []=>True
 | .c p c::k=>atP root p=some (c,k.map TI'.conc++base)/\Wf root base k
 | .blk _::k=>Wf root base k
 | .ops _ _::k=>Wf root base k
def Zei (E:Env) (g:Nat) (b:Zi8 U):Prop:=
 ∀args s,b.sig args=some s->∀a,s.o=some a->Fun E g (args.map ZR.enc) (s.give a).enc/\Zej args (s.give a)
def Hcut (P:Par U R) (C:Ctx) (fm:Fm) (fn:Func) (RT:Ret) (r:R) (a:Cut U R) (k:List Item):Prop:=
 ∀b os,(mkC P.lent a.live b os).Inv->a.κ b os=some r->AWP C fm (Zim C fn RT) k (mkC P.lent a.live b os).enc
structure Hyp (P:Par U R) (C:Ctx) (fm:Fm) (fn:Func) (RT:Ret) (r:R) (root:Code×List Item) (base:List Item):Prop where
 hU:UOk U
 hX:TOk P.X
 hE:Zl C.E
 hCE:C.E=P.X.E
 mixed:C.E.prog.follows .mixedOrders=true
 rs:fn.results.toList=P.rs
 ds:fm.ds=[]
 sigs:∀x∈P.sigs,Zei P.X.E x.1 x.2
 cuts:∀x∈P.cuts,∀c k,atP root x.1=some (c,k)->Hcut P C fm fn RT r x.2 (.c c::k)
 back:∀c,P.back=some c->Hcut P C fm fn RT r c base
 noback:P.back=none->base=[]
 exits:∀x∈P.exits,∃k,Zak x.1 base=some k/\Hcut P C fm fn RT r x.2 k
 ret:∀t,P.ret t=some r->t.enc=RT
section
variable {P:Par U R} {C:Ctx} {fm:Fm} {fn:Func} {RT:Ret} {r:R} {root:Code×List Item} {base:List Item} {G:Zkg}
theorem Zh8 {ops:Array Oper} {i:Nat} {k:List Item} {st st':St} (hi:i < ops.size) (h:Exec C fm ops i st st') (h1:AWP C fm G (.ops ops (i+1)::k) st'):AWP C fm G (.ops ops i::k) st:=by intro ρ S a w hrep hd b k0 cs hb;have hrep:Rep C (fun j=>j < i) ρ S st a.tmps w:=hrep;obtain⟨ρ',S',a',w',hr',hd',hs⟩:=h (fun j=>j < i) (by simp) ρ S a w hrep hd b (List.range' (i+1) (ops.size - (i+1))) (k.map conc++k0) cs hb;obtain⟨e2,a2',w2,hg2,harr⟩:=h1 ρ' S' a' w' (hr'.weakX (fun j hj=>by grind[Xof])) hd' b k0 cs hb;refine⟨e2,a2',w2,hg2,.of_steps ?_ harr⟩;grind[conc,Za1]
theorem Zk0 {k:List Item} {d:St} {t:Nat} (h:∀b,AWP C fm G k (d.set t (.p (.bool b)))):AWP C fm G k (d.set t .anyb):=by
 intro ρ S a w c j;have i:=c.slots t;have l:(d.set t .anyb).slots t= .anyb:=by simp[St.set,upd]
 rw[l]at i;generalize hv:a.tmps.getD t undef=v at i;cases i with
 |anyb b=>
  refine h b ρ S a w ?_ j;have f:∀e,RelD w S ρ (a.tmps.getD e undef) ((d.set t (.p (.bool b))).slots e):=fun e=>by
   have:=c.slots e;simp only[St.set,upd]at this|-
   split
   ·rename_i g;subst g;rw[hv];exact .p _ _ (.bool b)
   simp_all
  exact⟨c.nt,c.grow,c.frame,c.s0,c.sIn,f,c.objs,c.own,c.inj,c.known,c.young,c.fzk,c.glob,c.sOut,c.ep1,c.quiet,c.lay⟩
theorem Zho (g:Nat) (a b:List D):Zb6 (fnD g a b)=some (g,a,b):=by
 grind[fnD,Zb6,Zt]
theorem Zee:∀(j:Nat) (l:List (AET U)) (l':List AE),l'.map (·.id)=l.map (·.id)->Zaa j l'=ZgC j l
 |j,[],[],_=>rfl
 |j,[],_::_,h=>by grind
 |j,_::_,[],h=>by grind
 |j,x::l,y::l',h=>by
  simp only[ZmL,ZnH]at h;simp only[Zaa,ZgC,h.1];cases x.id with
  |none=>exact Zee (j+1) l l' h.2
  |some id=>simp only[Zee (j+1) l l' h.2]
theorem Zhe (a b:List (TV U)):TV.encs (a++b)=TV.encs a++TV.encs b:=by grind[Zac]
theorem ZkP (e:TOk P.X) {T:TS U} (l:T.Inv) {dst:Option Nat} {f:Operand} {g:Nat} {a b:List (TV U)} {c:Option Bool} (i:c≠some false) (h:fnOf P dst (evT P.X T.slots 0 f)=some (c,g,a,b)):
  ev P.X.E T.enc.slots 0 f=fnD g (TV.encs a) (TV.encs b)/\(TV.fn g a b).inv T.objs:=by
 unfold fnOf at h;split at h
 ·rename_i p m b' d;simp only[ZmZ,Zm0]at h;obtain⟨-,rfl,rfl,rfl⟩:=h;exact⟨by simp_all[Zb,TV.enc],ZE l d⟩
 ·rename_i x d;split at h;rotate_left;simp at h;rename_i k n;split at h;rotate_left;simp at h;rename_i s o;simp only[ZmZ,Zm0]at h;obtain⟨rfl,rfl,rfl,rfl⟩:=h;have j:x=some s.1:=by simp_all
  subst j;exact⟨by rw[Zb e d];rfl,Zg rfl⟩
 simp_all
theorem ZhB (H:Hyp P C fm fn RT r root base) {T:TS U} (F:T.Inv) {ops:Array Oper} {i:Nat} {o:Oper} {O:Zi U->Option R} (S:ZQ ops T.enc o.guard=some true) (h:Zkp P T i o O=some r):
  ∃e,ZK T i e/\O e=some r/\(okE P T i o e=true->∃cs,OE C ops i o T.enc (e.enc cs) (fpT P T o e).R):=by
 unfold Zkp at h;split at h
 ·rename_i u;unfold Zb3 at u;split at u;rotate_left;simp at u;rename_i c m;split at u;rotate_left;simp at u;rename_i f k;rw[m]at h;simp only[callT,k]at h;split at h;rotate_left;simp at h;rename_i b g t B hf
  obtain⟨hb,h⟩:=Zl9 h;obtain⟨I,w⟩:=ZkP H.hX F hb hf;split at h;rotate_left;simp at h;rename_i D N;obtain⟨x,L⟩:=Zjr N;split at h;rotate_left;simp at h;rename_i ds A;split at h;rotate_left;simp at h;rename_i X z;split at h;rotate_left;simp at h;rename_i l;simp only[ZmC]at l;split at h;rotate_left;simp at h;rename_i s hs;obtain⟨a,Z,h⟩:=bind_some h;split at h;rotate_left;simp at h;rename_i e Q;obtain⟨n,M⟩:=H.sigs D x _ s hs a Z;have K:∀d∈t++ds++B,d.inv T.objs:=by
   intro d p;simp only[ZmM]at p;rcases p with (p |p) |p
   ·exact fun q G=>w q (by grind[TV.fulls,Zr])
   ·grind[Zea]
   ·exact fun q G=>w q (by grind[TV.fulls,Zr])
  obtain⟨y,p1,Y,p3,W,p5,V⟩:=Ze4 H.hU F K z;refine⟨e,ZiV z M Q,h,fun v=>⟨[], ?_⟩⟩;have j:Zb3 o=true:=by grind[Zb3]
  simp only[okE,j,if_true,ZmC]at v;have E:Zla C.E T.enc c D.2.pts D.2.ms=some (g,y):=by unfold Zla;rw[H.hCE];simp only[k,I,Zho,ZbJ H.hX A,<-Zhe,Zaj,Y,if_true,p1,W,<-Eng.freezeL_enc,Zee 0 X y V,l.1.1,l.1.2,l.2,Bool.and_self]
  have J:(fpT P T o e).R=ZaR C.E T.enc.slots T.enc.objs c.operands.toList:=by simp only[fpT,j,if_true,H.hCE,m,Op.operands]
  rw[J];refine .call (pts:=D.2.pts) (ms:=D.2.ms) S m (by rw[H.hCE];grind) E (ZfJ p5) ?_ (ZiW V W Q);rw[p3,H.hCE,<-L];rw[List.map_map]at n;exact n
 ·rename_i u;obtain⟨e,cs,h1,h2,h3,h4⟩:=snd H.hU H.hX F h;refine⟨e,h3,h4,fun v=>⟨cs, ?_⟩⟩;have j:Zb3 o=false:=by simpa using u
  simp only[okE,j,ZmD,if_false,ZmC]at v;have J:(fpT P T o e).R=ZdU C.E o.op T.enc.slots T.enc.objs:=by simp only[fpT,j,ZmD,if_false,H.hCE]
  rw[J];exact .op S (by rw[H.hCE];exact h1) (by rw[H.hCE];exact v.2.2) v.2.1 h2
theorem ZhE {T:TS U} {t:Nat} {d:TV U} (h:T.slots t=d):T.setO (some t) d=T:=by
 have:upd T.slots t d=T.slots:=by
  grind[upd]
 simp_all[TS.setO]
theorem Zgp {ops:Array Oper} {T:TS U} {o:Oper} {e:Bool->TS U->Option R} (h:ZhU ops T o e=some r):∃g,ZQ ops T.enc o.guard=some g/\e g T=some r:=by
 unfold ZhU at h;unfold ZQ;split at h
 ·simp_all
 ·rename_i g w c;rw[c];simp only;split at h
  ·rename_i t d;rw[d];simp only;rw[show T.enc.slots t=(T.slots t).enc from rfl];split at h
   ·rename_i b a;rw[a];cases b
    ·refine⟨!w, ?_,by grind[ZhE]⟩;simp_all[TV.enc,Zc.encE]
    simp_all[ZhE,TV.enc,Zc.encE]
   ·rename_i a;rw[a];exact⟨false,rfl,h⟩
   simp_all
  grind
theorem Z9 {id:Nat}:∀{pre b:List TI'},Zcl id pre=some b->(∀base,Zak id (pre.map TI'.conc++base)=some (b.map TI'.conc++base))/\(Wf root base pre->Wf root base b)
 | [],_,h=>by grind[Zcl]
 |x::k,b,h=>by
  cases x with
  |blk j=>
   simp only[Zcl]at h;split at h
   ·rename_i e;cases h;exact⟨fun base=>by simp[TI'.conc,Zak,e],fun hw=>hw⟩
   ·rename_i e;obtain⟨q1,d⟩:=Z9 h;exact⟨fun base=>by grind[TI'.conc,Zak],fun hw=>d hw⟩
  |c p c=>
   simp only[Zcl]at h;obtain⟨q1,d⟩:=Z9 h;exact⟨fun base=>by grind[TI'.conc,Zak],fun hw=>d hw.2⟩
  |ops a i=>
   simp only[Zcl]at h;obtain⟨q1,d⟩:=Z9 h;exact⟨fun base=>by grind[TI'.conc,Zak],fun hw=>d hw⟩
theorem ZbH {id:Nat}:∀{pre:List TI'},Zcl id pre=none->∀base,Zak id (pre.map TI'.conc++base)=Zak id base
 | [],_,base=>rfl
 |x::k,h,base=>by
  cases x with
  |blk j=>
   simp only[Zcl]at h;split at h
   ·grind
   ·rename_i b;simp only[ZmL,Zm7,TI'.conc,Zak,b,if_false];exact ZbH h base
  |c p c=>simp only[Zcl]at h;simp only[ZmL,Zm7,TI'.conc,Zak];exact ZbH h base
  |ops a i=>simp only[Zcl]at h;simp only[ZmL,Zm7,TI'.conc,Zak];exact ZbH h base
theorem ZdT (H:Hyp P C fm fn RT r root base) {T:TS U} (f:T.Inv) {a:Cut U R} {k:List Item} (e:Hcut P C fm fn RT r a k) (h:ZjO P a T=some r):AWP C fm (Zim C fn RT) k T.enc:=by unfold ZjO at h;split at h;rotate_left;simp at h;rename_i q b;obtain⟨d,c⟩:=ZiS (C:=C) (r:=fm) (G:=Zim C fn RT) (k:=k) H.hU f b;exact c (e q.1 q.2 d h)
theorem Zis (w:TOk P.X) {T:TS U} (C:T.Inv) {o:Oper} {i em q} (h:ZlP P.X T o=some (em,q)):
  (em=false->Zd P.X.E T.ep i o.op o.type T.enc.slots T.enc.objs=some {val:= .p (.bool !q)})/\(em=true->Zd P.X.E T.ep i o.op o.type T.enc.slots T.enc.objs=some {val:= .anyb}):=by
 unfold ZlP at h;split at h;rotate_left;simp at h;rename_i b t x u j;rw[j];split at h;rotate_left;simp at h;rename_i e d s g;split at h;rotate_left;simp at h;rename_i E m;split at h;rotate_left;simp at h;rename_i z a;have fin:∀v:D,(Zc3 e.ti.d (.const (.slice none 0 0)) (T.enc |> fun _=>d.enc)=some v)->∀f,(v=if f then .anyb else .p (.bool false))->some (f,z)=some (em,q)->
   (em=false->Zd P.X.E T.ep i (.binOp b t x (.const (.slice none 0 0)) u) o.type T.enc.slots T.enc.objs=some {val:= .p (.bool !q)})/\(em=true->Zd P.X.E T.ep i (.binOp b t x (.const (.slice none 0 0)) u) o.type T.enc.slots T.enc.objs=some {val:= .anyb}):=by
  grind[Operand.isNil,Zd,Zs,Zb,reduceCtorEq,D.notb]
 split at h
 ·rename_i B xs;refine fin _ ?_ _ rfl h;simp only[m,TV.enc,Zc.encE,Zc3,List.isEmpty_map]
 ·rename_i id n;split at h;rotate_left;simp at h;rename_i B xs fix A;have y:=Za5 C g A;refine fin _ ?_ _ rfl h;simp only[m,TV.enc,Zc3];rw[y];cases xs<;>simp
 simp_all
theorem Zhr {ops:Array Oper} {i:Nat} {o:Oper} {k:List Item} {p:St} (t:ops[i]? =some o) (B:ZQ ops p o.guard=some true) (u:∀c,o.op≠ .defer c)
  (h:∀(ρ:Id->Option Lay) (S:Nat->Prop) (a:Act) (w:World),Rep C (fun j=>j < i) ρ S p a.tmps w->a.defers=fm.ds->∃f v w',(execOp a.eval o).run C.E.prog w= .ok (.value v) w'/\(∃ρ' S',Rep C (fun j=>j < i\/j=i) ρ' S' f (a.put o.dst v).tmps w')/\AWP C fm G (.ops ops (i+1)::k) f):
  AWP C fm G (.ops ops i::k) p:=by
 have hi:i < ops.size:=(Zmy.1 t).1;intro ρ S a w d y b k0 cs E;have d:Rep C (fun j=>j < i) ρ S p a.tmps w:=d;have g:=ZaT d B;obtain⟨f,v,w',l,⟨ρ',S',r⟩,z⟩:=h ρ S a w d y;obtain⟨D,q,A,s,m⟩:=z ρ' S' (a.put o.dst v) w' (r.weakX (fun j F=>by grind[Xof])) (by simp[y]) b k0 cs E;refine⟨D,q,A,s,.of_steps ?_ m⟩;have n:o.semAt b.roundOf a.eval=execOp a.eval o:=Oper.semAt_eq _ _ _ u;have x:=stepGR_op (P:=C.E.prog) (b:=b) (a:=a) (k:=k.map conc++k0) (cs:=cs) (w:=w) (i:=i) (rest:=List.range' (i+1) (ops.size - (i+1))) t g;have e:=Frame.finish_atR b a ops i (List.range' (i+1) (ops.size - (i+1))) (k.map conc++k0) v;simp only[t,Option.bind_some]at e;refine .one (Zx _ _ _) ?_;simp only[ZmL,Zm7,conc,Za1 hi];refine step_lone_go ?_;simp_all[stepG.apply]
theorem ZjE {a β c b:Type} (f:a->c) (g:β->b) (l:List (a×β)) (j:Nat):(l.map fun e=>(f e.1,g e.2)).eraseIdx j=(l.eraseIdx j).map fun e=>(f e.1,g e.2):=by
 induction l generalizing j with
 |nil=>simp
 |cons x l d=>cases j with
  |zero=>simp
  |succ j=>grind
theorem Zl4 (H:Hyp P C fm fn RT r root base):∀(n:Nat),
  (∀pre T,Wf root base pre->T.Inv->evl P n none pre T=some r->AWP C fm (Zim C fn RT) (pre.map TI'.conc++base) T.enc)/\
  (∀pre T ops z,Wf root base pre->T.Inv->evl P n (some (ops,z)) pre T=some r->DW C fm (Zim C fn RT) (pre.map TI'.conc++base) ops z T.enc):=by
 intro n
 induction n with
 |zero=>grind[evl]
 |succ n ih=>
  obtain⟨s,ac⟩:=ih;refine⟨fun pre T hw y h=> ?_,fun pre T ops z hw y h=> ?_⟩
  ·match pre with
   | []=>
    simp only[evl]at h;split at h
    ·rename_i c N;exact ZdT H y (H.back c N) h
    ·rename_i hb;rw[H.noback hb];unfold ZkO at h;split at h;rotate_left;simp at h;rename_i t R;obtain⟨ps,q1,q2⟩:=Zk8 H.hU H.hX y R;exact Zme _ ps P.rms P.lent H.hE (by rw[H.hCE,H.rs];omega) (H.ret t h) (ZfJ q2) H.ds
   | .blk id::pre=>
    simp only[evl]at h;exact Zal (ps':=[]) H.hE 1 _ _ [] rfl (by simp) (s pre T hw y h)
   | .ops ops i::pre=>
    simp only[evl]at h;split at h
    ·rename_i hn;exact Zal (ps':=[]) H.hE 1 (.ops ops i::_) _ [] (by simp only[run,hn];rfl) (by simp) (s pre T.next hw y.next h)
    ·rename_i o M;have hi:i < ops.size:=(Zmy.1 M).1;obtain⟨g,O,h⟩:=Zgp h;cases g with
     |true=>
      simp only at h;split at h
      ·rename_i em q K;split at h;rotate_left;simp at h;rename_i f;simp only[ZmC]at f;obtain⟨c1,c2⟩:=Zis (i:=i) H.hX y K;have ai:∀b,ZK T i {val:=(.v .bool b:TV U)}:=fun b=>ZK.pure (Zai _ _)
       have fr:∀b,fresh T i {val:=(.v .bool b:TV U)}=true:=fun b=>rfl
       have step:∀(v:D),Zd P.X.E T.ep i o.op o.type T.enc.slots T.enc.objs=some {val:=v}->AWP C fm (Zim C fn RT) (.ops ops (i+1)::(pre.map TI'.conc++base)) (T.enc.app i o.dst {val:=v})->AWP C fm (Zim C fn RT) (.ops ops i::(pre.map TI'.conc++base)) T.enc:=fun v ap h1=>
        Zlm (e:={val:=v}) H.hE M O (by rw[H.hCE];exact ap) (by rw[H.hCE];grind) rfl (by simp) h1
       have aa:∀b,evl P n none (.ops ops (i+1)::pre) (T.app i o.dst {val:= .v .bool b})=some r->AWP C fm (Zim C fn RT) (.ops ops (i+1)::(pre.map TI'.conc++base)) (T.enc.app i o.dst {val:= .p (.bool b)}):=fun b hb=>by have:=s (.ops ops (i+1)::pre) _ hw (y.app (fr b) (ai b)) hb;rw[Zbb T i o.dst _ []]at this;exact this
       cases em with
       |false=>exact step _ (c1 rfl) (aa _ h)
       |true=>
        simp only[cond_true,agree]at h;split at h;rotate_left;simp at h;rename_i av;have R:=aa true h;have hf:=aa false (by simp_all);refine step _ (c2 rfl) ?_;cases L:o.dst with
        |none=>rw[L]at R;exact R
        |some t=>
         rw[L]at R hf;exact Zk0 fun b=>by cases b;(·exact hf);exact R
      ·split at h
       ·rename_i m B;split at h;rotate_left;simp at h;rename_i f;unfold nextM at B;split at B;rotate_left;simp at B;rename_i it Y;split at B;rotate_left;simp at B;rename_i id au;split at B;rotate_left;simp at B;rename_i ka kb rest ao am;split at B;rotate_left;simp at B;rename_i aq;cases B;have aj:Zz it=true:=by grind[Zfk,Op.operands]
        have al:∀d,o.dst=some d->d < C.E.nt:=by rw[H.hCE];simp only[Zfk,ZmC]at f;exact Za9 f.1
        have an:ev C.E T.enc.slots 0 it= .it id:=by rw[H.hCE,Zb H.hX au];rfl
        have ag:T.enc.objs id=some (.mit (rest.map fun e=>(U.encE ka e.1,U.encE kb e.2)) (ao.map fun e=>(U.encE ka e.1,U.encE kb e.2))):=Zf am;refine Zhr M O (fun c N=>by simp_all) fun ρ S a w F L=> ?_
        rcases ZkF F (Nat.lt_irrefl i) al aj Y an ag aq with ⟨K,v,w',A,u⟩ |⟨j,q,I,v,w',A,u⟩
        ·have:rest=[]:=by simp_all
         subst this;refine⟨_,v,w',A,u, ?_⟩;have:=s (.ops ops (i+1)::pre) _ hw (y.app (dst:=o.dst) rfl (ZK.pure (Zg (by simp[TV.fulls,TV.fullsL])))) h;rw[Zbb T i o.dst _ []]at this;exact this
        ·have as:List.isEmpty rest=false:=by
          grind
         rw[List.getElem?_map]at I;cases hr:rest[j]? with
         |none=>simp_all
         |some q0=>
          rw[hr]at I;simp only[Option.map_some,ZmZ]at I;subst I;simp only[as,cond_false]at h;have hb:=Zf4 h hr;refine⟨_,v,w',A,u, ?_⟩;have:=s (.ops ops (i+1)::pre) _ hw (y.app (dst:=o.dst) rfl (Zb5 (by simp[TV.fulls,TV.fullsL]) (fun t xs fix he=>by grind) (fun _=>by trivial))) hb;rw[Zbb T i o.dst _ []]at this;simp only[Zi.enc,TV.enc,TV.encs,Zc.encE,ZmL,List.map_nil,Zbu,Option.map_some,<-ZjE]at this;exact this
       split at h
       ·rename_i m B;split at h;rotate_left;simp at h;rename_i f;refine Zhr M O (fun c N=> ?_) fun ρ S a w F L=> ?_
        ·grind[ZkV]
        obtain⟨_,c,aw,ar,v,A,u⟩:=ZiR H.hX y H.hCE F (Nat.lt_irrefl i) H.hE f B;refine⟨_,v,w,A,u, ?_⟩;have:=s (.ops ops (i+1)::pre) _ hw (y.app (dst:=o.dst) rfl (ZK.pure (Zai _ _))) (Zkf h aw ar);rw[Zbb T i o.dst _ []]at this;exact this
       split at h
       ·rename_i q I;split at h;rotate_left;simp at h;rename_i f;obtain⟨ab,h⟩:=Zo h;refine Zhr M O (fun c N=> ?_) fun ρ S a w F L=> ?_
        ·grind[ZkM]
        obtain⟨_,W,v,w',A,u⟩:=ZiB H.hX y H.hCE F (Nat.lt_irrefl i) H.hE f I ab;refine⟨_,v,w',A,u, ?_⟩;have:=s (.ops ops (i+1)::pre) _ hw (y.app (dst:=o.dst) rfl W) h;rw[Zbb T i o.dst _ []]at this;exact this
       obtain⟨e,X,G,Z⟩:=ZhB H y O h;split at G;rotate_left;simp at G;rename_i f;obtain⟨cs,ae⟩:=Z f;have af:fresh T i e=true:=by grind[okE]
       refine Zh8 hi (ae.exec H.hE M) ?_;have:=s (.ops ops (i+1)::pre) _ hw (y.app af X) G;rw[Zbb T i o.dst e cs]at this;exact this
     |false=>
      simp only at h;split at h;rotate_left;simp at h;rename_i L;have e0:ZK T i {val:=(.undef:TV U)}:=ZK.pure (Zg rfl);have:=s (.ops ops (i+1)::pre) _ hw (y.app rfl e0) h;rw[Zbb T i o.dst _ []]at this;exact Zh8 hi (Zgr M O (by rw[H.hCE];omega)) this
   | .c p c::pre=>
    obtain⟨J,E⟩:=hw;simp only[evl]at h;split at h
    ·rename_i x Q;have B:=List.mem_of_find?_eq_some Q;have hp:x.1=p:=by grind
     exact ZdT H y (H.cuts x B c _ (by simp_all)) h
    ·cases c with
     |skip=>simp only at h;exact Zal (ps':=[]) H.hE 1 _ _ [] rfl (by simp) (s pre T E y h)
     |seq a b=>
      simp only at h;refine Zal (ps':=[]) H.hE 1 (.c (.seq a b)::_) _ [] rfl (by simp) (s (.c (0::p) a:: .c (1::p) b::pre) T ⟨?_, ?_,E⟩ y h)
      ·simp only[atP,J];rfl
      grind[atP]
     |block id b=>
      simp only at h;refine Zal (ps':=[]) H.hE 1 (.c (.block id b)::_) _ [] rfl (by simp) (s (.c (4::p) b:: .blk id::pre) T ⟨?_,E⟩ y h);simp only[atP,J];rfl
     |region id ops dr=>
      cases dr with
      |false=>simp only at h;exact Zal (ps':=[]) H.hE 1 (.c (.region id ops false)::_) _ [] rfl (by simp) (s (.ops ops 0::pre) T E y h)
      |true=>simp only at h;exact ZkZ H.hE H.mixed (ac pre T ops [] E y h)
     |cond x a b=>
      simp only at h;split at h;rotate_left;simp at h;rename_i hl;split at h;rotate_left;simp at h;rename_i v hv;have ak:ev C.E T.enc.slots 0 x= .p (.bool v):=by rw[H.hCE,Zb H.hX hv];rfl
      cases v with
      |true=>
       refine Zal (ps':=[]) H.hE 1 (.c (.cond x a b)::_) _ [] (by simp only[run,hl,if_true,ak];rfl) (by simp) (s (.c (2::p) a::pre) T ⟨?_,E⟩ y h);grind[atP]
      |false=>
       refine Zal (ps':=[]) H.hE 1 (.c (.cond x a b)::_) _ [] (by simp only[run,hl,if_true,ak];rfl) (by simp) (s (.c (3::p) b::pre) T ⟨?_,E⟩ y h);grind[atP]
     |exit id=>
      simp only at h;split at h
      ·rename_i V hp;obtain⟨q1,q2⟩:=Z9 (root:=root) (base:=base) hp;refine Zal (ps':=[]) H.hE 1 (.c (.exit id)::_) _ [] (by simp_all[run]) (by simp) (s V T (q2 E) y h)
      ·rename_i hp;split at h;rotate_left;simp at h;rename_i x Q;have B:=List.mem_of_find?_eq_some Q;have ah:x.1=id:=by grind
       obtain⟨k,hk,N⟩:=H.exits x B;have:=ZdT H y N h;have Q:Zak id ((List.map TI'.conc pre).append base)=some k:=by simp_all[ZbH]
       exact Zal (ps':=[]) H.hE 1 (.c (.exit id)::_) _ [] (by grind[run]) (by simp) this
     |ret=>
      simp only[ZkO]at h;split at h;rotate_left;simp at h;rename_i t R;obtain⟨ps,q1,q2⟩:=Zk8 H.hU H.hX y R;exact Zmd _ ps P.rms P.lent H.hE (by rw[H.hCE,H.rs];omega) (H.ret t h) (ZfJ q2) H.ds
     |_=>simp at h
  ·simp only[evl]at h;split at h
   ·rename_i hn;split at h;rotate_left;simp at h;rename_i f;simp only[ZmC,decide_eq_true_eq]at f;exact dw_end f.2 f.1 (s pre T.next hw y.next h)
   ·rename_i o M;obtain⟨g,O,h⟩:=Zgp h;cases g with
    |true=>
     simp only at h;obtain⟨e,X,G,Z⟩:=ZhB H y O h;split at G;rotate_left;simp at G;rename_i f;simp only[ZmC]at f;obtain⟨cs,ae⟩:=Z f.1;have af:fresh T z.length e=true:=by grind[okE]
     have:=ac pre _ ops _ hw (y.app af X) G;rw[Zbb T z.length o.dst e cs]at this;refine dw_op M ⟨ae, ?_,rfl,f.2⟩ this;grind[fpT,Zi.enc,Function.comp_def]
    |false=>
     simp only at h;split at h;rotate_left;simp at h;rename_i L;simp only[ZmC]at L;have e0:ZK T z.length {val:=(.undef:TV U)}:=ZK.pure (Zg rfl);have:=ac pre _ ops _ hw (y.app rfl e0) h;rw[Zbb T z.length o.dst _ []]at this;exact dw_op M ⟨.skip O (by rw[H.hCE];grind),rfl,rfl,L.2⟩ this
end
end
end Eng
namespace Eng
open Go
inductive Sh1 where
 |v (t:Ty) |pp (t:Ty) |full (id:Id) |sl (id:Id) |ptr (id:Id) (i j:Nat) |ptrI (id:Id) (j:Nat)
 |map (id:Id) |it (id:Id) |nilp |nilfn |undef |nils (t:Ty) |clip (t:Ty)
inductive Sh where
 |o (s:Sh1) |agg (l:List Sh1) |fn (f:Nat) (a b:List Sh1)
inductive ShO where
 |box (l:List Sh) |boxS (t:Ty) |arr (t:Ty) (fix:Bool) |map (k v:Ty) |sit |mit (k v:Ty)
abbrev Zmv (U:Zc):Sh1->Type
 | .v t=>El U.car t
 | .pp t=>El U.car t
 | .full _=>Nat
 | .sl _=>Nat×Nat
 | .ptrI _ _=>Nat
 | .clip t=>List (El U.car t)
 |_=>Unit
abbrev ZgH (U:Zc):List Sh1->Type
 | []=>Unit
 |s::r=>Zmv U s×ZgH U r
abbrev Val (U:Zc):Sh->Type
 | .o s=>Zmv U s
 | .agg l=>ZgH U l
 | .fn _ a b=>ZgH U a×ZgH U b
abbrev Zb8 (U:Zc):List Sh->Type
 | []=>Unit
 |s::r=>Val U s×Zb8 U r
abbrev ValO (U:Zc):ShO->Type
 | .box l=>Zb8 U l
 | .boxS t=>El U.car t
 | .arr t _=>List (El U.car t)
 | .map k v=>List (El U.car k×El U.car v)
 | .sit=>List UInt8×Nat
 | .mit k v=>List (El U.car k×El U.car v)×Option (El U.car k×El U.car v)
abbrev Zag (U:Zc):List ShO->Type
 | []=>Unit
 |s::r=>ValO U s×Zag U r
section
variable {U:Zc}
def bld1:(s:Sh1)->Zmv U s->TV U
 | .v t,x=> .v t x
 | .pp t,x=> .pp (U.cellsE t x)
 | .full id,n=> .full id n
 | .sl id,p=> .sl id p.1 p.2
 | .ptr id i j,_=> .ptr id i j
 | .ptrI id j,i=> .ptr id i j
 | .map id,_=> .map id
 | .it id,_=> .it id
 | .nilp,_=> .nilp
 | .nilfn,_=> .nilfn
 | .undef,_=> .undef
 | .nils t,_=> .nils t
 | .clip t,xs=> .clip t xs
def ZiX:(l:List Sh1)->ZgH U l->List (TV U)
 | [],_=>[]
 |s::r,v=>bld1 s v.1::ZiX r v.2
def bld:(s:Sh)->Val U s->TV U
 | .o s,x=>bld1 s x
 | .agg l,x=> .agg (ZiX l x)
 | .fn f a b,x=> .fn f (ZiX a x.1) (ZiX b x.2)
def Zmt:(l:List Sh)->Zb8 U l->List (TV U)
 | [],_=>[]
 |s::r,v=>bld s v.1::Zmt r v.2
def bldO:(s:ShO)->ValO U s->TO U
 | .box l,x=> .box (Zmt l x)
 | .boxS t,x=> .box ((U.cellsE t x).map lv)
 | .arr t fix,xs=> .arr t xs fix
 | .map k v,kv=> .map k v kv
 | .sit,p=> .sit p.1 p.2
 | .mit k v,p=> .mit k v p.1 p.2
def Zj9:(l:List ShO)->Zag U l->List (TO U)
 | [],_=>[]
 |s::r,v=>bldO s v.1::Zj9 r v.2
def mat1:(s:Sh1)->TV U->Option (Zmv U s)
 | .v t,.v t' x=>if h:t'=t then some (h▸x)else none
 | .pp t,.pp cs=>U.ofE t cs
 | .full id,.full id' n=>if id'=id then some n else none
 | .sl id,.sl id' o l=>if id'=id then some (o,l)else none
 | .ptr id i j,.ptr id' i' j'=>if id'=id/\i'=i/\j'=j then some ()else none
 | .ptrI id j,.ptr id' i j'=>if id'=id/\j'=j then some i else none
 | .map id,.map id'=>if id'=id then some ()else none
 | .it id,.it id'=>if id'=id then some ()else none
 | .nilp,.nilp=>some ()
 | .nilfn,.nilfn=>some ()
 | .undef,.undef=>some ()
 | .nils t,.nils t'=>if t'=t then some ()else none
 | .clip t,.clip t' xs=>if h:t'=t then some (h▸xs)else none
 |_,_=>none
def Zge:(l:List Sh1)->List (TV U)->Option (ZgH U l)
 | [],[]=>some ()
 |s::r,d::ds=>match mat1 s d,Zge r ds with
  |some x,some y=>some (x,y)
  |_,_=>none
 |_,_=>none
def mat:(s:Sh)->TV U->Option (Val U s)
 | .o s,d=>mat1 s d
 | .agg l,.agg cs=>Zge l cs
 | .fn f a b,.fn f' x y=>if f'=f then match Zge a x,Zge b y with
  |some p,some q=>some (p,q)
  |_,_=>none
  else none
 |_,_=>none
def ZlR:(l:List Sh)->List (TV U)->Option (Zb8 U l)
 | [],[]=>some ()
 |s::r,d::ds=>match mat s d,ZlR r ds with
  |some x,some y=>some (x,y)
  |_,_=>none
 |_,_=>none
def matO:(s:ShO)->TO U->Option (ValO U s)
 | .box l,.box cs=>ZlR l cs
 | .boxS t,.box cs=>match Zh TV.leaf? cs with
  |some a=>U.ofE t a
  |none=>none
 | .arr t fix,.arr t' xs fix'=>if h:t'=t then if fix'=fix then some (h▸xs)else none else none
 | .map k v,.map k' v' kv=>if h:k'=k then if h':v'=v then some (h▸h'▸kv)else none else none
 | .sit,.sit s p=>some (s,p)
 | .mit k v,.mit k' v' r c=>if h:k'=k then if h':v'=v then some (h▸h'▸(r,c))else none else none
 |_,_=>none
def Ziv:(l:List ShO)->List (TO U)->Option (Zag U l)
 | [],[]=>some ()
 |s::r,d::ds=>match matO s d,Ziv r ds with
  |some x,some y=>some (x,y)
  |_,_=>none
 |_,_=>none
theorem ZhN (b:UOk U) {s:Sh1} {d:TV U} {x:Zmv U s} (h:mat1 s d=some x):d=bld1 s x:=by
 unfold mat1 at h;split at h
 ·split at h;rotate_left;simp at h;rename_i a;subst a;cases h;rfl
 ·grind[ZaE,bld1]
 ·split at h;rotate_left;simp at h;rename_i a;subst a;cases h;rfl
 ·split at h;rotate_left;simp at h;rename_i a;subst a;cases h;rfl
 ·split at h;rotate_left;simp at h;rename_i a;obtain⟨rfl,rfl,rfl⟩:=a;rfl
 ·split at h;rotate_left;simp at h;rename_i a;obtain⟨rfl,rfl⟩:=a;cases h;rfl
 ·split at h;rotate_left;simp at h;rename_i a;subst a;rfl
 ·split at h;rotate_left;simp at h;rename_i a;subst a;rfl
 ·rfl
 ·rfl
 ·rfl
 ·split at h;rotate_left;simp at h;rename_i a;subst a;rfl
 ·split at h;rotate_left;simp at h;rename_i a;subst a;cases h;rfl
 simp_all
theorem ZbF (e:UOk U):∀{l:List Sh1} {c:List (TV U)} {x:ZgH U l},Zge l c=some x->c=ZiX l x
 | [],[],x,h=>rfl
 | [],_::_,x,h=>by grind[Zge]
 |_::_,[],x,h=>by grind[Zge]
 |s::r,d::c,x,h=>by simp only[Zge]at h;split at h;rotate_left;simp at h;rename_i a b g f;cases h;rw[ZiX,<-ZhN e g,<-ZbF e f]
theorem ZlS (a:UOk U) {s:Sh} {d:TV U} {x:Val U s} (h:mat s d=some x):d=bld s x:=by
 unfold mat at h;grind[ZhN,bld,ZbF]
theorem ZdH (e:UOk U):∀{l:List Sh} {c:List (TV U)} {x:Zb8 U l},ZlR l c=some x->c=Zmt l x
 | [],[],x,h=>rfl
 | [],_::_,x,h=>by grind[ZlR]
 |_::_,[],x,h=>by grind[ZlR]
 |s::r,d::c,x,h=>by simp only[ZlR]at h;split at h;rotate_left;simp at h;rename_i a b g f;cases h;rw[Zmt,<-ZlS e g,<-ZdH e f]
theorem ZkK (e:UOk U) {s:ShO} {d:TO U} {x:ValO U s} (h:matO s d=some x):d=bldO s x:=by
 unfold matO at h;split at h
 ·rw[bldO,ZdH e h]
 ·grind[bldO,ZaE,Zcw]
 ·split at h;rotate_left;simp at h;rename_i b;subst b;split at h;rotate_left;simp at h;rename_i a;subst a;cases h;rfl
 ·split at h;rotate_left;simp at h;rename_i b;subst b;split at h;rotate_left;simp at h;rename_i a;subst a;cases h;rfl
 ·cases h;rfl
 ·split at h;rotate_left;simp at h;rename_i b;subst b;split at h;rotate_left;simp at h;rename_i a;subst a;cases h;rfl
 simp_all
theorem ZeO (e:UOk U):∀{l:List ShO} {c:List (TO U)} {x:Zag U l},Ziv l c=some x->c=Zj9 l x
 | [],[],x,h=>rfl
 | [],_::_,x,h=>by grind[Ziv]
 |_::_,[],x,h=>by grind[Ziv]
 |s::r,d::c,x,h=>by simp only[Ziv]at h;split at h;rotate_left;simp at h;rename_i a b g f;cases h;rw[Zj9,<-ZkK e g,<-ZeO e f]
structure FC (U:Zc) where
 X:ZG U
 fn:Func
 c:Code
 sigs:List (Nat×Zi8 U)
 lent:List Nat
 rms:List RM
 rhs:List (Option Nat)
 keep:List Nat:=[]
 alt:List (Nat×Nat):=[]
structure FOk (F:FC U):Prop where
 hU:UOk U
 hX:TOk F.X
 hE:Zl F.X.E
 mixed:F.X.prog.follows .mixedOrders=true
 sigs:∀x∈F.sigs,Zei F.X.E x.1 x.2
structure Lp (U:Zc) (R:Type) where
 live:List Nat
 frz:List Nat
 shs:List Sh
 sho:List ShO
 f:Zb8 U shs->Zag U sho->Option R
variable {R:Type}
def Lp.cut (L:Lp U R):Cut U R:=⟨L.live,L.frz,fun a os=>match ZlR L.shs a,Ziv L.sho os with
 |some v,some w=>L.f v w
 |_,_=>none⟩
def Lp.st (F:FC U) (L:Lp U R) (v:Zb8 U L.shs) (w:Zag U L.sho):TS U:=mkC F.lent L.live (Zmt L.shs v) (Zj9 L.sho w)
def Pt (F:FC U) (RT:Ret) (k:List Item) (T:TS U):Prop:=
 ∀W Lt S0 a,AWP ⟨F.X.E,W,Lt,S0,a⟩ ⟨none,[]⟩ (Zim ⟨F.X.E,W,Lt,S0,a⟩ F.fn RT) k T.enc
def Zhv (F:FC U) (RT:Ret) (r:R) (L:Lp U R) (k:List Item):Prop:=∀v w,(L.st F v w).Inv->L.f v w=some r->Pt F RT k (L.st F v w)
def cutsOf (l:List (List Nat×Lp U R)):List (List Nat×Cut U R):=l.map fun x=>(x.1,x.2.cut)
def Zl2 (l:List (Nat×Lp U R)):List (Nat×Cut U R):=l.map fun x=>(x.1,x.2.cut)
def Zh6:Option (Lp U R)->Option (Cut U R)
 |some L=>some L.cut
 |none=>none
def FC.par (F:FC U) (cuts:List (List Nat×Lp U R)) (back:Option (Lp U R)) (exits:List (Nat×Lp U R)) (ret:ZbB U->Option R):Par U R:=
 {X:=F.X,sigs:=F.sigs,cuts:=cutsOf cuts,back:=Zh6 back,exits:=Zl2 exits,lent:=F.lent,rs:=F.fn.results.toList,rms:=F.rms,rhs:=F.rhs,ret:=ret,keep:=F.keep,alt:=F.alt}
def Zki (F:FC U) (p:List Nat):List Item:=match atP (F.c,[]) p with
 |some x=> .c x.1::x.2
 |none=>[]
def Zbc (F:FC U) (RT:Ret) (r:R):List (List Nat×Lp U R)->Prop
 | []=>True
 |x::l=>Zhv F RT r x.2 (Zki F x.1)/\Zbc F RT r l
def ZaQ (F:FC U) (RT:Ret) (r:R) (base:List Item):List (Nat×Lp U R)->Prop
 | []=>True
 |x::l=>(∃k,Zak x.1 base=some k/\Zhv F RT r x.2 k)/\ZaQ F RT r base l
theorem Zhv.hcut {F:FC U} (c:UOk U) {RT:Ret} {r:R} {L:Lp U R} {k:List Item} (h:Zhv F RT r L k) {P:Par U R} (e:P.lent=F.lent) {W:World} {Lt S0:Nat->Prop} {a:Nat->Option Lay}:
  Hcut P ⟨F.X.E,W,Lt,S0,a⟩ ⟨none,[]⟩ F.fn RT r L.cut k:=by
 intro g os hi b;simp only[Lp.cut]at b;split at b;rotate_left;simp at b;rename_i v w d hw;have f:=ZdH c d;have i:=ZeO c hw;have:mkC P.lent L.cut.live g os=L.st F v w:=by rw[f,i,e];rfl
 rw[this]at hi|-
 exact h v w hi b W Lt S0 a
theorem Pt.evl {F:FC U} (b:FOk F) {RT:Ret} {r:R} (n:Nat) {cuts:List (List Nat×Lp U R)} {back:Option (Lp U R)} {exits:List (Nat×Lp U R)} {ret:ZbB U->Option R} {base:List Item} {pre:List TI'} {T:TS U}
  (w:T.Inv) (h:Eng.evl (F.par cuts back exits ret) n none pre T=some r) (hw:Wf (F.c,[]) base pre) (p:Zbc F RT r cuts) (u:∀L,back=some L->Zhv F RT r L base) (m:back=none->base=[])
  (o:ZaQ F RT r base exits) (e:∀t,ret t=some r->t.enc=RT):Pt F RT (pre.map TI'.conc++base) T:=by
 intro W Lt S0 f;refine(Zl4 (fm:=⟨none,[]⟩) (fn:=F.fn) (RT:=RT) (r:=r) (root:=(F.c,[])) (base:=base) (C:=⟨F.X.E,W,Lt,S0,f⟩) ?_ n).1 pre T hw w h;refine⟨b.hU,b.hX,b.hE,rfl,b.mixed,rfl,rfl,b.sigs,fun x i c k g=> ?_,fun c d=> ?_,fun q=> ?_,fun x i=> ?_,e⟩
 ·obtain⟨y,a,rfl⟩:=List.mem_map.1 i;have:Zhv F RT r y.2 (Zki F y.1):=by
   clear h i g
   induction cuts with
   |nil=>grind
   |cons z l j=>
    rcases ZmN.1 a with rfl |a
    ·exact p.1
    ·exact j p.2 a
  rw[show Zki F y.1= .c c::k by grind[Zki]]at this;exact this.hcut b.hU rfl
 ·cases back with
  |none=>grind[FC.par,Zh6]
  |some L=>
   simp only[FC.par,Zh6,ZmZ]at d;subst d;exact(u L rfl).hcut b.hU rfl
 ·cases back with
  |none=>simp_all
  |some L=>grind[FC.par,Zh6]
 ·obtain⟨y,a,rfl⟩:=List.mem_map.1 i;have:∃k,Zak y.1 base=some k/\Zhv F RT r y.2 k:=by
   clear h i
   induction exits with
   |nil=>grind
   |cons z l j=>
    rcases ZmN.1 a with rfl |a
    ·exact o.1
    ·exact j o.2 a
  obtain⟨k,v,s⟩:=this;exact⟨k,v,s.hcut b.hU rfl⟩
theorem Pt.evlAt {F:FC U} (d:FOk F) {RT:Ret} {r:R} (n:Nat) {cuts:List (List Nat×Lp U R)} {back:Option (Lp U R)} {exits:List (Nat×Lp U R)} {ret:ZbB U->Option R} {base:List Item} {pre:List TI'} {T:TS U} {k:List Item}
  (f:k=pre.map TI'.conc++base) (i:T.Inv) (h:Eng.evl (F.par cuts back exits ret) n none pre T=some r) (hw:Wf (F.c,[]) base pre) (g:Zbc F RT r cuts) (c:∀L,back=some L->Zhv F RT r L base) (b:back=none->base=[])
  (e:ZaQ F RT r base exits) (a:∀t,ret t=some r->t.enc=RT):Pt F RT k T:=f▸Pt.evl d n i h hw g c b e a
theorem Pt.lp {F:FC U} (b:FOk F) {RT:Ret} {body:Code} {k:List Item} {T:TS U} (h:Pt F RT (.c body:: .lp body::k) T):Pt F RT (.lp body::k) T:=fun W Lt S0 a=>
 Zal (ps':=[]) b.hE 1 (.lp body::k) _ [] rfl (by simp) (h W Lt S0 a)
theorem Pt.loop {F:FC U} (b:FOk F) {RT:Ret} {body:Code} {k:List Item} {T:TS U} (h:Pt F RT (.c body:: .lp body::k) T):Pt F RT (.c (.loop body)::k) T:=fun W Lt S0 a=>
 Zal (ps':=[]) b.hE 1 (.c (.loop body)::k) _ [] rfl (by simp) (h W Lt S0 a)
theorem ZlX {F:FC U} (c:FOk F) {RT:Ret} {r:R} (N:Nat) {q:List Nat} {body:Code} {k:List Item} {live frz:List Nat} {shs:List Sh} {sho:List ShO} (f:Nat->Zb8 U shs->Zag U sho->Option R)
  {cuts:Nat->List (List Nat×Lp U R)} {exits:List (Nat×Lp U R)} {ret:ZbB U->Option R} (e:atP (F.c,[]) q=some (.loop body,k)) (p:∀v w,f 0 v w=none)
  (o:∀n v w,f (n+1) v w=evl (F.par (cuts n) (some ⟨live,frz,shs,sho,f n⟩) exits ret) N none [.c (5::q) body] (Lp.st F ⟨live,frz,shs,sho,f (n+1)⟩ v w))
  (s:∀n,Zhv F RT r ⟨live,frz,shs,sho,f n⟩ (.lp body::k)->Zbc F RT r (cuts n)) (m:ZaQ F RT r (.lp body::k) exits) (b:∀t,ret t=some r->t.enc=RT):
  ∀n,Zhv F RT r ⟨live,frz,shs,sho,f n⟩ (Zki F q):=by
 have d:Zki F q= .c (.loop body)::k:=by grind[Zki]
 rw[d];have key:∀n,Zhv F RT r ⟨live,frz,shs,sho,f n⟩ (.c body:: .lp body::k):=by
  intro n
  induction n with
  |zero=>intro v w _ h;simp_all
  |succ n l=>
   intro v w hi h;have g:f (n+1) v w=some r:=h;rw[o n v w]at g;have a:Zhv F RT r ⟨live,frz,shs,sho,f n⟩ (.lp body::k):=fun v w hi h=>(l v w hi h).lp c
   refine Pt.evl c N (base:= .lp body::k) hi g ⟨?_,trivial⟩ (s n a) (fun L i=> ?_) (fun j=>by grind) m b
   all_goals grind[atP]
 exact fun n v w hi h=>(key n v w hi h).loop c
inductive ShA where
 |p (t:Ty) |box (t:Ty) |arr (t:Ty) |map (k v:Ty) |ptr (t:Ty) |fn (f:Nat) (a b:List Sh1) |nilp |nilfn |part (t:Ty)
inductive ShR where
 |p (t:Ty) |own (t:Ty) |box (t:Ty) |map (k v:Ty) |view (k:Nat) |aown (n k:Nat) (t:Ty)
abbrev Zhu (U:Zc):Sh1->Type
 | .v t=>El U.car t
 | .pp t=>El U.car t
 |_=>Unit
abbrev Zcx (U:Zc):List Sh1->Type
 | []=>Unit
 |s::r=>Zhu U s×Zcx U r
abbrev Zlo (U:Zc):ShA->Type
 | .p t=>El U.car t
 | .box t=>El U.car t
 | .arr t=>List (El U.car t)
 | .map k v=>List (El U.car k×El U.car v)
 | .ptr t=>El U.car t
 | .fn _ a b=>Zcx U a×Zcx U b
 | .part t=>List (El U.car t)×Nat×Nat
 | .nilp=>Unit
 | .nilfn=>Unit
abbrev ZfK (U:Zc):List ShA->Type
 | []=>Unit
 |s::r=>Zlo U s×ZfK U r
abbrev Zmj (U:Zc):ShR->Type
 | .p t=>El U.car t
 | .own t=>List (El U.car t)
 | .box t=>El U.car t
 | .map k v=>List (El U.car k×El U.car v)
 | .view _=>Nat×Nat
 | .aown n _ _=>U.car n
abbrev ZgG (U:Zc):List ShR->Type
 | []=>Unit
 |s::r=>Zmj U s×ZgG U r
abbrev ZgF (U:Zc):List (Nat×ShA)->Type
 | []=>Unit
 |s::r=>Zlo U s.2×ZgF U r
def Zmb:(s:Sh1)->Zhu U s->TQ U
 | .v t,x=> .l ⟨t,x⟩
 | .pp t,x=> .ptr (U.cellsE t x)
 | .nilp,_=> .nilp
 |_,_=> .nilfn
def Zgy:(l:List Sh1)->Zcx U l->List (TQ U)
 | [],_=>[]
 |s::r,v=>Zmb s v.1::Zgy r v.2
def Zmu:(s:ShA)->Zlo U s->ZR U
 | .p t,x=> .p (.l ⟨t,x⟩)
 | .box t,x=> .box (U.cellsE t x)
 | .arr t,xs=> .arr t xs
 | .map k v,kv=> .map k v kv
 | .ptr t,x=> .p (.ptr (U.cellsE t x))
 | .fn f a b,x=> .p (.fn f (Zgy a x.1) (Zgy b x.2))
 | .nilp,_=> .p .nilp
 | .nilfn,_=> .p .nilfn
 | .part t,x=> .part t x.1 x.2.1 x.2.2
def Zdd:(l:List ShA)->ZfK U l->List (ZR U)
 | [],_=>[]
 |s::r,v=>Zmu s v.1::Zdd r v.2
def slAt (t:Ty):Option (Lf U.car)->List (El U.car t)
 |some l=>match l.as (.sl t)with
  |some xs=>xs
  |none=>[]
 |none=>[]
def bldR:(s:ShR)->Zmj U s->TRV U
 | .p t,x=> .p ⟨t,x⟩
 | .own t,xs=> .own t xs
 | .box t,x=> .box (U.cellsE t x)
 | .map k v,kv=> .map k v kv
 | .view k,p=> .view k p.1 p.2
 | .aown n k t,x=> .aown ((U.cells n x).take k) t (slAt t (U.cells n x)[k]?) ((U.cells n x).drop (k+1))
def ZkX:(l:List ShR)->ZgG U l->List (TRV U)
 | [],_=>[]
 |s::r,v=>bldR s v.1::ZkX r v.2
def ZkW:(l:List (Nat×ShA))->ZgF U l->List (Nat×ZR U)
 | [],_=>[]
 |s::r,v=>(s.1,Zmu s.2 v.1)::ZkW r v.2
def ZlT:(s:Sh1)->TQ U->Option (Zhu U s)
 | .v t,.l x=>x.as t
 | .pp t,.ptr cs=>U.ofE t cs
 | .nilp,.nilp=>some ()
 | .nilfn,.nilfn=>some ()
 |_,_=>none
def ZdI:(l:List Sh1)->List (TQ U)->Option (Zcx U l)
 | [],[]=>some ()
 |s::r,d::ds=>match ZlT s d,ZdI r ds with
  |some x,some y=>some (x,y)
  |_,_=>none
 |_,_=>none
def matA:(s:ShA)->ZR U->Option (Zlo U s)
 | .p t,.p (.l x)=>x.as t
 | .box t,.box cs=>U.ofE t cs
 | .arr t,.arr t' xs=>if h:t'=t then some (h▸xs)else none
 | .map k v,.map k' v' kv=>if h:k'=k then if h':v'=v then some (h▸h'▸kv)else none else none
 | .ptr t,.p (.ptr cs)=>U.ofE t cs
 | .fn f a b,.p (.fn f' x y)=>if f'=f then match ZdI a x,ZdI b y with
  |some p,some q=>some (p,q)
  |_,_=>none
  else none
 | .nilp,.p .nilp=>some ()
 | .nilfn,.p .nilfn=>some ()
 | .part t,.part t' xs off len=>if h:t'=t then some (h▸xs,off,len)else none
 |_,_=>none
def Ziw:(l:List ShA)->List (ZR U)->Option (ZfK U l)
 | [],[]=>some ()
 |s::r,d::ds=>match matA s d,Ziw r ds with
  |some x,some y=>some (x,y)
  |_,_=>none
 |_,_=>none
def matR:(s:ShR)->TRV U->Option (Zmj U s)
 | .p t,.p x=>x.as t
 | .own t,.own t' xs=>if h:t'=t then some (h▸xs)else none
 | .box t,.box cs=>U.ofE t cs
 | .map k v,.map k' v' kv=>if h:k'=k then if h':v'=v then some (h▸h'▸kv)else none else none
 | .view k,.view k' o l=>if k'=k then some (o,l)else none
 | .aown n k t,.aown pre t' xs post=>if t'=t/\pre.length=k then U.of n (pre++⟨.sl t',xs⟩::post)else none
 |_,_=>none
def Ziu:(l:List ShR)->List (TRV U)->Option (ZgG U l)
 | [],[]=>some ()
 |s::r,d::ds=>match matR s d,Ziu r ds with
  |some x,some y=>some (x,y)
  |_,_=>none
 |_,_=>none
def Zit:(l:List (Nat×ShA))->List (Nat×ZR U)->Option (ZgF U l)
 | [],[]=>some ()
 |s::r,d::ds=>if d.1=s.1 then match matA s.2 d.2,Zit r ds with
  |some x,some y=>some (x,y)
  |_,_=>none
  else none
 |_,_=>none
theorem ZjF (a:UOk U) {s:Sh1} {d:TQ U} {x:Zhu U s} (h:ZlT s d=some x):d=Zmb s x:=by
 unfold ZlT at h;grind[ZN,Zmb,ZaE]
theorem Zb1 (e:UOk U):∀{l:List Sh1} {c:List (TQ U)} {x:Zcx U l},ZdI l c=some x->c=Zgy l x
 | [],[],x,h=>rfl
 | [],_::_,x,h=>by grind[ZdI]
 |_::_,[],x,h=>by grind[ZdI]
 |s::r,d::c,x,h=>by simp only[ZdI]at h;split at h;rotate_left;simp at h;rename_i a b g f;cases h;rw[Zgy,<-ZjF e g,<-Zb1 e f]
theorem ZhM (b:UOk U) {s:ShA} {d:ZR U} {x:Zlo U s} (h:matA s d=some x):d=Zmu s x:=by
 unfold matA at h;split at h
 ·rw[ZN h];rfl
 ·rw[Zmu,ZaE b h]
 ·split at h;rotate_left;simp at h;rename_i a;subst a;cases h;rfl
 ·split at h;rotate_left;simp at h;rename_i a;subst a;split at h;rotate_left;simp at h;rename_i c;subst c;cases h;rfl
 ·rw[Zmu,ZaE b h]
 ·grind[Zmu,Zb1]
 ·rfl
 ·rfl
 ·split at h;rotate_left;simp at h;rename_i a;subst a;cases h;rfl
 simp_all
theorem ZeP (e:UOk U):∀{l:List ShA} {c:List (ZR U)} {x:ZfK U l},Ziw l c=some x->c=Zdd l x
 | [],[],x,h=>rfl
 | [],_::_,x,h=>by grind[Ziw]
 |_::_,[],x,h=>by grind[Ziw]
 |s::r,d::c,x,h=>by simp only[Ziw]at h;split at h;rotate_left;simp at h;rename_i a b g f;cases h;rw[Zdd,<-ZhM e g,<-ZeP e f]
theorem ZkJ (c:UOk U) {s:ShR} {d:TRV U} {x:Zmj U s} (h:matR s d=some x):d=bldR s x:=by
 unfold matR at h;split at h
 ·rw[ZN h];rfl
 ·split at h;rotate_left;simp at h;rename_i b;subst b;cases h;rfl
 ·rw[bldR,ZaE c h]
 ·split at h;rotate_left;simp at h;rename_i b;subst b;split at h;rotate_left;simp at h;rename_i f;subst f;cases h;rfl
 ·split at h;rotate_left;simp at h;rename_i b;subst b;cases h;rfl
 ·split at h;rotate_left;simp at h;rename_i b;obtain⟨rfl,rfl⟩:=b;rename_i n pre t xs a;have g:=c.of_cells _ _ _ h;show TRV.aown pre t xs a=TRV.aown ((U.cells n x).take pre.length) t (slAt t (U.cells n x)[pre.length]?) ((U.cells n x).drop (pre.length+1));simp_all[slAt,Lf.as]
 simp_all
theorem ZeN (e:UOk U):∀{l:List ShR} {c:List (TRV U)} {x:ZgG U l},Ziu l c=some x->c=ZkX l x
 | [],[],x,h=>rfl
 | [],_::_,x,h=>by grind[Ziu]
 |_::_,[],x,h=>by grind[Ziu]
 |s::r,d::c,x,h=>by simp only[Ziu]at h;split at h;rotate_left;simp at h;rename_i a b g f;cases h;rw[ZkX,<-ZkJ e g,<-ZeN e f]
theorem ZeM (e:UOk U):∀{l:List (Nat×ShA)} {c:List (Nat×ZR U)} {x:ZgF U l},Zit l c=some x->c=ZkW l x
 | [],[],x,h=>rfl
 | [],_::_,x,h=>by grind[Zit]
 |_::_,[],x,h=>by grind[Zit]
 |s::r,d::c,x,h=>by simp only[Zit]at h;split at h;rotate_left;simp at h;rename_i i;split at h;rotate_left;simp at h;rename_i a b g f;cases h;rw[ZkW,<-ZhM e g,<-ZeM e f,<-i]
structure RSh where
 rs:List ShR
 os:List (Nat×ShA)
abbrev Zk3 (U:Zc) (S:RSh):Type:=ZgG U S.rs×ZgF U S.os
def RSh.bld (S:RSh) (v:Zk3 U S):ZbB U:=⟨ZkX S.rs v.1,ZkW S.os v.2⟩
def RSh.mat (S:RSh) (t:ZbB U):Option (Zk3 U S):=match Ziu S.rs t.res,Zit S.os t.outs with
 |some x,some y=>some (x,y)
 |_,_=>none
def Zeo {ρ:Type} (S:RSh) (g:Zk3 U S->ρ) (t:ZbB U):Option ρ:=match S.mat t with
 |some v=>some (g v)
 |none=>none
theorem Zf1 (f:UOk U) {ρ:Type} {S:RSh} {g:Zk3 U S->ρ} {give:ρ->ZbB U} (i:∀v,give (g v)=S.bld v) {t:ZbB U} {r:ρ} (h:Zeo S g t=some r):t.enc=(give r).enc:=by unfold Zeo at h;split at h;rotate_left;simp at h;rename_i v c;cases h;unfold RSh.mat at c;split at c;rotate_left;simp at c;rename_i x y e d;cases c;rw[i];obtain⟨a,b⟩:=t;simp only at e d;rw[ZeN f e,ZeM f d];rfl
def ZR.d (k:Nat):ZR U->TV U
 | .p q=>q.tv
 | .box _=> .ptr (0,k,0) 0 0
 | .arr _ xs=> .full (0,k,0) xs.length
 | .map _ _ _=> .map (0,k,0)
 | .part _ _ a len=> .sl (0,k,0) a len
def Zct:Nat->List (ZR U)->List (Nat×TV U)
 |_,[]=>[]
 |k,a::r=>(k,a.d k)::Zct (k+1) r
def ZbA:Nat->List (ZR U)->List (Id×TO U)
 |_,[]=>[]
 |k,a::r=>match a.o with
  |some o=>((0,k,0),o)::ZbA (k+1) r
  |none=>ZbA (k+1) r
def Zkb (args:List (ZR U)):TS U:=mkT 1 (Zct 0 args) (ZbA 0 args)
theorem Ze9:∀(k:Nat) (c:List (ZR U)) (x:Nat),(Zam TV.dead (Zct k c) x).enc=Zam D.dead (ZcU k (c.map ZR.enc)) x
 |k,[],x=>rfl
 |k,a::r,x=>by
  simp only[Zct,ZmL,ZcU,Zam];split
  ·cases a with
   |p q=>exact(Zjc q).1
   |box cs=>rfl
   |arr t xs=>grind[ZR.d,TV.enc,ZR.enc,Arg.d]
   |map a b e=>rfl
   |part t xs d len=>rfl
  ·exact Ze9 (k+1) r x
theorem ZcT:∀(k:Nat) (b:List (ZR U)) (x:Id),Zip (Ze (ZbA k b) x)=Ze (Zdf k (b.map ZR.enc)) x
 |k,[],x=>rfl
 |k,a::r,x=>by
  simp only[ZbA,ZmL,Zdf];have:=Zib a;cases ha:a.o with
  |none=>rw[ha]at this;rw[<-this];exact ZcT (k+1) r x
  |some o=>
   rw[ha]at this;rw[<-this];simp only[Ze,show Zip (some o)=some o.enc from rfl]
   by_cases hx:x=(0,k,0)
   ·rw[if_pos hx,if_pos hx];rfl
   ·rw[if_neg hx,if_neg hx];exact ZcT (k+1) r x
theorem Zka (a:List (ZR U)):(Zkb a).enc=Zey (a.map ZR.enc):=by
 refine ZfR ?_ ?_ rfl rfl
 ·funext x;exact Ze9 0 a x
 ·funext x;exact ZcT 0 a x
theorem Ze8:∀(n:Nat) (l:List (ZR U)) (k:Nat) (d:TV U),(k,d)∈Zct n l->∃j x,l[j]? =some x/\k=n+j/\d=x.d (n+j)
 |n,[],k,d,h=>by grind[Zct]
 |n,x::r,k,d,h=>by
  simp only[Zct,ZmN,Zm0]at h;rcases h with ⟨rfl,rfl⟩ |h
  ·grind
  ·obtain⟨j,y,a,c,b⟩:=Ze8 (n+1) r k d h;exact⟨j+1,y,by simp_all,by omega,by grind⟩
theorem Ze6:∀(n:Nat) (l:List (ZR U)) (j:Nat) (x:ZR U) (o:TO U),l[j]? =some x->x.o=some o->Ze (ZbA n l) (0,n+j,0)=some o
 |n,[],j,x,o,h,_=>by grind
 |n,y::r,j,x,o,h,ho=>by
  cases j with
  |zero=>
   grind[ZbA,Ze]
  |succ j=>
   have:=Ze6 (n+1) r j x o (by simp_all) ho;grind[ZbA,Ze]
theorem ZcS:∀(n:Nat) (l:List (ZR U)) (id:Id) (o:TO U),(id,o)∈ZbA n l->∃x∈l,x.o=some o
 |n,[],id,o,h=>by grind[ZbA]
 |n,x::r,id,o,h=>by
  simp only[ZbA]at h;split at h
  ·rename_i o' c;rcases ZmN.1 h with h |h
   ·simp_all
   ·obtain⟨y,b,a⟩:=ZcS (n+1) r id o h;grind
  ·obtain⟨y,b,a⟩:=ZcS (n+1) r id o h;grind
theorem ZgB (e:List (ZR U)):(Zkb e).Inv:=by
 constructor
 ·intro k;show TV.inv _ (Zam TV.dead (Zct 0 e) k);rcases ZaI TV.dead (Zct 0 e) k with c |c
  ·rw[c];exact Zg rfl
  ·obtain⟨j,x,i,w,m⟩:=Ze8 0 e k _ c;rw[m];cases x with
   |p q=>exact Zg (Zjc q).2
   |box cs=>exact Zg rfl
   |map a b v=>exact Zg rfl
   |part t xs n len=>exact Zg rfl
   |arr t xs=>
    intro q c;simp only[ZR.d,TV.fulls,List.mem_singleton]at c;subst c;exact⟨.arr t xs false,Ze6 0 e j _ _ i rfl,fun y s g r=>by grind⟩
 ·intro id o u;obtain⟨x,_,f⟩:=ZcS 0 e id o (ZY u);cases x<;>simp only[ZR.o,ZmZ,reduceCtorEq]at f<;>subst f
  ·intro d h;obtain⟨l,_,rfl⟩:=List.mem_map.1 h;exact Zai _ _
  ·trivial
  ·trivial
  ·trivial
theorem Zgq {X0:ZG U} {F:FC U} {f:Nat} {args:List (ZR U)} {RT:Ret} (hX:F.X=X0.at F.fn.ntmps) (hf:X0.prog.funcs[f]? =some F.fn) (hn:(F.fn.name == "runtime.NumGoroutine")=false) (hb:F.fn.body=some F.c) (hl:args.length<=F.fn.ntmps)
  (h:Pt F RT [.c F.c] (Zkb args)):Fun X0.E f (args.map ZR.enc) RT:=by
 refine ZiD (E:=X0.E) hf hn hb (by simp_all) fun W Lt S0 lays=> ?_
 have:=h W Lt S0 lays;rw[Zka,hX]at this;exact this
structure Zkh (U:Zc) where
 ρ:Type
 pts:List Nat
 ms:List AM
 hs:List (Option Nat)
 as:List ShA
 s:ZfK U as->Option ρ
 give:ρ->ZbB U
def Zkh.sig (S:Zkh U):Zi8 U:=⟨S.pts,S.ms,S.hs,fun args=>match Ziw S.as args with
 |some v=>some ⟨S.ρ,S.s v,S.give⟩
 |none=>none⟩
theorem Zkh.ok {S:Zkh U} (e:UOk U) {E:Env} {f:Nat} (h:∀v r,S.s v=some r->Fun E f ((Zdd S.as v).map ZR.enc) (S.give r).enc/\Zej (Zdd S.as v) (S.give r)):Zei E f S.sig:=by intro args s b a c;simp only[Zkh.sig]at b;split at b;rotate_left;simp at b;rename_i v d;cases b;grind[ZeP]
theorem Zdz {args:List (ZR U)} {ret:ZbB U} (h:ret.outs.all (fun x=>x.2.len?.isNone)=true):Zej args ret:=by intro k a n c b;grind
end
end Eng
namespace Eng
open Go
section
variable {U:Zc}
def ttZ (o:Option (TT U)):Option (List D×List D×Option P×Option P):=match o with
 |some e=>some (TV.encs e.zero,e.ti.zero.map Z.toD,(match e.zl with |some l=>some (U.encL l) |none=>none),(match e.zl with |some _=>some e.ti.zeroP |none=>none))
 |none=>none
def ttZ' (o:Option (TT U)):Option (List D×List D×Option P×Option P):=match o with
 |some e=>some (e.ti.zero.map Z.toD,e.ti.zero.map Z.toD,(match e.zl with |some _=>some e.ti.zeroP |none=>none),(match e.zl with |some _=>some e.ti.zeroP |none=>none))
 |none=>none
def TV.plain:TV U->Bool
 | .v _ _ | .nilp | .nilfn | .nils _=>true
 |_=>false
def ttB (U:Zc) (o:Option (TT U)):Bool:=match o with
 |some e=>(e.ti.isAgg == e.n.isSome)&&(match e.n with |some n=>decide (e.ti.size=U.size n) |none=>true)&&e.zero.all TV.plain
 |none=>true
def ttK (X:ZG U):Nat->List (Option (TT U))->List (TD×TD)
 |_,[]=>[]
 |t,some e::r=>(match e.ty with | .map k _=>(X.E.keyTD t,k.td) |_=>(.other,.other))::ttK X (t+1) r
 |t,none::r=>(.other,.other)::ttK X (t+1) r
def Zlu:List (Option (TT U))->List (TD×TD)
 | []=>[]
 |some e::r=>(match e.ty with | .map k _=>(k.td,k.td) |_=>(.other,.other))::Zlu r
 |none::r=>(.other,.other)::Zlu r
theorem Zjd (X:ZG U):∀(l:List (Option (TT U))) (a:Nat),ttK X a l=Zlu l->∀t e k v,l[t]? =some (some e)->e.ty= .map k v->X.E.keyTD (a+t)=k.td
 | [],a,_,t,e,k,v,h,_=>by grind
 |o::r,a,h,t,e,k,v,ht,hty=>by
  cases t with
  |zero=>
   grind[ttK,Zlu]
  |succ t=>
   have b:ttK X (a+1) r=Zlu r:=by cases o<;>simp only[ttK,Zlu,ZnH]at h<;>exact h.2
   have:=Zjd X r (a+1) b t e k v (by simp_all) hty;grind
theorem tok_of {X:ZG U} (j:X.tt.map ttZ=X.tt.map ttZ') (o:X.tt.all (ttB U)=true) (r:ttK X 0 X.tt=Zlu X.tt):TOk X:=by
 have a:∀{t e},X.get t=some e->X.tt[t]? =some (some e):=fun {t e} h=>by grind[ZG.get]
 have f:∀{t e},X.get t=some e->ttZ (some e)=ttZ' (some e):=fun {t e} h=>by have p:=congrArg (·[t]?) j;simp_all
 have c:∀{t e},X.get t=some e->ttB U (some e)=true:=fun {t e} h=>Zm5.1 o _ (List.mem_of_getElem? (a h))
 refine⟨fun t e h=> ?_,fun t e l h m=> ?_,fun t e h=> ?_,fun t e n h g=> ?_,fun t e k v h b=> ?_,fun t e h d i=> ?_⟩
 ·grind[ttZ,ttZ']
 ·grind[ttZ,ttZ']
 ·grind[ttB]
 ·grind[ttB]
 ·have:=Zjd X X.tt 0 r t e k v (a h) b;simp_all
 ·have:=c h;simp only[ttB,ZmC,Zm5]at this;have:=this.2 d i;unfold TV.plain at this;split at this<;>first |rfl |simp_all
theorem TOk.at {X:ZG U} (h:TOk X) (n:Nat):TOk (X.at n):=⟨h.zero,h.zl,h.agg,h.size,h.key,h.inv⟩
theorem Zl.at {X:ZG U} (h:Zl X.E) (n:Nat):Zl (X.at n).E:=⟨h.tys⟩
theorem Zei.at {X:ZG U} {g:Nat} {a:Zi8 U} (h:Zei X.E g a) (n:Nat):Zei (X.at n).E g a:=h
def ZcY (X:ZG U):List (Nat×Zi8 U)->Prop
 | []=>True
 |x::r=>Zei X.E x.1 x.2/\ZcY X r
theorem Zeh {X:ZG U}:∀{l:List (Nat×Zi8 U)},ZcY X l->∀x∈l,Zei X.E x.1 x.2
 | [],_,x,h=>by grind
 |y::r,ha,x,h=>by
  rcases ZmN.1 h with rfl |h
  ·exact ha.1
  ·exact Zeh ha.2 x h
theorem fok {X0:ZG U} {F:FC U} (g:UOk U) (e:TOk X0) (f:Zl X0.E) (c:X0.prog.follows .mixedOrders=true) (a:F.X=X0.at F.fn.ntmps) (b:ZcY X0 F.sigs):FOk F:=by
 refine⟨g, ?_, ?_, ?_, ?_⟩
 ·rw[a];exact e.at _
 ·rw[a];exact f.at _
 ·rw[a];exact c
 ·intro x d;rw[a];exact(Zeh b x d).at _
def Zc6 (F:FC U) (p:List Nat):Code:=match atP (F.c,[]) p with |some x=>x.1 |none=> .skip
def tc (F:FC U) (p:List Nat):TI':= .c p (Zc6 F p)
def tc0 (F:FC U):TI':= .c [] F.c
theorem retOut {ρ β:Type} {S:RSh} {g:Zk3 U S->ρ} {t:ZbB U} {x:Out β ρ} (h:Zeo S (fun v=>Out.ret (β:=β) (g v)) t=some x):∃q,x= .ret q/\Zeo S g t=some q:=by
 grind[Zeo]
end
theorem as_car {car:Nat->Type} {l:Lf car} {t:Ty} {x:El car t} (h:l.as t=some x):l=⟨t,x⟩:=by unfold Lf.as at h;split at h;rotate_left;simp at h;rename_i a;obtain⟨b,y⟩:=l;grind
theorem Zmh {car:Nat->Type} {t:Ty}:∀{cs:List (Lf car)} {l:List (El car t)},Zh (fun c=>c.as t) cs=some l->cs=l.map fun y=>⟨t,y⟩
 | [],l,h=>by grind[Zh]
 |c::cs,l,h=>by simp only[Zh]at h;split at h;rotate_left;simp at h;rename_i y d b a;cases h;rw[ZmL,<-Zmh a,as_car b]
def andK (k:IntKind) (x y:Int):Int:=k.wrap (BitVec.ofInt k.bits x&&& BitVec.ofInt k.bits y).toNat
def orK (k:IntKind) (x y:Int):Int:=k.wrap (BitVec.ofInt k.bits x|||BitVec.ofInt k.bits y).toNat
def xorK (k:IntKind) (x y:Int):Int:=k.wrap (BitVec.ofInt k.bits x ^^^ BitVec.ofInt k.bits y).toNat
def andNotK (k:IntKind) (x y:Int):Int:=k.wrap (BitVec.ofInt k.bits x&&& ~~~BitVec.ofInt k.bits y).toNat
def shlK (k:IntKind) (x y:Int):Int:=k.wrap (x*2 ^ (min y.toNat k.bits))
def shrK (k:IntKind) (x y:Int):Int:=x.fdiv (2 ^ (min y.toNat k.bits))
def mkOk (a b:Int) (n:Nat):Bool:=decide (0<=a/\a<=b/\b*n<=ZO/\b<=ZO)
def inR (n m:Int):Bool:=decide (0<=n/\n < m)
end Eng
namespace Eng
open Go Go.RowKit
theorem Zi9.of_below {w w':World} (h:Below w.heap.size w w'):Zi9 w w':=⟨⟨h.os,h.output⟩,h.size,fun b a=>h.block b a⟩
theorem Zi9.rfl' (w:World):Zi9 w w:=⟨.refl _,Nat.le_refl _,fun _ _=>rfl⟩
theorem Ze7:∀(n:Nat) (xs:List P) (k:Nat) (x:P),xs[k]? =some x->Zam D.dead (ZcU n (xs.map Arg.p)) (n+k)= .p x
 |n,[],k,x,h=>by grind
 |n,y::r,0,x,h=>by grind[ZcU,Zam,Arg.d]
 |n,y::r,k+1,x,h=>by simp only[List.getElem?_cons_succ]at h;have:=Ze7 (n+1) r k x h;grind[ZcU,Zam]
theorem Zia {xs:List P} {k:Nat} {x:P} (h:xs[k]? =some x):(Zey (xs.map Arg.p)).slots k= .p x:=by
 have:=Ze7 0 xs k x h
 rwa [Nat.zero_add]at this
theorem Zlg {E:Env} {f:Nat} {xs:List P} {y:P} (hf:∃fn,E.prog.funcs[f]? =some fn/\(fn.name == "runtime.NumGoroutine")=false/\fn.body.isNone=false)
  (h:∀(w:World) (S:Nat->Prop) (vals:Array Value),vals.size=xs.length->(∀(k:Nat) v x,vals[k]? =some v->xs[k]? =some x->RelP w S v x)->
   (∀g cs,(g,cs)∈E.globs->Zel w S g cs)->
   CallsIn (Zck none) 0 E.prog f vals w fun e w'=>∃v,e= .returned v/\Zi9 w w'/\RelP w' S v y):Fun E f (xs.map .p) ⟨[.p y],[]⟩:=by
 refine .inl ⟨hf,fun w Lt S lays ρ vals hv hrep=> ?_⟩;rw[List.length_map]at hv;refine CallsIn.mono (h w S vals hv ?_ hrep.glob) ?_
 ·intro k v x hk hx;have h1:=hrep.slots k;have e1:(Zey (xs.map Arg.p)).slots k= .p x:=Zia hx;rw[e1]at h1;have hlt:=(Zmy.1 hk).1;rw[show vals.getD k undef=v by simp[hk]]at h1;exact h1.of_p
 ·rintro e w' ⟨v,rfl,hk,hr⟩;have hK:Zcy S w w':=fun b _ hb=>hk.2.2 b hb
  refine⟨#[v],fun _=>none,S,rfl,rfl, ?_⟩;have ho:∀id,(ZcE ⟨[.p y],[]⟩).objs id=none:=fun id=>rfl
  exact {
   nt:=rfl
   grow:=hk.2.1
   frame:=fun b hb _=>hk.2.2 b hb
   s0:=fun _ h=>h
   sIn:=fun b hb=>Nat.lt_of_lt_of_le (hrep.sIn b hb) hk.2.1
   slots:=fun k=>by
    cases k with
    |zero=>exact .p _ _ hr
    |succ k=>exact .dead _
   objs:=fun id o h=>by simp_all
   own:=fun id o L b h=>by simp_all
   inj:=fun id o L id' o' L' b h=>by simp_all
   known:=fun id h=>absurd (ho id) h
   young:=fun id h=>absurd rfl h
   fzk:=fun id h=>by cases h
   glob:=fun g cs hg=>(hrep.glob g cs hg).mono hK fun _ h=>h
   sOut:=fun b h=> .inl h
   ep1:=by show 1<=2;omega
   quiet:=hk.1
   lay:=fun k L h1 h2=>absurd rfl h2}
theorem Zl1 {E:Env} {f:Nat} {xs:List P} {y z:P} (q:∃fn,E.prog.funcs[f]? =some fn/\fn.body.isNone=true)
  (h:∀(w:World) (S:Nat->Prop) (a:Array Value),a.size=xs.length->(∀(k:Nat) v x,a[k]? =some v->xs[k]? =some x->RelP w S v x)->
   ∃v u,(callFunc f a).run E.prog w= .ok (.value (.tuple #[v,u])) w/\RelP w S v y/\RelP w S u z):Fun E f (xs.map .p) ⟨[.p y,.p z],[]⟩:=by
 refine .inr ⟨q,fun w Lt S l ρ a j c=> ?_⟩;rw[List.length_map]at j;obtain⟨v,u,d,r,i⟩:=h w S a j (by
  intro k v x m t;have e:=c.slots k;have A:(Zey (xs.map Arg.p)).slots k= .p x:=Zia t;rw[A]at e;have p:=(Zmy.1 m).1;rw[show a.getD k undef=v by simp[m]]at e;exact e.of_p)
 refine⟨#[v,u],fun _=>none,S,w,d,rfl, ?_⟩;have g:∀id,(ZcE ⟨[.p y,.p z],[]⟩).objs id=none:=fun id=>rfl
 exact {
  nt:=rfl
  grow:=Nat.le_refl _
  frame:=fun b B _=>rfl
  s0:=fun _ h=>h
  sIn:=c.sIn
  slots:=fun k=>by
   match k with
   |0=>exact .p _ _ r
   |1=>exact .p _ _ i
   |k+2=>exact .dead _
  objs:=fun id o h=>by simp_all
  own:=fun id o L b h=>by simp_all
  inj:=fun id o L n o' L' b h=>by simp_all
  known:=fun id h=>absurd (g id) h
  young:=fun id h=>absurd rfl h
  fzk:=fun id h=>by cases h
  glob:=c.glob
  sOut:=fun b h=> .inl h
  ep1:=by show 1<=2;omega
  quiet:= .refl _
  lay:=fun k L e s=>absurd rfl s}
def ZhK {U:Zc} (args:List (ZR U)) (ret:ZbB U):Bool:=ret.outs.all fun x=>match x.2.len? with
 |some n=>(match args[x.1]? with
  |some a=>(match a.len? with
   |some m=>decide (n=m)
   |none=>false)
  |none=>false)
 |none=>true
theorem Zio {U:Zc} {args:List (ZR U)} {ret:ZbB U} (h:ZhK args ret=true):Zej args ret:=by intro k a n f d;have:=Zm5.1 h _ f;grind
theorem chkLen {a:Type} {o:Option a} {p:a->Bool} {r:a} (h:(o.bind fun r=>chk (p r) (some r))=some r):o=some r/\p r=true:=by
 cases o with
 |none=>grind
 |some x=>
  simp only[Option.bind_some]at h;unfold chk at h;grind
section
variable {U:Zc}
theorem Pt.ev0 {F:FC U} (a:FOk F) {ρ:Type} {r:ρ} {S:RSh} {g:Zk3 U S->ρ} {b:ρ->ZbB U} {cuts:List (List Nat×Lp U ρ)} {pre:List TI'} {T:TS U} {k:List Item}
  (e:k=pre.map TI'.conc++[]) (j:T.Inv) (h:Eng.evl (F.par cuts none [] (Zeo S g)) 4000 none pre T=some r) (hw:Wf (F.c,[]) [] pre) (d:Zbc F (b r).enc r cuts) (i:∀v,b (g v)=S.bld v):Pt F (b r).enc k T:=
 Pt.evlAt a 4000 e j h hw d (fun _ c=>nomatch c) (fun _=>rfl) trivial (fun _ f=>Zf1 a.hU i f)
theorem Zkh.ok0 {X0:ZG U} {F:FC U} (hF:FOk F) {S:Zkh U} {f:Nat} {R:RSh} {g:Zk3 U R->S.ρ} {cuts:List (List Nat×Lp U S.ρ)} {pre:List TI'} (hX:F.X=X0.at F.fn.ntmps) (hf:X0.prog.funcs[f]? =some F.fn) (hn:(F.fn.name == "runtime.NumGoroutine")=false) (hb:F.fn.body=some F.c)
  (hl:∀v:ZfK U S.as,(Zdd S.as v).length<=F.fn.ntmps) (hg:∀v,S.give (g v)=R.bld v) (hk:[.c F.c]=pre.map TI'.conc++[]) (h:∀v r,S.s v=some r->Eng.evl (F.par cuts none [] (Zeo R g)) 4000 none pre (Zkb (Zdd S.as v))=some r)
  (hw:Wf (F.c,[]) [] pre) (hc:∀r,Zbc F (S.give r).enc r cuts) (ho:∀r,(S.give r).outs.all (fun x=>x.2.len?.isNone)=true):Zei X0.E f S.sig:=
 Zkh.ok hF.hU fun v r hr=>⟨Zgq hX hf hn hb (hl v) (Pt.ev0 hF (b:=S.give) hk (ZgB _) (h v r hr) hw (hc r) hg),Zdz (ho r)⟩
end
end Eng
namespace Eng
open Go
abbrev HL:List Type->Type
 | []=>Unit
 |a::r=>a×HL r
abbrev HT:List Type->Type
 | []=>Unit
 | [a]=>a
 |a::b::r=>a×HT (b::r)
abbrev Zi3:List Type->Type->Type
 | [],X=>X
 |a::r,X=>a->Zi3 r X
abbrev app {X:Type}:(ts:List Type)->Zi3 ts X->HL ts->X
 | [],f,_=>f
 |_::r,f,v=>app r (f v.1) v.2
abbrev Zlv:(ts:List Type)->HL ts->HT ts
 | [],_=>()
 | [_],v=>v.1
 |_::b::r,v=>(v.1,Zlv (b::r) v.2)
abbrev ZlN:(ts:List Type)->HT ts->HL ts
 | [],_=>()
 | [_],x=>(x,())
 |_::b::r,x=>(x.1,ZlN (b::r) x.2)
theorem Zcd:∀(ts:List Type) (v:HL ts),ZlN ts (Zlv ts v)=v
 | [],_=>rfl
 | [_],_=>rfl
 |_::b::r,v=>by show (v.1,ZlN (b::r) (Zlv (b::r) v.2))=v;rw[Zcd (b::r) v.2]
abbrev unT {X:Type} (ts:List Type) (f:Zi3 ts X) (x:HT ts):X:=app ts f (ZlN ts x)
section
variable (U:Zc)
abbrev lv1:Sh1->List Type->List Type
 | .v t,r=>El U.car t::r
 | .pp t,r=>El U.car t::r
 | .full _,r=>r
 | .sl _,r=>Nat::Nat::r
 | .ptr _ _ _,r=>r
 | .ptrI _ _,r=>Nat::r
 | .map _,r=>r
 | .it _,r=>r
 | .nilp,r=>r
 | .nilfn,r=>r
 | .undef,r=>r
 | .nils _,r=>r
 | .clip t,r=>List (El U.car t)::r
abbrev lvs1:List Sh1->List Type->List Type
 | [],r=>r
 |s::l,r=>lv1 U s (lvs1 l r)
abbrev lvS:Sh->List Type->List Type
 | .o s,r=>lv1 U s r
 | .agg l,r=>lvs1 U l r
 | .fn _ a b,r=>lvs1 U a (lvs1 U b r)
abbrev lvs:List Sh->List Type->List Type
 | [],r=>r
 |s::l,r=>lvS U s (lvs l r)
abbrev lvO:ShO->List Type->List Type
 | .box l,r=>lvs U l r
 | .boxS t,r=>El U.car t::r
 | .arr t _,r=>List (El U.car t)::r
 | .map k v,r=>List (El U.car k×El U.car v)::r
 | .sit,r=>List UInt8::Nat::r
 | .mit k v,r=>List (El U.car k×El U.car v)::Option (El U.car k×El U.car v)::r
abbrev lvsO:List ShO->List Type->List Type
 | [],r=>r
 |s::l,r=>lvO U s (lvsO l r)
abbrev lvQ:List Sh->List ShO->List Type:=fun shs sho=>lvs U shs (lvsO U sho [])
abbrev lq1:Sh1->List Type->List Type
 | .v t,r=>El U.car t::r
 | .pp t,r=>El U.car t::r
 | .full _,r=>r
 | .sl _,r=>r
 | .ptr _ _ _,r=>r
 | .ptrI _ _,r=>r
 | .map _,r=>r
 | .it _,r=>r
 | .nilp,r=>r
 | .nilfn,r=>r
 | .undef,r=>r
 | .nils _,r=>r
 | .clip _,r=>r
abbrev ZjI:List Sh1->List Type->List Type
 | [],r=>r
 |s::l,r=>lq1 U s (ZjI l r)
abbrev lvA:ShA->List Type->List Type
 | .p t,r=>El U.car t::r
 | .box t,r=>El U.car t::r
 | .arr t,r=>List (El U.car t)::r
 | .map k v,r=>List (El U.car k×El U.car v)::r
 | .ptr t,r=>El U.car t::r
 | .fn _ a b,r=>ZjI U a (ZjI U b r)
 | .nilp,r=>r
 | .nilfn,r=>r
 | .part t,r=>List (El U.car t)::Nat::Nat::r
abbrev ZjH:List ShA->List Type->List Type
 | [],r=>r
 |s::l,r=>lvA U s (ZjH l r)
abbrev lvR:ShR->List Type->List Type
 | .p t,r=>El U.car t::r
 | .own t,r=>List (El U.car t)::r
 | .box t,r=>El U.car t::r
 | .map k v,r=>List (El U.car k×El U.car v)::r
 | .view _,r=>Nat::Nat::r
 | .aown n _ _,r=>U.car n::r
abbrev ZlW:List ShR->List Type->List Type
 | [],r=>r
 |s::l,r=>lvR U s (ZlW l r)
abbrev ZlV:List (Nat×ShA)->List Type->List Type
 | [],r=>r
 |s::l,r=>lvA U s.2 (ZlV l r)
end
section
variable {U:Zc} {r:List Type}
abbrev fl1:(s:Sh1)->Zmv U s->HL r->HL (lv1 U s r)
 | .v _,x,y=>(x,y)
 | .pp _,x,y=>(x,y)
 | .full _,_,y=>y
 | .sl _,x,y=>(x.1,x.2,y)
 | .ptr _ _ _,_,y=>y
 | .ptrI _ _,x,y=>(x,y)
 | .map _,_,y=>y
 | .it _,_,y=>y
 | .nilp,_,y=>y
 | .nilfn,_,y=>y
 | .undef,_,y=>y
 | .nils _,_,y=>y
 | .clip _,x,y=>(x,y)
abbrev fls1:(l:List Sh1)->ZgH U l->HL r->HL (lvs1 U l r)
 | [],_,y=>y
 |s::l,x,y=>fl1 s x.1 (fls1 l x.2 y)
abbrev flS:(s:Sh)->Val U s->HL r->HL (lvS U s r)
 | .o s,x,y=>fl1 s x y
 | .agg l,x,y=>fls1 l x y
 | .fn _ a b,x,y=>fls1 a x.1 (fls1 b x.2 y)
abbrev fls:(l:List Sh)->Zb8 U l->HL r->HL (lvs U l r)
 | [],_,y=>y
 |s::l,x,y=>flS s x.1 (fls l x.2 y)
abbrev flO:(s:ShO)->ValO U s->HL r->HL (lvO U s r)
 | .box l,x,y=>fls l x y
 | .boxS _,x,y=>(x,y)
 | .arr _ _,x,y=>(x,y)
 | .map _ _,x,y=>(x,y)
 | .sit,x,y=>(x.1,x.2,y)
 | .mit _ _,x,y=>(x.1,x.2,y)
abbrev flsO:(l:List ShO)->Zag U l->HL r->HL (lvsO U l r)
 | [],_,y=>y
 |s::l,x,y=>flO s x.1 (flsO l x.2 y)
abbrev flQ (shs:List Sh) (sho:List ShO) (v:Zb8 U shs) (w:Zag U sho):HL (lvQ U shs sho):=fls shs v (flsO (r:=[]) sho w ())
abbrev unc {X:Type} (shs:List Sh) (sho:List ShO) (f:Zi3 (lvQ U shs sho) X) (v:Zb8 U shs) (w:Zag U sho):X:=app (lvQ U shs sho) f (flQ shs sho v w)
def fq1:(s:Sh1)->Zhu U s->HL r->HL (lq1 U s r)
 | .v _,x,y=>(x,y)
 | .pp _,x,y=>(x,y)
 | .full _,_,y=>y
 | .sl _,_,y=>y
 | .ptr _ _ _,_,y=>y
 | .ptrI _ _,_,y=>y
 | .map _,_,y=>y
 | .it _,_,y=>y
 | .nilp,_,y=>y
 | .nilfn,_,y=>y
 | .undef,_,y=>y
 | .nils _,_,y=>y
 | .clip _,_,y=>y
def fqs1:(l:List Sh1)->Zcx U l->HL r->HL (ZjI U l r)
 | [],_,y=>y
 |s::l,x,y=>fq1 s x.1 (fqs1 l x.2 y)
abbrev flA:(s:ShA)->Zlo U s->HL r->HL (lvA U s r)
 | .p _,x,y=>(x,y)
 | .box _,x,y=>(x,y)
 | .arr _,x,y=>(x,y)
 | .map _ _,x,y=>(x,y)
 | .ptr _,x,y=>(x,y)
 | .fn _ a b,x,y=>fqs1 a x.1 (fqs1 b x.2 y)
 | .nilp,_,y=>y
 | .nilfn,_,y=>y
 | .part _,x,y=>(x.1,x.2.1,x.2.2,y)
abbrev Zlj:(l:List ShA)->ZfK U l->HL r->HL (ZjH U l r)
 | [],_,y=>y
 |s::l,x,y=>flA s x.1 (Zlj l x.2 y)
abbrev flR:(s:ShR)->Zmj U s->HL r->HL (lvR U s r)
 | .p _,x,y=>(x,y)
 | .own _,x,y=>(x,y)
 | .box _,x,y=>(x,y)
 | .map _ _,x,y=>(x,y)
 | .view _,x,y=>(x.1,x.2,y)
 | .aown _ _ _,x,y=>(x,y)
abbrev Zmr:(l:List ShR)->ZgG U l->HL r->HL (ZlW U l r)
 | [],_,y=>y
 |s::l,x,y=>flR s x.1 (Zmr l x.2 y)
abbrev Zli:(l:List (Nat×ShA))->ZgF U l->HL r->HL (ZlV U l r)
 | [],_,y=>y
 |s::l,x,y=>flA s.2 x.1 (Zli l x.2 y)
def uq1:(s:Sh1)->HL (lq1 U s r)->Zhu U s×HL r
 | .v _,y=>y
 | .pp _,y=>y
 | .full _,y=>((),y)
 | .sl _,y=>((),y)
 | .ptr _ _ _,y=>((),y)
 | .ptrI _ _,y=>((),y)
 | .map _,y=>((),y)
 | .it _,y=>((),y)
 | .nilp,y=>((),y)
 | .nilfn,y=>((),y)
 | .undef,y=>((),y)
 | .nils _,y=>((),y)
 | .clip _,y=>((),y)
def Zkn:(l:List Sh1)->HL (ZjI U l r)->Zcx U l×HL r
 | [],y=>((),y)
 |s::l,y=>(((uq1 (r:=ZjI U l r) s y).1,(Zkn l (uq1 (r:=ZjI U l r) s y).2).1),(Zkn l (uq1 (r:=ZjI U l r) s y).2).2)
def uA:(s:ShA)->HL (lvA U s r)->Zlo U s×HL r
 | .p _,y=>y
 | .box _,y=>y
 | .arr _,y=>y
 | .map _ _,y=>y
 | .ptr _,y=>y
 | .fn _ a b,y=>(((Zkn (r:=ZjI U b r) a y).1,(Zkn b (Zkn (r:=ZjI U b r) a y).2).1),(Zkn b (Zkn (r:=ZjI U b r) a y).2).2)
 | .nilp,y=>((),y)
 | .nilfn,y=>((),y)
 | .part _,y=>((y.1,y.2.1,y.2.2.1),y.2.2.2)
def uR:(s:ShR)->HL (lvR U s r)->Zmj U s×HL r
 | .p _,y=>y
 | .own _,y=>y
 | .box _,y=>y
 | .map _ _,y=>y
 | .view _,y=>((y.1,y.2.1),y.2.2)
 | .aown _ _ _,y=>y
def usR:(l:List ShR)->HL (ZlW U l r)->ZgG U l×HL r
 | [],y=>((),y)
 |s::l,y=>(((uR (r:=ZlW U l r) s y).1,(usR l (uR (r:=ZlW U l r) s y).2).1),(usR l (uR (r:=ZlW U l r) s y).2).2)
def usU:(l:List (Nat×ShA))->HL (ZlV U l r)->ZgF U l×HL r
 | [],y=>((),y)
 |s::l,y=>(((uA (r:=ZlV U l r) s.2 y).1,(usU l (uA (r:=ZlV U l r) s.2 y).2).1),(usU l (uA (r:=ZlV U l r) s.2 y).2).2)
theorem Zlt (s:Sh1) (x:Zhu U s) (y:HL r):uq1 s (fq1 s x y)=(x,y):=by cases s<;>rfl
theorem ZfN:∀(l:List Sh1) (x:Zcx U l) (y:HL r),Zkn l (fqs1 l x y)=(x,y)
 | [],_,_=>rfl
 |s::l,x,y=>by simp only[fqs1,Zkn,Zlt,ZfN l]
theorem uA_flA (s:ShA) (x:Zlo U s) (y:HL r):uA s (flA s x y)=(x,y):=by
 cases s with
 |fn f a b=>grind[uA,ZfN]
 |_=>rfl
theorem uR_flR (s:ShR) (x:Zmj U s) (y:HL r):uR s (flR s x y)=(x,y):=by cases s<;>rfl
theorem Zhz:∀(l:List ShR) (x:ZgG U l) (y:HL r),usR l (Zmr l x y)=(x,y)
 | [],_,_=>rfl
 |s::l,x,y=>by simp only[Zmr,usR,uR_flR,Zhz l]
theorem Zhy:∀(l:List (Nat×ShA)) (x:ZgF U l) (y:HL r),usU l (Zli l x y)=(x,y)
 | [],_,_=>rfl
 |s::l,x,y=>by simp only[Zli,usU,uA_flA,Zhy l]
end
def pthF:Nat->Nat->List Nat->List Nat
 |0,_,acc=>acc
 |k+1,n,acc=>bif Nat.beq n 9 then acc else pthF k (n / 10) (n % 10::acc)
def pth (n:Nat):List Nat:=pthF 1000 n []
section
variable {U:Zc}
def blkId:Code->Nat
 | .block id _=>id
 |_=>0
def ZdO:Code->Bool
 | .loop _=>true
 |_=>false
abbrev kOf (F:FC U) (a:List Nat):List Nat->List TI'
 | []=>[]
 |d::q=>bif (d::q) == a then []else match d with
  |0=>tc F (1::q)::kOf F a q
  |4=> .blk (blkId (Zc6 F q))::kOf F a q
  |_=>kOf F a q
def inP (a:List Nat):List Nat->Bool
 | []=>a.isEmpty
 |d::q=>bif (d::q) == a then true else (d != 5)&&inP a q
def chkP (F:FC U) (a p:List Nat):Bool:=(atP (F.c,[]) p).isSome&&inP a p
def ZfF (F:FC U) (a q:List Nat):Bool:=ZdO (Zc6 F q)&&inP a q
abbrev xpre (F:FC U) (b q:List Nat) (a:Nat):List TI':=(Zcl a (kOf F b q)).getD []
def Zms (F:FC U) (b q:List Nat) (a:Nat):Bool:=(Zcl a (kOf F b q)).isSome
theorem Zbv {F:FC U} {p:List Nat} {c:Code} {k:List Item} (h:atP (F.c,[]) p=some (c,k)):Zc6 F p=c:=by grind[Zc6]
theorem ZhS (F:FC U) {g:List Nat} {cb:Code} {base:List Item} (j:atP (F.c,[]) g=some (cb,base)):∀(p:List Nat),inP g p=true->∀c k,atP (F.c,[]) p=some (c,k)->
  k=(kOf F g p).map TI'.conc++base/\Wf (F.c,[]) base (kOf F g p)
 | [],h,c,k,hp=>by simp only[inP,List.isEmpty_iff]at h;subst h;rw[j]at hp;cases hp;exact⟨rfl,trivial⟩
 |d::q,h,c,k,hp=>by
  unfold inP at h;unfold kOf;cases he:((d::q) == g)with
  |true=>
   have:=eq_of_beq he;subst this;rw[j]at hp;cases hp;exact⟨rfl,trivial⟩
  |false=>
   rw[he]at h;simp only[cond_false,ZmC,bne_iff_ne,ne_eq]at h|-
   obtain⟨n,o⟩:=h;have s:=hp;unfold atP at hp;split at hp;rotate_left;simp at hp;rename_i r m e;obtain⟨f,i⟩:=ZhS F j q o r m e;split at hp
   ·simp only[ZmZ,Zm0]at hp;obtain⟨rfl,rfl⟩:=hp;rename_i a b;have l:atP (F.c,[]) (1::q)=some (b,m):=by grind[atP]
    simp only[ZmL,Zm7,tc,TI'.conc,Zbv l];refine⟨by grind, ?_,i⟩;grind
   ·simp_all
   ·simp_all
   ·simp_all
   ·simp only[ZmZ,Zm0]at hp;obtain⟨rfl,rfl⟩:=hp;simp only[ZmL,Zm7,TI'.conc,Zbv e,blkId];exact⟨by grind,i⟩
   all_goals simp_all
inductive CT (U:Zc) (ρ:Type):Type->Type 1
 |nil {R:Type}:CT U ρ R
 |j {R:Type} (p:Nat) (live frz:List Nat) (shs:List Sh) (sho:List ShO) (f:Zi3 (lvQ U shs sho) (Option R)) (k:CT U ρ R):CT U ρ R
 |lo {R:Type} (q:Nat) (live frz:List Nat) (shs:List Sh) (sho:List ShO) (xid:Nat) (xlive xfrz:List Nat) (xshs:List Sh) (xsho:List ShO)
   (hd:Nat->Zi3 (lvQ U shs sho) (Option (HT (lvQ U xshs xsho)))) (af:Zi3 (lvQ U xshs xsho) (Option R)) (body:Nat->CT U ρ (HT (lvQ U xshs xsho))) (k:CT U ρ R):CT U ρ R
 |lr {R:Type} (q:Nat) (live frz:List Nat) (shs:List Sh) (sho:List ShO) (xid:Nat) (xlive xfrz:List Nat) (xshs:List Sh) (xsho:List ShO)
   (hd:Nat->Zi3 (lvQ U shs sho) (Option (Out (HT (lvQ U xshs xsho)) ρ))) (af:Zi3 (lvQ U xshs xsho) (Option R)) (body:Nat->CT U ρ (Out (HT (lvQ U xshs xsho)) ρ)) (k:CT U ρ R):CT U ρ R
 |lz {R:Type} (q:Nat) (live frz:List Nat) (shs:List Sh) (sho:List ShO)
   (hd:Nat->Zi3 (lvQ U shs sho) (Option (Out Unit ρ))) (body:Nat->CT U ρ (Out Unit ρ)) (k:CT U ρ R):CT U ρ R
structure CC (U:Zc) (R:Type) where
 pb:List Nat
 back:Option (Lp U R)
 exits:List (Nat×Lp U R)
 ret:ZbB U->Option R
variable {ρ:Type}
abbrev outB {β R:Type} (c:ρ->Option R) (a:β->Option R):Out β ρ->Option R
 | .ret q=>c q
 | .brk b=>a b
abbrev CT.cuts:{R:Type}->CT U ρ R->(ρ->Option R)->List (List Nat×Lp U R)
 |_,.nil,_=>[]
 |_,.j p live frz shs sho f k,em=>(pth p,⟨live,frz,shs,sho,unc shs sho f⟩)::k.cuts em
 |_,.lo q live frz shs sho _ _ _ xshs xsho hd af _ k,em=>(pth q,⟨live,frz,shs,sho,fun v w=>(unc shs sho (hd big) v w).bind (unT (lvQ U xshs xsho) af)⟩)::k.cuts em
 |_,.lr q live frz shs sho _ _ _ xshs xsho hd af _ k,em=>(pth q,⟨live,frz,shs,sho,fun v w=>(unc shs sho (hd big) v w).bind (outB em (unT (lvQ U xshs xsho) af))⟩)::k.cuts em
 |_,.lz q live frz shs sho hd _ k,em=>(pth q,⟨live,frz,shs,sho,fun v w=>(unc shs sho (hd big) v w).bind (outB em fun _=>none)⟩)::k.cuts em
abbrev CT.Ty:{R:Type}->CT U ρ R->Type
 |_,.nil=>Unit
 |R,.j _ _ _ shs sho _ k=>Bool×(Zb8 U shs->Zag U sho->Option R)×k.Ty
 |R,.lo _ _ _ shs sho _ _ _ xshs xsho _ _ body k=>Bool×(Zb8 U shs->Zag U sho->Option (HT (lvQ U xshs xsho)))×(Nat->Zb8 U shs->Zag U sho->Option (HT (lvQ U xshs xsho)))×((n:Nat)->(body n).Ty)×(Zb8 U xshs->Zag U xsho->Option R)×k.Ty
 |R,.lr _ _ _ shs sho _ _ _ xshs xsho _ _ body k=>Bool×(Zb8 U shs->Zag U sho->Option (Out (HT (lvQ U xshs xsho)) ρ))×(Nat->Zb8 U shs->Zag U sho->Option (Out (HT (lvQ U xshs xsho)) ρ))×((n:Nat)->(body n).Ty)×(Zb8 U xshs->Zag U xsho->Option R)×k.Ty
 |_,.lz _ _ _ shs sho _ body k=>Bool×(Zb8 U shs->Zag U sho->Option (Out Unit ρ))×(Nat->Zb8 U shs->Zag U sho->Option (Out Unit ρ))×((n:Nat)->(body n).Ty)×k.Ty
abbrev stC (F:FC U) (live:List Nat) (shs:List Sh) (sho:List ShO) (v:Zb8 U shs) (w:Zag U sho):TS U:=mkC F.lent live (Zmt shs v) (Zj9 sho w)
abbrev ZcO (ret0:ZbB U->Option ρ) {X:Type} (b:ρ->Option X) (q:List Nat) (L:Lp U X) (a:List (Nat×Lp U X)):CC U X:=⟨5::q,some L,a,fun t=>(ret0 t).bind b⟩
abbrev lx (c d:List Nat) (a:List Sh) (b:List ShO) {X:Type} (m:HT (lvQ U a b)->X):Lp U X:=⟨c,d,a,b,fun v w=>some (m (Zlv (lvQ U a b) (flQ a b v w)))⟩
noncomputable abbrev evp (F:FC U) {R:Type} (C:CC U R) (cuts:List (List Nat×Lp U R)) (pre:List TI') (T:TS U):Option R:=evl (F.par cuts C.back C.exits C.ret) 4000 none pre T
noncomputable abbrev CT.lhs (F:FC U) (ret0:ZbB U->Option ρ):{R:Type}->(t:CT U ρ R)->CC U R->(ρ->Option R)->t.Ty
 |_,.nil,_,_=>()
 |_,.j p live _ shs sho _ k,C,em=>(chkP F C.pb (pth p),fun v w=>evp F C (k.cuts em) (tc F (pth p)::kOf F C.pb (pth p)) (stC F live shs sho v w),k.lhs F ret0 C em)
 |_,.lo q live frz shs sho xid xlive xfrz xshs xsho hd _ body k,C,em=>(ZfF F C.pb (pth q)&&Zms F C.pb (pth q) xid,fun v w=>unc shs sho (hd 0) v w,
   fun n v w=>evp F (ZcO ret0 (fun _=>none) (pth q) ⟨live,frz,shs,sho,unc shs sho (hd n)⟩ [(xid,lx xlive xfrz xshs xsho id)]) ((body n).cuts fun _=>none) [tc F (5::pth q)] (stC F live shs sho v w),
   fun n=>(body n).lhs F ret0 (ZcO ret0 (fun _=>none) (pth q) ⟨live,frz,shs,sho,unc shs sho (hd n)⟩ [(xid,lx xlive xfrz xshs xsho id)]) fun _=>none,
   fun v w=>evp F C (k.cuts em) (xpre F C.pb (pth q) xid) (stC F xlive xshs xsho v w),k.lhs F ret0 C em)
 |_,.lr q live frz shs sho xid xlive xfrz xshs xsho hd _ body k,C,em=>(ZfF F C.pb (pth q)&&Zms F C.pb (pth q) xid,fun v w=>unc shs sho (hd 0) v w,
   fun n v w=>evp F (ZcO ret0 (fun q=>some (.ret q)) (pth q) ⟨live,frz,shs,sho,unc shs sho (hd n)⟩ [(xid,lx xlive xfrz xshs xsho .brk)]) ((body n).cuts fun q=>some (.ret q)) [tc F (5::pth q)] (stC F live shs sho v w),
   fun n=>(body n).lhs F ret0 (ZcO ret0 (fun q=>some (.ret q)) (pth q) ⟨live,frz,shs,sho,unc shs sho (hd n)⟩ [(xid,lx xlive xfrz xshs xsho .brk)]) fun q=>some (.ret q),
   fun v w=>evp F C (k.cuts em) (xpre F C.pb (pth q) xid) (stC F xlive xshs xsho v w),k.lhs F ret0 C em)
 |_,.lz q live frz shs sho hd body k,C,em=>(ZfF F C.pb (pth q),fun v w=>unc shs sho (hd 0) v w,
   fun n v w=>evp F (ZcO ret0 (fun q=>some (.ret q)) (pth q) ⟨live,frz,shs,sho,unc shs sho (hd n)⟩ []) ((body n).cuts fun q=>some (.ret q)) [tc F (5::pth q)] (stC F live shs sho v w),
   fun n=>(body n).lhs F ret0 (ZcO ret0 (fun q=>some (.ret q)) (pth q) ⟨live,frz,shs,sho,unc shs sho (hd n)⟩ []) fun q=>some (.ret q),
   k.lhs F ret0 C em)
abbrev CT.rhs:{R:Type}->(t:CT U ρ R)->t.Ty
 |_,.nil=>()
 |_,.j _ _ _ shs sho f k=>(true,fun v w=>unc shs sho f v w,k.rhs)
 |_,.lo _ _ _ shs sho _ _ _ xshs xsho hd af body k=>(true,fun _ _=>none,fun n v w=>unc shs sho (hd (n+1)) v w,fun n=>(body n).rhs,fun v w=>unc xshs xsho af v w,k.rhs)
 |_,.lr _ _ _ shs sho _ _ _ xshs xsho hd af body k=>(true,fun _ _=>none,fun n v w=>unc shs sho (hd (n+1)) v w,fun n=>(body n).rhs,fun v w=>unc xshs xsho af v w,k.rhs)
 |_,.lz _ _ _ shs sho hd body k=>(true,fun _ _=>none,fun n v w=>unc shs sho (hd (n+1)) v w,fun n=>(body n).rhs,k.rhs)
variable {F:FC U}
theorem Zfs (g:FOk F) {X:Type} {RT:Ret} {x:X} {q live frz:List Nat} {shs:List Sh} {sho:List ShO} {a:Nat->Zi3 (lvQ U shs sho) (Option X)} {cuts:Nat->List (List Nat×Lp U X)}
  {d:List (Nat×Lp U X)} {ret:ZbB U->Option X} {b:Code} {k:List Item} (e:atP (F.c,[]) q=some (.loop b,k)) (j:(fun v w=>unc shs sho (a 0) v w)=fun _ _=>none)
  (i:(fun n v w=>evp F (⟨5::q,some ⟨live,frz,shs,sho,unc shs sho (a n)⟩,d,ret⟩:CC U X) (cuts n) [tc F (5::q)] (stC F live shs sho v w))=fun n v w=>unc shs sho (a (n+1)) v w)
  (l:∀n,Zhv F RT x ⟨live,frz,shs,sho,unc shs sho (a n)⟩ (.lp b::k)->Zbc F RT x (cuts n)) (h:ZaQ F RT x (.lp b::k) d) (c:∀t,ret t=some x->t.enc=RT) (n:Nat):
  Zhv F RT x ⟨live,frz,shs,sho,unc shs sho (a n)⟩ (Zki F q):=
 ZlX g 4000 (cuts:=cuts) (exits:=d) (ret:=ret) (fun n=>unc shs sho (a n)) e (fun v w=>congrFun (congrFun j v) w) (fun n v w=>by
  rw[<-congrFun (congrFun (congrFun i n) v) w];have f:atP (F.c,[]) (5::q)=some (b,.lp b::k):=by grind[atP]
  unfold evp tc;rw[Zbv f];rfl) l h c n
theorem CT.ok (z:FOk F) {ret0:ZbB U->Option ρ}:∀{R:Type} (t:CT U ρ R) (C:CC U R) (g:ρ->Option R),(C.ret=fun t=>(ret0 t).bind g)->t.lhs F ret0 C g=t.rhs->∀{RT:Ret} {r:R} {cb:Code} {base:List Item},
  atP (F.c,[]) C.pb=some (cb,base)->(∀L,C.back=some L->Zhv F RT r L base)->(C.back=none->base=[])->ZaQ F RT r base C.exits->(∀t,C.ret t=some r->t.enc=RT)->Zbc F RT r (t.cuts g)
 |_,.nil,_,_,_,_,_,_,_,_,_,_,_,_,_=>trivial
 |R,.j p live frz shs sho f k,C,g,hr,h,RT,r,cb,base,K,hk,hn,hx,ht=>by
  have h: @Eq (Bool×(Zb8 U shs->Zag U sho->Option R)×k.Ty) (_,_,_) (_,_,_):=h;have B:chkP F C.pb (pth p)=true:=congrArg (fun x=>x.1) h;have O:=congrArg (fun x=>x.2.1) h;have N:k.lhs F ret0 C g=k.rhs:=congrArg (fun x=>x.2.2) h;have J:=CT.ok z k C g hr N K hk hn hx ht;refine⟨fun v w hi P=> ?_,J⟩;simp only[chkP,ZmC,ZnI]at B;obtain⟨⟨⟨c,kk⟩,hp⟩,A⟩:=B;obtain⟨T,Y⟩:=ZhS F K _ A _ _ hp;have e3:Zki F (pth p)=(tc F (pth p)::kOf F C.pb (pth p)).map TI'.conc++base:=by grind[Zki,tc,TI'.conc,Zbv]
  refine Pt.evlAt z 4000 (cuts:=k.cuts g) (back:=C.back) (exits:=C.exits) (ret:=C.ret) (base:=base) (pre:=tc F (pth p)::kOf F C.pb (pth p)) e3 hi ?_ ?_ J hk hn hx ht
  ·exact(congrFun (congrFun O v) w).trans P
  ·exact⟨by grind[Zbv],Y⟩
 |R,.lo q live frz shs sho xid xlive xfrz d a hd af body k,C,g,hr,h,RT,r,cb,base,K,hk,hn,hx,ht=>by
  have h: @Eq (Bool×(Zb8 U shs->Zag U sho->Option (HT (lvQ U d a)))×(Nat->Zb8 U shs->Zag U sho->Option (HT (lvQ U d a)))×((n:Nat)->(body n).Ty)×(Zb8 U d->Zag U a->Option R)×k.Ty) (_,_,_,_,_,_) (_,_,_,_,_,_):=h;have B:(ZfF F C.pb (pth q)&&Zms F C.pb (pth q) xid)=true:=congrArg (fun x=>x.1) h;have O:=congrArg (fun x=>x.2.1) h;have N:=congrArg (fun x=>x.2.2.1) h;have V:=congrArg (fun x=>x.2.2.2.1) h;have h5:=congrArg (fun x=>x.2.2.2.2.1) h;have X:k.lhs F ret0 C g=k.rhs:=congrArg (fun x=>x.2.2.2.2.2) h;have J:=CT.ok z k C g hr X K hk hn hx ht;refine⟨fun v w hi P=> ?_,J⟩;obtain⟨x,D,l⟩:=bind_some P;simp only[ZfF,Zms,ZmC,ZnI]at B;obtain⟨⟨u,A⟩,j,e⟩:=B;have o:∃b i,atP (F.c,[]) (pth q)=some (.loop b,i):=by
   unfold Zc6 at u;split at u
   ·rename_i y M;obtain⟨c,i⟩:=y;cases c<;>simp only[ZdO,ZmD]at u;simp_all
   simp_all[ZdO]
  obtain⟨b,i,o⟩:=o;obtain⟨T,Y⟩:=ZhS F K _ A _ _ o;have H:atP (F.c,[]) (5::pth q)=some (b,.lp b::i):=by simp_all[atP]
  have E:ZaQ F RT x (.lp b::i) [(xid,lx xlive xfrz d a id)]:=by
   refine⟨⟨j.map TI'.conc++base, ?_,fun v' w' S h'=> ?_⟩,trivial⟩
   ·show Zak xid i=_;rw[T];exact(Z9 (root:=(F.c,[])) (base:=base) e).1 base
   ·obtain rfl:Zlv _ (flQ d a v' w')=x:=Option.some.inj h';refine Pt.evlAt z 4000 (cuts:=k.cuts g) (back:=C.back) (exits:=C.exits) (ret:=C.ret) (base:=base) (pre:=j) rfl S ?_ ((Z9 e).2 Y) J hk hn hx ht;have Z:=congrFun (congrFun h5 v') w';simp only[xpre,e,ZmW]at Z;refine Eq.trans Z ?_;simp only[unT,Zcd]at l;exact l
  exact Zfs z o O N (fun n W=>CT.ok z (body n) _ _ rfl (congrFun V n) H (fun L m=>by simp only[ZcO,ZmZ]at m;subst m;exact W) (fun G=>by simp[ZcO]at G) E (fun t s=>by simp[ZcO]at s)) E
   (fun t s=>by simp at s) big v w hi D
 |R,.lr q live frz shs sho xid xlive xfrz d a hd af body k,C,g,hr,h,RT,r,cb,base,K,hk,hn,hx,ht=>by
  have h: @Eq (Bool×(Zb8 U shs->Zag U sho->Option (Out (HT (lvQ U d a)) ρ))×(Nat->Zb8 U shs->Zag U sho->Option (Out (HT (lvQ U d a)) ρ))×((n:Nat)->(body n).Ty)×(Zb8 U d->Zag U a->Option R)×k.Ty) (_,_,_,_,_,_) (_,_,_,_,_,_):=h;have B:(ZfF F C.pb (pth q)&&Zms F C.pb (pth q) xid)=true:=congrArg (fun x=>x.1) h;have O:=congrArg (fun x=>x.2.1) h;have N:=congrArg (fun x=>x.2.2.1) h;have V:=congrArg (fun x=>x.2.2.2.1) h;have h5:=congrArg (fun x=>x.2.2.2.2.1) h;have X:k.lhs F ret0 C g=k.rhs:=congrArg (fun x=>x.2.2.2.2.2) h;have J:=CT.ok z k C g hr X K hk hn hx ht;refine⟨fun v w hi P=> ?_,J⟩;obtain⟨x,D,l⟩:=bind_some P;simp only[ZfF,Zms,ZmC,ZnI]at B;obtain⟨⟨u,A⟩,j,e⟩:=B;have o:∃b i,atP (F.c,[]) (pth q)=some (.loop b,i):=by
   unfold Zc6 at u;split at u
   ·rename_i y M;obtain⟨c,i⟩:=y;cases c<;>simp only[ZdO,ZmD]at u;exact⟨_,_,M⟩
   ·simp[ZdO]at u
  obtain⟨b,i,o⟩:=o;obtain⟨T,Y⟩:=ZhS F K _ A _ _ o;have H:atP (F.c,[]) (5::pth q)=some (b,.lp b::i):=by simp only[atP,o]
  have E:ZaQ F RT x (.lp b::i) [(xid,lx xlive xfrz d a .brk)]:=by
   refine⟨⟨j.map TI'.conc++base, ?_,fun v' w' S h'=> ?_⟩,trivial⟩
   ·show Zak xid i=_;rw[T];exact(Z9 (root:=(F.c,[])) (base:=base) e).1 base
   ·obtain rfl:Out.brk (Zlv _ (flQ d a v' w'))=x:=Option.some.inj h';refine Pt.evlAt z 4000 (cuts:=k.cuts g) (back:=C.back) (exits:=C.exits) (ret:=C.ret) (base:=base) (pre:=j) rfl S ?_ ((Z9 e).2 Y) J hk hn hx ht;have Z:=congrFun (congrFun h5 v') w';simp only[xpre,e,ZmW]at Z;refine Eq.trans Z ?_;simp only[outB,unT,Zcd]at l;exact l
  have I:∀t:ZbB U,((ret0 t).bind fun q=>some (Out.ret q))=some x->t.enc=RT:=fun t s=>by obtain⟨y,M,Q⟩:=bind_some s;obtain rfl:=Option.some.inj Q;refine ht t ?_;rw[hr];show (ret0 t).bind g=some r;rw[M];exact l
  exact Zfs z o O N (fun n W=>CT.ok z (body n) _ _ rfl (congrFun V n) H (fun L m=>by simp only[ZcO,ZmZ]at m;subst m;exact W) (fun G=>by simp[ZcO]at G) E I) E I big v w hi D
 |_,.lz q live frz shs sho hd body k,C,g,hr,h,RT,r,cb,base,K,hk,hn,hx,ht=>by
  have h: @Eq (Bool×(Zb8 U shs->Zag U sho->Option (Out Unit ρ))×(Nat->Zb8 U shs->Zag U sho->Option (Out Unit ρ))×((n:Nat)->(body n).Ty)×k.Ty) (_,_,_,_,_) (_,_,_,_,_):=h;have B:ZfF F C.pb (pth q)=true:=congrArg (fun x=>x.1) h;have O:=congrArg (fun x=>x.2.1) h;have N:=congrArg (fun x=>x.2.2.1) h;have V:=congrArg (fun x=>x.2.2.2.1) h;have X:k.lhs F ret0 C g=k.rhs:=congrArg (fun x=>x.2.2.2.2) h;have J:=CT.ok z k C g hr X K hk hn hx ht;refine⟨fun v w hi P=> ?_,J⟩;obtain⟨x,D,l⟩:=bind_some P;simp only[ZfF,ZmC]at B;obtain⟨u,A⟩:=B;have o:∃b i,atP (F.c,[]) (pth q)=some (.loop b,i):=by
   unfold Zc6 at u;split at u
   ·rename_i y M;obtain⟨c,i⟩:=y;cases c<;>simp only[ZdO,ZmD]at u;exact⟨_,_,M⟩
   ·simp[ZdO]at u
  obtain⟨b,i,o⟩:=o;have H:atP (F.c,[]) (5::pth q)=some (b,.lp b::i):=by simp only[atP,o]
  have I:∀t:ZbB U,((ret0 t).bind fun q=>some (Out.ret q))=some x->t.enc=RT:=fun t s=>by obtain⟨y,M,Q⟩:=bind_some s;obtain rfl:=Option.some.inj Q;refine ht t ?_;rw[hr];show (ret0 t).bind g=some r;rw[M];exact l
  exact Zfs z o O N (fun n W=>CT.ok z (body n) _ _ rfl (congrFun V n) H (fun L m=>by simp only[ZcO,ZmZ]at m;subst m;exact W) (fun G=>by simp[ZcO]at G) trivial I) trivial I big v w hi D
end
abbrev oTy (U:Zc) (os:List (Nat×ShA)) (a:List ShR):List Type:=ZlW U a (ZlV U os [])
def amOf:ShA->AM
 | .box _ | .arr _=> .lend
 | .part _=> .part
 |_=> .p
def ahOf:ShA->Option Nat
 | .p (.st n)=>some n
 |_=>none
def rmOf:ShR->RM
 | .p _=> .p
 | .own _=> .own
 | .box _=> .box
 | .map _ _=> .map
 | .view _=> .view
 | .aown _ _ _=> .aown
def rhOf:ShR->Option Nat
 | .p (.st n)=>some n
 |_=>none
def isAr:ShA->Bool
 | .arr _ | .part _=>true
 |_=>false
section
variable {U:Zc}
structure FD (U:Zc) where
 f:Nat
 fn:Func
 sigs:List (Nat×Zi8 U)
 as:List ShA
 os:List (Nat×ShA)
 rs:List ShR
 keep:List Nat
 alt:List (Nat×Nat)
 s:Zi3 (ZjH U as []) (Option (HT (oTy U os rs)))
 w:Zi3 (ZjH U as []) (Option (HT (oTy U os rs)))
 t:CT U (HT (oTy U os rs)) (HT (oTy U os rs))
namespace FD
variable (D:FD U)
abbrev rho:Type:=HT (oTy U D.os D.rs)
abbrev R:RSh:=⟨D.rs,D.os⟩
abbrev g (v:Zk3 U D.R):D.rho:=Zlv (oTy U D.os D.rs) (Zmr D.rs v.1 (Zli (r:=[]) (D.os) v.2 ()))
abbrev b (x:D.rho):ZbB U:=D.R.bld ((usR D.rs (ZlN (oTy U D.os D.rs) x)).1,(usU (r:=[]) (D.os) (usR D.rs (ZlN (oTy U D.os D.rs) x)).2).1)
theorem b_g (v:Zk3 U D.R):D.b (D.g v)=D.R.bld v:=by grind[Zcd,Zhz,Zhy]
abbrev FS:Zkh U:=⟨D.rho,D.fn.params.toList,D.as.map amOf,D.as.map ahOf,D.as,fun v=>app (ZjH U D.as []) D.w (Zlj (r:=[]) D.as v ()),D.b⟩
abbrev sig:Zi8 U:=D.FS.sig
abbrev sg:Nat×Zi8 U:=(D.f,D.sig)
abbrev F (X0:ZG U):FC U:=⟨X0.at D.fn.ntmps,D.fn,Zll D.fn,D.sigs,D.os.map (·.1),D.rs.map rmOf,D.rs.map rhOf,D.keep,D.alt⟩
abbrev C:CC U D.rho:=⟨[],none,[],Zeo D.R D.g⟩
def chk0:Bool:= !(D.fn.name == "runtime.NumGoroutine")&&D.fn.body.isSome&&Nat.ble D.as.length D.fn.ntmps
abbrev Ty:Type:=Bool×(D.rho->Bool)×(ZfK U D.as->Option D.rho)×D.t.Ty
noncomputable abbrev lhs (X0:ZG U):D.Ty:=(D.chk0,fun r=>D.os.any (fun x=>isAr x.2)||(D.b r).outs.all (fun x=>x.2.len?.isNone),
 fun v=>evp (D.F X0) D.C (D.t.cuts some) [tc0 (D.F X0)] (Zkb (Zdd D.as v)),D.t.lhs (D.F X0) (Zeo D.R D.g) D.C some)
abbrev rhs:D.Ty:=(true,fun _=>true,fun v=>app (ZjH U D.as []) D.s (Zlj (r:=[]) D.as v ()),D.t.rhs)
end FD
structure Gnd (X0:ZG U):Prop where
 hU:UOk U
 hX:TOk X0
 hE:Zl X0.E
 hm:X0.prog.follows .mixedOrders=true
theorem Zc7:∀(a:List ShA) (v:ZfK U a),(Zdd a v).length=a.length
 | [],_=>rfl
 |s::r,v=>by rw[Zdd,List.length_cons,List.length_cons,Zc7 r]
theorem FD.fun {X0:ZG U} (G:Gnd X0) (D:FD U) (m:X0.prog.funcs[D.f]? =some D.fn) (s:ZcY X0 D.sigs) (h:D.lhs X0=D.rhs):
  (∀v r,app (ZjH U D.as []) D.s (Zlj (r:=[]) D.as v ())=some r->Fun X0.E D.f ((Zdd D.as v).map ZR.enc) (D.b r).enc)/\∀r,(D.os.any (fun x=>isAr x.2)||(D.b r).outs.all (fun x=>x.2.len?.isNone))=true:=by
 simp only[FD.lhs,FD.rhs,Zm0]at h;obtain⟨f,p,q,n⟩:=h;simp only[FD.chk0,ZmC,Bool.not_eq_true',ZnI]at f;obtain⟨⟨j,c,i⟩,l⟩:=f;have e:FOk (D.F X0):=fok G.hU G.hX G.hE G.hm rfl s;have a:∀r,Zbc (D.F X0) (D.b r).enc r (D.t.cuts some):=fun r=>by
  have d:∀t,D.C.ret t=some r->t.enc=(D.b r).enc:=fun t u=>Zf1 G.hU D.b_g u
  refine CT.ok e (ret0:=Zeo D.R D.g) D.t D.C some (by simp_all) n (cb:=(D.F X0).c) (base:=[]) rfl (fun L k=>by simp_all) (fun _=>rfl) trivial d
 have o:D.fn.body=some (D.F X0).c:=by grind[Zll]
 exact⟨fun v r w=>Zgq (F:=D.F X0) rfl m j o (by simp_all[Zc7])
   (Pt.ev0 e (b:=D.b) (S:=D.R) (g:=D.g) (pre:=[tc0 (D.F X0)]) rfl (ZgB _) ((congrFun q v).trans w) ⟨rfl,trivial⟩ (a r) D.b_g),fun r=>congrFun p r⟩
theorem FD.ok {X0:ZG U} (G:Gnd X0) (D:FD U) (c:X0.prog.funcs[D.f]? =some D.fn) (g:ZcY X0 D.sigs) (d:D.os.any (fun x=>isAr x.2)=false) (hw:D.w=D.s) (h:D.lhs X0=D.rhs):Zei X0.E D.f D.sig:=by
 obtain⟨f,e⟩:=D.fun G c g h;refine Zkh.ok (S:=D.FS) G.hU fun v r a=> ?_
 grind[Zdz]
theorem FD.okA {X0:ZG U} (G:Gnd X0) (D:FD U) (c:X0.prog.funcs[D.f]? =some D.fn) (e:ZcY X0 D.sigs)
  (hw:(fun v=>app (ZjH U D.as []) D.w (Zlj (r:=[]) D.as v ()))=fun v=>(app (ZjH U D.as []) D.s (Zlj (r:=[]) D.as v ())).bind fun r=>chk (ZhK (Zdd D.as v) (D.b r)) (some r)) (h:D.lhs X0=D.rhs):Zei X0.E D.f D.sig:=by
 obtain⟨d,g⟩:=D.fun G c e h;refine Zkh.ok (S:=D.FS) G.hU fun v r a=> ?_
 have a:app (ZjH U D.as []) D.w (Zlj (r:=[]) D.as v ())=some r:=a;have b:=congrFun hw v;rw[a]at b;obtain⟨q1,f⟩:=chkLen b.symm;grind[Zio]
end
end Eng
namespace Eng
open Go
section
variable {U:Zc}
def Ty.isSt:Ty->Bool
 | .st _=>true
 |_=>false
def Zmk (U:Zc):Prop:=∀n x,(U.cells n x).all (fun l=> !l.t.isSt)=true
def ZgL (w:World) (cs:List Value) (a:List (Lf U.car)):Prop:=
 cs.length=a.length/\∀(j:Nat) v l,cs[j]? =some v->a[j]? =some l->RelP w (fun b=>b < w.heap.size) v (U.encL l)
theorem ZgL.one {w:World} {v:Value} {l:Lf U.car} (h:RelP w (fun b=>b < w.heap.size) v (U.encL l)):ZgL (U:=U) w [v] [l]:=by
 refine⟨rfl,fun j d l' a c=> ?_⟩;grind
theorem ZgL.append {w:World} {cs cs':List Value} {d c:List (Lf U.car)} (h:ZgL w cs d) (e:ZgL w cs' c):ZgL w (cs++cs') (d++c):=by
 refine⟨by simp[h.1,e.1],fun j v l b a=> ?_⟩;rw[List.getElem?_append]at b a
 by_cases hj:j < cs.length
 ·rw[if_pos hj]at b;rw[if_pos (by rw[<-h.1];omega)]at a;exact h.2 j v l b a
 ·rw[if_neg hj]at b;rw[if_neg (by rw[<-h.1];omega),<-h.1]at a;exact e.2 _ v l b a
def Zkm (T:Ty) (cs:List Value):Value:=if T.isSt then .agg cs.toArray else cs.headD Go.undef
theorem ZhP {w:World} {S:Nat->Prop} {v:Value} {l:Lf U.car} (a:l.t.isSt=false) (h:RelP w S v (U.encL l)):ZbP v/\v.cells= #[v]:=by
 obtain⟨t,x⟩:=l;generalize hz:U.encL ⟨t,x⟩=z at h;cases h with
 |agg vs cs b c h=>
  exfalso;cases t<;>first |(simp[Ty.isSt]at a;done) |(simp[Zc.encL,Zc.encE]at hz;done) |(cases x<;>simp[Zc.encL,Zc.encE,ZjU]at hz)
 |_=>exact⟨rfl,rfl⟩
theorem Zdi (p:UOk U) (o:Zmk U) {w:World} {T:Ty} {y:El U.car T} {cs:List Value} (h:ZgL w cs (U.cellsE T y)):
  RelP w (fun b=>b < w.heap.size) (Zkm T cs) (U.encE T y)/\(Zkm T cs).cells=cs.toArray:=by
 cases T with
 |st n=>
  refine⟨?_,rfl⟩;simp only[Zc.encE,p.enc_cells n y];show RelP w _ (.agg cs.toArray) _;have d:=o n y;rw[Zm5]at d;refine .agg _ _ (by have g:cs.length=(U.cells n y).length:=h.1;simp_all) (fun i v j=> ?_) (fun i v c j e=> ?_)
  ·have a:cs[i]? =some v:=by simp_all
   have hi:i < (U.cells n y).length:=by have:=(List.getElem?_eq_some_iff.1 a).1;have g:cs.length=(U.cells n y).length:=h.1;omega
   have f:(U.cells n y)[i]? =some (U.cells n y)[i]:=ZmH hi;exact(ZhP (by simp_all) (h.2 i v _ a f)).1
  ·have a:cs[i]? =some v:=by simp_all
   rw[List.getElem?_map]at e;cases f:(U.cells n y)[i]? with
   |none=>simp_all
   |some l=>
    rw[f]at e;simp only[Option.map_some,ZmZ]at e;subst e;exact h.2 i v l a f
 |bool |int k |str |sl t |map k v |fnc=>
  obtain⟨g,m⟩:=h
  match cs,g with
  | [c],_=>
   have:=m 0 c _ rfl rfl;exact⟨this,(ZhP rfl this).2⟩
def Zek (P:Program) (U:Zc) (t:TypeId) (T:Ty):Prop:=
 ∀{H:Type} (enc:TypeId×Value->H) (w:World) (a:Nat) (cs:List Value) (x:DataW H×List MemPlace),DataW.trod enc P w 0 (fun _=>true) true a t cs=some x->
  (∀n∈x.1.weights P t,n<=reachBytes)->∃y:El U.car T,ZgL w cs (U.cellsE T y)
variable {P:Program}
theorem Zmq {t:TypeId} (c:P.underlying t=some .bool):Zek P U t .bool:=fun enc w a cs x h _=>by obtain⟨b,rfl,_⟩:=DataW.trod_bool c h;exact⟨b,.one (.bool b)⟩
theorem opens_int {t:TypeId} {k:IntKind} (b:P.underlying t=some (.int k)):Zek P U t (.int k):=fun enc w a cs x h _=>by obtain⟨n,rfl,_,hw⟩:=DataW.trod_int b h;simp only[Lit.wf,ZmC,decide_eq_true_eq]at hw;exact⟨n,.one (.int k n hw.1 hw.2)⟩
theorem opens_str {t:TypeId} (c:P.underlying t=some .string):Zek P U t .str:=fun enc w a cs x h _=>by obtain⟨⟨⟨l⟩⟩,rfl,_,b⟩:=DataW.trod_string c h;exact⟨l,.one (.str l b)⟩
theorem Zd0 {c:Type} {R:Nat->c->Prop}:∀n,(∀i,i < n->∃y,R i y)->∃l:List c,l.length=n/\∀i y,l[i]? =some y->R i y
 |0,_=>⟨[],rfl,fun i y h=>by grind⟩
 |n+1,h=>by
  obtain⟨l,b,d⟩:=Zd0 n fun i hi=>h i (by omega)
  obtain⟨y,e⟩:=h n (by omega);refine⟨l++[y],by grind,fun i z a=> ?_⟩;grind
theorem ZbQ {H:Type} {P:Program} {e:TypeId}:∀{l:List (DataW H)} {d:DataW H},d∈l->∀n∈d.weights P e,n∈DataW.weightsAll P e l
 |x::r,d,a,n,hn=>by
  simp only[DataW.weightsAll,ZmM];rcases ZmN.1 a with rfl |a
  ·simp_all
  ·exact .inr (ZbQ a n hn)
theorem ZlH (q:UOk U) (G:Zmk U) {t e:TypeId} {T:Ty} (Q:P.underlying t=some (.slice e)) (O:P.cellsOf e=U.tsize T) (X:0 < U.tsize T) (hb:1<=P.bytesOf e) (he:Zek P U e T):Zek P U t (.sl T):=fun enc w W cs x h hw=>by
 rcases DataW.trod_slice Q h with ⟨rfl,_⟩ |⟨a,len,cap,b,rest,n,_,rfl,rfl,_,hl,_,Y,I,_,_⟩
 ·refine⟨[],.one ?_⟩;exact .sl none 0 0 _ _ (fun _=>Go.undef) rfl (by simp) (Nat.le_refl _) (fun i hi=>by omega) (fun i hi=>by omega) (fun i e h=>by grind)
 ·have N:len<=reachBytes:=by have:=hw ((b.length+rest.length)*P.bytesOf e) (by simp[DataW.weights,Q]);have l:b.length*1<=(b.length+rest.length)*P.bytesOf e:=Nat.mul_le_mul (by omega) hb;omega
  have D:∀i,i < len->∃y:El U.car T,∃c,w.cells? 0 (a.add (i*P.cellsOf e)) (P.cellsOf e)=some c/\ZgL w c (U.cellsE T y):=fun i hi=>by
   obtain⟨E,C⟩:∃E,b[i]? =some E:=⟨_,ZmH (by omega)⟩;have l:=I i hi;rw[C]at l;obtain⟨c,M,R⟩:=Option.bind_eq_some_iff.1 l;obtain⟨y,F⟩:=he enc w n c E R fun m hm=>hw m (by
    simp only[DataW.weights,Q,ZmN,ZmM];exact .inr (.inl (ZbQ (List.mem_map.2 ⟨E,List.mem_of_getElem? C,rfl⟩) m hm)))
   grind
  obtain⟨u,J,F⟩:=Zd0 len D;have p:∀i,i < len->∃y c,u[i]? =some y/\w.cells? 0 (a.add (i*P.cellsOf e)) (P.cellsOf e)=some c/\ZgL w c (U.cellsE T y):=fun i hi=>by simp_all
  refine⟨u,.one ?_⟩;show RelP w _ (.slice (some a) len cap) (.sl (U.tsize T) (u.map (U.encE T)));refine .sl (some a) len cap _ _ (fun i=>Zkm T ((w.cells? 0 (a.add (i*P.cellsOf e)) (P.cellsOf e)).getD [])) (by grind) (Nat.le_trans N (by decide)) hl (fun i hi=> ?_) (fun i hi=> ?_) (fun i z r=> ?_)
  ·obtain⟨y,c,l,k,o⟩:=p i hi;simp only[k,ZmW,(Zdi q G o).2];have:=o.1;grind[ZbI]
  ·obtain⟨y,c,l,k,o⟩:=p i hi;have ab:c.length=U.tsize T:=by rw[o.1,ZbI q]
   obtain⟨_,ac,H⟩:=World.cells?_some k;have f:a.spot=none:=by
    obtain⟨y0,c0,_,S,K⟩:=p 0 (by omega);have aa:c0.length=U.tsize T:=by rw[K.1,ZbI q]
    have g:=(World.cells?_some S).2.2 0 (by omega);rw[Nat.zero_mul,show (a.add 0).add 0=a from rfl,ZmH (by omega)]at g;unfold World.cell? at g;cases hs:a.spot with
    |none=>rfl
    |some s=>rw[hs]at g;grind
   have V:a=⟨a.block,a.off,none⟩:=by cases a;simp at f;subst f;rfl
   have L:a.block < w.heap.size:=by have:=World.cells?_block k (by omega);unfold Addr.add at this;split at this<;>exact this
   have B:∀n,a.add n=⟨a.block,a.off+n,none⟩:=fun n=>by
    unfold Addr.add;split
    ·rename_i g;subst g;exact V
    ·rfl
   refine⟨a.block,a.off,by rw[<-V],L,fun j v Z=> ?_⟩;simp only[k,ZmW,(Zdi q G o).2]at Z;have A:c[j]? =some v:=by simpa using Z
   have hj:=(List.getElem?_eq_some_iff.1 A).1;grind[Addr.add]
  grind[Zdi]
abbrev Ys (U:Zc):List Ty->Type
 | []=>Unit
 |T::r=>El U.car T×Ys U r
def Ys.cells:(Ts:List Ty)->Ys U Ts->List (Lf U.car)
 | [],_=>[]
 |T::r,y=>U.cellsE T y.1++Ys.cells r y.2
def ZcX (P:Program) (U:Zc):Nat->List Field->List Ty->Prop
 |_,[],[]=>True
 |off,f::fs,T::Ts=>f.offset=off/\P.cellsOf f.type=U.tsize T/\Zek P U f.type T/\ZcX P U (off+U.tsize T) fs Ts
 |_,_,_=>False
def ZfX (U:Zc):List Ty->Nat
 | []=>0
 |T::r=>U.tsize T+ZfX U r
theorem ZdZ (hU:UOk U) {H:Type} (enc:TypeId×Value->H) (w:World) (n:Nat) (cs:List Value):∀(off:Nat) (fs:List Field) (Ts:List Ty) (xs:List (DataW H×List MemPlace)),ZcX P U off fs Ts->xs.length=fs.length->
  (∀(i:Nat) (f:Field),fs[i]? =some f->DataW.trod enc P w 0 (fun _=>true) true n f.type ((cs.drop f.offset).take (P.cellsOf f.type))=xs[i]?)->
  (∀m∈DataW.weightsEach P (fs.map (·.type)) (xs.map (·.1)),m<=reachBytes)->cs.length=off+ZfX U Ts->∃ys:Ys U Ts,ZgL w (cs.drop off) (ys.cells Ts)
 |off,[],[],xs,_,_,_,_,hl=>⟨(),by grind[Ys.cells,ZgL,ZfX]⟩
 |off,f::fs,T::Ts,[],_,hx,_,_,_=>by simp_all
 |off,f::fs,T::Ts,x::xs,⟨h1,h2,h3,h4⟩,hx,hf,hw,hl=>by
  have hf0:=hf 0 f rfl;rw[Zne,h1,h2]at hf0;simp only[ZmL,DataW.weightsEach,ZmM]at hw;obtain⟨y,hy⟩:=h3 enc w n _ x hf0 fun m hm=>hw m (.inl hm)
  obtain⟨ys,hys⟩:=ZdZ hU enc w n cs (off+U.tsize T) fs Ts xs h4 (by simp_all) (fun i g hg=>hf (i+1) g (by simp_all)) (fun m hm=>hw m (.inr hm)) (by grind[ZfX]);refine⟨(y,ys), ?_⟩;have:cs.drop off=(cs.drop off).take (U.tsize T)++cs.drop (off+U.tsize T):=by rw[<-List.drop_drop,List.take_append_drop]
  rw[this];exact hy.append hys
 |_,[],_::_,_,h,_,_,_,_=>h.elim
 |_,_::_,[],_,h,_,_,_,_=>h.elim
theorem Zld (hU:UOk U) {t:TypeId} {fs:Array Field} {k:Nat} {Ts:List Ty} (ht:P.underlying t=some (.struct fs)) (hs:P.cellsOf t=ZfX U Ts) (hf:ZcX P U 0 fs.toList Ts)
  (mk:∀ys:Ys U Ts,∃x:U.car k,U.cells k x=ys.cells Ts):Zek P U t (.st k):=fun enc w fuel cs x h hw=>by
 obtain⟨xs,n,_,rfl,hl,hx,hfs⟩:=DataW.trod_struct ht h;obtain⟨ys,hys⟩:=ZdZ hU enc w n cs 0 fs.toList Ts xs hf (by omega) (fun i f hi=>hfs i f (by simp_all)) (fun m hm=>hw m (by grind[DataW.weights])) (by omega);obtain⟨y,hy⟩:=mk ys;refine⟨y, ?_⟩;show ZgL w cs (U.cells k y);simp_all
def ZiZ (T:Ty):Nat->List Ty
 |0=>[]
 |n+1=>T::ZiZ T n
theorem Zh9 (hU:UOk U) {H:Type} (enc:TypeId×Value->H) (w:World) (n:Nat) (cs:List Value) {e:TypeId} {T:Ty} (hsz:P.cellsOf e=U.tsize T) (he:Zek P U e T):∀(m:Nat) (i0:Nat) (xs:List (DataW H×List MemPlace)),xs.length=m->
  (∀(i:Nat),i < m->DataW.trod enc P w 0 (fun _=>true) true n e ((cs.drop ((i0+i)*P.cellsOf e)).take (P.cellsOf e))=xs[i]?)->
  (∀q∈DataW.weightsAll P e (xs.map (·.1)),q<=reachBytes)->cs.length=(i0+m)*U.tsize T->∃ys:Ys U (ZiZ T m),ZgL w (cs.drop (i0*U.tsize T)) (ys.cells (ZiZ T m))
 |0,i0,xs,_,_,_,hl=>⟨(),by grind[ZiZ,Ys.cells,ZgL]⟩
 |m+1,i0,[],hx,_,_,_=>by simp_all
 |m+1,i0,x::xs,hx,hf,hw,hl=>by
  have hf0:=hf 0 (by omega);rw[Zne,hsz,Nat.add_zero]at hf0;simp only[ZmL,DataW.weightsAll,ZmM]at hw;obtain⟨y,hy⟩:=he enc w n _ x hf0 fun m hm=>hw m (.inl hm)
  obtain⟨ys,hys⟩:=Zh9 hU enc w n cs hsz he m (i0+1) xs (by simp_all) (fun i hi=>by grind) (fun q hq=>hw q (.inr hq)) (by grind)
  refine⟨(y,ys), ?_⟩;have:cs.drop (i0*U.tsize T)=(cs.drop (i0*U.tsize T)).take (U.tsize T)++cs.drop ((i0+1)*U.tsize T):=by rw[Nat.succ_mul,<-List.drop_drop,List.take_append_drop]
  rw[this];exact hy.append hys
theorem ZlI (v:UOk U) {t e:TypeId} {m k:Nat} {T:Ty} (f:P.underlying t=some (.array m e)) (s:P.cellsOf t=m*U.tsize T) (d:P.cellsOf e=U.tsize T) (r:Zek P U e T)
  (p:∀b:Ys U (ZiZ T m),∃x:U.car k,U.cells k x=b.cells (ZiZ T m)):Zek P U t (.st k):=fun enc w g cs x h hw=>by
 obtain⟨xs,n,_,rfl,l,u,c⟩:=DataW.trod_array f h;obtain⟨b,a⟩:=Zh9 v enc w n cs d r m 0 xs u (fun i hi=>by simp_all) (fun q j=>hw q (by grind[DataW.weights])) (by simp_all);obtain⟨y,o⟩:=p b;refine⟨y, ?_⟩;show ZgL w cs (U.cells k y);simp_all
theorem open_arg (k:UOk U) (g:Zmk U) {H:Type} {enc:TypeId×Value->H} {t:TypeId} {T:Ty} (i:Zek P U t T) {w:World} {v:Value} {d:DataW H} {j:List MemPlace} (h:DataW.Trod enc P w 0 (fun _=>true) true t v d j)
  (hw:∀n∈d.weights P t,n<=reachBytes) (c:Zkm T v.cells.toList=v):∃y:El U.car T,RelP w (fun b=>b < w.heap.size) v (U.encE T y):=by
 obtain⟨a,e⟩:=h;obtain⟨y,f⟩:=i enc w a _ _ e hw;refine⟨y, ?_⟩;grind[Zdi]
theorem okv_plain {w:World} {r:Reach} {base:Nat} {t:TypeId} {v:Value} {T:Ty} (f:T.isSt=false) (e:∃d,P.underlying t=some d/\(match d with | .bool | .string | .int _ | .slice _=>True |_=>False)) (h:Value.okWide P w r base t v):Zkm T v.cells.toList=v:=by
 obtain⟨d,a,b⟩:=e;have key:v.cells= #[v]->Zkm T v.cells.toList=v:=fun c=>by grind[Zkm]
 cases d<;>simp only at b
 all_goals (simp only[Value.okWide,a,Cell.okWide]at h;cases v<;>first |exact key rfl |simp_all[Cell.ok])
theorem okv_st {w:World} {r:Reach} {base:Nat} {t:TypeId} {v:Value} {n:Nat} (c:∃d,P.underlying t=some d/\(match d with | .struct _ | .array _ _=>True |_=>False)) (h:Value.okWide P w r base t v):Zkm (.st n) v.cells.toList=v:=by
 obtain⟨d,b,a⟩:=c;cases d<;>simp only at a
 all_goals (simp only[Value.okWide,b]at h;obtain⟨cs,rfl,_⟩:=h;simp[Zkm,Ty.isSt,Value.cells])
theorem Zi9.trod {H:Type} {enc:TypeId×Value->H} {t:TypeId} (i:laidOutB P=true) (j:P.readableRec t=true) (a:t < P.types.size) {W W':World} {v:Value} {d:DataW H} {c:List MemPlace}
  (h:DataW.Trod enc P W 0 (fun _=>true) true t v d c) (k:Zi9 W W') (e:∀x∈c,x.block < W.heap.size) {g:Nat->Bool} (f:∀x∈c,g x.block=true):DataW.Trod enc P W' 0 g true t v d c:=
 WideElems.Trod_stays i j a h (fun x l=>by
  have:=k.2.2 _ (e x l);cases x with
  |cell b o=>exact World.cell?_of_block (w:=W) this
  |map b=>exact this) f
end
end Eng

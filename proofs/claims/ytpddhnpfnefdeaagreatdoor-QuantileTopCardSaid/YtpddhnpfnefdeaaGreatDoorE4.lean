/- The engine,text 4:an abstract evaluator of Go code over pure data,proved sound. -/
import Derived.Test.YtpddhnpfnefdeaaGreatDoorE3
import Derived.Below
import Derived.Laws.OwnMore
import Derived.OpenShut
import Derived.SizedLaws
import Derived.WideKeyArgs
import Derived.Carry
set_option linter.all false
open Array renaming getElem?_eq_some_iff->Zmp
open Bool renaming and_eq_true->Zmt, false_eq_true->Zmu
open List renaming all_eq_true->ZmX, cons_append->ZmZ, getElem?_cons_zero->Zm6, getElem?_eq_getElem->Zmz, map_cons->ZmD, mem_append->ZmE, mem_cons->ZmF
open Option renaming getD_some->ZmO, isSome_iff_exists->Znz, some.injEq->ZmR
open Prod renaming mk.injEq->ZmS
namespace Eng
open Go
section
variable {U:Zc}
def resT (X:ZG U) (T:TS U):ResultVar->Option (TV U)
 | .tmp t=>some (T.slots t)
 | .cell ad t=>match X.get t with
  |some e=>match T.slots ad with
   | .pp cs=>Zc9 e (cs.map lv)
   | .ptr id 0 j=>match T.objs id with
    |some (.box cs)=>Zc9 e (cs.drop j)
    |_=>none
   |_=>none
  |none=>none
structure RET (U:Zc) where
 rv:TRV U
 fs:List Id:=[]
 id:Option Id:=none
def Zlv (T:TS U) (m:RM) (h:Option Nat) (d:TV U):Option (RET U):=
 match m,d with
 | .p,d=>match T.lf h d with
  |some l=>some {rv:= .p l,fs:=d.enc.ids T.enc.objs depth}
  |none=>none
 | .own,.full id _=>match T.objs id with
  |some (.arr t xs false)=>some {rv:= .own t xs,id:=some id}
  |_=>none
 | .box,.ptr id 0 0=>match T.objs id with
  |some (.box ds)=>match Zm T.lf1 ds with
   |some a=>some {rv:= .box a,fs:=(TV.encs ds).flatMap fun d=>d.ids T.enc.objs depth,id:=some id}
   |none=>none
  |_=>none
 | .map,.map id=>match T.objs id with
  |some (.map k v kv)=>some {rv:= .map k v kv,id:=some id}
  |_=>none
 | .view,.sl (0,k,0) off len=>some {rv:= .view k off len}
 | .view,.full (0,k,0) n=>some {rv:= .view k 0 n}
 |_,_=>none
def RET.re (x:RET U) (cs:List Bool):RE:={rv:=x.rv.enc,fs:=x.fs,id:=x.id,cond:=cs}
theorem resT_d (m:UOk U) {X:ZG U} (i:TOk X) {T:TS U} (k:T.Inv) {g:ResultVar} {d:TV U} (h:resT X T g=some d):Zk0 X.E T.enc g=some d.enc/\d.inv T.objs:=by
 unfold resT at h;split at h
 ·cases h;exact⟨rfl,k.slots _⟩
 ·rename_i ad t;split at h;rotate_left;simp at h;rename_i e a;split at h
  ·rename_i cs b;obtain⟨p,o,q⟩:=Za3 m i a h;refine⟨?_,ZaD (fun c f=> ?_) h⟩
   ·simp only[Zk0,Zw a,show T.enc.slots ad=(T.slots ad).enc from rfl,b,TV.enc,o,q]
   ·obtain⟨l,_,rfl⟩:=List.mem_map.1 f;exact Zah _ _
  ·rename_i id j b;split at h;rotate_left;simp at h;rename_i cs n;have:=Zce m i a h;rw[Zbs]at this;exact⟨by simp only[Zk0,Zw a,show T.enc.slots ad=(T.slots ad).enc from rfl,b,TV.enc,Zg n,ZaO,this],ZaD (fun c f=>k.objs id _ n c (List.mem_of_mem_drop f)) h⟩
  ·simp at h
theorem Zkr (i:UOk U) {T:TS U} (g:T.Inv) {m:RM} {h:Option Nat} {d:TV U} {x:RET U} (hi:d.inv T.objs) (a:Zlv T m h d=some x):∃cs,Zjl T.enc m d.enc=some (x.re cs)/\∀q∈cs,q=true:=by
 unfold Zlv at a;split at a
 ·split at a;rotate_left;simp at a;rename_i l c;cases a;exact⟨[],by simp only[Zjl,depth,ZeR i hi c 7,RET.re,TRV.enc],by simp⟩
 ·rename_i id n;split at a;rotate_left;simp at a;rename_i t xs b;cases a;obtain⟨o,f,j⟩:=hi (id,n) (by simp[TV.fulls]);dsimp only at f;have c:=j t xs false (by rw[b,ZmR]at f;exact f.symm);refine⟨[decide (n=(xs.map (U.encE t)).length)], ?_,by simp[c]⟩;simp only[Zjl,TV.enc,Zg b,ZM,RET.re,TRV.enc]
 ·rename_i id;split at a;rotate_left;simp at a;rename_i s b;split at a;rotate_left;simp at a;rename_i p e;cases a;refine⟨[], ?_,by simp⟩;simp only[Zjl,TV.enc,Zg b,ZaO,ZcH (g.objs id _ b) e,RET.re,TRV.enc]
 ·rename_i id;split at a;rotate_left;simp at a;rename_i k v r b;cases a;exact⟨[],by simp only[Zjl,TV.enc,Zg b,Z0,RET.re,TRV.enc],by simp⟩
 ·cases a;exact⟨[],rfl,by simp⟩
 ·cases a;exact⟨[],rfl,by simp⟩
 ·simp at a
def ZcZ (T:TS U):List RM->List (Option Nat)->List (TV U)->Option (List (RET U))
 | [],_,[]=>some []
 |m::ms,h::hs,d::ds=>match Zlv T m h d,ZcZ T ms hs ds with
  |some a,some r=>some (a::r)
  |_,_=>none
 |_,_,_=>none
theorem ZfY (j:UOk U) {T:TS U} (i:T.Inv):∀{ms:List RM} {f:List (Option Nat)} {e:List (TV U)} {c:List (RET U)},(∀d∈e,d.inv T.objs)->ZcZ T ms f e=some c->
  ∃b:List RE,Zm (fun x:RM×D=>Zjl T.enc x.1 x.2) (ms.zip (TV.encs e))=some b/\e.length=ms.length/\b.map (·.rv)=c.map (fun a=>a.rv.enc)/\b.flatMap (·.fs)=c.flatMap (·.fs)/\(∀q∈b.flatMap (·.cond),q=true)/\b.map (·.id)=c.map (·.id)
 | [],f,[],c,_,h=>by simp only[ZcZ,ZmR]at h;subst h;exact⟨[],rfl,rfl,rfl,rfl,by simp,rfl⟩
 | [],f,d::e,c,_,h=>by simp[ZcZ]at h
 |m::ms,[],e,c,_,h=>by simp[ZcZ]at h
 |m::ms,hh::f,[],c,_,h=>by simp[ZcZ]at h
 |m::ms,hh::f,d::e,c,hi,h=>by simp only[ZcZ]at h;split at h;rotate_left;simp at h;rename_i a r u w;cases h;obtain⟨cs,q1,o⟩:=Zkr j i (hi d (by simp)) u;obtain⟨g,p,v,l,y,n,s⟩:=ZfY j i (fun a t=>hi a (by simp[t])) w;refine⟨a.re cs::g,by simp only[TV.encs,List.zip_cons_cons,Zm,q1,p],by simp[v],by simp[RET.re,l],by simp[RET.re,y], ?_,by simp[RET.re,s]⟩;intro q k;simp only[List.flatMap_cons,ZmE]at k;exact k.elim (fun h=>o q h) (fun h=>n q h)
def Zkv (T:TS U) (k:Nat):Option ((Nat×ZR U)×List Id):=
 match T.objs (0,k,0)with
 |some (.box ds)=>match Zm T.lf1 ds with
  |some c=>some ((k,.box c),(TV.encs ds).flatMap fun d=>d.ids T.enc.objs depth)
  |none=>none
 |some (.arr t xs false)=>some ((k,.arr t xs),[])
 |some (.map a b kv)=>some ((k,.map a b kv),[])
 |_=>none
theorem Zlx {T:TS U} (e:T.Inv) {k:Nat} {x:(Nat×ZR U)×List Id} (h:Zkv T k=some x):Zmg T.enc k=some ((x.1.1,x.1.2.enc),x.2):=by
 unfold Zkv at h;unfold Zmg;split at h
 ·rename_i g c;split at h;rotate_left;simp at h;rename_i f d;cases h;simp only[Zg c,ZaO,Zab,ZcH (e.objs _ _ c) d,ZR.enc]
 ·rename_i t xs c;cases h;simp only[Zg c,ZM,Zab,ZR.enc]
 ·rename_i a b i c;cases h;simp only[Zg c,Z0,Zab,ZR.enc]
 ·simp at h
theorem ZhE {T:TS U} (a:T.Inv):∀{ks:List Nat} {os:List ((Nat×ZR U)×List Id)},Zm (Zkv T) ks=some os->Zm (Zmg T.enc) ks=some (os.map fun x=>((x.1.1,x.1.2.enc),x.2))
 | [],os,h=>by simp[Zm]at h;subst h;rfl
 |k::ks,os,h=>by simp only[Zm]at h;split at h;rotate_left;simp at h;rename_i y d c b;cases h;simp only[Zm,Zlx a c,ZhE a b,ZmD]
def Zif:Nat->List (RET U)->List (Id×Id)
 |_,[]=>[]
 |j,x::r=>match x.id with
  |some id=>((1,j,0),id)::Zif (j+1) r
  |none=>Zif (j+1) r
theorem Zfh:∀(j:Nat) (l:List (RET U)) (l':List RE),l'.map (·.id)=l.map (·.id)->Zig j l'=Zif j l
 |j,[],[],_=>rfl
 |j,[],_::_,h=>by simp at h
 |j,_::_,[],h=>by simp at h
 |j,x::l,y::l',h=>by
  simp only[ZmD,List.cons.injEq]at h;simp only[Zig,Zif,h.1];cases x.id with
  |none=>exact Zfh (j+1) l l' h.2
  |some id=>simp only[Zfh (j+1) l l' h.2]
def retT (X:ZG U) (T:TS U) (c:List ResultVar) (ms:List RM) (a:List (Option Nat)) (outs:List Nat):Option (ZbA U):=
 match Zm (resT X T) c with
 |some b=>match ZcZ T ms a b,Zm (Zkv T) outs with
  |some res,some os=>
   if Zf0 (T.freezeL (res.flatMap (·.fs)++os.flatMap (·.2))).enc (Zif 0 res++outs.map fun k=>((0,k,0),(0,k,0))) 2&&(res.map fun x=>x.rv.enc).all (ZfK outs)then
    some ⟨res.map (·.rv),os.map (·.1)⟩else none
  |_,_=>none
 |none=>none
theorem Zjk (g:UOk U) {X:ZG U} (c:TOk X) {T:TS U} (f:T.Inv):∀{e:List ResultVar} {a:List (TV U)},Zm (resT X T) e=some a->Zm (Zk0 X.E T.enc) e=some (TV.encs a)/\∀d∈a,d.inv T.objs
 | [],a,h=>by simp[Zm]at h;subst h;exact⟨rfl,by simp⟩
 |k::ks,a,h=>by
  simp only[Zm]at h;split at h;rotate_left;simp at h;rename_i y o l n;cases h;obtain⟨q1,m⟩:=resT_d g c f l;obtain⟨j,i⟩:=Zjk g c f n;refine⟨by simp only[Zm,q1,j,TV.encs],fun d b=> ?_⟩;rcases ZmF.1 b with rfl |b
  ·exact m
  ·exact i d b
theorem ZkZ (k:UOk U) {X:ZG U} (o:TOk X) {T:TS U} (e:T.Inv) {j:List ResultVar} {ms:List RM} {w:List (Option Nat)} {outs:List Nat} {t:ZbA U} (h:retT X T j ms w outs=some t):
  ∃l,Zmd X.E T.enc j ms outs=some (t.enc,l)/\∀q∈l,q=true:=by
 unfold retT at h;split at h;rotate_left;simp at h;rename_i B g;obtain⟨q1,s⟩:=Zjk k o e g;split at h;rotate_left;simp at h;rename_i b os c d;obtain⟨a,p,z,i,A,v,r⟩:=ZfY k e s c;have n:=ZhE e d;split at h;rotate_left;simp at h;rename_i f;cases h;refine⟨_, ?_,v⟩;unfold Zmd;rw[q1];simp only[Zai,z,if_true,p,n];have y:Zig 0 a=Zif 0 b:=Zfh 0 b a r;have m:(os.map fun x=>((x.1.1,x.1.2.enc),x.2)).flatMap (·.2)=os.flatMap (·.2):=by rw[List.flatMap_map]
 have u:a.all (fun x=>ZfK outs x.rv)=(b.map fun x=>x.rv.enc).all (ZfK outs):=by rw[<-i,List.all_map];rfl
 rw[A,y,m,u,<-Eng.freezeL_enc,if_pos f];simp only[ZmR,ZmS,and_true,ZbA.enc,Ret.mk.injEq,i,List.map_map];exact⟨rfl,rfl⟩
theorem ZfH:∀{l:List Bool},(∀q∈l,q=true)->Zle l
 | [],_=>trivial
 | [a],h=>h a (by simp)
 |a::b::r,h=>⟨h a (by simp),ZfH fun q c=>h q (by simp[c])⟩
structure Cut (U:Zc) (R:Type) where
 live:List Nat
 frz:List Nat
 κ:List (TV U)->List (TO U)->Option R
structure Par (U:Zc) (R:Type) where
 X:ZG U
 sigs:List (Nat×Zi1 U)
 cuts:List (List Nat×Cut U R)
 back:Option (Cut U R)
 exits:List (Nat×Cut U R)
 lent:List Nat
 rs:List ResultVar
 rms:List RM
 rhs:List (Option Nat)
 ret:ZbA U->Option R
 keep:List Nat:=[]
 alt:List (Nat×Nat):=[]
inductive TI' where
 |c (p:List Nat) (c:Code)
 |ops (a:Array Oper) (i:Nat)
 |blk (id:Nat)
def TI'.conc:TI'->Item
 | .c _ x=> .c x
 | .ops a i=> .ops a i
 | .blk id=> .blk id
def Zck (id:Nat):List TI'->Option (List TI')
 | .blk j::k=>if j=id then some k else Zck id k
 |_::k=>Zck id k
 | []=>none
noncomputable def agree {c:Type} (a b:Option c):Option c:= @ite _ (a=b) (Classical.propDecidable _) a none
variable {R:Type}
def Zgx:Nat->List (AET U)->List (Id×Id)
 |_,[]=>[]
 |k,x::r=>match x.id with
  |some id=>((0,k,0),id)::Zgx (k+1) r
  |none=>Zgx (k+1) r
def Zl7 (d:Nat):List (Nat×Nat)->Option Nat
 | []=>none
 |x::l=>if x.1=d then some x.2 else Zl7 d l
def Zlr (P:Par U R) (dst:Option Nat) (g:Nat):Option (Nat×Zi1 U):=
 match (match dst with |some d=>Zl7 d P.alt |none=>none)with
 |some k=>match P.sigs[k]? with
  |some x=>if x.1 == g then some x else none
  |none=>none
 |none=>P.sigs.find? fun x=>x.1 == g
theorem Zji {P:Par U R} {dst:Option Nat} {g:Nat} {a:Nat×Zi1 U} (h:Zlr P dst g=some a):a∈P.sigs/\a.1=g:=by
 unfold Zlr at h;split at h
 ·split at h;rotate_left;simp at h;rename_i x b;split at h;rotate_left;simp at h;rename_i c;cases h;exact⟨List.mem_of_getElem? b,by simpa using c⟩
 ·exact⟨List.mem_of_find?_eq_some h,by have:=List.find?_some h;simpa using this⟩
def ck {R:Type} (c:Option Bool) (k:Option R):Option R:=match c with
 |none=>k
 |some b=>chk b k
theorem Zl0 {R:Type} {c:Option Bool} {k:Option R} {r:R} (h:ck c k=some r):c≠some false/\k=some r:=by
 cases c with
 |none=>exact⟨by simp,h⟩
 |some b=>
  obtain⟨a,h⟩:=Zo h;exact⟨by rw[a];simp,h⟩
def fnOf (P:Par U R) (dst:Option Nat):Option (TV U)->Option (Option Bool×Nat×List (TV U)×List (TV U))
 |some (.fn g a b)=>some (none,g,a,b)
 |some (.v .fnc x)=>match (match dst with |some d=>Zl7 d P.alt |none=>none)with
  |some k=>match P.sigs[k]? with
   |some s=>some (some (decide (x=some s.1)),s.1,[],[])
   |none=>none
  |none=>none
 |_=>none
def callT (P:Par U R) (T:TS U) (i:Nat) (dst:Option Nat) (c:Call) (j:Zh U->Option R):Option R:=
 match c.callee with
 | .value f=>match fnOf P dst (evT P.X T.slots 0 f)with
  |some (b,g,first,caps)=>ck b (match Zlr P dst g with
   |some h=>match Zdc P.X T.slots c.args.toList h.2.pts with
    |some k=>match Z5 T h.2.ms h.2.hs (first++k++caps)with
     |some d=>if Zf0 (T.freezeL (d.flatMap (·.fs))).enc (Zgx 0 d) 1&&c.args.toList.all Zz&&Zz f then match h.2.sig (d.map (·.arg))with
      |some s=>s.o.bind fun a=>match Zgs T i d (s.give a)with
       |some e=>j e
       |none=>none
      |none=>none
      else none
     |none=>none
    |none=>none
   |none=>none)
  |none=>none
 |_=>none
def Zb2 (o:Oper):Bool:=match o.op with
 | .call c=>match c.callee with
  | .value _=>true
  |_=>false
 |_=>false
def Zkh (P:Par U R) (T:TS U) (i:Nat) (o:Oper) (a:Zh U->Option R):Option R:=
 if Zb2 o then match o.op with
  | .call c=>callT P T i o.dst c a
  |_=>none
 else ZlZ P.X T i o.op o.type a
def okE (P:Par U R) (T:TS U) (i:Nat) (o:Oper) (e:Zh U):Bool:=
 fresh T i e&&(if Zb2 o then Zda P.X.E o else Zek T.enc (e.enc [])&&Zfj P.X.E o)
def fpT (P:Par U R) (T:TS U) (o:Oper) (e:Zh U):Fp:=
 ⟨if Zb2 o then ZaQ P.X.E T.enc.slots T.enc.objs o.op.operands.toList else ZdS P.X.E o.op T.enc.slots T.enc.objs,e.wr.map (·.1),e.frz⟩
def ZhQ (ops:Array Oper) (T:TS U) (o:Oper) (a:Bool->TS U->Option R):Option R:=
 match o.guard with
 |none=>a true T
 |some (g,w)=>match (ops[g]?).bind (·.dst)with
  |some t=>match T.slots t with
   | .v .bool b=>bif b then a w (T.setO (some t) (.v .bool true))else a (!w) (T.setO (some t) (.v .bool false))
   | .undef=>a false T
   |_=>none
  |none=>a false T
def ZlG (X:ZG U) (T:TS U) (o:Oper):Option (Bool×Bool):=
 match o.op with
 | .binOp b t x (.const (.slice none 0 0)) _=>match X.get t,evT X T.slots 0 x with
  |some e,some d=>match e.ti.d with
   | .sl _=>match (match b with | .eql=>some true | .neq=>some false |_=>none)with
    |some q=>match d with
     | .v (.sl _) xs=>some (List.isEmpty xs,q)
     | .full id _=>match T.objs id with
      |some (.arr _ xs _)=>some (List.isEmpty xs,q)
      |_=>none
     |_=>none
    |none=>none
   |_=>none
  |_,_=>none
 |_=>none
noncomputable def Zdv {a β:Type} (xs:List a) (f:a->List a->Option β):Option β:=
 @dite _ (∃r,∀(j:Nat) q,xs[j]? =some q->f q (xs.eraseIdx j)=some r) (Classical.propDecidable _) (fun h=>some h.choose) fun _=>none
theorem ZfZ {a β:Type} {xs:List a} {f:a->List a->Option β} {r:β} (h:Zdv xs f=some r) {j:Nat} {q:a} (c:xs[j]? =some q):f q (xs.eraseIdx j)=some r:=by unfold Zdv at h;split at h;rotate_left;simp at h;rename_i b;simp only[ZmR]at h;rw[<-h];exact b.choose_spec j q c
structure MitI (U:Zc) where
 id:Id
 a:Ty
 b:Ty
 rest:List (El U.car a×El U.car b)
def nextM (X:ZG U) (T:TS U) (o:Oper):Option (MitI U):=
 match o.op with
 | .next c false=>match evT X T.slots 0 c with
  |some (.it id)=>match T.objs id with
   |some (.mit a b rest _)=>if T.fz id=false then some ⟨id,a,b,rest⟩else none
   |_=>none
  |_=>none
 |_=>none
def ZjG (P:Par U R) (c:Cut U R) (T:TS U):Option R:=
 match ZjX T P.lent c.live c.frz with
 |some q=>c.κ q.1 q.2
 |none=>none
def ZkG (P:Par U R) (T:TS U):Option R:=
 match retT P.X T P.rs P.rms P.rhs P.lent with
 |some t=>P.ret t
 |none=>none
noncomputable def evl (P:Par U R):Nat->Option (Array Oper×List Fp)->List TI'->TS U->Option R
 |0,_,_,_=>none
 |n+1,some (ops,hist),pre,T=>match ops[hist.length]? with
  |none=>if Zgo ops T.ep hist&&decide (hist.length=ops.size)then evl P n none pre T.next else none
  |some o=>ZhQ ops T o fun g T=>match g with
   |true=>Zkh P T hist.length o fun e=>if okE P T hist.length o e&&live ops o T.enc (fpT P T o e)then evl P n (some (ops,hist++[fpT P T o e])) pre (T.app hist.length o.dst e)else none
   |false=>if Zda P.X.E o&&live ops o T.enc {}then evl P n (some (ops,hist++[{}])) pre (T.app hist.length o.dst {val:= .undef})else none
 |n+1,none,[],T=>match P.back with
  |some c=>ZjG P c T
  |none=>ZkG P T
 |n+1,none,.blk _::pre,T=>evl P n none pre T
 |n+1,none,.ops ops i::pre,T=>match ops[i]? with
  |none=>evl P n none pre T.next
  |some o=>ZhQ ops T o fun g T=>match g with
   |true=>match ZlG P.X T o with
    |some (em,q)=>if Zda P.X.E o&&Zfj P.X.E o then bif em then agree (evl P n none (.ops ops (i+1)::pre) (T.app i o.dst {val:= .v .bool true})) (evl P n none (.ops ops (i+1)::pre) (T.app i o.dst {val:= .v .bool false}))
      else evl P n none (.ops ops (i+1)::pre) (T.app i o.dst {val:= .v .bool (!q)})
     else none
    |none=>match nextM P.X T o with
     |some m=>if Zfj P.X.E o then bif List.isEmpty m.rest then evl P n none (.ops ops (i+1)::pre) (T.app i o.dst {val:= .tup [.v .bool false]})
       else Zdv m.rest fun q rest=>evl P n none (.ops ops (i+1)::pre) (T.app i o.dst {val:= .tup [.v .bool true,.v m.a q.1,.v m.b q.2],wr:=[(m.id,.mit m.a m.b rest (some q))]})
      else none
     |none=>match ZkN P.X T o with
      |some m=>if Zfj P.X.E o then anyN m fun c=>evl P n none (.ops ops (i+1)::pre) (T.app i o.dst {val:= .v (.int .i64) (c:Int)})else none
      |none=>match ZkE P.keep P.X T o with
       |some q=>if Zfj P.X.E o then chk (ZiZ (List.length q.xs+List.length q.ys) q.by_) (evl P n none (.ops ops (i+1)::pre) (T.app i o.dst {val:= .v (.sl q.t) (List.append q.xs q.ys),wr:=[(q.id,.arr q.t q.xs true)],frz:=[q.id]}))else none
       |none=>Zkh P T i o fun e=>if okE P T i o e then evl P n none (.ops ops (i+1)::pre) (T.app i o.dst e)else none
   |false=>if Zda P.X.E o then evl P n none (.ops ops (i+1)::pre) (T.app i o.dst {val:= .undef})else none
 |n+1,none,.c p c::pre,T=>match P.cuts.find? fun x=>x.1 == p with
  |some x=>ZjG P x.2 T
  |none=>match c with
   | .skip=>evl P n none pre T
   | .seq a b=>evl P n none (.c (0::p) a:: .c (1::p) b::pre) T
   | .block id b=>evl P n none (.c (4::p) b:: .blk id::pre) T
   | .region _ ops false=>evl P n none (.ops ops 0::pre) T
   | .region _ ops true=>evl P n (some (ops,[])) pre T
   | .cond c a b=>if Zz c then match evT P.X T.slots 0 c with
    |some (.v .bool x)=>bif x then evl P n none (.c (2::p) a::pre) T else evl P n none (.c (3::p) b::pre) T
    |_=>none
    else none
   | .exit id=>match Zck id pre with
    |some d=>evl P n none d T
    |none=>match P.exits.find? fun x=>x.1 == id with
     |some x=>ZjG P x.2 T
     |none=>none
   | .ret=>ZkG P T
   |_=>none
end
end Eng
namespace Eng
open Go
section
variable {U:Zc} {R:Type}
def atP (root:Code×List Item):List Nat->Option (Code×List Item)
 | []=>some root
 |d::p=>match atP root p with
  |some (c,k)=>match d,c with
   |0,.seq a b=>some (a,.c b::k)
   |1,.seq _ b=>some (b,k)
   |2,.cond _ a _=>some (a,k)
   |3,.cond _ _ b=>some (b,k)
   |4,.block id b=>some (b,.blk id::k)
   |5,.loop b=>some (b,.lp b::k)
   |_,_=>none
  |none=>none
def Wf (root:Code×List Item) (base:List Item):List TI'->Prop
 | []=>True
 | .c p c::k=>atP root p=some (c,k.map TI'.conc++base)/\Wf root base k
 | .blk _::k=>Wf root base k
 | .ops _ _::k=>Wf root base k
def Zeg (E:Env) (g:Nat) (b:Zi1 U):Prop:=
 ∀args s,b.sig args=some s->∀a,s.o=some a->Fun E g (args.map ZR.enc) (s.give a).enc/\Zeh args (s.give a)
def Hcut (P:Par U R) (C:Ctx) (fm:Fm) (fn:Func) (RT:Ret) (r:R) (a:Cut U R) (k:List Item):Prop:=
 ∀b os,(mkC P.lent a.live b os).Inv->a.κ b os=some r->AWP C fm (Zih C fn RT) k (mkC P.lent a.live b os).enc
structure Hyp (P:Par U R) (C:Ctx) (fm:Fm) (fn:Func) (RT:Ret) (r:R) (root:Code×List Item) (base:List Item):Prop where
 hU:UOk U
 hX:TOk P.X
 hE:Zk C.E
 hCE:C.E=P.X.E
 mixed:C.E.prog.follows .mixedOrders=true
 rs:fn.results.toList=P.rs
 ds:fm.ds=[]
 sigs:∀x∈P.sigs,Zeg P.X.E x.1 x.2
 cuts:∀x∈P.cuts,∀c k,atP root x.1=some (c,k)->Hcut P C fm fn RT r x.2 (.c c::k)
 back:∀c,P.back=some c->Hcut P C fm fn RT r c base
 noback:P.back=none->base=[]
 exits:∀x∈P.exits,∃k,Zaj x.1 base=some k/\Hcut P C fm fn RT r x.2 k
 ret:∀t,P.ret t=some r->t.enc=RT
section
variable {P:Par U R} {C:Ctx} {fm:Fm} {fn:Func} {RT:Ret} {r:R} {root:Code×List Item} {base:List Item} {G:Zj8}
theorem Zh3 {ops:Array Oper} {i:Nat} {k:List Item} {st st':St} (hi:i < ops.size) (h:Exec C fm ops i st st') (h1:AWP C fm G (.ops ops (i+1)::k) st'):AWP C fm G (.ops ops i::k) st:=by intro ρ S a w hrep hd b k0 cs hb;have hrep:Rep C (fun j=>j < i) ρ S st a.tmps w:=hrep;obtain⟨ρ',S',a',w',hr',hd',hs⟩:=h (fun j=>j < i) (by simp) ρ S a w hrep hd b (List.range' (i+1) (ops.size - (i+1))) (k.map conc++k0) cs hb;obtain⟨e2,a2',w2,hg2,harr⟩:=h1 ρ' S' a' w' (hr'.weakX (fun j hj=>by simp only[Xof];omega)) hd' b k0 cs hb;refine⟨e2,a2',w2,hg2,.of_steps ?_ harr⟩;simp only[ZmD,ZmZ,conc,Za1 hi];exact hs
theorem ZkS {k:List Item} {d:St} {t:Nat} (h:∀b,AWP C fm G k (d.set t (.p (.bool b)))):AWP C fm G k (d.set t .anyb):=by
 intro ρ S a w c l;have f:=c.slots t;have j:(d.set t .anyb).slots t= .anyb:=by simp[St.set,upd]
 rw[j]at f;generalize hv:a.tmps.getD t undef=v at f;cases f with
 |anyb b=>
  refine h b ρ S a w ?_ l;have g:∀e,RelD w S ρ (a.tmps.getD e undef) ((d.set t (.p (.bool b))).slots e):=fun e=>by
   have:=c.slots e;simp only[St.set,upd]at this|-
   split
   ·rename_i i;subst i;rw[hv];exact .p _ _ (.bool b)
   ·rename_i i;rw[if_neg i]at this;exact this
  exact⟨c.nt,c.grow,c.frame,c.s0,c.sIn,g,c.objs,c.own,c.inj,c.known,c.young,c.fzk,c.glob,c.sOut,c.ep1,c.quiet,c.lay⟩
theorem Zhj (g:Nat) (a b:List D):Zb5 (fnD g a b)=some (g,a,b):=by
 unfold fnD;cases ha:Zm D.pure? a with
 |none=>rfl
 |some x=>
  cases hb:Zm D.pure? b with
  |none=>rfl
  |some y=>simp only[Zb5,<-Zu ha,<-Zu hb]
theorem Zec:∀(j:Nat) (l:List (AET U)) (l':List AE),l'.map (·.id)=l.map (·.id)->Zaa j l'=Zgx j l
 |j,[],[],_=>rfl
 |j,[],_::_,h=>by simp at h
 |j,_::_,[],h=>by simp at h
 |j,x::l,y::l',h=>by
  simp only[ZmD,List.cons.injEq]at h;simp only[Zaa,Zgx,h.1];cases x.id with
  |none=>exact Zec (j+1) l l' h.2
  |some id=>simp only[Zec (j+1) l l' h.2]
theorem Zg9 (a b:List (TV U)):TV.encs (a++b)=TV.encs a++TV.encs b:=by simp only[ZaN,List.map_append]
theorem ZkH (e:TOk P.X) {T:TS U} (l:T.Inv) {dst:Option Nat} {f:Operand} {g:Nat} {a b:List (TV U)} {c:Option Bool} (i:c≠some false) (h:fnOf P dst (evT P.X T.slots 0 f)=some (c,g,a,b)):
  ev P.X.E T.enc.slots 0 f=fnD g (TV.encs a) (TV.encs b)/\(TV.fn g a b).inv T.objs:=by
 unfold fnOf at h;split at h
 ·rename_i m p b' d;simp only[ZmR,ZmS]at h;obtain⟨-,rfl,rfl,rfl⟩:=h;exact⟨by rw[Zb e d];simp only[TV.enc],ZE l d⟩
 ·rename_i x d;split at h;rotate_left;simp at h;rename_i k n;split at h;rotate_left;simp at h;rename_i s o;simp only[ZmR,ZmS]at h;obtain⟨rfl,rfl,rfl,rfl⟩:=h;have j:x=some s.1:=by simp only[ne_eq,ZmR,decide_eq_false_iff_not,Classical.not_not]at i;exact i
  subst j;exact⟨by rw[Zb e d];rfl,Zf rfl⟩
 ·simp at h
theorem Zhw (H:Hyp P C fm fn RT r root base) {T:TS U} (F:T.Inv) {ops:Array Oper} {i:Nat} {o:Oper} {V:Zh U->Option R} (O:ZQ ops T.enc o.guard=some true) (h:Zkh P T i o V=some r):
  ∃e,ZJ T i e/\V e=some r/\(okE P T i o e=true->∃cs,OE C ops i o T.enc (e.enc cs) (fpT P T o e).R):=by
 unfold Zkh at h;split at h
 ·rename_i u;unfold Zb2 at u;split at u;rotate_left;simp at u;rename_i c l;split at u;rotate_left;simp at u;rename_i f k;rw[l]at h;simp only[callT,k]at h;split at h;rotate_left;simp at h;rename_i b g t y hf
  obtain⟨hb,h⟩:=Zl0 h;obtain⟨G,D⟩:=ZkH H.hX F hb hf;split at h;rotate_left;simp at h;rename_i A J;obtain⟨z,L⟩:=Zji J;split at h;rotate_left;simp at h;rename_i Z B;split at h;rotate_left;simp at h;rename_i as w;split at h;rotate_left;simp at h;rename_i m;simp only[Zmt]at m;split at h;rotate_left;simp at h;rename_i s hs;obtain⟨a,ha,h⟩:=bind_some h;split at h;rotate_left;simp at h;rename_i e Q;obtain⟨p,I⟩:=H.sigs A z _ s hs a ha;have M:∀d∈t++Z++y,d.inv T.objs:=by
   intro d n;simp only[ZmE]at n;rcases n with (n |n) |n
   ·exact fun q K=>D q (by simp only[TV.fulls,ZmE];exact .inl (Zs.2 ⟨d,n,K⟩))
   ·exact Zd8 F B d n
   ·exact fun q K=>D q (by simp only[TV.fulls,ZmE];exact .inr (Zs.2 ⟨d,n,K⟩))
  obtain⟨E,p1,p2,Y,W,p5,S⟩:=Ze3 H.hU F M w;refine⟨e,ZiP w I Q,h,fun v=>⟨[], ?_⟩⟩;have j:Zb2 o=true:=by unfold Zb2;rw[l];simp only[k]
  simp only[okE,j,if_true,Zmt]at v;have x:Zk1 C.E T.enc c A.2.pts A.2.ms=some (g,E):=by unfold Zk1;rw[H.hCE];simp only[k,G,Zhj,ZbI H.hX B,<-Zg9,Zai,p2,if_true,p1,W,<-Eng.freezeL_enc,Zec 0 as E S,m.1.1,m.1.2,m.2,Bool.and_self]
  have N:(fpT P T o e).R=ZaQ C.E T.enc.slots T.enc.objs c.operands.toList:=by simp only[fpT,j,if_true,H.hCE,l,Op.operands]
  rw[N];refine .call (pts:=A.2.pts) (ms:=A.2.ms) O l (by rw[H.hCE];exact v.2) x (ZfH p5) ?_ (ZiQ S W Q);rw[Y,H.hCE,<-L];rw[List.map_map]at p;exact p
 ·rename_i u;obtain⟨e,cs,h1,h2,h3,X⟩:=snd H.hU H.hX F h;refine⟨e,h3,X,fun v=>⟨cs, ?_⟩⟩;have j:Zb2 o=false:=by simpa using u
  simp only[okE,j,Zmu,if_false,Zmt]at v;have N:(fpT P T o e).R=ZdS C.E o.op T.enc.slots T.enc.objs:=by simp only[fpT,j,Zmu,if_false,H.hCE]
  rw[N];exact .op O (by rw[H.hCE];exact h1) (by rw[H.hCE];exact v.2.2) v.2.1 h2
theorem Zhz {T:TS U} {t:Nat} {d:TV U} (h:T.slots t=d):T.setO (some t) d=T:=by
 have:upd T.slots t d=T.slots:=by
  funext x;simp only[upd];split
  ·rename_i a;rw[a,h]
  ·rfl
 cases T;simp only[TS.setO]at this|-
 rw[this]
theorem Zgk {ops:Array Oper} {T:TS U} {o:Oper} {e:Bool->TS U->Option R} (h:ZhQ ops T o e=some r):∃g,ZQ ops T.enc o.guard=some g/\e g T=some r:=by
 unfold ZhQ at h;unfold ZQ;split at h
 ·rename_i c;rw[c];exact⟨true,rfl,h⟩
 ·rename_i g w c;rw[c];simp only;split at h
  ·rename_i t d;rw[d];simp only;rw[show T.enc.slots t=(T.slots t).enc from rfl];split at h
   ·rename_i b a;rw[a];cases b
    ·refine⟨!w, ?_,by rw[cond_false,Zhz a]at h;exact h⟩;simp only[TV.enc,Zc.encE];cases w<;>rfl
    ·refine⟨w, ?_,by rw[cond_true,Zhz a]at h;exact h⟩;simp only[TV.enc,Zc.encE];cases w<;>rfl
   ·rename_i a;rw[a];exact⟨false,rfl,h⟩
   ·simp at h
  ·rename_i d;rw[d];exact⟨false,rfl,h⟩
theorem Z9 {id:Nat}:∀{pre b:List TI'},Zck id pre=some b->(∀base,Zaj id (pre.map TI'.conc++base)=some (b.map TI'.conc++base))/\(Wf root base pre->Wf root base b)
 | [],_,h=>by simp[Zck]at h
 |x::k,b,h=>by
  cases x with
  |blk j=>
   simp only[Zck]at h;split at h
   ·rename_i e;cases h;exact⟨fun base=>by simp[TI'.conc,Zaj,e],fun hw=>hw⟩
   ·rename_i e;obtain⟨q1,d⟩:=Z9 h;exact⟨fun base=>by simp only[ZmD,ZmZ,TI'.conc,Zaj,e,if_false];exact q1 base,fun hw=>d hw⟩
  |c p c=>
   simp only[Zck]at h;obtain⟨q1,d⟩:=Z9 h;exact⟨fun base=>by simp only[ZmD,ZmZ,TI'.conc,Zaj];exact q1 base,fun hw=>d hw.2⟩
  |ops a i=>
   simp only[Zck]at h;obtain⟨q1,d⟩:=Z9 h;exact⟨fun base=>by simp only[ZmD,ZmZ,TI'.conc,Zaj];exact q1 base,fun hw=>d hw⟩
theorem ZbG {id:Nat}:∀{pre:List TI'},Zck id pre=none->∀base,Zaj id (pre.map TI'.conc++base)=Zaj id base
 | [],_,base=>rfl
 |x::k,h,base=>by
  cases x with
  |blk j=>
   simp only[Zck]at h;split at h
   ·simp at h
   ·rename_i b;simp only[ZmD,ZmZ,TI'.conc,Zaj,b,if_false];exact ZbG h base
  |c p c=>simp only[Zck]at h;simp only[ZmD,ZmZ,TI'.conc,Zaj];exact ZbG h base
  |ops a i=>simp only[Zck]at h;simp only[ZmD,ZmZ,TI'.conc,Zaj];exact ZbG h base
theorem ZdR (H:Hyp P C fm fn RT r root base) {T:TS U} (c:T.Inv) {a:Cut U R} {k:List Item} (f:Hcut P C fm fn RT r a k) (h:ZjG P a T=some r):AWP C fm (Zih C fn RT) k T.enc:=by unfold ZjG at h;split at h;rotate_left;simp at h;rename_i q d;obtain⟨e,b⟩:=ZiM (C:=C) (r:=fm) (G:=Zih C fn RT) (k:=k) H.hU c d;exact b (f q.1 q.2 e h)
theorem Zin (p:TOk P.X) {T:TS U} (z:T.Inv) {o:Oper} {i em q} (h:ZlG P.X T o=some (em,q)):
  (em=false->Zd P.X.E T.ep i o.op o.type T.enc.slots T.enc.objs=some {val:= .p (.bool !q)})/\(em=true->Zd P.X.E T.ep i o.op o.type T.enc.slots T.enc.objs=some {val:= .anyb}):=by
 unfold ZlG at h;split at h;rotate_left;simp at h;rename_i b t x u j;rw[j];split at h;rotate_left;simp at h;rename_i e d r k;split at h;rotate_left;simp at h;rename_i E m;split at h;rotate_left;simp at h;rename_i C a;have fin:∀v:D,(Zc1 e.ti.d (.const (.slice none 0 0)) (T.enc |> fun _=>d.enc)=some v)->∀f,(v=if f then .anyb else .p (.bool false))->some (f,C)=some (em,q)->
   (em=false->Zd P.X.E T.ep i (.binOp b t x (.const (.slice none 0 0)) u) o.type T.enc.slots T.enc.objs=some {val:= .p (.bool !q)})/\(em=true->Zd P.X.E T.ep i (.binOp b t x (.const (.slice none 0 0)) u) o.type T.enc.slots T.enc.objs=some {val:= .anyb}):=by
  intro v s f c l;simp only[ZmR,ZmS]at l;obtain⟨rfl,rfl⟩:=l;have w:Operand.isNil (.const (.slice none 0 0))=true:=rfl;constructor
  ·intro g;subst g;simp only[Zmu,if_false]at c;subst c;simp only[Zd,w,if_true,Zr r,Zb p k,s];split at a<;>simp only[ZmR,reduceCtorEq]at a<;>subst a<;>simp[D.notb]
  ·intro g;subst g;simp only[if_true]at c;subst c;simp only[Zd,w,if_true,Zr r,Zb p k,s];split at a<;>simp only[ZmR,reduceCtorEq]at a<;>subst a<;>simp[D.notb]
 split at h
 ·rename_i A xs;refine fin _ ?_ _ rfl h;simp only[m,TV.enc,Zc.encE,Zc1,List.isEmpty_map]
 ·rename_i id n;split at h;rotate_left;simp at h;rename_i A xs fix B;have y:=Za5 z k B;refine fin _ ?_ _ rfl h;simp only[m,TV.enc,Zc1];rw[y];cases xs<;>simp
 ·simp at h
theorem Zhm {ops:Array Oper} {i:Nat} {o:Oper} {k:List Item} {p:St} (u:ops[i]? =some o) (A:ZQ ops p o.guard=some true) (r:∀c,o.op≠ .defer c)
  (h:∀(ρ:Id->Option Lay) (S:Nat->Prop) (a:Act) (w:World),Rep C (fun j=>j < i) ρ S p a.tmps w->a.defers=fm.ds->∃f v w',(execOp a.eval o).run C.E.prog w= .ok (.value v) w'/\(∃ρ' S',Rep C (fun j=>j < i\/j=i) ρ' S' f (a.put o.dst v).tmps w')/\AWP C fm G (.ops ops (i+1)::k) f):
  AWP C fm G (.ops ops i::k) p:=by
 have hi:i < ops.size:=(Zmp.1 u).1;intro ρ S a w d y b k0 cs D;have d:Rep C (fun j=>j < i) ρ S p a.tmps w:=d;have g:=ZaS d A;obtain⟨f,v,w',m,⟨ρ',S',t⟩,E⟩:=h ρ S a w d y;obtain⟨z,x,B,s,n⟩:=E ρ' S' (a.put o.dst v) w' (t.weakX (fun j F=>by simp only[Xof];omega)) (by simp[y]) b k0 cs D;refine⟨z,x,B,s,.of_steps ?_ n⟩;have l:o.semAt b.roundOf a.eval=execOp a.eval o:=Oper.semAt_eq _ _ _ r;have q:=stepGR_op (P:=C.E.prog) (b:=b) (a:=a) (k:=k.map conc++k0) (cs:=cs) (w:=w) (i:=i) (rest:=List.range' (i+1) (ops.size - (i+1))) u g;have e:=Frame.finish_atR b a ops i (List.range' (i+1) (ops.size - (i+1))) (k.map conc++k0) v;simp only[u,Option.bind_some]at e;refine .one (Zx _ _ _) ?_;simp only[ZmD,ZmZ,conc,Za1 hi];refine step_lone_go ?_;rw[q,l,<-e];simp[stepG.apply,m]
theorem Zjw {a β c b:Type} (f:a->c) (g:β->b) (l:List (a×β)) (j:Nat):(l.map fun e=>(f e.1,g e.2)).eraseIdx j=(l.eraseIdx j).map fun e=>(f e.1,g e.2):=by
 induction l generalizing j with
 |nil=>simp
 |cons x l d=>cases j with
  |zero=>simp
  |succ j=>simp[d]
theorem ZlV (H:Hyp P C fm fn RT r root base):∀(n:Nat),
  (∀pre T,Wf root base pre->T.Inv->evl P n none pre T=some r->AWP C fm (Zih C fn RT) (pre.map TI'.conc++base) T.enc)/\
  (∀pre T ops z,Wf root base pre->T.Inv->evl P n (some (ops,z)) pre T=some r->DW C fm (Zih C fn RT) (pre.map TI'.conc++base) ops z T.enc):=by
 intro n
 induction n with
 |zero=>exact⟨fun pre T _ _ h=>by simp[evl]at h,fun pre T ops z _ _ h=>by simp[evl]at h⟩
 |succ n ih=>
  obtain⟨s,W⟩:=ih;refine⟨fun pre T hw y h=> ?_,fun pre T ops z hw y h=> ?_⟩
  ·match pre with
   | []=>
    simp only[evl]at h;split at h
    ·rename_i c N;exact ZdR H y (H.back c N) h
    ·rename_i hb;rw[H.noback hb];unfold ZkG at h;split at h;rotate_left;simp at h;rename_i t R;obtain⟨ps,q1,q2⟩:=ZkZ H.hU H.hX y R;exact Zl5 _ ps P.rms P.lent H.hE (by rw[H.hCE,H.rs];exact q1) (H.ret t h) (ZfH q2) H.ds
   | .blk id::pre=>
    simp only[evl]at h;exact Zak (ps':=[]) H.hE 1 _ _ [] rfl (by simp) (s pre T hw y h)
   | .ops ops i::pre=>
    simp only[evl]at h;split at h
    ·rename_i hn;exact Zak (ps':=[]) H.hE 1 (.ops ops i::_) _ [] (by simp only[run,hn];rfl) (by simp) (s pre T.next hw y.next h)
    ·rename_i o M;have hi:i < ops.size:=(Zmp.1 M).1;obtain⟨g,Q,h⟩:=Zgk h;cases g with
     |true=>
      simp only at h;split at h
      ·rename_i em q L;split at h;rotate_left;simp at h;rename_i f;simp only[Zmt]at f;obtain⟨c1,c2⟩:=Zin (i:=i) H.hX y L;have an:∀b,ZJ T i {val:=(.v .bool b:TV U)}:=fun b=>ZJ.pure (Zah _ _)
       have fr:∀b,fresh T i {val:=(.v .bool b:TV U)}=true:=fun b=>rfl
       have step:∀(v:D),Zd P.X.E T.ep i o.op o.type T.enc.slots T.enc.objs=some {val:=v}->AWP C fm (Zih C fn RT) (.ops ops (i+1)::(pre.map TI'.conc++base)) (T.enc.app i o.dst {val:=v})->AWP C fm (Zih C fn RT) (.ops ops i::(pre.map TI'.conc++base)) T.enc:=fun v as h1=>
        Zld (e:={val:=v}) H.hE M Q (by rw[H.hCE];exact as) (by rw[H.hCE];exact f.2) rfl (by simp) h1
       have X:∀b,evl P n none (.ops ops (i+1)::pre) (T.app i o.dst {val:= .v .bool b})=some r->AWP C fm (Zih C fn RT) (.ops ops (i+1)::(pre.map TI'.conc++base)) (T.enc.app i o.dst {val:= .p (.bool b)}):=fun b hb=>by have:=s (.ops ops (i+1)::pre) _ hw (y.app (fr b) (an b)) hb;rw[Zbb T i o.dst _ []]at this;exact this
       cases em with
       |false=>exact step _ (c1 rfl) (X _ h)
       |true=>
        simp only[cond_true,agree]at h;split at h;rotate_left;simp at h;rename_i ao;have R:=X true h;have hf:=X false (by rw[<-ao];exact h);refine step _ (c2 rfl) ?_;cases K:o.dst with
        |none=>rw[K]at R;exact R
        |some t=>
         rw[K]at R hf;exact ZkS fun b=>by cases b;(·exact hf);exact R
      ·split at h
       ·rename_i m B;split at h;rotate_left;simp at h;rename_i f;unfold nextM at B;split at B;rotate_left;simp at B;rename_i it ac;split at B;rotate_left;simp at B;rename_i id av;split at B;rotate_left;simp at B;rename_i ka kb rest aw ak;split at B;rotate_left;simp at B;rename_i ar;cases B;have aj:Zz it=true:=by simp only[Zfj,Zmt]at f;have:=f.2;rw[ac]at this;simp[Op.operands]at this;exact this
        have ai:∀d,o.dst=some d->d < C.E.nt:=by rw[H.hCE];simp only[Zfj,Zmt]at f;exact Za9 f.1
        have al:ev C.E T.enc.slots 0 it= .it id:=by rw[H.hCE,Zb H.hX av];rfl
        have Z:T.enc.objs id=some (.mit (rest.map fun e=>(U.encE ka e.1,U.encE kb e.2)) (aw.map fun e=>(U.encE ka e.1,U.encE kb e.2))):=Zg ak;refine Zhm M Q (fun c N=>by rw[ac]at N;cases N) fun ρ S a w F K=> ?_
        rcases Zkx F (Nat.lt_irrefl i) ai aj ac al Z ar with ⟨L,v,w',A,u⟩ |⟨j,q,I,v,w',A,u⟩
        ·have:rest=[]:=by simpa using L
         subst this;refine⟨_,v,w',A,u, ?_⟩;have:=s (.ops ops (i+1)::pre) _ hw (y.app (dst:=o.dst) rfl (ZJ.pure (Zf (by simp[TV.fulls,TV.fullsL])))) h;rw[Zbb T i o.dst _ []]at this;exact this
        ·have aq:List.isEmpty rest=false:=by
          cases rest with
          |nil=>simp at I
          |cons x l=>rfl
         rw[List.getElem?_map]at I;cases hr:rest[j]? with
         |none=>rw[hr]at I;simp at I
         |some q0=>
          rw[hr]at I;simp only[Option.map_some,ZmR]at I;subst I;simp only[aq,cond_false]at h;have hb:=ZfZ h hr;refine⟨_,v,w',A,u, ?_⟩;have:=s (.ops ops (i+1)::pre) _ hw (y.app (dst:=o.dst) rfl (Zb4 (by simp[TV.fulls,TV.fullsL]) (fun t xs fix he=>by cases he) (fun _=>by trivial))) hb;rw[Zbb T i o.dst _ []]at this;simp only[Zh.enc,TV.enc,TV.encs,Zc.encE,ZmD,List.map_nil,Zbt,Option.map_some,<-Zjw]at this;exact this
       split at h
       ·rename_i m B;split at h;rotate_left;simp at h;rename_i f;refine Zhm M Q (fun c N=> ?_) fun ρ S a w F K=> ?_
        ·unfold ZkN at B;rw[N]at B;simp at B
        obtain⟨_,c,au,ap,v,A,u⟩:=ZiL H.hX y H.hCE F (Nat.lt_irrefl i) H.hE f B;refine⟨_,v,w,A,u, ?_⟩;have:=s (.ops ops (i+1)::pre) _ hw (y.app (dst:=o.dst) rfl (ZJ.pure (Zah _ _))) (Zj7 h au ap);rw[Zbb T i o.dst _ []]at this;exact this
       split at h
       ·rename_i q I;split at h;rotate_left;simp at h;rename_i f;obtain⟨aa,h⟩:=Zo h;refine Zhm M Q (fun c N=> ?_) fun ρ S a w F K=> ?_
        ·unfold ZkE at I;rw[N]at I;split at I<;>simp at I
        obtain⟨_,ag,v,w',A,u⟩:=Ziw H.hX y H.hCE F (Nat.lt_irrefl i) H.hE f I aa;refine⟨_,v,w',A,u, ?_⟩;have:=s (.ops ops (i+1)::pre) _ hw (y.app (dst:=o.dst) rfl ag) h;rw[Zbb T i o.dst _ []]at this;exact this
       obtain⟨e,ae,G,af⟩:=Zhw H y Q h;split at G;rotate_left;simp at G;rename_i f;obtain⟨cs,Y⟩:=af f;have ab:fresh T i e=true:=by simp only[okE,Zmt]at f;exact f.1
       refine Zh3 hi (Y.exec H.hE M) ?_;have:=s (.ops ops (i+1)::pre) _ hw (y.app ab ae) G;rw[Zbb T i o.dst e cs]at this;exact this
     |false=>
      simp only at h;split at h;rotate_left;simp at h;rename_i K;have e0:ZJ T i {val:=(.undef:TV U)}:=ZJ.pure (Zf rfl);have:=s (.ops ops (i+1)::pre) _ hw (y.app rfl e0) h;rw[Zbb T i o.dst _ []]at this;exact Zh3 hi (Zgm M Q (by rw[H.hCE];exact K)) this
   | .c p c::pre=>
    obtain⟨J,E⟩:=hw;simp only[evl]at h;split at h
    ·rename_i x O;have B:=List.mem_of_find?_eq_some O;have hp:x.1=p:=by have:=List.find?_some O;simpa using this
     exact ZdR H y (H.cuts x B c _ (by rw[hp];exact J)) h
    ·cases c with
     |skip=>simp only at h;exact Zak (ps':=[]) H.hE 1 _ _ [] rfl (by simp) (s pre T E y h)
     |seq a b=>
      simp only at h;refine Zak (ps':=[]) H.hE 1 (.c (.seq a b)::_) _ [] rfl (by simp) (s (.c (0::p) a:: .c (1::p) b::pre) T ⟨?_, ?_,E⟩ y h)
      ·simp only[atP,J];rfl
      ·simp only[atP,J]
     |block id b=>
      simp only at h;refine Zak (ps':=[]) H.hE 1 (.c (.block id b)::_) _ [] rfl (by simp) (s (.c (4::p) b:: .blk id::pre) T ⟨?_,E⟩ y h);simp only[atP,J];rfl
     |region id ops dr=>
      cases dr with
      |false=>simp only at h;exact Zak (ps':=[]) H.hE 1 (.c (.region id ops false)::_) _ [] rfl (by simp) (s (.ops ops 0::pre) T E y h)
      |true=>simp only at h;exact ZkR H.hE H.mixed (W pre T ops [] E y h)
     |cond x a b=>
      simp only at h;split at h;rotate_left;simp at h;rename_i hl;split at h;rotate_left;simp at h;rename_i v hv;have am:ev C.E T.enc.slots 0 x= .p (.bool v):=by rw[H.hCE,Zb H.hX hv];rfl
      cases v with
      |true=>
       refine Zak (ps':=[]) H.hE 1 (.c (.cond x a b)::_) _ [] (by simp only[run,hl,if_true,am];rfl) (by simp) (s (.c (2::p) a::pre) T ⟨?_,E⟩ y h);simp only[atP,J]
      |false=>
       refine Zak (ps':=[]) H.hE 1 (.c (.cond x a b)::_) _ [] (by simp only[run,hl,if_true,am];rfl) (by simp) (s (.c (3::p) b::pre) T ⟨?_,E⟩ y h);simp only[atP,J]
     |exit id=>
      simp only at h;split at h
      ·rename_i V hp;obtain⟨q1,q2⟩:=Z9 (root:=root) (base:=base) hp;refine Zak (ps':=[]) H.hE 1 (.c (.exit id)::_) _ [] (by have O:Zaj id ((List.map TI'.conc pre).append base)=some (V.map TI'.conc++base):=q1 base;simp only[run,O]) (by simp) (s V T (q2 E) y h)
      ·rename_i hp;split at h;rotate_left;simp at h;rename_i x O;have B:=List.mem_of_find?_eq_some O;have ah:x.1=id:=by have:=List.find?_some O;simpa using this
       obtain⟨k,hk,N⟩:=H.exits x B;have:=ZdR H y N h;have O:Zaj id ((List.map TI'.conc pre).append base)=some k:=by rw[<-hk,ah];exact ZbG hp base
       exact Zak (ps':=[]) H.hE 1 (.c (.exit id)::_) _ [] (by simp only[run,O]) (by simp) this
     |ret=>
      simp only[ZkG]at h;split at h;rotate_left;simp at h;rename_i t R;obtain⟨ps,q1,q2⟩:=ZkZ H.hU H.hX y R;exact Zl4 _ ps P.rms P.lent H.hE (by rw[H.hCE,H.rs];exact q1) (H.ret t h) (ZfH q2) H.ds
     |_=>simp at h
  ·simp only[evl]at h;split at h
   ·rename_i hn;split at h;rotate_left;simp at h;rename_i f;simp only[Zmt,decide_eq_true_eq]at f;exact dw_end f.2 f.1 (s pre T.next hw y.next h)
   ·rename_i o M;obtain⟨g,Q,h⟩:=Zgk h;cases g with
    |true=>
     simp only at h;obtain⟨e,ae,G,af⟩:=Zhw H y Q h;split at G;rotate_left;simp at G;rename_i f;simp only[Zmt]at f;obtain⟨cs,Y⟩:=af f.1;have ab:fresh T z.length e=true:=by have:=f.1;simp only[okE,Zmt]at this;exact this.1
     have:=W pre _ ops _ hw (y.app ab ae) G;rw[Zbb T z.length o.dst e cs]at this;refine dw_op M ⟨Y, ?_,rfl,f.2⟩ this;simp[fpT,Zh.enc,List.map_map,Function.comp_def]
    |false=>
     simp only at h;split at h;rotate_left;simp at h;rename_i K;simp only[Zmt]at K;have e0:ZJ T z.length {val:=(.undef:TV U)}:=ZJ.pure (Zf rfl);have:=W pre _ ops _ hw (y.app rfl e0) h;rw[Zbb T z.length o.dst _ []]at this;exact dw_op M ⟨.skip Q (by rw[H.hCE];exact K.1),rfl,rfl,K.2⟩ this
end
end
end Eng
namespace Eng
open Go
inductive Sh1 where
 |v (t:Ty) |pp (t:Ty) |full (id:Id) |sl (id:Id) |ptr (id:Id) (i j:Nat) |ptrI (id:Id) (j:Nat)
 |map (id:Id) |it (id:Id) |nilp |nilfn |undef |nils (t:Ty) |clip (t:Ty)
inductive Sh where
 |o (s:Sh1) |agg (l:List Sh1) |fn (f:Nat) (a b:List Sh1)
inductive ShO where
 |box (l:List Sh) |boxS (t:Ty) |arr (t:Ty) (fix:Bool) |map (k v:Ty) |sit |mit (k v:Ty)
abbrev Zmm (U:Zc):Sh1->Type
 | .v t=>El U.car t
 | .pp t=>El U.car t
 | .full _=>Nat
 | .sl _=>Nat×Nat
 | .ptrI _ _=>Nat
 | .clip t=>List (El U.car t)
 |_=>Unit
abbrev ZgC (U:Zc):List Sh1->Type
 | []=>Unit
 |s::r=>Zmm U s×ZgC U r
abbrev Val (U:Zc):Sh->Type
 | .o s=>Zmm U s
 | .agg l=>ZgC U l
 | .fn _ a b=>ZgC U a×ZgC U b
abbrev Zb7 (U:Zc):List Sh->Type
 | []=>Unit
 |s::r=>Val U s×Zb7 U r
abbrev ValO (U:Zc):ShO->Type
 | .box l=>Zb7 U l
 | .boxS t=>El U.car t
 | .arr t _=>List (El U.car t)
 | .map k v=>List (El U.car k×El U.car v)
 | .sit=>List UInt8×Nat
 | .mit k v=>List (El U.car k×El U.car v)×Option (El U.car k×El U.car v)
abbrev Zaf (U:Zc):List ShO->Type
 | []=>Unit
 |s::r=>ValO U s×Zaf U r
section
variable {U:Zc}
def bld1:(s:Sh1)->Zmm U s->TV U
 | .v t,x=> .v t x
 | .pp t,x=> .pp (U.cellsE t x)
 | .full id,n=> .full id n
 | .sl id,p=> .sl id p.1 p.2
 | .ptr id i j,_=> .ptr id i j
 | .ptrI id j,i=> .ptr id i j
 | .map id,_=> .map id
 | .it id,_=> .it id
 | .nilp,_=> .nilp
 | .nilfn,_=> .nilfn
 | .undef,_=> .undef
 | .nils t,_=> .nils t
 | .clip t,xs=> .clip t xs
def ZiR:(l:List Sh1)->ZgC U l->List (TV U)
 | [],_=>[]
 |s::r,v=>bld1 s v.1::ZiR r v.2
def bld:(s:Sh)->Val U s->TV U
 | .o s,x=>bld1 s x
 | .agg l,x=> .agg (ZiR l x)
 | .fn f a b,x=> .fn f (ZiR a x.1) (ZiR b x.2)
def Zmk:(l:List Sh)->Zb7 U l->List (TV U)
 | [],_=>[]
 |s::r,v=>bld s v.1::Zmk r v.2
def bldO:(s:ShO)->ValO U s->TO U
 | .box l,x=> .box (Zmk l x)
 | .boxS t,x=> .box ((U.cellsE t x).map lv)
 | .arr t fix,xs=> .arr t xs fix
 | .map k v,kv=> .map k v kv
 | .sit,p=> .sit p.1 p.2
 | .mit k v,p=> .mit k v p.1 p.2
def Zj1:(l:List ShO)->Zaf U l->List (TO U)
 | [],_=>[]
 |s::r,v=>bldO s v.1::Zj1 r v.2
def mat1:(s:Sh1)->TV U->Option (Zmm U s)
 | .v t,.v t' x=>if h:t'=t then some (h▸x)else none
 | .pp t,.pp cs=>U.ofE t cs
 | .full id,.full id' n=>if id'=id then some n else none
 | .sl id,.sl id' o l=>if id'=id then some (o,l)else none
 | .ptr id i j,.ptr id' i' j'=>if id'=id/\i'=i/\j'=j then some ()else none
 | .ptrI id j,.ptr id' i j'=>if id'=id/\j'=j then some i else none
 | .map id,.map id'=>if id'=id then some ()else none
 | .it id,.it id'=>if id'=id then some ()else none
 | .nilp,.nilp=>some ()
 | .nilfn,.nilfn=>some ()
 | .undef,.undef=>some ()
 | .nils t,.nils t'=>if t'=t then some ()else none
 | .clip t,.clip t' xs=>if h:t'=t then some (h▸xs)else none
 |_,_=>none
def Zf9:(l:List Sh1)->List (TV U)->Option (ZgC U l)
 | [],[]=>some ()
 |s::r,d::ds=>match mat1 s d,Zf9 r ds with
  |some x,some y=>some (x,y)
  |_,_=>none
 |_,_=>none
def mat:(s:Sh)->TV U->Option (Val U s)
 | .o s,d=>mat1 s d
 | .agg l,.agg cs=>Zf9 l cs
 | .fn f a b,.fn f' x y=>if f'=f then match Zf9 a x,Zf9 b y with
  |some p,some q=>some (p,q)
  |_,_=>none
  else none
 |_,_=>none
def ZlI:(l:List Sh)->List (TV U)->Option (Zb7 U l)
 | [],[]=>some ()
 |s::r,d::ds=>match mat s d,ZlI r ds with
  |some x,some y=>some (x,y)
  |_,_=>none
 |_,_=>none
def matO:(s:ShO)->TO U->Option (ValO U s)
 | .box l,.box cs=>ZlI l cs
 | .boxS t,.box cs=>match Zm TV.leaf? cs with
  |some a=>U.ofE t a
  |none=>none
 | .arr t fix,.arr t' xs fix'=>if h:t'=t then if fix'=fix then some (h▸xs)else none else none
 | .map k v,.map k' v' kv=>if h:k'=k then if h':v'=v then some (h▸h'▸kv)else none else none
 | .sit,.sit s p=>some (s,p)
 | .mit k v,.mit k' v' r c=>if h:k'=k then if h':v'=v then some (h▸h'▸(r,c))else none else none
 |_,_=>none
def Ziq:(l:List ShO)->List (TO U)->Option (Zaf U l)
 | [],[]=>some ()
 |s::r,d::ds=>match matO s d,Ziq r ds with
  |some x,some y=>some (x,y)
  |_,_=>none
 |_,_=>none
theorem ZhJ (b:UOk U) {s:Sh1} {d:TV U} {x:Zmm U s} (h:mat1 s d=some x):d=bld1 s x:=by
 unfold mat1 at h;split at h
 ·split at h;rotate_left;simp at h;rename_i a;subst a;cases h;rfl
 ·have:=ZaC b h;rw[bld1,this]
 ·split at h;rotate_left;simp at h;rename_i a;subst a;cases h;rfl
 ·split at h;rotate_left;simp at h;rename_i a;subst a;cases h;rfl
 ·split at h;rotate_left;simp at h;rename_i a;obtain⟨rfl,rfl,rfl⟩:=a;rfl
 ·split at h;rotate_left;simp at h;rename_i a;obtain⟨rfl,rfl⟩:=a;cases h;rfl
 ·split at h;rotate_left;simp at h;rename_i a;subst a;rfl
 ·split at h;rotate_left;simp at h;rename_i a;subst a;rfl
 ·rfl
 ·rfl
 ·rfl
 ·split at h;rotate_left;simp at h;rename_i a;subst a;rfl
 ·split at h;rotate_left;simp at h;rename_i a;subst a;cases h;rfl
 ·simp at h
theorem ZbE (e:UOk U):∀{l:List Sh1} {c:List (TV U)} {x:ZgC U l},Zf9 l c=some x->c=ZiR l x
 | [],[],x,h=>rfl
 | [],_::_,x,h=>by simp[Zf9]at h
 |_::_,[],x,h=>by simp[Zf9]at h
 |s::r,d::c,x,h=>by simp only[Zf9]at h;split at h;rotate_left;simp at h;rename_i a b f g;cases h;rw[ZiR,<-ZhJ e f,<-ZbE e g]
theorem ZlJ (a:UOk U) {s:Sh} {d:TV U} {x:Val U s} (h:mat s d=some x):d=bld s x:=by
 unfold mat at h;split at h
 ·exact ZhJ a h
 ·rw[bld,ZbE a h]
 ·split at h;rotate_left;simp at h;rename_i e;subst e;split at h;rotate_left;simp at h;rename_i p q b c;cases h;rw[bld,ZbE a b,ZbE a c]
 ·simp at h
theorem ZdF (e:UOk U):∀{l:List Sh} {c:List (TV U)} {x:Zb7 U l},ZlI l c=some x->c=Zmk l x
 | [],[],x,h=>rfl
 | [],_::_,x,h=>by simp[ZlI]at h
 |_::_,[],x,h=>by simp[ZlI]at h
 |s::r,d::c,x,h=>by simp only[ZlI]at h;split at h;rotate_left;simp at h;rename_i a b f g;cases h;rw[Zmk,<-ZlJ e f,<-ZdF e g]
theorem ZkC (e:UOk U) {s:ShO} {d:TO U} {x:ValO U s} (h:matO s d=some x):d=bldO s x:=by
 unfold matO at h;split at h
 ·rw[bldO,ZdF e h]
 ·split at h;rotate_left;simp at h;rename_i f c;rw[bldO,ZaC e h,Zcv c]
 ·split at h;rotate_left;simp at h;rename_i a;subst a;split at h;rotate_left;simp at h;rename_i b;subst b;cases h;rfl
 ·split at h;rotate_left;simp at h;rename_i a;subst a;split at h;rotate_left;simp at h;rename_i b;subst b;cases h;rfl
 ·cases h;rfl
 ·split at h;rotate_left;simp at h;rename_i a;subst a;split at h;rotate_left;simp at h;rename_i b;subst b;cases h;rfl
 ·simp at h
theorem ZeN (e:UOk U):∀{l:List ShO} {c:List (TO U)} {x:Zaf U l},Ziq l c=some x->c=Zj1 l x
 | [],[],x,h=>rfl
 | [],_::_,x,h=>by simp[Ziq]at h
 |_::_,[],x,h=>by simp[Ziq]at h
 |s::r,d::c,x,h=>by simp only[Ziq]at h;split at h;rotate_left;simp at h;rename_i a b f g;cases h;rw[Zj1,<-ZkC e f,<-ZeN e g]
structure FC (U:Zc) where
 X:ZG U
 fn:Func
 c:Code
 sigs:List (Nat×Zi1 U)
 lent:List Nat
 rms:List RM
 rhs:List (Option Nat)
 keep:List Nat:=[]
 alt:List (Nat×Nat):=[]
structure FOk (F:FC U):Prop where
 hU:UOk U
 hX:TOk F.X
 hE:Zk F.X.E
 mixed:F.X.prog.follows .mixedOrders=true
 sigs:∀x∈F.sigs,Zeg F.X.E x.1 x.2
structure Lp (U:Zc) (R:Type) where
 live:List Nat
 frz:List Nat
 shs:List Sh
 sho:List ShO
 f:Zb7 U shs->Zaf U sho->Option R
variable {R:Type}
def Lp.cut (L:Lp U R):Cut U R:=⟨L.live,L.frz,fun a os=>match ZlI L.shs a,Ziq L.sho os with
 |some v,some w=>L.f v w
 |_,_=>none⟩
def Lp.st (F:FC U) (L:Lp U R) (v:Zb7 U L.shs) (w:Zaf U L.sho):TS U:=mkC F.lent L.live (Zmk L.shs v) (Zj1 L.sho w)
def Pt (F:FC U) (RT:Ret) (k:List Item) (T:TS U):Prop:=
 ∀W Lt S0 a,AWP ⟨F.X.E,W,Lt,S0,a⟩ ⟨none,[]⟩ (Zih ⟨F.X.E,W,Lt,S0,a⟩ F.fn RT) k T.enc
def Zhq (F:FC U) (RT:Ret) (r:R) (L:Lp U R) (k:List Item):Prop:=∀v w,(L.st F v w).Inv->L.f v w=some r->Pt F RT k (L.st F v w)
def cutsOf (l:List (List Nat×Lp U R)):List (List Nat×Cut U R):=l.map fun x=>(x.1,x.2.cut)
def ZlT (l:List (Nat×Lp U R)):List (Nat×Cut U R):=l.map fun x=>(x.1,x.2.cut)
def Zh1:Option (Lp U R)->Option (Cut U R)
 |some L=>some L.cut
 |none=>none
def FC.par (F:FC U) (cuts:List (List Nat×Lp U R)) (back:Option (Lp U R)) (exits:List (Nat×Lp U R)) (ret:ZbA U->Option R):Par U R:=
 {X:=F.X,sigs:=F.sigs,cuts:=cutsOf cuts,back:=Zh1 back,exits:=ZlT exits,lent:=F.lent,rs:=F.fn.results.toList,rms:=F.rms,rhs:=F.rhs,ret:=ret,keep:=F.keep,alt:=F.alt}
def Zka (F:FC U) (p:List Nat):List Item:=match atP (F.c,[]) p with
 |some x=> .c x.1::x.2
 |none=>[]
def Zbc (F:FC U) (RT:Ret) (r:R):List (List Nat×Lp U R)->Prop
 | []=>True
 |x::l=>Zhq F RT r x.2 (Zka F x.1)/\Zbc F RT r l
def ZaP (F:FC U) (RT:Ret) (r:R) (base:List Item):List (Nat×Lp U R)->Prop
 | []=>True
 |x::l=>(∃k,Zaj x.1 base=some k/\Zhq F RT r x.2 k)/\ZaP F RT r base l
theorem Zhq.hcut {F:FC U} (c:UOk U) {RT:Ret} {r:R} {L:Lp U R} {k:List Item} (h:Zhq F RT r L k) {P:Par U R} (e:P.lent=F.lent) {W:World} {Lt S0:Nat->Prop} {a:Nat->Option Lay}:
  Hcut P ⟨F.X.E,W,Lt,S0,a⟩ ⟨none,[]⟩ F.fn RT r L.cut k:=by
 intro f os hi b;simp only[Lp.cut]at b;split at b;rotate_left;simp at b;rename_i v w i hw;have g:=ZdF c i;have d:=ZeN c hw;have:mkC P.lent L.cut.live f os=L.st F v w:=by rw[g,d,e];rfl
 rw[this]at hi|-
 exact h v w hi b W Lt S0 a
theorem Pt.evl {F:FC U} (b:FOk F) {RT:Ret} {r:R} (n:Nat) {cuts:List (List Nat×Lp U R)} {back:Option (Lp U R)} {exits:List (Nat×Lp U R)} {ret:ZbA U->Option R} {base:List Item} {pre:List TI'} {T:TS U}
  (v:T.Inv) (h:Eng.evl (F.par cuts back exits ret) n none pre T=some r) (hw:Wf (F.c,[]) base pre) (o:Zbc F RT r cuts) (s:∀L,back=some L->Zhq F RT r L base) (m:back=none->base=[])
  (p:ZaP F RT r base exits) (f:∀t,ret t=some r->t.enc=RT):Pt F RT (pre.map TI'.conc++base) T:=by
 intro W Lt S0 g;refine(ZlV (fm:=⟨none,[]⟩) (fn:=F.fn) (RT:=RT) (r:=r) (root:=(F.c,[])) (base:=base) (C:=⟨F.X.E,W,Lt,S0,g⟩) ?_ n).1 pre T hw v h;refine⟨b.hU,b.hX,b.hE,rfl,b.mixed,rfl,rfl,b.sigs,fun x e c k i=> ?_,fun c d=> ?_,fun w=> ?_,fun x e=> ?_,f⟩
 ·obtain⟨y,a,rfl⟩:=List.mem_map.1 e;have:Zhq F RT r y.2 (Zka F y.1):=by
   clear h e i
   induction cuts with
   |nil=>simp at a
   |cons z l j=>
    rcases ZmF.1 a with rfl |a
    ·exact o.1
    ·exact j o.2 a
  rw[show Zka F y.1= .c c::k by unfold Zka;rw[show atP (F.c,[]) y.1=some (c,k)from i]]at this;exact this.hcut b.hU rfl
 ·cases back with
  |none=>simp[FC.par,Zh1]at d
  |some L=>
   simp only[FC.par,Zh1,ZmR]at d;subst d;exact(s L rfl).hcut b.hU rfl
 ·cases back with
  |none=>exact m rfl
  |some L=>simp[FC.par,Zh1]at w
 ·obtain⟨y,a,rfl⟩:=List.mem_map.1 e;have:∃k,Zaj y.1 base=some k/\Zhq F RT r y.2 k:=by
   clear h e
   induction exits with
   |nil=>simp at a
   |cons z l j=>
    rcases ZmF.1 a with rfl |a
    ·exact p.1
    ·exact j p.2 a
  obtain⟨k,q,u⟩:=this;exact⟨k,q,u.hcut b.hU rfl⟩
theorem Pt.evlAt {F:FC U} (f:FOk F) {RT:Ret} {r:R} (n:Nat) {cuts:List (List Nat×Lp U R)} {back:Option (Lp U R)} {exits:List (Nat×Lp U R)} {ret:ZbA U->Option R} {base:List Item} {pre:List TI'} {T:TS U} {k:List Item}
  (c:k=pre.map TI'.conc++base) (e:T.Inv) (h:Eng.evl (F.par cuts back exits ret) n none pre T=some r) (hw:Wf (F.c,[]) base pre) (g:Zbc F RT r cuts) (d:∀L,back=some L->Zhq F RT r L base) (b:back=none->base=[])
  (i:ZaP F RT r base exits) (a:∀t,ret t=some r->t.enc=RT):Pt F RT k T:=c▸Pt.evl f n e h hw g d b i a
theorem Pt.lp {F:FC U} (b:FOk F) {RT:Ret} {body:Code} {k:List Item} {T:TS U} (h:Pt F RT (.c body:: .lp body::k) T):Pt F RT (.lp body::k) T:=fun W Lt S0 a=>
 Zak (ps':=[]) b.hE 1 (.lp body::k) _ [] rfl (by simp) (h W Lt S0 a)
theorem Pt.loop {F:FC U} (b:FOk F) {RT:Ret} {body:Code} {k:List Item} {T:TS U} (h:Pt F RT (.c body:: .lp body::k) T):Pt F RT (.c (.loop body)::k) T:=fun W Lt S0 a=>
 Zak (ps':=[]) b.hE 1 (.c (.loop body)::k) _ [] rfl (by simp) (h W Lt S0 a)
theorem ZlO {F:FC U} (d:FOk F) {RT:Ret} {r:R} (N:Nat) {q:List Nat} {body:Code} {k:List Item} {live frz:List Nat} {shs:List Sh} {sho:List ShO} (f:Nat->Zb7 U shs->Zaf U sho->Option R)
  {cuts:Nat->List (List Nat×Lp U R)} {exits:List (Nat×Lp U R)} {ret:ZbA U->Option R} (g:atP (F.c,[]) q=some (.loop body,k)) (l:∀v w,f 0 v w=none)
  (m:∀n v w,f (n+1) v w=evl (F.par (cuts n) (some ⟨live,frz,shs,sho,f n⟩) exits ret) N none [.c (5::q) body] (Lp.st F ⟨live,frz,shs,sho,f (n+1)⟩ v w))
  (p:∀n,Zhq F RT r ⟨live,frz,shs,sho,f n⟩ (.lp body::k)->Zbc F RT r (cuts n)) (s:ZaP F RT r (.lp body::k) exits) (b:∀t,ret t=some r->t.enc=RT):
  ∀n,Zhq F RT r ⟨live,frz,shs,sho,f n⟩ (Zka F q):=by
 have c:Zka F q= .c (.loop body)::k:=by unfold Zka;rw[g]
 rw[c];have key:∀n,Zhq F RT r ⟨live,frz,shs,sho,f n⟩ (.c body:: .lp body::k):=by
  intro n
  induction n with
  |zero=>intro v w _ h;rw[show (Lp.mk live frz shs sho (f 0)).f v w=f 0 v w from rfl,l]at h;simp at h
  |succ n i=>
   intro v w hi h;have e:f (n+1) v w=some r:=h;rw[m n v w]at e;have a:Zhq F RT r ⟨live,frz,shs,sho,f n⟩ (.lp body::k):=fun v w hi h=>(i v w hi h).lp d
   refine Pt.evl d N (base:= .lp body::k) hi e ⟨?_,trivial⟩ (p n a) (fun L j=> ?_) (fun o=>by simp at o) s b
   ·simp only[atP,g,List.map_nil,List.nil_append]
   ·cases j;exact a
 exact fun n v w hi h=>(key n v w hi h).loop d
inductive ShA where
 |p (t:Ty) |box (t:Ty) |arr (t:Ty) |map (k v:Ty) |ptr (t:Ty) |fn (f:Nat) (a b:List Sh1) |nilp |nilfn |part (t:Ty)
inductive ShR where
 |p (t:Ty) |own (t:Ty) |box (t:Ty) |map (k v:Ty) |view (k:Nat)
abbrev Zhp (U:Zc):Sh1->Type
 | .v t=>El U.car t
 | .pp t=>El U.car t
 |_=>Unit
abbrev Zcw (U:Zc):List Sh1->Type
 | []=>Unit
 |s::r=>Zhp U s×Zcw U r
abbrev Zlf (U:Zc):ShA->Type
 | .p t=>El U.car t
 | .box t=>El U.car t
 | .arr t=>List (El U.car t)
 | .map k v=>List (El U.car k×El U.car v)
 | .ptr t=>El U.car t
 | .fn _ a b=>Zcw U a×Zcw U b
 | .part t=>List (El U.car t)×Nat×Nat
 | .nilp=>Unit
 | .nilfn=>Unit
abbrev ZfI (U:Zc):List ShA->Type
 | []=>Unit
 |s::r=>Zlf U s×ZfI U r
abbrev Zma (U:Zc):ShR->Type
 | .p t=>El U.car t
 | .own t=>List (El U.car t)
 | .box t=>El U.car t
 | .map k v=>List (El U.car k×El U.car v)
 | .view _=>Nat×Nat
abbrev ZgB (U:Zc):List ShR->Type
 | []=>Unit
 |s::r=>Zma U s×ZgB U r
abbrev ZgA (U:Zc):List (Nat×ShA)->Type
 | []=>Unit
 |s::r=>Zlf U s.2×ZgA U r
def Zl2:(s:Sh1)->Zhp U s->TQ U
 | .v t,x=> .l ⟨t,x⟩
 | .pp t,x=> .ptr (U.cellsE t x)
 | .nilp,_=> .nilp
 |_,_=> .nilfn
def Zgt:(l:List Sh1)->Zcw U l->List (TQ U)
 | [],_=>[]
 |s::r,v=>Zl2 s v.1::Zgt r v.2
def Zml:(s:ShA)->Zlf U s->ZR U
 | .p t,x=> .p (.l ⟨t,x⟩)
 | .box t,x=> .box (U.cellsE t x)
 | .arr t,xs=> .arr t xs
 | .map k v,kv=> .map k v kv
 | .ptr t,x=> .p (.ptr (U.cellsE t x))
 | .fn f a b,x=> .p (.fn f (Zgt a x.1) (Zgt b x.2))
 | .nilp,_=> .p .nilp
 | .nilfn,_=> .p .nilfn
 | .part t,x=> .part t x.1 x.2.1 x.2.2
def Zdb:(l:List ShA)->ZfI U l->List (ZR U)
 | [],_=>[]
 |s::r,v=>Zml s v.1::Zdb r v.2
def bldR:(s:ShR)->Zma U s->TRV U
 | .p t,x=> .p ⟨t,x⟩
 | .own t,xs=> .own t xs
 | .box t,x=> .box (U.cellsE t x)
 | .map k v,kv=> .map k v kv
 | .view k,p=> .view k p.1 p.2
def ZkP:(l:List ShR)->ZgB U l->List (TRV U)
 | [],_=>[]
 |s::r,v=>bldR s v.1::ZkP r v.2
def ZkO:(l:List (Nat×ShA))->ZgA U l->List (Nat×ZR U)
 | [],_=>[]
 |s::r,v=>(s.1,Zml s.2 v.1)::ZkO r v.2
def ZlK:(s:Sh1)->TQ U->Option (Zhp U s)
 | .v t,.l x=>x.as t
 | .pp t,.ptr cs=>U.ofE t cs
 | .nilp,.nilp=>some ()
 | .nilfn,.nilfn=>some ()
 |_,_=>none
def ZdG:(l:List Sh1)->List (TQ U)->Option (Zcw U l)
 | [],[]=>some ()
 |s::r,d::ds=>match ZlK s d,ZdG r ds with
  |some x,some y=>some (x,y)
  |_,_=>none
 |_,_=>none
def matA:(s:ShA)->ZR U->Option (Zlf U s)
 | .p t,.p (.l x)=>x.as t
 | .box t,.box cs=>U.ofE t cs
 | .arr t,.arr t' xs=>if h:t'=t then some (h▸xs)else none
 | .map k v,.map k' v' kv=>if h:k'=k then if h':v'=v then some (h▸h'▸kv)else none else none
 | .ptr t,.p (.ptr cs)=>U.ofE t cs
 | .fn f a b,.p (.fn f' x y)=>if f'=f then match ZdG a x,ZdG b y with
  |some p,some q=>some (p,q)
  |_,_=>none
  else none
 | .nilp,.p .nilp=>some ()
 | .nilfn,.p .nilfn=>some ()
 | .part t,.part t' xs off len=>if h:t'=t then some (h▸xs,off,len)else none
 |_,_=>none
def Zir:(l:List ShA)->List (ZR U)->Option (ZfI U l)
 | [],[]=>some ()
 |s::r,d::ds=>match matA s d,Zir r ds with
  |some x,some y=>some (x,y)
  |_,_=>none
 |_,_=>none
def matR:(s:ShR)->TRV U->Option (Zma U s)
 | .p t,.p x=>x.as t
 | .own t,.own t' xs=>if h:t'=t then some (h▸xs)else none
 | .box t,.box cs=>U.ofE t cs
 | .map k v,.map k' v' kv=>if h:k'=k then if h':v'=v then some (h▸h'▸kv)else none else none
 | .view k,.view k' o l=>if k'=k then some (o,l)else none
 |_,_=>none
def Zip:(l:List ShR)->List (TRV U)->Option (ZgB U l)
 | [],[]=>some ()
 |s::r,d::ds=>match matR s d,Zip r ds with
  |some x,some y=>some (x,y)
  |_,_=>none
 |_,_=>none
def Zio:(l:List (Nat×ShA))->List (Nat×ZR U)->Option (ZgA U l)
 | [],[]=>some ()
 |s::r,d::ds=>if d.1=s.1 then match matA s.2 d.2,Zio r ds with
  |some x,some y=>some (x,y)
  |_,_=>none
  else none
 |_,_=>none
theorem Zjx (a:UOk U) {s:Sh1} {d:TQ U} {x:Zhp U s} (h:ZlK s d=some x):d=Zl2 s x:=by
 unfold ZlK at h;split at h
 ·rw[ZN h];rfl
 ·rw[Zl2,ZaC a h]
 ·rfl
 ·rfl
 ·simp at h
theorem Zb0 (e:UOk U):∀{l:List Sh1} {c:List (TQ U)} {x:Zcw U l},ZdG l c=some x->c=Zgt l x
 | [],[],x,h=>rfl
 | [],_::_,x,h=>by simp[ZdG]at h
 |_::_,[],x,h=>by simp[ZdG]at h
 |s::r,d::c,x,h=>by simp only[ZdG]at h;split at h;rotate_left;simp at h;rename_i a b f g;cases h;rw[Zgt,<-Zjx e f,<-Zb0 e g]
theorem ZhI (b:UOk U) {s:ShA} {d:ZR U} {x:Zlf U s} (h:matA s d=some x):d=Zml s x:=by
 unfold matA at h;split at h
 ·rw[ZN h];rfl
 ·rw[Zml,ZaC b h]
 ·split at h;rotate_left;simp at h;rename_i a;subst a;cases h;rfl
 ·split at h;rotate_left;simp at h;rename_i a;subst a;split at h;rotate_left;simp at h;rename_i f;subst f;cases h;rfl
 ·rw[Zml,ZaC b h]
 ·split at h;rotate_left;simp at h;rename_i a;subst a;split at h;rotate_left;simp at h;rename_i p q c e;cases h;rw[Zml,Zb0 b c,Zb0 b e]
 ·rfl
 ·rfl
 ·split at h;rotate_left;simp at h;rename_i a;subst a;cases h;rfl
 ·simp at h
theorem ZeO (e:UOk U):∀{l:List ShA} {c:List (ZR U)} {x:ZfI U l},Zir l c=some x->c=Zdb l x
 | [],[],x,h=>rfl
 | [],_::_,x,h=>by simp[Zir]at h
 |_::_,[],x,h=>by simp[Zir]at h
 |s::r,d::c,x,h=>by simp only[Zir]at h;split at h;rotate_left;simp at h;rename_i a b f g;cases h;rw[Zdb,<-ZhI e f,<-ZeO e g]
theorem ZkB (b:UOk U) {s:ShR} {d:TRV U} {x:Zma U s} (h:matR s d=some x):d=bldR s x:=by
 unfold matR at h;split at h
 ·rw[ZN h];rfl
 ·split at h;rotate_left;simp at h;rename_i a;subst a;cases h;rfl
 ·rw[bldR,ZaC b h]
 ·split at h;rotate_left;simp at h;rename_i a;subst a;split at h;rotate_left;simp at h;rename_i c;subst c;cases h;rfl
 ·split at h;rotate_left;simp at h;rename_i a;subst a;cases h;rfl
 ·simp at h
theorem ZeM (e:UOk U):∀{l:List ShR} {c:List (TRV U)} {x:ZgB U l},Zip l c=some x->c=ZkP l x
 | [],[],x,h=>rfl
 | [],_::_,x,h=>by simp[Zip]at h
 |_::_,[],x,h=>by simp[Zip]at h
 |s::r,d::c,x,h=>by simp only[Zip]at h;split at h;rotate_left;simp at h;rename_i a b f g;cases h;rw[ZkP,<-ZkB e f,<-ZeM e g]
theorem ZeL (e:UOk U):∀{l:List (Nat×ShA)} {c:List (Nat×ZR U)} {x:ZgA U l},Zio l c=some x->c=ZkO l x
 | [],[],x,h=>rfl
 | [],_::_,x,h=>by simp[Zio]at h
 |_::_,[],x,h=>by simp[Zio]at h
 |s::r,d::c,x,h=>by simp only[Zio]at h;split at h;rotate_left;simp at h;rename_i i;split at h;rotate_left;simp at h;rename_i a b f g;cases h;rw[ZkO,<-ZhI e f,<-ZeL e g,<-i]
structure RSh where
 rs:List ShR
 os:List (Nat×ShA)
abbrev ZkU (U:Zc) (S:RSh):Type:=ZgB U S.rs×ZgA U S.os
def RSh.bld (S:RSh) (v:ZkU U S):ZbA U:=⟨ZkP S.rs v.1,ZkO S.os v.2⟩
def RSh.mat (S:RSh) (t:ZbA U):Option (ZkU U S):=match Zip S.rs t.res,Zio S.os t.outs with
 |some x,some y=>some (x,y)
 |_,_=>none
def Zem {ρ:Type} (S:RSh) (g:ZkU U S->ρ) (t:ZbA U):Option ρ:=match S.mat t with
 |some v=>some (g v)
 |none=>none
theorem ZfX (f:UOk U) {ρ:Type} {S:RSh} {g:ZkU U S->ρ} {give:ρ->ZbA U} (i:∀v,give (g v)=S.bld v) {t:ZbA U} {r:ρ} (h:Zem S g t=some r):t.enc=(give r).enc:=by unfold Zem at h;split at h;rotate_left;simp at h;rename_i v c;cases h;unfold RSh.mat at c;split at c;rotate_left;simp at c;rename_i x y d e;cases c;rw[i];obtain⟨a,b⟩:=t;simp only at d e;rw[ZeM f d,ZeL f e];rfl
def ZR.d (k:Nat):ZR U->TV U
 | .p q=>q.tv
 | .box _=> .ptr (0,k,0) 0 0
 | .arr _ xs=> .full (0,k,0) xs.length
 | .map _ _ _=> .map (0,k,0)
 | .part _ _ a len=> .sl (0,k,0) a len
def Zcs:Nat->List (ZR U)->List (Nat×TV U)
 |_,[]=>[]
 |k,a::r=>(k,a.d k)::Zcs (k+1) r
def Zbz:Nat->List (ZR U)->List (Id×TO U)
 |_,[]=>[]
 |k,a::r=>match a.o with
  |some o=>((0,k,0),o)::Zbz (k+1) r
  |none=>Zbz (k+1) r
def Zj3 (args:List (ZR U)):TS U:=mkT 1 (Zcs 0 args) (Zbz 0 args)
theorem Ze8:∀(k:Nat) (c:List (ZR U)) (x:Nat),(Zal TV.dead (Zcs k c) x).enc=Zal D.dead (ZcT k (c.map ZR.enc)) x
 |k,[],x=>rfl
 |k,a::r,x=>by
  simp only[Zcs,ZmD,ZcT,Zal];split
  ·cases a with
   |p q=>exact(Zi5 q).1
   |box cs=>rfl
   |arr t xs=>simp only[ZR.d,TV.enc,ZR.enc,Arg.d,List.length_map]
   |map a b e=>rfl
   |part t xs d len=>rfl
  ·exact Ze8 (k+1) r x
theorem ZcS:∀(k:Nat) (b:List (ZR U)) (x:Id),Zik (Ze (Zbz k b) x)=Ze (Zdd k (b.map ZR.enc)) x
 |k,[],x=>rfl
 |k,a::r,x=>by
  simp only[Zbz,ZmD,Zdd];have:=Zh6 a;cases ha:a.o with
  |none=>rw[ha]at this;rw[<-this];exact ZcS (k+1) r x
  |some o=>
   rw[ha]at this;rw[<-this];simp only[Ze,show Zik (some o)=some o.enc from rfl]
   by_cases hx:x=(0,k,0)
   ·rw[if_pos hx,if_pos hx];rfl
   ·rw[if_neg hx,if_neg hx];exact ZcS (k+1) r x
theorem Zj2 (a:List (ZR U)):(Zj3 a).enc=Zew (a.map ZR.enc):=by
 refine ZfP ?_ ?_ rfl rfl
 ·funext x;exact Ze8 0 a x
 ·funext x;exact ZcS 0 a x
theorem Ze7:∀(n:Nat) (l:List (ZR U)) (k:Nat) (d:TV U),(k,d)∈Zcs n l->∃j x,l[j]? =some x/\k=n+j/\d=x.d (n+j)
 |n,[],k,d,h=>by simp[Zcs]at h
 |n,x::r,k,d,h=>by
  simp only[Zcs,ZmF,ZmS]at h;rcases h with ⟨rfl,rfl⟩ |h
  ·exact⟨0,x,rfl,by simp,by simp⟩
  ·obtain⟨j,y,a,c,b⟩:=Ze7 (n+1) r k d h;exact⟨j+1,y,by simpa using a,by omega,by rw[b];congr 1;omega⟩
theorem Ze5:∀(n:Nat) (l:List (ZR U)) (j:Nat) (x:ZR U) (o:TO U),l[j]? =some x->x.o=some o->Ze (Zbz n l) (0,n+j,0)=some o
 |n,[],j,x,o,h,_=>by simp at h
 |n,y::r,j,x,o,h,ho=>by
  cases j with
  |zero=>
   simp only[Zm6,ZmR]at h;subst h;simp only[Zbz,ho,Ze,Nat.add_zero,if_true]
  |succ j=>
   have:=Ze5 (n+1) r j x o (by simpa using h) ho;rw[show n+1+j=n+(j+1) by omega]at this;simp only[Zbz];split
   ·simp only[Ze];rw[if_neg (by simp only[ZmS,true_and,and_true];omega)];exact this
   ·exact this
theorem ZcR:∀(n:Nat) (l:List (ZR U)) (id:Id) (o:TO U),(id,o)∈Zbz n l->∃x∈l,x.o=some o
 |n,[],id,o,h=>by simp[Zbz]at h
 |n,x::r,id,o,h=>by
  simp only[Zbz]at h;split at h
  ·rename_i o' c;rcases ZmF.1 h with h |h
   ·simp only[ZmS]at h;exact⟨x,by simp,by rw[c,h.2]⟩
   ·obtain⟨y,a,b⟩:=ZcR (n+1) r id o h;exact⟨y,by simp[a],b⟩
  ·obtain⟨y,a,b⟩:=ZcR (n+1) r id o h;exact⟨y,by simp[a],b⟩
theorem Zgw (c:List (ZR U)):(Zj3 c).Inv:=by
 constructor
 ·intro k;show TV.inv _ (Zal TV.dead (Zcs 0 c) k);rcases ZaG TV.dead (Zcs 0 c) k with e |e
  ·rw[e];exact Zf rfl
  ·obtain⟨j,x,m,v,h⟩:=Ze7 0 c k _ e;rw[h];cases x with
   |p q=>exact Zf (Zi5 q).2
   |box cs=>exact Zf rfl
   |map a b y=>exact Zf rfl
   |part t xs r len=>exact Zf rfl
   |arr t xs=>
    intro q e;simp only[ZR.d,TV.fulls,List.mem_singleton]at e;subst e;exact⟨.arr t xs false,Ze5 0 c j _ _ m rfl,fun w i g s=>by cases s;rfl⟩
 ·intro id o n;obtain⟨x,_,f⟩:=ZcR 0 c id o (ZY n);cases x<;>simp only[ZR.o,ZmR,reduceCtorEq]at f<;>subst f
  ·intro d u;obtain⟨l,_,rfl⟩:=List.mem_map.1 u;exact Zah _ _
  ·trivial
  ·trivial
  ·trivial
theorem Zgl {X0:ZG U} {F:FC U} {f:Nat} {args:List (ZR U)} {RT:Ret} (hX:F.X=X0.at F.fn.ntmps) (hf:X0.prog.funcs[f]? =some F.fn) (hn:(F.fn.name == "runtime.NumGoroutine")=false) (hb:F.fn.body=some F.c) (hl:args.length<=F.fn.ntmps)
  (h:Pt F RT [.c F.c] (Zj3 args)):Fun X0.E f (args.map ZR.enc) RT:=by
 refine Ziy (E:=X0.E) hf hn hb (by rw[List.length_map];exact hl) fun W Lt S0 lays=> ?_
 have:=h W Lt S0 lays;rw[Zj2,hX]at this;exact this
structure Zj9 (U:Zc) where
 ρ:Type
 pts:List Nat
 ms:List AM
 hs:List (Option Nat)
 as:List ShA
 s:ZfI U as->Option ρ
 give:ρ->ZbA U
def Zj9.sig (S:Zj9 U):Zi1 U:=⟨S.pts,S.ms,S.hs,fun args=>match Zir S.as args with
 |some v=>some ⟨S.ρ,S.s v,S.give⟩
 |none=>none⟩
theorem Zj9.ok {S:Zj9 U} (d:UOk U) {E:Env} {f:Nat} (h:∀v r,S.s v=some r->Fun E f ((Zdb S.as v).map ZR.enc) (S.give r).enc/\Zeh (Zdb S.as v) (S.give r)):Zeg E f S.sig:=by intro args s b a c;simp only[Zj9.sig]at b;split at b;rotate_left;simp at b;rename_i v e;cases b;rw[ZeO d e];exact h v a c
theorem Zdx {args:List (ZR U)} {ret:ZbA U} (h:ret.outs.all (fun x=>x.2.len?.isNone)=true):Zeh args ret:=by intro k a n b c;have:=ZmX.1 h _ b;dsimp only at this;rw[c]at this;simp at this
end
end Eng
namespace Eng
open Go
section
variable {U:Zc}
def ttZ (o:Option (TT U)):Option (List D×List D×Option P×Option P):=match o with
 |some e=>some (TV.encs e.zero,e.ti.zero.map Z.toD,(match e.zl with |some l=>some (U.encL l) |none=>none),(match e.zl with |some _=>some e.ti.zeroP |none=>none))
 |none=>none
def ttZ' (o:Option (TT U)):Option (List D×List D×Option P×Option P):=match o with
 |some e=>some (e.ti.zero.map Z.toD,e.ti.zero.map Z.toD,(match e.zl with |some _=>some e.ti.zeroP |none=>none),(match e.zl with |some _=>some e.ti.zeroP |none=>none))
 |none=>none
def TV.plain:TV U->Bool
 | .v _ _ | .nilp | .nilfn | .nils _=>true
 |_=>false
def ttB (U:Zc) (o:Option (TT U)):Bool:=match o with
 |some e=>(e.ti.isAgg == e.n.isSome)&&(match e.n with |some n=>decide (e.ti.size=U.size n) |none=>true)&&e.zero.all TV.plain
 |none=>true
def ttK (X:ZG U):Nat->List (Option (TT U))->List (TD×TD)
 |_,[]=>[]
 |t,some e::r=>(match e.ty with | .map k _=>(X.E.keyTD t,k.td) |_=>(.other,.other))::ttK X (t+1) r
 |t,none::r=>(.other,.other)::ttK X (t+1) r
def Zll:List (Option (TT U))->List (TD×TD)
 | []=>[]
 |some e::r=>(match e.ty with | .map k _=>(k.td,k.td) |_=>(.other,.other))::Zll r
 |none::r=>(.other,.other)::Zll r
theorem Zi6 (X:ZG U):∀(l:List (Option (TT U))) (a:Nat),ttK X a l=Zll l->∀t e k v,l[t]? =some (some e)->e.ty= .map k v->X.E.keyTD (a+t)=k.td
 | [],a,_,t,e,k,v,h,_=>by simp at h
 |o::r,a,h,t,e,k,v,ht,hty=>by
  cases t with
  |zero=>
   simp only[Zm6,ZmR]at ht;subst ht;simp only[ttK,Zll,hty,List.cons.injEq,ZmS]at h;exact h.1.1
  |succ t=>
   have b:ttK X (a+1) r=Zll r:=by cases o<;>simp only[ttK,Zll,List.cons.injEq]at h<;>exact h.2
   have:=Zi6 X r (a+1) b t e k v (by simpa using ht) hty;rw[show a+(t+1)=a+1+t by omega];exact this
theorem tok_of {X:ZG U} (m:X.tt.map ttZ=X.tt.map ttZ') (i:X.tt.all (ttB U)=true) (g:ttK X 0 X.tt=Zll X.tt):TOk X:=by
 have a:∀{t e},X.get t=some e->X.tt[t]? =some (some e):=fun {t e} h=>by unfold ZG.get at h;split at h;rotate_left;simp at h;rename_i e' q;cases h;exact q
 have f:∀{t e},X.get t=some e->ttZ (some e)=ttZ' (some e):=fun {t e} h=>by have o:=congrArg (·[t]?) m;simpa[List.getElem?_map,a h]using o
 have c:∀{t e},X.get t=some e->ttB U (some e)=true:=fun {t e} h=>ZmX.1 i _ (List.mem_of_getElem? (a h))
 refine⟨fun t e h=> ?_,fun t e l h j=> ?_,fun t e h=> ?_,fun t e n h p=> ?_,fun t e k v h b=> ?_,fun t e h d r=> ?_⟩
 ·have:=f h;simp only[ttZ,ttZ',ZmR,ZmS]at this;exact this.1
 ·have:=f h;simp only[ttZ,ttZ',ZmR,ZmS,j]at this;exact this.2.2.1
 ·have:=c h;simp only[ttB,Zmt,beq_iff_eq]at this;exact this.1.1
 ·have:=c h;simp only[ttB,Zmt,p,decide_eq_true_eq]at this;exact this.1.2
 ·have:=Zi6 X X.tt 0 g t e k v (a h) b;rw[Nat.zero_add]at this;exact this
 ·have:=c h;simp only[ttB,Zmt,ZmX]at this;have:=this.2 d r;unfold TV.plain at this;split at this<;>first |rfl |simp at this
theorem TOk.at {X:ZG U} (h:TOk X) (n:Nat):TOk (X.at n):=⟨h.zero,h.zl,h.agg,h.size,h.key,h.inv⟩
theorem Zk.at {X:ZG U} (h:Zk X.E) (n:Nat):Zk (X.at n).E:=⟨h.tys⟩
theorem Zeg.at {X:ZG U} {g:Nat} {a:Zi1 U} (h:Zeg X.E g a) (n:Nat):Zeg (X.at n).E g a:=h
def ZcX (X:ZG U):List (Nat×Zi1 U)->Prop
 | []=>True
 |x::r=>Zeg X.E x.1 x.2/\ZcX X r
theorem Zef {X:ZG U}:∀{l:List (Nat×Zi1 U)},ZcX X l->∀x∈l,Zeg X.E x.1 x.2
 | [],_,x,h=>by simp at h
 |y::r,ha,x,h=>by
  rcases ZmF.1 h with rfl |h
  ·exact ha.1
  ·exact Zef ha.2 x h
theorem fok {X0:ZG U} {F:FC U} (g:UOk U) (d:TOk X0) (c:Zk X0.E) (e:X0.prog.follows .mixedOrders=true) (a:F.X=X0.at F.fn.ntmps) (f:ZcX X0 F.sigs):FOk F:=by
 refine⟨g, ?_, ?_, ?_, ?_⟩
 ·rw[a];exact d.at _
 ·rw[a];exact c.at _
 ·rw[a];exact e
 ·intro x b;rw[a];exact(Zef f x b).at _
def Zc4 (F:FC U) (p:List Nat):Code:=match atP (F.c,[]) p with |some x=>x.1 |none=> .skip
def tc (F:FC U) (p:List Nat):TI':= .c p (Zc4 F p)
def tc0 (F:FC U):TI':= .c [] F.c
end
theorem as_car {car:Nat->Type} {l:Lf car} {t:Ty} {x:El car t} (h:l.as t=some x):l=⟨t,x⟩:=by unfold Lf.as at h;split at h;rotate_left;simp at h;rename_i a;obtain⟨b,y⟩:=l;dsimp only at a;subst a;cases h;rfl
theorem Zl8 {car:Nat->Type} {t:Ty}:∀{cs:List (Lf car)} {l:List (El car t)},Zm (fun c=>c.as t) cs=some l->cs=l.map fun y=>⟨t,y⟩
 | [],l,h=>by simp only[Zm,ZmR]at h;subst h;rfl
 |c::cs,l,h=>by simp only[Zm]at h;split at h;rotate_left;simp at h;rename_i y d a b;cases h;rw[ZmD,<-Zl8 b,as_car a]
def andK (k:IntKind) (x y:Int):Int:=k.wrap (BitVec.ofInt k.bits x&&& BitVec.ofInt k.bits y).toNat
def orK (k:IntKind) (x y:Int):Int:=k.wrap (BitVec.ofInt k.bits x|||BitVec.ofInt k.bits y).toNat
def xorK (k:IntKind) (x y:Int):Int:=k.wrap (BitVec.ofInt k.bits x ^^^ BitVec.ofInt k.bits y).toNat
def shlK (k:IntKind) (x y:Int):Int:=k.wrap (x*2 ^ (min y.toNat k.bits))
def shrK (k:IntKind) (x y:Int):Int:=x.fdiv (2 ^ (min y.toNat k.bits))
def mkOk (a b:Int) (n:Nat):Bool:=decide (0<=a/\a<=b/\b*n<=ZO/\b<=ZO)
def inR (n m:Int):Bool:=decide (0<=n/\n < m)
end Eng
namespace Eng
open Go Go.RowKit
theorem Zi2.rfl' (w:World):Zi2 w w:=⟨.refl _,Nat.le_refl _,fun _ _=>rfl⟩
theorem Ze6:∀(n:Nat) (xs:List P) (k:Nat) (x:P),xs[k]? =some x->Zal D.dead (ZcT n (xs.map Arg.p)) (n+k)= .p x
 |n,[],k,x,h=>by simp at h
 |n,y::r,0,x,h=>by simp only[Zm6,ZmR]at h;subst h;simp[ZcT,Zal,Arg.d]
 |n,y::r,k+1,x,h=>by simp only[List.getElem?_cons_succ]at h;have:=Ze6 (n+1) r k x h;rw[Nat.add_right_comm,Nat.add_assoc]at this;simp only[ZmD,ZcT,Zal];rw[if_neg (by omega)];exact this
theorem Zh5 {xs:List P} {k:Nat} {x:P} (h:xs[k]? =some x):(Zew (xs.map Arg.p)).slots k= .p x:=by
 have:=Ze6 0 xs k x h
 rwa [Nat.zero_add]at this
theorem Zk7 {E:Env} {f:Nat} {xs:List P} {y:P} (hf:∃fn,E.prog.funcs[f]? =some fn/\(fn.name == "runtime.NumGoroutine")=false/\fn.body.isNone=false)
  (h:∀(w:World) (S:Nat->Prop) (vals:Array Value),vals.size=xs.length->(∀(k:Nat) v x,vals[k]? =some v->xs[k]? =some x->RelP w S v x)->
   (∀g cs,(g,cs)∈E.globs->Zej w S g cs)->
   CallsIn (Zcj none) 0 E.prog f vals w fun e w'=>∃v,e= .returned v/\Zi2 w w'/\RelP w' S v y):Fun E f (xs.map .p) ⟨[.p y],[]⟩:=by
 refine .inl ⟨hf,fun w Lt S lays ρ vals hv hrep=> ?_⟩;rw[List.length_map]at hv;refine CallsIn.mono (h w S vals hv ?_ hrep.glob) ?_
 ·intro k v x hk hx;have h1:=hrep.slots k;have e1:(Zew (xs.map Arg.p)).slots k= .p x:=Zh5 hx;rw[e1]at h1;have hlt:=(Zmp.1 hk).1;rw[show vals.getD k undef=v by simp[hk]]at h1;exact h1.of_p
 ·rintro e w' ⟨v,rfl,hk,hr⟩;have hK:Zcx S w w':=fun b _ hb=>hk.2.2 b hb
  refine⟨#[v],fun _=>none,S,rfl,rfl, ?_⟩;have ho:∀id,(ZcC ⟨[.p y],[]⟩).objs id=none:=fun id=>rfl
  exact {
   nt:=rfl
   grow:=hk.2.1
   frame:=fun b hb _=>hk.2.2 b hb
   s0:=fun _ h=>h
   sIn:=fun b hb=>Nat.lt_of_lt_of_le (hrep.sIn b hb) hk.2.1
   slots:=fun k=>by
    cases k with
    |zero=>exact .p _ _ hr
    |succ k=>exact .dead _
   objs:=fun id o h=>by rw[ho id]at h;cases h
   own:=fun id o L b h=>by rw[ho id]at h;cases h
   inj:=fun id o L id' o' L' b h=>by rw[ho id]at h;cases h
   known:=fun id h=>absurd (ho id) h
   young:=fun id h=>absurd rfl h
   fzk:=fun id h=>by cases h
   glob:=fun g cs hg=>(hrep.glob g cs hg).mono hK fun _ h=>h
   sOut:=fun b h=> .inl h
   ep1:=by show 1<=2;omega
   quiet:=hk.1
   lay:=fun k L h1 h2=>absurd rfl h2}
theorem ZlS {E:Env} {f:Nat} {xs:List P} {y z:P} (r:∃fn,E.prog.funcs[f]? =some fn/\fn.body.isNone=true)
  (h:∀(w:World) (S:Nat->Prop) (a:Array Value),a.size=xs.length->(∀(k:Nat) v x,a[k]? =some v->xs[k]? =some x->RelP w S v x)->
   ∃v u,(callFunc f a).run E.prog w= .ok (.value (.tuple #[v,u])) w/\RelP w S v y/\RelP w S u z):Fun E f (xs.map .p) ⟨[.p y,.p z],[]⟩:=by
 refine .inr ⟨r,fun w Lt S l ρ a m c=> ?_⟩;rw[List.length_map]at m;obtain⟨v,u,d,A,i⟩:=h w S a m (by
  intro k v x j n;have e:=c.slots k;have s:(Zew (xs.map Arg.p)).slots k= .p x:=Zh5 n;rw[s]at e;have q:=(Zmp.1 j).1;rw[show a.getD k undef=v by simp[j]]at e;exact e.of_p)
 refine⟨#[v,u],fun _=>none,S,w,d,rfl, ?_⟩;have g:∀id,(ZcC ⟨[.p y,.p z],[]⟩).objs id=none:=fun id=>rfl
 exact {
  nt:=rfl
  grow:=Nat.le_refl _
  frame:=fun b B _=>rfl
  s0:=fun _ h=>h
  sIn:=c.sIn
  slots:=fun k=>by
   match k with
   |0=>exact .p _ _ A
   |1=>exact .p _ _ i
   |k+2=>exact .dead _
  objs:=fun id o h=>by rw[g id]at h;cases h
  own:=fun id o L b h=>by rw[g id]at h;cases h
  inj:=fun id o L p o' L' b h=>by rw[g id]at h;cases h
  known:=fun id h=>absurd (g id) h
  young:=fun id h=>absurd rfl h
  fzk:=fun id h=>by cases h
  glob:=c.glob
  sOut:=fun b h=> .inl h
  ep1:=by show 1<=2;omega
  quiet:= .refl _
  lay:=fun k L e t=>absurd rfl t}
def ZhF {U:Zc} (args:List (ZR U)) (ret:ZbA U):Bool:=ret.outs.all fun x=>match x.2.len? with
 |some n=>(match args[x.1]? with
  |some a=>(match a.len? with
   |some m=>decide (n=m)
   |none=>false)
  |none=>false)
 |none=>true
theorem Zij {U:Zc} {args:List (ZR U)} {ret:ZbA U} (h:ZhF args ret=true):Zeh args ret:=by intro k a n c d;have:=ZmX.1 h _ c;dsimp only at this;rw[d]at this;dsimp only at this;split at this;rotate_left;simp at this;rename_i e f;split at this;rotate_left;simp at this;rename_i m b;exact⟨e,f,by rw[b,of_decide_eq_true this]⟩
theorem chkLen {a:Type} {o:Option a} {p:a->Bool} {r:a} (h:(o.bind fun r=>chk (p r) (some r))=some r):o=some r/\p r=true:=by
 cases o with
 |none=>simp at h
 |some x=>
  simp only[Option.bind_some]at h;unfold chk at h;cases hp:p x with
  |false=>rw[hp]at h;simp at h
  |true=>rw[hp]at h;simp only[cond_true,ZmR]at h;subst h;exact⟨rfl,hp⟩
section
variable {U:Zc}
theorem Pt.ev0 {F:FC U} (a:FOk F) {ρ:Type} {r:ρ} {S:RSh} {g:ZkU U S->ρ} {b:ρ->ZbA U} {cuts:List (List Nat×Lp U ρ)} {pre:List TI'} {T:TS U} {k:List Item}
  (f:k=pre.map TI'.conc++[]) (i:T.Inv) (h:Eng.evl (F.par cuts none [] (Zem S g)) 4000 none pre T=some r) (hw:Wf (F.c,[]) [] pre) (j:Zbc F (b r).enc r cuts) (c:∀v,b (g v)=S.bld v):Pt F (b r).enc k T:=
 Pt.evlAt a 4000 f i h hw j (fun _ e=>nomatch e) (fun _=>rfl) trivial (fun _ d=>ZfX a.hU c d)
end
end Eng
namespace Eng
open Go
abbrev HL:List Type->Type
 | []=>Unit
 |a::r=>a×HL r
abbrev HT:List Type->Type
 | []=>Unit
 | [a]=>a
 |a::b::r=>a×HT (b::r)
abbrev ZiX:List Type->Type->Type
 | [],X=>X
 |a::r,X=>a->ZiX r X
abbrev app {X:Type}:(ts:List Type)->ZiX ts X->HL ts->X
 | [],f,_=>f
 |_::r,f,v=>app r (f v.1) v.2
abbrev Zlm:(ts:List Type)->HL ts->HT ts
 | [],_=>()
 | [_],v=>v.1
 |_::b::r,v=>(v.1,Zlm (b::r) v.2)
abbrev ZlE:(ts:List Type)->HT ts->HL ts
 | [],_=>()
 | [_],x=>(x,())
 |_::b::r,x=>(x.1,ZlE (b::r) x.2)
theorem Zcc:∀(ts:List Type) (v:HL ts),ZlE ts (Zlm ts v)=v
 | [],_=>rfl
 | [_],_=>rfl
 |_::b::r,v=>by show (v.1,ZlE (b::r) (Zlm (b::r) v.2))=v;rw[Zcc (b::r) v.2]
abbrev unT {X:Type} (ts:List Type) (f:ZiX ts X) (x:HT ts):X:=app ts f (ZlE ts x)
section
variable (U:Zc)
abbrev lv1:Sh1->List Type->List Type
 | .v t,r=>El U.car t::r
 | .pp t,r=>El U.car t::r
 | .full _,r=>r
 | .sl _,r=>Nat::Nat::r
 | .ptr _ _ _,r=>r
 | .ptrI _ _,r=>Nat::r
 | .map _,r=>r
 | .it _,r=>r
 | .nilp,r=>r
 | .nilfn,r=>r
 | .undef,r=>r
 | .nils _,r=>r
 | .clip t,r=>List (El U.car t)::r
abbrev lvs1:List Sh1->List Type->List Type
 | [],r=>r
 |s::l,r=>lv1 U s (lvs1 l r)
abbrev lvS:Sh->List Type->List Type
 | .o s,r=>lv1 U s r
 | .agg l,r=>lvs1 U l r
 | .fn _ a b,r=>lvs1 U a (lvs1 U b r)
abbrev lvs:List Sh->List Type->List Type
 | [],r=>r
 |s::l,r=>lvS U s (lvs l r)
abbrev lvO:ShO->List Type->List Type
 | .box l,r=>lvs U l r
 | .boxS t,r=>El U.car t::r
 | .arr t _,r=>List (El U.car t)::r
 | .map k v,r=>List (El U.car k×El U.car v)::r
 | .sit,r=>List UInt8::Nat::r
 | .mit k v,r=>List (El U.car k×El U.car v)::Option (El U.car k×El U.car v)::r
abbrev lvsO:List ShO->List Type->List Type
 | [],r=>r
 |s::l,r=>lvO U s (lvsO l r)
abbrev lvQ:List Sh->List ShO->List Type:=fun shs sho=>lvs U shs (lvsO U sho [])
abbrev lq1:Sh1->List Type->List Type
 | .v t,r=>El U.car t::r
 | .pp t,r=>El U.car t::r
 | .full _,r=>r
 | .sl _,r=>r
 | .ptr _ _ _,r=>r
 | .ptrI _ _,r=>r
 | .map _,r=>r
 | .it _,r=>r
 | .nilp,r=>r
 | .nilfn,r=>r
 | .undef,r=>r
 | .nils _,r=>r
 | .clip _,r=>r
abbrev ZjA:List Sh1->List Type->List Type
 | [],r=>r
 |s::l,r=>lq1 U s (ZjA l r)
abbrev lvA:ShA->List Type->List Type
 | .p t,r=>El U.car t::r
 | .box t,r=>El U.car t::r
 | .arr t,r=>List (El U.car t)::r
 | .map k v,r=>List (El U.car k×El U.car v)::r
 | .ptr t,r=>El U.car t::r
 | .fn _ a b,r=>ZjA U a (ZjA U b r)
 | .nilp,r=>r
 | .nilfn,r=>r
 | .part t,r=>List (El U.car t)::Nat::Nat::r
abbrev Zjz:List ShA->List Type->List Type
 | [],r=>r
 |s::l,r=>lvA U s (Zjz l r)
abbrev lvR:ShR->List Type->List Type
 | .p t,r=>El U.car t::r
 | .own t,r=>List (El U.car t)::r
 | .box t,r=>El U.car t::r
 | .map k v,r=>List (El U.car k×El U.car v)::r
 | .view _,r=>Nat::Nat::r
abbrev ZlN:List ShR->List Type->List Type
 | [],r=>r
 |s::l,r=>lvR U s (ZlN l r)
abbrev ZlM:List (Nat×ShA)->List Type->List Type
 | [],r=>r
 |s::l,r=>lvA U s.2 (ZlM l r)
end
section
variable {U:Zc} {r:List Type}
abbrev fl1:(s:Sh1)->Zmm U s->HL r->HL (lv1 U s r)
 | .v _,x,y=>(x,y)
 | .pp _,x,y=>(x,y)
 | .full _,_,y=>y
 | .sl _,x,y=>(x.1,x.2,y)
 | .ptr _ _ _,_,y=>y
 | .ptrI _ _,x,y=>(x,y)
 | .map _,_,y=>y
 | .it _,_,y=>y
 | .nilp,_,y=>y
 | .nilfn,_,y=>y
 | .undef,_,y=>y
 | .nils _,_,y=>y
 | .clip _,x,y=>(x,y)
abbrev fls1:(l:List Sh1)->ZgC U l->HL r->HL (lvs1 U l r)
 | [],_,y=>y
 |s::l,x,y=>fl1 s x.1 (fls1 l x.2 y)
abbrev flS:(s:Sh)->Val U s->HL r->HL (lvS U s r)
 | .o s,x,y=>fl1 s x y
 | .agg l,x,y=>fls1 l x y
 | .fn _ a b,x,y=>fls1 a x.1 (fls1 b x.2 y)
abbrev fls:(l:List Sh)->Zb7 U l->HL r->HL (lvs U l r)
 | [],_,y=>y
 |s::l,x,y=>flS s x.1 (fls l x.2 y)
abbrev flO:(s:ShO)->ValO U s->HL r->HL (lvO U s r)
 | .box l,x,y=>fls l x y
 | .boxS _,x,y=>(x,y)
 | .arr _ _,x,y=>(x,y)
 | .map _ _,x,y=>(x,y)
 | .sit,x,y=>(x.1,x.2,y)
 | .mit _ _,x,y=>(x.1,x.2,y)
abbrev flsO:(l:List ShO)->Zaf U l->HL r->HL (lvsO U l r)
 | [],_,y=>y
 |s::l,x,y=>flO s x.1 (flsO l x.2 y)
abbrev flQ (shs:List Sh) (sho:List ShO) (v:Zb7 U shs) (w:Zaf U sho):HL (lvQ U shs sho):=fls shs v (flsO (r:=[]) sho w ())
abbrev unc {X:Type} (shs:List Sh) (sho:List ShO) (f:ZiX (lvQ U shs sho) X) (v:Zb7 U shs) (w:Zaf U sho):X:=app (lvQ U shs sho) f (flQ shs sho v w)
def fq1:(s:Sh1)->Zhp U s->HL r->HL (lq1 U s r)
 | .v _,x,y=>(x,y)
 | .pp _,x,y=>(x,y)
 | .full _,_,y=>y
 | .sl _,_,y=>y
 | .ptr _ _ _,_,y=>y
 | .ptrI _ _,_,y=>y
 | .map _,_,y=>y
 | .it _,_,y=>y
 | .nilp,_,y=>y
 | .nilfn,_,y=>y
 | .undef,_,y=>y
 | .nils _,_,y=>y
 | .clip _,_,y=>y
def fqs1:(l:List Sh1)->Zcw U l->HL r->HL (ZjA U l r)
 | [],_,y=>y
 |s::l,x,y=>fq1 s x.1 (fqs1 l x.2 y)
abbrev flA:(s:ShA)->Zlf U s->HL r->HL (lvA U s r)
 | .p _,x,y=>(x,y)
 | .box _,x,y=>(x,y)
 | .arr _,x,y=>(x,y)
 | .map _ _,x,y=>(x,y)
 | .ptr _,x,y=>(x,y)
 | .fn _ a b,x,y=>fqs1 a x.1 (fqs1 b x.2 y)
 | .nilp,_,y=>y
 | .nilfn,_,y=>y
 | .part _,x,y=>(x.1,x.2.1,x.2.2,y)
abbrev Zla:(l:List ShA)->ZfI U l->HL r->HL (Zjz U l r)
 | [],_,y=>y
 |s::l,x,y=>flA s x.1 (Zla l x.2 y)
abbrev flR:(s:ShR)->Zma U s->HL r->HL (lvR U s r)
 | .p _,x,y=>(x,y)
 | .own _,x,y=>(x,y)
 | .box _,x,y=>(x,y)
 | .map _ _,x,y=>(x,y)
 | .view _,x,y=>(x.1,x.2,y)
abbrev Zmi:(l:List ShR)->ZgB U l->HL r->HL (ZlN U l r)
 | [],_,y=>y
 |s::l,x,y=>flR s x.1 (Zmi l x.2 y)
abbrev Zk9:(l:List (Nat×ShA))->ZgA U l->HL r->HL (ZlM U l r)
 | [],_,y=>y
 |s::l,x,y=>flA s.2 x.1 (Zk9 l x.2 y)
def uq1:(s:Sh1)->HL (lq1 U s r)->Zhp U s×HL r
 | .v _,y=>y
 | .pp _,y=>y
 | .full _,y=>((),y)
 | .sl _,y=>((),y)
 | .ptr _ _ _,y=>((),y)
 | .ptrI _ _,y=>((),y)
 | .map _,y=>((),y)
 | .it _,y=>((),y)
 | .nilp,y=>((),y)
 | .nilfn,y=>((),y)
 | .undef,y=>((),y)
 | .nils _,y=>((),y)
 | .clip _,y=>((),y)
def Zkf:(l:List Sh1)->HL (ZjA U l r)->Zcw U l×HL r
 | [],y=>((),y)
 |s::l,y=>(((uq1 (r:=ZjA U l r) s y).1,(Zkf l (uq1 (r:=ZjA U l r) s y).2).1),(Zkf l (uq1 (r:=ZjA U l r) s y).2).2)
def uA:(s:ShA)->HL (lvA U s r)->Zlf U s×HL r
 | .p _,y=>y
 | .box _,y=>y
 | .arr _,y=>y
 | .map _ _,y=>y
 | .ptr _,y=>y
 | .fn _ a b,y=>(((Zkf (r:=ZjA U b r) a y).1,(Zkf b (Zkf (r:=ZjA U b r) a y).2).1),(Zkf b (Zkf (r:=ZjA U b r) a y).2).2)
 | .nilp,y=>((),y)
 | .nilfn,y=>((),y)
 | .part _,y=>((y.1,y.2.1,y.2.2.1),y.2.2.2)
def uR:(s:ShR)->HL (lvR U s r)->Zma U s×HL r
 | .p _,y=>y
 | .own _,y=>y
 | .box _,y=>y
 | .map _ _,y=>y
 | .view _,y=>((y.1,y.2.1),y.2.2)
def usR:(l:List ShR)->HL (ZlN U l r)->ZgB U l×HL r
 | [],y=>((),y)
 |s::l,y=>(((uR (r:=ZlN U l r) s y).1,(usR l (uR (r:=ZlN U l r) s y).2).1),(usR l (uR (r:=ZlN U l r) s y).2).2)
def usU:(l:List (Nat×ShA))->HL (ZlM U l r)->ZgA U l×HL r
 | [],y=>((),y)
 |s::l,y=>(((uA (r:=ZlM U l r) s.2 y).1,(usU l (uA (r:=ZlM U l r) s.2 y).2).1),(usU l (uA (r:=ZlM U l r) s.2 y).2).2)
theorem Zlk (s:Sh1) (x:Zhp U s) (y:HL r):uq1 s (fq1 s x y)=(x,y):=by cases s<;>rfl
theorem ZfL:∀(l:List Sh1) (x:Zcw U l) (y:HL r),Zkf l (fqs1 l x y)=(x,y)
 | [],_,_=>rfl
 |s::l,x,y=>by simp only[fqs1,Zkf,Zlk,ZfL l]
theorem uA_flA (s:ShA) (x:Zlf U s) (y:HL r):uA s (flA s x y)=(x,y):=by
 cases s with
 |fn f a b=>simp only[flA,uA,ZfL]
 |_=>rfl
theorem uR_flR (s:ShR) (x:Zma U s) (y:HL r):uR s (flR s x y)=(x,y):=by cases s<;>rfl
theorem Zhu:∀(l:List ShR) (x:ZgB U l) (y:HL r),usR l (Zmi l x y)=(x,y)
 | [],_,_=>rfl
 |s::l,x,y=>by simp only[Zmi,usR,uR_flR,Zhu l]
theorem Zht:∀(l:List (Nat×ShA)) (x:ZgA U l) (y:HL r),usU l (Zk9 l x y)=(x,y)
 | [],_,_=>rfl
 |s::l,x,y=>by simp only[Zk9,usU,uA_flA,Zht l]
end
def pthF:Nat->Nat->List Nat->List Nat
 |0,_,acc=>acc
 |k+1,n,acc=>bif Nat.beq n 9 then acc else pthF k (n / 10) (n % 10::acc)
def pth (n:Nat):List Nat:=pthF 1000 n []
section
variable {U:Zc}
def blkId:Code->Nat
 | .block id _=>id
 |_=>0
def ZdM:Code->Bool
 | .loop _=>true
 |_=>false
abbrev kOf (F:FC U) (a:List Nat):List Nat->List TI'
 | []=>[]
 |d::q=>bif (d::q) == a then []else match d with
  |0=>tc F (1::q)::kOf F a q
  |4=> .blk (blkId (Zc4 F q))::kOf F a q
  |_=>kOf F a q
def inP (a:List Nat):List Nat->Bool
 | []=>a.isEmpty
 |d::q=>bif (d::q) == a then true else (d != 5)&&inP a q
def chkP (F:FC U) (a p:List Nat):Bool:=(atP (F.c,[]) p).isSome&&inP a p
def ZfD (F:FC U) (a q:List Nat):Bool:=ZdM (Zc4 F q)&&inP a q
abbrev xpre (F:FC U) (b q:List Nat) (a:Nat):List TI':=(Zck a (kOf F b q)).getD []
def Zmj (F:FC U) (b q:List Nat) (a:Nat):Bool:=(Zck a (kOf F b q)).isSome
theorem Zbu {F:FC U} {p:List Nat} {c:Code} {k:List Item} (h:atP (F.c,[]) p=some (c,k)):Zc4 F p=c:=by unfold Zc4;rw[h]
theorem ZhO (F:FC U) {i:List Nat} {cb:Code} {base:List Item} (j:atP (F.c,[]) i=some (cb,base)):∀(p:List Nat),inP i p=true->∀c k,atP (F.c,[]) p=some (c,k)->
  k=(kOf F i p).map TI'.conc++base/\Wf (F.c,[]) base (kOf F i p)
 | [],h,c,k,hp=>by simp only[inP,List.isEmpty_iff]at h;subst h;rw[j]at hp;cases hp;exact⟨rfl,trivial⟩
 |d::q,h,c,k,hp=>by
  unfold inP at h;unfold kOf;cases he:((d::q) == i)with
  |true=>
   have:=eq_of_beq he;subst this;rw[j]at hp;cases hp;exact⟨rfl,trivial⟩
  |false=>
   rw[he]at h;simp only[cond_false,Zmt,bne_iff_ne,ne_eq]at h|-
   obtain⟨s,o⟩:=h;have r:=hp;unfold atP at hp;split at hp;rotate_left;simp at hp;rename_i n l e;obtain⟨f,g⟩:=ZhO F j q o n l e;split at hp
   ·simp only[ZmR,ZmS]at hp;obtain⟨rfl,rfl⟩:=hp;rename_i a b;have m:atP (F.c,[]) (1::q)=some (b,l):=by simp only[atP,e]
    simp only[ZmD,ZmZ,tc,TI'.conc,Zbu m];refine⟨by rw[<-f], ?_,g⟩;rw[m,f]
   ·simp only[ZmR,ZmS]at hp;obtain⟨rfl,rfl⟩:=hp;exact⟨f,g⟩
   ·simp only[ZmR,ZmS]at hp;obtain⟨rfl,rfl⟩:=hp;exact⟨f,g⟩
   ·simp only[ZmR,ZmS]at hp;obtain⟨rfl,rfl⟩:=hp;exact⟨f,g⟩
   ·simp only[ZmR,ZmS]at hp;obtain⟨rfl,rfl⟩:=hp;simp only[ZmD,ZmZ,TI'.conc,Zbu e,blkId];exact⟨by rw[<-f],g⟩
   ·exact absurd rfl s
   ·simp at hp
inductive CT (U:Zc) (ρ:Type):Type->Type 1
 |nil {R:Type}:CT U ρ R
 |j {R:Type} (p:Nat) (live frz:List Nat) (shs:List Sh) (sho:List ShO) (f:ZiX (lvQ U shs sho) (Option R)) (k:CT U ρ R):CT U ρ R
 |lo {R:Type} (q:Nat) (live frz:List Nat) (shs:List Sh) (sho:List ShO) (xid:Nat) (xlive xfrz:List Nat) (xshs:List Sh) (xsho:List ShO)
   (hd:Nat->ZiX (lvQ U shs sho) (Option (HT (lvQ U xshs xsho)))) (af:ZiX (lvQ U xshs xsho) (Option R)) (body:Nat->CT U ρ (HT (lvQ U xshs xsho))) (k:CT U ρ R):CT U ρ R
 |lr {R:Type} (q:Nat) (live frz:List Nat) (shs:List Sh) (sho:List ShO) (xid:Nat) (xlive xfrz:List Nat) (xshs:List Sh) (xsho:List ShO)
   (hd:Nat->ZiX (lvQ U shs sho) (Option (Out (HT (lvQ U xshs xsho)) ρ))) (af:ZiX (lvQ U xshs xsho) (Option R)) (body:Nat->CT U ρ (Out (HT (lvQ U xshs xsho)) ρ)) (k:CT U ρ R):CT U ρ R
 |lz {R:Type} (q:Nat) (live frz:List Nat) (shs:List Sh) (sho:List ShO)
   (hd:Nat->ZiX (lvQ U shs sho) (Option (Out Unit ρ))) (body:Nat->CT U ρ (Out Unit ρ)) (k:CT U ρ R):CT U ρ R
structure CC (U:Zc) (R:Type) where
 pb:List Nat
 back:Option (Lp U R)
 exits:List (Nat×Lp U R)
 ret:ZbA U->Option R
variable {ρ:Type}
abbrev outB {β R:Type} (c:ρ->Option R) (a:β->Option R):Out β ρ->Option R
 | .ret q=>c q
 | .brk b=>a b
abbrev CT.cuts:{R:Type}->CT U ρ R->(ρ->Option R)->List (List Nat×Lp U R)
 |_,.nil,_=>[]
 |_,.j p live frz shs sho f k,em=>(pth p,⟨live,frz,shs,sho,unc shs sho f⟩)::k.cuts em
 |_,.lo q live frz shs sho _ _ _ xshs xsho hd af _ k,em=>(pth q,⟨live,frz,shs,sho,fun v w=>(unc shs sho (hd big) v w).bind (unT (lvQ U xshs xsho) af)⟩)::k.cuts em
 |_,.lr q live frz shs sho _ _ _ xshs xsho hd af _ k,em=>(pth q,⟨live,frz,shs,sho,fun v w=>(unc shs sho (hd big) v w).bind (outB em (unT (lvQ U xshs xsho) af))⟩)::k.cuts em
 |_,.lz q live frz shs sho hd _ k,em=>(pth q,⟨live,frz,shs,sho,fun v w=>(unc shs sho (hd big) v w).bind (outB em fun _=>none)⟩)::k.cuts em
abbrev CT.Ty:{R:Type}->CT U ρ R->Type
 |_,.nil=>Unit
 |R,.j _ _ _ shs sho _ k=>Bool×(Zb7 U shs->Zaf U sho->Option R)×k.Ty
 |R,.lo _ _ _ shs sho _ _ _ xshs xsho _ _ body k=>Bool×(Zb7 U shs->Zaf U sho->Option (HT (lvQ U xshs xsho)))×(Nat->Zb7 U shs->Zaf U sho->Option (HT (lvQ U xshs xsho)))×((n:Nat)->(body n).Ty)×(Zb7 U xshs->Zaf U xsho->Option R)×k.Ty
 |R,.lr _ _ _ shs sho _ _ _ xshs xsho _ _ body k=>Bool×(Zb7 U shs->Zaf U sho->Option (Out (HT (lvQ U xshs xsho)) ρ))×(Nat->Zb7 U shs->Zaf U sho->Option (Out (HT (lvQ U xshs xsho)) ρ))×((n:Nat)->(body n).Ty)×(Zb7 U xshs->Zaf U xsho->Option R)×k.Ty
 |_,.lz _ _ _ shs sho _ body k=>Bool×(Zb7 U shs->Zaf U sho->Option (Out Unit ρ))×(Nat->Zb7 U shs->Zaf U sho->Option (Out Unit ρ))×((n:Nat)->(body n).Ty)×k.Ty
abbrev stC (F:FC U) (live:List Nat) (shs:List Sh) (sho:List ShO) (v:Zb7 U shs) (w:Zaf U sho):TS U:=mkC F.lent live (Zmk shs v) (Zj1 sho w)
abbrev ZcM (ret0:ZbA U->Option ρ) {X:Type} (b:ρ->Option X) (q:List Nat) (L:Lp U X) (a:List (Nat×Lp U X)):CC U X:=⟨5::q,some L,a,fun t=>(ret0 t).bind b⟩
abbrev lx (c d:List Nat) (a:List Sh) (b:List ShO) {X:Type} (m:HT (lvQ U a b)->X):Lp U X:=⟨c,d,a,b,fun v w=>some (m (Zlm (lvQ U a b) (flQ a b v w)))⟩
noncomputable abbrev evp (F:FC U) {R:Type} (C:CC U R) (cuts:List (List Nat×Lp U R)) (pre:List TI') (T:TS U):Option R:=evl (F.par cuts C.back C.exits C.ret) 4000 none pre T
noncomputable abbrev CT.lhs (F:FC U) (ret0:ZbA U->Option ρ):{R:Type}->(t:CT U ρ R)->CC U R->(ρ->Option R)->t.Ty
 |_,.nil,_,_=>()
 |_,.j p live _ shs sho _ k,C,em=>(chkP F C.pb (pth p),fun v w=>evp F C (k.cuts em) (tc F (pth p)::kOf F C.pb (pth p)) (stC F live shs sho v w),k.lhs F ret0 C em)
 |_,.lo q live frz shs sho xid xlive xfrz xshs xsho hd _ body k,C,em=>(ZfD F C.pb (pth q)&&Zmj F C.pb (pth q) xid,fun v w=>unc shs sho (hd 0) v w,
   fun n v w=>evp F (ZcM ret0 (fun _=>none) (pth q) ⟨live,frz,shs,sho,unc shs sho (hd n)⟩ [(xid,lx xlive xfrz xshs xsho id)]) ((body n).cuts fun _=>none) [tc F (5::pth q)] (stC F live shs sho v w),
   fun n=>(body n).lhs F ret0 (ZcM ret0 (fun _=>none) (pth q) ⟨live,frz,shs,sho,unc shs sho (hd n)⟩ [(xid,lx xlive xfrz xshs xsho id)]) fun _=>none,
   fun v w=>evp F C (k.cuts em) (xpre F C.pb (pth q) xid) (stC F xlive xshs xsho v w),k.lhs F ret0 C em)
 |_,.lr q live frz shs sho xid xlive xfrz xshs xsho hd _ body k,C,em=>(ZfD F C.pb (pth q)&&Zmj F C.pb (pth q) xid,fun v w=>unc shs sho (hd 0) v w,
   fun n v w=>evp F (ZcM ret0 (fun q=>some (.ret q)) (pth q) ⟨live,frz,shs,sho,unc shs sho (hd n)⟩ [(xid,lx xlive xfrz xshs xsho .brk)]) ((body n).cuts fun q=>some (.ret q)) [tc F (5::pth q)] (stC F live shs sho v w),
   fun n=>(body n).lhs F ret0 (ZcM ret0 (fun q=>some (.ret q)) (pth q) ⟨live,frz,shs,sho,unc shs sho (hd n)⟩ [(xid,lx xlive xfrz xshs xsho .brk)]) fun q=>some (.ret q),
   fun v w=>evp F C (k.cuts em) (xpre F C.pb (pth q) xid) (stC F xlive xshs xsho v w),k.lhs F ret0 C em)
 |_,.lz q live frz shs sho hd body k,C,em=>(ZfD F C.pb (pth q),fun v w=>unc shs sho (hd 0) v w,
   fun n v w=>evp F (ZcM ret0 (fun q=>some (.ret q)) (pth q) ⟨live,frz,shs,sho,unc shs sho (hd n)⟩ []) ((body n).cuts fun q=>some (.ret q)) [tc F (5::pth q)] (stC F live shs sho v w),
   fun n=>(body n).lhs F ret0 (ZcM ret0 (fun q=>some (.ret q)) (pth q) ⟨live,frz,shs,sho,unc shs sho (hd n)⟩ []) fun q=>some (.ret q),
   k.lhs F ret0 C em)
abbrev CT.rhs:{R:Type}->(t:CT U ρ R)->t.Ty
 |_,.nil=>()
 |_,.j _ _ _ shs sho f k=>(true,fun v w=>unc shs sho f v w,k.rhs)
 |_,.lo _ _ _ shs sho _ _ _ xshs xsho hd af body k=>(true,fun _ _=>none,fun n v w=>unc shs sho (hd (n+1)) v w,fun n=>(body n).rhs,fun v w=>unc xshs xsho af v w,k.rhs)
 |_,.lr _ _ _ shs sho _ _ _ xshs xsho hd af body k=>(true,fun _ _=>none,fun n v w=>unc shs sho (hd (n+1)) v w,fun n=>(body n).rhs,fun v w=>unc xshs xsho af v w,k.rhs)
 |_,.lz _ _ _ shs sho hd body k=>(true,fun _ _=>none,fun n v w=>unc shs sho (hd (n+1)) v w,fun n=>(body n).rhs,k.rhs)
variable {F:FC U}
theorem Zfq (i:FOk F) {X:Type} {RT:Ret} {x:X} {q live frz:List Nat} {shs:List Sh} {sho:List ShO} {a:Nat->ZiX (lvQ U shs sho) (Option X)} {cuts:Nat->List (List Nat×Lp U X)}
  {d:List (Nat×Lp U X)} {ret:ZbA U->Option X} {b:Code} {k:List Item} (e:atP (F.c,[]) q=some (.loop b,k)) (f:(fun v w=>unc shs sho (a 0) v w)=fun _ _=>none)
  (h:(fun n v w=>evp F (⟨5::q,some ⟨live,frz,shs,sho,unc shs sho (a n)⟩,d,ret⟩:CC U X) (cuts n) [tc F (5::q)] (stC F live shs sho v w))=fun n v w=>unc shs sho (a (n+1)) v w)
  (j:∀n,Zhq F RT x ⟨live,frz,shs,sho,unc shs sho (a n)⟩ (.lp b::k)->Zbc F RT x (cuts n)) (l:ZaP F RT x (.lp b::k) d) (c:∀t,ret t=some x->t.enc=RT) (n:Nat):
  Zhq F RT x ⟨live,frz,shs,sho,unc shs sho (a n)⟩ (Zka F q):=
 ZlO i 4000 (cuts:=cuts) (exits:=d) (ret:=ret) (fun n=>unc shs sho (a n)) e (fun v w=>congrFun (congrFun f v) w) (fun n v w=>by
  rw[<-congrFun (congrFun (congrFun h n) v) w];have g:atP (F.c,[]) (5::q)=some (b,.lp b::k):=by simp only[atP,e]
  unfold evp tc;rw[Zbu g];rfl) j l c n
theorem CT.ok (A:FOk F) {ret0:ZbA U->Option ρ}:∀{R:Type} (t:CT U ρ R) (C:CC U R) (g:ρ->Option R),(C.ret=fun t=>(ret0 t).bind g)->t.lhs F ret0 C g=t.rhs->∀{RT:Ret} {r:R} {cb:Code} {base:List Item},
  atP (F.c,[]) C.pb=some (cb,base)->(∀L,C.back=some L->Zhq F RT r L base)->(C.back=none->base=[])->ZaP F RT r base C.exits->(∀t,C.ret t=some r->t.enc=RT)->Zbc F RT r (t.cuts g)
 |_,.nil,_,_,_,_,_,_,_,_,_,_,_,_,_=>trivial
 |R,.j p live frz shs sho f k,C,g,hr,h,RT,r,cb,base,K,hk,hn,hx,ht=>by
  have h: @Eq (Bool×(Zb7 U shs->Zaf U sho->Option R)×k.Ty) (_,_,_) (_,_,_):=h;have G:chkP F C.pb (pth p)=true:=congrArg (fun x=>x.1) h;have O:=congrArg (fun x=>x.2.1) h;have Q:k.lhs F ret0 C g=k.rhs:=congrArg (fun x=>x.2.2) h;have J:=CT.ok A k C g hr Q K hk hn hx ht;refine⟨fun v w hi P=> ?_,J⟩;simp only[chkP,Zmt,Znz]at G;obtain⟨⟨⟨c,kk⟩,hp⟩,z⟩:=G;obtain⟨T,W⟩:=ZhO F K _ z _ _ hp;have e3:Zka F (pth p)=(tc F (pth p)::kOf F C.pb (pth p)).map TI'.conc++base:=by simp only[Zka,hp,tc,ZmD,TI'.conc,Zbu hp,ZmZ,T]
  refine Pt.evlAt A 4000 (cuts:=k.cuts g) (back:=C.back) (exits:=C.exits) (ret:=C.ret) (base:=base) (pre:=tc F (pth p)::kOf F C.pb (pth p)) e3 hi ?_ ?_ J hk hn hx ht
  ·exact(congrFun (congrFun O v) w).trans P
  ·exact⟨by rw[Zbu hp,hp,T],W⟩
 |R,.lo q live frz shs sho xid xlive xfrz a d hd af body k,C,g,hr,h,RT,r,cb,base,K,hk,hn,hx,ht=>by
  have h: @Eq (Bool×(Zb7 U shs->Zaf U sho->Option (HT (lvQ U a d)))×(Nat->Zb7 U shs->Zaf U sho->Option (HT (lvQ U a d)))×((n:Nat)->(body n).Ty)×(Zb7 U a->Zaf U d->Option R)×k.Ty) (_,_,_,_,_,_) (_,_,_,_,_,_):=h;have G:(ZfD F C.pb (pth q)&&Zmj F C.pb (pth q) xid)=true:=congrArg (fun x=>x.1) h;have O:=congrArg (fun x=>x.2.1) h;have Q:=congrArg (fun x=>x.2.2.1) h;have V:=congrArg (fun x=>x.2.2.2.1) h;have h5:=congrArg (fun x=>x.2.2.2.2.1) h;have h6:k.lhs F ret0 C g=k.rhs:=congrArg (fun x=>x.2.2.2.2.2) h;have J:=CT.ok A k C g hr h6 K hk hn hx ht;refine⟨fun v w hi P=> ?_,J⟩;obtain⟨x,D,l⟩:=bind_some P;simp only[ZfD,Zmj,Zmt,Znz]at G;obtain⟨⟨u,z⟩,m,e⟩:=G;have o:∃b i,atP (F.c,[]) (pth q)=some (.loop b,i):=by
   unfold Zc4 at u;split at u
   ·rename_i y M;obtain⟨c,i⟩:=y;cases c<;>simp only[ZdM,Zmu]at u;exact⟨_,_,M⟩
   ·simp[ZdM]at u
  obtain⟨b,i,o⟩:=o;obtain⟨T,W⟩:=ZhO F K _ z _ _ o;have E:atP (F.c,[]) (5::pth q)=some (b,.lp b::i):=by simp only[atP,o]
  have H:ZaP F RT x (.lp b::i) [(xid,lx xlive xfrz a d id)]:=by
   refine⟨⟨m.map TI'.conc++base, ?_,fun Y w' N h'=> ?_⟩,trivial⟩
   ·show Zaj xid i=_;rw[T];exact(Z9 (root:=(F.c,[])) (base:=base) e).1 base
   ·obtain rfl:Zlm _ (flQ a d Y w')=x:=Option.some.inj h';refine Pt.evlAt A 4000 (cuts:=k.cuts g) (back:=C.back) (exits:=C.exits) (ret:=C.ret) (base:=base) (pre:=m) rfl N ?_ ((Z9 e).2 W) J hk hn hx ht;have X:=congrFun (congrFun h5 Y) w';simp only[xpre,e,ZmO]at X;refine Eq.trans X ?_;simp only[unT,Zcc]at l;exact l
  exact Zfq A o O Q (fun n Z=>CT.ok A (body n) _ _ rfl (congrFun V n) E (fun L j=>by simp only[ZcM,ZmR]at j;subst j;exact Z) (fun B=>by simp[ZcM]at B) H (fun t s=>by simp[ZcM]at s)) H
   (fun t s=>by simp at s) big v w hi D
 |R,.lr q live frz shs sho xid xlive xfrz a d hd af body k,C,g,hr,h,RT,r,cb,base,K,hk,hn,hx,ht=>by
  have h: @Eq (Bool×(Zb7 U shs->Zaf U sho->Option (Out (HT (lvQ U a d)) ρ))×(Nat->Zb7 U shs->Zaf U sho->Option (Out (HT (lvQ U a d)) ρ))×((n:Nat)->(body n).Ty)×(Zb7 U a->Zaf U d->Option R)×k.Ty) (_,_,_,_,_,_) (_,_,_,_,_,_):=h;have G:(ZfD F C.pb (pth q)&&Zmj F C.pb (pth q) xid)=true:=congrArg (fun x=>x.1) h;have O:=congrArg (fun x=>x.2.1) h;have Q:=congrArg (fun x=>x.2.2.1) h;have V:=congrArg (fun x=>x.2.2.2.1) h;have h5:=congrArg (fun x=>x.2.2.2.2.1) h;have h6:k.lhs F ret0 C g=k.rhs:=congrArg (fun x=>x.2.2.2.2.2) h;have J:=CT.ok A k C g hr h6 K hk hn hx ht;refine⟨fun v w hi P=> ?_,J⟩;obtain⟨x,D,l⟩:=bind_some P;simp only[ZfD,Zmj,Zmt,Znz]at G;obtain⟨⟨u,z⟩,m,e⟩:=G;have o:∃b i,atP (F.c,[]) (pth q)=some (.loop b,i):=by
   unfold Zc4 at u;split at u
   ·rename_i y M;obtain⟨c,i⟩:=y;cases c<;>simp only[ZdM,Zmu]at u;exact⟨_,_,M⟩
   ·simp[ZdM]at u
  obtain⟨b,i,o⟩:=o;obtain⟨T,W⟩:=ZhO F K _ z _ _ o;have E:atP (F.c,[]) (5::pth q)=some (b,.lp b::i):=by simp only[atP,o]
  have H:ZaP F RT x (.lp b::i) [(xid,lx xlive xfrz a d .brk)]:=by
   refine⟨⟨m.map TI'.conc++base, ?_,fun Y w' N h'=> ?_⟩,trivial⟩
   ·show Zaj xid i=_;rw[T];exact(Z9 (root:=(F.c,[])) (base:=base) e).1 base
   ·obtain rfl:Out.brk (Zlm _ (flQ a d Y w'))=x:=Option.some.inj h';refine Pt.evlAt A 4000 (cuts:=k.cuts g) (back:=C.back) (exits:=C.exits) (ret:=C.ret) (base:=base) (pre:=m) rfl N ?_ ((Z9 e).2 W) J hk hn hx ht;have X:=congrFun (congrFun h5 Y) w';simp only[xpre,e,ZmO]at X;refine Eq.trans X ?_;simp only[outB,unT,Zcc]at l;exact l
  have I:∀t:ZbA U,((ret0 t).bind fun q=>some (Out.ret q))=some x->t.enc=RT:=fun t s=>by obtain⟨y,M,S⟩:=bind_some s;obtain rfl:=Option.some.inj S;refine ht t ?_;rw[hr];show (ret0 t).bind g=some r;rw[M];exact l
  exact Zfq A o O Q (fun n Z=>CT.ok A (body n) _ _ rfl (congrFun V n) E (fun L j=>by simp only[ZcM,ZmR]at j;subst j;exact Z) (fun B=>by simp[ZcM]at B) H I) H I big v w hi D
 |_,.lz q live frz shs sho hd body k,C,g,hr,h,RT,r,cb,base,K,hk,hn,hx,ht=>by
  have h: @Eq (Bool×(Zb7 U shs->Zaf U sho->Option (Out Unit ρ))×(Nat->Zb7 U shs->Zaf U sho->Option (Out Unit ρ))×((n:Nat)->(body n).Ty)×k.Ty) (_,_,_,_,_) (_,_,_,_,_):=h;have G:ZfD F C.pb (pth q)=true:=congrArg (fun x=>x.1) h;have O:=congrArg (fun x=>x.2.1) h;have Q:=congrArg (fun x=>x.2.2.1) h;have V:=congrArg (fun x=>x.2.2.2.1) h;have h6:k.lhs F ret0 C g=k.rhs:=congrArg (fun x=>x.2.2.2.2) h;have J:=CT.ok A k C g hr h6 K hk hn hx ht;refine⟨fun v w hi P=> ?_,J⟩;obtain⟨x,D,l⟩:=bind_some P;simp only[ZfD,Zmt]at G;obtain⟨u,z⟩:=G;have o:∃b i,atP (F.c,[]) (pth q)=some (.loop b,i):=by
   unfold Zc4 at u;split at u
   ·rename_i y M;obtain⟨c,i⟩:=y;cases c<;>simp only[ZdM,Zmu]at u;exact⟨_,_,M⟩
   ·simp[ZdM]at u
  obtain⟨b,i,o⟩:=o;have E:atP (F.c,[]) (5::pth q)=some (b,.lp b::i):=by simp only[atP,o]
  have I:∀t:ZbA U,((ret0 t).bind fun q=>some (Out.ret q))=some x->t.enc=RT:=fun t s=>by obtain⟨y,M,S⟩:=bind_some s;obtain rfl:=Option.some.inj S;refine ht t ?_;rw[hr];show (ret0 t).bind g=some r;rw[M];exact l
  exact Zfq A o O Q (fun n Z=>CT.ok A (body n) _ _ rfl (congrFun V n) E (fun L j=>by simp only[ZcM,ZmR]at j;subst j;exact Z) (fun B=>by simp[ZcM]at B) trivial I) trivial I big v w hi D
end
abbrev oTy (U:Zc) (os:List (Nat×ShA)) (a:List ShR):List Type:=ZlN U a (ZlM U os [])
def amOf:ShA->AM
 | .box _ | .arr _=> .lend
 | .part _=> .part
 |_=> .p
def ahOf:ShA->Option Nat
 | .p (.st n)=>some n
 |_=>none
def rmOf:ShR->RM
 | .p _=> .p
 | .own _=> .own
 | .box _=> .box
 | .map _ _=> .map
 | .view _=> .view
def rhOf:ShR->Option Nat
 | .p (.st n)=>some n
 |_=>none
def isAr:ShA->Bool
 | .arr _ | .part _=>true
 |_=>false
section
variable {U:Zc}
structure FD (U:Zc) where
 f:Nat
 fn:Func
 sigs:List (Nat×Zi1 U)
 as:List ShA
 os:List (Nat×ShA)
 rs:List ShR
 keep:List Nat
 alt:List (Nat×Nat)
 s:ZiX (Zjz U as []) (Option (HT (oTy U os rs)))
 w:ZiX (Zjz U as []) (Option (HT (oTy U os rs)))
 t:CT U (HT (oTy U os rs)) (HT (oTy U os rs))
namespace FD
variable (D:FD U)
abbrev rho:Type:=HT (oTy U D.os D.rs)
abbrev R:RSh:=⟨D.rs,D.os⟩
abbrev g (v:ZkU U D.R):D.rho:=Zlm (oTy U D.os D.rs) (Zmi D.rs v.1 (Zk9 (r:=[]) (D.os) v.2 ()))
abbrev b (x:D.rho):ZbA U:=D.R.bld ((usR D.rs (ZlE (oTy U D.os D.rs) x)).1,(usU (r:=[]) (D.os) (usR D.rs (ZlE (oTy U D.os D.rs) x)).2).1)
theorem b_g (v:ZkU U D.R):D.b (D.g v)=D.R.bld v:=by obtain⟨c,a⟩:=v;have e:ZlE (oTy U D.os D.rs) (D.g (c,a))=Zmi D.rs c (Zk9 (r:=[]) (D.os) a ()):=Zcc _ _;have d:usR D.rs (Zmi D.rs c (Zk9 (r:=[]) (D.os) a ()))=(c,Zk9 (r:=[]) (D.os) a ()):=Zhu _ _ _;have f:(usU (r:=[]) (D.os) (Zk9 (r:=[]) (D.os) a ())).1=a:=congrArg Prod.fst (Zht _ _ _);unfold b;rw[e,d];exact congrArg (fun x=>D.R.bld (c,x)) f
abbrev FS:Zj9 U:=⟨D.rho,D.fn.params.toList,D.as.map amOf,D.as.map ahOf,D.as,fun v=>app (Zjz U D.as []) D.w (Zla (r:=[]) D.as v ()),D.b⟩
abbrev sig:Zi1 U:=D.FS.sig
abbrev sg:Nat×Zi1 U:=(D.f,D.sig)
abbrev F (X0:ZG U):FC U:=⟨X0.at D.fn.ntmps,D.fn,Zlc D.fn,D.sigs,D.os.map (·.1),D.rs.map rmOf,D.rs.map rhOf,D.keep,D.alt⟩
abbrev C:CC U D.rho:=⟨[],none,[],Zem D.R D.g⟩
def chk0:Bool:= !(D.fn.name == "runtime.NumGoroutine")&&D.fn.body.isSome&&Nat.ble D.as.length D.fn.ntmps
abbrev Ty:Type:=Bool×(D.rho->Bool)×(ZfI U D.as->Option D.rho)×D.t.Ty
noncomputable abbrev lhs (X0:ZG U):D.Ty:=(D.chk0,fun r=>D.os.any (fun x=>isAr x.2)||(D.b r).outs.all (fun x=>x.2.len?.isNone),
 fun v=>evp (D.F X0) D.C (D.t.cuts some) [tc0 (D.F X0)] (Zj3 (Zdb D.as v)),D.t.lhs (D.F X0) (Zem D.R D.g) D.C some)
abbrev rhs:D.Ty:=(true,fun _=>true,fun v=>app (Zjz U D.as []) D.s (Zla (r:=[]) D.as v ()),D.t.rhs)
end FD
structure Gnd (X0:ZG U):Prop where
 hU:UOk U
 hX:TOk X0
 hE:Zk X0.E
 hm:X0.prog.follows .mixedOrders=true
theorem Zc5:∀(a:List ShA) (v:ZfI U a),(Zdb a v).length=a.length
 | [],_=>rfl
 |s::r,v=>by rw[Zdb,List.length_cons,List.length_cons,Zc5 r]
theorem FD.fun {X0:ZG U} (G:Gnd X0) (D:FD U) (p:X0.prog.funcs[D.f]? =some D.fn) (s:ZcX X0 D.sigs) (h:D.lhs X0=D.rhs):
  (∀v r,app (Zjz U D.as []) D.s (Zla (r:=[]) D.as v ())=some r->Fun X0.E D.f ((Zdb D.as v).map ZR.enc) (D.b r).enc)/\∀r,(D.os.any (fun x=>isAr x.2)||(D.b r).outs.all (fun x=>x.2.len?.isNone))=true:=by
 simp only[FD.lhs,FD.rhs,ZmS]at h;obtain⟨e,l,j,o⟩:=h;simp only[FD.chk0,Zmt,Bool.not_eq_true',Znz]at e;obtain⟨⟨u,c,i⟩,q⟩:=e;have f:FOk (D.F X0):=fok G.hU G.hX G.hE G.hm rfl s;have a:∀r,Zbc (D.F X0) (D.b r).enc r (D.t.cuts some):=fun r=>by
  have d:∀t,D.C.ret t=some r->t.enc=(D.b r).enc:=fun t k=>ZfX G.hU D.b_g k
  refine CT.ok f (ret0:=Zem D.R D.g) D.t D.C some (by funext t;simp[FD.C]) o (cb:=(D.F X0).c) (base:=[]) rfl (fun L m=>by simp[FD.C]at m) (fun _=>rfl) trivial d
 have n:D.fn.body=some (D.F X0).c:=by rw[i];simp only[FD.F,Zlc,i]
 exact⟨fun v r w=>Zgl (F:=D.F X0) rfl p u n (by rw[Zc5];exact Nat.le_of_ble_eq_true q)
   (Pt.ev0 f (b:=D.b) (S:=D.R) (g:=D.g) (pre:=[tc0 (D.F X0)]) rfl (Zgw _) ((congrFun j v).trans w) ⟨rfl,trivial⟩ (a r) D.b_g),fun r=>congrFun l r⟩
theorem FD.ok {X0:ZG U} (G:Gnd X0) (D:FD U) (g:X0.prog.funcs[D.f]? =some D.fn) (c:ZcX X0 D.sigs) (d:D.os.any (fun x=>isAr x.2)=false) (hw:D.w=D.s) (h:D.lhs X0=D.rhs):Zeg X0.E D.f D.sig:=by
 obtain⟨e,f⟩:=D.fun G g c h;refine Zj9.ok (S:=D.FS) G.hU fun v r a=> ?_
 have a:app (Zjz U D.as []) D.w (Zla (r:=[]) D.as v ())=some r:=a;rw[hw]at a;have b:=f r;rw[d,Bool.false_or]at b;exact⟨e v r a,Zdx b⟩
theorem FD.okA {X0:ZG U} (G:Gnd X0) (D:FD U) (f:X0.prog.funcs[D.f]? =some D.fn) (c:ZcX X0 D.sigs)
  (hw:(fun v=>app (Zjz U D.as []) D.w (Zla (r:=[]) D.as v ()))=fun v=>(app (Zjz U D.as []) D.s (Zla (r:=[]) D.as v ())).bind fun r=>chk (ZhF (Zdb D.as v) (D.b r)) (some r)) (h:D.lhs X0=D.rhs):Zeg X0.E D.f D.sig:=by
 obtain⟨d,g⟩:=D.fun G f c h;refine Zj9.ok (S:=D.FS) G.hU fun v r a=> ?_
 have a:app (Zjz U D.as []) D.w (Zla (r:=[]) D.as v ())=some r:=a;have b:=congrFun hw v;rw[a]at b;obtain⟨q1,e⟩:=chkLen b.symm;exact⟨d v r q1,Zij e⟩
end
end Eng
namespace Eng
open Go
section
variable {U:Zc}
def Ty.isSt:Ty->Bool
 | .st _=>true
 |_=>false
def Zmb (U:Zc):Prop:=∀n x,(U.cells n x).all (fun l=> !l.t.isSt)=true
def ZgG (w:World) (cs:List Value) (a:List (Lf U.car)):Prop:=
 cs.length=a.length/\∀(j:Nat) v l,cs[j]? =some v->a[j]? =some l->RelP w (fun b=>b < w.heap.size) v (U.encL l)
theorem ZgG.one {w:World} {v:Value} {l:Lf U.car} (h:RelP w (fun b=>b < w.heap.size) v (U.encL l)):ZgG (U:=U) w [v] [l]:=by
 refine⟨rfl,fun j d l' a c=> ?_⟩;cases j with
 |zero=>simp at a c;subst a;subst c;exact h
 |succ j=>simp at a
theorem ZgG.append {w:World} {cs cs':List Value} {d b:List (Lf U.car)} (h:ZgG w cs d) (e:ZgG w cs' b):ZgG w (cs++cs') (d++b):=by
 refine⟨by simp[h.1,e.1],fun j v l a c=> ?_⟩;rw[List.getElem?_append]at a c
 by_cases hj:j < cs.length
 ·rw[if_pos hj]at a;rw[if_pos (by rw[<-h.1];exact hj)]at c;exact h.2 j v l a c
 ·rw[if_neg hj]at a;rw[if_neg (by rw[<-h.1];exact hj),<-h.1]at c;exact e.2 _ v l a c
def Zke (T:Ty) (cs:List Value):Value:=if T.isSt then .agg cs.toArray else cs.headD Go.undef
theorem ZhL {w:World} {S:Nat->Prop} {v:Value} {l:Lf U.car} (b:l.t.isSt=false) (h:RelP w S v (U.encL l)):ZbO v/\v.cells= #[v]:=by
 obtain⟨t,x⟩:=l;generalize hz:U.encL ⟨t,x⟩=z at h;cases h with
 |agg vs cs a c h=>
  exfalso;cases t<;>first |(simp[Ty.isSt]at b;done) |(simp[Zc.encL,Zc.encE]at hz;done) |(cases x<;>simp[Zc.encL,Zc.encE,ZjM]at hz)
 |_=>exact⟨rfl,rfl⟩
theorem Zdg (o:UOk U) (p:Zmb U) {w:World} {T:Ty} {y:El U.car T} {cs:List Value} (h:ZgG w cs (U.cellsE T y)):
  RelP w (fun b=>b < w.heap.size) (Zke T cs) (U.encE T y)/\(Zke T cs).cells=cs.toArray:=by
 cases T with
 |st n=>
  refine⟨?_,rfl⟩;simp only[Zc.encE,o.enc_cells n y];show RelP w _ (.agg cs.toArray) _;have d:=p n y;rw[ZmX]at d;refine .agg _ _ (by have g:cs.length=(U.cells n y).length:=h.1;simpa using g) (fun i v j=> ?_) (fun i v c j e=> ?_)
  ·have a:cs[i]? =some v:=by simpa using j
   have hi:i < (U.cells n y).length:=by have:=(List.getElem?_eq_some_iff.1 a).1;have g:cs.length=(U.cells n y).length:=h.1;omega
   have f:(U.cells n y)[i]? =some (U.cells n y)[i]:=Zmz hi;exact(ZhL (by simpa using d _ (List.getElem_mem hi)) (h.2 i v _ a f)).1
  ·have a:cs[i]? =some v:=by simpa using j
   rw[List.getElem?_map]at e;cases f:(U.cells n y)[i]? with
   |none=>rw[f]at e;simp at e
   |some l=>
    rw[f]at e;simp only[Option.map_some,ZmR]at e;subst e;exact h.2 i v l a f
 |bool |int k |str |sl t |map k v |fnc=>
  obtain⟨g,m⟩:=h
  match cs,g with
  | [c],_=>
   have:=m 0 c _ rfl rfl;exact⟨this,(ZhL rfl this).2⟩
def Zei (P:Program) (U:Zc) (t:TypeId) (T:Ty):Prop:=
 ∀{H:Type} (enc:TypeId×Value->H) (w:World) (a:Nat) (cs:List Value) (x:DataW H×List MemPlace),DataW.trod enc P w 0 (fun _=>true) true a t cs=some x->
  (∀n∈x.1.weights P t,n<=reachBytes)->∃y:El U.car T,ZgG w cs (U.cellsE T y)
variable {P:Program}
theorem Zmh {t:TypeId} (c:P.underlying t=some .bool):Zei P U t .bool:=fun enc w a cs x h _=>by obtain⟨b,rfl,_⟩:=DataW.trod_bool c h;exact⟨b,.one (.bool b)⟩
theorem opens_int {t:TypeId} {k:IntKind} (b:P.underlying t=some (.int k)):Zei P U t (.int k):=fun enc w a cs x h _=>by obtain⟨n,rfl,_,hw⟩:=DataW.trod_int b h;simp only[Lit.wf,Zmt,decide_eq_true_eq]at hw;exact⟨n,.one (.int k n hw.1 hw.2)⟩
theorem opens_str {t:TypeId} (c:P.underlying t=some .string):Zei P U t .str:=fun enc w a cs x h _=>by obtain⟨⟨⟨l⟩⟩,rfl,_,b⟩:=DataW.trod_string c h;exact⟨l,.one (.str l b)⟩
theorem ZdY {b:Type} {R:Nat->b->Prop}:∀n,(∀i,i < n->∃y,R i y)->∃l:List b,l.length=n/\∀i y,l[i]? =some y->R i y
 |0,_=>⟨[],rfl,fun i y h=>by simp at h⟩
 |n+1,h=>by
  obtain⟨l,c,e⟩:=ZdY n fun i hi=>h i (by omega)
  obtain⟨y,d⟩:=h n (by omega);refine⟨l++[y],by simp[c],fun i z a=> ?_⟩;rw[List.getElem?_append]at a;split at a
  ·exact e i z a
  ·rename_i hi;have:i=n:=by have:=(List.getElem?_eq_some_iff.1 a).1;simp at this;omega
   subst this;simp[c]at a;subst a;exact d
theorem ZbP {H:Type} {P:Program} {e:TypeId}:∀{l:List (DataW H)} {d:DataW H},d∈l->∀n∈d.weights P e,n∈DataW.weightsAll P e l
 |x::r,d,a,n,hn=>by
  simp only[DataW.weightsAll,ZmE];rcases ZmF.1 a with rfl |a
  ·exact .inl hn
  ·exact .inr (ZbP a n hn)
theorem Zly (q:UOk U) (S:Zmb U) {t e:TypeId} {T:Ty} (L:P.underlying t=some (.slice e)) (O:P.cellsOf e=U.tsize T) (Z:0 < U.tsize T) (hb:1<=P.bytesOf e) (he:Zei P U e T):Zei P U t (.sl T):=fun enc w Y cs x h hw=>by
 rcases DataW.trod_slice L h with ⟨rfl,_⟩ |⟨a,len,cap,b,rest,n,_,rfl,rfl,_,hl,_,X,I,_,_⟩
 ·refine⟨[],.one ?_⟩;exact .sl none 0 0 _ _ (fun _=>Go.undef) rfl (by simp) (Nat.le_refl _) (fun i hi=>by omega) (fun i hi=>by omega) (fun i e h=>by simp at h)
 ·have J:len<=reachBytes:=by have:=hw ((b.length+rest.length)*P.bytesOf e) (by simp[DataW.weights,L]);have o:b.length*1<=(b.length+rest.length)*P.bytesOf e:=Nat.mul_le_mul (by omega) hb;omega
  have A:∀i,i < len->∃y:El U.car T,∃c,w.cells? 0 (a.add (i*P.cellsOf e)) (P.cellsOf e)=some c/\ZgG w c (U.cellsE T y):=fun i hi=>by
   obtain⟨F,B⟩:∃F,b[i]? =some F:=⟨_,Zmz (by omega)⟩;have o:=I i hi;rw[B]at o;obtain⟨c,G,R⟩:=Option.bind_eq_some_iff.1 o;obtain⟨y,E⟩:=he enc w n c F R fun m hm=>hw m (by
    simp only[DataW.weights,L,ZmF,ZmE];exact .inr (.inl (ZbP (List.mem_map.2 ⟨F,List.mem_of_getElem? B,rfl⟩) m hm)))
   exact⟨y,c,G,E⟩
  obtain⟨D,Q,E⟩:=ZdY len A;have l:∀i,i < len->∃y c,D[i]? =some y/\w.cells? 0 (a.add (i*P.cellsOf e)) (P.cellsOf e)=some c/\ZgG w c (U.cellsE T y):=fun i hi=>by obtain⟨y,d⟩:∃y,D[i]? =some y:=⟨_,Zmz (by omega)⟩;obtain⟨c,o,g⟩:=E i y d;exact⟨y,c,d,o,g⟩
  refine⟨D,.one ?_⟩;show RelP w _ (.slice (some a) len cap) (.sl (U.tsize T) (D.map (U.encE T)));refine .sl (some a) len cap _ _ (fun i=>Zke T ((w.cells? 0 (a.add (i*P.cellsOf e)) (P.cellsOf e)).getD [])) (by simp[Q]) (Nat.le_trans J (by decide)) hl (fun i hi=> ?_) (fun i hi=> ?_) (fun i z r=> ?_)
  ·obtain⟨y,c,o,g,p⟩:=l i hi;simp only[g,ZmO,(Zdg q S p).2];have:=p.1;rw[ZbH q]at this;simpa using this
  ·obtain⟨y,c,o,g,p⟩:=l i hi;have ac:c.length=U.tsize T:=by rw[p.1,ZbH q]
   obtain⟨_,ab,H⟩:=World.cells?_some g;have f:a.spot=none:=by
    obtain⟨y0,c0,_,K,N⟩:=l 0 (by omega);have aa:c0.length=U.tsize T:=by rw[N.1,ZbH q]
    have k:=(World.cells?_some K).2.2 0 (by omega);rw[Nat.zero_mul,show (a.add 0).add 0=a from rfl,Zmz (by omega)]at k;unfold World.cell? at k;cases hs:a.spot with
    |none=>rfl
    |some s=>rw[hs]at k;split at k<;>simp at k
   have V:a=⟨a.block,a.off,none⟩:=by cases a;simp at f;subst f;rfl
   have M:a.block < w.heap.size:=by have:=World.cells?_block g (by omega);unfold Addr.add at this;split at this<;>exact this
   have C:∀n,a.add n=⟨a.block,a.off+n,none⟩:=fun n=>by
    unfold Addr.add;split
    ·rename_i k;subst k;exact V
    ·rfl
   refine⟨a.block,a.off,by rw[<-V],M,fun j v W=> ?_⟩;simp only[g,ZmO,(Zdg q S p).2]at W;have u:c[j]? =some v:=by simpa using W
   have hj:=(List.getElem?_eq_some_iff.1 u).1;have:=H j (by omega);rw[u,C,O]at this;rw[<-this];congr 1;unfold Addr.add;split
   ·rename_i k;subst k;rfl
   ·rfl
  ·rw[List.getElem?_map]at r;cases d:D[i]? with
   |none=>rw[d]at r;simp at r
   |some y=>
    rw[d]at r;simp only[Option.map_some,ZmR]at r;subst r;obtain⟨c,g,p⟩:=E i y d;simp only[g,ZmO];exact(Zdg q S p).1
abbrev Ys (U:Zc):List Ty->Type
 | []=>Unit
 |T::r=>El U.car T×Ys U r
def Ys.cells:(Ts:List Ty)->Ys U Ts->List (Lf U.car)
 | [],_=>[]
 |T::r,y=>U.cellsE T y.1++Ys.cells r y.2
def ZcW (P:Program) (U:Zc):Nat->List Field->List Ty->Prop
 |_,[],[]=>True
 |off,f::fs,T::Ts=>f.offset=off/\P.cellsOf f.type=U.tsize T/\Zei P U f.type T/\ZcW P U (off+U.tsize T) fs Ts
 |_,_,_=>False
def ZfT (U:Zc):List Ty->Nat
 | []=>0
 |T::r=>U.tsize T+ZfT U r
theorem ZdX (hU:UOk U) {H:Type} (enc:TypeId×Value->H) (w:World) (n:Nat) (cs:List Value):∀(off:Nat) (fs:List Field) (Ts:List Ty) (xs:List (DataW H×List MemPlace)),ZcW P U off fs Ts->xs.length=fs.length->
  (∀(i:Nat) (f:Field),fs[i]? =some f->DataW.trod enc P w 0 (fun _=>true) true n f.type ((cs.drop f.offset).take (P.cellsOf f.type))=xs[i]?)->
  (∀m∈DataW.weightsEach P (fs.map (·.type)) (xs.map (·.1)),m<=reachBytes)->cs.length=off+ZfT U Ts->∃ys:Ys U Ts,ZgG w (cs.drop off) (ys.cells Ts)
 |off,[],[],xs,_,_,_,_,hl=>⟨(),by simp[Ys.cells,ZgG,hl,ZfT]⟩
 |off,f::fs,T::Ts,[],_,hx,_,_,_=>by simp at hx
 |off,f::fs,T::Ts,x::xs,⟨h1,h2,h3,h4⟩,hx,hf,hw,hl=>by
  have hf0:=hf 0 f rfl;rw[Zm6,h1,h2]at hf0;simp only[ZmD,DataW.weightsEach,ZmE]at hw;obtain⟨y,hy⟩:=h3 enc w n _ x hf0 fun m hm=>hw m (.inl hm)
  obtain⟨ys,hys⟩:=ZdX hU enc w n cs (off+U.tsize T) fs Ts xs h4 (by simpa using hx) (fun i g hg=>hf (i+1) g (by simpa using hg)) (fun m hm=>hw m (.inr hm)) (by simp only[ZfT]at hl;omega);refine⟨(y,ys), ?_⟩;have:cs.drop off=(cs.drop off).take (U.tsize T)++cs.drop (off+U.tsize T):=by rw[<-List.drop_drop,List.take_append_drop]
  rw[this];exact hy.append hys
 |_,[],_::_,_,h,_,_,_,_=>h.elim
 |_,_::_,[],_,h,_,_,_,_=>h.elim
theorem Zk4 (hU:UOk U) {t:TypeId} {fs:Array Field} {k:Nat} {Ts:List Ty} (ht:P.underlying t=some (.struct fs)) (hs:P.cellsOf t=ZfT U Ts) (hf:ZcW P U 0 fs.toList Ts)
  (mk:∀ys:Ys U Ts,∃x:U.car k,U.cells k x=ys.cells Ts):Zei P U t (.st k):=fun enc w fuel cs x h hw=>by
 obtain⟨xs,n,_,rfl,hl,hx,hfs⟩:=DataW.trod_struct ht h;obtain⟨ys,hys⟩:=ZdX hU enc w n cs 0 fs.toList Ts xs hf (by simpa using hx) (fun i f hi=>hfs i f (by simpa using hi)) (fun m hm=>hw m (by simpa[DataW.weights,ht]using hm)) (by rw[hl,hs];omega);obtain⟨y,hy⟩:=mk ys;refine⟨y, ?_⟩;show ZgG w cs (U.cells k y);rw[hy];simpa using hys
theorem open_arg (f:UOk U) (i:Zmb U) {H:Type} {enc:TypeId×Value->H} {t:TypeId} {T:Ty} (j:Zei P U t T) {w:World} {v:Value} {d:DataW H} {g:List MemPlace} (h:DataW.Trod enc P w 0 (fun _=>true) true t v d g)
  (hw:∀n∈d.weights P t,n<=reachBytes) (k:Zke T v.cells.toList=v):∃y:El U.car T,RelP w (fun b=>b < w.heap.size) v (U.encE T y):=by
 obtain⟨a,e⟩:=h;obtain⟨y,c⟩:=j enc w a _ _ e hw;refine⟨y, ?_⟩;have:=(Zdg f i c).1
 rwa [k]at this
theorem okv_plain {w:World} {r:Reach} {base:Nat} {t:TypeId} {v:Value} {T:Ty} (c:T.isSt=false) (b:∃d,P.underlying t=some d/\(match d with | .bool | .string | .int _ | .slice _=>True |_=>False)) (h:Value.okWide P w r base t v):Zke T v.cells.toList=v:=by
 obtain⟨d,a,f⟩:=b;have key:v.cells= #[v]->Zke T v.cells.toList=v:=fun e=>by unfold Zke;rw[c,e];rfl
 cases d<;>simp only at f
 all_goals (simp only[Value.okWide,a,Cell.okWide]at h;cases v<;>first |exact key rfl |(simp[Cell.ok,a]at h;done))
theorem Zi2.trod {H:Type} {enc:TypeId×Value->H} {t:TypeId} (k:laidOutB P=true) (l:P.readableRec t=true) (a:t < P.types.size) {W W':World} {v:Value} {d:DataW H} {c:List MemPlace}
  (h:DataW.Trod enc P W 0 (fun _=>true) true t v d c) (j:Zi2 W W') (e:∀x∈c,x.block < W.heap.size) {g:Nat->Bool} (f:∀x∈c,g x.block=true):DataW.Trod enc P W' 0 g true t v d c:=
 WideElems.Trod_stays k l a h (fun x i=>by
  have:=j.2.2 _ (e x i);cases x with
  |cell b o=>exact World.cell?_of_block (w:=W) this
  |map b=>exact this) f
end
end Eng

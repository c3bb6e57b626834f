/- The engine,text 4:an abstract evaluator of Go code over pure data,proved sound. -/
import Derived.Test.YthefajbigloihaaGreatDoorE3
import Derived.Below
import Derived.Laws.OwnMore
import Derived.OpenShut
import Derived.SizedLaws
import Derived.WideKeyArgs
import Derived.Carry
set_option linter.unusedVariables false
set_option linter.unusedSimpArgs false
set_option linter.unusedSectionVars false
open Array renaming getElem?_eq_some_iff→Zmp
open Bool renaming and_eq_true→Zmt, false_eq_true→Zmu
open List renaming all_eq_true→ZmX, cons_append→ZmZ, getElem?_cons_zero→Zm6, getElem?_eq_getElem→Zmz, map_cons→ZmD, mem_append→ZmE, mem_cons→ZmF
open Option renaming getD_some→ZmO, isSome_iff_exists→Znz, some.injEq→ZmR
open Prod renaming mk.injEq→ZmS
namespace Eng
open Go
section
variable {U:Zc}
def resT (X:ZG U) (T:TS U):ResultVar→Option (TV U)
 | .tmp t=>some (T.slots t)
 | .cell ad t=>match X.get t with
  |some e=>match T.slots ad with
   | .pp cs=>Zc9 e (cs.map lv)
   | .ptr id 0 j=>match T.objs id with
    |some (.box cs)=>Zc9 e (cs.drop j)
    |_=>none
   |_=>none
  |none=>none
structure RET (U:Zc) where
 rv:TRV U
 fs:List Id:=[]
 id:Option Id:=none
def Zlv (T:TS U) (m:RM) (h:Option Nat) (d:TV U):Option (RET U):=
 match m,d with
 | .p,d=>match T.lf h d with
  |some l=>some {rv:= .p l,fs:=d.enc.ids T.enc.objs depth}
  |none=>none
 | .own,.full id _=>match T.objs id with
  |some (.arr t xs false)=>some {rv:= .own t xs,id:=some id}
  |_=>none
 | .box,.ptr id 0 0=>match T.objs id with
  |some (.box ds)=>match Zm T.lf1 ds with
   |some ls=>some {rv:= .box ls,fs:=(TV.encs ds).flatMap fun d=>d.ids T.enc.objs depth,id:=some id}
   |none=>none
  |_=>none
 | .map,.map id=>match T.objs id with
  |some (.map k v kv)=>some {rv:= .map k v kv,id:=some id}
  |_=>none
 | .view,.sl (0,k,0) off len=>some {rv:= .view k off len}
 | .view,.full (0,k,0) n=>some {rv:= .view k 0 n}
 |_,_=>none
def RET.re (x:RET U) (cs:List Bool):RE:={rv:=x.rv.enc,fs:=x.fs,id:=x.id,cond:=cs}
theorem resT_d (hU:UOk U) {X:ZG U} (hX:TOk X) {T:TS U} (hT:T.Inv) {rv:ResultVar} {d:TV U} (h:resT X T rv=some d):Zk0 X.E T.enc rv=some d.enc∧d.inv T.objs:=by
 unfold resT at h;split at h
 ·cases h;exact⟨rfl,hT.slots _⟩
 ·rename_i ad t;split at h;rotate_left;simp at h;rename_i e he;split at h
  ·rename_i cs hs;obtain⟨p,h1,h2⟩:=Za3 hU hX he h;refine⟨?_,ZaD (fun c hc=> ?_) h⟩
   ·simp only[Zk0,Zw he,show T.enc.slots ad=(T.slots ad).enc from rfl,hs,TV.enc,h1,h2]
   ·obtain⟨l,_,rfl⟩:=List.mem_map.1 hc;exact Zah _ _
  ·rename_i id j hs;split at h;rotate_left;simp at h;rename_i cs ho;have:=Zce hU hX he h;rw[Zbs]at this;exact⟨by simp only[Zk0,Zw he,show T.enc.slots ad=(T.slots ad).enc from rfl,hs,TV.enc,Zg ho,ZaO,this],ZaD (fun c hc=>hT.objs id _ ho c (List.mem_of_mem_drop hc)) h⟩
  ·simp at h
theorem Zkr (hU:UOk U) {T:TS U} (hT:T.Inv) {m:RM} {h:Option Nat} {d:TV U} {x:RET U} (hi:d.inv T.objs) (hr:Zlv T m h d=some x):∃cs,Zjl T.enc m d.enc=some (x.re cs)∧∀q∈cs,q=true:=by
 unfold Zlv at hr;split at hr
 ·split at hr;rotate_left;simp at hr;rename_i l hl;cases hr;exact⟨[],by simp only[Zjl,depth,ZeR hU hi hl 7,RET.re,TRV.enc],by simp⟩
 ·rename_i id n;split at hr;rotate_left;simp at hr;rename_i t xs ho;cases hr;obtain⟨o,h1,h2⟩:=hi (id,n) (by simp[TV.fulls]);dsimp only at h1;have hl:=h2 t xs false (by rw[ho,ZmR]at h1;exact h1.symm);refine⟨[decide (n=(xs.map (U.encE t)).length)], ?_,by simp[hl]⟩;simp only[Zjl,TV.enc,Zg ho,ZM,RET.re,TRV.enc]
 ·rename_i id;split at hr;rotate_left;simp at hr;rename_i ds ho;split at hr;rotate_left;simp at hr;rename_i ls hls;cases hr;refine⟨[], ?_,by simp⟩;simp only[Zjl,TV.enc,Zg ho,ZaO,ZcH (hT.objs id _ ho) hls,RET.re,TRV.enc]
 ·rename_i id;split at hr;rotate_left;simp at hr;rename_i k v kv ho;cases hr;exact⟨[],by simp only[Zjl,TV.enc,Zg ho,Z0,RET.re,TRV.enc],by simp⟩
 ·cases hr;exact⟨[],rfl,by simp⟩
 ·cases hr;exact⟨[],rfl,by simp⟩
 ·simp at hr
def ZcZ (T:TS U):List RM→List (Option Nat)→List (TV U)→Option (List (RET U))
 | [],_,[]=>some []
 |m::ms,h::hs,d::ds=>match Zlv T m h d,ZcZ T ms hs ds with
  |some a,some r=>some (a::r)
  |_,_=>none
 |_,_,_=>none
theorem ZfY (hU:UOk U) {T:TS U} (hT:T.Inv):∀{ms:List RM} {hs:List (Option Nat)} {ds:List (TV U)} {as:List (RET U)},(∀d∈ds,d.inv T.objs)→ZcZ T ms hs ds=some as→
  ∃res:List RE,Zm (fun x:RM×D=>Zjl T.enc x.1 x.2) (ms.zip (TV.encs ds))=some res∧ds.length=ms.length∧res.map (·.rv)=as.map (fun a=>a.rv.enc)∧res.flatMap (·.fs)=as.flatMap (·.fs)∧(∀q∈res.flatMap (·.cond),q=true)∧res.map (·.id)=as.map (·.id)
 | [],hs,[],as,_,h=>by simp only[ZcZ,ZmR]at h;subst h;exact⟨[],rfl,rfl,rfl,rfl,by simp,rfl⟩
 | [],hs,d::ds,as,_,h=>by simp[ZcZ]at h
 |m::ms,[],ds,as,_,h=>by simp[ZcZ]at h
 |m::ms,hh::hs,[],as,_,h=>by simp[ZcZ]at h
 |m::ms,hh::hs,d::ds,as,hi,h=>by simp only[ZcZ]at h;split at h;rotate_left;simp at h;rename_i a r h1 h2;cases h;obtain⟨cs,q1,q2⟩:=Zkr hU hT (hi d (by simp)) h1;obtain⟨aes,p1,p2,p3,p4,p5,p6⟩:=ZfY hU hT (fun a ha=>hi a (by simp[ha])) h2;refine⟨a.re cs::aes,by simp only[TV.encs,List.zip_cons_cons,Zm,q1,p1],by simp[p2],by simp[RET.re,p3],by simp[RET.re,p4], ?_,by simp[RET.re,p6]⟩;intro q hq;simp only[List.flatMap_cons,ZmE]at hq;exact hq.elim (fun h=>q2 q h) (fun h=>p5 q h)
def Zkv (T:TS U) (k:Nat):Option ((Nat×ZR U)×List Id):=
 match T.objs (0,k,0)with
 |some (.box ds)=>match Zm T.lf1 ds with
  |some ls=>some ((k,.box ls),(TV.encs ds).flatMap fun d=>d.ids T.enc.objs depth)
  |none=>none
 |some (.arr t xs false)=>some ((k,.arr t xs),[])
 |some (.map a b kv)=>some ((k,.map a b kv),[])
 |_=>none
theorem Zlx {T:TS U} (hT:T.Inv) {k:Nat} {x:(Nat×ZR U)×List Id} (h:Zkv T k=some x):Zmg T.enc k=some ((x.1.1,x.1.2.enc),x.2):=by
 unfold Zkv at h;unfold Zmg;split at h
 ·rename_i ds ho;split at h;rotate_left;simp at h;rename_i ls hls;cases h;simp only[Zg ho,ZaO,Zab,ZcH (hT.objs _ _ ho) hls,ZR.enc]
 ·rename_i t xs ho;cases h;simp only[Zg ho,ZM,Zab,ZR.enc]
 ·rename_i a b kv ho;cases h;simp only[Zg ho,Z0,Zab,ZR.enc]
 ·simp at h
theorem ZhE {T:TS U} (hT:T.Inv):∀{ks:List Nat} {os:List ((Nat×ZR U)×List Id)},Zm (Zkv T) ks=some os→Zm (Zmg T.enc) ks=some (os.map fun x=>((x.1.1,x.1.2.enc),x.2))
 | [],os,h=>by simp[Zm]at h;subst h;rfl
 |k::ks,os,h=>by simp only[Zm]at h;split at h;rotate_left;simp at h;rename_i y ys h1 h2;cases h;simp only[Zm,Zlx hT h1,ZhE hT h2,ZmD]
def Zif:Nat→List (RET U)→List (Id×Id)
 |_,[]=>[]
 |j,x::r=>match x.id with
  |some id=>((1,j,0),id)::Zif (j+1) r
  |none=>Zif (j+1) r
theorem Zfh:∀(j:Nat) (l:List (RET U)) (l':List RE),l'.map (·.id)=l.map (·.id)→Zig j l'=Zif j l
 |j,[],[],_=>rfl
 |j,[],_::_,h=>by simp at h
 |j,_::_,[],h=>by simp at h
 |j,x::l,y::l',h=>by
  simp only[ZmD,List.cons.injEq]at h;simp only[Zig,Zif,h.1];cases x.id with
  |none=>exact Zfh (j+1) l l' h.2
  |some id=>simp only[Zfh (j+1) l l' h.2]
def retT (X:ZG U) (T:TS U) (rs:List ResultVar) (ms:List RM) (hs:List (Option Nat)) (outs:List Nat):Option (ZbA U):=
 match Zm (resT X T) rs with
 |some ds=>match ZcZ T ms hs ds,Zm (Zkv T) outs with
  |some res,some os=>
   if Zf0 (T.freezeL (res.flatMap (·.fs)++os.flatMap (·.2))).enc (Zif 0 res++outs.map fun k=>((0,k,0),(0,k,0))) 2&&(res.map fun x=>x.rv.enc).all (ZfK outs)then
    some ⟨res.map (·.rv),os.map (·.1)⟩else none
  |_,_=>none
 |none=>none
theorem Zjk (hU:UOk U) {X:ZG U} (hX:TOk X) {T:TS U} (hT:T.Inv):∀{rs:List ResultVar} {ds:List (TV U)},Zm (resT X T) rs=some ds→Zm (Zk0 X.E T.enc) rs=some (TV.encs ds)∧∀d∈ds,d.inv T.objs
 | [],ds,h=>by simp[Zm]at h;subst h;exact⟨rfl,by simp⟩
 |k::ks,ds,h=>by
  simp only[Zm]at h;split at h;rotate_left;simp at h;rename_i y ys h1 h2;cases h;obtain⟨q1,q2⟩:=resT_d hU hX hT h1;obtain⟨q3,q4⟩:=Zjk hU hX hT h2;refine⟨by simp only[Zm,q1,q3,TV.encs],fun d hd=> ?_⟩;rcases ZmF.1 hd with rfl |hd
  ·exact q2
  ·exact q4 d hd
theorem ZkZ (hU:UOk U) {X:ZG U} (hX:TOk X) {T:TS U} (hT:T.Inv) {rs:List ResultVar} {ms:List RM} {hs:List (Option Nat)} {outs:List Nat} {t:ZbA U} (h:retT X T rs ms hs outs=some t):
  ∃ps,Zmd X.E T.enc rs ms outs=some (t.enc,ps)∧∀q∈ps,q=true:=by
 unfold retT at h;split at h;rotate_left;simp at h;rename_i ds hds;obtain⟨q1,q2⟩:=Zjk hU hX hT hds;split at h;rotate_left;simp at h;rename_i res os hres hos;obtain⟨aes,p1,p2,p3,p4,p5,p6⟩:=ZfY hU hT q2 hres;have o1:=ZhE hT hos;split at h;rotate_left;simp at h;rename_i hok;cases h;refine⟨_, ?_,p5⟩;unfold Zmd;rw[q1];simp only[Zai,p2,if_true,p1,o1];have e1:Zig 0 aes=Zif 0 res:=Zfh 0 res aes p6;have e2:(os.map fun x=>((x.1.1,x.1.2.enc),x.2)).flatMap (·.2)=os.flatMap (·.2):=by rw[List.flatMap_map]
 have e3:aes.all (fun x=>ZfK outs x.rv)=(res.map fun x=>x.rv.enc).all (ZfK outs):=by rw[←p3,List.all_map];rfl
 rw[p4,e1,e2,e3,←Eng.freezeL_enc,if_pos hok];simp only[ZmR,ZmS,and_true,ZbA.enc,Ret.mk.injEq,p3,List.map_map];exact⟨rfl,rfl⟩
theorem ZfH:∀{l:List Bool},(∀q∈l,q=true)→Zle l
 | [],_=>trivial
 | [a],h=>h a (by simp)
 |a::b::r,h=>⟨h a (by simp),ZfH fun q hq=>h q (by simp[hq])⟩
structure Cut (U:Zc) (R:Type) where
 live:List Nat
 frz:List Nat
 κ:List (TV U)→List (TO U)→Option R
structure Par (U:Zc) (R:Type) where
 X:ZG U
 sigs:List (Nat×Zi1 U)
 cuts:List (List Nat×Cut U R)
 back:Option (Cut U R)
 exits:List (Nat×Cut U R)
 lent:List Nat
 rs:List ResultVar
 rms:List RM
 rhs:List (Option Nat)
 ret:ZbA U→Option R
 keep:List Nat:=[]
 alt:List (Nat×Nat):=[]
inductive TI' where
 |c (p:List Nat) (c:Code)
 |ops (a:Array Oper) (i:Nat)
 |blk (id:Nat)
def TI'.conc:TI'→Item
 | .c _ x=> .c x
 | .ops a i=> .ops a i
 | .blk id=> .blk id
def Zck (id:Nat):List TI'→Option (List TI')
 | .blk j::k=>if j=id then some k else Zck id k
 |_::k=>Zck id k
 | []=>none
noncomputable def agree {α:Type} (a b:Option α):Option α:= @ite _ (a=b) (Classical.propDecidable _) a none
variable {R:Type}
def Zgx:Nat→List (AET U)→List (Id×Id)
 |_,[]=>[]
 |k,x::r=>match x.id with
  |some id=>((0,k,0),id)::Zgx (k+1) r
  |none=>Zgx (k+1) r
def Zl7 (d:Nat):List (Nat×Nat)→Option Nat
 | []=>none
 |x::l=>if x.1=d then some x.2 else Zl7 d l
def Zlr (P:Par U R) (dst:Option Nat) (g:Nat):Option (Nat×Zi1 U):=
 match (match dst with |some d=>Zl7 d P.alt |none=>none)with
 |some k=>match P.sigs[k]? with
  |some x=>if x.1 == g then some x else none
  |none=>none
 |none=>P.sigs.find? fun x=>x.1 == g
theorem Zji {P:Par U R} {dst:Option Nat} {g:Nat} {sg:Nat×Zi1 U} (h:Zlr P dst g=some sg):sg∈P.sigs∧sg.1=g:=by
 unfold Zlr at h;split at h
 ·split at h;rotate_left;simp at h;rename_i x hx;split at h;rotate_left;simp at h;rename_i he;cases h;exact⟨List.mem_of_getElem? hx,by simpa using he⟩
 ·exact⟨List.mem_of_find?_eq_some h,by have:=List.find?_some h;simpa using this⟩
def ck {R:Type} (c:Option Bool) (k:Option R):Option R:=match c with
 |none=>k
 |some b=>chk b k
theorem Zl0 {R:Type} {c:Option Bool} {k:Option R} {r:R} (h:ck c k=some r):c≠some false∧k=some r:=by
 cases c with
 |none=>exact⟨by simp,h⟩
 |some b=>
  obtain⟨hb,h⟩:=Zo h;exact⟨by rw[hb];simp,h⟩
def fnOf (P:Par U R) (dst:Option Nat):Option (TV U)→Option (Option Bool×Nat×List (TV U)×List (TV U))
 |some (.fn g a b)=>some (none,g,a,b)
 |some (.v .fnc x)=>match (match dst with |some d=>Zl7 d P.alt |none=>none)with
  |some k=>match P.sigs[k]? with
   |some s=>some (some (decide (x=some s.1)),s.1,[],[])
   |none=>none
  |none=>none
 |_=>none
def callT (P:Par U R) (T:TS U) (i:Nat) (dst:Option Nat) (c:Call) (κ:Zh U→Option R):Option R:=
 match c.callee with
 | .value f=>match fnOf P dst (evT P.X T.slots 0 f)with
  |some (b,g,first,caps)=>ck b (match Zlr P dst g with
   |some sg=>match Zdc P.X T.slots c.args.toList sg.2.pts with
    |some ds=>match Z5 T sg.2.ms sg.2.hs (first++ds++caps)with
     |some as=>if Zf0 (T.freezeL (as.flatMap (·.fs))).enc (Zgx 0 as) 1&&c.args.toList.all Zz&&Zz f then match sg.2.sig (as.map (·.arg))with
      |some s=>s.o.bind fun a=>match Zgs T i as (s.give a)with
       |some e=>κ e
       |none=>none
      |none=>none
      else none
     |none=>none
    |none=>none
   |none=>none)
  |none=>none
 |_=>none
def Zb2 (o:Oper):Bool:=match o.op with
 | .call c=>match c.callee with
  | .value _=>true
  |_=>false
 |_=>false
def Zkh (P:Par U R) (T:TS U) (i:Nat) (o:Oper) (κ:Zh U→Option R):Option R:=
 if Zb2 o then match o.op with
  | .call c=>callT P T i o.dst c κ
  |_=>none
 else ZlZ P.X T i o.op o.type κ
def okE (P:Par U R) (T:TS U) (i:Nat) (o:Oper) (e:Zh U):Bool:=
 fresh T i e&&(if Zb2 o then Zda P.X.E o else Zek T.enc (e.enc [])&&Zfj P.X.E o)
def fpT (P:Par U R) (T:TS U) (o:Oper) (e:Zh U):Fp:=
 ⟨if Zb2 o then ZaQ P.X.E T.enc.slots T.enc.objs o.op.operands.toList else ZdS P.X.E o.op T.enc.slots T.enc.objs,e.wr.map (·.1),e.frz⟩
def ZhQ (ops:Array Oper) (T:TS U) (o:Oper) (κ:Bool→TS U→Option R):Option R:=
 match o.guard with
 |none=>κ true T
 |some (g,w)=>match (ops[g]?).bind (·.dst)with
  |some t=>match T.slots t with
   | .v .bool b=>bif b then κ w (T.setO (some t) (.v .bool true))else κ (!w) (T.setO (some t) (.v .bool false))
   | .undef=>κ false T
   |_=>none
  |none=>κ false T
def ZlG (X:ZG U) (T:TS U) (o:Oper):Option (Bool×Bool):=
 match o.op with
 | .binOp b t x (.const (.slice none 0 0)) _=>match X.get t,evT X T.slots 0 x with
  |some e,some d=>match e.ti.d with
   | .sl _=>match (match b with | .eql=>some true | .neq=>some false |_=>none)with
    |some q=>match d with
     | .v (.sl _) xs=>some (List.isEmpty xs,q)
     | .full id _=>match T.objs id with
      |some (.arr _ xs _)=>some (List.isEmpty xs,q)
      |_=>none
     |_=>none
    |none=>none
   |_=>none
  |_,_=>none
 |_=>none
noncomputable def Zdv {α β:Type} (xs:List α) (f:α→List α→Option β):Option β:=
 @dite _ (∃r,∀(j:Nat) q,xs[j]? =some q→f q (xs.eraseIdx j)=some r) (Classical.propDecidable _) (fun h=>some h.choose) fun _=>none
theorem ZfZ {α β:Type} {xs:List α} {f:α→List α→Option β} {r:β} (h:Zdv xs f=some r) {j:Nat} {q:α} (hq:xs[j]? =some q):f q (xs.eraseIdx j)=some r:=by unfold Zdv at h;split at h;rotate_left;simp at h;rename_i hx;simp only[ZmR]at h;rw[←h];exact hx.choose_spec j q hq
theorem Zmf {α β:Type} {xs:List α} {f:α→List α→Option β} {r:β} (hne:xs≠[]) (h:∀(j:Nat) q,xs[j]? =some q→f q (xs.eraseIdx j)=some r):Zdv xs f=some r:=by
 unfold Zdv;have hx:∃r,∀(j:Nat) q,xs[j]? =some q→f q (xs.eraseIdx j)=some r:=⟨r,h⟩;rw[dif_pos hx]
 match xs,hne with
 |x::l,_=>
  have h1:=hx.choose_spec 0 x rfl;have h2:=h 0 x rfl;rw[h1]at h2;exact h2
structure MitI (U:Zc) where
 id:Id
 a:Ty
 b:Ty
 rest:List (El U.car a×El U.car b)
def nextM (X:ZG U) (T:TS U) (o:Oper):Option (MitI U):=
 match o.op with
 | .next it false=>match evT X T.slots 0 it with
  |some (.it id)=>match T.objs id with
   |some (.mit a b rest _)=>if T.fz id=false then some ⟨id,a,b,rest⟩else none
   |_=>none
  |_=>none
 |_=>none
def ZjG (P:Par U R) (c:Cut U R) (T:TS U):Option R:=
 match ZjX T P.lent c.live c.frz with
 |some q=>c.κ q.1 q.2
 |none=>none
def ZkG (P:Par U R) (T:TS U):Option R:=
 match retT P.X T P.rs P.rms P.rhs P.lent with
 |some t=>P.ret t
 |none=>none
noncomputable def evl (P:Par U R):Nat→Option (Array Oper×List Fp)→List TI'→TS U→Option R
 |0,_,_,_=>none
 |n+1,some (ops,hist),pre,T=>match ops[hist.length]? with
  |none=>if Zgo ops T.ep hist&&decide (hist.length=ops.size)then evl P n none pre T.next else none
  |some o=>ZhQ ops T o fun g T=>match g with
   |true=>Zkh P T hist.length o fun e=>if okE P T hist.length o e&&live ops o T.enc (fpT P T o e)then evl P n (some (ops,hist++[fpT P T o e])) pre (T.app hist.length o.dst e)else none
   |false=>if Zda P.X.E o&&live ops o T.enc {}then evl P n (some (ops,hist++[{}])) pre (T.app hist.length o.dst {val:= .undef})else none
 |n+1,none,[],T=>match P.back with
  |some c=>ZjG P c T
  |none=>ZkG P T
 |n+1,none,.blk _::pre,T=>evl P n none pre T
 |n+1,none,.ops ops i::pre,T=>match ops[i]? with
  |none=>evl P n none pre T.next
  |some o=>ZhQ ops T o fun g T=>match g with
   |true=>match ZlG P.X T o with
    |some (em,q)=>if Zda P.X.E o&&Zfj P.X.E o then bif em then agree (evl P n none (.ops ops (i+1)::pre) (T.app i o.dst {val:= .v .bool true})) (evl P n none (.ops ops (i+1)::pre) (T.app i o.dst {val:= .v .bool false}))
      else evl P n none (.ops ops (i+1)::pre) (T.app i o.dst {val:= .v .bool (!q)})
     else none
    |none=>match nextM P.X T o with
     |some m=>if Zfj P.X.E o then bif List.isEmpty m.rest then evl P n none (.ops ops (i+1)::pre) (T.app i o.dst {val:= .tup [.v .bool false]})
       else Zdv m.rest fun q rest=>evl P n none (.ops ops (i+1)::pre) (T.app i o.dst {val:= .tup [.v .bool true,.v m.a q.1,.v m.b q.2],wr:=[(m.id,.mit m.a m.b rest (some q))]})
      else none
     |none=>match ZkN P.X T o with
      |some m=>if Zfj P.X.E o then anyN m fun c=>evl P n none (.ops ops (i+1)::pre) (T.app i o.dst {val:= .v (.int .i64) (c:Int)})else none
      |none=>match ZkE P.keep P.X T o with
       |some q=>if Zfj P.X.E o then chk (ZiZ (List.length q.xs+List.length q.ys) q.by_) (evl P n none (.ops ops (i+1)::pre) (T.app i o.dst {val:= .v (.sl q.t) (List.append q.xs q.ys),wr:=[(q.id,.arr q.t q.xs true)],frz:=[q.id]}))else none
       |none=>Zkh P T i o fun e=>if okE P T i o e then evl P n none (.ops ops (i+1)::pre) (T.app i o.dst e)else none
   |false=>if Zda P.X.E o then evl P n none (.ops ops (i+1)::pre) (T.app i o.dst {val:= .undef})else none
 |n+1,none,.c p c::pre,T=>match P.cuts.find? fun x=>x.1 == p with
  |some x=>ZjG P x.2 T
  |none=>match c with
   | .skip=>evl P n none pre T
   | .seq a b=>evl P n none (.c (0::p) a:: .c (1::p) b::pre) T
   | .block id b=>evl P n none (.c (4::p) b:: .blk id::pre) T
   | .region _ ops false=>evl P n none (.ops ops 0::pre) T
   | .region _ ops true=>evl P n (some (ops,[])) pre T
   | .cond c a b=>if Zz c then match evT P.X T.slots 0 c with
    |some (.v .bool x)=>bif x then evl P n none (.c (2::p) a::pre) T else evl P n none (.c (3::p) b::pre) T
    |_=>none
    else none
   | .exit id=>match Zck id pre with
    |some pre'=>evl P n none pre' T
    |none=>match P.exits.find? fun x=>x.1 == id with
     |some x=>ZjG P x.2 T
     |none=>none
   | .ret=>ZkG P T
   |_=>none
end
end Eng
namespace Eng
open Go
section
variable {U:Zc} {R:Type}
def atP (root:Code×List Item):List Nat→Option (Code×List Item)
 | []=>some root
 |d::p=>match atP root p with
  |some (c,k)=>match d,c with
   |0,.seq a b=>some (a,.c b::k)
   |1,.seq _ b=>some (b,k)
   |2,.cond _ a _=>some (a,k)
   |3,.cond _ _ b=>some (b,k)
   |4,.block id b=>some (b,.blk id::k)
   |5,.loop b=>some (b,.lp b::k)
   |_,_=>none
  |none=>none
def Wf (root:Code×List Item) (base:List Item):List TI'→Prop
 | []=>True
 | .c p c::k=>atP root p=some (c,k.map TI'.conc++base)∧Wf root base k
 | .blk _::k=>Wf root base k
 | .ops _ _::k=>Wf root base k
def Zeg (E:Env) (g:Nat) (sg:Zi1 U):Prop:=
 ∀args s,sg.sig args=some s→∀a,s.o=some a→Fun E g (args.map ZR.enc) (s.give a).enc∧Zeh args (s.give a)
def Hcut (P:Par U R) (C:Ctx) (fm:Fm) (fn:Func) (RT:Ret) (r:R) (cut:Cut U R) (k:List Item):Prop:=
 ∀ds os,(mkC P.lent cut.live ds os).Inv→cut.κ ds os=some r→AWP C fm (Zih C fn RT) k (mkC P.lent cut.live ds os).enc
structure Hyp (P:Par U R) (C:Ctx) (fm:Fm) (fn:Func) (RT:Ret) (r:R) (root:Code×List Item) (base:List Item):Prop where
 hU:UOk U
 hX:TOk P.X
 hE:Zk C.E
 hCE:C.E=P.X.E
 mixed:C.E.prog.follows .mixedOrders=true
 rs:fn.results.toList=P.rs
 ds:fm.ds=[]
 sigs:∀x∈P.sigs,Zeg P.X.E x.1 x.2
 cuts:∀x∈P.cuts,∀c k,atP root x.1=some (c,k)→Hcut P C fm fn RT r x.2 (.c c::k)
 back:∀c,P.back=some c→Hcut P C fm fn RT r c base
 noback:P.back=none→base=[]
 exits:∀x∈P.exits,∃k,Zaj x.1 base=some k∧Hcut P C fm fn RT r x.2 k
 ret:∀t,P.ret t=some r→t.enc=RT
section
variable {P:Par U R} {C:Ctx} {fm:Fm} {fn:Func} {RT:Ret} {r:R} {root:Code×List Item} {base:List Item} {G:Zj8}
theorem Zh3 {ops:Array Oper} {i:Nat} {k:List Item} {st st':St} (hi:i < ops.size) (h:Exec C fm ops i st st') (h1:AWP C fm G (.ops ops (i+1)::k) st'):AWP C fm G (.ops ops i::k) st:=by intro ρ S a w hrep hd b k0 cs hb;have hrep:Rep C (fun j=>j < i) ρ S st a.tmps w:=hrep;obtain⟨ρ',S',a',w',hr',hd',hs⟩:=h (fun j=>j < i) (by simp) ρ S a w hrep hd b (List.range' (i+1) (ops.size - (i+1))) (k.map conc++k0) cs hb;obtain⟨e2,a2',w2,hg2,harr⟩:=h1 ρ' S' a' w' (hr'.weakX (fun j hj=>by simp only[Xof];omega)) hd' b k0 cs hb;refine⟨e2,a2',w2,hg2,.of_steps ?_ harr⟩;simp only[ZmD,ZmZ,conc,Za1 hi];exact hs
theorem ZkS {k:List Item} {st:St} {t:Nat} (h:∀b,AWP C fm G k (st.set t (.p (.bool b)))):AWP C fm G k (st.set t .anyb):=by
 intro ρ S a w hr hd;have hs:=hr.slots t;have e1:(st.set t .anyb).slots t= .anyb:=by simp[St.set,upd]
 rw[e1]at hs;generalize hv:a.tmps.getD t undef=v at hs;cases hs with
 |anyb b=>
  refine h b ρ S a w ?_ hd;have hsl:∀k',RelD w S ρ (a.tmps.getD k' undef) ((st.set t (.p (.bool b))).slots k'):=fun k'=>by
   have:=hr.slots k';simp only[St.set,upd]at this⊢
   split
   ·rename_i he;subst he;rw[hv];exact .p _ _ (.bool b)
   ·rename_i he;rw[if_neg he]at this;exact this
  exact⟨hr.nt,hr.grow,hr.frame,hr.s0,hr.sIn,hsl,hr.objs,hr.own,hr.inj,hr.known,hr.young,hr.fzk,hr.glob,hr.sOut,hr.ep1,hr.quiet,hr.lay⟩
theorem Zhj (g:Nat) (a b:List D):Zb5 (fnD g a b)=some (g,a,b):=by
 unfold fnD;cases ha:Zm D.pure? a with
 |none=>rfl
 |some x=>
  cases hb:Zm D.pure? b with
  |none=>rfl
  |some y=>simp only[Zb5,←Zu ha,←Zu hb]
theorem Zec:∀(j:Nat) (l:List (AET U)) (l':List AE),l'.map (·.id)=l.map (·.id)→Zaa j l'=Zgx j l
 |j,[],[],_=>rfl
 |j,[],_::_,h=>by simp at h
 |j,_::_,[],h=>by simp at h
 |j,x::l,y::l',h=>by
  simp only[ZmD,List.cons.injEq]at h;simp only[Zaa,Zgx,h.1];cases x.id with
  |none=>exact Zec (j+1) l l' h.2
  |some id=>simp only[Zec (j+1) l l' h.2]
theorem Zg9 (a b:List (TV U)):TV.encs (a++b)=TV.encs a++TV.encs b:=by simp only[ZaN,List.map_append]
theorem ZkH (hX:TOk P.X) {T:TS U} (hT:T.Inv) {dst:Option Nat} {f:Operand} {g:Nat} {a b:List (TV U)} {c:Option Bool} (hc:c≠some false) (h:fnOf P dst (evT P.X T.slots 0 f)=some (c,g,a,b)):
  ev P.X.E T.enc.slots 0 f=fnD g (TV.encs a) (TV.encs b)∧(TV.fn g a b).inv T.objs:=by
 unfold fnOf at h;split at h
 ·rename_i g' a' b' hf;simp only[ZmR,ZmS]at h;obtain⟨-,rfl,rfl,rfl⟩:=h;exact⟨by rw[Zb hX hf];simp only[TV.enc],ZE hT hf⟩
 ·rename_i x hf;split at h;rotate_left;simp at h;rename_i k hk;split at h;rotate_left;simp at h;rename_i s hs;simp only[ZmR,ZmS]at h;obtain⟨rfl,rfl,rfl,rfl⟩:=h;have hx:x=some s.1:=by simp only[ne_eq,ZmR,decide_eq_false_iff_not,Classical.not_not]at hc;exact hc
  subst hx;exact⟨by rw[Zb hX hf];rfl,Zf rfl⟩
 ·simp at h
theorem Zhw (H:Hyp P C fm fn RT r root base) {T:TS U} (hT:T.Inv) {ops:Array Oper} {i:Nat} {o:Oper} {κ:Zh U→Option R} (hg:ZQ ops T.enc o.guard=some true) (h:Zkh P T i o κ=some r):
  ∃e,ZJ T i e∧κ e=some r∧(okE P T i o e=true→∃cs,OE C ops i o T.enc (e.enc cs) (fpT P T o e).R):=by
 unfold Zkh at h;split at h
 ·rename_i hc;unfold Zb2 at hc;split at hc;rotate_left;simp at hc;rename_i c hop;split at hc;rotate_left;simp at hc;rename_i f hcal;rw[hop]at h;simp only[callT,hcal]at h;split at h;rotate_left;simp at h;rename_i b g first caps hf
  obtain⟨hb,h⟩:=Zl0 h;obtain⟨hfe,hfi⟩:=ZkH H.hX hT hb hf;split at h;rotate_left;simp at h;rename_i sg hsg;obtain⟨hmem,hid⟩:=Zji hsg;split at h;rotate_left;simp at h;rename_i ds hds;split at h;rotate_left;simp at h;rename_i as has;split at h;rotate_left;simp at h;rename_i hok;simp only[Zmt]at hok;split at h;rotate_left;simp at h;rename_i s hs;obtain⟨a,ha,h⟩:=bind_some h;split at h;rotate_left;simp at h;rename_i e he;obtain⟨hfun,hol⟩:=H.sigs sg hmem _ s hs a ha;have hin:∀d∈first++ds++caps,d.inv T.objs:=by
   intro d hd;simp only[ZmE]at hd;rcases hd with (hd |hd) |hd
   ·exact fun q hq=>hfi q (by simp only[TV.fulls,ZmE];exact .inl (Zs.2 ⟨d,hd,hq⟩))
   ·exact Zd8 hT hds d hd
   ·exact fun q hq=>hfi q (by simp only[TV.fulls,ZmE];exact .inr (Zs.2 ⟨d,hd,hq⟩))
  obtain⟨aes,p1,p2,p3,p4,p5,p6⟩:=Ze3 H.hU hT hin has;refine⟨e,ZiP has hol he,h,fun hk=>⟨[], ?_⟩⟩;have hcall:Zb2 o=true:=by unfold Zb2;rw[hop];simp only[hcal]
  simp only[okE,hcall,if_true,Zmt]at hk;have hpre:Zk1 C.E T.enc c sg.2.pts sg.2.ms=some (g,aes):=by unfold Zk1;rw[H.hCE];simp only[hcal,hfe,Zhj,ZbI H.hX hds,←Zg9,Zai,p2,if_true,p1,p4,←Eng.freezeL_enc,Zec 0 as aes p6,hok.1.1,hok.1.2,hok.2,Bool.and_self]
  have hR:(fpT P T o e).R=ZaQ C.E T.enc.slots T.enc.objs c.operands.toList:=by simp only[fpT,hcall,if_true,H.hCE,hop,Op.operands]
  rw[hR];refine .call (pts:=sg.2.pts) (ms:=sg.2.ms) hg hop (by rw[H.hCE];exact hk.2) hpre (ZfH p5) ?_ (ZiQ p6 p4 he);rw[p3,H.hCE,←hid];rw[List.map_map]at hfun;exact hfun
 ·rename_i hc;obtain⟨e,cs,h1,h2,h3,h4⟩:=snd H.hU H.hX hT h;refine⟨e,h3,h4,fun hk=>⟨cs, ?_⟩⟩;have hcall:Zb2 o=false:=by simpa using hc
  simp only[okE,hcall,Zmu,if_false,Zmt]at hk;have hR:(fpT P T o e).R=ZdS C.E o.op T.enc.slots T.enc.objs:=by simp only[fpT,hcall,Zmu,if_false,H.hCE]
  rw[hR];exact .op hg (by rw[H.hCE];exact h1) (by rw[H.hCE];exact hk.2.2) hk.2.1 h2
theorem Zhz {T:TS U} {t:Nat} {d:TV U} (h:T.slots t=d):T.setO (some t) d=T:=by
 have:upd T.slots t d=T.slots:=by
  funext x;simp only[upd];split
  ·rename_i he;rw[he,h]
  ·rfl
 cases T;simp only[TS.setO]at this⊢
 rw[this]
theorem Zgk {ops:Array Oper} {T:TS U} {o:Oper} {κ:Bool→TS U→Option R} (h:ZhQ ops T o κ=some r):∃g,ZQ ops T.enc o.guard=some g∧κ g T=some r:=by
 unfold ZhQ at h;unfold ZQ;split at h
 ·rename_i hg;rw[hg];exact⟨true,rfl,h⟩
 ·rename_i g w hg;rw[hg];simp only;split at h
  ·rename_i t ht;rw[ht];simp only;rw[show T.enc.slots t=(T.slots t).enc from rfl];split at h
   ·rename_i b hb;rw[hb];cases b
    ·refine⟨!w, ?_,by rw[cond_false,Zhz hb]at h;exact h⟩;simp only[TV.enc,Zc.encE];cases w<;>rfl
    ·refine⟨w, ?_,by rw[cond_true,Zhz hb]at h;exact h⟩;simp only[TV.enc,Zc.encE];cases w<;>rfl
   ·rename_i hb;rw[hb];exact⟨false,rfl,h⟩
   ·simp at h
  ·rename_i ht;rw[ht];exact⟨false,rfl,h⟩
theorem Z9 {id:Nat}:∀{pre pre':List TI'},Zck id pre=some pre'→(∀base,Zaj id (pre.map TI'.conc++base)=some (pre'.map TI'.conc++base))∧(Wf root base pre→Wf root base pre')
 | [],_,h=>by simp[Zck]at h
 |x::k,pre',h=>by
  cases x with
  |blk j=>
   simp only[Zck]at h;split at h
   ·rename_i hj;cases h;exact⟨fun base=>by simp[TI'.conc,Zaj,hj],fun hw=>hw⟩
   ·rename_i hj;obtain⟨q1,q2⟩:=Z9 h;exact⟨fun base=>by simp only[ZmD,ZmZ,TI'.conc,Zaj,hj,if_false];exact q1 base,fun hw=>q2 hw⟩
  |c p c=>
   simp only[Zck]at h;obtain⟨q1,q2⟩:=Z9 h;exact⟨fun base=>by simp only[ZmD,ZmZ,TI'.conc,Zaj];exact q1 base,fun hw=>q2 hw.2⟩
  |ops a i=>
   simp only[Zck]at h;obtain⟨q1,q2⟩:=Z9 h;exact⟨fun base=>by simp only[ZmD,ZmZ,TI'.conc,Zaj];exact q1 base,fun hw=>q2 hw⟩
theorem ZbG {id:Nat}:∀{pre:List TI'},Zck id pre=none→∀base,Zaj id (pre.map TI'.conc++base)=Zaj id base
 | [],_,base=>rfl
 |x::k,h,base=>by
  cases x with
  |blk j=>
   simp only[Zck]at h;split at h
   ·simp at h
   ·rename_i hj;simp only[ZmD,ZmZ,TI'.conc,Zaj,hj,if_false];exact ZbG h base
  |c p c=>simp only[Zck]at h;simp only[ZmD,ZmZ,TI'.conc,Zaj];exact ZbG h base
  |ops a i=>simp only[Zck]at h;simp only[ZmD,ZmZ,TI'.conc,Zaj];exact ZbG h base
theorem ZdR (H:Hyp P C fm fn RT r root base) {T:TS U} (hT:T.Inv) {cut:Cut U R} {k:List Item} (hc:Hcut P C fm fn RT r cut k) (h:ZjG P cut T=some r):AWP C fm (Zih C fn RT) k T.enc:=by unfold ZjG at h;split at h;rotate_left;simp at h;rename_i q hq;obtain⟨h1,h2⟩:=ZiM (C:=C) (r:=fm) (G:=Zih C fn RT) (k:=k) H.hU hT hq;exact h2 (hc q.1 q.2 h1 h)
theorem Zin (hX:TOk P.X) {T:TS U} (hT:T.Inv) {o:Oper} {i em q} (h:ZlG P.X T o=some (em,q)):
  (em=false→Zd P.X.E T.ep i o.op o.type T.enc.slots T.enc.objs=some {val:= .p (.bool !q)})∧(em=true→Zd P.X.E T.ep i o.op o.type T.enc.slots T.enc.objs=some {val:= .anyb}):=by
 unfold ZlG at h;split at h;rotate_left;simp at h;rename_i b t x u hop;rw[hop];split at h;rotate_left;simp at h;rename_i e d he hd;split at h;rotate_left;simp at h;rename_i u' hu;split at h;rotate_left;simp at h;rename_i q' hq';have fin:∀v:D,(Zc1 e.ti.d (.const (.slice none 0 0)) (T.enc |> fun _=>d.enc)=some v)→∀em',(v=if em' then .anyb else .p (.bool false))→some (em',q')=some (em,q)→
   (em=false→Zd P.X.E T.ep i (.binOp b t x (.const (.slice none 0 0)) u) o.type T.enc.slots T.enc.objs=some {val:= .p (.bool !q)})∧(em=true→Zd P.X.E T.ep i (.binOp b t x (.const (.slice none 0 0)) u) o.type T.enc.slots T.enc.objs=some {val:= .anyb}):=by
  intro v hv em' hem hh;simp only[ZmR,ZmS]at hh;obtain⟨rfl,rfl⟩:=hh;have hn:Operand.isNil (.const (.slice none 0 0))=true:=rfl;constructor
  ·intro h0;subst h0;simp only[Zmu,if_false]at hem;subst hem;simp only[Zd,hn,if_true,Zr he,Zb hX hd,hv];split at hq'<;>simp only[ZmR,reduceCtorEq]at hq'<;>subst hq'<;>simp[D.notb]
  ·intro h0;subst h0;simp only[if_true]at hem;subst hem;simp only[Zd,hn,if_true,Zr he,Zb hX hd,hv];split at hq'<;>simp only[ZmR,reduceCtorEq]at hq'<;>subst hq'<;>simp[D.notb]
 split at h
 ·rename_i t' xs;refine fin _ ?_ _ rfl h;simp only[hu,TV.enc,Zc.encE,Zc1,List.isEmpty_map]
 ·rename_i id n;split at h;rotate_left;simp at h;rename_i t' xs fix ho;have hl:=Za5 hT hd ho;refine fin _ ?_ _ rfl h;simp only[hu,TV.enc,Zc1];rw[hl];cases xs<;>simp
 ·simp at h
theorem Zhm {ops:Array Oper} {i:Nat} {o:Oper} {k:List Item} {st:St} (ho:ops[i]? =some o) (hg:ZQ ops st o.guard=some true) (hnc:∀c,o.op≠ .defer c)
  (h:∀(ρ:Id→Option Lay) (S:Nat→Prop) (a:Act) (w:World),Rep C (fun j=>j < i) ρ S st a.tmps w→a.defers=fm.ds→∃st1 v w',(execOp a.eval o).run C.E.prog w= .ok (.value v) w'∧(∃ρ' S',Rep C (fun j=>j < i∨j=i) ρ' S' st1 (a.put o.dst v).tmps w')∧AWP C fm G (.ops ops (i+1)::k) st1):
  AWP C fm G (.ops ops i::k) st:=by
 have hi:i < ops.size:=(Zmp.1 ho).1;intro ρ S a w hrep hd b k0 cs hb;have hrep:Rep C (fun j=>j < i) ρ S st a.tmps w:=hrep;have hwant:=ZaS hrep hg;obtain⟨st1,v,w',hrun,⟨ρ',S',hr'⟩,h1⟩:=h ρ S a w hrep hd;obtain⟨e2,a2',w2,hg2,harr⟩:=h1 ρ' S' (a.put o.dst v) w' (hr'.weakX (fun j hj=>by simp only[Xof];omega)) (by simp[hd]) b k0 cs hb;refine⟨e2,a2',w2,hg2,.of_steps ?_ harr⟩;have hsem:o.semAt b.roundOf a.eval=execOp a.eval o:=Oper.semAt_eq _ _ _ hnc;have hst:=stepGR_op (P:=C.E.prog) (b:=b) (a:=a) (k:=k.map conc++k0) (cs:=cs) (w:=w) (i:=i) (rest:=List.range' (i+1) (ops.size - (i+1))) ho hwant;have hfin:=Frame.finish_atR b a ops i (List.range' (i+1) (ops.size - (i+1))) (k.map conc++k0) v;simp only[ho,Option.bind_some]at hfin;refine .one (Zx _ _ _) ?_;simp only[ZmD,ZmZ,conc,Za1 hi];refine step_lone_go ?_;rw[hst,hsem,←hfin];simp[stepG.apply,hrun]
theorem Zjw {α β γ δ:Type} (f:α→γ) (g:β→δ) (l:List (α×β)) (j:Nat):(l.map fun e=>(f e.1,g e.2)).eraseIdx j=(l.eraseIdx j).map fun e=>(f e.1,g e.2):=by
 induction l generalizing j with
 |nil=>simp
 |cons x l ih=>cases j with
  |zero=>simp
  |succ j=>simp[ih]
theorem ZlV (H:Hyp P C fm fn RT r root base):∀(n:Nat),
  (∀pre T,Wf root base pre→T.Inv→evl P n none pre T=some r→AWP C fm (Zih C fn RT) (pre.map TI'.conc++base) T.enc)∧
  (∀pre T ops hist,Wf root base pre→T.Inv→evl P n (some (ops,hist)) pre T=some r→DW C fm (Zih C fn RT) (pre.map TI'.conc++base) ops hist T.enc):=by
 intro n
 induction n with
 |zero=>exact⟨fun pre T _ _ h=>by simp[evl]at h,fun pre T ops hist _ _ h=>by simp[evl]at h⟩
 |succ n ih=>
  obtain⟨ih1,ih2⟩:=ih;refine⟨fun pre T hw hT h=> ?_,fun pre T ops hist hw hT h=> ?_⟩
  ·match pre with
   | []=>
    simp only[evl]at h;split at h
    ·rename_i c hc;exact ZdR H hT (H.back c hc) h
    ·rename_i hb;rw[H.noback hb];unfold ZkG at h;split at h;rotate_left;simp at h;rename_i t ht;obtain⟨ps,q1,q2⟩:=ZkZ H.hU H.hX hT ht;exact Zl5 _ ps P.rms P.lent H.hE (by rw[H.hCE,H.rs];exact q1) (H.ret t h) (ZfH q2) H.ds
   | .blk id::pre=>
    simp only[evl]at h;exact Zak (ps':=[]) H.hE 1 _ _ [] rfl (by simp) (ih1 pre T hw hT h)
   | .ops ops i::pre=>
    simp only[evl]at h;split at h
    ·rename_i hn;exact Zak (ps':=[]) H.hE 1 (.ops ops i::_) _ [] (by simp only[run,hn];rfl) (by simp) (ih1 pre T.next hw hT.next h)
    ·rename_i o ho;have hi:i < ops.size:=(Zmp.1 ho).1;obtain⟨g,hg,h⟩:=Zgk h;cases g with
     |true=>
      simp only at h;split at h
      ·rename_i em q hnil;split at h;rotate_left;simp at h;rename_i hok;simp only[Zmt]at hok;obtain⟨c1,c2⟩:=Zin (i:=i) H.hX hT hnil;have einv:∀b,ZJ T i {val:=(.v .bool b:TV U)}:=fun b=>ZJ.pure (Zah _ _)
       have fr:∀b,fresh T i {val:=(.v .bool b:TV U)}=true:=fun b=>rfl
       have step:∀(v:D),Zd P.X.E T.ep i o.op o.type T.enc.slots T.enc.objs=some {val:=v}→AWP C fm (Zih C fn RT) (.ops ops (i+1)::(pre.map TI'.conc++base)) (T.enc.app i o.dst {val:=v})→AWP C fm (Zih C fn RT) (.ops ops i::(pre.map TI'.conc++base)) T.enc:=fun v hcv h1=>
        Zld (e:={val:=v}) H.hE ho hg (by rw[H.hCE];exact hcv) (by rw[H.hCE];exact hok.2) rfl (by simp) h1
       have nxt:∀b,evl P n none (.ops ops (i+1)::pre) (T.app i o.dst {val:= .v .bool b})=some r→AWP C fm (Zih C fn RT) (.ops ops (i+1)::(pre.map TI'.conc++base)) (T.enc.app i o.dst {val:= .p (.bool b)}):=fun b hb=>by have:=ih1 (.ops ops (i+1)::pre) _ hw (hT.app (fr b) (einv b)) hb;rw[Zbb T i o.dst _ []]at this;exact this
       cases em with
       |false=>exact step _ (c1 rfl) (nxt _ h)
       |true=>
        simp only[cond_true,agree]at h;split at h;rotate_left;simp at h;rename_i hag;have ht:=nxt true h;have hf:=nxt false (by rw[←hag];exact h);refine step _ (c2 rfl) ?_;cases hd:o.dst with
        |none=>rw[hd]at ht;exact ht
        |some t=>
         rw[hd]at ht hf;exact ZkS fun b=>by cases b;(·exact hf);exact ht
      ·split at h
       ·rename_i m hm;split at h;rotate_left;simp at h;rename_i hok;unfold nextM at hm;split at hm;rotate_left;simp at hm;rename_i it hop;split at hm;rotate_left;simp at hm;rename_i id hid;split at hm;rotate_left;simp at hm;rename_i ka kb rest cur hobj;split at hm;rotate_left;simp at hm;rename_i hfz;cases hm;have hlit:Zz it=true:=by simp only[Zfj,Zmt]at hok;have:=hok.2;rw[hop]at this;simp[Op.operands]at this;exact this
        have hdst:∀d,o.dst=some d→d < C.E.nt:=by rw[H.hCE];simp only[Zfj,Zmt]at hok;exact Za9 hok.1
        have hevi:ev C.E T.enc.slots 0 it= .it id:=by rw[H.hCE,Zb H.hX hid];rfl
        have hobj':T.enc.objs id=some (.mit (rest.map fun e=>(U.encE ka e.1,U.encE kb e.2)) (cur.map fun e=>(U.encE ka e.1,U.encE kb e.2))):=Zg hobj;refine Zhm ho hg (fun c hc=>by rw[hop]at hc;cases hc) fun ρ S a w hrep hd=> ?_
        rcases Zkx hrep (Nat.lt_irrefl i) hdst hlit hop hevi hobj' hfz with ⟨hnil,v,w',hrun,hrep'⟩ |⟨j,q,hq,v,w',hrun,hrep'⟩
        ·have:rest=[]:=by simpa using hnil
         subst this;refine⟨_,v,w',hrun,hrep', ?_⟩;have:=ih1 (.ops ops (i+1)::pre) _ hw (hT.app (dst:=o.dst) rfl (ZJ.pure (Zf (by simp[TV.fulls,TV.fullsL])))) h;rw[Zbb T i o.dst _ []]at this;exact this
        ·have hne:List.isEmpty rest=false:=by
          cases rest with
          |nil=>simp at hq
          |cons x l=>rfl
         rw[List.getElem?_map]at hq;cases hr:rest[j]? with
         |none=>rw[hr]at hq;simp at hq
         |some q0=>
          rw[hr]at hq;simp only[Option.map_some,ZmR]at hq;subst hq;simp only[hne,cond_false]at h;have hb:=ZfZ h hr;refine⟨_,v,w',hrun,hrep', ?_⟩;have:=ih1 (.ops ops (i+1)::pre) _ hw (hT.app (dst:=o.dst) rfl (Zb4 (by simp[TV.fulls,TV.fullsL]) (fun t xs fix he=>by cases he) (fun _=>by trivial))) hb;rw[Zbb T i o.dst _ []]at this;simp only[Zh.enc,TV.enc,TV.encs,Zc.encE,ZmD,List.map_nil,Zbt,Option.map_some,←Zjw]at this;exact this
       split at h
       ·rename_i m hm;split at h;rotate_left;simp at h;rename_i hok;refine Zhm ho hg (fun c hc=> ?_) fun ρ S a w hrep hd=> ?_
        ·unfold ZkN at hm;rw[hc]at hm;simp at hm
        obtain⟨_,c,hc1,hc2,v,hrun,hrep'⟩:=ZiL H.hX hT H.hCE hrep (Nat.lt_irrefl i) H.hE hok hm;refine⟨_,v,w,hrun,hrep', ?_⟩;have:=ih1 (.ops ops (i+1)::pre) _ hw (hT.app (dst:=o.dst) rfl (ZJ.pure (Zah _ _))) (Zj7 h hc1 hc2);rw[Zbb T i o.dst _ []]at this;exact this
       split at h
       ·rename_i q hq;split at h;rotate_left;simp at h;rename_i hok;obtain⟨hroom,h⟩:=Zo h;refine Zhm ho hg (fun c hc=> ?_) fun ρ S a w hrep hd=> ?_
        ·unfold ZkE at hq;rw[hc]at hq;split at hq<;>simp at hq
        obtain⟨_,heinv,v,w',hrun,hrep'⟩:=Ziw H.hX hT H.hCE hrep (Nat.lt_irrefl i) H.hE hok hq hroom;refine⟨_,v,w',hrun,hrep', ?_⟩;have:=ih1 (.ops ops (i+1)::pre) _ hw (hT.app (dst:=o.dst) rfl heinv) h;rw[Zbb T i o.dst _ []]at this;exact this
       obtain⟨e,he1,he2,he3⟩:=Zhw H hT hg h;split at he2;rotate_left;simp at he2;rename_i hok;obtain⟨cs,hoe⟩:=he3 hok;have hfr:fresh T i e=true:=by simp only[okE,Zmt]at hok;exact hok.1
       refine Zh3 hi (hoe.exec H.hE ho) ?_;have:=ih1 (.ops ops (i+1)::pre) _ hw (hT.app hfr he1) he2;rw[Zbb T i o.dst e cs]at this;exact this
     |false=>
      simp only at h;split at h;rotate_left;simp at h;rename_i hd;have e0:ZJ T i {val:=(.undef:TV U)}:=ZJ.pure (Zf rfl);have:=ih1 (.ops ops (i+1)::pre) _ hw (hT.app rfl e0) h;rw[Zbb T i o.dst _ []]at this;exact Zh3 hi (Zgm ho hg (by rw[H.hCE];exact hd)) this
   | .c p c::pre=>
    obtain⟨hat,hw'⟩:=hw;simp only[evl]at h;split at h
    ·rename_i x hx;have hm:=List.mem_of_find?_eq_some hx;have hp:x.1=p:=by have:=List.find?_some hx;simpa using this
     exact ZdR H hT (H.cuts x hm c _ (by rw[hp];exact hat)) h
    ·cases c with
     |skip=>simp only at h;exact Zak (ps':=[]) H.hE 1 _ _ [] rfl (by simp) (ih1 pre T hw' hT h)
     |seq a b=>
      simp only at h;refine Zak (ps':=[]) H.hE 1 (.c (.seq a b)::_) _ [] rfl (by simp) (ih1 (.c (0::p) a:: .c (1::p) b::pre) T ⟨?_, ?_,hw'⟩ hT h)
      ·simp only[atP,hat];rfl
      ·simp only[atP,hat]
     |block id b=>
      simp only at h;refine Zak (ps':=[]) H.hE 1 (.c (.block id b)::_) _ [] rfl (by simp) (ih1 (.c (4::p) b:: .blk id::pre) T ⟨?_,hw'⟩ hT h);simp only[atP,hat];rfl
     |region id ops dr=>
      cases dr with
      |false=>simp only at h;exact Zak (ps':=[]) H.hE 1 (.c (.region id ops false)::_) _ [] rfl (by simp) (ih1 (.ops ops 0::pre) T hw' hT h)
      |true=>simp only at h;exact ZkR H.hE H.mixed (ih2 pre T ops [] hw' hT h)
     |cond x a b=>
      simp only at h;split at h;rotate_left;simp at h;rename_i hl;split at h;rotate_left;simp at h;rename_i v hv;have hev:ev C.E T.enc.slots 0 x= .p (.bool v):=by rw[H.hCE,Zb H.hX hv];rfl
      cases v with
      |true=>
       refine Zak (ps':=[]) H.hE 1 (.c (.cond x a b)::_) _ [] (by simp only[run,hl,if_true,hev];rfl) (by simp) (ih1 (.c (2::p) a::pre) T ⟨?_,hw'⟩ hT h);simp only[atP,hat]
      |false=>
       refine Zak (ps':=[]) H.hE 1 (.c (.cond x a b)::_) _ [] (by simp only[run,hl,if_true,hev];rfl) (by simp) (ih1 (.c (3::p) b::pre) T ⟨?_,hw'⟩ hT h);simp only[atP,hat]
     |exit id=>
      simp only at h;split at h
      ·rename_i pre' hp;obtain⟨q1,q2⟩:=Z9 (root:=root) (base:=base) hp;refine Zak (ps':=[]) H.hE 1 (.c (.exit id)::_) _ [] (by have hx:Zaj id ((List.map TI'.conc pre).append base)=some (pre'.map TI'.conc++base):=q1 base;simp only[run,hx]) (by simp) (ih1 pre' T (q2 hw') hT h)
      ·rename_i hp;split at h;rotate_left;simp at h;rename_i x hx;have hm:=List.mem_of_find?_eq_some hx;have hpid:x.1=id:=by have:=List.find?_some hx;simpa using this
       obtain⟨k,hk,hc⟩:=H.exits x hm;have:=ZdR H hT hc h;have hx:Zaj id ((List.map TI'.conc pre).append base)=some k:=by rw[←hk,hpid];exact ZbG hp base
       exact Zak (ps':=[]) H.hE 1 (.c (.exit id)::_) _ [] (by simp only[run,hx]) (by simp) this
     |ret=>
      simp only[ZkG]at h;split at h;rotate_left;simp at h;rename_i t ht;obtain⟨ps,q1,q2⟩:=ZkZ H.hU H.hX hT ht;exact Zl4 _ ps P.rms P.lent H.hE (by rw[H.hCE,H.rs];exact q1) (H.ret t h) (ZfH q2) H.ds
     |_=>simp at h
  ·simp only[evl]at h;split at h
   ·rename_i hn;split at h;rotate_left;simp at h;rename_i hok;simp only[Zmt,decide_eq_true_eq]at hok;exact dw_end hok.2 hok.1 (ih1 pre T.next hw hT.next h)
   ·rename_i o ho;obtain⟨g,hg,h⟩:=Zgk h;cases g with
    |true=>
     simp only at h;obtain⟨e,he1,he2,he3⟩:=Zhw H hT hg h;split at he2;rotate_left;simp at he2;rename_i hok;simp only[Zmt]at hok;obtain⟨cs,hoe⟩:=he3 hok.1;have hfr:fresh T hist.length e=true:=by have:=hok.1;simp only[okE,Zmt]at this;exact this.1
     have:=ih2 pre _ ops _ hw (hT.app hfr he1) he2;rw[Zbb T hist.length o.dst e cs]at this;refine dw_op ho ⟨hoe, ?_,rfl,hok.2⟩ this;simp[fpT,Zh.enc,List.map_map,Function.comp_def]
    |false=>
     simp only at h;split at h;rotate_left;simp at h;rename_i hd;simp only[Zmt]at hd;have e0:ZJ T hist.length {val:=(.undef:TV U)}:=ZJ.pure (Zf rfl);have:=ih2 pre _ ops _ hw (hT.app rfl e0) h;rw[Zbb T hist.length o.dst _ []]at this;exact dw_op ho ⟨.skip hg (by rw[H.hCE];exact hd.1),rfl,rfl,hd.2⟩ this
end
end
end Eng
namespace Eng
open Go
inductive Sh1 where
 |v (t:Ty) |pp (t:Ty) |full (id:Id) |sl (id:Id) |ptr (id:Id) (i j:Nat) |ptrI (id:Id) (j:Nat)
 |map (id:Id) |it (id:Id) |nilp |nilfn |undef |nils (t:Ty) |clip (t:Ty)
inductive Sh where
 |o (s:Sh1) |agg (l:List Sh1) |fn (f:Nat) (a b:List Sh1)
inductive ShO where
 |box (l:List Sh) |boxS (t:Ty) |arr (t:Ty) (fix:Bool) |map (k v:Ty) |sit |mit (k v:Ty)
abbrev Zmm (U:Zc):Sh1→Type
 | .v t=>El U.car t
 | .pp t=>El U.car t
 | .full _=>Nat
 | .sl _=>Nat×Nat
 | .ptrI _ _=>Nat
 | .clip t=>List (El U.car t)
 |_=>Unit
abbrev ZgC (U:Zc):List Sh1→Type
 | []=>Unit
 |s::r=>Zmm U s×ZgC U r
abbrev Val (U:Zc):Sh→Type
 | .o s=>Zmm U s
 | .agg l=>ZgC U l
 | .fn _ a b=>ZgC U a×ZgC U b
abbrev Zb7 (U:Zc):List Sh→Type
 | []=>Unit
 |s::r=>Val U s×Zb7 U r
abbrev ValO (U:Zc):ShO→Type
 | .box l=>Zb7 U l
 | .boxS t=>El U.car t
 | .arr t _=>List (El U.car t)
 | .map k v=>List (El U.car k×El U.car v)
 | .sit=>List UInt8×Nat
 | .mit k v=>List (El U.car k×El U.car v)×Option (El U.car k×El U.car v)
abbrev Zaf (U:Zc):List ShO→Type
 | []=>Unit
 |s::r=>ValO U s×Zaf U r
section
variable {U:Zc}
def bld1:(s:Sh1)→Zmm U s→TV U
 | .v t,x=> .v t x
 | .pp t,x=> .pp (U.cellsE t x)
 | .full id,n=> .full id n
 | .sl id,p=> .sl id p.1 p.2
 | .ptr id i j,_=> .ptr id i j
 | .ptrI id j,i=> .ptr id i j
 | .map id,_=> .map id
 | .it id,_=> .it id
 | .nilp,_=> .nilp
 | .nilfn,_=> .nilfn
 | .undef,_=> .undef
 | .nils t,_=> .nils t
 | .clip t,xs=> .clip t xs
def ZiR:(l:List Sh1)→ZgC U l→List (TV U)
 | [],_=>[]
 |s::r,v=>bld1 s v.1::ZiR r v.2
def bld:(s:Sh)→Val U s→TV U
 | .o s,x=>bld1 s x
 | .agg l,x=> .agg (ZiR l x)
 | .fn f a b,x=> .fn f (ZiR a x.1) (ZiR b x.2)
def Zmk:(l:List Sh)→Zb7 U l→List (TV U)
 | [],_=>[]
 |s::r,v=>bld s v.1::Zmk r v.2
def bldO:(s:ShO)→ValO U s→TO U
 | .box l,x=> .box (Zmk l x)
 | .boxS t,x=> .box ((U.cellsE t x).map lv)
 | .arr t fix,xs=> .arr t xs fix
 | .map k v,kv=> .map k v kv
 | .sit,p=> .sit p.1 p.2
 | .mit k v,p=> .mit k v p.1 p.2
def Zj1:(l:List ShO)→Zaf U l→List (TO U)
 | [],_=>[]
 |s::r,v=>bldO s v.1::Zj1 r v.2
def mat1:(s:Sh1)→TV U→Option (Zmm U s)
 | .v t,.v t' x=>if h:t'=t then some (h▸x)else none
 | .pp t,.pp cs=>U.ofE t cs
 | .full id,.full id' n=>if id'=id then some n else none
 | .sl id,.sl id' o l=>if id'=id then some (o,l)else none
 | .ptr id i j,.ptr id' i' j'=>if id'=id∧i'=i∧j'=j then some ()else none
 | .ptrI id j,.ptr id' i j'=>if id'=id∧j'=j then some i else none
 | .map id,.map id'=>if id'=id then some ()else none
 | .it id,.it id'=>if id'=id then some ()else none
 | .nilp,.nilp=>some ()
 | .nilfn,.nilfn=>some ()
 | .undef,.undef=>some ()
 | .nils t,.nils t'=>if t'=t then some ()else none
 | .clip t,.clip t' xs=>if h:t'=t then some (h▸xs)else none
 |_,_=>none
def Zf9:(l:List Sh1)→List (TV U)→Option (ZgC U l)
 | [],[]=>some ()
 |s::r,d::ds=>match mat1 s d,Zf9 r ds with
  |some x,some y=>some (x,y)
  |_,_=>none
 |_,_=>none
def mat:(s:Sh)→TV U→Option (Val U s)
 | .o s,d=>mat1 s d
 | .agg l,.agg cs=>Zf9 l cs
 | .fn f a b,.fn f' x y=>if f'=f then match Zf9 a x,Zf9 b y with
  |some p,some q=>some (p,q)
  |_,_=>none
  else none
 |_,_=>none
def ZlI:(l:List Sh)→List (TV U)→Option (Zb7 U l)
 | [],[]=>some ()
 |s::r,d::ds=>match mat s d,ZlI r ds with
  |some x,some y=>some (x,y)
  |_,_=>none
 |_,_=>none
def matO:(s:ShO)→TO U→Option (ValO U s)
 | .box l,.box cs=>ZlI l cs
 | .boxS t,.box cs=>match Zm TV.leaf? cs with
  |some ls=>U.ofE t ls
  |none=>none
 | .arr t fix,.arr t' xs fix'=>if h:t'=t then if fix'=fix then some (h▸xs)else none else none
 | .map k v,.map k' v' kv=>if h:k'=k then if h':v'=v then some (h▸h'▸kv)else none else none
 | .sit,.sit s p=>some (s,p)
 | .mit k v,.mit k' v' r c=>if h:k'=k then if h':v'=v then some (h▸h'▸(r,c))else none else none
 |_,_=>none
def Ziq:(l:List ShO)→List (TO U)→Option (Zaf U l)
 | [],[]=>some ()
 |s::r,d::ds=>match matO s d,Ziq r ds with
  |some x,some y=>some (x,y)
  |_,_=>none
 |_,_=>none
theorem ZhJ (hU:UOk U) {s:Sh1} {d:TV U} {x:Zmm U s} (h:mat1 s d=some x):d=bld1 s x:=by
 unfold mat1 at h;split at h
 ·split at h;rotate_left;simp at h;rename_i he;subst he;cases h;rfl
 ·have:=ZaC hU h;rw[bld1,this]
 ·split at h;rotate_left;simp at h;rename_i he;subst he;cases h;rfl
 ·split at h;rotate_left;simp at h;rename_i he;subst he;cases h;rfl
 ·split at h;rotate_left;simp at h;rename_i he;obtain⟨rfl,rfl,rfl⟩:=he;rfl
 ·split at h;rotate_left;simp at h;rename_i he;obtain⟨rfl,rfl⟩:=he;cases h;rfl
 ·split at h;rotate_left;simp at h;rename_i he;subst he;rfl
 ·split at h;rotate_left;simp at h;rename_i he;subst he;rfl
 ·rfl
 ·rfl
 ·rfl
 ·split at h;rotate_left;simp at h;rename_i he;subst he;rfl
 ·split at h;rotate_left;simp at h;rename_i he;subst he;cases h;rfl
 ·simp at h
theorem ZbE (hU:UOk U):∀{l:List Sh1} {ds:List (TV U)} {x:ZgC U l},Zf9 l ds=some x→ds=ZiR l x
 | [],[],x,h=>rfl
 | [],_::_,x,h=>by simp[Zf9]at h
 |_::_,[],x,h=>by simp[Zf9]at h
 |s::r,d::ds,x,h=>by simp only[Zf9]at h;split at h;rotate_left;simp at h;rename_i a b h1 h2;cases h;rw[ZiR,←ZhJ hU h1,←ZbE hU h2]
theorem ZlJ (hU:UOk U) {s:Sh} {d:TV U} {x:Val U s} (h:mat s d=some x):d=bld s x:=by
 unfold mat at h;split at h
 ·exact ZhJ hU h
 ·rw[bld,ZbE hU h]
 ·split at h;rotate_left;simp at h;rename_i he;subst he;split at h;rotate_left;simp at h;rename_i p q h1 h2;cases h;rw[bld,ZbE hU h1,ZbE hU h2]
 ·simp at h
theorem ZdF (hU:UOk U):∀{l:List Sh} {ds:List (TV U)} {x:Zb7 U l},ZlI l ds=some x→ds=Zmk l x
 | [],[],x,h=>rfl
 | [],_::_,x,h=>by simp[ZlI]at h
 |_::_,[],x,h=>by simp[ZlI]at h
 |s::r,d::ds,x,h=>by simp only[ZlI]at h;split at h;rotate_left;simp at h;rename_i a b h1 h2;cases h;rw[Zmk,←ZlJ hU h1,←ZdF hU h2]
theorem ZkC (hU:UOk U) {s:ShO} {d:TO U} {x:ValO U s} (h:matO s d=some x):d=bldO s x:=by
 unfold matO at h;split at h
 ·rw[bldO,ZdF hU h]
 ·split at h;rotate_left;simp at h;rename_i ls hls;rw[bldO,ZaC hU h,Zcv hls]
 ·split at h;rotate_left;simp at h;rename_i he;subst he;split at h;rotate_left;simp at h;rename_i hf;subst hf;cases h;rfl
 ·split at h;rotate_left;simp at h;rename_i he;subst he;split at h;rotate_left;simp at h;rename_i hf;subst hf;cases h;rfl
 ·cases h;rfl
 ·split at h;rotate_left;simp at h;rename_i he;subst he;split at h;rotate_left;simp at h;rename_i hf;subst hf;cases h;rfl
 ·simp at h
theorem ZeN (hU:UOk U):∀{l:List ShO} {ds:List (TO U)} {x:Zaf U l},Ziq l ds=some x→ds=Zj1 l x
 | [],[],x,h=>rfl
 | [],_::_,x,h=>by simp[Ziq]at h
 |_::_,[],x,h=>by simp[Ziq]at h
 |s::r,d::ds,x,h=>by simp only[Ziq]at h;split at h;rotate_left;simp at h;rename_i a b h1 h2;cases h;rw[Zj1,←ZkC hU h1,←ZeN hU h2]
structure FC (U:Zc) where
 X:ZG U
 fn:Func
 c:Code
 sigs:List (Nat×Zi1 U)
 lent:List Nat
 rms:List RM
 rhs:List (Option Nat)
 keep:List Nat:=[]
 alt:List (Nat×Nat):=[]
structure FOk (F:FC U):Prop where
 hU:UOk U
 hX:TOk F.X
 hE:Zk F.X.E
 mixed:F.X.prog.follows .mixedOrders=true
 sigs:∀x∈F.sigs,Zeg F.X.E x.1 x.2
structure Lp (U:Zc) (R:Type) where
 live:List Nat
 frz:List Nat
 shs:List Sh
 sho:List ShO
 f:Zb7 U shs→Zaf U sho→Option R
variable {R:Type}
def Lp.cut (L:Lp U R):Cut U R:=⟨L.live,L.frz,fun ds os=>match ZlI L.shs ds,Ziq L.sho os with
 |some v,some w=>L.f v w
 |_,_=>none⟩
def Lp.st (F:FC U) (L:Lp U R) (v:Zb7 U L.shs) (w:Zaf U L.sho):TS U:=mkC F.lent L.live (Zmk L.shs v) (Zj1 L.sho w)
def Pt (F:FC U) (RT:Ret) (k:List Item) (T:TS U):Prop:=
 ∀W Lt S0 lays,AWP ⟨F.X.E,W,Lt,S0,lays⟩ ⟨none,[]⟩ (Zih ⟨F.X.E,W,Lt,S0,lays⟩ F.fn RT) k T.enc
def Zhq (F:FC U) (RT:Ret) (r:R) (L:Lp U R) (k:List Item):Prop:=∀v w,(L.st F v w).Inv→L.f v w=some r→Pt F RT k (L.st F v w)
def cutsOf (l:List (List Nat×Lp U R)):List (List Nat×Cut U R):=l.map fun x=>(x.1,x.2.cut)
def ZlT (l:List (Nat×Lp U R)):List (Nat×Cut U R):=l.map fun x=>(x.1,x.2.cut)
def Zh1:Option (Lp U R)→Option (Cut U R)
 |some L=>some L.cut
 |none=>none
def FC.par (F:FC U) (cuts:List (List Nat×Lp U R)) (back:Option (Lp U R)) (exits:List (Nat×Lp U R)) (ret:ZbA U→Option R):Par U R:=
 {X:=F.X,sigs:=F.sigs,cuts:=cutsOf cuts,back:=Zh1 back,exits:=ZlT exits,lent:=F.lent,rs:=F.fn.results.toList,rms:=F.rms,rhs:=F.rhs,ret:=ret,keep:=F.keep,alt:=F.alt}
def Zka (F:FC U) (p:List Nat):List Item:=match atP (F.c,[]) p with
 |some x=> .c x.1::x.2
 |none=>[]
def Zbc (F:FC U) (RT:Ret) (r:R):List (List Nat×Lp U R)→Prop
 | []=>True
 |x::l=>Zhq F RT r x.2 (Zka F x.1)∧Zbc F RT r l
def ZaP (F:FC U) (RT:Ret) (r:R) (base:List Item):List (Nat×Lp U R)→Prop
 | []=>True
 |x::l=>(∃k,Zaj x.1 base=some k∧Zhq F RT r x.2 k)∧ZaP F RT r base l
theorem Zhq.hcut {F:FC U} (hU:UOk U) {RT:Ret} {r:R} {L:Lp U R} {k:List Item} (h:Zhq F RT r L k) {P:Par U R} (hl:P.lent=F.lent) {W:World} {Lt S0:Nat→Prop} {lays:Nat→Option Lay}:
  Hcut P ⟨F.X.E,W,Lt,S0,lays⟩ ⟨none,[]⟩ F.fn RT r L.cut k:=by
 intro ds os hi hk;simp only[Lp.cut]at hk;split at hk;rotate_left;simp at hk;rename_i v w hv hw;have e1:=ZdF hU hv;have e2:=ZeN hU hw;have:mkC P.lent L.cut.live ds os=L.st F v w:=by rw[e1,e2,hl];rfl
 rw[this]at hi⊢
 exact h v w hi hk W Lt S0 lays
theorem Pt.evl {F:FC U} (hF:FOk F) {RT:Ret} {r:R} (n:Nat) {cuts:List (List Nat×Lp U R)} {back:Option (Lp U R)} {exits:List (Nat×Lp U R)} {ret:ZbA U→Option R} {base:List Item} {pre:List TI'} {T:TS U}
  (hT:T.Inv) (h:Eng.evl (F.par cuts back exits ret) n none pre T=some r) (hw:Wf (F.c,[]) base pre) (hc:Zbc F RT r cuts) (hb:∀L,back=some L→Zhq F RT r L base) (hnb:back=none→base=[])
  (he:ZaP F RT r base exits) (hret:∀t,ret t=some r→t.enc=RT):Pt F RT (pre.map TI'.conc++base) T:=by
 intro W Lt S0 lays;refine(ZlV (fm:=⟨none,[]⟩) (fn:=F.fn) (RT:=RT) (r:=r) (root:=(F.c,[])) (base:=base) (C:=⟨F.X.E,W,Lt,S0,lays⟩) ?_ n).1 pre T hw hT h;refine⟨hF.hU,hF.hX,hF.hE,rfl,hF.mixed,rfl,rfl,hF.sigs,fun x hx c k hat=> ?_,fun c hc'=> ?_,fun hn=> ?_,fun x hx=> ?_,hret⟩
 ·obtain⟨y,hy,rfl⟩:=List.mem_map.1 hx;have:Zhq F RT r y.2 (Zka F y.1):=by
   clear h hx hat
   induction cuts with
   |nil=>simp at hy
   |cons z l ih=>
    rcases ZmF.1 hy with rfl |hy
    ·exact hc.1
    ·exact ih hc.2 hy
  rw[show Zka F y.1= .c c::k by unfold Zka;rw[show atP (F.c,[]) y.1=some (c,k)from hat]]at this;exact this.hcut hF.hU rfl
 ·cases back with
  |none=>simp[FC.par,Zh1]at hc'
  |some L=>
   simp only[FC.par,Zh1,ZmR]at hc';subst hc';exact(hb L rfl).hcut hF.hU rfl
 ·cases back with
  |none=>exact hnb rfl
  |some L=>simp[FC.par,Zh1]at hn
 ·obtain⟨y,hy,rfl⟩:=List.mem_map.1 hx;have:∃k,Zaj y.1 base=some k∧Zhq F RT r y.2 k:=by
   clear h hx
   induction exits with
   |nil=>simp at hy
   |cons z l ih=>
    rcases ZmF.1 hy with rfl |hy
    ·exact he.1
    ·exact ih he.2 hy
  obtain⟨k,hk,hl⟩:=this;exact⟨k,hk,hl.hcut hF.hU rfl⟩
theorem Pt.evlAt {F:FC U} (hF:FOk F) {RT:Ret} {r:R} (n:Nat) {cuts:List (List Nat×Lp U R)} {back:Option (Lp U R)} {exits:List (Nat×Lp U R)} {ret:ZbA U→Option R} {base:List Item} {pre:List TI'} {T:TS U} {k:List Item}
  (hk:k=pre.map TI'.conc++base) (hT:T.Inv) (h:Eng.evl (F.par cuts back exits ret) n none pre T=some r) (hw:Wf (F.c,[]) base pre) (hc:Zbc F RT r cuts) (hb:∀L,back=some L→Zhq F RT r L base) (hnb:back=none→base=[])
  (he:ZaP F RT r base exits) (hret:∀t,ret t=some r→t.enc=RT):Pt F RT k T:=hk▸Pt.evl hF n hT h hw hc hb hnb he hret
theorem Pt.lp {F:FC U} (hF:FOk F) {RT:Ret} {body:Code} {k:List Item} {T:TS U} (h:Pt F RT (.c body:: .lp body::k) T):Pt F RT (.lp body::k) T:=fun W Lt S0 lays=>
 Zak (ps':=[]) hF.hE 1 (.lp body::k) _ [] rfl (by simp) (h W Lt S0 lays)
theorem Pt.loop {F:FC U} (hF:FOk F) {RT:Ret} {body:Code} {k:List Item} {T:TS U} (h:Pt F RT (.c body:: .lp body::k) T):Pt F RT (.c (.loop body)::k) T:=fun W Lt S0 lays=>
 Zak (ps':=[]) hF.hE 1 (.c (.loop body)::k) _ [] rfl (by simp) (h W Lt S0 lays)
theorem ZlO {F:FC U} (hF:FOk F) {RT:Ret} {r:R} (N:Nat) {q:List Nat} {body:Code} {k:List Item} {live frz:List Nat} {shs:List Sh} {sho:List ShO} (f:Nat→Zb7 U shs→Zaf U sho→Option R)
  {cuts:Nat→List (List Nat×Lp U R)} {exits:List (Nat×Lp U R)} {ret:ZbA U→Option R} (hq:atP (F.c,[]) q=some (.loop body,k)) (h0:∀v w,f 0 v w=none)
  (hs:∀n v w,f (n+1) v w=evl (F.par (cuts n) (some ⟨live,frz,shs,sho,f n⟩) exits ret) N none [.c (5::q) body] (Lp.st F ⟨live,frz,shs,sho,f (n+1)⟩ v w))
  (hc:∀n,Zhq F RT r ⟨live,frz,shs,sho,f n⟩ (.lp body::k)→Zbc F RT r (cuts n)) (he:ZaP F RT r (.lp body::k) exits) (hret:∀t,ret t=some r→t.enc=RT):
  ∀n,Zhq F RT r ⟨live,frz,shs,sho,f n⟩ (Zka F q):=by
 have hst:Zka F q= .c (.loop body)::k:=by unfold Zka;rw[hq]
 rw[hst];have key:∀n,Zhq F RT r ⟨live,frz,shs,sho,f n⟩ (.c body:: .lp body::k):=by
  intro n
  induction n with
  |zero=>intro v w _ h;rw[show (Lp.mk live frz shs sho (f 0)).f v w=f 0 v w from rfl,h0]at h;simp at h
  |succ n ih=>
   intro v w hi h;have h':f (n+1) v w=some r:=h;rw[hs n v w]at h';have hback:Zhq F RT r ⟨live,frz,shs,sho,f n⟩ (.lp body::k):=fun v w hi h=>(ih v w hi h).lp hF
   refine Pt.evl hF N (base:= .lp body::k) hi h' ⟨?_,trivial⟩ (hc n hback) (fun L hL=> ?_) (fun hn=>by simp at hn) he hret
   ·simp only[atP,hq,List.map_nil,List.nil_append]
   ·cases hL;exact hback
 exact fun n v w hi h=>(key n v w hi h).loop hF
inductive ShA where
 |p (t:Ty) |box (t:Ty) |arr (t:Ty) |map (k v:Ty) |ptr (t:Ty) |fn (f:Nat) (a b:List Sh1) |nilp |nilfn |part (t:Ty)
inductive ShR where
 |p (t:Ty) |own (t:Ty) |box (t:Ty) |map (k v:Ty) |view (k:Nat)
abbrev Zhp (U:Zc):Sh1→Type
 | .v t=>El U.car t
 | .pp t=>El U.car t
 |_=>Unit
abbrev Zcw (U:Zc):List Sh1→Type
 | []=>Unit
 |s::r=>Zhp U s×Zcw U r
abbrev Zlf (U:Zc):ShA→Type
 | .p t=>El U.car t
 | .box t=>El U.car t
 | .arr t=>List (El U.car t)
 | .map k v=>List (El U.car k×El U.car v)
 | .ptr t=>El U.car t
 | .fn _ a b=>Zcw U a×Zcw U b
 | .part t=>List (El U.car t)×Nat×Nat
 | .nilp=>Unit
 | .nilfn=>Unit
abbrev ZfI (U:Zc):List ShA→Type
 | []=>Unit
 |s::r=>Zlf U s×ZfI U r
abbrev Zma (U:Zc):ShR→Type
 | .p t=>El U.car t
 | .own t=>List (El U.car t)
 | .box t=>El U.car t
 | .map k v=>List (El U.car k×El U.car v)
 | .view _=>Nat×Nat
abbrev ZgB (U:Zc):List ShR→Type
 | []=>Unit
 |s::r=>Zma U s×ZgB U r
abbrev ZgA (U:Zc):List (Nat×ShA)→Type
 | []=>Unit
 |s::r=>Zlf U s.2×ZgA U r
def Zl2:(s:Sh1)→Zhp U s→TQ U
 | .v t,x=> .l ⟨t,x⟩
 | .pp t,x=> .ptr (U.cellsE t x)
 | .nilp,_=> .nilp
 |_,_=> .nilfn
def Zgt:(l:List Sh1)→Zcw U l→List (TQ U)
 | [],_=>[]
 |s::r,v=>Zl2 s v.1::Zgt r v.2
def Zml:(s:ShA)→Zlf U s→ZR U
 | .p t,x=> .p (.l ⟨t,x⟩)
 | .box t,x=> .box (U.cellsE t x)
 | .arr t,xs=> .arr t xs
 | .map k v,kv=> .map k v kv
 | .ptr t,x=> .p (.ptr (U.cellsE t x))
 | .fn f a b,x=> .p (.fn f (Zgt a x.1) (Zgt b x.2))
 | .nilp,_=> .p .nilp
 | .nilfn,_=> .p .nilfn
 | .part t,x=> .part t x.1 x.2.1 x.2.2
def Zdb:(l:List ShA)→ZfI U l→List (ZR U)
 | [],_=>[]
 |s::r,v=>Zml s v.1::Zdb r v.2
def bldR:(s:ShR)→Zma U s→TRV U
 | .p t,x=> .p ⟨t,x⟩
 | .own t,xs=> .own t xs
 | .box t,x=> .box (U.cellsE t x)
 | .map k v,kv=> .map k v kv
 | .view k,p=> .view k p.1 p.2
def ZkP:(l:List ShR)→ZgB U l→List (TRV U)
 | [],_=>[]
 |s::r,v=>bldR s v.1::ZkP r v.2
def ZkO:(l:List (Nat×ShA))→ZgA U l→List (Nat×ZR U)
 | [],_=>[]
 |s::r,v=>(s.1,Zml s.2 v.1)::ZkO r v.2
def ZlK:(s:Sh1)→TQ U→Option (Zhp U s)
 | .v t,.l x=>x.as t
 | .pp t,.ptr cs=>U.ofE t cs
 | .nilp,.nilp=>some ()
 | .nilfn,.nilfn=>some ()
 |_,_=>none
def ZdG:(l:List Sh1)→List (TQ U)→Option (Zcw U l)
 | [],[]=>some ()
 |s::r,d::ds=>match ZlK s d,ZdG r ds with
  |some x,some y=>some (x,y)
  |_,_=>none
 |_,_=>none
def matA:(s:ShA)→ZR U→Option (Zlf U s)
 | .p t,.p (.l x)=>x.as t
 | .box t,.box cs=>U.ofE t cs
 | .arr t,.arr t' xs=>if h:t'=t then some (h▸xs)else none
 | .map k v,.map k' v' kv=>if h:k'=k then if h':v'=v then some (h▸h'▸kv)else none else none
 | .ptr t,.p (.ptr cs)=>U.ofE t cs
 | .fn f a b,.p (.fn f' x y)=>if f'=f then match ZdG a x,ZdG b y with
  |some p,some q=>some (p,q)
  |_,_=>none
  else none
 | .nilp,.p .nilp=>some ()
 | .nilfn,.p .nilfn=>some ()
 | .part t,.part t' xs off len=>if h:t'=t then some (h▸xs,off,len)else none
 |_,_=>none
def Zir:(l:List ShA)→List (ZR U)→Option (ZfI U l)
 | [],[]=>some ()
 |s::r,d::ds=>match matA s d,Zir r ds with
  |some x,some y=>some (x,y)
  |_,_=>none
 |_,_=>none
def matR:(s:ShR)→TRV U→Option (Zma U s)
 | .p t,.p x=>x.as t
 | .own t,.own t' xs=>if h:t'=t then some (h▸xs)else none
 | .box t,.box cs=>U.ofE t cs
 | .map k v,.map k' v' kv=>if h:k'=k then if h':v'=v then some (h▸h'▸kv)else none else none
 | .view k,.view k' o l=>if k'=k then some (o,l)else none
 |_,_=>none
def Zip:(l:List ShR)→List (TRV U)→Option (ZgB U l)
 | [],[]=>some ()
 |s::r,d::ds=>match matR s d,Zip r ds with
  |some x,some y=>some (x,y)
  |_,_=>none
 |_,_=>none
def Zio:(l:List (Nat×ShA))→List (Nat×ZR U)→Option (ZgA U l)
 | [],[]=>some ()
 |s::r,d::ds=>if d.1=s.1 then match matA s.2 d.2,Zio r ds with
  |some x,some y=>some (x,y)
  |_,_=>none
  else none
 |_,_=>none
theorem Zjx (hU:UOk U) {s:Sh1} {d:TQ U} {x:Zhp U s} (h:ZlK s d=some x):d=Zl2 s x:=by
 unfold ZlK at h;split at h
 ·rw[ZN h];rfl
 ·rw[Zl2,ZaC hU h]
 ·rfl
 ·rfl
 ·simp at h
theorem Zb0 (hU:UOk U):∀{l:List Sh1} {ds:List (TQ U)} {x:Zcw U l},ZdG l ds=some x→ds=Zgt l x
 | [],[],x,h=>rfl
 | [],_::_,x,h=>by simp[ZdG]at h
 |_::_,[],x,h=>by simp[ZdG]at h
 |s::r,d::ds,x,h=>by simp only[ZdG]at h;split at h;rotate_left;simp at h;rename_i a b h1 h2;cases h;rw[Zgt,←Zjx hU h1,←Zb0 hU h2]
theorem ZhI (hU:UOk U) {s:ShA} {d:ZR U} {x:Zlf U s} (h:matA s d=some x):d=Zml s x:=by
 unfold matA at h;split at h
 ·rw[ZN h];rfl
 ·rw[Zml,ZaC hU h]
 ·split at h;rotate_left;simp at h;rename_i he;subst he;cases h;rfl
 ·split at h;rotate_left;simp at h;rename_i he;subst he;split at h;rotate_left;simp at h;rename_i hf;subst hf;cases h;rfl
 ·rw[Zml,ZaC hU h]
 ·split at h;rotate_left;simp at h;rename_i he;subst he;split at h;rotate_left;simp at h;rename_i p q h1 h2;cases h;rw[Zml,Zb0 hU h1,Zb0 hU h2]
 ·rfl
 ·rfl
 ·split at h;rotate_left;simp at h;rename_i he;subst he;cases h;rfl
 ·simp at h
theorem ZeO (hU:UOk U):∀{l:List ShA} {ds:List (ZR U)} {x:ZfI U l},Zir l ds=some x→ds=Zdb l x
 | [],[],x,h=>rfl
 | [],_::_,x,h=>by simp[Zir]at h
 |_::_,[],x,h=>by simp[Zir]at h
 |s::r,d::ds,x,h=>by simp only[Zir]at h;split at h;rotate_left;simp at h;rename_i a b h1 h2;cases h;rw[Zdb,←ZhI hU h1,←ZeO hU h2]
theorem ZkB (hU:UOk U) {s:ShR} {d:TRV U} {x:Zma U s} (h:matR s d=some x):d=bldR s x:=by
 unfold matR at h;split at h
 ·rw[ZN h];rfl
 ·split at h;rotate_left;simp at h;rename_i he;subst he;cases h;rfl
 ·rw[bldR,ZaC hU h]
 ·split at h;rotate_left;simp at h;rename_i he;subst he;split at h;rotate_left;simp at h;rename_i hf;subst hf;cases h;rfl
 ·split at h;rotate_left;simp at h;rename_i he;subst he;cases h;rfl
 ·simp at h
theorem ZeM (hU:UOk U):∀{l:List ShR} {ds:List (TRV U)} {x:ZgB U l},Zip l ds=some x→ds=ZkP l x
 | [],[],x,h=>rfl
 | [],_::_,x,h=>by simp[Zip]at h
 |_::_,[],x,h=>by simp[Zip]at h
 |s::r,d::ds,x,h=>by simp only[Zip]at h;split at h;rotate_left;simp at h;rename_i a b h1 h2;cases h;rw[ZkP,←ZkB hU h1,←ZeM hU h2]
theorem ZeL (hU:UOk U):∀{l:List (Nat×ShA)} {ds:List (Nat×ZR U)} {x:ZgA U l},Zio l ds=some x→ds=ZkO l x
 | [],[],x,h=>rfl
 | [],_::_,x,h=>by simp[Zio]at h
 |_::_,[],x,h=>by simp[Zio]at h
 |s::r,d::ds,x,h=>by simp only[Zio]at h;split at h;rotate_left;simp at h;rename_i he;split at h;rotate_left;simp at h;rename_i a b h1 h2;cases h;rw[ZkO,←ZhI hU h1,←ZeL hU h2,←he]
structure RSh where
 rs:List ShR
 os:List (Nat×ShA)
abbrev ZkU (U:Zc) (S:RSh):Type:=ZgB U S.rs×ZgA U S.os
def RSh.bld (S:RSh) (v:ZkU U S):ZbA U:=⟨ZkP S.rs v.1,ZkO S.os v.2⟩
def RSh.mat (S:RSh) (t:ZbA U):Option (ZkU U S):=match Zip S.rs t.res,Zio S.os t.outs with
 |some x,some y=>some (x,y)
 |_,_=>none
def Zem {ρ:Type} (S:RSh) (g:ZkU U S→ρ) (t:ZbA U):Option ρ:=match S.mat t with
 |some v=>some (g v)
 |none=>none
theorem ZfX (hU:UOk U) {ρ:Type} {S:RSh} {g:ZkU U S→ρ} {give:ρ→ZbA U} (hg:∀v,give (g v)=S.bld v) {t:ZbA U} {r:ρ} (h:Zem S g t=some r):t.enc=(give r).enc:=by unfold Zem at h;split at h;rotate_left;simp at h;rename_i v hv;cases h;unfold RSh.mat at hv;split at hv;rotate_left;simp at hv;rename_i x y hx hy;cases hv;rw[hg];obtain⟨a,b⟩:=t;simp only at hx hy;rw[ZeM hU hx,ZeL hU hy];rfl
def ZR.d (k:Nat):ZR U→TV U
 | .p q=>q.tv
 | .box _=> .ptr (0,k,0) 0 0
 | .arr _ xs=> .full (0,k,0) xs.length
 | .map _ _ _=> .map (0,k,0)
 | .part _ _ off len=> .sl (0,k,0) off len
def Zcs:Nat→List (ZR U)→List (Nat×TV U)
 |_,[]=>[]
 |k,a::r=>(k,a.d k)::Zcs (k+1) r
def Zbz:Nat→List (ZR U)→List (Id×TO U)
 |_,[]=>[]
 |k,a::r=>match a.o with
  |some o=>((0,k,0),o)::Zbz (k+1) r
  |none=>Zbz (k+1) r
def Zj3 (args:List (ZR U)):TS U:=mkT 1 (Zcs 0 args) (Zbz 0 args)
theorem Ze8:∀(k:Nat) (as:List (ZR U)) (x:Nat),(Zal TV.dead (Zcs k as) x).enc=Zal D.dead (ZcT k (as.map ZR.enc)) x
 |k,[],x=>rfl
 |k,a::r,x=>by
  simp only[Zcs,ZmD,ZcT,Zal];split
  ·cases a with
   |p q=>exact(Zi5 q).1
   |box cs=>rfl
   |arr t xs=>simp only[ZR.d,TV.enc,ZR.enc,Arg.d,List.length_map]
   |map a b kv=>rfl
   |part t xs off len=>rfl
  ·exact Ze8 (k+1) r x
theorem ZcS:∀(k:Nat) (as:List (ZR U)) (x:Id),Zik (Ze (Zbz k as) x)=Ze (Zdd k (as.map ZR.enc)) x
 |k,[],x=>rfl
 |k,a::r,x=>by
  simp only[Zbz,ZmD,Zdd];have:=Zh6 a;cases ha:a.o with
  |none=>rw[ha]at this;rw[←this];exact ZcS (k+1) r x
  |some o=>
   rw[ha]at this;rw[←this];simp only[Ze,show Zik (some o)=some o.enc from rfl]
   by_cases hx:x=(0,k,0)
   ·rw[if_pos hx,if_pos hx];rfl
   ·rw[if_neg hx,if_neg hx];exact ZcS (k+1) r x
theorem Zj2 (as:List (ZR U)):(Zj3 as).enc=Zew (as.map ZR.enc):=by
 refine ZfP ?_ ?_ rfl rfl
 ·funext x;exact Ze8 0 as x
 ·funext x;exact ZcS 0 as x
theorem Ze7:∀(n:Nat) (l:List (ZR U)) (k:Nat) (d:TV U),(k,d)∈Zcs n l→∃j x,l[j]? =some x∧k=n+j∧d=x.d (n+j)
 |n,[],k,d,h=>by simp[Zcs]at h
 |n,x::r,k,d,h=>by
  simp only[Zcs,ZmF,ZmS]at h;rcases h with ⟨rfl,rfl⟩ |h
  ·exact⟨0,x,rfl,by simp,by simp⟩
  ·obtain⟨j,y,h1,h2,h3⟩:=Ze7 (n+1) r k d h;exact⟨j+1,y,by simpa using h1,by omega,by rw[h3];congr 1;omega⟩
theorem Ze5:∀(n:Nat) (l:List (ZR U)) (j:Nat) (x:ZR U) (o:TO U),l[j]? =some x→x.o=some o→Ze (Zbz n l) (0,n+j,0)=some o
 |n,[],j,x,o,h,_=>by simp at h
 |n,y::r,j,x,o,h,ho=>by
  cases j with
  |zero=>
   simp only[Zm6,ZmR]at h;subst h;simp only[Zbz,ho,Ze,Nat.add_zero,if_true]
  |succ j=>
   have:=Ze5 (n+1) r j x o (by simpa using h) ho;rw[show n+1+j=n+(j+1) by omega]at this;simp only[Zbz];split
   ·simp only[Ze];rw[if_neg (by simp only[ZmS,true_and,and_true];omega)];exact this
   ·exact this
theorem ZcR:∀(n:Nat) (l:List (ZR U)) (id:Id) (o:TO U),(id,o)∈Zbz n l→∃x∈l,x.o=some o
 |n,[],id,o,h=>by simp[Zbz]at h
 |n,x::r,id,o,h=>by
  simp only[Zbz]at h;split at h
  ·rename_i o' ho;rcases ZmF.1 h with h |h
   ·simp only[ZmS]at h;exact⟨x,by simp,by rw[ho,h.2]⟩
   ·obtain⟨y,h1,h2⟩:=ZcR (n+1) r id o h;exact⟨y,by simp[h1],h2⟩
  ·obtain⟨y,h1,h2⟩:=ZcR (n+1) r id o h;exact⟨y,by simp[h1],h2⟩
theorem Zgw (as:List (ZR U)):(Zj3 as).Inv:=by
 constructor
 ·intro k;show TV.inv _ (Zal TV.dead (Zcs 0 as) k);rcases ZaG TV.dead (Zcs 0 as) k with hq |hq
  ·rw[hq];exact Zf rfl
  ·obtain⟨j,x,h1,h2,h3⟩:=Ze7 0 as k _ hq;rw[h3];cases x with
   |p q=>exact Zf (Zi5 q).2
   |box cs=>exact Zf rfl
   |map a b kv=>exact Zf rfl
   |part t xs off len=>exact Zf rfl
   |arr t xs=>
    intro q hq;simp only[ZR.d,TV.fulls,List.mem_singleton]at hq;subst hq;exact⟨.arr t xs false,Ze5 0 as j _ _ h1 rfl,fun t' xs' fix' he=>by cases he;rfl⟩
 ·intro id o ho;obtain⟨x,_,hx⟩:=ZcR 0 as id o (ZY ho);cases x<;>simp only[ZR.o,ZmR,reduceCtorEq]at hx<;>subst hx
  ·intro d hd;obtain⟨l,_,rfl⟩:=List.mem_map.1 hd;exact Zah _ _
  ·trivial
  ·trivial
  ·trivial
theorem Zgl {X0:ZG U} {F:FC U} {f:Nat} {args:List (ZR U)} {RT:Ret} (hX:F.X=X0.at F.fn.ntmps) (hf:X0.prog.funcs[f]? =some F.fn) (hn:(F.fn.name == "runtime.NumGoroutine")=false) (hb:F.fn.body=some F.c) (hl:args.length≤F.fn.ntmps)
  (h:Pt F RT [.c F.c] (Zj3 args)):Fun X0.E f (args.map ZR.enc) RT:=by
 refine Ziy (E:=X0.E) hf hn hb (by rw[List.length_map];exact hl) fun W Lt S0 lays=> ?_
 have:=h W Lt S0 lays;rw[Zj2,hX]at this;exact this
structure Zj9 (U:Zc) where
 ρ:Type
 pts:List Nat
 ms:List AM
 hs:List (Option Nat)
 as:List ShA
 s:ZfI U as→Option ρ
 give:ρ→ZbA U
def Zj9.sig (S:Zj9 U):Zi1 U:=⟨S.pts,S.ms,S.hs,fun args=>match Zir S.as args with
 |some v=>some ⟨S.ρ,S.s v,S.give⟩
 |none=>none⟩
theorem Zj9.ok {S:Zj9 U} (hU:UOk U) {E:Env} {f:Nat} (h:∀v r,S.s v=some r→Fun E f ((Zdb S.as v).map ZR.enc) (S.give r).enc∧Zeh (Zdb S.as v) (S.give r)):Zeg E f S.sig:=by intro args s hs a ha;simp only[Zj9.sig]at hs;split at hs;rotate_left;simp at hs;rename_i v hv;cases hs;rw[ZeO hU hv];exact h v a ha
theorem Zdx {args:List (ZR U)} {ret:ZbA U} (h:ret.outs.all (fun x=>x.2.len?.isNone)=true):Zeh args ret:=by intro k a n hm ha;have:=ZmX.1 h _ hm;dsimp only at this;rw[ha]at this;simp at this
end
end Eng
namespace Eng
open Go
section
variable {U:Zc}
def ttZ (o:Option (TT U)):Option (List D×List D×Option P×Option P):=match o with
 |some e=>some (TV.encs e.zero,e.ti.zero.map Z.toD,(match e.zl with |some l=>some (U.encL l) |none=>none),(match e.zl with |some _=>some e.ti.zeroP |none=>none))
 |none=>none
def ttZ' (o:Option (TT U)):Option (List D×List D×Option P×Option P):=match o with
 |some e=>some (e.ti.zero.map Z.toD,e.ti.zero.map Z.toD,(match e.zl with |some _=>some e.ti.zeroP |none=>none),(match e.zl with |some _=>some e.ti.zeroP |none=>none))
 |none=>none
def TV.plain:TV U→Bool
 | .v _ _ | .nilp | .nilfn | .nils _=>true
 |_=>false
def ttB (U:Zc) (o:Option (TT U)):Bool:=match o with
 |some e=>(e.ti.isAgg == e.n.isSome)&&(match e.n with |some n=>decide (e.ti.size=U.size n) |none=>true)&&e.zero.all TV.plain
 |none=>true
def ttK (X:ZG U):Nat→List (Option (TT U))→List (TD×TD)
 |_,[]=>[]
 |t,some e::r=>(match e.ty with | .map k _=>(X.E.keyTD t,k.td) |_=>(.other,.other))::ttK X (t+1) r
 |t,none::r=>(.other,.other)::ttK X (t+1) r
def Zll:List (Option (TT U))→List (TD×TD)
 | []=>[]
 |some e::r=>(match e.ty with | .map k _=>(k.td,k.td) |_=>(.other,.other))::Zll r
 |none::r=>(.other,.other)::Zll r
theorem Zi6 (X:ZG U):∀(l:List (Option (TT U))) (t0:Nat),ttK X t0 l=Zll l→∀t e k v,l[t]? =some (some e)→e.ty= .map k v→X.E.keyTD (t0+t)=k.td
 | [],t0,_,t,e,k,v,h,_=>by simp at h
 |o::r,t0,h,t,e,k,v,ht,hty=>by
  cases t with
  |zero=>
   simp only[Zm6,ZmR]at ht;subst ht;simp only[ttK,Zll,hty,List.cons.injEq,ZmS]at h;exact h.1.1
  |succ t=>
   have h':ttK X (t0+1) r=Zll r:=by cases o<;>simp only[ttK,Zll,List.cons.injEq]at h<;>exact h.2
   have:=Zi6 X r (t0+1) h' t e k v (by simpa using ht) hty;rw[show t0+(t+1)=t0+1+t by omega];exact this
theorem tok_of {X:ZG U} (hz:X.tt.map ttZ=X.tt.map ttZ') (hb:X.tt.all (ttB U)=true) (hk:ttK X 0 X.tt=Zll X.tt):TOk X:=by
 have get:∀{t e},X.get t=some e→X.tt[t]? =some (some e):=fun {t e} h=>by unfold ZG.get at h;split at h;rotate_left;simp at h;rename_i e' he;cases h;exact he
 have zz:∀{t e},X.get t=some e→ttZ (some e)=ttZ' (some e):=fun {t e} h=>by have h1:=congrArg (·[t]?) hz;simpa[List.getElem?_map,get h]using h1
 have bb:∀{t e},X.get t=some e→ttB U (some e)=true:=fun {t e} h=>ZmX.1 hb _ (List.mem_of_getElem? (get h))
 refine⟨fun t e h=> ?_,fun t e l h hl=> ?_,fun t e h=> ?_,fun t e n h hn=> ?_,fun t e k v h hty=> ?_,fun t e h d hd=> ?_⟩
 ·have:=zz h;simp only[ttZ,ttZ',ZmR,ZmS]at this;exact this.1
 ·have:=zz h;simp only[ttZ,ttZ',ZmR,ZmS,hl]at this;exact this.2.2.1
 ·have:=bb h;simp only[ttB,Zmt,beq_iff_eq]at this;exact this.1.1
 ·have:=bb h;simp only[ttB,Zmt,hn,decide_eq_true_eq]at this;exact this.1.2
 ·have:=Zi6 X X.tt 0 hk t e k v (get h) hty;rw[Nat.zero_add]at this;exact this
 ·have:=bb h;simp only[ttB,Zmt,ZmX]at this;have:=this.2 d hd;unfold TV.plain at this;split at this<;>first |rfl |simp at this
theorem TOk.at {X:ZG U} (h:TOk X) (n:Nat):TOk (X.at n):=⟨h.zero,h.zl,h.agg,h.size,h.key,h.inv⟩
theorem Zk.at {X:ZG U} (h:Zk X.E) (n:Nat):Zk (X.at n).E:=⟨h.tys⟩
theorem Zeg.at {X:ZG U} {g:Nat} {sg:Zi1 U} (h:Zeg X.E g sg) (n:Nat):Zeg (X.at n).E g sg:=h
def ZcX (X:ZG U):List (Nat×Zi1 U)→Prop
 | []=>True
 |x::r=>Zeg X.E x.1 x.2∧ZcX X r
theorem Zef {X:ZG U}:∀{l:List (Nat×Zi1 U)},ZcX X l→∀x∈l,Zeg X.E x.1 x.2
 | [],_,x,h=>by simp at h
 |y::r,ha,x,h=>by
  rcases ZmF.1 h with rfl |h
  ·exact ha.1
  ·exact Zef ha.2 x h
theorem fok {X0:ZG U} {F:FC U} (hU:UOk U) (hX:TOk X0) (hE:Zk X0.E) (hm:X0.prog.follows .mixedOrders=true) (hF:F.X=X0.at F.fn.ntmps) (hs:ZcX X0 F.sigs):FOk F:=by
 refine⟨hU, ?_, ?_, ?_, ?_⟩
 ·rw[hF];exact hX.at _
 ·rw[hF];exact hE.at _
 ·rw[hF];exact hm
 ·intro x hx;rw[hF];exact(Zef hs x hx).at _
def Zc4 (F:FC U) (p:List Nat):Code:=match atP (F.c,[]) p with |some x=>x.1 |none=> .skip
def tc (F:FC U) (p:List Nat):TI':= .c p (Zc4 F p)
def tc0 (F:FC U):TI':= .c [] F.c
theorem retOut {ρ β:Type} {S:RSh} {g:ZkU U S→ρ} {t:ZbA U} {x:Out β ρ} (h:Zem S (fun v=>Out.ret (β:=β) (g v)) t=some x):∃q,x= .ret q∧Zem S g t=some q:=by
 unfold Zem at h⊢
 split at h;rotate_left;simp at h;rename_i v hv;simp only[ZmR]at h;exact⟨g v,h.symm,rfl⟩
end
theorem as_car {car:Nat→Type} {l:Lf car} {t:Ty} {x:El car t} (h:l.as t=some x):l=⟨t,x⟩:=by unfold Lf.as at h;split at h;rotate_left;simp at h;rename_i he;obtain⟨t',y⟩:=l;dsimp only at he;subst he;cases h;rfl
theorem Zl8 {car:Nat→Type} {t:Ty}:∀{cs:List (Lf car)} {l:List (El car t)},Zm (fun c=>c.as t) cs=some l→cs=l.map fun y=>⟨t,y⟩
 | [],l,h=>by simp only[Zm,ZmR]at h;subst h;rfl
 |c::cs,l,h=>by simp only[Zm]at h;split at h;rotate_left;simp at h;rename_i y ys h1 h2;cases h;rw[ZmD,←Zl8 h2,as_car h1]
def andK (k:IntKind) (x y:Int):Int:=k.wrap (BitVec.ofInt k.bits x&&& BitVec.ofInt k.bits y).toNat
def orK (k:IntKind) (x y:Int):Int:=k.wrap (BitVec.ofInt k.bits x|||BitVec.ofInt k.bits y).toNat
def xorK (k:IntKind) (x y:Int):Int:=k.wrap (BitVec.ofInt k.bits x ^^^ BitVec.ofInt k.bits y).toNat
def andNotK (k:IntKind) (x y:Int):Int:=k.wrap (BitVec.ofInt k.bits x&&& ~~~BitVec.ofInt k.bits y).toNat
def shlK (k:IntKind) (x y:Int):Int:=k.wrap (x*2 ^ (min y.toNat k.bits))
def shrK (k:IntKind) (x y:Int):Int:=x.fdiv (2 ^ (min y.toNat k.bits))
def mkOk (a b:Int) (n:Nat):Bool:=decide (0≤a∧a≤b∧b*n≤ZO∧b≤ZO)
def inR (n m:Int):Bool:=decide (0≤n∧n < m)
end Eng
namespace Eng
open Go Go.RowKit
theorem Zi2.of_below {w w':World} (h:Below w.heap.size w w'):Zi2 w w':=⟨⟨h.os,h.output⟩,h.size,fun b hb=>h.block b hb⟩
theorem Zi2.rfl' (w:World):Zi2 w w:=⟨.refl _,Nat.le_refl _,fun _ _=>rfl⟩
theorem Ze6:∀(n:Nat) (xs:List P) (k:Nat) (x:P),xs[k]? =some x→Zal D.dead (ZcT n (xs.map Arg.p)) (n+k)= .p x
 |n,[],k,x,h=>by simp at h
 |n,y::r,0,x,h=>by simp only[Zm6,ZmR]at h;subst h;simp[ZcT,Zal,Arg.d]
 |n,y::r,k+1,x,h=>by simp only[List.getElem?_cons_succ]at h;have:=Ze6 (n+1) r k x h;rw[Nat.add_right_comm,Nat.add_assoc]at this;simp only[ZmD,ZcT,Zal];rw[if_neg (by omega)];exact this
theorem Zh5 {xs:List P} {k:Nat} {x:P} (h:xs[k]? =some x):(Zew (xs.map Arg.p)).slots k= .p x:=by
 have:=Ze6 0 xs k x h
 rwa [Nat.zero_add]at this
theorem Zk7 {E:Env} {f:Nat} {xs:List P} {y:P} (hf:∃fn,E.prog.funcs[f]? =some fn∧(fn.name == "runtime.NumGoroutine")=false∧fn.body.isNone=false)
  (h:∀(w:World) (S:Nat→Prop) (vals:Array Value),vals.size=xs.length→(∀(k:Nat) v x,vals[k]? =some v→xs[k]? =some x→RelP w S v x)→
   (∀g cs,(g,cs)∈E.globs→Zej w S g cs)→
   CallsIn (Zcj none) 0 E.prog f vals w fun e w'=>∃v,e= .returned v∧Zi2 w w'∧RelP w' S v y):Fun E f (xs.map .p) ⟨[.p y],[]⟩:=by
 refine .inl ⟨hf,fun w Lt S lays ρ vals hv hrep=> ?_⟩;rw[List.length_map]at hv;refine CallsIn.mono (h w S vals hv ?_ hrep.glob) ?_
 ·intro k v x hk hx;have h1:=hrep.slots k;have e1:(Zew (xs.map Arg.p)).slots k= .p x:=Zh5 hx;rw[e1]at h1;have hlt:=(Zmp.1 hk).1;rw[show vals.getD k undef=v by simp[hk]]at h1;exact h1.of_p
 ·rintro e w' ⟨v,rfl,hk,hr⟩;have hK:Zcx S w w':=fun b _ hb=>hk.2.2 b hb
  refine⟨#[v],fun _=>none,S,rfl,rfl, ?_⟩;have ho:∀id,(ZcC ⟨[.p y],[]⟩).objs id=none:=fun id=>rfl
  exact {
   nt:=rfl
   grow:=hk.2.1
   frame:=fun b hb _=>hk.2.2 b hb
   s0:=fun _ h=>h
   sIn:=fun b hb=>Nat.lt_of_lt_of_le (hrep.sIn b hb) hk.2.1
   slots:=fun k=>by
    cases k with
    |zero=>exact .p _ _ hr
    |succ k=>exact .dead _
   objs:=fun id o h=>by rw[ho id]at h;cases h
   own:=fun id o L b h=>by rw[ho id]at h;cases h
   inj:=fun id o L id' o' L' b h=>by rw[ho id]at h;cases h
   known:=fun id h=>absurd (ho id) h
   young:=fun id h=>absurd rfl h
   fzk:=fun id h=>by cases h
   glob:=fun g cs hg=>(hrep.glob g cs hg).mono hK fun _ h=>h
   sOut:=fun b h=> .inl h
   ep1:=by show 1≤2;omega
   quiet:=hk.1
   lay:=fun k L h1 h2=>absurd rfl h2}
theorem ZlS {E:Env} {f:Nat} {xs:List P} {y z:P} (hf:∃fn,E.prog.funcs[f]? =some fn∧fn.body.isNone=true)
  (h:∀(w:World) (S:Nat→Prop) (vals:Array Value),vals.size=xs.length→(∀(k:Nat) v x,vals[k]? =some v→xs[k]? =some x→RelP w S v x)→
   ∃v u,(callFunc f vals).run E.prog w= .ok (.value (.tuple #[v,u])) w∧RelP w S v y∧RelP w S u z):Fun E f (xs.map .p) ⟨[.p y,.p z],[]⟩:=by
 refine .inr ⟨hf,fun w Lt S lays ρ vals hv hrep=> ?_⟩;rw[List.length_map]at hv;obtain⟨v,u,hrun,hr,hr2⟩:=h w S vals hv (by
  intro k v x hk hx;have h1:=hrep.slots k;have e1:(Zew (xs.map Arg.p)).slots k= .p x:=Zh5 hx;rw[e1]at h1;have hlt:=(Zmp.1 hk).1;rw[show vals.getD k undef=v by simp[hk]]at h1;exact h1.of_p)
 refine⟨#[v,u],fun _=>none,S,w,hrun,rfl, ?_⟩;have ho:∀id,(ZcC ⟨[.p y,.p z],[]⟩).objs id=none:=fun id=>rfl
 exact {
  nt:=rfl
  grow:=Nat.le_refl _
  frame:=fun b hb _=>rfl
  s0:=fun _ h=>h
  sIn:=hrep.sIn
  slots:=fun k=>by
   match k with
   |0=>exact .p _ _ hr
   |1=>exact .p _ _ hr2
   |k+2=>exact .dead _
  objs:=fun id o h=>by rw[ho id]at h;cases h
  own:=fun id o L b h=>by rw[ho id]at h;cases h
  inj:=fun id o L id' o' L' b h=>by rw[ho id]at h;cases h
  known:=fun id h=>absurd (ho id) h
  young:=fun id h=>absurd rfl h
  fzk:=fun id h=>by cases h
  glob:=hrep.glob
  sOut:=fun b h=> .inl h
  ep1:=by show 1≤2;omega
  quiet:= .refl _
  lay:=fun k L h1 h2=>absurd rfl h2}
def ZhF {U:Zc} (args:List (ZR U)) (ret:ZbA U):Bool:=ret.outs.all fun x=>match x.2.len? with
 |some n=>(match args[x.1]? with
  |some a=>(match a.len? with
   |some m=>decide (n=m)
   |none=>false)
  |none=>false)
 |none=>true
theorem Zij {U:Zc} {args:List (ZR U)} {ret:ZbA U} (h:ZhF args ret=true):Zeh args ret:=by intro k a n hm ha;have:=ZmX.1 h _ hm;dsimp only at this;rw[ha]at this;dsimp only at this;split at this;rotate_left;simp at this;rename_i a' he;split at this;rotate_left;simp at this;rename_i m hm';exact⟨a',he,by rw[hm',of_decide_eq_true this]⟩
theorem chkLen {α:Type} {o:Option α} {p:α→Bool} {r:α} (h:(o.bind fun r=>chk (p r) (some r))=some r):o=some r∧p r=true:=by
 cases o with
 |none=>simp at h
 |some x=>
  simp only[Option.bind_some]at h;unfold chk at h;cases hp:p x with
  |false=>rw[hp]at h;simp at h
  |true=>rw[hp]at h;simp only[cond_true,ZmR]at h;subst h;exact⟨rfl,hp⟩
section
variable {U:Zc}
theorem Pt.ev0 {F:FC U} (hF:FOk F) {ρ:Type} {r:ρ} {S:RSh} {g:ZkU U S→ρ} {b:ρ→ZbA U} {cuts:List (List Nat×Lp U ρ)} {pre:List TI'} {T:TS U} {k:List Item}
  (hk:k=pre.map TI'.conc++[]) (hT:T.Inv) (h:Eng.evl (F.par cuts none [] (Zem S g)) 4000 none pre T=some r) (hw:Wf (F.c,[]) [] pre) (hc:Zbc F (b r).enc r cuts) (hg:∀v,b (g v)=S.bld v):Pt F (b r).enc k T:=
 Pt.evlAt hF 4000 hk hT h hw hc (fun _ hL=>nomatch hL) (fun _=>rfl) trivial (fun _ ht=>ZfX hF.hU hg ht)
theorem Zj9.ok0 {X0:ZG U} {F:FC U} (hF:FOk F) {S:Zj9 U} {f:Nat} {R:RSh} {g:ZkU U R→S.ρ} {cuts:List (List Nat×Lp U S.ρ)} {pre:List TI'} (hX:F.X=X0.at F.fn.ntmps) (hf:X0.prog.funcs[f]? =some F.fn) (hn:(F.fn.name == "runtime.NumGoroutine")=false) (hb:F.fn.body=some F.c)
  (hl:∀v:ZfI U S.as,(Zdb S.as v).length≤F.fn.ntmps) (hg:∀v,S.give (g v)=R.bld v) (hk:[.c F.c]=pre.map TI'.conc++[]) (h:∀v r,S.s v=some r→Eng.evl (F.par cuts none [] (Zem R g)) 4000 none pre (Zj3 (Zdb S.as v))=some r)
  (hw:Wf (F.c,[]) [] pre) (hc:∀r,Zbc F (S.give r).enc r cuts) (ho:∀r,(S.give r).outs.all (fun x=>x.2.len?.isNone)=true):Zeg X0.E f S.sig:=
 Zj9.ok hF.hU fun v r hr=>⟨Zgl hX hf hn hb (hl v) (Pt.ev0 hF (b:=S.give) hk (Zgw _) (h v r hr) hw (hc r) hg),Zdx (ho r)⟩
end
end Eng
namespace Eng
open Go
abbrev HL:List Type→Type
 | []=>Unit
 |a::r=>a×HL r
abbrev HT:List Type→Type
 | []=>Unit
 | [a]=>a
 |a::b::r=>a×HT (b::r)
abbrev ZiX:List Type→Type→Type
 | [],X=>X
 |a::r,X=>a→ZiX r X
abbrev app {X:Type}:(ts:List Type)→ZiX ts X→HL ts→X
 | [],f,_=>f
 |_::r,f,v=>app r (f v.1) v.2
abbrev Zlm:(ts:List Type)→HL ts→HT ts
 | [],_=>()
 | [_],v=>v.1
 |_::b::r,v=>(v.1,Zlm (b::r) v.2)
abbrev ZlE:(ts:List Type)→HT ts→HL ts
 | [],_=>()
 | [_],x=>(x,())
 |_::b::r,x=>(x.1,ZlE (b::r) x.2)
theorem Zcc:∀(ts:List Type) (v:HL ts),ZlE ts (Zlm ts v)=v
 | [],_=>rfl
 | [_],_=>rfl
 |_::b::r,v=>by show (v.1,ZlE (b::r) (Zlm (b::r) v.2))=v;rw[Zcc (b::r) v.2]
abbrev unT {X:Type} (ts:List Type) (f:ZiX ts X) (x:HT ts):X:=app ts f (ZlE ts x)
section
variable (U:Zc)
abbrev lv1:Sh1→List Type→List Type
 | .v t,r=>El U.car t::r
 | .pp t,r=>El U.car t::r
 | .full _,r=>r
 | .sl _,r=>Nat::Nat::r
 | .ptr _ _ _,r=>r
 | .ptrI _ _,r=>Nat::r
 | .map _,r=>r
 | .it _,r=>r
 | .nilp,r=>r
 | .nilfn,r=>r
 | .undef,r=>r
 | .nils _,r=>r
 | .clip t,r=>List (El U.car t)::r
abbrev lvs1:List Sh1→List Type→List Type
 | [],r=>r
 |s::l,r=>lv1 U s (lvs1 l r)
abbrev lvS:Sh→List Type→List Type
 | .o s,r=>lv1 U s r
 | .agg l,r=>lvs1 U l r
 | .fn _ a b,r=>lvs1 U a (lvs1 U b r)
abbrev lvs:List Sh→List Type→List Type
 | [],r=>r
 |s::l,r=>lvS U s (lvs l r)
abbrev lvO:ShO→List Type→List Type
 | .box l,r=>lvs U l r
 | .boxS t,r=>El U.car t::r
 | .arr t _,r=>List (El U.car t)::r
 | .map k v,r=>List (El U.car k×El U.car v)::r
 | .sit,r=>List UInt8::Nat::r
 | .mit k v,r=>List (El U.car k×El U.car v)::Option (El U.car k×El U.car v)::r
abbrev lvsO:List ShO→List Type→List Type
 | [],r=>r
 |s::l,r=>lvO U s (lvsO l r)
abbrev lvQ:List Sh→List ShO→List Type:=fun shs sho=>lvs U shs (lvsO U sho [])
abbrev lq1:Sh1→List Type→List Type
 | .v t,r=>El U.car t::r
 | .pp t,r=>El U.car t::r
 | .full _,r=>r
 | .sl _,r=>r
 | .ptr _ _ _,r=>r
 | .ptrI _ _,r=>r
 | .map _,r=>r
 | .it _,r=>r
 | .nilp,r=>r
 | .nilfn,r=>r
 | .undef,r=>r
 | .nils _,r=>r
 | .clip _,r=>r
abbrev ZjA:List Sh1→List Type→List Type
 | [],r=>r
 |s::l,r=>lq1 U s (ZjA l r)
abbrev lvA:ShA→List Type→List Type
 | .p t,r=>El U.car t::r
 | .box t,r=>El U.car t::r
 | .arr t,r=>List (El U.car t)::r
 | .map k v,r=>List (El U.car k×El U.car v)::r
 | .ptr t,r=>El U.car t::r
 | .fn _ a b,r=>ZjA U a (ZjA U b r)
 | .nilp,r=>r
 | .nilfn,r=>r
 | .part t,r=>List (El U.car t)::Nat::Nat::r
abbrev Zjz:List ShA→List Type→List Type
 | [],r=>r
 |s::l,r=>lvA U s (Zjz l r)
abbrev lvR:ShR→List Type→List Type
 | .p t,r=>El U.car t::r
 | .own t,r=>List (El U.car t)::r
 | .box t,r=>El U.car t::r
 | .map k v,r=>List (El U.car k×El U.car v)::r
 | .view _,r=>Nat::Nat::r
abbrev ZlN:List ShR→List Type→List Type
 | [],r=>r
 |s::l,r=>lvR U s (ZlN l r)
abbrev ZlM:List (Nat×ShA)→List Type→List Type
 | [],r=>r
 |s::l,r=>lvA U s.2 (ZlM l r)
end
section
variable {U:Zc} {r:List Type}
abbrev fl1:(s:Sh1)→Zmm U s→HL r→HL (lv1 U s r)
 | .v _,x,y=>(x,y)
 | .pp _,x,y=>(x,y)
 | .full _,_,y=>y
 | .sl _,x,y=>(x.1,x.2,y)
 | .ptr _ _ _,_,y=>y
 | .ptrI _ _,x,y=>(x,y)
 | .map _,_,y=>y
 | .it _,_,y=>y
 | .nilp,_,y=>y
 | .nilfn,_,y=>y
 | .undef,_,y=>y
 | .nils _,_,y=>y
 | .clip _,x,y=>(x,y)
abbrev fls1:(l:List Sh1)→ZgC U l→HL r→HL (lvs1 U l r)
 | [],_,y=>y
 |s::l,x,y=>fl1 s x.1 (fls1 l x.2 y)
abbrev flS:(s:Sh)→Val U s→HL r→HL (lvS U s r)
 | .o s,x,y=>fl1 s x y
 | .agg l,x,y=>fls1 l x y
 | .fn _ a b,x,y=>fls1 a x.1 (fls1 b x.2 y)
abbrev fls:(l:List Sh)→Zb7 U l→HL r→HL (lvs U l r)
 | [],_,y=>y
 |s::l,x,y=>flS s x.1 (fls l x.2 y)
abbrev flO:(s:ShO)→ValO U s→HL r→HL (lvO U s r)
 | .box l,x,y=>fls l x y
 | .boxS _,x,y=>(x,y)
 | .arr _ _,x,y=>(x,y)
 | .map _ _,x,y=>(x,y)
 | .sit,x,y=>(x.1,x.2,y)
 | .mit _ _,x,y=>(x.1,x.2,y)
abbrev flsO:(l:List ShO)→Zaf U l→HL r→HL (lvsO U l r)
 | [],_,y=>y
 |s::l,x,y=>flO s x.1 (flsO l x.2 y)
abbrev flQ (shs:List Sh) (sho:List ShO) (v:Zb7 U shs) (w:Zaf U sho):HL (lvQ U shs sho):=fls shs v (flsO (r:=[]) sho w ())
abbrev unc {X:Type} (shs:List Sh) (sho:List ShO) (f:ZiX (lvQ U shs sho) X) (v:Zb7 U shs) (w:Zaf U sho):X:=app (lvQ U shs sho) f (flQ shs sho v w)
def fq1:(s:Sh1)→Zhp U s→HL r→HL (lq1 U s r)
 | .v _,x,y=>(x,y)
 | .pp _,x,y=>(x,y)
 | .full _,_,y=>y
 | .sl _,_,y=>y
 | .ptr _ _ _,_,y=>y
 | .ptrI _ _,_,y=>y
 | .map _,_,y=>y
 | .it _,_,y=>y
 | .nilp,_,y=>y
 | .nilfn,_,y=>y
 | .undef,_,y=>y
 | .nils _,_,y=>y
 | .clip _,_,y=>y
def fqs1:(l:List Sh1)→Zcw U l→HL r→HL (ZjA U l r)
 | [],_,y=>y
 |s::l,x,y=>fq1 s x.1 (fqs1 l x.2 y)
abbrev flA:(s:ShA)→Zlf U s→HL r→HL (lvA U s r)
 | .p _,x,y=>(x,y)
 | .box _,x,y=>(x,y)
 | .arr _,x,y=>(x,y)
 | .map _ _,x,y=>(x,y)
 | .ptr _,x,y=>(x,y)
 | .fn _ a b,x,y=>fqs1 a x.1 (fqs1 b x.2 y)
 | .nilp,_,y=>y
 | .nilfn,_,y=>y
 | .part _,x,y=>(x.1,x.2.1,x.2.2,y)
abbrev Zla:(l:List ShA)→ZfI U l→HL r→HL (Zjz U l r)
 | [],_,y=>y
 |s::l,x,y=>flA s x.1 (Zla l x.2 y)
abbrev flR:(s:ShR)→Zma U s→HL r→HL (lvR U s r)
 | .p _,x,y=>(x,y)
 | .own _,x,y=>(x,y)
 | .box _,x,y=>(x,y)
 | .map _ _,x,y=>(x,y)
 | .view _,x,y=>(x.1,x.2,y)
abbrev Zmi:(l:List ShR)→ZgB U l→HL r→HL (ZlN U l r)
 | [],_,y=>y
 |s::l,x,y=>flR s x.1 (Zmi l x.2 y)
abbrev Zk9:(l:List (Nat×ShA))→ZgA U l→HL r→HL (ZlM U l r)
 | [],_,y=>y
 |s::l,x,y=>flA s.2 x.1 (Zk9 l x.2 y)
def uq1:(s:Sh1)→HL (lq1 U s r)→Zhp U s×HL r
 | .v _,y=>y
 | .pp _,y=>y
 | .full _,y=>((),y)
 | .sl _,y=>((),y)
 | .ptr _ _ _,y=>((),y)
 | .ptrI _ _,y=>((),y)
 | .map _,y=>((),y)
 | .it _,y=>((),y)
 | .nilp,y=>((),y)
 | .nilfn,y=>((),y)
 | .undef,y=>((),y)
 | .nils _,y=>((),y)
 | .clip _,y=>((),y)
def Zkf:(l:List Sh1)→HL (ZjA U l r)→Zcw U l×HL r
 | [],y=>((),y)
 |s::l,y=>(((uq1 (r:=ZjA U l r) s y).1,(Zkf l (uq1 (r:=ZjA U l r) s y).2).1),(Zkf l (uq1 (r:=ZjA U l r) s y).2).2)
def uA:(s:ShA)→HL (lvA U s r)→Zlf U s×HL r
 | .p _,y=>y
 | .box _,y=>y
 | .arr _,y=>y
 | .map _ _,y=>y
 | .ptr _,y=>y
 | .fn _ a b,y=>(((Zkf (r:=ZjA U b r) a y).1,(Zkf b (Zkf (r:=ZjA U b r) a y).2).1),(Zkf b (Zkf (r:=ZjA U b r) a y).2).2)
 | .nilp,y=>((),y)
 | .nilfn,y=>((),y)
 | .part _,y=>((y.1,y.2.1,y.2.2.1),y.2.2.2)
def uR:(s:ShR)→HL (lvR U s r)→Zma U s×HL r
 | .p _,y=>y
 | .own _,y=>y
 | .box _,y=>y
 | .map _ _,y=>y
 | .view _,y=>((y.1,y.2.1),y.2.2)
def usR:(l:List ShR)→HL (ZlN U l r)→ZgB U l×HL r
 | [],y=>((),y)
 |s::l,y=>(((uR (r:=ZlN U l r) s y).1,(usR l (uR (r:=ZlN U l r) s y).2).1),(usR l (uR (r:=ZlN U l r) s y).2).2)
def usU:(l:List (Nat×ShA))→HL (ZlM U l r)→ZgA U l×HL r
 | [],y=>((),y)
 |s::l,y=>(((uA (r:=ZlM U l r) s.2 y).1,(usU l (uA (r:=ZlM U l r) s.2 y).2).1),(usU l (uA (r:=ZlM U l r) s.2 y).2).2)
theorem Zlk (s:Sh1) (x:Zhp U s) (y:HL r):uq1 s (fq1 s x y)=(x,y):=by cases s<;>rfl
theorem ZfL:∀(l:List Sh1) (x:Zcw U l) (y:HL r),Zkf l (fqs1 l x y)=(x,y)
 | [],_,_=>rfl
 |s::l,x,y=>by simp only[fqs1,Zkf,Zlk,ZfL l]
theorem uA_flA (s:ShA) (x:Zlf U s) (y:HL r):uA s (flA s x y)=(x,y):=by
 cases s with
 |fn f a b=>simp only[flA,uA,ZfL]
 |_=>rfl
theorem uR_flR (s:ShR) (x:Zma U s) (y:HL r):uR s (flR s x y)=(x,y):=by cases s<;>rfl
theorem Zhu:∀(l:List ShR) (x:ZgB U l) (y:HL r),usR l (Zmi l x y)=(x,y)
 | [],_,_=>rfl
 |s::l,x,y=>by simp only[Zmi,usR,uR_flR,Zhu l]
theorem Zht:∀(l:List (Nat×ShA)) (x:ZgA U l) (y:HL r),usU l (Zk9 l x y)=(x,y)
 | [],_,_=>rfl
 |s::l,x,y=>by simp only[Zk9,usU,uA_flA,Zht l]
end
def pthF:Nat→Nat→List Nat→List Nat
 |0,_,acc=>acc
 |k+1,n,acc=>bif Nat.beq n 9 then acc else pthF k (n / 10) (n % 10::acc)
def pth (n:Nat):List Nat:=pthF 1000 n []
section
variable {U:Zc}
def blkId:Code→Nat
 | .block id _=>id
 |_=>0
def ZdM:Code→Bool
 | .loop _=>true
 |_=>false
abbrev kOf (F:FC U) (pb:List Nat):List Nat→List TI'
 | []=>[]
 |d::q=>bif (d::q) == pb then []else match d with
  |0=>tc F (1::q)::kOf F pb q
  |4=> .blk (blkId (Zc4 F q))::kOf F pb q
  |_=>kOf F pb q
def inP (pb:List Nat):List Nat→Bool
 | []=>pb.isEmpty
 |d::q=>bif (d::q) == pb then true else (d != 5)&&inP pb q
def chkP (F:FC U) (pb p:List Nat):Bool:=(atP (F.c,[]) p).isSome&&inP pb p
def ZfD (F:FC U) (pb q:List Nat):Bool:=ZdM (Zc4 F q)&&inP pb q
abbrev xpre (F:FC U) (pb q:List Nat) (xid:Nat):List TI':=(Zck xid (kOf F pb q)).getD []
def Zmj (F:FC U) (pb q:List Nat) (xid:Nat):Bool:=(Zck xid (kOf F pb q)).isSome
theorem Zbu {F:FC U} {p:List Nat} {c:Code} {k:List Item} (h:atP (F.c,[]) p=some (c,k)):Zc4 F p=c:=by unfold Zc4;rw[h]
theorem ZhO (F:FC U) {pb:List Nat} {cb:Code} {base:List Item} (hb:atP (F.c,[]) pb=some (cb,base)):∀(p:List Nat),inP pb p=true→∀c k,atP (F.c,[]) p=some (c,k)→
  k=(kOf F pb p).map TI'.conc++base∧Wf (F.c,[]) base (kOf F pb p)
 | [],h,c,k,hp=>by simp only[inP,List.isEmpty_iff]at h;subst h;rw[hb]at hp;cases hp;exact⟨rfl,trivial⟩
 |d::q,h,c,k,hp=>by
  unfold inP at h;unfold kOf;cases he:((d::q) == pb)with
  |true=>
   have:=eq_of_beq he;subst this;rw[hb]at hp;cases hp;exact⟨rfl,trivial⟩
  |false=>
   rw[he]at h;simp only[cond_false,Zmt,bne_iff_ne,ne_eq]at h⊢
   obtain⟨hd,hq⟩:=h;have hp0:=hp;unfold atP at hp;split at hp;rotate_left;simp at hp;rename_i c' k' hq';obtain⟨i1,i2⟩:=ZhO F hb q hq c' k' hq';split at hp
   ·simp only[ZmR,ZmS]at hp;obtain⟨rfl,rfl⟩:=hp;rename_i a b;have h1:atP (F.c,[]) (1::q)=some (b,k'):=by simp only[atP,hq']
    simp only[ZmD,ZmZ,tc,TI'.conc,Zbu h1];refine⟨by rw[←i1], ?_,i2⟩;rw[h1,i1]
   ·simp only[ZmR,ZmS]at hp;obtain⟨rfl,rfl⟩:=hp;exact⟨i1,i2⟩
   ·simp only[ZmR,ZmS]at hp;obtain⟨rfl,rfl⟩:=hp;exact⟨i1,i2⟩
   ·simp only[ZmR,ZmS]at hp;obtain⟨rfl,rfl⟩:=hp;exact⟨i1,i2⟩
   ·simp only[ZmR,ZmS]at hp;obtain⟨rfl,rfl⟩:=hp;simp only[ZmD,ZmZ,TI'.conc,Zbu hq',blkId];exact⟨by rw[←i1],i2⟩
   ·exact absurd rfl hd
   ·simp at hp
inductive CT (U:Zc) (ρ:Type):Type→Type 1
 |nil {R:Type}:CT U ρ R
 |j {R:Type} (p:Nat) (live frz:List Nat) (shs:List Sh) (sho:List ShO) (f:ZiX (lvQ U shs sho) (Option R)) (k:CT U ρ R):CT U ρ R
 |lo {R:Type} (q:Nat) (live frz:List Nat) (shs:List Sh) (sho:List ShO) (xid:Nat) (xlive xfrz:List Nat) (xshs:List Sh) (xsho:List ShO)
   (hd:Nat→ZiX (lvQ U shs sho) (Option (HT (lvQ U xshs xsho)))) (af:ZiX (lvQ U xshs xsho) (Option R)) (body:Nat→CT U ρ (HT (lvQ U xshs xsho))) (k:CT U ρ R):CT U ρ R
 |lr {R:Type} (q:Nat) (live frz:List Nat) (shs:List Sh) (sho:List ShO) (xid:Nat) (xlive xfrz:List Nat) (xshs:List Sh) (xsho:List ShO)
   (hd:Nat→ZiX (lvQ U shs sho) (Option (Out (HT (lvQ U xshs xsho)) ρ))) (af:ZiX (lvQ U xshs xsho) (Option R)) (body:Nat→CT U ρ (Out (HT (lvQ U xshs xsho)) ρ)) (k:CT U ρ R):CT U ρ R
 |lz {R:Type} (q:Nat) (live frz:List Nat) (shs:List Sh) (sho:List ShO)
   (hd:Nat→ZiX (lvQ U shs sho) (Option (Out Unit ρ))) (body:Nat→CT U ρ (Out Unit ρ)) (k:CT U ρ R):CT U ρ R
structure CC (U:Zc) (R:Type) where
 pb:List Nat
 back:Option (Lp U R)
 exits:List (Nat×Lp U R)
 ret:ZbA U→Option R
variable {ρ:Type}
abbrev outB {β R:Type} (em:ρ→Option R) (af:β→Option R):Out β ρ→Option R
 | .ret q=>em q
 | .brk b=>af b
abbrev CT.cuts:{R:Type}→CT U ρ R→(ρ→Option R)→List (List Nat×Lp U R)
 |_,.nil,_=>[]
 |_,.j p live frz shs sho f k,em=>(pth p,⟨live,frz,shs,sho,unc shs sho f⟩)::k.cuts em
 |_,.lo q live frz shs sho _ _ _ xshs xsho hd af _ k,em=>(pth q,⟨live,frz,shs,sho,fun v w=>(unc shs sho (hd big) v w).bind (unT (lvQ U xshs xsho) af)⟩)::k.cuts em
 |_,.lr q live frz shs sho _ _ _ xshs xsho hd af _ k,em=>(pth q,⟨live,frz,shs,sho,fun v w=>(unc shs sho (hd big) v w).bind (outB em (unT (lvQ U xshs xsho) af))⟩)::k.cuts em
 |_,.lz q live frz shs sho hd _ k,em=>(pth q,⟨live,frz,shs,sho,fun v w=>(unc shs sho (hd big) v w).bind (outB em fun _=>none)⟩)::k.cuts em
abbrev CT.Ty:{R:Type}→CT U ρ R→Type
 |_,.nil=>Unit
 |R,.j _ _ _ shs sho _ k=>Bool×(Zb7 U shs→Zaf U sho→Option R)×k.Ty
 |R,.lo _ _ _ shs sho _ _ _ xshs xsho _ _ body k=>Bool×(Zb7 U shs→Zaf U sho→Option (HT (lvQ U xshs xsho)))×(Nat→Zb7 U shs→Zaf U sho→Option (HT (lvQ U xshs xsho)))×((n:Nat)→(body n).Ty)×(Zb7 U xshs→Zaf U xsho→Option R)×k.Ty
 |R,.lr _ _ _ shs sho _ _ _ xshs xsho _ _ body k=>Bool×(Zb7 U shs→Zaf U sho→Option (Out (HT (lvQ U xshs xsho)) ρ))×(Nat→Zb7 U shs→Zaf U sho→Option (Out (HT (lvQ U xshs xsho)) ρ))×((n:Nat)→(body n).Ty)×(Zb7 U xshs→Zaf U xsho→Option R)×k.Ty
 |_,.lz _ _ _ shs sho _ body k=>Bool×(Zb7 U shs→Zaf U sho→Option (Out Unit ρ))×(Nat→Zb7 U shs→Zaf U sho→Option (Out Unit ρ))×((n:Nat)→(body n).Ty)×k.Ty
abbrev stC (F:FC U) (live:List Nat) (shs:List Sh) (sho:List ShO) (v:Zb7 U shs) (w:Zaf U sho):TS U:=mkC F.lent live (Zmk shs v) (Zj1 sho w)
abbrev ZcM (ret0:ZbA U→Option ρ) {X:Type} (em:ρ→Option X) (q:List Nat) (L:Lp U X) (ex:List (Nat×Lp U X)):CC U X:=⟨5::q,some L,ex,fun t=>(ret0 t).bind em⟩
abbrev lx (xlive xfrz:List Nat) (xshs:List Sh) (xsho:List ShO) {X:Type} (m:HT (lvQ U xshs xsho)→X):Lp U X:=⟨xlive,xfrz,xshs,xsho,fun v w=>some (m (Zlm (lvQ U xshs xsho) (flQ xshs xsho v w)))⟩
noncomputable abbrev evp (F:FC U) {R:Type} (C:CC U R) (cuts:List (List Nat×Lp U R)) (pre:List TI') (T:TS U):Option R:=evl (F.par cuts C.back C.exits C.ret) 4000 none pre T
noncomputable abbrev CT.lhs (F:FC U) (ret0:ZbA U→Option ρ):{R:Type}→(t:CT U ρ R)→CC U R→(ρ→Option R)→t.Ty
 |_,.nil,_,_=>()
 |_,.j p live _ shs sho _ k,C,em=>(chkP F C.pb (pth p),fun v w=>evp F C (k.cuts em) (tc F (pth p)::kOf F C.pb (pth p)) (stC F live shs sho v w),k.lhs F ret0 C em)
 |_,.lo q live frz shs sho xid xlive xfrz xshs xsho hd _ body k,C,em=>(ZfD F C.pb (pth q)&&Zmj F C.pb (pth q) xid,fun v w=>unc shs sho (hd 0) v w,
   fun n v w=>evp F (ZcM ret0 (fun _=>none) (pth q) ⟨live,frz,shs,sho,unc shs sho (hd n)⟩ [(xid,lx xlive xfrz xshs xsho id)]) ((body n).cuts fun _=>none) [tc F (5::pth q)] (stC F live shs sho v w),
   fun n=>(body n).lhs F ret0 (ZcM ret0 (fun _=>none) (pth q) ⟨live,frz,shs,sho,unc shs sho (hd n)⟩ [(xid,lx xlive xfrz xshs xsho id)]) fun _=>none,
   fun v w=>evp F C (k.cuts em) (xpre F C.pb (pth q) xid) (stC F xlive xshs xsho v w),k.lhs F ret0 C em)
 |_,.lr q live frz shs sho xid xlive xfrz xshs xsho hd _ body k,C,em=>(ZfD F C.pb (pth q)&&Zmj F C.pb (pth q) xid,fun v w=>unc shs sho (hd 0) v w,
   fun n v w=>evp F (ZcM ret0 (fun q=>some (.ret q)) (pth q) ⟨live,frz,shs,sho,unc shs sho (hd n)⟩ [(xid,lx xlive xfrz xshs xsho .brk)]) ((body n).cuts fun q=>some (.ret q)) [tc F (5::pth q)] (stC F live shs sho v w),
   fun n=>(body n).lhs F ret0 (ZcM ret0 (fun q=>some (.ret q)) (pth q) ⟨live,frz,shs,sho,unc shs sho (hd n)⟩ [(xid,lx xlive xfrz xshs xsho .brk)]) fun q=>some (.ret q),
   fun v w=>evp F C (k.cuts em) (xpre F C.pb (pth q) xid) (stC F xlive xshs xsho v w),k.lhs F ret0 C em)
 |_,.lz q live frz shs sho hd body k,C,em=>(ZfD F C.pb (pth q),fun v w=>unc shs sho (hd 0) v w,
   fun n v w=>evp F (ZcM ret0 (fun q=>some (.ret q)) (pth q) ⟨live,frz,shs,sho,unc shs sho (hd n)⟩ []) ((body n).cuts fun q=>some (.ret q)) [tc F (5::pth q)] (stC F live shs sho v w),
   fun n=>(body n).lhs F ret0 (ZcM ret0 (fun q=>some (.ret q)) (pth q) ⟨live,frz,shs,sho,unc shs sho (hd n)⟩ []) fun q=>some (.ret q),
   k.lhs F ret0 C em)
abbrev CT.rhs:{R:Type}→(t:CT U ρ R)→t.Ty
 |_,.nil=>()
 |_,.j _ _ _ shs sho f k=>(true,fun v w=>unc shs sho f v w,k.rhs)
 |_,.lo _ _ _ shs sho _ _ _ xshs xsho hd af body k=>(true,fun _ _=>none,fun n v w=>unc shs sho (hd (n+1)) v w,fun n=>(body n).rhs,fun v w=>unc xshs xsho af v w,k.rhs)
 |_,.lr _ _ _ shs sho _ _ _ xshs xsho hd af body k=>(true,fun _ _=>none,fun n v w=>unc shs sho (hd (n+1)) v w,fun n=>(body n).rhs,fun v w=>unc xshs xsho af v w,k.rhs)
 |_,.lz _ _ _ shs sho hd body k=>(true,fun _ _=>none,fun n v w=>unc shs sho (hd (n+1)) v w,fun n=>(body n).rhs,k.rhs)
variable {F:FC U}
theorem Zfq (hF:FOk F) {X:Type} {RT:Ret} {x:X} {q:List Nat} {live frz:List Nat} {shs:List Sh} {sho:List ShO} {hd:Nat→ZiX (lvQ U shs sho) (Option X)} {cuts:Nat→List (List Nat×Lp U X)}
  {ex:List (Nat×Lp U X)} {ret:ZbA U→Option X} {b:Code} {k:List Item} (hq:atP (F.c,[]) q=some (.loop b,k)) (h0:(fun v w=>unc shs sho (hd 0) v w)=fun _ _=>none)
  (hs:(fun n v w=>evp F (⟨5::q,some ⟨live,frz,shs,sho,unc shs sho (hd n)⟩,ex,ret⟩:CC U X) (cuts n) [tc F (5::q)] (stC F live shs sho v w))=fun n v w=>unc shs sho (hd (n+1)) v w)
  (hc:∀n,Zhq F RT x ⟨live,frz,shs,sho,unc shs sho (hd n)⟩ (.lp b::k)→Zbc F RT x (cuts n)) (he:ZaP F RT x (.lp b::k) ex) (hret:∀t,ret t=some x→t.enc=RT) (n:Nat):
  Zhq F RT x ⟨live,frz,shs,sho,unc shs sho (hd n)⟩ (Zka F q):=
 ZlO hF 4000 (cuts:=cuts) (exits:=ex) (ret:=ret) (fun n=>unc shs sho (hd n)) hq (fun v w=>congrFun (congrFun h0 v) w) (fun n v w=>by
  rw[←congrFun (congrFun (congrFun hs n) v) w];have h5:atP (F.c,[]) (5::q)=some (b,.lp b::k):=by simp only[atP,hq]
  unfold evp tc;rw[Zbu h5];rfl) hc he hret n
theorem CT.ok (hF:FOk F) {ret0:ZbA U→Option ρ}:∀{R:Type} (t:CT U ρ R) (C:CC U R) (em:ρ→Option R),(C.ret=fun t=>(ret0 t).bind em)→t.lhs F ret0 C em=t.rhs→∀{RT:Ret} {r:R} {cb:Code} {base:List Item},
  atP (F.c,[]) C.pb=some (cb,base)→(∀L,C.back=some L→Zhq F RT r L base)→(C.back=none→base=[])→ZaP F RT r base C.exits→(∀t,C.ret t=some r→t.enc=RT)→Zbc F RT r (t.cuts em)
 |_,.nil,_,_,_,_,_,_,_,_,_,_,_,_,_=>trivial
 |R,.j p live frz shs sho f k,C,em,hr,h,RT,r,cb,base,hb,hk,hn,hx,ht=>by
  have h: @Eq (Bool×(Zb7 U shs→Zaf U sho→Option R)×k.Ty) (_,_,_) (_,_,_):=h;have h1:chkP F C.pb (pth p)=true:=congrArg (fun x=>x.1) h;have h2:=congrArg (fun x=>x.2.1) h;have h3:k.lhs F ret0 C em=k.rhs:=congrArg (fun x=>x.2.2) h;have ih:=CT.ok hF k C em hr h3 hb hk hn hx ht;refine⟨fun v w hi hv=> ?_,ih⟩;simp only[chkP,Zmt,Znz]at h1;obtain⟨⟨⟨c,kk⟩,hp⟩,hin⟩:=h1;obtain⟨e1,e2⟩:=ZhO F hb _ hin _ _ hp;have e3:Zka F (pth p)=(tc F (pth p)::kOf F C.pb (pth p)).map TI'.conc++base:=by simp only[Zka,hp,tc,ZmD,TI'.conc,Zbu hp,ZmZ,e1]
  refine Pt.evlAt hF 4000 (cuts:=k.cuts em) (back:=C.back) (exits:=C.exits) (ret:=C.ret) (base:=base) (pre:=tc F (pth p)::kOf F C.pb (pth p)) e3 hi ?_ ?_ ih hk hn hx ht
  ·exact(congrFun (congrFun h2 v) w).trans hv
  ·exact⟨by rw[Zbu hp,hp,e1],e2⟩
 |R,.lo q live frz shs sho xid xlive xfrz xshs xsho hd af body k,C,em,hr,h,RT,r,cb,base,hb,hk,hn,hx,ht=>by
  have h: @Eq (Bool×(Zb7 U shs→Zaf U sho→Option (HT (lvQ U xshs xsho)))×(Nat→Zb7 U shs→Zaf U sho→Option (HT (lvQ U xshs xsho)))×((n:Nat)→(body n).Ty)×(Zb7 U xshs→Zaf U xsho→Option R)×k.Ty) (_,_,_,_,_,_) (_,_,_,_,_,_):=h;have h1:(ZfD F C.pb (pth q)&&Zmj F C.pb (pth q) xid)=true:=congrArg (fun x=>x.1) h;have h2:=congrArg (fun x=>x.2.1) h;have h3:=congrArg (fun x=>x.2.2.1) h;have h4:=congrArg (fun x=>x.2.2.2.1) h;have h5:=congrArg (fun x=>x.2.2.2.2.1) h;have h6:k.lhs F ret0 C em=k.rhs:=congrArg (fun x=>x.2.2.2.2.2) h;have ih:=CT.ok hF k C em hr h6 hb hk hn hx ht;refine⟨fun v w hi hv=> ?_,ih⟩;obtain⟨x,hx0,hxa⟩:=bind_some hv;simp only[ZfD,Zmj,Zmt,Znz]at h1;obtain⟨⟨hl,hin⟩,pre',hpre⟩:=h1;have hq:∃b kq,atP (F.c,[]) (pth q)=some (.loop b,kq):=by
   unfold Zc4 at hl;split at hl
   ·rename_i y hy;obtain⟨c,kq⟩:=y;cases c<;>simp only[ZdM,Zmu]at hl;exact⟨_,_,hy⟩
   ·simp[ZdM]at hl
  obtain⟨b,kq,hq⟩:=hq;obtain⟨e1,e2⟩:=ZhO F hb _ hin _ _ hq;have h5q:atP (F.c,[]) (5::pth q)=some (b,.lp b::kq):=by simp only[atP,hq]
  have hex:ZaP F RT x (.lp b::kq) [(xid,lx xlive xfrz xshs xsho id)]:=by
   refine⟨⟨pre'.map TI'.conc++base, ?_,fun v' w' hi' h'=> ?_⟩,trivial⟩
   ·show Zaj xid kq=_;rw[e1];exact(Z9 (root:=(F.c,[])) (base:=base) hpre).1 base
   ·obtain rfl:Zlm _ (flQ xshs xsho v' w')=x:=Option.some.inj h';refine Pt.evlAt hF 4000 (cuts:=k.cuts em) (back:=C.back) (exits:=C.exits) (ret:=C.ret) (base:=base) (pre:=pre') rfl hi' ?_ ((Z9 hpre).2 e2) ih hk hn hx ht;have e5:=congrFun (congrFun h5 v') w';simp only[xpre,hpre,ZmO]at e5;refine Eq.trans e5 ?_;simp only[unT,Zcc]at hxa;exact hxa
  exact Zfq hF hq h2 h3 (fun n hL=>CT.ok hF (body n) _ _ rfl (congrFun h4 n) h5q (fun L hLe=>by simp only[ZcM,ZmR]at hLe;subst hLe;exact hL) (fun hne=>by simp[ZcM]at hne) hex (fun t htt=>by simp[ZcM]at htt)) hex
   (fun t htt=>by simp at htt) big v w hi hx0
 |R,.lr q live frz shs sho xid xlive xfrz xshs xsho hd af body k,C,em,hr,h,RT,r,cb,base,hb,hk,hn,hx,ht=>by
  have h: @Eq (Bool×(Zb7 U shs→Zaf U sho→Option (Out (HT (lvQ U xshs xsho)) ρ))×(Nat→Zb7 U shs→Zaf U sho→Option (Out (HT (lvQ U xshs xsho)) ρ))×((n:Nat)→(body n).Ty)×(Zb7 U xshs→Zaf U xsho→Option R)×k.Ty) (_,_,_,_,_,_) (_,_,_,_,_,_):=h;have h1:(ZfD F C.pb (pth q)&&Zmj F C.pb (pth q) xid)=true:=congrArg (fun x=>x.1) h;have h2:=congrArg (fun x=>x.2.1) h;have h3:=congrArg (fun x=>x.2.2.1) h;have h4:=congrArg (fun x=>x.2.2.2.1) h;have h5:=congrArg (fun x=>x.2.2.2.2.1) h;have h6:k.lhs F ret0 C em=k.rhs:=congrArg (fun x=>x.2.2.2.2.2) h;have ih:=CT.ok hF k C em hr h6 hb hk hn hx ht;refine⟨fun v w hi hv=> ?_,ih⟩;obtain⟨x,hx0,hxa⟩:=bind_some hv;simp only[ZfD,Zmj,Zmt,Znz]at h1;obtain⟨⟨hl,hin⟩,pre',hpre⟩:=h1;have hq:∃b kq,atP (F.c,[]) (pth q)=some (.loop b,kq):=by
   unfold Zc4 at hl;split at hl
   ·rename_i y hy;obtain⟨c,kq⟩:=y;cases c<;>simp only[ZdM,Zmu]at hl;exact⟨_,_,hy⟩
   ·simp[ZdM]at hl
  obtain⟨b,kq,hq⟩:=hq;obtain⟨e1,e2⟩:=ZhO F hb _ hin _ _ hq;have h5q:atP (F.c,[]) (5::pth q)=some (b,.lp b::kq):=by simp only[atP,hq]
  have hex:ZaP F RT x (.lp b::kq) [(xid,lx xlive xfrz xshs xsho .brk)]:=by
   refine⟨⟨pre'.map TI'.conc++base, ?_,fun v' w' hi' h'=> ?_⟩,trivial⟩
   ·show Zaj xid kq=_;rw[e1];exact(Z9 (root:=(F.c,[])) (base:=base) hpre).1 base
   ·obtain rfl:Out.brk (Zlm _ (flQ xshs xsho v' w'))=x:=Option.some.inj h';refine Pt.evlAt hF 4000 (cuts:=k.cuts em) (back:=C.back) (exits:=C.exits) (ret:=C.ret) (base:=base) (pre:=pre') rfl hi' ?_ ((Z9 hpre).2 e2) ih hk hn hx ht;have e5:=congrFun (congrFun h5 v') w';simp only[xpre,hpre,ZmO]at e5;refine Eq.trans e5 ?_;simp only[outB,unT,Zcc]at hxa;exact hxa
  have hrr:∀t:ZbA U,((ret0 t).bind fun q=>some (Out.ret q))=some x→t.enc=RT:=fun t htt=>by obtain⟨y,hy,hyx⟩:=bind_some htt;obtain rfl:=Option.some.inj hyx;refine ht t ?_;rw[hr];show (ret0 t).bind em=some r;rw[hy];exact hxa
  exact Zfq hF hq h2 h3 (fun n hL=>CT.ok hF (body n) _ _ rfl (congrFun h4 n) h5q (fun L hLe=>by simp only[ZcM,ZmR]at hLe;subst hLe;exact hL) (fun hne=>by simp[ZcM]at hne) hex hrr) hex hrr big v w hi hx0
 |_,.lz q live frz shs sho hd body k,C,em,hr,h,RT,r,cb,base,hb,hk,hn,hx,ht=>by
  have h: @Eq (Bool×(Zb7 U shs→Zaf U sho→Option (Out Unit ρ))×(Nat→Zb7 U shs→Zaf U sho→Option (Out Unit ρ))×((n:Nat)→(body n).Ty)×k.Ty) (_,_,_,_,_) (_,_,_,_,_):=h;have h1:ZfD F C.pb (pth q)=true:=congrArg (fun x=>x.1) h;have h2:=congrArg (fun x=>x.2.1) h;have h3:=congrArg (fun x=>x.2.2.1) h;have h4:=congrArg (fun x=>x.2.2.2.1) h;have h6:k.lhs F ret0 C em=k.rhs:=congrArg (fun x=>x.2.2.2.2) h;have ih:=CT.ok hF k C em hr h6 hb hk hn hx ht;refine⟨fun v w hi hv=> ?_,ih⟩;obtain⟨x,hx0,hxa⟩:=bind_some hv;simp only[ZfD,Zmt]at h1;obtain⟨hl,hin⟩:=h1;have hq:∃b kq,atP (F.c,[]) (pth q)=some (.loop b,kq):=by
   unfold Zc4 at hl;split at hl
   ·rename_i y hy;obtain⟨c,kq⟩:=y;cases c<;>simp only[ZdM,Zmu]at hl;exact⟨_,_,hy⟩
   ·simp[ZdM]at hl
  obtain⟨b,kq,hq⟩:=hq;have h5q:atP (F.c,[]) (5::pth q)=some (b,.lp b::kq):=by simp only[atP,hq]
  have hrr:∀t:ZbA U,((ret0 t).bind fun q=>some (Out.ret q))=some x→t.enc=RT:=fun t htt=>by obtain⟨y,hy,hyx⟩:=bind_some htt;obtain rfl:=Option.some.inj hyx;refine ht t ?_;rw[hr];show (ret0 t).bind em=some r;rw[hy];exact hxa
  exact Zfq hF hq h2 h3 (fun n hL=>CT.ok hF (body n) _ _ rfl (congrFun h4 n) h5q (fun L hLe=>by simp only[ZcM,ZmR]at hLe;subst hLe;exact hL) (fun hne=>by simp[ZcM]at hne) trivial hrr) trivial hrr big v w hi hx0
end
abbrev oTy (U:Zc) (os:List (Nat×ShA)) (rs:List ShR):List Type:=ZlN U rs (ZlM U os [])
def amOf:ShA→AM
 | .box _ | .arr _=> .lend
 | .part _=> .part
 |_=> .p
def ahOf:ShA→Option Nat
 | .p (.st n)=>some n
 |_=>none
def rmOf:ShR→RM
 | .p _=> .p
 | .own _=> .own
 | .box _=> .box
 | .map _ _=> .map
 | .view _=> .view
def rhOf:ShR→Option Nat
 | .p (.st n)=>some n
 |_=>none
def isAr:ShA→Bool
 | .arr _ | .part _=>true
 |_=>false
section
variable {U:Zc}
structure FD (U:Zc) where
 f:Nat
 fn:Func
 sigs:List (Nat×Zi1 U)
 as:List ShA
 os:List (Nat×ShA)
 rs:List ShR
 keep:List Nat
 alt:List (Nat×Nat)
 s:ZiX (Zjz U as []) (Option (HT (oTy U os rs)))
 w:ZiX (Zjz U as []) (Option (HT (oTy U os rs)))
 t:CT U (HT (oTy U os rs)) (HT (oTy U os rs))
namespace FD
variable (D:FD U)
abbrev rho:Type:=HT (oTy U D.os D.rs)
abbrev R:RSh:=⟨D.rs,D.os⟩
abbrev g (v:ZkU U D.R):D.rho:=Zlm (oTy U D.os D.rs) (Zmi D.rs v.1 (Zk9 (r:=[]) (D.os) v.2 ()))
abbrev b (x:D.rho):ZbA U:=D.R.bld ((usR D.rs (ZlE (oTy U D.os D.rs) x)).1,(usU (r:=[]) (D.os) (usR D.rs (ZlE (oTy U D.os D.rs) x)).2).1)
theorem b_g (v:ZkU U D.R):D.b (D.g v)=D.R.bld v:=by obtain⟨v1,v2⟩:=v;have e:ZlE (oTy U D.os D.rs) (D.g (v1,v2))=Zmi D.rs v1 (Zk9 (r:=[]) (D.os) v2 ()):=Zcc _ _;have e2:usR D.rs (Zmi D.rs v1 (Zk9 (r:=[]) (D.os) v2 ()))=(v1,Zk9 (r:=[]) (D.os) v2 ()):=Zhu _ _ _;have e3:(usU (r:=[]) (D.os) (Zk9 (r:=[]) (D.os) v2 ())).1=v2:=congrArg Prod.fst (Zht _ _ _);unfold b;rw[e,e2];exact congrArg (fun x=>D.R.bld (v1,x)) e3
abbrev FS:Zj9 U:=⟨D.rho,D.fn.params.toList,D.as.map amOf,D.as.map ahOf,D.as,fun v=>app (Zjz U D.as []) D.w (Zla (r:=[]) D.as v ()),D.b⟩
abbrev sig:Zi1 U:=D.FS.sig
abbrev sg:Nat×Zi1 U:=(D.f,D.sig)
abbrev F (X0:ZG U):FC U:=⟨X0.at D.fn.ntmps,D.fn,Zlc D.fn,D.sigs,D.os.map (·.1),D.rs.map rmOf,D.rs.map rhOf,D.keep,D.alt⟩
abbrev C:CC U D.rho:=⟨[],none,[],Zem D.R D.g⟩
def chk0:Bool:= !(D.fn.name == "runtime.NumGoroutine")&&D.fn.body.isSome&&Nat.ble D.as.length D.fn.ntmps
abbrev Ty:Type:=Bool×(D.rho→Bool)×(ZfI U D.as→Option D.rho)×D.t.Ty
noncomputable abbrev lhs (X0:ZG U):D.Ty:=(D.chk0,fun r=>D.os.any (fun x=>isAr x.2)||(D.b r).outs.all (fun x=>x.2.len?.isNone),
 fun v=>evp (D.F X0) D.C (D.t.cuts some) [tc0 (D.F X0)] (Zj3 (Zdb D.as v)),D.t.lhs (D.F X0) (Zem D.R D.g) D.C some)
abbrev rhs:D.Ty:=(true,fun _=>true,fun v=>app (Zjz U D.as []) D.s (Zla (r:=[]) D.as v ()),D.t.rhs)
end FD
structure Gnd (X0:ZG U):Prop where
 hU:UOk U
 hX:TOk X0
 hE:Zk X0.E
 hm:X0.prog.follows .mixedOrders=true
theorem Zc5:∀(as:List ShA) (v:ZfI U as),(Zdb as v).length=as.length
 | [],_=>rfl
 |s::r,v=>by rw[Zdb,List.length_cons,List.length_cons,Zc5 r]
theorem FD.fun {X0:ZG U} (G:Gnd X0) (D:FD U) (hf:X0.prog.funcs[D.f]? =some D.fn) (hs:ZcX X0 D.sigs) (h:D.lhs X0=D.rhs):
  (∀v r,app (Zjz U D.as []) D.s (Zla (r:=[]) D.as v ())=some r→Fun X0.E D.f ((Zdb D.as v).map ZR.enc) (D.b r).enc)∧∀r,(D.os.any (fun x=>isAr x.2)||(D.b r).outs.all (fun x=>x.2.len?.isNone))=true:=by
 simp only[FD.lhs,FD.rhs,ZmS]at h;obtain⟨h1,h3,h4,h5⟩:=h;simp only[FD.chk0,Zmt,Bool.not_eq_true',Znz]at h1;obtain⟨⟨hn,c,hc⟩,hl⟩:=h1;have hF:FOk (D.F X0):=fok G.hU G.hX G.hE G.hm rfl hs;have hcuts:∀r,Zbc (D.F X0) (D.b r).enc r (D.t.cuts some):=fun r=>by
  have hret:∀t,D.C.ret t=some r→t.enc=(D.b r).enc:=fun t ht=>ZfX G.hU D.b_g ht
  refine CT.ok hF (ret0:=Zem D.R D.g) D.t D.C some (by funext t;simp[FD.C]) h5 (cb:=(D.F X0).c) (base:=[]) rfl (fun L hL=>by simp[FD.C]at hL) (fun _=>rfl) trivial hret
 have hb:D.fn.body=some (D.F X0).c:=by rw[hc];simp only[FD.F,Zlc,hc]
 exact⟨fun v r hv=>Zgl (F:=D.F X0) rfl hf hn hb (by rw[Zc5];exact Nat.le_of_ble_eq_true hl)
   (Pt.ev0 hF (b:=D.b) (S:=D.R) (g:=D.g) (pre:=[tc0 (D.F X0)]) rfl (Zgw _) ((congrFun h4 v).trans hv) ⟨rfl,trivial⟩ (hcuts r) D.b_g),fun r=>congrFun h3 r⟩
theorem FD.ok {X0:ZG U} (G:Gnd X0) (D:FD U) (hf:X0.prog.funcs[D.f]? =some D.fn) (hs:ZcX X0 D.sigs) (ha:D.os.any (fun x=>isAr x.2)=false) (hw:D.w=D.s) (h:D.lhs X0=D.rhs):Zeg X0.E D.f D.sig:=by
 obtain⟨h1,h2⟩:=D.fun G hf hs h;refine Zj9.ok (S:=D.FS) G.hU fun v r hr=> ?_
 have hr:app (Zjz U D.as []) D.w (Zla (r:=[]) D.as v ())=some r:=hr;rw[hw]at hr;have h3:=h2 r;rw[ha,Bool.false_or]at h3;exact⟨h1 v r hr,Zdx h3⟩
theorem FD.okA {X0:ZG U} (G:Gnd X0) (D:FD U) (hf:X0.prog.funcs[D.f]? =some D.fn) (hs:ZcX X0 D.sigs)
  (hw:(fun v=>app (Zjz U D.as []) D.w (Zla (r:=[]) D.as v ()))=fun v=>(app (Zjz U D.as []) D.s (Zla (r:=[]) D.as v ())).bind fun r=>chk (ZhF (Zdb D.as v) (D.b r)) (some r)) (h:D.lhs X0=D.rhs):Zeg X0.E D.f D.sig:=by
 obtain⟨h1,h2⟩:=D.fun G hf hs h;refine Zj9.ok (S:=D.FS) G.hU fun v r hr=> ?_
 have hr:app (Zjz U D.as []) D.w (Zla (r:=[]) D.as v ())=some r:=hr;have e2:=congrFun hw v;rw[hr]at e2;obtain⟨q1,q2⟩:=chkLen e2.symm;exact⟨h1 v r q1,Zij q2⟩
end
end Eng
namespace Eng
open Go
section
variable {U:Zc}
def Ty.isSt:Ty→Bool
 | .st _=>true
 |_=>false
def Zmb (U:Zc):Prop:=∀n x,(U.cells n x).all (fun l=> !l.t.isSt)=true
def ZgG (w:World) (cs:List Value) (ls:List (Lf U.car)):Prop:=
 cs.length=ls.length∧∀(j:Nat) v l,cs[j]? =some v→ls[j]? =some l→RelP w (fun b=>b < w.heap.size) v (U.encL l)
theorem ZgG.one {w:World} {v:Value} {l:Lf U.car} (h:RelP w (fun b=>b < w.heap.size) v (U.encL l)):ZgG (U:=U) w [v] [l]:=by
 refine⟨rfl,fun j v' l' h1 h2=> ?_⟩;cases j with
 |zero=>simp at h1 h2;subst h1;subst h2;exact h
 |succ j=>simp at h1
theorem ZgG.append {w:World} {cs cs':List Value} {ls ls':List (Lf U.car)} (h:ZgG w cs ls) (h':ZgG w cs' ls'):ZgG w (cs++cs') (ls++ls'):=by
 refine⟨by simp[h.1,h'.1],fun j v l h1 h2=> ?_⟩;rw[List.getElem?_append]at h1 h2
 by_cases hj:j < cs.length
 ·rw[if_pos hj]at h1;rw[if_pos (by rw[←h.1];exact hj)]at h2;exact h.2 j v l h1 h2
 ·rw[if_neg hj]at h1;rw[if_neg (by rw[←h.1];exact hj),←h.1]at h2;exact h'.2 _ v l h1 h2
def Zke (T:Ty) (cs:List Value):Value:=if T.isSt then .agg cs.toArray else cs.headD Go.undef
theorem ZhL {w:World} {S:Nat→Prop} {v:Value} {l:Lf U.car} (hl:l.t.isSt=false) (h:RelP w S v (U.encL l)):ZbO v∧v.cells= #[v]:=by
 obtain⟨t,x⟩:=l;generalize hz:U.encL ⟨t,x⟩=z at h;cases h with
 |agg vs cs hl' h1 h=>
  exfalso;cases t<;>first |(simp[Ty.isSt]at hl;done) |(simp[Zc.encL,Zc.encE]at hz;done) |(cases x<;>simp[Zc.encL,Zc.encE,ZjM]at hz)
 |_=>exact⟨rfl,rfl⟩
theorem Zdg (hU:UOk U) (hF:Zmb U) {w:World} {T:Ty} {y:El U.car T} {cs:List Value} (h:ZgG w cs (U.cellsE T y)):
  RelP w (fun b=>b < w.heap.size) (Zke T cs) (U.encE T y)∧(Zke T cs).cells=cs.toArray:=by
 cases T with
 |st n=>
  refine⟨?_,rfl⟩;simp only[Zc.encE,hU.enc_cells n y];show RelP w _ (.agg cs.toArray) _;have hall:=hF n y;rw[ZmX]at hall;refine .agg _ _ (by have h1:cs.length=(U.cells n y).length:=h.1;simpa using h1) (fun i v hv=> ?_) (fun i v c hv hc=> ?_)
  ·have hv':cs[i]? =some v:=by simpa using hv
   have hi:i < (U.cells n y).length:=by have:=(List.getElem?_eq_some_iff.1 hv').1;have h1:cs.length=(U.cells n y).length:=h.1;omega
   have hl:(U.cells n y)[i]? =some (U.cells n y)[i]:=Zmz hi;exact(ZhL (by simpa using hall _ (List.getElem_mem hi)) (h.2 i v _ hv' hl)).1
  ·have hv':cs[i]? =some v:=by simpa using hv
   rw[List.getElem?_map]at hc;cases hl:(U.cells n y)[i]? with
   |none=>rw[hl]at hc;simp at hc
   |some l=>
    rw[hl]at hc;simp only[Option.map_some,ZmR]at hc;subst hc;exact h.2 i v l hv' hl
 |bool |int k |str |sl t |map k v |fnc=>
  obtain⟨h1,h2⟩:=h
  match cs,h1 with
  | [c],_=>
   have:=h2 0 c _ rfl rfl;exact⟨this,(ZhL rfl this).2⟩
def Zei (P:Program) (U:Zc) (t:TypeId) (T:Ty):Prop:=
 ∀{H:Type} (enc:TypeId×Value→H) (w:World) (fuel:Nat) (cs:List Value) (x:DataW H×List MemPlace),DataW.trod enc P w 0 (fun _=>true) true fuel t cs=some x→
  (∀n∈x.1.weights P t,n≤reachBytes)→∃y:El U.car T,ZgG w cs (U.cellsE T y)
variable {P:Program}
theorem Zmh {t:TypeId} (ht:P.underlying t=some .bool):Zei P U t .bool:=fun enc w fuel cs x h _=>by obtain⟨b,rfl,_⟩:=DataW.trod_bool ht h;exact⟨b,.one (.bool b)⟩
theorem opens_int {t:TypeId} {k:IntKind} (ht:P.underlying t=some (.int k)):Zei P U t (.int k):=fun enc w fuel cs x h _=>by obtain⟨n,rfl,_,hw⟩:=DataW.trod_int ht h;simp only[Lit.wf,Zmt,decide_eq_true_eq]at hw;exact⟨n,.one (.int k n hw.1 hw.2)⟩
theorem opens_str {t:TypeId} (ht:P.underlying t=some .string):Zei P U t .str:=fun enc w fuel cs x h _=>by obtain⟨⟨⟨l⟩⟩,rfl,_,hs⟩:=DataW.trod_string ht h;exact⟨l,.one (.str l hs)⟩
theorem ZdY {α:Type} {R:Nat→α→Prop}:∀n,(∀i,i < n→∃y,R i y)→∃l:List α,l.length=n∧∀i y,l[i]? =some y→R i y
 |0,_=>⟨[],rfl,fun i y h=>by simp at h⟩
 |n+1,h=>by
  obtain⟨l,h1,h2⟩:=ZdY n fun i hi=>h i (by omega)
  obtain⟨y,hy⟩:=h n (by omega);refine⟨l++[y],by simp[h1],fun i z hz=> ?_⟩;rw[List.getElem?_append]at hz;split at hz
  ·exact h2 i z hz
  ·rename_i hi;have:i=n:=by have:=(List.getElem?_eq_some_iff.1 hz).1;simp at this;omega
   subst this;simp[h1]at hz;subst hz;exact hy
theorem ZbP {H:Type} {P:Program} {e:TypeId}:∀{l:List (DataW H)} {d:DataW H},d∈l→∀n∈d.weights P e,n∈DataW.weightsAll P e l
 |x::r,d,hd,n,hn=>by
  simp only[DataW.weightsAll,ZmE];rcases ZmF.1 hd with rfl |hd
  ·exact .inl hn
  ·exact .inr (ZbP hd n hn)
theorem Zly (hU:UOk U) (hF:Zmb U) {t e:TypeId} {T:Ty} (ht:P.underlying t=some (.slice e)) (hsz:P.cellsOf e=U.tsize T) (hpos:0 < U.tsize T) (hb:1≤P.bytesOf e) (he:Zei P U e T):Zei P U t (.sl T):=fun enc w fuel cs x h hw=>by
 rcases DataW.trod_slice ht h with ⟨rfl,_⟩ |⟨a,len,cap,elems,rest,n,_,rfl,rfl,_,hl,_,hlen,hel,_,_⟩
 ·refine⟨[],.one ?_⟩;exact .sl none 0 0 _ _ (fun _=>Go.undef) rfl (by simp) (Nat.le_refl _) (fun i hi=>by omega) (fun i hi=>by omega) (fun i e h=>by simp at h)
 ·have hw0:len≤reachBytes:=by have:=hw ((elems.length+rest.length)*P.bytesOf e) (by simp[DataW.weights,ht]);have h1:elems.length*1≤(elems.length+rest.length)*P.bytesOf e:=Nat.mul_le_mul (by omega) hb;omega
  have each:∀i,i < len→∃y:El U.car T,∃ci,w.cells? 0 (a.add (i*P.cellsOf e)) (P.cellsOf e)=some ci∧ZgG w ci (U.cellsE T y):=fun i hi=>by
   obtain⟨xi,hxi⟩:∃xi,elems[i]? =some xi:=⟨_,Zmz (by omega)⟩;have h1:=hel i hi;rw[hxi]at h1;obtain⟨ci,hci,htr⟩:=Option.bind_eq_some_iff.1 h1;obtain⟨y,hy⟩:=he enc w n ci xi htr fun m hm=>hw m (by
    simp only[DataW.weights,ht,ZmF,ZmE];exact .inr (.inl (ZbP (List.mem_map.2 ⟨xi,List.mem_of_getElem? hxi,rfl⟩) m hm)))
   exact⟨y,ci,hci,hy⟩
  obtain⟨ys,hys,hy⟩:=ZdY len each;have hcl:∀i,i < len→∃y ci,ys[i]? =some y∧w.cells? 0 (a.add (i*P.cellsOf e)) (P.cellsOf e)=some ci∧ZgG w ci (U.cellsE T y):=fun i hi=>by obtain⟨y,hyi⟩:∃y,ys[i]? =some y:=⟨_,Zmz (by omega)⟩;obtain⟨ci,h1,h2⟩:=hy i y hyi;exact⟨y,ci,hyi,h1,h2⟩
  refine⟨ys,.one ?_⟩;show RelP w _ (.slice (some a) len cap) (.sl (U.tsize T) (ys.map (U.encE T)));refine .sl (some a) len cap _ _ (fun i=>Zke T ((w.cells? 0 (a.add (i*P.cellsOf e)) (P.cellsOf e)).getD [])) (by simp[hys]) (Nat.le_trans hw0 (by decide)) hl (fun i hi=> ?_) (fun i hi=> ?_) (fun i z hz=> ?_)
  ·obtain⟨y,ci,h1,h2,h3⟩:=hcl i hi;simp only[h2,ZmO,(Zdg hU hF h3).2];have:=h3.1;rw[ZbH hU]at this;simpa using this
  ·obtain⟨y,ci,h1,h2,h3⟩:=hcl i hi;have hlc:ci.length=U.tsize T:=by rw[h3.1,ZbH hU]
   obtain⟨_,hc1,hc2⟩:=World.cells?_some h2;have hspot:a.spot=none:=by
    obtain⟨y0,c0,_,h20,h30⟩:=hcl 0 (by omega);have hl0:c0.length=U.tsize T:=by rw[h30.1,ZbH hU]
    have h0:=(World.cells?_some h20).2.2 0 (by omega);rw[Nat.zero_mul,show (a.add 0).add 0=a from rfl,Zmz (by omega)]at h0;unfold World.cell? at h0;cases hs:a.spot with
    |none=>rfl
    |some s=>rw[hs]at h0;split at h0<;>simp at h0
   have ha:a=⟨a.block,a.off,none⟩:=by cases a;simp at hspot;subst hspot;rfl
   have hlt:a.block < w.heap.size:=by have:=World.cells?_block h2 (by omega);unfold Addr.add at this;split at this<;>exact this
   have hadd:∀n,a.add n=⟨a.block,a.off+n,none⟩:=fun n=>by
    unfold Addr.add;split
    ·rename_i h0;subst h0;exact ha
    ·rfl
   refine⟨a.block,a.off,by rw[←ha],hlt,fun j v hv=> ?_⟩;simp only[h2,ZmO,(Zdg hU hF h3).2]at hv;have hv':ci[j]? =some v:=by simpa using hv
   have hj:=(List.getElem?_eq_some_iff.1 hv').1;have:=hc2 j (by omega);rw[hv',hadd,hsz]at this;rw[←this];congr 1;unfold Addr.add;split
   ·rename_i h0;subst h0;rfl
   ·rfl
  ·rw[List.getElem?_map]at hz;cases hyi:ys[i]? with
   |none=>rw[hyi]at hz;simp at hz
   |some y=>
    rw[hyi]at hz;simp only[Option.map_some,ZmR]at hz;subst hz;obtain⟨ci,h2,h3⟩:=hy i y hyi;simp only[h2,ZmO];exact(Zdg hU hF h3).1
abbrev Ys (U:Zc):List Ty→Type
 | []=>Unit
 |T::r=>El U.car T×Ys U r
def Ys.cells:(Ts:List Ty)→Ys U Ts→List (Lf U.car)
 | [],_=>[]
 |T::r,y=>U.cellsE T y.1++Ys.cells r y.2
def ZcW (P:Program) (U:Zc):Nat→List Field→List Ty→Prop
 |_,[],[]=>True
 |off,f::fs,T::Ts=>f.offset=off∧P.cellsOf f.type=U.tsize T∧Zei P U f.type T∧ZcW P U (off+U.tsize T) fs Ts
 |_,_,_=>False
def ZfT (U:Zc):List Ty→Nat
 | []=>0
 |T::r=>U.tsize T+ZfT U r
theorem ZdX (hU:UOk U) {H:Type} (enc:TypeId×Value→H) (w:World) (n:Nat) (cs:List Value):∀(off:Nat) (fs:List Field) (Ts:List Ty) (xs:List (DataW H×List MemPlace)),ZcW P U off fs Ts→xs.length=fs.length→
  (∀(i:Nat) (f:Field),fs[i]? =some f→DataW.trod enc P w 0 (fun _=>true) true n f.type ((cs.drop f.offset).take (P.cellsOf f.type))=xs[i]?)→
  (∀m∈DataW.weightsEach P (fs.map (·.type)) (xs.map (·.1)),m≤reachBytes)→cs.length=off+ZfT U Ts→∃ys:Ys U Ts,ZgG w (cs.drop off) (ys.cells Ts)
 |off,[],[],xs,_,_,_,_,hl=>⟨(),by simp[Ys.cells,ZgG,hl,ZfT]⟩
 |off,f::fs,T::Ts,[],_,hx,_,_,_=>by simp at hx
 |off,f::fs,T::Ts,x::xs,⟨h1,h2,h3,h4⟩,hx,hf,hw,hl=>by
  have hf0:=hf 0 f rfl;rw[Zm6,h1,h2]at hf0;simp only[ZmD,DataW.weightsEach,ZmE]at hw;obtain⟨y,hy⟩:=h3 enc w n _ x hf0 fun m hm=>hw m (.inl hm)
  obtain⟨ys,hys⟩:=ZdX hU enc w n cs (off+U.tsize T) fs Ts xs h4 (by simpa using hx) (fun i g hg=>hf (i+1) g (by simpa using hg)) (fun m hm=>hw m (.inr hm)) (by simp only[ZfT]at hl;omega);refine⟨(y,ys), ?_⟩;have:cs.drop off=(cs.drop off).take (U.tsize T)++cs.drop (off+U.tsize T):=by rw[←List.drop_drop,List.take_append_drop]
  rw[this];exact hy.append hys
 |_,[],_::_,_,h,_,_,_,_=>h.elim
 |_,_::_,[],_,h,_,_,_,_=>h.elim
theorem Zk4 (hU:UOk U) {t:TypeId} {fs:Array Field} {k:Nat} {Ts:List Ty} (ht:P.underlying t=some (.struct fs)) (hs:P.cellsOf t=ZfT U Ts) (hf:ZcW P U 0 fs.toList Ts)
  (mk:∀ys:Ys U Ts,∃x:U.car k,U.cells k x=ys.cells Ts):Zei P U t (.st k):=fun enc w fuel cs x h hw=>by
 obtain⟨xs,n,_,rfl,hl,hx,hfs⟩:=DataW.trod_struct ht h;obtain⟨ys,hys⟩:=ZdX hU enc w n cs 0 fs.toList Ts xs hf (by simpa using hx) (fun i f hi=>hfs i f (by simpa using hi)) (fun m hm=>hw m (by simpa[DataW.weights,ht]using hm)) (by rw[hl,hs];omega);obtain⟨y,hy⟩:=mk ys;refine⟨y, ?_⟩;show ZgG w cs (U.cells k y);rw[hy];simpa using hys
def ZiT (T:Ty):Nat→List Ty
 |0=>[]
 |n+1=>T::ZiT T n
theorem Zh4 (hU:UOk U) {H:Type} (enc:TypeId×Value→H) (w:World) (n:Nat) (cs:List Value) {e:TypeId} {T:Ty} (hsz:P.cellsOf e=U.tsize T) (he:Zei P U e T):∀(m:Nat) (i0:Nat) (xs:List (DataW H×List MemPlace)),xs.length=m→
  (∀(i:Nat),i < m→DataW.trod enc P w 0 (fun _=>true) true n e ((cs.drop ((i0+i)*P.cellsOf e)).take (P.cellsOf e))=xs[i]?)→
  (∀q∈DataW.weightsAll P e (xs.map (·.1)),q≤reachBytes)→cs.length=(i0+m)*U.tsize T→∃ys:Ys U (ZiT T m),ZgG w (cs.drop (i0*U.tsize T)) (ys.cells (ZiT T m))
 |0,i0,xs,_,_,_,hl=>⟨(),by simp[ZiT,Ys.cells,ZgG,hl]⟩
 |m+1,i0,[],hx,_,_,_=>by simp at hx
 |m+1,i0,x::xs,hx,hf,hw,hl=>by
  have hf0:=hf 0 (by omega);rw[Zm6,hsz,Nat.add_zero]at hf0;simp only[ZmD,DataW.weightsAll,ZmE]at hw;obtain⟨y,hy⟩:=he enc w n _ x hf0 fun m hm=>hw m (.inl hm)
  obtain⟨ys,hys⟩:=Zh4 hU enc w n cs hsz he m (i0+1) xs (by simpa using hx) (fun i hi=>by have:=hf (i+1) (by omega);rw[List.getElem?_cons_succ]at this;rw[Nat.add_right_comm,Nat.add_assoc];exact this) (fun q hq=>hw q (.inr hq)) (by rw[hl];congr 1;omega)
  refine⟨(y,ys), ?_⟩;have:cs.drop (i0*U.tsize T)=(cs.drop (i0*U.tsize T)).take (U.tsize T)++cs.drop ((i0+1)*U.tsize T):=by rw[Nat.succ_mul,←List.drop_drop,List.take_append_drop]
  rw[this];exact hy.append hys
theorem Zlz (hU:UOk U) {t e:TypeId} {m k:Nat} {T:Ty} (ht:P.underlying t=some (.array m e)) (hs:P.cellsOf t=m*U.tsize T) (hsz:P.cellsOf e=U.tsize T) (he:Zei P U e T)
  (mk:∀ys:Ys U (ZiT T m),∃x:U.car k,U.cells k x=ys.cells (ZiT T m)):Zei P U t (.st k):=fun enc w fuel cs x h hw=>by
 obtain⟨xs,n,_,rfl,hl,hx,hfs⟩:=DataW.trod_array ht h;obtain⟨ys,hys⟩:=Zh4 hU enc w n cs hsz he m 0 xs hx (fun i hi=>by rw[Nat.zero_add];exact hfs i hi) (fun q hq=>hw q (by simpa[DataW.weights,ht]using hq)) (by rw[hl,hs,Nat.zero_add]);obtain⟨y,hy⟩:=mk ys;refine⟨y, ?_⟩;show ZgG w cs (U.cells k y);rw[hy];simpa using hys
theorem open_arg (hU:UOk U) (hF:Zmb U) {H:Type} {enc:TypeId×Value→H} {t:TypeId} {T:Ty} (ho:Zei P U t T) {w:World} {v:Value} {d:DataW H} {ps:List MemPlace} (h:DataW.Trod enc P w 0 (fun _=>true) true t v d ps)
  (hw:∀n∈d.weights P t,n≤reachBytes) (hv:Zke T v.cells.toList=v):∃y:El U.car T,RelP w (fun b=>b < w.heap.size) v (U.encE T y):=by
 obtain⟨fuel,hf⟩:=h;obtain⟨y,hy⟩:=ho enc w fuel _ _ hf hw;refine⟨y, ?_⟩;have:=(Zdg hU hF hy).1
 rwa [hv]at this
theorem okv_plain {w:World} {r:Reach} {base:Nat} {t:TypeId} {v:Value} {T:Ty} (hT:T.isSt=false) (ht:∃d,P.underlying t=some d∧(match d with | .bool | .string | .int _ | .slice _=>True |_=>False)) (h:Value.okWide P w r base t v):Zke T v.cells.toList=v:=by
 obtain⟨d,hu,hd⟩:=ht;have key:v.cells= #[v]→Zke T v.cells.toList=v:=fun he=>by unfold Zke;rw[hT,he];rfl
 cases d<;>simp only at hd
 all_goals (simp only[Value.okWide,hu,Cell.okWide]at h;cases v<;>first |exact key rfl |(simp[Cell.ok,hu]at h;done))
theorem okv_st {w:World} {r:Reach} {base:Nat} {t:TypeId} {v:Value} {n:Nat} (ht:∃d,P.underlying t=some d∧(match d with | .struct _ | .array _ _=>True |_=>False)) (h:Value.okWide P w r base t v):Zke (.st n) v.cells.toList=v:=by
 obtain⟨d,hu,hd⟩:=ht;cases d<;>simp only at hd
 all_goals (simp only[Value.okWide,hu]at h;obtain⟨cs,rfl,_⟩:=h;simp[Zke,Ty.isSt,Value.cells])
theorem Zi2.trod {H:Type} {enc:TypeId×Value→H} {t:TypeId} (hl:laidOutB P=true) (hr:P.readableRec t=true) (hrow:t < P.types.size) {W W':World} {v:Value} {d:DataW H} {ps:List MemPlace}
  (h:DataW.Trod enc P W 0 (fun _=>true) true t v d ps) (hk:Zi2 W W') (hlt:∀x∈ps,x.block < W.heap.size) {sp:Nat→Bool} (hsp:∀x∈ps,sp x.block=true):DataW.Trod enc P W' 0 sp true t v d ps:=
 WideElems.Trod_stays hl hr hrow h (fun x hx=>by
  have:=hk.2.2 _ (hlt x hx);cases x with
  |cell b o=>exact World.cell?_of_block (w:=W) this
  |map b=>exact this) hsp
end
end Eng

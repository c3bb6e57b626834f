/- Printed by wip/tools/tgen.py: specs. -/
import Derived.Test.YtbjnddlpdlfknaaGreatDoorE4
import Derived.Lib.Bytealg
import Derived.Lib.SlTrimSet
set_option linter.unusedVariables false
set_option linter.unusedSimpArgs false
set_option linter.unusedSectionVars false
namespace Go.Proofs
open Go Eng
set_option maxRecDepth 100000
noncomputable section
structure ZnE where
 Neg:Bool
 Words:(List Int)
 deriving DecidableEq,Inhabited
structure ZnA where
 Num:ZnE
 Den:ZnE
 deriving DecidableEq,Inhabited
structure ZnS where
 Null:Bool
 Text:Str
 deriving DecidableEq,Inhabited
structure Zq0 where
 Name:Str
 Cells:(List ZnS)
 deriving DecidableEq,Inhabited
structure Zoz where
 word:Str
 canonical:(Option Nat)
 value:(Option Nat)
 deriving DecidableEq,Inhabited
structure ZnB where
 l:(List Int)
 at_:Int
 deriving DecidableEq,Inhabited
structure Zod where
 e0:Int
 e1:Int
 deriving DecidableEq,Inhabited
def Zv6:Nat→Type
 |0=>ZnE
 |1=>ZnA
 |2=>ZnS
 |3=>Zq0
 |4=>Zoz
 |5=>ZnB
 |6=>Zod
 |_=>Unit
def ZCV:Nat→Nat
 |0=>2
 |1=>4
 |2=>2
 |3=>2
 |4=>3
 |5=>2
 |6=>2
 |_=>0
def ZwM:List (Lf Zv6):=[⟨.sl (.int .u32),([1]:List Int)⟩]
def ZrM (t:(List Int)):Option Bool:=
 some (decide ((t.length:Int)≤500))
def Zt3 (w_:(List Int)):Option (List Int):=
 some w_
def ZrV (rec_:(List Int)→Option (List Int)) (w_:(List Int)) (t14:Bool):Option (List Int):=
 bif t14 then (
  chk (inK .i64 ((w_.length:Int) - 1)) <|
  chk (Zb9 0 ((w_.length:Int) - 1) (w_.length:Int)) <|
  rec_ (w_.take (((w_.length:Int) - 1)).toNat)
 )else (
  some w_
 )
def Ztp (rec_:(List Int)→Option (List Int)) (w_:(List Int)):Option (List Int):=
 bif (decide ((w_.length:Int) > 0))then (
  chk (inK .i64 ((w_.length:Int) - 1)) <|
  (idx w_ ((w_.length:Int) - 1)).bind fun w__e=>
  ZrV rec_ w_ (w__e == 0)
 )else (
  ZrV rec_ w_ false
 )
def Zoo:Nat→(List Int)→Option (List Int)
 |0,_=>none
 |n_+1,w_=>Ztp (Zoo n_) w_
def ZnU (w_:(List Int)):Option (List Int):=
 (Zoo big w_).bind fun x0=>Zt3 x0
def ZqP (t4:ZnE):Option ZnE:=
 some t4
def ZnO (neg:Bool) (w_:(List Int)):Option ZnE:=
 (ZnU w_).bind fun w__1=>
 bif neg then (
  ZqP (ZnE.mk (decide ((w__1.length:Int) > 0)) w__1)
 )else (
  ZqP (ZnE.mk false w__1)
 )
def ZpG (n:Int) (u:Int) (t2:Bool) (t2_1:(List Int)):Option ZnE:=
 chk (decide (0≤(32:Int))) <|
 (ZnO (decide (n < 0)) ([(IntKind.wrap .u32 u),(IntKind.wrap .u32 (shrK .u64 u 32))]:(List Int))).bind fun q=>
 some q
def Zop (n:Int):Option ZnE:=
 bif (decide (n < 0))then (
  ZpG n (IntKind.wrap .u64 (0 - (IntKind.wrap .u64 n))) false ([]:(List Int))
 )else (
  ZpG n (IntKind.wrap .u64 n) false ([]:(List Int))
 )
def ZnZ (t2:Bool):Option Bool:=
 some t2
def Zoe (a:ZnE):Option Bool:=
 bif (decide ((a.Words.length:Int)≤256))then (
  bif ((a.Words.length:Int) == 0)then (
   bif (!a.Neg)then (
    ZnZ true
   )else (
    bif (decide ((a.Words.length:Int) > 0))then (
     chk (inK .i64 ((a.Words.length:Int) - 1)) <|
     (idx a.Words ((a.Words.length:Int) - 1)).bind fun Word=>
     ZnZ (Word != 0)
    )else (
     ZnZ false
    )
   )
  )else (
   bif (decide ((a.Words.length:Int) > 0))then (
    chk (inK .i64 ((a.Words.length:Int) - 1)) <|
    (idx a.Words ((a.Words.length:Int) - 1)).bind fun Word_1=>
    ZnZ (Word_1 != 0)
   )else (
    ZnZ false
   )
  )
 )else (
  ZnZ false
 )
def ZrW (out:(List Int)):Option (List Int):=
 (ZnU out).bind fun q=>
 some q
def Zpb (rec_:(List Int)→Int→Int→(List Int)→Option (List Int)) (a:(List Int)) (t9:Int) (i:Int) (out:(List Int)):Option (List Int):=
 chk (inK .i64 (i+1)) <|
 rec_ a t9 (i+1) out
def ZpW (rec_:(List Int)→Int→Int→(List Int)→Option (List Int)) (a:(List Int)) (t9:Int) (i:Int) (out:(List Int)):Option (List Int):=
 bif (decide (i < t9))then (
  chk (inR i (out.length:Int)) <|
  (out[(i).toNat]?).bind fun out_e=>
  chk (decide (0≤(1:Int))) <|
  chk (inR i (out.length:Int)) <|
  chk (inK .i64 (i+1)) <|
  bif (decide ((i+1) < (a.length:Int)))then (
   chk (inR i ((out.set ((i).toNat) (shrK .u32 out_e 1)).length:Int)) <|
   ((out.set ((i).toNat) (shrK .u32 out_e 1))[(i).toNat]?).bind fun e_e=>
   chk (inK .i64 (i+1)) <|
   (idx a (i+1)).bind fun a_e=>
   chk (decide (0≤(31:Int))) <|
   chk (inR i ((out.set ((i).toNat) (shrK .u32 out_e 1)).length:Int)) <|
   Zpb rec_ a t9 i ((out.set ((i).toNat) (shrK .u32 out_e 1)).set ((i).toNat) (orK .u32 e_e (shlK .u32 a_e 31)))
  )else (
   Zpb rec_ a t9 i (out.set ((i).toNat) (shrK .u32 out_e 1))
  )
 )else (
  some out
 )
def Zpa:Nat→(List Int)→Int→Int→(List Int)→Option (List Int)
 |0,_,_,_,_=>none
 |n_+1,a,t9,i,out=>ZpW (Zpa n_) a t9 i out
def Ztq (n:Nat) (s:((List Int)×Int×Int×(List Int))):Option (List Int):=Zpa n s.1 s.2.1 s.2.2.1 s.2.2.2
def Zrm (rec_:((List Int)×Int×Int×(List Int))→Option (List Int)) (s:((List Int)×Int×Int×(List Int))):Option (List Int):=ZpW (fun a t9 i out=>rec_ (a,t9,i,out)) s.1 s.2.1 s.2.2.1 s.2.2.2
theorem Zu3:∀n s,Ztq (n+1) s=Zrm (Ztq n) s:=fun _ _=>rfl
def Zot (a:(List Int)):Option (List Int):=
 chk (ZiZ (([]:(List Int)).length+a.length) 4) <|
 (Zpa big a ((([]:(List Int))++a).length:Int) (0:Int) (([]:(List Int))++a)).bind fun x0=>ZrW x0
def Zsn:Option Int:=
 some (0:Int)
def Zp4 (rec_:(List Int)→(List Int)→Int→Option (Out Unit Int)) (a:(List Int)) (b:(List Int)) (i:Int):Option (Out Unit Int):=
 bif (decide (i≥0))then (
  (idx a i).bind fun a_e=>
  (idx b i).bind fun b_e=>
  bif (decide (a_e < b_e))then (
   some (.ret (-1:Int))
  )else (
   (idx a i).bind fun a_e_1=>
   (idx b i).bind fun b_e_1=>
   bif (decide (a_e_1 > b_e_1))then (
    some (.ret (1:Int))
   )else (
    chk (inK .i64 (i - 1)) <|
    rec_ a b (i - 1)
   )
  )
 )else (
  some (.brk ())
 )
def ZqO:Nat→(List Int)→(List Int)→Int→Option (Out Unit Int)
 |0,_,_,_=>none
 |n_+1,a,b,i=>Zp4 (ZqO n_) a b i
def ZtB (n:Nat) (s:((List Int)×(List Int)×Int)):Option (Out Unit Int):=ZqO n s.1 s.2.1 s.2.2
def ZrB (rec_:((List Int)×(List Int)×Int)→Option (Out Unit Int)) (s:((List Int)×(List Int)×Int)):Option (Out Unit Int):=Zp4 (fun a b i=>rec_ (a,b,i)) s.1 s.2.1 s.2.2
theorem Zvf:∀n s,ZtB (n+1) s=ZrB (ZtB n) s:=fun _ _=>rfl
def Zn4 (a:(List Int)) (b:(List Int)):Option Int:=
 bif ((a.length:Int) != (b.length:Int))then (
  bif (decide ((a.length:Int) < (b.length:Int)))then (
   some (-1:Int)
  )else (
   some (1:Int)
  )
 )else (
  chk (inK .i64 ((a.length:Int) - 1)) <|
  (ZqO big a b ((a.length:Int) - 1)).bind fun
   | .ret q_=>some q_
   | .brk ()=>Zsn
 )
def Zse (out:(List Int)):Option (List Int):=
 (ZnU out).bind fun q=>
 some q
def Zpu (rec_:(List Int)→(List Int)→Int→Int→(List Int)→Option (List Int)) (a:(List Int)) (b:(List Int)) (c:Int) (i:Int) (out:(List Int)):Option (List Int):=
 chk (ZiZ (out.length+([(IntKind.wrap .u32 c)]:(List Int)).length) 4) <|
 chk (decide (0≤(32:Int))) <|
 chk (inK .i64 (i+1)) <|
 rec_ a b (shrK .i64 c 32) (i+1) (out++([(IntKind.wrap .u32 c)]:(List Int)))
def Zp0 (rec_:(List Int)→(List Int)→Int→Int→(List Int)→Option (List Int)) (a:(List Int)) (b:(List Int)) (c:Int) (i:Int) (out:(List Int)):Option (List Int):=
 bif (decide (i < (a.length:Int)))then (
  (idx a i).bind fun a_e=>
  chk (inK .i64 (c+(IntKind.wrap .i64 a_e))) <|
  bif (decide (i < (b.length:Int)))then (
   (idx b i).bind fun b_e=>
   chk (inK .i64 ((c+(IntKind.wrap .i64 a_e)) - (IntKind.wrap .i64 b_e))) <|
   Zpu rec_ a b ((c+(IntKind.wrap .i64 a_e)) - (IntKind.wrap .i64 b_e)) i out
  )else (
   Zpu rec_ a b (c+(IntKind.wrap .i64 a_e)) i out
  )
 )else (
  some out
 )
def Zpt:Nat→(List Int)→(List Int)→Int→Int→(List Int)→Option (List Int)
 |0,_,_,_,_,_=>none
 |n_+1,a,b,c,i,out=>Zp0 (Zpt n_) a b c i out
def Ztx (n:Nat) (s:((List Int)×(List Int)×Int×Int×(List Int))):Option (List Int):=Zpt n s.1 s.2.1 s.2.2.1 s.2.2.2.1 s.2.2.2.2
def Zrv (rec_:((List Int)×(List Int)×Int×Int×(List Int))→Option (List Int)) (s:((List Int)×(List Int)×Int×Int×(List Int))):Option (List Int):=Zp0 (fun a b c i out=>rec_ (a,b,c,i,out)) s.1 s.2.1 s.2.2.1 s.2.2.2.1 s.2.2.2.2
theorem Zvb:∀n s,Ztx (n+1) s=Zrv (Ztx n) s:=fun _ _=>rfl
def Zox (a:(List Int)) (b:(List Int)):Option (List Int):=
 (Zpt big a b (0:Int) (0:Int) ([]:(List Int))).bind fun x0=>Zse x0
def Zru (d:Int) (out:(List Int)):Option (List Int):=
 chk (ZiZ (out.length+([d]:(List Int)).length) 4) <|
 (ZnU (out++([d]:(List Int)))).bind fun q=>
 some q
def ZpF (rec_:(List Int)→Int→Int→(List Int)→Option (Int×(List Int))) (a:(List Int)) (d:Int) (i:Int) (out:(List Int)):Option (Int×(List Int)):=
 bif (decide (i < (a.length:Int)))then (
  (idx a i).bind fun a_e=>
  chk (decide (0≤(1:Int))) <|
  chk (ZiZ (out.length+([(orK .u32 (shlK .u32 a_e 1) d)]:(List Int)).length) 4) <|
  (idx a i).bind fun a_e_1=>
  chk (decide (0≤(31:Int))) <|
  chk (inK .i64 (i+1)) <|
  rec_ a (shrK .u32 a_e_1 31) (i+1) (out++([(orK .u32 (shlK .u32 a_e 1) d)]:(List Int)))
 )else (
  some (d,out)
 )
def ZpZ:Nat→(List Int)→Int→Int→(List Int)→Option (Int×(List Int))
 |0,_,_,_,_=>none
 |n_+1,a,d,i,out=>ZpF (ZpZ n_) a d i out
def Ztc (n:Nat) (s:((List Int)×Int×Int×(List Int))):Option (Int×(List Int)):=ZpZ n s.1 s.2.1 s.2.2.1 s.2.2.2
def Zq5 (rec_:((List Int)×Int×Int×(List Int))→Option (Int×(List Int))) (s:((List Int)×Int×Int×(List Int))):Option (Int×(List Int)):=ZpF (fun a d i out=>rec_ (a,d,i,out)) s.1 s.2.1 s.2.2.1 s.2.2.2
theorem ZuR:∀n s,Ztc (n+1) s=Zq5 (Ztc n) s:=fun _ _=>rfl
def ZoX (a:(List Int)) (d:Int):Option (List Int):=
 (ZpZ big a d (0:Int) ([]:(List Int))).bind fun(x0,x1)=>Zru x0 x1
def Zsh (a:(List Int)):Option (List Int):=
 some a
def Zo2 (rec_:(List Int)→Int→Option (List Int)) (a:(List Int)) (k:Int):Option (List Int):=
 bif (decide (k > 0))then (
  (ZoX a 0).bind fun a_1=>
  chk (inK .i64 (k - 1)) <|
  rec_ a_1 (k - 1)
 )else (
  some a
 )
def ZoP:Nat→(List Int)→Int→Option (List Int)
 |0,_,_=>none
 |n_+1,a,k=>Zo2 (ZoP n_) a k
def Zsi (a:(List Int)) (k:Int):Option (List Int):=
 (ZoP big a k).bind fun x0=>Zsh x0
def ZqM (rec_:(List Int)→(List Int)→Int→Option ((List Int)×Int)) (a:(List Int)) (b:(List Int)) (k:Int):Option ((List Int)×Int):=
 (Zox b a).bind fun b_1=>
 rec_ a b_1 k
def Zsj (rec_:(List Int)→(List Int)→Int→Option ((List Int)×Int)) (a:(List Int)) (b:(List Int)) (k:Int):Option ((List Int)×Int):=
 (Zn4 a b).bind fun q=>
 bif (decide (q > 0))then (
  ZqM rec_ b a k
 )else (
  ZqM rec_ a b k
 )
def Zry (rec_:(List Int)→(List Int)→Int→Option ((List Int)×(List Int)×Int)) (a:(List Int)) (b:(List Int)) (k:Int):Option ((List Int)×(List Int)×Int):=
 (idx b 0).bind fun b_e=>
 bif ((andK .u32 b_e 1) == 0)then (
  (Zot b).bind fun b_1=>
  rec_ a b_1 k
 )else (
  some (a,b,k)
 )
def Zn8:Nat→(List Int)→(List Int)→Int→Option ((List Int)×(List Int)×Int)
 |0,_,_,_=>none
 |n_+1,a,b,k=>Zry (Zn8 n_) a b k
def Zsk (rec_:(List Int)→(List Int)→Int→Option ((List Int)×Int)) (a:(List Int)) (b:(List Int)) (k:Int):Option ((List Int)×Int):=
 (Zn8 big a b k).bind fun(x0,x1,x2)=>Zsj rec_ x0 x1 x2
def Zo3 (rec_:(List Int)→(List Int)→Int→Option ((List Int)×(List Int)×Int)) (a:(List Int)) (b:(List Int)) (k:Int):Option ((List Int)×(List Int)×Int):=
 (idx a 0).bind fun a_e=>
 bif ((andK .u32 a_e 1) == 0)then (
  (Zot a).bind fun a_1=>
  rec_ a_1 b k
 )else (
  some (a,b,k)
 )
def Zn9:Nat→(List Int)→(List Int)→Int→Option ((List Int)×(List Int)×Int)
 |0,_,_,_=>none
 |n_+1,a,b,k=>Zo3 (Zn9 n_) a b k
def Zo4 (rec_:(List Int)→(List Int)→Int→Option ((List Int)×Int)) (a:(List Int)) (b:(List Int)) (k:Int):Option ((List Int)×Int):=
 bif (decide ((b.length:Int) > 0))then (
  (Zn9 big a b k).bind fun(x0,x1,x2)=>Zsk rec_ x0 x1 x2
 )else (
  some (a,k)
 )
def ZnP:Nat→(List Int)→(List Int)→Int→Option ((List Int)×Int)
 |0,_,_,_=>none
 |n_+1,a,b,k=>Zo4 (ZnP n_) a b k
def Zsl (a:(List Int)) (b:(List Int)) (k:Int):Option (List Int):=
 (ZnP big a b k).bind fun(x0,x1)=>Zsi x0 x1
def ZqN (rec_:(List Int)→(List Int)→Int→Option ((List Int)×(List Int)×Int)) (a:(List Int)) (b:(List Int)) (k:Int) (t17:Bool):Option ((List Int)×(List Int)×Int):=
 bif t17 then (
  (Zot a).bind fun a_1=>
  (Zot b).bind fun b_1=>
  chk (inK .i64 (k+1)) <|
  rec_ a_1 b_1 (k+1)
 )else (
  some (a,b,k)
 )
def Zrz (rec_:(List Int)→(List Int)→Int→Option ((List Int)×(List Int)×Int)) (a:(List Int)) (b:(List Int)) (k:Int):Option ((List Int)×(List Int)×Int):=
 (idx a 0).bind fun a_e=>
 bif ((andK .u32 a_e 1) == 0)then (
  (idx b 0).bind fun b_e=>
  ZqN rec_ a b k ((andK .u32 b_e 1) == 0)
 )else (
  ZqN rec_ a b k false
 )
def ZoQ:Nat→(List Int)→(List Int)→Int→Option ((List Int)×(List Int)×Int)
 |0,_,_,_=>none
 |n_+1,a,b,k=>Zrz (ZoQ n_) a b k
def Zpn (a:(List Int)) (b:(List Int)):Option (List Int):=
 (ZoQ big a b (0:Int)).bind fun(x0,x1,x2)=>Zsl x0 x1 x2
def Zqx (a:(List Int)) (i:Int):Option Int:=
 chk (decide ((32:Int)≠0)) <|
 chk (inK .i64 (Int.tdiv i 32)) <|
 (idx a (Int.tdiv i 32)).bind fun a_e=>
 chk (decide ((32:Int)≠0)) <|
 chk (decide (0≤(IntKind.wrap .u64 (Int.tmod i 32)))) <|
 some (andK .u32 (shrK .u32 a_e (IntKind.wrap .u64 (Int.tmod i 32))) 1)
def Zsm (r_:(List Int)) (q:(List Int)):Option ((List Int)×(List Int)):=
 (ZnU q).bind fun q_1=>
 some (q_1,r_)
def Zpy (rec_:(List Int)→(List Int)→(List Int)→Int→(List Int)→Option ((List Int)×(List Int))) (a:(List Int)) (b:(List Int)) (r_:(List Int)) (i:Int) (q:(List Int)):Option ((List Int)×(List Int)):=
 chk (inK .i64 (i - 1)) <|
 rec_ a b r_ (i - 1) q
def Zp3 (rec_:(List Int)→(List Int)→(List Int)→Int→(List Int)→Option ((List Int)×(List Int))) (a:(List Int)) (b:(List Int)) (r_:(List Int)) (i:Int) (q:(List Int)):Option ((List Int)×(List Int)):=
 bif (decide (i≥0))then (
  (Zqx a i).bind fun q_1=>
  (ZoX r_ q_1).bind fun r__1=>
  (Zn4 r__1 b).bind fun q_2=>
  bif (decide (q_2≥0))then (
   (Zox r__1 b).bind fun r__2=>
   chk (decide ((32:Int)≠0)) <|
   chk (inK .i64 (Int.tdiv i 32)) <|
   chk (inR (Int.tdiv i 32) (q.length:Int)) <|
   (q[((Int.tdiv i 32)).toNat]?).bind fun q_e=>
   chk (decide ((32:Int)≠0)) <|
   chk (decide (0≤(IntKind.wrap .u64 (Int.tmod i 32)))) <|
   chk (inR (Int.tdiv i 32) (q.length:Int)) <|
   Zpy rec_ a b r__2 i (q.set (((Int.tdiv i 32)).toNat) (orK .u32 q_e (shlK .u32 1 (IntKind.wrap .u64 (Int.tmod i 32)))))
  )else (
   Zpy rec_ a b r__1 i q
  )
 )else (
  some (r_,q)
 )
def Zpx:Nat→(List Int)→(List Int)→(List Int)→Int→(List Int)→Option ((List Int)×(List Int))
 |0,_,_,_,_,_=>none
 |n_+1,a,b,r_,i,q=>Zp3 (Zpx n_) a b r_ i q
def ZtA (n:Nat) (s:((List Int)×(List Int)×(List Int)×Int×(List Int))):Option ((List Int)×(List Int)):=Zpx n s.1 s.2.1 s.2.2.1 s.2.2.2.1 s.2.2.2.2
def ZrA (rec_:((List Int)×(List Int)×(List Int)×Int×(List Int))→Option ((List Int)×(List Int))) (s:((List Int)×(List Int)×(List Int)×Int×(List Int))):Option ((List Int)×(List Int)):=Zp3 (fun a b r_ i q=>rec_ (a,b,r_,i,q)) s.1 s.2.1 s.2.2.1 s.2.2.2.1 s.2.2.2.2
theorem Zve:∀n s,ZtA (n+1) s=ZrA (ZtA n) s:=fun _ _=>rfl
def Zpo (a:(List Int)) (b:(List Int)):Option ((List Int)×(List Int)):=
 chk (mkOk (a.length:Int) (a.length:Int) 4) <|
 chk (inK .i64 (32*(a.length:Int))) <|
 chk (inK .i64 ((32*(a.length:Int)) - 1)) <|
 (Zpx big a b ([]:(List Int)) ((32*(a.length:Int)) - 1) (List.replicate ((a.length:Int)).toNat (0:Int))).bind fun(x0,x1)=>Zsm x0 x1
def Zpw (num:ZnE) (den:ZnE):Option ZnA:=
 bif ((num.Words.length:Int) == 0)then (
  (Zop 1).bind fun q=>
  some (ZnA.mk (ZnE.mk false ([]:(List Int))) q)
 )else (
  (Zpn num.Words den.Words).bind fun g=>
  (Zpo num.Words g).bind fun(x_,q_1)=>
  (Zpo den.Words g).bind fun(y,q_2)=>
  (ZnO (!(num.Neg == den.Neg)) x_).bind fun q_3=>
  (ZnO false y).bind fun q_4=>
  some (ZnA.mk q_3 q_4)
 )
def Zqr (t13:Bool) (num:ZnE) (den:ZnE) (t4:Bool) (t4_1:Bool) (t4_2:(List Int)) (t4_3:(List Int)):Option (ZnA×Int):=
 bif t13 then (
  some ((ZnA.mk (ZnE.mk false ([]:(List Int))) (ZnE.mk false ([]:(List Int)))),1)
 )else (
  bif ((den.Words.length:Int) == 0)then (
   some ((ZnA.mk (ZnE.mk false ([]:(List Int))) (ZnE.mk false ([]:(List Int)))),8)
  )else (
   (Zpw num den).bind fun q=>
   some (q,0)
  )
 )
def Zp7 (num:ZnE) (den:ZnE):Option (ZnA×Int):=
 (Zoe num).bind fun q=>
 bif (!q)then (
  Zqr true num den false false ([]:(List Int)) ([]:(List Int))
 )else (
  (Zoe den).bind fun q_1=>
  Zqr (!q_1) num den false false ([]:(List Int)) ([]:(List Int))
 )
def ZqX (num:Int) (den:Int):Option (ZnA×Int):=
 (Zop num).bind fun q=>
 (Zop den).bind fun q_1=>
 (Zp7 q q_1).bind fun(q_2,q_3)=>
 some (q_2,q_3)
def ZnY (n:Int) (d:Int):Option ZnA:=
 (ZqX n d).bind fun(f,q)=>
 some f
def ZnM (n:Int):Option ZnA:=
 (ZnY n 1).bind fun q=>
 some q
def ZqF (x_:Int) (y:Int):Option (Int×Int):=
 chk (decide (0≤(32:Int))) <|
 chk (decide (0≤(32:Int))) <|
 chk (decide (0≤(32:Int))) <|
 chk (decide (0≤(32:Int))) <|
 chk (decide (0≤(32:Int))) <|
 some ((IntKind.wrap .u64 ((IntKind.wrap .u64 ((IntKind.wrap .u64 ((shrK .u64 x_ 32)*(shrK .u64 y 32)))+(shrK .u64 (IntKind.wrap .u64 ((IntKind.wrap .u64 ((shrK .u64 x_ 32)*(andK .u64 y 4294967295)))+(shrK .u64 (IntKind.wrap .u64 ((andK .u64 x_ 4294967295)*(andK .u64 y 4294967295))) 32))) 32)))+(shrK .u64 (IntKind.wrap .u64 ((andK .u64 (IntKind.wrap .u64 ((IntKind.wrap .u64 ((shrK .u64 x_ 32)*(andK .u64 y 4294967295)))+(shrK .u64 (IntKind.wrap .u64 ((andK .u64 x_ 4294967295)*(andK .u64 y 4294967295))) 32))) 4294967295)+(IntKind.wrap .u64 ((andK .u64 x_ 4294967295)*(shrK .u64 y 32))))) 32))),(IntKind.wrap .u64 (x_*y)))
def ZsS (x y c:Int):Option (Int×Int):=
 chk (decide (0≤c∧c≤1)) <| some ((x+y+c) % 18446744073709551616,(x+y+c) / 18446744073709551616)
def Zrg (x_:Int) (n:Int):Option Int:=
 (idx ([0,1,2,2,3,3,3,3,4,4,4,4,4,4,4,4,5,5,5,5,5,5,5,5,5,5,5,5,5,5,5,5,6,6,6,6,6,6,6,6,6,6,6,6,6,6,6,6,6,6,6,6,6,6,6,6,6,6,6,6,6,6,6,6,7,7,7,7,7,7,7,7,7,7,7,7,7,7,7,7,7,7,7,7,7,7,7,7,7,7,7,7,7,7,7,7,7,7,7,7,7,7,7,7,7,7,7,7,7,7,7,7,7,7,7,7,7,7,7,7,7,7,7,7,7,7,7,7,8,8,8,8,8,8,8,8,8,8,8,8,8,8,8,8,8,8,8,8,8,8,8,8,8,8,8,8,8,8,8,8,8,8,8,8,8,8,8,8,8,8,8,8,8,8,8,8,8,8,8,8,8,8,8,8,8,8,8,8,8,8,8,8,8,8,8,8,8,8,8,8,8,8,8,8,8,8,8,8,8,8,8,8,8,8,8,8,8,8,8,8,8,8,8,8,8,8,8,8,8,8,8,8,8,8,8,8,8,8,8,8,8,8,8,8,8,8,8,8,8,8,8,8,8,8,8,8]:Str) (IntKind.wrap .u8 x_)).bind fun c=>
 chk (inK .i64 (n+(IntKind.wrap .i64 ((c.toNat:Nat):Int)))) <|
 some (n+(IntKind.wrap .i64 ((c.toNat:Nat):Int)))
def Zsw (x_:Int) (n:Int):Option Int:=
 bif (decide (x_≥256))then (
  chk (decide (0≤(8:Int))) <|
  chk (inK .i64 (n+8)) <|
  Zrg (shrK .u64 x_ 8) (n+8)
 )else (
  Zrg x_ n
 )
def Zsx (x_:Int) (n:Int):Option Int:=
 bif (decide (x_≥65536))then (
  chk (decide (0≤(16:Int))) <|
  chk (inK .i64 (n+16)) <|
  Zsw (shrK .u64 x_ 16) (n+16)
 )else (
  Zsw x_ n
 )
def Zrs (x_:Int):Option Int:=
 bif (decide (x_≥4294967296))then (
  chk (decide (0≤(32:Int))) <|
  Zsx (shrK .u64 x_ 32) (32:Int)
 )else (
  Zsx x_ (0:Int)
 )
def Zpc (x_:Int):Option Int:=
 (Zrs x_).bind fun q=>
 chk (inK .i64 (64 - q)) <|
 some (64 - q)
def Zub (y:Int) (s:Int) (un0:Int) (q1:Int) (un21:Int) (q0:Int):Option (Int×Int):=
 chk (decide (0≤s)) <|
 some ((IntKind.wrap .u64 ((IntKind.wrap .u64 (q1*4294967296))+q0)),(shrK .u64 (IntKind.wrap .u64 ((IntKind.wrap .u64 ((IntKind.wrap .u64 (un21*4294967296))+un0)) - (IntKind.wrap .u64 (q0*y)))) s))
def ZsA (rec_:Int→Int→Int→Int→Int→Int→Int→Int→Int→Option (Int×Int×Int×Int×Int×Int)) (y:Int) (s:Int) (yn1:Int) (yn0:Int) (un0:Int) (q1:Int) (rhat:Int) (un21:Int) (q0:Int) (t113:Bool):Option (Int×Int×Int×Int×Int×Int):=
 bif t113 then (
  bif (decide ((IntKind.wrap .u64 (rhat+yn1))≥4294967296))then (
   some (y,s,un0,q1,un21,(IntKind.wrap .u64 (q0 - 1)))
  )else (
   rec_ y s yn1 yn0 un0 q1 (IntKind.wrap .u64 (rhat+yn1)) un21 (IntKind.wrap .u64 (q0 - 1))
  )
 )else (
  some (y,s,un0,q1,un21,q0)
 )
def Ztj (rec_:Int→Int→Int→Int→Int→Int→Int→Int→Int→Option (Int×Int×Int×Int×Int×Int)) (y:Int) (s:Int) (yn1:Int) (yn0:Int) (un0:Int) (q1:Int) (rhat:Int) (un21:Int) (q0:Int):Option (Int×Int×Int×Int×Int×Int):=
 bif (decide (q0≥4294967296))then (
  ZsA rec_ y s yn1 yn0 un0 q1 rhat un21 q0 true
 )else (
  ZsA rec_ y s yn1 yn0 un0 q1 rhat un21 q0 (decide ((IntKind.wrap .u64 (q0*yn0)) > (IntKind.wrap .u64 ((IntKind.wrap .u64 (4294967296*rhat))+un0))))
 )
def Zqk:Nat→Int→Int→Int→Int→Int→Int→Int→Int→Int→Option (Int×Int×Int×Int×Int×Int)
 |0,_,_,_,_,_,_,_,_,_=>none
 |n_+1,y,s,yn1,yn0,un0,q1,rhat,un21,q0=>Ztj (Zqk n_) y s yn1 yn0 un0 q1 rhat un21 q0
def ZuG (n:Nat) (s:(Int×Int×Int×Int×Int×Int×Int×Int×Int)):Option (Int×Int×Int×Int×Int×Int):=Zqk n s.1 s.2.1 s.2.2.1 s.2.2.2.1 s.2.2.2.2.1 s.2.2.2.2.2.1 s.2.2.2.2.2.2.1 s.2.2.2.2.2.2.2.1 s.2.2.2.2.2.2.2.2
def ZuH (rec_:(Int×Int×Int×Int×Int×Int×Int×Int×Int)→Option (Int×Int×Int×Int×Int×Int)) (s:(Int×Int×Int×Int×Int×Int×Int×Int×Int)):Option (Int×Int×Int×Int×Int×Int):=Ztj (fun y s yn1 yn0 un0 q1 rhat un21 q0=>rec_ (y,s,yn1,yn0,un0,q1,rhat,un21,q0)) s.1 s.2.1 s.2.2.1 s.2.2.2.1 s.2.2.2.2.1 s.2.2.2.2.2.1 s.2.2.2.2.2.2.1 s.2.2.2.2.2.2.2.1 s.2.2.2.2.2.2.2.2
theorem ZvU:∀n s,ZuG (n+1) s=ZuH (ZuG n) s:=fun _ _=>rfl
def Zsz (y:Int) (s:Int) (yn1:Int) (yn0:Int) (un32:Int) (un1:Int) (un0:Int) (q1:Int):Option (Int×Int):=
 chk (decide (yn1≠0)) <|
 (Zqk big y s yn1 yn0 un0 q1 (IntKind.wrap .u64 ((IntKind.wrap .u64 ((IntKind.wrap .u64 ((IntKind.wrap .u64 (un32*4294967296))+un1)) - (IntKind.wrap .u64 (q1*y)))) - (IntKind.wrap .u64 ((IntKind.wrap .u64 (Int.tdiv (IntKind.wrap .u64 ((IntKind.wrap .u64 ((IntKind.wrap .u64 (un32*4294967296))+un1)) - (IntKind.wrap .u64 (q1*y)))) yn1))*yn1)))) (IntKind.wrap .u64 ((IntKind.wrap .u64 ((IntKind.wrap .u64 (un32*4294967296))+un1)) - (IntKind.wrap .u64 (q1*y)))) (IntKind.wrap .u64 (Int.tdiv (IntKind.wrap .u64 ((IntKind.wrap .u64 ((IntKind.wrap .u64 (un32*4294967296))+un1)) - (IntKind.wrap .u64 (q1*y)))) yn1))).bind fun(x0,x1,x2,x3,x4,x5)=>Zub x0 x1 x2 x3 x4 x5
def ZsB (rec_:Int→Int→Int→Int→Int→Int→Int→Int→Int→Option (Int×Int×Int×Int×Int×Int×Int×Int)) (y:Int) (s:Int) (yn1:Int) (yn0:Int) (un32:Int) (un1:Int) (un0:Int) (q1:Int) (rhat:Int) (t78:Bool):Option (Int×Int×Int×Int×Int×Int×Int×Int):=
 bif t78 then (
  bif (decide ((IntKind.wrap .u64 (rhat+yn1))≥4294967296))then (
   some (y,s,yn1,yn0,un32,un1,un0,(IntKind.wrap .u64 (q1 - 1)))
  )else (
   rec_ y s yn1 yn0 un32 un1 un0 (IntKind.wrap .u64 (q1 - 1)) (IntKind.wrap .u64 (rhat+yn1))
  )
 )else (
  some (y,s,yn1,yn0,un32,un1,un0,q1)
 )
def Ztk (rec_:Int→Int→Int→Int→Int→Int→Int→Int→Int→Option (Int×Int×Int×Int×Int×Int×Int×Int)) (y:Int) (s:Int) (yn1:Int) (yn0:Int) (un32:Int) (un1:Int) (un0:Int) (q1:Int) (rhat:Int):Option (Int×Int×Int×Int×Int×Int×Int×Int):=
 bif (decide (q1≥4294967296))then (
  ZsB rec_ y s yn1 yn0 un32 un1 un0 q1 rhat true
 )else (
  ZsB rec_ y s yn1 yn0 un32 un1 un0 q1 rhat (decide ((IntKind.wrap .u64 (q1*yn0)) > (IntKind.wrap .u64 ((IntKind.wrap .u64 (4294967296*rhat))+un1))))
 )
def Zql:Nat→Int→Int→Int→Int→Int→Int→Int→Int→Int→Option (Int×Int×Int×Int×Int×Int×Int×Int)
 |0,_,_,_,_,_,_,_,_,_=>none
 |n_+1,y,s,yn1,yn0,un32,un1,un0,q1,rhat=>Ztk (Zql n_) y s yn1 yn0 un32 un1 un0 q1 rhat
def ZoT (hi:Int) (lo:Int) (y:Int):Option (Int×Int):=
 bif (y == 0)then (
  none
 )else (
  bif (decide (y≤hi))then (
   none
  )else (
   bif (hi == 0)then (
    chk (decide (y≠0)) <|
    chk (decide (y≠0)) <|
    some ((IntKind.wrap .u64 (Int.tdiv lo y)),(Int.tmod lo y))
   )else (
    (Zpc y).bind fun q=>
    chk (decide (0≤(IntKind.wrap .u64 q))) <|
    chk (decide (0≤(32:Int))) <|
    chk (decide (0≤(IntKind.wrap .u64 q))) <|
    chk (decide (0≤(IntKind.wrap .u64 (64 - (IntKind.wrap .u64 q))))) <|
    chk (decide (0≤(IntKind.wrap .u64 q))) <|
    chk (decide (0≤(32:Int))) <|
    chk (decide ((shrK .u64 (shlK .u64 y (IntKind.wrap .u64 q)) 32)≠0)) <|
    (Zql big (shlK .u64 y (IntKind.wrap .u64 q)) (IntKind.wrap .u64 q) (shrK .u64 (shlK .u64 y (IntKind.wrap .u64 q)) 32) (andK .u64 (shlK .u64 y (IntKind.wrap .u64 q)) 4294967295) (orK .u64 (shlK .u64 hi (IntKind.wrap .u64 q)) (shrK .u64 lo (IntKind.wrap .u64 (64 - (IntKind.wrap .u64 q))))) (shrK .u64 (shlK .u64 lo (IntKind.wrap .u64 q)) 32) (andK .u64 (shlK .u64 lo (IntKind.wrap .u64 q)) 4294967295) (IntKind.wrap .u64 (Int.tdiv (orK .u64 (shlK .u64 hi (IntKind.wrap .u64 q)) (shrK .u64 lo (IntKind.wrap .u64 (64 - (IntKind.wrap .u64 q))))) (shrK .u64 (shlK .u64 y (IntKind.wrap .u64 q)) 32))) (IntKind.wrap .u64 ((orK .u64 (shlK .u64 hi (IntKind.wrap .u64 q)) (shrK .u64 lo (IntKind.wrap .u64 (64 - (IntKind.wrap .u64 q))))) - (IntKind.wrap .u64 ((IntKind.wrap .u64 (Int.tdiv (orK .u64 (shlK .u64 hi (IntKind.wrap .u64 q)) (shrK .u64 lo (IntKind.wrap .u64 (64 - (IntKind.wrap .u64 q))))) (shrK .u64 (shlK .u64 y (IntKind.wrap .u64 q)) 32)))*(shrK .u64 (shlK .u64 y (IntKind.wrap .u64 q)) 32)))))).bind fun(x0,x1,x2,x3,x4,x5,x6,x7)=>Zsz x0 x1 x2 x3 x4 x5 x6 x7
   )
  )
 )
def Zwe (f:ZnA):Option ZnA:=
 chk (ZiZ f.Num.Words.length 4) <|
 chk (ZiZ f.Den.Words.length 4) <|
 some f
def Zpk (l:(List ZnA)) (p:Int) (q:Int) (t13:Bool) (t6:Bool) (t6_1:Bool) (t6_2:(List Int)) (t6_3:(List Int)):Option (ZnA×Int):=
 bif t13 then (
  some ((ZnA.mk (ZnE.mk false ([]:(List Int))) (ZnE.mk false ([]:(List Int)))),2)
 )else (
  bif ((l.length:Int) == 0)then (
   some ((ZnA.mk (ZnE.mk false ([]:(List Int))) (ZnE.mk false ([]:(List Int)))),5)
  )else (
   (ZqF (IntKind.wrap .u64 (l.length:Int)) (IntKind.wrap .u64 p)).bind fun(high,low)=>
   chk (inK .i64 (q - 1)) <|
   (ZsS low (IntKind.wrap .u64 (q - 1)) 0).bind fun(low_1,carry)=>
   (ZoT (IntKind.wrap .u64 (high+carry)) low_1 (IntKind.wrap .u64 q)).bind fun(k,q_1)=>
   chk (inK .i64 ((if (1:Int) > (IntKind.wrap .i64 k)then (1:Int)else (IntKind.wrap .i64 k)) - 1)) <|
   (idx l ((if (1:Int) > (IntKind.wrap .i64 k)then (1:Int)else (IntKind.wrap .i64 k)) - 1)).bind fun l_e=>
   (Zwe l_e).bind fun q_2=>
   some (q_2,0)
  )
 )
def Zoj (l:(List ZnA)) (p:Int) (q:Int):Option (ZnA×Int):=
 bif (decide (q < 1))then (
  Zpk l p q true false false ([]:(List Int)) ([]:(List Int))
 )else (
  bif (decide (p < 0))then (
   Zpk l p q true false false ([]:(List Int)) ([]:(List Int))
  )else (
   Zpk l p q (decide (p > q)) false false ([]:(List Int)) ([]:(List Int))
  )
 )
def Zoy (t2:Bool):Option Bool:=
 some t2
def ZqJ (a:ZnE):Option Bool:=
 bif (decide ((a.Words.length:Int)≤256))then (
  bif ((a.Words.length:Int) == 0)then (
   bif (!a.Neg)then (
    Zoy true
   )else (
    bif (decide ((a.Words.length:Int) > 0))then (
     chk (inK .i64 ((a.Words.length:Int) - 1)) <|
     (idx a.Words ((a.Words.length:Int) - 1)).bind fun Word=>
     Zoy (Word != 0)
    )else (
     Zoy false
    )
   )
  )else (
   bif (decide ((a.Words.length:Int) > 0))then (
    chk (inK .i64 ((a.Words.length:Int) - 1)) <|
    (idx a.Words ((a.Words.length:Int) - 1)).bind fun Word_1=>
    Zoy (Word_1 != 0)
   )else (
    Zoy false
   )
  )
 )else (
  Zoy false
 )
def ZvD:Option Bool:=
 some true
def ZsF (rec_:(List ZnE)→Int→Int→Option (Out Unit Bool)) (t5:(List ZnE)) (t6:Int) (t7:Int):Option (Out Unit Bool):=
 bif (decide (t7 < t6))then (
  (idx t5 t7).bind fun a=>
  (ZqJ a).bind fun q=>
  bif (!q)then (
   some (.ret false)
  )else (
   chk (inK .i64 (t7+1)) <|
   rec_ t5 t6 (t7+1)
  )
 )else (
  some (.brk ())
 )
def Ztt:Nat→(List ZnE)→Int→Int→Option (Out Unit Bool)
 |0,_,_,_=>none
 |n_+1,t5,t6,t7=>ZsF (Ztt n_) t5 t6 t7
def Zu7 (n:Nat) (s:((List ZnE)×Int×Int)):Option (Out Unit Bool):=Ztt n s.1 s.2.1 s.2.2
def Zuc (rec_:((List ZnE)×Int×Int)→Option (Out Unit Bool)) (s:((List ZnE)×Int×Int)):Option (Out Unit Bool):=ZsF (fun t5 t6 t7=>rec_ (t5,t6,t7)) s.1 s.2.1 s.2.2
theorem Zwf:∀n s,Zu7 (n+1) s=Zuc (Zu7 n) s:=fun _ _=>rfl
def ZsW (l:(List ZnE)):Option Bool:=
 (Ztt big l (l.length:Int) (0:Int)).bind fun
  | .ret q_=>some q_
  | .brk ()=>ZvD
def ZtR (x_:Int):Option Bool:=
 some (x_ != x_)
def ZsX (x_:Int) (y:Int):Option Int:=
 (ZtR x_).bind fun xNaN=>
 (ZtR y).bind fun yNaN=>
 bif xNaN then (
  bif yNaN then (
   some (0:Int)
  )else (
   some (-1:Int)
  )
 )else (
  bif yNaN then (
   some (1:Int)
  )else (
   bif (decide (x_ < y))then (
    some (-1:Int)
   )else (
    bif (decide (x_ > y))then (
     some (1:Int)
    )else (
     some (0:Int)
    )
   )
  )
 )
def Ztv (x_:Int):Option Bool:=
 some (x_ != x_)
def ZsG (x_:Int) (y:Int):Option Int:=
 (Ztv x_).bind fun xNaN=>
 (Ztv y).bind fun yNaN=>
 bif xNaN then (
  bif yNaN then (
   some (0:Int)
  )else (
   some (-1:Int)
  )
 )else (
  bif yNaN then (
   some (1:Int)
  )else (
   bif (decide (x_ < y))then (
    some (-1:Int)
   )else (
    bif (decide (x_ > y))then (
     some (1:Int)
    )else (
     some (0:Int)
    )
   )
  )
 )
def ZrI:Option Int:=
 some (0:Int)
def ZpJ (rec_:(List Int)→(List Int)→Int→Option (Out Unit Int)) (w_:(List Int)) (v_:(List Int)) (i:Int):Option (Out Unit Int):=
 bif (decide (i≥0))then (
  (idx w_ i).bind fun w__e=>
  (idx v_ i).bind fun v__e=>
  (ZsG w__e v__e).bind fun c=>
  bif (c != 0)then (
   some (.ret c)
  )else (
   chk (inK .i64 (i - 1)) <|
   rec_ w_ v_ (i - 1)
  )
 )else (
  some (.brk ())
 )
def Zqf:Nat→(List Int)→(List Int)→Int→Option (Out Unit Int)
 |0,_,_,_=>none
 |n_+1,w_,v_,i=>ZpJ (Zqf n_) w_ v_ i
def Zte (n:Nat) (s:((List Int)×(List Int)×Int)):Option (Out Unit Int):=Zqf n s.1 s.2.1 s.2.2
def Zq9 (rec_:((List Int)×(List Int)×Int)→Option (Out Unit Int)) (s:((List Int)×(List Int)×Int)):Option (Out Unit Int):=ZpJ (fun w_ v_ i=>rec_ (w_,v_,i)) s.1 s.2.1 s.2.2
theorem ZuT:∀n s,Zte (n+1) s=Zq9 (Zte n) s:=fun _ _=>rfl
def Zol (w_:(List Int)) (v_:(List Int)):Option Int:=
 (ZsX (w_.length:Int) (v_.length:Int)).bind fun c=>
 bif (c != 0)then (
  some c
 )else (
  chk (inK .i64 ((w_.length:Int) - 1)) <|
  (Zqf big w_ v_ ((w_.length:Int) - 1)).bind fun
   | .ret q_=>some q_
   | .brk ()=>ZrI
 )
def ZnI (s:(List Int)) (t4:Bool):Option (List Int):=
 bif t4 then (
  some ([]:(List Int))
 )else (
  chk (ZiZ (([]:(List Int)).length+s.length) 4) <|
  some (([]:(List Int))++s)
 )
def Zoa (s:(List Int)):Option (List Int):=
 bif (List.isEmpty s)then agree (
  ZnI s true
 ) (
  ZnI s false
 )else (
  ZnI s false
 )
def Zrh (hi:Int) (lo:Int) (y:Int) (t15:Bool):Option (Int×Int):=
 bif t15 then (
  none
 )else (
  chk (decide (0≤(32:Int))) <|
  chk (decide ((IntKind.wrap .u64 y)≠0)) <|
  chk (decide ((IntKind.wrap .u64 y)≠0)) <|
  some ((IntKind.wrap .u32 (IntKind.wrap .u64 (Int.tdiv (orK .u64 (shlK .u64 (IntKind.wrap .u64 hi) 32) (IntKind.wrap .u64 lo)) (IntKind.wrap .u64 y)))),(IntKind.wrap .u32 (Int.tmod (orK .u64 (shlK .u64 (IntKind.wrap .u64 hi) 32) (IntKind.wrap .u64 lo)) (IntKind.wrap .u64 y))))
 )
def ZsR (hi:Int) (lo:Int) (y:Int):Option (Int×Int):=
 bif (y != 0)then (
  Zrh hi lo y (decide (y≤hi))
 )else (
  Zrh hi lo y false
 )
def ZtJ (w_:(List Int)):Option (List Int):=
 some w_
def Zr8 (rec_:(List Int)→Option (List Int)) (w_:(List Int)) (t14:Bool):Option (List Int):=
 bif t14 then (
  chk (inK .i64 ((w_.length:Int) - 1)) <|
  chk (Zb9 0 ((w_.length:Int) - 1) (w_.length:Int)) <|
  rec_ (w_.take (((w_.length:Int) - 1)).toNat)
 )else (
  some w_
 )
def Zrp (rec_:(List Int)→Option (List Int)) (w_:(List Int)):Option (List Int):=
 bif (decide ((w_.length:Int) > 0))then (
  chk (inK .i64 ((w_.length:Int) - 1)) <|
  (idx w_ ((w_.length:Int) - 1)).bind fun w__e=>
  Zr8 rec_ w_ (w__e == 0)
 )else (
  Zr8 rec_ w_ false
 )
def ZoH:Nat→(List Int)→Option (List Int)
 |0,_=>none
 |n_+1,w_=>Zrp (ZoH n_) w_
def Zux (n:Nat) (s:(List Int)):Option (List Int):=ZoH n s
def Zuy (rec_:(List Int)→Option (List Int)) (s:(List Int)):Option (List Int):=Zrp (fun w_=>rec_ w_) s
theorem ZvO:∀n s,Zux (n+1) s=Zuy (Zux n) s:=fun _ _=>rfl
def ZnV (w_:(List Int)):Option (List Int):=
 (ZoH big w_).bind fun x0=>ZtJ x0
def Zst (rest:Int) (out:(List Int)):Option ((List Int)×Int):=
 (ZnV out).bind fun q=>
 some (q,rest)
def Zqc (rec_:(List Int)→Int→Int→Int→(List Int)→Option (Int×(List Int))) (w_:(List Int)) (d:Int) (rest:Int) (i:Int) (out:(List Int)):Option (Int×(List Int)):=
 bif (decide (i≥0))then (
  (idx w_ i).bind fun w__e=>
  (ZsR rest w__e d).bind fun(q,rest_1)=>
  chk (inR i (out.length:Int)) <|
  chk (inK .i64 (i - 1)) <|
  rec_ w_ d rest_1 (i - 1) (out.set ((i).toNat) q)
 )else (
  some (rest,out)
 )
def ZqS:Nat→(List Int)→Int→Int→Int→(List Int)→Option (Int×(List Int))
 |0,_,_,_,_,_=>none
 |n_+1,w_,d,rest,i,out=>Zqc (ZqS n_) w_ d rest i out
def ZtG (n:Nat) (s:((List Int)×Int×Int×Int×(List Int))):Option (Int×(List Int)):=ZqS n s.1 s.2.1 s.2.2.1 s.2.2.2.1 s.2.2.2.2
def ZrF (rec_:((List Int)×Int×Int×Int×(List Int))→Option (Int×(List Int))) (s:((List Int)×Int×Int×Int×(List Int))):Option (Int×(List Int)):=Zqc (fun w_ d rest i out=>rec_ (w_,d,rest,i,out)) s.1 s.2.1 s.2.2.1 s.2.2.2.1 s.2.2.2.2
theorem Zvk:∀n s,ZtG (n+1) s=ZrF (ZtG n) s:=fun _ _=>rfl
def Zqz (w_:(List Int)) (d:Int):Option ((List Int)×Int):=
 chk (mkOk (w_.length:Int) (w_.length:Int) 4) <|
 chk (inK .i64 ((w_.length:Int) - 1)) <|
 (ZqS big w_ d (0:Int) ((w_.length:Int) - 1) (List.replicate ((w_.length:Int)).toNat (0:Int))).bind fun(x0,x1)=>Zst x0 x1
def Zqj (x_:Int) (n:Int):Option Int:=
 (idx ([0,1,2,2,3,3,3,3,4,4,4,4,4,4,4,4,5,5,5,5,5,5,5,5,5,5,5,5,5,5,5,5,6,6,6,6,6,6,6,6,6,6,6,6,6,6,6,6,6,6,6,6,6,6,6,6,6,6,6,6,6,6,6,6,7,7,7,7,7,7,7,7,7,7,7,7,7,7,7,7,7,7,7,7,7,7,7,7,7,7,7,7,7,7,7,7,7,7,7,7,7,7,7,7,7,7,7,7,7,7,7,7,7,7,7,7,7,7,7,7,7,7,7,7,7,7,7,7,8,8,8,8,8,8,8,8,8,8,8,8,8,8,8,8,8,8,8,8,8,8,8,8,8,8,8,8,8,8,8,8,8,8,8,8,8,8,8,8,8,8,8,8,8,8,8,8,8,8,8,8,8,8,8,8,8,8,8,8,8,8,8,8,8,8,8,8,8,8,8,8,8,8,8,8,8,8,8,8,8,8,8,8,8,8,8,8,8,8,8,8,8,8,8,8,8,8,8,8,8,8,8,8,8,8,8,8,8,8,8,8,8,8,8,8,8,8,8,8,8,8,8,8,8,8,8,8]:Str) (IntKind.wrap .u8 x_)).bind fun c=>
 chk (inK .i64 (n+(IntKind.wrap .i64 ((c.toNat:Nat):Int)))) <|
 some (n+(IntKind.wrap .i64 ((c.toNat:Nat):Int)))
def Zsy (x_:Int) (n:Int):Option Int:=
 bif (decide (x_≥256))then (
  chk (decide (0≤(8:Int))) <|
  chk (inK .i64 (n+8)) <|
  Zqj (shrK .u32 x_ 8) (n+8)
 )else (
  Zqj x_ n
 )
def ZsQ (x_:Int):Option Int:=
 bif (decide (x_≥65536))then (
  chk (decide (0≤(16:Int))) <|
  Zsy (shrK .u32 x_ 16) (16:Int)
 )else (
  Zsy x_ (0:Int)
 )
def Zpd (x_:Int):Option Int:=
 (ZsQ x_).bind fun q=>
 chk (inK .i64 (32 - q)) <|
 some (32 - q)
def ZrG (out:(List Int)):Option (List Int):=
 some out
def ZpI (rec_:Int→(List Int)→Int→Int→(List Int)→Option (List Int)) (n:Int) (t13:(List Int)) (t14:Int) (i:Int) (out:(List Int)):Option (List Int):=
 bif (decide (i < t14))then (
  (idx t13 i).bind fun d=>
  chk (decide (0≤n)) <|
  chk (inR i (out.length:Int)) <|
  (out[(i).toNat]?).bind fun out_e=>
  chk (inR i (out.length:Int)) <|
  chk (inK .i64 (i+1)) <|
  chk (decide (0≤(32:Int))) <|
  chk (inR (i+1) ((out.set ((i).toNat) (orK .u32 out_e (IntKind.wrap .u32 (shlK .u64 (IntKind.wrap .u64 d) n)))).length:Int)) <|
  chk (inK .i64 (i+1)) <|
  rec_ n t13 t14 (i+1) ((out.set ((i).toNat) (orK .u32 out_e (IntKind.wrap .u32 (shlK .u64 (IntKind.wrap .u64 d) n)))).set (((i+1)).toNat) (IntKind.wrap .u32 (shrK .u64 (shlK .u64 (IntKind.wrap .u64 d) n) 32)))
 )else (
  some out
 )
def Zqd:Nat→Int→(List Int)→Int→Int→(List Int)→Option (List Int)
 |0,_,_,_,_,_=>none
 |n_+1,n,t13,t14,i,out=>ZpI (Zqd n_) n t13 t14 i out
def Ztd (n:Nat) (s:(Int×(List Int)×Int×Int×(List Int))):Option (List Int):=Zqd n s.1 s.2.1 s.2.2.1 s.2.2.2.1 s.2.2.2.2
def Zq8 (rec_:(Int×(List Int)×Int×Int×(List Int))→Option (List Int)) (s:(Int×(List Int)×Int×Int×(List Int))):Option (List Int):=ZpI (fun n t13 t14 i out=>rec_ (n,t13,t14,i,out)) s.1 s.2.1 s.2.2.1 s.2.2.2.1 s.2.2.2.2
theorem ZuS:∀n s,Ztd (n+1) s=Zq8 (Ztd n) s:=fun _ _=>rfl
def ZoG (w_:(List Int)) (n:Int):Option (List Int):=
 chk (inK .i64 ((w_.length:Int)+1)) <|
 chk (mkOk ((w_.length:Int)+1) ((w_.length:Int)+1) 4) <|
 (Zqd big n w_ (w_.length:Int) (0:Int) (List.replicate (((w_.length:Int)+1)).toNat (0:Int))).bind fun x0=>ZrG x0
def ZqE (x_:Int) (y:Int) (borrow:Int):Option (Int×Int):=
 chk (decide (0≤(31:Int))) <|
 some ((IntKind.wrap .u32 ((IntKind.wrap .u32 (x_ - y)) - borrow)),(shrK .u32 (orK .u32 (andK .u32 (xorK .u32 (if IntKind.signed .u32 then -1 else IntKind.max .u32) x_) y) (andK .u32 (xorK .u32 (if IntKind.signed .u32 then -1 else IntKind.max .u32) (xorK .u32 x_ y)) (IntKind.wrap .u32 ((IntKind.wrap .u32 (x_ - y)) - borrow)))) 31))
def Zrt (x_:Int) (y:Int) (carry:Int):Option (Int×Int):=
 chk (decide (0≤(32:Int))) <|
 some ((IntKind.wrap .u32 (IntKind.wrap .u64 ((IntKind.wrap .u64 ((IntKind.wrap .u64 x_)+(IntKind.wrap .u64 y)))+(IntKind.wrap .u64 carry)))),(IntKind.wrap .u32 (shrK .u64 (IntKind.wrap .u64 ((IntKind.wrap .u64 ((IntKind.wrap .u64 x_)+(IntKind.wrap .u64 y)))+(IntKind.wrap .u64 carry))) 32)))
def Zs8 (u_off:Nat) (u_len:Nat) (n:Int) (guess:Int) (add:Int) (u:(List Int)):Option (Int×(List Int)):=
 chk (inR n (u_len:Int)) <|
 (u[(u_off+(n).toNat)]?).bind fun u_e=>
 chk (inR n (u_len:Int)) <|
 some ((IntKind.wrap .u32 (IntKind.wrap .u64 (guess - 1))),(u.set (u_off+(n).toNat) (IntKind.wrap .u32 (u_e+add))))
def Zr9 (rec_:Nat→Nat→Int→Int→Int→(List Int)→Int→Int→(List Int)→Option (Nat×Nat×Int×Int×Int×(List Int))) (u_off:Nat) (u_len:Nat) (n:Int) (guess:Int) (add:Int) (t130:(List Int)) (t131:Int) (i:Int) (u:(List Int)):Option (Nat×Nat×Int×Int×Int×(List Int)):=
 bif (decide (i < t131))then (
  (idx t130 i).bind fun x_=>
  chk (inR i (u_len:Int)) <|
  (u[(u_off+(i).toNat)]?).bind fun u_e=>
  (Zrt u_e x_ add).bind fun(q,add_1)=>
  chk (inR i (u_len:Int)) <|
  chk (inK .i64 (i+1)) <|
  rec_ u_off u_len n guess add_1 t130 t131 (i+1) (u.set (u_off+(i).toNat) q)
 )else (
  some (u_off,u_len,n,guess,add,u)
 )
def ZrK:Nat→Nat→Nat→Int→Int→Int→(List Int)→Int→Int→(List Int)→Option (Nat×Nat×Int×Int×Int×(List Int))
 |0,_,_,_,_,_,_,_,_,_=>none
 |n_+1,u_off,u_len,n,guess,add,t130,t131,i,u=>Zr9 (ZrK n_) u_off u_len n guess add t130 t131 i u
def ZuU (n:Nat) (s:(Nat×Nat×Int×Int×Int×(List Int)×Int×Int×(List Int))):Option (Nat×Nat×Int×Int×Int×(List Int)):=ZrK n s.1 s.2.1 s.2.2.1 s.2.2.2.1 s.2.2.2.2.1 s.2.2.2.2.2.1 s.2.2.2.2.2.2.1 s.2.2.2.2.2.2.2.1 s.2.2.2.2.2.2.2.2
def ZtK (rec_:(Nat×Nat×Int×Int×Int×(List Int)×Int×Int×(List Int))→Option (Nat×Nat×Int×Int×Int×(List Int))) (s:(Nat×Nat×Int×Int×Int×(List Int)×Int×Int×(List Int))):Option (Nat×Nat×Int×Int×Int×(List Int)):=Zr9 (fun u_off u_len n guess add t130 t131 i u=>rec_ (u_off,u_len,n,guess,add,t130,t131,i,u)) s.1 s.2.1 s.2.2.1 s.2.2.2.1 s.2.2.2.2.1 s.2.2.2.2.2.1 s.2.2.2.2.2.2.1 s.2.2.2.2.2.2.2.1 s.2.2.2.2.2.2.2.2
theorem Zv7:∀n s,ZuU (n+1) s=ZtK (ZuU n) s:=fun _ _=>rfl
def Zum (u_off:Nat) (u_len:Nat) (d:(List Int)) (n:Int) (guess:Int) (borrow:Int) (carry:Int) (u:(List Int)):Option (Int×(List Int)):=
 chk (inR n (u_len:Int)) <|
 (u[(u_off+(n).toNat)]?).bind fun u_e=>
 (ZqE u_e (IntKind.wrap .u32 carry) borrow).bind fun(q,borrow_1)=>
 chk (inR n (u_len:Int)) <|
 bif (borrow_1 == 0)then (
  some ((IntKind.wrap .u32 guess),(u.set (u_off+(n).toNat) q))
 )else (
  (ZrK big u_off u_len n guess (0:Int) d (d.length:Int) (0:Int) (u.set (u_off+(n).toNat) q)).bind fun(x0,x1,x2,x3,x4,x5)=>Zs8 x0 x1 x2 x3 x4 x5
 )
def Zsa (rec_:Nat→Nat→(List Int)→Int→Int→Int→Int→(List Int)→Int→Int→(List Int)→Option (Nat×Nat×(List Int)×Int×Int×Int×Int×(List Int))) (u_off:Nat) (u_len:Nat) (d:(List Int)) (n:Int) (guess:Int) (borrow:Int) (carry:Int) (t82:(List Int)) (t83:Int) (i:Int) (u:(List Int)):Option (Nat×Nat×(List Int)×Int×Int×Int×Int×(List Int)):=
 bif (decide (i < t83))then (
  (idx t82 i).bind fun x_=>
  chk (inR i (u_len:Int)) <|
  (u[(u_off+(i).toNat)]?).bind fun u_e=>
  (ZqE u_e (IntKind.wrap .u32 (IntKind.wrap .u64 (carry+(IntKind.wrap .u64 (guess*(IntKind.wrap .u64 x_)))))) borrow).bind fun(q,borrow_1)=>
  chk (inR i (u_len:Int)) <|
  chk (decide (0≤(32:Int))) <|
  chk (inK .i64 (i+1)) <|
  rec_ u_off u_len d n guess borrow_1 (shrK .u64 (IntKind.wrap .u64 (carry+(IntKind.wrap .u64 (guess*(IntKind.wrap .u64 x_))))) 32) t82 t83 (i+1) (u.set (u_off+(i).toNat) q)
 )else (
  some (u_off,u_len,d,n,guess,borrow,carry,u)
 )
def Zs7:Nat→Nat→Nat→(List Int)→Int→Int→Int→Int→(List Int)→Int→Int→(List Int)→Option (Nat×Nat×(List Int)×Int×Int×Int×Int×(List Int))
 |0,_,_,_,_,_,_,_,_,_,_,_=>none
 |n_+1,u_off,u_len,d,n,guess,borrow,carry,t82,t83,i,u=>Zsa (Zs7 n_) u_off u_len d n guess borrow carry t82 t83 i u
def ZuV (n:Nat) (s:(Nat×Nat×(List Int)×Int×Int×Int×Int×(List Int)×Int×Int×(List Int))):Option (Nat×Nat×(List Int)×Int×Int×Int×Int×(List Int)):=Zs7 n s.1 s.2.1 s.2.2.1 s.2.2.2.1 s.2.2.2.2.1 s.2.2.2.2.2.1 s.2.2.2.2.2.2.1 s.2.2.2.2.2.2.2.1 s.2.2.2.2.2.2.2.2.1 s.2.2.2.2.2.2.2.2.2.1 s.2.2.2.2.2.2.2.2.2.2
def ZtL (rec_:(Nat×Nat×(List Int)×Int×Int×Int×Int×(List Int)×Int×Int×(List Int))→Option (Nat×Nat×(List Int)×Int×Int×Int×Int×(List Int))) (s:(Nat×Nat×(List Int)×Int×Int×Int×Int×(List Int)×Int×Int×(List Int))):Option (Nat×Nat×(List Int)×Int×Int×Int×Int×(List Int)):=Zsa (fun u_off u_len d n guess borrow carry t82 t83 i u=>rec_ (u_off,u_len,d,n,guess,borrow,carry,t82,t83,i,u)) s.1 s.2.1 s.2.2.1 s.2.2.2.1 s.2.2.2.2.1 s.2.2.2.2.2.1 s.2.2.2.2.2.2.1 s.2.2.2.2.2.2.2.1 s.2.2.2.2.2.2.2.2.1 s.2.2.2.2.2.2.2.2.2.1 s.2.2.2.2.2.2.2.2.2.2
theorem Zv8:∀n s,ZuV (n+1) s=ZtL (ZuV n) s:=fun _ _=>rfl
def Zs9 (u_off:Nat) (u_len:Nat) (d:(List Int)) (n:Int) (guess:Int) (u:(List Int)):Option (Int×(List Int)):=
 (Zs7 big u_off u_len d n guess (0:Int) (0:Int) d (d.length:Int) (0:Int) u).bind fun(x0,x1,x2,x3,x4,x5,x6,x7)=>Zum x0 x1 x2 x3 x4 x5 x6 x7
def ZrL (rec_:Nat→Nat→(List Int)→Int→Int→Int→(List Int)→Option (Nat×Nat×(List Int)×Int×Int×(List Int))) (u_off:Nat) (u_len:Nat) (d:(List Int)) (n:Int) (guess:Int) (rest:Int) (t71:Bool) (u:(List Int)):Option (Nat×Nat×(List Int)×Int×Int×(List Int)):=
 bif t71 then (
  chk (inK .i64 (n - 1)) <|
  (idx d (n - 1)).bind fun d_e=>
  rec_ u_off u_len d n (IntKind.wrap .u64 (guess - 1)) (IntKind.wrap .u64 (rest+(IntKind.wrap .u64 d_e))) u
 )else (
  some (u_off,u_len,d,n,guess,u)
 )
def ZtM (rec_:Nat→Nat→(List Int)→Int→Int→Int→(List Int)→Option (Nat×Nat×(List Int)×Int×Int×(List Int))) (u_off:Nat) (u_len:Nat) (d:(List Int)) (n:Int) (guess:Int) (rest:Int) (u:(List Int)):Option (Nat×Nat×(List Int)×Int×Int×(List Int)):=
 bif (decide (rest < 4294967296))then (
  chk (inK .i64 (n - 2)) <|
  (idx d (n - 2)).bind fun d_e=>
  chk (decide (0≤(32:Int))) <|
  chk (inK .i64 (n - 2)) <|
  chk (inR (n - 2) (u_len:Int)) <|
  (u[(u_off+((n - 2)).toNat)]?).bind fun u_e=>
  ZrL rec_ u_off u_len d n guess rest (decide ((IntKind.wrap .u64 (guess*(IntKind.wrap .u64 d_e))) > (orK .u64 (shlK .u64 rest 32) (IntKind.wrap .u64 u_e)))) u
 )else (
  ZrL rec_ u_off u_len d n guess rest false u
 )
def ZqH:Nat→Nat→Nat→(List Int)→Int→Int→Int→(List Int)→Option (Nat×Nat×(List Int)×Int×Int×(List Int))
 |0,_,_,_,_,_,_,_=>none
 |n_+1,u_off,u_len,d,n,guess,rest,u=>ZtM (ZqH n_) u_off u_len d n guess rest u
def ZuW (n:Nat) (s:(Nat×Nat×(List Int)×Int×Int×Int×(List Int))):Option (Nat×Nat×(List Int)×Int×Int×(List Int)):=ZqH n s.1 s.2.1 s.2.2.1 s.2.2.2.1 s.2.2.2.2.1 s.2.2.2.2.2.1 s.2.2.2.2.2.2
def ZuX (rec_:(Nat×Nat×(List Int)×Int×Int×Int×(List Int))→Option (Nat×Nat×(List Int)×Int×Int×(List Int))) (s:(Nat×Nat×(List Int)×Int×Int×Int×(List Int))):Option (Nat×Nat×(List Int)×Int×Int×(List Int)):=ZtM (fun u_off u_len d n guess rest u=>rec_ (u_off,u_len,d,n,guess,rest,u)) s.1 s.2.1 s.2.2.1 s.2.2.2.1 s.2.2.2.2.1 s.2.2.2.2.2.1 s.2.2.2.2.2.2
theorem Zv9:∀n s,ZuW (n+1) s=ZuX (ZuW n) s:=fun _ _=>rfl
def Zuj (u:(List Int)) (u_off:Nat) (u_len:Nat) (d:(List Int)):Option (Int×(List Int)):=
 chk (inR (d.length:Int) (u_len:Int)) <|
 (u[(u_off+((d.length:Int)).toNat)]?).bind fun u_e=>
 chk (decide (0≤(32:Int))) <|
 chk (inK .i64 ((d.length:Int) - 1)) <|
 chk (inR ((d.length:Int) - 1) (u_len:Int)) <|
 (u[(u_off+(((d.length:Int) - 1)).toNat)]?).bind fun u_e_1=>
 chk (inK .i64 ((d.length:Int) - 1)) <|
 (idx d ((d.length:Int) - 1)).bind fun d_e=>
 chk (decide ((IntKind.wrap .u64 d_e)≠0)) <|
 chk (inK .i64 ((d.length:Int) - 1)) <|
 (idx d ((d.length:Int) - 1)).bind fun d_e_1=>
 (ZqH big u_off u_len d (d.length:Int) (if (4294967295:Int) < (IntKind.wrap .u64 (Int.tdiv (orK .u64 (shlK .u64 (IntKind.wrap .u64 u_e) 32) (IntKind.wrap .u64 u_e_1)) (IntKind.wrap .u64 d_e)))then (4294967295:Int)else (IntKind.wrap .u64 (Int.tdiv (orK .u64 (shlK .u64 (IntKind.wrap .u64 u_e) 32) (IntKind.wrap .u64 u_e_1)) (IntKind.wrap .u64 d_e)))) (IntKind.wrap .u64 ((orK .u64 (shlK .u64 (IntKind.wrap .u64 u_e) 32) (IntKind.wrap .u64 u_e_1)) - (IntKind.wrap .u64 ((if (4294967295:Int) < (IntKind.wrap .u64 (Int.tdiv (orK .u64 (shlK .u64 (IntKind.wrap .u64 u_e) 32) (IntKind.wrap .u64 u_e_1)) (IntKind.wrap .u64 d_e)))then (4294967295:Int)else (IntKind.wrap .u64 (Int.tdiv (orK .u64 (shlK .u64 (IntKind.wrap .u64 u_e) 32) (IntKind.wrap .u64 u_e_1)) (IntKind.wrap .u64 d_e))))*(IntKind.wrap .u64 d_e_1))))) u).bind fun(x0,x1,x2,x3,x4,x5)=>Zs9 x0 x1 x2 x3 x4 x5
def Zts (u:(List Int)) (u_off:Nat) (u_len:Nat) (d:(List Int)):Option (Int×(List Int)):=
 (Zuj u u_off u_len d).bind fun r=>chk (decide (r.2.length=u.length)&&true) (some r)
def Zs6 (w_off:Nat) (w_len:Nat) (w_:(List Int)):Option (Nat×Nat×(List Int)):=
 some (w_off,w_len,w_)
def Zrq (rec_:Nat→Nat→(List Int)→Option (Nat×Nat×(List Int))) (w_off:Nat) (w_len:Nat) (t14:Bool) (w_:(List Int)):Option (Nat×Nat×(List Int)):=
 bif t14 then (
  chk (inK .i64 (((w_len:Nat):Int) - 1)) <|
  chk (Zb9 0 (((w_len:Nat):Int) - 1) (w_len:Int)) <|
  rec_ (w_off+0) (((((w_len:Nat):Int) - 1)).toNat - 0) w_
 )else (
  some (w_off,w_len,w_)
 )
def Zsv (rec_:Nat→Nat→(List Int)→Option (Nat×Nat×(List Int))) (w_off:Nat) (w_len:Nat) (w_:(List Int)):Option (Nat×Nat×(List Int)):=
 bif (decide (((w_len:Nat):Int) > 0))then (
  chk (inK .i64 (((w_len:Nat):Int) - 1)) <|
  chk (inR (((w_len:Nat):Int) - 1) (w_len:Int)) <|
  (w_[(w_off+((((w_len:Nat):Int) - 1)).toNat)]?).bind fun w__e=>
  Zrq rec_ w_off w_len (w__e == 0) w_
 )else (
  Zrq rec_ w_off w_len false w_
 )
def Zqg:Nat→Nat→Nat→(List Int)→Option (Nat×Nat×(List Int))
 |0,_,_,_=>none
 |n_+1,w_off,w_len,w_=>Zsv (Zqg n_) w_off w_len w_
def Zuf (n:Nat) (s:(Nat×Nat×(List Int))):Option (Nat×Nat×(List Int)):=Zqg n s.1 s.2.1 s.2.2
def Zug (rec_:(Nat×Nat×(List Int))→Option (Nat×Nat×(List Int))) (s:(Nat×Nat×(List Int))):Option (Nat×Nat×(List Int)):=Zsv (fun w_off w_len w_=>rec_ (w_off,w_len,w_)) s.1 s.2.1 s.2.2
theorem ZvC:∀n s,Zuf (n+1) s=Zug (Zuf n) s:=fun _ _=>rfl
def ZsC (w_:(List Int)) (w_off:Nat) (w_len:Nat):Option (Nat×Nat×(List Int)):=
 (Zqg big w_off w_len w_).bind fun(x0,x1,x2)=>Zs6 x0 x1 x2
def ZrR (w_:(List Int)) (w_off:Nat) (w_len:Nat):Option (Nat×Nat×(List Int)):=
 (ZsC w_ w_off w_len).bind fun r=>chk (decide (r.2.2.length=w_.length)&&true) (some r)
def ZpO (w_:(List Int)) (i:Int):Option Int:=
 bif (decide (i < (w_.length:Int)))then (
  (idx w_ i).bind fun w__e=>
  some w__e
 )else (
  some (0:Int)
 )
def ZtI (w_:(List Int)) (w_off:Nat) (w_len:Nat) (i:Int):Option (Int×(List Int)):=
 bif (decide (i < ((w_len:Nat):Int)))then (
  chk (inR i (w_len:Int)) <|
  (w_[(w_off+(i).toNat)]?).bind fun w__e=>
  some (w__e,w_)
 )else (
  some (0,w_)
 )
def Zro (w_:(List Int)) (w_off:Nat) (w_len:Nat) (i:Int):Option (Int×(List Int)):=
 (ZtI w_ w_off w_len i).bind fun r=>chk (decide (r.2.length=w_.length)&&true) (some r)
def ZsU (rest_off:Nat) (rest_len:Nat) (q:(List Int)) (rest:(List Int)):Option ((List Int)×(List Int)):=
 (ZnV q).bind fun q_1=>
 (ZnV ((rest.drop rest_off).take rest_len)).bind fun q_2=>
 some (q_1,q_2)
def Zqt (rec_:Int→Nat→Nat→Int→Int→(List Int)→(List Int)→Option (Nat×Nat×(List Int)×(List Int))) (shift:Int) (rest_off:Nat) (rest_len:Nat) (t86:Int) (i:Int) (q:(List Int)) (rest:(List Int)):Option (Nat×Nat×(List Int)×(List Int)):=
 bif (decide (i < t86))then (
  chk (inK .i64 (i+1)) <|
  (Zro rest rest_off rest_len (i+1)).bind fun(q_1,t90)=>
  chk (decide (0≤(32:Int))) <|
  chk (inR i (rest_len:Int)) <|
  (t90[(rest_off+(i).toNat)]?).bind fun t90_e=>
  chk (decide (0≤shift)) <|
  chk (inR i (rest_len:Int)) <|
  chk (inK .i64 (i+1)) <|
  rec_ shift rest_off rest_len t86 (i+1) q (t90.set (rest_off+(i).toNat) (IntKind.wrap .u32 (shrK .u64 (orK .u64 (shlK .u64 (IntKind.wrap .u64 q_1) 32) (IntKind.wrap .u64 t90_e)) shift)))
 )else (
  some (rest_off,rest_len,q,rest)
 )
def ZpT:Nat→Int→Nat→Nat→Int→Int→(List Int)→(List Int)→Option (Nat×Nat×(List Int)×(List Int))
 |0,_,_,_,_,_,_,_=>none
 |n_+1,shift,rest_off,rest_len,t86,i,q,rest=>Zqt (ZpT n_) shift rest_off rest_len t86 i q rest
def Zt5 (n:Nat) (s:(Int×Nat×Nat×Int×Int×(List Int)×(List Int))):Option (Nat×Nat×(List Int)×(List Int)):=ZpT n s.1 s.2.1 s.2.2.1 s.2.2.2.1 s.2.2.2.2.1 s.2.2.2.2.2.1 s.2.2.2.2.2.2
def ZrZ (rec_:(Int×Nat×Nat×Int×Int×(List Int)×(List Int))→Option (Nat×Nat×(List Int)×(List Int))) (s:(Int×Nat×Nat×Int×Int×(List Int)×(List Int))):Option (Nat×Nat×(List Int)×(List Int)):=Zqt (fun shift rest_off rest_len t86 i q rest=>rec_ (shift,rest_off,rest_len,t86,i,q,rest)) s.1 s.2.1 s.2.2.1 s.2.2.2.1 s.2.2.2.2.1 s.2.2.2.2.2.1 s.2.2.2.2.2.2
theorem Zvu:∀n s,Zt5 (n+1) s=ZrZ (Zt5 n) s:=fun _ _=>rfl
def ZsV (n:Int) (shift:Int) (u:(List Int)) (q:(List Int)):Option ((List Int)×(List Int)):=
 chk (Zb9 0 n (u.length:Int)) <|
 (ZrR u 0 ((n).toNat - 0)).bind fun(rest_off,rest_len,t83)=>
 (ZpT big shift rest_off rest_len ((rest_len:Nat):Int) (0:Int) q t83).bind fun(x0,x1,x2,x3)=>ZsU x0 x1 x2 x3
def Zqu (rec_:Int→Int→(List Int)→Int→(List Int)→(List Int)→Option (Int×Int×(List Int)×(List Int))) (n:Int) (shift:Int) (d:(List Int)) (j:Int) (u:(List Int)) (q:(List Int)):Option (Int×Int×(List Int)×(List Int)):=
 bif (decide (j≥0))then (
  chk (inK .i64 (j+n)) <|
  chk (inK .i64 ((j+n)+1)) <|
  chk (Zb9 j ((j+n)+1) (u.length:Int)) <|
  (Zts u ((j).toNat) ((((j+n)+1)).toNat - (j).toNat) d).bind fun(q_1,t77)=>
  chk (inR j (q.length:Int)) <|
  chk (inK .i64 (j - 1)) <|
  rec_ n shift d (j - 1) t77 (q.set ((j).toNat) q_1)
 )else (
  some (n,shift,u,q)
 )
def ZpU:Nat→Int→Int→(List Int)→Int→(List Int)→(List Int)→Option (Int×Int×(List Int)×(List Int))
 |0,_,_,_,_,_,_=>none
 |n_+1,n,shift,d,j,u,q=>Zqu (ZpU n_) n shift d j u q
def Zt6 (n:Nat) (s:(Int×Int×(List Int)×Int×(List Int)×(List Int))):Option (Int×Int×(List Int)×(List Int)):=ZpU n s.1 s.2.1 s.2.2.1 s.2.2.2.1 s.2.2.2.2.1 s.2.2.2.2.2
def Zr0 (rec_:(Int×Int×(List Int)×Int×(List Int)×(List Int))→Option (Int×Int×(List Int)×(List Int))) (s:(Int×Int×(List Int)×Int×(List Int)×(List Int))):Option (Int×Int×(List Int)×(List Int)):=Zqu (fun n shift d j u q=>rec_ (n,shift,d,j,u,q)) s.1 s.2.1 s.2.2.1 s.2.2.2.1 s.2.2.2.2.1 s.2.2.2.2.2
theorem Zvv:∀n s,Zt6 (n+1) s=Zr0 (Zt6 n) s:=fun _ _=>rfl
def Zo7 (w_:(List Int)) (v_:(List Int)):Option ((List Int)×(List Int)):=
 (Zol w_ v_).bind fun q=>
 bif (decide (q < 0))then (
  (Zoa w_).bind fun q_1=>
  some (([]:(List Int)),q_1)
 )else (
  bif ((v_.length:Int) == 1)then (
   (idx v_ 0).bind fun v__e=>
   (Zqz w_ v__e).bind fun(q_2,r_)=>
   (ZnV ([r_]:(List Int))).bind fun q_3=>
   some (q_2,q_3)
  )else (
   chk (inK .i64 ((v_.length:Int) - 1)) <|
   (idx v_ ((v_.length:Int) - 1)).bind fun v__e_1=>
   (Zpd v__e_1).bind fun shift=>
   (ZoG w_ shift).bind fun u=>
   (ZoG v_ shift).bind fun q_4=>
   chk (Zb9 0 (v_.length:Int) (q_4.length:Int)) <|
   chk (inK .i64 ((w_.length:Int) - (v_.length:Int))) <|
   chk (inK .i64 (((w_.length:Int) - (v_.length:Int))+1)) <|
   chk (mkOk (((w_.length:Int) - (v_.length:Int))+1) (((w_.length:Int) - (v_.length:Int))+1) 4) <|
   chk (inK .i64 (((List.replicate ((((w_.length:Int) - (v_.length:Int))+1)).toNat (0:Int)).length:Int) - 1)) <|
   (ZpU big (v_.length:Int) shift ((q_4.drop 0).take (((v_.length:Int)).toNat - 0)) (((List.replicate ((((w_.length:Int) - (v_.length:Int))+1)).toNat (0:Int)).length:Int) - 1) u (List.replicate ((((w_.length:Int) - (v_.length:Int))+1)).toNat (0:Int))).bind fun(x0,x1,x2,x3)=>ZsV x0 x1 x2 x3
  )
 )
def Zr1 (w_:(List Int)):Option (List Int):=
 some w_
def ZoW (rec_:(List Int)→(List Int)→Option (List Int)) (w_:(List Int)) (v_:(List Int)):Option (List Int):=
 bif (decide ((v_.length:Int) > 0))then (
  (Zo7 w_ v_).bind fun(q,r_)=>
  rec_ v_ r_
 )else (
  some w_
 )
def Zor:Nat→(List Int)→(List Int)→Option (List Int)
 |0,_,_=>none
 |n_+1,w_,v_=>ZoW (Zor n_) w_ v_
def Zo9 (w_:(List Int)) (v_:(List Int)):Option (List Int):=
 (Zor big w_ v_).bind fun x0=>Zr1 x0
def ZqI (t2:Bool):Option Bool:=
 some t2
def Zr2 (f:ZnA):Option Bool:=
 (ZsW ([f.Num,f.Den]:(List ZnE))).bind fun q=>
 bif q then (
  bif (decide ((f.Den.Words.length:Int) > 0))then (
   bif (!f.Den.Neg)then (
    (Zo9 f.Num.Words f.Den.Words).bind fun q_1=>
    (Zol q_1 ([1]:List Int)).bind fun q_2=>
    ZqI (q_2 == 0)
   )else (
    ZqI false
   )
  )else (
   ZqI false
  )
 )else (
  ZqI false
 )
def Zsr (out:(List Int)):Option (List Int):=
 (ZnV out).bind fun q=>
 some q
def Zss (rec_:(List Int)→(List Int)→Int→Int→(List Int)→Option (List Int)) (v_:(List Int)) (i:Int) (carry:Int) (t17:(List Int)) (t18:Int) (i_1:Int) (out:(List Int)):Option (List Int):=
 chk (inK .i64 (i+(v_.length:Int))) <|
 chk (inR (i+(v_.length:Int)) (out.length:Int)) <|
 chk (inK .i64 (i_1+1)) <|
 rec_ v_ t17 t18 (i_1+1) (out.set (((i+(v_.length:Int))).toNat) (IntKind.wrap .u32 carry))
def Zqa (rec_:(List Int)→Int→Int→Int→(List Int)→Int→Int→(List Int)→Int→Int→(List Int)→Option ((List Int)×Int×Int×(List Int)×Int×Int×(List Int))) (v_:(List Int)) (i:Int) (x_:Int) (carry:Int) (t17:(List Int)) (t18:Int) (i_1:Int) (t24:(List Int)) (t25:Int) (j:Int) (out:(List Int)):Option ((List Int)×Int×Int×(List Int)×Int×Int×(List Int)):=
 bif (decide (j < t25))then (
  (idx t24 j).bind fun y=>
  chk (inK .i64 (i+j)) <|
  chk (inR (i+j) (out.length:Int)) <|
  (out[((i+j)).toNat]?).bind fun out_e=>
  chk (inK .i64 (i+j)) <|
  chk (inR (i+j) (out.length:Int)) <|
  chk (decide (0≤(32:Int))) <|
  chk (inK .i64 (j+1)) <|
  rec_ v_ i x_ (shrK .u64 (IntKind.wrap .u64 (carry+(IntKind.wrap .u64 ((IntKind.wrap .u64 ((IntKind.wrap .u64 x_)*(IntKind.wrap .u64 y)))+(IntKind.wrap .u64 out_e))))) 32) t17 t18 i_1 t24 t25 (j+1) (out.set (((i+j)).toNat) (IntKind.wrap .u32 (IntKind.wrap .u64 (carry+(IntKind.wrap .u64 ((IntKind.wrap .u64 ((IntKind.wrap .u64 x_)*(IntKind.wrap .u64 y)))+(IntKind.wrap .u64 out_e)))))))
 )else (
  some (v_,i,carry,t17,t18,i_1,out)
 )
def ZqR:Nat→(List Int)→Int→Int→Int→(List Int)→Int→Int→(List Int)→Int→Int→(List Int)→Option ((List Int)×Int×Int×(List Int)×Int×Int×(List Int))
 |0,_,_,_,_,_,_,_,_,_,_,_=>none
 |n_+1,v_,i,x_,carry,t17,t18,i_1,t24,t25,j,out=>Zqa (ZqR n_) v_ i x_ carry t17 t18 i_1 t24 t25 j out
def ZtE (n:Nat) (s:((List Int)×Int×Int×Int×(List Int)×Int×Int×(List Int)×Int×Int×(List Int))):Option ((List Int)×Int×Int×(List Int)×Int×Int×(List Int)):=ZqR n s.1 s.2.1 s.2.2.1 s.2.2.2.1 s.2.2.2.2.1 s.2.2.2.2.2.1 s.2.2.2.2.2.2.1 s.2.2.2.2.2.2.2.1 s.2.2.2.2.2.2.2.2.1 s.2.2.2.2.2.2.2.2.2.1 s.2.2.2.2.2.2.2.2.2.2
def ZrD (rec_:((List Int)×Int×Int×Int×(List Int)×Int×Int×(List Int)×Int×Int×(List Int))→Option ((List Int)×Int×Int×(List Int)×Int×Int×(List Int))) (s:((List Int)×Int×Int×Int×(List Int)×Int×Int×(List Int)×Int×Int×(List Int))):Option ((List Int)×Int×Int×(List Int)×Int×Int×(List Int)):=Zqa (fun v_ i x_ carry t17 t18 i_1 t24 t25 j out=>rec_ (v_,i,x_,carry,t17,t18,i_1,t24,t25,j,out)) s.1 s.2.1 s.2.2.1 s.2.2.2.1 s.2.2.2.2.1 s.2.2.2.2.2.1 s.2.2.2.2.2.2.1 s.2.2.2.2.2.2.2.1 s.2.2.2.2.2.2.2.2.1 s.2.2.2.2.2.2.2.2.2.1 s.2.2.2.2.2.2.2.2.2.2
theorem Zvi:∀n s,ZtE (n+1) s=ZrD (ZtE n) s:=fun _ _=>rfl
def Zqb (rec_:(List Int)→(List Int)→Int→Int→(List Int)→Option (List Int)) (v_:(List Int)) (t17:(List Int)) (t18:Int) (i:Int) (out:(List Int)):Option (List Int):=
 bif (decide (i < t18))then (
  (idx t17 i).bind fun x_=>
  (ZqR big v_ i x_ (0:Int) t17 t18 i v_ (v_.length:Int) (0:Int) out).bind fun(x0,x1,x2,x3,x4,x5,x6)=>Zss rec_ x0 x1 x2 x3 x4 x5 x6
 )else (
  some out
 )
def ZpC:Nat→(List Int)→(List Int)→Int→Int→(List Int)→Option (List Int)
 |0,_,_,_,_,_=>none
 |n_+1,v_,t17,t18,i,out=>Zqb (ZpC n_) v_ t17 t18 i out
def ZtF (n:Nat) (s:((List Int)×(List Int)×Int×Int×(List Int))):Option (List Int):=ZpC n s.1 s.2.1 s.2.2.1 s.2.2.2.1 s.2.2.2.2
def ZrE (rec_:((List Int)×(List Int)×Int×Int×(List Int))→Option (List Int)) (s:((List Int)×(List Int)×Int×Int×(List Int))):Option (List Int):=Zqb (fun v_ t17 t18 i out=>rec_ (v_,t17,t18,i,out)) s.1 s.2.1 s.2.2.1 s.2.2.2.1 s.2.2.2.2
theorem Zvj:∀n s,ZtF (n+1) s=ZrE (ZtF n) s:=fun _ _=>rfl
def ZoU (w_:(List Int)) (v_:(List Int)):Option (List Int):=
 chk (inK .i64 ((w_.length:Int)+(v_.length:Int))) <|
 chk (mkOk ((w_.length:Int)+(v_.length:Int)) ((w_.length:Int)+(v_.length:Int)) 4) <|
 (ZpC big v_ w_ (w_.length:Int) (0:Int) (List.replicate (((w_.length:Int)+(v_.length:Int))).toNat (0:Int))).bind fun x0=>Zsr x0
def ZsD (t4:Bool) (t4_1:(List Int)):Option ZnE:=
 some (ZnE.mk t4 t4_1)
def Zn3 (neg:Bool) (w_:(List Int)):Option ZnE:=
 bif neg then (
  chk (ZiZ w_.length 4) <|
  ZsD (decide ((w_.length:Int) > 0)) w_
 )else (
  chk (ZiZ w_.length 4) <|
  ZsD false w_
 )
def Zpl (a:ZnE) (b:ZnE):Option ZnE:=
 (ZoU a.Words b.Words).bind fun q=>
 (Zn3 (!(a.Neg == b.Neg)) q).bind fun q_1=>
 some q_1
def ZrS (t2:ZnE):Option ZnE:=
 some t2
def ZrJ (a:ZnE):Option ZnE:=
 bif (!a.Neg)then (
  ZrS (ZnE.mk (decide ((a.Words.length:Int) > 0)) a.Words)
 )else (
  ZrS (ZnE.mk false a.Words)
 )
def ZsT (carry:Int) (out:(List Int)):Option (List Int):=
 chk (ZiZ (out.length+([carry]:(List Int)).length) 4) <|
 (ZnV (out++([carry]:(List Int)))).bind fun q=>
 some q
def Zqs (rec_:(List Int)→(List Int)→Int→Int→Int→(List Int)→Option (Int×(List Int))) (w_:(List Int)) (v_:(List Int)) (carry:Int) (t20:Int) (i:Int) (out:(List Int)):Option (Int×(List Int)):=
 bif (decide (i < t20))then (
  (ZpO w_ i).bind fun q=>
  (ZpO v_ i).bind fun q_1=>
  (Zrt q q_1 carry).bind fun(d,carry_1)=>
  chk (ZiZ (out.length+([d]:(List Int)).length) 4) <|
  chk (inK .i64 (i+1)) <|
  rec_ w_ v_ carry_1 t20 (i+1) (out++([d]:(List Int)))
 )else (
  some (carry,out)
 )
def Zq2:Nat→(List Int)→(List Int)→Int→Int→Int→(List Int)→Option (Int×(List Int))
 |0,_,_,_,_,_,_=>none
 |n_+1,w_,v_,carry,t20,i,out=>Zqs (Zq2 n_) w_ v_ carry t20 i out
def Zt4 (n:Nat) (s:((List Int)×(List Int)×Int×Int×Int×(List Int))):Option (Int×(List Int)):=Zq2 n s.1 s.2.1 s.2.2.1 s.2.2.2.1 s.2.2.2.2.1 s.2.2.2.2.2
def ZrY (rec_:((List Int)×(List Int)×Int×Int×Int×(List Int))→Option (Int×(List Int))) (s:((List Int)×(List Int)×Int×Int×Int×(List Int))):Option (Int×(List Int)):=Zqs (fun w_ v_ carry t20 i out=>rec_ (w_,v_,carry,t20,i,out)) s.1 s.2.1 s.2.2.1 s.2.2.2.1 s.2.2.2.2.1 s.2.2.2.2.2
theorem Zvt:∀n s,Zt4 (n+1) s=ZrY (Zt4 n) s:=fun _ _=>rfl
def ZpS (w_:(List Int)) (v_:(List Int)):Option (List Int):=
 chk (inK .i64 ((if (v_.length:Int) > (w_.length:Int)then (v_.length:Int)else (w_.length:Int))+1)) <|
 chk (mkOk 0 ((if (v_.length:Int) > (w_.length:Int)then (v_.length:Int)else (w_.length:Int))+1) 4) <|
 (Zq2 big w_ v_ (0:Int) (if (v_.length:Int) > (w_.length:Int)then (v_.length:Int)else (w_.length:Int)) (0:Int) (List.replicate ((0:Int)).toNat (0:Int))).bind fun(x0,x1)=>ZsT x0 x1
def Zsu (out:(List Int)):Option (List Int):=
 (ZnV out).bind fun q=>
 some q
def Zqe (rec_:(List Int)→(List Int)→Int→Int→Int→(List Int)→Option (List Int)) (w_:(List Int)) (v_:(List Int)) (borrow:Int) (t12:Int) (i:Int) (out:(List Int)):Option (List Int):=
 bif (decide (i < t12))then (
  (idx w_ i).bind fun w__e=>
  (ZpO v_ i).bind fun q=>
  (ZqE w__e q borrow).bind fun(q_1,borrow_1)=>
  chk (inR i (out.length:Int)) <|
  chk (inK .i64 (i+1)) <|
  rec_ w_ v_ borrow_1 t12 (i+1) (out.set ((i).toNat) q_1)
 )else (
  some out
 )
def ZqT:Nat→(List Int)→(List Int)→Int→Int→Int→(List Int)→Option (List Int)
 |0,_,_,_,_,_,_=>none
 |n_+1,w_,v_,borrow,t12,i,out=>Zqe (ZqT n_) w_ v_ borrow t12 i out
def ZtH (n:Nat) (s:((List Int)×(List Int)×Int×Int×Int×(List Int))):Option (List Int):=ZqT n s.1 s.2.1 s.2.2.1 s.2.2.2.1 s.2.2.2.2.1 s.2.2.2.2.2
def ZrH (rec_:((List Int)×(List Int)×Int×Int×Int×(List Int))→Option (List Int)) (s:((List Int)×(List Int)×Int×Int×Int×(List Int))):Option (List Int):=Zqe (fun w_ v_ borrow t12 i out=>rec_ (w_,v_,borrow,t12,i,out)) s.1 s.2.1 s.2.2.1 s.2.2.2.1 s.2.2.2.2.1 s.2.2.2.2.2
theorem Zvl:∀n s,ZtH (n+1) s=ZrH (ZtH n) s:=fun _ _=>rfl
def Zps (w_:(List Int)) (v_:(List Int)):Option (List Int):=
 chk (mkOk (w_.length:Int) (w_.length:Int) 4) <|
 (ZqT big w_ v_ (0:Int) (w_.length:Int) (0:Int) (List.replicate ((w_.length:Int)).toNat (0:Int))).bind fun x0=>Zsu x0
def Zuh (a:ZnE) (b:ZnE):Option ZnE:=
 bif (a.Neg == b.Neg)then (
  (ZpS a.Words b.Words).bind fun q=>
  (Zn3 a.Neg q).bind fun q_1=>
  some q_1
 )else (
  (Zol a.Words b.Words).bind fun q_2=>
  bif (decide (q_2≥0))then (
   (Zps a.Words b.Words).bind fun q_3=>
   (Zn3 a.Neg q_3).bind fun q_4=>
   some q_4
  )else (
   (Zps b.Words a.Words).bind fun q_5=>
   (Zn3 b.Neg q_5).bind fun q_6=>
   some q_6
  )
 )
def Zt0 (t13:Bool) (a:ZnA) (b:ZnA):Option Int:=
 bif t13 then (
  some (0:Int)
 )else (
  (Zpl a.Num b.Den).bind fun q=>
  (Zpl b.Num a.Den).bind fun q_1=>
  (ZrJ q_1).bind fun q_2=>
  (Zuh q q_2).bind fun d=>
  bif d.Neg then (
   some (-1:Int)
  )else (
   bif (decide ((d.Words.length:Int) > 0))then (
    some (1:Int)
   )else (
    some (0:Int)
   )
  )
 )
def ZpY (a:ZnA) (b:ZnA):Option Int:=
 (Zr2 a).bind fun q=>
 bif (!q)then (
  Zt0 true a b
 )else (
  (Zr2 b).bind fun q_1=>
  Zt0 (!q_1) a b
 )
def Zut (i:Int):Option Int:=
 some i
def Ztr (rec_:(List ZnA)→Int→ZnA→Option Int) (l:(List ZnA)) (i:Int) (t19:Bool) (x_:ZnA):Option Int:=
 bif t19 then (
  chk (inK .i64 (i+1)) <|
  rec_ l (i+1) x_
 )else (
  some i
 )
def Zt8 (rec_:(List ZnA)→Int→ZnA→Option Int) (l:(List ZnA)) (i:Int) (x_:ZnA):Option Int:=
 bif (decide (i < (l.length:Int)))then (
  (idx l i).bind fun l_e=>
  (ZpY l_e x_).bind fun q=>
  Ztr rec_ l i (decide (q≤0)) x_
 )else (
  Ztr rec_ l i false x_
 )
def Zr5:Nat→(List ZnA)→Int→ZnA→Option Int
 |0,_,_,_=>none
 |n_+1,l,i,x_=>Zt8 (Zr5 n_) l i x_
def Zu5 (n:Nat) (s:((List ZnA)×Int×ZnA)):Option Int:=Zr5 n s.1 s.2.1 s.2.2
def Zu6 (rec_:((List ZnA)×Int×ZnA)→Option Int) (s:((List ZnA)×Int×ZnA)):Option Int:=Zt8 (fun l i x_=>rec_ (l,i,x_)) s.1 s.2.1 s.2.2
theorem Zwd:∀n s,Zu5 (n+1) s=Zu6 (Zu5 n) s:=fun _ _=>rfl
def ZsO (l:(List ZnA)) (i:Int) (x_:ZnA):Option Int:=
 (Zr5 big l i x_).bind fun x0=>Zut x0
def Zqi (n:Int):Option (List Int):=
 chk (decide (0≤(32:Int))) <|
 (ZnV ([(IntKind.wrap .u32 n),(IntKind.wrap .u32 (shrK .u64 n 32))]:(List Int))).bind fun q=>
 some q
def Zq3 (n:Int):Option ZnE:=
 bif (decide (n < 0))then (
  (Zqi (IntKind.wrap .u64 (0 - (IntKind.wrap .u64 n)))).bind fun q=>
  (Zn3 true q).bind fun q_1=>
  some q_1
 )else (
  (Zqi (IntKind.wrap .u64 n)).bind fun q_2=>
  (Zn3 false q_2).bind fun q_3=>
  some q_3
 )
def Zqh (num:ZnE) (den:ZnE):Option ZnA:=
 (Zo9 num.Words den.Words).bind fun g=>
 (Zo7 num.Words g).bind fun(x_,q)=>
 (Zo7 den.Words g).bind fun(y,q_1)=>
 (Zn3 (!(num.Neg == den.Neg)) x_).bind fun q_2=>
 (Zn3 false y).bind fun q_3=>
 some (ZnA.mk q_2 q_3)
def ZtN (num:ZnE) (den:ZnE):Option (ZnA×Int):=
 (ZsW ([num,den]:(List ZnE))).bind fun q=>
 bif (!q)then (
  some ((ZnA.mk (ZnE.mk false ([]:(List Int))) (ZnE.mk false ([]:(List Int)))),1)
 )else (
  bif ((den.Words.length:Int) == 0)then (
   some ((ZnA.mk (ZnE.mk false ([]:(List Int))) (ZnE.mk false ([]:(List Int)))),8)
  )else (
   (Zqh num den).bind fun q_1=>
   some (q_1,0)
  )
 )
def ZtZ (num:Int) (den:Int):Option (ZnA×Int):=
 (Zq3 num).bind fun q=>
 (Zq3 den).bind fun q_1=>
 (ZtN q q_1).bind fun(q_2,q_3)=>
 some (q_2,q_3)
def Zvn:Option ZnA:=
 (ZtZ 0 1).bind fun(f,q)=>
 some f
def ZwA (a:Int) (b:Int):Option ZnA:=
 (ZtZ a b).bind fun(f,e)=>
 bif (e != 0)then (
  (Zvn).bind fun q=>
  some q
 )else (
  some f
 )
def Ztg (a:(List ZnA)) (b:(List ZnA)) (most:Int) (t4:Bool) (t4_1:Bool) (t4_2:(List Int)) (t4_3:(List Int)):Option (ZnA×Int):=
 chk (inK .i64 ((a.length:Int)*(b.length:Int))) <|
 (ZwA most ((a.length:Int)*(b.length:Int))).bind fun q=>
 some (q,0)
def Zqy (rec_:(List ZnA)→(List ZnA)→Int→Int→Int→Bool→Bool→(List Int)→(List Int)→Option ((List ZnA)×(List ZnA)×Int×Bool×Bool×(List Int)×(List Int))) (a:(List ZnA)) (b:(List ZnA)) (most:Int) (i:Int) (k:Int) (t4:Bool) (t4_1:Bool) (x_:ZnA) (t4_2:(List Int)) (t4_3:(List Int)):Option ((List ZnA)×(List ZnA)×Int×Bool×Bool×(List Int)×(List Int)):=
 (ZsO a i x_).bind fun i_1=>
 (ZsO b k x_).bind fun k_1=>
 chk (inK .i64 (i_1*(b.length:Int))) <|
 chk (inK .i64 (k_1*(a.length:Int))) <|
 chk (inK .i64 ((i_1*(b.length:Int)) - (k_1*(a.length:Int)))) <|
 chk (inK .i64 (k_1*(a.length:Int))) <|
 chk (inK .i64 (i_1*(b.length:Int))) <|
 chk (inK .i64 ((k_1*(a.length:Int)) - (i_1*(b.length:Int)))) <|
 rec_ a b (if ((k_1*(a.length:Int)) - (i_1*(b.length:Int))) > (if ((i_1*(b.length:Int)) - (k_1*(a.length:Int))) > most then ((i_1*(b.length:Int)) - (k_1*(a.length:Int)))else most)then ((k_1*(a.length:Int)) - (i_1*(b.length:Int)))else (if ((i_1*(b.length:Int)) - (k_1*(a.length:Int))) > most then ((i_1*(b.length:Int)) - (k_1*(a.length:Int)))else most)) i_1 k_1 t4 t4_1 t4_2 t4_3
def ZrN (rec_:(List ZnA)→(List ZnA)→Int→Int→Int→Bool→Bool→(List Int)→(List Int)→Option ((List ZnA)×(List ZnA)×Int×Bool×Bool×(List Int)×(List Int))) (a:(List ZnA)) (b:(List ZnA)) (most:Int) (i:Int) (k:Int) (t28:Bool) (t4:Bool) (t4_1:Bool) (t4_2:(List Int)) (t4_3:(List Int)):Option ((List ZnA)×(List ZnA)×Int×Bool×Bool×(List Int)×(List Int)):=
 bif t28 then (
  (idx a i).bind fun x_=>
  (idx b k).bind fun b_e=>
  (ZpY b_e x_).bind fun q=>
  bif (decide (q < 0))then (
   (idx b k).bind fun x__1=>
   Zqy rec_ a b most i k t4 t4_1 x__1 t4_2 t4_3
  )else (
   Zqy rec_ a b most i k t4 t4_1 x_ t4_2 t4_3
  )
 )else (
  some (a,b,most,t4,t4_1,t4_2,t4_3)
 )
def ZsP (rec_:(List ZnA)→(List ZnA)→Int→Int→Int→Bool→Bool→(List Int)→(List Int)→Option ((List ZnA)×(List ZnA)×Int×Bool×Bool×(List Int)×(List Int))) (a:(List ZnA)) (b:(List ZnA)) (most:Int) (i:Int) (k:Int) (t4:Bool) (t4_1:Bool) (t4_2:(List Int)) (t4_3:(List Int)):Option ((List ZnA)×(List ZnA)×Int×Bool×Bool×(List Int)×(List Int)):=
 bif (decide (i < (a.length:Int)))then (
  ZrN rec_ a b most i k (decide (k < (b.length:Int))) t4 t4_1 t4_2 t4_3
 )else (
  ZrN rec_ a b most i k false t4 t4_1 t4_2 t4_3
 )
def Zpr:Nat→(List ZnA)→(List ZnA)→Int→Int→Int→Bool→Bool→(List Int)→(List Int)→Option ((List ZnA)×(List ZnA)×Int×Bool×Bool×(List Int)×(List Int))
 |0,_,_,_,_,_,_,_,_,_=>none
 |n_+1,a,b,most,i,k,t4,t4_1,t4_2,t4_3=>ZsP (Zpr n_) a b most i k t4 t4_1 t4_2 t4_3
def Zun (n:Nat) (s:((List ZnA)×(List ZnA)×Int×Int×Int×Bool×Bool×(List Int)×(List Int))):Option ((List ZnA)×(List ZnA)×Int×Bool×Bool×(List Int)×(List Int)):=Zpr n s.1 s.2.1 s.2.2.1 s.2.2.2.1 s.2.2.2.2.1 s.2.2.2.2.2.1 s.2.2.2.2.2.2.1 s.2.2.2.2.2.2.2.1 s.2.2.2.2.2.2.2.2
def Zuo (rec_:((List ZnA)×(List ZnA)×Int×Int×Int×Bool×Bool×(List Int)×(List Int))→Option ((List ZnA)×(List ZnA)×Int×Bool×Bool×(List Int)×(List Int))) (s:((List ZnA)×(List ZnA)×Int×Int×Int×Bool×Bool×(List Int)×(List Int))):Option ((List ZnA)×(List ZnA)×Int×Bool×Bool×(List Int)×(List Int)):=ZsP (fun a b most i k t4 t4_1 t4_2 t4_3=>rec_ (a,b,most,i,k,t4,t4_1,t4_2,t4_3)) s.1 s.2.1 s.2.2.1 s.2.2.2.1 s.2.2.2.2.1 s.2.2.2.2.2.1 s.2.2.2.2.2.2.1 s.2.2.2.2.2.2.2.1 s.2.2.2.2.2.2.2.2
theorem ZvL:∀n s,Zun (n+1) s=Zuo (Zun n) s:=fun _ _=>rfl
def ZrO (a:(List ZnA)) (b:(List ZnA)) (t17:Bool) (t4:Bool) (t4_1:Bool) (t4_2:(List Int)) (t4_3:(List Int)):Option (ZnA×Int):=
 bif t17 then (
  some ((ZnA.mk (ZnE.mk false ([]:(List Int))) (ZnE.mk false ([]:(List Int)))),5)
 )else (
  (Zpr big a b (0:Int) (0:Int) (0:Int) t4 t4_1 t4_2 t4_3).bind fun(x0,x1,x2,x3,x4,x5,x6)=>Ztg x0 x1 x2 x3 x4 x5 x6
 )
def Zo6 (a:(List ZnA)) (b:(List ZnA)):Option (ZnA×Int):=
 bif ((a.length:Int) == 0)then (
  ZrO a b true false false ([]:(List Int)) ([]:(List Int))
 )else (
  ZrO a b ((b.length:Int) == 0) false false ([]:(List Int)) ([]:(List Int))
 )
def Zq4:Option Bool:=
 some true
def Zo8 (rec_:(List Int)→Int→Int→ZnE→Option (Out Unit Bool)) (t22:(List Int)) (t23:Int) (i:Int) (b:ZnE):Option (Out Unit Bool):=
 bif (decide (i < t23))then (
  (idx t22 i).bind fun w_=>
  (idx b.Words i).bind fun Word=>
  bif (Word != w_)then (
   some (.ret false)
  )else (
   chk (inK .i64 (i+1)) <|
   rec_ t22 t23 (i+1) b
  )
 )else (
  some (.brk ())
 )
def ZpD:Nat→(List Int)→Int→Int→ZnE→Option (Out Unit Bool)
 |0,_,_,_,_=>none
 |n_+1,t22,t23,i,b=>Zo8 (ZpD n_) t22 t23 i b
def ZsI (n:Nat) (s:((List Int)×Int×Int×ZnE)):Option (Out Unit Bool):=ZpD n s.1 s.2.1 s.2.2.1 s.2.2.2
def ZqB (rec_:((List Int)×Int×Int×ZnE)→Option (Out Unit Bool)) (s:((List Int)×Int×Int×ZnE)):Option (Out Unit Bool):=Zo8 (fun t22 t23 i b=>rec_ (t22,t23,i,b)) s.1 s.2.1 s.2.2.1 s.2.2.2
theorem ZuB:∀n s,ZsI (n+1) s=ZqB (ZsI n) s:=fun _ _=>rfl
def ZpE (t20:Bool) (a:ZnE) (b:ZnE):Option Bool:=
 bif t20 then (
  some false
 )else (
  (ZpD big a.Words (a.Words.length:Int) (0:Int) b).bind fun
   | .ret q_=>some q_
   | .brk ()=>Zq4
 )
def ZoI (a:ZnE) (b:ZnE):Option Bool:=
 bif (!(a.Neg == b.Neg))then (
  ZpE true a b
 )else (
  ZpE ((a.Words.length:Int) != (b.Words.length:Int)) a b
 )
def Zqp (t4:Bool):Option Bool:=
 some t4
def Zn6 (a:ZnA) (b:ZnA):Option Bool:=
 (ZoI a.Num b.Num).bind fun q=>
 bif q then (
  (ZoI a.Den b.Den).bind fun q_1=>
  Zqp q_1
 )else (
  Zqp false
 )
def Zva:Option (List (Int×Zoz)):=
 some (setB (k:=(.int .i64)) (v:=(.st 4)) (car:=Zv6) (setB (k:=(.int .i64)) (v:=(.st 4)) (car:=Zv6) (setB (k:=(.int .i64)) (v:=(.st 4)) (car:=Zv6) (setB (k:=(.int .i64)) (v:=(.st 4)) (car:=Zv6) (setB (k:=(.int .i64)) (v:=(.st 4)) (car:=Zv6) ([]:(List (Int×Zoz))) 1 (Zoz.mk ([116,101,120,116]:Str) (none:Option Nat) (some 183:Option Nat))) 2 (Zoz.mk ([98,111,111,108]:Str) (some 184:Option Nat) (some 185:Option Nat))) 3 (Zoz.mk ([105,110,116,101,103,101,114]:Str) (some 186:Option Nat) (some 187:Option Nat))) 4 (Zoz.mk ([100,101,99,105,109,97,108]:Str) (some 188:Option Nat) (some 187:Option Nat))) 5 (Zoz.mk ([100,97,116,101]:Str) (some 189:Option Nat) (some 190:Option Nat)))
def ZvK (s cs:Str):Option Str:=
 chk (cs.all fun b=>decide (b.toNat < 128)) <| chk (decide (cs.length < 4294967281)) <| some (Lib.trimS s cs)
def Zwu (s:Str):Option Str:=
 (ZvK s ([32]:Str)).bind fun q=>
 some q
def ZpN (t4:Bool):Option Bool:=
 some t4
def Zo1 (s:Str) (prefix_:Str):Option Bool:=
 bif (decide ((s.length:Int)≥(prefix_.length:Int)))then (
  chk (Zb9 0 (prefix_.length:Int) (s.length:Int)) <|
  ZpN ((s.take ((prefix_.length:Int)).toNat) == prefix_)
 )else (
  ZpN false
 )
def Zqo (s:Str) (prefix_:Str):Option (Str×Bool):=
 (Zo1 s prefix_).bind fun q=>
 bif (!q)then (
  some (s,false)
 )else (
  chk (Zb9 (prefix_.length:Int) (s.length:Int) (s.length:Int)) <|
  some ((s.drop ((prefix_.length:Int)).toNat),true)
 )
def Zuk (s:Str) (prefix_:Str):Option (Str×Bool):=
 (Zqo s prefix_).bind fun(after,found)=>
 some (after,found)
def Zp9 (s:Str) (prefix_:Str):Option Str:=
 (Zo1 s prefix_).bind fun q=>
 bif q then (
  chk (Zb9 (prefix_.length:Int) (s.length:Int) (s.length:Int)) <|
  some (s.drop ((prefix_.length:Int)).toNat)
 )else (
  some s
 )
def Zt7 (s:Str) (prefix_:Str):Option Str:=
 (Zp9 s prefix_).bind fun q=>
 some q
def Zqn (s:Str) (c:Int):Option Int:=
 some (Lib.indexByte s c.toNat.toUInt8)
def ZqG (s:Str) (substr:Str) (n:Int) (t16:Bool):Option Int:=
 bif t16 then (
  some (0:Int)
 )else (
  bif (n == 1)then (
   (idx substr 0).bind fun c=>
   (Zqn s ((c.toNat:Nat):Int)).bind fun q=>
   some q
  )else (
   bif (decide (n≥(s.length:Int)))then (
    some (-1:Int)
   )else (
    none
   )
  )
 )
def Zrn (s:Str) (substr:Str):Option Int:=
 bif ((substr.length:Int) == 0)then (
  ZqG s substr (substr.length:Int) true
 )else (
  ZqG s substr (substr.length:Int) (substr == s)
 )
def ZrX (s:Str) (sep:Str):Option (Str×Str×Bool):=
 (Zrn s sep).bind fun i=>
 bif (decide (i≥0))then (
  chk (Zb9 0 i (s.length:Int)) <|
  chk (inK .i64 (i+(sep.length:Int))) <|
  chk (Zb9 (i+(sep.length:Int)) (s.length:Int) (s.length:Int)) <|
  some ((s.take (i).toNat),(s.drop ((i+(sep.length:Int))).toNat),true)
 )else (
  some (s,([]:Str),false)
 )
def Zvh (s:Str) (sep:Str):Option (Str×Str×Bool):=
 (ZrX s sep).bind fun(before,after,found)=>
 some (before,after,found)
def ZsE (t4:Bool):Option Bool:=
 some t4
def ZtY (s:Str) (most:Int):Option Bool:=
 bif (decide ((s.length:Int)≥1))then (
  bif (decide ((s.length:Int)≤most))then (
   (ZvK s ([48,49,50,51,52,53,54,55,56,57]:Str)).bind fun q=>
   ZsE (q == ([]:Str))
  )else (
   ZsE false
  )
 )else (
  ZsE false
 )
def ZuY (neg:Bool) (num:(List Int)) (den:(List Int)) (t2:Bool) (t2_1:Bool) (t2_2:(List Int)) (t2_3:(List Int)):Option (ZnA×Bool):=
 (Zn3 neg num).bind fun q=>
 (Zn3 false den).bind fun q_1=>
 (Zqh q q_1).bind fun q_2=>
 some (q_2,true)
def ZvV (rec_:Bool→(List Int)→(List Int)→(List Int)→Int→Int→Bool→Bool→(List Int)→(List Int)→Option (Bool×(List Int)×(List Int)×Bool×Bool×(List Int)×(List Int))) (neg:Bool) (num:(List Int)) (ten:(List Int)) (den:(List Int)) (t63:Int) (t64:Int) (t2:Bool) (t2_1:Bool) (t2_2:(List Int)) (t2_3:(List Int)):Option (Bool×(List Int)×(List Int)×Bool×Bool×(List Int)×(List Int)):=
 bif (decide (t64 < t63))then (
  (ZoU den ten).bind fun den_1=>
  chk (inK .i64 (t64+1)) <|
  rec_ neg num ten den_1 t63 (t64+1) t2 t2_1 t2_2 t2_3
 )else (
  some (neg,num,den,t2,t2_1,t2_2,t2_3)
 )
def ZtO:Nat→Bool→(List Int)→(List Int)→(List Int)→Int→Int→Bool→Bool→(List Int)→(List Int)→Option (Bool×(List Int)×(List Int)×Bool×Bool×(List Int)×(List Int))
 |0,_,_,_,_,_,_,_,_,_,_=>none
 |n_+1,neg,num,ten,den,t63,t64,t2,t2_1,t2_2,t2_3=>ZvV (ZtO n_) neg num ten den t63 t64 t2 t2_1 t2_2 t2_3
def ZuZ (neg:Bool) (back:Str) (num:(List Int)) (ten:(List Int)) (t2:Bool) (t2_1:Bool) (den:(List Int)) (t2_2:(List Int)) (t2_3:(List Int)):Option (ZnA×Bool):=
 (ZtO big neg num ten den (back.length:Int) (0:Int) t2 t2_1 t2_2 t2_3).bind fun(x0,x1,x2,x3,x4,x5,x6)=>ZuY x0 x1 x2 x3 x4 x5 x6
def ZvW (rec_:Bool→Str→(List Int)→(List Int)→Int→Int→Bool→Bool→(List Int)→(List Int)→(List Int)→(List Int)→Option (Bool×Str×(List Int)×(List Int)×Bool×Bool×(List Int)×(List Int)×(List Int))) (neg:Bool) (back:Str) (num:(List Int)) (ten:(List Int)) (t48:Int) (t49:Int) (t2:Bool) (t2_1:Bool) (den:(List Int)) (t47:(List Int)) (t2_2:(List Int)) (t2_3:(List Int)):Option (Bool×Str×(List Int)×(List Int)×Bool×Bool×(List Int)×(List Int)×(List Int)):=
 bif (decide (t49 < t48))then (
  chk (inR t49 (t47.length:Int)) <|
  (t47[(t49).toNat]?).bind fun d=>
  (ZoU num ten).bind fun q=>
  (Zqi (IntKind.wrap .u64 (IntKind.wrap .u8 (d - 48)))).bind fun q_1=>
  (ZpS q q_1).bind fun num_1=>
  chk (inK .i64 (t49+1)) <|
  rec_ neg back num_1 ten t48 (t49+1) t2 t2_1 den t47 t2_2 t2_3
 )else (
  some (neg,back,num,ten,t2,t2_1,den,t2_2,t2_3)
 )
def ZtP:Nat→Bool→Str→(List Int)→(List Int)→Int→Int→Bool→Bool→(List Int)→(List Int)→(List Int)→(List Int)→Option (Bool×Str×(List Int)×(List Int)×Bool×Bool×(List Int)×(List Int)×(List Int))
 |0,_,_,_,_,_,_,_,_,_,_,_,_=>none
 |n_+1,neg,back,num,ten,t48,t49,t2,t2_1,den,t47,t2_2,t2_3=>ZvW (ZtP n_) neg back num ten t48 t49 t2 t2_1 den t47 t2_2 t2_3
def Zsb (neg:Bool) (front:Str) (back:Str) (t39:Bool) (t2:Bool) (t2_1:Bool) (t2_2:(List Int)) (t2_3:(List Int)):Option (ZnA×Bool):=
 bif t39 then (
  some ((ZnA.mk (ZnE.mk false ([]:(List Int))) (ZnE.mk false ([]:(List Int)))),false)
 )else (
  (Zoa ([1]:List Int)).bind fun den=>
  chk (decide (front.length+back.length≤Zq)) <|
  chk (decide ((front++back).length≤281474976710656)) <|
  (ZtP big neg back ([]:(List Int)) ([10]:(List Int)) (((front++back).map fun b=>((b.toNat:Nat):Int)).length:Int) (0:Int) t2 t2_1 den ((front++back).map fun b=>((b.toNat:Nat):Int)) t2_2 t2_3).bind fun(x0,x1,x2,x3,x4,x5,x6,x7,x8)=>ZuZ x0 x1 x2 x3 x4 x5 x6 x7 x8
 )
def ZtQ (body:Str) (neg:Bool) (t2:Bool) (t2_1:Bool) (t2_2:(List Int)) (t2_3:(List Int)):Option (ZnA×Bool):=
 (Zvh body ([46]:Str)).bind fun(front,back,point)=>
 (ZtY front 15).bind fun q=>
 bif (!q)then (
  Zsb neg front back true t2 t2_1 t2_2 t2_3
 )else (
  bif point then (
   (ZtY back 9).bind fun q_1=>
   Zsb neg front back (!q_1) t2 t2_1 t2_2 t2_3
  )else (
   Zsb neg front back false t2 t2_1 t2_2 t2_3
  )
 )
def Ztu (text:Str):Option (ZnA×Bool):=
 (Zuk text ([45]:Str)).bind fun(body,neg)=>
 bif (!neg)then (
  (Zt7 text ([43]:Str)).bind fun body_1=>
  ZtQ body_1 neg false false ([]:(List Int)) ([]:(List Int))
 )else (
  ZtQ body neg false false ([]:(List Int)) ([]:(List Int))
 )
def Zus (s cs:Str):Option Str:=
 chk (cs.all fun b=>decide (b.toNat < 128)) <| chk (decide (cs.length < 4294967281)) <| some (Lib.trimLeftS s cs)
def Zvr (s cs:Str):Option Str:=
 chk (cs.all fun b=>decide (b.toNat < 128)) <| chk (decide (cs.length < 4294967281)) <| some (Lib.trimRightS s cs)
def ZvE (zero:Str):Option Str:=
 some zero
def Zwq (rec_:Str→(List Str)→Int→Int→Option (Out Str Str)) (zero:Str) (t6:(List Str)) (t7:Int) (t8:Int):Option (Out Str Str):=
 bif (decide (t8 < t7))then (
  (idx t6 t8).bind fun val=>
  bif (!(val == zero))then (
   some (.ret val)
  )else (
   chk (inK .i64 (t8+1)) <|
   rec_ zero t6 t7 (t8+1)
  )
 )else (
  some (.brk zero)
 )
def Zuz:Nat→Str→(List Str)→Int→Int→Option (Out Str Str)
 |0,_,_,_,_=>none
 |n_+1,zero,t6,t7,t8=>Zwq (Zuz n_) zero t6 t7 t8
def Zvw (vals:(List Str)):Option Str:=
 (Zuz big ([]:Str) vals (vals.length:Int) (0:Int)).bind fun
  | .ret q_=>some q_
  | .brk x0=>ZvE x0
def Zup (out:Str):Option (Str×Bool):=
 some (out,true)
def Zuq (out:Str) (t43:Bool):Option (Str×Bool):=
 bif t43 then (
  chk (decide (([45]:Str).length+out.length≤Zq)) <|
  Zup (([45]:Str)++out)
 )else (
  Zup out
 )
def Zur (t:Str) (out:Str):Option (Str×Bool):=
 (idx t 0).bind fun c=>
 bif (((c.toNat:Nat):Int) == 45)then (
  Zuq out (!(out == ([48]:Str)))
 )else (
  Zuq out false
 )
def Zvq (t:Str):Option (Str×Bool):=
 (Ztu t).bind fun(q,ok)=>
 bif (!ok)then (
  some (([]:Str),false)
 )else (
  (Zus t ([43,45]:Str)).bind fun q_1=>
  (Zvh q_1 ([46]:Str)).bind fun(front,back,q_2)=>
  (Zus front ([48]:Str)).bind fun front_1=>
  (Zvr back ([48]:Str)).bind fun back_1=>
  (Zvw ([front_1,([48]:Str)]:(List Str))).bind fun out=>
  bif (!(back_1 == ([]:Str)))then (
   chk (decide (([46]:Str).length+back_1.length≤Zq)) <|
   chk (decide (out.length+(([46]:Str)++back_1).length≤Zq)) <|
   Zur t (out++(([46]:Str)++back_1))
  )else (
   Zur t out
  )
 )
def ZuJ (n:Int) (s:Str):Option (Str×Bool):=
 (Zva).bind fun q=>
 bif (!(Zg3 (k:=(.int .i64)) (v:=(.st 4)) (car:=Zv6) q n).isSome)then (
  some (([]:Str),false)
 )else (
  bif (Option.isNone (((Zg3 (k:=(.int .i64)) (v:=(.st 4)) (car:=Zv6) q n).getD (Zoz.mk ([]:Str) (none:Option Nat) (none:Option Nat))).canonical))then (
   some (s,true)
  )else (
   (Zwu s).bind fun q_1=>
   chk (decide (((Zg3 (k:=(.int .i64)) (v:=(.st 4)) (car:=Zv6) q n).getD (Zoz.mk ([]:Str) (none:Option Nat) (none:Option Nat))).canonical=some 188)) <|
   (Zvq q_1).bind fun(q_2,q_3)=>
   some (q_2,q_3)
  )
 )
def ZvS (n:Int) (s:Str):Option (ZnA×Bool):=
 (ZuJ n s).bind fun(t,ok)=>
 bif (!ok)then (
  some ((ZnA.mk (ZnE.mk false ([]:(List Int))) (ZnE.mk false ([]:(List Int)))),false)
 )else (
  (Zva).bind fun q=>
  chk (decide (((Zg3 (k:=(.int .i64)) (v:=(.st 4)) (car:=Zv6) q n).getD (Zoz.mk ([]:Str) (none:Option Nat) (none:Option Nat))).value=some 187)) <|
  (Ztu t).bind fun(q_1,q_2)=>
  some (q_1,q_2)
 )
def Zul (c:ZnS):Option (ZnA×Bool):=
 bif c.Null then (
  (Zvn).bind fun q=>
  some (q,false)
 )else (
  (ZvS 4 c.Text).bind fun(q_1,q_2)=>
  some (q_1,q_2)
 )
def Zvs (x_:Int):Option Int:=
 (Zrs x_).bind fun q=>
 some q
def ZpQ (data:(List ZnA)):Option (List ZnA):=
 some data
def ZpR (rec_:Int→Int→Int→(List ZnA)→Option (List ZnA)) (a:Int) (b:Int) (i:Int) (data:(List ZnA)):Option (List ZnA):=
 chk (inK .i64 (i+1)) <|
 rec_ a b (i+1) data
def ZoE (rec_:Int→Int→Int→Int→(List ZnA)→Option (Int×Int×Int×(List ZnA))) (a:Int) (b:Int) (i:Int) (j:Int) (t34:Bool) (data:(List ZnA)):Option (Int×Int×Int×(List ZnA)):=
 bif t34 then (
  chk (inK .i64 (j - 1)) <|
  chk (inK .i64 (j - 1)) <|
  chk (inR (j - 1) (data.length:Int)) <|
  (data[((j - 1)).toNat]?).bind fun data_e=>
  chk (inR j (data.length:Int)) <|
  (data[(j).toNat]?).bind fun data_e_1=>
  chk (inR j (data.length:Int)) <|
  chk (inR (j - 1) ((data.set ((j).toNat) data_e).length:Int)) <|
  chk (inK .i64 (j - 1)) <|
  rec_ a b i (j - 1) ((data.set ((j).toNat) data_e).set (((j - 1)).toNat) data_e_1)
 )else (
  some (a,b,i,data)
 )
def Zsp (rec_:Int→Int→Int→Int→(List ZnA)→Option (Int×Int×Int×(List ZnA))) (a:Int) (b:Int) (i:Int) (j:Int) (data:(List ZnA)):Option (Int×Int×Int×(List ZnA)):=
 bif (decide (j > a))then (
  chk (inR j (data.length:Int)) <|
  (data[(j).toNat]?).bind fun data_e=>
  chk (inK .i64 (j - 1)) <|
  chk (inR (j - 1) (data.length:Int)) <|
  (data[((j - 1)).toNat]?).bind fun data_e_1=>
  (ZpY data_e data_e_1).bind fun q=>
  ZoE rec_ a b i j (decide (q < 0)) data
 )else (
  ZoE rec_ a b i j false data
 )
def Zn1:Nat→Int→Int→Int→Int→(List ZnA)→Option (Int×Int×Int×(List ZnA))
 |0,_,_,_,_,_=>none
 |n_+1,a,b,i,j,data=>Zsp (Zn1 n_) a b i j data
def Zsq (rec_:Int→Int→Int→(List ZnA)→Option (List ZnA)) (a:Int) (b:Int) (i:Int) (data:(List ZnA)):Option (List ZnA):=
 bif (decide (i < b))then (
  (Zn1 big a b i i data).bind fun(x0,x1,x2,x3)=>ZpR rec_ x0 x1 x2 x3
 )else (
  some data
 )
def Zn2:Nat→Int→Int→Int→(List ZnA)→Option (List ZnA)
 |0,_,_,_,_=>none
 |n_+1,a,b,i,data=>Zsq (Zn2 n_) a b i data
def Zqm (data:(List ZnA)) (a:Int) (b:Int):Option (List ZnA):=
 chk (inK .i64 (a+1)) <|
 (Zn2 big a b (a+1) data).bind fun x0=>ZpQ x0
def ZpX (data:(List ZnA)) (a:Int) (b:Int):Option (List ZnA):=
 (Zqm data a b).bind fun r=>chk (decide (r.length=data.length)&&true) (some r)
def Ztf (rec_:Int→Int→Int→Bool→Bool→(List ZnA)→Option (Out Unit (List ZnA))) (a:Int) (b:Int) (limit:Int) (wasBalanced:Bool) (wasPartitioned:Bool) (data:(List ZnA)):Option (Out Unit (List ZnA)):=
 chk (inK .i64 (b - a)) <|
 bif (decide ((b - a)≤12))then (
  (ZpX data a b).bind fun t26=>
  some (.ret t26)
 )else (
  bif (limit == 0)then (
   none
  )else (
   bif (!wasBalanced)then (
    none
   )else (
    none
   )
  )
 )
def Zo5:Nat→Int→Int→Int→Bool→Bool→(List ZnA)→Option (Out Unit (List ZnA))
 |0,_,_,_,_,_,_=>none
 |n_+1,a,b,limit,wasBalanced,wasPartitioned,data=>Ztf (Zo5 n_) a b limit wasBalanced wasPartitioned data
def Zrr (data:(List ZnA)) (a:Int) (b:Int) (limit:Int):Option (List ZnA):=
 (Zo5 big a b limit true true data).bind fun
  | .ret q_=>some q_
  | .brk _=>none
def Zq1 (data:(List ZnA)) (a:Int) (b:Int) (limit:Int):Option (List ZnA):=
 (Zrr data a b limit).bind fun r=>chk (decide (r.length=data.length)&&true) (some r)
def Zp8 (x_:(List ZnA)):Option (List ZnA):=
 (Zvs (IntKind.wrap .u64 (x_.length:Int))).bind fun q=>
 (Zq1 x_ 0 (x_.length:Int) q).bind fun t7=>
 some t7
def ZoF (x_:(List ZnA)):Option (List ZnA):=
 (Zp8 x_).bind fun r=>chk (decide (r.length=x_.length)&&true) (some r)
def ZtD (out:(List ZnA)):Option (List ZnA):=
 (ZoF out).bind fun t26=>
 some t26
def Zr6 (rec_:(List ZnS)→Int→Int→(List ZnA)→Option (List ZnA)) (t9:(List ZnS)) (t10:Int) (t11:Int) (out:(List ZnA)):Option (List ZnA):=
 chk (inK .i64 (t11+1)) <|
 rec_ t9 t10 (t11+1) out
def Zs5 (rec_:(List ZnS)→Int→Int→(List ZnA)→Option (List ZnA)) (t9:(List ZnS)) (t10:Int) (t11:Int) (out:(List ZnA)):Option (List ZnA):=
 bif (decide (t11 < t10))then (
  (idx t9 t11).bind fun x_=>
  (Zul x_).bind fun(v_,ok)=>
  bif ok then (
   chk (ZiZ (out.length+([v_]:(List ZnA)).length) 64) <|
   Zr6 rec_ t9 t10 t11 (out++([v_]:(List ZnA)))
  )else (
   Zr6 rec_ t9 t10 t11 out
  )
 )else (
  some out
 )
def ZqY:Nat→(List ZnS)→Int→Int→(List ZnA)→Option (List ZnA)
 |0,_,_,_,_=>none
 |n_+1,t9,t10,t11,out=>Zs5 (ZqY n_) t9 t10 t11 out
def Zuu (n:Nat) (s:((List ZnS)×Int×Int×(List ZnA))):Option (List ZnA):=ZqY n s.1 s.2.1 s.2.2.1 s.2.2.2
def Zuv (rec_:((List ZnS)×Int×Int×(List ZnA))→Option (List ZnA)) (s:((List ZnS)×Int×Int×(List ZnA))):Option (List ZnA):=Zs5 (fun t9 t10 t11 out=>rec_ (t9,t10,t11,out)) s.1 s.2.1 s.2.2.1 s.2.2.2
theorem ZvN:∀n s,Zuu (n+1) s=Zuv (Zuu n) s:=fun _ _=>rfl
def Zr7 (c:Zq0):Option (List ZnA):=
 (ZqY big c.Cells (c.Cells.length:Int) (0:Int) ([]:(List ZnA))).bind fun x0=>ZtD x0
def Zof (t0:Bool):Option Bool:=
 some t0
def ZoZ:Option Bool:=
 (ZnM 1).bind fun q=>
 (ZnM 2).bind fun q_1=>
 (ZnM 3).bind fun q_2=>
 (ZnM 4).bind fun q_3=>
 (Zoj ([q,q_1,q_2,q_3]:(List ZnA)) 1 2).bind fun(x_,e)=>
 chk (Zb9 0 2 (([q,q_1,q_2,q_3]:(List ZnA)).length:Int)) <|
 chk (Zb9 1 3 (([q,q_1,q_2,q_3]:(List ZnA)).length:Int)) <|
 (Zo6 ((([q,q_1,q_2,q_3]:(List ZnA)).drop 0).take (((2:Int)).toNat - 0)) ((([q,q_1,q_2,q_3]:(List ZnA)).drop (((1:Int)).toNat)).take (((3:Int)).toNat - ((1:Int)).toNat))).bind fun(d,f)=>
 bif (e == 0)then (
  bif (f == 0)then (
   (ZnM 2).bind fun q_4=>
   (Zn6 x_ q_4).bind fun q_5=>
   bif q_5 then (
    (ZnY 1 2).bind fun q_6=>
    (Zn6 d q_6).bind fun q_7=>
    bif q_7 then (
     (Zr7 (Zq0.mk ([]:Str) ([(ZnS.mk false ([51]:Str)),(ZnS.mk true ([]:Str)),(ZnS.mk false ([120]:Str))]:(List ZnS)))).bind fun q_8=>
     Zof ((q_8.length:Int) == 1)
    )else (
     Zof false
    )
   )else (
    Zof false
   )
  )else (
   Zof false
  )
 )else (
  Zof false
 )
def Zr4 (t:(List Int)):Option ZnB:=
 some (ZnB.mk t 0)
def Zom (n:Int) (m:Int):Option Int:=
 bif (decide (m < 1))then (
  some (0:Int)
 )else (
  chk (decide (m≠0)) <|
  chk (inK .i64 ((Int.tmod n m)+m)) <|
  chk (decide (m≠0)) <|
  some (Int.tmod ((Int.tmod n m)+m) m)
 )
def Zoq (d:ZnB) (n:Int):Option (Int×ZnB):=
 bif (decide (d.at_≥(d.l.length:Int)))then (
  some (0,d)
 )else (
  chk (inK .i64 (d.at_+1)) <|
  chk (inK .i64 ((d.at_+1) - 1)) <|
  (idx d.l ((d.at_+1) - 1)).bind fun l_e=>
  (Zom l_e n).bind fun q=>
  some (q,(ZnB.mk d.l (d.at_+1)))
 )
def ZpB (d:ZnB):Option (ZnA×ZnB):=
 (Zoq d 13).bind fun(q,t3)=>
 chk (inK .i64 (q - 4)) <|
 (Zoq t3 4).bind fun(q_1,t6)=>
 chk (inK .i64 (1+q_1)) <|
 (ZnY (q - 4) (1+q_1)).bind fun q_2=>
 some (q_2,t6)
def ZoD (t24:Bool) (f:ZnA):Option Bool:=
 bif t24 then (
  some false
 )else (
  bif ((f.Num.Words.length:Int) == 0)then (
   (Zn4 f.Den.Words ([1]:(List Int))).bind fun q=>
   some (q == 0)
  )else (
   (Zpn f.Num.Words f.Den.Words).bind fun q_1=>
   (Zn4 q_1 ([1]:(List Int))).bind fun q_2=>
   some (q_2 == 0)
  )
 )
def ZoY (f:ZnA):Option Bool:=
 (Zoe f.Num).bind fun q=>
 bif (!q)then (
  ZoD true f
 )else (
  (Zoe f.Den).bind fun q_1=>
  bif (!q_1)then (
   ZoD true f
  )else (
   bif f.Den.Neg then (
    ZoD true f
   )else (
    ZoD ((f.Den.Words.length:Int) == 0) f
   )
  )
 )
def Zsf (out:(List Int)):Option (List Int):=
 (ZnU out).bind fun q=>
 some q
def Zsg (rec_:(List Int)→(List Int)→Int→(List Int)→Option (List Int)) (a:(List Int)) (b:(List Int)) (i:Int) (c:Int) (out:(List Int)):Option (List Int):=
 chk (inK .i64 (i+(b.length:Int))) <|
 chk (inR (i+(b.length:Int)) (out.length:Int)) <|
 chk (inK .i64 (i+1)) <|
 rec_ a b (i+1) (out.set (((i+(b.length:Int))).toNat) (IntKind.wrap .u32 c))
def Zp1 (rec_:(List Int)→(List Int)→Int→Int→Int→(List Int)→Option ((List Int)×(List Int)×Int×Int×(List Int))) (a:(List Int)) (b:(List Int)) (i:Int) (c:Int) (j:Int) (out:(List Int)):Option ((List Int)×(List Int)×Int×Int×(List Int)):=
 bif (decide (j < (b.length:Int)))then (
  (idx a i).bind fun a_e=>
  (idx b j).bind fun b_e=>
  chk (inK .i64 (i+j)) <|
  chk (inR (i+j) (out.length:Int)) <|
  (out[((i+j)).toNat]?).bind fun out_e=>
  chk (inK .i64 (i+j)) <|
  chk (inR (i+j) (out.length:Int)) <|
  chk (decide (0≤(32:Int))) <|
  chk (inK .i64 (j+1)) <|
  rec_ a b i (shrK .u64 (IntKind.wrap .u64 (c+(IntKind.wrap .u64 ((IntKind.wrap .u64 ((IntKind.wrap .u64 a_e)*(IntKind.wrap .u64 b_e)))+(IntKind.wrap .u64 out_e))))) 32) (j+1) (out.set (((i+j)).toNat) (IntKind.wrap .u32 (IntKind.wrap .u64 (c+(IntKind.wrap .u64 ((IntKind.wrap .u64 ((IntKind.wrap .u64 a_e)*(IntKind.wrap .u64 b_e)))+(IntKind.wrap .u64 out_e)))))))
 )else (
  some (a,b,i,c,out)
 )
def ZqL:Nat→(List Int)→(List Int)→Int→Int→Int→(List Int)→Option ((List Int)×(List Int)×Int×Int×(List Int))
 |0,_,_,_,_,_,_=>none
 |n_+1,a,b,i,c,j,out=>Zp1 (ZqL n_) a b i c j out
def Zty (n:Nat) (s:((List Int)×(List Int)×Int×Int×Int×(List Int))):Option ((List Int)×(List Int)×Int×Int×(List Int)):=ZqL n s.1 s.2.1 s.2.2.1 s.2.2.2.1 s.2.2.2.2.1 s.2.2.2.2.2
def Zrw (rec_:((List Int)×(List Int)×Int×Int×Int×(List Int))→Option ((List Int)×(List Int)×Int×Int×(List Int))) (s:((List Int)×(List Int)×Int×Int×Int×(List Int))):Option ((List Int)×(List Int)×Int×Int×(List Int)):=Zp1 (fun a b i c j out=>rec_ (a,b,i,c,j,out)) s.1 s.2.1 s.2.2.1 s.2.2.2.1 s.2.2.2.2.1 s.2.2.2.2.2
theorem Zvc:∀n s,Zty (n+1) s=Zrw (Zty n) s:=fun _ _=>rfl
def Zp2 (rec_:(List Int)→(List Int)→Int→(List Int)→Option (List Int)) (a:(List Int)) (b:(List Int)) (i:Int) (out:(List Int)):Option (List Int):=
 bif (decide (i < (a.length:Int)))then (
  (ZqL big a b i (0:Int) (0:Int) out).bind fun(x0,x1,x2,x3,x4)=>Zsg rec_ x0 x1 x2 x3 x4
 )else (
  some out
 )
def Zpv:Nat→(List Int)→(List Int)→Int→(List Int)→Option (List Int)
 |0,_,_,_,_=>none
 |n_+1,a,b,i,out=>Zp2 (Zpv n_) a b i out
def Ztz (n:Nat) (s:((List Int)×(List Int)×Int×(List Int))):Option (List Int):=Zpv n s.1 s.2.1 s.2.2.1 s.2.2.2
def Zrx (rec_:((List Int)×(List Int)×Int×(List Int))→Option (List Int)) (s:((List Int)×(List Int)×Int×(List Int))):Option (List Int):=Zp2 (fun a b i out=>rec_ (a,b,i,out)) s.1 s.2.1 s.2.2.1 s.2.2.2
theorem Zvd:∀n s,Ztz (n+1) s=Zrx (Ztz n) s:=fun _ _=>rfl
def Zqw (a:(List Int)) (b:(List Int)):Option (List Int):=
 chk (inK .i64 ((a.length:Int)+(b.length:Int))) <|
 chk (mkOk ((a.length:Int)+(b.length:Int)) ((a.length:Int)+(b.length:Int)) 4) <|
 (Zpv big a b (0:Int) (List.replicate (((a.length:Int)+(b.length:Int))).toNat (0:Int))).bind fun x0=>Zsf x0
def Zok (a:ZnE) (b:ZnE):Option ZnE:=
 (Zqw a.Words b.Words).bind fun q=>
 (ZnO (!(a.Neg == b.Neg)) q).bind fun q_1=>
 some q_1
def ZpP (a:ZnE):Option ZnE:=
 (ZnO (!a.Neg) a.Words).bind fun q=>
 some q
def Zso (c:Int) (out:(List Int)):Option (List Int):=
 chk (ZiZ (out.length+([(IntKind.wrap .u32 c)]:(List Int)).length) 4) <|
 some (out++([(IntKind.wrap .u32 c)]:(List Int)))
def Zpz (rec_:(List Int)→(List Int)→Int→Int→(List Int)→Option (Int×(List Int))) (a:(List Int)) (b:(List Int)) (c:Int) (i:Int) (out:(List Int)):Option (Int×(List Int)):=
 chk (ZiZ (out.length+([(IntKind.wrap .u32 c)]:(List Int)).length) 4) <|
 chk (decide (0≤(32:Int))) <|
 chk (inK .i64 (i+1)) <|
 rec_ a b (shrK .u64 c 32) (i+1) (out++([(IntKind.wrap .u32 c)]:(List Int)))
def ZpA (rec_:(List Int)→(List Int)→Int→Int→(List Int)→Option (Int×(List Int))) (a:(List Int)) (b:(List Int)) (c:Int) (i:Int) (out:(List Int)):Option (Int×(List Int)):=
 bif (decide (i < (b.length:Int)))then (
  (idx b i).bind fun b_e=>
  Zpz rec_ a b (IntKind.wrap .u64 (c+(IntKind.wrap .u64 b_e))) i out
 )else (
  Zpz rec_ a b c i out
 )
def ZoR (rec_:(List Int)→(List Int)→Int→Int→(List Int)→Option (Int×(List Int))) (a:(List Int)) (b:(List Int)) (c:Int) (i:Int) (t17:Bool) (out:(List Int)):Option (Int×(List Int)):=
 bif t17 then (
  bif (decide (i < (a.length:Int)))then (
   (idx a i).bind fun a_e=>
   ZpA rec_ a b (IntKind.wrap .u64 (c+(IntKind.wrap .u64 a_e))) i out
  )else (
   ZpA rec_ a b c i out
  )
 )else (
  some (c,out)
 )
def Zp5 (rec_:(List Int)→(List Int)→Int→Int→(List Int)→Option (Int×(List Int))) (a:(List Int)) (b:(List Int)) (c:Int) (i:Int) (out:(List Int)):Option (Int×(List Int)):=
 bif (decide (i < (a.length:Int)))then (
  ZoR rec_ a b c i true out
 )else (
  ZoR rec_ a b c i (decide (i < (b.length:Int))) out
 )
def Zou:Nat→(List Int)→(List Int)→Int→Int→(List Int)→Option (Int×(List Int))
 |0,_,_,_,_,_=>none
 |n_+1,a,b,c,i,out=>Zp5 (Zou n_) a b c i out
def ZtC (n:Nat) (s:((List Int)×(List Int)×Int×Int×(List Int))):Option (Int×(List Int)):=Zou n s.1 s.2.1 s.2.2.1 s.2.2.2.1 s.2.2.2.2
def ZrC (rec_:((List Int)×(List Int)×Int×Int×(List Int))→Option (Int×(List Int))) (s:((List Int)×(List Int)×Int×Int×(List Int))):Option (Int×(List Int)):=Zp5 (fun a b c i out=>rec_ (a,b,c,i,out)) s.1 s.2.1 s.2.2.1 s.2.2.2.1 s.2.2.2.2
theorem Zvg:∀n s,ZtC (n+1) s=ZrC (ZtC n) s:=fun _ _=>rfl
def Zpp (a:(List Int)) (b:(List Int)):Option (List Int):=
 (Zou big a b (0:Int) (0:Int) ([]:(List Int))).bind fun(x0,x1)=>Zso x0 x1
def Zp6 (a:ZnE) (b:ZnE):Option ZnE:=
 bif (a.Neg == b.Neg)then (
  (Zpp a.Words b.Words).bind fun q=>
  (ZnO a.Neg q).bind fun q_1=>
  some q_1
 )else (
  (Zn4 a.Words b.Words).bind fun q_2=>
  bif (decide (q_2≥0))then (
   (Zox a.Words b.Words).bind fun q_3=>
   (ZnO a.Neg q_3).bind fun q_4=>
   some q_4
  )else (
   (Zox b.Words a.Words).bind fun q_5=>
   (ZnO b.Neg q_5).bind fun q_6=>
   some q_6
  )
 )
def ZqQ (t13:Bool) (a:ZnA) (b:ZnA):Option Int:=
 bif t13 then (
  some (0:Int)
 )else (
  (Zok a.Num b.Den).bind fun q=>
  (Zok b.Num a.Den).bind fun q_1=>
  (ZpP q_1).bind fun q_2=>
  (Zp6 q q_2).bind fun x_=>
  bif ((x_.Words.length:Int) == 0)then (
   some (0:Int)
  )else (
   bif x_.Neg then (
    some (-1:Int)
   )else (
    some (1:Int)
   )
  )
 )
def Zpq (a:ZnA) (b:ZnA):Option Int:=
 (ZoY a).bind fun q=>
 bif (!q)then (
  ZqQ true a b
 )else (
  (ZoY b).bind fun q_1=>
  ZqQ (!q_1) a b
 )
def ZoK (a:ZnA) (b:ZnA):Option Bool:=
 (Zpq a b).bind fun q=>
 some (decide (q < 0))
def Zq6 (d:ZnB) (l:(List ZnA)):Option ((List ZnA)×ZnB):=
 some (l,d)
def Zq7 (rec_:Int→ZnB→(List ZnA)→Option (ZnB×(List ZnA))) (k:Int) (i:Int) (d:ZnB) (l:(List ZnA)) (f:ZnA):Option (ZnB×(List ZnA)):=
 chk (Zb9 0 i (l.length:Int)) <|
 chk (ZiZ ((l.drop 0).take ((i).toNat - 0)).length 64) <|
 chk (ZiZ (((l.drop 0).take ((i).toNat - 0)).length+([f]:(List ZnA)).length) 64) <|
 chk (Zb9 i (l.length:Int) (l.length:Int)) <|
 chk (ZiZ ((((l.drop 0).take ((i).toNat - 0))++([f]:(List ZnA))).length+((l.drop ((i).toNat)).take ((l.length:Int).toNat - (i).toNat)).length) 64) <|
 chk (inK .i64 (k - 1)) <|
 rec_ (k - 1) d ((((l.drop 0).take ((i).toNat - 0))++([f]:(List ZnA)))++((l.drop ((i).toNat)).take ((l.length:Int).toNat - (i).toNat)))
def ZpH (rec_:Int→Int→ZnB→(List ZnA)→ZnA→Option (Int×Int×ZnB×(List ZnA)×ZnA)) (k:Int) (i:Int) (t31:Bool) (d:ZnB) (l:(List ZnA)) (f:ZnA):Option (Int×Int×ZnB×(List ZnA)×ZnA):=
 bif t31 then (
  chk (inK .i64 (i - 1)) <|
  rec_ k (i - 1) d l f
 )else (
  some (k,i,d,l,f)
 )
def ZqC (rec_:Int→Int→ZnB→(List ZnA)→ZnA→Option (Int×Int×ZnB×(List ZnA)×ZnA)) (k:Int) (i:Int) (d:ZnB) (l:(List ZnA)) (f:ZnA):Option (Int×Int×ZnB×(List ZnA)×ZnA):=
 bif (decide (i > 0))then (
  chk (inK .i64 (i - 1)) <|
  chk (inR (i - 1) (l.length:Int)) <|
  (l[((i - 1)).toNat]?).bind fun l_e=>
  (ZoK f l_e).bind fun q=>
  ZpH rec_ k i q d l f
 )else (
  ZpH rec_ k i false d l f
 )
def Zos:Nat→Int→Int→ZnB→(List ZnA)→ZnA→Option (Int×Int×ZnB×(List ZnA)×ZnA)
 |0,_,_,_,_,_=>none
 |n_+1,k,i,d,l,f=>ZqC (Zos n_) k i d l f
def ZsK (n:Nat) (s:(Int×Int×ZnB×(List ZnA)×ZnA)):Option (Int×Int×ZnB×(List ZnA)×ZnA):=Zos n s.1 s.2.1 s.2.2.1 s.2.2.2.1 s.2.2.2.2
def ZsL (rec_:(Int×Int×ZnB×(List ZnA)×ZnA)→Option (Int×Int×ZnB×(List ZnA)×ZnA)) (s:(Int×Int×ZnB×(List ZnA)×ZnA)):Option (Int×Int×ZnB×(List ZnA)×ZnA):=ZqC (fun k i d l f=>rec_ (k,i,d,l,f)) s.1 s.2.1 s.2.2.1 s.2.2.2.1 s.2.2.2.2
theorem ZuC:∀n s,ZsK (n+1) s=ZsL (ZsK n) s:=fun _ _=>rfl
def ZqD (rec_:Int→ZnB→(List ZnA)→Option (ZnB×(List ZnA))) (k:Int) (d:ZnB) (l:(List ZnA)):Option (ZnB×(List ZnA)):=
 bif (decide (k > 0))then (
  (ZpB d).bind fun(f,t17)=>
  (Zos big k (l.length:Int) t17 l f).bind fun(x0,x1,x2,x3,x4)=>Zq7 rec_ x0 x1 x2 x3 x4
 )else (
  some (d,l)
 )
def ZoN:Nat→Int→ZnB→(List ZnA)→Option (ZnB×(List ZnA))
 |0,_,_,_=>none
 |n_+1,k,d,l=>ZqD (ZoN n_) k d l
def ZsM (n:Nat) (s:(Int×ZnB×(List ZnA))):Option (ZnB×(List ZnA)):=ZoN n s.1 s.2.1 s.2.2
def ZsN (rec_:(Int×ZnB×(List ZnA))→Option (ZnB×(List ZnA))) (s:(Int×ZnB×(List ZnA))):Option (ZnB×(List ZnA)):=ZqD (fun k d l=>rec_ (k,d,l)) s.1 s.2.1 s.2.2
theorem ZuD:∀n s,ZsM (n+1) s=ZsN (ZsM n) s:=fun _ _=>rfl
def ZoJ (d:ZnB) (most:Int):Option ((List ZnA)×ZnB):=
 chk (inK .i64 (most+1)) <|
 (Zoq d (most+1)).bind fun(k,t9)=>
 (ZoN big k t9 ([]:(List ZnA))).bind fun(x0,x1)=>Zq6 x0 x1
def Zt2 (l:(List ZnA)) (t6:Bool) (t6_1:Bool) (t6_2:(List Int)) (t6_3:(List Int)):Option (ZnA×Int):=
 chk (inK .i64 ((l.length:Int) - 1)) <|
 (idx l ((l.length:Int) - 1)).bind fun l_e=>
 some (l_e,0)
def Zri (rec_:(List ZnA)→Int→Int→(List ZnA)→Int→Int→Bool→Bool→(List Int)→(List Int)→Option (Out ((List ZnA)×Bool×Bool×(List Int)×(List Int)) (ZnA×Int))) (l:(List ZnA)) (p:Int) (q:Int) (t28:(List ZnA)) (t29:Int) (i:Int) (t6:Bool) (t6_1:Bool) (t6_2:(List Int)) (t6_3:(List Int)):Option (Out ((List ZnA)×Bool×Bool×(List Int)×(List Int)) (ZnA×Int)):=
 bif (decide (i < t29))then (
  (idx t28 i).bind fun x_=>
  chk (inK .i64 (i+1)) <|
  (ZnY (i+1) (l.length:Int)).bind fun q_1=>
  (ZnY p q).bind fun q_2=>
  (Zpq q_1 q_2).bind fun q_3=>
  bif (decide (q_3≥0))then (
   some (.ret (x_,0))
  )else (
   chk (inK .i64 (i+1)) <|
   rec_ l p q t28 t29 (i+1) t6 t6_1 t6_2 t6_3
  )
 )else (
  some (.brk (l,t6,t6_1,t6_2,t6_3))
 )
def Zqq:Nat→(List ZnA)→Int→Int→(List ZnA)→Int→Int→Bool→Bool→(List Int)→(List Int)→Option (Out ((List ZnA)×Bool×Bool×(List Int)×(List Int)) (ZnA×Int))
 |0,_,_,_,_,_,_,_,_,_,_=>none
 |n_+1,l,p,q,t28,t29,i,t6,t6_1,t6_2,t6_3=>Zri (Zqq n_) l p q t28 t29 i t6 t6_1 t6_2 t6_3
def Ztn (n:Nat) (s:((List ZnA)×Int×Int×(List ZnA)×Int×Int×Bool×Bool×(List Int)×(List Int))):Option (Out ((List ZnA)×Bool×Bool×(List Int)×(List Int)) (ZnA×Int)):=Zqq n s.1 s.2.1 s.2.2.1 s.2.2.2.1 s.2.2.2.2.1 s.2.2.2.2.2.1 s.2.2.2.2.2.2.1 s.2.2.2.2.2.2.2.1 s.2.2.2.2.2.2.2.2.1 s.2.2.2.2.2.2.2.2.2
def Zto (rec_:((List ZnA)×Int×Int×(List ZnA)×Int×Int×Bool×Bool×(List Int)×(List Int))→Option (Out ((List ZnA)×Bool×Bool×(List Int)×(List Int)) (ZnA×Int))) (s:((List ZnA)×Int×Int×(List ZnA)×Int×Int×Bool×Bool×(List Int)×(List Int))):Option (Out ((List ZnA)×Bool×Bool×(List Int)×(List Int)) (ZnA×Int)):=Zri (fun l p q t28 t29 i t6 t6_1 t6_2 t6_3=>rec_ (l,p,q,t28,t29,i,t6,t6_1,t6_2,t6_3)) s.1 s.2.1 s.2.2.1 s.2.2.2.1 s.2.2.2.2.1 s.2.2.2.2.2.1 s.2.2.2.2.2.2.1 s.2.2.2.2.2.2.2.1 s.2.2.2.2.2.2.2.2.1 s.2.2.2.2.2.2.2.2.2
theorem Zu2:∀n s,Ztn (n+1) s=Zto (Ztn n) s:=fun _ _=>rfl
def Zon (l:(List ZnA)) (p:Int) (q:Int) (t10:Bool) (t6:Bool) (t6_1:Bool) (t6_2:(List Int)) (t6_3:(List Int)):Option (ZnA×Int):=
 bif t10 then (
  some ((ZnA.mk (ZnE.mk false ([]:(List Int))) (ZnE.mk false ([]:(List Int)))),2)
 )else (
  bif ((l.length:Int) == 0)then (
   some ((ZnA.mk (ZnE.mk false ([]:(List Int))) (ZnE.mk false ([]:(List Int)))),5)
  )else (
   (Zqq big l p q l (l.length:Int) (0:Int) t6 t6_1 t6_2 t6_3).bind fun
    | .ret q_=>some q_
    | .brk (x0,x1,x2,x3,x4)=>Zt2 x0 x1 x2 x3 x4
  )
 )
def ZnX (l:(List ZnA)) (p:Int) (q:Int):Option (ZnA×Int):=
 bif (decide (q < 1))then (
  Zon l p q true false false ([]:(List Int)) ([]:(List Int))
 )else (
  bif (decide (p < 0))then (
   Zon l p q true false false ([]:(List Int)) ([]:(List Int))
  )else (
   Zon l p q (decide (p > q)) false false ([]:(List Int)) ([]:(List Int))
  )
 )
def ZnL (t6:Int) (t7:Bool):Option (Int×Bool):=
 some (t6,t7)
def ZnR (x_:(List ZnA)) (n:Int) (i:Int) (target:ZnA):Option (Int×Bool):=
 bif (decide (i < n))then (
  (idx x_ i).bind fun x__e=>
  (ZpY x__e target).bind fun q=>
  ZnL i (q == 0)
 )else (
  ZnL i false
 )
def ZnQ (rec_:(List ZnA)→Int→Int→Int→ZnA→Option ((List ZnA)×Int×Int×ZnA)) (x_:(List ZnA)) (n:Int) (i:Int) (j:Int) (target:ZnA):Option ((List ZnA)×Int×Int×ZnA):=
 bif (decide (i < j))then (
  chk (inK .i64 (i+j)) <|
  chk (decide (0≤(1:Int))) <|
  (idx x_ (IntKind.wrap .i64 (shrK .u64 (IntKind.wrap .u64 (i+j)) 1))).bind fun x__e=>
  (ZpY x__e target).bind fun q=>
  bif (decide (q < 0))then (
   chk (inK .i64 ((IntKind.wrap .i64 (shrK .u64 (IntKind.wrap .u64 (i+j)) 1))+1)) <|
   rec_ x_ n ((IntKind.wrap .i64 (shrK .u64 (IntKind.wrap .u64 (i+j)) 1))+1) j target
  )else (
   rec_ x_ n i (IntKind.wrap .i64 (shrK .u64 (IntKind.wrap .u64 (i+j)) 1)) target
  )
 )else (
  some (x_,n,i,target)
 )
def ZnK:Nat→(List ZnA)→Int→Int→Int→ZnA→Option ((List ZnA)×Int×Int×ZnA)
 |0,_,_,_,_,_=>none
 |n_+1,x_,n,i,j,target=>ZnQ (ZnK n_) x_ n i j target
def Zob (n:Nat) (s:((List ZnA)×Int×Int×Int×ZnA)):Option ((List ZnA)×Int×Int×ZnA):=ZnK n s.1 s.2.1 s.2.2.1 s.2.2.2.1 s.2.2.2.2
def Zoc (rec_:((List ZnA)×Int×Int×Int×ZnA)→Option ((List ZnA)×Int×Int×ZnA)) (s:((List ZnA)×Int×Int×Int×ZnA)):Option ((List ZnA)×Int×Int×ZnA):=ZnQ (fun x_ n i j target=>rec_ (x_,n,i,j,target)) s.1 s.2.1 s.2.2.1 s.2.2.2.1 s.2.2.2.2
theorem Zpm:∀n s,Zob (n+1) s=Zoc (Zob n) s:=fun _ _=>rfl
def ZnJ (x_:(List ZnA)) (target:ZnA):Option (Int×Bool):=
 (ZnK big x_ (x_.length:Int) (0:Int) (x_.length:Int) target).bind fun(x0,x1,x2,x3)=>ZnR x0 x1 x2 x3
def Zt9 (out:(List Int)):Option ((List Int)×Int):=
 some (out,0)
def Zrf (rec_:(List ZnA)→(List ZnA)→Int→Int→(List Int)→Option (List Int)) (bounds:(List ZnA)) (k:Int) (t36:(List ZnA)) (t37:Int) (t38:Int) (out:(List Int)):Option (List Int):=
 chk (inR k (out.length:Int)) <|
 (out[(k).toNat]?).bind fun out_e=>
 chk (inK .i64 (out_e+1)) <|
 chk (inR k (out.length:Int)) <|
 chk (inK .i64 (t38+1)) <|
 rec_ bounds t36 t37 (t38+1) (out.set ((k).toNat) (out_e+1))
def ZrP (rec_:(List ZnA)→(List ZnA)→Int→Int→(List Int)→Option (List Int)) (bounds:(List ZnA)) (t36:(List ZnA)) (t37:Int) (t38:Int) (out:(List Int)):Option (List Int):=
 bif (decide (t38 < t37))then (
  (idx t36 t38).bind fun x_=>
  (ZnJ bounds x_).bind fun(k,ok)=>
  bif ok then (
   chk (inK .i64 (k+1)) <|
   Zrf rec_ bounds (k+1) t36 t37 t38 out
  )else (
   Zrf rec_ bounds k t36 t37 t38 out
  )
 )else (
  some out
 )
def Zre:Nat→(List ZnA)→(List ZnA)→Int→Int→(List Int)→Option (List Int)
 |0,_,_,_,_,_=>none
 |n_+1,bounds,t36,t37,t38,out=>ZrP (Zre n_) bounds t36 t37 t38 out
def ZuE (n:Nat) (s:((List ZnA)×(List ZnA)×Int×Int×(List Int))):Option (List Int):=Zre n s.1 s.2.1 s.2.2.1 s.2.2.2.1 s.2.2.2.2
def Zth (rec_:((List ZnA)×(List ZnA)×Int×Int×(List Int))→Option (List Int)) (s:((List ZnA)×(List ZnA)×Int×Int×(List Int))):Option (List Int):=ZrP (fun bounds t36 t37 t38 out=>rec_ (bounds,t36,t37,t38,out)) s.1 s.2.1 s.2.2.1 s.2.2.2.1 s.2.2.2.2
theorem ZvT:∀n s,ZuE (n+1) s=Zth (ZuE n) s:=fun _ _=>rfl
def Zua (l:(List ZnA)) (bounds:(List ZnA)):Option ((List Int)×Int):=
 chk (inK .i64 ((bounds.length:Int)+1)) <|
 chk (mkOk ((bounds.length:Int)+1) ((bounds.length:Int)+1) 8) <|
 (Zre big bounds l (l.length:Int) (0:Int) (List.replicate (((bounds.length:Int)+1)).toNat (0:Int))).bind fun x0=>Zt9 x0
def ZrQ (rec_:(List ZnA)→(List ZnA)→Int→Option (Out ((List ZnA)×(List ZnA)) ((List Int)×Int))) (l:(List ZnA)) (bounds:(List ZnA)) (i:Int):Option (Out ((List ZnA)×(List ZnA)) ((List Int)×Int)):=
 bif (decide (i < (bounds.length:Int)))then (
  chk (inK .i64 (i - 1)) <|
  (idx bounds (i - 1)).bind fun bound=>
  (idx bounds i).bind fun bound_1=>
  (ZpY bound bound_1).bind fun q=>
  bif (decide (q≥0))then (
   some (.ret (([]:(List Int)),2))
  )else (
   chk (inK .i64 (i+1)) <|
   rec_ l bounds (i+1)
  )
 )else (
  some (.brk (l,bounds))
 )
def Zph:Nat→(List ZnA)→(List ZnA)→Int→Option (Out ((List ZnA)×(List ZnA)) ((List Int)×Int))
 |0,_,_,_=>none
 |n_+1,l,bounds,i=>ZrQ (Zph n_) l bounds i
def ZuF (n:Nat) (s:((List ZnA)×(List ZnA)×Int)):Option (Out ((List ZnA)×(List ZnA)) ((List Int)×Int)):=Zph n s.1 s.2.1 s.2.2
def Zti (rec_:((List ZnA)×(List ZnA)×Int)→Option (Out ((List ZnA)×(List ZnA)) ((List Int)×Int))) (s:((List ZnA)×(List ZnA)×Int)):Option (Out ((List ZnA)×(List ZnA)) ((List Int)×Int)):=ZrQ (fun l bounds i=>rec_ (l,bounds,i)) s.1 s.2.1 s.2.2
theorem Zuw:∀n s,ZuF (n+1) s=Zti (ZuF n) s:=fun _ _=>rfl
def ZoS (l:(List ZnA)) (bounds:(List ZnA)):Option ((List Int)×Int):=
 bif (decide ((bounds.length:Int) > 64))then (
  some (([]:(List Int)),3)
 )else (
  (Zph big l bounds (1:Int)).bind fun
   | .ret q_=>some q_
   | .brk (x0,x1)=>Zua x0 x1
 )
def Zrj (out:(List Int)):Option ((List Int)×Int):=
 some (out,0)
def Zrk (rec_:(List ZnA)→(List ZnA)→Int→Int→(List Int)→Option (List Int)) (bounds:(List ZnA)) (i:Int) (t35:(List ZnA)) (t36:Int) (t37:Int) (out:(List Int)):Option (List Int):=
 chk (inR i (out.length:Int)) <|
 (out[(i).toNat]?).bind fun out_e=>
 chk (inK .i64 (out_e+1)) <|
 chk (inR i (out.length:Int)) <|
 chk (inK .i64 (t37+1)) <|
 rec_ bounds t35 t36 (t37+1) (out.set ((i).toNat) (out_e+1))
def ZpV (rec_:(List ZnA)→Int→(List ZnA)→Int→Int→(List Int)→ZnA→Option ((List ZnA)×Int×(List ZnA)×Int×Int×(List Int))) (bounds:(List ZnA)) (i:Int) (t35:(List ZnA)) (t36:Int) (t37:Int) (t53:Bool) (out:(List Int)) (x_:ZnA):Option ((List ZnA)×Int×(List ZnA)×Int×Int×(List Int)):=
 bif t53 then (
  chk (inK .i64 (i+1)) <|
  rec_ bounds (i+1) t35 t36 t37 out x_
 )else (
  some (bounds,i,t35,t36,t37,out)
 )
def ZqU (rec_:(List ZnA)→Int→(List ZnA)→Int→Int→(List Int)→ZnA→Option ((List ZnA)×Int×(List ZnA)×Int×Int×(List Int))) (bounds:(List ZnA)) (i:Int) (t35:(List ZnA)) (t36:Int) (t37:Int) (out:(List Int)) (x_:ZnA):Option ((List ZnA)×Int×(List ZnA)×Int×Int×(List Int)):=
 bif (decide (i < (bounds.length:Int)))then (
  (idx bounds i).bind fun bound=>
  (ZoK x_ bound).bind fun q=>
  ZpV rec_ bounds i t35 t36 t37 (!q) out x_
 )else (
  ZpV rec_ bounds i t35 t36 t37 false out x_
 )
def Zov:Nat→(List ZnA)→Int→(List ZnA)→Int→Int→(List Int)→ZnA→Option ((List ZnA)×Int×(List ZnA)×Int×Int×(List Int))
 |0,_,_,_,_,_,_,_=>none
 |n_+1,bounds,i,t35,t36,t37,out,x_=>ZqU (Zov n_) bounds i t35 t36 t37 out x_
def Zs1 (n:Nat) (s:((List ZnA)×Int×(List ZnA)×Int×Int×(List Int)×ZnA)):Option ((List ZnA)×Int×(List ZnA)×Int×Int×(List Int)):=Zov n s.1 s.2.1 s.2.2.1 s.2.2.2.1 s.2.2.2.2.1 s.2.2.2.2.2.1 s.2.2.2.2.2.2
def Zs2 (rec_:((List ZnA)×Int×(List ZnA)×Int×Int×(List Int)×ZnA)→Option ((List ZnA)×Int×(List ZnA)×Int×Int×(List Int))) (s:((List ZnA)×Int×(List ZnA)×Int×Int×(List Int)×ZnA)):Option ((List ZnA)×Int×(List ZnA)×Int×Int×(List Int)):=ZqU (fun bounds i t35 t36 t37 out x_=>rec_ (bounds,i,t35,t36,t37,out,x_)) s.1 s.2.1 s.2.2.1 s.2.2.2.1 s.2.2.2.2.1 s.2.2.2.2.2.1 s.2.2.2.2.2.2
theorem ZuK:∀n s,Zs1 (n+1) s=Zs2 (Zs1 n) s:=fun _ _=>rfl
def Zpi (rec_:(List ZnA)→(List ZnA)→Int→Int→(List Int)→Option (List Int)) (bounds:(List ZnA)) (t35:(List ZnA)) (t36:Int) (t37:Int) (out:(List Int)):Option (List Int):=
 bif (decide (t37 < t36))then (
  (idx t35 t37).bind fun x_=>
  (Zov big bounds (0:Int) t35 t36 t37 out x_).bind fun(x0,x1,x2,x3,x4,x5)=>Zrk rec_ x0 x1 x2 x3 x4 x5
 )else (
  some out
 )
def ZoV:Nat→(List ZnA)→(List ZnA)→Int→Int→(List Int)→Option (List Int)
 |0,_,_,_,_,_=>none
 |n_+1,bounds,t35,t36,t37,out=>Zpi (ZoV n_) bounds t35 t36 t37 out
def Zs3 (n:Nat) (s:((List ZnA)×(List ZnA)×Int×Int×(List Int))):Option (List Int):=ZoV n s.1 s.2.1 s.2.2.1 s.2.2.2.1 s.2.2.2.2
def ZqV (rec_:((List ZnA)×(List ZnA)×Int×Int×(List Int))→Option (List Int)) (s:((List ZnA)×(List ZnA)×Int×Int×(List Int))):Option (List Int):=Zpi (fun bounds t35 t36 t37 out=>rec_ (bounds,t35,t36,t37,out)) s.1 s.2.1 s.2.2.1 s.2.2.2.1 s.2.2.2.2
theorem ZuL:∀n s,Zs3 (n+1) s=ZqV (Zs3 n) s:=fun _ _=>rfl
def Zrl (l:(List ZnA)) (bounds:(List ZnA)):Option ((List Int)×Int):=
 chk (inK .i64 ((bounds.length:Int)+1)) <|
 chk (mkOk ((bounds.length:Int)+1) ((bounds.length:Int)+1) 8) <|
 (ZoV big bounds l (l.length:Int) (0:Int) (List.replicate (((bounds.length:Int)+1)).toNat (0:Int))).bind fun x0=>Zrj x0
def Zpj (rec_:(List ZnA)→(List ZnA)→Int→Option (Out ((List ZnA)×(List ZnA)) ((List Int)×Int))) (l:(List ZnA)) (bounds:(List ZnA)) (i:Int):Option (Out ((List ZnA)×(List ZnA)) ((List Int)×Int)):=
 bif (decide (i < (bounds.length:Int)))then (
  chk (inK .i64 (i - 1)) <|
  (idx bounds (i - 1)).bind fun bound=>
  (idx bounds i).bind fun bound_1=>
  (ZoK bound bound_1).bind fun q=>
  bif (!q)then (
   some (.ret (([]:(List Int)),2))
  )else (
   chk (inK .i64 (i+1)) <|
   rec_ l bounds (i+1)
  )
 )else (
  some (.brk (l,bounds))
 )
def Zow:Nat→(List ZnA)→(List ZnA)→Int→Option (Out ((List ZnA)×(List ZnA)) ((List Int)×Int))
 |0,_,_,_=>none
 |n_+1,l,bounds,i=>Zpj (Zow n_) l bounds i
def Zs4 (n:Nat) (s:((List ZnA)×(List ZnA)×Int)):Option (Out ((List ZnA)×(List ZnA)) ((List Int)×Int)):=Zow n s.1 s.2.1 s.2.2
def ZqW (rec_:((List ZnA)×(List ZnA)×Int)→Option (Out ((List ZnA)×(List ZnA)) ((List Int)×Int))) (s:((List ZnA)×(List ZnA)×Int)):Option (Out ((List ZnA)×(List ZnA)) ((List Int)×Int)):=Zpj (fun l bounds i=>rec_ (l,bounds,i)) s.1 s.2.1 s.2.2
theorem ZsJ:∀n s,Zs4 (n+1) s=ZqW (Zs4 n) s:=fun _ _=>rfl
def Zn7 (l:(List ZnA)) (bounds:(List ZnA)):Option ((List Int)×Int):=
 bif (decide ((bounds.length:Int) > 64))then (
  some (([]:(List Int)),3)
 )else (
  (Zow big l bounds (1:Int)).bind fun
   | .ret q_=>some q_
   | .brk (x0,x1)=>Zrl x0 x1
 )
def ZpK:Option Bool:=
 (ZoZ).bind fun q=>
 some q
def ZoA (rec_:Int→Int→(List Int)→(List Int)→Option (Out Unit Bool)) (t121:Int) (i:Int) (b:(List Int)) (t120:(List Int)):Option (Out Unit Bool):=
 bif (decide (i < t121))then (
  chk (inR i (t120.length:Int)) <|
  (t120[(i).toNat]?).bind fun x_=>
  chk (inR i (b.length:Int)) <|
  (b[(i).toNat]?).bind fun b_e=>
  bif (b_e != x_)then (
   some (.ret false)
  )else (
   chk (inK .i64 (i+1)) <|
   rec_ t121 (i+1) b t120
  )
 )else (
  some (.brk ())
 )
def Zog:Nat→Int→Int→(List Int)→(List Int)→Option (Out Unit Bool)
 |0,_,_,_,_=>none
 |n_+1,t121,i,b,t120=>ZoA (Zog n_) t121 i b t120
def Zrb (n:Nat) (s:(Int×Int×(List Int)×(List Int))):Option (Out Unit Bool):=Zog n s.1 s.2.1 s.2.2.1 s.2.2.2
def Zpe (rec_:(Int×Int×(List Int)×(List Int))→Option (Out Unit Bool)) (s:(Int×Int×(List Int)×(List Int))):Option (Out Unit Bool):=ZoA (fun t121 i b t120=>rec_ (t121,i,b,t120)) s.1 s.2.1 s.2.2.1 s.2.2.2
theorem ZtV:∀n s,Zrb (n+1) s=Zpe (Zrb n) s:=fun _ _=>rfl
def ZoL (t119:Bool) (a:(List Int)) (b:(List Int)):Option Bool:=
 bif t119 then (
  some false
 )else (
  (Zog big (a.length:Int) (0:Int) b a).bind fun
   | .ret q_=>some q_
   | .brk ()=>ZpK
 )
def Zoi (l:(List ZnA)) (bounds:(List ZnA)) (e:Int) (a:(List Int)):Option Bool:=
 (Zn7 l bounds).bind fun(b,f)=>
 bif ((a.length:Int) != (b.length:Int))then (
  ZoL true a b
 )else (
  ZoL (e != f) a b
 )
def ZpL (l:(List ZnA)) (bounds:(List ZnA)):Option Bool:=
 (ZoS l bounds).bind fun(a,e)=>
 Zoi l bounds e a
def ZoB (rec_:(List ZnA)→Int→Int→(List ZnA)→Option ((List ZnA)×(List ZnA))) (l:(List ZnA)) (t88:Int) (i:Int) (bounds:(List ZnA)):Option ((List ZnA)×(List ZnA)):=
 bif (decide (i < t88))then (
  (ZnM i).bind fun q=>
  chk (ZiZ (bounds.length+([q]:(List ZnA)).length) 64) <|
  chk (inK .i64 (i+1)) <|
  rec_ l t88 (i+1) (bounds++([q]:(List ZnA)))
 )else (
  some (l,bounds)
 )
def Zoh:Nat→(List ZnA)→Int→Int→(List ZnA)→Option ((List ZnA)×(List ZnA))
 |0,_,_,_,_=>none
 |n_+1,l,t88,i,bounds=>ZoB (Zoh n_) l t88 i bounds
def Zrc (n:Nat) (s:((List ZnA)×Int×Int×(List ZnA))):Option ((List ZnA)×(List ZnA)):=Zoh n s.1 s.2.1 s.2.2.1 s.2.2.2
def Zpf (rec_:((List ZnA)×Int×Int×(List ZnA))→Option ((List ZnA)×(List ZnA))) (s:((List ZnA)×Int×Int×(List ZnA))):Option ((List ZnA)×(List ZnA)):=ZoB (fun l t88 i bounds=>rec_ (l,t88,i,bounds)) s.1 s.2.1 s.2.2.1 s.2.2.2
theorem ZtW:∀n s,Zrc (n+1) s=Zpf (Zrc n) s:=fun _ _=>rfl
def ZpM (n:Int) (l:(List ZnA)) (bounds:(List ZnA)):Option Bool:=
 (Zom n 6).bind fun q=>
 bif (q == 0)then (
  chk (decide ((6:Int)≠0)) <|
  chk (inK .i64 (Int.tdiv n 6)) <|
  (Zom (Int.tdiv n 6) 2).bind fun q_1=>
  chk (inK .i64 (64+q_1)) <|
  (Zoh big l (64+q_1) (0:Int) ([]:(List ZnA))).bind fun(x0,x1)=>ZpL x0 x1
 )else (
  (ZoS l bounds).bind fun(a,e)=>
  Zoi l bounds e a
 )
def ZoM (rec_:Int→(List ZnA)→Int→Int→(List ZnA)→(List Zod)→Option (Out (Int×(List ZnA)×(List ZnA)) Bool)) (n:Int) (l:(List ZnA)) (t49:Int) (t50:Int) (t80:Bool) (bounds:(List ZnA)) (t48:(List Zod)):Option (Out (Int×(List ZnA)×(List ZnA)) Bool):=
 bif t80 then (
  some (.ret false)
 )else (
  chk (inK .i64 (t50+1)) <|
  rec_ n l t49 (t50+1) bounds t48
 )
def ZoC (rec_:Int→(List ZnA)→Int→Int→(List ZnA)→(List Zod)→Option (Out (Int×(List ZnA)×(List ZnA)) Bool)) (n:Int) (l:(List ZnA)) (t49:Int) (t50:Int) (bounds:(List ZnA)) (t48:(List Zod)):Option (Out (Int×(List ZnA)×(List ZnA)) Bool):=
 bif (decide (t50 < t49))then (
  chk (inR t50 (t48.length:Int)) <|
  (t48[(t50).toNat]?).bind fun x_=>
  chk (inR 0 2) <|
  chk (inR 1 2) <|
  (Zoj l x_.e0 x_.e1).bind fun(a,e)=>
  chk (inR 0 2) <|
  chk (inR 1 2) <|
  (ZnX l x_.e0 x_.e1).bind fun(b,f)=>
  (Zn6 a b).bind fun q=>
  bif (!q)then (
   ZoM rec_ n l t49 t50 true bounds t48
  )else (
   ZoM rec_ n l t49 t50 (e != f) bounds t48
  )
 )else (
  some (.brk (n,l,bounds))
 )
def ZnW:Nat→Int→(List ZnA)→Int→Int→(List ZnA)→(List Zod)→Option (Out (Int×(List ZnA)×(List ZnA)) Bool)
 |0,_,_,_,_,_,_=>none
 |n_+1,n,l,t49,t50,bounds,t48=>ZoC (ZnW n_) n l t49 t50 bounds t48
def Zrd (n:Nat) (s:(Int×(List ZnA)×Int×Int×(List ZnA)×(List Zod))):Option (Out (Int×(List ZnA)×(List ZnA)) Bool):=ZnW n s.1 s.2.1 s.2.2.1 s.2.2.2.1 s.2.2.2.2.1 s.2.2.2.2.2
def Zpg (rec_:(Int×(List ZnA)×Int×Int×(List ZnA)×(List Zod))→Option (Out (Int×(List ZnA)×(List ZnA)) Bool)) (s:(Int×(List ZnA)×Int×Int×(List ZnA)×(List Zod))):Option (Out (Int×(List ZnA)×(List ZnA)) Bool):=ZoC (fun n l t49 t50 bounds t48=>rec_ (n,l,t49,t50,bounds,t48)) s.1 s.2.1 s.2.2.1 s.2.2.2.1 s.2.2.2.2.1 s.2.2.2.2.2
theorem ZtX:∀n s,Zrd (n+1) s=Zpg (Zrd n) s:=fun _ _=>rfl
def Zo0 (t:(List Int)) (p:Int) (q:Int) (n:Int):Option Bool:=
 (ZrM t).bind fun q_1=>
 bif (!q_1)then (
  (ZoZ).bind fun q_2=>
  some q_2
 )else (
  (Zr4 t).bind fun d=>
  (ZoJ d 9).bind fun(l,t31)=>
  (ZoJ t31 4).bind fun(bounds,t33)=>
  (Zom p 12).bind fun q_3=>
  chk (inK .i64 (q_3 - 1)) <|
  (Zom q 12).bind fun q_4=>
  chk (inK .i64 (q_4 - 1)) <|
  (Zom p 1000).bind fun q_5=>
  (ZnW big n l (([(Zod.mk p q),(Zod.mk (q_3 - 1) (q_4 - 1)),(Zod.mk q_5 999)]:(List Zod)).length:Int) (0:Int) bounds ([(Zod.mk p q),(Zod.mk (q_3 - 1) (q_4 - 1)),(Zod.mk q_5 999)]:(List Zod))).bind fun
   | .ret q_=>some q_
   | .brk (x0,x1,x2)=>ZpM x0 x1 x2
 )
end
end Go.Proofs

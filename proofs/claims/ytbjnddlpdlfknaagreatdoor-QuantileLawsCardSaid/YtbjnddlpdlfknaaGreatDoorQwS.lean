/- Printed by wip/tools/tgen.py: specs. -/
import Derived.Test.YtbjnddlpdlfknaaGreatDoorE4
import Derived.Lib.Bytealg
import Derived.Lib.SlTrimSet
set_option linter.unusedVariables false
set_option linter.unusedSimpArgs false
set_option linter.unusedSectionVars false
namespace Go.Proofs
open Go Eng
set_option maxRecDepth 100000
noncomputable section
structure ZnE where
 Neg:Bool
 Words:(List Int)
 deriving DecidableEq,Inhabited
structure ZnA where
 Num:ZnE
 Den:ZnE
 deriving DecidableEq,Inhabited
structure ZnU where
 Null:Bool
 Text:Str
 deriving DecidableEq,Inhabited
structure ZqF where
 Name:Str
 Cells:(List ZnU)
 deriving DecidableEq,Inhabited
structure Zow where
 word:Str
 canonical:(Option Nat)
 value:(Option Nat)
 deriving DecidableEq,Inhabited
structure ZnB where
 l:(List Int)
 at_:Int
 deriving DecidableEq,Inhabited
def ZvQ:Nat→Type
 |0=>ZnE
 |1=>ZnA
 |2=>ZnU
 |3=>ZqF
 |4=>Zow
 |5=>ZnB
 |_=>Unit
def ZBR:Nat→Nat
 |0=>2
 |1=>4
 |2=>2
 |3=>2
 |4=>3
 |5=>2
 |_=>0
def Zwc:List (Lf ZvQ):=[⟨.sl (.int .u32),([1]:List Int)⟩]
def Zrn (t:(List Int)):Option Bool:=
 some (decide ((t.length:Int)≤500))
def Zts (w_:(List Int)):Option (List Int):=
 some w_
def Zrv (rec_:(List Int)→Option (List Int)) (w_:(List Int)) (t14:Bool):Option (List Int):=
 bif t14 then (
  chk (inK .i64 ((w_.length:Int) - 1)) <|
  chk (Zb9 0 ((w_.length:Int) - 1) (w_.length:Int)) <|
  rec_ (w_.take (((w_.length:Int) - 1)).toNat)
 )else (
  some w_
 )
def ZsQ (rec_:(List Int)→Option (List Int)) (w_:(List Int)):Option (List Int):=
 bif (decide ((w_.length:Int) > 0))then (
  chk (inK .i64 ((w_.length:Int) - 1)) <|
  (idx w_ ((w_.length:Int) - 1)).bind fun w__e=>
  Zrv rec_ w_ (w__e == 0)
 )else (
  Zrv rec_ w_ false
 )
def Zok:Nat→(List Int)→Option (List Int)
 |0,_=>none
 |n_+1,w_=>ZsQ (Zok n_) w_
def ZnV (w_:(List Int)):Option (List Int):=
 (Zok big w_).bind fun x0=>Zts x0
def Zqx (t4:ZnE):Option ZnE:=
 some t4
def ZnO (neg:Bool) (w_:(List Int)):Option ZnE:=
 (ZnV w_).bind fun w__1=>
 bif neg then (
  Zqx (ZnE.mk (decide ((w__1.length:Int) > 0)) w__1)
 )else (
  Zqx (ZnE.mk false w__1)
 )
def Zpr (n:Int) (u:Int) (t2:Bool) (t2_1:(List Int)):Option ZnE:=
 chk (decide (0≤(32:Int))) <|
 (ZnO (decide (n < 0)) ([(IntKind.wrap .u32 u),(IntKind.wrap .u32 (shrK .u64 u 32))]:(List Int))).bind fun q=>
 some q
def Zol (n:Int):Option ZnE:=
 bif (decide (n < 0))then (
  Zpr n (IntKind.wrap .u64 (0 - (IntKind.wrap .u64 n))) false ([]:(List Int))
 )else (
  Zpr n (IntKind.wrap .u64 n) false ([]:(List Int))
 )
def ZnY (t2:Bool):Option Bool:=
 some t2
def Zoc (a:ZnE):Option Bool:=
 bif (decide ((a.Words.length:Int)≤256))then (
  bif ((a.Words.length:Int) == 0)then (
   bif (!a.Neg)then (
    ZnY true
   )else (
    bif (decide ((a.Words.length:Int) > 0))then (
     chk (inK .i64 ((a.Words.length:Int) - 1)) <|
     (idx a.Words ((a.Words.length:Int) - 1)).bind fun Word=>
     ZnY (Word != 0)
    )else (
     ZnY false
    )
   )
  )else (
   bif (decide ((a.Words.length:Int) > 0))then (
    chk (inK .i64 ((a.Words.length:Int) - 1)) <|
    (idx a.Words ((a.Words.length:Int) - 1)).bind fun Word_1=>
    ZnY (Word_1 != 0)
   )else (
    ZnY false
   )
  )
 )else (
  ZnY false
 )
def Zrw (out:(List Int)):Option (List Int):=
 (ZnV out).bind fun q=>
 some q
def Zo1 (rec_:(List Int)→Int→Int→(List Int)→Option (List Int)) (a:(List Int)) (t9:Int) (i:Int) (out:(List Int)):Option (List Int):=
 chk (inK .i64 (i+1)) <|
 rec_ a t9 (i+1) out
def ZpD (rec_:(List Int)→Int→Int→(List Int)→Option (List Int)) (a:(List Int)) (t9:Int) (i:Int) (out:(List Int)):Option (List Int):=
 bif (decide (i < t9))then (
  chk (inR i (out.length:Int)) <|
  (out[(i).toNat]?).bind fun out_e=>
  chk (decide (0≤(1:Int))) <|
  chk (inR i (out.length:Int)) <|
  chk (inK .i64 (i+1)) <|
  bif (decide ((i+1) < (a.length:Int)))then (
   chk (inR i ((out.set ((i).toNat) (shrK .u32 out_e 1)).length:Int)) <|
   ((out.set ((i).toNat) (shrK .u32 out_e 1))[(i).toNat]?).bind fun e_e=>
   chk (inK .i64 (i+1)) <|
   (idx a (i+1)).bind fun a_e=>
   chk (decide (0≤(31:Int))) <|
   chk (inR i ((out.set ((i).toNat) (shrK .u32 out_e 1)).length:Int)) <|
   Zo1 rec_ a t9 i ((out.set ((i).toNat) (shrK .u32 out_e 1)).set ((i).toNat) (orK .u32 e_e (shlK .u32 a_e 31)))
  )else (
   Zo1 rec_ a t9 i (out.set ((i).toNat) (shrK .u32 out_e 1))
  )
 )else (
  some out
 )
def Zo0:Nat→(List Int)→Int→Int→(List Int)→Option (List Int)
 |0,_,_,_,_=>none
 |n_+1,a,t9,i,out=>ZpD (Zo0 n_) a t9 i out
def ZsR (n:Nat) (s:((List Int)×Int×Int×(List Int))):Option (List Int):=Zo0 n s.1 s.2.1 s.2.2.1 s.2.2.2
def ZqT (rec_:((List Int)×Int×Int×(List Int))→Option (List Int)) (s:((List Int)×Int×Int×(List Int))):Option (List Int):=ZpD (fun a t9 i out=>rec_ (a,t9,i,out)) s.1 s.2.1 s.2.2.1 s.2.2.2
theorem Zuu:∀n s,ZsR (n+1) s=ZqT (ZsR n) s:=fun _ _=>rfl
def Zos (a:(List Int)):Option (List Int):=
 chk (ZiZ (([]:(List Int)).length+a.length) 4) <|
 (Zo0 big a ((([]:(List Int))++a).length:Int) (0:Int) (([]:(List Int))++a)).bind fun x0=>Zrw x0
def ZrZ:Option Int:=
 some (0:Int)
def ZpP (rec_:(List Int)→(List Int)→Int→Option (Out Unit Int)) (a:(List Int)) (b:(List Int)) (i:Int):Option (Out Unit Int):=
 bif (decide (i≥0))then (
  (idx a i).bind fun a_e=>
  (idx b i).bind fun b_e=>
  bif (decide (a_e < b_e))then (
   some (.ret (-1:Int))
  )else (
   (idx a i).bind fun a_e_1=>
   (idx b i).bind fun b_e_1=>
   bif (decide (a_e_1 > b_e_1))then (
    some (.ret (1:Int))
   )else (
    chk (inK .i64 (i - 1)) <|
    rec_ a b (i - 1)
   )
  )
 )else (
  some (.brk ())
 )
def Zqw:Nat→(List Int)→(List Int)→Int→Option (Out Unit Int)
 |0,_,_,_=>none
 |n_+1,a,b,i=>ZpP (Zqw n_) a b i
def Zs2 (n:Nat) (s:((List Int)×(List Int)×Int)):Option (Out Unit Int):=Zqw n s.1 s.2.1 s.2.2
def Zrc (rec_:((List Int)×(List Int)×Int)→Option (Out Unit Int)) (s:((List Int)×(List Int)×Int)):Option (Out Unit Int):=ZpP (fun a b i=>rec_ (a,b,i)) s.1 s.2.1 s.2.2
theorem ZuI:∀n s,Zs2 (n+1) s=Zrc (Zs2 n) s:=fun _ _=>rfl
def Zn3 (a:(List Int)) (b:(List Int)):Option Int:=
 bif ((a.length:Int) != (b.length:Int))then (
  bif (decide ((a.length:Int) < (b.length:Int)))then (
   some (-1:Int)
  )else (
   some (1:Int)
  )
 )else (
  chk (inK .i64 ((a.length:Int) - 1)) <|
  (Zqw big a b ((a.length:Int) - 1)).bind fun
   | .ret q_=>some q_
   | .brk ()=>ZrZ
 )
def ZrQ (out:(List Int)):Option (List Int):=
 (ZnV out).bind fun q=>
 some q
def Zpc (rec_:(List Int)→(List Int)→Int→Int→(List Int)→Option (List Int)) (a:(List Int)) (b:(List Int)) (c:Int) (i:Int) (out:(List Int)):Option (List Int):=
 chk (ZiZ (out.length+([(IntKind.wrap .u32 c)]:(List Int)).length) 4) <|
 chk (decide (0≤(32:Int))) <|
 chk (inK .i64 (i+1)) <|
 rec_ a b (shrK .i64 c 32) (i+1) (out++([(IntKind.wrap .u32 c)]:(List Int)))
def ZpL (rec_:(List Int)→(List Int)→Int→Int→(List Int)→Option (List Int)) (a:(List Int)) (b:(List Int)) (c:Int) (i:Int) (out:(List Int)):Option (List Int):=
 bif (decide (i < (a.length:Int)))then (
  (idx a i).bind fun a_e=>
  chk (inK .i64 (c+(IntKind.wrap .i64 a_e))) <|
  bif (decide (i < (b.length:Int)))then (
   (idx b i).bind fun b_e=>
   chk (inK .i64 ((c+(IntKind.wrap .i64 a_e)) - (IntKind.wrap .i64 b_e))) <|
   Zpc rec_ a b ((c+(IntKind.wrap .i64 a_e)) - (IntKind.wrap .i64 b_e)) i out
  )else (
   Zpc rec_ a b (c+(IntKind.wrap .i64 a_e)) i out
  )
 )else (
  some out
 )
def Zpb:Nat→(List Int)→(List Int)→Int→Int→(List Int)→Option (List Int)
 |0,_,_,_,_,_=>none
 |n_+1,a,b,c,i,out=>ZpL (Zpb n_) a b c i out
def ZsY (n:Nat) (s:((List Int)×(List Int)×Int×Int×(List Int))):Option (List Int):=Zpb n s.1 s.2.1 s.2.2.1 s.2.2.2.1 s.2.2.2.2
def Zq6 (rec_:((List Int)×(List Int)×Int×Int×(List Int))→Option (List Int)) (s:((List Int)×(List Int)×Int×Int×(List Int))):Option (List Int):=ZpL (fun a b c i out=>rec_ (a,b,c,i,out)) s.1 s.2.1 s.2.2.1 s.2.2.2.1 s.2.2.2.2
theorem ZuE:∀n s,ZsY (n+1) s=Zq6 (ZsY n) s:=fun _ _=>rfl
def Zou (a:(List Int)) (b:(List Int)):Option (List Int):=
 (Zpb big a b (0:Int) (0:Int) ([]:(List Int))).bind fun x0=>ZrQ x0
def Zq5 (d:Int) (out:(List Int)):Option (List Int):=
 chk (ZiZ (out.length+([d]:(List Int)).length) 4) <|
 (ZnV (out++([d]:(List Int)))).bind fun q=>
 some q
def Zpq (rec_:(List Int)→Int→Int→(List Int)→Option (Int×(List Int))) (a:(List Int)) (d:Int) (i:Int) (out:(List Int)):Option (Int×(List Int)):=
 bif (decide (i < (a.length:Int)))then (
  (idx a i).bind fun a_e=>
  chk (decide (0≤(1:Int))) <|
  chk (ZiZ (out.length+([(orK .u32 (shlK .u32 a_e 1) d)]:(List Int)).length) 4) <|
  (idx a i).bind fun a_e_1=>
  chk (decide (0≤(31:Int))) <|
  chk (inK .i64 (i+1)) <|
  rec_ a (shrK .u32 a_e_1 31) (i+1) (out++([(orK .u32 (shlK .u32 a_e 1) d)]:(List Int)))
 )else (
  some (d,out)
 )
def ZpK:Nat→(List Int)→Int→Int→(List Int)→Option (Int×(List Int))
 |0,_,_,_,_=>none
 |n_+1,a,d,i,out=>Zpq (ZpK n_) a d i out
def ZsI (n:Nat) (s:((List Int)×Int×Int×(List Int))):Option (Int×(List Int)):=ZpK n s.1 s.2.1 s.2.2.1 s.2.2.2
def ZqL (rec_:((List Int)×Int×Int×(List Int))→Option (Int×(List Int))) (s:((List Int)×Int×Int×(List Int))):Option (Int×(List Int)):=Zpq (fun a d i out=>rec_ (a,d,i,out)) s.1 s.2.1 s.2.2.1 s.2.2.2
theorem Zui:∀n s,ZsI (n+1) s=ZqL (ZsI n) s:=fun _ _=>rfl
def ZoO (a:(List Int)) (d:Int):Option (List Int):=
 (ZpK big a d (0:Int) ([]:(List Int))).bind fun(x0,x1)=>Zq5 x0 x1
def ZrT (a:(List Int)):Option (List Int):=
 some a
def ZoS (rec_:(List Int)→Int→Option (List Int)) (a:(List Int)) (k:Int):Option (List Int):=
 bif (decide (k > 0))then (
  (ZoO a 0).bind fun a_1=>
  chk (inK .i64 (k - 1)) <|
  rec_ a_1 (k - 1)
 )else (
  some a
 )
def ZoJ:Nat→(List Int)→Int→Option (List Int)
 |0,_,_=>none
 |n_+1,a,k=>ZoS (ZoJ n_) a k
def ZrU (a:(List Int)) (k:Int):Option (List Int):=
 (ZoJ big a k).bind fun x0=>ZrT x0
def Zqu (rec_:(List Int)→(List Int)→Int→Option ((List Int)×Int)) (a:(List Int)) (b:(List Int)) (k:Int):Option ((List Int)×Int):=
 (Zou b a).bind fun b_1=>
 rec_ a b_1 k
def ZrV (rec_:(List Int)→(List Int)→Int→Option ((List Int)×Int)) (a:(List Int)) (b:(List Int)) (k:Int):Option ((List Int)×Int):=
 (Zn3 a b).bind fun q=>
 bif (decide (q > 0))then (
  Zqu rec_ b a k
 )else (
  Zqu rec_ a b k
 )
def Zq9 (rec_:(List Int)→(List Int)→Int→Option ((List Int)×(List Int)×Int)) (a:(List Int)) (b:(List Int)) (k:Int):Option ((List Int)×(List Int)×Int):=
 (idx b 0).bind fun b_e=>
 bif ((andK .u32 b_e 1) == 0)then (
  (Zos b).bind fun b_1=>
  rec_ a b_1 k
 )else (
  some (a,b,k)
 )
def Zn6:Nat→(List Int)→(List Int)→Int→Option ((List Int)×(List Int)×Int)
 |0,_,_,_=>none
 |n_+1,a,b,k=>Zq9 (Zn6 n_) a b k
def ZrW (rec_:(List Int)→(List Int)→Int→Option ((List Int)×Int)) (a:(List Int)) (b:(List Int)) (k:Int):Option ((List Int)×Int):=
 (Zn6 big a b k).bind fun(x0,x1,x2)=>ZrV rec_ x0 x1 x2
def ZoT (rec_:(List Int)→(List Int)→Int→Option ((List Int)×(List Int)×Int)) (a:(List Int)) (b:(List Int)) (k:Int):Option ((List Int)×(List Int)×Int):=
 (idx a 0).bind fun a_e=>
 bif ((andK .u32 a_e 1) == 0)then (
  (Zos a).bind fun a_1=>
  rec_ a_1 b k
 )else (
  some (a,b,k)
 )
def Zn7:Nat→(List Int)→(List Int)→Int→Option ((List Int)×(List Int)×Int)
 |0,_,_,_=>none
 |n_+1,a,b,k=>ZoT (Zn7 n_) a b k
def ZoU (rec_:(List Int)→(List Int)→Int→Option ((List Int)×Int)) (a:(List Int)) (b:(List Int)) (k:Int):Option ((List Int)×Int):=
 bif (decide ((b.length:Int) > 0))then (
  (Zn7 big a b k).bind fun(x0,x1,x2)=>ZrW rec_ x0 x1 x2
 )else (
  some (a,k)
 )
def ZnP:Nat→(List Int)→(List Int)→Int→Option ((List Int)×Int)
 |0,_,_,_=>none
 |n_+1,a,b,k=>ZoU (ZnP n_) a b k
def ZrX (a:(List Int)) (b:(List Int)) (k:Int):Option (List Int):=
 (ZnP big a b k).bind fun(x0,x1)=>ZrU x0 x1
def Zqv (rec_:(List Int)→(List Int)→Int→Option ((List Int)×(List Int)×Int)) (a:(List Int)) (b:(List Int)) (k:Int) (t17:Bool):Option ((List Int)×(List Int)×Int):=
 bif t17 then (
  (Zos a).bind fun a_1=>
  (Zos b).bind fun b_1=>
  chk (inK .i64 (k+1)) <|
  rec_ a_1 b_1 (k+1)
 )else (
  some (a,b,k)
 )
def Zra (rec_:(List Int)→(List Int)→Int→Option ((List Int)×(List Int)×Int)) (a:(List Int)) (b:(List Int)) (k:Int):Option ((List Int)×(List Int)×Int):=
 (idx a 0).bind fun a_e=>
 bif ((andK .u32 a_e 1) == 0)then (
  (idx b 0).bind fun b_e=>
  Zqv rec_ a b k ((andK .u32 b_e 1) == 0)
 )else (
  Zqv rec_ a b k false
 )
def ZoK:Nat→(List Int)→(List Int)→Int→Option ((List Int)×(List Int)×Int)
 |0,_,_,_=>none
 |n_+1,a,b,k=>Zra (ZoK n_) a b k
def Zo5 (a:(List Int)) (b:(List Int)):Option (List Int):=
 (ZoK big a b (0:Int)).bind fun(x0,x1,x2)=>ZrX x0 x1 x2
def Zqg (a:(List Int)) (i:Int):Option Int:=
 chk (decide ((32:Int)≠0)) <|
 chk (inK .i64 (Int.tdiv i 32)) <|
 (idx a (Int.tdiv i 32)).bind fun a_e=>
 chk (decide ((32:Int)≠0)) <|
 chk (decide (0≤(IntKind.wrap .u64 (Int.tmod i 32)))) <|
 some (andK .u32 (shrK .u32 a_e (IntKind.wrap .u64 (Int.tmod i 32))) 1)
def ZrY (r_:(List Int)) (q:(List Int)):Option ((List Int)×(List Int)):=
 (ZnV q).bind fun q_1=>
 some (q_1,r_)
def Zpg (rec_:(List Int)→(List Int)→(List Int)→Int→(List Int)→Option ((List Int)×(List Int))) (a:(List Int)) (b:(List Int)) (r_:(List Int)) (i:Int) (q:(List Int)):Option ((List Int)×(List Int)):=
 chk (inK .i64 (i - 1)) <|
 rec_ a b r_ (i - 1) q
def ZpO (rec_:(List Int)→(List Int)→(List Int)→Int→(List Int)→Option ((List Int)×(List Int))) (a:(List Int)) (b:(List Int)) (r_:(List Int)) (i:Int) (q:(List Int)):Option ((List Int)×(List Int)):=
 bif (decide (i≥0))then (
  (Zqg a i).bind fun q_1=>
  (ZoO r_ q_1).bind fun r__1=>
  (Zn3 r__1 b).bind fun q_2=>
  bif (decide (q_2≥0))then (
   (Zou r__1 b).bind fun r__2=>
   chk (decide ((32:Int)≠0)) <|
   chk (inK .i64 (Int.tdiv i 32)) <|
   chk (inR (Int.tdiv i 32) (q.length:Int)) <|
   (q[((Int.tdiv i 32)).toNat]?).bind fun q_e=>
   chk (decide ((32:Int)≠0)) <|
   chk (decide (0≤(IntKind.wrap .u64 (Int.tmod i 32)))) <|
   chk (inR (Int.tdiv i 32) (q.length:Int)) <|
   Zpg rec_ a b r__2 i (q.set (((Int.tdiv i 32)).toNat) (orK .u32 q_e (shlK .u32 1 (IntKind.wrap .u64 (Int.tmod i 32)))))
  )else (
   Zpg rec_ a b r__1 i q
  )
 )else (
  some (r_,q)
 )
def Zpf:Nat→(List Int)→(List Int)→(List Int)→Int→(List Int)→Option ((List Int)×(List Int))
 |0,_,_,_,_,_=>none
 |n_+1,a,b,r_,i,q=>ZpO (Zpf n_) a b r_ i q
def Zs1 (n:Nat) (s:((List Int)×(List Int)×(List Int)×Int×(List Int))):Option ((List Int)×(List Int)):=Zpf n s.1 s.2.1 s.2.2.1 s.2.2.2.1 s.2.2.2.2
def Zrb (rec_:((List Int)×(List Int)×(List Int)×Int×(List Int))→Option ((List Int)×(List Int))) (s:((List Int)×(List Int)×(List Int)×Int×(List Int))):Option ((List Int)×(List Int)):=ZpO (fun a b r_ i q=>rec_ (a,b,r_,i,q)) s.1 s.2.1 s.2.2.1 s.2.2.2.1 s.2.2.2.2
theorem ZuH:∀n s,Zs1 (n+1) s=Zrb (Zs1 n) s:=fun _ _=>rfl
def Zo6 (a:(List Int)) (b:(List Int)):Option ((List Int)×(List Int)):=
 chk (mkOk (a.length:Int) (a.length:Int) 4) <|
 chk (inK .i64 (32*(a.length:Int))) <|
 chk (inK .i64 ((32*(a.length:Int)) - 1)) <|
 (Zpf big a b ([]:(List Int)) ((32*(a.length:Int)) - 1) (List.replicate ((a.length:Int)).toNat (0:Int))).bind fun(x0,x1)=>ZrY x0 x1
def Zpe (num:ZnE) (den:ZnE):Option ZnA:=
 bif ((num.Words.length:Int) == 0)then (
  (Zol 1).bind fun q=>
  some (ZnA.mk (ZnE.mk false ([]:(List Int))) q)
 )else (
  (Zo5 num.Words den.Words).bind fun g=>
  (Zo6 num.Words g).bind fun(x_,q_1)=>
  (Zo6 den.Words g).bind fun(y,q_2)=>
  (ZnO (!(num.Neg == den.Neg)) x_).bind fun q_3=>
  (ZnO false y).bind fun q_4=>
  some (ZnA.mk q_3 q_4)
 )
def Zqb (t13:Bool) (num:ZnE) (den:ZnE) (t4:Bool) (t4_1:Bool) (t4_2:(List Int)) (t4_3:(List Int)):Option (ZnA×Int):=
 bif t13 then (
  some ((ZnA.mk (ZnE.mk false ([]:(List Int))) (ZnE.mk false ([]:(List Int)))),1)
 )else (
  bif ((den.Words.length:Int) == 0)then (
   some ((ZnA.mk (ZnE.mk false ([]:(List Int))) (ZnE.mk false ([]:(List Int)))),8)
  )else (
   (Zpe num den).bind fun q=>
   some (q,0)
  )
 )
def ZpS (num:ZnE) (den:ZnE):Option (ZnA×Int):=
 (Zoc num).bind fun q=>
 bif (!q)then (
  Zqb true num den false false ([]:(List Int)) ([]:(List Int))
 )else (
  (Zoc den).bind fun q_1=>
  Zqb (!q_1) num den false false ([]:(List Int)) ([]:(List Int))
 )
def ZqC (num:Int) (den:Int):Option (ZnA×Int):=
 (Zol num).bind fun q=>
 (Zol den).bind fun q_1=>
 (ZpS q q_1).bind fun(q_2,q_3)=>
 some (q_2,q_3)
def Zoq (n:Int) (d:Int):Option ZnA:=
 (ZqC n d).bind fun(f,q)=>
 some f
def ZnI (n:Int):Option ZnA:=
 (Zoq n 1).bind fun q=>
 some q
def Zsq (x_:Int) (y:Int):Option (Int×Int):=
 chk (decide (0≤(32:Int))) <|
 chk (decide (0≤(32:Int))) <|
 chk (decide (0≤(32:Int))) <|
 chk (decide (0≤(32:Int))) <|
 chk (decide (0≤(32:Int))) <|
 some ((IntKind.wrap .u64 ((IntKind.wrap .u64 ((IntKind.wrap .u64 ((shrK .u64 x_ 32)*(shrK .u64 y 32)))+(shrK .u64 (IntKind.wrap .u64 ((IntKind.wrap .u64 ((shrK .u64 x_ 32)*(andK .u64 y 4294967295)))+(shrK .u64 (IntKind.wrap .u64 ((andK .u64 x_ 4294967295)*(andK .u64 y 4294967295))) 32))) 32)))+(shrK .u64 (IntKind.wrap .u64 ((andK .u64 (IntKind.wrap .u64 ((IntKind.wrap .u64 ((shrK .u64 x_ 32)*(andK .u64 y 4294967295)))+(shrK .u64 (IntKind.wrap .u64 ((andK .u64 x_ 4294967295)*(andK .u64 y 4294967295))) 32))) 4294967295)+(IntKind.wrap .u64 ((andK .u64 x_ 4294967295)*(shrK .u64 y 32))))) 32))),(IntKind.wrap .u64 (x_*y)))
def Ztn (x y c:Int):Option (Int×Int):=
 chk (decide (0≤c∧c≤1)) <| some ((x+y+c) % 18446744073709551616,(x+y+c) / 18446744073709551616)
def ZtD (x_:Int) (n:Int):Option Int:=
 (idx ([0,1,2,2,3,3,3,3,4,4,4,4,4,4,4,4,5,5,5,5,5,5,5,5,5,5,5,5,5,5,5,5,6,6,6,6,6,6,6,6,6,6,6,6,6,6,6,6,6,6,6,6,6,6,6,6,6,6,6,6,6,6,6,6,7,7,7,7,7,7,7,7,7,7,7,7,7,7,7,7,7,7,7,7,7,7,7,7,7,7,7,7,7,7,7,7,7,7,7,7,7,7,7,7,7,7,7,7,7,7,7,7,7,7,7,7,7,7,7,7,7,7,7,7,7,7,7,7,8,8,8,8,8,8,8,8,8,8,8,8,8,8,8,8,8,8,8,8,8,8,8,8,8,8,8,8,8,8,8,8,8,8,8,8,8,8,8,8,8,8,8,8,8,8,8,8,8,8,8,8,8,8,8,8,8,8,8,8,8,8,8,8,8,8,8,8,8,8,8,8,8,8,8,8,8,8,8,8,8,8,8,8,8,8,8,8,8,8,8,8,8,8,8,8,8,8,8,8,8,8,8,8,8,8,8,8,8,8,8,8,8,8,8,8,8,8,8,8,8,8,8,8,8,8,8,8]:Str) (IntKind.wrap .u8 x_)).bind fun c=>
 chk (inK .i64 (n+(IntKind.wrap .i64 ((c.toNat:Nat):Int)))) <|
 some (n+(IntKind.wrap .i64 ((c.toNat:Nat):Int)))
def ZtE (x_:Int) (n:Int):Option Int:=
 bif (decide (x_≥256))then (
  chk (decide (0≤(8:Int))) <|
  chk (inK .i64 (n+8)) <|
  ZtD (shrK .u64 x_ 8) (n+8)
 )else (
  ZtD x_ n
 )
def ZtF (x_:Int) (n:Int):Option Int:=
 bif (decide (x_≥65536))then (
  chk (decide (0≤(16:Int))) <|
  chk (inK .i64 (n+16)) <|
  ZtE (shrK .u64 x_ 16) (n+16)
 )else (
  ZtE x_ n
 )
def Ztm (x_:Int):Option Int:=
 bif (decide (x_≥4294967296))then (
  chk (decide (0≤(32:Int))) <|
  ZtF (shrK .u64 x_ 32) (32:Int)
 )else (
  ZtF x_ (0:Int)
 )
def Zrx (x_:Int):Option Int:=
 (Ztm x_).bind fun q=>
 chk (inK .i64 (64 - q)) <|
 some (64 - q)
def Zuy (y:Int) (s:Int) (un0:Int) (q1:Int) (un21:Int) (q0:Int):Option (Int×Int):=
 chk (decide (0≤s)) <|
 some ((IntKind.wrap .u64 ((IntKind.wrap .u64 (q1*4294967296))+q0)),(shrK .u64 (IntKind.wrap .u64 ((IntKind.wrap .u64 ((IntKind.wrap .u64 (un21*4294967296))+un0)) - (IntKind.wrap .u64 (q0*y)))) s))
def ZtG (rec_:Int→Int→Int→Int→Int→Int→Int→Int→Int→Option (Int×Int×Int×Int×Int×Int)) (y:Int) (s:Int) (yn1:Int) (yn0:Int) (un0:Int) (q1:Int) (rhat:Int) (un21:Int) (q0:Int) (t113:Bool):Option (Int×Int×Int×Int×Int×Int):=
 bif t113 then (
  bif (decide ((IntKind.wrap .u64 (rhat+yn1))≥4294967296))then (
   some (y,s,un0,q1,un21,(IntKind.wrap .u64 (q0 - 1)))
  )else (
   rec_ y s yn1 yn0 un0 q1 (IntKind.wrap .u64 (rhat+yn1)) un21 (IntKind.wrap .u64 (q0 - 1))
  )
 )else (
  some (y,s,un0,q1,un21,q0)
 )
def ZvA (rec_:Int→Int→Int→Int→Int→Int→Int→Int→Int→Option (Int×Int×Int×Int×Int×Int)) (y:Int) (s:Int) (yn1:Int) (yn0:Int) (un0:Int) (q1:Int) (rhat:Int) (un21:Int) (q0:Int):Option (Int×Int×Int×Int×Int×Int):=
 bif (decide (q0≥4294967296))then (
  ZtG rec_ y s yn1 yn0 un0 q1 rhat un21 q0 true
 )else (
  ZtG rec_ y s yn1 yn0 un0 q1 rhat un21 q0 (decide ((IntKind.wrap .u64 (q0*yn0)) > (IntKind.wrap .u64 ((IntKind.wrap .u64 (4294967296*rhat))+un0))))
 )
def Zsa:Nat→Int→Int→Int→Int→Int→Int→Int→Int→Int→Option (Int×Int×Int×Int×Int×Int)
 |0,_,_,_,_,_,_,_,_,_=>none
 |n_+1,y,s,yn1,yn0,un0,q1,rhat,un21,q0=>ZvA (Zsa n_) y s yn1 yn0 un0 q1 rhat un21 q0
def Zuz (y:Int) (s:Int) (yn1:Int) (yn0:Int) (un32:Int) (un1:Int) (un0:Int) (q1:Int):Option (Int×Int):=
 chk (decide (yn1≠0)) <|
 (Zsa big y s yn1 yn0 un0 q1 (IntKind.wrap .u64 ((IntKind.wrap .u64 ((IntKind.wrap .u64 ((IntKind.wrap .u64 (un32*4294967296))+un1)) - (IntKind.wrap .u64 (q1*y)))) - (IntKind.wrap .u64 ((IntKind.wrap .u64 (Int.tdiv (IntKind.wrap .u64 ((IntKind.wrap .u64 ((IntKind.wrap .u64 (un32*4294967296))+un1)) - (IntKind.wrap .u64 (q1*y)))) yn1))*yn1)))) (IntKind.wrap .u64 ((IntKind.wrap .u64 ((IntKind.wrap .u64 (un32*4294967296))+un1)) - (IntKind.wrap .u64 (q1*y)))) (IntKind.wrap .u64 (Int.tdiv (IntKind.wrap .u64 ((IntKind.wrap .u64 ((IntKind.wrap .u64 (un32*4294967296))+un1)) - (IntKind.wrap .u64 (q1*y)))) yn1))).bind fun(x0,x1,x2,x3,x4,x5)=>Zuy x0 x1 x2 x3 x4 x5
def ZtH (rec_:Int→Int→Int→Int→Int→Int→Int→Int→Int→Option (Int×Int×Int×Int×Int×Int×Int×Int)) (y:Int) (s:Int) (yn1:Int) (yn0:Int) (un32:Int) (un1:Int) (un0:Int) (q1:Int) (rhat:Int) (t78:Bool):Option (Int×Int×Int×Int×Int×Int×Int×Int):=
 bif t78 then (
  bif (decide ((IntKind.wrap .u64 (rhat+yn1))≥4294967296))then (
   some (y,s,yn1,yn0,un32,un1,un0,(IntKind.wrap .u64 (q1 - 1)))
  )else (
   rec_ y s yn1 yn0 un32 un1 un0 (IntKind.wrap .u64 (q1 - 1)) (IntKind.wrap .u64 (rhat+yn1))
  )
 )else (
  some (y,s,yn1,yn0,un32,un1,un0,q1)
 )
def ZvB (rec_:Int→Int→Int→Int→Int→Int→Int→Int→Int→Option (Int×Int×Int×Int×Int×Int×Int×Int)) (y:Int) (s:Int) (yn1:Int) (yn0:Int) (un32:Int) (un1:Int) (un0:Int) (q1:Int) (rhat:Int):Option (Int×Int×Int×Int×Int×Int×Int×Int):=
 bif (decide (q1≥4294967296))then (
  ZtH rec_ y s yn1 yn0 un32 un1 un0 q1 rhat true
 )else (
  ZtH rec_ y s yn1 yn0 un32 un1 un0 q1 rhat (decide ((IntKind.wrap .u64 (q1*yn0)) > (IntKind.wrap .u64 ((IntKind.wrap .u64 (4294967296*rhat))+un1))))
 )
def Zsb:Nat→Int→Int→Int→Int→Int→Int→Int→Int→Int→Option (Int×Int×Int×Int×Int×Int×Int×Int)
 |0,_,_,_,_,_,_,_,_,_=>none
 |n_+1,y,s,yn1,yn0,un32,un1,un0,q1,rhat=>ZvB (Zsb n_) y s yn1 yn0 un32 un1 un0 q1 rhat
def Zss (hi:Int) (lo:Int) (y:Int):Option (Int×Int):=
 bif (y == 0)then (
  none
 )else (
  bif (decide (y≤hi))then (
   none
  )else (
   bif (hi == 0)then (
    chk (decide (y≠0)) <|
    chk (decide (y≠0)) <|
    some ((IntKind.wrap .u64 (Int.tdiv lo y)),(Int.tmod lo y))
   )else (
    (Zrx y).bind fun q=>
    chk (decide (0≤(IntKind.wrap .u64 q))) <|
    chk (decide (0≤(32:Int))) <|
    chk (decide (0≤(IntKind.wrap .u64 q))) <|
    chk (decide (0≤(IntKind.wrap .u64 (64 - (IntKind.wrap .u64 q))))) <|
    chk (decide (0≤(IntKind.wrap .u64 q))) <|
    chk (decide (0≤(32:Int))) <|
    chk (decide ((shrK .u64 (shlK .u64 y (IntKind.wrap .u64 q)) 32)≠0)) <|
    (Zsb big (shlK .u64 y (IntKind.wrap .u64 q)) (IntKind.wrap .u64 q) (shrK .u64 (shlK .u64 y (IntKind.wrap .u64 q)) 32) (andK .u64 (shlK .u64 y (IntKind.wrap .u64 q)) 4294967295) (orK .u64 (shlK .u64 hi (IntKind.wrap .u64 q)) (shrK .u64 lo (IntKind.wrap .u64 (64 - (IntKind.wrap .u64 q))))) (shrK .u64 (shlK .u64 lo (IntKind.wrap .u64 q)) 32) (andK .u64 (shlK .u64 lo (IntKind.wrap .u64 q)) 4294967295) (IntKind.wrap .u64 (Int.tdiv (orK .u64 (shlK .u64 hi (IntKind.wrap .u64 q)) (shrK .u64 lo (IntKind.wrap .u64 (64 - (IntKind.wrap .u64 q))))) (shrK .u64 (shlK .u64 y (IntKind.wrap .u64 q)) 32))) (IntKind.wrap .u64 ((orK .u64 (shlK .u64 hi (IntKind.wrap .u64 q)) (shrK .u64 lo (IntKind.wrap .u64 (64 - (IntKind.wrap .u64 q))))) - (IntKind.wrap .u64 ((IntKind.wrap .u64 (Int.tdiv (orK .u64 (shlK .u64 hi (IntKind.wrap .u64 q)) (shrK .u64 lo (IntKind.wrap .u64 (64 - (IntKind.wrap .u64 q))))) (shrK .u64 (shlK .u64 y (IntKind.wrap .u64 q)) 32)))*(shrK .u64 (shlK .u64 y (IntKind.wrap .u64 q)) 32)))))).bind fun(x0,x1,x2,x3,x4,x5,x6,x7)=>Zuz x0 x1 x2 x3 x4 x5 x6 x7
   )
  )
 )
def Zv3 (f:ZnA):Option ZnA:=
 chk (ZiZ f.Num.Words.length 4) <|
 chk (ZiZ f.Den.Words.length 4) <|
 some f
def ZrG (l:(List ZnA)) (p:Int) (q:Int) (t13:Bool) (t6:Bool) (t6_1:Bool) (t6_2:(List Int)) (t6_3:(List Int)):Option (ZnA×Int):=
 bif t13 then (
  some ((ZnA.mk (ZnE.mk false ([]:(List Int))) (ZnE.mk false ([]:(List Int)))),2)
 )else (
  bif ((l.length:Int) == 0)then (
   some ((ZnA.mk (ZnE.mk false ([]:(List Int))) (ZnE.mk false ([]:(List Int)))),5)
  )else (
   (Zsq (IntKind.wrap .u64 (l.length:Int)) (IntKind.wrap .u64 p)).bind fun(high,low)=>
   chk (inK .i64 (q - 1)) <|
   (Ztn low (IntKind.wrap .u64 (q - 1)) 0).bind fun(low_1,carry)=>
   (Zss (IntKind.wrap .u64 (high+carry)) low_1 (IntKind.wrap .u64 q)).bind fun(k,q_1)=>
   chk (inK .i64 ((if (1:Int) > (IntKind.wrap .i64 k)then (1:Int)else (IntKind.wrap .i64 k)) - 1)) <|
   (idx l ((if (1:Int) > (IntKind.wrap .i64 k)then (1:Int)else (IntKind.wrap .i64 k)) - 1)).bind fun l_e=>
   (Zv3 l_e).bind fun q_2=>
   some (q_2,0)
  )
 )
def ZqD (l:(List ZnA)) (p:Int) (q:Int):Option (ZnA×Int):=
 bif (decide (q < 1))then (
  ZrG l p q true false false ([]:(List Int)) ([]:(List Int))
 )else (
  bif (decide (p < 0))then (
   ZrG l p q true false false ([]:(List Int)) ([]:(List Int))
  )else (
   ZrG l p q (decide (p > q)) false false ([]:(List Int)) ([]:(List Int))
  )
 )
def Zov (t2:Bool):Option Bool:=
 some t2
def Zqr (a:ZnE):Option Bool:=
 bif (decide ((a.Words.length:Int)≤256))then (
  bif ((a.Words.length:Int) == 0)then (
   bif (!a.Neg)then (
    Zov true
   )else (
    bif (decide ((a.Words.length:Int) > 0))then (
     chk (inK .i64 ((a.Words.length:Int) - 1)) <|
     (idx a.Words ((a.Words.length:Int) - 1)).bind fun Word=>
     Zov (Word != 0)
    )else (
     Zov false
    )
   )
  )else (
   bif (decide ((a.Words.length:Int) > 0))then (
    chk (inK .i64 ((a.Words.length:Int) - 1)) <|
    (idx a.Words ((a.Words.length:Int) - 1)).bind fun Word_1=>
    Zov (Word_1 != 0)
   )else (
    Zov false
   )
  )
 )else (
  Zov false
 )
def Zu8:Option Bool:=
 some true
def Zsf (rec_:(List ZnE)→Int→Int→Option (Out Unit Bool)) (t5:(List ZnE)) (t6:Int) (t7:Int):Option (Out Unit Bool):=
 bif (decide (t7 < t6))then (
  (idx t5 t7).bind fun a=>
  (Zqr a).bind fun q=>
  bif (!q)then (
   some (.ret false)
  )else (
   chk (inK .i64 (t7+1)) <|
   rec_ t5 t6 (t7+1)
  )
 )else (
  some (.brk ())
 )
def ZsU:Nat→(List ZnE)→Int→Int→Option (Out Unit Bool)
 |0,_,_,_=>none
 |n_+1,t5,t6,t7=>Zsf (ZsU n_) t5 t6 t7
def ZuA (n:Nat) (s:((List ZnE)×Int×Int)):Option (Out Unit Bool):=ZsU n s.1 s.2.1 s.2.2
def ZtI (rec_:((List ZnE)×Int×Int)→Option (Out Unit Bool)) (s:((List ZnE)×Int×Int)):Option (Out Unit Bool):=Zsf (fun t5 t6 t7=>rec_ (t5,t6,t7)) s.1 s.2.1 s.2.2
theorem ZvI:∀n s,ZuA (n+1) s=ZtI (ZuA n) s:=fun _ _=>rfl
def Zsx (l:(List ZnE)):Option Bool:=
 (ZsU big l (l.length:Int) (0:Int)).bind fun
  | .ret q_=>some q_
  | .brk ()=>Zu8
def Zti (x_:Int):Option Bool:=
 some (x_ != x_)
def Zsy (x_:Int) (y:Int):Option Int:=
 (Zti x_).bind fun xNaN=>
 (Zti y).bind fun yNaN=>
 bif xNaN then (
  bif yNaN then (
   some (0:Int)
  )else (
   some (-1:Int)
  )
 )else (
  bif yNaN then (
   some (1:Int)
  )else (
   bif (decide (x_ < y))then (
    some (-1:Int)
   )else (
    bif (decide (x_ > y))then (
     some (1:Int)
    )else (
     some (0:Int)
    )
   )
  )
 )
def ZsW (x_:Int):Option Bool:=
 some (x_ != x_)
def Zsg (x_:Int) (y:Int):Option Int:=
 (ZsW x_).bind fun xNaN=>
 (ZsW y).bind fun yNaN=>
 bif xNaN then (
  bif yNaN then (
   some (0:Int)
  )else (
   some (-1:Int)
  )
 )else (
  bif yNaN then (
   some (1:Int)
  )else (
   bif (decide (x_ < y))then (
    some (-1:Int)
   )else (
    bif (decide (x_ > y))then (
     some (1:Int)
    )else (
     some (0:Int)
    )
   )
  )
 )
def Zrj:Option Int:=
 some (0:Int)
def Zpu (rec_:(List Int)→(List Int)→Int→Option (Out Unit Int)) (w_:(List Int)) (v_:(List Int)) (i:Int):Option (Out Unit Int):=
 bif (decide (i≥0))then (
  (idx w_ i).bind fun w__e=>
  (idx v_ i).bind fun v__e=>
  (Zsg w__e v__e).bind fun c=>
  bif (c != 0)then (
   some (.ret c)
  )else (
   chk (inK .i64 (i - 1)) <|
   rec_ w_ v_ (i - 1)
  )
 )else (
  some (.brk ())
 )
def Zp0:Nat→(List Int)→(List Int)→Int→Option (Out Unit Int)
 |0,_,_,_=>none
 |n_+1,w_,v_,i=>Zpu (Zp0 n_) w_ v_ i
def ZsK (n:Nat) (s:((List Int)×(List Int)×Int)):Option (Out Unit Int):=Zp0 n s.1 s.2.1 s.2.2
def ZqP (rec_:((List Int)×(List Int)×Int)→Option (Out Unit Int)) (s:((List Int)×(List Int)×Int)):Option (Out Unit Int):=Zpu (fun w_ v_ i=>rec_ (w_,v_,i)) s.1 s.2.1 s.2.2
theorem Zuk:∀n s,ZsK (n+1) s=ZqP (ZsK n) s:=fun _ _=>rfl
def Zog (w_:(List Int)) (v_:(List Int)):Option Int:=
 (Zsy (w_.length:Int) (v_.length:Int)).bind fun c=>
 bif (c != 0)then (
  some c
 )else (
  chk (inK .i64 ((w_.length:Int) - 1)) <|
  (Zp0 big w_ v_ ((w_.length:Int) - 1)).bind fun
   | .ret q_=>some q_
   | .brk ()=>Zrj
 )
def ZnH (s:(List Int)) (t4:Bool):Option (List Int):=
 bif t4 then (
  some ([]:(List Int))
 )else (
  chk (ZiZ (([]:(List Int)).length+s.length) 4) <|
  some (([]:(List Int))++s)
 )
def Zn8 (s:(List Int)):Option (List Int):=
 bif (List.isEmpty s)then agree (
  ZnH s true
 ) (
  ZnH s false
 )else (
  ZnH s false
 )
def ZqS (hi:Int) (lo:Int) (y:Int) (t15:Bool):Option (Int×Int):=
 bif t15 then (
  none
 )else (
  chk (decide (0≤(32:Int))) <|
  chk (decide ((IntKind.wrap .u64 y)≠0)) <|
  chk (decide ((IntKind.wrap .u64 y)≠0)) <|
  some ((IntKind.wrap .u32 (IntKind.wrap .u64 (Int.tdiv (orK .u64 (shlK .u64 (IntKind.wrap .u64 hi) 32) (IntKind.wrap .u64 lo)) (IntKind.wrap .u64 y)))),(IntKind.wrap .u32 (Int.tmod (orK .u64 (shlK .u64 (IntKind.wrap .u64 hi) 32) (IntKind.wrap .u64 lo)) (IntKind.wrap .u64 y))))
 )
def Zst (hi:Int) (lo:Int) (y:Int):Option (Int×Int):=
 bif (y != 0)then (
  ZqS hi lo y (decide (y≤hi))
 )else (
  ZqS hi lo y false
 )
def Zta (w_:(List Int)):Option (List Int):=
 some w_
def ZrJ (rec_:(List Int)→Option (List Int)) (w_:(List Int)) (t14:Bool):Option (List Int):=
 bif t14 then (
  chk (inK .i64 ((w_.length:Int) - 1)) <|
  chk (Zb9 0 ((w_.length:Int) - 1) (w_.length:Int)) <|
  rec_ (w_.take (((w_.length:Int) - 1)).toNat)
 )else (
  some w_
 )
def ZqW (rec_:(List Int)→Option (List Int)) (w_:(List Int)):Option (List Int):=
 bif (decide ((w_.length:Int) > 0))then (
  chk (inK .i64 ((w_.length:Int) - 1)) <|
  (idx w_ ((w_.length:Int) - 1)).bind fun w__e=>
  ZrJ rec_ w_ (w__e == 0)
 )else (
  ZrJ rec_ w_ false
 )
def ZoD:Nat→(List Int)→Option (List Int)
 |0,_=>none
 |n_+1,w_=>ZqW (ZoD n_) w_
def Zt2 (n:Nat) (s:(List Int)):Option (List Int):=ZoD n s
def Zt3 (rec_:(List Int)→Option (List Int)) (s:(List Int)):Option (List Int):=ZqW (fun w_=>rec_ w_) s
theorem Zvl:∀n s,Zt2 (n+1) s=Zt3 (Zt2 n) s:=fun _ _=>rfl
def ZnW (w_:(List Int)):Option (List Int):=
 (ZoD big w_).bind fun x0=>Zta x0
def Zr5 (rest:Int) (out:(List Int)):Option ((List Int)×Int):=
 (ZnW out).bind fun q=>
 some (q,rest)
def ZpX (rec_:(List Int)→Int→Int→Int→(List Int)→Option (Int×(List Int))) (w_:(List Int)) (d:Int) (rest:Int) (i:Int) (out:(List Int)):Option (Int×(List Int)):=
 bif (decide (i≥0))then (
  (idx w_ i).bind fun w__e=>
  (Zst rest w__e d).bind fun(q,rest_1)=>
  chk (inR i (out.length:Int)) <|
  chk (inK .i64 (i - 1)) <|
  rec_ w_ d rest_1 (i - 1) (out.set ((i).toNat) q)
 )else (
  some (rest,out)
 )
def ZqA:Nat→(List Int)→Int→Int→Int→(List Int)→Option (Int×(List Int))
 |0,_,_,_,_,_=>none
 |n_+1,w_,d,rest,i,out=>ZpX (ZqA n_) w_ d rest i out
def Zs7 (n:Nat) (s:((List Int)×Int×Int×Int×(List Int))):Option (Int×(List Int)):=ZqA n s.1 s.2.1 s.2.2.1 s.2.2.2.1 s.2.2.2.2
def Zrg (rec_:((List Int)×Int×Int×Int×(List Int))→Option (Int×(List Int))) (s:((List Int)×Int×Int×Int×(List Int))):Option (Int×(List Int)):=ZpX (fun w_ d rest i out=>rec_ (w_,d,rest,i,out)) s.1 s.2.1 s.2.2.1 s.2.2.2.1 s.2.2.2.2
theorem ZuN:∀n s,Zs7 (n+1) s=Zrg (Zs7 n) s:=fun _ _=>rfl
def Zqi (w_:(List Int)) (d:Int):Option ((List Int)×Int):=
 chk (mkOk (w_.length:Int) (w_.length:Int) 4) <|
 chk (inK .i64 ((w_.length:Int) - 1)) <|
 (ZqA big w_ d (0:Int) ((w_.length:Int) - 1) (List.replicate ((w_.length:Int)).toNat (0:Int))).bind fun(x0,x1)=>Zr5 x0 x1
def Zp6 (x_:Int) (n:Int):Option Int:=
 (idx ([0,1,2,2,3,3,3,3,4,4,4,4,4,4,4,4,5,5,5,5,5,5,5,5,5,5,5,5,5,5,5,5,6,6,6,6,6,6,6,6,6,6,6,6,6,6,6,6,6,6,6,6,6,6,6,6,6,6,6,6,6,6,6,6,7,7,7,7,7,7,7,7,7,7,7,7,7,7,7,7,7,7,7,7,7,7,7,7,7,7,7,7,7,7,7,7,7,7,7,7,7,7,7,7,7,7,7,7,7,7,7,7,7,7,7,7,7,7,7,7,7,7,7,7,7,7,7,7,8,8,8,8,8,8,8,8,8,8,8,8,8,8,8,8,8,8,8,8,8,8,8,8,8,8,8,8,8,8,8,8,8,8,8,8,8,8,8,8,8,8,8,8,8,8,8,8,8,8,8,8,8,8,8,8,8,8,8,8,8,8,8,8,8,8,8,8,8,8,8,8,8,8,8,8,8,8,8,8,8,8,8,8,8,8,8,8,8,8,8,8,8,8,8,8,8,8,8,8,8,8,8,8,8,8,8,8,8,8,8,8,8,8,8,8,8,8,8,8,8,8,8,8,8,8,8,8]:Str) (IntKind.wrap .u8 x_)).bind fun c=>
 chk (inK .i64 (n+(IntKind.wrap .i64 ((c.toNat:Nat):Int)))) <|
 some (n+(IntKind.wrap .i64 ((c.toNat:Nat):Int)))
def Zr9 (x_:Int) (n:Int):Option Int:=
 bif (decide (x_≥256))then (
  chk (decide (0≤(8:Int))) <|
  chk (inK .i64 (n+8)) <|
  Zp6 (shrK .u32 x_ 8) (n+8)
 )else (
  Zp6 x_ n
 )
def Zsr (x_:Int):Option Int:=
 bif (decide (x_≥65536))then (
  chk (decide (0≤(16:Int))) <|
  Zr9 (shrK .u32 x_ 16) (16:Int)
 )else (
  Zr9 x_ (0:Int)
 )
def Zo2 (x_:Int):Option Int:=
 (Zsr x_).bind fun q=>
 chk (inK .i64 (32 - q)) <|
 some (32 - q)
def Zrh (out:(List Int)):Option (List Int):=
 some out
def Zpt (rec_:Int→(List Int)→Int→Int→(List Int)→Option (List Int)) (n:Int) (t13:(List Int)) (t14:Int) (i:Int) (out:(List Int)):Option (List Int):=
 bif (decide (i < t14))then (
  (idx t13 i).bind fun d=>
  chk (decide (0≤n)) <|
  chk (inR i (out.length:Int)) <|
  (out[(i).toNat]?).bind fun out_e=>
  chk (inR i (out.length:Int)) <|
  chk (inK .i64 (i+1)) <|
  chk (decide (0≤(32:Int))) <|
  chk (inR (i+1) ((out.set ((i).toNat) (orK .u32 out_e (IntKind.wrap .u32 (shlK .u64 (IntKind.wrap .u64 d) n)))).length:Int)) <|
  chk (inK .i64 (i+1)) <|
  rec_ n t13 t14 (i+1) ((out.set ((i).toNat) (orK .u32 out_e (IntKind.wrap .u32 (shlK .u64 (IntKind.wrap .u64 d) n)))).set (((i+1)).toNat) (IntKind.wrap .u32 (shrK .u64 (shlK .u64 (IntKind.wrap .u64 d) n) 32)))
 )else (
  some out
 )
def ZpY:Nat→Int→(List Int)→Int→Int→(List Int)→Option (List Int)
 |0,_,_,_,_,_=>none
 |n_+1,n,t13,t14,i,out=>Zpt (ZpY n_) n t13 t14 i out
def ZsJ (n:Nat) (s:(Int×(List Int)×Int×Int×(List Int))):Option (List Int):=ZpY n s.1 s.2.1 s.2.2.1 s.2.2.2.1 s.2.2.2.2
def ZqO (rec_:(Int×(List Int)×Int×Int×(List Int))→Option (List Int)) (s:(Int×(List Int)×Int×Int×(List Int))):Option (List Int):=Zpt (fun n t13 t14 i out=>rec_ (n,t13,t14,i,out)) s.1 s.2.1 s.2.2.1 s.2.2.2.1 s.2.2.2.2
theorem Zuj:∀n s,ZsJ (n+1) s=ZqO (ZsJ n) s:=fun _ _=>rfl
def ZoB (w_:(List Int)) (n:Int):Option (List Int):=
 chk (inK .i64 ((w_.length:Int)+1)) <|
 chk (mkOk ((w_.length:Int)+1) ((w_.length:Int)+1) 4) <|
 (ZpY big n w_ (w_.length:Int) (0:Int) (List.replicate (((w_.length:Int)+1)).toNat (0:Int))).bind fun x0=>Zrh x0
def Zqn (x_:Int) (y:Int) (borrow:Int):Option (Int×Int):=
 chk (decide (0≤(31:Int))) <|
 some ((IntKind.wrap .u32 ((IntKind.wrap .u32 (x_ - y)) - borrow)),(shrK .u32 (orK .u32 (andK .u32 (xorK .u32 (if IntKind.signed .u32 then -1 else IntKind.max .u32) x_) y) (andK .u32 (xorK .u32 (if IntKind.signed .u32 then -1 else IntKind.max .u32) (xorK .u32 x_ y)) (IntKind.wrap .u32 ((IntKind.wrap .u32 (x_ - y)) - borrow)))) 31))
def Zq4 (x_:Int) (y:Int) (carry:Int):Option (Int×Int):=
 chk (decide (0≤(32:Int))) <|
 some ((IntKind.wrap .u32 (IntKind.wrap .u64 ((IntKind.wrap .u64 ((IntKind.wrap .u64 x_)+(IntKind.wrap .u64 y)))+(IntKind.wrap .u64 carry)))),(IntKind.wrap .u32 (shrK .u64 (IntKind.wrap .u64 ((IntKind.wrap .u64 ((IntKind.wrap .u64 x_)+(IntKind.wrap .u64 y)))+(IntKind.wrap .u64 carry))) 32)))
def ZsD (u_off:Nat) (u_len:Nat) (n:Int) (guess:Int) (add:Int) (u:(List Int)):Option (Int×(List Int)):=
 chk (inR n (u_len:Int)) <|
 (u[(u_off+(n).toNat)]?).bind fun u_e=>
 chk (inR n (u_len:Int)) <|
 some ((IntKind.wrap .u32 (IntKind.wrap .u64 (guess - 1))),(u.set (u_off+(n).toNat) (IntKind.wrap .u32 (u_e+add))))
def ZrK (rec_:Nat→Nat→Int→Int→Int→(List Int)→Int→Int→(List Int)→Option (Nat×Nat×Int×Int×Int×(List Int))) (u_off:Nat) (u_len:Nat) (n:Int) (guess:Int) (add:Int) (t130:(List Int)) (t131:Int) (i:Int) (u:(List Int)):Option (Nat×Nat×Int×Int×Int×(List Int)):=
 bif (decide (i < t131))then (
  (idx t130 i).bind fun x_=>
  chk (inR i (u_len:Int)) <|
  (u[(u_off+(i).toNat)]?).bind fun u_e=>
  (Zq4 u_e x_ add).bind fun(q,add_1)=>
  chk (inR i (u_len:Int)) <|
  chk (inK .i64 (i+1)) <|
  rec_ u_off u_len n guess add_1 t130 t131 (i+1) (u.set (u_off+(i).toNat) q)
 )else (
  some (u_off,u_len,n,guess,add,u)
 )
def Zrl:Nat→Nat→Nat→Int→Int→Int→(List Int)→Int→Int→(List Int)→Option (Nat×Nat×Int×Int×Int×(List Int))
 |0,_,_,_,_,_,_,_,_,_=>none
 |n_+1,u_off,u_len,n,guess,add,t130,t131,i,u=>ZrK (Zrl n_) u_off u_len n guess add t130 t131 i u
def Zul (n:Nat) (s:(Nat×Nat×Int×Int×Int×(List Int)×Int×Int×(List Int))):Option (Nat×Nat×Int×Int×Int×(List Int)):=Zrl n s.1 s.2.1 s.2.2.1 s.2.2.2.1 s.2.2.2.2.1 s.2.2.2.2.2.1 s.2.2.2.2.2.2.1 s.2.2.2.2.2.2.2.1 s.2.2.2.2.2.2.2.2
def Ztb (rec_:(Nat×Nat×Int×Int×Int×(List Int)×Int×Int×(List Int))→Option (Nat×Nat×Int×Int×Int×(List Int))) (s:(Nat×Nat×Int×Int×Int×(List Int)×Int×Int×(List Int))):Option (Nat×Nat×Int×Int×Int×(List Int)):=ZrK (fun u_off u_len n guess add t130 t131 i u=>rec_ (u_off,u_len,n,guess,add,t130,t131,i,u)) s.1 s.2.1 s.2.2.1 s.2.2.2.1 s.2.2.2.2.1 s.2.2.2.2.2.1 s.2.2.2.2.2.2.1 s.2.2.2.2.2.2.2.1 s.2.2.2.2.2.2.2.2
theorem ZvC:∀n s,Zul (n+1) s=Ztb (Zul n) s:=fun _ _=>rfl
def ZtR (u_off:Nat) (u_len:Nat) (d:(List Int)) (n:Int) (guess:Int) (borrow:Int) (carry:Int) (u:(List Int)):Option (Int×(List Int)):=
 chk (inR n (u_len:Int)) <|
 (u[(u_off+(n).toNat)]?).bind fun u_e=>
 (Zqn u_e (IntKind.wrap .u32 carry) borrow).bind fun(q,borrow_1)=>
 chk (inR n (u_len:Int)) <|
 bif (borrow_1 == 0)then (
  some ((IntKind.wrap .u32 guess),(u.set (u_off+(n).toNat) q))
 )else (
  (Zrl big u_off u_len n guess (0:Int) d (d.length:Int) (0:Int) (u.set (u_off+(n).toNat) q)).bind fun(x0,x1,x2,x3,x4,x5)=>ZsD x0 x1 x2 x3 x4 x5
 )
def ZrL (rec_:Nat→Nat→(List Int)→Int→Int→Int→Int→(List Int)→Int→Int→(List Int)→Option (Nat×Nat×(List Int)×Int×Int×Int×Int×(List Int))) (u_off:Nat) (u_len:Nat) (d:(List Int)) (n:Int) (guess:Int) (borrow:Int) (carry:Int) (t82:(List Int)) (t83:Int) (i:Int) (u:(List Int)):Option (Nat×Nat×(List Int)×Int×Int×Int×Int×(List Int)):=
 bif (decide (i < t83))then (
  (idx t82 i).bind fun x_=>
  chk (inR i (u_len:Int)) <|
  (u[(u_off+(i).toNat)]?).bind fun u_e=>
  (Zqn u_e (IntKind.wrap .u32 (IntKind.wrap .u64 (carry+(IntKind.wrap .u64 (guess*(IntKind.wrap .u64 x_)))))) borrow).bind fun(q,borrow_1)=>
  chk (inR i (u_len:Int)) <|
  chk (decide (0≤(32:Int))) <|
  chk (inK .i64 (i+1)) <|
  rec_ u_off u_len d n guess borrow_1 (shrK .u64 (IntKind.wrap .u64 (carry+(IntKind.wrap .u64 (guess*(IntKind.wrap .u64 x_))))) 32) t82 t83 (i+1) (u.set (u_off+(i).toNat) q)
 )else (
  some (u_off,u_len,d,n,guess,borrow,carry,u)
 )
def ZsC:Nat→Nat→Nat→(List Int)→Int→Int→Int→Int→(List Int)→Int→Int→(List Int)→Option (Nat×Nat×(List Int)×Int×Int×Int×Int×(List Int))
 |0,_,_,_,_,_,_,_,_,_,_,_=>none
 |n_+1,u_off,u_len,d,n,guess,borrow,carry,t82,t83,i,u=>ZrL (ZsC n_) u_off u_len d n guess borrow carry t82 t83 i u
def Zum (n:Nat) (s:(Nat×Nat×(List Int)×Int×Int×Int×Int×(List Int)×Int×Int×(List Int))):Option (Nat×Nat×(List Int)×Int×Int×Int×Int×(List Int)):=ZsC n s.1 s.2.1 s.2.2.1 s.2.2.2.1 s.2.2.2.2.1 s.2.2.2.2.2.1 s.2.2.2.2.2.2.1 s.2.2.2.2.2.2.2.1 s.2.2.2.2.2.2.2.2.1 s.2.2.2.2.2.2.2.2.2.1 s.2.2.2.2.2.2.2.2.2.2
def Ztc (rec_:(Nat×Nat×(List Int)×Int×Int×Int×Int×(List Int)×Int×Int×(List Int))→Option (Nat×Nat×(List Int)×Int×Int×Int×Int×(List Int))) (s:(Nat×Nat×(List Int)×Int×Int×Int×Int×(List Int)×Int×Int×(List Int))):Option (Nat×Nat×(List Int)×Int×Int×Int×Int×(List Int)):=ZrL (fun u_off u_len d n guess borrow carry t82 t83 i u=>rec_ (u_off,u_len,d,n,guess,borrow,carry,t82,t83,i,u)) s.1 s.2.1 s.2.2.1 s.2.2.2.1 s.2.2.2.2.1 s.2.2.2.2.2.1 s.2.2.2.2.2.2.1 s.2.2.2.2.2.2.2.1 s.2.2.2.2.2.2.2.2.1 s.2.2.2.2.2.2.2.2.2.1 s.2.2.2.2.2.2.2.2.2.2
theorem ZvD:∀n s,Zum (n+1) s=Ztc (Zum n) s:=fun _ _=>rfl
def ZsE (u_off:Nat) (u_len:Nat) (d:(List Int)) (n:Int) (guess:Int) (u:(List Int)):Option (Int×(List Int)):=
 (ZsC big u_off u_len d n guess (0:Int) (0:Int) d (d.length:Int) (0:Int) u).bind fun(x0,x1,x2,x3,x4,x5,x6,x7)=>ZtR x0 x1 x2 x3 x4 x5 x6 x7
def Zrm (rec_:Nat→Nat→(List Int)→Int→Int→Int→(List Int)→Option (Nat×Nat×(List Int)×Int×Int×(List Int))) (u_off:Nat) (u_len:Nat) (d:(List Int)) (n:Int) (guess:Int) (rest:Int) (t71:Bool) (u:(List Int)):Option (Nat×Nat×(List Int)×Int×Int×(List Int)):=
 bif t71 then (
  chk (inK .i64 (n - 1)) <|
  (idx d (n - 1)).bind fun d_e=>
  rec_ u_off u_len d n (IntKind.wrap .u64 (guess - 1)) (IntKind.wrap .u64 (rest+(IntKind.wrap .u64 d_e))) u
 )else (
  some (u_off,u_len,d,n,guess,u)
 )
def Ztd (rec_:Nat→Nat→(List Int)→Int→Int→Int→(List Int)→Option (Nat×Nat×(List Int)×Int×Int×(List Int))) (u_off:Nat) (u_len:Nat) (d:(List Int)) (n:Int) (guess:Int) (rest:Int) (u:(List Int)):Option (Nat×Nat×(List Int)×Int×Int×(List Int)):=
 bif (decide (rest < 4294967296))then (
  chk (inK .i64 (n - 2)) <|
  (idx d (n - 2)).bind fun d_e=>
  chk (decide (0≤(32:Int))) <|
  chk (inK .i64 (n - 2)) <|
  chk (inR (n - 2) (u_len:Int)) <|
  (u[(u_off+((n - 2)).toNat)]?).bind fun u_e=>
  Zrm rec_ u_off u_len d n guess rest (decide ((IntKind.wrap .u64 (guess*(IntKind.wrap .u64 d_e))) > (orK .u64 (shlK .u64 rest 32) (IntKind.wrap .u64 u_e)))) u
 )else (
  Zrm rec_ u_off u_len d n guess rest false u
 )
def Zqp:Nat→Nat→Nat→(List Int)→Int→Int→Int→(List Int)→Option (Nat×Nat×(List Int)×Int×Int×(List Int))
 |0,_,_,_,_,_,_,_=>none
 |n_+1,u_off,u_len,d,n,guess,rest,u=>Ztd (Zqp n_) u_off u_len d n guess rest u
def Zun (n:Nat) (s:(Nat×Nat×(List Int)×Int×Int×Int×(List Int))):Option (Nat×Nat×(List Int)×Int×Int×(List Int)):=Zqp n s.1 s.2.1 s.2.2.1 s.2.2.2.1 s.2.2.2.2.1 s.2.2.2.2.2.1 s.2.2.2.2.2.2
def Zuo (rec_:(Nat×Nat×(List Int)×Int×Int×Int×(List Int))→Option (Nat×Nat×(List Int)×Int×Int×(List Int))) (s:(Nat×Nat×(List Int)×Int×Int×Int×(List Int))):Option (Nat×Nat×(List Int)×Int×Int×(List Int)):=Ztd (fun u_off u_len d n guess rest u=>rec_ (u_off,u_len,d,n,guess,rest,u)) s.1 s.2.1 s.2.2.1 s.2.2.2.1 s.2.2.2.2.1 s.2.2.2.2.2.1 s.2.2.2.2.2.2
theorem ZvE:∀n s,Zun (n+1) s=Zuo (Zun n) s:=fun _ _=>rfl
def ZtO (u:(List Int)) (u_off:Nat) (u_len:Nat) (d:(List Int)):Option (Int×(List Int)):=
 chk (inR (d.length:Int) (u_len:Int)) <|
 (u[(u_off+((d.length:Int)).toNat)]?).bind fun u_e=>
 chk (decide (0≤(32:Int))) <|
 chk (inK .i64 ((d.length:Int) - 1)) <|
 chk (inR ((d.length:Int) - 1) (u_len:Int)) <|
 (u[(u_off+(((d.length:Int) - 1)).toNat)]?).bind fun u_e_1=>
 chk (inK .i64 ((d.length:Int) - 1)) <|
 (idx d ((d.length:Int) - 1)).bind fun d_e=>
 chk (decide ((IntKind.wrap .u64 d_e)≠0)) <|
 chk (inK .i64 ((d.length:Int) - 1)) <|
 (idx d ((d.length:Int) - 1)).bind fun d_e_1=>
 (Zqp big u_off u_len d (d.length:Int) (if (4294967295:Int) < (IntKind.wrap .u64 (Int.tdiv (orK .u64 (shlK .u64 (IntKind.wrap .u64 u_e) 32) (IntKind.wrap .u64 u_e_1)) (IntKind.wrap .u64 d_e)))then (4294967295:Int)else (IntKind.wrap .u64 (Int.tdiv (orK .u64 (shlK .u64 (IntKind.wrap .u64 u_e) 32) (IntKind.wrap .u64 u_e_1)) (IntKind.wrap .u64 d_e)))) (IntKind.wrap .u64 ((orK .u64 (shlK .u64 (IntKind.wrap .u64 u_e) 32) (IntKind.wrap .u64 u_e_1)) - (IntKind.wrap .u64 ((if (4294967295:Int) < (IntKind.wrap .u64 (Int.tdiv (orK .u64 (shlK .u64 (IntKind.wrap .u64 u_e) 32) (IntKind.wrap .u64 u_e_1)) (IntKind.wrap .u64 d_e)))then (4294967295:Int)else (IntKind.wrap .u64 (Int.tdiv (orK .u64 (shlK .u64 (IntKind.wrap .u64 u_e) 32) (IntKind.wrap .u64 u_e_1)) (IntKind.wrap .u64 d_e))))*(IntKind.wrap .u64 d_e_1))))) u).bind fun(x0,x1,x2,x3,x4,x5)=>ZsE x0 x1 x2 x3 x4 x5
def ZsT (u:(List Int)) (u_off:Nat) (u_len:Nat) (d:(List Int)):Option (Int×(List Int)):=
 (ZtO u u_off u_len d).bind fun r=>chk (decide (r.2.length=u.length)&&true) (some r)
def ZsB (w_off:Nat) (w_len:Nat) (w_:(List Int)):Option (Nat×Nat×(List Int)):=
 some (w_off,w_len,w_)
def ZqX (rec_:Nat→Nat→(List Int)→Option (Nat×Nat×(List Int))) (w_off:Nat) (w_len:Nat) (t14:Bool) (w_:(List Int)):Option (Nat×Nat×(List Int)):=
 bif t14 then (
  chk (inK .i64 (((w_len:Nat):Int) - 1)) <|
  chk (Zb9 0 (((w_len:Nat):Int) - 1) (w_len:Int)) <|
  rec_ (w_off+0) (((((w_len:Nat):Int) - 1)).toNat - 0) w_
 )else (
  some (w_off,w_len,w_)
 )
def Zr7 (rec_:Nat→Nat→(List Int)→Option (Nat×Nat×(List Int))) (w_off:Nat) (w_len:Nat) (w_:(List Int)):Option (Nat×Nat×(List Int)):=
 bif (decide (((w_len:Nat):Int) > 0))then (
  chk (inK .i64 (((w_len:Nat):Int) - 1)) <|
  chk (inR (((w_len:Nat):Int) - 1) (w_len:Int)) <|
  (w_[(w_off+((((w_len:Nat):Int) - 1)).toNat)]?).bind fun w__e=>
  ZqX rec_ w_off w_len (w__e == 0) w_
 )else (
  ZqX rec_ w_off w_len false w_
 )
def Zp1:Nat→Nat→Nat→(List Int)→Option (Nat×Nat×(List Int))
 |0,_,_,_=>none
 |n_+1,w_off,w_len,w_=>Zr7 (Zp1 n_) w_off w_len w_
def ZtL (n:Nat) (s:(Nat×Nat×(List Int))):Option (Nat×Nat×(List Int)):=Zp1 n s.1 s.2.1 s.2.2
def ZtM (rec_:(Nat×Nat×(List Int))→Option (Nat×Nat×(List Int))) (s:(Nat×Nat×(List Int))):Option (Nat×Nat×(List Int)):=Zr7 (fun w_off w_len w_=>rec_ (w_off,w_len,w_)) s.1 s.2.1 s.2.2
theorem Zu7:∀n s,ZtL (n+1) s=ZtM (ZtL n) s:=fun _ _=>rfl
def Zsc (w_:(List Int)) (w_off:Nat) (w_len:Nat):Option (Nat×Nat×(List Int)):=
 (Zp1 big w_off w_len w_).bind fun(x0,x1,x2)=>ZsB x0 x1 x2
def Zrr (w_:(List Int)) (w_off:Nat) (w_len:Nat):Option (Nat×Nat×(List Int)):=
 (Zsc w_ w_off w_len).bind fun r=>chk (decide (r.2.2.length=w_.length)&&true) (some r)
def Zpw (w_:(List Int)) (i:Int):Option Int:=
 bif (decide (i < (w_.length:Int)))then (
  (idx w_ i).bind fun w__e=>
  some w__e
 )else (
  some (0:Int)
 )
def Zs9 (w_:(List Int)) (w_off:Nat) (w_len:Nat) (i:Int):Option (Int×(List Int)):=
 bif (decide (i < ((w_len:Nat):Int)))then (
  chk (inR i (w_len:Int)) <|
  (w_[(w_off+(i).toNat)]?).bind fun w__e=>
  some (w__e,w_)
 )else (
  some (0,w_)
 )
def ZqV (w_:(List Int)) (w_off:Nat) (w_len:Nat) (i:Int):Option (Int×(List Int)):=
 (Zs9 w_ w_off w_len i).bind fun r=>chk (decide (r.2.length=w_.length)&&true) (some r)
def Zsv (rest_off:Nat) (rest_len:Nat) (q:(List Int)) (rest:(List Int)):Option ((List Int)×(List Int)):=
 (ZnW q).bind fun q_1=>
 (ZnW ((rest.drop rest_off).take rest_len)).bind fun q_2=>
 some (q_1,q_2)
def Zqd (rec_:Int→Nat→Nat→Int→Int→(List Int)→(List Int)→Option (Nat×Nat×(List Int)×(List Int))) (shift:Int) (rest_off:Nat) (rest_len:Nat) (t86:Int) (i:Int) (q:(List Int)) (rest:(List Int)):Option (Nat×Nat×(List Int)×(List Int)):=
 bif (decide (i < t86))then (
  chk (inK .i64 (i+1)) <|
  (ZqV rest rest_off rest_len (i+1)).bind fun(q_1,t90)=>
  chk (decide (0≤(32:Int))) <|
  chk (inR i (rest_len:Int)) <|
  (t90[(rest_off+(i).toNat)]?).bind fun t90_e=>
  chk (decide (0≤shift)) <|
  chk (inR i (rest_len:Int)) <|
  chk (inK .i64 (i+1)) <|
  rec_ shift rest_off rest_len t86 (i+1) q (t90.set (rest_off+(i).toNat) (IntKind.wrap .u32 (shrK .u64 (orK .u64 (shlK .u64 (IntKind.wrap .u64 q_1) 32) (IntKind.wrap .u64 t90_e)) shift)))
 )else (
  some (rest_off,rest_len,q,rest)
 )
def ZpB:Nat→Int→Nat→Nat→Int→Int→(List Int)→(List Int)→Option (Nat×Nat×(List Int)×(List Int))
 |0,_,_,_,_,_,_,_=>none
 |n_+1,shift,rest_off,rest_len,t86,i,q,rest=>Zqd (ZpB n_) shift rest_off rest_len t86 i q rest
def Ztu (n:Nat) (s:(Int×Nat×Nat×Int×Int×(List Int)×(List Int))):Option (Nat×Nat×(List Int)×(List Int)):=ZpB n s.1 s.2.1 s.2.2.1 s.2.2.2.1 s.2.2.2.2.1 s.2.2.2.2.2.1 s.2.2.2.2.2.2
def ZrA (rec_:(Int×Nat×Nat×Int×Int×(List Int)×(List Int))→Option (Nat×Nat×(List Int)×(List Int))) (s:(Int×Nat×Nat×Int×Int×(List Int)×(List Int))):Option (Nat×Nat×(List Int)×(List Int)):=Zqd (fun shift rest_off rest_len t86 i q rest=>rec_ (shift,rest_off,rest_len,t86,i,q,rest)) s.1 s.2.1 s.2.2.1 s.2.2.2.1 s.2.2.2.2.1 s.2.2.2.2.2.1 s.2.2.2.2.2.2
theorem ZuY:∀n s,Ztu (n+1) s=ZrA (Ztu n) s:=fun _ _=>rfl
def Zsw (n:Int) (shift:Int) (u:(List Int)) (q:(List Int)):Option ((List Int)×(List Int)):=
 chk (Zb9 0 n (u.length:Int)) <|
 (Zrr u 0 ((n).toNat - 0)).bind fun(rest_off,rest_len,t83)=>
 (ZpB big shift rest_off rest_len ((rest_len:Nat):Int) (0:Int) q t83).bind fun(x0,x1,x2,x3)=>Zsv x0 x1 x2 x3
def Zqe (rec_:Int→Int→(List Int)→Int→(List Int)→(List Int)→Option (Int×Int×(List Int)×(List Int))) (n:Int) (shift:Int) (d:(List Int)) (j:Int) (u:(List Int)) (q:(List Int)):Option (Int×Int×(List Int)×(List Int)):=
 bif (decide (j≥0))then (
  chk (inK .i64 (j+n)) <|
  chk (inK .i64 ((j+n)+1)) <|
  chk (Zb9 j ((j+n)+1) (u.length:Int)) <|
  (ZsT u ((j).toNat) ((((j+n)+1)).toNat - (j).toNat) d).bind fun(q_1,t77)=>
  chk (inR j (q.length:Int)) <|
  chk (inK .i64 (j - 1)) <|
  rec_ n shift d (j - 1) t77 (q.set ((j).toNat) q_1)
 )else (
  some (n,shift,u,q)
 )
def ZpC:Nat→Int→Int→(List Int)→Int→(List Int)→(List Int)→Option (Int×Int×(List Int)×(List Int))
 |0,_,_,_,_,_,_=>none
 |n_+1,n,shift,d,j,u,q=>Zqe (ZpC n_) n shift d j u q
def Ztv (n:Nat) (s:(Int×Int×(List Int)×Int×(List Int)×(List Int))):Option (Int×Int×(List Int)×(List Int)):=ZpC n s.1 s.2.1 s.2.2.1 s.2.2.2.1 s.2.2.2.2.1 s.2.2.2.2.2
def ZrB (rec_:(Int×Int×(List Int)×Int×(List Int)×(List Int))→Option (Int×Int×(List Int)×(List Int))) (s:(Int×Int×(List Int)×Int×(List Int)×(List Int))):Option (Int×Int×(List Int)×(List Int)):=Zqe (fun n shift d j u q=>rec_ (n,shift,d,j,u,q)) s.1 s.2.1 s.2.2.1 s.2.2.2.1 s.2.2.2.2.1 s.2.2.2.2.2
theorem ZuZ:∀n s,Ztv (n+1) s=ZrB (Ztv n) s:=fun _ _=>rfl
def ZoW (w_:(List Int)) (v_:(List Int)):Option ((List Int)×(List Int)):=
 (Zog w_ v_).bind fun q=>
 bif (decide (q < 0))then (
  (Zn8 w_).bind fun q_1=>
  some (([]:(List Int)),q_1)
 )else (
  bif ((v_.length:Int) == 1)then (
   (idx v_ 0).bind fun v__e=>
   (Zqi w_ v__e).bind fun(q_2,r_)=>
   (ZnW ([r_]:(List Int))).bind fun q_3=>
   some (q_2,q_3)
  )else (
   chk (inK .i64 ((v_.length:Int) - 1)) <|
   (idx v_ ((v_.length:Int) - 1)).bind fun v__e_1=>
   (Zo2 v__e_1).bind fun shift=>
   (ZoB w_ shift).bind fun u=>
   (ZoB v_ shift).bind fun q_4=>
   chk (Zb9 0 (v_.length:Int) (q_4.length:Int)) <|
   chk (inK .i64 ((w_.length:Int) - (v_.length:Int))) <|
   chk (inK .i64 (((w_.length:Int) - (v_.length:Int))+1)) <|
   chk (mkOk (((w_.length:Int) - (v_.length:Int))+1) (((w_.length:Int) - (v_.length:Int))+1) 4) <|
   chk (inK .i64 (((List.replicate ((((w_.length:Int) - (v_.length:Int))+1)).toNat (0:Int)).length:Int) - 1)) <|
   (ZpC big (v_.length:Int) shift ((q_4.drop 0).take (((v_.length:Int)).toNat - 0)) (((List.replicate ((((w_.length:Int) - (v_.length:Int))+1)).toNat (0:Int)).length:Int) - 1) u (List.replicate ((((w_.length:Int) - (v_.length:Int))+1)).toNat (0:Int))).bind fun(x0,x1,x2,x3)=>Zsw x0 x1 x2 x3
  )
 )
def ZrC (w_:(List Int)):Option (List Int):=
 some w_
def ZoN (rec_:(List Int)→(List Int)→Option (List Int)) (w_:(List Int)) (v_:(List Int)):Option (List Int):=
 bif (decide ((v_.length:Int) > 0))then (
  (ZoW w_ v_).bind fun(q,r_)=>
  rec_ v_ r_
 )else (
  some w_
 )
def Zon:Nat→(List Int)→(List Int)→Option (List Int)
 |0,_,_=>none
 |n_+1,w_,v_=>ZoN (Zon n_) w_ v_
def ZoZ (w_:(List Int)) (v_:(List Int)):Option (List Int):=
 (Zon big w_ v_).bind fun x0=>ZrC x0
def Zqq (t2:Bool):Option Bool:=
 some t2
def ZrD (f:ZnA):Option Bool:=
 (Zsx ([f.Num,f.Den]:(List ZnE))).bind fun q=>
 bif q then (
  bif (decide ((f.Den.Words.length:Int) > 0))then (
   bif (!f.Den.Neg)then (
    (ZoZ f.Num.Words f.Den.Words).bind fun q_1=>
    (Zog q_1 ([1]:List Int)).bind fun q_2=>
    Zqq (q_2 == 0)
   )else (
    Zqq false
   )
  )else (
   Zqq false
  )
 )else (
  Zqq false
 )
def Zr3 (out:(List Int)):Option (List Int):=
 (ZnW out).bind fun q=>
 some q
def Zr4 (rec_:(List Int)→(List Int)→Int→Int→(List Int)→Option (List Int)) (v_:(List Int)) (i:Int) (carry:Int) (t17:(List Int)) (t18:Int) (i_1:Int) (out:(List Int)):Option (List Int):=
 chk (inK .i64 (i+(v_.length:Int))) <|
 chk (inR (i+(v_.length:Int)) (out.length:Int)) <|
 chk (inK .i64 (i_1+1)) <|
 rec_ v_ t17 t18 (i_1+1) (out.set (((i+(v_.length:Int))).toNat) (IntKind.wrap .u32 carry))
def ZpV (rec_:(List Int)→Int→Int→Int→(List Int)→Int→Int→(List Int)→Int→Int→(List Int)→Option ((List Int)×Int×Int×(List Int)×Int×Int×(List Int))) (v_:(List Int)) (i:Int) (x_:Int) (carry:Int) (t17:(List Int)) (t18:Int) (i_1:Int) (t24:(List Int)) (t25:Int) (j:Int) (out:(List Int)):Option ((List Int)×Int×Int×(List Int)×Int×Int×(List Int)):=
 bif (decide (j < t25))then (
  (idx t24 j).bind fun y=>
  chk (inK .i64 (i+j)) <|
  chk (inR (i+j) (out.length:Int)) <|
  (out[((i+j)).toNat]?).bind fun out_e=>
  chk (inK .i64 (i+j)) <|
  chk (inR (i+j) (out.length:Int)) <|
  chk (decide (0≤(32:Int))) <|
  chk (inK .i64 (j+1)) <|
  rec_ v_ i x_ (shrK .u64 (IntKind.wrap .u64 (carry+(IntKind.wrap .u64 ((IntKind.wrap .u64 ((IntKind.wrap .u64 x_)*(IntKind.wrap .u64 y)))+(IntKind.wrap .u64 out_e))))) 32) t17 t18 i_1 t24 t25 (j+1) (out.set (((i+j)).toNat) (IntKind.wrap .u32 (IntKind.wrap .u64 (carry+(IntKind.wrap .u64 ((IntKind.wrap .u64 ((IntKind.wrap .u64 x_)*(IntKind.wrap .u64 y)))+(IntKind.wrap .u64 out_e)))))))
 )else (
  some (v_,i,carry,t17,t18,i_1,out)
 )
def Zqz:Nat→(List Int)→Int→Int→Int→(List Int)→Int→Int→(List Int)→Int→Int→(List Int)→Option ((List Int)×Int×Int×(List Int)×Int×Int×(List Int))
 |0,_,_,_,_,_,_,_,_,_,_,_=>none
 |n_+1,v_,i,x_,carry,t17,t18,i_1,t24,t25,j,out=>ZpV (Zqz n_) v_ i x_ carry t17 t18 i_1 t24 t25 j out
def Zs5 (n:Nat) (s:((List Int)×Int×Int×Int×(List Int)×Int×Int×(List Int)×Int×Int×(List Int))):Option ((List Int)×Int×Int×(List Int)×Int×Int×(List Int)):=Zqz n s.1 s.2.1 s.2.2.1 s.2.2.2.1 s.2.2.2.2.1 s.2.2.2.2.2.1 s.2.2.2.2.2.2.1 s.2.2.2.2.2.2.2.1 s.2.2.2.2.2.2.2.2.1 s.2.2.2.2.2.2.2.2.2.1 s.2.2.2.2.2.2.2.2.2.2
def Zre (rec_:((List Int)×Int×Int×Int×(List Int)×Int×Int×(List Int)×Int×Int×(List Int))→Option ((List Int)×Int×Int×(List Int)×Int×Int×(List Int))) (s:((List Int)×Int×Int×Int×(List Int)×Int×Int×(List Int)×Int×Int×(List Int))):Option ((List Int)×Int×Int×(List Int)×Int×Int×(List Int)):=ZpV (fun v_ i x_ carry t17 t18 i_1 t24 t25 j out=>rec_ (v_,i,x_,carry,t17,t18,i_1,t24,t25,j,out)) s.1 s.2.1 s.2.2.1 s.2.2.2.1 s.2.2.2.2.1 s.2.2.2.2.2.1 s.2.2.2.2.2.2.1 s.2.2.2.2.2.2.2.1 s.2.2.2.2.2.2.2.2.1 s.2.2.2.2.2.2.2.2.2.1 s.2.2.2.2.2.2.2.2.2.2
theorem ZuL:∀n s,Zs5 (n+1) s=Zre (Zs5 n) s:=fun _ _=>rfl
def ZpW (rec_:(List Int)→(List Int)→Int→Int→(List Int)→Option (List Int)) (v_:(List Int)) (t17:(List Int)) (t18:Int) (i:Int) (out:(List Int)):Option (List Int):=
 bif (decide (i < t18))then (
  (idx t17 i).bind fun x_=>
  (Zqz big v_ i x_ (0:Int) t17 t18 i v_ (v_.length:Int) (0:Int) out).bind fun(x0,x1,x2,x3,x4,x5,x6)=>Zr4 rec_ x0 x1 x2 x3 x4 x5 x6
 )else (
  some out
 )
def Zpn:Nat→(List Int)→(List Int)→Int→Int→(List Int)→Option (List Int)
 |0,_,_,_,_,_=>none
 |n_+1,v_,t17,t18,i,out=>ZpW (Zpn n_) v_ t17 t18 i out
def Zs6 (n:Nat) (s:((List Int)×(List Int)×Int×Int×(List Int))):Option (List Int):=Zpn n s.1 s.2.1 s.2.2.1 s.2.2.2.1 s.2.2.2.2
def Zrf (rec_:((List Int)×(List Int)×Int×Int×(List Int))→Option (List Int)) (s:((List Int)×(List Int)×Int×Int×(List Int))):Option (List Int):=ZpW (fun v_ t17 t18 i out=>rec_ (v_,t17,t18,i,out)) s.1 s.2.1 s.2.2.1 s.2.2.2.1 s.2.2.2.2
theorem ZuM:∀n s,Zs6 (n+1) s=Zrf (Zs6 n) s:=fun _ _=>rfl
def ZoM (w_:(List Int)) (v_:(List Int)):Option (List Int):=
 chk (inK .i64 ((w_.length:Int)+(v_.length:Int))) <|
 chk (mkOk ((w_.length:Int)+(v_.length:Int)) ((w_.length:Int)+(v_.length:Int)) 4) <|
 (Zpn big v_ w_ (w_.length:Int) (0:Int) (List.replicate (((w_.length:Int)+(v_.length:Int))).toNat (0:Int))).bind fun x0=>Zr3 x0
def Zsd (t4:Bool) (t4_1:(List Int)):Option ZnE:=
 some (ZnE.mk t4 t4_1)
def Zn2 (neg:Bool) (w_:(List Int)):Option ZnE:=
 bif neg then (
  chk (ZiZ w_.length 4) <|
  Zsd (decide ((w_.length:Int) > 0)) w_
 )else (
  chk (ZiZ w_.length 4) <|
  Zsd false w_
 )
def Zo3 (a:ZnE) (b:ZnE):Option ZnE:=
 (ZoM a.Words b.Words).bind fun q=>
 (Zn2 (!(a.Neg == b.Neg)) q).bind fun q_1=>
 some q_1
def Zrs (t2:ZnE):Option ZnE:=
 some t2
def Zrk (a:ZnE):Option ZnE:=
 bif (!a.Neg)then (
  Zrs (ZnE.mk (decide ((a.Words.length:Int) > 0)) a.Words)
 )else (
  Zrs (ZnE.mk false a.Words)
 )
def Zsu (carry:Int) (out:(List Int)):Option (List Int):=
 chk (ZiZ (out.length+([carry]:(List Int)).length) 4) <|
 (ZnW (out++([carry]:(List Int)))).bind fun q=>
 some q
def Zqc (rec_:(List Int)→(List Int)→Int→Int→Int→(List Int)→Option (Int×(List Int))) (w_:(List Int)) (v_:(List Int)) (carry:Int) (t20:Int) (i:Int) (out:(List Int)):Option (Int×(List Int)):=
 bif (decide (i < t20))then (
  (Zpw w_ i).bind fun q=>
  (Zpw v_ i).bind fun q_1=>
  (Zq4 q q_1 carry).bind fun(d,carry_1)=>
  chk (ZiZ (out.length+([d]:(List Int)).length) 4) <|
  chk (inK .i64 (i+1)) <|
  rec_ w_ v_ carry_1 t20 (i+1) (out++([d]:(List Int)))
 )else (
  some (carry,out)
 )
def ZqH:Nat→(List Int)→(List Int)→Int→Int→Int→(List Int)→Option (Int×(List Int))
 |0,_,_,_,_,_,_=>none
 |n_+1,w_,v_,carry,t20,i,out=>Zqc (ZqH n_) w_ v_ carry t20 i out
def Ztt (n:Nat) (s:((List Int)×(List Int)×Int×Int×Int×(List Int))):Option (Int×(List Int)):=ZqH n s.1 s.2.1 s.2.2.1 s.2.2.2.1 s.2.2.2.2.1 s.2.2.2.2.2
def Zrz (rec_:((List Int)×(List Int)×Int×Int×Int×(List Int))→Option (Int×(List Int))) (s:((List Int)×(List Int)×Int×Int×Int×(List Int))):Option (Int×(List Int)):=Zqc (fun w_ v_ carry t20 i out=>rec_ (w_,v_,carry,t20,i,out)) s.1 s.2.1 s.2.2.1 s.2.2.2.1 s.2.2.2.2.1 s.2.2.2.2.2
theorem ZuX:∀n s,Ztt (n+1) s=Zrz (Ztt n) s:=fun _ _=>rfl
def ZpA (w_:(List Int)) (v_:(List Int)):Option (List Int):=
 chk (inK .i64 ((if (v_.length:Int) > (w_.length:Int)then (v_.length:Int)else (w_.length:Int))+1)) <|
 chk (mkOk 0 ((if (v_.length:Int) > (w_.length:Int)then (v_.length:Int)else (w_.length:Int))+1) 4) <|
 (ZqH big w_ v_ (0:Int) (if (v_.length:Int) > (w_.length:Int)then (v_.length:Int)else (w_.length:Int)) (0:Int) (List.replicate ((0:Int)).toNat (0:Int))).bind fun(x0,x1)=>Zsu x0 x1
def Zr6 (out:(List Int)):Option (List Int):=
 (ZnW out).bind fun q=>
 some q
def ZpZ (rec_:(List Int)→(List Int)→Int→Int→Int→(List Int)→Option (List Int)) (w_:(List Int)) (v_:(List Int)) (borrow:Int) (t12:Int) (i:Int) (out:(List Int)):Option (List Int):=
 bif (decide (i < t12))then (
  (idx w_ i).bind fun w__e=>
  (Zpw v_ i).bind fun q=>
  (Zqn w__e q borrow).bind fun(q_1,borrow_1)=>
  chk (inR i (out.length:Int)) <|
  chk (inK .i64 (i+1)) <|
  rec_ w_ v_ borrow_1 t12 (i+1) (out.set ((i).toNat) q_1)
 )else (
  some out
 )
def ZqB:Nat→(List Int)→(List Int)→Int→Int→Int→(List Int)→Option (List Int)
 |0,_,_,_,_,_,_=>none
 |n_+1,w_,v_,borrow,t12,i,out=>ZpZ (ZqB n_) w_ v_ borrow t12 i out
def Zs8 (n:Nat) (s:((List Int)×(List Int)×Int×Int×Int×(List Int))):Option (List Int):=ZqB n s.1 s.2.1 s.2.2.1 s.2.2.2.1 s.2.2.2.2.1 s.2.2.2.2.2
def Zri (rec_:((List Int)×(List Int)×Int×Int×Int×(List Int))→Option (List Int)) (s:((List Int)×(List Int)×Int×Int×Int×(List Int))):Option (List Int):=ZpZ (fun w_ v_ borrow t12 i out=>rec_ (w_,v_,borrow,t12,i,out)) s.1 s.2.1 s.2.2.1 s.2.2.2.1 s.2.2.2.2.1 s.2.2.2.2.2
theorem ZuO:∀n s,Zs8 (n+1) s=Zri (Zs8 n) s:=fun _ _=>rfl
def Zpa (w_:(List Int)) (v_:(List Int)):Option (List Int):=
 chk (mkOk (w_.length:Int) (w_.length:Int) 4) <|
 (ZqB big w_ v_ (0:Int) (w_.length:Int) (0:Int) (List.replicate ((w_.length:Int)).toNat (0:Int))).bind fun x0=>Zr6 x0
def ZtN (a:ZnE) (b:ZnE):Option ZnE:=
 bif (a.Neg == b.Neg)then (
  (ZpA a.Words b.Words).bind fun q=>
  (Zn2 a.Neg q).bind fun q_1=>
  some q_1
 )else (
  (Zog a.Words b.Words).bind fun q_2=>
  bif (decide (q_2≥0))then (
   (Zpa a.Words b.Words).bind fun q_3=>
   (Zn2 a.Neg q_3).bind fun q_4=>
   some q_4
  )else (
   (Zpa b.Words a.Words).bind fun q_5=>
   (Zn2 b.Neg q_5).bind fun q_6=>
   some q_6
  )
 )
def Ztq (t13:Bool) (a:ZnA) (b:ZnA):Option Int:=
 bif t13 then (
  some (0:Int)
 )else (
  (Zo3 a.Num b.Den).bind fun q=>
  (Zo3 b.Num a.Den).bind fun q_1=>
  (Zrk q_1).bind fun q_2=>
  (ZtN q q_2).bind fun d=>
  bif d.Neg then (
   some (-1:Int)
  )else (
   bif (decide ((d.Words.length:Int) > 0))then (
    some (1:Int)
   )else (
    some (0:Int)
   )
  )
 )
def ZpI (a:ZnA) (b:ZnA):Option Int:=
 (ZrD a).bind fun q=>
 bif (!q)then (
  Ztq true a b
 )else (
  (ZrD b).bind fun q_1=>
  Ztq (!q_1) a b
 )
def ZtZ (i:Int):Option Int:=
 some i
def ZsS (rec_:(List ZnA)→Int→ZnA→Option Int) (l:(List ZnA)) (i:Int) (t19:Bool) (x_:ZnA):Option Int:=
 bif t19 then (
  chk (inK .i64 (i+1)) <|
  rec_ l (i+1) x_
 )else (
  some i
 )
def ZtA (rec_:(List ZnA)→Int→ZnA→Option Int) (l:(List ZnA)) (i:Int) (x_:ZnA):Option Int:=
 bif (decide (i < (l.length:Int)))then (
  (idx l i).bind fun l_e=>
  (ZpI l_e x_).bind fun q=>
  ZsS rec_ l i (decide (q≤0)) x_
 )else (
  ZsS rec_ l i false x_
 )
def ZrF:Nat→(List ZnA)→Int→ZnA→Option Int
 |0,_,_,_=>none
 |n_+1,l,i,x_=>ZtA (ZrF n_) l i x_
def Zuw (n:Nat) (s:((List ZnA)×Int×ZnA)):Option Int:=ZrF n s.1 s.2.1 s.2.2
def Zux (rec_:((List ZnA)×Int×ZnA)→Option Int) (s:((List ZnA)×Int×ZnA)):Option Int:=ZtA (fun l i x_=>rec_ (l,i,x_)) s.1 s.2.1 s.2.2
theorem ZvH:∀n s,Zuw (n+1) s=Zux (Zuw n) s:=fun _ _=>rfl
def Zsn (l:(List ZnA)) (i:Int) (x_:ZnA):Option Int:=
 (ZrF big l i x_).bind fun x0=>ZtZ x0
def Zp3 (n:Int):Option (List Int):=
 chk (decide (0≤(32:Int))) <|
 (ZnW ([(IntKind.wrap .u32 n),(IntKind.wrap .u32 (shrK .u64 n 32))]:(List Int))).bind fun q=>
 some q
def ZqI (n:Int):Option ZnE:=
 bif (decide (n < 0))then (
  (Zp3 (IntKind.wrap .u64 (0 - (IntKind.wrap .u64 n)))).bind fun q=>
  (Zn2 true q).bind fun q_1=>
  some q_1
 )else (
  (Zp3 (IntKind.wrap .u64 n)).bind fun q_2=>
  (Zn2 false q_2).bind fun q_3=>
  some q_3
 )
def Zp2 (num:ZnE) (den:ZnE):Option ZnA:=
 (ZoZ num.Words den.Words).bind fun g=>
 (ZoW num.Words g).bind fun(x_,q)=>
 (ZoW den.Words g).bind fun(y,q_1)=>
 (Zn2 (!(num.Neg == den.Neg)) x_).bind fun q_2=>
 (Zn2 false y).bind fun q_3=>
 some (ZnA.mk q_2 q_3)
def Zte (num:ZnE) (den:ZnE):Option (ZnA×Int):=
 (Zsx ([num,den]:(List ZnE))).bind fun q=>
 bif (!q)then (
  some ((ZnA.mk (ZnE.mk false ([]:(List Int))) (ZnE.mk false ([]:(List Int)))),1)
 )else (
  bif ((den.Words.length:Int) == 0)then (
   some ((ZnA.mk (ZnE.mk false ([]:(List Int))) (ZnE.mk false ([]:(List Int)))),8)
  )else (
   (Zp2 num den).bind fun q_1=>
   some (q_1,0)
  )
 )
def Ztp (num:Int) (den:Int):Option (ZnA×Int):=
 (ZqI num).bind fun q=>
 (ZqI den).bind fun q_1=>
 (Zte q q_1).bind fun(q_2,q_3)=>
 some (q_2,q_3)
def ZuR:Option ZnA:=
 (Ztp 0 1).bind fun(f,q)=>
 some f
def Zv4 (a:Int) (b:Int):Option ZnA:=
 (Ztp a b).bind fun(f,e)=>
 bif (e != 0)then (
  (ZuR).bind fun q=>
  some q
 )else (
  some f
 )
def ZsM (a:(List ZnA)) (b:(List ZnA)) (most:Int) (t4:Bool) (t4_1:Bool) (t4_2:(List Int)) (t4_3:(List Int)):Option (ZnA×Int):=
 chk (inK .i64 ((a.length:Int)*(b.length:Int))) <|
 (Zv4 most ((a.length:Int)*(b.length:Int))).bind fun q=>
 some (q,0)
def Zqh (rec_:(List ZnA)→(List ZnA)→Int→Int→Int→Bool→Bool→(List Int)→(List Int)→Option ((List ZnA)×(List ZnA)×Int×Bool×Bool×(List Int)×(List Int))) (a:(List ZnA)) (b:(List ZnA)) (most:Int) (i:Int) (k:Int) (t4:Bool) (t4_1:Bool) (x_:ZnA) (t4_2:(List Int)) (t4_3:(List Int)):Option ((List ZnA)×(List ZnA)×Int×Bool×Bool×(List Int)×(List Int)):=
 (Zsn a i x_).bind fun i_1=>
 (Zsn b k x_).bind fun k_1=>
 chk (inK .i64 (i_1*(b.length:Int))) <|
 chk (inK .i64 (k_1*(a.length:Int))) <|
 chk (inK .i64 ((i_1*(b.length:Int)) - (k_1*(a.length:Int)))) <|
 chk (inK .i64 (k_1*(a.length:Int))) <|
 chk (inK .i64 (i_1*(b.length:Int))) <|
 chk (inK .i64 ((k_1*(a.length:Int)) - (i_1*(b.length:Int)))) <|
 rec_ a b (if ((k_1*(a.length:Int)) - (i_1*(b.length:Int))) > (if ((i_1*(b.length:Int)) - (k_1*(a.length:Int))) > most then ((i_1*(b.length:Int)) - (k_1*(a.length:Int)))else most)then ((k_1*(a.length:Int)) - (i_1*(b.length:Int)))else (if ((i_1*(b.length:Int)) - (k_1*(a.length:Int))) > most then ((i_1*(b.length:Int)) - (k_1*(a.length:Int)))else most)) i_1 k_1 t4 t4_1 t4_2 t4_3
def Zro (rec_:(List ZnA)→(List ZnA)→Int→Int→Int→Bool→Bool→(List Int)→(List Int)→Option ((List ZnA)×(List ZnA)×Int×Bool×Bool×(List Int)×(List Int))) (a:(List ZnA)) (b:(List ZnA)) (most:Int) (i:Int) (k:Int) (t28:Bool) (t4:Bool) (t4_1:Bool) (t4_2:(List Int)) (t4_3:(List Int)):Option ((List ZnA)×(List ZnA)×Int×Bool×Bool×(List Int)×(List Int)):=
 bif t28 then (
  (idx a i).bind fun x_=>
  (idx b k).bind fun b_e=>
  (ZpI b_e x_).bind fun q=>
  bif (decide (q < 0))then (
   (idx b k).bind fun x__1=>
   Zqh rec_ a b most i k t4 t4_1 x__1 t4_2 t4_3
  )else (
   Zqh rec_ a b most i k t4 t4_1 x_ t4_2 t4_3
  )
 )else (
  some (a,b,most,t4,t4_1,t4_2,t4_3)
 )
def Zso (rec_:(List ZnA)→(List ZnA)→Int→Int→Int→Bool→Bool→(List Int)→(List Int)→Option ((List ZnA)×(List ZnA)×Int×Bool×Bool×(List Int)×(List Int))) (a:(List ZnA)) (b:(List ZnA)) (most:Int) (i:Int) (k:Int) (t4:Bool) (t4_1:Bool) (t4_2:(List Int)) (t4_3:(List Int)):Option ((List ZnA)×(List ZnA)×Int×Bool×Bool×(List Int)×(List Int)):=
 bif (decide (i < (a.length:Int)))then (
  Zro rec_ a b most i k (decide (k < (b.length:Int))) t4 t4_1 t4_2 t4_3
 )else (
  Zro rec_ a b most i k false t4 t4_1 t4_2 t4_3
 )
def Zo9:Nat→(List ZnA)→(List ZnA)→Int→Int→Int→Bool→Bool→(List Int)→(List Int)→Option ((List ZnA)×(List ZnA)×Int×Bool×Bool×(List Int)×(List Int))
 |0,_,_,_,_,_,_,_,_,_=>none
 |n_+1,a,b,most,i,k,t4,t4_1,t4_2,t4_3=>Zso (Zo9 n_) a b most i k t4 t4_1 t4_2 t4_3
def ZtT (n:Nat) (s:((List ZnA)×(List ZnA)×Int×Int×Int×Bool×Bool×(List Int)×(List Int))):Option ((List ZnA)×(List ZnA)×Int×Bool×Bool×(List Int)×(List Int)):=Zo9 n s.1 s.2.1 s.2.2.1 s.2.2.2.1 s.2.2.2.2.1 s.2.2.2.2.2.1 s.2.2.2.2.2.2.1 s.2.2.2.2.2.2.2.1 s.2.2.2.2.2.2.2.2
def ZtU (rec_:((List ZnA)×(List ZnA)×Int×Int×Int×Bool×Bool×(List Int)×(List Int))→Option ((List ZnA)×(List ZnA)×Int×Bool×Bool×(List Int)×(List Int))) (s:((List ZnA)×(List ZnA)×Int×Int×Int×Bool×Bool×(List Int)×(List Int))):Option ((List ZnA)×(List ZnA)×Int×Bool×Bool×(List Int)×(List Int)):=Zso (fun a b most i k t4 t4_1 t4_2 t4_3=>rec_ (a,b,most,i,k,t4,t4_1,t4_2,t4_3)) s.1 s.2.1 s.2.2.1 s.2.2.2.1 s.2.2.2.2.1 s.2.2.2.2.2.1 s.2.2.2.2.2.2.1 s.2.2.2.2.2.2.2.1 s.2.2.2.2.2.2.2.2
theorem Zvi:∀n s,ZtT (n+1) s=ZtU (ZtT n) s:=fun _ _=>rfl
def Zrp (a:(List ZnA)) (b:(List ZnA)) (t17:Bool) (t4:Bool) (t4_1:Bool) (t4_2:(List Int)) (t4_3:(List Int)):Option (ZnA×Int):=
 bif t17 then (
  some ((ZnA.mk (ZnE.mk false ([]:(List Int))) (ZnE.mk false ([]:(List Int)))),5)
 )else (
  (Zo9 big a b (0:Int) (0:Int) (0:Int) t4 t4_1 t4_2 t4_3).bind fun(x0,x1,x2,x3,x4,x5,x6)=>ZsM x0 x1 x2 x3 x4 x5 x6
 )
def Zoe (a:(List ZnA)) (b:(List ZnA)):Option (ZnA×Int):=
 bif ((a.length:Int) == 0)then (
  Zrp a b true false false ([]:(List Int)) ([]:(List Int))
 )else (
  Zrp a b ((b.length:Int) == 0) false false ([]:(List Int)) ([]:(List Int))
 )
def ZqK:Option Bool:=
 some true
def ZoX (rec_:(List Int)→Int→Int→ZnE→Option (Out Unit Bool)) (t22:(List Int)) (t23:Int) (i:Int) (b:ZnE):Option (Out Unit Bool):=
 bif (decide (i < t23))then (
  (idx t22 i).bind fun w_=>
  (idx b.Words i).bind fun Word=>
  bif (Word != w_)then (
   some (.ret false)
  )else (
   chk (inK .i64 (i+1)) <|
   rec_ t22 t23 (i+1) b
  )
 )else (
  some (.brk ())
 )
def Zpo:Nat→(List Int)→Int→Int→ZnE→Option (Out Unit Bool)
 |0,_,_,_,_=>none
 |n_+1,t22,t23,i,b=>ZoX (Zpo n_) t22 t23 i b
def Zsi (n:Nat) (s:((List Int)×Int×Int×ZnE)):Option (Out Unit Bool):=Zpo n s.1 s.2.1 s.2.2.1 s.2.2.2
def Zqk (rec_:((List Int)×Int×Int×ZnE)→Option (Out Unit Bool)) (s:((List Int)×Int×Int×ZnE)):Option (Out Unit Bool):=ZoX (fun t22 t23 i b=>rec_ (t22,t23,i,b)) s.1 s.2.1 s.2.2.1 s.2.2.2
theorem Zt6:∀n s,Zsi (n+1) s=Zqk (Zsi n) s:=fun _ _=>rfl
def Zpp (t20:Bool) (a:ZnE) (b:ZnE):Option Bool:=
 bif t20 then (
  some false
 )else (
  (Zpo big a.Words (a.Words.length:Int) (0:Int) b).bind fun
   | .ret q_=>some q_
   | .brk ()=>ZqK
 )
def ZoE (a:ZnE) (b:ZnE):Option Bool:=
 bif (!(a.Neg == b.Neg))then (
  Zpp true a b
 )else (
  Zpp ((a.Words.length:Int) != (b.Words.length:Int)) a b
 )
def Zqa (t4:Bool):Option Bool:=
 some t4
def Zop (a:ZnA) (b:ZnA):Option Bool:=
 (ZoE a.Num b.Num).bind fun q=>
 bif q then (
  (ZoE a.Den b.Den).bind fun q_1=>
  Zqa q_1
 )else (
  Zqa false
 )
def ZuD:Option (List (Int×Zow)):=
 some (setB (k:=(.int .i64)) (v:=(.st 4)) (car:=ZvQ) (setB (k:=(.int .i64)) (v:=(.st 4)) (car:=ZvQ) (setB (k:=(.int .i64)) (v:=(.st 4)) (car:=ZvQ) (setB (k:=(.int .i64)) (v:=(.st 4)) (car:=ZvQ) (setB (k:=(.int .i64)) (v:=(.st 4)) (car:=ZvQ) ([]:(List (Int×Zow))) 1 (Zow.mk ([116,101,120,116]:Str) (none:Option Nat) (some 183:Option Nat))) 2 (Zow.mk ([98,111,111,108]:Str) (some 184:Option Nat) (some 185:Option Nat))) 3 (Zow.mk ([105,110,116,101,103,101,114]:Str) (some 186:Option Nat) (some 187:Option Nat))) 4 (Zow.mk ([100,101,99,105,109,97,108]:Str) (some 188:Option Nat) (some 187:Option Nat))) 5 (Zow.mk ([100,97,116,101]:Str) (some 189:Option Nat) (some 190:Option Nat)))
def Zvh (s cs:Str):Option Str:=
 chk (cs.all fun b=>decide (b.toNat < 128)) <| chk (decide (cs.length < 4294967281)) <| some (Lib.trimS s cs)
def ZvX (s:Str):Option Str:=
 (Zvh s ([32]:Str)).bind fun q=>
 some q
def Zpv (t4:Bool):Option Bool:=
 some t4
def ZoQ (s:Str) (prefix_:Str):Option Bool:=
 bif (decide ((s.length:Int)≥(prefix_.length:Int)))then (
  chk (Zb9 0 (prefix_.length:Int) (s.length:Int)) <|
  Zpv ((s.take ((prefix_.length:Int)).toNat) == prefix_)
 )else (
  Zpv false
 )
def Zp9 (s:Str) (prefix_:Str):Option (Str×Bool):=
 (ZoQ s prefix_).bind fun q=>
 bif (!q)then (
  some (s,false)
 )else (
  chk (Zb9 (prefix_.length:Int) (s.length:Int) (s.length:Int)) <|
  some ((s.drop ((prefix_.length:Int)).toNat),true)
 )
def ZtP (s:Str) (prefix_:Str):Option (Str×Bool):=
 (Zp9 s prefix_).bind fun(after,found)=>
 some (after,found)
def ZpU (s:Str) (prefix_:Str):Option Str:=
 (ZoQ s prefix_).bind fun q=>
 bif q then (
  chk (Zb9 (prefix_.length:Int) (s.length:Int) (s.length:Int)) <|
  some (s.drop ((prefix_.length:Int)).toNat)
 )else (
  some s
 )
def Ztz (s:Str) (prefix_:Str):Option Str:=
 (ZpU s prefix_).bind fun q=>
 some q
def Zp8 (s:Str) (c:Int):Option Int:=
 some (Lib.indexByte s c.toNat.toUInt8)
def Zqo (s:Str) (substr:Str) (n:Int) (t16:Bool):Option Int:=
 bif t16 then (
  some (0:Int)
 )else (
  bif (n == 1)then (
   (idx substr 0).bind fun c=>
   (Zp8 s ((c.toNat:Nat):Int)).bind fun q=>
   some q
  )else (
   bif (decide (n≥(s.length:Int)))then (
    some (-1:Int)
   )else (
    none
   )
  )
 )
def ZqU (s:Str) (substr:Str):Option Int:=
 bif ((substr.length:Int) == 0)then (
  Zqo s substr (substr.length:Int) true
 )else (
  Zqo s substr (substr.length:Int) (substr == s)
 )
def Zry (s:Str) (sep:Str):Option (Str×Str×Bool):=
 (ZqU s sep).bind fun i=>
 bif (decide (i≥0))then (
  chk (Zb9 0 i (s.length:Int)) <|
  chk (inK .i64 (i+(sep.length:Int))) <|
  chk (Zb9 (i+(sep.length:Int)) (s.length:Int) (s.length:Int)) <|
  some ((s.take (i).toNat),(s.drop ((i+(sep.length:Int))).toNat),true)
 )else (
  some (s,([]:Str),false)
 )
def ZuK (s:Str) (sep:Str):Option (Str×Str×Bool):=
 (Zry s sep).bind fun(before,after,found)=>
 some (before,after,found)
def Zse (t4:Bool):Option Bool:=
 some t4
def Zto (s:Str) (most:Int):Option Bool:=
 bif (decide ((s.length:Int)≥1))then (
  bif (decide ((s.length:Int)≤most))then (
   (Zvh s ([48,49,50,51,52,53,54,55,56,57]:Str)).bind fun q=>
   Zse (q == ([]:Str))
  )else (
   Zse false
  )
 )else (
  Zse false
 )
def Zup (neg:Bool) (num:(List Int)) (den:(List Int)) (t2:Bool) (t2_1:Bool) (t2_2:(List Int)) (t2_3:(List Int)):Option (ZnA×Bool):=
 (Zn2 neg num).bind fun q=>
 (Zn2 false den).bind fun q_1=>
 (Zp2 q q_1).bind fun q_2=>
 some (q_2,true)
def Zvu (rec_:Bool→(List Int)→(List Int)→(List Int)→Int→Int→Bool→Bool→(List Int)→(List Int)→Option (Bool×(List Int)×(List Int)×Bool×Bool×(List Int)×(List Int))) (neg:Bool) (num:(List Int)) (ten:(List Int)) (den:(List Int)) (t63:Int) (t64:Int) (t2:Bool) (t2_1:Bool) (t2_2:(List Int)) (t2_3:(List Int)):Option (Bool×(List Int)×(List Int)×Bool×Bool×(List Int)×(List Int)):=
 bif (decide (t64 < t63))then (
  (ZoM den ten).bind fun den_1=>
  chk (inK .i64 (t64+1)) <|
  rec_ neg num ten den_1 t63 (t64+1) t2 t2_1 t2_2 t2_3
 )else (
  some (neg,num,den,t2,t2_1,t2_2,t2_3)
 )
def Ztf:Nat→Bool→(List Int)→(List Int)→(List Int)→Int→Int→Bool→Bool→(List Int)→(List Int)→Option (Bool×(List Int)×(List Int)×Bool×Bool×(List Int)×(List Int))
 |0,_,_,_,_,_,_,_,_,_,_=>none
 |n_+1,neg,num,ten,den,t63,t64,t2,t2_1,t2_2,t2_3=>Zvu (Ztf n_) neg num ten den t63 t64 t2 t2_1 t2_2 t2_3
def Zuq (neg:Bool) (back:Str) (num:(List Int)) (ten:(List Int)) (t2:Bool) (t2_1:Bool) (den:(List Int)) (t2_2:(List Int)) (t2_3:(List Int)):Option (ZnA×Bool):=
 (Ztf big neg num ten den (back.length:Int) (0:Int) t2 t2_1 t2_2 t2_3).bind fun(x0,x1,x2,x3,x4,x5,x6)=>Zup x0 x1 x2 x3 x4 x5 x6
def Zvv (rec_:Bool→Str→(List Int)→(List Int)→Int→Int→Bool→Bool→(List Int)→(List Int)→(List Int)→(List Int)→Option (Bool×Str×(List Int)×(List Int)×Bool×Bool×(List Int)×(List Int)×(List Int))) (neg:Bool) (back:Str) (num:(List Int)) (ten:(List Int)) (t48:Int) (t49:Int) (t2:Bool) (t2_1:Bool) (den:(List Int)) (t47:(List Int)) (t2_2:(List Int)) (t2_3:(List Int)):Option (Bool×Str×(List Int)×(List Int)×Bool×Bool×(List Int)×(List Int)×(List Int)):=
 bif (decide (t49 < t48))then (
  chk (inR t49 (t47.length:Int)) <|
  (t47[(t49).toNat]?).bind fun d=>
  (ZoM num ten).bind fun q=>
  (Zp3 (IntKind.wrap .u64 (IntKind.wrap .u8 (d - 48)))).bind fun q_1=>
  (ZpA q q_1).bind fun num_1=>
  chk (inK .i64 (t49+1)) <|
  rec_ neg back num_1 ten t48 (t49+1) t2 t2_1 den t47 t2_2 t2_3
 )else (
  some (neg,back,num,ten,t2,t2_1,den,t2_2,t2_3)
 )
def Ztg:Nat→Bool→Str→(List Int)→(List Int)→Int→Int→Bool→Bool→(List Int)→(List Int)→(List Int)→(List Int)→Option (Bool×Str×(List Int)×(List Int)×Bool×Bool×(List Int)×(List Int)×(List Int))
 |0,_,_,_,_,_,_,_,_,_,_,_,_=>none
 |n_+1,neg,back,num,ten,t48,t49,t2,t2_1,den,t47,t2_2,t2_3=>Zvv (Ztg n_) neg back num ten t48 t49 t2 t2_1 den t47 t2_2 t2_3
def ZrM (neg:Bool) (front:Str) (back:Str) (t39:Bool) (t2:Bool) (t2_1:Bool) (t2_2:(List Int)) (t2_3:(List Int)):Option (ZnA×Bool):=
 bif t39 then (
  some ((ZnA.mk (ZnE.mk false ([]:(List Int))) (ZnE.mk false ([]:(List Int)))),false)
 )else (
  (Zn8 ([1]:List Int)).bind fun den=>
  chk (decide (front.length+back.length≤Zq)) <|
  chk (decide ((front++back).length≤281474976710656)) <|
  (Ztg big neg back ([]:(List Int)) ([10]:(List Int)) (((front++back).map fun b=>((b.toNat:Nat):Int)).length:Int) (0:Int) t2 t2_1 den ((front++back).map fun b=>((b.toNat:Nat):Int)) t2_2 t2_3).bind fun(x0,x1,x2,x3,x4,x5,x6,x7,x8)=>Zuq x0 x1 x2 x3 x4 x5 x6 x7 x8
 )
def Zth (body:Str) (neg:Bool) (t2:Bool) (t2_1:Bool) (t2_2:(List Int)) (t2_3:(List Int)):Option (ZnA×Bool):=
 (ZuK body ([46]:Str)).bind fun(front,back,point)=>
 (Zto front 15).bind fun q=>
 bif (!q)then (
  ZrM neg front back true t2 t2_1 t2_2 t2_3
 )else (
  bif point then (
   (Zto back 9).bind fun q_1=>
   ZrM neg front back (!q_1) t2 t2_1 t2_2 t2_3
  )else (
   ZrM neg front back false t2 t2_1 t2_2 t2_3
  )
 )
def ZsV (text:Str):Option (ZnA×Bool):=
 (ZtP text ([45]:Str)).bind fun(body,neg)=>
 bif (!neg)then (
  (Ztz text ([43]:Str)).bind fun body_1=>
  Zth body_1 neg false false ([]:(List Int)) ([]:(List Int))
 )else (
  Zth body neg false false ([]:(List Int)) ([]:(List Int))
 )
def ZtY (s cs:Str):Option Str:=
 chk (cs.all fun b=>decide (b.toNat < 128)) <| chk (decide (cs.length < 4294967281)) <| some (Lib.trimLeftS s cs)
def ZuV (s cs:Str):Option Str:=
 chk (cs.all fun b=>decide (b.toNat < 128)) <| chk (decide (cs.length < 4294967281)) <| some (Lib.trimRightS s cs)
def Zu9 (zero:Str):Option Str:=
 some zero
def ZvT (rec_:Str→(List Str)→Int→Int→Option (Out Str Str)) (zero:Str) (t6:(List Str)) (t7:Int) (t8:Int):Option (Out Str Str):=
 bif (decide (t8 < t7))then (
  (idx t6 t8).bind fun val=>
  bif (!(val == zero))then (
   some (.ret val)
  )else (
   chk (inK .i64 (t8+1)) <|
   rec_ zero t6 t7 (t8+1)
  )
 )else (
  some (.brk zero)
 )
def Zt4:Nat→Str→(List Str)→Int→Int→Option (Out Str Str)
 |0,_,_,_,_=>none
 |n_+1,zero,t6,t7,t8=>ZvT (Zt4 n_) zero t6 t7 t8
def Zu0 (vals:(List Str)):Option Str:=
 (Zt4 big ([]:Str) vals (vals.length:Int) (0:Int)).bind fun
  | .ret q_=>some q_
  | .brk x0=>Zu9 x0
def ZtV (out:Str):Option (Str×Bool):=
 some (out,true)
def ZtW (out:Str) (t43:Bool):Option (Str×Bool):=
 bif t43 then (
  chk (decide (([45]:Str).length+out.length≤Zq)) <|
  ZtV (([45]:Str)++out)
 )else (
  ZtV out
 )
def ZtX (t:Str) (out:Str):Option (Str×Bool):=
 (idx t 0).bind fun c=>
 bif (((c.toNat:Nat):Int) == 45)then (
  ZtW out (!(out == ([48]:Str)))
 )else (
  ZtW out false
 )
def ZuU (t:Str):Option (Str×Bool):=
 (ZsV t).bind fun(q,ok)=>
 bif (!ok)then (
  some (([]:Str),false)
 )else (
  (ZtY t ([43,45]:Str)).bind fun q_1=>
  (ZuK q_1 ([46]:Str)).bind fun(front,back,q_2)=>
  (ZtY front ([48]:Str)).bind fun front_1=>
  (ZuV back ([48]:Str)).bind fun back_1=>
  (Zu0 ([front_1,([48]:Str)]:(List Str))).bind fun out=>
  bif (!(back_1 == ([]:Str)))then (
   chk (decide (([46]:Str).length+back_1.length≤Zq)) <|
   chk (decide (out.length+(([46]:Str)++back_1).length≤Zq)) <|
   ZtX t (out++(([46]:Str)++back_1))
  )else (
   ZtX t out
  )
 )
def Zuc (n:Int) (s:Str):Option (Str×Bool):=
 (ZuD).bind fun q=>
 bif (!(Zg3 (k:=(.int .i64)) (v:=(.st 4)) (car:=ZvQ) q n).isSome)then (
  some (([]:Str),false)
 )else (
  bif (Option.isNone (((Zg3 (k:=(.int .i64)) (v:=(.st 4)) (car:=ZvQ) q n).getD (Zow.mk ([]:Str) (none:Option Nat) (none:Option Nat))).canonical))then (
   some (s,true)
  )else (
   (ZvX s).bind fun q_1=>
   chk (decide (((Zg3 (k:=(.int .i64)) (v:=(.st 4)) (car:=ZvQ) q n).getD (Zow.mk ([]:Str) (none:Option Nat) (none:Option Nat))).canonical=some 188)) <|
   (ZuU q_1).bind fun(q_2,q_3)=>
   some (q_2,q_3)
  )
 )
def Zvr (n:Int) (s:Str):Option (ZnA×Bool):=
 (Zuc n s).bind fun(t,ok)=>
 bif (!ok)then (
  some ((ZnA.mk (ZnE.mk false ([]:(List Int))) (ZnE.mk false ([]:(List Int)))),false)
 )else (
  (ZuD).bind fun q=>
  chk (decide (((Zg3 (k:=(.int .i64)) (v:=(.st 4)) (car:=ZvQ) q n).getD (Zow.mk ([]:Str) (none:Option Nat) (none:Option Nat))).value=some 187)) <|
  (ZsV t).bind fun(q_1,q_2)=>
  some (q_1,q_2)
 )
def ZtQ (c:ZnU):Option (ZnA×Bool):=
 bif c.Null then (
  (ZuR).bind fun q=>
  some (q,false)
 )else (
  (Zvr 4 c.Text).bind fun(q_1,q_2)=>
  some (q_1,q_2)
 )
def ZuW (x_:Int):Option Int:=
 (Ztm x_).bind fun q=>
 some q
def Zpy (data:(List ZnA)):Option (List ZnA):=
 some data
def Zpz (rec_:Int→Int→Int→(List ZnA)→Option (List ZnA)) (a:Int) (b:Int) (i:Int) (data:(List ZnA)):Option (List ZnA):=
 chk (inK .i64 (i+1)) <|
 rec_ a b (i+1) data
def Zoz (rec_:Int→Int→Int→Int→(List ZnA)→Option (Int×Int×Int×(List ZnA))) (a:Int) (b:Int) (i:Int) (j:Int) (t34:Bool) (data:(List ZnA)):Option (Int×Int×Int×(List ZnA)):=
 bif t34 then (
  chk (inK .i64 (j - 1)) <|
  chk (inK .i64 (j - 1)) <|
  chk (inR (j - 1) (data.length:Int)) <|
  (data[((j - 1)).toNat]?).bind fun data_e=>
  chk (inR j (data.length:Int)) <|
  (data[(j).toNat]?).bind fun data_e_1=>
  chk (inR j (data.length:Int)) <|
  chk (inR (j - 1) ((data.set ((j).toNat) data_e).length:Int)) <|
  chk (inK .i64 (j - 1)) <|
  rec_ a b i (j - 1) ((data.set ((j).toNat) data_e).set (((j - 1)).toNat) data_e_1)
 )else (
  some (a,b,i,data)
 )
def Zr1 (rec_:Int→Int→Int→Int→(List ZnA)→Option (Int×Int×Int×(List ZnA))) (a:Int) (b:Int) (i:Int) (j:Int) (data:(List ZnA)):Option (Int×Int×Int×(List ZnA)):=
 bif (decide (j > a))then (
  chk (inR j (data.length:Int)) <|
  (data[(j).toNat]?).bind fun data_e=>
  chk (inK .i64 (j - 1)) <|
  chk (inR (j - 1) (data.length:Int)) <|
  (data[((j - 1)).toNat]?).bind fun data_e_1=>
  (ZpI data_e data_e_1).bind fun q=>
  Zoz rec_ a b i j (decide (q < 0)) data
 )else (
  Zoz rec_ a b i j false data
 )
def Zn0:Nat→Int→Int→Int→Int→(List ZnA)→Option (Int×Int×Int×(List ZnA))
 |0,_,_,_,_,_=>none
 |n_+1,a,b,i,j,data=>Zr1 (Zn0 n_) a b i j data
def Zr2 (rec_:Int→Int→Int→(List ZnA)→Option (List ZnA)) (a:Int) (b:Int) (i:Int) (data:(List ZnA)):Option (List ZnA):=
 bif (decide (i < b))then (
  (Zn0 big a b i i data).bind fun(x0,x1,x2,x3)=>Zpz rec_ x0 x1 x2 x3
 )else (
  some data
 )
def Zn1:Nat→Int→Int→Int→(List ZnA)→Option (List ZnA)
 |0,_,_,_,_=>none
 |n_+1,a,b,i,data=>Zr2 (Zn1 n_) a b i data
def Zp7 (data:(List ZnA)) (a:Int) (b:Int):Option (List ZnA):=
 chk (inK .i64 (a+1)) <|
 (Zn1 big a b (a+1) data).bind fun x0=>Zpy x0
def ZpH (data:(List ZnA)) (a:Int) (b:Int):Option (List ZnA):=
 (Zp7 data a b).bind fun r=>chk (decide (r.length=data.length)&&true) (some r)
def ZsL (rec_:Int→Int→Int→Bool→Bool→(List ZnA)→Option (Out Unit (List ZnA))) (a:Int) (b:Int) (limit:Int) (wasBalanced:Bool) (wasPartitioned:Bool) (data:(List ZnA)):Option (Out Unit (List ZnA)):=
 chk (inK .i64 (b - a)) <|
 bif (decide ((b - a)≤12))then (
  (ZpH data a b).bind fun t26=>
  some (.ret t26)
 )else (
  bif (limit == 0)then (
   none
  )else (
   bif (!wasBalanced)then (
    none
   )else (
    none
   )
  )
 )
def ZoV:Nat→Int→Int→Int→Bool→Bool→(List ZnA)→Option (Out Unit (List ZnA))
 |0,_,_,_,_,_,_=>none
 |n_+1,a,b,limit,wasBalanced,wasPartitioned,data=>ZsL (ZoV n_) a b limit wasBalanced wasPartitioned data
def Zq3 (data:(List ZnA)) (a:Int) (b:Int) (limit:Int):Option (List ZnA):=
 (ZoV big a b limit true true data).bind fun
  | .ret q_=>some q_
  | .brk _=>none
def ZqG (data:(List ZnA)) (a:Int) (b:Int) (limit:Int):Option (List ZnA):=
 (Zq3 data a b limit).bind fun r=>chk (decide (r.length=data.length)&&true) (some r)
def ZpT (x_:(List ZnA)):Option (List ZnA):=
 (ZuW (IntKind.wrap .u64 (x_.length:Int))).bind fun q=>
 (ZqG x_ 0 (x_.length:Int) q).bind fun t7=>
 some t7
def ZoA (x_:(List ZnA)):Option (List ZnA):=
 (ZpT x_).bind fun r=>chk (decide (r.length=x_.length)&&true) (some r)
def Zs4 (out:(List ZnA)):Option (List ZnA):=
 (ZoA out).bind fun t26=>
 some t26
def ZrH (rec_:(List ZnU)→Int→Int→(List ZnA)→Option (List ZnA)) (t9:(List ZnU)) (t10:Int) (t11:Int) (out:(List ZnA)):Option (List ZnA):=
 chk (inK .i64 (t11+1)) <|
 rec_ t9 t10 (t11+1) out
def ZsA (rec_:(List ZnU)→Int→Int→(List ZnA)→Option (List ZnA)) (t9:(List ZnU)) (t10:Int) (t11:Int) (out:(List ZnA)):Option (List ZnA):=
 bif (decide (t11 < t10))then (
  (idx t9 t11).bind fun x_=>
  (ZtQ x_).bind fun(v_,ok)=>
  bif ok then (
   chk (ZiZ (out.length+([v_]:(List ZnA)).length) 64) <|
   ZrH rec_ t9 t10 t11 (out++([v_]:(List ZnA)))
  )else (
   ZrH rec_ t9 t10 t11 out
  )
 )else (
  some out
 )
def ZqE:Nat→(List ZnU)→Int→Int→(List ZnA)→Option (List ZnA)
 |0,_,_,_,_=>none
 |n_+1,t9,t10,t11,out=>ZsA (ZqE n_) t9 t10 t11 out
def Zt0 (n:Nat) (s:((List ZnU)×Int×Int×(List ZnA))):Option (List ZnA):=ZqE n s.1 s.2.1 s.2.2.1 s.2.2.2
def Zt1 (rec_:((List ZnU)×Int×Int×(List ZnA))→Option (List ZnA)) (s:((List ZnU)×Int×Int×(List ZnA))):Option (List ZnA):=ZsA (fun t9 t10 t11 out=>rec_ (t9,t10,t11,out)) s.1 s.2.1 s.2.2.1 s.2.2.2
theorem Zvk:∀n s,Zt0 (n+1) s=Zt1 (Zt0 n) s:=fun _ _=>rfl
def ZrI (c:ZqF):Option (List ZnA):=
 (ZqE big c.Cells (c.Cells.length:Int) (0:Int) ([]:(List ZnA))).bind fun x0=>Zs4 x0
def Zod (t0:Bool):Option Bool:=
 some t0
def Zoy:Option Bool:=
 (ZnI 1).bind fun q=>
 (ZnI 2).bind fun q_1=>
 (ZnI 3).bind fun q_2=>
 (ZnI 4).bind fun q_3=>
 (ZqD ([q,q_1,q_2,q_3]:(List ZnA)) 1 2).bind fun(x_,e)=>
 chk (Zb9 0 2 (([q,q_1,q_2,q_3]:(List ZnA)).length:Int)) <|
 chk (Zb9 1 3 (([q,q_1,q_2,q_3]:(List ZnA)).length:Int)) <|
 (Zoe ((([q,q_1,q_2,q_3]:(List ZnA)).drop 0).take (((2:Int)).toNat - 0)) ((([q,q_1,q_2,q_3]:(List ZnA)).drop (((1:Int)).toNat)).take (((3:Int)).toNat - ((1:Int)).toNat))).bind fun(d,f)=>
 bif (e == 0)then (
  bif (f == 0)then (
   (ZnI 2).bind fun q_4=>
   (Zop x_ q_4).bind fun q_5=>
   bif q_5 then (
    (Zoq 1 2).bind fun q_6=>
    (Zop d q_6).bind fun q_7=>
    bif q_7 then (
     (ZrI (ZqF.mk ([]:Str) ([(ZnU.mk false ([51]:Str)),(ZnU.mk true ([]:Str)),(ZnU.mk false ([120]:Str))]:(List ZnU)))).bind fun q_8=>
     Zod ((q_8.length:Int) == 1)
    )else (
     Zod false
    )
   )else (
    Zod false
   )
  )else (
   Zod false
  )
 )else (
  Zod false
 )
def ZrE (t:(List Int)):Option ZnB:=
 some (ZnB.mk t 0)
def Zp4 (n:Int) (m:Int):Option Int:=
 bif (decide (m < 1))then (
  some (0:Int)
 )else (
  chk (decide (m≠0)) <|
  chk (inK .i64 ((Int.tmod n m)+m)) <|
  chk (decide (m≠0)) <|
  some (Int.tmod ((Int.tmod n m)+m) m)
 )
def Zom (d:ZnB) (n:Int):Option (Int×ZnB):=
 bif (decide (d.at_≥(d.l.length:Int)))then (
  some (0,d)
 )else (
  chk (inK .i64 (d.at_+1)) <|
  chk (inK .i64 ((d.at_+1) - 1)) <|
  (idx d.l ((d.at_+1) - 1)).bind fun l_e=>
  (Zp4 l_e n).bind fun q=>
  some (q,(ZnB.mk d.l (d.at_+1)))
 )
def Zpm (d:ZnB):Option (ZnA×ZnB):=
 (Zom d 13).bind fun(q,t3)=>
 chk (inK .i64 (q - 4)) <|
 (Zom t3 4).bind fun(q_1,t6)=>
 chk (inK .i64 (1+q_1)) <|
 (Zoq (q - 4) (1+q_1)).bind fun q_2=>
 some (q_2,t6)
def Zox (t24:Bool) (f:ZnA):Option Bool:=
 bif t24 then (
  some false
 )else (
  bif ((f.Num.Words.length:Int) == 0)then (
   (Zn3 f.Den.Words ([1]:(List Int))).bind fun q=>
   some (q == 0)
  )else (
   (Zo5 f.Num.Words f.Den.Words).bind fun q_1=>
   (Zn3 q_1 ([1]:(List Int))).bind fun q_2=>
   some (q_2 == 0)
  )
 )
def ZoP (f:ZnA):Option Bool:=
 (Zoc f.Num).bind fun q=>
 bif (!q)then (
  Zox true f
 )else (
  (Zoc f.Den).bind fun q_1=>
  bif (!q_1)then (
   Zox true f
  )else (
   bif f.Den.Neg then (
    Zox true f
   )else (
    Zox ((f.Den.Words.length:Int) == 0) f
   )
  )
 )
def ZrR (out:(List Int)):Option (List Int):=
 (ZnV out).bind fun q=>
 some q
def ZrS (rec_:(List Int)→(List Int)→Int→(List Int)→Option (List Int)) (a:(List Int)) (b:(List Int)) (i:Int) (c:Int) (out:(List Int)):Option (List Int):=
 chk (inK .i64 (i+(b.length:Int))) <|
 chk (inR (i+(b.length:Int)) (out.length:Int)) <|
 chk (inK .i64 (i+1)) <|
 rec_ a b (i+1) (out.set (((i+(b.length:Int))).toNat) (IntKind.wrap .u32 c))
def ZpM (rec_:(List Int)→(List Int)→Int→Int→Int→(List Int)→Option ((List Int)×(List Int)×Int×Int×(List Int))) (a:(List Int)) (b:(List Int)) (i:Int) (c:Int) (j:Int) (out:(List Int)):Option ((List Int)×(List Int)×Int×Int×(List Int)):=
 bif (decide (j < (b.length:Int)))then (
  (idx a i).bind fun a_e=>
  (idx b j).bind fun b_e=>
  chk (inK .i64 (i+j)) <|
  chk (inR (i+j) (out.length:Int)) <|
  (out[((i+j)).toNat]?).bind fun out_e=>
  chk (inK .i64 (i+j)) <|
  chk (inR (i+j) (out.length:Int)) <|
  chk (decide (0≤(32:Int))) <|
  chk (inK .i64 (j+1)) <|
  rec_ a b i (shrK .u64 (IntKind.wrap .u64 (c+(IntKind.wrap .u64 ((IntKind.wrap .u64 ((IntKind.wrap .u64 a_e)*(IntKind.wrap .u64 b_e)))+(IntKind.wrap .u64 out_e))))) 32) (j+1) (out.set (((i+j)).toNat) (IntKind.wrap .u32 (IntKind.wrap .u64 (c+(IntKind.wrap .u64 ((IntKind.wrap .u64 ((IntKind.wrap .u64 a_e)*(IntKind.wrap .u64 b_e)))+(IntKind.wrap .u64 out_e)))))))
 )else (
  some (a,b,i,c,out)
 )
def Zqt:Nat→(List Int)→(List Int)→Int→Int→Int→(List Int)→Option ((List Int)×(List Int)×Int×Int×(List Int))
 |0,_,_,_,_,_,_=>none
 |n_+1,a,b,i,c,j,out=>ZpM (Zqt n_) a b i c j out
def ZsZ (n:Nat) (s:((List Int)×(List Int)×Int×Int×Int×(List Int))):Option ((List Int)×(List Int)×Int×Int×(List Int)):=Zqt n s.1 s.2.1 s.2.2.1 s.2.2.2.1 s.2.2.2.2.1 s.2.2.2.2.2
def Zq7 (rec_:((List Int)×(List Int)×Int×Int×Int×(List Int))→Option ((List Int)×(List Int)×Int×Int×(List Int))) (s:((List Int)×(List Int)×Int×Int×Int×(List Int))):Option ((List Int)×(List Int)×Int×Int×(List Int)):=ZpM (fun a b i c j out=>rec_ (a,b,i,c,j,out)) s.1 s.2.1 s.2.2.1 s.2.2.2.1 s.2.2.2.2.1 s.2.2.2.2.2
theorem ZuF:∀n s,ZsZ (n+1) s=Zq7 (ZsZ n) s:=fun _ _=>rfl
def ZpN (rec_:(List Int)→(List Int)→Int→(List Int)→Option (List Int)) (a:(List Int)) (b:(List Int)) (i:Int) (out:(List Int)):Option (List Int):=
 bif (decide (i < (a.length:Int)))then (
  (Zqt big a b i (0:Int) (0:Int) out).bind fun(x0,x1,x2,x3,x4)=>ZrS rec_ x0 x1 x2 x3 x4
 )else (
  some out
 )
def Zpd:Nat→(List Int)→(List Int)→Int→(List Int)→Option (List Int)
 |0,_,_,_,_=>none
 |n_+1,a,b,i,out=>ZpN (Zpd n_) a b i out
def Zs0 (n:Nat) (s:((List Int)×(List Int)×Int×(List Int))):Option (List Int):=Zpd n s.1 s.2.1 s.2.2.1 s.2.2.2
def Zq8 (rec_:((List Int)×(List Int)×Int×(List Int))→Option (List Int)) (s:((List Int)×(List Int)×Int×(List Int))):Option (List Int):=ZpN (fun a b i out=>rec_ (a,b,i,out)) s.1 s.2.1 s.2.2.1 s.2.2.2
theorem ZuG:∀n s,Zs0 (n+1) s=Zq8 (Zs0 n) s:=fun _ _=>rfl
def Zqf (a:(List Int)) (b:(List Int)):Option (List Int):=
 chk (inK .i64 ((a.length:Int)+(b.length:Int))) <|
 chk (mkOk ((a.length:Int)+(b.length:Int)) ((a.length:Int)+(b.length:Int)) 4) <|
 (Zpd big a b (0:Int) (List.replicate (((a.length:Int)+(b.length:Int))).toNat (0:Int))).bind fun x0=>ZrR x0
def Zof (a:ZnE) (b:ZnE):Option ZnE:=
 (Zqf a.Words b.Words).bind fun q=>
 (ZnO (!(a.Neg == b.Neg)) q).bind fun q_1=>
 some q_1
def Zpx (a:ZnE):Option ZnE:=
 (ZnO (!a.Neg) a.Words).bind fun q=>
 some q
def Zr0 (c:Int) (out:(List Int)):Option (List Int):=
 chk (ZiZ (out.length+([(IntKind.wrap .u32 c)]:(List Int)).length) 4) <|
 some (out++([(IntKind.wrap .u32 c)]:(List Int)))
def Zph (rec_:(List Int)→(List Int)→Int→Int→(List Int)→Option (Int×(List Int))) (a:(List Int)) (b:(List Int)) (c:Int) (i:Int) (out:(List Int)):Option (Int×(List Int)):=
 chk (ZiZ (out.length+([(IntKind.wrap .u32 c)]:(List Int)).length) 4) <|
 chk (decide (0≤(32:Int))) <|
 chk (inK .i64 (i+1)) <|
 rec_ a b (shrK .u64 c 32) (i+1) (out++([(IntKind.wrap .u32 c)]:(List Int)))
def Zpi (rec_:(List Int)→(List Int)→Int→Int→(List Int)→Option (Int×(List Int))) (a:(List Int)) (b:(List Int)) (c:Int) (i:Int) (out:(List Int)):Option (Int×(List Int)):=
 bif (decide (i < (b.length:Int)))then (
  (idx b i).bind fun b_e=>
  Zph rec_ a b (IntKind.wrap .u64 (c+(IntKind.wrap .u64 b_e))) i out
 )else (
  Zph rec_ a b c i out
 )
def ZoL (rec_:(List Int)→(List Int)→Int→Int→(List Int)→Option (Int×(List Int))) (a:(List Int)) (b:(List Int)) (c:Int) (i:Int) (t17:Bool) (out:(List Int)):Option (Int×(List Int)):=
 bif t17 then (
  bif (decide (i < (a.length:Int)))then (
   (idx a i).bind fun a_e=>
   Zpi rec_ a b (IntKind.wrap .u64 (c+(IntKind.wrap .u64 a_e))) i out
  )else (
   Zpi rec_ a b c i out
  )
 )else (
  some (c,out)
 )
def ZpQ (rec_:(List Int)→(List Int)→Int→Int→(List Int)→Option (Int×(List Int))) (a:(List Int)) (b:(List Int)) (c:Int) (i:Int) (out:(List Int)):Option (Int×(List Int)):=
 bif (decide (i < (a.length:Int)))then (
  ZoL rec_ a b c i true out
 )else (
  ZoL rec_ a b c i (decide (i < (b.length:Int))) out
 )
def Zot:Nat→(List Int)→(List Int)→Int→Int→(List Int)→Option (Int×(List Int))
 |0,_,_,_,_,_=>none
 |n_+1,a,b,c,i,out=>ZpQ (Zot n_) a b c i out
def Zs3 (n:Nat) (s:((List Int)×(List Int)×Int×Int×(List Int))):Option (Int×(List Int)):=Zot n s.1 s.2.1 s.2.2.1 s.2.2.2.1 s.2.2.2.2
def Zrd (rec_:((List Int)×(List Int)×Int×Int×(List Int))→Option (Int×(List Int))) (s:((List Int)×(List Int)×Int×Int×(List Int))):Option (Int×(List Int)):=ZpQ (fun a b c i out=>rec_ (a,b,c,i,out)) s.1 s.2.1 s.2.2.1 s.2.2.2.1 s.2.2.2.2
theorem ZuJ:∀n s,Zs3 (n+1) s=Zrd (Zs3 n) s:=fun _ _=>rfl
def Zo7 (a:(List Int)) (b:(List Int)):Option (List Int):=
 (Zot big a b (0:Int) (0:Int) ([]:(List Int))).bind fun(x0,x1)=>Zr0 x0 x1
def ZpR (a:ZnE) (b:ZnE):Option ZnE:=
 bif (a.Neg == b.Neg)then (
  (Zo7 a.Words b.Words).bind fun q=>
  (ZnO a.Neg q).bind fun q_1=>
  some q_1
 )else (
  (Zn3 a.Words b.Words).bind fun q_2=>
  bif (decide (q_2≥0))then (
   (Zou a.Words b.Words).bind fun q_3=>
   (ZnO a.Neg q_3).bind fun q_4=>
   some q_4
  )else (
   (Zou b.Words a.Words).bind fun q_5=>
   (ZnO b.Neg q_5).bind fun q_6=>
   some q_6
  )
 )
def Zqy (t13:Bool) (a:ZnA) (b:ZnA):Option Int:=
 bif t13 then (
  some (0:Int)
 )else (
  (Zof a.Num b.Den).bind fun q=>
  (Zof b.Num a.Den).bind fun q_1=>
  (Zpx q_1).bind fun q_2=>
  (ZpR q q_2).bind fun x_=>
  bif ((x_.Words.length:Int) == 0)then (
   some (0:Int)
  )else (
   bif x_.Neg then (
    some (-1:Int)
   )else (
    some (1:Int)
   )
  )
 )
def Zo8 (a:ZnA) (b:ZnA):Option Int:=
 (ZoP a).bind fun q=>
 bif (!q)then (
  Zqy true a b
 )else (
  (ZoP b).bind fun q_1=>
  Zqy (!q_1) a b
 )
def Zor (a:ZnA) (b:ZnA):Option Bool:=
 (Zo8 a b).bind fun q=>
 some (decide (q < 0))
def ZqM (d:ZnB) (l:(List ZnA)):Option ((List ZnA)×ZnB):=
 some (l,d)
def ZqN (rec_:Int→ZnB→(List ZnA)→Option (ZnB×(List ZnA))) (k:Int) (i:Int) (d:ZnB) (l:(List ZnA)) (f:ZnA):Option (ZnB×(List ZnA)):=
 chk (Zb9 0 i (l.length:Int)) <|
 chk (ZiZ ((l.drop 0).take ((i).toNat - 0)).length 64) <|
 chk (ZiZ (((l.drop 0).take ((i).toNat - 0)).length+([f]:(List ZnA)).length) 64) <|
 chk (Zb9 i (l.length:Int) (l.length:Int)) <|
 chk (ZiZ ((((l.drop 0).take ((i).toNat - 0))++([f]:(List ZnA))).length+((l.drop ((i).toNat)).take ((l.length:Int).toNat - (i).toNat)).length) 64) <|
 chk (inK .i64 (k - 1)) <|
 rec_ (k - 1) d ((((l.drop 0).take ((i).toNat - 0))++([f]:(List ZnA)))++((l.drop ((i).toNat)).take ((l.length:Int).toNat - (i).toNat)))
def Zps (rec_:Int→Int→ZnB→(List ZnA)→ZnA→Option (Int×Int×ZnB×(List ZnA)×ZnA)) (k:Int) (i:Int) (t31:Bool) (d:ZnB) (l:(List ZnA)) (f:ZnA):Option (Int×Int×ZnB×(List ZnA)×ZnA):=
 bif t31 then (
  chk (inK .i64 (i - 1)) <|
  rec_ k (i - 1) d l f
 )else (
  some (k,i,d,l,f)
 )
def Zql (rec_:Int→Int→ZnB→(List ZnA)→ZnA→Option (Int×Int×ZnB×(List ZnA)×ZnA)) (k:Int) (i:Int) (d:ZnB) (l:(List ZnA)) (f:ZnA):Option (Int×Int×ZnB×(List ZnA)×ZnA):=
 bif (decide (i > 0))then (
  chk (inK .i64 (i - 1)) <|
  chk (inR (i - 1) (l.length:Int)) <|
  (l[((i - 1)).toNat]?).bind fun l_e=>
  (Zor f l_e).bind fun q=>
  Zps rec_ k i q d l f
 )else (
  Zps rec_ k i false d l f
 )
def Zoo:Nat→Int→Int→ZnB→(List ZnA)→ZnA→Option (Int×Int×ZnB×(List ZnA)×ZnA)
 |0,_,_,_,_,_=>none
 |n_+1,k,i,d,l,f=>Zql (Zoo n_) k i d l f
def Zsj (n:Nat) (s:(Int×Int×ZnB×(List ZnA)×ZnA)):Option (Int×Int×ZnB×(List ZnA)×ZnA):=Zoo n s.1 s.2.1 s.2.2.1 s.2.2.2.1 s.2.2.2.2
def Zsk (rec_:(Int×Int×ZnB×(List ZnA)×ZnA)→Option (Int×Int×ZnB×(List ZnA)×ZnA)) (s:(Int×Int×ZnB×(List ZnA)×ZnA)):Option (Int×Int×ZnB×(List ZnA)×ZnA):=Zql (fun k i d l f=>rec_ (k,i,d,l,f)) s.1 s.2.1 s.2.2.1 s.2.2.2.1 s.2.2.2.2
theorem Zt7:∀n s,Zsj (n+1) s=Zsk (Zsj n) s:=fun _ _=>rfl
def Zqm (rec_:Int→ZnB→(List ZnA)→Option (ZnB×(List ZnA))) (k:Int) (d:ZnB) (l:(List ZnA)):Option (ZnB×(List ZnA)):=
 bif (decide (k > 0))then (
  (Zpm d).bind fun(f,t17)=>
  (Zoo big k (l.length:Int) t17 l f).bind fun(x0,x1,x2,x3,x4)=>ZqN rec_ x0 x1 x2 x3 x4
 )else (
  some (d,l)
 )
def ZoG:Nat→Int→ZnB→(List ZnA)→Option (ZnB×(List ZnA))
 |0,_,_,_=>none
 |n_+1,k,d,l=>Zqm (ZoG n_) k d l
def Zsl (n:Nat) (s:(Int×ZnB×(List ZnA))):Option (ZnB×(List ZnA)):=ZoG n s.1 s.2.1 s.2.2
def Zsm (rec_:(Int×ZnB×(List ZnA))→Option (ZnB×(List ZnA))) (s:(Int×ZnB×(List ZnA))):Option (ZnB×(List ZnA)):=Zqm (fun k d l=>rec_ (k,d,l)) s.1 s.2.1 s.2.2
theorem Zt8:∀n s,Zsl (n+1) s=Zsm (Zsl n) s:=fun _ _=>rfl
def ZoF (d:ZnB) (most:Int):Option ((List ZnA)×ZnB):=
 chk (inK .i64 (most+1)) <|
 (Zom d (most+1)).bind fun(k,t9)=>
 (ZoG big k t9 ([]:(List ZnA))).bind fun(x0,x1)=>ZqM x0 x1
def ZnL (t6:Int) (t7:Bool):Option (Int×Bool):=
 some (t6,t7)
def ZnS (x_:(List ZnA)) (n:Int) (i:Int) (target:ZnA):Option (Int×Bool):=
 bif (decide (i < n))then (
  (idx x_ i).bind fun x__e=>
  (ZpI x__e target).bind fun q=>
  ZnL i (q == 0)
 )else (
  ZnL i false
 )
def ZnQ (rec_:(List ZnA)→Int→Int→Int→ZnA→Option ((List ZnA)×Int×Int×ZnA)) (x_:(List ZnA)) (n:Int) (i:Int) (j:Int) (target:ZnA):Option ((List ZnA)×Int×Int×ZnA):=
 bif (decide (i < j))then (
  chk (inK .i64 (i+j)) <|
  chk (decide (0≤(1:Int))) <|
  (idx x_ (IntKind.wrap .i64 (shrK .u64 (IntKind.wrap .u64 (i+j)) 1))).bind fun x__e=>
  (ZpI x__e target).bind fun q=>
  bif (decide (q < 0))then (
   chk (inK .i64 ((IntKind.wrap .i64 (shrK .u64 (IntKind.wrap .u64 (i+j)) 1))+1)) <|
   rec_ x_ n ((IntKind.wrap .i64 (shrK .u64 (IntKind.wrap .u64 (i+j)) 1))+1) j target
  )else (
   rec_ x_ n i (IntKind.wrap .i64 (shrK .u64 (IntKind.wrap .u64 (i+j)) 1)) target
  )
 )else (
  some (x_,n,i,target)
 )
def ZnK:Nat→(List ZnA)→Int→Int→Int→ZnA→Option ((List ZnA)×Int×Int×ZnA)
 |0,_,_,_,_,_=>none
 |n_+1,x_,n,i,j,target=>ZnQ (ZnK n_) x_ n i j target
def Zn9 (n:Nat) (s:((List ZnA)×Int×Int×Int×ZnA)):Option ((List ZnA)×Int×Int×ZnA):=ZnK n s.1 s.2.1 s.2.2.1 s.2.2.2.1 s.2.2.2.2
def Zoa (rec_:((List ZnA)×Int×Int×Int×ZnA)→Option ((List ZnA)×Int×Int×ZnA)) (s:((List ZnA)×Int×Int×Int×ZnA)):Option ((List ZnA)×Int×Int×ZnA):=ZnQ (fun x_ n i j target=>rec_ (x_,n,i,j,target)) s.1 s.2.1 s.2.2.1 s.2.2.2.1 s.2.2.2.2
theorem Zo4:∀n s,Zn9 (n+1) s=Zoa (Zn9 n) s:=fun _ _=>rfl
def ZnJ (x_:(List ZnA)) (target:ZnA):Option (Int×Bool):=
 (ZnK big x_ (x_.length:Int) (0:Int) (x_.length:Int) target).bind fun(x0,x1,x2,x3)=>ZnS x0 x1 x2 x3
def ZtB (out:(List Int)):Option ((List Int)×Int):=
 some (out,0)
def ZqR (rec_:(List ZnA)→(List ZnA)→Int→Int→(List Int)→Option (List Int)) (bounds:(List ZnA)) (k:Int) (t36:(List ZnA)) (t37:Int) (t38:Int) (out:(List Int)):Option (List Int):=
 chk (inR k (out.length:Int)) <|
 (out[(k).toNat]?).bind fun out_e=>
 chk (inK .i64 (out_e+1)) <|
 chk (inR k (out.length:Int)) <|
 chk (inK .i64 (t38+1)) <|
 rec_ bounds t36 t37 (t38+1) (out.set ((k).toNat) (out_e+1))
def Zrq (rec_:(List ZnA)→(List ZnA)→Int→Int→(List Int)→Option (List Int)) (bounds:(List ZnA)) (t36:(List ZnA)) (t37:Int) (t38:Int) (out:(List Int)):Option (List Int):=
 bif (decide (t38 < t37))then (
  (idx t36 t38).bind fun x_=>
  (ZnJ bounds x_).bind fun(k,ok)=>
  bif ok then (
   chk (inK .i64 (k+1)) <|
   ZqR rec_ bounds (k+1) t36 t37 t38 out
  )else (
   ZqR rec_ bounds k t36 t37 t38 out
  )
 )else (
  some out
 )
def ZqQ:Nat→(List ZnA)→(List ZnA)→Int→Int→(List Int)→Option (List Int)
 |0,_,_,_,_,_=>none
 |n_+1,bounds,t36,t37,t38,out=>Zrq (ZqQ n_) bounds t36 t37 t38 out
def Zt9 (n:Nat) (s:((List ZnA)×(List ZnA)×Int×Int×(List Int))):Option (List Int):=ZqQ n s.1 s.2.1 s.2.2.1 s.2.2.2.1 s.2.2.2.2
def ZsN (rec_:((List ZnA)×(List ZnA)×Int×Int×(List Int))→Option (List Int)) (s:((List ZnA)×(List ZnA)×Int×Int×(List Int))):Option (List Int):=Zrq (fun bounds t36 t37 t38 out=>rec_ (bounds,t36,t37,t38,out)) s.1 s.2.1 s.2.2.1 s.2.2.2.1 s.2.2.2.2
theorem Zvs:∀n s,Zt9 (n+1) s=ZsN (Zt9 n) s:=fun _ _=>rfl
def ZtC (l:(List ZnA)) (bounds:(List ZnA)):Option ((List Int)×Int):=
 chk (inK .i64 ((bounds.length:Int)+1)) <|
 chk (mkOk ((bounds.length:Int)+1) ((bounds.length:Int)+1) 8) <|
 (ZqQ big bounds l (l.length:Int) (0:Int) (List.replicate (((bounds.length:Int)+1)).toNat (0:Int))).bind fun x0=>ZtB x0
def ZsO (rec_:(List ZnA)→(List ZnA)→Int→Option (Out ((List ZnA)×(List ZnA)) ((List Int)×Int))) (l:(List ZnA)) (bounds:(List ZnA)) (i:Int):Option (Out ((List ZnA)×(List ZnA)) ((List Int)×Int)):=
 bif (decide (i < (bounds.length:Int)))then (
  chk (inK .i64 (i - 1)) <|
  (idx bounds (i - 1)).bind fun bound=>
  (idx bounds i).bind fun bound_1=>
  (ZpI bound bound_1).bind fun q=>
  bif (decide (q≥0))then (
   some (.ret (([]:(List Int)),2))
  )else (
   chk (inK .i64 (i+1)) <|
   rec_ l bounds (i+1)
  )
 )else (
  some (.brk (l,bounds))
 )
def Zp5:Nat→(List ZnA)→(List ZnA)→Int→Option (Out ((List ZnA)×(List ZnA)) ((List Int)×Int))
 |0,_,_,_=>none
 |n_+1,l,bounds,i=>ZsO (Zp5 n_) l bounds i
def Zua (n:Nat) (s:((List ZnA)×(List ZnA)×Int)):Option (Out ((List ZnA)×(List ZnA)) ((List Int)×Int)):=Zp5 n s.1 s.2.1 s.2.2
def Zub (rec_:((List ZnA)×(List ZnA)×Int)→Option (Out ((List ZnA)×(List ZnA)) ((List Int)×Int))) (s:((List ZnA)×(List ZnA)×Int)):Option (Out ((List ZnA)×(List ZnA)) ((List Int)×Int)):=ZsO (fun l bounds i=>rec_ (l,bounds,i)) s.1 s.2.1 s.2.2
theorem Zvt:∀n s,Zua (n+1) s=Zub (Zua n) s:=fun _ _=>rfl
def Zsp (l:(List ZnA)) (bounds:(List ZnA)):Option ((List Int)×Int):=
 bif (decide ((bounds.length:Int) > 64))then (
  some (([]:(List Int)),3)
 )else (
  (Zp5 big l bounds (1:Int)).bind fun
   | .ret q_=>some q_
   | .brk (x0,x1)=>ZtC x0 x1
 )
def ZpJ:Option ZnA:=
 (ZnI 0).bind fun q=>
 some q
def ZnN (t4:Bool):Option Bool:=
 some t4
def Zoi (a:(List ZnA)) (t133:Bool) (b:(List ZnA)):Option Bool:=
 bif t133 then (
  (Zoy).bind fun q=>
  some q
 )else (
  (Zoe a b).bind fun(x_,f)=>
  (Zoe b a).bind fun(y,g)=>
  (Zoe a a).bind fun(z,h_)=>
  bif (f == 0)then (
   bif (g == 0)then (
    bif (h_ == 0)then (
     (Zop x_ y).bind fun q_1=>
     bif q_1 then (
      (ZpJ).bind fun q_2=>
      (Zop z q_2).bind fun q_3=>
      bif q_3 then (
       (ZnI 1).bind fun q_4=>
       (Zo8 x_ q_4).bind fun q_5=>
       bif (decide (q_5≤0))then (
        (Zoy).bind fun q_6=>
        ZnN q_6
       )else (
        ZnN false
       )
      )else (
       ZnN false
      )
     )else (
      ZnN false
     )
    )else (
     ZnN false
    )
   )else (
    ZnN false
   )
  )else (
   ZnN false
  )
 )
def Zoj (a:(List ZnA)) (t125:Bool) (b:(List ZnA)):Option Bool:=
 bif t125 then (
  some false
 )else (
  bif ((a.length:Int) == 0)then (
   Zoi a true b
  )else (
   Zoi a ((b.length:Int) == 0) b
  )
 )
def ZpE (a:(List ZnA)) (e:Int) (sum:Int) (b:(List ZnA)) (counts:(List Int)):Option Bool:=
 bif (e != 0)then (
  Zoj a true b
 )else (
  bif (sum != (a.length:Int))then (
   Zoj a true b
  )else (
   Zoj a ((counts.length:Int) != 4) b
  )
 )
def Zpj (rec_:(List ZnA)→Int→Int→Int→Int→(List ZnA)→(List Int)→Option ((List ZnA)×Int×Int×(List ZnA)×(List Int))) (a:(List ZnA)) (e:Int) (sum:Int) (t104:Int) (t105:Int) (b:(List ZnA)) (counts:(List Int)):Option ((List ZnA)×Int×Int×(List ZnA)×(List Int)):=
 bif (decide (t105 < t104))then (
  chk (inR t105 (counts.length:Int)) <|
  (counts[(t105).toNat]?).bind fun k=>
  chk (inK .i64 (sum+k)) <|
  chk (inK .i64 (t105+1)) <|
  rec_ a e (sum+k) t104 (t105+1) b counts
 )else (
  some (a,e,sum,b,counts)
 )
def Zoh:Nat→(List ZnA)→Int→Int→Int→Int→(List ZnA)→(List Int)→Option ((List ZnA)×Int×Int×(List ZnA)×(List Int))
 |0,_,_,_,_,_,_,_=>none
 |n_+1,a,e,sum,t104,t105,b,counts=>Zpj (Zoh n_) a e sum t104 t105 b counts
def ZqY (n:Nat) (s:((List ZnA)×Int×Int×Int×Int×(List ZnA)×(List Int))):Option ((List ZnA)×Int×Int×(List ZnA)×(List Int)):=Zoh n s.1 s.2.1 s.2.2.1 s.2.2.2.1 s.2.2.2.2.1 s.2.2.2.2.2.1 s.2.2.2.2.2.2
def ZqZ (rec_:((List ZnA)×Int×Int×Int×Int×(List ZnA)×(List Int))→Option ((List ZnA)×Int×Int×(List ZnA)×(List Int))) (s:((List ZnA)×Int×Int×Int×Int×(List ZnA)×(List Int))):Option ((List ZnA)×Int×Int×(List ZnA)×(List Int)):=Zpj (fun a e sum t104 t105 b counts=>rec_ (a,e,sum,t104,t105,b,counts)) s.1 s.2.1 s.2.2.1 s.2.2.2.1 s.2.2.2.2.1 s.2.2.2.2.2.1 s.2.2.2.2.2.2
theorem Ztw:∀n s,ZqY (n+1) s=ZqZ (ZqY n) s:=fun _ _=>rfl
def ZpF (a:(List ZnA)) (b:(List ZnA)) (bounds:(List ZnA)):Option Bool:=
 (Zsp a bounds).bind fun(counts,e)=>
 (Zoh big a e (0:Int) (counts.length:Int) (0:Int) b counts).bind fun(x0,x1,x2,x3,x4)=>ZpE x0 x1 x2 x3 x4
def ZnT (rec_:(List ZnA)→Int→Int→(List ZnA)→(List ZnA)→ZnA→Option (Out ((List ZnA)×(List ZnA)×(List ZnA)) Bool)) (a:(List ZnA)) (n:Int) (p:Int) (t95:Bool) (b:(List ZnA)) (bounds:(List ZnA)) (last:ZnA) (x_:ZnA):Option (Out ((List ZnA)×(List ZnA)×(List ZnA)) Bool):=
 bif t95 then (
  some (.ret false)
 )else (
  chk (inK .i64 (p+1)) <|
  rec_ a n (p+1) b bounds x_
 )
def ZpG (rec_:(List ZnA)→Int→Int→(List ZnA)→(List ZnA)→ZnA→Option (Out ((List ZnA)×(List ZnA)×(List ZnA)) Bool)) (a:(List ZnA)) (n:Int) (p:Int) (e:Int) (Zvn:Int) (b:(List ZnA)) (bounds:(List ZnA)) (last:ZnA) (x_:ZnA):Option (Out ((List ZnA)×(List ZnA)×(List ZnA)) Bool):=
 bif (e != 0)then (
  ZnT rec_ a n p true b bounds last x_
 )else (
  bif (decide (p > 0))then (
   (Zor x_ last).bind fun q=>
   bif q then (
    ZnT rec_ a n p true b bounds last x_
   )else (
    chk (inK .i64 (Zvn*n)) <|
    chk (inK .i64 (p*(a.length:Int))) <|
    ZnT rec_ a n p (decide ((Zvn*n) < (p*(a.length:Int)))) b bounds last x_
   )
  )else (
   chk (inK .i64 (Zvn*n)) <|
   chk (inK .i64 (p*(a.length:Int))) <|
   ZnT rec_ a n p (decide ((Zvn*n) < (p*(a.length:Int)))) b bounds last x_
  )
 )
def ZoH (rec_:(List ZnA)→Int→Int→Int→Int→(List ZnA)→Int→Int→(List ZnA)→(List ZnA)→ZnA→ZnA→Option ((List ZnA)×Int×Int×Int×Int×(List ZnA)×(List ZnA)×ZnA×ZnA)) (a:(List ZnA)) (n:Int) (p:Int) (e:Int) (Zvn:Int) (t62:(List ZnA)) (t63:Int) (t64:Int) (b:(List ZnA)) (bounds:(List ZnA)) (last:ZnA) (x_:ZnA):Option ((List ZnA)×Int×Int×Int×Int×(List ZnA)×(List ZnA)×ZnA×ZnA):=
 chk (inK .i64 (t64+1)) <|
 rec_ a n p e Zvn t62 t63 (t64+1) b bounds last x_
def ZoC (rec_:(List ZnA)→Int→Int→Int→Int→(List ZnA)→Int→Int→(List ZnA)→(List ZnA)→ZnA→ZnA→Option ((List ZnA)×Int×Int×Int×Int×(List ZnA)×(List ZnA)×ZnA×ZnA)) (a:(List ZnA)) (n:Int) (p:Int) (e:Int) (Zvn:Int) (t62:(List ZnA)) (t63:Int) (t64:Int) (b:(List ZnA)) (bounds:(List ZnA)) (last:ZnA) (x_:ZnA):Option ((List ZnA)×Int×Int×Int×Int×(List ZnA)×(List ZnA)×ZnA×ZnA):=
 bif (decide (t64 < t63))then (
  (idx t62 t64).bind fun y=>
  (Zor x_ y).bind fun q=>
  bif (!q)then (
   chk (inK .i64 (Zvn+1)) <|
   ZoH rec_ a n p e (Zvn+1) t62 t63 t64 b bounds last x_
  )else (
   ZoH rec_ a n p e Zvn t62 t63 t64 b bounds last x_
  )
 )else (
  some (a,n,p,e,Zvn,b,bounds,last,x_)
 )
def ZnX:Nat→(List ZnA)→Int→Int→Int→Int→(List ZnA)→Int→Int→(List ZnA)→(List ZnA)→ZnA→ZnA→Option ((List ZnA)×Int×Int×Int×Int×(List ZnA)×(List ZnA)×ZnA×ZnA)
 |0,_,_,_,_,_,_,_,_,_,_,_,_=>none
 |n_+1,a,n,p,e,Zvn,t62,t63,t64,b,bounds,last,x_=>ZoC (ZnX n_) a n p e Zvn t62 t63 t64 b bounds last x_
def Zq0 (n:Nat) (s:((List ZnA)×Int×Int×Int×Int×(List ZnA)×Int×Int×(List ZnA)×(List ZnA)×ZnA×ZnA)):Option ((List ZnA)×Int×Int×Int×Int×(List ZnA)×(List ZnA)×ZnA×ZnA):=ZnX n s.1 s.2.1 s.2.2.1 s.2.2.2.1 s.2.2.2.2.1 s.2.2.2.2.2.1 s.2.2.2.2.2.2.1 s.2.2.2.2.2.2.2.1 s.2.2.2.2.2.2.2.2.1 s.2.2.2.2.2.2.2.2.2.1 s.2.2.2.2.2.2.2.2.2.2.1 s.2.2.2.2.2.2.2.2.2.2.2
def Zpk (rec_:((List ZnA)×Int×Int×Int×Int×(List ZnA)×Int×Int×(List ZnA)×(List ZnA)×ZnA×ZnA)→Option ((List ZnA)×Int×Int×Int×Int×(List ZnA)×(List ZnA)×ZnA×ZnA)) (s:((List ZnA)×Int×Int×Int×Int×(List ZnA)×Int×Int×(List ZnA)×(List ZnA)×ZnA×ZnA)):Option ((List ZnA)×Int×Int×Int×Int×(List ZnA)×(List ZnA)×ZnA×ZnA):=ZoC (fun a n p e Zvn t62 t63 t64 b bounds last x_=>rec_ (a,n,p,e,Zvn,t62,t63,t64,b,bounds,last,x_)) s.1 s.2.1 s.2.2.1 s.2.2.2.1 s.2.2.2.2.1 s.2.2.2.2.2.1 s.2.2.2.2.2.2.1 s.2.2.2.2.2.2.2.1 s.2.2.2.2.2.2.2.2.1 s.2.2.2.2.2.2.2.2.2.1 s.2.2.2.2.2.2.2.2.2.2.1 s.2.2.2.2.2.2.2.2.2.2.2
theorem Ztx:∀n s,Zq0 (n+1) s=Zpk (Zq0 n) s:=fun _ _=>rfl
def ZoI (rec_:(List ZnA)→Int→Int→(List ZnA)→(List ZnA)→ZnA→Option (Out ((List ZnA)×(List ZnA)×(List ZnA)) Bool)) (a:(List ZnA)) (n:Int) (p:Int) (t52:Bool) (b:(List ZnA)) (bounds:(List ZnA)) (last:ZnA):Option (Out ((List ZnA)×(List ZnA)×(List ZnA)) Bool):=
 bif t52 then (
  (ZqD a p n).bind fun(x_,e)=>
  (ZnX big a n p e (0:Int) a (a.length:Int) (0:Int) b bounds last x_).bind fun(x0,x1,x2,x3,x4,x5,x6,x7,x8)=>ZpG rec_ x0 x1 x2 x3 x4 x5 x6 x7 x8
 )else (
  some (.brk (a,b,bounds))
 )
def Zpl (rec_:(List ZnA)→Int→Int→(List ZnA)→(List ZnA)→ZnA→Option (Out ((List ZnA)×(List ZnA)×(List ZnA)) Bool)) (a:(List ZnA)) (n:Int) (p:Int) (b:(List ZnA)) (bounds:(List ZnA)) (last:ZnA):Option (Out ((List ZnA)×(List ZnA)×(List ZnA)) Bool):=
 bif (decide (p≤n))then (
  ZoI rec_ a n p (decide ((a.length:Int) > 0)) b bounds last
 )else (
  ZoI rec_ a n p false b bounds last
 )
def ZnM:Nat→(List ZnA)→Int→Int→(List ZnA)→(List ZnA)→ZnA→Option (Out ((List ZnA)×(List ZnA)×(List ZnA)) Bool)
 |0,_,_,_,_,_,_=>none
 |n_+1,a,n,p,b,bounds,last=>Zpl (ZnM n_) a n p b bounds last
def Zq1 (n:Nat) (s:((List ZnA)×Int×Int×(List ZnA)×(List ZnA)×ZnA)):Option (Out ((List ZnA)×(List ZnA)×(List ZnA)) Bool):=ZnM n s.1 s.2.1 s.2.2.1 s.2.2.2.1 s.2.2.2.2.1 s.2.2.2.2.2
def Zq2 (rec_:((List ZnA)×Int×Int×(List ZnA)×(List ZnA)×ZnA)→Option (Out ((List ZnA)×(List ZnA)×(List ZnA)) Bool)) (s:((List ZnA)×Int×Int×(List ZnA)×(List ZnA)×ZnA)):Option (Out ((List ZnA)×(List ZnA)×(List ZnA)) Bool):=Zpl (fun a n p b bounds last=>rec_ (a,n,p,b,bounds,last)) s.1 s.2.1 s.2.2.1 s.2.2.2.1 s.2.2.2.2.1 s.2.2.2.2.2
theorem Zty:∀n s,Zq1 (n+1) s=Zq2 (Zq1 n) s:=fun _ _=>rfl
def ZoY (t:(List Int)) (q:Int):Option Bool:=
 (Zrn t).bind fun q_1=>
 bif (!q_1)then (
  (Zoy).bind fun q_2=>
  some q_2
 )else (
  (ZrE t).bind fun d=>
  (ZoF d 9).bind fun(a,t34)=>
  (ZoF t34 9).bind fun(b,t36)=>
  (ZnI 0).bind fun q_3=>
  (ZnI 2).bind fun q_4=>
  (ZnI 5).bind fun q_5=>
  (Zp4 q 20).bind fun q_6=>
  chk (inK .i64 (1+q_6)) <|
  (ZnM big a (1+q_6) (0:Int) b ([q_3,q_4,q_5]:(List ZnA)) (ZnA.mk (ZnE.mk false ([]:(List Int))) (ZnE.mk false ([]:(List Int))))).bind fun
   | .ret q_=>some q_
   | .brk (x0,x1,x2)=>ZpF x0 x1 x2
 )
end
end Go.Proofs

/- Printed by wip/tools/tgen.py: specs. -/
import Derived.Test.YtbjnddlpdlfknaaGreatDoorE4
import Derived.Lib.Bytealg
import Derived.Lib.ItoaNum
import Derived.Lib.SlTrimSet
import Derived.Shelf.Strconv.Itoa3
set_option linter.unusedVariables false
set_option linter.unusedSimpArgs false
set_option linter.unusedSectionVars false
namespace Go.Proofs
open Go Eng
set_option maxRecDepth 100000
noncomputable section
structure ZnD where
 Neg:Bool
 Words:(List Int)
 deriving DecidableEq,Inhabited
structure ZnC where
 Num:ZnD
 Den:ZnD
 deriving DecidableEq,Inhabited
structure ZnB where
 e0:ZnC
 e1:ZnC
 deriving DecidableEq,Inhabited
structure ZnO where
 N:Int
 X:ZnC
 Y:ZnC
 XX:ZnC
 YY:ZnC
 XY:ZnC
 deriving DecidableEq,Inhabited
structure ZnH where
 l:(List Int)
 at_:Int
 deriving DecidableEq,Inhabited
structure ZnF where
 Null:Bool
 Text:Str
 deriving DecidableEq,Inhabited
structure ZnE where
 Name:Str
 Cells:(List ZnF)
 deriving DecidableEq,Inhabited
structure ZnA where
 Key:Str
 Hash:Int
 Count:Int
 Sum:ZnC
 deriving DecidableEq,Inhabited
structure ZoP where
 word:Str
 canonical:(Option Nat)
 value:(Option Nat)
 deriving DecidableEq,Inhabited
def Zvy:Nat→Type
 |0=>ZnD
 |1=>ZnC
 |2=>ZnB
 |3=>ZnO
 |4=>ZnH
 |5=>ZnF
 |6=>ZnE
 |7=>ZnA
 |8=>ZoP
 |_=>Unit
def ZGI:Nat→Nat
 |0=>2
 |1=>4
 |2=>8
 |3=>21
 |4=>2
 |5=>2
 |6=>2
 |7=>7
 |8=>3
 |_=>0
def ZyB:List (Lf Zvy):=[⟨.sl (.int .u32),([1]:List Int)⟩]
def Zvx:List (Lf Zvy):=(Lib.pow10Tab.map fun n=>⟨.int .u64,n⟩)
def Zsk (t:(List Int)):Option Bool:=
 some (decide ((t.length:Int)≤500))
def ZuV (w_:(List Int)):Option (List Int):=
 some w_
def Zsz (rec_:(List Int)→Option (List Int)) (w_:(List Int)) (t14:Bool):Option (List Int):=
 bif t14 then (
  chk (inK .i64 ((w_.length:Int) - 1)) <|
  chk (Zb9 0 ((w_.length:Int) - 1) (w_.length:Int)) <|
  rec_ (w_.take (((w_.length:Int) - 1)).toNat)
 )else (
  some w_
 )
def Zt9 (rec_:(List Int)→Option (List Int)) (w_:(List Int)):Option (List Int):=
 bif (decide ((w_.length:Int) > 0))then (
  chk (inK .i64 ((w_.length:Int) - 1)) <|
  (idx w_ ((w_.length:Int) - 1)).bind fun w__e=>
  Zsz rec_ w_ (w__e == 0)
 )else (
  Zsz rec_ w_ false
 )
def Zow:Nat→(List Int)→Option (List Int)
 |0,_=>none
 |n_+1,w_=>Zt9 (Zow n_) w_
def Zn0 (w_:(List Int)):Option (List Int):=
 (Zow big w_).bind fun x0=>ZuV x0
def Zre (t4:ZnD):Option ZnD:=
 some t4
def ZnV (neg:Bool) (w_:(List Int)):Option ZnD:=
 (Zn0 w_).bind fun w__1=>
 bif neg then (
  Zre (ZnD.mk (decide ((w__1.length:Int) > 0)) w__1)
 )else (
  Zre (ZnD.mk false w__1)
 )
def Zp0 (n:Int) (u:Int) (t2:Bool) (t2_1:(List Int)):Option ZnD:=
 chk (decide (0≤(32:Int))) <|
 (ZnV (decide (n < 0)) ([(IntKind.wrap .u32 u),(IntKind.wrap .u32 (shrK .u64 u 32))]:(List Int))).bind fun q=>
 some q
def ZnR (n:Int):Option ZnD:=
 bif (decide (n < 0))then (
  Zp0 n (IntKind.wrap .u64 (0 - (IntKind.wrap .u64 n))) false ([]:(List Int))
 )else (
  Zp0 n (IntKind.wrap .u64 n) false ([]:(List Int))
 )
def Zoa (t2:Bool):Option Bool:=
 some t2
def Zpt (a:ZnD):Option Bool:=
 bif (decide ((a.Words.length:Int)≤256))then (
  bif ((a.Words.length:Int) == 0)then (
   bif (!a.Neg)then (
    Zoa true
   )else (
    bif (decide ((a.Words.length:Int) > 0))then (
     chk (inK .i64 ((a.Words.length:Int) - 1)) <|
     (idx a.Words ((a.Words.length:Int) - 1)).bind fun Word=>
     Zoa (Word != 0)
    )else (
     Zoa false
    )
   )
  )else (
   bif (decide ((a.Words.length:Int) > 0))then (
    chk (inK .i64 ((a.Words.length:Int) - 1)) <|
    (idx a.Words ((a.Words.length:Int) - 1)).bind fun Word_1=>
    Zoa (Word_1 != 0)
   )else (
    Zoa false
   )
  )
 )else (
  Zoa false
 )
def ZsA (out:(List Int)):Option (List Int):=
 (Zn0 out).bind fun q=>
 some q
def ZpH (rec_:(List Int)→Int→Int→(List Int)→Option (List Int)) (a:(List Int)) (t9:Int) (i:Int) (out:(List Int)):Option (List Int):=
 chk (inK .i64 (i+1)) <|
 rec_ a t9 (i+1) out
def Zqg (rec_:(List Int)→Int→Int→(List Int)→Option (List Int)) (a:(List Int)) (t9:Int) (i:Int) (out:(List Int)):Option (List Int):=
 bif (decide (i < t9))then (
  chk (inR i (out.length:Int)) <|
  (out[(i).toNat]?).bind fun out_e=>
  chk (decide (0≤(1:Int))) <|
  chk (inR i (out.length:Int)) <|
  chk (inK .i64 (i+1)) <|
  bif (decide ((i+1) < (a.length:Int)))then (
   chk (inR i ((out.set ((i).toNat) (shrK .u32 out_e 1)).length:Int)) <|
   ((out.set ((i).toNat) (shrK .u32 out_e 1))[(i).toNat]?).bind fun e_e=>
   chk (inK .i64 (i+1)) <|
   (idx a (i+1)).bind fun a_e=>
   chk (decide (0≤(31:Int))) <|
   chk (inR i ((out.set ((i).toNat) (shrK .u32 out_e 1)).length:Int)) <|
   ZpH rec_ a t9 i ((out.set ((i).toNat) (shrK .u32 out_e 1)).set ((i).toNat) (orK .u32 e_e (shlK .u32 a_e 31)))
  )else (
   ZpH rec_ a t9 i (out.set ((i).toNat) (shrK .u32 out_e 1))
  )
 )else (
  some out
 )
def ZpG:Nat→(List Int)→Int→Int→(List Int)→Option (List Int)
 |0,_,_,_,_=>none
 |n_+1,a,t9,i,out=>Zqg (ZpG n_) a t9 i out
def Zua (n:Nat) (s:((List Int)×Int×Int×(List Int))):Option (List Int):=ZpG n s.1 s.2.1 s.2.2.1 s.2.2.2
def ZrQ (rec_:((List Int)×Int×Int×(List Int))→Option (List Int)) (s:((List Int)×Int×Int×(List Int))):Option (List Int):=Zqg (fun a t9 i out=>rec_ (a,t9,i,out)) s.1 s.2.1 s.2.2.1 s.2.2.2
theorem Zwh:∀n s,Zua (n+1) s=ZrQ (Zua n) s:=fun _ _=>rfl
def ZoC (a:(List Int)):Option (List Int):=
 chk (ZiZ (([]:(List Int)).length+a.length) 4) <|
 (ZpG big a ((([]:(List Int))++a).length:Int) (0:Int) (([]:(List Int))++a)).bind fun x0=>ZsA x0
def Zs6:Option Int:=
 some (0:Int)
def Zqn (rec_:(List Int)→(List Int)→Int→Option (Out Unit Int)) (a:(List Int)) (b:(List Int)) (i:Int):Option (Out Unit Int):=
 bif (decide (i≥0))then (
  (idx a i).bind fun a_e=>
  (idx b i).bind fun b_e=>
  bif (decide (a_e < b_e))then (
   some (.ret (-1:Int))
  )else (
   (idx a i).bind fun a_e_1=>
   (idx b i).bind fun b_e_1=>
   bif (decide (a_e_1 > b_e_1))then (
    some (.ret (1:Int))
   )else (
    chk (inK .i64 (i - 1)) <|
    rec_ a b (i - 1)
   )
  )
 )else (
  some (.brk ())
 )
def Zrd:Nat→(List Int)→(List Int)→Int→Option (Out Unit Int)
 |0,_,_,_=>none
 |n_+1,a,b,i=>Zqn (Zrd n_) a b i
def Zuo (n:Nat) (s:((List Int)×(List Int)×Int)):Option (Out Unit Int):=Zrd n s.1 s.2.1 s.2.2
def Zr5 (rec_:((List Int)×(List Int)×Int)→Option (Out Unit Int)) (s:((List Int)×(List Int)×Int)):Option (Out Unit Int):=Zqn (fun a b i=>rec_ (a,b,i)) s.1 s.2.1 s.2.2
theorem ZwD:∀n s,Zuo (n+1) s=Zr5 (Zuo n) s:=fun _ _=>rfl
def Zpc (a:(List Int)) (b:(List Int)):Option Int:=
 bif ((a.length:Int) != (b.length:Int))then (
  bif (decide ((a.length:Int) < (b.length:Int)))then (
   some (-1:Int)
  )else (
   some (1:Int)
  )
 )else (
  chk (inK .i64 ((a.length:Int) - 1)) <|
  (Zrd big a b ((a.length:Int) - 1)).bind fun
   | .ret q_=>some q_
   | .brk ()=>Zs6
 )
def ZsY (out:(List Int)):Option (List Int):=
 (Zn0 out).bind fun q=>
 some q
def ZpT (rec_:(List Int)→(List Int)→Int→Int→(List Int)→Option (List Int)) (a:(List Int)) (b:(List Int)) (c:Int) (i:Int) (out:(List Int)):Option (List Int):=
 chk (ZiZ (out.length+([(IntKind.wrap .u32 c)]:(List Int)).length) 4) <|
 chk (decide (0≤(32:Int))) <|
 chk (inK .i64 (i+1)) <|
 rec_ a b (shrK .i64 c 32) (i+1) (out++([(IntKind.wrap .u32 c)]:(List Int)))
def Zql (rec_:(List Int)→(List Int)→Int→Int→(List Int)→Option (List Int)) (a:(List Int)) (b:(List Int)) (c:Int) (i:Int) (out:(List Int)):Option (List Int):=
 bif (decide (i < (a.length:Int)))then (
  (idx a i).bind fun a_e=>
  chk (inK .i64 (c+(IntKind.wrap .i64 a_e))) <|
  bif (decide (i < (b.length:Int)))then (
   (idx b i).bind fun b_e=>
   chk (inK .i64 ((c+(IntKind.wrap .i64 a_e)) - (IntKind.wrap .i64 b_e))) <|
   ZpT rec_ a b ((c+(IntKind.wrap .i64 a_e)) - (IntKind.wrap .i64 b_e)) i out
  )else (
   ZpT rec_ a b (c+(IntKind.wrap .i64 a_e)) i out
  )
 )else (
  some out
 )
def ZpS:Nat→(List Int)→(List Int)→Int→Int→(List Int)→Option (List Int)
 |0,_,_,_,_,_=>none
 |n_+1,a,b,c,i,out=>Zql (ZpS n_) a b c i out
def Zum (n:Nat) (s:((List Int)×(List Int)×Int×Int×(List Int))):Option (List Int):=ZpS n s.1 s.2.1 s.2.2.1 s.2.2.2.1 s.2.2.2.2
def Zr1 (rec_:((List Int)×(List Int)×Int×Int×(List Int))→Option (List Int)) (s:((List Int)×(List Int)×Int×Int×(List Int))):Option (List Int):=Zql (fun a b c i out=>rec_ (a,b,c,i,out)) s.1 s.2.1 s.2.2.1 s.2.2.2.1 s.2.2.2.2
theorem ZwB:∀n s,Zum (n+1) s=Zr1 (Zum n) s:=fun _ _=>rfl
def ZoN (a:(List Int)) (b:(List Int)):Option (List Int):=
 (ZpS big a b (0:Int) (0:Int) ([]:(List Int))).bind fun x0=>ZsY x0
def Zr0 (d:Int) (out:(List Int)):Option (List Int):=
 chk (ZiZ (out.length+([d]:(List Int)).length) 4) <|
 (Zn0 (out++([d]:(List Int)))).bind fun q=>
 some q
def ZpZ (rec_:(List Int)→Int→Int→(List Int)→Option (Int×(List Int))) (a:(List Int)) (d:Int) (i:Int) (out:(List Int)):Option (Int×(List Int)):=
 bif (decide (i < (a.length:Int)))then (
  (idx a i).bind fun a_e=>
  chk (decide (0≤(1:Int))) <|
  chk (ZiZ (out.length+([(orK .u32 (shlK .u32 a_e 1) d)]:(List Int)).length) 4) <|
  (idx a i).bind fun a_e_1=>
  chk (decide (0≤(31:Int))) <|
  chk (inK .i64 (i+1)) <|
  rec_ a (shrK .u32 a_e_1 31) (i+1) (out++([(orK .u32 (shlK .u32 a_e 1) d)]:(List Int)))
 )else (
  some (d,out)
 )
def Zqk:Nat→(List Int)→Int→Int→(List Int)→Option (Int×(List Int))
 |0,_,_,_,_=>none
 |n_+1,a,d,i,out=>ZpZ (Zqk n_) a d i out
def ZtR (n:Nat) (s:((List Int)×Int×Int×(List Int))):Option (Int×(List Int)):=Zqk n s.1 s.2.1 s.2.2.1 s.2.2.2
def Zrv (rec_:((List Int)×Int×Int×(List Int))→Option (Int×(List Int))) (s:((List Int)×Int×Int×(List Int))):Option (Int×(List Int)):=ZpZ (fun a d i out=>rec_ (a,d,i,out)) s.1 s.2.1 s.2.2.1 s.2.2.2
theorem Zv2:∀n s,ZtR (n+1) s=Zrv (ZtR n) s:=fun _ _=>rfl
def Zpj (a:(List Int)) (d:Int):Option (List Int):=
 (Zqk big a d (0:Int) ([]:(List Int))).bind fun(x0,x1)=>Zr0 x0 x1
def Zs0 (a:(List Int)):Option (List Int):=
 some a
def Zpq (rec_:(List Int)→Int→Option (List Int)) (a:(List Int)) (k:Int):Option (List Int):=
 bif (decide (k > 0))then (
  (Zpj a 0).bind fun a_1=>
  chk (inK .i64 (k - 1)) <|
  rec_ a_1 (k - 1)
 )else (
  some a
 )
def Zo9:Nat→(List Int)→Int→Option (List Int)
 |0,_,_=>none
 |n_+1,a,k=>Zpq (Zo9 n_) a k
def Zs1 (a:(List Int)) (k:Int):Option (List Int):=
 (Zo9 big a k).bind fun x0=>Zs0 x0
def Zrb (rec_:(List Int)→(List Int)→Int→Option ((List Int)×Int)) (a:(List Int)) (b:(List Int)) (k:Int):Option ((List Int)×Int):=
 (ZoN b a).bind fun b_1=>
 rec_ a b_1 k
def Zs2 (rec_:(List Int)→(List Int)→Int→Option ((List Int)×Int)) (a:(List Int)) (b:(List Int)) (k:Int):Option ((List Int)×Int):=
 (Zpc a b).bind fun q=>
 bif (decide (q > 0))then (
  Zrb rec_ b a k
 )else (
  Zrb rec_ a b k
 )
def Zr2 (rec_:(List Int)→(List Int)→Int→Option ((List Int)×(List Int)×Int)) (a:(List Int)) (b:(List Int)) (k:Int):Option ((List Int)×(List Int)×Int):=
 (idx b 0).bind fun b_e=>
 bif ((andK .u32 b_e 1) == 0)then (
  (ZoC b).bind fun b_1=>
  rec_ a b_1 k
 )else (
  some (a,b,k)
 )
def Zoi:Nat→(List Int)→(List Int)→Int→Option ((List Int)×(List Int)×Int)
 |0,_,_,_=>none
 |n_+1,a,b,k=>Zr2 (Zoi n_) a b k
def Zs3 (rec_:(List Int)→(List Int)→Int→Option ((List Int)×Int)) (a:(List Int)) (b:(List Int)) (k:Int):Option ((List Int)×Int):=
 (Zoi big a b k).bind fun(x0,x1,x2)=>Zs2 rec_ x0 x1 x2
def Zpr (rec_:(List Int)→(List Int)→Int→Option ((List Int)×(List Int)×Int)) (a:(List Int)) (b:(List Int)) (k:Int):Option ((List Int)×(List Int)×Int):=
 (idx a 0).bind fun a_e=>
 bif ((andK .u32 a_e 1) == 0)then (
  (ZoC a).bind fun a_1=>
  rec_ a_1 b k
 )else (
  some (a,b,k)
 )
def Zoj:Nat→(List Int)→(List Int)→Int→Option ((List Int)×(List Int)×Int)
 |0,_,_,_=>none
 |n_+1,a,b,k=>Zpr (Zoj n_) a b k
def Zps (rec_:(List Int)→(List Int)→Int→Option ((List Int)×Int)) (a:(List Int)) (b:(List Int)) (k:Int):Option ((List Int)×Int):=
 bif (decide ((b.length:Int) > 0))then (
  (Zoj big a b k).bind fun(x0,x1,x2)=>Zs3 rec_ x0 x1 x2
 )else (
  some (a,k)
 )
def ZnW:Nat→(List Int)→(List Int)→Int→Option ((List Int)×Int)
 |0,_,_,_=>none
 |n_+1,a,b,k=>Zps (ZnW n_) a b k
def Zs4 (a:(List Int)) (b:(List Int)) (k:Int):Option (List Int):=
 (ZnW big a b k).bind fun(x0,x1)=>Zs1 x0 x1
def Zrc (rec_:(List Int)→(List Int)→Int→Option ((List Int)×(List Int)×Int)) (a:(List Int)) (b:(List Int)) (k:Int) (t17:Bool):Option ((List Int)×(List Int)×Int):=
 bif t17 then (
  (ZoC a).bind fun a_1=>
  (ZoC b).bind fun b_1=>
  chk (inK .i64 (k+1)) <|
  rec_ a_1 b_1 (k+1)
 )else (
  some (a,b,k)
 )
def Zr3 (rec_:(List Int)→(List Int)→Int→Option ((List Int)×(List Int)×Int)) (a:(List Int)) (b:(List Int)) (k:Int):Option ((List Int)×(List Int)×Int):=
 (idx a 0).bind fun a_e=>
 bif ((andK .u32 a_e 1) == 0)then (
  (idx b 0).bind fun b_e=>
  Zrc rec_ a b k ((andK .u32 b_e 1) == 0)
 )else (
  Zrc rec_ a b k false
 )
def Zpa:Nat→(List Int)→(List Int)→Int→Option ((List Int)×(List Int)×Int)
 |0,_,_,_=>none
 |n_+1,a,b,k=>Zr3 (Zpa n_) a b k
def ZqU (a:(List Int)) (b:(List Int)):Option (List Int):=
 (Zpa big a b (0:Int)).bind fun(x0,x1,x2)=>Zs4 x0 x1 x2
def ZqV (a:(List Int)) (i:Int):Option Int:=
 chk (decide ((32:Int)≠0)) <|
 chk (inK .i64 (Int.tdiv i 32)) <|
 (idx a (Int.tdiv i 32)).bind fun a_e=>
 chk (decide ((32:Int)≠0)) <|
 chk (decide (0≤(IntKind.wrap .u64 (Int.tmod i 32)))) <|
 some (andK .u32 (shrK .u32 a_e (IntKind.wrap .u64 (Int.tmod i 32))) 1)
def Zs5 (r_:(List Int)) (q:(List Int)):Option ((List Int)×(List Int)):=
 (Zn0 q).bind fun q_1=>
 some (q_1,r_)
def ZpV (rec_:(List Int)→(List Int)→(List Int)→Int→(List Int)→Option ((List Int)×(List Int))) (a:(List Int)) (b:(List Int)) (r_:(List Int)) (i:Int) (q:(List Int)):Option ((List Int)×(List Int)):=
 chk (inK .i64 (i - 1)) <|
 rec_ a b r_ (i - 1) q
def Zqm (rec_:(List Int)→(List Int)→(List Int)→Int→(List Int)→Option ((List Int)×(List Int))) (a:(List Int)) (b:(List Int)) (r_:(List Int)) (i:Int) (q:(List Int)):Option ((List Int)×(List Int)):=
 bif (decide (i≥0))then (
  (ZqV a i).bind fun q_1=>
  (Zpj r_ q_1).bind fun r__1=>
  (Zpc r__1 b).bind fun q_2=>
  bif (decide (q_2≥0))then (
   (ZoN r__1 b).bind fun r__2=>
   chk (decide ((32:Int)≠0)) <|
   chk (inK .i64 (Int.tdiv i 32)) <|
   chk (inR (Int.tdiv i 32) (q.length:Int)) <|
   (q[((Int.tdiv i 32)).toNat]?).bind fun q_e=>
   chk (decide ((32:Int)≠0)) <|
   chk (decide (0≤(IntKind.wrap .u64 (Int.tmod i 32)))) <|
   chk (inR (Int.tdiv i 32) (q.length:Int)) <|
   ZpV rec_ a b r__2 i (q.set (((Int.tdiv i 32)).toNat) (orK .u32 q_e (shlK .u32 1 (IntKind.wrap .u64 (Int.tmod i 32)))))
  )else (
   ZpV rec_ a b r__1 i q
  )
 )else (
  some (r_,q)
 )
def ZpU:Nat→(List Int)→(List Int)→(List Int)→Int→(List Int)→Option ((List Int)×(List Int))
 |0,_,_,_,_,_=>none
 |n_+1,a,b,r_,i,q=>Zqm (ZpU n_) a b r_ i q
def Zun (n:Nat) (s:((List Int)×(List Int)×(List Int)×Int×(List Int))):Option ((List Int)×(List Int)):=ZpU n s.1 s.2.1 s.2.2.1 s.2.2.2.1 s.2.2.2.2
def Zr4 (rec_:((List Int)×(List Int)×(List Int)×Int×(List Int))→Option ((List Int)×(List Int))) (s:((List Int)×(List Int)×(List Int)×Int×(List Int))):Option ((List Int)×(List Int)):=Zqm (fun a b r_ i q=>rec_ (a,b,r_,i,q)) s.1 s.2.1 s.2.2.1 s.2.2.2.1 s.2.2.2.2
theorem ZwC:∀n s,Zun (n+1) s=Zr4 (Zun n) s:=fun _ _=>rfl
def ZpO (a:(List Int)) (b:(List Int)):Option ((List Int)×(List Int)):=
 chk (mkOk (a.length:Int) (a.length:Int) 4) <|
 chk (inK .i64 (32*(a.length:Int))) <|
 chk (inK .i64 ((32*(a.length:Int)) - 1)) <|
 (ZpU big a b ([]:(List Int)) ((32*(a.length:Int)) - 1) (List.replicate ((a.length:Int)).toNat (0:Int))).bind fun(x0,x1)=>Zs5 x0 x1
def Zo8 (num:ZnD) (den:ZnD):Option ZnC:=
 bif ((num.Words.length:Int) == 0)then (
  (ZnR 1).bind fun q=>
  some (ZnC.mk (ZnD.mk false ([]:(List Int))) q)
 )else (
  (ZqU num.Words den.Words).bind fun g=>
  (ZpO num.Words g).bind fun(x_,q_1)=>
  (ZpO den.Words g).bind fun(y,q_2)=>
  (ZnV (!(num.Neg == den.Neg)) x_).bind fun q_3=>
  (ZnV false y).bind fun q_4=>
  some (ZnC.mk q_3 q_4)
 )
def ZqO (t13:Bool) (num:ZnD) (den:ZnD) (t4:Bool) (t4_1:Bool) (t4_2:(List Int)) (t4_3:(List Int)):Option (ZnC×Int):=
 bif t13 then (
  some ((ZnC.mk (ZnD.mk false ([]:(List Int))) (ZnD.mk false ([]:(List Int)))),1)
 )else (
  bif ((den.Words.length:Int) == 0)then (
   some ((ZnC.mk (ZnD.mk false ([]:(List Int))) (ZnD.mk false ([]:(List Int)))),8)
  )else (
   (Zo8 num den).bind fun q=>
   some (q,0)
  )
 )
def Zqt (num:ZnD) (den:ZnD):Option (ZnC×Int):=
 (Zpt num).bind fun q=>
 bif (!q)then (
  ZqO true num den false false ([]:(List Int)) ([]:(List Int))
 )else (
  (Zpt den).bind fun q_1=>
  ZqO (!q_1) num den false false ([]:(List Int)) ([]:(List Int))
 )
def Zp9 (num:Int) (den:Int):Option (ZnC×Int):=
 (ZnR num).bind fun q=>
 (ZnR den).bind fun q_1=>
 (Zqt q q_1).bind fun(q_2,q_3)=>
 some (q_2,q_3)
def Zqi (n:Int) (d:Int):Option ZnC:=
 (Zp9 n d).bind fun(f,q)=>
 some f
def ZnY (n:Int):Option ZnC:=
 (Zqi n 1).bind fun q=>
 some q
def Zqu:Option (List ZnB):=
 (ZnY 1).bind fun q=>
 (ZnY 2).bind fun q_1=>
 (ZnY 2).bind fun q_2=>
 (ZnY 4).bind fun q_3=>
 (ZnY 3).bind fun q_4=>
 (ZnY 6).bind fun q_5=>
 some ([(ZnB.mk q q_1),(ZnB.mk q_2 q_3),(ZnB.mk q_4 q_5)]:(List ZnB))
def Zuy (w_:(List Int)):Option (List Int):=
 some w_
def ZsK (rec_:(List Int)→Option (List Int)) (w_:(List Int)) (t14:Bool):Option (List Int):=
 bif t14 then (
  chk (inK .i64 ((w_.length:Int) - 1)) <|
  chk (Zb9 0 ((w_.length:Int) - 1) (w_.length:Int)) <|
  rec_ (w_.take (((w_.length:Int) - 1)).toNat)
 )else (
  some w_
 )
def ZrV (rec_:(List Int)→Option (List Int)) (w_:(List Int)):Option (List Int):=
 bif (decide ((w_.length:Int) > 0))then (
  chk (inK .i64 ((w_.length:Int) - 1)) <|
  (idx w_ ((w_.length:Int) - 1)).bind fun w__e=>
  ZsK rec_ w_ (w__e == 0)
 )else (
  ZsK rec_ w_ false
 )
def Zo2:Nat→(List Int)→Option (List Int)
 |0,_=>none
 |n_+1,w_=>ZrV (Zo2 n_) w_
def ZvH (n:Nat) (s:(List Int)):Option (List Int):=Zo2 n s
def ZvI (rec_:(List Int)→Option (List Int)) (s:(List Int)):Option (List Int):=ZrV (fun w_=>rec_ w_) s
theorem Zxu:∀n s,ZvH (n+1) s=ZvI (ZvH n) s:=fun _ _=>rfl
def Zn5 (w_:(List Int)):Option (List Int):=
 (Zo2 big w_).bind fun x0=>Zuy x0
def ZqE (n:Int):Option (List Int):=
 chk (decide (0≤(32:Int))) <|
 (Zn5 ([(IntKind.wrap .u32 n),(IntKind.wrap .u32 (shrK .u64 n 32))]:(List Int))).bind fun q=>
 some q
def Ztk (t4:Bool) (t4_1:(List Int)):Option ZnD:=
 some (ZnD.mk t4 t4_1)
def Zoc (neg:Bool) (w_:(List Int)):Option ZnD:=
 bif neg then (
  chk (ZiZ w_.length 4) <|
  Ztk (decide ((w_.length:Int) > 0)) w_
 )else (
  chk (ZiZ w_.length 4) <|
  Ztk false w_
 )
def Zrq (n:Int):Option ZnD:=
 bif (decide (n < 0))then (
  (ZqE (IntKind.wrap .u64 (0 - (IntKind.wrap .u64 n)))).bind fun q=>
  (Zoc true q).bind fun q_1=>
  some q_1
 )else (
  (ZqE (IntKind.wrap .u64 n)).bind fun q_2=>
  (Zoc false q_2).bind fun q_3=>
  some q_3
 )
def ZoO (t2:Bool):Option Bool:=
 some t2
def Zq5 (a:ZnD):Option Bool:=
 bif (decide ((a.Words.length:Int)≤256))then (
  bif ((a.Words.length:Int) == 0)then (
   bif (!a.Neg)then (
    ZoO true
   )else (
    bif (decide ((a.Words.length:Int) > 0))then (
     chk (inK .i64 ((a.Words.length:Int) - 1)) <|
     (idx a.Words ((a.Words.length:Int) - 1)).bind fun Word=>
     ZoO (Word != 0)
    )else (
     ZoO false
    )
   )
  )else (
   bif (decide ((a.Words.length:Int) > 0))then (
    chk (inK .i64 ((a.Words.length:Int) - 1)) <|
    (idx a.Words ((a.Words.length:Int) - 1)).bind fun Word_1=>
    ZoO (Word_1 != 0)
   )else (
    ZoO false
   )
  )
 )else (
  ZoO false
 )
def Zxf:Option Bool:=
 some true
def Ztm (rec_:(List ZnD)→Int→Int→Option (Out Unit Bool)) (t5:(List ZnD)) (t6:Int) (t7:Int):Option (Out Unit Bool):=
 bif (decide (t7 < t6))then (
  (idx t5 t7).bind fun a=>
  (Zq5 a).bind fun q=>
  bif (!q)then (
   some (.ret false)
  )else (
   chk (inK .i64 (t7+1)) <|
   rec_ t5 t6 (t7+1)
  )
 )else (
  some (.brk ())
 )
def Zuf:Nat→(List ZnD)→Int→Int→Option (Out Unit Bool)
 |0,_,_,_=>none
 |n_+1,t5,t6,t7=>Ztm (Zuf n_) t5 t6 t7
def Zwr (n:Nat) (s:((List ZnD)×Int×Int)):Option (Out Unit Bool):=Zuf n s.1 s.2.1 s.2.2
def Zu3 (rec_:((List ZnD)×Int×Int)→Option (Out Unit Bool)) (s:((List ZnD)×Int×Int)):Option (Out Unit Bool):=Ztm (fun t5 t6 t7=>rec_ (t5,t6,t7)) s.1 s.2.1 s.2.2
theorem ZxR:∀n s,Zwr (n+1) s=Zu3 (Zwr n) s:=fun _ _=>rfl
def Zty (l:(List ZnD)):Option Bool:=
 (Zuf big l (l.length:Int) (0:Int)).bind fun
  | .ret q_=>some q_
  | .brk ()=>Zxf
def ZuH (x_:Int):Option Bool:=
 some (x_ != x_)
def ZtC (x_:Int) (y:Int):Option Int:=
 (ZuH x_).bind fun xNaN=>
 (ZuH y).bind fun yNaN=>
 bif xNaN then (
  bif yNaN then (
   some (0:Int)
  )else (
   some (-1:Int)
  )
 )else (
  bif yNaN then (
   some (1:Int)
  )else (
   bif (decide (x_ < y))then (
    some (-1:Int)
   )else (
    bif (decide (x_ > y))then (
     some (1:Int)
    )else (
     some (0:Int)
    )
   )
  )
 )
def Zug (x_:Int):Option Bool:=
 some (x_ != x_)
def Zto (x_:Int) (y:Int):Option Int:=
 (Zug x_).bind fun xNaN=>
 (Zug y).bind fun yNaN=>
 bif xNaN then (
  bif yNaN then (
   some (0:Int)
  )else (
   some (-1:Int)
  )
 )else (
  bif yNaN then (
   some (1:Int)
  )else (
   bif (decide (x_ < y))then (
    some (-1:Int)
   )else (
    bif (decide (x_ > y))then (
     some (1:Int)
    )else (
     some (0:Int)
    )
   )
  )
 )
def Zsf:Option Int:=
 some (0:Int)
def Zp3 (rec_:(List Int)→(List Int)→Int→Option (Out Unit Int)) (w_:(List Int)) (v_:(List Int)) (i:Int):Option (Out Unit Int):=
 bif (decide (i≥0))then (
  (idx w_ i).bind fun w__e=>
  (idx v_ i).bind fun v__e=>
  (Zto w__e v__e).bind fun c=>
  bif (c != 0)then (
   some (.ret c)
  )else (
   chk (inK .i64 (i - 1)) <|
   rec_ w_ v_ (i - 1)
  )
 )else (
  some (.brk ())
 )
def ZqC:Nat→(List Int)→(List Int)→Int→Option (Out Unit Int)
 |0,_,_,_=>none
 |n_+1,w_,v_,i=>Zp3 (ZqC n_) w_ v_ i
def ZtX (n:Nat) (s:((List Int)×(List Int)×Int)):Option (Out Unit Int):=ZqC n s.1 s.2.1 s.2.2
def ZrB (rec_:((List Int)×(List Int)×Int)→Option (Out Unit Int)) (s:((List Int)×(List Int)×Int)):Option (Out Unit Int):=Zp3 (fun w_ v_ i=>rec_ (w_,v_,i)) s.1 s.2.1 s.2.2
theorem Zv5:∀n s,ZtX (n+1) s=ZrB (ZtX n) s:=fun _ _=>rfl
def Zor (w_:(List Int)) (v_:(List Int)):Option Int:=
 (ZtC (w_.length:Int) (v_.length:Int)).bind fun c=>
 bif (c != 0)then (
  some c
 )else (
  chk (inK .i64 ((w_.length:Int) - 1)) <|
  (ZqC big w_ v_ ((w_.length:Int) - 1)).bind fun
   | .ret q_=>some q_
   | .brk ()=>Zsf
 )
def ZnK (s:(List Int)) (t4:Bool):Option (List Int):=
 bif t4 then (
  some ([]:(List Int))
 )else (
  chk (ZiZ (([]:(List Int)).length+s.length) 4) <|
  some (([]:(List Int))++s)
 )
def Zok (s:(List Int)):Option (List Int):=
 bif (List.isEmpty s)then agree (
  ZnK s true
 ) (
  ZnK s false
 )else (
  ZnK s false
 )
def ZrD (hi:Int) (lo:Int) (y:Int) (t15:Bool):Option (Int×Int):=
 bif t15 then (
  none
 )else (
  chk (decide (0≤(32:Int))) <|
  chk (decide ((IntKind.wrap .u64 y)≠0)) <|
  chk (decide ((IntKind.wrap .u64 y)≠0)) <|
  some ((IntKind.wrap .u32 (IntKind.wrap .u64 (Int.tdiv (orK .u64 (shlK .u64 (IntKind.wrap .u64 hi) 32) (IntKind.wrap .u64 lo)) (IntKind.wrap .u64 y)))),(IntKind.wrap .u32 (Int.tmod (orK .u64 (shlK .u64 (IntKind.wrap .u64 hi) 32) (IntKind.wrap .u64 lo)) (IntKind.wrap .u64 y))))
 )
def Ztu (hi:Int) (lo:Int) (y:Int):Option (Int×Int):=
 bif (y != 0)then (
  ZrD hi lo y (decide (y≤hi))
 )else (
  ZrD hi lo y false
 )
def Ztd (rest:Int) (out:(List Int)):Option ((List Int)×Int):=
 (Zn5 out).bind fun q=>
 some (q,rest)
def Zqz (rec_:(List Int)→Int→Int→Int→(List Int)→Option (Int×(List Int))) (w_:(List Int)) (d:Int) (rest:Int) (i:Int) (out:(List Int)):Option (Int×(List Int)):=
 bif (decide (i≥0))then (
  (idx w_ i).bind fun w__e=>
  (Ztu rest w__e d).bind fun(q,rest_1)=>
  chk (inR i (out.length:Int)) <|
  chk (inK .i64 (i - 1)) <|
  rec_ w_ d rest_1 (i - 1) (out.set ((i).toNat) q)
 )else (
  some (rest,out)
 )
def Zrg:Nat→(List Int)→Int→Int→Int→(List Int)→Option (Int×(List Int))
 |0,_,_,_,_,_=>none
 |n_+1,w_,d,rest,i,out=>Zqz (Zrg n_) w_ d rest i out
def Zuv (n:Nat) (s:((List Int)×Int×Int×Int×(List Int))):Option (Int×(List Int)):=Zrg n s.1 s.2.1 s.2.2.1 s.2.2.2.1 s.2.2.2.2
def Zsc (rec_:((List Int)×Int×Int×Int×(List Int))→Option (Int×(List Int))) (s:((List Int)×Int×Int×Int×(List Int))):Option (Int×(List Int)):=Zqz (fun w_ d rest i out=>rec_ (w_,d,rest,i,out)) s.1 s.2.1 s.2.2.1 s.2.2.2.1 s.2.2.2.2
theorem ZwH:∀n s,Zuv (n+1) s=Zsc (Zuv n) s:=fun _ _=>rfl
def ZqW (w_:(List Int)) (d:Int):Option ((List Int)×Int):=
 chk (mkOk (w_.length:Int) (w_.length:Int) 4) <|
 chk (inK .i64 ((w_.length:Int) - 1)) <|
 (Zrg big w_ d (0:Int) ((w_.length:Int) - 1) (List.replicate ((w_.length:Int)).toNat (0:Int))).bind fun(x0,x1)=>Ztd x0 x1
def ZqF (x_:Int) (n:Int):Option Int:=
 (idx ([0,1,2,2,3,3,3,3,4,4,4,4,4,4,4,4,5,5,5,5,5,5,5,5,5,5,5,5,5,5,5,5,6,6,6,6,6,6,6,6,6,6,6,6,6,6,6,6,6,6,6,6,6,6,6,6,6,6,6,6,6,6,6,6,7,7,7,7,7,7,7,7,7,7,7,7,7,7,7,7,7,7,7,7,7,7,7,7,7,7,7,7,7,7,7,7,7,7,7,7,7,7,7,7,7,7,7,7,7,7,7,7,7,7,7,7,7,7,7,7,7,7,7,7,7,7,7,7,8,8,8,8,8,8,8,8,8,8,8,8,8,8,8,8,8,8,8,8,8,8,8,8,8,8,8,8,8,8,8,8,8,8,8,8,8,8,8,8,8,8,8,8,8,8,8,8,8,8,8,8,8,8,8,8,8,8,8,8,8,8,8,8,8,8,8,8,8,8,8,8,8,8,8,8,8,8,8,8,8,8,8,8,8,8,8,8,8,8,8,8,8,8,8,8,8,8,8,8,8,8,8,8,8,8,8,8,8,8,8,8,8,8,8,8,8,8,8,8,8,8,8,8,8,8,8,8]:Str) (IntKind.wrap .u8 x_)).bind fun c=>
 chk (inK .i64 (n+(IntKind.wrap .i64 ((c.toNat:Nat):Int)))) <|
 some (n+(IntKind.wrap .i64 ((c.toNat:Nat):Int)))
def Zti (x_:Int) (n:Int):Option Int:=
 bif (decide (x_≥256))then (
  chk (decide (0≤(8:Int))) <|
  chk (inK .i64 (n+8)) <|
  ZqF (shrK .u32 x_ 8) (n+8)
 )else (
  ZqF x_ n
 )
def Ztt (x_:Int):Option Int:=
 bif (decide (x_≥65536))then (
  chk (decide (0≤(16:Int))) <|
  Zti (shrK .u32 x_ 16) (16:Int)
 )else (
  Zti x_ (0:Int)
 )
def ZpJ (x_:Int):Option Int:=
 (Ztt x_).bind fun q=>
 chk (inK .i64 (32 - q)) <|
 some (32 - q)
def Zsd (out:(List Int)):Option (List Int):=
 some out
def Zp2 (rec_:Int→(List Int)→Int→Int→(List Int)→Option (List Int)) (n:Int) (t13:(List Int)) (t14:Int) (i:Int) (out:(List Int)):Option (List Int):=
 bif (decide (i < t14))then (
  (idx t13 i).bind fun d=>
  chk (decide (0≤n)) <|
  chk (inR i (out.length:Int)) <|
  (out[(i).toNat]?).bind fun out_e=>
  chk (inR i (out.length:Int)) <|
  chk (inK .i64 (i+1)) <|
  chk (decide (0≤(32:Int))) <|
  chk (inR (i+1) ((out.set ((i).toNat) (orK .u32 out_e (IntKind.wrap .u32 (shlK .u64 (IntKind.wrap .u64 d) n)))).length:Int)) <|
  chk (inK .i64 (i+1)) <|
  rec_ n t13 t14 (i+1) ((out.set ((i).toNat) (orK .u32 out_e (IntKind.wrap .u32 (shlK .u64 (IntKind.wrap .u64 d) n)))).set (((i+1)).toNat) (IntKind.wrap .u32 (shrK .u64 (shlK .u64 (IntKind.wrap .u64 d) n) 32)))
 )else (
  some out
 )
def ZqA:Nat→Int→(List Int)→Int→Int→(List Int)→Option (List Int)
 |0,_,_,_,_,_=>none
 |n_+1,n,t13,t14,i,out=>Zp2 (ZqA n_) n t13 t14 i out
def ZtW (n:Nat) (s:(Int×(List Int)×Int×Int×(List Int))):Option (List Int):=ZqA n s.1 s.2.1 s.2.2.1 s.2.2.2.1 s.2.2.2.2
def ZrA (rec_:(Int×(List Int)×Int×Int×(List Int))→Option (List Int)) (s:(Int×(List Int)×Int×Int×(List Int))):Option (List Int):=Zp2 (fun n t13 t14 i out=>rec_ (n,t13,t14,i,out)) s.1 s.2.1 s.2.2.1 s.2.2.2.1 s.2.2.2.2
theorem Zv4:∀n s,ZtW (n+1) s=ZrA (ZtW n) s:=fun _ _=>rfl
def ZoW (w_:(List Int)) (n:Int):Option (List Int):=
 chk (inK .i64 ((w_.length:Int)+1)) <|
 chk (mkOk ((w_.length:Int)+1) ((w_.length:Int)+1) 4) <|
 (ZqA big n w_ (w_.length:Int) (0:Int) (List.replicate (((w_.length:Int)+1)).toNat (0:Int))).bind fun x0=>Zsd x0
def Zq1 (x_:Int) (y:Int) (borrow:Int):Option (Int×Int):=
 chk (decide (0≤(31:Int))) <|
 some ((IntKind.wrap .u32 ((IntKind.wrap .u32 (x_ - y)) - borrow)),(shrK .u32 (orK .u32 (andK .u32 (xorK .u32 (if IntKind.signed .u32 then -1 else IntKind.max .u32) x_) y) (andK .u32 (xorK .u32 (if IntKind.signed .u32 then -1 else IntKind.max .u32) (xorK .u32 x_ y)) (IntKind.wrap .u32 ((IntKind.wrap .u32 (x_ - y)) - borrow)))) 31))
def ZrY (x_:Int) (y:Int) (carry:Int):Option (Int×Int):=
 chk (decide (0≤(32:Int))) <|
 some ((IntKind.wrap .u32 (IntKind.wrap .u64 ((IntKind.wrap .u64 ((IntKind.wrap .u64 x_)+(IntKind.wrap .u64 y)))+(IntKind.wrap .u64 carry)))),(IntKind.wrap .u32 (shrK .u64 (IntKind.wrap .u64 ((IntKind.wrap .u64 ((IntKind.wrap .u64 x_)+(IntKind.wrap .u64 y)))+(IntKind.wrap .u64 carry))) 32)))
def ZtM (u_off:Nat) (u_len:Nat) (n:Int) (guess:Int) (add:Int) (u:(List Int)):Option (Int×(List Int)):=
 chk (inR n (u_len:Int)) <|
 (u[(u_off+(n).toNat)]?).bind fun u_e=>
 chk (inR n (u_len:Int)) <|
 some ((IntKind.wrap .u32 (IntKind.wrap .u64 (guess - 1))),(u.set (u_off+(n).toNat) (IntKind.wrap .u32 (u_e+add))))
def ZsL (rec_:Nat→Nat→Int→Int→Int→(List Int)→Int→Int→(List Int)→Option (Nat×Nat×Int×Int×Int×(List Int))) (u_off:Nat) (u_len:Nat) (n:Int) (guess:Int) (add:Int) (t130:(List Int)) (t131:Int) (i:Int) (u:(List Int)):Option (Nat×Nat×Int×Int×Int×(List Int)):=
 bif (decide (i < t131))then (
  (idx t130 i).bind fun x_=>
  chk (inR i (u_len:Int)) <|
  (u[(u_off+(i).toNat)]?).bind fun u_e=>
  (ZrY u_e x_ add).bind fun(q,add_1)=>
  chk (inR i (u_len:Int)) <|
  chk (inK .i64 (i+1)) <|
  rec_ u_off u_len n guess add_1 t130 t131 (i+1) (u.set (u_off+(i).toNat) q)
 )else (
  some (u_off,u_len,n,guess,add,u)
 )
def Zsg:Nat→Nat→Nat→Int→Int→Int→(List Int)→Int→Int→(List Int)→Option (Nat×Nat×Int×Int×Int×(List Int))
 |0,_,_,_,_,_,_,_,_,_=>none
 |n_+1,u_off,u_len,n,guess,add,t130,t131,i,u=>ZsL (Zsg n_) u_off u_len n guess add t130 t131 i u
def Zv6 (n:Nat) (s:(Nat×Nat×Int×Int×Int×(List Int)×Int×Int×(List Int))):Option (Nat×Nat×Int×Int×Int×(List Int)):=Zsg n s.1 s.2.1 s.2.2.1 s.2.2.2.1 s.2.2.2.2.1 s.2.2.2.2.2.1 s.2.2.2.2.2.2.1 s.2.2.2.2.2.2.2.1 s.2.2.2.2.2.2.2.2
def Zuz (rec_:(Nat×Nat×Int×Int×Int×(List Int)×Int×Int×(List Int))→Option (Nat×Nat×Int×Int×Int×(List Int))) (s:(Nat×Nat×Int×Int×Int×(List Int)×Int×Int×(List Int))):Option (Nat×Nat×Int×Int×Int×(List Int)):=ZsL (fun u_off u_len n guess add t130 t131 i u=>rec_ (u_off,u_len,n,guess,add,t130,t131,i,u)) s.1 s.2.1 s.2.2.1 s.2.2.2.1 s.2.2.2.2.1 s.2.2.2.2.2.1 s.2.2.2.2.2.2.1 s.2.2.2.2.2.2.2.1 s.2.2.2.2.2.2.2.2
theorem ZxJ:∀n s,Zv6 (n+1) s=Zuz (Zv6 n) s:=fun _ _=>rfl
def Zvr (u_off:Nat) (u_len:Nat) (d:(List Int)) (n:Int) (guess:Int) (borrow:Int) (carry:Int) (u:(List Int)):Option (Int×(List Int)):=
 chk (inR n (u_len:Int)) <|
 (u[(u_off+(n).toNat)]?).bind fun u_e=>
 (Zq1 u_e (IntKind.wrap .u32 carry) borrow).bind fun(q,borrow_1)=>
 chk (inR n (u_len:Int)) <|
 bif (borrow_1 == 0)then (
  some ((IntKind.wrap .u32 guess),(u.set (u_off+(n).toNat) q))
 )else (
  (Zsg big u_off u_len n guess (0:Int) d (d.length:Int) (0:Int) (u.set (u_off+(n).toNat) q)).bind fun(x0,x1,x2,x3,x4,x5)=>ZtM x0 x1 x2 x3 x4 x5
 )
def ZsM (rec_:Nat→Nat→(List Int)→Int→Int→Int→Int→(List Int)→Int→Int→(List Int)→Option (Nat×Nat×(List Int)×Int×Int×Int×Int×(List Int))) (u_off:Nat) (u_len:Nat) (d:(List Int)) (n:Int) (guess:Int) (borrow:Int) (carry:Int) (t82:(List Int)) (t83:Int) (i:Int) (u:(List Int)):Option (Nat×Nat×(List Int)×Int×Int×Int×Int×(List Int)):=
 bif (decide (i < t83))then (
  (idx t82 i).bind fun x_=>
  chk (inR i (u_len:Int)) <|
  (u[(u_off+(i).toNat)]?).bind fun u_e=>
  (Zq1 u_e (IntKind.wrap .u32 (IntKind.wrap .u64 (carry+(IntKind.wrap .u64 (guess*(IntKind.wrap .u64 x_)))))) borrow).bind fun(q,borrow_1)=>
  chk (inR i (u_len:Int)) <|
  chk (decide (0≤(32:Int))) <|
  chk (inK .i64 (i+1)) <|
  rec_ u_off u_len d n guess borrow_1 (shrK .u64 (IntKind.wrap .u64 (carry+(IntKind.wrap .u64 (guess*(IntKind.wrap .u64 x_))))) 32) t82 t83 (i+1) (u.set (u_off+(i).toNat) q)
 )else (
  some (u_off,u_len,d,n,guess,borrow,carry,u)
 )
def ZtL:Nat→Nat→Nat→(List Int)→Int→Int→Int→Int→(List Int)→Int→Int→(List Int)→Option (Nat×Nat×(List Int)×Int×Int×Int×Int×(List Int))
 |0,_,_,_,_,_,_,_,_,_,_,_=>none
 |n_+1,u_off,u_len,d,n,guess,borrow,carry,t82,t83,i,u=>ZsM (ZtL n_) u_off u_len d n guess borrow carry t82 t83 i u
def Zv7 (n:Nat) (s:(Nat×Nat×(List Int)×Int×Int×Int×Int×(List Int)×Int×Int×(List Int))):Option (Nat×Nat×(List Int)×Int×Int×Int×Int×(List Int)):=ZtL n s.1 s.2.1 s.2.2.1 s.2.2.2.1 s.2.2.2.2.1 s.2.2.2.2.2.1 s.2.2.2.2.2.2.1 s.2.2.2.2.2.2.2.1 s.2.2.2.2.2.2.2.2.1 s.2.2.2.2.2.2.2.2.2.1 s.2.2.2.2.2.2.2.2.2.2
def ZuA (rec_:(Nat×Nat×(List Int)×Int×Int×Int×Int×(List Int)×Int×Int×(List Int))→Option (Nat×Nat×(List Int)×Int×Int×Int×Int×(List Int))) (s:(Nat×Nat×(List Int)×Int×Int×Int×Int×(List Int)×Int×Int×(List Int))):Option (Nat×Nat×(List Int)×Int×Int×Int×Int×(List Int)):=ZsM (fun u_off u_len d n guess borrow carry t82 t83 i u=>rec_ (u_off,u_len,d,n,guess,borrow,carry,t82,t83,i,u)) s.1 s.2.1 s.2.2.1 s.2.2.2.1 s.2.2.2.2.1 s.2.2.2.2.2.1 s.2.2.2.2.2.2.1 s.2.2.2.2.2.2.2.1 s.2.2.2.2.2.2.2.2.1 s.2.2.2.2.2.2.2.2.2.1 s.2.2.2.2.2.2.2.2.2.2
theorem ZxK:∀n s,Zv7 (n+1) s=ZuA (Zv7 n) s:=fun _ _=>rfl
def ZtN (u_off:Nat) (u_len:Nat) (d:(List Int)) (n:Int) (guess:Int) (u:(List Int)):Option (Int×(List Int)):=
 (ZtL big u_off u_len d n guess (0:Int) (0:Int) d (d.length:Int) (0:Int) u).bind fun(x0,x1,x2,x3,x4,x5,x6,x7)=>Zvr x0 x1 x2 x3 x4 x5 x6 x7
def Zsh (rec_:Nat→Nat→(List Int)→Int→Int→Int→(List Int)→Option (Nat×Nat×(List Int)×Int×Int×(List Int))) (u_off:Nat) (u_len:Nat) (d:(List Int)) (n:Int) (guess:Int) (rest:Int) (t71:Bool) (u:(List Int)):Option (Nat×Nat×(List Int)×Int×Int×(List Int)):=
 bif t71 then (
  chk (inK .i64 (n - 1)) <|
  (idx d (n - 1)).bind fun d_e=>
  rec_ u_off u_len d n (IntKind.wrap .u64 (guess - 1)) (IntKind.wrap .u64 (rest+(IntKind.wrap .u64 d_e))) u
 )else (
  some (u_off,u_len,d,n,guess,u)
 )
def ZuB (rec_:Nat→Nat→(List Int)→Int→Int→Int→(List Int)→Option (Nat×Nat×(List Int)×Int×Int×(List Int))) (u_off:Nat) (u_len:Nat) (d:(List Int)) (n:Int) (guess:Int) (rest:Int) (u:(List Int)):Option (Nat×Nat×(List Int)×Int×Int×(List Int)):=
 bif (decide (rest < 4294967296))then (
  chk (inK .i64 (n - 2)) <|
  (idx d (n - 2)).bind fun d_e=>
  chk (decide (0≤(32:Int))) <|
  chk (inK .i64 (n - 2)) <|
  chk (inR (n - 2) (u_len:Int)) <|
  (u[(u_off+((n - 2)).toNat)]?).bind fun u_e=>
  Zsh rec_ u_off u_len d n guess rest (decide ((IntKind.wrap .u64 (guess*(IntKind.wrap .u64 d_e))) > (orK .u64 (shlK .u64 rest 32) (IntKind.wrap .u64 u_e)))) u
 )else (
  Zsh rec_ u_off u_len d n guess rest false u
 )
def Zq3:Nat→Nat→Nat→(List Int)→Int→Int→Int→(List Int)→Option (Nat×Nat×(List Int)×Int×Int×(List Int))
 |0,_,_,_,_,_,_,_=>none
 |n_+1,u_off,u_len,d,n,guess,rest,u=>ZuB (Zq3 n_) u_off u_len d n guess rest u
def Zv8 (n:Nat) (s:(Nat×Nat×(List Int)×Int×Int×Int×(List Int))):Option (Nat×Nat×(List Int)×Int×Int×(List Int)):=Zq3 n s.1 s.2.1 s.2.2.1 s.2.2.2.1 s.2.2.2.2.1 s.2.2.2.2.2.1 s.2.2.2.2.2.2
def Zv9 (rec_:(Nat×Nat×(List Int)×Int×Int×Int×(List Int))→Option (Nat×Nat×(List Int)×Int×Int×(List Int))) (s:(Nat×Nat×(List Int)×Int×Int×Int×(List Int))):Option (Nat×Nat×(List Int)×Int×Int×(List Int)):=ZuB (fun u_off u_len d n guess rest u=>rec_ (u_off,u_len,d,n,guess,rest,u)) s.1 s.2.1 s.2.2.1 s.2.2.2.1 s.2.2.2.2.1 s.2.2.2.2.2.1 s.2.2.2.2.2.2
theorem ZxL:∀n s,Zv8 (n+1) s=Zv9 (Zv8 n) s:=fun _ _=>rfl
def Zvp (u:(List Int)) (u_off:Nat) (u_len:Nat) (d:(List Int)):Option (Int×(List Int)):=
 chk (inR (d.length:Int) (u_len:Int)) <|
 (u[(u_off+((d.length:Int)).toNat)]?).bind fun u_e=>
 chk (decide (0≤(32:Int))) <|
 chk (inK .i64 ((d.length:Int) - 1)) <|
 chk (inR ((d.length:Int) - 1) (u_len:Int)) <|
 (u[(u_off+(((d.length:Int) - 1)).toNat)]?).bind fun u_e_1=>
 chk (inK .i64 ((d.length:Int) - 1)) <|
 (idx d ((d.length:Int) - 1)).bind fun d_e=>
 chk (decide ((IntKind.wrap .u64 d_e)≠0)) <|
 chk (inK .i64 ((d.length:Int) - 1)) <|
 (idx d ((d.length:Int) - 1)).bind fun d_e_1=>
 (Zq3 big u_off u_len d (d.length:Int) (if (4294967295:Int) < (IntKind.wrap .u64 (Int.tdiv (orK .u64 (shlK .u64 (IntKind.wrap .u64 u_e) 32) (IntKind.wrap .u64 u_e_1)) (IntKind.wrap .u64 d_e)))then (4294967295:Int)else (IntKind.wrap .u64 (Int.tdiv (orK .u64 (shlK .u64 (IntKind.wrap .u64 u_e) 32) (IntKind.wrap .u64 u_e_1)) (IntKind.wrap .u64 d_e)))) (IntKind.wrap .u64 ((orK .u64 (shlK .u64 (IntKind.wrap .u64 u_e) 32) (IntKind.wrap .u64 u_e_1)) - (IntKind.wrap .u64 ((if (4294967295:Int) < (IntKind.wrap .u64 (Int.tdiv (orK .u64 (shlK .u64 (IntKind.wrap .u64 u_e) 32) (IntKind.wrap .u64 u_e_1)) (IntKind.wrap .u64 d_e)))then (4294967295:Int)else (IntKind.wrap .u64 (Int.tdiv (orK .u64 (shlK .u64 (IntKind.wrap .u64 u_e) 32) (IntKind.wrap .u64 u_e_1)) (IntKind.wrap .u64 d_e))))*(IntKind.wrap .u64 d_e_1))))) u).bind fun(x0,x1,x2,x3,x4,x5)=>ZtN x0 x1 x2 x3 x4 x5
def Zue (u:(List Int)) (u_off:Nat) (u_len:Nat) (d:(List Int)):Option (Int×(List Int)):=
 (Zvp u u_off u_len d).bind fun r=>chk (decide (r.2.length=u.length)&&true) (some r)
def ZtK (w_off:Nat) (w_len:Nat) (w_:(List Int)):Option (Nat×Nat×(List Int)):=
 some (w_off,w_len,w_)
def ZrW (rec_:Nat→Nat→(List Int)→Option (Nat×Nat×(List Int))) (w_off:Nat) (w_len:Nat) (t14:Bool) (w_:(List Int)):Option (Nat×Nat×(List Int)):=
 bif t14 then (
  chk (inK .i64 (((w_len:Nat):Int) - 1)) <|
  chk (Zb9 0 (((w_len:Nat):Int) - 1) (w_len:Int)) <|
  rec_ (w_off+0) (((((w_len:Nat):Int) - 1)).toNat - 0) w_
 )else (
  some (w_off,w_len,w_)
 )
def Ztf (rec_:Nat→Nat→(List Int)→Option (Nat×Nat×(List Int))) (w_off:Nat) (w_len:Nat) (w_:(List Int)):Option (Nat×Nat×(List Int)):=
 bif (decide (((w_len:Nat):Int) > 0))then (
  chk (inK .i64 (((w_len:Nat):Int) - 1)) <|
  chk (inR (((w_len:Nat):Int) - 1) (w_len:Int)) <|
  (w_[(w_off+((((w_len:Nat):Int) - 1)).toNat)]?).bind fun w__e=>
  ZrW rec_ w_off w_len (w__e == 0) w_
 )else (
  ZrW rec_ w_off w_len false w_
 )
def ZqD:Nat→Nat→Nat→(List Int)→Option (Nat×Nat×(List Int))
 |0,_,_,_=>none
 |n_+1,w_off,w_len,w_=>Ztf (ZqD n_) w_off w_len w_
def Zvg (n:Nat) (s:(Nat×Nat×(List Int))):Option (Nat×Nat×(List Int)):=ZqD n s.1 s.2.1 s.2.2
def Zvh (rec_:(Nat×Nat×(List Int))→Option (Nat×Nat×(List Int))) (s:(Nat×Nat×(List Int))):Option (Nat×Nat×(List Int)):=Ztf (fun w_off w_len w_=>rec_ (w_off,w_len,w_)) s.1 s.2.1 s.2.2
theorem Zxa:∀n s,Zvg (n+1) s=Zvh (Zvg n) s:=fun _ _=>rfl
def Ztj (w_:(List Int)) (w_off:Nat) (w_len:Nat):Option (Nat×Nat×(List Int)):=
 (ZqD big w_off w_len w_).bind fun(x0,x1,x2)=>ZtK x0 x1 x2
def Zsl (w_:(List Int)) (w_off:Nat) (w_len:Nat):Option (Nat×Nat×(List Int)):=
 (Ztj w_ w_off w_len).bind fun r=>chk (decide (r.2.2.length=w_.length)&&true) (some r)
def Zp7 (w_:(List Int)) (i:Int):Option Int:=
 bif (decide (i < (w_.length:Int)))then (
  (idx w_ i).bind fun w__e=>
  some w__e
 )else (
  some (0:Int)
 )
def Zux (w_:(List Int)) (w_off:Nat) (w_len:Nat) (i:Int):Option (Int×(List Int)):=
 bif (decide (i < ((w_len:Nat):Int)))then (
  chk (inR i (w_len:Int)) <|
  (w_[(w_off+(i).toNat)]?).bind fun w__e=>
  some (w__e,w_)
 )else (
  some (0,w_)
 )
def ZrU (w_:(List Int)) (w_off:Nat) (w_len:Nat) (i:Int):Option (Int×(List Int)):=
 (Zux w_ w_off w_len i).bind fun r=>chk (decide (r.2.length=w_.length)&&true) (some r)
def Ztw (rest_off:Nat) (rest_len:Nat) (q:(List Int)) (rest:(List Int)):Option ((List Int)×(List Int)):=
 (Zn5 q).bind fun q_1=>
 (Zn5 ((rest.drop rest_off).take rest_len)).bind fun q_2=>
 some (q_1,q_2)
def ZqQ (rec_:Int→Nat→Nat→Int→Int→(List Int)→(List Int)→Option (Nat×Nat×(List Int)×(List Int))) (shift:Int) (rest_off:Nat) (rest_len:Nat) (t86:Int) (i:Int) (q:(List Int)) (rest:(List Int)):Option (Nat×Nat×(List Int)×(List Int)):=
 bif (decide (i < t86))then (
  chk (inK .i64 (i+1)) <|
  (ZrU rest rest_off rest_len (i+1)).bind fun(q_1,t90)=>
  chk (decide (0≤(32:Int))) <|
  chk (inR i (rest_len:Int)) <|
  (t90[(rest_off+(i).toNat)]?).bind fun t90_e=>
  chk (decide (0≤shift)) <|
  chk (inR i (rest_len:Int)) <|
  chk (inK .i64 (i+1)) <|
  rec_ shift rest_off rest_len t86 (i+1) q (t90.set (rest_off+(i).toNat) (IntKind.wrap .u32 (shrK .u64 (orK .u64 (shlK .u64 (IntKind.wrap .u64 q_1) 32) (IntKind.wrap .u64 t90_e)) shift)))
 )else (
  some (rest_off,rest_len,q,rest)
 )
def Zqb:Nat→Int→Nat→Nat→Int→Int→(List Int)→(List Int)→Option (Nat×Nat×(List Int)×(List Int))
 |0,_,_,_,_,_,_,_=>none
 |n_+1,shift,rest_off,rest_len,t86,i,q,rest=>ZqQ (Zqb n_) shift rest_off rest_len t86 i q rest
def ZuX (n:Nat) (s:(Int×Nat×Nat×Int×Int×(List Int)×(List Int))):Option (Nat×Nat×(List Int)×(List Int)):=Zqb n s.1 s.2.1 s.2.2.1 s.2.2.2.1 s.2.2.2.2.1 s.2.2.2.2.2.1 s.2.2.2.2.2.2
def ZsF (rec_:(Int×Nat×Nat×Int×Int×(List Int)×(List Int))→Option (Nat×Nat×(List Int)×(List Int))) (s:(Int×Nat×Nat×Int×Int×(List Int)×(List Int))):Option (Nat×Nat×(List Int)×(List Int)):=ZqQ (fun shift rest_off rest_len t86 i q rest=>rec_ (shift,rest_off,rest_len,t86,i,q,rest)) s.1 s.2.1 s.2.2.1 s.2.2.2.1 s.2.2.2.2.1 s.2.2.2.2.2.1 s.2.2.2.2.2.2
theorem ZwU:∀n s,ZuX (n+1) s=ZsF (ZuX n) s:=fun _ _=>rfl
def Ztx (n:Int) (shift:Int) (u:(List Int)) (q:(List Int)):Option ((List Int)×(List Int)):=
 chk (Zb9 0 n (u.length:Int)) <|
 (Zsl u 0 ((n).toNat - 0)).bind fun(rest_off,rest_len,t83)=>
 (Zqb big shift rest_off rest_len ((rest_len:Nat):Int) (0:Int) q t83).bind fun(x0,x1,x2,x3)=>Ztw x0 x1 x2 x3
def ZqR (rec_:Int→Int→(List Int)→Int→(List Int)→(List Int)→Option (Int×Int×(List Int)×(List Int))) (n:Int) (shift:Int) (d:(List Int)) (j:Int) (u:(List Int)) (q:(List Int)):Option (Int×Int×(List Int)×(List Int)):=
 bif (decide (j≥0))then (
  chk (inK .i64 (j+n)) <|
  chk (inK .i64 ((j+n)+1)) <|
  chk (Zb9 j ((j+n)+1) (u.length:Int)) <|
  (Zue u ((j).toNat) ((((j+n)+1)).toNat - (j).toNat) d).bind fun(q_1,t77)=>
  chk (inR j (q.length:Int)) <|
  chk (inK .i64 (j - 1)) <|
  rec_ n shift d (j - 1) t77 (q.set ((j).toNat) q_1)
 )else (
  some (n,shift,u,q)
 )
def Zqc:Nat→Int→Int→(List Int)→Int→(List Int)→(List Int)→Option (Int×Int×(List Int)×(List Int))
 |0,_,_,_,_,_,_=>none
 |n_+1,n,shift,d,j,u,q=>ZqR (Zqc n_) n shift d j u q
def ZuY (n:Nat) (s:(Int×Int×(List Int)×Int×(List Int)×(List Int))):Option (Int×Int×(List Int)×(List Int)):=Zqc n s.1 s.2.1 s.2.2.1 s.2.2.2.1 s.2.2.2.2.1 s.2.2.2.2.2
def ZsG (rec_:(Int×Int×(List Int)×Int×(List Int)×(List Int))→Option (Int×Int×(List Int)×(List Int))) (s:(Int×Int×(List Int)×Int×(List Int)×(List Int))):Option (Int×Int×(List Int)×(List Int)):=ZqR (fun n shift d j u q=>rec_ (n,shift,d,j,u,q)) s.1 s.2.1 s.2.2.1 s.2.2.2.1 s.2.2.2.2.1 s.2.2.2.2.2
theorem ZwV:∀n s,ZuY (n+1) s=ZsG (ZuY n) s:=fun _ _=>rfl
def Zpz (w_:(List Int)) (v_:(List Int)):Option ((List Int)×(List Int)):=
 (Zor w_ v_).bind fun q=>
 bif (decide (q < 0))then (
  (Zok w_).bind fun q_1=>
  some (([]:(List Int)),q_1)
 )else (
  bif ((v_.length:Int) == 1)then (
   (idx v_ 0).bind fun v__e=>
   (ZqW w_ v__e).bind fun(q_2,r_)=>
   (Zn5 ([r_]:(List Int))).bind fun q_3=>
   some (q_2,q_3)
  )else (
   chk (inK .i64 ((v_.length:Int) - 1)) <|
   (idx v_ ((v_.length:Int) - 1)).bind fun v__e_1=>
   (ZpJ v__e_1).bind fun shift=>
   (ZoW w_ shift).bind fun u=>
   (ZoW v_ shift).bind fun q_4=>
   chk (Zb9 0 (v_.length:Int) (q_4.length:Int)) <|
   chk (inK .i64 ((w_.length:Int) - (v_.length:Int))) <|
   chk (inK .i64 (((w_.length:Int) - (v_.length:Int))+1)) <|
   chk (mkOk (((w_.length:Int) - (v_.length:Int))+1) (((w_.length:Int) - (v_.length:Int))+1) 4) <|
   chk (inK .i64 (((List.replicate ((((w_.length:Int) - (v_.length:Int))+1)).toNat (0:Int)).length:Int) - 1)) <|
   (Zqc big (v_.length:Int) shift ((q_4.drop 0).take (((v_.length:Int)).toNat - 0)) (((List.replicate ((((w_.length:Int) - (v_.length:Int))+1)).toNat (0:Int)).length:Int) - 1) u (List.replicate ((((w_.length:Int) - (v_.length:Int))+1)).toNat (0:Int))).bind fun(x0,x1,x2,x3)=>Ztx x0 x1 x2 x3
  )
 )
def ZsH (w_:(List Int)):Option (List Int):=
 some w_
def Zpi (rec_:(List Int)→(List Int)→Option (List Int)) (w_:(List Int)) (v_:(List Int)):Option (List Int):=
 bif (decide ((v_.length:Int) > 0))then (
  (Zpz w_ v_).bind fun(q,r_)=>
  rec_ v_ r_
 )else (
  some w_
 )
def Zoz:Nat→(List Int)→(List Int)→Option (List Int)
 |0,_,_=>none
 |n_+1,w_,v_=>Zpi (Zoz n_) w_ v_
def ZpE (w_:(List Int)) (v_:(List Int)):Option (List Int):=
 (Zoz big w_ v_).bind fun x0=>ZsH x0
def ZoY (num:ZnD) (den:ZnD):Option ZnC:=
 (ZpE num.Words den.Words).bind fun g=>
 (Zpz num.Words g).bind fun(x_,q)=>
 (Zpz den.Words g).bind fun(y,q_1)=>
 (Zoc (!(num.Neg == den.Neg)) x_).bind fun q_2=>
 (Zoc false y).bind fun q_3=>
 some (ZnC.mk q_2 q_3)
def ZuC (num:ZnD) (den:ZnD):Option (ZnC×Int):=
 (Zty ([num,den]:(List ZnD))).bind fun q=>
 bif (!q)then (
  some ((ZnC.mk (ZnD.mk false ([]:(List Int))) (ZnD.mk false ([]:(List Int)))),1)
 )else (
  bif ((den.Words.length:Int) == 0)then (
   some ((ZnC.mk (ZnD.mk false ([]:(List Int))) (ZnD.mk false ([]:(List Int)))),8)
  )else (
   (ZoY num den).bind fun q_1=>
   some (q_1,0)
  )
 )
def ZuO (num:Int) (den:Int):Option (ZnC×Int):=
 (Zrq num).bind fun q=>
 (Zrq den).bind fun q_1=>
 (ZuC q q_1).bind fun(q_2,q_3)=>
 some (q_2,q_3)
def Zro:Option ZnC:=
 (ZuO 0 1).bind fun(f,q)=>
 some f
def ZsP:Option ZnO:=
 (Zro).bind fun q=>
 (Zro).bind fun q_1=>
 (Zro).bind fun q_2=>
 (Zro).bind fun q_3=>
 (Zro).bind fun q_4=>
 some (ZnO.mk 0 q q_1 q_2 q_3 q_4)
def Zq4 (t2:Bool):Option Bool:=
 some t2
def ZoA (f:ZnC):Option Bool:=
 (Zty ([f.Num,f.Den]:(List ZnD))).bind fun q=>
 bif q then (
  bif (decide ((f.Den.Words.length:Int) > 0))then (
   bif (!f.Den.Neg)then (
    (ZpE f.Num.Words f.Den.Words).bind fun q_1=>
    (Zor q_1 ([1]:List Int)).bind fun q_2=>
    Zq4 (q_2 == 0)
   )else (
    Zq4 false
   )
  )else (
   Zq4 false
  )
 )else (
  Zq4 false
 )
def Ztb (out:(List Int)):Option (List Int):=
 (Zn5 out).bind fun q=>
 some q
def Ztc (rec_:(List Int)→(List Int)→Int→Int→(List Int)→Option (List Int)) (v_:(List Int)) (i:Int) (carry:Int) (t17:(List Int)) (t18:Int) (i_1:Int) (out:(List Int)):Option (List Int):=
 chk (inK .i64 (i+(v_.length:Int))) <|
 chk (inR (i+(v_.length:Int)) (out.length:Int)) <|
 chk (inK .i64 (i_1+1)) <|
 rec_ v_ t17 t18 (i_1+1) (out.set (((i+(v_.length:Int))).toNat) (IntKind.wrap .u32 carry))
def Zqx (rec_:(List Int)→Int→Int→Int→(List Int)→Int→Int→(List Int)→Int→Int→(List Int)→Option ((List Int)×Int×Int×(List Int)×Int×Int×(List Int))) (v_:(List Int)) (i:Int) (x_:Int) (carry:Int) (t17:(List Int)) (t18:Int) (i_1:Int) (t24:(List Int)) (t25:Int) (j:Int) (out:(List Int)):Option ((List Int)×Int×Int×(List Int)×Int×Int×(List Int)):=
 bif (decide (j < t25))then (
  (idx t24 j).bind fun y=>
  chk (inK .i64 (i+j)) <|
  chk (inR (i+j) (out.length:Int)) <|
  (out[((i+j)).toNat]?).bind fun out_e=>
  chk (inK .i64 (i+j)) <|
  chk (inR (i+j) (out.length:Int)) <|
  chk (decide (0≤(32:Int))) <|
  chk (inK .i64 (j+1)) <|
  rec_ v_ i x_ (shrK .u64 (IntKind.wrap .u64 (carry+(IntKind.wrap .u64 ((IntKind.wrap .u64 ((IntKind.wrap .u64 x_)*(IntKind.wrap .u64 y)))+(IntKind.wrap .u64 out_e))))) 32) t17 t18 i_1 t24 t25 (j+1) (out.set (((i+j)).toNat) (IntKind.wrap .u32 (IntKind.wrap .u64 (carry+(IntKind.wrap .u64 ((IntKind.wrap .u64 ((IntKind.wrap .u64 x_)*(IntKind.wrap .u64 y)))+(IntKind.wrap .u64 out_e)))))))
 )else (
  some (v_,i,carry,t17,t18,i_1,out)
 )
def Zrf:Nat→(List Int)→Int→Int→Int→(List Int)→Int→Int→(List Int)→Int→Int→(List Int)→Option ((List Int)×Int×Int×(List Int)×Int×Int×(List Int))
 |0,_,_,_,_,_,_,_,_,_,_,_=>none
 |n_+1,v_,i,x_,carry,t17,t18,i_1,t24,t25,j,out=>Zqx (Zrf n_) v_ i x_ carry t17 t18 i_1 t24 t25 j out
def Zut (n:Nat) (s:((List Int)×Int×Int×Int×(List Int)×Int×Int×(List Int)×Int×Int×(List Int))):Option ((List Int)×Int×Int×(List Int)×Int×Int×(List Int)):=Zrf n s.1 s.2.1 s.2.2.1 s.2.2.2.1 s.2.2.2.2.1 s.2.2.2.2.2.1 s.2.2.2.2.2.2.1 s.2.2.2.2.2.2.2.1 s.2.2.2.2.2.2.2.2.1 s.2.2.2.2.2.2.2.2.2.1 s.2.2.2.2.2.2.2.2.2.2
def Zsa (rec_:((List Int)×Int×Int×Int×(List Int)×Int×Int×(List Int)×Int×Int×(List Int))→Option ((List Int)×Int×Int×(List Int)×Int×Int×(List Int))) (s:((List Int)×Int×Int×Int×(List Int)×Int×Int×(List Int)×Int×Int×(List Int))):Option ((List Int)×Int×Int×(List Int)×Int×Int×(List Int)):=Zqx (fun v_ i x_ carry t17 t18 i_1 t24 t25 j out=>rec_ (v_,i,x_,carry,t17,t18,i_1,t24,t25,j,out)) s.1 s.2.1 s.2.2.1 s.2.2.2.1 s.2.2.2.2.1 s.2.2.2.2.2.1 s.2.2.2.2.2.2.1 s.2.2.2.2.2.2.2.1 s.2.2.2.2.2.2.2.2.1 s.2.2.2.2.2.2.2.2.2.1 s.2.2.2.2.2.2.2.2.2.2
theorem ZwF:∀n s,Zut (n+1) s=Zsa (Zut n) s:=fun _ _=>rfl
def Zqy (rec_:(List Int)→(List Int)→Int→Int→(List Int)→Option (List Int)) (v_:(List Int)) (t17:(List Int)) (t18:Int) (i:Int) (out:(List Int)):Option (List Int):=
 bif (decide (i < t18))then (
  (idx t17 i).bind fun x_=>
  (Zrf big v_ i x_ (0:Int) t17 t18 i v_ (v_.length:Int) (0:Int) out).bind fun(x0,x1,x2,x3,x4,x5,x6)=>Ztc rec_ x0 x1 x2 x3 x4 x5 x6
 )else (
  some out
 )
def ZpW:Nat→(List Int)→(List Int)→Int→Int→(List Int)→Option (List Int)
 |0,_,_,_,_,_=>none
 |n_+1,v_,t17,t18,i,out=>Zqy (ZpW n_) v_ t17 t18 i out
def Zuu (n:Nat) (s:((List Int)×(List Int)×Int×Int×(List Int))):Option (List Int):=ZpW n s.1 s.2.1 s.2.2.1 s.2.2.2.1 s.2.2.2.2
def Zsb (rec_:((List Int)×(List Int)×Int×Int×(List Int))→Option (List Int)) (s:((List Int)×(List Int)×Int×Int×(List Int))):Option (List Int):=Zqy (fun v_ t17 t18 i out=>rec_ (v_,t17,t18,i,out)) s.1 s.2.1 s.2.2.1 s.2.2.2.1 s.2.2.2.2
theorem ZwG:∀n s,Zuu (n+1) s=Zsb (Zuu n) s:=fun _ _=>rfl
def Zpf (w_:(List Int)) (v_:(List Int)):Option (List Int):=
 chk (inK .i64 ((w_.length:Int)+(v_.length:Int))) <|
 chk (mkOk ((w_.length:Int)+(v_.length:Int)) ((w_.length:Int)+(v_.length:Int)) 4) <|
 (ZpW big v_ w_ (w_.length:Int) (0:Int) (List.replicate (((w_.length:Int)+(v_.length:Int))).toNat (0:Int))).bind fun x0=>Ztb x0
def ZnM (a:ZnD) (b:ZnD):Option ZnD:=
 (Zpf a.Words b.Words).bind fun q=>
 (Zoc (!(a.Neg == b.Neg)) q).bind fun q_1=>
 some q_1
def Ztv (carry:Int) (out:(List Int)):Option (List Int):=
 chk (ZiZ (out.length+([carry]:(List Int)).length) 4) <|
 (Zn5 (out++([carry]:(List Int)))).bind fun q=>
 some q
def ZqP (rec_:(List Int)→(List Int)→Int→Int→Int→(List Int)→Option (Int×(List Int))) (w_:(List Int)) (v_:(List Int)) (carry:Int) (t20:Int) (i:Int) (out:(List Int)):Option (Int×(List Int)):=
 bif (decide (i < t20))then (
  (Zp7 w_ i).bind fun q=>
  (Zp7 v_ i).bind fun q_1=>
  (ZrY q q_1 carry).bind fun(d,carry_1)=>
  chk (ZiZ (out.length+([d]:(List Int)).length) 4) <|
  chk (inK .i64 (i+1)) <|
  rec_ w_ v_ carry_1 t20 (i+1) (out++([d]:(List Int)))
 )else (
  some (carry,out)
 )
def Zrp:Nat→(List Int)→(List Int)→Int→Int→Int→(List Int)→Option (Int×(List Int))
 |0,_,_,_,_,_,_=>none
 |n_+1,w_,v_,carry,t20,i,out=>ZqP (Zrp n_) w_ v_ carry t20 i out
def ZuW (n:Nat) (s:((List Int)×(List Int)×Int×Int×Int×(List Int))):Option (Int×(List Int)):=Zrp n s.1 s.2.1 s.2.2.1 s.2.2.2.1 s.2.2.2.2.1 s.2.2.2.2.2
def ZsE (rec_:((List Int)×(List Int)×Int×Int×Int×(List Int))→Option (Int×(List Int))) (s:((List Int)×(List Int)×Int×Int×Int×(List Int))):Option (Int×(List Int)):=ZqP (fun w_ v_ carry t20 i out=>rec_ (w_,v_,carry,t20,i,out)) s.1 s.2.1 s.2.2.1 s.2.2.2.1 s.2.2.2.2.1 s.2.2.2.2.2
theorem ZwT:∀n s,ZuW (n+1) s=ZsE (ZuW n) s:=fun _ _=>rfl
def Zqa (w_:(List Int)) (v_:(List Int)):Option (List Int):=
 chk (inK .i64 ((if (v_.length:Int) > (w_.length:Int)then (v_.length:Int)else (w_.length:Int))+1)) <|
 chk (mkOk 0 ((if (v_.length:Int) > (w_.length:Int)then (v_.length:Int)else (w_.length:Int))+1) 4) <|
 (Zrp big w_ v_ (0:Int) (if (v_.length:Int) > (w_.length:Int)then (v_.length:Int)else (w_.length:Int)) (0:Int) (List.replicate ((0:Int)).toNat (0:Int))).bind fun(x0,x1)=>Ztv x0 x1
def Zte (out:(List Int)):Option (List Int):=
 (Zn5 out).bind fun q=>
 some q
def ZqB (rec_:(List Int)→(List Int)→Int→Int→Int→(List Int)→Option (List Int)) (w_:(List Int)) (v_:(List Int)) (borrow:Int) (t12:Int) (i:Int) (out:(List Int)):Option (List Int):=
 bif (decide (i < t12))then (
  (idx w_ i).bind fun w__e=>
  (Zp7 v_ i).bind fun q=>
  (Zq1 w__e q borrow).bind fun(q_1,borrow_1)=>
  chk (inR i (out.length:Int)) <|
  chk (inK .i64 (i+1)) <|
  rec_ w_ v_ borrow_1 t12 (i+1) (out.set ((i).toNat) q_1)
 )else (
  some out
 )
def Zrh:Nat→(List Int)→(List Int)→Int→Int→Int→(List Int)→Option (List Int)
 |0,_,_,_,_,_,_=>none
 |n_+1,w_,v_,borrow,t12,i,out=>ZqB (Zrh n_) w_ v_ borrow t12 i out
def Zuw (n:Nat) (s:((List Int)×(List Int)×Int×Int×Int×(List Int))):Option (List Int):=Zrh n s.1 s.2.1 s.2.2.1 s.2.2.2.1 s.2.2.2.2.1 s.2.2.2.2.2
def Zse (rec_:((List Int)×(List Int)×Int×Int×Int×(List Int))→Option (List Int)) (s:((List Int)×(List Int)×Int×Int×Int×(List Int))):Option (List Int):=ZqB (fun w_ v_ borrow t12 i out=>rec_ (w_,v_,borrow,t12,i,out)) s.1 s.2.1 s.2.2.1 s.2.2.2.1 s.2.2.2.2.1 s.2.2.2.2.2
theorem ZwI:∀n s,Zuw (n+1) s=Zse (Zuw n) s:=fun _ _=>rfl
def ZpP (w_:(List Int)) (v_:(List Int)):Option (List Int):=
 chk (mkOk (w_.length:Int) (w_.length:Int) 4) <|
 (Zrh big w_ v_ (0:Int) (w_.length:Int) (0:Int) (List.replicate ((w_.length:Int)).toNat (0:Int))).bind fun x0=>Zte x0
def Ztg (a:ZnD) (b:ZnD):Option ZnD:=
 bif (a.Neg == b.Neg)then (
  (Zqa a.Words b.Words).bind fun q=>
  (Zoc a.Neg q).bind fun q_1=>
  some q_1
 )else (
  (Zor a.Words b.Words).bind fun q_2=>
  bif (decide (q_2≥0))then (
   (ZpP a.Words b.Words).bind fun q_3=>
   (Zoc a.Neg q_3).bind fun q_4=>
   some q_4
  )else (
   (ZpP b.Words a.Words).bind fun q_5=>
   (Zoc b.Neg q_5).bind fun q_6=>
   some q_6
  )
 )
def ZvJ (a:ZnC) (b:ZnC):Option (ZnD×ZnD):=
 (ZnM a.Num b.Den).bind fun q=>
 (ZnM b.Num a.Den).bind fun q_1=>
 (Ztg q q_1).bind fun num=>
 (ZnM a.Den b.Den).bind fun den=>
 some (num,den)
def ZpN (t18:Bool) (a:ZnC) (b:ZnC) (t6:Bool) (t6_1:Bool) (t6_2:(List Int)) (t6_3:(List Int)):Option (ZnC×Int):=
 bif t18 then (
  some ((ZnC.mk (ZnD.mk false ([]:(List Int))) (ZnD.mk false ([]:(List Int)))),1)
 )else (
  (ZvJ a b).bind fun(num,den)=>
  bif ((den.Words.length:Int) == 0)then (
   some ((ZnC.mk (ZnD.mk false ([]:(List Int))) (ZnD.mk false ([]:(List Int)))),8)
  )else (
   (ZoY num den).bind fun f=>
   bif (decide ((if (f.Den.Words.length:Int) > (f.Num.Words.length:Int)then (f.Den.Words.length:Int)else (f.Num.Words.length:Int)) > 256))then (
    some ((ZnC.mk (ZnD.mk false ([]:(List Int))) (ZnD.mk false ([]:(List Int)))),3)
   )else (
    some (f,0)
   )
  )
 )
def ZoX (a:ZnC) (b:ZnC):Option (ZnC×Int):=
 (ZoA a).bind fun q=>
 bif (!q)then (
  ZpN true a b false false ([]:(List Int)) ([]:(List Int))
 )else (
  (ZoA b).bind fun q_1=>
  ZpN (!q_1) a b false false ([]:(List Int)) ([]:(List Int))
 )
def Zt1 (a:ZnC) (b:ZnC):Option (ZnC×Int):=
 (ZoX a b).bind fun(q,q_1)=>
 some (q,q_1)
def Zta (f:ZnC) (a1:Int):Option ZnC:=
 some f
def Zvf (a:ZnC) (b:ZnC):Option ZnC:=
 (Zt1 a b).bind fun(q,q_1)=>
 (Zta q q_1).bind fun q_2=>
 some q_2
def Zvo (a:ZnC) (b:ZnC):Option (ZnD×ZnD):=
 (ZnM a.Num b.Num).bind fun num=>
 (ZnM a.Den b.Den).bind fun den=>
 some (num,den)
def Zpp (t18:Bool) (a:ZnC) (b:ZnC) (t6:Bool) (t6_1:Bool) (t6_2:(List Int)) (t6_3:(List Int)):Option (ZnC×Int):=
 bif t18 then (
  some ((ZnC.mk (ZnD.mk false ([]:(List Int))) (ZnD.mk false ([]:(List Int)))),1)
 )else (
  (Zvo a b).bind fun(num,den)=>
  bif ((den.Words.length:Int) == 0)then (
   some ((ZnC.mk (ZnD.mk false ([]:(List Int))) (ZnD.mk false ([]:(List Int)))),8)
  )else (
   (ZoY num den).bind fun f=>
   bif (decide ((if (f.Den.Words.length:Int) > (f.Num.Words.length:Int)then (f.Den.Words.length:Int)else (f.Num.Words.length:Int)) > 256))then (
    some ((ZnC.mk (ZnD.mk false ([]:(List Int))) (ZnD.mk false ([]:(List Int)))),3)
   )else (
    some (f,0)
   )
  )
 )
def Zp5 (a:ZnC) (b:ZnC):Option (ZnC×Int):=
 (ZoA a).bind fun q=>
 bif (!q)then (
  Zpp true a b false false ([]:(List Int)) ([]:(List Int))
 )else (
  (ZoA b).bind fun q_1=>
  Zpp (!q_1) a b false false ([]:(List Int)) ([]:(List Int))
 )
def Zvj (a:ZnC) (b:ZnC):Option (ZnC×Int):=
 (Zp5 a b).bind fun(q,q_1)=>
 some (q,q_1)
def Zur (a:ZnC) (b:ZnC):Option ZnC:=
 (Zvj a b).bind fun(q,q_1)=>
 (Zta q q_1).bind fun q_2=>
 some q_2
def ZtB (m:ZnO) (x_:ZnC) (y:ZnC):Option ZnO:=
 chk (inK .i64 (m.N+1)) <|
 (Zvf m.X x_).bind fun q=>
 (Zvf m.Y y).bind fun q_1=>
 (Zur x_ x_).bind fun q_2=>
 (Zvf m.XX q_2).bind fun q_3=>
 (Zur y y).bind fun q_4=>
 (Zvf m.YY q_4).bind fun q_5=>
 (Zur x_ y).bind fun q_6=>
 (Zvf m.XY q_6).bind fun q_7=>
 some (ZnO.mk (m.N+1) q q_1 q_3 q_5 q_7)
def ZwW (t2:Int) (t2_1:Bool) (t2_2:Bool) (t2_3:Bool) (t2_4:Bool) (t2_5:Bool) (t2_6:Bool) (t2_7:Bool) (t2_8:Bool) (t2_9:Bool) (t2_10:Bool) (m:ZnO) (t2_11:(List Int)) (t2_12:(List Int)) (t2_13:(List Int)) (t2_14:(List Int)) (t2_15:(List Int)) (t2_16:(List Int)) (t2_17:(List Int)) (t2_18:(List Int)) (t2_19:(List Int)) (t2_20:(List Int)):Option ZnO:=
 some m
def ZsQ (rec_:(List ZnB)→Int→Int→Int→Bool→Bool→Bool→Bool→Bool→Bool→Bool→Bool→Bool→Bool→ZnO→(List Int)→(List Int)→(List Int)→(List Int)→(List Int)→(List Int)→(List Int)→(List Int)→(List Int)→(List Int)→Option (Int×Bool×Bool×Bool×Bool×Bool×Bool×Bool×Bool×Bool×Bool×ZnO×(List Int)×(List Int)×(List Int)×(List Int)×(List Int)×(List Int)×(List Int)×(List Int)×(List Int)×(List Int))) (t7:(List ZnB)) (t8:Int) (t9:Int) (t2:Int) (t2_1:Bool) (t2_2:Bool) (t2_3:Bool) (t2_4:Bool) (t2_5:Bool) (t2_6:Bool) (t2_7:Bool) (t2_8:Bool) (t2_9:Bool) (t2_10:Bool) (m:ZnO) (t2_11:(List Int)) (t2_12:(List Int)) (t2_13:(List Int)) (t2_14:(List Int)) (t2_15:(List Int)) (t2_16:(List Int)) (t2_17:(List Int)) (t2_18:(List Int)) (t2_19:(List Int)) (t2_20:(List Int)):Option (Int×Bool×Bool×Bool×Bool×Bool×Bool×Bool×Bool×Bool×Bool×ZnO×(List Int)×(List Int)×(List Int)×(List Int)×(List Int)×(List Int)×(List Int)×(List Int)×(List Int)×(List Int)):=
 bif (decide (t9 < t8))then (
  (idx t7 t9).bind fun p=>
  chk (inR 0 2) <|
  chk (inR 1 2) <|
  (ZtB m p.e0 p.e1).bind fun m_1=>
  chk (inK .i64 (t9+1)) <|
  rec_ t7 t8 (t9+1) t2 t2_1 t2_2 t2_3 t2_4 t2_5 t2_6 t2_7 t2_8 t2_9 t2_10 m_1 t2_11 t2_12 t2_13 t2_14 t2_15 t2_16 t2_17 t2_18 t2_19 t2_20
 )else (
  some (t2,t2_1,t2_2,t2_3,t2_4,t2_5,t2_6,t2_7,t2_8,t2_9,t2_10,m,t2_11,t2_12,t2_13,t2_14,t2_15,t2_16,t2_17,t2_18,t2_19,t2_20)
 )
def ZtO:Nat→(List ZnB)→Int→Int→Int→Bool→Bool→Bool→Bool→Bool→Bool→Bool→Bool→Bool→Bool→ZnO→(List Int)→(List Int)→(List Int)→(List Int)→(List Int)→(List Int)→(List Int)→(List Int)→(List Int)→(List Int)→Option (Int×Bool×Bool×Bool×Bool×Bool×Bool×Bool×Bool×Bool×Bool×ZnO×(List Int)×(List Int)×(List Int)×(List Int)×(List Int)×(List Int)×(List Int)×(List Int)×(List Int)×(List Int))
 |0,_,_,_,_,_,_,_,_,_,_,_,_,_,_,_,_,_,_,_,_,_,_,_,_,_=>none
 |n_+1,t7,t8,t9,t2,t2_1,t2_2,t2_3,t2_4,t2_5,t2_6,t2_7,t2_8,t2_9,t2_10,m,t2_11,t2_12,t2_13,t2_14,t2_15,t2_16,t2_17,t2_18,t2_19,t2_20=>ZsQ (ZtO n_) t7 t8 t9 t2 t2_1 t2_2 t2_3 t2_4 t2_5 t2_6 t2_7 t2_8 t2_9 t2_10 m t2_11 t2_12 t2_13 t2_14 t2_15 t2_16 t2_17 t2_18 t2_19 t2_20
def Zwb (n:Nat) (s:((List ZnB)×Int×Int×Int×Bool×Bool×Bool×Bool×Bool×Bool×Bool×Bool×Bool×Bool×ZnO×(List Int)×(List Int)×(List Int)×(List Int)×(List Int)×(List Int)×(List Int)×(List Int)×(List Int)×(List Int))):Option (Int×Bool×Bool×Bool×Bool×Bool×Bool×Bool×Bool×Bool×Bool×ZnO×(List Int)×(List Int)×(List Int)×(List Int)×(List Int)×(List Int)×(List Int)×(List Int)×(List Int)×(List Int)):=ZtO n s.1 s.2.1 s.2.2.1 s.2.2.2.1 s.2.2.2.2.1 s.2.2.2.2.2.1 s.2.2.2.2.2.2.1 s.2.2.2.2.2.2.2.1 s.2.2.2.2.2.2.2.2.1 s.2.2.2.2.2.2.2.2.2.1 s.2.2.2.2.2.2.2.2.2.2.1 s.2.2.2.2.2.2.2.2.2.2.2.1 s.2.2.2.2.2.2.2.2.2.2.2.2.1 s.2.2.2.2.2.2.2.2.2.2.2.2.2.1 s.2.2.2.2.2.2.2.2.2.2.2.2.2.2.1 s.2.2.2.2.2.2.2.2.2.2.2.2.2.2.2.1 s.2.2.2.2.2.2.2.2.2.2.2.2.2.2.2.2.1 s.2.2.2.2.2.2.2.2.2.2.2.2.2.2.2.2.2.1 s.2.2.2.2.2.2.2.2.2.2.2.2.2.2.2.2.2.2.1 s.2.2.2.2.2.2.2.2.2.2.2.2.2.2.2.2.2.2.2.1 s.2.2.2.2.2.2.2.2.2.2.2.2.2.2.2.2.2.2.2.2.1 s.2.2.2.2.2.2.2.2.2.2.2.2.2.2.2.2.2.2.2.2.2.1 s.2.2.2.2.2.2.2.2.2.2.2.2.2.2.2.2.2.2.2.2.2.2.1 s.2.2.2.2.2.2.2.2.2.2.2.2.2.2.2.2.2.2.2.2.2.2.2.1 s.2.2.2.2.2.2.2.2.2.2.2.2.2.2.2.2.2.2.2.2.2.2.2.2
def ZuG (rec_:((List ZnB)×Int×Int×Int×Bool×Bool×Bool×Bool×Bool×Bool×Bool×Bool×Bool×Bool×ZnO×(List Int)×(List Int)×(List Int)×(List Int)×(List Int)×(List Int)×(List Int)×(List Int)×(List Int)×(List Int))→Option (Int×Bool×Bool×Bool×Bool×Bool×Bool×Bool×Bool×Bool×Bool×ZnO×(List Int)×(List Int)×(List Int)×(List Int)×(List Int)×(List Int)×(List Int)×(List Int)×(List Int)×(List Int))) (s:((List ZnB)×Int×Int×Int×Bool×Bool×Bool×Bool×Bool×Bool×Bool×Bool×Bool×Bool×ZnO×(List Int)×(List Int)×(List Int)×(List Int)×(List Int)×(List Int)×(List Int)×(List Int)×(List Int)×(List Int))):Option (Int×Bool×Bool×Bool×Bool×Bool×Bool×Bool×Bool×Bool×Bool×ZnO×(List Int)×(List Int)×(List Int)×(List Int)×(List Int)×(List Int)×(List Int)×(List Int)×(List Int)×(List Int)):=ZsQ (fun t7 t8 t9 t2 t2_1 t2_2 t2_3 t2_4 t2_5 t2_6 t2_7 t2_8 t2_9 t2_10 m t2_11 t2_12 t2_13 t2_14 t2_15 t2_16 t2_17 t2_18 t2_19 t2_20=>rec_ (t7,t8,t9,t2,t2_1,t2_2,t2_3,t2_4,t2_5,t2_6,t2_7,t2_8,t2_9,t2_10,m,t2_11,t2_12,t2_13,t2_14,t2_15,t2_16,t2_17,t2_18,t2_19,t2_20)) s.1 s.2.1 s.2.2.1 s.2.2.2.1 s.2.2.2.2.1 s.2.2.2.2.2.1 s.2.2.2.2.2.2.1 s.2.2.2.2.2.2.2.1 s.2.2.2.2.2.2.2.2.1 s.2.2.2.2.2.2.2.2.2.1 s.2.2.2.2.2.2.2.2.2.2.1 s.2.2.2.2.2.2.2.2.2.2.2.1 s.2.2.2.2.2.2.2.2.2.2.2.2.1 s.2.2.2.2.2.2.2.2.2.2.2.2.2.1 s.2.2.2.2.2.2.2.2.2.2.2.2.2.2.1 s.2.2.2.2.2.2.2.2.2.2.2.2.2.2.2.1 s.2.2.2.2.2.2.2.2.2.2.2.2.2.2.2.2.1 s.2.2.2.2.2.2.2.2.2.2.2.2.2.2.2.2.2.1 s.2.2.2.2.2.2.2.2.2.2.2.2.2.2.2.2.2.2.1 s.2.2.2.2.2.2.2.2.2.2.2.2.2.2.2.2.2.2.2.1 s.2.2.2.2.2.2.2.2.2.2.2.2.2.2.2.2.2.2.2.2.1 s.2.2.2.2.2.2.2.2.2.2.2.2.2.2.2.2.2.2.2.2.2.1 s.2.2.2.2.2.2.2.2.2.2.2.2.2.2.2.2.2.2.2.2.2.2.1 s.2.2.2.2.2.2.2.2.2.2.2.2.2.2.2.2.2.2.2.2.2.2.2.1 s.2.2.2.2.2.2.2.2.2.2.2.2.2.2.2.2.2.2.2.2.2.2.2.2
theorem ZxM:∀n s,Zwb (n+1) s=ZuG (Zwb n) s:=fun _ _=>rfl
def ZtY (l:(List ZnB)):Option ZnO:=
 (ZsP).bind fun m=>
 (ZtO big l (l.length:Int) (0:Int) (0:Int) false false false false false false false false false false m ([]:(List Int)) ([]:(List Int)) ([]:(List Int)) ([]:(List Int)) ([]:(List Int)) ([]:(List Int)) ([]:(List Int)) ([]:(List Int)) ([]:(List Int)) ([]:(List Int))).bind fun(x0,x1,x2,x3,x4,x5,x6,x7,x8,x9,x10,x11,x12,x13,x14,x15,x16,x17,x18,x19,x20,x21)=>ZwW x0 x1 x2 x3 x4 x5 x6 x7 x8 x9 x10 x11 x12 x13 x14 x15 x16 x17 x18 x19 x20 x21
def Zxe (a:Int) (b:Int):Option ZnC:=
 (ZuO a b).bind fun(f,e)=>
 bif (e != 0)then (
  (Zro).bind fun q=>
  some q
 )else (
  some f
 )
def Zsm (t2:ZnD):Option ZnD:=
 some t2
def Zp8 (a:ZnD):Option ZnD:=
 bif (!a.Neg)then (
  Zsm (ZnD.mk (decide ((a.Words.length:Int) > 0)) a.Words)
 )else (
  Zsm (ZnD.mk false a.Words)
 )
def Zvi (a:ZnC) (b:ZnC):Option (ZnC×Int):=
 (ZoA b).bind fun q=>
 bif (!q)then (
  some ((ZnC.mk (ZnD.mk false ([]:(List Int))) (ZnD.mk false ([]:(List Int)))),1)
 )else (
  (Zp8 b.Num).bind fun q_1=>
  (ZoX a (ZnC.mk q_1 b.Den)).bind fun(q_2,q_3)=>
  some (q_2,q_3)
 )
def ZxQ (a:ZnC) (b:ZnC):Option ZnC:=
 (Zvi a b).bind fun(q,q_1)=>
 (Zta q q_1).bind fun q_2=>
 some q_2
def ZoZ (n:Int) (ab:ZnC) (a:ZnC) (b:ZnC):Option ZnC:=
 (Zxe n 1).bind fun q=>
 (Zur q ab).bind fun q_1=>
 (Zur a b).bind fun q_2=>
 (ZxQ q_1 q_2).bind fun q_3=>
 some q_3
def ZuP (t13:Bool) (a:ZnC) (b:ZnC):Option Int:=
 bif t13 then (
  some (0:Int)
 )else (
  (ZnM a.Num b.Den).bind fun q=>
  (ZnM b.Num a.Den).bind fun q_1=>
  (Zp8 q_1).bind fun q_2=>
  (Ztg q q_2).bind fun d=>
  bif d.Neg then (
   some (-1:Int)
  )else (
   bif (decide ((d.Words.length:Int) > 0))then (
    some (1:Int)
   )else (
    some (0:Int)
   )
  )
 )
def Zvl (a:ZnC) (b:ZnC):Option Int:=
 (ZoA a).bind fun q=>
 bif (!q)then (
  ZuP true a b
 )else (
  (ZoA b).bind fun q_1=>
  ZuP (!q_1) a b
 )
def ZvT (a:ZnC):Option Int:=
 (Zro).bind fun q=>
 (Zvl a q).bind fun q_1=>
 some q_1
def ZvK (a:ZnC) (b:ZnC):Option (ZnD×ZnD):=
 (ZnM a.Num b.Den).bind fun num=>
 (ZnM a.Den b.Num).bind fun den=>
 some (num,den)
def Zpo (t18:Bool) (a:ZnC) (b:ZnC) (t6:Bool) (t6_1:Bool) (t6_2:(List Int)) (t6_3:(List Int)):Option (ZnC×Int):=
 bif t18 then (
  some ((ZnC.mk (ZnD.mk false ([]:(List Int))) (ZnD.mk false ([]:(List Int)))),1)
 )else (
  (ZvK a b).bind fun(num,den)=>
  bif ((den.Words.length:Int) == 0)then (
   some ((ZnC.mk (ZnD.mk false ([]:(List Int))) (ZnD.mk false ([]:(List Int)))),8)
  )else (
   (ZoY num den).bind fun f=>
   bif (decide ((if (f.Den.Words.length:Int) > (f.Num.Words.length:Int)then (f.Den.Words.length:Int)else (f.Num.Words.length:Int)) > 256))then (
    some ((ZnC.mk (ZnD.mk false ([]:(List Int))) (ZnD.mk false ([]:(List Int)))),3)
   )else (
    some (f,0)
   )
  )
 )
def Zp4 (a:ZnC) (b:ZnC):Option (ZnC×Int):=
 (ZoA a).bind fun q=>
 bif (!q)then (
  Zpo true a b false false ([]:(List Int)) ([]:(List Int))
 )else (
  (ZoA b).bind fun q_1=>
  Zpo (!q_1) a b false false ([]:(List Int)) ([]:(List Int))
 )
def Zvk (a:ZnC) (b:ZnC):Option (ZnC×Int):=
 (Zp4 a b).bind fun(q,q_1)=>
 some (q,q_1)
def Zv3 (a:ZnC) (b:ZnC):Option ZnC:=
 (Zvk a b).bind fun(q,q_1)=>
 (Zta q q_1).bind fun q_2=>
 some q_2
def Zo4 (t47:Bool) (t2:Bool) (t2_1:Bool) (c:ZnC) (u:ZnC) (v_:ZnC) (t2_2:(List Int)) (t2_3:(List Int)):Option (ZnC×Int×Bool):=
 bif t47 then (
  (Zro).bind fun q=>
  some (q,0,false)
 )else (
  (Zur c c).bind fun q_1=>
  (Zur u v_).bind fun q_2=>
  (Zv3 q_1 q_2).bind fun q_3=>
  (ZvT c).bind fun q_4=>
  some (q_3,q_4,true)
 )
def ZrF (m:ZnO):Option (ZnC×Int×Bool):=
 (ZoZ m.N m.XY m.X m.Y).bind fun c=>
 (ZoZ m.N m.XX m.X m.X).bind fun u=>
 (ZoZ m.N m.YY m.Y m.Y).bind fun v_=>
 bif (decide (m.N < 3))then (
  Zo4 true false false c u v_ ([]:(List Int)) ([]:(List Int))
 )else (
  (ZvT u).bind fun q=>
  bif (q == 0)then (
   Zo4 true false false c u v_ ([]:(List Int)) ([]:(List Int))
  )else (
   (ZvT v_).bind fun q_1=>
   Zo4 (q_1 == 0) false false c u v_ ([]:(List Int)) ([]:(List Int))
  )
 )
def Zru:Option Bool:=
 some true
def ZpC (rec_:(List Int)→Int→Int→ZnD→Option (Out Unit Bool)) (t22:(List Int)) (t23:Int) (i:Int) (b:ZnD):Option (Out Unit Bool):=
 bif (decide (i < t23))then (
  (idx t22 i).bind fun w_=>
  (idx b.Words i).bind fun Word=>
  bif (Word != w_)then (
   some (.ret false)
  )else (
   chk (inK .i64 (i+1)) <|
   rec_ t22 t23 (i+1) b
  )
 )else (
  some (.brk ())
 )
def ZpX:Nat→(List Int)→Int→Int→ZnD→Option (Out Unit Bool)
 |0,_,_,_,_=>none
 |n_+1,t22,t23,i,b=>ZpC (ZpX n_) t22 t23 i b
def Ztq (n:Nat) (s:((List Int)×Int×Int×ZnD)):Option (Out Unit Bool):=ZpX n s.1 s.2.1 s.2.2.1 s.2.2.2
def ZqX (rec_:((List Int)×Int×Int×ZnD)→Option (Out Unit Bool)) (s:((List Int)×Int×Int×ZnD)):Option (Out Unit Bool):=ZpC (fun t22 t23 i b=>rec_ (t22,t23,i,b)) s.1 s.2.1 s.2.2.1 s.2.2.2
theorem ZvQ:∀n s,Ztq (n+1) s=ZqX (Ztq n) s:=fun _ _=>rfl
def ZpY (t20:Bool) (a:ZnD) (b:ZnD):Option Bool:=
 bif t20 then (
  some false
 )else (
  (ZpX big a.Words (a.Words.length:Int) (0:Int) b).bind fun
   | .ret q_=>some q_
   | .brk ()=>Zru
 )
def Zo3 (a:ZnD) (b:ZnD):Option Bool:=
 bif (!(a.Neg == b.Neg))then (
  ZpY true a b
 )else (
  ZpY ((a.Words.length:Int) != (b.Words.length:Int)) a b
 )
def ZqJ (t4:Bool):Option Bool:=
 some t4
def ZnZ (a:ZnC) (b:ZnC):Option Bool:=
 (Zo3 a.Num b.Num).bind fun q=>
 bif q then (
  (Zo3 a.Den b.Den).bind fun q_1=>
  ZqJ q_1
 )else (
  ZqJ false
 )
def Zpu (t0:Bool):Option Bool:=
 some t0
def Zpk:Option Bool:=
 (Zqu).bind fun q=>
 (ZtY q).bind fun q_1=>
 (ZrF q_1).bind fun(s,sign,ok)=>
 bif ok then (
  bif (sign == 1)then (
   (ZnY 1).bind fun q_2=>
   (ZnZ s q_2).bind fun q_3=>
   Zpu q_3
  )else (
   Zpu false
  )
 )else (
  Zpu false
 )
def ZsJ (t:(List Int)):Option ZnH:=
 some (ZnH.mk t 0)
def ZrC (n:Int) (m:Int):Option Int:=
 bif (decide (m < 1))then (
  some (0:Int)
 )else (
  chk (decide (m≠0)) <|
  chk (inK .i64 ((Int.tmod n m)+m)) <|
  chk (decide (m≠0)) <|
  some (Int.tmod ((Int.tmod n m)+m) m)
 )
def ZnS (d:ZnH) (n:Int):Option (Int×ZnH):=
 bif (decide (d.at_≥(d.l.length:Int)))then (
  some (0,d)
 )else (
  chk (inK .i64 (d.at_+1)) <|
  chk (inK .i64 ((d.at_+1) - 1)) <|
  (idx d.l ((d.at_+1) - 1)).bind fun l_e=>
  (ZrC l_e n).bind fun q=>
  some (q,(ZnH.mk d.l (d.at_+1)))
 )
def Zod (d:ZnH) (l:(List Str)):Option (Str×ZnH):=
 (ZnS d (l.length:Int)).bind fun(q,t6)=>
 (idx l q).bind fun l_e=>
 some (l_e,t6)
def Zrl (d:ZnH):Option (ZnF×ZnH):=
 (ZnS d 7).bind fun(q,t3)=>
 bif (q == 1)then (
  some ((ZnF.mk true ([]:Str)),t3)
 )else (
  (Zod t3 ([([97]:Str),([98]:Str),([99]:Str),([49]:Str),([50]:Str),([51]:Str),([49,48]:Str),([120]:Str),([45,49,46,53]:Str),([50]:Str)]:(List Str))).bind fun(q_1,t7)=>
  some ((ZnF.mk false q_1),t7)
 )
def Zt0 (n:Int):Option Str:=
 some (Lib.itoa n)
def Zqv (d:ZnH):Option (ZnF×ZnH):=
 (ZnS d 9).bind fun(q,t3)=>
 bif (q == 1)then (
  some ((ZnF.mk true ([]:Str)),t3)
 )else (
  bif (q == 2)then (
   (Zod t3 ([([120]:Str),([]:Str),([49,46,50,46,51]:Str),([49,46,53,48]:Str)]:(List Str))).bind fun(q_1,t10)=>
   some ((ZnF.mk false q_1),t10)
  )else (
   (ZnS t3 12).bind fun(q_2,t14)=>
   chk (inK .i64 (q_2 - 3)) <|
   (Zt0 (q_2 - 3)).bind fun q_3=>
   some ((ZnF.mk false q_3),t14)
  )
 )
def ZsC (d:ZnH) (t4:Str) (c:Str) (t4_1:(List ZnF)) (c_1:(List ZnF)):Option (ZnE×ZnH):=
 some ((ZnE.mk c c_1),d)
def Zox (rec_:Int→Int→Int→ZnH→Str→Str→(List ZnF)→(List ZnF)→Option (ZnH×Str×Str×(List ZnF)×(List ZnF))) (kind:Int) (t15:Int) (i:Int) (d:ZnH) (t4:Str) (c:Str) (x_:ZnF) (t4_1:(List ZnF)) (c_1:(List ZnF)):Option (ZnH×Str×Str×(List ZnF)×(List ZnF)):=
 chk (ZiZ (c_1.length+([x_]:(List ZnF)).length) 24) <|
 chk (inK .i64 (i+1)) <|
 rec_ kind t15 (i+1) d t4 c t4_1 (c_1++([x_]:(List ZnF)))
def Zqh (rec_:Int→Int→Int→ZnH→Str→Str→(List ZnF)→(List ZnF)→Option (ZnH×Str×Str×(List ZnF)×(List ZnF))) (kind:Int) (t15:Int) (i:Int) (d:ZnH) (t4:Str) (c:Str) (t4_1:(List ZnF)) (c_1:(List ZnF)):Option (ZnH×Str×Str×(List ZnF)×(List ZnF)):=
 bif (decide (i < t15))then (
  (Zrl d).bind fun(x_,t19)=>
  bif (kind == 0)then (
   (Zqv t19).bind fun(x__1,t24)=>
   Zox rec_ kind t15 i t24 t4 c x__1 t4_1 c_1
  )else (
   bif (kind == 1)then (
    (Zt0 i).bind fun q=>
    chk (decide (([107]:Str).length+q.length≤Zq)) <|
    Zox rec_ kind t15 i t19 t4 c (ZnF.mk false (([107]:Str)++q)) t4_1 c_1
   )else (
    bif (kind == 2)then (
     (Zod t19 ([([97]:Str),([98]:Str),([99]:Str),([100]:Str)]:(List Str))).bind fun(q_1,t34)=>
     Zox rec_ kind t15 i t34 t4 c (ZnF.mk false q_1) t4_1 c_1
    )else (
     Zox rec_ kind t15 i t19 t4 c x_ t4_1 c_1
    )
   )
  )
 )else (
  some (d,t4,c,t4_1,c_1)
 )
def ZpI:Nat→Int→Int→Int→ZnH→Str→Str→(List ZnF)→(List ZnF)→Option (ZnH×Str×Str×(List ZnF)×(List ZnF))
 |0,_,_,_,_,_,_,_,_=>none
 |n_+1,kind,t15,i,d,t4,c,t4_1,c_1=>Zqh (ZpI n_) kind t15 i d t4 c t4_1 c_1
def Zub (n:Nat) (s:(Int×Int×Int×ZnH×Str×Str×(List ZnF)×(List ZnF))):Option (ZnH×Str×Str×(List ZnF)×(List ZnF)):=ZpI n s.1 s.2.1 s.2.2.1 s.2.2.2.1 s.2.2.2.2.1 s.2.2.2.2.2.1 s.2.2.2.2.2.2.1 s.2.2.2.2.2.2.2
def ZrR (rec_:(Int×Int×Int×ZnH×Str×Str×(List ZnF)×(List ZnF))→Option (ZnH×Str×Str×(List ZnF)×(List ZnF))) (s:(Int×Int×Int×ZnH×Str×Str×(List ZnF)×(List ZnF))):Option (ZnH×Str×Str×(List ZnF)×(List ZnF)):=Zqh (fun kind t15 i d t4 c t4_1 c_1=>rec_ (kind,t15,i,d,t4,c,t4_1,c_1)) s.1 s.2.1 s.2.2.1 s.2.2.2.1 s.2.2.2.2.1 s.2.2.2.2.2.1 s.2.2.2.2.2.2.1 s.2.2.2.2.2.2.2
theorem Zwk:∀n s,Zub (n+1) s=ZrR (Zub n) s:=fun _ _=>rfl
def ZoG (d:ZnH) (rows:Int):Option (ZnE×ZnH):=
 (Zod d ([([105,100]:Str),([110,97,109,101]:Str),([85,110,105,116,32,80,114,105,99,101]:Str),([99,105,116,121]:Str),([117,110,105,116]:Str),([112,114,105,99,101]:Str),([105,100,50]:Str),([]:Str)]:(List Str))).bind fun(q,t9)=>
 (ZnS t9 5).bind fun(kind,t13)=>
 (ZpI big kind rows (0:Int) t13 ([]:Str) q ([]:(List ZnF)) ([]:(List ZnF))).bind fun(x0,x1,x2,x3,x4)=>ZsC x0 x1 x2 x3 x4
def Zww:Option (List (Int×ZoP)):=
 some (setB (k:=(.int .i64)) (v:=(.st 8)) (car:=Zvy) (setB (k:=(.int .i64)) (v:=(.st 8)) (car:=Zvy) (setB (k:=(.int .i64)) (v:=(.st 8)) (car:=Zvy) (setB (k:=(.int .i64)) (v:=(.st 8)) (car:=Zvy) (setB (k:=(.int .i64)) (v:=(.st 8)) (car:=Zvy) ([]:(List (Int×ZoP))) 1 (ZoP.mk ([116,101,120,116]:Str) (none:Option Nat) (some 183:Option Nat))) 2 (ZoP.mk ([98,111,111,108]:Str) (some 184:Option Nat) (some 185:Option Nat))) 3 (ZoP.mk ([105,110,116,101,103,101,114]:Str) (some 186:Option Nat) (some 187:Option Nat))) 4 (ZoP.mk ([100,101,99,105,109,97,108]:Str) (some 188:Option Nat) (some 187:Option Nat))) 5 (ZoP.mk ([100,97,116,101]:Str) (some 189:Option Nat) (some 190:Option Nat)))
def Zxl (s cs:Str):Option Str:=
 chk (cs.all fun b=>decide (b.toNat < 128)) <| chk (decide (cs.length < 4294967281)) <| some (Lib.trimS s cs)
def Zyf (s:Str):Option Str:=
 (Zxl s ([32]:Str)).bind fun q=>
 some q
def Zp6 (t4:Bool):Option Bool:=
 some t4
def Zpn (s:Str) (prefix_:Str):Option Bool:=
 bif (decide ((s.length:Int)≥(prefix_.length:Int)))then (
  chk (Zb9 0 (prefix_.length:Int) (s.length:Int)) <|
  Zp6 ((s.take ((prefix_.length:Int)).toNat) == prefix_)
 )else (
  Zp6 false
 )
def ZqI (s:Str) (prefix_:Str):Option (Str×Bool):=
 (Zpn s prefix_).bind fun q=>
 bif (!q)then (
  some (s,false)
 )else (
  chk (Zb9 (prefix_.length:Int) (s.length:Int) (s.length:Int)) <|
  some ((s.drop ((prefix_.length:Int)).toNat),true)
 )
def Zvq (s:Str) (prefix_:Str):Option (Str×Bool):=
 (ZqI s prefix_).bind fun(after,found)=>
 some (after,found)
def Zqw (s:Str) (prefix_:Str):Option Str:=
 (Zpn s prefix_).bind fun q=>
 bif q then (
  chk (Zb9 (prefix_.length:Int) (s.length:Int) (s.length:Int)) <|
  some (s.drop ((prefix_.length:Int)).toNat)
 )else (
  some s
 )
def ZuZ (s:Str) (prefix_:Str):Option Str:=
 (Zqw s prefix_).bind fun q=>
 some q
def ZqH (s:Str) (c:Int):Option Int:=
 some (Lib.indexByte s c.toNat.toUInt8)
def Zq2 (s:Str) (substr:Str) (n:Int) (t16:Bool):Option Int:=
 bif t16 then (
  some (0:Int)
 )else (
  bif (n == 1)then (
   (idx substr 0).bind fun c=>
   (ZqH s ((c.toNat:Nat):Int)).bind fun q=>
   some q
  )else (
   bif (decide (n≥(s.length:Int)))then (
    some (-1:Int)
   )else (
    none
   )
  )
 )
def ZrT (s:Str) (substr:Str):Option Int:=
 bif ((substr.length:Int) == 0)then (
  Zq2 s substr (substr.length:Int) true
 )else (
  Zq2 s substr (substr.length:Int) (substr == s)
 )
def ZsD (s:Str) (sep:Str):Option (Str×Str×Bool):=
 (ZrT s sep).bind fun i=>
 bif (decide (i≥0))then (
  chk (Zb9 0 i (s.length:Int)) <|
  chk (inK .i64 (i+(sep.length:Int))) <|
  chk (Zb9 (i+(sep.length:Int)) (s.length:Int) (s.length:Int)) <|
  some ((s.take (i).toNat),(s.drop ((i+(sep.length:Int))).toNat),true)
 )else (
  some (s,([]:Str),false)
 )
def ZwE (s:Str) (sep:Str):Option (Str×Str×Bool):=
 (ZsD s sep).bind fun(before,after,found)=>
 some (before,after,found)
def Ztl (t4:Bool):Option Bool:=
 some t4
def ZuN (s:Str) (most:Int):Option Bool:=
 bif (decide ((s.length:Int)≥1))then (
  bif (decide ((s.length:Int)≤most))then (
   (Zxl s ([48,49,50,51,52,53,54,55,56,57]:Str)).bind fun q=>
   Ztl (q == ([]:Str))
  )else (
   Ztl false
  )
 )else (
  Ztl false
 )
def ZsN (neg:Bool) (num:(List Int)) (den:(List Int)) (t2:Bool) (t2_1:Bool) (t2_2:(List Int)) (t2_3:(List Int)):Option (ZnC×Bool):=
 (Zoc neg num).bind fun q=>
 (Zoc false den).bind fun q_1=>
 (ZoY q q_1).bind fun q_2=>
 some (q_2,true)
def ZxA (rec_:Bool→(List Int)→(List Int)→(List Int)→Int→Int→Bool→Bool→(List Int)→(List Int)→Option (Bool×(List Int)×(List Int)×Bool×Bool×(List Int)×(List Int))) (neg:Bool) (num:(List Int)) (ten:(List Int)) (den:(List Int)) (t63:Int) (t64:Int) (t2:Bool) (t2_1:Bool) (t2_2:(List Int)) (t2_3:(List Int)):Option (Bool×(List Int)×(List Int)×Bool×Bool×(List Int)×(List Int)):=
 bif (decide (t64 < t63))then (
  (Zpf den ten).bind fun den_1=>
  chk (inK .i64 (t64+1)) <|
  rec_ neg num ten den_1 t63 (t64+1) t2 t2_1 t2_2 t2_3
 )else (
  some (neg,num,den,t2,t2_1,t2_2,t2_3)
 )
def ZuD:Nat→Bool→(List Int)→(List Int)→(List Int)→Int→Int→Bool→Bool→(List Int)→(List Int)→Option (Bool×(List Int)×(List Int)×Bool×Bool×(List Int)×(List Int))
 |0,_,_,_,_,_,_,_,_,_,_=>none
 |n_+1,neg,num,ten,den,t63,t64,t2,t2_1,t2_2,t2_3=>ZxA (ZuD n_) neg num ten den t63 t64 t2 t2_1 t2_2 t2_3
def Zwa (neg:Bool) (back:Str) (num:(List Int)) (ten:(List Int)) (t2:Bool) (t2_1:Bool) (den:(List Int)) (t2_2:(List Int)) (t2_3:(List Int)):Option (ZnC×Bool):=
 (ZuD big neg num ten den (back.length:Int) (0:Int) t2 t2_1 t2_2 t2_3).bind fun(x0,x1,x2,x3,x4,x5,x6)=>ZsN x0 x1 x2 x3 x4 x5 x6
def ZxB (rec_:Bool→Str→(List Int)→(List Int)→Int→Int→Bool→Bool→(List Int)→(List Int)→(List Int)→(List Int)→Option (Bool×Str×(List Int)×(List Int)×Bool×Bool×(List Int)×(List Int)×(List Int))) (neg:Bool) (back:Str) (num:(List Int)) (ten:(List Int)) (t48:Int) (t49:Int) (t2:Bool) (t2_1:Bool) (den:(List Int)) (t47:(List Int)) (t2_2:(List Int)) (t2_3:(List Int)):Option (Bool×Str×(List Int)×(List Int)×Bool×Bool×(List Int)×(List Int)×(List Int)):=
 bif (decide (t49 < t48))then (
  chk (inR t49 (t47.length:Int)) <|
  (t47[(t49).toNat]?).bind fun d=>
  (Zpf num ten).bind fun q=>
  (ZqE (IntKind.wrap .u64 (IntKind.wrap .u8 (d - 48)))).bind fun q_1=>
  (Zqa q q_1).bind fun num_1=>
  chk (inK .i64 (t49+1)) <|
  rec_ neg back num_1 ten t48 (t49+1) t2 t2_1 den t47 t2_2 t2_3
 )else (
  some (neg,back,num,ten,t2,t2_1,den,t2_2,t2_3)
 )
def ZuE:Nat→Bool→Str→(List Int)→(List Int)→Int→Int→Bool→Bool→(List Int)→(List Int)→(List Int)→(List Int)→Option (Bool×Str×(List Int)×(List Int)×Bool×Bool×(List Int)×(List Int)×(List Int))
 |0,_,_,_,_,_,_,_,_,_,_,_,_=>none
 |n_+1,neg,back,num,ten,t48,t49,t2,t2_1,den,t47,t2_2,t2_3=>ZxB (ZuE n_) neg back num ten t48 t49 t2 t2_1 den t47 t2_2 t2_3
def ZsO (neg:Bool) (front:Str) (back:Str) (t39:Bool) (t2:Bool) (t2_1:Bool) (t2_2:(List Int)) (t2_3:(List Int)):Option (ZnC×Bool):=
 bif t39 then (
  some ((ZnC.mk (ZnD.mk false ([]:(List Int))) (ZnD.mk false ([]:(List Int)))),false)
 )else (
  (Zok ([1]:List Int)).bind fun den=>
  chk (decide (front.length+back.length≤Zq)) <|
  chk (decide ((front++back).length≤281474976710656)) <|
  (ZuE big neg back ([]:(List Int)) ([10]:(List Int)) (((front++back).map fun b=>((b.toNat:Nat):Int)).length:Int) (0:Int) t2 t2_1 den ((front++back).map fun b=>((b.toNat:Nat):Int)) t2_2 t2_3).bind fun(x0,x1,x2,x3,x4,x5,x6,x7,x8)=>Zwa x0 x1 x2 x3 x4 x5 x6 x7 x8
 )
def ZuF (body:Str) (neg:Bool) (t2:Bool) (t2_1:Bool) (t2_2:(List Int)) (t2_3:(List Int)):Option (ZnC×Bool):=
 (ZwE body ([46]:Str)).bind fun(front,back,point)=>
 (ZuN front 15).bind fun q=>
 bif (!q)then (
  ZsO neg front back true t2 t2_1 t2_2 t2_3
 )else (
  bif point then (
   (ZuN back 9).bind fun q_1=>
   ZsO neg front back (!q_1) t2 t2_1 t2_2 t2_3
  )else (
   ZsO neg front back false t2 t2_1 t2_2 t2_3
  )
 )
def Zrr (text:Str):Option (ZnC×Bool):=
 (Zvq text ([45]:Str)).bind fun(body,neg)=>
 bif (!neg)then (
  (ZuZ text ([43]:Str)).bind fun body_1=>
  ZuF body_1 neg false false ([]:(List Int)) ([]:(List Int))
 )else (
  ZuF body neg false false ([]:(List Int)) ([]:(List Int))
 )
def ZvC (s cs:Str):Option Str:=
 chk (cs.all fun b=>decide (b.toNat < 128)) <| chk (decide (cs.length < 4294967281)) <| some (Lib.trimLeftS s cs)
def ZwS (s cs:Str):Option Str:=
 chk (cs.all fun b=>decide (b.toNat < 128)) <| chk (decide (cs.length < 4294967281)) <| some (Lib.trimRightS s cs)
def Zxg (zero:Str):Option Str:=
 some zero
def Zx5 (rec_:Str→(List Str)→Int→Int→Option (Out Str Str)) (zero:Str) (t6:(List Str)) (t7:Int) (t8:Int):Option (Out Str Str):=
 bif (decide (t8 < t7))then (
  (idx t6 t8).bind fun val=>
  bif (!(val == zero))then (
   some (.ret val)
  )else (
   chk (inK .i64 (t8+1)) <|
   rec_ zero t6 t7 (t8+1)
  )
 )else (
  some (.brk zero)
 )
def ZvL:Nat→Str→(List Str)→Int→Int→Option (Out Str Str)
 |0,_,_,_,_=>none
 |n_+1,zero,t6,t7,t8=>Zx5 (ZvL n_) zero t6 t7 t8
def ZwX (vals:(List Str)):Option Str:=
 (ZvL big ([]:Str) vals (vals.length:Int) (0:Int)).bind fun
  | .ret q_=>some q_
  | .brk x0=>Zxg x0
def Zvz (out:Str):Option (Str×Bool):=
 some (out,true)
def ZvA (out:Str) (t43:Bool):Option (Str×Bool):=
 bif t43 then (
  chk (decide (([45]:Str).length+out.length≤Zq)) <|
  Zvz (([45]:Str)++out)
 )else (
  Zvz out
 )
def ZvB (t:Str) (out:Str):Option (Str×Bool):=
 (idx t 0).bind fun c=>
 bif (((c.toNat:Nat):Int) == 45)then (
  ZvA out (!(out == ([48]:Str)))
 )else (
  ZvA out false
 )
def Zul (t:Str):Option (Str×Bool):=
 (Zrr t).bind fun(q,ok)=>
 bif (!ok)then (
  some (([]:Str),false)
 )else (
  (ZvC t ([43,45]:Str)).bind fun q_1=>
  (ZwE q_1 ([46]:Str)).bind fun(front,back,q_2)=>
  (ZvC front ([48]:Str)).bind fun front_1=>
  (ZwS back ([48]:Str)).bind fun back_1=>
  (ZwX ([front_1,([48]:Str)]:(List Str))).bind fun out=>
  bif (!(back_1 == ([]:Str)))then (
   chk (decide (([46]:Str).length+back_1.length≤Zq)) <|
   chk (decide (out.length+(([46]:Str)++back_1).length≤Zq)) <|
   ZvB t (out++(([46]:Str)++back_1))
  )else (
   ZvB t out
  )
 )
def Ztp (n:Int) (s:Str):Option (Str×Bool):=
 (Zww).bind fun q=>
 bif (!(Zg3 (k:=(.int .i64)) (v:=(.st 8)) (car:=Zvy) q n).isSome)then (
  some (([]:Str),false)
 )else (
  bif (Option.isNone (((Zg3 (k:=(.int .i64)) (v:=(.st 8)) (car:=Zvy) q n).getD (ZoP.mk ([]:Str) (none:Option Nat) (none:Option Nat))).canonical))then (
   some (s,true)
  )else (
   (Zyf s).bind fun q_1=>
   chk (decide (((Zg3 (k:=(.int .i64)) (v:=(.st 8)) (car:=Zvy) q n).getD (ZoP.mk ([]:Str) (none:Option Nat) (none:Option Nat))).canonical=some 188)) <|
   (Zul q_1).bind fun(q_2,q_3)=>
   some (q_2,q_3)
  )
 )
def Zwx (n:Int) (s:Str):Option (ZnC×Bool):=
 (Ztp n s).bind fun(t,ok)=>
 bif (!ok)then (
  some ((ZnC.mk (ZnD.mk false ([]:(List Int))) (ZnD.mk false ([]:(List Int)))),false)
 )else (
  (Zww).bind fun q=>
  chk (decide (((Zg3 (k:=(.int .i64)) (v:=(.st 8)) (car:=Zvy) q n).getD (ZoP.mk ([]:Str) (none:Option Nat) (none:Option Nat))).value=some 187)) <|
  (Zrr t).bind fun(q_1,q_2)=>
  some (q_1,q_2)
 )
def Zpe (c:ZnF):Option (ZnC×Bool):=
 bif c.Null then (
  (Zro).bind fun q=>
  some (q,false)
 )else (
  (Zwx 4 c.Text).bind fun(q_1,q_2)=>
  some (q_1,q_2)
 )
def Zwm (h_:Int):Option Int:=
 some h_
def Zud (rec_:Str→Int→Int→Int→Option Int) (s:Str) (h_:Int) (t6:Int) (i:Int):Option Int:=
 bif (decide (i < t6))then (
  (idx s i).bind fun c=>
  chk (inK .i64 (i+1)) <|
  rec_ s (IntKind.wrap .u64 ((xorK .u64 h_ (IntKind.wrap .u64 ((c.toNat:Nat):Int)))*1099511628211)) t6 (i+1)
 )else (
  some h_
 )
def Zvn:Nat→Str→Int→Int→Int→Option Int
 |0,_,_,_,_=>none
 |n_+1,s,h_,t6,i=>Zud (Zvn n_) s h_ t6 i
def Zxd (n:Nat) (s:(Str×Int×Int×Int)):Option Int:=Zvn n s.1 s.2.1 s.2.2.1 s.2.2.2
def ZvF (rec_:(Str×Int×Int×Int)→Option Int) (s:(Str×Int×Int×Int)):Option Int:=Zud (fun s h_ t6 i=>rec_ (s,h_,t6,i)) s.1 s.2.1 s.2.2.1 s.2.2.2
theorem Zyh:∀n s,Zxd (n+1) s=ZvF (Zxd n) s:=fun _ _=>rfl
def ZvG (s:Str):Option Int:=
 (Zvn big s (14695981039346656037:Int) (s.length:Int) (0:Int)).bind fun x0=>Zwm x0
def Zu0 (x_:Int) (n:Int):Option Int:=
 (idx ([0,1,2,2,3,3,3,3,4,4,4,4,4,4,4,4,5,5,5,5,5,5,5,5,5,5,5,5,5,5,5,5,6,6,6,6,6,6,6,6,6,6,6,6,6,6,6,6,6,6,6,6,6,6,6,6,6,6,6,6,6,6,6,6,7,7,7,7,7,7,7,7,7,7,7,7,7,7,7,7,7,7,7,7,7,7,7,7,7,7,7,7,7,7,7,7,7,7,7,7,7,7,7,7,7,7,7,7,7,7,7,7,7,7,7,7,7,7,7,7,7,7,7,7,7,7,7,7,8,8,8,8,8,8,8,8,8,8,8,8,8,8,8,8,8,8,8,8,8,8,8,8,8,8,8,8,8,8,8,8,8,8,8,8,8,8,8,8,8,8,8,8,8,8,8,8,8,8,8,8,8,8,8,8,8,8,8,8,8,8,8,8,8,8,8,8,8,8,8,8,8,8,8,8,8,8,8,8,8,8,8,8,8,8,8,8,8,8,8,8,8,8,8,8,8,8,8,8,8,8,8,8,8,8,8,8,8,8,8,8,8,8,8,8,8,8,8,8,8,8,8,8,8,8,8,8]:Str) (IntKind.wrap .u8 x_)).bind fun c=>
 chk (inK .i64 (n+(IntKind.wrap .i64 ((c.toNat:Nat):Int)))) <|
 some (n+(IntKind.wrap .i64 ((c.toNat:Nat):Int)))
def Zu1 (x_:Int) (n:Int):Option Int:=
 bif (decide (x_≥256))then (
  chk (decide (0≤(8:Int))) <|
  chk (inK .i64 (n+8)) <|
  Zu0 (shrK .u64 x_ 8) (n+8)
 )else (
  Zu0 x_ n
 )
def Zu2 (x_:Int) (n:Int):Option Int:=
 bif (decide (x_≥65536))then (
  chk (decide (0≤(16:Int))) <|
  chk (inK .i64 (n+16)) <|
  Zu1 (shrK .u64 x_ 16) (n+16)
 )else (
  Zu1 x_ n
 )
def ZvU (x_:Int):Option Int:=
 bif (decide (x_≥4294967296))then (
  chk (decide (0≤(32:Int))) <|
  Zu2 (shrK .u64 x_ 32) (32:Int)
 )else (
  Zu2 x_ (0:Int)
 )
def Zus (x_:Int):Option Int:=
 (ZvU x_).bind fun q=>
 some q
def ZsR (x_:Int):Option Bool:=
 some (x_ != x_)
def Ztn (x_:Int) (y:Int):Option Int:=
 (ZsR x_).bind fun xNaN=>
 (ZsR y).bind fun yNaN=>
 bif xNaN then (
  bif yNaN then (
   some (0:Int)
  )else (
   some (-1:Int)
  )
 )else (
  bif yNaN then (
   some (1:Int)
  )else (
   bif (decide (x_ < y))then (
    some (-1:Int)
   )else (
    bif (decide (x_ > y))then (
     some (1:Int)
    )else (
     some (0:Int)
    )
   )
  )
 )
def ZoK (a b:Str):Option Int:=
 some (Lib.compareBytes a b)
def ZrX (a:Str) (b:Str):Option Int:=
 (ZoK a b).bind fun q=>
 some q
def ZwY (zero:Int):Option Int:=
 some zero
def Zq6 (rec_:Int→(List Int)→Int→Int→Option (Out Int Int)) (zero:Int) (t6:(List Int)) (t7:Int) (t8:Int):Option (Out Int Int):=
 bif (decide (t8 < t7))then (
  (idx t6 t8).bind fun val=>
  bif (val != zero)then (
   some (.ret val)
  )else (
   chk (inK .i64 (t8+1)) <|
   rec_ zero t6 t7 (t8+1)
  )
 )else (
  some (.brk zero)
 )
def ZuI:Nat→Int→(List Int)→Int→Int→Option (Out Int Int)
 |0,_,_,_,_=>none
 |n_+1,zero,t6,t7,t8=>Zq6 (ZuI n_) zero t6 t7 t8
def Zwc (vals:(List Int)):Option Int:=
 (ZuI big (0:Int) vals (vals.length:Int) (0:Int)).bind fun
  | .ret q_=>some q_
  | .brk x0=>ZwY x0
def Zve (a:ZnA) (b:ZnA):Option Int:=
 (Ztn a.Hash b.Hash).bind fun q=>
 (ZrX a.Key b.Key).bind fun q_1=>
 (Zwc ([q,q_1]:(List Int))).bind fun q_2=>
 some q_2
def ZoH (data:(List ZnA)):Option (List ZnA):=
 some data
def ZoI (rec_:Int→Int→Int→(List ZnA)→Option (List ZnA)) (a:Int) (b:Int) (i:Int) (data:(List ZnA)):Option (List ZnA):=
 chk (inK .i64 (i+1)) <|
 rec_ a b (i+1) data
def Zn4 (rec_:Int→Int→Int→Int→(List ZnA)→Option (Int×Int×Int×(List ZnA))) (a:Int) (b:Int) (i:Int) (j:Int) (t34:Bool) (data:(List ZnA)):Option (Int×Int×Int×(List ZnA)):=
 bif t34 then (
  chk (inK .i64 (j - 1)) <|
  chk (inK .i64 (j - 1)) <|
  chk (inR (j - 1) (data.length:Int)) <|
  (data[((j - 1)).toNat]?).bind fun data_e=>
  chk (inR j (data.length:Int)) <|
  (data[(j).toNat]?).bind fun data_e_1=>
  chk (inR j (data.length:Int)) <|
  chk (inR (j - 1) ((data.set ((j).toNat) data_e).length:Int)) <|
  chk (inK .i64 (j - 1)) <|
  rec_ a b i (j - 1) ((data.set ((j).toNat) data_e).set (((j - 1)).toNat) data_e_1)
 )else (
  some (a,b,i,data)
 )
def Zos (rec_:Int→Int→Int→Int→(List ZnA)→Option (Int×Int×Int×(List ZnA))) (a:Int) (b:Int) (i:Int) (j:Int) (data:(List ZnA)):Option (Int×Int×Int×(List ZnA)):=
 bif (decide (j > a))then (
  chk (inR j (data.length:Int)) <|
  (data[(j).toNat]?).bind fun data_e=>
  chk (inK .i64 (j - 1)) <|
  chk (inR (j - 1) (data.length:Int)) <|
  (data[((j - 1)).toNat]?).bind fun data_e_1=>
  (Zve data_e data_e_1).bind fun q=>
  Zn4 rec_ a b i j (decide (q < 0)) data
 )else (
  Zn4 rec_ a b i j false data
 )
def ZnP:Nat→Int→Int→Int→Int→(List ZnA)→Option (Int×Int×Int×(List ZnA))
 |0,_,_,_,_,_=>none
 |n_+1,a,b,i,j,data=>Zos (ZnP n_) a b i j data
def ZpA (n:Nat) (s:(Int×Int×Int×Int×(List ZnA))):Option (Int×Int×Int×(List ZnA)):=ZnP n s.1 s.2.1 s.2.2.1 s.2.2.2.1 s.2.2.2.2
def ZpB (rec_:(Int×Int×Int×Int×(List ZnA))→Option (Int×Int×Int×(List ZnA))) (s:(Int×Int×Int×Int×(List ZnA))):Option (Int×Int×Int×(List ZnA)):=Zos (fun a b i j data=>rec_ (a,b,i,j,data)) s.1 s.2.1 s.2.2.1 s.2.2.2.1 s.2.2.2.2
theorem Zr9:∀n s,ZpA (n+1) s=ZpB (ZpA n) s:=fun _ _=>rfl
def Zot (rec_:Int→Int→Int→(List ZnA)→Option (List ZnA)) (a:Int) (b:Int) (i:Int) (data:(List ZnA)):Option (List ZnA):=
 bif (decide (i < b))then (
  (ZnP big a b i i data).bind fun(x0,x1,x2,x3)=>ZoI rec_ x0 x1 x2 x3
 )else (
  some data
 )
def ZnU:Nat→Int→Int→Int→(List ZnA)→Option (List ZnA)
 |0,_,_,_,_=>none
 |n_+1,a,b,i,data=>Zot (ZnU n_) a b i data
def Zob (data:(List ZnA)) (a:Int) (b:Int):Option (List ZnA):=
 chk (inK .i64 (a+1)) <|
 (ZnU big a b (a+1) data).bind fun x0=>ZoH x0
def Zn7 (data:(List ZnA)) (a:Int) (b:Int):Option (List ZnA):=
 (Zob data a b).bind fun r=>chk (decide (r.length=data.length)&&true) (some r)
def Zo0 (rec_:Int→Int→Int→Bool→Bool→(List ZnA)→Option (Out Unit (List ZnA))) (a:Int) (b:Int) (limit:Int) (wasBalanced:Bool) (wasPartitioned:Bool) (data:(List ZnA)):Option (Out Unit (List ZnA)):=
 chk (inK .i64 (b - a)) <|
 bif (decide ((b - a)≤12))then (
  (Zn7 data a b).bind fun t26=>
  some (.ret t26)
 )else (
  bif (limit == 0)then (
   none
  )else (
   bif (!wasBalanced)then (
    none
   )else (
    none
   )
  )
 )
def Zo5:Nat→Int→Int→Int→Bool→Bool→(List ZnA)→Option (Out Unit (List ZnA))
 |0,_,_,_,_,_,_=>none
 |n_+1,a,b,limit,wasBalanced,wasPartitioned,data=>Zo0 (Zo5 n_) a b limit wasBalanced wasPartitioned data
def Zpy (data:(List ZnA)) (a:Int) (b:Int) (limit:Int):Option (List ZnA):=
 (Zo5 big a b limit true true data).bind fun
  | .ret q_=>some q_
  | .brk _=>none
def Zoq (data:(List ZnA)) (a:Int) (b:Int) (limit:Int):Option (List ZnA):=
 (Zpy data a b limit).bind fun r=>chk (decide (r.length=data.length)&&true) (some r)
def Zoy (x_:(List ZnA)):Option (List ZnA):=
 (Zus (IntKind.wrap .u64 (x_.length:Int))).bind fun q=>
 (Zoq x_ 0 (x_.length:Int) q).bind fun t7=>
 some t7
def Zn1 (x_:(List ZnA)):Option (List ZnA):=
 (Zoy x_).bind fun r=>chk (decide (r.length=x_.length)&&true) (some r)
def Zwl (out:(List ZnA)):Option (List ZnA):=
 (Zn1 out).bind fun t82=>
 some t82
def ZtU (rec_:(List ZnF)→Int→Int→ZnE→(List (Str×Int))→(List ZnA)→Option (List ZnA)) (t15:(List ZnF)) (t16:Int) (i:Int) (value:ZnE) (at_:(List (Str×Int))) (out:(List ZnA)):Option (List ZnA):=
 chk (inK .i64 (i+1)) <|
 rec_ t15 t16 (i+1) value at_ out
def ZtV (rec_:(List ZnF)→Int→Int→ZnE→(List (Str×Int))→(List ZnA)→Option (List ZnA)) (n:Int) (t15:(List ZnF)) (t16:Int) (i:Int) (value:ZnE) (at_:(List (Str×Int))) (out:(List ZnA)) (v_:ZnC):Option (List ZnA):=
 chk (inR n (out.length:Int)) <|
 (out[(n).toNat]?).bind fun out_e=>
 chk (inK .i64 (out_e.Count+1)) <|
 chk (inR n (out.length:Int)) <|
 (out[(n).toNat]?).bind fun el=>
 chk (inR n ((out.set ((n).toNat) (ZnA.mk el.Key el.Hash (out_e.Count+1) el.Sum)).length:Int)) <|
 ((out.set ((n).toNat) (ZnA.mk el.Key el.Hash (out_e.Count+1) el.Sum))[(n).toNat]?).bind fun Sum_e=>
 (Zvf Sum_e.Sum v_).bind fun q=>
 chk (inR n ((out.set ((n).toNat) (ZnA.mk el.Key el.Hash (out_e.Count+1) el.Sum)).length:Int)) <|
 ((out.set ((n).toNat) (ZnA.mk el.Key el.Hash (out_e.Count+1) el.Sum))[(n).toNat]?).bind fun el_1=>
 ZtU rec_ t15 t16 i value at_ ((out.set ((n).toNat) (ZnA.mk el.Key el.Hash (out_e.Count+1) el.Sum)).set ((n).toNat) (ZnA.mk el_1.Key el_1.Hash el_1.Count q))
def Zrz (rec_:(List ZnF)→Int→Int→ZnE→(List (Str×Int))→(List ZnA)→Option (List ZnA)) (t15:(List ZnF)) (t16:Int) (i:Int) (t36:Bool) (value:ZnE) (at_:(List (Str×Int))) (out:(List ZnA)) (k:ZnF) (v_:ZnC):Option (List ZnA):=
 bif t36 then (
  ZtU rec_ t15 t16 i value at_ out
 )else (
  bif (!(Zg3 (k:= .str) (v:=(.int .i64)) (car:=Zvy) at_ k.Text).isSome)then (
   (ZvG k.Text).bind fun q=>
   (Zro).bind fun q_1=>
   chk (ZiZ (out.length+([(ZnA.mk k.Text q 0 q_1)]:(List ZnA)).length) 96) <|
   ZtV rec_ (out.length:Int) t15 t16 i value (setB (k:= .str) (v:=(.int .i64)) (car:=Zvy) at_ k.Text (out.length:Int)) (out++([(ZnA.mk k.Text q 0 q_1)]:(List ZnA))) v_
  )else (
   ZtV rec_ ((Zg3 (k:= .str) (v:=(.int .i64)) (car:=Zvy) at_ k.Text).getD (0:Int)) t15 t16 i value at_ out v_
  )
 )
def Zuc (rec_:(List ZnF)→Int→Int→ZnE→(List (Str×Int))→(List ZnA)→Option (List ZnA)) (t15:(List ZnF)) (t16:Int) (i:Int) (value:ZnE) (at_:(List (Str×Int))) (out:(List ZnA)):Option (List ZnA):=
 bif (decide (i < t16))then (
  (idx t15 i).bind fun k=>
  (idx value.Cells i).bind fun Cell=>
  (Zpe Cell).bind fun(v_,ok)=>
  bif k.Null then (
   Zrz rec_ t15 t16 i true value at_ out k v_
  )else (
   Zrz rec_ t15 t16 i (!ok) value at_ out k v_
  )
 )else (
  some out
 )
def ZqG:Nat→(List ZnF)→Int→Int→ZnE→(List (Str×Int))→(List ZnA)→Option (List ZnA)
 |0,_,_,_,_,_,_=>none
 |n_+1,t15,t16,i,value,at_,out=>Zuc (ZqG n_) t15 t16 i value at_ out
def Zxc (n:Nat) (s:((List ZnF)×Int×Int×ZnE×(List (Str×Int))×(List ZnA))):Option (List ZnA):=ZqG n s.1 s.2.1 s.2.2.1 s.2.2.2.1 s.2.2.2.2.1 s.2.2.2.2.2
def ZvD (rec_:((List ZnF)×Int×Int×ZnE×(List (Str×Int))×(List ZnA))→Option (List ZnA)) (s:((List ZnF)×Int×Int×ZnE×(List (Str×Int))×(List ZnA))):Option (List ZnA):=Zuc (fun t15 t16 i value at_ out=>rec_ (t15,t16,i,value,at_,out)) s.1 s.2.1 s.2.2.1 s.2.2.2.1 s.2.2.2.2.1 s.2.2.2.2.2
theorem Zyg:∀n s,Zxc (n+1) s=ZvD (Zxc n) s:=fun _ _=>rfl
def ZvE (key:ZnE) (value:ZnE):Option (List ZnA):=
 (ZqG big key.Cells (key.Cells.length:Int) (0:Int) value ([]:(List (Str×Int))) ([]:(List ZnA))).bind fun x0=>Zwl x0
def ZrE (a:ZnA) (b:ZnA):Option Int:=
 (ZrX a.Key b.Key).bind fun q=>
 some q
def Zou (data:(List ZnA)):Option (List ZnA):=
 some data
def Zov (rec_:Int→Int→Int→(List ZnA)→Option (List ZnA)) (a:Int) (b:Int) (i:Int) (data:(List ZnA)):Option (List ZnA):=
 chk (inK .i64 (i+1)) <|
 rec_ a b (i+1) data
def Zn2 (rec_:Int→Int→Int→Int→(List ZnA)→Option (Int×Int×Int×(List ZnA))) (a:Int) (b:Int) (i:Int) (j:Int) (t34:Bool) (data:(List ZnA)):Option (Int×Int×Int×(List ZnA)):=
 bif t34 then (
  chk (inK .i64 (j - 1)) <|
  chk (inK .i64 (j - 1)) <|
  chk (inR (j - 1) (data.length:Int)) <|
  (data[((j - 1)).toNat]?).bind fun data_e=>
  chk (inR j (data.length:Int)) <|
  (data[(j).toNat]?).bind fun data_e_1=>
  chk (inR j (data.length:Int)) <|
  chk (inR (j - 1) ((data.set ((j).toNat) data_e).length:Int)) <|
  chk (inK .i64 (j - 1)) <|
  rec_ a b i (j - 1) ((data.set ((j).toNat) data_e).set (((j - 1)).toNat) data_e_1)
 )else (
  some (a,b,i,data)
 )
def Zol (rec_:Int→Int→Int→Int→(List ZnA)→Option (Int×Int×Int×(List ZnA))) (a:Int) (b:Int) (i:Int) (j:Int) (data:(List ZnA)):Option (Int×Int×Int×(List ZnA)):=
 bif (decide (j > a))then (
  chk (inR j (data.length:Int)) <|
  (data[(j).toNat]?).bind fun data_e=>
  chk (inK .i64 (j - 1)) <|
  chk (inR (j - 1) (data.length:Int)) <|
  (data[((j - 1)).toNat]?).bind fun data_e_1=>
  (ZrE data_e data_e_1).bind fun q=>
  Zn2 rec_ a b i j (decide (q < 0)) data
 )else (
  Zn2 rec_ a b i j false data
 )
def ZnN:Nat→Int→Int→Int→Int→(List ZnA)→Option (Int×Int×Int×(List ZnA))
 |0,_,_,_,_,_=>none
 |n_+1,a,b,i,j,data=>Zol (ZnN n_) a b i j data
def Zpl (n:Nat) (s:(Int×Int×Int×Int×(List ZnA))):Option (Int×Int×Int×(List ZnA)):=ZnN n s.1 s.2.1 s.2.2.1 s.2.2.2.1 s.2.2.2.2
def Zpm (rec_:(Int×Int×Int×Int×(List ZnA))→Option (Int×Int×Int×(List ZnA))) (s:(Int×Int×Int×Int×(List ZnA))):Option (Int×Int×Int×(List ZnA)):=Zol (fun a b i j data=>rec_ (a,b,i,j,data)) s.1 s.2.1 s.2.2.1 s.2.2.2.1 s.2.2.2.2
theorem ZrS:∀n s,Zpl (n+1) s=Zpm (Zpl n) s:=fun _ _=>rfl
def Zom (rec_:Int→Int→Int→(List ZnA)→Option (List ZnA)) (a:Int) (b:Int) (i:Int) (data:(List ZnA)):Option (List ZnA):=
 bif (decide (i < b))then (
  (ZnN big a b i i data).bind fun(x0,x1,x2,x3)=>Zov rec_ x0 x1 x2 x3
 )else (
  some data
 )
def ZnQ:Nat→Int→Int→Int→(List ZnA)→Option (List ZnA)
 |0,_,_,_,_=>none
 |n_+1,a,b,i,data=>Zom (ZnQ n_) a b i data
def Zn8 (data:(List ZnA)) (a:Int) (b:Int):Option (List ZnA):=
 chk (inK .i64 (a+1)) <|
 (ZnQ big a b (a+1) data).bind fun x0=>Zou x0
def Zn3 (data:(List ZnA)) (a:Int) (b:Int):Option (List ZnA):=
 (Zn8 data a b).bind fun r=>chk (decide (r.length=data.length)&&true) (some r)
def ZoL (rec_:Int→Int→Int→Bool→Bool→(List ZnA)→Option (Out Unit (List ZnA))) (a:Int) (b:Int) (limit:Int) (wasBalanced:Bool) (wasPartitioned:Bool) (data:(List ZnA)):Option (Out Unit (List ZnA)):=
 chk (inK .i64 (b - a)) <|
 bif (decide ((b - a)≤12))then (
  (Zn3 data a b).bind fun t26=>
  some (.ret t26)
 )else (
  bif (limit == 0)then (
   none
  )else (
   bif (!wasBalanced)then (
    none
   )else (
    none
   )
  )
 )
def Zo1:Nat→Int→Int→Int→Bool→Bool→(List ZnA)→Option (Out Unit (List ZnA))
 |0,_,_,_,_,_,_=>none
 |n_+1,a,b,limit,wasBalanced,wasPartitioned,data=>ZoL (Zo1 n_) a b limit wasBalanced wasPartitioned data
def Zpd (data:(List ZnA)) (a:Int) (b:Int) (limit:Int):Option (List ZnA):=
 (Zo1 big a b limit true true data).bind fun
  | .ret q_=>some q_
  | .brk _=>none
def Zoh (data:(List ZnA)) (a:Int) (b:Int) (limit:Int):Option (List ZnA):=
 (Zpd data a b limit).bind fun r=>chk (decide (r.length=data.length)&&true) (some r)
def Zon (x_:(List ZnA)):Option (List ZnA):=
 (Zus (IntKind.wrap .u64 (x_.length:Int))).bind fun q=>
 (Zoh x_ 0 (x_.length:Int) q).bind fun t7=>
 some t7
def ZnX (x_:(List ZnA)):Option (List ZnA):=
 (Zon x_).bind fun r=>chk (decide (r.length=x_.length)&&true) (some r)
def Zrt (key:ZnE) (value:ZnE):Option (List ZnA):=
 (ZvE key value).bind fun l=>
 (ZnX l).bind fun t9=>
 some t9
def Zt4 (out:(List ZnB)):Option (List ZnB):=
 some out
def Zsn (rec_:(List ZnA)→Int→(List ZnA)→Int→Int→(List ZnB)→Option (List ZnB)) (b:(List ZnA)) (k:Int) (t9:(List ZnA)) (t10:Int) (t11:Int) (out:(List ZnB)):Option (List ZnB):=
 chk (inK .i64 (t11+1)) <|
 rec_ b k t9 t10 (t11+1) out
def Zso (rec_:(List ZnA)→Int→(List ZnA)→Int→Int→(List ZnB)→Option (List ZnB)) (b:(List ZnA)) (k:Int) (t9:(List ZnA)) (t10:Int) (t11:Int) (t44:Bool) (out:(List ZnB)) (e:ZnA):Option (List ZnB):=
 bif t44 then (
  (Zxe e.Count 1).bind fun q=>
  (Zv3 e.Sum q).bind fun q_1=>
  (idx b k).bind fun b_e=>
  (idx b k).bind fun b_e_1=>
  (Zxe b_e_1.Count 1).bind fun q_2=>
  (Zv3 b_e.Sum q_2).bind fun q_3=>
  chk (ZiZ (out.length+([(ZnB.mk q_1 q_3)]:(List ZnB)).length) 128) <|
  Zsn rec_ b k t9 t10 t11 (out++([(ZnB.mk q_1 q_3)]:(List ZnB)))
 )else (
  Zsn rec_ b k t9 t10 t11 out
 )
def Zt5 (rec_:(List ZnA)→Int→(List ZnA)→Int→Int→(List ZnB)→Option (List ZnB)) (b:(List ZnA)) (k:Int) (t9:(List ZnA)) (t10:Int) (t11:Int) (out:(List ZnB)) (e:ZnA):Option (List ZnB):=
 bif (decide (k < (b.length:Int)))then (
  (idx b k).bind fun b_e=>
  Zso rec_ b k t9 t10 t11 (b_e.Key == e.Key) out e
 )else (
  Zso rec_ b k t9 t10 t11 false out e
 )
def Zsp (rec_:(List ZnA)→Int→(List ZnA)→Int→Int→(List ZnB)→ZnA→Option ((List ZnA)×Int×(List ZnA)×Int×Int×(List ZnB)×ZnA)) (b:(List ZnA)) (k:Int) (t9:(List ZnA)) (t10:Int) (t11:Int) (t28:Bool) (out:(List ZnB)) (e:ZnA):Option ((List ZnA)×Int×(List ZnA)×Int×Int×(List ZnB)×ZnA):=
 bif t28 then (
  chk (inK .i64 (k+1)) <|
  rec_ b (k+1) t9 t10 t11 out e
 )else (
  some (b,k,t9,t10,t11,out,e)
 )
def Ztz (rec_:(List ZnA)→Int→(List ZnA)→Int→Int→(List ZnB)→ZnA→Option ((List ZnA)×Int×(List ZnA)×Int×Int×(List ZnB)×ZnA)) (b:(List ZnA)) (k:Int) (t9:(List ZnA)) (t10:Int) (t11:Int) (out:(List ZnB)) (e:ZnA):Option ((List ZnA)×Int×(List ZnA)×Int×Int×(List ZnB)×ZnA):=
 bif (decide (k < (b.length:Int)))then (
  (idx b k).bind fun b_e=>
  Zsp rec_ b k t9 t10 t11 (Op.bytesLess b_e.Key e.Key) out e
 )else (
  Zsp rec_ b k t9 t10 t11 false out e
 )
def ZpQ:Nat→(List ZnA)→Int→(List ZnA)→Int→Int→(List ZnB)→ZnA→Option ((List ZnA)×Int×(List ZnA)×Int×Int×(List ZnB)×ZnA)
 |0,_,_,_,_,_,_,_=>none
 |n_+1,b,k,t9,t10,t11,out,e=>Ztz (ZpQ n_) b k t9 t10 t11 out e
def Zvu (n:Nat) (s:((List ZnA)×Int×(List ZnA)×Int×Int×(List ZnB)×ZnA)):Option ((List ZnA)×Int×(List ZnA)×Int×Int×(List ZnB)×ZnA):=ZpQ n s.1 s.2.1 s.2.2.1 s.2.2.2.1 s.2.2.2.2.1 s.2.2.2.2.2.1 s.2.2.2.2.2.2
def Zvv (rec_:((List ZnA)×Int×(List ZnA)×Int×Int×(List ZnB)×ZnA)→Option ((List ZnA)×Int×(List ZnA)×Int×Int×(List ZnB)×ZnA)) (s:((List ZnA)×Int×(List ZnA)×Int×Int×(List ZnB)×ZnA)):Option ((List ZnA)×Int×(List ZnA)×Int×Int×(List ZnB)×ZnA):=Ztz (fun b k t9 t10 t11 out e=>rec_ (b,k,t9,t10,t11,out,e)) s.1 s.2.1 s.2.2.1 s.2.2.2.1 s.2.2.2.2.1 s.2.2.2.2.2.1 s.2.2.2.2.2.2
theorem Zxm:∀n s,Zvu (n+1) s=Zvv (Zvu n) s:=fun _ _=>rfl
def Zrs (rec_:(List ZnA)→Int→(List ZnA)→Int→Int→(List ZnB)→Option (List ZnB)) (b:(List ZnA)) (k:Int) (t9:(List ZnA)) (t10:Int) (t11:Int) (out:(List ZnB)):Option (List ZnB):=
 bif (decide (t11 < t10))then (
  (idx t9 t11).bind fun e=>
  (ZpQ big b k t9 t10 t11 out e).bind fun(x0,x1,x2,x3,x4,x5,x6)=>Zt5 rec_ x0 x1 x2 x3 x4 x5 x6
 )else (
  some out
 )
def Zpg:Nat→(List ZnA)→Int→(List ZnA)→Int→Int→(List ZnB)→Option (List ZnB)
 |0,_,_,_,_,_,_=>none
 |n_+1,b,k,t9,t10,t11,out=>Zrs (Zpg n_) b k t9 t10 t11 out
def Zvw (n:Nat) (s:((List ZnA)×Int×(List ZnA)×Int×Int×(List ZnB))):Option (List ZnB):=Zpg n s.1 s.2.1 s.2.2.1 s.2.2.2.1 s.2.2.2.2.1 s.2.2.2.2.2
def ZtA (rec_:((List ZnA)×Int×(List ZnA)×Int×Int×(List ZnB))→Option (List ZnB)) (s:((List ZnA)×Int×(List ZnA)×Int×Int×(List ZnB))):Option (List ZnB):=Zrs (fun b k t9 t10 t11 out=>rec_ (b,k,t9,t10,t11,out)) s.1 s.2.1 s.2.2.1 s.2.2.2.1 s.2.2.2.2.1 s.2.2.2.2.2
theorem Zxn:∀n s,Zvw (n+1) s=ZtA (Zvw n) s:=fun _ _=>rfl
def Zsi (a:(List ZnA)) (b:(List ZnA)):Option (List ZnB):=
 (Zpg big b (0:Int) a (a.length:Int) (0:Int) ([]:(List ZnB))).bind fun x0=>Zt4 x0
def Zoo (keyA:ZnE) (valueA:ZnE) (ZlP:ZnE) (valueB:ZnE):Option (List ZnB):=
 (Zrt keyA valueA).bind fun q=>
 (Zrt ZlP valueB).bind fun q_1=>
 (Zsi q q_1).bind fun q_2=>
 some q_2
def ZuS (s:Str):Option Str:=
 some s
def Zsv (rec_:Str→Option Str) (s:Str) (t23:Bool):Option Str:=
 bif t23 then (
  chk (inK .i64 ((s.length:Int) - 1)) <|
  chk (Zb9 0 ((s.length:Int) - 1) (s.length:Int)) <|
  rec_ (s.take (((s.length:Int) - 1)).toNat)
 )else (
  some s
 )
def Zwy (rec_:Str→Option Str) (s:Str):Option Str:=
 bif (decide ((s.length:Int) > 0))then (
  chk (inK .i64 ((s.length:Int) - 1)) <|
  (idx s ((s.length:Int) - 1)).bind fun c=>
  Zsv rec_ s (((c.toNat:Nat):Int) == 32)
 )else (
  Zsv rec_ s false
 )
def ZqM:Nat→Str→Option Str
 |0,_=>none
 |n_+1,s=>Zwy (ZqM n_) s
def ZuT (s:Str):Option Str:=
 (ZqM big s).bind fun x0=>ZuS x0
def Zsw (rec_:Str→Option Str) (s:Str) (t10:Bool):Option Str:=
 bif t10 then (
  chk (Zb9 1 (s.length:Int) (s.length:Int)) <|
  rec_ (s.drop ((1:Int)).toNat)
 )else (
  some s
 )
def Zwz (rec_:Str→Option Str) (s:Str):Option Str:=
 bif (decide ((s.length:Int) > 0))then (
  (idx s 0).bind fun c=>
  Zsw rec_ s (((c.toNat:Nat):Int) == 32)
 )else (
  Zsw rec_ s false
 )
def ZqN:Nat→Str→Option Str
 |0,_=>none
 |n_+1,s=>Zwz (ZqN n_) s
def ZtH (s:Str):Option Str:=
 (ZqN big s).bind fun x0=>ZuT x0
def ZuU (b:(List Int)):Option Str:=
 some (b.map fun n=>UInt8.ofNat (Int.toNat n))
def Zsx (rec_:Int→Int→(List Int)→Option (List Int)) (t8:Int) (i:Int) (b:(List Int)):Option (List Int):=
 chk (inK .i64 (i+1)) <|
 rec_ t8 (i+1) b
def Zsy (rec_:Int→Int→(List Int)→Option (List Int)) (i:Int) (t8:Int) (i_1:Int) (t23:Bool) (b:(List Int)):Option (List Int):=
 bif t23 then (
  chk (inR i (b.length:Int)) <|
  (b[(i).toNat]?).bind fun b_e=>
  chk (inR i (b.length:Int)) <|
  Zsx rec_ t8 i_1 (b.set ((i).toNat) (IntKind.wrap .u8 (b_e+32)))
 )else (
  Zsx rec_ t8 i_1 b
 )
def ZwA (rec_:Int→Int→(List Int)→Option (List Int)) (t8:Int) (i:Int) (b:(List Int)):Option (List Int):=
 bif (decide (i < t8))then (
  chk (inR i (b.length:Int)) <|
  (b[(i).toNat]?).bind fun b_e=>
  bif (decide (b_e≥65))then (
   chk (inR i (b.length:Int)) <|
   (b[(i).toNat]?).bind fun b_e_1=>
   Zsy rec_ i t8 i (decide (b_e_1≤90)) b
  )else (
   Zsy rec_ i t8 i false b
  )
 )else (
  some b
 )
def ZpF:Nat→Int→Int→(List Int)→Option (List Int)
 |0,_,_,_=>none
 |n_+1,t8,i,b=>ZwA (ZpF n_) t8 i b
def ZtI (s:Str):Option Str:=
 chk (decide (s.length≤281474976710656)) <|
 (ZpF big ((s.map fun b=>((b.toNat:Nat):Int)).length:Int) (0:Int) (s.map fun b=>((b.toNat:Nat):Int))).bind fun x0=>ZuU x0
def Zup (neg:Bool) (digits:Str) (places:Str):Option (Bool×Str×Str×Bool):=
 some (neg,digits,places,true)
def Zr6 (rec_:Bool→Str→Str→Int→Option (Out (Bool×Str×Str) (Bool×Str×Str×Bool))) (neg:Bool) (digits:Str) (places:Str) (i:Int) (t92:Bool):Option (Out (Bool×Str×Str) (Bool×Str×Str×Bool)):=
 bif t92 then (
  some (.ret (false,([]:Str),([]:Str),false))
 )else (
  chk (inK .i64 (i+1)) <|
  rec_ neg digits places (i+1)
 )
def Zwi (rec_:Bool→Str→Str→Int→Option (Out (Bool×Str×Str) (Bool×Str×Str×Bool))) (neg:Bool) (digits:Str) (places:Str) (i:Int):Option (Out (Bool×Str×Str) (Bool×Str×Str×Bool)):=
 bif (decide (i < (places.length:Int)))then (
  (idx places i).bind fun c=>
  bif (decide (((c.toNat:Nat):Int) < 48))then (
   Zr6 rec_ neg digits places i true
  )else (
   (idx places i).bind fun c_1=>
   Zr6 rec_ neg digits places i (decide (((c_1.toNat:Nat):Int) > 57))
  )
 )else (
  some (.brk (neg,digits,places))
 )
def Zqo:Nat→Bool→Str→Str→Int→Option (Out (Bool×Str×Str) (Bool×Str×Str×Bool))
 |0,_,_,_,_=>none
 |n_+1,neg,digits,places,i=>Zwi (Zqo n_) neg digits places i
def Zqq (neg:Bool) (digits:Str) (places:Str) (t76:Bool):Option (Bool×Str×Str×Bool):=
 bif t76 then (
  some (false,([]:Str),([]:Str),false)
 )else (
  (Zqo big neg digits places (0:Int)).bind fun
   | .ret q_=>some q_
   | .brk (x0,x1,x2)=>Zup x0 x1 x2
 )
def Zr7 (s:Str) (neg:Bool) (digits:Str) (k:Int) (t52:Bool):Option (Bool×Str×Str×Bool):=
 bif t52 then (
  some (false,([]:Str),([]:Str),false)
 )else (
  bif (k == (s.length:Int))then (
   some (neg,digits,([]:Str),true)
  )else (
   chk (inK .i64 (k+1)) <|
   chk (Zb9 (k+1) (s.length:Int) (s.length:Int)) <|
   (idx s k).bind fun c=>
   bif (((c.toNat:Nat):Int) != 46)then (
    Zqq neg digits (s.drop ((k+1)).toNat) true
   )else (
    bif (decide (((s.drop ((k+1)).toNat).length:Int) < 1))then (
     Zqq neg digits (s.drop ((k+1)).toNat) true
    )else (
     Zqq neg digits (s.drop ((k+1)).toNat) (decide (((s.drop ((k+1)).toNat).length:Int) > 9))
    )
   )
  )
 )
def Zuq (s:Str) (neg:Bool) (k:Int):Option (Bool×Str×Str×Bool):=
 chk (Zb9 0 k (s.length:Int)) <|
 bif (decide (k < 1))then (
  Zr7 s neg (s.take (k).toNat) k true
 )else (
  Zr7 s neg (s.take (k).toNat) k (decide (k > 15))
 )
def Zqr (rec_:Str→Bool→Int→Option (Str×Bool×Int)) (s:Str) (neg:Bool) (k:Int) (t41:Bool):Option (Str×Bool×Int):=
 bif t41 then (
  chk (inK .i64 (k+1)) <|
  rec_ s neg (k+1)
 )else (
  some (s,neg,k)
 )
def Zwj (rec_:Str→Bool→Int→Option (Str×Bool×Int)) (s:Str) (neg:Bool) (k:Int):Option (Str×Bool×Int):=
 bif (decide (k < (s.length:Int)))then (
  (idx s k).bind fun c=>
  bif (decide (((c.toNat:Nat):Int)≥48))then (
   (idx s k).bind fun c_1=>
   Zqr rec_ s neg k (decide (((c_1.toNat:Nat):Int)≤57))
  )else (
   Zqr rec_ s neg k false
  )
 )else (
  Zqr rec_ s neg k false
 )
def Zqp:Nat→Str→Bool→Int→Option (Str×Bool×Int)
 |0,_,_,_=>none
 |n_+1,s,neg,k=>Zwj (Zqp n_) s neg k
def Zr8 (s:Str) (neg:Bool):Option (Bool×Str×Str×Bool):=
 (Zqp big s neg (0:Int)).bind fun(x0,x1,x2)=>Zuq x0 x1 x2
def Zqs (s:Str) (neg:Bool) (t20:Bool):Option (Bool×Str×Str×Bool):=
 bif t20 then (
  (idx s 0).bind fun c=>
  chk (Zb9 1 (s.length:Int) (s.length:Int)) <|
  Zr8 (s.drop ((1:Int)).toNat) (((c.toNat:Nat):Int) == 45)
 )else (
  Zr8 s neg
 )
def Zrn (s:Str):Option (Bool×Str×Str×Bool):=
 bif (decide ((s.length:Int) > 0))then (
  (idx s 0).bind fun c=>
  bif (((c.toNat:Nat):Int) == 43)then (
   Zqs s false true
  )else (
   (idx s 0).bind fun c_1=>
   Zqs s false (((c_1.toNat:Nat):Int) == 45)
  )
 )else (
  Zqs s false false
 )
def ZrH (digits:Str):Option Str:=
 some digits
def ZrI (digits:Str) (t43:Bool):Option Str:=
 bif t43 then (
  chk (decide (([45]:Str).length+digits.length≤Zq)) <|
  ZrH (([45]:Str)++digits)
 )else (
  ZrH digits
 )
def ZrJ (neg:Bool) (digits:Str):Option Str:=
 bif neg then (
  ZrI digits (!(digits == ([48]:Str)))
 )else (
  ZrI digits false
 )
def Zt7 (neg:Bool) (digits:Str) (places:Str):Option Str:=
 bif (!(places == ([]:Str)))then (
  chk (decide (([46]:Str).length+places.length≤Zq)) <|
  chk (decide (digits.length+(([46]:Str)++places).length≤Zq)) <|
  ZrJ neg (digits++(([46]:Str)++places))
 )else (
  ZrJ neg digits
 )
def ZrK (rec_:Bool→Str→Str→Option (Bool×Str×Str)) (neg:Bool) (digits:Str) (places:Str) (t27:Bool):Option (Bool×Str×Str):=
 bif t27 then (
  chk (inK .i64 ((places.length:Int) - 1)) <|
  chk (Zb9 0 ((places.length:Int) - 1) (places.length:Int)) <|
  rec_ neg digits (places.take (((places.length:Int) - 1)).toNat)
 )else (
  some (neg,digits,places)
 )
def Zv0 (rec_:Bool→Str→Str→Option (Bool×Str×Str)) (neg:Bool) (digits:Str) (places:Str):Option (Bool×Str×Str):=
 bif (decide ((places.length:Int) > 0))then (
  chk (inK .i64 ((places.length:Int) - 1)) <|
  (idx places ((places.length:Int) - 1)).bind fun c=>
  ZrK rec_ neg digits places (((c.toNat:Nat):Int) == 48)
 )else (
  ZrK rec_ neg digits places false
 )
def Zqe:Nat→Bool→Str→Str→Option (Bool×Str×Str)
 |0,_,_,_=>none
 |n_+1,neg,digits,places=>Zv0 (Zqe n_) neg digits places
def Zt8 (neg:Bool) (digits:Str) (places:Str):Option Str:=
 (Zqe big neg digits places).bind fun(x0,x1,x2)=>Zt7 x0 x1 x2
def ZrL (rec_:Bool→Str→Str→Option (Bool×Str×Str)) (neg:Bool) (digits:Str) (places:Str) (t14:Bool):Option (Bool×Str×Str):=
 bif t14 then (
  chk (Zb9 1 (digits.length:Int) (digits.length:Int)) <|
  rec_ neg (digits.drop ((1:Int)).toNat) places
 )else (
  some (neg,digits,places)
 )
def Zv1 (rec_:Bool→Str→Str→Option (Bool×Str×Str)) (neg:Bool) (digits:Str) (places:Str):Option (Bool×Str×Str):=
 bif (decide ((digits.length:Int) > 1))then (
  (idx digits 0).bind fun c=>
  ZrL rec_ neg digits places (((c.toNat:Nat):Int) == 48)
 )else (
  ZrL rec_ neg digits places false
 )
def Zqf:Nat→Bool→Str→Str→Option (Bool×Str×Str)
 |0,_,_,_=>none
 |n_+1,neg,digits,places=>Zv1 (Zqf n_) neg digits places
def ZsV (neg:Bool) (digits:Str) (places:Str):Option Str:=
 (Zqf big neg digits places).bind fun(x0,x1,x2)=>Zt8 x0 x1 x2
def Zu8 (n:Int):Option Int:=
 some n
def ZsU (rec_:Str→Int→Int→Option (Out Int Int)) (s:Str) (n:Int) (i:Int) (t20:Bool):Option (Out Int Int):=
 bif t20 then (
  some (.ret (-1:Int))
 )else (
  chk (inK .i64 (10*n)) <|
  (idx s i).bind fun c=>
  chk (inK .i64 ((10*n)+(IntKind.wrap .i64 (IntKind.wrap .u8 (((c.toNat:Nat):Int) - 48))))) <|
  chk (inK .i64 (i+1)) <|
  rec_ s ((10*n)+(IntKind.wrap .i64 (IntKind.wrap .u8 (((c.toNat:Nat):Int) - 48)))) (i+1)
 )
def ZwM (rec_:Str→Int→Int→Option (Out Int Int)) (s:Str) (n:Int) (i:Int):Option (Out Int Int):=
 bif (decide (i < (s.length:Int)))then (
  (idx s i).bind fun c=>
  bif (decide (((c.toNat:Nat):Int) < 48))then (
   ZsU rec_ s n i true
  )else (
   (idx s i).bind fun c_1=>
   ZsU rec_ s n i (decide (((c_1.toNat:Nat):Int) > 57))
  )
 )else (
  some (.brk n)
 )
def Zq7:Nat→Str→Int→Int→Option (Out Int Int)
 |0,_,_,_=>none
 |n_+1,s,n,i=>ZwM (Zq7 n_) s n i
def ZoM (s:Str):Option Int:=
 (Zq7 big s (0:Int) (0:Int)).bind fun
  | .ret q_=>some q_
  | .brk x0=>Zu8 x0
def ZqK (t2:Bool):Option Bool:=
 some t2
def ZrN (y:Int):Option Bool:=
 chk (decide ((4:Int)≠0)) <|
 bif ((Int.tmod y 4) == 0)then (
  chk (decide ((100:Int)≠0)) <|
  bif ((Int.tmod y 100) != 0)then (
   ZqK true
  )else (
   chk (decide ((400:Int)≠0)) <|
   ZqK ((Int.tmod y 400) == 0)
  )
 )else (
  ZqK false
 )
def Zph (t15:Bool):Option Int:=
 bif t15 then (
  some (30:Int)
 )else (
  some (31:Int)
 )
def ZrM (m:Int) (t5:Bool):Option Int:=
 bif t5 then (
  some (29:Int)
 )else (
  bif (m == 2)then (
   some (28:Int)
  )else (
   bif (m == 4)then (
    Zph true
   )else (
    bif (m == 6)then (
     Zph true
    )else (
     bif (m == 9)then (
      Zph true
     )else (
      Zph (m == 11)
     )
    )
   )
  )
 )
def Zq8 (y:Int) (m:Int):Option Int:=
 bif (m == 2)then (
  (ZrN y).bind fun q=>
  ZrM m q
 )else (
  ZrM m false
 )
def Zu9 (day:Int) (n:Int):Option (Int×Bool):=
 chk (inK .i64 (n+day)) <|
 chk (inK .i64 ((n+day) - 1)) <|
 chk (inK .i64 (((n+day) - 1) - 719162)) <|
 some ((((n+day) - 1) - 719162),true)
def ZwN (rec_:Int→Int→Int→Int→Int→Option (Int×Int)) (year:Int) (month:Int) (day:Int) (n:Int) (m:Int):Option (Int×Int):=
 bif (decide (m < month))then (
  (Zq8 year m).bind fun q=>
  chk (inK .i64 (n+q)) <|
  chk (inK .i64 (m+1)) <|
  rec_ year month day (n+q) (m+1)
 )else (
  some (day,n)
 )
def ZsW:Nat→Int→Int→Int→Int→Int→Option (Int×Int)
 |0,_,_,_,_,_=>none
 |n_+1,year,month,day,n,m=>ZwN (ZsW n_) year month day n m
def Zva (year:Int) (month:Int) (day:Int) (n:Int):Option (Int×Bool):=
 (ZsW big year month day n (1:Int)).bind fun(x0,x1)=>Zu9 x0 x1
def ZsX (rec_:Int→Int→Int→Int→Int→Option (Int×Int×Int×Int)) (year:Int) (month:Int) (day:Int) (n:Int) (y:Int):Option (Int×Int×Int×Int):=
 chk (inK .i64 (y+1)) <|
 rec_ year month day n (y+1)
def ZwO (rec_:Int→Int→Int→Int→Int→Option (Int×Int×Int×Int)) (year:Int) (month:Int) (day:Int) (n:Int) (y:Int):Option (Int×Int×Int×Int):=
 bif (decide (y < year))then (
  chk (inK .i64 (n+365)) <|
  (ZrN y).bind fun q=>
  bif q then (
   chk (inK .i64 ((n+365)+1)) <|
   ZsX rec_ year month day ((n+365)+1) y
  )else (
   ZsX rec_ year month day (n+365) y
  )
 )else (
  some (year,month,day,n)
 )
def Zq9:Nat→Int→Int→Int→Int→Int→Option (Int×Int×Int×Int)
 |0,_,_,_,_,_=>none
 |n_+1,year,month,day,n,y=>ZwO (Zq9 n_) year month day n y
def ZoJ (year:Int) (month:Int) (day:Int) (t35:Bool):Option (Int×Bool):=
 bif t35 then (
  some (0,false)
 )else (
  (Zq9 big year month day (0:Int) (1:Int)).bind fun(x0,x1,x2,x3)=>Zva x0 x1 x2 x3
 )
def Zsj (year:Int) (month:Int) (day:Int):Option (Int×Bool):=
 bif (decide (year < 1))then (
  ZoJ year month day true
 )else (
  bif (decide (year > 9999))then (
   ZoJ year month day true
  )else (
   bif (decide (month < 1))then (
    ZoJ year month day true
   )else (
    bif (decide (month > 12))then (
     ZoJ year month day true
    )else (
     bif (decide (day < 1))then (
      ZoJ year month day true
     )else (
      (Zq8 year month).bind fun q=>
      ZoJ year month day (decide (day > q))
     )
    )
   )
  )
 )
def Zss (year:Int) (month:Int) (day:Int):Option (Int×Int×Int×Bool):=
 (Zsj year month day).bind fun(q,ok)=>
 some (year,month,day,ok)
def Zst (s:Str) (t35:Bool):Option (Int×Int×Int×Bool):=
 bif t35 then (
  chk (Zb9 6 (s.length:Int) (s.length:Int)) <|
  (ZoM (s.drop ((6:Int)).toNat)).bind fun year=>
  chk (Zb9 3 5 (s.length:Int)) <|
  (ZoM ((s.take ((5:Int)).toNat).drop ((3:Int)).toNat)).bind fun month=>
  chk (Zb9 0 2 (s.length:Int)) <|
  (ZoM (s.take ((2:Int)).toNat)).bind fun day=>
  Zss year month day
 )else (
  some (0,0,0,false)
 )
def ZqL (s:Str) (t9:Bool):Option (Int×Int×Int×Bool):=
 bif t9 then (
  chk (Zb9 0 4 (s.length:Int)) <|
  (ZoM (s.take ((4:Int)).toNat)).bind fun year=>
  chk (Zb9 5 7 (s.length:Int)) <|
  (ZoM ((s.take ((7:Int)).toNat).drop ((5:Int)).toNat)).bind fun month=>
  chk (Zb9 8 (s.length:Int) (s.length:Int)) <|
  (ZoM (s.drop ((8:Int)).toNat)).bind fun day=>
  Zss year month day
 )else (
  (idx s 2).bind fun c=>
  bif (((c.toNat:Nat):Int) == 46)then (
   (idx s 5).bind fun c_1=>
   Zst s (((c_1.toNat:Nat):Int) == 46)
  )else (
   Zst s false
  )
 )
def Zsu (s:Str) (t9:Bool):Option (Int×Int×Int×Bool):=
 bif t9 then (
  ZqL s t9
 )else (
  (idx s 4).bind fun c=>
  bif (((c.toNat:Nat):Int) == 47)then (
   (idx s 7).bind fun c_1=>
   ZqL s (((c_1.toNat:Nat):Int) == 47)
  )else (
   ZqL s false
  )
 )
def ZrO (s:Str):Option (Int×Int×Int×Bool):=
 bif ((s.length:Int) != 10)then (
  some (0,0,0,false)
 )else (
  (idx s 4).bind fun c=>
  bif (((c.toNat:Nat):Int) == 45)then (
   (idx s 7).bind fun c_1=>
   Zsu s (((c_1.toNat:Nat):Int) == 45)
  )else (
   Zsu s false
  )
 )
def Zt6 (s:Str):Option Str:=
 some s
def ZvZ (rec_:Int→Int→Str→Option Str) (n:Int) (width:Int) (s:Str):Option Str:=
 bif (decide (width > 0))then (
  chk (decide ((10:Int)≠0)) <|
  chk (decide ((([(IntKind.wrap .u8 (48+(IntKind.wrap .u8 (Int.tmod n 10))))]:(List Int)).map fun n=>UInt8.ofNat (Int.toNat n)).length+s.length≤Zq)) <|
  chk (decide ((10:Int)≠0)) <|
  chk (inK .i64 (Int.tdiv n 10)) <|
  chk (inK .i64 (width - 1)) <|
  rec_ (Int.tdiv n 10) (width - 1) ((([(IntKind.wrap .u8 (48+(IntKind.wrap .u8 (Int.tmod n 10))))]:(List Int)).map fun n=>UInt8.ofNat (Int.toNat n))++s)
 )else (
  some s
 )
def ZrG:Nat→Int→Int→Str→Option Str
 |0,_,_,_=>none
 |n_+1,n,width,s=>ZvZ (ZrG n_) n width s
def ZpR (n:Int) (width:Int):Option Str:=
 (ZrG big n width ([]:Str)).bind fun x0=>Zt6 x0
def ZoV:Option (Str×Bool):=
 some (([]:Str),false)
def ZpD (neg:Bool) (digits:Str) (places:Str) (t49:Bool):Option (Str×Bool):=
 bif t49 then (
  (ZsV neg digits places).bind fun q=>
  some (q,true)
 )else (
  ZoV
 )
def ZqY (kind:Int) (t:Str) (t17:Int) (t31:Bool):Option (Str×Bool):=
 bif t31 then (
  (Zrn t).bind fun(neg,digits,places,ok)=>
  bif ok then (
   bif (kind == 4)then (
    ZpD neg digits places true
   )else (
    ZpD neg digits places (places == ([]:Str))
   )
  )else (
   ZpD neg digits places false
  )
 )else (
  bif (t17 == 5)then (
   (ZrO t).bind fun(y,m,d,ok_1)=>
   bif ok_1 then (
    (ZpR y 4).bind fun q=>
    chk (decide (q.length+([45]:Str).length≤Zq)) <|
    (ZpR m 2).bind fun q_1=>
    chk (decide ((q++([45]:Str)).length+q_1.length≤Zq)) <|
    chk (decide (((q++([45]:Str))++q_1).length+([45]:Str).length≤Zq)) <|
    (ZpR d 2).bind fun q_2=>
    chk (decide ((((q++([45]:Str))++q_1)++([45]:Str)).length+q_2.length≤Zq)) <|
    some (((((q++([45]:Str))++q_1)++([45]:Str))++q_2),true)
   )else (
    ZoV
   )
  )else (
   ZoV
  )
 )
def ZqZ (t28:Bool):Option (Str×Bool):=
 bif t28 then (
  some (([102,97,108,115,101]:Str),true)
 )else (
  ZoV
 )
def Zq0 (t24:Str) (t25:Bool):Option (Str×Bool):=
 bif t25 then (
  some (([116,114,117,101]:Str),true)
 )else (
  bif (t24 == ([102,97,108,115,101]:Str))then (
   ZqZ (t24 == ([102,97,108,115,101]:Str))
  )else (
   ZqZ (t24 == ([110,111]:Str))
  )
 )
def ZrP (kind:Int) (s:Str):Option (Str×Bool):=
 (ZtH s).bind fun t=>
 bif (kind == 1)then (
  some (s,true)
 )else (
  bif (kind == 2)then (
   (ZtI t).bind fun q=>
   bif (q == ([116,114,117,101]:Str))then (
    Zq0 q (q == ([116,114,117,101]:Str))
   )else (
    Zq0 q (q == ([121,101,115]:Str))
   )
  )else (
   bif (kind == 3)then (
    ZqY kind t kind (kind == 3)
   )else (
    ZqY kind t kind (kind == 4)
   )
  )
 )
def Zvb (out:(List Int)):Option (List Int):=
 (Zn0 out).bind fun q=>
 some q
def Zvc (rec_:(List Int)→(List Int)→Int→(List Int)→Option (List Int)) (a:(List Int)) (b:(List Int)) (i:Int) (c:Int) (out:(List Int)):Option (List Int):=
 chk (inK .i64 (i+(b.length:Int))) <|
 chk (inR (i+(b.length:Int)) (out.length:Int)) <|
 chk (inK .i64 (i+1)) <|
 rec_ a b (i+1) (out.set (((i+(b.length:Int))).toNat) (IntKind.wrap .u32 c))
def ZwP (rec_:(List Int)→(List Int)→Int→Int→Int→(List Int)→Option ((List Int)×(List Int)×Int×Int×(List Int))) (a:(List Int)) (b:(List Int)) (i:Int) (c:Int) (j:Int) (out:(List Int)):Option ((List Int)×(List Int)×Int×Int×(List Int)):=
 bif (decide (j < (b.length:Int)))then (
  (idx a i).bind fun a_e=>
  (idx b j).bind fun b_e=>
  chk (inK .i64 (i+j)) <|
  chk (inR (i+j) (out.length:Int)) <|
  (out[((i+j)).toNat]?).bind fun out_e=>
  chk (inK .i64 (i+j)) <|
  chk (inR (i+j) (out.length:Int)) <|
  chk (decide (0≤(32:Int))) <|
  chk (inK .i64 (j+1)) <|
  rec_ a b i (shrK .u64 (IntKind.wrap .u64 (c+(IntKind.wrap .u64 ((IntKind.wrap .u64 ((IntKind.wrap .u64 a_e)*(IntKind.wrap .u64 b_e)))+(IntKind.wrap .u64 out_e))))) 32) (j+1) (out.set (((i+j)).toNat) (IntKind.wrap .u32 (IntKind.wrap .u64 (c+(IntKind.wrap .u64 ((IntKind.wrap .u64 ((IntKind.wrap .u64 a_e)*(IntKind.wrap .u64 b_e)))+(IntKind.wrap .u64 out_e)))))))
 )else (
  some (a,b,i,c,out)
 )
def ZsZ:Nat→(List Int)→(List Int)→Int→Int→Int→(List Int)→Option ((List Int)×(List Int)×Int×Int×(List Int))
 |0,_,_,_,_,_,_=>none
 |n_+1,a,b,i,c,j,out=>ZwP (ZsZ n_) a b i c j out
def ZwQ (rec_:(List Int)→(List Int)→Int→(List Int)→Option (List Int)) (a:(List Int)) (b:(List Int)) (i:Int) (out:(List Int)):Option (List Int):=
 bif (decide (i < (a.length:Int)))then (
  (ZsZ big a b i (0:Int) (0:Int) out).bind fun(x0,x1,x2,x3,x4)=>Zvc rec_ x0 x1 x2 x3 x4
 )else (
  some out
 )
def Zra:Nat→(List Int)→(List Int)→Int→(List Int)→Option (List Int)
 |0,_,_,_,_=>none
 |n_+1,a,b,i,out=>ZwQ (Zra n_) a b i out
def Zt2 (a:(List Int)) (b:(List Int)):Option (List Int):=
 chk (inK .i64 ((a.length:Int)+(b.length:Int))) <|
 chk (mkOk ((a.length:Int)+(b.length:Int)) ((a.length:Int)+(b.length:Int)) 4) <|
 (Zra big a b (0:Int) (List.replicate (((a.length:Int)+(b.length:Int))).toNat (0:Int))).bind fun x0=>Zvb x0
def Zrm (a:ZnD) (b:ZnD):Option ZnD:=
 (Zt2 a.Words b.Words).bind fun q=>
 (ZnV (!(a.Neg == b.Neg)) q).bind fun q_1=>
 some q_1
def Zvd (c:Int) (out:(List Int)):Option (List Int):=
 chk (ZiZ (out.length+([(IntKind.wrap .u32 c)]:(List Int)).length) 4) <|
 some (out++([(IntKind.wrap .u32 c)]:(List Int)))
def Zs7 (rec_:(List Int)→(List Int)→Int→Int→(List Int)→Option (Int×(List Int))) (a:(List Int)) (b:(List Int)) (c:Int) (i:Int) (out:(List Int)):Option (Int×(List Int)):=
 chk (ZiZ (out.length+([(IntKind.wrap .u32 c)]:(List Int)).length) 4) <|
 chk (decide (0≤(32:Int))) <|
 chk (inK .i64 (i+1)) <|
 rec_ a b (shrK .u64 c 32) (i+1) (out++([(IntKind.wrap .u32 c)]:(List Int)))
def Zs8 (rec_:(List Int)→(List Int)→Int→Int→(List Int)→Option (Int×(List Int))) (a:(List Int)) (b:(List Int)) (c:Int) (i:Int) (out:(List Int)):Option (Int×(List Int)):=
 bif (decide (i < (b.length:Int)))then (
  (idx b i).bind fun b_e=>
  Zs7 rec_ a b (IntKind.wrap .u64 (c+(IntKind.wrap .u64 b_e))) i out
 )else (
  Zs7 rec_ a b c i out
 )
def Zs9 (rec_:(List Int)→(List Int)→Int→Int→(List Int)→Option (Int×(List Int))) (a:(List Int)) (b:(List Int)) (c:Int) (i:Int) (t17:Bool) (out:(List Int)):Option (Int×(List Int)):=
 bif t17 then (
  bif (decide (i < (a.length:Int)))then (
   (idx a i).bind fun a_e=>
   Zs8 rec_ a b (IntKind.wrap .u64 (c+(IntKind.wrap .u64 a_e))) i out
  )else (
   Zs8 rec_ a b c i out
  )
 )else (
  some (c,out)
 )
def ZwR (rec_:(List Int)→(List Int)→Int→Int→(List Int)→Option (Int×(List Int))) (a:(List Int)) (b:(List Int)) (c:Int) (i:Int) (out:(List Int)):Option (Int×(List Int)):=
 bif (decide (i < (a.length:Int)))then (
  Zs9 rec_ a b c i true out
 )else (
  Zs9 rec_ a b c i (decide (i < (b.length:Int))) out
 )
def Zpb:Nat→(List Int)→(List Int)→Int→Int→(List Int)→Option (Int×(List Int))
 |0,_,_,_,_,_=>none
 |n_+1,a,b,c,i,out=>ZwR (Zpb n_) a b c i out
def Zt3 (a:(List Int)) (b:(List Int)):Option (List Int):=
 (Zpb big a b (0:Int) (0:Int) ([]:(List Int))).bind fun(x0,x1)=>Zvd x0 x1
def ZtJ (a:ZnD) (b:ZnD):Option ZnD:=
 bif (a.Neg == b.Neg)then (
  (Zt3 a.Words b.Words).bind fun q=>
  (ZnV a.Neg q).bind fun q_1=>
  some q_1
 )else (
  (Zpc a.Words b.Words).bind fun q_2=>
  bif (decide (q_2≥0))then (
   (ZoN a.Words b.Words).bind fun q_3=>
   (ZnV a.Neg q_3).bind fun q_4=>
   some q_4
  )else (
   (ZoN b.Words a.Words).bind fun q_5=>
   (ZnV b.Neg q_5).bind fun q_6=>
   some q_6
  )
 )
def Zts (a:ZnD):Option ZnD:=
 (ZnV (!a.Neg) a.Words).bind fun q=>
 some q
def Zrx (t2:Bool) (t2_1:Bool) (n:ZnD) (d:ZnD) (t2_2:(List Int)) (t2_3:(List Int)):Option (ZnC×Bool):=
 (Zo8 n d).bind fun q=>
 some (q,true)
def ZtS (neg:Bool) (t2:Bool) (t2_1:Bool) (n:ZnD) (d:ZnD) (t2_2:(List Int)) (t2_3:(List Int)):Option (ZnC×Bool):=
 bif neg then (
  (Zts n).bind fun n_1=>
  Zrx t2 t2_1 n_1 d t2_2 t2_3
 )else (
  Zrx t2 t2_1 n d t2_2 t2_3
 )
def Zry (rec_:Bool→Bool→Bool→ZnD→ZnD→Str→Nat→(List Int)→(List Int)→Option (Bool×Bool×Bool×ZnD×ZnD×(List Int)×(List Int))) (neg:Bool) (t45:Bool) (t2:Bool) (t2_1:Bool) (n:ZnD) (d:ZnD) (t43:Str) (t43_pos:Nat) (t2_2:(List Int)) (t2_3:(List Int)):Option (Bool×Bool×Bool×ZnD×ZnD×(List Int)×(List Int)):=
 bif t45 then (
  (ZnR 10).bind fun q=>
  (Zrm d q).bind fun d_1=>
  rec_ neg t2 t2_1 n d_1 t43 t43_pos t2_2 t2_3
 )else (
  some (neg,t2,t2_1,n,d,t2_2,t2_3)
 )
def ZvR (rec_:Bool→Bool→Bool→ZnD→ZnD→Str→Nat→(List Int)→(List Int)→Option (Bool×Bool×Bool×ZnD×ZnD×(List Int)×(List Int))) (neg:Bool) (t2:Bool) (t2_1:Bool) (n:ZnD) (d:ZnD) (t43:Str) (t43_pos:Nat) (t2_2:(List Int)) (t2_3:(List Int)):Option (Bool×Bool×Bool×ZnD×ZnD×(List Int)×(List Int)):=
 bif (decide (t43_pos < t43.length))then (
  Zry rec_ neg true t2 t2_1 n d t43 (t43_pos+(Utf8.decode ⟨List.toArray t43⟩ t43_pos).2) t2_2 t2_3
 )else (
  Zry rec_ neg false t2 t2_1 n d t43 t43_pos t2_2 t2_3
 )
def Zp1:Nat→Bool→Bool→Bool→ZnD→ZnD→Str→Nat→(List Int)→(List Int)→Option (Bool×Bool×Bool×ZnD×ZnD×(List Int)×(List Int))
 |0,_,_,_,_,_,_,_,_,_=>none
 |n_+1,neg,t2,t2_1,n,d,t43,t43_pos,t2_2,t2_3=>ZvR (Zp1 n_) neg t2 t2_1 n d t43 t43_pos t2_2 t2_3
def ZtT (neg:Bool) (places:Str) (t2:Bool) (t2_1:Bool) (n:ZnD) (d:ZnD) (t2_2:(List Int)) (t2_3:(List Int)):Option (ZnC×Bool):=
 (Zp1 big neg t2 t2_1 n d places 0 t2_2 t2_3).bind fun(x0,x1,x2,x3,x4,x5,x6)=>ZtS x0 x1 x2 x3 x4 x5 x6
def ZvS (rec_:Bool→Str→Int→Int→Bool→Bool→ZnD→ZnD→(List Int)→(List Int)→(List Int)→Option (Bool×Str×Bool×Bool×ZnD×ZnD×(List Int)×(List Int))) (neg:Bool) (places:Str) (t28:Int) (t29:Int) (t2:Bool) (t2_1:Bool) (n:ZnD) (d:ZnD) (t27:(List Int)) (t2_2:(List Int)) (t2_3:(List Int)):Option (Bool×Str×Bool×Bool×ZnD×ZnD×(List Int)×(List Int)):=
 bif (decide (t29 < t28))then (
  chk (inR t29 (t27.length:Int)) <|
  (t27[(t29).toNat]?).bind fun c=>
  (ZnR 10).bind fun q=>
  (Zrm n q).bind fun q_1=>
  (ZnR (IntKind.wrap .i64 (IntKind.wrap .u8 (c - 48)))).bind fun q_2=>
  (ZtJ q_1 q_2).bind fun n_1=>
  chk (inK .i64 (t29+1)) <|
  rec_ neg places t28 (t29+1) t2 t2_1 n_1 d t27 t2_2 t2_3
 )else (
  some (neg,places,t2,t2_1,n,d,t2_2,t2_3)
 )
def Zrw:Nat→Bool→Str→Int→Int→Bool→Bool→ZnD→ZnD→(List Int)→(List Int)→(List Int)→Option (Bool×Str×Bool×Bool×ZnD×ZnD×(List Int)×(List Int))
 |0,_,_,_,_,_,_,_,_,_,_,_=>none
 |n_+1,neg,places,t28,t29,t2,t2_1,n,d,t27,t2_2,t2_3=>ZvS (Zrw n_) neg places t28 t29 t2 t2_1 n d t27 t2_2 t2_3
def ZsB (s:Str):Option (ZnC×Bool):=
 (Zrn s).bind fun(neg,digits,places,ok)=>
 bif (!ok)then (
  some ((ZnC.mk (ZnD.mk false ([]:(List Int))) (ZnD.mk false ([]:(List Int)))),false)
 )else (
  (ZnR 1).bind fun d=>
  chk (decide (digits.length+places.length≤Zq)) <|
  chk (decide ((digits++places).length≤281474976710656)) <|
  (Zrw big neg places (((digits++places).map fun b=>((b.toNat:Nat):Int)).length:Int) (0:Int) false false (ZnD.mk false ([]:(List Int))) d ((digits++places).map fun b=>((b.toNat:Nat):Int)) ([]:(List Int)) ([]:(List Int))).bind fun(x0,x1,x2,x3,x4,x5,x6,x7)=>ZtT x0 x1 x2 x3 x4 x5 x6 x7
 )
def Zqj (n:Int) (t4:Bool) (t4_1:Bool) (t4_2:(List Int)) (t4_3:(List Int)):Option (ZnC×Bool):=
 (Zp9 n 1).bind fun(f,q)=>
 some (f,true)
def ZrZ (kind:Int) (t:Str) (t26:Bool) (t4:Bool) (t4_1:Bool) (t4_2:(List Int)) (t4_3:(List Int)):Option (ZnC×Bool):=
 bif t26 then (
  some ((ZnC.mk (ZnD.mk false ([]:(List Int))) (ZnD.mk false ([]:(List Int)))),false)
 )else (
  bif (kind == 2)then (
   bif (t == ([116,114,117,101]:Str))then (
    Zqj (1:Int) t4 t4_1 t4_2 t4_3
   )else (
    Zqj (0:Int) t4 t4_1 t4_2 t4_3
   )
  )else (
   bif (kind == 5)then (
    (ZrO t).bind fun(y,m,d,q)=>
    (Zsj y m d).bind fun(n,q_1)=>
    Zqj n t4 t4_1 t4_2 t4_3
   )else (
    (ZsB t).bind fun(q_2,q_3)=>
    some (q_2,q_3)
   )
  )
 )
def Ztr (kind:Int) (s:Str):Option (ZnC×Bool):=
 (ZrP kind s).bind fun(t,ok)=>
 bif (!ok)then (
  ZrZ kind t true false false ([]:(List Int)) ([]:(List Int))
 )else (
  ZrZ kind t (kind == 1) false false ([]:(List Int)) ([]:(List Int))
 )
def Zo7 (c:ZnF):Option (ZnC×Bool):=
 bif c.Null then (
  some ((ZnC.mk (ZnD.mk false ([]:(List Int))) (ZnD.mk false ([]:(List Int)))),false)
 )else (
  (Ztr 4 c.Text).bind fun(q,q_1)=>
  some (q,q_1)
 )
def ZoR (t2:Bool):Option Bool:=
 some t2
def ZpK (self:(List ZnB)) (keys:(List (Str×Bool))):Option Bool:=
 chk (decide (keys.length≤Zq)) <|
 bif ((self.length:Int) == (keys.length:Int))then (
  (Zpk).bind fun q=>
  ZoR q
 )else (
  ZoR false
 )
def ZoS (rec_:(List ZnF)→Int→Int→ZnE→(List ZnB)→(List (Str×Bool))→Option ((List ZnB)×(List (Str×Bool)))) (t114:(List ZnF)) (t115:Int) (i:Int) (va:ZnE) (self:(List ZnB)) (keys:(List (Str×Bool))):Option ((List ZnB)×(List (Str×Bool))):=
 chk (inK .i64 (i+1)) <|
 rec_ t114 t115 (i+1) va self keys
def ZoT (rec_:(List ZnF)→Int→Int→ZnE→(List ZnB)→(List (Str×Bool))→Option ((List ZnB)×(List (Str×Bool)))) (t114:(List ZnF)) (t115:Int) (i:Int) (t135:Bool) (va:ZnE) (self:(List ZnB)) (keys:(List (Str×Bool))) (c:ZnF):Option ((List ZnB)×(List (Str×Bool))):=
 bif t135 then (
  ZoS rec_ t114 t115 i va self (setB (k:= .str) (v:= .bool) (car:=Zvy) keys c.Text true)
 )else (
  ZoS rec_ t114 t115 i va self keys
 )
def ZoD (rec_:(List ZnF)→Int→Int→ZnE→(List ZnB)→(List (Str×Bool))→Option ((List ZnB)×(List (Str×Bool)))) (t114:(List ZnF)) (t115:Int) (i:Int) (va:ZnE) (self:(List ZnB)) (keys:(List (Str×Bool))):Option ((List ZnB)×(List (Str×Bool))):=
 bif (decide (i < t115))then (
  (idx t114 i).bind fun c=>
  (idx va.Cells i).bind fun Cell=>
  (Zo7 Cell).bind fun(q,ok)=>
  bif ok then (
   ZoT rec_ t114 t115 i (!c.Null) va self keys c
  )else (
   ZoT rec_ t114 t115 i false va self keys c
  )
 )else (
  some (self,keys)
 )
def ZnT:Nat→(List ZnF)→Int→Int→ZnE→(List ZnB)→(List (Str×Bool))→Option ((List ZnB)×(List (Str×Bool)))
 |0,_,_,_,_,_,_=>none
 |n_+1,t114,t115,i,va,self,keys=>ZoD (ZnT n_) t114 t115 i va self keys
def Zri (n:Nat) (s:((List ZnF)×Int×Int×ZnE×(List ZnB)×(List (Str×Bool)))):Option ((List ZnB)×(List (Str×Bool))):=ZnT n s.1 s.2.1 s.2.2.1 s.2.2.2.1 s.2.2.2.2.1 s.2.2.2.2.2
def Zpv (rec_:((List ZnF)×Int×Int×ZnE×(List ZnB)×(List (Str×Bool)))→Option ((List ZnB)×(List (Str×Bool)))) (s:((List ZnF)×Int×Int×ZnE×(List ZnB)×(List (Str×Bool)))):Option ((List ZnB)×(List (Str×Bool))):=ZoD (fun t114 t115 i va self keys=>rec_ (t114,t115,i,va,self,keys)) s.1 s.2.1 s.2.2.1 s.2.2.2.1 s.2.2.2.2.1 s.2.2.2.2.2
theorem Zuh:∀n s,Zri (n+1) s=Zpv (Zri n) s:=fun _ _=>rfl
def ZpL (ka:ZnE) (va:ZnE) (self:(List ZnB)):Option Bool:=
 (ZnT big ka.Cells (ka.Cells.length:Int) (0:Int) va self ([]:(List (Str×Bool)))).bind fun(x0,x1)=>ZpK x0 x1
def ZoE (rec_:Int→Int→ZnE→ZnE→(List ZnB)→Option (Out (ZnE×ZnE×(List ZnB)) Bool)) (t100:Int) (t101:Int) (ka:ZnE) (va:ZnE) (self:(List ZnB)):Option (Out (ZnE×ZnE×(List ZnB)) Bool):=
 bif (decide (t101 < t100))then (
  chk (inR t101 (self.length:Int)) <|
  (self[(t101).toNat]?).bind fun p=>
  chk (inR 0 2) <|
  chk (inR 1 2) <|
  (ZnZ p.e0 p.e1).bind fun q=>
  bif (!q)then (
   some (.ret false)
  )else (
   chk (inK .i64 (t101+1)) <|
   rec_ t100 (t101+1) ka va self
  )
 )else (
  some (.brk (ka,va,self))
 )
def ZoQ:Nat→Int→Int→ZnE→ZnE→(List ZnB)→Option (Out (ZnE×ZnE×(List ZnB)) Bool)
 |0,_,_,_,_,_=>none
 |n_+1,t100,t101,ka,va,self=>ZoE (ZoQ n_) t100 t101 ka va self
def Zrj (n:Nat) (s:(Int×Int×ZnE×ZnE×(List ZnB))):Option (Out (ZnE×ZnE×(List ZnB)) Bool):=ZoQ n s.1 s.2.1 s.2.2.1 s.2.2.2.1 s.2.2.2.2
def Zpw (rec_:(Int×Int×ZnE×ZnE×(List ZnB))→Option (Out (ZnE×ZnE×(List ZnB)) Bool)) (s:(Int×Int×ZnE×ZnE×(List ZnB))):Option (Out (ZnE×ZnE×(List ZnB)) Bool):=ZoE (fun t100 t101 ka va self=>rec_ (t100,t101,ka,va,self)) s.1 s.2.1 s.2.2.1 s.2.2.2.1 s.2.2.2.2
theorem Zui:∀n s,Zrj (n+1) s=Zpw (Zrj n) s:=fun _ _=>rfl
def ZpM (ka:ZnE) (va:ZnE) (self:(List ZnB)):Option Bool:=
 (ZoQ big (self.length:Int) (0:Int) ka va self).bind fun
  | .ret q_=>some q_
  | .brk (x0,x1,x2)=>ZpL x0 x1 x2
def ZoU (rec_:Int→Int→ZnE→ZnE→(List ZnB)→(List ZnB)→(List ZnB)→Option (Out (ZnE×ZnE×(List ZnB)) Bool)) (t72:Int) (i:Int) (t97:Bool) (ka:ZnE) (va:ZnE) (back:(List ZnB)) (self:(List ZnB)) (t71:(List ZnB)):Option (Out (ZnE×ZnE×(List ZnB)) Bool):=
 bif t97 then (
  some (.ret false)
 )else (
  chk (inK .i64 (i+1)) <|
  rec_ t72 (i+1) ka va back self t71
 )
def ZoF (rec_:Int→Int→ZnE→ZnE→(List ZnB)→(List ZnB)→(List ZnB)→Option (Out (ZnE×ZnE×(List ZnB)) Bool)) (t72:Int) (i:Int) (ka:ZnE) (va:ZnE) (back:(List ZnB)) (self:(List ZnB)) (t71:(List ZnB)):Option (Out (ZnE×ZnE×(List ZnB)) Bool):=
 bif (decide (i < t72))then (
  chk (inR i (t71.length:Int)) <|
  (t71[(i).toNat]?).bind fun p=>
  chk (inR 0 2) <|
  chk (inR i (back.length:Int)) <|
  chk (inR 1 2) <|
  (back[(i).toNat]?).bind fun back_e=>
  (ZnZ p.e0 back_e.e1).bind fun q=>
  bif (!q)then (
   ZoU rec_ t72 i true ka va back self t71
  )else (
   chk (inR 1 2) <|
   chk (inR i (back.length:Int)) <|
   chk (inR 0 2) <|
   (back[(i).toNat]?).bind fun back_e_1=>
   (ZnZ p.e1 back_e_1.e0).bind fun q_1=>
   ZoU rec_ t72 i (!q_1) ka va back self t71
  )
 )else (
  some (.brk (ka,va,self))
 )
def Zoe:Nat→Int→Int→ZnE→ZnE→(List ZnB)→(List ZnB)→(List ZnB)→Option (Out (ZnE×ZnE×(List ZnB)) Bool)
 |0,_,_,_,_,_,_,_=>none
 |n_+1,t72,i,ka,va,back,self,t71=>ZoF (Zoe n_) t72 i ka va back self t71
def Zrk (n:Nat) (s:(Int×Int×ZnE×ZnE×(List ZnB)×(List ZnB)×(List ZnB))):Option (Out (ZnE×ZnE×(List ZnB)) Bool):=Zoe n s.1 s.2.1 s.2.2.1 s.2.2.2.1 s.2.2.2.2.1 s.2.2.2.2.2.1 s.2.2.2.2.2.2
def Zpx (rec_:(Int×Int×ZnE×ZnE×(List ZnB)×(List ZnB)×(List ZnB))→Option (Out (ZnE×ZnE×(List ZnB)) Bool)) (s:(Int×Int×ZnE×ZnE×(List ZnB)×(List ZnB)×(List ZnB))):Option (Out (ZnE×ZnE×(List ZnB)) Bool):=ZoF (fun t72 i ka va back self t71=>rec_ (t72,i,ka,va,back,self,t71)) s.1 s.2.1 s.2.2.1 s.2.2.2.1 s.2.2.2.2.1 s.2.2.2.2.2.1 s.2.2.2.2.2.2
theorem Zuj:∀n s,Zrk (n+1) s=Zpx (Zrk n) s:=fun _ _=>rfl
def Zof (t70:Bool) (ka:ZnE) (va:ZnE) (l:(List ZnB)) (back:(List ZnB)) (self:(List ZnB)):Option Bool:=
 bif t70 then (
  some false
 )else (
  (Zoe big (l.length:Int) (0:Int) ka va back self l).bind fun
   | .ret q_=>some q_
   | .brk (x0,x1,x2)=>ZpM x0 x1 x2
 )
def Zo6 (t:(List Int)):Option Bool:=
 (Zsk t).bind fun q=>
 bif (!q)then (
  (Zpk).bind fun q_1=>
  some q_1
 )else (
  (ZsJ t).bind fun d=>
  (ZnS d 8).bind fun(n,t28)=>
  (ZnS t28 8).bind fun(m,t30)=>
  (ZoG t30 n).bind fun(ka,t32)=>
  (ZoG t32 n).bind fun(va,t35)=>
  (ZoG t35 m).bind fun(kb,t38)=>
  (ZoG t38 m).bind fun(vb,t41)=>
  (Zoo ka va kb vb).bind fun l=>
  (Zoo kb vb ka va).bind fun back=>
  (Zoo ka va ka va).bind fun self=>
  bif ((l.length:Int) != (back.length:Int))then (
   Zof true ka va l back self
  )else (
   Zof (decide ((self.length:Int) < (l.length:Int))) ka va l back self
  )
 )
end
end Go.Proofs

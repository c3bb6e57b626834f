/- Printed by wip/tools/tgen.py: specs. -/
import Derived.Test.YtbjnddlpdlfknaaGreatDoorE4
import Derived.Lib.Bytealg
import Derived.Lib.ItoaNum
import Derived.Lib.SlTrimSet
import Derived.Shelf.Strconv.Itoa3
set_option linter.unusedVariables false
set_option linter.unusedSimpArgs false
set_option linter.unusedSectionVars false
namespace Go.Proofs
open Go Eng
set_option maxRecDepth 100000
noncomputable section
structure ZnF where
 Neg:Bool
 Words:(List Int)
 deriving DecidableEq,Inhabited
structure ZnA where
 Num:ZnF
 Den:ZnF
 deriving DecidableEq,Inhabited
structure ZnD where
 Null:Bool
 Text:Str
 deriving DecidableEq,Inhabited
structure ZnO where
 Name:Str
 Cells:(List ZnD)
 deriving DecidableEq,Inhabited
structure Zox where
 word:Str
 canonical:(Option Nat)
 value:(Option Nat)
 deriving DecidableEq,Inhabited
structure ZnB where
 l:(List Int)
 at_:Int
 deriving DecidableEq,Inhabited
def ZvV:Nat→Type
 |0=>ZnF
 |1=>ZnA
 |2=>ZnD
 |3=>ZnO
 |4=>Zox
 |5=>ZnB
 |_=>Unit
def ZCU:Nat→Nat
 |0=>2
 |1=>4
 |2=>2
 |3=>2
 |4=>3
 |5=>2
 |_=>0
def ZwC:List (Lf ZvV):=[⟨.sl (.int .u32),([1]:List Int)⟩]
def Zuc:List (Lf ZvV):=(Lib.pow10Tab.map fun n=>⟨.int .u64,n⟩)
def ZrF (t:(List Int)):Option Bool:=
 some (decide ((t.length:Int)≤500))
def ZtP (w_:(List Int)):Option (List Int):=
 some w_
def ZrM (rec_:(List Int)→Option (List Int)) (w_:(List Int)) (t14:Bool):Option (List Int):=
 bif t14 then (
  chk (inK .i64 ((w_.length:Int) - 1)) <|
  chk (Zb9 0 ((w_.length:Int) - 1) (w_.length:Int)) <|
  rec_ (w_.take (((w_.length:Int) - 1)).toNat)
 )else (
  some w_
 )
def Zs9 (rec_:(List Int)→Option (List Int)) (w_:(List Int)):Option (List Int):=
 bif (decide ((w_.length:Int) > 0))then (
  chk (inK .i64 ((w_.length:Int) - 1)) <|
  (idx w_ ((w_.length:Int) - 1)).bind fun w__e=>
  ZrM rec_ w_ (w__e == 0)
 )else (
  ZrM rec_ w_ false
 )
def Zoj:Nat→(List Int)→Option (List Int)
 |0,_=>none
 |n_+1,w_=>Zs9 (Zoj n_) w_
def ZnV (w_:(List Int)):Option (List Int):=
 (Zoj big w_).bind fun x0=>ZtP x0
def ZqP (t4:ZnF):Option ZnF:=
 some t4
def ZnQ (neg:Bool) (w_:(List Int)):Option ZnF:=
 (ZnV w_).bind fun w__1=>
 bif neg then (
  ZqP (ZnF.mk (decide ((w__1.length:Int) > 0)) w__1)
 )else (
  ZqP (ZnF.mk false w__1)
 )
def ZpG (n:Int) (u:Int) (t2:Bool) (t2_1:(List Int)):Option ZnF:=
 chk (decide (0≤(32:Int))) <|
 (ZnQ (decide (n < 0)) ([(IntKind.wrap .u32 u),(IntKind.wrap .u32 (shrK .u64 u 32))]:(List Int))).bind fun q=>
 some q
def Zok (n:Int):Option ZnF:=
 bif (decide (n < 0))then (
  ZpG n (IntKind.wrap .u64 (0 - (IntKind.wrap .u64 n))) false ([]:(List Int))
 )else (
  ZpG n (IntKind.wrap .u64 n) false ([]:(List Int))
 )
def ZnZ (t2:Bool):Option Bool:=
 some t2
def Zob (a:ZnF):Option Bool:=
 bif (decide ((a.Words.length:Int)≤256))then (
  bif ((a.Words.length:Int) == 0)then (
   bif (!a.Neg)then (
    ZnZ true
   )else (
    bif (decide ((a.Words.length:Int) > 0))then (
     chk (inK .i64 ((a.Words.length:Int) - 1)) <|
     (idx a.Words ((a.Words.length:Int) - 1)).bind fun Word=>
     ZnZ (Word != 0)
    )else (
     ZnZ false
    )
   )
  )else (
   bif (decide ((a.Words.length:Int) > 0))then (
    chk (inK .i64 ((a.Words.length:Int) - 1)) <|
    (idx a.Words ((a.Words.length:Int) - 1)).bind fun Word_1=>
    ZnZ (Word_1 != 0)
   )else (
    ZnZ false
   )
  )
 )else (
  ZnZ false
 )
def ZrN (out:(List Int)):Option (List Int):=
 (ZnV out).bind fun q=>
 some q
def Zpd (rec_:(List Int)→Int→Int→(List Int)→Option (List Int)) (a:(List Int)) (t9:Int) (i:Int) (out:(List Int)):Option (List Int):=
 chk (inK .i64 (i+1)) <|
 rec_ a t9 (i+1) out
def ZpU (rec_:(List Int)→Int→Int→(List Int)→Option (List Int)) (a:(List Int)) (t9:Int) (i:Int) (out:(List Int)):Option (List Int):=
 bif (decide (i < t9))then (
  chk (inR i (out.length:Int)) <|
  (out[(i).toNat]?).bind fun out_e=>
  chk (decide (0≤(1:Int))) <|
  chk (inR i (out.length:Int)) <|
  chk (inK .i64 (i+1)) <|
  bif (decide ((i+1) < (a.length:Int)))then (
   chk (inR i ((out.set ((i).toNat) (shrK .u32 out_e 1)).length:Int)) <|
   ((out.set ((i).toNat) (shrK .u32 out_e 1))[(i).toNat]?).bind fun e_e=>
   chk (inK .i64 (i+1)) <|
   (idx a (i+1)).bind fun a_e=>
   chk (decide (0≤(31:Int))) <|
   chk (inR i ((out.set ((i).toNat) (shrK .u32 out_e 1)).length:Int)) <|
   Zpd rec_ a t9 i ((out.set ((i).toNat) (shrK .u32 out_e 1)).set ((i).toNat) (orK .u32 e_e (shlK .u32 a_e 31)))
  )else (
   Zpd rec_ a t9 i (out.set ((i).toNat) (shrK .u32 out_e 1))
  )
 )else (
  some out
 )
def Zpc:Nat→(List Int)→Int→Int→(List Int)→Option (List Int)
 |0,_,_,_,_=>none
 |n_+1,a,t9,i,out=>ZpU (Zpc n_) a t9 i out
def Zta (n:Nat) (s:((List Int)×Int×Int×(List Int))):Option (List Int):=Zpc n s.1 s.2.1 s.2.2.1 s.2.2.2
def Zrd (rec_:((List Int)×Int×Int×(List Int))→Option (List Int)) (s:((List Int)×Int×Int×(List Int))):Option (List Int):=ZpU (fun a t9 i out=>rec_ (a,t9,i,out)) s.1 s.2.1 s.2.2.1 s.2.2.2
theorem ZuL:∀n s,Zta (n+1) s=Zrd (Zta n) s:=fun _ _=>rfl
def Zop (a:(List Int)):Option (List Int):=
 chk (ZiZ (([]:(List Int)).length+a.length) 4) <|
 (Zpc big a ((([]:(List Int))++a).length:Int) (0:Int) (([]:(List Int))++a)).bind fun x0=>ZrN x0
def Zsi:Option Int:=
 some (0:Int)
def Zp3 (rec_:(List Int)→(List Int)→Int→Option (Out Unit Int)) (a:(List Int)) (b:(List Int)) (i:Int):Option (Out Unit Int):=
 bif (decide (i≥0))then (
  (idx a i).bind fun a_e=>
  (idx b i).bind fun b_e=>
  bif (decide (a_e < b_e))then (
   some (.ret (-1:Int))
  )else (
   (idx a i).bind fun a_e_1=>
   (idx b i).bind fun b_e_1=>
   bif (decide (a_e_1 > b_e_1))then (
    some (.ret (1:Int))
   )else (
    chk (inK .i64 (i - 1)) <|
    rec_ a b (i - 1)
   )
  )
 )else (
  some (.brk ())
 )
def ZqO:Nat→(List Int)→(List Int)→Int→Option (Out Unit Int)
 |0,_,_,_=>none
 |n_+1,a,b,i=>Zp3 (ZqO n_) a b i
def Ztm (n:Nat) (s:((List Int)×(List Int)×Int)):Option (Out Unit Int):=ZqO n s.1 s.2.1 s.2.2
def Zru (rec_:((List Int)×(List Int)×Int)→Option (Out Unit Int)) (s:((List Int)×(List Int)×Int)):Option (Out Unit Int):=Zp3 (fun a b i=>rec_ (a,b,i)) s.1 s.2.1 s.2.2
theorem Zu3:∀n s,Ztm (n+1) s=Zru (Ztm n) s:=fun _ _=>rfl
def Zn3 (a:(List Int)) (b:(List Int)):Option Int:=
 bif ((a.length:Int) != (b.length:Int))then (
  bif (decide ((a.length:Int) < (b.length:Int)))then (
   some (-1:Int)
  )else (
   some (1:Int)
  )
 )else (
  chk (inK .i64 ((a.length:Int) - 1)) <|
  (ZqO big a b ((a.length:Int) - 1)).bind fun
   | .ret q_=>some q_
   | .brk ()=>Zsi
 )
def Zr9 (out:(List Int)):Option (List Int):=
 (ZnV out).bind fun q=>
 some q
def Zpr (rec_:(List Int)→(List Int)→Int→Int→(List Int)→Option (List Int)) (a:(List Int)) (b:(List Int)) (c:Int) (i:Int) (out:(List Int)):Option (List Int):=
 chk (ZiZ (out.length+([(IntKind.wrap .u32 c)]:(List Int)).length) 4) <|
 chk (decide (0≤(32:Int))) <|
 chk (inK .i64 (i+1)) <|
 rec_ a b (shrK .i64 c 32) (i+1) (out++([(IntKind.wrap .u32 c)]:(List Int)))
def ZpZ (rec_:(List Int)→(List Int)→Int→Int→(List Int)→Option (List Int)) (a:(List Int)) (b:(List Int)) (c:Int) (i:Int) (out:(List Int)):Option (List Int):=
 bif (decide (i < (a.length:Int)))then (
  (idx a i).bind fun a_e=>
  chk (inK .i64 (c+(IntKind.wrap .i64 a_e))) <|
  bif (decide (i < (b.length:Int)))then (
   (idx b i).bind fun b_e=>
   chk (inK .i64 ((c+(IntKind.wrap .i64 a_e)) - (IntKind.wrap .i64 b_e))) <|
   Zpr rec_ a b ((c+(IntKind.wrap .i64 a_e)) - (IntKind.wrap .i64 b_e)) i out
  )else (
   Zpr rec_ a b (c+(IntKind.wrap .i64 a_e)) i out
  )
 )else (
  some out
 )
def Zpq:Nat→(List Int)→(List Int)→Int→Int→(List Int)→Option (List Int)
 |0,_,_,_,_,_=>none
 |n_+1,a,b,c,i,out=>ZpZ (Zpq n_) a b c i out
def Zti (n:Nat) (s:((List Int)×(List Int)×Int×Int×(List Int))):Option (List Int):=Zpq n s.1 s.2.1 s.2.2.1 s.2.2.2.1 s.2.2.2.2
def Zro (rec_:((List Int)×(List Int)×Int×Int×(List Int))→Option (List Int)) (s:((List Int)×(List Int)×Int×Int×(List Int))):Option (List Int):=ZpZ (fun a b c i out=>rec_ (a,b,c,i,out)) s.1 s.2.1 s.2.2.1 s.2.2.2.1 s.2.2.2.2
theorem ZuZ:∀n s,Zti (n+1) s=Zro (Zti n) s:=fun _ _=>rfl
def Zov (a:(List Int)) (b:(List Int)):Option (List Int):=
 (Zpq big a b (0:Int) (0:Int) ([]:(List Int))).bind fun x0=>Zr9 x0
def Zrn (d:Int) (out:(List Int)):Option (List Int):=
 chk (ZiZ (out.length+([d]:(List Int)).length) 4) <|
 (ZnV (out++([d]:(List Int)))).bind fun q=>
 some q
def ZpF (rec_:(List Int)→Int→Int→(List Int)→Option (Int×(List Int))) (a:(List Int)) (d:Int) (i:Int) (out:(List Int)):Option (Int×(List Int)):=
 bif (decide (i < (a.length:Int)))then (
  (idx a i).bind fun a_e=>
  chk (decide (0≤(1:Int))) <|
  chk (ZiZ (out.length+([(orK .u32 (shlK .u32 a_e 1) d)]:(List Int)).length) 4) <|
  (idx a i).bind fun a_e_1=>
  chk (decide (0≤(31:Int))) <|
  chk (inK .i64 (i+1)) <|
  rec_ a (shrK .u32 a_e_1 31) (i+1) (out++([(orK .u32 (shlK .u32 a_e 1) d)]:(List Int)))
 )else (
  some (d,out)
 )
def ZpY:Nat→(List Int)→Int→Int→(List Int)→Option (Int×(List Int))
 |0,_,_,_,_=>none
 |n_+1,a,d,i,out=>ZpF (ZpY n_) a d i out
def Zs2 (n:Nat) (s:((List Int)×Int×Int×(List Int))):Option (Int×(List Int)):=ZpY n s.1 s.2.1 s.2.2.1 s.2.2.2
def Zq4 (rec_:((List Int)×Int×Int×(List Int))→Option (Int×(List Int))) (s:((List Int)×Int×Int×(List Int))):Option (Int×(List Int)):=ZpF (fun a d i out=>rec_ (a,d,i,out)) s.1 s.2.1 s.2.2.1 s.2.2.2
theorem ZuA:∀n s,Zs2 (n+1) s=Zq4 (Zs2 n) s:=fun _ _=>rfl
def Zo0 (a:(List Int)) (d:Int):Option (List Int):=
 (ZpY big a d (0:Int) ([]:(List Int))).bind fun(x0,x1)=>Zrn x0 x1
def Zsc (a:(List Int)):Option (List Int):=
 some a
def Zo5 (rec_:(List Int)→Int→Option (List Int)) (a:(List Int)) (k:Int):Option (List Int):=
 bif (decide (k > 0))then (
  (Zo0 a 0).bind fun a_1=>
  chk (inK .i64 (k - 1)) <|
  rec_ a_1 (k - 1)
 )else (
  some a
 )
def ZoQ:Nat→(List Int)→Int→Option (List Int)
 |0,_,_=>none
 |n_+1,a,k=>Zo5 (ZoQ n_) a k
def Zsd (a:(List Int)) (k:Int):Option (List Int):=
 (ZoQ big a k).bind fun x0=>Zsc x0
def ZqM (rec_:(List Int)→(List Int)→Int→Option ((List Int)×Int)) (a:(List Int)) (b:(List Int)) (k:Int):Option ((List Int)×Int):=
 (Zov b a).bind fun b_1=>
 rec_ a b_1 k
def Zse (rec_:(List Int)→(List Int)→Int→Option ((List Int)×Int)) (a:(List Int)) (b:(List Int)) (k:Int):Option ((List Int)×Int):=
 (Zn3 a b).bind fun q=>
 bif (decide (q > 0))then (
  ZqM rec_ b a k
 )else (
  ZqM rec_ a b k
 )
def Zrr (rec_:(List Int)→(List Int)→Int→Option ((List Int)×(List Int)×Int)) (a:(List Int)) (b:(List Int)) (k:Int):Option ((List Int)×(List Int)×Int):=
 (idx b 0).bind fun b_e=>
 bif ((andK .u32 b_e 1) == 0)then (
  (Zop b).bind fun b_1=>
  rec_ a b_1 k
 )else (
  some (a,b,k)
 )
def Zn7:Nat→(List Int)→(List Int)→Int→Option ((List Int)×(List Int)×Int)
 |0,_,_,_=>none
 |n_+1,a,b,k=>Zrr (Zn7 n_) a b k
def Zsf (rec_:(List Int)→(List Int)→Int→Option ((List Int)×Int)) (a:(List Int)) (b:(List Int)) (k:Int):Option ((List Int)×Int):=
 (Zn7 big a b k).bind fun(x0,x1,x2)=>Zse rec_ x0 x1 x2
def Zo6 (rec_:(List Int)→(List Int)→Int→Option ((List Int)×(List Int)×Int)) (a:(List Int)) (b:(List Int)) (k:Int):Option ((List Int)×(List Int)×Int):=
 (idx a 0).bind fun a_e=>
 bif ((andK .u32 a_e 1) == 0)then (
  (Zop a).bind fun a_1=>
  rec_ a_1 b k
 )else (
  some (a,b,k)
 )
def Zn8:Nat→(List Int)→(List Int)→Int→Option ((List Int)×(List Int)×Int)
 |0,_,_,_=>none
 |n_+1,a,b,k=>Zo6 (Zn8 n_) a b k
def Zo7 (rec_:(List Int)→(List Int)→Int→Option ((List Int)×Int)) (a:(List Int)) (b:(List Int)) (k:Int):Option ((List Int)×Int):=
 bif (decide ((b.length:Int) > 0))then (
  (Zn8 big a b k).bind fun(x0,x1,x2)=>Zsf rec_ x0 x1 x2
 )else (
  some (a,k)
 )
def ZnR:Nat→(List Int)→(List Int)→Int→Option ((List Int)×Int)
 |0,_,_,_=>none
 |n_+1,a,b,k=>Zo7 (ZnR n_) a b k
def Zsg (a:(List Int)) (b:(List Int)) (k:Int):Option (List Int):=
 (ZnR big a b k).bind fun(x0,x1)=>Zsd x0 x1
def ZqN (rec_:(List Int)→(List Int)→Int→Option ((List Int)×(List Int)×Int)) (a:(List Int)) (b:(List Int)) (k:Int) (t17:Bool):Option ((List Int)×(List Int)×Int):=
 bif t17 then (
  (Zop a).bind fun a_1=>
  (Zop b).bind fun b_1=>
  chk (inK .i64 (k+1)) <|
  rec_ a_1 b_1 (k+1)
 )else (
  some (a,b,k)
 )
def Zrs (rec_:(List Int)→(List Int)→Int→Option ((List Int)×(List Int)×Int)) (a:(List Int)) (b:(List Int)) (k:Int):Option ((List Int)×(List Int)×Int):=
 (idx a 0).bind fun a_e=>
 bif ((andK .u32 a_e 1) == 0)then (
  (idx b 0).bind fun b_e=>
  ZqN rec_ a b k ((andK .u32 b_e 1) == 0)
 )else (
  ZqN rec_ a b k false
 )
def ZoR:Nat→(List Int)→(List Int)→Int→Option ((List Int)×(List Int)×Int)
 |0,_,_,_=>none
 |n_+1,a,b,k=>Zrs (ZoR n_) a b k
def Zpl (a:(List Int)) (b:(List Int)):Option (List Int):=
 (ZoR big a b (0:Int)).bind fun(x0,x1,x2)=>Zsg x0 x1 x2
def Zqw (a:(List Int)) (i:Int):Option Int:=
 chk (decide ((32:Int)≠0)) <|
 chk (inK .i64 (Int.tdiv i 32)) <|
 (idx a (Int.tdiv i 32)).bind fun a_e=>
 chk (decide ((32:Int)≠0)) <|
 chk (decide (0≤(IntKind.wrap .u64 (Int.tmod i 32)))) <|
 some (andK .u32 (shrK .u32 a_e (IntKind.wrap .u64 (Int.tmod i 32))) 1)
def Zsh (r_:(List Int)) (q:(List Int)):Option ((List Int)×(List Int)):=
 (ZnV q).bind fun q_1=>
 some (q_1,r_)
def Zpv (rec_:(List Int)→(List Int)→(List Int)→Int→(List Int)→Option ((List Int)×(List Int))) (a:(List Int)) (b:(List Int)) (r_:(List Int)) (i:Int) (q:(List Int)):Option ((List Int)×(List Int)):=
 chk (inK .i64 (i - 1)) <|
 rec_ a b r_ (i - 1) q
def Zp2 (rec_:(List Int)→(List Int)→(List Int)→Int→(List Int)→Option ((List Int)×(List Int))) (a:(List Int)) (b:(List Int)) (r_:(List Int)) (i:Int) (q:(List Int)):Option ((List Int)×(List Int)):=
 bif (decide (i≥0))then (
  (Zqw a i).bind fun q_1=>
  (Zo0 r_ q_1).bind fun r__1=>
  (Zn3 r__1 b).bind fun q_2=>
  bif (decide (q_2≥0))then (
   (Zov r__1 b).bind fun r__2=>
   chk (decide ((32:Int)≠0)) <|
   chk (inK .i64 (Int.tdiv i 32)) <|
   chk (inR (Int.tdiv i 32) (q.length:Int)) <|
   (q[((Int.tdiv i 32)).toNat]?).bind fun q_e=>
   chk (decide ((32:Int)≠0)) <|
   chk (decide (0≤(IntKind.wrap .u64 (Int.tmod i 32)))) <|
   chk (inR (Int.tdiv i 32) (q.length:Int)) <|
   Zpv rec_ a b r__2 i (q.set (((Int.tdiv i 32)).toNat) (orK .u32 q_e (shlK .u32 1 (IntKind.wrap .u64 (Int.tmod i 32)))))
  )else (
   Zpv rec_ a b r__1 i q
  )
 )else (
  some (r_,q)
 )
def Zpu:Nat→(List Int)→(List Int)→(List Int)→Int→(List Int)→Option ((List Int)×(List Int))
 |0,_,_,_,_,_=>none
 |n_+1,a,b,r_,i,q=>Zp2 (Zpu n_) a b r_ i q
def Ztl (n:Nat) (s:((List Int)×(List Int)×(List Int)×Int×(List Int))):Option ((List Int)×(List Int)):=Zpu n s.1 s.2.1 s.2.2.1 s.2.2.2.1 s.2.2.2.2
def Zrt (rec_:((List Int)×(List Int)×(List Int)×Int×(List Int))→Option ((List Int)×(List Int))) (s:((List Int)×(List Int)×(List Int)×Int×(List Int))):Option ((List Int)×(List Int)):=Zp2 (fun a b r_ i q=>rec_ (a,b,r_,i,q)) s.1 s.2.1 s.2.2.1 s.2.2.2.1 s.2.2.2.2
theorem Zu2:∀n s,Ztl (n+1) s=Zrt (Ztl n) s:=fun _ _=>rfl
def Zpm (a:(List Int)) (b:(List Int)):Option ((List Int)×(List Int)):=
 chk (mkOk (a.length:Int) (a.length:Int) 4) <|
 chk (inK .i64 (32*(a.length:Int))) <|
 chk (inK .i64 ((32*(a.length:Int)) - 1)) <|
 (Zpu big a b ([]:(List Int)) ((32*(a.length:Int)) - 1) (List.replicate ((a.length:Int)).toNat (0:Int))).bind fun(x0,x1)=>Zsh x0 x1
def ZoP (num:ZnF) (den:ZnF):Option ZnA:=
 bif ((num.Words.length:Int) == 0)then (
  (Zok 1).bind fun q=>
  some (ZnA.mk (ZnF.mk false ([]:(List Int))) q)
 )else (
  (Zpl num.Words den.Words).bind fun g=>
  (Zpm num.Words g).bind fun(x_,q_1)=>
  (Zpm den.Words g).bind fun(y,q_2)=>
  (ZnQ (!(num.Neg == den.Neg)) x_).bind fun q_3=>
  (ZnQ false y).bind fun q_4=>
  some (ZnA.mk q_3 q_4)
 )
def Zqr (t13:Bool) (num:ZnF) (den:ZnF) (t4:Bool) (t4_1:Bool) (t4_2:(List Int)) (t4_3:(List Int)):Option (ZnA×Int):=
 bif t13 then (
  some ((ZnA.mk (ZnF.mk false ([]:(List Int))) (ZnF.mk false ([]:(List Int)))),1)
 )else (
  bif ((den.Words.length:Int) == 0)then (
   some ((ZnA.mk (ZnF.mk false ([]:(List Int))) (ZnF.mk false ([]:(List Int)))),8)
  )else (
   (ZoP num den).bind fun q=>
   some (q,0)
  )
 )
def Zp5 (num:ZnF) (den:ZnF):Option (ZnA×Int):=
 (Zob num).bind fun q=>
 bif (!q)then (
  Zqr true num den false false ([]:(List Int)) ([]:(List Int))
 )else (
  (Zob den).bind fun q_1=>
  Zqr (!q_1) num den false false ([]:(List Int)) ([]:(List Int))
 )
def ZqX (num:Int) (den:Int):Option (ZnA×Int):=
 (Zok num).bind fun q=>
 (Zok den).bind fun q_1=>
 (Zp5 q q_1).bind fun(q_2,q_3)=>
 some (q_2,q_3)
def Zoo (n:Int) (d:Int):Option ZnA:=
 (ZqX n d).bind fun(f,q)=>
 some f
def ZnN (n:Int):Option ZnA:=
 (Zoo n 1).bind fun q=>
 some q
def ZsK (x_:Int) (y:Int):Option (Int×Int):=
 chk (decide (0≤(32:Int))) <|
 chk (decide (0≤(32:Int))) <|
 chk (decide (0≤(32:Int))) <|
 chk (decide (0≤(32:Int))) <|
 chk (decide (0≤(32:Int))) <|
 some ((IntKind.wrap .u64 ((IntKind.wrap .u64 ((IntKind.wrap .u64 ((shrK .u64 x_ 32)*(shrK .u64 y 32)))+(shrK .u64 (IntKind.wrap .u64 ((IntKind.wrap .u64 ((shrK .u64 x_ 32)*(andK .u64 y 4294967295)))+(shrK .u64 (IntKind.wrap .u64 ((andK .u64 x_ 4294967295)*(andK .u64 y 4294967295))) 32))) 32)))+(shrK .u64 (IntKind.wrap .u64 ((andK .u64 (IntKind.wrap .u64 ((IntKind.wrap .u64 ((shrK .u64 x_ 32)*(andK .u64 y 4294967295)))+(shrK .u64 (IntKind.wrap .u64 ((andK .u64 x_ 4294967295)*(andK .u64 y 4294967295))) 32))) 4294967295)+(IntKind.wrap .u64 ((andK .u64 x_ 4294967295)*(shrK .u64 y 32))))) 32))),(IntKind.wrap .u64 (x_*y)))
def ZtK (x y c:Int):Option (Int×Int):=
 chk (decide (0≤c∧c≤1)) <| some ((x+y+c) % 18446744073709551616,(x+y+c) / 18446744073709551616)
def ZtW (x_:Int) (n:Int):Option Int:=
 (idx ([0,1,2,2,3,3,3,3,4,4,4,4,4,4,4,4,5,5,5,5,5,5,5,5,5,5,5,5,5,5,5,5,6,6,6,6,6,6,6,6,6,6,6,6,6,6,6,6,6,6,6,6,6,6,6,6,6,6,6,6,6,6,6,6,7,7,7,7,7,7,7,7,7,7,7,7,7,7,7,7,7,7,7,7,7,7,7,7,7,7,7,7,7,7,7,7,7,7,7,7,7,7,7,7,7,7,7,7,7,7,7,7,7,7,7,7,7,7,7,7,7,7,7,7,7,7,7,7,8,8,8,8,8,8,8,8,8,8,8,8,8,8,8,8,8,8,8,8,8,8,8,8,8,8,8,8,8,8,8,8,8,8,8,8,8,8,8,8,8,8,8,8,8,8,8,8,8,8,8,8,8,8,8,8,8,8,8,8,8,8,8,8,8,8,8,8,8,8,8,8,8,8,8,8,8,8,8,8,8,8,8,8,8,8,8,8,8,8,8,8,8,8,8,8,8,8,8,8,8,8,8,8,8,8,8,8,8,8,8,8,8,8,8,8,8,8,8,8,8,8,8,8,8,8,8,8]:Str) (IntKind.wrap .u8 x_)).bind fun c=>
 chk (inK .i64 (n+(IntKind.wrap .i64 ((c.toNat:Nat):Int)))) <|
 some (n+(IntKind.wrap .i64 ((c.toNat:Nat):Int)))
def ZtX (x_:Int) (n:Int):Option Int:=
 bif (decide (x_≥256))then (
  chk (decide (0≤(8:Int))) <|
  chk (inK .i64 (n+8)) <|
  ZtW (shrK .u64 x_ 8) (n+8)
 )else (
  ZtW x_ n
 )
def ZtY (x_:Int) (n:Int):Option Int:=
 bif (decide (x_≥65536))then (
  chk (decide (0≤(16:Int))) <|
  chk (inK .i64 (n+16)) <|
  ZtX (shrK .u64 x_ 16) (n+16)
 )else (
  ZtX x_ n
 )
def ZtJ (x_:Int):Option Int:=
 bif (decide (x_≥4294967296))then (
  chk (decide (0≤(32:Int))) <|
  ZtY (shrK .u64 x_ 32) (32:Int)
 )else (
  ZtY x_ (0:Int)
 )
def ZrP (x_:Int):Option Int:=
 (ZtJ x_).bind fun q=>
 chk (inK .i64 (64 - q)) <|
 some (64 - q)
def ZuS (y:Int) (s:Int) (un0:Int) (q1:Int) (un21:Int) (q0:Int):Option (Int×Int):=
 chk (decide (0≤s)) <|
 some ((IntKind.wrap .u64 ((IntKind.wrap .u64 (q1*4294967296))+q0)),(shrK .u64 (IntKind.wrap .u64 ((IntKind.wrap .u64 ((IntKind.wrap .u64 (un21*4294967296))+un0)) - (IntKind.wrap .u64 (q0*y)))) s))
def ZtZ (rec_:Int→Int→Int→Int→Int→Int→Int→Int→Int→Option (Int×Int×Int×Int×Int×Int)) (y:Int) (s:Int) (yn1:Int) (yn0:Int) (un0:Int) (q1:Int) (rhat:Int) (un21:Int) (q0:Int) (t113:Bool):Option (Int×Int×Int×Int×Int×Int):=
 bif t113 then (
  bif (decide ((IntKind.wrap .u64 (rhat+yn1))≥4294967296))then (
   some (y,s,un0,q1,un21,(IntKind.wrap .u64 (q0 - 1)))
  )else (
   rec_ y s yn1 yn0 un0 q1 (IntKind.wrap .u64 (rhat+yn1)) un21 (IntKind.wrap .u64 (q0 - 1))
  )
 )else (
  some (y,s,un0,q1,un21,q0)
 )
def ZvQ (rec_:Int→Int→Int→Int→Int→Int→Int→Int→Int→Option (Int×Int×Int×Int×Int×Int)) (y:Int) (s:Int) (yn1:Int) (yn0:Int) (un0:Int) (q1:Int) (rhat:Int) (un21:Int) (q0:Int):Option (Int×Int×Int×Int×Int×Int):=
 bif (decide (q0≥4294967296))then (
  ZtZ rec_ y s yn1 yn0 un0 q1 rhat un21 q0 true
 )else (
  ZtZ rec_ y s yn1 yn0 un0 q1 rhat un21 q0 (decide ((IntKind.wrap .u64 (q0*yn0)) > (IntKind.wrap .u64 ((IntKind.wrap .u64 (4294967296*rhat))+un0))))
 )
def Zsu:Nat→Int→Int→Int→Int→Int→Int→Int→Int→Int→Option (Int×Int×Int×Int×Int×Int)
 |0,_,_,_,_,_,_,_,_,_=>none
 |n_+1,y,s,yn1,yn0,un0,q1,rhat,un21,q0=>ZvQ (Zsu n_) y s yn1 yn0 un0 q1 rhat un21 q0
def ZuT (y:Int) (s:Int) (yn1:Int) (yn0:Int) (un32:Int) (un1:Int) (un0:Int) (q1:Int):Option (Int×Int):=
 chk (decide (yn1≠0)) <|
 (Zsu big y s yn1 yn0 un0 q1 (IntKind.wrap .u64 ((IntKind.wrap .u64 ((IntKind.wrap .u64 ((IntKind.wrap .u64 (un32*4294967296))+un1)) - (IntKind.wrap .u64 (q1*y)))) - (IntKind.wrap .u64 ((IntKind.wrap .u64 (Int.tdiv (IntKind.wrap .u64 ((IntKind.wrap .u64 ((IntKind.wrap .u64 (un32*4294967296))+un1)) - (IntKind.wrap .u64 (q1*y)))) yn1))*yn1)))) (IntKind.wrap .u64 ((IntKind.wrap .u64 ((IntKind.wrap .u64 (un32*4294967296))+un1)) - (IntKind.wrap .u64 (q1*y)))) (IntKind.wrap .u64 (Int.tdiv (IntKind.wrap .u64 ((IntKind.wrap .u64 ((IntKind.wrap .u64 (un32*4294967296))+un1)) - (IntKind.wrap .u64 (q1*y)))) yn1))).bind fun(x0,x1,x2,x3,x4,x5)=>ZuS x0 x1 x2 x3 x4 x5
def Zt0 (rec_:Int→Int→Int→Int→Int→Int→Int→Int→Int→Option (Int×Int×Int×Int×Int×Int×Int×Int)) (y:Int) (s:Int) (yn1:Int) (yn0:Int) (un32:Int) (un1:Int) (un0:Int) (q1:Int) (rhat:Int) (t78:Bool):Option (Int×Int×Int×Int×Int×Int×Int×Int):=
 bif t78 then (
  bif (decide ((IntKind.wrap .u64 (rhat+yn1))≥4294967296))then (
   some (y,s,yn1,yn0,un32,un1,un0,(IntKind.wrap .u64 (q1 - 1)))
  )else (
   rec_ y s yn1 yn0 un32 un1 un0 (IntKind.wrap .u64 (q1 - 1)) (IntKind.wrap .u64 (rhat+yn1))
  )
 )else (
  some (y,s,yn1,yn0,un32,un1,un0,q1)
 )
def ZvR (rec_:Int→Int→Int→Int→Int→Int→Int→Int→Int→Option (Int×Int×Int×Int×Int×Int×Int×Int)) (y:Int) (s:Int) (yn1:Int) (yn0:Int) (un32:Int) (un1:Int) (un0:Int) (q1:Int) (rhat:Int):Option (Int×Int×Int×Int×Int×Int×Int×Int):=
 bif (decide (q1≥4294967296))then (
  Zt0 rec_ y s yn1 yn0 un32 un1 un0 q1 rhat true
 )else (
  Zt0 rec_ y s yn1 yn0 un32 un1 un0 q1 rhat (decide ((IntKind.wrap .u64 (q1*yn0)) > (IntKind.wrap .u64 ((IntKind.wrap .u64 (4294967296*rhat))+un1))))
 )
def Zsv:Nat→Int→Int→Int→Int→Int→Int→Int→Int→Int→Option (Int×Int×Int×Int×Int×Int×Int×Int)
 |0,_,_,_,_,_,_,_,_,_=>none
 |n_+1,y,s,yn1,yn0,un32,un1,un0,q1,rhat=>ZvR (Zsv n_) y s yn1 yn0 un32 un1 un0 q1 rhat
def ZsM (hi:Int) (lo:Int) (y:Int):Option (Int×Int):=
 bif (y == 0)then (
  none
 )else (
  bif (decide (y≤hi))then (
   none
  )else (
   bif (hi == 0)then (
    chk (decide (y≠0)) <|
    chk (decide (y≠0)) <|
    some ((IntKind.wrap .u64 (Int.tdiv lo y)),(Int.tmod lo y))
   )else (
    (ZrP y).bind fun q=>
    chk (decide (0≤(IntKind.wrap .u64 q))) <|
    chk (decide (0≤(32:Int))) <|
    chk (decide (0≤(IntKind.wrap .u64 q))) <|
    chk (decide (0≤(IntKind.wrap .u64 (64 - (IntKind.wrap .u64 q))))) <|
    chk (decide (0≤(IntKind.wrap .u64 q))) <|
    chk (decide (0≤(32:Int))) <|
    chk (decide ((shrK .u64 (shlK .u64 y (IntKind.wrap .u64 q)) 32)≠0)) <|
    (Zsv big (shlK .u64 y (IntKind.wrap .u64 q)) (IntKind.wrap .u64 q) (shrK .u64 (shlK .u64 y (IntKind.wrap .u64 q)) 32) (andK .u64 (shlK .u64 y (IntKind.wrap .u64 q)) 4294967295) (orK .u64 (shlK .u64 hi (IntKind.wrap .u64 q)) (shrK .u64 lo (IntKind.wrap .u64 (64 - (IntKind.wrap .u64 q))))) (shrK .u64 (shlK .u64 lo (IntKind.wrap .u64 q)) 32) (andK .u64 (shlK .u64 lo (IntKind.wrap .u64 q)) 4294967295) (IntKind.wrap .u64 (Int.tdiv (orK .u64 (shlK .u64 hi (IntKind.wrap .u64 q)) (shrK .u64 lo (IntKind.wrap .u64 (64 - (IntKind.wrap .u64 q))))) (shrK .u64 (shlK .u64 y (IntKind.wrap .u64 q)) 32))) (IntKind.wrap .u64 ((orK .u64 (shlK .u64 hi (IntKind.wrap .u64 q)) (shrK .u64 lo (IntKind.wrap .u64 (64 - (IntKind.wrap .u64 q))))) - (IntKind.wrap .u64 ((IntKind.wrap .u64 (Int.tdiv (orK .u64 (shlK .u64 hi (IntKind.wrap .u64 q)) (shrK .u64 lo (IntKind.wrap .u64 (64 - (IntKind.wrap .u64 q))))) (shrK .u64 (shlK .u64 y (IntKind.wrap .u64 q)) 32)))*(shrK .u64 (shlK .u64 y (IntKind.wrap .u64 q)) 32)))))).bind fun(x0,x1,x2,x3,x4,x5,x6,x7)=>ZuT x0 x1 x2 x3 x4 x5 x6 x7
   )
  )
 )
def Zwr (f:ZnA):Option ZnA:=
 chk (ZiZ f.Num.Words.length 4) <|
 chk (ZiZ f.Den.Words.length 4) <|
 some f
def Zr0 (l:(List ZnA)) (p:Int) (q:Int) (t13:Bool) (t6:Bool) (t6_1:Bool) (t6_2:(List Int)) (t6_3:(List Int)):Option (ZnA×Int):=
 bif t13 then (
  some ((ZnA.mk (ZnF.mk false ([]:(List Int))) (ZnF.mk false ([]:(List Int)))),2)
 )else (
  bif ((l.length:Int) == 0)then (
   some ((ZnA.mk (ZnF.mk false ([]:(List Int))) (ZnF.mk false ([]:(List Int)))),5)
  )else (
   (ZsK (IntKind.wrap .u64 (l.length:Int)) (IntKind.wrap .u64 p)).bind fun(high,low)=>
   chk (inK .i64 (q - 1)) <|
   (ZtK low (IntKind.wrap .u64 (q - 1)) 0).bind fun(low_1,carry)=>
   (ZsM (IntKind.wrap .u64 (high+carry)) low_1 (IntKind.wrap .u64 q)).bind fun(k,q_1)=>
   chk (inK .i64 ((if (1:Int) > (IntKind.wrap .i64 k)then (1:Int)else (IntKind.wrap .i64 k)) - 1)) <|
   (idx l ((if (1:Int) > (IntKind.wrap .i64 k)then (1:Int)else (IntKind.wrap .i64 k)) - 1)).bind fun l_e=>
   (Zwr l_e).bind fun q_2=>
   some (q_2,0)
  )
 )
def Zp8 (l:(List ZnA)) (p:Int) (q:Int):Option (ZnA×Int):=
 bif (decide (q < 1))then (
  Zr0 l p q true false false ([]:(List Int)) ([]:(List Int))
 )else (
  bif (decide (p < 0))then (
   Zr0 l p q true false false ([]:(List Int)) ([]:(List Int))
  )else (
   Zr0 l p q (decide (p > q)) false false ([]:(List Int)) ([]:(List Int))
  )
 )
def Zow (t2:Bool):Option Bool:=
 some t2
def ZqJ (a:ZnF):Option Bool:=
 bif (decide ((a.Words.length:Int)≤256))then (
  bif ((a.Words.length:Int) == 0)then (
   bif (!a.Neg)then (
    Zow true
   )else (
    bif (decide ((a.Words.length:Int) > 0))then (
     chk (inK .i64 ((a.Words.length:Int) - 1)) <|
     (idx a.Words ((a.Words.length:Int) - 1)).bind fun Word=>
     Zow (Word != 0)
    )else (
     Zow false
    )
   )
  )else (
   bif (decide ((a.Words.length:Int) > 0))then (
    chk (inK .i64 ((a.Words.length:Int) - 1)) <|
    (idx a.Words ((a.Words.length:Int) - 1)).bind fun Word_1=>
    Zow (Word_1 != 0)
   )else (
    Zow false
   )
  )
 )else (
  Zow false
 )
def Zvq:Option Bool:=
 some true
def Zsz (rec_:(List ZnF)→Int→Int→Option (Out Unit Bool)) (t5:(List ZnF)) (t6:Int) (t7:Int):Option (Out Unit Bool):=
 bif (decide (t7 < t6))then (
  (idx t5 t7).bind fun a=>
  (ZqJ a).bind fun q=>
  bif (!q)then (
   some (.ret false)
  )else (
   chk (inK .i64 (t7+1)) <|
   rec_ t5 t6 (t7+1)
  )
 )else (
  some (.brk ())
 )
def Zte:Nat→(List ZnF)→Int→Int→Option (Out Unit Bool)
 |0,_,_,_=>none
 |n_+1,t5,t6,t7=>Zsz (Zte n_) t5 t6 t7
def ZuU (n:Nat) (s:((List ZnF)×Int×Int)):Option (Out Unit Bool):=Zte n s.1 s.2.1 s.2.2
def Zt1 (rec_:((List ZnF)×Int×Int)→Option (Out Unit Bool)) (s:((List ZnF)×Int×Int)):Option (Out Unit Bool):=Zsz (fun t5 t6 t7=>rec_ (t5,t6,t7)) s.1 s.2.1 s.2.2
theorem Zv0:∀n s,ZuU (n+1) s=Zt1 (ZuU n) s:=fun _ _=>rfl
def ZsR (l:(List ZnF)):Option Bool:=
 (Zte big l (l.length:Int) (0:Int)).bind fun
  | .ret q_=>some q_
  | .brk ()=>Zvq
def ZtB (x_:Int):Option Bool:=
 some (x_ != x_)
def ZsS (x_:Int) (y:Int):Option Int:=
 (ZtB x_).bind fun xNaN=>
 (ZtB y).bind fun yNaN=>
 bif xNaN then (
  bif yNaN then (
   some (0:Int)
  )else (
   some (-1:Int)
  )
 )else (
  bif yNaN then (
   some (1:Int)
  )else (
   bif (decide (x_ < y))then (
    some (-1:Int)
   )else (
    bif (decide (x_ > y))then (
     some (1:Int)
    )else (
     some (0:Int)
    )
   )
  )
 )
def Ztf (x_:Int):Option Bool:=
 some (x_ != x_)
def ZsA (x_:Int) (y:Int):Option Int:=
 (Ztf x_).bind fun xNaN=>
 (Ztf y).bind fun yNaN=>
 bif xNaN then (
  bif yNaN then (
   some (0:Int)
  )else (
   some (-1:Int)
  )
 )else (
  bif yNaN then (
   some (1:Int)
  )else (
   bif (decide (x_ < y))then (
    some (-1:Int)
   )else (
    bif (decide (x_ > y))then (
     some (1:Int)
    )else (
     some (0:Int)
    )
   )
  )
 )
def ZrB:Option Int:=
 some (0:Int)
def ZpJ (rec_:(List Int)→(List Int)→Int→Option (Out Unit Int)) (w_:(List Int)) (v_:(List Int)) (i:Int):Option (Out Unit Int):=
 bif (decide (i≥0))then (
  (idx w_ i).bind fun w__e=>
  (idx v_ i).bind fun v__e=>
  (ZsA w__e v__e).bind fun c=>
  bif (c != 0)then (
   some (.ret c)
  )else (
   chk (inK .i64 (i - 1)) <|
   rec_ w_ v_ (i - 1)
  )
 )else (
  some (.brk ())
 )
def Zqg:Nat→(List Int)→(List Int)→Int→Option (Out Unit Int)
 |0,_,_,_=>none
 |n_+1,w_,v_,i=>ZpJ (Zqg n_) w_ v_ i
def Zs4 (n:Nat) (s:((List Int)×(List Int)×Int)):Option (Out Unit Int):=Zqg n s.1 s.2.1 s.2.2
def Zq8 (rec_:((List Int)×(List Int)×Int)→Option (Out Unit Int)) (s:((List Int)×(List Int)×Int)):Option (Out Unit Int):=ZpJ (fun w_ v_ i=>rec_ (w_,v_,i)) s.1 s.2.1 s.2.2
theorem ZuC:∀n s,Zs4 (n+1) s=Zq8 (Zs4 n) s:=fun _ _=>rfl
def Zoi (w_:(List Int)) (v_:(List Int)):Option Int:=
 (ZsS (w_.length:Int) (v_.length:Int)).bind fun c=>
 bif (c != 0)then (
  some c
 )else (
  chk (inK .i64 ((w_.length:Int) - 1)) <|
  (Zqg big w_ v_ ((w_.length:Int) - 1)).bind fun
   | .ret q_=>some q_
   | .brk ()=>ZrB
 )
def ZnI (s:(List Int)) (t4:Bool):Option (List Int):=
 bif t4 then (
  some ([]:(List Int))
 )else (
  chk (ZiZ (([]:(List Int)).length+s.length) 4) <|
  some (([]:(List Int))++s)
 )
def Zn9 (s:(List Int)):Option (List Int):=
 bif (List.isEmpty s)then agree (
  ZnI s true
 ) (
  ZnI s false
 )else (
  ZnI s false
 )
def Zrc (hi:Int) (lo:Int) (y:Int) (t15:Bool):Option (Int×Int):=
 bif t15 then (
  none
 )else (
  chk (decide (0≤(32:Int))) <|
  chk (decide ((IntKind.wrap .u64 y)≠0)) <|
  chk (decide ((IntKind.wrap .u64 y)≠0)) <|
  some ((IntKind.wrap .u32 (IntKind.wrap .u64 (Int.tdiv (orK .u64 (shlK .u64 (IntKind.wrap .u64 hi) 32) (IntKind.wrap .u64 lo)) (IntKind.wrap .u64 y)))),(IntKind.wrap .u32 (Int.tmod (orK .u64 (shlK .u64 (IntKind.wrap .u64 hi) 32) (IntKind.wrap .u64 lo)) (IntKind.wrap .u64 y))))
 )
def ZsN (hi:Int) (lo:Int) (y:Int):Option (Int×Int):=
 bif (y != 0)then (
  Zrc hi lo y (decide (y≤hi))
 )else (
  Zrc hi lo y false
 )
def Ztt (w_:(List Int)):Option (List Int):=
 some w_
def Zr2 (rec_:(List Int)→Option (List Int)) (w_:(List Int)) (t14:Bool):Option (List Int):=
 bif t14 then (
  chk (inK .i64 ((w_.length:Int) - 1)) <|
  chk (Zb9 0 ((w_.length:Int) - 1) (w_.length:Int)) <|
  rec_ (w_.take (((w_.length:Int) - 1)).toNat)
 )else (
  some w_
 )
def Zri (rec_:(List Int)→Option (List Int)) (w_:(List Int)):Option (List Int):=
 bif (decide ((w_.length:Int) > 0))then (
  chk (inK .i64 ((w_.length:Int) - 1)) <|
  (idx w_ ((w_.length:Int) - 1)).bind fun w__e=>
  Zr2 rec_ w_ (w__e == 0)
 )else (
  Zr2 rec_ w_ false
 )
def ZoG:Nat→(List Int)→Option (List Int)
 |0,_=>none
 |n_+1,w_=>Zri (ZoG n_) w_
def Zum (n:Nat) (s:(List Int)):Option (List Int):=ZoG n s
def Zun (rec_:(List Int)→Option (List Int)) (s:(List Int)):Option (List Int):=Zri (fun w_=>rec_ w_) s
theorem ZvB:∀n s,Zum (n+1) s=Zun (Zum n) s:=fun _ _=>rfl
def ZnX (w_:(List Int)):Option (List Int):=
 (ZoG big w_).bind fun x0=>Ztt x0
def Zsm (rest:Int) (out:(List Int)):Option ((List Int)×Int):=
 (ZnX out).bind fun q=>
 some (q,rest)
def Zqd (rec_:(List Int)→Int→Int→Int→(List Int)→Option (Int×(List Int))) (w_:(List Int)) (d:Int) (rest:Int) (i:Int) (out:(List Int)):Option (Int×(List Int)):=
 bif (decide (i≥0))then (
  (idx w_ i).bind fun w__e=>
  (ZsN rest w__e d).bind fun(q,rest_1)=>
  chk (inR i (out.length:Int)) <|
  chk (inK .i64 (i - 1)) <|
  rec_ w_ d rest_1 (i - 1) (out.set ((i).toNat) q)
 )else (
  some (rest,out)
 )
def ZqT:Nat→(List Int)→Int→Int→Int→(List Int)→Option (Int×(List Int))
 |0,_,_,_,_,_=>none
 |n_+1,w_,d,rest,i,out=>Zqd (ZqT n_) w_ d rest i out
def Ztq (n:Nat) (s:((List Int)×Int×Int×Int×(List Int))):Option (Int×(List Int)):=ZqT n s.1 s.2.1 s.2.2.1 s.2.2.2.1 s.2.2.2.2
def Zry (rec_:((List Int)×Int×Int×Int×(List Int))→Option (Int×(List Int))) (s:((List Int)×Int×Int×Int×(List Int))):Option (Int×(List Int)):=Zqd (fun w_ d rest i out=>rec_ (w_,d,rest,i,out)) s.1 s.2.1 s.2.2.1 s.2.2.2.1 s.2.2.2.2
theorem Zu8:∀n s,Ztq (n+1) s=Zry (Ztq n) s:=fun _ _=>rfl
def ZqA (w_:(List Int)) (d:Int):Option ((List Int)×Int):=
 chk (mkOk (w_.length:Int) (w_.length:Int) 4) <|
 chk (inK .i64 ((w_.length:Int) - 1)) <|
 (ZqT big w_ d (0:Int) ((w_.length:Int) - 1) (List.replicate ((w_.length:Int)).toNat (0:Int))).bind fun(x0,x1)=>Zsm x0 x1
def Zql (x_:Int) (n:Int):Option Int:=
 (idx ([0,1,2,2,3,3,3,3,4,4,4,4,4,4,4,4,5,5,5,5,5,5,5,5,5,5,5,5,5,5,5,5,6,6,6,6,6,6,6,6,6,6,6,6,6,6,6,6,6,6,6,6,6,6,6,6,6,6,6,6,6,6,6,6,7,7,7,7,7,7,7,7,7,7,7,7,7,7,7,7,7,7,7,7,7,7,7,7,7,7,7,7,7,7,7,7,7,7,7,7,7,7,7,7,7,7,7,7,7,7,7,7,7,7,7,7,7,7,7,7,7,7,7,7,7,7,7,7,8,8,8,8,8,8,8,8,8,8,8,8,8,8,8,8,8,8,8,8,8,8,8,8,8,8,8,8,8,8,8,8,8,8,8,8,8,8,8,8,8,8,8,8,8,8,8,8,8,8,8,8,8,8,8,8,8,8,8,8,8,8,8,8,8,8,8,8,8,8,8,8,8,8,8,8,8,8,8,8,8,8,8,8,8,8,8,8,8,8,8,8,8,8,8,8,8,8,8,8,8,8,8,8,8,8,8,8,8,8,8,8,8,8,8,8,8,8,8,8,8,8,8,8,8,8,8,8]:Str) (IntKind.wrap .u8 x_)).bind fun c=>
 chk (inK .i64 (n+(IntKind.wrap .i64 ((c.toNat:Nat):Int)))) <|
 some (n+(IntKind.wrap .i64 ((c.toNat:Nat):Int)))
def Zst (x_:Int) (n:Int):Option Int:=
 bif (decide (x_≥256))then (
  chk (decide (0≤(8:Int))) <|
  chk (inK .i64 (n+8)) <|
  Zql (shrK .u32 x_ 8) (n+8)
 )else (
  Zql x_ n
 )
def ZsL (x_:Int):Option Int:=
 bif (decide (x_≥65536))then (
  chk (decide (0≤(16:Int))) <|
  Zst (shrK .u32 x_ 16) (16:Int)
 )else (
  Zst x_ (0:Int)
 )
def Zpf (x_:Int):Option Int:=
 (ZsL x_).bind fun q=>
 chk (inK .i64 (32 - q)) <|
 some (32 - q)
def Zrz (out:(List Int)):Option (List Int):=
 some out
def ZpI (rec_:Int→(List Int)→Int→Int→(List Int)→Option (List Int)) (n:Int) (t13:(List Int)) (t14:Int) (i:Int) (out:(List Int)):Option (List Int):=
 bif (decide (i < t14))then (
  (idx t13 i).bind fun d=>
  chk (decide (0≤n)) <|
  chk (inR i (out.length:Int)) <|
  (out[(i).toNat]?).bind fun out_e=>
  chk (inR i (out.length:Int)) <|
  chk (inK .i64 (i+1)) <|
  chk (decide (0≤(32:Int))) <|
  chk (inR (i+1) ((out.set ((i).toNat) (orK .u32 out_e (IntKind.wrap .u32 (shlK .u64 (IntKind.wrap .u64 d) n)))).length:Int)) <|
  chk (inK .i64 (i+1)) <|
  rec_ n t13 t14 (i+1) ((out.set ((i).toNat) (orK .u32 out_e (IntKind.wrap .u32 (shlK .u64 (IntKind.wrap .u64 d) n)))).set (((i+1)).toNat) (IntKind.wrap .u32 (shrK .u64 (shlK .u64 (IntKind.wrap .u64 d) n) 32)))
 )else (
  some out
 )
def Zqe:Nat→Int→(List Int)→Int→Int→(List Int)→Option (List Int)
 |0,_,_,_,_,_=>none
 |n_+1,n,t13,t14,i,out=>ZpI (Zqe n_) n t13 t14 i out
def Zs3 (n:Nat) (s:(Int×(List Int)×Int×Int×(List Int))):Option (List Int):=Zqe n s.1 s.2.1 s.2.2.1 s.2.2.2.1 s.2.2.2.2
def Zq7 (rec_:(Int×(List Int)×Int×Int×(List Int))→Option (List Int)) (s:(Int×(List Int)×Int×Int×(List Int))):Option (List Int):=ZpI (fun n t13 t14 i out=>rec_ (n,t13,t14,i,out)) s.1 s.2.1 s.2.2.1 s.2.2.2.1 s.2.2.2.2
theorem ZuB:∀n s,Zs3 (n+1) s=Zq7 (Zs3 n) s:=fun _ _=>rfl
def ZoF (w_:(List Int)) (n:Int):Option (List Int):=
 chk (inK .i64 ((w_.length:Int)+1)) <|
 chk (mkOk ((w_.length:Int)+1) ((w_.length:Int)+1) 4) <|
 (Zqe big n w_ (w_.length:Int) (0:Int) (List.replicate (((w_.length:Int)+1)).toNat (0:Int))).bind fun x0=>Zrz x0
def ZqF (x_:Int) (y:Int) (borrow:Int):Option (Int×Int):=
 chk (decide (0≤(31:Int))) <|
 some ((IntKind.wrap .u32 ((IntKind.wrap .u32 (x_ - y)) - borrow)),(shrK .u32 (orK .u32 (andK .u32 (xorK .u32 (if IntKind.signed .u32 then -1 else IntKind.max .u32) x_) y) (andK .u32 (xorK .u32 (if IntKind.signed .u32 then -1 else IntKind.max .u32) (xorK .u32 x_ y)) (IntKind.wrap .u32 ((IntKind.wrap .u32 (x_ - y)) - borrow)))) 31))
def Zrl (x_:Int) (y:Int) (carry:Int):Option (Int×Int):=
 chk (decide (0≤(32:Int))) <|
 some ((IntKind.wrap .u32 (IntKind.wrap .u64 ((IntKind.wrap .u64 ((IntKind.wrap .u64 x_)+(IntKind.wrap .u64 y)))+(IntKind.wrap .u64 carry)))),(IntKind.wrap .u32 (shrK .u64 (IntKind.wrap .u64 ((IntKind.wrap .u64 ((IntKind.wrap .u64 x_)+(IntKind.wrap .u64 y)))+(IntKind.wrap .u64 carry))) 32)))
def ZsX (u_off:Nat) (u_len:Nat) (n:Int) (guess:Int) (add:Int) (u:(List Int)):Option (Int×(List Int)):=
 chk (inR n (u_len:Int)) <|
 (u[(u_off+(n).toNat)]?).bind fun u_e=>
 chk (inR n (u_len:Int)) <|
 some ((IntKind.wrap .u32 (IntKind.wrap .u64 (guess - 1))),(u.set (u_off+(n).toNat) (IntKind.wrap .u32 (u_e+add))))
def Zr3 (rec_:Nat→Nat→Int→Int→Int→(List Int)→Int→Int→(List Int)→Option (Nat×Nat×Int×Int×Int×(List Int))) (u_off:Nat) (u_len:Nat) (n:Int) (guess:Int) (add:Int) (t130:(List Int)) (t131:Int) (i:Int) (u:(List Int)):Option (Nat×Nat×Int×Int×Int×(List Int)):=
 bif (decide (i < t131))then (
  (idx t130 i).bind fun x_=>
  chk (inR i (u_len:Int)) <|
  (u[(u_off+(i).toNat)]?).bind fun u_e=>
  (Zrl u_e x_ add).bind fun(q,add_1)=>
  chk (inR i (u_len:Int)) <|
  chk (inK .i64 (i+1)) <|
  rec_ u_off u_len n guess add_1 t130 t131 (i+1) (u.set (u_off+(i).toNat) q)
 )else (
  some (u_off,u_len,n,guess,add,u)
 )
def ZrD:Nat→Nat→Nat→Int→Int→Int→(List Int)→Int→Int→(List Int)→Option (Nat×Nat×Int×Int×Int×(List Int))
 |0,_,_,_,_,_,_,_,_,_=>none
 |n_+1,u_off,u_len,n,guess,add,t130,t131,i,u=>Zr3 (ZrD n_) u_off u_len n guess add t130 t131 i u
def ZuD (n:Nat) (s:(Nat×Nat×Int×Int×Int×(List Int)×Int×Int×(List Int))):Option (Nat×Nat×Int×Int×Int×(List Int)):=ZrD n s.1 s.2.1 s.2.2.1 s.2.2.2.1 s.2.2.2.2.1 s.2.2.2.2.2.1 s.2.2.2.2.2.2.1 s.2.2.2.2.2.2.2.1 s.2.2.2.2.2.2.2.2
def Ztu (rec_:(Nat×Nat×Int×Int×Int×(List Int)×Int×Int×(List Int))→Option (Nat×Nat×Int×Int×Int×(List Int))) (s:(Nat×Nat×Int×Int×Int×(List Int)×Int×Int×(List Int))):Option (Nat×Nat×Int×Int×Int×(List Int)):=Zr3 (fun u_off u_len n guess add t130 t131 i u=>rec_ (u_off,u_len,n,guess,add,t130,t131,i,u)) s.1 s.2.1 s.2.2.1 s.2.2.2.1 s.2.2.2.2.1 s.2.2.2.2.2.1 s.2.2.2.2.2.2.1 s.2.2.2.2.2.2.2.1 s.2.2.2.2.2.2.2.2
theorem ZvS:∀n s,ZuD (n+1) s=Ztu (ZuD n) s:=fun _ _=>rfl
def Zt8 (u_off:Nat) (u_len:Nat) (d:(List Int)) (n:Int) (guess:Int) (borrow:Int) (carry:Int) (u:(List Int)):Option (Int×(List Int)):=
 chk (inR n (u_len:Int)) <|
 (u[(u_off+(n).toNat)]?).bind fun u_e=>
 (ZqF u_e (IntKind.wrap .u32 carry) borrow).bind fun(q,borrow_1)=>
 chk (inR n (u_len:Int)) <|
 bif (borrow_1 == 0)then (
  some ((IntKind.wrap .u32 guess),(u.set (u_off+(n).toNat) q))
 )else (
  (ZrD big u_off u_len n guess (0:Int) d (d.length:Int) (0:Int) (u.set (u_off+(n).toNat) q)).bind fun(x0,x1,x2,x3,x4,x5)=>ZsX x0 x1 x2 x3 x4 x5
 )
def Zr4 (rec_:Nat→Nat→(List Int)→Int→Int→Int→Int→(List Int)→Int→Int→(List Int)→Option (Nat×Nat×(List Int)×Int×Int×Int×Int×(List Int))) (u_off:Nat) (u_len:Nat) (d:(List Int)) (n:Int) (guess:Int) (borrow:Int) (carry:Int) (t82:(List Int)) (t83:Int) (i:Int) (u:(List Int)):Option (Nat×Nat×(List Int)×Int×Int×Int×Int×(List Int)):=
 bif (decide (i < t83))then (
  (idx t82 i).bind fun x_=>
  chk (inR i (u_len:Int)) <|
  (u[(u_off+(i).toNat)]?).bind fun u_e=>
  (ZqF u_e (IntKind.wrap .u32 (IntKind.wrap .u64 (carry+(IntKind.wrap .u64 (guess*(IntKind.wrap .u64 x_)))))) borrow).bind fun(q,borrow_1)=>
  chk (inR i (u_len:Int)) <|
  chk (decide (0≤(32:Int))) <|
  chk (inK .i64 (i+1)) <|
  rec_ u_off u_len d n guess borrow_1 (shrK .u64 (IntKind.wrap .u64 (carry+(IntKind.wrap .u64 (guess*(IntKind.wrap .u64 x_))))) 32) t82 t83 (i+1) (u.set (u_off+(i).toNat) q)
 )else (
  some (u_off,u_len,d,n,guess,borrow,carry,u)
 )
def ZsW:Nat→Nat→Nat→(List Int)→Int→Int→Int→Int→(List Int)→Int→Int→(List Int)→Option (Nat×Nat×(List Int)×Int×Int×Int×Int×(List Int))
 |0,_,_,_,_,_,_,_,_,_,_,_=>none
 |n_+1,u_off,u_len,d,n,guess,borrow,carry,t82,t83,i,u=>Zr4 (ZsW n_) u_off u_len d n guess borrow carry t82 t83 i u
def ZuE (n:Nat) (s:(Nat×Nat×(List Int)×Int×Int×Int×Int×(List Int)×Int×Int×(List Int))):Option (Nat×Nat×(List Int)×Int×Int×Int×Int×(List Int)):=ZsW n s.1 s.2.1 s.2.2.1 s.2.2.2.1 s.2.2.2.2.1 s.2.2.2.2.2.1 s.2.2.2.2.2.2.1 s.2.2.2.2.2.2.2.1 s.2.2.2.2.2.2.2.2.1 s.2.2.2.2.2.2.2.2.2.1 s.2.2.2.2.2.2.2.2.2.2
def Ztv (rec_:(Nat×Nat×(List Int)×Int×Int×Int×Int×(List Int)×Int×Int×(List Int))→Option (Nat×Nat×(List Int)×Int×Int×Int×Int×(List Int))) (s:(Nat×Nat×(List Int)×Int×Int×Int×Int×(List Int)×Int×Int×(List Int))):Option (Nat×Nat×(List Int)×Int×Int×Int×Int×(List Int)):=Zr4 (fun u_off u_len d n guess borrow carry t82 t83 i u=>rec_ (u_off,u_len,d,n,guess,borrow,carry,t82,t83,i,u)) s.1 s.2.1 s.2.2.1 s.2.2.2.1 s.2.2.2.2.1 s.2.2.2.2.2.1 s.2.2.2.2.2.2.1 s.2.2.2.2.2.2.2.1 s.2.2.2.2.2.2.2.2.1 s.2.2.2.2.2.2.2.2.2.1 s.2.2.2.2.2.2.2.2.2.2
theorem ZvT:∀n s,ZuE (n+1) s=Ztv (ZuE n) s:=fun _ _=>rfl
def ZsY (u_off:Nat) (u_len:Nat) (d:(List Int)) (n:Int) (guess:Int) (u:(List Int)):Option (Int×(List Int)):=
 (ZsW big u_off u_len d n guess (0:Int) (0:Int) d (d.length:Int) (0:Int) u).bind fun(x0,x1,x2,x3,x4,x5,x6,x7)=>Zt8 x0 x1 x2 x3 x4 x5 x6 x7
def ZrE (rec_:Nat→Nat→(List Int)→Int→Int→Int→(List Int)→Option (Nat×Nat×(List Int)×Int×Int×(List Int))) (u_off:Nat) (u_len:Nat) (d:(List Int)) (n:Int) (guess:Int) (rest:Int) (t71:Bool) (u:(List Int)):Option (Nat×Nat×(List Int)×Int×Int×(List Int)):=
 bif t71 then (
  chk (inK .i64 (n - 1)) <|
  (idx d (n - 1)).bind fun d_e=>
  rec_ u_off u_len d n (IntKind.wrap .u64 (guess - 1)) (IntKind.wrap .u64 (rest+(IntKind.wrap .u64 d_e))) u
 )else (
  some (u_off,u_len,d,n,guess,u)
 )
def Ztw (rec_:Nat→Nat→(List Int)→Int→Int→Int→(List Int)→Option (Nat×Nat×(List Int)×Int×Int×(List Int))) (u_off:Nat) (u_len:Nat) (d:(List Int)) (n:Int) (guess:Int) (rest:Int) (u:(List Int)):Option (Nat×Nat×(List Int)×Int×Int×(List Int)):=
 bif (decide (rest < 4294967296))then (
  chk (inK .i64 (n - 2)) <|
  (idx d (n - 2)).bind fun d_e=>
  chk (decide (0≤(32:Int))) <|
  chk (inK .i64 (n - 2)) <|
  chk (inR (n - 2) (u_len:Int)) <|
  (u[(u_off+((n - 2)).toNat)]?).bind fun u_e=>
  ZrE rec_ u_off u_len d n guess rest (decide ((IntKind.wrap .u64 (guess*(IntKind.wrap .u64 d_e))) > (orK .u64 (shlK .u64 rest 32) (IntKind.wrap .u64 u_e)))) u
 )else (
  ZrE rec_ u_off u_len d n guess rest false u
 )
def ZqH:Nat→Nat→Nat→(List Int)→Int→Int→Int→(List Int)→Option (Nat×Nat×(List Int)×Int×Int×(List Int))
 |0,_,_,_,_,_,_,_=>none
 |n_+1,u_off,u_len,d,n,guess,rest,u=>Ztw (ZqH n_) u_off u_len d n guess rest u
def ZuF (n:Nat) (s:(Nat×Nat×(List Int)×Int×Int×Int×(List Int))):Option (Nat×Nat×(List Int)×Int×Int×(List Int)):=ZqH n s.1 s.2.1 s.2.2.1 s.2.2.2.1 s.2.2.2.2.1 s.2.2.2.2.2.1 s.2.2.2.2.2.2
def ZuG (rec_:(Nat×Nat×(List Int)×Int×Int×Int×(List Int))→Option (Nat×Nat×(List Int)×Int×Int×(List Int))) (s:(Nat×Nat×(List Int)×Int×Int×Int×(List Int))):Option (Nat×Nat×(List Int)×Int×Int×(List Int)):=Ztw (fun u_off u_len d n guess rest u=>rec_ (u_off,u_len,d,n,guess,rest,u)) s.1 s.2.1 s.2.2.1 s.2.2.2.1 s.2.2.2.2.1 s.2.2.2.2.2.1 s.2.2.2.2.2.2
theorem ZvU:∀n s,ZuF (n+1) s=ZuG (ZuF n) s:=fun _ _=>rfl
def Zt6 (u:(List Int)) (u_off:Nat) (u_len:Nat) (d:(List Int)):Option (Int×(List Int)):=
 chk (inR (d.length:Int) (u_len:Int)) <|
 (u[(u_off+((d.length:Int)).toNat)]?).bind fun u_e=>
 chk (decide (0≤(32:Int))) <|
 chk (inK .i64 ((d.length:Int) - 1)) <|
 chk (inR ((d.length:Int) - 1) (u_len:Int)) <|
 (u[(u_off+(((d.length:Int) - 1)).toNat)]?).bind fun u_e_1=>
 chk (inK .i64 ((d.length:Int) - 1)) <|
 (idx d ((d.length:Int) - 1)).bind fun d_e=>
 chk (decide ((IntKind.wrap .u64 d_e)≠0)) <|
 chk (inK .i64 ((d.length:Int) - 1)) <|
 (idx d ((d.length:Int) - 1)).bind fun d_e_1=>
 (ZqH big u_off u_len d (d.length:Int) (if (4294967295:Int) < (IntKind.wrap .u64 (Int.tdiv (orK .u64 (shlK .u64 (IntKind.wrap .u64 u_e) 32) (IntKind.wrap .u64 u_e_1)) (IntKind.wrap .u64 d_e)))then (4294967295:Int)else (IntKind.wrap .u64 (Int.tdiv (orK .u64 (shlK .u64 (IntKind.wrap .u64 u_e) 32) (IntKind.wrap .u64 u_e_1)) (IntKind.wrap .u64 d_e)))) (IntKind.wrap .u64 ((orK .u64 (shlK .u64 (IntKind.wrap .u64 u_e) 32) (IntKind.wrap .u64 u_e_1)) - (IntKind.wrap .u64 ((if (4294967295:Int) < (IntKind.wrap .u64 (Int.tdiv (orK .u64 (shlK .u64 (IntKind.wrap .u64 u_e) 32) (IntKind.wrap .u64 u_e_1)) (IntKind.wrap .u64 d_e)))then (4294967295:Int)else (IntKind.wrap .u64 (Int.tdiv (orK .u64 (shlK .u64 (IntKind.wrap .u64 u_e) 32) (IntKind.wrap .u64 u_e_1)) (IntKind.wrap .u64 d_e))))*(IntKind.wrap .u64 d_e_1))))) u).bind fun(x0,x1,x2,x3,x4,x5)=>ZsY x0 x1 x2 x3 x4 x5
def Ztd (u:(List Int)) (u_off:Nat) (u_len:Nat) (d:(List Int)):Option (Int×(List Int)):=
 (Zt6 u u_off u_len d).bind fun r=>chk (decide (r.2.length=u.length)&&true) (some r)
def ZsV (w_off:Nat) (w_len:Nat) (w_:(List Int)):Option (Nat×Nat×(List Int)):=
 some (w_off,w_len,w_)
def Zrj (rec_:Nat→Nat→(List Int)→Option (Nat×Nat×(List Int))) (w_off:Nat) (w_len:Nat) (t14:Bool) (w_:(List Int)):Option (Nat×Nat×(List Int)):=
 bif t14 then (
  chk (inK .i64 (((w_len:Nat):Int) - 1)) <|
  chk (Zb9 0 (((w_len:Nat):Int) - 1) (w_len:Int)) <|
  rec_ (w_off+0) (((((w_len:Nat):Int) - 1)).toNat - 0) w_
 )else (
  some (w_off,w_len,w_)
 )
def Zso (rec_:Nat→Nat→(List Int)→Option (Nat×Nat×(List Int))) (w_off:Nat) (w_len:Nat) (w_:(List Int)):Option (Nat×Nat×(List Int)):=
 bif (decide (((w_len:Nat):Int) > 0))then (
  chk (inK .i64 (((w_len:Nat):Int) - 1)) <|
  chk (inR (((w_len:Nat):Int) - 1) (w_len:Int)) <|
  (w_[(w_off+((((w_len:Nat):Int) - 1)).toNat)]?).bind fun w__e=>
  Zrj rec_ w_off w_len (w__e == 0) w_
 )else (
  Zrj rec_ w_off w_len false w_
 )
def Zqh:Nat→Nat→Nat→(List Int)→Option (Nat×Nat×(List Int))
 |0,_,_,_=>none
 |n_+1,w_off,w_len,w_=>Zso (Zqh n_) w_off w_len w_
def Zt3 (n:Nat) (s:(Nat×Nat×(List Int))):Option (Nat×Nat×(List Int)):=Zqh n s.1 s.2.1 s.2.2
def Zt4 (rec_:(Nat×Nat×(List Int))→Option (Nat×Nat×(List Int))) (s:(Nat×Nat×(List Int))):Option (Nat×Nat×(List Int)):=Zso (fun w_off w_len w_=>rec_ (w_off,w_len,w_)) s.1 s.2.1 s.2.2
theorem Zvp:∀n s,Zt3 (n+1) s=Zt4 (Zt3 n) s:=fun _ _=>rfl
def Zsw (w_:(List Int)) (w_off:Nat) (w_len:Nat):Option (Nat×Nat×(List Int)):=
 (Zqh big w_off w_len w_).bind fun(x0,x1,x2)=>ZsV x0 x1 x2
def ZrJ (w_:(List Int)) (w_off:Nat) (w_len:Nat):Option (Nat×Nat×(List Int)):=
 (Zsw w_ w_off w_len).bind fun r=>chk (decide (r.2.2.length=w_.length)&&true) (some r)
def ZpN (w_:(List Int)) (i:Int):Option Int:=
 bif (decide (i < (w_.length:Int)))then (
  (idx w_ i).bind fun w__e=>
  some w__e
 )else (
  some (0:Int)
 )
def Zts (w_:(List Int)) (w_off:Nat) (w_len:Nat) (i:Int):Option (Int×(List Int)):=
 bif (decide (i < ((w_len:Nat):Int)))then (
  chk (inR i (w_len:Int)) <|
  (w_[(w_off+(i).toNat)]?).bind fun w__e=>
  some (w__e,w_)
 )else (
  some (0,w_)
 )
def Zrh (w_:(List Int)) (w_off:Nat) (w_len:Nat) (i:Int):Option (Int×(List Int)):=
 (Zts w_ w_off w_len i).bind fun r=>chk (decide (r.2.length=w_.length)&&true) (some r)
def ZsP (rest_off:Nat) (rest_len:Nat) (q:(List Int)) (rest:(List Int)):Option ((List Int)×(List Int)):=
 (ZnX q).bind fun q_1=>
 (ZnX ((rest.drop rest_off).take rest_len)).bind fun q_2=>
 some (q_1,q_2)
def Zqt (rec_:Int→Nat→Nat→Int→Int→(List Int)→(List Int)→Option (Nat×Nat×(List Int)×(List Int))) (shift:Int) (rest_off:Nat) (rest_len:Nat) (t86:Int) (i:Int) (q:(List Int)) (rest:(List Int)):Option (Nat×Nat×(List Int)×(List Int)):=
 bif (decide (i < t86))then (
  chk (inK .i64 (i+1)) <|
  (Zrh rest rest_off rest_len (i+1)).bind fun(q_1,t90)=>
  chk (decide (0≤(32:Int))) <|
  chk (inR i (rest_len:Int)) <|
  (t90[(rest_off+(i).toNat)]?).bind fun t90_e=>
  chk (decide (0≤shift)) <|
  chk (inR i (rest_len:Int)) <|
  chk (inK .i64 (i+1)) <|
  rec_ shift rest_off rest_len t86 (i+1) q (t90.set (rest_off+(i).toNat) (IntKind.wrap .u32 (shrK .u64 (orK .u64 (shlK .u64 (IntKind.wrap .u64 q_1) 32) (IntKind.wrap .u64 t90_e)) shift)))
 )else (
  some (rest_off,rest_len,q,rest)
 )
def ZpR:Nat→Int→Nat→Nat→Int→Int→(List Int)→(List Int)→Option (Nat×Nat×(List Int)×(List Int))
 |0,_,_,_,_,_,_,_=>none
 |n_+1,shift,rest_off,rest_len,t86,i,q,rest=>Zqt (ZpR n_) shift rest_off rest_len t86 i q rest
def ZtR (n:Nat) (s:(Int×Nat×Nat×Int×Int×(List Int)×(List Int))):Option (Nat×Nat×(List Int)×(List Int)):=ZpR n s.1 s.2.1 s.2.2.1 s.2.2.2.1 s.2.2.2.2.1 s.2.2.2.2.2.1 s.2.2.2.2.2.2
def ZrS (rec_:(Int×Nat×Nat×Int×Int×(List Int)×(List Int))→Option (Nat×Nat×(List Int)×(List Int))) (s:(Int×Nat×Nat×Int×Int×(List Int)×(List Int))):Option (Nat×Nat×(List Int)×(List Int)):=Zqt (fun shift rest_off rest_len t86 i q rest=>rec_ (shift,rest_off,rest_len,t86,i,q,rest)) s.1 s.2.1 s.2.2.1 s.2.2.2.1 s.2.2.2.2.1 s.2.2.2.2.2.1 s.2.2.2.2.2.2
theorem Zvf:∀n s,ZtR (n+1) s=ZrS (ZtR n) s:=fun _ _=>rfl
def ZsQ (n:Int) (shift:Int) (u:(List Int)) (q:(List Int)):Option ((List Int)×(List Int)):=
 chk (Zb9 0 n (u.length:Int)) <|
 (ZrJ u 0 ((n).toNat - 0)).bind fun(rest_off,rest_len,t83)=>
 (ZpR big shift rest_off rest_len ((rest_len:Nat):Int) (0:Int) q t83).bind fun(x0,x1,x2,x3)=>ZsP x0 x1 x2 x3
def Zqu (rec_:Int→Int→(List Int)→Int→(List Int)→(List Int)→Option (Int×Int×(List Int)×(List Int))) (n:Int) (shift:Int) (d:(List Int)) (j:Int) (u:(List Int)) (q:(List Int)):Option (Int×Int×(List Int)×(List Int)):=
 bif (decide (j≥0))then (
  chk (inK .i64 (j+n)) <|
  chk (inK .i64 ((j+n)+1)) <|
  chk (Zb9 j ((j+n)+1) (u.length:Int)) <|
  (Ztd u ((j).toNat) ((((j+n)+1)).toNat - (j).toNat) d).bind fun(q_1,t77)=>
  chk (inR j (q.length:Int)) <|
  chk (inK .i64 (j - 1)) <|
  rec_ n shift d (j - 1) t77 (q.set ((j).toNat) q_1)
 )else (
  some (n,shift,u,q)
 )
def ZpS:Nat→Int→Int→(List Int)→Int→(List Int)→(List Int)→Option (Int×Int×(List Int)×(List Int))
 |0,_,_,_,_,_,_=>none
 |n_+1,n,shift,d,j,u,q=>Zqu (ZpS n_) n shift d j u q
def ZtS (n:Nat) (s:(Int×Int×(List Int)×Int×(List Int)×(List Int))):Option (Int×Int×(List Int)×(List Int)):=ZpS n s.1 s.2.1 s.2.2.1 s.2.2.2.1 s.2.2.2.2.1 s.2.2.2.2.2
def ZrT (rec_:(Int×Int×(List Int)×Int×(List Int)×(List Int))→Option (Int×Int×(List Int)×(List Int))) (s:(Int×Int×(List Int)×Int×(List Int)×(List Int))):Option (Int×Int×(List Int)×(List Int)):=Zqu (fun n shift d j u q=>rec_ (n,shift,d,j,u,q)) s.1 s.2.1 s.2.2.1 s.2.2.2.1 s.2.2.2.2.1 s.2.2.2.2.2
theorem Zvg:∀n s,ZtS (n+1) s=ZrT (ZtS n) s:=fun _ _=>rfl
def Zo9 (w_:(List Int)) (v_:(List Int)):Option ((List Int)×(List Int)):=
 (Zoi w_ v_).bind fun q=>
 bif (decide (q < 0))then (
  (Zn9 w_).bind fun q_1=>
  some (([]:(List Int)),q_1)
 )else (
  bif ((v_.length:Int) == 1)then (
   (idx v_ 0).bind fun v__e=>
   (ZqA w_ v__e).bind fun(q_2,r_)=>
   (ZnX ([r_]:(List Int))).bind fun q_3=>
   some (q_2,q_3)
  )else (
   chk (inK .i64 ((v_.length:Int) - 1)) <|
   (idx v_ ((v_.length:Int) - 1)).bind fun v__e_1=>
   (Zpf v__e_1).bind fun shift=>
   (ZoF w_ shift).bind fun u=>
   (ZoF v_ shift).bind fun q_4=>
   chk (Zb9 0 (v_.length:Int) (q_4.length:Int)) <|
   chk (inK .i64 ((w_.length:Int) - (v_.length:Int))) <|
   chk (inK .i64 (((w_.length:Int) - (v_.length:Int))+1)) <|
   chk (mkOk (((w_.length:Int) - (v_.length:Int))+1) (((w_.length:Int) - (v_.length:Int))+1) 4) <|
   chk (inK .i64 (((List.replicate ((((w_.length:Int) - (v_.length:Int))+1)).toNat (0:Int)).length:Int) - 1)) <|
   (ZpS big (v_.length:Int) shift ((q_4.drop 0).take (((v_.length:Int)).toNat - 0)) (((List.replicate ((((w_.length:Int) - (v_.length:Int))+1)).toNat (0:Int)).length:Int) - 1) u (List.replicate ((((w_.length:Int) - (v_.length:Int))+1)).toNat (0:Int))).bind fun(x0,x1,x2,x3)=>ZsQ x0 x1 x2 x3
  )
 )
def ZrU (w_:(List Int)):Option (List Int):=
 some w_
def ZoZ (rec_:(List Int)→(List Int)→Option (List Int)) (w_:(List Int)) (v_:(List Int)):Option (List Int):=
 bif (decide ((v_.length:Int) > 0))then (
  (Zo9 w_ v_).bind fun(q,r_)=>
  rec_ v_ r_
 )else (
  some w_
 )
def Zom:Nat→(List Int)→(List Int)→Option (List Int)
 |0,_,_=>none
 |n_+1,w_,v_=>ZoZ (Zom n_) w_ v_
def Zpb (w_:(List Int)) (v_:(List Int)):Option (List Int):=
 (Zom big w_ v_).bind fun x0=>ZrU x0
def ZqI (t2:Bool):Option Bool:=
 some t2
def ZrV (f:ZnA):Option Bool:=
 (ZsR ([f.Num,f.Den]:(List ZnF))).bind fun q=>
 bif q then (
  bif (decide ((f.Den.Words.length:Int) > 0))then (
   bif (!f.Den.Neg)then (
    (Zpb f.Num.Words f.Den.Words).bind fun q_1=>
    (Zoi q_1 ([1]:List Int)).bind fun q_2=>
    ZqI (q_2 == 0)
   )else (
    ZqI false
   )
  )else (
   ZqI false
  )
 )else (
  ZqI false
 )
def Zsk (out:(List Int)):Option (List Int):=
 (ZnX out).bind fun q=>
 some q
def Zsl (rec_:(List Int)→(List Int)→Int→Int→(List Int)→Option (List Int)) (v_:(List Int)) (i:Int) (carry:Int) (t17:(List Int)) (t18:Int) (i_1:Int) (out:(List Int)):Option (List Int):=
 chk (inK .i64 (i+(v_.length:Int))) <|
 chk (inR (i+(v_.length:Int)) (out.length:Int)) <|
 chk (inK .i64 (i_1+1)) <|
 rec_ v_ t17 t18 (i_1+1) (out.set (((i+(v_.length:Int))).toNat) (IntKind.wrap .u32 carry))
def Zqb (rec_:(List Int)→Int→Int→Int→(List Int)→Int→Int→(List Int)→Int→Int→(List Int)→Option ((List Int)×Int×Int×(List Int)×Int×Int×(List Int))) (v_:(List Int)) (i:Int) (x_:Int) (carry:Int) (t17:(List Int)) (t18:Int) (i_1:Int) (t24:(List Int)) (t25:Int) (j:Int) (out:(List Int)):Option ((List Int)×Int×Int×(List Int)×Int×Int×(List Int)):=
 bif (decide (j < t25))then (
  (idx t24 j).bind fun y=>
  chk (inK .i64 (i+j)) <|
  chk (inR (i+j) (out.length:Int)) <|
  (out[((i+j)).toNat]?).bind fun out_e=>
  chk (inK .i64 (i+j)) <|
  chk (inR (i+j) (out.length:Int)) <|
  chk (decide (0≤(32:Int))) <|
  chk (inK .i64 (j+1)) <|
  rec_ v_ i x_ (shrK .u64 (IntKind.wrap .u64 (carry+(IntKind.wrap .u64 ((IntKind.wrap .u64 ((IntKind.wrap .u64 x_)*(IntKind.wrap .u64 y)))+(IntKind.wrap .u64 out_e))))) 32) t17 t18 i_1 t24 t25 (j+1) (out.set (((i+j)).toNat) (IntKind.wrap .u32 (IntKind.wrap .u64 (carry+(IntKind.wrap .u64 ((IntKind.wrap .u64 ((IntKind.wrap .u64 x_)*(IntKind.wrap .u64 y)))+(IntKind.wrap .u64 out_e)))))))
 )else (
  some (v_,i,carry,t17,t18,i_1,out)
 )
def ZqS:Nat→(List Int)→Int→Int→Int→(List Int)→Int→Int→(List Int)→Int→Int→(List Int)→Option ((List Int)×Int×Int×(List Int)×Int×Int×(List Int))
 |0,_,_,_,_,_,_,_,_,_,_,_=>none
 |n_+1,v_,i,x_,carry,t17,t18,i_1,t24,t25,j,out=>Zqb (ZqS n_) v_ i x_ carry t17 t18 i_1 t24 t25 j out
def Zto (n:Nat) (s:((List Int)×Int×Int×Int×(List Int)×Int×Int×(List Int)×Int×Int×(List Int))):Option ((List Int)×Int×Int×(List Int)×Int×Int×(List Int)):=ZqS n s.1 s.2.1 s.2.2.1 s.2.2.2.1 s.2.2.2.2.1 s.2.2.2.2.2.1 s.2.2.2.2.2.2.1 s.2.2.2.2.2.2.2.1 s.2.2.2.2.2.2.2.2.1 s.2.2.2.2.2.2.2.2.2.1 s.2.2.2.2.2.2.2.2.2.2
def Zrw (rec_:((List Int)×Int×Int×Int×(List Int)×Int×Int×(List Int)×Int×Int×(List Int))→Option ((List Int)×Int×Int×(List Int)×Int×Int×(List Int))) (s:((List Int)×Int×Int×Int×(List Int)×Int×Int×(List Int)×Int×Int×(List Int))):Option ((List Int)×Int×Int×(List Int)×Int×Int×(List Int)):=Zqb (fun v_ i x_ carry t17 t18 i_1 t24 t25 j out=>rec_ (v_,i,x_,carry,t17,t18,i_1,t24,t25,j,out)) s.1 s.2.1 s.2.2.1 s.2.2.2.1 s.2.2.2.2.1 s.2.2.2.2.2.1 s.2.2.2.2.2.2.1 s.2.2.2.2.2.2.2.1 s.2.2.2.2.2.2.2.2.1 s.2.2.2.2.2.2.2.2.2.1 s.2.2.2.2.2.2.2.2.2.2
theorem Zu6:∀n s,Zto (n+1) s=Zrw (Zto n) s:=fun _ _=>rfl
def Zqc (rec_:(List Int)→(List Int)→Int→Int→(List Int)→Option (List Int)) (v_:(List Int)) (t17:(List Int)) (t18:Int) (i:Int) (out:(List Int)):Option (List Int):=
 bif (decide (i < t18))then (
  (idx t17 i).bind fun x_=>
  (ZqS big v_ i x_ (0:Int) t17 t18 i v_ (v_.length:Int) (0:Int) out).bind fun(x0,x1,x2,x3,x4,x5,x6)=>Zsl rec_ x0 x1 x2 x3 x4 x5 x6
 )else (
  some out
 )
def ZpC:Nat→(List Int)→(List Int)→Int→Int→(List Int)→Option (List Int)
 |0,_,_,_,_,_=>none
 |n_+1,v_,t17,t18,i,out=>Zqc (ZpC n_) v_ t17 t18 i out
def Ztp (n:Nat) (s:((List Int)×(List Int)×Int×Int×(List Int))):Option (List Int):=ZpC n s.1 s.2.1 s.2.2.1 s.2.2.2.1 s.2.2.2.2
def Zrx (rec_:((List Int)×(List Int)×Int×Int×(List Int))→Option (List Int)) (s:((List Int)×(List Int)×Int×Int×(List Int))):Option (List Int):=Zqc (fun v_ t17 t18 i out=>rec_ (v_,t17,t18,i,out)) s.1 s.2.1 s.2.2.1 s.2.2.2.1 s.2.2.2.2
theorem Zu7:∀n s,Ztp (n+1) s=Zrx (Ztp n) s:=fun _ _=>rfl
def ZoX (w_:(List Int)) (v_:(List Int)):Option (List Int):=
 chk (inK .i64 ((w_.length:Int)+(v_.length:Int))) <|
 chk (mkOk ((w_.length:Int)+(v_.length:Int)) ((w_.length:Int)+(v_.length:Int)) 4) <|
 (ZpC big v_ w_ (w_.length:Int) (0:Int) (List.replicate (((w_.length:Int)+(v_.length:Int))).toNat (0:Int))).bind fun x0=>Zsk x0
def Zsx (t4:Bool) (t4_1:(List Int)):Option ZnF:=
 some (ZnF.mk t4 t4_1)
def Zn2 (neg:Bool) (w_:(List Int)):Option ZnF:=
 bif neg then (
  chk (ZiZ w_.length 4) <|
  Zsx (decide ((w_.length:Int) > 0)) w_
 )else (
  chk (ZiZ w_.length 4) <|
  Zsx false w_
 )
def Zpk (a:ZnF) (b:ZnF):Option ZnF:=
 (ZoX a.Words b.Words).bind fun q=>
 (Zn2 (!(a.Neg == b.Neg)) q).bind fun q_1=>
 some q_1
def ZrK (t2:ZnF):Option ZnF:=
 some t2
def ZrC (a:ZnF):Option ZnF:=
 bif (!a.Neg)then (
  ZrK (ZnF.mk (decide ((a.Words.length:Int) > 0)) a.Words)
 )else (
  ZrK (ZnF.mk false a.Words)
 )
def ZsO (carry:Int) (out:(List Int)):Option (List Int):=
 chk (ZiZ (out.length+([carry]:(List Int)).length) 4) <|
 (ZnX (out++([carry]:(List Int)))).bind fun q=>
 some q
def Zqs (rec_:(List Int)→(List Int)→Int→Int→Int→(List Int)→Option (Int×(List Int))) (w_:(List Int)) (v_:(List Int)) (carry:Int) (t20:Int) (i:Int) (out:(List Int)):Option (Int×(List Int)):=
 bif (decide (i < t20))then (
  (ZpN w_ i).bind fun q=>
  (ZpN v_ i).bind fun q_1=>
  (Zrl q q_1 carry).bind fun(d,carry_1)=>
  chk (ZiZ (out.length+([d]:(List Int)).length) 4) <|
  chk (inK .i64 (i+1)) <|
  rec_ w_ v_ carry_1 t20 (i+1) (out++([d]:(List Int)))
 )else (
  some (carry,out)
 )
def Zq0:Nat→(List Int)→(List Int)→Int→Int→Int→(List Int)→Option (Int×(List Int))
 |0,_,_,_,_,_,_=>none
 |n_+1,w_,v_,carry,t20,i,out=>Zqs (Zq0 n_) w_ v_ carry t20 i out
def ZtQ (n:Nat) (s:((List Int)×(List Int)×Int×Int×Int×(List Int))):Option (Int×(List Int)):=Zq0 n s.1 s.2.1 s.2.2.1 s.2.2.2.1 s.2.2.2.2.1 s.2.2.2.2.2
def ZrR (rec_:((List Int)×(List Int)×Int×Int×Int×(List Int))→Option (Int×(List Int))) (s:((List Int)×(List Int)×Int×Int×Int×(List Int))):Option (Int×(List Int)):=Zqs (fun w_ v_ carry t20 i out=>rec_ (w_,v_,carry,t20,i,out)) s.1 s.2.1 s.2.2.1 s.2.2.2.1 s.2.2.2.2.1 s.2.2.2.2.2
theorem Zve:∀n s,ZtQ (n+1) s=ZrR (ZtQ n) s:=fun _ _=>rfl
def ZpQ (w_:(List Int)) (v_:(List Int)):Option (List Int):=
 chk (inK .i64 ((if (v_.length:Int) > (w_.length:Int)then (v_.length:Int)else (w_.length:Int))+1)) <|
 chk (mkOk 0 ((if (v_.length:Int) > (w_.length:Int)then (v_.length:Int)else (w_.length:Int))+1) 4) <|
 (Zq0 big w_ v_ (0:Int) (if (v_.length:Int) > (w_.length:Int)then (v_.length:Int)else (w_.length:Int)) (0:Int) (List.replicate ((0:Int)).toNat (0:Int))).bind fun(x0,x1)=>ZsO x0 x1
def Zsn (out:(List Int)):Option (List Int):=
 (ZnX out).bind fun q=>
 some q
def Zqf (rec_:(List Int)→(List Int)→Int→Int→Int→(List Int)→Option (List Int)) (w_:(List Int)) (v_:(List Int)) (borrow:Int) (t12:Int) (i:Int) (out:(List Int)):Option (List Int):=
 bif (decide (i < t12))then (
  (idx w_ i).bind fun w__e=>
  (ZpN v_ i).bind fun q=>
  (ZqF w__e q borrow).bind fun(q_1,borrow_1)=>
  chk (inR i (out.length:Int)) <|
  chk (inK .i64 (i+1)) <|
  rec_ w_ v_ borrow_1 t12 (i+1) (out.set ((i).toNat) q_1)
 )else (
  some out
 )
def ZqU:Nat→(List Int)→(List Int)→Int→Int→Int→(List Int)→Option (List Int)
 |0,_,_,_,_,_,_=>none
 |n_+1,w_,v_,borrow,t12,i,out=>Zqf (ZqU n_) w_ v_ borrow t12 i out
def Ztr (n:Nat) (s:((List Int)×(List Int)×Int×Int×Int×(List Int))):Option (List Int):=ZqU n s.1 s.2.1 s.2.2.1 s.2.2.2.1 s.2.2.2.2.1 s.2.2.2.2.2
def ZrA (rec_:((List Int)×(List Int)×Int×Int×Int×(List Int))→Option (List Int)) (s:((List Int)×(List Int)×Int×Int×Int×(List Int))):Option (List Int):=Zqf (fun w_ v_ borrow t12 i out=>rec_ (w_,v_,borrow,t12,i,out)) s.1 s.2.1 s.2.2.1 s.2.2.2.1 s.2.2.2.2.1 s.2.2.2.2.2
theorem Zu9:∀n s,Ztr (n+1) s=ZrA (Ztr n) s:=fun _ _=>rfl
def Zpp (w_:(List Int)) (v_:(List Int)):Option (List Int):=
 chk (mkOk (w_.length:Int) (w_.length:Int) 4) <|
 (ZqU big w_ v_ (0:Int) (w_.length:Int) (0:Int) (List.replicate ((w_.length:Int)).toNat (0:Int))).bind fun x0=>Zsn x0
def Zt5 (a:ZnF) (b:ZnF):Option ZnF:=
 bif (a.Neg == b.Neg)then (
  (ZpQ a.Words b.Words).bind fun q=>
  (Zn2 a.Neg q).bind fun q_1=>
  some q_1
 )else (
  (Zoi a.Words b.Words).bind fun q_2=>
  bif (decide (q_2≥0))then (
   (Zpp a.Words b.Words).bind fun q_3=>
   (Zn2 a.Neg q_3).bind fun q_4=>
   some q_4
  )else (
   (Zpp b.Words a.Words).bind fun q_5=>
   (Zn2 b.Neg q_5).bind fun q_6=>
   some q_6
  )
 )
def ZtN (t13:Bool) (a:ZnA) (b:ZnA):Option Int:=
 bif t13 then (
  some (0:Int)
 )else (
  (Zpk a.Num b.Den).bind fun q=>
  (Zpk b.Num a.Den).bind fun q_1=>
  (ZrC q_1).bind fun q_2=>
  (Zt5 q q_2).bind fun d=>
  bif d.Neg then (
   some (-1:Int)
  )else (
   bif (decide ((d.Words.length:Int) > 0))then (
    some (1:Int)
   )else (
    some (0:Int)
   )
  )
 )
def ZqV (a:ZnA) (b:ZnA):Option Int:=
 (ZrV a).bind fun q=>
 bif (!q)then (
  ZtN true a b
 )else (
  (ZrV b).bind fun q_1=>
  ZtN (!q_1) a b
 )
def Zuj (i:Int):Option Int:=
 some i
def Ztc (rec_:(List ZnA)→Int→ZnA→Option Int) (l:(List ZnA)) (i:Int) (t19:Bool) (x_:ZnA):Option Int:=
 bif t19 then (
  chk (inK .i64 (i+1)) <|
  rec_ l (i+1) x_
 )else (
  some i
 )
def ZtU (rec_:(List ZnA)→Int→ZnA→Option Int) (l:(List ZnA)) (i:Int) (x_:ZnA):Option Int:=
 bif (decide (i < (l.length:Int)))then (
  (idx l i).bind fun l_e=>
  (ZqV l_e x_).bind fun q=>
  Ztc rec_ l i (decide (q≤0)) x_
 )else (
  Ztc rec_ l i false x_
 )
def ZrZ:Nat→(List ZnA)→Int→ZnA→Option Int
 |0,_,_,_=>none
 |n_+1,l,i,x_=>ZtU (ZrZ n_) l i x_
def ZuQ (n:Nat) (s:((List ZnA)×Int×ZnA)):Option Int:=ZrZ n s.1 s.2.1 s.2.2
def ZuR (rec_:((List ZnA)×Int×ZnA)→Option Int) (s:((List ZnA)×Int×ZnA)):Option Int:=ZtU (fun l i x_=>rec_ (l,i,x_)) s.1 s.2.1 s.2.2
theorem ZvZ:∀n s,ZuQ (n+1) s=ZuR (ZuQ n) s:=fun _ _=>rfl
def ZsI (l:(List ZnA)) (i:Int) (x_:ZnA):Option Int:=
 (ZrZ big l i x_).bind fun x0=>Zuj x0
def Zqj (n:Int):Option (List Int):=
 chk (decide (0≤(32:Int))) <|
 (ZnX ([(IntKind.wrap .u32 n),(IntKind.wrap .u32 (shrK .u64 n 32))]:(List Int))).bind fun q=>
 some q
def Zq1 (n:Int):Option ZnF:=
 bif (decide (n < 0))then (
  (Zqj (IntKind.wrap .u64 (0 - (IntKind.wrap .u64 n)))).bind fun q=>
  (Zn2 true q).bind fun q_1=>
  some q_1
 )else (
  (Zqj (IntKind.wrap .u64 n)).bind fun q_2=>
  (Zn2 false q_2).bind fun q_3=>
  some q_3
 )
def Zqi (num:ZnF) (den:ZnF):Option ZnA:=
 (Zpb num.Words den.Words).bind fun g=>
 (Zo9 num.Words g).bind fun(x_,q)=>
 (Zo9 den.Words g).bind fun(y,q_1)=>
 (Zn2 (!(num.Neg == den.Neg)) x_).bind fun q_2=>
 (Zn2 false y).bind fun q_3=>
 some (ZnA.mk q_2 q_3)
def Ztx (num:ZnF) (den:ZnF):Option (ZnA×Int):=
 (ZsR ([num,den]:(List ZnF))).bind fun q=>
 bif (!q)then (
  some ((ZnA.mk (ZnF.mk false ([]:(List Int))) (ZnF.mk false ([]:(List Int)))),1)
 )else (
  bif ((den.Words.length:Int) == 0)then (
   some ((ZnA.mk (ZnF.mk false ([]:(List Int))) (ZnF.mk false ([]:(List Int)))),8)
  )else (
   (Zqi num den).bind fun q_1=>
   some (q_1,0)
  )
 )
def ZtM (num:Int) (den:Int):Option (ZnA×Int):=
 (Zq1 num).bind fun q=>
 (Zq1 den).bind fun q_1=>
 (Ztx q q_1).bind fun(q_2,q_3)=>
 some (q_2,q_3)
def Zuu:Option ZnA:=
 (ZtM 0 1).bind fun(f,q)=>
 some f
def Zwd (a:Int) (b:Int):Option ZnA:=
 (ZtM a b).bind fun(f,e)=>
 bif (e != 0)then (
  (Zuu).bind fun q=>
  some q
 )else (
  some f
 )
def Zs7 (a:(List ZnA)) (b:(List ZnA)) (most:Int) (t4:Bool) (t4_1:Bool) (t4_2:(List Int)) (t4_3:(List Int)):Option (ZnA×Int):=
 chk (inK .i64 ((a.length:Int)*(b.length:Int))) <|
 (Zwd most ((a.length:Int)*(b.length:Int))).bind fun q=>
 some (q,0)
def Zqz (rec_:(List ZnA)→(List ZnA)→Int→Int→Int→Bool→Bool→(List Int)→(List Int)→Option ((List ZnA)×(List ZnA)×Int×Bool×Bool×(List Int)×(List Int))) (a:(List ZnA)) (b:(List ZnA)) (most:Int) (i:Int) (k:Int) (t4:Bool) (t4_1:Bool) (x_:ZnA) (t4_2:(List Int)) (t4_3:(List Int)):Option ((List ZnA)×(List ZnA)×Int×Bool×Bool×(List Int)×(List Int)):=
 (ZsI a i x_).bind fun i_1=>
 (ZsI b k x_).bind fun k_1=>
 chk (inK .i64 (i_1*(b.length:Int))) <|
 chk (inK .i64 (k_1*(a.length:Int))) <|
 chk (inK .i64 ((i_1*(b.length:Int)) - (k_1*(a.length:Int)))) <|
 chk (inK .i64 (k_1*(a.length:Int))) <|
 chk (inK .i64 (i_1*(b.length:Int))) <|
 chk (inK .i64 ((k_1*(a.length:Int)) - (i_1*(b.length:Int)))) <|
 rec_ a b (if ((k_1*(a.length:Int)) - (i_1*(b.length:Int))) > (if ((i_1*(b.length:Int)) - (k_1*(a.length:Int))) > most then ((i_1*(b.length:Int)) - (k_1*(a.length:Int)))else most)then ((k_1*(a.length:Int)) - (i_1*(b.length:Int)))else (if ((i_1*(b.length:Int)) - (k_1*(a.length:Int))) > most then ((i_1*(b.length:Int)) - (k_1*(a.length:Int)))else most)) i_1 k_1 t4 t4_1 t4_2 t4_3
def ZrH (rec_:(List ZnA)→(List ZnA)→Int→Int→Int→Bool→Bool→(List Int)→(List Int)→Option ((List ZnA)×(List ZnA)×Int×Bool×Bool×(List Int)×(List Int))) (a:(List ZnA)) (b:(List ZnA)) (most:Int) (i:Int) (k:Int) (t28:Bool) (t4:Bool) (t4_1:Bool) (t4_2:(List Int)) (t4_3:(List Int)):Option ((List ZnA)×(List ZnA)×Int×Bool×Bool×(List Int)×(List Int)):=
 bif t28 then (
  (idx a i).bind fun x_=>
  (idx b k).bind fun b_e=>
  (ZqV b_e x_).bind fun q=>
  bif (decide (q < 0))then (
   (idx b k).bind fun x__1=>
   Zqz rec_ a b most i k t4 t4_1 x__1 t4_2 t4_3
  )else (
   Zqz rec_ a b most i k t4 t4_1 x_ t4_2 t4_3
  )
 )else (
  some (a,b,most,t4,t4_1,t4_2,t4_3)
 )
def ZsJ (rec_:(List ZnA)→(List ZnA)→Int→Int→Int→Bool→Bool→(List Int)→(List Int)→Option ((List ZnA)×(List ZnA)×Int×Bool×Bool×(List Int)×(List Int))) (a:(List ZnA)) (b:(List ZnA)) (most:Int) (i:Int) (k:Int) (t4:Bool) (t4_1:Bool) (t4_2:(List Int)) (t4_3:(List Int)):Option ((List ZnA)×(List ZnA)×Int×Bool×Bool×(List Int)×(List Int)):=
 bif (decide (i < (a.length:Int)))then (
  ZrH rec_ a b most i k (decide (k < (b.length:Int))) t4 t4_1 t4_2 t4_3
 )else (
  ZrH rec_ a b most i k false t4 t4_1 t4_2 t4_3
 )
def Zpo:Nat→(List ZnA)→(List ZnA)→Int→Int→Int→Bool→Bool→(List Int)→(List Int)→Option ((List ZnA)×(List ZnA)×Int×Bool×Bool×(List Int)×(List Int))
 |0,_,_,_,_,_,_,_,_,_=>none
 |n_+1,a,b,most,i,k,t4,t4_1,t4_2,t4_3=>ZsJ (Zpo n_) a b most i k t4 t4_1 t4_2 t4_3
def Zua (n:Nat) (s:((List ZnA)×(List ZnA)×Int×Int×Int×Bool×Bool×(List Int)×(List Int))):Option ((List ZnA)×(List ZnA)×Int×Bool×Bool×(List Int)×(List Int)):=Zpo n s.1 s.2.1 s.2.2.1 s.2.2.2.1 s.2.2.2.2.1 s.2.2.2.2.2.1 s.2.2.2.2.2.2.1 s.2.2.2.2.2.2.2.1 s.2.2.2.2.2.2.2.2
def Zub (rec_:((List ZnA)×(List ZnA)×Int×Int×Int×Bool×Bool×(List Int)×(List Int))→Option ((List ZnA)×(List ZnA)×Int×Bool×Bool×(List Int)×(List Int))) (s:((List ZnA)×(List ZnA)×Int×Int×Int×Bool×Bool×(List Int)×(List Int))):Option ((List ZnA)×(List ZnA)×Int×Bool×Bool×(List Int)×(List Int)):=ZsJ (fun a b most i k t4 t4_1 t4_2 t4_3=>rec_ (a,b,most,i,k,t4,t4_1,t4_2,t4_3)) s.1 s.2.1 s.2.2.1 s.2.2.2.1 s.2.2.2.2.1 s.2.2.2.2.2.1 s.2.2.2.2.2.2.1 s.2.2.2.2.2.2.2.1 s.2.2.2.2.2.2.2.2
theorem Zvy:∀n s,Zua (n+1) s=Zub (Zua n) s:=fun _ _=>rfl
def ZrI (a:(List ZnA)) (b:(List ZnA)) (t17:Bool) (t4:Bool) (t4_1:Bool) (t4_2:(List Int)) (t4_3:(List Int)):Option (ZnA×Int):=
 bif t17 then (
  some ((ZnA.mk (ZnF.mk false ([]:(List Int))) (ZnF.mk false ([]:(List Int)))),5)
 )else (
  (Zpo big a b (0:Int) (0:Int) (0:Int) t4 t4_1 t4_2 t4_3).bind fun(x0,x1,x2,x3,x4,x5,x6)=>Zs7 x0 x1 x2 x3 x4 x5 x6
 )
def Zot (a:(List ZnA)) (b:(List ZnA)):Option (ZnA×Int):=
 bif ((a.length:Int) == 0)then (
  ZrI a b true false false ([]:(List Int)) ([]:(List Int))
 )else (
  ZrI a b ((b.length:Int) == 0) false false ([]:(List Int)) ([]:(List Int))
 )
def Zq3:Option Bool:=
 some true
def Zpa (rec_:(List Int)→Int→Int→ZnF→Option (Out Unit Bool)) (t22:(List Int)) (t23:Int) (i:Int) (b:ZnF):Option (Out Unit Bool):=
 bif (decide (i < t23))then (
  (idx t22 i).bind fun w_=>
  (idx b.Words i).bind fun Word=>
  bif (Word != w_)then (
   some (.ret false)
  )else (
   chk (inK .i64 (i+1)) <|
   rec_ t22 t23 (i+1) b
  )
 )else (
  some (.brk ())
 )
def ZpD:Nat→(List Int)→Int→Int→ZnF→Option (Out Unit Bool)
 |0,_,_,_,_=>none
 |n_+1,t22,t23,i,b=>Zpa (ZpD n_) t22 t23 i b
def ZsD (n:Nat) (s:((List Int)×Int×Int×ZnF)):Option (Out Unit Bool):=ZpD n s.1 s.2.1 s.2.2.1 s.2.2.2
def ZqC (rec_:((List Int)×Int×Int×ZnF)→Option (Out Unit Bool)) (s:((List Int)×Int×Int×ZnF)):Option (Out Unit Bool):=Zpa (fun t22 t23 i b=>rec_ (t22,t23,i,b)) s.1 s.2.1 s.2.2.1 s.2.2.2
theorem Zuq:∀n s,ZsD (n+1) s=ZqC (ZsD n) s:=fun _ _=>rfl
def ZpE (t20:Bool) (a:ZnF) (b:ZnF):Option Bool:=
 bif t20 then (
  some false
 )else (
  (ZpD big a.Words (a.Words.length:Int) (0:Int) b).bind fun
   | .ret q_=>some q_
   | .brk ()=>Zq3
 )
def ZoH (a:ZnF) (b:ZnF):Option Bool:=
 bif (!(a.Neg == b.Neg))then (
  ZpE true a b
 )else (
  ZpE ((a.Words.length:Int) != (b.Words.length:Int)) a b
 )
def Zqq (t4:Bool):Option Bool:=
 some t4
def ZnY (a:ZnA) (b:ZnA):Option Bool:=
 (ZoH a.Num b.Num).bind fun q=>
 bif q then (
  (ZoH a.Den b.Den).bind fun q_1=>
  Zqq q_1
 )else (
  Zqq false
 )
def ZuX:Option (List (Int×Zox)):=
 some (setB (k:=(.int .i64)) (v:=(.st 4)) (car:=ZvV) (setB (k:=(.int .i64)) (v:=(.st 4)) (car:=ZvV) (setB (k:=(.int .i64)) (v:=(.st 4)) (car:=ZvV) (setB (k:=(.int .i64)) (v:=(.st 4)) (car:=ZvV) (setB (k:=(.int .i64)) (v:=(.st 4)) (car:=ZvV) ([]:(List (Int×Zox))) 1 (Zox.mk ([116,101,120,116]:Str) (none:Option Nat) (some 183:Option Nat))) 2 (Zox.mk ([98,111,111,108]:Str) (some 184:Option Nat) (some 185:Option Nat))) 3 (Zox.mk ([105,110,116,101,103,101,114]:Str) (some 186:Option Nat) (some 187:Option Nat))) 4 (Zox.mk ([100,101,99,105,109,97,108]:Str) (some 188:Option Nat) (some 187:Option Nat))) 5 (Zox.mk ([100,97,116,101]:Str) (some 189:Option Nat) (some 190:Option Nat)))
def Zvx (s cs:Str):Option Str:=
 chk (cs.all fun b=>decide (b.toNat < 128)) <| chk (decide (cs.length < 4294967281)) <| some (Lib.trimS s cs)
def Zwi (s:Str):Option Str:=
 (Zvx s ([32]:Str)).bind fun q=>
 some q
def ZpM (t4:Bool):Option Bool:=
 some t4
def Zo3 (s:Str) (prefix_:Str):Option Bool:=
 bif (decide ((s.length:Int)≥(prefix_.length:Int)))then (
  chk (Zb9 0 (prefix_.length:Int) (s.length:Int)) <|
  ZpM ((s.take ((prefix_.length:Int)).toNat) == prefix_)
 )else (
  ZpM false
 )
def Zqp (s:Str) (prefix_:Str):Option (Str×Bool):=
 (Zo3 s prefix_).bind fun q=>
 bif (!q)then (
  some (s,false)
 )else (
  chk (Zb9 (prefix_.length:Int) (s.length:Int) (s.length:Int)) <|
  some ((s.drop ((prefix_.length:Int)).toNat),true)
 )
def Zt7 (s:Str) (prefix_:Str):Option (Str×Bool):=
 (Zqp s prefix_).bind fun(after,found)=>
 some (after,found)
def Zqa (s:Str) (prefix_:Str):Option Str:=
 (Zo3 s prefix_).bind fun q=>
 bif q then (
  chk (Zb9 (prefix_.length:Int) (s.length:Int) (s.length:Int)) <|
  some (s.drop ((prefix_.length:Int)).toNat)
 )else (
  some s
 )
def ZtT (s:Str) (prefix_:Str):Option Str:=
 (Zqa s prefix_).bind fun q=>
 some q
def Zqo (s:Str) (c:Int):Option Int:=
 some (Lib.indexByte s c.toNat.toUInt8)
def ZqG (s:Str) (substr:Str) (n:Int) (t16:Bool):Option Int:=
 bif t16 then (
  some (0:Int)
 )else (
  bif (n == 1)then (
   (idx substr 0).bind fun c=>
   (Zqo s ((c.toNat:Nat):Int)).bind fun q=>
   some q
  )else (
   bif (decide (n≥(s.length:Int)))then (
    some (-1:Int)
   )else (
    none
   )
  )
 )
def Zrg (s:Str) (substr:Str):Option Int:=
 bif ((substr.length:Int) == 0)then (
  ZqG s substr (substr.length:Int) true
 )else (
  ZqG s substr (substr.length:Int) (substr == s)
 )
def ZrQ (s:Str) (sep:Str):Option (Str×Str×Bool):=
 (Zrg s sep).bind fun i=>
 bif (decide (i≥0))then (
  chk (Zb9 0 i (s.length:Int)) <|
  chk (inK .i64 (i+(sep.length:Int))) <|
  chk (Zb9 (i+(sep.length:Int)) (s.length:Int) (s.length:Int)) <|
  some ((s.take (i).toNat),(s.drop ((i+(sep.length:Int))).toNat),true)
 )else (
  some (s,([]:Str),false)
 )
def Zu5 (s:Str) (sep:Str):Option (Str×Str×Bool):=
 (ZrQ s sep).bind fun(before,after,found)=>
 some (before,after,found)
def Zsy (t4:Bool):Option Bool:=
 some t4
def ZtL (s:Str) (most:Int):Option Bool:=
 bif (decide ((s.length:Int)≥1))then (
  bif (decide ((s.length:Int)≤most))then (
   (Zvx s ([48,49,50,51,52,53,54,55,56,57]:Str)).bind fun q=>
   Zsy (q == ([]:Str))
  )else (
   Zsy false
  )
 )else (
  Zsy false
 )
def Zr5 (neg:Bool) (num:(List Int)) (den:(List Int)) (t2:Bool) (t2_1:Bool) (t2_2:(List Int)) (t2_3:(List Int)):Option (ZnA×Bool):=
 (Zn2 neg num).bind fun q=>
 (Zn2 false den).bind fun q_1=>
 (Zqi q q_1).bind fun q_2=>
 some (q_2,true)
def ZvJ (rec_:Bool→(List Int)→(List Int)→(List Int)→Int→Int→Bool→Bool→(List Int)→(List Int)→Option (Bool×(List Int)×(List Int)×Bool×Bool×(List Int)×(List Int))) (neg:Bool) (num:(List Int)) (ten:(List Int)) (den:(List Int)) (t63:Int) (t64:Int) (t2:Bool) (t2_1:Bool) (t2_2:(List Int)) (t2_3:(List Int)):Option (Bool×(List Int)×(List Int)×Bool×Bool×(List Int)×(List Int)):=
 bif (decide (t64 < t63))then (
  (ZoX den ten).bind fun den_1=>
  chk (inK .i64 (t64+1)) <|
  rec_ neg num ten den_1 t63 (t64+1) t2 t2_1 t2_2 t2_3
 )else (
  some (neg,num,den,t2,t2_1,t2_2,t2_3)
 )
def Zty:Nat→Bool→(List Int)→(List Int)→(List Int)→Int→Int→Bool→Bool→(List Int)→(List Int)→Option (Bool×(List Int)×(List Int)×Bool×Bool×(List Int)×(List Int))
 |0,_,_,_,_,_,_,_,_,_,_=>none
 |n_+1,neg,num,ten,den,t63,t64,t2,t2_1,t2_2,t2_3=>ZvJ (Zty n_) neg num ten den t63 t64 t2 t2_1 t2_2 t2_3
def ZuH (neg:Bool) (back:Str) (num:(List Int)) (ten:(List Int)) (t2:Bool) (t2_1:Bool) (den:(List Int)) (t2_2:(List Int)) (t2_3:(List Int)):Option (ZnA×Bool):=
 (Zty big neg num ten den (back.length:Int) (0:Int) t2 t2_1 t2_2 t2_3).bind fun(x0,x1,x2,x3,x4,x5,x6)=>Zr5 x0 x1 x2 x3 x4 x5 x6
def ZvK (rec_:Bool→Str→(List Int)→(List Int)→Int→Int→Bool→Bool→(List Int)→(List Int)→(List Int)→(List Int)→Option (Bool×Str×(List Int)×(List Int)×Bool×Bool×(List Int)×(List Int)×(List Int))) (neg:Bool) (back:Str) (num:(List Int)) (ten:(List Int)) (t48:Int) (t49:Int) (t2:Bool) (t2_1:Bool) (den:(List Int)) (t47:(List Int)) (t2_2:(List Int)) (t2_3:(List Int)):Option (Bool×Str×(List Int)×(List Int)×Bool×Bool×(List Int)×(List Int)×(List Int)):=
 bif (decide (t49 < t48))then (
  chk (inR t49 (t47.length:Int)) <|
  (t47[(t49).toNat]?).bind fun d=>
  (ZoX num ten).bind fun q=>
  (Zqj (IntKind.wrap .u64 (IntKind.wrap .u8 (d - 48)))).bind fun q_1=>
  (ZpQ q q_1).bind fun num_1=>
  chk (inK .i64 (t49+1)) <|
  rec_ neg back num_1 ten t48 (t49+1) t2 t2_1 den t47 t2_2 t2_3
 )else (
  some (neg,back,num,ten,t2,t2_1,den,t2_2,t2_3)
 )
def Ztz:Nat→Bool→Str→(List Int)→(List Int)→Int→Int→Bool→Bool→(List Int)→(List Int)→(List Int)→(List Int)→Option (Bool×Str×(List Int)×(List Int)×Bool×Bool×(List Int)×(List Int)×(List Int))
 |0,_,_,_,_,_,_,_,_,_,_,_,_=>none
 |n_+1,neg,back,num,ten,t48,t49,t2,t2_1,den,t47,t2_2,t2_3=>ZvK (Ztz n_) neg back num ten t48 t49 t2 t2_1 den t47 t2_2 t2_3
def Zr6 (neg:Bool) (front:Str) (back:Str) (t39:Bool) (t2:Bool) (t2_1:Bool) (t2_2:(List Int)) (t2_3:(List Int)):Option (ZnA×Bool):=
 bif t39 then (
  some ((ZnA.mk (ZnF.mk false ([]:(List Int))) (ZnF.mk false ([]:(List Int)))),false)
 )else (
  (Zn9 ([1]:List Int)).bind fun den=>
  chk (decide (front.length+back.length≤Zq)) <|
  chk (decide ((front++back).length≤281474976710656)) <|
  (Ztz big neg back ([]:(List Int)) ([10]:(List Int)) (((front++back).map fun b=>((b.toNat:Nat):Int)).length:Int) (0:Int) t2 t2_1 den ((front++back).map fun b=>((b.toNat:Nat):Int)) t2_2 t2_3).bind fun(x0,x1,x2,x3,x4,x5,x6,x7,x8)=>ZuH x0 x1 x2 x3 x4 x5 x6 x7 x8
 )
def ZtA (body:Str) (neg:Bool) (t2:Bool) (t2_1:Bool) (t2_2:(List Int)) (t2_3:(List Int)):Option (ZnA×Bool):=
 (Zu5 body ([46]:Str)).bind fun(front,back,point)=>
 (ZtL front 15).bind fun q=>
 bif (!q)then (
  Zr6 neg front back true t2 t2_1 t2_2 t2_3
 )else (
  bif point then (
   (ZtL back 9).bind fun q_1=>
   Zr6 neg front back (!q_1) t2 t2_1 t2_2 t2_3
  )else (
   Zr6 neg front back false t2 t2_1 t2_2 t2_3
  )
 )
def Zq2 (text:Str):Option (ZnA×Bool):=
 (Zt7 text ([45]:Str)).bind fun(body,neg)=>
 bif (!neg)then (
  (ZtT text ([43]:Str)).bind fun body_1=>
  ZtA body_1 neg false false ([]:(List Int)) ([]:(List Int))
 )else (
  ZtA body neg false false ([]:(List Int)) ([]:(List Int))
 )
def Zui (s cs:Str):Option Str:=
 chk (cs.all fun b=>decide (b.toNat < 128)) <| chk (decide (cs.length < 4294967281)) <| some (Lib.trimLeftS s cs)
def Zvd (s cs:Str):Option Str:=
 chk (cs.all fun b=>decide (b.toNat < 128)) <| chk (decide (cs.length < 4294967281)) <| some (Lib.trimRightS s cs)
def Zvr (zero:Str):Option Str:=
 some zero
def Zwe (rec_:Str→(List Str)→Int→Int→Option (Out Str Str)) (zero:Str) (t6:(List Str)) (t7:Int) (t8:Int):Option (Out Str Str):=
 bif (decide (t8 < t7))then (
  (idx t6 t8).bind fun val=>
  bif (!(val == zero))then (
   some (.ret val)
  )else (
   chk (inK .i64 (t8+1)) <|
   rec_ zero t6 t7 (t8+1)
  )
 )else (
  some (.brk zero)
 )
def Zuo:Nat→Str→(List Str)→Int→Int→Option (Out Str Str)
 |0,_,_,_,_=>none
 |n_+1,zero,t6,t7,t8=>Zwe (Zuo n_) zero t6 t7 t8
def Zvh (vals:(List Str)):Option Str:=
 (Zuo big ([]:Str) vals (vals.length:Int) (0:Int)).bind fun
  | .ret q_=>some q_
  | .brk x0=>Zvr x0
def Zue (out:Str):Option (Str×Bool):=
 some (out,true)
def Zuf (out:Str) (t43:Bool):Option (Str×Bool):=
 bif t43 then (
  chk (decide (([45]:Str).length+out.length≤Zq)) <|
  Zue (([45]:Str)++out)
 )else (
  Zue out
 )
def Zug (t:Str) (out:Str):Option (Str×Bool):=
 (idx t 0).bind fun c=>
 bif (((c.toNat:Nat):Int) == 45)then (
  Zuf out (!(out == ([48]:Str)))
 )else (
  Zuf out false
 )
def Zth (t:Str):Option (Str×Bool):=
 (Zq2 t).bind fun(q,ok)=>
 bif (!ok)then (
  some (([]:Str),false)
 )else (
  (Zui t ([43,45]:Str)).bind fun q_1=>
  (Zu5 q_1 ([46]:Str)).bind fun(front,back,q_2)=>
  (Zui front ([48]:Str)).bind fun front_1=>
  (Zvd back ([48]:Str)).bind fun back_1=>
  (Zvh ([front_1,([48]:Str)]:(List Str))).bind fun out=>
  bif (!(back_1 == ([]:Str)))then (
   chk (decide (([46]:Str).length+back_1.length≤Zq)) <|
   chk (decide (out.length+(([46]:Str)++back_1).length≤Zq)) <|
   Zug t (out++(([46]:Str)++back_1))
  )else (
   Zug t out
  )
 )
def ZsC (n:Int) (s:Str):Option (Str×Bool):=
 (ZuX).bind fun q=>
 bif (!(Zg3 (k:=(.int .i64)) (v:=(.st 4)) (car:=ZvV) q n).isSome)then (
  some (([]:Str),false)
 )else (
  bif (Option.isNone (((Zg3 (k:=(.int .i64)) (v:=(.st 4)) (car:=ZvV) q n).getD (Zox.mk ([]:Str) (none:Option Nat) (none:Option Nat))).canonical))then (
   some (s,true)
  )else (
   (Zwi s).bind fun q_1=>
   chk (decide (((Zg3 (k:=(.int .i64)) (v:=(.st 4)) (car:=ZvV) q n).getD (Zox.mk ([]:Str) (none:Option Nat) (none:Option Nat))).canonical=some 188)) <|
   (Zth q_1).bind fun(q_2,q_3)=>
   some (q_2,q_3)
  )
 )
def ZuY (n:Int) (s:Str):Option (ZnA×Bool):=
 (ZsC n s).bind fun(t,ok)=>
 bif (!ok)then (
  some ((ZnA.mk (ZnF.mk false ([]:(List Int))) (ZnF.mk false ([]:(List Int)))),false)
 )else (
  (ZuX).bind fun q=>
  chk (decide (((Zg3 (k:=(.int .i64)) (v:=(.st 4)) (car:=ZvV) q n).getD (Zox.mk ([]:Str) (none:Option Nat) (none:Option Nat))).value=some 187)) <|
  (Zq2 t).bind fun(q_1,q_2)=>
  some (q_1,q_2)
 )
def ZoW (c:ZnD):Option (ZnA×Bool):=
 bif c.Null then (
  (Zuu).bind fun q=>
  some (q,false)
 )else (
  (ZuY 4 c.Text).bind fun(q_1,q_2)=>
  some (q_1,q_2)
 )
def Zul (x_:Int):Option Int:=
 (ZtJ x_).bind fun q=>
 some q
def ZoD (data:(List ZnA)):Option (List ZnA):=
 some data
def ZoE (rec_:Int→Int→Int→(List ZnA)→Option (List ZnA)) (a:Int) (b:Int) (i:Int) (data:(List ZnA)):Option (List ZnA):=
 chk (inK .i64 (i+1)) <|
 rec_ a b (i+1) data
def Zn1 (rec_:Int→Int→Int→Int→(List ZnA)→Option (Int×Int×Int×(List ZnA))) (a:Int) (b:Int) (i:Int) (j:Int) (t34:Bool) (data:(List ZnA)):Option (Int×Int×Int×(List ZnA)):=
 bif t34 then (
  chk (inK .i64 (j - 1)) <|
  chk (inK .i64 (j - 1)) <|
  chk (inR (j - 1) (data.length:Int)) <|
  (data[((j - 1)).toNat]?).bind fun data_e=>
  chk (inR j (data.length:Int)) <|
  (data[(j).toNat]?).bind fun data_e_1=>
  chk (inR j (data.length:Int)) <|
  chk (inR (j - 1) ((data.set ((j).toNat) data_e).length:Int)) <|
  chk (inK .i64 (j - 1)) <|
  rec_ a b i (j - 1) ((data.set ((j).toNat) data_e).set (((j - 1)).toNat) data_e_1)
 )else (
  some (a,b,i,data)
 )
def Zor (rec_:Int→Int→Int→Int→(List ZnA)→Option (Int×Int×Int×(List ZnA))) (a:Int) (b:Int) (i:Int) (j:Int) (data:(List ZnA)):Option (Int×Int×Int×(List ZnA)):=
 bif (decide (j > a))then (
  chk (inR j (data.length:Int)) <|
  (data[(j).toNat]?).bind fun data_e=>
  chk (inK .i64 (j - 1)) <|
  chk (inR (j - 1) (data.length:Int)) <|
  (data[((j - 1)).toNat]?).bind fun data_e_1=>
  (ZqV data_e data_e_1).bind fun q=>
  Zn1 rec_ a b i j (decide (q < 0)) data
 )else (
  Zn1 rec_ a b i j false data
 )
def ZnM:Nat→Int→Int→Int→Int→(List ZnA)→Option (Int×Int×Int×(List ZnA))
 |0,_,_,_,_,_=>none
 |n_+1,a,b,i,j,data=>Zor (ZnM n_) a b i j data
def ZpA (n:Nat) (s:(Int×Int×Int×Int×(List ZnA))):Option (Int×Int×Int×(List ZnA)):=ZnM n s.1 s.2.1 s.2.2.1 s.2.2.2.1 s.2.2.2.2
def ZpB (rec_:(Int×Int×Int×Int×(List ZnA))→Option (Int×Int×Int×(List ZnA))) (s:(Int×Int×Int×Int×(List ZnA))):Option (Int×Int×Int×(List ZnA)):=Zor (fun a b i j data=>rec_ (a,b,i,j,data)) s.1 s.2.1 s.2.2.1 s.2.2.2.1 s.2.2.2.2
theorem ZrY:∀n s,ZpA (n+1) s=ZpB (ZpA n) s:=fun _ _=>rfl
def Zos (rec_:Int→Int→Int→(List ZnA)→Option (List ZnA)) (a:Int) (b:Int) (i:Int) (data:(List ZnA)):Option (List ZnA):=
 bif (decide (i < b))then (
  (ZnM big a b i i data).bind fun(x0,x1,x2,x3)=>ZoE rec_ x0 x1 x2 x3
 )else (
  some data
 )
def ZnT:Nat→Int→Int→Int→(List ZnA)→Option (List ZnA)
 |0,_,_,_,_=>none
 |n_+1,a,b,i,data=>Zos (ZnT n_) a b i data
def Zoa (data:(List ZnA)) (a:Int) (b:Int):Option (List ZnA):=
 chk (inK .i64 (a+1)) <|
 (ZnT big a b (a+1) data).bind fun x0=>ZoD x0
def Zn5 (data:(List ZnA)) (a:Int) (b:Int):Option (List ZnA):=
 (Zoa data a b).bind fun r=>chk (decide (r.length=data.length)&&true) (some r)
def ZoV (rec_:Int→Int→Int→Bool→Bool→(List ZnA)→Option (Out Unit (List ZnA))) (a:Int) (b:Int) (limit:Int) (wasBalanced:Bool) (wasPartitioned:Bool) (data:(List ZnA)):Option (Out Unit (List ZnA)):=
 chk (inK .i64 (b - a)) <|
 bif (decide ((b - a)≤12))then (
  (Zn5 data a b).bind fun t26=>
  some (.ret t26)
 )else (
  bif (limit == 0)then (
   none
  )else (
   bif (!wasBalanced)then (
    none
   )else (
    none
   )
  )
 )
def Zo8:Nat→Int→Int→Int→Bool→Bool→(List ZnA)→Option (Out Unit (List ZnA))
 |0,_,_,_,_,_,_=>none
 |n_+1,a,b,limit,wasBalanced,wasPartitioned,data=>ZoV (Zo8 n_) a b limit wasBalanced wasPartitioned data
def Zpz (data:(List ZnA)) (a:Int) (b:Int) (limit:Int):Option (List ZnA):=
 (Zo8 big a b limit true true data).bind fun
  | .ret q_=>some q_
  | .brk _=>none
def Zou (data:(List ZnA)) (a:Int) (b:Int) (limit:Int):Option (List ZnA):=
 (Zpz data a b limit).bind fun r=>chk (decide (r.length=data.length)&&true) (some r)
def ZoM (x_:(List ZnA)):Option (List ZnA):=
 (Zul (IntKind.wrap .u64 (x_.length:Int))).bind fun q=>
 (Zou x_ 0 (x_.length:Int) q).bind fun t7=>
 some t7
def ZnU (x_:(List ZnA)):Option (List ZnA):=
 (ZoM x_).bind fun r=>chk (decide (r.length=x_.length)&&true) (some r)
def Zr1 (out:(List ZnA)):Option (List ZnA):=
 (ZnU out).bind fun t26=>
 some t26
def ZqZ (rec_:(List ZnD)→Int→Int→(List ZnA)→Option (List ZnA)) (t9:(List ZnD)) (t10:Int) (t11:Int) (out:(List ZnA)):Option (List ZnA):=
 chk (inK .i64 (t11+1)) <|
 rec_ t9 t10 (t11+1) out
def Zp9 (rec_:(List ZnD)→Int→Int→(List ZnA)→Option (List ZnA)) (t9:(List ZnD)) (t10:Int) (t11:Int) (out:(List ZnA)):Option (List ZnA):=
 bif (decide (t11 < t10))then (
  (idx t9 t11).bind fun x_=>
  (ZoW x_).bind fun(v_,ok)=>
  bif ok then (
   chk (ZiZ (out.length+([v_]:(List ZnA)).length) 64) <|
   ZqZ rec_ t9 t10 t11 (out++([v_]:(List ZnA)))
  )else (
   ZqZ rec_ t9 t10 t11 out
  )
 )else (
  some out
 )
def ZpP:Nat→(List ZnD)→Int→Int→(List ZnA)→Option (List ZnA)
 |0,_,_,_,_=>none
 |n_+1,t9,t10,t11,out=>Zp9 (ZpP n_) t9 t10 t11 out
def Zuk (n:Nat) (s:((List ZnD)×Int×Int×(List ZnA))):Option (List ZnA):=ZpP n s.1 s.2.1 s.2.2.1 s.2.2.2
def Zrf (rec_:((List ZnD)×Int×Int×(List ZnA))→Option (List ZnA)) (s:((List ZnD)×Int×Int×(List ZnA))):Option (List ZnA):=Zp9 (fun t9 t10 t11 out=>rec_ (t9,t10,t11,out)) s.1 s.2.1 s.2.2.1 s.2.2.2
theorem Zt9:∀n s,Zuk (n+1) s=Zrf (Zuk n) s:=fun _ _=>rfl
def ZoY (c:ZnO):Option (List ZnA):=
 (ZpP big c.Cells (c.Cells.length:Int) (0:Int) ([]:(List ZnA))).bind fun x0=>Zr1 x0
def Zoc (t0:Bool):Option Bool:=
 some t0
def ZoC:Option Bool:=
 (ZnN 1).bind fun q=>
 (ZnN 2).bind fun q_1=>
 (ZnN 3).bind fun q_2=>
 (ZnN 4).bind fun q_3=>
 (Zp8 ([q,q_1,q_2,q_3]:(List ZnA)) 1 2).bind fun(x_,e)=>
 chk (Zb9 0 2 (([q,q_1,q_2,q_3]:(List ZnA)).length:Int)) <|
 chk (Zb9 1 3 (([q,q_1,q_2,q_3]:(List ZnA)).length:Int)) <|
 (Zot ((([q,q_1,q_2,q_3]:(List ZnA)).drop 0).take (((2:Int)).toNat - 0)) ((([q,q_1,q_2,q_3]:(List ZnA)).drop (((1:Int)).toNat)).take (((3:Int)).toNat - ((1:Int)).toNat))).bind fun(d,f)=>
 bif (e == 0)then (
  bif (f == 0)then (
   (ZnN 2).bind fun q_4=>
   (ZnY x_ q_4).bind fun q_5=>
   bif q_5 then (
    (Zoo 1 2).bind fun q_6=>
    (ZnY d q_6).bind fun q_7=>
    bif q_7 then (
     (ZoY (ZnO.mk ([]:Str) ([(ZnD.mk false ([51]:Str)),(ZnD.mk true ([]:Str)),(ZnD.mk false ([120]:Str))]:(List ZnD)))).bind fun q_8=>
     Zoc ((q_8.length:Int) == 1)
    )else (
     Zoc false
    )
   )else (
    Zoc false
   )
  )else (
   Zoc false
  )
 )else (
  Zoc false
 )
def ZrX (t:(List Int)):Option ZnB:=
 some (ZnB.mk t 0)
def ZoT (n:Int) (m:Int):Option Int:=
 bif (decide (m < 1))then (
  some (0:Int)
 )else (
  chk (decide (m≠0)) <|
  chk (inK .i64 ((Int.tmod n m)+m)) <|
  chk (decide (m≠0)) <|
  some (Int.tmod ((Int.tmod n m)+m) m)
 )
def ZnL (d:ZnB) (n:Int):Option (Int×ZnB):=
 bif (decide (d.at_≥(d.l.length:Int)))then (
  some (0,d)
 )else (
  chk (inK .i64 (d.at_+1)) <|
  chk (inK .i64 ((d.at_+1) - 1)) <|
  (idx d.l ((d.at_+1) - 1)).bind fun l_e=>
  (ZoT l_e n).bind fun q=>
  some (q,(ZnB.mk d.l (d.at_+1)))
 )
def Zpy (d:ZnB):Option (ZnA×ZnB):=
 (ZnL d 13).bind fun(q,t3)=>
 chk (inK .i64 (q - 4)) <|
 (ZnL t3 4).bind fun(q_1,t6)=>
 chk (inK .i64 (1+q_1)) <|
 (Zoo (q - 4) (1+q_1)).bind fun q_2=>
 some (q_2,t6)
def ZoB (t24:Bool) (f:ZnA):Option Bool:=
 bif t24 then (
  some false
 )else (
  bif ((f.Num.Words.length:Int) == 0)then (
   (Zn3 f.Den.Words ([1]:(List Int))).bind fun q=>
   some (q == 0)
  )else (
   (Zpl f.Num.Words f.Den.Words).bind fun q_1=>
   (Zn3 q_1 ([1]:(List Int))).bind fun q_2=>
   some (q_2 == 0)
  )
 )
def Zoh (f:ZnA):Option Bool:=
 (Zob f.Num).bind fun q=>
 bif (!q)then (
  ZoB true f
 )else (
  (Zob f.Den).bind fun q_1=>
  bif (!q_1)then (
   ZoB true f
  )else (
   bif f.Den.Neg then (
    ZoB true f
   )else (
    ZoB ((f.Den.Words.length:Int) == 0) f
   )
  )
 )
def Zsa (out:(List Int)):Option (List Int):=
 (ZnV out).bind fun q=>
 some q
def Zsb (rec_:(List Int)→(List Int)→Int→(List Int)→Option (List Int)) (a:(List Int)) (b:(List Int)) (i:Int) (c:Int) (out:(List Int)):Option (List Int):=
 chk (inK .i64 (i+(b.length:Int))) <|
 chk (inR (i+(b.length:Int)) (out.length:Int)) <|
 chk (inK .i64 (i+1)) <|
 rec_ a b (i+1) (out.set (((i+(b.length:Int))).toNat) (IntKind.wrap .u32 c))
def Zp0 (rec_:(List Int)→(List Int)→Int→Int→Int→(List Int)→Option ((List Int)×(List Int)×Int×Int×(List Int))) (a:(List Int)) (b:(List Int)) (i:Int) (c:Int) (j:Int) (out:(List Int)):Option ((List Int)×(List Int)×Int×Int×(List Int)):=
 bif (decide (j < (b.length:Int)))then (
  (idx a i).bind fun a_e=>
  (idx b j).bind fun b_e=>
  chk (inK .i64 (i+j)) <|
  chk (inR (i+j) (out.length:Int)) <|
  (out[((i+j)).toNat]?).bind fun out_e=>
  chk (inK .i64 (i+j)) <|
  chk (inR (i+j) (out.length:Int)) <|
  chk (decide (0≤(32:Int))) <|
  chk (inK .i64 (j+1)) <|
  rec_ a b i (shrK .u64 (IntKind.wrap .u64 (c+(IntKind.wrap .u64 ((IntKind.wrap .u64 ((IntKind.wrap .u64 a_e)*(IntKind.wrap .u64 b_e)))+(IntKind.wrap .u64 out_e))))) 32) (j+1) (out.set (((i+j)).toNat) (IntKind.wrap .u32 (IntKind.wrap .u64 (c+(IntKind.wrap .u64 ((IntKind.wrap .u64 ((IntKind.wrap .u64 a_e)*(IntKind.wrap .u64 b_e)))+(IntKind.wrap .u64 out_e)))))))
 )else (
  some (a,b,i,c,out)
 )
def ZqL:Nat→(List Int)→(List Int)→Int→Int→Int→(List Int)→Option ((List Int)×(List Int)×Int×Int×(List Int))
 |0,_,_,_,_,_,_=>none
 |n_+1,a,b,i,c,j,out=>Zp0 (ZqL n_) a b i c j out
def Ztj (n:Nat) (s:((List Int)×(List Int)×Int×Int×Int×(List Int))):Option ((List Int)×(List Int)×Int×Int×(List Int)):=ZqL n s.1 s.2.1 s.2.2.1 s.2.2.2.1 s.2.2.2.2.1 s.2.2.2.2.2
def Zrp (rec_:((List Int)×(List Int)×Int×Int×Int×(List Int))→Option ((List Int)×(List Int)×Int×Int×(List Int))) (s:((List Int)×(List Int)×Int×Int×Int×(List Int))):Option ((List Int)×(List Int)×Int×Int×(List Int)):=Zp0 (fun a b i c j out=>rec_ (a,b,i,c,j,out)) s.1 s.2.1 s.2.2.1 s.2.2.2.1 s.2.2.2.2.1 s.2.2.2.2.2
theorem Zu0:∀n s,Ztj (n+1) s=Zrp (Ztj n) s:=fun _ _=>rfl
def Zp1 (rec_:(List Int)→(List Int)→Int→(List Int)→Option (List Int)) (a:(List Int)) (b:(List Int)) (i:Int) (out:(List Int)):Option (List Int):=
 bif (decide (i < (a.length:Int)))then (
  (ZqL big a b i (0:Int) (0:Int) out).bind fun(x0,x1,x2,x3,x4)=>Zsb rec_ x0 x1 x2 x3 x4
 )else (
  some out
 )
def Zpt:Nat→(List Int)→(List Int)→Int→(List Int)→Option (List Int)
 |0,_,_,_,_=>none
 |n_+1,a,b,i,out=>Zp1 (Zpt n_) a b i out
def Ztk (n:Nat) (s:((List Int)×(List Int)×Int×(List Int))):Option (List Int):=Zpt n s.1 s.2.1 s.2.2.1 s.2.2.2
def Zrq (rec_:((List Int)×(List Int)×Int×(List Int))→Option (List Int)) (s:((List Int)×(List Int)×Int×(List Int))):Option (List Int):=Zp1 (fun a b i out=>rec_ (a,b,i,out)) s.1 s.2.1 s.2.2.1 s.2.2.2
theorem Zu1:∀n s,Ztk (n+1) s=Zrq (Ztk n) s:=fun _ _=>rfl
def Zqv (a:(List Int)) (b:(List Int)):Option (List Int):=
 chk (inK .i64 ((a.length:Int)+(b.length:Int))) <|
 chk (mkOk ((a.length:Int)+(b.length:Int)) ((a.length:Int)+(b.length:Int)) 4) <|
 (Zpt big a b (0:Int) (List.replicate (((a.length:Int)+(b.length:Int))).toNat (0:Int))).bind fun x0=>Zsa x0
def ZnK (a:ZnF) (b:ZnF):Option ZnF:=
 (Zqv a.Words b.Words).bind fun q=>
 (ZnQ (!(a.Neg == b.Neg)) q).bind fun q_1=>
 some q_1
def ZpO (a:ZnF):Option ZnF:=
 (ZnQ (!a.Neg) a.Words).bind fun q=>
 some q
def Zsj (c:Int) (out:(List Int)):Option (List Int):=
 chk (ZiZ (out.length+([(IntKind.wrap .u32 c)]:(List Int)).length) 4) <|
 some (out++([(IntKind.wrap .u32 c)]:(List Int)))
def Zpw (rec_:(List Int)→(List Int)→Int→Int→(List Int)→Option (Int×(List Int))) (a:(List Int)) (b:(List Int)) (c:Int) (i:Int) (out:(List Int)):Option (Int×(List Int)):=
 chk (ZiZ (out.length+([(IntKind.wrap .u32 c)]:(List Int)).length) 4) <|
 chk (decide (0≤(32:Int))) <|
 chk (inK .i64 (i+1)) <|
 rec_ a b (shrK .u64 c 32) (i+1) (out++([(IntKind.wrap .u32 c)]:(List Int)))
def Zpx (rec_:(List Int)→(List Int)→Int→Int→(List Int)→Option (Int×(List Int))) (a:(List Int)) (b:(List Int)) (c:Int) (i:Int) (out:(List Int)):Option (Int×(List Int)):=
 bif (decide (i < (b.length:Int)))then (
  (idx b i).bind fun b_e=>
  Zpw rec_ a b (IntKind.wrap .u64 (c+(IntKind.wrap .u64 b_e))) i out
 )else (
  Zpw rec_ a b c i out
 )
def ZoS (rec_:(List Int)→(List Int)→Int→Int→(List Int)→Option (Int×(List Int))) (a:(List Int)) (b:(List Int)) (c:Int) (i:Int) (t17:Bool) (out:(List Int)):Option (Int×(List Int)):=
 bif t17 then (
  bif (decide (i < (a.length:Int)))then (
   (idx a i).bind fun a_e=>
   Zpx rec_ a b (IntKind.wrap .u64 (c+(IntKind.wrap .u64 a_e))) i out
  )else (
   Zpx rec_ a b c i out
  )
 )else (
  some (c,out)
 )
def Zp4 (rec_:(List Int)→(List Int)→Int→Int→(List Int)→Option (Int×(List Int))) (a:(List Int)) (b:(List Int)) (c:Int) (i:Int) (out:(List Int)):Option (Int×(List Int)):=
 bif (decide (i < (a.length:Int)))then (
  ZoS rec_ a b c i true out
 )else (
  ZoS rec_ a b c i (decide (i < (b.length:Int))) out
 )
def Zoq:Nat→(List Int)→(List Int)→Int→Int→(List Int)→Option (Int×(List Int))
 |0,_,_,_,_,_=>none
 |n_+1,a,b,c,i,out=>Zp4 (Zoq n_) a b c i out
def Ztn (n:Nat) (s:((List Int)×(List Int)×Int×Int×(List Int))):Option (Int×(List Int)):=Zoq n s.1 s.2.1 s.2.2.1 s.2.2.2.1 s.2.2.2.2
def Zrv (rec_:((List Int)×(List Int)×Int×Int×(List Int))→Option (Int×(List Int))) (s:((List Int)×(List Int)×Int×Int×(List Int))):Option (Int×(List Int)):=Zp4 (fun a b c i out=>rec_ (a,b,c,i,out)) s.1 s.2.1 s.2.2.1 s.2.2.2.1 s.2.2.2.2
theorem Zu4:∀n s,Ztn (n+1) s=Zrv (Ztn n) s:=fun _ _=>rfl
def Zpn (a:(List Int)) (b:(List Int)):Option (List Int):=
 (Zoq big a b (0:Int) (0:Int) ([]:(List Int))).bind fun(x0,x1)=>Zsj x0 x1
def ZoJ (a:ZnF) (b:ZnF):Option ZnF:=
 bif (a.Neg == b.Neg)then (
  (Zpn a.Words b.Words).bind fun q=>
  (ZnQ a.Neg q).bind fun q_1=>
  some q_1
 )else (
  (Zn3 a.Words b.Words).bind fun q_2=>
  bif (decide (q_2≥0))then (
   (Zov a.Words b.Words).bind fun q_3=>
   (ZnQ a.Neg q_3).bind fun q_4=>
   some q_4
  )else (
   (Zov b.Words a.Words).bind fun q_5=>
   (ZnQ b.Neg q_5).bind fun q_6=>
   some q_6
  )
 )
def ZqQ (t13:Bool) (a:ZnA) (b:ZnA):Option Int:=
 bif t13 then (
  some (0:Int)
 )else (
  (ZnK a.Num b.Den).bind fun q=>
  (ZnK b.Num a.Den).bind fun q_1=>
  (ZpO q_1).bind fun q_2=>
  (ZoJ q q_2).bind fun x_=>
  bif ((x_.Words.length:Int) == 0)then (
   some (0:Int)
  )else (
   bif x_.Neg then (
    some (-1:Int)
   )else (
    some (1:Int)
   )
  )
 )
def Zqx (a:ZnA) (b:ZnA):Option Int:=
 (Zoh a).bind fun q=>
 bif (!q)then (
  ZqQ true a b
 )else (
  (Zoh b).bind fun q_1=>
  ZqQ (!q_1) a b
 )
def ZpX (a:ZnA) (b:ZnA):Option Bool:=
 (Zqx a b).bind fun q=>
 some (decide (q < 0))
def Zq5 (d:ZnB) (l:(List ZnA)):Option ((List ZnA)×ZnB):=
 some (l,d)
def Zq6 (rec_:Int→ZnB→(List ZnA)→Option (ZnB×(List ZnA))) (k:Int) (i:Int) (d:ZnB) (l:(List ZnA)) (f:ZnA):Option (ZnB×(List ZnA)):=
 chk (Zb9 0 i (l.length:Int)) <|
 chk (ZiZ ((l.drop 0).take ((i).toNat - 0)).length 64) <|
 chk (ZiZ (((l.drop 0).take ((i).toNat - 0)).length+([f]:(List ZnA)).length) 64) <|
 chk (Zb9 i (l.length:Int) (l.length:Int)) <|
 chk (ZiZ ((((l.drop 0).take ((i).toNat - 0))++([f]:(List ZnA))).length+((l.drop ((i).toNat)).take ((l.length:Int).toNat - (i).toNat)).length) 64) <|
 chk (inK .i64 (k - 1)) <|
 rec_ (k - 1) d ((((l.drop 0).take ((i).toNat - 0))++([f]:(List ZnA)))++((l.drop ((i).toNat)).take ((l.length:Int).toNat - (i).toNat)))
def ZpH (rec_:Int→Int→ZnB→(List ZnA)→ZnA→Option (Int×Int×ZnB×(List ZnA)×ZnA)) (k:Int) (i:Int) (t31:Bool) (d:ZnB) (l:(List ZnA)) (f:ZnA):Option (Int×Int×ZnB×(List ZnA)×ZnA):=
 bif t31 then (
  chk (inK .i64 (i - 1)) <|
  rec_ k (i - 1) d l f
 )else (
  some (k,i,d,l,f)
 )
def ZqD (rec_:Int→Int→ZnB→(List ZnA)→ZnA→Option (Int×Int×ZnB×(List ZnA)×ZnA)) (k:Int) (i:Int) (d:ZnB) (l:(List ZnA)) (f:ZnA):Option (Int×Int×ZnB×(List ZnA)×ZnA):=
 bif (decide (i > 0))then (
  chk (inK .i64 (i - 1)) <|
  chk (inR (i - 1) (l.length:Int)) <|
  (l[((i - 1)).toNat]?).bind fun l_e=>
  (ZpX f l_e).bind fun q=>
  ZpH rec_ k i q d l f
 )else (
  ZpH rec_ k i false d l f
 )
def Zon:Nat→Int→Int→ZnB→(List ZnA)→ZnA→Option (Int×Int×ZnB×(List ZnA)×ZnA)
 |0,_,_,_,_,_=>none
 |n_+1,k,i,d,l,f=>ZqD (Zon n_) k i d l f
def ZsE (n:Nat) (s:(Int×Int×ZnB×(List ZnA)×ZnA)):Option (Int×Int×ZnB×(List ZnA)×ZnA):=Zon n s.1 s.2.1 s.2.2.1 s.2.2.2.1 s.2.2.2.2
def ZsF (rec_:(Int×Int×ZnB×(List ZnA)×ZnA)→Option (Int×Int×ZnB×(List ZnA)×ZnA)) (s:(Int×Int×ZnB×(List ZnA)×ZnA)):Option (Int×Int×ZnB×(List ZnA)×ZnA):=ZqD (fun k i d l f=>rec_ (k,i,d,l,f)) s.1 s.2.1 s.2.2.1 s.2.2.2.1 s.2.2.2.2
theorem Zur:∀n s,ZsE (n+1) s=ZsF (ZsE n) s:=fun _ _=>rfl
def ZqE (rec_:Int→ZnB→(List ZnA)→Option (ZnB×(List ZnA))) (k:Int) (d:ZnB) (l:(List ZnA)):Option (ZnB×(List ZnA)):=
 bif (decide (k > 0))then (
  (Zpy d).bind fun(f,t17)=>
  (Zon big k (l.length:Int) t17 l f).bind fun(x0,x1,x2,x3,x4)=>Zq6 rec_ x0 x1 x2 x3 x4
 )else (
  some (d,l)
 )
def ZoN:Nat→Int→ZnB→(List ZnA)→Option (ZnB×(List ZnA))
 |0,_,_,_=>none
 |n_+1,k,d,l=>ZqE (ZoN n_) k d l
def ZsG (n:Nat) (s:(Int×ZnB×(List ZnA))):Option (ZnB×(List ZnA)):=ZoN n s.1 s.2.1 s.2.2
def ZsH (rec_:(Int×ZnB×(List ZnA))→Option (ZnB×(List ZnA))) (s:(Int×ZnB×(List ZnA))):Option (ZnB×(List ZnA)):=ZqE (fun k d l=>rec_ (k,d,l)) s.1 s.2.1 s.2.2
theorem Zus:∀n s,ZsG (n+1) s=ZsH (ZsG n) s:=fun _ _=>rfl
def ZoI (d:ZnB) (most:Int):Option ((List ZnA)×ZnB):=
 chk (inK .i64 (most+1)) <|
 (ZnL d (most+1)).bind fun(k,t9)=>
 (ZoN big k t9 ([]:(List ZnA))).bind fun(x0,x1)=>Zq5 x0 x1
def ZpT (t21:Bool) (t4:Bool) (t4_1:Bool) (f:ZnA) (t4_2:(List Int)) (t4_3:(List Int)):Option (ZnA×Int):=
 bif t21 then (
  some ((ZnA.mk (ZnF.mk false ([]:(List Int))) (ZnF.mk false ([]:(List Int)))),3)
 )else (
  some (f,0)
 )
def Zps (num:ZnF) (den:ZnF):Option (ZnA×Int):=
 (ZoP num den).bind fun f=>
 bif (decide ((f.Num.Words.length:Int) > 256))then (
  ZpT true false false f ([]:(List Int)) ([]:(List Int))
 )else (
  ZpT (decide ((f.Den.Words.length:Int) > 256)) false false f ([]:(List Int)) ([]:(List Int))
 )
def ZqR (t13:Bool) (a:ZnA) (b:ZnA) (t4:Bool) (t4_1:Bool) (t4_2:(List Int)) (t4_3:(List Int)):Option (ZnA×Int):=
 bif t13 then (
  some ((ZnA.mk (ZnF.mk false ([]:(List Int))) (ZnF.mk false ([]:(List Int)))),1)
 )else (
  (ZnK a.Num b.Den).bind fun q=>
  (ZnK b.Num a.Den).bind fun q_1=>
  (ZoJ q q_1).bind fun q_2=>
  (ZnK a.Den b.Den).bind fun q_3=>
  (Zps q_2 q_3).bind fun(q_4,q_5)=>
  some (q_4,q_5)
 )
def Zqy (a:ZnA) (b:ZnA):Option (ZnA×Int):=
 (Zoh a).bind fun q=>
 bif (!q)then (
  ZqR true a b false false ([]:(List Int)) ([]:(List Int))
 )else (
  (Zoh b).bind fun q_1=>
  ZqR (!q_1) a b false false ([]:(List Int)) ([]:(List Int))
 )
def ZoU (a:ZnA) (b:ZnA):Option ZnA:=
 (Zqy a b).bind fun(f,q)=>
 some f
def ZtV (a:(List ZnA)) (n:Int) (t4:Bool) (t4_1:Bool) (t4_2:(List Int)) (t4_3:(List Int)):Option ZnA:=
 (Zwd n (a.length:Int)).bind fun q=>
 some q
def Zsq (rec_:(List ZnA)→(List ZnA)→Int→(List ZnA)→Int→Int→Bool→Bool→(List Int)→(List Int)→Option ((List ZnA)×Int×Bool×Bool×(List Int)×(List Int))) (a:(List ZnA)) (b:(List ZnA)) (n:Int) (t17:(List ZnA)) (t18:Int) (t19:Int) (t4:Bool) (t4_1:Bool) (t4_2:(List Int)) (t4_3:(List Int)):Option ((List ZnA)×Int×Bool×Bool×(List Int)×(List Int)):=
 chk (inK .i64 (t19+1)) <|
 rec_ a b n t17 t18 (t19+1) t4 t4_1 t4_2 t4_3
def Zsr (rec_:(List ZnA)→(List ZnA)→Int→(List ZnA)→Int→Int→Bool→Bool→(List Int)→(List Int)→Option ((List ZnA)×Int×Bool×Bool×(List Int)×(List Int))) (a:(List ZnA)) (b:(List ZnA)) (n:Int) (t17:(List ZnA)) (t18:Int) (t19:Int) (t39:Bool) (t4:Bool) (t4_1:Bool) (t4_2:(List Int)) (t4_3:(List Int)):Option ((List ZnA)×Int×Bool×Bool×(List Int)×(List Int)):=
 bif t39 then (
  chk (inK .i64 (n+1)) <|
  Zsq rec_ a b (n+1) t17 t18 t19 t4 t4_1 t4_2 t4_3
 )else (
  Zsq rec_ a b n t17 t18 t19 t4 t4_1 t4_2 t4_3
 )
def ZrG (rec_:(List ZnA)→(List ZnA)→Int→(List ZnA)→Int→Int→Bool→Bool→(List Int)→(List Int)→Option ((List ZnA)×Int×Bool×Bool×(List Int)×(List Int))) (a:(List ZnA)) (b:(List ZnA)) (n:Int) (t17:(List ZnA)) (t18:Int) (t19:Int) (t4:Bool) (t4_1:Bool) (t4_2:(List Int)) (t4_3:(List Int)):Option ((List ZnA)×Int×Bool×Bool×(List Int)×(List Int)):=
 bif (decide (t19 < t18))then (
  (idx t17 t19).bind fun x_=>
  (idx b 0).bind fun b_e=>
  (ZqV x_ b_e).bind fun q=>
  bif (decide (q≥0))then (
   chk (inK .i64 ((b.length:Int) - 1)) <|
   (idx b ((b.length:Int) - 1)).bind fun b_e_1=>
   (ZqV x_ b_e_1).bind fun q_1=>
   Zsr rec_ a b n t17 t18 t19 (decide (q_1≤0)) t4 t4_1 t4_2 t4_3
  )else (
   Zsr rec_ a b n t17 t18 t19 false t4 t4_1 t4_2 t4_3
  )
 )else (
  some (a,n,t4,t4_1,t4_2,t4_3)
 )
def Zqk:Nat→(List ZnA)→(List ZnA)→Int→(List ZnA)→Int→Int→Bool→Bool→(List Int)→(List Int)→Option ((List ZnA)×Int×Bool×Bool×(List Int)×(List Int))
 |0,_,_,_,_,_,_,_,_,_,_=>none
 |n_+1,a,b,n,t17,t18,t19,t4,t4_1,t4_2,t4_3=>ZrG (Zqk n_) a b n t17 t18 t19 t4 t4_1 t4_2 t4_3
def Zut (n:Nat) (s:((List ZnA)×(List ZnA)×Int×(List ZnA)×Int×Int×Bool×Bool×(List Int)×(List Int))):Option ((List ZnA)×Int×Bool×Bool×(List Int)×(List Int)):=Zqk n s.1 s.2.1 s.2.2.1 s.2.2.2.1 s.2.2.2.2.1 s.2.2.2.2.2.1 s.2.2.2.2.2.2.1 s.2.2.2.2.2.2.2.1 s.2.2.2.2.2.2.2.2.1 s.2.2.2.2.2.2.2.2.2
def Zs6 (rec_:((List ZnA)×(List ZnA)×Int×(List ZnA)×Int×Int×Bool×Bool×(List Int)×(List Int))→Option ((List ZnA)×Int×Bool×Bool×(List Int)×(List Int))) (s:((List ZnA)×(List ZnA)×Int×(List ZnA)×Int×Int×Bool×Bool×(List Int)×(List Int))):Option ((List ZnA)×Int×Bool×Bool×(List Int)×(List Int)):=ZrG (fun a b n t17 t18 t19 t4 t4_1 t4_2 t4_3=>rec_ (a,b,n,t17,t18,t19,t4,t4_1,t4_2,t4_3)) s.1 s.2.1 s.2.2.1 s.2.2.2.1 s.2.2.2.2.1 s.2.2.2.2.2.1 s.2.2.2.2.2.2.1 s.2.2.2.2.2.2.2.1 s.2.2.2.2.2.2.2.2.1 s.2.2.2.2.2.2.2.2.2
theorem ZvI:∀n s,Zut (n+1) s=Zs6 (Zut n) s:=fun _ _=>rfl
def Zss (a:(List ZnA)) (b:(List ZnA)) (t15:Bool) (t4:Bool) (t4_1:Bool) (t4_2:(List Int)) (t4_3:(List Int)):Option ZnA:=
 bif t15 then (
  (Zuu).bind fun q=>
  some q
 )else (
  (Zqk big a b (0:Int) a (a.length:Int) (0:Int) t4 t4_1 t4_2 t4_3).bind fun(x0,x1,x2,x3,x4,x5)=>ZtV x0 x1 x2 x3 x4 x5
 )
def Zrk (a:(List ZnA)) (b:(List ZnA)):Option ZnA:=
 bif ((a.length:Int) == 0)then (
  Zss a b true false false ([]:(List Int)) ([]:(List Int))
 )else (
  Zss a b ((b.length:Int) == 0) false false ([]:(List Int)) ([]:(List Int))
 )
def Zn4 (d:ZnB) (l:(List Str)):Option (Str×ZnB):=
 (ZnL d (l.length:Int)).bind fun(q,t6)=>
 (idx l q).bind fun l_e=>
 some (l_e,t6)
def ZqY (d:ZnB):Option (ZnD×ZnB):=
 (ZnL d 7).bind fun(q,t3)=>
 bif (q == 1)then (
  some ((ZnD.mk true ([]:Str)),t3)
 )else (
  (Zn4 t3 ([([97]:Str),([98]:Str),([99]:Str),([49]:Str),([50]:Str),([51]:Str),([49,48]:Str),([120]:Str),([45,49,46,53]:Str),([50]:Str)]:(List Str))).bind fun(q_1,t7)=>
  some ((ZnD.mk false q_1),t7)
 )
def Zs5 (n:Int):Option Str:=
 some (Lib.itoa n)
def Zp6 (d:ZnB):Option (ZnD×ZnB):=
 (ZnL d 9).bind fun(q,t3)=>
 bif (q == 1)then (
  some ((ZnD.mk true ([]:Str)),t3)
 )else (
  bif (q == 2)then (
   (Zn4 t3 ([([120]:Str),([]:Str),([49,46,50,46,51]:Str),([49,46,53,48]:Str)]:(List Str))).bind fun(q_1,t10)=>
   some ((ZnD.mk false q_1),t10)
  )else (
   (ZnL t3 12).bind fun(q_2,t14)=>
   chk (inK .i64 (q_2 - 3)) <|
   (Zs5 (q_2 - 3)).bind fun q_3=>
   some ((ZnD.mk false q_3),t14)
  )
 )
def ZrO (d:ZnB) (t4:Str) (c:Str) (t4_1:(List ZnD)) (c_1:(List ZnD)):Option (ZnO×ZnB):=
 some ((ZnO.mk c c_1),d)
def Zol (rec_:Int→Int→Int→ZnB→Str→Str→(List ZnD)→(List ZnD)→Option (ZnB×Str×Str×(List ZnD)×(List ZnD))) (kind:Int) (t15:Int) (i:Int) (d:ZnB) (t4:Str) (c:Str) (x_:ZnD) (t4_1:(List ZnD)) (c_1:(List ZnD)):Option (ZnB×Str×Str×(List ZnD)×(List ZnD)):=
 chk (ZiZ (c_1.length+([x_]:(List ZnD)).length) 24) <|
 chk (inK .i64 (i+1)) <|
 rec_ kind t15 (i+1) d t4 c t4_1 (c_1++([x_]:(List ZnD)))
def ZpV (rec_:Int→Int→Int→ZnB→Str→Str→(List ZnD)→(List ZnD)→Option (ZnB×Str×Str×(List ZnD)×(List ZnD))) (kind:Int) (t15:Int) (i:Int) (d:ZnB) (t4:Str) (c:Str) (t4_1:(List ZnD)) (c_1:(List ZnD)):Option (ZnB×Str×Str×(List ZnD)×(List ZnD)):=
 bif (decide (i < t15))then (
  (ZqY d).bind fun(x_,t19)=>
  bif (kind == 0)then (
   (Zp6 t19).bind fun(x__1,t24)=>
   Zol rec_ kind t15 i t24 t4 c x__1 t4_1 c_1
  )else (
   bif (kind == 1)then (
    (Zs5 i).bind fun q=>
    chk (decide (([107]:Str).length+q.length≤Zq)) <|
    Zol rec_ kind t15 i t19 t4 c (ZnD.mk false (([107]:Str)++q)) t4_1 c_1
   )else (
    bif (kind == 2)then (
     (Zn4 t19 ([([97]:Str),([98]:Str),([99]:Str),([100]:Str)]:(List Str))).bind fun(q_1,t34)=>
     Zol rec_ kind t15 i t34 t4 c (ZnD.mk false q_1) t4_1 c_1
    )else (
     Zol rec_ kind t15 i t19 t4 c x_ t4_1 c_1
    )
   )
  )
 )else (
  some (d,t4,c,t4_1,c_1)
 )
def Zpe:Nat→Int→Int→Int→ZnB→Str→Str→(List ZnD)→(List ZnD)→Option (ZnB×Str×Str×(List ZnD)×(List ZnD))
 |0,_,_,_,_,_,_,_,_=>none
 |n_+1,kind,t15,i,d,t4,c,t4_1,c_1=>ZpV (Zpe n_) kind t15 i d t4 c t4_1 c_1
def Ztb (n:Nat) (s:(Int×Int×Int×ZnB×Str×Str×(List ZnD)×(List ZnD))):Option (ZnB×Str×Str×(List ZnD)×(List ZnD)):=Zpe n s.1 s.2.1 s.2.2.1 s.2.2.2.1 s.2.2.2.2.1 s.2.2.2.2.2.1 s.2.2.2.2.2.2.1 s.2.2.2.2.2.2.2
def Zre (rec_:(Int×Int×Int×ZnB×Str×Str×(List ZnD)×(List ZnD))→Option (ZnB×Str×Str×(List ZnD)×(List ZnD))) (s:(Int×Int×Int×ZnB×Str×Str×(List ZnD)×(List ZnD))):Option (ZnB×Str×Str×(List ZnD)×(List ZnD)):=ZpV (fun kind t15 i d t4 c t4_1 c_1=>rec_ (kind,t15,i,d,t4,c,t4_1,c_1)) s.1 s.2.1 s.2.2.1 s.2.2.2.1 s.2.2.2.2.1 s.2.2.2.2.2.1 s.2.2.2.2.2.2.1 s.2.2.2.2.2.2.2
theorem ZuM:∀n s,Ztb (n+1) s=Zre (Ztb n) s:=fun _ _=>rfl
def Zp7 (d:ZnB) (rows:Int):Option (ZnO×ZnB):=
 (Zn4 d ([([105,100]:Str),([110,97,109,101]:Str),([85,110,105,116,32,80,114,105,99,101]:Str),([99,105,116,121]:Str),([117,110,105,116]:Str),([112,114,105,99,101]:Str),([105,100,50]:Str),([]:Str)]:(List Str))).bind fun(q,t9)=>
 (ZnL t9 5).bind fun(kind,t13)=>
 (Zpe big kind rows (0:Int) t13 ([]:Str) q ([]:(List ZnD)) ([]:(List ZnD))).bind fun(x0,x1,x2,x3,x4)=>ZrO x0 x1 x2 x3 x4
def ZqW:Option Bool:=
 some true
def Zo1 (rec_:(List ZnA)→(List ZnA)→Int→Int→Option (Out Unit Bool)) (b:(List ZnA)) (t12:(List ZnA)) (t13:Int) (i:Int):Option (Out Unit Bool):=
 bif (decide (i < t13))then (
  (idx t12 i).bind fun f=>
  (idx b i).bind fun b_e=>
  (ZnY f b_e).bind fun q=>
  bif (!q)then (
   some (.ret false)
  )else (
   chk (inK .i64 (i+1)) <|
   rec_ b t12 t13 (i+1)
  )
 )else (
  some (.brk ())
 )
def Zpj:Nat→(List ZnA)→(List ZnA)→Int→Int→Option (Out Unit Bool)
 |0,_,_,_,_=>none
 |n_+1,b,t12,t13,i=>Zo1 (Zpj n_) b t12 t13 i
def Zsp (n:Nat) (s:((List ZnA)×(List ZnA)×Int×Int)):Option (Out Unit Bool):=Zpj n s.1 s.2.1 s.2.2.1 s.2.2.2
def Zqn (rec_:((List ZnA)×(List ZnA)×Int×Int)→Option (Out Unit Bool)) (s:((List ZnA)×(List ZnA)×Int×Int)):Option (Out Unit Bool):=Zo1 (fun b t12 t13 i=>rec_ (b,t12,t13,i)) s.1 s.2.1 s.2.2.1 s.2.2.2
theorem Zuh:∀n s,Zsp (n+1) s=Zqn (Zsp n) s:=fun _ _=>rfl
def Zo4 (a:(List ZnA)) (b:(List ZnA)):Option Bool:=
 bif ((a.length:Int) != (b.length:Int))then (
  some false
 )else (
  (Zpj big b a (a.length:Int) (0:Int)).bind fun
   | .ret q_=>some q_
   | .brk ()=>ZqW
 )
def ZoL (t6:Bool):Option Bool:=
 some t6
def ZpK (c:ZnO) (back:Str) (back_1:(List ZnD)):Option Bool:=
 (ZoY c).bind fun q=>
 (ZoY (ZnO.mk back back_1)).bind fun q_1=>
 (Zo4 q q_1).bind fun q_2=>
 bif q_2 then (
  (ZoC).bind fun q_3=>
  ZoL q_3
 )else (
  ZoL false
 )
def Zoy (rec_:Int→Int→ZnO→Str→(List ZnD)→Option (ZnO×Str×(List ZnD))) (t145:Int) (i:Int) (c:ZnO) (back:Str) (back_1:(List ZnD)):Option (ZnO×Str×(List ZnD)):=
 bif (decide (i < t145))then (
  chk (inK .i64 ((c.Cells.length:Int) - 1)) <|
  chk (inK .i64 (((c.Cells.length:Int) - 1) - i)) <|
  (idx c.Cells (((c.Cells.length:Int) - 1) - i)).bind fun Cell=>
  chk (ZiZ (back_1.length+([Cell]:(List ZnD)).length) 24) <|
  chk (inK .i64 (i+1)) <|
  rec_ t145 (i+1) c back (back_1++([Cell]:(List ZnD)))
 )else (
  some (c,back,back_1)
 )
def Zod:Nat→Int→Int→ZnO→Str→(List ZnD)→Option (ZnO×Str×(List ZnD))
 |0,_,_,_,_,_=>none
 |n_+1,t145,i,c,back,back_1=>Zoy (Zod n_) t145 i c back back_1
def Zq9 (n:Nat) (s:(Int×Int×ZnO×Str×(List ZnD))):Option (ZnO×Str×(List ZnD)):=Zod n s.1 s.2.1 s.2.2.1 s.2.2.2.1 s.2.2.2.2
def Zpg (rec_:(Int×Int×ZnO×Str×(List ZnD))→Option (ZnO×Str×(List ZnD))) (s:(Int×Int×ZnO×Str×(List ZnD))):Option (ZnO×Str×(List ZnD)):=Zoy (fun t145 i c back back_1=>rec_ (t145,i,c,back,back_1)) s.1 s.2.1 s.2.2.1 s.2.2.2.1 s.2.2.2.2
theorem ZtG:∀n s,Zq9 (n+1) s=Zpg (Zq9 n) s:=fun _ _=>rfl
def ZnJ (t140:Bool) (d:ZnB):Option Bool:=
 bif t140 then (
  some false
 )else (
  (Zp7 d 7).bind fun(c,t141)=>
  (Zod big (c.Cells.length:Int) (0:Int) c ([]:Str) ([]:(List ZnD))).bind fun(x0,x1,x2)=>ZpK x0 x1 x2
 )
def ZoK (p:Int) (d:ZnB) (a:(List ZnA)) (b:(List ZnA)) (k:ZnA) (x_:(List ZnA)) (y:(List ZnA)):Option Bool:=
 (ZoT p 8).bind fun q=>
 (Zp8 a q 7).bind fun(u,e)=>
 (ZoT p 8).bind fun q_1=>
 (Zp8 x_ q_1 7).bind fun(v_,f)=>
 (Zot a b).bind fun(m,g)=>
 (Zot x_ y).bind fun(n,h_)=>
 bif (e != 0)then (
  ZnJ true d
 )else (
  bif (f != 0)then (
   ZnJ true d
  )else (
   bif (g != 0)then (
    ZnJ true d
   )else (
    bif (h_ != 0)then (
     ZnJ true d
    )else (
     (ZoU u k).bind fun q_2=>
     (ZnY q_2 v_).bind fun q_3=>
     bif (!q_3)then (
      ZnJ true d
     )else (
      (ZnY m n).bind fun q_4=>
      bif (!q_4)then (
       ZnJ true d
      )else (
       (Zrk a b).bind fun q_5=>
       (Zrk x_ y).bind fun q_6=>
       (ZnY q_5 q_6).bind fun q_7=>
       ZnJ (!q_7) d
      )
     )
    )
   )
  )
 )
def Zoz (rec_:Int→Int→Int→ZnB→(List ZnA)→(List ZnA)→ZnA→(List ZnA)→(List ZnA)→Option (Int×ZnB×(List ZnA)×(List ZnA)×ZnA×(List ZnA)×(List ZnA))) (p:Int) (t65:Int) (t66:Int) (d:ZnB) (a:(List ZnA)) (b:(List ZnA)) (k:ZnA) (x_:(List ZnA)) (y:(List ZnA)):Option (Int×ZnB×(List ZnA)×(List ZnA)×ZnA×(List ZnA)×(List ZnA)):=
 bif (decide (t66 < t65))then (
  chk (inR t66 (b.length:Int)) <|
  (b[(t66).toNat]?).bind fun f=>
  (ZoU f k).bind fun q=>
  chk (ZiZ (y.length+([q]:(List ZnA)).length) 64) <|
  chk (inK .i64 (t66+1)) <|
  rec_ p t65 (t66+1) d a b k x_ (y++([q]:(List ZnA)))
 )else (
  some (p,d,a,b,k,x_,y)
 )
def Zoe:Nat→Int→Int→Int→ZnB→(List ZnA)→(List ZnA)→ZnA→(List ZnA)→(List ZnA)→Option (Int×ZnB×(List ZnA)×(List ZnA)×ZnA×(List ZnA)×(List ZnA))
 |0,_,_,_,_,_,_,_,_,_=>none
 |n_+1,p,t65,t66,d,a,b,k,x_,y=>Zoz (Zoe n_) p t65 t66 d a b k x_ y
def Zra (n:Nat) (s:(Int×Int×Int×ZnB×(List ZnA)×(List ZnA)×ZnA×(List ZnA)×(List ZnA))):Option (Int×ZnB×(List ZnA)×(List ZnA)×ZnA×(List ZnA)×(List ZnA)):=Zoe n s.1 s.2.1 s.2.2.1 s.2.2.2.1 s.2.2.2.2.1 s.2.2.2.2.2.1 s.2.2.2.2.2.2.1 s.2.2.2.2.2.2.2.1 s.2.2.2.2.2.2.2.2
def Zph (rec_:(Int×Int×Int×ZnB×(List ZnA)×(List ZnA)×ZnA×(List ZnA)×(List ZnA))→Option (Int×ZnB×(List ZnA)×(List ZnA)×ZnA×(List ZnA)×(List ZnA))) (s:(Int×Int×Int×ZnB×(List ZnA)×(List ZnA)×ZnA×(List ZnA)×(List ZnA))):Option (Int×ZnB×(List ZnA)×(List ZnA)×ZnA×(List ZnA)×(List ZnA)):=Zoz (fun p t65 t66 d a b k x_ y=>rec_ (p,t65,t66,d,a,b,k,x_,y)) s.1 s.2.1 s.2.2.1 s.2.2.2.1 s.2.2.2.2.1 s.2.2.2.2.2.1 s.2.2.2.2.2.2.1 s.2.2.2.2.2.2.2.1 s.2.2.2.2.2.2.2.2
theorem ZtH:∀n s,Zra (n+1) s=Zph (Zra n) s:=fun _ _=>rfl
def ZpL (p:Int) (d:ZnB) (a:(List ZnA)) (b:(List ZnA)) (k:ZnA) (x_:(List ZnA)) (y:(List ZnA)):Option Bool:=
 (Zoe big p (b.length:Int) (0:Int) d a b k x_ y).bind fun(x0,x1,x2,x3,x4,x5,x6)=>ZoK x0 x1 x2 x3 x4 x5 x6
def ZoA (rec_:Int→Int→Int→ZnB→(List ZnA)→(List ZnA)→ZnA→(List ZnA)→(List ZnA)→Option (Int×ZnB×(List ZnA)×(List ZnA)×ZnA×(List ZnA)×(List ZnA))) (p:Int) (t52:Int) (t53:Int) (d:ZnB) (a:(List ZnA)) (b:(List ZnA)) (k:ZnA) (x_:(List ZnA)) (y:(List ZnA)):Option (Int×ZnB×(List ZnA)×(List ZnA)×ZnA×(List ZnA)×(List ZnA)):=
 bif (decide (t53 < t52))then (
  chk (inR t53 (a.length:Int)) <|
  (a[(t53).toNat]?).bind fun f=>
  (ZoU f k).bind fun q=>
  chk (ZiZ (x_.length+([q]:(List ZnA)).length) 64) <|
  chk (inK .i64 (t53+1)) <|
  rec_ p t52 (t53+1) d a b k (x_++([q]:(List ZnA))) y
 )else (
  some (p,d,a,b,k,x_,y)
 )
def Zof:Nat→Int→Int→Int→ZnB→(List ZnA)→(List ZnA)→ZnA→(List ZnA)→(List ZnA)→Option (Int×ZnB×(List ZnA)×(List ZnA)×ZnA×(List ZnA)×(List ZnA))
 |0,_,_,_,_,_,_,_,_,_=>none
 |n_+1,p,t52,t53,d,a,b,k,x_,y=>ZoA (Zof n_) p t52 t53 d a b k x_ y
def Zrb (n:Nat) (s:(Int×Int×Int×ZnB×(List ZnA)×(List ZnA)×ZnA×(List ZnA)×(List ZnA))):Option (Int×ZnB×(List ZnA)×(List ZnA)×ZnA×(List ZnA)×(List ZnA)):=Zof n s.1 s.2.1 s.2.2.1 s.2.2.2.1 s.2.2.2.2.1 s.2.2.2.2.2.1 s.2.2.2.2.2.2.1 s.2.2.2.2.2.2.2.1 s.2.2.2.2.2.2.2.2
def Zpi (rec_:(Int×Int×Int×ZnB×(List ZnA)×(List ZnA)×ZnA×(List ZnA)×(List ZnA))→Option (Int×ZnB×(List ZnA)×(List ZnA)×ZnA×(List ZnA)×(List ZnA))) (s:(Int×Int×Int×ZnB×(List ZnA)×(List ZnA)×ZnA×(List ZnA)×(List ZnA))):Option (Int×ZnB×(List ZnA)×(List ZnA)×ZnA×(List ZnA)×(List ZnA)):=ZoA (fun p t52 t53 d a b k x_ y=>rec_ (p,t52,t53,d,a,b,k,x_,y)) s.1 s.2.1 s.2.2.1 s.2.2.2.1 s.2.2.2.2.1 s.2.2.2.2.2.1 s.2.2.2.2.2.2.1 s.2.2.2.2.2.2.2.1 s.2.2.2.2.2.2.2.2
theorem ZtI:∀n s,Zrb (n+1) s=Zpi (Zrb n) s:=fun _ _=>rfl
def Zog (by_:Int) (p:Int) (t45:Bool) (d:ZnB) (a:(List ZnA)) (b:(List ZnA)):Option Bool:=
 bif t45 then (
  (ZoC).bind fun q=>
  some q
 )else (
  (ZoT by_ 50).bind fun q_1=>
  chk (inK .i64 (q_1 - 25)) <|
  (ZnN (q_1 - 25)).bind fun k=>
  (Zof big p (a.length:Int) (0:Int) d a b k ([]:(List ZnA)) ([]:(List ZnA))).bind fun(x0,x1,x2,x3,x4,x5,x6)=>ZpL x0 x1 x2 x3 x4 x5 x6
 )
def Zo2 (t:(List Int)) (by_:Int) (p:Int):Option Bool:=
 (ZrF t).bind fun q=>
 bif (!q)then (
  (ZoC).bind fun q_1=>
  some q_1
 )else (
  (ZrX t).bind fun d=>
  (ZoI d 8).bind fun(a,t34)=>
  (ZoI t34 8).bind fun(b,t36)=>
  bif ((a.length:Int) == 0)then (
   Zog by_ p true t36 a b
  )else (
   Zog by_ p ((b.length:Int) == 0) t36 a b
  )
 )
end
end Go.Proofs

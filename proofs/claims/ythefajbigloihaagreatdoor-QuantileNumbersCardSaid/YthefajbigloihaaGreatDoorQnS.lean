/- Printed by wip/tools/tgen.py: specs. -/
import Derived.Test.YthefajbigloihaaGreatDoorE4
import Derived.Lib.Bytealg
import Derived.Lib.ItoaNum
import Derived.Lib.SlTrimSet
import Derived.Shelf.Strconv.Itoa3
set_option linter.unusedVariables false
set_option linter.unusedSimpArgs false
set_option linter.unusedSectionVars false
namespace Go.Proofs
open Go Eng
set_option maxRecDepth 100000
noncomputable section
structure G_api_Cell where
 Null:Bool
 Text:Str
 deriving DecidableEq,Inhabited
structure G_api_Column where
 Name:Str
 Cells:(List G_api_Cell)
 deriving DecidableEq,Inhabited
structure ZnD where
 Neg:Bool
 Words:(List Int)
 deriving DecidableEq,Inhabited
structure ZnA where
 Num:ZnD
 Den:ZnD
 deriving DecidableEq,Inhabited
structure ZpZ where
 word:Str
 canonical:(Option Nat)
 value:(Option Nat)
 deriving DecidableEq,Inhabited
structure ZnG where
 l:(List Int)
 at_:Int
 deriving DecidableEq,Inhabited
structure ZnJ where
 e0:G_api_Column
 e1:G_api_Column
 deriving DecidableEq,Inhabited
def ZAM:Nat→Type
 |0=>G_api_Cell
 |1=>G_api_Column
 |2=>ZnD
 |3=>ZnA
 |4=>ZpZ
 |5=>ZnG
 |6=>ZnJ
 |_=>Unit
def ZKM:Nat→Nat
 |0=>2
 |1=>2
 |2=>2
 |3=>4
 |4=>3
 |5=>2
 |6=>4
 |_=>0
def ZBW:List (Lf ZAM):=[⟨.sl (.int .u32),([1]:List Int)⟩]
def ZyR:List (Lf ZAM):=(Lib.pow10Tab.map fun n=>⟨.int .u64,n⟩)
def Zvn (t:(List Int)):Option Bool:=
 some (decide ((t.length:Int)≤500))
def Zyo (w_:(List Int)):Option (List Int):=
 some w_
def ZvA (rec_:(List Int)→Option (List Int)) (w_:(List Int)) (t14:Bool):Option (List Int):=
 bif t14 then (
  chk (inK .i64 ((w_.length:Int) - 1)) <|
  chk (Zb9 0 ((w_.length:Int) - 1) (w_.length:Int)) <|
  rec_ (w_.take (((w_.length:Int) - 1)).toNat)
 )else (
  some w_
 )
def ZxD (rec_:(List Int)→Option (List Int)) (w_:(List Int)):Option (List Int):=
 bif (decide ((w_.length:Int) > 0))then (
  chk (inK .i64 ((w_.length:Int) - 1)) <|
  (idx w_ ((w_.length:Int) - 1)).bind fun w__e=>
  ZvA rec_ w_ (w__e == 0)
 )else (
  ZvA rec_ w_ false
 )
def Zpw:Nat→(List Int)→Option (List Int)
 |0,_=>none
 |n_+1,w_=>ZxD (Zpw n_) w_
def Zoo (w_:(List Int)):Option (List Int):=
 (Zpw big w_).bind fun x0=>Zyo x0
def Zt2 (t4:ZnD):Option ZnD:=
 some t4
def Zn4 (neg:Bool) (w_:(List Int)):Option ZnD:=
 (Zoo w_).bind fun w__1=>
 bif neg then (
  Zt2 (ZnD.mk (decide ((w__1.length:Int) > 0)) w__1)
 )else (
  Zt2 (ZnD.mk false w__1)
 )
def Zr8 (n:Int) (u:Int) (t2:Bool) (t2_1:(List Int)):Option ZnD:=
 chk (decide (0≤(32:Int))) <|
 (Zn4 (decide (n < 0)) ([(IntKind.wrap .u32 u),(IntKind.wrap .u32 (shrK .u64 u 32))]:(List Int))).bind fun q=>
 some q
def ZnZ (n:Int):Option ZnD:=
 bif (decide (n < 0))then (
  Zr8 n (IntKind.wrap .u64 (0 - (IntKind.wrap .u64 n))) false ([]:(List Int))
 )else (
  Zr8 n (IntKind.wrap .u64 n) false ([]:(List Int))
 )
def ZoC (t2:Bool):Option Bool:=
 some t2
def Zpd (a:ZnD):Option Bool:=
 bif (decide ((a.Words.length:Int)≤256))then (
  bif ((a.Words.length:Int) == 0)then (
   bif (!a.Neg)then (
    ZoC true
   )else (
    bif (decide ((a.Words.length:Int) > 0))then (
     chk (inK .i64 ((a.Words.length:Int) - 1)) <|
     (idx a.Words ((a.Words.length:Int) - 1)).bind fun Word=>
     ZoC (Word != 0)
    )else (
     ZoC false
    )
   )
  )else (
   bif (decide ((a.Words.length:Int) > 0))then (
    chk (inK .i64 ((a.Words.length:Int) - 1)) <|
    (idx a.Words ((a.Words.length:Int) - 1)).bind fun Word_1=>
    ZoC (Word_1 != 0)
   )else (
    ZoC false
   )
  )
 )else (
  ZoC false
 )
def ZvB (out:(List Int)):Option (List Int):=
 (Zoo out).bind fun q=>
 some q
def Zrp (rec_:(List Int)→Int→Int→(List Int)→Option (List Int)) (a:(List Int)) (t9:Int) (i:Int) (out:(List Int)):Option (List Int):=
 chk (inK .i64 (i+1)) <|
 rec_ a t9 (i+1) out
def Zsx (rec_:(List Int)→Int→Int→(List Int)→Option (List Int)) (a:(List Int)) (t9:Int) (i:Int) (out:(List Int)):Option (List Int):=
 bif (decide (i < t9))then (
  chk (inR i (out.length:Int)) <|
  (out[(i).toNat]?).bind fun out_e=>
  chk (decide (0≤(1:Int))) <|
  chk (inR i (out.length:Int)) <|
  chk (inK .i64 (i+1)) <|
  bif (decide ((i+1) < (a.length:Int)))then (
   chk (inR i ((out.set ((i).toNat) (shrK .u32 out_e 1)).length:Int)) <|
   ((out.set ((i).toNat) (shrK .u32 out_e 1))[(i).toNat]?).bind fun e_e=>
   chk (inK .i64 (i+1)) <|
   (idx a (i+1)).bind fun a_e=>
   chk (decide (0≤(31:Int))) <|
   chk (inR i ((out.set ((i).toNat) (shrK .u32 out_e 1)).length:Int)) <|
   Zrp rec_ a t9 i ((out.set ((i).toNat) (shrK .u32 out_e 1)).set ((i).toNat) (orK .u32 e_e (shlK .u32 a_e 31)))
  )else (
   Zrp rec_ a t9 i (out.set ((i).toNat) (shrK .u32 out_e 1))
  )
 )else (
  some out
 )
def Zro:Nat→(List Int)→Int→Int→(List Int)→Option (List Int)
 |0,_,_,_,_=>none
 |n_+1,a,t9,i,out=>Zsx (Zro n_) a t9 i out
def ZxE (n:Nat) (s:((List Int)×Int×Int×(List Int))):Option (List Int):=Zro n s.1 s.2.1 s.2.2.1 s.2.2.2
def ZuP (rec_:((List Int)×Int×Int×(List Int))→Option (List Int)) (s:((List Int)×Int×Int×(List Int))):Option (List Int):=Zsx (fun a t9 i out=>rec_ (a,t9,i,out)) s.1 s.2.1 s.2.2.1 s.2.2.2
theorem ZzD:∀n s,ZxE (n+1) s=ZuP (ZxE n) s:=fun _ _=>rfl
def ZpB (a:(List Int)):Option (List Int):=
 chk (ZiZ (([]:(List Int)).length+a.length) 4) <|
 (Zro big a ((([]:(List Int))++a).length:Int) (0:Int) (([]:(List Int))++a)).bind fun x0=>ZvB x0
def Zwc:Option Int:=
 some (0:Int)
def ZsJ (rec_:(List Int)→(List Int)→Int→Option (Out Unit Int)) (a:(List Int)) (b:(List Int)) (i:Int):Option (Out Unit Int):=
 bif (decide (i≥0))then (
  (idx a i).bind fun a_e=>
  (idx b i).bind fun b_e=>
  bif (decide (a_e < b_e))then (
   some (.ret (-1:Int))
  )else (
   (idx a i).bind fun a_e_1=>
   (idx b i).bind fun b_e_1=>
   bif (decide (a_e_1 > b_e_1))then (
    some (.ret (1:Int))
   )else (
    chk (inK .i64 (i - 1)) <|
    rec_ a b (i - 1)
   )
  )
 )else (
  some (.brk ())
 )
def Zt1:Nat→(List Int)→(List Int)→Int→Option (Out Unit Int)
 |0,_,_,_=>none
 |n_+1,a,b,i=>ZsJ (Zt1 n_) a b i
def ZxT (n:Nat) (s:((List Int)×(List Int)×Int)):Option (Out Unit Int):=Zt1 n s.1 s.2.1 s.2.2
def Zu8 (rec_:((List Int)×(List Int)×Int)→Option (Out Unit Int)) (s:((List Int)×(List Int)×Int)):Option (Out Unit Int):=ZsJ (fun a b i=>rec_ (a,b,i)) s.1 s.2.1 s.2.2
theorem ZzX:∀n s,ZxT (n+1) s=Zu8 (ZxT n) s:=fun _ _=>rfl
def ZoO (a:(List Int)) (b:(List Int)):Option Int:=
 bif ((a.length:Int) != (b.length:Int))then (
  bif (decide ((a.length:Int) < (b.length:Int)))then (
   some (-1:Int)
  )else (
   some (1:Int)
  )
 )else (
  chk (inK .i64 ((a.length:Int) - 1)) <|
  (Zt1 big a b ((a.length:Int) - 1)).bind fun
   | .ret q_=>some q_
   | .brk ()=>Zwc
 )
def Zv3 (out:(List Int)):Option (List Int):=
 (Zoo out).bind fun q=>
 some q
def ZrR (rec_:(List Int)→(List Int)→Int→Int→(List Int)→Option (List Int)) (a:(List Int)) (b:(List Int)) (c:Int) (i:Int) (out:(List Int)):Option (List Int):=
 chk (ZiZ (out.length+([(IntKind.wrap .u32 c)]:(List Int)).length) 4) <|
 chk (decide (0≤(32:Int))) <|
 chk (inK .i64 (i+1)) <|
 rec_ a b (shrK .i64 c 32) (i+1) (out++([(IntKind.wrap .u32 c)]:(List Int)))
def ZsF (rec_:(List Int)→(List Int)→Int→Int→(List Int)→Option (List Int)) (a:(List Int)) (b:(List Int)) (c:Int) (i:Int) (out:(List Int)):Option (List Int):=
 bif (decide (i < (a.length:Int)))then (
  (idx a i).bind fun a_e=>
  chk (inK .i64 (c+(IntKind.wrap .i64 a_e))) <|
  bif (decide (i < (b.length:Int)))then (
   (idx b i).bind fun b_e=>
   chk (inK .i64 ((c+(IntKind.wrap .i64 a_e)) - (IntKind.wrap .i64 b_e))) <|
   ZrR rec_ a b ((c+(IntKind.wrap .i64 a_e)) - (IntKind.wrap .i64 b_e)) i out
  )else (
   ZrR rec_ a b (c+(IntKind.wrap .i64 a_e)) i out
  )
 )else (
  some out
 )
def ZrQ:Nat→(List Int)→(List Int)→Int→Int→(List Int)→Option (List Int)
 |0,_,_,_,_,_=>none
 |n_+1,a,b,c,i,out=>ZsF (ZrQ n_) a b c i out
def ZxP (n:Nat) (s:((List Int)×(List Int)×Int×Int×(List Int))):Option (List Int):=ZrQ n s.1 s.2.1 s.2.2.1 s.2.2.2.1 s.2.2.2.2
def Zu2 (rec_:((List Int)×(List Int)×Int×Int×(List Int))→Option (List Int)) (s:((List Int)×(List Int)×Int×Int×(List Int))):Option (List Int):=ZsF (fun a b c i out=>rec_ (a,b,c,i,out)) s.1 s.2.1 s.2.2.1 s.2.2.2.1 s.2.2.2.2
theorem ZzT:∀n s,ZxP (n+1) s=Zu2 (ZxP n) s:=fun _ _=>rfl
def ZpX (a:(List Int)) (b:(List Int)):Option (List Int):=
 (ZrQ big a b (0:Int) (0:Int) ([]:(List Int))).bind fun x0=>Zv3 x0
def Zu1 (d:Int) (out:(List Int)):Option (List Int):=
 chk (ZiZ (out.length+([d]:(List Int)).length) 4) <|
 (Zoo (out++([d]:(List Int)))).bind fun q=>
 some q
def Zr6 (rec_:(List Int)→Int→Int→(List Int)→Option (Int×(List Int))) (a:(List Int)) (d:Int) (i:Int) (out:(List Int)):Option (Int×(List Int)):=
 bif (decide (i < (a.length:Int)))then (
  (idx a i).bind fun a_e=>
  chk (decide (0≤(1:Int))) <|
  chk (ZiZ (out.length+([(orK .u32 (shlK .u32 a_e 1) d)]:(List Int)).length) 4) <|
  (idx a i).bind fun a_e_1=>
  chk (decide (0≤(31:Int))) <|
  chk (inK .i64 (i+1)) <|
  rec_ a (shrK .u32 a_e_1 31) (i+1) (out++([(orK .u32 (shlK .u32 a_e 1) d)]:(List Int)))
 )else (
  some (d,out)
 )
def ZsE:Nat→(List Int)→Int→Int→(List Int)→Option (Int×(List Int))
 |0,_,_,_,_=>none
 |n_+1,a,d,i,out=>Zr6 (ZsE n_) a d i out
def Zxj (n:Nat) (s:((List Int)×Int×Int×(List Int))):Option (Int×(List Int)):=ZsE n s.1 s.2.1 s.2.2.1 s.2.2.2
def Zup (rec_:((List Int)×Int×Int×(List Int))→Option (Int×(List Int))) (s:((List Int)×Int×Int×(List Int))):Option (Int×(List Int)):=Zr6 (fun a d i out=>rec_ (a,d,i,out)) s.1 s.2.1 s.2.2.1 s.2.2.2
theorem Zzo:∀n s,Zxj (n+1) s=Zup (Zxj n) s:=fun _ _=>rfl
def Zq0 (a:(List Int)) (d:Int):Option (List Int):=
 (ZsE big a d (0:Int) ([]:(List Int))).bind fun(x0,x1)=>Zu1 x0 x1
def Zv6 (a:(List Int)):Option (List Int):=
 some a
def Zq7 (rec_:(List Int)→Int→Option (List Int)) (a:(List Int)) (k:Int):Option (List Int):=
 bif (decide (k > 0))then (
  (Zq0 a 0).bind fun a_1=>
  chk (inK .i64 (k - 1)) <|
  rec_ a_1 (k - 1)
 )else (
  some a
 )
def Zqx:Nat→(List Int)→Int→Option (List Int)
 |0,_,_=>none
 |n_+1,a,k=>Zq7 (Zqx n_) a k
def Zv7 (a:(List Int)) (k:Int):Option (List Int):=
 (Zqx big a k).bind fun x0=>Zv6 x0
def ZtZ (rec_:(List Int)→(List Int)→Int→Option ((List Int)×Int)) (a:(List Int)) (b:(List Int)) (k:Int):Option ((List Int)×Int):=
 (ZpX b a).bind fun b_1=>
 rec_ a b_1 k
def Zv8 (rec_:(List Int)→(List Int)→Int→Option ((List Int)×Int)) (a:(List Int)) (b:(List Int)) (k:Int):Option ((List Int)×Int):=
 (ZoO a b).bind fun q=>
 bif (decide (q > 0))then (
  ZtZ rec_ b a k
 )else (
  ZtZ rec_ a b k
 )
def Zu5 (rec_:(List Int)→(List Int)→Int→Option ((List Int)×(List Int)×Int)) (a:(List Int)) (b:(List Int)) (k:Int):Option ((List Int)×(List Int)×Int):=
 (idx b 0).bind fun b_e=>
 bif ((andK .u32 b_e 1) == 0)then (
  (ZpB b).bind fun b_1=>
  rec_ a b_1 k
 )else (
  some (a,b,k)
 )
def Zo1:Nat→(List Int)→(List Int)→Int→Option ((List Int)×(List Int)×Int)
 |0,_,_,_=>none
 |n_+1,a,b,k=>Zu5 (Zo1 n_) a b k
def Zv9 (rec_:(List Int)→(List Int)→Int→Option ((List Int)×Int)) (a:(List Int)) (b:(List Int)) (k:Int):Option ((List Int)×Int):=
 (Zo1 big a b k).bind fun(x0,x1,x2)=>Zv8 rec_ x0 x1 x2
def Zq8 (rec_:(List Int)→(List Int)→Int→Option ((List Int)×(List Int)×Int)) (a:(List Int)) (b:(List Int)) (k:Int):Option ((List Int)×(List Int)×Int):=
 (idx a 0).bind fun a_e=>
 bif ((andK .u32 a_e 1) == 0)then (
  (ZpB a).bind fun a_1=>
  rec_ a_1 b k
 )else (
  some (a,b,k)
 )
def Zo2:Nat→(List Int)→(List Int)→Int→Option ((List Int)×(List Int)×Int)
 |0,_,_,_=>none
 |n_+1,a,b,k=>Zq8 (Zo2 n_) a b k
def Zq9 (rec_:(List Int)→(List Int)→Int→Option ((List Int)×Int)) (a:(List Int)) (b:(List Int)) (k:Int):Option ((List Int)×Int):=
 bif (decide ((b.length:Int) > 0))then (
  (Zo2 big a b k).bind fun(x0,x1,x2)=>Zv9 rec_ x0 x1 x2
 )else (
  some (a,k)
 )
def Zn9:Nat→(List Int)→(List Int)→Int→Option ((List Int)×Int)
 |0,_,_,_=>none
 |n_+1,a,b,k=>Zq9 (Zn9 n_) a b k
def Zwa (a:(List Int)) (b:(List Int)) (k:Int):Option (List Int):=
 (Zn9 big a b k).bind fun(x0,x1)=>Zv7 x0 x1
def Zt0 (rec_:(List Int)→(List Int)→Int→Option ((List Int)×(List Int)×Int)) (a:(List Int)) (b:(List Int)) (k:Int) (t17:Bool):Option ((List Int)×(List Int)×Int):=
 bif t17 then (
  (ZpB a).bind fun a_1=>
  (ZpB b).bind fun b_1=>
  chk (inK .i64 (k+1)) <|
  rec_ a_1 b_1 (k+1)
 )else (
  some (a,b,k)
 )
def Zu6 (rec_:(List Int)→(List Int)→Int→Option ((List Int)×(List Int)×Int)) (a:(List Int)) (b:(List Int)) (k:Int):Option ((List Int)×(List Int)×Int):=
 (idx a 0).bind fun a_e=>
 bif ((andK .u32 a_e 1) == 0)then (
  (idx b 0).bind fun b_e=>
  Zt0 rec_ a b k ((andK .u32 b_e 1) == 0)
 )else (
  Zt0 rec_ a b k false
 )
def Zqy:Nat→(List Int)→(List Int)→Int→Option ((List Int)×(List Int)×Int)
 |0,_,_,_=>none
 |n_+1,a,b,k=>Zu6 (Zqy n_) a b k
def ZrI (a:(List Int)) (b:(List Int)):Option (List Int):=
 (Zqy big a b (0:Int)).bind fun(x0,x1,x2)=>Zwa x0 x1 x2
def Ztz (a:(List Int)) (i:Int):Option Int:=
 chk (decide ((32:Int)≠0)) <|
 chk (inK .i64 (Int.tdiv i 32)) <|
 (idx a (Int.tdiv i 32)).bind fun a_e=>
 chk (decide ((32:Int)≠0)) <|
 chk (decide (0≤(IntKind.wrap .u64 (Int.tmod i 32)))) <|
 some (andK .u32 (shrK .u32 a_e (IntKind.wrap .u64 (Int.tmod i 32))) 1)
def Zwb (r_:(List Int)) (q:(List Int)):Option ((List Int)×(List Int)):=
 (Zoo q).bind fun q_1=>
 some (q_1,r_)
def ZrV (rec_:(List Int)→(List Int)→(List Int)→Int→(List Int)→Option ((List Int)×(List Int))) (a:(List Int)) (b:(List Int)) (r_:(List Int)) (i:Int) (q:(List Int)):Option ((List Int)×(List Int)):=
 chk (inK .i64 (i - 1)) <|
 rec_ a b r_ (i - 1) q
def ZsI (rec_:(List Int)→(List Int)→(List Int)→Int→(List Int)→Option ((List Int)×(List Int))) (a:(List Int)) (b:(List Int)) (r_:(List Int)) (i:Int) (q:(List Int)):Option ((List Int)×(List Int)):=
 bif (decide (i≥0))then (
  (Ztz a i).bind fun q_1=>
  (Zq0 r_ q_1).bind fun r__1=>
  (ZoO r__1 b).bind fun q_2=>
  bif (decide (q_2≥0))then (
   (ZpX r__1 b).bind fun r__2=>
   chk (decide ((32:Int)≠0)) <|
   chk (inK .i64 (Int.tdiv i 32)) <|
   chk (inR (Int.tdiv i 32) (q.length:Int)) <|
   (q[((Int.tdiv i 32)).toNat]?).bind fun q_e=>
   chk (decide ((32:Int)≠0)) <|
   chk (decide (0≤(IntKind.wrap .u64 (Int.tmod i 32)))) <|
   chk (inR (Int.tdiv i 32) (q.length:Int)) <|
   ZrV rec_ a b r__2 i (q.set (((Int.tdiv i 32)).toNat) (orK .u32 q_e (shlK .u32 1 (IntKind.wrap .u64 (Int.tmod i 32)))))
  )else (
   ZrV rec_ a b r__1 i q
  )
 )else (
  some (r_,q)
 )
def ZrU:Nat→(List Int)→(List Int)→(List Int)→Int→(List Int)→Option ((List Int)×(List Int))
 |0,_,_,_,_,_=>none
 |n_+1,a,b,r_,i,q=>ZsI (ZrU n_) a b r_ i q
def ZxS (n:Nat) (s:((List Int)×(List Int)×(List Int)×Int×(List Int))):Option ((List Int)×(List Int)):=ZrU n s.1 s.2.1 s.2.2.1 s.2.2.2.1 s.2.2.2.2
def Zu7 (rec_:((List Int)×(List Int)×(List Int)×Int×(List Int))→Option ((List Int)×(List Int))) (s:((List Int)×(List Int)×(List Int)×Int×(List Int))):Option ((List Int)×(List Int)):=ZsI (fun a b r_ i q=>rec_ (a,b,r_,i,q)) s.1 s.2.1 s.2.2.1 s.2.2.2.1 s.2.2.2.2
theorem ZzW:∀n s,ZxS (n+1) s=Zu7 (ZxS n) s:=fun _ _=>rfl
def ZrJ (a:(List Int)) (b:(List Int)):Option ((List Int)×(List Int)):=
 chk (mkOk (a.length:Int) (a.length:Int) 4) <|
 chk (inK .i64 (32*(a.length:Int))) <|
 chk (inK .i64 ((32*(a.length:Int)) - 1)) <|
 (ZrU big a b ([]:(List Int)) ((32*(a.length:Int)) - 1) (List.replicate ((a.length:Int)).toNat (0:Int))).bind fun(x0,x1)=>Zwb x0 x1
def ZpK (num:ZnD) (den:ZnD):Option ZnA:=
 bif ((num.Words.length:Int) == 0)then (
  (ZnZ 1).bind fun q=>
  some (ZnA.mk (ZnD.mk false ([]:(List Int))) q)
 )else (
  (ZrI num.Words den.Words).bind fun g=>
  (ZrJ num.Words g).bind fun(x_,q_1)=>
  (ZrJ den.Words g).bind fun(y,q_2)=>
  (Zn4 (!(num.Neg == den.Neg)) x_).bind fun q_3=>
  (Zn4 false y).bind fun q_4=>
  some (ZnA.mk q_3 q_4)
 )
def Zts (t13:Bool) (num:ZnD) (den:ZnD) (t4:Bool) (t4_1:Bool) (t4_2:(List Int)) (t4_3:(List Int)):Option (ZnA×Int):=
 bif t13 then (
  some ((ZnA.mk (ZnD.mk false ([]:(List Int))) (ZnD.mk false ([]:(List Int)))),1)
 )else (
  bif ((den.Words.length:Int) == 0)then (
   some ((ZnA.mk (ZnD.mk false ([]:(List Int))) (ZnD.mk false ([]:(List Int)))),8)
  )else (
   (ZpK num den).bind fun q=>
   some (q,0)
  )
 )
def ZsN (num:ZnD) (den:ZnD):Option (ZnA×Int):=
 (Zpd num).bind fun q=>
 bif (!q)then (
  Zts true num den false false ([]:(List Int)) ([]:(List Int))
 )else (
  (Zpd den).bind fun q_1=>
  Zts (!q_1) num den false false ([]:(List Int)) ([]:(List Int))
 )
def Zsk (num:Int) (den:Int):Option (ZnA×Int):=
 (ZnZ num).bind fun q=>
 (ZnZ den).bind fun q_1=>
 (ZsN q q_1).bind fun(q_2,q_3)=>
 some (q_2,q_3)
def ZoB (n:Int) (d:Int):Option ZnA:=
 (Zsk n d).bind fun(f,q)=>
 some f
def ZnY (n:Int):Option ZnA:=
 (ZoB n 1).bind fun q=>
 some q
def ZwL (x_:Int) (y:Int):Option (Int×Int):=
 chk (decide (0≤(32:Int))) <|
 chk (decide (0≤(32:Int))) <|
 chk (decide (0≤(32:Int))) <|
 chk (decide (0≤(32:Int))) <|
 chk (decide (0≤(32:Int))) <|
 some ((IntKind.wrap .u64 ((IntKind.wrap .u64 ((IntKind.wrap .u64 ((shrK .u64 x_ 32)*(shrK .u64 y 32)))+(shrK .u64 (IntKind.wrap .u64 ((IntKind.wrap .u64 ((shrK .u64 x_ 32)*(andK .u64 y 4294967295)))+(shrK .u64 (IntKind.wrap .u64 ((andK .u64 x_ 4294967295)*(andK .u64 y 4294967295))) 32))) 32)))+(shrK .u64 (IntKind.wrap .u64 ((andK .u64 (IntKind.wrap .u64 ((IntKind.wrap .u64 ((shrK .u64 x_ 32)*(andK .u64 y 4294967295)))+(shrK .u64 (IntKind.wrap .u64 ((andK .u64 x_ 4294967295)*(andK .u64 y 4294967295))) 32))) 4294967295)+(IntKind.wrap .u64 ((andK .u64 x_ 4294967295)*(shrK .u64 y 32))))) 32))),(IntKind.wrap .u64 (x_*y)))
def Zyi (x y c:Int):Option (Int×Int):=
 chk (decide (0≤c∧c≤1)) <| some ((x+y+c) % 18446744073709551616,(x+y+c) / 18446744073709551616)
def Zyu (x_:Int) (n:Int):Option Int:=
 (idx ([0,1,2,2,3,3,3,3,4,4,4,4,4,4,4,4,5,5,5,5,5,5,5,5,5,5,5,5,5,5,5,5,6,6,6,6,6,6,6,6,6,6,6,6,6,6,6,6,6,6,6,6,6,6,6,6,6,6,6,6,6,6,6,6,7,7,7,7,7,7,7,7,7,7,7,7,7,7,7,7,7,7,7,7,7,7,7,7,7,7,7,7,7,7,7,7,7,7,7,7,7,7,7,7,7,7,7,7,7,7,7,7,7,7,7,7,7,7,7,7,7,7,7,7,7,7,7,7,8,8,8,8,8,8,8,8,8,8,8,8,8,8,8,8,8,8,8,8,8,8,8,8,8,8,8,8,8,8,8,8,8,8,8,8,8,8,8,8,8,8,8,8,8,8,8,8,8,8,8,8,8,8,8,8,8,8,8,8,8,8,8,8,8,8,8,8,8,8,8,8,8,8,8,8,8,8,8,8,8,8,8,8,8,8,8,8,8,8,8,8,8,8,8,8,8,8,8,8,8,8,8,8,8,8,8,8,8,8,8,8,8,8,8,8,8,8,8,8,8,8,8,8,8,8,8,8]:Str) (IntKind.wrap .u8 x_)).bind fun c=>
 chk (inK .i64 (n+(IntKind.wrap .i64 ((c.toNat:Nat):Int)))) <|
 some (n+(IntKind.wrap .i64 ((c.toNat:Nat):Int)))
def Zyv (x_:Int) (n:Int):Option Int:=
 bif (decide (x_≥256))then (
  chk (decide (0≤(8:Int))) <|
  chk (inK .i64 (n+8)) <|
  Zyu (shrK .u64 x_ 8) (n+8)
 )else (
  Zyu x_ n
 )
def Zyw (x_:Int) (n:Int):Option Int:=
 bif (decide (x_≥65536))then (
  chk (decide (0≤(16:Int))) <|
  chk (inK .i64 (n+16)) <|
  Zyv (shrK .u64 x_ 16) (n+16)
 )else (
  Zyv x_ n
 )
def Zyh (x_:Int):Option Int:=
 bif (decide (x_≥4294967296))then (
  chk (decide (0≤(32:Int))) <|
  Zyw (shrK .u64 x_ 32) (32:Int)
 )else (
  Zyw x_ (0:Int)
 )
def ZvG (x_:Int):Option Int:=
 (Zyh x_).bind fun q=>
 chk (inK .i64 (64 - q)) <|
 some (64 - q)
def ZzK (y:Int) (s:Int) (un0:Int) (q1:Int) (un21:Int) (q0:Int):Option (Int×Int):=
 chk (decide (0≤s)) <|
 some ((IntKind.wrap .u64 ((IntKind.wrap .u64 (q1*4294967296))+q0)),(shrK .u64 (IntKind.wrap .u64 ((IntKind.wrap .u64 ((IntKind.wrap .u64 (un21*4294967296))+un0)) - (IntKind.wrap .u64 (q0*y)))) s))
def Zyx (rec_:Int→Int→Int→Int→Int→Int→Int→Int→Int→Option (Int×Int×Int×Int×Int×Int)) (y:Int) (s:Int) (yn1:Int) (yn0:Int) (un0:Int) (q1:Int) (rhat:Int) (un21:Int) (q0:Int) (t113:Bool):Option (Int×Int×Int×Int×Int×Int):=
 bif t113 then (
  bif (decide ((IntKind.wrap .u64 (rhat+yn1))≥4294967296))then (
   some (y,s,un0,q1,un21,(IntKind.wrap .u64 (q0 - 1)))
  )else (
   rec_ y s yn1 yn0 un0 q1 (IntKind.wrap .u64 (rhat+yn1)) un21 (IntKind.wrap .u64 (q0 - 1))
  )
 )else (
  some (y,s,un0,q1,un21,q0)
 )
def ZAZ (rec_:Int→Int→Int→Int→Int→Int→Int→Int→Int→Option (Int×Int×Int×Int×Int×Int)) (y:Int) (s:Int) (yn1:Int) (yn0:Int) (un0:Int) (q1:Int) (rhat:Int) (un21:Int) (q0:Int):Option (Int×Int×Int×Int×Int×Int):=
 bif (decide (q0≥4294967296))then (
  Zyx rec_ y s yn1 yn0 un0 q1 rhat un21 q0 true
 )else (
  Zyx rec_ y s yn1 yn0 un0 q1 rhat un21 q0 (decide ((IntKind.wrap .u64 (q0*yn0)) > (IntKind.wrap .u64 ((IntKind.wrap .u64 (4294967296*rhat))+un0))))
 )
def Zwu:Nat→Int→Int→Int→Int→Int→Int→Int→Int→Int→Option (Int×Int×Int×Int×Int×Int)
 |0,_,_,_,_,_,_,_,_,_=>none
 |n_+1,y,s,yn1,yn0,un0,q1,rhat,un21,q0=>ZAZ (Zwu n_) y s yn1 yn0 un0 q1 rhat un21 q0
def ZzL (y:Int) (s:Int) (yn1:Int) (yn0:Int) (un32:Int) (un1:Int) (un0:Int) (q1:Int):Option (Int×Int):=
 chk (decide (yn1≠0)) <|
 (Zwu big y s yn1 yn0 un0 q1 (IntKind.wrap .u64 ((IntKind.wrap .u64 ((IntKind.wrap .u64 ((IntKind.wrap .u64 (un32*4294967296))+un1)) - (IntKind.wrap .u64 (q1*y)))) - (IntKind.wrap .u64 ((IntKind.wrap .u64 (Int.tdiv (IntKind.wrap .u64 ((IntKind.wrap .u64 ((IntKind.wrap .u64 (un32*4294967296))+un1)) - (IntKind.wrap .u64 (q1*y)))) yn1))*yn1)))) (IntKind.wrap .u64 ((IntKind.wrap .u64 ((IntKind.wrap .u64 (un32*4294967296))+un1)) - (IntKind.wrap .u64 (q1*y)))) (IntKind.wrap .u64 (Int.tdiv (IntKind.wrap .u64 ((IntKind.wrap .u64 ((IntKind.wrap .u64 (un32*4294967296))+un1)) - (IntKind.wrap .u64 (q1*y)))) yn1))).bind fun(x0,x1,x2,x3,x4,x5)=>ZzK x0 x1 x2 x3 x4 x5
def Zyy (rec_:Int→Int→Int→Int→Int→Int→Int→Int→Int→Option (Int×Int×Int×Int×Int×Int×Int×Int)) (y:Int) (s:Int) (yn1:Int) (yn0:Int) (un32:Int) (un1:Int) (un0:Int) (q1:Int) (rhat:Int) (t78:Bool):Option (Int×Int×Int×Int×Int×Int×Int×Int):=
 bif t78 then (
  bif (decide ((IntKind.wrap .u64 (rhat+yn1))≥4294967296))then (
   some (y,s,yn1,yn0,un32,un1,un0,(IntKind.wrap .u64 (q1 - 1)))
  )else (
   rec_ y s yn1 yn0 un32 un1 un0 (IntKind.wrap .u64 (q1 - 1)) (IntKind.wrap .u64 (rhat+yn1))
  )
 )else (
  some (y,s,yn1,yn0,un32,un1,un0,q1)
 )
def ZA0 (rec_:Int→Int→Int→Int→Int→Int→Int→Int→Int→Option (Int×Int×Int×Int×Int×Int×Int×Int)) (y:Int) (s:Int) (yn1:Int) (yn0:Int) (un32:Int) (un1:Int) (un0:Int) (q1:Int) (rhat:Int):Option (Int×Int×Int×Int×Int×Int×Int×Int):=
 bif (decide (q1≥4294967296))then (
  Zyy rec_ y s yn1 yn0 un32 un1 un0 q1 rhat true
 )else (
  Zyy rec_ y s yn1 yn0 un32 un1 un0 q1 rhat (decide ((IntKind.wrap .u64 (q1*yn0)) > (IntKind.wrap .u64 ((IntKind.wrap .u64 (4294967296*rhat))+un1))))
 )
def Zwv:Nat→Int→Int→Int→Int→Int→Int→Int→Int→Int→Option (Int×Int×Int×Int×Int×Int×Int×Int)
 |0,_,_,_,_,_,_,_,_,_=>none
 |n_+1,y,s,yn1,yn0,un32,un1,un0,q1,rhat=>ZA0 (Zwv n_) y s yn1 yn0 un32 un1 un0 q1 rhat
def ZwN (hi:Int) (lo:Int) (y:Int):Option (Int×Int):=
 bif (y == 0)then (
  none
 )else (
  bif (decide (y≤hi))then (
   none
  )else (
   bif (hi == 0)then (
    chk (decide (y≠0)) <|
    chk (decide (y≠0)) <|
    some ((IntKind.wrap .u64 (Int.tdiv lo y)),(Int.tmod lo y))
   )else (
    (ZvG y).bind fun q=>
    chk (decide (0≤(IntKind.wrap .u64 q))) <|
    chk (decide (0≤(32:Int))) <|
    chk (decide (0≤(IntKind.wrap .u64 q))) <|
    chk (decide (0≤(IntKind.wrap .u64 (64 - (IntKind.wrap .u64 q))))) <|
    chk (decide (0≤(IntKind.wrap .u64 q))) <|
    chk (decide (0≤(32:Int))) <|
    chk (decide ((shrK .u64 (shlK .u64 y (IntKind.wrap .u64 q)) 32)≠0)) <|
    (Zwv big (shlK .u64 y (IntKind.wrap .u64 q)) (IntKind.wrap .u64 q) (shrK .u64 (shlK .u64 y (IntKind.wrap .u64 q)) 32) (andK .u64 (shlK .u64 y (IntKind.wrap .u64 q)) 4294967295) (orK .u64 (shlK .u64 hi (IntKind.wrap .u64 q)) (shrK .u64 lo (IntKind.wrap .u64 (64 - (IntKind.wrap .u64 q))))) (shrK .u64 (shlK .u64 lo (IntKind.wrap .u64 q)) 32) (andK .u64 (shlK .u64 lo (IntKind.wrap .u64 q)) 4294967295) (IntKind.wrap .u64 (Int.tdiv (orK .u64 (shlK .u64 hi (IntKind.wrap .u64 q)) (shrK .u64 lo (IntKind.wrap .u64 (64 - (IntKind.wrap .u64 q))))) (shrK .u64 (shlK .u64 y (IntKind.wrap .u64 q)) 32))) (IntKind.wrap .u64 ((orK .u64 (shlK .u64 hi (IntKind.wrap .u64 q)) (shrK .u64 lo (IntKind.wrap .u64 (64 - (IntKind.wrap .u64 q))))) - (IntKind.wrap .u64 ((IntKind.wrap .u64 (Int.tdiv (orK .u64 (shlK .u64 hi (IntKind.wrap .u64 q)) (shrK .u64 lo (IntKind.wrap .u64 (64 - (IntKind.wrap .u64 q))))) (shrK .u64 (shlK .u64 y (IntKind.wrap .u64 q)) 32)))*(shrK .u64 (shlK .u64 y (IntKind.wrap .u64 q)) 32)))))).bind fun(x0,x1,x2,x3,x4,x5,x6,x7)=>ZzL x0 x1 x2 x3 x4 x5 x6 x7
   )
  )
 )
def ZBF (f:ZnA):Option ZnA:=
 chk (ZiZ f.Num.Words.length 4) <|
 chk (ZiZ f.Den.Words.length 4) <|
 some f
def ZvQ (l:(List ZnA)) (p:Int) (q:Int) (t13:Bool) (t6:Bool) (t6_1:Bool) (t6_2:(List Int)) (t6_3:(List Int)):Option (ZnA×Int):=
 bif t13 then (
  some ((ZnA.mk (ZnD.mk false ([]:(List Int))) (ZnD.mk false ([]:(List Int)))),2)
 )else (
  bif ((l.length:Int) == 0)then (
   some ((ZnA.mk (ZnD.mk false ([]:(List Int))) (ZnD.mk false ([]:(List Int)))),5)
  )else (
   (ZwL (IntKind.wrap .u64 (l.length:Int)) (IntKind.wrap .u64 p)).bind fun(high,low)=>
   chk (inK .i64 (q - 1)) <|
   (Zyi low (IntKind.wrap .u64 (q - 1)) 0).bind fun(low_1,carry)=>
   (ZwN (IntKind.wrap .u64 (high+carry)) low_1 (IntKind.wrap .u64 q)).bind fun(k,q_1)=>
   chk (inK .i64 ((if (1:Int) > (IntKind.wrap .i64 k)then (1:Int)else (IntKind.wrap .i64 k)) - 1)) <|
   (idx l ((if (1:Int) > (IntKind.wrap .i64 k)then (1:Int)else (IntKind.wrap .i64 k)) - 1)).bind fun l_e=>
   (ZBF l_e).bind fun q_2=>
   some (q_2,0)
  )
 )
def Zvc (l:(List ZnA)) (p:Int) (q:Int):Option (ZnA×Int):=
 bif (decide (q < 1))then (
  ZvQ l p q true false false ([]:(List Int)) ([]:(List Int))
 )else (
  bif (decide (p < 0))then (
   ZvQ l p q true false false ([]:(List Int)) ([]:(List Int))
  )else (
   ZvQ l p q (decide (p > q)) false false ([]:(List Int)) ([]:(List Int))
  )
 )
def ZpY (t2:Bool):Option Bool:=
 some t2
def ZtU (a:ZnD):Option Bool:=
 bif (decide ((a.Words.length:Int)≤256))then (
  bif ((a.Words.length:Int) == 0)then (
   bif (!a.Neg)then (
    ZpY true
   )else (
    bif (decide ((a.Words.length:Int) > 0))then (
     chk (inK .i64 ((a.Words.length:Int) - 1)) <|
     (idx a.Words ((a.Words.length:Int) - 1)).bind fun Word=>
     ZpY (Word != 0)
    )else (
     ZpY false
    )
   )
  )else (
   bif (decide ((a.Words.length:Int) > 0))then (
    chk (inK .i64 ((a.Words.length:Int) - 1)) <|
    (idx a.Words ((a.Words.length:Int) - 1)).bind fun Word_1=>
    ZpY (Word_1 != 0)
   )else (
    ZpY false
   )
  )
 )else (
  ZpY false
 )
def ZAq:Option Bool:=
 some true
def Zwy (rec_:(List ZnD)→Int→Int→Option (Out Unit Bool)) (t5:(List ZnD)) (t6:Int) (t7:Int):Option (Out Unit Bool):=
 bif (decide (t7 < t6))then (
  (idx t5 t7).bind fun a=>
  (ZtU a).bind fun q=>
  bif (!q)then (
   some (.ret false)
  )else (
   chk (inK .i64 (t7+1)) <|
   rec_ t5 t6 (t7+1)
  )
 )else (
  some (.brk ())
 )
def ZxJ:Nat→(List ZnD)→Int→Int→Option (Out Unit Bool)
 |0,_,_,_=>none
 |n_+1,t5,t6,t7=>Zwy (ZxJ n_) t5 t6 t7
def ZzM (n:Nat) (s:((List ZnD)×Int×Int)):Option (Out Unit Bool):=ZxJ n s.1 s.2.1 s.2.2
def Zyz (rec_:((List ZnD)×Int×Int)→Option (Out Unit Bool)) (s:((List ZnD)×Int×Int)):Option (Out Unit Bool):=Zwy (fun t5 t6 t7=>rec_ (t5,t6,t7)) s.1 s.2.1 s.2.2
theorem ZA7:∀n s,ZzM (n+1) s=Zyz (ZzM n) s:=fun _ _=>rfl
def ZwS (l:(List ZnD)):Option Bool:=
 (ZxJ big l (l.length:Int) (0:Int)).bind fun
  | .ret q_=>some q_
  | .brk ()=>ZAq
def Zya (x_:Int):Option Bool:=
 some (x_ != x_)
def ZwT (x_:Int) (y:Int):Option Int:=
 (Zya x_).bind fun xNaN=>
 (Zya y).bind fun yNaN=>
 bif xNaN then (
  bif yNaN then (
   some (0:Int)
  )else (
   some (-1:Int)
  )
 )else (
  bif yNaN then (
   some (1:Int)
  )else (
   bif (decide (x_ < y))then (
    some (-1:Int)
   )else (
    bif (decide (x_ > y))then (
     some (1:Int)
    )else (
     some (0:Int)
    )
   )
  )
 )
def ZxK (x_:Int):Option Bool:=
 some (x_ != x_)
def Zwz (x_:Int) (y:Int):Option Int:=
 (ZxK x_).bind fun xNaN=>
 (ZxK y).bind fun yNaN=>
 bif xNaN then (
  bif yNaN then (
   some (0:Int)
  )else (
   some (-1:Int)
  )
 )else (
  bif yNaN then (
   some (1:Int)
  )else (
   bif (decide (x_ < y))then (
    some (-1:Int)
   )else (
    bif (decide (x_ > y))then (
     some (1:Int)
    )else (
     some (0:Int)
    )
   )
  )
 )
def Zvi:Option Int:=
 some (0:Int)
def Zsd (rec_:(List Int)→(List Int)→Int→Option (Out Unit Int)) (w_:(List Int)) (v_:(List Int)) (i:Int):Option (Out Unit Int):=
 bif (decide (i≥0))then (
  (idx w_ i).bind fun w__e=>
  (idx v_ i).bind fun v__e=>
  (Zwz w__e v__e).bind fun c=>
  bif (c != 0)then (
   some (.ret c)
  )else (
   chk (inK .i64 (i - 1)) <|
   rec_ w_ v_ (i - 1)
  )
 )else (
  some (.brk ())
 )
def Zs5:Nat→(List Int)→(List Int)→Int→Option (Out Unit Int)
 |0,_,_,_=>none
 |n_+1,w_,v_,i=>Zsd (Zs5 n_) w_ v_ i
def Zxp (n:Nat) (s:((List Int)×(List Int)×Int)):Option (Out Unit Int):=Zs5 n s.1 s.2.1 s.2.2
def Zuz (rec_:((List Int)×(List Int)×Int)→Option (Out Unit Int)) (s:((List Int)×(List Int)×Int)):Option (Out Unit Int):=Zsd (fun w_ v_ i=>rec_ (w_,v_,i)) s.1 s.2.1 s.2.2
theorem Zzs:∀n s,Zxp (n+1) s=Zuz (Zxp n) s:=fun _ _=>rfl
def Zpq (w_:(List Int)) (v_:(List Int)):Option Int:=
 (ZwT (w_.length:Int) (v_.length:Int)).bind fun c=>
 bif (c != 0)then (
  some c
 )else (
  chk (inK .i64 ((w_.length:Int) - 1)) <|
  (Zs5 big w_ v_ ((w_.length:Int) - 1)).bind fun
   | .ret q_=>some q_
   | .brk ()=>Zvi
 )
def ZnL (s:(List Int)) (t4:Bool):Option (List Int):=
 bif t4 then (
  some ([]:(List Int))
 )else (
  chk (ZiZ (([]:(List Int)).length+s.length) 4) <|
  some (([]:(List Int))++s)
 )
def Zo3 (s:(List Int)):Option (List Int):=
 bif (List.isEmpty s)then agree (
  ZnL s true
 ) (
  ZnL s false
 )else (
  ZnL s false
 )
def ZuE (hi:Int) (lo:Int) (y:Int) (t15:Bool):Option (Int×Int):=
 bif t15 then (
  none
 )else (
  chk (decide (0≤(32:Int))) <|
  chk (decide ((IntKind.wrap .u64 y)≠0)) <|
  chk (decide ((IntKind.wrap .u64 y)≠0)) <|
  some ((IntKind.wrap .u32 (IntKind.wrap .u64 (Int.tdiv (orK .u64 (shlK .u64 (IntKind.wrap .u64 hi) 32) (IntKind.wrap .u64 lo)) (IntKind.wrap .u64 y)))),(IntKind.wrap .u32 (Int.tmod (orK .u64 (shlK .u64 (IntKind.wrap .u64 hi) 32) (IntKind.wrap .u64 lo)) (IntKind.wrap .u64 y))))
 )
def ZwO (hi:Int) (lo:Int) (y:Int):Option (Int×Int):=
 bif (y != 0)then (
  ZuE hi lo y (decide (y≤hi))
 )else (
  ZuE hi lo y false
 )
def Zx3 (w_:(List Int)):Option (List Int):=
 some w_
def ZvS (rec_:(List Int)→Option (List Int)) (w_:(List Int)) (t14:Bool):Option (List Int):=
 bif t14 then (
  chk (inK .i64 ((w_.length:Int) - 1)) <|
  chk (Zb9 0 ((w_.length:Int) - 1) (w_.length:Int)) <|
  rec_ (w_.take (((w_.length:Int) - 1)).toNat)
 )else (
  some w_
 )
def ZuT (rec_:(List Int)→Option (List Int)) (w_:(List Int)):Option (List Int):=
 bif (decide ((w_.length:Int) > 0))then (
  chk (inK .i64 ((w_.length:Int) - 1)) <|
  (idx w_ ((w_.length:Int) - 1)).bind fun w__e=>
  ZvS rec_ w_ (w__e == 0)
 )else (
  ZvS rec_ w_ false
 )
def Zqf:Nat→(List Int)→Option (List Int)
 |0,_=>none
 |n_+1,w_=>ZuT (Zqf n_) w_
def Zy0 (n:Nat) (s:(List Int)):Option (List Int):=Zqf n s
def Zy1 (rec_:(List Int)→Option (List Int)) (s:(List Int)):Option (List Int):=ZuT (fun w_=>rec_ w_) s
theorem ZAE:∀n s,Zy0 (n+1) s=Zy1 (Zy0 n) s:=fun _ _=>rfl
def Zoz (w_:(List Int)):Option (List Int):=
 (Zqf big w_).bind fun x0=>Zx3 x0
def Zwh (rest:Int) (out:(List Int)):Option ((List Int)×Int):=
 (Zoz out).bind fun q=>
 some (q,rest)
def Zs2 (rec_:(List Int)→Int→Int→Int→(List Int)→Option (Int×(List Int))) (w_:(List Int)) (d:Int) (rest:Int) (i:Int) (out:(List Int)):Option (Int×(List Int)):=
 bif (decide (i≥0))then (
  (idx w_ i).bind fun w__e=>
  (ZwO rest w__e d).bind fun(q,rest_1)=>
  chk (inR i (out.length:Int)) <|
  chk (inK .i64 (i - 1)) <|
  rec_ w_ d rest_1 (i - 1) (out.set ((i).toNat) q)
 )else (
  some (rest,out)
 )
def Zt6:Nat→(List Int)→Int→Int→Int→(List Int)→Option (Int×(List Int))
 |0,_,_,_,_,_=>none
 |n_+1,w_,d,rest,i,out=>Zs2 (Zt6 n_) w_ d rest i out
def Zx0 (n:Nat) (s:((List Int)×Int×Int×Int×(List Int))):Option (Int×(List Int)):=Zt6 n s.1 s.2.1 s.2.2.1 s.2.2.2.1 s.2.2.2.2
def Zvf (rec_:((List Int)×Int×Int×Int×(List Int))→Option (Int×(List Int))) (s:((List Int)×Int×Int×Int×(List Int))):Option (Int×(List Int)):=Zs2 (fun w_ d rest i out=>rec_ (w_,d,rest,i,out)) s.1 s.2.1 s.2.2.1 s.2.2.2.1 s.2.2.2.2
theorem Zz1:∀n s,Zx0 (n+1) s=Zvf (Zx0 n) s:=fun _ _=>rfl
def ZtH (w_:(List Int)) (d:Int):Option ((List Int)×Int):=
 chk (mkOk (w_.length:Int) (w_.length:Int) 4) <|
 chk (inK .i64 ((w_.length:Int) - 1)) <|
 (Zt6 big w_ d (0:Int) ((w_.length:Int) - 1) (List.replicate ((w_.length:Int)).toNat (0:Int))).bind fun(x0,x1)=>Zwh x0 x1
def Ztb (x_:Int) (n:Int):Option Int:=
 (idx ([0,1,2,2,3,3,3,3,4,4,4,4,4,4,4,4,5,5,5,5,5,5,5,5,5,5,5,5,5,5,5,5,6,6,6,6,6,6,6,6,6,6,6,6,6,6,6,6,6,6,6,6,6,6,6,6,6,6,6,6,6,6,6,6,7,7,7,7,7,7,7,7,7,7,7,7,7,7,7,7,7,7,7,7,7,7,7,7,7,7,7,7,7,7,7,7,7,7,7,7,7,7,7,7,7,7,7,7,7,7,7,7,7,7,7,7,7,7,7,7,7,7,7,7,7,7,7,7,8,8,8,8,8,8,8,8,8,8,8,8,8,8,8,8,8,8,8,8,8,8,8,8,8,8,8,8,8,8,8,8,8,8,8,8,8,8,8,8,8,8,8,8,8,8,8,8,8,8,8,8,8,8,8,8,8,8,8,8,8,8,8,8,8,8,8,8,8,8,8,8,8,8,8,8,8,8,8,8,8,8,8,8,8,8,8,8,8,8,8,8,8,8,8,8,8,8,8,8,8,8,8,8,8,8,8,8,8,8,8,8,8,8,8,8,8,8,8,8,8,8,8,8,8,8,8,8]:Str) (IntKind.wrap .u8 x_)).bind fun c=>
 chk (inK .i64 (n+(IntKind.wrap .i64 ((c.toNat:Nat):Int)))) <|
 some (n+(IntKind.wrap .i64 ((c.toNat:Nat):Int)))
def Zwt (x_:Int) (n:Int):Option Int:=
 bif (decide (x_≥256))then (
  chk (decide (0≤(8:Int))) <|
  chk (inK .i64 (n+8)) <|
  Ztb (shrK .u32 x_ 8) (n+8)
 )else (
  Ztb x_ n
 )
def ZwM (x_:Int):Option Int:=
 bif (decide (x_≥65536))then (
  chk (decide (0≤(16:Int))) <|
  Zwt (shrK .u32 x_ 16) (16:Int)
 )else (
  Zwt x_ (0:Int)
 )
def Zrs (x_:Int):Option Int:=
 (ZwM x_).bind fun q=>
 chk (inK .i64 (32 - q)) <|
 some (32 - q)
def Zvg (out:(List Int)):Option (List Int):=
 some out
def Zsc (rec_:Int→(List Int)→Int→Int→(List Int)→Option (List Int)) (n:Int) (t13:(List Int)) (t14:Int) (i:Int) (out:(List Int)):Option (List Int):=
 bif (decide (i < t14))then (
  (idx t13 i).bind fun d=>
  chk (decide (0≤n)) <|
  chk (inR i (out.length:Int)) <|
  (out[(i).toNat]?).bind fun out_e=>
  chk (inR i (out.length:Int)) <|
  chk (inK .i64 (i+1)) <|
  chk (decide (0≤(32:Int))) <|
  chk (inR (i+1) ((out.set ((i).toNat) (orK .u32 out_e (IntKind.wrap .u32 (shlK .u64 (IntKind.wrap .u64 d) n)))).length:Int)) <|
  chk (inK .i64 (i+1)) <|
  rec_ n t13 t14 (i+1) ((out.set ((i).toNat) (orK .u32 out_e (IntKind.wrap .u32 (shlK .u64 (IntKind.wrap .u64 d) n)))).set (((i+1)).toNat) (IntKind.wrap .u32 (shrK .u64 (shlK .u64 (IntKind.wrap .u64 d) n) 32)))
 )else (
  some out
 )
def Zs3:Nat→Int→(List Int)→Int→Int→(List Int)→Option (List Int)
 |0,_,_,_,_,_=>none
 |n_+1,n,t13,t14,i,out=>Zsc (Zs3 n_) n t13 t14 i out
def Zxo (n:Nat) (s:(Int×(List Int)×Int×Int×(List Int))):Option (List Int):=Zs3 n s.1 s.2.1 s.2.2.1 s.2.2.2.1 s.2.2.2.2
def Zuy (rec_:(Int×(List Int)×Int×Int×(List Int))→Option (List Int)) (s:(Int×(List Int)×Int×Int×(List Int))):Option (List Int):=Zsc (fun n t13 t14 i out=>rec_ (n,t13,t14,i,out)) s.1 s.2.1 s.2.2.1 s.2.2.2.1 s.2.2.2.2
theorem Zzr:∀n s,Zxo (n+1) s=Zuy (Zxo n) s:=fun _ _=>rfl
def Zqa (w_:(List Int)) (n:Int):Option (List Int):=
 chk (inK .i64 ((w_.length:Int)+1)) <|
 chk (mkOk ((w_.length:Int)+1) ((w_.length:Int)+1) 4) <|
 (Zs3 big n w_ (w_.length:Int) (0:Int) (List.replicate (((w_.length:Int)+1)).toNat (0:Int))).bind fun x0=>Zvg x0
def ZtR (x_:Int) (y:Int) (borrow:Int):Option (Int×Int):=
 chk (decide (0≤(31:Int))) <|
 some ((IntKind.wrap .u32 ((IntKind.wrap .u32 (x_ - y)) - borrow)),(shrK .u32 (orK .u32 (andK .u32 (xorK .u32 (if IntKind.signed .u32 then -1 else IntKind.max .u32) x_) y) (andK .u32 (xorK .u32 (if IntKind.signed .u32 then -1 else IntKind.max .u32) (xorK .u32 x_ y)) (IntKind.wrap .u32 ((IntKind.wrap .u32 (x_ - y)) - borrow)))) 31))
def ZuY (x_:Int) (y:Int) (carry:Int):Option (Int×Int):=
 chk (decide (0≤(32:Int))) <|
 some ((IntKind.wrap .u32 (IntKind.wrap .u64 ((IntKind.wrap .u64 ((IntKind.wrap .u64 x_)+(IntKind.wrap .u64 y)))+(IntKind.wrap .u64 carry)))),(IntKind.wrap .u32 (shrK .u64 (IntKind.wrap .u64 ((IntKind.wrap .u64 ((IntKind.wrap .u64 x_)+(IntKind.wrap .u64 y)))+(IntKind.wrap .u64 carry))) 32)))
def Zxc (u_off:Nat) (u_len:Nat) (n:Int) (guess:Int) (add:Int) (u:(List Int)):Option (Int×(List Int)):=
 chk (inR n (u_len:Int)) <|
 (u[(u_off+(n).toNat)]?).bind fun u_e=>
 chk (inR n (u_len:Int)) <|
 some ((IntKind.wrap .u32 (IntKind.wrap .u64 (guess - 1))),(u.set (u_off+(n).toNat) (IntKind.wrap .u32 (u_e+add))))
def ZvT (rec_:Nat→Nat→Int→Int→Int→(List Int)→Int→Int→(List Int)→Option (Nat×Nat×Int×Int×Int×(List Int))) (u_off:Nat) (u_len:Nat) (n:Int) (guess:Int) (add:Int) (t130:(List Int)) (t131:Int) (i:Int) (u:(List Int)):Option (Nat×Nat×Int×Int×Int×(List Int)):=
 bif (decide (i < t131))then (
  (idx t130 i).bind fun x_=>
  chk (inR i (u_len:Int)) <|
  (u[(u_off+(i).toNat)]?).bind fun u_e=>
  (ZuY u_e x_ add).bind fun(q,add_1)=>
  chk (inR i (u_len:Int)) <|
  chk (inK .i64 (i+1)) <|
  rec_ u_off u_len n guess add_1 t130 t131 (i+1) (u.set (u_off+(i).toNat) q)
 )else (
  some (u_off,u_len,n,guess,add,u)
 )
def Zvk:Nat→Nat→Nat→Int→Int→Int→(List Int)→Int→Int→(List Int)→Option (Nat×Nat×Int×Int×Int×(List Int))
 |0,_,_,_,_,_,_,_,_,_=>none
 |n_+1,u_off,u_len,n,guess,add,t130,t131,i,u=>ZvT (Zvk n_) u_off u_len n guess add t130 t131 i u
def Zzt (n:Nat) (s:(Nat×Nat×Int×Int×Int×(List Int)×Int×Int×(List Int))):Option (Nat×Nat×Int×Int×Int×(List Int)):=Zvk n s.1 s.2.1 s.2.2.1 s.2.2.2.1 s.2.2.2.2.1 s.2.2.2.2.2.1 s.2.2.2.2.2.2.1 s.2.2.2.2.2.2.2.1 s.2.2.2.2.2.2.2.2
def Zx4 (rec_:(Nat×Nat×Int×Int×Int×(List Int)×Int×Int×(List Int))→Option (Nat×Nat×Int×Int×Int×(List Int))) (s:(Nat×Nat×Int×Int×Int×(List Int)×Int×Int×(List Int))):Option (Nat×Nat×Int×Int×Int×(List Int)):=ZvT (fun u_off u_len n guess add t130 t131 i u=>rec_ (u_off,u_len,n,guess,add,t130,t131,i,u)) s.1 s.2.1 s.2.2.1 s.2.2.2.1 s.2.2.2.2.1 s.2.2.2.2.2.1 s.2.2.2.2.2.2.1 s.2.2.2.2.2.2.2.1 s.2.2.2.2.2.2.2.2
theorem ZA1:∀n s,Zzt (n+1) s=Zx4 (Zzt n) s:=fun _ _=>rfl
def ZyN (u_off:Nat) (u_len:Nat) (d:(List Int)) (n:Int) (guess:Int) (borrow:Int) (carry:Int) (u:(List Int)):Option (Int×(List Int)):=
 chk (inR n (u_len:Int)) <|
 (u[(u_off+(n).toNat)]?).bind fun u_e=>
 (ZtR u_e (IntKind.wrap .u32 carry) borrow).bind fun(q,borrow_1)=>
 chk (inR n (u_len:Int)) <|
 bif (borrow_1 == 0)then (
  some ((IntKind.wrap .u32 guess),(u.set (u_off+(n).toNat) q))
 )else (
  (Zvk big u_off u_len n guess (0:Int) d (d.length:Int) (0:Int) (u.set (u_off+(n).toNat) q)).bind fun(x0,x1,x2,x3,x4,x5)=>Zxc x0 x1 x2 x3 x4 x5
 )
def ZvU (rec_:Nat→Nat→(List Int)→Int→Int→Int→Int→(List Int)→Int→Int→(List Int)→Option (Nat×Nat×(List Int)×Int×Int×Int×Int×(List Int))) (u_off:Nat) (u_len:Nat) (d:(List Int)) (n:Int) (guess:Int) (borrow:Int) (carry:Int) (t82:(List Int)) (t83:Int) (i:Int) (u:(List Int)):Option (Nat×Nat×(List Int)×Int×Int×Int×Int×(List Int)):=
 bif (decide (i < t83))then (
  (idx t82 i).bind fun x_=>
  chk (inR i (u_len:Int)) <|
  (u[(u_off+(i).toNat)]?).bind fun u_e=>
  (ZtR u_e (IntKind.wrap .u32 (IntKind.wrap .u64 (carry+(IntKind.wrap .u64 (guess*(IntKind.wrap .u64 x_)))))) borrow).bind fun(q,borrow_1)=>
  chk (inR i (u_len:Int)) <|
  chk (decide (0≤(32:Int))) <|
  chk (inK .i64 (i+1)) <|
  rec_ u_off u_len d n guess borrow_1 (shrK .u64 (IntKind.wrap .u64 (carry+(IntKind.wrap .u64 (guess*(IntKind.wrap .u64 x_))))) 32) t82 t83 (i+1) (u.set (u_off+(i).toNat) q)
 )else (
  some (u_off,u_len,d,n,guess,borrow,carry,u)
 )
def Zxb:Nat→Nat→Nat→(List Int)→Int→Int→Int→Int→(List Int)→Int→Int→(List Int)→Option (Nat×Nat×(List Int)×Int×Int×Int×Int×(List Int))
 |0,_,_,_,_,_,_,_,_,_,_,_=>none
 |n_+1,u_off,u_len,d,n,guess,borrow,carry,t82,t83,i,u=>ZvU (Zxb n_) u_off u_len d n guess borrow carry t82 t83 i u
def Zzu (n:Nat) (s:(Nat×Nat×(List Int)×Int×Int×Int×Int×(List Int)×Int×Int×(List Int))):Option (Nat×Nat×(List Int)×Int×Int×Int×Int×(List Int)):=Zxb n s.1 s.2.1 s.2.2.1 s.2.2.2.1 s.2.2.2.2.1 s.2.2.2.2.2.1 s.2.2.2.2.2.2.1 s.2.2.2.2.2.2.2.1 s.2.2.2.2.2.2.2.2.1 s.2.2.2.2.2.2.2.2.2.1 s.2.2.2.2.2.2.2.2.2.2
def Zx5 (rec_:(Nat×Nat×(List Int)×Int×Int×Int×Int×(List Int)×Int×Int×(List Int))→Option (Nat×Nat×(List Int)×Int×Int×Int×Int×(List Int))) (s:(Nat×Nat×(List Int)×Int×Int×Int×Int×(List Int)×Int×Int×(List Int))):Option (Nat×Nat×(List Int)×Int×Int×Int×Int×(List Int)):=ZvU (fun u_off u_len d n guess borrow carry t82 t83 i u=>rec_ (u_off,u_len,d,n,guess,borrow,carry,t82,t83,i,u)) s.1 s.2.1 s.2.2.1 s.2.2.2.1 s.2.2.2.2.1 s.2.2.2.2.2.1 s.2.2.2.2.2.2.1 s.2.2.2.2.2.2.2.1 s.2.2.2.2.2.2.2.2.1 s.2.2.2.2.2.2.2.2.2.1 s.2.2.2.2.2.2.2.2.2.2
theorem ZA2:∀n s,Zzu (n+1) s=Zx5 (Zzu n) s:=fun _ _=>rfl
def Zxd (u_off:Nat) (u_len:Nat) (d:(List Int)) (n:Int) (guess:Int) (u:(List Int)):Option (Int×(List Int)):=
 (Zxb big u_off u_len d n guess (0:Int) (0:Int) d (d.length:Int) (0:Int) u).bind fun(x0,x1,x2,x3,x4,x5,x6,x7)=>ZyN x0 x1 x2 x3 x4 x5 x6 x7
def Zvl (rec_:Nat→Nat→(List Int)→Int→Int→Int→(List Int)→Option (Nat×Nat×(List Int)×Int×Int×(List Int))) (u_off:Nat) (u_len:Nat) (d:(List Int)) (n:Int) (guess:Int) (rest:Int) (t71:Bool) (u:(List Int)):Option (Nat×Nat×(List Int)×Int×Int×(List Int)):=
 bif t71 then (
  chk (inK .i64 (n - 1)) <|
  (idx d (n - 1)).bind fun d_e=>
  rec_ u_off u_len d n (IntKind.wrap .u64 (guess - 1)) (IntKind.wrap .u64 (rest+(IntKind.wrap .u64 d_e))) u
 )else (
  some (u_off,u_len,d,n,guess,u)
 )
def Zx6 (rec_:Nat→Nat→(List Int)→Int→Int→Int→(List Int)→Option (Nat×Nat×(List Int)×Int×Int×(List Int))) (u_off:Nat) (u_len:Nat) (d:(List Int)) (n:Int) (guess:Int) (rest:Int) (u:(List Int)):Option (Nat×Nat×(List Int)×Int×Int×(List Int)):=
 bif (decide (rest < 4294967296))then (
  chk (inK .i64 (n - 2)) <|
  (idx d (n - 2)).bind fun d_e=>
  chk (decide (0≤(32:Int))) <|
  chk (inK .i64 (n - 2)) <|
  chk (inR (n - 2) (u_len:Int)) <|
  (u[(u_off+((n - 2)).toNat)]?).bind fun u_e=>
  Zvl rec_ u_off u_len d n guess rest (decide ((IntKind.wrap .u64 (guess*(IntKind.wrap .u64 d_e))) > (orK .u64 (shlK .u64 rest 32) (IntKind.wrap .u64 u_e)))) u
 )else (
  Zvl rec_ u_off u_len d n guess rest false u
 )
def ZtS:Nat→Nat→Nat→(List Int)→Int→Int→Int→(List Int)→Option (Nat×Nat×(List Int)×Int×Int×(List Int))
 |0,_,_,_,_,_,_,_=>none
 |n_+1,u_off,u_len,d,n,guess,rest,u=>Zx6 (ZtS n_) u_off u_len d n guess rest u
def Zzv (n:Nat) (s:(Nat×Nat×(List Int)×Int×Int×Int×(List Int))):Option (Nat×Nat×(List Int)×Int×Int×(List Int)):=ZtS n s.1 s.2.1 s.2.2.1 s.2.2.2.1 s.2.2.2.2.1 s.2.2.2.2.2.1 s.2.2.2.2.2.2
def Zzw (rec_:(Nat×Nat×(List Int)×Int×Int×Int×(List Int))→Option (Nat×Nat×(List Int)×Int×Int×(List Int))) (s:(Nat×Nat×(List Int)×Int×Int×Int×(List Int))):Option (Nat×Nat×(List Int)×Int×Int×(List Int)):=Zx6 (fun u_off u_len d n guess rest u=>rec_ (u_off,u_len,d,n,guess,rest,u)) s.1 s.2.1 s.2.2.1 s.2.2.2.1 s.2.2.2.2.1 s.2.2.2.2.2.1 s.2.2.2.2.2.2
theorem ZA3:∀n s,Zzv (n+1) s=Zzw (Zzv n) s:=fun _ _=>rfl
def ZyL (u:(List Int)) (u_off:Nat) (u_len:Nat) (d:(List Int)):Option (Int×(List Int)):=
 chk (inR (d.length:Int) (u_len:Int)) <|
 (u[(u_off+((d.length:Int)).toNat)]?).bind fun u_e=>
 chk (decide (0≤(32:Int))) <|
 chk (inK .i64 ((d.length:Int) - 1)) <|
 chk (inR ((d.length:Int) - 1) (u_len:Int)) <|
 (u[(u_off+(((d.length:Int) - 1)).toNat)]?).bind fun u_e_1=>
 chk (inK .i64 ((d.length:Int) - 1)) <|
 (idx d ((d.length:Int) - 1)).bind fun d_e=>
 chk (decide ((IntKind.wrap .u64 d_e)≠0)) <|
 chk (inK .i64 ((d.length:Int) - 1)) <|
 (idx d ((d.length:Int) - 1)).bind fun d_e_1=>
 (ZtS big u_off u_len d (d.length:Int) (if (4294967295:Int) < (IntKind.wrap .u64 (Int.tdiv (orK .u64 (shlK .u64 (IntKind.wrap .u64 u_e) 32) (IntKind.wrap .u64 u_e_1)) (IntKind.wrap .u64 d_e)))then (4294967295:Int)else (IntKind.wrap .u64 (Int.tdiv (orK .u64 (shlK .u64 (IntKind.wrap .u64 u_e) 32) (IntKind.wrap .u64 u_e_1)) (IntKind.wrap .u64 d_e)))) (IntKind.wrap .u64 ((orK .u64 (shlK .u64 (IntKind.wrap .u64 u_e) 32) (IntKind.wrap .u64 u_e_1)) - (IntKind.wrap .u64 ((if (4294967295:Int) < (IntKind.wrap .u64 (Int.tdiv (orK .u64 (shlK .u64 (IntKind.wrap .u64 u_e) 32) (IntKind.wrap .u64 u_e_1)) (IntKind.wrap .u64 d_e)))then (4294967295:Int)else (IntKind.wrap .u64 (Int.tdiv (orK .u64 (shlK .u64 (IntKind.wrap .u64 u_e) 32) (IntKind.wrap .u64 u_e_1)) (IntKind.wrap .u64 d_e))))*(IntKind.wrap .u64 d_e_1))))) u).bind fun(x0,x1,x2,x3,x4,x5)=>Zxd x0 x1 x2 x3 x4 x5
def ZxI (u:(List Int)) (u_off:Nat) (u_len:Nat) (d:(List Int)):Option (Int×(List Int)):=
 (ZyL u u_off u_len d).bind fun r=>chk (decide (r.2.length=u.length)&&true) (some r)
def Zxa (w_off:Nat) (w_len:Nat) (w_:(List Int)):Option (Nat×Nat×(List Int)):=
 some (w_off,w_len,w_)
def ZuU (rec_:Nat→Nat→(List Int)→Option (Nat×Nat×(List Int))) (w_off:Nat) (w_len:Nat) (t14:Bool) (w_:(List Int)):Option (Nat×Nat×(List Int)):=
 bif t14 then (
  chk (inK .i64 (((w_len:Nat):Int) - 1)) <|
  chk (Zb9 0 (((w_len:Nat):Int) - 1) (w_len:Int)) <|
  rec_ (w_off+0) (((((w_len:Nat):Int) - 1)).toNat - 0) w_
 )else (
  some (w_off,w_len,w_)
 )
def Zwj (rec_:Nat→Nat→(List Int)→Option (Nat×Nat×(List Int))) (w_off:Nat) (w_len:Nat) (w_:(List Int)):Option (Nat×Nat×(List Int)):=
 bif (decide (((w_len:Nat):Int) > 0))then (
  chk (inK .i64 (((w_len:Nat):Int) - 1)) <|
  chk (inR (((w_len:Nat):Int) - 1) (w_len:Int)) <|
  (w_[(w_off+((((w_len:Nat):Int) - 1)).toNat)]?).bind fun w__e=>
  ZuU rec_ w_off w_len (w__e == 0) w_
 )else (
  ZuU rec_ w_off w_len false w_
 )
def Zs6:Nat→Nat→Nat→(List Int)→Option (Nat×Nat×(List Int))
 |0,_,_,_=>none
 |n_+1,w_off,w_len,w_=>Zwj (Zs6 n_) w_off w_len w_
def ZyG (n:Nat) (s:(Nat×Nat×(List Int))):Option (Nat×Nat×(List Int)):=Zs6 n s.1 s.2.1 s.2.2
def ZyH (rec_:(Nat×Nat×(List Int))→Option (Nat×Nat×(List Int))) (s:(Nat×Nat×(List Int))):Option (Nat×Nat×(List Int)):=Zwj (fun w_off w_len w_=>rec_ (w_off,w_len,w_)) s.1 s.2.1 s.2.2
theorem ZAp:∀n s,ZyG (n+1) s=ZyH (ZyG n) s:=fun _ _=>rfl
def Zww (w_:(List Int)) (w_off:Nat) (w_len:Nat):Option (Nat×Nat×(List Int)):=
 (Zs6 big w_off w_len w_).bind fun(x0,x1,x2)=>Zxa x0 x1 x2
def Zvq (w_:(List Int)) (w_off:Nat) (w_len:Nat):Option (Nat×Nat×(List Int)):=
 (Zww w_ w_off w_len).bind fun r=>chk (decide (r.2.2.length=w_.length)&&true) (some r)
def Zsi (w_:(List Int)) (i:Int):Option Int:=
 bif (decide (i < (w_.length:Int)))then (
  (idx w_ i).bind fun w__e=>
  some w__e
 )else (
  some (0:Int)
 )
def Zx2 (w_:(List Int)) (w_off:Nat) (w_len:Nat) (i:Int):Option (Int×(List Int)):=
 bif (decide (i < ((w_len:Nat):Int)))then (
  chk (inR i (w_len:Int)) <|
  (w_[(w_off+(i).toNat)]?).bind fun w__e=>
  some (w__e,w_)
 )else (
  some (0,w_)
 )
def ZuS (w_:(List Int)) (w_off:Nat) (w_len:Nat) (i:Int):Option (Int×(List Int)):=
 (Zx2 w_ w_off w_len i).bind fun r=>chk (decide (r.2.length=w_.length)&&true) (some r)
def ZwQ (rest_off:Nat) (rest_len:Nat) (q:(List Int)) (rest:(List Int)):Option ((List Int)×(List Int)):=
 (Zoz q).bind fun q_1=>
 (Zoz ((rest.drop rest_off).take rest_len)).bind fun q_2=>
 some (q_1,q_2)
def Ztv (rec_:Int→Nat→Nat→Int→Int→(List Int)→(List Int)→Option (Nat×Nat×(List Int)×(List Int))) (shift:Int) (rest_off:Nat) (rest_len:Nat) (t86:Int) (i:Int) (q:(List Int)) (rest:(List Int)):Option (Nat×Nat×(List Int)×(List Int)):=
 bif (decide (i < t86))then (
  chk (inK .i64 (i+1)) <|
  (ZuS rest rest_off rest_len (i+1)).bind fun(q_1,t90)=>
  chk (decide (0≤(32:Int))) <|
  chk (inR i (rest_len:Int)) <|
  (t90[(rest_off+(i).toNat)]?).bind fun t90_e=>
  chk (decide (0≤shift)) <|
  chk (inR i (rest_len:Int)) <|
  chk (inK .i64 (i+1)) <|
  rec_ shift rest_off rest_len t86 (i+1) q (t90.set (rest_off+(i).toNat) (IntKind.wrap .u32 (shrK .u64 (orK .u64 (shlK .u64 (IntKind.wrap .u64 q_1) 32) (IntKind.wrap .u64 t90_e)) shift)))
 )else (
  some (rest_off,rest_len,q,rest)
 )
def Zsm:Nat→Int→Nat→Nat→Int→Int→(List Int)→(List Int)→Option (Nat×Nat×(List Int)×(List Int))
 |0,_,_,_,_,_,_,_=>none
 |n_+1,shift,rest_off,rest_len,t86,i,q,rest=>Ztv (Zsm n_) shift rest_off rest_len t86 i q rest
def Zyq (n:Nat) (s:(Int×Nat×Nat×Int×Int×(List Int)×(List Int))):Option (Nat×Nat×(List Int)×(List Int)):=Zsm n s.1 s.2.1 s.2.2.1 s.2.2.2.1 s.2.2.2.2.1 s.2.2.2.2.2.1 s.2.2.2.2.2.2
def ZvI (rec_:(Int×Nat×Nat×Int×Int×(List Int)×(List Int))→Option (Nat×Nat×(List Int)×(List Int))) (s:(Int×Nat×Nat×Int×Int×(List Int)×(List Int))):Option (Nat×Nat×(List Int)×(List Int)):=Ztv (fun shift rest_off rest_len t86 i q rest=>rec_ (shift,rest_off,rest_len,t86,i,q,rest)) s.1 s.2.1 s.2.2.1 s.2.2.2.1 s.2.2.2.2.1 s.2.2.2.2.2.1 s.2.2.2.2.2.2
theorem ZAd:∀n s,Zyq (n+1) s=ZvI (Zyq n) s:=fun _ _=>rfl
def ZwR (n:Int) (shift:Int) (u:(List Int)) (q:(List Int)):Option ((List Int)×(List Int)):=
 chk (Zb9 0 n (u.length:Int)) <|
 (Zvq u 0 ((n).toNat - 0)).bind fun(rest_off,rest_len,t83)=>
 (Zsm big shift rest_off rest_len ((rest_len:Nat):Int) (0:Int) q t83).bind fun(x0,x1,x2,x3)=>ZwQ x0 x1 x2 x3
def Ztw (rec_:Int→Int→(List Int)→Int→(List Int)→(List Int)→Option (Int×Int×(List Int)×(List Int))) (n:Int) (shift:Int) (d:(List Int)) (j:Int) (u:(List Int)) (q:(List Int)):Option (Int×Int×(List Int)×(List Int)):=
 bif (decide (j≥0))then (
  chk (inK .i64 (j+n)) <|
  chk (inK .i64 ((j+n)+1)) <|
  chk (Zb9 j ((j+n)+1) (u.length:Int)) <|
  (ZxI u ((j).toNat) ((((j+n)+1)).toNat - (j).toNat) d).bind fun(q_1,t77)=>
  chk (inR j (q.length:Int)) <|
  chk (inK .i64 (j - 1)) <|
  rec_ n shift d (j - 1) t77 (q.set ((j).toNat) q_1)
 )else (
  some (n,shift,u,q)
 )
def Zsn:Nat→Int→Int→(List Int)→Int→(List Int)→(List Int)→Option (Int×Int×(List Int)×(List Int))
 |0,_,_,_,_,_,_=>none
 |n_+1,n,shift,d,j,u,q=>Ztw (Zsn n_) n shift d j u q
def Zyr (n:Nat) (s:(Int×Int×(List Int)×Int×(List Int)×(List Int))):Option (Int×Int×(List Int)×(List Int)):=Zsn n s.1 s.2.1 s.2.2.1 s.2.2.2.1 s.2.2.2.2.1 s.2.2.2.2.2
def ZvJ (rec_:(Int×Int×(List Int)×Int×(List Int)×(List Int))→Option (Int×Int×(List Int)×(List Int))) (s:(Int×Int×(List Int)×Int×(List Int)×(List Int))):Option (Int×Int×(List Int)×(List Int)):=Ztw (fun n shift d j u q=>rec_ (n,shift,d,j,u,q)) s.1 s.2.1 s.2.2.1 s.2.2.2.1 s.2.2.2.2.1 s.2.2.2.2.2
theorem ZAe:∀n s,Zyr (n+1) s=ZvJ (Zyr n) s:=fun _ _=>rfl
def Zre (w_:(List Int)) (v_:(List Int)):Option ((List Int)×(List Int)):=
 (Zpq w_ v_).bind fun q=>
 bif (decide (q < 0))then (
  (Zo3 w_).bind fun q_1=>
  some (([]:(List Int)),q_1)
 )else (
  bif ((v_.length:Int) == 1)then (
   (idx v_ 0).bind fun v__e=>
   (ZtH w_ v__e).bind fun(q_2,r_)=>
   (Zoz ([r_]:(List Int))).bind fun q_3=>
   some (q_2,q_3)
  )else (
   chk (inK .i64 ((v_.length:Int) - 1)) <|
   (idx v_ ((v_.length:Int) - 1)).bind fun v__e_1=>
   (Zrs v__e_1).bind fun shift=>
   (Zqa w_ shift).bind fun u=>
   (Zqa v_ shift).bind fun q_4=>
   chk (Zb9 0 (v_.length:Int) (q_4.length:Int)) <|
   chk (inK .i64 ((w_.length:Int) - (v_.length:Int))) <|
   chk (inK .i64 (((w_.length:Int) - (v_.length:Int))+1)) <|
   chk (mkOk (((w_.length:Int) - (v_.length:Int))+1) (((w_.length:Int) - (v_.length:Int))+1) 4) <|
   chk (inK .i64 (((List.replicate ((((w_.length:Int) - (v_.length:Int))+1)).toNat (0:Int)).length:Int) - 1)) <|
   (Zsn big (v_.length:Int) shift ((q_4.drop 0).take (((v_.length:Int)).toNat - 0)) (((List.replicate ((((w_.length:Int) - (v_.length:Int))+1)).toNat (0:Int)).length:Int) - 1) u (List.replicate ((((w_.length:Int) - (v_.length:Int))+1)).toNat (0:Int))).bind fun(x0,x1,x2,x3)=>ZwR x0 x1 x2 x3
  )
 )
def ZvK (w_:(List Int)):Option (List Int):=
 some w_
def ZqW (rec_:(List Int)→(List Int)→Option (List Int)) (w_:(List Int)) (v_:(List Int)):Option (List Int):=
 bif (decide ((v_.length:Int) > 0))then (
  (Zre w_ v_).bind fun(q,r_)=>
  rec_ v_ r_
 )else (
  some w_
 )
def Zpy:Nat→(List Int)→(List Int)→Option (List Int)
 |0,_,_=>none
 |n_+1,w_,v_=>ZqW (Zpy n_) w_ v_
def Zrk (w_:(List Int)) (v_:(List Int)):Option (List Int):=
 (Zpy big w_ v_).bind fun x0=>ZvK x0
def ZtT (t2:Bool):Option Bool:=
 some t2
def ZvL (f:ZnA):Option Bool:=
 (ZwS ([f.Num,f.Den]:(List ZnD))).bind fun q=>
 bif q then (
  bif (decide ((f.Den.Words.length:Int) > 0))then (
   bif (!f.Den.Neg)then (
    (Zrk f.Num.Words f.Den.Words).bind fun q_1=>
    (Zpq q_1 ([1]:List Int)).bind fun q_2=>
    ZtT (q_2 == 0)
   )else (
    ZtT false
   )
  )else (
   ZtT false
  )
 )else (
  ZtT false
 )
def Zwf (out:(List Int)):Option (List Int):=
 (Zoz out).bind fun q=>
 some q
def Zwg (rec_:(List Int)→(List Int)→Int→Int→(List Int)→Option (List Int)) (v_:(List Int)) (i:Int) (carry:Int) (t17:(List Int)) (t18:Int) (i_1:Int) (out:(List Int)):Option (List Int):=
 chk (inK .i64 (i+(v_.length:Int))) <|
 chk (inR (i+(v_.length:Int)) (out.length:Int)) <|
 chk (inK .i64 (i_1+1)) <|
 rec_ v_ t17 t18 (i_1+1) (out.set (((i+(v_.length:Int))).toNat) (IntKind.wrap .u32 carry))
def Zs0 (rec_:(List Int)→Int→Int→Int→(List Int)→Int→Int→(List Int)→Int→Int→(List Int)→Option ((List Int)×Int×Int×(List Int)×Int×Int×(List Int))) (v_:(List Int)) (i:Int) (x_:Int) (carry:Int) (t17:(List Int)) (t18:Int) (i_1:Int) (t24:(List Int)) (t25:Int) (j:Int) (out:(List Int)):Option ((List Int)×Int×Int×(List Int)×Int×Int×(List Int)):=
 bif (decide (j < t25))then (
  (idx t24 j).bind fun y=>
  chk (inK .i64 (i+j)) <|
  chk (inR (i+j) (out.length:Int)) <|
  (out[((i+j)).toNat]?).bind fun out_e=>
  chk (inK .i64 (i+j)) <|
  chk (inR (i+j) (out.length:Int)) <|
  chk (decide (0≤(32:Int))) <|
  chk (inK .i64 (j+1)) <|
  rec_ v_ i x_ (shrK .u64 (IntKind.wrap .u64 (carry+(IntKind.wrap .u64 ((IntKind.wrap .u64 ((IntKind.wrap .u64 x_)*(IntKind.wrap .u64 y)))+(IntKind.wrap .u64 out_e))))) 32) t17 t18 i_1 t24 t25 (j+1) (out.set (((i+j)).toNat) (IntKind.wrap .u32 (IntKind.wrap .u64 (carry+(IntKind.wrap .u64 ((IntKind.wrap .u64 ((IntKind.wrap .u64 x_)*(IntKind.wrap .u64 y)))+(IntKind.wrap .u64 out_e)))))))
 )else (
  some (v_,i,carry,t17,t18,i_1,out)
 )
def Zt5:Nat→(List Int)→Int→Int→Int→(List Int)→Int→Int→(List Int)→Int→Int→(List Int)→Option ((List Int)×Int×Int×(List Int)×Int×Int×(List Int))
 |0,_,_,_,_,_,_,_,_,_,_,_=>none
 |n_+1,v_,i,x_,carry,t17,t18,i_1,t24,t25,j,out=>Zs0 (Zt5 n_) v_ i x_ carry t17 t18 i_1 t24 t25 j out
def ZxY (n:Nat) (s:((List Int)×Int×Int×Int×(List Int)×Int×Int×(List Int)×Int×Int×(List Int))):Option ((List Int)×Int×Int×(List Int)×Int×Int×(List Int)):=Zt5 n s.1 s.2.1 s.2.2.1 s.2.2.2.1 s.2.2.2.2.1 s.2.2.2.2.2.1 s.2.2.2.2.2.2.1 s.2.2.2.2.2.2.2.1 s.2.2.2.2.2.2.2.2.1 s.2.2.2.2.2.2.2.2.2.1 s.2.2.2.2.2.2.2.2.2.2
def Zvd (rec_:((List Int)×Int×Int×Int×(List Int)×Int×Int×(List Int)×Int×Int×(List Int))→Option ((List Int)×Int×Int×(List Int)×Int×Int×(List Int))) (s:((List Int)×Int×Int×Int×(List Int)×Int×Int×(List Int)×Int×Int×(List Int))):Option ((List Int)×Int×Int×(List Int)×Int×Int×(List Int)):=Zs0 (fun v_ i x_ carry t17 t18 i_1 t24 t25 j out=>rec_ (v_,i,x_,carry,t17,t18,i_1,t24,t25,j,out)) s.1 s.2.1 s.2.2.1 s.2.2.2.1 s.2.2.2.2.1 s.2.2.2.2.2.1 s.2.2.2.2.2.2.1 s.2.2.2.2.2.2.2.1 s.2.2.2.2.2.2.2.2.1 s.2.2.2.2.2.2.2.2.2.1 s.2.2.2.2.2.2.2.2.2.2
theorem ZzZ:∀n s,ZxY (n+1) s=Zvd (ZxY n) s:=fun _ _=>rfl
def Zs1 (rec_:(List Int)→(List Int)→Int→Int→(List Int)→Option (List Int)) (v_:(List Int)) (t17:(List Int)) (t18:Int) (i:Int) (out:(List Int)):Option (List Int):=
 bif (decide (i < t18))then (
  (idx t17 i).bind fun x_=>
  (Zt5 big v_ i x_ (0:Int) t17 t18 i v_ (v_.length:Int) (0:Int) out).bind fun(x0,x1,x2,x3,x4,x5,x6)=>Zwg rec_ x0 x1 x2 x3 x4 x5 x6
 )else (
  some out
 )
def Zr2:Nat→(List Int)→(List Int)→Int→Int→(List Int)→Option (List Int)
 |0,_,_,_,_,_=>none
 |n_+1,v_,t17,t18,i,out=>Zs1 (Zr2 n_) v_ t17 t18 i out
def ZxZ (n:Nat) (s:((List Int)×(List Int)×Int×Int×(List Int))):Option (List Int):=Zr2 n s.1 s.2.1 s.2.2.1 s.2.2.2.1 s.2.2.2.2
def Zve (rec_:((List Int)×(List Int)×Int×Int×(List Int))→Option (List Int)) (s:((List Int)×(List Int)×Int×Int×(List Int))):Option (List Int):=Zs1 (fun v_ t17 t18 i out=>rec_ (v_,t17,t18,i,out)) s.1 s.2.1 s.2.2.1 s.2.2.2.1 s.2.2.2.2
theorem Zz0:∀n s,ZxZ (n+1) s=Zve (ZxZ n) s:=fun _ _=>rfl
def ZqO (w_:(List Int)) (v_:(List Int)):Option (List Int):=
 chk (inK .i64 ((w_.length:Int)+(v_.length:Int))) <|
 chk (mkOk ((w_.length:Int)+(v_.length:Int)) ((w_.length:Int)+(v_.length:Int)) 4) <|
 (Zr2 big v_ w_ (w_.length:Int) (0:Int) (List.replicate (((w_.length:Int)+(v_.length:Int))).toNat (0:Int))).bind fun x0=>Zwf x0
def Zwx (t4:Bool) (t4_1:(List Int)):Option ZnD:=
 some (ZnD.mk t4 t4_1)
def ZoN (neg:Bool) (w_:(List Int)):Option ZnD:=
 bif neg then (
  chk (ZiZ w_.length 4) <|
  Zwx (decide ((w_.length:Int) > 0)) w_
 )else (
  chk (ZiZ w_.length 4) <|
  Zwx false w_
 )
def ZrG (a:ZnD) (b:ZnD):Option ZnD:=
 (ZqO a.Words b.Words).bind fun q=>
 (ZoN (!(a.Neg == b.Neg)) q).bind fun q_1=>
 some q_1
def Zvr (t2:ZnD):Option ZnD:=
 some t2
def Zvj (a:ZnD):Option ZnD:=
 bif (!a.Neg)then (
  Zvr (ZnD.mk (decide ((a.Words.length:Int) > 0)) a.Words)
 )else (
  Zvr (ZnD.mk false a.Words)
 )
def ZwP (carry:Int) (out:(List Int)):Option (List Int):=
 chk (ZiZ (out.length+([carry]:(List Int)).length) 4) <|
 (Zoz (out++([carry]:(List Int)))).bind fun q=>
 some q
def Ztu (rec_:(List Int)→(List Int)→Int→Int→Int→(List Int)→Option (Int×(List Int))) (w_:(List Int)) (v_:(List Int)) (carry:Int) (t20:Int) (i:Int) (out:(List Int)):Option (Int×(List Int)):=
 bif (decide (i < t20))then (
  (Zsi w_ i).bind fun q=>
  (Zsi v_ i).bind fun q_1=>
  (ZuY q q_1 carry).bind fun(d,carry_1)=>
  chk (ZiZ (out.length+([d]:(List Int)).length) 4) <|
  chk (inK .i64 (i+1)) <|
  rec_ w_ v_ carry_1 t20 (i+1) (out++([d]:(List Int)))
 )else (
  some (carry,out)
 )
def Zuk:Nat→(List Int)→(List Int)→Int→Int→Int→(List Int)→Option (Int×(List Int))
 |0,_,_,_,_,_,_=>none
 |n_+1,w_,v_,carry,t20,i,out=>Ztu (Zuk n_) w_ v_ carry t20 i out
def Zyp (n:Nat) (s:((List Int)×(List Int)×Int×Int×Int×(List Int))):Option (Int×(List Int)):=Zuk n s.1 s.2.1 s.2.2.1 s.2.2.2.1 s.2.2.2.2.1 s.2.2.2.2.2
def ZvH (rec_:((List Int)×(List Int)×Int×Int×Int×(List Int))→Option (Int×(List Int))) (s:((List Int)×(List Int)×Int×Int×Int×(List Int))):Option (Int×(List Int)):=Ztu (fun w_ v_ carry t20 i out=>rec_ (w_,v_,carry,t20,i,out)) s.1 s.2.1 s.2.2.1 s.2.2.2.1 s.2.2.2.2.1 s.2.2.2.2.2
theorem ZAc:∀n s,Zyp (n+1) s=ZvH (Zyp n) s:=fun _ _=>rfl
def Zsl (w_:(List Int)) (v_:(List Int)):Option (List Int):=
 chk (inK .i64 ((if (v_.length:Int) > (w_.length:Int)then (v_.length:Int)else (w_.length:Int))+1)) <|
 chk (mkOk 0 ((if (v_.length:Int) > (w_.length:Int)then (v_.length:Int)else (w_.length:Int))+1) 4) <|
 (Zuk big w_ v_ (0:Int) (if (v_.length:Int) > (w_.length:Int)then (v_.length:Int)else (w_.length:Int)) (0:Int) (List.replicate ((0:Int)).toNat (0:Int))).bind fun(x0,x1)=>ZwP x0 x1
def Zwi (out:(List Int)):Option (List Int):=
 (Zoz out).bind fun q=>
 some q
def Zs4 (rec_:(List Int)→(List Int)→Int→Int→Int→(List Int)→Option (List Int)) (w_:(List Int)) (v_:(List Int)) (borrow:Int) (t12:Int) (i:Int) (out:(List Int)):Option (List Int):=
 bif (decide (i < t12))then (
  (idx w_ i).bind fun w__e=>
  (Zsi v_ i).bind fun q=>
  (ZtR w__e q borrow).bind fun(q_1,borrow_1)=>
  chk (inR i (out.length:Int)) <|
  chk (inK .i64 (i+1)) <|
  rec_ w_ v_ borrow_1 t12 (i+1) (out.set ((i).toNat) q_1)
 )else (
  some out
 )
def Zt7:Nat→(List Int)→(List Int)→Int→Int→Int→(List Int)→Option (List Int)
 |0,_,_,_,_,_,_=>none
 |n_+1,w_,v_,borrow,t12,i,out=>Zs4 (Zt7 n_) w_ v_ borrow t12 i out
def Zx1 (n:Nat) (s:((List Int)×(List Int)×Int×Int×Int×(List Int))):Option (List Int):=Zt7 n s.1 s.2.1 s.2.2.1 s.2.2.2.1 s.2.2.2.2.1 s.2.2.2.2.2
def Zvh (rec_:((List Int)×(List Int)×Int×Int×Int×(List Int))→Option (List Int)) (s:((List Int)×(List Int)×Int×Int×Int×(List Int))):Option (List Int):=Zs4 (fun w_ v_ borrow t12 i out=>rec_ (w_,v_,borrow,t12,i,out)) s.1 s.2.1 s.2.2.1 s.2.2.2.1 s.2.2.2.2.1 s.2.2.2.2.2
theorem Zz2:∀n s,Zx1 (n+1) s=Zvh (Zx1 n) s:=fun _ _=>rfl
def ZrM (w_:(List Int)) (v_:(List Int)):Option (List Int):=
 chk (mkOk (w_.length:Int) (w_.length:Int) 4) <|
 (Zt7 big w_ v_ (0:Int) (w_.length:Int) (0:Int) (List.replicate ((w_.length:Int)).toNat (0:Int))).bind fun x0=>Zwi x0
def ZyI (a:ZnD) (b:ZnD):Option ZnD:=
 bif (a.Neg == b.Neg)then (
  (Zsl a.Words b.Words).bind fun q=>
  (ZoN a.Neg q).bind fun q_1=>
  some q_1
 )else (
  (Zpq a.Words b.Words).bind fun q_2=>
  bif (decide (q_2≥0))then (
   (ZrM a.Words b.Words).bind fun q_3=>
   (ZoN a.Neg q_3).bind fun q_4=>
   some q_4
  )else (
   (ZrM b.Words a.Words).bind fun q_5=>
   (ZoN b.Neg q_5).bind fun q_6=>
   some q_6
  )
 )
def Zyk (t13:Bool) (a:ZnA) (b:ZnA):Option Int:=
 bif t13 then (
  some (0:Int)
 )else (
  (ZrG a.Num b.Den).bind fun q=>
  (ZrG b.Num a.Den).bind fun q_1=>
  (Zvj q_1).bind fun q_2=>
  (ZyI q q_2).bind fun d=>
  bif d.Neg then (
   some (-1:Int)
  )else (
   bif (decide ((d.Words.length:Int) > 0))then (
    some (1:Int)
   )else (
    some (0:Int)
   )
  )
 )
def Zob (a:ZnA) (b:ZnA):Option Int:=
 (ZvL a).bind fun q=>
 bif (!q)then (
  Zyk true a b
 )else (
  (ZvL b).bind fun q_1=>
  Zyk (!q_1) a b
 )
def ZyY (i:Int):Option Int:=
 some i
def ZxH (rec_:(List ZnA)→Int→ZnA→Option Int) (l:(List ZnA)) (i:Int) (t19:Bool) (x_:ZnA):Option Int:=
 bif t19 then (
  chk (inK .i64 (i+1)) <|
  rec_ l (i+1) x_
 )else (
  some i
 )
def Zys (rec_:(List ZnA)→Int→ZnA→Option Int) (l:(List ZnA)) (i:Int) (x_:ZnA):Option Int:=
 bif (decide (i < (l.length:Int)))then (
  (idx l i).bind fun l_e=>
  (Zob l_e x_).bind fun q=>
  ZxH rec_ l i (decide (q≤0)) x_
 )else (
  ZxH rec_ l i false x_
 )
def ZvP:Nat→(List ZnA)→Int→ZnA→Option Int
 |0,_,_,_=>none
 |n_+1,l,i,x_=>Zys (ZvP n_) l i x_
def ZzI (n:Nat) (s:((List ZnA)×Int×ZnA)):Option Int:=ZvP n s.1 s.2.1 s.2.2
def ZzJ (rec_:((List ZnA)×Int×ZnA)→Option Int) (s:((List ZnA)×Int×ZnA)):Option Int:=Zys (fun l i x_=>rec_ (l,i,x_)) s.1 s.2.1 s.2.2
theorem ZA6:∀n s,ZzI (n+1) s=ZzJ (ZzI n) s:=fun _ _=>rfl
def ZwJ (l:(List ZnA)) (i:Int) (x_:ZnA):Option Int:=
 (ZvP big l i x_).bind fun x0=>ZyY x0
def Zs8 (n:Int):Option (List Int):=
 chk (decide (0≤(32:Int))) <|
 (Zoz ([(IntKind.wrap .u32 n),(IntKind.wrap .u32 (shrK .u64 n 32))]:(List Int))).bind fun q=>
 some q
def Zul (n:Int):Option ZnD:=
 bif (decide (n < 0))then (
  (Zs8 (IntKind.wrap .u64 (0 - (IntKind.wrap .u64 n)))).bind fun q=>
  (ZoN true q).bind fun q_1=>
  some q_1
 )else (
  (Zs8 (IntKind.wrap .u64 n)).bind fun q_2=>
  (ZoN false q_2).bind fun q_3=>
  some q_3
 )
def Zs7 (num:ZnD) (den:ZnD):Option ZnA:=
 (Zrk num.Words den.Words).bind fun g=>
 (Zre num.Words g).bind fun(x_,q)=>
 (Zre den.Words g).bind fun(y,q_1)=>
 (ZoN (!(num.Neg == den.Neg)) x_).bind fun q_2=>
 (ZoN false y).bind fun q_3=>
 some (ZnA.mk q_2 q_3)
def Zx7 (num:ZnD) (den:ZnD):Option (ZnA×Int):=
 (ZwS ([num,den]:(List ZnD))).bind fun q=>
 bif (!q)then (
  some ((ZnA.mk (ZnD.mk false ([]:(List Int))) (ZnD.mk false ([]:(List Int)))),1)
 )else (
  bif ((den.Words.length:Int) == 0)then (
   some ((ZnA.mk (ZnD.mk false ([]:(List Int))) (ZnD.mk false ([]:(List Int)))),8)
  )else (
   (Zs7 num den).bind fun q_1=>
   some (q_1,0)
  )
 )
def Zyj (num:Int) (den:Int):Option (ZnA×Int):=
 (Zul num).bind fun q=>
 (Zul den).bind fun q_1=>
 (Zx7 q q_1).bind fun(q_2,q_3)=>
 some (q_2,q_3)
def Zzh:Option ZnA:=
 (Zyj 0 1).bind fun(f,q)=>
 some f
def ZBm (a:Int) (b:Int):Option ZnA:=
 (Zyj a b).bind fun(f,e)=>
 bif (e != 0)then (
  (Zzh).bind fun q=>
  some q
 )else (
  some f
 )
def Zxt (a:(List ZnA)) (b:(List ZnA)) (most:Int) (t4:Bool) (t4_1:Bool) (t4_2:(List Int)) (t4_3:(List Int)):Option (ZnA×Int):=
 chk (inK .i64 ((a.length:Int)*(b.length:Int))) <|
 (ZBm most ((a.length:Int)*(b.length:Int))).bind fun q=>
 some (q,0)
def ZtF (rec_:(List ZnA)→(List ZnA)→Int→Int→Int→Bool→Bool→(List Int)→(List Int)→Option ((List ZnA)×(List ZnA)×Int×Bool×Bool×(List Int)×(List Int))) (a:(List ZnA)) (b:(List ZnA)) (most:Int) (i:Int) (k:Int) (t4:Bool) (t4_1:Bool) (x_:ZnA) (t4_2:(List Int)) (t4_3:(List Int)):Option ((List ZnA)×(List ZnA)×Int×Bool×Bool×(List Int)×(List Int)):=
 (ZwJ a i x_).bind fun i_1=>
 (ZwJ b k x_).bind fun k_1=>
 chk (inK .i64 (i_1*(b.length:Int))) <|
 chk (inK .i64 (k_1*(a.length:Int))) <|
 chk (inK .i64 ((i_1*(b.length:Int)) - (k_1*(a.length:Int)))) <|
 chk (inK .i64 (k_1*(a.length:Int))) <|
 chk (inK .i64 (i_1*(b.length:Int))) <|
 chk (inK .i64 ((k_1*(a.length:Int)) - (i_1*(b.length:Int)))) <|
 rec_ a b (if ((k_1*(a.length:Int)) - (i_1*(b.length:Int))) > (if ((i_1*(b.length:Int)) - (k_1*(a.length:Int))) > most then ((i_1*(b.length:Int)) - (k_1*(a.length:Int)))else most)then ((k_1*(a.length:Int)) - (i_1*(b.length:Int)))else (if ((i_1*(b.length:Int)) - (k_1*(a.length:Int))) > most then ((i_1*(b.length:Int)) - (k_1*(a.length:Int)))else most)) i_1 k_1 t4 t4_1 t4_2 t4_3
def Zvp (rec_:(List ZnA)→(List ZnA)→Int→Int→Int→Bool→Bool→(List Int)→(List Int)→Option ((List ZnA)×(List ZnA)×Int×Bool×Bool×(List Int)×(List Int))) (a:(List ZnA)) (b:(List ZnA)) (most:Int) (i:Int) (k:Int) (t28:Bool) (t4:Bool) (t4_1:Bool) (t4_2:(List Int)) (t4_3:(List Int)):Option ((List ZnA)×(List ZnA)×Int×Bool×Bool×(List Int)×(List Int)):=
 bif t28 then (
  (idx a i).bind fun x_=>
  (idx b k).bind fun b_e=>
  (Zob b_e x_).bind fun q=>
  bif (decide (q < 0))then (
   (idx b k).bind fun x__1=>
   ZtF rec_ a b most i k t4 t4_1 x__1 t4_2 t4_3
  )else (
   ZtF rec_ a b most i k t4 t4_1 x_ t4_2 t4_3
  )
 )else (
  some (a,b,most,t4,t4_1,t4_2,t4_3)
 )
def ZwK (rec_:(List ZnA)→(List ZnA)→Int→Int→Int→Bool→Bool→(List Int)→(List Int)→Option ((List ZnA)×(List ZnA)×Int×Bool×Bool×(List Int)×(List Int))) (a:(List ZnA)) (b:(List ZnA)) (most:Int) (i:Int) (k:Int) (t4:Bool) (t4_1:Bool) (t4_2:(List Int)) (t4_3:(List Int)):Option ((List ZnA)×(List ZnA)×Int×Bool×Bool×(List Int)×(List Int)):=
 bif (decide (i < (a.length:Int)))then (
  Zvp rec_ a b most i k (decide (k < (b.length:Int))) t4 t4_1 t4_2 t4_3
 )else (
  Zvp rec_ a b most i k false t4 t4_1 t4_2 t4_3
 )
def ZrL:Nat→(List ZnA)→(List ZnA)→Int→Int→Int→Bool→Bool→(List Int)→(List Int)→Option ((List ZnA)×(List ZnA)×Int×Bool×Bool×(List Int)×(List Int))
 |0,_,_,_,_,_,_,_,_,_=>none
 |n_+1,a,b,most,i,k,t4,t4_1,t4_2,t4_3=>ZwK (ZrL n_) a b most i k t4 t4_1 t4_2 t4_3
def ZyP (n:Nat) (s:((List ZnA)×(List ZnA)×Int×Int×Int×Bool×Bool×(List Int)×(List Int))):Option ((List ZnA)×(List ZnA)×Int×Bool×Bool×(List Int)×(List Int)):=ZrL n s.1 s.2.1 s.2.2.1 s.2.2.2.1 s.2.2.2.2.1 s.2.2.2.2.2.1 s.2.2.2.2.2.2.1 s.2.2.2.2.2.2.2.1 s.2.2.2.2.2.2.2.2
def ZyQ (rec_:((List ZnA)×(List ZnA)×Int×Int×Int×Bool×Bool×(List Int)×(List Int))→Option ((List ZnA)×(List ZnA)×Int×Bool×Bool×(List Int)×(List Int))) (s:((List ZnA)×(List ZnA)×Int×Int×Int×Bool×Bool×(List Int)×(List Int))):Option ((List ZnA)×(List ZnA)×Int×Bool×Bool×(List Int)×(List Int)):=ZwK (fun a b most i k t4 t4_1 t4_2 t4_3=>rec_ (a,b,most,i,k,t4,t4_1,t4_2,t4_3)) s.1 s.2.1 s.2.2.1 s.2.2.2.1 s.2.2.2.2.1 s.2.2.2.2.2.1 s.2.2.2.2.2.2.1 s.2.2.2.2.2.2.2.1 s.2.2.2.2.2.2.2.2
theorem ZAy:∀n s,ZyP (n+1) s=ZyQ (ZyP n) s:=fun _ _=>rfl
def ZtG (a:(List ZnA)) (b:(List ZnA)) (t17:Bool) (t4:Bool) (t4_1:Bool) (t4_2:(List Int)) (t4_3:(List Int)):Option (ZnA×Int):=
 bif t17 then (
  some ((ZnA.mk (ZnD.mk false ([]:(List Int))) (ZnD.mk false ([]:(List Int)))),5)
 )else (
  (ZrL big a b (0:Int) (0:Int) (0:Int) t4 t4_1 t4_2 t4_3).bind fun(x0,x1,x2,x3,x4,x5,x6)=>Zxt x0 x1 x2 x3 x4 x5 x6
 )
def Zpf (a:(List ZnA)) (b:(List ZnA)):Option (ZnA×Int):=
 bif ((a.length:Int) == 0)then (
  ZtG a b true false false ([]:(List Int)) ([]:(List Int))
 )else (
  ZtG a b ((b.length:Int) == 0) false false ([]:(List Int)) ([]:(List Int))
 )
def Zum:Option Bool:=
 some true
def Zrf (rec_:(List Int)→Int→Int→ZnD→Option (Out Unit Bool)) (t22:(List Int)) (t23:Int) (i:Int) (b:ZnD):Option (Out Unit Bool):=
 bif (decide (i < t23))then (
  (idx t22 i).bind fun w_=>
  (idx b.Words i).bind fun Word=>
  bif (Word != w_)then (
   some (.ret false)
  )else (
   chk (inK .i64 (i+1)) <|
   rec_ t22 t23 (i+1) b
  )
 )else (
  some (.brk ())
 )
def Zr3:Nat→(List Int)→Int→Int→ZnD→Option (Out Unit Bool)
 |0,_,_,_,_=>none
 |n_+1,t22,t23,i,b=>Zrf (Zr3 n_) t22 t23 i b
def ZwC (n:Nat) (s:((List Int)×Int×Int×ZnD)):Option (Out Unit Bool):=Zr3 n s.1 s.2.1 s.2.2.1 s.2.2.2
def ZtJ (rec_:((List Int)×Int×Int×ZnD)→Option (Out Unit Bool)) (s:((List Int)×Int×Int×ZnD)):Option (Out Unit Bool):=Zrf (fun t22 t23 i b=>rec_ (t22,t23,i,b)) s.1 s.2.1 s.2.2.1 s.2.2.2
theorem Zy6:∀n s,ZwC (n+1) s=ZtJ (ZwC n) s:=fun _ _=>rfl
def Zr4 (t20:Bool) (a:ZnD) (b:ZnD):Option Bool:=
 bif t20 then (
  some false
 )else (
  (Zr3 big a.Words (a.Words.length:Int) (0:Int) b).bind fun
   | .ret q_=>some q_
   | .brk ()=>Zum
 )
def Zqg (a:ZnD) (b:ZnD):Option Bool:=
 bif (!(a.Neg == b.Neg))then (
  Zr4 true a b
 )else (
  Zr4 ((a.Words.length:Int) != (b.Words.length:Int)) a b
 )
def Ztn (t4:Bool):Option Bool:=
 some t4
def Zoc (a:ZnA) (b:ZnA):Option Bool:=
 (Zqg a.Num b.Num).bind fun q=>
 bif q then (
  (Zqg a.Den b.Den).bind fun q_1=>
  Ztn q_1
 )else (
  Ztn false
 )
def ZzR:Option (List (Int×ZpZ)):=
 some (setB (k:=(.int .i64)) (v:=(.st 4)) (car:=ZAM) (setB (k:=(.int .i64)) (v:=(.st 4)) (car:=ZAM) (setB (k:=(.int .i64)) (v:=(.st 4)) (car:=ZAM) (setB (k:=(.int .i64)) (v:=(.st 4)) (car:=ZAM) (setB (k:=(.int .i64)) (v:=(.st 4)) (car:=ZAM) ([]:(List (Int×ZpZ))) 1 (ZpZ.mk ([116,101,120,116]:Str) (none:Option Nat) (some 237:Option Nat))) 2 (ZpZ.mk ([98,111,111,108]:Str) (some 238:Option Nat) (some 239:Option Nat))) 3 (ZpZ.mk ([105,110,116,101,103,101,114]:Str) (some 240:Option Nat) (some 241:Option Nat))) 4 (ZpZ.mk ([100,101,99,105,109,97,108]:Str) (some 242:Option Nat) (some 241:Option Nat))) 5 (ZpZ.mk ([100,97,116,101]:Str) (some 243:Option Nat) (some 244:Option Nat)))
def ZyF (s cs:Str):Option Str:=
 chk (cs.all fun b=>decide (b.toNat < 128)) <| chk (decide (cs.length < 4294967281)) <| some (Lib.trimS s cs)
def Zzd (s:Str):Option Str:=
 (ZyF s ([32]:Str)).bind fun q=>
 some q
def Zqq (t4:Bool):Option Bool:=
 some t4
def ZoY (s:Str) (prefix_:Str):Option Bool:=
 bif (decide ((s.length:Int)≥(prefix_.length:Int)))then (
  chk (Zb9 0 (prefix_.length:Int) (s.length:Int)) <|
  Zqq ((s.take ((prefix_.length:Int)).toNat) == prefix_)
 )else (
  Zqq false
 )
def Zq5 (s:Str) (prefix_:Str):Option (Str×Bool):=
 (ZoY s prefix_).bind fun q=>
 bif (!q)then (
  some (s,false)
 )else (
  chk (Zb9 (prefix_.length:Int) (s.length:Int) (s.length:Int)) <|
  some ((s.drop ((prefix_.length:Int)).toNat),true)
 )
def Zvb (s:Str) (prefix_:Str):Option (Str×Bool):=
 (Zq5 s prefix_).bind fun(after,found)=>
 some (after,found)
def ZqU (s:Str) (prefix_:Str):Option Str:=
 (ZoY s prefix_).bind fun q=>
 bif q then (
  chk (Zb9 (prefix_.length:Int) (s.length:Int) (s.length:Int)) <|
  some (s.drop ((prefix_.length:Int)).toNat)
 )else (
  some s
 )
def ZuC (s:Str) (prefix_:Str):Option Str:=
 (ZqU s prefix_).bind fun q=>
 some q
def Zq4 (s:Str) (c:Int):Option Int:=
 some (Lib.indexByte s c.toNat.toUInt8)
def Zrj (s:Str) (substr:Str) (n:Int) (t16:Bool):Option Int:=
 bif t16 then (
  some (0:Int)
 )else (
  bif (n == 1)then (
   (idx substr 0).bind fun c=>
   (Zq4 s ((c.toNat:Nat):Int)).bind fun q=>
   some q
  )else (
   bif (decide (n≥(s.length:Int)))then (
    some (-1:Int)
   )else (
    none
   )
  )
 )
def ZqV (s:Str) (substr:Str):Option Int:=
 bif ((substr.length:Int) == 0)then (
  Zrj s substr (substr.length:Int) true
 )else (
  Zrj s substr (substr.length:Int) (substr == s)
 )
def Ztt (s:Str) (sep:Str):Option (Str×Str×Bool):=
 (ZqV s sep).bind fun i=>
 bif (decide (i≥0))then (
  chk (Zb9 0 i (s.length:Int)) <|
  chk (inK .i64 (i+(sep.length:Int))) <|
  chk (Zb9 (i+(sep.length:Int)) (s.length:Int) (s.length:Int)) <|
  some ((s.take (i).toNat),(s.drop ((i+(sep.length:Int))).toNat),true)
 )else (
  some (s,([]:Str),false)
 )
def Zyg (s:Str) (sep:Str):Option (Str×Str×Bool):=
 (Ztt s sep).bind fun(before,after,found)=>
 some (before,after,found)
def ZuF (t4:Bool):Option Bool:=
 some t4
def ZuZ (s:Str) (most:Int):Option Bool:=
 bif (decide ((s.length:Int)≥1))then (
  bif (decide ((s.length:Int)≤most))then (
   (ZyF s ([48,49,50,51,52,53,54,55,56,57]:Str)).bind fun q=>
   ZuF (q == ([]:Str))
  )else (
   ZuF false
  )
 )else (
  ZuF false
 )
def Zx8 (neg:Bool) (num:(List Int)) (den:(List Int)) (t2:Bool) (t2_1:Bool) (t2_2:(List Int)) (t2_3:(List Int)):Option (ZnA×Bool):=
 (ZoN neg num).bind fun q=>
 (ZoN false den).bind fun q_1=>
 (Zs7 q q_1).bind fun q_2=>
 some (q_2,true)
def ZuV (rec_:Bool→(List Int)→(List Int)→(List Int)→Int→Int→Bool→Bool→(List Int)→(List Int)→Option (Bool×(List Int)×(List Int)×Bool×Bool×(List Int)×(List Int))) (neg:Bool) (num:(List Int)) (ten:(List Int)) (den:(List Int)) (t63:Int) (t64:Int) (t2:Bool) (t2_1:Bool) (t2_2:(List Int)) (t2_3:(List Int)):Option (Bool×(List Int)×(List Int)×Bool×Bool×(List Int)×(List Int)):=
 bif (decide (t64 < t63))then (
  (ZqO den ten).bind fun den_1=>
  chk (inK .i64 (t64+1)) <|
  rec_ neg num ten den_1 t63 (t64+1) t2 t2_1 t2_2 t2_3
 )else (
  some (neg,num,den,t2,t2_1,t2_2,t2_3)
 )
def ZvV:Nat→Bool→(List Int)→(List Int)→(List Int)→Int→Int→Bool→Bool→(List Int)→(List Int)→Option (Bool×(List Int)×(List Int)×Bool×Bool×(List Int)×(List Int))
 |0,_,_,_,_,_,_,_,_,_,_=>none
 |n_+1,neg,num,ten,den,t63,t64,t2,t2_1,t2_2,t2_3=>ZuV (ZvV n_) neg num ten den t63 t64 t2 t2_1 t2_2 t2_3
def Zy2 (n:Nat) (s:(Bool×(List Int)×(List Int)×(List Int)×Int×Int×Bool×Bool×(List Int)×(List Int))):Option (Bool×(List Int)×(List Int)×Bool×Bool×(List Int)×(List Int)):=ZvV n s.1 s.2.1 s.2.2.1 s.2.2.2.1 s.2.2.2.2.1 s.2.2.2.2.2.1 s.2.2.2.2.2.2.1 s.2.2.2.2.2.2.2.1 s.2.2.2.2.2.2.2.2.1 s.2.2.2.2.2.2.2.2.2
def Zxe (rec_:(Bool×(List Int)×(List Int)×(List Int)×Int×Int×Bool×Bool×(List Int)×(List Int))→Option (Bool×(List Int)×(List Int)×Bool×Bool×(List Int)×(List Int))) (s:(Bool×(List Int)×(List Int)×(List Int)×Int×Int×Bool×Bool×(List Int)×(List Int))):Option (Bool×(List Int)×(List Int)×Bool×Bool×(List Int)×(List Int)):=ZuV (fun neg num ten den t63 t64 t2 t2_1 t2_2 t2_3=>rec_ (neg,num,ten,den,t63,t64,t2,t2_1,t2_2,t2_3)) s.1 s.2.1 s.2.2.1 s.2.2.2.1 s.2.2.2.2.1 s.2.2.2.2.2.1 s.2.2.2.2.2.2.1 s.2.2.2.2.2.2.2.1 s.2.2.2.2.2.2.2.2.1 s.2.2.2.2.2.2.2.2.2
theorem ZAF:∀n s,Zy2 (n+1) s=Zxe (Zy2 n) s:=fun _ _=>rfl
def Zx9 (neg:Bool) (back:Str) (num:(List Int)) (ten:(List Int)) (t2:Bool) (t2_1:Bool) (den:(List Int)) (t2_2:(List Int)) (t2_3:(List Int)):Option (ZnA×Bool):=
 (ZvV big neg num ten den (back.length:Int) (0:Int) t2 t2_1 t2_2 t2_3).bind fun(x0,x1,x2,x3,x4,x5,x6)=>Zx8 x0 x1 x2 x3 x4 x5 x6
def ZuW (rec_:Bool→Str→(List Int)→(List Int)→Int→Int→Bool→Bool→(List Int)→(List Int)→(List Int)→(List Int)→Option (Bool×Str×(List Int)×(List Int)×Bool×Bool×(List Int)×(List Int)×(List Int))) (neg:Bool) (back:Str) (num:(List Int)) (ten:(List Int)) (t48:Int) (t49:Int) (t2:Bool) (t2_1:Bool) (den:(List Int)) (t47:(List Int)) (t2_2:(List Int)) (t2_3:(List Int)):Option (Bool×Str×(List Int)×(List Int)×Bool×Bool×(List Int)×(List Int)×(List Int)):=
 bif (decide (t49 < t48))then (
  chk (inR t49 (t47.length:Int)) <|
  (t47[(t49).toNat]?).bind fun d=>
  (ZqO num ten).bind fun q=>
  (Zs8 (IntKind.wrap .u64 (IntKind.wrap .u8 (d - 48)))).bind fun q_1=>
  (Zsl q q_1).bind fun num_1=>
  chk (inK .i64 (t49+1)) <|
  rec_ neg back num_1 ten t48 (t49+1) t2 t2_1 den t47 t2_2 t2_3
 )else (
  some (neg,back,num,ten,t2,t2_1,den,t2_2,t2_3)
 )
def ZvW:Nat→Bool→Str→(List Int)→(List Int)→Int→Int→Bool→Bool→(List Int)→(List Int)→(List Int)→(List Int)→Option (Bool×Str×(List Int)×(List Int)×Bool×Bool×(List Int)×(List Int)×(List Int))
 |0,_,_,_,_,_,_,_,_,_,_,_,_=>none
 |n_+1,neg,back,num,ten,t48,t49,t2,t2_1,den,t47,t2_2,t2_3=>ZuW (ZvW n_) neg back num ten t48 t49 t2 t2_1 den t47 t2_2 t2_3
def Zy3 (n:Nat) (s:(Bool×Str×(List Int)×(List Int)×Int×Int×Bool×Bool×(List Int)×(List Int)×(List Int)×(List Int))):Option (Bool×Str×(List Int)×(List Int)×Bool×Bool×(List Int)×(List Int)×(List Int)):=ZvW n s.1 s.2.1 s.2.2.1 s.2.2.2.1 s.2.2.2.2.1 s.2.2.2.2.2.1 s.2.2.2.2.2.2.1 s.2.2.2.2.2.2.2.1 s.2.2.2.2.2.2.2.2.1 s.2.2.2.2.2.2.2.2.2.1 s.2.2.2.2.2.2.2.2.2.2.1 s.2.2.2.2.2.2.2.2.2.2.2
def Zxf (rec_:(Bool×Str×(List Int)×(List Int)×Int×Int×Bool×Bool×(List Int)×(List Int)×(List Int)×(List Int))→Option (Bool×Str×(List Int)×(List Int)×Bool×Bool×(List Int)×(List Int)×(List Int))) (s:(Bool×Str×(List Int)×(List Int)×Int×Int×Bool×Bool×(List Int)×(List Int)×(List Int)×(List Int))):Option (Bool×Str×(List Int)×(List Int)×Bool×Bool×(List Int)×(List Int)×(List Int)):=ZuW (fun neg back num ten t48 t49 t2 t2_1 den t47 t2_2 t2_3=>rec_ (neg,back,num,ten,t48,t49,t2,t2_1,den,t47,t2_2,t2_3)) s.1 s.2.1 s.2.2.1 s.2.2.2.1 s.2.2.2.2.1 s.2.2.2.2.2.1 s.2.2.2.2.2.2.1 s.2.2.2.2.2.2.2.1 s.2.2.2.2.2.2.2.2.1 s.2.2.2.2.2.2.2.2.2.1 s.2.2.2.2.2.2.2.2.2.2.1 s.2.2.2.2.2.2.2.2.2.2.2
theorem ZAG:∀n s,Zy3 (n+1) s=Zxf (Zy3 n) s:=fun _ _=>rfl
def Zso (neg:Bool) (front:Str) (back:Str) (t39:Bool) (t2:Bool) (t2_1:Bool) (t2_2:(List Int)) (t2_3:(List Int)):Option (ZnA×Bool):=
 bif t39 then (
  some ((ZnA.mk (ZnD.mk false ([]:(List Int))) (ZnD.mk false ([]:(List Int)))),false)
 )else (
  (Zo3 ([1]:List Int)).bind fun den=>
  chk (decide (front.length+back.length≤Zq)) <|
  chk (decide ((front++back).length≤281474976710656)) <|
  (ZvW big neg back ([]:(List Int)) ([10]:(List Int)) (((front++back).map fun b=>((b.toNat:Nat):Int)).length:Int) (0:Int) t2 t2_1 den ((front++back).map fun b=>((b.toNat:Nat):Int)) t2_2 t2_3).bind fun(x0,x1,x2,x3,x4,x5,x6,x7,x8)=>Zx9 x0 x1 x2 x3 x4 x5 x6 x7 x8
 )
def Zui (body:Str) (neg:Bool) (t2:Bool) (t2_1:Bool) (t2_2:(List Int)) (t2_3:(List Int)):Option (ZnA×Bool):=
 (Zyg body ([46]:Str)).bind fun(front,back,point)=>
 (ZuZ front 15).bind fun q=>
 bif (!q)then (
  Zso neg front back true t2 t2_1 t2_2 t2_3
 )else (
  bif point then (
   (ZuZ back 9).bind fun q_1=>
   Zso neg front back (!q_1) t2 t2_1 t2_2 t2_3
  )else (
   Zso neg front back false t2 t2_1 t2_2 t2_3
  )
 )
def Zs9 (text:Str):Option (ZnA×Bool):=
 (Zvb text ([45]:Str)).bind fun(body,neg)=>
 bif (!neg)then (
  (ZuC text ([43]:Str)).bind fun body_1=>
  Zui body_1 neg false false ([]:(List Int)) ([]:(List Int))
 )else (
  Zui body neg false false ([]:(List Int)) ([]:(List Int))
 )
def ZxG (s cs:Str):Option Str:=
 chk (cs.all fun b=>decide (b.toNat < 128)) <| chk (decide (cs.length < 4294967281)) <| some (Lib.trimLeftS s cs)
def ZyM (s cs:Str):Option Str:=
 chk (cs.all fun b=>decide (b.toNat < 128)) <| chk (decide (cs.length < 4294967281)) <| some (Lib.trimRightS s cs)
def ZAr (zero:Str):Option Str:=
 some zero
def ZyA (rec_:Str→(List Str)→Int→Int→Option (Out Str Str)) (zero:Str) (t6:(List Str)) (t7:Int) (t8:Int):Option (Out Str Str):=
 bif (decide (t8 < t7))then (
  (idx t6 t8).bind fun val=>
  bif (!(val == zero))then (
   some (.ret val)
  )else (
   chk (inK .i64 (t8+1)) <|
   rec_ zero t6 t7 (t8+1)
  )
 )else (
  some (.brk zero)
 )
def ZvX:Nat→Str→(List Str)→Int→Int→Option (Out Str Str)
 |0,_,_,_,_=>none
 |n_+1,zero,t6,t7,t8=>ZyA (ZvX n_) zero t6 t7 t8
def ZzN (n:Nat) (s:(Str×(List Str)×Int×Int)):Option (Out Str Str):=ZvX n s.1 s.2.1 s.2.2.1 s.2.2.2
def ZzO (rec_:(Str×(List Str)×Int×Int)→Option (Out Str Str)) (s:(Str×(List Str)×Int×Int)):Option (Out Str Str):=ZyA (fun zero t6 t7 t8=>rec_ (zero,t6,t7,t8)) s.1 s.2.1 s.2.2.1 s.2.2.2
theorem ZA8:∀n s,ZzN (n+1) s=ZzO (ZzN n) s:=fun _ _=>rfl
def Zyb (vals:(List Str)):Option Str:=
 (ZvX big ([]:Str) vals (vals.length:Int) (0:Int)).bind fun
  | .ret q_=>some q_
  | .brk x0=>ZAr x0
def Zxw (out:Str):Option (Str×Bool):=
 some (out,true)
def Zxx (out:Str) (t43:Bool):Option (Str×Bool):=
 bif t43 then (
  chk (decide (([45]:Str).length+out.length≤Zq)) <|
  Zxw (([45]:Str)++out)
 )else (
  Zxw out
 )
def ZsA (t:Str) (out:Str):Option (Str×Bool):=
 (idx t 0).bind fun c=>
 bif (((c.toNat:Nat):Int) == 45)then (
  Zxx out (!(out == ([48]:Str)))
 )else (
  Zxx out false
 )
def ZwB (t:Str):Option (Str×Bool):=
 (Zs9 t).bind fun(q,ok)=>
 bif (!ok)then (
  some (([]:Str),false)
 )else (
  (ZxG t ([43,45]:Str)).bind fun q_1=>
  (Zyg q_1 ([46]:Str)).bind fun(front,back,q_2)=>
  (ZxG front ([48]:Str)).bind fun front_1=>
  (ZyM back ([48]:Str)).bind fun back_1=>
  (Zyb ([front_1,([48]:Str)]:(List Str))).bind fun out=>
  bif (!(back_1 == ([]:Str)))then (
   chk (decide (([46]:Str).length+back_1.length≤Zq)) <|
   chk (decide (out.length+(([46]:Str)++back_1).length≤Zq)) <|
   ZsA t (out++(([46]:Str)++back_1))
  )else (
   ZsA t out
  )
 )
def ZuX (n:Int) (s:Str):Option (Str×Bool):=
 (ZzR).bind fun q=>
 bif (!(Zg3 (k:=(.int .i64)) (v:=(.st 4)) (car:=ZAM) q n).isSome)then (
  some (([]:Str),false)
 )else (
  bif (Option.isNone (((Zg3 (k:=(.int .i64)) (v:=(.st 4)) (car:=ZAM) q n).getD (ZpZ.mk ([]:Str) (none:Option Nat) (none:Option Nat))).canonical))then (
   some (s,true)
  )else (
   (Zzd s).bind fun q_1=>
   chk (decide (((Zg3 (k:=(.int .i64)) (v:=(.st 4)) (car:=ZAM) q n).getD (ZpZ.mk ([]:Str) (none:Option Nat) (none:Option Nat))).canonical=some 242)) <|
   (ZwB q_1).bind fun(q_2,q_3)=>
   some (q_2,q_3)
  )
 )
def ZyT (n:Int) (s:Str):Option (ZnA×Bool):=
 (ZuX n s).bind fun(t,ok)=>
 bif (!ok)then (
  some ((ZnA.mk (ZnD.mk false ([]:(List Int))) (ZnD.mk false ([]:(List Int)))),false)
 )else (
  (ZzR).bind fun q=>
  chk (decide (((Zg3 (k:=(.int .i64)) (v:=(.st 4)) (car:=ZAM) q n).getD (ZpZ.mk ([]:Str) (none:Option Nat) (none:Option Nat))).value=some 241)) <|
  (Zs9 t).bind fun(q_1,q_2)=>
  some (q_1,q_2)
 )
def ZAb (c:G_api_Cell):Option (ZnA×Bool):=
 bif c.Null then (
  (Zzh).bind fun q=>
  some (q,false)
 )else (
  (ZyT 4 c.Text).bind fun(q_1,q_2)=>
  some (q_1,q_2)
 )
def ZxX (x_:Int):Option Int:=
 (Zyh x_).bind fun q=>
 some q
def Zp7 (data:(List ZnA)):Option (List ZnA):=
 some data
def Zp8 (rec_:Int→Int→Int→(List ZnA)→Option (List ZnA)) (a:Int) (b:Int) (i:Int) (data:(List ZnA)):Option (List ZnA):=
 chk (inK .i64 (i+1)) <|
 rec_ a b (i+1) data
def ZoM (rec_:Int→Int→Int→Int→(List ZnA)→Option (Int×Int×Int×(List ZnA))) (a:Int) (b:Int) (i:Int) (j:Int) (t34:Bool) (data:(List ZnA)):Option (Int×Int×Int×(List ZnA)):=
 bif t34 then (
  chk (inK .i64 (j - 1)) <|
  chk (inK .i64 (j - 1)) <|
  chk (inR (j - 1) (data.length:Int)) <|
  (data[((j - 1)).toNat]?).bind fun data_e=>
  chk (inR j (data.length:Int)) <|
  (data[(j).toNat]?).bind fun data_e_1=>
  chk (inR j (data.length:Int)) <|
  chk (inR (j - 1) ((data.set ((j).toNat) data_e).length:Int)) <|
  chk (inK .i64 (j - 1)) <|
  rec_ a b i (j - 1) ((data.set ((j).toNat) data_e).set (((j - 1)).toNat) data_e_1)
 )else (
  some (a,b,i,data)
 )
def ZpM (rec_:Int→Int→Int→Int→(List ZnA)→Option (Int×Int×Int×(List ZnA))) (a:Int) (b:Int) (i:Int) (j:Int) (data:(List ZnA)):Option (Int×Int×Int×(List ZnA)):=
 bif (decide (j > a))then (
  chk (inR j (data.length:Int)) <|
  (data[(j).toNat]?).bind fun data_e=>
  chk (inK .i64 (j - 1)) <|
  chk (inR (j - 1) (data.length:Int)) <|
  (data[((j - 1)).toNat]?).bind fun data_e_1=>
  (Zob data_e data_e_1).bind fun q=>
  ZoM rec_ a b i j (decide (q < 0)) data
 )else (
  ZoM rec_ a b i j false data
 )
def ZnX:Nat→Int→Int→Int→Int→(List ZnA)→Option (Int×Int×Int×(List ZnA))
 |0,_,_,_,_,_=>none
 |n_+1,a,b,i,j,data=>ZpM (ZnX n_) a b i j data
def ZrY (n:Nat) (s:(Int×Int×Int×Int×(List ZnA))):Option (Int×Int×Int×(List ZnA)):=ZnX n s.1 s.2.1 s.2.2.1 s.2.2.2.1 s.2.2.2.2
def ZrZ (rec_:(Int×Int×Int×Int×(List ZnA))→Option (Int×Int×Int×(List ZnA))) (s:(Int×Int×Int×Int×(List ZnA))):Option (Int×Int×Int×(List ZnA)):=ZpM (fun a b i j data=>rec_ (a,b,i,j,data)) s.1 s.2.1 s.2.2.1 s.2.2.2.1 s.2.2.2.2
theorem ZvN:∀n s,ZrY (n+1) s=ZrZ (ZrY n) s:=fun _ _=>rfl
def Zoa (rec_:Int→Int→Int→(List ZnA)→Option (List ZnA)) (a:Int) (b:Int) (i:Int) (data:(List ZnA)):Option (List ZnA):=
 bif (decide (i < b))then (
  (ZnX big a b i i data).bind fun(x0,x1,x2,x3)=>Zp8 rec_ x0 x1 x2 x3
 )else (
  some data
 )
def Zoi:Nat→Int→Int→Int→(List ZnA)→Option (List ZnA)
 |0,_,_,_,_=>none
 |n_+1,a,b,i,data=>Zoa (Zoi n_) a b i data
def Zo8 (data:(List ZnA)) (a:Int) (b:Int):Option (List ZnA):=
 chk (inK .i64 (a+1)) <|
 (Zoi big a b (a+1) data).bind fun x0=>Zp7 x0
def Zom (data:(List ZnA)) (a:Int) (b:Int):Option (List ZnA):=
 (Zo8 data a b).bind fun r=>chk (decide (r.length=data.length)&&true) (some r)
def ZqX (data:(List ZnA)):Option (List ZnA):=
 some data
def ZoA (rec_:Int→Int→Int→(List ZnA)→Option (Out (List ZnA) (List ZnA))) (hi:Int) (first:Int) (root:Int) (child:Int) (data:(List ZnA)):Option (Out (List ZnA) (List ZnA)):=
 chk (inK .i64 (first+root)) <|
 chk (inR (first+root) (data.length:Int)) <|
 (data[((first+root)).toNat]?).bind fun data_e=>
 chk (inK .i64 (first+child)) <|
 chk (inR (first+child) (data.length:Int)) <|
 (data[((first+child)).toNat]?).bind fun data_e_1=>
 (Zob data_e data_e_1).bind fun q=>
 bif (!(decide (q < 0)))then (
  some (.ret data)
 )else (
  chk (inK .i64 (first+root)) <|
  chk (inK .i64 (first+child)) <|
  chk (inK .i64 (first+child)) <|
  chk (inR (first+child) (data.length:Int)) <|
  (data[((first+child)).toNat]?).bind fun data_e_2=>
  chk (inK .i64 (first+root)) <|
  chk (inR (first+root) (data.length:Int)) <|
  (data[((first+root)).toNat]?).bind fun data_e_3=>
  chk (inR (first+root) (data.length:Int)) <|
  chk (inR (first+child) ((data.set (((first+root)).toNat) data_e_2).length:Int)) <|
  rec_ hi first child ((data.set (((first+root)).toNat) data_e_2).set (((first+child)).toNat) data_e_3)
 )
def Zpr (rec_:Int→Int→Int→(List ZnA)→Option (Out (List ZnA) (List ZnA))) (hi:Int) (first:Int) (root:Int) (child:Int) (t40:Bool) (data:(List ZnA)):Option (Out (List ZnA) (List ZnA)):=
 bif t40 then (
  chk (inK .i64 (child+1)) <|
  ZoA rec_ hi first root (child+1) data
 )else (
  ZoA rec_ hi first root child data
 )
def Zox (rec_:Int→Int→Int→(List ZnA)→Option (Out (List ZnA) (List ZnA))) (hi:Int) (first:Int) (root:Int) (data:(List ZnA)):Option (Out (List ZnA) (List ZnA)):=
 chk (inK .i64 (2*root)) <|
 chk (inK .i64 ((2*root)+1)) <|
 bif (decide (((2*root)+1)≥hi))then (
  some (.brk data)
 )else (
  chk (inK .i64 (((2*root)+1)+1)) <|
  bif (decide ((((2*root)+1)+1) < hi))then (
   chk (inK .i64 (first+((2*root)+1))) <|
   chk (inR (first+((2*root)+1)) (data.length:Int)) <|
   (data[((first+((2*root)+1))).toNat]?).bind fun data_e=>
   chk (inK .i64 (first+((2*root)+1))) <|
   chk (inK .i64 ((first+((2*root)+1))+1)) <|
   chk (inR ((first+((2*root)+1))+1) (data.length:Int)) <|
   (data[(((first+((2*root)+1))+1)).toNat]?).bind fun data_e_1=>
   (Zob data_e data_e_1).bind fun q=>
   Zpr rec_ hi first root ((2*root)+1) (decide (q < 0)) data
  )else (
   Zpr rec_ hi first root ((2*root)+1) false data
  )
 )
def Zoe:Nat→Int→Int→Int→(List ZnA)→Option (Out (List ZnA) (List ZnA))
 |0,_,_,_,_=>none
 |n_+1,hi,first,root,data=>Zox (Zoe n_) hi first root data
def Ztd (n:Nat) (s:(Int×Int×Int×(List ZnA))):Option (Out (List ZnA) (List ZnA)):=Zoe n s.1 s.2.1 s.2.2.1 s.2.2.2
def Zte (rec_:(Int×Int×Int×(List ZnA))→Option (Out (List ZnA) (List ZnA))) (s:(Int×Int×Int×(List ZnA))):Option (Out (List ZnA) (List ZnA)):=Zox (fun hi first root data=>rec_ (hi,first,root,data)) s.1 s.2.1 s.2.2.1 s.2.2.2
theorem Zw6:∀n s,Ztd (n+1) s=Zte (Ztd n) s:=fun _ _=>rfl
def Zp0 (data:(List ZnA)) (lo:Int) (hi:Int) (first:Int):Option (List ZnA):=
 (Zoe big hi first lo data).bind fun
  | .ret q_=>some q_
  | .brk x0=>ZqX x0
def Zog (data:(List ZnA)) (lo:Int) (hi:Int) (first:Int):Option (List ZnA):=
 (Zp0 data lo hi first).bind fun r=>chk (decide (r.length=data.length)&&true) (some r)
def ZqY (data:(List ZnA)):Option (List ZnA):=
 some data
def Zqu (rec_:Int→Int→Int→(List ZnA)→Option (List ZnA)) (first:Int) (lo:Int) (i:Int) (data:(List ZnA)):Option (List ZnA):=
 bif (decide (i≥0))then (
  chk (inK .i64 (first+i)) <|
  chk (inK .i64 (first+i)) <|
  chk (inR (first+i) (data.length:Int)) <|
  (data[((first+i)).toNat]?).bind fun data_e=>
  chk (inR first (data.length:Int)) <|
  (data[(first).toNat]?).bind fun data_e_1=>
  chk (inR first (data.length:Int)) <|
  chk (inR (first+i) ((data.set ((first).toNat) data_e).length:Int)) <|
  (Zog ((data.set ((first).toNat) data_e).set (((first+i)).toNat) data_e_1) lo i first).bind fun t54=>
  chk (inK .i64 (i - 1)) <|
  rec_ first lo (i - 1) t54
 )else (
  some data
 )
def Zpt:Nat→Int→Int→Int→(List ZnA)→Option (List ZnA)
 |0,_,_,_,_=>none
 |n_+1,first,lo,i,data=>Zqu (Zpt n_) first lo i data
def Ztf (n:Nat) (s:(Int×Int×Int×(List ZnA))):Option (List ZnA):=Zpt n s.1 s.2.1 s.2.2.1 s.2.2.2
def Ztg (rec_:(Int×Int×Int×(List ZnA))→Option (List ZnA)) (s:(Int×Int×Int×(List ZnA))):Option (List ZnA):=Zqu (fun first lo i data=>rec_ (first,lo,i,data)) s.1 s.2.1 s.2.2.1 s.2.2.2
theorem Zw7:∀n s,Ztf (n+1) s=Ztg (Ztf n) s:=fun _ _=>rfl
def ZqZ (first:Int) (lo:Int) (hi:Int) (data:(List ZnA)):Option (List ZnA):=
 chk (inK .i64 (hi - 1)) <|
 (Zpt big first lo (hi - 1) data).bind fun x0=>ZqY x0
def Zqv (rec_:Int→Int→Int→Int→(List ZnA)→Option (Int×Int×Int×(List ZnA))) (first:Int) (lo:Int) (hi:Int) (i:Int) (data:(List ZnA)):Option (Int×Int×Int×(List ZnA)):=
 bif (decide (i≥0))then (
  (Zog data i hi first).bind fun t24=>
  chk (inK .i64 (i - 1)) <|
  rec_ first lo hi (i - 1) t24
 )else (
  some (first,lo,hi,data)
 )
def Zpu:Nat→Int→Int→Int→Int→(List ZnA)→Option (Int×Int×Int×(List ZnA))
 |0,_,_,_,_,_=>none
 |n_+1,first,lo,hi,i,data=>Zqv (Zpu n_) first lo hi i data
def Zth (n:Nat) (s:(Int×Int×Int×Int×(List ZnA))):Option (Int×Int×Int×(List ZnA)):=Zpu n s.1 s.2.1 s.2.2.1 s.2.2.2.1 s.2.2.2.2
def Zti (rec_:(Int×Int×Int×Int×(List ZnA))→Option (Int×Int×Int×(List ZnA))) (s:(Int×Int×Int×Int×(List ZnA))):Option (Int×Int×Int×(List ZnA)):=Zqv (fun first lo hi i data=>rec_ (first,lo,hi,i,data)) s.1 s.2.1 s.2.2.1 s.2.2.2.1 s.2.2.2.2
theorem Zw8:∀n s,Zth (n+1) s=Zti (Zth n) s:=fun _ _=>rfl
def Zp1 (data:(List ZnA)) (a:Int) (b:Int):Option (List ZnA):=
 chk (inK .i64 (b - a)) <|
 chk (inK .i64 ((b - a) - 1)) <|
 chk (decide ((2:Int)≠0)) <|
 chk (inK .i64 (Int.tdiv ((b - a) - 1) 2)) <|
 (Zpu big a (0:Int) (b - a) (Int.tdiv ((b - a) - 1) 2) data).bind fun(x0,x1,x2,x3)=>ZqZ x0 x1 x2 x3
def ZpH (data:(List ZnA)) (a:Int) (b:Int):Option (List ZnA):=
 (Zp1 data a b).bind fun r=>chk (decide (r.length=data.length)&&true) (some r)
def ZsZ (length:Int):Option Int:=
 (ZxX (IntKind.wrap .u64 length)).bind fun q=>
 chk (decide (0≤q)) <|
 some (shlK .u64 1 q)
def ZtC (r_:Int):Option (Int×Int):=
 chk (decide (0≤(13:Int))) <|
 chk (decide (0≤(7:Int))) <|
 chk (decide (0≤(17:Int))) <|
 some ((xorK .u64 (xorK .u64 (xorK .u64 r_ (shlK .u64 r_ 13)) (shrK .u64 (xorK .u64 r_ (shlK .u64 r_ 13)) 7)) (shlK .u64 (xorK .u64 (xorK .u64 r_ (shlK .u64 r_ 13)) (shrK .u64 (xorK .u64 r_ (shlK .u64 r_ 13)) 7)) 17)),(xorK .u64 (xorK .u64 (xorK .u64 r_ (shlK .u64 r_ 13)) (shrK .u64 (xorK .u64 r_ (shlK .u64 r_ 13)) 7)) (shlK .u64 (xorK .u64 (xorK .u64 r_ (shlK .u64 r_ 13)) (shrK .u64 (xorK .u64 r_ (shlK .u64 r_ 13)) 7)) 17)))
def Zp9 (data:(List ZnA)):Option (List ZnA):=
 some data
def Zok (rec_:Int→Int→Int→Int→(List ZnA)→Int→Option (List ZnA)) (a:Int) (length:Int) (modulus:Int) (idx_:Int) (other:Int) (data:(List ZnA)) (random:Int):Option (List ZnA):=
 chk (inK .i64 (a+other)) <|
 chk (inK .i64 (a+other)) <|
 chk (inR (a+other) (data.length:Int)) <|
 (data[((a+other)).toNat]?).bind fun data_e=>
 chk (inR idx_ (data.length:Int)) <|
 (data[(idx_).toNat]?).bind fun data_e_1=>
 chk (inR idx_ (data.length:Int)) <|
 chk (inR (a+other) ((data.set ((idx_).toNat) data_e).length:Int)) <|
 chk (inK .i64 (idx_+1)) <|
 rec_ a length modulus (idx_+1) ((data.set ((idx_).toNat) data_e).set (((a+other)).toNat) data_e_1) random
def ZpN (rec_:Int→Int→Int→Int→(List ZnA)→Int→Option (List ZnA)) (a:Int) (length:Int) (modulus:Int) (idx_:Int) (data:(List ZnA)) (random:Int):Option (List ZnA):=
 chk (decide ((4:Int)≠0)) <|
 chk (inK .i64 (Int.tdiv length 4)) <|
 chk (inK .i64 ((Int.tdiv length 4)*2)) <|
 chk (inK .i64 (a+((Int.tdiv length 4)*2))) <|
 chk (inK .i64 ((a+((Int.tdiv length 4)*2))+1)) <|
 bif (decide (idx_≤((a+((Int.tdiv length 4)*2))+1)))then (
  (ZtC random).bind fun(q,random_1)=>
  bif (decide ((IntKind.wrap .i64 (andK .u64 q (IntKind.wrap .u64 (modulus - 1))))≥length))then (
   chk (inK .i64 ((IntKind.wrap .i64 (andK .u64 q (IntKind.wrap .u64 (modulus - 1)))) - length)) <|
   Zok rec_ a length modulus idx_ ((IntKind.wrap .i64 (andK .u64 q (IntKind.wrap .u64 (modulus - 1)))) - length) data random_1
  )else (
   Zok rec_ a length modulus idx_ (IntKind.wrap .i64 (andK .u64 q (IntKind.wrap .u64 (modulus - 1)))) data random_1
  )
 )else (
  some data
 )
def Zoj:Nat→Int→Int→Int→Int→(List ZnA)→Int→Option (List ZnA)
 |0,_,_,_,_,_,_=>none
 |n_+1,a,length,modulus,idx_,data,random=>ZpN (Zoj n_) a length modulus idx_ data random
def Zr0 (n:Nat) (s:(Int×Int×Int×Int×(List ZnA)×Int)):Option (List ZnA):=Zoj n s.1 s.2.1 s.2.2.1 s.2.2.2.1 s.2.2.2.2.1 s.2.2.2.2.2
def Zr1 (rec_:(Int×Int×Int×Int×(List ZnA)×Int)→Option (List ZnA)) (s:(Int×Int×Int×Int×(List ZnA)×Int)):Option (List ZnA):=ZpN (fun a length modulus idx_ data random=>rec_ (a,length,modulus,idx_,data,random)) s.1 s.2.1 s.2.2.1 s.2.2.2.1 s.2.2.2.2.1 s.2.2.2.2.2
theorem ZvO:∀n s,Zr0 (n+1) s=Zr1 (Zr0 n) s:=fun _ _=>rfl
def Zpa (data:(List ZnA)) (a:Int) (b:Int):Option (List ZnA):=
 chk (inK .i64 (b - a)) <|
 bif (decide ((b - a)≥8))then (
  (ZsZ (b - a)).bind fun modulus=>
  chk (decide ((4:Int)≠0)) <|
  chk (inK .i64 (Int.tdiv (b - a) 4)) <|
  chk (inK .i64 ((Int.tdiv (b - a) 4)*2)) <|
  chk (inK .i64 (a+((Int.tdiv (b - a) 4)*2))) <|
  chk (inK .i64 ((a+((Int.tdiv (b - a) 4)*2)) - 1)) <|
  (Zoj big a (b - a) modulus ((a+((Int.tdiv (b - a) 4)*2)) - 1) data (IntKind.wrap .u64 (b - a))).bind fun x0=>Zp9 x0
 )else (
  some data
 )
def ZoR (data:(List ZnA)) (a:Int) (b:Int):Option (List ZnA):=
 (Zpa data a b).bind fun r=>chk (decide (r.length=data.length)&&true) (some r)
def Zsg (data:(List ZnA)) (a:Int) (b:Int) (swaps:Int):Option (Int×Int×(List ZnA)×Int):=
 chk (inR b (data.length:Int)) <|
 (data[(b).toNat]?).bind fun data_e=>
 chk (inR a (data.length:Int)) <|
 (data[(a).toNat]?).bind fun data_e_1=>
 (Zob data_e data_e_1).bind fun q=>
 bif (decide (q < 0))then (
  chk (inK .i64 (swaps+1)) <|
  some (b,a,data,(swaps+1))
 )else (
  some (a,b,data,swaps)
 )
def Zow (data:(List ZnA)) (a:Int) (b:Int) (swaps:Int):Option (Int×Int×(List ZnA)×Int):=
 (Zsg data a b swaps).bind fun r=>chk (decide (r.2.2.1.length=data.length)&&true) (some r)
def Zsh (data:(List ZnA)) (a:Int) (b:Int) (c:Int) (swaps:Int):Option (Int×(List ZnA)×Int):=
 (Zow data a b swaps).bind fun(a_1,b_1,t14,t17)=>
 (Zow t14 b_1 c t17).bind fun(b_2,c_1,t23,t26)=>
 (Zow t23 a_1 b_2 t26).bind fun(a_2,b_3,t32,t35)=>
 some (b_3,t32,t35)
def ZoX (data:(List ZnA)) (a:Int) (b:Int) (c:Int) (swaps:Int):Option (Int×(List ZnA)×Int):=
 (Zsh data a b c swaps).bind fun r=>chk (decide (r.2.1.length=data.length)&&true) (some r)
def Zqo (data:(List ZnA)) (a:Int) (swaps:Int):Option (Int×(List ZnA)×Int):=
 chk (inK .i64 (a - 1)) <|
 chk (inK .i64 (a+1)) <|
 (ZoX data (a - 1) a (a+1) swaps).bind fun(q,t9,t15)=>
 some (q,t9,t15)
def ZnW (data:(List ZnA)) (a:Int) (swaps:Int):Option (Int×(List ZnA)×Int):=
 (Zqo data a swaps).bind fun r=>chk (decide (r.2.1.length=data.length)&&true) (some r)
def Zor (j:Int) (data:(List ZnA)) (swaps:Int):Option (Int×Int×(List ZnA)):=
 bif (swaps == 0)then (
  some (j,1,data)
 )else (
  bif (swaps == 12)then (
   some (j,2,data)
  )else (
   some (j,0,data)
  )
 )
def Zos (i:Int) (j:Int) (k:Int) (data:(List ZnA)) (swaps:Int):Option (Int×Int×(List ZnA)):=
 (ZoX data i j k swaps).bind fun(j_1,t49,swaps_1)=>
 Zor j_1 t49 swaps_1
def Zpv (data:(List ZnA)) (a:Int) (b:Int):Option (Int×Int×(List ZnA)):=
 chk (inK .i64 (b - a)) <|
 chk (decide ((4:Int)≠0)) <|
 chk (inK .i64 (Int.tdiv (b - a) 4)) <|
 chk (inK .i64 ((Int.tdiv (b - a) 4)*1)) <|
 chk (inK .i64 (a+((Int.tdiv (b - a) 4)*1))) <|
 chk (decide ((4:Int)≠0)) <|
 chk (inK .i64 (Int.tdiv (b - a) 4)) <|
 chk (inK .i64 ((Int.tdiv (b - a) 4)*2)) <|
 chk (inK .i64 (a+((Int.tdiv (b - a) 4)*2))) <|
 chk (decide ((4:Int)≠0)) <|
 chk (inK .i64 (Int.tdiv (b - a) 4)) <|
 chk (inK .i64 ((Int.tdiv (b - a) 4)*3)) <|
 chk (inK .i64 (a+((Int.tdiv (b - a) 4)*3))) <|
 bif (decide ((b - a)≥8))then (
  bif (decide ((b - a)≥50))then (
   (ZnW data (a+((Int.tdiv (b - a) 4)*1)) 0).bind fun(i,t37,swaps)=>
   (ZnW t37 (a+((Int.tdiv (b - a) 4)*2)) swaps).bind fun(j,t41,swaps_1)=>
   (ZnW t41 (a+((Int.tdiv (b - a) 4)*3)) swaps_1).bind fun(k,t45,swaps_2)=>
   Zos i j k t45 swaps_2
  )else (
   Zos (a+((Int.tdiv (b - a) 4)*1)) (a+((Int.tdiv (b - a) 4)*2)) (a+((Int.tdiv (b - a) 4)*3)) data (0:Int)
  )
 )else (
  Zor (a+((Int.tdiv (b - a) 4)*2)) data (0:Int)
 )
def Zo9 (data:(List ZnA)) (a:Int) (b:Int):Option (Int×Int×(List ZnA)):=
 (Zpv data a b).bind fun r=>chk (decide (r.2.2.length=data.length)&&true) (some r)
def Zqb (data:(List ZnA)):Option (List ZnA):=
 some data
def ZpS (rec_:Int→Int→(List ZnA)→Option (List ZnA)) (i:Int) (j:Int) (data:(List ZnA)):Option (List ZnA):=
 bif (decide (i < j))then (
  chk (inR j (data.length:Int)) <|
  (data[(j).toNat]?).bind fun data_e=>
  chk (inR i (data.length:Int)) <|
  (data[(i).toNat]?).bind fun data_e_1=>
  chk (inR i (data.length:Int)) <|
  chk (inR j ((data.set ((i).toNat) data_e).length:Int)) <|
  chk (inK .i64 (i+1)) <|
  chk (inK .i64 (j - 1)) <|
  rec_ (i+1) (j - 1) ((data.set ((i).toNat) data_e).set ((j).toNat) data_e_1)
 )else (
  some data
 )
def ZoQ:Nat→Int→Int→(List ZnA)→Option (List ZnA)
 |0,_,_,_=>none
 |n_+1,i,j,data=>ZpS (ZoQ n_) i j data
def Zse (n:Nat) (s:(Int×Int×(List ZnA))):Option (List ZnA):=ZoQ n s.1 s.2.1 s.2.2
def Zsf (rec_:(Int×Int×(List ZnA))→Option (List ZnA)) (s:(Int×Int×(List ZnA))):Option (List ZnA):=ZpS (fun i j data=>rec_ (i,j,data)) s.1 s.2.1 s.2.2
theorem Zwe:∀n s,Zse (n+1) s=Zsf (Zse n) s:=fun _ _=>rfl
def Zph (data:(List ZnA)) (a:Int) (b:Int):Option (List ZnA):=
 chk (inK .i64 (b - 1)) <|
 (ZoQ big a (b - 1) data).bind fun x0=>Zqb x0
def ZoZ (data:(List ZnA)) (a:Int) (b:Int):Option (List ZnA):=
 (Zph data a b).bind fun r=>chk (decide (r.length=data.length)&&true) (some r)
def Zo4 (data:(List ZnA)):Option (Bool×(List ZnA)):=
 some (false,data)
def Zo5 (rec_:Int→Int→Int→Int→(List ZnA)→Option (Out (List ZnA) (Bool×(List ZnA)))) (a:Int) (b:Int) (i:Int) (j:Int) (data:(List ZnA)):Option (Out (List ZnA) (Bool×(List ZnA))):=
 chk (inK .i64 (j+1)) <|
 rec_ a b i (j+1) data
def ZoT (rec_:Int→Int→Int→Int→Int→(List ZnA)→Option (Int×Int×Int×Int×(List ZnA))) (a:Int) (b:Int) (i:Int) (j:Int) (j_1:Int) (data:(List ZnA)):Option (Int×Int×Int×Int×(List ZnA)):=
 bif (decide (j_1 < b))then (
  chk (inR j_1 (data.length:Int)) <|
  (data[(j_1).toNat]?).bind fun data_e=>
  chk (inK .i64 (j_1 - 1)) <|
  chk (inR (j_1 - 1) (data.length:Int)) <|
  (data[((j_1 - 1)).toNat]?).bind fun data_e_1=>
  (Zob data_e data_e_1).bind fun q=>
  bif (!(decide (q < 0)))then (
   some (a,b,i,j,data)
  )else (
   chk (inK .i64 (j_1 - 1)) <|
   chk (inK .i64 (j_1 - 1)) <|
   chk (inR (j_1 - 1) (data.length:Int)) <|
   (data[((j_1 - 1)).toNat]?).bind fun data_e_2=>
   chk (inR j_1 (data.length:Int)) <|
   (data[(j_1).toNat]?).bind fun data_e_3=>
   chk (inR j_1 (data.length:Int)) <|
   chk (inR (j_1 - 1) ((data.set ((j_1).toNat) data_e_2).length:Int)) <|
   chk (inK .i64 (j_1+1)) <|
   rec_ a b i j (j_1+1) ((data.set ((j_1).toNat) data_e_2).set (((j_1 - 1)).toNat) data_e_3)
  )
 )else (
  some (a,b,i,j,data)
 )
def ZnT:Nat→Int→Int→Int→Int→Int→(List ZnA)→Option (Int×Int×Int×Int×(List ZnA))
 |0,_,_,_,_,_,_=>none
 |n_+1,a,b,i,j,j_1,data=>ZoT (ZnT n_) a b i j j_1 data
def ZqA (n:Nat) (s:(Int×Int×Int×Int×Int×(List ZnA))):Option (Int×Int×Int×Int×(List ZnA)):=ZnT n s.1 s.2.1 s.2.2.1 s.2.2.2.1 s.2.2.2.2.1 s.2.2.2.2.2
def ZqB (rec_:(Int×Int×Int×Int×Int×(List ZnA))→Option (Int×Int×Int×Int×(List ZnA))) (s:(Int×Int×Int×Int×Int×(List ZnA))):Option (Int×Int×Int×Int×(List ZnA)):=ZoT (fun a b i j j_1 data=>rec_ (a,b,i,j,j_1,data)) s.1 s.2.1 s.2.2.1 s.2.2.2.1 s.2.2.2.2.1 s.2.2.2.2.2
theorem Zuu:∀n s,ZqA (n+1) s=ZqB (ZqA n) s:=fun _ _=>rfl
def ZnV (rec_:Int→Int→Int→Int→(List ZnA)→Option (Out (List ZnA) (Bool×(List ZnA)))) (a:Int) (b:Int) (i:Int) (j:Int) (t104:Bool) (data:(List ZnA)):Option (Out (List ZnA) (Bool×(List ZnA))):=
 bif t104 then (
  chk (inK .i64 (i+1)) <|
  (ZnT big a b i j (i+1) data).bind fun(x0,x1,x2,x3,x4)=>Zo5 rec_ x0 x1 x2 x3 x4
 )else (
  chk (inK .i64 (j+1)) <|
  rec_ a b i (j+1) data
 )
def Zo6 (rec_:Int→Int→Int→Int→(List ZnA)→Option (Out (List ZnA) (Bool×(List ZnA)))) (a:Int) (b:Int) (i:Int) (j:Int) (data:(List ZnA)):Option (Out (List ZnA) (Bool×(List ZnA))):=
 chk (inK .i64 (b - i)) <|
 ZnV rec_ a b i j (decide ((b - i)≥2)) data
def ZoU (rec_:Int→Int→Int→Int→Int→(List ZnA)→Option (Int×Int×Int×Int×(List ZnA))) (a:Int) (b:Int) (i:Int) (j:Int) (j_1:Int) (data:(List ZnA)):Option (Int×Int×Int×Int×(List ZnA)):=
 bif (decide (j_1≥1))then (
  chk (inR j_1 (data.length:Int)) <|
  (data[(j_1).toNat]?).bind fun data_e=>
  chk (inK .i64 (j_1 - 1)) <|
  chk (inR (j_1 - 1) (data.length:Int)) <|
  (data[((j_1 - 1)).toNat]?).bind fun data_e_1=>
  (Zob data_e data_e_1).bind fun q=>
  bif (!(decide (q < 0)))then (
   some (a,b,i,j,data)
  )else (
   chk (inK .i64 (j_1 - 1)) <|
   chk (inK .i64 (j_1 - 1)) <|
   chk (inR (j_1 - 1) (data.length:Int)) <|
   (data[((j_1 - 1)).toNat]?).bind fun data_e_2=>
   chk (inR j_1 (data.length:Int)) <|
   (data[(j_1).toNat]?).bind fun data_e_3=>
   chk (inR j_1 (data.length:Int)) <|
   chk (inR (j_1 - 1) ((data.set ((j_1).toNat) data_e_2).length:Int)) <|
   chk (inK .i64 (j_1 - 1)) <|
   rec_ a b i j (j_1 - 1) ((data.set ((j_1).toNat) data_e_2).set (((j_1 - 1)).toNat) data_e_3)
  )
 )else (
  some (a,b,i,j,data)
 )
def ZnU:Nat→Int→Int→Int→Int→Int→(List ZnA)→Option (Int×Int×Int×Int×(List ZnA))
 |0,_,_,_,_,_,_=>none
 |n_+1,a,b,i,j,j_1,data=>ZoU (ZnU n_) a b i j j_1 data
def ZqC (n:Nat) (s:(Int×Int×Int×Int×Int×(List ZnA))):Option (Int×Int×Int×Int×(List ZnA)):=ZnU n s.1 s.2.1 s.2.2.1 s.2.2.2.1 s.2.2.2.2.1 s.2.2.2.2.2
def ZqD (rec_:(Int×Int×Int×Int×Int×(List ZnA))→Option (Int×Int×Int×Int×(List ZnA))) (s:(Int×Int×Int×Int×Int×(List ZnA))):Option (Int×Int×Int×Int×(List ZnA)):=ZoU (fun a b i j j_1 data=>rec_ (a,b,i,j,j_1,data)) s.1 s.2.1 s.2.2.1 s.2.2.2.1 s.2.2.2.2.1 s.2.2.2.2.2
theorem Zuv:∀n s,ZqC (n+1) s=ZqD (ZqC n) s:=fun _ _=>rfl
def Zo7 (rec_:Int→Int→Int→Int→(List ZnA)→Option (Out (List ZnA) (Bool×(List ZnA)))) (a:Int) (b:Int) (i:Int) (j:Int) (data:(List ZnA)):Option (Out (List ZnA) (Bool×(List ZnA))):=
 bif (i == b)then (
  some (.ret (true,data))
 )else (
  chk (inK .i64 (b - a)) <|
  bif (decide ((b - a) < 50))then (
   some (.ret (false,data))
  )else (
   chk (inK .i64 (i - 1)) <|
   chk (inK .i64 (i - 1)) <|
   chk (inR (i - 1) (data.length:Int)) <|
   (data[((i - 1)).toNat]?).bind fun data_e=>
   chk (inR i (data.length:Int)) <|
   (data[(i).toNat]?).bind fun data_e_1=>
   chk (inR i (data.length:Int)) <|
   chk (inR (i - 1) ((data.set ((i).toNat) data_e).length:Int)) <|
   chk (inK .i64 (i - a)) <|
   bif (decide ((i - a)≥2))then (
    chk (inK .i64 (i - 1)) <|
    (ZnU big a b i j (i - 1) ((data.set ((i).toNat) data_e).set (((i - 1)).toNat) data_e_1)).bind fun(x0,x1,x2,x3,x4)=>Zo6 rec_ x0 x1 x2 x3 x4
   )else (
    chk (inK .i64 (b - i)) <|
    ZnV rec_ a b i j (decide ((b - i)≥2)) ((data.set ((i).toNat) data_e).set (((i - 1)).toNat) data_e_1)
   )
  )
 )
def Zon (rec_:Int→Int→Int→Int→(List ZnA)→Option (Int×Int×Int×Int×(List ZnA))) (a:Int) (b:Int) (i:Int) (j:Int) (t36:Bool) (data:(List ZnA)):Option (Int×Int×Int×Int×(List ZnA)):=
 bif t36 then (
  chk (inK .i64 (i+1)) <|
  rec_ a b (i+1) j data
 )else (
  some (a,b,i,j,data)
 )
def ZoV (rec_:Int→Int→Int→Int→(List ZnA)→Option (Int×Int×Int×Int×(List ZnA))) (a:Int) (b:Int) (i:Int) (j:Int) (data:(List ZnA)):Option (Int×Int×Int×Int×(List ZnA)):=
 bif (decide (i < b))then (
  chk (inR i (data.length:Int)) <|
  (data[(i).toNat]?).bind fun data_e=>
  chk (inK .i64 (i - 1)) <|
  chk (inR (i - 1) (data.length:Int)) <|
  (data[((i - 1)).toNat]?).bind fun data_e_1=>
  (Zob data_e data_e_1).bind fun q=>
  Zon rec_ a b i j (!(decide (q < 0))) data
 )else (
  Zon rec_ a b i j false data
 )
def ZnP:Nat→Int→Int→Int→Int→(List ZnA)→Option (Int×Int×Int×Int×(List ZnA))
 |0,_,_,_,_,_=>none
 |n_+1,a,b,i,j,data=>ZoV (ZnP n_) a b i j data
def ZqE (n:Nat) (s:(Int×Int×Int×Int×(List ZnA))):Option (Int×Int×Int×Int×(List ZnA)):=ZnP n s.1 s.2.1 s.2.2.1 s.2.2.2.1 s.2.2.2.2
def ZqF (rec_:(Int×Int×Int×Int×(List ZnA))→Option (Int×Int×Int×Int×(List ZnA))) (s:(Int×Int×Int×Int×(List ZnA))):Option (Int×Int×Int×Int×(List ZnA)):=ZoV (fun a b i j data=>rec_ (a,b,i,j,data)) s.1 s.2.1 s.2.2.1 s.2.2.2.1 s.2.2.2.2
theorem Zuw:∀n s,ZqE (n+1) s=ZqF (ZqE n) s:=fun _ _=>rfl
def ZoW (rec_:Int→Int→Int→Int→(List ZnA)→Option (Out (List ZnA) (Bool×(List ZnA)))) (a:Int) (b:Int) (i:Int) (j:Int) (data:(List ZnA)):Option (Out (List ZnA) (Bool×(List ZnA))):=
 bif (decide (j < 5))then (
  (ZnP big a b i j data).bind fun(x0,x1,x2,x3,x4)=>Zo7 rec_ x0 x1 x2 x3 x4
 )else (
  some (.brk data)
 )
def ZnK:Nat→Int→Int→Int→Int→(List ZnA)→Option (Out (List ZnA) (Bool×(List ZnA)))
 |0,_,_,_,_,_=>none
 |n_+1,a,b,i,j,data=>ZoW (ZnK n_) a b i j data
def ZqG (n:Nat) (s:(Int×Int×Int×Int×(List ZnA))):Option (Out (List ZnA) (Bool×(List ZnA))):=ZnK n s.1 s.2.1 s.2.2.1 s.2.2.2.1 s.2.2.2.2
def ZqH (rec_:(Int×Int×Int×Int×(List ZnA))→Option (Out (List ZnA) (Bool×(List ZnA)))) (s:(Int×Int×Int×Int×(List ZnA))):Option (Out (List ZnA) (Bool×(List ZnA))):=ZoW (fun a b i j data=>rec_ (a,b,i,j,data)) s.1 s.2.1 s.2.2.1 s.2.2.2.1 s.2.2.2.2
theorem Zux:∀n s,ZqG (n+1) s=ZqH (ZqG n) s:=fun _ _=>rfl
def Zoy (data:(List ZnA)) (a:Int) (b:Int):Option (Bool×(List ZnA)):=
 chk (inK .i64 (a+1)) <|
 (ZnK big a b (a+1) (0:Int) data).bind fun
  | .ret q_=>some q_
  | .brk x0=>Zo4 x0
def Zoq (data:(List ZnA)) (a:Int) (b:Int):Option (Bool×(List ZnA)):=
 (Zoy data a b).bind fun r=>chk (decide (r.2.length=data.length)&&true) (some r)
def ZpT (i:Int) (data:(List ZnA)):Option (Int×(List ZnA)):=
 some (i,data)
def ZpU (rec_:Int→Int→Int→(List ZnA)→Option (Int×(List ZnA))) (a:Int) (i:Int) (j:Int) (data:(List ZnA)):Option (Int×(List ZnA)):=
 bif (decide (i > j))then (
  some (i,data)
 )else (
  chk (inR j (data.length:Int)) <|
  (data[(j).toNat]?).bind fun data_e=>
  chk (inR i (data.length:Int)) <|
  (data[(i).toNat]?).bind fun data_e_1=>
  chk (inR i (data.length:Int)) <|
  chk (inR j ((data.set ((i).toNat) data_e).length:Int)) <|
  chk (inK .i64 (i+1)) <|
  chk (inK .i64 (j - 1)) <|
  rec_ a (i+1) (j - 1) ((data.set ((i).toNat) data_e).set ((j).toNat) data_e_1)
 )
def ZoI (rec_:Int→Int→Int→(List ZnA)→Option (Int×Int×Int×(List ZnA))) (a:Int) (i:Int) (j:Int) (t65:Bool) (data:(List ZnA)):Option (Int×Int×Int×(List ZnA)):=
 bif t65 then (
  chk (inK .i64 (j - 1)) <|
  rec_ a i (j - 1) data
 )else (
  some (a,i,j,data)
 )
def ZpE (rec_:Int→Int→Int→(List ZnA)→Option (Int×Int×Int×(List ZnA))) (a:Int) (i:Int) (j:Int) (data:(List ZnA)):Option (Int×Int×Int×(List ZnA)):=
 bif (decide (i≤j))then (
  chk (inR a (data.length:Int)) <|
  (data[(a).toNat]?).bind fun data_e=>
  chk (inR j (data.length:Int)) <|
  (data[(j).toNat]?).bind fun data_e_1=>
  (Zob data_e data_e_1).bind fun q=>
  ZoI rec_ a i j (decide (q < 0)) data
 )else (
  ZoI rec_ a i j false data
 )
def ZnR:Nat→Int→Int→Int→(List ZnA)→Option (Int×Int×Int×(List ZnA))
 |0,_,_,_,_=>none
 |n_+1,a,i,j,data=>ZpE (ZnR n_) a i j data
def Zrz (n:Nat) (s:(Int×Int×Int×(List ZnA))):Option (Int×Int×Int×(List ZnA)):=ZnR n s.1 s.2.1 s.2.2.1 s.2.2.2
def ZrA (rec_:(Int×Int×Int×(List ZnA))→Option (Int×Int×Int×(List ZnA))) (s:(Int×Int×Int×(List ZnA))):Option (Int×Int×Int×(List ZnA)):=ZpE (fun a i j data=>rec_ (a,i,j,data)) s.1 s.2.1 s.2.2.1 s.2.2.2
theorem ZvD:∀n s,Zrz (n+1) s=ZrA (Zrz n) s:=fun _ _=>rfl
def ZpV (rec_:Int→Int→Int→(List ZnA)→Option (Int×(List ZnA))) (a:Int) (i:Int) (j:Int) (data:(List ZnA)):Option (Int×(List ZnA)):=
 (ZnR big a i j data).bind fun(x0,x1,x2,x3)=>ZpU rec_ x0 x1 x2 x3
def ZoJ (rec_:Int→Int→Int→(List ZnA)→Option (Int×Int×Int×(List ZnA))) (a:Int) (i:Int) (j:Int) (t47:Bool) (data:(List ZnA)):Option (Int×Int×Int×(List ZnA)):=
 bif t47 then (
  chk (inK .i64 (i+1)) <|
  rec_ a (i+1) j data
 )else (
  some (a,i,j,data)
 )
def ZpF (rec_:Int→Int→Int→(List ZnA)→Option (Int×Int×Int×(List ZnA))) (a:Int) (i:Int) (j:Int) (data:(List ZnA)):Option (Int×Int×Int×(List ZnA)):=
 bif (decide (i≤j))then (
  chk (inR a (data.length:Int)) <|
  (data[(a).toNat]?).bind fun data_e=>
  chk (inR i (data.length:Int)) <|
  (data[(i).toNat]?).bind fun data_e_1=>
  (Zob data_e data_e_1).bind fun q=>
  ZoJ rec_ a i j (!(decide (q < 0))) data
 )else (
  ZoJ rec_ a i j false data
 )
def ZnS:Nat→Int→Int→Int→(List ZnA)→Option (Int×Int×Int×(List ZnA))
 |0,_,_,_,_=>none
 |n_+1,a,i,j,data=>ZpF (ZnS n_) a i j data
def ZrB (n:Nat) (s:(Int×Int×Int×(List ZnA))):Option (Int×Int×Int×(List ZnA)):=ZnS n s.1 s.2.1 s.2.2.1 s.2.2.2
def ZrC (rec_:(Int×Int×Int×(List ZnA))→Option (Int×Int×Int×(List ZnA))) (s:(Int×Int×Int×(List ZnA))):Option (Int×Int×Int×(List ZnA)):=ZpF (fun a i j data=>rec_ (a,i,j,data)) s.1 s.2.1 s.2.2.1 s.2.2.2
theorem ZvE:∀n s,ZrB (n+1) s=ZrC (ZrB n) s:=fun _ _=>rfl
def ZpG (rec_:Int→Int→Int→(List ZnA)→Option (Int×(List ZnA))) (a:Int) (i:Int) (j:Int) (data:(List ZnA)):Option (Int×(List ZnA)):=
 (ZnS big a i j data).bind fun(x0,x1,x2,x3)=>ZpV rec_ x0 x1 x2 x3
def ZnO:Nat→Int→Int→Int→(List ZnA)→Option (Int×(List ZnA))
 |0,_,_,_,_=>none
 |n_+1,a,i,j,data=>ZpG (ZnO n_) a i j data
def ZrD (n:Nat) (s:(Int×Int×Int×(List ZnA))):Option (Int×(List ZnA)):=ZnO n s.1 s.2.1 s.2.2.1 s.2.2.2
def ZrE (rec_:(Int×Int×Int×(List ZnA))→Option (Int×(List ZnA))) (s:(Int×Int×Int×(List ZnA))):Option (Int×(List ZnA)):=ZpG (fun a i j data=>rec_ (a,i,j,data)) s.1 s.2.1 s.2.2.1 s.2.2.2
theorem ZvF:∀n s,ZrD (n+1) s=ZrE (ZrD n) s:=fun _ _=>rfl
def Zo0 (data:(List ZnA)) (a:Int) (b:Int) (pivot:Int):Option (Int×(List ZnA)):=
 chk (inR pivot (data.length:Int)) <|
 (data[(pivot).toNat]?).bind fun data_e=>
 chk (inR a (data.length:Int)) <|
 (data[(a).toNat]?).bind fun data_e_1=>
 chk (inR a (data.length:Int)) <|
 chk (inR pivot ((data.set ((a).toNat) data_e).length:Int)) <|
 chk (inK .i64 (a+1)) <|
 chk (inK .i64 (b - 1)) <|
 (ZnO big a (a+1) (b - 1) ((data.set ((a).toNat) data_e).set ((pivot).toNat) data_e_1)).bind fun(x0,x1)=>ZpT x0 x1
def ZoL (data:(List ZnA)) (a:Int) (b:Int) (pivot:Int):Option (Int×(List ZnA)):=
 (Zo0 data a b pivot).bind fun r=>chk (decide (r.2.length=data.length)&&true) (some r)
def ZqJ (a:Int) (j:Int) (data:(List ZnA)):Option (Int×Bool×(List ZnA)):=
 chk (inR a (data.length:Int)) <|
 (data[(a).toNat]?).bind fun data_e=>
 chk (inR j (data.length:Int)) <|
 (data[(j).toNat]?).bind fun data_e_1=>
 chk (inR j (data.length:Int)) <|
 chk (inR a ((data.set ((j).toNat) data_e).length:Int)) <|
 some (j,false,((data.set ((j).toNat) data_e).set ((a).toNat) data_e_1))
def ZqK (rec_:Int→Int→Int→(List ZnA)→Option (Int×Int×(List ZnA))) (a:Int) (i:Int) (j:Int) (data:(List ZnA)):Option (Int×Int×(List ZnA)):=
 bif (decide (i > j))then (
  some (a,j,data)
 )else (
  chk (inR j (data.length:Int)) <|
  (data[(j).toNat]?).bind fun data_e=>
  chk (inR i (data.length:Int)) <|
  (data[(i).toNat]?).bind fun data_e_1=>
  chk (inR i (data.length:Int)) <|
  chk (inR j ((data.set ((i).toNat) data_e).length:Int)) <|
  chk (inK .i64 (i+1)) <|
  chk (inK .i64 (j - 1)) <|
  rec_ a (i+1) (j - 1) ((data.set ((i).toNat) data_e).set ((j).toNat) data_e_1)
 )
def Zpi (rec_:Int→Int→Int→(List ZnA)→Option (Int×Int×Int×(List ZnA))) (a:Int) (i:Int) (j:Int) (t139:Bool) (data:(List ZnA)):Option (Int×Int×Int×(List ZnA)):=
 bif t139 then (
  chk (inK .i64 (j - 1)) <|
  rec_ a i (j - 1) data
 )else (
  some (a,i,j,data)
 )
def Zqj (rec_:Int→Int→Int→(List ZnA)→Option (Int×Int×Int×(List ZnA))) (a:Int) (i:Int) (j:Int) (data:(List ZnA)):Option (Int×Int×Int×(List ZnA)):=
 bif (decide (i≤j))then (
  chk (inR j (data.length:Int)) <|
  (data[(j).toNat]?).bind fun data_e=>
  chk (inR a (data.length:Int)) <|
  (data[(a).toNat]?).bind fun data_e_1=>
  (Zob data_e data_e_1).bind fun q=>
  Zpi rec_ a i j (!(decide (q < 0))) data
 )else (
  Zpi rec_ a i j false data
 )
def Zn5:Nat→Int→Int→Int→(List ZnA)→Option (Int×Int×Int×(List ZnA))
 |0,_,_,_,_=>none
 |n_+1,a,i,j,data=>Zqj (Zn5 n_) a i j data
def ZsP (n:Nat) (s:(Int×Int×Int×(List ZnA))):Option (Int×Int×Int×(List ZnA)):=Zn5 n s.1 s.2.1 s.2.2.1 s.2.2.2
def ZsQ (rec_:(Int×Int×Int×(List ZnA))→Option (Int×Int×Int×(List ZnA))) (s:(Int×Int×Int×(List ZnA))):Option (Int×Int×Int×(List ZnA)):=Zqj (fun a i j data=>rec_ (a,i,j,data)) s.1 s.2.1 s.2.2.1 s.2.2.2
theorem ZwV:∀n s,ZsP (n+1) s=ZsQ (ZsP n) s:=fun _ _=>rfl
def ZqL (rec_:Int→Int→Int→(List ZnA)→Option (Int×Int×(List ZnA))) (a:Int) (i:Int) (j:Int) (data:(List ZnA)):Option (Int×Int×(List ZnA)):=
 (Zn5 big a i j data).bind fun(x0,x1,x2,x3)=>ZqK rec_ x0 x1 x2 x3
def Zpj (rec_:Int→Int→Int→(List ZnA)→Option (Int×Int×Int×(List ZnA))) (a:Int) (i:Int) (j:Int) (t120:Bool) (data:(List ZnA)):Option (Int×Int×Int×(List ZnA)):=
 bif t120 then (
  chk (inK .i64 (i+1)) <|
  rec_ a (i+1) j data
 )else (
  some (a,i,j,data)
 )
def Zqk (rec_:Int→Int→Int→(List ZnA)→Option (Int×Int×Int×(List ZnA))) (a:Int) (i:Int) (j:Int) (data:(List ZnA)):Option (Int×Int×Int×(List ZnA)):=
 bif (decide (i≤j))then (
  chk (inR i (data.length:Int)) <|
  (data[(i).toNat]?).bind fun data_e=>
  chk (inR a (data.length:Int)) <|
  (data[(a).toNat]?).bind fun data_e_1=>
  (Zob data_e data_e_1).bind fun q=>
  Zpj rec_ a i j (decide (q < 0)) data
 )else (
  Zpj rec_ a i j false data
 )
def Zn6:Nat→Int→Int→Int→(List ZnA)→Option (Int×Int×Int×(List ZnA))
 |0,_,_,_,_=>none
 |n_+1,a,i,j,data=>Zqk (Zn6 n_) a i j data
def ZsR (n:Nat) (s:(Int×Int×Int×(List ZnA))):Option (Int×Int×Int×(List ZnA)):=Zn6 n s.1 s.2.1 s.2.2.1 s.2.2.2
def ZsS (rec_:(Int×Int×Int×(List ZnA))→Option (Int×Int×Int×(List ZnA))) (s:(Int×Int×Int×(List ZnA))):Option (Int×Int×Int×(List ZnA)):=Zqk (fun a i j data=>rec_ (a,i,j,data)) s.1 s.2.1 s.2.2.1 s.2.2.2
theorem ZwW:∀n s,ZsR (n+1) s=ZsS (ZsR n) s:=fun _ _=>rfl
def Zql (rec_:Int→Int→Int→(List ZnA)→Option (Int×Int×(List ZnA))) (a:Int) (i:Int) (j:Int) (data:(List ZnA)):Option (Int×Int×(List ZnA)):=
 (Zn6 big a i j data).bind fun(x0,x1,x2,x3)=>ZqL rec_ x0 x1 x2 x3
def ZnQ:Nat→Int→Int→Int→(List ZnA)→Option (Int×Int×(List ZnA))
 |0,_,_,_,_=>none
 |n_+1,a,i,j,data=>Zql (ZnQ n_) a i j data
def ZsT (n:Nat) (s:(Int×Int×Int×(List ZnA))):Option (Int×Int×(List ZnA)):=ZnQ n s.1 s.2.1 s.2.2.1 s.2.2.2
def ZsU (rec_:(Int×Int×Int×(List ZnA))→Option (Int×Int×(List ZnA))) (s:(Int×Int×Int×(List ZnA))):Option (Int×Int×(List ZnA)):=Zql (fun a i j data=>rec_ (a,i,j,data)) s.1 s.2.1 s.2.2.1 s.2.2.2
theorem ZwX:∀n s,ZsT (n+1) s=ZsU (ZsT n) s:=fun _ _=>rfl
def ZqM (a:Int) (i:Int) (j:Int) (data:(List ZnA)):Option (Int×Bool×(List ZnA)):=
 bif (decide (i > j))then (
  chk (inR a (data.length:Int)) <|
  (data[(a).toNat]?).bind fun data_e=>
  chk (inR j (data.length:Int)) <|
  (data[(j).toNat]?).bind fun data_e_1=>
  chk (inR j (data.length:Int)) <|
  chk (inR a ((data.set ((j).toNat) data_e).length:Int)) <|
  some (j,true,((data.set ((j).toNat) data_e).set ((a).toNat) data_e_1))
 )else (
  chk (inR j (data.length:Int)) <|
  (data[(j).toNat]?).bind fun data_e_2=>
  chk (inR i (data.length:Int)) <|
  (data[(i).toNat]?).bind fun data_e_3=>
  chk (inR i (data.length:Int)) <|
  chk (inR j ((data.set ((i).toNat) data_e_2).length:Int)) <|
  chk (inK .i64 (i+1)) <|
  chk (inK .i64 (j - 1)) <|
  (ZnQ big a (i+1) (j - 1) ((data.set ((i).toNat) data_e_2).set ((j).toNat) data_e_3)).bind fun(x0,x1,x2)=>ZqJ x0 x1 x2
 )
def Zpk (rec_:Int→Int→Int→(List ZnA)→Option (Int×Int×Int×(List ZnA))) (a:Int) (i:Int) (j:Int) (t66:Bool) (data:(List ZnA)):Option (Int×Int×Int×(List ZnA)):=
 bif t66 then (
  chk (inK .i64 (j - 1)) <|
  rec_ a i (j - 1) data
 )else (
  some (a,i,j,data)
 )
def Zqm (rec_:Int→Int→Int→(List ZnA)→Option (Int×Int×Int×(List ZnA))) (a:Int) (i:Int) (j:Int) (data:(List ZnA)):Option (Int×Int×Int×(List ZnA)):=
 bif (decide (i≤j))then (
  chk (inR j (data.length:Int)) <|
  (data[(j).toNat]?).bind fun data_e=>
  chk (inR a (data.length:Int)) <|
  (data[(a).toNat]?).bind fun data_e_1=>
  (Zob data_e data_e_1).bind fun q=>
  Zpk rec_ a i j (!(decide (q < 0))) data
 )else (
  Zpk rec_ a i j false data
 )
def Zn7:Nat→Int→Int→Int→(List ZnA)→Option (Int×Int×Int×(List ZnA))
 |0,_,_,_,_=>none
 |n_+1,a,i,j,data=>Zqm (Zn7 n_) a i j data
def ZsV (n:Nat) (s:(Int×Int×Int×(List ZnA))):Option (Int×Int×Int×(List ZnA)):=Zn7 n s.1 s.2.1 s.2.2.1 s.2.2.2
def ZsW (rec_:(Int×Int×Int×(List ZnA))→Option (Int×Int×Int×(List ZnA))) (s:(Int×Int×Int×(List ZnA))):Option (Int×Int×Int×(List ZnA)):=Zqm (fun a i j data=>rec_ (a,i,j,data)) s.1 s.2.1 s.2.2.1 s.2.2.2
theorem ZwY:∀n s,ZsV (n+1) s=ZsW (ZsV n) s:=fun _ _=>rfl
def ZqN (a:Int) (i:Int) (j:Int) (data:(List ZnA)):Option (Int×Bool×(List ZnA)):=
 (Zn7 big a i j data).bind fun(x0,x1,x2,x3)=>ZqM x0 x1 x2 x3
def Zpl (rec_:Int→Int→Int→(List ZnA)→Option (Int×Int×Int×(List ZnA))) (a:Int) (i:Int) (j:Int) (t47:Bool) (data:(List ZnA)):Option (Int×Int×Int×(List ZnA)):=
 bif t47 then (
  chk (inK .i64 (i+1)) <|
  rec_ a (i+1) j data
 )else (
  some (a,i,j,data)
 )
def Zqn (rec_:Int→Int→Int→(List ZnA)→Option (Int×Int×Int×(List ZnA))) (a:Int) (i:Int) (j:Int) (data:(List ZnA)):Option (Int×Int×Int×(List ZnA)):=
 bif (decide (i≤j))then (
  chk (inR i (data.length:Int)) <|
  (data[(i).toNat]?).bind fun data_e=>
  chk (inR a (data.length:Int)) <|
  (data[(a).toNat]?).bind fun data_e_1=>
  (Zob data_e data_e_1).bind fun q=>
  Zpl rec_ a i j (decide (q < 0)) data
 )else (
  Zpl rec_ a i j false data
 )
def Zn8:Nat→Int→Int→Int→(List ZnA)→Option (Int×Int×Int×(List ZnA))
 |0,_,_,_,_=>none
 |n_+1,a,i,j,data=>Zqn (Zn8 n_) a i j data
def ZsX (n:Nat) (s:(Int×Int×Int×(List ZnA))):Option (Int×Int×Int×(List ZnA)):=Zn8 n s.1 s.2.1 s.2.2.1 s.2.2.2
def ZsY (rec_:(Int×Int×Int×(List ZnA))→Option (Int×Int×Int×(List ZnA))) (s:(Int×Int×Int×(List ZnA))):Option (Int×Int×Int×(List ZnA)):=Zqn (fun a i j data=>rec_ (a,i,j,data)) s.1 s.2.1 s.2.2.1 s.2.2.2
theorem ZwZ:∀n s,ZsX (n+1) s=ZsY (ZsX n) s:=fun _ _=>rfl
def ZpQ (data:(List ZnA)) (a:Int) (b:Int) (pivot:Int):Option (Int×Bool×(List ZnA)):=
 chk (inR pivot (data.length:Int)) <|
 (data[(pivot).toNat]?).bind fun data_e=>
 chk (inR a (data.length:Int)) <|
 (data[(a).toNat]?).bind fun data_e_1=>
 chk (inR a (data.length:Int)) <|
 chk (inR pivot ((data.set ((a).toNat) data_e).length:Int)) <|
 chk (inK .i64 (a+1)) <|
 chk (inK .i64 (b - 1)) <|
 (Zn8 big a (a+1) (b - 1) ((data.set ((a).toNat) data_e).set ((pivot).toNat) data_e_1)).bind fun(x0,x1,x2,x3)=>ZqN x0 x1 x2 x3
def Zps (data:(List ZnA)) (a:Int) (b:Int) (pivot:Int):Option (Int×Bool×(List ZnA)):=
 (ZpQ data a b pivot).bind fun r=>chk (decide (r.2.2.length=data.length)&&true) (some r)
def ZoE (rf_:(List ZnA)→Int→Int→Int→Option (List ZnA)) (rec_:Int→Int→Int→Bool→Bool→(List ZnA)→Option (Out Unit (List ZnA))) (a:Int) (b:Int) (limit:Int) (wasBalanced:Bool) (wasPartitioned:Bool) (length:Int) (pivot:Int) (t97:Bool) (data:(List ZnA)):Option (Out Unit (List ZnA)):=
 bif t97 then (
  (ZoL data a b pivot).bind fun(mid,t98)=>
  rec_ mid b limit wasBalanced wasPartitioned t98
 )else (
  (Zps data a b pivot).bind fun(mid_1,alreadyPartitioned,t106)=>
  chk (inK .i64 (mid_1 - a)) <|
  chk (inK .i64 (b - mid_1)) <|
  chk (decide ((8:Int)≠0)) <|
  chk (inK .i64 (Int.tdiv length 8)) <|
  bif (decide ((mid_1 - a) < (b - mid_1)))then (
   (rf_ t106 a mid_1 limit).bind fun t129=>
   chk (inK .i64 (mid_1+1)) <|
   rec_ (mid_1+1) b limit (decide ((mid_1 - a)≥(Int.tdiv length 8))) alreadyPartitioned t129
  )else (
   chk (inK .i64 (mid_1+1)) <|
   (rf_ t106 (mid_1+1) b limit).bind fun t140=>
   rec_ a mid_1 limit (decide ((b - mid_1)≥(Int.tdiv length 8))) alreadyPartitioned t140
  )
 )
def ZoF (rf_:(List ZnA)→Int→Int→Int→Option (List ZnA)) (rec_:Int→Int→Int→Bool→Bool→(List ZnA)→Option (Out Unit (List ZnA))) (a:Int) (b:Int) (limit:Int) (wasBalanced:Bool) (wasPartitioned:Bool) (length:Int) (pivot:Int) (data:(List ZnA)):Option (Out Unit (List ZnA)):=
 bif (decide (a > 0))then (
  chk (inK .i64 (a - 1)) <|
  chk (inR (a - 1) (data.length:Int)) <|
  (data[((a - 1)).toNat]?).bind fun data_e=>
  chk (inR pivot (data.length:Int)) <|
  (data[(pivot).toNat]?).bind fun data_e_1=>
  (Zob data_e data_e_1).bind fun q=>
  ZoE rf_ rec_ a b limit wasBalanced wasPartitioned length pivot (!(decide (q < 0))) data
 )else (
  ZoE rf_ rec_ a b limit wasBalanced wasPartitioned length pivot false data
 )
def Zoh (rf_:(List ZnA)→Int→Int→Int→Option (List ZnA)) (rec_:Int→Int→Int→Bool→Bool→(List ZnA)→Option (Out Unit (List ZnA))) (a:Int) (b:Int) (limit:Int) (wasBalanced:Bool) (wasPartitioned:Bool) (length:Int) (pivot:Int) (t75:Bool) (data:(List ZnA)):Option (Out Unit (List ZnA)):=
 bif t75 then (
  (Zoq data a b).bind fun(q,t76)=>
  bif q then (
   some (.ret t76)
  )else (
   ZoF rf_ rec_ a b limit wasBalanced wasPartitioned length pivot t76
  )
 )else (
  ZoF rf_ rec_ a b limit wasBalanced wasPartitioned length pivot data
 )
def ZoG (rf_:(List ZnA)→Int→Int→Int→Option (List ZnA)) (rec_:Int→Int→Int→Bool→Bool→(List ZnA)→Option (Out Unit (List ZnA))) (a:Int) (b:Int) (limit:Int) (wasBalanced:Bool) (wasPartitioned:Bool) (length:Int) (pivot:Int) (hint:Int) (data:(List ZnA)):Option (Out Unit (List ZnA)):=
 bif wasBalanced then (
  bif wasPartitioned then (
   Zoh rf_ rec_ a b limit wasBalanced wasPartitioned length pivot (hint == 1) data
  )else (
   Zoh rf_ rec_ a b limit wasBalanced wasPartitioned length pivot false data
  )
 )else (
  Zoh rf_ rec_ a b limit wasBalanced wasPartitioned length pivot false data
 )
def ZoH (rf_:(List ZnA)→Int→Int→Int→Option (List ZnA)) (rec_:Int→Int→Int→Bool→Bool→(List ZnA)→Option (Out Unit (List ZnA))) (a:Int) (b:Int) (limit:Int) (wasBalanced:Bool) (wasPartitioned:Bool) (length:Int) (data:(List ZnA)):Option (Out Unit (List ZnA)):=
 (Zo9 data a b).bind fun(pivot,hint,t48)=>
 bif (hint == 2)then (
  (ZoZ t48 a b).bind fun t57=>
  chk (inK .i64 (b - 1)) <|
  chk (inK .i64 (pivot - a)) <|
  chk (inK .i64 ((b - 1) - (pivot - a))) <|
  ZoG rf_ rec_ a b limit wasBalanced wasPartitioned length ((b - 1) - (pivot - a)) (1:Int) t57
 )else (
  ZoG rf_ rec_ a b limit wasBalanced wasPartitioned length pivot hint t48
 )
def ZqI (rf_:(List ZnA)→Int→Int→Int→Option (List ZnA)) (rec_:Int→Int→Int→Bool→Bool→(List ZnA)→Option (Out Unit (List ZnA))) (a:Int) (b:Int) (limit:Int) (wasBalanced:Bool) (wasPartitioned:Bool) (data:(List ZnA)):Option (Out Unit (List ZnA)):=
 chk (inK .i64 (b - a)) <|
 bif (decide ((b - a)≤12))then (
  (Zom data a b).bind fun t26=>
  some (.ret t26)
 )else (
  bif (limit == 0)then (
   (ZpH data a b).bind fun t33=>
   some (.ret t33)
  )else (
   bif (!wasBalanced)then (
    (ZoR data a b).bind fun t40=>
    chk (inK .i64 (limit - 1)) <|
    ZoH rf_ rec_ a b (limit - 1) wasBalanced wasPartitioned (b - a) t40
   )else (
    ZoH rf_ rec_ a b limit wasBalanced wasPartitioned (b - a) data
   )
  )
 )
def ZnM (rf_:(List ZnA)→Int→Int→Int→Option (List ZnA)):Nat→Int→Int→Int→Bool→Bool→(List ZnA)→Option (Out Unit (List ZnA))
 |0,_,_,_,_,_,_=>none
 |n_+1,a,b,limit,wasBalanced,wasPartitioned,data=>ZqI rf_ (ZnM rf_ n_) a b limit wasBalanced wasPartitioned data
def ZtD (rf_:(List ZnA)→Int→Int→Int→Option (List ZnA)) (n:Nat) (s:(Int×Int×Int×Bool×Bool×(List ZnA))):Option (Out Unit (List ZnA)):=ZnM rf_ n s.1 s.2.1 s.2.2.1 s.2.2.2.1 s.2.2.2.2.1 s.2.2.2.2.2
def ZtE (rf_:(List ZnA)→Int→Int→Int→Option (List ZnA)) (rec_:(Int×Int×Int×Bool×Bool×(List ZnA))→Option (Out Unit (List ZnA))) (s:(Int×Int×Int×Bool×Bool×(List ZnA))):Option (Out Unit (List ZnA)):=ZqI rf_ (fun a b limit wasBalanced wasPartitioned data=>rec_ (a,b,limit,wasBalanced,wasPartitioned,data)) s.1 s.2.1 s.2.2.1 s.2.2.2.1 s.2.2.2.2.1 s.2.2.2.2.2
theorem Zxn (rf_:(List ZnA)→Int→Int→Int→Option (List ZnA)):∀n s,ZtD rf_ (n+1) s=ZtE rf_ (ZtD rf_ n) s:=fun _ _=>rfl
def ZpP (rf_:(List ZnA)→Int→Int→Int→Option (List ZnA)) (data:(List ZnA)) (a:Int) (b:Int) (limit:Int):Option (List ZnA):=
 (ZnM rf_ big a b limit true true data).bind fun
  | .ret q_=>some q_
  | .brk _=>none
def ZnF:Nat→(List ZnA)→Int→Int→Int→Option (List ZnA)
 |0,_,_,_,_=>none
 |n_+1,data,a,b,limit=>(ZpP (ZnF n_) data a b limit).bind fun r=>chk (decide (r.length=data.length)&&true) (some r)
def Zqp (x_:(List ZnA)):Option (List ZnA):=
 (ZxX (IntKind.wrap .u64 (x_.length:Int))).bind fun q=>
 (ZnF big x_ 0 (x_.length:Int) q).bind fun t7=>
 some t7
def Zol (x_:(List ZnA)):Option (List ZnA):=
 (Zqp x_).bind fun r=>chk (decide (r.length=x_.length)&&true) (some r)
def ZxW (out:(List ZnA)):Option (List ZnA):=
 (Zol out).bind fun t26=>
 some t26
def ZvR (rec_:(List G_api_Cell)→Int→Int→(List ZnA)→Option (List ZnA)) (t9:(List G_api_Cell)) (t10:Int) (t11:Int) (out:(List ZnA)):Option (List ZnA):=
 chk (inK .i64 (t11+1)) <|
 rec_ t9 t10 (t11+1) out
def ZuR (rec_:(List G_api_Cell)→Int→Int→(List ZnA)→Option (List ZnA)) (t9:(List G_api_Cell)) (t10:Int) (t11:Int) (out:(List ZnA)):Option (List ZnA):=
 bif (decide (t11 < t10))then (
  (idx t9 t11).bind fun x_=>
  (ZAb x_).bind fun(v_,ok)=>
  bif ok then (
   chk (ZiZ (out.length+([v_]:(List ZnA)).length) 64) <|
   ZvR rec_ t9 t10 t11 (out++([v_]:(List ZnA)))
  )else (
   ZvR rec_ t9 t10 t11 out
  )
 )else (
  some out
 )
def Zuh:Nat→(List G_api_Cell)→Int→Int→(List ZnA)→Option (List ZnA)
 |0,_,_,_,_=>none
 |n_+1,t9,t10,t11,out=>ZuR (Zuh n_) t9 t10 t11 out
def ZyZ (n:Nat) (s:((List G_api_Cell)×Int×Int×(List ZnA))):Option (List ZnA):=Zuh n s.1 s.2.1 s.2.2.1 s.2.2.2
def Zw9 (rec_:((List G_api_Cell)×Int×Int×(List ZnA))→Option (List ZnA)) (s:((List G_api_Cell)×Int×Int×(List ZnA))):Option (List ZnA):=ZuR (fun t9 t10 t11 out=>rec_ (t9,t10,t11,out)) s.1 s.2.1 s.2.2.1 s.2.2.2
theorem ZAD:∀n s,ZyZ (n+1) s=Zw9 (ZyZ n) s:=fun _ _=>rfl
def ZrF (c:G_api_Column):Option (List ZnA):=
 (Zuh big c.Cells (c.Cells.length:Int) (0:Int) ([]:(List ZnA))).bind fun x0=>ZxW x0
def Zpe (t0:Bool):Option Bool:=
 some t0
def Zq2:Option Bool:=
 (ZnY 1).bind fun q=>
 (ZnY 2).bind fun q_1=>
 (ZnY 3).bind fun q_2=>
 (ZnY 4).bind fun q_3=>
 (Zvc ([q,q_1,q_2,q_3]:(List ZnA)) 1 2).bind fun(x_,e)=>
 chk (Zb9 0 2 (([q,q_1,q_2,q_3]:(List ZnA)).length:Int)) <|
 chk (Zb9 1 3 (([q,q_1,q_2,q_3]:(List ZnA)).length:Int)) <|
 (Zpf ((([q,q_1,q_2,q_3]:(List ZnA)).drop 0).take (((2:Int)).toNat - 0)) ((([q,q_1,q_2,q_3]:(List ZnA)).drop (((1:Int)).toNat)).take (((3:Int)).toNat - ((1:Int)).toNat))).bind fun(d,f)=>
 bif (e == 0)then (
  bif (f == 0)then (
   (ZnY 2).bind fun q_4=>
   (Zoc x_ q_4).bind fun q_5=>
   bif q_5 then (
    (ZoB 1 2).bind fun q_6=>
    (Zoc d q_6).bind fun q_7=>
    bif q_7 then (
     (ZrF (G_api_Column.mk ([]:Str) ([(G_api_Cell.mk false ([51]:Str)),(G_api_Cell.mk true ([]:Str)),(G_api_Cell.mk false ([120]:Str))]:(List G_api_Cell)))).bind fun q_8=>
     Zpe ((q_8.length:Int) == 1)
    )else (
     Zpe false
    )
   )else (
    Zpe false
   )
  )else (
   Zpe false
  )
 )else (
  Zpe false
 )
def ZvM (t:(List Int)):Option ZnG:=
 some (ZnG.mk t 0)
def ZuB (n:Int) (m:Int):Option Int:=
 bif (decide (m < 1))then (
  some (0:Int)
 )else (
  chk (decide (m≠0)) <|
  chk (inK .i64 ((Int.tmod n m)+m)) <|
  chk (decide (m≠0)) <|
  some (Int.tmod ((Int.tmod n m)+m) m)
 )
def Zof (d:ZnG) (n:Int):Option (Int×ZnG):=
 bif (decide (d.at_≥(d.l.length:Int)))then (
  some (0,d)
 )else (
  chk (inK .i64 (d.at_+1)) <|
  chk (inK .i64 ((d.at_+1) - 1)) <|
  (idx d.l ((d.at_+1) - 1)).bind fun l_e=>
  (ZuB l_e n).bind fun q=>
  some (q,(ZnG.mk d.l (d.at_+1)))
 )
def ZoP (d:ZnG) (l:(List Str)):Option (Str×ZnG):=
 (Zof d (l.length:Int)).bind fun(q,t6)=>
 (idx l q).bind fun l_e=>
 some (l_e,t6)
def Zug (d:ZnG):Option (G_api_Cell×ZnG):=
 (Zof d 7).bind fun(q,t3)=>
 bif (q == 1)then (
  some ((G_api_Cell.mk true ([]:Str)),t3)
 )else (
  (ZoP t3 ([([97]:Str),([98]:Str),([99]:Str),([49]:Str),([50]:Str),([51]:Str),([49,48]:Str),([120]:Str),([45,49,46,53]:Str),([50]:Str)]:(List Str))).bind fun(q_1,t7)=>
  some ((G_api_Cell.mk false q_1),t7)
 )
def Zxr (n:Int):Option Str:=
 some (Lib.itoa n)
def ZsO (d:ZnG):Option (G_api_Cell×ZnG):=
 (Zof d 9).bind fun(q,t3)=>
 bif (q == 1)then (
  some ((G_api_Cell.mk true ([]:Str)),t3)
 )else (
  bif (q == 2)then (
   (ZoP t3 ([([120]:Str),([]:Str),([49,46,50,46,51]:Str),([49,46,53,48]:Str)]:(List Str))).bind fun(q_1,t10)=>
   some ((G_api_Cell.mk false q_1),t10)
  )else (
   (Zof t3 12).bind fun(q_2,t14)=>
   chk (inK .i64 (q_2 - 3)) <|
   (Zxr (q_2 - 3)).bind fun q_3=>
   some ((G_api_Cell.mk false q_3),t14)
  )
 )
def ZvC (d:ZnG) (t4:Str) (c:Str) (t4_1:(List G_api_Cell)) (c_1:(List G_api_Cell)):Option (G_api_Column×ZnG):=
 some ((G_api_Column.mk c c_1),d)
def Zpx (rec_:Int→Int→Int→ZnG→Str→Str→(List G_api_Cell)→(List G_api_Cell)→Option (ZnG×Str×Str×(List G_api_Cell)×(List G_api_Cell))) (kind:Int) (t15:Int) (i:Int) (d:ZnG) (t4:Str) (c:Str) (x_:G_api_Cell) (t4_1:(List G_api_Cell)) (c_1:(List G_api_Cell)):Option (ZnG×Str×Str×(List G_api_Cell)×(List G_api_Cell)):=
 chk (ZiZ (c_1.length+([x_]:(List G_api_Cell)).length) 24) <|
 chk (inK .i64 (i+1)) <|
 rec_ kind t15 (i+1) d t4 c t4_1 (c_1++([x_]:(List G_api_Cell)))
def Zsy (rec_:Int→Int→Int→ZnG→Str→Str→(List G_api_Cell)→(List G_api_Cell)→Option (ZnG×Str×Str×(List G_api_Cell)×(List G_api_Cell))) (kind:Int) (t15:Int) (i:Int) (d:ZnG) (t4:Str) (c:Str) (t4_1:(List G_api_Cell)) (c_1:(List G_api_Cell)):Option (ZnG×Str×Str×(List G_api_Cell)×(List G_api_Cell)):=
 bif (decide (i < t15))then (
  (Zug d).bind fun(x_,t19)=>
  bif (kind == 0)then (
   (ZsO t19).bind fun(x__1,t24)=>
   Zpx rec_ kind t15 i t24 t4 c x__1 t4_1 c_1
  )else (
   bif (kind == 1)then (
    (Zxr i).bind fun q=>
    chk (decide (([107]:Str).length+q.length≤Zq)) <|
    Zpx rec_ kind t15 i t19 t4 c (G_api_Cell.mk false (([107]:Str)++q)) t4_1 c_1
   )else (
    bif (kind == 2)then (
     (ZoP t19 ([([97]:Str),([98]:Str),([99]:Str),([100]:Str)]:(List Str))).bind fun(q_1,t34)=>
     Zpx rec_ kind t15 i t34 t4 c (G_api_Cell.mk false q_1) t4_1 c_1
    )else (
     Zpx rec_ kind t15 i t19 t4 c x_ t4_1 c_1
    )
   )
  )
 )else (
  some (d,t4,c,t4_1,c_1)
 )
def Zrr:Nat→Int→Int→Int→ZnG→Str→Str→(List G_api_Cell)→(List G_api_Cell)→Option (ZnG×Str×Str×(List G_api_Cell)×(List G_api_Cell))
 |0,_,_,_,_,_,_,_,_=>none
 |n_+1,kind,t15,i,d,t4,c,t4_1,c_1=>Zsy (Zrr n_) kind t15 i d t4 c t4_1 c_1
def ZxF (n:Nat) (s:(Int×Int×Int×ZnG×Str×Str×(List G_api_Cell)×(List G_api_Cell))):Option (ZnG×Str×Str×(List G_api_Cell)×(List G_api_Cell)):=Zrr n s.1 s.2.1 s.2.2.1 s.2.2.2.1 s.2.2.2.2.1 s.2.2.2.2.2.1 s.2.2.2.2.2.2.1 s.2.2.2.2.2.2.2
def ZuQ (rec_:(Int×Int×Int×ZnG×Str×Str×(List G_api_Cell)×(List G_api_Cell))→Option (ZnG×Str×Str×(List G_api_Cell)×(List G_api_Cell))) (s:(Int×Int×Int×ZnG×Str×Str×(List G_api_Cell)×(List G_api_Cell))):Option (ZnG×Str×Str×(List G_api_Cell)×(List G_api_Cell)):=Zsy (fun kind t15 i d t4 c t4_1 c_1=>rec_ (kind,t15,i,d,t4,c,t4_1,c_1)) s.1 s.2.1 s.2.2.1 s.2.2.2.1 s.2.2.2.2.1 s.2.2.2.2.2.1 s.2.2.2.2.2.2.1 s.2.2.2.2.2.2.2
theorem ZzE:∀n s,ZxF (n+1) s=ZuQ (ZxF n) s:=fun _ _=>rfl
def Zqi (d:ZnG) (rows:Int):Option (G_api_Column×ZnG):=
 (ZoP d ([([105,100]:Str),([110,97,109,101]:Str),([85,110,105,116,32,80,114,105,99,101]:Str),([99,105,116,121]:Str),([117,110,105,116]:Str),([112,114,105,99,101]:Str),([105,100,50]:Str),([]:Str)]:(List Str))).bind fun(q,t9)=>
 (Zof t9 5).bind fun(kind,t13)=>
 (Zrr big kind rows (0:Int) t13 ([]:Str) q ([]:(List G_api_Cell)) ([]:(List G_api_Cell))).bind fun(x0,x1,x2,x3,x4)=>ZvC x0 x1 x2 x3 x4
def Zvw (s:Str):Option Str:=
 some s
def Ztq (rec_:Str→Option Str) (s:Str) (t23:Bool):Option Str:=
 bif t23 then (
  chk (inK .i64 ((s.length:Int) - 1)) <|
  chk (Zb9 0 ((s.length:Int) - 1) (s.length:Int)) <|
  rec_ (s.take (((s.length:Int) - 1)).toNat)
 )else (
  some s
 )
def ZuN (rec_:Str→Option Str) (s:Str):Option Str:=
 bif (decide ((s.length:Int) > 0))then (
  chk (inK .i64 ((s.length:Int) - 1)) <|
  (idx s ((s.length:Int) - 1)).bind fun c=>
  Ztq rec_ s (((c.toNat:Nat):Int) == 32)
 )else (
  Ztq rec_ s false
 )
def Zrl:Nat→Str→Option Str
 |0,_=>none
 |n_+1,s=>ZuN (Zrl n_) s
def Zxz (n:Nat) (s:Str):Option Str:=Zrl n s
def ZxA (rec_:Str→Option Str) (s:Str):Option Str:=ZuN (fun s=>rec_ s) s
theorem ZzB:∀n s,Zxz (n+1) s=ZxA (Zxz n) s:=fun _ _=>rfl
def Zvx (s:Str):Option Str:=
 (Zrl big s).bind fun x0=>Zvw x0
def Ztr (rec_:Str→Option Str) (s:Str) (t10:Bool):Option Str:=
 bif t10 then (
  chk (Zb9 1 (s.length:Int) (s.length:Int)) <|
  rec_ (s.drop ((1:Int)).toNat)
 )else (
  some s
 )
def ZuO (rec_:Str→Option Str) (s:Str):Option Str:=
 bif (decide ((s.length:Int) > 0))then (
  (idx s 0).bind fun c=>
  Ztr rec_ s (((c.toNat:Nat):Int) == 32)
 )else (
  Ztr rec_ s false
 )
def Zrm:Nat→Str→Option Str
 |0,_=>none
 |n_+1,s=>ZuO (Zrm n_) s
def ZxB (n:Nat) (s:Str):Option Str:=Zrm n s
def ZxC (rec_:Str→Option Str) (s:Str):Option Str:=ZuO (fun s=>rec_ s) s
theorem ZzC:∀n s,ZxB (n+1) s=ZxC (ZxB n) s:=fun _ _=>rfl
def ZsD (s:Str):Option Str:=
 (Zrm big s).bind fun x0=>Zvx x0
def Zyn (b:(List Int)):Option Str:=
 some (b.map fun n=>UInt8.ofNat (Int.toNat n))
def Zvy (rec_:Int→Int→(List Int)→Option (List Int)) (t8:Int) (i:Int) (b:(List Int)):Option (List Int):=
 chk (inK .i64 (i+1)) <|
 rec_ t8 (i+1) b
def Zvz (rec_:Int→Int→(List Int)→Option (List Int)) (i:Int) (t8:Int) (i_1:Int) (t23:Bool) (b:(List Int)):Option (List Int):=
 bif t23 then (
  chk (inR i (b.length:Int)) <|
  (b[(i).toNat]?).bind fun b_e=>
  chk (inR i (b.length:Int)) <|
  Zvy rec_ t8 i_1 (b.set ((i).toNat) (IntKind.wrap .u8 (b_e+32)))
 )else (
  Zvy rec_ t8 i_1 b
 )
def ZzS (rec_:Int→Int→(List Int)→Option (List Int)) (t8:Int) (i:Int) (b:(List Int)):Option (List Int):=
 bif (decide (i < t8))then (
  chk (inR i (b.length:Int)) <|
  (b[(i).toNat]?).bind fun b_e=>
  bif (decide (b_e≥65))then (
   chk (inR i (b.length:Int)) <|
   (b[(i).toNat]?).bind fun b_e_1=>
   Zvz rec_ i t8 i (decide (b_e_1≤90)) b
  )else (
   Zvz rec_ i t8 i false b
  )
 )else (
  some b
 )
def Zrn:Nat→Int→Int→(List Int)→Option (List Int)
 |0,_,_,_=>none
 |n_+1,t8,i,b=>ZzS (Zrn n_) t8 i b
def Zw5 (s:Str):Option Str:=
 chk (decide (s.length≤281474976710656)) <|
 (Zrn big ((s.map fun b=>((b.toNat:Nat):Int)).length:Int) (0:Int) (s.map fun b=>((b.toNat:Nat):Int))).bind fun x0=>Zyn x0
def ZxV (neg:Bool) (digits:Str) (places:Str):Option (Bool×Str×Str×Bool):=
 some (neg,digits,places,true)
def ZsL (rec_:Bool→Str→Str→Int→Option (Out (Bool×Str×Str) (Bool×Str×Str×Bool))) (neg:Bool) (digits:Str) (places:Str) (i:Int) (t92:Bool):Option (Out (Bool×Str×Str) (Bool×Str×Str×Bool)):=
 bif t92 then (
  some (.ret (false,([]:Str),([]:Str),false))
 )else (
  chk (inK .i64 (i+1)) <|
  rec_ neg digits places (i+1)
 )
def Zr7 (rec_:Bool→Str→Str→Int→Option (Out (Bool×Str×Str) (Bool×Str×Str×Bool))) (neg:Bool) (digits:Str) (places:Str) (i:Int):Option (Out (Bool×Str×Str) (Bool×Str×Str×Bool)):=
 bif (decide (i < (places.length:Int)))then (
  (idx places i).bind fun c=>
  bif (decide (((c.toNat:Nat):Int) < 48))then (
   ZsL rec_ neg digits places i true
  )else (
   (idx places i).bind fun c_1=>
   ZsL rec_ neg digits places i (decide (((c_1.toNat:Nat):Int) > 57))
  )
 )else (
  some (.brk (neg,digits,places))
 )
def Zp6:Nat→Bool→Str→Str→Int→Option (Out (Bool×Str×Str) (Bool×Str×Str×Bool))
 |0,_,_,_,_=>none
 |n_+1,neg,digits,places,i=>Zr7 (Zp6 n_) neg digits places i
def Zxk (n:Nat) (s:(Bool×Str×Str×Int)):Option (Out (Bool×Str×Str) (Bool×Str×Str×Bool)):=Zp6 n s.1 s.2.1 s.2.2.1 s.2.2.2
def Zuq (rec_:(Bool×Str×Str×Int)→Option (Out (Bool×Str×Str) (Bool×Str×Str×Bool))) (s:(Bool×Str×Str×Int)):Option (Out (Bool×Str×Str) (Bool×Str×Str×Bool)):=Zr7 (fun neg digits places i=>rec_ (neg,digits,places,i)) s.1 s.2.1 s.2.2.1 s.2.2.2
theorem Zzp:∀n s,Zxk (n+1) s=Zuq (Zxk n) s:=fun _ _=>rfl
def Zop (neg:Bool) (digits:Str) (places:Str) (t76:Bool):Option (Bool×Str×Str×Bool):=
 bif t76 then (
  some (false,([]:Str),([]:Str),false)
 )else (
  (Zp6 big neg digits places (0:Int)).bind fun
   | .ret q_=>some q_
   | .brk (x0,x1,x2)=>ZxV x0 x1 x2
 )
def ZsM (s:Str) (neg:Bool) (digits:Str) (k:Int) (t52:Bool):Option (Bool×Str×Str×Bool):=
 bif t52 then (
  some (false,([]:Str),([]:Str),false)
 )else (
  bif (k == (s.length:Int))then (
   some (neg,digits,([]:Str),true)
  )else (
   chk (inK .i64 (k+1)) <|
   chk (Zb9 (k+1) (s.length:Int) (s.length:Int)) <|
   (idx s k).bind fun c=>
   bif (((c.toNat:Nat):Int) != 46)then (
    Zop neg digits (s.drop ((k+1)).toNat) true
   )else (
    bif (decide (((s.drop ((k+1)).toNat).length:Int) < 1))then (
     Zop neg digits (s.drop ((k+1)).toNat) true
    )else (
     Zop neg digits (s.drop ((k+1)).toNat) (decide (((s.drop ((k+1)).toNat).length:Int) > 9))
    )
   )
  )
 )
def Zva (s:Str) (neg:Bool) (k:Int):Option (Bool×Str×Str×Bool):=
 chk (Zb9 0 k (s.length:Int)) <|
 bif (decide (k < 1))then (
  ZsM s neg (s.take (k).toNat) k true
 )else (
  ZsM s neg (s.take (k).toNat) k (decide (k > 15))
 )
def Zrb (rec_:Str→Bool→Int→Option (Str×Bool×Int)) (s:Str) (neg:Bool) (k:Int) (t41:Bool):Option (Str×Bool×Int):=
 bif t41 then (
  chk (inK .i64 (k+1)) <|
  rec_ s neg (k+1)
 )else (
  some (s,neg,k)
 )
def Zur (rec_:Str→Bool→Int→Option (Str×Bool×Int)) (s:Str) (neg:Bool) (k:Int):Option (Str×Bool×Int):=
 bif (decide (k < (s.length:Int)))then (
  (idx s k).bind fun c=>
  bif (decide (((c.toNat:Nat):Int)≥48))then (
   (idx s k).bind fun c_1=>
   Zrb rec_ s neg k (decide (((c_1.toNat:Nat):Int)≤57))
  )else (
   Zrb rec_ s neg k false
  )
 )else (
  Zrb rec_ s neg k false
 )
def Zra:Nat→Str→Bool→Int→Option (Str×Bool×Int)
 |0,_,_,_=>none
 |n_+1,s,neg,k=>Zur (Zra n_) s neg k
def Zxl (n:Nat) (s:(Str×Bool×Int)):Option (Str×Bool×Int):=Zra n s.1 s.2.1 s.2.2
def Zxm (rec_:(Str×Bool×Int)→Option (Str×Bool×Int)) (s:(Str×Bool×Int)):Option (Str×Bool×Int):=Zur (fun s neg k=>rec_ (s,neg,k)) s.1 s.2.1 s.2.2
theorem Zzq:∀n s,Zxl (n+1) s=Zxm (Zxl n) s:=fun _ _=>rfl
def ZoD (s:Str) (neg:Bool):Option (Bool×Str×Str×Bool):=
 (Zra big s neg (0:Int)).bind fun(x0,x1,x2)=>Zva x0 x1 x2
def Zrc (s:Str) (neg:Bool) (t20:Bool):Option (Bool×Str×Str×Bool):=
 bif t20 then (
  (idx s 0).bind fun c=>
  chk (Zb9 1 (s.length:Int) (s.length:Int)) <|
  ZoD (s.drop ((1:Int)).toNat) (((c.toNat:Nat):Int) == 45)
 )else (
  ZoD s neg
 )
def Zq1 (s:Str):Option (Bool×Str×Str×Bool):=
 bif (decide ((s.length:Int) > 0))then (
  (idx s 0).bind fun c=>
  bif (((c.toNat:Nat):Int) == 43)then (
   Zrc s false true
  )else (
   (idx s 0).bind fun c_1=>
   Zrc s false (((c_1.toNat:Nat):Int) == 45)
  )
 )else (
  Zrc s false false
 )
def Zsr (digits:Str):Option Str:=
 some digits
def Zss (digits:Str) (t43:Bool):Option Str:=
 bif t43 then (
  chk (decide (([45]:Str).length+digits.length≤Zq)) <|
  Zsr (([45]:Str)++digits)
 )else (
  Zsr digits
 )
def Zst (neg:Bool) (digits:Str):Option Str:=
 bif neg then (
  Zss digits (!(digits == ([48]:Str)))
 )else (
  Zss digits false
 )
def ZuI (neg:Bool) (digits:Str) (places:Str):Option Str:=
 bif (!(places == ([]:Str)))then (
  chk (decide (([46]:Str).length+places.length≤Zq)) <|
  chk (decide (digits.length+(([46]:Str)++places).length≤Zq)) <|
  Zst neg (digits++(([46]:Str)++places))
 )else (
  Zst neg digits
 )
def Zsu (rec_:Bool→Str→Str→Option (Bool×Str×Str)) (neg:Bool) (digits:Str) (places:Str) (t27:Bool):Option (Bool×Str×Str):=
 bif t27 then (
  chk (inK .i64 ((places.length:Int) - 1)) <|
  chk (Zb9 0 ((places.length:Int) - 1) (places.length:Int)) <|
  rec_ neg digits (places.take (((places.length:Int) - 1)).toNat)
 )else (
  some (neg,digits,places)
 )
def Zud (rec_:Bool→Str→Str→Option (Bool×Str×Str)) (neg:Bool) (digits:Str) (places:Str):Option (Bool×Str×Str):=
 bif (decide ((places.length:Int) > 0))then (
  chk (inK .i64 ((places.length:Int) - 1)) <|
  (idx places ((places.length:Int) - 1)).bind fun c=>
  Zsu rec_ neg digits places (((c.toNat:Nat):Int) == 48)
 )else (
  Zsu rec_ neg digits places false
 )
def ZqQ:Nat→Bool→Str→Str→Option (Bool×Str×Str)
 |0,_,_,_=>none
 |n_+1,neg,digits,places=>Zud (ZqQ n_) neg digits places
def Zw1 (n:Nat) (s:(Bool×Str×Str)):Option (Bool×Str×Str):=ZqQ n s.1 s.2.1 s.2.2
def Zw2 (rec_:(Bool×Str×Str)→Option (Bool×Str×Str)) (s:(Bool×Str×Str)):Option (Bool×Str×Str):=Zud (fun neg digits places=>rec_ (neg,digits,places)) s.1 s.2.1 s.2.2
theorem Zzf:∀n s,Zw1 (n+1) s=Zw2 (Zw1 n) s:=fun _ _=>rfl
def ZuJ (neg:Bool) (digits:Str) (places:Str):Option Str:=
 (ZqQ big neg digits places).bind fun(x0,x1,x2)=>ZuI x0 x1 x2
def Zsv (rec_:Bool→Str→Str→Option (Bool×Str×Str)) (neg:Bool) (digits:Str) (places:Str) (t14:Bool):Option (Bool×Str×Str):=
 bif t14 then (
  chk (Zb9 1 (digits.length:Int) (digits.length:Int)) <|
  rec_ neg (digits.drop ((1:Int)).toNat) places
 )else (
  some (neg,digits,places)
 )
def Zue (rec_:Bool→Str→Str→Option (Bool×Str×Str)) (neg:Bool) (digits:Str) (places:Str):Option (Bool×Str×Str):=
 bif (decide ((digits.length:Int) > 1))then (
  (idx digits 0).bind fun c=>
  Zsv rec_ neg digits places (((c.toNat:Nat):Int) == 48)
 )else (
  Zsv rec_ neg digits places false
 )
def ZqR:Nat→Bool→Str→Str→Option (Bool×Str×Str)
 |0,_,_,_=>none
 |n_+1,neg,digits,places=>Zue (ZqR n_) neg digits places
def Zw3 (n:Nat) (s:(Bool×Str×Str)):Option (Bool×Str×Str):=ZqR n s.1 s.2.1 s.2.2
def Zw4 (rec_:(Bool×Str×Str)→Option (Bool×Str×Str)) (s:(Bool×Str×Str)):Option (Bool×Str×Str):=Zue (fun neg digits places=>rec_ (neg,digits,places)) s.1 s.2.1 s.2.2
theorem Zzg:∀n s,Zw3 (n+1) s=Zw4 (Zw3 n) s:=fun _ _=>rfl
def ZrP (neg:Bool) (digits:Str) (places:Str):Option Str:=
 (ZqR big neg digits places).bind fun(x0,x1,x2)=>ZuJ x0 x1 x2
def ZyC (n:Int):Option Int:=
 some n
def Zv0 (rec_:Str→Int→Int→Option (Out Int Int)) (s:Str) (n:Int) (i:Int) (t20:Bool):Option (Out Int Int):=
 bif t20 then (
  some (.ret (-1:Int))
 )else (
  chk (inK .i64 (10*n)) <|
  (idx s i).bind fun c=>
  chk (inK .i64 ((10*n)+(IntKind.wrap .i64 (IntKind.wrap .u8 (((c.toNat:Nat):Int) - 48))))) <|
  chk (inK .i64 (i+1)) <|
  rec_ s ((10*n)+(IntKind.wrap .i64 (IntKind.wrap .u8 (((c.toNat:Nat):Int) - 48)))) (i+1)
 )
def Zz8 (rec_:Str→Int→Int→Option (Out Int Int)) (s:Str) (n:Int) (i:Int):Option (Out Int Int):=
 bif (decide (i < (s.length:Int)))then (
  (idx s i).bind fun c=>
  bif (decide (((c.toNat:Nat):Int) < 48))then (
   Zv0 rec_ s n i true
  )else (
   (idx s i).bind fun c_1=>
   Zv0 rec_ s n i (decide (((c_1.toNat:Nat):Int) > 57))
  )
 )else (
  some (.brk n)
 )
def ZtV:Nat→Str→Int→Int→Option (Out Int Int)
 |0,_,_,_=>none
 |n_+1,s,n,i=>Zz8 (ZtV n_) s n i
def ZpW (s:Str):Option Int:=
 (ZtV big s (0:Int) (0:Int)).bind fun
  | .ret q_=>some q_
  | .brk x0=>ZyC x0
def Zto (t2:Bool):Option Bool:=
 some t2
def ZuL (y:Int):Option Bool:=
 chk (decide ((4:Int)≠0)) <|
 bif ((Int.tmod y 4) == 0)then (
  chk (decide ((100:Int)≠0)) <|
  bif ((Int.tmod y 100) != 0)then (
   Zto true
  )else (
   chk (decide ((400:Int)≠0)) <|
   Zto ((Int.tmod y 400) == 0)
  )
 )else (
  Zto false
 )
def ZqS (t15:Bool):Option Int:=
 bif t15 then (
  some (30:Int)
 )else (
  some (31:Int)
 )
def ZuK (m:Int) (t5:Bool):Option Int:=
 bif t5 then (
  some (29:Int)
 )else (
  bif (m == 2)then (
   some (28:Int)
  )else (
   bif (m == 4)then (
    ZqS true
   )else (
    bif (m == 6)then (
     ZqS true
    )else (
     bif (m == 9)then (
      ZqS true
     )else (
      ZqS (m == 11)
     )
    )
   )
  )
 )
def ZtW (y:Int) (m:Int):Option Int:=
 bif (m == 2)then (
  (ZuL y).bind fun q=>
  ZuK m q
 )else (
  ZuK m false
 )
def ZyD (day:Int) (n:Int):Option (Int×Bool):=
 chk (inK .i64 (n+day)) <|
 chk (inK .i64 ((n+day) - 1)) <|
 chk (inK .i64 (((n+day) - 1) - 719162)) <|
 some ((((n+day) - 1) - 719162),true)
def Zz9 (rec_:Int→Int→Int→Int→Int→Option (Int×Int)) (year:Int) (month:Int) (day:Int) (n:Int) (m:Int):Option (Int×Int):=
 bif (decide (m < month))then (
  (ZtW year m).bind fun q=>
  chk (inK .i64 (n+q)) <|
  chk (inK .i64 (m+1)) <|
  rec_ year month day (n+q) (m+1)
 )else (
  some (day,n)
 )
def Zv1:Nat→Int→Int→Int→Int→Int→Option (Int×Int)
 |0,_,_,_,_,_=>none
 |n_+1,year,month,day,n,m=>Zz9 (Zv1 n_) year month day n m
def ZyE (year:Int) (month:Int) (day:Int) (n:Int):Option (Int×Bool):=
 (Zv1 big year month day n (1:Int)).bind fun(x0,x1)=>ZyD x0 x1
def Zv2 (rec_:Int→Int→Int→Int→Int→Option (Int×Int×Int×Int)) (year:Int) (month:Int) (day:Int) (n:Int) (y:Int):Option (Int×Int×Int×Int):=
 chk (inK .i64 (y+1)) <|
 rec_ year month day n (y+1)
def ZAa (rec_:Int→Int→Int→Int→Int→Option (Int×Int×Int×Int)) (year:Int) (month:Int) (day:Int) (n:Int) (y:Int):Option (Int×Int×Int×Int):=
 bif (decide (y < year))then (
  chk (inK .i64 (n+365)) <|
  (ZuL y).bind fun q=>
  bif q then (
   chk (inK .i64 ((n+365)+1)) <|
   Zv2 rec_ year month day ((n+365)+1) y
  )else (
   Zv2 rec_ year month day (n+365) y
  )
 )else (
  some (year,month,day,n)
 )
def ZtX:Nat→Int→Int→Int→Int→Int→Option (Int×Int×Int×Int)
 |0,_,_,_,_,_=>none
 |n_+1,year,month,day,n,y=>ZAa (ZtX n_) year month day n y
def ZpJ (year:Int) (month:Int) (day:Int) (t35:Bool):Option (Int×Bool):=
 bif t35 then (
  some (0,false)
 )else (
  (ZtX big year month day (0:Int) (1:Int)).bind fun(x0,x1,x2,x3)=>ZyE x0 x1 x2 x3
 )
def Zvm (year:Int) (month:Int) (day:Int):Option (Int×Bool):=
 bif (decide (year < 1))then (
  ZpJ year month day true
 )else (
  bif (decide (year > 9999))then (
   ZpJ year month day true
  )else (
   bif (decide (month < 1))then (
    ZpJ year month day true
   )else (
    bif (decide (month > 12))then (
     ZpJ year month day true
    )else (
     bif (decide (day < 1))then (
      ZpJ year month day true
     )else (
      (ZtW year month).bind fun q=>
      ZpJ year month day (decide (day > q))
     )
    )
   )
  )
 )
def Zvt (year:Int) (month:Int) (day:Int):Option (Int×Int×Int×Bool):=
 (Zvm year month day).bind fun(q,ok)=>
 some (year,month,day,ok)
def Zvu (s:Str) (t35:Bool):Option (Int×Int×Int×Bool):=
 bif t35 then (
  chk (Zb9 6 (s.length:Int) (s.length:Int)) <|
  (ZpW (s.drop ((6:Int)).toNat)).bind fun year=>
  chk (Zb9 3 5 (s.length:Int)) <|
  (ZpW ((s.take ((5:Int)).toNat).drop ((3:Int)).toNat)).bind fun month=>
  chk (Zb9 0 2 (s.length:Int)) <|
  (ZpW (s.take ((2:Int)).toNat)).bind fun day=>
  Zvt year month day
 )else (
  some (0,0,0,false)
 )
def Ztp (s:Str) (t9:Bool):Option (Int×Int×Int×Bool):=
 bif t9 then (
  chk (Zb9 0 4 (s.length:Int)) <|
  (ZpW (s.take ((4:Int)).toNat)).bind fun year=>
  chk (Zb9 5 7 (s.length:Int)) <|
  (ZpW ((s.take ((7:Int)).toNat).drop ((5:Int)).toNat)).bind fun month=>
  chk (Zb9 8 (s.length:Int) (s.length:Int)) <|
  (ZpW (s.drop ((8:Int)).toNat)).bind fun day=>
  Zvt year month day
 )else (
  (idx s 2).bind fun c=>
  bif (((c.toNat:Nat):Int) == 46)then (
   (idx s 5).bind fun c_1=>
   Zvu s (((c_1.toNat:Nat):Int) == 46)
  )else (
   Zvu s false
  )
 )
def Zvv (s:Str) (t9:Bool):Option (Int×Int×Int×Bool):=
 bif t9 then (
  Ztp s t9
 )else (
  (idx s 4).bind fun c=>
  bif (((c.toNat:Nat):Int) == 47)then (
   (idx s 7).bind fun c_1=>
   Ztp s (((c_1.toNat:Nat):Int) == 47)
  )else (
   Ztp s false
  )
 )
def ZuM (s:Str):Option (Int×Int×Int×Bool):=
 bif ((s.length:Int) != 10)then (
  some (0,0,0,false)
 )else (
  (idx s 4).bind fun c=>
  bif (((c.toNat:Nat):Int) == 45)then (
   (idx s 7).bind fun c_1=>
   Zvv s (((c_1.toNat:Nat):Int) == 45)
  )else (
   Zvv s false
  )
 )
def Zxy (s:Str):Option Str:=
 some s
def Zzn (rec_:Int→Int→Str→Option Str) (n:Int) (width:Int) (s:Str):Option Str:=
 bif (decide (width > 0))then (
  chk (decide ((10:Int)≠0)) <|
  chk (decide ((([(IntKind.wrap .u8 (48+(IntKind.wrap .u8 (Int.tmod n 10))))]:(List Int)).map fun n=>UInt8.ofNat (Int.toNat n)).length+s.length≤Zq)) <|
  chk (decide ((10:Int)≠0)) <|
  chk (inK .i64 (Int.tdiv n 10)) <|
  chk (inK .i64 (width - 1)) <|
  rec_ (Int.tdiv n 10) (width - 1) ((([(IntKind.wrap .u8 (48+(IntKind.wrap .u8 (Int.tmod n 10))))]:(List Int)).map fun n=>UInt8.ofNat (Int.toNat n))++s)
 )else (
  some s
 )
def ZuH:Nat→Int→Int→Str→Option Str
 |0,_,_,_=>none
 |n_+1,n,width,s=>Zzn (ZuH n_) n width s
def ZrO (n:Int) (width:Int):Option Str:=
 (ZuH big n width ([]:Str)).bind fun x0=>Zxy x0
def Zp3:Option (Str×Bool):=
 some (([]:Str),false)
def Zp4 (neg:Bool) (digits:Str) (places:Str) (t49:Bool):Option (Str×Bool):=
 bif t49 then (
  (ZrP neg digits places).bind fun q=>
  some (q,true)
 )else (
  Zp3
 )
def Zrh (kind:Int) (t:Str) (t17:Int) (t31:Bool):Option (Str×Bool):=
 bif t31 then (
  (Zq1 t).bind fun(neg,digits,places,ok)=>
  bif ok then (
   bif (kind == 4)then (
    Zp4 neg digits places true
   )else (
    Zp4 neg digits places (places == ([]:Str))
   )
  )else (
   Zp4 neg digits places false
  )
 )else (
  bif (t17 == 5)then (
   (ZuM t).bind fun(y,m,d,ok_1)=>
   bif ok_1 then (
    (ZrO y 4).bind fun q=>
    chk (decide (q.length+([45]:Str).length≤Zq)) <|
    (ZrO m 2).bind fun q_1=>
    chk (decide ((q++([45]:Str)).length+q_1.length≤Zq)) <|
    chk (decide (((q++([45]:Str))++q_1).length+([45]:Str).length≤Zq)) <|
    (ZrO d 2).bind fun q_2=>
    chk (decide ((((q++([45]:Str))++q_1)++([45]:Str)).length+q_2.length≤Zq)) <|
    some (((((q++([45]:Str))++q_1)++([45]:Str))++q_2),true)
   )else (
    Zp3
   )
  )else (
   Zp3
  )
 )
def ZtM (t28:Bool):Option (Str×Bool):=
 bif t28 then (
  some (([102,97,108,115,101]:Str),true)
 )else (
  Zp3
 )
def ZtN (t24:Str) (t25:Bool):Option (Str×Bool):=
 bif t25 then (
  some (([116,114,117,101]:Str),true)
 )else (
  bif (t24 == ([102,97,108,115,101]:Str))then (
   ZtM (t24 == ([102,97,108,115,101]:Str))
  )else (
   ZtM (t24 == ([110,111]:Str))
  )
 )
def ZqT (kind:Int) (s:Str):Option (Str×Bool):=
 (ZsD s).bind fun t=>
 bif (kind == 1)then (
  some (s,true)
 )else (
  bif (kind == 2)then (
   (Zw5 t).bind fun q=>
   bif (q == ([116,114,117,101]:Str))then (
    ZtN q (q == ([116,114,117,101]:Str))
   )else (
    ZtN q (q == ([121,101,115]:Str))
   )
  )else (
   bif (kind == 3)then (
    Zrh kind t kind (kind == 3)
   )else (
    Zrh kind t kind (kind == 4)
   )
  )
 )
def Zv4 (out:(List Int)):Option (List Int):=
 (Zoo out).bind fun q=>
 some q
def Zv5 (rec_:(List Int)→(List Int)→Int→(List Int)→Option (List Int)) (a:(List Int)) (b:(List Int)) (i:Int) (c:Int) (out:(List Int)):Option (List Int):=
 chk (inK .i64 (i+(b.length:Int))) <|
 chk (inR (i+(b.length:Int)) (out.length:Int)) <|
 chk (inK .i64 (i+1)) <|
 rec_ a b (i+1) (out.set (((i+(b.length:Int))).toNat) (IntKind.wrap .u32 c))
def ZsG (rec_:(List Int)→(List Int)→Int→Int→Int→(List Int)→Option ((List Int)×(List Int)×Int×Int×(List Int))) (a:(List Int)) (b:(List Int)) (i:Int) (c:Int) (j:Int) (out:(List Int)):Option ((List Int)×(List Int)×Int×Int×(List Int)):=
 bif (decide (j < (b.length:Int)))then (
  (idx a i).bind fun a_e=>
  (idx b j).bind fun b_e=>
  chk (inK .i64 (i+j)) <|
  chk (inR (i+j) (out.length:Int)) <|
  (out[((i+j)).toNat]?).bind fun out_e=>
  chk (inK .i64 (i+j)) <|
  chk (inR (i+j) (out.length:Int)) <|
  chk (decide (0≤(32:Int))) <|
  chk (inK .i64 (j+1)) <|
  rec_ a b i (shrK .u64 (IntKind.wrap .u64 (c+(IntKind.wrap .u64 ((IntKind.wrap .u64 ((IntKind.wrap .u64 a_e)*(IntKind.wrap .u64 b_e)))+(IntKind.wrap .u64 out_e))))) 32) (j+1) (out.set (((i+j)).toNat) (IntKind.wrap .u32 (IntKind.wrap .u64 (c+(IntKind.wrap .u64 ((IntKind.wrap .u64 ((IntKind.wrap .u64 a_e)*(IntKind.wrap .u64 b_e)))+(IntKind.wrap .u64 out_e)))))))
 )else (
  some (a,b,i,c,out)
 )
def ZtY:Nat→(List Int)→(List Int)→Int→Int→Int→(List Int)→Option ((List Int)×(List Int)×Int×Int×(List Int))
 |0,_,_,_,_,_,_=>none
 |n_+1,a,b,i,c,j,out=>ZsG (ZtY n_) a b i c j out
def ZxQ (n:Nat) (s:((List Int)×(List Int)×Int×Int×Int×(List Int))):Option ((List Int)×(List Int)×Int×Int×(List Int)):=ZtY n s.1 s.2.1 s.2.2.1 s.2.2.2.1 s.2.2.2.2.1 s.2.2.2.2.2
def Zu3 (rec_:((List Int)×(List Int)×Int×Int×Int×(List Int))→Option ((List Int)×(List Int)×Int×Int×(List Int))) (s:((List Int)×(List Int)×Int×Int×Int×(List Int))):Option ((List Int)×(List Int)×Int×Int×(List Int)):=ZsG (fun a b i c j out=>rec_ (a,b,i,c,j,out)) s.1 s.2.1 s.2.2.1 s.2.2.2.1 s.2.2.2.2.1 s.2.2.2.2.2
theorem ZzU:∀n s,ZxQ (n+1) s=Zu3 (ZxQ n) s:=fun _ _=>rfl
def ZsH (rec_:(List Int)→(List Int)→Int→(List Int)→Option (List Int)) (a:(List Int)) (b:(List Int)) (i:Int) (out:(List Int)):Option (List Int):=
 bif (decide (i < (a.length:Int)))then (
  (ZtY big a b i (0:Int) (0:Int) out).bind fun(x0,x1,x2,x3,x4)=>Zv5 rec_ x0 x1 x2 x3 x4
 )else (
  some out
 )
def ZrT:Nat→(List Int)→(List Int)→Int→(List Int)→Option (List Int)
 |0,_,_,_,_=>none
 |n_+1,a,b,i,out=>ZsH (ZrT n_) a b i out
def ZxR (n:Nat) (s:((List Int)×(List Int)×Int×(List Int))):Option (List Int):=ZrT n s.1 s.2.1 s.2.2.1 s.2.2.2
def Zu4 (rec_:((List Int)×(List Int)×Int×(List Int))→Option (List Int)) (s:((List Int)×(List Int)×Int×(List Int))):Option (List Int):=ZsH (fun a b i out=>rec_ (a,b,i,out)) s.1 s.2.1 s.2.2.1 s.2.2.2
theorem ZzV:∀n s,ZxR (n+1) s=Zu4 (ZxR n) s:=fun _ _=>rfl
def Zty (a:(List Int)) (b:(List Int)):Option (List Int):=
 chk (inK .i64 ((a.length:Int)+(b.length:Int))) <|
 chk (mkOk ((a.length:Int)+(b.length:Int)) ((a.length:Int)+(b.length:Int)) 4) <|
 (ZrT big a b (0:Int) (List.replicate (((a.length:Int)+(b.length:Int))).toNat (0:Int))).bind fun x0=>Zv4 x0
def ZnN (a:ZnD) (b:ZnD):Option ZnD:=
 (Zty a.Words b.Words).bind fun q=>
 (Zn4 (!(a.Neg == b.Neg)) q).bind fun q_1=>
 some q_1
def Zwd (c:Int) (out:(List Int)):Option (List Int):=
 chk (ZiZ (out.length+([(IntKind.wrap .u32 c)]:(List Int)).length) 4) <|
 some (out++([(IntKind.wrap .u32 c)]:(List Int)))
def ZrW (rec_:(List Int)→(List Int)→Int→Int→(List Int)→Option (Int×(List Int))) (a:(List Int)) (b:(List Int)) (c:Int) (i:Int) (out:(List Int)):Option (Int×(List Int)):=
 chk (ZiZ (out.length+([(IntKind.wrap .u32 c)]:(List Int)).length) 4) <|
 chk (decide (0≤(32:Int))) <|
 chk (inK .i64 (i+1)) <|
 rec_ a b (shrK .u64 c 32) (i+1) (out++([(IntKind.wrap .u32 c)]:(List Int)))
def ZrX (rec_:(List Int)→(List Int)→Int→Int→(List Int)→Option (Int×(List Int))) (a:(List Int)) (b:(List Int)) (c:Int) (i:Int) (out:(List Int)):Option (Int×(List Int)):=
 bif (decide (i < (b.length:Int)))then (
  (idx b i).bind fun b_e=>
  ZrW rec_ a b (IntKind.wrap .u64 (c+(IntKind.wrap .u64 b_e))) i out
 )else (
  ZrW rec_ a b c i out
 )
def Zqz (rec_:(List Int)→(List Int)→Int→Int→(List Int)→Option (Int×(List Int))) (a:(List Int)) (b:(List Int)) (c:Int) (i:Int) (t17:Bool) (out:(List Int)):Option (Int×(List Int)):=
 bif t17 then (
  bif (decide (i < (a.length:Int)))then (
   (idx a i).bind fun a_e=>
   ZrX rec_ a b (IntKind.wrap .u64 (c+(IntKind.wrap .u64 a_e))) i out
  )else (
   ZrX rec_ a b c i out
  )
 )else (
  some (c,out)
 )
def ZsK (rec_:(List Int)→(List Int)→Int→Int→(List Int)→Option (Int×(List Int))) (a:(List Int)) (b:(List Int)) (c:Int) (i:Int) (out:(List Int)):Option (Int×(List Int)):=
 bif (decide (i < (a.length:Int)))then (
  Zqz rec_ a b c i true out
 )else (
  Zqz rec_ a b c i (decide (i < (b.length:Int))) out
 )
def ZpL:Nat→(List Int)→(List Int)→Int→Int→(List Int)→Option (Int×(List Int))
 |0,_,_,_,_,_=>none
 |n_+1,a,b,c,i,out=>ZsK (ZpL n_) a b c i out
def ZxU (n:Nat) (s:((List Int)×(List Int)×Int×Int×(List Int))):Option (Int×(List Int)):=ZpL n s.1 s.2.1 s.2.2.1 s.2.2.2.1 s.2.2.2.2
def Zu9 (rec_:((List Int)×(List Int)×Int×Int×(List Int))→Option (Int×(List Int))) (s:((List Int)×(List Int)×Int×Int×(List Int))):Option (Int×(List Int)):=ZsK (fun a b c i out=>rec_ (a,b,c,i,out)) s.1 s.2.1 s.2.2.1 s.2.2.2.1 s.2.2.2.2
theorem ZzY:∀n s,ZxU (n+1) s=Zu9 (ZxU n) s:=fun _ _=>rfl
def ZrK (a:(List Int)) (b:(List Int)):Option (List Int):=
 (ZpL big a b (0:Int) (0:Int) ([]:(List Int))).bind fun(x0,x1)=>Zwd x0 x1
def ZpC (a:ZnD) (b:ZnD):Option ZnD:=
 bif (a.Neg == b.Neg)then (
  (ZrK a.Words b.Words).bind fun q=>
  (Zn4 a.Neg q).bind fun q_1=>
  some q_1
 )else (
  (ZoO a.Words b.Words).bind fun q_2=>
  bif (decide (q_2≥0))then (
   (ZpX a.Words b.Words).bind fun q_3=>
   (Zn4 a.Neg q_3).bind fun q_4=>
   some q_4
  )else (
   (ZpX b.Words a.Words).bind fun q_5=>
   (Zn4 b.Neg q_5).bind fun q_6=>
   some q_6
  )
 )
def Zpp (a:ZnD):Option ZnD:=
 (Zn4 (!a.Neg) a.Words).bind fun q=>
 some q
def Zsa (t2:Bool) (t2_1:Bool) (n:ZnD) (d:ZnD) (t2_2:(List Int)) (t2_3:(List Int)):Option (ZnA×Bool):=
 (ZpK n d).bind fun q=>
 some (q,true)
def Zus (neg:Bool) (t2:Bool) (t2_1:Bool) (n:ZnD) (d:ZnD) (t2_2:(List Int)) (t2_3:(List Int)):Option (ZnA×Bool):=
 bif neg then (
  (Zpp n).bind fun n_1=>
  Zsa t2 t2_1 n_1 d t2_2 t2_3
 )else (
  Zsa t2 t2_1 n d t2_2 t2_3
 )
def Zsb (rec_:Bool→Bool→Bool→ZnD→ZnD→Str→Nat→(List Int)→(List Int)→Option (Bool×Bool×Bool×ZnD×ZnD×(List Int)×(List Int))) (neg:Bool) (t45:Bool) (t2:Bool) (t2_1:Bool) (n:ZnD) (d:ZnD) (t43:Str) (t43_pos:Nat) (t2_2:(List Int)) (t2_3:(List Int)):Option (Bool×Bool×Bool×ZnD×ZnD×(List Int)×(List Int)):=
 bif t45 then (
  (ZnZ 10).bind fun q=>
  (ZnN d q).bind fun d_1=>
  rec_ neg t2 t2_1 n d_1 t43 t43_pos t2_2 t2_3
 )else (
  some (neg,t2,t2_1,n,d,t2_2,t2_3)
 )
def ZtO (rec_:Bool→Bool→Bool→ZnD→ZnD→Str→Nat→(List Int)→(List Int)→Option (Bool×Bool×Bool×ZnD×ZnD×(List Int)×(List Int))) (neg:Bool) (t2:Bool) (t2_1:Bool) (n:ZnD) (d:ZnD) (t43:Str) (t43_pos:Nat) (t2_2:(List Int)) (t2_3:(List Int)):Option (Bool×Bool×Bool×ZnD×ZnD×(List Int)×(List Int)):=
 bif (decide (t43_pos < t43.length))then (
  Zsb rec_ neg true t2 t2_1 n d t43 (t43_pos+(Utf8.decode ⟨List.toArray t43⟩ t43_pos).2) t2_2 t2_3
 )else (
  Zsb rec_ neg false t2 t2_1 n d t43 t43_pos t2_2 t2_3
 )
def Zqt:Nat→Bool→Bool→Bool→ZnD→ZnD→Str→Nat→(List Int)→(List Int)→Option (Bool×Bool×Bool×ZnD×ZnD×(List Int)×(List Int))
 |0,_,_,_,_,_,_,_,_,_=>none
 |n_+1,neg,t2,t2_1,n,d,t43,t43_pos,t2_2,t2_3=>ZtO (Zqt n_) neg t2 t2_1 n d t43 t43_pos t2_2 t2_3
def ZwG (n:Nat) (s:(Bool×Bool×Bool×ZnD×ZnD×Str×Nat×(List Int)×(List Int))):Option (Bool×Bool×Bool×ZnD×ZnD×(List Int)×(List Int)):=Zqt n s.1 s.2.1 s.2.2.1 s.2.2.2.1 s.2.2.2.2.1 s.2.2.2.2.2.1 s.2.2.2.2.2.2.1 s.2.2.2.2.2.2.2.1 s.2.2.2.2.2.2.2.2
def ZwH (rec_:(Bool×Bool×Bool×ZnD×ZnD×Str×Nat×(List Int)×(List Int))→Option (Bool×Bool×Bool×ZnD×ZnD×(List Int)×(List Int))) (s:(Bool×Bool×Bool×ZnD×ZnD×Str×Nat×(List Int)×(List Int))):Option (Bool×Bool×Bool×ZnD×ZnD×(List Int)×(List Int)):=ZtO (fun neg t2 t2_1 n d t43 t43_pos t2_2 t2_3=>rec_ (neg,t2,t2_1,n,d,t43,t43_pos,t2_2,t2_3)) s.1 s.2.1 s.2.2.1 s.2.2.2.1 s.2.2.2.2.1 s.2.2.2.2.2.1 s.2.2.2.2.2.2.1 s.2.2.2.2.2.2.2.1 s.2.2.2.2.2.2.2.2
theorem Zy9:∀n s,ZwG (n+1) s=ZwH (ZwG n) s:=fun _ _=>rfl
def Zut (neg:Bool) (places:Str) (t2:Bool) (t2_1:Bool) (n:ZnD) (d:ZnD) (t2_2:(List Int)) (t2_3:(List Int)):Option (ZnA×Bool):=
 (Zqt big neg t2 t2_1 n d places 0 t2_2 t2_3).bind fun(x0,x1,x2,x3,x4,x5,x6)=>Zus x0 x1 x2 x3 x4 x5 x6
def Zri (rec_:Bool→Str→Int→Int→Bool→Bool→ZnD→ZnD→(List Int)→(List Int)→(List Int)→Option (Bool×Str×Bool×Bool×ZnD×ZnD×(List Int)×(List Int))) (neg:Bool) (places:Str) (t28:Int) (t29:Int) (t2:Bool) (t2_1:Bool) (n:ZnD) (d:ZnD) (t27:(List Int)) (t2_2:(List Int)) (t2_3:(List Int)):Option (Bool×Str×Bool×Bool×ZnD×ZnD×(List Int)×(List Int)):=
 bif (decide (t29 < t28))then (
  chk (inR t29 (t27.length:Int)) <|
  (t27[(t29).toNat]?).bind fun c=>
  (ZnZ 10).bind fun q=>
  (ZnN n q).bind fun q_1=>
  (ZnZ (IntKind.wrap .i64 (IntKind.wrap .u8 (c - 48)))).bind fun q_2=>
  (ZpC q_1 q_2).bind fun n_1=>
  chk (inK .i64 (t29+1)) <|
  rec_ neg places t28 (t29+1) t2 t2_1 n_1 d t27 t2_2 t2_3
 )else (
  some (neg,places,t2,t2_1,n,d,t2_2,t2_3)
 )
def Zr9:Nat→Bool→Str→Int→Int→Bool→Bool→ZnD→ZnD→(List Int)→(List Int)→(List Int)→Option (Bool×Str×Bool×Bool×ZnD×ZnD×(List Int)×(List Int))
 |0,_,_,_,_,_,_,_,_,_,_,_=>none
 |n_+1,neg,places,t28,t29,t2,t2_1,n,d,t27,t2_2,t2_3=>Zri (Zr9 n_) neg places t28 t29 t2 t2_1 n d t27 t2_2 t2_3
def ZwI (n:Nat) (s:(Bool×Str×Int×Int×Bool×Bool×ZnD×ZnD×(List Int)×(List Int)×(List Int))):Option (Bool×Str×Bool×Bool×ZnD×ZnD×(List Int)×(List Int)):=Zr9 n s.1 s.2.1 s.2.2.1 s.2.2.2.1 s.2.2.2.2.1 s.2.2.2.2.2.1 s.2.2.2.2.2.2.1 s.2.2.2.2.2.2.2.1 s.2.2.2.2.2.2.2.2.1 s.2.2.2.2.2.2.2.2.2.1 s.2.2.2.2.2.2.2.2.2.2
def ZtP (rec_:(Bool×Str×Int×Int×Bool×Bool×ZnD×ZnD×(List Int)×(List Int)×(List Int))→Option (Bool×Str×Bool×Bool×ZnD×ZnD×(List Int)×(List Int))) (s:(Bool×Str×Int×Int×Bool×Bool×ZnD×ZnD×(List Int)×(List Int)×(List Int))):Option (Bool×Str×Bool×Bool×ZnD×ZnD×(List Int)×(List Int)):=Zri (fun neg places t28 t29 t2 t2_1 n d t27 t2_2 t2_3=>rec_ (neg,places,t28,t29,t2,t2_1,n,d,t27,t2_2,t2_3)) s.1 s.2.1 s.2.2.1 s.2.2.2.1 s.2.2.2.2.1 s.2.2.2.2.2.1 s.2.2.2.2.2.2.1 s.2.2.2.2.2.2.2.1 s.2.2.2.2.2.2.2.2.1 s.2.2.2.2.2.2.2.2.2.1 s.2.2.2.2.2.2.2.2.2.2
theorem Zza:∀n s,ZwI (n+1) s=ZtP (ZwI n) s:=fun _ _=>rfl
def Zrq (s:Str):Option (ZnA×Bool):=
 (Zq1 s).bind fun(neg,digits,places,ok)=>
 bif (!ok)then (
  some ((ZnA.mk (ZnD.mk false ([]:(List Int))) (ZnD.mk false ([]:(List Int)))),false)
 )else (
  (ZnZ 1).bind fun d=>
  chk (decide (digits.length+places.length≤Zq)) <|
  chk (decide ((digits++places).length≤281474976710656)) <|
  (Zr9 big neg places (((digits++places).map fun b=>((b.toNat:Nat):Int)).length:Int) (0:Int) false false (ZnD.mk false ([]:(List Int))) d ((digits++places).map fun b=>((b.toNat:Nat):Int)) ([]:(List Int)) ([]:(List Int))).bind fun(x0,x1,x2,x3,x4,x5,x6,x7)=>Zut x0 x1 x2 x3 x4 x5 x6 x7
 )
def ZsB (n:Int) (t4:Bool) (t4_1:Bool) (t4_2:(List Int)) (t4_3:(List Int)):Option (ZnA×Bool):=
 (Zsk n 1).bind fun(f,q)=>
 some (f,true)
def ZsC (kind:Int) (t:Str) (t26:Bool) (t4:Bool) (t4_1:Bool) (t4_2:(List Int)) (t4_3:(List Int)):Option (ZnA×Bool):=
 bif t26 then (
  some ((ZnA.mk (ZnD.mk false ([]:(List Int))) (ZnD.mk false ([]:(List Int)))),false)
 )else (
  bif (kind == 2)then (
   bif (t == ([116,114,117,101]:Str))then (
    ZsB (1:Int) t4 t4_1 t4_2 t4_3
   )else (
    ZsB (0:Int) t4 t4_1 t4_2 t4_3
   )
  )else (
   bif (kind == 5)then (
    (ZuM t).bind fun(y,m,d,q)=>
    (Zvm y m d).bind fun(n,q_1)=>
    ZsB n t4 t4_1 t4_2 t4_3
   )else (
    (Zrq t).bind fun(q_2,q_3)=>
    some (q_2,q_3)
   )
  )
 )
def Zsj (kind:Int) (s:Str):Option (ZnA×Bool):=
 (ZqT kind s).bind fun(t,ok)=>
 bif (!ok)then (
  ZsC kind t true false false ([]:(List Int)) ([]:(List Int))
 )else (
  ZsC kind t (kind == 1) false false ([]:(List Int)) ([]:(List Int))
 )
def ZrN (c:G_api_Cell):Option (ZnA×Bool):=
 bif c.Null then (
  some ((ZnA.mk (ZnD.mk false ([]:(List Int))) (ZnD.mk false ([]:(List Int)))),false)
 )else (
  (Zsj 4 c.Text).bind fun(q,q_1)=>
  some (q,q_1)
 )
def Zp5 (t24:Bool) (f:ZnA):Option Bool:=
 bif t24 then (
  some false
 )else (
  bif ((f.Num.Words.length:Int) == 0)then (
   (ZoO f.Den.Words ([1]:(List Int))).bind fun q=>
   some (q == 0)
  )else (
   (ZrI f.Num.Words f.Den.Words).bind fun q_1=>
   (ZoO q_1 ([1]:(List Int))).bind fun q_2=>
   some (q_2 == 0)
  )
 )
def Zpo (f:ZnA):Option Bool:=
 (Zpd f.Num).bind fun q=>
 bif (!q)then (
  Zp5 true f
 )else (
  (Zpd f.Den).bind fun q_1=>
  bif (!q_1)then (
   Zp5 true f
  )else (
   bif f.Den.Neg then (
    Zp5 true f
   )else (
    Zp5 ((f.Den.Words.length:Int) == 0) f
   )
  )
 )
def Zt4 (t13:Bool) (a:ZnA) (b:ZnA):Option Int:=
 bif t13 then (
  some (0:Int)
 )else (
  (ZnN a.Num b.Den).bind fun q=>
  (ZnN b.Num a.Den).bind fun q_1=>
  (Zpp q_1).bind fun q_2=>
  (ZpC q q_2).bind fun x_=>
  bif ((x_.Words.length:Int) == 0)then (
   some (0:Int)
  )else (
   bif x_.Neg then (
    some (-1:Int)
   )else (
    some (1:Int)
   )
  )
 )
def ZtB (a:ZnA) (b:ZnA):Option Int:=
 (Zpo a).bind fun q=>
 bif (!q)then (
  Zt4 true a b
 )else (
  (Zpo b).bind fun q_1=>
  Zt4 (!q_1) a b
 )
def Zod (a:ZnA) (b:ZnA):Option Bool:=
 (ZtB a b).bind fun q=>
 some (decide (q < 0))
def Zun (out:(List ZnA)):Option (List ZnA):=
 some out
def Zqs (rec_:(List G_api_Cell)→Int→Int→(List ZnA)→Option (List ZnA)) (t10:(List G_api_Cell)) (t11:Int) (t12:Int) (out:(List ZnA)):Option (List ZnA):=
 chk (inK .i64 (t12+1)) <|
 rec_ t10 t11 (t12+1) out
def Zuo (rec_:(List G_api_Cell)→Int→Int→(List ZnA)→Option (List ZnA)) (i:Int) (t10:(List G_api_Cell)) (t11:Int) (t12:Int) (out:(List ZnA)) (f:ZnA):Option (List ZnA):=
 chk (Zb9 0 i (out.length:Int)) <|
 chk (ZiZ ((out.drop 0).take ((i).toNat - 0)).length 64) <|
 chk (ZiZ (((out.drop 0).take ((i).toNat - 0)).length+([f]:(List ZnA)).length) 64) <|
 chk (Zb9 i (out.length:Int) (out.length:Int)) <|
 chk (ZiZ ((((out.drop 0).take ((i).toNat - 0))++([f]:(List ZnA))).length+((out.drop ((i).toNat)).take ((out.length:Int).toNat - (i).toNat)).length) 64) <|
 Zqs rec_ t10 t11 t12 ((((out.drop 0).take ((i).toNat - 0))++([f]:(List ZnA)))++((out.drop ((i).toNat)).take ((out.length:Int).toNat - (i).toNat)))
def Zr5 (rec_:Int→(List G_api_Cell)→Int→Int→(List ZnA)→ZnA→Option (Int×(List G_api_Cell)×Int×Int×(List ZnA)×ZnA)) (i:Int) (t10:(List G_api_Cell)) (t11:Int) (t12:Int) (t35:Bool) (out:(List ZnA)) (f:ZnA):Option (Int×(List G_api_Cell)×Int×Int×(List ZnA)×ZnA):=
 bif t35 then (
  chk (inK .i64 (i - 1)) <|
  rec_ (i - 1) t10 t11 t12 out f
 )else (
  some (i,t10,t11,t12,out,f)
 )
def ZtK (rec_:Int→(List G_api_Cell)→Int→Int→(List ZnA)→ZnA→Option (Int×(List G_api_Cell)×Int×Int×(List ZnA)×ZnA)) (i:Int) (t10:(List G_api_Cell)) (t11:Int) (t12:Int) (out:(List ZnA)) (f:ZnA):Option (Int×(List G_api_Cell)×Int×Int×(List ZnA)×ZnA):=
 bif (decide (i > 0))then (
  chk (inK .i64 (i - 1)) <|
  chk (inR (i - 1) (out.length:Int)) <|
  (out[((i - 1)).toNat]?).bind fun out_e=>
  (Zod f out_e).bind fun q=>
  Zr5 rec_ i t10 t11 t12 q out f
 )else (
  Zr5 rec_ i t10 t11 t12 false out f
 )
def Zqr:Nat→Int→(List G_api_Cell)→Int→Int→(List ZnA)→ZnA→Option (Int×(List G_api_Cell)×Int×Int×(List ZnA)×ZnA)
 |0,_,_,_,_,_,_=>none
 |n_+1,i,t10,t11,t12,out,f=>ZtK (Zqr n_) i t10 t11 t12 out f
def ZwD (n:Nat) (s:(Int×(List G_api_Cell)×Int×Int×(List ZnA)×ZnA)):Option (Int×(List G_api_Cell)×Int×Int×(List ZnA)×ZnA):=Zqr n s.1 s.2.1 s.2.2.1 s.2.2.2.1 s.2.2.2.2.1 s.2.2.2.2.2
def ZwE (rec_:(Int×(List G_api_Cell)×Int×Int×(List ZnA)×ZnA)→Option (Int×(List G_api_Cell)×Int×Int×(List ZnA)×ZnA)) (s:(Int×(List G_api_Cell)×Int×Int×(List ZnA)×ZnA)):Option (Int×(List G_api_Cell)×Int×Int×(List ZnA)×ZnA):=ZtK (fun i t10 t11 t12 out f=>rec_ (i,t10,t11,t12,out,f)) s.1 s.2.1 s.2.2.1 s.2.2.2.1 s.2.2.2.2.1 s.2.2.2.2.2
theorem Zy7:∀n s,ZwD (n+1) s=ZwE (ZwD n) s:=fun _ _=>rfl
def Zrg (rec_:(List G_api_Cell)→Int→Int→(List ZnA)→Option (List ZnA)) (t10:(List G_api_Cell)) (t11:Int) (t12:Int) (out:(List ZnA)):Option (List ZnA):=
 bif (decide (t12 < t11))then (
  (idx t10 t12).bind fun x_=>
  (ZrN x_).bind fun(f,ok)=>
  bif (!ok)then (
   Zqs rec_ t10 t11 t12 out
  )else (
   (Zqr big (out.length:Int) t10 t11 t12 out f).bind fun(x0,x1,x2,x3,x4,x5)=>Zuo rec_ x0 x1 x2 x3 x4 x5
  )
 )else (
  some out
 )
def Zpz:Nat→(List G_api_Cell)→Int→Int→(List ZnA)→Option (List ZnA)
 |0,_,_,_,_=>none
 |n_+1,t10,t11,t12,out=>Zrg (Zpz n_) t10 t11 t12 out
def ZwF (n:Nat) (s:((List G_api_Cell)×Int×Int×(List ZnA))):Option (List ZnA):=Zpz n s.1 s.2.1 s.2.2.1 s.2.2.2
def ZtL (rec_:((List G_api_Cell)×Int×Int×(List ZnA))→Option (List ZnA)) (s:((List G_api_Cell)×Int×Int×(List ZnA))):Option (List ZnA):=Zrg (fun t10 t11 t12 out=>rec_ (t10,t11,t12,out)) s.1 s.2.1 s.2.2.1 s.2.2.2
theorem Zy8:∀n s,ZwF (n+1) s=ZtL (ZwF n) s:=fun _ _=>rfl
def Zqh (c:G_api_Column):Option (List ZnA):=
 (Zpz big c.Cells (c.Cells.length:Int) (0:Int) ([]:(List ZnA))).bind fun x0=>Zun x0
def ZpA:Option ZnA:=
 (ZnY 0).bind fun q=>
 some q
def Zsw (t21:Bool) (t4:Bool) (t4_1:Bool) (f:ZnA) (t4_2:(List Int)) (t4_3:(List Int)):Option (ZnA×Int):=
 bif t21 then (
  some ((ZnA.mk (ZnD.mk false ([]:(List Int))) (ZnD.mk false ([]:(List Int)))),3)
 )else (
  some (f,0)
 )
def ZrS (num:ZnD) (den:ZnD):Option (ZnA×Int):=
 (ZpK num den).bind fun f=>
 bif (decide ((f.Num.Words.length:Int) > 256))then (
  Zsw true false false f ([]:(List Int)) ([]:(List Int))
 )else (
  Zsw (decide ((f.Den.Words.length:Int) > 256)) false false f ([]:(List Int)) ([]:(List Int))
 )
def Zt3 (t13:Bool) (a:ZnA) (b:ZnA) (t4:Bool) (t4_1:Bool) (t4_2:(List Int)) (t4_3:(List Int)):Option (ZnA×Int):=
 bif t13 then (
  some ((ZnA.mk (ZnD.mk false ([]:(List Int))) (ZnD.mk false ([]:(List Int)))),1)
 )else (
  (ZnN a.Num b.Den).bind fun q=>
  (ZnN b.Num a.Den).bind fun q_1=>
  (Zpp q_1).bind fun q_2=>
  (ZpC q q_2).bind fun q_3=>
  (ZnN a.Den b.Den).bind fun q_4=>
  (ZrS q_3 q_4).bind fun(q_5,q_6)=>
  some (q_5,q_6)
 )
def ZtA (a:ZnA) (b:ZnA):Option (ZnA×Int):=
 (Zpo a).bind fun q=>
 bif (!q)then (
  Zt3 true a b false false ([]:(List Int)) ([]:(List Int))
 )else (
  (Zpo b).bind fun q_1=>
  Zt3 (!q_1) a b false false ([]:(List Int)) ([]:(List Int))
 )
def ZrH (a:ZnA) (b:ZnA):Option ZnA:=
 (ZtA a b).bind fun(f,q)=>
 some f
def Ztx (a:ZnA):Option ZnA:=
 (ZpA).bind fun q=>
 (Zod a q).bind fun q_1=>
 bif q_1 then (
  (ZpA).bind fun q_2=>
  (ZrH q_2 a).bind fun q_3=>
  some q_3
 )else (
  some a
 )
def Zua (t4:Bool) (t4_1:Bool) (most:ZnA) (t4_2:(List Int)) (t4_3:(List Int)):Option (ZnA×Int):=
 some (most,0)
def Zub (rec_:(List ZnA)→(List ZnA)→Int→Int→Bool→Bool→ZnA→(List Int)→(List Int)→Option (Bool×Bool×ZnA×(List Int)×(List Int))) (a:(List ZnA)) (b:(List ZnA)) (i:Int) (k:Int) (t4:Bool) (t4_1:Bool) (most:ZnA) (t4_2:(List Int)) (t4_3:(List Int)):Option (Bool×Bool×ZnA×(List Int)×(List Int)):=
 (ZoB i (a.length:Int)).bind fun q=>
 (ZoB k (b.length:Int)).bind fun q_1=>
 (ZrH q q_1).bind fun q_2=>
 (Ztx q_2).bind fun d=>
 (Zod most d).bind fun q_3=>
 bif q_3 then (
  rec_ a b i k t4 t4_1 d t4_2 t4_3
 )else (
  rec_ a b i k t4 t4_1 most t4_2 t4_3
 )
def Zrw (rec_:(List ZnA)→(List ZnA)→Int→Int→Bool→Bool→ZnA→ZnA→(List Int)→(List Int)→Option ((List ZnA)×(List ZnA)×Int×Int×Bool×Bool×ZnA×(List Int)×(List Int))) (a:(List ZnA)) (b:(List ZnA)) (i:Int) (k:Int) (t87:Bool) (t4:Bool) (t4_1:Bool) (most:ZnA) (x_:ZnA) (t4_2:(List Int)) (t4_3:(List Int)):Option ((List ZnA)×(List ZnA)×Int×Int×Bool×Bool×ZnA×(List Int)×(List Int)):=
 bif t87 then (
  chk (inK .i64 (k+1)) <|
  rec_ a b i (k+1) t4 t4_1 most x_ t4_2 t4_3
 )else (
  some (a,b,i,k,t4,t4_1,most,t4_2,t4_3)
 )
def Ztk (rec_:(List ZnA)→(List ZnA)→Int→Int→Bool→Bool→ZnA→ZnA→(List Int)→(List Int)→Option ((List ZnA)×(List ZnA)×Int×Int×Bool×Bool×ZnA×(List Int)×(List Int))) (a:(List ZnA)) (b:(List ZnA)) (i:Int) (k:Int) (t4:Bool) (t4_1:Bool) (most:ZnA) (x_:ZnA) (t4_2:(List Int)) (t4_3:(List Int)):Option ((List ZnA)×(List ZnA)×Int×Int×Bool×Bool×ZnA×(List Int)×(List Int)):=
 bif (decide (k < (b.length:Int)))then (
  (idx b k).bind fun b_e=>
  (Zod x_ b_e).bind fun q=>
  Zrw rec_ a b i k (!q) t4 t4_1 most x_ t4_2 t4_3
 )else (
  Zrw rec_ a b i k false t4 t4_1 most x_ t4_2 t4_3
 )
def Zpm:Nat→(List ZnA)→(List ZnA)→Int→Int→Bool→Bool→ZnA→ZnA→(List Int)→(List Int)→Option ((List ZnA)×(List ZnA)×Int×Int×Bool×Bool×ZnA×(List Int)×(List Int))
 |0,_,_,_,_,_,_,_,_,_,_=>none
 |n_+1,a,b,i,k,t4,t4_1,most,x_,t4_2,t4_3=>Ztk (Zpm n_) a b i k t4 t4_1 most x_ t4_2 t4_3
def Zwl (n:Nat) (s:((List ZnA)×(List ZnA)×Int×Int×Bool×Bool×ZnA×ZnA×(List Int)×(List Int))):Option ((List ZnA)×(List ZnA)×Int×Int×Bool×Bool×ZnA×(List Int)×(List Int)):=Zpm n s.1 s.2.1 s.2.2.1 s.2.2.2.1 s.2.2.2.2.1 s.2.2.2.2.2.1 s.2.2.2.2.2.2.1 s.2.2.2.2.2.2.2.1 s.2.2.2.2.2.2.2.2.1 s.2.2.2.2.2.2.2.2.2
def Zwm (rec_:((List ZnA)×(List ZnA)×Int×Int×Bool×Bool×ZnA×ZnA×(List Int)×(List Int))→Option ((List ZnA)×(List ZnA)×Int×Int×Bool×Bool×ZnA×(List Int)×(List Int))) (s:((List ZnA)×(List ZnA)×Int×Int×Bool×Bool×ZnA×ZnA×(List Int)×(List Int))):Option ((List ZnA)×(List ZnA)×Int×Int×Bool×Bool×ZnA×(List Int)×(List Int)):=Ztk (fun a b i k t4 t4_1 most x_ t4_2 t4_3=>rec_ (a,b,i,k,t4,t4_1,most,x_,t4_2,t4_3)) s.1 s.2.1 s.2.2.1 s.2.2.2.1 s.2.2.2.2.1 s.2.2.2.2.2.1 s.2.2.2.2.2.2.1 s.2.2.2.2.2.2.2.1 s.2.2.2.2.2.2.2.2.1 s.2.2.2.2.2.2.2.2.2
theorem ZyV:∀n s,Zwl (n+1) s=Zwm (Zwl n) s:=fun _ _=>rfl
def Zuc (rec_:(List ZnA)→(List ZnA)→Int→Int→Bool→Bool→ZnA→(List Int)→(List Int)→Option (Bool×Bool×ZnA×(List Int)×(List Int))) (a:(List ZnA)) (b:(List ZnA)) (i:Int) (k:Int) (t4:Bool) (t4_1:Bool) (most:ZnA) (x_:ZnA) (t4_2:(List Int)) (t4_3:(List Int)):Option (Bool×Bool×ZnA×(List Int)×(List Int)):=
 (Zpm big a b i k t4 t4_1 most x_ t4_2 t4_3).bind fun(x0,x1,x2,x3,x4,x5,x6,x7,x8)=>Zub rec_ x0 x1 x2 x3 x4 x5 x6 x7 x8
def Zrx (rec_:(List ZnA)→(List ZnA)→Int→Int→Bool→Bool→ZnA→ZnA→(List Int)→(List Int)→Option ((List ZnA)×(List ZnA)×Int×Int×Bool×Bool×ZnA×ZnA×(List Int)×(List Int))) (a:(List ZnA)) (b:(List ZnA)) (i:Int) (k:Int) (t72:Bool) (t4:Bool) (t4_1:Bool) (most:ZnA) (x_:ZnA) (t4_2:(List Int)) (t4_3:(List Int)):Option ((List ZnA)×(List ZnA)×Int×Int×Bool×Bool×ZnA×ZnA×(List Int)×(List Int)):=
 bif t72 then (
  chk (inK .i64 (i+1)) <|
  rec_ a b (i+1) k t4 t4_1 most x_ t4_2 t4_3
 )else (
  some (a,b,i,k,t4,t4_1,most,x_,t4_2,t4_3)
 )
def Ztl (rec_:(List ZnA)→(List ZnA)→Int→Int→Bool→Bool→ZnA→ZnA→(List Int)→(List Int)→Option ((List ZnA)×(List ZnA)×Int×Int×Bool×Bool×ZnA×ZnA×(List Int)×(List Int))) (a:(List ZnA)) (b:(List ZnA)) (i:Int) (k:Int) (t4:Bool) (t4_1:Bool) (most:ZnA) (x_:ZnA) (t4_2:(List Int)) (t4_3:(List Int)):Option ((List ZnA)×(List ZnA)×Int×Int×Bool×Bool×ZnA×ZnA×(List Int)×(List Int)):=
 bif (decide (i < (a.length:Int)))then (
  (idx a i).bind fun a_e=>
  (Zod x_ a_e).bind fun q=>
  Zrx rec_ a b i k (!q) t4 t4_1 most x_ t4_2 t4_3
 )else (
  Zrx rec_ a b i k false t4 t4_1 most x_ t4_2 t4_3
 )
def Zpn:Nat→(List ZnA)→(List ZnA)→Int→Int→Bool→Bool→ZnA→ZnA→(List Int)→(List Int)→Option ((List ZnA)×(List ZnA)×Int×Int×Bool×Bool×ZnA×ZnA×(List Int)×(List Int))
 |0,_,_,_,_,_,_,_,_,_,_=>none
 |n_+1,a,b,i,k,t4,t4_1,most,x_,t4_2,t4_3=>Ztl (Zpn n_) a b i k t4 t4_1 most x_ t4_2 t4_3
def Zwn (n:Nat) (s:((List ZnA)×(List ZnA)×Int×Int×Bool×Bool×ZnA×ZnA×(List Int)×(List Int))):Option ((List ZnA)×(List ZnA)×Int×Int×Bool×Bool×ZnA×ZnA×(List Int)×(List Int)):=Zpn n s.1 s.2.1 s.2.2.1 s.2.2.2.1 s.2.2.2.2.1 s.2.2.2.2.2.1 s.2.2.2.2.2.2.1 s.2.2.2.2.2.2.2.1 s.2.2.2.2.2.2.2.2.1 s.2.2.2.2.2.2.2.2.2
def Zwo (rec_:((List ZnA)×(List ZnA)×Int×Int×Bool×Bool×ZnA×ZnA×(List Int)×(List Int))→Option ((List ZnA)×(List ZnA)×Int×Int×Bool×Bool×ZnA×ZnA×(List Int)×(List Int))) (s:((List ZnA)×(List ZnA)×Int×Int×Bool×Bool×ZnA×ZnA×(List Int)×(List Int))):Option ((List ZnA)×(List ZnA)×Int×Int×Bool×Bool×ZnA×ZnA×(List Int)×(List Int)):=Ztl (fun a b i k t4 t4_1 most x_ t4_2 t4_3=>rec_ (a,b,i,k,t4,t4_1,most,x_,t4_2,t4_3)) s.1 s.2.1 s.2.2.1 s.2.2.2.1 s.2.2.2.2.1 s.2.2.2.2.2.1 s.2.2.2.2.2.2.1 s.2.2.2.2.2.2.2.1 s.2.2.2.2.2.2.2.2.1 s.2.2.2.2.2.2.2.2.2
theorem ZyW:∀n s,Zwn (n+1) s=Zwo (Zwn n) s:=fun _ _=>rfl
def Zqc (rec_:(List ZnA)→(List ZnA)→Int→Int→Bool→Bool→ZnA→(List Int)→(List Int)→Option (Bool×Bool×ZnA×(List Int)×(List Int))) (a:(List ZnA)) (b:(List ZnA)) (i:Int) (k:Int) (t4:Bool) (t4_1:Bool) (most:ZnA) (x_:ZnA) (t4_2:(List Int)) (t4_3:(List Int)):Option (Bool×Bool×ZnA×(List Int)×(List Int)):=
 (Zpn big a b i k t4 t4_1 most x_ t4_2 t4_3).bind fun(x0,x1,x2,x3,x4,x5,x6,x7,x8,x9)=>Zuc rec_ x0 x1 x2 x3 x4 x5 x6 x7 x8 x9
def Zqd (rec_:(List ZnA)→(List ZnA)→Int→Int→Bool→Bool→ZnA→(List Int)→(List Int)→Option (Bool×Bool×ZnA×(List Int)×(List Int))) (a:(List ZnA)) (b:(List ZnA)) (i:Int) (k:Int) (t51:Bool) (t4:Bool) (t4_1:Bool) (most:ZnA) (x_:Bool) (x__1:Bool) (t4_2:(List Int)) (t4_3:(List Int)) (x__2:(List Int)) (x__3:(List Int)):Option (Bool×Bool×ZnA×(List Int)×(List Int)):=
 bif t51 then (
  (idx a i).bind fun x__4=>
  Zqc rec_ a b i k t4 t4_1 most x__4 t4_2 t4_3
 )else (
  (idx b k).bind fun x__5=>
  Zqc rec_ a b i k t4 t4_1 most x__5 t4_2 t4_3
 )
def Zry (rec_:(List ZnA)→(List ZnA)→Int→Int→Bool→Bool→ZnA→(List Int)→(List Int)→Option (Bool×Bool×ZnA×(List Int)×(List Int))) (a:(List ZnA)) (b:(List ZnA)) (i:Int) (k:Int) (t30:Bool) (t4:Bool) (t4_1:Bool) (most:ZnA) (t4_2:(List Int)) (t4_3:(List Int)):Option (Bool×Bool×ZnA×(List Int)×(List Int)):=
 bif t30 then (
  bif (k == (b.length:Int))then (
   Zqd rec_ a b i k true t4 t4_1 most false false t4_2 t4_3 ([]:(List Int)) ([]:(List Int))
  )else (
   bif (decide (i < (a.length:Int)))then (
    (idx a i).bind fun a_e=>
    (idx b k).bind fun b_e=>
    (Zod a_e b_e).bind fun q=>
    Zqd rec_ a b i k q t4 t4_1 most false false t4_2 t4_3 ([]:(List Int)) ([]:(List Int))
   )else (
    Zqd rec_ a b i k false t4 t4_1 most false false t4_2 t4_3 ([]:(List Int)) ([]:(List Int))
   )
  )
 )else (
  some (t4,t4_1,most,t4_2,t4_3)
 )
def Ztm (rec_:(List ZnA)→(List ZnA)→Int→Int→Bool→Bool→ZnA→(List Int)→(List Int)→Option (Bool×Bool×ZnA×(List Int)×(List Int))) (a:(List ZnA)) (b:(List ZnA)) (i:Int) (k:Int) (t4:Bool) (t4_1:Bool) (most:ZnA) (t4_2:(List Int)) (t4_3:(List Int)):Option (Bool×Bool×ZnA×(List Int)×(List Int)):=
 bif (decide (i < (a.length:Int)))then (
  Zry rec_ a b i k true t4 t4_1 most t4_2 t4_3
 )else (
  Zry rec_ a b i k (decide (k < (b.length:Int))) t4 t4_1 most t4_2 t4_3
 )
def Zn2:Nat→(List ZnA)→(List ZnA)→Int→Int→Bool→Bool→ZnA→(List Int)→(List Int)→Option (Bool×Bool×ZnA×(List Int)×(List Int))
 |0,_,_,_,_,_,_,_,_,_=>none
 |n_+1,a,b,i,k,t4,t4_1,most,t4_2,t4_3=>Ztm (Zn2 n_) a b i k t4 t4_1 most t4_2 t4_3
def Zwp (n:Nat) (s:((List ZnA)×(List ZnA)×Int×Int×Bool×Bool×ZnA×(List Int)×(List Int))):Option (Bool×Bool×ZnA×(List Int)×(List Int)):=Zn2 n s.1 s.2.1 s.2.2.1 s.2.2.2.1 s.2.2.2.2.1 s.2.2.2.2.2.1 s.2.2.2.2.2.2.1 s.2.2.2.2.2.2.2.1 s.2.2.2.2.2.2.2.2
def Zwq (rec_:((List ZnA)×(List ZnA)×Int×Int×Bool×Bool×ZnA×(List Int)×(List Int))→Option (Bool×Bool×ZnA×(List Int)×(List Int))) (s:((List ZnA)×(List ZnA)×Int×Int×Bool×Bool×ZnA×(List Int)×(List Int))):Option (Bool×Bool×ZnA×(List Int)×(List Int)):=Ztm (fun a b i k t4 t4_1 most t4_2 t4_3=>rec_ (a,b,i,k,t4,t4_1,most,t4_2,t4_3)) s.1 s.2.1 s.2.2.1 s.2.2.2.1 s.2.2.2.2.1 s.2.2.2.2.2.1 s.2.2.2.2.2.2.1 s.2.2.2.2.2.2.2.1 s.2.2.2.2.2.2.2.2
theorem ZyX:∀n s,Zwp (n+1) s=Zwq (Zwp n) s:=fun _ _=>rfl
def Zqe (a:(List ZnA)) (b:(List ZnA)) (t18:Bool) (t4:Bool) (t4_1:Bool) (t4_2:(List Int)) (t4_3:(List Int)):Option (ZnA×Int):=
 bif t18 then (
  some ((ZnA.mk (ZnD.mk false ([]:(List Int))) (ZnD.mk false ([]:(List Int)))),5)
 )else (
  (ZpA).bind fun most=>
  (Zn2 big a b (0:Int) (0:Int) t4 t4_1 most t4_2 t4_3).bind fun(x0,x1,x2,x3,x4)=>Zua x0 x1 x2 x3 x4
 )
def Zpc (a:(List ZnA)) (b:(List ZnA)):Option (ZnA×Int):=
 bif ((a.length:Int) == 0)then (
  Zqe a b true false false ([]:(List Int)) ([]:(List Int))
 )else (
  Zqe a b ((b.length:Int) == 0) false false ([]:(List Int)) ([]:(List Int))
 )
def Zt8:Option Bool:=
 some true
def Zq3 (rec_:(List ZnA)→(List ZnA)→Int→Int→Option (Out Unit Bool)) (b:(List ZnA)) (t12:(List ZnA)) (t13:Int) (i:Int):Option (Out Unit Bool):=
 bif (decide (i < t13))then (
  (idx t12 i).bind fun f=>
  (idx b i).bind fun b_e=>
  (Zoc f b_e).bind fun q=>
  bif (!q)then (
   some (.ret false)
  )else (
   chk (inK .i64 (i+1)) <|
   rec_ b t12 t13 (i+1)
  )
 )else (
  some (.brk ())
 )
def Zru:Nat→(List ZnA)→(List ZnA)→Int→Int→Option (Out Unit Bool)
 |0,_,_,_,_=>none
 |n_+1,b,t12,t13,i=>Zq3 (Zru n_) b t12 t13 i
def Zwk (n:Nat) (s:((List ZnA)×(List ZnA)×Int×Int)):Option (Out Unit Bool):=Zru n s.1 s.2.1 s.2.2.1 s.2.2.2
def Ztj (rec_:((List ZnA)×(List ZnA)×Int×Int)→Option (Out Unit Bool)) (s:((List ZnA)×(List ZnA)×Int×Int)):Option (Out Unit Bool):=Zq3 (fun b t12 t13 i=>rec_ (b,t12,t13,i)) s.1 s.2.1 s.2.2.1 s.2.2.2
theorem ZyU:∀n s,Zwk (n+1) s=Ztj (Zwk n) s:=fun _ _=>rfl
def Zp2 (a:(List ZnA)) (b:(List ZnA)):Option Bool:=
 bif ((a.length:Int) != (b.length:Int))then (
  some false
 )else (
  (Zru big b a (a.length:Int) (0:Int)).bind fun
   | .ret q_=>some q_
   | .brk ()=>Zt8
 )
def Zyt (a:(List ZnA)) (n:Int) (t4:Bool) (t4_1:Bool) (t4_2:(List Int)) (t4_3:(List Int)):Option ZnA:=
 (ZBm n (a.length:Int)).bind fun q=>
 some q
def Zwr (rec_:(List ZnA)→(List ZnA)→Int→(List ZnA)→Int→Int→Bool→Bool→(List Int)→(List Int)→Option ((List ZnA)×Int×Bool×Bool×(List Int)×(List Int))) (a:(List ZnA)) (b:(List ZnA)) (n:Int) (t17:(List ZnA)) (t18:Int) (t19:Int) (t4:Bool) (t4_1:Bool) (t4_2:(List Int)) (t4_3:(List Int)):Option ((List ZnA)×Int×Bool×Bool×(List Int)×(List Int)):=
 chk (inK .i64 (t19+1)) <|
 rec_ a b n t17 t18 (t19+1) t4 t4_1 t4_2 t4_3
def Zws (rec_:(List ZnA)→(List ZnA)→Int→(List ZnA)→Int→Int→Bool→Bool→(List Int)→(List Int)→Option ((List ZnA)×Int×Bool×Bool×(List Int)×(List Int))) (a:(List ZnA)) (b:(List ZnA)) (n:Int) (t17:(List ZnA)) (t18:Int) (t19:Int) (t39:Bool) (t4:Bool) (t4_1:Bool) (t4_2:(List Int)) (t4_3:(List Int)):Option ((List ZnA)×Int×Bool×Bool×(List Int)×(List Int)):=
 bif t39 then (
  chk (inK .i64 (n+1)) <|
  Zwr rec_ a b (n+1) t17 t18 t19 t4 t4_1 t4_2 t4_3
 )else (
  Zwr rec_ a b n t17 t18 t19 t4 t4_1 t4_2 t4_3
 )
def Zvo (rec_:(List ZnA)→(List ZnA)→Int→(List ZnA)→Int→Int→Bool→Bool→(List Int)→(List Int)→Option ((List ZnA)×Int×Bool×Bool×(List Int)×(List Int))) (a:(List ZnA)) (b:(List ZnA)) (n:Int) (t17:(List ZnA)) (t18:Int) (t19:Int) (t4:Bool) (t4_1:Bool) (t4_2:(List Int)) (t4_3:(List Int)):Option ((List ZnA)×Int×Bool×Bool×(List Int)×(List Int)):=
 bif (decide (t19 < t18))then (
  (idx t17 t19).bind fun x_=>
  (idx b 0).bind fun b_e=>
  (Zob x_ b_e).bind fun q=>
  bif (decide (q≥0))then (
   chk (inK .i64 ((b.length:Int) - 1)) <|
   (idx b ((b.length:Int) - 1)).bind fun b_e_1=>
   (Zob x_ b_e_1).bind fun q_1=>
   Zws rec_ a b n t17 t18 t19 (decide (q_1≤0)) t4 t4_1 t4_2 t4_3
  )else (
   Zws rec_ a b n t17 t18 t19 false t4 t4_1 t4_2 t4_3
  )
 )else (
  some (a,n,t4,t4_1,t4_2,t4_3)
 )
def Zta:Nat→(List ZnA)→(List ZnA)→Int→(List ZnA)→Int→Int→Bool→Bool→(List Int)→(List Int)→Option ((List ZnA)×Int×Bool×Bool×(List Int)×(List Int))
 |0,_,_,_,_,_,_,_,_,_,_=>none
 |n_+1,a,b,n,t17,t18,t19,t4,t4_1,t4_2,t4_3=>Zvo (Zta n_) a b n t17 t18 t19 t4 t4_1 t4_2 t4_3
def Zzc (n:Nat) (s:((List ZnA)×(List ZnA)×Int×(List ZnA)×Int×Int×Bool×Bool×(List Int)×(List Int))):Option ((List ZnA)×Int×Bool×Bool×(List Int)×(List Int)):=Zta n s.1 s.2.1 s.2.2.1 s.2.2.2.1 s.2.2.2.2.1 s.2.2.2.2.2.1 s.2.2.2.2.2.2.1 s.2.2.2.2.2.2.2.1 s.2.2.2.2.2.2.2.2.1 s.2.2.2.2.2.2.2.2.2
def Zxs (rec_:((List ZnA)×(List ZnA)×Int×(List ZnA)×Int×Int×Bool×Bool×(List Int)×(List Int))→Option ((List ZnA)×Int×Bool×Bool×(List Int)×(List Int))) (s:((List ZnA)×(List ZnA)×Int×(List ZnA)×Int×Int×Bool×Bool×(List Int)×(List Int))):Option ((List ZnA)×Int×Bool×Bool×(List Int)×(List Int)):=Zvo (fun a b n t17 t18 t19 t4 t4_1 t4_2 t4_3=>rec_ (a,b,n,t17,t18,t19,t4,t4_1,t4_2,t4_3)) s.1 s.2.1 s.2.2.1 s.2.2.2.1 s.2.2.2.2.1 s.2.2.2.2.2.1 s.2.2.2.2.2.2.1 s.2.2.2.2.2.2.2.1 s.2.2.2.2.2.2.2.2.1 s.2.2.2.2.2.2.2.2.2
theorem ZAP:∀n s,Zzc (n+1) s=Zxs (Zzc n) s:=fun _ _=>rfl
def ZuD (a:(List ZnA)) (b:(List ZnA)) (t15:Bool) (t4:Bool) (t4_1:Bool) (t4_2:(List Int)) (t4_3:(List Int)):Option ZnA:=
 bif t15 then (
  (Zzh).bind fun q=>
  some q
 )else (
  (Zta big a b (0:Int) a (a.length:Int) (0:Int) t4 t4_1 t4_2 t4_3).bind fun(x0,x1,x2,x3,x4,x5)=>Zyt x0 x1 x2 x3 x4 x5
 )
def ZtQ (a:(List ZnA)) (b:(List ZnA)):Option ZnA:=
 bif ((a.length:Int) == 0)then (
  ZuD a b true false false ([]:(List Int)) ([]:(List Int))
 )else (
  ZuD a b ((b.length:Int) == 0) false false ([]:(List Int)) ([]:(List Int))
 )
def ZuG (a:(List ZnA)) (n:Int) (t4:Bool) (t4_1:Bool) (t4_2:(List Int)) (t4_3:(List Int)):Option ZnA:=
 (ZoB n (a.length:Int)).bind fun q=>
 some q
def Zsp (rec_:(List ZnA)→(List ZnA)→Int→(List ZnA)→Int→Int→Bool→Bool→(List Int)→(List Int)→Option ((List ZnA)×Int×Bool×Bool×(List Int)×(List Int))) (a:(List ZnA)) (b:(List ZnA)) (n:Int) (t17:(List ZnA)) (t18:Int) (t19:Int) (t4:Bool) (t4_1:Bool) (t4_2:(List Int)) (t4_3:(List Int)):Option ((List ZnA)×Int×Bool×Bool×(List Int)×(List Int)):=
 chk (inK .i64 (t19+1)) <|
 rec_ a b n t17 t18 (t19+1) t4 t4_1 t4_2 t4_3
def Zsq (rec_:(List ZnA)→(List ZnA)→Int→(List ZnA)→Int→Int→Bool→Bool→(List Int)→(List Int)→Option ((List ZnA)×Int×Bool×Bool×(List Int)×(List Int))) (a:(List ZnA)) (b:(List ZnA)) (n:Int) (t17:(List ZnA)) (t18:Int) (t19:Int) (t39:Bool) (t4:Bool) (t4_1:Bool) (t4_2:(List Int)) (t4_3:(List Int)):Option ((List ZnA)×Int×Bool×Bool×(List Int)×(List Int)):=
 bif t39 then (
  chk (inK .i64 (n+1)) <|
  Zsp rec_ a b (n+1) t17 t18 t19 t4 t4_1 t4_2 t4_3
 )else (
  Zsp rec_ a b n t17 t18 t19 t4 t4_1 t4_2 t4_3
 )
def Zrv (rec_:(List ZnA)→(List ZnA)→Int→(List ZnA)→Int→Int→Bool→Bool→(List Int)→(List Int)→Option ((List ZnA)×Int×Bool×Bool×(List Int)×(List Int))) (a:(List ZnA)) (b:(List ZnA)) (n:Int) (t17:(List ZnA)) (t18:Int) (t19:Int) (t4:Bool) (t4_1:Bool) (t4_2:(List Int)) (t4_3:(List Int)):Option ((List ZnA)×Int×Bool×Bool×(List Int)×(List Int)):=
 bif (decide (t19 < t18))then (
  (idx t17 t19).bind fun x_=>
  (idx b 0).bind fun b_e=>
  (Zod x_ b_e).bind fun q=>
  bif (!q)then (
   chk (inK .i64 ((b.length:Int) - 1)) <|
   (idx b ((b.length:Int) - 1)).bind fun b_e_1=>
   (Zod b_e_1 x_).bind fun q_1=>
   Zsq rec_ a b n t17 t18 t19 (!q_1) t4 t4_1 t4_2 t4_3
  )else (
   Zsq rec_ a b n t17 t18 t19 false t4 t4_1 t4_2 t4_3
  )
 )else (
  some (a,n,t4,t4_1,t4_2,t4_3)
 )
def ZpO:Nat→(List ZnA)→(List ZnA)→Int→(List ZnA)→Int→Int→Bool→Bool→(List Int)→(List Int)→Option ((List ZnA)×Int×Bool×Bool×(List Int)×(List Int))
 |0,_,_,_,_,_,_,_,_,_,_=>none
 |n_+1,a,b,n,t17,t18,t19,t4,t4_1,t4_2,t4_3=>Zrv (ZpO n_) a b n t17 t18 t19 t4 t4_1 t4_2 t4_3
def Zw0 (n:Nat) (s:((List ZnA)×(List ZnA)×Int×(List ZnA)×Int×Int×Bool×Bool×(List Int)×(List Int))):Option ((List ZnA)×Int×Bool×Bool×(List Int)×(List Int)):=ZpO n s.1 s.2.1 s.2.2.1 s.2.2.2.1 s.2.2.2.2.1 s.2.2.2.2.2.1 s.2.2.2.2.2.2.1 s.2.2.2.2.2.2.2.1 s.2.2.2.2.2.2.2.2.1 s.2.2.2.2.2.2.2.2.2
def Zt9 (rec_:((List ZnA)×(List ZnA)×Int×(List ZnA)×Int×Int×Bool×Bool×(List Int)×(List Int))→Option ((List ZnA)×Int×Bool×Bool×(List Int)×(List Int))) (s:((List ZnA)×(List ZnA)×Int×(List ZnA)×Int×Int×Bool×Bool×(List Int)×(List Int))):Option ((List ZnA)×Int×Bool×Bool×(List Int)×(List Int)):=Zrv (fun a b n t17 t18 t19 t4 t4_1 t4_2 t4_3=>rec_ (a,b,n,t17,t18,t19,t4,t4_1,t4_2,t4_3)) s.1 s.2.1 s.2.2.1 s.2.2.2.1 s.2.2.2.2.1 s.2.2.2.2.2.1 s.2.2.2.2.2.2.1 s.2.2.2.2.2.2.2.1 s.2.2.2.2.2.2.2.2.1 s.2.2.2.2.2.2.2.2.2
theorem Zze:∀n s,Zw0 (n+1) s=Zt9 (Zw0 n) s:=fun _ _=>rfl
def ZqP (a:(List ZnA)) (b:(List ZnA)) (t15:Bool) (t4:Bool) (t4_1:Bool) (t4_2:(List Int)) (t4_3:(List Int)):Option ZnA:=
 bif t15 then (
  (ZpA).bind fun q=>
  some q
 )else (
  (ZpO big a b (0:Int) a (a.length:Int) (0:Int) t4 t4_1 t4_2 t4_3).bind fun(x0,x1,x2,x3,x4,x5)=>ZuG x0 x1 x2 x3 x4 x5
 )
def ZpI (a:(List ZnA)) (b:(List ZnA)):Option ZnA:=
 bif ((a.length:Int) == 0)then (
  ZqP a b true false false ([]:(List Int)) ([]:(List Int))
 )else (
  ZqP a b ((b.length:Int) == 0) false false ([]:(List Int)) ([]:(List Int))
 )
def Zrt:Option Bool:=
 (Zq2).bind fun q=>
 some q
def Zn1 (rec_:Int→Int→(List ZnJ)→Option (Out Unit Bool)) (t51:Int) (t52:Int) (t110:Bool) (t50:(List ZnJ)):Option (Out Unit Bool):=
 bif t110 then (
  some (.ret false)
 )else (
  chk (inK .i64 (t52+1)) <|
  rec_ t51 (t52+1) t50
 )
def ZpD (rec_:Int→Int→(List ZnJ)→Option (Out Unit Bool)) (t51:Int) (t52:Int) (t50:(List ZnJ)):Option (Out Unit Bool):=
 bif (decide (t52 < t51))then (
  chk (inR t52 (t50.length:Int)) <|
  (t50[(t52).toNat]?).bind fun p=>
  chk (inR 0 2) <|
  (ZrF p.e0).bind fun x_=>
  chk (inR 1 2) <|
  (ZrF p.e1).bind fun y=>
  chk (inR 0 2) <|
  (Zqh p.e0).bind fun u=>
  chk (inR 1 2) <|
  (Zqh p.e1).bind fun v_=>
  (Zpf u v_).bind fun(m,e)=>
  (Zpc u v_).bind fun(n,f)=>
  (Zp2 x_ u).bind fun q=>
  bif (!q)then (
   Zn1 rec_ t51 t52 true t50
  )else (
   (Zp2 y v_).bind fun q_1=>
   bif (!q_1)then (
    Zn1 rec_ t51 t52 true t50
   )else (
    (Zoc m n).bind fun q_2=>
    bif (!q_2)then (
     Zn1 rec_ t51 t52 true t50
    )else (
     bif (e != f)then (
      Zn1 rec_ t51 t52 true t50
     )else (
      (ZtQ u v_).bind fun q_3=>
      (ZpI u v_).bind fun q_4=>
      (Zoc q_3 q_4).bind fun q_5=>
      Zn1 rec_ t51 t52 (!q_5) t50
     )
    )
   )
  )
 )else (
  some (.brk ())
 )
def Zou:Nat→Int→Int→(List ZnJ)→Option (Out Unit Bool)
 |0,_,_,_=>none
 |n_+1,t51,t52,t50=>ZpD (Zou n_) t51 t52 t50
def Zuf (n:Nat) (s:(Int×Int×(List ZnJ))):Option (Out Unit Bool):=Zou n s.1 s.2.1 s.2.2
def Zrd (rec_:(Int×Int×(List ZnJ))→Option (Out Unit Bool)) (s:(Int×Int×(List ZnJ))):Option (Out Unit Bool):=ZpD (fun t51 t52 t50=>rec_ (t51,t52,t50)) s.1 s.2.1 s.2.2
theorem ZxN:∀n s,Zuf (n+1) s=Zrd (Zuf n) s:=fun _ _=>rfl
def Zov (t:(List Int)) (t32:Bool) (a:G_api_Column) (b:G_api_Column):Option Bool:=
 bif t32 then (
  (Zq2).bind fun q=>
  some q
 )else (
  (ZvM t).bind fun d=>
  (Zqi d 8).bind fun(q_1,t39)=>
  (Zof t39 9).bind fun(q_2,t42)=>
  (Zqi t42 q_2).bind fun(q_3,t41)=>
  (Zqi t41 6).bind fun(q_4,t47)=>
  (Zou big (([(ZnJ.mk a b),(ZnJ.mk q_1 q_3),(ZnJ.mk a q_4)]:(List ZnJ)).length:Int) (0:Int) ([(ZnJ.mk a b),(ZnJ.mk q_1 q_3),(ZnJ.mk a q_4)]:(List ZnJ))).bind fun
   | .ret q_=>some q_
   | .brk ()=>Zrt
 )
def Zqw (a:G_api_Column) (b:G_api_Column) (t:(List Int)):Option Bool:=
 bif (decide ((a.Cells.length:Int) > 60))then (
  Zov t true a b
 )else (
  bif (decide ((b.Cells.length:Int) > 60))then (
   Zov t true a b
  )else (
   (Zvn t).bind fun q=>
   Zov t (!q) a b
  )
 )
end
end Go.Proofs

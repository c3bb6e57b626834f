/- Printed by wip/tools/tgen.py: specs. -/
import Derived.Test.YthefajbigloihaaGreatDoorE4
import Derived.Lib.Bytealg
import Derived.Lib.ItoaNum
import Derived.Lib.LaidU8
import Derived.Lib.SlTrimSet
import Derived.Shelf.Strconv.Itoa3
import Derived.Test.YthefajbigloihaaGreatDoorQoWD
set_option linter.unusedVariables false
set_option linter.unusedSimpArgs false
set_option linter.unusedSectionVars false
namespace Go.Proofs
open Go Eng
set_option maxRecDepth 100000
noncomputable section
structure ZnK where
 Neg:Bool
 Words:(List Int)
 deriving DecidableEq,Inhabited
structure ZnC where
 Num:ZnK
 Den:ZnK
 deriving DecidableEq,Inhabited
structure ZnQ where
 Null:Bool
 Text:Str
 deriving DecidableEq,Inhabited
structure ZnO where
 Name:Str
 Cells:(List ZnQ)
 deriving DecidableEq,Inhabited
structure ZpR where
 word:Str
 canonical:(Option Nat)
 value:(Option Nat)
 deriving DecidableEq,Inhabited
structure ZnA where
 l:(List Int)
 at_:Int
 deriving DecidableEq,Inhabited
structure ZnB where
 ID:Int
 Name:Str
 Columns:(List ZnO)
 deriving DecidableEq,Inhabited
structure ZnP where
 Kind:Int
 Column:Int
 Text:Str
 Columns:(List Int)
 deriving DecidableEq,Inhabited
structure ZnF where
 lo:Int
 hi:Int
 deriving DecidableEq,Inhabited
structure ZqW where
 Table:Int
 Column:Int
 deriving DecidableEq,Inhabited
structure Zpm where
 Ref:ZqW
 Score:ZnC
 deriving DecidableEq,Inhabited
abbrev Zwn:Type:={l:List Int // l.length=256}
structure Zoh where
 e0:ZnF
 e1:ZnF
 e2:ZnF
 e3:ZnF
 e4:ZnF
 e5:ZnF
 e6:ZnF
 e7:ZnF
 e8:ZnF
 e9:ZnF
 e10:ZnF
 e11:ZnF
 e12:ZnF
 e13:ZnF
 e14:ZnF
 e15:ZnF
 deriving DecidableEq,Inhabited
def Zz5:Nat→Type
 |0=>ZnK
 |1=>ZnC
 |2=>ZnQ
 |3=>ZnO
 |4=>ZpR
 |5=>ZnA
 |6=>ZnB
 |7=>ZnP
 |8=>ZnF
 |9=>ZqW
 |10=>Zpm
 |11=>Zwn
 |12=>Zoh
 |_=>Unit
def ZNl:Nat→Nat
 |0=>2
 |1=>4
 |2=>2
 |3=>2
 |4=>3
 |5=>2
 |6=>3
 |7=>4
 |8=>2
 |9=>2
 |10=>6
 |11=>256
 |12=>32
 |_=>0
def ZDH:List (Lf Zz5):=[⟨.sl (.int .u32),([1]:List Int)⟩]
def ZAe:List (Lf Zz5):=(Lib.pow10Tab.map fun n=>⟨.int .u64,n⟩)
def ZC1:List (Lf Zz5):=(Lib.firstTab.map fun n=>⟨.int .u8,n⟩)
def Zyu:List (Lf Zz5):=[⟨.int .u8,(128:Int)⟩,⟨.int .u8,(191:Int)⟩,⟨.int .u8,(160:Int)⟩,⟨.int .u8,(191:Int)⟩,⟨.int .u8,(128:Int)⟩,⟨.int .u8,(159:Int)⟩,⟨.int .u8,(144:Int)⟩,⟨.int .u8,(191:Int)⟩,⟨.int .u8,(128:Int)⟩,⟨.int .u8,(143:Int)⟩,⟨.int .u8,(0:Int)⟩,⟨.int .u8,(0:Int)⟩,⟨.int .u8,(0:Int)⟩,⟨.int .u8,(0:Int)⟩,⟨.int .u8,(0:Int)⟩,⟨.int .u8,(0:Int)⟩,⟨.int .u8,(0:Int)⟩,⟨.int .u8,(0:Int)⟩,⟨.int .u8,(0:Int)⟩,⟨.int .u8,(0:Int)⟩,⟨.int .u8,(0:Int)⟩,⟨.int .u8,(0:Int)⟩,⟨.int .u8,(0:Int)⟩,⟨.int .u8,(0:Int)⟩,⟨.int .u8,(0:Int)⟩,⟨.int .u8,(0:Int)⟩,⟨.int .u8,(0:Int)⟩,⟨.int .u8,(0:Int)⟩,⟨.int .u8,(0:Int)⟩,⟨.int .u8,(0:Int)⟩,⟨.int .u8,(0:Int)⟩,⟨.int .u8,(0:Int)⟩]
abbrev ZnG:Type:=List Int
abbrev ZnN:Type:=List Zpm
abbrev ZnU:Type:=List ZnO
abbrev ZoK:Type:=List ZnC
abbrev ZrS:Type:=List ZnB
abbrev Zxz:Type:=List ZnQ
def Zwq (t:ZnG):Option Bool:=
 some (decide ((t.length:Int)≤500))
def ZzG (w_:ZnG):Option ZnG:=
 some w_
def ZwD (rec_:ZnG→Option ZnG) (w_:ZnG) (t14:Bool):Option ZnG:=
 bif t14 then (
  chk (inK .i64 ((w_.length:Int) - 1)) <|
  chk (Zb9 0 ((w_.length:Int) - 1) (w_.length:Int)) <|
  rec_ (w_.take (((w_.length:Int) - 1)).toNat)
 )else (
  some w_
 )
def ZyB (rec_:ZnG→Option ZnG) (w_:ZnG):Option ZnG:=
 bif (decide ((w_.length:Int) > 0))then (
  chk (inK .i64 ((w_.length:Int) - 1)) <|
  (idx w_ ((w_.length:Int) - 1)).bind fun w__e=>
  ZwD rec_ w_ (w__e == 0)
 )else (
  ZwD rec_ w_ false
 )
def Zpq:Nat→ZnG→Option ZnG
 |0,_=>none
 |n_+1,w_=>ZyB (Zpq n_) w_
def Zoi (w_:ZnG):Option ZnG:=
 (Zpq big w_).bind fun x0=>ZzG x0
def ZuB (t4:ZnK):Option ZnK:=
 some t4
def Zn4 (neg:Bool) (w_:ZnG):Option ZnK:=
 (Zoi w_).bind fun w__1=>
 bif neg then (
  ZuB (ZnK.mk (decide ((w__1.length:Int) > 0)) w__1)
 )else (
  ZuB (ZnK.mk false w__1)
 )
def ZsC (n:Int) (u:Int) (t2:Bool) (t2_1:ZnG):Option ZnK:=
 chk (decide (0≤(32:Int))) <|
 (Zn4 (decide (n < 0)) ([(IntKind.wrap .u32 u),(IntKind.wrap .u32 (shrK .u64 u 32))]:ZnG)).bind fun q=>
 some q
def Zpr (n:Int):Option ZnK:=
 bif (decide (n < 0))then (
  ZsC n (IntKind.wrap .u64 (0 - (IntKind.wrap .u64 n))) false ([]:ZnG)
 )else (
  ZsC n (IntKind.wrap .u64 n) false ([]:ZnG)
 )
def ZoH (t2:Bool):Option Bool:=
 some t2
def Zo6 (a:ZnK):Option Bool:=
 bif (decide ((a.Words.length:Int)≤256))then (
  bif ((a.Words.length:Int) == 0)then (
   bif (!a.Neg)then (
    ZoH true
   )else (
    bif (decide ((a.Words.length:Int) > 0))then (
     chk (inK .i64 ((a.Words.length:Int) - 1)) <|
     (idx a.Words ((a.Words.length:Int) - 1)).bind fun Word=>
     ZoH (Word != 0)
    )else (
     ZoH false
    )
   )
  )else (
   bif (decide ((a.Words.length:Int) > 0))then (
    chk (inK .i64 ((a.Words.length:Int) - 1)) <|
    (idx a.Words ((a.Words.length:Int) - 1)).bind fun Word_1=>
    ZoH (Word_1 != 0)
   )else (
    ZoH false
   )
  )
 )else (
  ZoH false
 )
def ZwE (out:ZnG):Option ZnG:=
 (Zoi out).bind fun q=>
 some q
def Zrz (rec_:ZnG→Int→Int→ZnG→Option ZnG) (a:ZnG) (t9:Int) (i:Int) (out:ZnG):Option ZnG:=
 chk (inK .i64 (i+1)) <|
 rec_ a t9 (i+1) out
def Zs3 (rec_:ZnG→Int→Int→ZnG→Option ZnG) (a:ZnG) (t9:Int) (i:Int) (out:ZnG):Option ZnG:=
 bif (decide (i < t9))then (
  chk (inR i (out.length:Int)) <|
  (out[(i).toNat]?).bind fun out_e=>
  chk (decide (0≤(1:Int))) <|
  chk (inR i (out.length:Int)) <|
  chk (inK .i64 (i+1)) <|
  bif (decide ((i+1) < (a.length:Int)))then (
   chk (inR i ((out.set ((i).toNat) (shrK .u32 out_e 1)).length:Int)) <|
   ((out.set ((i).toNat) (shrK .u32 out_e 1))[(i).toNat]?).bind fun e_e=>
   chk (inK .i64 (i+1)) <|
   (idx a (i+1)).bind fun a_e=>
   chk (decide (0≤(31:Int))) <|
   chk (inR i ((out.set ((i).toNat) (shrK .u32 out_e 1)).length:Int)) <|
   Zrz rec_ a t9 i ((out.set ((i).toNat) (shrK .u32 out_e 1)).set ((i).toNat) (orK .u32 e_e (shlK .u32 a_e 31)))
  )else (
   Zrz rec_ a t9 i (out.set ((i).toNat) (shrK .u32 out_e 1))
  )
 )else (
  some out
 )
def Zry:Nat→ZnG→Int→Int→ZnG→Option ZnG
 |0,_,_,_,_=>none
 |n_+1,a,t9,i,out=>Zs3 (Zry n_) a t9 i out
def ZyC (n:Nat) (s:(ZnG×Int×Int×ZnG)):Option ZnG:=Zry n s.1 s.2.1 s.2.2.1 s.2.2.2
def ZvJ (rec_:(ZnG×Int×Int×ZnG)→Option ZnG) (s:(ZnG×Int×Int×ZnG)):Option ZnG:=Zs3 (fun a t9 i out=>rec_ (a,t9,i,out)) s.1 s.2.1 s.2.2.1 s.2.2.2
theorem ZBg:∀n s,ZyC (n+1) s=ZvJ (ZyC n) s:=fun _ _=>rfl
def Zpz (a:ZnG):Option ZnG:=
 chk (ZiZ (([]:ZnG).length+a.length) 4) <|
 (Zry big a ((([]:ZnG)++a).length:Int) (0:Int) (([]:ZnG)++a)).bind fun x0=>ZwE x0
def Zxc:Option Int:=
 some (0:Int)
def Zth (rec_:ZnG→ZnG→Int→Option (Out Unit Int)) (a:ZnG) (b:ZnG) (i:Int):Option (Out Unit Int):=
 bif (decide (i≥0))then (
  (idx a i).bind fun a_e=>
  (idx b i).bind fun b_e=>
  bif (decide (a_e < b_e))then (
   some (.ret (-1:Int))
  )else (
   (idx a i).bind fun a_e_1=>
   (idx b i).bind fun b_e_1=>
   bif (decide (a_e_1 > b_e_1))then (
    some (.ret (1:Int))
   )else (
    chk (inK .i64 (i - 1)) <|
    rec_ a b (i - 1)
   )
  )
 )else (
  some (.brk ())
 )
def ZuA:Nat→ZnG→ZnG→Int→Option (Out Unit Int)
 |0,_,_,_=>none
 |n_+1,a,b,i=>Zth (ZuA n_) a b i
def ZyW (n:Nat) (s:(ZnG×ZnG×Int)):Option (Out Unit Int):=ZuA n s.1 s.2.1 s.2.2
def Zv8 (rec_:(ZnG×ZnG×Int)→Option (Out Unit Int)) (s:(ZnG×ZnG×Int)):Option (Out Unit Int):=Zth (fun a b i=>rec_ (a,b,i)) s.1 s.2.1 s.2.2
theorem ZBB:∀n s,ZyW (n+1) s=Zv8 (ZyW n) s:=fun _ _=>rfl
def ZoR (a:ZnG) (b:ZnG):Option Int:=
 bif ((a.length:Int) != (b.length:Int))then (
  bif (decide ((a.length:Int) < (b.length:Int)))then (
   some (-1:Int)
  )else (
   some (1:Int)
  )
 )else (
  chk (inK .i64 ((a.length:Int) - 1)) <|
  (ZuA big a b ((a.length:Int) - 1)).bind fun
   | .ret q_=>some q_
   | .brk ()=>Zxc
 )
def Zw3 (out:ZnG):Option ZnG:=
 (Zoi out).bind fun q=>
 some q
def Zsc (rec_:ZnG→ZnG→Int→Int→ZnG→Option ZnG) (a:ZnG) (b:ZnG) (c:Int) (i:Int) (out:ZnG):Option ZnG:=
 chk (ZiZ (out.length+([(IntKind.wrap .u32 c)]:ZnG).length) 4) <|
 chk (decide (0≤(32:Int))) <|
 chk (inK .i64 (i+1)) <|
 rec_ a b (shrK .i64 c 32) (i+1) (out++([(IntKind.wrap .u32 c)]:ZnG))
def Ztd (rec_:ZnG→ZnG→Int→Int→ZnG→Option ZnG) (a:ZnG) (b:ZnG) (c:Int) (i:Int) (out:ZnG):Option ZnG:=
 bif (decide (i < (a.length:Int)))then (
  (idx a i).bind fun a_e=>
  chk (inK .i64 (c+(IntKind.wrap .i64 a_e))) <|
  bif (decide (i < (b.length:Int)))then (
   (idx b i).bind fun b_e=>
   chk (inK .i64 ((c+(IntKind.wrap .i64 a_e)) - (IntKind.wrap .i64 b_e))) <|
   Zsc rec_ a b ((c+(IntKind.wrap .i64 a_e)) - (IntKind.wrap .i64 b_e)) i out
  )else (
   Zsc rec_ a b (c+(IntKind.wrap .i64 a_e)) i out
  )
 )else (
  some out
 )
def Zsb:Nat→ZnG→ZnG→Int→Int→ZnG→Option ZnG
 |0,_,_,_,_,_=>none
 |n_+1,a,b,c,i,out=>Ztd (Zsb n_) a b c i out
def ZyS (n:Nat) (s:(ZnG×ZnG×Int×Int×ZnG)):Option ZnG:=Zsb n s.1 s.2.1 s.2.2.1 s.2.2.2.1 s.2.2.2.2
def Zv2 (rec_:(ZnG×ZnG×Int×Int×ZnG)→Option ZnG) (s:(ZnG×ZnG×Int×Int×ZnG)):Option ZnG:=Ztd (fun a b c i out=>rec_ (a,b,c,i,out)) s.1 s.2.1 s.2.2.1 s.2.2.2.1 s.2.2.2.2
theorem ZBx:∀n s,ZyS (n+1) s=Zv2 (ZyS n) s:=fun _ _=>rfl
def ZpP (a:ZnG) (b:ZnG):Option ZnG:=
 (Zsb big a b (0:Int) (0:Int) ([]:ZnG)).bind fun x0=>Zw3 x0
def Zv1 (d:Int) (out:ZnG):Option ZnG:=
 chk (ZiZ (out.length+([d]:ZnG).length) 4) <|
 (Zoi (out++([d]:ZnG))).bind fun q=>
 some q
def ZsB (rec_:ZnG→Int→Int→ZnG→Option (Int×ZnG)) (a:ZnG) (d:Int) (i:Int) (out:ZnG):Option (Int×ZnG):=
 bif (decide (i < (a.length:Int)))then (
  (idx a i).bind fun a_e=>
  chk (decide (0≤(1:Int))) <|
  chk (ZiZ (out.length+([(orK .u32 (shlK .u32 a_e 1) d)]:ZnG).length) 4) <|
  (idx a i).bind fun a_e_1=>
  chk (decide (0≤(31:Int))) <|
  chk (inK .i64 (i+1)) <|
  rec_ a (shrK .u32 a_e_1 31) (i+1) (out++([(orK .u32 (shlK .u32 a_e 1) d)]:ZnG))
 )else (
  some (d,out)
 )
def Ztc:Nat→ZnG→Int→Int→ZnG→Option (Int×ZnG)
 |0,_,_,_,_=>none
 |n_+1,a,d,i,out=>ZsB (Ztc n_) a d i out
def Zyg (n:Nat) (s:(ZnG×Int×Int×ZnG)):Option (Int×ZnG):=Ztc n s.1 s.2.1 s.2.2.1 s.2.2.2
def Zvh (rec_:(ZnG×Int×Int×ZnG)→Option (Int×ZnG)) (s:(ZnG×Int×Int×ZnG)):Option (Int×ZnG):=ZsB (fun a d i out=>rec_ (a,d,i,out)) s.1 s.2.1 s.2.2.1 s.2.2.2
theorem ZAY:∀n s,Zyg (n+1) s=Zvh (Zyg n) s:=fun _ _=>rfl
def Zq1 (a:ZnG) (d:Int):Option ZnG:=
 (Ztc big a d (0:Int) ([]:ZnG)).bind fun(x0,x1)=>Zv1 x0 x1
def Zw6 (a:ZnG):Option ZnG:=
 some a
def Zq8 (rec_:ZnG→Int→Option ZnG) (a:ZnG) (k:Int):Option ZnG:=
 bif (decide (k > 0))then (
  (Zq1 a 0).bind fun a_1=>
  chk (inK .i64 (k - 1)) <|
  rec_ a_1 (k - 1)
 )else (
  some a
 )
def ZqF:Nat→ZnG→Int→Option ZnG
 |0,_,_=>none
 |n_+1,a,k=>Zq8 (ZqF n_) a k
def Zw7 (a:ZnG) (k:Int):Option ZnG:=
 (ZqF big a k).bind fun x0=>Zw6 x0
def Zuy (rec_:ZnG→ZnG→Int→Option (ZnG×Int)) (a:ZnG) (b:ZnG) (k:Int):Option (ZnG×Int):=
 (ZpP b a).bind fun b_1=>
 rec_ a b_1 k
def Zw8 (rec_:ZnG→ZnG→Int→Option (ZnG×Int)) (a:ZnG) (b:ZnG) (k:Int):Option (ZnG×Int):=
 (ZoR a b).bind fun q=>
 bif (decide (q > 0))then (
  Zuy rec_ b a k
 )else (
  Zuy rec_ a b k
 )
def Zv5 (rec_:ZnG→ZnG→Int→Option (ZnG×ZnG×Int)) (a:ZnG) (b:ZnG) (k:Int):Option (ZnG×ZnG×Int):=
 (idx b 0).bind fun b_e=>
 bif ((andK .u32 b_e 1) == 0)then (
  (Zpz b).bind fun b_1=>
  rec_ a b_1 k
 )else (
  some (a,b,k)
 )
def Zo0:Nat→ZnG→ZnG→Int→Option (ZnG×ZnG×Int)
 |0,_,_,_=>none
 |n_+1,a,b,k=>Zv5 (Zo0 n_) a b k
def Zw9 (rec_:ZnG→ZnG→Int→Option (ZnG×Int)) (a:ZnG) (b:ZnG) (k:Int):Option (ZnG×Int):=
 (Zo0 big a b k).bind fun(x0,x1,x2)=>Zw8 rec_ x0 x1 x2
def Zq9 (rec_:ZnG→ZnG→Int→Option (ZnG×ZnG×Int)) (a:ZnG) (b:ZnG) (k:Int):Option (ZnG×ZnG×Int):=
 (idx a 0).bind fun a_e=>
 bif ((andK .u32 a_e 1) == 0)then (
  (Zpz a).bind fun a_1=>
  rec_ a_1 b k
 )else (
  some (a,b,k)
 )
def Zo1:Nat→ZnG→ZnG→Int→Option (ZnG×ZnG×Int)
 |0,_,_,_=>none
 |n_+1,a,b,k=>Zq9 (Zo1 n_) a b k
def Zra (rec_:ZnG→ZnG→Int→Option (ZnG×Int)) (a:ZnG) (b:ZnG) (k:Int):Option (ZnG×Int):=
 bif (decide ((b.length:Int) > 0))then (
  (Zo1 big a b k).bind fun(x0,x1,x2)=>Zw9 rec_ x0 x1 x2
 )else (
  some (a,k)
 )
def Zn7:Nat→ZnG→ZnG→Int→Option (ZnG×Int)
 |0,_,_,_=>none
 |n_+1,a,b,k=>Zra (Zn7 n_) a b k
def Zxa (a:ZnG) (b:ZnG) (k:Int):Option ZnG:=
 (Zn7 big a b k).bind fun(x0,x1)=>Zw7 x0 x1
def Zuz (rec_:ZnG→ZnG→Int→Option (ZnG×ZnG×Int)) (a:ZnG) (b:ZnG) (k:Int) (t17:Bool):Option (ZnG×ZnG×Int):=
 bif t17 then (
  (Zpz a).bind fun a_1=>
  (Zpz b).bind fun b_1=>
  chk (inK .i64 (k+1)) <|
  rec_ a_1 b_1 (k+1)
 )else (
  some (a,b,k)
 )
def Zv6 (rec_:ZnG→ZnG→Int→Option (ZnG×ZnG×Int)) (a:ZnG) (b:ZnG) (k:Int):Option (ZnG×ZnG×Int):=
 (idx a 0).bind fun a_e=>
 bif ((andK .u32 a_e 1) == 0)then (
  (idx b 0).bind fun b_e=>
  Zuz rec_ a b k ((andK .u32 b_e 1) == 0)
 )else (
  Zuz rec_ a b k false
 )
def ZqG:Nat→ZnG→ZnG→Int→Option (ZnG×ZnG×Int)
 |0,_,_,_=>none
 |n_+1,a,b,k=>Zv6 (ZqG n_) a b k
def ZrZ (a:ZnG) (b:ZnG):Option ZnG:=
 (ZqG big a b (0:Int)).bind fun(x0,x1,x2)=>Zxa x0 x1 x2
def Zt6 (a:ZnG) (i:Int):Option Int:=
 chk (decide ((32:Int)≠0)) <|
 chk (inK .i64 (Int.tdiv i 32)) <|
 (idx a (Int.tdiv i 32)).bind fun a_e=>
 chk (decide ((32:Int)≠0)) <|
 chk (decide (0≤(IntKind.wrap .u64 (Int.tmod i 32)))) <|
 some (andK .u32 (shrK .u32 a_e (IntKind.wrap .u64 (Int.tmod i 32))) 1)
def Zxb (r_:ZnG) (q:ZnG):Option (ZnG×ZnG):=
 (Zoi q).bind fun q_1=>
 some (q_1,r_)
def Zsg (rec_:ZnG→ZnG→ZnG→Int→ZnG→Option (ZnG×ZnG)) (a:ZnG) (b:ZnG) (r_:ZnG) (i:Int) (q:ZnG):Option (ZnG×ZnG):=
 chk (inK .i64 (i - 1)) <|
 rec_ a b r_ (i - 1) q
def Ztg (rec_:ZnG→ZnG→ZnG→Int→ZnG→Option (ZnG×ZnG)) (a:ZnG) (b:ZnG) (r_:ZnG) (i:Int) (q:ZnG):Option (ZnG×ZnG):=
 bif (decide (i≥0))then (
  (Zt6 a i).bind fun q_1=>
  (Zq1 r_ q_1).bind fun r__1=>
  (ZoR r__1 b).bind fun q_2=>
  bif (decide (q_2≥0))then (
   (ZpP r__1 b).bind fun r__2=>
   chk (decide ((32:Int)≠0)) <|
   chk (inK .i64 (Int.tdiv i 32)) <|
   chk (inR (Int.tdiv i 32) (q.length:Int)) <|
   (q[((Int.tdiv i 32)).toNat]?).bind fun q_e=>
   chk (decide ((32:Int)≠0)) <|
   chk (decide (0≤(IntKind.wrap .u64 (Int.tmod i 32)))) <|
   chk (inR (Int.tdiv i 32) (q.length:Int)) <|
   Zsg rec_ a b r__2 i (q.set (((Int.tdiv i 32)).toNat) (orK .u32 q_e (shlK .u32 1 (IntKind.wrap .u64 (Int.tmod i 32)))))
  )else (
   Zsg rec_ a b r__1 i q
  )
 )else (
  some (r_,q)
 )
def Zsf:Nat→ZnG→ZnG→ZnG→Int→ZnG→Option (ZnG×ZnG)
 |0,_,_,_,_,_=>none
 |n_+1,a,b,r_,i,q=>Ztg (Zsf n_) a b r_ i q
def ZyV (n:Nat) (s:(ZnG×ZnG×ZnG×Int×ZnG)):Option (ZnG×ZnG):=Zsf n s.1 s.2.1 s.2.2.1 s.2.2.2.1 s.2.2.2.2
def Zv7 (rec_:(ZnG×ZnG×ZnG×Int×ZnG)→Option (ZnG×ZnG)) (s:(ZnG×ZnG×ZnG×Int×ZnG)):Option (ZnG×ZnG):=Ztg (fun a b r_ i q=>rec_ (a,b,r_,i,q)) s.1 s.2.1 s.2.2.1 s.2.2.2.1 s.2.2.2.2
theorem ZBA:∀n s,ZyV (n+1) s=Zv7 (ZyV n) s:=fun _ _=>rfl
def Zr0 (a:ZnG) (b:ZnG):Option (ZnG×ZnG):=
 chk (mkOk (a.length:Int) (a.length:Int) 4) <|
 chk (inK .i64 (32*(a.length:Int))) <|
 chk (inK .i64 ((32*(a.length:Int)) - 1)) <|
 (Zsf big a b ([]:ZnG) ((32*(a.length:Int)) - 1) (List.replicate ((a.length:Int)).toNat (0:Int))).bind fun(x0,x1)=>Zxb x0 x1
def ZqE (num:ZnK) (den:ZnK):Option ZnC:=
 bif ((num.Words.length:Int) == 0)then (
  (Zpr 1).bind fun q=>
  some (ZnC.mk (ZnK.mk false ([]:ZnG)) q)
 )else (
  (ZrZ num.Words den.Words).bind fun g=>
  (Zr0 num.Words g).bind fun(x_,q_1)=>
  (Zr0 den.Words g).bind fun(y,q_2)=>
  (Zn4 (!(num.Neg == den.Neg)) x_).bind fun q_3=>
  (Zn4 false y).bind fun q_4=>
  some (ZnC.mk q_3 q_4)
 )
def ZtW (t13:Bool) (num:ZnK) (den:ZnK) (t4:Bool) (t4_1:Bool) (t4_2:ZnG) (t4_3:ZnG):Option (ZnC×Int):=
 bif t13 then (
  some ((ZnC.mk (ZnK.mk false ([]:ZnG)) (ZnK.mk false ([]:ZnG))),1)
 )else (
  bif ((den.Words.length:Int) == 0)then (
   some ((ZnC.mk (ZnK.mk false ([]:ZnG)) (ZnK.mk false ([]:ZnG))),8)
  )else (
   (ZqE num den).bind fun q=>
   some (q,0)
  )
 )
def Ztj (num:ZnK) (den:ZnK):Option (ZnC×Int):=
 (Zo6 num).bind fun q=>
 bif (!q)then (
  ZtW true num den false false ([]:ZnG) ([]:ZnG)
 )else (
  (Zo6 den).bind fun q_1=>
  ZtW (!q_1) num den false false ([]:ZnG) ([]:ZnG)
 )
def ZuP (num:Int) (den:Int):Option (ZnC×Int):=
 (Zpr num).bind fun q=>
 (Zpr den).bind fun q_1=>
 (Ztj q q_1).bind fun(q_2,q_3)=>
 some (q_2,q_3)
def Zqk (n:Int) (d:Int):Option ZnC:=
 (ZuP n d).bind fun(f,q)=>
 some f
def Zyq (n:Int):Option ZnC:=
 (Zqk n 1).bind fun q=>
 some q
def ZnR (n:Int):Option ZnC:=ZIm (Zyq n)
def ZAL (x_:Int) (y:Int):Option (Int×Int):=
 chk (decide (0≤(32:Int))) <|
 chk (decide (0≤(32:Int))) <|
 chk (decide (0≤(32:Int))) <|
 chk (decide (0≤(32:Int))) <|
 chk (decide (0≤(32:Int))) <|
 some ((IntKind.wrap .u64 ((IntKind.wrap .u64 ((IntKind.wrap .u64 ((shrK .u64 x_ 32)*(shrK .u64 y 32)))+(shrK .u64 (IntKind.wrap .u64 ((IntKind.wrap .u64 ((shrK .u64 x_ 32)*(andK .u64 y 4294967295)))+(shrK .u64 (IntKind.wrap .u64 ((andK .u64 x_ 4294967295)*(andK .u64 y 4294967295))) 32))) 32)))+(shrK .u64 (IntKind.wrap .u64 ((andK .u64 (IntKind.wrap .u64 ((IntKind.wrap .u64 ((shrK .u64 x_ 32)*(andK .u64 y 4294967295)))+(shrK .u64 (IntKind.wrap .u64 ((andK .u64 x_ 4294967295)*(andK .u64 y 4294967295))) 32))) 4294967295)+(IntKind.wrap .u64 ((andK .u64 x_ 4294967295)*(shrK .u64 y 32))))) 32))),(IntKind.wrap .u64 (x_*y)))
def ZAN (x y c:Int):Option (Int×Int):=
 chk (decide (0≤c∧c≤1)) <| some ((x+y+c) % 18446744073709551616,(x+y+c) / 18446744073709551616)
def ZzO (x_:Int) (n:Int):Option Int:=
 (idx ([0,1,2,2,3,3,3,3,4,4,4,4,4,4,4,4,5,5,5,5,5,5,5,5,5,5,5,5,5,5,5,5,6,6,6,6,6,6,6,6,6,6,6,6,6,6,6,6,6,6,6,6,6,6,6,6,6,6,6,6,6,6,6,6,7,7,7,7,7,7,7,7,7,7,7,7,7,7,7,7,7,7,7,7,7,7,7,7,7,7,7,7,7,7,7,7,7,7,7,7,7,7,7,7,7,7,7,7,7,7,7,7,7,7,7,7,7,7,7,7,7,7,7,7,7,7,7,7,8,8,8,8,8,8,8,8,8,8,8,8,8,8,8,8,8,8,8,8,8,8,8,8,8,8,8,8,8,8,8,8,8,8,8,8,8,8,8,8,8,8,8,8,8,8,8,8,8,8,8,8,8,8,8,8,8,8,8,8,8,8,8,8,8,8,8,8,8,8,8,8,8,8,8,8,8,8,8,8,8,8,8,8,8,8,8,8,8,8,8,8,8,8,8,8,8,8,8,8,8,8,8,8,8,8,8,8,8,8,8,8,8,8,8,8,8,8,8,8,8,8,8,8,8,8,8,8]:Str) (IntKind.wrap .u8 x_)).bind fun c=>
 chk (inK .i64 (n+(IntKind.wrap .i64 ((c.toNat:Nat):Int)))) <|
 some (n+(IntKind.wrap .i64 ((c.toNat:Nat):Int)))
def ZzP (x_:Int) (n:Int):Option Int:=
 bif (decide (x_≥256))then (
  chk (decide (0≤(8:Int))) <|
  chk (inK .i64 (n+8)) <|
  ZzO (shrK .u64 x_ 8) (n+8)
 )else (
  ZzO x_ n
 )
def ZzQ (x_:Int) (n:Int):Option Int:=
 bif (decide (x_≥65536))then (
  chk (decide (0≤(16:Int))) <|
  chk (inK .i64 (n+16)) <|
  ZzP (shrK .u64 x_ 16) (n+16)
 )else (
  ZzP x_ n
 )
def ZzA (x_:Int):Option Int:=
 bif (decide (x_≥4294967296))then (
  chk (decide (0≤(32:Int))) <|
  ZzQ (shrK .u64 x_ 32) (32:Int)
 )else (
  ZzQ x_ (0:Int)
 )
def ZwI (x_:Int):Option Int:=
 (ZzA x_).bind fun q=>
 chk (inK .i64 (64 - q)) <|
 some (64 - q)
def ZBo (y:Int) (s:Int) (un0:Int) (q1:Int) (un21:Int) (q0:Int):Option (Int×Int):=
 chk (decide (0≤s)) <|
 some ((IntKind.wrap .u64 ((IntKind.wrap .u64 (q1*4294967296))+q0)),(shrK .u64 (IntKind.wrap .u64 ((IntKind.wrap .u64 ((IntKind.wrap .u64 (un21*4294967296))+un0)) - (IntKind.wrap .u64 (q0*y)))) s))
def ZzR (rec_:Int→Int→Int→Int→Int→Int→Int→Int→Int→Option (Int×Int×Int×Int×Int×Int)) (y:Int) (s:Int) (yn1:Int) (yn0:Int) (un0:Int) (q1:Int) (rhat:Int) (un21:Int) (q0:Int) (t113:Bool):Option (Int×Int×Int×Int×Int×Int):=
 bif t113 then (
  bif (decide ((IntKind.wrap .u64 (rhat+yn1))≥4294967296))then (
   some (y,s,un0,q1,un21,(IntKind.wrap .u64 (q0 - 1)))
  )else (
   rec_ y s yn1 yn0 un0 q1 (IntKind.wrap .u64 (rhat+yn1)) un21 (IntKind.wrap .u64 (q0 - 1))
  )
 )else (
  some (y,s,un0,q1,un21,q0)
 )
def ZCG (rec_:Int→Int→Int→Int→Int→Int→Int→Int→Int→Option (Int×Int×Int×Int×Int×Int)) (y:Int) (s:Int) (yn1:Int) (yn0:Int) (un0:Int) (q1:Int) (rhat:Int) (un21:Int) (q0:Int):Option (Int×Int×Int×Int×Int×Int):=
 bif (decide (q0≥4294967296))then (
  ZzR rec_ y s yn1 yn0 un0 q1 rhat un21 q0 true
 )else (
  ZzR rec_ y s yn1 yn0 un0 q1 rhat un21 q0 (decide ((IntKind.wrap .u64 (q0*yn0)) > (IntKind.wrap .u64 ((IntKind.wrap .u64 (4294967296*rhat))+un0))))
 )
def Zxs:Nat→Int→Int→Int→Int→Int→Int→Int→Int→Int→Option (Int×Int×Int×Int×Int×Int)
 |0,_,_,_,_,_,_,_,_,_=>none
 |n_+1,y,s,yn1,yn0,un0,q1,rhat,un21,q0=>ZCG (Zxs n_) y s yn1 yn0 un0 q1 rhat un21 q0
def ZBp (y:Int) (s:Int) (yn1:Int) (yn0:Int) (un32:Int) (un1:Int) (un0:Int) (q1:Int):Option (Int×Int):=
 chk (decide (yn1≠0)) <|
 (Zxs big y s yn1 yn0 un0 q1 (IntKind.wrap .u64 ((IntKind.wrap .u64 ((IntKind.wrap .u64 ((IntKind.wrap .u64 (un32*4294967296))+un1)) - (IntKind.wrap .u64 (q1*y)))) - (IntKind.wrap .u64 ((IntKind.wrap .u64 (Int.tdiv (IntKind.wrap .u64 ((IntKind.wrap .u64 ((IntKind.wrap .u64 (un32*4294967296))+un1)) - (IntKind.wrap .u64 (q1*y)))) yn1))*yn1)))) (IntKind.wrap .u64 ((IntKind.wrap .u64 ((IntKind.wrap .u64 (un32*4294967296))+un1)) - (IntKind.wrap .u64 (q1*y)))) (IntKind.wrap .u64 (Int.tdiv (IntKind.wrap .u64 ((IntKind.wrap .u64 ((IntKind.wrap .u64 (un32*4294967296))+un1)) - (IntKind.wrap .u64 (q1*y)))) yn1))).bind fun(x0,x1,x2,x3,x4,x5)=>ZBo x0 x1 x2 x3 x4 x5
def ZzS (rec_:Int→Int→Int→Int→Int→Int→Int→Int→Int→Option (Int×Int×Int×Int×Int×Int×Int×Int)) (y:Int) (s:Int) (yn1:Int) (yn0:Int) (un32:Int) (un1:Int) (un0:Int) (q1:Int) (rhat:Int) (t78:Bool):Option (Int×Int×Int×Int×Int×Int×Int×Int):=
 bif t78 then (
  bif (decide ((IntKind.wrap .u64 (rhat+yn1))≥4294967296))then (
   some (y,s,yn1,yn0,un32,un1,un0,(IntKind.wrap .u64 (q1 - 1)))
  )else (
   rec_ y s yn1 yn0 un32 un1 un0 (IntKind.wrap .u64 (q1 - 1)) (IntKind.wrap .u64 (rhat+yn1))
  )
 )else (
  some (y,s,yn1,yn0,un32,un1,un0,q1)
 )
def ZCH (rec_:Int→Int→Int→Int→Int→Int→Int→Int→Int→Option (Int×Int×Int×Int×Int×Int×Int×Int)) (y:Int) (s:Int) (yn1:Int) (yn0:Int) (un32:Int) (un1:Int) (un0:Int) (q1:Int) (rhat:Int):Option (Int×Int×Int×Int×Int×Int×Int×Int):=
 bif (decide (q1≥4294967296))then (
  ZzS rec_ y s yn1 yn0 un32 un1 un0 q1 rhat true
 )else (
  ZzS rec_ y s yn1 yn0 un32 un1 un0 q1 rhat (decide ((IntKind.wrap .u64 (q1*yn0)) > (IntKind.wrap .u64 ((IntKind.wrap .u64 (4294967296*rhat))+un1))))
 )
def Zxt:Nat→Int→Int→Int→Int→Int→Int→Int→Int→Int→Option (Int×Int×Int×Int×Int×Int×Int×Int)
 |0,_,_,_,_,_,_,_,_,_=>none
 |n_+1,y,s,yn1,yn0,un32,un1,un0,q1,rhat=>ZCH (Zxt n_) y s yn1 yn0 un32 un1 un0 q1 rhat
def ZAM (hi:Int) (lo:Int) (y:Int):Option (Int×Int):=
 bif (y == 0)then (
  none
 )else (
  bif (decide (y≤hi))then (
   none
  )else (
   bif (hi == 0)then (
    chk (decide (y≠0)) <|
    chk (decide (y≠0)) <|
    some ((IntKind.wrap .u64 (Int.tdiv lo y)),(Int.tmod lo y))
   )else (
    (ZwI y).bind fun q=>
    chk (decide (0≤(IntKind.wrap .u64 q))) <|
    chk (decide (0≤(32:Int))) <|
    chk (decide (0≤(IntKind.wrap .u64 q))) <|
    chk (decide (0≤(IntKind.wrap .u64 (64 - (IntKind.wrap .u64 q))))) <|
    chk (decide (0≤(IntKind.wrap .u64 q))) <|
    chk (decide (0≤(32:Int))) <|
    chk (decide ((shrK .u64 (shlK .u64 y (IntKind.wrap .u64 q)) 32)≠0)) <|
    (Zxt big (shlK .u64 y (IntKind.wrap .u64 q)) (IntKind.wrap .u64 q) (shrK .u64 (shlK .u64 y (IntKind.wrap .u64 q)) 32) (andK .u64 (shlK .u64 y (IntKind.wrap .u64 q)) 4294967295) (orK .u64 (shlK .u64 hi (IntKind.wrap .u64 q)) (shrK .u64 lo (IntKind.wrap .u64 (64 - (IntKind.wrap .u64 q))))) (shrK .u64 (shlK .u64 lo (IntKind.wrap .u64 q)) 32) (andK .u64 (shlK .u64 lo (IntKind.wrap .u64 q)) 4294967295) (IntKind.wrap .u64 (Int.tdiv (orK .u64 (shlK .u64 hi (IntKind.wrap .u64 q)) (shrK .u64 lo (IntKind.wrap .u64 (64 - (IntKind.wrap .u64 q))))) (shrK .u64 (shlK .u64 y (IntKind.wrap .u64 q)) 32))) (IntKind.wrap .u64 ((orK .u64 (shlK .u64 hi (IntKind.wrap .u64 q)) (shrK .u64 lo (IntKind.wrap .u64 (64 - (IntKind.wrap .u64 q))))) - (IntKind.wrap .u64 ((IntKind.wrap .u64 (Int.tdiv (orK .u64 (shlK .u64 hi (IntKind.wrap .u64 q)) (shrK .u64 lo (IntKind.wrap .u64 (64 - (IntKind.wrap .u64 q))))) (shrK .u64 (shlK .u64 y (IntKind.wrap .u64 q)) 32)))*(shrK .u64 (shlK .u64 y (IntKind.wrap .u64 q)) 32)))))).bind fun(x0,x1,x2,x3,x4,x5,x6,x7)=>ZBp x0 x1 x2 x3 x4 x5 x6 x7
   )
  )
 )
def ZD2 (f:ZnC):Option ZnC:=
 chk (ZiZ f.Num.Words.length 4) <|
 chk (ZiZ f.Den.Words.length 4) <|
 some f
def ZyI (l:ZoK) (p:Int) (q:Int) (t13:Bool) (t6:Bool) (t6_1:Bool) (t6_2:ZnG) (t6_3:ZnG):Option (ZnC×Int):=
 bif t13 then (
  some ((ZnC.mk (ZnK.mk false ([]:ZnG)) (ZnK.mk false ([]:ZnG))),2)
 )else (
  bif ((l.length:Int) == 0)then (
   some ((ZnC.mk (ZnK.mk false ([]:ZnG)) (ZnK.mk false ([]:ZnG))),5)
  )else (
   (ZAL (IntKind.wrap .u64 (l.length:Int)) (IntKind.wrap .u64 p)).bind fun(high,low)=>
   chk (inK .i64 (q - 1)) <|
   (ZAN low (IntKind.wrap .u64 (q - 1)) 0).bind fun(low_1,carry)=>
   (ZAM (IntKind.wrap .u64 (high+carry)) low_1 (IntKind.wrap .u64 q)).bind fun(k,q_1)=>
   chk (inK .i64 ((if (1:Int) > (IntKind.wrap .i64 k)then (1:Int)else (IntKind.wrap .i64 k)) - 1)) <|
   (idx l ((if (1:Int) > (IntKind.wrap .i64 k)then (1:Int)else (IntKind.wrap .i64 k)) - 1)).bind fun l_e=>
   (ZD2 l_e).bind fun q_2=>
   some (q_2,0)
  )
 )
def ZAo (l:ZoK) (p:Int) (q:Int):Option (ZnC×Int):=
 bif (decide (q < 1))then (
  ZyI l p q true false false ([]:ZnG) ([]:ZnG)
 )else (
  bif (decide (p < 0))then (
   ZyI l p q true false false ([]:ZnG) ([]:ZnG)
  )else (
   ZyI l p q (decide (p > q)) false false ([]:ZnG) ([]:ZnG)
  )
 )
def ZpQ (t2:Bool):Option Bool:=
 some t2
def Zus (a:ZnK):Option Bool:=
 bif (decide ((a.Words.length:Int)≤256))then (
  bif ((a.Words.length:Int) == 0)then (
   bif (!a.Neg)then (
    ZpQ true
   )else (
    bif (decide ((a.Words.length:Int) > 0))then (
     chk (inK .i64 ((a.Words.length:Int) - 1)) <|
     (idx a.Words ((a.Words.length:Int) - 1)).bind fun Word=>
     ZpQ (Word != 0)
    )else (
     ZpQ false
    )
   )
  )else (
   bif (decide ((a.Words.length:Int) > 0))then (
    chk (inK .i64 ((a.Words.length:Int) - 1)) <|
    (idx a.Words ((a.Words.length:Int) - 1)).bind fun Word_1=>
    ZpQ (Word_1 != 0)
   )else (
    ZpQ false
   )
  )
 )else (
  ZpQ false
 )
def ZB6:Option Bool:=
 some true
def Zxx (rec_:(List ZnK)→Int→Int→Option (Out Unit Bool)) (t5:(List ZnK)) (t6:Int) (t7:Int):Option (Out Unit Bool):=
 bif (decide (t7 < t6))then (
  (idx t5 t7).bind fun a=>
  (Zus a).bind fun q=>
  bif (!q)then (
   some (.ret false)
  )else (
   chk (inK .i64 (t7+1)) <|
   rec_ t5 t6 (t7+1)
  )
 )else (
  some (.brk ())
 )
def ZyK:Nat→(List ZnK)→Int→Int→Option (Out Unit Bool)
 |0,_,_,_=>none
 |n_+1,t5,t6,t7=>Zxx (ZyK n_) t5 t6 t7
def ZBq (n:Nat) (s:((List ZnK)×Int×Int)):Option (Out Unit Bool):=ZyK n s.1 s.2.1 s.2.2
def ZzT (rec_:((List ZnK)×Int×Int)→Option (Out Unit Bool)) (s:((List ZnK)×Int×Int)):Option (Out Unit Bool):=Zxx (fun t5 t6 t7=>rec_ (t5,t6,t7)) s.1 s.2.1 s.2.2
theorem ZCQ:∀n s,ZBq (n+1) s=ZzT (ZBq n) s:=fun _ _=>rfl
def ZxP (l:(List ZnK)):Option Bool:=
 (ZyK big l (l.length:Int) (0:Int)).bind fun
  | .ret q_=>some q_
  | .brk ()=>ZB6
def ZxQ (x_:Int):Option Bool:=
 some (x_ != x_)
def Zru (x_:Int) (y:Int):Option Int:=
 (ZxQ x_).bind fun xNaN=>
 (ZxQ y).bind fun yNaN=>
 bif xNaN then (
  bif yNaN then (
   some (0:Int)
  )else (
   some (-1:Int)
  )
 )else (
  bif yNaN then (
   some (1:Int)
  )else (
   bif (decide (x_ < y))then (
    some (-1:Int)
   )else (
    bif (decide (x_ > y))then (
     some (1:Int)
    )else (
     some (0:Int)
    )
   )
  )
 )
def ZyL (x_:Int):Option Bool:=
 some (x_ != x_)
def Zxy (x_:Int) (y:Int):Option Int:=
 (ZyL x_).bind fun xNaN=>
 (ZyL y).bind fun yNaN=>
 bif xNaN then (
  bif yNaN then (
   some (0:Int)
  )else (
   some (-1:Int)
  )
 )else (
  bif yNaN then (
   some (1:Int)
  )else (
   bif (decide (x_ < y))then (
    some (-1:Int)
   )else (
    bif (decide (x_ > y))then (
     some (1:Int)
    )else (
     some (0:Int)
    )
   )
  )
 )
def Zwk:Option Int:=
 some (0:Int)
def ZsE (rec_:ZnG→ZnG→Int→Option (Out Unit Int)) (w_:ZnG) (v_:ZnG) (i:Int):Option (Out Unit Int):=
 bif (decide (i≥0))then (
  (idx w_ i).bind fun w__e=>
  (idx v_ i).bind fun v__e=>
  (Zxy w__e v__e).bind fun c=>
  bif (c != 0)then (
   some (.ret c)
  )else (
   chk (inK .i64 (i - 1)) <|
   rec_ w_ v_ (i - 1)
  )
 )else (
  some (.brk ())
 )
def ZtE:Nat→ZnG→ZnG→Int→Option (Out Unit Int)
 |0,_,_,_=>none
 |n_+1,w_,v_,i=>ZsE (ZtE n_) w_ v_ i
def Zym (n:Nat) (s:(ZnG×ZnG×Int)):Option (Out Unit Int):=ZtE n s.1 s.2.1 s.2.2
def Zvl (rec_:(ZnG×ZnG×Int)→Option (Out Unit Int)) (s:(ZnG×ZnG×Int)):Option (Out Unit Int):=ZsE (fun w_ v_ i=>rec_ (w_,v_,i)) s.1 s.2.1 s.2.2
theorem ZA2:∀n s,Zym (n+1) s=Zvl (Zym n) s:=fun _ _=>rfl
def Zpg (w_:ZnG) (v_:ZnG):Option Int:=
 (Zru (w_.length:Int) (v_.length:Int)).bind fun c=>
 bif (c != 0)then (
  some c
 )else (
  chk (inK .i64 ((w_.length:Int) - 1)) <|
  (ZtE big w_ v_ ((w_.length:Int) - 1)).bind fun
   | .ret q_=>some q_
   | .brk ()=>Zwk
 )
def ZnT (s:ZnG) (t4:Bool):Option ZnG:=
 bif t4 then (
  some ([]:ZnG)
 )else (
  chk (ZiZ (([]:ZnG).length+s.length) 4) <|
  some (([]:ZnG)++s)
 )
def Zo2 (s:ZnG):Option ZnG:=
 bif (List.isEmpty s)then agree (
  ZnT s true
 ) (
  ZnT s false
 )else (
  ZnT s false
 )
def ZvA (hi:Int) (lo:Int) (y:Int) (t15:Bool):Option (Int×Int):=
 bif t15 then (
  none
 )else (
  chk (decide (0≤(32:Int))) <|
  chk (decide ((IntKind.wrap .u64 y)≠0)) <|
  chk (decide ((IntKind.wrap .u64 y)≠0)) <|
  some ((IntKind.wrap .u32 (IntKind.wrap .u64 (Int.tdiv (orK .u64 (shlK .u64 (IntKind.wrap .u64 hi) 32) (IntKind.wrap .u64 lo)) (IntKind.wrap .u64 y)))),(IntKind.wrap .u32 (Int.tmod (orK .u64 (shlK .u64 (IntKind.wrap .u64 hi) 32) (IntKind.wrap .u64 lo)) (IntKind.wrap .u64 y))))
 )
def ZxL (hi:Int) (lo:Int) (y:Int):Option (Int×Int):=
 bif (y != 0)then (
  ZvA hi lo y (decide (y≤hi))
 )else (
  ZvA hi lo y false
 )
def Zzd (w_:ZnG):Option ZnG:=
 some w_
def ZwT (rec_:ZnG→Option ZnG) (w_:ZnG) (t14:Bool):Option ZnG:=
 bif t14 then (
  chk (inK .i64 ((w_.length:Int) - 1)) <|
  chk (Zb9 0 ((w_.length:Int) - 1) (w_.length:Int)) <|
  rec_ (w_.take (((w_.length:Int) - 1)).toNat)
 )else (
  some w_
 )
def ZvQ (rec_:ZnG→Option ZnG) (w_:ZnG):Option ZnG:=
 bif (decide ((w_.length:Int) > 0))then (
  chk (inK .i64 ((w_.length:Int) - 1)) <|
  (idx w_ ((w_.length:Int) - 1)).bind fun w__e=>
  ZwT rec_ w_ (w__e == 0)
 )else (
  ZwT rec_ w_ false
 )
def Zqe:Nat→ZnG→Option ZnG
 |0,_=>none
 |n_+1,w_=>ZvQ (Zqe n_) w_
def ZAq (n:Nat) (s:ZnG):Option ZnG:=Zqe n s
def ZAr (rec_:ZnG→Option ZnG) (s:ZnG):Option ZnG:=ZvQ (fun w_=>rec_ w_) s
theorem ZCk:∀n s,ZAq (n+1) s=ZAr (ZAq n) s:=fun _ _=>rfl
def Zot (w_:ZnG):Option ZnG:=
 (Zqe big w_).bind fun x0=>Zzd x0
def Zxi (rest:Int) (out:ZnG):Option (ZnG×Int):=
 (Zot out).bind fun q=>
 some (q,rest)
def ZtB (rec_:ZnG→Int→Int→Int→ZnG→Option (Int×ZnG)) (w_:ZnG) (d:Int) (rest:Int) (i:Int) (out:ZnG):Option (Int×ZnG):=
 bif (decide (i≥0))then (
  (idx w_ i).bind fun w__e=>
  (ZxL rest w__e d).bind fun(q,rest_1)=>
  chk (inR i (out.length:Int)) <|
  chk (inK .i64 (i - 1)) <|
  rec_ w_ d rest_1 (i - 1) (out.set ((i).toNat) q)
 )else (
  some (rest,out)
 )
def ZuI:Nat→ZnG→Int→Int→Int→ZnG→Option (Int×ZnG)
 |0,_,_,_,_,_=>none
 |n_+1,w_,d,rest,i,out=>ZtB (ZuI n_) w_ d rest i out
def Zza (n:Nat) (s:(ZnG×Int×Int×Int×ZnG)):Option (Int×ZnG):=ZuI n s.1 s.2.1 s.2.2.1 s.2.2.2.1 s.2.2.2.2
def Zwh (rec_:(ZnG×Int×Int×Int×ZnG)→Option (Int×ZnG)) (s:(ZnG×Int×Int×Int×ZnG)):Option (Int×ZnG):=ZtB (fun w_ d rest i out=>rec_ (w_,d,rest,i,out)) s.1 s.2.1 s.2.2.1 s.2.2.2.1 s.2.2.2.2
theorem ZBI:∀n s,Zza (n+1) s=Zwh (Zza n) s:=fun _ _=>rfl
def Zuj (w_:ZnG) (d:Int):Option (ZnG×Int):=
 chk (mkOk (w_.length:Int) (w_.length:Int) 4) <|
 chk (inK .i64 ((w_.length:Int) - 1)) <|
 (ZuI big w_ d (0:Int) ((w_.length:Int) - 1) (List.replicate ((w_.length:Int)).toNat (0:Int))).bind fun(x0,x1)=>Zxi x0 x1
def ZtI (x_:Int) (n:Int):Option Int:=
 (idx ([0,1,2,2,3,3,3,3,4,4,4,4,4,4,4,4,5,5,5,5,5,5,5,5,5,5,5,5,5,5,5,5,6,6,6,6,6,6,6,6,6,6,6,6,6,6,6,6,6,6,6,6,6,6,6,6,6,6,6,6,6,6,6,6,7,7,7,7,7,7,7,7,7,7,7,7,7,7,7,7,7,7,7,7,7,7,7,7,7,7,7,7,7,7,7,7,7,7,7,7,7,7,7,7,7,7,7,7,7,7,7,7,7,7,7,7,7,7,7,7,7,7,7,7,7,7,7,7,8,8,8,8,8,8,8,8,8,8,8,8,8,8,8,8,8,8,8,8,8,8,8,8,8,8,8,8,8,8,8,8,8,8,8,8,8,8,8,8,8,8,8,8,8,8,8,8,8,8,8,8,8,8,8,8,8,8,8,8,8,8,8,8,8,8,8,8,8,8,8,8,8,8,8,8,8,8,8,8,8,8,8,8,8,8,8,8,8,8,8,8,8,8,8,8,8,8,8,8,8,8,8,8,8,8,8,8,8,8,8,8,8,8,8,8,8,8,8,8,8,8,8,8,8,8,8,8]:Str) (IntKind.wrap .u8 x_)).bind fun c=>
 chk (inK .i64 (n+(IntKind.wrap .i64 ((c.toNat:Nat):Int)))) <|
 some (n+(IntKind.wrap .i64 ((c.toNat:Nat):Int)))
def Zxr (x_:Int) (n:Int):Option Int:=
 bif (decide (x_≥256))then (
  chk (decide (0≤(8:Int))) <|
  chk (inK .i64 (n+8)) <|
  ZtI (shrK .u32 x_ 8) (n+8)
 )else (
  ZtI x_ n
 )
def ZxK (x_:Int):Option Int:=
 bif (decide (x_≥65536))then (
  chk (decide (0≤(16:Int))) <|
  Zxr (shrK .u32 x_ 16) (16:Int)
 )else (
  Zxr x_ (0:Int)
 )
def ZrK (x_:Int):Option Int:=
 (ZxK x_).bind fun q=>
 chk (inK .i64 (32 - q)) <|
 some (32 - q)
def Zwi (out:ZnG):Option ZnG:=
 some out
def ZsD (rec_:Int→ZnG→Int→Int→ZnG→Option ZnG) (n:Int) (t13:ZnG) (t14:Int) (i:Int) (out:ZnG):Option ZnG:=
 bif (decide (i < t14))then (
  (idx t13 i).bind fun d=>
  chk (decide (0≤n)) <|
  chk (inR i (out.length:Int)) <|
  (out[(i).toNat]?).bind fun out_e=>
  chk (inR i (out.length:Int)) <|
  chk (inK .i64 (i+1)) <|
  chk (decide (0≤(32:Int))) <|
  chk (inR (i+1) ((out.set ((i).toNat) (orK .u32 out_e (IntKind.wrap .u32 (shlK .u64 (IntKind.wrap .u64 d) n)))).length:Int)) <|
  chk (inK .i64 (i+1)) <|
  rec_ n t13 t14 (i+1) ((out.set ((i).toNat) (orK .u32 out_e (IntKind.wrap .u32 (shlK .u64 (IntKind.wrap .u64 d) n)))).set (((i+1)).toNat) (IntKind.wrap .u32 (shrK .u64 (shlK .u64 (IntKind.wrap .u64 d) n) 32)))
 )else (
  some out
 )
def ZtC:Nat→Int→ZnG→Int→Int→ZnG→Option ZnG
 |0,_,_,_,_,_=>none
 |n_+1,n,t13,t14,i,out=>ZsD (ZtC n_) n t13 t14 i out
def Zyl (n:Nat) (s:(Int×ZnG×Int×Int×ZnG)):Option ZnG:=ZtC n s.1 s.2.1 s.2.2.1 s.2.2.2.1 s.2.2.2.2
def Zvk (rec_:(Int×ZnG×Int×Int×ZnG)→Option ZnG) (s:(Int×ZnG×Int×Int×ZnG)):Option ZnG:=ZsD (fun n t13 t14 i out=>rec_ (n,t13,t14,i,out)) s.1 s.2.1 s.2.2.1 s.2.2.2.1 s.2.2.2.2
theorem ZA1:∀n s,Zyl (n+1) s=Zvk (Zyl n) s:=fun _ _=>rfl
def Zp7 (w_:ZnG) (n:Int):Option ZnG:=
 chk (inK .i64 ((w_.length:Int)+1)) <|
 chk (mkOk ((w_.length:Int)+1) ((w_.length:Int)+1) 4) <|
 (ZtC big n w_ (w_.length:Int) (0:Int) (List.replicate (((w_.length:Int)+1)).toNat (0:Int))).bind fun x0=>Zwi x0
def Zuo (x_:Int) (y:Int) (borrow:Int):Option (Int×Int):=
 chk (decide (0≤(31:Int))) <|
 some ((IntKind.wrap .u32 ((IntKind.wrap .u32 (x_ - y)) - borrow)),(shrK .u32 (orK .u32 (andK .u32 (xorK .u32 (if IntKind.signed .u32 then -1 else IntKind.max .u32) x_) y) (andK .u32 (xorK .u32 (if IntKind.signed .u32 then -1 else IntKind.max .u32) (xorK .u32 x_ y)) (IntKind.wrap .u32 ((IntKind.wrap .u32 (x_ - y)) - borrow)))) 31))
def ZvU (x_:Int) (y:Int) (carry:Int):Option (Int×Int):=
 chk (decide (0≤(32:Int))) <|
 some ((IntKind.wrap .u32 (IntKind.wrap .u64 ((IntKind.wrap .u64 ((IntKind.wrap .u64 x_)+(IntKind.wrap .u64 y)))+(IntKind.wrap .u64 carry)))),(IntKind.wrap .u32 (shrK .u64 (IntKind.wrap .u64 ((IntKind.wrap .u64 ((IntKind.wrap .u64 x_)+(IntKind.wrap .u64 y)))+(IntKind.wrap .u64 carry))) 32)))
def Zx5 (u_off:Nat) (u_len:Nat) (n:Int) (guess:Int) (add:Int) (u:ZnG):Option (Int×ZnG):=
 chk (inR n (u_len:Int)) <|
 (u[(u_off+(n).toNat)]?).bind fun u_e=>
 chk (inR n (u_len:Int)) <|
 some ((IntKind.wrap .u32 (IntKind.wrap .u64 (guess - 1))),(u.set (u_off+(n).toNat) (IntKind.wrap .u32 (u_e+add))))
def ZwU (rec_:Nat→Nat→Int→Int→Int→ZnG→Int→Int→ZnG→Option (Nat×Nat×Int×Int×Int×ZnG)) (u_off:Nat) (u_len:Nat) (n:Int) (guess:Int) (add:Int) (t130:ZnG) (t131:Int) (i:Int) (u:ZnG):Option (Nat×Nat×Int×Int×Int×ZnG):=
 bif (decide (i < t131))then (
  (idx t130 i).bind fun x_=>
  chk (inR i (u_len:Int)) <|
  (u[(u_off+(i).toNat)]?).bind fun u_e=>
  (ZvU u_e x_ add).bind fun(q,add_1)=>
  chk (inR i (u_len:Int)) <|
  chk (inK .i64 (i+1)) <|
  rec_ u_off u_len n guess add_1 t130 t131 (i+1) (u.set (u_off+(i).toNat) q)
 )else (
  some (u_off,u_len,n,guess,add,u)
 )
def Zwl:Nat→Nat→Nat→Int→Int→Int→ZnG→Int→Int→ZnG→Option (Nat×Nat×Int×Int×Int×ZnG)
 |0,_,_,_,_,_,_,_,_,_=>none
 |n_+1,u_off,u_len,n,guess,add,t130,t131,i,u=>ZwU (Zwl n_) u_off u_len n guess add t130 t131 i u
def ZA3 (n:Nat) (s:(Nat×Nat×Int×Int×Int×ZnG×Int×Int×ZnG)):Option (Nat×Nat×Int×Int×Int×ZnG):=Zwl n s.1 s.2.1 s.2.2.1 s.2.2.2.1 s.2.2.2.2.1 s.2.2.2.2.2.1 s.2.2.2.2.2.2.1 s.2.2.2.2.2.2.2.1 s.2.2.2.2.2.2.2.2
def Zze (rec_:(Nat×Nat×Int×Int×Int×ZnG×Int×Int×ZnG)→Option (Nat×Nat×Int×Int×Int×ZnG)) (s:(Nat×Nat×Int×Int×Int×ZnG×Int×Int×ZnG)):Option (Nat×Nat×Int×Int×Int×ZnG):=ZwU (fun u_off u_len n guess add t130 t131 i u=>rec_ (u_off,u_len,n,guess,add,t130,t131,i,u)) s.1 s.2.1 s.2.2.1 s.2.2.2.1 s.2.2.2.2.1 s.2.2.2.2.2.1 s.2.2.2.2.2.2.1 s.2.2.2.2.2.2.2.1 s.2.2.2.2.2.2.2.2
theorem ZCI:∀n s,ZA3 (n+1) s=Zze (ZA3 n) s:=fun _ _=>rfl
def Zz3 (u_off:Nat) (u_len:Nat) (d:ZnG) (n:Int) (guess:Int) (borrow:Int) (carry:Int) (u:ZnG):Option (Int×ZnG):=
 chk (inR n (u_len:Int)) <|
 (u[(u_off+(n).toNat)]?).bind fun u_e=>
 (Zuo u_e (IntKind.wrap .u32 carry) borrow).bind fun(q,borrow_1)=>
 chk (inR n (u_len:Int)) <|
 bif (borrow_1 == 0)then (
  some ((IntKind.wrap .u32 guess),(u.set (u_off+(n).toNat) q))
 )else (
  (Zwl big u_off u_len n guess (0:Int) d (d.length:Int) (0:Int) (u.set (u_off+(n).toNat) q)).bind fun(x0,x1,x2,x3,x4,x5)=>Zx5 x0 x1 x2 x3 x4 x5
 )
def ZwV (rec_:Nat→Nat→ZnG→Int→Int→Int→Int→ZnG→Int→Int→ZnG→Option (Nat×Nat×ZnG×Int×Int×Int×Int×ZnG)) (u_off:Nat) (u_len:Nat) (d:ZnG) (n:Int) (guess:Int) (borrow:Int) (carry:Int) (t82:ZnG) (t83:Int) (i:Int) (u:ZnG):Option (Nat×Nat×ZnG×Int×Int×Int×Int×ZnG):=
 bif (decide (i < t83))then (
  (idx t82 i).bind fun x_=>
  chk (inR i (u_len:Int)) <|
  (u[(u_off+(i).toNat)]?).bind fun u_e=>
  (Zuo u_e (IntKind.wrap .u32 (IntKind.wrap .u64 (carry+(IntKind.wrap .u64 (guess*(IntKind.wrap .u64 x_)))))) borrow).bind fun(q,borrow_1)=>
  chk (inR i (u_len:Int)) <|
  chk (decide (0≤(32:Int))) <|
  chk (inK .i64 (i+1)) <|
  rec_ u_off u_len d n guess borrow_1 (shrK .u64 (IntKind.wrap .u64 (carry+(IntKind.wrap .u64 (guess*(IntKind.wrap .u64 x_))))) 32) t82 t83 (i+1) (u.set (u_off+(i).toNat) q)
 )else (
  some (u_off,u_len,d,n,guess,borrow,carry,u)
 )
def Zx4:Nat→Nat→Nat→ZnG→Int→Int→Int→Int→ZnG→Int→Int→ZnG→Option (Nat×Nat×ZnG×Int×Int×Int×Int×ZnG)
 |0,_,_,_,_,_,_,_,_,_,_,_=>none
 |n_+1,u_off,u_len,d,n,guess,borrow,carry,t82,t83,i,u=>ZwV (Zx4 n_) u_off u_len d n guess borrow carry t82 t83 i u
def ZA4 (n:Nat) (s:(Nat×Nat×ZnG×Int×Int×Int×Int×ZnG×Int×Int×ZnG)):Option (Nat×Nat×ZnG×Int×Int×Int×Int×ZnG):=Zx4 n s.1 s.2.1 s.2.2.1 s.2.2.2.1 s.2.2.2.2.1 s.2.2.2.2.2.1 s.2.2.2.2.2.2.1 s.2.2.2.2.2.2.2.1 s.2.2.2.2.2.2.2.2.1 s.2.2.2.2.2.2.2.2.2.1 s.2.2.2.2.2.2.2.2.2.2
def Zzf (rec_:(Nat×Nat×ZnG×Int×Int×Int×Int×ZnG×Int×Int×ZnG)→Option (Nat×Nat×ZnG×Int×Int×Int×Int×ZnG)) (s:(Nat×Nat×ZnG×Int×Int×Int×Int×ZnG×Int×Int×ZnG)):Option (Nat×Nat×ZnG×Int×Int×Int×Int×ZnG):=ZwV (fun u_off u_len d n guess borrow carry t82 t83 i u=>rec_ (u_off,u_len,d,n,guess,borrow,carry,t82,t83,i,u)) s.1 s.2.1 s.2.2.1 s.2.2.2.1 s.2.2.2.2.1 s.2.2.2.2.2.1 s.2.2.2.2.2.2.1 s.2.2.2.2.2.2.2.1 s.2.2.2.2.2.2.2.2.1 s.2.2.2.2.2.2.2.2.2.1 s.2.2.2.2.2.2.2.2.2.2
theorem ZCJ:∀n s,ZA4 (n+1) s=Zzf (ZA4 n) s:=fun _ _=>rfl
def Zx6 (u_off:Nat) (u_len:Nat) (d:ZnG) (n:Int) (guess:Int) (u:ZnG):Option (Int×ZnG):=
 (Zx4 big u_off u_len d n guess (0:Int) (0:Int) d (d.length:Int) (0:Int) u).bind fun(x0,x1,x2,x3,x4,x5,x6,x7)=>Zz3 x0 x1 x2 x3 x4 x5 x6 x7
def Zwm (rec_:Nat→Nat→ZnG→Int→Int→Int→ZnG→Option (Nat×Nat×ZnG×Int×Int×ZnG)) (u_off:Nat) (u_len:Nat) (d:ZnG) (n:Int) (guess:Int) (rest:Int) (t71:Bool) (u:ZnG):Option (Nat×Nat×ZnG×Int×Int×ZnG):=
 bif t71 then (
  chk (inK .i64 (n - 1)) <|
  (idx d (n - 1)).bind fun d_e=>
  rec_ u_off u_len d n (IntKind.wrap .u64 (guess - 1)) (IntKind.wrap .u64 (rest+(IntKind.wrap .u64 d_e))) u
 )else (
  some (u_off,u_len,d,n,guess,u)
 )
def Zzg (rec_:Nat→Nat→ZnG→Int→Int→Int→ZnG→Option (Nat×Nat×ZnG×Int×Int×ZnG)) (u_off:Nat) (u_len:Nat) (d:ZnG) (n:Int) (guess:Int) (rest:Int) (u:ZnG):Option (Nat×Nat×ZnG×Int×Int×ZnG):=
 bif (decide (rest < 4294967296))then (
  chk (inK .i64 (n - 2)) <|
  (idx d (n - 2)).bind fun d_e=>
  chk (decide (0≤(32:Int))) <|
  chk (inK .i64 (n - 2)) <|
  chk (inR (n - 2) (u_len:Int)) <|
  (u[(u_off+((n - 2)).toNat)]?).bind fun u_e=>
  Zwm rec_ u_off u_len d n guess rest (decide ((IntKind.wrap .u64 (guess*(IntKind.wrap .u64 d_e))) > (orK .u64 (shlK .u64 rest 32) (IntKind.wrap .u64 u_e)))) u
 )else (
  Zwm rec_ u_off u_len d n guess rest false u
 )
def Zuq:Nat→Nat→Nat→ZnG→Int→Int→Int→ZnG→Option (Nat×Nat×ZnG×Int×Int×ZnG)
 |0,_,_,_,_,_,_,_=>none
 |n_+1,u_off,u_len,d,n,guess,rest,u=>Zzg (Zuq n_) u_off u_len d n guess rest u
def ZA5 (n:Nat) (s:(Nat×Nat×ZnG×Int×Int×Int×ZnG)):Option (Nat×Nat×ZnG×Int×Int×ZnG):=Zuq n s.1 s.2.1 s.2.2.1 s.2.2.2.1 s.2.2.2.2.1 s.2.2.2.2.2.1 s.2.2.2.2.2.2
def ZA6 (rec_:(Nat×Nat×ZnG×Int×Int×Int×ZnG)→Option (Nat×Nat×ZnG×Int×Int×ZnG)) (s:(Nat×Nat×ZnG×Int×Int×Int×ZnG)):Option (Nat×Nat×ZnG×Int×Int×ZnG):=Zzg (fun u_off u_len d n guess rest u=>rec_ (u_off,u_len,d,n,guess,rest,u)) s.1 s.2.1 s.2.2.1 s.2.2.2.1 s.2.2.2.2.1 s.2.2.2.2.2.1 s.2.2.2.2.2.2
theorem ZCK:∀n s,ZA5 (n+1) s=ZA6 (ZA5 n) s:=fun _ _=>rfl
def ZzZ (u:ZnG) (u_off:Nat) (u_len:Nat) (d:ZnG):Option (Int×ZnG):=
 chk (inR (d.length:Int) (u_len:Int)) <|
 (u[(u_off+((d.length:Int)).toNat)]?).bind fun u_e=>
 chk (decide (0≤(32:Int))) <|
 chk (inK .i64 ((d.length:Int) - 1)) <|
 chk (inR ((d.length:Int) - 1) (u_len:Int)) <|
 (u[(u_off+(((d.length:Int) - 1)).toNat)]?).bind fun u_e_1=>
 chk (inK .i64 ((d.length:Int) - 1)) <|
 (idx d ((d.length:Int) - 1)).bind fun d_e=>
 chk (decide ((IntKind.wrap .u64 d_e)≠0)) <|
 chk (inK .i64 ((d.length:Int) - 1)) <|
 (idx d ((d.length:Int) - 1)).bind fun d_e_1=>
 (Zuq big u_off u_len d (d.length:Int) (if (4294967295:Int) < (IntKind.wrap .u64 (Int.tdiv (orK .u64 (shlK .u64 (IntKind.wrap .u64 u_e) 32) (IntKind.wrap .u64 u_e_1)) (IntKind.wrap .u64 d_e)))then (4294967295:Int)else (IntKind.wrap .u64 (Int.tdiv (orK .u64 (shlK .u64 (IntKind.wrap .u64 u_e) 32) (IntKind.wrap .u64 u_e_1)) (IntKind.wrap .u64 d_e)))) (IntKind.wrap .u64 ((orK .u64 (shlK .u64 (IntKind.wrap .u64 u_e) 32) (IntKind.wrap .u64 u_e_1)) - (IntKind.wrap .u64 ((if (4294967295:Int) < (IntKind.wrap .u64 (Int.tdiv (orK .u64 (shlK .u64 (IntKind.wrap .u64 u_e) 32) (IntKind.wrap .u64 u_e_1)) (IntKind.wrap .u64 d_e)))then (4294967295:Int)else (IntKind.wrap .u64 (Int.tdiv (orK .u64 (shlK .u64 (IntKind.wrap .u64 u_e) 32) (IntKind.wrap .u64 u_e_1)) (IntKind.wrap .u64 d_e))))*(IntKind.wrap .u64 d_e_1))))) u).bind fun(x0,x1,x2,x3,x4,x5)=>Zx6 x0 x1 x2 x3 x4 x5
def ZyJ (u:ZnG) (u_off:Nat) (u_len:Nat) (d:ZnG):Option (Int×ZnG):=
 (ZzZ u u_off u_len d).bind fun r=>chk (decide (r.2.length=u.length)&&true) (some r)
def Zx3 (w_off:Nat) (w_len:Nat) (w_:ZnG):Option (Nat×Nat×ZnG):=
 some (w_off,w_len,w_)
def ZvR (rec_:Nat→Nat→ZnG→Option (Nat×Nat×ZnG)) (w_off:Nat) (w_len:Nat) (t14:Bool) (w_:ZnG):Option (Nat×Nat×ZnG):=
 bif t14 then (
  chk (inK .i64 (((w_len:Nat):Int) - 1)) <|
  chk (Zb9 0 (((w_len:Nat):Int) - 1) (w_len:Int)) <|
  rec_ (w_off+0) (((((w_len:Nat):Int) - 1)).toNat - 0) w_
 )else (
  some (w_off,w_len,w_)
 )
def Zxk (rec_:Nat→Nat→ZnG→Option (Nat×Nat×ZnG)) (w_off:Nat) (w_len:Nat) (w_:ZnG):Option (Nat×Nat×ZnG):=
 bif (decide (((w_len:Nat):Int) > 0))then (
  chk (inK .i64 (((w_len:Nat):Int) - 1)) <|
  chk (inR (((w_len:Nat):Int) - 1) (w_len:Int)) <|
  (w_[(w_off+((((w_len:Nat):Int) - 1)).toNat)]?).bind fun w__e=>
  ZvR rec_ w_off w_len (w__e == 0) w_
 )else (
  ZvR rec_ w_off w_len false w_
 )
def ZtF:Nat→Nat→Nat→ZnG→Option (Nat×Nat×ZnG)
 |0,_,_,_=>none
 |n_+1,w_off,w_len,w_=>Zxk (ZtF n_) w_off w_len w_
def ZzW (n:Nat) (s:(Nat×Nat×ZnG)):Option (Nat×Nat×ZnG):=ZtF n s.1 s.2.1 s.2.2
def ZzX (rec_:(Nat×Nat×ZnG)→Option (Nat×Nat×ZnG)) (s:(Nat×Nat×ZnG)):Option (Nat×Nat×ZnG):=Zxk (fun w_off w_len w_=>rec_ (w_off,w_len,w_)) s.1 s.2.1 s.2.2
theorem ZB4:∀n s,ZzW (n+1) s=ZzX (ZzW n) s:=fun _ _=>rfl
def Zxu (w_:ZnG) (w_off:Nat) (w_len:Nat):Option (Nat×Nat×ZnG):=
 (ZtF big w_off w_len w_).bind fun(x0,x1,x2)=>Zx3 x0 x1 x2
def Zws (w_:ZnG) (w_off:Nat) (w_len:Nat):Option (Nat×Nat×ZnG):=
 (Zxu w_ w_off w_len).bind fun r=>chk (decide (r.2.2.length=w_.length)&&true) (some r)
def ZsO (w_:ZnG) (i:Int):Option Int:=
 bif (decide (i < (w_.length:Int)))then (
  (idx w_ i).bind fun w__e=>
  some w__e
 )else (
  some (0:Int)
 )
def Zzc (w_:ZnG) (w_off:Nat) (w_len:Nat) (i:Int):Option (Int×ZnG):=
 bif (decide (i < ((w_len:Nat):Int)))then (
  chk (inR i (w_len:Int)) <|
  (w_[(w_off+(i).toNat)]?).bind fun w__e=>
  some (w__e,w_)
 )else (
  some (0,w_)
 )
def ZvP (w_:ZnG) (w_off:Nat) (w_len:Nat) (i:Int):Option (Int×ZnG):=
 (Zzc w_ w_off w_len i).bind fun r=>chk (decide (r.2.length=w_.length)&&true) (some r)
def ZxN (rest_off:Nat) (rest_len:Nat) (q:ZnG) (rest:ZnG):Option (ZnG×ZnG):=
 (Zot q).bind fun q_1=>
 (Zot ((rest.drop rest_off).take rest_len)).bind fun q_2=>
 some (q_1,q_2)
def Zt0 (rec_:Int→Nat→Nat→Int→Int→ZnG→ZnG→Option (Nat×Nat×ZnG×ZnG)) (shift:Int) (rest_off:Nat) (rest_len:Nat) (t86:Int) (i:Int) (q:ZnG) (rest:ZnG):Option (Nat×Nat×ZnG×ZnG):=
 bif (decide (i < t86))then (
  chk (inK .i64 (i+1)) <|
  (ZvP rest rest_off rest_len (i+1)).bind fun(q_1,t90)=>
  chk (decide (0≤(32:Int))) <|
  chk (inR i (rest_len:Int)) <|
  (t90[(rest_off+(i).toNat)]?).bind fun t90_e=>
  chk (decide (0≤shift)) <|
  chk (inR i (rest_len:Int)) <|
  chk (inK .i64 (i+1)) <|
  rec_ shift rest_off rest_len t86 (i+1) q (t90.set (rest_off+(i).toNat) (IntKind.wrap .u32 (shrK .u64 (orK .u64 (shlK .u64 (IntKind.wrap .u64 q_1) 32) (IntKind.wrap .u64 t90_e)) shift)))
 )else (
  some (rest_off,rest_len,q,rest)
 )
def ZsV:Nat→Int→Nat→Nat→Int→Int→ZnG→ZnG→Option (Nat×Nat×ZnG×ZnG)
 |0,_,_,_,_,_,_,_=>none
 |n_+1,shift,rest_off,rest_len,t86,i,q,rest=>Zt0 (ZsV n_) shift rest_off rest_len t86 i q rest
def ZzI (n:Nat) (s:(Int×Nat×Nat×Int×Int×ZnG×ZnG)):Option (Nat×Nat×ZnG×ZnG):=ZsV n s.1 s.2.1 s.2.2.1 s.2.2.2.1 s.2.2.2.2.1 s.2.2.2.2.2.1 s.2.2.2.2.2.2
def ZwL (rec_:(Int×Nat×Nat×Int×Int×ZnG×ZnG)→Option (Nat×Nat×ZnG×ZnG)) (s:(Int×Nat×Nat×Int×Int×ZnG×ZnG)):Option (Nat×Nat×ZnG×ZnG):=Zt0 (fun shift rest_off rest_len t86 i q rest=>rec_ (shift,rest_off,rest_len,t86,i,q,rest)) s.1 s.2.1 s.2.2.1 s.2.2.2.1 s.2.2.2.2.1 s.2.2.2.2.2.1 s.2.2.2.2.2.2
theorem ZBR:∀n s,ZzI (n+1) s=ZwL (ZzI n) s:=fun _ _=>rfl
def ZxO (n:Int) (shift:Int) (u:ZnG) (q:ZnG):Option (ZnG×ZnG):=
 chk (Zb9 0 n (u.length:Int)) <|
 (Zws u 0 ((n).toNat - 0)).bind fun(rest_off,rest_len,t83)=>
 (ZsV big shift rest_off rest_len ((rest_len:Nat):Int) (0:Int) q t83).bind fun(x0,x1,x2,x3)=>ZxN x0 x1 x2 x3
def Zt1 (rec_:Int→Int→ZnG→Int→ZnG→ZnG→Option (Int×Int×ZnG×ZnG)) (n:Int) (shift:Int) (d:ZnG) (j:Int) (u:ZnG) (q:ZnG):Option (Int×Int×ZnG×ZnG):=
 bif (decide (j≥0))then (
  chk (inK .i64 (j+n)) <|
  chk (inK .i64 ((j+n)+1)) <|
  chk (Zb9 j ((j+n)+1) (u.length:Int)) <|
  (ZyJ u ((j).toNat) ((((j+n)+1)).toNat - (j).toNat) d).bind fun(q_1,t77)=>
  chk (inR j (q.length:Int)) <|
  chk (inK .i64 (j - 1)) <|
  rec_ n shift d (j - 1) t77 (q.set ((j).toNat) q_1)
 )else (
  some (n,shift,u,q)
 )
def ZsW:Nat→Int→Int→ZnG→Int→ZnG→ZnG→Option (Int×Int×ZnG×ZnG)
 |0,_,_,_,_,_,_=>none
 |n_+1,n,shift,d,j,u,q=>Zt1 (ZsW n_) n shift d j u q
def ZzJ (n:Nat) (s:(Int×Int×ZnG×Int×ZnG×ZnG)):Option (Int×Int×ZnG×ZnG):=ZsW n s.1 s.2.1 s.2.2.1 s.2.2.2.1 s.2.2.2.2.1 s.2.2.2.2.2
def ZwM (rec_:(Int×Int×ZnG×Int×ZnG×ZnG)→Option (Int×Int×ZnG×ZnG)) (s:(Int×Int×ZnG×Int×ZnG×ZnG)):Option (Int×Int×ZnG×ZnG):=Zt1 (fun n shift d j u q=>rec_ (n,shift,d,j,u,q)) s.1 s.2.1 s.2.2.1 s.2.2.2.1 s.2.2.2.2.1 s.2.2.2.2.2
theorem ZBS:∀n s,ZzJ (n+1) s=ZwM (ZzJ n) s:=fun _ _=>rfl
def Zre (w_:ZnG) (v_:ZnG):Option (ZnG×ZnG):=
 (Zpg w_ v_).bind fun q=>
 bif (decide (q < 0))then (
  (Zo2 w_).bind fun q_1=>
  some (([]:ZnG),q_1)
 )else (
  bif ((v_.length:Int) == 1)then (
   (idx v_ 0).bind fun v__e=>
   (Zuj w_ v__e).bind fun(q_2,r_)=>
   (Zot ([r_]:ZnG)).bind fun q_3=>
   some (q_2,q_3)
  )else (
   chk (inK .i64 ((v_.length:Int) - 1)) <|
   (idx v_ ((v_.length:Int) - 1)).bind fun v__e_1=>
   (ZrK v__e_1).bind fun shift=>
   (Zp7 w_ shift).bind fun u=>
   (Zp7 v_ shift).bind fun q_4=>
   chk (Zb9 0 (v_.length:Int) (q_4.length:Int)) <|
   chk (inK .i64 ((w_.length:Int) - (v_.length:Int))) <|
   chk (inK .i64 (((w_.length:Int) - (v_.length:Int))+1)) <|
   chk (mkOk (((w_.length:Int) - (v_.length:Int))+1) (((w_.length:Int) - (v_.length:Int))+1) 4) <|
   chk (inK .i64 (((List.replicate ((((w_.length:Int) - (v_.length:Int))+1)).toNat (0:Int)).length:Int) - 1)) <|
   (ZsW big (v_.length:Int) shift ((q_4.drop 0).take (((v_.length:Int)).toNat - 0)) (((List.replicate ((((w_.length:Int) - (v_.length:Int))+1)).toNat (0:Int)).length:Int) - 1) u (List.replicate ((((w_.length:Int) - (v_.length:Int))+1)).toNat (0:Int))).bind fun(x0,x1,x2,x3)=>ZxO x0 x1 x2 x3
  )
 )
def ZwN (w_:ZnG):Option ZnG:=
 some w_
def ZqV (rec_:ZnG→ZnG→Option ZnG) (w_:ZnG) (v_:ZnG):Option ZnG:=
 bif (decide ((v_.length:Int) > 0))then (
  (Zre w_ v_).bind fun(q,r_)=>
  rec_ v_ r_
 )else (
  some w_
 )
def Zpx:Nat→ZnG→ZnG→Option ZnG
 |0,_,_=>none
 |n_+1,w_,v_=>ZqV (Zpx n_) w_ v_
def Zrt (w_:ZnG) (v_:ZnG):Option ZnG:=
 (Zpx big w_ v_).bind fun x0=>ZwN x0
def Zur (t2:Bool):Option Bool:=
 some t2
def Zrf (f:ZnC):Option Bool:=
 (ZxP ([f.Num,f.Den]:(List ZnK))).bind fun q=>
 bif q then (
  bif (decide ((f.Den.Words.length:Int) > 0))then (
   bif (!f.Den.Neg)then (
    (Zrt f.Num.Words f.Den.Words).bind fun q_1=>
    (Zpg q_1 ([1]:List Int)).bind fun q_2=>
    Zur (q_2 == 0)
   )else (
    Zur false
   )
  )else (
   Zur false
  )
 )else (
  Zur false
 )
def Zxg (out:ZnG):Option ZnG:=
 (Zot out).bind fun q=>
 some q
def Zxh (rec_:ZnG→ZnG→Int→Int→ZnG→Option ZnG) (v_:ZnG) (i:Int) (carry:Int) (t17:ZnG) (t18:Int) (i_1:Int) (out:ZnG):Option ZnG:=
 chk (inK .i64 (i+(v_.length:Int))) <|
 chk (inR (i+(v_.length:Int)) (out.length:Int)) <|
 chk (inK .i64 (i_1+1)) <|
 rec_ v_ t17 t18 (i_1+1) (out.set (((i+(v_.length:Int))).toNat) (IntKind.wrap .u32 carry))
def Ztz (rec_:ZnG→Int→Int→Int→ZnG→Int→Int→ZnG→Int→Int→ZnG→Option (ZnG×Int×Int×ZnG×Int×Int×ZnG)) (v_:ZnG) (i:Int) (x_:Int) (carry:Int) (t17:ZnG) (t18:Int) (i_1:Int) (t24:ZnG) (t25:Int) (j:Int) (out:ZnG):Option (ZnG×Int×Int×ZnG×Int×Int×ZnG):=
 bif (decide (j < t25))then (
  (idx t24 j).bind fun y=>
  chk (inK .i64 (i+j)) <|
  chk (inR (i+j) (out.length:Int)) <|
  (out[((i+j)).toNat]?).bind fun out_e=>
  chk (inK .i64 (i+j)) <|
  chk (inR (i+j) (out.length:Int)) <|
  chk (decide (0≤(32:Int))) <|
  chk (inK .i64 (j+1)) <|
  rec_ v_ i x_ (shrK .u64 (IntKind.wrap .u64 (carry+(IntKind.wrap .u64 ((IntKind.wrap .u64 ((IntKind.wrap .u64 x_)*(IntKind.wrap .u64 y)))+(IntKind.wrap .u64 out_e))))) 32) t17 t18 i_1 t24 t25 (j+1) (out.set (((i+j)).toNat) (IntKind.wrap .u32 (IntKind.wrap .u64 (carry+(IntKind.wrap .u64 ((IntKind.wrap .u64 ((IntKind.wrap .u64 x_)*(IntKind.wrap .u64 y)))+(IntKind.wrap .u64 out_e)))))))
 )else (
  some (v_,i,carry,t17,t18,i_1,out)
 )
def ZuH:Nat→ZnG→Int→Int→Int→ZnG→Int→Int→ZnG→Int→Int→ZnG→Option (ZnG×Int×Int×ZnG×Int×Int×ZnG)
 |0,_,_,_,_,_,_,_,_,_,_,_=>none
 |n_+1,v_,i,x_,carry,t17,t18,i_1,t24,t25,j,out=>Ztz (ZuH n_) v_ i x_ carry t17 t18 i_1 t24 t25 j out
def Zy8 (n:Nat) (s:(ZnG×Int×Int×Int×ZnG×Int×Int×ZnG×Int×Int×ZnG)):Option (ZnG×Int×Int×ZnG×Int×Int×ZnG):=ZuH n s.1 s.2.1 s.2.2.1 s.2.2.2.1 s.2.2.2.2.1 s.2.2.2.2.2.1 s.2.2.2.2.2.2.1 s.2.2.2.2.2.2.2.1 s.2.2.2.2.2.2.2.2.1 s.2.2.2.2.2.2.2.2.2.1 s.2.2.2.2.2.2.2.2.2.2
def Zwf (rec_:(ZnG×Int×Int×Int×ZnG×Int×Int×ZnG×Int×Int×ZnG)→Option (ZnG×Int×Int×ZnG×Int×Int×ZnG)) (s:(ZnG×Int×Int×Int×ZnG×Int×Int×ZnG×Int×Int×ZnG)):Option (ZnG×Int×Int×ZnG×Int×Int×ZnG):=Ztz (fun v_ i x_ carry t17 t18 i_1 t24 t25 j out=>rec_ (v_,i,x_,carry,t17,t18,i_1,t24,t25,j,out)) s.1 s.2.1 s.2.2.1 s.2.2.2.1 s.2.2.2.2.1 s.2.2.2.2.2.1 s.2.2.2.2.2.2.1 s.2.2.2.2.2.2.2.1 s.2.2.2.2.2.2.2.2.1 s.2.2.2.2.2.2.2.2.2.1 s.2.2.2.2.2.2.2.2.2.2
theorem ZBG:∀n s,Zy8 (n+1) s=Zwf (Zy8 n) s:=fun _ _=>rfl
def ZtA (rec_:ZnG→ZnG→Int→Int→ZnG→Option ZnG) (v_:ZnG) (t17:ZnG) (t18:Int) (i:Int) (out:ZnG):Option ZnG:=
 bif (decide (i < t18))then (
  (idx t17 i).bind fun x_=>
  (ZuH big v_ i x_ (0:Int) t17 t18 i v_ (v_.length:Int) (0:Int) out).bind fun(x0,x1,x2,x3,x4,x5,x6)=>Zxh rec_ x0 x1 x2 x3 x4 x5 x6
 )else (
  some out
 )
def Zss:Nat→ZnG→ZnG→Int→Int→ZnG→Option ZnG
 |0,_,_,_,_,_=>none
 |n_+1,v_,t17,t18,i,out=>ZtA (Zss n_) v_ t17 t18 i out
def Zy9 (n:Nat) (s:(ZnG×ZnG×Int×Int×ZnG)):Option ZnG:=Zss n s.1 s.2.1 s.2.2.1 s.2.2.2.1 s.2.2.2.2
def Zwg (rec_:(ZnG×ZnG×Int×Int×ZnG)→Option ZnG) (s:(ZnG×ZnG×Int×Int×ZnG)):Option ZnG:=ZtA (fun v_ t17 t18 i out=>rec_ (v_,t17,t18,i,out)) s.1 s.2.1 s.2.2.1 s.2.2.2.1 s.2.2.2.2
theorem ZBH:∀n s,Zy9 (n+1) s=Zwg (Zy9 n) s:=fun _ _=>rfl
def ZqP (w_:ZnG) (v_:ZnG):Option ZnG:=
 chk (inK .i64 ((w_.length:Int)+(v_.length:Int))) <|
 chk (mkOk ((w_.length:Int)+(v_.length:Int)) ((w_.length:Int)+(v_.length:Int)) 4) <|
 (Zss big v_ w_ (w_.length:Int) (0:Int) (List.replicate (((w_.length:Int)+(v_.length:Int))).toNat (0:Int))).bind fun x0=>Zxg x0
def Zxv (t4:Bool) (t4_1:ZnG):Option ZnK:=
 some (ZnK.mk t4 t4_1)
def ZoQ (neg:Bool) (w_:ZnG):Option ZnK:=
 bif neg then (
  chk (ZiZ w_.length 4) <|
  Zxv (decide ((w_.length:Int) > 0)) w_
 )else (
  chk (ZiZ w_.length 4) <|
  Zxv false w_
 )
def Zou (a:ZnK) (b:ZnK):Option ZnK:=
 (ZqP a.Words b.Words).bind fun q=>
 (ZoQ (!(a.Neg == b.Neg)) q).bind fun q_1=>
 some q_1
def Zwt (t2:ZnK):Option ZnK:=
 some t2
def ZsP (a:ZnK):Option ZnK:=
 bif (!a.Neg)then (
  Zwt (ZnK.mk (decide ((a.Words.length:Int) > 0)) a.Words)
 )else (
  Zwt (ZnK.mk false a.Words)
 )
def ZxM (carry:Int) (out:ZnG):Option ZnG:=
 chk (ZiZ (out.length+([carry]:ZnG).length) 4) <|
 (Zot (out++([carry]:ZnG))).bind fun q=>
 some q
def ZtZ (rec_:ZnG→ZnG→Int→Int→Int→ZnG→Option (Int×ZnG)) (w_:ZnG) (v_:ZnG) (carry:Int) (t20:Int) (i:Int) (out:ZnG):Option (Int×ZnG):=
 bif (decide (i < t20))then (
  (ZsO w_ i).bind fun q=>
  (ZsO v_ i).bind fun q_1=>
  (ZvU q q_1 carry).bind fun(d,carry_1)=>
  chk (ZiZ (out.length+([d]:ZnG).length) 4) <|
  chk (inK .i64 (i+1)) <|
  rec_ w_ v_ carry_1 t20 (i+1) (out++([d]:ZnG))
 )else (
  some (carry,out)
 )
def Zu5:Nat→ZnG→ZnG→Int→Int→Int→ZnG→Option (Int×ZnG)
 |0,_,_,_,_,_,_=>none
 |n_+1,w_,v_,carry,t20,i,out=>ZtZ (Zu5 n_) w_ v_ carry t20 i out
def ZzH (n:Nat) (s:(ZnG×ZnG×Int×Int×Int×ZnG)):Option (Int×ZnG):=Zu5 n s.1 s.2.1 s.2.2.1 s.2.2.2.1 s.2.2.2.2.1 s.2.2.2.2.2
def ZwK (rec_:(ZnG×ZnG×Int×Int×Int×ZnG)→Option (Int×ZnG)) (s:(ZnG×ZnG×Int×Int×Int×ZnG)):Option (Int×ZnG):=ZtZ (fun w_ v_ carry t20 i out=>rec_ (w_,v_,carry,t20,i,out)) s.1 s.2.1 s.2.2.1 s.2.2.2.1 s.2.2.2.2.1 s.2.2.2.2.2
theorem ZBQ:∀n s,ZzH (n+1) s=ZwK (ZzH n) s:=fun _ _=>rfl
def ZsU (w_:ZnG) (v_:ZnG):Option ZnG:=
 chk (inK .i64 ((if (v_.length:Int) > (w_.length:Int)then (v_.length:Int)else (w_.length:Int))+1)) <|
 chk (mkOk 0 ((if (v_.length:Int) > (w_.length:Int)then (v_.length:Int)else (w_.length:Int))+1) 4) <|
 (Zu5 big w_ v_ (0:Int) (if (v_.length:Int) > (w_.length:Int)then (v_.length:Int)else (w_.length:Int)) (0:Int) (List.replicate ((0:Int)).toNat (0:Int))).bind fun(x0,x1)=>ZxM x0 x1
def Zxj (out:ZnG):Option ZnG:=
 (Zot out).bind fun q=>
 some q
def ZtD (rec_:ZnG→ZnG→Int→Int→Int→ZnG→Option ZnG) (w_:ZnG) (v_:ZnG) (borrow:Int) (t12:Int) (i:Int) (out:ZnG):Option ZnG:=
 bif (decide (i < t12))then (
  (idx w_ i).bind fun w__e=>
  (ZsO v_ i).bind fun q=>
  (Zuo w__e q borrow).bind fun(q_1,borrow_1)=>
  chk (inR i (out.length:Int)) <|
  chk (inK .i64 (i+1)) <|
  rec_ w_ v_ borrow_1 t12 (i+1) (out.set ((i).toNat) q_1)
 )else (
  some out
 )
def ZuJ:Nat→ZnG→ZnG→Int→Int→Int→ZnG→Option ZnG
 |0,_,_,_,_,_,_=>none
 |n_+1,w_,v_,borrow,t12,i,out=>ZtD (ZuJ n_) w_ v_ borrow t12 i out
def Zzb (n:Nat) (s:(ZnG×ZnG×Int×Int×Int×ZnG)):Option ZnG:=ZuJ n s.1 s.2.1 s.2.2.1 s.2.2.2.1 s.2.2.2.2.1 s.2.2.2.2.2
def Zwj (rec_:(ZnG×ZnG×Int×Int×Int×ZnG)→Option ZnG) (s:(ZnG×ZnG×Int×Int×Int×ZnG)):Option ZnG:=ZtD (fun w_ v_ borrow t12 i out=>rec_ (w_,v_,borrow,t12,i,out)) s.1 s.2.1 s.2.2.1 s.2.2.2.1 s.2.2.2.2.1 s.2.2.2.2.2
theorem ZBJ:∀n s,Zzb (n+1) s=Zwj (Zzb n) s:=fun _ _=>rfl
def Zr3 (w_:ZnG) (v_:ZnG):Option ZnG:=
 chk (mkOk (w_.length:Int) (w_.length:Int) 4) <|
 (ZuJ big w_ v_ (0:Int) (w_.length:Int) (0:Int) (List.replicate ((w_.length:Int)).toNat (0:Int))).bind fun x0=>Zxj x0
def Zxl (a:ZnK) (b:ZnK):Option ZnK:=
 bif (a.Neg == b.Neg)then (
  (ZsU a.Words b.Words).bind fun q=>
  (ZoQ a.Neg q).bind fun q_1=>
  some q_1
 )else (
  (Zpg a.Words b.Words).bind fun q_2=>
  bif (decide (q_2≥0))then (
   (Zr3 a.Words b.Words).bind fun q_3=>
   (ZoQ a.Neg q_3).bind fun q_4=>
   some q_4
  )else (
   (Zr3 b.Words a.Words).bind fun q_5=>
   (ZoQ b.Neg q_5).bind fun q_6=>
   some q_6
  )
 )
def ZzD (t13:Bool) (a:ZnC) (b:ZnC):Option Int:=
 bif t13 then (
  some (0:Int)
 )else (
  (Zou a.Num b.Den).bind fun q=>
  (Zou b.Num a.Den).bind fun q_1=>
  (ZsP q_1).bind fun q_2=>
  (Zxl q q_2).bind fun d=>
  bif d.Neg then (
   some (-1:Int)
  )else (
   bif (decide ((d.Words.length:Int) > 0))then (
    some (1:Int)
   )else (
    some (0:Int)
   )
  )
 )
def ZuK (a:ZnC) (b:ZnC):Option Int:=
 (Zrf a).bind fun q=>
 bif (!q)then (
  ZzD true a b
 )else (
  (Zrf b).bind fun q_1=>
  ZzD (!q_1) a b
 )
def ZAn (i:Int):Option Int:=
 some i
def ZyH (rec_:ZoK→Int→ZnC→Option Int) (l:ZoK) (i:Int) (t19:Bool) (x_:ZnC):Option Int:=
 bif t19 then (
  chk (inK .i64 (i+1)) <|
  rec_ l (i+1) x_
 )else (
  some i
 )
def ZzN (rec_:ZoK→Int→ZnC→Option Int) (l:ZoK) (i:Int) (x_:ZnC):Option Int:=
 bif (decide (i < (l.length:Int)))then (
  (idx l i).bind fun l_e=>
  (ZuK l_e x_).bind fun q=>
  ZyH rec_ l i (decide (q≤0)) x_
 )else (
  ZyH rec_ l i false x_
 )
def ZwR:Nat→ZoK→Int→ZnC→Option Int
 |0,_,_,_=>none
 |n_+1,l,i,x_=>ZzN (ZwR n_) l i x_
def ZBm (n:Nat) (s:(ZoK×Int×ZnC)):Option Int:=ZwR n s.1 s.2.1 s.2.2
def ZBn (rec_:(ZoK×Int×ZnC)→Option Int) (s:(ZoK×Int×ZnC)):Option Int:=ZzN (fun l i x_=>rec_ (l,i,x_)) s.1 s.2.1 s.2.2
theorem ZCP:∀n s,ZBm (n+1) s=ZBn (ZBm n) s:=fun _ _=>rfl
def ZxH (l:ZoK) (i:Int) (x_:ZnC):Option Int:=
 (ZwR big l i x_).bind fun x0=>ZAn x0
def ZtG (n:Int):Option ZnG:=
 chk (decide (0≤(32:Int))) <|
 (Zot ([(IntKind.wrap .u32 n),(IntKind.wrap .u32 (shrK .u64 n 32))]:ZnG)).bind fun q=>
 some q
def Zu6 (n:Int):Option ZnK:=
 bif (decide (n < 0))then (
  (ZtG (IntKind.wrap .u64 (0 - (IntKind.wrap .u64 n)))).bind fun q=>
  (ZoQ true q).bind fun q_1=>
  some q_1
 )else (
  (ZtG (IntKind.wrap .u64 n)).bind fun q_2=>
  (ZoQ false q_2).bind fun q_3=>
  some q_3
 )
def ZrW (num:ZnK) (den:ZnK):Option ZnC:=
 (Zrt num.Words den.Words).bind fun g=>
 (Zre num.Words g).bind fun(x_,q)=>
 (Zre den.Words g).bind fun(y,q_1)=>
 (ZoQ (!(num.Neg == den.Neg)) x_).bind fun q_2=>
 (ZoQ false y).bind fun q_3=>
 some (ZnC.mk q_2 q_3)
def Zzh (num:ZnK) (den:ZnK):Option (ZnC×Int):=
 (ZxP ([num,den]:(List ZnK))).bind fun q=>
 bif (!q)then (
  some ((ZnC.mk (ZnK.mk false ([]:ZnG)) (ZnK.mk false ([]:ZnG))),1)
 )else (
  bif ((den.Words.length:Int) == 0)then (
   some ((ZnC.mk (ZnK.mk false ([]:ZnG)) (ZnK.mk false ([]:ZnG))),8)
  )else (
   (ZrW num den).bind fun q_1=>
   some (q_1,0)
  )
 )
def ZzC (num:Int) (den:Int):Option (ZnC×Int):=
 (Zu6 num).bind fun q=>
 (Zu6 den).bind fun q_1=>
 (Zzh q q_1).bind fun(q_2,q_3)=>
 some (q_2,q_3)
def ZAK:Option ZnC:=
 (ZzC 0 1).bind fun(f,q)=>
 some f
def ZCv (a:Int) (b:Int):Option ZnC:=
 (ZzC a b).bind fun(f,e)=>
 bif (e != 0)then (
  (ZAK).bind fun q=>
  some q
 )else (
  some f
 )
def Zyt (a:ZoK) (b:ZoK) (most:Int) (t4:Bool) (t4_1:Bool) (t4_2:ZnG) (t4_3:ZnG):Option (ZnC×Int):=
 chk (inK .i64 ((a.length:Int)*(b.length:Int))) <|
 (ZCv most ((a.length:Int)*(b.length:Int))).bind fun q=>
 some (q,0)
def Zuh (rec_:ZoK→ZoK→Int→Int→Int→Bool→Bool→ZnG→ZnG→Option (ZoK×ZoK×Int×Bool×Bool×ZnG×ZnG)) (a:ZoK) (b:ZoK) (most:Int) (i:Int) (k:Int) (t4:Bool) (t4_1:Bool) (x_:ZnC) (t4_2:ZnG) (t4_3:ZnG):Option (ZoK×ZoK×Int×Bool×Bool×ZnG×ZnG):=
 (ZxH a i x_).bind fun i_1=>
 (ZxH b k x_).bind fun k_1=>
 chk (inK .i64 (i_1*(b.length:Int))) <|
 chk (inK .i64 (k_1*(a.length:Int))) <|
 chk (inK .i64 ((i_1*(b.length:Int)) - (k_1*(a.length:Int)))) <|
 chk (inK .i64 (k_1*(a.length:Int))) <|
 chk (inK .i64 (i_1*(b.length:Int))) <|
 chk (inK .i64 ((k_1*(a.length:Int)) - (i_1*(b.length:Int)))) <|
 rec_ a b (if ((k_1*(a.length:Int)) - (i_1*(b.length:Int))) > (if ((i_1*(b.length:Int)) - (k_1*(a.length:Int))) > most then ((i_1*(b.length:Int)) - (k_1*(a.length:Int)))else most)then ((k_1*(a.length:Int)) - (i_1*(b.length:Int)))else (if ((i_1*(b.length:Int)) - (k_1*(a.length:Int))) > most then ((i_1*(b.length:Int)) - (k_1*(a.length:Int)))else most)) i_1 k_1 t4 t4_1 t4_2 t4_3
def Zwr (rec_:ZoK→ZoK→Int→Int→Int→Bool→Bool→ZnG→ZnG→Option (ZoK×ZoK×Int×Bool×Bool×ZnG×ZnG)) (a:ZoK) (b:ZoK) (most:Int) (i:Int) (k:Int) (t28:Bool) (t4:Bool) (t4_1:Bool) (t4_2:ZnG) (t4_3:ZnG):Option (ZoK×ZoK×Int×Bool×Bool×ZnG×ZnG):=
 bif t28 then (
  (idx a i).bind fun x_=>
  (idx b k).bind fun b_e=>
  (ZuK b_e x_).bind fun q=>
  bif (decide (q < 0))then (
   (idx b k).bind fun x__1=>
   Zuh rec_ a b most i k t4 t4_1 x__1 t4_2 t4_3
  )else (
   Zuh rec_ a b most i k t4 t4_1 x_ t4_2 t4_3
  )
 )else (
  some (a,b,most,t4,t4_1,t4_2,t4_3)
 )
def ZxJ (rec_:ZoK→ZoK→Int→Int→Int→Bool→Bool→ZnG→ZnG→Option (ZoK×ZoK×Int×Bool×Bool×ZnG×ZnG)) (a:ZoK) (b:ZoK) (most:Int) (i:Int) (k:Int) (t4:Bool) (t4_1:Bool) (t4_2:ZnG) (t4_3:ZnG):Option (ZoK×ZoK×Int×Bool×Bool×ZnG×ZnG):=
 bif (decide (i < (a.length:Int)))then (
  Zwr rec_ a b most i k (decide (k < (b.length:Int))) t4 t4_1 t4_2 t4_3
 )else (
  Zwr rec_ a b most i k false t4 t4_1 t4_2 t4_3
 )
def Zr2:Nat→ZoK→ZoK→Int→Int→Int→Bool→Bool→ZnG→ZnG→Option (ZoK×ZoK×Int×Bool×Bool×ZnG×ZnG)
 |0,_,_,_,_,_,_,_,_,_=>none
 |n_+1,a,b,most,i,k,t4,t4_1,t4_2,t4_3=>ZxJ (Zr2 n_) a b most i k t4 t4_1 t4_2 t4_3
def ZAb (n:Nat) (s:(ZoK×ZoK×Int×Int×Int×Bool×Bool×ZnG×ZnG)):Option (ZoK×ZoK×Int×Bool×Bool×ZnG×ZnG):=Zr2 n s.1 s.2.1 s.2.2.1 s.2.2.2.1 s.2.2.2.2.1 s.2.2.2.2.2.1 s.2.2.2.2.2.2.1 s.2.2.2.2.2.2.2.1 s.2.2.2.2.2.2.2.2
def ZAc (rec_:(ZoK×ZoK×Int×Int×Int×Bool×Bool×ZnG×ZnG)→Option (ZoK×ZoK×Int×Bool×Bool×ZnG×ZnG)) (s:(ZoK×ZoK×Int×Int×Int×Bool×Bool×ZnG×ZnG)):Option (ZoK×ZoK×Int×Bool×Bool×ZnG×ZnG):=ZxJ (fun a b most i k t4 t4_1 t4_2 t4_3=>rec_ (a,b,most,i,k,t4,t4_1,t4_2,t4_3)) s.1 s.2.1 s.2.2.1 s.2.2.2.1 s.2.2.2.2.1 s.2.2.2.2.2.1 s.2.2.2.2.2.2.1 s.2.2.2.2.2.2.2.1 s.2.2.2.2.2.2.2.2
theorem ZCf:∀n s,ZAb (n+1) s=ZAc (ZAb n) s:=fun _ _=>rfl
def Zui (a:ZoK) (b:ZoK) (t17:Bool) (t4:Bool) (t4_1:Bool) (t4_2:ZnG) (t4_3:ZnG):Option (ZnC×Int):=
 bif t17 then (
  some ((ZnC.mk (ZnK.mk false ([]:ZnG)) (ZnK.mk false ([]:ZnG))),5)
 )else (
  (Zr2 big a b (0:Int) (0:Int) (0:Int) t4 t4_1 t4_2 t4_3).bind fun(x0,x1,x2,x3,x4,x5,x6)=>Zyt x0 x1 x2 x3 x4 x5 x6
 )
def Zpc (a:ZoK) (b:ZoK):Option (ZnC×Int):=
 bif ((a.length:Int) == 0)then (
  Zui a b true false false ([]:ZnG) ([]:ZnG)
 )else (
  Zui a b ((b.length:Int) == 0) false false ([]:ZnG) ([]:ZnG)
 )
def Zvd:Option Bool:=
 some true
def Zrh (rec_:ZnG→Int→Int→ZnK→Option (Out Unit Bool)) (t22:ZnG) (t23:Int) (i:Int) (b:ZnK):Option (Out Unit Bool):=
 bif (decide (i < t23))then (
  (idx t22 i).bind fun w_=>
  (idx b.Words i).bind fun Word=>
  bif (Word != w_)then (
   some (.ret false)
  )else (
   chk (inK .i64 (i+1)) <|
   rec_ t22 t23 (i+1) b
  )
 )else (
  some (.brk ())
 )
def Zsw:Nat→ZnG→Int→Int→ZnK→Option (Out Unit Bool)
 |0,_,_,_,_=>none
 |n_+1,t22,t23,i,b=>Zrh (Zsw n_) t22 t23 i b
def ZxC (n:Nat) (s:(ZnG×Int×Int×ZnK)):Option (Out Unit Bool):=Zsw n s.1 s.2.1 s.2.2.1 s.2.2.2
def Zul (rec_:(ZnG×Int×Int×ZnK)→Option (Out Unit Bool)) (s:(ZnG×Int×Int×ZnK)):Option (Out Unit Bool):=Zrh (fun t22 t23 i b=>rec_ (t22,t23,i,b)) s.1 s.2.1 s.2.2.1 s.2.2.2
theorem ZAx:∀n s,ZxC (n+1) s=Zul (ZxC n) s:=fun _ _=>rfl
def Zsx (t20:Bool) (a:ZnK) (b:ZnK):Option Bool:=
 bif t20 then (
  some false
 )else (
  (Zsw big a.Words (a.Words.length:Int) (0:Int) b).bind fun
   | .ret q_=>some q_
   | .brk ()=>Zvd
 )
def Zqi (a:ZnK) (b:ZnK):Option Bool:=
 bif (!(a.Neg == b.Neg))then (
  Zsx true a b
 )else (
  Zsx ((a.Words.length:Int) != (b.Words.length:Int)) a b
 )
def ZtU (t4:Bool):Option Bool:=
 some t4
def ZoD (a:ZnC) (b:ZnC):Option Bool:=
 (Zqi a.Num b.Num).bind fun q=>
 bif q then (
  (Zqi a.Den b.Den).bind fun q_1=>
  ZtU q_1
 )else (
  ZtU false
 )
def ZBt:Option (List (Int×ZpR)):=
 some (setB (k:=(.int .i64)) (v:=(.st 4)) (car:=Zz5) (setB (k:=(.int .i64)) (v:=(.st 4)) (car:=Zz5) (setB (k:=(.int .i64)) (v:=(.st 4)) (car:=Zz5) (setB (k:=(.int .i64)) (v:=(.st 4)) (car:=Zz5) (setB (k:=(.int .i64)) (v:=(.st 4)) (car:=Zz5) ([]:(List (Int×ZpR))) 1 (ZpR.mk ([116,101,120,116]:Str) (none:Option Nat) (some 237:Option Nat))) 2 (ZpR.mk ([98,111,111,108]:Str) (some 238:Option Nat) (some 239:Option Nat))) 3 (ZpR.mk ([105,110,116,101,103,101,114]:Str) (some 240:Option Nat) (some 241:Option Nat))) 4 (ZpR.mk ([100,101,99,105,109,97,108]:Str) (some 242:Option Nat) (some 241:Option Nat))) 5 (ZpR.mk ([100,97,116,101]:Str) (some 243:Option Nat) (some 244:Option Nat)))
def ZCe (s cs:Str):Option Str:=
 chk (cs.all fun b=>decide (b.toNat < 128)) <| chk (decide (cs.length < 4294967281)) <| some (Lib.trimS s cs)
def ZDi (s:Str):Option Str:=
 (ZCe s ([32]:Str)).bind fun q=>
 some q
def ZsN (t4:Bool):Option Bool:=
 some t4
def Zq6 (s:Str) (prefix_:Str):Option Bool:=
 bif (decide ((s.length:Int)≥(prefix_.length:Int)))then (
  chk (Zb9 0 (prefix_.length:Int) (s.length:Int)) <|
  ZsN ((s.take ((prefix_.length:Int)).toNat) == prefix_)
 )else (
  ZsN false
 )
def ZtP (s:Str) (prefix_:Str):Option (Str×Bool):=
 (Zq6 s prefix_).bind fun q=>
 bif (!q)then (
  some (s,false)
 )else (
  chk (Zb9 (prefix_.length:Int) (s.length:Int) (s.length:Int)) <|
  some ((s.drop ((prefix_.length:Int)).toNat),true)
 )
def Zz0 (s:Str) (prefix_:Str):Option (Str×Bool):=
 (ZtP s prefix_).bind fun(after,found)=>
 some (after,found)
def Zty (s:Str) (prefix_:Str):Option Str:=
 (Zq6 s prefix_).bind fun q=>
 bif q then (
  chk (Zb9 (prefix_.length:Int) (s.length:Int) (s.length:Int)) <|
  some (s.drop ((prefix_.length:Int)).toNat)
 )else (
  some s
 )
def ZzL (s:Str) (prefix_:Str):Option Str:=
 (Zty s prefix_).bind fun q=>
 some q
def ZtO (s:Str) (c:Int):Option Int:=
 some (Lib.indexByte s c.toNat.toUInt8)
def Zup (s:Str) (substr:Str) (n:Int) (t16:Bool):Option Int:=
 bif t16 then (
  some (0:Int)
 )else (
  bif (n == 1)then (
   (idx substr 0).bind fun c=>
   (ZtO s ((c.toNat:Nat):Int)).bind fun q=>
   some q
  )else (
   bif (decide (n≥(s.length:Int)))then (
    some (-1:Int)
   )else (
    none
   )
  )
 )
def ZvO (s:Str) (substr:Str):Option Int:=
 bif ((substr.length:Int) == 0)then (
  Zup s substr (substr.length:Int) true
 )else (
  Zup s substr (substr.length:Int) (substr == s)
 )
def ZwJ (s:Str) (sep:Str):Option (Str×Str×Bool):=
 (ZvO s sep).bind fun i=>
 bif (decide (i≥0))then (
  chk (Zb9 0 i (s.length:Int)) <|
  chk (inK .i64 (i+(sep.length:Int))) <|
  chk (Zb9 (i+(sep.length:Int)) (s.length:Int) (s.length:Int)) <|
  some ((s.take (i).toNat),(s.drop ((i+(sep.length:Int))).toNat),true)
 )else (
  some (s,([]:Str),false)
 )
def ZBF (s:Str) (sep:Str):Option (Str×Str×Bool):=
 (ZwJ s sep).bind fun(before,after,found)=>
 some (before,after,found)
def Zxw (t4:Bool):Option Bool:=
 some t4
def ZzB (s:Str) (most:Int):Option Bool:=
 bif (decide ((s.length:Int)≥1))then (
  bif (decide ((s.length:Int)≤most))then (
   (ZCe s ([48,49,50,51,52,53,54,55,56,57]:Str)).bind fun q=>
   Zxw (q == ([]:Str))
  )else (
   Zxw false
  )
 )else (
  Zxw false
 )
def ZwW (neg:Bool) (num:ZnG) (den:ZnG) (t2:Bool) (t2_1:Bool) (t2_2:ZnG) (t2_3:ZnG):Option (ZnC×Bool):=
 (ZoQ neg num).bind fun q=>
 (ZoQ false den).bind fun q_1=>
 (ZrW q q_1).bind fun q_2=>
 some (q_2,true)
def ZCw (rec_:Bool→ZnG→ZnG→ZnG→Int→Int→Bool→Bool→ZnG→ZnG→Option (Bool×ZnG×ZnG×Bool×Bool×ZnG×ZnG)) (neg:Bool) (num:ZnG) (ten:ZnG) (den:ZnG) (t63:Int) (t64:Int) (t2:Bool) (t2_1:Bool) (t2_2:ZnG) (t2_3:ZnG):Option (Bool×ZnG×ZnG×Bool×Bool×ZnG×ZnG):=
 bif (decide (t64 < t63))then (
  (ZqP den ten).bind fun den_1=>
  chk (inK .i64 (t64+1)) <|
  rec_ neg num ten den_1 t63 (t64+1) t2 t2_1 t2_2 t2_3
 )else (
  some (neg,num,den,t2,t2_1,t2_2,t2_3)
 )
def Zzi:Nat→Bool→ZnG→ZnG→ZnG→Int→Int→Bool→Bool→ZnG→ZnG→Option (Bool×ZnG×ZnG×Bool×Bool×ZnG×ZnG)
 |0,_,_,_,_,_,_,_,_,_,_=>none
 |n_+1,neg,num,ten,den,t63,t64,t2,t2_1,t2_2,t2_3=>ZCw (Zzi n_) neg num ten den t63 t64 t2 t2_1 t2_2 t2_3
def ZA7 (neg:Bool) (back:Str) (num:ZnG) (ten:ZnG) (t2:Bool) (t2_1:Bool) (den:ZnG) (t2_2:ZnG) (t2_3:ZnG):Option (ZnC×Bool):=
 (Zzi big neg num ten den (back.length:Int) (0:Int) t2 t2_1 t2_2 t2_3).bind fun(x0,x1,x2,x3,x4,x5,x6)=>ZwW x0 x1 x2 x3 x4 x5 x6
def ZCx (rec_:Bool→Str→ZnG→ZnG→Int→Int→Bool→Bool→ZnG→ZnG→ZnG→ZnG→Option (Bool×Str×ZnG×ZnG×Bool×Bool×ZnG×ZnG×ZnG)) (neg:Bool) (back:Str) (num:ZnG) (ten:ZnG) (t48:Int) (t49:Int) (t2:Bool) (t2_1:Bool) (den:ZnG) (t47:ZnG) (t2_2:ZnG) (t2_3:ZnG):Option (Bool×Str×ZnG×ZnG×Bool×Bool×ZnG×ZnG×ZnG):=
 bif (decide (t49 < t48))then (
  chk (inR t49 (t47.length:Int)) <|
  (t47[(t49).toNat]?).bind fun d=>
  (ZqP num ten).bind fun q=>
  (ZtG (IntKind.wrap .u64 (IntKind.wrap .u8 (d - 48)))).bind fun q_1=>
  (ZsU q q_1).bind fun num_1=>
  chk (inK .i64 (t49+1)) <|
  rec_ neg back num_1 ten t48 (t49+1) t2 t2_1 den t47 t2_2 t2_3
 )else (
  some (neg,back,num,ten,t2,t2_1,den,t2_2,t2_3)
 )
def Zzj:Nat→Bool→Str→ZnG→ZnG→Int→Int→Bool→Bool→ZnG→ZnG→ZnG→ZnG→Option (Bool×Str×ZnG×ZnG×Bool×Bool×ZnG×ZnG×ZnG)
 |0,_,_,_,_,_,_,_,_,_,_,_,_=>none
 |n_+1,neg,back,num,ten,t48,t49,t2,t2_1,den,t47,t2_2,t2_3=>ZCx (Zzj n_) neg back num ten t48 t49 t2 t2_1 den t47 t2_2 t2_3
def ZwX (neg:Bool) (front:Str) (back:Str) (t39:Bool) (t2:Bool) (t2_1:Bool) (t2_2:ZnG) (t2_3:ZnG):Option (ZnC×Bool):=
 bif t39 then (
  some ((ZnC.mk (ZnK.mk false ([]:ZnG)) (ZnK.mk false ([]:ZnG))),false)
 )else (
  (Zo2 ([1]:List Int)).bind fun den=>
  chk (decide (front.length+back.length≤Zq)) <|
  chk (decide ((front++back).length≤281474976710656)) <|
  (Zzj big neg back ([]:ZnG) ([10]:ZnG) (((front++back).map fun b=>((b.toNat:Nat):Int)).length:Int) (0:Int) t2 t2_1 den ((front++back).map fun b=>((b.toNat:Nat):Int)) t2_2 t2_3).bind fun(x0,x1,x2,x3,x4,x5,x6,x7,x8)=>ZA7 x0 x1 x2 x3 x4 x5 x6 x7 x8
 )
def Zzk (body:Str) (neg:Bool) (t2:Bool) (t2_1:Bool) (t2_2:ZnG) (t2_3:ZnG):Option (ZnC×Bool):=
 (ZBF body ([46]:Str)).bind fun(front,back,point)=>
 (ZzB front 15).bind fun q=>
 bif (!q)then (
  ZwX neg front back true t2 t2_1 t2_2 t2_3
 )else (
  bif point then (
   (ZzB back 9).bind fun q_1=>
   ZwX neg front back (!q_1) t2 t2_1 t2_2 t2_3
  )else (
   ZwX neg front back false t2 t2_1 t2_2 t2_3
  )
 )
def Zu7 (text:Str):Option (ZnC×Bool):=
 (Zz0 text ([45]:Str)).bind fun(body,neg)=>
 bif (!neg)then (
  (ZzL text ([43]:Str)).bind fun body_1=>
  Zzk body_1 neg false false ([]:ZnG) ([]:ZnG)
 )else (
  Zzk body neg false false ([]:ZnG) ([]:ZnG)
 )
def ZAm (s cs:Str):Option Str:=
 chk (cs.all fun b=>decide (b.toNat < 128)) <| chk (decide (cs.length < 4294967281)) <| some (Lib.trimLeftS s cs)
def ZBM (s cs:Str):Option Str:=
 chk (cs.all fun b=>decide (b.toNat < 128)) <| chk (decide (cs.length < 4294967281)) <| some (Lib.trimRightS s cs)
def ZB7 (zero:Str):Option Str:=
 some zero
def ZDd (rec_:Str→(List Str)→Int→Int→Option (Out Str Str)) (zero:Str) (t6:(List Str)) (t7:Int) (t8:Int):Option (Out Str Str):=
 bif (decide (t8 < t7))then (
  (idx t6 t8).bind fun val=>
  bif (!(val == zero))then (
   some (.ret val)
  )else (
   chk (inK .i64 (t8+1)) <|
   rec_ zero t6 t7 (t8+1)
  )
 )else (
  some (.brk zero)
 )
def ZAt:Nat→Str→(List Str)→Int→Int→Option (Out Str Str)
 |0,_,_,_,_=>none
 |n_+1,zero,t6,t7,t8=>ZDd (ZAt n_) zero t6 t7 t8
def ZBT (vals:(List Str)):Option Str:=
 (ZAt big ([]:Str) vals (vals.length:Int) (0:Int)).bind fun
  | .ret q_=>some q_
  | .brk x0=>ZB7 x0
def ZAg (out:Str):Option (Str×Bool):=
 some (out,true)
def ZAh (out:Str) (t43:Bool):Option (Str×Bool):=
 bif t43 then (
  chk (decide (([45]:Str).length+out.length≤Zq)) <|
  ZAg (([45]:Str)++out)
 )else (
  ZAg out
 )
def ZAi (t:Str) (out:Str):Option (Str×Bool):=
 (idx t 0).bind fun c=>
 bif (((c.toNat:Nat):Int) == 45)then (
  ZAh out (!(out == ([48]:Str)))
 )else (
  ZAh out false
 )
def ZyP (t:Str):Option (Str×Bool):=
 (Zu7 t).bind fun(q,ok)=>
 bif (!ok)then (
  some (([]:Str),false)
 )else (
  (ZAm t ([43,45]:Str)).bind fun q_1=>
  (ZBF q_1 ([46]:Str)).bind fun(front,back,q_2)=>
  (ZAm front ([48]:Str)).bind fun front_1=>
  (ZBM back ([48]:Str)).bind fun back_1=>
  (ZBT ([front_1,([48]:Str)]:(List Str))).bind fun out=>
  bif (!(back_1 == ([]:Str)))then (
   chk (decide (([46]:Str).length+back_1.length≤Zq)) <|
   chk (decide (out.length+(([46]:Str)++back_1).length≤Zq)) <|
   ZAi t (out++(([46]:Str)++back_1))
  )else (
   ZAi t out
  )
 )
def ZxB (n:Int) (s:Str):Option (Str×Bool):=
 (ZBt).bind fun q=>
 bif (!(Zg3 (k:=(.int .i64)) (v:=(.st 4)) (car:=Zz5) q n).isSome)then (
  some (([]:Str),false)
 )else (
  bif (Option.isNone (((Zg3 (k:=(.int .i64)) (v:=(.st 4)) (car:=Zz5) q n).getD (ZpR.mk ([]:Str) (none:Option Nat) (none:Option Nat))).canonical))then (
   some (s,true)
  )else (
   (ZDi s).bind fun q_1=>
   chk (decide (((Zg3 (k:=(.int .i64)) (v:=(.st 4)) (car:=Zz5) q n).getD (ZpR.mk ([]:Str) (none:Option Nat) (none:Option Nat))).canonical=some 242)) <|
   (ZyP q_1).bind fun(q_2,q_3)=>
   some (q_2,q_3)
  )
 )
def ZBu (n:Int) (s:Str):Option (ZnC×Bool):=
 (ZxB n s).bind fun(t,ok)=>
 bif (!ok)then (
  some ((ZnC.mk (ZnK.mk false ([]:ZnG)) (ZnK.mk false ([]:ZnG))),false)
 )else (
  (ZBt).bind fun q=>
  chk (decide (((Zg3 (k:=(.int .i64)) (v:=(.st 4)) (car:=Zz5) q n).getD (ZpR.mk ([]:Str) (none:Option Nat) (none:Option Nat))).value=some 241)) <|
  (Zu7 t).bind fun(q_1,q_2)=>
  some (q_1,q_2)
 )
def Zqy (c:ZnQ):Option (ZnC×Bool):=
 bif c.Null then (
  (ZAK).bind fun q=>
  some (q,false)
 )else (
  (ZBu 4 c.Text).bind fun(q_1,q_2)=>
  some (q_1,q_2)
 )
def Zwe (x_:Int):Option Int:=
 (ZzA x_).bind fun q=>
 some q
def Zp4 (data:ZoK):Option ZoK:=
 some data
def Zp5 (rec_:Int→Int→Int→ZoK→Option ZoK) (a:Int) (b:Int) (i:Int) (data:ZoK):Option ZoK:=
 chk (inK .i64 (i+1)) <|
 rec_ a b (i+1) data
def ZoM (rec_:Int→Int→Int→Int→ZoK→Option (Int×Int×Int×ZoK)) (a:Int) (b:Int) (i:Int) (j:Int) (t34:Bool) (data:ZoK):Option (Int×Int×Int×ZoK):=
 bif t34 then (
  chk (inK .i64 (j - 1)) <|
  chk (inK .i64 (j - 1)) <|
  chk (inR (j - 1) (data.length:Int)) <|
  (data[((j - 1)).toNat]?).bind fun data_e=>
  chk (inR j (data.length:Int)) <|
  (data[(j).toNat]?).bind fun data_e_1=>
  chk (inR j (data.length:Int)) <|
  chk (inR (j - 1) ((data.set ((j).toNat) data_e).length:Int)) <|
  chk (inK .i64 (j - 1)) <|
  rec_ a b i (j - 1) ((data.set ((j).toNat) data_e).set (((j - 1)).toNat) data_e_1)
 )else (
  some (a,b,i,data)
 )
def ZpI (rec_:Int→Int→Int→Int→ZoK→Option (Int×Int×Int×ZoK)) (a:Int) (b:Int) (i:Int) (j:Int) (data:ZoK):Option (Int×Int×Int×ZoK):=
 bif (decide (j > a))then (
  chk (inR j (data.length:Int)) <|
  (data[(j).toNat]?).bind fun data_e=>
  chk (inK .i64 (j - 1)) <|
  chk (inR (j - 1) (data.length:Int)) <|
  (data[((j - 1)).toNat]?).bind fun data_e_1=>
  (ZuK data_e data_e_1).bind fun q=>
  ZoM rec_ a b i j (decide (q < 0)) data
 )else (
  ZoM rec_ a b i j false data
 )
def Zn1:Nat→Int→Int→Int→Int→ZoK→Option (Int×Int×Int×ZoK)
 |0,_,_,_,_,_=>none
 |n_+1,a,b,i,j,data=>ZpI (Zn1 n_) a b i j data
def Zsq (n:Nat) (s:(Int×Int×Int×Int×ZoK)):Option (Int×Int×Int×ZoK):=Zn1 n s.1 s.2.1 s.2.2.1 s.2.2.2.1 s.2.2.2.2
def Zsr (rec_:(Int×Int×Int×Int×ZoK)→Option (Int×Int×Int×ZoK)) (s:(Int×Int×Int×Int×ZoK)):Option (Int×Int×Int×ZoK):=ZpI (fun a b i j data=>rec_ (a,b,i,j,data)) s.1 s.2.1 s.2.2.1 s.2.2.2.1 s.2.2.2.2
theorem ZwQ:∀n s,Zsq (n+1) s=Zsr (Zsq n) s:=fun _ _=>rfl
def ZpJ (rec_:Int→Int→Int→ZoK→Option ZoK) (a:Int) (b:Int) (i:Int) (data:ZoK):Option ZoK:=
 bif (decide (i < b))then (
  (Zn1 big a b i i data).bind fun(x0,x1,x2,x3)=>Zp5 rec_ x0 x1 x2 x3
 )else (
  some data
 )
def Zof:Nat→Int→Int→Int→ZoK→Option ZoK
 |0,_,_,_,_=>none
 |n_+1,a,b,i,data=>ZpJ (Zof n_) a b i data
def Zo5 (data:ZoK) (a:Int) (b:Int):Option ZoK:=
 chk (inK .i64 (a+1)) <|
 (Zof big a b (a+1) data).bind fun x0=>Zp4 x0
def ZoT (data:ZoK) (a:Int) (b:Int):Option ZoK:=
 (Zo5 data a b).bind fun r=>chk (decide (r.length=data.length)&&true) (some r)
def ZqL (rec_:Int→Int→Int→Bool→Bool→ZoK→Option (Out Unit ZoK)) (a:Int) (b:Int) (limit:Int) (wasBalanced:Bool) (wasPartitioned:Bool) (data:ZoK):Option (Out Unit ZoK):=
 chk (inK .i64 (b - a)) <|
 bif (decide ((b - a)≤12))then (
  (ZoT data a b).bind fun t26=>
  some (.ret t26)
 )else (
  bif (limit == 0)then (
   none
  )else (
   bif (!wasBalanced)then (
    none
   )else (
    none
   )
  )
 )
def Zrd:Nat→Int→Int→Int→Bool→Bool→ZoK→Option (Out Unit ZoK)
 |0,_,_,_,_,_,_=>none
 |n_+1,a,b,limit,wasBalanced,wasPartitioned,data=>ZqL (Zrd n_) a b limit wasBalanced wasPartitioned data
def Zsk (data:ZoK) (a:Int) (b:Int) (limit:Int):Option ZoK:=
 (Zrd big a b limit true true data).bind fun
  | .ret q_=>some q_
  | .brk _=>none
def ZpL (data:ZoK) (a:Int) (b:Int) (limit:Int):Option ZoK:=
 (Zsk data a b limit).bind fun r=>chk (decide (r.length=data.length)&&true) (some r)
def Zqw (x_:ZoK):Option ZoK:=
 (Zwe (IntKind.wrap .u64 (x_.length:Int))).bind fun q=>
 (ZpL x_ 0 (x_.length:Int) q).bind fun t7=>
 some t7
def Zog (x_:ZoK):Option ZoK:=
 (Zqw x_).bind fun r=>chk (decide (r.length=x_.length)&&true) (some r)
def ZwS (out:ZoK):Option ZoK:=
 (Zog out).bind fun t26=>
 some t26
def ZuU (rec_:Zxz→Int→Int→ZoK→Option ZoK) (t9:Zxz) (t10:Int) (t11:Int) (out:ZoK):Option ZoK:=
 chk (inK .i64 (t11+1)) <|
 rec_ t9 t10 (t11+1) out
def Ztx (rec_:Zxz→Int→Int→ZoK→Option ZoK) (t9:Zxz) (t10:Int) (t11:Int) (out:ZoK):Option ZoK:=
 bif (decide (t11 < t10))then (
  (idx t9 t11).bind fun x_=>
  (Zqy x_).bind fun(v_,ok)=>
  bif ok then (
   chk (ZiZ (out.length+([v_]:ZoK).length) 64) <|
   ZuU rec_ t9 t10 t11 (out++([v_]:ZoK))
  )else (
   ZuU rec_ t9 t10 t11 out
  )
 )else (
  some out
 )
def ZuT:Nat→Zxz→Int→Int→ZoK→Option ZoK
 |0,_,_,_,_=>none
 |n_+1,t9,t10,t11,out=>Ztx (ZuT n_) t9 t10 t11 out
def ZAp (n:Nat) (s:(Zxz×Int×Int×ZoK)):Option ZoK:=ZuT n s.1 s.2.1 s.2.2.1 s.2.2.2
def ZvN (rec_:(Zxz×Int×Int×ZoK)→Option ZoK) (s:(Zxz×Int×Int×ZoK)):Option ZoK:=Ztx (fun t9 t10 t11 out=>rec_ (t9,t10,t11,out)) s.1 s.2.1 s.2.2.1 s.2.2.2
theorem ZAa:∀n s,ZAp (n+1) s=ZvN (ZAp n) s:=fun _ _=>rfl
def ZpC (c:ZnO):Option ZoK:=
 (ZuT big c.Cells (c.Cells.length:Int) (0:Int) ([]:ZoK)).bind fun x0=>ZwS x0
def Zo7 (t0:Bool):Option Bool:=
 some t0
def Zq2:Option Bool:=
 (ZnR 1).bind fun q=>
 (ZnR 2).bind fun q_1=>
 (ZnR 3).bind fun q_2=>
 (ZnR 4).bind fun q_3=>
 (ZAo ([q,q_1,q_2,q_3]:ZoK) 1 2).bind fun(x_,e)=>
 chk (Zb9 0 2 (([q,q_1,q_2,q_3]:ZoK).length:Int)) <|
 chk (Zb9 1 3 (([q,q_1,q_2,q_3]:ZoK).length:Int)) <|
 (Zpc ((([q,q_1,q_2,q_3]:ZoK).drop 0).take (((2:Int)).toNat - 0)) ((([q,q_1,q_2,q_3]:ZoK).drop (((1:Int)).toNat)).take (((3:Int)).toNat - ((1:Int)).toNat))).bind fun(d,f)=>
 bif (e == 0)then (
  bif (f == 0)then (
   (ZnR 2).bind fun q_4=>
   (ZoD x_ q_4).bind fun q_5=>
   bif q_5 then (
    (Zqk 1 2).bind fun q_6=>
    (ZoD d q_6).bind fun q_7=>
    bif q_7 then (
     (ZpC (ZnO.mk ([]:Str) ([(ZnQ.mk false ([51]:Str)),(ZnQ.mk true ([]:Str)),(ZnQ.mk false ([120]:Str))]:Zxz))).bind fun q_8=>
     Zo7 ((q_8.length:Int) == 1)
    )else (
     Zo7 false
    )
   )else (
    Zo7 false
   )
  )else (
   Zo7 false
  )
 )else (
  Zo7 false
 )
def ZwO (t:ZnG):Option ZnA:=
 some (ZnA.mk t 0)
def ZtH (n:Int) (m:Int):Option Int:=
 bif (decide (m < 1))then (
  some (0:Int)
 )else (
  chk (decide (m≠0)) <|
  chk (inK .i64 ((Int.tmod n m)+m)) <|
  chk (decide (m≠0)) <|
  some (Int.tmod ((Int.tmod n m)+m) m)
 )
def ZnL (d:ZnA) (n:Int):Option (Int×ZnA):=
 bif (decide (d.at_≥(d.l.length:Int)))then (
  some (0,d)
 )else (
  chk (inK .i64 (d.at_+1)) <|
  chk (inK .i64 ((d.at_+1) - 1)) <|
  (idx d.l ((d.at_+1) - 1)).bind fun l_e=>
  (ZtH l_e n).bind fun q=>
  some (q,(ZnA.mk d.l (d.at_+1)))
 )
def Zoe (d:ZnA) (l:(List Str)):Option (Str×ZnA):=
 (ZnL d (l.length:Int)).bind fun(q,t6)=>
 (idx l q).bind fun l_e=>
 some (l_e,t6)
def ZuQ (d:ZnA):Option (ZnQ×ZnA):=
 (ZnL d 7).bind fun(q,t3)=>
 bif (q == 1)then (
  some ((ZnQ.mk true ([]:Str)),t3)
 )else (
  (Zoe t3 ([([97]:Str),([98]:Str),([99]:Str),([49]:Str),([50]:Str),([51]:Str),([49,48]:Str),([120]:Str),([45,49,46,53]:Str),([50]:Str)]:(List Str))).bind fun(q_1,t7)=>
  some ((ZnQ.mk false q_1),t7)
 )
def Zyo (n:Int):Option Str:=
 some (Lib.itoa n)
def Ztl (d:ZnA):Option (ZnQ×ZnA):=
 (ZnL d 9).bind fun(q,t3)=>
 bif (q == 1)then (
  some ((ZnQ.mk true ([]:Str)),t3)
 )else (
  bif (q == 2)then (
   (Zoe t3 ([([120]:Str),([]:Str),([49,46,50,46,51]:Str),([49,46,53,48]:Str)]:(List Str))).bind fun(q_1,t10)=>
   some ((ZnQ.mk false q_1),t10)
  )else (
   (ZnL t3 12).bind fun(q_2,t14)=>
   chk (inK .i64 (q_2 - 3)) <|
   (Zyo (q_2 - 3)).bind fun q_3=>
   some ((ZnQ.mk false q_3),t14)
  )
 )
def ZwG (d:ZnA) (t4:Str) (c:Str) (t4_1:Zxz) (c_1:Zxz):Option (ZnO×ZnA):=
 some ((ZnO.mk c c_1),d)
def Zps (rec_:Int→Int→Int→ZnA→Str→Str→Zxz→Zxz→Option (ZnA×Str×Str×Zxz×Zxz)) (kind:Int) (t15:Int) (i:Int) (d:ZnA) (t4:Str) (c:Str) (x_:ZnQ) (t4_1:Zxz) (c_1:Zxz):Option (ZnA×Str×Str×Zxz×Zxz):=
 chk (ZiZ (c_1.length+([x_]:Zxz).length) 24) <|
 chk (inK .i64 (i+1)) <|
 rec_ kind t15 (i+1) d t4 c t4_1 (c_1++([x_]:Zxz))
def Zs4 (rec_:Int→Int→Int→ZnA→Str→Str→Zxz→Zxz→Option (ZnA×Str×Str×Zxz×Zxz)) (kind:Int) (t15:Int) (i:Int) (d:ZnA) (t4:Str) (c:Str) (t4_1:Zxz) (c_1:Zxz):Option (ZnA×Str×Str×Zxz×Zxz):=
 bif (decide (i < t15))then (
  (ZuQ d).bind fun(x_,t19)=>
  bif (kind == 0)then (
   (Ztl t19).bind fun(x__1,t24)=>
   Zps rec_ kind t15 i t24 t4 c x__1 t4_1 c_1
  )else (
   bif (kind == 1)then (
    (Zyo i).bind fun q=>
    chk (decide (([107]:Str).length+q.length≤Zq)) <|
    Zps rec_ kind t15 i t19 t4 c (ZnQ.mk false (([107]:Str)++q)) t4_1 c_1
   )else (
    bif (kind == 2)then (
     (Zoe t19 ([([97]:Str),([98]:Str),([99]:Str),([100]:Str)]:(List Str))).bind fun(q_1,t34)=>
     Zps rec_ kind t15 i t34 t4 c (ZnQ.mk false q_1) t4_1 c_1
    )else (
     Zps rec_ kind t15 i t19 t4 c x_ t4_1 c_1
    )
   )
  )
 )else (
  some (d,t4,c,t4_1,c_1)
 )
def ZrB:Nat→Int→Int→Int→ZnA→Str→Str→Zxz→Zxz→Option (ZnA×Str×Str×Zxz×Zxz)
 |0,_,_,_,_,_,_,_,_=>none
 |n_+1,kind,t15,i,d,t4,c,t4_1,c_1=>Zs4 (ZrB n_) kind t15 i d t4 c t4_1 c_1
def ZyF (n:Nat) (s:(Int×Int×Int×ZnA×Str×Str×Zxz×Zxz)):Option (ZnA×Str×Str×Zxz×Zxz):=ZrB n s.1 s.2.1 s.2.2.1 s.2.2.2.1 s.2.2.2.2.1 s.2.2.2.2.2.1 s.2.2.2.2.2.2.1 s.2.2.2.2.2.2.2
def ZvL (rec_:(Int×Int×Int×ZnA×Str×Str×Zxz×Zxz)→Option (ZnA×Str×Str×Zxz×Zxz)) (s:(Int×Int×Int×ZnA×Str×Str×Zxz×Zxz)):Option (ZnA×Str×Str×Zxz×Zxz):=Zs4 (fun kind t15 i d t4 c t4_1 c_1=>rec_ (kind,t15,i,d,t4,c,t4_1,c_1)) s.1 s.2.1 s.2.2.1 s.2.2.2.1 s.2.2.2.2.1 s.2.2.2.2.2.1 s.2.2.2.2.2.2.1 s.2.2.2.2.2.2.2
theorem ZBi:∀n s,ZyF (n+1) s=ZvL (ZyF n) s:=fun _ _=>rfl
def Zrm (d:ZnA) (rows:Int):Option (ZnO×ZnA):=
 (Zoe d ([([105,100]:Str),([110,97,109,101]:Str),([85,110,105,116,32,80,114,105,99,101]:Str),([99,105,116,121]:Str),([117,110,105,116]:Str),([112,114,105,99,101]:Str),([105,100,50]:Str),([]:Str)]:(List Str))).bind fun(q,t9)=>
 (ZnL t9 5).bind fun(kind,t13)=>
 (ZrB big kind rows (0:Int) t13 ([]:Str) q ([]:Zxz) ([]:Zxz)).bind fun(x0,x1,x2,x3,x4)=>ZwG x0 x1 x2 x3 x4
def ZuF (d:ZnA) (t4:Int) (t4_1:Str) (t:Int) (t_1:Str) (t4_2:ZnU) (t_2:ZnU):Option (ZnB×ZnA):=
 some ((ZnB.mk t t_1 t_2),d)
def Zxe (d:ZnA) (t4:Int) (t4_1:Str) (t:Int) (t_1:Str) (t4_2:ZnU) (t_2:ZnU):Option (ZnB×ZnA):=
 (ZnL d 15).bind fun(q,t30)=>
 bif (q == 1)then (
  ZuF t30 t4 t4_1 t t_1 t4_2 ([]:ZnU)
 )else (
  ZuF t30 t4 t4_1 t t_1 t4_2 t_2
 )
def Zwa (rec_:Int→Int→ZnA→Int→Str→Int→Str→ZnU→ZnU→Option (ZnA×Int×Str×Int×Str×ZnU×ZnU)) (rows:Int) (k:Int) (d:ZnA) (t4:Int) (t4_1:Str) (t:Int) (t_1:Str) (t4_2:ZnU) (t_2:ZnU):Option (ZnA×Int×Str×Int×Str×ZnU×ZnU):=
 bif (decide (k > 0))then (
  (Zrm d rows).bind fun(q,t24)=>
  chk (ZiZ (t_2.length+([q]:ZnU).length) 40) <|
  chk (inK .i64 (k - 1)) <|
  rec_ rows (k - 1) t24 t4 t4_1 t t_1 t4_2 (t_2++([q]:ZnU))
 )else (
  some (d,t4,t4_1,t,t_1,t4_2,t_2)
 )
def ZuE:Nat→Int→Int→ZnA→Int→Str→Int→Str→ZnU→ZnU→Option (ZnA×Int×Str×Int×Str×ZnU×ZnU)
 |0,_,_,_,_,_,_,_,_,_=>none
 |n_+1,rows,k,d,t4,t4_1,t,t_1,t4_2,t_2=>Zwa (ZuE n_) rows k d t4 t4_1 t t_1 t4_2 t_2
def ZyY (n:Nat) (s:(Int×Int×ZnA×Int×Str×Int×Str×ZnU×ZnU)):Option (ZnA×Int×Str×Int×Str×ZnU×ZnU):=ZuE n s.1 s.2.1 s.2.2.1 s.2.2.2.1 s.2.2.2.2.1 s.2.2.2.2.2.1 s.2.2.2.2.2.2.1 s.2.2.2.2.2.2.2.1 s.2.2.2.2.2.2.2.2
def ZyZ (rec_:(Int×Int×ZnA×Int×Str×Int×Str×ZnU×ZnU)→Option (ZnA×Int×Str×Int×Str×ZnU×ZnU)) (s:(Int×Int×ZnA×Int×Str×Int×Str×ZnU×ZnU)):Option (ZnA×Int×Str×Int×Str×ZnU×ZnU):=Zwa (fun rows k d t4 t4_1 t t_1 t4_2 t_2=>rec_ (rows,k,d,t4,t4_1,t,t_1,t4_2,t_2)) s.1 s.2.1 s.2.2.1 s.2.2.2.1 s.2.2.2.2.1 s.2.2.2.2.2.1 s.2.2.2.2.2.2.1 s.2.2.2.2.2.2.2.1 s.2.2.2.2.2.2.2.2
theorem ZBD:∀n s,ZyY (n+1) s=ZyZ (ZyY n) s:=fun _ _=>rfl
def Zt9 (d:ZnA) (id:Int):Option (ZnB×ZnA):=
 (Zoe d ([([116]:Str),([111,114,100,101,114,115]:Str),([]:Str)]:(List Str))).bind fun(q,t9)=>
 (ZnL t9 7).bind fun(rows,t13)=>
 (ZnL t13 3).bind fun(q_1,t15)=>
 chk (inK .i64 (1+q_1)) <|
 (ZuE big rows (1+q_1) t15 (0:Int) ([]:Str) id q ([]:ZnU) ([]:ZnU)).bind fun(x0,x1,x2,x3,x4,x5,x6)=>Zxe x0 x1 x2 x3 x4 x5 x6
def Zub (d:ZnA) (t4:Int) (t4_1:Int) (t4_2:Str) (t4_3:ZnG):Option (ZnP×ZnA):=
 some ((ZnP.mk t4 t4_1 t4_2 t4_3),d)
def ZqI (d:ZnA) (t4:Int) (t4_1:Int) (t4_2:Str) (o:Int) (o_1:Int) (o_2:Str) (t4_3:ZnG) (o_3:ZnG):Option (ZnP×ZnA):=
 Zub d o o_1 o_2 o_3
def Zyr (d:ZnA) (t4:Int) (t4_1:Int) (t4_2:Str) (o:Int) (o_1:Int) (o_2:Str) (t4_3:ZnG) (o_3:ZnG):Option (ZnP×ZnA):=
 Zub d o o_1 o_2 o_3
def Zwp (rec_:Int→Int→ZnA→Int→Int→Str→Int→Int→Str→ZnG→ZnG→Option (ZnA×Int×Int×Str×Int×Int×Str×ZnG×ZnG)) (n:Int) (k:Int) (t83:Bool) (d:ZnA) (t4:Int) (t4_1:Int) (t4_2:Str) (o:Int) (o_1:Int) (o_2:Str) (t4_3:ZnG) (o_3:ZnG):Option (ZnA×Int×Int×Str×Int×Int×Str×ZnG×ZnG):=
 bif t83 then (
  (ZnL d n).bind fun(q,t88)=>
  chk (ZiZ (o_3.length+([q]:ZnG).length) 8) <|
  chk (inK .i64 (k - 1)) <|
  rec_ n (k - 1) t88 t4 t4_1 t4_2 o o_1 o_2 t4_3 (o_3++([q]:ZnG))
 )else (
  some (d,t4,t4_1,t4_2,o,o_1,o_2,t4_3,o_3)
 )
def ZxE (rec_:Int→Int→ZnA→Int→Int→Str→Int→Int→Str→ZnG→ZnG→Option (ZnA×Int×Int×Str×Int×Int×Str×ZnG×ZnG)) (n:Int) (k:Int) (d:ZnA) (t4:Int) (t4_1:Int) (t4_2:Str) (o:Int) (o_1:Int) (o_2:Str) (t4_3:ZnG) (o_3:ZnG):Option (ZnA×Int×Int×Str×Int×Int×Str×ZnG×ZnG):=
 bif (decide (k > 0))then (
  Zwp rec_ n k (decide (n > 0)) d t4 t4_1 t4_2 o o_1 o_2 t4_3 o_3
 )else (
  Zwp rec_ n k false d t4 t4_1 t4_2 o o_1 o_2 t4_3 o_3
 )
def Zua:Nat→Int→Int→ZnA→Int→Int→Str→Int→Int→Str→ZnG→ZnG→Option (ZnA×Int×Int×Str×Int×Int×Str×ZnG×ZnG)
 |0,_,_,_,_,_,_,_,_,_,_,_=>none
 |n_+1,n,k,d,t4,t4_1,t4_2,o,o_1,o_2,t4_3,o_3=>ZxE (Zua n_) n k d t4 t4_1 t4_2 o o_1 o_2 t4_3 o_3
def Zz6 (n:Nat) (s:(Int×Int×ZnA×Int×Int×Str×Int×Int×Str×ZnG×ZnG)):Option (ZnA×Int×Int×Str×Int×Int×Str×ZnG×ZnG):=Zua n s.1 s.2.1 s.2.2.1 s.2.2.2.1 s.2.2.2.2.1 s.2.2.2.2.2.1 s.2.2.2.2.2.2.1 s.2.2.2.2.2.2.2.1 s.2.2.2.2.2.2.2.2.1 s.2.2.2.2.2.2.2.2.2.1 s.2.2.2.2.2.2.2.2.2.2
def Zz7 (rec_:(Int×Int×ZnA×Int×Int×Str×Int×Int×Str×ZnG×ZnG)→Option (ZnA×Int×Int×Str×Int×Int×Str×ZnG×ZnG)) (s:(Int×Int×ZnA×Int×Int×Str×Int×Int×Str×ZnG×ZnG)):Option (ZnA×Int×Int×Str×Int×Int×Str×ZnG×ZnG):=ZxE (fun n k d t4 t4_1 t4_2 o o_1 o_2 t4_3 o_3=>rec_ (n,k,d,t4,t4_1,t4_2,o,o_1,o_2,t4_3,o_3)) s.1 s.2.1 s.2.2.1 s.2.2.2.1 s.2.2.2.2.1 s.2.2.2.2.2.1 s.2.2.2.2.2.2.1 s.2.2.2.2.2.2.2.1 s.2.2.2.2.2.2.2.2.1 s.2.2.2.2.2.2.2.2.2.1 s.2.2.2.2.2.2.2.2.2.2
theorem ZCd:∀n s,Zz6 (n+1) s=Zz7 (Zz6 n) s:=fun _ _=>rfl
def Zuc (n:Int) (t16:Int) (t66:Bool) (d:ZnA) (t4:Int) (t4_1:Int) (t4_2:Str) (o:Int) (o_1:Int) (o_2:Str) (t4_3:ZnG) (o_3:ZnG):Option (ZnP×ZnA):=
 bif t66 then (
  (ZnL d n).bind fun(q,t69)=>
  ZqI t69 t4 t4_1 t4_2 o q o_2 t4_3 o_3
 )else (
  bif (t16 == 3)then (
   (ZnL d 3).bind fun(q_1,t75)=>
   chk (inK .i64 (1+q_1)) <|
   (Zua big n (1+q_1) t75 t4 t4_1 t4_2 o o_1 o_2 t4_3 o_3).bind fun(x0,x1,x2,x3,x4,x5,x6,x7,x8)=>Zyr x0 x1 x2 x3 x4 x5 x6 x7 x8
  )else (
   ZqI d t4 t4_1 t4_2 o o_1 o_2 t4_3 o_3
  )
 )
def ZqJ (t44:Bool) (d:ZnA) (t:ZnB) (t4:Int) (t4_1:Int) (t4_2:Str) (o:Int) (o_1:Int) (o_2:Str) (t4_3:ZnG) (o_3:ZnG):Option (ZnP×ZnA):=
 bif t44 then (
  (idx t.Columns o_1).bind fun Column=>
  (idx t.Columns o_1).bind fun Column_1=>
  (ZnL d (Column_1.Cells.length:Int)).bind fun(q,t52)=>
  (idx Column.Cells q).bind fun Cell=>
  ZqI t52 t4 t4_1 t4_2 o o_1 Cell.Text t4_3 o_3
 )else (
  ZqI d t4 t4_1 t4_2 o o_1 o_2 t4_3 o_3
 )
def Zwb (d:ZnA) (t:ZnB):Option (ZnP×ZnA):=
 (ZnL d 5).bind fun(q,t8)=>
 chk (inK .i64 (1+q)) <|
 bif ((1+q) == 1)then (
  (ZnL t8 (t.Columns.length:Int)).bind fun(q_1,t19)=>
  (Zoe t19 ([([97]:Str),([98]:Str),([49]:Str),([50]:Str),([107,48]:Str),([]:Str)]:(List Str))).bind fun(q_2,t23)=>
  bif (decide ((t.Columns.length:Int) > 0))then (
   (idx t.Columns q_1).bind fun Column=>
   bif (decide ((Column.Cells.length:Int) > 0))then (
    (ZnL t23 3).bind fun(q_3,t41)=>
    ZqJ (decide (q_3 > 0)) t41 t (0:Int) (0:Int) ([]:Str) (1+q) q_1 q_2 ([]:ZnG) ([]:ZnG)
   )else (
    ZqJ false t23 t (0:Int) (0:Int) ([]:Str) (1+q) q_1 q_2 ([]:ZnG) ([]:ZnG)
   )
  )else (
   ZqJ false t23 t (0:Int) (0:Int) ([]:Str) (1+q) q_1 q_2 ([]:ZnG) ([]:ZnG)
  )
 )else (
  bif ((1+q) == 2)then (
   Zuc (t.Columns.length:Int) (1+q) ((1+q) == 2) t8 (0:Int) (0:Int) ([]:Str) (1+q) (0:Int) ([]:Str) ([]:ZnG) ([]:ZnG)
  )else (
   Zuc (t.Columns.length:Int) (1+q) ((1+q) == 5) t8 (0:Int) (0:Int) ([]:Str) (1+q) (0:Int) ([]:Str) ([]:ZnG) ([]:ZnG)
  )
 )
def Zoq (s:Str):Option Int:=
 (idx s 0).bind fun c=>
 (idx s 1).bind fun c_1=>
 chk (decide (0≤(8:Int))) <|
 (idx s 2).bind fun c_2=>
 chk (decide (0≤(16:Int))) <|
 (idx s 3).bind fun c_3=>
 chk (decide (0≤(24:Int))) <|
 (idx s 4).bind fun c_4=>
 chk (decide (0≤(32:Int))) <|
 (idx s 5).bind fun c_5=>
 chk (decide (0≤(40:Int))) <|
 (idx s 6).bind fun c_6=>
 chk (decide (0≤(48:Int))) <|
 (idx s 7).bind fun c_7=>
 chk (decide (0≤(56:Int))) <|
 some (orK .u64 (orK .u64 (orK .u64 (orK .u64 (orK .u64 (orK .u64 (orK .u64 (IntKind.wrap .u64 ((c.toNat:Nat):Int)) (shlK .u64 (IntKind.wrap .u64 ((c_1.toNat:Nat):Int)) 8)) (shlK .u64 (IntKind.wrap .u64 ((c_2.toNat:Nat):Int)) 16)) (shlK .u64 (IntKind.wrap .u64 ((c_3.toNat:Nat):Int)) 24)) (shlK .u64 (IntKind.wrap .u64 ((c_4.toNat:Nat):Int)) 32)) (shlK .u64 (IntKind.wrap .u64 ((c_5.toNat:Nat):Int)) 40)) (shlK .u64 (IntKind.wrap .u64 ((c_6.toNat:Nat):Int)) 48)) (shlK .u64 (IntKind.wrap .u64 ((c_7.toNat:Nat):Int)) 56))
def Zyb:Option Bool:=
 some true
def Zok (rec_:Str→Option (Out Unit Bool)) (s:Str) (t166:Bool):Option (Out Unit Bool):=
 bif t166 then (
  some (.ret false)
 )else (
  chk (Zb9 4 (s.length:Int) (s.length:Int)) <|
  rec_ (s.drop ((4:Int)).toNat)
 )
def Zpy (rec_:Str→Option (Out Unit Bool)) (s:Str) (t125:Bool):Option (Out Unit Bool):=
 bif t125 then (
  some (.ret false)
 )else (
  chk (Zb9 3 (s.length:Int) (s.length:Int)) <|
  rec_ (s.drop ((3:Int)).toNat)
 )
def Zsu (rec_:Str→Option (Out Unit Bool)) (s:Str) (t94:Bool):Option (Out Unit Bool):=
 bif t94 then (
  some (.ret false)
 )else (
  chk (Zb9 2 (s.length:Int) (s.length:Int)) <|
  rec_ (s.drop ((2:Int)).toNat)
 )
def Zu8 (rec_:Str→Option (Out Unit Bool)) (s:Str):Option (Out Unit Bool):=
 rec_ s
def Zyc (rec_:Str→Option (Out Unit Bool)) (s:Str):Option (Out Unit Bool):=
 rec_ s
def Zu9 (rec_:Str→Option Str) (s:Str) (t62:Bool):Option Str:=
 bif t62 then (
  chk (Zb9 32 (s.length:Int) (s.length:Int)) <|
  rec_ (s.drop ((32:Int)).toNat)
 )else (
  some s
 )
def ZAD (rec_:Str→Option Str) (s:Str):Option Str:=
 bif (decide ((s.length:Int) > 32))then (
  (Zoq s).bind fun q=>
  chk (Zb9 8 (s.length:Int) (s.length:Int)) <|
  (Zoq (s.drop ((8:Int)).toNat)).bind fun q_1=>
  chk (Zb9 16 (s.length:Int) (s.length:Int)) <|
  (Zoq (s.drop ((16:Int)).toNat)).bind fun q_2=>
  chk (Zb9 24 (s.length:Int) (s.length:Int)) <|
  (Zoq (s.drop ((24:Int)).toNat)).bind fun q_3=>
  Zu9 rec_ s ((andK .u64 (orK .u64 (orK .u64 q q_1) (orK .u64 q_2 q_3)) 9259542123273814144) == 0)
 )else (
  Zu9 rec_ s false
 )
def Zst:Nat→Str→Option Str
 |0,_=>none
 |n_+1,s=>ZAD (Zst n_) s
def Zva (rec_:Str→Option (Out Unit Bool)) (s:Str) (t39:Bool):Option (Out Unit Bool):=
 bif t39 then (
  chk (Zb9 16 (s.length:Int) (s.length:Int)) <|
  (Zst big (s.drop ((16:Int)).toNat)).bind fun x0=>Zyc rec_ x0
 )else (
  Zu8 rec_ s
 )
def Zvb (rec_:Str→Option (Out Unit Bool)) (s:Str) (t24:Bool):Option (Out Unit Bool):=
 bif t24 then (
  chk (Zb9 8 (s.length:Int) (s.length:Int)) <|
  bif (decide (((s.drop ((8:Int)).toNat).length:Int) > 16))then (
   (Zoq (s.drop ((8:Int)).toNat)).bind fun q=>
   chk (Zb9 8 ((s.drop ((8:Int)).toNat).length:Int) ((s.drop ((8:Int)).toNat).length:Int)) <|
   (Zoq ((s.drop ((8:Int)).toNat).drop ((8:Int)).toNat)).bind fun q_1=>
   Zva rec_ (s.drop ((8:Int)).toNat) ((andK .u64 (orK .u64 q q_1) 9259542123273814144) == 0)
  )else (
   Zva rec_ (s.drop ((8:Int)).toNat) false
  )
 )else (
  Zu8 rec_ s
 )
def ZAE (rec_:Str→Option (Out Unit Bool)) (s:Str):Option (Out Unit Bool):=
 bif (decide ((s.length:Int) > 0))then (
  (idx s 0).bind fun c=>
  bif (decide (((c.toNat:Nat):Int) < 128))then (
   chk (Zb9 1 (s.length:Int) (s.length:Int)) <|
   bif (decide (((s.drop ((1:Int)).toNat).length:Int) > 8))then (
    (Zoq (s.drop ((1:Int)).toNat)).bind fun q=>
    Zvb rec_ (s.drop ((1:Int)).toNat) ((andK .u64 q 9259542123273814144) == 0)
   )else (
    Zvb rec_ (s.drop ((1:Int)).toNat) false
   )
  )else (
   chk (inR ((c.toNat:Nat):Int) 256) <|
   (tabB (car:=Zz5) (.int .u8) ZC1 ((((c.toNat:Nat):Int)).toNat*1)).bind fun c_1=>
   chk (decide (0≤(4:Int))) <|
   chk (inR (shrK .u8 c_1 4) 16) <|
   (tabB (car:=Zz5) (.int .u8) Zyu (((shrK .u8 c_1 4)).toNat*2)).bind fun c_2=>
   (tabB (car:=Zz5) (.int .u8) Zyu (((shrK .u8 c_1 4)).toNat*2+1)).bind fun c_3=>
   bif ((IntKind.wrap .i64 (andK .u8 c_1 7)) == 2)then (
    bif (decide ((s.length:Int) < 2))then (
     Zsu rec_ s true
    )else (
     (idx s 1).bind fun c_4=>
     bif (decide (((c_4.toNat:Nat):Int) < c_2))then (
      Zsu rec_ s true
     )else (
      (idx s 1).bind fun c_5=>
      Zsu rec_ s (decide (c_3 < ((c_5.toNat:Nat):Int)))
     )
    )
   )else (
    bif ((IntKind.wrap .i64 (andK .u8 c_1 7)) == 3)then (
     bif (decide ((s.length:Int) < 3))then (
      Zpy rec_ s true
     )else (
      (idx s 1).bind fun c_6=>
      bif (decide (((c_6.toNat:Nat):Int) < c_2))then (
       Zpy rec_ s true
      )else (
       (idx s 1).bind fun c_7=>
       bif (decide (c_3 < ((c_7.toNat:Nat):Int)))then (
        Zpy rec_ s true
       )else (
        (idx s 2).bind fun c_8=>
        bif (decide (((c_8.toNat:Nat):Int) < 128))then (
         Zpy rec_ s true
        )else (
         (idx s 2).bind fun c_9=>
         Zpy rec_ s (decide ((191:Int) < ((c_9.toNat:Nat):Int)))
        )
       )
      )
     )
    )else (
     bif ((IntKind.wrap .i64 (andK .u8 c_1 7)) == 4)then (
      bif (decide ((s.length:Int) < 4))then (
       Zok rec_ s true
      )else (
       (idx s 1).bind fun c_10=>
       bif (decide (((c_10.toNat:Nat):Int) < c_2))then (
        Zok rec_ s true
       )else (
        (idx s 1).bind fun c_11=>
        bif (decide (c_3 < ((c_11.toNat:Nat):Int)))then (
         Zok rec_ s true
        )else (
         (idx s 2).bind fun c_12=>
         bif (decide (((c_12.toNat:Nat):Int) < 128))then (
          Zok rec_ s true
         )else (
          (idx s 2).bind fun c_13=>
          bif (decide ((191:Int) < ((c_13.toNat:Nat):Int)))then (
           Zok rec_ s true
          )else (
           (idx s 3).bind fun c_14=>
           bif (decide (((c_14.toNat:Nat):Int) < 128))then (
            Zok rec_ s true
           )else (
            (idx s 3).bind fun c_15=>
            Zok rec_ s (decide ((191:Int) < ((c_15.toNat:Nat):Int)))
           )
          )
         )
        )
       )
      )
     )else (
      some (.ret false)
     )
    )
   )
  )
 )else (
  some (.brk ())
 )
def Zn2:Nat→Str→Option (Out Unit Bool)
 |0,_=>none
 |n_+1,s=>ZAE (Zn2 n_) s
def Zqf (s:Str):Option Bool:=
 (Zn2 big s).bind fun
  | .ret q_=>some q_
  | .brk ()=>Zyb
def Zq0 (s:Str):Option Bool:=
 (Zqf s).bind fun q=>
 some q
def ZtV (t2:Bool):Option Bool:=
 some t2
def Zrj (s:Str):Option Bool:=
 (Zq0 s).bind fun q=>
 bif q then (
  ZtV (decide ((s.length:Int)≤1024))
 )else (
  ZtV false
 )
def Zo4 (t2:Bool):Option Bool:=
 some t2
def ZqQ (c:ZnQ):Option Bool:=
 (Zq0 c.Text).bind fun q=>
 bif q then (
  bif (decide ((c.Text.length:Int)≤1024))then (
   bif (!c.Null)then (
    Zo4 true
   )else (
    Zo4 (c.Text == ([]:Str))
   )
  )else (
   Zo4 false
  )
 )else (
  Zo4 false
 )
def ZvZ:Option Bool:=
 some true
def Zv0 (rec_:ZnU→Int→Int→ZnB→Option (Out Unit Bool)) (t28:ZnU) (t29:Int) (t30:Int) (t:ZnB):Option (Out Unit Bool):=
 chk (inK .i64 (t30+1)) <|
 rec_ t28 t29 (t30+1) t
def Zsy (rec_:ZnU→Int→Int→Zxz→Int→Int→ZnB→Option (Out (ZnU×Int×Int×ZnB) Bool)) (t28:ZnU) (t29:Int) (t30:Int) (t57:Zxz) (t58:Int) (t59:Int) (t:ZnB):Option (Out (ZnU×Int×Int×ZnB) Bool):=
 bif (decide (t59 < t58))then (
  (idx t57 t59).bind fun x_=>
  (ZqQ x_).bind fun q=>
  bif (!q)then (
   some (.ret false)
  )else (
   chk (inK .i64 (t59+1)) <|
   rec_ t28 t29 t30 t57 t58 (t59+1) t
  )
 )else (
  some (.brk (t28,t29,t30,t))
 )
def Ztb:Nat→ZnU→Int→Int→Zxz→Int→Int→ZnB→Option (Out (ZnU×Int×Int×ZnB) Bool)
 |0,_,_,_,_,_,_,_=>none
 |n_+1,t28,t29,t30,t57,t58,t59,t=>Zsy (Ztb n_) t28 t29 t30 t57 t58 t59 t
def Zye (n:Nat) (s:(ZnU×Int×Int×Zxz×Int×Int×ZnB)):Option (Out (ZnU×Int×Int×ZnB) Bool):=Ztb n s.1 s.2.1 s.2.2.1 s.2.2.2.1 s.2.2.2.2.1 s.2.2.2.2.2.1 s.2.2.2.2.2.2
def Zve (rec_:(ZnU×Int×Int×Zxz×Int×Int×ZnB)→Option (Out (ZnU×Int×Int×ZnB) Bool)) (s:(ZnU×Int×Int×Zxz×Int×Int×ZnB)):Option (Out (ZnU×Int×Int×ZnB) Bool):=Zsy (fun t28 t29 t30 t57 t58 t59 t=>rec_ (t28,t29,t30,t57,t58,t59,t)) s.1 s.2.1 s.2.2.1 s.2.2.2.1 s.2.2.2.2.1 s.2.2.2.2.2.1 s.2.2.2.2.2.2
theorem ZAW:∀n s,Zye (n+1) s=Zve (Zye n) s:=fun _ _=>rfl
def Zq7 (rec_:ZnU→Int→Int→ZnB→Option (Out Unit Bool)) (t28:ZnU) (t29:Int) (t30:Int) (t55:Bool) (t:ZnB) (c:ZnO):Option (Out Unit Bool):=
 bif t55 then (
  some (.ret false)
 )else (
  (Ztb big t28 t29 t30 c.Cells (c.Cells.length:Int) (0:Int) t).bind fun
   | .ret q_=>some (.ret q_)
   | .brk (x0,x1,x2,x3)=>Zv0 rec_ x0 x1 x2 x3
 )
def Zsz (rec_:ZnU→Int→Int→ZnB→Option (Out Unit Bool)) (t28:ZnU) (t29:Int) (t30:Int) (t:ZnB):Option (Out Unit Bool):=
 bif (decide (t30 < t29))then (
  (idx t28 t30).bind fun c=>
  (Zrj c.Name).bind fun q=>
  bif (!q)then (
   Zq7 rec_ t28 t29 t30 true t c
  )else (
   bif (decide ((c.Cells.length:Int) > 4096))then (
    Zq7 rec_ t28 t29 t30 true t c
   )else (
    (idx t.Columns 0).bind fun Column=>
    Zq7 rec_ t28 t29 t30 ((c.Cells.length:Int) != (Column.Cells.length:Int)) t c
   )
  )
 )else (
  some (.brk ())
 )
def ZpY:Nat→ZnU→Int→Int→ZnB→Option (Out Unit Bool)
 |0,_,_,_,_=>none
 |n_+1,t28,t29,t30,t=>Zsz (ZpY n_) t28 t29 t30 t
def Zyf (n:Nat) (s:(ZnU×Int×Int×ZnB)):Option (Out Unit Bool):=ZpY n s.1 s.2.1 s.2.2.1 s.2.2.2
def Zvf (rec_:(ZnU×Int×Int×ZnB)→Option (Out Unit Bool)) (s:(ZnU×Int×Int×ZnB)):Option (Out Unit Bool):=Zsz (fun t28 t29 t30 t=>rec_ (t28,t29,t30,t)) s.1 s.2.1 s.2.2.1 s.2.2.2
theorem ZAX:∀n s,Zyf (n+1) s=Zvf (Zyf n) s:=fun _ _=>rfl
def ZpZ (t26:Bool) (t:ZnB):Option Bool:=
 bif t26 then (
  some false
 )else (
  (ZpY big t.Columns (t.Columns.length:Int) (0:Int) t).bind fun
   | .ret q_=>some q_
   | .brk ()=>ZvZ
 )
def Zp0 (t:ZnB):Option Bool:=
 bif (decide (t.ID < 0))then (
  ZpZ true t
 )else (
  bif (decide (t.ID > 1073741824))then (
   ZpZ true t
  )else (
   (Zrj t.Name).bind fun q=>
   bif (!q)then (
    ZpZ true t
   )else (
    ZpZ (decide ((t.Columns.length:Int) > 64)) t
   )
  )
 )
def ZqD (t4:Bool):Option Bool:=
 some t4
def Zr5 (t4:Bool):Option Bool:=
 some t4
def Zw1 (o:ZnP):Option Bool:=
 bif (o.Column == 0)then (
  bif (o.Text == ([]:Str))then (
   Zr5 (decide ((o.Columns.length:Int)≤64))
  )else (
   Zr5 false
  )
 )else (
  Zr5 false
 )
def Zr6 (t4:Bool):Option Bool:=
 some t4
def Zuv (rec_:ZnG→Int→Int→ZnB→ZnP→Option (Out ZnP Bool)) (t54:ZnG) (t55:Int) (t56:Int) (t68:Bool) (t:ZnB) (o:ZnP):Option (Out ZnP Bool):=
 bif t68 then (
  some (.ret false)
 )else (
  chk (inK .i64 (t56+1)) <|
  rec_ t54 t55 (t56+1) t o
 )
def Zs8 (rec_:ZnG→Int→Int→ZnB→ZnP→Option (Out ZnP Bool)) (t54:ZnG) (t55:Int) (t56:Int) (t:ZnB) (o:ZnP):Option (Out ZnP Bool):=
 bif (decide (t56 < t55))then (
  (idx t54 t56).bind fun k=>
  bif (decide (k < 0))then (
   Zuv rec_ t54 t55 t56 true t o
  )else (
   Zuv rec_ t54 t55 t56 (decide (k≥(t.Columns.length:Int))) t o
  )
 )else (
  some (.brk o)
 )
def Zr4:Nat→ZnG→Int→Int→ZnB→ZnP→Option (Out ZnP Bool)
 |0,_,_,_,_,_=>none
 |n_+1,t54,t55,t56,t,o=>Zs8 (Zr4 n_) t54 t55 t56 t o
def ZyQ (n:Nat) (s:(ZnG×Int×Int×ZnB×ZnP)):Option (Out ZnP Bool):=Zr4 n s.1 s.2.1 s.2.2.1 s.2.2.2.1 s.2.2.2.2
def ZvX (rec_:(ZnG×Int×Int×ZnB×ZnP)→Option (Out ZnP Bool)) (s:(ZnG×Int×Int×ZnB×ZnP)):Option (Out ZnP Bool):=Zs8 (fun t54 t55 t56 t o=>rec_ (t54,t55,t56,t,o)) s.1 s.2.1 s.2.2.1 s.2.2.2.1 s.2.2.2.2
theorem ZBv:∀n s,ZyQ (n+1) s=ZvX (ZyQ n) s:=fun _ _=>rfl
def Zr7 (there:Bool) (t20:Int) (t36:Bool) (t:ZnB) (o:ZnP):Option Bool:=
 bif t36 then (
  bif there then (
   bif ((o.Columns.length:Int) == 0)then (
    Zr6 (o.Text == ([]:Str))
   )else (
    Zr6 false
   )
  )else (
   Zr6 false
  )
 )else (
  bif (t20 == 3)then (
   (Zr4 big o.Columns (o.Columns.length:Int) (0:Int) t o).bind fun
    | .ret q_=>some q_
    | .brk x0=>Zw1 x0
  )else (
   bif (o.Kind == 4)then (
    bif (o.Column == 0)then (
     bif (o.Text == ([]:Str))then (
      ZqD ((o.Columns.length:Int) == 0)
     )else (
      ZqD false
     )
    )else (
     ZqD false
    )
   )else (
    ZqD false
   )
  )
 )
def Zr8 (t4:Bool):Option Bool:=
 some t4
def Zr9 (there:Bool) (t:ZnB) (o:ZnP):Option Bool:=
 bif (o.Kind == 1)then (
  bif there then (
   bif ((o.Columns.length:Int) == 0)then (
    Zr8 (decide ((o.Text.length:Int)≤1024))
   )else (
    Zr8 false
   )
  )else (
   Zr8 false
  )
 )else (
  bif (o.Kind == 2)then (
   Zr7 there o.Kind (o.Kind == 2) t o
  )else (
   Zr7 there o.Kind (o.Kind == 5) t o
  )
 )
def Zt2 (t:ZnB) (o:ZnP):Option Bool:=
 bif (decide (o.Column≥0))then (
  Zr9 (decide (o.Column < (t.Columns.length:Int))) t o
 )else (
  Zr9 false t o
 )
def Zvg (columns:ZnG) (t4:Int) (t4_1:Str) (out:Int) (out_1:Str) (t4_2:ZnU) (out_2:ZnU):Option (ZnB×Int):=
 bif (decide ((columns.length:Int) > 64))then (
  some ((ZnB.mk 0 ([]:Str) ([]:ZnU)),3)
 )else (
  some ((ZnB.mk out out_1 out_2),0)
 )
def ZsA (rec_:ZnG→ZnG→Int→Int→ZnB→Int→Str→Int→Str→ZnU→ZnU→Option (Out (ZnG×Int×Str×Int×Str×ZnU×ZnU) (ZnB×Int))) (columns:ZnG) (k:Int) (t18:ZnG) (t19:Int) (t20:Int) (t32:Bool) (t:ZnB) (t4:Int) (t4_1:Str) (out:Int) (out_1:Str) (t4_2:ZnU) (out_2:ZnU):Option (Out (ZnG×Int×Str×Int×Str×ZnU×ZnU) (ZnB×Int)):=
 bif t32 then (
  some (.ret ((ZnB.mk 0 ([]:Str) ([]:ZnU)),2))
 )else (
  (idx t.Columns k).bind fun Column=>
  chk (ZiZ (out_2.length+([Column]:ZnU).length) 40) <|
  chk (inK .i64 (t20+1)) <|
  rec_ columns t18 t19 (t20+1) t t4 t4_1 out out_1 t4_2 (out_2++([Column]:ZnU))
 )
def Zrl (rec_:ZnG→ZnG→Int→Int→ZnB→Int→Str→Int→Str→ZnU→ZnU→Option (Out (ZnG×Int×Str×Int×Str×ZnU×ZnU) (ZnB×Int))) (columns:ZnG) (t18:ZnG) (t19:Int) (t20:Int) (t:ZnB) (t4:Int) (t4_1:Str) (out:Int) (out_1:Str) (t4_2:ZnU) (out_2:ZnU):Option (Out (ZnG×Int×Str×Int×Str×ZnU×ZnU) (ZnB×Int)):=
 bif (decide (t20 < t19))then (
  (idx t18 t20).bind fun k=>
  bif (decide (k < 0))then (
   ZsA rec_ columns k t18 t19 t20 true t t4 t4_1 out out_1 t4_2 out_2
  )else (
   ZsA rec_ columns k t18 t19 t20 (decide (k≥(t.Columns.length:Int))) t t4 t4_1 out out_1 t4_2 out_2
  )
 )else (
  some (.brk (columns,t4,t4_1,out,out_1,t4_2,out_2))
 )
def Zqz:Nat→ZnG→ZnG→Int→Int→ZnB→Int→Str→Int→Str→ZnU→ZnU→Option (Out (ZnG×Int×Str×Int×Str×ZnU×ZnU) (ZnB×Int))
 |0,_,_,_,_,_,_,_,_,_,_,_=>none
 |n_+1,columns,t18,t19,t20,t,t4,t4_1,out,out_1,t4_2,out_2=>Zrl (Zqz n_) columns t18 t19 t20 t t4 t4_1 out out_1 t4_2 out_2
def ZxD (n:Nat) (s:(ZnG×ZnG×Int×Int×ZnB×Int×Str×Int×Str×ZnU×ZnU)):Option (Out (ZnG×Int×Str×Int×Str×ZnU×ZnU) (ZnB×Int)):=Zqz n s.1 s.2.1 s.2.2.1 s.2.2.2.1 s.2.2.2.2.1 s.2.2.2.2.2.1 s.2.2.2.2.2.2.1 s.2.2.2.2.2.2.2.1 s.2.2.2.2.2.2.2.2.1 s.2.2.2.2.2.2.2.2.2.1 s.2.2.2.2.2.2.2.2.2.2
def Zum (rec_:(ZnG×ZnG×Int×Int×ZnB×Int×Str×Int×Str×ZnU×ZnU)→Option (Out (ZnG×Int×Str×Int×Str×ZnU×ZnU) (ZnB×Int))) (s:(ZnG×ZnG×Int×Int×ZnB×Int×Str×Int×Str×ZnU×ZnU)):Option (Out (ZnG×Int×Str×Int×Str×ZnU×ZnU) (ZnB×Int)):=Zrl (fun columns t18 t19 t20 t t4 t4_1 out out_1 t4_2 out_2=>rec_ (columns,t18,t19,t20,t,t4,t4_1,out,out_1,t4_2,out_2)) s.1 s.2.1 s.2.2.1 s.2.2.2.1 s.2.2.2.2.1 s.2.2.2.2.2.1 s.2.2.2.2.2.2.1 s.2.2.2.2.2.2.2.1 s.2.2.2.2.2.2.2.2.1 s.2.2.2.2.2.2.2.2.2.1 s.2.2.2.2.2.2.2.2.2.2
theorem ZAy:∀n s,ZxD (n+1) s=Zum (ZxD n) s:=fun _ _=>rfl
def Zrx (t:ZnB) (columns:ZnG):Option (ZnB×Int):=
 (Zp0 t).bind fun q=>
 bif (!q)then (
  some ((ZnB.mk 0 ([]:Str) ([]:ZnU)),1)
 )else (
  (Zqz big columns columns (columns.length:Int) (0:Int) t (0:Int) ([]:Str) t.ID t.Name ([]:ZnU) ([]:ZnU)).bind fun
   | .ret q_=>some q_
   | .brk (x0,x1,x2,x3,x4,x5,x6)=>Zvg x0 x1 x2 x3 x4 x5 x6
 )
def Zrk (t:ZnB):Option Int:=
 bif ((t.Columns.length:Int) == 0)then (
  some (0:Int)
 )else (
  (idx t.Columns 0).bind fun Column=>
  some (Column.Cells.length:Int)
 )
def ZvW:Option Bool:=
 some true
def Zsv (rec_:Int→Int→ZnU→Int→Int→Option (Out Unit Bool)) (x_:Int) (y:Int) (t10:ZnU) (t11:Int) (t12:Int):Option (Out Unit Bool):=
 bif (decide (t12 < t11))then (
  (idx t10 t12).bind fun c=>
  (idx c.Cells x_).bind fun Cell=>
  (idx c.Cells y).bind fun Cell_1=>
  bif (!(Cell.Null == Cell_1.Null&&(Cell.Text == Cell_1.Text&&true)))then (
   some (.ret false)
  )else (
   chk (inK .i64 (t12+1)) <|
   rec_ x_ y t10 t11 (t12+1)
  )
 )else (
  some (.brk ())
 )
def Zs7:Nat→Int→Int→ZnU→Int→Int→Option (Out Unit Bool)
 |0,_,_,_,_,_=>none
 |n_+1,x_,y,t10,t11,t12=>Zsv (Zs7 n_) x_ y t10 t11 t12
def Zyd (n:Nat) (s:(Int×Int×ZnU×Int×Int)):Option (Out Unit Bool):=Zs7 n s.1 s.2.1 s.2.2.1 s.2.2.2.1 s.2.2.2.2
def Zvc (rec_:(Int×Int×ZnU×Int×Int)→Option (Out Unit Bool)) (s:(Int×Int×ZnU×Int×Int)):Option (Out Unit Bool):=Zsv (fun x_ y t10 t11 t12=>rec_ (x_,y,t10,t11,t12)) s.1 s.2.1 s.2.2.1 s.2.2.2.1 s.2.2.2.2
theorem ZAV:∀n s,Zyd (n+1) s=Zvc (Zyd n) s:=fun _ _=>rfl
def ZsR (t:ZnB) (x_:Int) (y:Int):Option Bool:=
 (Zs7 big x_ y t.Columns (t.Columns.length:Int) (0:Int)).bind fun
  | .ret q_=>some q_
  | .brk ()=>ZvW
def Zph (t5:Bool) (a:ZnQ) (b:ZnQ):Option Int:=
 bif t5 then (
  some (0:Int)
 )else (
  bif a.Null then (
   some (-1:Int)
  )else (
   bif b.Null then (
    some (1:Int)
   )else (
    bif (Op.bytesLess a.Text b.Text)then (
     some (-1:Int)
    )else (
     bif (!((Op.bytesLess a.Text b.Text)||a.Text == b.Text))then (
      some (1:Int)
     )else (
      some (0:Int)
     )
    )
   )
  )
 )
def Zp1 (a:ZnQ) (b:ZnQ):Option Int:=
 bif a.Null then (
  Zph b.Null a b
 )else (
  Zph false a b
 )
def Zwz (out:ZnG):Option ZnG:=
 some out
def ZtQ (rec_:Int→Int→ZnB→ZnP→ZnG→Option ZnG) (t14:Int) (r_:Int) (t:ZnB) (o:ZnP) (out:ZnG):Option ZnG:=
 chk (inK .i64 (r_+1)) <|
 rec_ t14 (r_+1) t o out
def Zqg (rec_:Int→Int→ZnB→ZnP→ZnG→Option ZnG) (r_:Int) (at_:Int) (t14:Int) (r__1:Int) (t104:Bool) (t:ZnB) (o:ZnP) (out:ZnG):Option ZnG:=
 bif t104 then (
  chk (Zb9 0 at_ (out.length:Int)) <|
  chk (ZiZ ((out.drop 0).take ((at_).toNat - 0)).length 8) <|
  chk (ZiZ (((out.drop 0).take ((at_).toNat - 0)).length+([r_]:ZnG).length) 8) <|
  chk (Zb9 at_ (out.length:Int) (out.length:Int)) <|
  chk (ZiZ ((((out.drop 0).take ((at_).toNat - 0))++([r_]:ZnG)).length+((out.drop ((at_).toNat)).take ((out.length:Int).toNat - (at_).toNat)).length) 8) <|
  ZtQ rec_ t14 r__1 t o ((((out.drop 0).take ((at_).toNat - 0))++([r_]:ZnG))++((out.drop ((at_).toNat)).take ((out.length:Int).toNat - (at_).toNat)))
 )else (
  ZtQ rec_ t14 r__1 t o out
 )
def Zqh (rec_:Int→Int→ZnB→ZnP→ZnG→Option ZnG) (r_:Int) (at_:Int) (keep:Bool) (t14:Int) (r__1:Int) (t:ZnB) (o:ZnP) (out:ZnG):Option ZnG:=
 Zqg rec_ r_ at_ t14 r__1 keep t o out
def ZwA (rec_:Int→Int→ZnB→ZnP→ZnG→Option ZnG) (r_:Int) (at_:Int) (keep:Bool) (t14:Int) (r__1:Int) (t:ZnB) (o:ZnP) (out:ZnG):Option ZnG:=
 Zqg rec_ r_ at_ t14 r__1 keep t o out
def ZwB (rec_:Int→Int→ZnB→ZnP→ZnG→Option ZnG) (r_:Int) (at_:Int) (keep:Bool) (t14:Int) (r__1:Int) (t:ZnB) (o:ZnP) (out:ZnG):Option ZnG:=
 Zqg rec_ r_ at_ t14 r__1 keep t o out
def ZtS (rec_:Int→Int→Bool→Int→Int→Int→Int→ZnB→ZnP→ZnG→Option (Int×Int×Bool×Int×Int×ZnB×ZnP×ZnG)) (r_:Int) (at_:Int) (keep:Bool) (t14:Int) (r__1:Int) (t61:Int) (t62:Int) (t:ZnB) (o:ZnP) (out:ZnG):Option (Int×Int×Bool×Int×Int×ZnB×ZnP×ZnG):=
 chk (inK .i64 (t62+1)) <|
 rec_ r_ at_ keep t14 r__1 t61 (t62+1) t o out
def ZsX (rec_:Int→Int→Bool→Int→Int→Int→Int→ZnB→ZnP→ZnG→Option (Int×Int×Bool×Int×Int×ZnB×ZnP×ZnG)) (r_:Int) (at_:Int) (keep:Bool) (t14:Int) (r__1:Int) (t61:Int) (t62:Int) (t:ZnB) (o:ZnP) (out:ZnG):Option (Int×Int×Bool×Int×Int×ZnB×ZnP×ZnG):=
 bif (decide (t62 < t61))then (
  chk (inR t62 (out.length:Int)) <|
  (out[(t62).toNat]?).bind fun x_=>
  bif keep then (
   (ZsR t x_ r_).bind fun q=>
   ZtS rec_ r_ at_ (!q) t14 r__1 t61 t62 t o out
  )else (
   ZtS rec_ r_ at_ false t14 r__1 t61 t62 t o out
  )
 )else (
  some (r_,at_,keep,t14,r__1,t,o,out)
 )
def Zrw:Nat→Int→Int→Bool→Int→Int→Int→Int→ZnB→ZnP→ZnG→Option (Int×Int×Bool×Int×Int×ZnB×ZnP×ZnG)
 |0,_,_,_,_,_,_,_,_,_,_=>none
 |n_+1,r_,at_,keep,t14,r__1,t61,t62,t,o,out=>ZsX (Zrw n_) r_ at_ keep t14 r__1 t61 t62 t o out
def Zyy (n:Nat) (s:(Int×Int×Bool×Int×Int×Int×Int×ZnB×ZnP×ZnG)):Option (Int×Int×Bool×Int×Int×ZnB×ZnP×ZnG):=Zrw n s.1 s.2.1 s.2.2.1 s.2.2.2.1 s.2.2.2.2.1 s.2.2.2.2.2.1 s.2.2.2.2.2.2.1 s.2.2.2.2.2.2.2.1 s.2.2.2.2.2.2.2.2.1 s.2.2.2.2.2.2.2.2.2
def ZvD (rec_:(Int×Int×Bool×Int×Int×Int×Int×ZnB×ZnP×ZnG)→Option (Int×Int×Bool×Int×Int×ZnB×ZnP×ZnG)) (s:(Int×Int×Bool×Int×Int×Int×Int×ZnB×ZnP×ZnG)):Option (Int×Int×Bool×Int×Int×ZnB×ZnP×ZnG):=ZsX (fun r_ at_ keep t14 r__1 t61 t62 t o out=>rec_ (r_,at_,keep,t14,r__1,t61,t62,t,o,out)) s.1 s.2.1 s.2.2.1 s.2.2.2.1 s.2.2.2.2.1 s.2.2.2.2.2.1 s.2.2.2.2.2.2.1 s.2.2.2.2.2.2.2.1 s.2.2.2.2.2.2.2.2.1 s.2.2.2.2.2.2.2.2.2
theorem ZBd:∀n s,Zyy (n+1) s=ZvD (Zyy n) s:=fun _ _=>rfl
def ZtR (rec_:Int→Int→Bool→Zxz→Int→Int→ZnB→ZnP→ZnG→Option (Int×Int×Bool×Int×Int×ZnB×ZnP×ZnG)) (r_:Int) (at_:Int) (keep:Bool) (l:Zxz) (t14:Int) (r__1:Int) (t101:Bool) (t:ZnB) (o:ZnP) (out:ZnG):Option (Int×Int×Bool×Int×Int×ZnB×ZnP×ZnG):=
 bif t101 then (
  chk (inK .i64 (at_ - 1)) <|
  rec_ r_ (at_ - 1) keep l t14 r__1 t o out
 )else (
  some (r_,at_,keep,t14,r__1,t,o,out)
 )
def ZvC (rec_:Int→Int→Bool→Zxz→Int→Int→ZnB→ZnP→ZnG→Option (Int×Int×Bool×Int×Int×ZnB×ZnP×ZnG)) (r_:Int) (at_:Int) (keep:Bool) (l:Zxz) (t14:Int) (r__1:Int) (t:ZnB) (o:ZnP) (out:ZnG):Option (Int×Int×Bool×Int×Int×ZnB×ZnP×ZnG):=
 bif (decide (at_ > 0))then (
  chk (inK .i64 (at_ - 1)) <|
  chk (inR (at_ - 1) (out.length:Int)) <|
  (out[((at_ - 1)).toNat]?).bind fun out_e=>
  (idx l out_e).bind fun l_e=>
  (idx l r_).bind fun l_e_1=>
  (Zp1 l_e l_e_1).bind fun q=>
  ZtR rec_ r_ at_ keep l t14 r__1 (decide (q > 0)) t o out
 )else (
  ZtR rec_ r_ at_ keep l t14 r__1 false t o out
 )
def Zrv:Nat→Int→Int→Bool→Zxz→Int→Int→ZnB→ZnP→ZnG→Option (Int×Int×Bool×Int×Int×ZnB×ZnP×ZnG)
 |0,_,_,_,_,_,_,_,_,_=>none
 |n_+1,r_,at_,keep,l,t14,r__1,t,o,out=>ZvC (Zrv n_) r_ at_ keep l t14 r__1 t o out
def Zyw (n:Nat) (s:(Int×Int×Bool×Zxz×Int×Int×ZnB×ZnP×ZnG)):Option (Int×Int×Bool×Int×Int×ZnB×ZnP×ZnG):=Zrv n s.1 s.2.1 s.2.2.1 s.2.2.2.1 s.2.2.2.2.1 s.2.2.2.2.2.1 s.2.2.2.2.2.2.1 s.2.2.2.2.2.2.2.1 s.2.2.2.2.2.2.2.2
def Zyx (rec_:(Int×Int×Bool×Zxz×Int×Int×ZnB×ZnP×ZnG)→Option (Int×Int×Bool×Int×Int×ZnB×ZnP×ZnG)) (s:(Int×Int×Bool×Zxz×Int×Int×ZnB×ZnP×ZnG)):Option (Int×Int×Bool×Int×Int×ZnB×ZnP×ZnG):=ZvC (fun r_ at_ keep l t14 r__1 t o out=>rec_ (r_,at_,keep,l,t14,r__1,t,o,out)) s.1 s.2.1 s.2.2.1 s.2.2.2.1 s.2.2.2.2.1 s.2.2.2.2.2.1 s.2.2.2.2.2.2.1 s.2.2.2.2.2.2.2.1 s.2.2.2.2.2.2.2.2
theorem ZBc:∀n s,Zyw (n+1) s=Zyx (Zyw n) s:=fun _ _=>rfl
def ZsY (rec_:Int→Int→ZnB→ZnP→ZnG→Option ZnG) (t14:Int) (r_:Int) (t:ZnB) (o:ZnP) (out:ZnG):Option ZnG:=
 bif (decide (r_ < t14))then (
  bif (o.Kind == 1)then (
   (idx t.Columns o.Column).bind fun Column=>
   (idx Column.Cells r_).bind fun c=>
   bif (!c.Null)then (
    Zqh rec_ r_ (out.length:Int) (c.Text == o.Text) t14 r_ t o out
   )else (
    Zqh rec_ r_ (out.length:Int) false t14 r_ t o out
   )
  )else (
   bif (o.Kind == 2)then (
    (idx t.Columns o.Column).bind fun Column_1=>
    (idx Column_1.Cells r_).bind fun Cell=>
    Zqh rec_ r_ (out.length:Int) (!Cell.Null) t14 r_ t o out
   )else (
    bif (o.Kind == 4)then (
     (Zrw big r_ (out.length:Int) true t14 r_ (out.length:Int) (0:Int) t o out).bind fun(x0,x1,x2,x3,x4,x5,x6,x7)=>ZwB rec_ x0 x1 x2 x3 x4 x5 x6 x7
    )else (
     bif (o.Kind == 5)then (
      (idx t.Columns o.Column).bind fun Column_2=>
      (Zrv big r_ (out.length:Int) true Column_2.Cells t14 r_ t o out).bind fun(x0,x1,x2,x3,x4,x5,x6,x7)=>ZwA rec_ x0 x1 x2 x3 x4 x5 x6 x7
     )else (
      Zqh rec_ r_ (out.length:Int) true t14 r_ t o out
     )
    )
   )
  )
 )else (
  some out
 )
def Zor:Nat→Int→Int→ZnB→ZnP→ZnG→Option ZnG
 |0,_,_,_,_,_=>none
 |n_+1,t14,r_,t,o,out=>ZsY (Zor n_) t14 r_ t o out
def Zyz (n:Nat) (s:(Int×Int×ZnB×ZnP×ZnG)):Option ZnG:=Zor n s.1 s.2.1 s.2.2.1 s.2.2.2.1 s.2.2.2.2
def ZvE (rec_:(Int×Int×ZnB×ZnP×ZnG)→Option ZnG) (s:(Int×Int×ZnB×ZnP×ZnG)):Option ZnG:=ZsY (fun t14 r_ t o out=>rec_ (t14,r_,t,o,out)) s.1 s.2.1 s.2.2.1 s.2.2.2.1 s.2.2.2.2
theorem ZBe:∀n s,Zyz (n+1) s=ZvE (Zyz n) s:=fun _ _=>rfl
def Zs6 (t:ZnB) (o:ZnP):Option ZnG:=
 (Zrk t).bind fun q=>
 (Zor big q (0:Int) t o ([]:ZnG)).bind fun x0=>Zwz x0
def ZvG (t4:Int) (t4_1:Str) (out:Int) (out_1:Str) (t4_2:ZnU) (out_2:ZnU):Option (ZnB×Int):=
 some ((ZnB.mk out out_1 out_2),0)
def ZvH (rec_:ZnG→ZnU→Int→Int→Int→Str→Int→Str→ZnU→ZnU→Option (Int×Str×Int×Str×ZnU×ZnU)) (rows:ZnG) (t44:ZnU) (t45:Int) (t46:Int) (t4:Int) (t4_1:Str) (out:Int) (out_1:Str) (x_:Str) (t4_2:ZnU) (out_2:ZnU) (x__1:Zxz):Option (Int×Str×Int×Str×ZnU×ZnU):=
 chk (ZiZ (out_2.length+([(ZnO.mk x_ x__1)]:ZnU).length) 40) <|
 chk (inK .i64 (t46+1)) <|
 rec_ rows t44 t45 (t46+1) t4 t4_1 out out_1 t4_2 (out_2++([(ZnO.mk x_ x__1)]:ZnU))
def ZrT (rec_:ZnG→ZnU→Int→Int→ZnG→Int→Int→Int→Str→Int→Str→ZnO→Str→ZnU→ZnU→Zxz→Option (ZnG×ZnU×Int×Int×Int×Str×Int×Str×Str×ZnU×ZnU×Zxz)) (rows:ZnG) (t44:ZnU) (t45:Int) (t46:Int) (t53:ZnG) (t54:Int) (t55:Int) (t4:Int) (t4_1:Str) (out:Int) (out_1:Str) (c:ZnO) (x_:Str) (t4_2:ZnU) (out_2:ZnU) (x__1:Zxz):Option (ZnG×ZnU×Int×Int×Int×Str×Int×Str×Str×ZnU×ZnU×Zxz):=
 bif (decide (t55 < t54))then (
  (idx t53 t55).bind fun k=>
  (idx c.Cells k).bind fun Cell=>
  chk (ZiZ (x__1.length+([Cell]:Zxz).length) 24) <|
  chk (inK .i64 (t55+1)) <|
  rec_ rows t44 t45 t46 t53 t54 (t55+1) t4 t4_1 out out_1 c x_ t4_2 out_2 (x__1++([Cell]:Zxz))
 )else (
  some (rows,t44,t45,t46,t4,t4_1,out,out_1,x_,t4_2,out_2,x__1)
 )
def Zs0:Nat→ZnG→ZnU→Int→Int→ZnG→Int→Int→Int→Str→Int→Str→ZnO→Str→ZnU→ZnU→Zxz→Option (ZnG×ZnU×Int×Int×Int×Str×Int×Str×Str×ZnU×ZnU×Zxz)
 |0,_,_,_,_,_,_,_,_,_,_,_,_,_,_,_,_=>none
 |n_+1,rows,t44,t45,t46,t53,t54,t55,t4,t4_1,out,out_1,c,x_,t4_2,out_2,x__1=>ZrT (Zs0 n_) rows t44 t45 t46 t53 t54 t55 t4 t4_1 out out_1 c x_ t4_2 out_2 x__1
def ZxV (n:Nat) (s:(ZnG×ZnU×Int×Int×ZnG×Int×Int×Int×Str×Int×Str×ZnO×Str×ZnU×ZnU×Zxz)):Option (ZnG×ZnU×Int×Int×Int×Str×Int×Str×Str×ZnU×ZnU×Zxz):=Zs0 n s.1 s.2.1 s.2.2.1 s.2.2.2.1 s.2.2.2.2.1 s.2.2.2.2.2.1 s.2.2.2.2.2.2.1 s.2.2.2.2.2.2.2.1 s.2.2.2.2.2.2.2.2.1 s.2.2.2.2.2.2.2.2.2.1 s.2.2.2.2.2.2.2.2.2.2.1 s.2.2.2.2.2.2.2.2.2.2.2.1 s.2.2.2.2.2.2.2.2.2.2.2.2.1 s.2.2.2.2.2.2.2.2.2.2.2.2.2.1 s.2.2.2.2.2.2.2.2.2.2.2.2.2.2.1 s.2.2.2.2.2.2.2.2.2.2.2.2.2.2.2
def ZuM (rec_:(ZnG×ZnU×Int×Int×ZnG×Int×Int×Int×Str×Int×Str×ZnO×Str×ZnU×ZnU×Zxz)→Option (ZnG×ZnU×Int×Int×Int×Str×Int×Str×Str×ZnU×ZnU×Zxz)) (s:(ZnG×ZnU×Int×Int×ZnG×Int×Int×Int×Str×Int×Str×ZnO×Str×ZnU×ZnU×Zxz)):Option (ZnG×ZnU×Int×Int×Int×Str×Int×Str×Str×ZnU×ZnU×Zxz):=ZrT (fun rows t44 t45 t46 t53 t54 t55 t4 t4_1 out out_1 c x_ t4_2 out_2 x__1=>rec_ (rows,t44,t45,t46,t53,t54,t55,t4,t4_1,out,out_1,c,x_,t4_2,out_2,x__1)) s.1 s.2.1 s.2.2.1 s.2.2.2.1 s.2.2.2.2.1 s.2.2.2.2.2.1 s.2.2.2.2.2.2.1 s.2.2.2.2.2.2.2.1 s.2.2.2.2.2.2.2.2.1 s.2.2.2.2.2.2.2.2.2.1 s.2.2.2.2.2.2.2.2.2.2.1 s.2.2.2.2.2.2.2.2.2.2.2.1 s.2.2.2.2.2.2.2.2.2.2.2.2.1 s.2.2.2.2.2.2.2.2.2.2.2.2.2.1 s.2.2.2.2.2.2.2.2.2.2.2.2.2.2.1 s.2.2.2.2.2.2.2.2.2.2.2.2.2.2.2
theorem ZAF:∀n s,ZxV (n+1) s=ZuM (ZxV n) s:=fun _ _=>rfl
def ZrU (rec_:ZnG→ZnU→Int→Int→Int→Str→Int→Str→ZnU→ZnU→Option (Int×Str×Int×Str×ZnU×ZnU)) (rows:ZnG) (t44:ZnU) (t45:Int) (t46:Int) (t4:Int) (t4_1:Str) (out:Int) (out_1:Str) (t4_2:ZnU) (out_2:ZnU):Option (Int×Str×Int×Str×ZnU×ZnU):=
 bif (decide (t46 < t45))then (
  (idx t44 t46).bind fun c=>
  (Zs0 big rows t44 t45 t46 rows (rows.length:Int) (0:Int) t4 t4_1 out out_1 c c.Name t4_2 out_2 ([]:Zxz)).bind fun(x0,x1,x2,x3,x4,x5,x6,x7,x8,x9,x10,x11)=>ZvH rec_ x0 x1 x2 x3 x4 x5 x6 x7 x8 x9 x10 x11
 )else (
  some (t4,t4_1,out,out_1,t4_2,out_2)
 )
def ZqR:Nat→ZnG→ZnU→Int→Int→Int→Str→Int→Str→ZnU→ZnU→Option (Int×Str×Int×Str×ZnU×ZnU)
 |0,_,_,_,_,_,_,_,_,_,_=>none
 |n_+1,rows,t44,t45,t46,t4,t4_1,out,out_1,t4_2,out_2=>ZrU (ZqR n_) rows t44 t45 t46 t4 t4_1 out out_1 t4_2 out_2
def ZxW (n:Nat) (s:(ZnG×ZnU×Int×Int×Int×Str×Int×Str×ZnU×ZnU)):Option (Int×Str×Int×Str×ZnU×ZnU):=ZqR n s.1 s.2.1 s.2.2.1 s.2.2.2.1 s.2.2.2.2.1 s.2.2.2.2.2.1 s.2.2.2.2.2.2.1 s.2.2.2.2.2.2.2.1 s.2.2.2.2.2.2.2.2.1 s.2.2.2.2.2.2.2.2.2
def ZuN (rec_:(ZnG×ZnU×Int×Int×Int×Str×Int×Str×ZnU×ZnU)→Option (Int×Str×Int×Str×ZnU×ZnU)) (s:(ZnG×ZnU×Int×Int×Int×Str×Int×Str×ZnU×ZnU)):Option (Int×Str×Int×Str×ZnU×ZnU):=ZrU (fun rows t44 t45 t46 t4 t4_1 out out_1 t4_2 out_2=>rec_ (rows,t44,t45,t46,t4,t4_1,out,out_1,t4_2,out_2)) s.1 s.2.1 s.2.2.1 s.2.2.2.1 s.2.2.2.2.1 s.2.2.2.2.2.1 s.2.2.2.2.2.2.1 s.2.2.2.2.2.2.2.1 s.2.2.2.2.2.2.2.2.1 s.2.2.2.2.2.2.2.2.2
theorem ZAG:∀n s,ZxW (n+1) s=ZuN (ZxW n) s:=fun _ _=>rfl
def ZvI (rows:ZnG) (t:ZnB) (t4:Int) (t4_1:Str) (t4_2:ZnU):Option (ZnB×Int):=
 bif (decide ((rows.length:Int) > 4096))then (
  some ((ZnB.mk 0 ([]:Str) ([]:ZnU)),3)
 )else (
  (ZqR big rows t.Columns (t.Columns.length:Int) (0:Int) t4 t4_1 t.ID t.Name t4_2 ([]:ZnU)).bind fun(x0,x1,x2,x3,x4,x5)=>ZvG x0 x1 x2 x3 x4 x5
 )
def Zs1 (rec_:ZnG→ZnG→Int→Int→ZnB→Int→Str→ZnU→Option (Out (ZnG×ZnB×Int×Str×ZnU) (ZnB×Int))) (rows:ZnG) (t18:ZnG) (t19:Int) (t20:Int) (t31:Bool) (t:ZnB) (t4:Int) (t4_1:Str) (t4_2:ZnU):Option (Out (ZnG×ZnB×Int×Str×ZnU) (ZnB×Int)):=
 bif t31 then (
  some (.ret ((ZnB.mk 0 ([]:Str) ([]:ZnU)),2))
 )else (
  chk (inK .i64 (t20+1)) <|
  rec_ rows t18 t19 (t20+1) t t4 t4_1 t4_2
 )
def ZrV (rec_:ZnG→ZnG→Int→Int→ZnB→Int→Str→ZnU→Option (Out (ZnG×ZnB×Int×Str×ZnU) (ZnB×Int))) (rows:ZnG) (t18:ZnG) (t19:Int) (t20:Int) (t:ZnB) (t4:Int) (t4_1:Str) (t4_2:ZnU):Option (Out (ZnG×ZnB×Int×Str×ZnU) (ZnB×Int)):=
 bif (decide (t20 < t19))then (
  (idx t18 t20).bind fun k=>
  bif (decide (k < 0))then (
   Zs1 rec_ rows t18 t19 t20 true t t4 t4_1 t4_2
  )else (
   (Zrk t).bind fun q=>
   Zs1 rec_ rows t18 t19 t20 (decide (k≥q)) t t4 t4_1 t4_2
  )
 )else (
  some (.brk (rows,t,t4,t4_1,t4_2))
 )
def ZqS:Nat→ZnG→ZnG→Int→Int→ZnB→Int→Str→ZnU→Option (Out (ZnG×ZnB×Int×Str×ZnU) (ZnB×Int))
 |0,_,_,_,_,_,_,_,_=>none
 |n_+1,rows,t18,t19,t20,t,t4,t4_1,t4_2=>ZrV (ZqS n_) rows t18 t19 t20 t t4 t4_1 t4_2
def ZxX (n:Nat) (s:(ZnG×ZnG×Int×Int×ZnB×Int×Str×ZnU)):Option (Out (ZnG×ZnB×Int×Str×ZnU) (ZnB×Int)):=ZqS n s.1 s.2.1 s.2.2.1 s.2.2.2.1 s.2.2.2.2.1 s.2.2.2.2.2.1 s.2.2.2.2.2.2.1 s.2.2.2.2.2.2.2
def ZuO (rec_:(ZnG×ZnG×Int×Int×ZnB×Int×Str×ZnU)→Option (Out (ZnG×ZnB×Int×Str×ZnU) (ZnB×Int))) (s:(ZnG×ZnG×Int×Int×ZnB×Int×Str×ZnU)):Option (Out (ZnG×ZnB×Int×Str×ZnU) (ZnB×Int)):=ZrV (fun rows t18 t19 t20 t t4 t4_1 t4_2=>rec_ (rows,t18,t19,t20,t,t4,t4_1,t4_2)) s.1 s.2.1 s.2.2.1 s.2.2.2.1 s.2.2.2.2.1 s.2.2.2.2.2.1 s.2.2.2.2.2.2.1 s.2.2.2.2.2.2.2
theorem ZAH:∀n s,ZxX (n+1) s=ZuO (ZxX n) s:=fun _ _=>rfl
def Zsa (t:ZnB) (rows:ZnG):Option (ZnB×Int):=
 (Zp0 t).bind fun q=>
 bif (!q)then (
  some ((ZnB.mk 0 ([]:Str) ([]:ZnU)),1)
 )else (
  (ZqS big rows rows (rows.length:Int) (0:Int) t (0:Int) ([]:Str) ([]:ZnU)).bind fun
   | .ret q_=>some q_
   | .brk (x0,x1,x2,x3,x4)=>ZvI x0 x1 x2 x3 x4
 )
def ZuL (t:ZnB) (o:ZnP):Option ZnB:=
 bif (o.Kind == 3)then (
  (Zrx t o.Columns).bind fun(x_,q)=>
  some x_
 )else (
  (Zs6 t o).bind fun q_1=>
  (Zsa t q_1).bind fun(x__1,q_2)=>
  some x__1
 )
def ZwC (t2:Int) (t2_1:Str) (out:Int) (out_1:Str) (t2_2:ZnU) (out_2:ZnU):Option ZnB:=
 some (ZnB.mk out out_1 out_2)
def ZsZ (rec_:ZnU→Int→Int→Int→Str→Int→Str→ZnU→ZnU→Option (Int×Str×Int×Str×ZnU×ZnU)) (t12:ZnU) (t13:Int) (t14:Int) (t2:Int) (t2_1:Str) (out:Int) (out_1:Str) (t2_2:ZnU) (out_2:ZnU):Option (Int×Str×Int×Str×ZnU×ZnU):=
 bif (decide (t14 < t13))then (
  (idx t12 t14).bind fun c=>
  chk (ZiZ c.Cells.length 24) <|
  chk (ZiZ (out_2.length+([c]:ZnU).length) 40) <|
  chk (inK .i64 (t14+1)) <|
  rec_ t12 t13 (t14+1) t2 t2_1 out out_1 t2_2 (out_2++([c]:ZnU))
 )else (
  some (t2,t2_1,out,out_1,t2_2,out_2)
 )
def ZtT:Nat→ZnU→Int→Int→Int→Str→Int→Str→ZnU→ZnU→Option (Int×Str×Int×Str×ZnU×ZnU)
 |0,_,_,_,_,_,_,_,_,_=>none
 |n_+1,t12,t13,t14,t2,t2_1,out,out_1,t2_2,out_2=>ZsZ (ZtT n_) t12 t13 t14 t2 t2_1 out out_1 t2_2 out_2
def ZyA (n:Nat) (s:(ZnU×Int×Int×Int×Str×Int×Str×ZnU×ZnU)):Option (Int×Str×Int×Str×ZnU×ZnU):=ZtT n s.1 s.2.1 s.2.2.1 s.2.2.2.1 s.2.2.2.2.1 s.2.2.2.2.2.1 s.2.2.2.2.2.2.1 s.2.2.2.2.2.2.2.1 s.2.2.2.2.2.2.2.2
def ZvF (rec_:(ZnU×Int×Int×Int×Str×Int×Str×ZnU×ZnU)→Option (Int×Str×Int×Str×ZnU×ZnU)) (s:(ZnU×Int×Int×Int×Str×Int×Str×ZnU×ZnU)):Option (Int×Str×Int×Str×ZnU×ZnU):=ZsZ (fun t12 t13 t14 t2 t2_1 out out_1 t2_2 out_2=>rec_ (t12,t13,t14,t2,t2_1,out,out_1,t2_2,out_2)) s.1 s.2.1 s.2.2.1 s.2.2.2.1 s.2.2.2.2.1 s.2.2.2.2.2.1 s.2.2.2.2.2.2.1 s.2.2.2.2.2.2.2.1 s.2.2.2.2.2.2.2.2
theorem ZBf:∀n s,ZyA (n+1) s=ZvF (ZyA n) s:=fun _ _=>rfl
def Zrg (t:ZnB):Option ZnB:=
 (ZtT big t.Columns (t.Columns.length:Int) (0:Int) (0:Int) ([]:Str) t.ID t.Name ([]:ZnU) ([]:ZnU)).bind fun(x0,x1,x2,x3,x4,x5)=>ZwC x0 x1 x2 x3 x4 x5
def Zw2 (t:ZnB) (t4:Int) (t4_1:Str) (t4_2:ZnU):Option (ZnB×Int):=
 (Zrg t).bind fun q=>
 some (q,0)
def Zs9 (rec_:(List ZnP)→Int→Int→ZnB→Int→Str→ZnU→Option (Out (ZnB×Int×Str×ZnU) (ZnB×Int))) (t18:(List ZnP)) (t19:Int) (t20:Int) (t:ZnB) (t4:Int) (t4_1:Str) (t4_2:ZnU):Option (Out (ZnB×Int×Str×ZnU) (ZnB×Int)):=
 bif (decide (t20 < t19))then (
  (idx t18 t20).bind fun o=>
  (Zt2 t o).bind fun q=>
  bif (!q)then (
   some (.ret ((ZnB.mk 0 ([]:Str) ([]:ZnU)),24))
  )else (
   (ZuL t o).bind fun t_1=>
   chk (inK .i64 (t20+1)) <|
   rec_ t18 t19 (t20+1) t_1 t4 t4_1 t4_2
  )
 )else (
  some (.brk (t,t4,t4_1,t4_2))
 )
def Zuw:Nat→(List ZnP)→Int→Int→ZnB→Int→Str→ZnU→Option (Out (ZnB×Int×Str×ZnU) (ZnB×Int))
 |0,_,_,_,_,_,_,_=>none
 |n_+1,t18,t19,t20,t,t4,t4_1,t4_2=>Zs9 (Zuw n_) t18 t19 t20 t t4 t4_1 t4_2
def ZyR (n:Nat) (s:((List ZnP)×Int×Int×ZnB×Int×Str×ZnU)):Option (Out (ZnB×Int×Str×ZnU) (ZnB×Int)):=Zuw n s.1 s.2.1 s.2.2.1 s.2.2.2.1 s.2.2.2.2.1 s.2.2.2.2.2.1 s.2.2.2.2.2.2
def ZvY (rec_:((List ZnP)×Int×Int×ZnB×Int×Str×ZnU)→Option (Out (ZnB×Int×Str×ZnU) (ZnB×Int))) (s:((List ZnP)×Int×Int×ZnB×Int×Str×ZnU)):Option (Out (ZnB×Int×Str×ZnU) (ZnB×Int)):=Zs9 (fun t18 t19 t20 t t4 t4_1 t4_2=>rec_ (t18,t19,t20,t,t4,t4_1,t4_2)) s.1 s.2.1 s.2.2.1 s.2.2.2.1 s.2.2.2.2.1 s.2.2.2.2.2.1 s.2.2.2.2.2.2
theorem ZBw:∀n s,ZyR (n+1) s=ZvY (ZyR n) s:=fun _ _=>rfl
def Zt3 (t:ZnB) (l:(List ZnP)):Option (ZnB×Int):=
 bif (decide ((l.length:Int) > 5))then (
  some ((ZnB.mk 0 ([]:Str) ([]:ZnU)),3)
 )else (
  (Zp0 t).bind fun q=>
  bif (!q)then (
   some ((ZnB.mk 0 ([]:Str) ([]:ZnU)),1)
  )else (
   (Zuw big l (l.length:Int) (0:Int) t (0:Int) ([]:Str) ([]:ZnU)).bind fun
    | .ret q_=>some q_
    | .brk (x0,x1,x2,x3)=>Zw2 x0 x1 x2 x3
  )
 )
def Zwc (id:Int) (d:ZnA) (t:ZnB) (t6:Int) (t6_1:Str) (t6_2:ZnU):Option (ZnB×ZnA):=
 (Zrg t).bind fun t_1=>
 some ((ZnB.mk id t_1.Name t_1.Columns),d)
def Ztm (rec_:Int→Int→ZnA→ZnB→Int→Str→ZnU→Option (Int×ZnA×ZnB×Int×Str×ZnU)) (id:Int) (k:Int) (d:ZnA) (t:ZnB) (t6:Int) (t6_1:Str) (t6_2:ZnU):Option (Int×ZnA×ZnB×Int×Str×ZnU):=
 chk (inK .i64 (k - 1)) <|
 rec_ id (k - 1) d t t6 t6_1 t6_2
def Zvi (rec_:Int→Int→ZnA→ZnB→Int→Str→ZnU→Option (Int×ZnA×ZnB×Int×Str×ZnU)) (id:Int) (k:Int) (d:ZnA) (t:ZnB) (t6:Int) (t6_1:Str) (t6_2:ZnU):Option (Int×ZnA×ZnB×Int×Str×ZnU):=
 bif (decide (k > 0))then (
  (Zwb d t).bind fun(q,t18)=>
  (Zt3 t ([q]:(List ZnP))).bind fun(x_,e)=>
  bif (e == 0)then (
   Ztm rec_ id k t18 x_ t6 t6_1 t6_2
  )else (
   Ztm rec_ id k t18 t t6 t6_1 t6_2
  )
 )else (
  some (id,d,t,t6,t6_1,t6_2)
 )
def Zrb:Nat→Int→Int→ZnA→ZnB→Int→Str→ZnU→Option (Int×ZnA×ZnB×Int×Str×ZnU)
 |0,_,_,_,_,_,_,_=>none
 |n_+1,id,k,d,t,t6,t6_1,t6_2=>Zvi (Zrb n_) id k d t t6 t6_1 t6_2
def Zyh (n:Nat) (s:(Int×Int×ZnA×ZnB×Int×Str×ZnU)):Option (Int×ZnA×ZnB×Int×Str×ZnU):=Zrb n s.1 s.2.1 s.2.2.1 s.2.2.2.1 s.2.2.2.2.1 s.2.2.2.2.2.1 s.2.2.2.2.2.2
def Zyi (rec_:(Int×Int×ZnA×ZnB×Int×Str×ZnU)→Option (Int×ZnA×ZnB×Int×Str×ZnU)) (s:(Int×Int×ZnA×ZnB×Int×Str×ZnU)):Option (Int×ZnA×ZnB×Int×Str×ZnU):=Zvi (fun id k d t t6 t6_1 t6_2=>rec_ (id,k,d,t,t6,t6_1,t6_2)) s.1 s.2.1 s.2.2.1 s.2.2.2.1 s.2.2.2.2.1 s.2.2.2.2.2.1 s.2.2.2.2.2.2
theorem ZAZ:∀n s,Zyh (n+1) s=Zyi (Zyh n) s:=fun _ _=>rfl
def ZsS (d:ZnA) (t:ZnB) (id:Int):Option (ZnB×ZnA):=
 (ZnL d 3).bind fun(k,t10)=>
 (Zrb big id k t10 t (0:Int) ([]:Str) ([]:ZnU)).bind fun(x0,x1,x2,x3,x4,x5)=>Zwc x0 x1 x2 x3 x4 x5
def ZwF (d:ZnA) (l:ZrS):Option (ZrS×ZnA):=
 some (l,d)
def ZrA (rec_:Int→Int→ZnA→ZrS→Option (ZnA×ZrS)) (id:Int) (k:Int) (d:ZnA) (l:ZrS) (t:ZnB):Option (ZnA×ZrS):=
 chk (ZiZ (l.length+([t]:ZrS).length) 48) <|
 chk (inK .i64 (k - 1)) <|
 rec_ id (k - 1) d (l++([t]:ZrS))
def ZtX (rec_:Int→Int→ZnA→ZrS→Option (ZnA×ZrS)) (id:Int) (k:Int) (t34:Bool) (d:ZnA) (l:ZrS) (t:ZnB):Option (ZnA×ZrS):=
 bif t34 then (
  (ZnL d (l.length:Int)).bind fun(q,t37)=>
  chk (inR q (l.length:Int)) <|
  (l[(q).toNat]?).bind fun l_e=>
  (ZsS t37 l_e id).bind fun(t_1,t35)=>
  ZrA rec_ id k t35 l t_1
 )else (
  ZrA rec_ id k d l t
 )
def ZvK (rec_:Int→Int→ZnA→ZrS→Option (ZnA×ZrS)) (id:Int) (k:Int) (d:ZnA) (l:ZrS):Option (ZnA×ZrS):=
 bif (decide (k > 0))then (
  (ZnL d 2).bind fun(q,t20)=>
  chk (inK .i64 (1+q)) <|
  chk (inK .i64 (id+(1+q))) <|
  (Zt9 t20 (id+(1+q))).bind fun(t,t24)=>
  bif (decide ((l.length:Int) > 0))then (
   (ZnL t24 4).bind fun(q_1,t31)=>
   ZtX rec_ (id+(1+q)) k (q_1 == 0) t31 l t
  )else (
   ZtX rec_ (id+(1+q)) k false t24 l t
  )
 )else (
  some (d,l)
 )
def Zqj:Nat→Int→Int→ZnA→ZrS→Option (ZnA×ZrS)
 |0,_,_,_,_=>none
 |n_+1,id,k,d,l=>ZvK (Zqj n_) id k d l
def ZyD (n:Nat) (s:(Int×Int×ZnA×ZrS)):Option (ZnA×ZrS):=Zqj n s.1 s.2.1 s.2.2.1 s.2.2.2
def ZyE (rec_:(Int×Int×ZnA×ZrS)→Option (ZnA×ZrS)) (s:(Int×Int×ZnA×ZrS)):Option (ZnA×ZrS):=ZvK (fun id k d l=>rec_ (id,k,d,l)) s.1 s.2.1 s.2.2.1 s.2.2.2
theorem ZBh:∀n s,ZyD (n+1) s=ZyE (ZyD n) s:=fun _ _=>rfl
def Ztk (d:ZnA) (most:Int):Option (ZrS×ZnA):=
 (ZnL d 2).bind fun(id,t9)=>
 (ZnL t9 most).bind fun(q,t11)=>
 chk (inK .i64 (1+q)) <|
 (Zqj big id (1+q) t11 ([]:ZrS)).bind fun(x0,x1)=>ZwF x0 x1
def ZB5 (s:Str):Option Bool:=
 (Zqf s).bind fun q=>
 some q
def ZAj (t2:Bool):Option Bool:=
 some t2
def Zy0 (s:Str):Option Bool:=
 bif (decide ((s.length:Int)≤1024))then (
  (ZB5 s).bind fun q=>
  ZAj q
 )else (
  ZAj false
 )
def Zz8 (t:ZnB):Option Int:=
 bif ((t.Columns.length:Int) == 0)then (
  some (0:Int)
 )else (
  (idx t.Columns 0).bind fun Column=>
  some (Column.Cells.length:Int)
 )
def Zvt (t2:Bool):Option Bool:=
 some t2
def ZxG (c:ZnQ):Option Bool:=
 (Zy0 c.Text).bind fun q=>
 bif q then (
  bif c.Null then (
   Zvt (!(!(c.Text == ([]:Str))))
  )else (
   Zvt true
  )
 )else (
  Zvt false
 )
def Zxf:Option Bool:=
 some true
def Zto (rec_:Zxz→Int→Int→Option (Out Unit Bool)) (t7:Zxz) (t8:Int) (t9:Int):Option (Out Unit Bool):=
 bif (decide (t9 < t8))then (
  (idx t7 t9).bind fun x_=>
  (ZxG x_).bind fun q=>
  bif (!q)then (
   some (.ret false)
  )else (
   chk (inK .i64 (t9+1)) <|
   rec_ t7 t8 (t9+1)
  )
 )else (
  some (.brk ())
 )
def ZuG:Nat→Zxz→Int→Int→Option (Out Unit Bool)
 |0,_,_,_=>none
 |n_+1,t7,t8,t9=>Zto (ZuG n_) t7 t8 t9
def Zy1 (n:Nat) (s:(Zxz×Int×Int)):Option (Out Unit Bool):=ZuG n s.1 s.2.1 s.2.2
def Zwd (rec_:(Zxz×Int×Int)→Option (Out Unit Bool)) (s:(Zxz×Int×Int)):Option (Out Unit Bool):=Zto (fun t7 t8 t9=>rec_ (t7,t8,t9)) s.1 s.2.1 s.2.2
theorem ZBE:∀n s,Zy1 (n+1) s=Zwd (Zy1 n) s:=fun _ _=>rfl
def Zud (l:Zxz):Option Bool:=
 (ZuG big l (l.length:Int) (0:Int)).bind fun
  | .ret q_=>some q_
  | .brk ()=>Zxf
def ZwP (t3:Bool):Option Bool:=
 some t3
def ZAk (c:ZnO) (a1:ZnB):Option Bool:=
 (Zy0 c.Name).bind fun q=>
 bif (!q)then (
  ZwP true
 )else (
  (Zz8 a1).bind fun q_1=>
  bif ((c.Cells.length:Int) != q_1)then (
   ZwP true
  )else (
   (Zud c.Cells).bind fun q_2=>
   ZwP (!q_2)
  )
 )
def Zqx:Option Int:=
 some (-1:Int)
def ZoP (rec_:ZnU→ZnB→Int→Int→Option (Out Unit Int)) (s:ZnU) (f:ZnB) (t7:Int) (i:Int):Option (Out Unit Int):=
 bif (decide (i < t7))then (
  (idx s i).bind fun s_e=>
  (ZAk s_e f).bind fun q=>
  bif q then (
   some (.ret i)
  )else (
   chk (inK .i64 (i+1)) <|
   rec_ s f t7 (i+1)
  )
 )else (
  some (.brk ())
 )
def ZoY:Nat→ZnU→ZnB→Int→Int→Option (Out Unit Int)
 |0,_,_,_,_=>none
 |n_+1,s,f,t7,i=>ZoP (ZoY n_) s f t7 i
def ZsT (n:Nat) (s:(ZnU×ZnB×Int×Int)):Option (Out Unit Int):=ZoY n s.1 s.2.1 s.2.2.1 s.2.2.2
def Zp6 (rec_:(ZnU×ZnB×Int×Int)→Option (Out Unit Int)) (s:(ZnU×ZnB×Int×Int)):Option (Out Unit Int):=ZoP (fun s f t7 i=>rec_ (s,f,t7,i)) s.1 s.2.1 s.2.2.1 s.2.2.2
theorem Zxo:∀n s,ZsT (n+1) s=Zp6 (ZsT n) s:=fun _ _=>rfl
def Zpp (s:ZnU) (c:ZnB):Option Int:=
 (ZoY big s c (s.length:Int) (0:Int)).bind fun
  | .ret q_=>some q_
  | .brk ()=>Zqx
def ZoZ (s:ZnU) (c:ZnB):Option Bool:=
 (Zpp s c).bind fun q=>
 some (decide (q≥0))
def Zvj (t27:Bool) (t:ZnB):Option Bool:=
 bif t27 then (
  some false
 )else (
  (ZoZ t.Columns t).bind fun q=>
  some (!q)
 )
def ZAl (t:ZnB):Option Bool:=
 bif (decide (t.ID < 0))then (
  Zvj true t
 )else (
  bif (decide (t.ID > 1073741824))then (
   Zvj true t
  )else (
   (Zy0 t.Name).bind fun q=>
   bif (!q)then (
    Zvj true t
   )else (
    bif (decide ((t.Columns.length:Int) > 64))then (
     Zvj true t
    )else (
     (Zz8 t).bind fun q_1=>
     Zvj (decide (q_1 > 4096)) t
    )
   )
  )
 )
def ZwH:Option Bool:=
 some true
def Zs5 (rec_:ZrS→Int→Int→Option (Out Unit Bool)) (t7:ZrS) (t8:Int) (t9:Int):Option (Out Unit Bool):=
 bif (decide (t9 < t8))then (
  (idx t7 t9).bind fun x_=>
  (ZAl x_).bind fun q=>
  bif (!q)then (
   some (.ret false)
  )else (
   chk (inK .i64 (t9+1)) <|
   rec_ t7 t8 (t9+1)
  )
 )else (
  some (.brk ())
 )
def ZtY:Nat→ZrS→Int→Int→Option (Out Unit Bool)
 |0,_,_,_=>none
 |n_+1,t7,t8,t9=>Zs5 (ZtY n_) t7 t8 t9
def ZyG (n:Nat) (s:(ZrS×Int×Int)):Option (Out Unit Bool):=ZtY n s.1 s.2.1 s.2.2
def ZvM (rec_:(ZrS×Int×Int)→Option (Out Unit Bool)) (s:(ZrS×Int×Int)):Option (Out Unit Bool):=Zs5 (fun t7 t8 t9=>rec_ (t7,t8,t9)) s.1 s.2.1 s.2.2
theorem ZBj:∀n s,ZyG (n+1) s=ZvM (ZyG n) s:=fun _ _=>rfl
def Ztn (l:ZrS):Option Bool:=
 (ZtY big l (l.length:Int) (0:Int)).bind fun
  | .ret q_=>some q_
  | .brk ()=>ZwH
def Zxq (t2:Bool):Option Bool:=
 some t2
def ZzK (l:ZrS):Option Bool:=
 bif (decide ((l.length:Int)≤1024))then (
  (Ztn l).bind fun q=>
  Zxq q
 )else (
  Zxq false
 )
def Zys (rec_:ZrS→Int→Option (Out ZrS Bool)) (l:ZrS) (i:Int):Option (Out ZrS Bool):=
 bif (decide (i < (l.length:Int)))then (
  chk (inK .i64 (i - 1)) <|
  (idx l (i - 1)).bind fun l_e=>
  (idx l i).bind fun l_e_1=>
  bif (decide (l_e.ID≥l_e_1.ID))then (
   some (.ret false)
  )else (
   chk (inK .i64 (i+1)) <|
   rec_ l (i+1)
  )
 )else (
  some (.brk l)
 )
def Zxp:Nat→ZrS→Int→Option (Out ZrS Bool)
 |0,_,_=>none
 |n_+1,l,i=>Zys (Zxp n_) l i
def ZAB (n:Nat) (s:(ZrS×Int)):Option (Out ZrS Bool):=Zxp n s.1 s.2
def ZAC (rec_:(ZrS×Int)→Option (Out ZrS Bool)) (s:(ZrS×Int)):Option (Out ZrS Bool):=Zys (fun l i=>rec_ (l,i)) s.1 s.2
theorem ZCt:∀n s,ZAB (n+1) s=ZAC (ZAB n) s:=fun _ _=>rfl
def ZxF (l:ZrS):Option Bool:=
 (Zxp big l (1:Int)).bind fun
  | .ret q_=>some q_
  | .brk x0=>ZzK x0
def ZvV (l:ZrS):Option Bool:=
 (ZxF l).bind fun q=>
 some q
def ZAs (a:ZnC) (b:ZnC):Option (ZnK×ZnK):=
 (Zou a.Num b.Den).bind fun q=>
 (Zou b.Num a.Den).bind fun q_1=>
 (Zxl q q_1).bind fun num=>
 (Zou a.Den b.Den).bind fun den=>
 some (num,den)
def ZrX (t18:Bool) (a:ZnC) (b:ZnC) (t6:Bool) (t6_1:Bool) (t6_2:ZnG) (t6_3:ZnG):Option (ZnC×Int):=
 bif t18 then (
  some ((ZnC.mk (ZnK.mk false ([]:ZnG)) (ZnK.mk false ([]:ZnG))),1)
 )else (
  (ZAs a b).bind fun(num,den)=>
  bif ((den.Words.length:Int) == 0)then (
   some ((ZnC.mk (ZnK.mk false ([]:ZnG)) (ZnK.mk false ([]:ZnG))),8)
  )else (
   (ZrW num den).bind fun f=>
   bif (decide ((if (f.Den.Words.length:Int) > (f.Num.Words.length:Int)then (f.Den.Words.length:Int)else (f.Num.Words.length:Int)) > 256))then (
    some ((ZnC.mk (ZnK.mk false ([]:ZnG)) (ZnK.mk false ([]:ZnG))),3)
   )else (
    some (f,0)
   )
  )
 )
def Zp8 (a:ZnC) (b:ZnC):Option (ZnC×Int):=
 (Zrf a).bind fun q=>
 bif (!q)then (
  ZrX true a b false false ([]:ZnG) ([]:ZnG)
 )else (
  (Zrf b).bind fun q_1=>
  ZrX (!q_1) a b false false ([]:ZnG) ([]:ZnG)
 )
def Zyp (a:ZnC) (b:ZnC):Option (ZnC×Int):=
 (Zrf b).bind fun q=>
 bif (!q)then (
  some ((ZnC.mk (ZnK.mk false ([]:ZnG)) (ZnK.mk false ([]:ZnG))),1)
 )else (
  (ZsP b.Num).bind fun q_1=>
  (Zp8 a (ZnC.mk q_1 b.Den)).bind fun(q_2,q_3)=>
  some (q_2,q_3)
 )
def ZCu (f:ZnC) (a1:Int):Option ZnC:=
 some f
def ZBP (a:ZnC) (b:ZnC):Option ZnC:=
 (Zyp a b).bind fun(q,q_1)=>
 (ZCu q q_1).bind fun q_2=>
 some q_2
def ZCj (a:ZnC):Option Int:=
 (ZAK).bind fun q=>
 (ZuK a q).bind fun q_1=>
 some q_1
def Zyk (f:ZnC):Option Bool:=
 (ZCj f).bind fun q=>
 some (decide (q > 0))
def ZAS (a:ZnC) (b:ZnC):Option Int:=
 (ZuK b a).bind fun q=>
 some q
def ZBU (zero:Int):Option Int:=
 some zero
def Zut (rec_:Int→ZnG→Int→Int→Option (Out Int Int)) (zero:Int) (t6:ZnG) (t7:Int) (t8:Int):Option (Out Int Int):=
 bif (decide (t8 < t7))then (
  (idx t6 t8).bind fun val=>
  bif (val != zero)then (
   some (.ret val)
  )else (
   chk (inK .i64 (t8+1)) <|
   rec_ zero t6 t7 (t8+1)
  )
 )else (
  some (.brk zero)
 )
def Zzl:Nat→Int→ZnG→Int→Int→Option (Out Int Int)
 |0,_,_,_,_=>none
 |n_+1,zero,t6,t7,t8=>Zut (Zzl n_) zero t6 t7 t8
def ZAd (vals:ZnG):Option Int:=
 (Zzl big (0:Int) vals (vals.length:Int) (0:Int)).bind fun
  | .ret q_=>some q_
  | .brk x0=>ZBU x0
def Zz9 (a:ZqW) (b:ZqW):Option Bool:=
 (Zru a.Table b.Table).bind fun q=>
 (Zru a.Column b.Column).bind fun q_1=>
 (ZAd ([q,q_1]:ZnG)).bind fun q_2=>
 some (decide (q_2 < 0))
def ZA0 (a:ZqW) (b:ZqW):Option Int:=
 (Zz9 a b).bind fun q=>
 bif q then (
  some (-1:Int)
 )else (
  (Zz9 b a).bind fun q_1=>
  bif q_1 then (
   some (1:Int)
  )else (
   some (0:Int)
  )
 )
def Zos (a:Zpm) (b:Zpm):Option Int:=
 (ZAS a.Score b.Score).bind fun q=>
 (ZA0 a.Ref b.Ref).bind fun q_1=>
 (ZAd ([q,q_1]:ZnG)).bind fun q_2=>
 some q_2
def ZqX (data:ZnN):Option ZnN:=
 some data
def ZqY (rec_:Int→Int→Int→ZnN→Option ZnN) (a:Int) (b:Int) (i:Int) (data:ZnN):Option ZnN:=
 chk (inK .i64 (i+1)) <|
 rec_ a b (i+1) data
def Zpo (rec_:Int→Int→Int→Int→ZnN→Option (Int×Int×Int×ZnN)) (a:Int) (b:Int) (i:Int) (j:Int) (t34:Bool) (data:ZnN):Option (Int×Int×Int×ZnN):=
 bif t34 then (
  chk (inK .i64 (j - 1)) <|
  chk (inK .i64 (j - 1)) <|
  chk (inR (j - 1) (data.length:Int)) <|
  (data[((j - 1)).toNat]?).bind fun data_e=>
  chk (inR j (data.length:Int)) <|
  (data[(j).toNat]?).bind fun data_e_1=>
  chk (inR j (data.length:Int)) <|
  chk (inR (j - 1) ((data.set ((j).toNat) data_e).length:Int)) <|
  chk (inK .i64 (j - 1)) <|
  rec_ a b i (j - 1) ((data.set ((j).toNat) data_e).set (((j - 1)).toNat) data_e_1)
 )else (
  some (a,b,i,data)
 )
def ZqA (rec_:Int→Int→Int→Int→ZnN→Option (Int×Int×Int×ZnN)) (a:Int) (b:Int) (i:Int) (j:Int) (data:ZnN):Option (Int×Int×Int×ZnN):=
 bif (decide (j > a))then (
  chk (inR j (data.length:Int)) <|
  (data[(j).toNat]?).bind fun data_e=>
  chk (inK .i64 (j - 1)) <|
  chk (inR (j - 1) (data.length:Int)) <|
  (data[((j - 1)).toNat]?).bind fun data_e_1=>
  (Zos data_e data_e_1).bind fun q=>
  Zpo rec_ a b i j (decide (q < 0)) data
 )else (
  Zpo rec_ a b i j false data
 )
def Zod:Nat→Int→Int→Int→Int→ZnN→Option (Int×Int×Int×ZnN)
 |0,_,_,_,_,_=>none
 |n_+1,a,b,i,j,data=>ZqA (Zod n_) a b i j data
def ZtK (n:Nat) (s:(Int×Int×Int×Int×ZnN)):Option (Int×Int×Int×ZnN):=Zod n s.1 s.2.1 s.2.2.1 s.2.2.2.1 s.2.2.2.2
def ZtL (rec_:(Int×Int×Int×Int×ZnN)→Option (Int×Int×Int×ZnN)) (s:(Int×Int×Int×Int×ZnN)):Option (Int×Int×Int×ZnN):=ZqA (fun a b i j data=>rec_ (a,b,i,j,data)) s.1 s.2.1 s.2.2.1 s.2.2.2.1 s.2.2.2.2
theorem ZxY:∀n s,ZtK (n+1) s=ZtL (ZtK n) s:=fun _ _=>rfl
def Zol (rec_:Int→Int→Int→ZnN→Option ZnN) (a:Int) (b:Int) (i:Int) (data:ZnN):Option ZnN:=
 bif (decide (i < b))then (
  (Zod big a b i i data).bind fun(x0,x1,x2,x3)=>ZqY rec_ x0 x1 x2 x3
 )else (
  some data
 )
def ZoA:Nat→Int→Int→Int→ZnN→Option ZnN
 |0,_,_,_,_=>none
 |n_+1,a,b,i,data=>Zol (ZoA n_) a b i data
def ZpV (data:ZnN) (a:Int) (b:Int):Option ZnN:=
 chk (inK .i64 (a+1)) <|
 (ZoA big a b (a+1) data).bind fun x0=>ZqX x0
def ZoI (data:ZnN) (a:Int) (b:Int):Option ZnN:=
 (ZpV data a b).bind fun r=>chk (decide (r.length=data.length)&&true) (some r)
def ZsK (data:ZnN):Option ZnN:=
 some data
def Zpb (rec_:Int→Int→Int→ZnN→Option (Out ZnN ZnN)) (hi:Int) (first:Int) (root:Int) (child:Int) (data:ZnN):Option (Out ZnN ZnN):=
 chk (inK .i64 (first+root)) <|
 chk (inR (first+root) (data.length:Int)) <|
 (data[((first+root)).toNat]?).bind fun data_e=>
 chk (inK .i64 (first+child)) <|
 chk (inR (first+child) (data.length:Int)) <|
 (data[((first+child)).toNat]?).bind fun data_e_1=>
 (Zos data_e data_e_1).bind fun q=>
 bif (!(decide (q < 0)))then (
  some (.ret data)
 )else (
  chk (inK .i64 (first+root)) <|
  chk (inK .i64 (first+child)) <|
  chk (inK .i64 (first+child)) <|
  chk (inR (first+child) (data.length:Int)) <|
  (data[((first+child)).toNat]?).bind fun data_e_2=>
  chk (inK .i64 (first+root)) <|
  chk (inR (first+root) (data.length:Int)) <|
  (data[((first+root)).toNat]?).bind fun data_e_3=>
  chk (inR (first+root) (data.length:Int)) <|
  chk (inR (first+child) ((data.set (((first+root)).toNat) data_e_2).length:Int)) <|
  rec_ hi first child ((data.set (((first+root)).toNat) data_e_2).set (((first+child)).toNat) data_e_3)
 )
def Zqn (rec_:Int→Int→Int→ZnN→Option (Out ZnN ZnN)) (hi:Int) (first:Int) (root:Int) (child:Int) (t40:Bool) (data:ZnN):Option (Out ZnN ZnN):=
 bif t40 then (
  chk (inK .i64 (child+1)) <|
  Zpb rec_ hi first root (child+1) data
 )else (
  Zpb rec_ hi first root child data
 )
def ZoW (rec_:Int→Int→Int→ZnN→Option (Out ZnN ZnN)) (hi:Int) (first:Int) (root:Int) (data:ZnN):Option (Out ZnN ZnN):=
 chk (inK .i64 (2*root)) <|
 chk (inK .i64 ((2*root)+1)) <|
 bif (decide (((2*root)+1)≥hi))then (
  some (.brk data)
 )else (
  chk (inK .i64 (((2*root)+1)+1)) <|
  bif (decide ((((2*root)+1)+1) < hi))then (
   chk (inK .i64 (first+((2*root)+1))) <|
   chk (inR (first+((2*root)+1)) (data.length:Int)) <|
   (data[((first+((2*root)+1))).toNat]?).bind fun data_e=>
   chk (inK .i64 (first+((2*root)+1))) <|
   chk (inK .i64 ((first+((2*root)+1))+1)) <|
   chk (inR ((first+((2*root)+1))+1) (data.length:Int)) <|
   (data[(((first+((2*root)+1))+1)).toNat]?).bind fun data_e_1=>
   (Zos data_e data_e_1).bind fun q=>
   Zqn rec_ hi first root ((2*root)+1) (decide (q < 0)) data
  )else (
   Zqn rec_ hi first root ((2*root)+1) false data
  )
 )
def Zoz:Nat→Int→Int→Int→ZnN→Option (Out ZnN ZnN)
 |0,_,_,_,_=>none
 |n_+1,hi,first,root,data=>ZoW (Zoz n_) hi first root data
def Zvu (n:Nat) (s:(Int×Int×Int×ZnN)):Option (Out ZnN ZnN):=Zoz n s.1 s.2.1 s.2.2.1 s.2.2.2
def Zvv (rec_:(Int×Int×Int×ZnN)→Option (Out ZnN ZnN)) (s:(Int×Int×Int×ZnN)):Option (Out ZnN ZnN):=ZoW (fun hi first root data=>rec_ (hi,first,root,data)) s.1 s.2.1 s.2.2.1 s.2.2.2
theorem Zzt:∀n s,Zvu (n+1) s=Zvv (Zvu n) s:=fun _ _=>rfl
def Zq4 (data:ZnN) (lo:Int) (hi:Int) (first:Int):Option ZnN:=
 (Zoz big hi first lo data).bind fun
  | .ret q_=>some q_
  | .brk x0=>ZsK x0
def ZoF (data:ZnN) (lo:Int) (hi:Int) (first:Int):Option ZnN:=
 (Zq4 data lo hi first).bind fun r=>chk (decide (r.length=data.length)&&true) (some r)
def ZsL (data:ZnN):Option ZnN:=
 some data
def ZrP (rec_:Int→Int→Int→ZnN→Option ZnN) (first:Int) (lo:Int) (i:Int) (data:ZnN):Option ZnN:=
 bif (decide (i≥0))then (
  chk (inK .i64 (first+i)) <|
  chk (inK .i64 (first+i)) <|
  chk (inR (first+i) (data.length:Int)) <|
  (data[((first+i)).toNat]?).bind fun data_e=>
  chk (inR first (data.length:Int)) <|
  (data[(first).toNat]?).bind fun data_e_1=>
  chk (inR first (data.length:Int)) <|
  chk (inR (first+i) ((data.set ((first).toNat) data_e).length:Int)) <|
  (ZoF ((data.set ((first).toNat) data_e).set (((first+i)).toNat) data_e_1) lo i first).bind fun t54=>
  chk (inK .i64 (i - 1)) <|
  rec_ first lo (i - 1) t54
 )else (
  some data
 )
def Zqs:Nat→Int→Int→Int→ZnN→Option ZnN
 |0,_,_,_,_=>none
 |n_+1,first,lo,i,data=>ZrP (Zqs n_) first lo i data
def Zvw (n:Nat) (s:(Int×Int×Int×ZnN)):Option ZnN:=Zqs n s.1 s.2.1 s.2.2.1 s.2.2.2
def Zvx (rec_:(Int×Int×Int×ZnN)→Option ZnN) (s:(Int×Int×Int×ZnN)):Option ZnN:=ZrP (fun first lo i data=>rec_ (first,lo,i,data)) s.1 s.2.1 s.2.2.1 s.2.2.2
theorem Zzu:∀n s,Zvw (n+1) s=Zvx (Zvw n) s:=fun _ _=>rfl
def ZsM (first:Int) (lo:Int) (hi:Int) (data:ZnN):Option ZnN:=
 chk (inK .i64 (hi - 1)) <|
 (Zqs big first lo (hi - 1) data).bind fun x0=>ZsL x0
def ZrQ (rec_:Int→Int→Int→Int→ZnN→Option (Int×Int×Int×ZnN)) (first:Int) (lo:Int) (hi:Int) (i:Int) (data:ZnN):Option (Int×Int×Int×ZnN):=
 bif (decide (i≥0))then (
  (ZoF data i hi first).bind fun t24=>
  chk (inK .i64 (i - 1)) <|
  rec_ first lo hi (i - 1) t24
 )else (
  some (first,lo,hi,data)
 )
def Zqt:Nat→Int→Int→Int→Int→ZnN→Option (Int×Int×Int×ZnN)
 |0,_,_,_,_,_=>none
 |n_+1,first,lo,hi,i,data=>ZrQ (Zqt n_) first lo hi i data
def Zvy (n:Nat) (s:(Int×Int×Int×Int×ZnN)):Option (Int×Int×Int×ZnN):=Zqt n s.1 s.2.1 s.2.2.1 s.2.2.2.1 s.2.2.2.2
def Zvz (rec_:(Int×Int×Int×Int×ZnN)→Option (Int×Int×Int×ZnN)) (s:(Int×Int×Int×Int×ZnN)):Option (Int×Int×Int×ZnN):=ZrQ (fun first lo hi i data=>rec_ (first,lo,hi,i,data)) s.1 s.2.1 s.2.2.1 s.2.2.2.1 s.2.2.2.2
theorem Zzv:∀n s,Zvy (n+1) s=Zvz (Zvy n) s:=fun _ _=>rfl
def Zq5 (data:ZnN) (a:Int) (b:Int):Option ZnN:=
 chk (inK .i64 (b - a)) <|
 chk (inK .i64 ((b - a) - 1)) <|
 chk (decide ((2:Int)≠0)) <|
 chk (inK .i64 (Int.tdiv ((b - a) - 1) 2)) <|
 (Zqt big a (0:Int) (b - a) (Int.tdiv ((b - a) - 1) 2) data).bind fun(x0,x1,x2,x3)=>ZsM x0 x1 x2 x3
def ZqC (data:ZnN) (a:Int) (b:Int):Option ZnN:=
 (Zq5 data a b).bind fun r=>chk (decide (r.length=data.length)&&true) (some r)
def Ztv (length:Int):Option Int:=
 (Zwe (IntKind.wrap .u64 length)).bind fun q=>
 chk (decide (0≤q)) <|
 some (shlK .u64 1 q)
def Zue (r_:Int):Option (Int×Int):=
 chk (decide (0≤(13:Int))) <|
 chk (decide (0≤(7:Int))) <|
 chk (decide (0≤(17:Int))) <|
 some ((xorK .u64 (xorK .u64 (xorK .u64 r_ (shlK .u64 r_ 13)) (shrK .u64 (xorK .u64 r_ (shlK .u64 r_ 13)) 7)) (shlK .u64 (xorK .u64 (xorK .u64 r_ (shlK .u64 r_ 13)) (shrK .u64 (xorK .u64 r_ (shlK .u64 r_ 13)) 7)) 17)),(xorK .u64 (xorK .u64 (xorK .u64 r_ (shlK .u64 r_ 13)) (shrK .u64 (xorK .u64 r_ (shlK .u64 r_ 13)) 7)) (shlK .u64 (xorK .u64 (xorK .u64 r_ (shlK .u64 r_ 13)) (shrK .u64 (xorK .u64 r_ (shlK .u64 r_ 13)) 7)) 17)))
def ZqZ (data:ZnN):Option ZnN:=
 some data
def ZoC (rec_:Int→Int→Int→Int→ZnN→Int→Option ZnN) (a:Int) (length:Int) (modulus:Int) (idx_:Int) (other:Int) (data:ZnN) (random:Int):Option ZnN:=
 chk (inK .i64 (a+other)) <|
 chk (inK .i64 (a+other)) <|
 chk (inR (a+other) (data.length:Int)) <|
 (data[((a+other)).toNat]?).bind fun data_e=>
 chk (inR idx_ (data.length:Int)) <|
 (data[(idx_).toNat]?).bind fun data_e_1=>
 chk (inR idx_ (data.length:Int)) <|
 chk (inR (a+other) ((data.set ((idx_).toNat) data_e).length:Int)) <|
 chk (inK .i64 (idx_+1)) <|
 rec_ a length modulus (idx_+1) ((data.set ((idx_).toNat) data_e).set (((a+other)).toNat) data_e_1) random
def ZqB (rec_:Int→Int→Int→Int→ZnN→Int→Option ZnN) (a:Int) (length:Int) (modulus:Int) (idx_:Int) (data:ZnN) (random:Int):Option ZnN:=
 chk (decide ((4:Int)≠0)) <|
 chk (inK .i64 (Int.tdiv length 4)) <|
 chk (inK .i64 ((Int.tdiv length 4)*2)) <|
 chk (inK .i64 (a+((Int.tdiv length 4)*2))) <|
 chk (inK .i64 ((a+((Int.tdiv length 4)*2))+1)) <|
 bif (decide (idx_≤((a+((Int.tdiv length 4)*2))+1)))then (
  (Zue random).bind fun(q,random_1)=>
  bif (decide ((IntKind.wrap .i64 (andK .u64 q (IntKind.wrap .u64 (modulus - 1))))≥length))then (
   chk (inK .i64 ((IntKind.wrap .i64 (andK .u64 q (IntKind.wrap .u64 (modulus - 1)))) - length)) <|
   ZoC rec_ a length modulus idx_ ((IntKind.wrap .i64 (andK .u64 q (IntKind.wrap .u64 (modulus - 1)))) - length) data random_1
  )else (
   ZoC rec_ a length modulus idx_ (IntKind.wrap .i64 (andK .u64 q (IntKind.wrap .u64 (modulus - 1)))) data random_1
  )
 )else (
  some data
 )
def ZoB:Nat→Int→Int→Int→Int→ZnN→Int→Option ZnN
 |0,_,_,_,_,_,_=>none
 |n_+1,a,length,modulus,idx_,data,random=>ZqB (ZoB n_) a length modulus idx_ data random
def ZtM (n:Nat) (s:(Int×Int×Int×Int×ZnN×Int)):Option ZnN:=ZoB n s.1 s.2.1 s.2.2.1 s.2.2.2.1 s.2.2.2.2.1 s.2.2.2.2.2
def ZtN (rec_:(Int×Int×Int×Int×ZnN×Int)→Option ZnN) (s:(Int×Int×Int×Int×ZnN×Int)):Option ZnN:=ZqB (fun a length modulus idx_ data random=>rec_ (a,length,modulus,idx_,data,random)) s.1 s.2.1 s.2.2.1 s.2.2.2.1 s.2.2.2.2.1 s.2.2.2.2.2
theorem ZxZ:∀n s,ZtM (n+1) s=ZtN (ZtM n) s:=fun _ _=>rfl
def ZpX (data:ZnN) (a:Int) (b:Int):Option ZnN:=
 chk (inK .i64 (b - a)) <|
 bif (decide ((b - a)≥8))then (
  (Ztv (b - a)).bind fun modulus=>
  chk (decide ((4:Int)≠0)) <|
  chk (inK .i64 (Int.tdiv (b - a) 4)) <|
  chk (inK .i64 ((Int.tdiv (b - a) 4)*2)) <|
  chk (inK .i64 (a+((Int.tdiv (b - a) 4)*2))) <|
  chk (inK .i64 ((a+((Int.tdiv (b - a) 4)*2)) - 1)) <|
  (ZoB big a (b - a) modulus ((a+((Int.tdiv (b - a) 4)*2)) - 1) data (IntKind.wrap .u64 (b - a))).bind fun x0=>ZqZ x0
 )else (
  some data
 )
def ZpB (data:ZnN) (a:Int) (b:Int):Option ZnN:=
 (ZpX data a b).bind fun r=>chk (decide (r.length=data.length)&&true) (some r)
def ZuR (data:ZnN) (a:Int) (b:Int) (swaps:Int):Option (Int×Int×ZnN×Int):=
 chk (inR b (data.length:Int)) <|
 (data[(b).toNat]?).bind fun data_e=>
 chk (inR a (data.length:Int)) <|
 (data[(a).toNat]?).bind fun data_e_1=>
 (Zos data_e data_e_1).bind fun q=>
 bif (decide (q < 0))then (
  chk (inK .i64 (swaps+1)) <|
  some (b,a,data,(swaps+1))
 )else (
  some (a,b,data,swaps)
 )
def ZoX (data:ZnN) (a:Int) (b:Int) (swaps:Int):Option (Int×Int×ZnN×Int):=
 (ZuR data a b swaps).bind fun r=>chk (decide (r.2.2.1.length=data.length)&&true) (some r)
def ZuS (data:ZnN) (a:Int) (b:Int) (c:Int) (swaps:Int):Option (Int×ZnN×Int):=
 (ZoX data a b swaps).bind fun(a_1,b_1,t14,t17)=>
 (ZoX t14 b_1 c t17).bind fun(b_2,c_1,t23,t26)=>
 (ZoX t23 a_1 b_2 t26).bind fun(a_2,b_3,t32,t35)=>
 some (b_3,t32,t35)
def ZpO (data:ZnN) (a:Int) (b:Int) (c:Int) (swaps:Int):Option (Int×ZnN×Int):=
 (ZuS data a b c swaps).bind fun r=>chk (decide (r.2.1.length=data.length)&&true) (some r)
def Zrs (data:ZnN) (a:Int) (swaps:Int):Option (Int×ZnN×Int):=
 chk (inK .i64 (a - 1)) <|
 chk (inK .i64 (a+1)) <|
 (ZpO data (a - 1) a (a+1) swaps).bind fun(q,t9,t15)=>
 some (q,t9,t15)
def Zoc (data:ZnN) (a:Int) (swaps:Int):Option (Int×ZnN×Int):=
 (Zrs data a swaps).bind fun r=>chk (decide (r.2.1.length=data.length)&&true) (some r)
def ZoN (j:Int) (data:ZnN) (swaps:Int):Option (Int×Int×ZnN):=
 bif (swaps == 0)then (
  some (j,1,data)
 )else (
  bif (swaps == 12)then (
   some (j,2,data)
  )else (
   some (j,0,data)
  )
 )
def ZoO (i:Int) (j:Int) (k:Int) (data:ZnN) (swaps:Int):Option (Int×Int×ZnN):=
 (ZpO data i j k swaps).bind fun(j_1,t49,swaps_1)=>
 ZoN j_1 t49 swaps_1
def Zqu (data:ZnN) (a:Int) (b:Int):Option (Int×Int×ZnN):=
 chk (inK .i64 (b - a)) <|
 chk (decide ((4:Int)≠0)) <|
 chk (inK .i64 (Int.tdiv (b - a) 4)) <|
 chk (inK .i64 ((Int.tdiv (b - a) 4)*1)) <|
 chk (inK .i64 (a+((Int.tdiv (b - a) 4)*1))) <|
 chk (decide ((4:Int)≠0)) <|
 chk (inK .i64 (Int.tdiv (b - a) 4)) <|
 chk (inK .i64 ((Int.tdiv (b - a) 4)*2)) <|
 chk (inK .i64 (a+((Int.tdiv (b - a) 4)*2))) <|
 chk (decide ((4:Int)≠0)) <|
 chk (inK .i64 (Int.tdiv (b - a) 4)) <|
 chk (inK .i64 ((Int.tdiv (b - a) 4)*3)) <|
 chk (inK .i64 (a+((Int.tdiv (b - a) 4)*3))) <|
 bif (decide ((b - a)≥8))then (
  bif (decide ((b - a)≥50))then (
   (Zoc data (a+((Int.tdiv (b - a) 4)*1)) 0).bind fun(i,t37,swaps)=>
   (Zoc t37 (a+((Int.tdiv (b - a) 4)*2)) swaps).bind fun(j,t41,swaps_1)=>
   (Zoc t41 (a+((Int.tdiv (b - a) 4)*3)) swaps_1).bind fun(k,t45,swaps_2)=>
   ZoO i j k t45 swaps_2
  )else (
   ZoO (a+((Int.tdiv (b - a) 4)*1)) (a+((Int.tdiv (b - a) 4)*2)) (a+((Int.tdiv (b - a) 4)*3)) data (0:Int)
  )
 )else (
  ZoN (a+((Int.tdiv (b - a) 4)*2)) data (0:Int)
 )
def ZpW (data:ZnN) (a:Int) (b:Int):Option (Int×Int×ZnN):=
 (Zqu data a b).bind fun r=>chk (decide (r.2.2.length=data.length)&&true) (some r)
def Zrc (data:ZnN):Option ZnN:=
 some data
def ZqK (rec_:Int→Int→ZnN→Option ZnN) (i:Int) (j:Int) (data:ZnN):Option ZnN:=
 bif (decide (i < j))then (
  chk (inR j (data.length:Int)) <|
  (data[(j).toNat]?).bind fun data_e=>
  chk (inR i (data.length:Int)) <|
  (data[(i).toNat]?).bind fun data_e_1=>
  chk (inR i (data.length:Int)) <|
  chk (inR j ((data.set ((i).toNat) data_e).length:Int)) <|
  chk (inK .i64 (i+1)) <|
  chk (inK .i64 (j - 1)) <|
  rec_ (i+1) (j - 1) ((data.set ((i).toNat) data_e).set ((j).toNat) data_e_1)
 )else (
  some data
 )
def ZpA:Nat→Int→Int→ZnN→Option ZnN
 |0,_,_,_=>none
 |n_+1,i,j,data=>ZqK (ZpA n_) i j data
def Zuf (n:Nat) (s:(Int×Int×ZnN)):Option ZnN:=ZpA n s.1 s.2.1 s.2.2
def Zug (rec_:(Int×Int×ZnN)→Option ZnN) (s:(Int×Int×ZnN)):Option ZnN:=ZqK (fun i j data=>rec_ (i,j,data)) s.1 s.2.1 s.2.2
theorem Zyj:∀n s,Zuf (n+1) s=Zug (Zuf n) s:=fun _ _=>rfl
def Zp9 (data:ZnN) (a:Int) (b:Int):Option ZnN:=
 chk (inK .i64 (b - 1)) <|
 (ZpA big a (b - 1) data).bind fun x0=>Zrc x0
def ZpK (data:ZnN) (a:Int) (b:Int):Option ZnN:=
 (Zp9 data a b).bind fun r=>chk (decide (r.length=data.length)&&true) (some r)
def ZpE (data:ZnN):Option (Bool×ZnN):=
 some (false,data)
def ZpF (rec_:Int→Int→Int→Int→ZnN→Option (Out ZnN (Bool×ZnN))) (a:Int) (b:Int) (i:Int) (j:Int) (data:ZnN):Option (Out ZnN (Bool×ZnN)):=
 chk (inK .i64 (j+1)) <|
 rec_ a b i (j+1) data
def Zpt (rec_:Int→Int→Int→Int→Int→ZnN→Option (Int×Int×Int×Int×ZnN)) (a:Int) (b:Int) (i:Int) (j:Int) (j_1:Int) (data:ZnN):Option (Int×Int×Int×Int×ZnN):=
 bif (decide (j_1 < b))then (
  chk (inR j_1 (data.length:Int)) <|
  (data[(j_1).toNat]?).bind fun data_e=>
  chk (inK .i64 (j_1 - 1)) <|
  chk (inR (j_1 - 1) (data.length:Int)) <|
  (data[((j_1 - 1)).toNat]?).bind fun data_e_1=>
  (Zos data_e data_e_1).bind fun q=>
  bif (!(decide (q < 0)))then (
   some (a,b,i,j,data)
  )else (
   chk (inK .i64 (j_1 - 1)) <|
   chk (inK .i64 (j_1 - 1)) <|
   chk (inR (j_1 - 1) (data.length:Int)) <|
   (data[((j_1 - 1)).toNat]?).bind fun data_e_2=>
   chk (inR j_1 (data.length:Int)) <|
   (data[(j_1).toNat]?).bind fun data_e_3=>
   chk (inR j_1 (data.length:Int)) <|
   chk (inR (j_1 - 1) ((data.set ((j_1).toNat) data_e_2).length:Int)) <|
   chk (inK .i64 (j_1+1)) <|
   rec_ a b i j (j_1+1) ((data.set ((j_1).toNat) data_e_2).set (((j_1 - 1)).toNat) data_e_3)
  )
 )else (
  some (a,b,i,j,data)
 )
def Zn9:Nat→Int→Int→Int→Int→Int→ZnN→Option (Int×Int×Int×Int×ZnN)
 |0,_,_,_,_,_,_=>none
 |n_+1,a,b,i,j,j_1,data=>Zpt (Zn9 n_) a b i j j_1 data
def ZrC (n:Nat) (s:(Int×Int×Int×Int×Int×ZnN)):Option (Int×Int×Int×Int×ZnN):=Zn9 n s.1 s.2.1 s.2.2.1 s.2.2.2.1 s.2.2.2.2.1 s.2.2.2.2.2
def ZrD (rec_:(Int×Int×Int×Int×Int×ZnN)→Option (Int×Int×Int×Int×ZnN)) (s:(Int×Int×Int×Int×Int×ZnN)):Option (Int×Int×Int×Int×ZnN):=Zpt (fun a b i j j_1 data=>rec_ (a,b,i,j,j_1,data)) s.1 s.2.1 s.2.2.1 s.2.2.2.1 s.2.2.2.2.1 s.2.2.2.2.2
theorem Zwu:∀n s,ZrC (n+1) s=ZrD (ZrC n) s:=fun _ _=>rfl
def Zob (rec_:Int→Int→Int→Int→ZnN→Option (Out ZnN (Bool×ZnN))) (a:Int) (b:Int) (i:Int) (j:Int) (t104:Bool) (data:ZnN):Option (Out ZnN (Bool×ZnN)):=
 bif t104 then (
  chk (inK .i64 (i+1)) <|
  (Zn9 big a b i j (i+1) data).bind fun(x0,x1,x2,x3,x4)=>ZpF rec_ x0 x1 x2 x3 x4
 )else (
  chk (inK .i64 (j+1)) <|
  rec_ a b i (j+1) data
 )
def ZpG (rec_:Int→Int→Int→Int→ZnN→Option (Out ZnN (Bool×ZnN))) (a:Int) (b:Int) (i:Int) (j:Int) (data:ZnN):Option (Out ZnN (Bool×ZnN)):=
 chk (inK .i64 (b - i)) <|
 Zob rec_ a b i j (decide ((b - i)≥2)) data
def Zpu (rec_:Int→Int→Int→Int→Int→ZnN→Option (Int×Int×Int×Int×ZnN)) (a:Int) (b:Int) (i:Int) (j:Int) (j_1:Int) (data:ZnN):Option (Int×Int×Int×Int×ZnN):=
 bif (decide (j_1≥1))then (
  chk (inR j_1 (data.length:Int)) <|
  (data[(j_1).toNat]?).bind fun data_e=>
  chk (inK .i64 (j_1 - 1)) <|
  chk (inR (j_1 - 1) (data.length:Int)) <|
  (data[((j_1 - 1)).toNat]?).bind fun data_e_1=>
  (Zos data_e data_e_1).bind fun q=>
  bif (!(decide (q < 0)))then (
   some (a,b,i,j,data)
  )else (
   chk (inK .i64 (j_1 - 1)) <|
   chk (inK .i64 (j_1 - 1)) <|
   chk (inR (j_1 - 1) (data.length:Int)) <|
   (data[((j_1 - 1)).toNat]?).bind fun data_e_2=>
   chk (inR j_1 (data.length:Int)) <|
   (data[(j_1).toNat]?).bind fun data_e_3=>
   chk (inR j_1 (data.length:Int)) <|
   chk (inR (j_1 - 1) ((data.set ((j_1).toNat) data_e_2).length:Int)) <|
   chk (inK .i64 (j_1 - 1)) <|
   rec_ a b i j (j_1 - 1) ((data.set ((j_1).toNat) data_e_2).set (((j_1 - 1)).toNat) data_e_3)
  )
 )else (
  some (a,b,i,j,data)
 )
def Zoa:Nat→Int→Int→Int→Int→Int→ZnN→Option (Int×Int×Int×Int×ZnN)
 |0,_,_,_,_,_,_=>none
 |n_+1,a,b,i,j,j_1,data=>Zpu (Zoa n_) a b i j j_1 data
def ZrE (n:Nat) (s:(Int×Int×Int×Int×Int×ZnN)):Option (Int×Int×Int×Int×ZnN):=Zoa n s.1 s.2.1 s.2.2.1 s.2.2.2.1 s.2.2.2.2.1 s.2.2.2.2.2
def ZrF (rec_:(Int×Int×Int×Int×Int×ZnN)→Option (Int×Int×Int×Int×ZnN)) (s:(Int×Int×Int×Int×Int×ZnN)):Option (Int×Int×Int×Int×ZnN):=Zpu (fun a b i j j_1 data=>rec_ (a,b,i,j,j_1,data)) s.1 s.2.1 s.2.2.1 s.2.2.2.1 s.2.2.2.2.1 s.2.2.2.2.2
theorem Zwv:∀n s,ZrE (n+1) s=ZrF (ZrE n) s:=fun _ _=>rfl
def ZpH (rec_:Int→Int→Int→Int→ZnN→Option (Out ZnN (Bool×ZnN))) (a:Int) (b:Int) (i:Int) (j:Int) (data:ZnN):Option (Out ZnN (Bool×ZnN)):=
 bif (i == b)then (
  some (.ret (true,data))
 )else (
  chk (inK .i64 (b - a)) <|
  bif (decide ((b - a) < 50))then (
   some (.ret (false,data))
  )else (
   chk (inK .i64 (i - 1)) <|
   chk (inK .i64 (i - 1)) <|
   chk (inR (i - 1) (data.length:Int)) <|
   (data[((i - 1)).toNat]?).bind fun data_e=>
   chk (inR i (data.length:Int)) <|
   (data[(i).toNat]?).bind fun data_e_1=>
   chk (inR i (data.length:Int)) <|
   chk (inR (i - 1) ((data.set ((i).toNat) data_e).length:Int)) <|
   chk (inK .i64 (i - a)) <|
   bif (decide ((i - a)≥2))then (
    chk (inK .i64 (i - 1)) <|
    (Zoa big a b i j (i - 1) ((data.set ((i).toNat) data_e).set (((i - 1)).toNat) data_e_1)).bind fun(x0,x1,x2,x3,x4)=>ZpG rec_ x0 x1 x2 x3 x4
   )else (
    chk (inK .i64 (b - i)) <|
    Zob rec_ a b i j (decide ((b - i)≥2)) ((data.set ((i).toNat) data_e).set (((i - 1)).toNat) data_e_1)
   )
  )
 )
def ZoE (rec_:Int→Int→Int→Int→ZnN→Option (Int×Int×Int×Int×ZnN)) (a:Int) (b:Int) (i:Int) (j:Int) (t36:Bool) (data:ZnN):Option (Int×Int×Int×Int×ZnN):=
 bif t36 then (
  chk (inK .i64 (i+1)) <|
  rec_ a b (i+1) j data
 )else (
  some (a,b,i,j,data)
 )
def Zpv (rec_:Int→Int→Int→Int→ZnN→Option (Int×Int×Int×Int×ZnN)) (a:Int) (b:Int) (i:Int) (j:Int) (data:ZnN):Option (Int×Int×Int×Int×ZnN):=
 bif (decide (i < b))then (
  chk (inR i (data.length:Int)) <|
  (data[(i).toNat]?).bind fun data_e=>
  chk (inK .i64 (i - 1)) <|
  chk (inR (i - 1) (data.length:Int)) <|
  (data[((i - 1)).toNat]?).bind fun data_e_1=>
  (Zos data_e data_e_1).bind fun q=>
  ZoE rec_ a b i j (!(decide (q < 0))) data
 )else (
  ZoE rec_ a b i j false data
 )
def ZnZ:Nat→Int→Int→Int→Int→ZnN→Option (Int×Int×Int×Int×ZnN)
 |0,_,_,_,_,_=>none
 |n_+1,a,b,i,j,data=>Zpv (ZnZ n_) a b i j data
def ZrG (n:Nat) (s:(Int×Int×Int×Int×ZnN)):Option (Int×Int×Int×Int×ZnN):=ZnZ n s.1 s.2.1 s.2.2.1 s.2.2.2.1 s.2.2.2.2
def ZrH (rec_:(Int×Int×Int×Int×ZnN)→Option (Int×Int×Int×Int×ZnN)) (s:(Int×Int×Int×Int×ZnN)):Option (Int×Int×Int×Int×ZnN):=Zpv (fun a b i j data=>rec_ (a,b,i,j,data)) s.1 s.2.1 s.2.2.1 s.2.2.2.1 s.2.2.2.2
theorem Zww:∀n s,ZrG (n+1) s=ZrH (ZrG n) s:=fun _ _=>rfl
def Zpw (rec_:Int→Int→Int→Int→ZnN→Option (Out ZnN (Bool×ZnN))) (a:Int) (b:Int) (i:Int) (j:Int) (data:ZnN):Option (Out ZnN (Bool×ZnN)):=
 bif (decide (j < 5))then (
  (ZnZ big a b i j data).bind fun(x0,x1,x2,x3,x4)=>ZpH rec_ x0 x1 x2 x3 x4
 )else (
  some (.brk data)
 )
def ZnS:Nat→Int→Int→Int→Int→ZnN→Option (Out ZnN (Bool×ZnN))
 |0,_,_,_,_,_=>none
 |n_+1,a,b,i,j,data=>Zpw (ZnS n_) a b i j data
def ZrI (n:Nat) (s:(Int×Int×Int×Int×ZnN)):Option (Out ZnN (Bool×ZnN)):=ZnS n s.1 s.2.1 s.2.2.1 s.2.2.2.1 s.2.2.2.2
def ZrJ (rec_:(Int×Int×Int×Int×ZnN)→Option (Out ZnN (Bool×ZnN))) (s:(Int×Int×Int×Int×ZnN)):Option (Out ZnN (Bool×ZnN)):=Zpw (fun a b i j data=>rec_ (a,b,i,j,data)) s.1 s.2.1 s.2.2.1 s.2.2.2.1 s.2.2.2.2
theorem Zwx:∀n s,ZrI (n+1) s=ZrJ (ZrI n) s:=fun _ _=>rfl
def ZoS (data:ZnN) (a:Int) (b:Int):Option (Bool×ZnN):=
 chk (inK .i64 (a+1)) <|
 (ZnS big a b (a+1) (0:Int) data).bind fun
  | .ret q_=>some q_
  | .brk x0=>ZpE x0
def ZoJ (data:ZnN) (a:Int) (b:Int):Option (Bool×ZnN):=
 (ZoS data a b).bind fun r=>chk (decide (r.2.length=data.length)&&true) (some r)
def ZqM (i:Int) (data:ZnN):Option (Int×ZnN):=
 some (i,data)
def ZqN (rec_:Int→Int→Int→ZnN→Option (Int×ZnN)) (a:Int) (i:Int) (j:Int) (data:ZnN):Option (Int×ZnN):=
 bif (decide (i > j))then (
  some (i,data)
 )else (
  chk (inR j (data.length:Int)) <|
  (data[(j).toNat]?).bind fun data_e=>
  chk (inR i (data.length:Int)) <|
  (data[(i).toNat]?).bind fun data_e_1=>
  chk (inR i (data.length:Int)) <|
  chk (inR j ((data.set ((i).toNat) data_e).length:Int)) <|
  chk (inK .i64 (i+1)) <|
  chk (inK .i64 (j - 1)) <|
  rec_ a (i+1) (j - 1) ((data.set ((i).toNat) data_e).set ((j).toNat) data_e_1)
 )
def Zpd (rec_:Int→Int→Int→ZnN→Option (Int×Int×Int×ZnN)) (a:Int) (i:Int) (j:Int) (t65:Bool) (data:ZnN):Option (Int×Int×Int×ZnN):=
 bif t65 then (
  chk (inK .i64 (j - 1)) <|
  rec_ a i (j - 1) data
 )else (
  some (a,i,j,data)
 )
def Zqo (rec_:Int→Int→Int→ZnN→Option (Int×Int×Int×ZnN)) (a:Int) (i:Int) (j:Int) (data:ZnN):Option (Int×Int×Int×ZnN):=
 bif (decide (i≤j))then (
  chk (inR a (data.length:Int)) <|
  (data[(a).toNat]?).bind fun data_e=>
  chk (inR j (data.length:Int)) <|
  (data[(j).toNat]?).bind fun data_e_1=>
  (Zos data_e data_e_1).bind fun q=>
  Zpd rec_ a i j (decide (q < 0)) data
 )else (
  Zpd rec_ a i j false data
 )
def Zn5:Nat→Int→Int→Int→ZnN→Option (Int×Int×Int×ZnN)
 |0,_,_,_,_=>none
 |n_+1,a,i,j,data=>Zqo (Zn5 n_) a i j data
def Ztp (n:Nat) (s:(Int×Int×Int×ZnN)):Option (Int×Int×Int×ZnN):=Zn5 n s.1 s.2.1 s.2.2.1 s.2.2.2
def Ztq (rec_:(Int×Int×Int×ZnN)→Option (Int×Int×Int×ZnN)) (s:(Int×Int×Int×ZnN)):Option (Int×Int×Int×ZnN):=Zqo (fun a i j data=>rec_ (a,i,j,data)) s.1 s.2.1 s.2.2.1 s.2.2.2
theorem ZxS:∀n s,Ztp (n+1) s=Ztq (Ztp n) s:=fun _ _=>rfl
def ZqO (rec_:Int→Int→Int→ZnN→Option (Int×ZnN)) (a:Int) (i:Int) (j:Int) (data:ZnN):Option (Int×ZnN):=
 (Zn5 big a i j data).bind fun(x0,x1,x2,x3)=>ZqN rec_ x0 x1 x2 x3
def Zpe (rec_:Int→Int→Int→ZnN→Option (Int×Int×Int×ZnN)) (a:Int) (i:Int) (j:Int) (t47:Bool) (data:ZnN):Option (Int×Int×Int×ZnN):=
 bif t47 then (
  chk (inK .i64 (i+1)) <|
  rec_ a (i+1) j data
 )else (
  some (a,i,j,data)
 )
def Zqp (rec_:Int→Int→Int→ZnN→Option (Int×Int×Int×ZnN)) (a:Int) (i:Int) (j:Int) (data:ZnN):Option (Int×Int×Int×ZnN):=
 bif (decide (i≤j))then (
  chk (inR a (data.length:Int)) <|
  (data[(a).toNat]?).bind fun data_e=>
  chk (inR i (data.length:Int)) <|
  (data[(i).toNat]?).bind fun data_e_1=>
  (Zos data_e data_e_1).bind fun q=>
  Zpe rec_ a i j (!(decide (q < 0))) data
 )else (
  Zpe rec_ a i j false data
 )
def Zn6:Nat→Int→Int→Int→ZnN→Option (Int×Int×Int×ZnN)
 |0,_,_,_,_=>none
 |n_+1,a,i,j,data=>Zqp (Zn6 n_) a i j data
def Ztr (n:Nat) (s:(Int×Int×Int×ZnN)):Option (Int×Int×Int×ZnN):=Zn6 n s.1 s.2.1 s.2.2.1 s.2.2.2
def Zts (rec_:(Int×Int×Int×ZnN)→Option (Int×Int×Int×ZnN)) (s:(Int×Int×Int×ZnN)):Option (Int×Int×Int×ZnN):=Zqp (fun a i j data=>rec_ (a,i,j,data)) s.1 s.2.1 s.2.2.1 s.2.2.2
theorem ZxT:∀n s,Ztr (n+1) s=Zts (Ztr n) s:=fun _ _=>rfl
def Zqq (rec_:Int→Int→Int→ZnN→Option (Int×ZnN)) (a:Int) (i:Int) (j:Int) (data:ZnN):Option (Int×ZnN):=
 (Zn6 big a i j data).bind fun(x0,x1,x2,x3)=>ZqO rec_ x0 x1 x2 x3
def Zn0:Nat→Int→Int→Int→ZnN→Option (Int×ZnN)
 |0,_,_,_,_=>none
 |n_+1,a,i,j,data=>Zqq (Zn0 n_) a i j data
def Ztt (n:Nat) (s:(Int×Int×Int×ZnN)):Option (Int×ZnN):=Zn0 n s.1 s.2.1 s.2.2.1 s.2.2.2
def Ztu (rec_:(Int×Int×Int×ZnN)→Option (Int×ZnN)) (s:(Int×Int×Int×ZnN)):Option (Int×ZnN):=Zqq (fun a i j data=>rec_ (a,i,j,data)) s.1 s.2.1 s.2.2.1 s.2.2.2
theorem ZxU:∀n s,Ztt (n+1) s=Ztu (Ztt n) s:=fun _ _=>rfl
def ZpM (data:ZnN) (a:Int) (b:Int) (pivot:Int):Option (Int×ZnN):=
 chk (inR pivot (data.length:Int)) <|
 (data[(pivot).toNat]?).bind fun data_e=>
 chk (inR a (data.length:Int)) <|
 (data[(a).toNat]?).bind fun data_e_1=>
 chk (inR a (data.length:Int)) <|
 chk (inR pivot ((data.set ((a).toNat) data_e).length:Int)) <|
 chk (inK .i64 (a+1)) <|
 chk (inK .i64 (b - 1)) <|
 (Zn0 big a (a+1) (b - 1) ((data.set ((a).toNat) data_e).set ((pivot).toNat) data_e_1)).bind fun(x0,x1)=>ZqM x0 x1
def Zpn (data:ZnN) (a:Int) (b:Int) (pivot:Int):Option (Int×ZnN):=
 (ZpM data a b pivot).bind fun r=>chk (decide (r.2.length=data.length)&&true) (some r)
def Zsl (a:Int) (j:Int) (data:ZnN):Option (Int×Bool×ZnN):=
 chk (inR a (data.length:Int)) <|
 (data[(a).toNat]?).bind fun data_e=>
 chk (inR j (data.length:Int)) <|
 (data[(j).toNat]?).bind fun data_e_1=>
 chk (inR j (data.length:Int)) <|
 chk (inR a ((data.set ((j).toNat) data_e).length:Int)) <|
 some (j,false,((data.set ((j).toNat) data_e).set ((a).toNat) data_e_1))
def Zsm (rec_:Int→Int→Int→ZnN→Option (Int×Int×ZnN)) (a:Int) (i:Int) (j:Int) (data:ZnN):Option (Int×Int×ZnN):=
 bif (decide (i > j))then (
  some (a,j,data)
 )else (
  chk (inR j (data.length:Int)) <|
  (data[(j).toNat]?).bind fun data_e=>
  chk (inR i (data.length:Int)) <|
  (data[(i).toNat]?).bind fun data_e_1=>
  chk (inR i (data.length:Int)) <|
  chk (inR j ((data.set ((i).toNat) data_e).length:Int)) <|
  chk (inK .i64 (i+1)) <|
  chk (inK .i64 (j - 1)) <|
  rec_ a (i+1) (j - 1) ((data.set ((i).toNat) data_e).set ((j).toNat) data_e_1)
 )
def Zqa (rec_:Int→Int→Int→ZnN→Option (Int×Int×Int×ZnN)) (a:Int) (i:Int) (j:Int) (t139:Bool) (data:ZnN):Option (Int×Int×Int×ZnN):=
 bif t139 then (
  chk (inK .i64 (j - 1)) <|
  rec_ a i (j - 1) data
 )else (
  some (a,i,j,data)
 )
def Zrn (rec_:Int→Int→Int→ZnN→Option (Int×Int×Int×ZnN)) (a:Int) (i:Int) (j:Int) (data:ZnN):Option (Int×Int×Int×ZnN):=
 bif (decide (i≤j))then (
  chk (inR j (data.length:Int)) <|
  (data[(j).toNat]?).bind fun data_e=>
  chk (inR a (data.length:Int)) <|
  (data[(a).toNat]?).bind fun data_e_1=>
  (Zos data_e data_e_1).bind fun q=>
  Zqa rec_ a i j (!(decide (q < 0))) data
 )else (
  Zqa rec_ a i j false data
 )
def Zom:Nat→Int→Int→Int→ZnN→Option (Int×Int×Int×ZnN)
 |0,_,_,_,_=>none
 |n_+1,a,i,j,data=>Zrn (Zom n_) a i j data
def ZuV (n:Nat) (s:(Int×Int×Int×ZnN)):Option (Int×Int×Int×ZnN):=Zom n s.1 s.2.1 s.2.2.1 s.2.2.2
def ZuW (rec_:(Int×Int×Int×ZnN)→Option (Int×Int×Int×ZnN)) (s:(Int×Int×Int×ZnN)):Option (Int×Int×Int×ZnN):=Zrn (fun a i j data=>rec_ (a,i,j,data)) s.1 s.2.1 s.2.2.1 s.2.2.2
theorem Zy2:∀n s,ZuV (n+1) s=ZuW (ZuV n) s:=fun _ _=>rfl
def Zsn (rec_:Int→Int→Int→ZnN→Option (Int×Int×ZnN)) (a:Int) (i:Int) (j:Int) (data:ZnN):Option (Int×Int×ZnN):=
 (Zom big a i j data).bind fun(x0,x1,x2,x3)=>Zsm rec_ x0 x1 x2 x3
def Zqb (rec_:Int→Int→Int→ZnN→Option (Int×Int×Int×ZnN)) (a:Int) (i:Int) (j:Int) (t120:Bool) (data:ZnN):Option (Int×Int×Int×ZnN):=
 bif t120 then (
  chk (inK .i64 (i+1)) <|
  rec_ a (i+1) j data
 )else (
  some (a,i,j,data)
 )
def Zro (rec_:Int→Int→Int→ZnN→Option (Int×Int×Int×ZnN)) (a:Int) (i:Int) (j:Int) (data:ZnN):Option (Int×Int×Int×ZnN):=
 bif (decide (i≤j))then (
  chk (inR i (data.length:Int)) <|
  (data[(i).toNat]?).bind fun data_e=>
  chk (inR a (data.length:Int)) <|
  (data[(a).toNat]?).bind fun data_e_1=>
  (Zos data_e data_e_1).bind fun q=>
  Zqb rec_ a i j (decide (q < 0)) data
 )else (
  Zqb rec_ a i j false data
 )
def Zon:Nat→Int→Int→Int→ZnN→Option (Int×Int×Int×ZnN)
 |0,_,_,_,_=>none
 |n_+1,a,i,j,data=>Zro (Zon n_) a i j data
def ZuX (n:Nat) (s:(Int×Int×Int×ZnN)):Option (Int×Int×Int×ZnN):=Zon n s.1 s.2.1 s.2.2.1 s.2.2.2
def ZuY (rec_:(Int×Int×Int×ZnN)→Option (Int×Int×Int×ZnN)) (s:(Int×Int×Int×ZnN)):Option (Int×Int×Int×ZnN):=Zro (fun a i j data=>rec_ (a,i,j,data)) s.1 s.2.1 s.2.2.1 s.2.2.2
theorem Zy3:∀n s,ZuX (n+1) s=ZuY (ZuX n) s:=fun _ _=>rfl
def Zrp (rec_:Int→Int→Int→ZnN→Option (Int×Int×ZnN)) (a:Int) (i:Int) (j:Int) (data:ZnN):Option (Int×Int×ZnN):=
 (Zon big a i j data).bind fun(x0,x1,x2,x3)=>Zsn rec_ x0 x1 x2 x3
def Zn8:Nat→Int→Int→Int→ZnN→Option (Int×Int×ZnN)
 |0,_,_,_,_=>none
 |n_+1,a,i,j,data=>Zrp (Zn8 n_) a i j data
def ZuZ (n:Nat) (s:(Int×Int×Int×ZnN)):Option (Int×Int×ZnN):=Zn8 n s.1 s.2.1 s.2.2.1 s.2.2.2
def Zu0 (rec_:(Int×Int×Int×ZnN)→Option (Int×Int×ZnN)) (s:(Int×Int×Int×ZnN)):Option (Int×Int×ZnN):=Zrp (fun a i j data=>rec_ (a,i,j,data)) s.1 s.2.1 s.2.2.1 s.2.2.2
theorem Zy4:∀n s,ZuZ (n+1) s=Zu0 (ZuZ n) s:=fun _ _=>rfl
def Zso (a:Int) (i:Int) (j:Int) (data:ZnN):Option (Int×Bool×ZnN):=
 bif (decide (i > j))then (
  chk (inR a (data.length:Int)) <|
  (data[(a).toNat]?).bind fun data_e=>
  chk (inR j (data.length:Int)) <|
  (data[(j).toNat]?).bind fun data_e_1=>
  chk (inR j (data.length:Int)) <|
  chk (inR a ((data.set ((j).toNat) data_e).length:Int)) <|
  some (j,true,((data.set ((j).toNat) data_e).set ((a).toNat) data_e_1))
 )else (
  chk (inR j (data.length:Int)) <|
  (data[(j).toNat]?).bind fun data_e_2=>
  chk (inR i (data.length:Int)) <|
  (data[(i).toNat]?).bind fun data_e_3=>
  chk (inR i (data.length:Int)) <|
  chk (inR j ((data.set ((i).toNat) data_e_2).length:Int)) <|
  chk (inK .i64 (i+1)) <|
  chk (inK .i64 (j - 1)) <|
  (Zn8 big a (i+1) (j - 1) ((data.set ((i).toNat) data_e_2).set ((j).toNat) data_e_3)).bind fun(x0,x1,x2)=>Zsl x0 x1 x2
 )
def Zqc (rec_:Int→Int→Int→ZnN→Option (Int×Int×Int×ZnN)) (a:Int) (i:Int) (j:Int) (t66:Bool) (data:ZnN):Option (Int×Int×Int×ZnN):=
 bif t66 then (
  chk (inK .i64 (j - 1)) <|
  rec_ a i (j - 1) data
 )else (
  some (a,i,j,data)
 )
def Zrq (rec_:Int→Int→Int→ZnN→Option (Int×Int×Int×ZnN)) (a:Int) (i:Int) (j:Int) (data:ZnN):Option (Int×Int×Int×ZnN):=
 bif (decide (i≤j))then (
  chk (inR j (data.length:Int)) <|
  (data[(j).toNat]?).bind fun data_e=>
  chk (inR a (data.length:Int)) <|
  (data[(a).toNat]?).bind fun data_e_1=>
  (Zos data_e data_e_1).bind fun q=>
  Zqc rec_ a i j (!(decide (q < 0))) data
 )else (
  Zqc rec_ a i j false data
 )
def Zoo:Nat→Int→Int→Int→ZnN→Option (Int×Int×Int×ZnN)
 |0,_,_,_,_=>none
 |n_+1,a,i,j,data=>Zrq (Zoo n_) a i j data
def Zu1 (n:Nat) (s:(Int×Int×Int×ZnN)):Option (Int×Int×Int×ZnN):=Zoo n s.1 s.2.1 s.2.2.1 s.2.2.2
def Zu2 (rec_:(Int×Int×Int×ZnN)→Option (Int×Int×Int×ZnN)) (s:(Int×Int×Int×ZnN)):Option (Int×Int×Int×ZnN):=Zrq (fun a i j data=>rec_ (a,i,j,data)) s.1 s.2.1 s.2.2.1 s.2.2.2
theorem Zy5:∀n s,Zu1 (n+1) s=Zu2 (Zu1 n) s:=fun _ _=>rfl
def Zsp (a:Int) (i:Int) (j:Int) (data:ZnN):Option (Int×Bool×ZnN):=
 (Zoo big a i j data).bind fun(x0,x1,x2,x3)=>Zso x0 x1 x2 x3
def Zqd (rec_:Int→Int→Int→ZnN→Option (Int×Int×Int×ZnN)) (a:Int) (i:Int) (j:Int) (t47:Bool) (data:ZnN):Option (Int×Int×Int×ZnN):=
 bif t47 then (
  chk (inK .i64 (i+1)) <|
  rec_ a (i+1) j data
 )else (
  some (a,i,j,data)
 )
def Zrr (rec_:Int→Int→Int→ZnN→Option (Int×Int×Int×ZnN)) (a:Int) (i:Int) (j:Int) (data:ZnN):Option (Int×Int×Int×ZnN):=
 bif (decide (i≤j))then (
  chk (inR i (data.length:Int)) <|
  (data[(i).toNat]?).bind fun data_e=>
  chk (inR a (data.length:Int)) <|
  (data[(a).toNat]?).bind fun data_e_1=>
  (Zos data_e data_e_1).bind fun q=>
  Zqd rec_ a i j (decide (q < 0)) data
 )else (
  Zqd rec_ a i j false data
 )
def Zop:Nat→Int→Int→Int→ZnN→Option (Int×Int×Int×ZnN)
 |0,_,_,_,_=>none
 |n_+1,a,i,j,data=>Zrr (Zop n_) a i j data
def Zu3 (n:Nat) (s:(Int×Int×Int×ZnN)):Option (Int×Int×Int×ZnN):=Zop n s.1 s.2.1 s.2.2.1 s.2.2.2
def Zu4 (rec_:(Int×Int×Int×ZnN)→Option (Int×Int×Int×ZnN)) (s:(Int×Int×Int×ZnN)):Option (Int×Int×Int×ZnN):=Zrr (fun a i j data=>rec_ (a,i,j,data)) s.1 s.2.1 s.2.2.1 s.2.2.2
theorem Zy6:∀n s,Zu3 (n+1) s=Zu4 (Zu3 n) s:=fun _ _=>rfl
def ZqU (data:ZnN) (a:Int) (b:Int) (pivot:Int):Option (Int×Bool×ZnN):=
 chk (inR pivot (data.length:Int)) <|
 (data[(pivot).toNat]?).bind fun data_e=>
 chk (inR a (data.length:Int)) <|
 (data[(a).toNat]?).bind fun data_e_1=>
 chk (inR a (data.length:Int)) <|
 chk (inR pivot ((data.set ((a).toNat) data_e).length:Int)) <|
 chk (inK .i64 (a+1)) <|
 chk (inK .i64 (b - 1)) <|
 (Zop big a (a+1) (b - 1) ((data.set ((a).toNat) data_e).set ((pivot).toNat) data_e_1)).bind fun(x0,x1,x2,x3)=>Zsp x0 x1 x2 x3
def Zqr (data:ZnN) (a:Int) (b:Int) (pivot:Int):Option (Int×Bool×ZnN):=
 (ZqU data a b pivot).bind fun r=>chk (decide (r.2.2.length=data.length)&&true) (some r)
def Zpi (rf_:ZnN→Int→Int→Int→Option ZnN) (rec_:Int→Int→Int→Bool→Bool→ZnN→Option (Out Unit ZnN)) (a:Int) (b:Int) (limit:Int) (wasBalanced:Bool) (wasPartitioned:Bool) (length:Int) (pivot:Int) (t97:Bool) (data:ZnN):Option (Out Unit ZnN):=
 bif t97 then (
  (Zpn data a b pivot).bind fun(mid,t98)=>
  rec_ mid b limit wasBalanced wasPartitioned t98
 )else (
  (Zqr data a b pivot).bind fun(mid_1,alreadyPartitioned,t106)=>
  chk (inK .i64 (mid_1 - a)) <|
  chk (inK .i64 (b - mid_1)) <|
  chk (decide ((8:Int)≠0)) <|
  chk (inK .i64 (Int.tdiv length 8)) <|
  bif (decide ((mid_1 - a) < (b - mid_1)))then (
   (rf_ t106 a mid_1 limit).bind fun t129=>
   chk (inK .i64 (mid_1+1)) <|
   rec_ (mid_1+1) b limit (decide ((mid_1 - a)≥(Int.tdiv length 8))) alreadyPartitioned t129
  )else (
   chk (inK .i64 (mid_1+1)) <|
   (rf_ t106 (mid_1+1) b limit).bind fun t140=>
   rec_ a mid_1 limit (decide ((b - mid_1)≥(Int.tdiv length 8))) alreadyPartitioned t140
  )
 )
def Zpj (rf_:ZnN→Int→Int→Int→Option ZnN) (rec_:Int→Int→Int→Bool→Bool→ZnN→Option (Out Unit ZnN)) (a:Int) (b:Int) (limit:Int) (wasBalanced:Bool) (wasPartitioned:Bool) (length:Int) (pivot:Int) (data:ZnN):Option (Out Unit ZnN):=
 bif (decide (a > 0))then (
  chk (inK .i64 (a - 1)) <|
  chk (inR (a - 1) (data.length:Int)) <|
  (data[((a - 1)).toNat]?).bind fun data_e=>
  chk (inR pivot (data.length:Int)) <|
  (data[(pivot).toNat]?).bind fun data_e_1=>
  (Zos data_e data_e_1).bind fun q=>
  Zpi rf_ rec_ a b limit wasBalanced wasPartitioned length pivot (!(decide (q < 0))) data
 )else (
  Zpi rf_ rec_ a b limit wasBalanced wasPartitioned length pivot false data
 )
def ZoG (rf_:ZnN→Int→Int→Int→Option ZnN) (rec_:Int→Int→Int→Bool→Bool→ZnN→Option (Out Unit ZnN)) (a:Int) (b:Int) (limit:Int) (wasBalanced:Bool) (wasPartitioned:Bool) (length:Int) (pivot:Int) (t75:Bool) (data:ZnN):Option (Out Unit ZnN):=
 bif t75 then (
  (ZoJ data a b).bind fun(q,t76)=>
  bif q then (
   some (.ret t76)
  )else (
   Zpj rf_ rec_ a b limit wasBalanced wasPartitioned length pivot t76
  )
 )else (
  Zpj rf_ rec_ a b limit wasBalanced wasPartitioned length pivot data
 )
def Zpk (rf_:ZnN→Int→Int→Int→Option ZnN) (rec_:Int→Int→Int→Bool→Bool→ZnN→Option (Out Unit ZnN)) (a:Int) (b:Int) (limit:Int) (wasBalanced:Bool) (wasPartitioned:Bool) (length:Int) (pivot:Int) (hint:Int) (data:ZnN):Option (Out Unit ZnN):=
 bif wasBalanced then (
  bif wasPartitioned then (
   ZoG rf_ rec_ a b limit wasBalanced wasPartitioned length pivot (hint == 1) data
  )else (
   ZoG rf_ rec_ a b limit wasBalanced wasPartitioned length pivot false data
  )
 )else (
  ZoG rf_ rec_ a b limit wasBalanced wasPartitioned length pivot false data
 )
def Zpl (rf_:ZnN→Int→Int→Int→Option ZnN) (rec_:Int→Int→Int→Bool→Bool→ZnN→Option (Out Unit ZnN)) (a:Int) (b:Int) (limit:Int) (wasBalanced:Bool) (wasPartitioned:Bool) (length:Int) (data:ZnN):Option (Out Unit ZnN):=
 (ZpW data a b).bind fun(pivot,hint,t48)=>
 bif (hint == 2)then (
  (ZpK t48 a b).bind fun t57=>
  chk (inK .i64 (b - 1)) <|
  chk (inK .i64 (pivot - a)) <|
  chk (inK .i64 ((b - 1) - (pivot - a))) <|
  Zpk rf_ rec_ a b limit wasBalanced wasPartitioned length ((b - 1) - (pivot - a)) (1:Int) t57
 )else (
  Zpk rf_ rec_ a b limit wasBalanced wasPartitioned length pivot hint t48
 )
def Zsj (rf_:ZnN→Int→Int→Int→Option ZnN) (rec_:Int→Int→Int→Bool→Bool→ZnN→Option (Out Unit ZnN)) (a:Int) (b:Int) (limit:Int) (wasBalanced:Bool) (wasPartitioned:Bool) (data:ZnN):Option (Out Unit ZnN):=
 chk (inK .i64 (b - a)) <|
 bif (decide ((b - a)≤12))then (
  (ZoI data a b).bind fun t26=>
  some (.ret t26)
 )else (
  bif (limit == 0)then (
   (ZqC data a b).bind fun t33=>
   some (.ret t33)
  )else (
   bif (!wasBalanced)then (
    (ZpB data a b).bind fun t40=>
    chk (inK .i64 (limit - 1)) <|
    Zpl rf_ rec_ a b (limit - 1) wasBalanced wasPartitioned (b - a) t40
   )else (
    Zpl rf_ rec_ a b limit wasBalanced wasPartitioned (b - a) data
   )
  )
 )
def ZnY (rf_:ZnN→Int→Int→Int→Option ZnN):Nat→Int→Int→Int→Bool→Bool→ZnN→Option (Out Unit ZnN)
 |0,_,_,_,_,_,_=>none
 |n_+1,a,b,limit,wasBalanced,wasPartitioned,data=>Zsj rf_ (ZnY rf_ n_) a b limit wasBalanced wasPartitioned data
def ZvS (rf_:ZnN→Int→Int→Int→Option ZnN) (n:Nat) (s:(Int×Int×Int×Bool×Bool×ZnN)):Option (Out Unit ZnN):=ZnY rf_ n s.1 s.2.1 s.2.2.1 s.2.2.2.1 s.2.2.2.2.1 s.2.2.2.2.2
def ZvT (rf_:ZnN→Int→Int→Int→Option ZnN) (rec_:(Int×Int×Int×Bool×Bool×ZnN)→Option (Out Unit ZnN)) (s:(Int×Int×Int×Bool×Bool×ZnN)):Option (Out Unit ZnN):=Zsj rf_ (fun a b limit wasBalanced wasPartitioned data=>rec_ (a,b,limit,wasBalanced,wasPartitioned,data)) s.1 s.2.1 s.2.2.1 s.2.2.2.1 s.2.2.2.2.1 s.2.2.2.2.2
theorem ZzM (rf_:ZnN→Int→Int→Int→Option ZnN):∀n s,ZvS rf_ (n+1) s=ZvT rf_ (ZvS rf_ n) s:=fun _ _=>rfl
def ZqT (rf_:ZnN→Int→Int→Int→Option ZnN) (data:ZnN) (a:Int) (b:Int) (limit:Int):Option ZnN:=
 (ZnY rf_ big a b limit true true data).bind fun
  | .ret q_=>some q_
  | .brk _=>none
def ZnJ:Nat→ZnN→Int→Int→Int→Option ZnN
 |0,_,_,_,_=>none
 |n_+1,data,a,b,limit=>(ZqT (ZnJ n_) data a b limit).bind fun r=>chk (decide (r.length=data.length)&&true) (some r)
def Ztw (x_:ZnN):Option ZnN:=
 (Zwe (IntKind.wrap .u64 (x_.length:Int))).bind fun q=>
 (ZnJ big x_ 0 (x_.length:Int) q).bind fun t7=>
 some t7
def Zqv (x_:ZnN):Option ZnN:=
 (Ztw x_).bind fun r=>chk (decide (r.length=x_.length)&&true) (some r)
def Zy7 (l:ZnN) (k:Int):Option (Nat×Nat×ZnN):=
 (Zqv l).bind fun t7=>
 chk (Zb9 0 (if (t7.length:Int) < k then (t7.length:Int)else k) (t7.length:Int)) <|
 some (0,(((if (t7.length:Int) < k then (t7.length:Int)else k)).toNat - 0),t7)
def Zx2 (l:ZnN) (k:Int):Option (Nat×Nat×ZnN):=
 (Zy7 l k).bind fun r=>chk (decide (r.2.2.length=l.length)&&true) (some r)
def ZAI (k:Int) (out:ZnN):Option (ZnN×Int):=
 (Zx2 out k).bind fun(q_off,q_len,t77)=>
 some (((t77.drop q_off).take q_len),0)
def ZAJ (rec_:Int→ZoK→ZrS→Int→Int→ZnN→Option (Int×ZnN)) (k:Int) (own:ZoK) (t36:ZrS) (t37:Int) (t38:Int) (out:ZnN):Option (Int×ZnN):=
 chk (inK .i64 (t38+1)) <|
 rec_ k own t36 t37 (t38+1) out
def Zzw (rec_:Int→ZoK→ZrS→Int→Int→ZnU→Int→Int→ZnN→ZnB→Option (Int×ZoK×ZrS×Int×Int×ZnN)) (k:Int) (own:ZoK) (t36:ZrS) (t37:Int) (t38:Int) (t43:ZnU) (t44:Int) (i:Int) (out:ZnN) (t:ZnB):Option (Int×ZoK×ZrS×Int×Int×ZnN):=
 chk (inK .i64 (i+1)) <|
 rec_ k own t36 t37 t38 t43 t44 (i+1) out t
def Zzx (rec_:Int→ZoK→ZrS→Int→Int→ZnU→Int→Int→ZnN→ZnB→Option (Int×ZoK×ZrS×Int×Int×ZnN)) (k:Int) (own:ZoK) (i:Int) (t36:ZrS) (t37:Int) (t38:Int) (t43:ZnU) (t44:Int) (i_1:Int) (t65:Bool) (out:ZnN) (t:ZnB) (score:ZnC):Option (Int×ZoK×ZrS×Int×Int×ZnN):=
 bif t65 then (
  chk (ZiZ (out.length+([(Zpm.mk (ZqW.mk t.ID i) score)]:ZnN).length) 80) <|
  Zzw rec_ k own t36 t37 t38 t43 t44 i_1 (out++([(Zpm.mk (ZqW.mk t.ID i) score)]:ZnN)) t
 )else (
  Zzw rec_ k own t36 t37 t38 t43 t44 i_1 out t
 )
def Zx0 (rec_:Int→ZoK→ZrS→Int→Int→ZnU→Int→Int→ZnN→ZnB→Option (Int×ZoK×ZrS×Int×Int×ZnN)) (k:Int) (own:ZoK) (t36:ZrS) (t37:Int) (t38:Int) (t43:ZnU) (t44:Int) (i:Int) (out:ZnN) (t:ZnB):Option (Int×ZoK×ZrS×Int×Int×ZnN):=
 bif (decide (i < t44))then (
  (idx t43 i).bind fun x_=>
  (ZpC x_).bind fun q=>
  (Zpc own q).bind fun(d,e)=>
  (ZCv 1 1).bind fun q_1=>
  (ZBP q_1 d).bind fun score=>
  bif (e == 0)then (
   (Zyk score).bind fun q_2=>
   Zzx rec_ k own i t36 t37 t38 t43 t44 i q_2 out t score
  )else (
   Zzx rec_ k own i t36 t37 t38 t43 t44 i false out t score
  )
 )else (
  some (k,own,t36,t37,t38,out)
 )
def Zun:Nat→Int→ZoK→ZrS→Int→Int→ZnU→Int→Int→ZnN→ZnB→Option (Int×ZoK×ZrS×Int×Int×ZnN)
 |0,_,_,_,_,_,_,_,_,_,_=>none
 |n_+1,k,own,t36,t37,t38,t43,t44,i,out,t=>Zx0 (Zun n_) k own t36 t37 t38 t43 t44 i out t
def ZBN (n:Nat) (s:(Int×ZoK×ZrS×Int×Int×ZnU×Int×Int×ZnN×ZnB)):Option (Int×ZoK×ZrS×Int×Int×ZnN):=Zun n s.1 s.2.1 s.2.2.1 s.2.2.2.1 s.2.2.2.2.1 s.2.2.2.2.2.1 s.2.2.2.2.2.2.1 s.2.2.2.2.2.2.2.1 s.2.2.2.2.2.2.2.2.1 s.2.2.2.2.2.2.2.2.2
def Zz1 (rec_:(Int×ZoK×ZrS×Int×Int×ZnU×Int×Int×ZnN×ZnB)→Option (Int×ZoK×ZrS×Int×Int×ZnN)) (s:(Int×ZoK×ZrS×Int×Int×ZnU×Int×Int×ZnN×ZnB)):Option (Int×ZoK×ZrS×Int×Int×ZnN):=Zx0 (fun k own t36 t37 t38 t43 t44 i out t=>rec_ (k,own,t36,t37,t38,t43,t44,i,out,t)) s.1 s.2.1 s.2.2.1 s.2.2.2.1 s.2.2.2.2.1 s.2.2.2.2.2.1 s.2.2.2.2.2.2.1 s.2.2.2.2.2.2.2.1 s.2.2.2.2.2.2.2.2.1 s.2.2.2.2.2.2.2.2.2
theorem ZDb:∀n s,ZBN (n+1) s=Zz1 (ZBN n) s:=fun _ _=>rfl
def Zx1 (rec_:Int→ZoK→ZrS→Int→Int→ZnN→Option (Int×ZnN)) (k:Int) (own:ZoK) (t36:ZrS) (t37:Int) (t38:Int) (out:ZnN):Option (Int×ZnN):=
 bif (decide (t38 < t37))then (
  (idx t36 t38).bind fun t=>
  (Zun big k own t36 t37 t38 t.Columns (t.Columns.length:Int) (0:Int) out t).bind fun(x0,x1,x2,x3,x4,x5)=>ZAJ rec_ x0 x1 x2 x3 x4 x5
 )else (
  some (k,out)
 )
def ZxI:Nat→Int→ZoK→ZrS→Int→Int→ZnN→Option (Int×ZnN)
 |0,_,_,_,_,_,_=>none
 |n_+1,k,own,t36,t37,t38,out=>Zx1 (ZxI n_) k own t36 t37 t38 out
def ZBO (n:Nat) (s:(Int×ZoK×ZrS×Int×Int×ZnN)):Option (Int×ZnN):=ZxI n s.1 s.2.1 s.2.2.1 s.2.2.2.1 s.2.2.2.2.1 s.2.2.2.2.2
def Zz2 (rec_:(Int×ZoK×ZrS×Int×Int×ZnN)→Option (Int×ZnN)) (s:(Int×ZoK×ZrS×Int×Int×ZnN)):Option (Int×ZnN):=Zx1 (fun k own t36 t37 t38 out=>rec_ (k,own,t36,t37,t38,out)) s.1 s.2.1 s.2.2.1 s.2.2.2.1 s.2.2.2.2.1 s.2.2.2.2.2
theorem ZDc:∀n s,ZBO (n+1) s=Zz2 (ZBO n) s:=fun _ _=>rfl
def Zzy (l:ZrS) (k:Int) (t24:Bool) (c:ZnO):Option (ZnN×Int):=
 bif t24 then (
  some (([]:ZnN),1)
 )else (
  (ZpC c).bind fun own=>
  (ZxI big k own l (l.length:Int) (0:Int) ([]:ZnN)).bind fun(x0,x1)=>ZAI x0 x1
 )
def Zzz (l:ZrS) (k:Int) (t17:Bool) (c:ZnO):Option (ZnN×Int):=
 bif t17 then (
  some (([]:ZnN),2)
 )else (
  (ZvV l).bind fun q=>
  bif (!q)then (
   Zzy l k true c
  )else (
   Zzy l k (decide ((c.Cells.length:Int) > 4096)) c
  )
 )
def ZzV (l:ZrS) (c:ZnO) (k:Int):Option (ZnN×Int):=
 bif (decide (k < 0))then (
  Zzz l k true c
 )else (
  Zzz l k (decide (k > 1024)) c
 )
def Zp2 (t24:Bool) (f:ZnC):Option Bool:=
 bif t24 then (
  some false
 )else (
  bif ((f.Num.Words.length:Int) == 0)then (
   (ZoR f.Den.Words ([1]:ZnG)).bind fun q=>
   some (q == 0)
  )else (
   (ZrZ f.Num.Words f.Den.Words).bind fun q_1=>
   (ZoR q_1 ([1]:ZnG)).bind fun q_2=>
   some (q_2 == 0)
  )
 )
def Zpf (f:ZnC):Option Bool:=
 (Zo6 f.Num).bind fun q=>
 bif (!q)then (
  Zp2 true f
 )else (
  (Zo6 f.Den).bind fun q_1=>
  bif (!q_1)then (
   Zp2 true f
  )else (
   bif f.Den.Neg then (
    Zp2 true f
   )else (
    Zp2 ((f.Den.Words.length:Int) == 0) f
   )
  )
 )
def Zw4 (out:ZnG):Option ZnG:=
 (Zoi out).bind fun q=>
 some q
def Zw5 (rec_:ZnG→ZnG→Int→ZnG→Option ZnG) (a:ZnG) (b:ZnG) (i:Int) (c:Int) (out:ZnG):Option ZnG:=
 chk (inK .i64 (i+(b.length:Int))) <|
 chk (inR (i+(b.length:Int)) (out.length:Int)) <|
 chk (inK .i64 (i+1)) <|
 rec_ a b (i+1) (out.set (((i+(b.length:Int))).toNat) (IntKind.wrap .u32 c))
def Zte (rec_:ZnG→ZnG→Int→Int→Int→ZnG→Option (ZnG×ZnG×Int×Int×ZnG)) (a:ZnG) (b:ZnG) (i:Int) (c:Int) (j:Int) (out:ZnG):Option (ZnG×ZnG×Int×Int×ZnG):=
 bif (decide (j < (b.length:Int)))then (
  (idx a i).bind fun a_e=>
  (idx b j).bind fun b_e=>
  chk (inK .i64 (i+j)) <|
  chk (inR (i+j) (out.length:Int)) <|
  (out[((i+j)).toNat]?).bind fun out_e=>
  chk (inK .i64 (i+j)) <|
  chk (inR (i+j) (out.length:Int)) <|
  chk (decide (0≤(32:Int))) <|
  chk (inK .i64 (j+1)) <|
  rec_ a b i (shrK .u64 (IntKind.wrap .u64 (c+(IntKind.wrap .u64 ((IntKind.wrap .u64 ((IntKind.wrap .u64 a_e)*(IntKind.wrap .u64 b_e)))+(IntKind.wrap .u64 out_e))))) 32) (j+1) (out.set (((i+j)).toNat) (IntKind.wrap .u32 (IntKind.wrap .u64 (c+(IntKind.wrap .u64 ((IntKind.wrap .u64 ((IntKind.wrap .u64 a_e)*(IntKind.wrap .u64 b_e)))+(IntKind.wrap .u64 out_e)))))))
 )else (
  some (a,b,i,c,out)
 )
def Zux:Nat→ZnG→ZnG→Int→Int→Int→ZnG→Option (ZnG×ZnG×Int×Int×ZnG)
 |0,_,_,_,_,_,_=>none
 |n_+1,a,b,i,c,j,out=>Zte (Zux n_) a b i c j out
def ZyT (n:Nat) (s:(ZnG×ZnG×Int×Int×Int×ZnG)):Option (ZnG×ZnG×Int×Int×ZnG):=Zux n s.1 s.2.1 s.2.2.1 s.2.2.2.1 s.2.2.2.2.1 s.2.2.2.2.2
def Zv3 (rec_:(ZnG×ZnG×Int×Int×Int×ZnG)→Option (ZnG×ZnG×Int×Int×ZnG)) (s:(ZnG×ZnG×Int×Int×Int×ZnG)):Option (ZnG×ZnG×Int×Int×ZnG):=Zte (fun a b i c j out=>rec_ (a,b,i,c,j,out)) s.1 s.2.1 s.2.2.1 s.2.2.2.1 s.2.2.2.2.1 s.2.2.2.2.2
theorem ZBy:∀n s,ZyT (n+1) s=Zv3 (ZyT n) s:=fun _ _=>rfl
def Ztf (rec_:ZnG→ZnG→Int→ZnG→Option ZnG) (a:ZnG) (b:ZnG) (i:Int) (out:ZnG):Option ZnG:=
 bif (decide (i < (a.length:Int)))then (
  (Zux big a b i (0:Int) (0:Int) out).bind fun(x0,x1,x2,x3,x4)=>Zw5 rec_ x0 x1 x2 x3 x4
 )else (
  some out
 )
def Zse:Nat→ZnG→ZnG→Int→ZnG→Option ZnG
 |0,_,_,_,_=>none
 |n_+1,a,b,i,out=>Ztf (Zse n_) a b i out
def ZyU (n:Nat) (s:(ZnG×ZnG×Int×ZnG)):Option ZnG:=Zse n s.1 s.2.1 s.2.2.1 s.2.2.2
def Zv4 (rec_:(ZnG×ZnG×Int×ZnG)→Option ZnG) (s:(ZnG×ZnG×Int×ZnG)):Option ZnG:=Ztf (fun a b i out=>rec_ (a,b,i,out)) s.1 s.2.1 s.2.2.1 s.2.2.2
theorem ZBz:∀n s,ZyU (n+1) s=Zv4 (ZyU n) s:=fun _ _=>rfl
def Zt5 (a:ZnG) (b:ZnG):Option ZnG:=
 chk (inK .i64 ((a.length:Int)+(b.length:Int))) <|
 chk (mkOk ((a.length:Int)+(b.length:Int)) ((a.length:Int)+(b.length:Int)) 4) <|
 (Zse big a b (0:Int) (List.replicate (((a.length:Int)+(b.length:Int))).toNat (0:Int))).bind fun x0=>Zw4 x0
def ZnX (a:ZnK) (b:ZnK):Option ZnK:=
 (Zt5 a.Words b.Words).bind fun q=>
 (Zn4 (!(a.Neg == b.Neg)) q).bind fun q_1=>
 some q_1
def Zp3 (a:ZnK):Option ZnK:=
 (Zn4 (!a.Neg) a.Words).bind fun q=>
 some q
def Zxd (c:Int) (out:ZnG):Option ZnG:=
 chk (ZiZ (out.length+([(IntKind.wrap .u32 c)]:ZnG).length) 4) <|
 some (out++([(IntKind.wrap .u32 c)]:ZnG))
def Zsh (rec_:ZnG→ZnG→Int→Int→ZnG→Option (Int×ZnG)) (a:ZnG) (b:ZnG) (c:Int) (i:Int) (out:ZnG):Option (Int×ZnG):=
 chk (ZiZ (out.length+([(IntKind.wrap .u32 c)]:ZnG).length) 4) <|
 chk (decide (0≤(32:Int))) <|
 chk (inK .i64 (i+1)) <|
 rec_ a b (shrK .u64 c 32) (i+1) (out++([(IntKind.wrap .u32 c)]:ZnG))
def Zsi (rec_:ZnG→ZnG→Int→Int→ZnG→Option (Int×ZnG)) (a:ZnG) (b:ZnG) (c:Int) (i:Int) (out:ZnG):Option (Int×ZnG):=
 bif (decide (i < (b.length:Int)))then (
  (idx b i).bind fun b_e=>
  Zsh rec_ a b (IntKind.wrap .u64 (c+(IntKind.wrap .u64 b_e))) i out
 )else (
  Zsh rec_ a b c i out
 )
def ZqH (rec_:ZnG→ZnG→Int→Int→ZnG→Option (Int×ZnG)) (a:ZnG) (b:ZnG) (c:Int) (i:Int) (t17:Bool) (out:ZnG):Option (Int×ZnG):=
 bif t17 then (
  bif (decide (i < (a.length:Int)))then (
   (idx a i).bind fun a_e=>
   Zsi rec_ a b (IntKind.wrap .u64 (c+(IntKind.wrap .u64 a_e))) i out
  )else (
   Zsi rec_ a b c i out
  )
 )else (
  some (c,out)
 )
def Zti (rec_:ZnG→ZnG→Int→Int→ZnG→Option (Int×ZnG)) (a:ZnG) (b:ZnG) (c:Int) (i:Int) (out:ZnG):Option (Int×ZnG):=
 bif (decide (i < (a.length:Int)))then (
  ZqH rec_ a b c i true out
 )else (
  ZqH rec_ a b c i (decide (i < (b.length:Int))) out
 )
def ZpD:Nat→ZnG→ZnG→Int→Int→ZnG→Option (Int×ZnG)
 |0,_,_,_,_,_=>none
 |n_+1,a,b,c,i,out=>Zti (ZpD n_) a b c i out
def ZyX (n:Nat) (s:(ZnG×ZnG×Int×Int×ZnG)):Option (Int×ZnG):=ZpD n s.1 s.2.1 s.2.2.1 s.2.2.2.1 s.2.2.2.2
def Zv9 (rec_:(ZnG×ZnG×Int×Int×ZnG)→Option (Int×ZnG)) (s:(ZnG×ZnG×Int×Int×ZnG)):Option (Int×ZnG):=Zti (fun a b c i out=>rec_ (a,b,c,i,out)) s.1 s.2.1 s.2.2.1 s.2.2.2.1 s.2.2.2.2
theorem ZBC:∀n s,ZyX (n+1) s=Zv9 (ZyX n) s:=fun _ _=>rfl
def Zr1 (a:ZnG) (b:ZnG):Option ZnG:=
 (ZpD big a b (0:Int) (0:Int) ([]:ZnG)).bind fun(x0,x1)=>Zxd x0 x1
def Zql (a:ZnK) (b:ZnK):Option ZnK:=
 bif (a.Neg == b.Neg)then (
  (Zr1 a.Words b.Words).bind fun q=>
  (Zn4 a.Neg q).bind fun q_1=>
  some q_1
 )else (
  (ZoR a.Words b.Words).bind fun q_2=>
  bif (decide (q_2≥0))then (
   (ZpP a.Words b.Words).bind fun q_3=>
   (Zn4 a.Neg q_3).bind fun q_4=>
   some q_4
  )else (
   (ZpP b.Words a.Words).bind fun q_5=>
   (Zn4 b.Neg q_5).bind fun q_6=>
   some q_6
  )
 )
def ZuD (t13:Bool) (a:ZnC) (b:ZnC):Option Int:=
 bif t13 then (
  some (0:Int)
 )else (
  (ZnX a.Num b.Den).bind fun q=>
  (ZnX b.Num a.Den).bind fun q_1=>
  (Zp3 q_1).bind fun q_2=>
  (Zql q q_2).bind fun x_=>
  bif ((x_.Words.length:Int) == 0)then (
   some (0:Int)
  )else (
   bif x_.Neg then (
    some (-1:Int)
   )else (
    some (1:Int)
   )
  )
 )
def Zt8 (a:ZnC) (b:ZnC):Option Int:=
 (Zpf a).bind fun q=>
 bif (!q)then (
  ZuD true a b
 )else (
  (Zpf b).bind fun q_1=>
  ZuD (!q_1) a b
 )
def Zri (a:ZnC) (b:ZnC):Option Bool:=
 (Zt8 a b).bind fun q=>
 some (decide (q < 0))
def Zs2 (t21:Bool) (t4:Bool) (t4_1:Bool) (f:ZnC) (t4_2:ZnG) (t4_3:ZnG):Option (ZnC×Int):=
 bif t21 then (
  some ((ZnC.mk (ZnK.mk false ([]:ZnG)) (ZnK.mk false ([]:ZnG))),3)
 )else (
  some (f,0)
 )
def Zsd (num:ZnK) (den:ZnK):Option (ZnC×Int):=
 (ZqE num den).bind fun f=>
 bif (decide ((f.Num.Words.length:Int) > 256))then (
  Zs2 true false false f ([]:ZnG) ([]:ZnG)
 )else (
  Zs2 (decide ((f.Den.Words.length:Int) > 256)) false false f ([]:ZnG) ([]:ZnG)
 )
def ZuC (t13:Bool) (a:ZnC) (b:ZnC) (t4:Bool) (t4_1:Bool) (t4_2:ZnG) (t4_3:ZnG):Option (ZnC×Int):=
 bif t13 then (
  some ((ZnC.mk (ZnK.mk false ([]:ZnG)) (ZnK.mk false ([]:ZnG))),1)
 )else (
  (ZnX a.Num b.Den).bind fun q=>
  (ZnX b.Num a.Den).bind fun q_1=>
  (Zp3 q_1).bind fun q_2=>
  (Zql q q_2).bind fun q_3=>
  (ZnX a.Den b.Den).bind fun q_4=>
  (Zsd q_3 q_4).bind fun(q_5,q_6)=>
  some (q_5,q_6)
 )
def Zt7 (a:ZnC) (b:ZnC):Option (ZnC×Int):=
 (Zpf a).bind fun q=>
 bif (!q)then (
  ZuC true a b false false ([]:ZnG) ([]:ZnG)
 )else (
  (Zpf b).bind fun q_1=>
  ZuC (!q_1) a b false false ([]:ZnG) ([]:ZnG)
 )
def Zt4 (a:ZnC) (b:ZnC):Option ZnC:=
 (Zt7 a b).bind fun(f,q)=>
 some f
def Zta:Option ZnC:=
 (ZnR 0).bind fun q=>
 some q
def Zo9 (t2:Bool):Option Bool:=
 some t2
def ZsG (hits:ZnN) (e:Int) (n:Int):Option Bool:=
 bif (e == 0)then (
  bif ((hits.length:Int) == n)then (
   (Zq2).bind fun q=>
   Zo9 q
  )else (
   Zo9 false
  )
 )else (
  Zo9 false
 )
def ZrL (rec_:ZnN→Int→Int→Int→Option (Out (ZnN×Int×Int) Bool)) (hits:ZnN) (e:Int) (n:Int) (i:Int):Option (Out (ZnN×Int×Int) Bool):=
 bif (decide (i < (hits.length:Int)))then (
  chk (inK .i64 (i - 1)) <|
  (idx hits (i - 1)).bind fun hit=>
  (idx hits i).bind fun hit_1=>
  (Zri hit.Score hit_1.Score).bind fun q=>
  bif q then (
   some (.ret false)
  )else (
   chk (inK .i64 (i+1)) <|
   rec_ hits e n (i+1)
  )
 )else (
  some (.brk (hits,e,n))
 )
def Zo8:Nat→ZnN→Int→Int→Int→Option (Out (ZnN×Int×Int) Bool)
 |0,_,_,_,_=>none
 |n_+1,hits,e,n,i=>ZrL (Zo8 n_) hits e n i
def Zvo (n:Nat) (s:(ZnN×Int×Int×Int)):Option (Out (ZnN×Int×Int) Bool):=Zo8 n s.1 s.2.1 s.2.2.1 s.2.2.2
def Zvp (rec_:(ZnN×Int×Int×Int)→Option (Out (ZnN×Int×Int) Bool)) (s:(ZnN×Int×Int×Int)):Option (Out (ZnN×Int×Int) Bool):=ZrL (fun hits e n i=>rec_ (hits,e,n,i)) s.1 s.2.1 s.2.2.1 s.2.2.2
theorem Zzp:∀n s,Zvo (n+1) s=Zvp (Zvo n) s:=fun _ _=>rfl
def ZsH (hits:ZnN) (e:Int) (n:Int):Option Bool:=
 (Zo8 big hits e n (1:Int)).bind fun
  | .ret q_=>some q_
  | .brk (x0,x1,x2)=>ZsG x0 x1 x2
def ZsI (rec_:ZoK→ZnN→Int→Int→ZrS→Int→Int→Option (Out (ZnN×Int×Int) Bool)) (q:ZoK) (hits:ZnN) (e:Int) (n:Int) (t46:ZrS) (t47:Int) (t48:Int):Option (Out (ZnN×Int×Int) Bool):=
 chk (inK .i64 (t48+1)) <|
 rec_ q hits e n t46 t47 (t48+1)
def Zpa (rec_:ZoK→ZnN→Int→Int→ZrS→Int→Int→ZnU→Int→Int→ZnB→Option (Out (ZoK×ZnN×Int×Int×ZrS×Int×Int) Bool)) (q:ZoK) (hits:ZnN) (e:Int) (n:Int) (t46:ZrS) (t47:Int) (t48:Int) (t53:ZnU) (t54:Int) (i:Int) (a:ZnB):Option (Out (ZoK×ZnN×Int×Int×ZrS×Int×Int) Bool):=
 chk (inK .i64 (i+1)) <|
 rec_ q hits e n t46 t47 t48 t53 t54 (i+1) a
def Zox (rec_:ZoK→ZnN→Int→Int→ZrS→Int→Int→ZnU→Int→Int→ZnB→Option (Out (ZoK×ZnN×Int×Int×ZrS×Int×Int) Bool)) (q:ZoK) (hits:ZnN) (e:Int) (n:Int) (t46:ZrS) (t47:Int) (t48:Int) (t53:ZnU) (t54:Int) (i:Int) (t114:Bool) (a:ZnB):Option (Out (ZoK×ZnN×Int×Int×ZrS×Int×Int) Bool):=
 bif t114 then (
  some (.ret false)
 )else (
  Zpa rec_ q hits e n t46 t47 t48 t53 t54 i a
 )
def ZsJ (rec_:ZoK→ZnN→Int→Int→ZrS→Int→Int→ZnU→Int→Int→ZnB→Option (Out (ZoK×ZnN×Int×Int×ZrS×Int×Int) Bool)) (q:ZoK) (hits:ZnN) (e:Int) (n:Int) (found:Bool) (t46:ZrS) (t47:Int) (t48:Int) (t53:ZnU) (t54:Int) (i:Int) (a:ZnB) (s:ZnC):Option (Out (ZoK×ZnN×Int×Int×ZrS×Int×Int) Bool):=
 bif (!found)then (
  Zox rec_ q hits e n t46 t47 t48 t53 t54 i true a
 )else (
  bif (a.ID == 90)then (
   (Zta).bind fun q_1=>
   (ZoD s q_1).bind fun q_2=>
   Zox rec_ q hits e n t46 t47 t48 t53 t54 i (!q_2) a
  )else (
   Zox rec_ q hits e n t46 t47 t48 t53 t54 i false a
  )
 )
def Zoy (rec_:ZoK→ZnN→Int→Int→Int→Bool→ZrS→Int→Int→ZnU→Int→Int→ZnN→Int→Int→ZnB→ZnC→Option (ZoK×ZnN×Int×Int×Bool×ZrS×Int×Int×ZnU×Int×Int×ZnB×ZnC)) (q:ZoK) (hits:ZnN) (e:Int) (n:Int) (i:Int) (found:Bool) (t46:ZrS) (t47:Int) (t48:Int) (t53:ZnU) (t54:Int) (i_1:Int) (t77:ZnN) (t78:Int) (t79:Int) (a:ZnB) (s:ZnC):Option (ZoK×ZnN×Int×Int×Bool×ZrS×Int×Int×ZnU×Int×Int×ZnB×ZnC):=
 chk (inK .i64 (t79+1)) <|
 rec_ q hits e n i found t46 t47 t48 t53 t54 i_1 t77 t78 (t79+1) a s
def ZpS (rec_:ZoK→ZnN→Int→Int→Int→Bool→ZrS→Int→Int→ZnU→Int→Int→ZnN→Int→Int→ZnB→ZnC→Option (ZoK×ZnN×Int×Int×Bool×ZrS×Int×Int×ZnU×Int×Int×ZnB×ZnC)) (q:ZoK) (hits:ZnN) (e:Int) (n:Int) (i:Int) (found:Bool) (t46:ZrS) (t47:Int) (t48:Int) (t53:ZnU) (t54:Int) (i_1:Int) (t77:ZnN) (t78:Int) (t79:Int) (a:ZnB) (s:ZnC):Option (ZoK×ZnN×Int×Int×Bool×ZrS×Int×Int×ZnU×Int×Int×ZnB×ZnC):=
 bif (decide (t79 < t78))then (
  (idx t77 t79).bind fun h_=>
  bif found then (
   Zoy rec_ q hits e n i true t46 t47 t48 t53 t54 i_1 t77 t78 t79 a s
  )else (
   bif (h_.Ref.Table == a.ID&&(h_.Ref.Column == i&&true))then (
    (ZnR 1).bind fun q_1=>
    (Zt4 q_1 s).bind fun q_2=>
    (ZoD h_.Score q_2).bind fun q_3=>
    Zoy rec_ q hits e n i q_3 t46 t47 t48 t53 t54 i_1 t77 t78 t79 a s
   )else (
    Zoy rec_ q hits e n i false t46 t47 t48 t53 t54 i_1 t77 t78 t79 a s
   )
  )
 )else (
  some (q,hits,e,n,found,t46,t47,t48,t53,t54,i_1,a,s)
 )
def Zov:Nat→ZoK→ZnN→Int→Int→Int→Bool→ZrS→Int→Int→ZnU→Int→Int→ZnN→Int→Int→ZnB→ZnC→Option (ZoK×ZnN×Int×Int×Bool×ZrS×Int×Int×ZnU×Int×Int×ZnB×ZnC)
 |0,_,_,_,_,_,_,_,_,_,_,_,_,_,_,_,_,_=>none
 |n_+1,q,hits,e,n,i,found,t46,t47,t48,t53,t54,i_1,t77,t78,t79,a,s=>ZpS (Zov n_) q hits e n i found t46 t47 t48 t53 t54 i_1 t77 t78 t79 a s
def Zvq (n:Nat) (s:(ZoK×ZnN×Int×Int×Int×Bool×ZrS×Int×Int×ZnU×Int×Int×ZnN×Int×Int×ZnB×ZnC)):Option (ZoK×ZnN×Int×Int×Bool×ZrS×Int×Int×ZnU×Int×Int×ZnB×ZnC):=Zov n s.1 s.2.1 s.2.2.1 s.2.2.2.1 s.2.2.2.2.1 s.2.2.2.2.2.1 s.2.2.2.2.2.2.1 s.2.2.2.2.2.2.2.1 s.2.2.2.2.2.2.2.2.1 s.2.2.2.2.2.2.2.2.2.1 s.2.2.2.2.2.2.2.2.2.2.1 s.2.2.2.2.2.2.2.2.2.2.2.1 s.2.2.2.2.2.2.2.2.2.2.2.2.1 s.2.2.2.2.2.2.2.2.2.2.2.2.2.1 s.2.2.2.2.2.2.2.2.2.2.2.2.2.2.1 s.2.2.2.2.2.2.2.2.2.2.2.2.2.2.2.1 s.2.2.2.2.2.2.2.2.2.2.2.2.2.2.2.2
def ZrM (rec_:(ZoK×ZnN×Int×Int×Int×Bool×ZrS×Int×Int×ZnU×Int×Int×ZnN×Int×Int×ZnB×ZnC)→Option (ZoK×ZnN×Int×Int×Bool×ZrS×Int×Int×ZnU×Int×Int×ZnB×ZnC)) (s:(ZoK×ZnN×Int×Int×Int×Bool×ZrS×Int×Int×ZnU×Int×Int×ZnN×Int×Int×ZnB×ZnC)):Option (ZoK×ZnN×Int×Int×Bool×ZrS×Int×Int×ZnU×Int×Int×ZnB×ZnC):=ZpS (fun q hits e n i found t46 t47 t48 t53 t54 i_1 t77 t78 t79 a s=>rec_ (q,hits,e,n,i,found,t46,t47,t48,t53,t54,i_1,t77,t78,t79,a,s)) s.1 s.2.1 s.2.2.1 s.2.2.2.1 s.2.2.2.2.1 s.2.2.2.2.2.1 s.2.2.2.2.2.2.1 s.2.2.2.2.2.2.2.1 s.2.2.2.2.2.2.2.2.1 s.2.2.2.2.2.2.2.2.2.1 s.2.2.2.2.2.2.2.2.2.2.1 s.2.2.2.2.2.2.2.2.2.2.2.1 s.2.2.2.2.2.2.2.2.2.2.2.2.1 s.2.2.2.2.2.2.2.2.2.2.2.2.2.1 s.2.2.2.2.2.2.2.2.2.2.2.2.2.2.1 s.2.2.2.2.2.2.2.2.2.2.2.2.2.2.2.1 s.2.2.2.2.2.2.2.2.2.2.2.2.2.2.2.2
theorem Zzq:∀n s,Zvq (n+1) s=ZrM (Zvq n) s:=fun _ _=>rfl
def Zqm (rec_:ZoK→ZnN→Int→Int→ZrS→Int→Int→ZnU→Int→Int→ZnB→Option (Out (ZoK×ZnN×Int×Int×ZrS×Int×Int) Bool)) (q:ZoK) (hits:ZnN) (e:Int) (n:Int) (i:Int) (t46:ZrS) (t47:Int) (t48:Int) (t53:ZnU) (t54:Int) (i_1:Int) (t74:Bool) (a:ZnB) (s:ZnC):Option (Out (ZoK×ZnN×Int×Int×ZrS×Int×Int) Bool):=
 bif t74 then (
  Zpa rec_ q hits e n t46 t47 t48 t53 t54 i_1 a
 )else (
  chk (inK .i64 (n+1)) <|
  (Zov big q hits e (n+1) i false t46 t47 t48 t53 t54 i_1 hits (hits.length:Int) (0:Int) a s).bind fun(x0,x1,x2,x3,x4,x5,x6,x7,x8,x9,x10,x11,x12)=>ZsJ rec_ x0 x1 x2 x3 x4 x5 x6 x7 x8 x9 x10 x11 x12
 )
def ZpT (rec_:ZoK→ZnN→Int→Int→ZrS→Int→Int→ZnU→Int→Int→ZnB→Option (Out (ZoK×ZnN×Int×Int×ZrS×Int×Int) Bool)) (q:ZoK) (hits:ZnN) (e:Int) (n:Int) (t46:ZrS) (t47:Int) (t48:Int) (t53:ZnU) (t54:Int) (i:Int) (a:ZnB):Option (Out (ZoK×ZnN×Int×Int×ZrS×Int×Int) Bool):=
 bif (decide (i < t54))then (
  (idx t53 i).bind fun x_=>
  (ZpC x_).bind fun q_1=>
  (Zpc q q_1).bind fun(s,f)=>
  bif (f != 0)then (
   Zqm rec_ q hits e n i t46 t47 t48 t53 t54 i true a s
  )else (
   (ZnR 1).bind fun q_2=>
   (Zri s q_2).bind fun q_3=>
   Zqm rec_ q hits e n i t46 t47 t48 t53 t54 i (!q_3) a s
  )
 )else (
  some (.brk (q,hits,e,n,t46,t47,t48))
 )
def ZnW:Nat→ZoK→ZnN→Int→Int→ZrS→Int→Int→ZnU→Int→Int→ZnB→Option (Out (ZoK×ZnN×Int×Int×ZrS×Int×Int) Bool)
 |0,_,_,_,_,_,_,_,_,_,_,_=>none
 |n_+1,q,hits,e,n,t46,t47,t48,t53,t54,i,a=>ZpT (ZnW n_) q hits e n t46 t47 t48 t53 t54 i a
def Zvr (n:Nat) (s:(ZoK×ZnN×Int×Int×ZrS×Int×Int×ZnU×Int×Int×ZnB)):Option (Out (ZoK×ZnN×Int×Int×ZrS×Int×Int) Bool):=ZnW n s.1 s.2.1 s.2.2.1 s.2.2.2.1 s.2.2.2.2.1 s.2.2.2.2.2.1 s.2.2.2.2.2.2.1 s.2.2.2.2.2.2.2.1 s.2.2.2.2.2.2.2.2.1 s.2.2.2.2.2.2.2.2.2.1 s.2.2.2.2.2.2.2.2.2.2
def ZrN (rec_:(ZoK×ZnN×Int×Int×ZrS×Int×Int×ZnU×Int×Int×ZnB)→Option (Out (ZoK×ZnN×Int×Int×ZrS×Int×Int) Bool)) (s:(ZoK×ZnN×Int×Int×ZrS×Int×Int×ZnU×Int×Int×ZnB)):Option (Out (ZoK×ZnN×Int×Int×ZrS×Int×Int) Bool):=ZpT (fun q hits e n t46 t47 t48 t53 t54 i a=>rec_ (q,hits,e,n,t46,t47,t48,t53,t54,i,a)) s.1 s.2.1 s.2.2.1 s.2.2.2.1 s.2.2.2.2.1 s.2.2.2.2.2.1 s.2.2.2.2.2.2.1 s.2.2.2.2.2.2.2.1 s.2.2.2.2.2.2.2.2.1 s.2.2.2.2.2.2.2.2.2.1 s.2.2.2.2.2.2.2.2.2.2
theorem Zzr:∀n s,Zvr (n+1) s=ZrN (Zvr n) s:=fun _ _=>rfl
def ZpU (rec_:ZoK→ZnN→Int→Int→ZrS→Int→Int→Option (Out (ZnN×Int×Int) Bool)) (q:ZoK) (hits:ZnN) (e:Int) (n:Int) (t46:ZrS) (t47:Int) (t48:Int):Option (Out (ZnN×Int×Int) Bool):=
 bif (decide (t48 < t47))then (
  (idx t46 t48).bind fun a=>
  (ZnW big q hits e n t46 t47 t48 a.Columns (a.Columns.length:Int) (0:Int) a).bind fun
   | .ret q_=>some (.ret q_)
   | .brk (x0,x1,x2,x3,x4,x5,x6)=>ZsI rec_ x0 x1 x2 x3 x4 x5 x6
 )else (
  some (.brk (hits,e,n))
 )
def Zow:Nat→ZoK→ZnN→Int→Int→ZrS→Int→Int→Option (Out (ZnN×Int×Int) Bool)
 |0,_,_,_,_,_,_,_=>none
 |n_+1,q,hits,e,n,t46,t47,t48=>ZpU (Zow n_) q hits e n t46 t47 t48
def Zvs (n:Nat) (s:(ZoK×ZnN×Int×Int×ZrS×Int×Int)):Option (Out (ZnN×Int×Int) Bool):=Zow n s.1 s.2.1 s.2.2.1 s.2.2.2.1 s.2.2.2.2.1 s.2.2.2.2.2.1 s.2.2.2.2.2.2
def ZrO (rec_:(ZoK×ZnN×Int×Int×ZrS×Int×Int)→Option (Out (ZnN×Int×Int) Bool)) (s:(ZoK×ZnN×Int×Int×ZrS×Int×Int)):Option (Out (ZnN×Int×Int) Bool):=ZpU (fun q hits e n t46 t47 t48=>rec_ (q,hits,e,n,t46,t47,t48)) s.1 s.2.1 s.2.2.1 s.2.2.2.1 s.2.2.2.2.1 s.2.2.2.2.2.1 s.2.2.2.2.2.2
theorem Zzs:∀n s,Zvs (n+1) s=ZrO (Zvs n) s:=fun _ _=>rfl
def Zq3 (t:ZnG):Option Bool:=
 (Zwq t).bind fun q=>
 bif (!q)then (
  (Zq2).bind fun q_1=>
  some q_1
 )else (
  (ZwO t).bind fun d=>
  (Ztk d 4).bind fun(l,t26)=>
  (Zrm t26 6).bind fun(c,t28)=>
  (ZpC c).bind fun q_2=>
  chk (ZiZ (l.length+([(ZnB.mk 90 ([]:Str) ([(ZnO.mk ([115,97,109,101]:Str) c.Cells)]:ZnU))]:ZrS).length) 48) <|
  (ZzV (l++([(ZnB.mk 90 ([]:Str) ([(ZnO.mk ([115,97,109,101]:Str) c.Cells)]:ZnU))]:ZrS)) c 1024).bind fun(hits,e)=>
  (Zow big q_2 hits e (0:Int) (l++([(ZnB.mk 90 ([]:Str) ([(ZnO.mk ([115,97,109,101]:Str) c.Cells)]:ZnU))]:ZrS)) ((l++([(ZnB.mk 90 ([]:Str) ([(ZnO.mk ([115,97,109,101]:Str) c.Cells)]:ZnU))]:ZrS)).length:Int) (0:Int)).bind fun
   | .ret q_=>some q_
   | .brk (x0,x1,x2)=>ZsH x0 x1 x2
 )
end
end Go.Proofs

/- Printed by wip/tools/tgen.py: specs. -/
import Derived.Test.YtdmabekeafhflaaGreatDoorE5
import Derived.Lib.Bytealg
import Derived.Lib.LaidU8
import Derived.Lib.SlTrimSet
import Derived.Test.YtdmabekeafhflaaGreatDoorUfWD
set_option linter.unusedVariables false
set_option linter.unusedSimpArgs false
set_option linter.unusedSectionVars false
namespace Go.Proofs
open Go Eng
set_option maxRecDepth 100000
noncomputable section
structure ZoR where
 Null:Bool
 Text:Str
 deriving DecidableEq,Inhabited
structure ZoJ where
 Name:Str
 Cells:(List ZoR)
 deriving DecidableEq,Inhabited
structure ZoG where
 ID:Int
 Name:Str
 Columns:(List ZoJ)
 deriving DecidableEq,Inhabited
structure ZoL where
 Neg:Bool
 Words:(List Int)
 deriving DecidableEq,Inhabited
structure ZoF where
 Num:ZoL
 Den:ZoL
 deriving DecidableEq,Inhabited
structure ZoH where
 lo:Int
 hi:Int
 deriving DecidableEq,Inhabited
structure Zpy where
 word:Str
 canonical:(Option Nat)
 value:(Option Nat)
 deriving DecidableEq,Inhabited
structure ZoQ where
 e0:Int
 e1:Int
 deriving DecidableEq,Inhabited
structure Zqj where
 w_:(List (List ZoF))
 best:(List (ZoQ×ZoF))
 deriving DecidableEq,Inhabited
structure ZoM where
 l:(List Int)
 at_:Int
 deriving DecidableEq,Inhabited
structure Zqv where
 Table:Int
 Align:(List Int)
 Score:ZoF
 deriving DecidableEq,Inhabited
abbrev Ztp:Type:={l:List Int // l.length=256}
structure Zo2 where
 e0:ZoH
 e1:ZoH
 e2:ZoH
 e3:ZoH
 e4:ZoH
 e5:ZoH
 e6:ZoH
 e7:ZoH
 e8:ZoH
 e9:ZoH
 e10:ZoH
 e11:ZoH
 e12:ZoH
 e13:ZoH
 e14:ZoH
 e15:ZoH
 deriving DecidableEq,Inhabited
def Zvg:Nat→Type
 |0=>ZoR
 |1=>ZoJ
 |2=>ZoG
 |3=>ZoL
 |4=>ZoF
 |5=>ZoH
 |6=>Zpy
 |7=>ZoQ
 |8=>Zqj
 |9=>ZoM
 |10=>Zqv
 |11=>Ztp
 |12=>Zo2
 |_=>Unit
def ZMx:Nat→Nat
 |0=>2
 |1=>2
 |2=>3
 |3=>2
 |4=>4
 |5=>2
 |6=>3
 |7=>2
 |8=>2
 |9=>2
 |10=>6
 |11=>256
 |12=>32
 |_=>0
def ZBO:(n:Nat)→Zvg n→Zvg n→Bool
 |7,x,y=>x.e0 == y.e0&&x.e1 == y.e1
 |_,_,_=>false
def ZAW:List (Lf Zvg):=[⟨.sl (.int .u32),([1]:List Int)⟩]
def Zxv:List (Lf Zvg):=(Lib.firstTab.map fun n=>⟨.int .u8,n⟩)
def ZrO:List (Lf Zvg):=[⟨.int .u8,(128:Int)⟩,⟨.int .u8,(191:Int)⟩,⟨.int .u8,(160:Int)⟩,⟨.int .u8,(191:Int)⟩,⟨.int .u8,(128:Int)⟩,⟨.int .u8,(159:Int)⟩,⟨.int .u8,(144:Int)⟩,⟨.int .u8,(191:Int)⟩,⟨.int .u8,(128:Int)⟩,⟨.int .u8,(143:Int)⟩,⟨.int .u8,(0:Int)⟩,⟨.int .u8,(0:Int)⟩,⟨.int .u8,(0:Int)⟩,⟨.int .u8,(0:Int)⟩,⟨.int .u8,(0:Int)⟩,⟨.int .u8,(0:Int)⟩,⟨.int .u8,(0:Int)⟩,⟨.int .u8,(0:Int)⟩,⟨.int .u8,(0:Int)⟩,⟨.int .u8,(0:Int)⟩,⟨.int .u8,(0:Int)⟩,⟨.int .u8,(0:Int)⟩,⟨.int .u8,(0:Int)⟩,⟨.int .u8,(0:Int)⟩,⟨.int .u8,(0:Int)⟩,⟨.int .u8,(0:Int)⟩,⟨.int .u8,(0:Int)⟩,⟨.int .u8,(0:Int)⟩,⟨.int .u8,(0:Int)⟩,⟨.int .u8,(0:Int)⟩,⟨.int .u8,(0:Int)⟩,⟨.int .u8,(0:Int)⟩]
abbrev ZoI:Type:=List Int
abbrev Zq1:Type:=List ZoF
abbrev Zro:Type:=List ZoJ
abbrev Zx1:Type:=List Zqv
abbrev ZxL:Type:=List ZoR
abbrev ZyY:Type:=List Str
abbrev ZA8:Type:=List ZoG
abbrev ZMf:Type:=Option ((List Zq1)×Int×Int×(List Zq1)×Int×Int×Bool×Bool×(List (ZoQ×ZoF))×ZoI×ZoI×ZoI)
abbrev ZHw:Type:=Option ((List Zq1)×(List (ZoQ×ZoF))×Bool×Bool×ZoQ×ZoF×ZoI×ZoI)
abbrev ZJV:Type:=Option (Zro×Int×Int×ZoG×ZoG×Bool×Bool×(List Zq1)×Zq1×ZoI×ZoI)
abbrev ZMe:Type:=Option ((List Zq1)×Bool×Bool×(List (ZoQ×ZoF))×ZoI×ZoI×ZoI)
abbrev ZJU:Type:=Option (Int×Int×Int×Int×Int×ZoM×Int×Str×Str×Zro×ZxL)
abbrev ZEV:Type:=Option (Out (ZoI×ZoG×ZoG×Int×Str×Zro) (ZoG×Int))
abbrev ZI0:Type:=Option (ZoG×ZoG×Bool×Bool×(List Zq1)×ZoI×ZoI)
abbrev Tr_7:Type:=Option (ZoF×Bool×(List (ZoQ×ZoF)))
abbrev ZJT:Type:=Option (Bool×Str×ZoI×ZoI×Bool×Bool×ZoI×ZoI×ZoI)
abbrev ZEd:Type:=Option (ZoF×(List (ZoQ×ZoF)))
abbrev ZEU:Type:=Option (Nat×Nat×ZoI×Int×Int×Int×Int×ZoI)
abbrev ZET:Type:=Option (Bool×ZoI×ZoI×Bool×Bool×ZoI×ZoI)
abbrev ZES:Type:=Option (ZoI×Int×Int×ZoI×Int×Int×ZoI)
abbrev ZER:Type:=Option (Int×Str×Int×Str×Zro×Nat×Zro)
abbrev ZDH:Type:=Option (Int×Str×Int×Str×Zro×Zro×Nat)
abbrev ZDG:Type:=Option (Int×Int×Bool×Bool×ZoI×ZoI)
abbrev ZDF:Type:=Option (Nat×Nat×ZoI×Int×Int×ZoI)
abbrev ZEQ:Type:=Option (Nat×Nat×Int×Int×Int×ZoI)
abbrev ZEP:Type:=Option (Out ((List Zq1)×Int×Int) Int)
abbrev ZDE:Type:=Option (Int×Int×Int×Str×Zro)
abbrev ZEO:Type:=Option (ZoI×ZoF×Int)
abbrev ZEN:Type:=Option (Nat×Nat×ZoI×ZoI)
abbrev ZEM:Type:=Option (Int×Int×ZoI×ZoI)
abbrev ZEL:Type:=Option (ZyY×Str×Int×Int)
abbrev ZG2:Type:=Option (Int×Int×Int×Zx1)
abbrev ZDD:Type:=Option (ZoF×Bool)
abbrev ZBh:Type:=Option (ZoF×Int)
abbrev ZBQ:Type:=Option (Out (List Zq1) Int)
abbrev ZF0:Type:=Option (ZoG×Int)
abbrev ZDd:Type:=Option (ZoI×ZoI×Int)
abbrev ZBJ:Type:=Option (Nat×Nat×ZoI)
abbrev Zvy:Type:=Option (Out Unit Bool)
abbrev ZI4:Type:=Option (Out ZA8 Bool)
abbrev ZI3:Type:=Option (Out Unit Zx1)
abbrev ZxC:Type:=Option (Out Unit Int)
abbrev ZBg:Type:=Option (ZoI×ZoI)
abbrev ZEK:Type:=Option (Out Str Str)
abbrev ZI2:Type:=Option (Out Int Int)
abbrev ZI1:Type:=Option (Int×Bool)
abbrev ZDc:Type:=Option (ZoI×Int)
abbrev Zx9:Type:=Option (Int×ZoI)
abbrev ZDC:Type:=Option (Str×Bool)
abbrev ZG1:Type:=Option (Zx1×Int)
abbrev ZDb:Type:=Option (Int×Zx1)
abbrev ZEJ:Type:=Option (Int×Int)
abbrev Tf_0:Type:=(List Zq1)→Int→Int→Int→(List Zq1)→Int→Int→Int→Int→Bool→Bool→(List (ZoQ×ZoF))→ZoI→ZoF→ZoI→ZoI→ZMf
abbrev ZMU:Type:=(List Zq1)→Int→Int→Int→Int→(List (ZoQ×ZoF))→Bool→Bool→ZoQ→ZoF→ZoI→ZoI→ZHw
abbrev Tf_2:Type:=(List Zq1)→Int→(List Zq1)→Int→Int→Bool→Bool→(List (ZoQ×ZoF))→ZoI→ZoI→ZoI→ZMe
abbrev Tf_3:Type:=Zro→Int→Int→ZoG→ZoG→Bool→Bool→(List Zq1)→ZoI→ZoI→ZI0
abbrev Tf_4:Type:=ZoI→Int→Int→ZoG→Int→Str→Int→Str→Zro→Zro→Nat→ZDH
abbrev Tf_5:Type:=(ZoI×ZoI×Int×Int×ZoG×ZoG×Int×Str×Zro)→ZEV
abbrev Tf_6:Type:=Int→Int→Int→Int→Int→ZoM→Int→Str→Zro→ZDE
abbrev ZMg:Type:=ZoI→ZoI→Int→Int→ZoG→ZoG→Int→Str→Zro→ZEV
abbrev Tf_8:Type:=Int→Int→ZxL→Int→Int→Bool→Bool→ZoI→ZoI→ZDG
abbrev ZMT:Type:=Int→ZA8→Int→Int→ZoG→Zx1→ZDb
abbrev ZLf:Type:=Nat→Nat→ZoI→Int→Int→Int→ZoI→ZDF
abbrev ZLe:Type:=((List Zq1)×(List Zq1)×Int×Int)→ZBQ
abbrev ZLd:Type:=(ZoI×ZoI×Int×Int×ZoI)→Option ZoI
abbrev ZLc:Type:=(List Zq1)→(List Zq1)→Int→Int→ZBQ
abbrev ZG5:Type:=ZoI→ZoI→Int→Int→ZoI→Option ZoI
abbrev ZLb:Type:=ZyY→Int→ZyY→Int→Int→Option Int
abbrev ZLa:Type:=ZoI→ZoI→ZoI→Int→ZoI→ZBg
abbrev ZK9:Type:=ZoI→Int→Int→ZoI→Option ZoI
abbrev ZK8:Type:=Int→Int→Int→Zx1→Option Zx1
abbrev ZK7:Type:=Int→Int→Int→Int→Zx1→ZG2
abbrev ZK6:Type:=(List Zq1)→Int→Int→ZxC
abbrev ZG4:Type:=ZoI→ZoI→Int→ZDc
abbrev ZG3:Type:=ZoI→ZoI→Int→ZDd
abbrev ZF1:Type:=ZoI→Option ZoI
abbrev ZDe:Type:=Str→Zvy
def Zvr (t:ZoI):Option Bool:=
 some (decide ((t.length:Int)≤500))
def Zo0 (s:Str):Option Int:=
 (idx s 0).bind fun c=>
 (idx s 1).bind fun c_1=>
 chk (decide (0≤(8:Int))) <|
 (idx s 2).bind fun c_2=>
 chk (decide (0≤(16:Int))) <|
 (idx s 3).bind fun c_3=>
 chk (decide (0≤(24:Int))) <|
 (idx s 4).bind fun c_4=>
 chk (decide (0≤(32:Int))) <|
 (idx s 5).bind fun c_5=>
 chk (decide (0≤(40:Int))) <|
 (idx s 6).bind fun c_6=>
 chk (decide (0≤(48:Int))) <|
 (idx s 7).bind fun c_7=>
 chk (decide (0≤(56:Int))) <|
 some (orK .u64 (orK .u64 (orK .u64 (orK .u64 (orK .u64 (orK .u64 (orK .u64 (IntKind.wrap .u64 ((c.toNat:Nat):Int)) (shlK .u64 (IntKind.wrap .u64 ((c_1.toNat:Nat):Int)) 8)) (shlK .u64 (IntKind.wrap .u64 ((c_2.toNat:Nat):Int)) 16)) (shlK .u64 (IntKind.wrap .u64 ((c_3.toNat:Nat):Int)) 24)) (shlK .u64 (IntKind.wrap .u64 ((c_4.toNat:Nat):Int)) 32)) (shlK .u64 (IntKind.wrap .u64 ((c_5.toNat:Nat):Int)) 40)) (shlK .u64 (IntKind.wrap .u64 ((c_6.toNat:Nat):Int)) 48)) (shlK .u64 (IntKind.wrap .u64 ((c_7.toNat:Nat):Int)) 56))
def Zsv:Option Bool:=
 some true
def ZoX (rec_:ZDe) (s:Str) (t166:Bool):Zvy:=
 bif t166 then (
  some (.ret false)
 )else (
  chk (Zcp 4 (s.length:Int) (s.length:Int)) <|
  rec_ (s.drop ((4:Int)).toNat)
 )
def Zo5 (rec_:ZDe) (s:Str) (t125:Bool):Zvy:=
 bif t125 then (
  some (.ret false)
 )else (
  chk (Zcp 3 (s.length:Int) (s.length:Int)) <|
  rec_ (s.drop ((3:Int)).toNat)
 )
def Zpr (rec_:ZDe) (s:Str) (t94:Bool):Zvy:=
 bif t94 then (
  some (.ret false)
 )else (
  chk (Zcp 2 (s.length:Int) (s.length:Int)) <|
  rec_ (s.drop ((2:Int)).toNat)
 )
def ZpR (rec_:ZDe) (s:Str):Zvy:=
 rec_ s
def Zsw (rec_:ZDe) (s:Str):Zvy:=
 rec_ s
def ZqJ (rec_:Str→Option Str) (s:Str) (t62:Bool):Option Str:=
 bif t62 then (
  chk (Zcp 32 (s.length:Int) (s.length:Int)) <|
  rec_ (s.drop ((32:Int)).toNat)
 )else (
  some s
 )
def ZrP (rec_:Str→Option Str) (s:Str):Option Str:=
 bif (decide ((s.length:Int) > 32))then (
  (Zo0 s).bind fun q=>
  chk (Zcp 8 (s.length:Int) (s.length:Int)) <|
  (Zo0 (s.drop ((8:Int)).toNat)).bind fun q_1=>
  chk (Zcp 16 (s.length:Int) (s.length:Int)) <|
  (Zo0 (s.drop ((16:Int)).toNat)).bind fun q_2=>
  chk (Zcp 24 (s.length:Int) (s.length:Int)) <|
  (Zo0 (s.drop ((24:Int)).toNat)).bind fun q_3=>
  ZqJ rec_ s ((andK .u64 (orK .u64 (orK .u64 q q_1) (orK .u64 q_2 q_3)) 9259542123273814144) == 0)
 )else (
  ZqJ rec_ s false
 )
def Zpq:Nat→Str→Option Str
 |0,_=>none
 |n_+1,s=>ZrP (Zpq n_) s
def ZpS (rec_:ZDe) (s:Str) (t39:Bool):Zvy:=
 bif t39 then (
  chk (Zcp 16 (s.length:Int) (s.length:Int)) <|
  (Zpq big (s.drop ((16:Int)).toNat)).bind fun x0=>Zsw rec_ x0
 )else (
  ZpR rec_ s
 )
def ZpT (rec_:ZDe) (s:Str) (t24:Bool):Zvy:=
 bif t24 then (
  chk (Zcp 8 (s.length:Int) (s.length:Int)) <|
  bif (decide (((s.drop ((8:Int)).toNat).length:Int) > 16))then (
   (Zo0 (s.drop ((8:Int)).toNat)).bind fun q=>
   chk (Zcp 8 ((s.drop ((8:Int)).toNat).length:Int) ((s.drop ((8:Int)).toNat).length:Int)) <|
   (Zo0 ((s.drop ((8:Int)).toNat).drop ((8:Int)).toNat)).bind fun q_1=>
   ZpS rec_ (s.drop ((8:Int)).toNat) ((andK .u64 (orK .u64 q q_1) 9259542123273814144) == 0)
  )else (
   ZpS rec_ (s.drop ((8:Int)).toNat) false
  )
 )else (
  ZpR rec_ s
 )
def ZrQ (rec_:ZDe) (s:Str):Zvy:=
 bif (decide ((s.length:Int) > 0))then (
  (idx s 0).bind fun c=>
  bif (decide (((c.toNat:Nat):Int) < 128))then (
   chk (Zcp 1 (s.length:Int) (s.length:Int)) <|
   bif (decide (((s.drop ((1:Int)).toNat).length:Int) > 8))then (
    (Zo0 (s.drop ((1:Int)).toNat)).bind fun q=>
    ZpT rec_ (s.drop ((1:Int)).toNat) ((andK .u64 q 9259542123273814144) == 0)
   )else (
    ZpT rec_ (s.drop ((1:Int)).toNat) false
   )
  )else (
   chk (inR ((c.toNat:Nat):Int) 256) <|
   (tabB (car:=Zvg) (.int .u8) Zxv ((((c.toNat:Nat):Int)).toNat*1)).bind fun c_1=>
   chk (decide (0≤(4:Int))) <|
   chk (inR (shrK .u8 c_1 4) 16) <|
   (tabB (car:=Zvg) (.int .u8) ZrO (((shrK .u8 c_1 4)).toNat*2)).bind fun c_2=>
   (tabB (car:=Zvg) (.int .u8) ZrO (((shrK .u8 c_1 4)).toNat*2+1)).bind fun c_3=>
   bif ((IntKind.wrap .i64 (andK .u8 c_1 7)) == 2)then (
    bif (decide ((s.length:Int) < 2))then (
     Zpr rec_ s true
    )else (
     (idx s 1).bind fun c_4=>
     bif (decide (((c_4.toNat:Nat):Int) < c_2))then (
      Zpr rec_ s true
     )else (
      (idx s 1).bind fun c_5=>
      Zpr rec_ s (decide (c_3 < ((c_5.toNat:Nat):Int)))
     )
    )
   )else (
    bif ((IntKind.wrap .i64 (andK .u8 c_1 7)) == 3)then (
     bif (decide ((s.length:Int) < 3))then (
      Zo5 rec_ s true
     )else (
      (idx s 1).bind fun c_6=>
      bif (decide (((c_6.toNat:Nat):Int) < c_2))then (
       Zo5 rec_ s true
      )else (
       (idx s 1).bind fun c_7=>
       bif (decide (c_3 < ((c_7.toNat:Nat):Int)))then (
        Zo5 rec_ s true
       )else (
        (idx s 2).bind fun c_8=>
        bif (decide (((c_8.toNat:Nat):Int) < 128))then (
         Zo5 rec_ s true
        )else (
         (idx s 2).bind fun c_9=>
         Zo5 rec_ s (decide ((191:Int) < ((c_9.toNat:Nat):Int)))
        )
       )
      )
     )
    )else (
     bif ((IntKind.wrap .i64 (andK .u8 c_1 7)) == 4)then (
      bif (decide ((s.length:Int) < 4))then (
       ZoX rec_ s true
      )else (
       (idx s 1).bind fun c_10=>
       bif (decide (((c_10.toNat:Nat):Int) < c_2))then (
        ZoX rec_ s true
       )else (
        (idx s 1).bind fun c_11=>
        bif (decide (c_3 < ((c_11.toNat:Nat):Int)))then (
         ZoX rec_ s true
        )else (
         (idx s 2).bind fun c_12=>
         bif (decide (((c_12.toNat:Nat):Int) < 128))then (
          ZoX rec_ s true
         )else (
          (idx s 2).bind fun c_13=>
          bif (decide ((191:Int) < ((c_13.toNat:Nat):Int)))then (
           ZoX rec_ s true
          )else (
           (idx s 3).bind fun c_14=>
           bif (decide (((c_14.toNat:Nat):Int) < 128))then (
            ZoX rec_ s true
           )else (
            (idx s 3).bind fun c_15=>
            ZoX rec_ s (decide ((191:Int) < ((c_15.toNat:Nat):Int)))
           )
          )
         )
        )
       )
      )
     )else (
      some (.ret false)
     )
    )
   )
  )
 )else (
  some (.brk ())
 )
def ZoV:Nat→Str→Zvy
 |0,_=>none
 |n_+1,s=>ZrQ (ZoV n_) s
def ZpK (s:Str):Option Bool:=
 (ZoV big s).bind fun
  | .ret q_=>some q_
  | .brk ()=>Zsv
def ZzL (s:Str):Option Bool:=
 (ZpK s).bind fun q=>
 some q
def Zw8 (t2:Bool):Option Bool:=
 some t2
def Zw4 (s:Str):Option Bool:=
 bif (decide ((s.length:Int)≤1024))then (
  (ZzL s).bind fun q=>
  Zw8 q
 )else (
  Zw8 false
 )
def ZuT (t:ZoG):Option Int:=
 bif ((t.Columns.length:Int) == 0)then (
  some (0:Int)
 )else (
  (idx t.Columns 0).bind fun Column=>
  some (Column.Cells.length:Int)
 )
def ZsF (t2:Bool):Option Bool:=
 some t2
def Zwg (c:ZoR):Option Bool:=
 (Zw4 c.Text).bind fun q=>
 bif q then (
  bif c.Null then (
   ZsF (!(!(c.Text == ([]:Str))))
  )else (
   ZsF true
  )
 )else (
  ZsF false
 )
def Zug:Option Bool:=
 some true
def Zq9 (rec_:ZxL→Int→Int→Zvy) (t7:ZxL) (t8:Int) (t9:Int):Zvy:=
 bif (decide (t9 < t8))then (
  (idx t7 t9).bind fun x_=>
  (Zwg x_).bind fun q=>
  bif (!q)then (
   some (.ret false)
  )else (
   chk (inK .i64 (t9+1)) <|
   rec_ t7 t8 (t9+1)
  )
 )else (
  some (.brk ())
 )
def Zr5:Nat→ZxL→Int→Int→Zvy
 |0,_,_,_=>none
 |n_+1,t7,t8,t9=>Zq9 (Zr5 n_) t7 t8 t9
def Ztz (l:ZxL):Option Bool:=
 (Zr5 big l (l.length:Int) (0:Int)).bind fun
  | .ret q_=>some q_
  | .brk ()=>Zug
def ZtR (t3:Bool):Option Bool:=
 some t3
def Zw9 (c:ZoJ) (a1:ZoG):Option Bool:=
 (Zw4 c.Name).bind fun q=>
 bif (!q)then (
  ZtR true
 )else (
  (ZuT a1).bind fun q_1=>
  bif ((c.Cells.length:Int) != q_1)then (
   ZtR true
  )else (
   (Ztz c.Cells).bind fun q_2=>
   ZtR (!q_2)
  )
 )
def ZpO:Option Int:=
 some (-1:Int)
def ZpE (rec_:Zro→ZoG→Int→Int→ZxC) (s:Zro) (f:ZoG) (t7:Int) (i:Int):ZxC:=
 bif (decide (i < t7))then (
  (idx s i).bind fun s_e=>
  (Zw9 s_e f).bind fun q=>
  bif q then (
   some (.ret i)
  )else (
   chk (inK .i64 (i+1)) <|
   rec_ s f t7 (i+1)
  )
 )else (
  some (.brk ())
 )
def Zpd:Nat→Zro→ZoG→Int→Int→ZxC
 |0,_,_,_,_=>none
 |n_+1,s,f,t7,i=>ZpE (Zpd n_) s f t7 i
def Zp1 (s:Zro) (c:ZoG):Option Int:=
 (Zpd big s c (s.length:Int) (0:Int)).bind fun
  | .ret q_=>some q_
  | .brk ()=>ZpO
def Zpe (s:Zro) (c:ZoG):Option Bool:=
 (Zp1 s c).bind fun q=>
 some (decide (q≥0))
def Zsz (t27:Bool) (t:ZoG):Option Bool:=
 bif t27 then (
  some false
 )else (
  (Zpe t.Columns t).bind fun q=>
  some (!q)
 )
def ZqO (t:ZoG):Option Bool:=
 bif (decide (t.ID < 0))then (
  Zsz true t
 )else (
  bif (decide (t.ID > 1073741824))then (
   Zsz true t
  )else (
   (Zw4 t.Name).bind fun q=>
   bif (!q)then (
    Zsz true t
   )else (
    bif (decide ((t.Columns.length:Int) > 64))then (
     Zsz true t
    )else (
     (ZuT t).bind fun q_1=>
     Zsz (decide (q_1 > 4096)) t
    )
   )
  )
 )
def ZsA (c:ZoJ):Option ZyY:=
 ZBT (chk (decide (c.Cells.length≤1099511627776)) <| some (Zxx ((c.Cells.filter fun x=> !x.Null).map fun x=>x.Text)))
def ZvJ (x_:Str):Option Bool:=
 some (!(x_ == x_))
def ZsK (t4:Bool):Option Bool:=
 some t4
def Zwn (x_:Str) (y:Str):Option Bool:=
 (ZvJ x_).bind fun q=>
 bif q then (
  (ZvJ y).bind fun q_1=>
  bif (!q_1)then (
   ZsK true
  )else (
   ZsK (Op.bytesLess x_ y)
  )
 )else (
  ZsK (Op.bytesLess x_ y)
 )
def ZtT (x_:Str):Option Bool:=
 some (!(x_ == x_))
def Zo3 (t4:Int) (t5:Bool):ZI1:=
 some (t4,t5)
def Zqm (x_:ZyY) (target:Str) (n:Int) (i:Int):ZI1:=
 bif (decide (i < n))then (
  (idx x_ i).bind fun x__e=>
  bif (x__e == target)then (
   Zo3 i true
  )else (
   (idx x_ i).bind fun x__e_1=>
   (ZtT x__e_1).bind fun q=>
   bif q then (
    (ZtT target).bind fun q_1=>
    Zo3 i q_1
   )else (
    Zo3 i false
   )
  )
 )else (
  Zo3 i false
 )
def Zp2 (rec_:ZyY→Str→Int→Int→Int→ZEL) (x_:ZyY) (target:Str) (n:Int) (i:Int) (j:Int):ZEL:=
 bif (decide (i < j))then (
  chk (inK .i64 (i+j)) <|
  chk (decide (0≤(1:Int))) <|
  (idx x_ (IntKind.wrap .i64 (shrK .u64 (IntKind.wrap .u64 (i+j)) 1))).bind fun x__e=>
  (Zwn x__e target).bind fun q=>
  bif q then (
   chk (inK .i64 ((IntKind.wrap .i64 (shrK .u64 (IntKind.wrap .u64 (i+j)) 1))+1)) <|
   rec_ x_ target n ((IntKind.wrap .i64 (shrK .u64 (IntKind.wrap .u64 (i+j)) 1))+1) j
  )else (
   rec_ x_ target n i (IntKind.wrap .i64 (shrK .u64 (IntKind.wrap .u64 (i+j)) 1))
  )
 )else (
  some (x_,target,n,i)
 )
def Zpv:Nat→ZyY→Str→Int→Int→Int→ZEL
 |0,_,_,_,_,_=>none
 |n_+1,x_,target,n,i,j=>Zp2 (Zpv n_) x_ target n i j
def ZrW (n:Nat) (s:(ZyY×Str×Int×Int×Int)):ZEL:=Zpv n s.1 s.2.1 s.2.2.1 s.2.2.2.1 s.2.2.2.2
def ZrX (rec_:(ZyY×Str×Int×Int×Int)→ZEL) (s:(ZyY×Str×Int×Int×Int)):ZEL:=Zp2 (fun x_ target n i j=>rec_ (x_,target,n,i,j)) s.1 s.2.1 s.2.2.1 s.2.2.2.1 s.2.2.2.2
theorem Zvt:∀n s,ZrW (n+1) s=ZrX (ZrW n) s:=fun _ _=>rfl
def ZpP (x_:ZyY) (target:Str):ZI1:=
 (Zpv big x_ target (x_.length:Int) (0:Int) (x_.length:Int)).bind fun(x0,x1,x2,x3)=>Zqm x0 x1 x2 x3
def Zvu (n:Int):Option Int:=
 some n
def ZtB (rec_:ZLb) (b:ZyY) (n:Int) (t10:ZyY) (t11:Int) (t12:Int):Option Int:=
 chk (inK .i64 (t12+1)) <|
 rec_ b n t10 t11 (t12+1)
def Zsq (rec_:ZLb) (b:ZyY) (n:Int) (t10:ZyY) (t11:Int) (t12:Int):Option Int:=
 bif (decide (t12 < t11))then (
  (idx t10 t12).bind fun s=>
  (ZpP b s).bind fun(q,ok)=>
  bif ok then (
   chk (inK .i64 (n+1)) <|
   ZtB rec_ b (n+1) t10 t11 t12
  )else (
   ZtB rec_ b n t10 t11 t12
  )
 )else (
  some n
 )
def ZrL:Nat→ZyY→Int→ZyY→Int→Int→Option Int
 |0,_,_,_,_,_=>none
 |n_+1,b,n,t10,t11,t12=>Zsq (ZrL n_) b n t10 t11 t12
def Zw5 (n:Nat) (s:(ZyY×Int×ZyY×Int×Int)):Option Int:=ZrL n s.1 s.2.1 s.2.2.1 s.2.2.2.1 s.2.2.2.2
def ZuI (rec_:(ZyY×Int×ZyY×Int×Int)→Option Int) (s:(ZyY×Int×ZyY×Int×Int)):Option Int:=Zsq (fun b n t10 t11 t12=>rec_ (b,n,t10,t11,t12)) s.1 s.2.1 s.2.2.1 s.2.2.2.1 s.2.2.2.2
theorem ZyS:∀n s,Zw5 (n+1) s=ZuI (Zw5 n) s:=fun _ _=>rfl
def ZuX (a:ZyY) (b:ZyY):Option Int:=
 (ZrL big b (0:Int) a (a.length:Int) (0:Int)).bind fun x0=>Zvu x0
def Zv2 (w_:ZoI):Option ZoI:=
 some w_
def ZtW (rec_:ZF1) (w_:ZoI) (t14:Bool):Option ZoI:=
 bif t14 then (
  chk (inK .i64 ((w_.length:Int) - 1)) <|
  chk (Zcp 0 ((w_.length:Int) - 1) (w_.length:Int)) <|
  rec_ (w_.take (((w_.length:Int) - 1)).toNat)
 )else (
  some w_
 )
def ZsS (rec_:ZF1) (w_:ZoI):Option ZoI:=
 bif (decide ((w_.length:Int) > 0))then (
  chk (inK .i64 ((w_.length:Int) - 1)) <|
  (idx w_ ((w_.length:Int) - 1)).bind fun w__e=>
  ZtW rec_ w_ (w__e == 0)
 )else (
  ZtW rec_ w_ false
 )
def ZpJ:Nat→ZoI→Option ZoI
 |0,_=>none
 |n_+1,w_=>ZsS (ZpJ n_) w_
def Zxg (n:Nat) (s:ZoI):Option ZoI:=ZpJ n s
def Zxh (rec_:ZF1) (s:ZoI):Option ZoI:=ZsS (fun w_=>rec_ w_) s
theorem Zy5:∀n s,Zxg (n+1) s=Zxh (Zxg n) s:=fun _ _=>rfl
def Zo9 (w_:ZoI):Option ZoI:=
 (ZpJ big w_).bind fun x0=>Zv2 x0
def Zst (n:Int):Option ZoI:=
 chk (decide (0≤(32:Int))) <|
 (Zo9 ([(IntKind.wrap .u32 n),(IntKind.wrap .u32 (shrK .u64 n 32))]:ZoI)).bind fun q=>
 some q
def Zuz (t4:Bool) (t4_1:ZoI):Option ZoL:=
 some (ZoL.mk t4 t4_1)
def Zph (neg:Bool) (w_:ZoI):Option ZoL:=
 bif neg then (
  chk (ZjC w_.length 4) <|
  Zuz (decide ((w_.length:Int) > 0)) w_
 )else (
  chk (ZjC w_.length 4) <|
  Zuz false w_
 )
def ZtZ (n:Int):Option ZoL:=
 bif (decide (n < 0))then (
  (Zst (IntKind.wrap .u64 (0 - (IntKind.wrap .u64 n)))).bind fun q=>
  (Zph true q).bind fun q_1=>
  some q_1
 )else (
  (Zst (IntKind.wrap .u64 n)).bind fun q_2=>
  (Zph false q_2).bind fun q_3=>
  some q_3
 )
def Zpx (t2:Bool):Option Bool:=
 some t2
def Ztm (a:ZoL):Option Bool:=
 bif (decide ((a.Words.length:Int)≤256))then (
  bif ((a.Words.length:Int) == 0)then (
   bif (!a.Neg)then (
    Zpx true
   )else (
    bif (decide ((a.Words.length:Int) > 0))then (
     chk (inK .i64 ((a.Words.length:Int) - 1)) <|
     (idx a.Words ((a.Words.length:Int) - 1)).bind fun Word=>
     Zpx (Word != 0)
    )else (
     Zpx false
    )
   )
  )else (
   bif (decide ((a.Words.length:Int) > 0))then (
    chk (inK .i64 ((a.Words.length:Int) - 1)) <|
    (idx a.Words ((a.Words.length:Int) - 1)).bind fun Word_1=>
    Zpx (Word_1 != 0)
   )else (
    Zpx false
   )
  )
 )else (
  Zpx false
 )
def ZyH:Option Bool:=
 some true
def ZuA (rec_:(List ZoL)→Int→Int→Zvy) (t5:(List ZoL)) (t6:Int) (t7:Int):Zvy:=
 bif (decide (t7 < t6))then (
  (idx t5 t7).bind fun a=>
  (Ztm a).bind fun q=>
  bif (!q)then (
   some (.ret false)
  )else (
   chk (inK .i64 (t7+1)) <|
   rec_ t5 t6 (t7+1)
  )
 )else (
  some (.brk ())
 )
def ZvI:Nat→(List ZoL)→Int→Int→Zvy
 |0,_,_,_=>none
 |n_+1,t5,t6,t7=>ZuA (ZvI n_) t5 t6 t7
def Zyb (n:Nat) (s:((List ZoL)×Int×Int)):Zvy:=ZvI n s.1 s.2.1 s.2.2
def ZwC (rec_:((List ZoL)×Int×Int)→Zvy) (s:((List ZoL)×Int×Int)):Zvy:=ZuA (fun t5 t6 t7=>rec_ (t5,t6,t7)) s.1 s.2.1 s.2.2
theorem ZzP:∀n s,Zyb (n+1) s=ZwC (Zyb n) s:=fun _ _=>rfl
def Zv6 (l:(List ZoL)):Option Bool:=
 (ZvI big l (l.length:Int) (0:Int)).bind fun
  | .ret q_=>some q_
  | .brk ()=>ZyH
def Zxn (x_:Int):Option Bool:=
 some (x_ != x_)
def ZuO (x_:Int) (y:Int):Option Int:=
 (Zxn x_).bind fun xNaN=>
 (Zxn y).bind fun yNaN=>
 bif xNaN then (
  bif yNaN then (
   some (0:Int)
  )else (
   some (-1:Int)
  )
 )else (
  bif yNaN then (
   some (1:Int)
  )else (
   bif (decide (x_ < y))then (
    some (-1:Int)
   )else (
    bif (decide (x_ > y))then (
     some (1:Int)
    )else (
     some (0:Int)
    )
   )
  )
 )
def Zxm (x_:Int):Option Bool:=
 some (x_ != x_)
def ZwE (x_:Int) (y:Int):Option Int:=
 (Zxm x_).bind fun xNaN=>
 (Zxm y).bind fun yNaN=>
 bif xNaN then (
  bif yNaN then (
   some (0:Int)
  )else (
   some (-1:Int)
  )
 )else (
  bif yNaN then (
   some (1:Int)
  )else (
   bif (decide (x_ < y))then (
    some (-1:Int)
   )else (
    bif (decide (x_ > y))then (
     some (1:Int)
    )else (
     some (0:Int)
    )
   )
  )
 )
def Ztj:Option Int:=
 some (0:Int)
def ZqQ (rec_:ZoI→ZoI→Int→ZxC) (w_:ZoI) (v_:ZoI) (i:Int):ZxC:=
 bif (decide (i≥0))then (
  (idx w_ i).bind fun w__e=>
  (idx v_ i).bind fun v__e=>
  (ZwE w__e v__e).bind fun c=>
  bif (c != 0)then (
   some (.ret c)
  )else (
   chk (inK .i64 (i - 1)) <|
   rec_ w_ v_ (i - 1)
  )
 )else (
  some (.brk ())
 )
def Zri:Nat→ZoI→ZoI→Int→ZxC
 |0,_,_,_=>none
 |n_+1,w_,v_,i=>ZqQ (Zri n_) w_ v_ i
def Zvd (n:Nat) (s:(ZoI×ZoI×Int)):ZxC:=Zri n s.1 s.2.1 s.2.2
def ZsC (rec_:(ZoI×ZoI×Int)→ZxC) (s:(ZoI×ZoI×Int)):ZxC:=ZqQ (fun w_ v_ i=>rec_ (w_,v_,i)) s.1 s.2.1 s.2.2
theorem ZxS:∀n s,Zvd (n+1) s=ZsC (Zvd n) s:=fun _ _=>rfl
def ZpF (w_:ZoI) (v_:ZoI):Option Int:=
 (ZuO (w_.length:Int) (v_.length:Int)).bind fun c=>
 bif (c != 0)then (
  some c
 )else (
  chk (inK .i64 ((w_.length:Int) - 1)) <|
  (Zri big w_ v_ ((w_.length:Int) - 1)).bind fun
   | .ret q_=>some q_
   | .brk ()=>Ztj
 )
def ZoT (s:ZoI) (t4:Bool):Option ZoI:=
 bif t4 then (
  some ([]:ZoI)
 )else (
  chk (ZjC (([]:ZoI).length+s.length) 4) <|
  some (([]:ZoI)++s)
 )
def ZpH (s:ZoI):Option ZoI:=
 bif (List.isEmpty s)then agree (
  ZoT s true
 ) (
  ZoT s false
 )else (
  ZoT s false
 )
def ZsI (hi:Int) (lo:Int) (y:Int) (t15:Bool):ZEJ:=
 bif t15 then (
  none
 )else (
  chk (decide (0≤(32:Int))) <|
  chk (decide ((IntKind.wrap .u64 y)≠0)) <|
  chk (decide ((IntKind.wrap .u64 y)≠0)) <|
  some ((IntKind.wrap .u32 (IntKind.wrap .u64 (Int.tdiv (orK .u64 (shlK .u64 (IntKind.wrap .u64 hi) 32) (IntKind.wrap .u64 lo)) (IntKind.wrap .u64 y)))),(IntKind.wrap .u32 (Int.tmod (orK .u64 (shlK .u64 (IntKind.wrap .u64 hi) 32) (IntKind.wrap .u64 lo)) (IntKind.wrap .u64 y))))
 )
def Zwl (hi:Int) (lo:Int) (y:Int):ZEJ:=
 bif (y != 0)then (
  ZsI hi lo y (decide (y≤hi))
 )else (
  ZsI hi lo y false
 )
def Zuk (rest:Int) (out:ZoI):ZDc:=
 (Zo9 out).bind fun q=>
 some (q,rest)
def Zrf (rec_:ZoI→Int→Int→Int→ZoI→Zx9) (w_:ZoI) (d:Int) (rest:Int) (i:Int) (out:ZoI):Zx9:=
 bif (decide (i≥0))then (
  (idx w_ i).bind fun w__e=>
  (Zwl rest w__e d).bind fun(q,rest_1)=>
  chk (inR i (out.length:Int)) <|
  chk (inK .i64 (i - 1)) <|
  rec_ w_ d rest_1 (i - 1) (out.set ((i).toNat) q)
 )else (
  some (rest,out)
 )
def Zr8:Nat→ZoI→Int→Int→Int→ZoI→Zx9
 |0,_,_,_,_,_=>none
 |n_+1,w_,d,rest,i,out=>Zrf (Zr8 n_) w_ d rest i out
def ZvZ (n:Nat) (s:(ZoI×Int×Int×Int×ZoI)):Zx9:=Zr8 n s.1 s.2.1 s.2.2.1 s.2.2.2.1 s.2.2.2.2
def Ztg (rec_:(ZoI×Int×Int×Int×ZoI)→Zx9) (s:(ZoI×Int×Int×Int×ZoI)):Zx9:=Zrf (fun w_ d rest i out=>rec_ (w_,d,rest,i,out)) s.1 s.2.1 s.2.2.1 s.2.2.2.1 s.2.2.2.2
theorem Zyo:∀n s,ZvZ (n+1) s=Ztg (ZvZ n) s:=fun _ _=>rfl
def ZtC (w_:ZoI) (d:Int):ZDc:=
 chk (mkOk (w_.length:Int) (w_.length:Int) 4) <|
 chk (inK .i64 ((w_.length:Int) - 1)) <|
 (Zr8 big w_ d (0:Int) ((w_.length:Int) - 1) (List.replicate ((w_.length:Int)).toNat (0:Int))).bind fun(x0,x1)=>Zuk x0 x1
def Zrm (x_:Int) (n:Int):Option Int:=
 (idx ([0,1,2,2,3,3,3,3,4,4,4,4,4,4,4,4,5,5,5,5,5,5,5,5,5,5,5,5,5,5,5,5,6,6,6,6,6,6,6,6,6,6,6,6,6,6,6,6,6,6,6,6,6,6,6,6,6,6,6,6,6,6,6,6,7,7,7,7,7,7,7,7,7,7,7,7,7,7,7,7,7,7,7,7,7,7,7,7,7,7,7,7,7,7,7,7,7,7,7,7,7,7,7,7,7,7,7,7,7,7,7,7,7,7,7,7,7,7,7,7,7,7,7,7,7,7,7,7,8,8,8,8,8,8,8,8,8,8,8,8,8,8,8,8,8,8,8,8,8,8,8,8,8,8,8,8,8,8,8,8,8,8,8,8,8,8,8,8,8,8,8,8,8,8,8,8,8,8,8,8,8,8,8,8,8,8,8,8,8,8,8,8,8,8,8,8,8,8,8,8,8,8,8,8,8,8,8,8,8,8,8,8,8,8,8,8,8,8,8,8,8,8,8,8,8,8,8,8,8,8,8,8,8,8,8,8,8,8,8,8,8,8,8,8,8,8,8,8,8,8,8,8,8,8,8,8]:Str) (IntKind.wrap .u8 x_)).bind fun c=>
 chk (inK .i64 (n+(IntKind.wrap .i64 ((c.toNat:Nat):Int)))) <|
 some (n+(IntKind.wrap .i64 ((c.toNat:Nat):Int)))
def Zux (x_:Int) (n:Int):Option Int:=
 bif (decide (x_≥256))then (
  chk (decide (0≤(8:Int))) <|
  chk (inK .i64 (n+8)) <|
  Zrm (shrK .u32 x_ 8) (n+8)
 )else (
  Zrm x_ n
 )
def Zwk (x_:Int):Option Int:=
 bif (decide (x_≥65536))then (
  chk (decide (0≤(16:Int))) <|
  Zux (shrK .u32 x_ 16) (16:Int)
 )else (
  Zux x_ (0:Int)
 )
def Zrw (x_:Int):Option Int:=
 (Zwk x_).bind fun q=>
 chk (inK .i64 (32 - q)) <|
 some (32 - q)
def Zth (out:ZoI):Option ZoI:=
 some out
def ZqP (rec_:Int→ZoI→Int→Int→ZoI→Option ZoI) (n:Int) (t13:ZoI) (t14:Int) (i:Int) (out:ZoI):Option ZoI:=
 bif (decide (i < t14))then (
  (idx t13 i).bind fun d=>
  chk (decide (0≤n)) <|
  chk (inR i (out.length:Int)) <|
  (out[(i).toNat]?).bind fun out_e=>
  chk (inR i (out.length:Int)) <|
  chk (inK .i64 (i+1)) <|
  chk (decide (0≤(32:Int))) <|
  chk (inR (i+1) ((out.set ((i).toNat) (orK .u32 out_e (IntKind.wrap .u32 (shlK .u64 (IntKind.wrap .u64 d) n)))).length:Int)) <|
  chk (inK .i64 (i+1)) <|
  rec_ n t13 t14 (i+1) ((out.set ((i).toNat) (orK .u32 out_e (IntKind.wrap .u32 (shlK .u64 (IntKind.wrap .u64 d) n)))).set (((i+1)).toNat) (IntKind.wrap .u32 (shrK .u64 (shlK .u64 (IntKind.wrap .u64 d) n) 32)))
 )else (
  some out
 )
def Zrg:Nat→Int→ZoI→Int→Int→ZoI→Option ZoI
 |0,_,_,_,_,_=>none
 |n_+1,n,t13,t14,i,out=>ZqP (Zrg n_) n t13 t14 i out
def Zvc (n:Nat) (s:(Int×ZoI×Int×Int×ZoI)):Option ZoI:=Zrg n s.1 s.2.1 s.2.2.1 s.2.2.2.1 s.2.2.2.2
def ZsB (rec_:(Int×ZoI×Int×Int×ZoI)→Option ZoI) (s:(Int×ZoI×Int×Int×ZoI)):Option ZoI:=ZqP (fun n t13 t14 i out=>rec_ (n,t13,t14,i,out)) s.1 s.2.1 s.2.2.1 s.2.2.2.1 s.2.2.2.2
theorem ZxR:∀n s,Zvc (n+1) s=ZsB (Zvc n) s:=fun _ _=>rfl
def Zp4 (w_:ZoI) (n:Int):Option ZoI:=
 chk (inK .i64 ((w_.length:Int)+1)) <|
 chk (mkOk ((w_.length:Int)+1) ((w_.length:Int)+1) 4) <|
 (Zrg big n w_ (w_.length:Int) (0:Int) (List.replicate (((w_.length:Int)+1)).toNat (0:Int))).bind fun x0=>Zth x0
def Zs3 (x_:Int) (y:Int) (borrow:Int):ZEJ:=
 chk (decide (0≤(31:Int))) <|
 some ((IntKind.wrap .u32 ((IntKind.wrap .u32 (x_ - y)) - borrow)),(shrK .u32 (orK .u32 (andK .u32 (xorK .u32 (if IntKind.signed .u32 then -1 else IntKind.max .u32) x_) y) (andK .u32 (xorK .u32 (if IntKind.signed .u32 then -1 else IntKind.max .u32) (xorK .u32 x_ y)) (IntKind.wrap .u32 ((IntKind.wrap .u32 (x_ - y)) - borrow)))) 31))
def ZuJ (x_:Int) (y:Int) (carry:Int):ZEJ:=
 chk (decide (0≤(32:Int))) <|
 some ((IntKind.wrap .u32 (IntKind.wrap .u64 ((IntKind.wrap .u64 ((IntKind.wrap .u64 x_)+(IntKind.wrap .u64 y)))+(IntKind.wrap .u64 carry)))),(IntKind.wrap .u32 (shrK .u64 (IntKind.wrap .u64 ((IntKind.wrap .u64 ((IntKind.wrap .u64 x_)+(IntKind.wrap .u64 y)))+(IntKind.wrap .u64 carry))) 32)))
def Zu2 (u_off:Nat) (u_len:Nat) (n:Int) (guess:Int) (add:Int) (u:ZoI):Zx9:=
 chk (inR n (u_len:Int)) <|
 (u[(u_off+(n).toNat)]?).bind fun u_e=>
 chk (inR n (u_len:Int)) <|
 some ((IntKind.wrap .u32 (IntKind.wrap .u64 (guess - 1))),(u.set (u_off+(n).toNat) (IntKind.wrap .u32 (u_e+add))))
def ZtX (rec_:Nat→Nat→Int→Int→Int→ZoI→Int→Int→ZoI→ZEQ) (u_off:Nat) (u_len:Nat) (n:Int) (guess:Int) (add:Int) (t130:ZoI) (t131:Int) (i:Int) (u:ZoI):ZEQ:=
 bif (decide (i < t131))then (
  (idx t130 i).bind fun x_=>
  chk (inR i (u_len:Int)) <|
  (u[(u_off+(i).toNat)]?).bind fun u_e=>
  (ZuJ u_e x_ add).bind fun(q,add_1)=>
  chk (inR i (u_len:Int)) <|
  chk (inK .i64 (i+1)) <|
  rec_ u_off u_len n guess add_1 t130 t131 (i+1) (u.set (u_off+(i).toNat) q)
 )else (
  some (u_off,u_len,n,guess,add,u)
 )
def Ztk:Nat→Nat→Nat→Int→Int→Int→ZoI→Int→Int→ZoI→ZEQ
 |0,_,_,_,_,_,_,_,_,_=>none
 |n_+1,u_off,u_len,n,guess,add,t130,t131,i,u=>ZtX (Ztk n_) u_off u_len n guess add t130 t131 i u
def ZxT (n:Nat) (s:(Nat×Nat×Int×Int×Int×ZoI×Int×Int×ZoI)):ZEQ:=Ztk n s.1 s.2.1 s.2.2.1 s.2.2.2.1 s.2.2.2.2.1 s.2.2.2.2.2.1 s.2.2.2.2.2.2.1 s.2.2.2.2.2.2.2.1 s.2.2.2.2.2.2.2.2
def Zv3 (rec_:(Nat×Nat×Int×Int×Int×ZoI×Int×Int×ZoI)→ZEQ) (s:(Nat×Nat×Int×Int×Int×ZoI×Int×Int×ZoI)):ZEQ:=ZtX (fun u_off u_len n guess add t130 t131 i u=>rec_ (u_off,u_len,n,guess,add,t130,t131,i,u)) s.1 s.2.1 s.2.2.1 s.2.2.2.1 s.2.2.2.2.1 s.2.2.2.2.2.1 s.2.2.2.2.2.2.1 s.2.2.2.2.2.2.2.1 s.2.2.2.2.2.2.2.2
theorem ZzD:∀n s,ZxT (n+1) s=Zv3 (ZxT n) s:=fun _ _=>rfl
def ZwX (u_off:Nat) (u_len:Nat) (d:ZoI) (n:Int) (guess:Int) (borrow:Int) (carry:Int) (u:ZoI):Zx9:=
 chk (inR n (u_len:Int)) <|
 (u[(u_off+(n).toNat)]?).bind fun u_e=>
 (Zs3 u_e (IntKind.wrap .u32 carry) borrow).bind fun(q,borrow_1)=>
 chk (inR n (u_len:Int)) <|
 bif (borrow_1 == 0)then (
  some ((IntKind.wrap .u32 guess),(u.set (u_off+(n).toNat) q))
 )else (
  (Ztk big u_off u_len n guess (0:Int) d (d.length:Int) (0:Int) (u.set (u_off+(n).toNat) q)).bind fun(x0,x1,x2,x3,x4,x5)=>Zu2 x0 x1 x2 x3 x4 x5
 )
def ZtY (rec_:Nat→Nat→ZoI→Int→Int→Int→Int→ZoI→Int→Int→ZoI→ZEU) (u_off:Nat) (u_len:Nat) (d:ZoI) (n:Int) (guess:Int) (borrow:Int) (carry:Int) (t82:ZoI) (t83:Int) (i:Int) (u:ZoI):ZEU:=
 bif (decide (i < t83))then (
  (idx t82 i).bind fun x_=>
  chk (inR i (u_len:Int)) <|
  (u[(u_off+(i).toNat)]?).bind fun u_e=>
  (Zs3 u_e (IntKind.wrap .u32 (IntKind.wrap .u64 (carry+(IntKind.wrap .u64 (guess*(IntKind.wrap .u64 x_)))))) borrow).bind fun(q,borrow_1)=>
  chk (inR i (u_len:Int)) <|
  chk (decide (0≤(32:Int))) <|
  chk (inK .i64 (i+1)) <|
  rec_ u_off u_len d n guess borrow_1 (shrK .u64 (IntKind.wrap .u64 (carry+(IntKind.wrap .u64 (guess*(IntKind.wrap .u64 x_))))) 32) t82 t83 (i+1) (u.set (u_off+(i).toNat) q)
 )else (
  some (u_off,u_len,d,n,guess,borrow,carry,u)
 )
def Zu1:Nat→Nat→Nat→ZoI→Int→Int→Int→Int→ZoI→Int→Int→ZoI→ZEU
 |0,_,_,_,_,_,_,_,_,_,_,_=>none
 |n_+1,u_off,u_len,d,n,guess,borrow,carry,t82,t83,i,u=>ZtY (Zu1 n_) u_off u_len d n guess borrow carry t82 t83 i u
def ZxU (n:Nat) (s:(Nat×Nat×ZoI×Int×Int×Int×Int×ZoI×Int×Int×ZoI)):ZEU:=Zu1 n s.1 s.2.1 s.2.2.1 s.2.2.2.1 s.2.2.2.2.1 s.2.2.2.2.2.1 s.2.2.2.2.2.2.1 s.2.2.2.2.2.2.2.1 s.2.2.2.2.2.2.2.2.1 s.2.2.2.2.2.2.2.2.2.1 s.2.2.2.2.2.2.2.2.2.2
def Zv4 (rec_:(Nat×Nat×ZoI×Int×Int×Int×Int×ZoI×Int×Int×ZoI)→ZEU) (s:(Nat×Nat×ZoI×Int×Int×Int×Int×ZoI×Int×Int×ZoI)):ZEU:=ZtY (fun u_off u_len d n guess borrow carry t82 t83 i u=>rec_ (u_off,u_len,d,n,guess,borrow,carry,t82,t83,i,u)) s.1 s.2.1 s.2.2.1 s.2.2.2.1 s.2.2.2.2.1 s.2.2.2.2.2.1 s.2.2.2.2.2.2.1 s.2.2.2.2.2.2.2.1 s.2.2.2.2.2.2.2.2.1 s.2.2.2.2.2.2.2.2.2.1 s.2.2.2.2.2.2.2.2.2.2
theorem ZzE:∀n s,ZxU (n+1) s=Zv4 (ZxU n) s:=fun _ _=>rfl
def Zu3 (u_off:Nat) (u_len:Nat) (d:ZoI) (n:Int) (guess:Int) (u:ZoI):Zx9:=
 (Zu1 big u_off u_len d n guess (0:Int) (0:Int) d (d.length:Int) (0:Int) u).bind fun(x0,x1,x2,x3,x4,x5,x6,x7)=>ZwX x0 x1 x2 x3 x4 x5 x6 x7
def Ztl (rec_:ZLf) (u_off:Nat) (u_len:Nat) (d:ZoI) (n:Int) (guess:Int) (rest:Int) (t71:Bool) (u:ZoI):ZDF:=
 bif t71 then (
  chk (inK .i64 (n - 1)) <|
  (idx d (n - 1)).bind fun d_e=>
  rec_ u_off u_len d n (IntKind.wrap .u64 (guess - 1)) (IntKind.wrap .u64 (rest+(IntKind.wrap .u64 d_e))) u
 )else (
  some (u_off,u_len,d,n,guess,u)
 )
def Zv5 (rec_:ZLf) (u_off:Nat) (u_len:Nat) (d:ZoI) (n:Int) (guess:Int) (rest:Int) (u:ZoI):ZDF:=
 bif (decide (rest < 4294967296))then (
  chk (inK .i64 (n - 2)) <|
  (idx d (n - 2)).bind fun d_e=>
  chk (decide (0≤(32:Int))) <|
  chk (inK .i64 (n - 2)) <|
  chk (inR (n - 2) (u_len:Int)) <|
  (u[(u_off+((n - 2)).toNat)]?).bind fun u_e=>
  Ztl rec_ u_off u_len d n guess rest (decide ((IntKind.wrap .u64 (guess*(IntKind.wrap .u64 d_e))) > (orK .u64 (shlK .u64 rest 32) (IntKind.wrap .u64 u_e)))) u
 )else (
  Ztl rec_ u_off u_len d n guess rest false u
 )
def ZrU:Nat→Nat→Nat→ZoI→Int→Int→Int→ZoI→ZDF
 |0,_,_,_,_,_,_,_=>none
 |n_+1,u_off,u_len,d,n,guess,rest,u=>Zv5 (ZrU n_) u_off u_len d n guess rest u
def ZxV (n:Nat) (s:(Nat×Nat×ZoI×Int×Int×Int×ZoI)):ZDF:=ZrU n s.1 s.2.1 s.2.2.1 s.2.2.2.1 s.2.2.2.2.1 s.2.2.2.2.2.1 s.2.2.2.2.2.2
def ZxW (rec_:(Nat×Nat×ZoI×Int×Int×Int×ZoI)→ZDF) (s:(Nat×Nat×ZoI×Int×Int×Int×ZoI)):ZDF:=Zv5 (fun u_off u_len d n guess rest u=>rec_ (u_off,u_len,d,n,guess,rest,u)) s.1 s.2.1 s.2.2.1 s.2.2.2.1 s.2.2.2.2.1 s.2.2.2.2.2.1 s.2.2.2.2.2.2
theorem ZzF:∀n s,ZxV (n+1) s=ZxW (ZxV n) s:=fun _ _=>rfl
def ZwT (u:ZoI) (u_off:Nat) (u_len:Nat) (d:ZoI):Zx9:=
 chk (inR (d.length:Int) (u_len:Int)) <|
 (u[(u_off+((d.length:Int)).toNat)]?).bind fun u_e=>
 chk (decide (0≤(32:Int))) <|
 chk (inK .i64 ((d.length:Int) - 1)) <|
 chk (inR ((d.length:Int) - 1) (u_len:Int)) <|
 (u[(u_off+(((d.length:Int) - 1)).toNat)]?).bind fun u_e_1=>
 chk (inK .i64 ((d.length:Int) - 1)) <|
 (idx d ((d.length:Int) - 1)).bind fun d_e=>
 chk (decide ((IntKind.wrap .u64 d_e)≠0)) <|
 chk (inK .i64 ((d.length:Int) - 1)) <|
 (idx d ((d.length:Int) - 1)).bind fun d_e_1=>
 (ZrU big u_off u_len d (d.length:Int) (if (4294967295:Int) < (IntKind.wrap .u64 (Int.tdiv (orK .u64 (shlK .u64 (IntKind.wrap .u64 u_e) 32) (IntKind.wrap .u64 u_e_1)) (IntKind.wrap .u64 d_e)))then (4294967295:Int)else (IntKind.wrap .u64 (Int.tdiv (orK .u64 (shlK .u64 (IntKind.wrap .u64 u_e) 32) (IntKind.wrap .u64 u_e_1)) (IntKind.wrap .u64 d_e)))) (IntKind.wrap .u64 ((orK .u64 (shlK .u64 (IntKind.wrap .u64 u_e) 32) (IntKind.wrap .u64 u_e_1)) - (IntKind.wrap .u64 ((if (4294967295:Int) < (IntKind.wrap .u64 (Int.tdiv (orK .u64 (shlK .u64 (IntKind.wrap .u64 u_e) 32) (IntKind.wrap .u64 u_e_1)) (IntKind.wrap .u64 d_e)))then (4294967295:Int)else (IntKind.wrap .u64 (Int.tdiv (orK .u64 (shlK .u64 (IntKind.wrap .u64 u_e) 32) (IntKind.wrap .u64 u_e_1)) (IntKind.wrap .u64 d_e))))*(IntKind.wrap .u64 d_e_1))))) u).bind fun(x0,x1,x2,x3,x4,x5)=>Zu3 x0 x1 x2 x3 x4 x5
def ZvH (u:ZoI) (u_off:Nat) (u_len:Nat) (d:ZoI):Zx9:=
 (ZwT u u_off u_len d).bind fun r=>chk (decide (r.2.length=u.length)&&true) (some r)
def Zu0 (w_off:Nat) (w_len:Nat) (w_:ZoI):ZBJ:=
 some (w_off,w_len,w_)
def ZsT (rec_:Nat→Nat→ZoI→ZBJ) (w_off:Nat) (w_len:Nat) (t14:Bool) (w_:ZoI):ZBJ:=
 bif t14 then (
  chk (inK .i64 (((w_len:Nat):Int) - 1)) <|
  chk (Zcp 0 (((w_len:Nat):Int) - 1) (w_len:Int)) <|
  rec_ (w_off+0) (((((w_len:Nat):Int) - 1)).toNat - 0) w_
 )else (
  some (w_off,w_len,w_)
 )
def Zum (rec_:Nat→Nat→ZoI→ZBJ) (w_off:Nat) (w_len:Nat) (w_:ZoI):ZBJ:=
 bif (decide (((w_len:Nat):Int) > 0))then (
  chk (inK .i64 (((w_len:Nat):Int) - 1)) <|
  chk (inR (((w_len:Nat):Int) - 1) (w_len:Int)) <|
  (w_[(w_off+((((w_len:Nat):Int) - 1)).toNat)]?).bind fun w__e=>
  ZsT rec_ w_off w_len (w__e == 0) w_
 )else (
  ZsT rec_ w_off w_len false w_
 )
def Zrk:Nat→Nat→Nat→ZoI→ZBJ
 |0,_,_,_=>none
 |n_+1,w_off,w_len,w_=>Zum (Zrk n_) w_off w_len w_
def ZwN (n:Nat) (s:(Nat×Nat×ZoI)):ZBJ:=Zrk n s.1 s.2.1 s.2.2
def ZwO (rec_:(Nat×Nat×ZoI)→ZBJ) (s:(Nat×Nat×ZoI)):ZBJ:=Zum (fun w_off w_len w_=>rec_ (w_off,w_len,w_)) s.1 s.2.1 s.2.2
theorem ZyG:∀n s,ZwN (n+1) s=ZwO (ZwN n) s:=fun _ _=>rfl
def Zuy (w_:ZoI) (w_off:Nat) (w_len:Nat):ZBJ:=
 (Zrk big w_off w_len w_).bind fun(x0,x1,x2)=>Zu0 x0 x1 x2
def ZtD (w_:ZoI) (w_off:Nat) (w_len:Nat):ZBJ:=
 (Zuy w_ w_off w_len).bind fun r=>chk (decide (r.2.2.length=w_.length)&&true) (some r)
def ZrS (w_:ZoI) (i:Int):Option Int:=
 bif (decide (i < (w_.length:Int)))then (
  (idx w_ i).bind fun w__e=>
  some w__e
 )else (
  some (0:Int)
 )
def Zv1 (w_:ZoI) (w_off:Nat) (w_len:Nat) (i:Int):Zx9:=
 bif (decide (i < ((w_len:Nat):Int)))then (
  chk (inR i (w_len:Int)) <|
  (w_[(w_off+(i).toNat)]?).bind fun w__e=>
  some (w__e,w_)
 )else (
  some (0,w_)
 )
def ZsR (w_:ZoI) (w_off:Nat) (w_len:Nat) (i:Int):Zx9:=
 (Zv1 w_ w_off w_len i).bind fun r=>chk (decide (r.2.length=w_.length)&&true) (some r)
def ZuL (rest_off:Nat) (rest_len:Nat) (q:ZoI) (rest:ZoI):ZBg:=
 (Zo9 q).bind fun q_1=>
 (Zo9 ((rest.drop rest_off).take rest_len)).bind fun q_2=>
 some (q_1,q_2)
def Zry (rec_:Int→Nat→Nat→Int→Int→ZoI→ZoI→ZEN) (shift:Int) (rest_off:Nat) (rest_len:Nat) (t86:Int) (i:Int) (q:ZoI) (rest:ZoI):ZEN:=
 bif (decide (i < t86))then (
  chk (inK .i64 (i+1)) <|
  (ZsR rest rest_off rest_len (i+1)).bind fun(q_1,t90)=>
  chk (decide (0≤(32:Int))) <|
  chk (inR i (rest_len:Int)) <|
  (t90[(rest_off+(i).toNat)]?).bind fun t90_e=>
  chk (decide (0≤shift)) <|
  chk (inR i (rest_len:Int)) <|
  chk (inK .i64 (i+1)) <|
  rec_ shift rest_off rest_len t86 (i+1) q (t90.set (rest_off+(i).toNat) (IntKind.wrap .u32 (shrK .u64 (orK .u64 (shlK .u64 (IntKind.wrap .u64 q_1) 32) (IntKind.wrap .u64 t90_e)) shift)))
 )else (
  some (rest_off,rest_len,q,rest)
 )
def ZqU:Nat→Int→Nat→Nat→Int→Int→ZoI→ZoI→ZEN
 |0,_,_,_,_,_,_,_=>none
 |n_+1,shift,rest_off,rest_len,t86,i,q,rest=>Zry (ZqU n_) shift rest_off rest_len t86 i q rest
def Zwv (n:Nat) (s:(Int×Nat×Nat×Int×Int×ZoI×ZoI)):ZEN:=ZqU n s.1 s.2.1 s.2.2.1 s.2.2.2.1 s.2.2.2.2.1 s.2.2.2.2.2.1 s.2.2.2.2.2.2
def ZtL (rec_:(Int×Nat×Nat×Int×Int×ZoI×ZoI)→ZEN) (s:(Int×Nat×Nat×Int×Int×ZoI×ZoI)):ZEN:=Zry (fun shift rest_off rest_len t86 i q rest=>rec_ (shift,rest_off,rest_len,t86,i,q,rest)) s.1 s.2.1 s.2.2.1 s.2.2.2.1 s.2.2.2.2.1 s.2.2.2.2.2.1 s.2.2.2.2.2.2
theorem Zyx:∀n s,Zwv (n+1) s=ZtL (Zwv n) s:=fun _ _=>rfl
def ZuM (n:Int) (shift:Int) (u:ZoI) (q:ZoI):ZBg:=
 chk (Zcp 0 n (u.length:Int)) <|
 (ZtD u 0 ((n).toNat - 0)).bind fun(rest_off,rest_len,t83)=>
 (ZqU big shift rest_off rest_len ((rest_len:Nat):Int) (0:Int) q t83).bind fun(x0,x1,x2,x3)=>ZuL x0 x1 x2 x3
def Zrz (rec_:Int→Int→ZoI→Int→ZoI→ZoI→ZEM) (n:Int) (shift:Int) (d:ZoI) (j:Int) (u:ZoI) (q:ZoI):ZEM:=
 bif (decide (j≥0))then (
  chk (inK .i64 (j+n)) <|
  chk (inK .i64 ((j+n)+1)) <|
  chk (Zcp j ((j+n)+1) (u.length:Int)) <|
  (ZvH u ((j).toNat) ((((j+n)+1)).toNat - (j).toNat) d).bind fun(q_1,t77)=>
  chk (inR j (q.length:Int)) <|
  chk (inK .i64 (j - 1)) <|
  rec_ n shift d (j - 1) t77 (q.set ((j).toNat) q_1)
 )else (
  some (n,shift,u,q)
 )
def ZqV:Nat→Int→Int→ZoI→Int→ZoI→ZoI→ZEM
 |0,_,_,_,_,_,_=>none
 |n_+1,n,shift,d,j,u,q=>Zrz (ZqV n_) n shift d j u q
def Zww (n:Nat) (s:(Int×Int×ZoI×Int×ZoI×ZoI)):ZEM:=ZqV n s.1 s.2.1 s.2.2.1 s.2.2.2.1 s.2.2.2.2.1 s.2.2.2.2.2
def ZtM (rec_:(Int×Int×ZoI×Int×ZoI×ZoI)→ZEM) (s:(Int×Int×ZoI×Int×ZoI×ZoI)):ZEM:=Zrz (fun n shift d j u q=>rec_ (n,shift,d,j,u,q)) s.1 s.2.1 s.2.2.1 s.2.2.2.1 s.2.2.2.2.1 s.2.2.2.2.2
theorem Zyy:∀n s,Zww (n+1) s=ZtM (Zww n) s:=fun _ _=>rfl
def Zqe (w_:ZoI) (v_:ZoI):ZBg:=
 (ZpF w_ v_).bind fun q=>
 bif (decide (q < 0))then (
  (ZpH w_).bind fun q_1=>
  some (([]:ZoI),q_1)
 )else (
  bif ((v_.length:Int) == 1)then (
   (idx v_ 0).bind fun v__e=>
   (ZtC w_ v__e).bind fun(q_2,r_)=>
   (Zo9 ([r_]:ZoI)).bind fun q_3=>
   some (q_2,q_3)
  )else (
   chk (inK .i64 ((v_.length:Int) - 1)) <|
   (idx v_ ((v_.length:Int) - 1)).bind fun v__e_1=>
   (Zrw v__e_1).bind fun shift=>
   (Zp4 w_ shift).bind fun u=>
   (Zp4 v_ shift).bind fun q_4=>
   chk (Zcp 0 (v_.length:Int) (q_4.length:Int)) <|
   chk (inK .i64 ((w_.length:Int) - (v_.length:Int))) <|
   chk (inK .i64 (((w_.length:Int) - (v_.length:Int))+1)) <|
   chk (mkOk (((w_.length:Int) - (v_.length:Int))+1) (((w_.length:Int) - (v_.length:Int))+1) 4) <|
   chk (inK .i64 (((List.replicate ((((w_.length:Int) - (v_.length:Int))+1)).toNat (0:Int)).length:Int) - 1)) <|
   (ZqV big (v_.length:Int) shift ((q_4.drop 0).take (((v_.length:Int)).toNat - 0)) (((List.replicate ((((w_.length:Int) - (v_.length:Int))+1)).toNat (0:Int)).length:Int) - 1) u (List.replicate ((((w_.length:Int) - (v_.length:Int))+1)).toNat (0:Int))).bind fun(x0,x1,x2,x3)=>ZuM x0 x1 x2 x3
  )
 )
def ZtN (w_:ZoI):Option ZoI:=
 some w_
def Zp0 (rec_:ZoI→ZoI→Option ZoI) (w_:ZoI) (v_:ZoI):Option ZoI:=
 bif (decide ((v_.length:Int) > 0))then (
  (Zqe w_ v_).bind fun(q,r_)=>
  rec_ v_ r_
 )else (
  some w_
 )
def Zpp:Nat→ZoI→ZoI→Option ZoI
 |0,_,_=>none
 |n_+1,w_,v_=>Zp0 (Zpp n_) w_ v_
def Zrj (w_:ZoI) (v_:ZoI):Option ZoI:=
 (Zpp big w_ v_).bind fun x0=>ZtN x0
def Zqw (num:ZoL) (den:ZoL):Option ZoF:=
 (Zrj num.Words den.Words).bind fun g=>
 (Zqe num.Words g).bind fun(x_,q)=>
 (Zqe den.Words g).bind fun(y,q_1)=>
 (Zph (!(num.Neg == den.Neg)) x_).bind fun q_2=>
 (Zph false y).bind fun q_3=>
 some (ZoF.mk q_2 q_3)
def Zxj (num:ZoL) (den:ZoL):ZBh:=
 (Zv6 ([num,den]:(List ZoL))).bind fun q=>
 bif (!q)then (
  some ((ZoF.mk (ZoL.mk false ([]:ZoI)) (ZoL.mk false ([]:ZoI))),1)
 )else (
  bif ((den.Words.length:Int) == 0)then (
   some ((ZoF.mk (ZoL.mk false ([]:ZoI)) (ZoL.mk false ([]:ZoI))),8)
  )else (
   (Zqw num den).bind fun q_1=>
   some (q_1,0)
  )
 )
def Zxi (num:Int) (den:Int):ZBh:=
 (ZtZ num).bind fun q=>
 (ZtZ den).bind fun q_1=>
 (Zxj q q_1).bind fun(q_2,q_3)=>
 some (q_2,q_3)
def Zvh:Option ZoF:=
 (Zxi 0 1).bind fun(f,q)=>
 some f
def Zxe (a:Int) (b:Int):Option ZoF:=
 (Zxi a b).bind fun(f,e)=>
 bif (e != 0)then (
  (Zvh).bind fun q=>
  some q
 )else (
  some f
 )
def ZtU (a:ZyY) (b:ZyY):Option ZoF:=
 (ZuX a b).bind fun n=>
 chk (inK .i64 ((a.length:Int)+(b.length:Int))) <|
 chk (inK .i64 (((a.length:Int)+(b.length:Int)) - n)) <|
 (Zxe n (if (1:Int) > (((a.length:Int)+(b.length:Int)) - n)then (1:Int)else (((a.length:Int)+(b.length:Int)) - n))).bind fun q=>
 some q
def ZuY (a:ZoJ) (b:ZoJ):Option ZoF:=
 (ZsA a).bind fun q=>
 (ZsA b).bind fun q_1=>
 (ZtU q q_1).bind fun q_2=>
 some q_2
def Zrb (name:Str):Option ZyY:=
 ZBT (chk (decide (name.length≤1099511627776)) <| some (Zxx (Zzi (name++[32]) [])))
def ZvG (a:Str) (b:Str):Option ZoF:=
 (Zrb a).bind fun q=>
 (Zrb b).bind fun q_1=>
 (ZtU q q_1).bind fun q_2=>
 some q_2
def ZrV (t2:Bool):Option Bool:=
 some t2
def Zqk (f:ZoF):Option Bool:=
 (Zv6 ([f.Num,f.Den]:(List ZoL))).bind fun q=>
 bif q then (
  bif (decide ((f.Den.Words.length:Int) > 0))then (
   bif (!f.Den.Neg)then (
    (Zrj f.Num.Words f.Den.Words).bind fun q_1=>
    (ZpF q_1 ([1]:List Int)).bind fun q_2=>
    ZrV (q_2 == 0)
   )else (
    ZrV false
   )
  )else (
   ZrV false
  )
 )else (
  ZrV false
 )
def Zui (out:ZoI):Option ZoI:=
 (Zo9 out).bind fun q=>
 some q
def Zuj (rec_:ZG5) (v_:ZoI) (i:Int) (carry:Int) (t17:ZoI) (t18:Int) (i_1:Int) (out:ZoI):Option ZoI:=
 chk (inK .i64 (i+(v_.length:Int))) <|
 chk (inR (i+(v_.length:Int)) (out.length:Int)) <|
 chk (inK .i64 (i_1+1)) <|
 rec_ v_ t17 t18 (i_1+1) (out.set (((i+(v_.length:Int))).toNat) (IntKind.wrap .u32 carry))
def Zrd (rec_:ZoI→Int→Int→Int→ZoI→Int→Int→ZoI→Int→Int→ZoI→ZES) (v_:ZoI) (i:Int) (x_:Int) (carry:Int) (t17:ZoI) (t18:Int) (i_1:Int) (t24:ZoI) (t25:Int) (j:Int) (out:ZoI):ZES:=
 bif (decide (j < t25))then (
  (idx t24 j).bind fun y=>
  chk (inK .i64 (i+j)) <|
  chk (inR (i+j) (out.length:Int)) <|
  (out[((i+j)).toNat]?).bind fun out_e=>
  chk (inK .i64 (i+j)) <|
  chk (inR (i+j) (out.length:Int)) <|
  chk (decide (0≤(32:Int))) <|
  chk (inK .i64 (j+1)) <|
  rec_ v_ i x_ (shrK .u64 (IntKind.wrap .u64 (carry+(IntKind.wrap .u64 ((IntKind.wrap .u64 ((IntKind.wrap .u64 x_)*(IntKind.wrap .u64 y)))+(IntKind.wrap .u64 out_e))))) 32) t17 t18 i_1 t24 t25 (j+1) (out.set (((i+j)).toNat) (IntKind.wrap .u32 (IntKind.wrap .u64 (carry+(IntKind.wrap .u64 ((IntKind.wrap .u64 ((IntKind.wrap .u64 x_)*(IntKind.wrap .u64 y)))+(IntKind.wrap .u64 out_e)))))))
 )else (
  some (v_,i,carry,t17,t18,i_1,out)
 )
def Zr7:Nat→ZoI→Int→Int→Int→ZoI→Int→Int→ZoI→Int→Int→ZoI→ZES
 |0,_,_,_,_,_,_,_,_,_,_,_=>none
 |n_+1,v_,i,x_,carry,t17,t18,i_1,t24,t25,j,out=>Zrd (Zr7 n_) v_ i x_ carry t17 t18 i_1 t24 t25 j out
def ZvX (n:Nat) (s:(ZoI×Int×Int×Int×ZoI×Int×Int×ZoI×Int×Int×ZoI)):ZES:=Zr7 n s.1 s.2.1 s.2.2.1 s.2.2.2.1 s.2.2.2.2.1 s.2.2.2.2.2.1 s.2.2.2.2.2.2.1 s.2.2.2.2.2.2.2.1 s.2.2.2.2.2.2.2.2.1 s.2.2.2.2.2.2.2.2.2.1 s.2.2.2.2.2.2.2.2.2.2
def Zte (rec_:(ZoI×Int×Int×Int×ZoI×Int×Int×ZoI×Int×Int×ZoI)→ZES) (s:(ZoI×Int×Int×Int×ZoI×Int×Int×ZoI×Int×Int×ZoI)):ZES:=Zrd (fun v_ i x_ carry t17 t18 i_1 t24 t25 j out=>rec_ (v_,i,x_,carry,t17,t18,i_1,t24,t25,j,out)) s.1 s.2.1 s.2.2.1 s.2.2.2.1 s.2.2.2.2.1 s.2.2.2.2.2.1 s.2.2.2.2.2.2.1 s.2.2.2.2.2.2.2.1 s.2.2.2.2.2.2.2.2.1 s.2.2.2.2.2.2.2.2.2.1 s.2.2.2.2.2.2.2.2.2.2
theorem Zym:∀n s,ZvX (n+1) s=Zte (ZvX n) s:=fun _ _=>rfl
def Zre (rec_:ZG5) (v_:ZoI) (t17:ZoI) (t18:Int) (i:Int) (out:ZoI):Option ZoI:=
 bif (decide (i < t18))then (
  (idx t17 i).bind fun x_=>
  (Zr7 big v_ i x_ (0:Int) t17 t18 i v_ (v_.length:Int) (0:Int) out).bind fun(x0,x1,x2,x3,x4,x5,x6)=>Zuj rec_ x0 x1 x2 x3 x4 x5 x6
 )else (
  some out
 )
def ZqI:Nat→ZoI→ZoI→Int→Int→ZoI→Option ZoI
 |0,_,_,_,_,_=>none
 |n_+1,v_,t17,t18,i,out=>Zre (ZqI n_) v_ t17 t18 i out
def ZvY (n:Nat) (s:(ZoI×ZoI×Int×Int×ZoI)):Option ZoI:=ZqI n s.1 s.2.1 s.2.2.1 s.2.2.2.1 s.2.2.2.2
def Ztf (rec_:ZLd) (s:(ZoI×ZoI×Int×Int×ZoI)):Option ZoI:=Zre (fun v_ t17 t18 i out=>rec_ (v_,t17,t18,i,out)) s.1 s.2.1 s.2.2.1 s.2.2.2.1 s.2.2.2.2
theorem Zyn:∀n s,ZvY (n+1) s=Ztf (ZvY n) s:=fun _ _=>rfl
def Zqz (w_:ZoI) (v_:ZoI):Option ZoI:=
 chk (inK .i64 ((w_.length:Int)+(v_.length:Int))) <|
 chk (mkOk ((w_.length:Int)+(v_.length:Int)) ((w_.length:Int)+(v_.length:Int)) 4) <|
 (ZqI big v_ w_ (w_.length:Int) (0:Int) (List.replicate (((w_.length:Int)+(v_.length:Int))).toNat (0:Int))).bind fun x0=>Zui x0
def ZoY (a:ZoL) (b:ZoL):Option ZoL:=
 (Zqz a.Words b.Words).bind fun q=>
 (Zph (!(a.Neg == b.Neg)) q).bind fun q_1=>
 some q_1
def ZtE (t2:ZoL):Option ZoL:=
 some t2
def ZrT (a:ZoL):Option ZoL:=
 bif (!a.Neg)then (
  ZtE (ZoL.mk (decide ((a.Words.length:Int) > 0)) a.Words)
 )else (
  ZtE (ZoL.mk false a.Words)
 )
def ZuK (carry:Int) (out:ZoI):Option ZoI:=
 chk (ZjC (out.length+([carry]:ZoI).length) 4) <|
 (Zo9 (out++([carry]:ZoI))).bind fun q=>
 some q
def Zrx (rec_:ZoI→ZoI→Int→Int→Int→ZoI→Zx9) (w_:ZoI) (v_:ZoI) (carry:Int) (t20:Int) (i:Int) (out:ZoI):Zx9:=
 bif (decide (i < t20))then (
  (ZrS w_ i).bind fun q=>
  (ZrS v_ i).bind fun q_1=>
  (ZuJ q q_1 carry).bind fun(d,carry_1)=>
  chk (ZjC (out.length+([d]:ZoI).length) 4) <|
  chk (inK .i64 (i+1)) <|
  rec_ w_ v_ carry_1 t20 (i+1) (out++([d]:ZoI))
 )else (
  some (carry,out)
 )
def Zss:Nat→ZoI→ZoI→Int→Int→Int→ZoI→Zx9
 |0,_,_,_,_,_,_=>none
 |n_+1,w_,v_,carry,t20,i,out=>Zrx (Zss n_) w_ v_ carry t20 i out
def Zwu (n:Nat) (s:(ZoI×ZoI×Int×Int×Int×ZoI)):Zx9:=Zss n s.1 s.2.1 s.2.2.1 s.2.2.2.1 s.2.2.2.2.1 s.2.2.2.2.2
def ZtK (rec_:(ZoI×ZoI×Int×Int×Int×ZoI)→Zx9) (s:(ZoI×ZoI×Int×Int×Int×ZoI)):Zx9:=Zrx (fun w_ v_ carry t20 i out=>rec_ (w_,v_,carry,t20,i,out)) s.1 s.2.1 s.2.2.1 s.2.2.2.1 s.2.2.2.2.1 s.2.2.2.2.2
theorem Zyw:∀n s,Zwu (n+1) s=ZtK (Zwu n) s:=fun _ _=>rfl
def Zsi (w_:ZoI) (v_:ZoI):Option ZoI:=
 chk (inK .i64 ((if (v_.length:Int) > (w_.length:Int)then (v_.length:Int)else (w_.length:Int))+1)) <|
 chk (mkOk 0 ((if (v_.length:Int) > (w_.length:Int)then (v_.length:Int)else (w_.length:Int))+1) 4) <|
 (Zss big w_ v_ (0:Int) (if (v_.length:Int) > (w_.length:Int)then (v_.length:Int)else (w_.length:Int)) (0:Int) (List.replicate ((0:Int)).toNat (0:Int))).bind fun(x0,x1)=>ZuK x0 x1
def Zul (out:ZoI):Option ZoI:=
 (Zo9 out).bind fun q=>
 some q
def Zrh (rec_:ZoI→ZoI→Int→Int→Int→ZoI→Option ZoI) (w_:ZoI) (v_:ZoI) (borrow:Int) (t12:Int) (i:Int) (out:ZoI):Option ZoI:=
 bif (decide (i < t12))then (
  (idx w_ i).bind fun w__e=>
  (ZrS v_ i).bind fun q=>
  (Zs3 w__e q borrow).bind fun(q_1,borrow_1)=>
  chk (inR i (out.length:Int)) <|
  chk (inK .i64 (i+1)) <|
  rec_ w_ v_ borrow_1 t12 (i+1) (out.set ((i).toNat) q_1)
 )else (
  some out
 )
def Zr9:Nat→ZoI→ZoI→Int→Int→Int→ZoI→Option ZoI
 |0,_,_,_,_,_,_=>none
 |n_+1,w_,v_,borrow,t12,i,out=>Zrh (Zr9 n_) w_ v_ borrow t12 i out
def Zv0 (n:Nat) (s:(ZoI×ZoI×Int×Int×Int×ZoI)):Option ZoI:=Zr9 n s.1 s.2.1 s.2.2.1 s.2.2.2.1 s.2.2.2.2.1 s.2.2.2.2.2
def Zti (rec_:(ZoI×ZoI×Int×Int×Int×ZoI)→Option ZoI) (s:(ZoI×ZoI×Int×Int×Int×ZoI)):Option ZoI:=Zrh (fun w_ v_ borrow t12 i out=>rec_ (w_,v_,borrow,t12,i,out)) s.1 s.2.1 s.2.2.1 s.2.2.2.1 s.2.2.2.2.1 s.2.2.2.2.2
theorem Zyp:∀n s,Zv0 (n+1) s=Zti (Zv0 n) s:=fun _ _=>rfl
def ZrM (w_:ZoI) (v_:ZoI):Option ZoI:=
 chk (mkOk (w_.length:Int) (w_.length:Int) 4) <|
 (Zr9 big w_ v_ (0:Int) (w_.length:Int) (0:Int) (List.replicate ((w_.length:Int)).toNat (0:Int))).bind fun x0=>Zul x0
def Zvi (a:ZoL) (b:ZoL):Option ZoL:=
 bif (a.Neg == b.Neg)then (
  (Zsi a.Words b.Words).bind fun q=>
  (Zph a.Neg q).bind fun q_1=>
  some q_1
 )else (
  (ZpF a.Words b.Words).bind fun q_2=>
  bif (decide (q_2≥0))then (
   (ZrM a.Words b.Words).bind fun q_3=>
   (Zph a.Neg q_3).bind fun q_4=>
   some q_4
  )else (
   (ZrM b.Words a.Words).bind fun q_5=>
   (Zph b.Neg q_5).bind fun q_6=>
   some q_6
  )
 )
def Zwm (t13:Bool) (a:ZoF) (b:ZoF):Option Int:=
 bif t13 then (
  some (0:Int)
 )else (
  (ZoY a.Num b.Den).bind fun q=>
  (ZoY b.Num a.Den).bind fun q_1=>
  (ZrT q_1).bind fun q_2=>
  (Zvi q q_2).bind fun d=>
  bif d.Neg then (
   some (-1:Int)
  )else (
   bif (decide ((d.Words.length:Int) > 0))then (
    some (1:Int)
   )else (
    some (0:Int)
   )
  )
 )
def Zun (a:ZoF) (b:ZoF):Option Int:=
 (Zqk a).bind fun q=>
 bif (!q)then (
  Zwm true a b
 )else (
  (Zqk b).bind fun q_1=>
  Zwm (!q_1) a b
 )
def Zwj (a:ZoF):Option Int:=
 (Zvh).bind fun q=>
 (Zun a q).bind fun q_1=>
 some q_1
def Zzp:Option (List (Int×Zpy)):=
 some (setB (q:=ZBO) (k:=(.int .i64)) (v:=(.st 6)) (car:=Zvg) (setB (q:=ZBO) (k:=(.int .i64)) (v:=(.st 6)) (car:=Zvg) (setB (q:=ZBO) (k:=(.int .i64)) (v:=(.st 6)) (car:=Zvg) (setB (q:=ZBO) (k:=(.int .i64)) (v:=(.st 6)) (car:=Zvg) (setB (q:=ZBO) (k:=(.int .i64)) (v:=(.st 6)) (car:=Zvg) ([]:(List (Int×Zpy))) 1 (Zpy.mk ([116,101,120,116]:Str) (none:Option Nat) (some 211:Option Nat))) 2 (Zpy.mk ([98,111,111,108]:Str) (some 212:Option Nat) (some 213:Option Nat))) 3 (Zpy.mk ([105,110,116,101,103,101,114]:Str) (some 214:Option Nat) (some 215:Option Nat))) 4 (Zpy.mk ([100,101,99,105,109,97,108]:Str) (some 216:Option Nat) (some 215:Option Nat))) 5 (Zpy.mk ([100,97,116,101]:Str) (some 217:Option Nat) (some 218:Option Nat)))
def ZwL (s cs:Str):Option Str:=
 chk (cs.all fun b=>decide (b.toNat < 128)) <| chk (decide (cs.length < 4294967281)) <| some (Lib.trimS s cs)
def Zyt (s:Str):Option Str:=
 (ZwL s ([32]:Str)).bind fun q=>
 some q
def ZpQ (t4:Bool):Option Bool:=
 some t4
def Zpw (s:Str) (prefix_:Str):Option Bool:=
 bif (decide ((s.length:Int)≥(prefix_.length:Int)))then (
  chk (Zcp 0 (prefix_.length:Int) (s.length:Int)) <|
  ZpQ ((s.take ((prefix_.length:Int)).toNat) == prefix_)
 )else (
  ZpQ false
 )
def Zrr (s:Str) (prefix_:Str):ZDC:=
 (Zpw s prefix_).bind fun q=>
 bif (!q)then (
  some (s,false)
 )else (
  chk (Zcp (prefix_.length:Int) (s.length:Int) (s.length:Int)) <|
  some ((s.drop ((prefix_.length:Int)).toNat),true)
 )
def ZuW (s:Str) (prefix_:Str):ZDC:=
 (Zrr s prefix_).bind fun(after,found)=>
 some (after,found)
def Zrc (s:Str) (prefix_:Str):Option Str:=
 (Zpw s prefix_).bind fun q=>
 bif q then (
  chk (Zcp (prefix_.length:Int) (s.length:Int) (s.length:Int)) <|
  some (s.drop ((prefix_.length:Int)).toNat)
 )else (
  some s
 )
def Zuw (s:Str) (prefix_:Str):Option Str:=
 (Zrc s prefix_).bind fun q=>
 some q
def Zp7 (s:Str) (c:Int):Option Int:=
 some (Lib.indexByte s c.toNat.toUInt8)
def Zqn (s:Str) (substr:Str) (n:Int) (t16:Bool):Option Int:=
 bif t16 then (
  some (0:Int)
 )else (
  bif (n == 1)then (
   (idx substr 0).bind fun c=>
   (Zp7 s ((c.toNat:Nat):Int)).bind fun q=>
   some q
  )else (
   bif (decide (n≥(s.length:Int)))then (
    some (-1:Int)
   )else (
    none
   )
  )
 )
def ZqZ (s:Str) (substr:Str):Option Int:=
 bif ((substr.length:Int) == 0)then (
  Zqn s substr (substr.length:Int) true
 )else (
  Zqn s substr (substr.length:Int) (substr == s)
 )
def ZtJ (s:Str) (sep:Str):Option (Str×Str×Bool):=
 (ZqZ s sep).bind fun i=>
 bif (decide (i≥0))then (
  chk (Zcp 0 i (s.length:Int)) <|
  chk (inK .i64 (i+(sep.length:Int))) <|
  chk (Zcp (i+(sep.length:Int)) (s.length:Int) (s.length:Int)) <|
  some ((s.take (i).toNat),(s.drop ((i+(sep.length:Int))).toNat),true)
 )else (
  some (s,([]:Str),false)
 )
def Zxa (s:Str) (sep:Str):Option (Str×Str×Bool):=
 (ZtJ s sep).bind fun(before,after,found)=>
 some (before,after,found)
def ZsJ (t4:Bool):Option Bool:=
 some t4
def ZuN (s:Str) (most:Int):Option Bool:=
 bif (decide ((s.length:Int)≥1))then (
  bif (decide ((s.length:Int)≤most))then (
   (ZwL s ([48,49,50,51,52,53,54,55,56,57]:Str)).bind fun q=>
   ZsJ (q == ([]:Str))
  )else (
   ZsJ false
  )
 )else (
  ZsJ false
 )
def Zv7 (neg:Bool) (num:ZoI) (den:ZoI) (t2:Bool) (t2_1:Bool) (t2_2:ZoI) (t2_3:ZoI):ZDD:=
 (Zph neg num).bind fun q=>
 (Zph false den).bind fun q_1=>
 (Zqw q q_1).bind fun q_2=>
 some (q_2,true)
def ZsU (rec_:Bool→ZoI→ZoI→ZoI→Int→Int→Bool→Bool→ZoI→ZoI→ZET) (neg:Bool) (num:ZoI) (ten:ZoI) (den:ZoI) (t63:Int) (t64:Int) (t2:Bool) (t2_1:Bool) (t2_2:ZoI) (t2_3:ZoI):ZET:=
 bif (decide (t64 < t63))then (
  (Zqz den ten).bind fun den_1=>
  chk (inK .i64 (t64+1)) <|
  rec_ neg num ten den_1 t63 (t64+1) t2 t2_1 t2_2 t2_3
 )else (
  some (neg,num,den,t2,t2_1,t2_2,t2_3)
 )
def Zt0:Nat→Bool→ZoI→ZoI→ZoI→Int→Int→Bool→Bool→ZoI→ZoI→ZET
 |0,_,_,_,_,_,_,_,_,_,_=>none
 |n_+1,neg,num,ten,den,t63,t64,t2,t2_1,t2_2,t2_3=>ZsU (Zt0 n_) neg num ten den t63 t64 t2 t2_1 t2_2 t2_3
def Zxk (n:Nat) (s:(Bool×ZoI×ZoI×ZoI×Int×Int×Bool×Bool×ZoI×ZoI)):ZET:=Zt0 n s.1 s.2.1 s.2.2.1 s.2.2.2.1 s.2.2.2.2.1 s.2.2.2.2.2.1 s.2.2.2.2.2.2.1 s.2.2.2.2.2.2.2.1 s.2.2.2.2.2.2.2.2.1 s.2.2.2.2.2.2.2.2.2
def Zu4 (rec_:(Bool×ZoI×ZoI×ZoI×Int×Int×Bool×Bool×ZoI×ZoI)→ZET) (s:(Bool×ZoI×ZoI×ZoI×Int×Int×Bool×Bool×ZoI×ZoI)):ZET:=ZsU (fun neg num ten den t63 t64 t2 t2_1 t2_2 t2_3=>rec_ (neg,num,ten,den,t63,t64,t2,t2_1,t2_2,t2_3)) s.1 s.2.1 s.2.2.1 s.2.2.2.1 s.2.2.2.2.1 s.2.2.2.2.2.1 s.2.2.2.2.2.2.1 s.2.2.2.2.2.2.2.1 s.2.2.2.2.2.2.2.2.1 s.2.2.2.2.2.2.2.2.2
theorem Zy6:∀n s,Zxk (n+1) s=Zu4 (Zxk n) s:=fun _ _=>rfl
def Zv8 (neg:Bool) (back:Str) (num:ZoI) (ten:ZoI) (t2:Bool) (t2_1:Bool) (den:ZoI) (t2_2:ZoI) (t2_3:ZoI):ZDD:=
 (Zt0 big neg num ten den (back.length:Int) (0:Int) t2 t2_1 t2_2 t2_3).bind fun(x0,x1,x2,x3,x4,x5,x6)=>Zv7 x0 x1 x2 x3 x4 x5 x6
def ZsV (rec_:Bool→Str→ZoI→ZoI→Int→Int→Bool→Bool→ZoI→ZoI→ZoI→ZoI→ZJT) (neg:Bool) (back:Str) (num:ZoI) (ten:ZoI) (t48:Int) (t49:Int) (t2:Bool) (t2_1:Bool) (den:ZoI) (t47:ZoI) (t2_2:ZoI) (t2_3:ZoI):ZJT:=
 bif (decide (t49 < t48))then (
  chk (inR t49 (t47.length:Int)) <|
  (t47[(t49).toNat]?).bind fun d=>
  (Zqz num ten).bind fun q=>
  (Zst (IntKind.wrap .u64 (IntKind.wrap .u8 (d - 48)))).bind fun q_1=>
  (Zsi q q_1).bind fun num_1=>
  chk (inK .i64 (t49+1)) <|
  rec_ neg back num_1 ten t48 (t49+1) t2 t2_1 den t47 t2_2 t2_3
 )else (
  some (neg,back,num,ten,t2,t2_1,den,t2_2,t2_3)
 )
def Zt1:Nat→Bool→Str→ZoI→ZoI→Int→Int→Bool→Bool→ZoI→ZoI→ZoI→ZoI→ZJT
 |0,_,_,_,_,_,_,_,_,_,_,_,_=>none
 |n_+1,neg,back,num,ten,t48,t49,t2,t2_1,den,t47,t2_2,t2_3=>ZsV (Zt1 n_) neg back num ten t48 t49 t2 t2_1 den t47 t2_2 t2_3
def Zxl (n:Nat) (s:(Bool×Str×ZoI×ZoI×Int×Int×Bool×Bool×ZoI×ZoI×ZoI×ZoI)):ZJT:=Zt1 n s.1 s.2.1 s.2.2.1 s.2.2.2.1 s.2.2.2.2.1 s.2.2.2.2.2.1 s.2.2.2.2.2.2.1 s.2.2.2.2.2.2.2.1 s.2.2.2.2.2.2.2.2.1 s.2.2.2.2.2.2.2.2.2.1 s.2.2.2.2.2.2.2.2.2.2.1 s.2.2.2.2.2.2.2.2.2.2.2
def Zu5 (rec_:(Bool×Str×ZoI×ZoI×Int×Int×Bool×Bool×ZoI×ZoI×ZoI×ZoI)→ZJT) (s:(Bool×Str×ZoI×ZoI×Int×Int×Bool×Bool×ZoI×ZoI×ZoI×ZoI)):ZJT:=ZsV (fun neg back num ten t48 t49 t2 t2_1 den t47 t2_2 t2_3=>rec_ (neg,back,num,ten,t48,t49,t2,t2_1,den,t47,t2_2,t2_3)) s.1 s.2.1 s.2.2.1 s.2.2.2.1 s.2.2.2.2.1 s.2.2.2.2.2.1 s.2.2.2.2.2.2.1 s.2.2.2.2.2.2.2.1 s.2.2.2.2.2.2.2.2.1 s.2.2.2.2.2.2.2.2.2.1 s.2.2.2.2.2.2.2.2.2.2.1 s.2.2.2.2.2.2.2.2.2.2.2
theorem Zy7:∀n s,Zxl (n+1) s=Zu5 (Zxl n) s:=fun _ _=>rfl
def ZqW (neg:Bool) (front:Str) (back:Str) (t39:Bool) (t2:Bool) (t2_1:Bool) (t2_2:ZoI) (t2_3:ZoI):ZDD:=
 bif t39 then (
  some ((ZoF.mk (ZoL.mk false ([]:ZoI)) (ZoL.mk false ([]:ZoI))),false)
 )else (
  (ZpH ([1]:List Int)).bind fun den=>
  chk (decide (front.length+back.length≤Zr)) <|
  chk (decide ((front++back).length≤281474976710656)) <|
  (Zt1 big neg back ([]:ZoI) ([10]:ZoI) (((front++back).map fun b=>((b.toNat:Nat):Int)).length:Int) (0:Int) t2 t2_1 den ((front++back).map fun b=>((b.toNat:Nat):Int)) t2_2 t2_3).bind fun(x0,x1,x2,x3,x4,x5,x6,x7,x8)=>Zv8 x0 x1 x2 x3 x4 x5 x6 x7 x8
 )
def Zsj (body:Str) (neg:Bool) (t2:Bool) (t2_1:Bool) (t2_2:ZoI) (t2_3:ZoI):ZDD:=
 (Zxa body ([46]:Str)).bind fun(front,back,point)=>
 (ZuN front 15).bind fun q=>
 bif (!q)then (
  ZqW neg front back true t2 t2_1 t2_2 t2_3
 )else (
  bif point then (
   (ZuN back 9).bind fun q_1=>
   ZqW neg front back (!q_1) t2 t2_1 t2_2 t2_3
  )else (
   ZqW neg front back false t2 t2_1 t2_2 t2_3
  )
 )
def Zsu (text:Str):ZDD:=
 (ZuW text ([45]:Str)).bind fun(body,neg)=>
 bif (!neg)then (
  (Zuw text ([43]:Str)).bind fun body_1=>
  Zsj body_1 neg false false ([]:ZoI) ([]:ZoI)
 )else (
  Zsj body neg false false ([]:ZoI) ([]:ZoI)
 )
def ZvF (s cs:Str):Option Str:=
 chk (cs.all fun b=>decide (b.toNat < 128)) <| chk (decide (cs.length < 4294967281)) <| some (Lib.trimLeftS s cs)
def ZwV (s cs:Str):Option Str:=
 chk (cs.all fun b=>decide (b.toNat < 128)) <| chk (decide (cs.length < 4294967281)) <| some (Lib.trimRightS s cs)
def ZyI (zero:Str):Option Str:=
 some zero
def ZwD (rec_:Str→ZyY→Int→Int→ZEK) (zero:Str) (t6:ZyY) (t7:Int) (t8:Int):ZEK:=
 bif (decide (t8 < t7))then (
  (idx t6 t8).bind fun val=>
  bif (!(val == zero))then (
   some (.ret val)
  )else (
   chk (inK .i64 (t8+1)) <|
   rec_ zero t6 t7 (t8+1)
  )
 )else (
  some (.brk zero)
 )
def Zt2:Nat→Str→ZyY→Int→Int→ZEK
 |0,_,_,_,_=>none
 |n_+1,zero,t6,t7,t8=>ZwD (Zt2 n_) zero t6 t7 t8
def Zyc (n:Nat) (s:(Str×ZyY×Int×Int)):ZEK:=Zt2 n s.1 s.2.1 s.2.2.1 s.2.2.2
def Zyd (rec_:(Str×ZyY×Int×Int)→ZEK) (s:(Str×ZyY×Int×Int)):ZEK:=ZwD (fun zero t6 t7 t8=>rec_ (zero,t6,t7,t8)) s.1 s.2.1 s.2.2.1 s.2.2.2
theorem ZzQ:∀n s,Zyc (n+1) s=Zyd (Zyc n) s:=fun _ _=>rfl
def Zxo (vals:ZyY):Option Str:=
 (Zt2 big ([]:Str) vals (vals.length:Int) (0:Int)).bind fun
  | .ret q_=>some q_
  | .brk x0=>ZyI x0
def ZvA (out:Str):ZDC:=
 some (out,true)
def ZvB (out:Str) (t43:Bool):ZDC:=
 bif t43 then (
  chk (decide (([45]:Str).length+out.length≤Zr)) <|
  ZvA (([45]:Str)++out)
 )else (
  ZvA out
 )
def Zq2 (t:Str) (out:Str):ZDC:=
 (idx t 0).bind fun c=>
 bif (((c.toNat:Nat):Int) == 45)then (
  ZvB out (!(out == ([48]:Str)))
 )else (
  ZvB out false
 )
def ZvP (t:Str):ZDC:=
 (Zsu t).bind fun(q,ok)=>
 bif (!ok)then (
  some (([]:Str),false)
 )else (
  (ZvF t ([43,45]:Str)).bind fun q_1=>
  (Zxa q_1 ([46]:Str)).bind fun(front,back,q_2)=>
  (ZvF front ([48]:Str)).bind fun front_1=>
  (ZwV back ([48]:Str)).bind fun back_1=>
  (Zxo ([front_1,([48]:Str)]:ZyY)).bind fun out=>
  bif (!(back_1 == ([]:Str)))then (
   chk (decide (([46]:Str).length+back_1.length≤Zr)) <|
   chk (decide (out.length+(([46]:Str)++back_1).length≤Zr)) <|
   Zq2 t (out++(([46]:Str)++back_1))
  )else (
   Zq2 t out
  )
 )
def Zs2 (n:Int) (s:Str):ZDC:=
 (Zzp).bind fun q=>
 bif (!(Zhx (q:=ZBO) (k:=(.int .i64)) (v:=(.st 6)) (car:=Zvg) q n).isSome)then (
  some (([]:Str),false)
 )else (
  bif (Option.isNone (((Zhx (q:=ZBO) (k:=(.int .i64)) (v:=(.st 6)) (car:=Zvg) q n).getD (Zpy.mk ([]:Str) (none:Option Nat) (none:Option Nat))).canonical))then (
   some (s,true)
  )else (
   (Zyt s).bind fun q_1=>
   chk (decide (((Zhx (q:=ZBO) (k:=(.int .i64)) (v:=(.st 6)) (car:=Zvg) q n).getD (Zpy.mk ([]:Str) (none:Option Nat) (none:Option Nat))).canonical=some 216)) <|
   (ZvP q_1).bind fun(q_2,q_3)=>
   some (q_2,q_3)
  )
 )
def Zw7 (n:Int) (s:Str):ZDD:=
 (Zs2 n s).bind fun(t,ok)=>
 bif (!ok)then (
  some ((ZoF.mk (ZoL.mk false ([]:ZoI)) (ZoL.mk false ([]:ZoI))),false)
 )else (
  (Zzp).bind fun q=>
  chk (decide (((Zhx (q:=ZBO) (k:=(.int .i64)) (v:=(.st 6)) (car:=Zvg) q n).getD (Zpy.mk ([]:Str) (none:Option Nat) (none:Option Nat))).value=some 215)) <|
  (Zsu t).bind fun(q_1,q_2)=>
  some (q_1,q_2)
 )
def Zzq (c:ZoR):ZDD:=
 bif c.Null then (
  (Zvh).bind fun q=>
  some (q,false)
 )else (
  (Zw7 4 c.Text).bind fun(q_1,q_2)=>
  some (q_1,q_2)
 )
def ZvW (full:Int) (n:Int) (t2:Bool) (t2_1:Bool) (t2_2:ZoI) (t2_3:ZoI):Option ZoF:=
 (Zxe n (if (1:Int) > full then (1:Int)else full)).bind fun q=>
 some q
def Zsh (rec_:Tf_8) (full:Int) (n:Int) (t10:ZxL) (t11:Int) (t12:Int) (t2:Bool) (t2_1:Bool) (t2_2:ZoI) (t2_3:ZoI):ZDG:=
 chk (inK .i64 (t12+1)) <|
 rec_ full n t10 t11 (t12+1) t2 t2_1 t2_2 t2_3
def ZsQ (rec_:Tf_8) (full:Int) (n:Int) (t10:ZxL) (t11:Int) (t12:Int) (t2:Bool) (t2_1:Bool) (t2_2:ZoI) (t2_3:ZoI):ZDG:=
 bif (decide (t12 < t11))then (
  (idx t10 t12).bind fun x_=>
  bif x_.Null then (
   Zsh rec_ full n t10 t11 t12 t2 t2_1 t2_2 t2_3
  )else (
   chk (inK .i64 (full+1)) <|
   (Zzq x_).bind fun(q,ok)=>
   bif ok then (
    chk (inK .i64 (n+1)) <|
    Zsh rec_ (full+1) (n+1) t10 t11 t12 t2 t2_1 t2_2 t2_3
   )else (
    Zsh rec_ (full+1) n t10 t11 t12 t2 t2_1 t2_2 t2_3
   )
  )
 )else (
  some (full,n,t2,t2_1,t2_2,t2_3)
 )
def Zsg:Nat→Int→Int→ZxL→Int→Int→Bool→Bool→ZoI→ZoI→ZDG
 |0,_,_,_,_,_,_,_,_,_=>none
 |n_+1,full,n,t10,t11,t12,t2,t2_1,t2_2,t2_3=>ZsQ (Zsg n_) full n t10 t11 t12 t2 t2_1 t2_2 t2_3
def Zxb (n:Nat) (s:(Int×Int×ZxL×Int×Int×Bool×Bool×ZoI×ZoI)):ZDG:=Zsg n s.1 s.2.1 s.2.2.1 s.2.2.2.1 s.2.2.2.2.1 s.2.2.2.2.2.1 s.2.2.2.2.2.2.1 s.2.2.2.2.2.2.2.1 s.2.2.2.2.2.2.2.2
def ZuZ (rec_:(Int×Int×ZxL×Int×Int×Bool×Bool×ZoI×ZoI)→ZDG) (s:(Int×Int×ZxL×Int×Int×Bool×Bool×ZoI×ZoI)):ZDG:=ZsQ (fun full n t10 t11 t12 t2 t2_1 t2_2 t2_3=>rec_ (full,n,t10,t11,t12,t2,t2_1,t2_2,t2_3)) s.1 s.2.1 s.2.2.1 s.2.2.2.1 s.2.2.2.2.1 s.2.2.2.2.2.1 s.2.2.2.2.2.2.1 s.2.2.2.2.2.2.2.1 s.2.2.2.2.2.2.2.2
theorem Zy1:∀n s,Zxb (n+1) s=ZuZ (Zxb n) s:=fun _ _=>rfl
def Zxc (c:ZoJ):Option ZoF:=
 (Zsg big (0:Int) (0:Int) c.Cells (c.Cells.length:Int) (0:Int) false false ([]:ZoI) ([]:ZoI)).bind fun(x0,x1,x2,x3,x4,x5)=>ZvW x0 x1 x2 x3 x4 x5
def ZsH (c:ZoJ):Option ZoF:=ZBT (Zxc c)
def Zyz (a:ZoF) (b:ZoF):Option (ZoL×ZoL):=
 (ZoY a.Num b.Den).bind fun q=>
 (ZoY b.Num a.Den).bind fun q_1=>
 (Zvi q q_1).bind fun num=>
 (ZoY a.Den b.Den).bind fun den=>
 some (num,den)
def Zqx (t18:Bool) (a:ZoF) (b:ZoF) (t6:Bool) (t6_1:Bool) (t6_2:ZoI) (t6_3:ZoI):ZBh:=
 bif t18 then (
  some ((ZoF.mk (ZoL.mk false ([]:ZoI)) (ZoL.mk false ([]:ZoI))),1)
 )else (
  (Zyz a b).bind fun(num,den)=>
  bif ((den.Words.length:Int) == 0)then (
   some ((ZoF.mk (ZoL.mk false ([]:ZoI)) (ZoL.mk false ([]:ZoI))),8)
  )else (
   (Zqw num den).bind fun f=>
   bif (decide ((if (f.Den.Words.length:Int) > (f.Num.Words.length:Int)then (f.Den.Words.length:Int)else (f.Num.Words.length:Int)) > 256))then (
    some ((ZoF.mk (ZoL.mk false ([]:ZoI)) (ZoL.mk false ([]:ZoI))),3)
   )else (
    some (f,0)
   )
  )
 )
def Zqf (a:ZoF) (b:ZoF):ZBh:=
 (Zqk a).bind fun q=>
 bif (!q)then (
  Zqx true a b false false ([]:ZoI) ([]:ZoI)
 )else (
  (Zqk b).bind fun q_1=>
  Zqx (!q_1) a b false false ([]:ZoI) ([]:ZoI)
 )
def ZxN (a:ZoF) (b:ZoF):ZBh:=
 (Zqk b).bind fun q=>
 bif (!q)then (
  some ((ZoF.mk (ZoL.mk false ([]:ZoI)) (ZoL.mk false ([]:ZoI))),1)
 )else (
  (ZrT b.Num).bind fun q_1=>
  (Zqf a (ZoF.mk q_1 b.Den)).bind fun(q_2,q_3)=>
  some (q_2,q_3)
 )
def ZwW (f:ZoF) (a1:Int):Option ZoF:=
 some f
def Zy2 (a:ZoF) (b:ZoF):Option ZoF:=
 (ZxN a b).bind fun(q,q_1)=>
 (ZwW q q_1).bind fun q_2=>
 some q_2
def ZwP (a:ZoF) (b:ZoF):ZBh:=
 (Zqf a b).bind fun(q,q_1)=>
 some (q,q_1)
def Zyu (a:ZoF) (b:ZoF):Option ZoF:=
 (ZwP a b).bind fun(q,q_1)=>
 (ZwW q q_1).bind fun q_2=>
 some q_2
def ZyA (a:ZoF) (b:ZoF):Option (ZoL×ZoL):=
 (ZoY a.Num b.Den).bind fun num=>
 (ZoY a.Den b.Num).bind fun den=>
 some (num,den)
def Zp8 (t18:Bool) (a:ZoF) (b:ZoF) (t6:Bool) (t6_1:Bool) (t6_2:ZoI) (t6_3:ZoI):ZBh:=
 bif t18 then (
  some ((ZoF.mk (ZoL.mk false ([]:ZoI)) (ZoL.mk false ([]:ZoI))),1)
 )else (
  (ZyA a b).bind fun(num,den)=>
  bif ((den.Words.length:Int) == 0)then (
   some ((ZoF.mk (ZoL.mk false ([]:ZoI)) (ZoL.mk false ([]:ZoI))),8)
  )else (
   (Zqw num den).bind fun f=>
   bif (decide ((if (f.Den.Words.length:Int) > (f.Num.Words.length:Int)then (f.Den.Words.length:Int)else (f.Num.Words.length:Int)) > 256))then (
    some ((ZoF.mk (ZoL.mk false ([]:ZoI)) (ZoL.mk false ([]:ZoI))),3)
   )else (
    some (f,0)
   )
  )
 )
def ZsD (a:ZoF) (b:ZoF):ZBh:=
 (Zqk a).bind fun q=>
 bif (!q)then (
  Zp8 true a b false false ([]:ZoI) ([]:ZoI)
 )else (
  (Zqk b).bind fun q_1=>
  Zp8 (!q_1) a b false false ([]:ZoI) ([]:ZoI)
 )
def ZxO (a:ZoF) (b:ZoF):ZBh:=
 (ZsD a b).bind fun(q,q_1)=>
 some (q,q_1)
def ZzM (a:ZoF) (b:ZoF):Option ZoF:=
 (ZxO a b).bind fun(q,q_1)=>
 (ZwW q q_1).bind fun q_2=>
 some q_2
def ZtV (t4:Bool) (t4_1:Bool) (values:ZoF) (Zlk:ZoF) (apart:ZoF) (t4_2:ZoI) (t4_3:ZoI):Option ZoF:=
 (Zyu values values).bind fun q=>
 (Zyu q Zlk).bind fun q_1=>
 (Zxe 1 1).bind fun q_2=>
 (Zy2 q_2 apart).bind fun q_3=>
 (Zyu q_1 q_3).bind fun sum=>
 (Zxe 4 1).bind fun q_4=>
 (ZzM sum q_4).bind fun q_5=>
 some q_5
def Zsr (t24:Bool) (a:ZoJ) (b:ZoJ) (t4:Bool) (t4_1:Bool) (values:ZoF) (Zlk:ZoF) (t4_2:ZoI) (t4_3:ZoI):Option ZoF:=
 bif t24 then (
  (Zvh).bind fun q=>
  some q
 )else (
  (ZsH a).bind fun q_1=>
  (ZsH b).bind fun q_2=>
  (Zy2 q_1 q_2).bind fun apart=>
  (Zwj apart).bind fun q_3=>
  bif (decide (q_3 < 0))then (
   (Zvh).bind fun q_4=>
   (Zy2 q_4 apart).bind fun apart_1=>
   ZtV t4 t4_1 values Zlk apart_1 t4_2 t4_3
  )else (
   ZtV t4 t4_1 values Zlk apart t4_2 t4_3
  )
 )
def Zxd (a:ZoJ) (b:ZoJ):Option ZoF:=
 (ZuY a b).bind fun values=>
 (ZvG a.Name b.Name).bind fun Zlk=>
 (Zwj values).bind fun q=>
 bif (q == 0)then (
  (Zwj Zlk).bind fun q_1=>
  Zsr (q_1 == 0) a b false false values Zlk ([]:ZoI) ([]:ZoI)
 )else (
  Zsr false a b false false values Zlk ([]:ZoI) ([]:ZoI)
 )
def Zv9:Option Int:=
 some (0:Int)
def Zwa (rec_:ZK6) (t38:(List Zq1)) (t39:Int) (t40:Int):ZxC:=
 chk (inK .i64 (t40+1)) <|
 rec_ t38 t39 (t40+1)
def ZsW (rec_:(List Zq1)→Int→Int→Zq1→Int→Int→ZEP) (t38:(List Zq1)) (t39:Int) (t40:Int) (t44:Zq1) (t45:Int) (t46:Int):ZEP:=
 bif (decide (t46 < t45))then (
  (idx t44 t46).bind fun x_=>
  (Zwj x_).bind fun q=>
  bif (decide (q < 0))then (
   some (.ret (2:Int))
  )else (
   chk (inK .i64 (t46+1)) <|
   rec_ t38 t39 t40 t44 t45 (t46+1)
  )
 )else (
  some (.brk (t38,t39,t40))
 )
def Zt3:Nat→(List Zq1)→Int→Int→Zq1→Int→Int→ZEP
 |0,_,_,_,_,_,_=>none
 |n_+1,t38,t39,t40,t44,t45,t46=>ZsW (Zt3 n_) t38 t39 t40 t44 t45 t46
def Zxp (n:Nat) (s:((List Zq1)×Int×Int×Zq1×Int×Int)):ZEP:=Zt3 n s.1 s.2.1 s.2.2.1 s.2.2.2.1 s.2.2.2.2.1 s.2.2.2.2.2
def Zu6 (rec_:((List Zq1)×Int×Int×Zq1×Int×Int)→ZEP) (s:((List Zq1)×Int×Int×Zq1×Int×Int)):ZEP:=ZsW (fun t38 t39 t40 t44 t45 t46=>rec_ (t38,t39,t40,t44,t45,t46)) s.1 s.2.1 s.2.2.1 s.2.2.2.1 s.2.2.2.2.1 s.2.2.2.2.2
theorem Zy8:∀n s,Zxp (n+1) s=Zu6 (Zxp n) s:=fun _ _=>rfl
def ZsX (rec_:ZK6) (t38:(List Zq1)) (t39:Int) (t40:Int):ZxC:=
 bif (decide (t40 < t39))then (
  (idx t38 t40).bind fun row=>
  (Zt3 big t38 t39 t40 row (row.length:Int) (0:Int)).bind fun
   | .ret q_=>some (.ret q_)
   | .brk (x0,x1,x2)=>Zwa rec_ x0 x1 x2
 )else (
  some (.brk ())
 )
def Zsk:Nat→(List Zq1)→Int→Int→ZxC
 |0,_,_,_=>none
 |n_+1,t38,t39,t40=>ZsX (Zsk n_) t38 t39 t40
def Zxq (n:Nat) (s:((List Zq1)×Int×Int)):ZxC:=Zsk n s.1 s.2.1 s.2.2
def Zu7 (rec_:((List Zq1)×Int×Int)→ZxC) (s:((List Zq1)×Int×Int)):ZxC:=ZsX (fun t38 t39 t40=>rec_ (t38,t39,t40)) s.1 s.2.1 s.2.2
theorem Zy9:∀n s,Zxq (n+1) s=Zu7 (Zxq n) s:=fun _ _=>rfl
def Zwb (w_:(List Zq1)):Option Int:=
 (Zsk big w_ (w_.length:Int) (0:Int)).bind fun
  | .ret q_=>some q_
  | .brk ()=>Zv9
def ZsY (rec_:ZLc) (w_:(List Zq1)) (t24:(List Zq1)) (t25:Int) (t26:Int):ZBQ:=
 bif (decide (t26 < t25))then (
  (idx t24 t26).bind fun row=>
  (idx w_ 0).bind fun w__e=>
  bif ((row.length:Int) != (w__e.length:Int))then (
   some (.ret (1:Int))
  )else (
   chk (inK .i64 (t26+1)) <|
   rec_ w_ t24 t25 (t26+1)
  )
 )else (
  some (.brk w_)
 )
def Zt4:Nat→(List Zq1)→(List Zq1)→Int→Int→ZBQ
 |0,_,_,_,_=>none
 |n_+1,w_,t24,t25,t26=>ZsY (Zt4 n_) w_ t24 t25 t26
def Zxr (n:Nat) (s:((List Zq1)×(List Zq1)×Int×Int)):ZBQ:=Zt4 n s.1 s.2.1 s.2.2.1 s.2.2.2
def Zu8 (rec_:ZLe) (s:((List Zq1)×(List Zq1)×Int×Int)):ZBQ:=ZsY (fun w_ t24 t25 t26=>rec_ (w_,t24,t25,t26)) s.1 s.2.1 s.2.2.1 s.2.2.2
theorem Zza:∀n s,Zxr (n+1) s=Zu8 (Zxr n) s:=fun _ _=>rfl
def Zwc (w_:(List Zq1)):Option Int:=
 (Zt4 big w_ w_ (w_.length:Int) (0:Int)).bind fun
  | .ret q_=>some q_
  | .brk x0=>Zwb x0
def ZsZ (rec_:ZLc) (w_:(List Zq1)) (t14:(List Zq1)) (t15:Int) (t16:Int):ZBQ:=
 bif (decide (t16 < t15))then (
  (idx t14 t16).bind fun row=>
  bif (decide ((row.length:Int) > 8))then (
   some (.ret (3:Int))
  )else (
   chk (inK .i64 (t16+1)) <|
   rec_ w_ t14 t15 (t16+1)
  )
 )else (
  some (.brk w_)
 )
def Zt5:Nat→(List Zq1)→(List Zq1)→Int→Int→ZBQ
 |0,_,_,_,_=>none
 |n_+1,w_,t14,t15,t16=>ZsZ (Zt5 n_) w_ t14 t15 t16
def Zxs (n:Nat) (s:((List Zq1)×(List Zq1)×Int×Int)):ZBQ:=Zt5 n s.1 s.2.1 s.2.2.1 s.2.2.2
def Zu9 (rec_:ZLe) (s:((List Zq1)×(List Zq1)×Int×Int)):ZBQ:=ZsZ (fun w_ t14 t15 t16=>rec_ (w_,t14,t15,t16)) s.1 s.2.1 s.2.2.1 s.2.2.2
theorem Zzb:∀n s,Zxs (n+1) s=Zu9 (Zxs n) s:=fun _ _=>rfl
def ZvK (w_:(List Zq1)):Option Int:=
 bif (decide ((w_.length:Int) > 8))then (
  some (3:Int)
 )else (
  (Zt5 big w_ w_ (w_.length:Int) (0:Int)).bind fun
   | .ret q_=>some q_
   | .brk x0=>Zwc x0
 )
def ZpG (rf_:(List Zq1)→Int→Int→(List (ZoQ×ZoF))→ZEd) (f:(List Zq1)) (i:Int) (used:Int) (k:Int) (t28:Bool) (f_1:(List (ZoQ×ZoF))) (t8:Bool) (t8_1:Bool) (t8_2:ZoI) (t8_3:ZoI):Tr_7:=
 bif t28 then (
  (Zvh).bind fun q=>
  some (q,false,f_1)
 )else (
  (idx f i).bind fun f_e=>
  (idx f_e k).bind fun f_e_e=>
  chk (inK .i64 (i+1)) <|
  chk (decide (0≤k)) <|
  (rf_ f (i+1) (orK .i64 used (shlK .i64 1 k)) f_1).bind fun(q_1,m)=>
  (Zyu f_e_e q_1).bind fun q_2=>
  some (q_2,true,m)
 )
def Zp5 (rf_:(List Zq1)→Int→Int→(List (ZoQ×ZoF))→ZEd) (f:(List Zq1)) (i:Int) (used:Int) (k:Int) (m:(List (ZoQ×ZoF))):Tr_7:=
 chk (decide (0≤k)) <|
 bif ((andK .i64 (shrK .i64 used k) 1) == 1)then (
  ZpG rf_ f i used k true m false false ([]:ZoI) ([]:ZoI)
 )else (
  (idx f i).bind fun f_e=>
  (idx f_e k).bind fun f_e_e=>
  (Zwj f_e_e).bind fun q=>
  ZpG rf_ f i used k (q == 0) m false false ([]:ZoI) ([]:ZoI)
 )
def Ztn (rf_:(List Zq1)→Int→Int→(List (ZoQ×ZoF))→ZEd) (f:(List Zq1)) (f_1:(List (ZoQ×ZoF))) (t6:Bool) (t6_1:Bool) (key:ZoQ) (best:ZoF) (t6_2:ZoI) (t6_3:ZoI):ZEd:=
 some (best,(setB (q:=ZBO) (k:=(.st 7)) (v:=(.st 4)) (car:=Zvg) f_1 key best))
def Zqg (rf_:(List Zq1)→Int→Int→(List (ZoQ×ZoF))→ZEd) (rec_:ZMU) (f:(List Zq1)) (i:Int) (used:Int) (t48:Int) (k:Int) (f_1:(List (ZoQ×ZoF))) (t6:Bool) (t6_1:Bool) (key:ZoQ) (best:ZoF) (t6_2:ZoI) (t6_3:ZoI):ZHw:=
 chk (inK .i64 (k+1)) <|
 rec_ f i used t48 (k+1) f_1 t6 t6_1 key best t6_2 t6_3
def Zqh (rf_:(List Zq1)→Int→Int→(List (ZoQ×ZoF))→ZEd) (rec_:ZMU) (f:(List Zq1)) (i:Int) (used:Int) (t48:Int) (k:Int) (t66:Bool) (f_1:(List (ZoQ×ZoF))) (t6:Bool) (t6_1:Bool) (key:ZoQ) (best:ZoF) (x_:ZoF) (t6_2:ZoI) (t6_3:ZoI):ZHw:=
 bif t66 then (
  Zqg rf_ rec_ f i used t48 k f_1 t6 t6_1 key x_ t6_2 t6_3
 )else (
  Zqg rf_ rec_ f i used t48 k f_1 t6 t6_1 key best t6_2 t6_3
 )
def ZqR (rf_:(List Zq1)→Int→Int→(List (ZoQ×ZoF))→ZEd) (rec_:ZMU) (f:(List Zq1)) (i:Int) (used:Int) (t48:Int) (k:Int) (f_1:(List (ZoQ×ZoF))) (t6:Bool) (t6_1:Bool) (key:ZoQ) (best:ZoF) (t6_2:ZoI) (t6_3:ZoI):ZHw:=
 bif (decide (k < t48))then (
  (Zp5 rf_ f i used k f_1).bind fun(x_,ok,m)=>
  bif ok then (
   (Zun x_ best).bind fun q=>
   Zqh rf_ rec_ f i used t48 k (decide (q > 0)) m t6 t6_1 key best x_ t6_2 t6_3
  )else (
   Zqh rf_ rec_ f i used t48 k false m t6 t6_1 key best x_ t6_2 t6_3
  )
 )else (
  some (f,f_1,t6,t6_1,key,best,t6_2,t6_3)
 )
def ZoW (rf_:(List Zq1)→Int→Int→(List (ZoQ×ZoF))→ZEd):Nat→(List Zq1)→Int→Int→Int→Int→(List (ZoQ×ZoF))→Bool→Bool→ZoQ→ZoF→ZoI→ZoI→ZHw
 |0,_,_,_,_,_,_,_,_,_,_,_,_=>none
 |n_+1,f,i,used,t48,k,f_1,t6,t6_1,key,best,t6_2,t6_3=>ZqR rf_ (ZoW rf_ n_) f i used t48 k f_1 t6 t6_1 key best t6_2 t6_3
def Zve (rf_:(List Zq1)→Int→Int→(List (ZoQ×ZoF))→ZEd) (n:Nat) (s:((List Zq1)×Int×Int×Int×Int×(List (ZoQ×ZoF))×Bool×Bool×ZoQ×ZoF×ZoI×ZoI)):ZHw:=ZoW rf_ n s.1 s.2.1 s.2.2.1 s.2.2.2.1 s.2.2.2.2.1 s.2.2.2.2.2.1 s.2.2.2.2.2.2.1 s.2.2.2.2.2.2.2.1 s.2.2.2.2.2.2.2.2.1 s.2.2.2.2.2.2.2.2.2.1 s.2.2.2.2.2.2.2.2.2.2.1 s.2.2.2.2.2.2.2.2.2.2.2
def Zx6 (rf_:(List Zq1)→Int→Int→(List (ZoQ×ZoF))→ZEd) (rec_:((List Zq1)×Int×Int×Int×Int×(List (ZoQ×ZoF))×Bool×Bool×ZoQ×ZoF×ZoI×ZoI)→ZHw) (s:((List Zq1)×Int×Int×Int×Int×(List (ZoQ×ZoF))×Bool×Bool×ZoQ×ZoF×ZoI×ZoI)):ZHw:=ZqR rf_ (fun f i used t48 k f_1 t6 t6_1 key best t6_2 t6_3=>rec_ (f,i,used,t48,k,f_1,t6,t6_1,key,best,t6_2,t6_3)) s.1 s.2.1 s.2.2.1 s.2.2.2.1 s.2.2.2.2.1 s.2.2.2.2.2.1 s.2.2.2.2.2.2.1 s.2.2.2.2.2.2.2.1 s.2.2.2.2.2.2.2.2.1 s.2.2.2.2.2.2.2.2.2.1 s.2.2.2.2.2.2.2.2.2.2.1 s.2.2.2.2.2.2.2.2.2.2.2
theorem ZA3 (rf_:(List Zq1)→Int→Int→(List (ZoQ×ZoF))→ZEd):∀n s,Zve rf_ (n+1) s=Zx6 rf_ (Zve rf_ n) s:=fun _ _=>rfl
def ZtO (rf_:(List Zq1)→Int→Int→(List (ZoQ×ZoF))→ZEd) (f:(List Zq1)) (i:Int) (used:Int) (m:(List (ZoQ×ZoF))):ZEd:=
 bif (i == (f.length:Int))then (
  (Zvh).bind fun q=>
  some (q,m)
 )else (
  bif (Zhx (q:=ZBO) (k:=(.st 7)) (v:=(.st 4)) (car:=Zvg) m (ZoQ.mk i used)).isSome then (
   some (((Zhx (q:=ZBO) (k:=(.st 7)) (v:=(.st 4)) (car:=Zvg) m (ZoQ.mk i used)).getD (ZoF.mk (ZoL.mk false ([]:ZoI)) (ZoL.mk false ([]:ZoI)))),m)
  )else (
   chk (inK .i64 (i+1)) <|
   (rf_ f (i+1) used m).bind fun(best,m_1)=>
   (idx f i).bind fun f_e=>
   (ZoW rf_ big f i used (f_e.length:Int) (0:Int) m_1 false false (ZoQ.mk i used) best ([]:ZoI) ([]:ZoI)).bind fun(x0,x1,x2,x3,x4,x5,x6,x7)=>Ztn rf_ x0 x1 x2 x3 x4 x5 x6 x7
  )
 )
def ZoP:Nat→(List Zq1)→Int→Int→(List (ZoQ×ZoF))→ZEd
 |0,_,_,_,_=>none
 |n_+1,f,i,used,m=>ZtO (ZoP n_) f i used m
def ZAx (f:ZoF):Option ZoF:=
 chk (ZjC f.Num.Words.length 4) <|
 chk (ZjC f.Den.Words.length 4) <|
 some f
def ZwF (f:(List Zq1)) (t3:Bool) (t3_1:Bool) (f_1:(List (ZoQ×ZoF))) (out:ZoI) (t3_2:ZoI) (t3_3:ZoI):ZEO:=
 (ZoP big f 0 0 f_1).bind fun(q,m)=>
 (ZAx q).bind fun q_1=>
 some (out,q_1,0)
def ZwG (rec_:Tf_2) (f:(List Zq1)) (used:Int) (take:Int) (t26:(List Zq1)) (t27:Int) (i:Int) (t3:Bool) (t3_1:Bool) (f_1:(List (ZoQ×ZoF))) (out:ZoI) (t3_2:ZoI) (t3_3:ZoI):ZMe:=
 chk (ZjC (out.length+([take]:ZoI).length) 8) <|
 chk (inK .i64 (i+1)) <|
 rec_ f used t26 t27 (i+1) t3 t3_1 f_1 (out++([take]:ZoI)) t3_2 t3_3
def Zrn (rec_:Tf_0) (f:(List Zq1)) (used:Int) (i:Int) (take:Int) (k:Int) (t26:(List Zq1)) (t27:Int) (i_1:Int) (t38:Int) (k_1:Int) (t56:Bool) (t3:Bool) (t3_1:Bool) (f_1:(List (ZoQ×ZoF))) (out:ZoI) (best:ZoF) (t3_2:ZoI) (t3_3:ZoI):ZMf:=
 bif t56 then (
  chk (decide (0≤k)) <|
  some (f,(orK .i64 used (shlK .i64 1 k)),k,t26,t27,i_1,t3,t3_1,f_1,out,t3_2,t3_3)
 )else (
  chk (inK .i64 (k_1+1)) <|
  rec_ f used i take t26 t27 i_1 t38 (k_1+1) t3 t3_1 f_1 out best t3_2 t3_3
 )
def Zvv (rec_:Tf_0) (f:(List Zq1)) (used:Int) (i:Int) (take:Int) (t26:(List Zq1)) (t27:Int) (i_1:Int) (t38:Int) (k:Int) (t3:Bool) (t3_1:Bool) (f_1:(List (ZoQ×ZoF))) (out:ZoI) (best:ZoF) (t3_2:ZoI) (t3_3:ZoI):ZMf:=
 bif (decide (k < t38))then (
  (Zp5 (ZoP big) f i used k f_1).bind fun(x_,ok,m)=>
  bif ok then (
   (Zun x_ best).bind fun q=>
   Zrn rec_ f used i take k t26 t27 i_1 t38 k (q == 0) t3 t3_1 m out best t3_2 t3_3
  )else (
   Zrn rec_ f used i take k t26 t27 i_1 t38 k false t3 t3_1 m out best t3_2 t3_3
  )
 )else (
  some (f,used,take,t26,t27,i_1,t3,t3_1,f_1,out,t3_2,t3_3)
 )
def ZpD:Nat→(List Zq1)→Int→Int→Int→(List Zq1)→Int→Int→Int→Int→Bool→Bool→(List (ZoQ×ZoF))→ZoI→ZoF→ZoI→ZoI→ZMf
 |0,_,_,_,_,_,_,_,_,_,_,_,_,_,_,_,_=>none
 |n_+1,f,used,i,take,t26,t27,i_1,t38,k,t3,t3_1,f_1,out,best,t3_2,t3_3=>Zvv (ZpD n_) f used i take t26 t27 i_1 t38 k t3 t3_1 f_1 out best t3_2 t3_3
def Zvw (rec_:Tf_2) (f:(List Zq1)) (used:Int) (t26:(List Zq1)) (t27:Int) (i:Int) (t3:Bool) (t3_1:Bool) (f_1:(List (ZoQ×ZoF))) (out:ZoI) (t3_2:ZoI) (t3_3:ZoI):ZMe:=
 bif (decide (i < t27))then (
  (idx t26 i).bind fun row=>
  (ZoP big f i used f_1).bind fun(best,m)=>
  (ZpD big f used i (-1:Int) t26 t27 i (row.length:Int) (0:Int) t3 t3_1 m out best t3_2 t3_3).bind fun(x0,x1,x2,x3,x4,x5,x6,x7,x8,x9,x10,x11)=>ZwG rec_ x0 x1 x2 x3 x4 x5 x6 x7 x8 x9 x10 x11
 )else (
  some (f,t3,t3_1,f_1,out,t3_2,t3_3)
 )
def ZpX:Nat→(List Zq1)→Int→(List Zq1)→Int→Int→Bool→Bool→(List (ZoQ×ZoF))→ZoI→ZoI→ZoI→ZMe
 |0,_,_,_,_,_,_,_,_,_,_,_=>none
 |n_+1,f,used,t26,t27,i,t3,t3_1,f_1,out,t3_2,t3_3=>Zvw (ZpX n_) f used t26 t27 i t3 t3_1 f_1 out t3_2 t3_3
def Zwo (w_:(List Zq1)):ZEO:=
 (ZvK w_).bind fun e=>
 bif (e != 0)then (
  some (([]:ZoI),(ZoF.mk (ZoL.mk false ([]:ZoI)) (ZoL.mk false ([]:ZoI))),e)
 )else (
  (ZpX big w_ (0:Int) w_ (w_.length:Int) (0:Int) false false ([]:(List (ZoQ×ZoF))) ([]:ZoI) ([]:ZoI) ([]:ZoI)).bind fun(x0,x1,x2,x3,x4,x5,x6)=>ZwF x0 x1 x2 x3 x4 x5 x6
 )
def Zvo (a:ZoG) (b:ZoG) (t5:Bool) (t5_1:Bool) (w_:(List Zq1)) (t5_2:ZoI) (t5_3:ZoI):ZEO:=
 (Zwo w_).bind fun(l,weight,e)=>
 bif (e != 0)then (
  some (([]:ZoI),(ZoF.mk (ZoL.mk false ([]:ZoI)) (ZoL.mk false ([]:ZoI))),e)
 )else (
  (Zxe (if (1:Int) > (if (b.Columns.length:Int) > (a.Columns.length:Int)then (b.Columns.length:Int)else (a.Columns.length:Int))then (1:Int)else (if (b.Columns.length:Int) > (a.Columns.length:Int)then (b.Columns.length:Int)else (a.Columns.length:Int))) 1).bind fun q=>
  (ZzM weight q).bind fun q_1=>
  some (l,q_1,0)
 )
def Zvp (rec_:Tf_3) (t39:Zro) (t40:Int) (t41:Int) (a:ZoG) (b:ZoG) (t5:Bool) (t5_1:Bool) (w_:(List Zq1)) (row:Zq1) (t5_2:ZoI) (t5_3:ZoI):ZI0:=
 chk (ZjC (w_.length+([row]:(List Zq1)).length) 24) <|
 chk (inK .i64 (t41+1)) <|
 rec_ t39 t40 (t41+1) a b t5 t5_1 (w_++([row]:(List Zq1))) t5_2 t5_3
def Zso (rec_:Zro→Int→Int→Zro→Int→Int→ZoG→ZoG→Bool→Bool→(List Zq1)→ZoJ→Zq1→ZoI→ZoI→ZJV) (t39:Zro) (t40:Int) (t41:Int) (t47:Zro) (t48:Int) (t49:Int) (a:ZoG) (b:ZoG) (t5:Bool) (t5_1:Bool) (w_:(List Zq1)) (x_:ZoJ) (row:Zq1) (t5_2:ZoI) (t5_3:ZoI):ZJV:=
 bif (decide (t49 < t48))then (
  (idx t47 t49).bind fun y=>
  (Zxd x_ y).bind fun q=>
  chk (ZjC (row.length+([q]:Zq1).length) 64) <|
  chk (inK .i64 (t49+1)) <|
  rec_ t39 t40 t41 t47 t48 (t49+1) a b t5 t5_1 w_ x_ (row++([q]:Zq1)) t5_2 t5_3
 )else (
  some (t39,t40,t41,a,b,t5,t5_1,w_,row,t5_2,t5_3)
 )
def Ztu:Nat→Zro→Int→Int→Zro→Int→Int→ZoG→ZoG→Bool→Bool→(List Zq1)→ZoJ→Zq1→ZoI→ZoI→ZJV
 |0,_,_,_,_,_,_,_,_,_,_,_,_,_,_,_=>none
 |n_+1,t39,t40,t41,t47,t48,t49,a,b,t5,t5_1,w_,x_,row,t5_2,t5_3=>Zso (Ztu n_) t39 t40 t41 t47 t48 t49 a b t5 t5_1 w_ x_ row t5_2 t5_3
def Zw2 (n:Nat) (s:(Zro×Int×Int×Zro×Int×Int×ZoG×ZoG×Bool×Bool×(List Zq1)×ZoJ×Zq1×ZoI×ZoI)):ZJV:=Ztu n s.1 s.2.1 s.2.2.1 s.2.2.2.1 s.2.2.2.2.1 s.2.2.2.2.2.1 s.2.2.2.2.2.2.1 s.2.2.2.2.2.2.2.1 s.2.2.2.2.2.2.2.2.1 s.2.2.2.2.2.2.2.2.2.1 s.2.2.2.2.2.2.2.2.2.2.1 s.2.2.2.2.2.2.2.2.2.2.2.1 s.2.2.2.2.2.2.2.2.2.2.2.2.1 s.2.2.2.2.2.2.2.2.2.2.2.2.2.1 s.2.2.2.2.2.2.2.2.2.2.2.2.2.2
def ZuF (rec_:(Zro×Int×Int×Zro×Int×Int×ZoG×ZoG×Bool×Bool×(List Zq1)×ZoJ×Zq1×ZoI×ZoI)→ZJV) (s:(Zro×Int×Int×Zro×Int×Int×ZoG×ZoG×Bool×Bool×(List Zq1)×ZoJ×Zq1×ZoI×ZoI)):ZJV:=Zso (fun t39 t40 t41 t47 t48 t49 a b t5 t5_1 w_ x_ row t5_2 t5_3=>rec_ (t39,t40,t41,t47,t48,t49,a,b,t5,t5_1,w_,x_,row,t5_2,t5_3)) s.1 s.2.1 s.2.2.1 s.2.2.2.1 s.2.2.2.2.1 s.2.2.2.2.2.1 s.2.2.2.2.2.2.1 s.2.2.2.2.2.2.2.1 s.2.2.2.2.2.2.2.2.1 s.2.2.2.2.2.2.2.2.2.1 s.2.2.2.2.2.2.2.2.2.2.1 s.2.2.2.2.2.2.2.2.2.2.2.1 s.2.2.2.2.2.2.2.2.2.2.2.2.1 s.2.2.2.2.2.2.2.2.2.2.2.2.2.1 s.2.2.2.2.2.2.2.2.2.2.2.2.2.2
theorem ZyQ:∀n s,Zw2 (n+1) s=ZuF (Zw2 n) s:=fun _ _=>rfl
def Zsp (rec_:Tf_3) (t39:Zro) (t40:Int) (t41:Int) (a:ZoG) (b:ZoG) (t5:Bool) (t5_1:Bool) (w_:(List Zq1)) (t5_2:ZoI) (t5_3:ZoI):ZI0:=
 bif (decide (t41 < t40))then (
  (idx t39 t41).bind fun x_=>
  (Ztu big t39 t40 t41 b.Columns (b.Columns.length:Int) (0:Int) a b t5 t5_1 w_ x_ ([]:Zq1) t5_2 t5_3).bind fun(x0,x1,x2,x3,x4,x5,x6,x7,x8,x9,x10)=>Zvp rec_ x0 x1 x2 x3 x4 x5 x6 x7 x8 x9 x10
 )else (
  some (a,b,t5,t5_1,w_,t5_2,t5_3)
 )
def ZrG:Nat→Zro→Int→Int→ZoG→ZoG→Bool→Bool→(List Zq1)→ZoI→ZoI→ZI0
 |0,_,_,_,_,_,_,_,_,_,_=>none
 |n_+1,t39,t40,t41,a,b,t5,t5_1,w_,t5_2,t5_3=>Zsp (ZrG n_) t39 t40 t41 a b t5 t5_1 w_ t5_2 t5_3
def Zw3 (n:Nat) (s:(Zro×Int×Int×ZoG×ZoG×Bool×Bool×(List Zq1)×ZoI×ZoI)):ZI0:=ZrG n s.1 s.2.1 s.2.2.1 s.2.2.2.1 s.2.2.2.2.1 s.2.2.2.2.2.1 s.2.2.2.2.2.2.1 s.2.2.2.2.2.2.2.1 s.2.2.2.2.2.2.2.2.1 s.2.2.2.2.2.2.2.2.2
def ZuG (rec_:(Zro×Int×Int×ZoG×ZoG×Bool×Bool×(List Zq1)×ZoI×ZoI)→ZI0) (s:(Zro×Int×Int×ZoG×ZoG×Bool×Bool×(List Zq1)×ZoI×ZoI)):ZI0:=Zsp (fun t39 t40 t41 a b t5 t5_1 w_ t5_2 t5_3=>rec_ (t39,t40,t41,a,b,t5,t5_1,w_,t5_2,t5_3)) s.1 s.2.1 s.2.2.1 s.2.2.2.1 s.2.2.2.2.1 s.2.2.2.2.2.1 s.2.2.2.2.2.2.1 s.2.2.2.2.2.2.2.1 s.2.2.2.2.2.2.2.2.1 s.2.2.2.2.2.2.2.2.2
theorem ZyR:∀n s,Zw3 (n+1) s=ZuG (Zw3 n) s:=fun _ _=>rfl
def Ztv (t26:Bool) (a:ZoG) (b:ZoG) (t5:Bool) (t5_1:Bool) (t5_2:ZoI) (t5_3:ZoI):ZEO:=
 bif t26 then (
  some (([]:ZoI),(ZoF.mk (ZoL.mk false ([]:ZoI)) (ZoL.mk false ([]:ZoI))),3)
 )else (
  (ZrG big a.Columns (a.Columns.length:Int) (0:Int) a b t5 t5_1 ([]:(List Zq1)) t5_2 t5_3).bind fun(x0,x1,x2,x3,x4,x5,x6)=>Zvo x0 x1 x2 x3 x4 x5 x6
 )
def Ztw (t16:Bool) (a:ZoG) (b:ZoG) (t5:Bool) (t5_1:Bool) (t5_2:ZoI) (t5_3:ZoI):ZEO:=
 bif t16 then (
  some (([]:ZoI),(ZoF.mk (ZoL.mk false ([]:ZoI)) (ZoL.mk false ([]:ZoI))),1)
 )else (
  bif (decide ((a.Columns.length:Int) > 8))then (
   Ztv true a b t5 t5_1 t5_2 t5_3
  )else (
   Ztv (decide ((b.Columns.length:Int) > 8)) a b t5 t5_1 t5_2 t5_3
  )
 )
def ZpM (a:ZoG) (b:ZoG):ZEO:=
 (ZqO a).bind fun q=>
 bif (!q)then (
  Ztw true a b false false ([]:ZoI) ([]:ZoI)
 )else (
  (ZqO b).bind fun q_1=>
  Ztw (!q_1) a b false false ([]:ZoI) ([]:ZoI)
 )
def Zuh:Option Int:=
 some (-1:Int)
def Zra (rec_:ZoI→Int→Int→Int→ZxC) (s:ZoI) (v_:Int) (t7:Int) (i:Int):ZxC:=
 bif (decide (i < t7))then (
  (idx s i).bind fun s_e=>
  bif (v_ == s_e)then (
   some (.ret i)
  )else (
   chk (inK .i64 (i+1)) <|
   rec_ s v_ t7 (i+1)
  )
 )else (
  some (.brk ())
 )
def ZqH:Nat→ZoI→Int→Int→Int→ZxC
 |0,_,_,_,_=>none
 |n_+1,s,v_,t7,i=>Zra (ZqH n_) s v_ t7 i
def ZvV (n:Nat) (s:(ZoI×Int×Int×Int)):ZxC:=ZqH n s.1 s.2.1 s.2.2.1 s.2.2.2
def Ztd (rec_:(ZoI×Int×Int×Int)→ZxC) (s:(ZoI×Int×Int×Int)):ZxC:=Zra (fun s v_ t7 i=>rec_ (s,v_,t7,i)) s.1 s.2.1 s.2.2.1 s.2.2.2
theorem Zyl:∀n s,ZvV (n+1) s=Ztd (ZvV n) s:=fun _ _=>rfl
def Zvs (s:ZoI) (v_:Int):Option Int:=
 (ZqH big s v_ (s.length:Int) (0:Int)).bind fun
  | .ret q_=>some q_
  | .brk ()=>Zuh
def Zr6 (s:ZoI) (v_:Int):Option Bool:=
 (Zvs s v_).bind fun q=>
 some (decide (q≥0))
def Zo1 (s:Zro) (t4:Bool):Option Zro:=
 bif t4 then (
  some ([]:Zro)
 )else (
  chk (ZjC (([]:Zro).length+s.length) 40) <|
  some (([]:Zro)++s)
 )
def ZpI (s:Zro):Option Zro:=
 bif (List.isEmpty s)then agree (
  Zo1 s true
 ) (
  Zo1 s false
 )else (
  Zo1 s false
 )
def Zo7 (s:ZxL) (t4:Bool):Option ZxL:=
 bif t4 then (
  some ([]:ZxL)
 )else (
  chk (ZjC (([]:ZxL).length+s.length) 24) <|
  some (([]:ZxL)++s)
 )
def Zp6 (s:ZxL):Option ZxL:=
 bif (List.isEmpty s)then agree (
  Zo7 s true
 ) (
  Zo7 s false
 )else (
  Zo7 s false
 )
def ZyT (t:Int) (t_1:Str) (t2:Int) (t2_1:Str) (t_2:Zro) (t_lo:Nat) (t2_2:Zro):Option (ZoG×Nat):=
 some ((ZoG.mk t t_1 t_2),t_lo)
def ZwS (rec_:Int→Int→Int→Str→Int→Str→Zro→Nat→Zro→ZER) (t11:Int) (i:Int) (t:Int) (t_1:Str) (t2:Int) (t2_1:Str) (t10:Zro) (t10_lo:Nat) (t2_2:Zro):ZER:=
 bif (decide (i < t11))then (
  chk (inR i (t10.length:Int)) <|
  (t10[(i).toNat]?).bind fun c=>
  chk (decide (t10_lo≤(i).toNat)) <|
  (Zp6 c.Cells).bind fun q=>
  chk (inR i (t10.length:Int)) <|
  chk (decide (t10_lo=(i).toNat)) <|
  (t10[(i).toNat]?).bind fun el=>
  chk (inK .i64 (i+1)) <|
  rec_ t11 (i+1) t t_1 t2 t2_1 (t10.set ((i).toNat) (ZoJ.mk el.Name q)) (t10_lo+1) t2_2
 )else (
  some (t,t_1,t2,t2_1,t10,t10_lo,t2_2)
 )
def ZxM:Nat→Int→Int→Int→Str→Int→Str→Zro→Nat→Zro→ZER
 |0,_,_,_,_,_,_,_,_,_=>none
 |n_+1,t11,i,t,t_1,t2,t2_1,t10,t10_lo,t2_2=>ZwS (ZxM n_) t11 i t t_1 t2 t2_1 t10 t10_lo t2_2
def Zzy (n:Nat) (s:(Int×Int×Int×Str×Int×Str×Zro×Nat×Zro)):ZER:=ZxM n s.1 s.2.1 s.2.2.1 s.2.2.2.1 s.2.2.2.2.1 s.2.2.2.2.2.1 s.2.2.2.2.2.2.1 s.2.2.2.2.2.2.2.1 s.2.2.2.2.2.2.2.2
def Zx5 (rec_:(Int×Int×Int×Str×Int×Str×Zro×Nat×Zro)→ZER) (s:(Int×Int×Int×Str×Int×Str×Zro×Nat×Zro)):ZER:=ZwS (fun t11 i t t_1 t2 t2_1 t10 t10_lo t2_2=>rec_ (t11,i,t,t_1,t2,t2_1,t10,t10_lo,t2_2)) s.1 s.2.1 s.2.2.1 s.2.2.2.1 s.2.2.2.2.1 s.2.2.2.2.2.1 s.2.2.2.2.2.2.1 s.2.2.2.2.2.2.2.1 s.2.2.2.2.2.2.2.2
theorem ZAP:∀n s,Zzy (n+1) s=Zx5 (Zzy n) s:=fun _ _=>rfl
def Zyv (t:ZoG):Option (ZoG×Nat):=
 (ZpI t.Columns).bind fun q=>
 (ZxM big (q.length:Int) (0:Int) t.ID t.Name (0:Int) ([]:Str) q 0 ([]:Zro)).bind fun(x0,x1,x2,x3,x4,x5,x6)=>ZyT x0 x1 x2 x3 x4 x5 x6
def Zy3 (x_:Int) (y:Int):ZEJ:=
 chk (decide (0≤(32:Int))) <|
 chk (decide (0≤(32:Int))) <|
 chk (decide (0≤(32:Int))) <|
 chk (decide (0≤(32:Int))) <|
 chk (decide (0≤(32:Int))) <|
 some ((IntKind.wrap .u64 ((IntKind.wrap .u64 ((IntKind.wrap .u64 ((shrK .u64 x_ 32)*(shrK .u64 y 32)))+(shrK .u64 (IntKind.wrap .u64 ((IntKind.wrap .u64 ((shrK .u64 x_ 32)*(andK .u64 y 4294967295)))+(shrK .u64 (IntKind.wrap .u64 ((andK .u64 x_ 4294967295)*(andK .u64 y 4294967295))) 32))) 32)))+(shrK .u64 (IntKind.wrap .u64 ((andK .u64 (IntKind.wrap .u64 ((IntKind.wrap .u64 ((shrK .u64 x_ 32)*(andK .u64 y 4294967295)))+(shrK .u64 (IntKind.wrap .u64 ((andK .u64 x_ 4294967295)*(andK .u64 y 4294967295))) 32))) 4294967295)+(IntKind.wrap .u64 ((andK .u64 x_ 4294967295)*(shrK .u64 y 32))))) 32))),(IntKind.wrap .u64 (x_*y)))
def ZzN (x_:Int) (y:Int):ZEJ:=
 (Zy3 x_ y).bind fun(h_,l)=>
 some (h_,l)
def Zs1 (newslice:ZxL):Option ZxL:=
 some newslice
def Zwi (rec_:Int→ZxL→Option ZxL) (n:Int) (newslice:ZxL):Option ZxL:=
 bif (decide (n < (newslice.length:Int)))then (
  chk (Zcp n (newslice.length:Int) (newslice.length:Int)) <|
  chk (Zcp 0 n (newslice.length:Int)) <|
  chk (decide ((n).toNat+((newslice.length:Int).toNat - (n).toNat)≤newslice.length)) <|
  chk (inK .i64 (n+((min ((newslice.drop 0).take ((n).toNat - 0)).length ((newslice.length:Int).toNat - (n).toNat):Nat):Int))) <|
  rec_ (n+((min ((newslice.drop 0).take ((n).toNat - 0)).length ((newslice.length:Int).toNat - (n).toNat):Nat):Int)) (ZT newslice ((n).toNat) (((newslice.drop 0).take ((n).toNat - 0)).take (min ((newslice.drop 0).take ((n).toNat - 0)).length ((newslice.length:Int).toNat - (n).toNat))))
 )else (
  some newslice
 )
def ZqF:Nat→Int→ZxL→Option ZxL
 |0,_,_=>none
 |n_+1,n,newslice=>Zwi (ZqF n_) n newslice
def ZqG (x_:ZxL) (lo:Int) (t26:Bool):Option ZxL:=
 bif t26 then (
  none
 )else (
  chk (mkOk (IntKind.wrap .i64 lo) (IntKind.wrap .i64 lo) 24) <|
  (ZqF big ((min x_.length (List.replicate ((IntKind.wrap .i64 lo)).toNat (ZoR.mk false ([]:Str))).length:Nat):Int) (x_.take (List.replicate ((IntKind.wrap .i64 lo)).toNat (ZoR.mk false ([]:Str))).length++(List.replicate ((IntKind.wrap .i64 lo)).toNat (ZoR.mk false ([]:Str))).drop x_.length)).bind fun x0=>Zs1 x0
 )
def Zpu (x_:ZxL) (count:Int):Option ZxL:=
 bif (decide (count < 0))then (
  none
 )else (
  (ZzN (IntKind.wrap .u64 (x_.length:Int)) (IntKind.wrap .u64 count)).bind fun(hi,lo)=>
  bif (decide (hi > 0))then (
   ZqG x_ lo true
  )else (
   ZqG x_ lo (decide (lo > 9223372036854775807))
  )
 )
def Zvl (t6:Int) (t6_1:Str) (out:Int) (out_1:Str) (t6_2:Zro) (out_2:Zro) (out_lo:Nat):ZF0:=
 some ((ZoG.mk out out_1 out_2),0)
def ZrE (rec_:Tf_4) (i:Int) (below:ZxL) (t77:ZoI) (t78:Int) (i_1:Int) (b:ZoG) (t6:Int) (t6_1:Str) (out:Int) (out_1:Str) (t6_2:Zro) (out_2:Zro) (out_lo:Nat):ZDH:=
 chk (inR i (out_2.length:Int)) <|
 (out_2[(i).toNat]?).bind fun out_e=>
 chk (decide ((i).toNat < out_lo)) <|
 chk (ZjC (out_e.Cells.length+below.length) 24) <|
 chk (inR i (out_2.length:Int)) <|
 chk (decide ((i).toNat=(i).toNat∧(i).toNat < out_lo)) <|
 (out_2[(i).toNat]?).bind fun el=>
 chk (inK .i64 (i_1+1)) <|
 rec_ t77 t78 (i_1+1) b t6 t6_1 out out_1 t6_2 (out_2.set ((i).toNat) (ZoJ.mk el.Name (out_e.Cells++below))) out_lo
def Zsl (rec_:Tf_4) (t77:ZoI) (t78:Int) (i:Int) (b:ZoG) (t6:Int) (t6_1:Str) (out:Int) (out_1:Str) (t6_2:Zro) (out_2:Zro) (out_lo:Nat):ZDH:=
 bif (decide (i < t78))then (
  (idx t77 i).bind fun k=>
  (ZuT b).bind fun q=>
  (Zpu ([(ZoR.mk true ([]:Str))]:ZxL) q).bind fun below=>
  bif (decide (k≥0))then (
   (idx b.Columns k).bind fun Column=>
   ZrE rec_ i Column.Cells t77 t78 i b t6 t6_1 out out_1 t6_2 out_2 out_lo
  )else (
   ZrE rec_ i below t77 t78 i b t6 t6_1 out out_1 t6_2 out_2 out_lo
  )
 )else (
  some (t6,t6_1,out,out_1,t6_2,out_2,out_lo)
 )
def ZrB:Nat→ZoI→Int→Int→ZoG→Int→Str→Int→Str→Zro→Zro→Nat→ZDH
 |0,_,_,_,_,_,_,_,_,_,_,_=>none
 |n_+1,t77,t78,i,b,t6,t6_1,out,out_1,t6_2,out_2,out_lo=>Zsl (ZrB n_) t77 t78 i b t6 t6_1 out out_1 t6_2 out_2 out_lo
def ZwZ (n:Nat) (s:(ZoI×Int×Int×ZoG×Int×Str×Int×Str×Zro×Zro×Nat)):ZDH:=ZrB n s.1 s.2.1 s.2.2.1 s.2.2.2.1 s.2.2.2.2.1 s.2.2.2.2.2.1 s.2.2.2.2.2.2.1 s.2.2.2.2.2.2.2.1 s.2.2.2.2.2.2.2.2.1 s.2.2.2.2.2.2.2.2.2.1 s.2.2.2.2.2.2.2.2.2.2
def ZuC (rec_:(ZoI×Int×Int×ZoG×Int×Str×Int×Str×Zro×Zro×Nat)→ZDH) (s:(ZoI×Int×Int×ZoG×Int×Str×Int×Str×Zro×Zro×Nat)):ZDH:=Zsl (fun t77 t78 i b t6 t6_1 out out_1 t6_2 out_2 out_lo=>rec_ (t77,t78,i,b,t6,t6_1,out,out_1,t6_2,out_2,out_lo)) s.1 s.2.1 s.2.2.1 s.2.2.2.1 s.2.2.2.2.1 s.2.2.2.2.2.1 s.2.2.2.2.2.2.1 s.2.2.2.2.2.2.2.1 s.2.2.2.2.2.2.2.2.1 s.2.2.2.2.2.2.2.2.2.1 s.2.2.2.2.2.2.2.2.2.2
theorem ZyN:∀n s,ZwZ (n+1) s=ZuC (ZwZ n) s:=fun _ _=>rfl
def Zvm (align:ZoI) (a:ZoG) (b:ZoG) (t6:Int) (t6_1:Str) (t6_2:Zro):ZF0:=
 (ZuT a).bind fun q=>
 (ZuT b).bind fun q_1=>
 chk (inK .i64 (q+q_1)) <|
 bif (decide ((q+q_1) > 4096))then (
  some ((ZoG.mk 0 ([]:Str) ([]:Zro)),3)
 )else (
  (Zyv a).bind fun(out,out_lo)=>
  (ZrB big align (align.length:Int) (0:Int) b t6 t6_1 out.ID out.Name t6_2 out.Columns out_lo).bind fun(x0,x1,x2,x3,x4,x5,x6)=>Zvl x0 x1 x2 x3 x4 x5 x6
 )
def Zts (rec_:ZMg) (align:ZoI) (t50:ZoI) (t51:Int) (i:Int) (t65:Bool) (a:ZoG) (b:ZoG) (t6:Int) (t6_1:Str) (t6_2:Zro):ZEV:=
 bif t65 then (
  some (.ret ((ZoG.mk 0 ([]:Str) ([]:Zro)),6))
 )else (
  chk (inK .i64 (i+1)) <|
  rec_ align t50 t51 (i+1) a b t6 t6_1 t6_2
 )
def Zsm (rec_:ZMg) (align:ZoI) (t50:ZoI) (t51:Int) (i:Int) (a:ZoG) (b:ZoG) (t6:Int) (t6_1:Str) (t6_2:Zro):ZEV:=
 bif (decide (i < t51))then (
  (idx t50 i).bind fun k=>
  bif (decide (k≥0))then (
   chk (Zcp 0 i (align.length:Int)) <|
   (Zr6 (align.take (i).toNat) k).bind fun q=>
   Zts rec_ align t50 t51 i q a b t6 t6_1 t6_2
  )else (
   Zts rec_ align t50 t51 i false a b t6 t6_1 t6_2
  )
 )else (
  some (.brk (align,a,b,t6,t6_1,t6_2))
 )
def ZrC:Nat→ZoI→ZoI→Int→Int→ZoG→ZoG→Int→Str→Zro→ZEV
 |0,_,_,_,_,_,_,_,_,_=>none
 |n_+1,align,t50,t51,i,a,b,t6,t6_1,t6_2=>Zsm (ZrC n_) align t50 t51 i a b t6 t6_1 t6_2
def Zw0 (n:Nat) (s:(ZoI×ZoI×Int×Int×ZoG×ZoG×Int×Str×Zro)):ZEV:=ZrC n s.1 s.2.1 s.2.2.1 s.2.2.2.1 s.2.2.2.2.1 s.2.2.2.2.2.1 s.2.2.2.2.2.2.1 s.2.2.2.2.2.2.2.1 s.2.2.2.2.2.2.2.2
def ZuD (rec_:Tf_5) (s:(ZoI×ZoI×Int×Int×ZoG×ZoG×Int×Str×Zro)):ZEV:=Zsm (fun align t50 t51 i a b t6 t6_1 t6_2=>rec_ (align,t50,t51,i,a,b,t6,t6_1,t6_2)) s.1 s.2.1 s.2.2.1 s.2.2.2.1 s.2.2.2.2.1 s.2.2.2.2.2.1 s.2.2.2.2.2.2.1 s.2.2.2.2.2.2.2.1 s.2.2.2.2.2.2.2.2
theorem ZyO:∀n s,Zw0 (n+1) s=ZuD (Zw0 n) s:=fun _ _=>rfl
def Zvn (align:ZoI) (a:ZoG) (b:ZoG) (t6:Int) (t6_1:Str) (t6_2:Zro):ZF0:=
 (ZrC big align align (align.length:Int) (0:Int) a b t6 t6_1 t6_2).bind fun
  | .ret q_=>some q_
  | .brk (x0,x1,x2,x3,x4,x5)=>Zvm x0 x1 x2 x3 x4 x5
def Ztt (rec_:ZMg) (align:ZoI) (t33:ZoI) (t34:Int) (t35:Int) (t47:Bool) (a:ZoG) (b:ZoG) (t6:Int) (t6_1:Str) (t6_2:Zro):ZEV:=
 bif t47 then (
  some (.ret ((ZoG.mk 0 ([]:Str) ([]:Zro)),2))
 )else (
  chk (inK .i64 (t35+1)) <|
  rec_ align t33 t34 (t35+1) a b t6 t6_1 t6_2
 )
def Zsn (rec_:ZMg) (align:ZoI) (t33:ZoI) (t34:Int) (t35:Int) (a:ZoG) (b:ZoG) (t6:Int) (t6_1:Str) (t6_2:Zro):ZEV:=
 bif (decide (t35 < t34))then (
  (idx t33 t35).bind fun k=>
  bif (decide (k < (-1)))then (
   Ztt rec_ align t33 t34 t35 true a b t6 t6_1 t6_2
  )else (
   Ztt rec_ align t33 t34 t35 (decide (k≥(b.Columns.length:Int))) a b t6 t6_1 t6_2
  )
 )else (
  some (.brk (align,a,b,t6,t6_1,t6_2))
 )
def ZrD:Nat→ZoI→ZoI→Int→Int→ZoG→ZoG→Int→Str→Zro→ZEV
 |0,_,_,_,_,_,_,_,_,_=>none
 |n_+1,align,t33,t34,t35,a,b,t6,t6_1,t6_2=>Zsn (ZrD n_) align t33 t34 t35 a b t6 t6_1 t6_2
def Zw1 (n:Nat) (s:(ZoI×ZoI×Int×Int×ZoG×ZoG×Int×Str×Zro)):ZEV:=ZrD n s.1 s.2.1 s.2.2.1 s.2.2.2.1 s.2.2.2.2.1 s.2.2.2.2.2.1 s.2.2.2.2.2.2.1 s.2.2.2.2.2.2.2.1 s.2.2.2.2.2.2.2.2
def ZuE (rec_:Tf_5) (s:(ZoI×ZoI×Int×Int×ZoG×ZoG×Int×Str×Zro)):ZEV:=Zsn (fun align t33 t34 t35 a b t6 t6_1 t6_2=>rec_ (align,t33,t34,t35,a,b,t6,t6_1,t6_2)) s.1 s.2.1 s.2.2.1 s.2.2.2.1 s.2.2.2.2.1 s.2.2.2.2.2.1 s.2.2.2.2.2.2.1 s.2.2.2.2.2.2.2.1 s.2.2.2.2.2.2.2.2
theorem ZyP:∀n s,Zw1 (n+1) s=ZuE (Zw1 n) s:=fun _ _=>rfl
def ZrF (align:ZoI) (t31:Bool) (a:ZoG) (b:ZoG) (t6:Int) (t6_1:Str) (t6_2:Zro):ZF0:=
 bif t31 then (
  some ((ZoG.mk 0 ([]:Str) ([]:Zro)),1)
 )else (
  (ZrD big align align (align.length:Int) (0:Int) a b t6 t6_1 t6_2).bind fun
   | .ret q_=>some q_
   | .brk (x0,x1,x2,x3,x4,x5)=>Zvn x0 x1 x2 x3 x4 x5
 )
def Zs4 (a:ZoG) (b:ZoG) (align:ZoI):ZF0:=
 (ZqO a).bind fun q=>
 bif (!q)then (
  ZrF align true a b (0:Int) ([]:Str) ([]:Zro)
 )else (
  (ZqO b).bind fun q_1=>
  bif (!q_1)then (
   ZrF align true a b (0:Int) ([]:Str) ([]:Zro)
  )else (
   ZrF align ((align.length:Int) != (a.Columns.length:Int)) a b (0:Int) ([]:Str) ([]:Zro)
  )
 )
def ZuS:Option Bool:=
 some true
def Zxz (rec_:ZoI→ZoI→Int→Int→Zvy) (b:ZoI) (t12:ZoI) (t13:Int) (i:Int):Zvy:=
 bif (decide (i < t13))then (
  (idx t12 i).bind fun n=>
  (idx b i).bind fun b_e=>
  bif (b_e != n)then (
   some (.ret false)
  )else (
   chk (inK .i64 (i+1)) <|
   rec_ b t12 t13 (i+1)
  )
 )else (
  some (.brk ())
 )
def Zsb:Nat→ZoI→ZoI→Int→Int→Zvy
 |0,_,_,_,_=>none
 |n_+1,b,t12,t13,i=>Zxz (Zsb n_) b t12 t13 i
def Zs5 (a:ZoI) (b:ZoI):Option Bool:=
 bif ((a.length:Int) != (b.length:Int))then (
  some false
 )else (
  (Zsb big b a (a.length:Int) (0:Int)).bind fun
   | .ret q_=>some q_
   | .brk ()=>ZuS
 )
def Zwt (w_:ZoI):Option ZoI:=
 some w_
def ZtG (rec_:ZF1) (w_:ZoI) (t14:Bool):Option ZoI:=
 bif t14 then (
  chk (inK .i64 ((w_.length:Int) - 1)) <|
  chk (Zcp 0 ((w_.length:Int) - 1) (w_.length:Int)) <|
  rec_ (w_.take (((w_.length:Int) - 1)).toNat)
 )else (
  some w_
 )
def ZvC (rec_:ZF1) (w_:ZoI):Option ZoI:=
 bif (decide ((w_.length:Int) > 0))then (
  chk (inK .i64 ((w_.length:Int) - 1)) <|
  (idx w_ ((w_.length:Int) - 1)).bind fun w__e=>
  ZtG rec_ w_ (w__e == 0)
 )else (
  ZtG rec_ w_ false
 )
def Zpn:Nat→ZoI→Option ZoI
 |0,_=>none
 |n_+1,w_=>ZvC (Zpn n_) w_
def Zpc (w_:ZoI):Option ZoI:=
 (Zpn big w_).bind fun x0=>Zwt x0
def Zr4 (t4:ZoL):Option ZoL:=
 some t4
def ZpY (neg:Bool) (w_:ZoI):Option ZoL:=
 (Zpc w_).bind fun w__1=>
 bif neg then (
  Zr4 (ZoL.mk (decide ((w__1.length:Int) > 0)) w__1)
 )else (
  Zr4 (ZoL.mk false w__1)
 )
def ZqN (n:Int) (u:Int) (t2:Bool) (t2_1:ZoI):Option ZoL:=
 chk (decide (0≤(32:Int))) <|
 (ZpY (decide (n < 0)) ([(IntKind.wrap .u32 u),(IntKind.wrap .u32 (shrK .u64 u 32))]:ZoI)).bind fun q=>
 some q
def ZpL (n:Int):Option ZoL:=
 bif (decide (n < 0))then (
  ZqN n (IntKind.wrap .u64 (0 - (IntKind.wrap .u64 n))) false ([]:ZoI)
 )else (
  ZqN n (IntKind.wrap .u64 n) false ([]:ZoI)
 )
def Zo8 (t2:Bool):Option Bool:=
 some t2
def Zq8 (a:ZoL):Option Bool:=
 bif (decide ((a.Words.length:Int)≤256))then (
  bif ((a.Words.length:Int) == 0)then (
   bif (!a.Neg)then (
    Zo8 true
   )else (
    bif (decide ((a.Words.length:Int) > 0))then (
     chk (inK .i64 ((a.Words.length:Int) - 1)) <|
     (idx a.Words ((a.Words.length:Int) - 1)).bind fun Word=>
     Zo8 (Word != 0)
    )else (
     Zo8 false
    )
   )
  )else (
   bif (decide ((a.Words.length:Int) > 0))then (
    chk (inK .i64 ((a.Words.length:Int) - 1)) <|
    (idx a.Words ((a.Words.length:Int) - 1)).bind fun Word_1=>
    Zo8 (Word_1 != 0)
   )else (
    Zo8 false
   )
  )
 )else (
  Zo8 false
 )
def ZtH (out:ZoI):Option ZoI:=
 (Zpc out).bind fun q=>
 some q
def Zqq (rec_:ZK9) (a:ZoI) (t9:Int) (i:Int) (out:ZoI):Option ZoI:=
 chk (inK .i64 (i+1)) <|
 rec_ a t9 (i+1) out
def ZqX (rec_:ZK9) (a:ZoI) (t9:Int) (i:Int) (out:ZoI):Option ZoI:=
 bif (decide (i < t9))then (
  chk (inR i (out.length:Int)) <|
  (out[(i).toNat]?).bind fun out_e=>
  chk (decide (0≤(1:Int))) <|
  chk (inR i (out.length:Int)) <|
  chk (inK .i64 (i+1)) <|
  bif (decide ((i+1) < (a.length:Int)))then (
   chk (inR i ((out.set ((i).toNat) (shrK .u32 out_e 1)).length:Int)) <|
   ((out.set ((i).toNat) (shrK .u32 out_e 1))[(i).toNat]?).bind fun e_e=>
   chk (inK .i64 (i+1)) <|
   (idx a (i+1)).bind fun a_e=>
   chk (decide (0≤(31:Int))) <|
   chk (inR i ((out.set ((i).toNat) (shrK .u32 out_e 1)).length:Int)) <|
   Zqq rec_ a t9 i ((out.set ((i).toNat) (shrK .u32 out_e 1)).set ((i).toNat) (orK .u32 e_e (shlK .u32 a_e 31)))
  )else (
   Zqq rec_ a t9 i (out.set ((i).toNat) (shrK .u32 out_e 1))
  )
 )else (
  some out
 )
def Zqp:Nat→ZoI→Int→Int→ZoI→Option ZoI
 |0,_,_,_,_=>none
 |n_+1,a,t9,i,out=>ZqX (Zqp n_) a t9 i out
def ZvD (n:Nat) (s:(ZoI×Int×Int×ZoI)):Option ZoI:=Zqp n s.1 s.2.1 s.2.2.1 s.2.2.2
def ZsM (rec_:(ZoI×Int×Int×ZoI)→Option ZoI) (s:(ZoI×Int×Int×ZoI)):Option ZoI:=ZqX (fun a t9 i out=>rec_ (a,t9,i,out)) s.1 s.2.1 s.2.2.1 s.2.2.2
theorem Zx2:∀n s,ZvD (n+1) s=ZsM (ZvD n) s:=fun _ _=>rfl
def ZpN (a:ZoI):Option ZoI:=
 chk (ZjC (([]:ZoI).length+a.length) 4) <|
 (Zqp big a ((([]:ZoI)++a).length:Int) (0:Int) (([]:ZoI)++a)).bind fun x0=>ZtH x0
def Zuf:Option Int:=
 some (0:Int)
def Zq7 (rec_:ZoI→ZoI→Int→ZxC) (a:ZoI) (b:ZoI) (i:Int):ZxC:=
 bif (decide (i≥0))then (
  (idx a i).bind fun a_e=>
  (idx b i).bind fun b_e=>
  bif (decide (a_e < b_e))then (
   some (.ret (-1:Int))
  )else (
   (idx a i).bind fun a_e_1=>
   (idx b i).bind fun b_e_1=>
   bif (decide (a_e_1 > b_e_1))then (
    some (.ret (1:Int))
   )else (
    chk (inK .i64 (i - 1)) <|
    rec_ a b (i - 1)
   )
  )
 )else (
  some (.brk ())
 )
def Zr3:Nat→ZoI→ZoI→Int→ZxC
 |0,_,_,_=>none
 |n_+1,a,b,i=>Zq7 (Zr3 n_) a b i
def ZvS (n:Nat) (s:(ZoI×ZoI×Int)):ZxC:=Zr3 n s.1 s.2.1 s.2.2
def Ztb (rec_:(ZoI×ZoI×Int)→ZxC) (s:(ZoI×ZoI×Int)):ZxC:=Zq7 (fun a b i=>rec_ (a,b,i)) s.1 s.2.1 s.2.2
theorem Zyk:∀n s,ZvS (n+1) s=Ztb (ZvS n) s:=fun _ _=>rfl
def ZrJ (a:ZoI) (b:ZoI):Option Int:=
 bif ((a.length:Int) != (b.length:Int))then (
  bif (decide ((a.length:Int) < (b.length:Int)))then (
   some (-1:Int)
  )else (
   some (1:Int)
  )
 )else (
  chk (inK .i64 ((a.length:Int) - 1)) <|
  (Zr3 big a b ((a.length:Int) - 1)).bind fun
   | .ret q_=>some q_
   | .brk ()=>Zuf
 )
def Zt8 (out:ZoI):Option ZoI:=
 (Zpc out).bind fun q=>
 some q
def ZqB (rec_:ZG5) (a:ZoI) (b:ZoI) (c:Int) (i:Int) (out:ZoI):Option ZoI:=
 chk (ZjC (out.length+([(IntKind.wrap .u32 c)]:ZoI).length) 4) <|
 chk (decide (0≤(32:Int))) <|
 chk (inK .i64 (i+1)) <|
 rec_ a b (shrK .i64 c 32) (i+1) (out++([(IntKind.wrap .u32 c)]:ZoI))
def Zq5 (rec_:ZG5) (a:ZoI) (b:ZoI) (c:Int) (i:Int) (out:ZoI):Option ZoI:=
 bif (decide (i < (a.length:Int)))then (
  (idx a i).bind fun a_e=>
  chk (inK .i64 (c+(IntKind.wrap .i64 a_e))) <|
  bif (decide (i < (b.length:Int)))then (
   (idx b i).bind fun b_e=>
   chk (inK .i64 ((c+(IntKind.wrap .i64 a_e)) - (IntKind.wrap .i64 b_e))) <|
   ZqB rec_ a b ((c+(IntKind.wrap .i64 a_e)) - (IntKind.wrap .i64 b_e)) i out
  )else (
   ZqB rec_ a b (c+(IntKind.wrap .i64 a_e)) i out
  )
 )else (
  some out
 )
def ZqA:Nat→ZoI→ZoI→Int→Int→ZoI→Option ZoI
 |0,_,_,_,_,_=>none
 |n_+1,a,b,c,i,out=>Zq5 (ZqA n_) a b c i out
def ZvQ (n:Nat) (s:(ZoI×ZoI×Int×Int×ZoI)):Option ZoI:=ZqA n s.1 s.2.1 s.2.2.1 s.2.2.2.1 s.2.2.2.2
def Zs7 (rec_:ZLd) (s:(ZoI×ZoI×Int×Int×ZoI)):Option ZoI:=Zq5 (fun a b c i out=>rec_ (a,b,c,i,out)) s.1 s.2.1 s.2.2.1 s.2.2.2.1 s.2.2.2.2
theorem Zyi:∀n s,ZvQ (n+1) s=Zs7 (ZvQ n) s:=fun _ _=>rfl
def ZrH (a:ZoI) (b:ZoI):Option ZoI:=
 (ZqA big a b (0:Int) (0:Int) ([]:ZoI)).bind fun x0=>Zt8 x0
def Zs6 (d:Int) (out:ZoI):Option ZoI:=
 chk (ZjC (out.length+([d]:ZoI).length) 4) <|
 (Zpc (out++([d]:ZoI))).bind fun q=>
 some q
def ZqM (rec_:ZoI→Int→Int→ZoI→Zx9) (a:ZoI) (d:Int) (i:Int) (out:ZoI):Zx9:=
 bif (decide (i < (a.length:Int)))then (
  (idx a i).bind fun a_e=>
  chk (decide (0≤(1:Int))) <|
  chk (ZjC (out.length+([(orK .u32 (shlK .u32 a_e 1) d)]:ZoI).length) 4) <|
  (idx a i).bind fun a_e_1=>
  chk (decide (0≤(31:Int))) <|
  chk (inK .i64 (i+1)) <|
  rec_ a (shrK .u32 a_e_1 31) (i+1) (out++([(orK .u32 (shlK .u32 a_e 1) d)]:ZoI))
 )else (
  some (d,out)
 )
def Zq4:Nat→ZoI→Int→Int→ZoI→Zx9
 |0,_,_,_,_=>none
 |n_+1,a,d,i,out=>ZqM (Zq4 n_) a d i out
def Zvb (n:Nat) (s:(ZoI×Int×Int×ZoI)):Zx9:=Zq4 n s.1 s.2.1 s.2.2.1 s.2.2.2
def Zsy (rec_:(ZoI×Int×Int×ZoI)→Zx9) (s:(ZoI×Int×Int×ZoI)):Zx9:=ZqM (fun a d i out=>rec_ (a,d,i,out)) s.1 s.2.1 s.2.2.1 s.2.2.2
theorem ZxQ:∀n s,Zvb (n+1) s=Zsy (Zvb n) s:=fun _ _=>rfl
def ZqS (a:ZoI) (d:Int):Option ZoI:=
 (Zq4 big a d (0:Int) ([]:ZoI)).bind fun(x0,x1)=>Zs6 x0 x1
def Zt9 (a:ZoI):Option ZoI:=
 some a
def Zp9 (rec_:ZoI→Int→Option ZoI) (a:ZoI) (k:Int):Option ZoI:=
 bif (decide (k > 0))then (
  (ZqS a 0).bind fun a_1=>
  chk (inK .i64 (k - 1)) <|
  rec_ a_1 (k - 1)
 )else (
  some a
 )
def ZpV:Nat→ZoI→Int→Option ZoI
 |0,_,_=>none
 |n_+1,a,k=>Zp9 (ZpV n_) a k
def Zua (a:ZoI) (k:Int):Option ZoI:=
 (ZpV big a k).bind fun x0=>Zt9 x0
def Zr1 (rec_:ZG4) (a:ZoI) (b:ZoI) (k:Int):ZDc:=
 (ZrH b a).bind fun b_1=>
 rec_ a b_1 k
def Zub (rec_:ZG4) (a:ZoI) (b:ZoI) (k:Int):ZDc:=
 (ZrJ a b).bind fun q=>
 bif (decide (q > 0))then (
  Zr1 rec_ b a k
 )else (
  Zr1 rec_ a b k
 )
def Zs8 (rec_:ZG3) (a:ZoI) (b:ZoI) (k:Int):ZDd:=
 (idx b 0).bind fun b_e=>
 bif ((andK .u32 b_e 1) == 0)then (
  (ZpN b).bind fun b_1=>
  rec_ a b_1 k
 )else (
  some (a,b,k)
 )
def Zpf:Nat→ZoI→ZoI→Int→ZDd
 |0,_,_,_=>none
 |n_+1,a,b,k=>Zs8 (Zpf n_) a b k
def Zuc (rec_:ZG4) (a:ZoI) (b:ZoI) (k:Int):ZDc:=
 (Zpf big a b k).bind fun(x0,x1,x2)=>Zub rec_ x0 x1 x2
def Zqa (rec_:ZG3) (a:ZoI) (b:ZoI) (k:Int):ZDd:=
 (idx a 0).bind fun a_e=>
 bif ((andK .u32 a_e 1) == 0)then (
  (ZpN a).bind fun a_1=>
  rec_ a_1 b k
 )else (
  some (a,b,k)
 )
def Zpg:Nat→ZoI→ZoI→Int→ZDd
 |0,_,_,_=>none
 |n_+1,a,b,k=>Zqa (Zpg n_) a b k
def Zqb (rec_:ZG4) (a:ZoI) (b:ZoI) (k:Int):ZDc:=
 bif (decide ((b.length:Int) > 0))then (
  (Zpg big a b k).bind fun(x0,x1,x2)=>Zuc rec_ x0 x1 x2
 )else (
  some (a,k)
 )
def ZoZ:Nat→ZoI→ZoI→Int→ZDc
 |0,_,_,_=>none
 |n_+1,a,b,k=>Zqb (ZoZ n_) a b k
def Zud (a:ZoI) (b:ZoI) (k:Int):Option ZoI:=
 (ZoZ big a b k).bind fun(x0,x1)=>Zua x0 x1
def Zr2 (rec_:ZG3) (a:ZoI) (b:ZoI) (k:Int) (t17:Bool):ZDd:=
 bif t17 then (
  (ZpN a).bind fun a_1=>
  (ZpN b).bind fun b_1=>
  chk (inK .i64 (k+1)) <|
  rec_ a_1 b_1 (k+1)
 )else (
  some (a,b,k)
 )
def Zs9 (rec_:ZG3) (a:ZoI) (b:ZoI) (k:Int):ZDd:=
 (idx a 0).bind fun a_e=>
 bif ((andK .u32 a_e 1) == 0)then (
  (idx b 0).bind fun b_e=>
  Zr2 rec_ a b k ((andK .u32 b_e 1) == 0)
 )else (
  Zr2 rec_ a b k false
 )
def ZpW:Nat→ZoI→ZoI→Int→ZDd
 |0,_,_,_=>none
 |n_+1,a,b,k=>Zs9 (ZpW n_) a b k
def Ztx (a:ZoI) (b:ZoI):Option ZoI:=
 (ZpW big a b (0:Int)).bind fun(x0,x1,x2)=>Zud x0 x1 x2
def Zty (a:ZoI) (i:Int):Option Int:=
 chk (decide ((32:Int)≠0)) <|
 chk (inK .i64 (Int.tdiv i 32)) <|
 (idx a (Int.tdiv i 32)).bind fun a_e=>
 chk (decide ((32:Int)≠0)) <|
 chk (decide (0≤(IntKind.wrap .u64 (Int.tmod i 32)))) <|
 some (andK .u32 (shrK .u32 a_e (IntKind.wrap .u64 (Int.tmod i 32))) 1)
def Zue (r_:ZoI) (q:ZoI):ZBg:=
 (Zpc q).bind fun q_1=>
 some (q_1,r_)
def ZqD (rec_:ZLa) (a:ZoI) (b:ZoI) (r_:ZoI) (i:Int) (q:ZoI):ZBg:=
 chk (inK .i64 (i - 1)) <|
 rec_ a b r_ (i - 1) q
def Zq6 (rec_:ZLa) (a:ZoI) (b:ZoI) (r_:ZoI) (i:Int) (q:ZoI):ZBg:=
 bif (decide (i≥0))then (
  (Zty a i).bind fun q_1=>
  (ZqS r_ q_1).bind fun r__1=>
  (ZrJ r__1 b).bind fun q_2=>
  bif (decide (q_2≥0))then (
   (ZrH r__1 b).bind fun r__2=>
   chk (decide ((32:Int)≠0)) <|
   chk (inK .i64 (Int.tdiv i 32)) <|
   chk (inR (Int.tdiv i 32) (q.length:Int)) <|
   (q[((Int.tdiv i 32)).toNat]?).bind fun q_e=>
   chk (decide ((32:Int)≠0)) <|
   chk (decide (0≤(IntKind.wrap .u64 (Int.tmod i 32)))) <|
   chk (inR (Int.tdiv i 32) (q.length:Int)) <|
   ZqD rec_ a b r__2 i (q.set (((Int.tdiv i 32)).toNat) (orK .u32 q_e (shlK .u32 1 (IntKind.wrap .u64 (Int.tmod i 32)))))
  )else (
   ZqD rec_ a b r__1 i q
  )
 )else (
  some (r_,q)
 )
def ZqC:Nat→ZoI→ZoI→ZoI→Int→ZoI→ZBg
 |0,_,_,_,_,_=>none
 |n_+1,a,b,r_,i,q=>Zq6 (ZqC n_) a b r_ i q
def ZvR (n:Nat) (s:(ZoI×ZoI×ZoI×Int×ZoI)):ZBg:=ZqC n s.1 s.2.1 s.2.2.1 s.2.2.2.1 s.2.2.2.2
def Zta (rec_:(ZoI×ZoI×ZoI×Int×ZoI)→ZBg) (s:(ZoI×ZoI×ZoI×Int×ZoI)):ZBg:=Zq6 (fun a b r_ i q=>rec_ (a,b,r_,i,q)) s.1 s.2.1 s.2.2.1 s.2.2.2.1 s.2.2.2.2
theorem Zyj:∀n s,ZvR (n+1) s=Zta (ZvR n) s:=fun _ _=>rfl
def ZrI (a:ZoI) (b:ZoI):ZBg:=
 chk (mkOk (a.length:Int) (a.length:Int) 4) <|
 chk (inK .i64 (32*(a.length:Int))) <|
 chk (inK .i64 ((32*(a.length:Int)) - 1)) <|
 (ZqC big a b ([]:ZoI) ((32*(a.length:Int)) - 1) (List.replicate ((a.length:Int)).toNat (0:Int))).bind fun(x0,x1)=>Zue x0 x1
def Zr0 (num:ZoL) (den:ZoL):Option ZoF:=
 bif ((num.Words.length:Int) == 0)then (
  (ZpL 1).bind fun q=>
  some (ZoF.mk (ZoL.mk false ([]:ZoI)) q)
 )else (
  (Ztx num.Words den.Words).bind fun g=>
  (ZrI num.Words g).bind fun(x_,q_1)=>
  (ZrI den.Words g).bind fun(y,q_2)=>
  (ZpY (!(num.Neg == den.Neg)) x_).bind fun q_3=>
  (ZpY false y).bind fun q_4=>
  some (ZoF.mk q_3 q_4)
 )
def Zrt (t13:Bool) (num:ZoL) (den:ZoL) (t4:Bool) (t4_1:Bool) (t4_2:ZoI) (t4_3:ZoI):ZBh:=
 bif t13 then (
  some ((ZoF.mk (ZoL.mk false ([]:ZoI)) (ZoL.mk false ([]:ZoI))),1)
 )else (
  bif ((den.Words.length:Int) == 0)then (
   some ((ZoF.mk (ZoL.mk false ([]:ZoI)) (ZoL.mk false ([]:ZoI))),8)
  )else (
   (Zr0 num den).bind fun q=>
   some (q,0)
  )
 )
def ZsN (num:ZoL) (den:ZoL):ZBh:=
 (Zq8 num).bind fun q=>
 bif (!q)then (
  Zrt true num den false false ([]:ZoI) ([]:ZoI)
 )else (
  (Zq8 den).bind fun q_1=>
  Zrt (!q_1) num den false false ([]:ZoI) ([]:ZoI)
 )
def ZtQ (num:Int) (den:Int):ZBh:=
 (ZpL num).bind fun q=>
 (ZpL den).bind fun q_1=>
 (ZsN q q_1).bind fun(q_2,q_3)=>
 some (q_2,q_3)
def ZuV (n:Int) (d:Int):Option ZoF:=
 (ZtQ n d).bind fun(f,q)=>
 some f
def ZrZ (n:Int) (d:Int):Option ZoF:=ZBT (ZuV n d)
def Zvq (n:Int):Option ZoF:=
 (ZrZ n 1).bind fun q=>
 some q
def Zp3 (n:Int):Option ZoF:=ZBT (Zvq n)
def Zsx:Option Bool:=
 some true
def Zql (rec_:ZoI→Int→Int→ZoL→Zvy) (t22:ZoI) (t23:Int) (i:Int) (b:ZoL):Zvy:=
 bif (decide (i < t23))then (
  (idx t22 i).bind fun w_=>
  (idx b.Words i).bind fun Word=>
  bif (Word != w_)then (
   some (.ret false)
  )else (
   chk (inK .i64 (i+1)) <|
   rec_ t22 t23 (i+1) b
  )
 )else (
  some (.brk ())
 )
def ZqK:Nat→ZoI→Int→Int→ZoL→Zvy
 |0,_,_,_,_=>none
 |n_+1,t22,t23,i,b=>Zql (ZqK n_) t22 t23 i b
def ZuH (n:Nat) (s:(ZoI×Int×Int×ZoL)):Zvy:=ZqK n s.1 s.2.1 s.2.2.1 s.2.2.2
def ZrR (rec_:(ZoI×Int×Int×ZoL)→Zvy) (s:(ZoI×Int×Int×ZoL)):Zvy:=Zql (fun t22 t23 i b=>rec_ (t22,t23,i,b)) s.1 s.2.1 s.2.2.1 s.2.2.2
theorem ZxA:∀n s,ZuH (n+1) s=ZrR (ZuH n) s:=fun _ _=>rfl
def ZqL (t20:Bool) (a:ZoL) (b:ZoL):Option Bool:=
 bif t20 then (
  some false
 )else (
  (ZqK big a.Words (a.Words.length:Int) (0:Int) b).bind fun
   | .ret q_=>some q_
   | .brk ()=>Zsx
 )
def Zqo (a:ZoL) (b:ZoL):Option Bool:=
 bif (!(a.Neg == b.Neg))then (
  ZqL true a b
 )else (
  ZqL ((a.Words.length:Int) != (b.Words.length:Int)) a b
 )
def Zrs (t4:Bool):Option Bool:=
 some t4
def Zq3 (a:ZoF) (b:ZoF):Option Bool:=
 (Zqo a.Num b.Num).bind fun q=>
 bif q then (
  (Zqo a.Den b.Den).bind fun q_1=>
  Zrs q_1
 )else (
  Zrs false
 )
def ZsL (t:ZoG):Option Int:=
 bif ((t.Columns.length:Int) == 0)then (
  some (0:Int)
 )else (
  (idx t.Columns 0).bind fun Column=>
  some (Column.Cells.length:Int)
 )
def Zpk (t0:Bool):Option Bool:=
 some t0
def ZqT:Option Bool:=
 chk (inR 1 (([(ZoJ.mk ([99,105,116,121]:Str) ([(ZoR.mk false ([120]:Str))]:ZxL)),(ZoJ.mk ([110,97,109,101]:Str) ([(ZoR.mk false ([121]:Str))]:ZxL))]:Zro).length:Int)) <|
 (([(ZoJ.mk ([99,105,116,121]:Str) ([(ZoR.mk false ([120]:Str))]:ZxL)),(ZoJ.mk ([110,97,109,101]:Str) ([(ZoR.mk false ([121]:Str))]:ZxL))]:Zro)[((1:Int)).toNat]?).bind fun G_api_Column_e=>
 chk (inR 0 (([(ZoJ.mk ([99,105,116,121]:Str) ([(ZoR.mk false ([120]:Str))]:ZxL)),(ZoJ.mk ([110,97,109,101]:Str) ([(ZoR.mk false ([121]:Str))]:ZxL))]:Zro).length:Int)) <|
 (([(ZoJ.mk ([99,105,116,121]:Str) ([(ZoR.mk false ([120]:Str))]:ZxL)),(ZoJ.mk ([110,97,109,101]:Str) ([(ZoR.mk false ([121]:Str))]:ZxL))]:Zro)[((0:Int)).toNat]?).bind fun G_api_Column_e_1=>
 (ZpM (ZoG.mk 1 ([]:Str) ([(ZoJ.mk ([99,105,116,121]:Str) ([(ZoR.mk false ([120]:Str))]:ZxL)),(ZoJ.mk ([110,97,109,101]:Str) ([(ZoR.mk false ([121]:Str))]:ZxL))]:Zro)) (ZoG.mk 2 ([]:Str) ([G_api_Column_e,G_api_Column_e_1]:Zro))).bind fun(l,s,e)=>
 (Zs4 (ZoG.mk 1 ([]:Str) ([(ZoJ.mk ([99,105,116,121]:Str) ([(ZoR.mk false ([120]:Str))]:ZxL)),(ZoJ.mk ([110,97,109,101]:Str) ([(ZoR.mk false ([121]:Str))]:ZxL))]:Zro)) (ZoG.mk 2 ([]:Str) ([G_api_Column_e,G_api_Column_e_1]:Zro)) ([1,0]:ZoI)).bind fun(t,f)=>
 bif (e == 0)then (
  bif (f == 0)then (
   (Zs5 l ([1,0]:ZoI)).bind fun q=>
   bif q then (
    (Zp3 1).bind fun q_1=>
    (Zq3 s q_1).bind fun q_2=>
    bif q_2 then (
     (ZsL t).bind fun q_3=>
     Zpk (q_3 == 2)
    )else (
     Zpk false
    )
   )else (
    Zpk false
   )
  )else (
   Zpk false
  )
 )else (
  Zpk false
 )
def ZvU (t:ZoI):Option ZoM:=
 some (ZoM.mk t 0)
def Zrl (n:Int) (m:Int):Option Int:=
 bif (decide (m < 1))then (
  some (0:Int)
 )else (
  chk (decide (m≠0)) <|
  chk (inK .i64 ((Int.tmod n m)+m)) <|
  chk (decide (m≠0)) <|
  some (Int.tmod ((Int.tmod n m)+m) m)
 )
def Zpo (d:ZoM) (n:Int):Option (Int×ZoM):=
 bif (decide (d.at_≥(d.l.length:Int)))then (
  some (0,d)
 )else (
  chk (inK .i64 (d.at_+1)) <|
  chk (inK .i64 ((d.at_+1) - 1)) <|
  (idx d.l ((d.at_+1) - 1)).bind fun l_e=>
  (Zrl l_e n).bind fun q=>
  some (q,(ZoM.mk d.l (d.at_+1)))
 )
def Zru (d:ZoM) (l:ZyY):Option (Str×ZoM):=
 (Zpo d (l.length:Int)).bind fun(q,t6)=>
 (idx l q).bind fun l_e=>
 some (l_e,t6)
def ZtI:Option Bool:=
 some true
def ZqY (rec_:ZA8→Int→Int→Zvy) (t7:ZA8) (t8:Int) (t9:Int):Zvy:=
 bif (decide (t9 < t8))then (
  (idx t7 t9).bind fun x_=>
  (ZqO x_).bind fun q=>
  bif (!q)then (
   some (.ret false)
  )else (
   chk (inK .i64 (t9+1)) <|
   rec_ t7 t8 (t9+1)
  )
 )else (
  some (.brk ())
 )
def Zrv:Nat→ZA8→Int→Int→Zvy
 |0,_,_,_=>none
 |n_+1,t7,t8,t9=>ZqY (Zrv n_) t7 t8 t9
def ZvE (n:Nat) (s:(ZA8×Int×Int)):Zvy:=Zrv n s.1 s.2.1 s.2.2
def ZsO (rec_:(ZA8×Int×Int)→Zvy) (s:(ZA8×Int×Int)):Zvy:=ZqY (fun t7 t8 t9=>rec_ (t7,t8,t9)) s.1 s.2.1 s.2.2
theorem Zx3:∀n s,ZvE (n+1) s=ZsO (ZvE n) s:=fun _ _=>rfl
def ZsP (l:ZA8):Option Bool:=
 (Zrv big l (l.length:Int) (0:Int)).bind fun
  | .ret q_=>some q_
  | .brk ()=>ZtI
def Zwy (t2:Bool):Option Bool:=
 some t2
def Zwx (l:ZA8):Option Bool:=
 bif (decide ((l.length:Int)≤1024))then (
  (ZsP l).bind fun q=>
  Zwy q
 )else (
  Zwy false
 )
def ZtA (rec_:ZA8→Int→ZI4) (l:ZA8) (i:Int):ZI4:=
 bif (decide (i < (l.length:Int)))then (
  chk (inK .i64 (i - 1)) <|
  (idx l (i - 1)).bind fun l_e=>
  (idx l i).bind fun l_e_1=>
  bif (decide (l_e.ID≥l_e_1.ID))then (
   some (.ret false)
  )else (
   chk (inK .i64 (i+1)) <|
   rec_ l (i+1)
  )
 )else (
  some (.brk l)
 )
def ZpC:Nat→ZA8→Int→ZI4
 |0,_,_=>none
 |n_+1,l,i=>ZtA (ZpC n_) l i
def Zwf (l:ZA8):Option Bool:=
 (ZpC big l (1:Int)).bind fun
  | .ret q_=>some q_
  | .brk x0=>Zwx x0
def ZxG (l:ZA8):Option Bool:=
 (Zwf l).bind fun q=>
 some q
def Zx4 (f:ZoF):Option Bool:=
 (Zwj f).bind fun q=>
 some (decide (q > 0))
def Zwz (x_:Int) (n:Int):Option Int:=
 (idx ([0,1,2,2,3,3,3,3,4,4,4,4,4,4,4,4,5,5,5,5,5,5,5,5,5,5,5,5,5,5,5,5,6,6,6,6,6,6,6,6,6,6,6,6,6,6,6,6,6,6,6,6,6,6,6,6,6,6,6,6,6,6,6,6,7,7,7,7,7,7,7,7,7,7,7,7,7,7,7,7,7,7,7,7,7,7,7,7,7,7,7,7,7,7,7,7,7,7,7,7,7,7,7,7,7,7,7,7,7,7,7,7,7,7,7,7,7,7,7,7,7,7,7,7,7,7,7,7,8,8,8,8,8,8,8,8,8,8,8,8,8,8,8,8,8,8,8,8,8,8,8,8,8,8,8,8,8,8,8,8,8,8,8,8,8,8,8,8,8,8,8,8,8,8,8,8,8,8,8,8,8,8,8,8,8,8,8,8,8,8,8,8,8,8,8,8,8,8,8,8,8,8,8,8,8,8,8,8,8,8,8,8,8,8,8,8,8,8,8,8,8,8,8,8,8,8,8,8,8,8,8,8,8,8,8,8,8,8,8,8,8,8,8,8,8,8,8,8,8,8,8,8,8,8,8,8]:Str) (IntKind.wrap .u8 x_)).bind fun c=>
 chk (inK .i64 (n+(IntKind.wrap .i64 ((c.toNat:Nat):Int)))) <|
 some (n+(IntKind.wrap .i64 ((c.toNat:Nat):Int)))
def ZwA (x_:Int) (n:Int):Option Int:=
 bif (decide (x_≥256))then (
  chk (decide (0≤(8:Int))) <|
  chk (inK .i64 (n+8)) <|
  Zwz (shrK .u64 x_ 8) (n+8)
 )else (
  Zwz x_ n
 )
def ZwB (x_:Int) (n:Int):Option Int:=
 bif (decide (x_≥65536))then (
  chk (decide (0≤(16:Int))) <|
  chk (inK .i64 (n+16)) <|
  ZwA (shrK .u64 x_ 16) (n+16)
 )else (
  ZwA x_ n
 )
def Zy4 (x_:Int):Option Int:=
 bif (decide (x_≥4294967296))then (
  chk (decide (0≤(32:Int))) <|
  ZwB (shrK .u64 x_ 32) (32:Int)
 )else (
  ZwB x_ (0:Int)
 )
def ZzO (x_:Int):Option Int:=
 (Zy4 x_).bind fun q=>
 some q
def ZAc (a:ZoF) (b:ZoF):Option Int:=
 (Zun b a).bind fun q=>
 some q
def ZzR (zero:Int):Option Int:=
 some zero
def ZAQ (rec_:Int→ZoI→Int→Int→ZI2) (zero:Int) (t6:ZoI) (t7:Int) (t8:Int):ZI2:=
 bif (decide (t8 < t7))then (
  (idx t6 t8).bind fun val=>
  bif (val != zero)then (
   some (.ret val)
  )else (
   chk (inK .i64 (t8+1)) <|
   rec_ zero t6 t7 (t8+1)
  )
 )else (
  some (.brk zero)
 )
def ZyB:Nat→Int→ZoI→Int→Int→ZI2
 |0,_,_,_,_=>none
 |n_+1,zero,t6,t7,t8=>ZAQ (ZyB n_) zero t6 t7 t8
def ZA2 (vals:ZoI):Option Int:=
 (ZyB big (0:Int) vals (vals.length:Int) (0:Int)).bind fun
  | .ret q_=>some q_
  | .brk x0=>ZzR x0
def ZxP (a:Zqv) (b:Zqv):Option Int:=
 (ZAc a.Score b.Score).bind fun q=>
 (ZuO a.Table b.Table).bind fun q_1=>
 (ZA2 ([q,q_1]:ZoI)).bind fun q_2=>
 some q_2
def Zrp (data:Zx1):Option Zx1:=
 some data
def Zrq (rec_:ZK8) (a:Int) (b:Int) (i:Int) (data:Zx1):Option Zx1:=
 chk (inK .i64 (i+1)) <|
 rec_ a b (i+1) data
def ZpU (rec_:ZK7) (a:Int) (b:Int) (i:Int) (j:Int) (t34:Bool) (data:Zx1):ZG2:=
 bif t34 then (
  chk (inK .i64 (j - 1)) <|
  chk (inK .i64 (j - 1)) <|
  chk (inR (j - 1) (data.length:Int)) <|
  (data[((j - 1)).toNat]?).bind fun data_e=>
  chk (inR j (data.length:Int)) <|
  (data[(j).toNat]?).bind fun data_e_1=>
  chk (inR j (data.length:Int)) <|
  chk (inR (j - 1) ((data.set ((j).toNat) data_e).length:Int)) <|
  chk (inK .i64 (j - 1)) <|
  rec_ a b i (j - 1) ((data.set ((j).toNat) data_e).set (((j - 1)).toNat) data_e_1)
 )else (
  some (a,b,i,data)
 )
def ZuQ (rec_:ZK7) (a:Int) (b:Int) (i:Int) (j:Int) (data:Zx1):ZG2:=
 bif (decide (j > a))then (
  chk (inR j (data.length:Int)) <|
  (data[(j).toNat]?).bind fun data_e=>
  chk (inK .i64 (j - 1)) <|
  chk (inR (j - 1) (data.length:Int)) <|
  (data[((j - 1)).toNat]?).bind fun data_e_1=>
  (ZxP data_e data_e_1).bind fun q=>
  ZpU rec_ a b i j (decide (q < 0)) data
 )else (
  ZpU rec_ a b i j false data
 )
def Zpi:Nat→Int→Int→Int→Int→Zx1→ZG2
 |0,_,_,_,_,_=>none
 |n_+1,a,b,i,j,data=>ZuQ (Zpi n_) a b i j data
def ZuR (rec_:ZK8) (a:Int) (b:Int) (i:Int) (data:Zx1):Option Zx1:=
 bif (decide (i < b))then (
  (Zpi big a b i i data).bind fun(x0,x1,x2,x3)=>Zrq rec_ x0 x1 x2 x3
 )else (
  some data
 )
def Zpj:Nat→Int→Int→Int→Zx1→Option Zx1
 |0,_,_,_,_=>none
 |n_+1,a,b,i,data=>ZuR (Zpj n_) a b i data
def Zse (data:Zx1) (a:Int) (b:Int):Option Zx1:=
 chk (inK .i64 (a+1)) <|
 (Zpj big a b (a+1) data).bind fun x0=>Zrp x0
def ZrK (data:Zx1) (a:Int) (b:Int):Option Zx1:=
 (Zse data a b).bind fun r=>chk (decide (r.length=data.length)&&true) (some r)
def Zwh (rec_:Int→Int→Int→Bool→Bool→Zx1→ZI3) (a:Int) (b:Int) (limit:Int) (wasBalanced:Bool) (wasPartitioned:Bool) (data:Zx1):ZI3:=
 chk (inK .i64 (b - a)) <|
 bif (decide ((b - a)≤12))then (
  (ZrK data a b).bind fun t26=>
  some (.ret t26)
 )else (
  bif (limit == 0)then (
   none
  )else (
   bif (!wasBalanced)then (
    none
   )else (
    none
   )
  )
 )
def ZqE:Nat→Int→Int→Int→Bool→Bool→Zx1→ZI3
 |0,_,_,_,_,_,_=>none
 |n_+1,a,b,limit,wasBalanced,wasPartitioned,data=>Zwh (ZqE n_) a b limit wasBalanced wasPartitioned data
def ZtS (data:Zx1) (a:Int) (b:Int) (limit:Int):Option Zx1:=
 (ZqE big a b limit true true data).bind fun
  | .ret q_=>some q_
  | .brk _=>none
def Ztc (data:Zx1) (a:Int) (b:Int) (limit:Int):Option Zx1:=
 (ZtS data a b limit).bind fun r=>chk (decide (r.length=data.length)&&true) (some r)
def ZsG (x_:Zx1):Option Zx1:=
 (ZzO (IntKind.wrap .u64 (x_.length:Int))).bind fun q=>
 (Ztc x_ 0 (x_.length:Int) q).bind fun t7=>
 some t7
def Zsf (x_:Zx1):Option Zx1:=
 (ZsG x_).bind fun r=>chk (decide (r.length=x_.length)&&true) (some r)
def Zxf (l:Zx1) (k:Int):Option (Nat×Nat×Zx1):=
 (Zsf l).bind fun t7=>
 chk (Zcp 0 (if (t7.length:Int) < k then (t7.length:Int)else k) (t7.length:Int)) <|
 some (0,(((if (t7.length:Int) < k then (t7.length:Int)else k)).toNat - 0),t7)
def ZwM (l:Zx1) (k:Int):Option (Nat×Nat×Zx1):=
 (Zxf l k).bind fun r=>chk (decide (r.2.2.length=l.length)&&true) (some r)
def Zur (k:Int) (out:Zx1):ZG1:=
 (ZwM out k).bind fun(q_off,q_len,t63)=>
 some (((t63.drop q_off).take q_len),0)
def Zus (rec_:ZMT) (k:Int) (t35:ZA8) (t36:Int) (t37:Int) (q:ZoG) (out:Zx1):ZDb:=
 chk (inK .i64 (t37+1)) <|
 rec_ k t35 t36 (t37+1) q out
def Zut (rec_:ZMT) (k:Int) (t35:ZA8) (t36:Int) (t37:Int) (t53:Bool) (q:ZoG) (out:Zx1) (t:ZoG) (align:ZoI) (score:ZoF):ZDb:=
 bif t53 then (
  chk (ZjC (out.length+([(Zqv.mk t.ID align score)]:Zx1).length) 96) <|
  Zus rec_ k t35 t36 t37 q (out++([(Zqv.mk t.ID align score)]:Zx1))
 )else (
  Zus rec_ k t35 t36 t37 q out
 )
def Ztr (rec_:ZMT) (k:Int) (t35:ZA8) (t36:Int) (t37:Int) (q:ZoG) (out:Zx1):ZDb:=
 bif (decide (t37 < t36))then (
  (idx t35 t37).bind fun t=>
  (ZpM q t).bind fun(align,score,e)=>
  bif (e == 0)then (
   (Zx4 score).bind fun q_1=>
   Zut rec_ k t35 t36 t37 q_1 q out t align score
  )else (
   Zut rec_ k t35 t36 t37 false q out t align score
  )
 )else (
  some (k,out)
 )
def Zqr:Nat→Int→ZA8→Int→Int→ZoG→Zx1→ZDb
 |0,_,_,_,_,_,_=>none
 |n_+1,k,t35,t36,t37,q,out=>Ztr (Zqr n_) k t35 t36 t37 q out
def ZxE (n:Nat) (s:(Int×ZA8×Int×Int×ZoG×Zx1)):ZDb:=Zqr n s.1 s.2.1 s.2.2.1 s.2.2.2.1 s.2.2.2.2.1 s.2.2.2.2.2
def Zvk (rec_:(Int×ZA8×Int×Int×ZoG×Zx1)→ZDb) (s:(Int×ZA8×Int×Int×ZoG×Zx1)):ZDb:=Ztr (fun k t35 t36 t37 q out=>rec_ (k,t35,t36,t37,q,out)) s.1 s.2.1 s.2.2.1 s.2.2.2.1 s.2.2.2.2.1 s.2.2.2.2.2
theorem Zzo:∀n s,ZxE (n+1) s=Zvk (ZxE n) s:=fun _ _=>rfl
def Zuu (l:ZA8) (k:Int) (t21:Bool) (q:ZoG):ZG1:=
 bif t21 then (
  some (([]:Zx1),1)
 )else (
  bif (decide ((q.Columns.length:Int) > 8))then (
   some (([]:Zx1),3)
  )else (
   (Zqr big k l (l.length:Int) (0:Int) q ([]:Zx1)).bind fun(x0,x1)=>Zur x0 x1
  )
 )
def Zuv (l:ZA8) (k:Int) (t14:Bool) (q:ZoG):ZG1:=
 bif t14 then (
  some (([]:Zx1),2)
 )else (
  (ZxG l).bind fun q_1=>
  bif (!q_1)then (
   Zuu l k true q
  )else (
   (ZqO q).bind fun q_2=>
   Zuu l k (!q_2) q
  )
 )
def ZuB (l:ZA8) (q:ZoG) (k:Int):ZG1:=
 bif (decide (k < 0))then (
  Zuv l k true q
 )else (
  Zuv l k (decide (k > 1024)) q
 )
def Zqs:Option Bool:=
 (ZqT).bind fun q=>
 some q
def ZvT (rec_:Int→Int→Int→Int→ZoI→Zvy) (n:Int) (k:Int) (t131:Int) (i:Int) (t130:ZoI):Zvy:=
 bif (decide (i < t131))then (
  chk (inR i (t130.length:Int)) <|
  (t130[(i).toNat]?).bind fun x_=>
  chk (inK .i64 (i - k)) <|
  (Zrl (i - k) n).bind fun q=>
  bif (x_ != q)then (
   some (.ret false)
  )else (
   chk (inK .i64 (i+1)) <|
   rec_ n k t131 (i+1) t130
  )
 )else (
  some (.brk ())
 )
def Zpz:Nat→Int→Int→Int→Int→ZoI→Zvy
 |0,_,_,_,_,_=>none
 |n_+1,n,k,t131,i,t130=>ZvT (Zpz n_) n k t131 i t130
def ZoU (n:Int) (k:Int) (t129:Bool) (l:ZoI):Option Bool:=
 bif t129 then (
  some false
 )else (
  (Zpz big n k (l.length:Int) (0:Int) l).bind fun
   | .ret q_=>some q_
   | .brk ()=>Zqs
 )
def ZpB (turn:Int) (n:Int) (a:Int) (a_1:Str) (a_2:Zro):Option Bool:=
 (Zrl turn n).bind fun k=>
 chk (Zcp k (a_2.length:Int) (a_2.length:Int)) <|
 chk (ZjC ((a_2.drop ((k).toNat)).take ((a_2.length:Int).toNat - (k).toNat)).length 40) <|
 chk (Zcp 0 k (a_2.length:Int)) <|
 chk (ZjC (((a_2.drop ((k).toNat)).take ((a_2.length:Int).toNat - (k).toNat)).length+((a_2.drop 0).take ((k).toNat - 0)).length) 40) <|
 (ZpM (ZoG.mk a a_1 a_2) (ZoG.mk 4 ([]:Str) (((a_2.drop ((k).toNat)).take ((a_2.length:Int).toNat - (k).toNat))++((a_2.drop 0).take ((k).toNat - 0))))).bind fun(l,s,e)=>
 (ZuB ([(ZoG.mk a a_1 a_2),(ZoG.mk 4 ([]:Str) (((a_2.drop ((k).toNat)).take ((a_2.length:Int).toNat - (k).toNat))++((a_2.drop 0).take ((k).toNat - 0))))]:ZA8) (ZoG.mk a a_1 a_2) 5).bind fun(m,f)=>
 bif (e != 0)then (
  ZoU n k true l
 )else (
  bif (f != 0)then (
   ZoU n k true l
  )else (
   (Zp3 1).bind fun q=>
   (Zq3 s q).bind fun q_1=>
   bif (!q_1)then (
    ZoU n k true l
   )else (
    bif ((m.length:Int) != 2)then (
     ZoU n k true l
    )else (
     (idx m 0).bind fun m_e=>
     bif (m_e.Table != 3)then (
      ZoU n k true l
     )else (
      (idx m 1).bind fun m_e_1=>
      ZoU n k (m_e_1.Table != 4) l
     )
    )
   )
  )
 )
def Zqt (rec_:Tf_6) (turn:Int) (rows:Int) (n:Int) (t34:Int) (i:Int) (d:ZoM) (a:Int) (a_1:Str) (c:Str) (a_2:Zro) (c_1:ZxL):ZDE:=
 chk (ZjC (a_2.length+([(ZoJ.mk c c_1)]:Zro).length) 40) <|
 chk (inK .i64 (i+1)) <|
 rec_ turn rows n t34 (i+1) d a a_1 (a_2++([(ZoJ.mk c c_1)]:Zro))
def Zps (rec_:Int→Int→Int→Int→Int→Int→Int→Int→ZoM→Int→Str→Str→Zro→ZxL→ZJU) (turn:Int) (rows:Int) (n:Int) (i:Int) (t34:Int) (i_1:Int) (t43:Int) (r_:Int) (d:ZoM) (a:Int) (a_1:Str) (c:Str) (a_2:Zro) (c_1:ZxL):ZJU:=
 bif (decide (r_ < t43))then (
  chk (inR i (([([97]:Str),([98]:Str),([99]:Str),([100]:Str)]:ZyY).length:Int)) <|
  (([([97]:Str),([98]:Str),([99]:Str),([100]:Str)]:ZyY)[(i).toNat]?).bind fun Str_e=>
  (Zru d ([([49]:Str),([50]:Str),([51]:Str)]:ZyY)).bind fun(q,t53)=>
  chk (decide (Str_e.length+q.length≤Zr)) <|
  chk (ZjC (c_1.length+([(ZoR.mk false (Str_e++q))]:ZxL).length) 24) <|
  chk (inK .i64 (r_+1)) <|
  rec_ turn rows n i t34 i_1 t43 (r_+1) t53 a a_1 c a_2 (c_1++([(ZoR.mk false (Str_e++q))]:ZxL))
 )else (
  some (turn,rows,n,t34,i_1,d,a,a_1,c,a_2,c_1)
 )
def ZpA:Nat→Int→Int→Int→Int→Int→Int→Int→Int→ZoM→Int→Str→Str→Zro→ZxL→ZJU
 |0,_,_,_,_,_,_,_,_,_,_,_,_,_,_=>none
 |n_+1,turn,rows,n,i,t34,i_1,t43,r_,d,a,a_1,c,a_2,c_1=>Zps (ZpA n_) turn rows n i t34 i_1 t43 r_ d a a_1 c a_2 c_1
def Zsc (n:Nat) (s:(Int×Int×Int×Int×Int×Int×Int×Int×ZoM×Int×Str×Str×Zro×ZxL)):ZJU:=ZpA n s.1 s.2.1 s.2.2.1 s.2.2.2.1 s.2.2.2.2.1 s.2.2.2.2.2.1 s.2.2.2.2.2.2.1 s.2.2.2.2.2.2.2.1 s.2.2.2.2.2.2.2.2.1 s.2.2.2.2.2.2.2.2.2.1 s.2.2.2.2.2.2.2.2.2.2.1 s.2.2.2.2.2.2.2.2.2.2.2.1 s.2.2.2.2.2.2.2.2.2.2.2.2.1 s.2.2.2.2.2.2.2.2.2.2.2.2.2
def Zqc (rec_:(Int×Int×Int×Int×Int×Int×Int×Int×ZoM×Int×Str×Str×Zro×ZxL)→ZJU) (s:(Int×Int×Int×Int×Int×Int×Int×Int×ZoM×Int×Str×Str×Zro×ZxL)):ZJU:=Zps (fun turn rows n i t34 i_1 t43 r_ d a a_1 c a_2 c_1=>rec_ (turn,rows,n,i,t34,i_1,t43,r_,d,a,a_1,c,a_2,c_1)) s.1 s.2.1 s.2.2.1 s.2.2.2.1 s.2.2.2.2.1 s.2.2.2.2.2.1 s.2.2.2.2.2.2.1 s.2.2.2.2.2.2.2.1 s.2.2.2.2.2.2.2.2.1 s.2.2.2.2.2.2.2.2.2.1 s.2.2.2.2.2.2.2.2.2.2.1 s.2.2.2.2.2.2.2.2.2.2.2.1 s.2.2.2.2.2.2.2.2.2.2.2.2.1 s.2.2.2.2.2.2.2.2.2.2.2.2.2
theorem ZvL:∀n s,Zsc (n+1) s=Zqc (Zsc n) s:=fun _ _=>rfl
def Zpt (rec_:Tf_6) (turn:Int) (rows:Int) (n:Int) (t34:Int) (i:Int) (d:ZoM) (a:Int) (a_1:Str) (a_2:Zro):ZDE:=
 bif (decide (i < t34))then (
  chk (inR i (([([105,100]:Str),([99,105,116,121]:Str),([117,110,105,116,32,112,114,105,99,101]:Str),([110,97,109,101]:Str)]:ZyY).length:Int)) <|
  (([([105,100]:Str),([99,105,116,121]:Str),([117,110,105,116,32,112,114,105,99,101]:Str),([110,97,109,101]:Str)]:ZyY)[(i).toNat]?).bind fun Str_e=>
  (ZpA big turn rows n i t34 i rows (0:Int) d a a_1 Str_e a_2 ([]:ZxL)).bind fun(x0,x1,x2,x3,x4,x5,x6,x7,x8,x9,x10)=>Zqt rec_ x0 x1 x2 x3 x4 x5 x6 x7 x8 x9 x10
 )else (
  some (turn,n,a,a_1,a_2)
 )
def Zpa:Nat→Int→Int→Int→Int→Int→ZoM→Int→Str→Zro→ZDE
 |0,_,_,_,_,_,_,_,_,_=>none
 |n_+1,turn,rows,n,t34,i,d,a,a_1,a_2=>Zpt (Zpa n_) turn rows n t34 i d a a_1 a_2
def Zsd (n:Nat) (s:(Int×Int×Int×Int×Int×ZoM×Int×Str×Zro)):ZDE:=Zpa n s.1 s.2.1 s.2.2.1 s.2.2.2.1 s.2.2.2.2.1 s.2.2.2.2.2.1 s.2.2.2.2.2.2.1 s.2.2.2.2.2.2.2.1 s.2.2.2.2.2.2.2.2
def Zqd (rec_:(Int×Int×Int×Int×Int×ZoM×Int×Str×Zro)→ZDE) (s:(Int×Int×Int×Int×Int×ZoM×Int×Str×Zro)):ZDE:=Zpt (fun turn rows n t34 i d a a_1 a_2=>rec_ (turn,rows,n,t34,i,d,a,a_1,a_2)) s.1 s.2.1 s.2.2.1 s.2.2.2.1 s.2.2.2.2.1 s.2.2.2.2.2.1 s.2.2.2.2.2.2.1 s.2.2.2.2.2.2.2.1 s.2.2.2.2.2.2.2.2
theorem ZvM:∀n s,Zsd (n+1) s=Zqd (Zsd n) s:=fun _ _=>rfl
def Zq0 (t:ZoI) (turn:Int):Option Bool:=
 (Zvr t).bind fun q=>
 bif (!q)then (
  (ZqT).bind fun q_1=>
  some q_1
 )else (
  (ZvU t).bind fun d=>
  (Zpo d 5).bind fun(q_2,t28)=>
  chk (inK .i64 (1+q_2)) <|
  (Zpo t28 4).bind fun(q_3,t31)=>
  chk (inK .i64 (1+q_3)) <|
  (Zpa big turn (1+q_2) (1+q_3) (1+q_3) (0:Int) t31 (3:Int) ([]:Str) ([]:Zro)).bind fun(x0,x1,x2,x3,x4)=>ZpB x0 x1 x2 x3 x4
 )
end
end Go.Proofs

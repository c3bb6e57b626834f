/- Printed by wip/tools/tgen.py: specs. -/
import Derived.Test.YtdmabekeafhflaaGreatDoorE5
import Derived.Lib.Bytealg
import Derived.Lib.ItoaNum
import Derived.Lib.LaidU8
import Derived.Lib.SlTrimSet
import Derived.Shelf.Strconv.Itoa3
import Derived.Test.YtdmabekeafhflaaGreatDoorUrWD
set_option linter.unusedVariables false
set_option linter.unusedSimpArgs false
set_option linter.unusedSectionVars false
namespace Go.Proofs
open Go Eng
set_option maxRecDepth 100000
noncomputable section
structure ZoR where
 Null:Bool
 Text:Str
 deriving DecidableEq,Inhabited
structure ZoL where
 Name:Str
 Cells:(List ZoR)
 deriving DecidableEq,Inhabited
structure ZoF where
 ID:Int
 Name:Str
 Columns:(List ZoL)
 deriving DecidableEq,Inhabited
structure ZoN where
 Neg:Bool
 Words:(List Int)
 deriving DecidableEq,Inhabited
structure ZoG where
 Num:ZoN
 Den:ZoN
 deriving DecidableEq,Inhabited
structure ZoI where
 lo:Int
 hi:Int
 deriving DecidableEq,Inhabited
structure ZpS where
 word:Str
 canonical:(Option Nat)
 value:(Option Nat)
 deriving DecidableEq,Inhabited
structure ZoU where
 e0:Int
 e1:Int
 deriving DecidableEq,Inhabited
structure ZqW where
 w_:(List (List ZoG))
 best:(List (ZoU×ZoG))
 deriving DecidableEq,Inhabited
structure ZoH where
 l:(List Int)
 at_:Int
 deriving DecidableEq,Inhabited
structure ZoY where
 Kind:Int
 Column:Int
 Text:Str
 Columns:(List Int)
 deriving DecidableEq,Inhabited
structure Zo0 where
 Table:Int
 Align:(List Int)
 Score:ZoG
 deriving DecidableEq,Inhabited
abbrev ZvJ:Type:={l:List Int // l.length=256}
structure Zpb where
 e0:ZoI
 e1:ZoI
 e2:ZoI
 e3:ZoI
 e4:ZoI
 e5:ZoI
 e6:ZoI
 e7:ZoI
 e8:ZoI
 e9:ZoI
 e10:ZoI
 e11:ZoI
 e12:ZoI
 e13:ZoI
 e14:ZoI
 e15:ZoI
 deriving DecidableEq,Inhabited
def Zxw:Nat→Type
 |0=>ZoR
 |1=>ZoL
 |2=>ZoF
 |3=>ZoN
 |4=>ZoG
 |5=>ZoI
 |6=>ZpS
 |7=>ZoU
 |8=>ZqW
 |9=>ZoH
 |10=>ZoY
 |11=>Zo0
 |12=>ZvJ
 |13=>Zpb
 |_=>Unit
def ZSm:Nat→Nat
 |0=>2
 |1=>2
 |2=>3
 |3=>2
 |4=>4
 |5=>2
 |6=>3
 |7=>2
 |8=>2
 |9=>2
 |10=>4
 |11=>6
 |12=>256
 |13=>32
 |_=>0
def ZFN:(n:Nat)→Zxw n→Zxw n→Bool
 |7,x,y=>x.e0 == y.e0&&x.e1 == y.e1
 |_,_,_=>false
def ZEC:List (Lf Zxw):=[⟨.sl (.int .u32),([1]:List Int)⟩]
def ZAC:List (Lf Zxw):=(Lib.firstTab.map fun n=>⟨.int .u8,n⟩)
def Ztq:List (Lf Zxw):=[⟨.int .u8,(128:Int)⟩,⟨.int .u8,(191:Int)⟩,⟨.int .u8,(160:Int)⟩,⟨.int .u8,(191:Int)⟩,⟨.int .u8,(128:Int)⟩,⟨.int .u8,(159:Int)⟩,⟨.int .u8,(144:Int)⟩,⟨.int .u8,(191:Int)⟩,⟨.int .u8,(128:Int)⟩,⟨.int .u8,(143:Int)⟩,⟨.int .u8,(0:Int)⟩,⟨.int .u8,(0:Int)⟩,⟨.int .u8,(0:Int)⟩,⟨.int .u8,(0:Int)⟩,⟨.int .u8,(0:Int)⟩,⟨.int .u8,(0:Int)⟩,⟨.int .u8,(0:Int)⟩,⟨.int .u8,(0:Int)⟩,⟨.int .u8,(0:Int)⟩,⟨.int .u8,(0:Int)⟩,⟨.int .u8,(0:Int)⟩,⟨.int .u8,(0:Int)⟩,⟨.int .u8,(0:Int)⟩,⟨.int .u8,(0:Int)⟩,⟨.int .u8,(0:Int)⟩,⟨.int .u8,(0:Int)⟩,⟨.int .u8,(0:Int)⟩,⟨.int .u8,(0:Int)⟩,⟨.int .u8,(0:Int)⟩,⟨.int .u8,(0:Int)⟩,⟨.int .u8,(0:Int)⟩,⟨.int .u8,(0:Int)⟩]
def ZAa:List (Lf Zxw):=(Lib.pow10Tab.map fun n=>⟨.int .u64,n⟩)
abbrev ZoK:Type:=List Int
abbrev Zo3:Type:=List ZoL
abbrev Zsm:Type:=List ZoG
abbrev Zw2:Type:=List Zo0
abbrev ZwZ:Type:=List ZoR
abbrev ZAZ:Type:=List ZoF
abbrev ZCd:Type:=List Str
abbrev ZR5:Type:=Option ((List Zsm)×Int×Int×(List Zsm)×Int×Int×Bool×Bool×(List (ZoU×ZoG))×ZoK×ZoK×ZoK)
abbrev ZMo:Type:=Option ((List Zsm)×(List (ZoU×ZoG))×Bool×Bool×ZoU×ZoG×ZoK×ZoK)
abbrev ZPk:Type:=Option (Zo3×Int×Int×ZoF×ZoF×Bool×Bool×(List Zsm)×Zsm×ZoK×ZoK)
abbrev ZR4:Type:=Option ((List Zsm)×Bool×Bool×(List (ZoU×ZoG))×ZoK×ZoK×ZoK)
abbrev ZJv:Type:=Option (Out (ZoK×ZoF×ZoF×Int×Str×Zo3) (ZoF×Int))
abbrev ZPj:Type:=Option (ZoK×Zo3×Int×Int×Int×Str×Int×Str×Str×Zo3×Zo3×ZwZ)
abbrev ZNZ:Type:=Option (ZoH×Int×Int×Str×Int×Int×Str×ZoK×ZoK)
abbrev ZNY:Type:=Option (Out (ZoK×Int×Str×Int×Str×Zo3×Zo3) (ZoF×Int))
abbrev ZNX:Type:=Option (ZoF×ZoF×Bool×Bool×(List Zsm)×ZoK×ZoK)
abbrev ZNW:Type:=Option (Out (ZoK×ZoF×Int×Str×Zo3) (ZoF×Int))
abbrev ZQH:Type:=Option (ZoG×Bool×(List (ZoU×ZoG)))
abbrev ZEs:Type:=Option (Int×Int×Bool×Int×Int×ZoF×ZoY×ZoK)
abbrev ZHR:Type:=Option (Int×ZoH×ZoF×Int×Str×Zo3)
abbrev ZJr:Type:=Option (Bool×Str×ZoK×ZoK×Bool×Bool×ZoK×ZoK×ZoK)
abbrev ZJq:Type:=Option (ZoH×Int×Str×Int×Str×Zo3×Zo3)
abbrev ZJp:Type:=Option (Out (ZoF×Int×Str×Zo3) (ZoF×Int))
abbrev ZEr:Type:=Option (ZoG×(List (ZoU×ZoG)))
abbrev ZJo:Type:=Option (Nat×Nat×ZoK×Int×Int×Int×Int×ZoK)
abbrev ZHQ:Type:=Option (ZoH×Str×Str×ZwZ×ZwZ)
abbrev ZJn:Type:=Option (Bool×ZoK×ZoK×Bool×Bool×ZoK×ZoK)
abbrev ZJm:Type:=Option (Out (Int×Str×Zo3) (ZoF×Bool))
abbrev ZJl:Type:=Option (ZoK×Int×Int×ZoK×Int×Int×ZoK)
abbrev ZJk:Type:=Option (Int×Str×Int×Str×Zo3×Nat×Zo3)
abbrev ZHP:Type:=Option (Int×Str×Int×Str×Zo3×Zo3×Nat)
abbrev ZN4:Type:=Option (Out (Zo3×Int×Int×ZoF) Bool)
abbrev ZHO:Type:=Option (Int×Int×Bool×Bool×ZoK×ZoK)
abbrev ZQG:Type:=Option (ZoL×ZoH)
abbrev ZHN:Type:=Option (Nat×Nat×ZoK×Int×Int×ZoK)
abbrev ZKJ:Type:=Option (ZoF×ZoH)
abbrev ZEG:Type:=Option (Int×Str×Int×Str×Zo3×Zo3)
abbrev ZJj:Type:=Option (Nat×Nat×Int×Int×Int×ZoK)
abbrev ZQF:Type:=Option (ZoR×ZoH)
abbrev ZJi:Type:=Option (Out ((List Zsm)×Int×Int) Int)
abbrev ZJh:Type:=Option (ZoY×ZoH)
abbrev ZJg:Type:=Option (ZoK×ZoK×Int×Int×ZoK)
abbrev ZQE:Type:=Option (ZAZ×ZoH)
abbrev ZHi:Type:=Option (ZoH×ZAZ)
abbrev ZJf:Type:=Option (ZoK×ZoG×Int)
abbrev ZJe:Type:=Option (Nat×Nat×ZoK×ZoK)
abbrev ZJd:Type:=Option (Int×Int×ZoK×ZoK)
abbrev ZJc:Type:=Option (ZCd×Str×Int×Int)
abbrev ZHM:Type:=Option (Int×Int×Int×Zw2)
abbrev ZHL:Type:=Option (ZoG×Bool)
abbrev ZEV:Type:=Option (ZoG×Int)
abbrev ZFP:Type:=Option (Out (List Zsm) Int)
abbrev ZEU:Type:=Option (ZoF×Int)
abbrev ZHh:Type:=Option (ZoK×ZoK×Int)
abbrev ZHK:Type:=Option (Out ZoY Bool)
abbrev ZFE:Type:=Option (Nat×Nat×ZoK)
abbrev Zr8:Type:=Option (Out Unit Bool)
abbrev ZN3:Type:=Option (Out ZAZ Bool)
abbrev ZN2:Type:=Option (Out Unit Zw2)
abbrev ZAI:Type:=Option (Out Unit Int)
abbrev ZET:Type:=Option (ZoK×ZoK)
abbrev ZJb:Type:=Option (Out Str Str)
abbrev ZN1:Type:=Option (Out Int Int)
abbrev ZN0:Type:=Option (Int×Bool)
abbrev ZHg:Type:=Option (ZoK×Int)
abbrev Zzu:Type:=Option (Int×ZoK)
abbrev ZHJ:Type:=Option (Str×Bool)
abbrev ZLT:Type:=Option (Zw2×Int)
abbrev ZHf:Type:=Option (Int×Zw2)
abbrev ZJa:Type:=Option (Int×Int)
abbrev Tf_0:Type:=(List Zsm)→Int→Int→Int→(List Zsm)→Int→Int→Int→Int→Bool→Bool→(List (ZoU×ZoG))→ZoK→ZoG→ZoK→ZoK→ZR5
abbrev ZSP:Type:=(List Zsm)→Int→Int→Int→Int→(List (ZoU×ZoG))→Bool→Bool→ZoU→ZoG→ZoK→ZoK→ZMo
abbrev Tf_2:Type:=(List Zsm)→Int→(List Zsm)→Int→Int→Bool→Bool→(List (ZoU×ZoG))→ZoK→ZoK→ZoK→ZR4
abbrev Tf_3:Type:=Zo3→Int→Int→ZoF→ZoF→Bool→Bool→(List Zsm)→ZoK→ZoK→ZNX
abbrev Tf_4:Type:=Int→Int→ZoH→Int→Int→Str→Int→Int→Str→ZoK→ZoK→ZNZ
abbrev Tf_5:Type:=ZoK→Int→Int→ZoF→Int→Str→Int→Str→Zo3→Zo3→Nat→ZHP
abbrev Tf_6:Type:=ZoK→ZoK→Int→Int→ZoF→Int→Str→Int→Str→Zo3→Zo3→ZNY
abbrev Tf_7:Type:=Int→Int→Bool→Int→Int→Int→Int→ZoF→ZoY→ZoK→ZEs
abbrev Tf_8:Type:=(ZoK×ZoK×Int×Int×ZoF×ZoF×Int×Str×Zo3)→ZJv
abbrev ZR6:Type:=ZoK→ZoK→Int→Int→ZoF→ZoF→Int→Str→Zo3→ZJv
abbrev ZQ1:Type:=Int→Int→Bool→ZwZ→Int→Int→ZoF→ZoY→ZoK→ZEs
abbrev ZQ0:Type:=Int→Int→ZoH→ZoF→Int→Str→Zo3→ZHR
abbrev ZQZ:Type:=Int→Int→Int→ZoH→Str→Str→ZwZ→ZwZ→ZHQ
abbrev ZQY:Type:=ZoK→Zo3→Int→Int→Int→Str→Int→Str→Zo3→Zo3→ZEG
abbrev ZQX:Type:=Int→Int→ZwZ→Int→Int→Bool→Bool→ZoK→ZoK→ZHO
abbrev ZQW:Type:=ZoK→ZoK→Int→Int→ZoF→Int→Str→Zo3→ZNW
abbrev ZJs:Type:=Int→Int→ZoF→ZoY→ZoK→Option ZoK
abbrev ZQV:Type:=ZAZ→Zw2→Zw2→Int→Int→ZoF→Zr8
abbrev ZN7:Type:=Int→ZAZ→Int→Int→ZoF→Zw2→ZHf
abbrev ZQU:Type:=Nat→Nat→ZoK→Int→Int→Int→ZoK→ZHN
abbrev ZQT:Type:=ZoK→Int→Int→ZoF→ZoY→ZHK
abbrev ZN6:Type:=Int→Int→ZoH→ZAZ→ZHi
abbrev ZQS:Type:=((List Zsm)×(List Zsm)×Int×Int)→ZFP
abbrev ZQR:Type:=(ZoK×ZoK×Int×Int×ZoK)→Option ZoK
abbrev ZQQ:Type:=(List Zsm)→(List Zsm)→Int→Int→ZFP
abbrev ZLX:Type:=ZoK→ZoK→Int→Int→ZoK→Option ZoK
abbrev ZQP:Type:=ZCd→Int→ZCd→Int→Int→Option Int
abbrev ZQO:Type:=ZoK→ZoK→ZoK→Int→ZoK→ZET
abbrev ZN5:Type:=Zo3→Int→Int→ZoF→Zr8
abbrev ZQN:Type:=ZoK→ZoK→Int→ZoK→Option ZoK
abbrev ZLW:Type:=ZoK→ZoK→Int→Int→ZoK→Zzu
abbrev ZQM:Type:=ZoK→Int→Int→ZoK→Option ZoK
abbrev ZQL:Type:=Int→Int→Int→Zw2→Option Zw2
abbrev ZQK:Type:=Int→Int→Int→Int→Zw2→ZHM
abbrev ZQJ:Type:=(List Zsm)→Int→Int→ZAI
abbrev ZQI:Type:=Zw2→Zw2→Int→Int→Zr8
abbrev ZLV:Type:=ZoK→ZoK→Int→ZHg
abbrev ZLU:Type:=ZoK→ZoK→Int→ZHh
abbrev ZKK:Type:=ZoK→Option ZoK
abbrev ZHj:Type:=Str→Zr8
def Zyf (t:ZoK):Option Bool:=
 some (decide ((t.length:Int)≤500))
def Zo8 (s:Str):Option Int:=
 (idx s 0).bind fun c=>
 (idx s 1).bind fun c_1=>
 chk (decide (0≤(8:Int))) <|
 (idx s 2).bind fun c_2=>
 chk (decide (0≤(16:Int))) <|
 (idx s 3).bind fun c_3=>
 chk (decide (0≤(24:Int))) <|
 (idx s 4).bind fun c_4=>
 chk (decide (0≤(32:Int))) <|
 (idx s 5).bind fun c_5=>
 chk (decide (0≤(40:Int))) <|
 (idx s 6).bind fun c_6=>
 chk (decide (0≤(48:Int))) <|
 (idx s 7).bind fun c_7=>
 chk (decide (0≤(56:Int))) <|
 some (orK .u64 (orK .u64 (orK .u64 (orK .u64 (orK .u64 (orK .u64 (orK .u64 (IntKind.wrap .u64 ((c.toNat:Nat):Int)) (shlK .u64 (IntKind.wrap .u64 ((c_1.toNat:Nat):Int)) 8)) (shlK .u64 (IntKind.wrap .u64 ((c_2.toNat:Nat):Int)) 16)) (shlK .u64 (IntKind.wrap .u64 ((c_3.toNat:Nat):Int)) 24)) (shlK .u64 (IntKind.wrap .u64 ((c_4.toNat:Nat):Int)) 32)) (shlK .u64 (IntKind.wrap .u64 ((c_5.toNat:Nat):Int)) 40)) (shlK .u64 (IntKind.wrap .u64 ((c_6.toNat:Nat):Int)) 48)) (shlK .u64 (IntKind.wrap .u64 ((c_7.toNat:Nat):Int)) 56))
def Zum:Option Bool:=
 some true
def Zo2 (rec_:ZHj) (s:Str) (t166:Bool):Zr8:=
 bif t166 then (
  some (.ret false)
 )else (
  chk (Zcp 4 (s.length:Int) (s.length:Int)) <|
  rec_ (s.drop ((4:Int)).toNat)
 )
def Zph (rec_:ZHj) (s:Str) (t125:Bool):Zr8:=
 bif t125 then (
  some (.ret false)
 )else (
  chk (Zcp 3 (s.length:Int) (s.length:Int)) <|
  rec_ (s.drop ((3:Int)).toNat)
 )
def ZpK (rec_:ZHj) (s:Str) (t94:Bool):Zr8:=
 bif t94 then (
  some (.ret false)
 )else (
  chk (Zcp 2 (s.length:Int) (s.length:Int)) <|
  rec_ (s.drop ((2:Int)).toNat)
 )
def Zqk (rec_:ZHj) (s:Str):Zr8:=
 rec_ s
def Zun (rec_:ZHj) (s:Str):Zr8:=
 rec_ s
def ZrL (rec_:Str→Option Str) (s:Str) (t62:Bool):Option Str:=
 bif t62 then (
  chk (Zcp 32 (s.length:Int) (s.length:Int)) <|
  rec_ (s.drop ((32:Int)).toNat)
 )else (
  some s
 )
def Zts (rec_:Str→Option Str) (s:Str):Option Str:=
 bif (decide ((s.length:Int) > 32))then (
  (Zo8 s).bind fun q=>
  chk (Zcp 8 (s.length:Int) (s.length:Int)) <|
  (Zo8 (s.drop ((8:Int)).toNat)).bind fun q_1=>
  chk (Zcp 16 (s.length:Int) (s.length:Int)) <|
  (Zo8 (s.drop ((16:Int)).toNat)).bind fun q_2=>
  chk (Zcp 24 (s.length:Int) (s.length:Int)) <|
  (Zo8 (s.drop ((24:Int)).toNat)).bind fun q_3=>
  ZrL rec_ s ((andK .u64 (orK .u64 (orK .u64 q q_1) (orK .u64 q_2 q_3)) 9259542123273814144) == 0)
 )else (
  ZrL rec_ s false
 )
def ZpJ:Nat→Str→Option Str
 |0,_=>none
 |n_+1,s=>Zts (ZpJ n_) s
def Zql (rec_:ZHj) (s:Str) (t39:Bool):Zr8:=
 bif t39 then (
  chk (Zcp 16 (s.length:Int) (s.length:Int)) <|
  (ZpJ big (s.drop ((16:Int)).toNat)).bind fun x0=>Zun rec_ x0
 )else (
  Zqk rec_ s
 )
def Zqm (rec_:ZHj) (s:Str) (t24:Bool):Zr8:=
 bif t24 then (
  chk (Zcp 8 (s.length:Int) (s.length:Int)) <|
  bif (decide (((s.drop ((8:Int)).toNat).length:Int) > 16))then (
   (Zo8 (s.drop ((8:Int)).toNat)).bind fun q=>
   chk (Zcp 8 ((s.drop ((8:Int)).toNat).length:Int) ((s.drop ((8:Int)).toNat).length:Int)) <|
   (Zo8 ((s.drop ((8:Int)).toNat).drop ((8:Int)).toNat)).bind fun q_1=>
   Zql rec_ (s.drop ((8:Int)).toNat) ((andK .u64 (orK .u64 q q_1) 9259542123273814144) == 0)
  )else (
   Zql rec_ (s.drop ((8:Int)).toNat) false
  )
 )else (
  Zqk rec_ s
 )
def Ztt (rec_:ZHj) (s:Str):Zr8:=
 bif (decide ((s.length:Int) > 0))then (
  (idx s 0).bind fun c=>
  bif (decide (((c.toNat:Nat):Int) < 128))then (
   chk (Zcp 1 (s.length:Int) (s.length:Int)) <|
   bif (decide (((s.drop ((1:Int)).toNat).length:Int) > 8))then (
    (Zo8 (s.drop ((1:Int)).toNat)).bind fun q=>
    Zqm rec_ (s.drop ((1:Int)).toNat) ((andK .u64 q 9259542123273814144) == 0)
   )else (
    Zqm rec_ (s.drop ((1:Int)).toNat) false
   )
  )else (
   chk (inR ((c.toNat:Nat):Int) 256) <|
   (tabB (car:=Zxw) (.int .u8) ZAC ((((c.toNat:Nat):Int)).toNat*1)).bind fun c_1=>
   chk (decide (0≤(4:Int))) <|
   chk (inR (shrK .u8 c_1 4) 16) <|
   (tabB (car:=Zxw) (.int .u8) Ztq (((shrK .u8 c_1 4)).toNat*2)).bind fun c_2=>
   (tabB (car:=Zxw) (.int .u8) Ztq (((shrK .u8 c_1 4)).toNat*2+1)).bind fun c_3=>
   bif ((IntKind.wrap .i64 (andK .u8 c_1 7)) == 2)then (
    bif (decide ((s.length:Int) < 2))then (
     ZpK rec_ s true
    )else (
     (idx s 1).bind fun c_4=>
     bif (decide (((c_4.toNat:Nat):Int) < c_2))then (
      ZpK rec_ s true
     )else (
      (idx s 1).bind fun c_5=>
      ZpK rec_ s (decide (c_3 < ((c_5.toNat:Nat):Int)))
     )
    )
   )else (
    bif ((IntKind.wrap .i64 (andK .u8 c_1 7)) == 3)then (
     bif (decide ((s.length:Int) < 3))then (
      Zph rec_ s true
     )else (
      (idx s 1).bind fun c_6=>
      bif (decide (((c_6.toNat:Nat):Int) < c_2))then (
       Zph rec_ s true
      )else (
       (idx s 1).bind fun c_7=>
       bif (decide (c_3 < ((c_7.toNat:Nat):Int)))then (
        Zph rec_ s true
       )else (
        (idx s 2).bind fun c_8=>
        bif (decide (((c_8.toNat:Nat):Int) < 128))then (
         Zph rec_ s true
        )else (
         (idx s 2).bind fun c_9=>
         Zph rec_ s (decide ((191:Int) < ((c_9.toNat:Nat):Int)))
        )
       )
      )
     )
    )else (
     bif ((IntKind.wrap .i64 (andK .u8 c_1 7)) == 4)then (
      bif (decide ((s.length:Int) < 4))then (
       Zo2 rec_ s true
      )else (
       (idx s 1).bind fun c_10=>
       bif (decide (((c_10.toNat:Nat):Int) < c_2))then (
        Zo2 rec_ s true
       )else (
        (idx s 1).bind fun c_11=>
        bif (decide (c_3 < ((c_11.toNat:Nat):Int)))then (
         Zo2 rec_ s true
        )else (
         (idx s 2).bind fun c_12=>
         bif (decide (((c_12.toNat:Nat):Int) < 128))then (
          Zo2 rec_ s true
         )else (
          (idx s 2).bind fun c_13=>
          bif (decide ((191:Int) < ((c_13.toNat:Nat):Int)))then (
           Zo2 rec_ s true
          )else (
           (idx s 3).bind fun c_14=>
           bif (decide (((c_14.toNat:Nat):Int) < 128))then (
            Zo2 rec_ s true
           )else (
            (idx s 3).bind fun c_15=>
            Zo2 rec_ s (decide ((191:Int) < ((c_15.toNat:Nat):Int)))
           )
          )
         )
        )
       )
      )
     )else (
      some (.ret false)
     )
    )
   )
  )
 )else (
  some (.brk ())
 )
def ZoZ:Nat→Str→Zr8
 |0,_=>none
 |n_+1,s=>Ztt (ZoZ n_) s
def ZpF (s:Str):Option Bool:=
 (ZoZ big s).bind fun
  | .ret q_=>some q_
  | .brk ()=>Zum
def ZDj (s:Str):Option Bool:=
 (ZpF s).bind fun q=>
 some q
def ZAe (t2:Bool):Option Bool:=
 some t2
def Zz8 (s:Str):Option Bool:=
 bif (decide ((s.length:Int)≤1024))then (
  (ZDj s).bind fun q=>
  ZAe q
 )else (
  ZAe false
 )
def ZxA (t:ZoF):Option Int:=
 bif ((t.Columns.length:Int) == 0)then (
  some (0:Int)
 )else (
  (idx t.Columns 0).bind fun Column=>
  some (Column.Cells.length:Int)
 )
def ZuC (t2:Bool):Option Bool:=
 some t2
def Zzk (c:ZoR):Option Bool:=
 (Zz8 c.Text).bind fun q=>
 bif q then (
  bif c.Null then (
   ZuC (!(!(c.Text == ([]:Str))))
  )else (
   ZuC true
  )
 )else (
  ZuC false
 )
def ZwR:Option Bool:=
 some true
def ZsF (rec_:ZwZ→Int→Int→Zr8) (t7:ZwZ) (t8:Int) (t9:Int):Zr8:=
 bif (decide (t9 < t8))then (
  (idx t7 t9).bind fun x_=>
  (Zzk x_).bind fun q=>
  bif (!q)then (
   some (.ret false)
  )else (
   chk (inK .i64 (t9+1)) <|
   rec_ t7 t8 (t9+1)
  )
 )else (
  some (.brk ())
 )
def ZtU:Nat→ZwZ→Int→Int→Zr8
 |0,_,_,_=>none
 |n_+1,t7,t8,t9=>ZsF (ZtU n_) t7 t8 t9
def ZvW (l:ZwZ):Option Bool:=
 (ZtU big l (l.length:Int) (0:Int)).bind fun
  | .ret q_=>some q_
  | .brk ()=>ZwR
def Zwm (t3:Bool):Option Bool:=
 some t3
def ZAf (c:ZoL) (a1:ZoF):Option Bool:=
 (Zz8 c.Name).bind fun q=>
 bif (!q)then (
  Zwm true
 )else (
  (ZxA a1).bind fun q_1=>
  bif ((c.Cells.length:Int) != q_1)then (
   Zwm true
  )else (
   (ZvW c.Cells).bind fun q_2=>
   Zwm (!q_2)
  )
 )
def Zqg:Option Int:=
 some (-1:Int)
def Zp1 (rec_:Zo3→ZoF→Int→Int→ZAI) (s:Zo3) (f:ZoF) (t7:Int) (i:Int):ZAI:=
 bif (decide (i < t7))then (
  (idx s i).bind fun s_e=>
  (ZAf s_e f).bind fun q=>
  bif q then (
   some (.ret i)
  )else (
   chk (inK .i64 (i+1)) <|
   rec_ s f t7 (i+1)
  )
 )else (
  some (.brk ())
 )
def Zpt:Nat→Zo3→ZoF→Int→Int→ZAI
 |0,_,_,_,_=>none
 |n_+1,s,f,t7,i=>Zp1 (Zpt n_) s f t7 i
def ZqD (s:Zo3) (c:ZoF):Option Int:=
 (Zpt big s c (s.length:Int) (0:Int)).bind fun
  | .ret q_=>some q_
  | .brk ()=>Zqg
def Zpu (s:Zo3) (c:ZoF):Option Bool:=
 (ZqD s c).bind fun q=>
 some (decide (q≥0))
def Zuv (t27:Bool) (t:ZoF):Option Bool:=
 bif t27 then (
  some false
 )else (
  (Zpu t.Columns t).bind fun q=>
  some (!q)
 )
def ZrS (t:ZoF):Option Bool:=
 bif (decide (t.ID < 0))then (
  Zuv true t
 )else (
  bif (decide (t.ID > 1073741824))then (
   Zuv true t
  )else (
   (Zz8 t.Name).bind fun q=>
   bif (!q)then (
    Zuv true t
   )else (
    bif (decide ((t.Columns.length:Int) > 64))then (
     Zuv true t
    )else (
     (ZxA t).bind fun q_1=>
     Zuv (decide (q_1 > 4096)) t
    )
   )
  )
 )
def Zuw (c:ZoL):Option ZCd:=
 ZFR (chk (decide (c.Cells.length≤1099511627776)) <| some (ZAE ((c.Cells.filter fun x=> !x.Null).map fun x=>x.Text)))
def ZyH (x_:Str):Option Bool:=
 some (!(x_ == x_))
def ZuG (t4:Bool):Option Bool:=
 some t4
def Zzq (x_:Str) (y:Str):Option Bool:=
 (ZyH x_).bind fun q=>
 bif q then (
  (ZyH y).bind fun q_1=>
  bif (!q_1)then (
   ZuG true
  )else (
   ZuG (Op.bytesLess x_ y)
  )
 )else (
  ZuG (Op.bytesLess x_ y)
 )
def Zwn (x_:Str):Option Bool:=
 some (!(x_ == x_))
def Zpg (t4:Int) (t5:Bool):ZN0:=
 some (t4,t5)
def Zq4 (x_:ZCd) (target:Str) (n:Int) (i:Int):ZN0:=
 bif (decide (i < n))then (
  (idx x_ i).bind fun x__e=>
  bif (x__e == target)then (
   Zpg i true
  )else (
   (idx x_ i).bind fun x__e_1=>
   (Zwn x__e_1).bind fun q=>
   bif q then (
    (Zwn target).bind fun q_1=>
    Zpg i q_1
   )else (
    Zpg i false
   )
  )
 )else (
  Zpg i false
 )
def ZqE (rec_:ZCd→Str→Int→Int→Int→ZJc) (x_:ZCd) (target:Str) (n:Int) (i:Int) (j:Int):ZJc:=
 bif (decide (i < j))then (
  chk (inK .i64 (i+j)) <|
  chk (decide (0≤(1:Int))) <|
  (idx x_ (IntKind.wrap .i64 (shrK .u64 (IntKind.wrap .u64 (i+j)) 1))).bind fun x__e=>
  (Zzq x__e target).bind fun q=>
  bif q then (
   chk (inK .i64 ((IntKind.wrap .i64 (shrK .u64 (IntKind.wrap .u64 (i+j)) 1))+1)) <|
   rec_ x_ target n ((IntKind.wrap .i64 (shrK .u64 (IntKind.wrap .u64 (i+j)) 1))+1) j
  )else (
   rec_ x_ target n i (IntKind.wrap .i64 (shrK .u64 (IntKind.wrap .u64 (i+j)) 1))
  )
 )else (
  some (x_,target,n,i)
 )
def ZpP:Nat→ZCd→Str→Int→Int→Int→ZJc
 |0,_,_,_,_,_=>none
 |n_+1,x_,target,n,i,j=>ZqE (ZpP n_) x_ target n i j
def ZtD (n:Nat) (s:(ZCd×Str×Int×Int×Int)):ZJc:=ZpP n s.1 s.2.1 s.2.2.1 s.2.2.2.1 s.2.2.2.2
def ZtE (rec_:(ZCd×Str×Int×Int×Int)→ZJc) (s:(ZCd×Str×Int×Int×Int)):ZJc:=ZqE (fun x_ target n i j=>rec_ (x_,target,n,i,j)) s.1 s.2.1 s.2.2.1 s.2.2.2.1 s.2.2.2.2
theorem Zyh:∀n s,ZtD (n+1) s=ZtE (ZtD n) s:=fun _ _=>rfl
def Zqh (x_:ZCd) (target:Str):ZN0:=
 (ZpP big x_ target (x_.length:Int) (0:Int) (x_.length:Int)).bind fun(x0,x1,x2,x3)=>Zq4 x0 x1 x2 x3
def Zyi (n:Int):Option Int:=
 some n
def ZvY (rec_:ZQP) (b:ZCd) (n:Int) (t10:ZCd) (t11:Int) (t12:Int):Option Int:=
 chk (inK .i64 (t12+1)) <|
 rec_ b n t10 t11 (t12+1)
def Zuh (rec_:ZQP) (b:ZCd) (n:Int) (t10:ZCd) (t11:Int) (t12:Int):Option Int:=
 bif (decide (t12 < t11))then (
  (idx t10 t12).bind fun s=>
  (Zqh b s).bind fun(q,ok)=>
  bif ok then (
   chk (inK .i64 (n+1)) <|
   ZvY rec_ b (n+1) t10 t11 t12
  )else (
   ZvY rec_ b n t10 t11 t12
  )
 )else (
  some n
 )
def Zto:Nat→ZCd→Int→ZCd→Int→Int→Option Int
 |0,_,_,_,_,_=>none
 |n_+1,b,n,t10,t11,t12=>Zuh (Zto n_) b n t10 t11 t12
def Zz9 (n:Nat) (s:(ZCd×Int×ZCd×Int×Int)):Option Int:=Zto n s.1 s.2.1 s.2.2.1 s.2.2.2.1 s.2.2.2.2
def Zxn (rec_:(ZCd×Int×ZCd×Int×Int)→Option Int) (s:(ZCd×Int×ZCd×Int×Int)):Option Int:=Zuh (fun b n t10 t11 t12=>rec_ (b,n,t10,t11,t12)) s.1 s.2.1 s.2.2.1 s.2.2.2.1 s.2.2.2.2
theorem ZCo:∀n s,Zz9 (n+1) s=Zxn (Zz9 n) s:=fun _ _=>rfl
def ZxD (a:ZCd) (b:ZCd):Option Int:=
 (Zto big b (0:Int) a (a.length:Int) (0:Int)).bind fun x0=>Zyi x0
def Zy4 (w_:ZoK):Option ZoK:=
 some w_
def Zwq (rec_:ZKK) (w_:ZoK) (t14:Bool):Option ZoK:=
 bif t14 then (
  chk (inK .i64 ((w_.length:Int) - 1)) <|
  chk (Zcp 0 ((w_.length:Int) - 1) (w_.length:Int)) <|
  rec_ (w_.take (((w_.length:Int) - 1)).toNat)
 )else (
  some w_
 )
def Zu2 (rec_:ZKK) (w_:ZoK):Option ZoK:=
 bif (decide ((w_.length:Int) > 0))then (
  chk (inK .i64 ((w_.length:Int) - 1)) <|
  (idx w_ ((w_.length:Int) - 1)).bind fun w__e=>
  Zwq rec_ w_ (w__e == 0)
 )else (
  Zwq rec_ w_ false
 )
def Zp9:Nat→ZoK→Option ZoK
 |0,_=>none
 |n_+1,w_=>Zu2 (Zp9 n_) w_
def ZAl (n:Nat) (s:ZoK):Option ZoK:=Zp9 n s
def ZAm (rec_:ZKK) (s:ZoK):Option ZoK:=Zu2 (fun w_=>rec_ w_) s
theorem ZCC:∀n s,ZAl (n+1) s=ZAm (ZAl n) s:=fun _ _=>rfl
def Zpr (w_:ZoK):Option ZoK:=
 (Zp9 big w_).bind fun x0=>Zy4 x0
def Zuk (n:Int):Option ZoK:=
 chk (decide (0≤(32:Int))) <|
 (Zpr ([(IntKind.wrap .u32 n),(IntKind.wrap .u32 (shrK .u64 n 32))]:ZoK)).bind fun q=>
 some q
def Zxa (t4:Bool) (t4_1:ZoK):Option ZoN:=
 some (ZoN.mk t4 t4_1)
def Zpy (neg:Bool) (w_:ZoK):Option ZoN:=
 bif neg then (
  chk (ZjC w_.length 4) <|
  Zxa (decide ((w_.length:Int) > 0)) w_
 )else (
  chk (ZjC w_.length 4) <|
  Zxa false w_
 )
def Zwt (n:Int):Option ZoN:=
 bif (decide (n < 0))then (
  (Zuk (IntKind.wrap .u64 (0 - (IntKind.wrap .u64 n)))).bind fun q=>
  (Zpy true q).bind fun q_1=>
  some q_1
 )else (
  (Zuk (IntKind.wrap .u64 n)).bind fun q_2=>
  (Zpy false q_2).bind fun q_3=>
  some q_3
 )
def ZpR (t2:Bool):Option Bool:=
 some t2
def ZvG (a:ZoN):Option Bool:=
 bif (decide ((a.Words.length:Int)≤256))then (
  bif ((a.Words.length:Int) == 0)then (
   bif (!a.Neg)then (
    ZpR true
   )else (
    bif (decide ((a.Words.length:Int) > 0))then (
     chk (inK .i64 ((a.Words.length:Int) - 1)) <|
     (idx a.Words ((a.Words.length:Int) - 1)).bind fun Word=>
     ZpR (Word != 0)
    )else (
     ZpR false
    )
   )
  )else (
   bif (decide ((a.Words.length:Int) > 0))then (
    chk (inK .i64 ((a.Words.length:Int) - 1)) <|
    (idx a.Words ((a.Words.length:Int) - 1)).bind fun Word_1=>
    ZpR (Word_1 != 0)
   )else (
    ZpR false
   )
  )
 )else (
  ZpR false
 )
def ZB6:Option Bool:=
 some true
def Zxb (rec_:(List ZoN)→Int→Int→Zr8) (t5:(List ZoN)) (t6:Int) (t7:Int):Zr8:=
 bif (decide (t7 < t6))then (
  (idx t5 t7).bind fun a=>
  (ZvG a).bind fun q=>
  bif (!q)then (
   some (.ret false)
  )else (
   chk (inK .i64 (t7+1)) <|
   rec_ t5 t6 (t7+1)
  )
 )else (
  some (.brk ())
 )
def ZyG:Nat→(List ZoN)→Int→Int→Zr8
 |0,_,_,_=>none
 |n_+1,t5,t6,t7=>Zxb (ZyG n_) t5 t6 t7
def ZBu (n:Nat) (s:((List ZoN)×Int×Int)):Zr8:=ZyG n s.1 s.2.1 s.2.2
def ZzH (rec_:((List ZoN)×Int×Int)→Zr8) (s:((List ZoN)×Int×Int)):Zr8:=Zxb (fun t5 t6 t7=>rec_ (t5,t6,t7)) s.1 s.2.1 s.2.2
theorem ZDm:∀n s,ZBu (n+1) s=ZzH (ZBu n) s:=fun _ _=>rfl
def Zy8 (l:(List ZoN)):Option Bool:=
 (ZyG big l (l.length:Int) (0:Int)).bind fun
  | .ret q_=>some q_
  | .brk ()=>ZB6
def Zxt (x_:Int):Option Bool:=
 some (x_ != x_)
def ZtA (x_:Int) (y:Int):Option Int:=
 (Zxt x_).bind fun xNaN=>
 (Zxt y).bind fun yNaN=>
 bif xNaN then (
  bif yNaN then (
   some (0:Int)
  )else (
   some (-1:Int)
  )
 )else (
  bif yNaN then (
   some (1:Int)
  )else (
   bif (decide (x_ < y))then (
    some (-1:Int)
   )else (
    bif (decide (x_ > y))then (
     some (1:Int)
    )else (
     some (0:Int)
    )
   )
  )
 )
def ZAr (x_:Int):Option Bool:=
 some (x_ != x_)
def ZzJ (x_:Int) (y:Int):Option Int:=
 (ZAr x_).bind fun xNaN=>
 (ZAr y).bind fun yNaN=>
 bif xNaN then (
  bif yNaN then (
   some (0:Int)
  )else (
   some (-1:Int)
  )
 )else (
  bif yNaN then (
   some (1:Int)
  )else (
   bif (decide (x_ < y))then (
    some (-1:Int)
   )else (
    bif (decide (x_ > y))then (
     some (1:Int)
    )else (
     some (0:Int)
    )
   )
  )
 )
def ZvD:Option Int:=
 some (0:Int)
def ZrU (rec_:ZoK→ZoK→Int→ZAI) (w_:ZoK) (v_:ZoK) (i:Int):ZAI:=
 bif (decide (i≥0))then (
  (idx w_ i).bind fun w__e=>
  (idx v_ i).bind fun v__e=>
  (ZzJ w__e v__e).bind fun c=>
  bif (c != 0)then (
   some (.ret c)
  )else (
   chk (inK .i64 (i - 1)) <|
   rec_ w_ v_ (i - 1)
  )
 )else (
  some (.brk ())
 )
def ZsP:Nat→ZoK→ZoK→Int→ZAI
 |0,_,_,_=>none
 |n_+1,w_,v_,i=>ZrU (ZsP n_) w_ v_ i
def Zx0 (n:Nat) (s:(ZoK×ZoK×Int)):ZAI:=ZsP n s.1 s.2.1 s.2.2
def Zuy (rec_:(ZoK×ZoK×Int)→ZAI) (s:(ZoK×ZoK×Int)):ZAI:=ZrU (fun w_ v_ i=>rec_ (w_,v_,i)) s.1 s.2.1 s.2.2
theorem ZA6:∀n s,Zx0 (n+1) s=Zuy (Zx0 n) s:=fun _ _=>rfl
def Zp2 (w_:ZoK) (v_:ZoK):Option Int:=
 (ZtA (w_.length:Int) (v_.length:Int)).bind fun c=>
 bif (c != 0)then (
  some c
 )else (
  chk (inK .i64 ((w_.length:Int) - 1)) <|
  (ZsP big w_ v_ ((w_.length:Int) - 1)).bind fun
   | .ret q_=>some q_
   | .brk ()=>ZvD
 )
def ZoW (s:ZoK) (t4:Bool):Option ZoK:=
 bif t4 then (
  some ([]:ZoK)
 )else (
  chk (ZjC (([]:ZoK).length+s.length) 4) <|
  some (([]:ZoK)++s)
 )
def Zp4 (s:ZoK):Option ZoK:=
 bif (List.isEmpty s)then agree (
  ZoW s true
 ) (
  ZoW s false
 )else (
  ZoW s false
 )
def ZuE (hi:Int) (lo:Int) (y:Int) (t15:Bool):ZJa:=
 bif t15 then (
  none
 )else (
  chk (decide (0≤(32:Int))) <|
  chk (decide ((IntKind.wrap .u64 y)≠0)) <|
  chk (decide ((IntKind.wrap .u64 y)≠0)) <|
  some ((IntKind.wrap .u32 (IntKind.wrap .u64 (Int.tdiv (orK .u64 (shlK .u64 (IntKind.wrap .u64 hi) 32) (IntKind.wrap .u64 lo)) (IntKind.wrap .u64 y)))),(IntKind.wrap .u32 (Int.tmod (orK .u64 (shlK .u64 (IntKind.wrap .u64 hi) 32) (IntKind.wrap .u64 lo)) (IntKind.wrap .u64 y))))
 )
def Zzo (hi:Int) (lo:Int) (y:Int):ZJa:=
 bif (y != 0)then (
  ZuE hi lo y (decide (y≤hi))
 )else (
  ZuE hi lo y false
 )
def ZwV (rest:Int) (out:ZoK):ZHg:=
 (Zpr out).bind fun q=>
 some (q,rest)
def ZsM (rec_:ZoK→Int→Int→Int→ZoK→Zzu) (w_:ZoK) (d:Int) (rest:Int) (i:Int) (out:ZoK):Zzu:=
 bif (decide (i≥0))then (
  (idx w_ i).bind fun w__e=>
  (Zzo rest w__e d).bind fun(q,rest_1)=>
  chk (inR i (out.length:Int)) <|
  chk (inK .i64 (i - 1)) <|
  rec_ w_ d rest_1 (i - 1) (out.set ((i).toNat) q)
 )else (
  some (rest,out)
 )
def ZtY:Nat→ZoK→Int→Int→Int→ZoK→Zzu
 |0,_,_,_,_,_=>none
 |n_+1,w_,d,rest,i,out=>ZsM (ZtY n_) w_ d rest i out
def Zy1 (n:Nat) (s:(ZoK×Int×Int×Int×ZoK)):Zzu:=ZtY n s.1 s.2.1 s.2.2.1 s.2.2.2.1 s.2.2.2.2
def ZvA (rec_:(ZoK×Int×Int×Int×ZoK)→Zzu) (s:(ZoK×Int×Int×Int×ZoK)):Zzu:=ZsM (fun w_ d rest i out=>rec_ (w_,d,rest,i,out)) s.1 s.2.1 s.2.2.1 s.2.2.2.1 s.2.2.2.2
theorem ZBM:∀n s,Zy1 (n+1) s=ZvA (Zy1 n) s:=fun _ _=>rfl
def ZvZ (w_:ZoK) (d:Int):ZHg:=
 chk (mkOk (w_.length:Int) (w_.length:Int) 4) <|
 chk (inK .i64 ((w_.length:Int) - 1)) <|
 (ZtY big w_ d (0:Int) ((w_.length:Int) - 1) (List.replicate ((w_.length:Int)).toNat (0:Int))).bind fun(x0,x1)=>ZwV x0 x1
def ZsT (x_:Int) (n:Int):Option Int:=
 (idx ([0,1,2,2,3,3,3,3,4,4,4,4,4,4,4,4,5,5,5,5,5,5,5,5,5,5,5,5,5,5,5,5,6,6,6,6,6,6,6,6,6,6,6,6,6,6,6,6,6,6,6,6,6,6,6,6,6,6,6,6,6,6,6,6,7,7,7,7,7,7,7,7,7,7,7,7,7,7,7,7,7,7,7,7,7,7,7,7,7,7,7,7,7,7,7,7,7,7,7,7,7,7,7,7,7,7,7,7,7,7,7,7,7,7,7,7,7,7,7,7,7,7,7,7,7,7,7,7,8,8,8,8,8,8,8,8,8,8,8,8,8,8,8,8,8,8,8,8,8,8,8,8,8,8,8,8,8,8,8,8,8,8,8,8,8,8,8,8,8,8,8,8,8,8,8,8,8,8,8,8,8,8,8,8,8,8,8,8,8,8,8,8,8,8,8,8,8,8,8,8,8,8,8,8,8,8,8,8,8,8,8,8,8,8,8,8,8,8,8,8,8,8,8,8,8,8,8,8,8,8,8,8,8,8,8,8,8,8,8,8,8,8,8,8,8,8,8,8,8,8,8,8,8,8,8,8]:Str) (IntKind.wrap .u8 x_)).bind fun c=>
 chk (inK .i64 (n+(IntKind.wrap .i64 ((c.toNat:Nat):Int)))) <|
 some (n+(IntKind.wrap .i64 ((c.toNat:Nat):Int)))
def Zw8 (x_:Int) (n:Int):Option Int:=
 bif (decide (x_≥256))then (
  chk (decide (0≤(8:Int))) <|
  chk (inK .i64 (n+8)) <|
  ZsT (shrK .u32 x_ 8) (n+8)
 )else (
  ZsT x_ n
 )
def Zzn (x_:Int):Option Int:=
 bif (decide (x_≥65536))then (
  chk (decide (0≤(16:Int))) <|
  Zw8 (shrK .u32 x_ 16) (16:Int)
 )else (
  Zw8 x_ (0:Int)
 )
def Zs8 (x_:Int):Option Int:=
 (Zzn x_).bind fun q=>
 chk (inK .i64 (32 - q)) <|
 some (32 - q)
def ZvB (out:ZoK):Option ZoK:=
 some out
def ZrT (rec_:Int→ZoK→Int→Int→ZoK→Option ZoK) (n:Int) (t13:ZoK) (t14:Int) (i:Int) (out:ZoK):Option ZoK:=
 bif (decide (i < t14))then (
  (idx t13 i).bind fun d=>
  chk (decide (0≤n)) <|
  chk (inR i (out.length:Int)) <|
  (out[(i).toNat]?).bind fun out_e=>
  chk (inR i (out.length:Int)) <|
  chk (inK .i64 (i+1)) <|
  chk (decide (0≤(32:Int))) <|
  chk (inR (i+1) ((out.set ((i).toNat) (orK .u32 out_e (IntKind.wrap .u32 (shlK .u64 (IntKind.wrap .u64 d) n)))).length:Int)) <|
  chk (inK .i64 (i+1)) <|
  rec_ n t13 t14 (i+1) ((out.set ((i).toNat) (orK .u32 out_e (IntKind.wrap .u32 (shlK .u64 (IntKind.wrap .u64 d) n)))).set (((i+1)).toNat) (IntKind.wrap .u32 (shrK .u64 (shlK .u64 (IntKind.wrap .u64 d) n) 32)))
 )else (
  some out
 )
def ZsN:Nat→Int→ZoK→Int→Int→ZoK→Option ZoK
 |0,_,_,_,_,_=>none
 |n_+1,n,t13,t14,i,out=>ZrT (ZsN n_) n t13 t14 i out
def ZxZ (n:Nat) (s:(Int×ZoK×Int×Int×ZoK)):Option ZoK:=ZsN n s.1 s.2.1 s.2.2.1 s.2.2.2.1 s.2.2.2.2
def Zux (rec_:(Int×ZoK×Int×Int×ZoK)→Option ZoK) (s:(Int×ZoK×Int×Int×ZoK)):Option ZoK:=ZrT (fun n t13 t14 i out=>rec_ (n,t13,t14,i,out)) s.1 s.2.1 s.2.2.1 s.2.2.2.1 s.2.2.2.2
theorem ZA5:∀n s,ZxZ (n+1) s=Zux (ZxZ n) s:=fun _ _=>rfl
def ZqF (w_:ZoK) (n:Int):Option ZoK:=
 chk (inK .i64 ((w_.length:Int)+1)) <|
 chk (mkOk ((w_.length:Int)+1) ((w_.length:Int)+1) 4) <|
 (ZsN big n w_ (w_.length:Int) (0:Int) (List.replicate (((w_.length:Int)+1)).toNat (0:Int))).bind fun x0=>ZvB x0
def Zvd (x_:Int) (y:Int) (borrow:Int):ZJa:=
 chk (decide (0≤(31:Int))) <|
 some ((IntKind.wrap .u32 ((IntKind.wrap .u32 (x_ - y)) - borrow)),(shrK .u32 (orK .u32 (andK .u32 (xorK .u32 (if IntKind.signed .u32 then -1 else IntKind.max .u32) x_) y) (andK .u32 (xorK .u32 (if IntKind.signed .u32 then -1 else IntKind.max .u32) (xorK .u32 x_ y)) (IntKind.wrap .u32 ((IntKind.wrap .u32 (x_ - y)) - borrow)))) 31))
def Zxo (x_:Int) (y:Int) (carry:Int):ZJa:=
 chk (decide (0≤(32:Int))) <|
 some ((IntKind.wrap .u32 (IntKind.wrap .u64 ((IntKind.wrap .u64 ((IntKind.wrap .u64 x_)+(IntKind.wrap .u64 y)))+(IntKind.wrap .u64 carry)))),(IntKind.wrap .u32 (shrK .u64 (IntKind.wrap .u64 ((IntKind.wrap .u64 ((IntKind.wrap .u64 x_)+(IntKind.wrap .u64 y)))+(IntKind.wrap .u64 carry))) 32)))
def ZxJ (u_off:Nat) (u_len:Nat) (n:Int) (guess:Int) (add:Int) (u:ZoK):Zzu:=
 chk (inR n (u_len:Int)) <|
 (u[(u_off+(n).toNat)]?).bind fun u_e=>
 chk (inR n (u_len:Int)) <|
 some ((IntKind.wrap .u32 (IntKind.wrap .u64 (guess - 1))),(u.set (u_off+(n).toNat) (IntKind.wrap .u32 (u_e+add))))
def Zwr (rec_:Nat→Nat→Int→Int→Int→ZoK→Int→Int→ZoK→ZJj) (u_off:Nat) (u_len:Nat) (n:Int) (guess:Int) (add:Int) (t130:ZoK) (t131:Int) (i:Int) (u:ZoK):ZJj:=
 bif (decide (i < t131))then (
  (idx t130 i).bind fun x_=>
  chk (inR i (u_len:Int)) <|
  (u[(u_off+(i).toNat)]?).bind fun u_e=>
  (Zxo u_e x_ add).bind fun(q,add_1)=>
  chk (inR i (u_len:Int)) <|
  chk (inK .i64 (i+1)) <|
  rec_ u_off u_len n guess add_1 t130 t131 (i+1) (u.set (u_off+(i).toNat) q)
 )else (
  some (u_off,u_len,n,guess,add,u)
 )
def ZvE:Nat→Nat→Nat→Int→Int→Int→ZoK→Int→Int→ZoK→ZJj
 |0,_,_,_,_,_,_,_,_,_=>none
 |n_+1,u_off,u_len,n,guess,add,t130,t131,i,u=>Zwr (ZvE n_) u_off u_len n guess add t130 t131 i u
def ZA7 (n:Nat) (s:(Nat×Nat×Int×Int×Int×ZoK×Int×Int×ZoK)):ZJj:=ZvE n s.1 s.2.1 s.2.2.1 s.2.2.2.1 s.2.2.2.2.1 s.2.2.2.2.2.1 s.2.2.2.2.2.2.1 s.2.2.2.2.2.2.2.1 s.2.2.2.2.2.2.2.2
def Zy5 (rec_:(Nat×Nat×Int×Int×Int×ZoK×Int×Int×ZoK)→ZJj) (s:(Nat×Nat×Int×Int×Int×ZoK×Int×Int×ZoK)):ZJj:=Zwr (fun u_off u_len n guess add t130 t131 i u=>rec_ (u_off,u_len,n,guess,add,t130,t131,i,u)) s.1 s.2.1 s.2.2.1 s.2.2.2.1 s.2.2.2.2.1 s.2.2.2.2.2.1 s.2.2.2.2.2.2.1 s.2.2.2.2.2.2.2.1 s.2.2.2.2.2.2.2.2
theorem ZDc:∀n s,ZA7 (n+1) s=Zy5 (ZA7 n) s:=fun _ _=>rfl
def ZzZ (u_off:Nat) (u_len:Nat) (d:ZoK) (n:Int) (guess:Int) (borrow:Int) (carry:Int) (u:ZoK):Zzu:=
 chk (inR n (u_len:Int)) <|
 (u[(u_off+(n).toNat)]?).bind fun u_e=>
 (Zvd u_e (IntKind.wrap .u32 carry) borrow).bind fun(q,borrow_1)=>
 chk (inR n (u_len:Int)) <|
 bif (borrow_1 == 0)then (
  some ((IntKind.wrap .u32 guess),(u.set (u_off+(n).toNat) q))
 )else (
  (ZvE big u_off u_len n guess (0:Int) d (d.length:Int) (0:Int) (u.set (u_off+(n).toNat) q)).bind fun(x0,x1,x2,x3,x4,x5)=>ZxJ x0 x1 x2 x3 x4 x5
 )
def Zws (rec_:Nat→Nat→ZoK→Int→Int→Int→Int→ZoK→Int→Int→ZoK→ZJo) (u_off:Nat) (u_len:Nat) (d:ZoK) (n:Int) (guess:Int) (borrow:Int) (carry:Int) (t82:ZoK) (t83:Int) (i:Int) (u:ZoK):ZJo:=
 bif (decide (i < t83))then (
  (idx t82 i).bind fun x_=>
  chk (inR i (u_len:Int)) <|
  (u[(u_off+(i).toNat)]?).bind fun u_e=>
  (Zvd u_e (IntKind.wrap .u32 (IntKind.wrap .u64 (carry+(IntKind.wrap .u64 (guess*(IntKind.wrap .u64 x_)))))) borrow).bind fun(q,borrow_1)=>
  chk (inR i (u_len:Int)) <|
  chk (decide (0≤(32:Int))) <|
  chk (inK .i64 (i+1)) <|
  rec_ u_off u_len d n guess borrow_1 (shrK .u64 (IntKind.wrap .u64 (carry+(IntKind.wrap .u64 (guess*(IntKind.wrap .u64 x_))))) 32) t82 t83 (i+1) (u.set (u_off+(i).toNat) q)
 )else (
  some (u_off,u_len,d,n,guess,borrow,carry,u)
 )
def ZxI:Nat→Nat→Nat→ZoK→Int→Int→Int→Int→ZoK→Int→Int→ZoK→ZJo
 |0,_,_,_,_,_,_,_,_,_,_,_=>none
 |n_+1,u_off,u_len,d,n,guess,borrow,carry,t82,t83,i,u=>Zws (ZxI n_) u_off u_len d n guess borrow carry t82 t83 i u
def ZA8 (n:Nat) (s:(Nat×Nat×ZoK×Int×Int×Int×Int×ZoK×Int×Int×ZoK)):ZJo:=ZxI n s.1 s.2.1 s.2.2.1 s.2.2.2.1 s.2.2.2.2.1 s.2.2.2.2.2.1 s.2.2.2.2.2.2.1 s.2.2.2.2.2.2.2.1 s.2.2.2.2.2.2.2.2.1 s.2.2.2.2.2.2.2.2.2.1 s.2.2.2.2.2.2.2.2.2.2
def Zy6 (rec_:(Nat×Nat×ZoK×Int×Int×Int×Int×ZoK×Int×Int×ZoK)→ZJo) (s:(Nat×Nat×ZoK×Int×Int×Int×Int×ZoK×Int×Int×ZoK)):ZJo:=Zws (fun u_off u_len d n guess borrow carry t82 t83 i u=>rec_ (u_off,u_len,d,n,guess,borrow,carry,t82,t83,i,u)) s.1 s.2.1 s.2.2.1 s.2.2.2.1 s.2.2.2.2.1 s.2.2.2.2.2.1 s.2.2.2.2.2.2.1 s.2.2.2.2.2.2.2.1 s.2.2.2.2.2.2.2.2.1 s.2.2.2.2.2.2.2.2.2.1 s.2.2.2.2.2.2.2.2.2.2
theorem ZDd:∀n s,ZA8 (n+1) s=Zy6 (ZA8 n) s:=fun _ _=>rfl
def ZxK (u_off:Nat) (u_len:Nat) (d:ZoK) (n:Int) (guess:Int) (u:ZoK):Zzu:=
 (ZxI big u_off u_len d n guess (0:Int) (0:Int) d (d.length:Int) (0:Int) u).bind fun(x0,x1,x2,x3,x4,x5,x6,x7)=>ZzZ x0 x1 x2 x3 x4 x5 x6 x7
def ZvF (rec_:ZQU) (u_off:Nat) (u_len:Nat) (d:ZoK) (n:Int) (guess:Int) (rest:Int) (t71:Bool) (u:ZoK):ZHN:=
 bif t71 then (
  chk (inK .i64 (n - 1)) <|
  (idx d (n - 1)).bind fun d_e=>
  rec_ u_off u_len d n (IntKind.wrap .u64 (guess - 1)) (IntKind.wrap .u64 (rest+(IntKind.wrap .u64 d_e))) u
 )else (
  some (u_off,u_len,d,n,guess,u)
 )
def Zy7 (rec_:ZQU) (u_off:Nat) (u_len:Nat) (d:ZoK) (n:Int) (guess:Int) (rest:Int) (u:ZoK):ZHN:=
 bif (decide (rest < 4294967296))then (
  chk (inK .i64 (n - 2)) <|
  (idx d (n - 2)).bind fun d_e=>
  chk (decide (0≤(32:Int))) <|
  chk (inK .i64 (n - 2)) <|
  chk (inR (n - 2) (u_len:Int)) <|
  (u[(u_off+((n - 2)).toNat)]?).bind fun u_e=>
  ZvF rec_ u_off u_len d n guess rest (decide ((IntKind.wrap .u64 (guess*(IntKind.wrap .u64 d_e))) > (orK .u64 (shlK .u64 rest 32) (IntKind.wrap .u64 u_e)))) u
 )else (
  ZvF rec_ u_off u_len d n guess rest false u
 )
def Zty:Nat→Nat→Nat→ZoK→Int→Int→Int→ZoK→ZHN
 |0,_,_,_,_,_,_,_=>none
 |n_+1,u_off,u_len,d,n,guess,rest,u=>Zy7 (Zty n_) u_off u_len d n guess rest u
def ZA9 (n:Nat) (s:(Nat×Nat×ZoK×Int×Int×Int×ZoK)):ZHN:=Zty n s.1 s.2.1 s.2.2.1 s.2.2.2.1 s.2.2.2.2.1 s.2.2.2.2.2.1 s.2.2.2.2.2.2
def ZBa (rec_:(Nat×Nat×ZoK×Int×Int×Int×ZoK)→ZHN) (s:(Nat×Nat×ZoK×Int×Int×Int×ZoK)):ZHN:=Zy7 (fun u_off u_len d n guess rest u=>rec_ (u_off,u_len,d,n,guess,rest,u)) s.1 s.2.1 s.2.2.1 s.2.2.2.1 s.2.2.2.2.1 s.2.2.2.2.2.1 s.2.2.2.2.2.2
theorem ZDe:∀n s,ZA9 (n+1) s=ZBa (ZA9 n) s:=fun _ _=>rfl
def ZzV (u:ZoK) (u_off:Nat) (u_len:Nat) (d:ZoK):Zzu:=
 chk (inR (d.length:Int) (u_len:Int)) <|
 (u[(u_off+((d.length:Int)).toNat)]?).bind fun u_e=>
 chk (decide (0≤(32:Int))) <|
 chk (inK .i64 ((d.length:Int) - 1)) <|
 chk (inR ((d.length:Int) - 1) (u_len:Int)) <|
 (u[(u_off+(((d.length:Int) - 1)).toNat)]?).bind fun u_e_1=>
 chk (inK .i64 ((d.length:Int) - 1)) <|
 (idx d ((d.length:Int) - 1)).bind fun d_e=>
 chk (decide ((IntKind.wrap .u64 d_e)≠0)) <|
 chk (inK .i64 ((d.length:Int) - 1)) <|
 (idx d ((d.length:Int) - 1)).bind fun d_e_1=>
 (Zty big u_off u_len d (d.length:Int) (if (4294967295:Int) < (IntKind.wrap .u64 (Int.tdiv (orK .u64 (shlK .u64 (IntKind.wrap .u64 u_e) 32) (IntKind.wrap .u64 u_e_1)) (IntKind.wrap .u64 d_e)))then (4294967295:Int)else (IntKind.wrap .u64 (Int.tdiv (orK .u64 (shlK .u64 (IntKind.wrap .u64 u_e) 32) (IntKind.wrap .u64 u_e_1)) (IntKind.wrap .u64 d_e)))) (IntKind.wrap .u64 ((orK .u64 (shlK .u64 (IntKind.wrap .u64 u_e) 32) (IntKind.wrap .u64 u_e_1)) - (IntKind.wrap .u64 ((if (4294967295:Int) < (IntKind.wrap .u64 (Int.tdiv (orK .u64 (shlK .u64 (IntKind.wrap .u64 u_e) 32) (IntKind.wrap .u64 u_e_1)) (IntKind.wrap .u64 d_e)))then (4294967295:Int)else (IntKind.wrap .u64 (Int.tdiv (orK .u64 (shlK .u64 (IntKind.wrap .u64 u_e) 32) (IntKind.wrap .u64 u_e_1)) (IntKind.wrap .u64 d_e))))*(IntKind.wrap .u64 d_e_1))))) u).bind fun(x0,x1,x2,x3,x4,x5)=>ZxK x0 x1 x2 x3 x4 x5
def ZyF (u:ZoK) (u_off:Nat) (u_len:Nat) (d:ZoK):Zzu:=
 (ZzV u u_off u_len d).bind fun r=>chk (decide (r.2.length=u.length)&&true) (some r)
def ZxH (w_off:Nat) (w_len:Nat) (w_:ZoK):ZFE:=
 some (w_off,w_len,w_)
def Zu3 (rec_:Nat→Nat→ZoK→ZFE) (w_off:Nat) (w_len:Nat) (t14:Bool) (w_:ZoK):ZFE:=
 bif t14 then (
  chk (inK .i64 (((w_len:Nat):Int) - 1)) <|
  chk (Zcp 0 (((w_len:Nat):Int) - 1) (w_len:Int)) <|
  rec_ (w_off+0) (((((w_len:Nat):Int) - 1)).toNat - 0) w_
 )else (
  some (w_off,w_len,w_)
 )
def ZwX (rec_:Nat→Nat→ZoK→ZFE) (w_off:Nat) (w_len:Nat) (w_:ZoK):ZFE:=
 bif (decide (((w_len:Nat):Int) > 0))then (
  chk (inK .i64 (((w_len:Nat):Int) - 1)) <|
  chk (inR (((w_len:Nat):Int) - 1) (w_len:Int)) <|
  (w_[(w_off+((((w_len:Nat):Int) - 1)).toNat)]?).bind fun w__e=>
  Zu3 rec_ w_off w_len (w__e == 0) w_
 )else (
  Zu3 rec_ w_off w_len false w_
 )
def ZsR:Nat→Nat→Nat→ZoK→ZFE
 |0,_,_,_=>none
 |n_+1,w_off,w_len,w_=>ZwX (ZsR n_) w_off w_len w_
def ZzQ (n:Nat) (s:(Nat×Nat×ZoK)):ZFE:=ZsR n s.1 s.2.1 s.2.2
def ZzR (rec_:(Nat×Nat×ZoK)→ZFE) (s:(Nat×Nat×ZoK)):ZFE:=ZwX (fun w_off w_len w_=>rec_ (w_off,w_len,w_)) s.1 s.2.1 s.2.2
theorem ZB5:∀n s,ZzQ (n+1) s=ZzR (ZzQ n) s:=fun _ _=>rfl
def Zw9 (w_:ZoK) (w_off:Nat) (w_len:Nat):ZFE:=
 (ZsR big w_off w_len w_).bind fun(x0,x1,x2)=>ZxH x0 x1 x2
def Zv0 (w_:ZoK) (w_off:Nat) (w_len:Nat):ZFE:=
 (Zw9 w_ w_off w_len).bind fun r=>chk (decide (r.2.2.length=w_.length)&&true) (some r)
def Ztw (w_:ZoK) (i:Int):Option Int:=
 bif (decide (i < (w_.length:Int)))then (
  (idx w_ i).bind fun w__e=>
  some w__e
 )else (
  some (0:Int)
 )
def Zy3 (w_:ZoK) (w_off:Nat) (w_len:Nat) (i:Int):Zzu:=
 bif (decide (i < ((w_len:Nat):Int)))then (
  chk (inR i (w_len:Int)) <|
  (w_[(w_off+(i).toNat)]?).bind fun w__e=>
  some (w__e,w_)
 )else (
  some (0,w_)
 )
def Zu1 (w_:ZoK) (w_off:Nat) (w_len:Nat) (i:Int):Zzu:=
 (Zy3 w_ w_off w_len i).bind fun r=>chk (decide (r.2.length=w_.length)&&true) (some r)
def Zxq (rest_off:Nat) (rest_len:Nat) (q:ZoK) (rest:ZoK):ZET:=
 (Zpr q).bind fun q_1=>
 (Zpr ((rest.drop rest_off).take rest_len)).bind fun q_2=>
 some (q_1,q_2)
def Zta (rec_:Int→Nat→Nat→Int→Int→ZoK→ZoK→ZJe) (shift:Int) (rest_off:Nat) (rest_len:Nat) (t86:Int) (i:Int) (q:ZoK) (rest:ZoK):ZJe:=
 bif (decide (i < t86))then (
  chk (inK .i64 (i+1)) <|
  (Zu1 rest rest_off rest_len (i+1)).bind fun(q_1,t90)=>
  chk (decide (0≤(32:Int))) <|
  chk (inR i (rest_len:Int)) <|
  (t90[(rest_off+(i).toNat)]?).bind fun t90_e=>
  chk (decide (0≤shift)) <|
  chk (inR i (rest_len:Int)) <|
  chk (inK .i64 (i+1)) <|
  rec_ shift rest_off rest_len t86 (i+1) q (t90.set (rest_off+(i).toNat) (IntKind.wrap .u32 (shrK .u64 (orK .u64 (shlK .u64 (IntKind.wrap .u64 q_1) 32) (IntKind.wrap .u64 t90_e)) shift)))
 )else (
  some (rest_off,rest_len,q,rest)
 )
def Zr4:Nat→Int→Nat→Nat→Int→Int→ZoK→ZoK→ZJe
 |0,_,_,_,_,_,_,_=>none
 |n_+1,shift,rest_off,rest_len,t86,i,q,rest=>Zta (Zr4 n_) shift rest_off rest_len t86 i q rest
def ZzA (n:Nat) (s:(Int×Nat×Nat×Int×Int×ZoK×ZoK)):ZJe:=Zr4 n s.1 s.2.1 s.2.2.1 s.2.2.2.1 s.2.2.2.2.1 s.2.2.2.2.2.1 s.2.2.2.2.2.2
def Zwf (rec_:(Int×Nat×Nat×Int×Int×ZoK×ZoK)→ZJe) (s:(Int×Nat×Nat×Int×Int×ZoK×ZoK)):ZJe:=Zta (fun shift rest_off rest_len t86 i q rest=>rec_ (shift,rest_off,rest_len,t86,i,q,rest)) s.1 s.2.1 s.2.2.1 s.2.2.2.1 s.2.2.2.2.1 s.2.2.2.2.2.1 s.2.2.2.2.2.2
theorem ZBW:∀n s,ZzA (n+1) s=Zwf (ZzA n) s:=fun _ _=>rfl
def Zxr (n:Int) (shift:Int) (u:ZoK) (q:ZoK):ZET:=
 chk (Zcp 0 n (u.length:Int)) <|
 (Zv0 u 0 ((n).toNat - 0)).bind fun(rest_off,rest_len,t83)=>
 (Zr4 big shift rest_off rest_len ((rest_len:Nat):Int) (0:Int) q t83).bind fun(x0,x1,x2,x3)=>Zxq x0 x1 x2 x3
def Ztb (rec_:Int→Int→ZoK→Int→ZoK→ZoK→ZJd) (n:Int) (shift:Int) (d:ZoK) (j:Int) (u:ZoK) (q:ZoK):ZJd:=
 bif (decide (j≥0))then (
  chk (inK .i64 (j+n)) <|
  chk (inK .i64 ((j+n)+1)) <|
  chk (Zcp j ((j+n)+1) (u.length:Int)) <|
  (ZyF u ((j).toNat) ((((j+n)+1)).toNat - (j).toNat) d).bind fun(q_1,t77)=>
  chk (inR j (q.length:Int)) <|
  chk (inK .i64 (j - 1)) <|
  rec_ n shift d (j - 1) t77 (q.set ((j).toNat) q_1)
 )else (
  some (n,shift,u,q)
 )
def Zr5:Nat→Int→Int→ZoK→Int→ZoK→ZoK→ZJd
 |0,_,_,_,_,_,_=>none
 |n_+1,n,shift,d,j,u,q=>Ztb (Zr5 n_) n shift d j u q
def ZzB (n:Nat) (s:(Int×Int×ZoK×Int×ZoK×ZoK)):ZJd:=Zr5 n s.1 s.2.1 s.2.2.1 s.2.2.2.1 s.2.2.2.2.1 s.2.2.2.2.2
def Zwg (rec_:(Int×Int×ZoK×Int×ZoK×ZoK)→ZJd) (s:(Int×Int×ZoK×Int×ZoK×ZoK)):ZJd:=Ztb (fun n shift d j u q=>rec_ (n,shift,d,j,u,q)) s.1 s.2.1 s.2.2.1 s.2.2.2.1 s.2.2.2.2.1 s.2.2.2.2.2
theorem ZBX:∀n s,ZzB (n+1) s=Zwg (ZzB n) s:=fun _ _=>rfl
def ZqR (w_:ZoK) (v_:ZoK):ZET:=
 (Zp2 w_ v_).bind fun q=>
 bif (decide (q < 0))then (
  (Zp4 w_).bind fun q_1=>
  some (([]:ZoK),q_1)
 )else (
  bif ((v_.length:Int) == 1)then (
   (idx v_ 0).bind fun v__e=>
   (ZvZ w_ v__e).bind fun(q_2,r_)=>
   (Zpr ([r_]:ZoK)).bind fun q_3=>
   some (q_2,q_3)
  )else (
   chk (inK .i64 ((v_.length:Int) - 1)) <|
   (idx v_ ((v_.length:Int) - 1)).bind fun v__e_1=>
   (Zs8 v__e_1).bind fun shift=>
   (ZqF w_ shift).bind fun u=>
   (ZqF v_ shift).bind fun q_4=>
   chk (Zcp 0 (v_.length:Int) (q_4.length:Int)) <|
   chk (inK .i64 ((w_.length:Int) - (v_.length:Int))) <|
   chk (inK .i64 (((w_.length:Int) - (v_.length:Int))+1)) <|
   chk (mkOk (((w_.length:Int) - (v_.length:Int))+1) (((w_.length:Int) - (v_.length:Int))+1) 4) <|
   chk (inK .i64 (((List.replicate ((((w_.length:Int) - (v_.length:Int))+1)).toNat (0:Int)).length:Int) - 1)) <|
   (Zr5 big (v_.length:Int) shift ((q_4.drop 0).take (((v_.length:Int)).toNat - 0)) (((List.replicate ((((w_.length:Int) - (v_.length:Int))+1)).toNat (0:Int)).length:Int) - 1) u (List.replicate ((((w_.length:Int) - (v_.length:Int))+1)).toNat (0:Int))).bind fun(x0,x1,x2,x3)=>Zxr x0 x1 x2 x3
  )
 )
def Zwh (w_:ZoK):Option ZoK:=
 some w_
def ZqB (rec_:ZoK→ZoK→Option ZoK) (w_:ZoK) (v_:ZoK):Option ZoK:=
 bif (decide ((v_.length:Int) > 0))then (
  (ZqR w_ v_).bind fun(q,r_)=>
  rec_ v_ r_
 )else (
  some w_
 )
def ZpI:Nat→ZoK→ZoK→Option ZoK
 |0,_,_=>none
 |n_+1,w_,v_=>ZqB (ZpI n_) w_ v_
def ZsQ (w_:ZoK) (v_:ZoK):Option ZoK:=
 (ZpI big w_ v_).bind fun x0=>Zwh x0
def Zro (num:ZoN) (den:ZoN):Option ZoG:=
 (ZsQ num.Words den.Words).bind fun g=>
 (ZqR num.Words g).bind fun(x_,q)=>
 (ZqR den.Words g).bind fun(y,q_1)=>
 (Zpy (!(num.Neg == den.Neg)) x_).bind fun q_2=>
 (Zpy false y).bind fun q_3=>
 some (ZoG.mk q_2 q_3)
def ZAo (num:ZoN) (den:ZoN):ZEV:=
 (Zy8 ([num,den]:(List ZoN))).bind fun q=>
 bif (!q)then (
  some ((ZoG.mk (ZoN.mk false ([]:ZoK)) (ZoN.mk false ([]:ZoK))),1)
 )else (
  bif ((den.Words.length:Int) == 0)then (
   some ((ZoG.mk (ZoN.mk false ([]:ZoK)) (ZoN.mk false ([]:ZoK))),8)
  )else (
   (Zro num den).bind fun q_1=>
   some (q_1,0)
  )
 )
def ZAn (num:Int) (den:Int):ZEV:=
 (Zwt num).bind fun q=>
 (Zwt den).bind fun q_1=>
 (ZAo q q_1).bind fun(q_2,q_3)=>
 some (q_2,q_3)
def Zx3:Option ZoG:=
 (ZAn 0 1).bind fun(f,q)=>
 some f
def ZAk (a:Int) (b:Int):Option ZoG:=
 (ZAn a b).bind fun(f,e)=>
 bif (e != 0)then (
  (Zx3).bind fun q=>
  some q
 )else (
  some f
 )
def Zwo (a:ZCd) (b:ZCd):Option ZoG:=
 (ZxD a b).bind fun n=>
 chk (inK .i64 ((a.length:Int)+(b.length:Int))) <|
 chk (inK .i64 (((a.length:Int)+(b.length:Int)) - n)) <|
 (ZAk n (if (1:Int) > (((a.length:Int)+(b.length:Int)) - n)then (1:Int)else (((a.length:Int)+(b.length:Int)) - n))).bind fun q=>
 some q
def ZxE (a:ZoL) (b:ZoL):Option ZoG:=
 (Zuw a).bind fun q=>
 (Zuw b).bind fun q_1=>
 (Zwo q q_1).bind fun q_2=>
 some q_2
def ZsI (name:Str):Option ZCd:=
 ZFR (chk (decide (name.length≤1099511627776)) <| some (ZAE (ZC7 (name++[32]) [])))
def ZyE (a:Str) (b:Str):Option ZoG:=
 (ZsI a).bind fun q=>
 (ZsI b).bind fun q_1=>
 (Zwo q q_1).bind fun q_2=>
 some q_2
def Ztz (t2:Bool):Option Bool:=
 some t2
def ZqX (f:ZoG):Option Bool:=
 (Zy8 ([f.Num,f.Den]:(List ZoN))).bind fun q=>
 bif q then (
  bif (decide ((f.Den.Words.length:Int) > 0))then (
   bif (!f.Den.Neg)then (
    (ZsQ f.Num.Words f.Den.Words).bind fun q_1=>
    (Zp2 q_1 ([1]:List Int)).bind fun q_2=>
    Ztz (q_2 == 0)
   )else (
    Ztz false
   )
  )else (
   Ztz false
  )
 )else (
  Ztz false
 )
def ZwT (out:ZoK):Option ZoK:=
 (Zpr out).bind fun q=>
 some q
def ZwU (rec_:ZLX) (v_:ZoK) (i:Int) (carry:Int) (t17:ZoK) (t18:Int) (i_1:Int) (out:ZoK):Option ZoK:=
 chk (inK .i64 (i+(v_.length:Int))) <|
 chk (inR (i+(v_.length:Int)) (out.length:Int)) <|
 chk (inK .i64 (i_1+1)) <|
 rec_ v_ t17 t18 (i_1+1) (out.set (((i+(v_.length:Int))).toNat) (IntKind.wrap .u32 carry))
def ZsK (rec_:ZoK→Int→Int→Int→ZoK→Int→Int→ZoK→Int→Int→ZoK→ZJl) (v_:ZoK) (i:Int) (x_:Int) (carry:Int) (t17:ZoK) (t18:Int) (i_1:Int) (t24:ZoK) (t25:Int) (j:Int) (out:ZoK):ZJl:=
 bif (decide (j < t25))then (
  (idx t24 j).bind fun y=>
  chk (inK .i64 (i+j)) <|
  chk (inR (i+j) (out.length:Int)) <|
  (out[((i+j)).toNat]?).bind fun out_e=>
  chk (inK .i64 (i+j)) <|
  chk (inR (i+j) (out.length:Int)) <|
  chk (decide (0≤(32:Int))) <|
  chk (inK .i64 (j+1)) <|
  rec_ v_ i x_ (shrK .u64 (IntKind.wrap .u64 (carry+(IntKind.wrap .u64 ((IntKind.wrap .u64 ((IntKind.wrap .u64 x_)*(IntKind.wrap .u64 y)))+(IntKind.wrap .u64 out_e))))) 32) t17 t18 i_1 t24 t25 (j+1) (out.set (((i+j)).toNat) (IntKind.wrap .u32 (IntKind.wrap .u64 (carry+(IntKind.wrap .u64 ((IntKind.wrap .u64 ((IntKind.wrap .u64 x_)*(IntKind.wrap .u64 y)))+(IntKind.wrap .u64 out_e)))))))
 )else (
  some (v_,i,carry,t17,t18,i_1,out)
 )
def ZtX:Nat→ZoK→Int→Int→Int→ZoK→Int→Int→ZoK→Int→Int→ZoK→ZJl
 |0,_,_,_,_,_,_,_,_,_,_,_=>none
 |n_+1,v_,i,x_,carry,t17,t18,i_1,t24,t25,j,out=>ZsK (ZtX n_) v_ i x_ carry t17 t18 i_1 t24 t25 j out
def ZyZ (n:Nat) (s:(ZoK×Int×Int×Int×ZoK×Int×Int×ZoK×Int×Int×ZoK)):ZJl:=ZtX n s.1 s.2.1 s.2.2.1 s.2.2.2.1 s.2.2.2.2.1 s.2.2.2.2.2.1 s.2.2.2.2.2.2.1 s.2.2.2.2.2.2.2.1 s.2.2.2.2.2.2.2.2.1 s.2.2.2.2.2.2.2.2.2.1 s.2.2.2.2.2.2.2.2.2.2
def Zvy (rec_:(ZoK×Int×Int×Int×ZoK×Int×Int×ZoK×Int×Int×ZoK)→ZJl) (s:(ZoK×Int×Int×Int×ZoK×Int×Int×ZoK×Int×Int×ZoK)):ZJl:=ZsK (fun v_ i x_ carry t17 t18 i_1 t24 t25 j out=>rec_ (v_,i,x_,carry,t17,t18,i_1,t24,t25,j,out)) s.1 s.2.1 s.2.2.1 s.2.2.2.1 s.2.2.2.2.1 s.2.2.2.2.2.1 s.2.2.2.2.2.2.1 s.2.2.2.2.2.2.2.1 s.2.2.2.2.2.2.2.2.1 s.2.2.2.2.2.2.2.2.2.1 s.2.2.2.2.2.2.2.2.2.2
theorem ZBK:∀n s,ZyZ (n+1) s=Zvy (ZyZ n) s:=fun _ _=>rfl
def ZsL (rec_:ZLX) (v_:ZoK) (t17:ZoK) (t18:Int) (i:Int) (out:ZoK):Option ZoK:=
 bif (decide (i < t18))then (
  (idx t17 i).bind fun x_=>
  (ZtX big v_ i x_ (0:Int) t17 t18 i v_ (v_.length:Int) (0:Int) out).bind fun(x0,x1,x2,x3,x4,x5,x6)=>ZwU rec_ x0 x1 x2 x3 x4 x5 x6
 )else (
  some out
 )
def ZrJ:Nat→ZoK→ZoK→Int→Int→ZoK→Option ZoK
 |0,_,_,_,_,_=>none
 |n_+1,v_,t17,t18,i,out=>ZsL (ZrJ n_) v_ t17 t18 i out
def Zy0 (n:Nat) (s:(ZoK×ZoK×Int×Int×ZoK)):Option ZoK:=ZrJ n s.1 s.2.1 s.2.2.1 s.2.2.2.1 s.2.2.2.2
def Zvz (rec_:ZQR) (s:(ZoK×ZoK×Int×Int×ZoK)):Option ZoK:=ZsL (fun v_ t17 t18 i out=>rec_ (v_,t17,t18,i,out)) s.1 s.2.1 s.2.2.1 s.2.2.2.1 s.2.2.2.2
theorem ZBL:∀n s,Zy0 (n+1) s=Zvz (Zy0 n) s:=fun _ _=>rfl
def Zrr (w_:ZoK) (v_:ZoK):Option ZoK:=
 chk (inK .i64 ((w_.length:Int)+(v_.length:Int))) <|
 chk (mkOk ((w_.length:Int)+(v_.length:Int)) ((w_.length:Int)+(v_.length:Int)) 4) <|
 (ZrJ big v_ w_ (w_.length:Int) (0:Int) (List.replicate (((w_.length:Int)+(v_.length:Int))).toNat (0:Int))).bind fun x0=>ZwT x0
def Zo5 (a:ZoN) (b:ZoN):Option ZoN:=
 (Zrr a.Words b.Words).bind fun q=>
 (Zpy (!(a.Neg == b.Neg)) q).bind fun q_1=>
 some q_1
def Zv1 (t2:ZoN):Option ZoN:=
 some t2
def Ztx (a:ZoN):Option ZoN:=
 bif (!a.Neg)then (
  Zv1 (ZoN.mk (decide ((a.Words.length:Int) > 0)) a.Words)
 )else (
  Zv1 (ZoN.mk false a.Words)
 )
def Zxp (carry:Int) (out:ZoK):Option ZoK:=
 chk (ZjC (out.length+([carry]:ZoK).length) 4) <|
 (Zpr (out++([carry]:ZoK))).bind fun q=>
 some q
def Zs9 (rec_:ZoK→ZoK→Int→Int→Int→ZoK→Zzu) (w_:ZoK) (v_:ZoK) (carry:Int) (t20:Int) (i:Int) (out:ZoK):Zzu:=
 bif (decide (i < t20))then (
  (Ztw w_ i).bind fun q=>
  (Ztw v_ i).bind fun q_1=>
  (Zxo q q_1 carry).bind fun(d,carry_1)=>
  chk (ZjC (out.length+([d]:ZoK).length) 4) <|
  chk (inK .i64 (i+1)) <|
  rec_ w_ v_ carry_1 t20 (i+1) (out++([d]:ZoK))
 )else (
  some (carry,out)
 )
def Zuj:Nat→ZoK→ZoK→Int→Int→Int→ZoK→Zzu
 |0,_,_,_,_,_,_=>none
 |n_+1,w_,v_,carry,t20,i,out=>Zs9 (Zuj n_) w_ v_ carry t20 i out
def Zzz (n:Nat) (s:(ZoK×ZoK×Int×Int×Int×ZoK)):Zzu:=Zuj n s.1 s.2.1 s.2.2.1 s.2.2.2.1 s.2.2.2.2.1 s.2.2.2.2.2
def Zwe (rec_:(ZoK×ZoK×Int×Int×Int×ZoK)→Zzu) (s:(ZoK×ZoK×Int×Int×Int×ZoK)):Zzu:=Zs9 (fun w_ v_ carry t20 i out=>rec_ (w_,v_,carry,t20,i,out)) s.1 s.2.1 s.2.2.1 s.2.2.2.1 s.2.2.2.2.1 s.2.2.2.2.2
theorem ZBV:∀n s,Zzz (n+1) s=Zwe (Zzz n) s:=fun _ _=>rfl
def Zt7 (w_:ZoK) (v_:ZoK):Option ZoK:=
 chk (inK .i64 ((if (v_.length:Int) > (w_.length:Int)then (v_.length:Int)else (w_.length:Int))+1)) <|
 chk (mkOk 0 ((if (v_.length:Int) > (w_.length:Int)then (v_.length:Int)else (w_.length:Int))+1) 4) <|
 (Zuj big w_ v_ (0:Int) (if (v_.length:Int) > (w_.length:Int)then (v_.length:Int)else (w_.length:Int)) (0:Int) (List.replicate ((0:Int)).toNat (0:Int))).bind fun(x0,x1)=>Zxp x0 x1
def ZwW (out:ZoK):Option ZoK:=
 (Zpr out).bind fun q=>
 some q
def ZsO (rec_:ZoK→ZoK→Int→Int→Int→ZoK→Option ZoK) (w_:ZoK) (v_:ZoK) (borrow:Int) (t12:Int) (i:Int) (out:ZoK):Option ZoK:=
 bif (decide (i < t12))then (
  (idx w_ i).bind fun w__e=>
  (Ztw v_ i).bind fun q=>
  (Zvd w__e q borrow).bind fun(q_1,borrow_1)=>
  chk (inR i (out.length:Int)) <|
  chk (inK .i64 (i+1)) <|
  rec_ w_ v_ borrow_1 t12 (i+1) (out.set ((i).toNat) q_1)
 )else (
  some out
 )
def ZtZ:Nat→ZoK→ZoK→Int→Int→Int→ZoK→Option ZoK
 |0,_,_,_,_,_,_=>none
 |n_+1,w_,v_,borrow,t12,i,out=>ZsO (ZtZ n_) w_ v_ borrow t12 i out
def Zy2 (n:Nat) (s:(ZoK×ZoK×Int×Int×Int×ZoK)):Option ZoK:=ZtZ n s.1 s.2.1 s.2.2.1 s.2.2.2.1 s.2.2.2.2.1 s.2.2.2.2.2
def ZvC (rec_:(ZoK×ZoK×Int×Int×Int×ZoK)→Option ZoK) (s:(ZoK×ZoK×Int×Int×Int×ZoK)):Option ZoK:=ZsO (fun w_ v_ borrow t12 i out=>rec_ (w_,v_,borrow,t12,i,out)) s.1 s.2.1 s.2.2.1 s.2.2.2.1 s.2.2.2.2.1 s.2.2.2.2.2
theorem ZBN:∀n s,Zy2 (n+1) s=ZvC (Zy2 n) s:=fun _ _=>rfl
def Ztp (w_:ZoK) (v_:ZoK):Option ZoK:=
 chk (mkOk (w_.length:Int) (w_.length:Int) 4) <|
 (ZtZ big w_ v_ (0:Int) (w_.length:Int) (0:Int) (List.replicate ((w_.length:Int)).toNat (0:Int))).bind fun x0=>ZwW x0
def Zx4 (a:ZoN) (b:ZoN):Option ZoN:=
 bif (a.Neg == b.Neg)then (
  (Zt7 a.Words b.Words).bind fun q=>
  (Zpy a.Neg q).bind fun q_1=>
  some q_1
 )else (
  (Zp2 a.Words b.Words).bind fun q_2=>
  bif (decide (q_2≥0))then (
   (Ztp a.Words b.Words).bind fun q_3=>
   (Zpy a.Neg q_3).bind fun q_4=>
   some q_4
  )else (
   (Ztp b.Words a.Words).bind fun q_5=>
   (Zpy b.Neg q_5).bind fun q_6=>
   some q_6
  )
 )
def Zzp (t13:Bool) (a:ZoG) (b:ZoG):Option Int:=
 bif t13 then (
  some (0:Int)
 )else (
  (Zo5 a.Num b.Den).bind fun q=>
  (Zo5 b.Num a.Den).bind fun q_1=>
  (Ztx q_1).bind fun q_2=>
  (Zx4 q q_2).bind fun d=>
  bif d.Neg then (
   some (-1:Int)
  )else (
   bif (decide ((d.Words.length:Int) > 0))then (
    some (1:Int)
   )else (
    some (0:Int)
   )
  )
 )
def ZwY (a:ZoG) (b:ZoG):Option Int:=
 (ZqX a).bind fun q=>
 bif (!q)then (
  Zzp true a b
 )else (
  (ZqX b).bind fun q_1=>
  Zzp (!q_1) a b
 )
def Zzm (a:ZoG):Option Int:=
 (Zx3).bind fun q=>
 (ZwY a q).bind fun q_1=>
 some q_1
def ZCY:Option (List (Int×ZpS)):=
 some (setB (q:=ZFN) (k:=(.int .i64)) (v:=(.st 6)) (car:=Zxw) (setB (q:=ZFN) (k:=(.int .i64)) (v:=(.st 6)) (car:=Zxw) (setB (q:=ZFN) (k:=(.int .i64)) (v:=(.st 6)) (car:=Zxw) (setB (q:=ZFN) (k:=(.int .i64)) (v:=(.st 6)) (car:=Zxw) (setB (q:=ZFN) (k:=(.int .i64)) (v:=(.st 6)) (car:=Zxw) ([]:(List (Int×ZpS))) 1 (ZpS.mk ([116,101,120,116]:Str) (none:Option Nat) (some 211:Option Nat))) 2 (ZpS.mk ([98,111,111,108]:Str) (some 212:Option Nat) (some 213:Option Nat))) 3 (ZpS.mk ([105,110,116,101,103,101,114]:Str) (some 214:Option Nat) (some 215:Option Nat))) 4 (ZpS.mk ([100,101,99,105,109,97,108]:Str) (some 216:Option Nat) (some 215:Option Nat))) 5 (ZpS.mk ([100,97,116,101]:Str) (some 217:Option Nat) (some 218:Option Nat)))
def ZzP (s cs:Str):Option Str:=
 chk (cs.all fun b=>decide (b.toNat < 128)) <| chk (decide (cs.length < 4294967281)) <| some (Lib.trimS s cs)
def ZBR (s:Str):Option Str:=
 (ZzP s ([32]:Str)).bind fun q=>
 some q
def Zqi (t4:Bool):Option Bool:=
 some t4
def ZpQ (s:Str) (prefix_:Str):Option Bool:=
 bif (decide ((s.length:Int)≥(prefix_.length:Int)))then (
  chk (Zcp 0 (prefix_.length:Int) (s.length:Int)) <|
  Zqi ((s.take ((prefix_.length:Int)).toNat) == prefix_)
 )else (
  Zqi false
 )
def ZsW (s:Str) (prefix_:Str):ZHJ:=
 (ZpQ s prefix_).bind fun q=>
 bif (!q)then (
  some (s,false)
 )else (
  chk (Zcp (prefix_.length:Int) (s.length:Int) (s.length:Int)) <|
  some ((s.drop ((prefix_.length:Int)).toNat),true)
 )
def ZxC (s:Str) (prefix_:Str):ZHJ:=
 (ZsW s prefix_).bind fun(after,found)=>
 some (after,found)
def ZsJ (s:Str) (prefix_:Str):Option Str:=
 (ZpQ s prefix_).bind fun q=>
 bif q then (
  chk (Zcp (prefix_.length:Int) (s.length:Int) (s.length:Int)) <|
  some (s.drop ((prefix_.length:Int)).toNat)
 )else (
  some s
 )
def Zw7 (s:Str) (prefix_:Str):Option Str:=
 (ZsJ s prefix_).bind fun q=>
 some q
def ZqJ (s:Str) (c:Int):Option Int:=
 some (Lib.indexByte s c.toNat.toUInt8)
def Zq5 (s:Str) (substr:Str) (n:Int) (t16:Bool):Option Int:=
 bif t16 then (
  some (0:Int)
 )else (
  bif (n == 1)then (
   (idx substr 0).bind fun c=>
   (ZqJ s ((c.toNat:Nat):Int)).bind fun q=>
   some q
  )else (
   bif (decide (n≥(s.length:Int)))then (
    some (-1:Int)
   )else (
    none
   )
  )
 )
def Zsj (s:Str) (substr:Str):Option Int:=
 bif ((substr.length:Int) == 0)then (
  Zq5 s substr (substr.length:Int) true
 )else (
  Zq5 s substr (substr.length:Int) (substr == s)
 )
def Zwd (s:Str) (sep:Str):Option (Str×Str×Bool):=
 (Zsj s sep).bind fun i=>
 bif (decide (i≥0))then (
  chk (Zcp 0 i (s.length:Int)) <|
  chk (inK .i64 (i+(sep.length:Int))) <|
  chk (Zcp (i+(sep.length:Int)) (s.length:Int) (s.length:Int)) <|
  some ((s.take (i).toNat),(s.drop ((i+(sep.length:Int))).toNat),true)
 )else (
  some (s,([]:Str),false)
 )
def ZAg (s:Str) (sep:Str):Option (Str×Str×Bool):=
 (Zwd s sep).bind fun(before,after,found)=>
 some (before,after,found)
def ZuF (t4:Bool):Option Bool:=
 some t4
def Zxs (s:Str) (most:Int):Option Bool:=
 bif (decide ((s.length:Int)≥1))then (
  bif (decide ((s.length:Int)≤most))then (
   (ZzP s ([48,49,50,51,52,53,54,55,56,57]:Str)).bind fun q=>
   ZuF (q == ([]:Str))
  )else (
   ZuF false
  )
 )else (
  ZuF false
 )
def Zy9 (neg:Bool) (num:ZoK) (den:ZoK) (t2:Bool) (t2_1:Bool) (t2_2:ZoK) (t2_3:ZoK):ZHL:=
 (Zpy neg num).bind fun q=>
 (Zpy false den).bind fun q_1=>
 (Zro q q_1).bind fun q_2=>
 some (q_2,true)
def Zu4 (rec_:Bool→ZoK→ZoK→ZoK→Int→Int→Bool→Bool→ZoK→ZoK→ZJn) (neg:Bool) (num:ZoK) (ten:ZoK) (den:ZoK) (t63:Int) (t64:Int) (t2:Bool) (t2_1:Bool) (t2_2:ZoK) (t2_3:ZoK):ZJn:=
 bif (decide (t64 < t63))then (
  (Zrr den ten).bind fun den_1=>
  chk (inK .i64 (t64+1)) <|
  rec_ neg num ten den_1 t63 (t64+1) t2 t2_1 t2_2 t2_3
 )else (
  some (neg,num,den,t2,t2_1,t2_2,t2_3)
 )
def Zwu:Nat→Bool→ZoK→ZoK→ZoK→Int→Int→Bool→Bool→ZoK→ZoK→ZJn
 |0,_,_,_,_,_,_,_,_,_,_=>none
 |n_+1,neg,num,ten,den,t63,t64,t2,t2_1,t2_2,t2_3=>Zu4 (Zwu n_) neg num ten den t63 t64 t2 t2_1 t2_2 t2_3
def ZAp (n:Nat) (s:(Bool×ZoK×ZoK×ZoK×Int×Int×Bool×Bool×ZoK×ZoK)):ZJn:=Zwu n s.1 s.2.1 s.2.2.1 s.2.2.2.1 s.2.2.2.2.1 s.2.2.2.2.2.1 s.2.2.2.2.2.2.1 s.2.2.2.2.2.2.2.1 s.2.2.2.2.2.2.2.2.1 s.2.2.2.2.2.2.2.2.2
def ZxL (rec_:(Bool×ZoK×ZoK×ZoK×Int×Int×Bool×Bool×ZoK×ZoK)→ZJn) (s:(Bool×ZoK×ZoK×ZoK×Int×Int×Bool×Bool×ZoK×ZoK)):ZJn:=Zu4 (fun neg num ten den t63 t64 t2 t2_1 t2_2 t2_3=>rec_ (neg,num,ten,den,t63,t64,t2,t2_1,t2_2,t2_3)) s.1 s.2.1 s.2.2.1 s.2.2.2.1 s.2.2.2.2.1 s.2.2.2.2.2.1 s.2.2.2.2.2.2.1 s.2.2.2.2.2.2.2.1 s.2.2.2.2.2.2.2.2.1 s.2.2.2.2.2.2.2.2.2
theorem ZCD:∀n s,ZAp (n+1) s=ZxL (ZAp n) s:=fun _ _=>rfl
def Zza (neg:Bool) (back:Str) (num:ZoK) (ten:ZoK) (t2:Bool) (t2_1:Bool) (den:ZoK) (t2_2:ZoK) (t2_3:ZoK):ZHL:=
 (Zwu big neg num ten den (back.length:Int) (0:Int) t2 t2_1 t2_2 t2_3).bind fun(x0,x1,x2,x3,x4,x5,x6)=>Zy9 x0 x1 x2 x3 x4 x5 x6
def Zu5 (rec_:Bool→Str→ZoK→ZoK→Int→Int→Bool→Bool→ZoK→ZoK→ZoK→ZoK→ZJr) (neg:Bool) (back:Str) (num:ZoK) (ten:ZoK) (t48:Int) (t49:Int) (t2:Bool) (t2_1:Bool) (den:ZoK) (t47:ZoK) (t2_2:ZoK) (t2_3:ZoK):ZJr:=
 bif (decide (t49 < t48))then (
  chk (inR t49 (t47.length:Int)) <|
  (t47[(t49).toNat]?).bind fun d=>
  (Zrr num ten).bind fun q=>
  (Zuk (IntKind.wrap .u64 (IntKind.wrap .u8 (d - 48)))).bind fun q_1=>
  (Zt7 q q_1).bind fun num_1=>
  chk (inK .i64 (t49+1)) <|
  rec_ neg back num_1 ten t48 (t49+1) t2 t2_1 den t47 t2_2 t2_3
 )else (
  some (neg,back,num,ten,t2,t2_1,den,t2_2,t2_3)
 )
def Zwv:Nat→Bool→Str→ZoK→ZoK→Int→Int→Bool→Bool→ZoK→ZoK→ZoK→ZoK→ZJr
 |0,_,_,_,_,_,_,_,_,_,_,_,_=>none
 |n_+1,neg,back,num,ten,t48,t49,t2,t2_1,den,t47,t2_2,t2_3=>Zu5 (Zwv n_) neg back num ten t48 t49 t2 t2_1 den t47 t2_2 t2_3
def ZAq (n:Nat) (s:(Bool×Str×ZoK×ZoK×Int×Int×Bool×Bool×ZoK×ZoK×ZoK×ZoK)):ZJr:=Zwv n s.1 s.2.1 s.2.2.1 s.2.2.2.1 s.2.2.2.2.1 s.2.2.2.2.2.1 s.2.2.2.2.2.2.1 s.2.2.2.2.2.2.2.1 s.2.2.2.2.2.2.2.2.1 s.2.2.2.2.2.2.2.2.2.1 s.2.2.2.2.2.2.2.2.2.2.1 s.2.2.2.2.2.2.2.2.2.2.2
def ZxM (rec_:(Bool×Str×ZoK×ZoK×Int×Int×Bool×Bool×ZoK×ZoK×ZoK×ZoK)→ZJr) (s:(Bool×Str×ZoK×ZoK×Int×Int×Bool×Bool×ZoK×ZoK×ZoK×ZoK)):ZJr:=Zu5 (fun neg back num ten t48 t49 t2 t2_1 den t47 t2_2 t2_3=>rec_ (neg,back,num,ten,t48,t49,t2,t2_1,den,t47,t2_2,t2_3)) s.1 s.2.1 s.2.2.1 s.2.2.2.1 s.2.2.2.2.1 s.2.2.2.2.2.1 s.2.2.2.2.2.2.1 s.2.2.2.2.2.2.2.1 s.2.2.2.2.2.2.2.2.1 s.2.2.2.2.2.2.2.2.2.1 s.2.2.2.2.2.2.2.2.2.2.1 s.2.2.2.2.2.2.2.2.2.2.2
theorem ZCE:∀n s,ZAq (n+1) s=ZxM (ZAq n) s:=fun _ _=>rfl
def Zr6 (neg:Bool) (front:Str) (back:Str) (t39:Bool) (t2:Bool) (t2_1:Bool) (t2_2:ZoK) (t2_3:ZoK):ZHL:=
 bif t39 then (
  some ((ZoG.mk (ZoN.mk false ([]:ZoK)) (ZoN.mk false ([]:ZoK))),false)
 )else (
  (Zp4 ([1]:List Int)).bind fun den=>
  chk (decide (front.length+back.length≤Zr)) <|
  chk (decide ((front++back).length≤281474976710656)) <|
  (Zwv big neg back ([]:ZoK) ([10]:ZoK) (((front++back).map fun b=>((b.toNat:Nat):Int)).length:Int) (0:Int) t2 t2_1 den ((front++back).map fun b=>((b.toNat:Nat):Int)) t2_2 t2_3).bind fun(x0,x1,x2,x3,x4,x5,x6,x7,x8)=>Zza x0 x1 x2 x3 x4 x5 x6 x7 x8
 )
def Zt8 (body:Str) (neg:Bool) (t2:Bool) (t2_1:Bool) (t2_2:ZoK) (t2_3:ZoK):ZHL:=
 (ZAg body ([46]:Str)).bind fun(front,back,point)=>
 (Zxs front 15).bind fun q=>
 bif (!q)then (
  Zr6 neg front back true t2 t2_1 t2_2 t2_3
 )else (
  bif point then (
   (Zxs back 9).bind fun q_1=>
   Zr6 neg front back (!q_1) t2 t2_1 t2_2 t2_3
  )else (
   Zr6 neg front back false t2 t2_1 t2_2 t2_3
  )
 )
def Zul (text:Str):ZHL:=
 (ZxC text ([45]:Str)).bind fun(body,neg)=>
 bif (!neg)then (
  (Zw7 text ([43]:Str)).bind fun body_1=>
  Zt8 body_1 neg false false ([]:ZoK) ([]:ZoK)
 )else (
  Zt8 body neg false false ([]:ZoK) ([]:ZoK)
 )
def ZyD (s cs:Str):Option Str:=
 chk (cs.all fun b=>decide (b.toNat < 128)) <| chk (decide (cs.length < 4294967281)) <| some (Lib.trimLeftS s cs)
def ZzX (s cs:Str):Option Str:=
 chk (cs.all fun b=>decide (b.toNat < 128)) <| chk (decide (cs.length < 4294967281)) <| some (Lib.trimRightS s cs)
def ZB7 (zero:Str):Option Str:=
 some zero
def ZzI (rec_:Str→ZCd→Int→Int→ZJb) (zero:Str) (t6:ZCd) (t7:Int) (t8:Int):ZJb:=
 bif (decide (t8 < t7))then (
  (idx t6 t8).bind fun val=>
  bif (!(val == zero))then (
   some (.ret val)
  )else (
   chk (inK .i64 (t8+1)) <|
   rec_ zero t6 t7 (t8+1)
  )
 )else (
  some (.brk zero)
 )
def Zww:Nat→Str→ZCd→Int→Int→ZJb
 |0,_,_,_,_=>none
 |n_+1,zero,t6,t7,t8=>ZzI (Zww n_) zero t6 t7 t8
def ZBv (n:Nat) (s:(Str×ZCd×Int×Int)):ZJb:=Zww n s.1 s.2.1 s.2.2.1 s.2.2.2
def ZBw (rec_:(Str×ZCd×Int×Int)→ZJb) (s:(Str×ZCd×Int×Int)):ZJb:=ZzI (fun zero t6 t7 t8=>rec_ (zero,t6,t7,t8)) s.1 s.2.1 s.2.2.1 s.2.2.2
theorem ZDn:∀n s,ZBv (n+1) s=ZBw (ZBv n) s:=fun _ _=>rfl
def ZAs (vals:ZCd):Option Str:=
 (Zww big ([]:Str) vals (vals.length:Int) (0:Int)).bind fun
  | .ret q_=>some q_
  | .brk x0=>ZB7 x0
def Zyn (out:Str):ZHJ:=
 some (out,true)
def Zyo (out:Str) (t43:Bool):ZHJ:=
 bif t43 then (
  chk (decide (([45]:Str).length+out.length≤Zr)) <|
  Zyn (([45]:Str)++out)
 )else (
  Zyn out
 )
def Zsn (t:Str) (out:Str):ZHJ:=
 (idx t 0).bind fun c=>
 bif (((c.toNat:Nat):Int) == 45)then (
  Zyo out (!(out == ([48]:Str)))
 )else (
  Zyo out false
 )
def ZyL (t:Str):ZHJ:=
 (Zul t).bind fun(q,ok)=>
 bif (!ok)then (
  some (([]:Str),false)
 )else (
  (ZyD t ([43,45]:Str)).bind fun q_1=>
  (ZAg q_1 ([46]:Str)).bind fun(front,back,q_2)=>
  (ZyD front ([48]:Str)).bind fun front_1=>
  (ZzX back ([48]:Str)).bind fun back_1=>
  (ZAs ([front_1,([48]:Str)]:ZCd)).bind fun out=>
  bif (!(back_1 == ([]:Str)))then (
   chk (decide (([46]:Str).length+back_1.length≤Zr)) <|
   chk (decide (out.length+(([46]:Str)++back_1).length≤Zr)) <|
   Zsn t (out++(([46]:Str)++back_1))
  )else (
   Zsn t out
  )
 )
def Zvc (n:Int) (s:Str):ZHJ:=
 (ZCY).bind fun q=>
 bif (!(Zhx (q:=ZFN) (k:=(.int .i64)) (v:=(.st 6)) (car:=Zxw) q n).isSome)then (
  some (([]:Str),false)
 )else (
  bif (Option.isNone (((Zhx (q:=ZFN) (k:=(.int .i64)) (v:=(.st 6)) (car:=Zxw) q n).getD (ZpS.mk ([]:Str) (none:Option Nat) (none:Option Nat))).canonical))then (
   some (s,true)
  )else (
   (ZBR s).bind fun q_1=>
   chk (decide (((Zhx (q:=ZFN) (k:=(.int .i64)) (v:=(.st 6)) (car:=Zxw) q n).getD (ZpS.mk ([]:Str) (none:Option Nat) (none:Option Nat))).canonical=some 216)) <|
   (ZyL q_1).bind fun(q_2,q_3)=>
   some (q_2,q_3)
  )
 )
def ZAc (n:Int) (s:Str):ZHL:=
 (Zvc n s).bind fun(t,ok)=>
 bif (!ok)then (
  some ((ZoG.mk (ZoN.mk false ([]:ZoK)) (ZoN.mk false ([]:ZoK))),false)
 )else (
  (ZCY).bind fun q=>
  chk (decide (((Zhx (q:=ZFN) (k:=(.int .i64)) (v:=(.st 6)) (car:=Zxw) q n).getD (ZpS.mk ([]:Str) (none:Option Nat) (none:Option Nat))).value=some 215)) <|
  (Zul t).bind fun(q_1,q_2)=>
  some (q_1,q_2)
 )
def ZCZ (c:ZoR):ZHL:=
 bif c.Null then (
  (Zx3).bind fun q=>
  some (q,false)
 )else (
  (ZAc 4 c.Text).bind fun(q_1,q_2)=>
  some (q_1,q_2)
 )
def ZyY (full:Int) (n:Int) (t2:Bool) (t2_1:Bool) (t2_2:ZoK) (t2_3:ZoK):Option ZoG:=
 (ZAk n (if (1:Int) > full then (1:Int)else full)).bind fun q=>
 some q
def Zt6 (rec_:ZQX) (full:Int) (n:Int) (t10:ZwZ) (t11:Int) (t12:Int) (t2:Bool) (t2_1:Bool) (t2_2:ZoK) (t2_3:ZoK):ZHO:=
 chk (inK .i64 (t12+1)) <|
 rec_ full n t10 t11 (t12+1) t2 t2_1 t2_2 t2_3
def Zu0 (rec_:ZQX) (full:Int) (n:Int) (t10:ZwZ) (t11:Int) (t12:Int) (t2:Bool) (t2_1:Bool) (t2_2:ZoK) (t2_3:ZoK):ZHO:=
 bif (decide (t12 < t11))then (
  (idx t10 t12).bind fun x_=>
  bif x_.Null then (
   Zt6 rec_ full n t10 t11 t12 t2 t2_1 t2_2 t2_3
  )else (
   chk (inK .i64 (full+1)) <|
   (ZCZ x_).bind fun(q,ok)=>
   bif ok then (
    chk (inK .i64 (n+1)) <|
    Zt6 rec_ (full+1) (n+1) t10 t11 t12 t2 t2_1 t2_2 t2_3
   )else (
    Zt6 rec_ (full+1) n t10 t11 t12 t2 t2_1 t2_2 t2_3
   )
  )
 )else (
  some (full,n,t2,t2_1,t2_2,t2_3)
 )
def Zt5:Nat→Int→Int→ZwZ→Int→Int→Bool→Bool→ZoK→ZoK→ZHO
 |0,_,_,_,_,_,_,_,_,_=>none
 |n_+1,full,n,t10,t11,t12,t2,t2_1,t2_2,t2_3=>Zu0 (Zt5 n_) full n t10 t11 t12 t2 t2_1 t2_2 t2_3
def ZAh (n:Nat) (s:(Int×Int×ZwZ×Int×Int×Bool×Bool×ZoK×ZoK)):ZHO:=Zt5 n s.1 s.2.1 s.2.2.1 s.2.2.2.1 s.2.2.2.2.1 s.2.2.2.2.2.1 s.2.2.2.2.2.2.1 s.2.2.2.2.2.2.2.1 s.2.2.2.2.2.2.2.2
def ZxF (rec_:(Int×Int×ZwZ×Int×Int×Bool×Bool×ZoK×ZoK)→ZHO) (s:(Int×Int×ZwZ×Int×Int×Bool×Bool×ZoK×ZoK)):ZHO:=Zu0 (fun full n t10 t11 t12 t2 t2_1 t2_2 t2_3=>rec_ (full,n,t10,t11,t12,t2,t2_1,t2_2,t2_3)) s.1 s.2.1 s.2.2.1 s.2.2.2.1 s.2.2.2.2.1 s.2.2.2.2.2.1 s.2.2.2.2.2.2.1 s.2.2.2.2.2.2.2.1 s.2.2.2.2.2.2.2.2
theorem ZCy:∀n s,ZAh (n+1) s=ZxF (ZAh n) s:=fun _ _=>rfl
def ZAi (c:ZoL):Option ZoG:=
 (Zt5 big (0:Int) (0:Int) c.Cells (c.Cells.length:Int) (0:Int) false false ([]:ZoK) ([]:ZoK)).bind fun(x0,x1,x2,x3,x4,x5)=>ZyY x0 x1 x2 x3 x4 x5
def ZuD (c:ZoL):Option ZoG:=ZFR (ZAi c)
def ZBY (a:ZoG) (b:ZoG):Option (ZoN×ZoN):=
 (Zo5 a.Num b.Den).bind fun q=>
 (Zo5 b.Num a.Den).bind fun q_1=>
 (Zx4 q q_1).bind fun num=>
 (Zo5 a.Den b.Den).bind fun den=>
 some (num,den)
def Zrp (t18:Bool) (a:ZoG) (b:ZoG) (t6:Bool) (t6_1:Bool) (t6_2:ZoK) (t6_3:ZoK):ZEV:=
 bif t18 then (
  some ((ZoG.mk (ZoN.mk false ([]:ZoK)) (ZoN.mk false ([]:ZoK))),1)
 )else (
  (ZBY a b).bind fun(num,den)=>
  bif ((den.Words.length:Int) == 0)then (
   some ((ZoG.mk (ZoN.mk false ([]:ZoK)) (ZoN.mk false ([]:ZoK))),8)
  )else (
   (Zro num den).bind fun f=>
   bif (decide ((if (f.Den.Words.length:Int) > (f.Num.Words.length:Int)then (f.Den.Words.length:Int)else (f.Num.Words.length:Int)) > 256))then (
    some ((ZoG.mk (ZoN.mk false ([]:ZoK)) (ZoN.mk false ([]:ZoK))),3)
   )else (
    some (f,0)
   )
  )
 )
def ZqS (a:ZoG) (b:ZoG):ZEV:=
 (ZqX a).bind fun q=>
 bif (!q)then (
  Zrp true a b false false ([]:ZoK) ([]:ZoK)
 )else (
  (ZqX b).bind fun q_1=>
  Zrp (!q_1) a b false false ([]:ZoK) ([]:ZoK)
 )
def ZAX (a:ZoG) (b:ZoG):ZEV:=
 (ZqX b).bind fun q=>
 bif (!q)then (
  some ((ZoG.mk (ZoN.mk false ([]:ZoK)) (ZoN.mk false ([]:ZoK))),1)
 )else (
  (Ztx b.Num).bind fun q_1=>
  (ZqS a (ZoG.mk q_1 b.Den)).bind fun(q_2,q_3)=>
  some (q_2,q_3)
 )
def ZzY (f:ZoG) (a1:Int):Option ZoG:=
 some f
def ZCz (a:ZoG) (b:ZoG):Option ZoG:=
 (ZAX a b).bind fun(q,q_1)=>
 (ZzY q q_1).bind fun q_2=>
 some q_2
def ZzS (a:ZoG) (b:ZoG):ZEV:=
 (ZqS a b).bind fun(q,q_1)=>
 some (q,q_1)
def ZBS (a:ZoG) (b:ZoG):Option ZoG:=
 (ZzS a b).bind fun(q,q_1)=>
 (ZzY q q_1).bind fun q_2=>
 some q_2
def ZBZ (a:ZoG) (b:ZoG):Option (ZoN×ZoN):=
 (Zo5 a.Num b.Den).bind fun num=>
 (Zo5 a.Den b.Num).bind fun den=>
 some (num,den)
def ZqK (t18:Bool) (a:ZoG) (b:ZoG) (t6:Bool) (t6_1:Bool) (t6_2:ZoK) (t6_3:ZoK):ZEV:=
 bif t18 then (
  some ((ZoG.mk (ZoN.mk false ([]:ZoK)) (ZoN.mk false ([]:ZoK))),1)
 )else (
  (ZBZ a b).bind fun(num,den)=>
  bif ((den.Words.length:Int) == 0)then (
   some ((ZoG.mk (ZoN.mk false ([]:ZoK)) (ZoN.mk false ([]:ZoK))),8)
  )else (
   (Zro num den).bind fun f=>
   bif (decide ((if (f.Den.Words.length:Int) > (f.Num.Words.length:Int)then (f.Den.Words.length:Int)else (f.Num.Words.length:Int)) > 256))then (
    some ((ZoG.mk (ZoN.mk false ([]:ZoK)) (ZoN.mk false ([]:ZoK))),3)
   )else (
    some (f,0)
   )
  )
 )
def Zuz (a:ZoG) (b:ZoG):ZEV:=
 (ZqX a).bind fun q=>
 bif (!q)then (
  ZqK true a b false false ([]:ZoK) ([]:ZoK)
 )else (
  (ZqX b).bind fun q_1=>
  ZqK (!q_1) a b false false ([]:ZoK) ([]:ZoK)
 )
def ZAY (a:ZoG) (b:ZoG):ZEV:=
 (Zuz a b).bind fun(q,q_1)=>
 some (q,q_1)
def ZDk (a:ZoG) (b:ZoG):Option ZoG:=
 (ZAY a b).bind fun(q,q_1)=>
 (ZzY q q_1).bind fun q_2=>
 some q_2
def Zwp (t4:Bool) (t4_1:Bool) (values:ZoG) (Zlk:ZoG) (apart:ZoG) (t4_2:ZoK) (t4_3:ZoK):Option ZoG:=
 (ZBS values values).bind fun q=>
 (ZBS q Zlk).bind fun q_1=>
 (ZAk 1 1).bind fun q_2=>
 (ZCz q_2 apart).bind fun q_3=>
 (ZBS q_1 q_3).bind fun sum=>
 (ZAk 4 1).bind fun q_4=>
 (ZDk sum q_4).bind fun q_5=>
 some q_5
def Zui (t24:Bool) (a:ZoL) (b:ZoL) (t4:Bool) (t4_1:Bool) (values:ZoG) (Zlk:ZoG) (t4_2:ZoK) (t4_3:ZoK):Option ZoG:=
 bif t24 then (
  (Zx3).bind fun q=>
  some q
 )else (
  (ZuD a).bind fun q_1=>
  (ZuD b).bind fun q_2=>
  (ZCz q_1 q_2).bind fun apart=>
  (Zzm apart).bind fun q_3=>
  bif (decide (q_3 < 0))then (
   (Zx3).bind fun q_4=>
   (ZCz q_4 apart).bind fun apart_1=>
   Zwp t4 t4_1 values Zlk apart_1 t4_2 t4_3
  )else (
   Zwp t4 t4_1 values Zlk apart t4_2 t4_3
  )
 )
def ZAj (a:ZoL) (b:ZoL):Option ZoG:=
 (ZxE a b).bind fun values=>
 (ZyE a.Name b.Name).bind fun Zlk=>
 (Zzm values).bind fun q=>
 bif (q == 0)then (
  (Zzm Zlk).bind fun q_1=>
  Zui (q_1 == 0) a b false false values Zlk ([]:ZoK) ([]:ZoK)
 )else (
  Zui false a b false false values Zlk ([]:ZoK) ([]:ZoK)
 )
def Zzc:Option Int:=
 some (0:Int)
def Zzd (rec_:ZQJ) (t38:(List Zsm)) (t39:Int) (t40:Int):ZAI:=
 chk (inK .i64 (t40+1)) <|
 rec_ t38 t39 (t40+1)
def Zu6 (rec_:(List Zsm)→Int→Int→Zsm→Int→Int→ZJi) (t38:(List Zsm)) (t39:Int) (t40:Int) (t44:Zsm) (t45:Int) (t46:Int):ZJi:=
 bif (decide (t46 < t45))then (
  (idx t44 t46).bind fun x_=>
  (Zzm x_).bind fun q=>
  bif (decide (q < 0))then (
   some (.ret (2:Int))
  )else (
   chk (inK .i64 (t46+1)) <|
   rec_ t38 t39 t40 t44 t45 (t46+1)
  )
 )else (
  some (.brk (t38,t39,t40))
 )
def Zwx:Nat→(List Zsm)→Int→Int→Zsm→Int→Int→ZJi
 |0,_,_,_,_,_,_=>none
 |n_+1,t38,t39,t40,t44,t45,t46=>Zu6 (Zwx n_) t38 t39 t40 t44 t45 t46
def ZAt (n:Nat) (s:((List Zsm)×Int×Int×Zsm×Int×Int)):ZJi:=Zwx n s.1 s.2.1 s.2.2.1 s.2.2.2.1 s.2.2.2.2.1 s.2.2.2.2.2
def ZxN (rec_:((List Zsm)×Int×Int×Zsm×Int×Int)→ZJi) (s:((List Zsm)×Int×Int×Zsm×Int×Int)):ZJi:=Zu6 (fun t38 t39 t40 t44 t45 t46=>rec_ (t38,t39,t40,t44,t45,t46)) s.1 s.2.1 s.2.2.1 s.2.2.2.1 s.2.2.2.2.1 s.2.2.2.2.2
theorem ZCF:∀n s,ZAt (n+1) s=ZxN (ZAt n) s:=fun _ _=>rfl
def Zu7 (rec_:ZQJ) (t38:(List Zsm)) (t39:Int) (t40:Int):ZAI:=
 bif (decide (t40 < t39))then (
  (idx t38 t40).bind fun row=>
  (Zwx big t38 t39 t40 row (row.length:Int) (0:Int)).bind fun
   | .ret q_=>some (.ret q_)
   | .brk (x0,x1,x2)=>Zzd rec_ x0 x1 x2
 )else (
  some (.brk ())
 )
def Zt9:Nat→(List Zsm)→Int→Int→ZAI
 |0,_,_,_=>none
 |n_+1,t38,t39,t40=>Zu7 (Zt9 n_) t38 t39 t40
def ZAu (n:Nat) (s:((List Zsm)×Int×Int)):ZAI:=Zt9 n s.1 s.2.1 s.2.2
def ZxO (rec_:((List Zsm)×Int×Int)→ZAI) (s:((List Zsm)×Int×Int)):ZAI:=Zu7 (fun t38 t39 t40=>rec_ (t38,t39,t40)) s.1 s.2.1 s.2.2
theorem ZCG:∀n s,ZAu (n+1) s=ZxO (ZAu n) s:=fun _ _=>rfl
def Zze (w_:(List Zsm)):Option Int:=
 (Zt9 big w_ (w_.length:Int) (0:Int)).bind fun
  | .ret q_=>some q_
  | .brk ()=>Zzc
def Zu8 (rec_:ZQQ) (w_:(List Zsm)) (t24:(List Zsm)) (t25:Int) (t26:Int):ZFP:=
 bif (decide (t26 < t25))then (
  (idx t24 t26).bind fun row=>
  (idx w_ 0).bind fun w__e=>
  bif ((row.length:Int) != (w__e.length:Int))then (
   some (.ret (1:Int))
  )else (
   chk (inK .i64 (t26+1)) <|
   rec_ w_ t24 t25 (t26+1)
  )
 )else (
  some (.brk w_)
 )
def Zwy:Nat→(List Zsm)→(List Zsm)→Int→Int→ZFP
 |0,_,_,_,_=>none
 |n_+1,w_,t24,t25,t26=>Zu8 (Zwy n_) w_ t24 t25 t26
def ZAv (n:Nat) (s:((List Zsm)×(List Zsm)×Int×Int)):ZFP:=Zwy n s.1 s.2.1 s.2.2.1 s.2.2.2
def ZxP (rec_:ZQS) (s:((List Zsm)×(List Zsm)×Int×Int)):ZFP:=Zu8 (fun w_ t24 t25 t26=>rec_ (w_,t24,t25,t26)) s.1 s.2.1 s.2.2.1 s.2.2.2
theorem ZCH:∀n s,ZAv (n+1) s=ZxP (ZAv n) s:=fun _ _=>rfl
def Zzf (w_:(List Zsm)):Option Int:=
 (Zwy big w_ w_ (w_.length:Int) (0:Int)).bind fun
  | .ret q_=>some q_
  | .brk x0=>Zze x0
def Zu9 (rec_:ZQQ) (w_:(List Zsm)) (t14:(List Zsm)) (t15:Int) (t16:Int):ZFP:=
 bif (decide (t16 < t15))then (
  (idx t14 t16).bind fun row=>
  bif (decide ((row.length:Int) > 8))then (
   some (.ret (3:Int))
  )else (
   chk (inK .i64 (t16+1)) <|
   rec_ w_ t14 t15 (t16+1)
  )
 )else (
  some (.brk w_)
 )
def Zwz:Nat→(List Zsm)→(List Zsm)→Int→Int→ZFP
 |0,_,_,_,_=>none
 |n_+1,w_,t14,t15,t16=>Zu9 (Zwz n_) w_ t14 t15 t16
def ZAw (n:Nat) (s:((List Zsm)×(List Zsm)×Int×Int)):ZFP:=Zwz n s.1 s.2.1 s.2.2.1 s.2.2.2
def ZxQ (rec_:ZQS) (s:((List Zsm)×(List Zsm)×Int×Int)):ZFP:=Zu9 (fun w_ t14 t15 t16=>rec_ (w_,t14,t15,t16)) s.1 s.2.1 s.2.2.1 s.2.2.2
theorem ZCI:∀n s,ZAw (n+1) s=ZxQ (ZAw n) s:=fun _ _=>rfl
def ZyI (w_:(List Zsm)):Option Int:=
 bif (decide ((w_.length:Int) > 8))then (
  some (3:Int)
 )else (
  (Zwz big w_ w_ (w_.length:Int) (0:Int)).bind fun
   | .ret q_=>some q_
   | .brk x0=>Zzf x0
 )
def Zp3 (rf_:(List Zsm)→Int→Int→(List (ZoU×ZoG))→ZEr) (f:(List Zsm)) (i:Int) (used:Int) (k:Int) (t28:Bool) (f_1:(List (ZoU×ZoG))) (t8:Bool) (t8_1:Bool) (t8_2:ZoK) (t8_3:ZoK):ZQH:=
 bif t28 then (
  (Zx3).bind fun q=>
  some (q,false,f_1)
 )else (
  (idx f i).bind fun f_e=>
  (idx f_e k).bind fun f_e_e=>
  chk (inK .i64 (i+1)) <|
  chk (decide (0≤k)) <|
  (rf_ f (i+1) (orK .i64 used (shlK .i64 1 k)) f_1).bind fun(q_1,m)=>
  (ZBS f_e_e q_1).bind fun q_2=>
  some (q_2,true,m)
 )
def ZqG (rf_:(List Zsm)→Int→Int→(List (ZoU×ZoG))→ZEr) (f:(List Zsm)) (i:Int) (used:Int) (k:Int) (m:(List (ZoU×ZoG))):ZQH:=
 chk (decide (0≤k)) <|
 bif ((andK .i64 (shrK .i64 used k) 1) == 1)then (
  Zp3 rf_ f i used k true m false false ([]:ZoK) ([]:ZoK)
 )else (
  (idx f i).bind fun f_e=>
  (idx f_e k).bind fun f_e_e=>
  (Zzm f_e_e).bind fun q=>
  Zp3 rf_ f i used k (q == 0) m false false ([]:ZoK) ([]:ZoK)
 )
def ZvH (rf_:(List Zsm)→Int→Int→(List (ZoU×ZoG))→ZEr) (f:(List Zsm)) (f_1:(List (ZoU×ZoG))) (t6:Bool) (t6_1:Bool) (key:ZoU) (best:ZoG) (t6_2:ZoK) (t6_3:ZoK):ZEr:=
 some (best,(setB (q:=ZFN) (k:=(.st 7)) (v:=(.st 4)) (car:=Zxw) f_1 key best))
def ZqT (rf_:(List Zsm)→Int→Int→(List (ZoU×ZoG))→ZEr) (rec_:ZSP) (f:(List Zsm)) (i:Int) (used:Int) (t48:Int) (k:Int) (f_1:(List (ZoU×ZoG))) (t6:Bool) (t6_1:Bool) (key:ZoU) (best:ZoG) (t6_2:ZoK) (t6_3:ZoK):ZMo:=
 chk (inK .i64 (k+1)) <|
 rec_ f i used t48 (k+1) f_1 t6 t6_1 key best t6_2 t6_3
def ZqU (rf_:(List Zsm)→Int→Int→(List (ZoU×ZoG))→ZEr) (rec_:ZSP) (f:(List Zsm)) (i:Int) (used:Int) (t48:Int) (k:Int) (t66:Bool) (f_1:(List (ZoU×ZoG))) (t6:Bool) (t6_1:Bool) (key:ZoU) (best:ZoG) (x_:ZoG) (t6_2:ZoK) (t6_3:ZoK):ZMo:=
 bif t66 then (
  ZqT rf_ rec_ f i used t48 k f_1 t6 t6_1 key x_ t6_2 t6_3
 )else (
  ZqT rf_ rec_ f i used t48 k f_1 t6 t6_1 key best t6_2 t6_3
 )
def ZrV (rf_:(List Zsm)→Int→Int→(List (ZoU×ZoG))→ZEr) (rec_:ZSP) (f:(List Zsm)) (i:Int) (used:Int) (t48:Int) (k:Int) (f_1:(List (ZoU×ZoG))) (t6:Bool) (t6_1:Bool) (key:ZoU) (best:ZoG) (t6_2:ZoK) (t6_3:ZoK):ZMo:=
 bif (decide (k < t48))then (
  (ZqG rf_ f i used k f_1).bind fun(x_,ok,m)=>
  bif ok then (
   (ZwY x_ best).bind fun q=>
   ZqU rf_ rec_ f i used t48 k (decide (q > 0)) m t6 t6_1 key best x_ t6_2 t6_3
  )else (
   ZqU rf_ rec_ f i used t48 k false m t6 t6_1 key best x_ t6_2 t6_3
  )
 )else (
  some (f,f_1,t6,t6_1,key,best,t6_2,t6_3)
 )
def Zo1 (rf_:(List Zsm)→Int→Int→(List (ZoU×ZoG))→ZEr):Nat→(List Zsm)→Int→Int→Int→Int→(List (ZoU×ZoG))→Bool→Bool→ZoU→ZoG→ZoK→ZoK→ZMo
 |0,_,_,_,_,_,_,_,_,_,_,_,_=>none
 |n_+1,f,i,used,t48,k,f_1,t6,t6_1,key,best,t6_2,t6_3=>ZrV rf_ (Zo1 rf_ n_) f i used t48 k f_1 t6 t6_1 key best t6_2 t6_3
def Zx1 (rf_:(List Zsm)→Int→Int→(List (ZoU×ZoG))→ZEr) (n:Nat) (s:((List Zsm)×Int×Int×Int×Int×(List (ZoU×ZoG))×Bool×Bool×ZoU×ZoG×ZoK×ZoK)):ZMo:=Zo1 rf_ n s.1 s.2.1 s.2.2.1 s.2.2.2.1 s.2.2.2.2.1 s.2.2.2.2.2.1 s.2.2.2.2.2.2.1 s.2.2.2.2.2.2.2.1 s.2.2.2.2.2.2.2.2.1 s.2.2.2.2.2.2.2.2.2.1 s.2.2.2.2.2.2.2.2.2.2.1 s.2.2.2.2.2.2.2.2.2.2.2
def ZBr (rf_:(List Zsm)→Int→Int→(List (ZoU×ZoG))→ZEr) (rec_:((List Zsm)×Int×Int×Int×Int×(List (ZoU×ZoG))×Bool×Bool×ZoU×ZoG×ZoK×ZoK)→ZMo) (s:((List Zsm)×Int×Int×Int×Int×(List (ZoU×ZoG))×Bool×Bool×ZoU×ZoG×ZoK×ZoK)):ZMo:=ZrV rf_ (fun f i used t48 k f_1 t6 t6_1 key best t6_2 t6_3=>rec_ (f,i,used,t48,k,f_1,t6,t6_1,key,best,t6_2,t6_3)) s.1 s.2.1 s.2.2.1 s.2.2.2.1 s.2.2.2.2.1 s.2.2.2.2.2.1 s.2.2.2.2.2.2.1 s.2.2.2.2.2.2.2.1 s.2.2.2.2.2.2.2.2.1 s.2.2.2.2.2.2.2.2.2.1 s.2.2.2.2.2.2.2.2.2.2.1 s.2.2.2.2.2.2.2.2.2.2.2
theorem ZEK (rf_:(List Zsm)→Int→Int→(List (ZoU×ZoG))→ZEr):∀n s,Zx1 rf_ (n+1) s=ZBr rf_ (Zx1 rf_ n) s:=fun _ _=>rfl
def Zwi (rf_:(List Zsm)→Int→Int→(List (ZoU×ZoG))→ZEr) (f:(List Zsm)) (i:Int) (used:Int) (m:(List (ZoU×ZoG))):ZEr:=
 bif (i == (f.length:Int))then (
  (Zx3).bind fun q=>
  some (q,m)
 )else (
  bif (Zhx (q:=ZFN) (k:=(.st 7)) (v:=(.st 4)) (car:=Zxw) m (ZoU.mk i used)).isSome then (
   some (((Zhx (q:=ZFN) (k:=(.st 7)) (v:=(.st 4)) (car:=Zxw) m (ZoU.mk i used)).getD (ZoG.mk (ZoN.mk false ([]:ZoK)) (ZoN.mk false ([]:ZoK)))),m)
  )else (
   chk (inK .i64 (i+1)) <|
   (rf_ f (i+1) used m).bind fun(best,m_1)=>
   (idx f i).bind fun f_e=>
   (Zo1 rf_ big f i used (f_e.length:Int) (0:Int) m_1 false false (ZoU.mk i used) best ([]:ZoK) ([]:ZoK)).bind fun(x0,x1,x2,x3,x4,x5,x6,x7)=>ZvH rf_ x0 x1 x2 x3 x4 x5 x6 x7
  )
 )
def ZoS:Nat→(List Zsm)→Int→Int→(List (ZoU×ZoG))→ZEr
 |0,_,_,_,_=>none
 |n_+1,f,i,used,m=>Zwi (ZoS n_) f i used m
def ZEa (f:ZoG):Option ZoG:=
 chk (ZjC f.Num.Words.length 4) <|
 chk (ZjC f.Den.Words.length 4) <|
 some f
def ZzK (f:(List Zsm)) (t3:Bool) (t3_1:Bool) (f_1:(List (ZoU×ZoG))) (out:ZoK) (t3_2:ZoK) (t3_3:ZoK):ZJf:=
 (ZoS big f 0 0 f_1).bind fun(q,m)=>
 (ZEa q).bind fun q_1=>
 some (out,q_1,0)
def ZzL (rec_:Tf_2) (f:(List Zsm)) (used:Int) (take:Int) (t26:(List Zsm)) (t27:Int) (i:Int) (t3:Bool) (t3_1:Bool) (f_1:(List (ZoU×ZoG))) (out:ZoK) (t3_2:ZoK) (t3_3:ZoK):ZR4:=
 chk (ZjC (out.length+([take]:ZoK).length) 8) <|
 chk (inK .i64 (i+1)) <|
 rec_ f used t26 t27 (i+1) t3 t3_1 f_1 (out++([take]:ZoK)) t3_2 t3_3
def ZsU (rec_:Tf_0) (f:(List Zsm)) (used:Int) (i:Int) (take:Int) (k:Int) (t26:(List Zsm)) (t27:Int) (i_1:Int) (t38:Int) (k_1:Int) (t56:Bool) (t3:Bool) (t3_1:Bool) (f_1:(List (ZoU×ZoG))) (out:ZoK) (best:ZoG) (t3_2:ZoK) (t3_3:ZoK):ZR5:=
 bif t56 then (
  chk (decide (0≤k)) <|
  some (f,(orK .i64 used (shlK .i64 1 k)),k,t26,t27,i_1,t3,t3_1,f_1,out,t3_2,t3_3)
 )else (
  chk (inK .i64 (k_1+1)) <|
  rec_ f used i take t26 t27 i_1 t38 (k_1+1) t3 t3_1 f_1 out best t3_2 t3_3
 )
def Zyj (rec_:Tf_0) (f:(List Zsm)) (used:Int) (i:Int) (take:Int) (t26:(List Zsm)) (t27:Int) (i_1:Int) (t38:Int) (k:Int) (t3:Bool) (t3_1:Bool) (f_1:(List (ZoU×ZoG))) (out:ZoK) (best:ZoG) (t3_2:ZoK) (t3_3:ZoK):ZR5:=
 bif (decide (k < t38))then (
  (ZqG (ZoS big) f i used k f_1).bind fun(x_,ok,m)=>
  bif ok then (
   (ZwY x_ best).bind fun q=>
   ZsU rec_ f used i take k t26 t27 i_1 t38 k (q == 0) t3 t3_1 m out best t3_2 t3_3
  )else (
   ZsU rec_ f used i take k t26 t27 i_1 t38 k false t3 t3_1 m out best t3_2 t3_3
  )
 )else (
  some (f,used,take,t26,t27,i_1,t3,t3_1,f_1,out,t3_2,t3_3)
 )
def ZpU:Nat→(List Zsm)→Int→Int→Int→(List Zsm)→Int→Int→Int→Int→Bool→Bool→(List (ZoU×ZoG))→ZoK→ZoG→ZoK→ZoK→ZR5
 |0,_,_,_,_,_,_,_,_,_,_,_,_,_,_,_,_=>none
 |n_+1,f,used,i,take,t26,t27,i_1,t38,k,t3,t3_1,f_1,out,best,t3_2,t3_3=>Zyj (ZpU n_) f used i take t26 t27 i_1 t38 k t3 t3_1 f_1 out best t3_2 t3_3
def Zyk (rec_:Tf_2) (f:(List Zsm)) (used:Int) (t26:(List Zsm)) (t27:Int) (i:Int) (t3:Bool) (t3_1:Bool) (f_1:(List (ZoU×ZoG))) (out:ZoK) (t3_2:ZoK) (t3_3:ZoK):ZR4:=
 bif (decide (i < t27))then (
  (idx t26 i).bind fun row=>
  (ZoS big f i used f_1).bind fun(best,m)=>
  (ZpU big f used i (-1:Int) t26 t27 i (row.length:Int) (0:Int) t3 t3_1 m out best t3_2 t3_3).bind fun(x0,x1,x2,x3,x4,x5,x6,x7,x8,x9,x10,x11)=>ZzL rec_ x0 x1 x2 x3 x4 x5 x6 x7 x8 x9 x10 x11
 )else (
  some (f,t3,t3_1,f_1,out,t3_2,t3_3)
 )
def Zqv:Nat→(List Zsm)→Int→(List Zsm)→Int→Int→Bool→Bool→(List (ZoU×ZoG))→ZoK→ZoK→ZoK→ZR4
 |0,_,_,_,_,_,_,_,_,_,_,_=>none
 |n_+1,f,used,t26,t27,i,t3,t3_1,f_1,out,t3_2,t3_3=>Zyk (Zqv n_) f used t26 t27 i t3 t3_1 f_1 out t3_2 t3_3
def Zzr (w_:(List Zsm)):ZJf:=
 (ZyI w_).bind fun e=>
 bif (e != 0)then (
  some (([]:ZoK),(ZoG.mk (ZoN.mk false ([]:ZoK)) (ZoN.mk false ([]:ZoK))),e)
 )else (
  (Zqv big w_ (0:Int) w_ (w_.length:Int) (0:Int) false false ([]:(List (ZoU×ZoG))) ([]:ZoK) ([]:ZoK) ([]:ZoK)).bind fun(x0,x1,x2,x3,x4,x5,x6)=>ZzK x0 x1 x2 x3 x4 x5 x6
 )
def Zya (a:ZoF) (b:ZoF) (t5:Bool) (t5_1:Bool) (w_:(List Zsm)) (t5_2:ZoK) (t5_3:ZoK):ZJf:=
 (Zzr w_).bind fun(l,weight,e)=>
 bif (e != 0)then (
  some (([]:ZoK),(ZoG.mk (ZoN.mk false ([]:ZoK)) (ZoN.mk false ([]:ZoK))),e)
 )else (
  (ZAk (if (1:Int) > (if (b.Columns.length:Int) > (a.Columns.length:Int)then (b.Columns.length:Int)else (a.Columns.length:Int))then (1:Int)else (if (b.Columns.length:Int) > (a.Columns.length:Int)then (b.Columns.length:Int)else (a.Columns.length:Int))) 1).bind fun q=>
  (ZDk weight q).bind fun q_1=>
  some (l,q_1,0)
 )
def Zyb (rec_:Tf_3) (t39:Zo3) (t40:Int) (t41:Int) (a:ZoF) (b:ZoF) (t5:Bool) (t5_1:Bool) (w_:(List Zsm)) (row:Zsm) (t5_2:ZoK) (t5_3:ZoK):ZNX:=
 chk (ZjC (w_.length+([row]:(List Zsm)).length) 24) <|
 chk (inK .i64 (t41+1)) <|
 rec_ t39 t40 (t41+1) a b t5 t5_1 (w_++([row]:(List Zsm))) t5_2 t5_3
def Zud (rec_:Zo3→Int→Int→Zo3→Int→Int→ZoF→ZoF→Bool→Bool→(List Zsm)→ZoL→Zsm→ZoK→ZoK→ZPk) (t39:Zo3) (t40:Int) (t41:Int) (t47:Zo3) (t48:Int) (t49:Int) (a:ZoF) (b:ZoF) (t5:Bool) (t5_1:Bool) (w_:(List Zsm)) (x_:ZoL) (row:Zsm) (t5_2:ZoK) (t5_3:ZoK):ZPk:=
 bif (decide (t49 < t48))then (
  (idx t47 t49).bind fun y=>
  (ZAj x_ y).bind fun q=>
  chk (ZjC (row.length+([q]:Zsm).length) 64) <|
  chk (inK .i64 (t49+1)) <|
  rec_ t39 t40 t41 t47 t48 (t49+1) a b t5 t5_1 w_ x_ (row++([q]:Zsm)) t5_2 t5_3
 )else (
  some (t39,t40,t41,a,b,t5,t5_1,w_,row,t5_2,t5_3)
 )
def ZvN:Nat→Zo3→Int→Int→Zo3→Int→Int→ZoF→ZoF→Bool→Bool→(List Zsm)→ZoL→Zsm→ZoK→ZoK→ZPk
 |0,_,_,_,_,_,_,_,_,_,_,_,_,_,_,_=>none
 |n_+1,t39,t40,t41,t47,t48,t49,a,b,t5,t5_1,w_,x_,row,t5_2,t5_3=>Zud (ZvN n_) t39 t40 t41 t47 t48 t49 a b t5 t5_1 w_ x_ row t5_2 t5_3
def Zz4 (n:Nat) (s:(Zo3×Int×Int×Zo3×Int×Int×ZoF×ZoF×Bool×Bool×(List Zsm)×ZoL×Zsm×ZoK×ZoK)):ZPk:=ZvN n s.1 s.2.1 s.2.2.1 s.2.2.2.1 s.2.2.2.2.1 s.2.2.2.2.2.1 s.2.2.2.2.2.2.1 s.2.2.2.2.2.2.2.1 s.2.2.2.2.2.2.2.2.1 s.2.2.2.2.2.2.2.2.2.1 s.2.2.2.2.2.2.2.2.2.2.1 s.2.2.2.2.2.2.2.2.2.2.2.1 s.2.2.2.2.2.2.2.2.2.2.2.2.1 s.2.2.2.2.2.2.2.2.2.2.2.2.2.1 s.2.2.2.2.2.2.2.2.2.2.2.2.2.2
def Zxh (rec_:(Zo3×Int×Int×Zo3×Int×Int×ZoF×ZoF×Bool×Bool×(List Zsm)×ZoL×Zsm×ZoK×ZoK)→ZPk) (s:(Zo3×Int×Int×Zo3×Int×Int×ZoF×ZoF×Bool×Bool×(List Zsm)×ZoL×Zsm×ZoK×ZoK)):ZPk:=Zud (fun t39 t40 t41 t47 t48 t49 a b t5 t5_1 w_ x_ row t5_2 t5_3=>rec_ (t39,t40,t41,t47,t48,t49,a,b,t5,t5_1,w_,x_,row,t5_2,t5_3)) s.1 s.2.1 s.2.2.1 s.2.2.2.1 s.2.2.2.2.1 s.2.2.2.2.2.1 s.2.2.2.2.2.2.1 s.2.2.2.2.2.2.2.1 s.2.2.2.2.2.2.2.2.1 s.2.2.2.2.2.2.2.2.2.1 s.2.2.2.2.2.2.2.2.2.2.1 s.2.2.2.2.2.2.2.2.2.2.2.1 s.2.2.2.2.2.2.2.2.2.2.2.2.1 s.2.2.2.2.2.2.2.2.2.2.2.2.2.1 s.2.2.2.2.2.2.2.2.2.2.2.2.2.2
theorem ZCl:∀n s,Zz4 (n+1) s=Zxh (Zz4 n) s:=fun _ _=>rfl
def Zue (rec_:Tf_3) (t39:Zo3) (t40:Int) (t41:Int) (a:ZoF) (b:ZoF) (t5:Bool) (t5_1:Bool) (w_:(List Zsm)) (t5_2:ZoK) (t5_3:ZoK):ZNX:=
 bif (decide (t41 < t40))then (
  (idx t39 t41).bind fun x_=>
  (ZvN big t39 t40 t41 b.Columns (b.Columns.length:Int) (0:Int) a b t5 t5_1 w_ x_ ([]:Zsm) t5_2 t5_3).bind fun(x0,x1,x2,x3,x4,x5,x6,x7,x8,x9,x10)=>Zyb rec_ x0 x1 x2 x3 x4 x5 x6 x7 x8 x9 x10
 )else (
  some (a,b,t5,t5_1,w_,t5_2,t5_3)
 )
def Zth:Nat→Zo3→Int→Int→ZoF→ZoF→Bool→Bool→(List Zsm)→ZoK→ZoK→ZNX
 |0,_,_,_,_,_,_,_,_,_,_=>none
 |n_+1,t39,t40,t41,a,b,t5,t5_1,w_,t5_2,t5_3=>Zue (Zth n_) t39 t40 t41 a b t5 t5_1 w_ t5_2 t5_3
def Zz5 (n:Nat) (s:(Zo3×Int×Int×ZoF×ZoF×Bool×Bool×(List Zsm)×ZoK×ZoK)):ZNX:=Zth n s.1 s.2.1 s.2.2.1 s.2.2.2.1 s.2.2.2.2.1 s.2.2.2.2.2.1 s.2.2.2.2.2.2.1 s.2.2.2.2.2.2.2.1 s.2.2.2.2.2.2.2.2.1 s.2.2.2.2.2.2.2.2.2
def Zxi (rec_:(Zo3×Int×Int×ZoF×ZoF×Bool×Bool×(List Zsm)×ZoK×ZoK)→ZNX) (s:(Zo3×Int×Int×ZoF×ZoF×Bool×Bool×(List Zsm)×ZoK×ZoK)):ZNX:=Zue (fun t39 t40 t41 a b t5 t5_1 w_ t5_2 t5_3=>rec_ (t39,t40,t41,a,b,t5,t5_1,w_,t5_2,t5_3)) s.1 s.2.1 s.2.2.1 s.2.2.2.1 s.2.2.2.2.1 s.2.2.2.2.2.1 s.2.2.2.2.2.2.1 s.2.2.2.2.2.2.2.1 s.2.2.2.2.2.2.2.2.1 s.2.2.2.2.2.2.2.2.2
theorem ZCm:∀n s,Zz5 (n+1) s=Zxi (Zz5 n) s:=fun _ _=>rfl
def ZvO (t26:Bool) (a:ZoF) (b:ZoF) (t5:Bool) (t5_1:Bool) (t5_2:ZoK) (t5_3:ZoK):ZJf:=
 bif t26 then (
  some (([]:ZoK),(ZoG.mk (ZoN.mk false ([]:ZoK)) (ZoN.mk false ([]:ZoK))),3)
 )else (
  (Zth big a.Columns (a.Columns.length:Int) (0:Int) a b t5 t5_1 ([]:(List Zsm)) t5_2 t5_3).bind fun(x0,x1,x2,x3,x4,x5,x6)=>Zya x0 x1 x2 x3 x4 x5 x6
 )
def ZvP (t16:Bool) (a:ZoF) (b:ZoF) (t5:Bool) (t5_1:Bool) (t5_2:ZoK) (t5_3:ZoK):ZJf:=
 bif t16 then (
  some (([]:ZoK),(ZoG.mk (ZoN.mk false ([]:ZoK)) (ZoN.mk false ([]:ZoK))),1)
 )else (
  bif (decide ((a.Columns.length:Int) > 8))then (
   ZvO true a b t5 t5_1 t5_2 t5_3
  )else (
   ZvO (decide ((b.Columns.length:Int) > 8)) a b t5 t5_1 t5_2 t5_3
  )
 )
def ZqL (a:ZoF) (b:ZoF):ZJf:=
 (ZrS a).bind fun q=>
 bif (!q)then (
  ZvP true a b false false ([]:ZoK) ([]:ZoK)
 )else (
  (ZrS b).bind fun q_1=>
  ZvP (!q_1) a b false false ([]:ZoK) ([]:ZoK)
 )
def ZwS:Option Int:=
 some (-1:Int)
def ZsH (rec_:ZoK→Int→Int→Int→ZAI) (s:ZoK) (v_:Int) (t7:Int) (i:Int):ZAI:=
 bif (decide (i < t7))then (
  (idx s i).bind fun s_e=>
  bif (v_ == s_e)then (
   some (.ret i)
  )else (
   chk (inK .i64 (i+1)) <|
   rec_ s v_ t7 (i+1)
  )
 )else (
  some (.brk ())
 )
def ZrI:Nat→ZoK→Int→Int→Int→ZAI
 |0,_,_,_,_=>none
 |n_+1,s,v_,t7,i=>ZsH (ZrI n_) s v_ t7 i
def ZyX (n:Nat) (s:(ZoK×Int×Int×Int)):ZAI:=ZrI n s.1 s.2.1 s.2.2.1 s.2.2.2
def Zvx (rec_:(ZoK×Int×Int×Int)→ZAI) (s:(ZoK×Int×Int×Int)):ZAI:=ZsH (fun s v_ t7 i=>rec_ (s,v_,t7,i)) s.1 s.2.1 s.2.2.1 s.2.2.2
theorem ZBJ:∀n s,ZyX (n+1) s=Zvx (ZyX n) s:=fun _ _=>rfl
def Zyg (s:ZoK) (v_:Int):Option Int:=
 (ZrI big s v_ (s.length:Int) (0:Int)).bind fun
  | .ret q_=>some q_
  | .brk ()=>ZwS
def ZtV (s:ZoK) (v_:Int):Option Bool:=
 (Zyg s v_).bind fun q=>
 some (decide (q≥0))
def Zpa (s:Zo3) (t4:Bool):Option Zo3:=
 bif t4 then (
  some ([]:Zo3)
 )else (
  chk (ZjC (([]:Zo3).length+s.length) 40) <|
  some (([]:Zo3)++s)
 )
def Zp5 (s:Zo3):Option Zo3:=
 bif (List.isEmpty s)then agree (
  Zpa s true
 ) (
  Zpa s false
 )else (
  Zpa s false
 )
def Zpl (s:ZwZ) (t4:Bool):Option ZwZ:=
 bif t4 then (
  some ([]:ZwZ)
 )else (
  chk (ZjC (([]:ZwZ).length+s.length) 24) <|
  some (([]:ZwZ)++s)
 )
def ZqI (s:ZwZ):Option ZwZ:=
 bif (List.isEmpty s)then agree (
  Zpl s true
 ) (
  Zpl s false
 )else (
  Zpl s false
 )
def ZCq (t:Int) (t_1:Str) (t2:Int) (t2_1:Str) (t_2:Zo3) (t_lo:Nat) (t2_2:Zo3):Option (ZoF×Nat):=
 some ((ZoF.mk t t_1 t_2),t_lo)
def ZzU (rec_:Int→Int→Int→Str→Int→Str→Zo3→Nat→Zo3→ZJk) (t11:Int) (i:Int) (t:Int) (t_1:Str) (t2:Int) (t2_1:Str) (t10:Zo3) (t10_lo:Nat) (t2_2:Zo3):ZJk:=
 bif (decide (i < t11))then (
  chk (inR i (t10.length:Int)) <|
  (t10[(i).toNat]?).bind fun c=>
  chk (decide (t10_lo≤(i).toNat)) <|
  (ZqI c.Cells).bind fun q=>
  chk (inR i (t10.length:Int)) <|
  chk (decide (t10_lo=(i).toNat)) <|
  (t10[(i).toNat]?).bind fun el=>
  chk (inK .i64 (i+1)) <|
  rec_ t11 (i+1) t t_1 t2 t2_1 (t10.set ((i).toNat) (ZoL.mk el.Name q)) (t10_lo+1) t2_2
 )else (
  some (t,t_1,t2,t2_1,t10,t10_lo,t2_2)
 )
def ZAW:Nat→Int→Int→Int→Str→Int→Str→Zo3→Nat→Zo3→ZJk
 |0,_,_,_,_,_,_,_,_,_=>none
 |n_+1,t11,i,t,t_1,t2,t2_1,t10,t10_lo,t2_2=>ZzU (ZAW n_) t11 i t t_1 t2 t2_1 t10 t10_lo t2_2
def ZC9 (n:Nat) (s:(Int×Int×Int×Str×Int×Str×Zo3×Nat×Zo3)):ZJk:=ZAW n s.1 s.2.1 s.2.2.1 s.2.2.2.1 s.2.2.2.2.1 s.2.2.2.2.2.1 s.2.2.2.2.2.2.1 s.2.2.2.2.2.2.2.1 s.2.2.2.2.2.2.2.2
def ZBq (rec_:(Int×Int×Int×Str×Int×Str×Zo3×Nat×Zo3)→ZJk) (s:(Int×Int×Int×Str×Int×Str×Zo3×Nat×Zo3)):ZJk:=ZzU (fun t11 i t t_1 t2 t2_1 t10 t10_lo t2_2=>rec_ (t11,i,t,t_1,t2,t2_1,t10,t10_lo,t2_2)) s.1 s.2.1 s.2.2.1 s.2.2.2.1 s.2.2.2.2.1 s.2.2.2.2.2.1 s.2.2.2.2.2.2.1 s.2.2.2.2.2.2.2.1 s.2.2.2.2.2.2.2.2
theorem ZEw:∀n s,ZC9 (n+1) s=ZBq (ZC9 n) s:=fun _ _=>rfl
def ZBU (t:ZoF):Option (ZoF×Nat):=
 (Zp5 t.Columns).bind fun q=>
 (ZAW big (q.length:Int) (0:Int) t.ID t.Name (0:Int) ([]:Str) q 0 ([]:Zo3)).bind fun(x0,x1,x2,x3,x4,x5,x6)=>ZCq x0 x1 x2 x3 x4 x5 x6
def ZCA (x_:Int) (y:Int):ZJa:=
 chk (decide (0≤(32:Int))) <|
 chk (decide (0≤(32:Int))) <|
 chk (decide (0≤(32:Int))) <|
 chk (decide (0≤(32:Int))) <|
 chk (decide (0≤(32:Int))) <|
 some ((IntKind.wrap .u64 ((IntKind.wrap .u64 ((IntKind.wrap .u64 ((shrK .u64 x_ 32)*(shrK .u64 y 32)))+(shrK .u64 (IntKind.wrap .u64 ((IntKind.wrap .u64 ((shrK .u64 x_ 32)*(andK .u64 y 4294967295)))+(shrK .u64 (IntKind.wrap .u64 ((andK .u64 x_ 4294967295)*(andK .u64 y 4294967295))) 32))) 32)))+(shrK .u64 (IntKind.wrap .u64 ((andK .u64 (IntKind.wrap .u64 ((IntKind.wrap .u64 ((shrK .u64 x_ 32)*(andK .u64 y 4294967295)))+(shrK .u64 (IntKind.wrap .u64 ((andK .u64 x_ 4294967295)*(andK .u64 y 4294967295))) 32))) 4294967295)+(IntKind.wrap .u64 ((andK .u64 x_ 4294967295)*(shrK .u64 y 32))))) 32))),(IntKind.wrap .u64 (x_*y)))
def ZDl (x_:Int) (y:Int):ZJa:=
 (ZCA x_ y).bind fun(h_,l)=>
 some (h_,l)
def Zva (newslice:ZwZ):Option ZwZ:=
 some newslice
def Zzl (rec_:Int→ZwZ→Option ZwZ) (n:Int) (newslice:ZwZ):Option ZwZ:=
 bif (decide (n < (newslice.length:Int)))then (
  chk (Zcp n (newslice.length:Int) (newslice.length:Int)) <|
  chk (Zcp 0 n (newslice.length:Int)) <|
  chk (decide ((n).toNat+((newslice.length:Int).toNat - (n).toNat)≤newslice.length)) <|
  chk (inK .i64 (n+((min ((newslice.drop 0).take ((n).toNat - 0)).length ((newslice.length:Int).toNat - (n).toNat):Nat):Int))) <|
  rec_ (n+((min ((newslice.drop 0).take ((n).toNat - 0)).length ((newslice.length:Int).toNat - (n).toNat):Nat):Int)) (ZT newslice ((n).toNat) (((newslice.drop 0).take ((n).toNat - 0)).take (min ((newslice.drop 0).take ((n).toNat - 0)).length ((newslice.length:Int).toNat - (n).toNat))))
 )else (
  some newslice
 )
def ZrG:Nat→Int→ZwZ→Option ZwZ
 |0,_,_=>none
 |n_+1,n,newslice=>Zzl (ZrG n_) n newslice
def ZrH (x_:ZwZ) (lo:Int) (t26:Bool):Option ZwZ:=
 bif t26 then (
  none
 )else (
  chk (mkOk (IntKind.wrap .i64 lo) (IntKind.wrap .i64 lo) 24) <|
  (ZrG big ((min x_.length (List.replicate ((IntKind.wrap .i64 lo)).toNat (ZoR.mk false ([]:Str))).length:Nat):Int) (x_.take (List.replicate ((IntKind.wrap .i64 lo)).toNat (ZoR.mk false ([]:Str))).length++(List.replicate ((IntKind.wrap .i64 lo)).toNat (ZoR.mk false ([]:Str))).drop x_.length)).bind fun x0=>Zva x0
 )
def ZpN (x_:ZwZ) (count:Int):Option ZwZ:=
 bif (decide (count < 0))then (
  none
 )else (
  (ZDl (IntKind.wrap .u64 (x_.length:Int)) (IntKind.wrap .u64 count)).bind fun(hi,lo)=>
  bif (decide (hi > 0))then (
   ZrH x_ lo true
  )else (
   ZrH x_ lo (decide (lo > 9223372036854775807))
  )
 )
def Zx7 (t6:Int) (t6_1:Str) (out:Int) (out_1:Str) (t6_2:Zo3) (out_2:Zo3) (out_lo:Nat):ZEU:=
 some ((ZoF.mk out out_1 out_2),0)
def Ztf (rec_:Tf_5) (i:Int) (below:ZwZ) (t77:ZoK) (t78:Int) (i_1:Int) (b:ZoF) (t6:Int) (t6_1:Str) (out:Int) (out_1:Str) (t6_2:Zo3) (out_2:Zo3) (out_lo:Nat):ZHP:=
 chk (inR i (out_2.length:Int)) <|
 (out_2[(i).toNat]?).bind fun out_e=>
 chk (decide ((i).toNat < out_lo)) <|
 chk (ZjC (out_e.Cells.length+below.length) 24) <|
 chk (inR i (out_2.length:Int)) <|
 chk (decide ((i).toNat=(i).toNat∧(i).toNat < out_lo)) <|
 (out_2[(i).toNat]?).bind fun el=>
 chk (inK .i64 (i_1+1)) <|
 rec_ t77 t78 (i_1+1) b t6 t6_1 out out_1 t6_2 (out_2.set ((i).toNat) (ZoL.mk el.Name (out_e.Cells++below))) out_lo
def Zua (rec_:Tf_5) (t77:ZoK) (t78:Int) (i:Int) (b:ZoF) (t6:Int) (t6_1:Str) (out:Int) (out_1:Str) (t6_2:Zo3) (out_2:Zo3) (out_lo:Nat):ZHP:=
 bif (decide (i < t78))then (
  (idx t77 i).bind fun k=>
  (ZxA b).bind fun q=>
  (ZpN ([(ZoR.mk true ([]:Str))]:ZwZ) q).bind fun below=>
  bif (decide (k≥0))then (
   (idx b.Columns k).bind fun Column=>
   Ztf rec_ i Column.Cells t77 t78 i b t6 t6_1 out out_1 t6_2 out_2 out_lo
  )else (
   Ztf rec_ i below t77 t78 i b t6 t6_1 out out_1 t6_2 out_2 out_lo
  )
 )else (
  some (t6,t6_1,out,out_1,t6_2,out_2,out_lo)
 )
def Ztc:Nat→ZoK→Int→Int→ZoF→Int→Str→Int→Str→Zo3→Zo3→Nat→ZHP
 |0,_,_,_,_,_,_,_,_,_,_,_=>none
 |n_+1,t77,t78,i,b,t6,t6_1,out,out_1,t6_2,out_2,out_lo=>Zua (Ztc n_) t77 t78 i b t6 t6_1 out out_1 t6_2 out_2 out_lo
def Zz1 (n:Nat) (s:(ZoK×Int×Int×ZoF×Int×Str×Int×Str×Zo3×Zo3×Nat)):ZHP:=Ztc n s.1 s.2.1 s.2.2.1 s.2.2.2.1 s.2.2.2.2.1 s.2.2.2.2.2.1 s.2.2.2.2.2.2.1 s.2.2.2.2.2.2.2.1 s.2.2.2.2.2.2.2.2.1 s.2.2.2.2.2.2.2.2.2.1 s.2.2.2.2.2.2.2.2.2.2
def Zxe (rec_:(ZoK×Int×Int×ZoF×Int×Str×Int×Str×Zo3×Zo3×Nat)→ZHP) (s:(ZoK×Int×Int×ZoF×Int×Str×Int×Str×Zo3×Zo3×Nat)):ZHP:=Zua (fun t77 t78 i b t6 t6_1 out out_1 t6_2 out_2 out_lo=>rec_ (t77,t78,i,b,t6,t6_1,out,out_1,t6_2,out_2,out_lo)) s.1 s.2.1 s.2.2.1 s.2.2.2.1 s.2.2.2.2.1 s.2.2.2.2.2.1 s.2.2.2.2.2.2.1 s.2.2.2.2.2.2.2.1 s.2.2.2.2.2.2.2.2.1 s.2.2.2.2.2.2.2.2.2.1 s.2.2.2.2.2.2.2.2.2.2
theorem ZCi:∀n s,Zz1 (n+1) s=Zxe (Zz1 n) s:=fun _ _=>rfl
def Zx8 (align:ZoK) (a:ZoF) (b:ZoF) (t6:Int) (t6_1:Str) (t6_2:Zo3):ZEU:=
 (ZxA a).bind fun q=>
 (ZxA b).bind fun q_1=>
 chk (inK .i64 (q+q_1)) <|
 bif (decide ((q+q_1) > 4096))then (
  some ((ZoF.mk 0 ([]:Str) ([]:Zo3)),3)
 )else (
  (ZBU a).bind fun(out,out_lo)=>
  (Ztc big align (align.length:Int) (0:Int) b t6 t6_1 out.ID out.Name t6_2 out.Columns out_lo).bind fun(x0,x1,x2,x3,x4,x5,x6)=>Zx7 x0 x1 x2 x3 x4 x5 x6
 )
def ZvL (rec_:ZR6) (align:ZoK) (t50:ZoK) (t51:Int) (i:Int) (t65:Bool) (a:ZoF) (b:ZoF) (t6:Int) (t6_1:Str) (t6_2:Zo3):ZJv:=
 bif t65 then (
  some (.ret ((ZoF.mk 0 ([]:Str) ([]:Zo3)),6))
 )else (
  chk (inK .i64 (i+1)) <|
  rec_ align t50 t51 (i+1) a b t6 t6_1 t6_2
 )
def Zub (rec_:ZR6) (align:ZoK) (t50:ZoK) (t51:Int) (i:Int) (a:ZoF) (b:ZoF) (t6:Int) (t6_1:Str) (t6_2:Zo3):ZJv:=
 bif (decide (i < t51))then (
  (idx t50 i).bind fun k=>
  bif (decide (k≥0))then (
   chk (Zcp 0 i (align.length:Int)) <|
   (ZtV (align.take (i).toNat) k).bind fun q=>
   ZvL rec_ align t50 t51 i q a b t6 t6_1 t6_2
  )else (
   ZvL rec_ align t50 t51 i false a b t6 t6_1 t6_2
  )
 )else (
  some (.brk (align,a,b,t6,t6_1,t6_2))
 )
def Ztd:Nat→ZoK→ZoK→Int→Int→ZoF→ZoF→Int→Str→Zo3→ZJv
 |0,_,_,_,_,_,_,_,_,_=>none
 |n_+1,align,t50,t51,i,a,b,t6,t6_1,t6_2=>Zub (Ztd n_) align t50 t51 i a b t6 t6_1 t6_2
def Zz2 (n:Nat) (s:(ZoK×ZoK×Int×Int×ZoF×ZoF×Int×Str×Zo3)):ZJv:=Ztd n s.1 s.2.1 s.2.2.1 s.2.2.2.1 s.2.2.2.2.1 s.2.2.2.2.2.1 s.2.2.2.2.2.2.1 s.2.2.2.2.2.2.2.1 s.2.2.2.2.2.2.2.2
def Zxf (rec_:Tf_8) (s:(ZoK×ZoK×Int×Int×ZoF×ZoF×Int×Str×Zo3)):ZJv:=Zub (fun align t50 t51 i a b t6 t6_1 t6_2=>rec_ (align,t50,t51,i,a,b,t6,t6_1,t6_2)) s.1 s.2.1 s.2.2.1 s.2.2.2.1 s.2.2.2.2.1 s.2.2.2.2.2.1 s.2.2.2.2.2.2.1 s.2.2.2.2.2.2.2.1 s.2.2.2.2.2.2.2.2
theorem ZCj:∀n s,Zz2 (n+1) s=Zxf (Zz2 n) s:=fun _ _=>rfl
def Zx9 (align:ZoK) (a:ZoF) (b:ZoF) (t6:Int) (t6_1:Str) (t6_2:Zo3):ZEU:=
 (Ztd big align align (align.length:Int) (0:Int) a b t6 t6_1 t6_2).bind fun
  | .ret q_=>some q_
  | .brk (x0,x1,x2,x3,x4,x5)=>Zx8 x0 x1 x2 x3 x4 x5
def ZvM (rec_:ZR6) (align:ZoK) (t33:ZoK) (t34:Int) (t35:Int) (t47:Bool) (a:ZoF) (b:ZoF) (t6:Int) (t6_1:Str) (t6_2:Zo3):ZJv:=
 bif t47 then (
  some (.ret ((ZoF.mk 0 ([]:Str) ([]:Zo3)),2))
 )else (
  chk (inK .i64 (t35+1)) <|
  rec_ align t33 t34 (t35+1) a b t6 t6_1 t6_2
 )
def Zuc (rec_:ZR6) (align:ZoK) (t33:ZoK) (t34:Int) (t35:Int) (a:ZoF) (b:ZoF) (t6:Int) (t6_1:Str) (t6_2:Zo3):ZJv:=
 bif (decide (t35 < t34))then (
  (idx t33 t35).bind fun k=>
  bif (decide (k < (-1)))then (
   ZvM rec_ align t33 t34 t35 true a b t6 t6_1 t6_2
  )else (
   ZvM rec_ align t33 t34 t35 (decide (k≥(b.Columns.length:Int))) a b t6 t6_1 t6_2
  )
 )else (
  some (.brk (align,a,b,t6,t6_1,t6_2))
 )
def Zte:Nat→ZoK→ZoK→Int→Int→ZoF→ZoF→Int→Str→Zo3→ZJv
 |0,_,_,_,_,_,_,_,_,_=>none
 |n_+1,align,t33,t34,t35,a,b,t6,t6_1,t6_2=>Zuc (Zte n_) align t33 t34 t35 a b t6 t6_1 t6_2
def Zz3 (n:Nat) (s:(ZoK×ZoK×Int×Int×ZoF×ZoF×Int×Str×Zo3)):ZJv:=Zte n s.1 s.2.1 s.2.2.1 s.2.2.2.1 s.2.2.2.2.1 s.2.2.2.2.2.1 s.2.2.2.2.2.2.1 s.2.2.2.2.2.2.2.1 s.2.2.2.2.2.2.2.2
def Zxg (rec_:Tf_8) (s:(ZoK×ZoK×Int×Int×ZoF×ZoF×Int×Str×Zo3)):ZJv:=Zuc (fun align t33 t34 t35 a b t6 t6_1 t6_2=>rec_ (align,t33,t34,t35,a,b,t6,t6_1,t6_2)) s.1 s.2.1 s.2.2.1 s.2.2.2.1 s.2.2.2.2.1 s.2.2.2.2.2.1 s.2.2.2.2.2.2.1 s.2.2.2.2.2.2.2.1 s.2.2.2.2.2.2.2.2
theorem ZCk:∀n s,Zz3 (n+1) s=Zxg (Zz3 n) s:=fun _ _=>rfl
def Ztg (align:ZoK) (t31:Bool) (a:ZoF) (b:ZoF) (t6:Int) (t6_1:Str) (t6_2:Zo3):ZEU:=
 bif t31 then (
  some ((ZoF.mk 0 ([]:Str) ([]:Zo3)),1)
 )else (
  (Zte big align align (align.length:Int) (0:Int) a b t6 t6_1 t6_2).bind fun
   | .ret q_=>some q_
   | .brk (x0,x1,x2,x3,x4,x5)=>Zx9 x0 x1 x2 x3 x4 x5
 )
def Zvf (a:ZoF) (b:ZoF) (align:ZoK):ZEU:=
 (ZrS a).bind fun q=>
 bif (!q)then (
  Ztg align true a b (0:Int) ([]:Str) ([]:Zo3)
 )else (
  (ZrS b).bind fun q_1=>
  bif (!q_1)then (
   Ztg align true a b (0:Int) ([]:Str) ([]:Zo3)
  )else (
   Ztg align ((align.length:Int) != (a.Columns.length:Int)) a b (0:Int) ([]:Str) ([]:Zo3)
  )
 )
def Zt0:Option Bool:=
 some true
def ZqH (rec_:ZoK→ZoK→Int→Int→Zr8) (b:ZoK) (t12:ZoK) (t13:Int) (i:Int):Zr8:=
 bif (decide (i < t13))then (
  (idx t12 i).bind fun n=>
  (idx b i).bind fun b_e=>
  bif (b_e != n)then (
   some (.ret false)
  )else (
   chk (inK .i64 (i+1)) <|
   rec_ b t12 t13 (i+1)
  )
 )else (
  some (.brk ())
 )
def Zrk:Nat→ZoK→ZoK→Int→Int→Zr8
 |0,_,_,_,_=>none
 |n_+1,b,t12,t13,i=>ZqH (Zrk n_) b t12 t13 i
def Zw0 (n:Nat) (s:(ZoK×ZoK×Int×Int)):Zr8:=Zrk n s.1 s.2.1 s.2.2.1 s.2.2.2
def ZsV (rec_:(ZoK×ZoK×Int×Int)→Zr8) (s:(ZoK×ZoK×Int×Int)):Zr8:=ZqH (fun b t12 t13 i=>rec_ (b,t12,t13,i)) s.1 s.2.1 s.2.2.1 s.2.2.2
theorem ZAd:∀n s,Zw0 (n+1) s=ZsV (Zw0 n) s:=fun _ _=>rfl
def ZpA (a:ZoK) (b:ZoK):Option Bool:=
 bif ((a.length:Int) != (b.length:Int))then (
  some false
 )else (
  (Zrk big b a (a.length:Int) (0:Int)).bind fun
   | .ret q_=>some q_
   | .brk ()=>Zt0
 )
def Zzy (w_:ZoK):Option ZoK:=
 some w_
def Zv8 (rec_:ZKK) (w_:ZoK) (t14:Bool):Option ZoK:=
 bif t14 then (
  chk (inK .i64 ((w_.length:Int) - 1)) <|
  chk (Zcp 0 ((w_.length:Int) - 1) (w_.length:Int)) <|
  rec_ (w_.take (((w_.length:Int) - 1)).toNat)
 )else (
  some w_
 )
def Zyx (rec_:ZKK) (w_:ZoK):Option ZoK:=
 bif (decide ((w_.length:Int) > 0))then (
  chk (inK .i64 ((w_.length:Int) - 1)) <|
  (idx w_ ((w_.length:Int) - 1)).bind fun w__e=>
  Zv8 rec_ w_ (w__e == 0)
 )else (
  Zv8 rec_ w_ false
 )
def ZpG:Nat→ZoK→Option ZoK
 |0,_=>none
 |n_+1,w_=>Zyx (ZpG n_) w_
def Zpm (w_:ZoK):Option ZoK:=
 (ZpG big w_).bind fun x0=>Zzy x0
def ZtQ (t4:ZoN):Option ZoN:=
 some t4
def Zpc (neg:Bool) (w_:ZoK):Option ZoN:=
 (Zpm w_).bind fun w__1=>
 bif neg then (
  ZtQ (ZoN.mk (decide ((w__1.length:Int) > 0)) w__1)
 )else (
  ZtQ (ZoN.mk false w__1)
 )
def ZrR (n:Int) (u:Int) (t2:Bool) (t2_1:ZoK):Option ZoN:=
 chk (decide (0≤(32:Int))) <|
 (Zpc (decide (n < 0)) ([(IntKind.wrap .u32 u),(IntKind.wrap .u32 (shrK .u64 u 32))]:ZoK)).bind fun q=>
 some q
def Zqc (n:Int):Option ZoN:=
 bif (decide (n < 0))then (
  ZrR n (IntKind.wrap .u64 (0 - (IntKind.wrap .u64 n))) false ([]:ZoK)
 )else (
  ZrR n (IntKind.wrap .u64 n) false ([]:ZoK)
 )
def Zpo (t2:Bool):Option Bool:=
 some t2
def ZpZ (a:ZoN):Option Bool:=
 bif (decide ((a.Words.length:Int)≤256))then (
  bif ((a.Words.length:Int) == 0)then (
   bif (!a.Neg)then (
    Zpo true
   )else (
    bif (decide ((a.Words.length:Int) > 0))then (
     chk (inK .i64 ((a.Words.length:Int) - 1)) <|
     (idx a.Words ((a.Words.length:Int) - 1)).bind fun Word=>
     Zpo (Word != 0)
    )else (
     Zpo false
    )
   )
  )else (
   bif (decide ((a.Words.length:Int) > 0))then (
    chk (inK .i64 ((a.Words.length:Int) - 1)) <|
    (idx a.Words ((a.Words.length:Int) - 1)).bind fun Word_1=>
    Zpo (Word_1 != 0)
   )else (
    Zpo false
   )
  )
 )else (
  Zpo false
 )
def Zv9 (out:ZoK):Option ZoK:=
 (Zpm out).bind fun q=>
 some q
def Zrd (rec_:ZQM) (a:ZoK) (t9:Int) (i:Int) (out:ZoK):Option ZoK:=
 chk (inK .i64 (i+1)) <|
 rec_ a t9 (i+1) out
def Zsg (rec_:ZQM) (a:ZoK) (t9:Int) (i:Int) (out:ZoK):Option ZoK:=
 bif (decide (i < t9))then (
  chk (inR i (out.length:Int)) <|
  (out[(i).toNat]?).bind fun out_e=>
  chk (decide (0≤(1:Int))) <|
  chk (inR i (out.length:Int)) <|
  chk (inK .i64 (i+1)) <|
  bif (decide ((i+1) < (a.length:Int)))then (
   chk (inR i ((out.set ((i).toNat) (shrK .u32 out_e 1)).length:Int)) <|
   ((out.set ((i).toNat) (shrK .u32 out_e 1))[(i).toNat]?).bind fun e_e=>
   chk (inK .i64 (i+1)) <|
   (idx a (i+1)).bind fun a_e=>
   chk (decide (0≤(31:Int))) <|
   chk (inR i ((out.set ((i).toNat) (shrK .u32 out_e 1)).length:Int)) <|
   Zrd rec_ a t9 i ((out.set ((i).toNat) (shrK .u32 out_e 1)).set ((i).toNat) (orK .u32 e_e (shlK .u32 a_e 31)))
  )else (
   Zrd rec_ a t9 i (out.set ((i).toNat) (shrK .u32 out_e 1))
  )
 )else (
  some out
 )
def Zrc:Nat→ZoK→Int→Int→ZoK→Option ZoK
 |0,_,_,_,_=>none
 |n_+1,a,t9,i,out=>Zsg (Zrc n_) a t9 i out
def Zyy (n:Nat) (s:(ZoK×Int×Int×ZoK)):Option ZoK:=Zrc n s.1 s.2.1 s.2.2.1 s.2.2.2
def ZuT (rec_:(ZoK×Int×Int×ZoK)→Option ZoK) (s:(ZoK×Int×Int×ZoK)):Option ZoK:=Zsg (fun a t9 i out=>rec_ (a,t9,i,out)) s.1 s.2.1 s.2.2.1 s.2.2.2
theorem ZBl:∀n s,Zyy (n+1) s=ZuT (Zyy n) s:=fun _ _=>rfl
def Zqe (a:ZoK):Option ZoK:=
 chk (ZjC (([]:ZoK).length+a.length) 4) <|
 (Zrc big a ((([]:ZoK)++a).length:Int) (0:Int) (([]:ZoK)++a)).bind fun x0=>Zv9 x0
def ZwO:Option Int:=
 some (0:Int)
def Zsz (rec_:ZoK→ZoK→Int→ZAI) (a:ZoK) (b:ZoK) (i:Int):ZAI:=
 bif (decide (i≥0))then (
  (idx a i).bind fun a_e=>
  (idx b i).bind fun b_e=>
  bif (decide (a_e < b_e))then (
   some (.ret (-1:Int))
  )else (
   (idx a i).bind fun a_e_1=>
   (idx b i).bind fun b_e_1=>
   bif (decide (a_e_1 > b_e_1))then (
    some (.ret (1:Int))
   )else (
    chk (inK .i64 (i - 1)) <|
    rec_ a b (i - 1)
   )
  )
 )else (
  some (.brk ())
 )
def ZtP:Nat→ZoK→ZoK→Int→ZAI
 |0,_,_,_=>none
 |n_+1,a,b,i=>Zsz (ZtP n_) a b i
def ZyS (n:Nat) (s:(ZoK×ZoK×Int)):ZAI:=ZtP n s.1 s.2.1 s.2.2
def Zvs (rec_:(ZoK×ZoK×Int)→ZAI) (s:(ZoK×ZoK×Int)):ZAI:=Zsz (fun a b i=>rec_ (a,b,i)) s.1 s.2.1 s.2.2
theorem ZBG:∀n s,ZyS (n+1) s=Zvs (ZyS n) s:=fun _ _=>rfl
def ZpC (a:ZoK) (b:ZoK):Option Int:=
 bif ((a.length:Int) != (b.length:Int))then (
  bif (decide ((a.length:Int) < (b.length:Int)))then (
   some (-1:Int)
  )else (
   some (1:Int)
  )
 )else (
  chk (inK .i64 ((a.length:Int) - 1)) <|
  (ZtP big a b ((a.length:Int) - 1)).bind fun
   | .ret q_=>some q_
   | .brk ()=>ZwO
 )
def ZwF (out:ZoK):Option ZoK:=
 (Zpm out).bind fun q=>
 some q
def Zrz (rec_:ZLX) (a:ZoK) (b:ZoK) (c:Int) (i:Int) (out:ZoK):Option ZoK:=
 chk (ZjC (out.length+([(IntKind.wrap .u32 c)]:ZoK).length) 4) <|
 chk (decide (0≤(32:Int))) <|
 chk (inK .i64 (i+1)) <|
 rec_ a b (shrK .i64 c 32) (i+1) (out++([(IntKind.wrap .u32 c)]:ZoK))
def Zsv (rec_:ZLX) (a:ZoK) (b:ZoK) (c:Int) (i:Int) (out:ZoK):Option ZoK:=
 bif (decide (i < (a.length:Int)))then (
  (idx a i).bind fun a_e=>
  chk (inK .i64 (c+(IntKind.wrap .i64 a_e))) <|
  bif (decide (i < (b.length:Int)))then (
   (idx b i).bind fun b_e=>
   chk (inK .i64 ((c+(IntKind.wrap .i64 a_e)) - (IntKind.wrap .i64 b_e))) <|
   Zrz rec_ a b ((c+(IntKind.wrap .i64 a_e)) - (IntKind.wrap .i64 b_e)) i out
  )else (
   Zrz rec_ a b (c+(IntKind.wrap .i64 a_e)) i out
  )
 )else (
  some out
 )
def Zry:Nat→ZoK→ZoK→Int→Int→ZoK→Option ZoK
 |0,_,_,_,_,_=>none
 |n_+1,a,b,c,i,out=>Zsv (Zry n_) a b c i out
def ZyO (n:Nat) (s:(ZoK×ZoK×Int×Int×ZoK)):Option ZoK:=Zry n s.1 s.2.1 s.2.2.1 s.2.2.2.1 s.2.2.2.2
def Zvm (rec_:ZQR) (s:(ZoK×ZoK×Int×Int×ZoK)):Option ZoK:=Zsv (fun a b c i out=>rec_ (a,b,c,i,out)) s.1 s.2.1 s.2.2.1 s.2.2.2.1 s.2.2.2.2
theorem ZBC:∀n s,ZyO (n+1) s=Zvm (ZyO n) s:=fun _ _=>rfl
def Zqw (a:ZoK) (b:ZoK):Option ZoK:=
 (Zry big a b (0:Int) (0:Int) ([]:ZoK)).bind fun x0=>ZwF x0
def Zvl (d:Int) (out:ZoK):Option ZoK:=
 chk (ZjC (out.length+([d]:ZoK).length) 4) <|
 (Zpm (out++([d]:ZoK))).bind fun q=>
 some q
def ZrQ (rec_:ZoK→Int→Int→ZoK→Zzu) (a:ZoK) (d:Int) (i:Int) (out:ZoK):Zzu:=
 bif (decide (i < (a.length:Int)))then (
  (idx a i).bind fun a_e=>
  chk (decide (0≤(1:Int))) <|
  chk (ZjC (out.length+([(orK .u32 (shlK .u32 a_e 1) d)]:ZoK).length) 4) <|
  (idx a i).bind fun a_e_1=>
  chk (decide (0≤(31:Int))) <|
  chk (inK .i64 (i+1)) <|
  rec_ a (shrK .u32 a_e_1 31) (i+1) (out++([(orK .u32 (shlK .u32 a_e 1) d)]:ZoK))
 )else (
  some (d,out)
 )
def Zsu:Nat→ZoK→Int→Int→ZoK→Zzu
 |0,_,_,_,_=>none
 |n_+1,a,d,i,out=>ZrQ (Zsu n_) a d i out
def ZxW (n:Nat) (s:(ZoK×Int×Int×ZoK)):Zzu:=Zsu n s.1 s.2.1 s.2.2.1 s.2.2.2
def Zut (rec_:(ZoK×Int×Int×ZoK)→Zzu) (s:(ZoK×Int×Int×ZoK)):Zzu:=ZrQ (fun a d i out=>rec_ (a,d,i,out)) s.1 s.2.1 s.2.2.1 s.2.2.2
theorem ZA3:∀n s,ZxW (n+1) s=Zut (ZxW n) s:=fun _ _=>rfl
def Zr0 (a:ZoK) (d:Int):Option ZoK:=
 (Zsu big a d (0:Int) ([]:ZoK)).bind fun(x0,x1)=>Zvl x0 x1
def ZwI (a:ZoK):Option ZoK:=
 some a
def ZqN (rec_:ZoK→Int→Option ZoK) (a:ZoK) (k:Int):Option ZoK:=
 bif (decide (k > 0))then (
  (Zr0 a 0).bind fun a_1=>
  chk (inK .i64 (k - 1)) <|
  rec_ a_1 (k - 1)
 )else (
  some a
 )
def Zqs:Nat→ZoK→Int→Option ZoK
 |0,_,_=>none
 |n_+1,a,k=>ZqN (Zqs n_) a k
def ZwJ (a:ZoK) (k:Int):Option ZoK:=
 (Zqs big a k).bind fun x0=>ZwI x0
def ZtN (rec_:ZLV) (a:ZoK) (b:ZoK) (k:Int):ZHg:=
 (Zqw b a).bind fun b_1=>
 rec_ a b_1 k
def ZwK (rec_:ZLV) (a:ZoK) (b:ZoK) (k:Int):ZHg:=
 (ZpC a b).bind fun q=>
 bif (decide (q > 0))then (
  ZtN rec_ b a k
 )else (
  ZtN rec_ a b k
 )
def Zvp (rec_:ZLU) (a:ZoK) (b:ZoK) (k:Int):ZHh:=
 (idx b 0).bind fun b_e=>
 bif ((andK .u32 b_e 1) == 0)then (
  (Zqe b).bind fun b_1=>
  rec_ a b_1 k
 )else (
  some (a,b,k)
 )
def Zpv:Nat→ZoK→ZoK→Int→ZHh
 |0,_,_,_=>none
 |n_+1,a,b,k=>Zvp (Zpv n_) a b k
def ZwL (rec_:ZLV) (a:ZoK) (b:ZoK) (k:Int):ZHg:=
 (Zpv big a b k).bind fun(x0,x1,x2)=>ZwK rec_ x0 x1 x2
def ZqO (rec_:ZLU) (a:ZoK) (b:ZoK) (k:Int):ZHh:=
 (idx a 0).bind fun a_e=>
 bif ((andK .u32 a_e 1) == 0)then (
  (Zqe a).bind fun a_1=>
  rec_ a_1 b k
 )else (
  some (a,b,k)
 )
def Zpw:Nat→ZoK→ZoK→Int→ZHh
 |0,_,_,_=>none
 |n_+1,a,b,k=>ZqO (Zpw n_) a b k
def ZqP (rec_:ZLV) (a:ZoK) (b:ZoK) (k:Int):ZHg:=
 bif (decide ((b.length:Int) > 0))then (
  (Zpw big a b k).bind fun(x0,x1,x2)=>ZwL rec_ x0 x1 x2
 )else (
  some (a,k)
 )
def Zo6:Nat→ZoK→ZoK→Int→ZHg
 |0,_,_,_=>none
 |n_+1,a,b,k=>ZqP (Zo6 n_) a b k
def ZwM (a:ZoK) (b:ZoK) (k:Int):Option ZoK:=
 (Zo6 big a b k).bind fun(x0,x1)=>ZwJ x0 x1
def ZtO (rec_:ZLU) (a:ZoK) (b:ZoK) (k:Int) (t17:Bool):ZHh:=
 bif t17 then (
  (Zqe a).bind fun a_1=>
  (Zqe b).bind fun b_1=>
  chk (inK .i64 (k+1)) <|
  rec_ a_1 b_1 (k+1)
 )else (
  some (a,b,k)
 )
def Zvq (rec_:ZLU) (a:ZoK) (b:ZoK) (k:Int):ZHh:=
 (idx a 0).bind fun a_e=>
 bif ((andK .u32 a_e 1) == 0)then (
  (idx b 0).bind fun b_e=>
  ZtO rec_ a b k ((andK .u32 b_e 1) == 0)
 )else (
  ZtO rec_ a b k false
 )
def Zqt:Nat→ZoK→ZoK→Int→ZHh
 |0,_,_,_=>none
 |n_+1,a,b,k=>Zvq (Zqt n_) a b k
def Zti (a:ZoK) (b:ZoK):Option ZoK:=
 (Zqt big a b (0:Int)).bind fun(x0,x1,x2)=>ZwM x0 x1 x2
def ZvT (a:ZoK) (i:Int):Option Int:=
 chk (decide ((32:Int)≠0)) <|
 chk (inK .i64 (Int.tdiv i 32)) <|
 (idx a (Int.tdiv i 32)).bind fun a_e=>
 chk (decide ((32:Int)≠0)) <|
 chk (decide (0≤(IntKind.wrap .u64 (Int.tmod i 32)))) <|
 some (andK .u32 (shrK .u32 a_e (IntKind.wrap .u64 (Int.tmod i 32))) 1)
def ZwN (r_:ZoK) (q:ZoK):ZET:=
 (Zpm q).bind fun q_1=>
 some (q_1,r_)
def ZrC (rec_:ZQO) (a:ZoK) (b:ZoK) (r_:ZoK) (i:Int) (q:ZoK):ZET:=
 chk (inK .i64 (i - 1)) <|
 rec_ a b r_ (i - 1) q
def Zsy (rec_:ZQO) (a:ZoK) (b:ZoK) (r_:ZoK) (i:Int) (q:ZoK):ZET:=
 bif (decide (i≥0))then (
  (ZvT a i).bind fun q_1=>
  (Zr0 r_ q_1).bind fun r__1=>
  (ZpC r__1 b).bind fun q_2=>
  bif (decide (q_2≥0))then (
   (Zqw r__1 b).bind fun r__2=>
   chk (decide ((32:Int)≠0)) <|
   chk (inK .i64 (Int.tdiv i 32)) <|
   chk (inR (Int.tdiv i 32) (q.length:Int)) <|
   (q[((Int.tdiv i 32)).toNat]?).bind fun q_e=>
   chk (decide ((32:Int)≠0)) <|
   chk (decide (0≤(IntKind.wrap .u64 (Int.tmod i 32)))) <|
   chk (inR (Int.tdiv i 32) (q.length:Int)) <|
   ZrC rec_ a b r__2 i (q.set (((Int.tdiv i 32)).toNat) (orK .u32 q_e (shlK .u32 1 (IntKind.wrap .u64 (Int.tmod i 32)))))
  )else (
   ZrC rec_ a b r__1 i q
  )
 )else (
  some (r_,q)
 )
def ZrB:Nat→ZoK→ZoK→ZoK→Int→ZoK→ZET
 |0,_,_,_,_,_=>none
 |n_+1,a,b,r_,i,q=>Zsy (ZrB n_) a b r_ i q
def ZyR (n:Nat) (s:(ZoK×ZoK×ZoK×Int×ZoK)):ZET:=ZrB n s.1 s.2.1 s.2.2.1 s.2.2.2.1 s.2.2.2.2
def Zvr (rec_:(ZoK×ZoK×ZoK×Int×ZoK)→ZET) (s:(ZoK×ZoK×ZoK×Int×ZoK)):ZET:=Zsy (fun a b r_ i q=>rec_ (a,b,r_,i,q)) s.1 s.2.1 s.2.2.1 s.2.2.2.1 s.2.2.2.2
theorem ZBF:∀n s,ZyR (n+1) s=Zvr (ZyR n) s:=fun _ _=>rfl
def Ztj (a:ZoK) (b:ZoK):ZET:=
 chk (mkOk (a.length:Int) (a.length:Int) 4) <|
 chk (inK .i64 (32*(a.length:Int))) <|
 chk (inK .i64 ((32*(a.length:Int)) - 1)) <|
 (ZrB big a b ([]:ZoK) ((32*(a.length:Int)) - 1) (List.replicate ((a.length:Int)).toNat (0:Int))).bind fun(x0,x1)=>ZwN x0 x1
def ZtM (num:ZoN) (den:ZoN):Option ZoG:=
 bif ((num.Words.length:Int) == 0)then (
  (Zqc 1).bind fun q=>
  some (ZoG.mk (ZoN.mk false ([]:ZoK)) q)
 )else (
  (Zti num.Words den.Words).bind fun g=>
  (Ztj num.Words g).bind fun(x_,q_1)=>
  (Ztj den.Words g).bind fun(y,q_2)=>
  (Zpc (!(num.Neg == den.Neg)) x_).bind fun q_3=>
  (Zpc false y).bind fun q_4=>
  some (ZoG.mk q_3 q_4)
 )
def Zs5 (t13:Bool) (num:ZoN) (den:ZoN) (t4:Bool) (t4_1:Bool) (t4_2:ZoK) (t4_3:ZoK):ZEV:=
 bif t13 then (
  some ((ZoG.mk (ZoN.mk false ([]:ZoK)) (ZoN.mk false ([]:ZoK))),1)
 )else (
  bif ((den.Words.length:Int) == 0)then (
   some ((ZoG.mk (ZoN.mk false ([]:ZoK)) (ZoN.mk false ([]:ZoK))),8)
  )else (
   (ZtM num den).bind fun q=>
   some (q,0)
  )
 )
def ZuV (num:ZoN) (den:ZoN):ZEV:=
 (ZpZ num).bind fun q=>
 bif (!q)then (
  Zs5 true num den false false ([]:ZoK) ([]:ZoK)
 )else (
  (ZpZ den).bind fun q_1=>
  Zs5 (!q_1) num den false false ([]:ZoK) ([]:ZoK)
 )
def Zwl (num:Int) (den:Int):ZEV:=
 (Zqc num).bind fun q=>
 (Zqc den).bind fun q_1=>
 (ZuV q q_1).bind fun(q_2,q_3)=>
 some (q_2,q_3)
def ZxB (n:Int) (d:Int):Option ZoG:=
 (Zwl n d).bind fun(f,q)=>
 some f
def ZtJ (n:Int) (d:Int):Option ZoG:=ZFR (ZxB n d)
def Zyc (n:Int):Option ZoG:=
 (ZtJ n 1).bind fun q=>
 some q
def ZrY (n:Int):Option ZoG:=ZFR (Zyc n)
def Zup:Option Bool:=
 some true
def ZqY (rec_:ZoK→Int→Int→ZoN→Zr8) (t22:ZoK) (t23:Int) (i:Int) (b:ZoN):Zr8:=
 bif (decide (i < t23))then (
  (idx t22 i).bind fun w_=>
  (idx b.Words i).bind fun Word=>
  bif (Word != w_)then (
   some (.ret false)
  )else (
   chk (inK .i64 (i+1)) <|
   rec_ t22 t23 (i+1) b
  )
 )else (
  some (.brk ())
 )
def ZrN:Nat→ZoK→Int→Int→ZoN→Zr8
 |0,_,_,_,_=>none
 |n_+1,t22,t23,i,b=>ZqY (ZrN n_) t22 t23 i b
def Zxj (n:Nat) (s:(ZoK×Int×Int×ZoN)):Zr8:=ZrN n s.1 s.2.1 s.2.2.1 s.2.2.2
def Ztu (rec_:(ZoK×Int×Int×ZoN)→Zr8) (s:(ZoK×Int×Int×ZoN)):Zr8:=ZqY (fun t22 t23 i b=>rec_ (t22,t23,i,b)) s.1 s.2.1 s.2.2.1 s.2.2.2
theorem ZAF:∀n s,Zxj (n+1) s=Ztu (Zxj n) s:=fun _ _=>rfl
def ZrO (t20:Bool) (a:ZoN) (b:ZoN):Option Bool:=
 bif t20 then (
  some false
 )else (
  (ZrN big a.Words (a.Words.length:Int) (0:Int) b).bind fun
   | .ret q_=>some q_
   | .brk ()=>Zup
 )
def Zra (a:ZoN) (b:ZoN):Option Bool:=
 bif (!(a.Neg == b.Neg))then (
  ZrO true a b
 )else (
  ZrO ((a.Words.length:Int) != (b.Words.length:Int)) a b
 )
def Zs2 (t4:Bool):Option Bool:=
 some t4
def Zps (a:ZoG) (b:ZoG):Option Bool:=
 (Zra a.Num b.Num).bind fun q=>
 bif q then (
  (Zra a.Den b.Den).bind fun q_1=>
  Zs2 q_1
 )else (
  Zs2 false
 )
def ZqZ (t:ZoF):Option Int:=
 bif ((t.Columns.length:Int) == 0)then (
  some (0:Int)
 )else (
  (idx t.Columns 0).bind fun Column=>
  some (Column.Cells.length:Int)
 )
def ZpB (t0:Bool):Option Bool:=
 some t0
def Zr2:Option Bool:=
 chk (inR 1 (([(ZoL.mk ([99,105,116,121]:Str) ([(ZoR.mk false ([120]:Str))]:ZwZ)),(ZoL.mk ([110,97,109,101]:Str) ([(ZoR.mk false ([121]:Str))]:ZwZ))]:Zo3).length:Int)) <|
 (([(ZoL.mk ([99,105,116,121]:Str) ([(ZoR.mk false ([120]:Str))]:ZwZ)),(ZoL.mk ([110,97,109,101]:Str) ([(ZoR.mk false ([121]:Str))]:ZwZ))]:Zo3)[((1:Int)).toNat]?).bind fun G_api_Column_e=>
 chk (inR 0 (([(ZoL.mk ([99,105,116,121]:Str) ([(ZoR.mk false ([120]:Str))]:ZwZ)),(ZoL.mk ([110,97,109,101]:Str) ([(ZoR.mk false ([121]:Str))]:ZwZ))]:Zo3).length:Int)) <|
 (([(ZoL.mk ([99,105,116,121]:Str) ([(ZoR.mk false ([120]:Str))]:ZwZ)),(ZoL.mk ([110,97,109,101]:Str) ([(ZoR.mk false ([121]:Str))]:ZwZ))]:Zo3)[((0:Int)).toNat]?).bind fun G_api_Column_e_1=>
 (ZqL (ZoF.mk 1 ([]:Str) ([(ZoL.mk ([99,105,116,121]:Str) ([(ZoR.mk false ([120]:Str))]:ZwZ)),(ZoL.mk ([110,97,109,101]:Str) ([(ZoR.mk false ([121]:Str))]:ZwZ))]:Zo3)) (ZoF.mk 2 ([]:Str) ([G_api_Column_e,G_api_Column_e_1]:Zo3))).bind fun(l,s,e)=>
 (Zvf (ZoF.mk 1 ([]:Str) ([(ZoL.mk ([99,105,116,121]:Str) ([(ZoR.mk false ([120]:Str))]:ZwZ)),(ZoL.mk ([110,97,109,101]:Str) ([(ZoR.mk false ([121]:Str))]:ZwZ))]:Zo3)) (ZoF.mk 2 ([]:Str) ([G_api_Column_e,G_api_Column_e_1]:Zo3)) ([1,0]:ZoK)).bind fun(t,f)=>
 bif (e == 0)then (
  bif (f == 0)then (
   (ZpA l ([1,0]:ZoK)).bind fun q=>
   bif q then (
    (ZrY 1).bind fun q_1=>
    (Zps s q_1).bind fun q_2=>
    bif q_2 then (
     (ZqZ t).bind fun q_3=>
     ZpB (q_3 == 2)
    )else (
     ZpB false
    )
   )else (
    ZpB false
   )
  )else (
   ZpB false
  )
 )else (
  ZpB false
 )
def ZyW (t:ZoK):Option ZoH:=
 some (ZoH.mk t 0)
def Zrh (n:Int) (m:Int):Option Int:=
 bif (decide (m < 1))then (
  some (0:Int)
 )else (
  chk (decide (m≠0)) <|
  chk (inK .i64 ((Int.tmod n m)+m)) <|
  chk (decide (m≠0)) <|
  some (Int.tmod ((Int.tmod n m)+m) m)
 )
def ZoP (d:ZoH) (n:Int):Option (Int×ZoH):=
 bif (decide (d.at_≥(d.l.length:Int)))then (
  some (0,d)
 )else (
  chk (inK .i64 (d.at_+1)) <|
  chk (inK .i64 ((d.at_+1) - 1)) <|
  (idx d.l ((d.at_+1) - 1)).bind fun l_e=>
  (Zrh l_e n).bind fun q=>
  some (q,(ZoH.mk d.l (d.at_+1)))
 )
def Zo9 (d:ZoH) (l:ZCd):Option (Str×ZoH):=
 (ZoP d (l.length:Int)).bind fun(q,t6)=>
 (idx l q).bind fun l_e=>
 some (l_e,t6)
def Zt4 (d:ZoH):ZQF:=
 (ZoP d 7).bind fun(q,t3)=>
 bif (q == 1)then (
  some ((ZoR.mk true ([]:Str)),t3)
 )else (
  (Zo9 t3 ([([97]:Str),([98]:Str),([99]:Str),([49]:Str),([50]:Str),([51]:Str),([49,48]:Str),([120]:Str),([45,49,46,53]:Str),([50]:Str)]:ZCd)).bind fun(q_1,t7)=>
  some ((ZoR.mk false q_1),t7)
 )
def Zx2 (n:Int):Option Str:=
 some (Lib.itoa n)
def ZsC (d:ZoH):ZQF:=
 (ZoP d 9).bind fun(q,t3)=>
 bif (q == 1)then (
  some ((ZoR.mk true ([]:Str)),t3)
 )else (
  bif (q == 2)then (
   (Zo9 t3 ([([120]:Str),([]:Str),([49,46,50,46,51]:Str),([49,46,53,48]:Str)]:ZCd)).bind fun(q_1,t10)=>
   some ((ZoR.mk false q_1),t10)
  )else (
   (ZoP t3 12).bind fun(q_2,t14)=>
   chk (inK .i64 (q_2 - 3)) <|
   (Zx2 (q_2 - 3)).bind fun q_3=>
   some ((ZoR.mk false q_3),t14)
  )
 )
def Zwb (d:ZoH) (t4:Str) (c:Str) (t4_1:ZwZ) (c_1:ZwZ):ZQG:=
 some ((ZoL.mk c c_1),d)
def ZpH (rec_:ZQZ) (kind:Int) (t15:Int) (i:Int) (d:ZoH) (t4:Str) (c:Str) (x_:ZoR) (t4_1:ZwZ) (c_1:ZwZ):ZHQ:=
 chk (ZjC (c_1.length+([x_]:ZwZ).length) 24) <|
 chk (inK .i64 (i+1)) <|
 rec_ kind t15 (i+1) d t4 c t4_1 (c_1++([x_]:ZwZ))
def Zsh (rec_:ZQZ) (kind:Int) (t15:Int) (i:Int) (d:ZoH) (t4:Str) (c:Str) (t4_1:ZwZ) (c_1:ZwZ):ZHQ:=
 bif (decide (i < t15))then (
  (Zt4 d).bind fun(x_,t19)=>
  bif (kind == 0)then (
   (ZsC t19).bind fun(x__1,t24)=>
   ZpH rec_ kind t15 i t24 t4 c x__1 t4_1 c_1
  )else (
   bif (kind == 1)then (
    (Zx2 i).bind fun q=>
    chk (decide (([107]:Str).length+q.length≤Zr)) <|
    ZpH rec_ kind t15 i t19 t4 c (ZoR.mk false (([107]:Str)++q)) t4_1 c_1
   )else (
    bif (kind == 2)then (
     (Zo9 t19 ([([97]:Str),([98]:Str),([99]:Str),([100]:Str)]:ZCd)).bind fun(q_1,t34)=>
     ZpH rec_ kind t15 i t34 t4 c (ZoR.mk false q_1) t4_1 c_1
    )else (
     ZpH rec_ kind t15 i t19 t4 c x_ t4_1 c_1
    )
   )
  )
 )else (
  some (d,t4,c,t4_1,c_1)
 )
def Zrf:Nat→Int→Int→Int→ZoH→Str→Str→ZwZ→ZwZ→ZHQ
 |0,_,_,_,_,_,_,_,_=>none
 |n_+1,kind,t15,i,d,t4,c,t4_1,c_1=>Zsh (Zrf n_) kind t15 i d t4 c t4_1 c_1
def ZyB (n:Nat) (s:(Int×Int×Int×ZoH×Str×Str×ZwZ×ZwZ)):ZHQ:=Zrf n s.1 s.2.1 s.2.2.1 s.2.2.2.1 s.2.2.2.2.1 s.2.2.2.2.2.1 s.2.2.2.2.2.2.1 s.2.2.2.2.2.2.2
def ZuX (rec_:(Int×Int×Int×ZoH×Str×Str×ZwZ×ZwZ)→ZHQ) (s:(Int×Int×Int×ZoH×Str×Str×ZwZ×ZwZ)):ZHQ:=Zsh (fun kind t15 i d t4 c t4_1 c_1=>rec_ (kind,t15,i,d,t4,c,t4_1,c_1)) s.1 s.2.1 s.2.2.1 s.2.2.2.1 s.2.2.2.2.1 s.2.2.2.2.2.1 s.2.2.2.2.2.2.1 s.2.2.2.2.2.2.2
theorem ZBn:∀n s,ZyB (n+1) s=ZuX (ZyB n) s:=fun _ _=>rfl
def ZsE (d:ZoH) (rows:Int):ZQG:=
 (Zo9 d ([([105,100]:Str),([110,97,109,101]:Str),([85,110,105,116,32,80,114,105,99,101]:Str),([99,105,116,121]:Str),([117,110,105,116]:Str),([112,114,105,99,101]:Str),([105,100,50]:Str),([]:Str)]:ZCd)).bind fun(q,t9)=>
 (ZoP t9 5).bind fun(kind,t13)=>
 (Zrf big kind rows (0:Int) t13 ([]:Str) q ([]:ZwZ) ([]:ZwZ)).bind fun(x0,x1,x2,x3,x4)=>Zwb x0 x1 x2 x3 x4
def ZtT (d:ZoH) (t4:Int) (t4_1:Str) (t:Int) (t_1:Str) (t4_2:Zo3) (t_2:Zo3):ZKJ:=
 some ((ZoF.mk t t_1 t_2),d)
def ZwQ (d:ZoH) (t4:Int) (t4_1:Str) (t:Int) (t_1:Str) (t4_2:Zo3) (t_2:Zo3):ZKJ:=
 (ZoP d 15).bind fun(q,t30)=>
 bif (q == 1)then (
  ZtT t30 t4 t4_1 t t_1 t4_2 ([]:Zo3)
 )else (
  ZtT t30 t4 t4_1 t t_1 t4_2 t_2
 )
def Zvu (rec_:Int→Int→ZoH→Int→Str→Int→Str→Zo3→Zo3→ZJq) (rows:Int) (k:Int) (d:ZoH) (t4:Int) (t4_1:Str) (t:Int) (t_1:Str) (t4_2:Zo3) (t_2:Zo3):ZJq:=
 bif (decide (k > 0))then (
  (ZsE d rows).bind fun(q,t24)=>
  chk (ZjC (t_2.length+([q]:Zo3).length) 40) <|
  chk (inK .i64 (k - 1)) <|
  rec_ rows (k - 1) t24 t4 t4_1 t t_1 t4_2 (t_2++([q]:Zo3))
 )else (
  some (d,t4,t4_1,t,t_1,t4_2,t_2)
 )
def ZtS:Nat→Int→Int→ZoH→Int→Str→Int→Str→Zo3→Zo3→ZJq
 |0,_,_,_,_,_,_,_,_,_=>none
 |n_+1,rows,k,d,t4,t4_1,t,t_1,t4_2,t_2=>Zvu (ZtS n_) rows k d t4 t4_1 t t_1 t4_2 t_2
def ZyU (n:Nat) (s:(Int×Int×ZoH×Int×Str×Int×Str×Zo3×Zo3)):ZJq:=ZtS n s.1 s.2.1 s.2.2.1 s.2.2.2.1 s.2.2.2.2.1 s.2.2.2.2.2.1 s.2.2.2.2.2.2.1 s.2.2.2.2.2.2.2.1 s.2.2.2.2.2.2.2.2
def ZyV (rec_:(Int×Int×ZoH×Int×Str×Int×Str×Zo3×Zo3)→ZJq) (s:(Int×Int×ZoH×Int×Str×Int×Str×Zo3×Zo3)):ZJq:=Zvu (fun rows k d t4 t4_1 t t_1 t4_2 t_2=>rec_ (rows,k,d,t4,t4_1,t,t_1,t4_2,t_2)) s.1 s.2.1 s.2.2.1 s.2.2.2.1 s.2.2.2.2.1 s.2.2.2.2.2.1 s.2.2.2.2.2.2.1 s.2.2.2.2.2.2.2.1 s.2.2.2.2.2.2.2.2
theorem ZBI:∀n s,ZyU (n+1) s=ZyV (ZyU n) s:=fun _ _=>rfl
def Zrq (d:ZoH) (id:Int):ZKJ:=
 (Zo9 d ([([116]:Str),([111,114,100,101,114,115]:Str),([]:Str)]:ZCd)).bind fun(q,t9)=>
 (ZoP t9 7).bind fun(rows,t13)=>
 (ZoP t13 3).bind fun(q_1,t15)=>
 chk (inK .i64 (1+q_1)) <|
 (ZtS big rows (1+q_1) t15 (0:Int) ([]:Str) id q ([]:Zo3) ([]:Zo3)).bind fun(x0,x1,x2,x3,x4,x5,x6)=>ZwQ x0 x1 x2 x3 x4 x5 x6
def Ztm (d:ZoH) (t4:Int) (t4_1:Int) (t4_2:Str) (t4_3:ZoK):ZJh:=
 some ((ZoY.mk t4 t4_1 t4_2 t4_3),d)
def Zqx (d:ZoH) (t4:Int) (t4_1:Int) (t4_2:Str) (o:Int) (o_1:Int) (o_2:Str) (t4_3:ZoK) (o_3:ZoK):ZJh:=
 Ztm d o o_1 o_2 o_3
def Zye (d:ZoH) (t4:Int) (t4_1:Int) (t4_2:Str) (o:Int) (o_1:Int) (o_2:Str) (t4_3:ZoK) (o_3:ZoK):ZJh:=
 Ztm d o o_1 o_2 o_3
def ZvV (rec_:Tf_4) (n:Int) (k:Int) (t83:Bool) (d:ZoH) (t4:Int) (t4_1:Int) (t4_2:Str) (o:Int) (o_1:Int) (o_2:Str) (t4_3:ZoK) (o_3:ZoK):ZNZ:=
 bif t83 then (
  (ZoP d n).bind fun(q,t88)=>
  chk (ZjC (o_3.length+([q]:ZoK).length) 8) <|
  chk (inK .i64 (k - 1)) <|
  rec_ n (k - 1) t88 t4 t4_1 t4_2 o o_1 o_2 t4_3 (o_3++([q]:ZoK))
 )else (
  some (d,t4,t4_1,t4_2,o,o_1,o_2,t4_3,o_3)
 )
def Zxl (rec_:Tf_4) (n:Int) (k:Int) (d:ZoH) (t4:Int) (t4_1:Int) (t4_2:Str) (o:Int) (o_1:Int) (o_2:Str) (t4_3:ZoK) (o_3:ZoK):ZNZ:=
 bif (decide (k > 0))then (
  ZvV rec_ n k (decide (n > 0)) d t4 t4_1 t4_2 o o_1 o_2 t4_3 o_3
 )else (
  ZvV rec_ n k false d t4 t4_1 t4_2 o o_1 o_2 t4_3 o_3
 )
def Ztl:Nat→Int→Int→ZoH→Int→Int→Str→Int→Int→Str→ZoK→ZoK→ZNZ
 |0,_,_,_,_,_,_,_,_,_,_,_=>none
 |n_+1,n,k,d,t4,t4_1,t4_2,o,o_1,o_2,t4_3,o_3=>Zxl (Ztl n_) n k d t4 t4_1 t4_2 o o_1 o_2 t4_3 o_3
def Zz6 (n:Nat) (s:(Int×Int×ZoH×Int×Int×Str×Int×Int×Str×ZoK×ZoK)):ZNZ:=Ztl n s.1 s.2.1 s.2.2.1 s.2.2.2.1 s.2.2.2.2.1 s.2.2.2.2.2.1 s.2.2.2.2.2.2.1 s.2.2.2.2.2.2.2.1 s.2.2.2.2.2.2.2.2.1 s.2.2.2.2.2.2.2.2.2.1 s.2.2.2.2.2.2.2.2.2.2
def Zz7 (rec_:(Int×Int×ZoH×Int×Int×Str×Int×Int×Str×ZoK×ZoK)→ZNZ) (s:(Int×Int×ZoH×Int×Int×Str×Int×Int×Str×ZoK×ZoK)):ZNZ:=Zxl (fun n k d t4 t4_1 t4_2 o o_1 o_2 t4_3 o_3=>rec_ (n,k,d,t4,t4_1,t4_2,o,o_1,o_2,t4_3,o_3)) s.1 s.2.1 s.2.2.1 s.2.2.2.1 s.2.2.2.2.1 s.2.2.2.2.2.1 s.2.2.2.2.2.2.1 s.2.2.2.2.2.2.2.1 s.2.2.2.2.2.2.2.2.1 s.2.2.2.2.2.2.2.2.2.1 s.2.2.2.2.2.2.2.2.2.2
theorem ZCn:∀n s,Zz6 (n+1) s=Zz7 (Zz6 n) s:=fun _ _=>rfl
def Ztn (n:Int) (t16:Int) (t66:Bool) (d:ZoH) (t4:Int) (t4_1:Int) (t4_2:Str) (o:Int) (o_1:Int) (o_2:Str) (t4_3:ZoK) (o_3:ZoK):ZJh:=
 bif t66 then (
  (ZoP d n).bind fun(q,t69)=>
  Zqx t69 t4 t4_1 t4_2 o q o_2 t4_3 o_3
 )else (
  bif (t16 == 3)then (
   (ZoP d 3).bind fun(q_1,t75)=>
   chk (inK .i64 (1+q_1)) <|
   (Ztl big n (1+q_1) t75 t4 t4_1 t4_2 o o_1 o_2 t4_3 o_3).bind fun(x0,x1,x2,x3,x4,x5,x6,x7,x8)=>Zye x0 x1 x2 x3 x4 x5 x6 x7 x8
  )else (
   Zqx d t4 t4_1 t4_2 o o_1 o_2 t4_3 o_3
  )
 )
def Zqy (t44:Bool) (d:ZoH) (t:ZoF) (t4:Int) (t4_1:Int) (t4_2:Str) (o:Int) (o_1:Int) (o_2:Str) (t4_3:ZoK) (o_3:ZoK):ZJh:=
 bif t44 then (
  (idx t.Columns o_1).bind fun Column=>
  (idx t.Columns o_1).bind fun Column_1=>
  (ZoP d (Column_1.Cells.length:Int)).bind fun(q,t52)=>
  (idx Column.Cells q).bind fun Cell=>
  Zqx t52 t4 t4_1 t4_2 o o_1 Cell.Text t4_3 o_3
 )else (
  Zqx d t4 t4_1 t4_2 o o_1 o_2 t4_3 o_3
 )
def Zvv (d:ZoH) (t:ZoF):ZJh:=
 (ZoP d 5).bind fun(q,t8)=>
 chk (inK .i64 (1+q)) <|
 bif ((1+q) == 1)then (
  (ZoP t8 (t.Columns.length:Int)).bind fun(q_1,t19)=>
  (Zo9 t19 ([([97]:Str),([98]:Str),([49]:Str),([50]:Str),([107,48]:Str),([]:Str)]:ZCd)).bind fun(q_2,t23)=>
  bif (decide ((t.Columns.length:Int) > 0))then (
   (idx t.Columns q_1).bind fun Column=>
   bif (decide ((Column.Cells.length:Int) > 0))then (
    (ZoP t23 3).bind fun(q_3,t41)=>
    Zqy (decide (q_3 > 0)) t41 t (0:Int) (0:Int) ([]:Str) (1+q) q_1 q_2 ([]:ZoK) ([]:ZoK)
   )else (
    Zqy false t23 t (0:Int) (0:Int) ([]:Str) (1+q) q_1 q_2 ([]:ZoK) ([]:ZoK)
   )
  )else (
   Zqy false t23 t (0:Int) (0:Int) ([]:Str) (1+q) q_1 q_2 ([]:ZoK) ([]:ZoK)
  )
 )else (
  bif ((1+q) == 2)then (
   Ztn (t.Columns.length:Int) (1+q) ((1+q) == 2) t8 (0:Int) (0:Int) ([]:Str) (1+q) (0:Int) ([]:Str) ([]:ZoK) ([]:ZoK)
  )else (
   Ztn (t.Columns.length:Int) (1+q) ((1+q) == 5) t8 (0:Int) (0:Int) ([]:Str) (1+q) (0:Int) ([]:Str) ([]:ZoK) ([]:ZoK)
  )
 )
def ZrZ (s:Str):Option Bool:=
 (ZpF s).bind fun q=>
 some q
def Zs3 (t2:Bool):Option Bool:=
 some t2
def Zst (s:Str):Option Bool:=
 (ZrZ s).bind fun q=>
 bif q then (
  Zs3 (decide ((s.length:Int)≤1024))
 )else (
  Zs3 false
 )
def Zpx (t2:Bool):Option Bool:=
 some t2
def Zsd (c:ZoR):Option Bool:=
 (ZrZ c.Text).bind fun q=>
 bif q then (
  bif (decide ((c.Text.length:Int)≤1024))then (
   bif (!c.Null)then (
    Zpx true
   )else (
    Zpx (c.Text == ([]:Str))
   )
  )else (
   Zpx false
  )
 )else (
  Zpx false
 )
def Zvj:Option Bool:=
 some true
def Zvk (rec_:ZN5) (t28:Zo3) (t29:Int) (t30:Int) (t:ZoF):Zr8:=
 chk (inK .i64 (t30+1)) <|
 rec_ t28 t29 (t30+1) t
def Zuq (rec_:Zo3→Int→Int→ZwZ→Int→Int→ZoF→ZN4) (t28:Zo3) (t29:Int) (t30:Int) (t57:ZwZ) (t58:Int) (t59:Int) (t:ZoF):ZN4:=
 bif (decide (t59 < t58))then (
  (idx t57 t59).bind fun x_=>
  (Zsd x_).bind fun q=>
  bif (!q)then (
   some (.ret false)
  )else (
   chk (inK .i64 (t59+1)) <|
   rec_ t28 t29 t30 t57 t58 (t59+1) t
  )
 )else (
  some (.brk (t28,t29,t30,t))
 )
def ZqM:Nat→Zo3→Int→Int→ZwZ→Int→Int→ZoF→ZN4
 |0,_,_,_,_,_,_,_=>none
 |n_+1,t28,t29,t30,t57,t58,t59,t=>Zuq (ZqM n_) t28 t29 t30 t57 t58 t59 t
def ZpV (rec_:ZN5) (t28:Zo3) (t29:Int) (t30:Int) (t55:Bool) (t:ZoF) (c:ZoL):Zr8:=
 bif t55 then (
  some (.ret false)
 )else (
  (ZqM big t28 t29 t30 c.Cells (c.Cells.length:Int) (0:Int) t).bind fun
   | .ret q_=>some (.ret q_)
   | .brk (x0,x1,x2,x3)=>Zvk rec_ x0 x1 x2 x3
 )
def Zur (rec_:ZN5) (t28:Zo3) (t29:Int) (t30:Int) (t:ZoF):Zr8:=
 bif (decide (t30 < t29))then (
  (idx t28 t30).bind fun c=>
  (Zst c.Name).bind fun q=>
  bif (!q)then (
   ZpV rec_ t28 t29 t30 true t c
  )else (
   bif (decide ((c.Cells.length:Int) > 4096))then (
    ZpV rec_ t28 t29 t30 true t c
   )else (
    (idx t.Columns 0).bind fun Column=>
    ZpV rec_ t28 t29 t30 ((c.Cells.length:Int) != (Column.Cells.length:Int)) t c
   )
  )
 )else (
  some (.brk ())
 )
def Zpn:Nat→Zo3→Int→Int→ZoF→Zr8
 |0,_,_,_,_=>none
 |n_+1,t28,t29,t30,t=>Zur (Zpn n_) t28 t29 t30 t
def ZpW (t26:Bool) (t:ZoF):Option Bool:=
 bif t26 then (
  some false
 )else (
  (Zpn big t.Columns (t.Columns.length:Int) (0:Int) t).bind fun
   | .ret q_=>some q_
   | .brk ()=>Zvj
 )
def ZpX (t:ZoF):Option Bool:=
 bif (decide (t.ID < 0))then (
  ZpW true t
 )else (
  bif (decide (t.ID > 1073741824))then (
   ZpW true t
  )else (
   (Zst t.Name).bind fun q=>
   bif (!q)then (
    ZpW true t
   )else (
    ZpW (decide ((t.Columns.length:Int) > 64)) t
   )
  )
 )
def Zqr (t4:Bool):Option Bool:=
 some t4
def Zrt (t4:Bool):Option Bool:=
 some t4
def ZwD (o:ZoY):Option Bool:=
 bif (o.Column == 0)then (
  bif (o.Text == ([]:Str))then (
   Zrt (decide ((o.Columns.length:Int)≤64))
  )else (
   Zrt false
  )
 )else (
  Zrt false
 )
def Zru (t4:Bool):Option Bool:=
 some t4
def ZtH (rec_:ZQT) (t54:ZoK) (t55:Int) (t56:Int) (t68:Bool) (t:ZoF) (o:ZoY):ZHK:=
 bif t68 then (
  some (.ret false)
 )else (
  chk (inK .i64 (t56+1)) <|
  rec_ t54 t55 (t56+1) t o
 )
def Zsp (rec_:ZQT) (t54:ZoK) (t55:Int) (t56:Int) (t:ZoF) (o:ZoY):ZHK:=
 bif (decide (t56 < t55))then (
  (idx t54 t56).bind fun k=>
  bif (decide (k < 0))then (
   ZtH rec_ t54 t55 t56 true t o
  )else (
   ZtH rec_ t54 t55 t56 (decide (k≥(t.Columns.length:Int))) t o
  )
 )else (
  some (.brk o)
 )
def Zrs:Nat→ZoK→Int→Int→ZoF→ZoY→ZHK
 |0,_,_,_,_,_=>none
 |n_+1,t54,t55,t56,t,o=>Zsp (Zrs n_) t54 t55 t56 t o
def ZyM (n:Nat) (s:(ZoK×Int×Int×ZoF×ZoY)):ZHK:=Zrs n s.1 s.2.1 s.2.2.1 s.2.2.2.1 s.2.2.2.2
def Zvh (rec_:(ZoK×Int×Int×ZoF×ZoY)→ZHK) (s:(ZoK×Int×Int×ZoF×ZoY)):ZHK:=Zsp (fun t54 t55 t56 t o=>rec_ (t54,t55,t56,t,o)) s.1 s.2.1 s.2.2.1 s.2.2.2.1 s.2.2.2.2
theorem ZBA:∀n s,ZyM (n+1) s=Zvh (ZyM n) s:=fun _ _=>rfl
def Zrv (there:Bool) (t20:Int) (t36:Bool) (t:ZoF) (o:ZoY):Option Bool:=
 bif t36 then (
  bif there then (
   bif ((o.Columns.length:Int) == 0)then (
    Zru (o.Text == ([]:Str))
   )else (
    Zru false
   )
  )else (
   Zru false
  )
 )else (
  bif (t20 == 3)then (
   (Zrs big o.Columns (o.Columns.length:Int) (0:Int) t o).bind fun
    | .ret q_=>some q_
    | .brk x0=>ZwD x0
  )else (
   bif (o.Kind == 4)then (
    bif (o.Column == 0)then (
     bif (o.Text == ([]:Str))then (
      Zqr ((o.Columns.length:Int) == 0)
     )else (
      Zqr false
     )
    )else (
     Zqr false
    )
   )else (
    Zqr false
   )
  )
 )
def Zrw (t4:Bool):Option Bool:=
 some t4
def Zrx (there:Bool) (t:ZoF) (o:ZoY):Option Bool:=
 bif (o.Kind == 1)then (
  bif there then (
   bif ((o.Columns.length:Int) == 0)then (
    Zrw (decide ((o.Text.length:Int)≤1024))
   )else (
    Zrw false
   )
  )else (
   Zrw false
  )
 )else (
  bif (o.Kind == 2)then (
   Zrv there o.Kind (o.Kind == 2) t o
  )else (
   Zrv there o.Kind (o.Kind == 5) t o
  )
 )
def ZvQ (t:ZoF) (o:ZoY):Option Bool:=
 bif (decide (o.Column≥0))then (
  Zrx (decide (o.Column < (t.Columns.length:Int))) t o
 )else (
  Zrx false t o
 )
def Zus (columns:ZoK) (t4:Int) (t4_1:Str) (out:Int) (out_1:Str) (t4_2:Zo3) (out_2:Zo3):ZEU:=
 bif (decide ((columns.length:Int) > 64))then (
  some ((ZoF.mk 0 ([]:Str) ([]:Zo3)),3)
 )else (
  some ((ZoF.mk out out_1 out_2),0)
 )
def ZrP (rec_:Tf_6) (columns:ZoK) (k:Int) (t18:ZoK) (t19:Int) (t20:Int) (t32:Bool) (t:ZoF) (t4:Int) (t4_1:Str) (out:Int) (out_1:Str) (t4_2:Zo3) (out_2:Zo3):ZNY:=
 bif t32 then (
  some (.ret ((ZoF.mk 0 ([]:Str) ([]:Zo3)),2))
 )else (
  (idx t.Columns k).bind fun Column=>
  chk (ZjC (out_2.length+([Column]:Zo3).length) 40) <|
  chk (inK .i64 (t20+1)) <|
  rec_ columns t18 t19 (t20+1) t t4 t4_1 out out_1 t4_2 (out_2++([Column]:Zo3))
 )
def Zq0 (rec_:Tf_6) (columns:ZoK) (t18:ZoK) (t19:Int) (t20:Int) (t:ZoF) (t4:Int) (t4_1:Str) (out:Int) (out_1:Str) (t4_2:Zo3) (out_2:Zo3):ZNY:=
 bif (decide (t20 < t19))then (
  (idx t18 t20).bind fun k=>
  bif (decide (k < 0))then (
   ZrP rec_ columns k t18 t19 t20 true t t4 t4_1 out out_1 t4_2 out_2
  )else (
   ZrP rec_ columns k t18 t19 t20 (decide (k≥(t.Columns.length:Int))) t t4 t4_1 out out_1 t4_2 out_2
  )
 )else (
  some (.brk (columns,t4,t4_1,out,out_1,t4_2,out_2))
 )
def Zqn:Nat→ZoK→ZoK→Int→Int→ZoF→Int→Str→Int→Str→Zo3→Zo3→ZNY
 |0,_,_,_,_,_,_,_,_,_,_,_=>none
 |n_+1,columns,t18,t19,t20,t,t4,t4_1,out,out_1,t4_2,out_2=>Zq0 (Zqn n_) columns t18 t19 t20 t t4 t4_1 out out_1 t4_2 out_2
def Zxk (n:Nat) (s:(ZoK×ZoK×Int×Int×ZoF×Int×Str×Int×Str×Zo3×Zo3)):ZNY:=Zqn n s.1 s.2.1 s.2.2.1 s.2.2.2.1 s.2.2.2.2.1 s.2.2.2.2.2.1 s.2.2.2.2.2.2.1 s.2.2.2.2.2.2.2.1 s.2.2.2.2.2.2.2.2.1 s.2.2.2.2.2.2.2.2.2.1 s.2.2.2.2.2.2.2.2.2.2
def Ztv (rec_:(ZoK×ZoK×Int×Int×ZoF×Int×Str×Int×Str×Zo3×Zo3)→ZNY) (s:(ZoK×ZoK×Int×Int×ZoF×Int×Str×Int×Str×Zo3×Zo3)):ZNY:=Zq0 (fun columns t18 t19 t20 t t4 t4_1 out out_1 t4_2 out_2=>rec_ (columns,t18,t19,t20,t,t4,t4_1,out,out_1,t4_2,out_2)) s.1 s.2.1 s.2.2.1 s.2.2.2.1 s.2.2.2.2.1 s.2.2.2.2.2.1 s.2.2.2.2.2.2.1 s.2.2.2.2.2.2.2.1 s.2.2.2.2.2.2.2.2.1 s.2.2.2.2.2.2.2.2.2.1 s.2.2.2.2.2.2.2.2.2.2
theorem ZAG:∀n s,Zxk (n+1) s=Ztv (Zxk n) s:=fun _ _=>rfl
def Zs4 (t:ZoF) (columns:ZoK):ZEU:=
 (ZpX t).bind fun q=>
 bif (!q)then (
  some ((ZoF.mk 0 ([]:Str) ([]:Zo3)),1)
 )else (
  (Zqn big columns columns (columns.length:Int) (0:Int) t (0:Int) ([]:Str) t.ID t.Name ([]:Zo3) ([]:Zo3)).bind fun
   | .ret q_=>some q_
   | .brk (x0,x1,x2,x3,x4,x5,x6)=>Zus x0 x1 x2 x3 x4 x5 x6
 )
def Zvg:Option Bool:=
 some true
def ZrM (rec_:Int→Int→Zo3→Int→Int→Zr8) (x_:Int) (y:Int) (t10:Zo3) (t11:Int) (t12:Int):Zr8:=
 bif (decide (t12 < t11))then (
  (idx t10 t12).bind fun c=>
  (idx c.Cells x_).bind fun Cell=>
  (idx c.Cells y).bind fun Cell_1=>
  bif (!(Cell.Null == Cell_1.Null&&(Cell.Text == Cell_1.Text&&true)))then (
   some (.ret false)
  )else (
   chk (inK .i64 (t12+1)) <|
   rec_ x_ y t10 t11 (t12+1)
  )
 )else (
  some (.brk ())
 )
def Zso:Nat→Int→Int→Zo3→Int→Int→Zr8
 |0,_,_,_,_,_=>none
 |n_+1,x_,y,t10,t11,t12=>ZrM (Zso n_) x_ y t10 t11 t12
def ZxV (n:Nat) (s:(Int×Int×Zo3×Int×Int)):Zr8:=Zso n s.1 s.2.1 s.2.2.1 s.2.2.2.1 s.2.2.2.2
def Zuo (rec_:(Int×Int×Zo3×Int×Int)→Zr8) (s:(Int×Int×Zo3×Int×Int)):Zr8:=ZrM (fun x_ y t10 t11 t12=>rec_ (x_,y,t10,t11,t12)) s.1 s.2.1 s.2.2.1 s.2.2.2.1 s.2.2.2.2
theorem ZA2:∀n s,ZxV (n+1) s=Zuo (ZxV n) s:=fun _ _=>rfl
def Zuf (t:ZoF) (x_:Int) (y:Int):Option Bool:=
 (Zso big x_ y t.Columns (t.Columns.length:Int) (0:Int)).bind fun
  | .ret q_=>some q_
  | .brk ()=>Zvg
def ZpD (t5:Bool) (a:ZoR) (b:ZoR):Option Int:=
 bif t5 then (
  some (0:Int)
 )else (
  bif a.Null then (
   some (-1:Int)
  )else (
   bif b.Null then (
    some (1:Int)
   )else (
    bif (Op.bytesLess a.Text b.Text)then (
     some (-1:Int)
    )else (
     bif (!((Op.bytesLess a.Text b.Text)||a.Text == b.Text))then (
      some (1:Int)
     )else (
      some (0:Int)
     )
    )
   )
  )
 )
def Zq1 (a:ZoR) (b:ZoR):Option Int:=
 bif a.Null then (
  ZpD b.Null a b
 )else (
  ZpD false a b
 )
def Zv3 (out:ZoK):Option ZoK:=
 some out
def ZsY (rec_:ZJs) (t14:Int) (r_:Int) (t:ZoF) (o:ZoY) (out:ZoK):Option ZoK:=
 chk (inK .i64 (r_+1)) <|
 rec_ t14 (r_+1) t o out
def Zqa (rec_:ZJs) (r_:Int) (at_:Int) (t14:Int) (r__1:Int) (t104:Bool) (t:ZoF) (o:ZoY) (out:ZoK):Option ZoK:=
 bif t104 then (
  chk (Zcp 0 at_ (out.length:Int)) <|
  chk (ZjC ((out.drop 0).take ((at_).toNat - 0)).length 8) <|
  chk (ZjC (((out.drop 0).take ((at_).toNat - 0)).length+([r_]:ZoK).length) 8) <|
  chk (Zcp at_ (out.length:Int) (out.length:Int)) <|
  chk (ZjC ((((out.drop 0).take ((at_).toNat - 0))++([r_]:ZoK)).length+((out.drop ((at_).toNat)).take ((out.length:Int).toNat - (at_).toNat)).length) 8) <|
  ZsY rec_ t14 r__1 t o ((((out.drop 0).take ((at_).toNat - 0))++([r_]:ZoK))++((out.drop ((at_).toNat)).take ((out.length:Int).toNat - (at_).toNat)))
 )else (
  ZsY rec_ t14 r__1 t o out
 )
def Zqb (rec_:ZJs) (r_:Int) (at_:Int) (keep:Bool) (t14:Int) (r__1:Int) (t:ZoF) (o:ZoY) (out:ZoK):Option ZoK:=
 Zqa rec_ r_ at_ t14 r__1 keep t o out
def Zv4 (rec_:ZJs) (r_:Int) (at_:Int) (keep:Bool) (t14:Int) (r__1:Int) (t:ZoF) (o:ZoY) (out:ZoK):Option ZoK:=
 Zqa rec_ r_ at_ t14 r__1 keep t o out
def Zv5 (rec_:ZJs) (r_:Int) (at_:Int) (keep:Bool) (t14:Int) (r__1:Int) (t:ZoF) (o:ZoY) (out:ZoK):Option ZoK:=
 Zqa rec_ r_ at_ t14 r__1 keep t o out
def Zs0 (rec_:Tf_7) (r_:Int) (at_:Int) (keep:Bool) (t14:Int) (r__1:Int) (t61:Int) (t62:Int) (t:ZoF) (o:ZoY) (out:ZoK):ZEs:=
 chk (inK .i64 (t62+1)) <|
 rec_ r_ at_ keep t14 r__1 t61 (t62+1) t o out
def Zr9 (rec_:Tf_7) (r_:Int) (at_:Int) (keep:Bool) (t14:Int) (r__1:Int) (t61:Int) (t62:Int) (t:ZoF) (o:ZoY) (out:ZoK):ZEs:=
 bif (decide (t62 < t61))then (
  chk (inR t62 (out.length:Int)) <|
  (out[(t62).toNat]?).bind fun x_=>
  bif keep then (
   (Zuf t x_ r_).bind fun q=>
   Zs0 rec_ r_ at_ (!q) t14 r__1 t61 t62 t o out
  )else (
   Zs0 rec_ r_ at_ false t14 r__1 t61 t62 t o out
  )
 )else (
  some (r_,at_,keep,t14,r__1,t,o,out)
 )
def Zq7:Nat→Int→Int→Bool→Int→Int→Int→Int→ZoF→ZoY→ZoK→ZEs
 |0,_,_,_,_,_,_,_,_,_,_=>none
 |n_+1,r_,at_,keep,t14,r__1,t61,t62,t,o,out=>Zr9 (Zq7 n_) r_ at_ keep t14 r__1 t61 t62 t o out
def Zyr (n:Nat) (s:(Int×Int×Bool×Int×Int×Int×Int×ZoF×ZoY×ZoK)):ZEs:=Zq7 n s.1 s.2.1 s.2.2.1 s.2.2.2.1 s.2.2.2.2.1 s.2.2.2.2.2.1 s.2.2.2.2.2.2.1 s.2.2.2.2.2.2.2.1 s.2.2.2.2.2.2.2.2.1 s.2.2.2.2.2.2.2.2.2
def ZuI (rec_:(Int×Int×Bool×Int×Int×Int×Int×ZoF×ZoY×ZoK)→ZEs) (s:(Int×Int×Bool×Int×Int×Int×Int×ZoF×ZoY×ZoK)):ZEs:=Zr9 (fun r_ at_ keep t14 r__1 t61 t62 t o out=>rec_ (r_,at_,keep,t14,r__1,t61,t62,t,o,out)) s.1 s.2.1 s.2.2.1 s.2.2.2.1 s.2.2.2.2.1 s.2.2.2.2.2.1 s.2.2.2.2.2.2.1 s.2.2.2.2.2.2.2.1 s.2.2.2.2.2.2.2.2.1 s.2.2.2.2.2.2.2.2.2
theorem ZBg:∀n s,Zyr (n+1) s=ZuI (Zyr n) s:=fun _ _=>rfl
def ZsZ (rec_:ZQ1) (r_:Int) (at_:Int) (keep:Bool) (l:ZwZ) (t14:Int) (r__1:Int) (t101:Bool) (t:ZoF) (o:ZoY) (out:ZoK):ZEs:=
 bif t101 then (
  chk (inK .i64 (at_ - 1)) <|
  rec_ r_ (at_ - 1) keep l t14 r__1 t o out
 )else (
  some (r_,at_,keep,t14,r__1,t,o,out)
 )
def ZuH (rec_:ZQ1) (r_:Int) (at_:Int) (keep:Bool) (l:ZwZ) (t14:Int) (r__1:Int) (t:ZoF) (o:ZoY) (out:ZoK):ZEs:=
 bif (decide (at_ > 0))then (
  chk (inK .i64 (at_ - 1)) <|
  chk (inR (at_ - 1) (out.length:Int)) <|
  (out[((at_ - 1)).toNat]?).bind fun out_e=>
  (idx l out_e).bind fun l_e=>
  (idx l r_).bind fun l_e_1=>
  (Zq1 l_e l_e_1).bind fun q=>
  ZsZ rec_ r_ at_ keep l t14 r__1 (decide (q > 0)) t o out
 )else (
  ZsZ rec_ r_ at_ keep l t14 r__1 false t o out
 )
def Zq6:Nat→Int→Int→Bool→ZwZ→Int→Int→ZoF→ZoY→ZoK→ZEs
 |0,_,_,_,_,_,_,_,_,_=>none
 |n_+1,r_,at_,keep,l,t14,r__1,t,o,out=>ZuH (Zq6 n_) r_ at_ keep l t14 r__1 t o out
def Zyp (n:Nat) (s:(Int×Int×Bool×ZwZ×Int×Int×ZoF×ZoY×ZoK)):ZEs:=Zq6 n s.1 s.2.1 s.2.2.1 s.2.2.2.1 s.2.2.2.2.1 s.2.2.2.2.2.1 s.2.2.2.2.2.2.1 s.2.2.2.2.2.2.2.1 s.2.2.2.2.2.2.2.2
def Zyq (rec_:(Int×Int×Bool×ZwZ×Int×Int×ZoF×ZoY×ZoK)→ZEs) (s:(Int×Int×Bool×ZwZ×Int×Int×ZoF×ZoY×ZoK)):ZEs:=ZuH (fun r_ at_ keep l t14 r__1 t o out=>rec_ (r_,at_,keep,l,t14,r__1,t,o,out)) s.1 s.2.1 s.2.2.1 s.2.2.2.1 s.2.2.2.2.1 s.2.2.2.2.2.1 s.2.2.2.2.2.2.1 s.2.2.2.2.2.2.2.1 s.2.2.2.2.2.2.2.2
theorem ZBf:∀n s,Zyp (n+1) s=Zyq (Zyp n) s:=fun _ _=>rfl
def Zsa (rec_:ZJs) (t14:Int) (r_:Int) (t:ZoF) (o:ZoY) (out:ZoK):Option ZoK:=
 bif (decide (r_ < t14))then (
  bif (o.Kind == 1)then (
   (idx t.Columns o.Column).bind fun Column=>
   (idx Column.Cells r_).bind fun c=>
   bif (!c.Null)then (
    Zqb rec_ r_ (out.length:Int) (c.Text == o.Text) t14 r_ t o out
   )else (
    Zqb rec_ r_ (out.length:Int) false t14 r_ t o out
   )
  )else (
   bif (o.Kind == 2)then (
    (idx t.Columns o.Column).bind fun Column_1=>
    (idx Column_1.Cells r_).bind fun Cell=>
    Zqb rec_ r_ (out.length:Int) (!Cell.Null) t14 r_ t o out
   )else (
    bif (o.Kind == 4)then (
     (Zq7 big r_ (out.length:Int) true t14 r_ (out.length:Int) (0:Int) t o out).bind fun(x0,x1,x2,x3,x4,x5,x6,x7)=>Zv5 rec_ x0 x1 x2 x3 x4 x5 x6 x7
    )else (
     bif (o.Kind == 5)then (
      (idx t.Columns o.Column).bind fun Column_2=>
      (Zq6 big r_ (out.length:Int) true Column_2.Cells t14 r_ t o out).bind fun(x0,x1,x2,x3,x4,x5,x6,x7)=>Zv4 rec_ x0 x1 x2 x3 x4 x5 x6 x7
     )else (
      Zqb rec_ r_ (out.length:Int) true t14 r_ t o out
     )
    )
   )
  )
 )else (
  some out
 )
def Zpj:Nat→Int→Int→ZoF→ZoY→ZoK→Option ZoK
 |0,_,_,_,_,_=>none
 |n_+1,t14,r_,t,o,out=>Zsa (Zpj n_) t14 r_ t o out
def Zys (n:Nat) (s:(Int×Int×ZoF×ZoY×ZoK)):Option ZoK:=Zpj n s.1 s.2.1 s.2.2.1 s.2.2.2.1 s.2.2.2.2
def ZuJ (rec_:(Int×Int×ZoF×ZoY×ZoK)→Option ZoK) (s:(Int×Int×ZoF×ZoY×ZoK)):Option ZoK:=Zsa (fun t14 r_ t o out=>rec_ (t14,r_,t,o,out)) s.1 s.2.1 s.2.2.1 s.2.2.2.1 s.2.2.2.2
theorem ZBh:∀n s,Zys (n+1) s=ZuJ (Zys n) s:=fun _ _=>rfl
def ZuK (t:ZoF) (o:ZoY):Option ZoK:=
 (ZqZ t).bind fun q=>
 (Zpj big q (0:Int) t o ([]:ZoK)).bind fun x0=>Zv3 x0
def ZuO (t4:Int) (t4_1:Str) (out:Int) (out_1:Str) (t4_2:Zo3) (out_2:Zo3):ZEU:=
 some ((ZoF.mk out out_1 out_2),0)
def ZuP (rec_:ZQY) (rows:ZoK) (t44:Zo3) (t45:Int) (t46:Int) (t4:Int) (t4_1:Str) (out:Int) (out_1:Str) (x_:Str) (t4_2:Zo3) (out_2:Zo3) (x__1:ZwZ):ZEG:=
 chk (ZjC (out_2.length+([(ZoL.mk x_ x__1)]:Zo3).length) 40) <|
 chk (inK .i64 (t46+1)) <|
 rec_ rows t44 t45 (t46+1) t4 t4_1 out out_1 t4_2 (out_2++([(ZoL.mk x_ x__1)]:Zo3))
def Zrl (rec_:ZoK→Zo3→Int→Int→ZoK→Int→Int→Int→Str→Int→Str→ZoL→Str→Zo3→Zo3→ZwZ→ZPj) (rows:ZoK) (t44:Zo3) (t45:Int) (t46:Int) (t53:ZoK) (t54:Int) (t55:Int) (t4:Int) (t4_1:Str) (out:Int) (out_1:Str) (c:ZoL) (x_:Str) (t4_2:Zo3) (out_2:Zo3) (x__1:ZwZ):ZPj:=
 bif (decide (t55 < t54))then (
  (idx t53 t55).bind fun k=>
  (idx c.Cells k).bind fun Cell=>
  chk (ZjC (x__1.length+([Cell]:ZwZ).length) 24) <|
  chk (inK .i64 (t55+1)) <|
  rec_ rows t44 t45 t46 t53 t54 (t55+1) t4 t4_1 out out_1 c x_ t4_2 out_2 (x__1++([Cell]:ZwZ))
 )else (
  some (rows,t44,t45,t46,t4,t4_1,out,out_1,x_,t4_2,out_2,x__1)
 )
def Zse:Nat→ZoK→Zo3→Int→Int→ZoK→Int→Int→Int→Str→Int→Str→ZoL→Str→Zo3→Zo3→ZwZ→ZPj
 |0,_,_,_,_,_,_,_,_,_,_,_,_,_,_,_,_=>none
 |n_+1,rows,t44,t45,t46,t53,t54,t55,t4,t4_1,out,out_1,c,x_,t4_2,out_2,x__1=>Zrl (Zse n_) rows t44 t45 t46 t53 t54 t55 t4 t4_1 out out_1 c x_ t4_2 out_2 x__1
def Zxx (n:Nat) (s:(ZoK×Zo3×Int×Int×ZoK×Int×Int×Int×Str×Int×Str×ZoL×Str×Zo3×Zo3×ZwZ)):ZPj:=Zse n s.1 s.2.1 s.2.2.1 s.2.2.2.1 s.2.2.2.2.1 s.2.2.2.2.2.1 s.2.2.2.2.2.2.1 s.2.2.2.2.2.2.2.1 s.2.2.2.2.2.2.2.2.1 s.2.2.2.2.2.2.2.2.2.1 s.2.2.2.2.2.2.2.2.2.2.1 s.2.2.2.2.2.2.2.2.2.2.2.1 s.2.2.2.2.2.2.2.2.2.2.2.2.1 s.2.2.2.2.2.2.2.2.2.2.2.2.2.1 s.2.2.2.2.2.2.2.2.2.2.2.2.2.2.1 s.2.2.2.2.2.2.2.2.2.2.2.2.2.2.2
def Zt1 (rec_:(ZoK×Zo3×Int×Int×ZoK×Int×Int×Int×Str×Int×Str×ZoL×Str×Zo3×Zo3×ZwZ)→ZPj) (s:(ZoK×Zo3×Int×Int×ZoK×Int×Int×Int×Str×Int×Str×ZoL×Str×Zo3×Zo3×ZwZ)):ZPj:=Zrl (fun rows t44 t45 t46 t53 t54 t55 t4 t4_1 out out_1 c x_ t4_2 out_2 x__1=>rec_ (rows,t44,t45,t46,t53,t54,t55,t4,t4_1,out,out_1,c,x_,t4_2,out_2,x__1)) s.1 s.2.1 s.2.2.1 s.2.2.2.1 s.2.2.2.2.1 s.2.2.2.2.2.1 s.2.2.2.2.2.2.1 s.2.2.2.2.2.2.2.1 s.2.2.2.2.2.2.2.2.1 s.2.2.2.2.2.2.2.2.2.1 s.2.2.2.2.2.2.2.2.2.2.1 s.2.2.2.2.2.2.2.2.2.2.2.1 s.2.2.2.2.2.2.2.2.2.2.2.2.1 s.2.2.2.2.2.2.2.2.2.2.2.2.2.1 s.2.2.2.2.2.2.2.2.2.2.2.2.2.2.1 s.2.2.2.2.2.2.2.2.2.2.2.2.2.2.2
theorem ZAM:∀n s,Zxx (n+1) s=Zt1 (Zxx n) s:=fun _ _=>rfl
def Zrm (rec_:ZQY) (rows:ZoK) (t44:Zo3) (t45:Int) (t46:Int) (t4:Int) (t4_1:Str) (out:Int) (out_1:Str) (t4_2:Zo3) (out_2:Zo3):ZEG:=
 bif (decide (t46 < t45))then (
  (idx t44 t46).bind fun c=>
  (Zse big rows t44 t45 t46 rows (rows.length:Int) (0:Int) t4 t4_1 out out_1 c c.Name t4_2 out_2 ([]:ZwZ)).bind fun(x0,x1,x2,x3,x4,x5,x6,x7,x8,x9,x10,x11)=>ZuP rec_ x0 x1 x2 x3 x4 x5 x6 x7 x8 x9 x10 x11
 )else (
  some (t4,t4_1,out,out_1,t4_2,out_2)
 )
def Zqz:Nat→ZoK→Zo3→Int→Int→Int→Str→Int→Str→Zo3→Zo3→ZEG
 |0,_,_,_,_,_,_,_,_,_,_=>none
 |n_+1,rows,t44,t45,t46,t4,t4_1,out,out_1,t4_2,out_2=>Zrm (Zqz n_) rows t44 t45 t46 t4 t4_1 out out_1 t4_2 out_2
def Zxy (n:Nat) (s:(ZoK×Zo3×Int×Int×Int×Str×Int×Str×Zo3×Zo3)):ZEG:=Zqz n s.1 s.2.1 s.2.2.1 s.2.2.2.1 s.2.2.2.2.1 s.2.2.2.2.2.1 s.2.2.2.2.2.2.1 s.2.2.2.2.2.2.2.1 s.2.2.2.2.2.2.2.2.1 s.2.2.2.2.2.2.2.2.2
def Zt2 (rec_:(ZoK×Zo3×Int×Int×Int×Str×Int×Str×Zo3×Zo3)→ZEG) (s:(ZoK×Zo3×Int×Int×Int×Str×Int×Str×Zo3×Zo3)):ZEG:=Zrm (fun rows t44 t45 t46 t4 t4_1 out out_1 t4_2 out_2=>rec_ (rows,t44,t45,t46,t4,t4_1,out,out_1,t4_2,out_2)) s.1 s.2.1 s.2.2.1 s.2.2.2.1 s.2.2.2.2.1 s.2.2.2.2.2.1 s.2.2.2.2.2.2.1 s.2.2.2.2.2.2.2.1 s.2.2.2.2.2.2.2.2.1 s.2.2.2.2.2.2.2.2.2
theorem ZAN:∀n s,Zxy (n+1) s=Zt2 (Zxy n) s:=fun _ _=>rfl
def ZuQ (rows:ZoK) (t:ZoF) (t4:Int) (t4_1:Str) (t4_2:Zo3):ZEU:=
 bif (decide ((rows.length:Int) > 4096))then (
  some ((ZoF.mk 0 ([]:Str) ([]:Zo3)),3)
 )else (
  (Zqz big rows t.Columns (t.Columns.length:Int) (0:Int) t4 t4_1 t.ID t.Name t4_2 ([]:Zo3)).bind fun(x0,x1,x2,x3,x4,x5)=>ZuO x0 x1 x2 x3 x4 x5
 )
def Zsf (rec_:ZQW) (rows:ZoK) (t18:ZoK) (t19:Int) (t20:Int) (t31:Bool) (t:ZoF) (t4:Int) (t4_1:Str) (t4_2:Zo3):ZNW:=
 bif t31 then (
  some (.ret ((ZoF.mk 0 ([]:Str) ([]:Zo3)),2))
 )else (
  chk (inK .i64 (t20+1)) <|
  rec_ rows t18 t19 (t20+1) t t4 t4_1 t4_2
 )
def Zrn (rec_:ZQW) (rows:ZoK) (t18:ZoK) (t19:Int) (t20:Int) (t:ZoF) (t4:Int) (t4_1:Str) (t4_2:Zo3):ZNW:=
 bif (decide (t20 < t19))then (
  (idx t18 t20).bind fun k=>
  bif (decide (k < 0))then (
   Zsf rec_ rows t18 t19 t20 true t t4 t4_1 t4_2
  )else (
   (ZqZ t).bind fun q=>
   Zsf rec_ rows t18 t19 t20 (decide (k≥q)) t t4 t4_1 t4_2
  )
 )else (
  some (.brk (rows,t,t4,t4_1,t4_2))
 )
def ZqA:Nat→ZoK→ZoK→Int→Int→ZoF→Int→Str→Zo3→ZNW
 |0,_,_,_,_,_,_,_,_=>none
 |n_+1,rows,t18,t19,t20,t,t4,t4_1,t4_2=>Zrn (ZqA n_) rows t18 t19 t20 t t4 t4_1 t4_2
def Zxz (n:Nat) (s:(ZoK×ZoK×Int×Int×ZoF×Int×Str×Zo3)):ZNW:=ZqA n s.1 s.2.1 s.2.2.1 s.2.2.2.1 s.2.2.2.2.1 s.2.2.2.2.2.1 s.2.2.2.2.2.2.1 s.2.2.2.2.2.2.2
def Zt3 (rec_:(ZoK×ZoK×Int×Int×ZoF×Int×Str×Zo3)→ZNW) (s:(ZoK×ZoK×Int×Int×ZoF×Int×Str×Zo3)):ZNW:=Zrn (fun rows t18 t19 t20 t t4 t4_1 t4_2=>rec_ (rows,t18,t19,t20,t,t4,t4_1,t4_2)) s.1 s.2.1 s.2.2.1 s.2.2.2.1 s.2.2.2.2.1 s.2.2.2.2.2.1 s.2.2.2.2.2.2.1 s.2.2.2.2.2.2.2
theorem ZAO:∀n s,Zxz (n+1) s=Zt3 (Zxz n) s:=fun _ _=>rfl
def ZtK (t:ZoF) (rows:ZoK):ZEU:=
 (ZpX t).bind fun q=>
 bif (!q)then (
  some ((ZoF.mk 0 ([]:Str) ([]:Zo3)),1)
 )else (
  (ZqA big rows rows (rows.length:Int) (0:Int) t (0:Int) ([]:Str) ([]:Zo3)).bind fun
   | .ret q_=>some q_
   | .brk (x0,x1,x2,x3,x4)=>ZuQ x0 x1 x2 x3 x4
 )
def Zwk (t:ZoF) (o:ZoY):Option ZoF:=
 bif (o.Kind == 3)then (
  (Zs4 t o.Columns).bind fun(x_,q)=>
  some x_
 )else (
  (ZuK t o).bind fun q_1=>
  (ZtK t q_1).bind fun(x__1,q_2)=>
  some x__1
 )
def Zv6 (t2:Int) (t2_1:Str) (out:Int) (out_1:Str) (t2_2:Zo3) (out_2:Zo3):Option ZoF:=
 some (ZoF.mk out out_1 out_2)
def Zsb (rec_:Zo3→Int→Int→Int→Str→Int→Str→Zo3→Zo3→ZEG) (t12:Zo3) (t13:Int) (t14:Int) (t2:Int) (t2_1:Str) (out:Int) (out_1:Str) (t2_2:Zo3) (out_2:Zo3):ZEG:=
 bif (decide (t14 < t13))then (
  (idx t12 t14).bind fun c=>
  chk (ZjC c.Cells.length 24) <|
  chk (ZjC (out_2.length+([c]:Zo3).length) 40) <|
  chk (inK .i64 (t14+1)) <|
  rec_ t12 t13 (t14+1) t2 t2_1 out out_1 t2_2 (out_2++([c]:Zo3))
 )else (
  some (t2,t2_1,out,out_1,t2_2,out_2)
 )
def Zs1:Nat→Zo3→Int→Int→Int→Str→Int→Str→Zo3→Zo3→ZEG
 |0,_,_,_,_,_,_,_,_,_=>none
 |n_+1,t12,t13,t14,t2,t2_1,out,out_1,t2_2,out_2=>Zsb (Zs1 n_) t12 t13 t14 t2 t2_1 out out_1 t2_2 out_2
def Zyt (n:Nat) (s:(Zo3×Int×Int×Int×Str×Int×Str×Zo3×Zo3)):ZEG:=Zs1 n s.1 s.2.1 s.2.2.1 s.2.2.2.1 s.2.2.2.2.1 s.2.2.2.2.2.1 s.2.2.2.2.2.2.1 s.2.2.2.2.2.2.2.1 s.2.2.2.2.2.2.2.2
def ZuL (rec_:(Zo3×Int×Int×Int×Str×Int×Str×Zo3×Zo3)→ZEG) (s:(Zo3×Int×Int×Int×Str×Int×Str×Zo3×Zo3)):ZEG:=Zsb (fun t12 t13 t14 t2 t2_1 out out_1 t2_2 out_2=>rec_ (t12,t13,t14,t2,t2_1,out,out_1,t2_2,out_2)) s.1 s.2.1 s.2.2.1 s.2.2.2.1 s.2.2.2.2.1 s.2.2.2.2.2.1 s.2.2.2.2.2.2.1 s.2.2.2.2.2.2.2.1 s.2.2.2.2.2.2.2.2
theorem ZBi:∀n s,Zyt (n+1) s=ZuL (Zyt n) s:=fun _ _=>rfl
def Zsr (t:ZoF):Option ZoF:=
 (Zs1 big t.Columns (t.Columns.length:Int) (0:Int) (0:Int) ([]:Str) t.ID t.Name ([]:Zo3) ([]:Zo3)).bind fun(x0,x1,x2,x3,x4,x5)=>Zv6 x0 x1 x2 x3 x4 x5
def ZwE (t:ZoF) (t4:Int) (t4_1:Str) (t4_2:Zo3):ZEU:=
 (Zsr t).bind fun q=>
 some (q,0)
def Zsq (rec_:(List ZoY)→Int→Int→ZoF→Int→Str→Zo3→ZJp) (t18:(List ZoY)) (t19:Int) (t20:Int) (t:ZoF) (t4:Int) (t4_1:Str) (t4_2:Zo3):ZJp:=
 bif (decide (t20 < t19))then (
  (idx t18 t20).bind fun o=>
  (ZvQ t o).bind fun q=>
  bif (!q)then (
   some (.ret ((ZoF.mk 0 ([]:Str) ([]:Zo3)),24))
  )else (
   (Zwk t o).bind fun t_1=>
   chk (inK .i64 (t20+1)) <|
   rec_ t18 t19 (t20+1) t_1 t4 t4_1 t4_2
  )
 )else (
  some (.brk (t,t4,t4_1,t4_2))
 )
def ZtI:Nat→(List ZoY)→Int→Int→ZoF→Int→Str→Zo3→ZJp
 |0,_,_,_,_,_,_,_=>none
 |n_+1,t18,t19,t20,t,t4,t4_1,t4_2=>Zsq (ZtI n_) t18 t19 t20 t t4 t4_1 t4_2
def ZyN (n:Nat) (s:((List ZoY)×Int×Int×ZoF×Int×Str×Zo3)):ZJp:=ZtI n s.1 s.2.1 s.2.2.1 s.2.2.2.1 s.2.2.2.2.1 s.2.2.2.2.2.1 s.2.2.2.2.2.2
def Zvi (rec_:((List ZoY)×Int×Int×ZoF×Int×Str×Zo3)→ZJp) (s:((List ZoY)×Int×Int×ZoF×Int×Str×Zo3)):ZJp:=Zsq (fun t18 t19 t20 t t4 t4_1 t4_2=>rec_ (t18,t19,t20,t,t4,t4_1,t4_2)) s.1 s.2.1 s.2.2.1 s.2.2.2.1 s.2.2.2.2.1 s.2.2.2.2.2.1 s.2.2.2.2.2.2
theorem ZBB:∀n s,ZyN (n+1) s=Zvi (ZyN n) s:=fun _ _=>rfl
def ZvR (t:ZoF) (l:(List ZoY)):ZEU:=
 bif (decide ((l.length:Int) > 5))then (
  some ((ZoF.mk 0 ([]:Str) ([]:Zo3)),3)
 )else (
  (ZpX t).bind fun q=>
  bif (!q)then (
   some ((ZoF.mk 0 ([]:Str) ([]:Zo3)),1)
  )else (
   (ZtI big l (l.length:Int) (0:Int) t (0:Int) ([]:Str) ([]:Zo3)).bind fun
    | .ret q_=>some q_
    | .brk (x0,x1,x2,x3)=>ZwE x0 x1 x2 x3
  )
 )
def Zvw (id:Int) (d:ZoH) (t:ZoF) (t6:Int) (t6_1:Str) (t6_2:Zo3):ZKJ:=
 (Zsr t).bind fun t_1=>
 some ((ZoF.mk id t_1.Name t_1.Columns),d)
def ZsD (rec_:ZQ0) (id:Int) (k:Int) (d:ZoH) (t:ZoF) (t6:Int) (t6_1:Str) (t6_2:Zo3):ZHR:=
 chk (inK .i64 (k - 1)) <|
 rec_ id (k - 1) d t t6 t6_1 t6_2
def Zuu (rec_:ZQ0) (id:Int) (k:Int) (d:ZoH) (t:ZoF) (t6:Int) (t6_1:Str) (t6_2:Zo3):ZHR:=
 bif (decide (k > 0))then (
  (Zvv d t).bind fun(q,t18)=>
  (ZvR t ([q]:(List ZoY))).bind fun(x_,e)=>
  bif (e == 0)then (
   ZsD rec_ id k t18 x_ t6 t6_1 t6_2
  )else (
   ZsD rec_ id k t18 t t6 t6_1 t6_2
  )
 )else (
  some (id,d,t,t6,t6_1,t6_2)
 )
def ZqQ:Nat→Int→Int→ZoH→ZoF→Int→Str→Zo3→ZHR
 |0,_,_,_,_,_,_,_=>none
 |n_+1,id,k,d,t,t6,t6_1,t6_2=>Zuu (ZqQ n_) id k d t t6 t6_1 t6_2
def ZxX (n:Nat) (s:(Int×Int×ZoH×ZoF×Int×Str×Zo3)):ZHR:=ZqQ n s.1 s.2.1 s.2.2.1 s.2.2.2.1 s.2.2.2.2.1 s.2.2.2.2.2.1 s.2.2.2.2.2.2
def ZxY (rec_:(Int×Int×ZoH×ZoF×Int×Str×Zo3)→ZHR) (s:(Int×Int×ZoH×ZoF×Int×Str×Zo3)):ZHR:=Zuu (fun id k d t t6 t6_1 t6_2=>rec_ (id,k,d,t,t6,t6_1,t6_2)) s.1 s.2.1 s.2.2.1 s.2.2.2.1 s.2.2.2.2.1 s.2.2.2.2.2.1 s.2.2.2.2.2.2
theorem ZA4:∀n s,ZxX (n+1) s=ZxY (ZxX n) s:=fun _ _=>rfl
def Zr3 (d:ZoH) (t:ZoF) (id:Int):ZKJ:=
 (ZoP d 3).bind fun(k,t10)=>
 (ZqQ big id k t10 t (0:Int) ([]:Str) ([]:Zo3)).bind fun(x0,x1,x2,x3,x4,x5)=>Zvw x0 x1 x2 x3 x4 x5
def Zwa (d:ZoH) (l:ZAZ):ZQE:=
 some (l,d)
def Zre (rec_:ZN6) (id:Int) (k:Int) (d:ZoH) (l:ZAZ) (t:ZoF):ZHi:=
 chk (ZjC (l.length+([t]:ZAZ).length) 48) <|
 chk (inK .i64 (k - 1)) <|
 rec_ id (k - 1) d (l++([t]:ZAZ))
def Zs6 (rec_:ZN6) (id:Int) (k:Int) (t34:Bool) (d:ZoH) (l:ZAZ) (t:ZoF):ZHi:=
 bif t34 then (
  (ZoP d (l.length:Int)).bind fun(q,t37)=>
  chk (inR q (l.length:Int)) <|
  (l[(q).toNat]?).bind fun l_e=>
  (Zr3 t37 l_e id).bind fun(t_1,t35)=>
  Zre rec_ id k t35 l t_1
 )else (
  Zre rec_ id k d l t
 )
def ZuW (rec_:ZN6) (id:Int) (k:Int) (d:ZoH) (l:ZAZ):ZHi:=
 bif (decide (k > 0))then (
  (ZoP d 2).bind fun(q,t20)=>
  chk (inK .i64 (1+q)) <|
  chk (inK .i64 (id+(1+q))) <|
  (Zrq t20 (id+(1+q))).bind fun(t,t24)=>
  bif (decide ((l.length:Int) > 0))then (
   (ZoP t24 4).bind fun(q_1,t31)=>
   Zs6 rec_ (id+(1+q)) k (q_1 == 0) t31 l t
  )else (
   Zs6 rec_ (id+(1+q)) k false t24 l t
  )
 )else (
  some (d,l)
 )
def Zqd:Nat→Int→Int→ZoH→ZAZ→ZHi
 |0,_,_,_,_=>none
 |n_+1,id,k,d,l=>ZuW (Zqd n_) id k d l
def Zyz (n:Nat) (s:(Int×Int×ZoH×ZAZ)):ZHi:=Zqd n s.1 s.2.1 s.2.2.1 s.2.2.2
def ZyA (rec_:(Int×Int×ZoH×ZAZ)→ZHi) (s:(Int×Int×ZoH×ZAZ)):ZHi:=ZuW (fun id k d l=>rec_ (id,k,d,l)) s.1 s.2.1 s.2.2.1 s.2.2.2
theorem ZBm:∀n s,Zyz (n+1) s=ZyA (Zyz n) s:=fun _ _=>rfl
def ZsB (d:ZoH) (most:Int):ZQE:=
 (ZoP d 2).bind fun(id,t9)=>
 (ZoP t9 most).bind fun(q,t11)=>
 chk (inK .i64 (1+q)) <|
 (Zqd big id (1+q) t11 ([]:ZAZ)).bind fun(x0,x1)=>Zwa x0 x1
def Zwc:Option Bool:=
 some true
def Zsi (rec_:ZAZ→Int→Int→Zr8) (t7:ZAZ) (t8:Int) (t9:Int):Zr8:=
 bif (decide (t9 < t8))then (
  (idx t7 t9).bind fun x_=>
  (ZrS x_).bind fun q=>
  bif (!q)then (
   some (.ret false)
  )else (
   chk (inK .i64 (t9+1)) <|
   rec_ t7 t8 (t9+1)
  )
 )else (
  some (.brk ())
 )
def Zs7:Nat→ZAZ→Int→Int→Zr8
 |0,_,_,_=>none
 |n_+1,t7,t8,t9=>Zsi (Zs7 n_) t7 t8 t9
def ZyC (n:Nat) (s:(ZAZ×Int×Int)):Zr8:=Zs7 n s.1 s.2.1 s.2.2
def ZuY (rec_:(ZAZ×Int×Int)→Zr8) (s:(ZAZ×Int×Int)):Zr8:=Zsi (fun t7 t8 t9=>rec_ (t7,t8,t9)) s.1 s.2.1 s.2.2
theorem ZBo:∀n s,ZyC (n+1) s=ZuY (ZyC n) s:=fun _ _=>rfl
def ZuZ (l:ZAZ):Option Bool:=
 (Zs7 big l (l.length:Int) (0:Int)).bind fun
  | .ret q_=>some q_
  | .brk ()=>Zwc
def ZzD (t2:Bool):Option Bool:=
 some t2
def ZzC (l:ZAZ):Option Bool:=
 bif (decide ((l.length:Int)≤1024))then (
  (ZuZ l).bind fun q=>
  ZzD q
 )else (
  ZzD false
 )
def ZvX (rec_:ZAZ→Int→ZN3) (l:ZAZ) (i:Int):ZN3:=
 bif (decide (i < (l.length:Int)))then (
  chk (inK .i64 (i - 1)) <|
  (idx l (i - 1)).bind fun l_e=>
  (idx l i).bind fun l_e_1=>
  bif (decide (l_e.ID≥l_e_1.ID))then (
   some (.ret false)
  )else (
   chk (inK .i64 (i+1)) <|
   rec_ l (i+1)
  )
 )else (
  some (.brk l)
 )
def ZpT:Nat→ZAZ→Int→ZN3
 |0,_,_=>none
 |n_+1,l,i=>ZvX (ZpT n_) l i
def Zzj (l:ZAZ):Option Bool:=
 (ZpT big l (1:Int)).bind fun
  | .ret q_=>some q_
  | .brk x0=>ZzC x0
def ZAP (l:ZAZ):Option Bool:=
 (Zzj l).bind fun q=>
 some q
def ZBp (f:ZoG):Option Bool:=
 (Zzm f).bind fun q=>
 some (decide (q > 0))
def ZzE (x_:Int) (n:Int):Option Int:=
 (idx ([0,1,2,2,3,3,3,3,4,4,4,4,4,4,4,4,5,5,5,5,5,5,5,5,5,5,5,5,5,5,5,5,6,6,6,6,6,6,6,6,6,6,6,6,6,6,6,6,6,6,6,6,6,6,6,6,6,6,6,6,6,6,6,6,7,7,7,7,7,7,7,7,7,7,7,7,7,7,7,7,7,7,7,7,7,7,7,7,7,7,7,7,7,7,7,7,7,7,7,7,7,7,7,7,7,7,7,7,7,7,7,7,7,7,7,7,7,7,7,7,7,7,7,7,7,7,7,7,8,8,8,8,8,8,8,8,8,8,8,8,8,8,8,8,8,8,8,8,8,8,8,8,8,8,8,8,8,8,8,8,8,8,8,8,8,8,8,8,8,8,8,8,8,8,8,8,8,8,8,8,8,8,8,8,8,8,8,8,8,8,8,8,8,8,8,8,8,8,8,8,8,8,8,8,8,8,8,8,8,8,8,8,8,8,8,8,8,8,8,8,8,8,8,8,8,8,8,8,8,8,8,8,8,8,8,8,8,8,8,8,8,8,8,8,8,8,8,8,8,8,8,8,8,8,8,8]:Str) (IntKind.wrap .u8 x_)).bind fun c=>
 chk (inK .i64 (n+(IntKind.wrap .i64 ((c.toNat:Nat):Int)))) <|
 some (n+(IntKind.wrap .i64 ((c.toNat:Nat):Int)))
def ZzF (x_:Int) (n:Int):Option Int:=
 bif (decide (x_≥256))then (
  chk (decide (0≤(8:Int))) <|
  chk (inK .i64 (n+8)) <|
  ZzE (shrK .u64 x_ 8) (n+8)
 )else (
  ZzE x_ n
 )
def ZzG (x_:Int) (n:Int):Option Int:=
 bif (decide (x_≥65536))then (
  chk (decide (0≤(16:Int))) <|
  chk (inK .i64 (n+16)) <|
  ZzF (shrK .u64 x_ 16) (n+16)
 )else (
  ZzF x_ n
 )
def ZCB (x_:Int):Option Int:=
 bif (decide (x_≥4294967296))then (
  chk (decide (0≤(32:Int))) <|
  ZzG (shrK .u64 x_ 32) (32:Int)
 )else (
  ZzG x_ (0:Int)
 )
def ZBT (x_:Int):Option Int:=
 (ZCB x_).bind fun q=>
 some q
def ZCp (a:ZoG) (b:ZoG):Option Int:=
 (ZwY b a).bind fun q=>
 some q
def ZDo (zero:Int):Option Int:=
 some zero
def Zxu (rec_:Int→ZoK→Int→Int→ZN1) (zero:Int) (t6:ZoK) (t7:Int) (t8:Int):ZN1:=
 bif (decide (t8 < t7))then (
  (idx t6 t8).bind fun val=>
  bif (val != zero)then (
   some (.ret val)
  )else (
   chk (inK .i64 (t8+1)) <|
   rec_ zero t6 t7 (t8+1)
  )
 )else (
  some (.brk zero)
 )
def Zzb:Nat→Int→ZoK→Int→Int→ZN1
 |0,_,_,_,_=>none
 |n_+1,zero,t6,t7,t8=>Zxu (Zzb n_) zero t6 t7 t8
def ZB8 (vals:ZoK):Option Int:=
 (Zzb big (0:Int) vals (vals.length:Int) (0:Int)).bind fun
  | .ret q_=>some q_
  | .brk x0=>ZDo x0
def Zwj (a:Zo0) (b:Zo0):Option Int:=
 (ZCp a.Score b.Score).bind fun q=>
 (ZtA a.Table b.Table).bind fun q_1=>
 (ZB8 ([q,q_1]:ZoK)).bind fun q_2=>
 some q_2
def Zqo (data:Zw2):Option Zw2:=
 some data
def Zqp (rec_:ZQL) (a:Int) (b:Int) (i:Int) (data:Zw2):Option Zw2:=
 chk (inK .i64 (i+1)) <|
 rec_ a b (i+1) data
def Zpz (rec_:ZQK) (a:Int) (b:Int) (i:Int) (j:Int) (t34:Bool) (data:Zw2):ZHM:=
 bif t34 then (
  chk (inK .i64 (j - 1)) <|
  chk (inK .i64 (j - 1)) <|
  chk (inR (j - 1) (data.length:Int)) <|
  (data[((j - 1)).toNat]?).bind fun data_e=>
  chk (inR j (data.length:Int)) <|
  (data[(j).toNat]?).bind fun data_e_1=>
  chk (inR j (data.length:Int)) <|
  chk (inR (j - 1) ((data.set ((j).toNat) data_e).length:Int)) <|
  chk (inK .i64 (j - 1)) <|
  rec_ a b i (j - 1) ((data.set ((j).toNat) data_e).set (((j - 1)).toNat) data_e_1)
 )else (
  some (a,b,i,data)
 )
def Zp7 (rec_:ZQK) (a:Int) (b:Int) (i:Int) (j:Int) (data:Zw2):ZHM:=
 bif (decide (j > a))then (
  chk (inR j (data.length:Int)) <|
  (data[(j).toNat]?).bind fun data_e=>
  chk (inK .i64 (j - 1)) <|
  chk (inR (j - 1) (data.length:Int)) <|
  (data[((j - 1)).toNat]?).bind fun data_e_1=>
  (Zwj data_e data_e_1).bind fun q=>
  Zpz rec_ a b i j (decide (q < 0)) data
 )else (
  Zpz rec_ a b i j false data
 )
def Zo4:Nat→Int→Int→Int→Int→Zw2→ZHM
 |0,_,_,_,_,_=>none
 |n_+1,a,b,i,j,data=>Zp7 (Zo4 n_) a b i j data
def Zsk (n:Nat) (s:(Int×Int×Int×Int×Zw2)):ZHM:=Zo4 n s.1 s.2.1 s.2.2.1 s.2.2.2.1 s.2.2.2.2
def Zsl (rec_:(Int×Int×Int×Int×Zw2)→ZHM) (s:(Int×Int×Int×Int×Zw2)):ZHM:=Zp7 (fun a b i j data=>rec_ (a,b,i,j,data)) s.1 s.2.1 s.2.2.1 s.2.2.2.1 s.2.2.2.2
theorem Zxm:∀n s,Zsk (n+1) s=Zsl (Zsk n) s:=fun _ _=>rfl
def Zpd (rec_:ZQL) (a:Int) (b:Int) (i:Int) (data:Zw2):Option Zw2:=
 bif (decide (i < b))then (
  (Zo4 big a b i i data).bind fun(x0,x1,x2,x3)=>Zqp rec_ x0 x1 x2 x3
 )else (
  some data
 )
def Zpi:Nat→Int→Int→Int→Zw2→Option Zw2
 |0,_,_,_,_=>none
 |n_+1,a,b,i,data=>Zpd (Zpi n_) a b i data
def ZpL (data:Zw2) (a:Int) (b:Int):Option Zw2:=
 chk (inK .i64 (a+1)) <|
 (Zpi big a b (a+1) data).bind fun x0=>Zqo x0
def Zpk (data:Zw2) (a:Int) (b:Int):Option Zw2:=
 (ZpL data a b).bind fun r=>chk (decide (r.length=data.length)&&true) (some r)
def Zq3 (rec_:Int→Int→Int→Bool→Bool→Zw2→ZN2) (a:Int) (b:Int) (limit:Int) (wasBalanced:Bool) (wasPartitioned:Bool) (data:Zw2):ZN2:=
 chk (inK .i64 (b - a)) <|
 bif (decide ((b - a)≤12))then (
  (Zpk data a b).bind fun t26=>
  some (.ret t26)
 )else (
  bif (limit == 0)then (
   none
  )else (
   bif (!wasBalanced)then (
    none
   )else (
    none
   )
  )
 )
def ZrF:Nat→Int→Int→Int→Bool→Bool→Zw2→ZN2
 |0,_,_,_,_,_,_=>none
 |n_+1,a,b,limit,wasBalanced,wasPartitioned,data=>Zq3 (ZrF n_) a b limit wasBalanced wasPartitioned data
def ZsG (data:Zw2) (a:Int) (b:Int) (limit:Int):Option Zw2:=
 (ZrF big a b limit true true data).bind fun
  | .ret q_=>some q_
  | .brk _=>none
def Zqf (data:Zw2) (a:Int) (b:Int) (limit:Int):Option Zw2:=
 (ZsG data a b limit).bind fun r=>chk (decide (r.length=data.length)&&true) (some r)
def Zri (x_:Zw2):Option Zw2:=
 (ZBT (IntKind.wrap .u64 (x_.length:Int))).bind fun q=>
 (Zqf x_ 0 (x_.length:Int) q).bind fun t7=>
 some t7
def ZpM (x_:Zw2):Option Zw2:=
 (Zri x_).bind fun r=>chk (decide (r.length=x_.length)&&true) (some r)
def ZxG (l:Zw2) (k:Int):Option (Nat×Nat×Zw2):=
 (ZpM l).bind fun t7=>
 chk (Zcp 0 (if (t7.length:Int) < k then (t7.length:Int)else k) (t7.length:Int)) <|
 some (0,(((if (t7.length:Int) < k then (t7.length:Int)else k)).toNat - 0),t7)
def ZtW (l:Zw2) (k:Int):Option (Nat×Nat×Zw2):=
 (ZxG l k).bind fun r=>chk (decide (r.2.2.length=l.length)&&true) (some r)
def ZuB (k:Int) (out:Zw2):ZLT:=
 (ZtW out k).bind fun(q_off,q_len,t63)=>
 some (((t63.drop q_off).take q_len),0)
def Zw3 (rec_:ZN7) (k:Int) (t35:ZAZ) (t36:Int) (t37:Int) (q:ZoF) (out:Zw2):ZHf:=
 chk (inK .i64 (t37+1)) <|
 rec_ k t35 t36 (t37+1) q out
def Zw4 (rec_:ZN7) (k:Int) (t35:ZAZ) (t36:Int) (t37:Int) (t53:Bool) (q:ZoF) (out:Zw2) (t:ZoF) (align:ZoK) (score:ZoG):ZHf:=
 bif t53 then (
  chk (ZjC (out.length+([(Zo0.mk t.ID align score)]:Zw2).length) 96) <|
  Zw3 rec_ k t35 t36 t37 q (out++([(Zo0.mk t.ID align score)]:Zw2))
 )else (
  Zw3 rec_ k t35 t36 t37 q out
 )
def ZvK (rec_:ZN7) (k:Int) (t35:ZAZ) (t36:Int) (t37:Int) (q:ZoF) (out:Zw2):ZHf:=
 bif (decide (t37 < t36))then (
  (idx t35 t37).bind fun t=>
  (ZqL q t).bind fun(align,score,e)=>
  bif (e == 0)then (
   (ZBp score).bind fun q_1=>
   Zw4 rec_ k t35 t36 t37 q_1 q out t align score
  )else (
   Zw4 rec_ k t35 t36 t37 false q out t align score
  )
 )else (
  some (k,out)
 )
def Zrg:Nat→Int→ZAZ→Int→Int→ZoF→Zw2→ZHf
 |0,_,_,_,_,_,_=>none
 |n_+1,k,t35,t36,t37,q,out=>ZvK (Zrg n_) k t35 t36 t37 q out
def ZAK (n:Nat) (s:(Int×ZAZ×Int×Int×ZoF×Zw2)):ZHf:=Zrg n s.1 s.2.1 s.2.2.1 s.2.2.2.1 s.2.2.2.2.1 s.2.2.2.2.2
def Zx6 (rec_:(Int×ZAZ×Int×Int×ZoF×Zw2)→ZHf) (s:(Int×ZAZ×Int×Int×ZoF×Zw2)):ZHf:=ZvK (fun k t35 t36 t37 q out=>rec_ (k,t35,t36,t37,q,out)) s.1 s.2.1 s.2.2.1 s.2.2.2.1 s.2.2.2.2.1 s.2.2.2.2.2
theorem ZCX:∀n s,ZAK (n+1) s=Zx6 (ZAK n) s:=fun _ _=>rfl
def Zw5 (l:ZAZ) (k:Int) (t21:Bool) (q:ZoF):ZLT:=
 bif t21 then (
  some (([]:Zw2),1)
 )else (
  bif (decide ((q.Columns.length:Int) > 8))then (
   some (([]:Zw2),3)
  )else (
   (Zrg big k l (l.length:Int) (0:Int) q ([]:Zw2)).bind fun(x0,x1)=>ZuB x0 x1
  )
 )
def Zw6 (l:ZAZ) (k:Int) (t14:Bool) (q:ZoF):ZLT:=
 bif t14 then (
  some (([]:Zw2),2)
 )else (
  (ZAP l).bind fun q_1=>
  bif (!q_1)then (
   Zw5 l k true q
  )else (
   (ZrS q).bind fun q_2=>
   Zw5 l k (!q_2) q
  )
 )
def Zvb (l:ZAZ) (q:ZoF) (k:Int):ZLT:=
 bif (decide (k < 0))then (
  Zw6 l k true q
 )else (
  Zw6 l k (decide (k > 1024)) q
 )
def Zv7:Option Bool:=
 some true
def Zq9 (rec_:ZQI) (b:Zw2) (t12:Zw2) (t13:Int) (i:Int) (t48:Bool):Zr8:=
 bif t48 then (
  some (.ret false)
 )else (
  chk (inK .i64 (i+1)) <|
  rec_ b t12 t13 (i+1)
 )
def Zsc (rec_:ZQI) (b:Zw2) (t12:Zw2) (t13:Int) (i:Int):Zr8:=
 bif (decide (i < t13))then (
  (idx t12 i).bind fun m=>
  (idx b i).bind fun b_e=>
  bif (m.Table != b_e.Table)then (
   Zq9 rec_ b t12 t13 i true
  )else (
   (idx b i).bind fun b_e_1=>
   (Zps m.Score b_e_1.Score).bind fun q=>
   bif (!q)then (
    Zq9 rec_ b t12 t13 i true
   )else (
    (idx b i).bind fun b_e_2=>
    (ZpA m.Align b_e_2.Align).bind fun q_1=>
    Zq9 rec_ b t12 t13 i (!q_1)
   )
  )
 )else (
  some (.brk ())
 )
def Zq8:Nat→Zw2→Zw2→Int→Int→Zr8
 |0,_,_,_,_=>none
 |n_+1,b,t12,t13,i=>Zsc (Zq8 n_) b t12 t13 i
def Zyu (n:Nat) (s:(Zw2×Zw2×Int×Int)):Zr8:=Zq8 n s.1 s.2.1 s.2.2.1 s.2.2.2
def ZuM (rec_:(Zw2×Zw2×Int×Int)→Zr8) (s:(Zw2×Zw2×Int×Int)):Zr8:=Zsc (fun b t12 t13 i=>rec_ (b,t12,t13,i)) s.1 s.2.1 s.2.2.1 s.2.2.2
theorem ZBj:∀n s,Zyu (n+1) s=ZuM (Zyu n) s:=fun _ _=>rfl
def ZuN (a:Zw2) (b:Zw2):Option Bool:=
 bif ((a.length:Int) != (b.length:Int))then (
  some false
 )else (
  (Zq8 big b a (a.length:Int) (0:Int)).bind fun
   | .ret q_=>some q_
   | .brk ()=>Zv7
 )
def Zzx (t4:Int) (t4_1:Str) (t4_2:Zo3):Option (ZoF×Bool):=
 some ((ZoF.mk 0 ([]:Str) ([]:Zo3)),false)
def ZuR (rec_:Int→ZAZ→Int→Int→Int→Str→Zo3→ZJm) (id:Int) (t8:ZAZ) (t9:Int) (t10:Int) (t4:Int) (t4_1:Str) (t4_2:Zo3):ZJm:=
 bif (decide (t10 < t9))then (
  (idx t8 t10).bind fun t=>
  bif (t.ID == id)then (
   some (.ret (t,true))
  )else (
   chk (inK .i64 (t10+1)) <|
   rec_ id t8 t9 (t10+1) t4 t4_1 t4_2
  )
 )else (
  some (.brk (t4,t4_1,t4_2))
 )
def Zrb:Nat→Int→ZAZ→Int→Int→Int→Str→Zo3→ZJm
 |0,_,_,_,_,_,_,_=>none
 |n_+1,id,t8,t9,t10,t4,t4_1,t4_2=>ZuR (Zrb n_) id t8 t9 t10 t4 t4_1 t4_2
def Zyv (n:Nat) (s:(Int×ZAZ×Int×Int×Int×Str×Zo3)):ZJm:=Zrb n s.1 s.2.1 s.2.2.1 s.2.2.2.1 s.2.2.2.2.1 s.2.2.2.2.2.1 s.2.2.2.2.2.2
def Zyw (rec_:(Int×ZAZ×Int×Int×Int×Str×Zo3)→ZJm) (s:(Int×ZAZ×Int×Int×Int×Str×Zo3)):ZJm:=ZuR (fun id t8 t9 t10 t4 t4_1 t4_2=>rec_ (id,t8,t9,t10,t4,t4_1,t4_2)) s.1 s.2.1 s.2.2.1 s.2.2.2.1 s.2.2.2.2.1 s.2.2.2.2.2.1 s.2.2.2.2.2.2
theorem ZBk:∀n s,Zyv (n+1) s=Zyw (Zyv n) s:=fun _ _=>rfl
def ZuS (l:ZAZ) (id:Int):Option (ZoF×Bool):=
 (Zrb big id l (l.length:Int) (0:Int) (0:Int) ([]:Str) ([]:Zo3)).bind fun
  | .ret q_=>some q_
  | .brk (x0,x1,x2)=>Zzx x0 x1 x2
def ZpY (t24:Bool) (f:ZoG):Option Bool:=
 bif t24 then (
  some false
 )else (
  bif ((f.Num.Words.length:Int) == 0)then (
   (ZpC f.Den.Words ([1]:ZoK)).bind fun q=>
   some (q == 0)
  )else (
   (Zti f.Num.Words f.Den.Words).bind fun q_1=>
   (ZpC q_1 ([1]:ZoK)).bind fun q_2=>
   some (q_2 == 0)
  )
 )
def Zr1 (f:ZoG):Option Bool:=
 (ZpZ f.Num).bind fun q=>
 bif (!q)then (
  ZpY true f
 )else (
  (ZpZ f.Den).bind fun q_1=>
  bif (!q_1)then (
   ZpY true f
  )else (
   bif f.Den.Neg then (
    ZpY true f
   )else (
    ZpY ((f.Den.Words.length:Int) == 0) f
   )
  )
 )
def ZwG (out:ZoK):Option ZoK:=
 (Zpm out).bind fun q=>
 some q
def ZwH (rec_:ZQN) (a:ZoK) (b:ZoK) (i:Int) (c:Int) (out:ZoK):Option ZoK:=
 chk (inK .i64 (i+(b.length:Int))) <|
 chk (inR (i+(b.length:Int)) (out.length:Int)) <|
 chk (inK .i64 (i+1)) <|
 rec_ a b (i+1) (out.set (((i+(b.length:Int))).toNat) (IntKind.wrap .u32 c))
def Zsw (rec_:ZoK→ZoK→Int→Int→Int→ZoK→ZJg) (a:ZoK) (b:ZoK) (i:Int) (c:Int) (j:Int) (out:ZoK):ZJg:=
 bif (decide (j < (b.length:Int)))then (
  (idx a i).bind fun a_e=>
  (idx b j).bind fun b_e=>
  chk (inK .i64 (i+j)) <|
  chk (inR (i+j) (out.length:Int)) <|
  (out[((i+j)).toNat]?).bind fun out_e=>
  chk (inK .i64 (i+j)) <|
  chk (inR (i+j) (out.length:Int)) <|
  chk (decide (0≤(32:Int))) <|
  chk (inK .i64 (j+1)) <|
  rec_ a b i (shrK .u64 (IntKind.wrap .u64 (c+(IntKind.wrap .u64 ((IntKind.wrap .u64 ((IntKind.wrap .u64 a_e)*(IntKind.wrap .u64 b_e)))+(IntKind.wrap .u64 out_e))))) 32) (j+1) (out.set (((i+j)).toNat) (IntKind.wrap .u32 (IntKind.wrap .u64 (c+(IntKind.wrap .u64 ((IntKind.wrap .u64 ((IntKind.wrap .u64 a_e)*(IntKind.wrap .u64 b_e)))+(IntKind.wrap .u64 out_e)))))))
 )else (
  some (a,b,i,c,out)
 )
def ZtL:Nat→ZoK→ZoK→Int→Int→Int→ZoK→ZJg
 |0,_,_,_,_,_,_=>none
 |n_+1,a,b,i,c,j,out=>Zsw (ZtL n_) a b i c j out
def ZyP (n:Nat) (s:(ZoK×ZoK×Int×Int×Int×ZoK)):ZJg:=ZtL n s.1 s.2.1 s.2.2.1 s.2.2.2.1 s.2.2.2.2.1 s.2.2.2.2.2
def Zvn (rec_:(ZoK×ZoK×Int×Int×Int×ZoK)→ZJg) (s:(ZoK×ZoK×Int×Int×Int×ZoK)):ZJg:=Zsw (fun a b i c j out=>rec_ (a,b,i,c,j,out)) s.1 s.2.1 s.2.2.1 s.2.2.2.1 s.2.2.2.2.1 s.2.2.2.2.2
theorem ZBD:∀n s,ZyP (n+1) s=Zvn (ZyP n) s:=fun _ _=>rfl
def Zsx (rec_:ZQN) (a:ZoK) (b:ZoK) (i:Int) (out:ZoK):Option ZoK:=
 bif (decide (i < (a.length:Int)))then (
  (ZtL big a b i (0:Int) (0:Int) out).bind fun(x0,x1,x2,x3,x4)=>ZwH rec_ x0 x1 x2 x3 x4
 )else (
  some out
 )
def ZrA:Nat→ZoK→ZoK→Int→ZoK→Option ZoK
 |0,_,_,_,_=>none
 |n_+1,a,b,i,out=>Zsx (ZrA n_) a b i out
def ZyQ (n:Nat) (s:(ZoK×ZoK×Int×ZoK)):Option ZoK:=ZrA n s.1 s.2.1 s.2.2.1 s.2.2.2
def Zvo (rec_:(ZoK×ZoK×Int×ZoK)→Option ZoK) (s:(ZoK×ZoK×Int×ZoK)):Option ZoK:=Zsx (fun a b i out=>rec_ (a,b,i,out)) s.1 s.2.1 s.2.2.1 s.2.2.2
theorem ZBE:∀n s,ZyQ (n+1) s=Zvo (ZyQ n) s:=fun _ _=>rfl
def ZvS (a:ZoK) (b:ZoK):Option ZoK:=
 chk (inK .i64 ((a.length:Int)+(b.length:Int))) <|
 chk (mkOk ((a.length:Int)+(b.length:Int)) ((a.length:Int)+(b.length:Int)) 4) <|
 (ZrA big a b (0:Int) (List.replicate (((a.length:Int)+(b.length:Int))).toNat (0:Int))).bind fun x0=>ZwG x0
def Zp0 (a:ZoN) (b:ZoN):Option ZoN:=
 (ZvS a.Words b.Words).bind fun q=>
 (Zpc (!(a.Neg == b.Neg)) q).bind fun q_1=>
 some q_1
def Zug (a:ZoN):Option ZoN:=
 (Zpc (!a.Neg) a.Words).bind fun q=>
 some q
def ZwP (c:Int) (out:ZoK):Option ZoK:=
 chk (ZjC (out.length+([(IntKind.wrap .u32 c)]:ZoK).length) 4) <|
 some (out++([(IntKind.wrap .u32 c)]:ZoK))
def ZrD (rec_:ZLW) (a:ZoK) (b:ZoK) (c:Int) (i:Int) (out:ZoK):Zzu:=
 chk (ZjC (out.length+([(IntKind.wrap .u32 c)]:ZoK).length) 4) <|
 chk (decide (0≤(32:Int))) <|
 chk (inK .i64 (i+1)) <|
 rec_ a b (shrK .u64 c 32) (i+1) (out++([(IntKind.wrap .u32 c)]:ZoK))
def ZrE (rec_:ZLW) (a:ZoK) (b:ZoK) (c:Int) (i:Int) (out:ZoK):Zzu:=
 bif (decide (i < (b.length:Int)))then (
  (idx b i).bind fun b_e=>
  ZrD rec_ a b (IntKind.wrap .u64 (c+(IntKind.wrap .u64 b_e))) i out
 )else (
  ZrD rec_ a b c i out
 )
def Zqu (rec_:ZLW) (a:ZoK) (b:ZoK) (c:Int) (i:Int) (t17:Bool) (out:ZoK):Zzu:=
 bif t17 then (
  bif (decide (i < (a.length:Int)))then (
   (idx a i).bind fun a_e=>
   ZrE rec_ a b (IntKind.wrap .u64 (c+(IntKind.wrap .u64 a_e))) i out
  )else (
   ZrE rec_ a b c i out
  )
 )else (
  some (c,out)
 )
def ZsA (rec_:ZLW) (a:ZoK) (b:ZoK) (c:Int) (i:Int) (out:ZoK):Zzu:=
 bif (decide (i < (a.length:Int)))then (
  Zqu rec_ a b c i true out
 )else (
  Zqu rec_ a b c i (decide (i < (b.length:Int))) out
 )
def ZpO:Nat→ZoK→ZoK→Int→Int→ZoK→Zzu
 |0,_,_,_,_,_=>none
 |n_+1,a,b,c,i,out=>ZsA (ZpO n_) a b c i out
def ZyT (n:Nat) (s:(ZoK×ZoK×Int×Int×ZoK)):Zzu:=ZpO n s.1 s.2.1 s.2.2.1 s.2.2.2.1 s.2.2.2.2
def Zvt (rec_:(ZoK×ZoK×Int×Int×ZoK)→Zzu) (s:(ZoK×ZoK×Int×Int×ZoK)):Zzu:=ZsA (fun a b c i out=>rec_ (a,b,c,i,out)) s.1 s.2.1 s.2.2.1 s.2.2.2.1 s.2.2.2.2
theorem ZBH:∀n s,ZyT (n+1) s=Zvt (ZyT n) s:=fun _ _=>rfl
def Ztk (a:ZoK) (b:ZoK):Option ZoK:=
 (ZpO big a b (0:Int) (0:Int) ([]:ZoK)).bind fun(x0,x1)=>ZwP x0 x1
def ZuU (a:ZoN) (b:ZoN):Option ZoN:=
 bif (a.Neg == b.Neg)then (
  (Ztk a.Words b.Words).bind fun q=>
  (Zpc a.Neg q).bind fun q_1=>
  some q_1
 )else (
  (ZpC a.Words b.Words).bind fun q_2=>
  bif (decide (q_2≥0))then (
   (Zqw a.Words b.Words).bind fun q_3=>
   (Zpc a.Neg q_3).bind fun q_4=>
   some q_4
  )else (
   (Zqw b.Words a.Words).bind fun q_5=>
   (Zpc b.Neg q_5).bind fun q_6=>
   some q_6
  )
 )
def ZtR (t13:Bool) (a:ZoG) (b:ZoG):Option Int:=
 bif t13 then (
  some (0:Int)
 )else (
  (Zp0 a.Num b.Den).bind fun q=>
  (Zp0 b.Num a.Den).bind fun q_1=>
  (Zug q_1).bind fun q_2=>
  (ZuU q q_2).bind fun x_=>
  bif ((x_.Words.length:Int) == 0)then (
   some (0:Int)
  )else (
   bif x_.Neg then (
    some (-1:Int)
   )else (
    some (1:Int)
   )
  )
 )
def ZvU (a:ZoG) (b:ZoG):Option Int:=
 (Zr1 a).bind fun q=>
 bif (!q)then (
  ZtR true a b
 )else (
  (Zr1 b).bind fun q_1=>
  ZtR (!q_1) a b
 )
def Zss (a:ZoG) (b:ZoG):Option Bool:=
 (ZvU a b).bind fun q=>
 some (decide (q < 0))
def Zq2:Option Bool:=
 (Zr2).bind fun q=>
 some q
def ZoV (rec_:ZQV) (l:ZAZ) (all:Zw2) (t68:Zw2) (t69:Int) (i:Int) (t145:Bool) (q:ZoF):Zr8:=
 bif t145 then (
  some (.ret false)
 )else (
  chk (inK .i64 (i+1)) <|
  rec_ l all t68 t69 (i+1) q
 )
def ZpE (rec_:ZQV) (l:ZAZ) (all:Zw2) (t68:Zw2) (t69:Int) (i:Int) (q:ZoF):Zr8:=
 bif (decide (i < t69))then (
  (idx t68 i).bind fun m=>
  (ZuS l m.Table).bind fun(x_,ok)=>
  (ZqL q x_).bind fun(a,s,g)=>
  bif (!ok)then (
   ZoV rec_ l all t68 t69 i true q
  )else (
   bif (g != 0)then (
    ZoV rec_ l all t68 t69 i true q
   )else (
    (Zps s m.Score).bind fun q_1=>
    bif (!q_1)then (
     ZoV rec_ l all t68 t69 i true q
    )else (
     (ZpA a m.Align).bind fun q_2=>
     bif (!q_2)then (
      ZoV rec_ l all t68 t69 i true q
     )else (
      bif (decide (i > 0))then (
       chk (inK .i64 (i - 1)) <|
       (idx all (i - 1)).bind fun all_e=>
       (Zss all_e.Score m.Score).bind fun q_3=>
       bif q_3 then (
        ZoV rec_ l all t68 t69 i true q
       )else (
        chk (inK .i64 (i - 1)) <|
        (idx all (i - 1)).bind fun all_e_1=>
        (Zps all_e_1.Score m.Score).bind fun q_4=>
        bif q_4 then (
         chk (inK .i64 (i - 1)) <|
         (idx all (i - 1)).bind fun all_e_2=>
         ZoV rec_ l all t68 t69 i (decide (all_e_2.Table≥m.Table)) q
        )else (
         ZoV rec_ l all t68 t69 i false q
        )
       )
      )else (
       ZoV rec_ l all t68 t69 i false q
      )
     )
    )
   )
  )
 )else (
  some (.brk ())
 )
def Zpe:Nat→ZAZ→Zw2→Zw2→Int→Int→ZoF→Zr8
 |0,_,_,_,_,_,_=>none
 |n_+1,l,all,t68,t69,i,q=>ZpE (Zpe n_) l all t68 t69 i q
def ZtC (n:Nat) (s:(ZAZ×Zw2×Zw2×Int×Int×ZoF)):Zr8:=Zpe n s.1 s.2.1 s.2.2.1 s.2.2.2.1 s.2.2.2.2.1 s.2.2.2.2.2
def ZqC (rec_:(ZAZ×Zw2×Zw2×Int×Int×ZoF)→Zr8) (s:(ZAZ×Zw2×Zw2×Int×Int×ZoF)):Zr8:=ZpE (fun l all t68 t69 i q=>rec_ (l,all,t68,t69,i,q)) s.1 s.2.1 s.2.2.1 s.2.2.2.1 s.2.2.2.2.1 s.2.2.2.2.2
theorem Zyd:∀n s,ZtC (n+1) s=ZqC (ZtC n) s:=fun _ _=>rfl
def Zpf (l:ZAZ) (all:Zw2) (t67:Bool) (q:ZoF):Option Bool:=
 bif t67 then (
  some false
 )else (
  (Zpe big l all all (all.length:Int) (0:Int) q).bind fun
   | .ret q_=>some q_
   | .brk ()=>Zq2
 )
def ZrW (t:ZoK) (k:Int):Option Bool:=
 (Zyf t).bind fun q=>
 bif (!q)then (
  (Zr2).bind fun q_1=>
  some q_1
 )else (
  (ZyW t).bind fun d=>
  (ZsB d 4).bind fun(l,t25)=>
  (Zrq t25 0).bind fun(q_2,t27)=>
  (Zvb l q_2 1024).bind fun(all,e)=>
  (Zrh k 4).bind fun q_3=>
  (Zvb l q_2 q_3).bind fun(some_,f)=>
  bif (e != 0)then (
   Zpf l all true q_2
  )else (
   bif (f != 0)then (
    Zpf l all true q_2
   )else (
    (Zrh k 4).bind fun q_4=>
    bif ((some_.length:Int) != (if q_4 < (all.length:Int)then q_4 else (all.length:Int)))then (
     Zpf l all true q_2
    )else (
     chk (Zcp 0 (some_.length:Int) (all.length:Int)) <|
     (ZuN some_ (all.take ((some_.length:Int)).toNat)).bind fun q_5=>
     Zpf l all (!q_5) q_2
    )
   )
  )
 )
end
end Go.Proofs

/- Printed by wip/tools/tgen.py: specs. -/
import Derived.Test.YtdmabekeafhflaaGreatDoorE5
import Derived.Lib.Bytealg
import Derived.Lib.ItoaNum
import Derived.Lib.LaidU8
import Derived.Lib.SlTrimSet
import Derived.Shelf.Strconv.Itoa3
import Derived.Test.YtdmabekeafhflaaGreatDoorUsWD
set_option linter.unusedVariables false
set_option linter.unusedSimpArgs false
set_option linter.unusedSectionVars false
namespace Go.Proofs
open Go Eng
set_option maxRecDepth 100000
noncomputable section
structure ZoP where
 Null:Bool
 Text:Str
 deriving DecidableEq,Inhabited
structure ZoL where
 Name:Str
 Cells:(List ZoP)
 deriving DecidableEq,Inhabited
structure ZoG where
 ID:Int
 Name:Str
 Columns:(List ZoL)
 deriving DecidableEq,Inhabited
structure ZoM where
 Neg:Bool
 Words:(List Int)
 deriving DecidableEq,Inhabited
structure ZoF where
 Num:ZoM
 Den:ZoM
 deriving DecidableEq,Inhabited
structure ZoH where
 lo:Int
 hi:Int
 deriving DecidableEq,Inhabited
structure ZpE where
 word:Str
 canonical:(Option Nat)
 value:(Option Nat)
 deriving DecidableEq,Inhabited
structure ZoR where
 e0:Int
 e1:Int
 deriving DecidableEq,Inhabited
structure Zqp where
 w_:(List (List ZoF))
 best:(List (ZoR×ZoF))
 deriving DecidableEq,Inhabited
structure ZoJ where
 l:(List Int)
 at_:Int
 deriving DecidableEq,Inhabited
abbrev ZtI:Type:={l:List Int // l.length=256}
structure Zo8 where
 e0:ZoH
 e1:ZoH
 e2:ZoH
 e3:ZoH
 e4:ZoH
 e5:ZoH
 e6:ZoH
 e7:ZoH
 e8:ZoH
 e9:ZoH
 e10:ZoH
 e11:ZoH
 e12:ZoH
 e13:ZoH
 e14:ZoH
 e15:ZoH
 deriving DecidableEq,Inhabited
def Zvz:Nat→Type
 |0=>ZoP
 |1=>ZoL
 |2=>ZoG
 |3=>ZoM
 |4=>ZoF
 |5=>ZoH
 |6=>ZpE
 |7=>ZoR
 |8=>Zqp
 |9=>ZoJ
 |10=>ZtI
 |11=>Zo8
 |_=>Unit
def ZMH:Nat→Nat
 |0=>2
 |1=>2
 |2=>3
 |3=>2
 |4=>4
 |5=>2
 |6=>3
 |7=>2
 |8=>2
 |9=>2
 |10=>256
 |11=>32
 |_=>0
def ZBW:(n:Nat)→Zvz n→Zvz n→Bool
 |7,x,y=>x.e0 == y.e0&&x.e1 == y.e1
 |_,_,_=>false
def ZA3:List (Lf Zvz):=[⟨.sl (.int .u32),([1]:List Int)⟩]
def ZxJ:List (Lf Zvz):=(Lib.firstTab.map fun n=>⟨.int .u8,n⟩)
def ZrY:List (Lf Zvz):=[⟨.int .u8,(128:Int)⟩,⟨.int .u8,(191:Int)⟩,⟨.int .u8,(160:Int)⟩,⟨.int .u8,(191:Int)⟩,⟨.int .u8,(128:Int)⟩,⟨.int .u8,(159:Int)⟩,⟨.int .u8,(144:Int)⟩,⟨.int .u8,(191:Int)⟩,⟨.int .u8,(128:Int)⟩,⟨.int .u8,(143:Int)⟩,⟨.int .u8,(0:Int)⟩,⟨.int .u8,(0:Int)⟩,⟨.int .u8,(0:Int)⟩,⟨.int .u8,(0:Int)⟩,⟨.int .u8,(0:Int)⟩,⟨.int .u8,(0:Int)⟩,⟨.int .u8,(0:Int)⟩,⟨.int .u8,(0:Int)⟩,⟨.int .u8,(0:Int)⟩,⟨.int .u8,(0:Int)⟩,⟨.int .u8,(0:Int)⟩,⟨.int .u8,(0:Int)⟩,⟨.int .u8,(0:Int)⟩,⟨.int .u8,(0:Int)⟩,⟨.int .u8,(0:Int)⟩,⟨.int .u8,(0:Int)⟩,⟨.int .u8,(0:Int)⟩,⟨.int .u8,(0:Int)⟩,⟨.int .u8,(0:Int)⟩,⟨.int .u8,(0:Int)⟩,⟨.int .u8,(0:Int)⟩,⟨.int .u8,(0:Int)⟩]
def Zxi:List (Lf Zvz):=(Lib.pow10Tab.map fun n=>⟨.int .u64,n⟩)
abbrev ZoI:Type:=List Int
abbrev ZqA:Type:=List ZoL
abbrev Zrc:Type:=List ZoF
abbrev Zv1:Type:=List ZoP
abbrev Zzc:Type:=List Str
abbrev ZMp:Type:=Option ((List Zrc)×Int×Int×(List Zrc)×Int×Int×Bool×Bool×(List (ZoR×ZoF))×ZoI×ZoI×ZoI)
abbrev ZHK:Type:=Option ((List Zrc)×(List (ZoR×ZoF))×Bool×Bool×ZoR×ZoF×ZoI×ZoI)
abbrev ZJ1:Type:=Option (ZqA×Int×Int×ZoG×ZoG×Bool×Bool×(List Zrc)×Zrc×ZoI×ZoI)
abbrev ZMo:Type:=Option ((List Zrc)×Bool×Bool×(List (ZoR×ZoF))×ZoI×ZoI×ZoI)
abbrev ZE7:Type:=Option (Out (ZoI×ZoG×ZoG×Int×Str×ZqA) (ZoG×Int))
abbrev ZJd:Type:=Option (Out (ZoI×Int×Int×ZqA×Int×Int×ZoG×ZoG) Bool)
abbrev ZJc:Type:=Option (ZoG×ZoG×Bool×Bool×(List Zrc)×ZoI×ZoI)
abbrev Tr_7:Type:=Option (ZoF×Bool×(List (ZoR×ZoF)))
abbrev ZJ0:Type:=Option (Bool×Str×ZoI×ZoI×Bool×Bool×ZoI×ZoI×ZoI)
abbrev ZJZ:Type:=Option (ZoJ×Int×Str×Int×Str×ZqA×ZqA)
abbrev ZAW:Type:=Option (ZoF×(List (ZoR×ZoF)))
abbrev ZE6:Type:=Option (Nat×Nat×ZoI×Int×Int×Int×Int×ZoI)
abbrev ZDY:Type:=Option (ZoJ×Str×Str×Zv1×Zv1)
abbrev ZE5:Type:=Option (Bool×ZoI×ZoI×Bool×Bool×ZoI×ZoI)
abbrev ZE4:Type:=Option (ZoI×Int×Int×ZoI×Int×Int×ZoI)
abbrev ZE3:Type:=Option (Int×Str×Int×Str×ZqA×Nat×ZqA)
abbrev ZDX:Type:=Option (Int×Str×Int×Str×ZqA×ZqA×Nat)
abbrev ZDW:Type:=Option (Int×Int×Bool×Bool×ZoI×ZoI)
abbrev ZLc:Type:=Option (ZoL×ZoJ)
abbrev ZDV:Type:=Option (Nat×Nat×ZoI×Int×Int×ZoI)
abbrev ZJf:Type:=Option (ZoG×ZoJ)
abbrev ZE2:Type:=Option (Nat×Nat×Int×Int×Int×ZoI)
abbrev ZLb:Type:=Option (ZoP×ZoJ)
abbrev ZE1:Type:=Option (Out ((List Zrc)×Int×Int) Int)
abbrev ZE0:Type:=Option (ZoI×ZoI×Int×Int×ZoI)
abbrev ZEZ:Type:=Option (ZoI×ZoF×Int)
abbrev ZEY:Type:=Option (Nat×Nat×ZoI×ZoI)
abbrev ZEX:Type:=Option (Int×Int×ZoI×ZoI)
abbrev ZEW:Type:=Option (Zzc×Str×Int×Int)
abbrev ZDU:Type:=Option (ZoF×Bool)
abbrev ZBj:Type:=Option (ZoF×Int)
abbrev ZBY:Type:=Option (Out (List Zrc) Int)
abbrev ZGg:Type:=Option (ZoG×Int)
abbrev ZDv:Type:=Option (ZoI×ZoI×Int)
abbrev ZBP:Type:=Option (Nat×Nat×ZoI)
abbrev Zv2:Type:=Option (Out Unit Bool)
abbrev ZxP:Type:=Option (Out Unit Int)
abbrev ZBi:Type:=Option (ZoI×ZoI)
abbrev ZEV:Type:=Option (Out Str Str)
abbrev ZJe:Type:=Option (Int×Bool)
abbrev ZDu:Type:=Option (ZoI×Int)
abbrev ZwJ:Type:=Option (Int×ZoI)
abbrev ZDT:Type:=Option (Str×Bool)
abbrev ZEU:Type:=Option (Int×Int)
abbrev Tf_0:Type:=(List Zrc)→Int→Int→Int→(List Zrc)→Int→Int→Int→Int→Bool→Bool→(List (ZoR×ZoF))→ZoI→ZoF→ZoI→ZoI→ZMp
abbrev ZM6:Type:=(List Zrc)→Int→Int→Int→Int→(List (ZoR×ZoF))→Bool→Bool→ZoR→ZoF→ZoI→ZoI→ZHK
abbrev Tf_2:Type:=(List Zrc)→Int→(List Zrc)→Int→Int→Bool→Bool→(List (ZoR×ZoF))→ZoI→ZoI→ZoI→ZMo
abbrev Tf_3:Type:=ZoI→Int→Int→Int→ZqA→Int→Int→Zv1→Int→Int→ZoG→ZoG→ZJd
abbrev Tf_4:Type:=ZqA→Int→Int→ZoG→ZoG→Bool→Bool→(List Zrc)→ZoI→ZoI→ZJc
abbrev Tf_5:Type:=ZoI→Int→Int→ZoG→Int→Str→Int→Str→ZqA→ZqA→Nat→ZDX
abbrev Tf_6:Type:=(ZoI×ZoI×Int×Int×ZoG×ZoG×Int×Str×ZqA)→ZE7
abbrev ZMq:Type:=ZoI→ZoI→Int→Int→ZoG→ZoG→Int→Str→ZqA→ZE7
abbrev Tf_8:Type:=Int→Int→Int→ZoJ→Str→Str→Zv1→Zv1→ZDY
abbrev ZM5:Type:=ZoI→Int→Int→ZqA→Int→Int→ZoG→ZoG→Zv2
abbrev ZLm:Type:=Int→Int→Zv1→Int→Int→Bool→Bool→ZoI→ZoI→ZDW
abbrev ZLl:Type:=Nat→Nat→ZoI→Int→Int→Int→ZoI→ZDV
abbrev ZLk:Type:=((List Zrc)×(List Zrc)×Int×Int)→ZBY
abbrev ZLj:Type:=(ZoI×ZoI×Int×Int×ZoI)→Option ZoI
abbrev ZLi:Type:=(List Zrc)→(List Zrc)→Int→Int→ZBY
abbrev ZHd:Type:=ZoI→ZoI→Int→Int→ZoI→Option ZoI
abbrev ZLh:Type:=Zzc→Int→Zzc→Int→Int→Option Int
abbrev ZLg:Type:=ZoI→ZoI→ZoI→Int→ZoI→ZBi
abbrev ZLf:Type:=ZoI→ZoI→Int→ZoI→Option ZoI
abbrev ZHc:Type:=ZoI→ZoI→Int→Int→ZoI→ZwJ
abbrev ZLe:Type:=ZoI→Int→Int→ZoI→Option ZoI
abbrev ZLd:Type:=(List Zrc)→Int→Int→ZxP
abbrev ZHb:Type:=ZoI→ZoI→Int→ZDu
abbrev ZHa:Type:=ZoI→ZoI→Int→ZDv
abbrev ZGh:Type:=ZoI→Option ZoI
abbrev ZDw:Type:=Str→Zv2
def ZvG (t:ZoI):Option Bool:=
 some (decide ((t.length:Int)≤500))
def Zo5 (s:Str):Option Int:=
 (idx s 0).bind fun c=>
 (idx s 1).bind fun c_1=>
 chk (decide (0≤(8:Int))) <|
 (idx s 2).bind fun c_2=>
 chk (decide (0≤(16:Int))) <|
 (idx s 3).bind fun c_3=>
 chk (decide (0≤(24:Int))) <|
 (idx s 4).bind fun c_4=>
 chk (decide (0≤(32:Int))) <|
 (idx s 5).bind fun c_5=>
 chk (decide (0≤(40:Int))) <|
 (idx s 6).bind fun c_6=>
 chk (decide (0≤(48:Int))) <|
 (idx s 7).bind fun c_7=>
 chk (decide (0≤(56:Int))) <|
 some (orK .u64 (orK .u64 (orK .u64 (orK .u64 (orK .u64 (orK .u64 (orK .u64 (IntKind.wrap .u64 ((c.toNat:Nat):Int)) (shlK .u64 (IntKind.wrap .u64 ((c_1.toNat:Nat):Int)) 8)) (shlK .u64 (IntKind.wrap .u64 ((c_2.toNat:Nat):Int)) 16)) (shlK .u64 (IntKind.wrap .u64 ((c_3.toNat:Nat):Int)) 24)) (shlK .u64 (IntKind.wrap .u64 ((c_4.toNat:Nat):Int)) 32)) (shlK .u64 (IntKind.wrap .u64 ((c_5.toNat:Nat):Int)) 40)) (shlK .u64 (IntKind.wrap .u64 ((c_6.toNat:Nat):Int)) 48)) (shlK .u64 (IntKind.wrap .u64 ((c_7.toNat:Nat):Int)) 56))
def ZsL:Option Bool:=
 some true
def Zo0 (rec_:ZDw) (s:Str) (t166:Bool):Zv2:=
 bif t166 then (
  some (.ret false)
 )else (
  chk (Zcp 4 (s.length:Int) (s.length:Int)) <|
  rec_ (s.drop ((4:Int)).toNat)
 )
def Zpb (rec_:ZDw) (s:Str) (t125:Bool):Zv2:=
 bif t125 then (
  some (.ret false)
 )else (
  chk (Zcp 3 (s.length:Int) (s.length:Int)) <|
  rec_ (s.drop ((3:Int)).toNat)
 )
def Zpx (rec_:ZDw) (s:Str) (t94:Bool):Zv2:=
 bif t94 then (
  some (.ret false)
 )else (
  chk (Zcp 2 (s.length:Int) (s.length:Int)) <|
  rec_ (s.drop ((2:Int)).toNat)
 )
def ZpW (rec_:ZDw) (s:Str):Zv2:=
 rec_ s
def ZsM (rec_:ZDw) (s:Str):Zv2:=
 rec_ s
def ZqS (rec_:Str→Option Str) (s:Str) (t62:Bool):Option Str:=
 bif t62 then (
  chk (Zcp 32 (s.length:Int) (s.length:Int)) <|
  rec_ (s.drop ((32:Int)).toNat)
 )else (
  some s
 )
def Zr1 (rec_:Str→Option Str) (s:Str):Option Str:=
 bif (decide ((s.length:Int) > 32))then (
  (Zo5 s).bind fun q=>
  chk (Zcp 8 (s.length:Int) (s.length:Int)) <|
  (Zo5 (s.drop ((8:Int)).toNat)).bind fun q_1=>
  chk (Zcp 16 (s.length:Int) (s.length:Int)) <|
  (Zo5 (s.drop ((16:Int)).toNat)).bind fun q_2=>
  chk (Zcp 24 (s.length:Int) (s.length:Int)) <|
  (Zo5 (s.drop ((24:Int)).toNat)).bind fun q_3=>
  ZqS rec_ s ((andK .u64 (orK .u64 (orK .u64 q q_1) (orK .u64 q_2 q_3)) 9259542123273814144) == 0)
 )else (
  ZqS rec_ s false
 )
def Zpw:Nat→Str→Option Str
 |0,_=>none
 |n_+1,s=>Zr1 (Zpw n_) s
def ZpX (rec_:ZDw) (s:Str) (t39:Bool):Zv2:=
 bif t39 then (
  chk (Zcp 16 (s.length:Int) (s.length:Int)) <|
  (Zpw big (s.drop ((16:Int)).toNat)).bind fun x0=>ZsM rec_ x0
 )else (
  ZpW rec_ s
 )
def ZpY (rec_:ZDw) (s:Str) (t24:Bool):Zv2:=
 bif t24 then (
  chk (Zcp 8 (s.length:Int) (s.length:Int)) <|
  bif (decide (((s.drop ((8:Int)).toNat).length:Int) > 16))then (
   (Zo5 (s.drop ((8:Int)).toNat)).bind fun q=>
   chk (Zcp 8 ((s.drop ((8:Int)).toNat).length:Int) ((s.drop ((8:Int)).toNat).length:Int)) <|
   (Zo5 ((s.drop ((8:Int)).toNat).drop ((8:Int)).toNat)).bind fun q_1=>
   ZpX rec_ (s.drop ((8:Int)).toNat) ((andK .u64 (orK .u64 q q_1) 9259542123273814144) == 0)
  )else (
   ZpX rec_ (s.drop ((8:Int)).toNat) false
  )
 )else (
  ZpW rec_ s
 )
def Zr2 (rec_:ZDw) (s:Str):Zv2:=
 bif (decide ((s.length:Int) > 0))then (
  (idx s 0).bind fun c=>
  bif (decide (((c.toNat:Nat):Int) < 128))then (
   chk (Zcp 1 (s.length:Int) (s.length:Int)) <|
   bif (decide (((s.drop ((1:Int)).toNat).length:Int) > 8))then (
    (Zo5 (s.drop ((1:Int)).toNat)).bind fun q=>
    ZpY rec_ (s.drop ((1:Int)).toNat) ((andK .u64 q 9259542123273814144) == 0)
   )else (
    ZpY rec_ (s.drop ((1:Int)).toNat) false
   )
  )else (
   chk (inR ((c.toNat:Nat):Int) 256) <|
   (tabB (car:=Zvz) (.int .u8) ZxJ ((((c.toNat:Nat):Int)).toNat*1)).bind fun c_1=>
   chk (decide (0≤(4:Int))) <|
   chk (inR (shrK .u8 c_1 4) 16) <|
   (tabB (car:=Zvz) (.int .u8) ZrY (((shrK .u8 c_1 4)).toNat*2)).bind fun c_2=>
   (tabB (car:=Zvz) (.int .u8) ZrY (((shrK .u8 c_1 4)).toNat*2+1)).bind fun c_3=>
   bif ((IntKind.wrap .i64 (andK .u8 c_1 7)) == 2)then (
    bif (decide ((s.length:Int) < 2))then (
     Zpx rec_ s true
    )else (
     (idx s 1).bind fun c_4=>
     bif (decide (((c_4.toNat:Nat):Int) < c_2))then (
      Zpx rec_ s true
     )else (
      (idx s 1).bind fun c_5=>
      Zpx rec_ s (decide (c_3 < ((c_5.toNat:Nat):Int)))
     )
    )
   )else (
    bif ((IntKind.wrap .i64 (andK .u8 c_1 7)) == 3)then (
     bif (decide ((s.length:Int) < 3))then (
      Zpb rec_ s true
     )else (
      (idx s 1).bind fun c_6=>
      bif (decide (((c_6.toNat:Nat):Int) < c_2))then (
       Zpb rec_ s true
      )else (
       (idx s 1).bind fun c_7=>
       bif (decide (c_3 < ((c_7.toNat:Nat):Int)))then (
        Zpb rec_ s true
       )else (
        (idx s 2).bind fun c_8=>
        bif (decide (((c_8.toNat:Nat):Int) < 128))then (
         Zpb rec_ s true
        )else (
         (idx s 2).bind fun c_9=>
         Zpb rec_ s (decide ((191:Int) < ((c_9.toNat:Nat):Int)))
        )
       )
      )
     )
    )else (
     bif ((IntKind.wrap .i64 (andK .u8 c_1 7)) == 4)then (
      bif (decide ((s.length:Int) < 4))then (
       Zo0 rec_ s true
      )else (
       (idx s 1).bind fun c_10=>
       bif (decide (((c_10.toNat:Nat):Int) < c_2))then (
        Zo0 rec_ s true
       )else (
        (idx s 1).bind fun c_11=>
        bif (decide (c_3 < ((c_11.toNat:Nat):Int)))then (
         Zo0 rec_ s true
        )else (
         (idx s 2).bind fun c_12=>
         bif (decide (((c_12.toNat:Nat):Int) < 128))then (
          Zo0 rec_ s true
         )else (
          (idx s 2).bind fun c_13=>
          bif (decide ((191:Int) < ((c_13.toNat:Nat):Int)))then (
           Zo0 rec_ s true
          )else (
           (idx s 3).bind fun c_14=>
           bif (decide (((c_14.toNat:Nat):Int) < 128))then (
            Zo0 rec_ s true
           )else (
            (idx s 3).bind fun c_15=>
            Zo0 rec_ s (decide ((191:Int) < ((c_15.toNat:Nat):Int)))
           )
          )
         )
        )
       )
      )
     )else (
      some (.ret false)
     )
    )
   )
  )
 )else (
  some (.brk ())
 )
def ZoU:Nat→Str→Zv2
 |0,_=>none
 |n_+1,s=>Zr2 (ZoU n_) s
def ZpQ (s:Str):Option Bool:=
 (ZoU big s).bind fun
  | .ret q_=>some q_
  | .brk ()=>ZsL
def ZzY (s:Str):Option Bool:=
 (ZpQ s).bind fun q=>
 some q
def Zxm (t2:Bool):Option Bool:=
 some t2
def Zxf (s:Str):Option Bool:=
 bif (decide ((s.length:Int)≤1024))then (
  (ZzY s).bind fun q=>
  Zxm q
 )else (
  Zxm false
 )
def Zu5 (t:ZoG):Option Int:=
 bif ((t.Columns.length:Int) == 0)then (
  some (0:Int)
 )else (
  (idx t.Columns 0).bind fun Column=>
  some (Column.Cells.length:Int)
 )
def ZsW (t2:Bool):Option Bool:=
 some t2
def Zwz (c:ZoP):Option Bool:=
 (Zxf c.Text).bind fun q=>
 bif q then (
  bif c.Null then (
   ZsW (!(!(c.Text == ([]:Str))))
  )else (
   ZsW true
  )
 )else (
  ZsW false
 )
def Zuz:Option Bool:=
 some true
def Zrn (rec_:Zv1→Int→Int→Zv2) (t7:Zv1) (t8:Int) (t9:Int):Zv2:=
 bif (decide (t9 < t8))then (
  (idx t7 t9).bind fun x_=>
  (Zwz x_).bind fun q=>
  bif (!q)then (
   some (.ret false)
  )else (
   chk (inK .i64 (t9+1)) <|
   rec_ t7 t8 (t9+1)
  )
 )else (
  some (.brk ())
 )
def Zsm:Nat→Zv1→Int→Int→Zv2
 |0,_,_,_=>none
 |n_+1,t7,t8,t9=>Zrn (Zsm n_) t7 t8 t9
def ZtQ (l:Zv1):Option Bool:=
 (Zsm big l (l.length:Int) (0:Int)).bind fun
  | .ret q_=>some q_
  | .brk ()=>Zuz
def Zt6 (t3:Bool):Option Bool:=
 some t3
def Zxn (c:ZoL) (a1:ZoG):Option Bool:=
 (Zxf c.Name).bind fun q=>
 bif (!q)then (
  Zt6 true
 )else (
  (Zu5 a1).bind fun q_1=>
  bif ((c.Cells.length:Int) != q_1)then (
   Zt6 true
  )else (
   (ZtQ c.Cells).bind fun q_2=>
   Zt6 (!q_2)
  )
 )
def ZpT:Option Int:=
 some (-1:Int)
def ZpK (rec_:ZqA→ZoG→Int→Int→ZxP) (s:ZqA) (f:ZoG) (t7:Int) (i:Int):ZxP:=
 bif (decide (i < t7))then (
  (idx s i).bind fun s_e=>
  (Zxn s_e f).bind fun q=>
  bif q then (
   some (.ret i)
  )else (
   chk (inK .i64 (i+1)) <|
   rec_ s f t7 (i+1)
  )
 )else (
  some (.brk ())
 )
def Zpk:Nat→ZqA→ZoG→Int→Int→ZxP
 |0,_,_,_,_=>none
 |n_+1,s,f,t7,i=>ZpK (Zpk n_) s f t7 i
def Zp8 (s:ZqA) (c:ZoG):Option Int:=
 (Zpk big s c (s.length:Int) (0:Int)).bind fun
  | .ret q_=>some q_
  | .brk ()=>ZpT
def Zpl (s:ZqA) (c:ZoG):Option Bool:=
 (Zp8 s c).bind fun q=>
 some (decide (q≥0))
def ZsP (t27:Bool) (t:ZoG):Option Bool:=
 bif t27 then (
  some false
 )else (
  (Zpl t.Columns t).bind fun q=>
  some (!q)
 )
def Zsn (t:ZoG):Option Bool:=
 bif (decide (t.ID < 0))then (
  ZsP true t
 )else (
  bif (decide (t.ID > 1073741824))then (
   ZsP true t
  )else (
   (Zxf t.Name).bind fun q=>
   bif (!q)then (
    ZsP true t
   )else (
    bif (decide ((t.Columns.length:Int) > 64))then (
     ZsP true t
    )else (
     (Zu5 t).bind fun q_1=>
     ZsP (decide (q_1 > 4096)) t
    )
   )
  )
 )
def ZsQ (c:ZoL):Option Zzc:=
 ZB1 (chk (decide (c.Cells.length≤1099511627776)) <| some (ZxL ((c.Cells.filter fun x=> !x.Null).map fun x=>x.Text)))
def ZvY (x_:Str):Option Bool:=
 some (!(x_ == x_))
def Zs0 (t4:Bool):Option Bool:=
 some t4
def ZwE (x_:Str) (y:Str):Option Bool:=
 (ZvY x_).bind fun q=>
 bif q then (
  (ZvY y).bind fun q_1=>
  bif (!q_1)then (
   Zs0 true
  )else (
   Zs0 (Op.bytesLess x_ y)
  )
 )else (
  Zs0 (Op.bytesLess x_ y)
 )
def Zt7 (x_:Str):Option Bool:=
 some (!(x_ == x_))
def Zpa (t4:Int) (t5:Bool):ZJe:=
 some (t4,t5)
def Zqt (x_:Zzc) (target:Str) (n:Int) (i:Int):ZJe:=
 bif (decide (i < n))then (
  (idx x_ i).bind fun x__e=>
  bif (x__e == target)then (
   Zpa i true
  )else (
   (idx x_ i).bind fun x__e_1=>
   (Zt7 x__e_1).bind fun q=>
   bif q then (
    (Zt7 target).bind fun q_1=>
    Zpa i q_1
   )else (
    Zpa i false
   )
  )
 )else (
  Zpa i false
 )
def Zp9 (rec_:Zzc→Str→Int→Int→Int→ZEW) (x_:Zzc) (target:Str) (n:Int) (i:Int) (j:Int):ZEW:=
 bif (decide (i < j))then (
  chk (inK .i64 (i+j)) <|
  chk (decide (0≤(1:Int))) <|
  (idx x_ (IntKind.wrap .i64 (shrK .u64 (IntKind.wrap .u64 (i+j)) 1))).bind fun x__e=>
  (ZwE x__e target).bind fun q=>
  bif q then (
   chk (inK .i64 ((IntKind.wrap .i64 (shrK .u64 (IntKind.wrap .u64 (i+j)) 1))+1)) <|
   rec_ x_ target n ((IntKind.wrap .i64 (shrK .u64 (IntKind.wrap .u64 (i+j)) 1))+1) j
  )else (
   rec_ x_ target n i (IntKind.wrap .i64 (shrK .u64 (IntKind.wrap .u64 (i+j)) 1))
  )
 )else (
  some (x_,target,n,i)
 )
def ZpB:Nat→Zzc→Str→Int→Int→Int→ZEW
 |0,_,_,_,_,_=>none
 |n_+1,x_,target,n,i,j=>Zp9 (ZpB n_) x_ target n i j
def Zr9 (n:Nat) (s:(Zzc×Str×Int×Int×Int)):ZEW:=ZpB n s.1 s.2.1 s.2.2.1 s.2.2.2.1 s.2.2.2.2
def Zsa (rec_:(Zzc×Str×Int×Int×Int)→ZEW) (s:(Zzc×Str×Int×Int×Int)):ZEW:=Zp9 (fun x_ target n i j=>rec_ (x_,target,n,i,j)) s.1 s.2.1 s.2.2.1 s.2.2.2.1 s.2.2.2.2
theorem ZvI:∀n s,Zr9 (n+1) s=Zsa (Zr9 n) s:=fun _ _=>rfl
def ZpU (x_:Zzc) (target:Str):ZJe:=
 (ZpB big x_ target (x_.length:Int) (0:Int) (x_.length:Int)).bind fun(x0,x1,x2,x3)=>Zqt x0 x1 x2 x3
def ZvJ (n:Int):Option Int:=
 some n
def ZtR (rec_:ZLh) (b:Zzc) (n:Int) (t10:Zzc) (t11:Int) (t12:Int):Option Int:=
 chk (inK .i64 (t12+1)) <|
 rec_ b n t10 t11 (t12+1)
def ZsG (rec_:ZLh) (b:Zzc) (n:Int) (t10:Zzc) (t11:Int) (t12:Int):Option Int:=
 bif (decide (t12 < t11))then (
  (idx t10 t12).bind fun s=>
  (ZpU b s).bind fun(q,ok)=>
  bif ok then (
   chk (inK .i64 (n+1)) <|
   ZtR rec_ b (n+1) t10 t11 t12
  )else (
   ZtR rec_ b n t10 t11 t12
  )
 )else (
  some n
 )
def ZrW:Nat→Zzc→Int→Zzc→Int→Int→Option Int
 |0,_,_,_,_,_=>none
 |n_+1,b,n,t10,t11,t12=>ZsG (ZrW n_) b n t10 t11 t12
def Zxg (n:Nat) (s:(Zzc×Int×Zzc×Int×Int)):Option Int:=ZrW n s.1 s.2.1 s.2.2.1 s.2.2.2.1 s.2.2.2.2
def ZuW (rec_:(Zzc×Int×Zzc×Int×Int)→Option Int) (s:(Zzc×Int×Zzc×Int×Int)):Option Int:=ZsG (fun b n t10 t11 t12=>rec_ (b,n,t10,t11,t12)) s.1 s.2.1 s.2.2.1 s.2.2.2.1 s.2.2.2.2
theorem Zy7:∀n s,Zxg (n+1) s=ZuW (Zxg n) s:=fun _ _=>rfl
def Zu8 (a:Zzc) (b:Zzc):Option Int:=
 (ZrW big b (0:Int) a (a.length:Int) (0:Int)).bind fun x0=>ZvJ x0
def Zwl (w_:ZoI):Option ZoI:=
 some w_
def Zua (rec_:ZGh) (w_:ZoI) (t14:Bool):Option ZoI:=
 bif t14 then (
  chk (inK .i64 ((w_.length:Int) - 1)) <|
  chk (Zcp 0 ((w_.length:Int) - 1) (w_.length:Int)) <|
  rec_ (w_.take (((w_.length:Int) - 1)).toNat)
 )else (
  some w_
 )
def Zta (rec_:ZGh) (w_:ZoI):Option ZoI:=
 bif (decide ((w_.length:Int) > 0))then (
  chk (inK .i64 ((w_.length:Int) - 1)) <|
  (idx w_ ((w_.length:Int) - 1)).bind fun w__e=>
  Zua rec_ w_ (w__e == 0)
 )else (
  Zua rec_ w_ false
 )
def ZpP:Nat→ZoI→Option ZoI
 |0,_=>none
 |n_+1,w_=>Zta (ZpP n_) w_
def Zxt (n:Nat) (s:ZoI):Option ZoI:=ZpP n s
def Zxu (rec_:ZGh) (s:ZoI):Option ZoI:=Zta (fun w_=>rec_ w_) s
theorem Zzh:∀n s,Zxt (n+1) s=Zxu (Zxt n) s:=fun _ _=>rfl
def Zpj (w_:ZoI):Option ZoI:=
 (ZpP big w_).bind fun x0=>Zwl x0
def ZsJ (n:Int):Option ZoI:=
 chk (decide (0≤(32:Int))) <|
 (Zpj ([(IntKind.wrap .u32 n),(IntKind.wrap .u32 (shrK .u64 n 32))]:ZoI)).bind fun q=>
 some q
def ZuM (t4:Bool) (t4_1:ZoI):Option ZoM:=
 some (ZoM.mk t4 t4_1)
def Zpo (neg:Bool) (w_:ZoI):Option ZoM:=
 bif neg then (
  chk (ZjC w_.length 4) <|
  ZuM (decide ((w_.length:Int) > 0)) w_
 )else (
  chk (ZjC w_.length 4) <|
  ZuM false w_
 )
def Zud (n:Int):Option ZoM:=
 bif (decide (n < 0))then (
  (ZsJ (IntKind.wrap .u64 (0 - (IntKind.wrap .u64 n)))).bind fun q=>
  (Zpo true q).bind fun q_1=>
  some q_1
 )else (
  (ZsJ (IntKind.wrap .u64 n)).bind fun q_2=>
  (Zpo false q_2).bind fun q_3=>
  some q_3
 )
def ZpD (t2:Bool):Option Bool:=
 some t2
def ZtG (a:ZoM):Option Bool:=
 bif (decide ((a.Words.length:Int)≤256))then (
  bif ((a.Words.length:Int) == 0)then (
   bif (!a.Neg)then (
    ZpD true
   )else (
    bif (decide ((a.Words.length:Int) > 0))then (
     chk (inK .i64 ((a.Words.length:Int) - 1)) <|
     (idx a.Words ((a.Words.length:Int) - 1)).bind fun Word=>
     ZpD (Word != 0)
    )else (
     ZpD false
    )
   )
  )else (
   bif (decide ((a.Words.length:Int) > 0))then (
    chk (inK .i64 ((a.Words.length:Int) - 1)) <|
    (idx a.Words ((a.Words.length:Int) - 1)).bind fun Word_1=>
    ZpD (Word_1 != 0)
   )else (
    ZpD false
   )
  )
 )else (
  ZpD false
 )
def ZyS:Option Bool:=
 some true
def ZuN (rec_:(List ZoM)→Int→Int→Zv2) (t5:(List ZoM)) (t6:Int) (t7:Int):Zv2:=
 bif (decide (t7 < t6))then (
  (idx t5 t7).bind fun a=>
  (ZtG a).bind fun q=>
  bif (!q)then (
   some (.ret false)
  )else (
   chk (inK .i64 (t7+1)) <|
   rec_ t5 t6 (t7+1)
  )
 )else (
  some (.brk ())
 )
def ZvX:Nat→(List ZoM)→Int→Int→Zv2
 |0,_,_,_=>none
 |n_+1,t5,t6,t7=>ZuN (ZvX n_) t5 t6 t7
def Zyi (n:Nat) (s:((List ZoM)×Int×Int)):Zv2:=ZvX n s.1 s.2.1 s.2.2
def ZwQ (rec_:((List ZoM)×Int×Int)→Zv2) (s:((List ZoM)×Int×Int)):Zv2:=ZuN (fun t5 t6 t7=>rec_ (t5,t6,t7)) s.1 s.2.1 s.2.2
theorem Zz1:∀n s,Zyi (n+1) s=ZwQ (Zyi n) s:=fun _ _=>rfl
def Zwp (l:(List ZoM)):Option Bool:=
 (ZvX big l (l.length:Int) (0:Int)).bind fun
  | .ret q_=>some q_
  | .brk ()=>ZyS
def ZxA (x_:Int):Option Bool:=
 some (x_ != x_)
def ZwF (x_:Int) (y:Int):Option Int:=
 (ZxA x_).bind fun xNaN=>
 (ZxA y).bind fun yNaN=>
 bif xNaN then (
  bif yNaN then (
   some (0:Int)
  )else (
   some (-1:Int)
  )
 )else (
  bif yNaN then (
   some (1:Int)
  )else (
   bif (decide (x_ < y))then (
    some (-1:Int)
   )else (
    bif (decide (x_ > y))then (
     some (1:Int)
    )else (
     some (0:Int)
    )
   )
  )
 )
def Zxz (x_:Int):Option Bool:=
 some (x_ != x_)
def ZwS (x_:Int) (y:Int):Option Int:=
 (Zxz x_).bind fun xNaN=>
 (Zxz y).bind fun yNaN=>
 bif xNaN then (
  bif yNaN then (
   some (0:Int)
  )else (
   some (-1:Int)
  )
 )else (
  bif yNaN then (
   some (1:Int)
  )else (
   bif (decide (x_ < y))then (
    some (-1:Int)
   )else (
    bif (decide (x_ > y))then (
     some (1:Int)
    )else (
     some (0:Int)
    )
   )
  )
 )
def ZtD:Option Int:=
 some (0:Int)
def ZqY (rec_:ZoI→ZoI→Int→ZxP) (w_:ZoI) (v_:ZoI) (i:Int):ZxP:=
 bif (decide (i≥0))then (
  (idx w_ i).bind fun w__e=>
  (idx v_ i).bind fun v__e=>
  (ZwS w__e v__e).bind fun c=>
  bif (c != 0)then (
   some (.ret c)
  )else (
   chk (inK .i64 (i - 1)) <|
   rec_ w_ v_ (i - 1)
  )
 )else (
  some (.brk ())
 )
def Zrw:Nat→ZoI→ZoI→Int→ZxP
 |0,_,_,_=>none
 |n_+1,w_,v_,i=>ZqY (Zrw n_) w_ v_ i
def Zvs (n:Nat) (s:(ZoI×ZoI×Int)):ZxP:=Zrw n s.1 s.2.1 s.2.2
def ZsS (rec_:(ZoI×ZoI×Int)→ZxP) (s:(ZoI×ZoI×Int)):ZxP:=ZqY (fun w_ v_ i=>rec_ (w_,v_,i)) s.1 s.2.1 s.2.2
theorem Zx3:∀n s,Zvs (n+1) s=ZsS (Zvs n) s:=fun _ _=>rfl
def ZpL (w_:ZoI) (v_:ZoI):Option Int:=
 (ZwF (w_.length:Int) (v_.length:Int)).bind fun c=>
 bif (c != 0)then (
  some c
 )else (
  chk (inK .i64 ((w_.length:Int) - 1)) <|
  (Zrw big w_ v_ ((w_.length:Int) - 1)).bind fun
   | .ret q_=>some q_
   | .brk ()=>ZtD
 )
def ZoT (s:ZoI) (t4:Bool):Option ZoI:=
 bif t4 then (
  some ([]:ZoI)
 )else (
  chk (ZjC (([]:ZoI).length+s.length) 4) <|
  some (([]:ZoI)++s)
 )
def ZpN (s:ZoI):Option ZoI:=
 bif (List.isEmpty s)then agree (
  ZoT s true
 ) (
  ZoT s false
 )else (
  ZoT s false
 )
def ZsY (hi:Int) (lo:Int) (y:Int) (t15:Bool):ZEU:=
 bif t15 then (
  none
 )else (
  chk (decide (0≤(32:Int))) <|
  chk (decide ((IntKind.wrap .u64 y)≠0)) <|
  chk (decide ((IntKind.wrap .u64 y)≠0)) <|
  some ((IntKind.wrap .u32 (IntKind.wrap .u64 (Int.tdiv (orK .u64 (shlK .u64 (IntKind.wrap .u64 hi) 32) (IntKind.wrap .u64 lo)) (IntKind.wrap .u64 y)))),(IntKind.wrap .u32 (Int.tmod (orK .u64 (shlK .u64 (IntKind.wrap .u64 hi) 32) (IntKind.wrap .u64 lo)) (IntKind.wrap .u64 y))))
 )
def ZwC (hi:Int) (lo:Int) (y:Int):ZEU:=
 bif (y != 0)then (
  ZsY hi lo y (decide (y≤hi))
 )else (
  ZsY hi lo y false
 )
def ZuD (rest:Int) (out:ZoI):ZDu:=
 (Zpj out).bind fun q=>
 some (q,rest)
def Zrt (rec_:ZoI→Int→Int→Int→ZoI→ZwJ) (w_:ZoI) (d:Int) (rest:Int) (i:Int) (out:ZoI):ZwJ:=
 bif (decide (i≥0))then (
  (idx w_ i).bind fun w__e=>
  (ZwC rest w__e d).bind fun(q,rest_1)=>
  chk (inR i (out.length:Int)) <|
  chk (inK .i64 (i - 1)) <|
  rec_ w_ d rest_1 (i - 1) (out.set ((i).toNat) q)
 )else (
  some (rest,out)
 )
def Zsq:Nat→ZoI→Int→Int→Int→ZoI→ZwJ
 |0,_,_,_,_,_=>none
 |n_+1,w_,d,rest,i,out=>Zrt (Zsq n_) w_ d rest i out
def Zwi (n:Nat) (s:(ZoI×Int×Int×Int×ZoI)):ZwJ:=Zsq n s.1 s.2.1 s.2.2.1 s.2.2.2.1 s.2.2.2.2
def ZtA (rec_:(ZoI×Int×Int×Int×ZoI)→ZwJ) (s:(ZoI×Int×Int×Int×ZoI)):ZwJ:=Zrt (fun w_ d rest i out=>rec_ (w_,d,rest,i,out)) s.1 s.2.1 s.2.2.1 s.2.2.2.1 s.2.2.2.2
theorem Zyy:∀n s,Zwi (n+1) s=ZtA (Zwi n) s:=fun _ _=>rfl
def ZtS (w_:ZoI) (d:Int):ZDu:=
 chk (mkOk (w_.length:Int) (w_.length:Int) 4) <|
 chk (inK .i64 ((w_.length:Int) - 1)) <|
 (Zsq big w_ d (0:Int) ((w_.length:Int) - 1) (List.replicate ((w_.length:Int)).toNat (0:Int))).bind fun(x0,x1)=>ZuD x0 x1
def Zrz (x_:Int) (n:Int):Option Int:=
 (idx ([0,1,2,2,3,3,3,3,4,4,4,4,4,4,4,4,5,5,5,5,5,5,5,5,5,5,5,5,5,5,5,5,6,6,6,6,6,6,6,6,6,6,6,6,6,6,6,6,6,6,6,6,6,6,6,6,6,6,6,6,6,6,6,6,7,7,7,7,7,7,7,7,7,7,7,7,7,7,7,7,7,7,7,7,7,7,7,7,7,7,7,7,7,7,7,7,7,7,7,7,7,7,7,7,7,7,7,7,7,7,7,7,7,7,7,7,7,7,7,7,7,7,7,7,7,7,7,7,8,8,8,8,8,8,8,8,8,8,8,8,8,8,8,8,8,8,8,8,8,8,8,8,8,8,8,8,8,8,8,8,8,8,8,8,8,8,8,8,8,8,8,8,8,8,8,8,8,8,8,8,8,8,8,8,8,8,8,8,8,8,8,8,8,8,8,8,8,8,8,8,8,8,8,8,8,8,8,8,8,8,8,8,8,8,8,8,8,8,8,8,8,8,8,8,8,8,8,8,8,8,8,8,8,8,8,8,8,8,8,8,8,8,8,8,8,8,8,8,8,8,8,8,8,8,8,8]:Str) (IntKind.wrap .u8 x_)).bind fun c=>
 chk (inK .i64 (n+(IntKind.wrap .i64 ((c.toNat:Nat):Int)))) <|
 some (n+(IntKind.wrap .i64 ((c.toNat:Nat):Int)))
def ZuK (x_:Int) (n:Int):Option Int:=
 bif (decide (x_≥256))then (
  chk (decide (0≤(8:Int))) <|
  chk (inK .i64 (n+8)) <|
  Zrz (shrK .u32 x_ 8) (n+8)
 )else (
  Zrz x_ n
 )
def ZwB (x_:Int):Option Int:=
 bif (decide (x_≥65536))then (
  chk (decide (0≤(16:Int))) <|
  ZuK (shrK .u32 x_ 16) (16:Int)
 )else (
  ZuK x_ (0:Int)
 )
def ZrG (x_:Int):Option Int:=
 (ZwB x_).bind fun q=>
 chk (inK .i64 (32 - q)) <|
 some (32 - q)
def ZtB (out:ZoI):Option ZoI:=
 some out
def ZqX (rec_:Int→ZoI→Int→Int→ZoI→Option ZoI) (n:Int) (t13:ZoI) (t14:Int) (i:Int) (out:ZoI):Option ZoI:=
 bif (decide (i < t14))then (
  (idx t13 i).bind fun d=>
  chk (decide (0≤n)) <|
  chk (inR i (out.length:Int)) <|
  (out[(i).toNat]?).bind fun out_e=>
  chk (inR i (out.length:Int)) <|
  chk (inK .i64 (i+1)) <|
  chk (decide (0≤(32:Int))) <|
  chk (inR (i+1) ((out.set ((i).toNat) (orK .u32 out_e (IntKind.wrap .u32 (shlK .u64 (IntKind.wrap .u64 d) n)))).length:Int)) <|
  chk (inK .i64 (i+1)) <|
  rec_ n t13 t14 (i+1) ((out.set ((i).toNat) (orK .u32 out_e (IntKind.wrap .u32 (shlK .u64 (IntKind.wrap .u64 d) n)))).set (((i+1)).toNat) (IntKind.wrap .u32 (shrK .u64 (shlK .u64 (IntKind.wrap .u64 d) n) 32)))
 )else (
  some out
 )
def Zru:Nat→Int→ZoI→Int→Int→ZoI→Option ZoI
 |0,_,_,_,_,_=>none
 |n_+1,n,t13,t14,i,out=>ZqX (Zru n_) n t13 t14 i out
def Zvr (n:Nat) (s:(Int×ZoI×Int×Int×ZoI)):Option ZoI:=Zru n s.1 s.2.1 s.2.2.1 s.2.2.2.1 s.2.2.2.2
def ZsR (rec_:(Int×ZoI×Int×Int×ZoI)→Option ZoI) (s:(Int×ZoI×Int×Int×ZoI)):Option ZoI:=ZqX (fun n t13 t14 i out=>rec_ (n,t13,t14,i,out)) s.1 s.2.1 s.2.2.1 s.2.2.2.1 s.2.2.2.2
theorem Zx2:∀n s,Zvr (n+1) s=ZsR (Zvr n) s:=fun _ _=>rfl
def Zqa (w_:ZoI) (n:Int):Option ZoI:=
 chk (inK .i64 ((w_.length:Int)+1)) <|
 chk (mkOk ((w_.length:Int)+1) ((w_.length:Int)+1) 4) <|
 (Zru big n w_ (w_.length:Int) (0:Int) (List.replicate (((w_.length:Int)+1)).toNat (0:Int))).bind fun x0=>ZtB x0
def Ztk (x_:Int) (y:Int) (borrow:Int):ZEU:=
 chk (decide (0≤(31:Int))) <|
 some ((IntKind.wrap .u32 ((IntKind.wrap .u32 (x_ - y)) - borrow)),(shrK .u32 (orK .u32 (andK .u32 (xorK .u32 (if IntKind.signed .u32 then -1 else IntKind.max .u32) x_) y) (andK .u32 (xorK .u32 (if IntKind.signed .u32 then -1 else IntKind.max .u32) (xorK .u32 x_ y)) (IntKind.wrap .u32 ((IntKind.wrap .u32 (x_ - y)) - borrow)))) 31))
def ZuX (x_:Int) (y:Int) (carry:Int):ZEU:=
 chk (decide (0≤(32:Int))) <|
 some ((IntKind.wrap .u32 (IntKind.wrap .u64 ((IntKind.wrap .u64 ((IntKind.wrap .u64 x_)+(IntKind.wrap .u64 y)))+(IntKind.wrap .u64 carry)))),(IntKind.wrap .u32 (shrK .u64 (IntKind.wrap .u64 ((IntKind.wrap .u64 ((IntKind.wrap .u64 x_)+(IntKind.wrap .u64 y)))+(IntKind.wrap .u64 carry))) 32)))
def Zvd (u_off:Nat) (u_len:Nat) (n:Int) (guess:Int) (add:Int) (u:ZoI):ZwJ:=
 chk (inR n (u_len:Int)) <|
 (u[(u_off+(n).toNat)]?).bind fun u_e=>
 chk (inR n (u_len:Int)) <|
 some ((IntKind.wrap .u32 (IntKind.wrap .u64 (guess - 1))),(u.set (u_off+(n).toNat) (IntKind.wrap .u32 (u_e+add))))
def Zub (rec_:Nat→Nat→Int→Int→Int→ZoI→Int→Int→ZoI→ZE2) (u_off:Nat) (u_len:Nat) (n:Int) (guess:Int) (add:Int) (t130:ZoI) (t131:Int) (i:Int) (u:ZoI):ZE2:=
 bif (decide (i < t131))then (
  (idx t130 i).bind fun x_=>
  chk (inR i (u_len:Int)) <|
  (u[(u_off+(i).toNat)]?).bind fun u_e=>
  (ZuX u_e x_ add).bind fun(q,add_1)=>
  chk (inR i (u_len:Int)) <|
  chk (inK .i64 (i+1)) <|
  rec_ u_off u_len n guess add_1 t130 t131 (i+1) (u.set (u_off+(i).toNat) q)
 )else (
  some (u_off,u_len,n,guess,add,u)
 )
def ZtE:Nat→Nat→Nat→Int→Int→Int→ZoI→Int→Int→ZoI→ZE2
 |0,_,_,_,_,_,_,_,_,_=>none
 |n_+1,u_off,u_len,n,guess,add,t130,t131,i,u=>Zub (ZtE n_) u_off u_len n guess add t130 t131 i u
def Zx4 (n:Nat) (s:(Nat×Nat×Int×Int×Int×ZoI×Int×Int×ZoI)):ZE2:=ZtE n s.1 s.2.1 s.2.2.1 s.2.2.2.1 s.2.2.2.2.1 s.2.2.2.2.2.1 s.2.2.2.2.2.2.1 s.2.2.2.2.2.2.2.1 s.2.2.2.2.2.2.2.2
def Zwm (rec_:(Nat×Nat×Int×Int×Int×ZoI×Int×Int×ZoI)→ZE2) (s:(Nat×Nat×Int×Int×Int×ZoI×Int×Int×ZoI)):ZE2:=Zub (fun u_off u_len n guess add t130 t131 i u=>rec_ (u_off,u_len,n,guess,add,t130,t131,i,u)) s.1 s.2.1 s.2.2.1 s.2.2.2.1 s.2.2.2.2.1 s.2.2.2.2.2.1 s.2.2.2.2.2.2.1 s.2.2.2.2.2.2.2.1 s.2.2.2.2.2.2.2.2
theorem ZzP:∀n s,Zx4 (n+1) s=Zwm (Zx4 n) s:=fun _ _=>rfl
def Zw8 (u_off:Nat) (u_len:Nat) (d:ZoI) (n:Int) (guess:Int) (borrow:Int) (carry:Int) (u:ZoI):ZwJ:=
 chk (inR n (u_len:Int)) <|
 (u[(u_off+(n).toNat)]?).bind fun u_e=>
 (Ztk u_e (IntKind.wrap .u32 carry) borrow).bind fun(q,borrow_1)=>
 chk (inR n (u_len:Int)) <|
 bif (borrow_1 == 0)then (
  some ((IntKind.wrap .u32 guess),(u.set (u_off+(n).toNat) q))
 )else (
  (ZtE big u_off u_len n guess (0:Int) d (d.length:Int) (0:Int) (u.set (u_off+(n).toNat) q)).bind fun(x0,x1,x2,x3,x4,x5)=>Zvd x0 x1 x2 x3 x4 x5
 )
def Zuc (rec_:Nat→Nat→ZoI→Int→Int→Int→Int→ZoI→Int→Int→ZoI→ZE6) (u_off:Nat) (u_len:Nat) (d:ZoI) (n:Int) (guess:Int) (borrow:Int) (carry:Int) (t82:ZoI) (t83:Int) (i:Int) (u:ZoI):ZE6:=
 bif (decide (i < t83))then (
  (idx t82 i).bind fun x_=>
  chk (inR i (u_len:Int)) <|
  (u[(u_off+(i).toNat)]?).bind fun u_e=>
  (Ztk u_e (IntKind.wrap .u32 (IntKind.wrap .u64 (carry+(IntKind.wrap .u64 (guess*(IntKind.wrap .u64 x_)))))) borrow).bind fun(q,borrow_1)=>
  chk (inR i (u_len:Int)) <|
  chk (decide (0≤(32:Int))) <|
  chk (inK .i64 (i+1)) <|
  rec_ u_off u_len d n guess borrow_1 (shrK .u64 (IntKind.wrap .u64 (carry+(IntKind.wrap .u64 (guess*(IntKind.wrap .u64 x_))))) 32) t82 t83 (i+1) (u.set (u_off+(i).toNat) q)
 )else (
  some (u_off,u_len,d,n,guess,borrow,carry,u)
 )
def Zvc:Nat→Nat→Nat→ZoI→Int→Int→Int→Int→ZoI→Int→Int→ZoI→ZE6
 |0,_,_,_,_,_,_,_,_,_,_,_=>none
 |n_+1,u_off,u_len,d,n,guess,borrow,carry,t82,t83,i,u=>Zuc (Zvc n_) u_off u_len d n guess borrow carry t82 t83 i u
def Zx5 (n:Nat) (s:(Nat×Nat×ZoI×Int×Int×Int×Int×ZoI×Int×Int×ZoI)):ZE6:=Zvc n s.1 s.2.1 s.2.2.1 s.2.2.2.1 s.2.2.2.2.1 s.2.2.2.2.2.1 s.2.2.2.2.2.2.1 s.2.2.2.2.2.2.2.1 s.2.2.2.2.2.2.2.2.1 s.2.2.2.2.2.2.2.2.2.1 s.2.2.2.2.2.2.2.2.2.2
def Zwn (rec_:(Nat×Nat×ZoI×Int×Int×Int×Int×ZoI×Int×Int×ZoI)→ZE6) (s:(Nat×Nat×ZoI×Int×Int×Int×Int×ZoI×Int×Int×ZoI)):ZE6:=Zuc (fun u_off u_len d n guess borrow carry t82 t83 i u=>rec_ (u_off,u_len,d,n,guess,borrow,carry,t82,t83,i,u)) s.1 s.2.1 s.2.2.1 s.2.2.2.1 s.2.2.2.2.1 s.2.2.2.2.2.1 s.2.2.2.2.2.2.1 s.2.2.2.2.2.2.2.1 s.2.2.2.2.2.2.2.2.1 s.2.2.2.2.2.2.2.2.2.1 s.2.2.2.2.2.2.2.2.2.2
theorem ZzQ:∀n s,Zx5 (n+1) s=Zwn (Zx5 n) s:=fun _ _=>rfl
def Zve (u_off:Nat) (u_len:Nat) (d:ZoI) (n:Int) (guess:Int) (u:ZoI):ZwJ:=
 (Zvc big u_off u_len d n guess (0:Int) (0:Int) d (d.length:Int) (0:Int) u).bind fun(x0,x1,x2,x3,x4,x5,x6,x7)=>Zw8 x0 x1 x2 x3 x4 x5 x6 x7
def ZtF (rec_:ZLl) (u_off:Nat) (u_len:Nat) (d:ZoI) (n:Int) (guess:Int) (rest:Int) (t71:Bool) (u:ZoI):ZDV:=
 bif t71 then (
  chk (inK .i64 (n - 1)) <|
  (idx d (n - 1)).bind fun d_e=>
  rec_ u_off u_len d n (IntKind.wrap .u64 (guess - 1)) (IntKind.wrap .u64 (rest+(IntKind.wrap .u64 d_e))) u
 )else (
  some (u_off,u_len,d,n,guess,u)
 )
def Zwo (rec_:ZLl) (u_off:Nat) (u_len:Nat) (d:ZoI) (n:Int) (guess:Int) (rest:Int) (u:ZoI):ZDV:=
 bif (decide (rest < 4294967296))then (
  chk (inK .i64 (n - 2)) <|
  (idx d (n - 2)).bind fun d_e=>
  chk (decide (0≤(32:Int))) <|
  chk (inK .i64 (n - 2)) <|
  chk (inR (n - 2) (u_len:Int)) <|
  (u[(u_off+((n - 2)).toNat)]?).bind fun u_e=>
  ZtF rec_ u_off u_len d n guess rest (decide ((IntKind.wrap .u64 (guess*(IntKind.wrap .u64 d_e))) > (orK .u64 (shlK .u64 rest 32) (IntKind.wrap .u64 u_e)))) u
 )else (
  ZtF rec_ u_off u_len d n guess rest false u
 )
def Zr6:Nat→Nat→Nat→ZoI→Int→Int→Int→ZoI→ZDV
 |0,_,_,_,_,_,_,_=>none
 |n_+1,u_off,u_len,d,n,guess,rest,u=>Zwo (Zr6 n_) u_off u_len d n guess rest u
def Zx6 (n:Nat) (s:(Nat×Nat×ZoI×Int×Int×Int×ZoI)):ZDV:=Zr6 n s.1 s.2.1 s.2.2.1 s.2.2.2.1 s.2.2.2.2.1 s.2.2.2.2.2.1 s.2.2.2.2.2.2
def Zx7 (rec_:(Nat×Nat×ZoI×Int×Int×Int×ZoI)→ZDV) (s:(Nat×Nat×ZoI×Int×Int×Int×ZoI)):ZDV:=Zwo (fun u_off u_len d n guess rest u=>rec_ (u_off,u_len,d,n,guess,rest,u)) s.1 s.2.1 s.2.2.1 s.2.2.2.1 s.2.2.2.2.1 s.2.2.2.2.2.1 s.2.2.2.2.2.2
theorem ZzR:∀n s,Zx6 (n+1) s=Zx7 (Zx6 n) s:=fun _ _=>rfl
def Zw4 (u:ZoI) (u_off:Nat) (u_len:Nat) (d:ZoI):ZwJ:=
 chk (inR (d.length:Int) (u_len:Int)) <|
 (u[(u_off+((d.length:Int)).toNat)]?).bind fun u_e=>
 chk (decide (0≤(32:Int))) <|
 chk (inK .i64 ((d.length:Int) - 1)) <|
 chk (inR ((d.length:Int) - 1) (u_len:Int)) <|
 (u[(u_off+(((d.length:Int) - 1)).toNat)]?).bind fun u_e_1=>
 chk (inK .i64 ((d.length:Int) - 1)) <|
 (idx d ((d.length:Int) - 1)).bind fun d_e=>
 chk (decide ((IntKind.wrap .u64 d_e)≠0)) <|
 chk (inK .i64 ((d.length:Int) - 1)) <|
 (idx d ((d.length:Int) - 1)).bind fun d_e_1=>
 (Zr6 big u_off u_len d (d.length:Int) (if (4294967295:Int) < (IntKind.wrap .u64 (Int.tdiv (orK .u64 (shlK .u64 (IntKind.wrap .u64 u_e) 32) (IntKind.wrap .u64 u_e_1)) (IntKind.wrap .u64 d_e)))then (4294967295:Int)else (IntKind.wrap .u64 (Int.tdiv (orK .u64 (shlK .u64 (IntKind.wrap .u64 u_e) 32) (IntKind.wrap .u64 u_e_1)) (IntKind.wrap .u64 d_e)))) (IntKind.wrap .u64 ((orK .u64 (shlK .u64 (IntKind.wrap .u64 u_e) 32) (IntKind.wrap .u64 u_e_1)) - (IntKind.wrap .u64 ((if (4294967295:Int) < (IntKind.wrap .u64 (Int.tdiv (orK .u64 (shlK .u64 (IntKind.wrap .u64 u_e) 32) (IntKind.wrap .u64 u_e_1)) (IntKind.wrap .u64 d_e)))then (4294967295:Int)else (IntKind.wrap .u64 (Int.tdiv (orK .u64 (shlK .u64 (IntKind.wrap .u64 u_e) 32) (IntKind.wrap .u64 u_e_1)) (IntKind.wrap .u64 d_e))))*(IntKind.wrap .u64 d_e_1))))) u).bind fun(x0,x1,x2,x3,x4,x5)=>Zve x0 x1 x2 x3 x4 x5
def ZvW (u:ZoI) (u_off:Nat) (u_len:Nat) (d:ZoI):ZwJ:=
 (Zw4 u u_off u_len d).bind fun r=>chk (decide (r.2.length=u.length)&&true) (some r)
def Zvb (w_off:Nat) (w_len:Nat) (w_:ZoI):ZBP:=
 some (w_off,w_len,w_)
def Ztb (rec_:Nat→Nat→ZoI→ZBP) (w_off:Nat) (w_len:Nat) (t14:Bool) (w_:ZoI):ZBP:=
 bif t14 then (
  chk (inK .i64 (((w_len:Nat):Int) - 1)) <|
  chk (Zcp 0 (((w_len:Nat):Int) - 1) (w_len:Int)) <|
  rec_ (w_off+0) (((((w_len:Nat):Int) - 1)).toNat - 0) w_
 )else (
  some (w_off,w_len,w_)
 )
def ZuF (rec_:Nat→Nat→ZoI→ZBP) (w_off:Nat) (w_len:Nat) (w_:ZoI):ZBP:=
 bif (decide (((w_len:Nat):Int) > 0))then (
  chk (inK .i64 (((w_len:Nat):Int) - 1)) <|
  chk (inR (((w_len:Nat):Int) - 1) (w_len:Int)) <|
  (w_[(w_off+((((w_len:Nat):Int) - 1)).toNat)]?).bind fun w__e=>
  Ztb rec_ w_off w_len (w__e == 0) w_
 )else (
  Ztb rec_ w_off w_len false w_
 )
def Zry:Nat→Nat→Nat→ZoI→ZBP
 |0,_,_,_=>none
 |n_+1,w_off,w_len,w_=>ZuF (Zry n_) w_off w_len w_
def ZwZ (n:Nat) (s:(Nat×Nat×ZoI)):ZBP:=Zry n s.1 s.2.1 s.2.2
def Zw0 (rec_:(Nat×Nat×ZoI)→ZBP) (s:(Nat×Nat×ZoI)):ZBP:=ZuF (fun w_off w_len w_=>rec_ (w_off,w_len,w_)) s.1 s.2.1 s.2.2
theorem ZyR:∀n s,ZwZ (n+1) s=Zw0 (ZwZ n) s:=fun _ _=>rfl
def ZuL (w_:ZoI) (w_off:Nat) (w_len:Nat):ZBP:=
 (Zry big w_off w_len w_).bind fun(x0,x1,x2)=>Zvb x0 x1 x2
def ZtT (w_:ZoI) (w_off:Nat) (w_len:Nat):ZBP:=
 (ZuL w_ w_off w_len).bind fun r=>chk (decide (r.2.2.length=w_.length)&&true) (some r)
def Zr4 (w_:ZoI) (i:Int):Option Int:=
 bif (decide (i < (w_.length:Int)))then (
  (idx w_ i).bind fun w__e=>
  some w__e
 )else (
  some (0:Int)
 )
def Zwk (w_:ZoI) (w_off:Nat) (w_len:Nat) (i:Int):ZwJ:=
 bif (decide (i < ((w_len:Nat):Int)))then (
  chk (inR i (w_len:Int)) <|
  (w_[(w_off+(i).toNat)]?).bind fun w__e=>
  some (w__e,w_)
 )else (
  some (0,w_)
 )
def Zs9 (w_:ZoI) (w_off:Nat) (w_len:Nat) (i:Int):ZwJ:=
 (Zwk w_ w_off w_len i).bind fun r=>chk (decide (r.2.length=w_.length)&&true) (some r)
def ZuZ (rest_off:Nat) (rest_len:Nat) (q:ZoI) (rest:ZoI):ZBi:=
 (Zpj q).bind fun q_1=>
 (Zpj ((rest.drop rest_off).take rest_len)).bind fun q_2=>
 some (q_1,q_2)
def ZrI (rec_:Int→Nat→Nat→Int→Int→ZoI→ZoI→ZEY) (shift:Int) (rest_off:Nat) (rest_len:Nat) (t86:Int) (i:Int) (q:ZoI) (rest:ZoI):ZEY:=
 bif (decide (i < t86))then (
  chk (inK .i64 (i+1)) <|
  (Zs9 rest rest_off rest_len (i+1)).bind fun(q_1,t90)=>
  chk (decide (0≤(32:Int))) <|
  chk (inR i (rest_len:Int)) <|
  (t90[(rest_off+(i).toNat)]?).bind fun t90_e=>
  chk (decide (0≤shift)) <|
  chk (inR i (rest_len:Int)) <|
  chk (inK .i64 (i+1)) <|
  rec_ shift rest_off rest_len t86 (i+1) q (t90.set (rest_off+(i).toNat) (IntKind.wrap .u32 (shrK .u64 (orK .u64 (shlK .u64 (IntKind.wrap .u64 q_1) 32) (IntKind.wrap .u64 t90_e)) shift)))
 )else (
  some (rest_off,rest_len,q,rest)
 )
def Zq5:Nat→Int→Nat→Nat→Int→Int→ZoI→ZoI→ZEY
 |0,_,_,_,_,_,_,_=>none
 |n_+1,shift,rest_off,rest_len,t86,i,q,rest=>ZrI (Zq5 n_) shift rest_off rest_len t86 i q rest
def ZwO (n:Nat) (s:(Int×Nat×Nat×Int×Int×ZoI×ZoI)):ZEY:=Zq5 n s.1 s.2.1 s.2.2.1 s.2.2.2.1 s.2.2.2.2.1 s.2.2.2.2.2.1 s.2.2.2.2.2.2
def Zt1 (rec_:(Int×Nat×Nat×Int×Int×ZoI×ZoI)→ZEY) (s:(Int×Nat×Nat×Int×Int×ZoI×ZoI)):ZEY:=ZrI (fun shift rest_off rest_len t86 i q rest=>rec_ (shift,rest_off,rest_len,t86,i,q,rest)) s.1 s.2.1 s.2.2.1 s.2.2.2.1 s.2.2.2.2.1 s.2.2.2.2.2.1 s.2.2.2.2.2.2
theorem ZyH:∀n s,ZwO (n+1) s=Zt1 (ZwO n) s:=fun _ _=>rfl
def Zu0 (n:Int) (shift:Int) (u:ZoI) (q:ZoI):ZBi:=
 chk (Zcp 0 n (u.length:Int)) <|
 (ZtT u 0 ((n).toNat - 0)).bind fun(rest_off,rest_len,t83)=>
 (Zq5 big shift rest_off rest_len ((rest_len:Nat):Int) (0:Int) q t83).bind fun(x0,x1,x2,x3)=>ZuZ x0 x1 x2 x3
def ZrJ (rec_:Int→Int→ZoI→Int→ZoI→ZoI→ZEX) (n:Int) (shift:Int) (d:ZoI) (j:Int) (u:ZoI) (q:ZoI):ZEX:=
 bif (decide (j≥0))then (
  chk (inK .i64 (j+n)) <|
  chk (inK .i64 ((j+n)+1)) <|
  chk (Zcp j ((j+n)+1) (u.length:Int)) <|
  (ZvW u ((j).toNat) ((((j+n)+1)).toNat - (j).toNat) d).bind fun(q_1,t77)=>
  chk (inR j (q.length:Int)) <|
  chk (inK .i64 (j - 1)) <|
  rec_ n shift d (j - 1) t77 (q.set ((j).toNat) q_1)
 )else (
  some (n,shift,u,q)
 )
def Zq6:Nat→Int→Int→ZoI→Int→ZoI→ZoI→ZEX
 |0,_,_,_,_,_,_=>none
 |n_+1,n,shift,d,j,u,q=>ZrJ (Zq6 n_) n shift d j u q
def ZwP (n:Nat) (s:(Int×Int×ZoI×Int×ZoI×ZoI)):ZEX:=Zq6 n s.1 s.2.1 s.2.2.1 s.2.2.2.1 s.2.2.2.2.1 s.2.2.2.2.2
def Zt2 (rec_:(Int×Int×ZoI×Int×ZoI×ZoI)→ZEX) (s:(Int×Int×ZoI×Int×ZoI×ZoI)):ZEX:=ZrJ (fun n shift d j u q=>rec_ (n,shift,d,j,u,q)) s.1 s.2.1 s.2.2.1 s.2.2.2.1 s.2.2.2.2.1 s.2.2.2.2.2
theorem ZyI:∀n s,ZwP (n+1) s=Zt2 (ZwP n) s:=fun _ _=>rfl
def Zqk (w_:ZoI) (v_:ZoI):ZBi:=
 (ZpL w_ v_).bind fun q=>
 bif (decide (q < 0))then (
  (ZpN w_).bind fun q_1=>
  some (([]:ZoI),q_1)
 )else (
  bif ((v_.length:Int) == 1)then (
   (idx v_ 0).bind fun v__e=>
   (ZtS w_ v__e).bind fun(q_2,r_)=>
   (Zpj ([r_]:ZoI)).bind fun q_3=>
   some (q_2,q_3)
  )else (
   chk (inK .i64 ((v_.length:Int) - 1)) <|
   (idx v_ ((v_.length:Int) - 1)).bind fun v__e_1=>
   (ZrG v__e_1).bind fun shift=>
   (Zqa w_ shift).bind fun u=>
   (Zqa v_ shift).bind fun q_4=>
   chk (Zcp 0 (v_.length:Int) (q_4.length:Int)) <|
   chk (inK .i64 ((w_.length:Int) - (v_.length:Int))) <|
   chk (inK .i64 (((w_.length:Int) - (v_.length:Int))+1)) <|
   chk (mkOk (((w_.length:Int) - (v_.length:Int))+1) (((w_.length:Int) - (v_.length:Int))+1) 4) <|
   chk (inK .i64 (((List.replicate ((((w_.length:Int) - (v_.length:Int))+1)).toNat (0:Int)).length:Int) - 1)) <|
   (Zq6 big (v_.length:Int) shift ((q_4.drop 0).take (((v_.length:Int)).toNat - 0)) (((List.replicate ((((w_.length:Int) - (v_.length:Int))+1)).toNat (0:Int)).length:Int) - 1) u (List.replicate ((((w_.length:Int) - (v_.length:Int))+1)).toNat (0:Int))).bind fun(x0,x1,x2,x3)=>Zu0 x0 x1 x2 x3
  )
 )
def Zt3 (w_:ZoI):Option ZoI:=
 some w_
def Zp7 (rec_:ZoI→ZoI→Option ZoI) (w_:ZoI) (v_:ZoI):Option ZoI:=
 bif (decide ((v_.length:Int) > 0))then (
  (Zqk w_ v_).bind fun(q,r_)=>
  rec_ v_ r_
 )else (
  some w_
 )
def Zpv:Nat→ZoI→ZoI→Option ZoI
 |0,_,_=>none
 |n_+1,w_,v_=>Zp7 (Zpv n_) w_ v_
def Zrx (w_:ZoI) (v_:ZoI):Option ZoI:=
 (Zpv big w_ v_).bind fun x0=>Zt3 x0
def ZqC (num:ZoM) (den:ZoM):Option ZoF:=
 (Zrx num.Words den.Words).bind fun g=>
 (Zqk num.Words g).bind fun(x_,q)=>
 (Zqk den.Words g).bind fun(y,q_1)=>
 (Zpo (!(num.Neg == den.Neg)) x_).bind fun q_2=>
 (Zpo false y).bind fun q_3=>
 some (ZoF.mk q_2 q_3)
def Zxw (num:ZoM) (den:ZoM):ZBj:=
 (Zwp ([num,den]:(List ZoM))).bind fun q=>
 bif (!q)then (
  some ((ZoF.mk (ZoM.mk false ([]:ZoI)) (ZoM.mk false ([]:ZoI))),1)
 )else (
  bif ((den.Words.length:Int) == 0)then (
   some ((ZoF.mk (ZoM.mk false ([]:ZoI)) (ZoM.mk false ([]:ZoI))),8)
  )else (
   (ZqC num den).bind fun q_1=>
   some (q_1,0)
  )
 )
def Zxv (num:Int) (den:Int):ZBj:=
 (Zud num).bind fun q=>
 (Zud den).bind fun q_1=>
 (Zxw q q_1).bind fun(q_2,q_3)=>
 some (q_2,q_3)
def Zvv:Option ZoF:=
 (Zxv 0 1).bind fun(f,q)=>
 some f
def Zxs (a:Int) (b:Int):Option ZoF:=
 (Zxv a b).bind fun(f,e)=>
 bif (e != 0)then (
  (Zvv).bind fun q=>
  some q
 )else (
  some f
 )
def Zt8 (a:Zzc) (b:Zzc):Option ZoF:=
 (Zu8 a b).bind fun n=>
 chk (inK .i64 ((a.length:Int)+(b.length:Int))) <|
 chk (inK .i64 (((a.length:Int)+(b.length:Int)) - n)) <|
 (Zxs n (if (1:Int) > (((a.length:Int)+(b.length:Int)) - n)then (1:Int)else (((a.length:Int)+(b.length:Int)) - n))).bind fun q=>
 some q
def Zu9 (a:ZoL) (b:ZoL):Option ZoF:=
 (ZsQ a).bind fun q=>
 (ZsQ b).bind fun q_1=>
 (Zt8 q q_1).bind fun q_2=>
 some q_2
def Zrp (name:Str):Option Zzc:=
 ZB1 (chk (decide (name.length≤1099511627776)) <| some (ZxL (ZzJ (name++[32]) [])))
def ZvV (a:Str) (b:Str):Option ZoF:=
 (Zrp a).bind fun q=>
 (Zrp b).bind fun q_1=>
 (Zt8 q q_1).bind fun q_2=>
 some q_2
def Zr7 (t2:Bool):Option Bool:=
 some t2
def Zqq (f:ZoF):Option Bool:=
 (Zwp ([f.Num,f.Den]:(List ZoM))).bind fun q=>
 bif q then (
  bif (decide ((f.Den.Words.length:Int) > 0))then (
   bif (!f.Den.Neg)then (
    (Zrx f.Num.Words f.Den.Words).bind fun q_1=>
    (ZpL q_1 ([1]:List Int)).bind fun q_2=>
    Zr7 (q_2 == 0)
   )else (
    Zr7 false
   )
  )else (
   Zr7 false
  )
 )else (
  Zr7 false
 )
def ZuB (out:ZoI):Option ZoI:=
 (Zpj out).bind fun q=>
 some q
def ZuC (rec_:ZHd) (v_:ZoI) (i:Int) (carry:Int) (t17:ZoI) (t18:Int) (i_1:Int) (out:ZoI):Option ZoI:=
 chk (inK .i64 (i+(v_.length:Int))) <|
 chk (inR (i+(v_.length:Int)) (out.length:Int)) <|
 chk (inK .i64 (i_1+1)) <|
 rec_ v_ t17 t18 (i_1+1) (out.set (((i+(v_.length:Int))).toNat) (IntKind.wrap .u32 carry))
def Zrr (rec_:ZoI→Int→Int→Int→ZoI→Int→Int→ZoI→Int→Int→ZoI→ZE4) (v_:ZoI) (i:Int) (x_:Int) (carry:Int) (t17:ZoI) (t18:Int) (i_1:Int) (t24:ZoI) (t25:Int) (j:Int) (out:ZoI):ZE4:=
 bif (decide (j < t25))then (
  (idx t24 j).bind fun y=>
  chk (inK .i64 (i+j)) <|
  chk (inR (i+j) (out.length:Int)) <|
  (out[((i+j)).toNat]?).bind fun out_e=>
  chk (inK .i64 (i+j)) <|
  chk (inR (i+j) (out.length:Int)) <|
  chk (decide (0≤(32:Int))) <|
  chk (inK .i64 (j+1)) <|
  rec_ v_ i x_ (shrK .u64 (IntKind.wrap .u64 (carry+(IntKind.wrap .u64 ((IntKind.wrap .u64 ((IntKind.wrap .u64 x_)*(IntKind.wrap .u64 y)))+(IntKind.wrap .u64 out_e))))) 32) t17 t18 i_1 t24 t25 (j+1) (out.set (((i+j)).toNat) (IntKind.wrap .u32 (IntKind.wrap .u64 (carry+(IntKind.wrap .u64 ((IntKind.wrap .u64 ((IntKind.wrap .u64 x_)*(IntKind.wrap .u64 y)))+(IntKind.wrap .u64 out_e)))))))
 )else (
  some (v_,i,carry,t17,t18,i_1,out)
 )
def Zsp:Nat→ZoI→Int→Int→Int→ZoI→Int→Int→ZoI→Int→Int→ZoI→ZE4
 |0,_,_,_,_,_,_,_,_,_,_,_=>none
 |n_+1,v_,i,x_,carry,t17,t18,i_1,t24,t25,j,out=>Zrr (Zsp n_) v_ i x_ carry t17 t18 i_1 t24 t25 j out
def Zwg (n:Nat) (s:(ZoI×Int×Int×Int×ZoI×Int×Int×ZoI×Int×Int×ZoI)):ZE4:=Zsp n s.1 s.2.1 s.2.2.1 s.2.2.2.1 s.2.2.2.2.1 s.2.2.2.2.2.1 s.2.2.2.2.2.2.1 s.2.2.2.2.2.2.2.1 s.2.2.2.2.2.2.2.2.1 s.2.2.2.2.2.2.2.2.2.1 s.2.2.2.2.2.2.2.2.2.2
def Zty (rec_:(ZoI×Int×Int×Int×ZoI×Int×Int×ZoI×Int×Int×ZoI)→ZE4) (s:(ZoI×Int×Int×Int×ZoI×Int×Int×ZoI×Int×Int×ZoI)):ZE4:=Zrr (fun v_ i x_ carry t17 t18 i_1 t24 t25 j out=>rec_ (v_,i,x_,carry,t17,t18,i_1,t24,t25,j,out)) s.1 s.2.1 s.2.2.1 s.2.2.2.1 s.2.2.2.2.1 s.2.2.2.2.2.1 s.2.2.2.2.2.2.1 s.2.2.2.2.2.2.2.1 s.2.2.2.2.2.2.2.2.1 s.2.2.2.2.2.2.2.2.2.1 s.2.2.2.2.2.2.2.2.2.2
theorem Zyw:∀n s,Zwg (n+1) s=Zty (Zwg n) s:=fun _ _=>rfl
def Zrs (rec_:ZHd) (v_:ZoI) (t17:ZoI) (t18:Int) (i:Int) (out:ZoI):Option ZoI:=
 bif (decide (i < t18))then (
  (idx t17 i).bind fun x_=>
  (Zsp big v_ i x_ (0:Int) t17 t18 i v_ (v_.length:Int) (0:Int) out).bind fun(x0,x1,x2,x3,x4,x5,x6)=>ZuC rec_ x0 x1 x2 x3 x4 x5 x6
 )else (
  some out
 )
def ZqR:Nat→ZoI→ZoI→Int→Int→ZoI→Option ZoI
 |0,_,_,_,_,_=>none
 |n_+1,v_,t17,t18,i,out=>Zrs (ZqR n_) v_ t17 t18 i out
def Zwh (n:Nat) (s:(ZoI×ZoI×Int×Int×ZoI)):Option ZoI:=ZqR n s.1 s.2.1 s.2.2.1 s.2.2.2.1 s.2.2.2.2
def Ztz (rec_:ZLj) (s:(ZoI×ZoI×Int×Int×ZoI)):Option ZoI:=Zrs (fun v_ t17 t18 i out=>rec_ (v_,t17,t18,i,out)) s.1 s.2.1 s.2.2.1 s.2.2.2.1 s.2.2.2.2
theorem Zyx:∀n s,Zwh (n+1) s=Ztz (Zwh n) s:=fun _ _=>rfl
def ZqF (w_:ZoI) (v_:ZoI):Option ZoI:=
 chk (inK .i64 ((w_.length:Int)+(v_.length:Int))) <|
 chk (mkOk ((w_.length:Int)+(v_.length:Int)) ((w_.length:Int)+(v_.length:Int)) 4) <|
 (ZqR big v_ w_ (w_.length:Int) (0:Int) (List.replicate (((w_.length:Int)+(v_.length:Int))).toNat (0:Int))).bind fun x0=>ZuB x0
def Zo2 (a:ZoM) (b:ZoM):Option ZoM:=
 (ZqF a.Words b.Words).bind fun q=>
 (Zpo (!(a.Neg == b.Neg)) q).bind fun q_1=>
 some q_1
def ZtU (t2:ZoM):Option ZoM:=
 some t2
def Zr5 (a:ZoM):Option ZoM:=
 bif (!a.Neg)then (
  ZtU (ZoM.mk (decide ((a.Words.length:Int) > 0)) a.Words)
 )else (
  ZtU (ZoM.mk false a.Words)
 )
def ZuY (carry:Int) (out:ZoI):Option ZoI:=
 chk (ZjC (out.length+([carry]:ZoI).length) 4) <|
 (Zpj (out++([carry]:ZoI))).bind fun q=>
 some q
def ZrH (rec_:ZoI→ZoI→Int→Int→Int→ZoI→ZwJ) (w_:ZoI) (v_:ZoI) (carry:Int) (t20:Int) (i:Int) (out:ZoI):ZwJ:=
 bif (decide (i < t20))then (
  (Zr4 w_ i).bind fun q=>
  (Zr4 v_ i).bind fun q_1=>
  (ZuX q q_1 carry).bind fun(d,carry_1)=>
  chk (ZjC (out.length+([d]:ZoI).length) 4) <|
  chk (inK .i64 (i+1)) <|
  rec_ w_ v_ carry_1 t20 (i+1) (out++([d]:ZoI))
 )else (
  some (carry,out)
 )
def ZsI:Nat→ZoI→ZoI→Int→Int→Int→ZoI→ZwJ
 |0,_,_,_,_,_,_=>none
 |n_+1,w_,v_,carry,t20,i,out=>ZrH (ZsI n_) w_ v_ carry t20 i out
def ZwN (n:Nat) (s:(ZoI×ZoI×Int×Int×Int×ZoI)):ZwJ:=ZsI n s.1 s.2.1 s.2.2.1 s.2.2.2.1 s.2.2.2.2.1 s.2.2.2.2.2
def Zt0 (rec_:(ZoI×ZoI×Int×Int×Int×ZoI)→ZwJ) (s:(ZoI×ZoI×Int×Int×Int×ZoI)):ZwJ:=ZrH (fun w_ v_ carry t20 i out=>rec_ (w_,v_,carry,t20,i,out)) s.1 s.2.1 s.2.2.1 s.2.2.2.1 s.2.2.2.2.1 s.2.2.2.2.2
theorem ZyG:∀n s,ZwN (n+1) s=Zt0 (ZwN n) s:=fun _ _=>rfl
def Zsw (w_:ZoI) (v_:ZoI):Option ZoI:=
 chk (inK .i64 ((if (v_.length:Int) > (w_.length:Int)then (v_.length:Int)else (w_.length:Int))+1)) <|
 chk (mkOk 0 ((if (v_.length:Int) > (w_.length:Int)then (v_.length:Int)else (w_.length:Int))+1) 4) <|
 (ZsI big w_ v_ (0:Int) (if (v_.length:Int) > (w_.length:Int)then (v_.length:Int)else (w_.length:Int)) (0:Int) (List.replicate ((0:Int)).toNat (0:Int))).bind fun(x0,x1)=>ZuY x0 x1
def ZuE (out:ZoI):Option ZoI:=
 (Zpj out).bind fun q=>
 some q
def Zrv (rec_:ZoI→ZoI→Int→Int→Int→ZoI→Option ZoI) (w_:ZoI) (v_:ZoI) (borrow:Int) (t12:Int) (i:Int) (out:ZoI):Option ZoI:=
 bif (decide (i < t12))then (
  (idx w_ i).bind fun w__e=>
  (Zr4 v_ i).bind fun q=>
  (Ztk w__e q borrow).bind fun(q_1,borrow_1)=>
  chk (inR i (out.length:Int)) <|
  chk (inK .i64 (i+1)) <|
  rec_ w_ v_ borrow_1 t12 (i+1) (out.set ((i).toNat) q_1)
 )else (
  some out
 )
def Zsr:Nat→ZoI→ZoI→Int→Int→Int→ZoI→Option ZoI
 |0,_,_,_,_,_,_=>none
 |n_+1,w_,v_,borrow,t12,i,out=>Zrv (Zsr n_) w_ v_ borrow t12 i out
def Zwj (n:Nat) (s:(ZoI×ZoI×Int×Int×Int×ZoI)):Option ZoI:=Zsr n s.1 s.2.1 s.2.2.1 s.2.2.2.1 s.2.2.2.2.1 s.2.2.2.2.2
def ZtC (rec_:(ZoI×ZoI×Int×Int×Int×ZoI)→Option ZoI) (s:(ZoI×ZoI×Int×Int×Int×ZoI)):Option ZoI:=Zrv (fun w_ v_ borrow t12 i out=>rec_ (w_,v_,borrow,t12,i,out)) s.1 s.2.1 s.2.2.1 s.2.2.2.1 s.2.2.2.2.1 s.2.2.2.2.2
theorem Zyz:∀n s,Zwj (n+1) s=ZtC (Zwj n) s:=fun _ _=>rfl
def ZrX (w_:ZoI) (v_:ZoI):Option ZoI:=
 chk (mkOk (w_.length:Int) (w_.length:Int) 4) <|
 (Zsr big w_ v_ (0:Int) (w_.length:Int) (0:Int) (List.replicate ((w_.length:Int)).toNat (0:Int))).bind fun x0=>ZuE x0
def Zvw (a:ZoM) (b:ZoM):Option ZoM:=
 bif (a.Neg == b.Neg)then (
  (Zsw a.Words b.Words).bind fun q=>
  (Zpo a.Neg q).bind fun q_1=>
  some q_1
 )else (
  (ZpL a.Words b.Words).bind fun q_2=>
  bif (decide (q_2≥0))then (
   (ZrX a.Words b.Words).bind fun q_3=>
   (Zpo a.Neg q_3).bind fun q_4=>
   some q_4
  )else (
   (ZrX b.Words a.Words).bind fun q_5=>
   (Zpo b.Neg q_5).bind fun q_6=>
   some q_6
  )
 )
def ZwD (t13:Bool) (a:ZoF) (b:ZoF):Option Int:=
 bif t13 then (
  some (0:Int)
 )else (
  (Zo2 a.Num b.Den).bind fun q=>
  (Zo2 b.Num a.Den).bind fun q_1=>
  (Zr5 q_1).bind fun q_2=>
  (Zvw q q_2).bind fun d=>
  bif d.Neg then (
   some (-1:Int)
  )else (
   bif (decide ((d.Words.length:Int) > 0))then (
    some (1:Int)
   )else (
    some (0:Int)
   )
  )
 )
def Zvx (a:ZoF) (b:ZoF):Option Int:=
 (Zqq a).bind fun q=>
 bif (!q)then (
  ZwD true a b
 )else (
  (Zqq b).bind fun q_1=>
  ZwD (!q_1) a b
 )
def Zxh (a:ZoF):Option Int:=
 (Zvv).bind fun q=>
 (Zvx a q).bind fun q_1=>
 some q_1
def ZzA:Option (List (Int×ZpE)):=
 some (setB (q:=ZBW) (k:=(.int .i64)) (v:=(.st 6)) (car:=Zvz) (setB (q:=ZBW) (k:=(.int .i64)) (v:=(.st 6)) (car:=Zvz) (setB (q:=ZBW) (k:=(.int .i64)) (v:=(.st 6)) (car:=Zvz) (setB (q:=ZBW) (k:=(.int .i64)) (v:=(.st 6)) (car:=Zvz) (setB (q:=ZBW) (k:=(.int .i64)) (v:=(.st 6)) (car:=Zvz) ([]:(List (Int×ZpE))) 1 (ZpE.mk ([116,101,120,116]:Str) (none:Option Nat) (some 211:Option Nat))) 2 (ZpE.mk ([98,111,111,108]:Str) (some 212:Option Nat) (some 213:Option Nat))) 3 (ZpE.mk ([105,110,116,101,103,101,114]:Str) (some 214:Option Nat) (some 215:Option Nat))) 4 (ZpE.mk ([100,101,99,105,109,97,108]:Str) (some 216:Option Nat) (some 215:Option Nat))) 5 (ZpE.mk ([100,97,116,101]:Str) (some 217:Option Nat) (some 218:Option Nat)))
def ZwY (s cs:Str):Option Str:=
 chk (cs.all fun b=>decide (b.toNat < 128)) <| chk (decide (cs.length < 4294967281)) <| some (Lib.trimS s cs)
def ZyD (s:Str):Option Str:=
 (ZwY s ([32]:Str)).bind fun q=>
 some q
def ZpV (t4:Bool):Option Bool:=
 some t4
def ZpC (s:Str) (prefix_:Str):Option Bool:=
 bif (decide ((s.length:Int)≥(prefix_.length:Int)))then (
  chk (Zcp 0 (prefix_.length:Int) (s.length:Int)) <|
  ZpV ((s.take ((prefix_.length:Int)).toNat) == prefix_)
 )else (
  ZpV false
 )
def ZrD (s:Str) (prefix_:Str):ZDT:=
 (ZpC s prefix_).bind fun q=>
 bif (!q)then (
  some (s,false)
 )else (
  chk (Zcp (prefix_.length:Int) (s.length:Int) (s.length:Int)) <|
  some ((s.drop ((prefix_.length:Int)).toNat),true)
 )
def Zu7 (s:Str) (prefix_:Str):ZDT:=
 (ZrD s prefix_).bind fun(after,found)=>
 some (after,found)
def Zrq (s:Str) (prefix_:Str):Option Str:=
 (ZpC s prefix_).bind fun q=>
 bif q then (
  chk (Zcp (prefix_.length:Int) (s.length:Int) (s.length:Int)) <|
  some (s.drop ((prefix_.length:Int)).toNat)
 )else (
  some s
 )
def ZuJ (s:Str) (prefix_:Str):Option Str:=
 (Zrq s prefix_).bind fun q=>
 some q
def Zqd (s:Str) (c:Int):Option Int:=
 some (Lib.indexByte s c.toNat.toUInt8)
def Zqu (s:Str) (substr:Str) (n:Int) (t16:Bool):Option Int:=
 bif t16 then (
  some (0:Int)
 )else (
  bif (n == 1)then (
   (idx substr 0).bind fun c=>
   (Zqd s ((c.toNat:Nat):Int)).bind fun q=>
   some q
  )else (
   bif (decide (n≥(s.length:Int)))then (
    some (-1:Int)
   )else (
    none
   )
  )
 )
def Zra (s:Str) (substr:Str):Option Int:=
 bif ((substr.length:Int) == 0)then (
  Zqu s substr (substr.length:Int) true
 )else (
  Zqu s substr (substr.length:Int) (substr == s)
 )
def ZtZ (s:Str) (sep:Str):Option (Str×Str×Bool):=
 (Zra s sep).bind fun i=>
 bif (decide (i≥0))then (
  chk (Zcp 0 i (s.length:Int)) <|
  chk (inK .i64 (i+(sep.length:Int))) <|
  chk (Zcp (i+(sep.length:Int)) (s.length:Int) (s.length:Int)) <|
  some ((s.take (i).toNat),(s.drop ((i+(sep.length:Int))).toNat),true)
 )else (
  some (s,([]:Str),false)
 )
def Zxo (s:Str) (sep:Str):Option (Str×Str×Bool):=
 (ZtZ s sep).bind fun(before,after,found)=>
 some (before,after,found)
def ZsZ (t4:Bool):Option Bool:=
 some t4
def Zu1 (s:Str) (most:Int):Option Bool:=
 bif (decide ((s.length:Int)≥1))then (
  bif (decide ((s.length:Int)≤most))then (
   (ZwY s ([48,49,50,51,52,53,54,55,56,57]:Str)).bind fun q=>
   ZsZ (q == ([]:Str))
  )else (
   ZsZ false
  )
 )else (
  ZsZ false
 )
def Zwq (neg:Bool) (num:ZoI) (den:ZoI) (t2:Bool) (t2_1:Bool) (t2_2:ZoI) (t2_3:ZoI):ZDU:=
 (Zpo neg num).bind fun q=>
 (Zpo false den).bind fun q_1=>
 (ZqC q q_1).bind fun q_2=>
 some (q_2,true)
def Ztc (rec_:Bool→ZoI→ZoI→ZoI→Int→Int→Bool→Bool→ZoI→ZoI→ZE5) (neg:Bool) (num:ZoI) (ten:ZoI) (den:ZoI) (t63:Int) (t64:Int) (t2:Bool) (t2_1:Bool) (t2_2:ZoI) (t2_3:ZoI):ZE5:=
 bif (decide (t64 < t63))then (
  (ZqF den ten).bind fun den_1=>
  chk (inK .i64 (t64+1)) <|
  rec_ neg num ten den_1 t63 (t64+1) t2 t2_1 t2_2 t2_3
 )else (
  some (neg,num,den,t2,t2_1,t2_2,t2_3)
 )
def Zue:Nat→Bool→ZoI→ZoI→ZoI→Int→Int→Bool→Bool→ZoI→ZoI→ZE5
 |0,_,_,_,_,_,_,_,_,_,_=>none
 |n_+1,neg,num,ten,den,t63,t64,t2,t2_1,t2_2,t2_3=>Ztc (Zue n_) neg num ten den t63 t64 t2 t2_1 t2_2 t2_3
def Zxx (n:Nat) (s:(Bool×ZoI×ZoI×ZoI×Int×Int×Bool×Bool×ZoI×ZoI)):ZE5:=Zue n s.1 s.2.1 s.2.2.1 s.2.2.2.1 s.2.2.2.2.1 s.2.2.2.2.2.1 s.2.2.2.2.2.2.1 s.2.2.2.2.2.2.2.1 s.2.2.2.2.2.2.2.2.1 s.2.2.2.2.2.2.2.2.2
def Zvf (rec_:(Bool×ZoI×ZoI×ZoI×Int×Int×Bool×Bool×ZoI×ZoI)→ZE5) (s:(Bool×ZoI×ZoI×ZoI×Int×Int×Bool×Bool×ZoI×ZoI)):ZE5:=Ztc (fun neg num ten den t63 t64 t2 t2_1 t2_2 t2_3=>rec_ (neg,num,ten,den,t63,t64,t2,t2_1,t2_2,t2_3)) s.1 s.2.1 s.2.2.1 s.2.2.2.1 s.2.2.2.2.1 s.2.2.2.2.2.1 s.2.2.2.2.2.2.1 s.2.2.2.2.2.2.2.1 s.2.2.2.2.2.2.2.2.1 s.2.2.2.2.2.2.2.2.2
theorem Zzi:∀n s,Zxx (n+1) s=Zvf (Zxx n) s:=fun _ _=>rfl
def Zwr (neg:Bool) (back:Str) (num:ZoI) (ten:ZoI) (t2:Bool) (t2_1:Bool) (den:ZoI) (t2_2:ZoI) (t2_3:ZoI):ZDU:=
 (Zue big neg num ten den (back.length:Int) (0:Int) t2 t2_1 t2_2 t2_3).bind fun(x0,x1,x2,x3,x4,x5,x6)=>Zwq x0 x1 x2 x3 x4 x5 x6
def Ztd (rec_:Bool→Str→ZoI→ZoI→Int→Int→Bool→Bool→ZoI→ZoI→ZoI→ZoI→ZJ0) (neg:Bool) (back:Str) (num:ZoI) (ten:ZoI) (t48:Int) (t49:Int) (t2:Bool) (t2_1:Bool) (den:ZoI) (t47:ZoI) (t2_2:ZoI) (t2_3:ZoI):ZJ0:=
 bif (decide (t49 < t48))then (
  chk (inR t49 (t47.length:Int)) <|
  (t47[(t49).toNat]?).bind fun d=>
  (ZqF num ten).bind fun q=>
  (ZsJ (IntKind.wrap .u64 (IntKind.wrap .u8 (d - 48)))).bind fun q_1=>
  (Zsw q q_1).bind fun num_1=>
  chk (inK .i64 (t49+1)) <|
  rec_ neg back num_1 ten t48 (t49+1) t2 t2_1 den t47 t2_2 t2_3
 )else (
  some (neg,back,num,ten,t2,t2_1,den,t2_2,t2_3)
 )
def Zuf:Nat→Bool→Str→ZoI→ZoI→Int→Int→Bool→Bool→ZoI→ZoI→ZoI→ZoI→ZJ0
 |0,_,_,_,_,_,_,_,_,_,_,_,_=>none
 |n_+1,neg,back,num,ten,t48,t49,t2,t2_1,den,t47,t2_2,t2_3=>Ztd (Zuf n_) neg back num ten t48 t49 t2 t2_1 den t47 t2_2 t2_3
def Zxy (n:Nat) (s:(Bool×Str×ZoI×ZoI×Int×Int×Bool×Bool×ZoI×ZoI×ZoI×ZoI)):ZJ0:=Zuf n s.1 s.2.1 s.2.2.1 s.2.2.2.1 s.2.2.2.2.1 s.2.2.2.2.2.1 s.2.2.2.2.2.2.1 s.2.2.2.2.2.2.2.1 s.2.2.2.2.2.2.2.2.1 s.2.2.2.2.2.2.2.2.2.1 s.2.2.2.2.2.2.2.2.2.2.1 s.2.2.2.2.2.2.2.2.2.2.2
def Zvg (rec_:(Bool×Str×ZoI×ZoI×Int×Int×Bool×Bool×ZoI×ZoI×ZoI×ZoI)→ZJ0) (s:(Bool×Str×ZoI×ZoI×Int×Int×Bool×Bool×ZoI×ZoI×ZoI×ZoI)):ZJ0:=Ztd (fun neg back num ten t48 t49 t2 t2_1 den t47 t2_2 t2_3=>rec_ (neg,back,num,ten,t48,t49,t2,t2_1,den,t47,t2_2,t2_3)) s.1 s.2.1 s.2.2.1 s.2.2.2.1 s.2.2.2.2.1 s.2.2.2.2.2.1 s.2.2.2.2.2.2.1 s.2.2.2.2.2.2.2.1 s.2.2.2.2.2.2.2.2.1 s.2.2.2.2.2.2.2.2.2.1 s.2.2.2.2.2.2.2.2.2.2.1 s.2.2.2.2.2.2.2.2.2.2.2
theorem Zzj:∀n s,Zxy (n+1) s=Zvg (Zxy n) s:=fun _ _=>rfl
def Zq7 (neg:Bool) (front:Str) (back:Str) (t39:Bool) (t2:Bool) (t2_1:Bool) (t2_2:ZoI) (t2_3:ZoI):ZDU:=
 bif t39 then (
  some ((ZoF.mk (ZoM.mk false ([]:ZoI)) (ZoM.mk false ([]:ZoI))),false)
 )else (
  (ZpN ([1]:List Int)).bind fun den=>
  chk (decide (front.length+back.length≤Zr)) <|
  chk (decide ((front++back).length≤281474976710656)) <|
  (Zuf big neg back ([]:ZoI) ([10]:ZoI) (((front++back).map fun b=>((b.toNat:Nat):Int)).length:Int) (0:Int) t2 t2_1 den ((front++back).map fun b=>((b.toNat:Nat):Int)) t2_2 t2_3).bind fun(x0,x1,x2,x3,x4,x5,x6,x7,x8)=>Zwr x0 x1 x2 x3 x4 x5 x6 x7 x8
 )
def Zsx (body:Str) (neg:Bool) (t2:Bool) (t2_1:Bool) (t2_2:ZoI) (t2_3:ZoI):ZDU:=
 (Zxo body ([46]:Str)).bind fun(front,back,point)=>
 (Zu1 front 15).bind fun q=>
 bif (!q)then (
  Zq7 neg front back true t2 t2_1 t2_2 t2_3
 )else (
  bif point then (
   (Zu1 back 9).bind fun q_1=>
   Zq7 neg front back (!q_1) t2 t2_1 t2_2 t2_3
  )else (
   Zq7 neg front back false t2 t2_1 t2_2 t2_3
  )
 )
def ZsK (text:Str):ZDU:=
 (Zu7 text ([45]:Str)).bind fun(body,neg)=>
 bif (!neg)then (
  (ZuJ text ([43]:Str)).bind fun body_1=>
  Zsx body_1 neg false false ([]:ZoI) ([]:ZoI)
 )else (
  Zsx body neg false false ([]:ZoI) ([]:ZoI)
 )
def ZvU (s cs:Str):Option Str:=
 chk (cs.all fun b=>decide (b.toNat < 128)) <| chk (decide (cs.length < 4294967281)) <| some (Lib.trimLeftS s cs)
def Zw6 (s cs:Str):Option Str:=
 chk (cs.all fun b=>decide (b.toNat < 128)) <| chk (decide (cs.length < 4294967281)) <| some (Lib.trimRightS s cs)
def ZyT (zero:Str):Option Str:=
 some zero
def ZwR (rec_:Str→Zzc→Int→Int→ZEV) (zero:Str) (t6:Zzc) (t7:Int) (t8:Int):ZEV:=
 bif (decide (t8 < t7))then (
  (idx t6 t8).bind fun val=>
  bif (!(val == zero))then (
   some (.ret val)
  )else (
   chk (inK .i64 (t8+1)) <|
   rec_ zero t6 t7 (t8+1)
  )
 )else (
  some (.brk zero)
 )
def Zug:Nat→Str→Zzc→Int→Int→ZEV
 |0,_,_,_,_=>none
 |n_+1,zero,t6,t7,t8=>ZwR (Zug n_) zero t6 t7 t8
def Zyj (n:Nat) (s:(Str×Zzc×Int×Int)):ZEV:=Zug n s.1 s.2.1 s.2.2.1 s.2.2.2
def Zyk (rec_:(Str×Zzc×Int×Int)→ZEV) (s:(Str×Zzc×Int×Int)):ZEV:=ZwR (fun zero t6 t7 t8=>rec_ (zero,t6,t7,t8)) s.1 s.2.1 s.2.2.1 s.2.2.2
theorem Zz2:∀n s,Zyj (n+1) s=Zyk (Zyj n) s:=fun _ _=>rfl
def ZxB (vals:Zzc):Option Str:=
 (Zug big ([]:Str) vals (vals.length:Int) (0:Int)).bind fun
  | .ret q_=>some q_
  | .brk x0=>ZyT x0
def ZvP (out:Str):ZDT:=
 some (out,true)
def ZvQ (out:Str) (t43:Bool):ZDT:=
 bif t43 then (
  chk (decide (([45]:Str).length+out.length≤Zr)) <|
  ZvP (([45]:Str)++out)
 )else (
  ZvP out
 )
def Zrd (t:Str) (out:Str):ZDT:=
 (idx t 0).bind fun c=>
 bif (((c.toNat:Nat):Int) == 45)then (
  ZvQ out (!(out == ([48]:Str)))
 )else (
  ZvQ out false
 )
def Zv4 (t:Str):ZDT:=
 (ZsK t).bind fun(q,ok)=>
 bif (!ok)then (
  some (([]:Str),false)
 )else (
  (ZvU t ([43,45]:Str)).bind fun q_1=>
  (Zxo q_1 ([46]:Str)).bind fun(front,back,q_2)=>
  (ZvU front ([48]:Str)).bind fun front_1=>
  (Zw6 back ([48]:Str)).bind fun back_1=>
  (ZxB ([front_1,([48]:Str)]:Zzc)).bind fun out=>
  bif (!(back_1 == ([]:Str)))then (
   chk (decide (([46]:Str).length+back_1.length≤Zr)) <|
   chk (decide (out.length+(([46]:Str)++back_1).length≤Zr)) <|
   Zrd t (out++(([46]:Str)++back_1))
  )else (
   Zrd t out
  )
 )
def Ztj (n:Int) (s:Str):ZDT:=
 (ZzA).bind fun q=>
 bif (!(Zhx (q:=ZBW) (k:=(.int .i64)) (v:=(.st 6)) (car:=Zvz) q n).isSome)then (
  some (([]:Str),false)
 )else (
  bif (Option.isNone (((Zhx (q:=ZBW) (k:=(.int .i64)) (v:=(.st 6)) (car:=Zvz) q n).getD (ZpE.mk ([]:Str) (none:Option Nat) (none:Option Nat))).canonical))then (
   some (s,true)
  )else (
   (ZyD s).bind fun q_1=>
   chk (decide (((Zhx (q:=ZBW) (k:=(.int .i64)) (v:=(.st 6)) (car:=Zvz) q n).getD (ZpE.mk ([]:Str) (none:Option Nat) (none:Option Nat))).canonical=some 216)) <|
   (Zv4 q_1).bind fun(q_2,q_3)=>
   some (q_2,q_3)
  )
 )
def Zxl (n:Int) (s:Str):ZDU:=
 (Ztj n s).bind fun(t,ok)=>
 bif (!ok)then (
  some ((ZoF.mk (ZoM.mk false ([]:ZoI)) (ZoM.mk false ([]:ZoI))),false)
 )else (
  (ZzA).bind fun q=>
  chk (decide (((Zhx (q:=ZBW) (k:=(.int .i64)) (v:=(.st 6)) (car:=Zvz) q n).getD (ZpE.mk ([]:Str) (none:Option Nat) (none:Option Nat))).value=some 215)) <|
  (ZsK t).bind fun(q_1,q_2)=>
  some (q_1,q_2)
 )
def ZzB (c:ZoP):ZDU:=
 bif c.Null then (
  (Zvv).bind fun q=>
  some (q,false)
 )else (
  (Zxl 4 c.Text).bind fun(q_1,q_2)=>
  some (q_1,q_2)
 )
def Zwf (full:Int) (n:Int) (t2:Bool) (t2_1:Bool) (t2_2:ZoI) (t2_3:ZoI):Option ZoF:=
 (Zxs n (if (1:Int) > full then (1:Int)else full)).bind fun q=>
 some q
def Zsv (rec_:ZLm) (full:Int) (n:Int) (t10:Zv1) (t11:Int) (t12:Int) (t2:Bool) (t2_1:Bool) (t2_2:ZoI) (t2_3:ZoI):ZDW:=
 chk (inK .i64 (t12+1)) <|
 rec_ full n t10 t11 (t12+1) t2 t2_1 t2_2 t2_3
def Zs8 (rec_:ZLm) (full:Int) (n:Int) (t10:Zv1) (t11:Int) (t12:Int) (t2:Bool) (t2_1:Bool) (t2_2:ZoI) (t2_3:ZoI):ZDW:=
 bif (decide (t12 < t11))then (
  (idx t10 t12).bind fun x_=>
  bif x_.Null then (
   Zsv rec_ full n t10 t11 t12 t2 t2_1 t2_2 t2_3
  )else (
   chk (inK .i64 (full+1)) <|
   (ZzB x_).bind fun(q,ok)=>
   bif ok then (
    chk (inK .i64 (n+1)) <|
    Zsv rec_ (full+1) (n+1) t10 t11 t12 t2 t2_1 t2_2 t2_3
   )else (
    Zsv rec_ (full+1) n t10 t11 t12 t2 t2_1 t2_2 t2_3
   )
  )
 )else (
  some (full,n,t2,t2_1,t2_2,t2_3)
 )
def Zsu:Nat→Int→Int→Zv1→Int→Int→Bool→Bool→ZoI→ZoI→ZDW
 |0,_,_,_,_,_,_,_,_,_=>none
 |n_+1,full,n,t10,t11,t12,t2,t2_1,t2_2,t2_3=>Zs8 (Zsu n_) full n t10 t11 t12 t2 t2_1 t2_2 t2_3
def Zxp (n:Nat) (s:(Int×Int×Zv1×Int×Int×Bool×Bool×ZoI×ZoI)):ZDW:=Zsu n s.1 s.2.1 s.2.2.1 s.2.2.2.1 s.2.2.2.2.1 s.2.2.2.2.2.1 s.2.2.2.2.2.2.1 s.2.2.2.2.2.2.2.1 s.2.2.2.2.2.2.2.2
def Zva (rec_:(Int×Int×Zv1×Int×Int×Bool×Bool×ZoI×ZoI)→ZDW) (s:(Int×Int×Zv1×Int×Int×Bool×Bool×ZoI×ZoI)):ZDW:=Zs8 (fun full n t10 t11 t12 t2 t2_1 t2_2 t2_3=>rec_ (full,n,t10,t11,t12,t2,t2_1,t2_2,t2_3)) s.1 s.2.1 s.2.2.1 s.2.2.2.1 s.2.2.2.2.1 s.2.2.2.2.2.1 s.2.2.2.2.2.2.1 s.2.2.2.2.2.2.2.1 s.2.2.2.2.2.2.2.2
theorem Zze:∀n s,Zxp (n+1) s=Zva (Zxp n) s:=fun _ _=>rfl
def Zxq (c:ZoL):Option ZoF:=
 (Zsu big (0:Int) (0:Int) c.Cells (c.Cells.length:Int) (0:Int) false false ([]:ZoI) ([]:ZoI)).bind fun(x0,x1,x2,x3,x4,x5)=>Zwf x0 x1 x2 x3 x4 x5
def ZsX (c:ZoL):Option ZoF:=ZB1 (Zxq c)
def ZyJ (a:ZoF) (b:ZoF):Option (ZoM×ZoM):=
 (Zo2 a.Num b.Den).bind fun q=>
 (Zo2 b.Num a.Den).bind fun q_1=>
 (Zvw q q_1).bind fun num=>
 (Zo2 a.Den b.Den).bind fun den=>
 some (num,den)
def ZqD (t18:Bool) (a:ZoF) (b:ZoF) (t6:Bool) (t6_1:Bool) (t6_2:ZoI) (t6_3:ZoI):ZBj:=
 bif t18 then (
  some ((ZoF.mk (ZoM.mk false ([]:ZoI)) (ZoM.mk false ([]:ZoI))),1)
 )else (
  (ZyJ a b).bind fun(num,den)=>
  bif ((den.Words.length:Int) == 0)then (
   some ((ZoF.mk (ZoM.mk false ([]:ZoI)) (ZoM.mk false ([]:ZoI))),8)
  )else (
   (ZqC num den).bind fun f=>
   bif (decide ((if (f.Den.Words.length:Int) > (f.Num.Words.length:Int)then (f.Den.Words.length:Int)else (f.Num.Words.length:Int)) > 256))then (
    some ((ZoF.mk (ZoM.mk false ([]:ZoI)) (ZoM.mk false ([]:ZoI))),3)
   )else (
    some (f,0)
   )
  )
 )
def Zql (a:ZoF) (b:ZoF):ZBj:=
 (Zqq a).bind fun q=>
 bif (!q)then (
  ZqD true a b false false ([]:ZoI) ([]:ZoI)
 )else (
  (Zqq b).bind fun q_1=>
  ZqD (!q_1) a b false false ([]:ZoI) ([]:ZoI)
 )
def ZxY (a:ZoF) (b:ZoF):ZBj:=
 (Zqq b).bind fun q=>
 bif (!q)then (
  some ((ZoF.mk (ZoM.mk false ([]:ZoI)) (ZoM.mk false ([]:ZoI))),1)
 )else (
  (Zr5 b.Num).bind fun q_1=>
  (Zql a (ZoF.mk q_1 b.Den)).bind fun(q_2,q_3)=>
  some (q_2,q_3)
 )
def Zw7 (f:ZoF) (a1:Int):Option ZoF:=
 some f
def Zzf (a:ZoF) (b:ZoF):Option ZoF:=
 (ZxY a b).bind fun(q,q_1)=>
 (Zw7 q q_1).bind fun q_2=>
 some q_2
def Zw1 (a:ZoF) (b:ZoF):ZBj:=
 (Zql a b).bind fun(q,q_1)=>
 some (q,q_1)
def ZyE (a:ZoF) (b:ZoF):Option ZoF:=
 (Zw1 a b).bind fun(q,q_1)=>
 (Zw7 q q_1).bind fun q_2=>
 some q_2
def ZyK (a:ZoF) (b:ZoF):Option (ZoM×ZoM):=
 (Zo2 a.Num b.Den).bind fun num=>
 (Zo2 a.Den b.Num).bind fun den=>
 some (num,den)
def Zqe (t18:Bool) (a:ZoF) (b:ZoF) (t6:Bool) (t6_1:Bool) (t6_2:ZoI) (t6_3:ZoI):ZBj:=
 bif t18 then (
  some ((ZoF.mk (ZoM.mk false ([]:ZoI)) (ZoM.mk false ([]:ZoI))),1)
 )else (
  (ZyK a b).bind fun(num,den)=>
  bif ((den.Words.length:Int) == 0)then (
   some ((ZoF.mk (ZoM.mk false ([]:ZoI)) (ZoM.mk false ([]:ZoI))),8)
  )else (
   (ZqC num den).bind fun f=>
   bif (decide ((if (f.Den.Words.length:Int) > (f.Num.Words.length:Int)then (f.Den.Words.length:Int)else (f.Num.Words.length:Int)) > 256))then (
    some ((ZoF.mk (ZoM.mk false ([]:ZoI)) (ZoM.mk false ([]:ZoI))),3)
   )else (
    some (f,0)
   )
  )
 )
def ZsT (a:ZoF) (b:ZoF):ZBj:=
 (Zqq a).bind fun q=>
 bif (!q)then (
  Zqe true a b false false ([]:ZoI) ([]:ZoI)
 )else (
  (Zqq b).bind fun q_1=>
  Zqe (!q_1) a b false false ([]:ZoI) ([]:ZoI)
 )
def ZxZ (a:ZoF) (b:ZoF):ZBj:=
 (ZsT a b).bind fun(q,q_1)=>
 some (q,q_1)
def ZzZ (a:ZoF) (b:ZoF):Option ZoF:=
 (ZxZ a b).bind fun(q,q_1)=>
 (Zw7 q q_1).bind fun q_2=>
 some q_2
def Zt9 (t4:Bool) (t4_1:Bool) (values:ZoF) (Zlk:ZoF) (apart:ZoF) (t4_2:ZoI) (t4_3:ZoI):Option ZoF:=
 (ZyE values values).bind fun q=>
 (ZyE q Zlk).bind fun q_1=>
 (Zxs 1 1).bind fun q_2=>
 (Zzf q_2 apart).bind fun q_3=>
 (ZyE q_1 q_3).bind fun sum=>
 (Zxs 4 1).bind fun q_4=>
 (ZzZ sum q_4).bind fun q_5=>
 some q_5
def ZsH (t24:Bool) (a:ZoL) (b:ZoL) (t4:Bool) (t4_1:Bool) (values:ZoF) (Zlk:ZoF) (t4_2:ZoI) (t4_3:ZoI):Option ZoF:=
 bif t24 then (
  (Zvv).bind fun q=>
  some q
 )else (
  (ZsX a).bind fun q_1=>
  (ZsX b).bind fun q_2=>
  (Zzf q_1 q_2).bind fun apart=>
  (Zxh apart).bind fun q_3=>
  bif (decide (q_3 < 0))then (
   (Zvv).bind fun q_4=>
   (Zzf q_4 apart).bind fun apart_1=>
   Zt9 t4 t4_1 values Zlk apart_1 t4_2 t4_3
  )else (
   Zt9 t4 t4_1 values Zlk apart t4_2 t4_3
  )
 )
def Zxr (a:ZoL) (b:ZoL):Option ZoF:=
 (Zu9 a b).bind fun values=>
 (ZvV a.Name b.Name).bind fun Zlk=>
 (Zxh values).bind fun q=>
 bif (q == 0)then (
  (Zxh Zlk).bind fun q_1=>
  ZsH (q_1 == 0) a b false false values Zlk ([]:ZoI) ([]:ZoI)
 )else (
  ZsH false a b false false values Zlk ([]:ZoI) ([]:ZoI)
 )
def Zws:Option Int:=
 some (0:Int)
def Zwt (rec_:ZLd) (t38:(List Zrc)) (t39:Int) (t40:Int):ZxP:=
 chk (inK .i64 (t40+1)) <|
 rec_ t38 t39 (t40+1)
def Zte (rec_:(List Zrc)→Int→Int→Zrc→Int→Int→ZE1) (t38:(List Zrc)) (t39:Int) (t40:Int) (t44:Zrc) (t45:Int) (t46:Int):ZE1:=
 bif (decide (t46 < t45))then (
  (idx t44 t46).bind fun x_=>
  (Zxh x_).bind fun q=>
  bif (decide (q < 0))then (
   some (.ret (2:Int))
  )else (
   chk (inK .i64 (t46+1)) <|
   rec_ t38 t39 t40 t44 t45 (t46+1)
  )
 )else (
  some (.brk (t38,t39,t40))
 )
def Zuh:Nat→(List Zrc)→Int→Int→Zrc→Int→Int→ZE1
 |0,_,_,_,_,_,_=>none
 |n_+1,t38,t39,t40,t44,t45,t46=>Zte (Zuh n_) t38 t39 t40 t44 t45 t46
def ZxC (n:Nat) (s:((List Zrc)×Int×Int×Zrc×Int×Int)):ZE1:=Zuh n s.1 s.2.1 s.2.2.1 s.2.2.2.1 s.2.2.2.2.1 s.2.2.2.2.2
def Zvh (rec_:((List Zrc)×Int×Int×Zrc×Int×Int)→ZE1) (s:((List Zrc)×Int×Int×Zrc×Int×Int)):ZE1:=Zte (fun t38 t39 t40 t44 t45 t46=>rec_ (t38,t39,t40,t44,t45,t46)) s.1 s.2.1 s.2.2.1 s.2.2.2.1 s.2.2.2.2.1 s.2.2.2.2.2
theorem Zzk:∀n s,ZxC (n+1) s=Zvh (ZxC n) s:=fun _ _=>rfl
def Ztf (rec_:ZLd) (t38:(List Zrc)) (t39:Int) (t40:Int):ZxP:=
 bif (decide (t40 < t39))then (
  (idx t38 t40).bind fun row=>
  (Zuh big t38 t39 t40 row (row.length:Int) (0:Int)).bind fun
   | .ret q_=>some (.ret q_)
   | .brk (x0,x1,x2)=>Zwt rec_ x0 x1 x2
 )else (
  some (.brk ())
 )
def Zsy:Nat→(List Zrc)→Int→Int→ZxP
 |0,_,_,_=>none
 |n_+1,t38,t39,t40=>Ztf (Zsy n_) t38 t39 t40
def ZxD (n:Nat) (s:((List Zrc)×Int×Int)):ZxP:=Zsy n s.1 s.2.1 s.2.2
def Zvi (rec_:((List Zrc)×Int×Int)→ZxP) (s:((List Zrc)×Int×Int)):ZxP:=Ztf (fun t38 t39 t40=>rec_ (t38,t39,t40)) s.1 s.2.1 s.2.2
theorem Zzl:∀n s,ZxD (n+1) s=Zvi (ZxD n) s:=fun _ _=>rfl
def Zwu (w_:(List Zrc)):Option Int:=
 (Zsy big w_ (w_.length:Int) (0:Int)).bind fun
  | .ret q_=>some q_
  | .brk ()=>Zws
def Ztg (rec_:ZLi) (w_:(List Zrc)) (t24:(List Zrc)) (t25:Int) (t26:Int):ZBY:=
 bif (decide (t26 < t25))then (
  (idx t24 t26).bind fun row=>
  (idx w_ 0).bind fun w__e=>
  bif ((row.length:Int) != (w__e.length:Int))then (
   some (.ret (1:Int))
  )else (
   chk (inK .i64 (t26+1)) <|
   rec_ w_ t24 t25 (t26+1)
  )
 )else (
  some (.brk w_)
 )
def Zui:Nat→(List Zrc)→(List Zrc)→Int→Int→ZBY
 |0,_,_,_,_=>none
 |n_+1,w_,t24,t25,t26=>Ztg (Zui n_) w_ t24 t25 t26
def ZxE (n:Nat) (s:((List Zrc)×(List Zrc)×Int×Int)):ZBY:=Zui n s.1 s.2.1 s.2.2.1 s.2.2.2
def Zvj (rec_:ZLk) (s:((List Zrc)×(List Zrc)×Int×Int)):ZBY:=Ztg (fun w_ t24 t25 t26=>rec_ (w_,t24,t25,t26)) s.1 s.2.1 s.2.2.1 s.2.2.2
theorem Zzm:∀n s,ZxE (n+1) s=Zvj (ZxE n) s:=fun _ _=>rfl
def Zwv (w_:(List Zrc)):Option Int:=
 (Zui big w_ w_ (w_.length:Int) (0:Int)).bind fun
  | .ret q_=>some q_
  | .brk x0=>Zwu x0
def Zth (rec_:ZLi) (w_:(List Zrc)) (t14:(List Zrc)) (t15:Int) (t16:Int):ZBY:=
 bif (decide (t16 < t15))then (
  (idx t14 t16).bind fun row=>
  bif (decide ((row.length:Int) > 8))then (
   some (.ret (3:Int))
  )else (
   chk (inK .i64 (t16+1)) <|
   rec_ w_ t14 t15 (t16+1)
  )
 )else (
  some (.brk w_)
 )
def Zuj:Nat→(List Zrc)→(List Zrc)→Int→Int→ZBY
 |0,_,_,_,_=>none
 |n_+1,w_,t14,t15,t16=>Zth (Zuj n_) w_ t14 t15 t16
def ZxF (n:Nat) (s:((List Zrc)×(List Zrc)×Int×Int)):ZBY:=Zuj n s.1 s.2.1 s.2.2.1 s.2.2.2
def Zvk (rec_:ZLk) (s:((List Zrc)×(List Zrc)×Int×Int)):ZBY:=Zth (fun w_ t14 t15 t16=>rec_ (w_,t14,t15,t16)) s.1 s.2.1 s.2.2.1 s.2.2.2
theorem Zzn:∀n s,ZxF (n+1) s=Zvk (ZxF n) s:=fun _ _=>rfl
def ZvZ (w_:(List Zrc)):Option Int:=
 bif (decide ((w_.length:Int) > 8))then (
  some (3:Int)
 )else (
  (Zuj big w_ w_ (w_.length:Int) (0:Int)).bind fun
   | .ret q_=>some q_
   | .brk x0=>Zwv x0
 )
def ZpM (rf_:(List Zrc)→Int→Int→(List (ZoR×ZoF))→ZAW) (f:(List Zrc)) (i:Int) (used:Int) (k:Int) (t28:Bool) (f_1:(List (ZoR×ZoF))) (t8:Bool) (t8_1:Bool) (t8_2:ZoI) (t8_3:ZoI):Tr_7:=
 bif t28 then (
  (Zvv).bind fun q=>
  some (q,false,f_1)
 )else (
  (idx f i).bind fun f_e=>
  (idx f_e k).bind fun f_e_e=>
  chk (inK .i64 (i+1)) <|
  chk (decide (0≤k)) <|
  (rf_ f (i+1) (orK .i64 used (shlK .i64 1 k)) f_1).bind fun(q_1,m)=>
  (ZyE f_e_e q_1).bind fun q_2=>
  some (q_2,true,m)
 )
def Zqb (rf_:(List Zrc)→Int→Int→(List (ZoR×ZoF))→ZAW) (f:(List Zrc)) (i:Int) (used:Int) (k:Int) (m:(List (ZoR×ZoF))):Tr_7:=
 chk (decide (0≤k)) <|
 bif ((andK .i64 (shrK .i64 used k) 1) == 1)then (
  ZpM rf_ f i used k true m false false ([]:ZoI) ([]:ZoI)
 )else (
  (idx f i).bind fun f_e=>
  (idx f_e k).bind fun f_e_e=>
  (Zxh f_e_e).bind fun q=>
  ZpM rf_ f i used k (q == 0) m false false ([]:ZoI) ([]:ZoI)
 )
def ZtH (rf_:(List Zrc)→Int→Int→(List (ZoR×ZoF))→ZAW) (f:(List Zrc)) (f_1:(List (ZoR×ZoF))) (t6:Bool) (t6_1:Bool) (key:ZoR) (best:ZoF) (t6_2:ZoI) (t6_3:ZoI):ZAW:=
 some (best,(setB (q:=ZBW) (k:=(.st 7)) (v:=(.st 4)) (car:=Zvz) f_1 key best))
def Zqm (rf_:(List Zrc)→Int→Int→(List (ZoR×ZoF))→ZAW) (rec_:ZM6) (f:(List Zrc)) (i:Int) (used:Int) (t48:Int) (k:Int) (f_1:(List (ZoR×ZoF))) (t6:Bool) (t6_1:Bool) (key:ZoR) (best:ZoF) (t6_2:ZoI) (t6_3:ZoI):ZHK:=
 chk (inK .i64 (k+1)) <|
 rec_ f i used t48 (k+1) f_1 t6 t6_1 key best t6_2 t6_3
def Zqn (rf_:(List Zrc)→Int→Int→(List (ZoR×ZoF))→ZAW) (rec_:ZM6) (f:(List Zrc)) (i:Int) (used:Int) (t48:Int) (k:Int) (t66:Bool) (f_1:(List (ZoR×ZoF))) (t6:Bool) (t6_1:Bool) (key:ZoR) (best:ZoF) (x_:ZoF) (t6_2:ZoI) (t6_3:ZoI):ZHK:=
 bif t66 then (
  Zqm rf_ rec_ f i used t48 k f_1 t6 t6_1 key x_ t6_2 t6_3
 )else (
  Zqm rf_ rec_ f i used t48 k f_1 t6 t6_1 key best t6_2 t6_3
 )
def ZqZ (rf_:(List Zrc)→Int→Int→(List (ZoR×ZoF))→ZAW) (rec_:ZM6) (f:(List Zrc)) (i:Int) (used:Int) (t48:Int) (k:Int) (f_1:(List (ZoR×ZoF))) (t6:Bool) (t6_1:Bool) (key:ZoR) (best:ZoF) (t6_2:ZoI) (t6_3:ZoI):ZHK:=
 bif (decide (k < t48))then (
  (Zqb rf_ f i used k f_1).bind fun(x_,ok,m)=>
  bif ok then (
   (Zvx x_ best).bind fun q=>
   Zqn rf_ rec_ f i used t48 k (decide (q > 0)) m t6 t6_1 key best x_ t6_2 t6_3
  )else (
   Zqn rf_ rec_ f i used t48 k false m t6 t6_1 key best x_ t6_2 t6_3
  )
 )else (
  some (f,f_1,t6,t6_1,key,best,t6_2,t6_3)
 )
def ZoZ (rf_:(List Zrc)→Int→Int→(List (ZoR×ZoF))→ZAW):Nat→(List Zrc)→Int→Int→Int→Int→(List (ZoR×ZoF))→Bool→Bool→ZoR→ZoF→ZoI→ZoI→ZHK
 |0,_,_,_,_,_,_,_,_,_,_,_,_=>none
 |n_+1,f,i,used,t48,k,f_1,t6,t6_1,key,best,t6_2,t6_3=>ZqZ rf_ (ZoZ rf_ n_) f i used t48 k f_1 t6 t6_1 key best t6_2 t6_3
def Zvt (rf_:(List Zrc)→Int→Int→(List (ZoR×ZoF))→ZAW) (n:Nat) (s:((List Zrc)×Int×Int×Int×Int×(List (ZoR×ZoF))×Bool×Bool×ZoR×ZoF×ZoI×ZoI)):ZHK:=ZoZ rf_ n s.1 s.2.1 s.2.2.1 s.2.2.2.1 s.2.2.2.2.1 s.2.2.2.2.2.1 s.2.2.2.2.2.2.1 s.2.2.2.2.2.2.2.1 s.2.2.2.2.2.2.2.2.1 s.2.2.2.2.2.2.2.2.2.1 s.2.2.2.2.2.2.2.2.2.2.1 s.2.2.2.2.2.2.2.2.2.2.2
def Zyf (rf_:(List Zrc)→Int→Int→(List (ZoR×ZoF))→ZAW) (rec_:((List Zrc)×Int×Int×Int×Int×(List (ZoR×ZoF))×Bool×Bool×ZoR×ZoF×ZoI×ZoI)→ZHK) (s:((List Zrc)×Int×Int×Int×Int×(List (ZoR×ZoF))×Bool×Bool×ZoR×ZoF×ZoI×ZoI)):ZHK:=ZqZ rf_ (fun f i used t48 k f_1 t6 t6_1 key best t6_2 t6_3=>rec_ (f,i,used,t48,k,f_1,t6,t6_1,key,best,t6_2,t6_3)) s.1 s.2.1 s.2.2.1 s.2.2.2.1 s.2.2.2.2.1 s.2.2.2.2.2.1 s.2.2.2.2.2.2.1 s.2.2.2.2.2.2.2.1 s.2.2.2.2.2.2.2.2.1 s.2.2.2.2.2.2.2.2.2.1 s.2.2.2.2.2.2.2.2.2.2.1 s.2.2.2.2.2.2.2.2.2.2.2
theorem ZBa (rf_:(List Zrc)→Int→Int→(List (ZoR×ZoF))→ZAW):∀n s,Zvt rf_ (n+1) s=Zyf rf_ (Zvt rf_ n) s:=fun _ _=>rfl
def Zt4 (rf_:(List Zrc)→Int→Int→(List (ZoR×ZoF))→ZAW) (f:(List Zrc)) (i:Int) (used:Int) (m:(List (ZoR×ZoF))):ZAW:=
 bif (i == (f.length:Int))then (
  (Zvv).bind fun q=>
  some (q,m)
 )else (
  bif (Zhx (q:=ZBW) (k:=(.st 7)) (v:=(.st 4)) (car:=Zvz) m (ZoR.mk i used)).isSome then (
   some (((Zhx (q:=ZBW) (k:=(.st 7)) (v:=(.st 4)) (car:=Zvz) m (ZoR.mk i used)).getD (ZoF.mk (ZoM.mk false ([]:ZoI)) (ZoM.mk false ([]:ZoI)))),m)
  )else (
   chk (inK .i64 (i+1)) <|
   (rf_ f (i+1) used m).bind fun(best,m_1)=>
   (idx f i).bind fun f_e=>
   (ZoZ rf_ big f i used (f_e.length:Int) (0:Int) m_1 false false (ZoR.mk i used) best ([]:ZoI) ([]:ZoI)).bind fun(x0,x1,x2,x3,x4,x5,x6,x7)=>ZtH rf_ x0 x1 x2 x3 x4 x5 x6 x7
  )
 )
def ZoQ:Nat→(List Zrc)→Int→Int→(List (ZoR×ZoF))→ZAW
 |0,_,_,_,_=>none
 |n_+1,f,i,used,m=>Zt4 (ZoQ n_) f i used m
def ZAH (f:ZoF):Option ZoF:=
 chk (ZjC f.Num.Words.length 4) <|
 chk (ZjC f.Den.Words.length 4) <|
 some f
def ZwT (f:(List Zrc)) (t3:Bool) (t3_1:Bool) (f_1:(List (ZoR×ZoF))) (out:ZoI) (t3_2:ZoI) (t3_3:ZoI):ZEZ:=
 (ZoQ big f 0 0 f_1).bind fun(q,m)=>
 (ZAH q).bind fun q_1=>
 some (out,q_1,0)
def ZwU (rec_:Tf_2) (f:(List Zrc)) (used:Int) (take:Int) (t26:(List Zrc)) (t27:Int) (i:Int) (t3:Bool) (t3_1:Bool) (f_1:(List (ZoR×ZoF))) (out:ZoI) (t3_2:ZoI) (t3_3:ZoI):ZMo:=
 chk (ZjC (out.length+([take]:ZoI).length) 8) <|
 chk (inK .i64 (i+1)) <|
 rec_ f used t26 t27 (i+1) t3 t3_1 f_1 (out++([take]:ZoI)) t3_2 t3_3
def ZrA (rec_:Tf_0) (f:(List Zrc)) (used:Int) (i:Int) (take:Int) (k:Int) (t26:(List Zrc)) (t27:Int) (i_1:Int) (t38:Int) (k_1:Int) (t56:Bool) (t3:Bool) (t3_1:Bool) (f_1:(List (ZoR×ZoF))) (out:ZoI) (best:ZoF) (t3_2:ZoI) (t3_3:ZoI):ZMp:=
 bif t56 then (
  chk (decide (0≤k)) <|
  some (f,(orK .i64 used (shlK .i64 1 k)),k,t26,t27,i_1,t3,t3_1,f_1,out,t3_2,t3_3)
 )else (
  chk (inK .i64 (k_1+1)) <|
  rec_ f used i take t26 t27 i_1 t38 (k_1+1) t3 t3_1 f_1 out best t3_2 t3_3
 )
def ZvK (rec_:Tf_0) (f:(List Zrc)) (used:Int) (i:Int) (take:Int) (t26:(List Zrc)) (t27:Int) (i_1:Int) (t38:Int) (k:Int) (t3:Bool) (t3_1:Bool) (f_1:(List (ZoR×ZoF))) (out:ZoI) (best:ZoF) (t3_2:ZoI) (t3_3:ZoI):ZMp:=
 bif (decide (k < t38))then (
  (Zqb (ZoQ big) f i used k f_1).bind fun(x_,ok,m)=>
  bif ok then (
   (Zvx x_ best).bind fun q=>
   ZrA rec_ f used i take k t26 t27 i_1 t38 k (q == 0) t3 t3_1 m out best t3_2 t3_3
  )else (
   ZrA rec_ f used i take k t26 t27 i_1 t38 k false t3 t3_1 m out best t3_2 t3_3
  )
 )else (
  some (f,used,take,t26,t27,i_1,t3,t3_1,f_1,out,t3_2,t3_3)
 )
def ZpF:Nat→(List Zrc)→Int→Int→Int→(List Zrc)→Int→Int→Int→Int→Bool→Bool→(List (ZoR×ZoF))→ZoI→ZoF→ZoI→ZoI→ZMp
 |0,_,_,_,_,_,_,_,_,_,_,_,_,_,_,_,_=>none
 |n_+1,f,used,i,take,t26,t27,i_1,t38,k,t3,t3_1,f_1,out,best,t3_2,t3_3=>ZvK (ZpF n_) f used i take t26 t27 i_1 t38 k t3 t3_1 f_1 out best t3_2 t3_3
def ZvL (rec_:Tf_2) (f:(List Zrc)) (used:Int) (t26:(List Zrc)) (t27:Int) (i:Int) (t3:Bool) (t3_1:Bool) (f_1:(List (ZoR×ZoF))) (out:ZoI) (t3_2:ZoI) (t3_3:ZoI):ZMo:=
 bif (decide (i < t27))then (
  (idx t26 i).bind fun row=>
  (ZoQ big f i used f_1).bind fun(best,m)=>
  (ZpF big f used i (-1:Int) t26 t27 i (row.length:Int) (0:Int) t3 t3_1 m out best t3_2 t3_3).bind fun(x0,x1,x2,x3,x4,x5,x6,x7,x8,x9,x10,x11)=>ZwU rec_ x0 x1 x2 x3 x4 x5 x6 x7 x8 x9 x10 x11
 )else (
  some (f,t3,t3_1,f_1,out,t3_2,t3_3)
 )
def Zp3:Nat→(List Zrc)→Int→(List Zrc)→Int→Int→Bool→Bool→(List (ZoR×ZoF))→ZoI→ZoI→ZoI→ZMo
 |0,_,_,_,_,_,_,_,_,_,_,_=>none
 |n_+1,f,used,t26,t27,i,t3,t3_1,f_1,out,t3_2,t3_3=>ZvL (Zp3 n_) f used t26 t27 i t3 t3_1 f_1 out t3_2 t3_3
def ZwG (w_:(List Zrc)):ZEZ:=
 (ZvZ w_).bind fun e=>
 bif (e != 0)then (
  some (([]:ZoI),(ZoF.mk (ZoM.mk false ([]:ZoI)) (ZoM.mk false ([]:ZoI))),e)
 )else (
  (Zp3 big w_ (0:Int) w_ (w_.length:Int) (0:Int) false false ([]:(List (ZoR×ZoF))) ([]:ZoI) ([]:ZoI) ([]:ZoI)).bind fun(x0,x1,x2,x3,x4,x5,x6)=>ZwT x0 x1 x2 x3 x4 x5 x6
 )
def ZvD (a:ZoG) (b:ZoG) (t5:Bool) (t5_1:Bool) (w_:(List Zrc)) (t5_2:ZoI) (t5_3:ZoI):ZEZ:=
 (ZwG w_).bind fun(l,weight,e)=>
 bif (e != 0)then (
  some (([]:ZoI),(ZoF.mk (ZoM.mk false ([]:ZoI)) (ZoM.mk false ([]:ZoI))),e)
 )else (
  (Zxs (if (1:Int) > (if (b.Columns.length:Int) > (a.Columns.length:Int)then (b.Columns.length:Int)else (a.Columns.length:Int))then (1:Int)else (if (b.Columns.length:Int) > (a.Columns.length:Int)then (b.Columns.length:Int)else (a.Columns.length:Int))) 1).bind fun q=>
  (ZzZ weight q).bind fun q_1=>
  some (l,q_1,0)
 )
def ZvE (rec_:Tf_4) (t39:ZqA) (t40:Int) (t41:Int) (a:ZoG) (b:ZoG) (t5:Bool) (t5_1:Bool) (w_:(List Zrc)) (row:Zrc) (t5_2:ZoI) (t5_3:ZoI):ZJc:=
 chk (ZjC (w_.length+([row]:(List Zrc)).length) 24) <|
 chk (inK .i64 (t41+1)) <|
 rec_ t39 t40 (t41+1) a b t5 t5_1 (w_++([row]:(List Zrc))) t5_2 t5_3
def ZsD (rec_:ZqA→Int→Int→ZqA→Int→Int→ZoG→ZoG→Bool→Bool→(List Zrc)→ZoL→Zrc→ZoI→ZoI→ZJ1) (t39:ZqA) (t40:Int) (t41:Int) (t47:ZqA) (t48:Int) (t49:Int) (a:ZoG) (b:ZoG) (t5:Bool) (t5_1:Bool) (w_:(List Zrc)) (x_:ZoL) (row:Zrc) (t5_2:ZoI) (t5_3:ZoI):ZJ1:=
 bif (decide (t49 < t48))then (
  (idx t47 t49).bind fun y=>
  (Zxr x_ y).bind fun q=>
  chk (ZjC (row.length+([q]:Zrc).length) 64) <|
  chk (inK .i64 (t49+1)) <|
  rec_ t39 t40 t41 t47 t48 (t49+1) a b t5 t5_1 w_ x_ (row++([q]:Zrc)) t5_2 t5_3
 )else (
  some (t39,t40,t41,a,b,t5,t5_1,w_,row,t5_2,t5_3)
 )
def ZtL:Nat→ZqA→Int→Int→ZqA→Int→Int→ZoG→ZoG→Bool→Bool→(List Zrc)→ZoL→Zrc→ZoI→ZoI→ZJ1
 |0,_,_,_,_,_,_,_,_,_,_,_,_,_,_,_=>none
 |n_+1,t39,t40,t41,t47,t48,t49,a,b,t5,t5_1,w_,x_,row,t5_2,t5_3=>ZsD (ZtL n_) t39 t40 t41 t47 t48 t49 a b t5 t5_1 w_ x_ row t5_2 t5_3
def Zxd (n:Nat) (s:(ZqA×Int×Int×ZqA×Int×Int×ZoG×ZoG×Bool×Bool×(List Zrc)×ZoL×Zrc×ZoI×ZoI)):ZJ1:=ZtL n s.1 s.2.1 s.2.2.1 s.2.2.2.1 s.2.2.2.2.1 s.2.2.2.2.2.1 s.2.2.2.2.2.2.1 s.2.2.2.2.2.2.2.1 s.2.2.2.2.2.2.2.2.1 s.2.2.2.2.2.2.2.2.2.1 s.2.2.2.2.2.2.2.2.2.2.1 s.2.2.2.2.2.2.2.2.2.2.2.1 s.2.2.2.2.2.2.2.2.2.2.2.2.1 s.2.2.2.2.2.2.2.2.2.2.2.2.2.1 s.2.2.2.2.2.2.2.2.2.2.2.2.2.2
def ZuT (rec_:(ZqA×Int×Int×ZqA×Int×Int×ZoG×ZoG×Bool×Bool×(List Zrc)×ZoL×Zrc×ZoI×ZoI)→ZJ1) (s:(ZqA×Int×Int×ZqA×Int×Int×ZoG×ZoG×Bool×Bool×(List Zrc)×ZoL×Zrc×ZoI×ZoI)):ZJ1:=ZsD (fun t39 t40 t41 t47 t48 t49 a b t5 t5_1 w_ x_ row t5_2 t5_3=>rec_ (t39,t40,t41,t47,t48,t49,a,b,t5,t5_1,w_,x_,row,t5_2,t5_3)) s.1 s.2.1 s.2.2.1 s.2.2.2.1 s.2.2.2.2.1 s.2.2.2.2.2.1 s.2.2.2.2.2.2.1 s.2.2.2.2.2.2.2.1 s.2.2.2.2.2.2.2.2.1 s.2.2.2.2.2.2.2.2.2.1 s.2.2.2.2.2.2.2.2.2.2.1 s.2.2.2.2.2.2.2.2.2.2.2.1 s.2.2.2.2.2.2.2.2.2.2.2.2.1 s.2.2.2.2.2.2.2.2.2.2.2.2.2.1 s.2.2.2.2.2.2.2.2.2.2.2.2.2.2
theorem Zy5:∀n s,Zxd (n+1) s=ZuT (Zxd n) s:=fun _ _=>rfl
def ZsE (rec_:Tf_4) (t39:ZqA) (t40:Int) (t41:Int) (a:ZoG) (b:ZoG) (t5:Bool) (t5_1:Bool) (w_:(List Zrc)) (t5_2:ZoI) (t5_3:ZoI):ZJc:=
 bif (decide (t41 < t40))then (
  (idx t39 t41).bind fun x_=>
  (ZtL big t39 t40 t41 b.Columns (b.Columns.length:Int) (0:Int) a b t5 t5_1 w_ x_ ([]:Zrc) t5_2 t5_3).bind fun(x0,x1,x2,x3,x4,x5,x6,x7,x8,x9,x10)=>ZvE rec_ x0 x1 x2 x3 x4 x5 x6 x7 x8 x9 x10
 )else (
  some (a,b,t5,t5_1,w_,t5_2,t5_3)
 )
def ZrP:Nat→ZqA→Int→Int→ZoG→ZoG→Bool→Bool→(List Zrc)→ZoI→ZoI→ZJc
 |0,_,_,_,_,_,_,_,_,_,_=>none
 |n_+1,t39,t40,t41,a,b,t5,t5_1,w_,t5_2,t5_3=>ZsE (ZrP n_) t39 t40 t41 a b t5 t5_1 w_ t5_2 t5_3
def Zxe (n:Nat) (s:(ZqA×Int×Int×ZoG×ZoG×Bool×Bool×(List Zrc)×ZoI×ZoI)):ZJc:=ZrP n s.1 s.2.1 s.2.2.1 s.2.2.2.1 s.2.2.2.2.1 s.2.2.2.2.2.1 s.2.2.2.2.2.2.1 s.2.2.2.2.2.2.2.1 s.2.2.2.2.2.2.2.2.1 s.2.2.2.2.2.2.2.2.2
def ZuU (rec_:(ZqA×Int×Int×ZoG×ZoG×Bool×Bool×(List Zrc)×ZoI×ZoI)→ZJc) (s:(ZqA×Int×Int×ZoG×ZoG×Bool×Bool×(List Zrc)×ZoI×ZoI)):ZJc:=ZsE (fun t39 t40 t41 a b t5 t5_1 w_ t5_2 t5_3=>rec_ (t39,t40,t41,a,b,t5,t5_1,w_,t5_2,t5_3)) s.1 s.2.1 s.2.2.1 s.2.2.2.1 s.2.2.2.2.1 s.2.2.2.2.2.1 s.2.2.2.2.2.2.1 s.2.2.2.2.2.2.2.1 s.2.2.2.2.2.2.2.2.1 s.2.2.2.2.2.2.2.2.2
theorem Zy6:∀n s,Zxe (n+1) s=ZuU (Zxe n) s:=fun _ _=>rfl
def ZtM (t26:Bool) (a:ZoG) (b:ZoG) (t5:Bool) (t5_1:Bool) (t5_2:ZoI) (t5_3:ZoI):ZEZ:=
 bif t26 then (
  some (([]:ZoI),(ZoF.mk (ZoM.mk false ([]:ZoI)) (ZoM.mk false ([]:ZoI))),3)
 )else (
  (ZrP big a.Columns (a.Columns.length:Int) (0:Int) a b t5 t5_1 ([]:(List Zrc)) t5_2 t5_3).bind fun(x0,x1,x2,x3,x4,x5,x6)=>ZvD x0 x1 x2 x3 x4 x5 x6
 )
def ZtN (t16:Bool) (a:ZoG) (b:ZoG) (t5:Bool) (t5_1:Bool) (t5_2:ZoI) (t5_3:ZoI):ZEZ:=
 bif t16 then (
  some (([]:ZoI),(ZoF.mk (ZoM.mk false ([]:ZoI)) (ZoM.mk false ([]:ZoI))),1)
 )else (
  bif (decide ((a.Columns.length:Int) > 8))then (
   ZtM true a b t5 t5_1 t5_2 t5_3
  )else (
   ZtM (decide ((b.Columns.length:Int) > 8)) a b t5 t5_1 t5_2 t5_3
  )
 )
def Zq1 (a:ZoG) (b:ZoG):ZEZ:=
 (Zsn a).bind fun q=>
 bif (!q)then (
  ZtN true a b false false ([]:ZoI) ([]:ZoI)
 )else (
  (Zsn b).bind fun q_1=>
  ZtN (!q_1) a b false false ([]:ZoI) ([]:ZoI)
 )
def ZuA:Option Int:=
 some (-1:Int)
def Zro (rec_:ZoI→Int→Int→Int→ZxP) (s:ZoI) (v_:Int) (t7:Int) (i:Int):ZxP:=
 bif (decide (i < t7))then (
  (idx s i).bind fun s_e=>
  bif (v_ == s_e)then (
   some (.ret i)
  )else (
   chk (inK .i64 (i+1)) <|
   rec_ s v_ t7 (i+1)
  )
 )else (
  some (.brk ())
 )
def ZqQ:Nat→ZoI→Int→Int→Int→ZxP
 |0,_,_,_,_=>none
 |n_+1,s,v_,t7,i=>Zro (ZqQ n_) s v_ t7 i
def Zwe (n:Nat) (s:(ZoI×Int×Int×Int)):ZxP:=ZqQ n s.1 s.2.1 s.2.2.1 s.2.2.2
def Ztx (rec_:(ZoI×Int×Int×Int)→ZxP) (s:(ZoI×Int×Int×Int)):ZxP:=Zro (fun s v_ t7 i=>rec_ (s,v_,t7,i)) s.1 s.2.1 s.2.2.1 s.2.2.2
theorem Zyv:∀n s,Zwe (n+1) s=Ztx (Zwe n) s:=fun _ _=>rfl
def ZvH (s:ZoI) (v_:Int):Option Int:=
 (ZqQ big s v_ (s.length:Int) (0:Int)).bind fun
  | .ret q_=>some q_
  | .brk ()=>ZuA
def Zso (s:ZoI) (v_:Int):Option Bool:=
 (ZvH s v_).bind fun q=>
 some (decide (q≥0))
def Zo7 (s:ZqA) (t4:Bool):Option ZqA:=
 bif t4 then (
  some ([]:ZqA)
 )else (
  chk (ZjC (([]:ZqA).length+s.length) 40) <|
  some (([]:ZqA)++s)
 )
def ZpO (s:ZqA):Option ZqA:=
 bif (List.isEmpty s)then agree (
  Zo7 s true
 ) (
  Zo7 s false
 )else (
  Zo7 s false
 )
def Zpd (s:Zv1) (t4:Bool):Option Zv1:=
 bif t4 then (
  some ([]:Zv1)
 )else (
  chk (ZjC (([]:Zv1).length+s.length) 24) <|
  some (([]:Zv1)++s)
 )
def Zqc (s:Zv1):Option Zv1:=
 bif (List.isEmpty s)then agree (
  Zpd s true
 ) (
  Zpd s false
 )else (
  Zpd s false
 )
def Zy8 (t:Int) (t_1:Str) (t2:Int) (t2_1:Str) (t_2:ZqA) (t_lo:Nat) (t2_2:ZqA):Option (ZoG×Nat):=
 some ((ZoG.mk t t_1 t_2),t_lo)
def Zw3 (rec_:Int→Int→Int→Str→Int→Str→ZqA→Nat→ZqA→ZE3) (t11:Int) (i:Int) (t:Int) (t_1:Str) (t2:Int) (t2_1:Str) (t10:ZqA) (t10_lo:Nat) (t2_2:ZqA):ZE3:=
 bif (decide (i < t11))then (
  chk (inR i (t10.length:Int)) <|
  (t10[(i).toNat]?).bind fun c=>
  chk (decide (t10_lo≤(i).toNat)) <|
  (Zqc c.Cells).bind fun q=>
  chk (inR i (t10.length:Int)) <|
  chk (decide (t10_lo=(i).toNat)) <|
  (t10[(i).toNat]?).bind fun el=>
  chk (inK .i64 (i+1)) <|
  rec_ t11 (i+1) t t_1 t2 t2_1 (t10.set ((i).toNat) (ZoL.mk el.Name q)) (t10_lo+1) t2_2
 )else (
  some (t,t_1,t2,t2_1,t10,t10_lo,t2_2)
 )
def ZxX:Nat→Int→Int→Int→Str→Int→Str→ZqA→Nat→ZqA→ZE3
 |0,_,_,_,_,_,_,_,_,_=>none
 |n_+1,t11,i,t,t_1,t2,t2_1,t10,t10_lo,t2_2=>Zw3 (ZxX n_) t11 i t t_1 t2 t2_1 t10 t10_lo t2_2
def ZzL (n:Nat) (s:(Int×Int×Int×Str×Int×Str×ZqA×Nat×ZqA)):ZE3:=ZxX n s.1 s.2.1 s.2.2.1 s.2.2.2.1 s.2.2.2.2.1 s.2.2.2.2.2.1 s.2.2.2.2.2.2.1 s.2.2.2.2.2.2.2.1 s.2.2.2.2.2.2.2.2
def Zye (rec_:(Int×Int×Int×Str×Int×Str×ZqA×Nat×ZqA)→ZE3) (s:(Int×Int×Int×Str×Int×Str×ZqA×Nat×ZqA)):ZE3:=Zw3 (fun t11 i t t_1 t2 t2_1 t10 t10_lo t2_2=>rec_ (t11,i,t,t_1,t2,t2_1,t10,t10_lo,t2_2)) s.1 s.2.1 s.2.2.1 s.2.2.2.1 s.2.2.2.2.1 s.2.2.2.2.2.1 s.2.2.2.2.2.2.1 s.2.2.2.2.2.2.2.1 s.2.2.2.2.2.2.2.2
theorem ZAZ:∀n s,ZzL (n+1) s=Zye (ZzL n) s:=fun _ _=>rfl
def ZyF (t:ZoG):Option (ZoG×Nat):=
 (ZpO t.Columns).bind fun q=>
 (ZxX big (q.length:Int) (0:Int) t.ID t.Name (0:Int) ([]:Str) q 0 ([]:ZqA)).bind fun(x0,x1,x2,x3,x4,x5,x6)=>Zy8 x0 x1 x2 x3 x4 x5 x6
def Zzg (x_:Int) (y:Int):ZEU:=
 chk (decide (0≤(32:Int))) <|
 chk (decide (0≤(32:Int))) <|
 chk (decide (0≤(32:Int))) <|
 chk (decide (0≤(32:Int))) <|
 chk (decide (0≤(32:Int))) <|
 some ((IntKind.wrap .u64 ((IntKind.wrap .u64 ((IntKind.wrap .u64 ((shrK .u64 x_ 32)*(shrK .u64 y 32)))+(shrK .u64 (IntKind.wrap .u64 ((IntKind.wrap .u64 ((shrK .u64 x_ 32)*(andK .u64 y 4294967295)))+(shrK .u64 (IntKind.wrap .u64 ((andK .u64 x_ 4294967295)*(andK .u64 y 4294967295))) 32))) 32)))+(shrK .u64 (IntKind.wrap .u64 ((andK .u64 (IntKind.wrap .u64 ((IntKind.wrap .u64 ((shrK .u64 x_ 32)*(andK .u64 y 4294967295)))+(shrK .u64 (IntKind.wrap .u64 ((andK .u64 x_ 4294967295)*(andK .u64 y 4294967295))) 32))) 4294967295)+(IntKind.wrap .u64 ((andK .u64 x_ 4294967295)*(shrK .u64 y 32))))) 32))),(IntKind.wrap .u64 (x_*y)))
def Zz0 (x_:Int) (y:Int):ZEU:=
 (Zzg x_ y).bind fun(h_,l)=>
 some (h_,l)
def Zti (newslice:Zv1):Option Zv1:=
 some newslice
def ZwA (rec_:Int→Zv1→Option Zv1) (n:Int) (newslice:Zv1):Option Zv1:=
 bif (decide (n < (newslice.length:Int)))then (
  chk (Zcp n (newslice.length:Int) (newslice.length:Int)) <|
  chk (Zcp 0 n (newslice.length:Int)) <|
  chk (decide ((n).toNat+((newslice.length:Int).toNat - (n).toNat)≤newslice.length)) <|
  chk (inK .i64 (n+((min ((newslice.drop 0).take ((n).toNat - 0)).length ((newslice.length:Int).toNat - (n).toNat):Nat):Int))) <|
  rec_ (n+((min ((newslice.drop 0).take ((n).toNat - 0)).length ((newslice.length:Int).toNat - (n).toNat):Nat):Int)) (ZT newslice ((n).toNat) (((newslice.drop 0).take ((n).toNat - 0)).take (min ((newslice.drop 0).take ((n).toNat - 0)).length ((newslice.length:Int).toNat - (n).toNat))))
 )else (
  some newslice
 )
def ZqO:Nat→Int→Zv1→Option Zv1
 |0,_,_=>none
 |n_+1,n,newslice=>ZwA (ZqO n_) n newslice
def ZqP (x_:Zv1) (lo:Int) (t26:Bool):Option Zv1:=
 bif t26 then (
  none
 )else (
  chk (mkOk (IntKind.wrap .i64 lo) (IntKind.wrap .i64 lo) 24) <|
  (ZqO big ((min x_.length (List.replicate ((IntKind.wrap .i64 lo)).toNat (ZoP.mk false ([]:Str))).length:Nat):Int) (x_.take (List.replicate ((IntKind.wrap .i64 lo)).toNat (ZoP.mk false ([]:Str))).length++(List.replicate ((IntKind.wrap .i64 lo)).toNat (ZoP.mk false ([]:Str))).drop x_.length)).bind fun x0=>Zti x0
 )
def Zpz (x_:Zv1) (count:Int):Option Zv1:=
 bif (decide (count < 0))then (
  none
 )else (
  (Zz0 (IntKind.wrap .u64 (x_.length:Int)) (IntKind.wrap .u64 count)).bind fun(hi,lo)=>
  bif (decide (hi > 0))then (
   ZqP x_ lo true
  )else (
   ZqP x_ lo (decide (lo > 9223372036854775807))
  )
 )
def ZvA (t6:Int) (t6_1:Str) (out:Int) (out_1:Str) (t6_2:ZqA) (out_2:ZqA) (out_lo:Nat):ZGg:=
 some ((ZoG.mk out out_1 out_2),0)
def ZrN (rec_:Tf_5) (i:Int) (below:Zv1) (t77:ZoI) (t78:Int) (i_1:Int) (b:ZoG) (t6:Int) (t6_1:Str) (out:Int) (out_1:Str) (t6_2:ZqA) (out_2:ZqA) (out_lo:Nat):ZDX:=
 chk (inR i (out_2.length:Int)) <|
 (out_2[(i).toNat]?).bind fun out_e=>
 chk (decide ((i).toNat < out_lo)) <|
 chk (ZjC (out_e.Cells.length+below.length) 24) <|
 chk (inR i (out_2.length:Int)) <|
 chk (decide ((i).toNat=(i).toNat∧(i).toNat < out_lo)) <|
 (out_2[(i).toNat]?).bind fun el=>
 chk (inK .i64 (i_1+1)) <|
 rec_ t77 t78 (i_1+1) b t6 t6_1 out out_1 t6_2 (out_2.set ((i).toNat) (ZoL.mk el.Name (out_e.Cells++below))) out_lo
def ZsA (rec_:Tf_5) (t77:ZoI) (t78:Int) (i:Int) (b:ZoG) (t6:Int) (t6_1:Str) (out:Int) (out_1:Str) (t6_2:ZqA) (out_2:ZqA) (out_lo:Nat):ZDX:=
 bif (decide (i < t78))then (
  (idx t77 i).bind fun k=>
  (Zu5 b).bind fun q=>
  (Zpz ([(ZoP.mk true ([]:Str))]:Zv1) q).bind fun below=>
  bif (decide (k≥0))then (
   (idx b.Columns k).bind fun Column=>
   ZrN rec_ i Column.Cells t77 t78 i b t6 t6_1 out out_1 t6_2 out_2 out_lo
  )else (
   ZrN rec_ i below t77 t78 i b t6 t6_1 out out_1 t6_2 out_2 out_lo
  )
 )else (
  some (t6,t6_1,out,out_1,t6_2,out_2,out_lo)
 )
def ZrK:Nat→ZoI→Int→Int→ZoG→Int→Str→Int→Str→ZqA→ZqA→Nat→ZDX
 |0,_,_,_,_,_,_,_,_,_,_,_=>none
 |n_+1,t77,t78,i,b,t6,t6_1,out,out_1,t6_2,out_2,out_lo=>ZsA (ZrK n_) t77 t78 i b t6 t6_1 out out_1 t6_2 out_2 out_lo
def Zxa (n:Nat) (s:(ZoI×Int×Int×ZoG×Int×Str×Int×Str×ZqA×ZqA×Nat)):ZDX:=ZrK n s.1 s.2.1 s.2.2.1 s.2.2.2.1 s.2.2.2.2.1 s.2.2.2.2.2.1 s.2.2.2.2.2.2.1 s.2.2.2.2.2.2.2.1 s.2.2.2.2.2.2.2.2.1 s.2.2.2.2.2.2.2.2.2.1 s.2.2.2.2.2.2.2.2.2.2
def ZuQ (rec_:(ZoI×Int×Int×ZoG×Int×Str×Int×Str×ZqA×ZqA×Nat)→ZDX) (s:(ZoI×Int×Int×ZoG×Int×Str×Int×Str×ZqA×ZqA×Nat)):ZDX:=ZsA (fun t77 t78 i b t6 t6_1 out out_1 t6_2 out_2 out_lo=>rec_ (t77,t78,i,b,t6,t6_1,out,out_1,t6_2,out_2,out_lo)) s.1 s.2.1 s.2.2.1 s.2.2.2.1 s.2.2.2.2.1 s.2.2.2.2.2.1 s.2.2.2.2.2.2.1 s.2.2.2.2.2.2.2.1 s.2.2.2.2.2.2.2.2.1 s.2.2.2.2.2.2.2.2.2.1 s.2.2.2.2.2.2.2.2.2.2
theorem Zy2:∀n s,Zxa (n+1) s=ZuQ (Zxa n) s:=fun _ _=>rfl
def ZvB (align:ZoI) (a:ZoG) (b:ZoG) (t6:Int) (t6_1:Str) (t6_2:ZqA):ZGg:=
 (Zu5 a).bind fun q=>
 (Zu5 b).bind fun q_1=>
 chk (inK .i64 (q+q_1)) <|
 bif (decide ((q+q_1) > 4096))then (
  some ((ZoG.mk 0 ([]:Str) ([]:ZqA)),3)
 )else (
  (ZyF a).bind fun(out,out_lo)=>
  (ZrK big align (align.length:Int) (0:Int) b t6 t6_1 out.ID out.Name t6_2 out.Columns out_lo).bind fun(x0,x1,x2,x3,x4,x5,x6)=>ZvA x0 x1 x2 x3 x4 x5 x6
 )
def ZtJ (rec_:ZMq) (align:ZoI) (t50:ZoI) (t51:Int) (i:Int) (t65:Bool) (a:ZoG) (b:ZoG) (t6:Int) (t6_1:Str) (t6_2:ZqA):ZE7:=
 bif t65 then (
  some (.ret ((ZoG.mk 0 ([]:Str) ([]:ZqA)),6))
 )else (
  chk (inK .i64 (i+1)) <|
  rec_ align t50 t51 (i+1) a b t6 t6_1 t6_2
 )
def ZsB (rec_:ZMq) (align:ZoI) (t50:ZoI) (t51:Int) (i:Int) (a:ZoG) (b:ZoG) (t6:Int) (t6_1:Str) (t6_2:ZqA):ZE7:=
 bif (decide (i < t51))then (
  (idx t50 i).bind fun k=>
  bif (decide (k≥0))then (
   chk (Zcp 0 i (align.length:Int)) <|
   (Zso (align.take (i).toNat) k).bind fun q=>
   ZtJ rec_ align t50 t51 i q a b t6 t6_1 t6_2
  )else (
   ZtJ rec_ align t50 t51 i false a b t6 t6_1 t6_2
  )
 )else (
  some (.brk (align,a,b,t6,t6_1,t6_2))
 )
def ZrL:Nat→ZoI→ZoI→Int→Int→ZoG→ZoG→Int→Str→ZqA→ZE7
 |0,_,_,_,_,_,_,_,_,_=>none
 |n_+1,align,t50,t51,i,a,b,t6,t6_1,t6_2=>ZsB (ZrL n_) align t50 t51 i a b t6 t6_1 t6_2
def Zxb (n:Nat) (s:(ZoI×ZoI×Int×Int×ZoG×ZoG×Int×Str×ZqA)):ZE7:=ZrL n s.1 s.2.1 s.2.2.1 s.2.2.2.1 s.2.2.2.2.1 s.2.2.2.2.2.1 s.2.2.2.2.2.2.1 s.2.2.2.2.2.2.2.1 s.2.2.2.2.2.2.2.2
def ZuR (rec_:Tf_6) (s:(ZoI×ZoI×Int×Int×ZoG×ZoG×Int×Str×ZqA)):ZE7:=ZsB (fun align t50 t51 i a b t6 t6_1 t6_2=>rec_ (align,t50,t51,i,a,b,t6,t6_1,t6_2)) s.1 s.2.1 s.2.2.1 s.2.2.2.1 s.2.2.2.2.1 s.2.2.2.2.2.1 s.2.2.2.2.2.2.1 s.2.2.2.2.2.2.2.1 s.2.2.2.2.2.2.2.2
theorem Zy3:∀n s,Zxb (n+1) s=ZuR (Zxb n) s:=fun _ _=>rfl
def ZvC (align:ZoI) (a:ZoG) (b:ZoG) (t6:Int) (t6_1:Str) (t6_2:ZqA):ZGg:=
 (ZrL big align align (align.length:Int) (0:Int) a b t6 t6_1 t6_2).bind fun
  | .ret q_=>some q_
  | .brk (x0,x1,x2,x3,x4,x5)=>ZvB x0 x1 x2 x3 x4 x5
def ZtK (rec_:ZMq) (align:ZoI) (t33:ZoI) (t34:Int) (t35:Int) (t47:Bool) (a:ZoG) (b:ZoG) (t6:Int) (t6_1:Str) (t6_2:ZqA):ZE7:=
 bif t47 then (
  some (.ret ((ZoG.mk 0 ([]:Str) ([]:ZqA)),2))
 )else (
  chk (inK .i64 (t35+1)) <|
  rec_ align t33 t34 (t35+1) a b t6 t6_1 t6_2
 )
def ZsC (rec_:ZMq) (align:ZoI) (t33:ZoI) (t34:Int) (t35:Int) (a:ZoG) (b:ZoG) (t6:Int) (t6_1:Str) (t6_2:ZqA):ZE7:=
 bif (decide (t35 < t34))then (
  (idx t33 t35).bind fun k=>
  bif (decide (k < (-1)))then (
   ZtK rec_ align t33 t34 t35 true a b t6 t6_1 t6_2
  )else (
   ZtK rec_ align t33 t34 t35 (decide (k≥(b.Columns.length:Int))) a b t6 t6_1 t6_2
  )
 )else (
  some (.brk (align,a,b,t6,t6_1,t6_2))
 )
def ZrM:Nat→ZoI→ZoI→Int→Int→ZoG→ZoG→Int→Str→ZqA→ZE7
 |0,_,_,_,_,_,_,_,_,_=>none
 |n_+1,align,t33,t34,t35,a,b,t6,t6_1,t6_2=>ZsC (ZrM n_) align t33 t34 t35 a b t6 t6_1 t6_2
def Zxc (n:Nat) (s:(ZoI×ZoI×Int×Int×ZoG×ZoG×Int×Str×ZqA)):ZE7:=ZrM n s.1 s.2.1 s.2.2.1 s.2.2.2.1 s.2.2.2.2.1 s.2.2.2.2.2.1 s.2.2.2.2.2.2.1 s.2.2.2.2.2.2.2.1 s.2.2.2.2.2.2.2.2
def ZuS (rec_:Tf_6) (s:(ZoI×ZoI×Int×Int×ZoG×ZoG×Int×Str×ZqA)):ZE7:=ZsC (fun align t33 t34 t35 a b t6 t6_1 t6_2=>rec_ (align,t33,t34,t35,a,b,t6,t6_1,t6_2)) s.1 s.2.1 s.2.2.1 s.2.2.2.1 s.2.2.2.2.1 s.2.2.2.2.2.1 s.2.2.2.2.2.2.1 s.2.2.2.2.2.2.2.1 s.2.2.2.2.2.2.2.2
theorem Zy4:∀n s,Zxc (n+1) s=ZuS (Zxc n) s:=fun _ _=>rfl
def ZrO (align:ZoI) (t31:Bool) (a:ZoG) (b:ZoG) (t6:Int) (t6_1:Str) (t6_2:ZqA):ZGg:=
 bif t31 then (
  some ((ZoG.mk 0 ([]:Str) ([]:ZqA)),1)
 )else (
  (ZrM big align align (align.length:Int) (0:Int) a b t6 t6_1 t6_2).bind fun
   | .ret q_=>some q_
   | .brk (x0,x1,x2,x3,x4,x5)=>ZvC x0 x1 x2 x3 x4 x5
 )
def Zr0 (a:ZoG) (b:ZoG) (align:ZoI):ZGg:=
 (Zsn a).bind fun q=>
 bif (!q)then (
  ZrO align true a b (0:Int) ([]:Str) ([]:ZqA)
 )else (
  (Zsn b).bind fun q_1=>
  bif (!q_1)then (
   ZrO align true a b (0:Int) ([]:Str) ([]:ZqA)
  )else (
   ZrO align ((align.length:Int) != (a.Columns.length:Int)) a b (0:Int) ([]:Str) ([]:ZqA)
  )
 )
def Zu4:Option Bool:=
 some true
def ZxM (rec_:ZoI→ZoI→Int→Int→Zv2) (b:ZoI) (t12:ZoI) (t13:Int) (i:Int):Zv2:=
 bif (decide (i < t13))then (
  (idx t12 i).bind fun n=>
  (idx b i).bind fun b_e=>
  bif (b_e != n)then (
   some (.ret false)
  )else (
   chk (inK .i64 (i+1)) <|
   rec_ b t12 t13 (i+1)
  )
 )else (
  some (.brk ())
 )
def Zss:Nat→ZoI→ZoI→Int→Int→Zv2
 |0,_,_,_,_=>none
 |n_+1,b,t12,t13,i=>ZxM (Zss n_) b t12 t13 i
def Ztm (a:ZoI) (b:ZoI):Option Bool:=
 bif ((a.length:Int) != (b.length:Int))then (
  some false
 )else (
  (Zss big b a (a.length:Int) (0:Int)).bind fun
   | .ret q_=>some q_
   | .brk ()=>Zu4
 )
def ZwM (w_:ZoI):Option ZoI:=
 some w_
def ZtW (rec_:ZGh) (w_:ZoI) (t14:Bool):Option ZoI:=
 bif t14 then (
  chk (inK .i64 ((w_.length:Int) - 1)) <|
  chk (Zcp 0 ((w_.length:Int) - 1) (w_.length:Int)) <|
  rec_ (w_.take (((w_.length:Int) - 1)).toNat)
 )else (
  some w_
 )
def ZvR (rec_:ZGh) (w_:ZoI):Option ZoI:=
 bif (decide ((w_.length:Int) > 0))then (
  chk (inK .i64 ((w_.length:Int) - 1)) <|
  (idx w_ ((w_.length:Int) - 1)).bind fun w__e=>
  ZtW rec_ w_ (w__e == 0)
 )else (
  ZtW rec_ w_ false
 )
def Zpt:Nat→ZoI→Option ZoI
 |0,_=>none
 |n_+1,w_=>ZvR (Zpt n_) w_
def Zpe (w_:ZoI):Option ZoI:=
 (Zpt big w_).bind fun x0=>ZwM x0
def Zsi (t4:ZoM):Option ZoM:=
 some t4
def Zo9 (neg:Bool) (w_:ZoI):Option ZoM:=
 (Zpe w_).bind fun w__1=>
 bif neg then (
  Zsi (ZoM.mk (decide ((w__1.length:Int) > 0)) w__1)
 )else (
  Zsi (ZoM.mk false w__1)
 )
def ZqW (n:Int) (u:Int) (t2:Bool) (t2_1:ZoI):Option ZoM:=
 chk (decide (0≤(32:Int))) <|
 (Zo9 (decide (n < 0)) ([(IntKind.wrap .u32 u),(IntKind.wrap .u32 (shrK .u64 u 32))]:ZoI)).bind fun q=>
 some q
def ZpR (n:Int):Option ZoM:=
 bif (decide (n < 0))then (
  ZqW n (IntKind.wrap .u64 (0 - (IntKind.wrap .u64 n))) false ([]:ZoI)
 )else (
  ZqW n (IntKind.wrap .u64 n) false ([]:ZoI)
 )
def Zpf (t2:Bool):Option Bool:=
 some t2
def ZpI (a:ZoM):Option Bool:=
 bif (decide ((a.Words.length:Int)≤256))then (
  bif ((a.Words.length:Int) == 0)then (
   bif (!a.Neg)then (
    Zpf true
   )else (
    bif (decide ((a.Words.length:Int) > 0))then (
     chk (inK .i64 ((a.Words.length:Int) - 1)) <|
     (idx a.Words ((a.Words.length:Int) - 1)).bind fun Word=>
     Zpf (Word != 0)
    )else (
     Zpf false
    )
   )
  )else (
   bif (decide ((a.Words.length:Int) > 0))then (
    chk (inK .i64 ((a.Words.length:Int) - 1)) <|
    (idx a.Words ((a.Words.length:Int) - 1)).bind fun Word_1=>
    Zpf (Word_1 != 0)
   )else (
    Zpf false
   )
  )
 )else (
  Zpf false
 )
def ZtX (out:ZoI):Option ZoI:=
 (Zpe out).bind fun q=>
 some q
def Zqy (rec_:ZLe) (a:ZoI) (t9:Int) (i:Int) (out:ZoI):Option ZoI:=
 chk (inK .i64 (i+1)) <|
 rec_ a t9 (i+1) out
def Zq8 (rec_:ZLe) (a:ZoI) (t9:Int) (i:Int) (out:ZoI):Option ZoI:=
 bif (decide (i < t9))then (
  chk (inR i (out.length:Int)) <|
  (out[(i).toNat]?).bind fun out_e=>
  chk (decide (0≤(1:Int))) <|
  chk (inR i (out.length:Int)) <|
  chk (inK .i64 (i+1)) <|
  bif (decide ((i+1) < (a.length:Int)))then (
   chk (inR i ((out.set ((i).toNat) (shrK .u32 out_e 1)).length:Int)) <|
   ((out.set ((i).toNat) (shrK .u32 out_e 1))[(i).toNat]?).bind fun e_e=>
   chk (inK .i64 (i+1)) <|
   (idx a (i+1)).bind fun a_e=>
   chk (decide (0≤(31:Int))) <|
   chk (inR i ((out.set ((i).toNat) (shrK .u32 out_e 1)).length:Int)) <|
   Zqy rec_ a t9 i ((out.set ((i).toNat) (shrK .u32 out_e 1)).set ((i).toNat) (orK .u32 e_e (shlK .u32 a_e 31)))
  )else (
   Zqy rec_ a t9 i (out.set ((i).toNat) (shrK .u32 out_e 1))
  )
 )else (
  some out
 )
def Zqx:Nat→ZoI→Int→Int→ZoI→Option ZoI
 |0,_,_,_,_=>none
 |n_+1,a,t9,i,out=>Zq8 (Zqx n_) a t9 i out
def ZvS (n:Nat) (s:(ZoI×Int×Int×ZoI)):Option ZoI:=Zqx n s.1 s.2.1 s.2.2.1 s.2.2.2
def Zs4 (rec_:(ZoI×Int×Int×ZoI)→Option ZoI) (s:(ZoI×Int×Int×ZoI)):Option ZoI:=Zq8 (fun a t9 i out=>rec_ (a,t9,i,out)) s.1 s.2.1 s.2.2.1 s.2.2.2
theorem Zyc:∀n s,ZvS (n+1) s=Zs4 (ZvS n) s:=fun _ _=>rfl
def ZpS (a:ZoI):Option ZoI:=
 chk (ZjC (([]:ZoI).length+a.length) 4) <|
 (Zqx big a ((([]:ZoI)++a).length:Int) (0:Int) (([]:ZoI)++a)).bind fun x0=>ZtX x0
def Zuw:Option Int:=
 some (0:Int)
def Zrj (rec_:ZoI→ZoI→Int→ZxP) (a:ZoI) (b:ZoI) (i:Int):ZxP:=
 bif (decide (i≥0))then (
  (idx a i).bind fun a_e=>
  (idx b i).bind fun b_e=>
  bif (decide (a_e < b_e))then (
   some (.ret (-1:Int))
  )else (
   (idx a i).bind fun a_e_1=>
   (idx b i).bind fun b_e_1=>
   bif (decide (a_e_1 > b_e_1))then (
    some (.ret (1:Int))
   )else (
    chk (inK .i64 (i - 1)) <|
    rec_ a b (i - 1)
   )
  )
 )else (
  some (.brk ())
 )
def Zsh:Nat→ZoI→ZoI→Int→ZxP
 |0,_,_,_=>none
 |n_+1,a,b,i=>Zrj (Zsh n_) a b i
def Zv9 (n:Nat) (s:(ZoI×ZoI×Int)):ZxP:=Zsh n s.1 s.2.1 s.2.2
def Ztu (rec_:(ZoI×ZoI×Int)→ZxP) (s:(ZoI×ZoI×Int)):ZxP:=Zrj (fun a b i=>rec_ (a,b,i)) s.1 s.2.1 s.2.2
theorem Zys:∀n s,Zv9 (n+1) s=Ztu (Zv9 n) s:=fun _ _=>rfl
def Zpq (a:ZoI) (b:ZoI):Option Int:=
 bif ((a.length:Int) != (b.length:Int))then (
  bif (decide ((a.length:Int) < (b.length:Int)))then (
   some (-1:Int)
  )else (
   some (1:Int)
  )
 )else (
  chk (inK .i64 ((a.length:Int) - 1)) <|
  (Zsh big a b ((a.length:Int) - 1)).bind fun
   | .ret q_=>some q_
   | .brk ()=>Zuw
 )
def Zun (out:ZoI):Option ZoI:=
 (Zpe out).bind fun q=>
 some q
def ZqH (rec_:ZHd) (a:ZoI) (b:ZoI) (c:Int) (i:Int) (out:ZoI):Option ZoI:=
 chk (ZjC (out.length+([(IntKind.wrap .u32 c)]:ZoI).length) 4) <|
 chk (decide (0≤(32:Int))) <|
 chk (inK .i64 (i+1)) <|
 rec_ a b (shrK .i64 c 32) (i+1) (out++([(IntKind.wrap .u32 c)]:ZoI))
def Zrf (rec_:ZHd) (a:ZoI) (b:ZoI) (c:Int) (i:Int) (out:ZoI):Option ZoI:=
 bif (decide (i < (a.length:Int)))then (
  (idx a i).bind fun a_e=>
  chk (inK .i64 (c+(IntKind.wrap .i64 a_e))) <|
  bif (decide (i < (b.length:Int)))then (
   (idx b i).bind fun b_e=>
   chk (inK .i64 ((c+(IntKind.wrap .i64 a_e)) - (IntKind.wrap .i64 b_e))) <|
   ZqH rec_ a b ((c+(IntKind.wrap .i64 a_e)) - (IntKind.wrap .i64 b_e)) i out
  )else (
   ZqH rec_ a b (c+(IntKind.wrap .i64 a_e)) i out
  )
 )else (
  some out
 )
def ZqG:Nat→ZoI→ZoI→Int→Int→ZoI→Option ZoI
 |0,_,_,_,_,_=>none
 |n_+1,a,b,c,i,out=>Zrf (ZqG n_) a b c i out
def Zv5 (n:Nat) (s:(ZoI×ZoI×Int×Int×ZoI)):Option ZoI:=ZqG n s.1 s.2.1 s.2.2.1 s.2.2.2.1 s.2.2.2.2
def Zto (rec_:ZLj) (s:(ZoI×ZoI×Int×Int×ZoI)):Option ZoI:=Zrf (fun a b c i out=>rec_ (a,b,c,i,out)) s.1 s.2.1 s.2.2.1 s.2.2.2.1 s.2.2.2.2
theorem Zyo:∀n s,Zv5 (n+1) s=Zto (Zv5 n) s:=fun _ _=>rfl
def Zp4 (a:ZoI) (b:ZoI):Option ZoI:=
 (ZqG big a b (0:Int) (0:Int) ([]:ZoI)).bind fun x0=>Zun x0
def Ztn (d:Int) (out:ZoI):Option ZoI:=
 chk (ZjC (out.length+([d]:ZoI).length) 4) <|
 (Zpe (out++([d]:ZoI))).bind fun q=>
 some q
def ZqV (rec_:ZoI→Int→Int→ZoI→ZwJ) (a:ZoI) (d:Int) (i:Int) (out:ZoI):ZwJ:=
 bif (decide (i < (a.length:Int)))then (
  (idx a i).bind fun a_e=>
  chk (decide (0≤(1:Int))) <|
  chk (ZjC (out.length+([(orK .u32 (shlK .u32 a_e 1) d)]:ZoI).length) 4) <|
  (idx a i).bind fun a_e_1=>
  chk (decide (0≤(31:Int))) <|
  chk (inK .i64 (i+1)) <|
  rec_ a (shrK .u32 a_e_1 31) (i+1) (out++([(orK .u32 (shlK .u32 a_e 1) d)]:ZoI))
 )else (
  some (d,out)
 )
def Zre:Nat→ZoI→Int→Int→ZoI→ZwJ
 |0,_,_,_,_=>none
 |n_+1,a,d,i,out=>ZqV (Zre n_) a d i out
def Zvo (n:Nat) (s:(ZoI×Int×Int×ZoI)):ZwJ:=Zre n s.1 s.2.1 s.2.2.1 s.2.2.2
def ZsO (rec_:(ZoI×Int×Int×ZoI)→ZwJ) (s:(ZoI×Int×Int×ZoI)):ZwJ:=ZqV (fun a d i out=>rec_ (a,d,i,out)) s.1 s.2.1 s.2.2.1 s.2.2.2
theorem Zx1:∀n s,Zvo (n+1) s=ZsO (Zvo n) s:=fun _ _=>rfl
def Zq2 (a:ZoI) (d:Int):Option ZoI:=
 (Zre big a d (0:Int) ([]:ZoI)).bind fun(x0,x1)=>Ztn x0 x1
def Zuq (a:ZoI):Option ZoI:=
 some a
def Zqf (rec_:ZoI→Int→Option ZoI) (a:ZoI) (k:Int):Option ZoI:=
 bif (decide (k > 0))then (
  (Zq2 a 0).bind fun a_1=>
  chk (inK .i64 (k - 1)) <|
  rec_ a_1 (k - 1)
 )else (
  some a
 )
def Zp0:Nat→ZoI→Int→Option ZoI
 |0,_,_=>none
 |n_+1,a,k=>Zqf (Zp0 n_) a k
def Zur (a:ZoI) (k:Int):Option ZoI:=
 (Zp0 big a k).bind fun x0=>Zuq x0
def Zsf (rec_:ZHb) (a:ZoI) (b:ZoI) (k:Int):ZDu:=
 (Zp4 b a).bind fun b_1=>
 rec_ a b_1 k
def Zus (rec_:ZHb) (a:ZoI) (b:ZoI) (k:Int):ZDu:=
 (Zpq a b).bind fun q=>
 bif (decide (q > 0))then (
  Zsf rec_ b a k
 )else (
  Zsf rec_ a b k
 )
def Ztr (rec_:ZHa) (a:ZoI) (b:ZoI) (k:Int):ZDv:=
 (idx b 0).bind fun b_e=>
 bif ((andK .u32 b_e 1) == 0)then (
  (ZpS b).bind fun b_1=>
  rec_ a b_1 k
 )else (
  some (a,b,k)
 )
def Zpm:Nat→ZoI→ZoI→Int→ZDv
 |0,_,_,_=>none
 |n_+1,a,b,k=>Ztr (Zpm n_) a b k
def Zut (rec_:ZHb) (a:ZoI) (b:ZoI) (k:Int):ZDu:=
 (Zpm big a b k).bind fun(x0,x1,x2)=>Zus rec_ x0 x1 x2
def Zqg (rec_:ZHa) (a:ZoI) (b:ZoI) (k:Int):ZDv:=
 (idx a 0).bind fun a_e=>
 bif ((andK .u32 a_e 1) == 0)then (
  (ZpS a).bind fun a_1=>
  rec_ a_1 b k
 )else (
  some (a,b,k)
 )
def Zpn:Nat→ZoI→ZoI→Int→ZDv
 |0,_,_,_=>none
 |n_+1,a,b,k=>Zqg (Zpn n_) a b k
def Zqh (rec_:ZHb) (a:ZoI) (b:ZoI) (k:Int):ZDu:=
 bif (decide ((b.length:Int) > 0))then (
  (Zpn big a b k).bind fun(x0,x1,x2)=>Zut rec_ x0 x1 x2
 )else (
  some (a,k)
 )
def Zo3:Nat→ZoI→ZoI→Int→ZDu
 |0,_,_,_=>none
 |n_+1,a,b,k=>Zqh (Zo3 n_) a b k
def Zuu (a:ZoI) (b:ZoI) (k:Int):Option ZoI:=
 (Zo3 big a b k).bind fun(x0,x1)=>Zur x0 x1
def Zsg (rec_:ZHa) (a:ZoI) (b:ZoI) (k:Int) (t17:Bool):ZDv:=
 bif t17 then (
  (ZpS a).bind fun a_1=>
  (ZpS b).bind fun b_1=>
  chk (inK .i64 (k+1)) <|
  rec_ a_1 b_1 (k+1)
 )else (
  some (a,b,k)
 )
def Zts (rec_:ZHa) (a:ZoI) (b:ZoI) (k:Int):ZDv:=
 (idx a 0).bind fun a_e=>
 bif ((andK .u32 a_e 1) == 0)then (
  (idx b 0).bind fun b_e=>
  Zsg rec_ a b k ((andK .u32 b_e 1) == 0)
 )else (
  Zsg rec_ a b k false
 )
def Zp1:Nat→ZoI→ZoI→Int→ZDv
 |0,_,_,_=>none
 |n_+1,a,b,k=>Zts (Zp1 n_) a b k
def ZrQ (a:ZoI) (b:ZoI):Option ZoI:=
 (Zp1 big a b (0:Int)).bind fun(x0,x1,x2)=>Zuu x0 x1 x2
def ZtP (a:ZoI) (i:Int):Option Int:=
 chk (decide ((32:Int)≠0)) <|
 chk (inK .i64 (Int.tdiv i 32)) <|
 (idx a (Int.tdiv i 32)).bind fun a_e=>
 chk (decide ((32:Int)≠0)) <|
 chk (decide (0≤(IntKind.wrap .u64 (Int.tmod i 32)))) <|
 some (andK .u32 (shrK .u32 a_e (IntKind.wrap .u64 (Int.tmod i 32))) 1)
def Zuv (r_:ZoI) (q:ZoI):ZBi:=
 (Zpe q).bind fun q_1=>
 some (q_1,r_)
def ZqK (rec_:ZLg) (a:ZoI) (b:ZoI) (r_:ZoI) (i:Int) (q:ZoI):ZBi:=
 chk (inK .i64 (i - 1)) <|
 rec_ a b r_ (i - 1) q
def Zri (rec_:ZLg) (a:ZoI) (b:ZoI) (r_:ZoI) (i:Int) (q:ZoI):ZBi:=
 bif (decide (i≥0))then (
  (ZtP a i).bind fun q_1=>
  (Zq2 r_ q_1).bind fun r__1=>
  (Zpq r__1 b).bind fun q_2=>
  bif (decide (q_2≥0))then (
   (Zp4 r__1 b).bind fun r__2=>
   chk (decide ((32:Int)≠0)) <|
   chk (inK .i64 (Int.tdiv i 32)) <|
   chk (inR (Int.tdiv i 32) (q.length:Int)) <|
   (q[((Int.tdiv i 32)).toNat]?).bind fun q_e=>
   chk (decide ((32:Int)≠0)) <|
   chk (decide (0≤(IntKind.wrap .u64 (Int.tmod i 32)))) <|
   chk (inR (Int.tdiv i 32) (q.length:Int)) <|
   ZqK rec_ a b r__2 i (q.set (((Int.tdiv i 32)).toNat) (orK .u32 q_e (shlK .u32 1 (IntKind.wrap .u64 (Int.tmod i 32)))))
  )else (
   ZqK rec_ a b r__1 i q
  )
 )else (
  some (r_,q)
 )
def ZqJ:Nat→ZoI→ZoI→ZoI→Int→ZoI→ZBi
 |0,_,_,_,_,_=>none
 |n_+1,a,b,r_,i,q=>Zri (ZqJ n_) a b r_ i q
def Zv8 (n:Nat) (s:(ZoI×ZoI×ZoI×Int×ZoI)):ZBi:=ZqJ n s.1 s.2.1 s.2.2.1 s.2.2.2.1 s.2.2.2.2
def Ztt (rec_:(ZoI×ZoI×ZoI×Int×ZoI)→ZBi) (s:(ZoI×ZoI×ZoI×Int×ZoI)):ZBi:=Zri (fun a b r_ i q=>rec_ (a,b,r_,i,q)) s.1 s.2.1 s.2.2.1 s.2.2.2.1 s.2.2.2.2
theorem Zyr:∀n s,Zv8 (n+1) s=Ztt (Zv8 n) s:=fun _ _=>rfl
def ZrR (a:ZoI) (b:ZoI):ZBi:=
 chk (mkOk (a.length:Int) (a.length:Int) 4) <|
 chk (inK .i64 (32*(a.length:Int))) <|
 chk (inK .i64 ((32*(a.length:Int)) - 1)) <|
 (ZqJ big a b ([]:ZoI) ((32*(a.length:Int)) - 1) (List.replicate ((a.length:Int)).toNat (0:Int))).bind fun(x0,x1)=>Zuv x0 x1
def Zse (num:ZoM) (den:ZoM):Option ZoF:=
 bif ((num.Words.length:Int) == 0)then (
  (ZpR 1).bind fun q=>
  some (ZoF.mk (ZoM.mk false ([]:ZoI)) q)
 )else (
  (ZrQ num.Words den.Words).bind fun g=>
  (ZrR num.Words g).bind fun(x_,q_1)=>
  (ZrR den.Words g).bind fun(y,q_2)=>
  (Zo9 (!(num.Neg == den.Neg)) x_).bind fun q_3=>
  (Zo9 false y).bind fun q_4=>
  some (ZoF.mk q_3 q_4)
 )
def ZrF (t13:Bool) (num:ZoM) (den:ZoM) (t4:Bool) (t4_1:Bool) (t4_2:ZoI) (t4_3:ZoI):ZBj:=
 bif t13 then (
  some ((ZoF.mk (ZoM.mk false ([]:ZoI)) (ZoM.mk false ([]:ZoI))),1)
 )else (
  bif ((den.Words.length:Int) == 0)then (
   some ((ZoF.mk (ZoM.mk false ([]:ZoI)) (ZoM.mk false ([]:ZoI))),8)
  )else (
   (Zse num den).bind fun q=>
   some (q,0)
  )
 )
def Zs6 (num:ZoM) (den:ZoM):ZBj:=
 (ZpI num).bind fun q=>
 bif (!q)then (
  ZrF true num den false false ([]:ZoI) ([]:ZoI)
 )else (
  (ZpI den).bind fun q_1=>
  ZrF (!q_1) num den false false ([]:ZoI) ([]:ZoI)
 )
def Zt5 (num:Int) (den:Int):ZBj:=
 (ZpR num).bind fun q=>
 (ZpR den).bind fun q_1=>
 (Zs6 q q_1).bind fun(q_2,q_3)=>
 some (q_2,q_3)
def Zu6 (n:Int) (d:Int):Option ZoF:=
 (Zt5 n d).bind fun(f,q)=>
 some f
def Zsc (n:Int) (d:Int):Option ZoF:=ZB1 (Zu6 n d)
def ZvF (n:Int):Option ZoF:=
 (Zsc n 1).bind fun q=>
 some q
def ZpG (n:Int):Option ZoF:=ZB1 (ZvF n)
def ZsN:Option Bool:=
 some true
def Zqr (rec_:ZoI→Int→Int→ZoM→Zv2) (t22:ZoI) (t23:Int) (i:Int) (b:ZoM):Zv2:=
 bif (decide (i < t23))then (
  (idx t22 i).bind fun w_=>
  (idx b.Words i).bind fun Word=>
  bif (Word != w_)then (
   some (.ret false)
  )else (
   chk (inK .i64 (i+1)) <|
   rec_ t22 t23 (i+1) b
  )
 )else (
  some (.brk ())
 )
def ZqT:Nat→ZoI→Int→Int→ZoM→Zv2
 |0,_,_,_,_=>none
 |n_+1,t22,t23,i,b=>Zqr (ZqT n_) t22 t23 i b
def ZuV (n:Nat) (s:(ZoI×Int×Int×ZoM)):Zv2:=ZqT n s.1 s.2.1 s.2.2.1 s.2.2.2
def Zr3 (rec_:(ZoI×Int×Int×ZoM)→Zv2) (s:(ZoI×Int×Int×ZoM)):Zv2:=Zqr (fun t22 t23 i b=>rec_ (t22,t23,i,b)) s.1 s.2.1 s.2.2.1 s.2.2.2
theorem ZxN:∀n s,ZuV (n+1) s=Zr3 (ZuV n) s:=fun _ _=>rfl
def ZqU (t20:Bool) (a:ZoM) (b:ZoM):Option Bool:=
 bif t20 then (
  some false
 )else (
  (ZqT big a.Words (a.Words.length:Int) (0:Int) b).bind fun
   | .ret q_=>some q_
   | .brk ()=>ZsN
 )
def Zqw (a:ZoM) (b:ZoM):Option Bool:=
 bif (!(a.Neg == b.Neg))then (
  ZqU true a b
 )else (
  ZqU ((a.Words.length:Int) != (b.Words.length:Int)) a b
 )
def ZrE (t4:Bool):Option Bool:=
 some t4
def Zs2 (a:ZoF) (b:ZoF):Option Bool:=
 (Zqw a.Num b.Num).bind fun q=>
 bif q then (
  (Zqw a.Den b.Den).bind fun q_1=>
  ZrE q_1
 )else (
  ZrE false
 )
def Zqs (t:ZoG):Option Int:=
 bif ((t.Columns.length:Int) == 0)then (
  some (0:Int)
 )else (
  (idx t.Columns 0).bind fun Column=>
  some (Column.Cells.length:Int)
 )
def Zpp (t0:Bool):Option Bool:=
 some t0
def Zq4:Option Bool:=
 chk (inR 1 (([(ZoL.mk ([99,105,116,121]:Str) ([(ZoP.mk false ([120]:Str))]:Zv1)),(ZoL.mk ([110,97,109,101]:Str) ([(ZoP.mk false ([121]:Str))]:Zv1))]:ZqA).length:Int)) <|
 (([(ZoL.mk ([99,105,116,121]:Str) ([(ZoP.mk false ([120]:Str))]:Zv1)),(ZoL.mk ([110,97,109,101]:Str) ([(ZoP.mk false ([121]:Str))]:Zv1))]:ZqA)[((1:Int)).toNat]?).bind fun G_api_Column_e=>
 chk (inR 0 (([(ZoL.mk ([99,105,116,121]:Str) ([(ZoP.mk false ([120]:Str))]:Zv1)),(ZoL.mk ([110,97,109,101]:Str) ([(ZoP.mk false ([121]:Str))]:Zv1))]:ZqA).length:Int)) <|
 (([(ZoL.mk ([99,105,116,121]:Str) ([(ZoP.mk false ([120]:Str))]:Zv1)),(ZoL.mk ([110,97,109,101]:Str) ([(ZoP.mk false ([121]:Str))]:Zv1))]:ZqA)[((0:Int)).toNat]?).bind fun G_api_Column_e_1=>
 (Zq1 (ZoG.mk 1 ([]:Str) ([(ZoL.mk ([99,105,116,121]:Str) ([(ZoP.mk false ([120]:Str))]:Zv1)),(ZoL.mk ([110,97,109,101]:Str) ([(ZoP.mk false ([121]:Str))]:Zv1))]:ZqA)) (ZoG.mk 2 ([]:Str) ([G_api_Column_e,G_api_Column_e_1]:ZqA))).bind fun(l,s,e)=>
 (Zr0 (ZoG.mk 1 ([]:Str) ([(ZoL.mk ([99,105,116,121]:Str) ([(ZoP.mk false ([120]:Str))]:Zv1)),(ZoL.mk ([110,97,109,101]:Str) ([(ZoP.mk false ([121]:Str))]:Zv1))]:ZqA)) (ZoG.mk 2 ([]:Str) ([G_api_Column_e,G_api_Column_e_1]:ZqA)) ([1,0]:ZoI)).bind fun(t,f)=>
 bif (e == 0)then (
  bif (f == 0)then (
   (Ztm l ([1,0]:ZoI)).bind fun q=>
   bif q then (
    (ZpG 1).bind fun q_1=>
    (Zs2 s q_1).bind fun q_2=>
    bif q_2 then (
     (Zqs t).bind fun q_3=>
     Zpp (q_3 == 2)
    )else (
     Zpp false
    )
   )else (
    Zpp false
   )
  )else (
   Zpp false
  )
 )else (
  Zpp false
 )
def Zwd (t:ZoI):Option ZoJ:=
 some (ZoJ.mk t 0)
def ZuI (n:Int) (m:Int):Option Int:=
 bif (decide (m < 1))then (
  some (0:Int)
 )else (
  chk (decide (m≠0)) <|
  chk (inK .i64 ((Int.tmod n m)+m)) <|
  chk (decide (m≠0)) <|
  some (Int.tmod ((Int.tmod n m)+m) m)
 )
def ZoX (d:ZoJ) (n:Int):Option (Int×ZoJ):=
 bif (decide (d.at_≥(d.l.length:Int)))then (
  some (0,d)
 )else (
  chk (inK .i64 (d.at_+1)) <|
  chk (inK .i64 ((d.at_+1) - 1)) <|
  (idx d.l ((d.at_+1) - 1)).bind fun l_e=>
  (ZuI l_e n).bind fun q=>
  some (q,(ZoJ.mk d.l (d.at_+1)))
 )
def Zpc (d:ZoJ) (l:Zzc):Option (Str×ZoJ):=
 (ZoX d (l.length:Int)).bind fun(q,t6)=>
 (idx l q).bind fun l_e=>
 some (l_e,t6)
def Zst (d:ZoJ):ZLb:=
 (ZoX d 7).bind fun(q,t3)=>
 bif (q == 1)then (
  some ((ZoP.mk true ([]:Str)),t3)
 )else (
  (Zpc t3 ([([97]:Str),([98]:Str),([99]:Str),([49]:Str),([50]:Str),([51]:Str),([49,48]:Str),([120]:Str),([45,49,46,53]:Str),([50]:Str)]:Zzc)).bind fun(q_1,t7)=>
  some ((ZoP.mk false q_1),t7)
 )
def Zvu (n:Int):Option Str:=
 some (Lib.itoa n)
def Zrl (d:ZoJ):ZLb:=
 (ZoX d 9).bind fun(q,t3)=>
 bif (q == 1)then (
  some ((ZoP.mk true ([]:Str)),t3)
 )else (
  bif (q == 2)then (
   (Zpc t3 ([([120]:Str),([]:Str),([49,46,50,46,51]:Str),([49,46,53,48]:Str)]:Zzc)).bind fun(q_1,t10)=>
   some ((ZoP.mk false q_1),t10)
  )else (
   (ZoX t3 12).bind fun(q_2,t14)=>
   chk (inK .i64 (q_2 - 3)) <|
   (Zvu (q_2 - 3)).bind fun q_3=>
   some ((ZoP.mk false q_3),t14)
  )
 )
def ZtY (d:ZoJ) (t4:Str) (c:Str) (t4_1:Zv1) (c_1:Zv1):ZLc:=
 some ((ZoL.mk c c_1),d)
def Zpu (rec_:Tf_8) (kind:Int) (t15:Int) (i:Int) (d:ZoJ) (t4:Str) (c:Str) (x_:ZoP) (t4_1:Zv1) (c_1:Zv1):ZDY:=
 chk (ZjC (c_1.length+([x_]:Zv1).length) 24) <|
 chk (inK .i64 (i+1)) <|
 rec_ kind t15 (i+1) d t4 c t4_1 (c_1++([x_]:Zv1))
def Zq9 (rec_:Tf_8) (kind:Int) (t15:Int) (i:Int) (d:ZoJ) (t4:Str) (c:Str) (t4_1:Zv1) (c_1:Zv1):ZDY:=
 bif (decide (i < t15))then (
  (Zst d).bind fun(x_,t19)=>
  bif (kind == 0)then (
   (Zrl t19).bind fun(x__1,t24)=>
   Zpu rec_ kind t15 i t24 t4 c x__1 t4_1 c_1
  )else (
   bif (kind == 1)then (
    (Zvu i).bind fun q=>
    chk (decide (([107]:Str).length+q.length≤Zr)) <|
    Zpu rec_ kind t15 i t19 t4 c (ZoP.mk false (([107]:Str)++q)) t4_1 c_1
   )else (
    bif (kind == 2)then (
     (Zpc t19 ([([97]:Str),([98]:Str),([99]:Str),([100]:Str)]:Zzc)).bind fun(q_1,t34)=>
     Zpu rec_ kind t15 i t34 t4 c (ZoP.mk false q_1) t4_1 c_1
    )else (
     Zpu rec_ kind t15 i t19 t4 c x_ t4_1 c_1
    )
   )
  )
 )else (
  some (d,t4,c,t4_1,c_1)
 )
def Zqz:Nat→Int→Int→Int→ZoJ→Str→Str→Zv1→Zv1→ZDY
 |0,_,_,_,_,_,_,_,_=>none
 |n_+1,kind,t15,i,d,t4,c,t4_1,c_1=>Zq9 (Zqz n_) kind t15 i d t4 c t4_1 c_1
def ZvT (n:Nat) (s:(Int×Int×Int×ZoJ×Str×Str×Zv1×Zv1)):ZDY:=Zqz n s.1 s.2.1 s.2.2.1 s.2.2.2.1 s.2.2.2.2.1 s.2.2.2.2.2.1 s.2.2.2.2.2.2.1 s.2.2.2.2.2.2.2
def Zs7 (rec_:(Int×Int×Int×ZoJ×Str×Str×Zv1×Zv1)→ZDY) (s:(Int×Int×Int×ZoJ×Str×Str×Zv1×Zv1)):ZDY:=Zq9 (fun kind t15 i d t4 c t4_1 c_1=>rec_ (kind,t15,i,d,t4,c,t4_1,c_1)) s.1 s.2.1 s.2.2.1 s.2.2.2.1 s.2.2.2.2.1 s.2.2.2.2.2.1 s.2.2.2.2.2.2.1 s.2.2.2.2.2.2.2
theorem Zyd:∀n s,ZvT (n+1) s=Zs7 (ZvT n) s:=fun _ _=>rfl
def Zrm (d:ZoJ) (rows:Int):ZLc:=
 (Zpc d ([([105,100]:Str),([110,97,109,101]:Str),([85,110,105,116,32,80,114,105,99,101]:Str),([99,105,116,121]:Str),([117,110,105,116]:Str),([112,114,105,99,101]:Str),([105,100,50]:Str),([]:Str)]:Zzc)).bind fun(q,t9)=>
 (ZoX t9 5).bind fun(kind,t13)=>
 (Zqz big kind rows (0:Int) t13 ([]:Str) q ([]:Zv1) ([]:Zv1)).bind fun(x0,x1,x2,x3,x4)=>ZtY x0 x1 x2 x3 x4
def Zsl (d:ZoJ) (t4:Int) (t4_1:Str) (t:Int) (t_1:Str) (t4_2:ZqA) (t_2:ZqA):ZJf:=
 some ((ZoG.mk t t_1 t_2),d)
def Zuy (d:ZoJ) (t4:Int) (t4_1:Str) (t:Int) (t_1:Str) (t4_2:ZqA) (t_2:ZqA):ZJf:=
 (ZoX d 15).bind fun(q,t30)=>
 bif (q == 1)then (
  Zsl t30 t4 t4_1 t t_1 t4_2 ([]:ZqA)
 )else (
  Zsl t30 t4 t4_1 t t_1 t4_2 t_2
 )
def Ztw (rec_:Int→Int→ZoJ→Int→Str→Int→Str→ZqA→ZqA→ZJZ) (rows:Int) (k:Int) (d:ZoJ) (t4:Int) (t4_1:Str) (t:Int) (t_1:Str) (t4_2:ZqA) (t_2:ZqA):ZJZ:=
 bif (decide (k > 0))then (
  (Zrm d rows).bind fun(q,t24)=>
  chk (ZjC (t_2.length+([q]:ZqA).length) 40) <|
  chk (inK .i64 (k - 1)) <|
  rec_ rows (k - 1) t24 t4 t4_1 t t_1 t4_2 (t_2++([q]:ZqA))
 )else (
  some (d,t4,t4_1,t,t_1,t4_2,t_2)
 )
def Zsk:Nat→Int→Int→ZoJ→Int→Str→Int→Str→ZqA→ZqA→ZJZ
 |0,_,_,_,_,_,_,_,_,_=>none
 |n_+1,rows,k,d,t4,t4_1,t,t_1,t4_2,t_2=>Ztw (Zsk n_) rows k d t4 t4_1 t t_1 t4_2 t_2
def Zwb (n:Nat) (s:(Int×Int×ZoJ×Int×Str×Int×Str×ZqA×ZqA)):ZJZ:=Zsk n s.1 s.2.1 s.2.2.1 s.2.2.2.1 s.2.2.2.2.1 s.2.2.2.2.2.1 s.2.2.2.2.2.2.1 s.2.2.2.2.2.2.2.1 s.2.2.2.2.2.2.2.2
def Zwc (rec_:(Int×Int×ZoJ×Int×Str×Int×Str×ZqA×ZqA)→ZJZ) (s:(Int×Int×ZoJ×Int×Str×Int×Str×ZqA×ZqA)):ZJZ:=Ztw (fun rows k d t4 t4_1 t t_1 t4_2 t_2=>rec_ (rows,k,d,t4,t4_1,t,t_1,t4_2,t_2)) s.1 s.2.1 s.2.2.1 s.2.2.2.1 s.2.2.2.2.1 s.2.2.2.2.2.1 s.2.2.2.2.2.2.1 s.2.2.2.2.2.2.2.1 s.2.2.2.2.2.2.2.2
theorem Zyu:∀n s,Zwb (n+1) s=Zwc (Zwb n) s:=fun _ _=>rfl
def ZqE (d:ZoJ) (id:Int):ZJf:=
 (Zpc d ([([116]:Str),([111,114,100,101,114,115]:Str),([]:Str)]:Zzc)).bind fun(q,t9)=>
 (ZoX t9 7).bind fun(rows,t13)=>
 (ZoX t13 3).bind fun(q_1,t15)=>
 chk (inK .i64 (1+q_1)) <|
 (Zsk big rows (1+q_1) t15 (0:Int) ([]:Str) id q ([]:ZqA) ([]:ZqA)).bind fun(x0,x1,x2,x3,x4,x5,x6)=>Zuy x0 x1 x2 x3 x4 x5 x6
def Zs1:Option ZoF:=
 (ZpG 0).bind fun q=>
 some q
def ZpH (t24:Bool) (f:ZoF):Option Bool:=
 bif t24 then (
  some false
 )else (
  bif ((f.Num.Words.length:Int) == 0)then (
   (Zpq f.Den.Words ([1]:ZoI)).bind fun q=>
   some (q == 0)
  )else (
   (ZrQ f.Num.Words f.Den.Words).bind fun q_1=>
   (Zpq q_1 ([1]:ZoI)).bind fun q_2=>
   some (q_2 == 0)
  )
 )
def Zq3 (f:ZoF):Option Bool:=
 (ZpI f.Num).bind fun q=>
 bif (!q)then (
  ZpH true f
 )else (
  (ZpI f.Den).bind fun q_1=>
  bif (!q_1)then (
   ZpH true f
  )else (
   bif f.Den.Neg then (
    ZpH true f
   )else (
    ZpH ((f.Den.Words.length:Int) == 0) f
   )
  )
 )
def Zuo (out:ZoI):Option ZoI:=
 (Zpe out).bind fun q=>
 some q
def Zup (rec_:ZLf) (a:ZoI) (b:ZoI) (i:Int) (c:Int) (out:ZoI):Option ZoI:=
 chk (inK .i64 (i+(b.length:Int))) <|
 chk (inR (i+(b.length:Int)) (out.length:Int)) <|
 chk (inK .i64 (i+1)) <|
 rec_ a b (i+1) (out.set (((i+(b.length:Int))).toNat) (IntKind.wrap .u32 c))
def Zrg (rec_:ZoI→ZoI→Int→Int→Int→ZoI→ZE0) (a:ZoI) (b:ZoI) (i:Int) (c:Int) (j:Int) (out:ZoI):ZE0:=
 bif (decide (j < (b.length:Int)))then (
  (idx a i).bind fun a_e=>
  (idx b j).bind fun b_e=>
  chk (inK .i64 (i+j)) <|
  chk (inR (i+j) (out.length:Int)) <|
  (out[((i+j)).toNat]?).bind fun out_e=>
  chk (inK .i64 (i+j)) <|
  chk (inR (i+j) (out.length:Int)) <|
  chk (decide (0≤(32:Int))) <|
  chk (inK .i64 (j+1)) <|
  rec_ a b i (shrK .u64 (IntKind.wrap .u64 (c+(IntKind.wrap .u64 ((IntKind.wrap .u64 ((IntKind.wrap .u64 a_e)*(IntKind.wrap .u64 b_e)))+(IntKind.wrap .u64 out_e))))) 32) (j+1) (out.set (((i+j)).toNat) (IntKind.wrap .u32 (IntKind.wrap .u64 (c+(IntKind.wrap .u64 ((IntKind.wrap .u64 ((IntKind.wrap .u64 a_e)*(IntKind.wrap .u64 b_e)))+(IntKind.wrap .u64 out_e)))))))
 )else (
  some (a,b,i,c,out)
 )
def Zsd:Nat→ZoI→ZoI→Int→Int→Int→ZoI→ZE0
 |0,_,_,_,_,_,_=>none
 |n_+1,a,b,i,c,j,out=>Zrg (Zsd n_) a b i c j out
def Zv6 (n:Nat) (s:(ZoI×ZoI×Int×Int×Int×ZoI)):ZE0:=Zsd n s.1 s.2.1 s.2.2.1 s.2.2.2.1 s.2.2.2.2.1 s.2.2.2.2.2
def Ztp (rec_:(ZoI×ZoI×Int×Int×Int×ZoI)→ZE0) (s:(ZoI×ZoI×Int×Int×Int×ZoI)):ZE0:=Zrg (fun a b i c j out=>rec_ (a,b,i,c,j,out)) s.1 s.2.1 s.2.2.1 s.2.2.2.1 s.2.2.2.2.1 s.2.2.2.2.2
theorem Zyp:∀n s,Zv6 (n+1) s=Ztp (Zv6 n) s:=fun _ _=>rfl
def Zrh (rec_:ZLf) (a:ZoI) (b:ZoI) (i:Int) (out:ZoI):Option ZoI:=
 bif (decide (i < (a.length:Int)))then (
  (Zsd big a b i (0:Int) (0:Int) out).bind fun(x0,x1,x2,x3,x4)=>Zup rec_ x0 x1 x2 x3 x4
 )else (
  some out
 )
def ZqI:Nat→ZoI→ZoI→Int→ZoI→Option ZoI
 |0,_,_,_,_=>none
 |n_+1,a,b,i,out=>Zrh (ZqI n_) a b i out
def Zv7 (n:Nat) (s:(ZoI×ZoI×Int×ZoI)):Option ZoI:=ZqI n s.1 s.2.1 s.2.2.1 s.2.2.2
def Ztq (rec_:(ZoI×ZoI×Int×ZoI)→Option ZoI) (s:(ZoI×ZoI×Int×ZoI)):Option ZoI:=Zrh (fun a b i out=>rec_ (a,b,i,out)) s.1 s.2.1 s.2.2.1 s.2.2.2
theorem Zyq:∀n s,Zv7 (n+1) s=Ztq (Zv7 n) s:=fun _ _=>rfl
def ZtO (a:ZoI) (b:ZoI):Option ZoI:=
 chk (inK .i64 ((a.length:Int)+(b.length:Int))) <|
 chk (mkOk ((a.length:Int)+(b.length:Int)) ((a.length:Int)+(b.length:Int)) 4) <|
 (ZqI big a b (0:Int) (List.replicate (((a.length:Int)+(b.length:Int))).toNat (0:Int))).bind fun x0=>Zuo x0
def ZpJ (a:ZoM) (b:ZoM):Option ZoM:=
 (ZtO a.Words b.Words).bind fun q=>
 (Zo9 (!(a.Neg == b.Neg)) q).bind fun q_1=>
 some q_1
def ZsF (a:ZoM):Option ZoM:=
 (Zo9 (!a.Neg) a.Words).bind fun q=>
 some q
def Zux (c:Int) (out:ZoI):Option ZoI:=
 chk (ZjC (out.length+([(IntKind.wrap .u32 c)]:ZoI).length) 4) <|
 some (out++([(IntKind.wrap .u32 c)]:ZoI))
def ZqL (rec_:ZHc) (a:ZoI) (b:ZoI) (c:Int) (i:Int) (out:ZoI):ZwJ:=
 chk (ZjC (out.length+([(IntKind.wrap .u32 c)]:ZoI).length) 4) <|
 chk (decide (0≤(32:Int))) <|
 chk (inK .i64 (i+1)) <|
 rec_ a b (shrK .u64 c 32) (i+1) (out++([(IntKind.wrap .u32 c)]:ZoI))
def ZqM (rec_:ZHc) (a:ZoI) (b:ZoI) (c:Int) (i:Int) (out:ZoI):ZwJ:=
 bif (decide (i < (b.length:Int)))then (
  (idx b i).bind fun b_e=>
  ZqL rec_ a b (IntKind.wrap .u64 (c+(IntKind.wrap .u64 b_e))) i out
 )else (
  ZqL rec_ a b c i out
 )
def Zp2 (rec_:ZHc) (a:ZoI) (b:ZoI) (c:Int) (i:Int) (t17:Bool) (out:ZoI):ZwJ:=
 bif t17 then (
  bif (decide (i < (a.length:Int)))then (
   (idx a i).bind fun a_e=>
   ZqM rec_ a b (IntKind.wrap .u64 (c+(IntKind.wrap .u64 a_e))) i out
  )else (
   ZqM rec_ a b c i out
  )
 )else (
  some (c,out)
 )
def Zrk (rec_:ZHc) (a:ZoI) (b:ZoI) (c:Int) (i:Int) (out:ZoI):ZwJ:=
 bif (decide (i < (a.length:Int)))then (
  Zp2 rec_ a b c i true out
 )else (
  Zp2 rec_ a b c i (decide (i < (b.length:Int))) out
 )
def ZpA:Nat→ZoI→ZoI→Int→Int→ZoI→ZwJ
 |0,_,_,_,_,_=>none
 |n_+1,a,b,c,i,out=>Zrk (ZpA n_) a b c i out
def Zwa (n:Nat) (s:(ZoI×ZoI×Int×Int×ZoI)):ZwJ:=ZpA n s.1 s.2.1 s.2.2.1 s.2.2.2.1 s.2.2.2.2
def Ztv (rec_:(ZoI×ZoI×Int×Int×ZoI)→ZwJ) (s:(ZoI×ZoI×Int×Int×ZoI)):ZwJ:=Zrk (fun a b c i out=>rec_ (a,b,c,i,out)) s.1 s.2.1 s.2.2.1 s.2.2.2.1 s.2.2.2.2
theorem Zyt:∀n s,Zwa (n+1) s=Ztv (Zwa n) s:=fun _ _=>rfl
def ZrS (a:ZoI) (b:ZoI):Option ZoI:=
 (ZpA big a b (0:Int) (0:Int) ([]:ZoI)).bind fun(x0,x1)=>Zux x0 x1
def Zs5 (a:ZoM) (b:ZoM):Option ZoM:=
 bif (a.Neg == b.Neg)then (
  (ZrS a.Words b.Words).bind fun q=>
  (Zo9 a.Neg q).bind fun q_1=>
  some q_1
 )else (
  (Zpq a.Words b.Words).bind fun q_2=>
  bif (decide (q_2≥0))then (
   (Zp4 a.Words b.Words).bind fun q_3=>
   (Zo9 a.Neg q_3).bind fun q_4=>
   some q_4
  )else (
   (Zp4 b.Words a.Words).bind fun q_5=>
   (Zo9 b.Neg q_5).bind fun q_6=>
   some q_6
  )
 )
def Zsj (t13:Bool) (a:ZoF) (b:ZoF):Option Int:=
 bif t13 then (
  some (0:Int)
 )else (
  (ZpJ a.Num b.Den).bind fun q=>
  (ZpJ b.Num a.Den).bind fun q_1=>
  (ZsF q_1).bind fun q_2=>
  (Zs5 q q_2).bind fun x_=>
  bif ((x_.Words.length:Int) == 0)then (
   some (0:Int)
  )else (
   bif x_.Neg then (
    some (-1:Int)
   )else (
    some (1:Int)
   )
  )
 )
def ZrT (a:ZoF) (b:ZoF):Option Int:=
 (Zq3 a).bind fun q=>
 bif (!q)then (
  Zsj true a b
 )else (
  (Zq3 b).bind fun q_1=>
  Zsj (!q_1) a b
 )
def Zs3 (a:ZoF) (b:ZoF):Option Bool:=
 (ZrT a b).bind fun q=>
 some (decide (q < 0))
def Zqi:Option Bool:=
 (Zq4).bind fun q=>
 some q
def Zqj (rec_:ZM5) (l:ZoI) (n:Int) (m:Int) (t81:ZqA) (t82:Int) (i:Int) (a:ZoG) (b:ZoG):Zv2:=
 chk (inK .i64 (i+1)) <|
 rec_ l n m t81 t82 (i+1) a b
def Zo6 (rec_:Tf_3) (l:ZoI) (n:Int) (m:Int) (i:Int) (t81:ZqA) (t82:Int) (i_1:Int) (t107:Zv1) (t108:Int) (r_:Int) (a:ZoG) (b:ZoG) (y:ZoP) (want:ZoP):ZJd:=
 bif (!(y.Null == want.Null&&(y.Text == want.Text&&true)))then (
  some (.ret false)
 )else (
  chk (inK .i64 (r_+1)) <|
  rec_ l n m i t81 t82 i_1 t107 t108 (r_+1) a b
 )
def Zpr (rec_:Tf_3) (l:ZoI) (n:Int) (m:Int) (i:Int) (t81:ZqA) (t82:Int) (i_1:Int) (t107:Zv1) (t108:Int) (r_:Int) (a:ZoG) (b:ZoG):ZJd:=
 bif (decide (r_ < t108))then (
  (idx t107 r_).bind fun y=>
  bif (decide (r_ < n))then (
   (idx a.Columns i).bind fun Column=>
   (idx Column.Cells r_).bind fun want=>
   Zo6 rec_ l n m i t81 t82 i_1 t107 t108 r_ a b y want
  )else (
   (idx l i).bind fun l_e=>
   bif (decide (l_e≥0))then (
    (idx l i).bind fun l_e_1=>
    (idx b.Columns l_e_1).bind fun Column_1=>
    chk (inK .i64 (r_ - n)) <|
    (idx Column_1.Cells (r_ - n)).bind fun want_1=>
    Zo6 rec_ l n m i t81 t82 i_1 t107 t108 r_ a b y want_1
   )else (
    Zo6 rec_ l n m i t81 t82 i_1 t107 t108 r_ a b y (ZoP.mk true ([]:Str))
   )
  )
 )else (
  some (.brk (l,n,m,t81,t82,i_1,a,b))
 )
def Zpg:Nat→ZoI→Int→Int→Int→ZqA→Int→Int→Zv1→Int→Int→ZoG→ZoG→ZJd
 |0,_,_,_,_,_,_,_,_,_,_,_,_=>none
 |n_+1,l,n,m,i,t81,t82,i_1,t107,t108,r_,a,b=>Zpr (Zpg n_) l n m i t81 t82 i_1 t107 t108 r_ a b
def ZrU (n:Nat) (s:(ZoI×Int×Int×Int×ZqA×Int×Int×Zv1×Int×Int×ZoG×ZoG)):ZJd:=Zpg n s.1 s.2.1 s.2.2.1 s.2.2.2.1 s.2.2.2.2.1 s.2.2.2.2.2.1 s.2.2.2.2.2.2.1 s.2.2.2.2.2.2.2.1 s.2.2.2.2.2.2.2.2.1 s.2.2.2.2.2.2.2.2.2.1 s.2.2.2.2.2.2.2.2.2.2.1 s.2.2.2.2.2.2.2.2.2.2.2
def Zp5 (rec_:(ZoI×Int×Int×Int×ZqA×Int×Int×Zv1×Int×Int×ZoG×ZoG)→ZJd) (s:(ZoI×Int×Int×Int×ZqA×Int×Int×Zv1×Int×Int×ZoG×ZoG)):ZJd:=Zpr (fun l n m i t81 t82 i_1 t107 t108 r_ a b=>rec_ (l,n,m,i,t81,t82,i_1,t107,t108,r_,a,b)) s.1 s.2.1 s.2.2.1 s.2.2.2.1 s.2.2.2.2.1 s.2.2.2.2.2.1 s.2.2.2.2.2.2.1 s.2.2.2.2.2.2.2.1 s.2.2.2.2.2.2.2.2.1 s.2.2.2.2.2.2.2.2.2.1 s.2.2.2.2.2.2.2.2.2.2.1 s.2.2.2.2.2.2.2.2.2.2.2
theorem Zvp:∀n s,ZrU (n+1) s=Zp5 (ZrU n) s:=fun _ _=>rfl
def Zpy (rec_:ZM5) (l:ZoI) (n:Int) (m:Int) (i:Int) (t81:ZqA) (t82:Int) (i_1:Int) (t105:Bool) (a:ZoG) (b:ZoG) (c:ZoL):Zv2:=
 bif t105 then (
  some (.ret false)
 )else (
  (Zpg big l n m i t81 t82 i_1 c.Cells (c.Cells.length:Int) (0:Int) a b).bind fun
   | .ret q_=>some (.ret q_)
   | .brk (x0,x1,x2,x3,x4,x5,x6,x7)=>Zqj rec_ x0 x1 x2 x3 x4 x5 x6 x7
 )
def Zps (rec_:ZM5) (l:ZoI) (n:Int) (m:Int) (t81:ZqA) (t82:Int) (i:Int) (a:ZoG) (b:ZoG):Zv2:=
 bif (decide (i < t82))then (
  (idx t81 i).bind fun c=>
  chk (inK .i64 (n+m)) <|
  bif ((c.Cells.length:Int) != (n+m))then (
   Zpy rec_ l n m i t81 t82 i true a b c
  )else (
   (idx a.Columns i).bind fun Column=>
   Zpy rec_ l n m i t81 t82 i (!(c.Name == Column.Name)) a b c
  )
 )else (
  some (.brk ())
 )
def ZoY:Nat→ZoI→Int→Int→ZqA→Int→Int→ZoG→ZoG→Zv2
 |0,_,_,_,_,_,_,_,_=>none
 |n_+1,l,n,m,t81,t82,i,a,b=>Zps (ZoY n_) l n m t81 t82 i a b
def ZrV (n:Nat) (s:(ZoI×Int×Int×ZqA×Int×Int×ZoG×ZoG)):Zv2:=ZoY n s.1 s.2.1 s.2.2.1 s.2.2.2.1 s.2.2.2.2.1 s.2.2.2.2.2.1 s.2.2.2.2.2.2.1 s.2.2.2.2.2.2.2
def Zp6 (rec_:(ZoI×Int×Int×ZqA×Int×Int×ZoG×ZoG)→Zv2) (s:(ZoI×Int×Int×ZqA×Int×Int×ZoG×ZoG)):Zv2:=Zps (fun l n m t81 t82 i a b=>rec_ (l,n,m,t81,t82,i,a,b)) s.1 s.2.1 s.2.2.1 s.2.2.2.1 s.2.2.2.2.1 s.2.2.2.2.2.1 s.2.2.2.2.2.2.1 s.2.2.2.2.2.2.2
theorem Zvq:∀n s,ZrV (n+1) s=Zp6 (ZrV n) s:=fun _ _=>rfl
def ZoV (l:ZoI) (t75:Bool) (a:ZoG) (b:ZoG) (x_:ZoG):Option Bool:=
 bif t75 then (
  some false
 )else (
  (Zqs a).bind fun n=>
  (Zqs b).bind fun m=>
  (ZoY big l n m x_.Columns (x_.Columns.length:Int) (0:Int) a b).bind fun
   | .ret q_=>some q_
   | .brk ()=>Zqi
 )
def ZqN (t:ZoI):Option Bool:=
 (ZvG t).bind fun q=>
 bif (!q)then (
  (Zq4).bind fun q_1=>
  some q_1
 )else (
  (Zwd t).bind fun d=>
  (ZqE d 1).bind fun(a,t24)=>
  (ZqE t24 2).bind fun(b,t26)=>
  (Zq1 a b).bind fun(l,s,e)=>
  (Zr0 a b l).bind fun(x_,f)=>
  bif (e != 0)then (
   ZoV l true a b x_
  )else (
   bif (f != 0)then (
    ZoV l true a b x_
   )else (
    bif ((x_.Columns.length:Int) != (a.Columns.length:Int))then (
     ZoV l true a b x_
    )else (
     bif ((l.length:Int) != (a.Columns.length:Int))then (
      ZoV l true a b x_
     )else (
      (Zs1).bind fun q_2=>
      (Zs3 s q_2).bind fun q_3=>
      bif q_3 then (
       ZoV l true a b x_
      )else (
       (ZpG 1).bind fun q_4=>
       (ZrT s q_4).bind fun q_5=>
       ZoV l (decide (q_5 > 0)) a b x_
      )
     )
    )
   )
  )
 )
end
end Go.Proofs

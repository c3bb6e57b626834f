/- Printed by wip/tools/tgen.py: specs. -/
import Derived.Test.YtdonkbljnbaacaaGreatDoorE4
import Derived.Lib.Bytealg
import Derived.Lib.ItoaNum
import Derived.Lib.LaidU8
import Derived.Lib.SlTrimSet
import Derived.Shelf.Strconv.Itoa3
import Derived.Test.YtdonkbljnbaacaaGreatDoorUtWD
set_option linter.all false
namespace Go.Proofs
open Go Eng
set_option maxRecDepth 100000
noncomputable section
structure G_api_Cell where
 Null:Bool
 Text:Str
 deriving DecidableEq,Inhabited
structure G_api_Column where
 Name:Str
 Cells:(List G_api_Cell)
 deriving DecidableEq,Inhabited
structure G_api_Table where
 ID:Int
 Name:Str
 Columns:(List G_api_Column)
 deriving DecidableEq,Inhabited
structure Zgo where
 Neg:Bool
 Words:(List Int)
 deriving DecidableEq,Inhabited
structure ZbF where
 Num:Zgo
 Den:Zgo
 deriving DecidableEq,Inhabited
structure ZdN where
 lo:Int
 hi:Int
 deriving DecidableEq,Inhabited
structure Zp0 where
 word:Str
 canonical:(Option Nat)
 value:(Option Nat)
 deriving DecidableEq,Inhabited
structure Ziw where
 e0:Int
 e1:Int
 deriving DecidableEq,Inhabited
structure Zrw where
 w_:(List (List ZbF))
 best:(List (Ziw×ZbF))
 deriving DecidableEq,Inhabited
structure ZbZ where
 l:(List Int)
 at_:Int
 deriving DecidableEq,Inhabited
structure Zk3 where
 Kind:Int
 Column:Int
 Text:Str
 Columns:(List Int)
 deriving DecidableEq,Inhabited
structure ZkC where
 Table:Int
 Align:(List Int)
 Score:ZbF
 deriving DecidableEq,Inhabited
abbrev ZyB:Type:={l:List Int // l.length=256}
structure ZoU where
 e0:ZdN
 e1:ZdN
 e2:ZdN
 e3:ZdN
 e4:ZdN
 e5:ZdN
 e6:ZdN
 e7:ZdN
 e8:ZdN
 e9:ZdN
 e10:ZdN
 e11:ZdN
 e12:ZdN
 e13:ZdN
 e14:ZdN
 e15:ZdN
 deriving DecidableEq,Inhabited
def ZAj:Nat->Type|0=>G_api_Cell|1=>G_api_Column|2=>G_api_Table|3=>Zgo|4=>ZbF|5=>ZdN|6=>Zp0|7=>Ziw|8=>Zrw|9=>ZbZ|10=>Zk3|11=>ZkC|12=>ZyB|13=>ZoU|_=>Unit
def Z0h:Nat->Nat|0=>2|1=>2|2=>3|3=>2|4=>4|5=>2|6=>3|7=>2|8=>2|9=>2|10=>4|11=>6|12=>256|13=>32|_=>0
def ZKm:(n:Nat)->ZAj n->ZAj n->Bool|7,x,y=>x.e0==y.e0&&x.e1==y.e1|_,_,_=>false
def ZJL:List (Lf ZAj):=[⟨.sl (.int .u32),([1]:List Int)⟩]
def ZEA:List (Lf ZAj):=(Lib.firstTab.map fun n=>⟨.int .u8,n⟩)
def Zu6:List (Lf ZAj):=[⟨.int .u8,(128:Int)⟩,⟨.int .u8,(191:Int)⟩,⟨.int .u8,(160:Int)⟩,⟨.int .u8,(191:Int)⟩,⟨.int .u8,(128:Int)⟩,⟨.int .u8,(159:Int)⟩,⟨.int .u8,(144:Int)⟩,⟨.int .u8,(191:Int)⟩,⟨.int .u8,(128:Int)⟩,⟨.int .u8,(143:Int)⟩,⟨.int .u8,(0:Int)⟩,⟨.int .u8,(0:Int)⟩,⟨.int .u8,(0:Int)⟩,⟨.int .u8,(0:Int)⟩,⟨.int .u8,(0:Int)⟩,⟨.int .u8,(0:Int)⟩,⟨.int .u8,(0:Int)⟩,⟨.int .u8,(0:Int)⟩,⟨.int .u8,(0:Int)⟩,⟨.int .u8,(0:Int)⟩,⟨.int .u8,(0:Int)⟩,⟨.int .u8,(0:Int)⟩,⟨.int .u8,(0:Int)⟩,⟨.int .u8,(0:Int)⟩,⟨.int .u8,(0:Int)⟩,⟨.int .u8,(0:Int)⟩,⟨.int .u8,(0:Int)⟩,⟨.int .u8,(0:Int)⟩,⟨.int .u8,(0:Int)⟩,⟨.int .u8,(0:Int)⟩,⟨.int .u8,(0:Int)⟩,⟨.int .u8,(0:Int)⟩]
def ZD8:List (Lf ZAj):=(Lib.pow10Tab.map fun n=>⟨.int .u64,n⟩)
abbrev Zcy:Type:=List Int
abbrev Zna:Type:=List G_api_Column
abbrev Zo5:Type:=List ZbF
abbrev Zpi:Type:=List Str
abbrev Zvo:Type:=List G_api_Table
abbrev ZxR:Type:=List ZkC
abbrev ZxL:Type:=List G_api_Cell
abbrev ZX2:Type:=Option ((List Zo5)×Int×Zo5×Int×(List Zo5)×Int×Int×Bool×Bool×(List (Ziw×ZbF))×ZbF×ZbF×Zcy×Zcy×Zcy)
abbrev ZZP:Type:=Option ((List Zo5)×Int×Int×(List Zo5)×Int×Int×Bool×Bool×(List (Ziw×ZbF))×Zcy×Zcy×Zcy)
abbrev ZSY:Type:=Option ((List Zo5)×(List (Ziw×ZbF))×Bool×Bool×Ziw×ZbF×Zcy×Zcy)
abbrev ZUS:Type:=Option ((List (Ziw×ZbF))×Bool×Bool×Ziw×ZbF×Zcy×Zcy)
abbrev ZRk:Type:=Option (Zna×Int×Int×G_api_Table×G_api_Table×Bool×Bool×(List Zo5)×Zo5×Zcy×Zcy)
abbrev ZZO:Type:=Option ((List Zo5)×Bool×Bool×(List (Ziw×ZbF))×Zcy×Zcy×Zcy)
abbrev ZPB:Type:=Option (Out (Zcy×G_api_Table×G_api_Table×Int×Str×Zna) (G_api_Table×Int))
abbrev ZWt:Type:=Option (Zcy×Zna×Int×Int×Int×Str×Int×Str×Str×Zna×Zna×ZxL)
abbrev ZUP:Type:=Option (ZbZ×Int×Int×Str×Int×Int×Str×Zcy×Zcy)
abbrev ZUO:Type:=Option (Out (Zcy×Int×Str×Int×Str×Zna×Zna) (G_api_Table×Int))
abbrev ZKe:Type:=Option (G_api_Table×G_api_Table×Bool×Bool×(List Zo5)×Zcy×Zcy)
abbrev ZNT:Type:=Option (Zpi×Zpi×Int×Zpi×Int×Int×Bool×Bool×Zcy×Zcy)
abbrev ZNS:Type:=Option (Out (Zcy×G_api_Table×Int×Str×Zna) (G_api_Table×Int))
abbrev ZPt:Type:=Option (Bool×Str×Bool×Bool×Zgo×Zgo×Zcy×Zcy)
abbrev ZX1:Type:=Option (ZbF×Bool×(List (Ziw×ZbF)))
abbrev ZJr:Type:=Option (Int×Int×Bool×Int×Int×G_api_Table×Zk3×Zcy)
abbrev ZNR:Type:=Option (Int×ZbZ×G_api_Table×Int×Str×Zna)
abbrev ZPs:Type:=Option (Bool×Str×Zcy×Zcy×Bool×Bool×Zcy×Zcy×Zcy)
abbrev ZPr:Type:=Option (ZbZ×Int×Str×Int×Str×Zna×Zna)
abbrev ZPq:Type:=Option (Out (G_api_Table×Int×Str×Zna) (G_api_Table×Int))
abbrev ZNQ:Type:=Option (Bool×Bool×Bool×Zgo×Zgo×Zcy×Zcy)
abbrev ZNP:Type:=Option (Out (Int×Int×Int×G_api_Table×(List Zvo)) Bool)
abbrev ZFN:Type:=Option (ZbF×(List (Ziw×ZbF)))
abbrev ZQN:Type:=Option (Bool×Bool×ZbF×Zcy×Zcy×Zcy)
abbrev ZNO:Type:=Option (Out (Bool×Str×Str) (Bool×Str×Str×Bool))
abbrev ZPp:Type:=Option (Nat×Nat×Zcy×Int×Int×Int×Int×Zcy)
abbrev ZNN:Type:=Option (ZbZ×Str×Str×ZxL×ZxL)
abbrev ZPo:Type:=Option (Bool×Zcy×Zcy×Bool×Bool×Zcy×Zcy)
abbrev ZNM:Type:=Option (Zpi×Zpi×Int×Bool×Bool×Zcy×Zcy)
abbrev ZPn:Type:=Option (Zcy×Int×Int×Zcy×Int×Int×Zcy)
abbrev ZPm:Type:=Option (Int×Str×Int×Str×Zna×Nat×Zna)
abbrev ZNL:Type:=Option (Int×Str×Int×Str×Zna×Zna×Nat)
abbrev ZUR:Type:=Option (Out (Zna×Int×Int×G_api_Table) Bool)
abbrev ZKd:Type:=Option (Int×Int×Bool×Bool×Zcy×Zcy)
abbrev ZX0:Type:=Option (G_api_Column×ZbZ)
abbrev ZNK:Type:=Option (Nat×Nat×Zcy×Int×Int×Zcy)
abbrev ZQM:Type:=Option (G_api_Table×ZbZ)
abbrev ZJT:Type:=Option (Int×Str×Int×Str×Zna×Zna)
abbrev ZNJ:Type:=Option (Str×Int×Zpi×Int×Int×Zpi)
abbrev ZPl:Type:=Option (Nat×Nat×Int×Int×Int×Zcy)
abbrev ZXZ:Type:=Option (G_api_Cell×ZbZ)
abbrev ZK8:Type:=Option (Out ((List Zo5)×Int×Int) Int)
abbrev ZPk:Type:=Option (Zk3×ZbZ)
abbrev ZPj:Type:=Option (Zcy×Zcy×Int×Int×Zcy)
abbrev ZXY:Type:=Option (Zvo×ZbZ)
abbrev ZMV:Type:=Option (ZbZ×Zvo)
abbrev ZPi:Type:=Option (Out (Zcy×Zvo×Int) Bool)
abbrev ZKc:Type:=Option (Zcy×ZbF×Int)
abbrev ZNI:Type:=Option (ZxR×Int×ZkC)
abbrev ZPh:Type:=Option (Nat×Nat×Zcy×Zcy)
abbrev ZPg:Type:=Option (Int×Int×Zcy×Zcy)
abbrev ZNH:Type:=Option (Bool×Str×Str×Bool)
abbrev ZPf:Type:=Option (Zpi×Str×Int×Int)
abbrev ZNG:Type:=Option (Int×Int×Int×ZxR)
abbrev ZQL:Type:=Option (Int×Int×Int×Bool)
abbrev ZIY:Type:=Option (ZbF×Bool)
abbrev ZSh:Type:=Option (Int×Int×Int×Int)
abbrev ZHz:Type:=Option (ZbF×Int)
abbrev ZH4:Type:=Option (Out (List Zo5) Int)
abbrev ZKb:Type:=Option (G_api_Table×Int)
abbrev ZMU:Type:=Option (Zcy×Zcy×Int)
abbrev ZNF:Type:=Option (Out Zk3 Bool)
abbrev ZKW:Type:=Option (Nat×Nat×Zcy)
abbrev ZMT:Type:=Option (Zpi×Str×Int)
abbrev ZMS:Type:=Option (Str×Bool×Int)
abbrev ZJS:Type:=Option (Bool×Str×Str)
abbrev Zry:Type:=Option (Out Unit Bool)
abbrev ZJR:Type:=Option (Out Zvo Bool)
abbrev ZUQ:Type:=Option (Out Unit ZxR)
abbrev ZDE:Type:=Option (Out Unit Int)
abbrev ZKa:Type:=Option (Zcy×Zcy)
abbrev ZPe:Type:=Option (Out Str Str)
abbrev ZMR:Type:=Option (Out Int Int)
abbrev ZNE:Type:=Option (Int×Bool)
abbrev ZMQ:Type:=Option (Zcy×Int)
abbrev ZDn:Type:=Option (Int×Zcy)
abbrev ZJQ:Type:=Option (Str×Bool)
abbrev ZMP:Type:=Option (ZxR×Int)
abbrev ZJq:Type:=Option (Int×ZxR)
abbrev ZL3:Type:=Option (Int×Int)
abbrev Z0R:Type:=(List Zo5)->Int->Int->Zo5->Int->(List Zo5)->Int->Int->Zo5->Int->Int->Bool->Bool->(List (Ziw×ZbF))->ZbF->ZbF->Zcy->Zcy->Zcy->ZX2
abbrev Tf_1:Type:=(List Zo5)->Int->Int->Int->(List Zo5)->Int->Int->Int->Int->Bool->Bool->(List (Ziw×ZbF))->Zcy->ZbF->Zcy->Zcy->ZZP
abbrev Z0Q:Type:=(List Zo5)->Int->(List Zo5)->Int->Int->Bool->Bool->(List (Ziw×ZbF))->ZbF->ZbF->Zcy->Zcy->Zcy->ZQN
abbrev Tf_3:Type:=(List Zo5)->Int->Int->Zo5->Int->Int->(List (Ziw×ZbF))->Bool->Bool->Ziw->ZbF->Zcy->Zcy->ZUS
abbrev Z0P:Type:=(List Zo5)->Int->Int->Int->Int->(List (Ziw×ZbF))->Bool->Bool->Ziw->ZbF->Zcy->Zcy->ZSY
abbrev Tf_5:Type:=(Zna×Int×Int×Zna×Int×Int×G_api_Table×G_api_Table×Bool×Bool×(List Zo5)×G_api_Column×Zo5×Zcy×Zcy)->ZRk
abbrev Tf_6:Type:=Zna->Int->Int->Zna->Int->Int->G_api_Table->G_api_Table->Bool->Bool->(List Zo5)->G_api_Column->Zo5->Zcy->Zcy->ZRk
abbrev Tf_7:Type:=(List Zo5)->Int->(List Zo5)->Int->Int->Bool->Bool->(List (Ziw×ZbF))->Zcy->Zcy->Zcy->ZZO
abbrev Tf_8:Type:=Zpi->Zpi->Int->Str->Zpi->Int->Int->Zpi->Int->Int->Bool->Bool->Zcy->Zcy->ZNT
abbrev Tf_9:Type:=(Zna×Int×Int×G_api_Table×G_api_Table×Bool×Bool×(List Zo5)×Zcy×Zcy)->ZKe
abbrev ZSu:Type:=Zna->Int->Int->G_api_Table->G_api_Table->Bool->Bool->(List Zo5)->Zcy->Zcy->ZKe
abbrev ZYB:Type:=Int->Int->ZbZ->Int->Int->Str->Int->Int->Str->Zcy->Zcy->ZUP
abbrev ZYA:Type:=Zcy->Int->Int->G_api_Table->Int->Str->Int->Str->Zna->Zna->Nat->ZNL
abbrev ZYz:Type:=Zcy->Zcy->Int->Int->G_api_Table->Int->Str->Int->Str->Zna->Zna->ZUO
abbrev ZYy:Type:=Int->Int->Bool->Int->Int->Int->Int->G_api_Table->Zk3->Zcy->ZJr
abbrev ZYx:Type:=(Zcy×Zcy×Int×Int×G_api_Table×G_api_Table×Int×Str×Zna)->ZPB
abbrev ZSt:Type:=Zcy->Zcy->Int->Int->G_api_Table->G_api_Table->Int->Str->Zna->ZPB
abbrev ZYw:Type:=Int->Zvo->Int->Int->Int->Int->G_api_Table->(List Zvo)->Zcy->ZNP
abbrev ZYv:Type:=Bool->Bool->Bool->Zgo->Zgo->Str->Nat->Zcy->Zcy->ZNQ
abbrev ZYu:Type:=Int->Int->Bool->ZxL->Int->Int->G_api_Table->Zk3->Zcy->ZJr
abbrev ZYt:Type:=Int->Int->ZbZ->G_api_Table->Int->Str->Zna->ZNR
abbrev ZYs:Type:=Int->Int->Int->ZbZ->Str->Str->ZxL->ZxL->ZNN
abbrev ZYr:Type:=Zpi->Zpi->Int->Zpi->Int->Int->Bool->Bool->Zcy->Zcy->ZNM
abbrev ZYq:Type:=Zcy->Zna->Int->Int->Int->Str->Int->Str->Zna->Zna->ZJT
abbrev ZYp:Type:=(Int×Int×ZxL×Int×Int×Bool×Bool×Zcy×Zcy)->ZKd
abbrev ZSs:Type:=Int->Int->ZxL->Int->Int->Bool->Bool->Zcy->Zcy->ZKd
abbrev ZYo:Type:=Zcy->Zcy->Int->Int->G_api_Table->Int->Str->Zna->ZNS
abbrev ZPv:Type:=Int->Int->G_api_Table->Zk3->Zcy->Option Zcy
abbrev ZYn:Type:=(Int×Zvo×Int×Int×G_api_Table×ZxR)->ZJq
abbrev ZYm:Type:=((List Zo5)×Int×Int×Zo5×Int×Int)->ZK8
abbrev ZPu:Type:=Int->Zvo->Int->Int->G_api_Table->ZxR->ZJq
abbrev ZYl:Type:=Int->Int->Int->G_api_Table->(List Zvo)->Zry
abbrev ZYk:Type:=(List Zo5)->Int->Int->Zo5->Int->Int->ZK8
abbrev ZYj:Type:=Nat->Nat->Zcy->Int->Int->Int->Zcy->ZNK
abbrev ZYi:Type:=Zcy->Int->Int->G_api_Table->Zk3->ZNF
abbrev ZUV:Type:=Int->Int->ZbZ->Zvo->ZMV
abbrev ZSr:Type:=((List Zo5)×(List Zo5)×Int×Int)->ZH4
abbrev ZYh:Type:=(Zcy×Zcy×Int×Int×Zcy)->Option Zcy
abbrev ZSq:Type:=(List Zo5)->(List Zo5)->Int->Int->ZH4
abbrev ZSp:Type:=Zcy->Zcy->Int->Int->Zcy->Option Zcy
abbrev ZYg:Type:=Str->Int->Zpi->Int->Int->Zpi->ZNJ
abbrev ZYf:Type:=Zpi->Int->Zpi->Int->Int->Option Int
abbrev ZYe:Type:=Zcy->Zcy->Zcy->Int->Zcy->ZKa
abbrev ZUU:Type:=Zna->Int->Int->G_api_Table->Zry
abbrev ZYd:Type:=Zcy->Zcy->Int->Zcy->Option Zcy
abbrev ZSo:Type:=Zcy->Zcy->Int->Int->Zcy->ZDn
abbrev ZYc:Type:=Zcy->Int->Int->Zcy->Option Zcy
abbrev ZSn:Type:=Zpi->Int->Int->Zpi->Option Zpi
abbrev ZYb:Type:=ZxL->Int->Int->Zpi->Option Zpi
abbrev ZYa:Type:=Int->Int->Int->ZxR->Option ZxR
abbrev ZX9:Type:=Int->Int->Int->Int->ZxR->ZNG
abbrev ZSm:Type:=Str->Zpi->Str->Int->Option Zpi
abbrev ZX8:Type:=Int->Int->Int->Int->Int->ZSh
abbrev ZX7:Type:=((List Zo5)×Int×Int)->ZDE
abbrev ZX6:Type:=ZxR->Int->ZkC->ZNI
abbrev ZSl:Type:=(List Zo5)->Int->Int->ZDE
abbrev ZX5:Type:=Zvo->Zvo->Int->Int->ZJR
abbrev ZX4:Type:=ZxR->ZxR->Int->Int->Zry
abbrev ZUT:Type:=Int->Int->Zcy->Option Zcy
abbrev ZX3:Type:=Bool->Str->Str->Int->ZNO
abbrev ZSk:Type:=Zcy->Zcy->Int->ZMQ
abbrev ZSj:Type:=Zcy->Zcy->Int->ZMU
abbrev ZSi:Type:=Bool->Str->Str->ZJS
abbrev ZQO:Type:=Zcy->Option Zcy
abbrev ZMX:Type:=Str->Option Str
abbrev ZMW:Type:=Str->Zry
def ZBR (t:Zcy):Option Bool:=some ((t.length:Int)<=500)
def ZoM (s:Str):Option Int:=(idx s 0).bind fun c=>(idx s 1).bind fun a=>chk (0<=(8:Int)) <|(idx s 2).bind fun e=>chk (0<=(16:Int)) <|(idx s 3).bind fun d=>chk (0<=(24:Int)) <|(idx s 4).bind fun f=>chk (0<=(32:Int)) <|(idx s 5).bind fun h=>chk (0<=(40:Int)) <|(idx s 6).bind fun b=>chk (0<=(48:Int)) <|(idx s 7).bind fun g=>chk (0<=(56:Int)) <|some (orK .u64 (orK .u64 (orK .u64 (orK .u64 (orK .u64 (orK .u64 (orK .u64 (IntKind.wrap .u64 ((c.toNat:Nat):Int)) (shlK .u64 (IntKind.wrap .u64 ((a.toNat:Nat):Int)) 8)) (shlK .u64 (IntKind.wrap .u64 ((e.toNat:Nat):Int)) 16)) (shlK .u64 (IntKind.wrap .u64 ((d.toNat:Nat):Int)) 24)) (shlK .u64 (IntKind.wrap .u64 ((f.toNat:Nat):Int)) 32)) (shlK .u64 (IntKind.wrap .u64 ((h.toNat:Nat):Int)) 40)) (shlK .u64 (IntKind.wrap .u64 ((b.toNat:Nat):Int)) 48)) (shlK .u64 (IntKind.wrap .u64 ((g.toNat:Nat):Int)) 56))
def Zww:Option Bool:=some true
def Zoy (a:ZMW) (s:Str) (b:Bool):Zry:=bif b then some (.ret false) else chk (Zcp 4 s.length s.length) <|a (s.drop ((4:Int)).toNat)
def Zo2 (b:ZMW) (s:Str) (a:Bool):Zry:=bif a then some (.ret false) else chk (Zcp 3 s.length s.length) <|b (s.drop ((3:Int)).toNat)
def ZpE (a:ZMW) (s:Str) (b:Bool):Zry:=bif b then some (.ret false) else chk (Zcp 2 s.length s.length) <|a (s.drop ((2:Int)).toNat)
def Zqx (a:ZMW) (s:Str):Zry:=a s
def Zwx (a:ZMW) (s:Str):Zry:=a s
def ZsI (a:ZMX) (s:Str) (b:Bool):Option Str:=bif b then chk (Zcp 32 s.length s.length) <|a (s.drop ((32:Int)).toNat) else some s
def Zu8 (a:ZMX) (s:Str):Option Str:=bif (s.length:Int)>32 then (ZoM s).bind fun q=>chk (Zcp 8 s.length s.length) <|(ZoM (s.drop ((8:Int)).toNat)).bind fun d=>chk (Zcp 16 s.length s.length) <|(ZoM (s.drop ((16:Int)).toNat)).bind fun b=>chk (Zcp 24 s.length s.length) <|(ZoM (s.drop ((24:Int)).toNat)).bind fun c=>ZsI a s ((andK .u64 (orK .u64 (orK .u64 q d) (orK .u64 b c)) 9259542123273814144)==0) else ZsI a s false
def ZpD:Nat->Str->Option Str|0,_=>none|a+1,b=>Zu8 (ZpD a) b
def Zqy (a:ZMW) (s:Str) (b:Bool):Zry:=bif b then chk (Zcp 16 s.length s.length) <|(ZpD big (s.drop ((16:Int)).toNat)).bind fun c=>Zwx a c else Zqx a s
def Zqz (a:ZMW) (s:Str) (c:Bool):Zry:=bif c then chk (Zcp 8 s.length s.length) <|bif (decide (((s.drop ((8:Int)).toNat).length:Int)>16))then (ZoM (s.drop ((8:Int)).toNat)).bind fun q=>chk (Zcp 8 ((s.drop ((8:Int)).toNat).length:Int) ((s.drop ((8:Int)).toNat).length:Int)) <|(ZoM ((s.drop ((8:Int)).toNat).drop ((8:Int)).toNat)).bind fun b=>Zqy a (s.drop ((8:Int)).toNat) ((andK .u64 (orK .u64 q b) 9259542123273814144)==0) else Zqy a (s.drop ((8:Int)).toNat) false else Zqx a s
def Zu9 (a:ZMW) (s:Str):Zry:=bif (s.length:Int)>0 then (idx s 0).bind fun c=>bif ((c.toNat:Nat):Int)<128 then chk (Zcp 1 s.length s.length) <|bif (decide (((s.drop ((1:Int)).toNat).length:Int)>8))then (ZoM (s.drop ((1:Int)).toNat)).bind fun q=>Zqz a (s.drop ((1:Int)).toNat) ((andK .u64 q 9259542123273814144)==0) else Zqz a (s.drop ((1:Int)).toNat) false else chk (inR ((c.toNat:Nat):Int) 256) <|(tabB (car:=ZAj) (.int .u8) ZEA ((((c.toNat:Nat):Int)).toNat*1)).bind fun b=>chk (0<=(4:Int)) <|chk (inR (shrK .u8 b 4) 16) <|(tabB (car:=ZAj) (.int .u8) Zu6 (((shrK .u8 b 4)).toNat*2)).bind fun e=>(tabB (car:=ZAj) (.int .u8) Zu6 (((shrK .u8 b 4)).toNat*2+1)).bind fun d=>bif (IntKind.wrap .i64 (andK .u8 b 7))==2 then bif (s.length:Int)<2 then ZpE a s true else (idx s 1).bind fun n=>bif ((n.toNat:Nat):Int)<e then ZpE a s true else (idx s 1).bind fun p=>ZpE a s (d<((p.toNat:Nat):Int)) else bif (IntKind.wrap .i64 (andK .u8 b 7))==3 then bif (s.length:Int)<3 then Zo2 a s true else (idx s 1).bind fun l=>bif ((l.toNat:Nat):Int)<e then Zo2 a s true else (idx s 1).bind fun o=>bif d<((o.toNat:Nat):Int) then Zo2 a s true else (idx s 2).bind fun r=>bif ((r.toNat:Nat):Int)<128 then Zo2 a s true else (idx s 2).bind fun m=>Zo2 a s ((191:Int)<((m.toNat:Nat):Int)) else bif (IntKind.wrap .i64 (andK .u8 b 7))==4 then bif (s.length:Int)<4 then Zoy a s true else (idx s 1).bind fun k=>bif ((k.toNat:Nat):Int)<e then Zoy a s true else (idx s 1).bind fun f=>bif d<((f.toNat:Nat):Int) then Zoy a s true else (idx s 2).bind fun h=>bif ((h.toNat:Nat):Int)<128 then Zoy a s true else (idx s 2).bind fun i=>bif (191:Int)<((i.toNat:Nat):Int) then Zoy a s true else (idx s 3).bind fun j=>bif ((j.toNat:Nat):Int)<128 then Zoy a s true else (idx s 3).bind fun g=>Zoy a s ((191:Int)<((g.toNat:Nat):Int)) else some (.ret false) else some (.brk ())
def Zlq:Nat->Str->Zry|0,_=>none|a+1,b=>Zu9 (Zlq a) b
def Zpz (s:Str):Option Bool:=(Zlq big s).bind fun| .ret a=>some a| .brk ()=>Zww
def ZIb (s:Str):Option Bool:=(Zpz s).bind fun q=>some q
def ZEf (a:Bool):Option Bool:=some a
def ZD6 (s:Str):Option Bool:=bif (s.length:Int)<=1024 then (ZIb s).bind fun q=>ZEf q else ZEf false
def ZAY (t:G_api_Table):Option Int:=bif (t.Columns.length:Int)==0 then some 0 else (idx t.Columns 0).bind fun Column=>some (Column.Cells.length:Int)
def Zw3 (a:Bool):Option Bool:=some a
def ZDd (c:G_api_Cell):Option Bool:=(ZD6 c.Text).bind fun q=>bif q then bif c.Null then Zw3 (!(!(c.Text==[]))) else Zw3 true else Zw3 false
def Zz7:Option Bool:=some true
def Zub (a:ZxL->Int->Int->Zry) (d:ZxL) (c b:Int):Zry:=bif b<c then (idx d b).bind fun e=>(ZDd e).bind fun q=>bif !q then some (.ret false) else chk (inK .i64 (b+1)) <|a d c (b+1) else some (.brk ())
def ZvS:Nat->ZxL->Int->Int->Zry|0,_,_,_=>none|a+1,b,c,d=>Zub (ZvS a) b c d
def ZyT (l:ZxL):Option Bool:=(ZvS big l l.length 0).bind fun| .ret a=>some a| .brk ()=>Zz7
def Zzt (a:Bool):Option Bool:=some a
def ZEg (c:G_api_Column) (d:G_api_Table):Option Bool:=(ZD6 c.Name).bind fun q=>bif !q then Zzt true else (ZAY d).bind fun b=>bif (c.Cells.length:Int)!=b then Zzt true else (ZyT c.Cells).bind fun a=>Zzt (!a)
def Zqu:Option Int:=some (-1)
def Zqd (a:Zna->G_api_Table->Int->Int->ZDE) (s:Zna) (f:G_api_Table) (c i:Int):ZDE:=bif i<c then (idx s i).bind fun b=>(ZEg b f).bind fun q=>bif q then some (.ret i) else chk (inK .i64 (i+1)) <|a s f c (i+1) else some (.brk ())
def Zpn:Nat->Zna->G_api_Table->Int->Int->ZDE|0,_,_,_,_=>none|a+1,b,c,d,e=>Zqd (Zpn a) b c d e
def Zq4 (s:Zna) (c:G_api_Table):Option Int:=(Zpn big s c s.length 0).bind fun| .ret a=>some a| .brk ()=>Zqu
def Zpo (s:Zna) (c:G_api_Table):Option Bool:=(Zq4 s c).bind fun q=>some (q>=0)
def ZwU (a:Bool) (t:G_api_Table):Option Bool:=bif a then some false else (Zpo t.Columns t).bind fun q=>some (!q)
def ZrL (t:G_api_Table):Option Bool:=bif t.ID<0 then ZwU true t else bif t.ID>1073741824 then ZwU true t else (ZD6 t.Name).bind fun q=>bif !q then ZwU true t else bif (t.Columns.length:Int)>64 then ZwU true t else (ZAY t).bind fun a=>ZwU (a>4096) t
def ZwV (c:G_api_Column):Option Zpi:=ZLa (chk (c.Cells.length<=1099511627776) <| some (ZxO ((c.Cells.filter fun x=> !x.Null).map fun x=>x.Text)))
def ZCp (a:Str):Option Bool:=some (!(a==a))
def Zw7 (a:Bool):Option Bool:=some a
def ZDj (a y:Str):Option Bool:=(ZCp a).bind fun q=>bif q then (ZCp y).bind fun b=>bif !b then Zw7 true else Zw7 (Op.bytesLess a y) else Zw7 (Op.bytesLess a y)
def Zzu (a:Str):Option Bool:=some (!(a==a))
def ZoX (a:Int) (b:Bool):ZNE:=some (a,b)
def ZrN (e:Zpi) (a:Str) (n i:Int):ZNE:=bif i<n then (idx e i).bind fun c=>bif c==a then ZoX i true else (idx e i).bind fun b=>(Zzu b).bind fun q=>bif q then (Zzu a).bind fun d=>ZoX i d else ZoX i false else ZoX i false
def Zq5 (b:Zpi->Str->Int->Int->Int->ZPf) (d:Zpi) (a:Str) (n i j:Int):ZPf:=bif i<j then chk (inK .i64 (i+j)) <|chk (0<=(1:Int)) <|(idx d (IntKind.wrap .i64 (shrK .u64 (IntKind.wrap .u64 (i+j)) 1))).bind fun c=>(ZDj c a).bind fun q=>bif q then chk (inK .i64 ((IntKind.wrap .i64 (shrK .u64 (IntKind.wrap .u64 (i+j)) 1))+1)) <|b d a n ((IntKind.wrap .i64 (shrK .u64 (IntKind.wrap .u64 (i+j)) 1))+1) j else b d a n i (IntKind.wrap .i64 (shrK .u64 (IntKind.wrap .u64 (i+j)) 1)) else some (d,a,n,i)
def ZpU:Nat->Zpi->Str->Int->Int->Int->ZPf|0,_,_,_,_,_=>none|a+1,b,c,d,e,f=>Zq5 (ZpU a) b c d e f
def Zvp (n:Nat) (s:(Zpi×Str×Int×Int×Int)):ZPf:=ZpU n s.1 s.2.1 s.2.2.1 s.2.2.2.1 s.2.2.2.2
def Zvq (b:(Zpi×Str×Int×Int×Int)->ZPf) (s:(Zpi×Str×Int×Int×Int)):ZPf:=Zq5 (fun c a n i j=>b (c,a,n,i,j)) s.1 s.2.1 s.2.2.1 s.2.2.2.1 s.2.2.2.2
theorem ZBU (n s):Zvp (n+1) s=Zvq (Zvp n) s:=rfl
def Zqv (b:Zpi) (a:Str):ZNE:=(ZpU big b a b.length 0 b.length).bind fun(c,d,f,e)=>ZrN c d f e
def ZBV (n:Int):Option Int:=some n
def ZyU (a:ZYf) (b:Zpi) (n:Int) (e:Zpi) (d c:Int):Option Int:=chk (inK .i64 (c+1)) <|a b n e d (c+1)
def Zwq (c:ZYf) (b:Zpi) (n:Int) (e:Zpi) (d a:Int):Option Int:=bif a<d then (idx e a).bind fun s=>(Zqv b s).bind fun(q,f)=>bif f then chk (inK .i64 (n+1)) <|ZyU c b (n+1) e d a else ZyU c b n e d a else some n
def Zu4:Nat->Zpi->Int->Zpi->Int->Int->Option Int|0,_,_,_,_,_=>none|a+1,b,c,d,e,f=>Zwq (Zu4 a) b c d e f
def ZD7 (n:Nat) (s:(Zpi×Int×Zpi×Int×Int)):Option Int:=Zu4 n s.1 s.2.1 s.2.2.1 s.2.2.2.1 s.2.2.2.2
def ZAH (a:(Zpi×Int×Zpi×Int×Int)->Option Int) (s:(Zpi×Int×Zpi×Int×Int)):Option Int:=Zwq (fun b n e c d=>a (b,n,e,c,d)) s.1 s.2.1 s.2.2.1 s.2.2.2.1 s.2.2.2.2
theorem ZG3 (n s):ZD7 (n+1) s=ZAH (ZD7 n) s:=rfl
def ZA3 (a b:Zpi):Option Int:=(Zu4 big b 0 a a.length 0).bind fun c=>ZBV c
def ZCX (a:Zcy):Option Zcy:=some a
def Zzx (b:ZQO) (a:Zcy) (c:Bool):Option Zcy:=bif c then chk (inK .i64 ((a.length:Int)-1)) <|chk (Zcp 0 ((a.length:Int)-1) a.length) <|b (a.take (((a.length:Int)-1)).toNat) else some a
def ZxD (a:ZQO) (b:Zcy):Option Zcy:=bif (b.length:Int)>0 then chk (inK .i64 ((b.length:Int)-1)) <|(idx b ((b.length:Int)-1)).bind fun c=>Zzx a b (c==0) else Zzx a b false
def Zql:Nat->Zcy->Option Zcy|0,_=>none|a+1,b=>ZxD (Zql a) b
def ZEm (n:Nat) (s:Zcy):Option Zcy:=Zql n s
def ZEn (a:ZQO) (s:Zcy):Option Zcy:=ZxD (fun b=>a b) s
theorem ZHg (n s):ZEm (n+1) s=ZEn (ZEm n) s:=rfl
def Zpl (a:Zcy):Option Zcy:=(Zql big a).bind fun b=>ZCX b
def Zwt (n:Int):Option Zcy:=chk (0<=(32:Int)) <|(Zpl ([(IntKind.wrap .u32 n),(IntKind.wrap .u32 (shrK .u64 n 32))]:Zcy)).bind fun q=>some q
def ZAp (b:Bool) (a:Zcy):Option Zgo:=some (Zgo.mk b a)
def Zpu (b:Bool) (a:Zcy):Option Zgo:=bif b then chk (ZjC a.length 4) <|ZAp ((a.length:Int)>0) a else chk (ZjC a.length 4) <|ZAp false a
def ZzA (n:Int):Option Zgo:=bif n<0 then (Zwt (IntKind.wrap .u64 (0-(IntKind.wrap .u64 n)))).bind fun q=>(Zpu true q).bind fun c=>some c else (Zwt (IntKind.wrap .u64 n)).bind fun a=>(Zpu false a).bind fun b=>some b
def ZpZ (a:Bool):Option Bool:=some a
def Zyz (a:Zgo):Option Bool:=bif (a.Words.length:Int)<=256 then bif (a.Words.length:Int)==0 then bif !a.Neg then ZpZ true else bif (a.Words.length:Int)>0 then chk (inK .i64 ((a.Words.length:Int)-1)) <|(idx a.Words ((a.Words.length:Int)-1)).bind fun Word=>ZpZ (Word != 0) else ZpZ false else bif (a.Words.length:Int)>0 then chk (inK .i64 ((a.Words.length:Int)-1)) <|(idx a.Words ((a.Words.length:Int)-1)).bind fun Word_1=>ZpZ (Word_1 != 0) else ZpZ false else ZpZ false
def ZGJ:Option Bool:=some true
def ZAq (b:(List Zgo)->Int->Int->Zry) (e:List Zgo) (d c:Int):Zry:=bif c<d then (idx e c).bind fun a=>(Zyz a).bind fun q=>bif !q then some (.ret false) else chk (inK .i64 (c+1)) <|b e d (c+1) else some (.brk ())
def ZCo:Nat->(List Zgo)->Int->Int->Zry|0,_,_,_=>none|a+1,b,c,d=>ZAq (ZCo a) b c d
def ZFQ (n:Nat) (s:((List Zgo)×Int×Int)):Zry:=ZCo n s.1 s.2.1 s.2.2
def ZDz (a:((List Zgo)×Int×Int)->Zry) (s:((List Zgo)×Int×Int)):Zry:=ZAq (fun d c b=>a (d,c,b)) s.1 s.2.1 s.2.2
theorem ZIe (n s):ZFQ (n+1) s=ZDz (ZFQ n) s:=rfl
def ZC1 (l:List Zgo):Option Bool:=(ZCo big l l.length 0).bind fun| .ret a=>some a| .brk ()=>ZGJ
def ZC4 (a:Int):Option Bool:=some (a != a)
def Zvn (c y:Int):Option Int:=(ZC4 c).bind fun b=>(ZC4 y).bind fun a=>bif b then bif a then some 0 else some (-1) else bif a then some 1 else bif c<y then some (-1) else bif c>y then some 1 else some 0
def ZEs (a:Int):Option Bool:=some (a != a)
def ZDB (c y:Int):Option Int:=(ZEs c).bind fun b=>(ZEs y).bind fun a=>bif b then bif a then some 0 else some (-1) else bif a then some 1 else bif c<y then some (-1) else bif c>y then some 1 else some 0
def Zyw:Option Int:=some 0
def Zs3 (a:Zcy->Zcy->Int->ZDE) (f e:Zcy) (i:Int):ZDE:=bif i>=0 then (idx f i).bind fun d=>(idx e i).bind fun b=>(ZDB d b).bind fun c=>bif c != 0 then some (.ret c) else chk (inK .i64 (i-1)) <|a f e (i-1) else some (.brk ())
def Zul:Nat->Zcy->Zcy->Int->ZDE|0,_,_,_=>none|a+1,b,c,d=>Zs3 (Zul a) b c d
def ZBC (n:Nat) (s:(Zcy×Zcy×Int)):ZDE:=Zul n s.1 s.2.1 s.2.2
def ZwX (a:(Zcy×Zcy×Int)->ZDE) (s:(Zcy×Zcy×Int)):ZDE:=Zs3 (fun c b i=>a (c,b,i)) s.1 s.2.1 s.2.2
theorem ZFo (n s):ZBC (n+1) s=ZwX (ZBC n) s:=rfl
def Zqe (a b:Zcy):Option Int:=(Zvn a.length b.length).bind fun c=>bif c != 0 then some c else chk (inK .i64 (a.length-1)) <|(Zul big a b (a.length-1)).bind fun| .ret d=>some d| .brk ()=>Zyw
def Zkb (s:Zcy) (a:Bool):Option Zcy:=bif a then some [] else chk (ZjC (([]:Zcy).length+s.length) 4) <|some (([]:Zcy)++s)
def Zqi (s:Zcy):Option Zcy:=bif List.isEmpty s then agree (Zkb s true) (Zkb s false)else Zkb s false
def Zw5 (b c y:Int) (a:Bool):ZL3:=bif a then none else chk (0<=(32:Int)) <|chk ((IntKind.wrap .u64 y)≠0) <|chk ((IntKind.wrap .u64 y)≠0) <|some ((IntKind.wrap .u32 (IntKind.wrap .u64 (Int.tdiv (orK .u64 (shlK .u64 (IntKind.wrap .u64 b) 32) (IntKind.wrap .u64 c)) (IntKind.wrap .u64 y)))),(IntKind.wrap .u32 (Int.tmod (orK .u64 (shlK .u64 (IntKind.wrap .u64 b) 32) (IntKind.wrap .u64 c)) (IntKind.wrap .u64 y))))
def ZDh (a b y:Int):ZL3:=bif y != 0 then Zw5 a b y (y<=a) else Zw5 a b y false
def ZAb (rest:Int) (a:Zcy):ZMQ:=(Zpl a).bind fun q=>some (q,rest)
def Zui (c:Zcy->Int->Int->Int->Zcy->ZDn) (f:Zcy) (d rest i:Int) (b:Zcy):ZDn:=bif i>=0 then (idx f i).bind fun e=>(ZDh rest e d).bind fun(q,a)=>chk (inR i b.length) <|chk (inK .i64 (i-1)) <|c f d a (i-1) (b.set ((i).toNat) q) else some (rest,b)
def ZvW:Nat->Zcy->Int->Int->Int->Zcy->ZDn|0,_,_,_,_,_=>none|a+1,b,c,d,e,f=>Zui (ZvW a) b c d e f
def ZCU (n:Nat) (s:(Zcy×Int×Int×Int×Zcy)):ZDn:=ZvW n s.1 s.2.1 s.2.2.1 s.2.2.2.1 s.2.2.2.2
def Zyt (a:(Zcy×Int×Int×Int×Zcy)->ZDn) (s:(Zcy×Int×Int×Int×Zcy)):ZDn:=Zui (fun c d rest i b=>a (c,d,rest,i,b)) s.1 s.2.1 s.2.2.1 s.2.2.2.1 s.2.2.2.2
theorem ZGh (n s):ZCU (n+1) s=Zyt (ZCU n) s:=rfl
def ZyV (a:Zcy) (d:Int):ZMQ:=chk (mkOk a.length a.length 4) <|chk (inK .i64 ((a.length:Int)-1)) <|(ZvW big a d 0 ((a.length:Int)-1) (List.replicate ((a.length:Int)).toNat (0:Int))).bind fun(c,b)=>ZAb c b
def Zuq (a n:Int):Option Int:=(idx ([0,1,2,2,3,3,3,3,4,4,4,4,4,4,4,4,5,5,5,5,5,5,5,5,5,5,5,5,5,5,5,5,6,6,6,6,6,6,6,6,6,6,6,6,6,6,6,6,6,6,6,6,6,6,6,6,6,6,6,6,6,6,6,6,7,7,7,7,7,7,7,7,7,7,7,7,7,7,7,7,7,7,7,7,7,7,7,7,7,7,7,7,7,7,7,7,7,7,7,7,7,7,7,7,7,7,7,7,7,7,7,7,7,7,7,7,7,7,7,7,7,7,7,7,7,7,7,7,8,8,8,8,8,8,8,8,8,8,8,8,8,8,8,8,8,8,8,8,8,8,8,8,8,8,8,8,8,8,8,8,8,8,8,8,8,8,8,8,8,8,8,8,8,8,8,8,8,8,8,8,8,8,8,8,8,8,8,8,8,8,8,8,8,8,8,8,8,8,8,8,8,8,8,8,8,8,8,8,8,8,8,8,8,8,8,8,8,8,8,8,8,8,8,8,8,8,8,8,8,8,8,8,8,8,8,8,8,8,8,8,8,8,8,8,8,8,8,8,8,8,8,8,8,8,8,8]:Str) (IntKind.wrap .u8 a)).bind fun c=>chk (inK .i64 (n+(IntKind.wrap .i64 ((c.toNat:Nat):Int)))) <|some (n+(IntKind.wrap .i64 ((c.toNat:Nat):Int)))
def ZAn (a n:Int):Option Int:=bif a>=256 then chk (0<=(8:Int)) <|chk (inK .i64 (n+8)) <|Zuq (shrK .u32 a 8) (n+8) else Zuq a n
def ZDg (a:Int):Option Int:=bif a>=65536 then chk (0<=(16:Int)) <|ZAn (shrK .u32 a 16) 16 else ZAn a 0
def ZuJ (a:Int):Option Int:=(ZDg a).bind fun q=>chk (inK .i64 (32-q)) <|some (32-q)
def Zyu (a:Zcy):Option Zcy:=some a
def Zs2 (e:Int->Zcy->Int->Int->Zcy->Option Zcy) (n:Int) (f:Zcy) (c i:Int) (a:Zcy):Option Zcy:=bif i<c then (idx f i).bind fun d=>chk (0<=n) <|chk (inR i a.length) <|(a[(i).toNat]?).bind fun b=>chk (inR i a.length) <|chk (inK .i64 (i+1)) <|chk (0<=(32:Int)) <|chk (inR (i+1) ((a.set ((i).toNat) (orK .u32 b (IntKind.wrap .u32 (shlK .u64 (IntKind.wrap .u64 d) n)))).length:Int)) <|chk (inK .i64 (i+1)) <|e n f c (i+1) ((a.set ((i).toNat) (orK .u32 b (IntKind.wrap .u32 (shlK .u64 (IntKind.wrap .u64 d) n)))).set (((i+1)).toNat) (IntKind.wrap .u32 (shrK .u64 (shlK .u64 (IntKind.wrap .u64 d) n) 32))) else some a
def Zuj:Nat->Int->Zcy->Int->Int->Zcy->Option Zcy|0,_,_,_,_,_=>none|a+1,b,c,d,e,f=>Zs2 (Zuj a) b c d e f
def ZBB (n:Nat) (s:(Int×Zcy×Int×Int×Zcy)):Option Zcy:=Zuj n s.1 s.2.1 s.2.2.1 s.2.2.2.1 s.2.2.2.2
def ZwW (a:(Int×Zcy×Int×Int×Zcy)->Option Zcy) (s:(Int×Zcy×Int×Int×Zcy)):Option Zcy:=Zs2 (fun n c b i d=>a (n,c,b,i,d)) s.1 s.2.1 s.2.2.1 s.2.2.2.1 s.2.2.2.2
theorem ZFn (n s):ZBB (n+1) s=ZwW (ZBB n) s:=rfl
def Zra (a:Zcy) (n:Int):Option Zcy:=chk (inK .i64 ((a.length:Int)+1)) <|chk (mkOk ((a.length:Int)+1) ((a.length:Int)+1) 4) <|(Zuj big n a a.length 0 (List.replicate (((a.length:Int)+1)).toNat (0:Int))).bind fun b=>Zyu b
def ZxQ (b y a:Int):ZL3:=chk (0<=(31:Int)) <|some ((IntKind.wrap .u32 ((IntKind.wrap .u32 (b-y))-a)),(shrK .u32 (orK .u32 (andK .u32 (xorK .u32 (if IntKind.signed .u32 then -1 else IntKind.max .u32) b) y) (andK .u32 (xorK .u32 (if IntKind.signed .u32 then -1 else IntKind.max .u32) (xorK .u32 b y)) (IntKind.wrap .u32 ((IntKind.wrap .u32 (b-y))-a)))) 31))
def ZAI (b y a:Int):ZL3:=chk (0<=(32:Int)) <|some ((IntKind.wrap .u32 (IntKind.wrap .u64 ((IntKind.wrap .u64 ((IntKind.wrap .u64 b)+(IntKind.wrap .u64 y)))+(IntKind.wrap .u64 a)))),(IntKind.wrap .u32 (shrK .u64 (IntKind.wrap .u64 ((IntKind.wrap .u64 ((IntKind.wrap .u64 b)+(IntKind.wrap .u64 y)))+(IntKind.wrap .u64 a))) 32)))
def ZA9 (a b:Nat) (n c d:Int) (u:Zcy):ZDn:=chk (inR n (b:Int)) <|(u[(a+(n).toNat)]?).bind fun e=>chk (inR n (b:Int)) <|some ((IntKind.wrap .u32 (IntKind.wrap .u64 (c-1))),(u.set (a+(n).toNat) (IntKind.wrap .u32 (e+d))))
def Zzy (g:Nat->Nat->Int->Int->Int->Zcy->Int->Int->Zcy->ZPl) (a b:Nat) (n c h:Int) (e:Zcy) (d i:Int) (u:Zcy):ZPl:=bif i<d then (idx e i).bind fun k=>chk (inR i (b:Int)) <|(u[(a+(i).toNat)]?).bind fun j=>(ZAI j k h).bind fun(q,f)=>chk (inR i (b:Int)) <|chk (inK .i64 (i+1)) <|g a b n c f e d (i+1) (u.set (a+(i).toNat) q) else some (a,b,n,c,h,u)
def Zyx:Nat->Nat->Nat->Int->Int->Int->Zcy->Int->Int->Zcy->ZPl|0,_,_,_,_,_,_,_,_,_=>none|a+1,b,c,d,e,f,g,h,i,j=>Zzy (Zyx a) b c d e f g h i j
def ZFp (n:Nat) (s:(Nat×Nat×Int×Int×Int×Zcy×Int×Int×Zcy)):ZPl:=Zyx n s.1 s.2.1 s.2.2.1 s.2.2.2.1 s.2.2.2.2.1 s.2.2.2.2.2.1 s.2.2.2.2.2.2.1 s.2.2.2.2.2.2.2.1 s.2.2.2.2.2.2.2.2
def ZCY (d:(Nat×Nat×Int×Int×Int×Zcy×Int×Int×Zcy)->ZPl) (s:(Nat×Nat×Int×Int×Int×Zcy×Int×Int×Zcy)):ZPl:=Zzy (fun b c n a g f e i u=>d (b,c,n,a,g,f,e,i,u)) s.1 s.2.1 s.2.2.1 s.2.2.2.1 s.2.2.2.2.1 s.2.2.2.2.2.1 s.2.2.2.2.2.2.1 s.2.2.2.2.2.2.2.1 s.2.2.2.2.2.2.2.2
theorem ZHY (n s):ZFp (n+1) s=ZCY (ZFp n) s:=rfl
def ZDV (a b:Nat) (d:Zcy) (n e f g:Int) (u:Zcy):ZDn:=chk (inR n (b:Int)) <|(u[(a+(n).toNat)]?).bind fun h=>(ZxQ h (IntKind.wrap .u32 g) f).bind fun(q,c)=>chk (inR n (b:Int)) <|bif c==0 then some ((IntKind.wrap .u32 e),(u.set (a+(n).toNat) q)) else (Zyx big a b n e 0 d d.length 0 (u.set (a+(n).toNat) q)).bind fun(j,k,i,m,l,o)=>ZA9 j k i m l o
def Zzz (j:Nat->Nat->Zcy->Int->Int->Int->Int->Zcy->Int->Int->Zcy->ZPp) (b c:Nat) (d:Zcy) (n a f e:Int) (h:Zcy) (k i:Int) (u:Zcy):ZPp:=bif i<k then (idx h i).bind fun m=>chk (inR i (c:Int)) <|(u[(b+(i).toNat)]?).bind fun l=>(ZxQ l (IntKind.wrap .u32 (IntKind.wrap .u64 (e+(IntKind.wrap .u64 (a*(IntKind.wrap .u64 m)))))) f).bind fun(q,g)=>chk (inR i (c:Int)) <|chk (0<=(32:Int)) <|chk (inK .i64 (i+1)) <|j b c d n a g (shrK .u64 (IntKind.wrap .u64 (e+(IntKind.wrap .u64 (a*(IntKind.wrap .u64 m))))) 32) h k (i+1) (u.set (b+(i).toNat) q) else some (b,c,d,n,a,f,e,u)
def ZA8:Nat->Nat->Nat->Zcy->Int->Int->Int->Int->Zcy->Int->Int->Zcy->ZPp|0,_,_,_,_,_,_,_,_,_,_,_=>none|a+1,b,c,d,e,f,g,h,i,j,k,l=>Zzz (ZA8 a) b c d e f g h i j k l
def ZFq (n:Nat) (s:(Nat×Nat×Zcy×Int×Int×Int×Int×Zcy×Int×Int×Zcy)):ZPp:=ZA8 n s.1 s.2.1 s.2.2.1 s.2.2.2.1 s.2.2.2.2.1 s.2.2.2.2.2.1 s.2.2.2.2.2.2.1 s.2.2.2.2.2.2.2.1 s.2.2.2.2.2.2.2.2.1 s.2.2.2.2.2.2.2.2.2.1 s.2.2.2.2.2.2.2.2.2.2
def ZCZ (g:(Nat×Nat×Zcy×Int×Int×Int×Int×Zcy×Int×Int×Zcy)->ZPp) (s:(Nat×Nat×Zcy×Int×Int×Int×Int×Zcy×Int×Int×Zcy)):ZPp:=Zzz (fun e f d n c a b h j i u=>g (e,f,d,n,c,a,b,h,j,i,u)) s.1 s.2.1 s.2.2.1 s.2.2.2.1 s.2.2.2.2.1 s.2.2.2.2.2.1 s.2.2.2.2.2.2.1 s.2.2.2.2.2.2.2.1 s.2.2.2.2.2.2.2.2.1 s.2.2.2.2.2.2.2.2.2.1 s.2.2.2.2.2.2.2.2.2.2
theorem ZHZ (n s):ZFq (n+1) s=ZCZ (ZFq n) s:=rfl
def ZBa (b c:Nat) (d:Zcy) (n a:Int) (u:Zcy):ZDn:=(ZA8 big b c d n a 0 0 d d.length 0 u).bind fun(e,h,l,j,i,k,f,g)=>ZDV e h l j i k f g
def Zyy (e:ZYj) (b c:Nat) (d:Zcy) (n a rest:Int) (f:Bool) (u:Zcy):ZNK:=bif f then chk (inK .i64 (n-1)) <|(idx d (n-1)).bind fun g=>e b c d n (IntKind.wrap .u64 (a-1)) (IntKind.wrap .u64 (rest+(IntKind.wrap .u64 g))) u else some (b,c,d,n,a,u)
def ZC0 (e:ZYj) (b c:Nat) (d:Zcy) (n a rest:Int) (u:Zcy):ZNK:=bif rest<4294967296 then chk (inK .i64 (n-2)) <|(idx d (n-2)).bind fun g=>chk (0<=(32:Int)) <|chk (inK .i64 (n-2)) <|chk (inR (n-2) (c:Int)) <|(u[(b+((n-2)).toNat)]?).bind fun f=>Zyy e b c d n a rest (decide ((IntKind.wrap .u64 (a*(IntKind.wrap .u64 g)))>(orK .u64 (shlK .u64 rest 32) (IntKind.wrap .u64 f)))) u else Zyy e b c d n a rest false u
def Zvl:Nat->Nat->Nat->Zcy->Int->Int->Int->Zcy->ZNK|0,_,_,_,_,_,_,_=>none|a+1,b,c,d,e,f,g,h=>ZC0 (Zvl a) b c d e f g h
def ZFr (n:Nat) (s:(Nat×Nat×Zcy×Int×Int×Int×Zcy)):ZNK:=Zvl n s.1 s.2.1 s.2.2.1 s.2.2.2.1 s.2.2.2.2.1 s.2.2.2.2.2.1 s.2.2.2.2.2.2
def ZFs (e:(Nat×Nat×Zcy×Int×Int×Int×Zcy)->ZNK) (s:(Nat×Nat×Zcy×Int×Int×Int×Zcy)):ZNK:=ZC0 (fun b c d n a rest u=>e (b,c,d,n,a,rest,u)) s.1 s.2.1 s.2.2.1 s.2.2.2.1 s.2.2.2.2.1 s.2.2.2.2.2.1 s.2.2.2.2.2.2
theorem ZH0 (n s):ZFr (n+1) s=ZFs (ZFr n) s:=rfl
def ZDS (u:Zcy) (b c:Nat) (d:Zcy):ZDn:=chk (inR d.length (c:Int)) <|(u[(b+((d.length:Int)).toNat)]?).bind fun e=>chk (0<=(32:Int)) <|chk (inK .i64 ((d.length:Int)-1)) <|chk (inR ((d.length:Int)-1) (c:Int)) <|(u[(b+(((d.length:Int)-1)).toNat)]?).bind fun a=>chk (inK .i64 ((d.length:Int)-1)) <|(idx d ((d.length:Int)-1)).bind fun f=>chk ((IntKind.wrap .u64 f)≠0) <|chk (inK .i64 ((d.length:Int)-1)) <|(idx d ((d.length:Int)-1)).bind fun g=>(Zvl big b c d d.length (if (4294967295:Int)<(IntKind.wrap .u64 (Int.tdiv (orK .u64 (shlK .u64 (IntKind.wrap .u64 e) 32) (IntKind.wrap .u64 a)) (IntKind.wrap .u64 f)))then (4294967295:Int)else IntKind.wrap .u64 (Int.tdiv (orK .u64 (shlK .u64 (IntKind.wrap .u64 e) 32) (IntKind.wrap .u64 a)) (IntKind.wrap .u64 f))) (IntKind.wrap .u64 ((orK .u64 (shlK .u64 (IntKind.wrap .u64 e) 32) (IntKind.wrap .u64 a))-(IntKind.wrap .u64 ((if (4294967295:Int)<(IntKind.wrap .u64 (Int.tdiv (orK .u64 (shlK .u64 (IntKind.wrap .u64 e) 32) (IntKind.wrap .u64 a)) (IntKind.wrap .u64 f)))then (4294967295:Int)else IntKind.wrap .u64 (Int.tdiv (orK .u64 (shlK .u64 (IntKind.wrap .u64 e) 32) (IntKind.wrap .u64 a)) (IntKind.wrap .u64 f)))*(IntKind.wrap .u64 g))))) u).bind fun(h,i,m,k,j,l)=>ZBa h i m k j l
def ZCn (u:Zcy) (a b:Nat) (d:Zcy):ZDn:=(ZDS u a b d).bind fun r=>chk (decide (r.2.length=u.length)&&true) (some r)
def ZA7 (a b:Nat) (c:Zcy):ZKW:=some (a,b,c)
def ZxE (c:Nat->Nat->Zcy->ZKW) (b a:Nat) (d:Bool) (e:Zcy):ZKW:=bif d then chk (inK .i64 (((a:Nat):Int)-1)) <|chk (Zcp 0 (((a:Nat):Int)-1) (a:Int)) <|c (b+0) (((((a:Nat):Int)-1)).toNat-0) e else some (b,a,e)
def ZAd (c:Nat->Nat->Zcy->ZKW) (b a:Nat) (e:Zcy):ZKW:=bif ((a:Nat):Int)>0 then chk (inK .i64 (((a:Nat):Int)-1)) <|chk (inR (((a:Nat):Int)-1) (a:Int)) <|(e[(b+((((a:Nat):Int)-1)).toNat)]?).bind fun d=>ZxE c b a (d==0) e else ZxE c b a false e
def Zun:Nat->Nat->Nat->Zcy->ZKW|0,_,_,_=>none|a+1,b,c,d=>ZAd (Zun a) b c d
def ZDM (n:Nat) (s:(Nat×Nat×Zcy)):ZKW:=Zun n s.1 s.2.1 s.2.2
def ZDN (c:(Nat×Nat×Zcy)->ZKW) (s:(Nat×Nat×Zcy)):ZKW:=ZAd (fun a b d=>c (a,b,d)) s.1 s.2.1 s.2.2
theorem ZGG (n s):ZDM (n+1) s=ZDN (ZDM n) s:=rfl
def ZAo (e:Zcy) (a b:Nat):ZKW:=(Zun big a b e).bind fun(c,d,f)=>ZA7 c d f
def ZyW (c:Zcy) (a b:Nat):ZKW:=(ZAo c a b).bind fun r=>chk (decide (r.2.2.length=c.length)&&true) (some r)
def Zvj (b:Zcy) (i:Int):Option Int:=bif i<b.length then (idx b i).bind fun a=>some a else some 0
def ZCW (d:Zcy) (b a:Nat) (i:Int):ZDn:=bif i<((a:Nat):Int) then chk (inR i (a:Int)) <|(d[(b+(i).toNat)]?).bind fun c=>some (c,d) else some (0,d)
def ZxC (c:Zcy) (a b:Nat) (i:Int):ZDn:=(ZCW c a b i).bind fun r=>chk (decide (r.2.length=c.length)&&true) (some r)
def ZAL (b a:Nat) (q rest:Zcy):ZKa:=(Zpl q).bind fun d=>(Zpl ((rest.drop b).take a)).bind fun c=>some (d,c)
def ZuL (g:Int->Nat->Nat->Int->Int->Zcy->Zcy->ZPh) (c:Int) (a b:Nat) (f i:Int) (q rest:Zcy):ZPh:=bif i<f then chk (inK .i64 (i+1)) <|(ZxC rest a b (i+1)).bind fun(h,e)=>chk (0<=(32:Int)) <|chk (inR i (b:Int)) <|(e[(a+(i).toNat)]?).bind fun d=>chk (0<=c) <|chk (inR i (b:Int)) <|chk (inK .i64 (i+1)) <|g c a b f (i+1) q (e.set (a+(i).toNat) (IntKind.wrap .u32 (shrK .u64 (orK .u64 (shlK .u64 (IntKind.wrap .u64 h) 32) (IntKind.wrap .u64 d)) c))) else some (a,b,q,rest)
def Ztc:Nat->Int->Nat->Nat->Int->Int->Zcy->Zcy->ZPh|0,_,_,_,_,_,_,_=>none|a+1,b,c,d,e,f,g,h=>ZuL (Ztc a) b c d e f g h
def ZDt (n:Nat) (s:(Int×Nat×Nat×Int×Int×Zcy×Zcy)):ZPh:=Ztc n s.1 s.2.1 s.2.2.1 s.2.2.2.1 s.2.2.2.2.1 s.2.2.2.2.2.1 s.2.2.2.2.2.2
def Zzk (d:(Int×Nat×Nat×Int×Int×Zcy×Zcy)->ZPh) (s:(Int×Nat×Nat×Int×Int×Zcy×Zcy)):ZPh:=ZuL (fun c a b e i q rest=>d (c,a,b,e,i,q,rest)) s.1 s.2.1 s.2.2.1 s.2.2.2.1 s.2.2.2.2.1 s.2.2.2.2.2.1 s.2.2.2.2.2.2
theorem ZGu (n s):ZDt (n+1) s=Zzk (ZDt n) s:=rfl
def ZAM (n c:Int) (u q:Zcy):ZKa:=chk (Zcp 0 n u.length) <|(ZyW u 0 ((n).toNat-0)).bind fun(b,a,d)=>(Ztc big c b a ((a:Nat):Int) 0 q d).bind fun(e,f,h,g)=>ZAL e f h g
def ZuM (b:Int->Int->Zcy->Int->Zcy->Zcy->ZPg) (n a:Int) (d:Zcy) (j:Int) (u q:Zcy):ZPg:=bif j>=0 then chk (inK .i64 (j+n)) <|chk (inK .i64 ((j+n)+1)) <|chk (Zcp j ((j+n)+1) u.length) <|(ZCn u ((j).toNat) ((((j+n)+1)).toNat-(j).toNat) d).bind fun(e,c)=>chk (inR j q.length) <|chk (inK .i64 (j-1)) <|b n a d (j-1) c (q.set ((j).toNat) e) else some (n,a,u,q)
def Ztd:Nat->Int->Int->Zcy->Int->Zcy->Zcy->ZPg|0,_,_,_,_,_,_=>none|a+1,b,c,d,e,f,g=>ZuM (Ztd a) b c d e f g
def ZDu (n:Nat) (s:(Int×Int×Zcy×Int×Zcy×Zcy)):ZPg:=Ztd n s.1 s.2.1 s.2.2.1 s.2.2.2.1 s.2.2.2.2.1 s.2.2.2.2.2
def Zzl (b:(Int×Int×Zcy×Int×Zcy×Zcy)->ZPg) (s:(Int×Int×Zcy×Int×Zcy×Zcy)):ZPg:=ZuM (fun n a d j u q=>b (n,a,d,j,u,q)) s.1 s.2.1 s.2.2.1 s.2.2.2.1 s.2.2.2.2.1 s.2.2.2.2.2
theorem ZGv (n s):ZDu (n+1) s=Zzl (ZDu n) s:=rfl
def Zrs (c a:Zcy):ZKa:=(Zqe c a).bind fun q=>bif q<0 then (Zqi c).bind fun i=>some (([]:Zcy),i) else bif (a.length:Int)==1 then (idx a 0).bind fun f=>(ZyV c f).bind fun(h,l)=>(Zpl ([l]:Zcy)).bind fun g=>some (h,g) else chk (inK .i64 ((a.length:Int)-1)) <|(idx a ((a.length:Int)-1)).bind fun d=>(ZuJ d).bind fun b=>(Zra c b).bind fun u=>(Zra a b).bind fun e=>chk (Zcp 0 a.length e.length) <|chk (inK .i64 ((c.length:Int)-(a.length:Int))) <|chk (inK .i64 (((c.length:Int)-(a.length:Int))+1)) <|chk (mkOk (((c.length:Int)-(a.length:Int))+1) (((c.length:Int)-(a.length:Int))+1) 4) <|chk (inK .i64 (((List.replicate ((((c.length:Int)-(a.length:Int))+1)).toNat (0:Int)).length:Int)-1)) <|(Ztd big a.length b ((e.drop 0).take (((a.length:Int)).toNat-0)) (((List.replicate ((((c.length:Int)-(a.length:Int))+1)).toNat (0:Int)).length:Int)-1) u (List.replicate ((((c.length:Int)-(a.length:Int))+1)).toNat (0:Int))).bind fun(j,k,n,m)=>ZAM j k n m
def Zzm (a:Zcy):Option Zcy:=some a
def Zq3 (a:Zcy->Zcy->Option Zcy) (c b:Zcy):Option Zcy:=bif (b.length:Int)>0 then (Zrs c b).bind fun(q,d)=>a b d else some c
def ZpC:Nat->Zcy->Zcy->Option Zcy|0,_,_=>none|a+1,b,c=>Zq3 (ZpC a) b c
def Zum (b a:Zcy):Option Zcy:=(ZpC big b a).bind fun c=>Zzm c
def Zse (b a:Zgo):Option ZbF:=(Zum b.Words a.Words).bind fun g=>(Zrs b.Words g).bind fun(e,q)=>(Zrs a.Words g).bind fun(y,f)=>(Zpu (!(b.Neg==a.Neg)) e).bind fun d=>(Zpu false y).bind fun c=>some (ZbF.mk d c)
def ZEp (b a:Zgo):ZHz:=(ZC1 ([b,a]:List Zgo)).bind fun q=>bif !q then some ((ZbF.mk (Zgo.mk false []) (Zgo.mk false [])),1) else bif (a.Words.length:Int)==0 then some ((ZbF.mk (Zgo.mk false []) (Zgo.mk false [])),8) else (Zse b a).bind fun c=>some (c,0)
def ZEo (d c:Int):ZHz:=(ZzA d).bind fun q=>(ZzA c).bind fun e=>(ZEp q e).bind fun(b,a)=>some (b,a)
def ZBF:Option ZbF:=(ZEo 0 1).bind fun(f,q)=>some f
def ZEl (a b:Int):Option ZbF:=(ZEo a b).bind fun(f,e)=>bif e != 0 then ZBF.bind fun q=>some q else some f
def Zzv (a b:Zpi):Option ZbF:=(ZA3 a b).bind fun n=>chk (inK .i64 (a.length+b.length)) <|chk (inK .i64 ((a.length+b.length)-n)) <|(ZEl n (if 1>((a.length+b.length)-n)then 1 else (a.length+b.length)-n)).bind fun q=>some q
def ZA4 (a b:G_api_Column):Option ZbF:=(ZwV a).bind fun q=>(ZwV b).bind fun d=>(Zzv q d).bind fun c=>some c
def Zue (a:Str):Option Zpi:=ZLa (chk (a.length<=1099511627776) <| some (ZxO (ZGS (a++[32]) [])))
def ZCm (a b:Str):Option ZbF:=(Zue a).bind fun q=>(Zue b).bind fun d=>(Zzv q d).bind fun c=>some c
def Zvm (a:Bool):Option Bool:=some a
def Zrx (f:ZbF):Option Bool:=(ZC1 ([f.Num,f.Den]:List Zgo)).bind fun q=>bif q then bif (f.Den.Words.length:Int)>0 then bif !f.Den.Neg then (Zum f.Num.Words f.Den.Words).bind fun b=>(Zqe b ([1]:List Int)).bind fun a=>Zvm (a==0) else Zvm false else Zvm false else Zvm false
def Zz9 (a:Zcy):Option Zcy:=(Zpl a).bind fun q=>some q
def ZAa (c:ZSp) (e:Zcy) (i a:Int) (g:Zcy) (f b:Int) (d:Zcy):Option Zcy:=chk (inK .i64 (i+e.length)) <|chk (inR (i+e.length) d.length) <|chk (inK .i64 (b+1)) <|c e g f (b+1) (d.set (((i+e.length)).toNat) (IntKind.wrap .u32 a))
def Zug (e:Zcy->Int->Int->Int->Zcy->Int->Int->Zcy->Int->Int->Zcy->ZPn) (m:Zcy) (i l a:Int) (g:Zcy) (f d:Int) (k:Zcy) (h j:Int) (c:Zcy):ZPn:=bif j<h then (idx k j).bind fun y=>chk (inK .i64 (i+j)) <|chk (inR (i+j) c.length) <|(c[((i+j)).toNat]?).bind fun b=>chk (inK .i64 (i+j)) <|chk (inR (i+j) c.length) <|chk (0<=(32:Int)) <|chk (inK .i64 (j+1)) <|e m i l (shrK .u64 (IntKind.wrap .u64 (a+(IntKind.wrap .u64 ((IntKind.wrap .u64 ((IntKind.wrap .u64 l)*(IntKind.wrap .u64 y)))+(IntKind.wrap .u64 b))))) 32) g f d k h (j+1) (c.set (((i+j)).toNat) (IntKind.wrap .u32 (IntKind.wrap .u64 (a+(IntKind.wrap .u64 ((IntKind.wrap .u64 ((IntKind.wrap .u64 l)*(IntKind.wrap .u64 y)))+(IntKind.wrap .u64 b))))))) else some (m,i,a,g,f,d,c)
def ZvV:Nat->Zcy->Int->Int->Int->Zcy->Int->Int->Zcy->Int->Int->Zcy->ZPn|0,_,_,_,_,_,_,_,_,_,_,_=>none|a+1,b,c,d,e,f,g,h,i,j,k,l=>Zug (ZvV a) b c d e f g h i j k l
def ZCS (n:Nat) (s:(Zcy×Int×Int×Int×Zcy×Int×Int×Zcy×Int×Int×Zcy)):ZPn:=ZvV n s.1 s.2.1 s.2.2.1 s.2.2.2.1 s.2.2.2.2.1 s.2.2.2.2.2.1 s.2.2.2.2.2.2.1 s.2.2.2.2.2.2.2.1 s.2.2.2.2.2.2.2.2.1 s.2.2.2.2.2.2.2.2.2.1 s.2.2.2.2.2.2.2.2.2.2
def Zyr (b:(Zcy×Int×Int×Int×Zcy×Int×Int×Zcy×Int×Int×Zcy)->ZPn) (s:(Zcy×Int×Int×Int×Zcy×Int×Int×Zcy×Int×Int×Zcy)):ZPn:=Zug (fun l i k a e d c g f j h=>b (l,i,k,a,e,d,c,g,f,j,h)) s.1 s.2.1 s.2.2.1 s.2.2.2.1 s.2.2.2.2.1 s.2.2.2.2.2.1 s.2.2.2.2.2.2.1 s.2.2.2.2.2.2.2.1 s.2.2.2.2.2.2.2.2.1 s.2.2.2.2.2.2.2.2.2.1 s.2.2.2.2.2.2.2.2.2.2
theorem ZGf (n s):ZCS (n+1) s=Zyr (ZCS n) s:=rfl
def Zuh (a:ZSp) (e c:Zcy) (b i:Int) (d:Zcy):Option Zcy:=bif i<b then (idx c i).bind fun f=>(ZvV big e i f 0 c b i e e.length 0 d).bind fun(g,j,n,l,k,m,h)=>ZAa a g j n l k m h else some d
def ZsH:Nat->Zcy->Zcy->Int->Int->Zcy->Option Zcy|0,_,_,_,_,_=>none|a+1,b,c,d,e,f=>Zuh (ZsH a) b c d e f
def ZCT (n:Nat) (s:(Zcy×Zcy×Int×Int×Zcy)):Option Zcy:=ZsH n s.1 s.2.1 s.2.2.1 s.2.2.2.1 s.2.2.2.2
def Zys (a:ZYh) (s:(Zcy×Zcy×Int×Int×Zcy)):Option Zcy:=Zuh (fun e c b i d=>a (e,c,b,i,d)) s.1 s.2.1 s.2.2.1 s.2.2.2.1 s.2.2.2.2
theorem ZGg (n s):ZCT (n+1) s=Zys (ZCT n) s:=rfl
def Zsg (a b:Zcy):Option Zcy:=chk (inK .i64 ((a.length:Int)+(b.length:Int))) <|chk (mkOk ((a.length:Int)+(b.length:Int)) ((a.length:Int)+(b.length:Int)) 4) <|(ZsH big b a a.length 0 (List.replicate (((a.length:Int)+(b.length:Int))).toNat (0:Int))).bind fun c=>Zz9 c
def ZoK (a b:Zgo):Option Zgo:=(Zsg a.Words b.Words).bind fun q=>(Zpu (!(a.Neg==b.Neg)) q).bind fun c=>some c
def ZyX (a:Zgo):Option Zgo:=some a
def Zvk (a:Zgo):Option Zgo:=bif !a.Neg then ZyX (Zgo.mk ((a.Words.length:Int)>0) a.Words) else ZyX (Zgo.mk false a.Words)
def ZAK (a:Int) (b:Zcy):Option Zcy:=chk (ZjC (b.length+[a].length) 4) <|(Zpl (b++[a])).bind fun q=>some q
def ZuK (e:Zcy->Zcy->Int->Int->Int->Zcy->ZDn) (j h:Zcy) (a f i:Int) (c:Zcy):ZDn:=bif i<f then (Zvj j i).bind fun q=>(Zvj h i).bind fun g=>(ZAI q g a).bind fun(d,b)=>chk (ZjC (c.length+[d].length) 4) <|chk (inK .i64 (i+1)) <|e j h b f (i+1) (c++[d]) else some (a,c)
def Zws:Nat->Zcy->Zcy->Int->Int->Int->Zcy->ZDn|0,_,_,_,_,_,_=>none|a+1,b,c,d,e,f,g=>ZuK (Zws a) b c d e f g
def ZDs (n:Nat) (s:(Zcy×Zcy×Int×Int×Int×Zcy)):ZDn:=Zws n s.1 s.2.1 s.2.2.1 s.2.2.2.1 s.2.2.2.2.1 s.2.2.2.2.2
def Zzj (b:(Zcy×Zcy×Int×Int×Int×Zcy)->ZDn) (s:(Zcy×Zcy×Int×Int×Int×Zcy)):ZDn:=ZuK (fun f e a c i d=>b (f,e,a,c,i,d)) s.1 s.2.1 s.2.2.1 s.2.2.2.1 s.2.2.2.2.1 s.2.2.2.2.2
theorem ZGt (n s):ZDs (n+1) s=Zzj (ZDs n) s:=rfl
def Zv9 (b a:Zcy):Option Zcy:=chk (inK .i64 ((if (a.length:Int)>(b.length:Int)then (a.length:Int)else (b.length:Int))+1)) <|chk (mkOk 0 ((if (a.length:Int)>(b.length:Int)then (a.length:Int)else (b.length:Int))+1) 4) <|(Zws big b a 0 (if (a.length:Int)>(b.length:Int)then (a.length:Int)else (b.length:Int)) 0 (List.replicate ((0:Int)).toNat (0:Int))).bind fun(d,c)=>ZAK d c
def ZAc (a:Zcy):Option Zcy:=(Zpl a).bind fun q=>some q
def Zuk (d:Zcy->Zcy->Int->Int->Int->Zcy->Option Zcy) (j h:Zcy) (b f i:Int) (c:Zcy):Option Zcy:=bif i<f then (idx j i).bind fun e=>(Zvj h i).bind fun q=>(ZxQ e q b).bind fun(g,a)=>chk (inR i c.length) <|chk (inK .i64 (i+1)) <|d j h a f (i+1) (c.set ((i).toNat) g) else some c
def ZvX:Nat->Zcy->Zcy->Int->Int->Int->Zcy->Option Zcy|0,_,_,_,_,_,_=>none|a+1,b,c,d,e,f,g=>Zuk (ZvX a) b c d e f g
def ZCV (n:Nat) (s:(Zcy×Zcy×Int×Int×Int×Zcy)):Option Zcy:=ZvX n s.1 s.2.1 s.2.2.1 s.2.2.2.1 s.2.2.2.2.1 s.2.2.2.2.2
def Zyv (b:(Zcy×Zcy×Int×Int×Int×Zcy)->Option Zcy) (s:(Zcy×Zcy×Int×Int×Int×Zcy)):Option Zcy:=Zuk (fun f e a c i d=>b (f,e,a,c,i,d)) s.1 s.2.1 s.2.2.1 s.2.2.2.1 s.2.2.2.2.1 s.2.2.2.2.2
theorem ZGi (n s):ZCV (n+1) s=Zyv (ZCV n) s:=rfl
def Zu5 (a b:Zcy):Option Zcy:=chk (mkOk a.length a.length 4) <|(ZvX big a b 0 a.length 0 (List.replicate ((a.length:Int)).toNat (0:Int))).bind fun c=>ZAc c
def ZBG (a b:Zgo):Option Zgo:=bif a.Neg==b.Neg then (Zv9 a.Words b.Words).bind fun q=>(Zpu a.Neg q).bind fun h=>some h else (Zqe a.Words b.Words).bind fun e=>bif e>=0 then (Zu5 a.Words b.Words).bind fun c=>(Zpu a.Neg c).bind fun d=>some d else (Zu5 b.Words a.Words).bind fun f=>(Zpu b.Neg f).bind fun g=>some g
def ZDi (f:Bool) (a b:ZbF):Option Int:=bif f then some 0 else (ZoK a.Num b.Den).bind fun q=>(ZoK b.Num a.Den).bind fun e=>(Zvk e).bind fun c=>(ZBG q c).bind fun d=>bif d.Neg then some (-1) else bif (d.Words.length:Int)>0 then some 1 else some 0
def ZAe (a b:ZbF):Option Int:=(Zrx a).bind fun q=>bif !q then ZDi true a b else (Zrx b).bind fun c=>ZDi (!c) a b
def ZDf (a:ZbF):Option Int:=ZBF.bind fun q=>(ZAe a q).bind fun b=>some b
def ZHG:Option (List (Int×Zp0)):=some (setB (q:=ZKm) (k:=(.int .i64)) (v:=(.st 6)) (car:=ZAj) (setB (q:=ZKm) (k:=(.int .i64)) (v:=(.st 6)) (car:=ZAj) (setB (q:=ZKm) (k:=(.int .i64)) (v:=(.st 6)) (car:=ZAj) (setB (q:=ZKm) (k:=(.int .i64)) (v:=(.st 6)) (car:=ZAj) (setB (q:=ZKm) (k:=(.int .i64)) (v:=(.st 6)) (car:=ZAj) ([]:(List (Int×Zp0))) 1 (Zp0.mk [116,101,120,116] (none:Option Nat) (some 244:Option Nat))) 2 (Zp0.mk [98,111,111,108] (some 245:Option Nat) (some 246:Option Nat))) 3 (Zp0.mk [105,110,116,101,103,101,114] (some 247:Option Nat) (some 248:Option Nat))) 4 (Zp0.mk [100,101,99,105,109,97,108] (some 249:Option Nat) (some 248:Option Nat))) 5 (Zp0.mk [100,97,116,101] (some 250:Option Nat) (some 251:Option Nat)))
def ZDL (s a:Str):Option Str:=chk (a.all fun b=>decide (b.toNat<128)) <| chk (a.length<4294967281) <| some (Lib.trimS s a)
def ZGm (s:Str):Option Str:=(ZDL s [32]).bind fun q=>some q
def Zqw (a:Bool):Option Bool:=some a
def ZpV (s a:Str):Option Bool:=bif (s.length:Int)>=(a.length:Int) then chk (Zcp 0 a.length s.length) <|Zqw ((s.take ((a.length:Int)).toNat)==a) else Zqw false
def Zut (s a:Str):ZJQ:=(ZpV s a).bind fun q=>bif !q then some (s,false) else chk (Zcp a.length s.length s.length) <|some ((s.drop ((a.length:Int)).toNat),true)
def ZA2 (s a:Str):ZJQ:=(Zut s a).bind fun(c,b)=>some (c,b)
def Zuf (s a:Str):Option Str:=(ZpV s a).bind fun q=>bif q then chk (Zcp a.length s.length s.length) <|some (s.drop ((a.length:Int)).toNat) else some s
def ZAm (s a:Str):Option Str:=(Zuf s a).bind fun q=>some q
def Zre (s:Str) (c:Int):Option Int:=some (Lib.indexByte s c.toNat.toUInt8)
def ZrO (s a:Str) (n:Int) (b:Bool):Option Int:=bif b then some 0 else bif n==1 then (idx a 0).bind fun c=>(Zre s ((c.toNat:Nat):Int)).bind fun q=>some q else bif n>=s.length then some (-1) else none
def Ztz (s a:Str):Option Int:=bif (a.length:Int)==0 then ZrO s a a.length true else ZrO s a a.length (a==s)
def Zzi (s a:Str):Option (Str×Str×Bool):=(Ztz s a).bind fun i=>bif i>=0 then chk (Zcp 0 i s.length) <|chk (inK .i64 (i+a.length)) <|chk (Zcp (i+a.length) s.length s.length) <|some ((s.take (i).toNat),(s.drop ((i+a.length)).toNat),true) else some (s,[],false)
def ZEh (s d:Str):Option (Str×Str×Bool):=(Zzi s d).bind fun(a,c,b)=>some (a,c,b)
def Zw6 (a:Bool):Option Bool:=some a
def ZAN (s:Str) (a:Int):Option Bool:=bif (s.length:Int)>=1 then bif (s.length:Int)<=a then (ZDL s ([48,49,50,51,52,53,54,55,56,57]:Str)).bind fun q=>Zw6 (q==([]:Str)) else Zw6 false else Zw6 false
def ZC2 (c:Bool) (d b:Zcy) (i h:Bool) (f g:Zcy):ZIY:=(Zpu c d).bind fun q=>(Zpu false b).bind fun e=>(Zse q e).bind fun a=>some (a,true)
def ZxF (f:Bool->Zcy->Zcy->Zcy->Int->Int->Bool->Bool->Zcy->Zcy->ZPo) (h:Bool) (j i g:Zcy) (k d:Int) (l c:Bool) (a b:Zcy):ZPo:=bif d<k then (Zsg g i).bind fun e=>chk (inK .i64 (d+1)) <|f h j i e k (d+1) l c a b else some (h,j,g,l,c,a,b)
def ZzB:Nat->Bool->Zcy->Zcy->Zcy->Int->Int->Bool->Bool->Zcy->Zcy->ZPo|0,_,_,_,_,_,_,_,_,_,_=>none|a+1,b,c,d,e,f,g,h,i,j,k=>ZxF (ZzB a) b c d e f g h i j k
def ZEq (n:Nat) (s:(Bool×Zcy×Zcy×Zcy×Int×Int×Bool×Bool×Zcy×Zcy)):ZPo:=ZzB n s.1 s.2.1 s.2.2.1 s.2.2.2.1 s.2.2.2.2.1 s.2.2.2.2.2.1 s.2.2.2.2.2.2.1 s.2.2.2.2.2.2.2.1 s.2.2.2.2.2.2.2.2.1 s.2.2.2.2.2.2.2.2.2
def ZBb (b:(Bool×Zcy×Zcy×Zcy×Int×Int×Bool×Bool×Zcy×Zcy)->ZPo) (s:(Bool×Zcy×Zcy×Zcy×Int×Int×Bool×Bool×Zcy×Zcy)):ZPo:=ZxF (fun g i h f j e k d a c=>b (g,i,h,f,j,e,k,d,a,c)) s.1 s.2.1 s.2.2.1 s.2.2.2.1 s.2.2.2.2.1 s.2.2.2.2.2.1 s.2.2.2.2.2.2.1 s.2.2.2.2.2.2.2.1 s.2.2.2.2.2.2.2.2.1 s.2.2.2.2.2.2.2.2.2
theorem ZHh (n s):ZEq (n+1) s=ZBb (ZEq n) s:=rfl
def ZC3 (f:Bool) (b:Str) (h g:Zcy) (o d:Bool) (e a c:Zcy):ZIY:=(ZzB big f h g e b.length 0 o d a c).bind fun(i,k,p,n,l,m,j)=>ZC2 i k p n l m j
def ZxG (j:Bool->Str->Zcy->Zcy->Int->Int->Bool->Bool->Zcy->Zcy->Zcy->Zcy->ZPs) (m:Bool) (c:Str) (n i:Zcy) (k a:Int) (p f:Bool) (l h b e:Zcy):ZPs:=bif a<k then chk (inR a h.length) <|(h[(a).toNat]?).bind fun d=>(Zsg n i).bind fun q=>(Zwt (IntKind.wrap .u64 (IntKind.wrap .u8 (d-48)))).bind fun o=>(Zv9 q o).bind fun g=>chk (inK .i64 (a+1)) <|j m c g i k (a+1) p f l h b e else some (m,c,n,i,p,f,l,b,e)
def ZzC:Nat->Bool->Str->Zcy->Zcy->Int->Int->Bool->Bool->Zcy->Zcy->Zcy->Zcy->ZPs|0,_,_,_,_,_,_,_,_,_,_,_,_=>none|a+1,b,c,d,e,f,g,h,i,j,k,l,m=>ZxG (ZzC a) b c d e f g h i j k l m
def ZEr (n:Nat) (s:(Bool×Str×Zcy×Zcy×Int×Int×Bool×Bool×Zcy×Zcy×Zcy×Zcy)):ZPs:=ZzC n s.1 s.2.1 s.2.2.1 s.2.2.2.1 s.2.2.2.2.1 s.2.2.2.2.2.1 s.2.2.2.2.2.2.1 s.2.2.2.2.2.2.2.1 s.2.2.2.2.2.2.2.2.1 s.2.2.2.2.2.2.2.2.2.1 s.2.2.2.2.2.2.2.2.2.2.1 s.2.2.2.2.2.2.2.2.2.2.2
def ZBc (b:(Bool×Str×Zcy×Zcy×Int×Int×Bool×Bool×Zcy×Zcy×Zcy×Zcy)->ZPs) (s:(Bool×Str×Zcy×Zcy×Int×Int×Bool×Bool×Zcy×Zcy×Zcy×Zcy)):ZPs:=ZxG (fun i c l k f g m e h j a d=>b (i,c,l,k,f,g,m,e,h,j,a,d)) s.1 s.2.1 s.2.2.1 s.2.2.2.1 s.2.2.2.2.1 s.2.2.2.2.2.1 s.2.2.2.2.2.2.1 s.2.2.2.2.2.2.2.1 s.2.2.2.2.2.2.2.2.1 s.2.2.2.2.2.2.2.2.2.1 s.2.2.2.2.2.2.2.2.2.2.1 s.2.2.2.2.2.2.2.2.2.2.2
theorem ZHi (n s):ZEr (n+1) s=ZBc (ZEr n) s:=rfl
def Zte (i:Bool) (a c:Str) (g r f:Bool) (d e:Zcy):ZIY:=bif g then some ((ZbF.mk (Zgo.mk false []) (Zgo.mk false [])),false) else (Zqi [1]).bind fun h=>chk (a.length+c.length<=Zr) <|chk ((a++c).length<=281474976710656) <|(ZzC big i c [] [10] (((a++c).map fun b=>((b.toNat:Nat):Int)).length:Int) 0 r f h ((a++c).map fun b=>((b.toNat:Nat):Int)) d e).bind fun(j,n,s,q,o,p,k,m,l)=>ZC3 j n s q o p k m l
def Zwa (h:Str) (f i e:Bool) (c d:Zcy):ZIY:=(ZEh h [46]).bind fun(a,b,g)=>(ZAN a 15).bind fun q=>bif !q then Zte f a b true i e c d else bif g then (ZAN b 9).bind fun j=>Zte f a b (!j) i e c d else Zte f a b false i e c d
def Zwu (b:Str):ZIY:=(ZA2 b [45]).bind fun(d,c)=>bif !c then (ZAm b [43]).bind fun a=>Zwa a c false false [] [] else Zwa d c false false [] []
def ZCl (s a:Str):Option Str:=chk (a.all fun b=>decide (b.toNat<128)) <| chk (a.length<4294967281) <| some (Lib.trimLeftS s a)
def ZDT (s a:Str):Option Str:=chk (a.all fun b=>decide (b.toNat<128)) <| chk (a.length<4294967281) <| some (Lib.trimRightS s a)
def ZGK (a:Str):Option Str:=some a
def ZDA (b:Str->Zpi->Int->Int->ZPe) (a:Str) (f:Zpi) (e d:Int):ZPe:=bif d<e then (idx f d).bind fun c=>bif !(c==a) then some (.ret c) else chk (inK .i64 (d+1)) <|b a f e (d+1) else some (.brk a)
def ZzD:Nat->Str->Zpi->Int->Int->ZPe|0,_,_,_,_=>none|a+1,b,c,d,e=>ZDA (ZzD a) b c d e
def ZFR (n:Nat) (s:(Str×Zpi×Int×Int)):ZPe:=ZzD n s.1 s.2.1 s.2.2.1 s.2.2.2
def ZFS (b:(Str×Zpi×Int×Int)->ZPe) (s:(Str×Zpi×Int×Int)):ZPe:=ZDA (fun a e d c=>b (a,e,d,c)) s.1 s.2.1 s.2.2.1 s.2.2.2
theorem ZIf (n s):ZFR (n+1) s=ZFS (ZFR n) s:=rfl
def ZEt (a:Zpi):Option Str:=(ZzD big [] a a.length 0).bind fun| .ret b=>some b| .brk c=>ZGK c
def ZB1 (a:Str):ZJQ:=some (a,true)
def ZB2 (a:Str) (b:Bool):ZJQ:=bif b then chk (([45]:Str).length+a.length<=Zr) <|ZB1 (([45]:Str)++a) else ZB1 a
def Zwh (t a:Str):ZJQ:=(idx t 0).bind fun c=>bif ((c.toNat:Nat):Int)==45 then ZB2 a (!(a==[48])) else ZB2 a false
def ZCs (t:Str):ZJQ:=(Zwu t).bind fun(q,g)=>bif !g then some (([]:Str),false) else (ZCl t ([43,45]:Str)).bind fun f=>(ZEh f ([46]:Str)).bind fun(c,e,h)=>(ZCl c ([48]:Str)).bind fun b=>(ZDT e ([48]:Str)).bind fun a=>(ZEt ([b,([48]:Str)]:Zpi)).bind fun d=>bif !(a==([]:Str)) then chk (([46]:Str).length+a.length<=Zr) <|chk (d.length+(([46]:Str)++a).length<=Zr) <|Zwh t (d++(([46]:Str)++a)) else Zwh t d
def ZxP (n:Int) (s:Str):ZJQ:=ZHG.bind fun q=>bif (!(Zhx (q:=ZKm) (k:=(.int .i64)) (v:=(.st 6)) (car:=ZAj) q n).isSome)then some ([],false) else bif (Option.isNone (((Zhx (q:=ZKm) (k:=(.int .i64)) (v:=(.st 6)) (car:=ZAj) q n).getD (Zp0.mk [] (none:Option Nat) (none:Option Nat))).canonical))then some (s,true) else (ZGm s).bind fun q_1=>chk (decide (((Zhx (q:=ZKm) (k:=(.int .i64)) (v:=(.st 6)) (car:=ZAj) q n).getD (Zp0.mk [] (none:Option Nat) (none:Option Nat))).canonical=some 249)) <|(ZCs q_1).bind fun(q_2,q_3)=>some (q_2,q_3)
def ZEc (n:Int) (s:Str):ZIY:=(ZxP n s).bind fun(t,ok)=>bif !ok then some ((ZbF.mk (Zgo.mk false []) (Zgo.mk false [])),false) else ZHG.bind fun q=>chk (decide (((Zhx (q:=ZKm) (k:=(.int .i64)) (v:=(.st 6)) (car:=ZAj) q n).getD (Zp0.mk [] (none:Option Nat) (none:Option Nat))).value=some 248)) <|(Zwu t).bind fun(q_1,q_2)=>some (q_1,q_2)
def ZHI (c:G_api_Cell):ZIY:=bif c.Null then ZBF.bind fun q=>some (q,false) else (ZEc 4 c.Text).bind fun(b,a)=>some (b,a)
def ZCR (a n:Int) (e d:Bool) (b c:Zcy):Option ZbF:=(ZEl n (if 1>a then 1 else a)).bind fun q=>some q
def Zv8 (c:ZSs) (b n:Int) (g:ZxL) (h f:Int) (i e:Bool) (a d:Zcy):ZKd:=chk (inK .i64 (f+1)) <|c b n g h (f+1) i e a d
def ZxB (e:ZSs) (a n:Int) (g:ZxL) (h f:Int) (i d:Bool) (b c:Zcy):ZKd:=bif f<h then (idx g f).bind fun j=>bif j.Null then Zv8 e a n g h f i d b c else chk (inK .i64 (a+1)) <|(ZHI j).bind fun(q,k)=>bif k then chk (inK .i64 (n+1)) <|Zv8 e (a+1) (n+1) g h f i d b c else Zv8 e (a+1) n g h f i d b c else some (a,n,i,d,b,c)
def Zv7:Nat->Int->Int->ZxL->Int->Int->Bool->Bool->Zcy->Zcy->ZKd|0,_,_,_,_,_,_,_,_,_=>none|a+1,b,c,d,e,f,g,h,i,j=>ZxB (Zv7 a) b c d e f g h i j
def ZEi (n:Nat) (s:(Int×Int×ZxL×Int×Int×Bool×Bool×Zcy×Zcy)):ZKd:=Zv7 n s.1 s.2.1 s.2.2.1 s.2.2.2.1 s.2.2.2.2.1 s.2.2.2.2.2.1 s.2.2.2.2.2.2.1 s.2.2.2.2.2.2.2.1 s.2.2.2.2.2.2.2.2
def ZA5 (c:ZYp) (s:(Int×Int×ZxL×Int×Int×Bool×Bool×Zcy×Zcy)):ZKd:=ZxB (fun b n h f g i e a d=>c (b,n,h,f,g,i,e,a,d)) s.1 s.2.1 s.2.2.1 s.2.2.2.1 s.2.2.2.2.1 s.2.2.2.2.2.1 s.2.2.2.2.2.2.1 s.2.2.2.2.2.2.2.1 s.2.2.2.2.2.2.2.2
theorem ZHc (n s):ZEi (n+1) s=ZA5 (ZEi n) s:=rfl
def ZEj (c:G_api_Column):Option ZbF:=(Zv7 big 0 0 c.Cells c.Cells.length 0 false false [] []).bind fun(a,b,g,e,d,f)=>ZCR a b g e d f
def Zw4 (c:G_api_Column):Option ZbF:=ZLa (ZEj c)
def ZGw (a b:ZbF):Option (Zgo×Zgo):=(ZoK a.Num b.Den).bind fun q=>(ZoK b.Num a.Den).bind fun e=>(ZBG q e).bind fun d=>(ZoK a.Den b.Den).bind fun c=>some (d,c)
def Zsf (d:Bool) (a b:ZbF) (j h:Bool) (i g:Zcy):ZHz:=bif d then some ((ZbF.mk (Zgo.mk false []) (Zgo.mk false [])),1) else ((ZGw a b).bind fun(e,c)=>bif (c.Words.length:Int)==0 then some ((ZbF.mk (Zgo.mk false []) (Zgo.mk false [])),8) else ((Zse e c).bind fun f=>bif (if (f.Den.Words.length:Int)>(f.Num.Words.length:Int)then (f.Den.Words.length:Int)else (f.Num.Words.length:Int))>256 then some ((ZbF.mk (Zgo.mk false []) (Zgo.mk false [])),3) else some (f,0)))
def Zrt (a b:ZbF):ZHz:=(Zrx a).bind fun q=>bif !q then Zsf true a b false false [] [] else (Zrx b).bind fun c=>Zsf (!c) a b false false [] []
def ZE2 (a b:ZbF):ZHz:=(Zrx b).bind fun q=>bif !q then some ((ZbF.mk (Zgo.mk false []) (Zgo.mk false [])),1) else (Zvk b.Num).bind fun e=>(Zrt a (ZbF.mk e b.Den)).bind fun(c,d)=>some (c,d)
def ZDU (f:ZbF) (a:Int):Option ZbF:=some f
def ZHd (a b:ZbF):Option ZbF:=(ZE2 a b).bind fun(q,d)=>(ZDU q d).bind fun c=>some c
def ZDO (a b:ZbF):ZHz:=(Zrt a b).bind fun(q,c)=>some (q,c)
def ZGq (a b:ZbF):Option ZbF:=(ZDO a b).bind fun(q,d)=>(ZDU q d).bind fun c=>some c
def ZGx (a b:ZbF):Option (Zgo×Zgo):=(ZoK a.Num b.Den).bind fun d=>(ZoK a.Den b.Num).bind fun c=>some (d,c)
def Zrf (d:Bool) (a b:ZbF) (j h:Bool) (i g:Zcy):ZHz:=bif d then some ((ZbF.mk (Zgo.mk false []) (Zgo.mk false [])),1) else ((ZGx a b).bind fun(e,c)=>bif (c.Words.length:Int)==0 then some ((ZbF.mk (Zgo.mk false []) (Zgo.mk false [])),8) else ((Zse e c).bind fun f=>bif (if (f.Den.Words.length:Int)>(f.Num.Words.length:Int)then (f.Den.Words.length:Int)else (f.Num.Words.length:Int))>256 then some ((ZbF.mk (Zgo.mk false []) (Zgo.mk false [])),3) else some (f,0)))
def ZwY (a b:ZbF):ZHz:=(Zrx a).bind fun q=>bif !q then Zrf true a b false false [] [] else (Zrx b).bind fun c=>Zrf (!c) a b false false [] []
def ZE3 (a b:ZbF):ZHz:=(ZwY a b).bind fun(q,c)=>some (q,c)
def ZIc (a b:ZbF):Option ZbF:=(ZE3 a b).bind fun(q,d)=>(ZDU q d).bind fun c=>some c
def Zzw (l i:Bool) (a Zlk b:ZbF) (j k:Zcy):Option ZbF:=(ZGq a a).bind fun q=>(ZGq q Zlk).bind fun h=>(ZEl 1 1).bind fun e=>(ZHd e b).bind fun c=>(ZGq h c).bind fun g=>(ZEl 4 1).bind fun d=>(ZIc g d).bind fun f=>some f
def Zwr (l:Bool) (a b:G_api_Column) (n f:Bool) (d Zlk:ZbF) (g h:Zcy):Option ZbF:=bif l then ZBF.bind fun q=>some q else (Zw4 a).bind fun m=>(Zw4 b).bind fun k=>(ZHd m k).bind fun c=>(ZDf c).bind fun i=>bif i<0 then ZBF.bind fun j=>(ZHd j c).bind fun e=>Zzw n f d Zlk e g h else Zzw n f d Zlk c g h
def ZEk (a b:G_api_Column):Option ZbF:=(ZA4 a b).bind fun c=>(ZCm a.Name b.Name).bind fun Zlk=>(ZDf c).bind fun q=>bif q==0 then (ZDf Zlk).bind fun d=>Zwr (d==0) a b false false c Zlk [] [] else Zwr false a b false false c Zlk [] []
def ZC6:Option Int:=some 0
def ZC7 (b:ZSl) (c:List Zo5) (d a:Int):ZDE:=chk (inK .i64 (a+1)) <|b c d (a+1)
def ZxH (c:ZYk) (d:List Zo5) (b f:Int) (e:Zo5) (g a:Int):ZK8:=bif a<g then (idx e a).bind fun h=>(ZDf h).bind fun q=>bif q<0 then some (.ret 2) else chk (inK .i64 (a+1)) <|c d b f e g (a+1) else some (.brk (d,b,f))
def ZzE:Nat->(List Zo5)->Int->Int->Zo5->Int->Int->ZK8|0,_,_,_,_,_,_=>none|a+1,b,c,d,e,f,g=>ZxH (ZzE a) b c d e f g
def ZEu (n:Nat) (s:((List Zo5)×Int×Int×Zo5×Int×Int)):ZK8:=ZzE n s.1 s.2.1 s.2.2.1 s.2.2.2.1 s.2.2.2.2.1 s.2.2.2.2.2
def ZBd (a:ZYm) (s:((List Zo5)×Int×Int×Zo5×Int×Int)):ZK8:=ZxH (fun c b f d g e=>a (c,b,f,d,g,e)) s.1 s.2.1 s.2.2.1 s.2.2.2.1 s.2.2.2.2.1 s.2.2.2.2.2
theorem ZHj (n s):ZEu (n+1) s=ZBd (ZEu n) s:=rfl
def ZxI (c:ZSl) (d:List Zo5) (e a:Int):ZDE:=bif a<e then (idx d a).bind fun b=>(ZzE big d e a b b.length 0).bind fun| .ret f=>some (.ret f)| .brk (x0,x1,x2)=>ZC7 c x0 x1 x2 else some (.brk ())
def Zwb:Nat->(List Zo5)->Int->Int->ZDE|0,_,_,_=>none|a+1,b,c,d=>ZxI (Zwb a) b c d
def ZEv (n:Nat) (s:((List Zo5)×Int×Int)):ZDE:=Zwb n s.1 s.2.1 s.2.2
def ZBe (a:ZX7) (s:((List Zo5)×Int×Int)):ZDE:=ZxI (fun c d b=>a (c,d,b)) s.1 s.2.1 s.2.2
theorem ZHk (n s):ZEv (n+1) s=ZBe (ZEv n) s:=rfl
def ZC8 (a:List Zo5):Option Int:=(Zwb big a a.length 0).bind fun| .ret b=>some b| .brk ()=>ZC6
def ZxJ (b:ZSq) (g:List Zo5) (e:List Zo5) (d a:Int):ZH4:=bif a<d then (idx e a).bind fun f=>(idx g 0).bind fun c=>bif (f.length:Int)!=(c.length:Int) then some (.ret 1) else chk (inK .i64 (a+1)) <|b g e d (a+1) else some (.brk g)
def ZzF:Nat->(List Zo5)->(List Zo5)->Int->Int->ZH4|0,_,_,_,_=>none|a+1,b,c,d,e=>ZxJ (ZzF a) b c d e
def ZEw (n:Nat) (s:((List Zo5)×(List Zo5)×Int×Int)):ZH4:=ZzF n s.1 s.2.1 s.2.2.1 s.2.2.2
def ZBf (a:ZSr) (s:((List Zo5)×(List Zo5)×Int×Int)):ZH4:=ZxJ (fun e d b c=>a (e,d,b,c)) s.1 s.2.1 s.2.2.1 s.2.2.2
theorem ZHl (n s):ZEw (n+1) s=ZBf (ZEw n) s:=rfl
def ZC9 (a:List Zo5):Option Int:=(ZzF big a a a.length 0).bind fun| .ret b=>some b| .brk c=>ZC8 c
def ZxK (c:ZSq) (f:List Zo5) (b:List Zo5) (d a:Int):ZH4:=bif a<d then (idx b a).bind fun e=>bif (e.length:Int)>8 then some (.ret 3) else chk (inK .i64 (a+1)) <|c f b d (a+1) else some (.brk f)
def ZzG:Nat->(List Zo5)->(List Zo5)->Int->Int->ZH4|0,_,_,_,_=>none|a+1,b,c,d,e=>ZxK (ZzG a) b c d e
def ZEx (n:Nat) (s:((List Zo5)×(List Zo5)×Int×Int)):ZH4:=ZzG n s.1 s.2.1 s.2.2.1 s.2.2.2
def ZBg (a:ZSr) (s:((List Zo5)×(List Zo5)×Int×Int)):ZH4:=ZxK (fun e b c d=>a (e,b,c,d)) s.1 s.2.1 s.2.2.1 s.2.2.2
theorem ZHm (n s):ZEx (n+1) s=ZBg (ZEx n) s:=rfl
def ZCq (a:List Zo5):Option Int:=bif (a.length:Int)>8 then some 3 else (ZzG big a a a.length 0).bind fun| .ret b=>some b| .brk c=>ZC9 c
def Zqf (e:(List Zo5)->Int->Int->(List (Ziw×ZbF))->ZFN) (f:List Zo5) (i c k:Int) (d:Bool) (b:(List (Ziw×ZbF))) (p n:Bool) (o l:Zcy):ZX1:=bif d then ZBF.bind fun q=>some (q,false,b) else (idx f i).bind fun h=>(idx h k).bind fun a=>chk (inK .i64 (i+1)) <|chk (0<=k) <|(e f (i+1) (orK .i64 c (shlK .i64 1 k)) b).bind fun(j,m)=>(ZGq a j).bind fun g=>some (g,true,m)
def Zrb (c:(List Zo5)->Int->Int->(List (Ziw×ZbF))->ZFN) (f:List Zo5) (i a k:Int) (m:(List (Ziw×ZbF))):ZX1:=chk (0<=k) <|bif (andK .i64 (shrK .i64 a k) 1)==1 then Zqf c f i a k true m false false [] [] else (idx f i).bind fun d=>(idx d k).bind fun b=>(ZDf b).bind fun q=>Zqf c f i a k (q==0) m false false [] []
def ZyA (h:(List Zo5)->Int->Int->(List (Ziw×ZbF))->ZFN) (f:List Zo5) (b:(List (Ziw×ZbF))) (i e:Bool) (c:Ziw) (a:ZbF) (g d:Zcy):ZFN:=some (a,(setB (q:=ZKm) (k:=(.st 7)) (v:=(.st 4)) (car:=ZAj) b c a))
def Zru (m:(List Zo5)->Int->Int->(List (Ziw×ZbF))->ZFN) (b:Z0P) (f:List Zo5) (i g h k:Int) (j:(List (Ziw×ZbF))) (n c:Bool) (l:Ziw) (d:ZbF) (e a:Zcy):ZSY:=chk (inK .i64 (k+1)) <|b f i g h (k+1) j n c l d e a
def Zrv (g:(List Zo5)->Int->Int->(List (Ziw×ZbF))->ZFN) (b:Z0P) (f:List Zo5) (i e h k:Int) (n:Bool) (l:(List (Ziw×ZbF))) (o c:Bool) (m:Ziw) (j p:ZbF) (d a:Zcy):ZSY:=bif n then Zru g b f i e h k l o c m p d a else Zru g b f i e h k l o c m j d a
def Zs4 (h:(List Zo5)->Int->Int->(List (Ziw×ZbF))->ZFN) (g:Z0P) (f:List Zo5) (i e j k:Int) (n:(List (Ziw×ZbF))) (p c:Bool) (l:Ziw) (a:ZbF) (d b:Zcy):ZSY:=bif k<j then (Zrb h f i e k n).bind fun(o,r,m)=>bif r then (ZAe o a).bind fun q=>Zrv h g f i e j k (q>0) m p c l a o d b else Zrv h g f i e j k false m p c l a o d b else some (f,n,p,c,l,a,d,b)
def Znd (a:(List Zo5)->Int->Int->(List (Ziw×ZbF))->ZFN):Nat->(List Zo5)->Int->Int->Int->Int->(List (Ziw×ZbF))->Bool->Bool->Ziw->ZbF->Zcy->Zcy->ZSY|0,_,_,_,_,_,_,_,_,_,_,_,_=>none|b+1,c,d,e,f,g,h,i,j,k,l,m,n=>Zs4 a (Znd a b) c d e f g h i j k l m n
def ZBD (a:(List Zo5)->Int->Int->(List (Ziw×ZbF))->ZFN) (n:Nat) (s:((List Zo5)×Int×Int×Int×Int×(List (Ziw×ZbF))×Bool×Bool×Ziw×ZbF×Zcy×Zcy)):ZSY:=Znd a n s.1 s.2.1 s.2.2.1 s.2.2.2.1 s.2.2.2.2.1 s.2.2.2.2.2.1 s.2.2.2.2.2.2.1 s.2.2.2.2.2.2.2.1 s.2.2.2.2.2.2.2.2.1 s.2.2.2.2.2.2.2.2.2.1 s.2.2.2.2.2.2.2.2.2.2.1 s.2.2.2.2.2.2.2.2.2.2.2
def ZFL (h:(List Zo5)->Int->Int->(List (Ziw×ZbF))->ZFN) (b:((List Zo5)×Int×Int×Int×Int×(List (Ziw×ZbF))×Bool×Bool×Ziw×ZbF×Zcy×Zcy)->ZSY) (s:((List Zo5)×Int×Int×Int×Int×(List (Ziw×ZbF))×Bool×Bool×Ziw×ZbF×Zcy×Zcy)):ZSY:=Zs4 h (fun f i g j k l n c m d e a=>b (f,i,g,j,k,l,n,c,m,d,e,a)) s.1 s.2.1 s.2.2.1 s.2.2.2.1 s.2.2.2.2.1 s.2.2.2.2.2.1 s.2.2.2.2.2.2.1 s.2.2.2.2.2.2.2.1 s.2.2.2.2.2.2.2.2.1 s.2.2.2.2.2.2.2.2.2.1 s.2.2.2.2.2.2.2.2.2.2.1 s.2.2.2.2.2.2.2.2.2.2.2
theorem ZJZ (a:(List Zo5)->Int->Int->(List (Ziw×ZbF))->ZFN):∀n s,ZBD a (n+1) s=ZFL a (ZBD a n) s:=fun _ _=>rfl
def Zzn (b:(List Zo5)->Int->Int->(List (Ziw×ZbF))->ZFN) (f:List Zo5) (i a:Int) (m:(List (Ziw×ZbF))):ZFN:=bif i==f.length then ZBF.bind fun q=>some (q,m) else bif (Zhx (q:=ZKm) (k:=(.st 7)) (v:=(.st 4)) (car:=ZAj) m (Ziw.mk i a)).isSome then some (((Zhx (q:=ZKm) (k:=(.st 7)) (v:=(.st 4)) (car:=ZAj) m (Ziw.mk i a)).getD (ZbF.mk (Zgo.mk false []) (Zgo.mk false []))),m) else chk (inK .i64 (i+1)) <|(b f (i+1) a m).bind fun(c,d)=>(idx f i).bind fun e=>(Znd b big f i a e.length 0 d false false (Ziw.mk i a) c [] []).bind fun(g,l,r,o,n,p,h,j)=>ZyA b g l r o n p h j
def ZjT:Nat->(List Zo5)->Int->Int->(List (Ziw×ZbF))->ZFN|0,_,_,_,_=>none|a+1,b,c,d,e=>Zzn (ZjT a) b c d e
def ZI8 (f:ZbF):Option ZbF:=chk (ZjC f.Num.Words.length 4) <|chk (ZjC f.Den.Words.length 4) <|some f
def ZDC (f:List Zo5) (h g:Bool) (a:(List (Ziw×ZbF))) (c e d:Zcy):ZKc:=(ZjT big f 0 0 a).bind fun(q,m)=>(ZI8 q).bind fun b=>some (c,b,0)
def ZDD (e:Tf_7) (f:List Zo5) (h a:Int) (k:List Zo5) (j i:Int) (m g:Bool) (l:(List (Ziw×ZbF))) (b d c:Zcy):ZZO:=chk (ZjC (b.length+[a].length) 8) <|chk (inK .i64 (i+1)) <|e f h k j (i+1) m g l (b++[a]) d c
def Zur (j:Tf_1) (f:List Zo5) (d i e k:Int) (n:List Zo5) (m g q o:Int) (r s c:Bool) (p:(List (Ziw×ZbF))) (h:Zcy) (l:ZbF) (b a:Zcy):ZZP:=bif r then chk (0<=k) <|some (f,(orK .i64 d (shlK .i64 1 k)),k,n,m,g,s,c,p,h,b,a) else chk (inK .i64 (o+1)) <|j f d i e n m g q (o+1) s c p h l b a
def ZBW (h:Tf_1) (f:List Zo5) (a i b:Int) (p:List Zo5) (o j n k:Int) (s g:Bool) (r:(List (Ziw×ZbF))) (l:Zcy) (e:ZbF) (d c:Zcy):ZZP:=bif k<n then (Zrb (ZjT big) f i a k r).bind fun(t,u,m)=>bif u then (ZAe t e).bind fun q=>Zur h f a i b k p o j n k (q==0) s g m l e d c else Zur h f a i b k p o j n k false s g m l e d c else some (f,a,b,p,o,j,s,g,r,l,d,c)
def Zp1:Nat->(List Zo5)->Int->Int->Int->(List Zo5)->Int->Int->Int->Int->Bool->Bool->(List (Ziw×ZbF))->Zcy->ZbF->Zcy->Zcy->ZZP|0,_,_,_,_,_,_,_,_,_,_,_,_,_,_,_,_=>none|a+1,b,c,d,e,f,g,h,i,j,k,l,m,n,o,p,q=>ZBW (Zp1 a) b c d e f g h i j k l m n o p q
def ZBX (k:Tf_7) (f:List Zo5) (d:Int) (g:List Zo5) (h i:Int) (q c:Bool) (j:(List (Ziw×ZbF))) (l b a:Zcy):ZZO:=bif i<h then (idx g i).bind fun n=>(ZjT big f i d j).bind fun(e,m)=>(Zp1 big f d i (-1) g h i n.length 0 q c m l e b a).bind fun(v,A,u,w,s,y,z,t,r,x,p,o)=>ZDD k v A u w s y z t r x p o else some (f,q,c,j,l,b,a)
def ZqQ:Nat->(List Zo5)->Int->(List Zo5)->Int->Int->Bool->Bool->(List (Ziw×ZbF))->Zcy->Zcy->Zcy->ZZO|0,_,_,_,_,_,_,_,_,_,_,_=>none|a+1,b,c,d,e,f,g,h,i,j,k,l=>ZBX (ZqQ a) b c d e f g h i j k l
def ZDk (a:List Zo5):ZKc:=(ZCq a).bind fun e=>bif e != 0 then some ([],(ZbF.mk (Zgo.mk false []) (Zgo.mk false [])),e) else (ZqQ big a 0 a a.length 0 false false ([]:(List (Ziw×ZbF))) [] [] []).bind fun(b,d,i,g,f,h,c)=>ZDC b d i g f h c
def ZBM (a b:G_api_Table) (j h:Bool) (i:List Zo5) (f g:Zcy):ZKc:=(ZDk i).bind fun(l,c,e)=>bif e != 0 then some (([]:Zcy),(ZbF.mk (Zgo.mk false []) (Zgo.mk false [])),e) else ((ZEl (if (1:Int)>(if (b.Columns.length:Int)>(a.Columns.length:Int)then (b.Columns.length:Int)else (a.Columns.length:Int))then (1:Int)else (if (b.Columns.length:Int)>(a.Columns.length:Int)then (b.Columns.length:Int)else (a.Columns.length:Int))) 1).bind fun q=>(ZIc c q).bind fun d=>some (l,d,0))
def ZBN (f:ZSu) (i:Zna) (j g:Int) (a b:G_api_Table) (l h:Bool) (k:List Zo5) (d:Zo5) (c e:Zcy):ZKe:=chk (ZjC (k.length+[d].length) 24) <|chk (inK .i64 (g+1)) <|f i j (g+1) a b l h (k++[d]) c e
def Zwf (h:Tf_6) (i:Zna) (m l:Int) (k:Zna) (j c:Int) (a b:G_api_Table) (o f:Bool) (p:List Zo5) (n:G_api_Column) (g:Zo5) (d e:Zcy):ZRk:=bif c<j then (idx k c).bind fun y=>(ZEk n y).bind fun q=>chk (ZjC (g.length+[q].length) 64) <|chk (inK .i64 (c+1)) <|h i m l k j (c+1) a b o f p n (g++[q]) d e else some (i,m,l,a,b,o,f,p,g,d,e)
def ZyF:Nat->Zna->Int->Int->Zna->Int->Int->G_api_Table->G_api_Table->Bool->Bool->(List Zo5)->G_api_Column->Zo5->Zcy->Zcy->ZRk|0,_,_,_,_,_,_,_,_,_,_,_,_,_,_,_=>none|a+1,b,c,d,e,f,g,h,i,j,k,l,m,n,o,p=>Zwf (ZyF a) b c d e f g h i j k l m n o p
def ZD2 (n:Nat) (s:(Zna×Int×Int×Zna×Int×Int×G_api_Table×G_api_Table×Bool×Bool×(List Zo5)×G_api_Column×Zo5×Zcy×Zcy)):ZRk:=ZyF n s.1 s.2.1 s.2.2.1 s.2.2.2.1 s.2.2.2.2.1 s.2.2.2.2.2.1 s.2.2.2.2.2.2.1 s.2.2.2.2.2.2.2.1 s.2.2.2.2.2.2.2.2.1 s.2.2.2.2.2.2.2.2.2.1 s.2.2.2.2.2.2.2.2.2.2.1 s.2.2.2.2.2.2.2.2.2.2.2.1 s.2.2.2.2.2.2.2.2.2.2.2.2.1 s.2.2.2.2.2.2.2.2.2.2.2.2.2.1 s.2.2.2.2.2.2.2.2.2.2.2.2.2.2
def ZAw (e:Tf_5) (s:(Zna×Int×Int×Zna×Int×Int×G_api_Table×G_api_Table×Bool×Bool×(List Zo5)×G_api_Column×Zo5×Zcy×Zcy)):ZRk:=Zwf (fun h m l k i j a b o f p n g c d=>e (h,m,l,k,i,j,a,b,o,f,p,n,g,c,d)) s.1 s.2.1 s.2.2.1 s.2.2.2.1 s.2.2.2.2.1 s.2.2.2.2.2.1 s.2.2.2.2.2.2.1 s.2.2.2.2.2.2.2.1 s.2.2.2.2.2.2.2.2.1 s.2.2.2.2.2.2.2.2.2.1 s.2.2.2.2.2.2.2.2.2.2.1 s.2.2.2.2.2.2.2.2.2.2.2.1 s.2.2.2.2.2.2.2.2.2.2.2.2.1 s.2.2.2.2.2.2.2.2.2.2.2.2.2.1 s.2.2.2.2.2.2.2.2.2.2.2.2.2.2
theorem ZG0 (n s):ZD2 (n+1) s=ZAw (ZD2 n) s:=rfl
def Zwg (i:ZSu) (h:Zna) (g f:Int) (a b:G_api_Table) (k c:Bool) (l:List Zo5) (d e:Zcy):ZKe:=bif f<g then (idx h f).bind fun u=>(ZyF big h g f b.Columns b.Columns.length 0 a b k c l u [] d e).bind fun(q,w,p,r,n,t,v,o,m,s,j)=>ZBN i q w p r n t v o m s j else some (a,b,k,c,l,d,e)
def ZuT:Nat->Zna->Int->Int->G_api_Table->G_api_Table->Bool->Bool->(List Zo5)->Zcy->Zcy->ZKe|0,_,_,_,_,_,_,_,_,_,_=>none|a+1,b,c,d,e,f,g,h,i,j,k=>Zwg (ZuT a) b c d e f g h i j k
def ZD3 (n:Nat) (s:(Zna×Int×Int×G_api_Table×G_api_Table×Bool×Bool×(List Zo5)×Zcy×Zcy)):ZKe:=ZuT n s.1 s.2.1 s.2.2.1 s.2.2.2.1 s.2.2.2.2.1 s.2.2.2.2.2.1 s.2.2.2.2.2.2.1 s.2.2.2.2.2.2.2.1 s.2.2.2.2.2.2.2.2.1 s.2.2.2.2.2.2.2.2.2
def ZAx (e:Tf_9) (s:(Zna×Int×Int×G_api_Table×G_api_Table×Bool×Bool×(List Zo5)×Zcy×Zcy)):ZKe:=Zwg (fun g i h a b j f k c d=>e (g,i,h,a,b,j,f,k,c,d)) s.1 s.2.1 s.2.2.1 s.2.2.2.1 s.2.2.2.2.1 s.2.2.2.2.2.1 s.2.2.2.2.2.2.1 s.2.2.2.2.2.2.2.1 s.2.2.2.2.2.2.2.2.1 s.2.2.2.2.2.2.2.2.2
theorem ZG1 (n s):ZD3 (n+1) s=ZAx (ZD3 n) s:=rfl
def ZyG (f:Bool) (a b:G_api_Table) (g e:Bool) (c d:Zcy):ZKc:=bif f then some ([],(ZbF.mk (Zgo.mk false []) (Zgo.mk false [])),3) else (ZuT big a.Columns a.Columns.length 0 a b g e [] c d).bind fun(h,j,n,l,k,m,i)=>ZBM h j n l k m i
def ZuU (f:Bool) (a b:G_api_Table) (g e:Bool) (c d:Zcy):ZKc:=bif f then some (([]:Zcy),(ZbF.mk (Zgo.mk false []) (Zgo.mk false [])),1) else bif (a.Columns.length:Int)>8 then ZyG true a b g e c d else ZyG ((b.Columns.length:Int)>8) a b g e c d
def Zqr (a b:G_api_Table):ZKc:=(ZrL a).bind fun q=>bif !q then ZuU true a b false false [] [] else (ZrL b).bind fun c=>ZuU (!c) a b false false [] []
def Zz8:Option Int:=some (-1)
def Zud (a:Zcy->Int->Int->Int->ZDE) (s:Zcy) (d c i:Int):ZDE:=bif i<c then (idx s i).bind fun b=>bif d==b then some (.ret i) else chk (inK .i64 (i+1)) <|a s d c (i+1) else some (.brk ())
def ZsG:Nat->Zcy->Int->Int->Int->ZDE|0,_,_,_,_=>none|a+1,b,c,d,e=>Zud (ZsG a) b c d e
def ZCQ (n:Nat) (s:(Zcy×Int×Int×Int)):ZDE:=ZsG n s.1 s.2.1 s.2.2.1 s.2.2.2
def Zyq (a:(Zcy×Int×Int×Int)->ZDE) (s:(Zcy×Int×Int×Int)):ZDE:=Zud (fun s c b i=>a (s,c,b,i)) s.1 s.2.1 s.2.2.1 s.2.2.2
theorem ZGe (n s):ZCQ (n+1) s=Zyq (ZCQ n) s:=rfl
def ZBT (s:Zcy) (a:Int):Option Int:=(ZsG big s a s.length 0).bind fun| .ret b=>some b| .brk ()=>Zz8
def ZvT (s:Zcy) (a:Int):Option Bool:=(ZBT s a).bind fun q=>some (q>=0)
def ZoS (s:Zna) (a:Bool):Option Zna:=bif a then some [] else chk (ZjC (([]:Zna).length+s.length) 40) <|some (([]:Zna)++s)
def Zqj (s:Zna):Option Zna:=bif List.isEmpty s then agree (ZoS s true) (ZoS s false)else ZoS s false
def Zpb (s:ZxL) (a:Bool):Option ZxL:=bif a then some [] else chk (ZjC (([]:ZxL).length+s.length) 24) <|some (([]:ZxL)++s)
def Zrd (s:ZxL):Option ZxL:=bif List.isEmpty s then agree (Zpb s true) (Zpb s false)else Zpb s false
def ZG5 (t:Int) (b:Str) (f:Int) (e:Str) (c:Zna) (a:Nat) (d:Zna):Option (G_api_Table×Nat):=some ((G_api_Table.mk t b c),a)
def ZDR (h:Int->Int->Int->Str->Int->Str->Zna->Nat->Zna->ZPm) (g i t:Int) (f:Str) (j:Int) (e:Str) (b:Zna) (a:Nat) (d:Zna):ZPm:=bif i<g then chk (inR i b.length) <|(b[(i).toNat]?).bind fun c=>chk (a<=(i).toNat) <|(Zrd c.Cells).bind fun q=>chk (inR i b.length) <|chk (a=(i).toNat) <|(b[(i).toNat]?).bind fun k=>chk (inK .i64 (i+1)) <|h g (i+1) t f j e (b.set ((i).toNat) (G_api_Column.mk k.Name q)) (a+1) d else some (t,f,j,e,b,a,d)
def ZE1:Nat->Int->Int->Int->Str->Int->Str->Zna->Nat->Zna->ZPm|0,_,_,_,_,_,_,_,_,_=>none|a+1,b,c,d,e,f,g,h,i,j=>ZDR (ZE1 a) b c d e f g h i j
def ZHV (n:Nat) (s:(Int×Int×Int×Str×Int×Str×Zna×Nat×Zna)):ZPm:=ZE1 n s.1 s.2.1 s.2.2.1 s.2.2.2.1 s.2.2.2.2.1 s.2.2.2.2.2.1 s.2.2.2.2.2.2.1 s.2.2.2.2.2.2.2.1 s.2.2.2.2.2.2.2.2
def ZFK (c:(Int×Int×Int×Str×Int×Str×Zna×Nat×Zna)->ZPm) (s:(Int×Int×Int×Str×Int×Str×Zna×Nat×Zna)):ZPm:=ZDR (fun f i t e h d g a b=>c (f,i,t,e,h,d,g,a,b)) s.1 s.2.1 s.2.2.1 s.2.2.2.1 s.2.2.2.2.1 s.2.2.2.2.2.1 s.2.2.2.2.2.2.1 s.2.2.2.2.2.2.2.1 s.2.2.2.2.2.2.2.2
theorem ZJC (n s):ZHV (n+1) s=ZFK (ZHV n) s:=rfl
def ZGs (t:G_api_Table):Option (G_api_Table×Nat):=(Zqj t.Columns).bind fun q=>(ZE1 big q.length 0 t.ID t.Name 0 [] q 0 []).bind fun(a,c,g,e,d,f,b)=>ZG5 a c g e d f b
def ZHe (a y:Int):ZL3:=chk (0<=(32:Int)) <|chk (0<=(32:Int)) <|chk (0<=(32:Int)) <|chk (0<=(32:Int)) <|chk (0<=(32:Int)) <|some ((IntKind.wrap .u64 ((IntKind.wrap .u64 ((IntKind.wrap .u64 ((shrK .u64 a 32)*(shrK .u64 y 32)))+(shrK .u64 (IntKind.wrap .u64 ((IntKind.wrap .u64 ((shrK .u64 a 32)*(andK .u64 y 4294967295)))+(shrK .u64 (IntKind.wrap .u64 ((andK .u64 a 4294967295)*(andK .u64 y 4294967295))) 32))) 32)))+(shrK .u64 (IntKind.wrap .u64 ((andK .u64 (IntKind.wrap .u64 ((IntKind.wrap .u64 ((shrK .u64 a 32)*(andK .u64 y 4294967295)))+(shrK .u64 (IntKind.wrap .u64 ((andK .u64 a 4294967295)*(andK .u64 y 4294967295))) 32))) 4294967295)+(IntKind.wrap .u64 ((andK .u64 a 4294967295)*(shrK .u64 y 32))))) 32))),(IntKind.wrap .u64 (a*y)))
def ZId (a y:Int):ZL3:=(ZHe a y).bind fun(b,l)=>some (b,l)
def ZxN (a:ZxL):Option ZxL:=some a
def ZDe (b:Int->ZxL->Option ZxL) (n:Int) (a:ZxL):Option ZxL:=bif n<(a.length:Int) then chk (Zcp n a.length a.length) <|chk (Zcp 0 n a.length) <|chk ((n).toNat+((a.length:Int).toNat-(n).toNat)<=a.length) <|chk (inK .i64 (n+((min ((a.drop 0).take ((n).toNat-0)).length ((a.length:Int).toNat-(n).toNat):Nat):Int))) <|b (n+((min ((a.drop 0).take ((n).toNat-0)).length ((a.length:Int).toNat-(n).toNat):Nat):Int)) (ZT a ((n).toNat) (((a.drop 0).take ((n).toNat-0)).take (min ((a.drop 0).take ((n).toNat-0)).length ((a.length:Int).toNat-(n).toNat)))) else some a
def ZsE:Nat->Int->ZxL->Option ZxL|0,_,_=>none|a+1,b,c=>ZDe (ZsE a) b c
def ZsF (b:ZxL) (a:Int) (c:Bool):Option ZxL:=bif c then none else chk (mkOk (IntKind.wrap .i64 a) (IntKind.wrap .i64 a) 24) <|(ZsE big ((min b.length (List.replicate ((IntKind.wrap .i64 a)).toNat (G_api_Cell.mk false [])).length:Nat):Int) (b.take (List.replicate ((IntKind.wrap .i64 a)).toNat (G_api_Cell.mk false [])).length++(List.replicate ((IntKind.wrap .i64 a)).toNat (G_api_Cell.mk false [])).drop b.length)).bind fun d=>ZxN d
def ZpI (b:ZxL) (a:Int):Option ZxL:=bif a<0 then none else (ZId (IntKind.wrap .u64 b.length) (IntKind.wrap .u64 a)).bind fun(d,c)=>bif d>0 then ZsF b c true else ZsF b c (c>9223372036854775807)
def ZBJ (g:Int) (e:Str) (d:Int) (a:Str) (f b:Zna) (c:Nat):ZKb:=some ((G_api_Table.mk d a b),0)
def ZuR (h:ZYA) (i:Int) (e:ZxL) (m:Zcy) (l g:Int) (b:G_api_Table) (o:Int) (j:Str) (n:Int) (f:Str) (k a:Zna) (c:Nat):ZNL:=chk (inR i a.length) <|(a[(i).toNat]?).bind fun d=>chk ((i).toNat<c) <|chk (ZjC (d.Cells.length+e.length) 24) <|chk (inR i a.length) <|chk ((i).toNat=(i).toNat/\(i).toNat<c) <|(a[(i).toNat]?).bind fun p=>chk (inK .i64 (g+1)) <|h m l (g+1) b o j n f k (a.set ((i).toNat) (G_api_Column.mk p.Name (d.Cells++e))) c
def Zwc (g:ZYA) (l:Zcy) (h i:Int) (b:G_api_Table) (n:Int) (e:Str) (m:Int) (c:Str) (f d:Zna) (a:Nat):ZNL:=bif i<h then (idx l i).bind fun k=>(ZAY b).bind fun q=>(ZpI ([(G_api_Cell.mk true [])]:ZxL) q).bind fun j=>bif k>=0 then (idx b.Columns k).bind fun Column=>ZuR g i Column.Cells l h i b n e m c f d a else ZuR g i j l h i b n e m c f d a else some (n,e,m,c,f,d,a)
def ZuO:Nat->Zcy->Int->Int->G_api_Table->Int->Str->Int->Str->Zna->Zna->Nat->ZNL|0,_,_,_,_,_,_,_,_,_,_,_=>none|a+1,b,c,d,e,f,g,h,i,j,k,l=>Zwc (ZuO a) b c d e f g h i j k l
def ZDZ (n:Nat) (s:(Zcy×Int×Int×G_api_Table×Int×Str×Int×Str×Zna×Zna×Nat)):ZNL:=ZuO n s.1 s.2.1 s.2.2.1 s.2.2.2.1 s.2.2.2.2.1 s.2.2.2.2.2.1 s.2.2.2.2.2.2.1 s.2.2.2.2.2.2.2.1 s.2.2.2.2.2.2.2.2.1 s.2.2.2.2.2.2.2.2.2.1 s.2.2.2.2.2.2.2.2.2.2
def ZAt (e:(Zcy×Int×Int×G_api_Table×Int×Str×Int×Str×Zna×Zna×Nat)->ZNL) (s:(Zcy×Int×Int×G_api_Table×Int×Str×Int×Str×Zna×Zna×Nat)):ZNL:=Zwc (fun j h i b l f k c g d a=>e (j,h,i,b,l,f,k,c,g,d,a)) s.1 s.2.1 s.2.2.1 s.2.2.2.1 s.2.2.2.2.1 s.2.2.2.2.2.1 s.2.2.2.2.2.2.1 s.2.2.2.2.2.2.2.1 s.2.2.2.2.2.2.2.2.1 s.2.2.2.2.2.2.2.2.2.1 s.2.2.2.2.2.2.2.2.2.2
theorem ZGX (n s):ZDZ (n+1) s=ZAt (ZDZ n) s:=rfl
def ZBK (c:Zcy) (a b:G_api_Table) (m:Int) (f:Str) (g:Zna):ZKb:=(ZAY a).bind fun q=>(ZAY b).bind fun h=>chk (inK .i64 (q+h)) <|bif (q+h)>4096 then some ((G_api_Table.mk 0 [] []),3) else (ZGs a).bind fun(e,d)=>(ZuO big c c.length 0 b m f e.ID e.Name g e.Columns d).bind fun(j,l,i,o,n,p,k)=>ZBJ j l i o n p k
def ZyD (d:ZSt) (c g:Zcy) (j i:Int) (h:Bool) (a b:G_api_Table) (k:Int) (f:Str) (e:Zna):ZPB:=bif h then some (.ret ((G_api_Table.mk 0 [] []),6)) else chk (inK .i64 (i+1)) <|d c g j (i+1) a b k f e
def Zwd (f:ZSt) (c g:Zcy) (h i:Int) (a b:G_api_Table) (j:Int) (d:Str) (e:Zna):ZPB:=bif i<h then (idx g i).bind fun k=>bif k>=0 then chk (Zcp 0 i c.length) <|(ZvT (c.take (i).toNat) k).bind fun q=>ZyD f c g h i q a b j d e else ZyD f c g h i false a b j d e else some (.brk (c,a,b,j,d,e))
def ZuP:Nat->Zcy->Zcy->Int->Int->G_api_Table->G_api_Table->Int->Str->Zna->ZPB|0,_,_,_,_,_,_,_,_,_=>none|a+1,b,c,d,e,f,g,h,i,j=>Zwd (ZuP a) b c d e f g h i j
def ZD0 (n:Nat) (s:(Zcy×Zcy×Int×Int×G_api_Table×G_api_Table×Int×Str×Zna)):ZPB:=ZuP n s.1 s.2.1 s.2.2.1 s.2.2.2.1 s.2.2.2.2.1 s.2.2.2.2.2.1 s.2.2.2.2.2.2.1 s.2.2.2.2.2.2.2.1 s.2.2.2.2.2.2.2.2
def ZAu (d:ZYx) (s:(Zcy×Zcy×Int×Int×G_api_Table×G_api_Table×Int×Str×Zna)):ZPB:=Zwd (fun c g h i a b j e f=>d (c,g,h,i,a,b,j,e,f)) s.1 s.2.1 s.2.2.1 s.2.2.2.1 s.2.2.2.2.1 s.2.2.2.2.2.1 s.2.2.2.2.2.2.1 s.2.2.2.2.2.2.2.1 s.2.2.2.2.2.2.2.2
theorem ZGY (n s):ZD0 (n+1) s=ZAu (ZD0 n) s:=rfl
def ZBL (c:Zcy) (a b:G_api_Table) (g:Int) (d:Str) (e:Zna):ZKb:=(ZuP big c c c.length 0 a b g d e).bind fun| .ret f=>some f| .brk (x0,x1,x2,x3,x4,x5)=>ZBK x0 x1 x2 x3 x4 x5
def ZyE (e:ZSt) (c j:Zcy) (h d:Int) (i:Bool) (a b:G_api_Table) (k:Int) (f:Str) (g:Zna):ZPB:=bif i then some (.ret ((G_api_Table.mk 0 [] []),2)) else chk (inK .i64 (d+1)) <|e c j h (d+1) a b k f g
def Zwe (g:ZSt) (c i:Zcy) (h f:Int) (a b:G_api_Table) (j:Int) (d:Str) (e:Zna):ZPB:=bif f<h then (idx i f).bind fun k=>bif k<(-1) then ZyE g c i h f true a b j d e else ZyE g c i h f (k>=b.Columns.length) a b j d e else some (.brk (c,a,b,j,d,e))
def ZuQ:Nat->Zcy->Zcy->Int->Int->G_api_Table->G_api_Table->Int->Str->Zna->ZPB|0,_,_,_,_,_,_,_,_,_=>none|a+1,b,c,d,e,f,g,h,i,j=>Zwe (ZuQ a) b c d e f g h i j
def ZD1 (n:Nat) (s:(Zcy×Zcy×Int×Int×G_api_Table×G_api_Table×Int×Str×Zna)):ZPB:=ZuQ n s.1 s.2.1 s.2.2.1 s.2.2.2.1 s.2.2.2.2.1 s.2.2.2.2.2.1 s.2.2.2.2.2.2.1 s.2.2.2.2.2.2.2.1 s.2.2.2.2.2.2.2.2
def ZAv (d:ZYx) (s:(Zcy×Zcy×Int×Int×G_api_Table×G_api_Table×Int×Str×Zna)):ZPB:=Zwe (fun c i g h a b j e f=>d (c,i,g,h,a,b,j,e,f)) s.1 s.2.1 s.2.2.1 s.2.2.2.1 s.2.2.2.2.1 s.2.2.2.2.2.1 s.2.2.2.2.2.2.1 s.2.2.2.2.2.2.2.1 s.2.2.2.2.2.2.2.2
theorem ZGZ (n s):ZD1 (n+1) s=ZAv (ZD1 n) s:=rfl
def ZuS (c:Zcy) (f:Bool) (a b:G_api_Table) (h:Int) (d:Str) (e:Zna):ZKb:=bif f then some ((G_api_Table.mk 0 [] []),1) else (ZuQ big c c c.length 0 a b h d e).bind fun| .ret g=>some g| .brk (x0,x1,x2,x3,x4,x5)=>ZBL x0 x1 x2 x3 x4 x5
def ZxT (a b:G_api_Table) (c:Zcy):ZKb:=(ZrL a).bind fun q=>bif !q then ZuS c true a b 0 [] [] else (ZrL b).bind fun d=>bif !d then ZuS c true a b 0 [] [] else ZuS c ((c.length:Int)!=(a.Columns.length:Int)) a b 0 [] []
def ZvY:Option Bool:=some true
def Zrc (a:Zcy->Zcy->Int->Int->Zry) (b c:Zcy) (d i:Int):Zry:=bif i<d then (idx c i).bind fun n=>(idx b i).bind fun e=>bif e != n then some (.ret false) else chk (inK .i64 (i+1)) <|a b c d (i+1) else some (.brk ())
def Zr9:Nat->Zcy->Zcy->Int->Int->Zry|0,_,_,_,_=>none|a+1,b,c,d,e=>Zrc (Zr9 a) b c d e
def ZAh (n:Nat) (s:(Zcy×Zcy×Int×Int)):Zry:=Zr9 n s.1 s.2.1 s.2.2.1 s.2.2.2
def Zus (a:(Zcy×Zcy×Int×Int)->Zry) (s:(Zcy×Zcy×Int×Int)):Zry:=Zrc (fun b c d i=>a (b,c,d,i)) s.1 s.2.1 s.2.2.1 s.2.2.2
theorem ZEd (n s):ZAh (n+1) s=Zus (ZAh n) s:=rfl
def Zp2 (a b:Zcy):Option Bool:=bif (a.length:Int)!=(b.length:Int) then some false else (Zr9 big b a a.length 0).bind fun| .ret c=>some c| .brk ()=>ZvY
def ZDr (a:Zcy):Option Zcy:=some a
def Zzd (b:ZQO) (a:Zcy) (c:Bool):Option Zcy:=bif c then chk (inK .i64 ((a.length:Int)-1)) <|chk (Zcp 0 ((a.length:Int)-1) a.length) <|b (a.take (((a.length:Int)-1)).toNat) else some a
def ZCf (a:ZQO) (b:Zcy):Option Zcy:=bif (b.length:Int)>0 then chk (inK .i64 ((b.length:Int)-1)) <|(idx b ((b.length:Int)-1)).bind fun c=>Zzd a b (c==0) else Zzd a b false
def ZpA:Nat->Zcy->Option Zcy|0,_=>none|a+1,b=>ZCf (ZpA a) b
def Zpe (a:Zcy):Option Zcy:=(ZpA big a).bind fun b=>ZDr b
def ZvL (a:Zgo):Option Zgo:=some a
def ZoV (b:Bool) (c:Zcy):Option Zgo:=(Zpe c).bind fun a=>bif b then ZvL (Zgo.mk ((a.length:Int)>0) a) else ZvL (Zgo.mk false a)
def ZsX (n u:Int) (b:Bool) (a:Zcy):Option Zgo:=chk (0<=(32:Int)) <|(ZoV (n<0) ([(IntKind.wrap .u32 u),(IntKind.wrap .u32 (shrK .u64 u 32))]:Zcy)).bind fun q=>some q
def ZoP (n:Int):Option Zgo:=bif n<0 then ZsX n (IntKind.wrap .u64 (0-(IntKind.wrap .u64 n))) false [] else ZsX n (IntKind.wrap .u64 n) false []
def Zpg (a:Bool):Option Bool:=some a
def Zqa (a:Zgo):Option Bool:=bif (a.Words.length:Int)<=256 then bif (a.Words.length:Int)==0 then bif !a.Neg then Zpg true else bif (a.Words.length:Int)>0 then chk (inK .i64 ((a.Words.length:Int)-1)) <|(idx a.Words ((a.Words.length:Int)-1)).bind fun Word=>Zpg (Word != 0) else Zpg false else bif (a.Words.length:Int)>0 then chk (inK .i64 ((a.Words.length:Int)-1)) <|(idx a.Words ((a.Words.length:Int)-1)).bind fun Word_1=>Zpg (Word_1 != 0) else Zpg false else Zpg false
def Zze (a:Zcy):Option Zcy:=(Zpe a).bind fun q=>some q
def Zr1 (b:ZYc) (a:Zcy) (d i:Int) (c:Zcy):Option Zcy:=chk (inK .i64 (i+1)) <|b a d (i+1) c
def Ztw (d:ZYc) (a:Zcy) (e i:Int) (c:Zcy):Option Zcy:=bif i<e then chk (inR i c.length) <|(c[(i).toNat]?).bind fun b=>chk (0<=(1:Int)) <|chk (inR i c.length) <|chk (inK .i64 (i+1)) <|bif (i+1)<(a.length:Int) then chk (inR i ((c.set ((i).toNat) (shrK .u32 b 1)).length:Int)) <|((c.set ((i).toNat) (shrK .u32 b 1))[(i).toNat]?).bind fun f=>chk (inK .i64 (i+1)) <|(idx a (i+1)).bind fun g=>chk (0<=(31:Int)) <|chk (inR i ((c.set ((i).toNat) (shrK .u32 b 1)).length:Int)) <|Zr1 d a e i ((c.set ((i).toNat) (shrK .u32 b 1)).set ((i).toNat) (orK .u32 f (shlK .u32 g 31))) else Zr1 d a e i (c.set ((i).toNat) (shrK .u32 b 1)) else some c
def Zr0:Nat->Zcy->Int->Int->Zcy->Option Zcy|0,_,_,_,_=>none|a+1,b,c,d,e=>Ztw (Zr0 a) b c d e
def ZCg (n:Nat) (s:(Zcy×Int×Int×Zcy)):Option Zcy:=Zr0 n s.1 s.2.1 s.2.2.1 s.2.2.2
def Zxv (b:(Zcy×Int×Int×Zcy)->Option Zcy) (s:(Zcy×Int×Int×Zcy)):Option Zcy:=Ztw (fun a d i c=>b (a,d,i,c)) s.1 s.2.1 s.2.2.1 s.2.2.2
theorem ZFF (n s):ZCg (n+1) s=Zxv (ZCg n) s:=rfl
def Zqs (a:Zcy):Option Zcy:=chk (ZjC (([]:Zcy).length+a.length) 4) <|(Zr0 big a ((([]:Zcy)++a).length:Int) 0 (([]:Zcy)++a)).bind fun b=>Zze b
def Zz4:Option Int:=some 0
def Zt1 (e:Zcy->Zcy->Int->ZDE) (a b:Zcy) (i:Int):ZDE:=bif i>=0 then (idx a i).bind fun g=>(idx b i).bind fun f=>bif g<f then some (.ret (-1)) else (idx a i).bind fun d=>(idx b i).bind fun c=>bif d>c then some (.ret 1) else chk (inK .i64 (i-1)) <|e a b (i-1) else some (.brk ())
def ZvK:Nat->Zcy->Zcy->Int->ZDE|0,_,_,_=>none|a+1,b,c,d=>Zt1 (ZvK a) b c d
def ZCH (n:Nat) (s:(Zcy×Zcy×Int)):ZDE:=ZvK n s.1 s.2.1 s.2.2
def Zyj (c:(Zcy×Zcy×Int)->ZDE) (s:(Zcy×Zcy×Int)):ZDE:=Zt1 (fun a b i=>c (a,b,i)) s.1 s.2.1 s.2.2
theorem ZGb (n s):ZCH (n+1) s=Zyj (ZCH n) s:=rfl
def Zpy (a b:Zcy):Option Int:=bif (a.length:Int)!=(b.length:Int) then bif (a.length:Int)<(b.length:Int) then some (-1) else some 1 else chk (inK .i64 ((a.length:Int)-1)) <|(ZvK big a b ((a.length:Int)-1)).bind fun| .ret c=>some c| .brk ()=>Zz4
def ZzV (a:Zcy):Option Zcy:=(Zpe a).bind fun q=>some q
def Zsu (d:ZSp) (a b:Zcy) (c i:Int) (e:Zcy):Option Zcy:=chk (ZjC (e.length+([(IntKind.wrap .u32 c)]:Zcy).length) 4) <|chk (0<=(32:Int)) <|chk (inK .i64 (i+1)) <|d a b (shrK .i64 c 32) (i+1) (e++([(IntKind.wrap .u32 c)]:Zcy))
def ZtU (e:ZSp) (a b:Zcy) (c i:Int) (f:Zcy):Option Zcy:=bif i<a.length then (idx a i).bind fun d=>chk (inK .i64 (c+(IntKind.wrap .i64 d))) <|bif i<b.length then (idx b i).bind fun g=>chk (inK .i64 ((c+(IntKind.wrap .i64 d))-(IntKind.wrap .i64 g))) <|Zsu e a b ((c+(IntKind.wrap .i64 d))-(IntKind.wrap .i64 g)) i f else Zsu e a b (c+(IntKind.wrap .i64 d)) i f else some f
def Zst:Nat->Zcy->Zcy->Int->Int->Zcy->Option Zcy|0,_,_,_,_,_=>none|a+1,b,c,d,e,f=>ZtU (Zst a) b c d e f
def ZCD (n:Nat) (s:(Zcy×Zcy×Int×Int×Zcy)):Option Zcy:=Zst n s.1 s.2.1 s.2.2.1 s.2.2.2.1 s.2.2.2.2
def Zyd (d:ZYh) (s:(Zcy×Zcy×Int×Int×Zcy)):Option Zcy:=ZtU (fun a b c i e=>d (a,b,c,i,e)) s.1 s.2.1 s.2.2.1 s.2.2.2.1 s.2.2.2.2
theorem ZF7 (n s):ZCD (n+1) s=Zyd (ZCD n) s:=rfl
def ZqS (a b:Zcy):Option Zcy:=(Zst big a b 0 0 []).bind fun c=>ZzV c
def Zyc (d:Int) (a:Zcy):Option Zcy:=chk (ZjC (a.length+[d].length) 4) <|(Zpe (a++[d])).bind fun q=>some q
def ZsV (f:Zcy->Int->Int->Zcy->ZDn) (a:Zcy) (d i:Int) (c:Zcy):ZDn:=bif i<(a.length:Int) then (idx a i).bind fun e=>chk (0<=(1:Int)) <|chk (ZjC (c.length+([(orK .u32 (shlK .u32 e 1) d)]:Zcy).length) 4) <|(idx a i).bind fun b=>chk (0<=(31:Int)) <|chk (inK .i64 (i+1)) <|f a (shrK .u32 b 31) (i+1) (c++([(orK .u32 (shlK .u32 e 1) d)]:Zcy)) else some (d,c)
def ZtT:Nat->Zcy->Int->Int->Zcy->ZDn|0,_,_,_,_=>none|a+1,b,c,d,e=>ZsV (ZtT a) b c d e
def ZBu (n:Nat) (s:(Zcy×Int×Int×Zcy)):ZDn:=ZtT n s.1 s.2.1 s.2.2.1 s.2.2.2
def ZwN (b:(Zcy×Int×Int×Zcy)->ZDn) (s:(Zcy×Int×Int×Zcy)):ZDn:=ZsV (fun a d i c=>b (a,d,i,c)) s.1 s.2.1 s.2.2.1 s.2.2.2
theorem ZFi (n s):ZBu (n+1) s=ZwN (ZBu n) s:=rfl
def Zta (a:Zcy) (d:Int):Option Zcy:=(ZtT big a d 0 []).bind fun(c,b)=>Zyc c b
def ZzY (a:Zcy):Option Zcy:=some a
def ZtX (b:Zcy->Int->Option Zcy) (a:Zcy) (k:Int):Option Zcy:=bif k>0 then (Zta a 0).bind fun c=>chk (inK .i64 (k-1)) <|b c (k-1) else some a
def ZqN:Nat->Zcy->Int->Option Zcy|0,_,_=>none|a+1,b,c=>ZtX (ZqN a) b c
def ZzZ (a:Zcy) (k:Int):Option Zcy:=(ZqN big a k).bind fun b=>ZzY b
def ZvI (c:ZSk) (a b:Zcy) (k:Int):ZMQ:=(ZqS b a).bind fun d=>c a d k
def Zz0 (c:ZSk) (a b:Zcy) (k:Int):ZMQ:=(Zpy a b).bind fun q=>bif q>0 then ZvI c b a k else ZvI c a b k
def Zyg (c:ZSj) (a b:Zcy) (k:Int):ZMU:=(idx b 0).bind fun d=>bif (andK .u32 d 1)==0 then (Zqs b).bind fun e=>c a e k else some (a,b,k)
def Zpq:Nat->Zcy->Zcy->Int->ZMU|0,_,_,_=>none|a+1,b,c,d=>Zyg (Zpq a) b c d
def Zz1 (c:ZSk) (a b:Zcy) (k:Int):ZMQ:=(Zpq big a b k).bind fun(f,d,e)=>Zz0 c f d e
def ZtY (c:ZSj) (a b:Zcy) (k:Int):ZMU:=(idx a 0).bind fun d=>bif (andK .u32 d 1)==0 then (Zqs a).bind fun e=>c e b k else some (a,b,k)
def Zpr:Nat->Zcy->Zcy->Int->ZMU|0,_,_,_=>none|a+1,b,c,d=>ZtY (Zpr a) b c d
def ZtZ (c:ZSk) (a b:Zcy) (k:Int):ZMQ:=bif (b.length:Int)>0 then (Zpr big a b k).bind fun(f,d,e)=>Zz1 c f d e else some (a,k)
def ZoY:Nat->Zcy->Zcy->Int->ZMQ|0,_,_,_=>none|a+1,b,c,d=>ZtZ (ZoY a) b c d
def Zz2 (a b:Zcy) (k:Int):Option Zcy:=(ZoY big a b k).bind fun(d,c)=>ZzZ d c
def ZvJ (c:ZSj) (a b:Zcy) (k:Int) (d:Bool):ZMU:=bif d then (Zqs a).bind fun f=>(Zqs b).bind fun e=>chk (inK .i64 (k+1)) <|c f e (k+1) else some (a,b,k)
def Zyh (c:ZSj) (a b:Zcy) (k:Int):ZMU:=(idx a 0).bind fun e=>bif (andK .u32 e 1)==0 then (idx b 0).bind fun d=>ZvJ c a b k ((andK .u32 d 1)==0) else ZvJ c a b k false
def ZqO:Nat->Zcy->Zcy->Int->ZMU|0,_,_,_=>none|a+1,b,c,d=>Zyh (ZqO a) b c d
def ZuW (a b:Zcy):Option Zcy:=(ZqO big a b 0).bind fun(e,c,d)=>Zz2 e c d
def ZyO (a:Zcy) (i:Int):Option Int:=chk ((32:Int)≠0) <|chk (inK .i64 (Int.tdiv i 32)) <|(idx a (Int.tdiv i 32)).bind fun b=>chk ((32:Int)≠0) <|chk (0<=(IntKind.wrap .u64 (Int.tmod i 32))) <|some (andK .u32 (shrK .u32 b (IntKind.wrap .u64 (Int.tmod i 32))) 1)
def Zz3 (b q:Zcy):ZKa:=(Zpe q).bind fun a=>some (a,b)
def Zsx (c:ZYe) (a b d:Zcy) (i:Int) (q:Zcy):ZKa:=chk (inK .i64 (i-1)) <|c a b d (i-1) q
def Zt0 (d:ZYe) (a b j:Zcy) (i:Int) (q:Zcy):ZKa:=bif i>=0 then (ZyO a i).bind fun h=>(Zta j h).bind fun c=>(Zpy c b).bind fun f=>bif f>=0 then (ZqS c b).bind fun e=>chk ((32:Int)≠0) <|chk (inK .i64 (Int.tdiv i 32)) <|chk (inR (Int.tdiv i 32) q.length) <|(q[((Int.tdiv i 32)).toNat]?).bind fun g=>chk ((32:Int)≠0) <|chk (0<=(IntKind.wrap .u64 (Int.tmod i 32))) <|chk (inR (Int.tdiv i 32) q.length) <|Zsx d a b e i (q.set (((Int.tdiv i 32)).toNat) (orK .u32 g (shlK .u32 1 (IntKind.wrap .u64 (Int.tmod i 32))))) else Zsx d a b c i q else some (j,q)
def Zsw:Nat->Zcy->Zcy->Zcy->Int->Zcy->ZKa|0,_,_,_,_,_=>none|a+1,b,c,d,e,f=>Zt0 (Zsw a) b c d e f
def ZCG (n:Nat) (s:(Zcy×Zcy×Zcy×Int×Zcy)):ZKa:=Zsw n s.1 s.2.1 s.2.2.1 s.2.2.2.1 s.2.2.2.2
def Zyi (c:(Zcy×Zcy×Zcy×Int×Zcy)->ZKa) (s:(Zcy×Zcy×Zcy×Int×Zcy)):ZKa:=Zt0 (fun a b d i q=>c (a,b,d,i,q)) s.1 s.2.1 s.2.2.1 s.2.2.2.1 s.2.2.2.2
theorem ZGa (n s):ZCG (n+1) s=Zyi (ZCG n) s:=rfl
def ZuX (a b:Zcy):ZKa:=chk (mkOk a.length a.length 4) <|chk (inK .i64 (32*(a.length:Int))) <|chk (inK .i64 ((32*(a.length:Int))-1)) <|(Zsw big a b [] ((32*(a.length:Int))-1) (List.replicate ((a.length:Int)).toNat (0:Int))).bind fun(d,c)=>Zz3 d c
def ZqM (a b:Zgo):Option ZbF:=bif (a.Words.length:Int)==0 then (ZoP 1).bind fun q=>some (ZbF.mk (Zgo.mk false []) q) else (ZuW a.Words b.Words).bind fun g=>(ZuX a.Words g).bind fun(e,h)=>(ZuX b.Words g).bind fun(y,f)=>(ZoV (!(a.Neg==b.Neg)) e).bind fun c=>(ZoV false y).bind fun d=>some (ZbF.mk c d)
def ZuF (c:Bool) (b a:Zgo) (g d:Bool) (e f:Zcy):ZHz:=bif c then some ((ZbF.mk (Zgo.mk false []) (Zgo.mk false [])),1) else bif (a.Words.length:Int)==0 then some ((ZbF.mk (Zgo.mk false []) (Zgo.mk false [])),8) else (ZqM b a).bind fun q=>some (q,0)
def Zxw (b a:Zgo):ZHz:=(Zqa b).bind fun q=>bif !q then ZuF true b a false false [] [] else (Zqa a).bind fun c=>ZuF (!c) b a false false [] []
def Zv5 (d c:Int):ZHz:=(ZoP d).bind fun q=>(ZoP c).bind fun e=>(Zxw q e).bind fun(b,a)=>some (b,a)
def ZAZ (n d:Int):Option ZbF:=(Zv5 n d).bind fun(f,q)=>some f
def ZqK (n d:Int):Option ZbF:=ZLa (ZAZ n d)
def ZBO (n:Int):Option ZbF:=(ZqK n 1).bind fun q=>some q
def Zo6 (n:Int):Option ZbF:=ZLa (ZBO n)
def ZwJ:Option Bool:=some true
def ZrC (a:Zcy->Int->Int->Zgo->Zry) (d:Zcy) (c i:Int) (b:Zgo):Zry:=bif i<c then (idx d i).bind fun e=>(idx b.Words i).bind fun Word=>bif Word != e then some (.ret false) else chk (inK .i64 (i+1)) <|a d c (i+1) b else some (.brk ())
def ZsS:Nat->Zcy->Int->Int->Zgo->Zry|0,_,_,_,_=>none|a+1,b,c,d,e=>ZrC (ZsS a) b c d e
def ZAA (n:Nat) (s:(Zcy×Int×Int×Zgo)):Zry:=ZsS n s.1 s.2.1 s.2.2.1 s.2.2.2
def Zvc (a:(Zcy×Int×Int×Zgo)->Zry) (s:(Zcy×Int×Int×Zgo)):Zry:=ZrC (fun d c i b=>a (d,c,i,b)) s.1 s.2.1 s.2.2.1 s.2.2.2
theorem ZEE (n s):ZAA (n+1) s=Zvc (ZAA n) s:=rfl
def ZsT (c:Bool) (a b:Zgo):Option Bool:=bif c then some false else (ZsS big a.Words a.Words.length 0 b).bind fun| .ret d=>some d| .brk ()=>ZwJ
def ZrW (a b:Zgo):Option Bool:=bif !(a.Neg==b.Neg) then ZsT true a b else ZsT ((a.Words.length:Int)!=(b.Words.length:Int)) a b
def Zuy (a:Bool):Option Bool:=some a
def Zpd (a b:ZbF):Option Bool:=(ZrW a.Num b.Num).bind fun q=>bif q then (ZrW a.Den b.Den).bind fun c=>Zuy c else Zuy false
def ZrE (t:G_api_Table):Option Int:=bif (t.Columns.length:Int)==0 then some 0 else (idx t.Columns 0).bind fun Column=>some (Column.Cells.length:Int)
def Zpw (a:Bool):Option Bool:=some a
def Zq8:Option Bool:=chk (inR 1 (([(G_api_Column.mk ([99,105,116,121]:Str) ([(G_api_Cell.mk false ([120]:Str))]:ZxL)),(G_api_Column.mk ([110,97,109,101]:Str) ([(G_api_Cell.mk false ([121]:Str))]:ZxL))]:Zna).length:Int)) <|(([(G_api_Column.mk ([99,105,116,121]:Str) ([(G_api_Cell.mk false ([120]:Str))]:ZxL)),(G_api_Column.mk ([110,97,109,101]:Str) ([(G_api_Cell.mk false ([121]:Str))]:ZxL))]:Zna)[((1:Int)).toNat]?).bind fun G_api_Column_e=>chk (inR 0 (([(G_api_Column.mk ([99,105,116,121]:Str) ([(G_api_Cell.mk false ([120]:Str))]:ZxL)),(G_api_Column.mk ([110,97,109,101]:Str) ([(G_api_Cell.mk false ([121]:Str))]:ZxL))]:Zna).length:Int)) <|(([(G_api_Column.mk ([99,105,116,121]:Str) ([(G_api_Cell.mk false ([120]:Str))]:ZxL)),(G_api_Column.mk ([110,97,109,101]:Str) ([(G_api_Cell.mk false ([121]:Str))]:ZxL))]:Zna)[((0:Int)).toNat]?).bind fun G_api_Column_e_1=>(Zqr (G_api_Table.mk 1 [] ([(G_api_Column.mk ([99,105,116,121]:Str) ([(G_api_Cell.mk false ([120]:Str))]:ZxL)),(G_api_Column.mk ([110,97,109,101]:Str) ([(G_api_Cell.mk false ([121]:Str))]:ZxL))]:Zna)) (G_api_Table.mk 2 [] ([G_api_Column_e,G_api_Column_e_1]:Zna))).bind fun(l,s,e)=>(ZxT (G_api_Table.mk 1 [] ([(G_api_Column.mk ([99,105,116,121]:Str) ([(G_api_Cell.mk false ([120]:Str))]:ZxL)),(G_api_Column.mk ([110,97,109,101]:Str) ([(G_api_Cell.mk false ([121]:Str))]:ZxL))]:Zna)) (G_api_Table.mk 2 [] ([G_api_Column_e,G_api_Column_e_1]:Zna)) ([1,0]:Zcy)).bind fun(t,f)=>bif e==0 then bif f==0 then (Zp2 l ([1,0]:Zcy)).bind fun q=>bif q then (Zo6 1).bind fun c=>(Zpd s c).bind fun a=>bif a then (ZrE t).bind fun b=>Zpw (b==2) else Zpw false else Zpw false else Zpw false else Zpw false
def Zym:Option Bool:=some true
def Zt5 (a:Zna->Int->Int->Zry) (e:Zna) (c b:Int) (d:Bool):Zry:=bif d then some (.ret false) else chk (inK .i64 (b+1)) <|a e c (b+1)
def Zs1 (b:Zna->Int->Int->Zry) (e:Zna) (d a:Int):Zry:=bif a<d then (idx e a).bind fun c=>bif (c.Cells.length:Int)>10 then Zt5 b e d a true else Zt5 b e d a ((c.Name.length:Int)>100) else some (.brk ())
def Zrq:Nat->Zna->Int->Int->Zry|0,_,_,_=>none|a+1,b,c,d=>Zs1 (Zrq a) b c d
def ZBy (n:Nat) (s:(Zna×Int×Int)):Zry:=Zrq n s.1 s.2.1 s.2.2
def ZwS (a:(Zna×Int×Int)->Zry) (s:(Zna×Int×Int)):Zry:=Zs1 (fun c b d=>a (c,b,d)) s.1 s.2.1 s.2.2
theorem ZFl (n s):ZBy (n+1) s=ZwS (ZBy n) s:=rfl
def Zwm (t:G_api_Table):Option Bool:=bif (t.Columns.length:Int)>10 then some false else (Zrq big t.Columns t.Columns.length 0).bind fun| .ret a=>some a| .brk ()=>Zym
def ZCP (t:Zcy):Option ZbZ:=some (ZbZ.mk t 0)
def Zup (n m:Int):Option Int:=bif m<1 then some 0 else chk (m≠0) <|chk (inK .i64 ((Int.tmod n m)+m)) <|chk (m≠0) <|some (Int.tmod ((Int.tmod n m)+m) m)
def Zi5 (d:ZbZ) (n:Int):Option (Int×ZbZ):=bif d.at_>=d.l.length then some (0,d) else chk (inK .i64 (d.at_+1)) <|chk (inK .i64 ((d.at_+1)-1)) <|(idx d.l ((d.at_+1)-1)).bind fun a=>(Zup a n).bind fun q=>some (q,(ZbZ.mk d.l (d.at_+1)))
def ZoQ (d:ZbZ) (l:Zpi):Option (Str×ZbZ):=(Zi5 d l.length).bind fun(q,b)=>(idx l q).bind fun a=>some (a,b)
def Zv6 (d:ZbZ):ZXZ:=(Zi5 d 7).bind fun(q,b)=>bif q==1 then some ((G_api_Cell.mk true []),b) else (ZoQ b ([[97],[98],[99],[49],[50],[51],[49,48],[120],[45,49,46,53],[50]]:Zpi)).bind fun(a,c)=>some ((G_api_Cell.mk false a),c)
def ZBE (n:Int):Option Str:=some (Lib.itoa n)
def Zt8 (d:ZbZ):ZXZ:=(Zi5 d 9).bind fun(q,g)=>bif q==1 then some ((G_api_Cell.mk true []),g) else bif q==2 then (ZoQ g ([[120],[],[49,46,50,46,51],[49,46,53,48]]:Zpi)).bind fun(e,f)=>some ((G_api_Cell.mk false e),f) else (Zi5 g 12).bind fun(a,c)=>chk (inK .i64 (a-3)) <|(ZBE (a-3)).bind fun b=>some ((G_api_Cell.mk false b),c)
def Zzg (d:ZbZ) (e c:Str) (b a:ZxL):ZX0:=some ((G_api_Column.mk c a),d)
def ZpB (f:ZYs) (e g i:Int) (d:ZbZ) (j c:Str) (h:G_api_Cell) (a b:ZxL):ZNN:=chk (ZjC (b.length+[h].length) 24) <|chk (inK .i64 (i+1)) <|f e g (i+1) d j c a (b++[h])
def Ztx (e:ZYs) (a g i:Int) (d:ZbZ) (j c:Str) (b f:ZxL):ZNN:=bif i<g then (Zv6 d).bind fun(o,h)=>bif a==0 then (Zt8 h).bind fun(k,m)=>ZpB e a g i m j c k b f else bif a==1 then (ZBE i).bind fun q=>chk (([107]:Str).length+q.length<=Zr) <|ZpB e a g i h j c (G_api_Cell.mk false (([107]:Str)++q)) b f else bif a==2 then (ZoQ h ([([97]:Str),([98]:Str),([99]:Str),([100]:Str)]:Zpi)).bind fun(n,l)=>ZpB e a g i l j c (G_api_Cell.mk false n) b f else ZpB e a g i h j c o b f else some (d,j,c,b,f)
def Zr3:Nat->Int->Int->Int->ZbZ->Str->Str->ZxL->ZxL->ZNN|0,_,_,_,_,_,_,_,_=>none|a+1,b,c,d,e,f,g,h,i=>Ztx (Zr3 a) b c d e f g h i
def ZCj (n:Nat) (s:(Int×Int×Int×ZbZ×Str×Str×ZxL×ZxL)):ZNN:=Zr3 n s.1 s.2.1 s.2.2.1 s.2.2.2.1 s.2.2.2.2.1 s.2.2.2.2.2.1 s.2.2.2.2.2.2.1 s.2.2.2.2.2.2.2
def Zxy (e:(Int×Int×Int×ZbZ×Str×Str×ZxL×ZxL)->ZNN) (s:(Int×Int×Int×ZbZ×Str×Str×ZxL×ZxL)):ZNN:=Ztx (fun b g i d h c a f=>e (b,g,i,d,h,c,a,f)) s.1 s.2.1 s.2.2.1 s.2.2.2.1 s.2.2.2.2.1 s.2.2.2.2.2.1 s.2.2.2.2.2.2.1 s.2.2.2.2.2.2.2
theorem ZFH (n s):ZCj (n+1) s=Zxy (ZCj n) s:=rfl
def Zua (d:ZbZ) (b:Int):ZX0:=(ZoQ d ([[105,100],[110,97,109,101],[85,110,105,116,32,80,114,105,99,101],[99,105,116,121],[117,110,105,116],[112,114,105,99,101],[105,100,50],[]]:Zpi)).bind fun(q,f)=>(Zi5 f 5).bind fun(a,c)=>(Zr3 big a b 0 c [] q [] []).bind fun(e,g,j,i,h)=>Zzg e g j i h
def ZvR (d:ZbZ) (f:Int) (c:Str) (t:Int) (a:Str) (e b:Zna):ZQM:=some ((G_api_Table.mk t a b),d)
def Zz6 (d:ZbZ) (g:Int) (a:Str) (t:Int) (c:Str) (b f:Zna):ZQM:=(Zi5 d 15).bind fun(q,e)=>bif q==1 then ZvR e g a t c b [] else ZvR e g a t c b f
def Zyn (g:Int->Int->ZbZ->Int->Str->Int->Str->Zna->Zna->ZPr) (c k:Int) (d:ZbZ) (i:Int) (a:Str) (t:Int) (f:Str) (b e:Zna):ZPr:=bif k>0 then (Zua d c).bind fun(q,h)=>chk (ZjC (e.length+[q].length) 40) <|chk (inK .i64 (k-1)) <|g c (k-1) h i a t f b (e++[q]) else some (d,i,a,t,f,b,e)
def ZvQ:Nat->Int->Int->ZbZ->Int->Str->Int->Str->Zna->Zna->ZPr|0,_,_,_,_,_,_,_,_,_=>none|a+1,b,c,d,e,f,g,h,i,j=>Zyn (ZvQ a) b c d e f g h i j
def ZCN (n:Nat) (s:(Int×Int×ZbZ×Int×Str×Int×Str×Zna×Zna)):ZPr:=ZvQ n s.1 s.2.1 s.2.2.1 s.2.2.2.1 s.2.2.2.2.1 s.2.2.2.2.2.1 s.2.2.2.2.2.2.1 s.2.2.2.2.2.2.2.1 s.2.2.2.2.2.2.2.2
def ZCO (c:(Int×Int×ZbZ×Int×Str×Int×Str×Zna×Zna)->ZPr) (s:(Int×Int×ZbZ×Int×Str×Int×Str×Zna×Zna)):ZPr:=Zyn (fun e k d h a t f b g=>c (e,k,d,h,a,t,f,b,g)) s.1 s.2.1 s.2.2.1 s.2.2.2.1 s.2.2.2.2.1 s.2.2.2.2.2.1 s.2.2.2.2.2.2.1 s.2.2.2.2.2.2.2.1 s.2.2.2.2.2.2.2.2
theorem ZGd (n s):ZCN (n+1) s=ZCO (ZCN n) s:=rfl
def Zu0 (d:ZbZ) (k:Int):ZQM:=(ZoQ d ([[116],[111,114,100,101,114,115],[]]:Zpi)).bind fun(q,h)=>(Zi5 h 7).bind fun(a,e)=>(Zi5 e 3).bind fun(b,c)=>chk (inK .i64 (1+b)) <|(ZvQ big a (1+b) c 0 [] k q [] []).bind fun(f,i,n,l,j,m,g)=>Zz6 f i n l j m g
def Zu2 (d:ZbZ) (e a:Int) (c:Str) (b:Zcy):ZPk:=some ((Zk3.mk e a c b),d)
def ZqT (d:ZbZ) (h e:Int) (f:Str) (o a:Int) (b:Str) (g c:Zcy):ZPk:=Zu2 d o a b c
def ZBQ (d:ZbZ) (h e:Int) (f:Str) (o a:Int) (b:Str) (g c:Zcy):ZPk:=Zu2 d o a b c
def ZyS (g:ZYB) (n k:Int) (i:Bool) (d:ZbZ) (l a:Int) (b:Str) (o h:Int) (f:Str) (c e:Zcy):ZUP:=bif i then (Zi5 d n).bind fun(q,j)=>chk (ZjC (e.length+[q].length) 8) <|chk (inK .i64 (k-1)) <|g n (k-1) j l a b o h f c (e++[q]) else some (d,l,a,b,o,h,f,c,e)
def ZAF (c:ZYB) (n k:Int) (d:ZbZ) (i a:Int) (b:Str) (o f:Int) (g:Str) (e h:Zcy):ZUP:=bif k>0 then ZyS c n k (n>0) d i a b o f g e h else ZyS c n k false d i a b o f g e h
def Zu1:Nat->Int->Int->ZbZ->Int->Int->Str->Int->Int->Str->Zcy->Zcy->ZUP|0,_,_,_,_,_,_,_,_,_,_,_=>none|a+1,b,c,d,e,f,g,h,i,j,k,l=>ZAF (Zu1 a) b c d e f g h i j k l
def ZD4 (n:Nat) (s:(Int×Int×ZbZ×Int×Int×Str×Int×Int×Str×Zcy×Zcy)):ZUP:=Zu1 n s.1 s.2.1 s.2.2.1 s.2.2.2.1 s.2.2.2.2.1 s.2.2.2.2.2.1 s.2.2.2.2.2.2.1 s.2.2.2.2.2.2.2.1 s.2.2.2.2.2.2.2.2.1 s.2.2.2.2.2.2.2.2.2.1 s.2.2.2.2.2.2.2.2.2.2
def ZD5 (c:(Int×Int×ZbZ×Int×Int×Str×Int×Int×Str×Zcy×Zcy)->ZUP) (s:(Int×Int×ZbZ×Int×Int×Str×Int×Int×Str×Zcy×Zcy)):ZUP:=ZAF (fun n k d i a b o f g e h=>c (n,k,d,i,a,b,o,f,g,e,h)) s.1 s.2.1 s.2.2.1 s.2.2.2.1 s.2.2.2.2.1 s.2.2.2.2.2.1 s.2.2.2.2.2.2.1 s.2.2.2.2.2.2.2.1 s.2.2.2.2.2.2.2.2.1 s.2.2.2.2.2.2.2.2.2.1 s.2.2.2.2.2.2.2.2.2.2
theorem ZG2 (n s):ZD4 (n+1) s=ZD5 (ZD4 n) s:=rfl
def Zu3 (n i:Int) (j:Bool) (d:ZbZ) (l b:Int) (c:Str) (o g:Int) (e:Str) (a f:Zcy):ZPk:=bif j then (Zi5 d n).bind fun(q,m)=>ZqT m l b c o q e a f else bif i==3 then (Zi5 d 3).bind fun(h,k)=>chk (inK .i64 (1+h)) <|(Zu1 big n (1+h) k l b c o g e a f).bind fun(u,y,t,v,r,w,x,s,p)=>ZBQ u y t v r w x s p else ZqT d l b c o g e a f
def ZqU (h:Bool) (d:ZbZ) (t:G_api_Table) (j b:Int) (c:Str) (o a:Int) (i:Str) (e f:Zcy):ZPk:=bif h then (idx t.Columns a).bind fun Column=>(idx t.Columns a).bind fun Column_1=>(Zi5 d Column_1.Cells.length).bind fun(q,g)=>(idx Column.Cells q).bind fun Cell=>ZqT g j b c o a Cell.Text e f else ZqT d j b c o a i e f
def Zyo (d:ZbZ) (t:G_api_Table):ZPk:=(Zi5 d 5).bind fun(q,f)=>chk (inK .i64 (1+q)) <|bif (1+q)==1 then (Zi5 f t.Columns.length).bind fun(a,g)=>(ZoQ g ([([97]:Str),([98]:Str),([49]:Str),([50]:Str),([107,48]:Str),([]:Str)]:Zpi)).bind fun(b,c)=>bif (t.Columns.length:Int)>0 then (idx t.Columns a).bind fun Column=>bif (Column.Cells.length:Int)>0 then (Zi5 c 3).bind fun(e,h)=>ZqU (e>0) h t 0 0 [] (1+q) a b [] [] else ZqU false c t 0 0 [] (1+q) a b [] [] else ZqU false c t 0 0 [] (1+q) a b [] [] else bif (1+q)==2 then Zu3 t.Columns.length (1+q) ((1+q)==2) f 0 0 [] (1+q) 0 [] [] [] else Zu3 t.Columns.length (1+q) ((1+q)==5) f 0 0 [] (1+q) 0 [] [] []
def Zs9 (s:Str):Option Bool:=(Zpz s).bind fun q=>some q
def ZuB (a:Bool):Option Bool:=some a
def ZtQ (s:Str):Option Bool:=(Zs9 s).bind fun q=>bif q then ZuB ((s.length:Int)<=1024) else ZuB false
def Zpt (a:Bool):Option Bool:=some a
def Zts (c:G_api_Cell):Option Bool:=(Zs9 c.Text).bind fun q=>bif q then bif (c.Text.length:Int)<=1024 then bif !c.Null then Zpt true else Zpt (c.Text==([]:Str)) else Zpt false else Zpt false
def Zx8:Option Bool:=some true
def Zx9 (a:ZUU) (c:Zna) (d b:Int) (t:G_api_Table):Zry:=chk (inK .i64 (b+1)) <|a c d (b+1) t
def ZwK (e:Zna->Int->Int->ZxL->Int->Int->G_api_Table->ZUR) (b:Zna) (c d:Int) (g:ZxL) (f a:Int) (t:G_api_Table):ZUR:=bif a<f then (idx g a).bind fun h=>(Zts h).bind fun q=>bif !q then some (.ret false) else chk (inK .i64 (a+1)) <|e b c d g f (a+1) t else some (.brk (b,c,d,t))
def Zrm:Nat->Zna->Int->Int->ZxL->Int->Int->G_api_Table->ZUR|0,_,_,_,_,_,_,_=>none|a+1,b,c,d,e,f,g,h=>ZwK (Zrm a) b c d e f g h
def Zp5 (a:ZUU) (b:Zna) (d e:Int) (f:Bool) (t:G_api_Table) (c:G_api_Column):Zry:=bif f then some (.ret false) else (Zrm big b d e c.Cells c.Cells.length 0 t).bind fun| .ret g=>some (.ret g)| .brk (x0,x1,x2,x3)=>Zx9 a x0 x1 x2 x3
def ZwL (a:ZUU) (d:Zna) (e b:Int) (t:G_api_Table):Zry:=bif b<e then (idx d b).bind fun c=>(ZtQ c.Name).bind fun q=>bif !q then Zp5 a d e b true t c else bif (c.Cells.length:Int)>4096 then Zp5 a d e b true t c else (idx t.Columns 0).bind fun Column=>Zp5 a d e b ((c.Cells.length:Int)!=(Column.Cells.length:Int)) t c else some (.brk ())
def Zpf:Nat->Zna->Int->Int->G_api_Table->Zry|0,_,_,_,_=>none|a+1,b,c,d,e=>ZwL (Zpf a) b c d e
def Zp6 (a:Bool) (t:G_api_Table):Option Bool:=bif a then some false else (Zpf big t.Columns t.Columns.length 0 t).bind fun| .ret b=>some b| .brk ()=>Zx8
def ZlB (t:G_api_Table):Option Bool:=bif t.ID<0 then Zp6 true t else bif t.ID>1073741824 then Zp6 true t else (ZtQ t.Name).bind fun q=>bif !q then Zp6 true t else Zp6 ((t.Columns.length:Int)>64) t
def ZqI (a:Bool):Option Bool:=some a
def Zsi (a:Bool):Option Bool:=some a
def ZzJ (o:Zk3):Option Bool:=bif o.Column==0 then bif o.Text==([]:Str) then Zsi ((o.Columns.length:Int)<=64) else Zsi false else Zsi false
def Zsj (a:Bool):Option Bool:=some a
def Zvs (a:ZYi) (c:Zcy) (e b:Int) (d:Bool) (t:G_api_Table) (o:Zk3):ZNF:=bif d then some (.ret false) else chk (inK .i64 (b+1)) <|a c e (b+1) t o
def ZtD (b:ZYi) (d:Zcy) (c a:Int) (t:G_api_Table) (o:Zk3):ZNF:=bif a<c then (idx d a).bind fun k=>bif k<0 then Zvs b d c a true t o else Zvs b d c a (k>=t.Columns.length) t o else some (.brk o)
def Zsh:Nat->Zcy->Int->Int->G_api_Table->Zk3->ZNF|0,_,_,_,_,_=>none|a+1,b,c,d,e,f=>ZtD (Zsh a) b c d e f
def ZCt (n:Nat) (s:(Zcy×Int×Int×G_api_Table×Zk3)):ZNF:=Zsh n s.1 s.2.1 s.2.2.1 s.2.2.2.1 s.2.2.2.2
def ZxV (a:(Zcy×Int×Int×G_api_Table×Zk3)->ZNF) (s:(Zcy×Int×Int×G_api_Table×Zk3)):ZNF:=ZtD (fun c b d t o=>a (c,b,d,t,o)) s.1 s.2.1 s.2.2.1 s.2.2.2.1 s.2.2.2.2
theorem ZFY (n s):ZCt (n+1) s=ZxV (ZCt n) s:=rfl
def Zsk (a:Bool) (b:Int) (c:Bool) (t:G_api_Table) (o:Zk3):Option Bool:=bif c then bif a then bif (o.Columns.length:Int)==0 then Zsj (o.Text==([]:Str)) else Zsj false else Zsj false else bif b==3 then (Zsh big o.Columns o.Columns.length 0 t o).bind fun| .ret e=>some e| .brk d=>ZzJ d else bif o.Kind==4 then bif o.Column==0 then bif o.Text==([]:Str) then ZqI ((o.Columns.length:Int)==0) else ZqI false else ZqI false else ZqI false
def Zsl (a:Bool):Option Bool:=some a
def Zsm (a:Bool) (t:G_api_Table) (o:Zk3):Option Bool:=bif o.Kind==1 then bif a then bif (o.Columns.length:Int)==0 then Zsl ((o.Text.length:Int)<=1024) else Zsl false else Zsl false else bif o.Kind==2 then Zsk a o.Kind (o.Kind==2) t o else Zsk a o.Kind (o.Kind==5) t o
def ZyH (t:G_api_Table) (o:Zk3):Option Bool:=bif o.Column>=0 then Zsm (o.Column<t.Columns.length) t o else Zsm false t o
def ZwM (a:Zcy) (g:Int) (e:Str) (d:Int) (b:Str) (f c:Zna):ZKb:=bif (a.length:Int)>64 then some ((G_api_Table.mk 0 [] []),3) else some ((G_api_Table.mk d b c),0)
def ZsU (f:ZYz) (a:Zcy) (k:Int) (i:Zcy) (h g:Int) (j:Bool) (t:G_api_Table) (m:Int) (d:Str) (l:Int) (c:Str) (e b:Zna):ZUO:=bif j then some (.ret ((G_api_Table.mk 0 [] []),2)) else (idx t.Columns k).bind fun Column=>chk (ZjC (b.length+[Column].length) 40) <|chk (inK .i64 (g+1)) <|f a i h (g+1) t m d l c e (b++[Column])
def ZrF (g:ZYz) (a i:Zcy) (h f:Int) (t:G_api_Table) (l:Int) (d:Str) (j:Int) (b:Str) (e c:Zna):ZUO:=bif f<h then (idx i f).bind fun k=>bif k<0 then ZsU g a k i h f true t l d j b e c else ZsU g a k i h f (k>=t.Columns.length) t l d j b e c else some (.brk (a,l,d,j,b,e,c))
def ZqC:Nat->Zcy->Zcy->Int->Int->G_api_Table->Int->Str->Int->Str->Zna->Zna->ZUO|0,_,_,_,_,_,_,_,_,_,_,_=>none|a+1,b,c,d,e,f,g,h,i,j,k,l=>ZrF (ZqC a) b c d e f g h i j k l
def ZAB (n:Nat) (s:(Zcy×Zcy×Int×Int×G_api_Table×Int×Str×Int×Str×Zna×Zna)):ZUO:=ZqC n s.1 s.2.1 s.2.2.1 s.2.2.2.1 s.2.2.2.2.1 s.2.2.2.2.2.1 s.2.2.2.2.2.2.1 s.2.2.2.2.2.2.2.1 s.2.2.2.2.2.2.2.2.1 s.2.2.2.2.2.2.2.2.2.1 s.2.2.2.2.2.2.2.2.2.2
def Zvg (f:(Zcy×Zcy×Int×Int×G_api_Table×Int×Str×Int×Str×Zna×Zna)->ZUO) (s:(Zcy×Zcy×Int×Int×G_api_Table×Int×Str×Int×Str×Zna×Zna)):ZUO:=ZrF (fun a h g i t k d j b e c=>f (a,h,g,i,t,k,d,j,b,e,c)) s.1 s.2.1 s.2.2.1 s.2.2.2.1 s.2.2.2.2.1 s.2.2.2.2.2.1 s.2.2.2.2.2.2.1 s.2.2.2.2.2.2.2.1 s.2.2.2.2.2.2.2.2.1 s.2.2.2.2.2.2.2.2.2.1 s.2.2.2.2.2.2.2.2.2.2
theorem ZEF (n s):ZAB (n+1) s=Zvg (ZAB n) s:=rfl
def ZuC (t:G_api_Table) (a:Zcy):ZKb:=(ZlB t).bind fun q=>bif !q then some ((G_api_Table.mk 0 [] []),1) else (ZqC big a a a.length 0 t 0 [] t.ID t.Name [] []).bind fun| .ret b=>some b| .brk (x0,x1,x2,x3,x4,x5,x6)=>ZwM x0 x1 x2 x3 x4 x5 x6
def ZxU:Option Bool:=some true
def ZsJ (e:Int->Int->Zna->Int->Int->Zry) (f y:Int) (b:Zna) (d a:Int):Zry:=bif a<d then (idx b a).bind fun c=>(idx c.Cells f).bind fun Cell=>(idx c.Cells y).bind fun Cell_1=>bif !(Cell.Null==Cell_1.Null&&(Cell.Text==Cell_1.Text&&true)) then some (.ret false) else chk (inK .i64 (a+1)) <|e f y b d (a+1) else some (.brk ())
def ZtC:Nat->Int->Int->Zna->Int->Int->Zry|0,_,_,_,_,_=>none|a+1,b,c,d,e,f=>ZsJ (ZtC a) b c d e f
def ZBk (n:Nat) (s:(Int×Int×Zna×Int×Int)):Zry:=ZtC n s.1 s.2.1 s.2.2.1 s.2.2.2.1 s.2.2.2.2
def Zwy (a:(Int×Int×Zna×Int×Int)->Zry) (s:(Int×Int×Zna×Int×Int)):Zry:=ZsJ (fun e y d b c=>a (e,y,d,b,c)) s.1 s.2.1 s.2.2.1 s.2.2.2.1 s.2.2.2.2
theorem ZE8 (n s):ZBk (n+1) s=Zwy (ZBk n) s:=rfl
def Zwi (t:G_api_Table) (a y:Int):Option Bool:=(ZtC big a y t.Columns t.Columns.length 0).bind fun| .ret b=>some b| .brk ()=>ZxU
def ZqG (c:Bool) (a b:G_api_Cell):Option Int:=bif c then some 0 else bif a.Null then some (-1) else bif b.Null then some 1 else bif Op.bytesLess a.Text b.Text then some (-1) else bif !((Op.bytesLess a.Text b.Text)||a.Text==b.Text) then some 1 else some 0
def ZrG (a b:G_api_Cell):Option Int:=bif a.Null then ZqG b.Null a b else ZqG false a b
def ZyZ (a:Zcy):Option Zcy:=some a
def Zuu (a:ZPv) (b d:Int) (t:G_api_Table) (o:Zk3) (c:Zcy):Option Zcy:=chk (inK .i64 (d+1)) <|a b (d+1) t o c
def Zqm (d:ZPv) (g b f c:Int) (e:Bool) (t:G_api_Table) (o:Zk3) (a:Zcy):Option Zcy:=bif e then chk (Zcp 0 b a.length) <|chk (ZjC ((a.drop 0).take ((b).toNat-0)).length 8) <|chk (ZjC (((a.drop 0).take ((b).toNat-0)).length+([g]:Zcy).length) 8) <|chk (Zcp b a.length a.length) <|chk (ZjC ((((a.drop 0).take ((b).toNat-0))++([g]:Zcy)).length+((a.drop ((b).toNat)).take ((a.length:Int).toNat-(b).toNat)).length) 8) <|Zuu d f c t o ((((a.drop 0).take ((b).toNat-0))++([g]:Zcy))++((a.drop ((b).toNat)).take ((a.length:Int).toNat-(b).toNat))) else Zuu d f c t o a
def Zqn (b:ZPv) (g e:Int) (c:Bool) (d a:Int) (t:G_api_Table) (o:Zk3) (f:Zcy):Option Zcy:=Zqm b g e d a c t o f
def Zy0 (b:ZPv) (g e:Int) (c:Bool) (d a:Int) (t:G_api_Table) (o:Zk3) (f:Zcy):Option Zcy:=Zqm b g e d a c t o f
def Zy1 (b:ZPv) (g e:Int) (c:Bool) (d a:Int) (t:G_api_Table) (o:Zk3) (f:Zcy):Option Zcy:=Zqm b g e d a c t o f
def Zuw (b:ZYy) (i f:Int) (d:Bool) (e a g c:Int) (t:G_api_Table) (o:Zk3) (h:Zcy):ZJr:=chk (inK .i64 (c+1)) <|b i f d e a g (c+1) t o h
def Ztg (d:ZYy) (i g:Int) (e:Bool) (f a h b:Int) (t:G_api_Table) (o:Zk3) (c:Zcy):ZJr:=bif b<h then chk (inR b c.length) <|(c[(b).toNat]?).bind fun j=>bif e then (Zwi t j i).bind fun q=>Zuw d i g (!q) f a h b t o c else Zuw d i g false f a h b t o c else some (i,g,e,f,a,t,o,c)
def ZrQ:Nat->Int->Int->Bool->Int->Int->Int->Int->G_api_Table->Zk3->Zcy->ZJr|0,_,_,_,_,_,_,_,_,_,_=>none|a+1,b,c,d,e,f,g,h,i,j,k=>Ztg (ZrQ a) b c d e f g h i j k
def ZB5 (n:Nat) (s:(Int×Int×Bool×Int×Int×Int×Int×G_api_Table×Zk3×Zcy)):ZJr:=ZrQ n s.1 s.2.1 s.2.2.1 s.2.2.2.1 s.2.2.2.2.1 s.2.2.2.2.2.1 s.2.2.2.2.2.2.1 s.2.2.2.2.2.2.2.1 s.2.2.2.2.2.2.2.2.1 s.2.2.2.2.2.2.2.2.2
def Zxb (b:(Int×Int×Bool×Int×Int×Int×Int×G_api_Table×Zk3×Zcy)->ZJr) (s:(Int×Int×Bool×Int×Int×Int×Int×G_api_Table×Zk3×Zcy)):ZJr:=Ztg (fun i e c d a f g t o h=>b (i,e,c,d,a,f,g,t,o,h)) s.1 s.2.1 s.2.2.1 s.2.2.2.1 s.2.2.2.2.1 s.2.2.2.2.2.1 s.2.2.2.2.2.2.1 s.2.2.2.2.2.2.2.1 s.2.2.2.2.2.2.2.2.1 s.2.2.2.2.2.2.2.2.2
theorem ZFz (n s):ZB5 (n+1) s=Zxb (ZB5 n) s:=rfl
def Zuv (e:ZYu) (h c:Int) (b:Bool) (l:ZxL) (d a:Int) (f:Bool) (t:G_api_Table) (o:Zk3) (g:Zcy):ZJr:=bif f then chk (inK .i64 (c-1)) <|e h (c-1) b l d a t o g else some (h,c,b,d,a,t,o,g)
def Zxa (d:ZYu) (i a:Int) (e:Bool) (l:ZxL) (h c:Int) (t:G_api_Table) (o:Zk3) (b:Zcy):ZJr:=bif a>0 then chk (inK .i64 (a-1)) <|chk (inR (a-1) b.length) <|(b[((a-1)).toNat]?).bind fun g=>(idx l g).bind fun j=>(idx l i).bind fun f=>(ZrG j f).bind fun q=>Zuv d i a e l h c (q>0) t o b else Zuv d i a e l h c false t o b
def ZrP:Nat->Int->Int->Bool->ZxL->Int->Int->G_api_Table->Zk3->Zcy->ZJr|0,_,_,_,_,_,_,_,_,_=>none|a+1,b,c,d,e,f,g,h,i,j=>Zxa (ZrP a) b c d e f g h i j
def ZB3 (n:Nat) (s:(Int×Int×Bool×ZxL×Int×Int×G_api_Table×Zk3×Zcy)):ZJr:=ZrP n s.1 s.2.1 s.2.2.1 s.2.2.2.1 s.2.2.2.2.1 s.2.2.2.2.2.1 s.2.2.2.2.2.2.1 s.2.2.2.2.2.2.2.1 s.2.2.2.2.2.2.2.2
def ZB4 (b:(Int×Int×Bool×ZxL×Int×Int×G_api_Table×Zk3×Zcy)->ZJr) (s:(Int×Int×Bool×ZxL×Int×Int×G_api_Table×Zk3×Zcy)):ZJr:=Zxa (fun g e c l d a t o f=>b (g,e,c,l,d,a,t,o,f)) s.1 s.2.1 s.2.2.1 s.2.2.2.1 s.2.2.2.2.1 s.2.2.2.2.2.1 s.2.2.2.2.2.2.1 s.2.2.2.2.2.2.2.1 s.2.2.2.2.2.2.2.2
theorem ZFy (n s):ZB3 (n+1) s=ZB4 (ZB3 n) s:=rfl
def Zth (b:ZPv) (d e:Int) (t:G_api_Table) (o:Zk3) (a:Zcy):Option Zcy:=bif e<d then bif o.Kind==1 then (idx t.Columns o.Column).bind fun Column=>(idx Column.Cells e).bind fun c=>bif !c.Null then Zqn b e a.length (c.Text==o.Text) d e t o a else Zqn b e a.length false d e t o a else bif o.Kind==2 then (idx t.Columns o.Column).bind fun Column_1=>(idx Column_1.Cells e).bind fun Cell=>Zqn b e a.length (!Cell.Null) d e t o a else bif o.Kind==4 then (ZrQ big e a.length true d e a.length 0 t o a).bind fun(f,i,m,k,j,l,g,h)=>Zy1 b f i m k j l g h else bif o.Kind==5 then (idx t.Columns o.Column).bind fun Column_2=>(ZrP big e a.length true Column_2.Cells d e t o a).bind fun(f,i,m,k,j,l,g,h)=>Zy0 b f i m k j l g h else Zqn b e a.length true d e t o a else some a
def Zo9:Nat->Int->Int->G_api_Table->Zk3->Zcy->Option Zcy|0,_,_,_,_,_=>none|a+1,b,c,d,e,f=>Zth (Zo9 a) b c d e f
def ZB6 (n:Nat) (s:(Int×Int×G_api_Table×Zk3×Zcy)):Option Zcy:=Zo9 n s.1 s.2.1 s.2.2.1 s.2.2.2.1 s.2.2.2.2
def Zxc (a:(Int×Int×G_api_Table×Zk3×Zcy)->Option Zcy) (s:(Int×Int×G_api_Table×Zk3×Zcy)):Option Zcy:=Zth (fun b d t o c=>a (b,d,t,o,c)) s.1 s.2.1 s.2.2.1 s.2.2.2.1 s.2.2.2.2
theorem ZFA (n s):ZB6 (n+1) s=Zxc (ZB6 n) s:=rfl
def Zxd (t:G_api_Table) (o:Zk3):Option Zcy:=(ZrE t).bind fun q=>(Zo9 big q 0 t o []).bind fun a=>ZyZ a
def Zxp (f:Int) (d:Str) (c:Int) (a:Str) (e b:Zna):ZKb:=some ((G_api_Table.mk c a b),0)
def Zxq (f:ZYq) (h:Zcy) (i:Zna) (j g m:Int) (d:Str) (k:Int) (c l:Str) (e a:Zna) (b:ZxL):ZJT:=chk (ZjC (a.length+[(G_api_Column.mk l b)].length) 40) <|chk (inK .i64 (g+1)) <|f h i j (g+1) m d k c e (a++[(G_api_Column.mk l b)])
def Zsb (l:Zcy->Zna->Int->Int->Zcy->Int->Int->Int->Str->Int->Str->G_api_Column->Str->Zna->Zna->ZxL->ZWt) (h:Zcy) (m:Zna) (o n:Int) (j:Zcy) (i e r:Int) (f:Str) (p:Int) (b:Str) (c:G_api_Column) (q:Str) (g d:Zna) (a:ZxL):ZWt:=bif e<i then (idx j e).bind fun k=>(idx c.Cells k).bind fun Cell=>chk (ZjC (a.length+[Cell].length) 24) <|chk (inK .i64 (e+1)) <|l h m o n j i (e+1) r f p b c q g d (a++[Cell]) else some (h,m,o,n,r,f,p,b,q,g,d,a)
def Ztt:Nat->Zcy->Zna->Int->Int->Zcy->Int->Int->Int->Str->Int->Str->G_api_Column->Str->Zna->Zna->ZxL->ZWt|0,_,_,_,_,_,_,_,_,_,_,_,_,_,_,_,_=>none|a+1,b,c,d,e,f,g,h,i,j,k,l,m,n,o,p,q=>Zsb (Ztt a) b c d e f g h i j k l m n o p q
def ZAV (n:Nat) (s:(Zcy×Zna×Int×Int×Zcy×Int×Int×Int×Str×Int×Str×G_api_Column×Str×Zna×Zna×ZxL)):ZWt:=Ztt n s.1 s.2.1 s.2.2.1 s.2.2.2.1 s.2.2.2.2.1 s.2.2.2.2.2.1 s.2.2.2.2.2.2.1 s.2.2.2.2.2.2.2.1 s.2.2.2.2.2.2.2.2.1 s.2.2.2.2.2.2.2.2.2.1 s.2.2.2.2.2.2.2.2.2.2.1 s.2.2.2.2.2.2.2.2.2.2.2.1 s.2.2.2.2.2.2.2.2.2.2.2.2.1 s.2.2.2.2.2.2.2.2.2.2.2.2.2.1 s.2.2.2.2.2.2.2.2.2.2.2.2.2.2.1 s.2.2.2.2.2.2.2.2.2.2.2.2.2.2.2
def Zv2 (g:(Zcy×Zna×Int×Int×Zcy×Int×Int×Int×Str×Int×Str×G_api_Column×Str×Zna×Zna×ZxL)->ZWt) (s:(Zcy×Zna×Int×Int×Zcy×Int×Int×Int×Str×Int×Str×G_api_Column×Str×Zna×Zna×ZxL)):ZWt:=Zsb (fun h l n m j i k q d o a c p f b e=>g (h,l,n,m,j,i,k,q,d,o,a,c,p,f,b,e)) s.1 s.2.1 s.2.2.1 s.2.2.2.1 s.2.2.2.2.1 s.2.2.2.2.2.1 s.2.2.2.2.2.2.1 s.2.2.2.2.2.2.2.1 s.2.2.2.2.2.2.2.2.1 s.2.2.2.2.2.2.2.2.2.1 s.2.2.2.2.2.2.2.2.2.2.1 s.2.2.2.2.2.2.2.2.2.2.2.1 s.2.2.2.2.2.2.2.2.2.2.2.2.1 s.2.2.2.2.2.2.2.2.2.2.2.2.2.1 s.2.2.2.2.2.2.2.2.2.2.2.2.2.2.1 s.2.2.2.2.2.2.2.2.2.2.2.2.2.2.2
theorem ZET (n s):ZAV (n+1) s=Zv2 (ZAV n) s:=rfl
def Zsc (j:ZYq) (b:Zcy) (h:Zna) (i g n:Int) (e:Str) (k:Int) (a:Str) (f d:Zna):ZJT:=bif g<i then (idx h g).bind fun c=>(Ztt big b h i g b b.length 0 n e k a c c.Name f d []).bind fun(s,x,r,t,p,v,w,q,o,u,m,l)=>Zxq j s x r t p v w q o u m l else some (n,e,k,a,f,d)
def Zq1:Nat->Zcy->Zna->Int->Int->Int->Str->Int->Str->Zna->Zna->ZJT|0,_,_,_,_,_,_,_,_,_,_=>none|a+1,b,c,d,e,f,g,h,i,j,k=>Zsc (Zq1 a) b c d e f g h i j k
def ZAW (n:Nat) (s:(Zcy×Zna×Int×Int×Int×Str×Int×Str×Zna×Zna)):ZJT:=Zq1 n s.1 s.2.1 s.2.2.1 s.2.2.2.1 s.2.2.2.2.1 s.2.2.2.2.2.1 s.2.2.2.2.2.2.1 s.2.2.2.2.2.2.2.1 s.2.2.2.2.2.2.2.2.1 s.2.2.2.2.2.2.2.2.2
def Zv3 (e:(Zcy×Zna×Int×Int×Int×Str×Int×Str×Zna×Zna)->ZJT) (s:(Zcy×Zna×Int×Int×Int×Str×Int×Str×Zna×Zna)):ZJT:=Zsc (fun f g i h k c j a d b=>e (f,g,i,h,k,c,j,a,d,b)) s.1 s.2.1 s.2.2.1 s.2.2.2.1 s.2.2.2.2.1 s.2.2.2.2.2.1 s.2.2.2.2.2.2.1 s.2.2.2.2.2.2.2.1 s.2.2.2.2.2.2.2.2.1 s.2.2.2.2.2.2.2.2.2
theorem ZEU (n s):ZAW (n+1) s=Zv3 (ZAW n) s:=rfl
def Zxr (a:Zcy) (t:G_api_Table) (d:Int) (b:Str) (c:Zna):ZKb:=bif (a.length:Int)>4096 then some ((G_api_Table.mk 0 [] []),3) else (Zq1 big a t.Columns t.Columns.length 0 d b t.ID t.Name c []).bind fun(e,f,j,h,g,i)=>Zxp e f j h g i
def Ztu (c:ZYo) (e g:Zcy) (f d:Int) (h:Bool) (t:G_api_Table) (i:Int) (a:Str) (b:Zna):ZNS:=bif h then some (.ret ((G_api_Table.mk 0 [] []),2)) else chk (inK .i64 (d+1)) <|c e g f (d+1) t i a b
def Zsd (e:ZYo) (c g:Zcy) (f d:Int) (t:G_api_Table) (h:Int) (a:Str) (b:Zna):ZNS:=bif d<f then (idx g d).bind fun k=>bif k<0 then Ztu e c g f d true t h a b else (ZrE t).bind fun q=>Ztu e c g f d (k>=q) t h a b else some (.brk (c,t,h,a,b))
def Zq2:Nat->Zcy->Zcy->Int->Int->G_api_Table->Int->Str->Zna->ZNS|0,_,_,_,_,_,_,_,_=>none|a+1,b,c,d,e,f,g,h,i=>Zsd (Zq2 a) b c d e f g h i
def ZAX (n:Nat) (s:(Zcy×Zcy×Int×Int×G_api_Table×Int×Str×Zna)):ZNS:=Zq2 n s.1 s.2.1 s.2.2.1 s.2.2.2.1 s.2.2.2.2.1 s.2.2.2.2.2.1 s.2.2.2.2.2.2.1 s.2.2.2.2.2.2.2
def Zv4 (c:(Zcy×Zcy×Int×Int×G_api_Table×Int×Str×Zna)->ZNS) (s:(Zcy×Zcy×Int×Int×G_api_Table×Int×Str×Zna)):ZNS:=Zsd (fun d f e g t h a b=>c (d,f,e,g,t,h,a,b)) s.1 s.2.1 s.2.2.1 s.2.2.2.1 s.2.2.2.2.1 s.2.2.2.2.2.1 s.2.2.2.2.2.2.1 s.2.2.2.2.2.2.2
theorem ZEV (n s):ZAX (n+1) s=Zv4 (ZAX n) s:=rfl
def ZvD (t:G_api_Table) (a:Zcy):ZKb:=(ZlB t).bind fun q=>bif !q then some ((G_api_Table.mk 0 [] []),1) else (Zq2 big a a a.length 0 t 0 [] []).bind fun| .ret b=>some b| .brk (x0,x1,x2,x3,x4)=>Zxr x0 x1 x2 x3 x4
def Zzq (t:G_api_Table) (o:Zk3):Option G_api_Table:=bif o.Kind==3 then (ZuC t o.Columns).bind fun(c,q)=>some c else (Zxd t o).bind fun b=>(ZvD t b).bind fun(a,d)=>some a
def Zy2 (f:Int) (e:Str) (c:Int) (a:Str) (d b:Zna):Option G_api_Table:=some (G_api_Table.mk c a b)
def Zti (g:Zna->Int->Int->Int->Str->Int->Str->Zna->Zna->ZJT) (i:Zna) (h d k:Int) (f:Str) (j:Int) (b:Str) (e a:Zna):ZJT:=bif d<h then (idx i d).bind fun c=>chk (ZjC c.Cells.length 24) <|chk (ZjC (a.length+[c].length) 40) <|chk (inK .i64 (d+1)) <|g i h (d+1) k f j b e (a++[c]) else some (k,f,j,b,e,a)
def Zux:Nat->Zna->Int->Int->Int->Str->Int->Str->Zna->Zna->ZJT|0,_,_,_,_,_,_,_,_,_=>none|a+1,b,c,d,e,f,g,h,i,j=>Zti (Zux a) b c d e f g h i j
def ZB7 (n:Nat) (s:(Zna×Int×Int×Int×Str×Int×Str×Zna×Zna)):ZJT:=Zux n s.1 s.2.1 s.2.2.1 s.2.2.2.1 s.2.2.2.2.1 s.2.2.2.2.2.1 s.2.2.2.2.2.2.1 s.2.2.2.2.2.2.2.1 s.2.2.2.2.2.2.2.2
def Zxe (d:(Zna×Int×Int×Int×Str×Int×Str×Zna×Zna)->ZJT) (s:(Zna×Int×Int×Int×Str×Int×Str×Zna×Zna)):ZJT:=Zti (fun h g f j e i a c b=>d (h,g,f,j,e,i,a,c,b)) s.1 s.2.1 s.2.2.1 s.2.2.2.1 s.2.2.2.2.1 s.2.2.2.2.2.1 s.2.2.2.2.2.2.1 s.2.2.2.2.2.2.2.1 s.2.2.2.2.2.2.2.2
theorem ZFB (n s):ZB7 (n+1) s=Zxe (ZB7 n) s:=rfl
def ZtF (t:G_api_Table):Option G_api_Table:=(Zux big t.Columns t.Columns.length 0 0 [] t.ID t.Name [] []).bind fun(a,b,f,d,c,e)=>Zy2 a b f d c e
def ZzK (t:G_api_Table) (c:Int) (a:Str) (b:Zna):ZKb:=(ZtF t).bind fun q=>some (q,0)
def ZtE (d:(List Zk3)->Int->Int->G_api_Table->Int->Str->Zna->ZPq) (f:List Zk3) (e a:Int) (t:G_api_Table) (h:Int) (b:Str) (c:Zna):ZPq:=bif a<e then (idx f a).bind fun o=>(ZyH t o).bind fun q=>bif !q then some (.ret ((G_api_Table.mk 0 [] []),24)) else (Zzq t o).bind fun g=>chk (inK .i64 (a+1)) <|d f e (a+1) g h b c else some (.brk (t,h,b,c))
def Zvt:Nat->(List Zk3)->Int->Int->G_api_Table->Int->Str->Zna->ZPq|0,_,_,_,_,_,_,_=>none|a+1,b,c,d,e,f,g,h=>ZtE (Zvt a) b c d e f g h
def ZCu (n:Nat) (s:((List Zk3)×Int×Int×G_api_Table×Int×Str×Zna)):ZPq:=Zvt n s.1 s.2.1 s.2.2.1 s.2.2.2.1 s.2.2.2.2.1 s.2.2.2.2.2.1 s.2.2.2.2.2.2
def ZxW (c:((List Zk3)×Int×Int×G_api_Table×Int×Str×Zna)->ZPq) (s:((List Zk3)×Int×Int×G_api_Table×Int×Str×Zna)):ZPq:=ZtE (fun e d f t g a b=>c (e,d,f,t,g,a,b)) s.1 s.2.1 s.2.2.1 s.2.2.2.1 s.2.2.2.2.1 s.2.2.2.2.2.1 s.2.2.2.2.2.2
theorem ZFZ (n s):ZCu (n+1) s=ZxW (ZCu n) s:=rfl
def ZyI (t:G_api_Table) (l:List Zk3):ZKb:=bif (l.length:Int)>5 then some ((G_api_Table.mk 0 [] []),3) else (ZlB t).bind fun q=>bif !q then some ((G_api_Table.mk 0 [] []),1) else (Zvt big l l.length 0 t 0 [] []).bind fun| .ret a=>some a| .brk (x0,x1,x2,x3)=>ZzK x0 x1 x2 x3
def Zyp (e:Int) (d:ZbZ) (t:G_api_Table) (f:Int) (b:Str) (c:Zna):ZQM:=(ZtF t).bind fun a=>some ((G_api_Table.mk e a.Name a.Columns),d)
def Zt9 (a:ZYt) (f k:Int) (d:ZbZ) (t:G_api_Table) (e:Int) (b:Str) (c:Zna):ZNR:=chk (inK .i64 (k-1)) <|a f (k-1) d t e b c
def ZwT (c:ZYt) (h k:Int) (d:ZbZ) (t:G_api_Table) (g:Int) (a:Str) (b:Zna):ZNR:=bif k>0 then (Zyo d t).bind fun(q,f)=>(ZyI t [q]).bind fun(i,e)=>bif e==0 then Zt9 c h k f i g a b else Zt9 c h k f t g a b else some (h,d,t,g,a,b)
def Zrr:Nat->Int->Int->ZbZ->G_api_Table->Int->Str->Zna->ZNR|0,_,_,_,_,_,_,_=>none|a+1,b,c,d,e,f,g,h=>ZwT (Zrr a) b c d e f g h
def ZBz (n:Nat) (s:(Int×Int×ZbZ×G_api_Table×Int×Str×Zna)):ZNR:=Zrr n s.1 s.2.1 s.2.2.1 s.2.2.2.1 s.2.2.2.2.1 s.2.2.2.2.2.1 s.2.2.2.2.2.2
def ZBA (a:(Int×Int×ZbZ×G_api_Table×Int×Str×Zna)->ZNR) (s:(Int×Int×ZbZ×G_api_Table×Int×Str×Zna)):ZNR:=ZwT (fun f k d t e b c=>a (f,k,d,t,e,b,c)) s.1 s.2.1 s.2.2.1 s.2.2.2.1 s.2.2.2.2.1 s.2.2.2.2.2.1 s.2.2.2.2.2.2
theorem ZFm (n s):ZBz (n+1) s=ZBA (ZBz n) s:=rfl
def Zq9 (d:ZbZ) (t:G_api_Table) (f:Int):ZQM:=(Zi5 d 3).bind fun(k,a)=>(Zrr big f k a t 0 [] []).bind fun(b,c,i,g,e,h)=>Zyp b c i g e h
def Zzf (d:ZbZ) (l:Zvo):ZXY:=some (l,d)
def Zr2 (a:ZUV) (b k:Int) (d:ZbZ) (l:Zvo) (t:G_api_Table):ZMV:=chk (ZjC (l.length+[t].length) 48) <|chk (inK .i64 (k-1)) <|a b (k-1) d (l++[t])
def ZuH (a:ZUV) (f k:Int) (c:Bool) (d:ZbZ) (l:Zvo) (t:G_api_Table):ZMV:=bif c then (Zi5 d l.length).bind fun(q,h)=>chk (inR q l.length) <|(l[(q).toNat]?).bind fun g=>(Zq9 h g f).bind fun(b,e)=>Zr2 a f k e l b else Zr2 a f k d l t
def Zxx (a:ZUV) (c k:Int) (d:ZbZ) (l:Zvo):ZMV:=bif k>0 then (Zi5 d 2).bind fun(q,e)=>chk (inK .i64 (1+q)) <|chk (inK .i64 (c+(1+q))) <|(Zu0 e (c+(1+q))).bind fun(t,b)=>bif (l.length:Int)>0 then (Zi5 b 4).bind fun(g,f)=>ZuH a (c+(1+q)) k (g==0) f l t else ZuH a (c+(1+q)) k false b l t else some (d,l)
def Zqq:Nat->Int->Int->ZbZ->Zvo->ZMV|0,_,_,_,_=>none|a+1,b,c,d,e=>Zxx (Zqq a) b c d e
def ZCh (n:Nat) (s:(Int×Int×ZbZ×Zvo)):ZMV:=Zqq n s.1 s.2.1 s.2.2.1 s.2.2.2
def ZCi (a:(Int×Int×ZbZ×Zvo)->ZMV) (s:(Int×Int×ZbZ×Zvo)):ZMV:=Zxx (fun b k d l=>a (b,k,d,l)) s.1 s.2.1 s.2.2.1 s.2.2.2
theorem ZFG (n s):ZCh (n+1) s=ZCi (ZCh n) s:=rfl
def Zt7 (d:ZbZ) (a:Int):ZXY:=(Zi5 d 2).bind fun(g,e)=>(Zi5 e a).bind fun(q,b)=>chk (inK .i64 (1+q)) <|(Zqq big g (1+q) b []).bind fun(c,f)=>Zzf c f
def Zzh:Option Bool:=some true
def Zty (a:Zvo->Int->Int->Zry) (d:Zvo) (c b:Int):Zry:=bif b<c then (idx d b).bind fun e=>(ZrL e).bind fun q=>bif !q then some (.ret false) else chk (inK .i64 (b+1)) <|a d c (b+1) else some (.brk ())
def ZuI:Nat->Zvo->Int->Int->Zry|0,_,_,_=>none|a+1,b,c,d=>Zty (ZuI a) b c d
def ZCk (n:Nat) (s:(Zvo×Int×Int)):Zry:=ZuI n s.1 s.2.1 s.2.2
def Zxz (a:(Zvo×Int×Int)->Zry) (s:(Zvo×Int×Int)):Zry:=Zty (fun c d b=>a (c,d,b)) s.1 s.2.1 s.2.2
theorem ZFI (n s):ZCk (n+1) s=Zxz (ZCk n) s:=rfl
def ZxA (l:Zvo):Option Bool:=(ZuI big l l.length 0).bind fun| .ret a=>some a| .brk ()=>Zzh
def ZAl (a:Bool):Option Bool:=some a
def ZDv (l:Zvo):Option Bool:=bif (l.length:Int)<=1024 then (ZxA l).bind fun q=>ZAl q else ZAl false
def ZBS (b:Zvo->Int->ZJR) (l:Zvo) (i:Int):ZJR:=bif i<l.length then chk (inK .i64 (i-1)) <|(idx l (i-1)).bind fun c=>(idx l i).bind fun a=>bif c.ID>=a.ID then some (.ret false) else chk (inK .i64 (i+1)) <|b l (i+1) else some (.brk l)
def ZAk:Nat->Zvo->Int->ZJR|0,_,_=>none|a+1,b,c=>ZBS (ZAk a) b c
def ZEM (n:Nat) (s:(Zvo×Int)):ZJR:=ZAk n s.1 s.2
def ZEN (a:(Zvo×Int)->ZJR) (s:(Zvo×Int)):ZJR:=ZBS (fun l i=>a (l,i)) s.1 s.2
theorem ZHH (n s):ZEM (n+1) s=ZEN (ZEM n) s:=rfl
def ZDc (l:Zvo):Option Bool:=(ZAk big l 1).bind fun| .ret a=>some a| .brk b=>ZDv b
def ZAJ (l:Zvo):Option Bool:=(ZDc l).bind fun q=>some q
def ZFJ (f:ZbF):Option Bool:=(ZDf f).bind fun q=>some (q>0)
def ZDw (a n:Int):Option Int:=(idx ([0,1,2,2,3,3,3,3,4,4,4,4,4,4,4,4,5,5,5,5,5,5,5,5,5,5,5,5,5,5,5,5,6,6,6,6,6,6,6,6,6,6,6,6,6,6,6,6,6,6,6,6,6,6,6,6,6,6,6,6,6,6,6,6,7,7,7,7,7,7,7,7,7,7,7,7,7,7,7,7,7,7,7,7,7,7,7,7,7,7,7,7,7,7,7,7,7,7,7,7,7,7,7,7,7,7,7,7,7,7,7,7,7,7,7,7,7,7,7,7,7,7,7,7,7,7,7,7,8,8,8,8,8,8,8,8,8,8,8,8,8,8,8,8,8,8,8,8,8,8,8,8,8,8,8,8,8,8,8,8,8,8,8,8,8,8,8,8,8,8,8,8,8,8,8,8,8,8,8,8,8,8,8,8,8,8,8,8,8,8,8,8,8,8,8,8,8,8,8,8,8,8,8,8,8,8,8,8,8,8,8,8,8,8,8,8,8,8,8,8,8,8,8,8,8,8,8,8,8,8,8,8,8,8,8,8,8,8,8,8,8,8,8,8,8,8,8,8,8,8,8,8,8,8,8,8]:Str) (IntKind.wrap .u8 a)).bind fun c=>chk (inK .i64 (n+(IntKind.wrap .i64 ((c.toNat:Nat):Int)))) <|some (n+(IntKind.wrap .i64 ((c.toNat:Nat):Int)))
def ZDx (a n:Int):Option Int:=bif a>=256 then chk (0<=(8:Int)) <|chk (inK .i64 (n+8)) <|ZDw (shrK .u64 a 8) (n+8) else ZDw a n
def ZDy (a n:Int):Option Int:=bif a>=65536 then chk (0<=(16:Int)) <|chk (inK .i64 (n+16)) <|ZDx (shrK .u64 a 16) (n+16) else ZDx a n
def ZHf (a:Int):Option Int:=bif a>=4294967296 then chk (0<=(32:Int)) <|ZDy (shrK .u64 a 32) 32 else ZDy a 0
def ZGr (a:Int):Option Int:=(ZHf a).bind fun q=>some q
def ZG4 (a b:ZbF):Option Int:=(ZAe b a).bind fun q=>some q
def ZIg (a:Int):Option Int:=some a
def ZAO (b:Int->Zcy->Int->Int->ZMR) (a:Int) (f:Zcy) (e d:Int):ZMR:=bif d<e then (idx f d).bind fun c=>bif c != a then some (.ret c) else chk (inK .i64 (d+1)) <|b a f e (d+1) else some (.brk a)
def ZC5:Nat->Int->Zcy->Int->Int->ZMR|0,_,_,_,_=>none|a+1,b,c,d,e=>ZAO (ZC5 a) b c d e
def ZGL (a:Zcy):Option Int:=(ZC5 big 0 a a.length 0).bind fun| .ret b=>some b| .brk c=>ZIg c
def Zzp (a b:ZkC):Option Int:=(ZG4 a.Score b.Score).bind fun q=>(Zvn a.Table b.Table).bind fun d=>(ZGL [q,d]).bind fun c=>some c
def ZqE (a:ZxR):Option ZxR:=some a
def ZqF (c:ZYa) (a b i:Int) (d:ZxR):Option ZxR:=chk (inK .i64 (i+1)) <|c a b (i+1) d
def Zpv (f:ZX9) (a b i j:Int) (g:Bool) (c:ZxR):ZNG:=bif g then chk (inK .i64 (j-1)) <|chk (inK .i64 (j-1)) <|chk (inR (j-1) c.length) <|(c[((j-1)).toNat]?).bind fun d=>chk (inR j c.length) <|(c[(j).toNat]?).bind fun e=>chk (inR j c.length) <|chk (inR (j-1) ((c.set ((j).toNat) d).length:Int)) <|chk (inK .i64 (j-1)) <|f a b i (j-1) ((c.set ((j).toNat) d).set (((j-1)).toNat) e) else some (a,b,i,c)
def Zqk (f:ZX9) (a b i j:Int) (c:ZxR):ZNG:=bif j>a then chk (inR j c.length) <|(c[(j).toNat]?).bind fun e=>chk (inK .i64 (j-1)) <|chk (inR (j-1) c.length) <|(c[((j-1)).toNat]?).bind fun d=>(Zzp e d).bind fun q=>Zpv f a b i j (q<0) c else Zpv f a b i j false c
def ZoJ:Nat->Int->Int->Int->Int->ZxR->ZNG|0,_,_,_,_,_=>none|a+1,b,c,d,e,f=>Zqk (ZoJ a) b c d e f
def ZtA (n:Nat) (s:(Int×Int×Int×Int×ZxR)):ZNG:=ZoJ n s.1 s.2.1 s.2.2.1 s.2.2.2.1 s.2.2.2.2
def ZtB (c:(Int×Int×Int×Int×ZxR)->ZNG) (s:(Int×Int×Int×Int×ZxR)):ZNG:=Zqk (fun a b i j d=>c (a,b,i,j,d)) s.1 s.2.1 s.2.2.1 s.2.2.2.1 s.2.2.2.2
theorem ZAG (n s):ZtA (n+1) s=ZtB (ZtA n) s:=rfl
def ZoW (d:ZYa) (a b i:Int) (c:ZxR):Option ZxR:=bif i<b then (ZoJ big a b i i c).bind fun(e,f,h,g)=>ZqF d e f h g else some c
def Zo3:Nat->Int->Int->Int->ZxR->Option ZxR|0,_,_,_,_=>none|a+1,b,c,d,e=>ZoW (Zo3 a) b c d e
def ZpG (c:ZxR) (a b:Int):Option ZxR:=chk (inK .i64 (a+1)) <|(Zo3 big a b (a+1) c).bind fun d=>ZqE d
def Zpa (c:ZxR) (a b:Int):Option ZxR:=(ZpG c a b).bind fun r=>chk (decide (r.length=c.length)&&true) (some r)
def ZrM (h:Int->Int->Int->Bool->Bool->ZxR->ZUQ) (a b e:Int) (c d:Bool) (f:ZxR):ZUQ:=chk (inK .i64 (b-a)) <|bif (b-a)<=12 then (Zpa f a b).bind fun g=>some (.ret g) else bif e==0 then none else bif !c then none else none
def ZsD:Nat->Int->Int->Int->Bool->Bool->ZxR->ZUQ|0,_,_,_,_,_,_=>none|a+1,b,c,d,e,f,g=>ZrM (ZsD a) b c d e f g
def Zuc (d:ZxR) (a b c:Int):Option ZxR:=(ZsD big a b c true true d).bind fun| .ret e=>some e| .brk _=>none
def Zqt (c:ZxR) (a b d:Int):Option ZxR:=(Zuc c a b d).bind fun r=>chk (decide (r.length=c.length)&&true) (some r)
def Zr7 (a:ZxR):Option ZxR:=(ZGr (IntKind.wrap .u64 a.length)).bind fun q=>(Zqt a 0 a.length q).bind fun b=>some b
def ZpH (a:ZxR):Option ZxR:=(Zr7 a).bind fun r=>chk (decide (r.length=a.length)&&true) (some r)
def ZA6 (l:ZxR) (k:Int):Option (Nat×Nat×ZxR):=(ZpH l).bind fun a=>chk (Zcp 0 (if (a.length:Int)<k then (a.length:Int)else k) a.length) <|some (0,(((if (a.length:Int)<k then (a.length:Int)else k)).toNat-0),a)
def ZvU (l:ZxR) (k:Int):Option (Nat×Nat×ZxR):=(ZA6 l k).bind fun r=>chk (decide (r.2.2.length=l.length)&&true) (some r)
def Zw0 (k:Int) (d:ZxR):ZMP:=(ZvU d k).bind fun(a,b,c)=>some (((c.drop a).take b),0)
def Zw1 (a:ZPu) (k:Int) (c:Zvo) (d b:Int) (q:G_api_Table) (e:ZxR):ZJq:=chk (inK .i64 (b+1)) <|a k c d (b+1) q e
def Zuo (c:ZPu) (k:Int) (e:Zvo) (f g:Int) (h:Bool) (q:G_api_Table) (d:ZxR) (t:G_api_Table) (a:Zcy) (b:ZbF):ZJq:=bif h then chk (ZjC (d.length+[(ZkC.mk t.ID a b)].length) 96) <|Zw1 c k e f g q (d++[(ZkC.mk t.ID a b)]) else Zw1 c k e f g q d
def ZyC (d:ZPu) (k:Int) (f:Zvo) (g c:Int) (q:G_api_Table) (h:ZxR):ZJq:=bif c<g then (idx f c).bind fun t=>(Zqr q t).bind fun(b,a,e)=>bif e==0 then (ZFJ a).bind fun i=>Zuo d k f g c i q h t b a else Zuo d k f g c false q h t b a else some (k,h)
def Zr5:Nat->Int->Zvo->Int->Int->G_api_Table->ZxR->ZJq|0,_,_,_,_,_,_=>none|a+1,b,c,d,e,f,g=>ZyC (Zr5 a) b c d e f g
def ZEL (n:Nat) (s:(Int×Zvo×Int×Int×G_api_Table×ZxR)):ZJq:=Zr5 n s.1 s.2.1 s.2.2.1 s.2.2.2.1 s.2.2.2.2.1 s.2.2.2.2.2
def ZBI (a:ZYn) (s:(Int×Zvo×Int×Int×G_api_Table×ZxR)):ZJq:=ZyC (fun k b c d q e=>a (k,b,c,d,q,e)) s.1 s.2.1 s.2.2.1 s.2.2.2.1 s.2.2.2.2.1 s.2.2.2.2.2
theorem ZHF (n s):ZEL (n+1) s=ZBI (ZEL n) s:=rfl
def Zw2 (l:Zvo) (k:Int) (a:Bool) (q:G_api_Table):ZMP:=bif a then some (([]:ZxR),1) else bif (q.Columns.length:Int)>8 then some (([]:ZxR),3) else (Zr5 big k l l.length 0 q []).bind fun(c,b)=>Zw0 c b
def Zr6 (l:Zvo) (k:Int) (b:Bool) (q:G_api_Table):ZMP:=bif b then some ([],2) else (ZAJ l).bind fun c=>bif !c then Zw2 l k true q else (ZrL q).bind fun a=>Zw2 l k (!a) q
def Zs6 (l:Zvo) (q:G_api_Table) (k:Int):ZMP:=bif k<0 then Zr6 l k true q else Zr6 l k (k>1024) q
def Zvf (l:Zvo):Option Bool:=some ((l.length:Int)<=1024)
def Zp8 (a:ZX5) (l d:Zvo) (c i:Int) (b:Bool):ZJR:=bif b then some (.ret false) else chk (inK .i64 (i+1)) <|a l d c (i+1)
def ZqZ (a:ZX5) (l c:Zvo) (b i:Int):ZJR:=bif i<b then (idx c i).bind fun t=>(ZlB t).bind fun q=>bif !q then Zp8 a l c b i true else bif i>0 then chk (inK .i64 (i-1)) <|(idx l (i-1)).bind fun d=>Zp8 a l c b i (d.ID>=t.ID) else Zp8 a l c b i false else some (.brk l)
def Zp7:Nat->Zvo->Zvo->Int->Int->ZJR|0,_,_,_,_=>none|a+1,b,c,d,e=>ZqZ (Zp7 a) b c d e
def Zzs (n:Nat) (s:(Zvo×Zvo×Int×Int)):ZJR:=Zp7 n s.1 s.2.1 s.2.2.1 s.2.2.2
def ZtR (a:(Zvo×Zvo×Int×Int)->ZJR) (s:(Zvo×Zvo×Int×Int)):ZJR:=ZqZ (fun l c b i=>a (l,c,b,i)) s.1 s.2.1 s.2.2.1 s.2.2.2
theorem ZD9 (n s):Zzs (n+1) s=ZtR (Zzs n) s:=rfl
def Zq0 (l:Zvo):Option Bool:=(Zp7 big l l l.length 0).bind fun| .ret a=>some a| .brk b=>Zvf b
def ZzT (a:Zpi):Option Zpi:=some a
def ZvE (a:ZSn) (e:Zpi) (d c:Int) (b:Zpi):Option Zpi:=chk (inK .i64 (c+1)) <|a e d (c+1) b
def ZvF (b:ZSn) (s:Str) (k:Int) (f:Zpi) (d e:Int) (c:Bool) (a:Zpi):Option Zpi:=bif c then chk (Zcp 0 k a.length) <|chk (Zcp k a.length a.length) <|chk (ZjC (([s]:Zpi).length+((a.drop ((k).toNat)).take ((a.length:Int).toNat-(k).toNat)).length) 16) <|chk (((k).toNat-0)<=a.length) <|chk (ZjC (((k).toNat-0)+(([s]:Zpi)++((a.drop ((k).toNat)).take ((a.length:Int).toNat-(k).toNat))).length) 16) <|ZvE b f d e (a.take ((k).toNat-0)++(([s]:Zpi)++((a.drop ((k).toNat)).take ((a.length:Int).toNat-(k).toNat)))) else ZvE b f d e a
def ZzU (b:ZSn) (s:Str) (k:Int) (f:Zpi) (d e:Int) (a:Zpi):Option Zpi:=bif k==a.length then ZvF b s k f d e true a else chk (inR k a.length) <|(a[(k).toNat]?).bind fun c=>ZvF b s k f d e (!(c==s)) a
def ZvG (a:ZYg) (s:Str) (k:Int) (f:Zpi) (d e:Int) (c:Bool) (b:Zpi):ZNJ:=bif c then chk (inK .i64 (k+1)) <|a s (k+1) f d e b else some (s,k,f,d,e,b)
def Zya (b:ZYg) (s:Str) (k:Int) (f:Zpi) (d e:Int) (a:Zpi):ZNJ:=bif k<a.length then chk (inR k a.length) <|(a[(k).toNat]?).bind fun c=>ZvG b s k f d e (Op.bytesLess c s) a else ZvG b s k f d e false a
def Zss:Nat->Str->Int->Zpi->Int->Int->Zpi->ZNJ|0,_,_,_,_,_,_=>none|a+1,b,c,d,e,f,g=>Zya (Zss a) b c d e f g
def ZCA (n:Nat) (s:(Str×Int×Zpi×Int×Int×Zpi)):ZNJ:=Zss n s.1 s.2.1 s.2.2.1 s.2.2.2.1 s.2.2.2.2.1 s.2.2.2.2.2
def ZCB (a:(Str×Int×Zpi×Int×Int×Zpi)->ZNJ) (s:(Str×Int×Zpi×Int×Int×Zpi)):ZNJ:=Zya (fun s k e c d b=>a (s,k,e,c,d,b)) s.1 s.2.1 s.2.2.1 s.2.2.2.1 s.2.2.2.2.1 s.2.2.2.2.2
theorem ZF4 (n s):ZCA (n+1) s=ZCB (ZCA n) s:=rfl
def ZtS (a:ZSn) (e:Zpi) (d c:Int) (b:Zpi):Option Zpi:=bif c<d then (idx e c).bind fun s=>(Zss big s 0 e d c b).bind fun(f,g,k,i,h,j)=>ZzU a f g k i h j else some b
def ZpM:Nat->Zpi->Int->Int->Zpi->Option Zpi|0,_,_,_,_=>none|a+1,b,c,d,e=>ZtS (ZpM a) b c d e
def ZCC (n:Nat) (s:(Zpi×Int×Int×Zpi)):Option Zpi:=ZpM n s.1 s.2.1 s.2.2.1 s.2.2.2
def Zyb (a:(Zpi×Int×Int×Zpi)->Option Zpi) (s:(Zpi×Int×Int×Zpi)):Option Zpi:=ZtS (fun e c d b=>a (e,c,d,b)) s.1 s.2.1 s.2.2.1 s.2.2.2
theorem ZF5 (n s):ZCC (n+1) s=Zyb (ZCC n) s:=rfl
def ZyM (l:Zpi):Option Zpi:=(ZpM big l l.length 0 []).bind fun a=>ZzT a
def Zxk (l:Zpi):Option Zpi:=(ZyM l).bind fun q=>some q
def Ztl (a:ZYb) (c:ZxL) (d b:Int) (l:Zpi):Option Zpi:=chk (inK .i64 (b+1)) <|a c d (b+1) l
def Zsa (a:ZYb) (e:ZxL) (d b:Int) (l:Zpi):Option Zpi:=bif b<d then (idx e b).bind fun c=>bif !c.Null then chk (ZjC (l.length+[c.Text].length) 16) <|Ztl a e d b (l++[c.Text]) else Ztl a e d b l else some l
def ZqV:Nat->ZxL->Int->Int->Zpi->Option Zpi|0,_,_,_,_=>none|a+1,b,c,d,e=>Zsa (ZqV a) b c d e
def ZAQ (n:Nat) (s:(ZxL×Int×Int×Zpi)):Option Zpi:=ZqV n s.1 s.2.1 s.2.2.1 s.2.2.2
def ZvZ (a:(ZxL×Int×Int×Zpi)->Option Zpi) (s:(ZxL×Int×Int×Zpi)):Option Zpi:=Zsa (fun c d b l=>a (c,d,b,l)) s.1 s.2.1 s.2.2.1 s.2.2.2
theorem ZEQ (n s):ZAQ (n+1) s=ZvZ (ZAQ n) s:=rfl
def Zsr (c:G_api_Column):Option Zpi:=(ZqV big c.Cells c.Cells.length 0 []).bind fun a=>Zxk a
def Zlj:Option ZbF:=(Zo6 0).bind fun q=>some q
def ZwH (a b:Zpi) (n:Int) (g d:Bool) (e f:Zcy):Option ZbF:=chk (inK .i64 ((a.length:Int)+(b.length:Int))) <|bif ((a.length:Int)+(b.length:Int))==0 then Zlj.bind fun q=>some q else chk (inK .i64 ((a.length:Int)+(b.length:Int))) <|chk (inK .i64 (((a.length:Int)+(b.length:Int))-n)) <|(ZqK n (((a.length:Int)+(b.length:Int))-n)).bind fun c=>some c
def ZwI (e:ZYr) (a b:Zpi) (n:Int) (h:Zpi) (i f:Int) (j c:Bool) (d g:Zcy):ZNM:=chk (inK .i64 (f+1)) <|e a b n h i (f+1) j c d g
def ZsR (e:Tf_8) (a b:Zpi) (n:Int) (m:Str) (h:Zpi) (i l:Int) (k:Zpi) (j f:Int) (o c:Bool) (d g:Zcy):ZNT:=chk (inK .i64 (f+1)) <|e a b n m h i l k j (f+1) o c d g
def ZrA (g:Tf_8) (a b:Zpi) (n:Int) (m:Str) (h:Zpi) (i l:Int) (k:Zpi) (j f:Int) (o c:Bool) (d e:Zcy):ZNT:=bif f<j then (idx k f).bind fun y=>bif m==y then chk (inK .i64 (n+1)) <|ZsR g a b (n+1) m h i l k j f o c d e else ZsR g a b n m h i l k j f o c d e else some (a,b,n,h,i,l,o,c,d,e)
def ZqA:Nat->Zpi->Zpi->Int->Str->Zpi->Int->Int->Zpi->Int->Int->Bool->Bool->Zcy->Zcy->ZNT|0,_,_,_,_,_,_,_,_,_,_,_,_,_,_=>none|a+1,b,c,d,e,f,g,h,i,j,k,l,m,n,o=>ZrA (ZqA a) b c d e f g h i j k l m n o
def ZAy (n:Nat) (s:(Zpi×Zpi×Int×Str×Zpi×Int×Int×Zpi×Int×Int×Bool×Bool×Zcy×Zcy)):ZNT:=ZqA n s.1 s.2.1 s.2.2.1 s.2.2.2.1 s.2.2.2.2.1 s.2.2.2.2.2.1 s.2.2.2.2.2.2.1 s.2.2.2.2.2.2.2.1 s.2.2.2.2.2.2.2.2.1 s.2.2.2.2.2.2.2.2.2.1 s.2.2.2.2.2.2.2.2.2.2.1 s.2.2.2.2.2.2.2.2.2.2.2.1 s.2.2.2.2.2.2.2.2.2.2.2.2.1 s.2.2.2.2.2.2.2.2.2.2.2.2.2
def Zva (e:(Zpi×Zpi×Int×Str×Zpi×Int×Int×Zpi×Int×Int×Bool×Bool×Zcy×Zcy)->ZNT) (s:(Zpi×Zpi×Int×Str×Zpi×Int×Int×Zpi×Int×Int×Bool×Bool×Zcy×Zcy)):ZNT:=ZrA (fun a b n m l g j k i h o c d f=>e (a,b,n,m,l,g,j,k,i,h,o,c,d,f)) s.1 s.2.1 s.2.2.1 s.2.2.2.1 s.2.2.2.2.1 s.2.2.2.2.2.1 s.2.2.2.2.2.2.1 s.2.2.2.2.2.2.2.1 s.2.2.2.2.2.2.2.2.1 s.2.2.2.2.2.2.2.2.2.1 s.2.2.2.2.2.2.2.2.2.2.1 s.2.2.2.2.2.2.2.2.2.2.2.1 s.2.2.2.2.2.2.2.2.2.2.2.2.1 s.2.2.2.2.2.2.2.2.2.2.2.2.2
theorem ZEC (n s):ZAy (n+1) s=Zva (ZAy n) s:=rfl
def ZrB (h:ZYr) (a b:Zpi) (n:Int) (g:Zpi) (i f:Int) (j d:Bool) (e c:Zcy):ZNM:=bif f<i then (idx g f).bind fun t=>(ZqA big a b n t g i f b b.length 0 j d e c).bind fun(p,v,o,q,l,s,u,m,k,r)=>ZwI h p v o q l s u m k r else some (a,b,n,j,d,e,c)
def ZqB:Nat->Zpi->Zpi->Int->Zpi->Int->Int->Bool->Bool->Zcy->Zcy->ZNM|0,_,_,_,_,_,_,_,_,_,_=>none|a+1,b,c,d,e,f,g,h,i,j,k=>ZrB (ZqB a) b c d e f g h i j k
def ZAz (n:Nat) (s:(Zpi×Zpi×Int×Zpi×Int×Int×Bool×Bool×Zcy×Zcy)):ZNM:=ZqB n s.1 s.2.1 s.2.2.1 s.2.2.2.1 s.2.2.2.2.1 s.2.2.2.2.2.1 s.2.2.2.2.2.2.1 s.2.2.2.2.2.2.2.1 s.2.2.2.2.2.2.2.2.1 s.2.2.2.2.2.2.2.2.2
def Zvb (e:(Zpi×Zpi×Int×Zpi×Int×Int×Bool×Bool×Zcy×Zcy)->ZNM) (s:(Zpi×Zpi×Int×Zpi×Int×Int×Bool×Bool×Zcy×Zcy)):ZNM:=ZrB (fun a b n g h i j c d f=>e (a,b,n,g,h,i,j,c,d,f)) s.1 s.2.1 s.2.2.1 s.2.2.2.1 s.2.2.2.2.1 s.2.2.2.2.2.1 s.2.2.2.2.2.2.1 s.2.2.2.2.2.2.2.1 s.2.2.2.2.2.2.2.2.1 s.2.2.2.2.2.2.2.2.2
theorem ZED (n s):ZAz (n+1) s=Zvb (ZAz n) s:=rfl
def ZrV (a b:Zpi):Option ZbF:=(ZqB big a b 0 a a.length 0 false false [] []).bind fun(c,e,i,g,f,h,d)=>ZwH c e i g f h d
def Zvx (a b:G_api_Column):Option ZbF:=(Zsr a).bind fun q=>(Zsr b).bind fun d=>(ZrV q d).bind fun c=>some c
def ZpQ (c:Int) (a:Bool):Option Int:=bif a then some c else some 0
def Zxj (c:Int) (a:Bool):Option Int:=bif a then some (IntKind.wrap .u8 ((IntKind.wrap .u8 (c+97))-65)) else bif c>=97 then bif c<=122 then ZpQ c true else bif c>=48 then ZpQ c (c<=57) else ZpQ c false else bif c>=48 then ZpQ c (c<=57) else ZpQ c false
def Zvw (c:Int):Option Int:=bif c>=65 then Zxj c (c<=90) else Zxj c false
def Zvu (l:Zpi) (s:Str) (i:Int) (a:Bool):Option Zpi:=bif a then some l else chk (Zcp 0 i l.length) <|chk (ZjC (l.take (i).toNat).length 16) <|chk (ZjC ((l.take (i).toNat).length+[s].length) 16) <|chk (Zcp i l.length l.length) <|chk (ZjC (((l.take (i).toNat)++[s]).length+(l.drop (i).toNat).length) 16) <|some (((l.take (i).toNat)++[s])++(l.drop (i).toNat))
def ZzO (l:Zpi) (s:Str) (i:Int):Option Zpi:=bif i<l.length then (idx l i).bind fun a=>Zvu l s i (a==s) else Zvu l s i false
def Zvv (a:Zpi->Str->Int->ZMT) (l:Zpi) (s:Str) (i:Int) (b:Bool):ZMT:=bif b then chk (inK .i64 (i+1)) <|a l s (i+1) else some (l,s,i)
def Zx5 (a:Zpi->Str->Int->ZMT) (l:Zpi) (s:Str) (i:Int):ZMT:=bif i<l.length then (idx l i).bind fun b=>Zvv a l s i (Op.bytesLess b s) else Zvv a l s i false
def Zsq:Nat->Zpi->Str->Int->ZMT|0,_,_,_=>none|a+1,b,c,d=>Zx5 (Zsq a) b c d
def ZCy (n:Nat) (s:(Zpi×Str×Int)):ZMT:=Zsq n s.1 s.2.1 s.2.2
def ZCz (a:(Zpi×Str×Int)->ZMT) (s:(Zpi×Str×Int)):ZMT:=Zx5 (fun l s i=>a (l,s,i)) s.1 s.2.1 s.2.2
theorem ZF3 (n s):ZCy (n+1) s=ZCz (ZCy n) s:=rfl
def ZyK (l:Zpi) (s:Str):Option Zpi:=(Zsq big l s 0).bind fun(c,a,b)=>ZzO c a b
def Zx6 (a:Zpi):Option Zpi:=some a
def ZtM (a:ZSm) (b:Str) (d:Zpi) (c:Str) (i:Int):Option Zpi:=chk (inK .i64 (i+1)) <|a b d c (i+1)
def ZtN (a:ZSm) (b:Str) (c:Zpi) (i:Int):Option Zpi:=ZtM a b c [] i
def Zrj (b:ZSm) (d:Str) (f:Zpi) (a:Str) (i c:Int):Option Zpi:=bif c != 0 then chk (a.length+([c].map fun n=>UInt8.ofNat (Int.toNat n)).length<=Zr) <|ZtM b d f (a++([c].map fun n=>UInt8.ofNat (Int.toNat n))) i else bif !(a==[]) then (ZyK f a).bind fun e=>ZtN b d e i else ZtN b d f i
def ZwF (d:ZSm) (a:Str) (e:Zpi) (b:Str) (i:Int):Option Zpi:=bif i<=a.length then bif i<a.length then (idx a i).bind fun c=>(Zvw ((c.toNat:Nat):Int)).bind fun f=>Zrj d a e b i f else Zrj d a e b i 0 else some e
def ZoZ:Nat->Str->Zpi->Str->Int->Option Zpi|0,_,_,_,_=>none|a+1,b,c,d,e=>ZwF (ZoZ a) b c d e
def ZBr (n:Nat) (s:(Str×Zpi×Str×Int)):Option Zpi:=ZoZ n s.1 s.2.1 s.2.2.1 s.2.2.2
def ZBs (a:(Str×Zpi×Str×Int)->Option Zpi) (s:(Str×Zpi×Str×Int)):Option Zpi:=ZwF (fun b d c i=>a (b,d,c,i)) s.1 s.2.1 s.2.2.1 s.2.2.2
theorem ZFf (n s):ZBr (n+1) s=ZBs (ZBr n) s:=rfl
def Zs7 (a:Str):Option Zpi:=(ZoZ big a [] [] 0).bind fun b=>Zx6 b
def Zwk (a b:Str):Option ZbF:=(Zs7 a).bind fun q=>(Zs7 b).bind fun d=>(ZrV q d).bind fun c=>some c
def Zy9 (s:Str):Option Str:=some s
def ZuD (a:ZMX) (s:Str) (b:Bool):Option Str:=bif b then chk (inK .i64 ((s.length:Int)-1)) <|chk (Zcp 0 ((s.length:Int)-1) s.length) <|a (s.take (((s.length:Int)-1)).toNat) else some s
def Zxs (a:ZMX) (s:Str):Option Str:=bif (s.length:Int)>0 then chk (inK .i64 ((s.length:Int)-1)) <|(idx s ((s.length:Int)-1)).bind fun c=>ZuD a s (((c.toNat:Nat):Int)==32) else ZuD a s false
def ZrX:Nat->Str->Option Str|0,_=>none|a+1,b=>Zxs (ZrX a) b
def ZCb (n:Nat) (s:Str):Option Str:=ZrX n s
def ZCc (a:ZMX) (s:Str):Option Str:=Zxs (fun s=>a s) s
theorem ZFD (n s):ZCb (n+1) s=ZCc (ZCb n) s:=rfl
def Zza (s:Str):Option Str:=(ZrX big s).bind fun a=>Zy9 a
def ZuE (a:ZMX) (s:Str) (b:Bool):Option Str:=bif b then chk (Zcp 1 s.length s.length) <|a (s.drop ((1:Int)).toNat) else some s
def Zxt (a:ZMX) (s:Str):Option Str:=bif (s.length:Int)>0 then (idx s 0).bind fun c=>ZuE a s (((c.toNat:Nat):Int)==32) else ZuE a s false
def ZrY:Nat->Str->Option Str|0,_=>none|a+1,b=>Zxt (ZrY a) b
def ZCd (n:Nat) (s:Str):Option Str:=ZrY n s
def ZCe (a:ZMX) (s:Str):Option Str:=Zxt (fun s=>a s) s
theorem ZFE (n s):ZCd (n+1) s=ZCe (ZCd n) s:=rfl
def Zxu (s:Str):Option Str:=(ZrY big s).bind fun a=>Zza a
def ZDq (b:Zcy):Option Str:=some (b.map fun n=>UInt8.ofNat (Int.toNat n))
def Zzb (a:ZUT) (c i:Int) (b:Zcy):Option Zcy:=chk (inK .i64 (i+1)) <|a c (i+1) b
def Zzc (a:ZUT) (i f c:Int) (e:Bool) (b:Zcy):Option Zcy:=bif e then chk (inR i b.length) <|(b[(i).toNat]?).bind fun d=>chk (inR i b.length) <|Zzb a f c (b.set ((i).toNat) (IntKind.wrap .u8 (d+32))) else Zzb a f c b
def ZF6 (a:ZUT) (e i:Int) (b:Zcy):Option Zcy:=bif i<e then chk (inR i b.length) <|(b[(i).toNat]?).bind fun d=>bif d>=65 then chk (inR i b.length) <|(b[(i).toNat]?).bind fun c=>Zzc a i e i (c<=90) b else Zzc a i e i false b else some b
def ZrZ:Nat->Int->Int->Zcy->Option Zcy|0,_,_,_=>none|a+1,b,c,d=>ZF6 (ZrZ a) b c d
def ZEe (s:Str):Option Str:=chk (s.length<=281474976710656) <|(ZrZ big ((s.map fun b=>((b.toNat:Nat):Int)).length:Int) 0 (s.map fun b=>((b.toNat:Nat):Int))).bind fun a=>ZDq a
def ZCJ (c:Bool) (b a:Str):ZNH:=some (c,b,a,true)
def Zt3 (c:ZX3) (e:Bool) (a b:Str) (i:Int) (d:Bool):ZNO:=bif d then some (.ret (false,[],[],false)) else chk (inK .i64 (i+1)) <|c e a b (i+1)
def ZsW (d:ZX3) (e:Bool) (b a:Str) (i:Int):ZNO:=bif i<a.length then (idx a i).bind fun c=>bif ((c.toNat:Nat):Int)<48 then Zt3 d e b a i true else (idx a i).bind fun f=>Zt3 d e b a i (((f.toNat:Nat):Int)>57) else some (.brk (e,b,a))
def Zqb:Nat->Bool->Str->Str->Int->ZNO|0,_,_,_,_=>none|a+1,b,c,d,e=>ZsW (Zqb a) b c d e
def ZBv (n:Nat) (s:(Bool×Str×Str×Int)):ZNO:=Zqb n s.1 s.2.1 s.2.2.1 s.2.2.2
def ZwO (c:(Bool×Str×Str×Int)->ZNO) (s:(Bool×Str×Str×Int)):ZNO:=ZsW (fun d b a i=>c (d,b,a,i)) s.1 s.2.1 s.2.2.1 s.2.2.2
theorem ZFj (n s):ZBv (n+1) s=ZwO (ZBv n) s:=rfl
def Zo0 (c:Bool) (a b:Str) (d:Bool):ZNH:=bif d then some (false,[],[],false) else (Zqb big c a b 0).bind fun| .ret e=>some e| .brk (x0,x1,x2)=>ZCJ x0 x1 x2
def Zt4 (s:Str) (b:Bool) (a:Str) (k:Int) (d:Bool):ZNH:=bif d then some (false,[],[],false) else bif k==s.length then some (b,a,[],true) else chk (inK .i64 (k+1)) <|chk (Zcp (k+1) s.length s.length) <|(idx s k).bind fun c=>bif ((c.toNat:Nat):Int)!=46 then Zo0 b a (s.drop ((k+1)).toNat) true else bif (decide (((s.drop ((k+1)).toNat).length:Int)<1))then Zo0 b a (s.drop ((k+1)).toNat) true else Zo0 b a (s.drop ((k+1)).toNat) (decide (((s.drop ((k+1)).toNat).length:Int)>9))
def Zyl (s:Str) (a:Bool) (k:Int):ZNH:=chk (Zcp 0 k s.length) <|bif k<1 then Zt4 s a (s.take (k).toNat) k true else Zt4 s a (s.take (k).toNat) k (k>15)
def Zro (a:Str->Bool->Int->ZMS) (s:Str) (b:Bool) (k:Int) (c:Bool):ZMS:=bif c then chk (inK .i64 (k+1)) <|a s b (k+1) else some (s,b,k)
def ZwP (a:Str->Bool->Int->ZMS) (s:Str) (b:Bool) (k:Int):ZMS:=bif k<s.length then (idx s k).bind fun c=>bif ((c.toNat:Nat):Int)>=48 then (idx s k).bind fun d=>Zro a s b k (((d.toNat:Nat):Int)<=57) else Zro a s b k false else Zro a s b k false
def Zrn:Nat->Str->Bool->Int->ZMS|0,_,_,_=>none|a+1,b,c,d=>ZwP (Zrn a) b c d
def ZBw (n:Nat) (s:(Str×Bool×Int)):ZMS:=Zrn n s.1 s.2.1 s.2.2
def ZBx (a:(Str×Bool×Int)->ZMS) (s:(Str×Bool×Int)):ZMS:=ZwP (fun s b k=>a (s,b,k)) s.1 s.2.1 s.2.2
theorem ZFk (n s):ZBw (n+1) s=ZBx (ZBw n) s:=rfl
def Zph (s:Str) (a:Bool):ZNH:=(Zrn big s a 0).bind fun(d,b,c)=>Zyl d b c
def Zrp (s:Str) (a b:Bool):ZNH:=bif b then (idx s 0).bind fun c=>chk (Zcp 1 s.length s.length) <|Zph (s.drop ((1:Int)).toNat) (((c.toNat:Nat):Int)==45) else Zph s a
def Ztb (s:Str):ZNH:=bif (s.length:Int)>0 then (idx s 0).bind fun c=>bif ((c.toNat:Nat):Int)==43 then Zrp s false true else (idx s 0).bind fun a=>Zrp s false (((a.toNat:Nat):Int)==45) else Zrp s false false
def Ztm (a:Str):Option Str:=some a
def Ztn (a:Str) (b:Bool):Option Str:=bif b then chk (([45]:Str).length+a.length<=Zr) <|Ztm (([45]:Str)++a) else Ztm a
def Zto (b:Bool) (a:Str):Option Str:=bif b then Ztn a (!(a==[48])) else Ztn a false
def Zxm (c:Bool) (b a:Str):Option Str:=bif !(a==([]:Str)) then chk (([46]:Str).length+a.length<=Zr) <|chk (b.length+(([46]:Str)++a).length<=Zr) <|Zto c (b++(([46]:Str)++a)) else Zto c b
def Ztp (c:ZSi) (d:Bool) (b a:Str) (e:Bool):ZJS:=bif e then chk (inK .i64 ((a.length:Int)-1)) <|chk (Zcp 0 ((a.length:Int)-1) a.length) <|c d b (a.take (((a.length:Int)-1)).toNat) else some (d,b,a)
def Zv0 (d:ZSi) (e:Bool) (b a:Str):ZJS:=bif (a.length:Int)>0 then chk (inK .i64 ((a.length:Int)-1)) <|(idx a ((a.length:Int)-1)).bind fun c=>Ztp d e b a (((c.toNat:Nat):Int)==48) else Ztp d e b a false
def ZqW:Nat->Bool->Str->Str->ZJS|0,_,_,_=>none|a+1,b,c,d=>Zv0 (ZqW a) b c d
def ZAR (n:Nat) (s:(Bool×Str×Str)):ZJS:=ZqW n s.1 s.2.1 s.2.2
def ZAS (c:(Bool×Str×Str)->ZJS) (s:(Bool×Str×Str)):ZJS:=Zv0 (fun d b a=>c (d,b,a)) s.1 s.2.1 s.2.2
theorem ZER (n s):ZAR (n+1) s=ZAS (ZAR n) s:=rfl
def Zxn (c:Bool) (a b:Str):Option Str:=(ZqW big c a b).bind fun(d,e,f)=>Zxm d e f
def Ztq (c:ZSi) (d:Bool) (a b:Str) (e:Bool):ZJS:=bif e then chk (Zcp 1 a.length a.length) <|c d (a.drop ((1:Int)).toNat) b else some (d,a,b)
def Zv1 (d:ZSi) (e:Bool) (a b:Str):ZJS:=bif (a.length:Int)>1 then (idx a 0).bind fun c=>Ztq d e a b (((c.toNat:Nat):Int)==48) else Ztq d e a b false
def ZqX:Nat->Bool->Str->Str->ZJS|0,_,_,_=>none|a+1,b,c,d=>Zv1 (ZqX a) b c d
def ZAT (n:Nat) (s:(Bool×Str×Str)):ZJS:=ZqX n s.1 s.2.1 s.2.2
def ZAU (c:(Bool×Str×Str)->ZJS) (s:(Bool×Str×Str)):ZJS:=Zv1 (fun d b a=>c (d,b,a)) s.1 s.2.1 s.2.2
theorem ZES (n s):ZAT (n+1) s=ZAU (ZAT n) s:=rfl
def ZvB (c:Bool) (a b:Str):Option Str:=(ZqX big c a b).bind fun(d,e,f)=>Zxn d e f
def ZDI (n:Int):Option Int:=some n
def ZzP (a:Str->Int->Int->ZMR) (s:Str) (n i:Int) (b:Bool):ZMR:=bif b then some (.ret (-1)) else chk (inK .i64 (10*n)) <|(idx s i).bind fun c=>chk (inK .i64 ((10*n)+(IntKind.wrap .i64 (IntKind.wrap .u8 (((c.toNat:Nat):Int)-48))))) <|chk (inK .i64 (i+1)) <|a s ((10*n)+(IntKind.wrap .i64 (IntKind.wrap .u8 (((c.toNat:Nat):Int)-48)))) (i+1)
def ZGn (a:Str->Int->Int->ZMR) (s:Str) (n i:Int):ZMR:=bif i<s.length then (idx s i).bind fun c=>bif ((c.toNat:Nat):Int)<48 then ZzP a s n i true else (idx s i).bind fun b=>ZzP a s n i (((b.toNat:Nat):Int)>57) else some (.brk n)
def Zvz:Nat->Str->Int->Int->ZMR|0,_,_,_=>none|a+1,b,c,d=>ZGn (Zvz a) b c d
def ZqR (s:Str):Option Int:=(Zvz big s 0 0).bind fun| .ret a=>some a| .brk b=>ZDI b
def Zuz (a:Bool):Option Bool:=some a
def ZA0 (y:Int):Option Bool:=chk ((4:Int)≠0) <|bif (Int.tmod y 4)==0 then chk ((100:Int)≠0) <|bif (Int.tmod y 100)!=0 then Zuz true else chk ((400:Int)≠0) <|Zuz ((Int.tmod y 400)==0) else Zuz false
def ZqY (a:Bool):Option Int:=bif a then some 30 else some 31
def Zxo (m:Int) (a:Bool):Option Int:=bif a then some 29 else bif m==2 then some 28 else bif m==4 then ZqY true else bif m==6 then ZqY true else bif m==9 then ZqY true else ZqY (m==11)
def ZzQ (y m:Int):Option Int:=bif m==2 then (ZA0 y).bind fun q=>Zxo m q else Zxo m false
def ZDJ (a n:Int):ZNE:=chk (inK .i64 (n+a)) <|chk (inK .i64 ((n+a)-1)) <|chk (inK .i64 (((n+a)-1)-719162)) <|some ((((n+a)-1)-719162),true)
def ZGo (d:Int->Int->Int->Int->Int->ZL3) (b a c n m:Int):ZL3:=bif m<a then (ZzQ b m).bind fun q=>chk (inK .i64 (n+q)) <|chk (inK .i64 (m+1)) <|d b a c (n+q) (m+1) else some (c,n)
def ZzR:Nat->Int->Int->Int->Int->Int->ZL3|0,_,_,_,_,_=>none|a+1,b,c,d,e,f=>ZGo (ZzR a) b c d e f
def ZDK (b a c n:Int):ZNE:=(ZzR big b a c n 1).bind fun(d,e)=>ZDJ d e
def ZzS (b:ZX8) (c a d n y:Int):ZSh:=chk (inK .i64 (y+1)) <|b c a d n (y+1)
def ZGp (c:ZX8) (b a d n y:Int):ZSh:=bif y<b then chk (inK .i64 (n+365)) <|(ZA0 y).bind fun q=>bif q then chk (inK .i64 ((n+365)+1)) <|ZzS c b a d ((n+365)+1) y else ZzS c b a d (n+365) y else some (b,a,d,n)
def ZvC:Nat->Int->Int->Int->Int->Int->ZSh|0,_,_,_,_,_=>none|a+1,b,c,d,e,f=>ZGp (ZvC a) b c d e f
def ZpL (b a d:Int) (c:Bool):ZNE:=bif c then some (0,false) else (ZvC big b a d 0 1).bind fun(e,f,h,g)=>ZDK e f h g
def ZBP (b a c:Int):ZNE:=bif b<1 then ZpL b a c true else bif b>9999 then ZpL b a c true else bif a<1 then ZpL b a c true else bif a>12 then ZpL b a c true else bif c<1 then ZpL b a c true else (ZzQ b a).bind fun q=>ZpL b a c (c>q)
def Zy6 (b a c:Int):ZQL:=(ZBP b a c).bind fun(q,d)=>some (b,a,c,d)
def Zy7 (s:Str) (c:Bool):ZQL:=bif c then chk (Zcp 6 s.length s.length) <|(ZqR (s.drop ((6:Int)).toNat)).bind fun b=>chk (Zcp 3 5 s.length) <|(ZqR ((s.take ((5:Int)).toNat).drop ((3:Int)).toNat)).bind fun a=>chk (Zcp 0 2 s.length) <|(ZqR (s.take ((2:Int)).toNat)).bind fun d=>Zy6 b a d else some (0,0,0,false)
def ZuA (s:Str) (f:Bool):ZQL:=bif f then chk (Zcp 0 4 s.length) <|(ZqR (s.take ((4:Int)).toNat)).bind fun b=>chk (Zcp 5 7 s.length) <|(ZqR ((s.take ((7:Int)).toNat).drop ((5:Int)).toNat)).bind fun a=>chk (Zcp 8 s.length s.length) <|(ZqR (s.drop ((8:Int)).toNat)).bind fun e=>Zy6 b a e else (idx s 2).bind fun c=>bif ((c.toNat:Nat):Int)==46 then (idx s 5).bind fun d=>Zy7 s (((d.toNat:Nat):Int)==46) else Zy7 s false
def Zy8 (s:Str) (b:Bool):ZQL:=bif b then ZuA s b else (idx s 4).bind fun c=>bif ((c.toNat:Nat):Int)==47 then (idx s 7).bind fun a=>ZuA s (((a.toNat:Nat):Int)==47) else ZuA s false
def ZA1 (s:Str):ZQL:=bif (s.length:Int)!=10 then some (0,0,0,false) else (idx s 4).bind fun c=>bif ((c.toNat:Nat):Int)==45 then (idx s 7).bind fun a=>Zy8 s (((a.toNat:Nat):Int)==45) else Zy8 s false
def ZCa (s:Str):Option Str:=some s
def ZFh (b:Int->Int->Str->Option Str) (n a:Int) (s:Str):Option Str:=bif a>0 then chk ((10:Int)≠0) <|chk (decide ((([(IntKind.wrap .u8 (48+(IntKind.wrap .u8 (Int.tmod n 10))))]:Zcy).map fun n=>UInt8.ofNat (Int.toNat n)).length+s.length<=Zr)) <|chk ((10:Int)≠0) <|chk (inK .i64 (Int.tdiv n 10)) <|chk (inK .i64 (a-1)) <|b (Int.tdiv n 10) (a-1) ((([(IntKind.wrap .u8 (48+(IntKind.wrap .u8 (Int.tmod n 10))))]:Zcy).map fun n=>UInt8.ofNat (Int.toNat n))++s) else some s
def Zxl:Nat->Int->Int->Str->Option Str|0,_,_,_=>none|a+1,b,c,d=>ZFh (Zxl a) b c d
def ZvA (n a:Int):Option Str:=(Zxl big n a []).bind fun b=>ZCa b
def Zp3:ZJQ:=some ([],false)
def Zp4 (c:Bool) (b a:Str) (d:Bool):ZJQ:=bif d then (ZvB c b a).bind fun q=>some (q,true) else Zp3
def ZrD (f:Int) (t:Str) (i:Int) (j:Bool):ZJQ:=bif j then (Ztb t).bind fun(e,b,a,k)=>bif k then bif f==4 then Zp4 e b a true else Zp4 e b a (a==([]:Str)) else Zp4 e b a false else bif i==5 then (ZA1 t).bind fun(y,m,d,h)=>bif h then (ZvA y 4).bind fun q=>chk (q.length+([45]:Str).length<=Zr) <|(ZvA m 2).bind fun c=>chk ((q++([45]:Str)).length+c.length<=Zr) <|chk (decide (((q++([45]:Str))++c).length+([45]:Str).length<=Zr)) <|(ZvA d 2).bind fun g=>chk (decide ((((q++([45]:Str))++c)++([45]:Str)).length+g.length<=Zr)) <|some (((((q++([45]:Str))++c)++([45]:Str))++g),true) else Zp3 else Zp3
def Zvd (a:Bool):ZJQ:=bif a then some ([102,97,108,115,101],true) else Zp3
def Zve (a:Str) (b:Bool):ZJQ:=bif b then some ([116,114,117,101],true) else bif a==[102,97,108,115,101] then Zvd (a==[102,97,108,115,101]) else Zvd (a==[110,111])
def Ztr (a:Int) (s:Str):ZJQ:=(Zxu s).bind fun t=>bif a==1 then some (s,true) else bif a==2 then (ZEe t).bind fun q=>bif q==[116,114,117,101] then Zve q (q==[116,114,117,101]) else Zve q (q==[121,101,115]) else bif a==3 then ZrD a t a (a==3) else ZrD a t a (a==4)
def ZzW (a:Zcy):Option Zcy:=(Zpe a).bind fun q=>some q
def ZzX (d:ZYd) (a b:Zcy) (i c:Int) (e:Zcy):Option Zcy:=chk (inK .i64 (i+b.length)) <|chk (inR (i+b.length) e.length) <|chk (inK .i64 (i+1)) <|d a b (i+1) (e.set (((i+b.length)).toNat) (IntKind.wrap .u32 c))
def ZtV (g:Zcy->Zcy->Int->Int->Int->Zcy->ZPj) (a b:Zcy) (i c j:Int) (e:Zcy):ZPj:=bif j<(b.length:Int) then (idx a i).bind fun h=>(idx b j).bind fun f=>chk (inK .i64 (i+j)) <|chk (inR (i+j) e.length) <|(e[((i+j)).toNat]?).bind fun d=>chk (inK .i64 (i+j)) <|chk (inR (i+j) e.length) <|chk (0<=(32:Int)) <|chk (inK .i64 (j+1)) <|g a b i (shrK .u64 (IntKind.wrap .u64 (c+(IntKind.wrap .u64 ((IntKind.wrap .u64 ((IntKind.wrap .u64 h)*(IntKind.wrap .u64 f)))+(IntKind.wrap .u64 d))))) 32) (j+1) (e.set (((i+j)).toNat) (IntKind.wrap .u32 (IntKind.wrap .u64 (c+(IntKind.wrap .u64 ((IntKind.wrap .u64 ((IntKind.wrap .u64 h)*(IntKind.wrap .u64 f)))+(IntKind.wrap .u64 d))))))) else some (a,b,i,c,e)
def ZvH:Nat->Zcy->Zcy->Int->Int->Int->Zcy->ZPj|0,_,_,_,_,_,_=>none|a+1,b,c,d,e,f,g=>ZtV (ZvH a) b c d e f g
def ZCE (n:Nat) (s:(Zcy×Zcy×Int×Int×Int×Zcy)):ZPj:=ZvH n s.1 s.2.1 s.2.2.1 s.2.2.2.1 s.2.2.2.2.1 s.2.2.2.2.2
def Zye (d:(Zcy×Zcy×Int×Int×Int×Zcy)->ZPj) (s:(Zcy×Zcy×Int×Int×Int×Zcy)):ZPj:=ZtV (fun a b i c j e=>d (a,b,i,c,j,e)) s.1 s.2.1 s.2.2.1 s.2.2.2.1 s.2.2.2.2.1 s.2.2.2.2.2
theorem ZF8 (n s):ZCE (n+1) s=Zye (ZCE n) s:=rfl
def ZtW (c:ZYd) (a b:Zcy) (i:Int) (d:Zcy):Option Zcy:=bif i<a.length then (ZvH big a b i 0 0 d).bind fun(e,f,j,h,g)=>ZzX c e f j h g else some d
def Zsv:Nat->Zcy->Zcy->Int->Zcy->Option Zcy|0,_,_,_,_=>none|a+1,b,c,d,e=>ZtW (Zsv a) b c d e
def ZCF (n:Nat) (s:(Zcy×Zcy×Int×Zcy)):Option Zcy:=Zsv n s.1 s.2.1 s.2.2.1 s.2.2.2
def Zyf (c:(Zcy×Zcy×Int×Zcy)->Option Zcy) (s:(Zcy×Zcy×Int×Zcy)):Option Zcy:=ZtW (fun a b i d=>c (a,b,i,d)) s.1 s.2.1 s.2.2.1 s.2.2.2
theorem ZF9 (n s):ZCF (n+1) s=Zyf (ZCF n) s:=rfl
def ZyN (a b:Zcy):Option Zcy:=chk (inK .i64 ((a.length:Int)+(b.length:Int))) <|chk (mkOk ((a.length:Int)+(b.length:Int)) ((a.length:Int)+(b.length:Int)) 4) <|(Zsv big a b 0 (List.replicate (((a.length:Int)+(b.length:Int))).toNat (0:Int))).bind fun c=>ZzW c
def Zjm (a b:Zgo):Option Zgo:=(ZyN a.Words b.Words).bind fun q=>(ZoV (!(a.Neg==b.Neg)) q).bind fun c=>some c
def Zz5 (c:Int) (a:Zcy):Option Zcy:=chk (ZjC (a.length+[(IntKind.wrap .u32 c)].length) 4) <|some (a++[(IntKind.wrap .u32 c)])
def Zsy (d:ZSo) (a b:Zcy) (c i:Int) (e:Zcy):ZDn:=chk (ZjC (e.length+([(IntKind.wrap .u32 c)]:Zcy).length) 4) <|chk (0<=(32:Int)) <|chk (inK .i64 (i+1)) <|d a b (shrK .u64 c 32) (i+1) (e++([(IntKind.wrap .u32 c)]:Zcy))
def Zsz (d:ZSo) (a b:Zcy) (c i:Int) (e:Zcy):ZDn:=bif i<b.length then (idx b i).bind fun f=>Zsy d a b (IntKind.wrap .u64 (c+(IntKind.wrap .u64 f))) i e else Zsy d a b c i e
def ZqP (d:ZSo) (a b:Zcy) (c i:Int) (g:Bool) (e:Zcy):ZDn:=bif g then bif i<a.length then (idx a i).bind fun f=>Zsz d a b (IntKind.wrap .u64 (c+(IntKind.wrap .u64 f))) i e else Zsz d a b c i e else some (c,e)
def Zt2 (d:ZSo) (a b:Zcy) (c i:Int) (e:Zcy):ZDn:=bif i<a.length then ZqP d a b c i true e else ZqP d a b c i (i<b.length) e
def ZpN:Nat->Zcy->Zcy->Int->Int->Zcy->ZDn|0,_,_,_,_,_=>none|a+1,b,c,d,e,f=>Zt2 (ZpN a) b c d e f
def ZCI (n:Nat) (s:(Zcy×Zcy×Int×Int×Zcy)):ZDn:=ZpN n s.1 s.2.1 s.2.2.1 s.2.2.2.1 s.2.2.2.2
def Zyk (d:(Zcy×Zcy×Int×Int×Zcy)->ZDn) (s:(Zcy×Zcy×Int×Int×Zcy)):ZDn:=Zt2 (fun a b c i e=>d (a,b,c,i,e)) s.1 s.2.1 s.2.2.1 s.2.2.2.1 s.2.2.2.2
theorem ZGc (n s):ZCI (n+1) s=Zyk (ZCI n) s:=rfl
def ZuY (a b:Zcy):Option Zcy:=(ZpN big a b 0 0 []).bind fun(d,c)=>Zz5 d c
def Zpm (a b:Zgo):Option Zgo:=bif a.Neg==b.Neg then (ZuY a.Words b.Words).bind fun q=>(ZoV a.Neg q).bind fun h=>some h else (Zpy a.Words b.Words).bind fun e=>bif e>=0 then (ZqS a.Words b.Words).bind fun c=>(ZoV a.Neg c).bind fun d=>some d else (ZqS b.Words a.Words).bind fun f=>(ZoV b.Neg f).bind fun g=>some g
def Zqc (a:Zgo):Option Zgo:=(ZoV (!a.Neg) a.Words).bind fun q=>some q
def ZsZ (e b:Bool) (n d:Zgo) (c a:Zcy):ZIY:=(ZqM n d).bind fun q=>some (q,true)
def ZwQ (e g c:Bool) (n d:Zgo) (a b:Zcy):ZIY:=bif e then (Zqc n).bind fun f=>ZsZ g c f d a b else ZsZ g c n d a b
def Zs0 (f:ZYv) (g i k e:Bool) (n d:Zgo) (j:Str) (a:Nat) (b c:Zcy):ZNQ:=bif i then (ZoP 10).bind fun q=>(Zjm d q).bind fun h=>f g k e n h j a b c else some (g,k,e,n,d,b,c)
def Zvh (e:ZYv) (h i g:Bool) (n d:Zgo) (b:Str) (a:Nat) (c f:Zcy):ZNQ:=bif (decide (a < b.length))then (Zs0 e h true i g n d b (a+(Utf8.decode ⟨List.toArray b⟩ a).2) c f)else (Zs0 e h false i g n d b a c f)
def ZqD:Nat->Bool->Bool->Bool->Zgo->Zgo->Str->Nat->Zcy->Zcy->ZNQ|0,_,_,_,_,_,_,_,_,_=>none|a+1,b,c,d,e,f,g,h,i,j=>Zvh (ZqD a) b c d e f g h i j
def ZAC (n:Nat) (s:(Bool×Bool×Bool×Zgo×Zgo×Str×Nat×Zcy×Zcy)):ZNQ:=ZqD n s.1 s.2.1 s.2.2.1 s.2.2.2.1 s.2.2.2.2.1 s.2.2.2.2.2.1 s.2.2.2.2.2.2.1 s.2.2.2.2.2.2.2.1 s.2.2.2.2.2.2.2.2
def ZAD (c:(Bool×Bool×Bool×Zgo×Zgo×Str×Nat×Zcy×Zcy)->ZNQ) (s:(Bool×Bool×Bool×Zgo×Zgo×Str×Nat×Zcy×Zcy)):ZNQ:=Zvh (fun g i f n d h a b e=>c (g,i,f,n,d,h,a,b,e)) s.1 s.2.1 s.2.2.1 s.2.2.2.1 s.2.2.2.2.1 s.2.2.2.2.2.1 s.2.2.2.2.2.2.1 s.2.2.2.2.2.2.2.1 s.2.2.2.2.2.2.2.2
theorem ZEG (n s):ZAC (n+1) s=ZAD (ZAC n) s:=rfl
def ZwR (f:Bool) (a:Str) (m e:Bool) (n d:Zgo) (b c:Zcy):ZIY:=(ZqD big f m e n d a 0 b c).bind fun(g,i,o,l,j,k,h)=>ZwQ g i o l j k h
def ZrH (j:Bool->Str->Int->Int->Bool->Bool->Zgo->Zgo->Zcy->Zcy->Zcy->ZPt) (k:Bool) (a:Str) (i b:Int) (p g:Bool) (n d:Zgo) (h e f:Zcy):ZPt:=bif b<i then chk (inR b h.length) <|(h[(b).toNat]?).bind fun c=>(ZoP 10).bind fun q=>(Zjm n q).bind fun o=>(ZoP (IntKind.wrap .i64 (IntKind.wrap .u8 (c-48)))).bind fun l=>(Zpm o l).bind fun m=>chk (inK .i64 (b+1)) <|j k a i (b+1) p g m d h e f else some (k,a,p,g,n,d,e,f)
def ZsY:Nat->Bool->Str->Int->Int->Bool->Bool->Zgo->Zgo->Zcy->Zcy->Zcy->ZPt|0,_,_,_,_,_,_,_,_,_,_,_=>none|a+1,b,c,d,e,f,g,h,i,j,k,l=>ZrH (ZsY a) b c d e f g h i j k l
def ZAE (n:Nat) (s:(Bool×Str×Int×Int×Bool×Bool×Zgo×Zgo×Zcy×Zcy×Zcy)):ZPt:=ZsY n s.1 s.2.1 s.2.2.1 s.2.2.2.1 s.2.2.2.2.1 s.2.2.2.2.2.1 s.2.2.2.2.2.2.1 s.2.2.2.2.2.2.2.1 s.2.2.2.2.2.2.2.2.1 s.2.2.2.2.2.2.2.2.2.1 s.2.2.2.2.2.2.2.2.2.2
def Zvi (c:(Bool×Str×Int×Int×Bool×Bool×Zgo×Zgo×Zcy×Zcy×Zcy)->ZPt) (s:(Bool×Str×Int×Int×Bool×Bool×Zgo×Zgo×Zcy×Zcy×Zcy)):ZPt:=ZrH (fun i a g h k f n d j b e=>c (i,a,g,h,k,f,n,d,j,b,e)) s.1 s.2.1 s.2.2.1 s.2.2.2.1 s.2.2.2.2.1 s.2.2.2.2.2.1 s.2.2.2.2.2.2.1 s.2.2.2.2.2.2.2.1 s.2.2.2.2.2.2.2.2.1 s.2.2.2.2.2.2.2.2.2.1 s.2.2.2.2.2.2.2.2.2.2
theorem ZEH (n s):ZAE (n+1) s=Zvi (ZAE n) s:=rfl
def ZuG (s:Str):ZIY:=(Ztb s).bind fun(e,c,a,f)=>bif !f then some ((ZbF.mk (Zgo.mk false []) (Zgo.mk false [])),false) else (ZoP 1).bind fun d=>chk (c.length+a.length<=Zr) <|chk ((c++a).length<=281474976710656) <|(ZsY big e a (((c++a).map fun b=>((b.toNat:Nat):Int)).length:Int) 0 false false (Zgo.mk false []) d ((c++a).map fun b=>((b.toNat:Nat):Int)) [] []).bind fun(g,j,n,l,k,m,h,i)=>ZwR g j n l k m h i
def ZtO (n:Int) (d a:Bool) (c b:Zcy):ZIY:=(Zv5 n 1).bind fun(f,q)=>some (f,true)
def ZtP (e:Int) (t:Str) (i f a:Bool) (b c:Zcy):ZIY:=bif i then some ((ZbF.mk (Zgo.mk false []) (Zgo.mk false [])),false) else bif e==2 then bif t==[116,114,117,101] then ZtO 1 f a b c else ZtO 0 f a b c else bif e==5 then (ZA1 t).bind fun(y,m,d,q)=>(ZBP y m d).bind fun(n,j)=>ZtO n f a b c else (ZuG t).bind fun(h,g)=>some (h,g)
def Zwl (a:Int) (s:Str):ZIY:=(Ztr a s).bind fun(t,b)=>bif !b then ZtP a t true false false [] [] else ZtP a t (a==1) false false [] []
def Zvy (c:G_api_Cell):ZIY:=bif c.Null then some ((ZbF.mk (Zgo.mk false []) (Zgo.mk false [])),false) else (Zwl 4 c.Text).bind fun(q,a)=>some (q,a)
def Zx7 (a n:Int) (f e:Bool) (c d:Zcy):Option ZbF:=bif a==0 then Zlj.bind fun q=>some q else (ZqK n a).bind fun b=>some b
def Zrl (c:ZSs) (b n:Int) (g:ZxL) (h f:Int) (i e:Bool) (a d:Zcy):ZKd:=chk (inK .i64 (f+1)) <|c b n g h (f+1) i e a d
def ZsQ (e:ZSs) (a n:Int) (g:ZxL) (h f:Int) (i d:Bool) (b c:Zcy):ZKd:=bif f<h then (idx g f).bind fun j=>bif j.Null then Zrl e a n g h f i d b c else chk (inK .i64 (a+1)) <|(Zvy j).bind fun(q,k)=>bif k then chk (inK .i64 (n+1)) <|Zrl e (a+1) (n+1) g h f i d b c else Zrl e (a+1) n g h f i d b c else some (a,n,i,d,b,c)
def Zrk:Nat->Int->Int->ZxL->Int->Int->Bool->Bool->Zcy->Zcy->ZKd|0,_,_,_,_,_,_,_,_,_=>none|a+1,b,c,d,e,f,g,h,i,j=>ZsQ (Zrk a) b c d e f g h i j
def ZBt (n:Nat) (s:(Int×Int×ZxL×Int×Int×Bool×Bool×Zcy×Zcy)):ZKd:=Zrk n s.1 s.2.1 s.2.2.1 s.2.2.2.1 s.2.2.2.2.1 s.2.2.2.2.2.1 s.2.2.2.2.2.2.1 s.2.2.2.2.2.2.2.1 s.2.2.2.2.2.2.2.2
def ZwG (c:ZYp) (s:(Int×Int×ZxL×Int×Int×Bool×Bool×Zcy×Zcy)):ZKd:=ZsQ (fun b n h f g i e a d=>c (b,n,h,f,g,i,e,a,d)) s.1 s.2.1 s.2.2.1 s.2.2.2.1 s.2.2.2.2.1 s.2.2.2.2.2.1 s.2.2.2.2.2.2.1 s.2.2.2.2.2.2.2.1 s.2.2.2.2.2.2.2.2
theorem ZFg (n s):ZBt (n+1) s=ZwG (ZBt n) s:=rfl
def Zs8 (c:G_api_Column):Option ZbF:=(Zrk big 0 0 c.Cells c.Cells.length 0 false false [] []).bind fun(a,b,g,e,d,f)=>Zx7 a b g e d f
def Zp9 (b:Bool) (f:ZbF):Option Bool:=bif b then some false else bif (f.Num.Words.length:Int)==0 then (Zpy f.Den.Words ([1]:Zcy)).bind fun q=>some (q==0) else (ZuW f.Num.Words f.Den.Words).bind fun c=>(Zpy c ([1]:Zcy)).bind fun a=>some (a==0)
def ZoR (f:ZbF):Option Bool:=(Zqa f.Num).bind fun q=>bif !q then Zp9 true f else (Zqa f.Den).bind fun a=>bif !a then Zp9 true f else bif f.Den.Neg then Zp9 true f else Zp9 ((f.Den.Words.length:Int)==0) f
def Ztv (a e b:Bool) (f:ZbF) (c d:Zcy):ZHz:=bif a then some ((ZbF.mk (Zgo.mk false []) (Zgo.mk false [])),3) else some (f,0)
def ZqL (b a:Zgo):ZHz:=(ZqM b a).bind fun f=>bif (f.Num.Words.length:Int)>256 then Ztv true false false f [] [] else Ztv ((f.Den.Words.length:Int)>256) false false f [] []
def ZvM (h:Bool) (a b:ZbF) (m j:Bool) (k l:Zcy):ZHz:=bif h then some ((ZbF.mk (Zgo.mk false []) (Zgo.mk false [])),1) else (Zjm a.Num b.Den).bind fun q=>(Zjm b.Num a.Den).bind fun i=>(Zqc i).bind fun e=>(Zpm q e).bind fun c=>(Zjm a.Den b.Den).bind fun d=>(ZqL c d).bind fun(f,g)=>some (f,g)
def ZyP (a b:ZbF):ZHz:=(ZoR a).bind fun q=>bif !q then ZvM true a b false false [] [] else (ZoR b).bind fun c=>ZvM (!c) a b false false [] []
def ZpX (a b:ZbF):Option ZbF:=(ZyP a b).bind fun(f,q)=>some f
def ZvO (d:Bool) (a b:ZbF):Option Int:=bif d then some 0 else (Zjm a.Num b.Den).bind fun q=>(Zjm b.Num a.Den).bind fun c=>(Zqc c).bind fun e=>(Zpm q e).bind fun f=>bif (f.Words.length:Int)==0 then some 0 else bif f.Neg then some (-1) else some 1
def ZuZ (a b:ZbF):Option Int:=(ZoR a).bind fun q=>bif !q then ZvO true a b else (ZoR b).bind fun c=>ZvO (!c) a b
def ZpF (a b:ZbF):Option Bool:=(ZuZ a b).bind fun q=>some (q<0)
def ZyL (a:ZbF):Option ZbF:=Zlj.bind fun q=>(ZpF a q).bind fun d=>bif d then Zlj.bind fun b=>(ZpX b a).bind fun c=>some c else some a
def ZvP (g:Bool) (a b:ZbF) (l i:Bool) (j k:Zcy):ZHz:=bif g then some ((ZbF.mk (Zgo.mk false []) (Zgo.mk false [])),1) else (Zjm a.Num b.Den).bind fun q=>(Zjm b.Num a.Den).bind fun h=>(Zpm q h).bind fun e=>(Zjm a.Den b.Den).bind fun c=>(ZqL e c).bind fun(d,f)=>some (d,f)
def ZyR (a b:ZbF):ZHz:=(ZoR a).bind fun q=>bif !q then ZvP true a b false false [] [] else (ZoR b).bind fun c=>ZvP (!c) a b false false [] []
def ZpY (a b:ZbF):Option ZbF:=(ZyR a b).bind fun(f,q)=>some f
def ZvN (e:Bool) (a b:ZbF) (j g:Bool) (h i:Zcy):ZHz:=bif e then some ((ZbF.mk (Zgo.mk false []) (Zgo.mk false [])),1) else bif (b.Num.Words.length:Int)==0 then some ((ZbF.mk (Zgo.mk false []) (Zgo.mk false [])),8) else (Zjm a.Num b.Den).bind fun q=>(Zjm a.Den b.Num).bind fun f=>(ZqL q f).bind fun(d,c)=>some (d,c)
def ZyQ (a b:ZbF):ZHz:=(ZoR a).bind fun q=>bif !q then ZvN true a b false false [] [] else (ZoR b).bind fun c=>ZvN (!c) a b false false [] []
def ZuV (a b:ZbF):Option ZbF:=(ZyQ a b).bind fun(f,q)=>some f
def Zq7 (l:Bool) (a b:G_api_Column) (u p:Bool) (s n:ZbF) (r t:Zcy):Option ZbF:=bif l then Zlj.bind fun q=>some q else (Zs8 a).bind fun o=>(Zs8 b).bind fun g=>(ZpX o g).bind fun c=>(ZyL c).bind fun d=>(ZpY s s).bind fun e=>(ZpY e n).bind fun i=>(Zo6 1).bind fun j=>(ZpX j d).bind fun h=>(ZpY i h).bind fun m=>(Zo6 4).bind fun k=>(ZuV m k).bind fun f=>some f
def Zzr (a b:G_api_Column):Option ZbF:=(Zvx a b).bind fun d=>(Zwk a.Name b.Name).bind fun n=>Zlj.bind fun q=>(Zpd d q).bind fun f=>bif f then Zlj.bind fun c=>(Zpd n c).bind fun e=>Zq7 e a b false false d n [] [] else Zq7 false a b false false d n [] []
def Zx1:Option Int:=some 0
def Zx2 (b:ZSl) (c:List Zo5) (d a:Int):ZDE:=chk (inK .i64 (a+1)) <|b c d (a+1)
def ZsM (c:ZYk) (d:List Zo5) (b f:Int) (e:Zo5) (g a:Int):ZK8:=bif a<g then (idx e a).bind fun i=>Zlj.bind fun q=>(ZpF i q).bind fun h=>bif h then some (.ret 2) else chk (inK .i64 (a+1)) <|c d b f e g (a+1) else some (.brk (d,b,f))
def ZtJ:Nat->(List Zo5)->Int->Int->Zo5->Int->Int->ZK8|0,_,_,_,_,_,_=>none|a+1,b,c,d,e,f,g=>ZsM (ZtJ a) b c d e f g
def ZBn (n:Nat) (s:((List Zo5)×Int×Int×Zo5×Int×Int)):ZK8:=ZtJ n s.1 s.2.1 s.2.2.1 s.2.2.2.1 s.2.2.2.2.1 s.2.2.2.2.2
def ZwB (a:ZYm) (s:((List Zo5)×Int×Int×Zo5×Int×Int)):ZK8:=ZsM (fun c b f d g e=>a (c,b,f,d,g,e)) s.1 s.2.1 s.2.2.1 s.2.2.2.1 s.2.2.2.2.1 s.2.2.2.2.2
theorem ZFb (n s):ZBn (n+1) s=ZwB (ZBn n) s:=rfl
def ZsN (d:ZSl) (c:List Zo5) (b a:Int):ZDE:=bif a<b then (idx c a).bind fun e=>(ZtJ big c b a e e.length 0).bind fun| .ret f=>some (.ret f)| .brk (x0,x1,x2)=>Zx2 d x0 x1 x2 else some (.brk ())
def Zri:Nat->(List Zo5)->Int->Int->ZDE|0,_,_,_=>none|a+1,b,c,d=>ZsN (Zri a) b c d
def ZBo (n:Nat) (s:((List Zo5)×Int×Int)):ZDE:=Zri n s.1 s.2.1 s.2.2
def ZwC (a:ZX7) (s:((List Zo5)×Int×Int)):ZDE:=ZsN (fun c d b=>a (c,d,b)) s.1 s.2.1 s.2.2
theorem ZFc (n s):ZBo (n+1) s=ZwC (ZBo n) s:=rfl
def Zx3 (a:List Zo5):Option Int:=(Zri big a a.length 0).bind fun| .ret b=>some b| .brk ()=>Zx1
def ZsO (b:ZSq) (f:List Zo5) (e:List Zo5) (d a:Int):ZH4:=bif a<d then (idx e a).bind fun g=>(idx f 0).bind fun c=>bif (g.length:Int)!=(c.length:Int) then some (.ret 1) else chk (inK .i64 (a+1)) <|b f e d (a+1) else some (.brk f)
def ZtK:Nat->(List Zo5)->(List Zo5)->Int->Int->ZH4|0,_,_,_,_=>none|a+1,b,c,d,e=>ZsO (ZtK a) b c d e
def ZBp (n:Nat) (s:((List Zo5)×(List Zo5)×Int×Int)):ZH4:=ZtK n s.1 s.2.1 s.2.2.1 s.2.2.2
def ZwD (a:ZSr) (s:((List Zo5)×(List Zo5)×Int×Int)):ZH4:=ZsO (fun e d b c=>a (e,d,b,c)) s.1 s.2.1 s.2.2.1 s.2.2.2
theorem ZFd (n s):ZBp (n+1) s=ZwD (ZBp n) s:=rfl
def Zx4 (a:List Zo5):Option Int:=(ZtK big a a a.length 0).bind fun| .ret b=>some b| .brk c=>Zx3 c
def ZsP (c:ZSq) (e:List Zo5) (b:List Zo5) (d a:Int):ZH4:=bif a<d then (idx b a).bind fun f=>bif (f.length:Int)>8 then some (.ret 3) else chk (inK .i64 (a+1)) <|c e b d (a+1) else some (.brk e)
def ZtL:Nat->(List Zo5)->(List Zo5)->Int->Int->ZH4|0,_,_,_,_=>none|a+1,b,c,d,e=>ZsP (ZtL a) b c d e
def ZBq (n:Nat) (s:((List Zo5)×(List Zo5)×Int×Int)):ZH4:=ZtL n s.1 s.2.1 s.2.2.1 s.2.2.2
def ZwE (a:ZSr) (s:((List Zo5)×(List Zo5)×Int×Int)):ZH4:=ZsP (fun e b c d=>a (e,b,c,d)) s.1 s.2.1 s.2.2.1 s.2.2.2
theorem ZFe (n s):ZBq (n+1) s=ZwE (ZBq n) s:=rfl
def Zwj (a:List Zo5):Option Int:=bif (a.length:Int)>8 then some 3 else (ZtL big a a a.length 0).bind fun| .ret b=>some b| .brk c=>Zx4 c
def Zy4 (g:(List Zo5)->Int->Int->(List (Ziw×ZbF))->ZFN) (b:(List (Ziw×ZbF))) (h e:Bool) (c:Ziw) (a:ZbF) (f d:Zcy):ZFN:=some (a,(setB (q:=ZKm) (k:=(.st 7)) (v:=(.st 4)) (car:=ZAj) b c a))
def Zqo (l:(List Zo5)->Int->Int->(List (Ziw×ZbF))->ZFN) (b:Tf_3) (n:List Zo5) (g left:Int) (i:Zo5) (j k:Int) (c:(List (Ziw×ZbF))) (m e:Bool) (h:Ziw) (d:ZbF) (f a:Zcy):ZUS:=chk (inK .i64 (k+1)) <|b n g left i j (k+1) c m e h d f a
def Ztk (h:(List Zo5)->Int->Int->(List (Ziw×ZbF))->ZFN) (f:Tf_3) (o:List Zo5) (e left:Int) (j:Zo5) (l k:Int) (g:(List (Ziw×ZbF))) (n c:Bool) (i:Ziw) (b:ZbF) (d a:Zcy):ZUS:=bif k<l then (idx j k).bind fun r=>chk (0<=(IntKind.wrap .u64 k)) <|bif ((andK .i64 (shrK .i64 left (IntKind.wrap .u64 k)) 1)==0)then Zqo h f o e left j l k g n c i b d a else chk (inK .i64 (e+1)) <|chk (0<=(IntKind.wrap .u64 k)) <|(h o (e+1) (andNotK .i64 left (shlK .i64 1 (IntKind.wrap .u64 k))) g).bind fun(q,m)=>(ZpY r q).bind fun s=>(ZpF b s).bind fun p=>bif p then Zqo h f o e left j l k m n c i s d a else Zqo h f o e left j l k m n c i b d a else some (g,n,c,i,b,d,a)
def ZoN (a:(List Zo5)->Int->Int->(List (Ziw×ZbF))->ZFN):Nat->(List Zo5)->Int->Int->Zo5->Int->Int->(List (Ziw×ZbF))->Bool->Bool->Ziw->ZbF->Zcy->Zcy->ZUS|0,_,_,_,_,_,_,_,_,_,_,_,_,_=>none|b+1,c,d,e,f,g,h,i,j,k,l,m,n,o=>Ztk a (ZoN a b) c d e f g h i j k l m n o
def ZB9 (a:(List Zo5)->Int->Int->(List (Ziw×ZbF))->ZFN) (n:Nat) (s:((List Zo5)×Int×Int×Zo5×Int×Int×(List (Ziw×ZbF))×Bool×Bool×Ziw×ZbF×Zcy×Zcy)):ZUS:=ZoN a n s.1 s.2.1 s.2.2.1 s.2.2.2.1 s.2.2.2.2.1 s.2.2.2.2.2.1 s.2.2.2.2.2.2.1 s.2.2.2.2.2.2.2.1 s.2.2.2.2.2.2.2.2.1 s.2.2.2.2.2.2.2.2.2.1 s.2.2.2.2.2.2.2.2.2.2.1 s.2.2.2.2.2.2.2.2.2.2.2.1 s.2.2.2.2.2.2.2.2.2.2.2.2
def ZF2 (h:(List Zo5)->Int->Int->(List (Ziw×ZbF))->ZFN) (b:((List Zo5)×Int×Int×Zo5×Int×Int×(List (Ziw×ZbF))×Bool×Bool×Ziw×ZbF×Zcy×Zcy)->ZUS) (s:((List Zo5)×Int×Int×Zo5×Int×Int×(List (Ziw×ZbF))×Bool×Bool×Ziw×ZbF×Zcy×Zcy)):ZUS:=Ztk h (fun n g left j l k c m e i d f a=>b (n,g,left,j,l,k,c,m,e,i,d,f,a)) s.1 s.2.1 s.2.2.1 s.2.2.2.1 s.2.2.2.2.1 s.2.2.2.2.2.1 s.2.2.2.2.2.2.1 s.2.2.2.2.2.2.2.1 s.2.2.2.2.2.2.2.2.1 s.2.2.2.2.2.2.2.2.2.1 s.2.2.2.2.2.2.2.2.2.2.1 s.2.2.2.2.2.2.2.2.2.2.2.1 s.2.2.2.2.2.2.2.2.2.2.2.2
theorem ZJ4 (a:(List Zo5)->Int->Int->(List (Ziw×ZbF))->ZFN):∀n s,ZB9 a (n+1) s=ZF2 a (ZB9 a n) s:=fun _ _=>rfl
def ZzN (d:(List Zo5)->Int->Int->(List (Ziw×ZbF))->ZFN) (f:List Zo5) (a left:Int) (b:(List (Ziw×ZbF))):ZFN:=bif a==f.length then Zlj.bind fun q=>some (q,b) else bif (Zhx (q:=ZKm) (k:=(.st 7)) (v:=(.st 4)) (car:=ZAj) b (Ziw.mk a left)).isSome then some (((Zhx (q:=ZKm) (k:=(.st 7)) (v:=(.st 4)) (car:=ZAj) b (Ziw.mk a left)).getD (ZbF.mk (Zgo.mk false []) (Zgo.mk false []))),b) else chk (inK .i64 (a+1)) <|(d f (a+1) left b).bind fun(e,m)=>(idx f a).bind fun c=>(ZoN d big f a left c c.length 0 m false false (Ziw.mk a left) e [] []).bind fun(g,i,o,l,j,n,h)=>Zy4 d g i o l j n h
def ZkT:Nat->(List Zo5)->Int->Int->(List (Ziw×ZbF))->ZFN|0,_,_,_,_=>none|a+1,b,c,d,e=>ZzN (ZkT a) b c d e
def ZDp (f e:Bool) (a:ZbF) (b d c:Zcy):ZKc:=some (b,a,0)
def ZrT (e:Z0Q) (l:List Zo5) (left a:Int) (i:List Zo5) (j b:Int) (m g:Bool) (f:(List (Ziw×ZbF))) (k rest:ZbF) (h d c:Zcy):ZQN:=chk (ZjC (h.length+[a].length) 8) <|chk (inK .i64 (b+1)) <|e l left i j (b+1) m g f k rest (h++[a]) d c
def Zy5 (e:Z0Q) (n:List Zo5) (left:Int) (p:Zo5) (a:Int) (h:List Zo5) (j i:Int) (o g:Bool) (f:(List (Ziw×ZbF))) (l rest:ZbF) (m d c:Zcy):ZQN:=bif a>=0 then chk (0<=(IntKind.wrap .u64 a)) <|(idx p a).bind fun k=>(ZpX rest k).bind fun b=>ZrT e n (andNotK .i64 left (shlK .i64 1 (IntKind.wrap .u64 a))) a h j i o g f l b m d c else ZrT e n left a h j i o g f l rest m d c
def ZrU (e:Z0R) (q:List Zo5) (left i:Int) (p:Zo5) (b:Int) (h:List Zo5) (j a:Int) (l:Zo5) (n k:Int) (r g:Bool) (f:(List (Ziw×ZbF))) (m rest:ZbF) (o d c:Zcy):ZX2:=chk (inK .i64 (k+1)) <|e q left i p b h j a l n (k+1) r g f m rest o d c
def Zqp (g:Z0R) (t:List Zo5) (left e:Int) (u:Zo5) (h k:Int) (i:List Zo5) (l a:Int) (p:Zo5) (o r:Int) (w v d:Bool) (f:(List (Ziw×ZbF))) (n rest:ZbF) (j:Zcy) (y:ZbF) (c b:Zcy):ZX2:=bif w then ZrU g t left e u h i l a p o r v d f n rest j c b else chk (inK .i64 (e+1)) <|chk (0<=(IntKind.wrap .u64 k)) <|(ZkT big t (e+1) (andNotK .i64 left (shlK .i64 1 (IntKind.wrap .u64 k))) f).bind fun(q,m)=>(ZpY y q).bind fun s=>(Zpd s rest).bind fun x=>bif x then some (t,left,u,k,i,l,a,v,d,m,n,rest,j,c,b) else ZrU g t left e u h i l a p o r v d m n rest j c b
def Zxg (g:Z0R) (s:List Zo5) (left o:Int) (p:Zo5) (e:Int) (i:List Zo5) (m a:Int) (j:Zo5) (h k:Int) (r f:Bool) (d:(List (Ziw×ZbF))) (n rest:ZbF) (l c b:Zcy):ZX2:=bif k<h then (idx j k).bind fun u=>chk (0<=(IntKind.wrap .u64 k)) <|bif ((andK .i64 (shrK .i64 left (IntKind.wrap .u64 k)) 1)==0)then Zqp g s left o p e k i m a j h k true r f d n rest l u c b else Zlj.bind fun q=>(ZuZ u q).bind fun t=>Zqp g s left o p e k i m a j h k (t==0) r f d n rest l u c b else some (s,left,p,e,i,m,a,r,f,d,n,rest,l,c,b)
def ZoI:Nat->(List Zo5)->Int->Int->Zo5->Int->(List Zo5)->Int->Int->Zo5->Int->Int->Bool->Bool->(List (Ziw×ZbF))->ZbF->ZbF->Zcy->Zcy->Zcy->ZX2|0,_,_,_,_,_,_,_,_,_,_,_,_,_,_,_,_,_,_,_=>none|a+1,b,c,d,e,f,g,h,i,j,k,l,m,n,o,p,q,r,s,t=>Zxg (ZoI a) b c d e f g h i j k l m n o p q r s t
def Zxh (g:Z0Q) (w:List Zo5) (left:Int) (e:List Zo5) (i a:Int) (q d:Bool) (f:(List (Ziw×ZbF))) (j rest:ZbF) (h c b:Zcy):ZQN:=bif a<i then (idx e a).bind fun l=>(ZoI big w left a l (-1) e i a l l.length 0 q d f j rest h c b).bind fun(v,B,u,x,s,z,A,t,r,y,m,k,o,n,p)=>Zy5 g v B u x s z A t r y m k o n p else some (q,d,j,h,c,b)
def ZoO:Nat->(List Zo5)->Int->(List Zo5)->Int->Int->Bool->Bool->(List (Ziw×ZbF))->ZbF->ZbF->Zcy->Zcy->Zcy->ZQN|0,_,_,_,_,_,_,_,_,_,_,_,_,_=>none|a+1,b,c,d,e,f,g,h,i,j,k,l,m,n=>Zxh (ZoO a) b c d e f g h i j k l m n
def Zxi (a:List Zo5):ZKc:=(Zwj a).bind fun e=>bif e != 0 then some ([],(ZbF.mk (Zgo.mk false []) (Zgo.mk false [])),e) else (ZkT big a 0 255 ([]:(List (Ziw×ZbF)))).bind fun(b,m)=>(ZoO big a 255 a a.length 0 false false m b b [] [] []).bind fun(c,d,i,g,f,h)=>ZDp c d i g f h
def ZxZ (a b:G_api_Table) (j h:Bool) (i:List Zo5) (f g:Zcy):ZKc:=(Zxi i).bind fun(l,s,q)=>bif (if (b.Columns.length:Int)>(a.Columns.length:Int)then (b.Columns.length:Int)else (a.Columns.length:Int))==0 then Zlj.bind fun e=>some (([]:Zcy),e,0) else ((Zo6 (if (b.Columns.length:Int)>(a.Columns.length:Int)then (b.Columns.length:Int)else (a.Columns.length:Int))).bind fun d=>(ZuV s d).bind fun c=>some (l,c,0))
def Zx0 (f:ZSu) (i:Zna) (j g:Int) (a b:G_api_Table) (l h:Bool) (k:List Zo5) (d:Zo5) (c e:Zcy):ZKe:=chk (ZjC (k.length+[d].length) 24) <|chk (inK .i64 (g+1)) <|f i j (g+1) a b l h (k++[d]) c e
def ZsK (i:Tf_6) (h:Zna) (l m:Int) (k:Zna) (j c:Int) (a b:G_api_Table) (o f:Bool) (p:List Zo5) (n:G_api_Column) (g:Zo5) (d e:Zcy):ZRk:=bif c<j then (idx k c).bind fun y=>(Zzr n y).bind fun q=>chk (ZjC (g.length+[q].length) 64) <|chk (inK .i64 (c+1)) <|i h l m k j (c+1) a b o f p n (g++[q]) d e else some (h,l,m,a,b,o,f,p,g,d,e)
def ZtH:Nat->Zna->Int->Int->Zna->Int->Int->G_api_Table->G_api_Table->Bool->Bool->(List Zo5)->G_api_Column->Zo5->Zcy->Zcy->ZRk|0,_,_,_,_,_,_,_,_,_,_,_,_,_,_,_=>none|a+1,b,c,d,e,f,g,h,i,j,k,l,m,n,o,p=>ZsK (ZtH a) b c d e f g h i j k l m n o p
def ZBl (n:Nat) (s:(Zna×Int×Int×Zna×Int×Int×G_api_Table×G_api_Table×Bool×Bool×(List Zo5)×G_api_Column×Zo5×Zcy×Zcy)):ZRk:=ZtH n s.1 s.2.1 s.2.2.1 s.2.2.2.1 s.2.2.2.2.1 s.2.2.2.2.2.1 s.2.2.2.2.2.2.1 s.2.2.2.2.2.2.2.1 s.2.2.2.2.2.2.2.2.1 s.2.2.2.2.2.2.2.2.2.1 s.2.2.2.2.2.2.2.2.2.2.1 s.2.2.2.2.2.2.2.2.2.2.2.1 s.2.2.2.2.2.2.2.2.2.2.2.2.1 s.2.2.2.2.2.2.2.2.2.2.2.2.2.1 s.2.2.2.2.2.2.2.2.2.2.2.2.2.2
def Zwz (e:Tf_5) (s:(Zna×Int×Int×Zna×Int×Int×G_api_Table×G_api_Table×Bool×Bool×(List Zo5)×G_api_Column×Zo5×Zcy×Zcy)):ZRk:=ZsK (fun g l m k i j a b o f p n h c d=>e (g,l,m,k,i,j,a,b,o,f,p,n,h,c,d)) s.1 s.2.1 s.2.2.1 s.2.2.2.1 s.2.2.2.2.1 s.2.2.2.2.2.1 s.2.2.2.2.2.2.1 s.2.2.2.2.2.2.2.1 s.2.2.2.2.2.2.2.2.1 s.2.2.2.2.2.2.2.2.2.1 s.2.2.2.2.2.2.2.2.2.2.1 s.2.2.2.2.2.2.2.2.2.2.2.1 s.2.2.2.2.2.2.2.2.2.2.2.2.1 s.2.2.2.2.2.2.2.2.2.2.2.2.2.1 s.2.2.2.2.2.2.2.2.2.2.2.2.2.2
theorem ZE9 (n s):ZBl (n+1) s=Zwz (ZBl n) s:=rfl
def ZsL (h:ZSu) (g:Zna) (i f:Int) (a b:G_api_Table) (k c:Bool) (l:List Zo5) (d e:Zcy):ZKe:=bif f<i then (idx g f).bind fun u=>(ZtH big g i f b.Columns b.Columns.length 0 a b k c l u [] d e).bind fun(q,w,p,r,n,t,v,o,m,s,j)=>Zx0 h q w p r n t v o m s j else some (a,b,k,c,l,d,e)
def Zrg:Nat->Zna->Int->Int->G_api_Table->G_api_Table->Bool->Bool->(List Zo5)->Zcy->Zcy->ZKe|0,_,_,_,_,_,_,_,_,_,_=>none|a+1,b,c,d,e,f,g,h,i,j,k=>ZsL (Zrg a) b c d e f g h i j k
def ZBm (n:Nat) (s:(Zna×Int×Int×G_api_Table×G_api_Table×Bool×Bool×(List Zo5)×Zcy×Zcy)):ZKe:=Zrg n s.1 s.2.1 s.2.2.1 s.2.2.2.1 s.2.2.2.2.1 s.2.2.2.2.2.1 s.2.2.2.2.2.2.1 s.2.2.2.2.2.2.2.1 s.2.2.2.2.2.2.2.2.1 s.2.2.2.2.2.2.2.2.2
def ZwA (e:Tf_9) (s:(Zna×Int×Int×G_api_Table×G_api_Table×Bool×Bool×(List Zo5)×Zcy×Zcy)):ZKe:=ZsL (fun i g h a b j f k c d=>e (i,g,h,a,b,j,f,k,c,d)) s.1 s.2.1 s.2.2.1 s.2.2.2.1 s.2.2.2.2.1 s.2.2.2.2.2.1 s.2.2.2.2.2.2.1 s.2.2.2.2.2.2.2.1 s.2.2.2.2.2.2.2.2.1 s.2.2.2.2.2.2.2.2.2
theorem ZFa (n s):ZBm (n+1) s=ZwA (ZBm n) s:=rfl
def ZtI (f:Bool) (a b:G_api_Table) (g e:Bool) (c d:Zcy):ZKc:=bif f then some ([],(ZbF.mk (Zgo.mk false []) (Zgo.mk false [])),3) else (Zrg big a.Columns a.Columns.length 0 a b g e [] c d).bind fun(h,j,n,l,k,m,i)=>ZxZ h j n l k m i
def Zrh (f:Bool) (a b:G_api_Table) (g e:Bool) (c d:Zcy):ZKc:=bif f then some (([]:Zcy),(ZbF.mk (Zgo.mk false []) (Zgo.mk false [])),1) else bif (a.Columns.length:Int)>8 then ZtI true a b g e c d else ZtI ((b.Columns.length:Int)>8) a b g e c d
def Zq6 (a b:G_api_Table):ZKc:=(ZlB a).bind fun q=>bif !q then Zrh true a b false false [] [] else (ZlB b).bind fun c=>Zrh (!c) a b false false [] []
def ZzM (l:ZxR) (i:Int) (m:ZkC):Option ZxR:=chk (Zcp 0 i l.length) <|chk (ZjC (l.take (i).toNat).length 96) <|chk (ZjC ((l.take (i).toNat).length+[m].length) 96) <|chk (Zcp i l.length l.length) <|chk (ZjC (((l.take (i).toNat)++[m]).length+(l.drop (i).toNat).length) 96) <|some (((l.take (i).toNat)++[m])++(l.drop (i).toNat))
def Zpp (a:ZX6) (l:ZxR) (i:Int) (b:Bool) (m:ZkC):ZNI:=bif b then chk (inK .i64 (i-1)) <|a l (i-1) m else some (l,i,m)
def ZxY (a:ZX6) (l:ZxR) (i:Int) (m:ZkC):ZNI:=bif i>0 then chk (inK .i64 (i-1)) <|(idx l (i-1)).bind fun d=>(ZpF d.Score m.Score).bind fun q=>bif q then Zpp a l i true m else chk (inK .i64 (i-1)) <|(idx l (i-1)).bind fun b=>(Zpd b.Score m.Score).bind fun e=>bif e then chk (inK .i64 (i-1)) <|(idx l (i-1)).bind fun c=>Zpp a l i (m.Table<c.Table) m else Zpp a l i false m else Zpp a l i false m
def Zsp:Nat->ZxR->Int->ZkC->ZNI|0,_,_,_=>none|a+1,b,c,d=>ZxY (Zsp a) b c d
def ZCw (n:Nat) (s:(ZxR×Int×ZkC)):ZNI:=Zsp n s.1 s.2.1 s.2.2
def ZCx (a:(ZxR×Int×ZkC)->ZNI) (s:(ZxR×Int×ZkC)):ZNI:=ZxY (fun l i m=>a (l,i,m)) s.1 s.2.1 s.2.2
theorem ZF1 (n s):ZCw (n+1) s=ZCx (ZCw n) s:=rfl
def ZyJ (l:ZxR) (m:ZkC):Option ZxR:=(Zsp big l l.length m).bind fun(c,a,b)=>ZzM c a b
def ZzL (k:Int) (a:ZxR):ZMP:=chk (Zcp 0 (if (a.length:Int)<k then (a.length:Int)else k) a.length) <|some (((a.drop 0).take (((if (a.length:Int)<k then (a.length:Int)else k)).toNat-0)),0)
def Zsn (a:ZPu) (k:Int) (c:Zvo) (d b:Int) (q:G_api_Table) (e:ZxR):ZJq:=chk (inK .i64 (b+1)) <|a k c d (b+1) q e
def ZqJ (b:ZPu) (k:Int) (d:Zvo) (e f:Int) (h:Bool) (q:G_api_Table) (g:ZxR) (t:G_api_Table) (a:Zcy) (s:ZbF):ZJq:=bif h then (ZyJ g (ZkC.mk t.ID a s)).bind fun c=>Zsn b k d e f q c else Zsn b k d e f q g
def ZtG (c:ZPu) (k:Int) (d:Zvo) (f b:Int) (q:G_api_Table) (g:ZxR):ZJq:=bif b<f then (idx d b).bind fun t=>(Zq6 q t).bind fun(a,s,e)=>bif e==0 then Zlj.bind fun i=>(ZpF i s).bind fun h=>ZqJ c k d f b h q g t a s else ZqJ c k d f b false q g t a s else some (k,g)
def ZpJ:Nat->Int->Zvo->Int->Int->G_api_Table->ZxR->ZJq|0,_,_,_,_,_,_=>none|a+1,b,c,d,e,f,g=>ZtG (ZpJ a) b c d e f g
def ZCv (n:Nat) (s:(Int×Zvo×Int×Int×G_api_Table×ZxR)):ZJq:=ZpJ n s.1 s.2.1 s.2.2.1 s.2.2.2.1 s.2.2.2.2.1 s.2.2.2.2.2
def ZxX (a:ZYn) (s:(Int×Zvo×Int×Int×G_api_Table×ZxR)):ZJq:=ZtG (fun k b c d q e=>a (k,b,c,d,q,e)) s.1 s.2.1 s.2.2.1 s.2.2.2.1 s.2.2.2.2.1 s.2.2.2.2.2
theorem ZF0 (n s):ZCv (n+1) s=ZxX (ZCv n) s:=rfl
def Zso (l:Zvo) (k:Int) (a:Bool) (q:G_api_Table):ZMP:=bif a then some (([]:ZxR),1) else bif (q.Columns.length:Int)>8 then some (([]:ZxR),3) else (ZpJ big k l l.length 0 q []).bind fun(c,b)=>ZzL c b
def ZpK (l:Zvo) (k:Int) (b:Bool) (q:G_api_Table):ZMP:=bif b then some ([],2) else (Zq0 l).bind fun c=>bif !c then Zso l k true q else (ZlB q).bind fun a=>Zso l k (!a) q
def ZpW (l:Zvo) (q:G_api_Table) (k:Int):ZMP:=bif k<0 then ZpK l k true q else ZpK l k (k>1024) q
def Zy3:Option Bool:=some true
def ZrS (a:ZX4) (b c:ZxR) (e i:Int) (d:Bool):Zry:=bif d then some (.ret false) else chk (inK .i64 (i+1)) <|a b c e (i+1)
def Ztj (a:ZX4) (b d:ZxR) (c i:Int):Zry:=bif i<c then (idx d i).bind fun m=>(idx b i).bind fun g=>bif m.Table != g.Table then ZrS a b d c i true else (idx b i).bind fun f=>(Zpd m.Score f.Score).bind fun q=>bif !q then ZrS a b d c i true else (idx b i).bind fun e=>(Zp2 m.Align e.Align).bind fun h=>ZrS a b d c i (!h) else some (.brk ())
def ZrR:Nat->ZxR->ZxR->Int->Int->Zry|0,_,_,_,_=>none|a+1,b,c,d,e=>Ztj (ZrR a) b c d e
def ZB8 (n:Nat) (s:(ZxR×ZxR×Int×Int)):Zry:=ZrR n s.1 s.2.1 s.2.2.1 s.2.2.2
def Zxf (a:(ZxR×ZxR×Int×Int)->Zry) (s:(ZxR×ZxR×Int×Int)):Zry:=Ztj (fun b c d i=>a (b,c,d,i)) s.1 s.2.1 s.2.2.1 s.2.2.2
theorem ZFC (n s):ZB8 (n+1) s=Zxf (ZB8 n) s:=rfl
def Zrz (a b:ZxR):Option Bool:=bif (a.length:Int)!=(b.length:Int) then some false else (ZrR big b a a.length 0).bind fun| .ret c=>some c| .brk ()=>Zy3
def ZsA:Option Bool:=Zq8.bind fun q=>some q
def ZsB (a:ZYl) (k c b:Int) (q:G_api_Table) (d:List Zvo):Zry:=chk (inK .i64 (b+1)) <|a k c (b+1) q d
def Zqg (b:ZYw) (k:Int) (i:Zvo) (f g e c:Int) (a:Bool) (q:G_api_Table) (d:List Zvo) (h:Zcy):ZNP:=bif a then some (.ret false) else chk (inK .i64 (c+1)) <|b k i f g e (c+1) q d h
def ZpR (g:ZYw) (k:Int) (m:Zvo) (j l i c:Int) (q:G_api_Table) (h:List Zvo) (d:Zcy):ZNP:=bif c<i then chk (inR c d.length) <|(d[(c).toNat]?).bind fun n=>(Zs6 m q n).bind fun(a,e)=>(ZpW m q n).bind fun(b,f)=>(Zrz a b).bind fun o=>bif !o then Zqg g k m j l i c true q h d else Zqg g k m j l i c (e != f) q h d else some (.brk (k,j,l,q,h))
def Zo7:Nat->Int->Zvo->Int->Int->Int->Int->G_api_Table->(List Zvo)->Zcy->ZNP|0,_,_,_,_,_,_,_,_,_=>none|a+1,b,c,d,e,f,g,h,i,j=>ZpR (Zo7 a) b c d e f g h i j
def Zwn (n:Nat) (s:(Int×Zvo×Int×Int×Int×Int×G_api_Table×(List Zvo)×Zcy)):ZNP:=Zo7 n s.1 s.2.1 s.2.2.1 s.2.2.2.1 s.2.2.2.2.1 s.2.2.2.2.2.1 s.2.2.2.2.2.2.1 s.2.2.2.2.2.2.2.1 s.2.2.2.2.2.2.2.2
def ZrI (a:(Int×Zvo×Int×Int×Int×Int×G_api_Table×(List Zvo)×Zcy)->ZNP) (s:(Int×Zvo×Int×Int×Int×Int×G_api_Table×(List Zvo)×Zcy)):ZNP:=ZpR (fun k h d e c f q b g=>a (k,h,d,e,c,f,q,b,g)) s.1 s.2.1 s.2.2.1 s.2.2.2.1 s.2.2.2.2.1 s.2.2.2.2.2.1 s.2.2.2.2.2.2.1 s.2.2.2.2.2.2.2.1 s.2.2.2.2.2.2.2.2
theorem ZCK (n s):Zwn (n+1) s=ZrI (Zwn n) s:=rfl
def ZpS (d:ZYl) (k c a:Int) (q:G_api_Table) (b:List Zvo):Zry:=bif a<c then chk (inR a b.length) <|(b[(a).toNat]?).bind fun f=>(Zup k 5).bind fun e=>(Zo7 big k f c a ([k,e].length:Int) 0 q b [k,e]).bind fun| .ret g=>some (.ret g)| .brk (x0,x1,x2,x3,x4)=>ZsB d x0 x1 x2 x3 x4 else some (.brk ())
def Zo8:Nat->Int->Int->Int->G_api_Table->(List Zvo)->Zry|0,_,_,_,_,_=>none|a+1,b,c,d,e,f=>ZpS (Zo8 a) b c d e f
def Zwo (n:Nat) (s:(Int×Int×Int×G_api_Table×(List Zvo))):Zry:=Zo8 n s.1 s.2.1 s.2.2.1 s.2.2.2.1 s.2.2.2.2
def ZrJ (a:(Int×Int×Int×G_api_Table×(List Zvo))->Zry) (s:(Int×Int×Int×G_api_Table×(List Zvo))):Zry:=ZpS (fun k b d q c=>a (k,b,d,q,c)) s.1 s.2.1 s.2.2.1 s.2.2.2.1 s.2.2.2.2
theorem ZCL (n s):Zwo (n+1) s=ZrJ (Zwo n) s:=rfl
def ZsC (t:Zcy) (b:Zvo) (k:Int):Option Bool:=(ZCP t).bind fun d=>(Zt7 d 3).bind fun(l,h)=>(Zi5 h l.length).bind fun(q,f)=>chk (inR q l.length) <|(l[(q).toNat]?).bind fun g=>(Zi5 f 3).bind fun(i,e)=>(Zq9 e g i).bind fun(c,m)=>chk (0<=(0:Int)/\(0:Int)<=(l.length:Int)/\(l.length:Int)<=(l.length:Int)/\(l.length:Int)=(l.length:Int)) <|chk (inR 0 l.length) <|(l[((0:Int)).toNat]?).bind fun a=>chk (List.isEmpty ([a]:Zvo)=false) <|chk (ZjC ((l.take ((l.length:Int)).toNat).length+([a]:Zvo).length) 48) <|(Zo8 big k (([l,b,((l.take ((l.length:Int)).toNat)++([a]:Zvo))]:List Zvo).length:Int) 0 c ([l,b,((l.take ((l.length:Int)).toNat)++([a]:Zvo))]:List Zvo)).bind fun| .ret j=>some j| .brk ()=>ZsA
def ZpT (e:Zcy->Zvo->Int->Zvo->Int->Int->ZPi) (t:Zcy) (c:Zvo) (k:Int) (b:Zvo) (d a:Int):ZPi:=bif a<d then (idx b a).bind fun g=>(Zwm g).bind fun q=>bif !q then Zq8.bind fun f=>some (.ret f) else chk (inK .i64 (a+1)) <|e t c k b d (a+1) else some (.brk (t,c,k))
def Zps:Nat->Zcy->Zvo->Int->Zvo->Int->Int->ZPi|0,_,_,_,_,_,_=>none|a+1,b,c,d,e,f,g=>ZpT (Zps a) b c d e f g
def Zwp (n:Nat) (s:(Zcy×Zvo×Int×Zvo×Int×Int)):ZPi:=Zps n s.1 s.2.1 s.2.2.1 s.2.2.2.1 s.2.2.2.2.1 s.2.2.2.2.2
def ZrK (a:(Zcy×Zvo×Int×Zvo×Int×Int)->ZPi) (s:(Zcy×Zvo×Int×Zvo×Int×Int)):ZPi:=ZpT (fun t c k b d e=>a (t,c,k,b,d,e)) s.1 s.2.1 s.2.2.1 s.2.2.2.1 s.2.2.2.2.1 s.2.2.2.2.2
theorem ZCM (n s):Zwp (n+1) s=ZrK (Zwp n) s:=rfl
def Zqh (t:Zcy) (a:Zvo) (k:Int) (b:Bool):Option Bool:=bif b then Zq8.bind fun q=>some q else (Zps big t a k a a.length 0).bind fun| .ret c=>some c| .brk (x0,x1,x2)=>ZsC x0 x1 x2
def Zt6 (t:Zcy) (a:Zvo) (k:Int):Option Bool:=(ZBR t).bind fun q=>bif !q then Zqh t a k true else Zqh t a k ((a.length:Int)>3)
end
end Go.Proofs

/- Printed by wip/tools/tgen.py: specs. -/
import Derived.Test.YtcjejmbjlhlkhaaGreatDoorE4
import Derived.Lib.Bytealg
import Derived.Lib.ItoaNum
import Derived.Lib.LaidU8
import Derived.Lib.SlTrimSet
import Derived.Shelf.Strconv.Itoa3
import Derived.Test.YtcjejmbjlhlkhaaGreatDoorCtWD
set_option linter.all false
namespace Go.Proofs
open Go Eng
set_option maxRecDepth 100000
noncomputable section
structure G_api_Cell where
 Null:Bool
 Text:Str
 deriving DecidableEq,Inhabited
structure G_api_Column where
 Name:Str
 Cells:(List G_api_Cell)
 deriving DecidableEq,Inhabited
structure G_api_Table where
 ID:Int
 Name:Str
 Columns:(List G_api_Column)
 deriving DecidableEq,Inhabited
structure ZnP where
 Neg:Bool
 Words:(List Int)
 deriving DecidableEq,Inhabited
structure ZnK where
 Num:ZnP
 Den:ZnP
 deriving DecidableEq,Inhabited
structure ZnV where
 e0:ZnK
 e1:ZnK
 deriving DecidableEq,Inhabited
structure Zn0 where
 N:Int
 X:ZnK
 Y:ZnK
 XX:ZnK
 YY:ZnK
 XY:ZnK
 deriving DecidableEq,Inhabited
structure ZnJ where
 l:(List Int)
 at_:Int
 deriving DecidableEq,Inhabited
structure Zn6 where
 Kind:Int
 Column:Int
 Text:Str
 Columns:(List Int)
 deriving DecidableEq,Inhabited
structure ZnQ where
 lo:Int
 hi:Int
 deriving DecidableEq,Inhabited
structure ZnM where
 Key:Str
 Hash:Int
 Count:Int
 Sum:ZnK
 deriving DecidableEq,Inhabited
structure Zrg where
 word:Str
 canonical:(Option Nat)
 value:(Option Nat)
 deriving DecidableEq,Inhabited
structure Zph where
 Table:Int
 Column:Int
 deriving DecidableEq,Inhabited
structure ZnX where
 Key:Zph
 Value:Zph
 Score:ZnK
 Sign:Int
 N:Int
 deriving DecidableEq,Inhabited
abbrev Zz6:Type:={l:List Int // l.length=256}
structure ZoS where
 e0:ZnQ
 e1:ZnQ
 e2:ZnQ
 e3:ZnQ
 e4:ZnQ
 e5:ZnQ
 e6:ZnQ
 e7:ZnQ
 e8:ZnQ
 e9:ZnQ
 e10:ZnQ
 e11:ZnQ
 e12:ZnQ
 e13:ZnQ
 e14:ZnQ
 e15:ZnQ
 deriving DecidableEq,Inhabited
def ZBM:Nat->Type
 |0=>G_api_Cell
 |1=>G_api_Column
 |2=>G_api_Table
 |3=>ZnP
 |4=>ZnK
 |5=>ZnV
 |6=>Zn0
 |7=>ZnJ
 |8=>Zn6
 |9=>ZnQ
 |10=>ZnM
 |11=>Zrg
 |12=>Zph
 |13=>ZnX
 |14=>Zz6
 |15=>ZoS
 |_=>Unit
def Z1n:Nat->Nat
 |0=>2
 |1=>2
 |2=>3
 |3=>2
 |4=>4
 |5=>8
 |6=>21
 |7=>2
 |8=>4
 |9=>2
 |10=>7
 |11=>3
 |12=>2
 |13=>10
 |14=>256
 |15=>32
 |_=>0
def ZKC:List (Lf ZBM):=[⟨.sl (.int .u32),([1]:List Int)⟩]
def ZFp:List (Lf ZBM):=(Lib.pow10Tab.map fun n=>⟨.int .u64,n⟩)
def ZFN:List (Lf ZBM):=(Lib.firstTab.map fun n=>⟨.int .u8,n⟩)
def ZwY:List (Lf ZBM):=[⟨.int .u8,(128:Int)⟩,⟨.int .u8,(191:Int)⟩,⟨.int .u8,(160:Int)⟩,⟨.int .u8,(191:Int)⟩,⟨.int .u8,(128:Int)⟩,⟨.int .u8,(159:Int)⟩,⟨.int .u8,(144:Int)⟩,⟨.int .u8,(191:Int)⟩,⟨.int .u8,(128:Int)⟩,⟨.int .u8,(143:Int)⟩,⟨.int .u8,(0:Int)⟩,⟨.int .u8,(0:Int)⟩,⟨.int .u8,(0:Int)⟩,⟨.int .u8,(0:Int)⟩,⟨.int .u8,(0:Int)⟩,⟨.int .u8,(0:Int)⟩,⟨.int .u8,(0:Int)⟩,⟨.int .u8,(0:Int)⟩,⟨.int .u8,(0:Int)⟩,⟨.int .u8,(0:Int)⟩,⟨.int .u8,(0:Int)⟩,⟨.int .u8,(0:Int)⟩,⟨.int .u8,(0:Int)⟩,⟨.int .u8,(0:Int)⟩,⟨.int .u8,(0:Int)⟩,⟨.int .u8,(0:Int)⟩,⟨.int .u8,(0:Int)⟩,⟨.int .u8,(0:Int)⟩,⟨.int .u8,(0:Int)⟩,⟨.int .u8,(0:Int)⟩,⟨.int .u8,(0:Int)⟩,⟨.int .u8,(0:Int)⟩]
abbrev ZnR:Type:=List Int
abbrev Zn7:Type:=List ZnX
abbrev Zom:Type:=List ZnM
abbrev Zpi:Type:=List G_api_Table
abbrev ZoU:Type:=List G_api_Column
abbrev ZyE:Type:=List ZnV
abbrev ZCq:Type:=List G_api_Cell
abbrev ZEq:Type:=List Str
abbrev ZRW:Type:=Option (Int×Bool×Bool×Bool×Bool×Bool×Bool×Bool×Bool×Bool×Bool×Zn0×ZnR×ZnR×ZnR×ZnR×ZnR×ZnR×ZnR×ZnR×ZnR×ZnR)
abbrev ZVU:Type:=Option (Out (Int×Zpi×Int×Int×ZoU×Int×Int×ZnJ×Zpi×G_api_Column×G_api_Column×G_api_Table) Bool)
abbrev ZTO:Type:=Option (Out (Int×Zpi×Int×Int×ZnJ×Zpi×G_api_Column×G_api_Column) Bool)
abbrev ZTN:Type:=Option (Int×Zpi×Int×Int×ZoU×Int×Int×G_api_Column×G_api_Column×Zn7×G_api_Table)
abbrev ZVS:Type:=Option (Out (Int×Int×Int×G_api_Column×G_api_Column×G_api_Column×(List Zpi)) Bool)
abbrev ZXW:Type:=Option (ZnR×ZoU×Int×Int×Int×Str×Int×Str×Str×ZoU×ZoU×ZCq)
abbrev ZVQ:Type:=Option (ZnJ×Int×Int×Str×Int×Int×Str×ZnR×ZnR)
abbrev ZTM:Type:=Option (Int×Zom×Zpi×Int×Int×ZoU×Int×Int×Zn7×G_api_Table)
abbrev ZVO:Type:=Option (Out (ZnR×Int×Str×Int×Str×ZoU×ZoU) (G_api_Table×Int))
abbrev ZVN:Type:=Option (Int×Int×Int×Int×Int×Zom×Zom×ZEq×ZnM)
abbrev ZOB:Type:=Option (Str×Int×Int×Zom×Zom×ZyE×ZnV×ZEq)
abbrev ZQa:Type:=Option (Int×Zpi×ZnJ×Zpi×Str×Str×ZCq×ZCq)
abbrev ZOA:Type:=Option (Out (ZnR×G_api_Table×Int×Str×ZoU) (G_api_Table×Int))
abbrev ZP9:Type:=Option (Bool×Str×Bool×Bool×ZnP×ZnP×ZnR×ZnR)
abbrev ZOz:Type:=Option (Int×Int×Zom×Zom×ZyE×ZnV×ZEq)
abbrev ZKs:Type:=Option (Int×Int×Bool×Int×Int×G_api_Table×Zn6×ZnR)
abbrev ZOy:Type:=Option (Int×ZnJ×G_api_Table×Int×Str×ZoU)
abbrev ZP8:Type:=Option (ZnJ×Int×Str×Int×Str×ZoU×ZoU)
abbrev ZP7:Type:=Option (Bool×Str×ZnR×ZnR×Bool×Bool×ZnR×ZnR×ZnR)
abbrev ZOx:Type:=Option (Int×Zpi×Int×Int×G_api_Column×G_api_Column×Zn7)
abbrev ZOw:Type:=Option (Out (Int×Zpi×Zpi×G_api_Column×G_api_Column) Bool)
abbrev ZP6:Type:=Option (Out (G_api_Table×Int×Str×ZoU) (G_api_Table×Int))
abbrev ZOv:Type:=Option (Zom×Int×Zom×Int×Int×ZyE×ZnM)
abbrev ZOu:Type:=Option (Bool×Bool×Bool×ZnP×ZnP×ZnR×ZnR)
abbrev ZOt:Type:=Option (Out (Bool×Str×Str) (Bool×Str×Str×Bool))
abbrev ZP5:Type:=Option (Nat×Nat×ZnR×Int×Int×Int×Int×ZnR)
abbrev ZOs:Type:=Option (ZnJ×Str×Str×ZCq×ZCq)
abbrev ZP4:Type:=Option (Out (ZnR×Int×Zpi×Zpi×Int×Int) Bool)
abbrev ZP3:Type:=Option (Bool×ZnR×ZnR×Bool×Bool×ZnR×ZnR)
abbrev ZP2:Type:=Option (ZnR×Int×Int×ZnR×Int×Int×ZnR)
abbrev ZVT:Type:=Option (Out (ZoU×Int×Int×G_api_Table) Bool)
abbrev ZZm:Type:=Option (G_api_Column×ZnJ)
abbrev ZOr:Type:=Option (Int×Zom×Zpi×Int×Int×Zn7)
abbrev ZOq:Type:=Option (Nat×Nat×ZnR×Int×Int×ZnR)
abbrev ZRs:Type:=Option (G_api_Table×ZnJ)
abbrev ZKJ:Type:=Option (Int×Str×Int×Str×ZoU×ZoU)
abbrev ZP1:Type:=Option (Nat×Nat×Int×Int×Int×ZnR)
abbrev ZZl:Type:=Option (G_api_Cell×ZnJ)
abbrev ZP0:Type:=Option (Zn6×ZnJ)
abbrev ZNF:Type:=Option (Bool×ZnM×Zom)
abbrev ZPZ:Type:=Option (ZnR×ZnR×Int×Int×ZnR)
abbrev ZNE:Type:=Option (Int×Int×Zom×Zom×ZEq)
abbrev ZOp:Type:=Option (Zn7×Int×ZnX)
abbrev ZZk:Type:=Option (Zpi×ZnJ)
abbrev ZND:Type:=Option (ZnJ×Zpi)
abbrev ZJy:Type:=Option (Int×Int×Int×Int×Zn7)
abbrev ZOo:Type:=Option (Out (ZnR×Int×Zpi) Bool)
abbrev ZS1:Type:=Option (ZnK×Int×Bool)
abbrev ZPY:Type:=Option (Nat×Nat×ZnR×ZnR)
abbrev ZPX:Type:=Option (Int×Int×ZnR×ZnR)
abbrev ZOn:Type:=Option (Bool×Str×Str×Bool)
abbrev ZKY:Type:=Option (Int×Int×Int×Zom)
abbrev ZRr:Type:=Option (Int×Int×Int×Bool)
abbrev ZBF:Type:=Option (Int×Int×Int×Zn7)
abbrev ZZj:Type:=Option (Int×Int×Zn7×Int)
abbrev ZLT:Type:=Option (Out Zn7 (Bool×Zn7))
abbrev ZVR:Type:=Option (ZnP×ZnP)
abbrev ZJ2:Type:=Option (ZnK×Bool)
abbrev ZS0:Type:=Option (Int×Int×Int×Int)
abbrev ZG5:Type:=Option (ZnK×Int)
abbrev ZOm:Type:=Option (Zom×Zom×ZEq)
abbrev ZNC:Type:=Option (ZnR×ZnR×Int)
abbrev ZOl:Type:=Option (Out Zn6 Bool)
abbrev ZOk:Type:=Option (G_api_Table×Int)
abbrev ZRq:Type:=Option (Int×Bool×Zn7)
abbrev ZLN:Type:=Option (Nat×Nat×ZnR)
abbrev ZNB:Type:=Option (Str×Bool×Int)
abbrev ZKI:Type:=Option (Bool×Str×Str)
abbrev ZSZ:Type:=Option (Int×Zn7×Int)
abbrev ZKX:Type:=Option (Int×Int×Zn7)
abbrev ZwZ:Type:=Option (Out Unit Bool)
abbrev ZRp:Type:=Option (Out Unit Zom)
abbrev ZKH:Type:=Option (Out Zpi Bool)
abbrev ZNA:Type:=Option (Out Zn7 Zn7)
abbrev ZLM:Type:=Option (Out Unit Zn7)
abbrev ZJ1:Type:=Option (Out Unit Int)
abbrev ZKW:Type:=Option (ZnR×ZnR)
abbrev ZPW:Type:=Option (Out Str Str)
abbrev ZLL:Type:=Option (Out Int Int)
abbrev ZVP:Type:=Option (Bool×Zn7)
abbrev ZEB:Type:=Option (Int×ZnR)
abbrev ZNz:Type:=Option (ZnR×Int)
abbrev ZKG:Type:=Option (Str×Bool)
abbrev ZSY:Type:=Option (Int×Bool)
abbrev ZG4:Type:=Option (Int×Zn7)
abbrev ZNy:Type:=Option (Zn7×Int)
abbrev ZNx:Type:=Option (Int×Int)
abbrev Tf_0:Type:=(ZyE×Int×Int×Int×Bool×Bool×Bool×Bool×Bool×Bool×Bool×Bool×Bool×Bool×Zn0×ZnR×ZnR×ZnR×ZnR×ZnR×ZnR×ZnR×ZnR×ZnR×ZnR)->ZRW
abbrev Tf_1:Type:=ZyE->Int->Int->Int->Bool->Bool->Bool->Bool->Bool->Bool->Bool->Bool->Bool->Bool->Zn0->ZnR->ZnR->ZnR->ZnR->ZnR->ZnR->ZnR->ZnR->ZnR->ZnR->ZRW
abbrev Tf_2:Type:=Int->Zpi->Int->Int->ZoU->Int->Int->Int->Int->ZnJ->Zpi->G_api_Column->G_api_Column->G_api_Table->ZyE->ZyE->ZVU
abbrev Z2f:Type:=Int->Int->Zpi->Int->Int->ZoU->Int->Int->ZoU->Int->Int->G_api_Column->G_api_Column->Zn7->G_api_Table->G_api_Column->ZTN
abbrev Z2e:Type:=Int->Zpi->Int->Int->ZoU->Int->Int->ZnJ->Zpi->G_api_Column->G_api_Column->G_api_Table->ZTO
abbrev Z2d:Type:=Int->Zom->Int->Zpi->Int->Int->ZoU->Int->Int->ZoU->Int->Int->Zn7->G_api_Table->G_api_Column->ZTM
abbrev Tf_6:Type:=Int->Zpi->Int->Int->Int->Int->G_api_Column->G_api_Column->G_api_Column->(List Zpi)->ZnR->ZVS
abbrev Tf_7:Type:=Int->Zpi->Int->Int->ZoU->Int->Int->G_api_Column->G_api_Column->Zn7->G_api_Table->ZOx
abbrev Tf_8:Type:=Int->Zpi->Int->Int->ZnJ->Zpi->G_api_Column->G_api_Column->ZOw
abbrev Tf_9:Type:=Int->Int->ZnJ->Int->Int->Str->Int->Int->Str->ZnR->ZnR->ZVQ
abbrev ZZW:Type:=Str->Int->Int->Int->Int->Zom->Zom->ZyE->ZnV->ZEq->ZOz
abbrev ZZV:Type:=Str->Int->Int->Int->Int->Zom->Zom->ZyE->ZnV->ZEq->ZOB
abbrev ZZU:Type:=ZnR->ZnR->Int->Int->G_api_Table->Int->Str->Int->Str->ZoU->ZoU->ZVO
abbrev ZZT:Type:=Int->Int->Int->G_api_Column->G_api_Column->G_api_Column->(List Zpi)->ZwZ
abbrev ZZS:Type:=Int->Int->Bool->Int->Int->Int->Int->G_api_Table->Zn6->ZnR->ZKs
abbrev ZZR:Type:=Int->Zom->Zpi->Int->Int->ZoU->Int->Int->Zn7->G_api_Table->ZOr
abbrev ZZQ:Type:=Bool->Bool->Bool->ZnP->ZnP->Str->Nat->ZnR->ZnR->ZOu
abbrev ZZP:Type:=Int->Int->Bool->ZCq->Int->Int->G_api_Table->Zn6->ZnR->ZKs
abbrev ZZO:Type:=Int->Int->Int->Int->Int->Zom->Zom->ZEq->ZnM->ZVN
abbrev ZZN:Type:=Int->Int->ZnJ->G_api_Table->Int->Str->ZoU->ZOy
abbrev ZZM:Type:=Int->Int->Int->ZnJ->Str->Str->ZCq->ZCq->ZOs
abbrev ZTa:Type:=ZCq->Int->Int->G_api_Column->(List (Str×Int))->Zom->Option Zom
abbrev ZV6:Type:=Int->Int->Int->Int->Zom->Zom->ZEq->ZnM->ZNE
abbrev ZZL:Type:=ZnR->ZoU->Int->Int->Int->Str->Int->Str->ZoU->ZoU->ZKJ
abbrev ZZK:Type:=Int->Zpi->Int->Int->G_api_Column->G_api_Column->Zn7->ZG4
abbrev ZZJ:Type:=ZnR->ZnR->Int->Int->G_api_Table->Int->Str->ZoU->ZOA
abbrev ZZI:Type:=Zom->Int->Zom->Int->Int->ZyE->ZnM->ZOv
abbrev ZV5:Type:=Bool->Zom->Int->Int->ZnM->Zom->ZNF
abbrev ZQd:Type:=Int->Int->G_api_Table->Zn6->ZnR->Option ZnR
abbrev ZV4:Type:=ZCq->Int->Int->G_api_Column->Zom->Option Zom
abbrev ZV3:Type:=Int->Int->Zom->Zom->ZyE->ZEq->Option ZyE
abbrev ZS9:Type:=Zom->Int->Zom->Int->Int->ZyE->Option ZyE
abbrev ZZH:Type:=Nat->Nat->ZnR->Int->Int->Int->ZnR->ZOq
abbrev ZZG:Type:=ZnR->Int->Int->G_api_Table->Zn6->ZOl
abbrev ZV2:Type:=Int->Int->ZnJ->Zpi->ZND
abbrev ZZF:Type:=Int->Int->Int->Int->Zn7->Int->Option Zn7
abbrev ZZE:Type:=(ZnR×ZnR×Int×Int×ZnR)->Option ZnR
abbrev ZS8:Type:=ZnR->ZnR->Int->Int->ZnR->Option ZnR
abbrev ZZD:Type:=Int->Int->Int->Bool->Bool->Zom->ZRp
abbrev ZZC:Type:=(Int×Int×Int×Int×Int×Zn7)->ZJy
abbrev ZQc:Type:=Int->Int->Int->Bool->Bool->Zn7->ZLM
abbrev ZZB:Type:=Int->Zom->Zpi->Int->Int->Zn7->ZG4
abbrev ZZA:Type:=ZnR->Int->Zpi->Zpi->Int->Int->ZOo
abbrev ZZz:Type:=Int->Int->Int->Int->Int->Zn7->ZJy
abbrev ZZy:Type:=ZnR->ZnR->ZnR->Int->ZnR->ZKW
abbrev ZV1:Type:=ZoU->Int->Int->G_api_Table->ZwZ
abbrev ZZx:Type:=(Int×Int×Int×Int×Zom)->ZKY
abbrev ZZw:Type:=ZnR->ZnR->Int->ZnR->Option ZnR
abbrev ZS7:Type:=ZnR->ZnR->Int->Int->ZnR->ZEB
abbrev ZZv:Type:=Int->Int->Zom->Zom->ZEq->ZOm
abbrev ZZu:Type:=(Int×Int×Int×Int×Zn7)->ZBF
abbrev ZZt:Type:=ZnR->Int->Int->ZnR->Option ZnR
abbrev ZZs:Type:=Zn7->Int->ZnX->ZOp
abbrev ZS6:Type:=Int->Int->Int->Zom->Option Zom
abbrev ZS5:Type:=Int->Int->Int->Int->Zom->ZKY
abbrev ZV0:Type:=Int->Int->Int->Zn7->Option Zn7
abbrev ZVZ:Type:=Int->Int->Int->Int->Zn7->ZBF
abbrev ZRu:Type:=Int->Int->Int->Int->Zn7->ZLT
abbrev ZZr:Type:=Int->Int->Int->Int->Zn7->ZJy
abbrev ZZq:Type:=Int->Int->Int->Int->Int->ZS0
abbrev ZQb:Type:=(Int×Int×Int×Zn7)->ZBF
abbrev ZZp:Type:=Zpi->Zpi->Int->Int->ZKH
abbrev ZZo:Type:=Zn7->Zn7->Int->Int->ZwZ
abbrev ZVY:Type:=Int->Int->ZnR->Option ZnR
abbrev ZZn:Type:=Bool->Str->Str->Int->ZOt
abbrev ZVX:Type:=Int->Int->Int->Zn7->ZNA
abbrev ZVW:Type:=Int->Int->Int->Zn7->ZG4
abbrev ZKZ:Type:=Int->Int->Int->Zn7->ZBF
abbrev ZVV:Type:=Int->Int->Int->Zn7->ZKX
abbrev ZS4:Type:=ZnR->ZnR->Int->ZNz
abbrev ZS3:Type:=ZnR->ZnR->Int->ZNC
abbrev ZS2:Type:=Bool->Str->Str->ZKI
abbrev ZRt:Type:=ZnR->Option ZnR
abbrev ZNH:Type:=Str->Option Str
abbrev ZNG:Type:=Str->ZwZ
def ZC5 (t:ZnR):Option Bool:=some (decide ((t.length:Int)<=500))
def ZEF (a:ZnR):Option ZnR:=some a
def ZAK (b:ZRt) (a:ZnR) (c:Bool):Option ZnR:=bif c then (chk (inK .i64 ((a.length:Int) - 1)) <|chk (Zca 0 ((a.length:Int) - 1) (a.length:Int)) <|b (a.take (((a.length:Int) - 1)).toNat))else (some a)
def ZDt (a:ZRt) (b:ZnR):Option ZnR:=bif (decide ((b.length:Int) > 0))then (chk (inK .i64 ((b.length:Int) - 1)) <|(idx b ((b.length:Int) - 1)).bind fun c=>ZAK a b (c == 0))else (ZAK a b false)
def ZqC:Nat->ZnR->Option ZnR
 |0,_=>none
 |n_+1,w_=>ZDt (ZqC n_) w_
def Zpn (a:ZnR):Option ZnR:=(ZqC big a).bind fun b=>ZEF b
def Zxx (a:ZnP):Option ZnP:=some a
def ZoT (b:Bool) (c:ZnR):Option ZnP:=(Zpn c).bind fun a=>bif b then (Zxx (ZnP.mk (decide ((a.length:Int) > 0)) a))else (Zxx (ZnP.mk false a))
def ZuK (n u:Int) (b:Bool) (a:ZnR):Option ZnP:=chk (decide (0<=(32:Int))) <|(ZoT (decide (n < 0)) ([(IntKind.wrap .u32 u),(IntKind.wrap .u32 (shrK .u64 u 32))]:ZnR)).bind fun q=>some q
def ZoL (n:Int):Option ZnP:=bif (decide (n < 0))then (ZuK n (IntKind.wrap .u64 (0 - (IntKind.wrap .u64 n))) false ([]:ZnR))else (ZuK n (IntKind.wrap .u64 n) false ([]:ZnR))
def Zpu (a:Bool):Option Bool:=some a
def Zru (a:ZnP):Option Bool:=bif (decide ((a.Words.length:Int)<=256))then (bif ((a.Words.length:Int) == 0)then (bif (!a.Neg)then (Zpu true)else (bif (decide ((a.Words.length:Int) > 0))then (chk (inK .i64 ((a.Words.length:Int) - 1)) <|(idx a.Words ((a.Words.length:Int) - 1)).bind fun Word=>Zpu (Word != 0))else (Zpu false)))else (bif (decide ((a.Words.length:Int) > 0))then (chk (inK .i64 ((a.Words.length:Int) - 1)) <|(idx a.Words ((a.Words.length:Int) - 1)).bind fun Word_1=>Zpu (Word_1 != 0))else (Zpu false)))else (Zpu false)
def ZAL (a:ZnR):Option ZnR:=(Zpn a).bind fun q=>some q
def ZtK (b:ZZt) (a:ZnR) (d i:Int) (c:ZnR):Option ZnR:=chk (inK .i64 (i+1)) <|b a d (i+1) c
def Zvr (d:ZZt) (a:ZnR) (f i:Int) (c:ZnR):Option ZnR:=bif (decide (i < f))then (chk (inR i (c.length:Int)) <|(c[(i).toNat]?).bind fun b=>chk (decide (0<=(1:Int))) <|chk (inR i (c.length:Int)) <|chk (inK .i64 (i+1)) <|bif (decide ((i+1) < (a.length:Int)))then (chk (inR i ((c.set ((i).toNat) (shrK .u32 b 1)).length:Int)) <|((c.set ((i).toNat) (shrK .u32 b 1))[(i).toNat]?).bind fun g=>chk (inK .i64 (i+1)) <|(idx a (i+1)).bind fun e=>chk (decide (0<=(31:Int))) <|chk (inR i ((c.set ((i).toNat) (shrK .u32 b 1)).length:Int)) <|ZtK d a f i ((c.set ((i).toNat) (shrK .u32 b 1)).set ((i).toNat) (orK .u32 g (shlK .u32 e 31))))else (ZtK d a f i (c.set ((i).toNat) (shrK .u32 b 1))))else (some c)
def ZtJ:Nat->ZnR->Int->Int->ZnR->Option ZnR
 |0,_,_,_,_=>none
 |n_+1,a,t9,i,out=>Zvr (ZtJ n_) a t9 i out
def ZDu (n:Nat) (s:(ZnR×Int×Int×ZnR)):Option ZnR:=ZtJ n s.1 s.2.1 s.2.2.1 s.2.2.2
def Zy6 (b:(ZnR×Int×Int×ZnR)->Option ZnR) (s:(ZnR×Int×Int×ZnR)):Option ZnR:=Zvr (fun a d i c=>b (a,d,i,c)) s.1 s.2.1 s.2.2.1 s.2.2.2
theorem ZGW:∀n s,ZDu (n+1) s=Zy6 (ZDu n) s:=fun _ _=>rfl
def ZrV (a:ZnR):Option ZnR:=chk (Zi5 (([]:ZnR).length+a.length) 4) <|(ZtJ big a ((([]:ZnR)++a).length:Int) (0:Int) (([]:ZnR)++a)).bind fun b=>ZAL b
def ZBv:Option Int:=some (0:Int)
def Zv0 (e:ZnR->ZnR->Int->ZJ1) (a b:ZnR) (i:Int):ZJ1:=bif (decide (i>=0))then ((idx a i).bind fun f=>(idx b i).bind fun g=>bif (decide (f < g))then (some (.ret (-1:Int)))else ((idx a i).bind fun d=>(idx b i).bind fun c=>bif (decide (d > c))then (some (.ret (1:Int)))else (chk (inK .i64 (i - 1)) <|e a b (i - 1))))else (some (.brk ()))
def Zxw:Nat->ZnR->ZnR->Int->ZJ1
 |0,_,_,_=>none
 |n_+1,a,b,i=>Zv0 (Zxw n_) a b i
def ZDV (n:Nat) (s:(ZnR×ZnR×Int)):ZJ1:=Zxw n s.1 s.2.1 s.2.2
def ZzK (c:(ZnR×ZnR×Int)->ZJ1) (s:(ZnR×ZnR×Int)):ZJ1:=Zv0 (fun a b i=>c (a,b,i)) s.1 s.2.1 s.2.2
theorem ZHq:∀n s,ZDV (n+1) s=ZzK (ZDV n) s:=fun _ _=>rfl
def Zqm (a b:ZnR):Option Int:=bif ((a.length:Int) != (b.length:Int))then (bif (decide ((a.length:Int) < (b.length:Int)))then (some (-1:Int))else (some (1:Int)))else (chk (inK .i64 ((a.length:Int) - 1)) <|(Zxw big a b ((a.length:Int) - 1)).bind fun
 | .ret c=>some c
 | .brk ()=>ZBv)
def ZBm (a:ZnR):Option ZnR:=(Zpn a).bind fun q=>some q
def Zul (d:ZS8) (a b:ZnR) (c i:Int) (e:ZnR):Option ZnR:=chk (Zi5 (e.length+([(IntKind.wrap .u32 c)]:ZnR).length) 4) <|chk (decide (0<=(32:Int))) <|chk (inK .i64 (i+1)) <|d a b (shrK .i64 c 32) (i+1) (e++([(IntKind.wrap .u32 c)]:ZnR))
def ZvW (e:ZS8) (a b:ZnR) (c i:Int) (f:ZnR):Option ZnR:=bif (decide (i < (a.length:Int)))then ((idx a i).bind fun d=>chk (inK .i64 (c+(IntKind.wrap .i64 d))) <|bif (decide (i < (b.length:Int)))then ((idx b i).bind fun g=>chk (inK .i64 ((c+(IntKind.wrap .i64 d)) - (IntKind.wrap .i64 g))) <|Zul e a b ((c+(IntKind.wrap .i64 d)) - (IntKind.wrap .i64 g)) i f)else (Zul e a b (c+(IntKind.wrap .i64 d)) i f))else (some f)
def Zuk:Nat->ZnR->ZnR->Int->Int->ZnR->Option ZnR
 |0,_,_,_,_,_=>none
 |n_+1,a,b,c,i,out=>ZvW (Zuk n_) a b c i out
def ZDR (n:Nat) (s:(ZnR×ZnR×Int×Int×ZnR)):Option ZnR:=Zuk n s.1 s.2.1 s.2.2.1 s.2.2.2.1 s.2.2.2.2
def ZzE (d:ZZE) (s:(ZnR×ZnR×Int×Int×ZnR)):Option ZnR:=ZvW (fun a b c i e=>d (a,b,c,i,e)) s.1 s.2.1 s.2.2.1 s.2.2.2.1 s.2.2.2.2
theorem ZHm:∀n s,ZDR (n+1) s=ZzE (ZDR n) s:=fun _ _=>rfl
def ZsC (a:ZnR) (b:ZnR):Option ZnR:=(Zuk big a b (0:Int) (0:Int) ([]:ZnR)).bind fun x0=>ZBm x0
def ZzD (d:Int) (a:ZnR):Option ZnR:=chk (Zi5 (a.length+([d]:ZnR).length) 4) <|(Zpn (a++([d]:ZnR))).bind fun q=>some q
def ZuI (f:ZnR->Int->Int->ZnR->ZEB) (a:ZnR) (d i:Int) (b:ZnR):ZEB:=bif (decide (i < (a.length:Int)))then ((idx a i).bind fun e=>chk (decide (0<=(1:Int))) <|chk (Zi5 (b.length+([(orK .u32 (shlK .u32 e 1) d)]:ZnR).length) 4) <|(idx a i).bind fun c=>chk (decide (0<=(31:Int))) <|chk (inK .i64 (i+1)) <|f a (shrK .u32 c 31) (i+1) (b++([(orK .u32 (shlK .u32 e 1) d)]:ZnR)))else (some (d,b))
def ZvV:Nat->ZnR->Int->Int->ZnR->ZEB
 |0,_,_,_,_=>none
 |n_+1,a,d,i,out=>ZuI (ZvV n_) a d i out
def ZCO (n:Nat) (s:(ZnR×Int×Int×ZnR)):ZEB:=ZvV n s.1 s.2.1 s.2.2.1 s.2.2.2
def Zyq (b:(ZnR×Int×Int×ZnR)->ZEB) (s:(ZnR×Int×Int×ZnR)):ZEB:=ZuI (fun a d i c=>b (a,d,i,c)) s.1 s.2.1 s.2.2.1 s.2.2.2
theorem ZGv:∀n s,ZCO (n+1) s=Zyq (ZCO n) s:=fun _ _=>rfl
def ZuS (a:ZnR) (d:Int):Option ZnR:=(ZvV big a d (0:Int) ([]:ZnR)).bind fun(b,c)=>ZzD b c
def ZBp (a:ZnR):Option ZnR:=some a
def Zs2 (b:ZnR->Int->Option ZnR) (a:ZnR) (k:Int):Option ZnR:=bif (decide (k > 0))then ((ZuS a 0).bind fun c=>chk (inK .i64 (k - 1)) <|b c (k - 1))else (some a)
def Zss:Nat->ZnR->Int->Option ZnR
 |0,_,_=>none
 |n_+1,a,k=>Zs2 (Zss n_) a k
def ZBq (a:ZnR) (k:Int):Option ZnR:=(Zss big a k).bind fun b=>ZBp b
def Zxu (c:ZS4) (a b:ZnR) (k:Int):ZNz:=(ZsC b a).bind fun d=>c a d k
def ZBr (c:ZS4) (a b:ZnR) (k:Int):ZNz:=(Zqm a b).bind fun q=>bif (decide (q > 0))then (Zxu c b a k)else (Zxu c a b k)
def ZzH (c:ZS3) (a b:ZnR) (k:Int):ZNC:=(idx b 0).bind fun d=>bif ((andK .u32 d 1) == 0)then ((ZrV b).bind fun e=>c a e k)else (some (a,b,k))
def Zp4:Nat->ZnR->ZnR->Int->ZNC
 |0,_,_,_=>none
 |n_+1,a,b,k=>ZzH (Zp4 n_) a b k
def ZBs (c:ZS4) (a b:ZnR) (k:Int):ZNz:=(Zp4 big a b k).bind fun(e,f,d)=>ZBr c e f d
def Zs3 (c:ZS3) (a b:ZnR) (k:Int):ZNC:=(idx a 0).bind fun d=>bif ((andK .u32 d 1) == 0)then ((ZrV a).bind fun e=>c e b k)else (some (a,b,k))
def Zp5:Nat->ZnR->ZnR->Int->ZNC
 |0,_,_,_=>none
 |n_+1,a,b,k=>Zs3 (Zp5 n_) a b k
def Zs4 (c:ZS4) (a b:ZnR) (k:Int):ZNz:=bif (decide ((b.length:Int) > 0))then ((Zp5 big a b k).bind fun(e,f,d)=>ZBs c e f d)else (some (a,k))
def ZoC:Nat->ZnR->ZnR->Int->ZNz
 |0,_,_,_=>none
 |n_+1,a,b,k=>Zs4 (ZoC n_) a b k
def ZBt (a b:ZnR) (k:Int):Option ZnR:=(ZoC big a b k).bind fun(c,d)=>ZBq c d
def Zxv (c:ZS3) (a b:ZnR) (k:Int) (f:Bool):ZNC:=bif f then ((ZrV a).bind fun e=>(ZrV b).bind fun d=>chk (inK .i64 (k+1)) <|c e d (k+1))else (some (a,b,k))
def ZzI (c:ZS3) (a b:ZnR) (k:Int):ZNC:=(idx a 0).bind fun e=>bif ((andK .u32 e 1) == 0)then ((idx b 0).bind fun d=>Zxv c a b k ((andK .u32 d 1) == 0))else (Zxv c a b k false)
def Zst:Nat->ZnR->ZnR->Int->ZNC
 |0,_,_,_=>none
 |n_+1,a,b,k=>ZzI (Zst n_) a b k
def ZwO (a b:ZnR):Option ZnR:=(Zst big a b (0:Int)).bind fun(d,e,c)=>ZBt d e c
def ZAb (a:ZnR) (i:Int):Option Int:=chk (decide ((32:Int)≠0)) <|chk (inK .i64 (Int.tdiv i 32)) <|(idx a (Int.tdiv i 32)).bind fun b=>chk (decide ((32:Int)≠0)) <|chk (decide (0<=(IntKind.wrap .u64 (Int.tmod i 32)))) <|some (andK .u32 (shrK .u32 b (IntKind.wrap .u64 (Int.tmod i 32))) 1)
def ZBu (b q:ZnR):ZKW:=(Zpn q).bind fun a=>some (a,b)
def Zuo (c:ZZy) (a b d:ZnR) (i:Int) (q:ZnR):ZKW:=chk (inK .i64 (i - 1)) <|c a b d (i - 1) q
def ZvZ (d:ZZy) (a b j:ZnR) (i:Int) (q:ZnR):ZKW:=bif (decide (i>=0))then ((ZAb a i).bind fun h=>(ZuS j h).bind fun c=>(Zqm c b).bind fun g=>bif (decide (g>=0))then ((ZsC c b).bind fun e=>chk (decide ((32:Int)≠0)) <|chk (inK .i64 (Int.tdiv i 32)) <|chk (inR (Int.tdiv i 32) (q.length:Int)) <|(q[((Int.tdiv i 32)).toNat]?).bind fun f=>chk (decide ((32:Int)≠0)) <|chk (decide (0<=(IntKind.wrap .u64 (Int.tmod i 32)))) <|chk (inR (Int.tdiv i 32) (q.length:Int)) <|Zuo d a b e i (q.set (((Int.tdiv i 32)).toNat) (orK .u32 f (shlK .u32 1 (IntKind.wrap .u64 (Int.tmod i 32))))))else (Zuo d a b c i q))else (some (j,q))
def Zun:Nat->ZnR->ZnR->ZnR->Int->ZnR->ZKW
 |0,_,_,_,_,_=>none
 |n_+1,a,b,r_,i,q=>ZvZ (Zun n_) a b r_ i q
def ZDU (n:Nat) (s:(ZnR×ZnR×ZnR×Int×ZnR)):ZKW:=Zun n s.1 s.2.1 s.2.2.1 s.2.2.2.1 s.2.2.2.2
def ZzJ (c:(ZnR×ZnR×ZnR×Int×ZnR)->ZKW) (s:(ZnR×ZnR×ZnR×Int×ZnR)):ZKW:=ZvZ (fun a b d i q=>c (a,b,d,i,q)) s.1 s.2.1 s.2.2.1 s.2.2.2.1 s.2.2.2.2
theorem ZHp:∀n s,ZDU (n+1) s=ZzJ (ZDU n) s:=fun _ _=>rfl
def ZwP (a b:ZnR):ZKW:=chk (mkOk (a.length:Int) (a.length:Int) 4) <|chk (inK .i64 (32*(a.length:Int))) <|chk (inK .i64 ((32*(a.length:Int)) - 1)) <|(Zun big a b ([]:ZnR) ((32*(a.length:Int)) - 1) (List.replicate ((a.length:Int)).toNat (0:Int))).bind fun(c,d)=>ZBu c d
def Zsr (a b:ZnP):Option ZnK:=bif ((a.Words.length:Int) == 0)then ((ZoL 1).bind fun q=>some (ZnK.mk (ZnP.mk false ([]:ZnR)) q))else ((ZwO a.Words b.Words).bind fun g=>(ZwP a.Words g).bind fun(h,f)=>(ZwP b.Words g).bind fun(y,e)=>(ZoT (!(a.Neg == b.Neg)) h).bind fun d=>(ZoT false y).bind fun c=>some (ZnK.mk d c))
def ZwF (b:Bool) (c a:ZnP) (g f:Bool) (d e:ZnR):ZG5:=bif b then (some ((ZnK.mk (ZnP.mk false ([]:ZnR)) (ZnP.mk false ([]:ZnR))),1))else (bif ((a.Words.length:Int) == 0)then (some ((ZnK.mk (ZnP.mk false ([]:ZnR)) (ZnP.mk false ([]:ZnR))),8))else ((Zsr c a).bind fun q=>some (q,0)))
def Zy7 (a b:ZnP):ZG5:=(Zru a).bind fun q=>bif (!q)then (ZwF true a b false false ([]:ZnR) ([]:ZnR))else ((Zru b).bind fun c=>ZwF (!c) a b false false ([]:ZnR) ([]:ZnR))
def ZxO (d c:Int):ZG5:=(ZoL d).bind fun q=>(ZoL c).bind fun b=>(Zy7 q b).bind fun(a,e)=>some (a,e)
def ZyV (n d:Int):Option ZnK:=(ZxO n d).bind fun(f,q)=>some f
def ZC2 (n:Int):Option ZnK:=(ZyV n 1).bind fun q=>some q
def Zod (n:Int):Option ZnK:=ZTh (ZC2 n)
def Zy8:Option ZyE:=(Zod 1).bind fun q=>(Zod 2).bind fun c=>(Zod 2).bind fun b=>(Zod 4).bind fun e=>(Zod 3).bind fun d=>(Zod 6).bind fun a=>some ([(ZnV.mk q c),(ZnV.mk b e),(ZnV.mk d a)]:ZyE)
def ZEe (a:ZnR):Option ZnR:=some a
def ZA0 (b:ZRt) (a:ZnR) (c:Bool):Option ZnR:=bif c then (chk (inK .i64 ((a.length:Int) - 1)) <|chk (Zca 0 ((a.length:Int) - 1) (a.length:Int)) <|b (a.take (((a.length:Int) - 1)).toNat))else (some a)
def Zzh (a:ZRt) (b:ZnR):Option ZnR:=bif (decide ((b.length:Int) > 0))then (chk (inK .i64 ((b.length:Int) - 1)) <|(idx b ((b.length:Int) - 1)).bind fun c=>ZA0 a b (c == 0))else (ZA0 a b false)
def ZrO:Nat->ZnR->Option ZnR
 |0,_=>none
 |n_+1,w_=>Zzh (ZrO n_) w_
def ZFA (n:Nat) (s:ZnR):Option ZnR:=ZrO n s
def ZFB (a:ZRt) (s:ZnR):Option ZnR:=Zzh (fun b=>a b) s
theorem ZIt:∀n s,ZFA (n+1) s=ZFB (ZFA n) s:=fun _ _=>rfl
def ZpH (a:ZnR):Option ZnR:=(ZrO big a).bind fun b=>ZEe b
def Zx9 (n:Int):Option ZnR:=chk (decide (0<=(32:Int))) <|(ZpH ([(IntKind.wrap .u32 n),(IntKind.wrap .u32 (shrK .u64 n 32))]:ZnR)).bind fun q=>some q
def ZBS (b:Bool) (a:ZnR):Option ZnP:=some (ZnP.mk b a)
def Zqb (b:Bool) (a:ZnR):Option ZnP:=bif b then (chk (Zi5 a.length 4) <|ZBS (decide ((a.length:Int) > 0)) a)else (chk (Zi5 a.length 4) <|ZBS false a)
def ZA3 (n:Int):Option ZnP:=bif (decide (n < 0))then ((Zx9 (IntKind.wrap .u64 (0 - (IntKind.wrap .u64 n)))).bind fun q=>(Zqb true q).bind fun a=>some a)else ((Zx9 (IntKind.wrap .u64 n)).bind fun c=>(Zqb false c).bind fun b=>some b)
def Zrf (a:Bool):Option Bool:=some a
def Zz3 (a:ZnP):Option Bool:=bif (decide ((a.Words.length:Int)<=256))then (bif ((a.Words.length:Int) == 0)then (bif (!a.Neg)then (Zrf true)else (bif (decide ((a.Words.length:Int) > 0))then (chk (inK .i64 ((a.Words.length:Int) - 1)) <|(idx a.Words ((a.Words.length:Int) - 1)).bind fun Word=>Zrf (Word != 0))else (Zrf false)))else (bif (decide ((a.Words.length:Int) > 0))then (chk (inK .i64 ((a.Words.length:Int) - 1)) <|(idx a.Words ((a.Words.length:Int) - 1)).bind fun Word_1=>Zrf (Word_1 != 0))else (Zrf false)))else (Zrf false)
def ZH7:Option Bool:=some true
def ZBT (b:(List ZnP)->Int->Int->ZwZ) (d:(List ZnP)) (e c:Int):ZwZ:=bif (decide (c < e))then ((idx d c).bind fun a=>(Zz3 a).bind fun q=>bif (!q)then (some (.ret false))else (chk (inK .i64 (c+1)) <|b d e (c+1)))else (some (.brk ()))
def ZDD:Nat->(List ZnP)->Int->Int->ZwZ
 |0,_,_,_=>none
 |n_+1,t5,t6,t7=>ZBT (ZDD n_) t5 t6 t7
def ZG8 (n:Nat) (s:((List ZnP)×Int×Int)):ZwZ:=ZDD n s.1 s.2.1 s.2.2
def ZEN (a:((List ZnP)×Int×Int)->ZwZ) (s:((List ZnP)×Int×Int)):ZwZ:=ZBT (fun b c d=>a (b,c,d)) s.1 s.2.1 s.2.2
theorem ZJb:∀n s,ZG8 (n+1) s=ZEN (ZG8 n) s:=fun _ _=>rfl
def ZEi (l:(List ZnP)):Option Bool:=(ZDD big l (l.length:Int) (0:Int)).bind fun
 | .ret a=>some a
 | .brk ()=>ZH7
def ZEm (a:Int):Option Bool:=some (a != a)
def Zu8 (c y:Int):Option Int:=(ZEm c).bind fun b=>(ZEm y).bind fun a=>bif b then (bif a then (some (0:Int))else (some (-1:Int)))else (bif a then (some (1:Int))else (bif (decide (c < y))then (some (-1:Int))else (bif (decide (c > y))then (some (1:Int))else (some (0:Int)))))
def ZFG (a:Int):Option Bool:=some (a != a)
def ZET (c y:Int):Option Int:=(ZFG c).bind fun b=>(ZFG y).bind fun a=>bif b then (bif a then (some (0:Int))else (some (-1:Int)))else (bif a then (some (1:Int))else (bif (decide (c < y))then (some (-1:Int))else (bif (decide (c > y))then (some (1:Int))else (some (0:Int)))))
def Zz0:Option Int:=some (0:Int)
def ZuP (d:ZnR->ZnR->Int->ZJ1) (f e:ZnR) (i:Int):ZJ1:=bif (decide (i>=0))then ((idx f i).bind fun a=>(idx e i).bind fun b=>(ZET a b).bind fun c=>bif (c != 0)then (some (.ret c))else (chk (inK .i64 (i - 1)) <|d f e (i - 1)))else (some (.brk ()))
def Zwg:Nat->ZnR->ZnR->Int->ZJ1
 |0,_,_,_=>none
 |n_+1,w_,v_,i=>ZuP (Zwg n_) w_ v_ i
def ZCX (n:Nat) (s:(ZnR×ZnR×Int)):ZJ1:=Zwg n s.1 s.2.1 s.2.2
def Zyz (a:(ZnR×ZnR×Int)->ZJ1) (s:(ZnR×ZnR×Int)):ZJ1:=ZuP (fun b c i=>a (b,c,i)) s.1 s.2.1 s.2.2
theorem ZGD:∀n s,ZCX (n+1) s=Zyz (ZCX n) s:=fun _ _=>rfl
def ZrF (a b:ZnR):Option Int:=(Zu8 (a.length:Int) (b.length:Int)).bind fun c=>bif (c != 0)then (some c)else (chk (inK .i64 ((a.length:Int) - 1)) <|(Zwg big a b ((a.length:Int) - 1)).bind fun
 | .ret d=>some d
 | .brk ()=>Zz0)
def Zn2 (s:ZnR) (a:Bool):Option ZnR:=bif a then (some ([]:ZnR))else (chk (Zi5 (([]:ZnR).length+s.length) 4) <|some (([]:ZnR)++s))
def ZrJ (s:ZnR):Option ZnR:=bif (List.isEmpty s)then agree (Zn2 s true) (Zn2 s false)else (Zn2 s false)
def ZyG (b c y:Int) (a:Bool):ZNx:=bif a then (none)else (chk (decide (0<=(32:Int))) <|chk (decide ((IntKind.wrap .u64 y)≠0)) <|chk (decide ((IntKind.wrap .u64 y)≠0)) <|some ((IntKind.wrap .u32 (IntKind.wrap .u64 (Int.tdiv (orK .u64 (shlK .u64 (IntKind.wrap .u64 b) 32) (IntKind.wrap .u64 c)) (IntKind.wrap .u64 y)))),(IntKind.wrap .u32 (Int.tmod (orK .u64 (shlK .u64 (IntKind.wrap .u64 b) 32) (IntKind.wrap .u64 c)) (IntKind.wrap .u64 y)))))
def ZEv (a b y:Int):ZNx:=bif (y != 0)then (ZyG a b y (decide (y<=a)))else (ZyG a b y false)
def ZBB (a:Int) (b:ZnR):ZNz:=(ZpH b).bind fun q=>some (q,a)
def Zwd (f:ZnR->Int->Int->Int->ZnR->ZEB) (g:ZnR) (d b i:Int) (c:ZnR):ZEB:=bif (decide (i>=0))then ((idx g i).bind fun e=>(ZEv b e d).bind fun(q,a)=>chk (inR i (c.length:Int)) <|chk (inK .i64 (i - 1)) <|f g d a (i - 1) (c.set ((i).toNat) q))else (some (b,c))
def ZxH:Nat->ZnR->Int->Int->Int->ZnR->ZEB
 |0,_,_,_,_,_=>none
 |n_+1,w_,d,rest,i,out=>Zwd (ZxH n_) w_ d rest i out
def ZEb (n:Nat) (s:(ZnR×Int×Int×Int×ZnR)):ZEB:=ZxH n s.1 s.2.1 s.2.2.1 s.2.2.2.1 s.2.2.2.2
def ZzX (b:(ZnR×Int×Int×Int×ZnR)->ZEB) (s:(ZnR×Int×Int×Int×ZnR)):ZEB:=Zwd (fun e d a i c=>b (e,d,a,i,c)) s.1 s.2.1 s.2.2.1 s.2.2.2.1 s.2.2.2.2
theorem ZHy:∀n s,ZEb (n+1) s=ZzX (ZEb n) s:=fun _ _=>rfl
def ZAi (a:ZnR) (d:Int):ZNz:=chk (mkOk (a.length:Int) (a.length:Int) 4) <|chk (inK .i64 ((a.length:Int) - 1)) <|(ZxH big a d (0:Int) ((a.length:Int) - 1) (List.replicate ((a.length:Int)).toNat (0:Int))).bind fun(b,c)=>ZBB b c
def Zwl (a n:Int):Option Int:=(idx ([0,1,2,2,3,3,3,3,4,4,4,4,4,4,4,4,5,5,5,5,5,5,5,5,5,5,5,5,5,5,5,5,6,6,6,6,6,6,6,6,6,6,6,6,6,6,6,6,6,6,6,6,6,6,6,6,6,6,6,6,6,6,6,6,7,7,7,7,7,7,7,7,7,7,7,7,7,7,7,7,7,7,7,7,7,7,7,7,7,7,7,7,7,7,7,7,7,7,7,7,7,7,7,7,7,7,7,7,7,7,7,7,7,7,7,7,7,7,7,7,7,7,7,7,7,7,7,7,8,8,8,8,8,8,8,8,8,8,8,8,8,8,8,8,8,8,8,8,8,8,8,8,8,8,8,8,8,8,8,8,8,8,8,8,8,8,8,8,8,8,8,8,8,8,8,8,8,8,8,8,8,8,8,8,8,8,8,8,8,8,8,8,8,8,8,8,8,8,8,8,8,8,8,8,8,8,8,8,8,8,8,8,8,8,8,8,8,8,8,8,8,8,8,8,8,8,8,8,8,8,8,8,8,8,8,8,8,8,8,8,8,8,8,8,8,8,8,8,8,8,8,8,8,8,8,8]:Str) (IntKind.wrap .u8 a)).bind fun c=>chk (inK .i64 (n+(IntKind.wrap .i64 ((c.toNat:Nat):Int)))) <|some (n+(IntKind.wrap .i64 ((c.toNat:Nat):Int)))
def ZBQ (a n:Int):Option Int:=bif (decide (a>=256))then (chk (decide (0<=(8:Int))) <|chk (inK .i64 (n+8)) <|Zwl (shrK .u32 a 8) (n+8))else (Zwl a n)
def ZEu (a:Int):Option Int:=bif (decide (a>=65536))then (chk (decide (0<=(16:Int))) <|ZBQ (shrK .u32 a 16) (16:Int))else (ZBQ a (0:Int))
def ZwJ (a:Int):Option Int:=(ZEu a).bind fun q=>chk (inK .i64 (32 - q)) <|some (32 - q)
def ZzY (a:ZnR):Option ZnR:=some a
def ZuO (f:Int->ZnR->Int->Int->ZnR->Option ZnR) (n:Int) (c:ZnR) (e i:Int) (a:ZnR):Option ZnR:=bif (decide (i < e))then ((idx c i).bind fun d=>chk (decide (0<=n)) <|chk (inR i (a.length:Int)) <|(a[(i).toNat]?).bind fun b=>chk (inR i (a.length:Int)) <|chk (inK .i64 (i+1)) <|chk (decide (0<=(32:Int))) <|chk (inR (i+1) ((a.set ((i).toNat) (orK .u32 b (IntKind.wrap .u32 (shlK .u64 (IntKind.wrap .u64 d) n)))).length:Int)) <|chk (inK .i64 (i+1)) <|f n c e (i+1) ((a.set ((i).toNat) (orK .u32 b (IntKind.wrap .u32 (shlK .u64 (IntKind.wrap .u64 d) n)))).set (((i+1)).toNat) (IntKind.wrap .u32 (shrK .u64 (shlK .u64 (IntKind.wrap .u64 d) n) 32))))else (some a)
def Zwe:Nat->Int->ZnR->Int->Int->ZnR->Option ZnR
 |0,_,_,_,_,_=>none
 |n_+1,n,t13,t14,i,out=>ZuO (Zwe n_) n t13 t14 i out
def ZCW (n:Nat) (s:(Int×ZnR×Int×Int×ZnR)):Option ZnR:=Zwe n s.1 s.2.1 s.2.2.1 s.2.2.2.1 s.2.2.2.2
def Zyy (a:(Int×ZnR×Int×Int×ZnR)->Option ZnR) (s:(Int×ZnR×Int×Int×ZnR)):Option ZnR:=ZuO (fun n b c i d=>a (n,b,c,i,d)) s.1 s.2.1 s.2.2.1 s.2.2.2.1 s.2.2.2.2
theorem ZGC:∀n s,ZCW (n+1) s=Zyy (ZCW n) s:=fun _ _=>rfl
def ZsV (a:ZnR) (n:Int):Option ZnR:=chk (inK .i64 ((a.length:Int)+1)) <|chk (mkOk ((a.length:Int)+1) ((a.length:Int)+1) 4) <|(Zwe big n a (a.length:Int) (0:Int) (List.replicate (((a.length:Int)+1)).toNat (0:Int))).bind fun b=>ZzY b
def Zzn (b y a:Int):ZNx:=chk (decide (0<=(31:Int))) <|some ((IntKind.wrap .u32 ((IntKind.wrap .u32 (b - y)) - a)),(shrK .u32 (orK .u32 (andK .u32 (xorK .u32 (if IntKind.signed .u32 then -1 else IntKind.max .u32) b) y) (andK .u32 (xorK .u32 (if IntKind.signed .u32 then -1 else IntKind.max .u32) (xorK .u32 b y)) (IntKind.wrap .u32 ((IntKind.wrap .u32 (b - y)) - a)))) 31))
def ZB7 (b y a:Int):ZNx:=chk (decide (0<=(32:Int))) <|some ((IntKind.wrap .u32 (IntKind.wrap .u64 ((IntKind.wrap .u64 ((IntKind.wrap .u64 b)+(IntKind.wrap .u64 y)))+(IntKind.wrap .u64 a)))),(IntKind.wrap .u32 (shrK .u64 (IntKind.wrap .u64 ((IntKind.wrap .u64 ((IntKind.wrap .u64 b)+(IntKind.wrap .u64 y)))+(IntKind.wrap .u64 a))) 32)))
def ZCx (b a:Nat) (n c d:Int) (u:ZnR):ZEB:=chk (inR n (a:Int)) <|(u[(b+(n).toNat)]?).bind fun e=>chk (inR n (a:Int)) <|some ((IntKind.wrap .u32 (IntKind.wrap .u64 (c - 1))),(u.set (b+(n).toNat) (IntKind.wrap .u32 (e+d))))
def ZA1 (h:Nat->Nat->Int->Int->Int->ZnR->Int->Int->ZnR->ZP1) (b a:Nat) (n c g:Int) (d:ZnR) (e i:Int) (u:ZnR):ZP1:=bif (decide (i < e))then ((idx d i).bind fun k=>chk (inR i (a:Int)) <|(u[(b+(i).toNat)]?).bind fun j=>(ZB7 j k g).bind fun(q,f)=>chk (inR i (a:Int)) <|chk (inK .i64 (i+1)) <|h b a n c f d e (i+1) (u.set (b+(i).toNat) q))else (some (b,a,n,c,g,u))
def Zz1:Nat->Nat->Nat->Int->Int->Int->ZnR->Int->Int->ZnR->ZP1
 |0,_,_,_,_,_,_,_,_,_=>none
 |n_+1,u_off,u_len,n,guess,add,t130,t131,i,u=>ZA1 (Zz1 n_) u_off u_len n guess add t130 t131 i u
def ZGE (n:Nat) (s:(Nat×Nat×Int×Int×Int×ZnR×Int×Int×ZnR)):ZP1:=Zz1 n s.1 s.2.1 s.2.2.1 s.2.2.2.1 s.2.2.2.2.1 s.2.2.2.2.2.1 s.2.2.2.2.2.2.1 s.2.2.2.2.2.2.2.1 s.2.2.2.2.2.2.2.2
def ZEf (f:(Nat×Nat×Int×Int×Int×ZnR×Int×Int×ZnR)->ZP1) (s:(Nat×Nat×Int×Int×Int×ZnR×Int×Int×ZnR)):ZP1:=ZA1 (fun b a n c g d e i u=>f (b,a,n,c,g,d,e,i,u)) s.1 s.2.1 s.2.2.1 s.2.2.2.1 s.2.2.2.2.1 s.2.2.2.2.2.1 s.2.2.2.2.2.2.1 s.2.2.2.2.2.2.2.1 s.2.2.2.2.2.2.2.2
theorem ZI0:∀n s,ZGE (n+1) s=ZEf (ZGE n) s:=fun _ _=>rfl
def ZFd (a b:Nat) (d:ZnR) (n e f g:Int) (u:ZnR):ZEB:=chk (inR n (b:Int)) <|(u[(a+(n).toNat)]?).bind fun h=>(Zzn h (IntKind.wrap .u32 g) f).bind fun(q,c)=>chk (inR n (b:Int)) <|bif (c == 0)then (some ((IntKind.wrap .u32 e),(u.set (a+(n).toNat) q)))else ((Zz1 big a b n e (0:Int) d (d.length:Int) (0:Int) (u.set (a+(n).toNat) q)).bind fun(i,k,m,j,o,l)=>ZCx i k m j o l)
def ZA2 (k:Nat->Nat->ZnR->Int->Int->Int->Int->ZnR->Int->Int->ZnR->ZP5) (b a:Nat) (d:ZnR) (n c f e:Int) (h:ZnR) (j i:Int) (u:ZnR):ZP5:=bif (decide (i < j))then ((idx h i).bind fun m=>chk (inR i (a:Int)) <|(u[(b+(i).toNat)]?).bind fun l=>(Zzn l (IntKind.wrap .u32 (IntKind.wrap .u64 (e+(IntKind.wrap .u64 (c*(IntKind.wrap .u64 m)))))) f).bind fun(q,g)=>chk (inR i (a:Int)) <|chk (decide (0<=(32:Int))) <|chk (inK .i64 (i+1)) <|k b a d n c g (shrK .u64 (IntKind.wrap .u64 (e+(IntKind.wrap .u64 (c*(IntKind.wrap .u64 m))))) 32) h j (i+1) (u.set (b+(i).toNat) q))else (some (b,a,d,n,c,f,e,u))
def ZCw:Nat->Nat->Nat->ZnR->Int->Int->Int->Int->ZnR->Int->Int->ZnR->ZP5
 |0,_,_,_,_,_,_,_,_,_,_,_=>none
 |n_+1,u_off,u_len,d,n,guess,borrow,carry,t82,t83,i,u=>ZA2 (ZCw n_) u_off u_len d n guess borrow carry t82 t83 i u
def ZGF (n:Nat) (s:(Nat×Nat×ZnR×Int×Int×Int×Int×ZnR×Int×Int×ZnR)):ZP5:=ZCw n s.1 s.2.1 s.2.2.1 s.2.2.2.1 s.2.2.2.2.1 s.2.2.2.2.2.1 s.2.2.2.2.2.2.1 s.2.2.2.2.2.2.2.1 s.2.2.2.2.2.2.2.2.1 s.2.2.2.2.2.2.2.2.2.1 s.2.2.2.2.2.2.2.2.2.2
def ZEg (g:(Nat×Nat×ZnR×Int×Int×Int×Int×ZnR×Int×Int×ZnR)->ZP5) (s:(Nat×Nat×ZnR×Int×Int×Int×Int×ZnR×Int×Int×ZnR)):ZP5:=ZA2 (fun c b d n f a e h j i u=>g (c,b,d,n,f,a,e,h,j,i,u)) s.1 s.2.1 s.2.2.1 s.2.2.2.1 s.2.2.2.2.1 s.2.2.2.2.2.1 s.2.2.2.2.2.2.1 s.2.2.2.2.2.2.2.1 s.2.2.2.2.2.2.2.2.1 s.2.2.2.2.2.2.2.2.2.1 s.2.2.2.2.2.2.2.2.2.2
theorem ZI1:∀n s,ZGF (n+1) s=ZEg (ZGF n) s:=fun _ _=>rfl
def ZCy (u_off:Nat) (u_len:Nat) (d:ZnR) (n:Int) (guess:Int) (u:ZnR):ZEB:=(ZCw big u_off u_len d n guess (0:Int) (0:Int) d (d.length:Int) (0:Int) u).bind fun(x0,x1,x2,x3,x4,x5,x6,x7)=>ZFd x0 x1 x2 x3 x4 x5 x6 x7
def Zz2 (f:ZZH) (b a:Nat) (d:ZnR) (n c e:Int) (h:Bool) (u:ZnR):ZOq:=bif h then (chk (inK .i64 (n - 1)) <|(idx d (n - 1)).bind fun g=>f b a d n (IntKind.wrap .u64 (c - 1)) (IntKind.wrap .u64 (e+(IntKind.wrap .u64 g))) u)else (some (b,a,d,n,c,u))
def ZEh (f:ZZH) (b a:Nat) (d:ZnR) (n c e:Int) (u:ZnR):ZOq:=bif (decide (e < 4294967296))then (chk (inK .i64 (n - 2)) <|(idx d (n - 2)).bind fun g=>chk (decide (0<=(32:Int))) <|chk (inK .i64 (n - 2)) <|chk (inR (n - 2) (a:Int)) <|(u[(b+((n - 2)).toNat)]?).bind fun h=>Zz2 f b a d n c e (decide ((IntKind.wrap .u64 (c*(IntKind.wrap .u64 g))) > (orK .u64 (shlK .u64 e 32) (IntKind.wrap .u64 h)))) u)else (Zz2 f b a d n c e false u)
def Zxc:Nat->Nat->Nat->ZnR->Int->Int->Int->ZnR->ZOq
 |0,_,_,_,_,_,_,_=>none
 |n_+1,u_off,u_len,d,n,guess,rest,u=>ZEh (Zxc n_) u_off u_len d n guess rest u
def ZGG (n:Nat) (s:(Nat×Nat×ZnR×Int×Int×Int×ZnR)):ZOq:=Zxc n s.1 s.2.1 s.2.2.1 s.2.2.2.1 s.2.2.2.2.1 s.2.2.2.2.2.1 s.2.2.2.2.2.2
def ZGH (f:(Nat×Nat×ZnR×Int×Int×Int×ZnR)->ZOq) (s:(Nat×Nat×ZnR×Int×Int×Int×ZnR)):ZOq:=ZEh (fun b a d n c e u=>f (b,a,d,n,c,e,u)) s.1 s.2.1 s.2.2.1 s.2.2.2.1 s.2.2.2.2.1 s.2.2.2.2.2.1 s.2.2.2.2.2.2
theorem ZI2:∀n s,ZGG (n+1) s=ZGH (ZGG n) s:=fun _ _=>rfl
def ZFa (u:ZnR) (c b:Nat) (d:ZnR):ZEB:=chk (inR (d.length:Int) (b:Int)) <|(u[(c+((d.length:Int)).toNat)]?).bind fun f=>chk (decide (0<=(32:Int))) <|chk (inK .i64 ((d.length:Int) - 1)) <|chk (inR ((d.length:Int) - 1) (b:Int)) <|(u[(c+(((d.length:Int) - 1)).toNat)]?).bind fun a=>chk (inK .i64 ((d.length:Int) - 1)) <|(idx d ((d.length:Int) - 1)).bind fun e=>chk (decide ((IntKind.wrap .u64 e)≠0)) <|chk (inK .i64 ((d.length:Int) - 1)) <|(idx d ((d.length:Int) - 1)).bind fun g=>(Zxc big c b d (d.length:Int) (if (4294967295:Int) < (IntKind.wrap .u64 (Int.tdiv (orK .u64 (shlK .u64 (IntKind.wrap .u64 f) 32) (IntKind.wrap .u64 a)) (IntKind.wrap .u64 e)))then (4294967295:Int)else (IntKind.wrap .u64 (Int.tdiv (orK .u64 (shlK .u64 (IntKind.wrap .u64 f) 32) (IntKind.wrap .u64 a)) (IntKind.wrap .u64 e)))) (IntKind.wrap .u64 ((orK .u64 (shlK .u64 (IntKind.wrap .u64 f) 32) (IntKind.wrap .u64 a)) - (IntKind.wrap .u64 ((if (4294967295:Int) < (IntKind.wrap .u64 (Int.tdiv (orK .u64 (shlK .u64 (IntKind.wrap .u64 f) 32) (IntKind.wrap .u64 a)) (IntKind.wrap .u64 e)))then (4294967295:Int)else (IntKind.wrap .u64 (Int.tdiv (orK .u64 (shlK .u64 (IntKind.wrap .u64 f) 32) (IntKind.wrap .u64 a)) (IntKind.wrap .u64 e))))*(IntKind.wrap .u64 g))))) u).bind fun(h,j,l,i,m,k)=>ZCy h j l i m k
def ZDC (u:ZnR) (b a:Nat) (d:ZnR):ZEB:=(ZFa u b a d).bind fun r=>chk (decide (r.2.length=u.length)&&true) (some r)
def ZCv (b a:Nat) (c:ZnR):ZLN:=some (b,a,c)
def Zzi (c:Nat->Nat->ZnR->ZLN) (b a:Nat) (d:Bool) (e:ZnR):ZLN:=bif d then (chk (inK .i64 (((a:Nat):Int) - 1)) <|chk (Zca 0 (((a:Nat):Int) - 1) (a:Int)) <|c (b+0) (((((a:Nat):Int) - 1)).toNat - 0) e)else (some (b,a,e))
def ZBD (c:Nat->Nat->ZnR->ZLN) (b a:Nat) (e:ZnR):ZLN:=bif (decide (((a:Nat):Int) > 0))then (chk (inK .i64 (((a:Nat):Int) - 1)) <|chk (inR (((a:Nat):Int) - 1) (a:Int)) <|(e[(b+((((a:Nat):Int) - 1)).toNat)]?).bind fun d=>Zzi c b a (d == 0) e)else (Zzi c b a false e)
def Zwi:Nat->Nat->Nat->ZnR->ZLN
 |0,_,_,_=>none
 |n_+1,w_off,w_len,w_=>ZBD (Zwi n_) w_off w_len w_
def ZE4 (n:Nat) (s:(Nat×Nat×ZnR)):ZLN:=Zwi n s.1 s.2.1 s.2.2
def ZE5 (c:(Nat×Nat×ZnR)->ZLN) (s:(Nat×Nat×ZnR)):ZLN:=ZBD (fun b a d=>c (b,a,d)) s.1 s.2.1 s.2.2
theorem ZH4:∀n s,ZE4 (n+1) s=ZE5 (ZE4 n) s:=fun _ _=>rfl
def ZBR (e:ZnR) (a b:Nat):ZLN:=(Zwi big a b e).bind fun(c,d,f)=>ZCv c d f
def ZAj (c:ZnR) (b a:Nat):ZLN:=(ZBR c b a).bind fun r=>chk (decide (r.2.2.length=c.length)&&true) (some r)
def Zxa (b:ZnR) (i:Int):Option Int:=bif (decide (i < (b.length:Int)))then ((idx b i).bind fun a=>some a)else (some (0:Int))
def ZEd (d:ZnR) (b a:Nat) (i:Int):ZEB:=bif (decide (i < ((a:Nat):Int)))then (chk (inR i (a:Int)) <|(d[(b+(i).toNat)]?).bind fun c=>some (c,d))else (some (0,d))
def Zzg (c:ZnR) (b a:Nat) (i:Int):ZEB:=(ZEd c b a i).bind fun r=>chk (decide (r.2.length=c.length)&&true) (some r)
def ZB9 (a b:Nat) (q c:ZnR):ZKW:=(ZpH q).bind fun e=>(ZpH ((c.drop a).take b)).bind fun d=>some (e,d)
def ZwL (g:Int->Nat->Nat->Int->Int->ZnR->ZnR->ZPY) (c:Int) (a b:Nat) (h i:Int) (q d:ZnR):ZPY:=bif (decide (i < h))then (chk (inK .i64 (i+1)) <|(Zzg d a b (i+1)).bind fun(j,f)=>chk (decide (0<=(32:Int))) <|chk (inR i (b:Int)) <|(f[(a+(i).toNat)]?).bind fun e=>chk (decide (0<=c)) <|chk (inR i (b:Int)) <|chk (inK .i64 (i+1)) <|g c a b h (i+1) q (f.set (a+(i).toNat) (IntKind.wrap .u32 (shrK .u64 (orK .u64 (shlK .u64 (IntKind.wrap .u64 j) 32) (IntKind.wrap .u64 e)) c))))else (some (a,b,q,d))
def Zu5:Nat->Int->Nat->Nat->Int->Int->ZnR->ZnR->ZPY
 |0,_,_,_,_,_,_,_=>none
 |n_+1,shift,rest_off,rest_len,t86,i,q,rest=>ZwL (Zu5 n_) shift rest_off rest_len t86 i q rest
def ZEH (n:Nat) (s:(Int×Nat×Nat×Int×Int×ZnR×ZnR)):ZPY:=Zu5 n s.1 s.2.1 s.2.2.1 s.2.2.2.1 s.2.2.2.2.1 s.2.2.2.2.2.1 s.2.2.2.2.2.2
def ZAS (e:(Int×Nat×Nat×Int×Int×ZnR×ZnR)->ZPY) (s:(Int×Nat×Nat×Int×Int×ZnR×ZnR)):ZPY:=ZwL (fun c a b f i q d=>e (c,a,b,f,i,q,d)) s.1 s.2.1 s.2.2.1 s.2.2.2.1 s.2.2.2.2.1 s.2.2.2.2.2.1 s.2.2.2.2.2.2
theorem ZHO:∀n s,ZEH (n+1) s=ZAS (ZEH n) s:=fun _ _=>rfl
def ZCa (n c:Int) (u q:ZnR):ZKW:=chk (Zca 0 n (u.length:Int)) <|(ZAj u 0 ((n).toNat - 0)).bind fun(b,a,d)=>(Zu5 big c b a ((a:Nat):Int) (0:Int) q d).bind fun(e,g,h,f)=>ZB9 e g h f
def ZwM (b:Int->Int->ZnR->Int->ZnR->ZnR->ZPX) (n a:Int) (d:ZnR) (j:Int) (u q:ZnR):ZPX:=bif (decide (j>=0))then (chk (inK .i64 (j+n)) <|chk (inK .i64 ((j+n)+1)) <|chk (Zca j ((j+n)+1) (u.length:Int)) <|(ZDC u ((j).toNat) ((((j+n)+1)).toNat - (j).toNat) d).bind fun(c,e)=>chk (inR j (q.length:Int)) <|chk (inK .i64 (j - 1)) <|b n a d (j - 1) e (q.set ((j).toNat) c))else (some (n,a,u,q))
def Zu6:Nat->Int->Int->ZnR->Int->ZnR->ZnR->ZPX
 |0,_,_,_,_,_,_=>none
 |n_+1,n,shift,d,j,u,q=>ZwM (Zu6 n_) n shift d j u q
def ZEI (n:Nat) (s:(Int×Int×ZnR×Int×ZnR×ZnR)):ZPX:=Zu6 n s.1 s.2.1 s.2.2.1 s.2.2.2.1 s.2.2.2.2.1 s.2.2.2.2.2
def ZAT (b:(Int×Int×ZnR×Int×ZnR×ZnR)->ZPX) (s:(Int×Int×ZnR×Int×ZnR×ZnR)):ZPX:=ZwM (fun n a d j u q=>b (n,a,d,j,u,q)) s.1 s.2.1 s.2.2.1 s.2.2.2.1 s.2.2.2.2.1 s.2.2.2.2.2
theorem ZHP:∀n s,ZEI (n+1) s=ZAT (ZEI n) s:=fun _ _=>rfl
def Ztb (c a:ZnR):ZKW:=(ZrF c a).bind fun q=>bif (decide (q < 0))then ((ZrJ c).bind fun h=>some (([]:ZnR),h))else (bif ((a.length:Int) == 1)then ((idx a 0).bind fun e=>(ZAi c e).bind fun(g,n)=>(ZpH ([n]:ZnR)).bind fun i=>some (g,i))else (chk (inK .i64 ((a.length:Int) - 1)) <|(idx a ((a.length:Int) - 1)).bind fun d=>(ZwJ d).bind fun b=>(ZsV c b).bind fun u=>(ZsV a b).bind fun f=>chk (Zca 0 (a.length:Int) (f.length:Int)) <|chk (inK .i64 ((c.length:Int) - (a.length:Int))) <|chk (inK .i64 (((c.length:Int) - (a.length:Int))+1)) <|chk (mkOk (((c.length:Int) - (a.length:Int))+1) (((c.length:Int) - (a.length:Int))+1) 4) <|chk (inK .i64 (((List.replicate ((((c.length:Int) - (a.length:Int))+1)).toNat (0:Int)).length:Int) - 1)) <|(Zu6 big (a.length:Int) b ((f.drop 0).take (((a.length:Int)).toNat - 0)) (((List.replicate ((((c.length:Int) - (a.length:Int))+1)).toNat (0:Int)).length:Int) - 1) u (List.replicate ((((c.length:Int) - (a.length:Int))+1)).toNat (0:Int))).bind fun(j,l,m,k)=>ZCa j l m k))
def ZAU (a:ZnR):Option ZnR:=some a
def ZsO (a:ZnR->ZnR->Option ZnR) (c b:ZnR):Option ZnR:=bif (decide ((b.length:Int) > 0))then ((Ztb c b).bind fun(q,d)=>a b d)else (some c)
def ZqH:Nat->ZnR->ZnR->Option ZnR
 |0,_,_=>none
 |n_+1,w_,v_=>ZsO (ZqH n_) w_ v_
def Zwh (a c:ZnR):Option ZnR:=(ZqH big a c).bind fun b=>ZAU b
def ZsP (b a:ZnP):Option ZnK:=(Zwh b.Words a.Words).bind fun g=>(Ztb b.Words g).bind fun(f,q)=>(Ztb a.Words g).bind fun(y,e)=>(Zqb (!(b.Neg == a.Neg)) f).bind fun c=>(Zqb false y).bind fun d=>some (ZnK.mk c d)
def ZFD (b a:ZnP):ZG5:=(ZEi ([b,a]:(List ZnP))).bind fun q=>bif (!q)then (some ((ZnK.mk (ZnP.mk false ([]:ZnR)) (ZnP.mk false ([]:ZnR))),1))else (bif ((a.Words.length:Int) == 0)then (some ((ZnK.mk (ZnP.mk false ([]:ZnR)) (ZnP.mk false ([]:ZnR))),8))else ((ZsP b a).bind fun c=>some (c,0)))
def ZFC (d c:Int):ZG5:=(ZA3 d).bind fun q=>(ZA3 c).bind fun b=>(ZFD q b).bind fun(a,e)=>some (a,e)
def Zzm:Option ZnK:=(ZFC 0 1).bind fun(f,q)=>some f
def ZDE:Option Zn0:=(Zzm).bind fun q=>(Zzm).bind fun a=>(Zzm).bind fun d=>(Zzm).bind fun c=>(Zzm).bind fun b=>some (Zn0.mk 0 q a d c b)
def Zxd (a:Bool):Option Bool:=some a
def Zrh (f:ZnK):Option Bool:=(ZEi ([f.Num,f.Den]:(List ZnP))).bind fun q=>bif q then (bif (decide ((f.Den.Words.length:Int) > 0))then (bif (!f.Den.Neg)then ((Zwh f.Num.Words f.Den.Words).bind fun a=>(ZrF a ([1]:List Int)).bind fun b=>Zxd (b == 0))else (Zxd false))else (Zxd false))else (Zxd false)
def ZBz (a:ZnR):Option ZnR:=(ZpH a).bind fun q=>some q
def ZBA (d:ZS8) (e:ZnR) (i a:Int) (g:ZnR) (f b:Int) (c:ZnR):Option ZnR:=chk (inK .i64 (i+(e.length:Int))) <|chk (inR (i+(e.length:Int)) (c.length:Int)) <|chk (inK .i64 (b+1)) <|d e g f (b+1) (c.set (((i+(e.length:Int))).toNat) (IntKind.wrap .u32 a))
def Zwb (h:ZnR->Int->Int->Int->ZnR->Int->Int->ZnR->Int->Int->ZnR->ZP2) (m:ZnR) (i l a:Int) (k:ZnR) (d e:Int) (f:ZnR) (g j:Int) (c:ZnR):ZP2:=bif (decide (j < g))then ((idx f j).bind fun y=>chk (inK .i64 (i+j)) <|chk (inR (i+j) (c.length:Int)) <|(c[((i+j)).toNat]?).bind fun b=>chk (inK .i64 (i+j)) <|chk (inR (i+j) (c.length:Int)) <|chk (decide (0<=(32:Int))) <|chk (inK .i64 (j+1)) <|h m i l (shrK .u64 (IntKind.wrap .u64 (a+(IntKind.wrap .u64 ((IntKind.wrap .u64 ((IntKind.wrap .u64 l)*(IntKind.wrap .u64 y)))+(IntKind.wrap .u64 b))))) 32) k d e f g (j+1) (c.set (((i+j)).toNat) (IntKind.wrap .u32 (IntKind.wrap .u64 (a+(IntKind.wrap .u64 ((IntKind.wrap .u64 ((IntKind.wrap .u64 l)*(IntKind.wrap .u64 y)))+(IntKind.wrap .u64 b))))))))else (some (m,i,a,k,d,e,c))
def ZxG:Nat->ZnR->Int->Int->Int->ZnR->Int->Int->ZnR->Int->Int->ZnR->ZP2
 |0,_,_,_,_,_,_,_,_,_,_,_=>none
 |n_+1,v_,i,x_,carry,t17,t18,i_1,t24,t25,j,out=>Zwb (ZxG n_) v_ i x_ carry t17 t18 i_1 t24 t25 j out
def ZD9 (n:Nat) (s:(ZnR×Int×Int×Int×ZnR×Int×Int×ZnR×Int×Int×ZnR)):ZP2:=ZxG n s.1 s.2.1 s.2.2.1 s.2.2.2.1 s.2.2.2.2.1 s.2.2.2.2.2.1 s.2.2.2.2.2.2.1 s.2.2.2.2.2.2.2.1 s.2.2.2.2.2.2.2.2.1 s.2.2.2.2.2.2.2.2.2.1 s.2.2.2.2.2.2.2.2.2.2
def ZzV (b:(ZnR×Int×Int×Int×ZnR×Int×Int×ZnR×Int×Int×ZnR)->ZP2) (s:(ZnR×Int×Int×Int×ZnR×Int×Int×ZnR×Int×Int×ZnR)):ZP2:=Zwb (fun k i l a h c d f g j e=>b (k,i,l,a,h,c,d,f,g,j,e)) s.1 s.2.1 s.2.2.1 s.2.2.2.1 s.2.2.2.2.1 s.2.2.2.2.2.1 s.2.2.2.2.2.2.1 s.2.2.2.2.2.2.2.1 s.2.2.2.2.2.2.2.2.1 s.2.2.2.2.2.2.2.2.2.1 s.2.2.2.2.2.2.2.2.2.2
theorem ZHw:∀n s,ZD9 (n+1) s=ZzV (ZD9 n) s:=fun _ _=>rfl
def Zwc (c:ZS8) (e d:ZnR) (a i:Int) (b:ZnR):Option ZnR:=bif (decide (i < a))then ((idx d i).bind fun h=>(ZxG big e i h (0:Int) d a i e (e.length:Int) (0:Int) b).bind fun(f,k,m,j,n,l,g)=>ZBA c f k m j n l g)else (some b)
def Zux:Nat->ZnR->ZnR->Int->Int->ZnR->Option ZnR
 |0,_,_,_,_,_=>none
 |n_+1,v_,t17,t18,i,out=>Zwc (Zux n_) v_ t17 t18 i out
def ZEa (n:Nat) (s:(ZnR×ZnR×Int×Int×ZnR)):Option ZnR:=Zux n s.1 s.2.1 s.2.2.1 s.2.2.2.1 s.2.2.2.2
def ZzW (a:ZZE) (s:(ZnR×ZnR×Int×Int×ZnR)):Option ZnR:=Zwc (fun e d b i c=>a (e,d,b,i,c)) s.1 s.2.1 s.2.2.1 s.2.2.2.1 s.2.2.2.2
theorem ZHx:∀n s,ZEa (n+1) s=ZzW (ZEa n) s:=fun _ _=>rfl
def Zt6 (a b:ZnR):Option ZnR:=chk (inK .i64 ((a.length:Int)+(b.length:Int))) <|chk (mkOk ((a.length:Int)+(b.length:Int)) ((a.length:Int)+(b.length:Int)) 4) <|(Zux big b a (a.length:Int) (0:Int) (List.replicate (((a.length:Int)+(b.length:Int))).toNat (0:Int))).bind fun c=>ZBz c
def Zn9 (a b:ZnP):Option ZnP:=(Zt6 a.Words b.Words).bind fun q=>(Zqb (!(a.Neg == b.Neg)) q).bind fun c=>some c
def ZB8 (a:Int) (b:ZnR):Option ZnR:=chk (Zi5 (b.length+([a]:ZnR).length) 4) <|(ZpH (b++([a]:ZnR))).bind fun q=>some q
def ZwK (f:ZnR->ZnR->Int->Int->Int->ZnR->ZEB) (j h:ZnR) (b e i:Int) (c:ZnR):ZEB:=bif (decide (i < e))then ((Zxa j i).bind fun q=>(Zxa h i).bind fun g=>(ZB7 q g b).bind fun(d,a)=>chk (Zi5 (c.length+([d]:ZnR).length) 4) <|chk (inK .i64 (i+1)) <|f j h a e (i+1) (c++([d]:ZnR)))else (some (b,c))
def Zx8:Nat->ZnR->ZnR->Int->Int->Int->ZnR->ZEB
 |0,_,_,_,_,_,_=>none
 |n_+1,w_,v_,carry,t20,i,out=>ZwK (Zx8 n_) w_ v_ carry t20 i out
def ZEG (n:Nat) (s:(ZnR×ZnR×Int×Int×Int×ZnR)):ZEB:=Zx8 n s.1 s.2.1 s.2.2.1 s.2.2.2.1 s.2.2.2.2.1 s.2.2.2.2.2
def ZAR (b:(ZnR×ZnR×Int×Int×Int×ZnR)->ZEB) (s:(ZnR×ZnR×Int×Int×Int×ZnR)):ZEB:=ZwK (fun f e a d i c=>b (f,e,a,d,i,c)) s.1 s.2.1 s.2.2.1 s.2.2.2.1 s.2.2.2.2.1 s.2.2.2.2.2
theorem ZHN:∀n s,ZEG (n+1) s=ZAR (ZEG n) s:=fun _ _=>rfl
def ZxV (a b:ZnR):Option ZnR:=chk (inK .i64 ((if (b.length:Int) > (a.length:Int)then (b.length:Int)else (a.length:Int))+1)) <|chk (mkOk 0 ((if (b.length:Int) > (a.length:Int)then (b.length:Int)else (a.length:Int))+1) 4) <|(Zx8 big a b (0:Int) (if (b.length:Int) > (a.length:Int)then (b.length:Int)else (a.length:Int)) (0:Int) (List.replicate ((0:Int)).toNat (0:Int))).bind fun(c,d)=>ZB8 c d
def ZBC (a:ZnR):Option ZnR:=(ZpH a).bind fun q=>some q
def Zwf (f:ZnR->ZnR->Int->Int->Int->ZnR->Option ZnR) (j h:ZnR) (b e i:Int) (c:ZnR):Option ZnR:=bif (decide (i < e))then ((idx j i).bind fun d=>(Zxa h i).bind fun q=>(Zzn d q b).bind fun(g,a)=>chk (inR i (c.length:Int)) <|chk (inK .i64 (i+1)) <|f j h a e (i+1) (c.set ((i).toNat) g))else (some c)
def ZxI:Nat->ZnR->ZnR->Int->Int->Int->ZnR->Option ZnR
 |0,_,_,_,_,_,_=>none
 |n_+1,w_,v_,borrow,t12,i,out=>Zwf (ZxI n_) w_ v_ borrow t12 i out
def ZEc (n:Nat) (s:(ZnR×ZnR×Int×Int×Int×ZnR)):Option ZnR:=ZxI n s.1 s.2.1 s.2.2.1 s.2.2.2.1 s.2.2.2.2.1 s.2.2.2.2.2
def ZzZ (b:(ZnR×ZnR×Int×Int×Int×ZnR)->Option ZnR) (s:(ZnR×ZnR×Int×Int×Int×ZnR)):Option ZnR:=Zwf (fun f e a d i c=>b (f,e,a,d,i,c)) s.1 s.2.1 s.2.2.1 s.2.2.2.1 s.2.2.2.2.1 s.2.2.2.2.2
theorem ZHz:∀n s,ZEc (n+1) s=ZzZ (ZEc n) s:=fun _ _=>rfl
def ZwX (a c:ZnR):Option ZnR:=chk (mkOk (a.length:Int) (a.length:Int) 4) <|(ZxI big a c (0:Int) (a.length:Int) (0:Int) (List.replicate ((a.length:Int)).toNat (0:Int))).bind fun b=>ZBC b
def ZC1 (a b:ZnP):Option ZnP:=bif (a.Neg == b.Neg)then ((ZxV a.Words b.Words).bind fun q=>(Zqb a.Neg q).bind fun e=>some e)else ((ZrF a.Words b.Words).bind fun d=>bif (decide (d>=0))then ((ZwX a.Words b.Words).bind fun g=>(Zqb a.Neg g).bind fun f=>some f)else ((ZwX b.Words a.Words).bind fun c=>(Zqb b.Neg c).bind fun h=>some h))
def ZHQ (a b:ZnK):ZVR:=(Zn9 a.Num b.Den).bind fun q=>(Zn9 b.Num a.Den).bind fun c=>(ZC1 q c).bind fun d=>(Zn9 a.Den b.Den).bind fun e=>some (d,e)
def Zt4 (d:Bool) (a b:ZnK) (j i:Bool) (g h:ZnR):ZG5:=bif d then (some ((ZnK.mk (ZnP.mk false ([]:ZnR)) (ZnP.mk false ([]:ZnR))),1))else ((ZHQ a b).bind fun(e,c)=>bif ((c.Words.length:Int) == 0)then (some ((ZnK.mk (ZnP.mk false ([]:ZnR)) (ZnP.mk false ([]:ZnR))),8))else ((ZsP e c).bind fun f=>bif (decide ((if (f.Den.Words.length:Int) > (f.Num.Words.length:Int)then (f.Den.Words.length:Int)else (f.Num.Words.length:Int)) > 256))then (some ((ZnK.mk (ZnP.mk false ([]:ZnR)) (ZnP.mk false ([]:ZnR))),3))else (some (f,0))))
def Ztc (a b:ZnK):ZG5:=(Zrh a).bind fun q=>bif (!q)then (Zt4 true a b false false ([]:ZnR) ([]:ZnR))else ((Zrh b).bind fun c=>Zt4 (!c) a b false false ([]:ZnR) ([]:ZnR))
def ZE7 (a b:ZnK):ZG5:=(Ztc a b).bind fun(q,c)=>some (q,c)
def ZCu (f:ZnK) (a:Int):Option ZnK:=some f
def ZFz (a b:ZnK):Option ZnK:=(ZE7 a b).bind fun(q,c)=>(ZCu q c).bind fun d=>some d
def ZG2 (a b:ZnK):ZVR:=(Zn9 a.Num b.Num).bind fun c=>(Zn9 a.Den b.Den).bind fun d=>some (c,d)
def ZsY (d:Bool) (a b:ZnK) (j i:Bool) (g h:ZnR):ZG5:=bif d then (some ((ZnK.mk (ZnP.mk false ([]:ZnR)) (ZnP.mk false ([]:ZnR))),1))else ((ZG2 a b).bind fun(e,c)=>bif ((c.Words.length:Int) == 0)then (some ((ZnK.mk (ZnP.mk false ([]:ZnR)) (ZnP.mk false ([]:ZnR))),8))else ((ZsP e c).bind fun f=>bif (decide ((if (f.Den.Words.length:Int) > (f.Num.Words.length:Int)then (f.Den.Words.length:Int)else (f.Num.Words.length:Int)) > 256))then (some ((ZnK.mk (ZnP.mk false ([]:ZnR)) (ZnP.mk false ([]:ZnR))),3))else (some (f,0))))
def ZyB (a b:ZnK):ZG5:=(Zrh a).bind fun q=>bif (!q)then (ZsY true a b false false ([]:ZnR) ([]:ZnR))else ((Zrh b).bind fun c=>ZsY (!c) a b false false ([]:ZnR) ([]:ZnR))
def ZGh (a b:ZnK):ZG5:=(ZyB a b).bind fun(q,c)=>some (q,c)
def ZE3 (a b:ZnK):Option ZnK:=(ZGh a b).bind fun(q,c)=>(ZCu q c).bind fun d=>some d
def ZEx (m:Zn0) (a y:ZnK):Option Zn0:=chk (inK .i64 (m.N+1)) <|(ZFz m.X a).bind fun q=>(ZFz m.Y y).bind fun d=>(ZE3 a a).bind fun c=>(ZFz m.XX c).bind fun g=>(ZE3 y y).bind fun f=>(ZFz m.YY f).bind fun b=>(ZE3 a y).bind fun h=>(ZFz m.XY h).bind fun e=>some (Zn0.mk (m.N+1) q d g b e)
def ZHS (v:Int) (l p n q s t o u r h:Bool) (m:Zn0) (j d k i c e g f b a:ZnR):Option Zn0:=some m
def ZA6 (w:Tf_1) (B:ZyE) (z x A:Int) (l q n r t u o v s h:Bool) (m:Zn0) (j d k i c e g f b a:ZnR):ZRW:=bif (decide (x < z))then ((idx B x).bind fun p=>chk (inR 0 2) <|chk (inR 1 2) <|(ZEx m p.e0 p.e1).bind fun y=>chk (inK .i64 (x+1)) <|w B z (x+1) A l q n r t u o v s h y j d k i c e g f b a)else (some (A,l,q,n,r,t,u,o,v,s,h,m,j,d,k,i,c,e,g,f,b,a))
def ZCC:Nat->ZyE->Int->Int->Int->Bool->Bool->Bool->Bool->Bool->Bool->Bool->Bool->Bool->Bool->Zn0->ZnR->ZnR->ZnR->ZnR->ZnR->ZnR->ZnR->ZnR->ZnR->ZnR->ZRW
 |0,_,_,_,_,_,_,_,_,_,_,_,_,_,_,_,_,_,_,_,_,_,_,_,_,_=>none
 |n_+1,t7,t8,t9,t2,t2_1,t2_2,t2_3,t2_4,t2_5,t2_6,t2_7,t2_8,t2_9,t2_10,m,t2_11,t2_12,t2_13,t2_14,t2_15,t2_16,t2_17,t2_18,t2_19,t2_20=>ZA6 (ZCC n_) t7 t8 t9 t2 t2_1 t2_2 t2_3 t2_4 t2_5 t2_6 t2_7 t2_8 t2_9 t2_10 m t2_11 t2_12 t2_13 t2_14 t2_15 t2_16 t2_17 t2_18 t2_19 t2_20
def ZGI (n:Nat) (s:(ZyE×Int×Int×Int×Bool×Bool×Bool×Bool×Bool×Bool×Bool×Bool×Bool×Bool×Zn0×ZnR×ZnR×ZnR×ZnR×ZnR×ZnR×ZnR×ZnR×ZnR×ZnR)):ZRW:=ZCC n s.1 s.2.1 s.2.2.1 s.2.2.2.1 s.2.2.2.2.1 s.2.2.2.2.2.1 s.2.2.2.2.2.2.1 s.2.2.2.2.2.2.2.1 s.2.2.2.2.2.2.2.2.1 s.2.2.2.2.2.2.2.2.2.1 s.2.2.2.2.2.2.2.2.2.2.1 s.2.2.2.2.2.2.2.2.2.2.2.1 s.2.2.2.2.2.2.2.2.2.2.2.2.1 s.2.2.2.2.2.2.2.2.2.2.2.2.2.1 s.2.2.2.2.2.2.2.2.2.2.2.2.2.2.1 s.2.2.2.2.2.2.2.2.2.2.2.2.2.2.2.1 s.2.2.2.2.2.2.2.2.2.2.2.2.2.2.2.2.1 s.2.2.2.2.2.2.2.2.2.2.2.2.2.2.2.2.2.1 s.2.2.2.2.2.2.2.2.2.2.2.2.2.2.2.2.2.2.1 s.2.2.2.2.2.2.2.2.2.2.2.2.2.2.2.2.2.2.2.1 s.2.2.2.2.2.2.2.2.2.2.2.2.2.2.2.2.2.2.2.2.1 s.2.2.2.2.2.2.2.2.2.2.2.2.2.2.2.2.2.2.2.2.2.1 s.2.2.2.2.2.2.2.2.2.2.2.2.2.2.2.2.2.2.2.2.2.2.1 s.2.2.2.2.2.2.2.2.2.2.2.2.2.2.2.2.2.2.2.2.2.2.2.1 s.2.2.2.2.2.2.2.2.2.2.2.2.2.2.2.2.2.2.2.2.2.2.2.2
def ZEl (w:Tf_0) (s:(ZyE×Int×Int×Int×Bool×Bool×Bool×Bool×Bool×Bool×Bool×Bool×Bool×Bool×Zn0×ZnR×ZnR×ZnR×ZnR×ZnR×ZnR×ZnR×ZnR×ZnR×ZnR)):ZRW:=ZA6 (fun z x A y l p n q t u o v r h m j d k i c e g f b a=>w (z,x,A,y,l,p,n,q,t,u,o,v,r,h,m,j,d,k,i,c,e,g,f,b,a)) s.1 s.2.1 s.2.2.1 s.2.2.2.1 s.2.2.2.2.1 s.2.2.2.2.2.1 s.2.2.2.2.2.2.1 s.2.2.2.2.2.2.2.1 s.2.2.2.2.2.2.2.2.1 s.2.2.2.2.2.2.2.2.2.1 s.2.2.2.2.2.2.2.2.2.2.1 s.2.2.2.2.2.2.2.2.2.2.2.1 s.2.2.2.2.2.2.2.2.2.2.2.2.1 s.2.2.2.2.2.2.2.2.2.2.2.2.2.1 s.2.2.2.2.2.2.2.2.2.2.2.2.2.2.1 s.2.2.2.2.2.2.2.2.2.2.2.2.2.2.2.1 s.2.2.2.2.2.2.2.2.2.2.2.2.2.2.2.2.1 s.2.2.2.2.2.2.2.2.2.2.2.2.2.2.2.2.2.1 s.2.2.2.2.2.2.2.2.2.2.2.2.2.2.2.2.2.2.1 s.2.2.2.2.2.2.2.2.2.2.2.2.2.2.2.2.2.2.2.1 s.2.2.2.2.2.2.2.2.2.2.2.2.2.2.2.2.2.2.2.2.1 s.2.2.2.2.2.2.2.2.2.2.2.2.2.2.2.2.2.2.2.2.2.1 s.2.2.2.2.2.2.2.2.2.2.2.2.2.2.2.2.2.2.2.2.2.2.1 s.2.2.2.2.2.2.2.2.2.2.2.2.2.2.2.2.2.2.2.2.2.2.2.1 s.2.2.2.2.2.2.2.2.2.2.2.2.2.2.2.2.2.2.2.2.2.2.2.2
theorem ZI3:∀n s,ZGI (n+1) s=ZEl (ZGI n) s:=fun _ _=>rfl
def ZCY (l:ZyE):Option Zn0:=(ZDE).bind fun m=>(ZCC big l (l.length:Int) (0:Int) (0:Int) false false false false false false false false false false m ([]:ZnR) ([]:ZnR) ([]:ZnR) ([]:ZnR) ([]:ZnR) ([]:ZnR) ([]:ZnR) ([]:ZnR) ([]:ZnR) ([]:ZnR)).bind fun(x0,x1,x2,x3,x4,x5,x6,x7,x8,x9,x10,x11,x12,x13,x14,x15,x16,x17,x18,x19,x20,x21)=>ZHS x0 x1 x2 x3 x4 x5 x6 x7 x8 x9 x10 x11 x12 x13 x14 x15 x16 x17 x18 x19 x20 x21
def ZIM (a b:Int):Option ZnK:=(ZFC a b).bind fun(f,e)=>bif (e != 0)then ((Zzm).bind fun q=>some q)else (some f)
def ZAk (a:ZnP):Option ZnP:=some a
def Zxb (a:ZnP):Option ZnP:=bif (!a.Neg)then (ZAk (ZnP.mk (decide ((a.Words.length:Int) > 0)) a.Words))else (ZAk (ZnP.mk false a.Words))
def ZGg (a b:ZnK):ZG5:=(Zrh b).bind fun q=>bif (!q)then (some ((ZnK.mk (ZnP.mk false ([]:ZnR)) (ZnP.mk false ([]:ZnR))),1))else ((Zxb b.Num).bind fun c=>(Ztc a (ZnK.mk c b.Den)).bind fun(e,d)=>some (e,d))
def ZKc (a b:ZnK):Option ZnK:=(ZGg a b).bind fun(q,c)=>(ZCu q c).bind fun d=>some d
def ZsQ (n:Int) (f a b:ZnK):Option ZnK:=(ZIM n 1).bind fun q=>(ZE3 q f).bind fun c=>(ZE3 a b).bind fun d=>(ZKc c d).bind fun e=>some e
def ZEw (e:Bool) (a b:ZnK):Option Int:=bif e then (some (0:Int))else ((Zn9 a.Num b.Den).bind fun q=>(Zn9 b.Num a.Den).bind fun c=>(Zxb c).bind fun f=>(ZC1 q f).bind fun d=>bif d.Neg then (some (-1:Int))else (bif (decide ((d.Words.length:Int) > 0))then (some (1:Int))else (some (0:Int))))
def ZE6 (a b:ZnK):Option Int:=(Zrh a).bind fun q=>bif (!q)then (ZEw true a b)else ((Zrh b).bind fun c=>ZEw (!c) a b)
def ZF7 (a:ZnK):Option Int:=(Zzm).bind fun q=>(ZE6 a q).bind fun b=>some b
def ZHR (a b:ZnK):ZVR:=(Zn9 a.Num b.Den).bind fun c=>(Zn9 a.Den b.Num).bind fun d=>some (c,d)
def ZsX (d:Bool) (a b:ZnK) (j i:Bool) (g h:ZnR):ZG5:=bif d then (some ((ZnK.mk (ZnP.mk false ([]:ZnR)) (ZnP.mk false ([]:ZnR))),1))else ((ZHR a b).bind fun(e,c)=>bif ((c.Words.length:Int) == 0)then (some ((ZnK.mk (ZnP.mk false ([]:ZnR)) (ZnP.mk false ([]:ZnR))),8))else ((ZsP e c).bind fun f=>bif (decide ((if (f.Den.Words.length:Int) > (f.Num.Words.length:Int)then (f.Den.Words.length:Int)else (f.Num.Words.length:Int)) > 256))then (some ((ZnK.mk (ZnP.mk false ([]:ZnR)) (ZnP.mk false ([]:ZnR))),3))else (some (f,0))))
def ZyA (a b:ZnK):ZG5:=(Zrh a).bind fun q=>bif (!q)then (ZsX true a b false false ([]:ZnR) ([]:ZnR))else ((Zrh b).bind fun c=>ZsX (!c) a b false false ([]:ZnR) ([]:ZnR))
def ZGi (a b:ZnK):ZG5:=(ZyA a b).bind fun(q,c)=>some (q,c)
def ZHM (a b:ZnK):Option ZnK:=(ZGi a b).bind fun(q,c)=>(ZCu q c).bind fun d=>some d
def Zr5 (a k h:Bool) (c u j:ZnK) (g i:ZnR):ZS1:=bif a then ((Zzm).bind fun q=>some (q,0,false))else ((ZE3 c c).bind fun b=>(ZE3 u j).bind fun d=>(ZHM b d).bind fun f=>(ZF7 c).bind fun e=>some (f,e,true))
def ZyK (m:Zn0):ZS1:=(ZsQ m.N m.XY m.X m.Y).bind fun c=>(ZsQ m.N m.XX m.X m.X).bind fun u=>(ZsQ m.N m.YY m.Y m.Y).bind fun a=>bif (decide (m.N < 3))then (Zr5 true false false c u a ([]:ZnR) ([]:ZnR))else ((ZF7 u).bind fun q=>bif (q == 0)then (Zr5 true false false c u a ([]:ZnR) ([]:ZnR))else ((ZF7 a).bind fun b=>Zr5 (b == 0) false false c u a ([]:ZnR) ([]:ZnR)))
def Zym:Option Bool:=some true
def Ztm (d:ZnR->Int->Int->ZnP->ZwZ) (c:ZnR) (a i:Int) (b:ZnP):ZwZ:=bif (decide (i < a))then ((idx c i).bind fun e=>(idx b.Words i).bind fun Word=>bif (Word != e)then (some (.ret false))else (chk (inK .i64 (i+1)) <|d c a (i+1) b))else (some (.brk ()))
def ZuF:Nat->ZnR->Int->Int->ZnP->ZwZ
 |0,_,_,_,_=>none
 |n_+1,t22,t23,i,b=>Ztm (ZuF n_) t22 t23 i b
def ZBX (n:Nat) (s:(ZnR×Int×Int×ZnP)):ZwZ:=ZuF n s.1 s.2.1 s.2.2.1 s.2.2.2
def Zw3 (a:(ZnR×Int×Int×ZnP)->ZwZ) (s:(ZnR×Int×Int×ZnP)):ZwZ:=Ztm (fun d c i b=>a (d,c,i,b)) s.1 s.2.1 s.2.2.1 s.2.2.2
theorem ZFQ:∀n s,ZBX (n+1) s=Zw3 (ZBX n) s:=fun _ _=>rfl
def ZuG (c:Bool) (a b:ZnP):Option Bool:=bif c then (some false)else ((ZuF big a.Words (a.Words.length:Int) (0:Int) b).bind fun
 | .ret d=>some d
 | .brk ()=>Zym)
def ZtE (a b:ZnP):Option Bool:=bif (!(a.Neg == b.Neg))then (ZuG true a b)else (ZuG ((a.Words.length:Int) != (b.Words.length:Int)) a b)
def Zwy (a:Bool):Option Bool:=some a
def ZoW (a b:ZnK):Option Bool:=(ZtE a.Num b.Num).bind fun q=>bif q then ((ZtE a.Den b.Den).bind fun c=>Zwy c)else (Zwy false)
def Zs8 (a:Bool):Option Bool:=some a
def Zrx:Option Bool:=(Zy8).bind fun q=>(ZCY q).bind fun c=>(ZyK c).bind fun(s,a,e)=>bif e then (bif (a == 1)then ((Zod 1).bind fun b=>(ZoW s b).bind fun d=>Zs8 d)else (Zs8 false))else (Zs8 false)
def ZD8 (t:ZnR):Option ZnJ:=some (ZnJ.mk t 0)
def Zwk (n m:Int):Option Int:=bif (decide (m < 1))then (some (0:Int))else (chk (decide (m≠0)) <|chk (inK .i64 ((Int.tmod n m)+m)) <|chk (decide (m≠0)) <|some (Int.tmod ((Int.tmod n m)+m) m))
def ZnW (d:ZnJ) (n:Int):Option (Int×ZnJ):=bif (decide (d.at_>=(d.l.length:Int)))then (some (0,d))else (chk (inK .i64 (d.at_+1)) <|chk (inK .i64 ((d.at_+1) - 1)) <|(idx d.l ((d.at_+1) - 1)).bind fun a=>(Zwk a n).bind fun q=>some (q,(ZnJ.mk d.l (d.at_+1))))
def Zou (d:ZnJ) (l:ZEq):Option (Str×ZnJ):=(ZnW d (l.length:Int)).bind fun(q,b)=>(idx l q).bind fun a=>some (a,b)
def ZxP (d:ZnJ):ZZl:=(ZnW d 7).bind fun(q,b)=>bif (q == 1)then (some ((G_api_Cell.mk true ([]:Str)),b))else ((Zou b ([([97]:Str),([98]:Str),([99]:Str),([49]:Str),([50]:Str),([51]:Str),([49,48]:Str),([120]:Str),([45,49,46,53]:Str),([50]:Str)]:ZEq)).bind fun(a,c)=>some ((G_api_Cell.mk false a),c))
def ZC0 (n:Int):Option Str:=some (Lib.itoa n)
def Ztz (d:ZnJ):ZZl:=(ZnW d 9).bind fun(q,c)=>bif (q == 1)then (some ((G_api_Cell.mk true ([]:Str)),c))else (bif (q == 2)then ((Zou c ([([120]:Str),([]:Str),([49,46,50,46,51]:Str),([49,46,53,48]:Str)]:ZEq)).bind fun(b,e)=>some ((G_api_Cell.mk false b),e))else ((ZnW c 12).bind fun(a,f)=>chk (inK .i64 (a - 3)) <|(ZC0 (a - 3)).bind fun g=>some ((G_api_Cell.mk false g),f)))
def ZAN (d:ZnJ) (e c:Str) (b a:ZCq):ZZm:=some ((G_api_Column.mk c a),d)
def ZqD (f:ZZM) (e g i:Int) (d:ZnJ) (j c:Str) (h:G_api_Cell) (a b:ZCq):ZOs:=chk (Zi5 (b.length+([h]:ZCq).length) 24) <|chk (inK .i64 (i+1)) <|f e g (i+1) d j c a (b++([h]:ZCq))
def Zvs (e:ZZM) (a g i:Int) (d:ZnJ) (k c:Str) (b f:ZCq):ZOs:=bif (decide (i < g))then ((ZxP d).bind fun(o,h)=>bif (a == 0)then ((Ztz h).bind fun(j,m)=>ZqD e a g i m k c j b f)else (bif (a == 1)then ((ZC0 i).bind fun q=>chk (decide (([107]:Str).length+q.length<=Zq)) <|ZqD e a g i h k c (G_api_Cell.mk false (([107]:Str)++q)) b f)else (bif (a == 2)then ((Zou h ([([97]:Str),([98]:Str),([99]:Str),([100]:Str)]:ZEq)).bind fun(l,n)=>ZqD e a g i n k c (G_api_Cell.mk false l) b f)else (ZqD e a g i h k c o b f))))else (some (d,k,c,b,f))
def ZtM:Nat->Int->Int->Int->ZnJ->Str->Str->ZCq->ZCq->ZOs
 |0,_,_,_,_,_,_,_,_=>none
 |n_+1,kind,t15,i,d,t4,c,t4_1,c_1=>Zvs (ZtM n_) kind t15 i d t4 c t4_1 c_1
def ZDx (n:Nat) (s:(Int×Int×Int×ZnJ×Str×Str×ZCq×ZCq)):ZOs:=ZtM n s.1 s.2.1 s.2.2.1 s.2.2.2.1 s.2.2.2.2.1 s.2.2.2.2.2.1 s.2.2.2.2.2.2.1 s.2.2.2.2.2.2.2
def Zza (e:(Int×Int×Int×ZnJ×Str×Str×ZCq×ZCq)->ZOs) (s:(Int×Int×Int×ZnJ×Str×Str×ZCq×ZCq)):ZOs:=Zvs (fun b g i d h c a f=>e (b,g,i,d,h,c,a,f)) s.1 s.2.1 s.2.2.1 s.2.2.2.1 s.2.2.2.2.1 s.2.2.2.2.2.1 s.2.2.2.2.2.2.1 s.2.2.2.2.2.2.2
theorem ZGY:∀n s,ZDx (n+1) s=Zza (ZDx n) s:=fun _ _=>rfl
def ZrW (d:ZnJ) (b:Int):ZZm:=(Zou d ([([105,100]:Str),([110,97,109,101]:Str),([85,110,105,116,32,80,114,105,99,101]:Str),([99,105,116,121]:Str),([117,110,105,116]:Str),([112,114,105,99,101]:Str),([105,100,50]:Str),([]:Str)]:ZEq)).bind fun(q,e)=>(ZnW e 5).bind fun(a,c)=>(ZtM big a b (0:Int) c ([]:Str) q ([]:ZCq) ([]:ZCq)).bind fun(f,h,i,g,j)=>ZAN f h i g j
def ZxE (d:ZnJ) (f:Int) (e:Str) (t:Int) (a:Str) (c b:ZoU):ZRs:=some ((G_api_Table.mk t a b),d)
def ZBx (d:ZnJ) (g:Int) (b:Str) (t:Int) (c:Str) (a f:ZoU):ZRs:=(ZnW d 15).bind fun(q,e)=>bif (q == 1)then (ZxE e g b t c a ([]:ZoU))else (ZxE e g b t c a f)
def ZzN (g:Int->Int->ZnJ->Int->Str->Int->Str->ZoU->ZoU->ZP8) (c k:Int) (d:ZnJ) (i:Int) (b:Str) (t:Int) (f:Str) (a e:ZoU):ZP8:=bif (decide (k > 0))then ((ZrW d c).bind fun(q,h)=>chk (Zi5 (e.length+([q]:ZoU).length) 40) <|chk (inK .i64 (k - 1)) <|g c (k - 1) h i b t f a (e++([q]:ZoU)))else (some (d,i,b,t,f,a,e))
def ZxD:Nat->Int->Int->ZnJ->Int->Str->Int->Str->ZoU->ZoU->ZP8
 |0,_,_,_,_,_,_,_,_,_=>none
 |n_+1,rows,k,d,t4,t4_1,t,t_1,t4_2,t_2=>ZzN (ZxD n_) rows k d t4 t4_1 t t_1 t4_2 t_2
def ZD6 (n:Nat) (s:(Int×Int×ZnJ×Int×Str×Int×Str×ZoU×ZoU)):ZP8:=ZxD n s.1 s.2.1 s.2.2.1 s.2.2.2.1 s.2.2.2.2.1 s.2.2.2.2.2.1 s.2.2.2.2.2.2.1 s.2.2.2.2.2.2.2.1 s.2.2.2.2.2.2.2.2
def ZD7 (e:(Int×Int×ZnJ×Int×Str×Int×Str×ZoU×ZoU)->ZP8) (s:(Int×Int×ZnJ×Int×Str×Int×Str×ZoU×ZoU)):ZP8:=ZzN (fun c k d h b t g a f=>e (c,k,d,h,b,t,g,a,f)) s.1 s.2.1 s.2.2.1 s.2.2.2.1 s.2.2.2.2.1 s.2.2.2.2.2.1 s.2.2.2.2.2.2.1 s.2.2.2.2.2.2.2.1 s.2.2.2.2.2.2.2.2
theorem ZHs:∀n s,ZD6 (n+1) s=ZD7 (ZD6 n) s:=fun _ _=>rfl
def ZwS (d:ZnJ) (m:Int):ZRs:=(Zou d ([([116]:Str),([111,114,100,101,114,115]:Str),([]:Str)]:ZEq)).bind fun(q,f)=>(ZnW f 7).bind fun(b,c)=>(ZnW c 3).bind fun(a,e)=>chk (inK .i64 (1+a)) <|(ZxD big b (1+a) e (0:Int) ([]:Str) m q ([]:ZoU) ([]:ZoU)).bind fun(g,j,l,i,n,k,h)=>ZBx g j l i n k h
def ZwU (d:ZnJ) (e b:Int) (a:Str) (c:ZnR):ZP0:=some ((Zn6.mk e b a c),d)
def ZsD (d:ZnJ) (h g:Int) (e:Str) (o c:Int) (a:Str) (f b:ZnR):ZP0:=ZwU d o c a b
def ZC4 (d:ZnJ) (h g:Int) (e:Str) (o c:Int) (a:Str) (f b:ZnR):ZP0:=ZwU d o c a b
def ZAg (g:Tf_9) (n k:Int) (j:Bool) (d:ZnJ) (l c:Int) (a:Str) (o h:Int) (f:Str) (b e:ZnR):ZVQ:=bif j then ((ZnW d n).bind fun(q,i)=>chk (Zi5 (e.length+([q]:ZnR).length) 8) <|chk (inK .i64 (k - 1)) <|g n (k - 1) i l c a o h f b (e++([q]:ZnR)))else (some (d,l,c,a,o,h,f,b,e))
def ZB2 (e:Tf_9) (n k:Int) (d:ZnJ) (i c:Int) (a:Str) (o h:Int) (f:Str) (b g:ZnR):ZVQ:=bif (decide (k > 0))then (ZAg e n k (decide (n > 0)) d i c a o h f b g)else (ZAg e n k false d i c a o h f b g)
def ZwT:Nat->Int->Int->ZnJ->Int->Int->Str->Int->Int->Str->ZnR->ZnR->ZVQ
 |0,_,_,_,_,_,_,_,_,_,_,_=>none
 |n_+1,n,k,d,t4,t4_1,t4_2,o,o_1,o_2,t4_3,o_3=>ZB2 (ZwT n_) n k d t4 t4_1 t4_2 o o_1 o_2 t4_3 o_3
def ZFj (n:Nat) (s:(Int×Int×ZnJ×Int×Int×Str×Int×Int×Str×ZnR×ZnR)):ZVQ:=ZwT n s.1 s.2.1 s.2.2.1 s.2.2.2.1 s.2.2.2.2.1 s.2.2.2.2.2.1 s.2.2.2.2.2.2.1 s.2.2.2.2.2.2.2.1 s.2.2.2.2.2.2.2.2.1 s.2.2.2.2.2.2.2.2.2.1 s.2.2.2.2.2.2.2.2.2.2
def ZFk (e:(Int×Int×ZnJ×Int×Int×Str×Int×Int×Str×ZnR×ZnR)->ZVQ) (s:(Int×Int×ZnJ×Int×Int×Str×Int×Int×Str×ZnR×ZnR)):ZVQ:=ZB2 (fun n k d i c a o h f b g=>e (n,k,d,i,c,a,o,h,f,b,g)) s.1 s.2.1 s.2.2.1 s.2.2.2.1 s.2.2.2.2.1 s.2.2.2.2.2.1 s.2.2.2.2.2.2.1 s.2.2.2.2.2.2.2.1 s.2.2.2.2.2.2.2.2.1 s.2.2.2.2.2.2.2.2.2.1 s.2.2.2.2.2.2.2.2.2.2
theorem ZIi:∀n s,ZFj (n+1) s=ZFk (ZFj n) s:=fun _ _=>rfl
def ZwV (n k:Int) (i:Bool) (d:ZnJ) (j b:Int) (a:Str) (o g:Int) (f:Str) (c e:ZnR):ZP0:=bif i then ((ZnW d n).bind fun(q,m)=>ZsD m j b a o q f c e)else (bif (k == 3)then ((ZnW d 3).bind fun(h,l)=>chk (inK .i64 (1+h)) <|(ZwT big n (1+h) l j b a o g f c e).bind fun(s,x,r,p,y,v,t,u,w)=>ZC4 s x r p y v t u w)else (ZsD d j b a o g f c e))
def ZsE (h:Bool) (d:ZnJ) (t:G_api_Table) (j e:Int) (b:Str) (o a:Int) (i:Str) (c f:ZnR):ZP0:=bif h then ((idx t.Columns a).bind fun Column=>(idx t.Columns a).bind fun Column_1=>(ZnW d (Column_1.Cells.length:Int)).bind fun(q,g)=>(idx Column.Cells q).bind fun Cell=>ZsD g j e b o a Cell.Text c f)else (ZsD d j e b o a i c f)
def ZzO (d:ZnJ) (t:G_api_Table):ZP0:=(ZnW d 5).bind fun(q,t8)=>chk (inK .i64 (1+q)) <|bif ((1+q) == 1)then ((ZnW t8 (t.Columns.length:Int)).bind fun(q_1,t19)=>(Zou t19 ([([97]:Str),([98]:Str),([49]:Str),([50]:Str),([107,48]:Str),([]:Str)]:ZEq)).bind fun(q_2,t23)=>bif (decide ((t.Columns.length:Int) > 0))then ((idx t.Columns q_1).bind fun Column=>bif (decide ((Column.Cells.length:Int) > 0))then ((ZnW t23 3).bind fun(q_3,t41)=>ZsE (decide (q_3 > 0)) t41 t (0:Int) (0:Int) ([]:Str) (1+q) q_1 q_2 ([]:ZnR) ([]:ZnR))else (ZsE false t23 t (0:Int) (0:Int) ([]:Str) (1+q) q_1 q_2 ([]:ZnR) ([]:ZnR)))else (ZsE false t23 t (0:Int) (0:Int) ([]:Str) (1+q) q_1 q_2 ([]:ZnR) ([]:ZnR)))else (bif ((1+q) == 2)then (ZwV (t.Columns.length:Int) (1+q) ((1+q) == 2) t8 (0:Int) (0:Int) ([]:Str) (1+q) (0:Int) ([]:Str) ([]:ZnR) ([]:ZnR))else (ZwV (t.Columns.length:Int) (1+q) ((1+q) == 5) t8 (0:Int) (0:Int) ([]:Str) (1+q) (0:Int) ([]:Str) ([]:ZnR) ([]:ZnR)))
def ZoK (s:Str):Option Int:=(idx s 0).bind fun c=>(idx s 1).bind fun e=>chk (decide (0<=(8:Int))) <|(idx s 2).bind fun d=>chk (decide (0<=(16:Int))) <|(idx s 3).bind fun f=>chk (decide (0<=(24:Int))) <|(idx s 4).bind fun g=>chk (decide (0<=(32:Int))) <|(idx s 5).bind fun h=>chk (decide (0<=(40:Int))) <|(idx s 6).bind fun a=>chk (decide (0<=(48:Int))) <|(idx s 7).bind fun b=>chk (decide (0<=(56:Int))) <|some (orK .u64 (orK .u64 (orK .u64 (orK .u64 (orK .u64 (orK .u64 (orK .u64 (IntKind.wrap .u64 ((c.toNat:Nat):Int)) (shlK .u64 (IntKind.wrap .u64 ((e.toNat:Nat):Int)) 8)) (shlK .u64 (IntKind.wrap .u64 ((d.toNat:Nat):Int)) 16)) (shlK .u64 (IntKind.wrap .u64 ((f.toNat:Nat):Int)) 24)) (shlK .u64 (IntKind.wrap .u64 ((g.toNat:Nat):Int)) 32)) (shlK .u64 (IntKind.wrap .u64 ((h.toNat:Nat):Int)) 40)) (shlK .u64 (IntKind.wrap .u64 ((a.toNat:Nat):Int)) 48)) (shlK .u64 (IntKind.wrap .u64 ((b.toNat:Nat):Int)) 56))
def Zyd:Option Bool:=some true
def Zoo (a:ZNG) (s:Str) (b:Bool):ZwZ:=bif b then (some (.ret false))else (chk (Zca 4 (s.length:Int) (s.length:Int)) <|a (s.drop ((4:Int)).toNat))
def Zo2 (a:ZNG) (s:Str) (b:Bool):ZwZ:=bif b then (some (.ret false))else (chk (Zca 3 (s.length:Int) (s.length:Int)) <|a (s.drop ((3:Int)).toNat))
def ZqJ (a:ZNG) (s:Str) (b:Bool):ZwZ:=bif b then (some (.ret false))else (chk (Zca 2 (s.length:Int) (s.length:Int)) <|a (s.drop ((2:Int)).toNat))
def Zsf (a:ZNG) (s:Str):ZwZ:=a s
def Zye (a:ZNG) (s:Str):ZwZ:=a s
def Zuy (a:ZNH) (s:Str) (b:Bool):Option Str:=bif b then (chk (Zca 32 (s.length:Int) (s.length:Int)) <|a (s.drop ((32:Int)).toNat))else (some s)
def Zw1 (a:ZNH) (s:Str):Option Str:=bif (decide ((s.length:Int) > 32))then ((ZoK s).bind fun q=>chk (Zca 8 (s.length:Int) (s.length:Int)) <|(ZoK (s.drop ((8:Int)).toNat)).bind fun b=>chk (Zca 16 (s.length:Int) (s.length:Int)) <|(ZoK (s.drop ((16:Int)).toNat)).bind fun d=>chk (Zca 24 (s.length:Int) (s.length:Int)) <|(ZoK (s.drop ((24:Int)).toNat)).bind fun c=>Zuy a s ((andK .u64 (orK .u64 (orK .u64 q b) (orK .u64 d c)) 9259542123273814144) == 0))else (Zuy a s false)
def ZqI:Nat->Str->Option Str
 |0,_=>none
 |n_+1,s=>Zw1 (ZqI n_) s
def Zsg (a:ZNG) (s:Str) (b:Bool):ZwZ:=bif b then (chk (Zca 16 (s.length:Int) (s.length:Int)) <|(ZqI big (s.drop ((16:Int)).toNat)).bind fun c=>Zye a c)else (Zsf a s)
def Zsh (a:ZNG) (s:Str) (c:Bool):ZwZ:=bif c then (chk (Zca 8 (s.length:Int) (s.length:Int)) <|bif (decide (((s.drop ((8:Int)).toNat).length:Int) > 16))then ((ZoK (s.drop ((8:Int)).toNat)).bind fun q=>chk (Zca 8 ((s.drop ((8:Int)).toNat).length:Int) ((s.drop ((8:Int)).toNat).length:Int)) <|(ZoK ((s.drop ((8:Int)).toNat).drop ((8:Int)).toNat)).bind fun b=>Zsg a (s.drop ((8:Int)).toNat) ((andK .u64 (orK .u64 q b) 9259542123273814144) == 0))else (Zsg a (s.drop ((8:Int)).toNat) false))else (Zsf a s)
def Zw2 (a:ZNG) (s:Str):ZwZ:=bif (decide ((s.length:Int) > 0))then ((idx s 0).bind fun c=>bif (decide (((c.toNat:Nat):Int) < 128))then (chk (Zca 1 (s.length:Int) (s.length:Int)) <|bif (decide (((s.drop ((1:Int)).toNat).length:Int) > 8))then ((ZoK (s.drop ((1:Int)).toNat)).bind fun q=>Zsh a (s.drop ((1:Int)).toNat) ((andK .u64 q 9259542123273814144) == 0))else (Zsh a (s.drop ((1:Int)).toNat) false))else (chk (inR ((c.toNat:Nat):Int) 256) <|(tabB (car:=ZBM) (.int .u8) ZFN ((((c.toNat:Nat):Int)).toNat*1)).bind fun b=>chk (decide (0<=(4:Int))) <|chk (inR (shrK .u8 b 4) 16) <|(tabB (car:=ZBM) (.int .u8) ZwY (((shrK .u8 b 4)).toNat*2)).bind fun d=>(tabB (car:=ZBM) (.int .u8) ZwY (((shrK .u8 b 4)).toNat*2+1)).bind fun e=>bif ((IntKind.wrap .i64 (andK .u8 b 7)) == 2)then (bif (decide ((s.length:Int) < 2))then (ZqJ a s true)else ((idx s 1).bind fun p=>bif (decide (((p.toNat:Nat):Int) < d))then (ZqJ a s true)else ((idx s 1).bind fun r=>ZqJ a s (decide (e < ((r.toNat:Nat):Int))))))else (bif ((IntKind.wrap .i64 (andK .u8 b 7)) == 3)then (bif (decide ((s.length:Int) < 3))then (Zo2 a s true)else ((idx s 1).bind fun m=>bif (decide (((m.toNat:Nat):Int) < d))then (Zo2 a s true)else ((idx s 1).bind fun n=>bif (decide (e < ((n.toNat:Nat):Int)))then (Zo2 a s true)else ((idx s 2).bind fun o=>bif (decide (((o.toNat:Nat):Int) < 128))then (Zo2 a s true)else ((idx s 2).bind fun l=>Zo2 a s (decide ((191:Int) < ((l.toNat:Nat):Int))))))))else (bif ((IntKind.wrap .i64 (andK .u8 b 7)) == 4)then (bif (decide ((s.length:Int) < 4))then (Zoo a s true)else ((idx s 1).bind fun i=>bif (decide (((i.toNat:Nat):Int) < d))then (Zoo a s true)else ((idx s 1).bind fun k=>bif (decide (e < ((k.toNat:Nat):Int)))then (Zoo a s true)else ((idx s 2).bind fun g=>bif (decide (((g.toNat:Nat):Int) < 128))then (Zoo a s true)else ((idx s 2).bind fun f=>bif (decide ((191:Int) < ((f.toNat:Nat):Int)))then (Zoo a s true)else ((idx s 3).bind fun j=>bif (decide (((j.toNat:Nat):Int) < 128))then (Zoo a s true)else ((idx s 3).bind fun h=>Zoo a s (decide ((191:Int) < ((h.toNat:Nat):Int))))))))))else (some (.ret false))))))else (some (.brk ()))
def Zn8:Nat->Str->ZwZ
 |0,_=>none
 |n_+1,s=>Zw2 (Zn8 n_) s
def ZqA (s:Str):Option Bool:=(Zn8 big s).bind fun
 | .ret a=>some a
 | .brk ()=>Zyd
def ZuR (s:Str):Option Bool:=(ZqA s).bind fun q=>some q
def ZwB (a:Bool):Option Bool:=some a
def ZvR (s:Str):Option Bool:=(ZuR s).bind fun q=>bif q then (ZwB (decide ((s.length:Int)<=1024)))else (ZwB false)
def Zp8 (a:Bool):Option Bool:=some a
def Zvn (c:G_api_Cell):Option Bool:=(ZuR c.Text).bind fun q=>bif q then (bif (decide ((c.Text.length:Int)<=1024))then (bif (!c.Null)then (Zp8 true)else (Zp8 (c.Text == ([]:Str))))else (Zp8 false))else (Zp8 false)
def ZzB:Option Bool:=some true
def ZzC (b:ZV1) (c:ZoU) (d a:Int) (t:G_api_Table):ZwZ:=chk (inK .i64 (a+1)) <|b c d (a+1) t
def Zyn (g:ZoU->Int->Int->ZCq->Int->Int->G_api_Table->ZVT) (b:ZoU) (d f:Int) (e:ZCq) (c a:Int) (t:G_api_Table):ZVT:=bif (decide (a < c))then ((idx e a).bind fun h=>(Zvn h).bind fun q=>bif (!q)then (some (.ret false))else (chk (inK .i64 (a+1)) <|g b d f e c (a+1) t))else (some (.brk (b,d,f,t)))
def Zs1:Nat->ZoU->Int->Int->ZCq->Int->Int->G_api_Table->ZVT
 |0,_,_,_,_,_,_,_=>none
 |n_+1,t28,t29,t30,t57,t58,t59,t=>Zyn (Zs1 n_) t28 t29 t30 t57 t58 t59 t
def Zrp (a:ZV1) (b:ZoU) (d f:Int) (e:Bool) (t:G_api_Table) (c:G_api_Column):ZwZ:=bif e then (some (.ret false))else ((Zs1 big b d f c.Cells (c.Cells.length:Int) (0:Int) t).bind fun
 | .ret g=>some (.ret g)
 | .brk (x0,x1,x2,x3)=>ZzC a x0 x1 x2 x3)
def Zyo (b:ZV1) (d:ZoU) (e a:Int) (t:G_api_Table):ZwZ:=bif (decide (a < e))then ((idx d a).bind fun c=>(ZvR c.Name).bind fun q=>bif (!q)then (Zrp b d e a true t c)else (bif (decide ((c.Cells.length:Int) > 4096))then (Zrp b d e a true t c)else ((idx t.Columns 0).bind fun Column=>Zrp b d e a ((c.Cells.length:Int) != (Column.Cells.length:Int)) t c)))else (some (.brk ()))
def Zpt:Nat->ZoU->Int->Int->G_api_Table->ZwZ
 |0,_,_,_,_=>none
 |n_+1,t28,t29,t30,t=>Zyo (Zpt n_) t28 t29 t30 t
def Zrq (a:Bool) (t:G_api_Table):Option Bool:=bif a then (some false)else ((Zpt big t.Columns (t.Columns.length:Int) (0:Int) t).bind fun
 | .ret b=>some b
 | .brk ()=>ZzB)
def Zqp (t:G_api_Table):Option Bool:=bif (decide (t.ID < 0))then (Zrq true t)else (bif (decide (t.ID > 1073741824))then (Zrq true t)else ((ZvR t.Name).bind fun q=>bif (!q)then (Zrq true t)else (Zrq (decide ((t.Columns.length:Int) > 64)) t)))
def Zso (a:Bool):Option Bool:=some a
def Zua (a:Bool):Option Bool:=some a
def ZBc (o:Zn6):Option Bool:=bif (o.Column == 0)then (bif (o.Text == ([]:Str))then (Zua (decide ((o.Columns.length:Int)<=64)))else (Zua false))else (Zua false)
def Zub (a:Bool):Option Bool:=some a
def Zxf (b:ZZG) (c:ZnR) (e a:Int) (d:Bool) (t:G_api_Table) (o:Zn6):ZOl:=bif d then (some (.ret false))else (chk (inK .i64 (a+1)) <|b c e (a+1) t o)
def ZvD (b:ZZG) (c:ZnR) (d a:Int) (t:G_api_Table) (o:Zn6):ZOl:=bif (decide (a < d))then ((idx c a).bind fun k=>bif (decide (k < 0))then (Zxf b c d a true t o)else (Zxf b c d a (decide (k>=(t.Columns.length:Int))) t o))else (some (.brk o))
def Zt9:Nat->ZnR->Int->Int->G_api_Table->Zn6->ZOl
 |0,_,_,_,_,_=>none
 |n_+1,t54,t55,t56,t,o=>ZvD (Zt9 n_) t54 t55 t56 t o
def ZDJ (n:Nat) (s:(ZnR×Int×Int×G_api_Table×Zn6)):ZOl:=Zt9 n s.1 s.2.1 s.2.2.1 s.2.2.2.1 s.2.2.2.2
def Zzq (a:(ZnR×Int×Int×G_api_Table×Zn6)->ZOl) (s:(ZnR×Int×Int×G_api_Table×Zn6)):ZOl:=ZvD (fun c d b t o=>a (c,d,b,t,o)) s.1 s.2.1 s.2.2.1 s.2.2.2.1 s.2.2.2.2
theorem ZHf:∀n s,ZDJ (n+1) s=Zzq (ZDJ n) s:=fun _ _=>rfl
def Zuc (a:Bool) (c:Int) (b:Bool) (t:G_api_Table) (o:Zn6):Option Bool:=bif b then (bif a then (bif ((o.Columns.length:Int) == 0)then (Zub (o.Text == ([]:Str)))else (Zub false))else (Zub false))else (bif (c == 3)then ((Zt9 big o.Columns (o.Columns.length:Int) (0:Int) t o).bind fun
 | .ret e=>some e
 | .brk d=>ZBc d)else (bif (o.Kind == 4)then (bif (o.Column == 0)then (bif (o.Text == ([]:Str))then (Zso ((o.Columns.length:Int) == 0))else (Zso false))else (Zso false))else (Zso false)))
def Zud (a:Bool):Option Bool:=some a
def Zue (a:Bool) (t:G_api_Table) (o:Zn6):Option Bool:=bif (o.Kind == 1)then (bif a then (bif ((o.Columns.length:Int) == 0)then (Zud (decide ((o.Text.length:Int)<=1024)))else (Zud false))else (Zud false))else (bif (o.Kind == 2)then (Zuc a o.Kind (o.Kind == 2) t o)else (Zuc a o.Kind (o.Kind == 5) t o))
def Zz7 (t:G_api_Table) (o:Zn6):Option Bool:=bif (decide (o.Column>=0))then (Zue (decide (o.Column < (t.Columns.length:Int))) t o)else (Zue false t o)
def Zyp (a:ZnR) (g:Int) (f:Str) (d:Int) (c:Str) (e b:ZoU):ZOk:=bif (decide ((a.length:Int) > 64))then (some ((G_api_Table.mk 0 ([]:Str) ([]:ZoU)),3))else (some ((G_api_Table.mk d c b),0))
def ZuH (g:ZZU) (a:ZnR) (k:Int) (h:ZnR) (i f:Int) (j:Bool) (t:G_api_Table) (m:Int) (e:Str) (l:Int) (c:Str) (d b:ZoU):ZVO:=bif j then (some (.ret ((G_api_Table.mk 0 ([]:Str) ([]:ZoU)),2)))else ((idx t.Columns k).bind fun Column=>chk (Zi5 (b.length+([Column]:ZoU).length) 40) <|chk (inK .i64 (f+1)) <|g a h i (f+1) t m e l c d (b++([Column]:ZoU)))
def Zto (g:ZZU) (a h:ZnR) (i f:Int) (t:G_api_Table) (l:Int) (e:Str) (j:Int) (c:Str) (d b:ZoU):ZVO:=bif (decide (f < i))then ((idx h f).bind fun k=>bif (decide (k < 0))then (ZuH g a k h i f true t l e j c d b)else (ZuH g a k h i f (decide (k>=(t.Columns.length:Int))) t l e j c d b))else (some (.brk (a,l,e,j,c,d,b)))
def Zsi:Nat->ZnR->ZnR->Int->Int->G_api_Table->Int->Str->Int->Str->ZoU->ZoU->ZVO
 |0,_,_,_,_,_,_,_,_,_,_,_=>none
 |n_+1,columns,t18,t19,t20,t,t4,t4_1,out,out_1,t4_2,out_2=>Zto (Zsi n_) columns t18 t19 t20 t t4 t4_1 out out_1 t4_2 out_2
def ZBY (n:Nat) (s:(ZnR×ZnR×Int×Int×G_api_Table×Int×Str×Int×Str×ZoU×ZoU)):ZVO:=Zsi n s.1 s.2.1 s.2.2.1 s.2.2.2.1 s.2.2.2.2.1 s.2.2.2.2.2.1 s.2.2.2.2.2.2.1 s.2.2.2.2.2.2.2.1 s.2.2.2.2.2.2.2.2.1 s.2.2.2.2.2.2.2.2.2.1 s.2.2.2.2.2.2.2.2.2.2
def Zw7 (f:(ZnR×ZnR×Int×Int×G_api_Table×Int×Str×Int×Str×ZoU×ZoU)->ZVO) (s:(ZnR×ZnR×Int×Int×G_api_Table×Int×Str×Int×Str×ZoU×ZoU)):ZVO:=Zto (fun a g h j t k e i c d b=>f (a,g,h,j,t,k,e,i,c,d,b)) s.1 s.2.1 s.2.2.1 s.2.2.2.1 s.2.2.2.2.1 s.2.2.2.2.2.1 s.2.2.2.2.2.2.1 s.2.2.2.2.2.2.2.1 s.2.2.2.2.2.2.2.2.1 s.2.2.2.2.2.2.2.2.2.1 s.2.2.2.2.2.2.2.2.2.2
theorem ZFR:∀n s,ZBY (n+1) s=Zw7 (ZBY n) s:=fun _ _=>rfl
def ZwC (t:G_api_Table) (a:ZnR):ZOk:=(Zqp t).bind fun q=>bif (!q)then (some ((G_api_Table.mk 0 ([]:Str) ([]:ZoU)),1))else ((Zsi big a a (a.length:Int) (0:Int) t (0:Int) ([]:Str) t.ID t.Name ([]:ZoU) ([]:ZoU)).bind fun
 | .ret b=>some b
 | .brk (x0,x1,x2,x3,x4,x5,x6)=>Zyp x0 x1 x2 x3 x4 x5 x6)
def ZvT (t:G_api_Table):Option Int:=bif ((t.Columns.length:Int) == 0)then (some (0:Int))else ((idx t.Columns 0).bind fun Column=>some (Column.Cells.length:Int))
def Zzp:Option Bool:=some true
def Zuz (e:Int->Int->ZoU->Int->Int->ZwZ) (f y:Int) (d:ZoU) (b a:Int):ZwZ:=bif (decide (a < b))then ((idx d a).bind fun c=>(idx c.Cells f).bind fun Cell=>(idx c.Cells y).bind fun Cell_1=>bif (!(Cell.Null == Cell_1.Null&&(Cell.Text == Cell_1.Text&&true)))then (some (.ret false))else (chk (inK .i64 (a+1)) <|e f y d b (a+1)))else (some (.brk ()))
def ZvC:Nat->Int->Int->ZoU->Int->Int->ZwZ
 |0,_,_,_,_,_=>none
 |n_+1,x_,y,t10,t11,t12=>Zuz (ZvC n_) x_ y t10 t11 t12
def ZCG (n:Nat) (s:(Int×Int×ZoU×Int×Int)):ZwZ:=ZvC n s.1 s.2.1 s.2.2.1 s.2.2.2.1 s.2.2.2.2
def Zyf (a:(Int×Int×ZoU×Int×Int)->ZwZ) (s:(Int×Int×ZoU×Int×Int)):ZwZ:=Zuz (fun e y c b d=>a (e,y,c,b,d)) s.1 s.2.1 s.2.2.1 s.2.2.2.1 s.2.2.2.2
theorem ZGn:∀n s,ZCG (n+1) s=Zyf (ZCG n) s:=fun _ _=>rfl
def ZxX (t:G_api_Table) (b y:Int):Option Bool:=(ZvC big b y t.Columns (t.Columns.length:Int) (0:Int)).bind fun
 | .ret a=>some a
 | .brk ()=>Zzp
def Zqx (c:Bool) (a b:G_api_Cell):Option Int:=bif c then (some (0:Int))else (bif a.Null then (some (-1:Int))else (bif b.Null then (some (1:Int))else (bif (Op.bytesLess a.Text b.Text)then (some (-1:Int))else (bif (!((Op.bytesLess a.Text b.Text)||a.Text == b.Text))then (some (1:Int))else (some (0:Int))))))
def Ztp (a b:G_api_Cell):Option Int:=bif a.Null then (Zqx b.Null a b)else (Zqx false a b)
def ZAv (a:ZnR):Option ZnR:=some a
def Zwq (a:ZQd) (b d:Int) (t:G_api_Table) (o:Zn6) (c:ZnR):Option ZnR:=chk (inK .i64 (d+1)) <|a b (d+1) t o c
def ZrP (d:ZQd) (g b f c:Int) (e:Bool) (t:G_api_Table) (o:Zn6) (a:ZnR):Option ZnR:=bif e then (chk (Zca 0 b (a.length:Int)) <|chk (Zi5 ((a.drop 0).take ((b).toNat - 0)).length 8) <|chk (Zi5 (((a.drop 0).take ((b).toNat - 0)).length+([g]:ZnR).length) 8) <|chk (Zca b (a.length:Int) (a.length:Int)) <|chk (Zi5 ((((a.drop 0).take ((b).toNat - 0))++([g]:ZnR)).length+((a.drop ((b).toNat)).take ((a.length:Int).toNat - (b).toNat)).length) 8) <|Zwq d f c t o ((((a.drop 0).take ((b).toNat - 0))++([g]:ZnR))++((a.drop ((b).toNat)).take ((a.length:Int).toNat - (b).toNat))))else (Zwq d f c t o a)
def ZrQ (c:ZQd) (g d:Int) (a:Bool) (f b:Int) (t:G_api_Table) (o:Zn6) (e:ZnR):Option ZnR:=ZrP c g d f b a t o e
def ZAw (c:ZQd) (g d:Int) (a:Bool) (f b:Int) (t:G_api_Table) (o:Zn6) (e:ZnR):Option ZnR:=ZrP c g d f b a t o e
def ZAx (c:ZQd) (g d:Int) (a:Bool) (f b:Int) (t:G_api_Table) (o:Zn6) (e:ZnR):Option ZnR:=ZrP c g d f b a t o e
def Zws (d:ZZS) (i e:Int) (b:Bool) (h c f a:Int) (t:G_api_Table) (o:Zn6) (g:ZnR):ZKs:=chk (inK .i64 (a+1)) <|d i e b h c f (a+1) t o g
def Zvb (e:ZZS) (i f:Int) (d:Bool) (h c g a:Int) (t:G_api_Table) (o:Zn6) (b:ZnR):ZKs:=bif (decide (a < g))then (chk (inR a (b.length:Int)) <|(b[(a).toNat]?).bind fun j=>bif d then ((ZxX t j i).bind fun q=>Zws e i f (!q) h c g a t o b)else (Zws e i f false h c g a t o b))else (some (i,f,d,h,c,t,o,b))
def ZtC:Nat->Int->Int->Bool->Int->Int->Int->Int->G_api_Table->Zn6->ZnR->ZKs
 |0,_,_,_,_,_,_,_,_,_,_=>none
 |n_+1,r_,at_,keep,t14,r__1,t61,t62,t,o,out=>Zvb (ZtC n_) r_ at_ keep t14 r__1 t61 t62 t o out
def ZDh (n:Nat) (s:(Int×Int×Bool×Int×Int×Int×Int×G_api_Table×Zn6×ZnR)):ZKs:=ZtC n s.1 s.2.1 s.2.2.1 s.2.2.2.1 s.2.2.2.2.1 s.2.2.2.2.2.1 s.2.2.2.2.2.2.1 s.2.2.2.2.2.2.2.1 s.2.2.2.2.2.2.2.2.1 s.2.2.2.2.2.2.2.2.2
def ZyM (c:(Int×Int×Bool×Int×Int×Int×Int×G_api_Table×Zn6×ZnR)->ZKs) (s:(Int×Int×Bool×Int×Int×Int×Int×G_api_Table×Zn6×ZnR)):ZKs:=Zvb (fun i e a h b f d t o g=>c (i,e,a,h,b,f,d,t,o,g)) s.1 s.2.1 s.2.2.1 s.2.2.2.1 s.2.2.2.2.1 s.2.2.2.2.2.1 s.2.2.2.2.2.2.1 s.2.2.2.2.2.2.2.1 s.2.2.2.2.2.2.2.2.1 s.2.2.2.2.2.2.2.2.2
theorem ZGO:∀n s,ZDh (n+1) s=ZyM (ZDh n) s:=fun _ _=>rfl
def Zwr (g:ZZP) (h c:Int) (a:Bool) (l:ZCq) (f b:Int) (e:Bool) (t:G_api_Table) (o:Zn6) (d:ZnR):ZKs:=bif e then (chk (inK .i64 (c - 1)) <|g h (c - 1) a l f b t o d)else (some (h,c,a,f,b,t,o,d))
def ZyL (e:ZZP) (j a:Int) (c:Bool) (l:ZCq) (h d:Int) (t:G_api_Table) (o:Zn6) (b:ZnR):ZKs:=bif (decide (a > 0))then (chk (inK .i64 (a - 1)) <|chk (inR (a - 1) (b.length:Int)) <|(b[((a - 1)).toNat]?).bind fun g=>(idx l g).bind fun i=>(idx l j).bind fun f=>(Ztp i f).bind fun q=>Zwr e j a c l h d (decide (q > 0)) t o b)else (Zwr e j a c l h d false t o b)
def ZtB:Nat->Int->Int->Bool->ZCq->Int->Int->G_api_Table->Zn6->ZnR->ZKs
 |0,_,_,_,_,_,_,_,_,_=>none
 |n_+1,r_,at_,keep,l,t14,r__1,t,o,out=>ZyL (ZtB n_) r_ at_ keep l t14 r__1 t o out
def ZDf (n:Nat) (s:(Int×Int×Bool×ZCq×Int×Int×G_api_Table×Zn6×ZnR)):ZKs:=ZtB n s.1 s.2.1 s.2.2.1 s.2.2.2.1 s.2.2.2.2.1 s.2.2.2.2.2.1 s.2.2.2.2.2.2.1 s.2.2.2.2.2.2.2.1 s.2.2.2.2.2.2.2.2
def ZDg (c:(Int×Int×Bool×ZCq×Int×Int×G_api_Table×Zn6×ZnR)->ZKs) (s:(Int×Int×Bool×ZCq×Int×Int×G_api_Table×Zn6×ZnR)):ZKs:=ZyL (fun g d a l f b t o e=>c (g,d,a,l,f,b,t,o,e)) s.1 s.2.1 s.2.2.1 s.2.2.2.1 s.2.2.2.2.1 s.2.2.2.2.2.1 s.2.2.2.2.2.2.1 s.2.2.2.2.2.2.2.1 s.2.2.2.2.2.2.2.2
theorem ZGN:∀n s,ZDf (n+1) s=ZDg (ZDf n) s:=fun _ _=>rfl
def Zvc (b:ZQd) (d e:Int) (t:G_api_Table) (o:Zn6) (a:ZnR):Option ZnR:=bif (decide (e < d))then (bif (o.Kind == 1)then ((idx t.Columns o.Column).bind fun Column=>(idx Column.Cells e).bind fun c=>bif (!c.Null)then (ZrQ b e (a.length:Int) (c.Text == o.Text) d e t o a)else (ZrQ b e (a.length:Int) false d e t o a))else (bif (o.Kind == 2)then ((idx t.Columns o.Column).bind fun Column_1=>(idx Column_1.Cells e).bind fun Cell=>ZrQ b e (a.length:Int) (!Cell.Null) d e t o a)else (bif (o.Kind == 4)then ((ZtC big e (a.length:Int) true d e (a.length:Int) (0:Int) t o a).bind fun(f,j,l,i,m,k,g,h)=>ZAx b f j l i m k g h)else (bif (o.Kind == 5)then ((idx t.Columns o.Column).bind fun Column_2=>(ZtB big e (a.length:Int) true Column_2.Cells d e t o a).bind fun(f,j,l,i,m,k,g,h)=>ZAw b f j l i m k g h)else (ZrQ b e (a.length:Int) true d e t o a)))))else (some a)
def Zo9:Nat->Int->Int->G_api_Table->Zn6->ZnR->Option ZnR
 |0,_,_,_,_,_=>none
 |n_+1,t14,r_,t,o,out=>Zvc (Zo9 n_) t14 r_ t o out
def ZDi (n:Nat) (s:(Int×Int×G_api_Table×Zn6×ZnR)):Option ZnR:=Zo9 n s.1 s.2.1 s.2.2.1 s.2.2.2.1 s.2.2.2.2
def ZyN (a:(Int×Int×G_api_Table×Zn6×ZnR)->Option ZnR) (s:(Int×Int×G_api_Table×Zn6×ZnR)):Option ZnR:=Zvc (fun b d t o c=>a (b,d,t,o,c)) s.1 s.2.1 s.2.2.1 s.2.2.2.1 s.2.2.2.2
theorem ZGP:∀n s,ZDi (n+1) s=ZyN (ZDi n) s:=fun _ _=>rfl
def ZyO (t:G_api_Table) (o:Zn6):Option ZnR:=(ZvT t).bind fun q=>(Zo9 big q (0:Int) t o ([]:ZnR)).bind fun a=>ZAv a
def Zy0 (f:Int) (e:Str) (c:Int) (b:Str) (d a:ZoU):ZOk:=some ((G_api_Table.mk c b a),0)
def Zy1 (h:ZZL) (g:ZnR) (k:ZoU) (i f m:Int) (e:Str) (j:Int) (c l:Str) (d a:ZoU) (b:ZCq):ZKJ:=chk (Zi5 (a.length+([(G_api_Column.mk l b)]:ZoU).length) 40) <|chk (inK .i64 (f+1)) <|h g k i (f+1) m e j c d (a++([(G_api_Column.mk l b)]:ZoU))
def ZtZ (p:ZnR->ZoU->Int->Int->ZnR->Int->Int->Int->Str->Int->Str->G_api_Column->Str->ZoU->ZoU->ZCq->ZXW) (h:ZnR) (n:ZoU) (i o:Int) (m:ZnR) (l e q:Int) (g:Str) (j:Int) (d:Str) (c:G_api_Column) (r:Str) (f b:ZoU) (a:ZCq):ZXW:=bif (decide (e < l))then ((idx m e).bind fun k=>(idx c.Cells k).bind fun Cell=>chk (Zi5 (a.length+([Cell]:ZCq).length) 24) <|chk (inK .i64 (e+1)) <|p h n i o m l (e+1) q g j d c r f b (a++([Cell]:ZCq)))else (some (h,n,i,o,q,g,j,d,r,f,b,a))
def Zvo:Nat->ZnR->ZoU->Int->Int->ZnR->Int->Int->Int->Str->Int->Str->G_api_Column->Str->ZoU->ZoU->ZCq->ZXW
 |0,_,_,_,_,_,_,_,_,_,_,_,_,_,_,_,_=>none
 |n_+1,rows,t44,t45,t46,t53,t54,t55,t4,t4_1,out,out_1,c,x_,t4_2,out_2,x__1=>ZtZ (Zvo n_) rows t44 t45 t46 t53 t54 t55 t4 t4_1 out out_1 c x_ t4_2 out_2 x__1
def ZCm (n:Nat) (s:(ZnR×ZoU×Int×Int×ZnR×Int×Int×Int×Str×Int×Str×G_api_Column×Str×ZoU×ZoU×ZCq)):ZXW:=Zvo n s.1 s.2.1 s.2.2.1 s.2.2.2.1 s.2.2.2.2.1 s.2.2.2.2.2.1 s.2.2.2.2.2.2.1 s.2.2.2.2.2.2.2.1 s.2.2.2.2.2.2.2.2.1 s.2.2.2.2.2.2.2.2.2.1 s.2.2.2.2.2.2.2.2.2.2.1 s.2.2.2.2.2.2.2.2.2.2.2.1 s.2.2.2.2.2.2.2.2.2.2.2.2.1 s.2.2.2.2.2.2.2.2.2.2.2.2.2.1 s.2.2.2.2.2.2.2.2.2.2.2.2.2.2.1 s.2.2.2.2.2.2.2.2.2.2.2.2.2.2.2
def ZxL (h:(ZnR×ZoU×Int×Int×ZnR×Int×Int×Int×Str×Int×Str×G_api_Column×Str×ZoU×ZoU×ZCq)->ZXW) (s:(ZnR×ZoU×Int×Int×ZnR×Int×Int×Int×Str×Int×Str×G_api_Column×Str×ZoU×ZoU×ZCq)):ZXW:=ZtZ (fun g n j o m l i p f k b c q d a e=>h (g,n,j,o,m,l,i,p,f,k,b,c,q,d,a,e)) s.1 s.2.1 s.2.2.1 s.2.2.2.1 s.2.2.2.2.1 s.2.2.2.2.2.1 s.2.2.2.2.2.2.1 s.2.2.2.2.2.2.2.1 s.2.2.2.2.2.2.2.2.1 s.2.2.2.2.2.2.2.2.2.1 s.2.2.2.2.2.2.2.2.2.2.1 s.2.2.2.2.2.2.2.2.2.2.2.1 s.2.2.2.2.2.2.2.2.2.2.2.2.1 s.2.2.2.2.2.2.2.2.2.2.2.2.2.1 s.2.2.2.2.2.2.2.2.2.2.2.2.2.2.1 s.2.2.2.2.2.2.2.2.2.2.2.2.2.2.2
theorem ZF4:∀n s,ZCm (n+1) s=ZxL (ZCm n) s:=fun _ _=>rfl
def Zt0 (k:ZZL) (a:ZnR) (j:ZoU) (i g n:Int) (f:Str) (h:Int) (b:Str) (e d:ZoU):ZKJ:=bif (decide (g < i))then ((idx j g).bind fun c=>(Zvo big a j i g a (a.length:Int) (0:Int) n f h b c c.Name e d ([]:ZCq)).bind fun(q,w,p,o,x,u,s,t,v,r,l,m)=>Zy1 k q w p o x u s t v r l m)else (some (n,f,h,b,e,d))
def ZsM:Nat->ZnR->ZoU->Int->Int->Int->Str->Int->Str->ZoU->ZoU->ZKJ
 |0,_,_,_,_,_,_,_,_,_,_=>none
 |n_+1,rows,t44,t45,t46,t4,t4_1,out,out_1,t4_2,out_2=>Zt0 (ZsM n_) rows t44 t45 t46 t4 t4_1 out out_1 t4_2 out_2
def ZCn (n:Nat) (s:(ZnR×ZoU×Int×Int×Int×Str×Int×Str×ZoU×ZoU)):ZKJ:=ZsM n s.1 s.2.1 s.2.2.1 s.2.2.2.1 s.2.2.2.2.1 s.2.2.2.2.2.1 s.2.2.2.2.2.2.1 s.2.2.2.2.2.2.2.1 s.2.2.2.2.2.2.2.2.1 s.2.2.2.2.2.2.2.2.2
def ZxM (f:(ZnR×ZoU×Int×Int×Int×Str×Int×Str×ZoU×ZoU)->ZKJ) (s:(ZnR×ZoU×Int×Int×Int×Str×Int×Str×ZoU×ZoU)):ZKJ:=Zt0 (fun e i g j k d h b c a=>f (e,i,g,j,k,d,h,b,c,a)) s.1 s.2.1 s.2.2.1 s.2.2.2.1 s.2.2.2.2.1 s.2.2.2.2.2.1 s.2.2.2.2.2.2.1 s.2.2.2.2.2.2.2.1 s.2.2.2.2.2.2.2.2.1 s.2.2.2.2.2.2.2.2.2
theorem ZF5:∀n s,ZCn (n+1) s=ZxM (ZCn n) s:=fun _ _=>rfl
def Zy2 (a:ZnR) (t:G_api_Table) (e:Int) (c:Str) (b:ZoU):ZOk:=bif (decide ((a.length:Int) > 4096))then (some ((G_api_Table.mk 0 ([]:Str) ([]:ZoU)),3))else ((ZsM big a t.Columns (t.Columns.length:Int) (0:Int) e c t.ID t.Name b ([]:ZoU)).bind fun(d,g,i,f,j,h)=>Zy0 d g i f j h)
def Zvp (e:ZZJ) (c f:ZnR) (g d:Int) (h:Bool) (t:G_api_Table) (i:Int) (b:Str) (a:ZoU):ZOA:=bif h then (some (.ret ((G_api_Table.mk 0 ([]:Str) ([]:ZoU)),2)))else (chk (inK .i64 (d+1)) <|e c f g (d+1) t i b a)
def Zt1 (e:ZZJ) (c f:ZnR) (g d:Int) (t:G_api_Table) (h:Int) (b:Str) (a:ZoU):ZOA:=bif (decide (d < g))then ((idx f d).bind fun k=>bif (decide (k < 0))then (Zvp e c f g d true t h b a)else ((ZvT t).bind fun q=>Zvp e c f g d (decide (k>=q)) t h b a))else (some (.brk (c,t,h,b,a)))
def ZsN:Nat->ZnR->ZnR->Int->Int->G_api_Table->Int->Str->ZoU->ZOA
 |0,_,_,_,_,_,_,_,_=>none
 |n_+1,rows,t18,t19,t20,t,t4,t4_1,t4_2=>Zt1 (ZsN n_) rows t18 t19 t20 t t4 t4_1 t4_2
def ZCo (n:Nat) (s:(ZnR×ZnR×Int×Int×G_api_Table×Int×Str×ZoU)):ZOA:=ZsN n s.1 s.2.1 s.2.2.1 s.2.2.2.1 s.2.2.2.2.1 s.2.2.2.2.2.1 s.2.2.2.2.2.2.1 s.2.2.2.2.2.2.2
def ZxN (d:(ZnR×ZnR×Int×Int×G_api_Table×Int×Str×ZoU)->ZOA) (s:(ZnR×ZnR×Int×Int×G_api_Table×Int×Str×ZoU)):ZOA:=Zt1 (fun c e f g t h b a=>d (c,e,f,g,t,h,b,a)) s.1 s.2.1 s.2.2.1 s.2.2.2.1 s.2.2.2.2.1 s.2.2.2.2.2.1 s.2.2.2.2.2.2.1 s.2.2.2.2.2.2.2
theorem ZF6:∀n s,ZCo (n+1) s=ZxN (ZCo n) s:=fun _ _=>rfl
def Zxs (t:G_api_Table) (a:ZnR):ZOk:=(Zqp t).bind fun q=>bif (!q)then (some ((G_api_Table.mk 0 ([]:Str) ([]:ZoU)),1))else ((ZsN big a a (a.length:Int) (0:Int) t (0:Int) ([]:Str) ([]:ZoU)).bind fun
 | .ret b=>some b
 | .brk (x0,x1,x2,x3,x4)=>Zy2 x0 x1 x2 x3 x4)
def ZAW (t:G_api_Table) (o:Zn6):Option G_api_Table:=bif (o.Kind == 3)then ((ZwC t o.Columns).bind fun(d,q)=>some d)else ((ZyO t o).bind fun b=>(Zxs t b).bind fun(a,c)=>some a)
def ZAy (f:Int) (e:Str) (c:Int) (b:Str) (d a:ZoU):Option G_api_Table:=some (G_api_Table.mk c b a)
def Zvd (j:ZoU->Int->Int->Int->Str->Int->Str->ZoU->ZoU->ZKJ) (i:ZoU) (h d k:Int) (f:Str) (g:Int) (b:Str) (e a:ZoU):ZKJ:=bif (decide (d < h))then ((idx i d).bind fun c=>chk (Zi5 c.Cells.length 24) <|chk (Zi5 (a.length+([c]:ZoU).length) 40) <|chk (inK .i64 (d+1)) <|j i h (d+1) k f g b e (a++([c]:ZoU)))else (some (k,f,g,b,e,a))
def Zwt:Nat->ZoU->Int->Int->Int->Str->Int->Str->ZoU->ZoU->ZKJ
 |0,_,_,_,_,_,_,_,_,_=>none
 |n_+1,t12,t13,t14,t2,t2_1,out,out_1,t2_2,out_2=>Zvd (Zwt n_) t12 t13 t14 t2 t2_1 out out_1 t2_2 out_2
def ZDj (n:Nat) (s:(ZoU×Int×Int×Int×Str×Int×Str×ZoU×ZoU)):ZKJ:=Zwt n s.1 s.2.1 s.2.2.1 s.2.2.2.1 s.2.2.2.2.1 s.2.2.2.2.2.1 s.2.2.2.2.2.2.1 s.2.2.2.2.2.2.2.1 s.2.2.2.2.2.2.2.2
def ZyP (e:(ZoU×Int×Int×Int×Str×Int×Str×ZoU×ZoU)->ZKJ) (s:(ZoU×Int×Int×Int×Str×Int×Str×ZoU×ZoU)):ZKJ:=Zvd (fun i g h j d f b c a=>e (i,g,h,j,d,f,b,c,a)) s.1 s.2.1 s.2.2.1 s.2.2.2.1 s.2.2.2.2.1 s.2.2.2.2.2.1 s.2.2.2.2.2.2.1 s.2.2.2.2.2.2.2.1 s.2.2.2.2.2.2.2.2
theorem ZGQ:∀n s,ZDj (n+1) s=ZyP (ZDj n) s:=fun _ _=>rfl
def ZvF (t:G_api_Table):Option G_api_Table:=(Zwt big t.Columns (t.Columns.length:Int) (0:Int) (0:Int) ([]:Str) t.ID t.Name ([]:ZoU) ([]:ZoU)).bind fun(x0,x1,x2,x3,x4,x5)=>ZAy x0 x1 x2 x3 x4 x5
def ZBd (t:G_api_Table) (c:Int) (b:Str) (a:ZoU):ZOk:=(ZvF t).bind fun q=>some (q,0)
def ZvE (f:(List Zn6)->Int->Int->G_api_Table->Int->Str->ZoU->ZP6) (d:(List Zn6)) (e a:Int) (t:G_api_Table) (h:Int) (c:Str) (b:ZoU):ZP6:=bif (decide (a < e))then ((idx d a).bind fun o=>(Zz7 t o).bind fun q=>bif (!q)then (some (.ret ((G_api_Table.mk 0 ([]:Str) ([]:ZoU)),24)))else ((ZAW t o).bind fun g=>chk (inK .i64 (a+1)) <|f d e (a+1) g h c b))else (some (.brk (t,h,c,b)))
def Zxg:Nat->(List Zn6)->Int->Int->G_api_Table->Int->Str->ZoU->ZP6
 |0,_,_,_,_,_,_,_=>none
 |n_+1,t18,t19,t20,t,t4,t4_1,t4_2=>ZvE (Zxg n_) t18 t19 t20 t t4 t4_1 t4_2
def ZDK (n:Nat) (s:((List Zn6)×Int×Int×G_api_Table×Int×Str×ZoU)):ZP6:=Zxg n s.1 s.2.1 s.2.2.1 s.2.2.2.1 s.2.2.2.2.1 s.2.2.2.2.2.1 s.2.2.2.2.2.2
def Zzr (c:((List Zn6)×Int×Int×G_api_Table×Int×Str×ZoU)->ZP6) (s:((List Zn6)×Int×Int×G_api_Table×Int×Str×ZoU)):ZP6:=ZvE (fun d e f t g b a=>c (d,e,f,t,g,b,a)) s.1 s.2.1 s.2.2.1 s.2.2.2.1 s.2.2.2.2.1 s.2.2.2.2.2.1 s.2.2.2.2.2.2
theorem ZHg:∀n s,ZDK (n+1) s=Zzr (ZDK n) s:=fun _ _=>rfl
def Zz8 (t:G_api_Table) (l:(List Zn6)):ZOk:=bif (decide ((l.length:Int) > 5))then (some ((G_api_Table.mk 0 ([]:Str) ([]:ZoU)),3))else ((Zqp t).bind fun q=>bif (!q)then (some ((G_api_Table.mk 0 ([]:Str) ([]:ZoU)),1))else ((Zxg big l (l.length:Int) (0:Int) t (0:Int) ([]:Str) ([]:ZoU)).bind fun
 | .ret a=>some a
 | .brk (x0,x1,x2,x3)=>ZBd x0 x1 x2 x3))
def ZzP (e:Int) (d:ZnJ) (t:G_api_Table) (f:Int) (c:Str) (b:ZoU):ZRs:=(ZvF t).bind fun a=>some ((G_api_Table.mk e a.Name a.Columns),d)
def Zv6 (c:ZZN) (f k:Int) (d:ZnJ) (t:G_api_Table) (e:Int) (b:Str) (a:ZoU):ZOy:=chk (inK .i64 (k - 1)) <|c f (k - 1) d t e b a
def Zyv (c:ZZN) (h k:Int) (d:ZnJ) (t:G_api_Table) (g:Int) (b:Str) (a:ZoU):ZOy:=bif (decide (k > 0))then ((ZzO d t).bind fun(q,f)=>(Zz8 t ([q]:(List Zn6))).bind fun(i,e)=>bif (e == 0)then (Zv6 c h k f i g b a)else (Zv6 c h k f t g b a))else (some (h,d,t,g,b,a))
def Zs9:Nat->Int->Int->ZnJ->G_api_Table->Int->Str->ZoU->ZOy
 |0,_,_,_,_,_,_,_=>none
 |n_+1,id,k,d,t,t6,t6_1,t6_2=>Zyv (Zs9 n_) id k d t t6 t6_1 t6_2
def ZCS (n:Nat) (s:(Int×Int×ZnJ×G_api_Table×Int×Str×ZoU)):ZOy:=Zs9 n s.1 s.2.1 s.2.2.1 s.2.2.2.1 s.2.2.2.2.1 s.2.2.2.2.2.1 s.2.2.2.2.2.2
def ZCT (c:(Int×Int×ZnJ×G_api_Table×Int×Str×ZoU)->ZOy) (s:(Int×Int×ZnJ×G_api_Table×Int×Str×ZoU)):ZOy:=Zyv (fun f k d t e b a=>c (f,k,d,t,e,b,a)) s.1 s.2.1 s.2.2.1 s.2.2.2.1 s.2.2.2.2.1 s.2.2.2.2.2.1 s.2.2.2.2.2.2
theorem ZGy:∀n s,ZCS (n+1) s=ZCT (ZCS n) s:=fun _ _=>rfl
def ZuU (d:ZnJ) (t:G_api_Table) (h:Int):ZRs:=(ZnW d 3).bind fun(k,a)=>(Zs9 big h k a t (0:Int) ([]:Str) ([]:ZoU)).bind fun(b,e,g,c,i,f)=>ZzP b e g c i f
def ZAM (d:ZnJ) (l:Zpi):ZZk:=some (l,d)
def ZtL (a:ZV2) (b k:Int) (d:ZnJ) (l:Zpi) (t:G_api_Table):ZND:=chk (Zi5 (l.length+([t]:Zpi).length) 48) <|chk (inK .i64 (k - 1)) <|a b (k - 1) d (l++([t]:Zpi))
def ZwH (a:ZV2) (g k:Int) (e:Bool) (d:ZnJ) (l:Zpi) (t:G_api_Table):ZND:=bif e then ((ZnW d (l.length:Int)).bind fun(q,h)=>chk (inR q (l.length:Int)) <|(l[(q).toNat]?).bind fun b=>(ZuU h b g).bind fun(f,c)=>ZtL a g k c l f)else (ZtL a g k d l t)
def Zy9 (a:ZV2) (c k:Int) (d:ZnJ) (l:Zpi):ZND:=bif (decide (k > 0))then ((ZnW d 2).bind fun(q,g)=>chk (inK .i64 (1+q)) <|chk (inK .i64 (c+(1+q))) <|(ZwS g (c+(1+q))).bind fun(t,b)=>bif (decide ((l.length:Int) > 0))then ((ZnW b 4).bind fun(e,f)=>ZwH a (c+(1+q)) k (e == 0) f l t)else (ZwH a (c+(1+q)) k false b l t))else (some (d,l))
def ZrS:Nat->Int->Int->ZnJ->Zpi->ZND
 |0,_,_,_,_=>none
 |n_+1,id,k,d,l=>Zy9 (ZrS n_) id k d l
def ZDv (n:Nat) (s:(Int×Int×ZnJ×Zpi)):ZND:=ZrS n s.1 s.2.1 s.2.2.1 s.2.2.2
def ZDw (a:(Int×Int×ZnJ×Zpi)->ZND) (s:(Int×Int×ZnJ×Zpi)):ZND:=Zy9 (fun b k d l=>a (b,k,d,l)) s.1 s.2.1 s.2.2.1 s.2.2.2
theorem ZGX:∀n s,ZDv (n+1) s=ZDw (ZDv n) s:=fun _ _=>rfl
def Zv5 (d:ZnJ) (a:Int):ZZk:=(ZnW d 2).bind fun(g,c)=>(ZnW c a).bind fun(q,b)=>chk (inK .i64 (1+q)) <|(ZrS big g (1+q) b ([]:Zpi)).bind fun(e,f)=>ZAM e f
def ZIJ:Option (List (Int×Zrg)):=some (setB (k:=(.int .i64)) (v:=(.st 11)) (car:=ZBM) (setB (k:=(.int .i64)) (v:=(.st 11)) (car:=ZBM) (setB (k:=(.int .i64)) (v:=(.st 11)) (car:=ZBM) (setB (k:=(.int .i64)) (v:=(.st 11)) (car:=ZBM) (setB (k:=(.int .i64)) (v:=(.st 11)) (car:=ZBM) ([]:(List (Int×Zrg))) 1 (Zrg.mk ([116,101,120,116]:Str) (none:Option Nat) (some 225:Option Nat))) 2 (Zrg.mk ([98,111,111,108]:Str) (some 226:Option Nat) (some 227:Option Nat))) 3 (Zrg.mk ([105,110,116,101,103,101,114]:Str) (some 228:Option Nat) (some 229:Option Nat))) 4 (Zrg.mk ([100,101,99,105,109,97,108]:Str) (some 230:Option Nat) (some 229:Option Nat))) 5 (Zrg.mk ([100,97,116,101]:Str) (some 231:Option Nat) (some 232:Option Nat)))
def ZE2 (s a:Str):Option Str:=chk (a.all fun b=>decide (b.toNat < 128)) <| chk (decide (a.length < 4294967281)) <| some (Lib.trimS s a)
def ZHH (s:Str):Option Str:=(ZE2 s ([32]:Str)).bind fun q=>some q
def Zr4 (a:Bool):Option Bool:=some a
def Zrb (s a:Str):Option Bool:=bif (decide ((s.length:Int)>=(a.length:Int)))then (chk (Zca 0 (a.length:Int) (s.length:Int)) <|Zr4 ((s.take ((a.length:Int)).toNat) == a))else (Zr4 false)
def Zwp (s a:Str):ZKG:=(Zrb s a).bind fun q=>bif (!q)then (some (s,false))else (chk (Zca (a.length:Int) (s.length:Int) (s.length:Int)) <|some ((s.drop ((a.length:Int)).toNat),true))
def ZCt (s a:Str):ZKG:=(Zwp s a).bind fun(b,c)=>some (b,c)
def Zwa (s a:Str):Option Str:=(Zrb s a).bind fun q=>bif q then (chk (Zca (a.length:Int) (s.length:Int) (s.length:Int)) <|some (s.drop ((a.length:Int)).toNat))else (some s)
def ZBP (s a:Str):Option Str:=(Zwa s a).bind fun q=>some q
def ZsW (s:Str) (c:Int):Option Int:=some (Lib.indexByte s c.toNat.toUInt8)
def ZtA (s a:Str) (n:Int) (b:Bool):Option Int:=bif b then (some (0:Int))else (bif (n == 1)then ((idx a 0).bind fun c=>(ZsW s ((c.toNat:Nat):Int)).bind fun q=>some q)else (bif (decide (n>=(s.length:Int)))then (some (-1:Int))else (none)))
def Zvu (s a:Str):Option Int:=bif ((a.length:Int) == 0)then (ZtA s a (a.length:Int) true)else (ZtA s a (a.length:Int) (a == s))
def ZAQ (s a:Str):Option (Str×Str×Bool):=(Zvu s a).bind fun i=>bif (decide (i>=0))then (chk (Zca 0 i (s.length:Int)) <|chk (inK .i64 (i+(a.length:Int))) <|chk (Zca (i+(a.length:Int)) (s.length:Int) (s.length:Int)) <|some ((s.take (i).toNat),(s.drop ((i+(a.length:Int))).toNat),true))else (some (s,([]:Str),false))
def ZFw (s d:Str):Option (Str×Str×Bool):=(ZAQ s d).bind fun(a,b,c)=>some (a,b,c)
def ZyH (a:Bool):Option Bool:=some a
def ZCb (s:Str) (a:Int):Option Bool:=bif (decide ((s.length:Int)>=1))then (bif (decide ((s.length:Int)<=a))then ((ZE2 s ([48,49,50,51,52,53,54,55,56,57]:Str)).bind fun q=>ZyH (q == ([]:Str)))else (ZyH false))else (ZyH false)
def ZEj (a:Bool) (d e:ZnR) (i g:Bool) (f h:ZnR):ZJ2:=(Zqb a d).bind fun q=>(Zqb false e).bind fun c=>(ZsP q c).bind fun b=>some (b,true)
def Zzj (k:Bool->ZnR->ZnR->ZnR->Int->Int->Bool->Bool->ZnR->ZnR->ZP3) (g:Bool) (j f i:ZnR) (h d:Int) (l a:Bool) (b c:ZnR):ZP3:=bif (decide (d < h))then ((Zt6 i f).bind fun e=>chk (inK .i64 (d+1)) <|k g j f e h (d+1) l a b c)else (some (g,j,i,l,a,b,c))
def ZA4:Nat->Bool->ZnR->ZnR->ZnR->Int->Int->Bool->Bool->ZnR->ZnR->ZP3
 |0,_,_,_,_,_,_,_,_,_,_=>none
 |n_+1,neg,num,ten,den,t63,t64,t2,t2_1,t2_2,t2_3=>Zzj (ZA4 n_) neg num ten den t63 t64 t2 t2_1 t2_2 t2_3
def ZFE (n:Nat) (s:(Bool×ZnR×ZnR×ZnR×Int×Int×Bool×Bool×ZnR×ZnR)):ZP3:=ZA4 n s.1 s.2.1 s.2.2.1 s.2.2.2.1 s.2.2.2.2.1 s.2.2.2.2.2.1 s.2.2.2.2.2.2.1 s.2.2.2.2.2.2.2.1 s.2.2.2.2.2.2.2.2.1 s.2.2.2.2.2.2.2.2.2
def ZCz (d:(Bool×ZnR×ZnR×ZnR×Int×Int×Bool×Bool×ZnR×ZnR)->ZP3) (s:(Bool×ZnR×ZnR×ZnR×Int×Int×Bool×Bool×ZnR×ZnR)):ZP3:=Zzj (fun g i f j h e k a b c=>d (g,i,f,j,h,e,k,a,b,c)) s.1 s.2.1 s.2.2.1 s.2.2.2.1 s.2.2.2.2.1 s.2.2.2.2.2.1 s.2.2.2.2.2.2.1 s.2.2.2.2.2.2.2.1 s.2.2.2.2.2.2.2.2.1 s.2.2.2.2.2.2.2.2.2
theorem ZIu:∀n s,ZFE (n+1) s=ZCz (ZFE n) s:=fun _ _=>rfl
def ZEk (e:Bool) (a:Str) (h f:ZnR) (o c:Bool) (g b d:ZnR):ZJ2:=(ZA4 big e h f g (a.length:Int) (0:Int) o c b d).bind fun(i,l,n,k,p,m,j)=>ZEj i l n k p m j
def Zzk (n:Bool->Str->ZnR->ZnR->Int->Int->Bool->Bool->ZnR->ZnR->ZnR->ZnR->ZP7) (j:Bool) (b:Str) (m h:ZnR) (k a:Int) (p c:Bool) (l g e f:ZnR):ZP7:=bif (decide (a < k))then (chk (inR a (g.length:Int)) <|(g[(a).toNat]?).bind fun d=>(Zt6 m h).bind fun q=>(Zx9 (IntKind.wrap .u64 (IntKind.wrap .u8 (d - 48)))).bind fun o=>(ZxV q o).bind fun i=>chk (inK .i64 (a+1)) <|n j b i h k (a+1) p c l g e f)else (some (j,b,m,h,p,c,l,e,f))
def ZA5:Nat->Bool->Str->ZnR->ZnR->Int->Int->Bool->Bool->ZnR->ZnR->ZnR->ZnR->ZP7
 |0,_,_,_,_,_,_,_,_,_,_,_,_=>none
 |n_+1,neg,back,num,ten,t48,t49,t2,t2_1,den,t47,t2_2,t2_3=>Zzk (ZA5 n_) neg back num ten t48 t49 t2 t2_1 den t47 t2_2 t2_3
def ZFF (n:Nat) (s:(Bool×Str×ZnR×ZnR×Int×Int×Bool×Bool×ZnR×ZnR×ZnR×ZnR)):ZP7:=ZA5 n s.1 s.2.1 s.2.2.1 s.2.2.2.1 s.2.2.2.2.1 s.2.2.2.2.2.1 s.2.2.2.2.2.2.1 s.2.2.2.2.2.2.2.1 s.2.2.2.2.2.2.2.2.1 s.2.2.2.2.2.2.2.2.2.1 s.2.2.2.2.2.2.2.2.2.2.1 s.2.2.2.2.2.2.2.2.2.2.2
def ZCA (e:(Bool×Str×ZnR×ZnR×Int×Int×Bool×Bool×ZnR×ZnR×ZnR×ZnR)->ZP7) (s:(Bool×Str×ZnR×ZnR×Int×Int×Bool×Bool×ZnR×ZnR×ZnR×ZnR)):ZP7:=Zzk (fun h a i g j l m b k f c d=>e (h,a,i,g,j,l,m,b,k,f,c,d)) s.1 s.2.1 s.2.2.1 s.2.2.2.1 s.2.2.2.2.1 s.2.2.2.2.2.1 s.2.2.2.2.2.2.1 s.2.2.2.2.2.2.2.1 s.2.2.2.2.2.2.2.2.1 s.2.2.2.2.2.2.2.2.2.1 s.2.2.2.2.2.2.2.2.2.2.1 s.2.2.2.2.2.2.2.2.2.2.2
theorem ZIv:∀n s,ZFF (n+1) s=ZCA (ZFF n) s:=fun _ _=>rfl
def Zu7 (g:Bool) (a c:Str) (h r d:Bool) (e f:ZnR):ZJ2:=bif h then (some ((ZnK.mk (ZnP.mk false ([]:ZnR)) (ZnP.mk false ([]:ZnR))),false))else ((ZrJ ([1]:List Int)).bind fun i=>chk (decide (a.length+c.length<=Zq)) <|chk (decide ((a++c).length<=281474976710656)) <|(ZA5 big g c ([]:ZnR) ([10]:ZnR) (((a++c).map fun b=>((b.toNat:Nat):Int)).length:Int) (0:Int) r d i ((a++c).map fun b=>((b.toNat:Nat):Int)) e f).bind fun(k,o,q,n,s,p,l,m,j)=>ZEk k o q n s p l m j)
def ZxW (h:Str) (f j d:Bool) (c e:ZnR):ZJ2:=(ZFw h ([46]:Str)).bind fun(a,b,g)=>(ZCb a 15).bind fun q=>bif (!q)then (Zu7 f a b true j d c e)else (bif g then ((ZCb b 9).bind fun i=>Zu7 f a b (!i) j d c e)else (Zu7 f a b false j d c e))
def Zya (b:Str):ZJ2:=(ZCt b ([45]:Str)).bind fun(d,c)=>bif (!c)then ((ZBP b ([43]:Str)).bind fun a=>ZxW a c false false ([]:ZnR) ([]:ZnR))else (ZxW d c false false ([]:ZnR) ([]:ZnR))
def ZDz (s a:Str):Option Str:=chk (a.all fun b=>decide (b.toNat < 128)) <| chk (decide (a.length < 4294967281)) <| some (Lib.trimLeftS s a)
def ZFc (s a:Str):Option Str:=chk (a.all fun b=>decide (b.toNat < 128)) <| chk (decide (a.length < 4294967281)) <| some (Lib.trimRightS s a)
def ZH8 (a:Str):Option Str:=some a
def ZER (c:Str->ZEq->Int->Int->ZPW) (a:Str) (e:ZEq) (f d:Int):ZPW:=bif (decide (d < f))then ((idx e d).bind fun b=>bif (!(b == a))then (some (.ret b))else (chk (inK .i64 (d+1)) <|c a e f (d+1)))else (some (.brk a))
def ZA7:Nat->Str->ZEq->Int->Int->ZPW
 |0,_,_,_,_=>none
 |n_+1,zero,t6,t7,t8=>ZER (ZA7 n_) zero t6 t7 t8
def ZG9 (n:Nat) (s:(Str×ZEq×Int×Int)):ZPW:=ZA7 n s.1 s.2.1 s.2.2.1 s.2.2.2
def ZHa (b:(Str×ZEq×Int×Int)->ZPW) (s:(Str×ZEq×Int×Int)):ZPW:=ZER (fun a c e d=>b (a,c,e,d)) s.1 s.2.1 s.2.2.1 s.2.2.2
theorem ZJc:∀n s,ZG9 (n+1) s=ZHa (ZG9 n) s:=fun _ _=>rfl
def ZFH (a:ZEq):Option Str:=(ZA7 big ([]:Str) a (a.length:Int) (0:Int)).bind fun
 | .ret b=>some b
 | .brk c=>ZH8 c
def ZDd (a:Str):ZKG:=some (a,true)
def ZDe (a:Str) (b:Bool):ZKG:=bif b then (chk (decide (([45]:Str).length+a.length<=Zq)) <|ZDd (([45]:Str)++a))else (ZDd a)
def ZvB (t a:Str):ZKG:=(idx t 0).bind fun c=>bif (((c.toNat:Nat):Int) == 45)then (ZDe a (!(a == ([48]:Str))))else (ZDe a false)
def ZDI (t:Str):ZKG:=(Zya t).bind fun(q,g)=>bif (!g)then (some (([]:Str),false))else ((ZDz t ([43,45]:Str)).bind fun f=>(ZFw f ([46]:Str)).bind fun(c,e,h)=>(ZDz c ([48]:Str)).bind fun b=>(ZFc e ([48]:Str)).bind fun a=>(ZFH ([b,([48]:Str)]:ZEq)).bind fun d=>bif (!(a == ([]:Str)))then (chk (decide (([46]:Str).length+a.length<=Zq)) <|chk (decide (d.length+(([46]:Str)++a).length<=Zq)) <|ZvB t (d++(([46]:Str)++a)))else (ZvB t d))
def Zzl (n:Int) (s:Str):ZKG:=(ZIJ).bind fun q=>bif (!(Zg8 (k:=(.int .i64)) (v:=(.st 11)) (car:=ZBM) q n).isSome)then (some (([]:Str),false))else (bif (Option.isNone (((Zg8 (k:=(.int .i64)) (v:=(.st 11)) (car:=ZBM) q n).getD (Zrg.mk ([]:Str) (none:Option Nat) (none:Option Nat))).canonical))then (some (s,true))else ((ZHH s).bind fun q_1=>chk (decide (((Zg8 (k:=(.int .i64)) (v:=(.st 11)) (car:=ZBM) q n).getD (Zrg.mk ([]:Str) (none:Option Nat) (none:Option Nat))).canonical=some 230)) <|(ZDI q_1).bind fun(q_2,q_3)=>some (q_2,q_3)))
def ZFs (n:Int) (s:Str):ZJ2:=(Zzl n s).bind fun(t,ok)=>bif (!ok)then (some ((ZnK.mk (ZnP.mk false ([]:ZnR)) (ZnP.mk false ([]:ZnR))),false))else ((ZIJ).bind fun q=>chk (decide (((Zg8 (k:=(.int .i64)) (v:=(.st 11)) (car:=ZBM) q n).getD (Zrg.mk ([]:Str) (none:Option Nat) (none:Option Nat))).value=some 229)) <|(Zya t).bind fun(q_1,q_2)=>some (q_1,q_2))
def ZIL (c:G_api_Cell):ZJ2:=bif c.Null then ((Zzm).bind fun q=>some (q,false))else ((ZFs 4 c.Text).bind fun(a,b)=>some (a,b))
def ZG1 (a:Int):Option Int:=some a
def ZDB (a:Str->Int->Int->Int->Option Int) (s:Str) (b d i:Int):Option Int:=bif (decide (i < d))then ((idx s i).bind fun c=>chk (inK .i64 (i+1)) <|a s (IntKind.wrap .u64 ((xorK .u64 b (IntKind.wrap .u64 ((c.toNat:Nat):Int)))*1099511628211)) d (i+1))else (some b)
def ZE8:Nat->Str->Int->Int->Int->Option Int
 |0,_,_,_,_=>none
 |n_+1,s,h_,t6,i=>ZDB (ZE8 n_) s h_ t6 i
def ZH6 (n:Nat) (s:(Str×Int×Int×Int)):Option Int:=ZE8 n s.1 s.2.1 s.2.2.1 s.2.2.2
def ZFy (a:(Str×Int×Int×Int)->Option Int) (s:(Str×Int×Int×Int)):Option Int:=ZDB (fun s b c i=>a (s,b,c,i)) s.1 s.2.1 s.2.2.1 s.2.2.2
theorem ZJU:∀n s,ZH6 (n+1) s=ZFy (ZH6 n) s:=fun _ _=>rfl
def ZHv (s:Str):Option Int:=(ZE8 big s (14695981039346656037:Int) (s.length:Int) (0:Int)).bind fun a=>ZG1 a
def ZEK (a n:Int):Option Int:=(idx ([0,1,2,2,3,3,3,3,4,4,4,4,4,4,4,4,5,5,5,5,5,5,5,5,5,5,5,5,5,5,5,5,6,6,6,6,6,6,6,6,6,6,6,6,6,6,6,6,6,6,6,6,6,6,6,6,6,6,6,6,6,6,6,6,7,7,7,7,7,7,7,7,7,7,7,7,7,7,7,7,7,7,7,7,7,7,7,7,7,7,7,7,7,7,7,7,7,7,7,7,7,7,7,7,7,7,7,7,7,7,7,7,7,7,7,7,7,7,7,7,7,7,7,7,7,7,7,7,8,8,8,8,8,8,8,8,8,8,8,8,8,8,8,8,8,8,8,8,8,8,8,8,8,8,8,8,8,8,8,8,8,8,8,8,8,8,8,8,8,8,8,8,8,8,8,8,8,8,8,8,8,8,8,8,8,8,8,8,8,8,8,8,8,8,8,8,8,8,8,8,8,8,8,8,8,8,8,8,8,8,8,8,8,8,8,8,8,8,8,8,8,8,8,8,8,8,8,8,8,8,8,8,8,8,8,8,8,8,8,8,8,8,8,8,8,8,8,8,8,8,8,8,8,8,8,8]:Str) (IntKind.wrap .u8 a)).bind fun c=>chk (inK .i64 (n+(IntKind.wrap .i64 ((c.toNat:Nat):Int)))) <|some (n+(IntKind.wrap .i64 ((c.toNat:Nat):Int)))
def ZEL (a n:Int):Option Int:=bif (decide (a>=256))then (chk (decide (0<=(8:Int))) <|chk (inK .i64 (n+8)) <|ZEK (shrK .u64 a 8) (n+8))else (ZEK a n)
def ZEM (a n:Int):Option Int:=bif (decide (a>=65536))then (chk (decide (0<=(16:Int))) <|chk (inK .i64 (n+16)) <|ZEL (shrK .u64 a 16) (n+16))else (ZEL a n)
def ZIs (a:Int):Option Int:=bif (decide (a>=4294967296))then (chk (decide (0<=(32:Int))) <|ZEM (shrK .u64 a 32) (32:Int))else (ZEM a (0:Int))
def ZzU (a:Int):Option Int:=(ZIs a).bind fun q=>some q
def ZDF (a:Int):Option Bool:=some (a != a)
def ZES (c y:Int):Option Int:=(ZDF c).bind fun b=>(ZDF y).bind fun a=>bif b then (bif a then (some (0:Int))else (some (-1:Int)))else (bif a then (some (1:Int))else (bif (decide (c < y))then (some (-1:Int))else (bif (decide (c > y))then (some (1:Int))else (some (0:Int)))))
def Zrc (a b:Str):Option Int:=some (Lib.compareBytes a b)
def ZB3 (a b:Str):Option Int:=(Zrc a b).bind fun q=>some q
def ZFI (a:Int):Option Int:=some a
def Zsw (c:Int->ZnR->Int->Int->ZLL) (a:Int) (e:ZnR) (f d:Int):ZLL:=bif (decide (d < f))then ((idx e d).bind fun b=>bif (b != a)then (some (.ret b))else (chk (inK .i64 (d+1)) <|c a e f (d+1)))else (some (.brk a))
def Zz5:Nat->Int->ZnR->Int->Int->ZLL
 |0,_,_,_,_=>none
 |n_+1,zero,t6,t7,t8=>Zsw (Zz5 n_) zero t6 t7 t8
def ZIw (n:Nat) (s:(Int×ZnR×Int×Int)):ZLL:=Zz5 n s.1 s.2.1 s.2.2.1 s.2.2.2
def ZF8 (b:(Int×ZnR×Int×Int)->ZLL) (s:(Int×ZnR×Int×Int)):ZLL:=Zsw (fun a c e d=>b (a,c,e,d)) s.1 s.2.1 s.2.2.1 s.2.2.2
theorem ZKd:∀n s,ZIw (n+1) s=ZF8 (ZIw n) s:=fun _ _=>rfl
def ZCp (a:ZnR):Option Int:=(Zz5 big (0:Int) a (a.length:Int) (0:Int)).bind fun
 | .ret b=>some b
 | .brk c=>ZFI c
def ZGf (a b:ZnM):Option Int:=(ZES a.Hash b.Hash).bind fun q=>(ZB3 a.Key b.Key).bind fun c=>(ZCp ([q,c]:ZnR)).bind fun d=>some d
def ZqP (a:Zom):Option Zom:=some a
def ZqQ (c:ZS6) (a b i:Int) (d:Zom):Option Zom:=chk (inK .i64 (i+1)) <|c a b (i+1) d
def Zpl (f:ZS5) (a b i j:Int) (g:Bool) (c:Zom):ZKY:=bif g then (chk (inK .i64 (j - 1)) <|chk (inK .i64 (j - 1)) <|chk (inR (j - 1) (c.length:Int)) <|(c[((j - 1)).toNat]?).bind fun d=>chk (inR j (c.length:Int)) <|(c[(j).toNat]?).bind fun e=>chk (inR j (c.length:Int)) <|chk (inR (j - 1) ((c.set ((j).toNat) d).length:Int)) <|chk (inK .i64 (j - 1)) <|f a b i (j - 1) ((c.set ((j).toNat) d).set (((j - 1)).toNat) e))else (some (a,b,i,c))
def Zqt (f:ZS5) (a b i j:Int) (c:Zom):ZKY:=bif (decide (j > a))then (chk (inR j (c.length:Int)) <|(c[(j).toNat]?).bind fun e=>chk (inK .i64 (j - 1)) <|chk (inR (j - 1) (c.length:Int)) <|(c[((j - 1)).toNat]?).bind fun d=>(ZGf e d).bind fun q=>Zpl f a b i j (decide (q < 0)) c)else (Zpl f a b i j false c)
def Zog:Nat->Int->Int->Int->Int->Zom->ZKY
 |0,_,_,_,_,_=>none
 |n_+1,a,b,i,j,data=>Zqt (Zog n_) a b i j data
def Ztk (n:Nat) (s:(Int×Int×Int×Int×Zom)):ZKY:=Zog n s.1 s.2.1 s.2.2.1 s.2.2.2.1 s.2.2.2.2
def Ztl (c:ZZx) (s:(Int×Int×Int×Int×Zom)):ZKY:=Zqt (fun a b i j d=>c (a,b,i,j,d)) s.1 s.2.1 s.2.2.1 s.2.2.2.1 s.2.2.2.2
theorem ZzT:∀n s,Ztk (n+1) s=Ztl (Ztk n) s:=fun _ _=>rfl
def Zqu (d:ZS6) (a b i:Int) (c:Zom):Option Zom:=bif (decide (i < b))then ((Zog big a b i i c).bind fun(e,g,h,f)=>ZqQ d e g h f)else (some c)
def Zox:Nat->Int->Int->Int->Zom->Option Zom
 |0,_,_,_,_=>none
 |n_+1,a,b,i,data=>Zqu (Zox n_) a b i data
def ZpG (c:Zom) (a b:Int):Option Zom:=chk (inK .i64 (a+1)) <|(Zox big a b (a+1) c).bind fun d=>ZqP d
def Zpp (c:Zom) (a b:Int):Option Zom:=(ZpG c a b).bind fun r=>chk (decide (r.length=c.length)&&true) (some r)
def ZrK (h:ZZD) (a b e:Int) (c d:Bool) (f:Zom):ZRp:=chk (inK .i64 (b - a)) <|bif (decide ((b - a)<=12))then ((Zpp f a b).bind fun g=>some (.ret g))else (bif (e == 0)then (none)else (bif (!c)then (none)else (none)))
def Zsl:Nat->Int->Int->Int->Bool->Bool->Zom->ZRp
 |0,_,_,_,_,_,_=>none
 |n_+1,a,b,limit,wasBalanced,wasPartitioned,data=>ZrK (Zsl n_) a b limit wasBalanced wasPartitioned data
def Zta (d:Zom) (a b c:Int):Option Zom:=(Zsl big a b c true true d).bind fun
 | .ret e=>some e
 | .brk _=>none
def Zqn (c:Zom) (a b d:Int):Option Zom:=(Zta c a b d).bind fun r=>chk (decide (r.length=c.length)&&true) (some r)
def ZqG (a:Zom):Option Zom:=(ZzU (IntKind.wrap .u64 (a.length:Int))).bind fun q=>(Zqn a 0 (a.length:Int) q).bind fun b=>some b
def ZoZ (a:Zom):Option Zom:=(ZqG a).bind fun r=>chk (decide (r.length=a.length)&&true) (some r)
def ZG0 (b:Zom):Option Zom:=(ZoZ b).bind fun a=>some a
def ZCU (b:ZTa) (f:ZCq) (c i:Int) (a:G_api_Column) (d:(List (Str×Int))) (e:Zom):Option Zom:=chk (inK .i64 (i+1)) <|b f c (i+1) a d e
def ZCV (f:ZTa) (n:Int) (j:ZCq) (g i:Int) (e:G_api_Column) (h:(List (Str×Int))) (b:Zom) (k:ZnK):Option Zom:=chk (inR n (b.length:Int)) <|(b[(n).toNat]?).bind fun a=>chk (inK .i64 (a.Count+1)) <|chk (inR n (b.length:Int)) <|(b[(n).toNat]?).bind fun c=>chk (inR n ((b.set ((n).toNat) (ZnM.mk c.Key c.Hash (a.Count+1) c.Sum)).length:Int)) <|((b.set ((n).toNat) (ZnM.mk c.Key c.Hash (a.Count+1) c.Sum))[(n).toNat]?).bind fun Sum_e=>(ZFz Sum_e.Sum k).bind fun q=>chk (inR n ((b.set ((n).toNat) (ZnM.mk c.Key c.Hash (a.Count+1) c.Sum)).length:Int)) <|((b.set ((n).toNat) (ZnM.mk c.Key c.Hash (a.Count+1) c.Sum))[(n).toNat]?).bind fun d=>ZCU f j g i e h ((b.set ((n).toNat) (ZnM.mk c.Key c.Hash (a.Count+1) c.Sum)).set ((n).toNat) (ZnM.mk d.Key d.Hash d.Count q))
def Zyx (d:ZTa) (f:ZCq) (e i:Int) (h:Bool) (a:G_api_Column) (c:(List (Str×Int))) (b:Zom) (k:G_api_Cell) (j:ZnK):Option Zom:=bif h then (ZCU d f e i a c b)else (bif (!(Zg8 (k:= .str) (v:=(.int .i64)) (car:=ZBM) c k.Text).isSome)then ((ZHv k.Text).bind fun q=>(Zzm).bind fun g=>chk (Zi5 (b.length+([(ZnM.mk k.Text q 0 g)]:Zom).length) 96) <|ZCV d (b.length:Int) f e i a (setB (k:= .str) (v:=(.int .i64)) (car:=ZBM) c k.Text (b.length:Int)) (b++([(ZnM.mk k.Text q 0 g)]:Zom)) j)else (ZCV d ((Zg8 (k:= .str) (v:=(.int .i64)) (car:=ZBM) c k.Text).getD (0:Int)) f e i a c b j))
def ZDA (b:ZTa) (e:ZCq) (c i:Int) (a:G_api_Column) (f:(List (Str×Int))) (d:Zom):Option Zom:=bif (decide (i < c))then ((idx e i).bind fun k=>(idx a.Cells i).bind fun Cell=>(ZIL Cell).bind fun(g,h)=>bif k.Null then (Zyx b e c i true a f d k g)else (Zyx b e c i (!h) a f d k g))else (some d)
def Zwo:Nat->ZCq->Int->Int->G_api_Column->(List (Str×Int))->Zom->Option Zom
 |0,_,_,_,_,_,_=>none
 |n_+1,t15,t16,i,value,at_,out=>ZDA (Zwo n_) t15 t16 i value at_ out
def ZH5 (n:Nat) (s:(ZCq×Int×Int×G_api_Column×(List (Str×Int))×Zom)):Option Zom:=Zwo n s.1 s.2.1 s.2.2.1 s.2.2.2.1 s.2.2.2.2.1 s.2.2.2.2.2
def ZFx (b:(ZCq×Int×Int×G_api_Column×(List (Str×Int))×Zom)->Option Zom) (s:(ZCq×Int×Int×G_api_Column×(List (Str×Int))×Zom)):Option Zom:=ZDA (fun f c i a d e=>b (f,c,i,a,d,e)) s.1 s.2.1 s.2.2.1 s.2.2.2.1 s.2.2.2.2.1 s.2.2.2.2.2
theorem ZJT:∀n s,ZH5 (n+1) s=ZFx (ZH5 n) s:=fun _ _=>rfl
def ZHu (b a:G_api_Column):Option Zom:=(Zwo big b.Cells (b.Cells.length:Int) (0:Int) a ([]:(List (Str×Int))) ([]:Zom)).bind fun c=>ZG0 c
def ZBU (a b:ZnM):Option Int:=(ZB3 a.Key b.Key).bind fun q=>some q
def Zqv (a:Zom):Option Zom:=some a
def Zqw (c:ZS6) (a b i:Int) (d:Zom):Option Zom:=chk (inK .i64 (i+1)) <|c a b (i+1) d
def Zo1 (f:ZS5) (a b i j:Int) (g:Bool) (c:Zom):ZKY:=bif g then (chk (inK .i64 (j - 1)) <|chk (inK .i64 (j - 1)) <|chk (inR (j - 1) (c.length:Int)) <|(c[((j - 1)).toNat]?).bind fun d=>chk (inR j (c.length:Int)) <|(c[(j).toNat]?).bind fun e=>chk (inR j (c.length:Int)) <|chk (inR (j - 1) ((c.set ((j).toNat) d).length:Int)) <|chk (inK .i64 (j - 1)) <|f a b i (j - 1) ((c.set ((j).toNat) d).set (((j - 1)).toNat) e))else (some (a,b,i,c))
def Zp9 (f:ZS5) (a b i j:Int) (c:Zom):ZKY:=bif (decide (j > a))then (chk (inR j (c.length:Int)) <|(c[(j).toNat]?).bind fun e=>chk (inK .i64 (j - 1)) <|chk (inR (j - 1) (c.length:Int)) <|(c[((j - 1)).toNat]?).bind fun d=>(ZBU e d).bind fun q=>Zo1 f a b i j (decide (q < 0)) c)else (Zo1 f a b i j false c)
def Zoa:Nat->Int->Int->Int->Int->Zom->ZKY
 |0,_,_,_,_,_=>none
 |n_+1,a,b,i,j,data=>Zp9 (Zoa n_) a b i j data
def ZsT (n:Nat) (s:(Int×Int×Int×Int×Zom)):ZKY:=Zoa n s.1 s.2.1 s.2.2.1 s.2.2.2.1 s.2.2.2.2
def ZsU (c:ZZx) (s:(Int×Int×Int×Int×Zom)):ZKY:=Zp9 (fun a b i j d=>c (a,b,i,j,d)) s.1 s.2.1 s.2.2.1 s.2.2.2.1 s.2.2.2.2
theorem Zze:∀n s,ZsT (n+1) s=ZsU (ZsT n) s:=fun _ _=>rfl
def Zqa (d:ZS6) (a b i:Int) (c:Zom):Option Zom:=bif (decide (i < b))then ((Zoa big a b i i c).bind fun(e,g,h,f)=>Zqw d e g h f)else (some c)
def Zop:Nat->Int->Int->Int->Zom->Option Zom
 |0,_,_,_,_=>none
 |n_+1,a,b,i,data=>Zqa (Zop n_) a b i data
def Zpq (c:Zom) (a b:Int):Option Zom:=chk (inK .i64 (a+1)) <|(Zop big a b (a+1) c).bind fun d=>Zqv d
def Zpa (c:Zom) (a b:Int):Option Zom:=(Zpq c a b).bind fun r=>chk (decide (r.length=c.length)&&true) (some r)
def Zre (h:ZZD) (a b e:Int) (c d:Bool) (f:Zom):ZRp:=chk (inK .i64 (b - a)) <|bif (decide ((b - a)<=12))then ((Zpa f a b).bind fun g=>some (.ret g))else (bif (e == 0)then (none)else (bif (!c)then (none)else (none)))
def ZrL:Nat->Int->Int->Int->Bool->Bool->Zom->ZRp
 |0,_,_,_,_,_,_=>none
 |n_+1,a,b,limit,wasBalanced,wasPartitioned,data=>Zre (ZrL n_) a b limit wasBalanced wasPartitioned data
def ZsF (d:Zom) (a b c:Int):Option Zom:=(ZrL big a b c true true d).bind fun
 | .ret e=>some e
 | .brk _=>none
def ZpV (c:Zom) (a b d:Int):Option Zom:=(ZsF c a b d).bind fun r=>chk (decide (r.length=c.length)&&true) (some r)
def Zqk (a:Zom):Option Zom:=(ZzU (IntKind.wrap .u64 (a.length:Int))).bind fun q=>(ZpV a 0 (a.length:Int) q).bind fun b=>some b
def ZoR (a:Zom):Option Zom:=(Zqk a).bind fun r=>chk (decide (r.length=a.length)&&true) (some r)
def Zwj (b a:G_api_Column):Option Zom:=(ZHu b a).bind fun l=>(ZoR l).bind fun c=>some c
def ZC7 (a:ZyE):Option ZyE:=some a
def ZAl (c:ZS9) (b:Zom) (k:Int) (f:Zom) (e a:Int) (d:ZyE):Option ZyE:=chk (inK .i64 (a+1)) <|c b k f e (a+1) d
def ZAm (a:ZS9) (b:Zom) (k:Int) (n:Zom) (h g:Int) (m:Bool) (d:ZyE) (e:ZnM):Option ZyE:=bif m then ((ZIM e.Count 1).bind fun q=>(ZHM e.Sum q).bind fun f=>(idx b k).bind fun l=>(idx b k).bind fun c=>(ZIM c.Count 1).bind fun j=>(ZHM l.Sum j).bind fun i=>chk (Zi5 (d.length+([(ZnV.mk f i)]:ZyE).length) 128) <|ZAl a b k n h g (d++([(ZnV.mk f i)]:ZyE)))else (ZAl a b k n h g d)
def ZC8 (a:ZS9) (b:Zom) (k:Int) (h:Zom) (f d:Int) (c:ZyE) (e:ZnM):Option ZyE:=bif (decide (k < (b.length:Int)))then ((idx b k).bind fun g=>ZAm a b k h f d (g.Key == e.Key) c e)else (ZAm a b k h f d false c e)
def ZAn (f:ZZI) (b:Zom) (k:Int) (h:Zom) (d c:Int) (g:Bool) (a:ZyE) (e:ZnM):ZOv:=bif g then (chk (inK .i64 (k+1)) <|f b (k+1) h d c a e)else (some (b,k,h,d,c,a,e))
def ZCc (a:ZZI) (b:Zom) (k:Int) (h:Zom) (f d:Int) (c:ZyE) (e:ZnM):ZOv:=bif (decide (k < (b.length:Int)))then ((idx b k).bind fun g=>ZAn a b k h f d (Op.bytesLess g.Key e.Key) c e)else (ZAn a b k h f d false c e)
def Zt7:Nat->Zom->Int->Zom->Int->Int->ZyE->ZnM->ZOv
 |0,_,_,_,_,_,_,_=>none
 |n_+1,b,k,t9,t10,t11,out,e=>ZCc (Zt7 n_) b k t9 t10 t11 out e
def ZFm (n:Nat) (s:(Zom×Int×Zom×Int×Int×ZyE×ZnM)):ZOv:=Zt7 n s.1 s.2.1 s.2.2.1 s.2.2.2.1 s.2.2.2.2.1 s.2.2.2.2.2.1 s.2.2.2.2.2.2
def ZFn (a:(Zom×Int×Zom×Int×Int×ZyE×ZnM)->ZOv) (s:(Zom×Int×Zom×Int×Int×ZyE×ZnM)):ZOv:=ZCc (fun b k g f c d e=>a (b,k,g,f,c,d,e)) s.1 s.2.1 s.2.2.1 s.2.2.2.1 s.2.2.2.2.1 s.2.2.2.2.2.1 s.2.2.2.2.2.2
theorem ZIk:∀n s,ZFm (n+1) s=ZFn (ZFm n) s:=fun _ _=>rfl
def Zyb (f:ZS9) (b:Zom) (k:Int) (g:Zom) (d a:Int) (c:ZyE):Option ZyE:=bif (decide (a < d))then ((idx g a).bind fun e=>(Zt7 big b k g d a c e).bind fun(h,l,n,j,o,m,i)=>ZC8 f h l n j o m i)else (some c)
def ZsG:Nat->Zom->Int->Zom->Int->Int->ZyE->Option ZyE
 |0,_,_,_,_,_,_=>none
 |n_+1,b,k,t9,t10,t11,out=>Zyb (ZsG n_) b k t9 t10 t11 out
def ZFo (n:Nat) (s:(Zom×Int×Zom×Int×Int×ZyE)):Option ZyE:=ZsG n s.1 s.2.1 s.2.2.1 s.2.2.2.1 s.2.2.2.2.1 s.2.2.2.2.2
def ZCd (a:(Zom×Int×Zom×Int×Int×ZyE)->Option ZyE) (s:(Zom×Int×Zom×Int×Int×ZyE)):Option ZyE:=Zyb (fun b k f e c d=>a (b,k,f,e,c,d)) s.1 s.2.1 s.2.2.1 s.2.2.2.1 s.2.2.2.2.1 s.2.2.2.2.2
theorem ZIl:∀n s,ZFo (n+1) s=ZCd (ZFo n) s:=fun _ _=>rfl
def Zz4 (a b:Zom):Option ZyE:=(ZsG big b (0:Int) a (a.length:Int) (0:Int) ([]:ZyE)).bind fun c=>ZC7 c
def ZCB (c a ZlY b:G_api_Column):Option ZyE:=(Zwj c a).bind fun q=>(Zwj ZlY b).bind fun e=>(Zz4 q e).bind fun d=>some d
def ZAG (s:Str):Option Str:=some s
def ZwD (a:ZNH) (s:Str) (b:Bool):Option Str:=bif b then (chk (inK .i64 ((s.length:Int) - 1)) <|chk (Zca 0 ((s.length:Int) - 1) (s.length:Int)) <|a (s.take (((s.length:Int) - 1)).toNat))else (some s)
def Zy3 (a:ZNH) (s:Str):Option Str:=bif (decide ((s.length:Int) > 0))then (chk (inK .i64 ((s.length:Int) - 1)) <|(idx s ((s.length:Int) - 1)).bind fun c=>ZwD a s (((c.toNat:Nat):Int) == 32))else (ZwD a s false)
def ZtG:Nat->Str->Option Str
 |0,_=>none
 |n_+1,s=>Zy3 (ZtG n_) s
def ZDp (n:Nat) (s:Str):Option Str:=ZtG n s
def ZDq (a:ZNH) (s:Str):Option Str:=Zy3 (fun s=>a s) s
theorem ZGU:∀n s,ZDp (n+1) s=ZDq (ZDp n) s:=fun _ _=>rfl
def ZAH (s:Str):Option Str:=(ZtG big s).bind fun a=>ZAG a
def ZwE (a:ZNH) (s:Str) (b:Bool):Option Str:=bif b then (chk (Zca 1 (s.length:Int) (s.length:Int)) <|a (s.drop ((1:Int)).toNat))else (some s)
def Zy4 (a:ZNH) (s:Str):Option Str:=bif (decide ((s.length:Int) > 0))then ((idx s 0).bind fun c=>ZwE a s (((c.toNat:Nat):Int) == 32))else (ZwE a s false)
def ZtH:Nat->Str->Option Str
 |0,_=>none
 |n_+1,s=>Zy4 (ZtH n_) s
def ZDr (n:Nat) (s:Str):Option Str:=ZtH n s
def ZDs (a:ZNH) (s:Str):Option Str:=Zy4 (fun s=>a s) s
theorem ZGV:∀n s,ZDr (n+1) s=ZDs (ZDr n) s:=fun _ _=>rfl
def Zy5 (s:Str):Option Str:=(ZtH big s).bind fun a=>ZAH a
def ZEE (b:ZnR):Option Str:=some (b.map fun n=>UInt8.ofNat (Int.toNat n))
def ZAI (a:ZVY) (c i:Int) (b:ZnR):Option ZnR:=chk (inK .i64 (i+1)) <|a c (i+1) b
def ZAJ (a:ZVY) (i f c:Int) (e:Bool) (b:ZnR):Option ZnR:=bif e then (chk (inR i (b.length:Int)) <|(b[(i).toNat]?).bind fun d=>chk (inR i (b.length:Int)) <|ZAI a f c (b.set ((i).toNat) (IntKind.wrap .u8 (d+32))))else (ZAI a f c b)
def ZHl (a:ZVY) (e i:Int) (b:ZnR):Option ZnR:=bif (decide (i < e))then (chk (inR i (b.length:Int)) <|(b[(i).toNat]?).bind fun d=>bif (decide (d>=65))then (chk (inR i (b.length:Int)) <|(b[(i).toNat]?).bind fun c=>ZAJ a i e i (decide (c<=90)) b)else (ZAJ a i e i false b))else (some b)
def ZtI:Nat->Int->Int->ZnR->Option ZnR
 |0,_,_,_=>none
 |n_+1,t8,i,b=>ZHl (ZtI n_) t8 i b
def ZFt (s:Str):Option Str:=chk (decide (s.length<=281474976710656)) <|(ZtI big ((s.map fun b=>((b.toNat:Nat):Int)).length:Int) (0:Int) (s.map fun b=>((b.toNat:Nat):Int))).bind fun a=>ZEE a
def ZDX (c:Bool) (b a:Str):ZOn:=some (c,b,a,true)
def Zv2 (c:ZZn) (e:Bool) (b a:Str) (i:Int) (d:Bool):ZOt:=bif d then (some (.ret (false,([]:Str),([]:Str),false)))else (chk (inK .i64 (i+1)) <|c e b a (i+1))
def ZuJ (d:ZZn) (e:Bool) (b a:Str) (i:Int):ZOt:=bif (decide (i < (a.length:Int)))then ((idx a i).bind fun c=>bif (decide (((c.toNat:Nat):Int) < 48))then (Zv2 d e b a i true)else ((idx a i).bind fun f=>Zv2 d e b a i (decide (((f.toNat:Nat):Int) > 57))))else (some (.brk (e,b,a)))
def Zrv:Nat->Bool->Str->Str->Int->ZOt
 |0,_,_,_,_=>none
 |n_+1,neg,digits,places,i=>ZuJ (Zrv n_) neg digits places i
def ZCP (n:Nat) (s:(Bool×Str×Str×Int)):ZOt:=Zrv n s.1 s.2.1 s.2.2.1 s.2.2.2
def Zyr (c:(Bool×Str×Str×Int)->ZOt) (s:(Bool×Str×Str×Int)):ZOt:=ZuJ (fun d b a i=>c (d,b,a,i)) s.1 s.2.1 s.2.2.1 s.2.2.2
theorem ZGw:∀n s,ZCP (n+1) s=Zyr (ZCP n) s:=fun _ _=>rfl
def ZoX (c:Bool) (b a:Str) (d:Bool):ZOn:=bif d then (some (false,([]:Str),([]:Str),false))else ((Zrv big c b a (0:Int)).bind fun
 | .ret e=>some e
 | .brk (x0,x1,x2)=>ZDX x0 x1 x2)
def Zv3 (s:Str) (b:Bool) (a:Str) (k:Int) (d:Bool):ZOn:=bif d then (some (false,([]:Str),([]:Str),false))else (bif (k == (s.length:Int))then (some (b,a,([]:Str),true))else (chk (inK .i64 (k+1)) <|chk (Zca (k+1) (s.length:Int) (s.length:Int)) <|(idx s k).bind fun c=>bif (((c.toNat:Nat):Int) != 46)then (ZoX b a (s.drop ((k+1)).toNat) true)else (bif (decide (((s.drop ((k+1)).toNat).length:Int) < 1))then (ZoX b a (s.drop ((k+1)).toNat) true)else (ZoX b a (s.drop ((k+1)).toNat) (decide (((s.drop ((k+1)).toNat).length:Int) > 9))))))
def ZzM (s:Str) (a:Bool) (k:Int):ZOn:=chk (Zca 0 k (s.length:Int)) <|bif (decide (k < 1))then (Zv3 s a (s.take (k).toNat) k true)else (Zv3 s a (s.take (k).toNat) k (decide (k > 15)))
def Zs6 (a:Str->Bool->Int->ZNB) (s:Str) (b:Bool) (k:Int) (c:Bool):ZNB:=bif c then (chk (inK .i64 (k+1)) <|a s b (k+1))else (some (s,b,k))
def Zys (a:Str->Bool->Int->ZNB) (s:Str) (b:Bool) (k:Int):ZNB:=bif (decide (k < (s.length:Int)))then ((idx s k).bind fun c=>bif (decide (((c.toNat:Nat):Int)>=48))then ((idx s k).bind fun d=>Zs6 a s b k (decide (((d.toNat:Nat):Int)<=57)))else (Zs6 a s b k false))else (Zs6 a s b k false)
def Zs5:Nat->Str->Bool->Int->ZNB
 |0,_,_,_=>none
 |n_+1,s,neg,k=>Zys (Zs5 n_) s neg k
def ZCQ (n:Nat) (s:(Str×Bool×Int)):ZNB:=Zs5 n s.1 s.2.1 s.2.2
def ZCR (a:(Str×Bool×Int)->ZNB) (s:(Str×Bool×Int)):ZNB:=Zys (fun s b k=>a (s,b,k)) s.1 s.2.1 s.2.2
theorem ZGx:∀n s,ZCQ (n+1) s=ZCR (ZCQ n) s:=fun _ _=>rfl
def Zpv (s:Str) (a:Bool):ZOn:=(Zs5 big s a (0:Int)).bind fun(c,d,b)=>ZzM c d b
def Zs7 (s:Str) (b a:Bool):ZOn:=bif a then ((idx s 0).bind fun c=>chk (Zca 1 (s.length:Int) (s.length:Int)) <|Zpv (s.drop ((1:Int)).toNat) (((c.toNat:Nat):Int) == 45))else (Zpv s b)
def ZuT (s:Str):ZOn:=bif (decide ((s.length:Int) > 0))then ((idx s 0).bind fun c=>bif (((c.toNat:Nat):Int) == 43)then (Zs7 s false true)else ((idx s 0).bind fun a=>Zs7 s false (((a.toNat:Nat):Int) == 45)))else (Zs7 s false false)
def Zvh (a:Str):Option Str:=some a
def Zvi (a:Str) (b:Bool):Option Str:=bif b then (chk (decide (([45]:Str).length+a.length<=Zq)) <|Zvh (([45]:Str)++a))else (Zvh a)
def Zvj (b:Bool) (a:Str):Option Str:=bif b then (Zvi a (!(a == ([48]:Str))))else (Zvi a false)
def ZyX (c:Bool) (b a:Str):Option Str:=bif (!(a == ([]:Str)))then (chk (decide (([46]:Str).length+a.length<=Zq)) <|chk (decide (b.length+(([46]:Str)++a).length<=Zq)) <|Zvj c (b++(([46]:Str)++a)))else (Zvj c b)
def Zvk (d:ZS2) (c:Bool) (b a:Str) (e:Bool):ZKI:=bif e then (chk (inK .i64 ((a.length:Int) - 1)) <|chk (Zca 0 ((a.length:Int) - 1) (a.length:Int)) <|d c b (a.take (((a.length:Int) - 1)).toNat))else (some (c,b,a))
def ZxJ (d:ZS2) (e:Bool) (b a:Str):ZKI:=bif (decide ((a.length:Int) > 0))then (chk (inK .i64 ((a.length:Int) - 1)) <|(idx a ((a.length:Int) - 1)).bind fun c=>Zvk d e b a (((c.toNat:Nat):Int) == 48))else (Zvk d e b a false)
def ZsI:Nat->Bool->Str->Str->ZKI
 |0,_,_,_=>none
 |n_+1,neg,digits,places=>ZxJ (ZsI n_) neg digits places
def ZCi (n:Nat) (s:(Bool×Str×Str)):ZKI:=ZsI n s.1 s.2.1 s.2.2
def ZCj (c:(Bool×Str×Str)->ZKI) (s:(Bool×Str×Str)):ZKI:=ZxJ (fun d b a=>c (d,b,a)) s.1 s.2.1 s.2.2
theorem ZF2:∀n s,ZCi (n+1) s=ZCj (ZCi n) s:=fun _ _=>rfl
def ZyY (c:Bool) (b a:Str):Option Str:=(ZsI big c b a).bind fun(d,e,f)=>ZyX d e f
def Zvl (d:ZS2) (c:Bool) (a b:Str) (e:Bool):ZKI:=bif e then (chk (Zca 1 (a.length:Int) (a.length:Int)) <|d c (a.drop ((1:Int)).toNat) b)else (some (c,a,b))
def ZxK (d:ZS2) (e:Bool) (a b:Str):ZKI:=bif (decide ((a.length:Int) > 1))then ((idx a 0).bind fun c=>Zvl d e a b (((c.toNat:Nat):Int) == 48))else (Zvl d e a b false)
def ZsJ:Nat->Bool->Str->Str->ZKI
 |0,_,_,_=>none
 |n_+1,neg,digits,places=>ZxK (ZsJ n_) neg digits places
def ZCk (n:Nat) (s:(Bool×Str×Str)):ZKI:=ZsJ n s.1 s.2.1 s.2.2
def ZCl (c:(Bool×Str×Str)->ZKI) (s:(Bool×Str×Str)):ZKI:=ZxK (fun d b a=>c (d,b,a)) s.1 s.2.1 s.2.2
theorem ZF3:∀n s,ZCk (n+1) s=ZCl (ZCk n) s:=fun _ _=>rfl
def Zxq (c:Bool) (b a:Str):Option Str:=(ZsJ big c b a).bind fun(d,e,f)=>ZyY d e f
def ZEZ (n:Int):Option Int:=some n
def ZBi (a:Str->Int->Int->ZLL) (s:Str) (n i:Int) (b:Bool):ZLL:=bif b then (some (.ret (-1:Int)))else (chk (inK .i64 (10*n)) <|(idx s i).bind fun c=>chk (inK .i64 ((10*n)+(IntKind.wrap .i64 (IntKind.wrap .u8 (((c.toNat:Nat):Int) - 48))))) <|chk (inK .i64 (i+1)) <|a s ((10*n)+(IntKind.wrap .i64 (IntKind.wrap .u8 (((c.toNat:Nat):Int) - 48)))) (i+1))
def ZHJ (a:Str->Int->Int->ZLL) (s:Str) (n i:Int):ZLL:=bif (decide (i < (s.length:Int)))then ((idx s i).bind fun c=>bif (decide (((c.toNat:Nat):Int) < 48))then (ZBi a s n i true)else ((idx s i).bind fun b=>ZBi a s n i (decide (((b.toNat:Nat):Int) > 57))))else (some (.brk n))
def Zxo:Nat->Str->Int->Int->ZLL
 |0,_,_,_=>none
 |n_+1,s,n,i=>ZHJ (Zxo n_) s n i
def ZsB (s:Str):Option Int:=(Zxo big s (0:Int) (0:Int)).bind fun
 | .ret q_=>some q_
 | .brk x0=>ZEZ x0
def Zwz (a:Bool):Option Bool:=some a
def ZCr (y:Int):Option Bool:=chk (decide ((4:Int)≠0)) <|bif ((Int.tmod y 4) == 0)then (chk (decide ((100:Int)≠0)) <|bif ((Int.tmod y 100) != 0)then (Zwz true)else (chk (decide ((400:Int)≠0)) <|Zwz ((Int.tmod y 400) == 0)))else (Zwz false)
def ZsK (a:Bool):Option Int:=bif a then (some (30:Int))else (some (31:Int))
def ZyZ (m:Int) (a:Bool):Option Int:=bif a then (some (29:Int))else (bif (m == 2)then (some (28:Int))else (bif (m == 4)then (ZsK true)else (bif (m == 6)then (ZsK true)else (bif (m == 9)then (ZsK true)else (ZsK (m == 11))))))
def ZBj (y m:Int):Option Int:=bif (m == 2)then ((ZCr y).bind fun q=>ZyZ m q)else (ZyZ m false)
def ZE0 (a n:Int):ZSY:=chk (inK .i64 (n+a)) <|chk (inK .i64 ((n+a) - 1)) <|chk (inK .i64 (((n+a) - 1) - 719162)) <|some ((((n+a) - 1) - 719162),true)
def ZHK (c:Int->Int->Int->Int->Int->ZNx) (b a d n m:Int):ZNx:=bif (decide (m < a))then ((ZBj b m).bind fun q=>chk (inK .i64 (n+q)) <|chk (inK .i64 (m+1)) <|c b a d (n+q) (m+1))else (some (d,n))
def ZBk:Nat->Int->Int->Int->Int->Int->ZNx
 |0,_,_,_,_,_=>none
 |n_+1,year,month,day,n,m=>ZHK (ZBk n_) year month day n m
def ZE1 (b a c n:Int):ZSY:=(ZBk big b a c n (1:Int)).bind fun(d,e)=>ZE0 d e
def ZBl (b:ZZq) (c a d n y:Int):ZS0:=chk (inK .i64 (y+1)) <|b c a d n (y+1)
def ZHL (c:ZZq) (b a d n y:Int):ZS0:=bif (decide (y < b))then (chk (inK .i64 (n+365)) <|(ZCr y).bind fun q=>bif q then (chk (inK .i64 ((n+365)+1)) <|ZBl c b a d ((n+365)+1) y)else (ZBl c b a d (n+365) y))else (some (b,a,d,n))
def Zxr:Nat->Int->Int->Int->Int->Int->ZS0
 |0,_,_,_,_,_=>none
 |n_+1,year,month,day,n,y=>ZHL (Zxr n_) year month day n y
def ZqU (year:Int) (month:Int) (day:Int) (t35:Bool):ZSY:=bif t35 then (some (0,false))else ((Zxr big year month day (0:Int) (1:Int)).bind fun(x0,x1,x2,x3)=>ZE1 x0 x1 x2 x3)
def ZC3 (b a c:Int):ZSY:=bif (decide (b < 1))then (ZqU b a c true)else (bif (decide (b > 9999))then (ZqU b a c true)else (bif (decide (a < 1))then (ZqU b a c true)else (bif (decide (a > 12))then (ZqU b a c true)else (bif (decide (c < 1))then (ZqU b a c true)else ((ZBj b a).bind fun q=>ZqU b a c (decide (c > q)))))))
def ZAD (b a c:Int):ZRr:=(ZC3 b a c).bind fun(q,d)=>some (b,a,c,d)
def ZAE (s:Str) (c:Bool):ZRr:=bif c then (chk (Zca 6 (s.length:Int) (s.length:Int)) <|(ZsB (s.drop ((6:Int)).toNat)).bind fun b=>chk (Zca 3 5 (s.length:Int)) <|(ZsB ((s.take ((5:Int)).toNat).drop ((3:Int)).toNat)).bind fun a=>chk (Zca 0 2 (s.length:Int)) <|(ZsB (s.take ((2:Int)).toNat)).bind fun d=>ZAD b a d)else (some (0,0,0,false))
def ZwA (s:Str) (f:Bool):ZRr:=bif f then (chk (Zca 0 4 (s.length:Int)) <|(ZsB (s.take ((4:Int)).toNat)).bind fun b=>chk (Zca 5 7 (s.length:Int)) <|(ZsB ((s.take ((7:Int)).toNat).drop ((5:Int)).toNat)).bind fun a=>chk (Zca 8 (s.length:Int) (s.length:Int)) <|(ZsB (s.drop ((8:Int)).toNat)).bind fun d=>ZAD b a d)else ((idx s 2).bind fun c=>bif (((c.toNat:Nat):Int) == 46)then ((idx s 5).bind fun e=>ZAE s (((e.toNat:Nat):Int) == 46))else (ZAE s false))
def ZAF (s:Str) (b:Bool):ZRr:=bif b then (ZwA s b)else ((idx s 4).bind fun c=>bif (((c.toNat:Nat):Int) == 47)then ((idx s 7).bind fun a=>ZwA s (((a.toNat:Nat):Int) == 47))else (ZwA s false))
def ZCs (s:Str):ZRr:=bif ((s.length:Int) != 10)then (some (0,0,0,false))else ((idx s 4).bind fun c=>bif (((c.toNat:Nat):Int) == 45)then ((idx s 7).bind fun a=>ZAF s (((a.toNat:Nat):Int) == 45))else (ZAF s false))
def ZDo (s:Str):Option Str:=some s
def ZGu (b:Int->Int->Str->Option Str) (n a:Int) (s:Str):Option Str:=bif (decide (a > 0))then (chk (decide ((10:Int)≠0)) <|chk (decide ((([(IntKind.wrap .u8 (48+(IntKind.wrap .u8 (Int.tmod n 10))))]:ZnR).map fun n=>UInt8.ofNat (Int.toNat n)).length+s.length<=Zq)) <|chk (decide ((10:Int)≠0)) <|chk (inK .i64 (Int.tdiv n 10)) <|chk (inK .i64 (a - 1)) <|b (Int.tdiv n 10) (a - 1) ((([(IntKind.wrap .u8 (48+(IntKind.wrap .u8 (Int.tmod n 10))))]:ZnR).map fun n=>UInt8.ofNat (Int.toNat n))++s))else (some s)
def ZyW:Nat->Int->Int->Str->Option Str
 |0,_,_,_=>none
 |n_+1,n,width,s=>ZGu (ZyW n_) n width s
def Zxp (n a:Int):Option Str:=(ZyW big n a ([]:Str)).bind fun b=>ZDo b
def Zrn:ZKG:=some (([]:Str),false)
def Zro (c:Bool) (b a:Str) (d:Bool):ZKG:=bif d then ((Zxq c b a).bind fun q=>some (q,true))else (Zrn)
def Ztn (h:Int) (t:Str) (j:Int) (i:Bool):ZKG:=bif i then ((ZuT t).bind fun(e,b,a,k)=>bif k then (bif (h == 4)then (Zro e b a true)else (Zro e b a (a == ([]:Str))))else (Zro e b a false))else (bif (j == 5)then ((ZCs t).bind fun(y,m,d,g)=>bif g then ((Zxp y 4).bind fun q=>chk (decide (q.length+([45]:Str).length<=Zq)) <|(Zxp m 2).bind fun c=>chk (decide ((q++([45]:Str)).length+c.length<=Zq)) <|chk (decide (((q++([45]:Str))++c).length+([45]:Str).length<=Zq)) <|(Zxp d 2).bind fun f=>chk (decide ((((q++([45]:Str))++c)++([45]:Str)).length+f.length<=Zq)) <|some (((((q++([45]:Str))++c)++([45]:Str))++f),true))else (Zrn))else (Zrn))
def Zw4 (a:Bool):ZKG:=bif a then (some (([102,97,108,115,101]:Str),true))else (Zrn)
def Zw5 (a:Str) (b:Bool):ZKG:=bif b then (some (([116,114,117,101]:Str),true))else (bif (a == ([102,97,108,115,101]:Str))then (Zw4 (a == ([102,97,108,115,101]:Str)))else (Zw4 (a == ([110,111]:Str))))
def Zvm (a:Int) (s:Str):ZKG:=(Zy5 s).bind fun t=>bif (a == 1)then (some (s,true))else (bif (a == 2)then ((ZFt t).bind fun q=>bif (q == ([116,114,117,101]:Str))then (Zw5 q (q == ([116,114,117,101]:Str)))else (Zw5 q (q == ([121,101,115]:Str))))else (bif (a == 3)then (Ztn a t a (a == 3))else (Ztn a t a (a == 4))))
def ZBn (a:ZnR):Option ZnR:=(Zpn a).bind fun q=>some q
def ZBo (d:ZZw) (a b:ZnR) (i c:Int) (e:ZnR):Option ZnR:=chk (inK .i64 (i+(b.length:Int))) <|chk (inR (i+(b.length:Int)) (e.length:Int)) <|chk (inK .i64 (i+1)) <|d a b (i+1) (e.set (((i+(b.length:Int))).toNat) (IntKind.wrap .u32 c))
def ZvX (h:ZnR->ZnR->Int->Int->Int->ZnR->ZPZ) (a b:ZnR) (i c j:Int) (e:ZnR):ZPZ:=bif (decide (j < (b.length:Int)))then ((idx a i).bind fun f=>(idx b j).bind fun g=>chk (inK .i64 (i+j)) <|chk (inR (i+j) (e.length:Int)) <|(e[((i+j)).toNat]?).bind fun d=>chk (inK .i64 (i+j)) <|chk (inR (i+j) (e.length:Int)) <|chk (decide (0<=(32:Int))) <|chk (inK .i64 (j+1)) <|h a b i (shrK .u64 (IntKind.wrap .u64 (c+(IntKind.wrap .u64 ((IntKind.wrap .u64 ((IntKind.wrap .u64 f)*(IntKind.wrap .u64 g)))+(IntKind.wrap .u64 d))))) 32) (j+1) (e.set (((i+j)).toNat) (IntKind.wrap .u32 (IntKind.wrap .u64 (c+(IntKind.wrap .u64 ((IntKind.wrap .u64 ((IntKind.wrap .u64 f)*(IntKind.wrap .u64 g)))+(IntKind.wrap .u64 d))))))))else (some (a,b,i,c,e))
def Zxt:Nat->ZnR->ZnR->Int->Int->Int->ZnR->ZPZ
 |0,_,_,_,_,_,_=>none
 |n_+1,a,b,i,c,j,out=>ZvX (Zxt n_) a b i c j out
def ZDS (n:Nat) (s:(ZnR×ZnR×Int×Int×Int×ZnR)):ZPZ:=Zxt n s.1 s.2.1 s.2.2.1 s.2.2.2.1 s.2.2.2.2.1 s.2.2.2.2.2
def ZzF (d:(ZnR×ZnR×Int×Int×Int×ZnR)->ZPZ) (s:(ZnR×ZnR×Int×Int×Int×ZnR)):ZPZ:=ZvX (fun a b i c j e=>d (a,b,i,c,j,e)) s.1 s.2.1 s.2.2.1 s.2.2.2.1 s.2.2.2.2.1 s.2.2.2.2.2
theorem ZHn:∀n s,ZDS (n+1) s=ZzF (ZDS n) s:=fun _ _=>rfl
def ZvY (rec_:ZZw) (a:ZnR) (b:ZnR) (i:Int) (out:ZnR):Option ZnR:=bif (decide (i < (a.length:Int)))then ((Zxt big a b i (0:Int) (0:Int) out).bind fun(x0,x1,x2,x3,x4)=>ZBo rec_ x0 x1 x2 x3 x4)else (some out)
def Zum:Nat->ZnR->ZnR->Int->ZnR->Option ZnR
 |0,_,_,_,_=>none
 |n_+1,a,b,i,out=>ZvY (Zum n_) a b i out
def ZDT (n:Nat) (s:(ZnR×ZnR×Int×ZnR)):Option ZnR:=Zum n s.1 s.2.1 s.2.2.1 s.2.2.2
def ZzG (c:(ZnR×ZnR×Int×ZnR)->Option ZnR) (s:(ZnR×ZnR×Int×ZnR)):Option ZnR:=ZvY (fun a b i d=>c (a,b,i,d)) s.1 s.2.1 s.2.2.1 s.2.2.2
theorem ZHo:∀n s,ZDT (n+1) s=ZzG (ZDT n) s:=fun _ _=>rfl
def ZAa (a b:ZnR):Option ZnR:=chk (inK .i64 ((a.length:Int)+(b.length:Int))) <|chk (mkOk ((a.length:Int)+(b.length:Int)) ((a.length:Int)+(b.length:Int)) 4) <|(Zum big a b (0:Int) (List.replicate (((a.length:Int)+(b.length:Int))).toNat (0:Int))).bind fun c=>ZBn c
def ZnY (a b:ZnP):Option ZnP:=(ZAa a.Words b.Words).bind fun q=>(ZoT (!(a.Neg == b.Neg)) q).bind fun c=>some c
def ZBw (c:Int) (a:ZnR):Option ZnR:=chk (Zi5 (a.length+([(IntKind.wrap .u32 c)]:ZnR).length) 4) <|some (a++([(IntKind.wrap .u32 c)]:ZnR))
def Zup (d:ZS7) (a b:ZnR) (c i:Int) (e:ZnR):ZEB:=chk (Zi5 (e.length+([(IntKind.wrap .u32 c)]:ZnR).length) 4) <|chk (decide (0<=(32:Int))) <|chk (inK .i64 (i+1)) <|d a b (shrK .u64 c 32) (i+1) (e++([(IntKind.wrap .u32 c)]:ZnR))
def Zuq (d:ZS7) (a b:ZnR) (c i:Int) (e:ZnR):ZEB:=bif (decide (i < (b.length:Int)))then ((idx b i).bind fun f=>Zup d a b (IntKind.wrap .u64 (c+(IntKind.wrap .u64 f))) i e)else (Zup d a b c i e)
def Zsu (d:ZS7) (a b:ZnR) (c i:Int) (g:Bool) (e:ZnR):ZEB:=bif g then (bif (decide (i < (a.length:Int)))then ((idx a i).bind fun f=>Zuq d a b (IntKind.wrap .u64 (c+(IntKind.wrap .u64 f))) i e)else (Zuq d a b c i e))else (some (c,e))
def Zv1 (d:ZS7) (a b:ZnR) (c i:Int) (e:ZnR):ZEB:=bif (decide (i < (a.length:Int)))then (Zsu d a b c i true e)else (Zsu d a b c i (decide (i < (b.length:Int))) e)
def ZqW:Nat->ZnR->ZnR->Int->Int->ZnR->ZEB
 |0,_,_,_,_,_=>none
 |n_+1,a,b,c,i,out=>Zv1 (ZqW n_) a b c i out
def ZDW (n:Nat) (s:(ZnR×ZnR×Int×Int×ZnR)):ZEB:=ZqW n s.1 s.2.1 s.2.2.1 s.2.2.2.1 s.2.2.2.2
def ZzL (d:(ZnR×ZnR×Int×Int×ZnR)->ZEB) (s:(ZnR×ZnR×Int×Int×ZnR)):ZEB:=Zv1 (fun a b c i e=>d (a,b,c,i,e)) s.1 s.2.1 s.2.2.1 s.2.2.2.1 s.2.2.2.2
theorem ZHr:∀n s,ZDW (n+1) s=ZzL (ZDW n) s:=fun _ _=>rfl
def ZwQ (a:ZnR) (b:ZnR):Option ZnR:=(ZqW big a b (0:Int) (0:Int) ([]:ZnR)).bind fun(x0,x1)=>ZBw x0 x1
def ZpT (a b:ZnP):Option ZnP:=bif (a.Neg == b.Neg)then ((ZwQ a.Words b.Words).bind fun q=>(ZoT a.Neg q).bind fun e=>some e)else ((Zqm a.Words b.Words).bind fun d=>bif (decide (d>=0))then ((ZsC a.Words b.Words).bind fun g=>(ZoT a.Neg g).bind fun f=>some f)else ((ZsC b.Words a.Words).bind fun c=>(ZoT b.Neg c).bind fun h=>some h))
def Zrw (a:ZnP):Option ZnP:=(ZoT (!a.Neg) a.Words).bind fun q=>some q
def ZuM (e c:Bool) (n d:ZnP) (b a:ZnR):ZJ2:=(Zsr n d).bind fun q=>some (q,true)
def Zyt (f g b:Bool) (n d:ZnP) (a c:ZnR):ZJ2:=bif f then ((Zrw n).bind fun e=>ZuM g b e d a c)else (ZuM g b n d a c)
def ZuN (g:ZZQ) (f i k c:Bool) (n d:ZnP) (h:Str) (a:Nat) (b e:ZnR):ZOu:=bif i then ((ZoL 10).bind fun q=>(ZnY d q).bind fun j=>g f k c n j h a b e)else (some (f,k,c,n,d,b,e))
def Zw8 (g:ZZQ) (h i e:Bool) (n d:ZnP) (b:Str) (a:Nat) (c f:ZnR):ZOu:=bif (decide (a < b.length))then (ZuN g h true i e n d b (a+(Utf8.decode ⟨List.toArray b⟩ a).2) c f)else (ZuN g h false i e n d b a c f)
def Zsj:Nat->Bool->Bool->Bool->ZnP->ZnP->Str->Nat->ZnR->ZnR->ZOu
 |0,_,_,_,_,_,_,_,_,_=>none
 |n_+1,neg,t2,t2_1,n,d,t43,t43_pos,t2_2,t2_3=>Zw8 (Zsj n_) neg t2 t2_1 n d t43 t43_pos t2_2 t2_3
def ZBZ (n:Nat) (s:(Bool×Bool×Bool×ZnP×ZnP×Str×Nat×ZnR×ZnR)):ZOu:=Zsj n s.1 s.2.1 s.2.2.1 s.2.2.2.1 s.2.2.2.2.1 s.2.2.2.2.2.1 s.2.2.2.2.2.2.1 s.2.2.2.2.2.2.2.1 s.2.2.2.2.2.2.2.2
def ZB0 (f:(Bool×Bool×Bool×ZnP×ZnP×Str×Nat×ZnR×ZnR)->ZOu) (s:(Bool×Bool×Bool×ZnP×ZnP×Str×Nat×ZnR×ZnR)):ZOu:=Zw8 (fun g i c n d h a b e=>f (g,i,c,n,d,h,a,b,e)) s.1 s.2.1 s.2.2.1 s.2.2.2.1 s.2.2.2.2.1 s.2.2.2.2.2.1 s.2.2.2.2.2.2.1 s.2.2.2.2.2.2.2.1 s.2.2.2.2.2.2.2.2
theorem ZFS:∀n s,ZBZ (n+1) s=ZB0 (ZBZ n) s:=fun _ _=>rfl
def Zyu (f:Bool) (a:Str) (m c:Bool) (n d:ZnP) (b e:ZnR):ZJ2:=(Zsj big f m c n d a 0 b e).bind fun(g,j,l,i,o,k,h)=>Zyt g j l i o k h
def Ztq (k:Bool->Str->Int->Int->Bool->Bool->ZnP->ZnP->ZnR->ZnR->ZnR->ZP9) (j:Bool) (a:Str) (i b:Int) (p e:Bool) (n d:ZnP) (h f g:ZnR):ZP9:=bif (decide (b < i))then (chk (inR b (h.length:Int)) <|(h[(b).toNat]?).bind fun c=>(ZoL 10).bind fun q=>(ZnY n q).bind fun m=>(ZoL (IntKind.wrap .i64 (IntKind.wrap .u8 (c - 48)))).bind fun o=>(ZpT m o).bind fun l=>chk (inK .i64 (b+1)) <|k j a i (b+1) p e l d h f g)else (some (j,a,p,e,n,d,f,g))
def ZuL:Nat->Bool->Str->Int->Int->Bool->Bool->ZnP->ZnP->ZnR->ZnR->ZnR->ZP9
 |0,_,_,_,_,_,_,_,_,_,_,_=>none
 |n_+1,neg,places,t28,t29,t2,t2_1,n,d,t27,t2_2,t2_3=>Ztq (ZuL n_) neg places t28 t29 t2 t2_1 n d t27 t2_2 t2_3
def ZB1 (n:Nat) (s:(Bool×Str×Int×Int×Bool×Bool×ZnP×ZnP×ZnR×ZnR×ZnR)):ZP9:=ZuL n s.1 s.2.1 s.2.2.1 s.2.2.2.1 s.2.2.2.2.1 s.2.2.2.2.2.1 s.2.2.2.2.2.2.1 s.2.2.2.2.2.2.2.1 s.2.2.2.2.2.2.2.2.1 s.2.2.2.2.2.2.2.2.2.1 s.2.2.2.2.2.2.2.2.2.2
def Zw9 (f:(Bool×Str×Int×Int×Bool×Bool×ZnP×ZnP×ZnR×ZnR×ZnR)->ZP9) (s:(Bool×Str×Int×Int×Bool×Bool×ZnP×ZnP×ZnR×ZnR×ZnR)):ZP9:=Ztq (fun i a h j k b n d g c e=>f (i,a,h,j,k,b,n,d,g,c,e)) s.1 s.2.1 s.2.2.1 s.2.2.2.1 s.2.2.2.2.1 s.2.2.2.2.2.1 s.2.2.2.2.2.2.1 s.2.2.2.2.2.2.2.1 s.2.2.2.2.2.2.2.2.1 s.2.2.2.2.2.2.2.2.2.1 s.2.2.2.2.2.2.2.2.2.2
theorem ZFT:∀n s,ZB1 (n+1) s=Zw9 (ZB1 n) s:=fun _ _=>rfl
def ZwG (s:Str):ZJ2:=(ZuT s).bind fun(e,c,a,f)=>bif (!f)then (some ((ZnK.mk (ZnP.mk false ([]:ZnR)) (ZnP.mk false ([]:ZnR))),false))else ((ZoL 1).bind fun d=>chk (decide (c.length+a.length<=Zq)) <|chk (decide ((c++a).length<=281474976710656)) <|(ZuL big e a (((c++a).map fun b=>((b.toNat:Nat):Int)).length:Int) (0:Int) false false (ZnP.mk false ([]:ZnR)) d ((c++a).map fun b=>((b.toNat:Nat):Int)) ([]:ZnR) ([]:ZnR)).bind fun(g,k,m,j,n,l,h,i)=>Zyu g k m j n l h i)
def ZvP (n:Int) (d b:Bool) (a c:ZnR):ZJ2:=(ZxO n 1).bind fun(f,q)=>some (f,true)
def ZvQ (e:Int) (t:Str) (h g c:Bool) (a b:ZnR):ZJ2:=bif h then (some ((ZnK.mk (ZnP.mk false ([]:ZnR)) (ZnP.mk false ([]:ZnR))),false))else (bif (e == 2)then (bif (t == ([116,114,117,101]:Str))then (ZvP (1:Int) g c a b)else (ZvP (0:Int) g c a b))else (bif (e == 5)then ((ZCs t).bind fun(y,m,d,q)=>(ZC3 y m d).bind fun(n,j)=>ZvP n g c a b)else ((ZwG t).bind fun(f,i)=>some (f,i))))
def ZxZ (a:Int) (s:Str):ZJ2:=(Zvm a s).bind fun(t,b)=>bif (!b)then (ZvQ a t true false false ([]:ZnR) ([]:ZnR))else (ZvQ a t (a == 1) false false ([]:ZnR) ([]:ZnR))
def Zxn (c:G_api_Cell):ZJ2:=bif c.Null then (some ((ZnK.mk (ZnP.mk false ([]:ZnR)) (ZnP.mk false ([]:ZnR))),false))else ((ZxZ 4 c.Text).bind fun(q,a)=>some (q,a))
def ZAC (a:Int):Option Int:=some a
def Zvg (a:Str->Int->Int->Option Int) (s:Str) (b i:Int):Option Int:=bif (decide (i < (s.length:Int)))then ((idx s i).bind fun c=>chk (inK .i64 (i+1)) <|a s (IntKind.wrap .u64 ((xorK .u64 b (IntKind.wrap .u64 ((c.toNat:Nat):Int)))*1099511628211)) (i+1))else (some b)
def Zwx:Nat->Str->Int->Int->Option Int
 |0,_,_,_=>none
 |n_+1,s,h_,i=>Zvg (Zwx n_) s h_ i
def ZDn (n:Nat) (s:(Str×Int×Int)):Option Int:=Zwx n s.1 s.2.1 s.2.2
def ZyT (a:(Str×Int×Int)->Option Int) (s:(Str×Int×Int)):Option Int:=Zvg (fun s b i=>a (s,b,i)) s.1 s.2.1 s.2.2
theorem ZGT:∀n s,ZDn (n+1) s=ZyT (ZDn n) s:=fun _ _=>rfl
def ZyU (s:Str):Option Int:=(Zwx big s (14695981039346656037:Int) (0:Int)).bind fun x0=>ZAC x0
def Zrt (b:Bool) (f:ZnK):Option Bool:=bif b then (some false)else (bif ((f.Num.Words.length:Int) == 0)then ((Zqm f.Den.Words ([1]:ZnR)).bind fun q=>some (q == 0))else ((ZwO f.Num.Words f.Den.Words).bind fun a=>(Zqm a ([1]:ZnR)).bind fun c=>some (c == 0)))
def Zon (f:ZnK):Option Bool:=(Zru f.Num).bind fun q=>bif (!q)then (Zrt true f)else ((Zru f.Den).bind fun a=>bif (!a)then (Zrt true f)else (bif f.Den.Neg then (Zrt true f)else (Zrt ((f.Den.Words.length:Int) == 0) f)))
def Zvq (a e d:Bool) (f:ZnK) (b c:ZnR):ZG5:=bif a then (some ((ZnK.mk (ZnP.mk false ([]:ZnR)) (ZnP.mk false ([]:ZnR))),3))else (some (f,0))
def ZqV (a b:ZnP):ZG5:=(Zsr a b).bind fun f=>bif (decide ((f.Num.Words.length:Int) > 256))then (Zvq true false false f ([]:ZnR) ([]:ZnR))else (Zvq (decide ((f.Den.Words.length:Int) > 256)) false false f ([]:ZnR) ([]:ZnR))
def ZxC (f:Bool) (a b:ZnK) (l k:Bool) (i j:ZnR):ZG5:=bif f then (some ((ZnK.mk (ZnP.mk false ([]:ZnR)) (ZnP.mk false ([]:ZnR))),1))else ((ZnY a.Num b.Den).bind fun q=>(ZnY b.Num a.Den).bind fun e=>(ZpT q e).bind fun d=>(ZnY a.Den b.Den).bind fun h=>(ZqV d h).bind fun(g,c)=>some (g,c))
def ZAf (a b:ZnK):ZG5:=(Zon a).bind fun q=>bif (!q)then (ZxC true a b false false ([]:ZnR) ([]:ZnR))else ((Zon b).bind fun c=>ZxC (!c) a b false false ([]:ZnR) ([]:ZnR))
def Zql (a b:ZnK):Option ZnK:=(ZAf a b).bind fun(f,q)=>some f
def ZsH (a:Bool):Option Bool:=some a
def Zxm (a b:ZnM):Option Bool:=bif (decide (a.Hash < b.Hash))then (ZsH true)else (bif (a.Hash == b.Hash)then (ZsH (Op.bytesLess a.Key b.Key))else (ZsH false))
def Zui (a:Zom):Option Zom:=some a
def Zxl (b:Bool) (e:ZnM) (a:Zom):Option Zom:=bif (!b)then (chk (Zi5 (a.length+([e]:Zom).length) 96) <|Zui (a++([e]:Zom)))else (Zui a)
def Zp3 (d:ZV5) (b:Bool) (h:Zom) (f a:Int) (e:ZnM) (c:Zom) (g:ZnM):ZNF:=chk (Zi5 (c.length+([g]:Zom).length) 96) <|chk (inK .i64 (a+1)) <|d b h f (a+1) e (c++([g]:Zom))
def Zuj (a:ZV5) (d:Bool) (h:Zom) (f c:Int) (g:Bool) (e:ZnM) (b:Zom) (i:ZnM):ZNF:=bif g then (chk (Zi5 (b.length+([e]:Zom).length) 96) <|Zp3 a true h f c e (b++([e]:Zom)) i)else (Zp3 a d h f c e b i)
def Zrm (c:ZV5) (a:Bool) (h:Zom) (g b:Int) (e:ZnM) (d:Zom):ZNF:=bif (decide (b < g))then ((idx h b).bind fun f=>bif (f.Key == e.Key)then (chk (inK .i64 (f.Count+e.Count)) <|(Zql f.Sum e.Sum).bind fun q=>Zp3 c true h g b e d (ZnM.mk f.Key f.Hash (f.Count+e.Count) q))else (bif (!a)then ((Zxm e f).bind fun i=>Zuj c a h g b i e d f)else (Zuj c a h g b false e d f)))else (some (a,e,d))
def Zsq:Nat->Bool->Zom->Int->Int->ZnM->Zom->ZNF
 |0,_,_,_,_,_,_=>none
 |n_+1,done,t9,t10,t11,e,out=>Zrm (Zsq n_) done t9 t10 t11 e out
def ZDQ (n:Nat) (s:(Bool×Zom×Int×Int×ZnM×Zom)):ZNF:=Zsq n s.1 s.2.1 s.2.2.1 s.2.2.2.1 s.2.2.2.2.1 s.2.2.2.2.2
def Zs0 (b:(Bool×Zom×Int×Int×ZnM×Zom)->ZNF) (s:(Bool×Zom×Int×Int×ZnM×Zom)):ZNF:=Zrm (fun a g f c e d=>b (a,g,f,c,e,d)) s.1 s.2.1 s.2.2.1 s.2.2.2.1 s.2.2.2.2.1 s.2.2.2.2.2
theorem ZDl:∀n s,ZDQ (n+1) s=Zs0 (ZDQ n) s:=fun _ _=>rfl
def Zsz (l:Zom) (e:ZnM):Option Zom:=(Zsq big false l (l.length:Int) (0:Int) e ([]:Zom)).bind fun(b,c,a)=>Zxl b c a
def ZAB (a:Zom):Option Zom:=some a
def Zwv (b:ZV4) (d:ZCq) (e i:Int) (a:G_api_Column) (c:Zom):Option Zom:=chk (inK .i64 (i+1)) <|b d e (i+1) a c
def Zww (b:ZV4) (g:ZCq) (h i:Int) (j:Bool) (a:G_api_Column) (e:Zom) (c:G_api_Cell) (f:ZnK):Option Zom:=bif j then (Zwv b g h i a e)else ((ZyU c.Text).bind fun q=>(Zsz e (ZnM.mk c.Text q 1 f)).bind fun d=>Zwv b g h i a d)
def Zvf (b:ZV4) (d:ZCq) (g i:Int) (a:G_api_Column) (e:Zom):Option Zom:=bif (decide (i < g))then ((idx d i).bind fun c=>(idx a.Cells i).bind fun Cell=>(Zxn Cell).bind fun(f,h)=>bif c.Null then (Zww b d g i true a e c f)else (Zww b d g i (!h) a e c f))else (some e)
def ZrR:Nat->ZCq->Int->Int->G_api_Column->Zom->Option Zom
 |0,_,_,_,_,_=>none
 |n_+1,t11,t12,i,value,out=>Zvf (ZrR n_) t11 t12 i value out
def ZDm (n:Nat) (s:(ZCq×Int×Int×G_api_Column×Zom)):Option Zom:=ZrR n s.1 s.2.1 s.2.2.1 s.2.2.2.1 s.2.2.2.2
def ZyS (b:(ZCq×Int×Int×G_api_Column×Zom)->Option Zom) (s:(ZCq×Int×Int×G_api_Column×Zom)):Option Zom:=Zvf (fun c e i a d=>b (c,e,i,a,d)) s.1 s.2.1 s.2.2.1 s.2.2.2.1 s.2.2.2.2
theorem ZGS:∀n s,ZDm (n+1) s=ZyS (ZDm n) s:=fun _ _=>rfl
def ZvM (b a:G_api_Column):Option Zom:=(ZrR big b.Cells (b.Cells.length:Int) (0:Int) a ([]:Zom)).bind fun c=>ZAB c
def ZxA (e:Bool) (a b:ZnK) (j i:Bool) (g h:ZnR):ZG5:=bif e then (some ((ZnK.mk (ZnP.mk false ([]:ZnR)) (ZnP.mk false ([]:ZnR))),1))else (bif ((b.Num.Words.length:Int) == 0)then (some ((ZnK.mk (ZnP.mk false ([]:ZnR)) (ZnP.mk false ([]:ZnR))),8))else ((ZnY a.Num b.Den).bind fun q=>(ZnY a.Den b.Num).bind fun d=>(ZqV q d).bind fun(c,f)=>some (c,f)))
def ZAe (a b:ZnK):ZG5:=(Zon a).bind fun q=>bif (!q)then (ZxA true a b false false ([]:ZnR) ([]:ZnR))else ((Zon b).bind fun c=>ZxA (!c) a b false false ([]:ZnR) ([]:ZnR))
def ZsA (a b:ZnK):Option ZnK:=(ZAe a b).bind fun(f,q)=>some f
def ZvN (e:ZnM):Option ZnK:=(Zod e.Count).bind fun q=>(ZsA e.Sum q).bind fun a=>some a
def ZyR (a:ZyE):Option ZyE:=some a
def Zzw (e:ZV3) (f d:Int) (a b:Zom) (c:ZyE) (p:ZnV) (g:ZEq):Option ZyE:=chk (Zi5 (c.length+([p]:ZyE).length) 128) <|chk (inK .i64 (d+1)) <|e f (d+1) a b (c++([p]:ZyE)) g
def ZvJ (d:ZZW) (k:Str) (e h f c:Int) (a b:Zom) (g:ZyE) (p:ZnV) (i:ZEq):ZOz:=chk (inK .i64 (c+1)) <|d k e h f (c+1) a b g p i
def ZuA (d:ZZW) (k:Str) (f i g c:Int) (a b:Zom) (h:ZyE) (p:ZnV) (j:ZEq):ZOz:=bif (decide (c < g))then (chk (inR c (b.length:Int)) <|(b[(c).toNat]?).bind fun e=>bif (e.Key == k)then ((ZvN e).bind fun q=>chk (inR 1 2) <|ZvJ d k f i g c a b h (ZnV.mk p.e0 q) j)else (ZvJ d k f i g c a b h p j))else (some (f,i,a,b,h,p,j))
def Zri:Nat->Str->Int->Int->Int->Int->Zom->Zom->ZyE->ZnV->ZEq->ZOz
 |0,_,_,_,_,_,_,_,_,_,_=>none
 |n_+1,k,t79,t80,t99,t100,a,b,out,p,t78=>ZuA (Zri n_) k t79 t80 t99 t100 a b out p t78
def ZCH (n:Nat) (s:(Str×Int×Int×Int×Int×Zom×Zom×ZyE×ZnV×ZEq)):ZOz:=Zri n s.1 s.2.1 s.2.2.1 s.2.2.2.1 s.2.2.2.2.1 s.2.2.2.2.2.1 s.2.2.2.2.2.2.1 s.2.2.2.2.2.2.2.1 s.2.2.2.2.2.2.2.2.1 s.2.2.2.2.2.2.2.2.2
def Zyg (d:(Str×Int×Int×Int×Int×Zom×Zom×ZyE×ZnV×ZEq)->ZOz) (s:(Str×Int×Int×Int×Int×Zom×Zom×ZyE×ZnV×ZEq)):ZOz:=ZuA (fun k e h f c a b g p i=>d (k,e,h,f,c,a,b,g,p,i)) s.1 s.2.1 s.2.2.1 s.2.2.2.1 s.2.2.2.2.1 s.2.2.2.2.2.1 s.2.2.2.2.2.2.1 s.2.2.2.2.2.2.2.1 s.2.2.2.2.2.2.2.2.1 s.2.2.2.2.2.2.2.2.2
theorem ZGo:∀n s,ZCH (n+1) s=Zyg (ZCH n) s:=fun _ _=>rfl
def Zzx (c:ZV3) (k:Str) (d f:Int) (a b:Zom) (e:ZyE) (p:ZnV) (g:ZEq):Option ZyE:=(Zri big k d f (b.length:Int) (0:Int) a b e p g).bind fun(h,l,n,j,o,m,i)=>Zzw c h l n j o m i
def ZvK (c:ZZV) (k:Str) (e h f d:Int) (a b:Zom) (g:ZyE) (p:ZnV) (i:ZEq):ZOB:=chk (inK .i64 (d+1)) <|c k e h f (d+1) a b g p i
def ZuB (d:ZZV) (k:Str) (f i g c:Int) (a b:Zom) (h:ZyE) (p:ZnV) (j:ZEq):ZOB:=bif (decide (c < g))then (chk (inR c (a.length:Int)) <|(a[(c).toNat]?).bind fun e=>bif (e.Key == k)then ((ZvN e).bind fun q=>chk (inR 0 2) <|ZvK d k f i g c a b h (ZnV.mk q p.e1) j)else (ZvK d k f i g c a b h p j))else (some (k,f,i,a,b,h,p,j))
def Zrj:Nat->Str->Int->Int->Int->Int->Zom->Zom->ZyE->ZnV->ZEq->ZOB
 |0,_,_,_,_,_,_,_,_,_,_=>none
 |n_+1,k,t79,t80,t85,t86,a,b,out,p,t78=>ZuB (Zrj n_) k t79 t80 t85 t86 a b out p t78
def ZCI (n:Nat) (s:(Str×Int×Int×Int×Int×Zom×Zom×ZyE×ZnV×ZEq)):ZOB:=Zrj n s.1 s.2.1 s.2.2.1 s.2.2.2.1 s.2.2.2.2.1 s.2.2.2.2.2.1 s.2.2.2.2.2.2.1 s.2.2.2.2.2.2.2.1 s.2.2.2.2.2.2.2.2.1 s.2.2.2.2.2.2.2.2.2
def Zyh (c:(Str×Int×Int×Int×Int×Zom×Zom×ZyE×ZnV×ZEq)->ZOB) (s:(Str×Int×Int×Int×Int×Zom×Zom×ZyE×ZnV×ZEq)):ZOB:=ZuB (fun k d g e i a b f p h=>c (k,d,g,e,i,a,b,f,p,h)) s.1 s.2.1 s.2.2.1 s.2.2.2.1 s.2.2.2.2.1 s.2.2.2.2.2.1 s.2.2.2.2.2.2.1 s.2.2.2.2.2.2.2.1 s.2.2.2.2.2.2.2.2.1 s.2.2.2.2.2.2.2.2.2
theorem ZGp:∀n s,ZCI (n+1) s=Zyh (ZCI n) s:=fun _ _=>rfl
def ZuC (g:ZV3) (e c:Int) (a b:Zom) (f:ZyE) (d:ZEq):Option ZyE:=bif (decide (c < e))then (chk (inR c (d.length:Int)) <|(d[(c).toNat]?).bind fun k=>(Zrj big k e c (a.length:Int) (0:Int) a b f (ZnV.mk (ZnK.mk (ZnP.mk false ([]:ZnR)) (ZnP.mk false ([]:ZnR))) (ZnK.mk (ZnP.mk false ([]:ZnR)) (ZnP.mk false ([]:ZnR)))) d).bind fun(h,m,o,l,p,n,i,j)=>Zzx g h m o l p n i j)else (some f)
def Zqi:Nat->Int->Int->Zom->Zom->ZyE->ZEq->Option ZyE
 |0,_,_,_,_,_,_=>none
 |n_+1,t79,t80,a,b,out,t78=>ZuC (Zqi n_) t79 t80 a b out t78
def ZCJ (n:Nat) (s:(Int×Int×Zom×Zom×ZyE×ZEq)):Option ZyE:=Zqi n s.1 s.2.1 s.2.2.1 s.2.2.2.1 s.2.2.2.2.1 s.2.2.2.2.2
def Zyi (c:(Int×Int×Zom×Zom×ZyE×ZEq)->Option ZyE) (s:(Int×Int×Zom×Zom×ZyE×ZEq)):Option ZyE:=ZuC (fun d f a b e g=>c (d,f,a,b,e,g)) s.1 s.2.1 s.2.2.1 s.2.2.2.1 s.2.2.2.2.1 s.2.2.2.2.2
theorem ZGq:∀n s,ZCJ (n+1) s=Zyi (ZCJ n) s:=fun _ _=>rfl
def Zzy (a b:Zom) (c:ZEq):Option ZyE:=(Zqi big (c.length:Int) (0:Int) a b ([]:ZyE) c).bind fun d=>ZyR d
def Zzz (d:ZZv) (f c:Int) (a b:Zom) (e:ZEq):ZOm:=chk (inK .i64 (c+1)) <|d f (c+1) a b e
def ZsZ (d:ZV6) (g h i c:Int) (a b:Zom) (f:ZEq) (e:ZnM):ZNE:=chk (inK .i64 (c+1)) <|d g h i (c+1) a b f e
def ZzA (d:ZV6) (i f h j g:Int) (a b:Zom) (c:ZEq) (e:ZnM):ZNE:=chk (Zca 0 i (c.length:Int)) <|chk (Zi5 ((c.drop 0).take ((i).toNat - 0)).length 16) <|chk (Zi5 (((c.drop 0).take ((i).toNat - 0)).length+([e.Key]:ZEq).length) 16) <|chk (Zca i (c.length:Int) (c.length:Int)) <|chk (Zi5 ((((c.drop 0).take ((i).toNat - 0))++([e.Key]:ZEq)).length+((c.drop ((i).toNat)).take ((c.length:Int).toNat - (i).toNat)).length) 16) <|ZsZ d f h j g a b ((((c.drop 0).take ((i).toNat - 0))++([e.Key]:ZEq))++((c.drop ((i).toNat)).take ((c.length:Int).toNat - (i).toNat))) e
def ZvL (j:ZZO) (i d g h f:Int) (k:Bool) (a b:Zom) (c:ZEq) (e:ZnM):ZVN:=bif k then (chk (inK .i64 (i - 1)) <|j (i - 1) d g h f a b c e)else (some (i,d,g,h,f,a,b,c,e))
def Zyj (d:ZZO) (i f h k g:Int) (a b:Zom) (c:ZEq) (e:ZnM):ZVN:=bif (decide (i > 0))then (chk (inK .i64 (i - 1)) <|chk (inR (i - 1) (c.length:Int)) <|(c[((i - 1)).toNat]?).bind fun j=>ZvL d i f h k g (!((Op.bytesLess j e.Key)||j == e.Key)) a b c e)else (ZvL d i f h k g false a b c e)
def Zrk:Nat->Int->Int->Int->Int->Int->Zom->Zom->ZEq->ZnM->ZVN
 |0,_,_,_,_,_,_,_,_,_=>none
 |n_+1,i,t32,t33,t38,t39,a,b,keys,e=>Zyj (Zrk n_) i t32 t33 t38 t39 a b keys e
def ZCK (n:Nat) (s:(Int×Int×Int×Int×Int×Zom×Zom×ZEq×ZnM)):ZVN:=Zrk n s.1 s.2.1 s.2.2.1 s.2.2.2.1 s.2.2.2.2.1 s.2.2.2.2.2.1 s.2.2.2.2.2.2.1 s.2.2.2.2.2.2.2.1 s.2.2.2.2.2.2.2.2
def ZCL (c:(Int×Int×Int×Int×Int×Zom×Zom×ZEq×ZnM)->ZVN) (s:(Int×Int×Int×Int×Int×Zom×Zom×ZEq×ZnM)):ZVN:=Zyj (fun i f h j g a b d e=>c (i,f,h,j,g,a,b,d,e)) s.1 s.2.1 s.2.2.1 s.2.2.2.1 s.2.2.2.2.1 s.2.2.2.2.2.1 s.2.2.2.2.2.2.1 s.2.2.2.2.2.2.2.1 s.2.2.2.2.2.2.2.2
theorem ZGr:∀n s,ZCK (n+1) s=ZCL (ZCK n) s:=fun _ _=>rfl
def ZuD (f:ZV6) (g h i d:Int) (a b:Zom) (c:ZEq) (e:ZnM):ZNE:=bif (decide (d < i))then (chk (inR d (b.length:Int)) <|(b[(d).toNat]?).bind fun p=>bif (!(p.Key == e.Key))then (ZsZ f g h i d a b c e)else ((Zrk big (c.length:Int) g h i d a b c e).bind fun(k,o,r,m,s,q,l,n,j)=>ZzA f k o r m s q l n j))else (some (g,h,a,b,c))
def Zqj:Nat->Int->Int->Int->Int->Zom->Zom->ZEq->ZnM->ZNE
 |0,_,_,_,_,_,_,_,_=>none
 |n_+1,t32,t33,t38,t39,a,b,keys,e=>ZuD (Zqj n_) t32 t33 t38 t39 a b keys e
def ZCM (n:Nat) (s:(Int×Int×Int×Int×Zom×Zom×ZEq×ZnM)):ZNE:=Zqj n s.1 s.2.1 s.2.2.1 s.2.2.2.1 s.2.2.2.2.1 s.2.2.2.2.2.1 s.2.2.2.2.2.2.1 s.2.2.2.2.2.2.2
def Zyk (c:(Int×Int×Int×Int×Zom×Zom×ZEq×ZnM)->ZNE) (s:(Int×Int×Int×Int×Zom×Zom×ZEq×ZnM)):ZNE:=ZuD (fun f h i g a b d e=>c (f,h,i,g,a,b,d,e)) s.1 s.2.1 s.2.2.1 s.2.2.2.1 s.2.2.2.2.1 s.2.2.2.2.2.1 s.2.2.2.2.2.2.1 s.2.2.2.2.2.2.2
theorem ZGs:∀n s,ZCM (n+1) s=Zyk (ZCM n) s:=fun _ _=>rfl
def ZuE (g:ZZv) (f c:Int) (a b:Zom) (d:ZEq):ZOm:=bif (decide (c < f))then (chk (inR c (a.length:Int)) <|(a[(c).toNat]?).bind fun e=>(Zqj big f c (b.length:Int) (0:Int) a b d e).bind fun(h,j,k,i,l)=>Zzz g h j k i l)else (some (a,b,d))
def Zrl:Nat->Int->Int->Zom->Zom->ZEq->ZOm
 |0,_,_,_,_,_=>none
 |n_+1,t32,t33,a,b,keys=>ZuE (Zrl n_) t32 t33 a b keys
def ZCN (n:Nat) (s:(Int×Int×Zom×Zom×ZEq)):ZOm:=Zrl n s.1 s.2.1 s.2.2.1 s.2.2.2.1 s.2.2.2.2
def Zyl (c:(Int×Int×Zom×Zom×ZEq)->ZOm) (s:(Int×Int×Zom×Zom×ZEq)):ZOm:=ZuE (fun e f a b d=>c (e,f,a,b,d)) s.1 s.2.1 s.2.2.1 s.2.2.2.1 s.2.2.2.2
theorem ZGt:∀n s,ZCN (n+1) s=Zyl (ZCN n) s:=fun _ _=>rfl
def ZuQ (e c ZlY d:G_api_Column):Option ZyE:=(ZvM e c).bind fun a=>(ZvM ZlY d).bind fun b=>(Zrl big (a.length:Int) (0:Int) a b ([]:ZEq)).bind fun(f,g,h)=>Zzy f g h
def ZJa (s:Str):Option Bool:=(ZqA s).bind fun q=>some q
def ZFu (a:Bool):Option Bool:=some a
def ZFl (s:Str):Option Bool:=bif (decide ((s.length:Int)<=1024))then ((ZJa s).bind fun q=>ZFu q)else (ZFu false)
def ZGz (t:G_api_Table):Option Int:=bif ((t.Columns.length:Int) == 0)then (some (0:Int))else ((idx t.Columns 0).bind fun Column=>some (Column.Cells.length:Int))
def ZyF (a:Bool):Option Bool:=some a
def ZEt (c:G_api_Cell):Option Bool:=(ZFl c.Text).bind fun q=>bif q then (bif c.Null then (ZyF (!(!(c.Text == ([]:Str)))))else (ZyF true))else (ZyF false)
def ZBy:Option Bool:=some true
def Zv7 (a:ZCq->Int->Int->ZwZ) (d:ZCq) (c b:Int):ZwZ:=bif (decide (b < c))then ((idx d b).bind fun e=>(ZEt e).bind fun q=>bif (!q)then (some (.ret false))else (chk (inK .i64 (b+1)) <|a d c (b+1)))else (some (.brk ()))
def ZxF:Nat->ZCq->Int->Int->ZwZ
 |0,_,_,_=>none
 |n_+1,t7,t8,t9=>Zv7 (ZxF n_) t7 t8 t9
def ZAh (l:ZCq):Option Bool:=(ZxF big l (l.length:Int) (0:Int)).bind fun
 | .ret a=>some a
 | .brk ()=>ZBy
def ZAZ (a:Bool):Option Bool:=some a
def ZFv (c:G_api_Column) (d:G_api_Table):Option Bool:=(ZFl c.Name).bind fun q=>bif (!q)then (ZAZ true)else ((ZGz d).bind fun a=>bif ((c.Cells.length:Int) != a)then (ZAZ true)else ((ZAh c.Cells).bind fun b=>ZAZ (!b)))
def Zr3:Option Int:=some (-1:Int)
def ZrE (a:ZoU->G_api_Table->Int->Int->ZJ1) (s:ZoU) (f:G_api_Table) (c i:Int):ZJ1:=bif (decide (i < c))then ((idx s i).bind fun b=>(ZFv b f).bind fun q=>bif q then (some (.ret i))else (chk (inK .i64 (i+1)) <|a s f c (i+1)))else (some (.brk ()))
def Zp0:Nat->ZoU->G_api_Table->Int->Int->ZJ1
 |0,_,_,_,_=>none
 |n_+1,s,f,t7,i=>ZrE (Zp0 n_) s f t7 i
def ZsR (s:ZoU) (c:G_api_Table):Option Int:=(Zp0 big s c (s.length:Int) (0:Int)).bind fun
 | .ret a=>some a
 | .brk ()=>Zr3
def Zp1 (s:ZoU) (c:G_api_Table):Option Bool:=(ZsR s c).bind fun q=>some (decide (q>=0))
def Zyw (a:Bool) (t:G_api_Table):Option Bool:=bif a then (some false)else ((Zp1 t.Columns t).bind fun q=>some (!q))
def ZHt (t:G_api_Table):Option Bool:=bif (decide (t.ID < 0))then (Zyw true t)else (bif (decide (t.ID > 1073741824))then (Zyw true t)else ((ZFl t.Name).bind fun q=>bif (!q)then (Zyw true t)else (bif (decide ((t.Columns.length:Int) > 64))then (Zyw true t)else ((ZGz t).bind fun a=>Zyw (decide (a > 4096)) t))))
def ZAO:Option Bool:=some true
def Zvt (a:Zpi->Int->Int->ZwZ) (d:Zpi) (c b:Int):ZwZ:=bif (decide (b < c))then ((idx d b).bind fun e=>(ZHt e).bind fun q=>bif (!q)then (some (.ret false))else (chk (inK .i64 (b+1)) <|a d c (b+1)))else (some (.brk ()))
def ZwI:Nat->Zpi->Int->Int->ZwZ
 |0,_,_,_=>none
 |n_+1,t7,t8,t9=>Zvt (ZwI n_) t7 t8 t9
def ZDy (n:Nat) (s:(Zpi×Int×Int)):ZwZ:=ZwI n s.1 s.2.1 s.2.2
def Zzb (a:(Zpi×Int×Int)->ZwZ) (s:(Zpi×Int×Int)):ZwZ:=Zvt (fun b d c=>a (b,d,c)) s.1 s.2.1 s.2.2
theorem ZGZ:∀n s,ZDy (n+1) s=Zzb (ZDy n) s:=fun _ _=>rfl
def Zzc (l:Zpi):Option Bool:=(ZwI big l (l.length:Int) (0:Int)).bind fun
 | .ret a=>some a
 | .brk ()=>ZAO
def ZBO (a:Bool):Option Bool:=some a
def ZEJ (l:Zpi):Option Bool:=bif (decide ((l.length:Int)<=1024))then ((Zzc l).bind fun q=>ZBO q)else (ZBO false)
def ZC6 (b:Zpi->Int->ZKH) (l:Zpi) (i:Int):ZKH:=bif (decide (i < (l.length:Int)))then (chk (inK .i64 (i - 1)) <|(idx l (i - 1)).bind fun c=>(idx l i).bind fun a=>bif (decide (c.ID>=a.ID))then (some (.ret false))else (chk (inK .i64 (i+1)) <|b l (i+1)))else (some (.brk l))
def ZBN:Nat->Zpi->Int->ZKH
 |0,_,_=>none
 |n_+1,l,i=>ZC6 (ZBN n_) l i
def ZFW (n:Nat) (s:(Zpi×Int)):ZKH:=ZBN n s.1 s.2
def ZFX (a:(Zpi×Int)->ZKH) (s:(Zpi×Int)):ZKH:=ZC6 (fun l i=>a (l,i)) s.1 s.2
theorem ZIK:∀n s,ZFW (n+1) s=ZFX (ZFW n) s:=fun _ _=>rfl
def ZEs (l:Zpi):Option Bool:=(ZBN big l (1:Int)).bind fun
 | .ret a=>some a
 | .brk b=>ZEJ b
def Zzo (l:Zpi):Option Bool:=(ZEs l).bind fun q=>some q
def ZE9 (f:ZnK):Option Bool:=(ZF7 f).bind fun q=>some (decide (q > 0))
def ZIj (a b:ZnK):Option Int:=(ZE6 b a).bind fun q=>some q
def ZGA (a b:Zph):Option Bool:=(Zu8 a.Table b.Table).bind fun q=>(Zu8 a.Column b.Column).bind fun c=>(ZCp ([q,c]:ZnR)).bind fun d=>some (decide (d < 0))
def ZGB (a b:Zph):Option Int:=(ZGA a b).bind fun q=>bif q then (some (-1:Int))else ((ZGA b a).bind fun c=>bif c then (some (1:Int))else (some (0:Int)))
def Zob (a b:ZnX):Option Int:=(ZIj a.Score b.Score).bind fun q=>(ZGB a.Key b.Key).bind fun c=>(ZGB a.Value b.Value).bind fun e=>(ZCp ([q,c,e]:ZnR)).bind fun d=>some d
def ZqX (a:Zn7):Option Zn7:=some a
def ZqY (c:ZV0) (a b i:Int) (d:Zn7):Option Zn7:=chk (inK .i64 (i+1)) <|c a b (i+1) d
def Zpr (f:ZVZ) (a b i j:Int) (g:Bool) (c:Zn7):ZBF:=bif g then (chk (inK .i64 (j - 1)) <|chk (inK .i64 (j - 1)) <|chk (inR (j - 1) (c.length:Int)) <|(c[((j - 1)).toNat]?).bind fun d=>chk (inR j (c.length:Int)) <|(c[(j).toNat]?).bind fun e=>chk (inR j (c.length:Int)) <|chk (inR (j - 1) ((c.set ((j).toNat) d).length:Int)) <|chk (inK .i64 (j - 1)) <|f a b i (j - 1) ((c.set ((j).toNat) d).set (((j - 1)).toNat) e))else (some (a,b,i,c))
def ZqE (f:ZVZ) (a b i j:Int) (c:Zn7):ZBF:=bif (decide (j > a))then (chk (inR j (c.length:Int)) <|(c[(j).toNat]?).bind fun e=>chk (inK .i64 (j - 1)) <|chk (inR (j - 1) (c.length:Int)) <|(c[((j - 1)).toNat]?).bind fun d=>(Zob e d).bind fun q=>Zpr f a b i j (decide (q < 0)) c)else (Zpr f a b i j false c)
def Zoi:Nat->Int->Int->Int->Int->Zn7->ZBF
 |0,_,_,_,_,_=>none
 |n_+1,a,b,i,j,data=>ZqE (Zoi n_) a b i j data
def ZtN (n:Nat) (s:(Int×Int×Int×Int×Zn7)):ZBF:=Zoi n s.1 s.2.1 s.2.2.1 s.2.2.2.1 s.2.2.2.2
def ZtO (c:ZZu) (s:(Int×Int×Int×Int×Zn7)):ZBF:=ZqE (fun a b i j d=>c (a,b,i,j,d)) s.1 s.2.1 s.2.2.1 s.2.2.2.1 s.2.2.2.2
theorem ZAr:∀n s,ZtN (n+1) s=ZtO (ZtN n) s:=fun _ _=>rfl
def Zov (d:ZV0) (a b i:Int) (c:Zn7):Option Zn7:=bif (decide (i < b))then ((Zoi big a b i i c).bind fun(e,g,h,f)=>ZqY d e g h f)else (some c)
def ZoE:Nat->Int->Int->Int->Zn7->Option Zn7
 |0,_,_,_,_=>none
 |n_+1,a,b,i,data=>Zov (ZoE n_) a b i data
def ZpK (c:Zn7) (a b:Int):Option Zn7:=chk (inK .i64 (a+1)) <|(ZoE big a b (a+1) c).bind fun d=>ZqX d
def ZoH (c:Zn7) (a b:Int):Option Zn7:=(ZpK c a b).bind fun r=>chk (decide (r.length=c.length)&&true) (some r)
def Zsk (a:Zn7):Option Zn7:=some a
def Zo3 (i:ZVX) (j a d b:Int) (c:Zn7):ZNA:=chk (inK .i64 (a+d)) <|chk (inR (a+d) (c.length:Int)) <|(c[((a+d)).toNat]?).bind fun h=>chk (inK .i64 (a+b)) <|chk (inR (a+b) (c.length:Int)) <|(c[((a+b)).toNat]?).bind fun g=>(Zob h g).bind fun q=>bif (!(decide (q < 0)))then (some (.ret c))else (chk (inK .i64 (a+d)) <|chk (inK .i64 (a+b)) <|chk (inK .i64 (a+b)) <|chk (inR (a+b) (c.length:Int)) <|(c[((a+b)).toNat]?).bind fun e=>chk (inK .i64 (a+d)) <|chk (inR (a+d) (c.length:Int)) <|(c[((a+d)).toNat]?).bind fun f=>chk (inR (a+d) (c.length:Int)) <|chk (inR (a+b) ((c.set (((a+d)).toNat) e).length:Int)) <|i j a b ((c.set (((a+d)).toNat) e).set (((a+b)).toNat) f))
def Zqd (d:ZVX) (g b c a:Int) (f:Bool) (e:Zn7):ZNA:=bif f then (chk (inK .i64 (a+1)) <|Zo3 d g b c (a+1) e)else (Zo3 d g b c a e)
def ZoV (f:ZVX) (g b a:Int) (c:Zn7):ZNA:=chk (inK .i64 (2*a)) <|chk (inK .i64 ((2*a)+1)) <|bif (decide (((2*a)+1)>=g))then (some (.brk c))else (chk (inK .i64 (((2*a)+1)+1)) <|bif (decide ((((2*a)+1)+1) < g))then (chk (inK .i64 (b+((2*a)+1))) <|chk (inR (b+((2*a)+1)) (c.length:Int)) <|(c[((b+((2*a)+1))).toNat]?).bind fun e=>chk (inK .i64 (b+((2*a)+1))) <|chk (inK .i64 ((b+((2*a)+1))+1)) <|chk (inR ((b+((2*a)+1))+1) (c.length:Int)) <|(c[(((b+((2*a)+1))+1)).toNat]?).bind fun d=>(Zob e d).bind fun q=>Zqd f g b a ((2*a)+1) (decide (q < 0)) c)else (Zqd f g b a ((2*a)+1) false c))
def Zow:Nat->Int->Int->Int->Zn7->ZNA
 |0,_,_,_,_=>none
 |n_+1,hi,first,root,data=>ZoV (Zow n_) hi first root data
def Zvv (n:Nat) (s:(Int×Int×Int×Zn7)):ZNA:=Zow n s.1 s.2.1 s.2.2.1 s.2.2.2
def Zvw (c:(Int×Int×Int×Zn7)->ZNA) (s:(Int×Int×Int×Zn7)):ZNA:=ZoV (fun e a b d=>c (e,a,b,d)) s.1 s.2.1 s.2.2.1 s.2.2.2
theorem ZB4:∀n s,Zvv (n+1) s=Zvw (Zvv n) s:=fun _ _=>rfl
def ZqK (b:Zn7) (d e a:Int):Option Zn7:=(Zow big e a d b).bind fun
 | .ret f=>some f
 | .brk c=>Zsk c
def ZoA (a:Zn7) (d c b:Int):Option Zn7:=(ZqK a d c b).bind fun r=>chk (decide (r.length=a.length)&&true) (some r)
def Zsm (a:Zn7):Option Zn7:=some a
def ZrM (e:ZV0) (a g i:Int) (b:Zn7):Option Zn7:=bif (decide (i>=0))then (chk (inK .i64 (a+i)) <|chk (inK .i64 (a+i)) <|chk (inR (a+i) (b.length:Int)) <|(b[((a+i)).toNat]?).bind fun c=>chk (inR a (b.length:Int)) <|(b[(a).toNat]?).bind fun d=>chk (inR a (b.length:Int)) <|chk (inR (a+i) ((b.set ((a).toNat) c).length:Int)) <|(ZoA ((b.set ((a).toNat) c).set (((a+i)).toNat) d) g i a).bind fun f=>chk (inK .i64 (i - 1)) <|e a g (i - 1) f)else (some b)
def Zqf:Nat->Int->Int->Int->Zn7->Option Zn7
 |0,_,_,_,_=>none
 |n_+1,first,lo,i,data=>ZrM (Zqf n_) first lo i data
def Zvx (n:Nat) (s:(Int×Int×Int×Zn7)):Option Zn7:=Zqf n s.1 s.2.1 s.2.2.1 s.2.2.2
def Zvy (b:(Int×Int×Int×Zn7)->Option Zn7) (s:(Int×Int×Int×Zn7)):Option Zn7:=ZrM (fun a d i c=>b (a,d,i,c)) s.1 s.2.1 s.2.2.1 s.2.2.2
theorem ZB5:∀n s,Zvx (n+1) s=Zvy (Zvx n) s:=fun _ _=>rfl
def Zsn (a e c:Int) (b:Zn7):Option Zn7:=chk (inK .i64 (c - 1)) <|(Zqf big a e (c - 1) b).bind fun d=>Zsm d
def ZrN (c:ZVZ) (a f d i:Int) (b:Zn7):ZBF:=bif (decide (i>=0))then ((ZoA b i d a).bind fun e=>chk (inK .i64 (i - 1)) <|c a f d (i - 1) e)else (some (a,f,d,b))
def Zqg:Nat->Int->Int->Int->Int->Zn7->ZBF
 |0,_,_,_,_,_=>none
 |n_+1,first,lo,hi,i,data=>ZrN (Zqg n_) first lo hi i data
def Zvz (n:Nat) (s:(Int×Int×Int×Int×Zn7)):ZBF:=Zqg n s.1 s.2.1 s.2.2.1 s.2.2.2.1 s.2.2.2.2
def ZvA (b:ZZu) (s:(Int×Int×Int×Int×Zn7)):ZBF:=ZrN (fun a d e i c=>b (a,d,e,i,c)) s.1 s.2.1 s.2.2.1 s.2.2.2.1 s.2.2.2.2
theorem ZB6:∀n s,Zvz (n+1) s=ZvA (Zvz n) s:=fun _ _=>rfl
def ZqR (c:Zn7) (a b:Int):Option Zn7:=chk (inK .i64 (b - a)) <|chk (inK .i64 ((b - a) - 1)) <|chk (decide ((2:Int)≠0)) <|chk (inK .i64 (Int.tdiv ((b - a) - 1) 2)) <|(Zqg big a (0:Int) (b - a) (Int.tdiv ((b - a) - 1) 2) c).bind fun(d,f,g,e)=>Zsn d f g e
def Zqo (c:Zn7) (a b:Int):Option Zn7:=(ZqR c a b).bind fun r=>chk (decide (r.length=c.length)&&true) (some r)
def Zzd (a:Int):Option Int:=(ZzU (IntKind.wrap .u64 a)).bind fun q=>chk (decide (0<=q)) <|some (shlK .u64 1 q)
def ZwW (a:Int):ZNx:=chk (decide (0<=(13:Int))) <|chk (decide (0<=(7:Int))) <|chk (decide (0<=(17:Int))) <|some ((xorK .u64 (xorK .u64 (xorK .u64 a (shlK .u64 a 13)) (shrK .u64 (xorK .u64 a (shlK .u64 a 13)) 7)) (shlK .u64 (xorK .u64 (xorK .u64 a (shlK .u64 a 13)) (shrK .u64 (xorK .u64 a (shlK .u64 a 13)) 7)) 17)),(xorK .u64 (xorK .u64 (xorK .u64 a (shlK .u64 a 13)) (shrK .u64 (xorK .u64 a (shlK .u64 a 13)) 7)) (shlK .u64 (xorK .u64 (xorK .u64 a (shlK .u64 a 13)) (shrK .u64 (xorK .u64 a (shlK .u64 a 13)) 7)) 17)))
def ZqZ (a:Zn7):Option Zn7:=some a
def ZoG (j:ZZF) (a h g c b:Int) (d:Zn7) (i:Int):Option Zn7:=chk (inK .i64 (a+b)) <|chk (inK .i64 (a+b)) <|chk (inR (a+b) (d.length:Int)) <|(d[((a+b)).toNat]?).bind fun e=>chk (inR c (d.length:Int)) <|(d[(c).toNat]?).bind fun f=>chk (inR c (d.length:Int)) <|chk (inR (a+b) ((d.set ((c).toNat) e).length:Int)) <|chk (inK .i64 (c+1)) <|j a h g (c+1) ((d.set ((c).toNat) e).set (((a+b)).toNat) f) i
def ZqF (h:ZZF) (a b c e:Int) (f:Zn7) (g:Int):Option Zn7:=chk (decide ((4:Int)≠0)) <|chk (inK .i64 (Int.tdiv b 4)) <|chk (inK .i64 ((Int.tdiv b 4)*2)) <|chk (inK .i64 (a+((Int.tdiv b 4)*2))) <|chk (inK .i64 ((a+((Int.tdiv b 4)*2))+1)) <|bif (decide (e<=((a+((Int.tdiv b 4)*2))+1)))then ((ZwW g).bind fun(q,d)=>bif (decide ((IntKind.wrap .i64 (andK .u64 q (IntKind.wrap .u64 (c - 1))))>=b))then (chk (inK .i64 ((IntKind.wrap .i64 (andK .u64 q (IntKind.wrap .u64 (c - 1)))) - b)) <|ZoG h a b c e ((IntKind.wrap .i64 (andK .u64 q (IntKind.wrap .u64 (c - 1)))) - b) f d)else (ZoG h a b c e (IntKind.wrap .i64 (andK .u64 q (IntKind.wrap .u64 (c - 1)))) f d))else (some f)
def ZoF:Nat->Int->Int->Int->Int->Zn7->Int->Option Zn7
 |0,_,_,_,_,_,_=>none
 |n_+1,a,length,modulus,idx_,data,random=>ZqF (ZoF n_) a length modulus idx_ data random
def ZtP (n:Nat) (s:(Int×Int×Int×Int×Zn7×Int)):Option Zn7:=ZoF n s.1 s.2.1 s.2.2.1 s.2.2.2.1 s.2.2.2.2.1 s.2.2.2.2.2
def ZtQ (f:(Int×Int×Int×Int×Zn7×Int)->Option Zn7) (s:(Int×Int×Int×Int×Zn7×Int)):Option Zn7:=ZqF (fun a c b e g d=>f (a,c,b,e,g,d)) s.1 s.2.1 s.2.2.1 s.2.2.2.1 s.2.2.2.2.1 s.2.2.2.2.2
theorem ZAs:∀n s,ZtP (n+1) s=ZtQ (ZtP n) s:=fun _ _=>rfl
def ZpM (d:Zn7) (a b:Int):Option Zn7:=chk (inK .i64 (b - a)) <|bif (decide ((b - a)>=8))then ((Zzd (b - a)).bind fun c=>chk (decide ((4:Int)≠0)) <|chk (inK .i64 (Int.tdiv (b - a) 4)) <|chk (inK .i64 ((Int.tdiv (b - a) 4)*2)) <|chk (inK .i64 (a+((Int.tdiv (b - a) 4)*2))) <|chk (inK .i64 ((a+((Int.tdiv (b - a) 4)*2)) - 1)) <|(ZoF big a (b - a) c ((a+((Int.tdiv (b - a) 4)*2)) - 1) d (IntKind.wrap .u64 (b - a))).bind fun e=>ZqZ e)else (some d)
def Zpy (c:Zn7) (a b:Int):Option Zn7:=(ZpM c a b).bind fun r=>chk (decide (r.length=c.length)&&true) (some r)
def ZtU (c:Zn7) (a b d:Int):ZZj:=chk (inR b (c.length:Int)) <|(c[(b).toNat]?).bind fun f=>chk (inR a (c.length:Int)) <|(c[(a).toNat]?).bind fun e=>(Zob f e).bind fun q=>bif (decide (q < 0))then (chk (inK .i64 (d+1)) <|some (b,a,c,(d+1)))else (some (a,b,c,d))
def ZoM (c:Zn7) (a b d:Int):ZZj:=(ZtU c a b d).bind fun r=>chk (decide (r.2.2.1.length=c.length)&&true) (some r)
def ZtV (e:Zn7) (a b c d:Int):ZSZ:=(ZoM e a b d).bind fun(i,m,l,n)=>(ZoM l m c n).bind fun(j,q,h,k)=>(ZoM h i j k).bind fun(p,o,g,f)=>some (o,g,f)
def Zpw (d:Zn7) (a b c e:Int):ZSZ:=(ZtV d a b c e).bind fun r=>chk (decide (r.2.1.length=d.length)&&true) (some r)
def ZrD (c:Zn7) (a b:Int):ZSZ:=chk (inK .i64 (a - 1)) <|chk (inK .i64 (a+1)) <|(Zpw c (a - 1) a (a+1) b).bind fun(q,e,d)=>some (q,e,d)
def Zoh (b:Zn7) (a c:Int):ZSZ:=(ZrD b a c).bind fun r=>chk (decide (r.2.1.length=b.length)&&true) (some r)
def ZoN (j:Int) (a:Zn7) (b:Int):ZKX:=bif (b == 0)then (some (j,1,a))else (bif (b == 12)then (some (j,2,a))else (some (j,0,a)))
def ZoO (i j k:Int) (c:Zn7) (b:Int):ZKX:=(Zpw c i j k b).bind fun(e,d,a)=>ZoN e d a
def Zqh (e:Zn7) (a b:Int):ZKX:=chk (inK .i64 (b - a)) <|chk (decide ((4:Int)≠0)) <|chk (inK .i64 (Int.tdiv (b - a) 4)) <|chk (inK .i64 ((Int.tdiv (b - a) 4)*1)) <|chk (inK .i64 (a+((Int.tdiv (b - a) 4)*1))) <|chk (decide ((4:Int)≠0)) <|chk (inK .i64 (Int.tdiv (b - a) 4)) <|chk (inK .i64 ((Int.tdiv (b - a) 4)*2)) <|chk (inK .i64 (a+((Int.tdiv (b - a) 4)*2))) <|chk (decide ((4:Int)≠0)) <|chk (inK .i64 (Int.tdiv (b - a) 4)) <|chk (inK .i64 ((Int.tdiv (b - a) 4)*3)) <|chk (inK .i64 (a+((Int.tdiv (b - a) 4)*3))) <|bif (decide ((b - a)>=8))then (bif (decide ((b - a)>=50))then ((Zoh e (a+((Int.tdiv (b - a) 4)*1)) 0).bind fun(i,l,f)=>(Zoh l (a+((Int.tdiv (b - a) 4)*2)) f).bind fun(j,h,c)=>(Zoh h (a+((Int.tdiv (b - a) 4)*3)) c).bind fun(k,g,d)=>ZoO i j k g d)else (ZoO (a+((Int.tdiv (b - a) 4)*1)) (a+((Int.tdiv (b - a) 4)*2)) (a+((Int.tdiv (b - a) 4)*3)) e (0:Int)))else (ZoN (a+((Int.tdiv (b - a) 4)*2)) e (0:Int))
def ZpL (c:Zn7) (a b:Int):ZKX:=(Zqh c a b).bind fun r=>chk (decide (r.2.2.length=c.length)&&true) (some r)
def Zrd (a:Zn7):Option Zn7:=some a
def ZqL (d:Int->Int->Zn7->Option Zn7) (i j:Int) (a:Zn7):Option Zn7:=bif (decide (i < j))then (chk (inR j (a.length:Int)) <|(a[(j).toNat]?).bind fun b=>chk (inR i (a.length:Int)) <|(a[(i).toNat]?).bind fun c=>chk (inR i (a.length:Int)) <|chk (inR j ((a.set ((i).toNat) b).length:Int)) <|chk (inK .i64 (i+1)) <|chk (inK .i64 (j - 1)) <|d (i+1) (j - 1) ((a.set ((i).toNat) b).set ((j).toNat) c))else (some a)
def Zpx:Nat->Int->Int->Zn7->Option Zn7
 |0,_,_,_=>none
 |n_+1,i,j,data=>ZqL (Zpx n_) i j data
def Zt2 (n:Nat) (s:(Int×Int×Zn7)):Option Zn7:=Zpx n s.1 s.2.1 s.2.2
def Zt3 (a:(Int×Int×Zn7)->Option Zn7) (s:(Int×Int×Zn7)):Option Zn7:=ZqL (fun i j b=>a (i,j,b)) s.1 s.2.1 s.2.2
theorem ZAP:∀n s,Zt2 (n+1) s=Zt3 (Zt2 n) s:=fun _ _=>rfl
def ZpU (c:Zn7) (a b:Int):Option Zn7:=chk (inK .i64 (b - 1)) <|(Zpx big a (b - 1) c).bind fun d=>Zrd d
def ZpE (c:Zn7) (a b:Int):Option Zn7:=(ZpU c a b).bind fun r=>chk (decide (r.length=c.length)&&true) (some r)
def ZpO (a:Zn7):ZVP:=some (false,a)
def ZpP (c:ZRu) (a b i j:Int) (d:Zn7):ZLT:=chk (inK .i64 (j+1)) <|c a b i (j+1) d
def Zpz (k:ZZz) (a b i j d:Int) (c:Zn7):ZJy:=bif (decide (d < b))then (chk (inR d (c.length:Int)) <|(c[(d).toNat]?).bind fun h=>chk (inK .i64 (d - 1)) <|chk (inR (d - 1) (c.length:Int)) <|(c[((d - 1)).toNat]?).bind fun g=>(Zob h g).bind fun q=>bif (!(decide (q < 0)))then (some (a,b,i,j,c))else (chk (inK .i64 (d - 1)) <|chk (inK .i64 (d - 1)) <|chk (inR (d - 1) (c.length:Int)) <|(c[((d - 1)).toNat]?).bind fun e=>chk (inR d (c.length:Int)) <|(c[(d).toNat]?).bind fun f=>chk (inR d (c.length:Int)) <|chk (inR (d - 1) ((c.set ((d).toNat) e).length:Int)) <|chk (inK .i64 (d+1)) <|k a b i j (d+1) ((c.set ((d).toNat) e).set (((d - 1)).toNat) f)))else (some (a,b,i,j,c))
def Zoj:Nat->Int->Int->Int->Int->Int->Zn7->ZJy
 |0,_,_,_,_,_,_=>none
 |n_+1,a,b,i,j,j_1,data=>Zpz (Zoj n_) a b i j j_1 data
def Zr7 (n:Nat) (s:(Int×Int×Int×Int×Int×Zn7)):ZJy:=Zoj n s.1 s.2.1 s.2.2.1 s.2.2.2.1 s.2.2.2.2.1 s.2.2.2.2.2
def Zr8 (c:ZZC) (s:(Int×Int×Int×Int×Int×Zn7)):ZJy:=Zpz (fun a b i j e d=>c (a,b,i,j,e,d)) s.1 s.2.1 s.2.2.1 s.2.2.2.1 s.2.2.2.2.1 s.2.2.2.2.2
theorem ZxQ:∀n s,Zr7 (n+1) s=Zr8 (Zr7 n) s:=fun _ _=>rfl
def Zol (c:ZRu) (a b i j:Int) (e:Bool) (d:Zn7):ZLT:=bif e then (chk (inK .i64 (i+1)) <|(Zoj big a b i j (i+1) d).bind fun(f,h,k,g,l)=>ZpP c f h k g l)else (chk (inK .i64 (j+1)) <|c a b i (j+1) d)
def ZpQ (c:ZRu) (a b i j:Int) (d:Zn7):ZLT:=chk (inK .i64 (b - i)) <|Zol c a b i j (decide ((b - i)>=2)) d
def ZpA (k:ZZz) (a b i j d:Int) (c:Zn7):ZJy:=bif (decide (d>=1))then (chk (inR d (c.length:Int)) <|(c[(d).toNat]?).bind fun h=>chk (inK .i64 (d - 1)) <|chk (inR (d - 1) (c.length:Int)) <|(c[((d - 1)).toNat]?).bind fun g=>(Zob h g).bind fun q=>bif (!(decide (q < 0)))then (some (a,b,i,j,c))else (chk (inK .i64 (d - 1)) <|chk (inK .i64 (d - 1)) <|chk (inR (d - 1) (c.length:Int)) <|(c[((d - 1)).toNat]?).bind fun e=>chk (inR d (c.length:Int)) <|(c[(d).toNat]?).bind fun f=>chk (inR d (c.length:Int)) <|chk (inR (d - 1) ((c.set ((d).toNat) e).length:Int)) <|chk (inK .i64 (d - 1)) <|k a b i j (d - 1) ((c.set ((d).toNat) e).set (((d - 1)).toNat) f)))else (some (a,b,i,j,c))
def Zok:Nat->Int->Int->Int->Int->Int->Zn7->ZJy
 |0,_,_,_,_,_,_=>none
 |n_+1,a,b,i,j,j_1,data=>ZpA (Zok n_) a b i j j_1 data
def Zr9 (n:Nat) (s:(Int×Int×Int×Int×Int×Zn7)):ZJy:=Zok n s.1 s.2.1 s.2.2.1 s.2.2.2.1 s.2.2.2.2.1 s.2.2.2.2.2
def Zsa (c:ZZC) (s:(Int×Int×Int×Int×Int×Zn7)):ZJy:=ZpA (fun a b i j e d=>c (a,b,i,j,e,d)) s.1 s.2.1 s.2.2.1 s.2.2.2.1 s.2.2.2.2.1 s.2.2.2.2.2
theorem ZxR:∀n s,Zr9 (n+1) s=Zsa (Zr9 n) s:=fun _ _=>rfl
def ZpR (f:ZRu) (a b i j:Int) (c:Zn7):ZLT:=bif (i == b)then (some (.ret (true,c)))else (chk (inK .i64 (b - a)) <|bif (decide ((b - a) < 50))then (some (.ret (false,c)))else (chk (inK .i64 (i - 1)) <|chk (inK .i64 (i - 1)) <|chk (inR (i - 1) (c.length:Int)) <|(c[((i - 1)).toNat]?).bind fun e=>chk (inR i (c.length:Int)) <|(c[(i).toNat]?).bind fun d=>chk (inR i (c.length:Int)) <|chk (inR (i - 1) ((c.set ((i).toNat) e).length:Int)) <|chk (inK .i64 (i - a)) <|bif (decide ((i - a)>=2))then (chk (inK .i64 (i - 1)) <|(Zok big a b i j (i - 1) ((c.set ((i).toNat) e).set (((i - 1)).toNat) d)).bind fun(g,k,l,h,m)=>ZpQ f g k l h m)else (chk (inK .i64 (b - i)) <|Zol f a b i j (decide ((b - i)>=2)) ((c.set ((i).toNat) e).set (((i - 1)).toNat) d))))
def ZoJ (d:ZZr) (a b i j:Int) (e:Bool) (c:Zn7):ZJy:=bif e then (chk (inK .i64 (i+1)) <|d a b (i+1) j c)else (some (a,b,i,j,c))
def ZpB (f:ZZr) (a b i j:Int) (c:Zn7):ZJy:=bif (decide (i < b))then (chk (inR i (c.length:Int)) <|(c[(i).toNat]?).bind fun e=>chk (inK .i64 (i - 1)) <|chk (inR (i - 1) (c.length:Int)) <|(c[((i - 1)).toNat]?).bind fun d=>(Zob e d).bind fun q=>ZoJ f a b i j (!(decide (q < 0))) c)else (ZoJ f a b i j false c)
def Zn5:Nat->Int->Int->Int->Int->Zn7->ZJy
 |0,_,_,_,_,_=>none
 |n_+1,a,b,i,j,data=>ZpB (Zn5 n_) a b i j data
def Zsb (n:Nat) (s:(Int×Int×Int×Int×Zn7)):ZJy:=Zn5 n s.1 s.2.1 s.2.2.1 s.2.2.2.1 s.2.2.2.2
def Zsc (c:(Int×Int×Int×Int×Zn7)->ZJy) (s:(Int×Int×Int×Int×Zn7)):ZJy:=ZpB (fun a b i j d=>c (a,b,i,j,d)) s.1 s.2.1 s.2.2.1 s.2.2.2.1 s.2.2.2.2
theorem ZxS:∀n s,Zsb (n+1) s=Zsc (Zsb n) s:=fun _ _=>rfl
def ZpC (d:ZRu) (a b i j:Int) (c:Zn7):ZLT:=bif (decide (j < 5))then ((Zn5 big a b i j c).bind fun(e,g,h,f,k)=>ZpR d e g h f k)else (some (.brk c))
def ZnZ:Nat->Int->Int->Int->Int->Zn7->ZLT
 |0,_,_,_,_,_=>none
 |n_+1,a,b,i,j,data=>ZpC (ZnZ n_) a b i j data
def Zsd (n:Nat) (s:(Int×Int×Int×Int×Zn7)):ZLT:=ZnZ n s.1 s.2.1 s.2.2.1 s.2.2.2.1 s.2.2.2.2
def Zse (c:(Int×Int×Int×Int×Zn7)->ZLT) (s:(Int×Int×Int×Int×Zn7)):ZLT:=ZpC (fun a b i j d=>c (a,b,i,j,d)) s.1 s.2.1 s.2.2.1 s.2.2.2.1 s.2.2.2.2
theorem ZxT:∀n s,Zsd (n+1) s=Zse (Zsd n) s:=fun _ _=>rfl
def ZoY (c:Zn7) (a b:Int):ZVP:=chk (inK .i64 (a+1)) <|(ZnZ big a b (a+1) (0:Int) c).bind fun
 | .ret d=>some d
 | .brk e=>ZpO e
def ZoQ (c:Zn7) (a b:Int):ZVP:=(ZoY c a b).bind fun r=>chk (decide (r.2.length=c.length)&&true) (some r)
def ZqM (i:Int) (a:Zn7):ZG4:=some (i,a)
def ZqN (e:ZVW) (a i j:Int) (b:Zn7):ZG4:=bif (decide (i > j))then (some (i,b))else (chk (inR j (b.length:Int)) <|(b[(j).toNat]?).bind fun c=>chk (inR i (b.length:Int)) <|(b[(i).toNat]?).bind fun d=>chk (inR i (b.length:Int)) <|chk (inR j ((b.set ((i).toNat) c).length:Int)) <|chk (inK .i64 (i+1)) <|chk (inK .i64 (j - 1)) <|e a (i+1) (j - 1) ((b.set ((i).toNat) c).set ((j).toNat) d))
def Zpj (c:ZKZ) (a i j:Int) (d:Bool) (b:Zn7):ZBF:=bif d then (chk (inK .i64 (j - 1)) <|c a i (j - 1) b)else (some (a,i,j,b))
def Zqq (e:ZKZ) (a i j:Int) (b:Zn7):ZBF:=bif (decide (i<=j))then (chk (inR a (b.length:Int)) <|(b[(a).toNat]?).bind fun d=>chk (inR j (b.length:Int)) <|(b[(j).toNat]?).bind fun c=>(Zob d c).bind fun q=>Zpj e a i j (decide (q < 0)) b)else (Zpj e a i j false b)
def Zoe:Nat->Int->Int->Int->Zn7->ZBF
 |0,_,_,_,_=>none
 |n_+1,a,i,j,data=>Zqq (Zoe n_) a i j data
def Zte (n:Nat) (s:(Int×Int×Int×Zn7)):ZBF:=Zoe n s.1 s.2.1 s.2.2.1 s.2.2.2
def Ztf (b:ZQb) (s:(Int×Int×Int×Zn7)):ZBF:=Zqq (fun a i j c=>b (a,i,j,c)) s.1 s.2.1 s.2.2.1 s.2.2.2
theorem ZzQ:∀n s,Zte (n+1) s=Ztf (Zte n) s:=fun _ _=>rfl
def ZqO (b:ZVW) (a i j:Int) (c:Zn7):ZG4:=(Zoe big a i j c).bind fun(d,f,g,e)=>ZqN b d f g e
def Zpk (c:ZKZ) (a i j:Int) (d:Bool) (b:Zn7):ZBF:=bif d then (chk (inK .i64 (i+1)) <|c a (i+1) j b)else (some (a,i,j,b))
def Zqr (e:ZKZ) (a i j:Int) (b:Zn7):ZBF:=bif (decide (i<=j))then (chk (inR a (b.length:Int)) <|(b[(a).toNat]?).bind fun d=>chk (inR i (b.length:Int)) <|(b[(i).toNat]?).bind fun c=>(Zob d c).bind fun q=>Zpk e a i j (!(decide (q < 0))) b)else (Zpk e a i j false b)
def Zof:Nat->Int->Int->Int->Zn7->ZBF
 |0,_,_,_,_=>none
 |n_+1,a,i,j,data=>Zqr (Zof n_) a i j data
def Ztg (n:Nat) (s:(Int×Int×Int×Zn7)):ZBF:=Zof n s.1 s.2.1 s.2.2.1 s.2.2.2
def Zth (b:ZQb) (s:(Int×Int×Int×Zn7)):ZBF:=Zqr (fun a i j c=>b (a,i,j,c)) s.1 s.2.1 s.2.2.1 s.2.2.2
theorem ZzR:∀n s,Ztg (n+1) s=Zth (Ztg n) s:=fun _ _=>rfl
def Zqs (b:ZVW) (a i j:Int) (c:Zn7):ZG4:=(Zof big a i j c).bind fun(d,f,g,e)=>ZqO b d f g e
def Zn4:Nat->Int->Int->Int->Zn7->ZG4
 |0,_,_,_,_=>none
 |n_+1,a,i,j,data=>Zqs (Zn4 n_) a i j data
def Zti (n:Nat) (s:(Int×Int×Int×Zn7)):ZG4:=Zn4 n s.1 s.2.1 s.2.2.1 s.2.2.2
def Ztj (b:(Int×Int×Int×Zn7)->ZG4) (s:(Int×Int×Int×Zn7)):ZG4:=Zqs (fun a i j c=>b (a,i,j,c)) s.1 s.2.1 s.2.2.1 s.2.2.2
theorem ZzS:∀n s,Zti (n+1) s=Ztj (Zti n) s:=fun _ _=>rfl
def ZpF (c:Zn7) (a b d:Int):ZG4:=chk (inR d (c.length:Int)) <|(c[(d).toNat]?).bind fun e=>chk (inR a (c.length:Int)) <|(c[(a).toNat]?).bind fun f=>chk (inR a (c.length:Int)) <|chk (inR d ((c.set ((a).toNat) e).length:Int)) <|chk (inK .i64 (a+1)) <|chk (inK .i64 (b - 1)) <|(Zn4 big a (a+1) (b - 1) ((c.set ((a).toNat) e).set ((d).toNat) f)).bind fun(g,h)=>ZqM g h
def Zpo (c:Zn7) (a b d:Int):ZG4:=(ZpF c a b d).bind fun r=>chk (decide (r.2.length=c.length)&&true) (some r)
def ZrY (a j:Int) (b:Zn7):ZRq:=chk (inR a (b.length:Int)) <|(b[(a).toNat]?).bind fun c=>chk (inR j (b.length:Int)) <|(b[(j).toNat]?).bind fun d=>chk (inR j (b.length:Int)) <|chk (inR a ((b.set ((j).toNat) c).length:Int)) <|some (j,false,((b.set ((j).toNat) c).set ((a).toNat) d))
def ZrZ (e:ZVV) (a i j:Int) (b:Zn7):ZKX:=bif (decide (i > j))then (some (a,j,b))else (chk (inR j (b.length:Int)) <|(b[(j).toNat]?).bind fun c=>chk (inR i (b.length:Int)) <|(b[(i).toNat]?).bind fun d=>chk (inR i (b.length:Int)) <|chk (inR j ((b.set ((i).toNat) c).length:Int)) <|chk (inK .i64 (i+1)) <|chk (inK .i64 (j - 1)) <|e a (i+1) (j - 1) ((b.set ((i).toNat) c).set ((j).toNat) d))
def ZpW (c:ZKZ) (a i j:Int) (d:Bool) (b:Zn7):ZBF:=bif d then (chk (inK .i64 (j - 1)) <|c a i (j - 1) b)else (some (a,i,j,b))
def Zry (e:ZKZ) (a i j:Int) (b:Zn7):ZBF:=bif (decide (i<=j))then (chk (inR j (b.length:Int)) <|(b[(j).toNat]?).bind fun d=>chk (inR a (b.length:Int)) <|(b[(a).toNat]?).bind fun c=>(Zob d c).bind fun q=>ZpW e a i j (!(decide (q < 0))) b)else (ZpW e a i j false b)
def Zoq:Nat->Int->Int->Int->Zn7->ZBF
 |0,_,_,_,_=>none
 |n_+1,a,i,j,data=>Zry (Zoq n_) a i j data
def ZuV (n:Nat) (s:(Int×Int×Int×Zn7)):ZBF:=Zoq n s.1 s.2.1 s.2.2.1 s.2.2.2
def ZuW (b:ZQb) (s:(Int×Int×Int×Zn7)):ZBF:=Zry (fun a i j c=>b (a,i,j,c)) s.1 s.2.1 s.2.2.1 s.2.2.2
theorem ZBH:∀n s,ZuV (n+1) s=ZuW (ZuV n) s:=fun _ _=>rfl
def Zr0 (b:ZVV) (a i j:Int) (c:Zn7):ZKX:=(Zoq big a i j c).bind fun(d,f,g,e)=>ZrZ b d f g e
def ZpX (d:ZKZ) (a i j:Int) (c:Bool) (b:Zn7):ZBF:=bif c then (chk (inK .i64 (i+1)) <|d a (i+1) j b)else (some (a,i,j,b))
def Zrz (e:ZKZ) (a i j:Int) (b:Zn7):ZBF:=bif (decide (i<=j))then (chk (inR i (b.length:Int)) <|(b[(i).toNat]?).bind fun d=>chk (inR a (b.length:Int)) <|(b[(a).toNat]?).bind fun c=>(Zob d c).bind fun q=>ZpX e a i j (decide (q < 0)) b)else (ZpX e a i j false b)
def Zor:Nat->Int->Int->Int->Zn7->ZBF
 |0,_,_,_,_=>none
 |n_+1,a,i,j,data=>Zrz (Zor n_) a i j data
def ZuX (n:Nat) (s:(Int×Int×Int×Zn7)):ZBF:=Zor n s.1 s.2.1 s.2.2.1 s.2.2.2
def ZuY (b:ZQb) (s:(Int×Int×Int×Zn7)):ZBF:=Zrz (fun a i j c=>b (a,i,j,c)) s.1 s.2.1 s.2.2.1 s.2.2.2
theorem ZBI:∀n s,ZuX (n+1) s=ZuY (ZuX n) s:=fun _ _=>rfl
def ZrA (b:ZVV) (a i j:Int) (c:Zn7):ZKX:=(Zor big a i j c).bind fun(d,f,g,e)=>Zr0 b d f g e
def Zoc:Nat->Int->Int->Int->Zn7->ZKX
 |0,_,_,_,_=>none
 |n_+1,a,i,j,data=>ZrA (Zoc n_) a i j data
def ZuZ (n:Nat) (s:(Int×Int×Int×Zn7)):ZKX:=Zoc n s.1 s.2.1 s.2.2.1 s.2.2.2
def Zu0 (b:(Int×Int×Int×Zn7)->ZKX) (s:(Int×Int×Int×Zn7)):ZKX:=ZrA (fun a i j c=>b (a,i,j,c)) s.1 s.2.1 s.2.2.1 s.2.2.2
theorem ZBJ:∀n s,ZuZ (n+1) s=Zu0 (ZuZ n) s:=fun _ _=>rfl
def Zr1 (a i j:Int) (b:Zn7):ZRq:=bif (decide (i > j))then (chk (inR a (b.length:Int)) <|(b[(a).toNat]?).bind fun d=>chk (inR j (b.length:Int)) <|(b[(j).toNat]?).bind fun f=>chk (inR j (b.length:Int)) <|chk (inR a ((b.set ((j).toNat) d).length:Int)) <|some (j,true,((b.set ((j).toNat) d).set ((a).toNat) f)))else (chk (inR j (b.length:Int)) <|(b[(j).toNat]?).bind fun c=>chk (inR i (b.length:Int)) <|(b[(i).toNat]?).bind fun e=>chk (inR i (b.length:Int)) <|chk (inR j ((b.set ((i).toNat) c).length:Int)) <|chk (inK .i64 (i+1)) <|chk (inK .i64 (j - 1)) <|(Zoc big a (i+1) (j - 1) ((b.set ((i).toNat) c).set ((j).toNat) e)).bind fun(g,h,k)=>ZrY g h k)
def ZpY (c:ZKZ) (a i j:Int) (d:Bool) (b:Zn7):ZBF:=bif d then (chk (inK .i64 (j - 1)) <|c a i (j - 1) b)else (some (a,i,j,b))
def ZrB (e:ZKZ) (a i j:Int) (b:Zn7):ZBF:=bif (decide (i<=j))then (chk (inR j (b.length:Int)) <|(b[(j).toNat]?).bind fun d=>chk (inR a (b.length:Int)) <|(b[(a).toNat]?).bind fun c=>(Zob d c).bind fun q=>ZpY e a i j (!(decide (q < 0))) b)else (ZpY e a i j false b)
def Zos:Nat->Int->Int->Int->Zn7->ZBF
 |0,_,_,_,_=>none
 |n_+1,a,i,j,data=>ZrB (Zos n_) a i j data
def Zu1 (n:Nat) (s:(Int×Int×Int×Zn7)):ZBF:=Zos n s.1 s.2.1 s.2.2.1 s.2.2.2
def Zu2 (b:ZQb) (s:(Int×Int×Int×Zn7)):ZBF:=ZrB (fun a i j c=>b (a,i,j,c)) s.1 s.2.1 s.2.2.1 s.2.2.2
theorem ZBK:∀n s,Zu1 (n+1) s=Zu2 (Zu1 n) s:=fun _ _=>rfl
def Zr2 (a i j:Int) (b:Zn7):ZRq:=(Zos big a i j b).bind fun(c,e,f,d)=>Zr1 c e f d
def ZpZ (c:ZKZ) (a i j:Int) (d:Bool) (b:Zn7):ZBF:=bif d then (chk (inK .i64 (i+1)) <|c a (i+1) j b)else (some (a,i,j,b))
def ZrC (e:ZKZ) (a i j:Int) (b:Zn7):ZBF:=bif (decide (i<=j))then (chk (inR i (b.length:Int)) <|(b[(i).toNat]?).bind fun d=>chk (inR a (b.length:Int)) <|(b[(a).toNat]?).bind fun c=>(Zob d c).bind fun q=>ZpZ e a i j (decide (q < 0)) b)else (ZpZ e a i j false b)
def Zot:Nat->Int->Int->Int->Zn7->ZBF
 |0,_,_,_,_=>none
 |n_+1,a,i,j,data=>ZrC (Zot n_) a i j data
def Zu3 (n:Nat) (s:(Int×Int×Int×Zn7)):ZBF:=Zot n s.1 s.2.1 s.2.2.1 s.2.2.2
def Zu4 (b:ZQb) (s:(Int×Int×Int×Zn7)):ZBF:=ZrC (fun a i j c=>b (a,i,j,c)) s.1 s.2.1 s.2.2.1 s.2.2.2
theorem ZBL:∀n s,Zu3 (n+1) s=Zu4 (Zu3 n) s:=fun _ _=>rfl
def Zqz (c:Zn7) (a b d:Int):ZRq:=chk (inR d (c.length:Int)) <|(c[(d).toNat]?).bind fun e=>chk (inR a (c.length:Int)) <|(c[(a).toNat]?).bind fun f=>chk (inR a (c.length:Int)) <|chk (inR d ((c.set ((a).toNat) e).length:Int)) <|chk (inK .i64 (a+1)) <|chk (inK .i64 (b - 1)) <|(Zot big a (a+1) (b - 1) ((c.set ((a).toNat) e).set ((d).toNat) f)).bind fun(g,i,j,h)=>Zr2 g i j h
def Zqe (c:Zn7) (a b d:Int):ZRq:=(Zqz c a b d).bind fun r=>chk (decide (r.2.2.length=c.length)&&true) (some r)
def Zpd (o:Zn7->Int->Int->Int->Option Zn7) (i:ZQc) (a b f:Int) (h e:Bool) (g j:Int) (r:Bool) (l:Zn7):ZLM:=bif r then ((Zpo l a b j).bind fun(p,q)=>i p b f h e q)else ((Zqe l a b j).bind fun(c,d,k)=>chk (inK .i64 (c - a)) <|chk (inK .i64 (b - c)) <|chk (decide ((8:Int)≠0)) <|chk (inK .i64 (Int.tdiv g 8)) <|bif (decide ((c - a) < (b - c)))then ((o k a c f).bind fun m=>chk (inK .i64 (c+1)) <|i (c+1) b f (decide ((c - a)>=(Int.tdiv g 8))) d m)else (chk (inK .i64 (c+1)) <|(o k (c+1) b f).bind fun n=>i a c f (decide ((b - c)>=(Int.tdiv g 8))) d n))
def Zpe (l:Zn7->Int->Int->Int->Option Zn7) (k:ZQc) (a b i:Int) (d c:Bool) (g f:Int) (e:Zn7):ZLM:=bif (decide (a > 0))then (chk (inK .i64 (a - 1)) <|chk (inR (a - 1) (e.length:Int)) <|(e[((a - 1)).toNat]?).bind fun j=>chk (inR f (e.length:Int)) <|(e[(f).toNat]?).bind fun h=>(Zob j h).bind fun q=>Zpd l k a b i d c g f (!(decide (q < 0))) e)else (Zpd l k a b i d c g f false e)
def ZoB (k:Zn7->Int->Int->Int->Option Zn7) (h:ZQc) (a b f:Int) (d c:Bool) (e g:Int) (l:Bool) (i:Zn7):ZLM:=bif l then ((ZoQ i a b).bind fun(q,j)=>bif q then (some (.ret j))else (Zpe k h a b f d c e g j))else (Zpe k h a b f d c e g i)
def Zpf (j:Zn7->Int->Int->Int->Option Zn7) (h:ZQc) (a b f:Int) (d c:Bool) (e g k:Int) (i:Zn7):ZLM:=bif d then (bif c then (ZoB j h a b f d c e g (k == 1) i)else (ZoB j h a b f d c e g false i))else (ZoB j h a b f d c e g false i)
def Zpg (k:Zn7->Int->Int->Int->Option Zn7) (i:ZQc) (a b g:Int) (d c:Bool) (f:Int) (l:Zn7):ZLM:=(ZpL l a b).bind fun(e,h,j)=>bif (h == 2)then ((ZpE j a b).bind fun m=>chk (inK .i64 (b - 1)) <|chk (inK .i64 (e - a)) <|chk (inK .i64 ((b - 1) - (e - a))) <|Zpf k i a b g d c f ((b - 1) - (e - a)) (1:Int) m)else (Zpf k i a b g d c f e h j)
def ZrX (h:Zn7->Int->Int->Int->Option Zn7) (g:ZQc) (a b e:Int) (c d:Bool) (f:Zn7):ZLM:=chk (inK .i64 (b - a)) <|bif (decide ((b - a)<=12))then ((ZoH f a b).bind fun k=>some (.ret k))else (bif (e == 0)then ((Zqo f a b).bind fun j=>some (.ret j))else (bif (!c)then ((Zpy f a b).bind fun i=>chk (inK .i64 (e - 1)) <|Zpg h g a b (e - 1) c d (b - a) i)else (Zpg h g a b e c d (b - a) f)))
def Zn3 (c:Zn7->Int->Int->Int->Option Zn7):Nat->Int->Int->Int->Bool->Bool->Zn7->ZLM
 |0,_,_,_,_,_,_=>none
 |n_+1,a,b,limit,wasBalanced,wasPartitioned,data=>ZrX c (Zn3 c n_) a b limit wasBalanced wasPartitioned data
def Zv8 (a:Zn7->Int->Int->Int->Option Zn7) (n:Nat) (s:(Int×Int×Int×Bool×Bool×Zn7)):ZLM:=Zn3 a n s.1 s.2.1 s.2.2.1 s.2.2.2.1 s.2.2.2.2.1 s.2.2.2.2.2
def Zv9 (h:Zn7->Int->Int->Int->Option Zn7) (f:(Int×Int×Int×Bool×Bool×Zn7)->ZLM) (s:(Int×Int×Int×Bool×Bool×Zn7)):ZLM:=ZrX h (fun a b e d c g=>f (a,b,e,d,c,g)) s.1 s.2.1 s.2.2.1 s.2.2.2.1 s.2.2.2.2.1 s.2.2.2.2.2
theorem ZCh (a:Zn7->Int->Int->Int->Option Zn7):∀n s,Zv8 a (n+1) s=Zv9 a (Zv8 a n) s:=fun _ _=>rfl
def Zqy (e:Zn7->Int->Int->Int->Option Zn7) (d:Zn7) (a b c:Int):Option Zn7:=(Zn3 e big a b c true true d).bind fun
 | .ret f=>some f
 | .brk _=>none
def ZnT:Nat->Zn7->Int->Int->Int->Option Zn7
 |0,_,_,_,_=>none
 |n_+1,data,a,b,limit=>(Zqy (ZnT n_) data a b limit).bind fun r=>chk (decide (r.length=data.length)&&true) (some r)
def Zq0 (a:Zn7):Option Zn7:=(ZzU (IntKind.wrap .u64 (a.length:Int))).bind fun q=>(ZnT big a 0 (a.length:Int) q).bind fun b=>some b
def Zpb (a:Zn7):Option Zn7:=(Zq0 a).bind fun r=>chk (decide (r.length=a.length)&&true) (some r)
def Zzf (l:Zn7) (k:Int):Option (Nat×Nat×Zn7):=(Zpb l).bind fun a=>chk (Zca 0 (if (a.length:Int) < k then (a.length:Int)else k) (a.length:Int)) <|some (0,(((if (a.length:Int) < k then (a.length:Int)else k)).toNat - 0),a)
def ZxU (l:Zn7) (k:Int):Option (Nat×Nat×Zn7):=(Zzf l k).bind fun r=>chk (decide (r.2.2.length=l.length)&&true) (some r)
def ZEO (k:Int) (d:Zn7):ZNy:=(ZxU d k).bind fun(b,a,c)=>some (((c.drop b).take a),0)
def ZEP (b:ZZB) (k:Int) (f:Zom) (e:Zpi) (c a:Int) (d:Zn7):ZG4:=chk (inK .i64 (a+1)) <|b k f e c (a+1) d
def ZEQ (a:ZZR) (k:Int) (h:Zom) (f:Zpi) (c g:Int) (d:ZoU) (b i:Int) (e:Zn7) (t:G_api_Table):ZOr:=chk (inK .i64 (i+1)) <|a k h f c g d b (i+1) e t
def ZyJ (b:Z2d) (k:Int) (o:Zom) (i:Int) (l:Zpi) (e m:Int) (g:ZoU) (d c:Int) (n:ZoU) (f j:Int) (h:Zn7) (t:G_api_Table) (a:G_api_Column):ZTM:=chk (inK .i64 (j+1)) <|b k o i l e m g d c n f (j+1) h t a
def ZBV (c:Z2d) (k:Int) (n:Zom) (i j d:Int) (p:Zpi) (l q:Int) (o:ZoU) (g f:Int) (r:ZoU) (h s:Int) (u:Bool) (e:Zn7) (t:G_api_Table) (a:G_api_Column) (m:Zn0) (b:ZnK):ZTM:=bif u then (chk (Zi5 (e.length+([(ZnX.mk (Zph.mk t.ID i) (Zph.mk t.ID j) b d m.N)]:Zn7).length) 112) <|ZyJ c k n i p l q o g f r h s (e++([(ZnX.mk (Zph.mk t.ID i) (Zph.mk t.ID j) b d m.N)]:Zn7)) t a)else (ZyJ c k n i p l q o g f r h s e t a)
def ZAo (e:Z2d) (k:Int) (d:Zom) (i:Int) (p:Zpi) (h r:Int) (n:ZoU) (g f:Int) (s:ZoU) (l j:Int) (o:Zn7) (t:G_api_Table) (a:G_api_Column):ZTM:=bif (decide (j < l))then ((idx s j).bind fun b=>bif (i == j)then (ZyJ e k d i p h r n g f s l j o t a)else ((Zwj a b).bind fun q=>(Zz4 d q).bind fun w=>(ZCY w).bind fun m=>(ZyK m).bind fun(c,u,x)=>bif x then ((ZE9 c).bind fun v=>ZBV e k d i j u p h r n g f s l j v o t a m c)else (ZBV e k d i j u p h r n g f s l j false o t a m c)))else (some (k,d,p,h,r,n,g,f,o,t))
def ZtW:Nat->Int->Zom->Int->Zpi->Int->Int->ZoU->Int->Int->ZoU->Int->Int->Zn7->G_api_Table->G_api_Column->ZTM
 |0,_,_,_,_,_,_,_,_,_,_,_,_,_,_,_=>none
 |n_+1,k,own,i,t51,t52,t53,t58,t59,i_1,t66,t67,j,out,t,a=>ZAo (ZtW n_) k own i t51 t52 t53 t58 t59 i_1 t66 t67 j out t a
def ZFY (n:Nat) (s:(Int×Zom×Int×Zpi×Int×Int×ZoU×Int×Int×ZoU×Int×Int×Zn7×G_api_Table×G_api_Column)):ZTM:=ZtW n s.1 s.2.1 s.2.2.1 s.2.2.2.1 s.2.2.2.2.1 s.2.2.2.2.2.1 s.2.2.2.2.2.2.1 s.2.2.2.2.2.2.2.1 s.2.2.2.2.2.2.2.2.1 s.2.2.2.2.2.2.2.2.2.1 s.2.2.2.2.2.2.2.2.2.2.1 s.2.2.2.2.2.2.2.2.2.2.2.1 s.2.2.2.2.2.2.2.2.2.2.2.2.1 s.2.2.2.2.2.2.2.2.2.2.2.2.2.1 s.2.2.2.2.2.2.2.2.2.2.2.2.2.2
def ZC9 (b:(Int×Zom×Int×Zpi×Int×Int×ZoU×Int×Int×ZoU×Int×Int×Zn7×G_api_Table×G_api_Column)->ZTM) (s:(Int×Zom×Int×Zpi×Int×Int×ZoU×Int×Int×ZoU×Int×Int×Zn7×G_api_Table×G_api_Column)):ZTM:=ZAo (fun k o i l f m g d c n e j h t a=>b (k,o,i,l,f,m,g,d,c,n,e,j,h,t,a)) s.1 s.2.1 s.2.2.1 s.2.2.2.1 s.2.2.2.2.1 s.2.2.2.2.2.1 s.2.2.2.2.2.2.1 s.2.2.2.2.2.2.2.1 s.2.2.2.2.2.2.2.2.1 s.2.2.2.2.2.2.2.2.2.1 s.2.2.2.2.2.2.2.2.2.2.1 s.2.2.2.2.2.2.2.2.2.2.2.1 s.2.2.2.2.2.2.2.2.2.2.2.2.1 s.2.2.2.2.2.2.2.2.2.2.2.2.2.1 s.2.2.2.2.2.2.2.2.2.2.2.2.2.2
theorem ZIN:∀n s,ZFY (n+1) s=ZC9 (ZFY n) s:=fun _ _=>rfl
def ZAp (j:ZZR) (k:Int) (h:Zom) (f:Zpi) (c g:Int) (d:ZoU) (b i:Int) (e:Zn7) (t:G_api_Table):ZOr:=bif (decide (i < b))then ((idx d i).bind fun a=>(ZtW big k h i f c g d b i t.Columns (t.Columns.length:Int) (0:Int) e t a).bind fun(m,r,u,q,v,s,o,p,l,n)=>ZEQ j m r u q v s o p l n)else (some (k,h,f,c,g,e))
def Zwm:Nat->Int->Zom->Zpi->Int->Int->ZoU->Int->Int->Zn7->G_api_Table->ZOr
 |0,_,_,_,_,_,_,_,_,_,_=>none
 |n_+1,k,own,t51,t52,t53,t58,t59,i,out,t=>ZAp (Zwm n_) k own t51 t52 t53 t58 t59 i out t
def ZFZ (n:Nat) (s:(Int×Zom×Zpi×Int×Int×ZoU×Int×Int×Zn7×G_api_Table)):ZOr:=Zwm n s.1 s.2.1 s.2.2.1 s.2.2.2.1 s.2.2.2.2.1 s.2.2.2.2.2.1 s.2.2.2.2.2.2.1 s.2.2.2.2.2.2.2.1 s.2.2.2.2.2.2.2.2.1 s.2.2.2.2.2.2.2.2.2
def ZDa (a:(Int×Zom×Zpi×Int×Int×ZoU×Int×Int×Zn7×G_api_Table)->ZOr) (s:(Int×Zom×Zpi×Int×Int×ZoU×Int×Int×Zn7×G_api_Table)):ZOr:=ZAp (fun k h f c g d b i e t=>a (k,h,f,c,g,d,b,i,e,t)) s.1 s.2.1 s.2.2.1 s.2.2.2.1 s.2.2.2.2.1 s.2.2.2.2.2.1 s.2.2.2.2.2.2.1 s.2.2.2.2.2.2.2.1 s.2.2.2.2.2.2.2.2.1 s.2.2.2.2.2.2.2.2.2
theorem ZIO:∀n s,ZFZ (n+1) s=ZDa (ZFZ n) s:=fun _ _=>rfl
def ZAq (e:ZZB) (k:Int) (f:Zom) (d:Zpi) (b a:Int) (c:Zn7):ZG4:=bif (decide (a < b))then ((idx d a).bind fun t=>(Zwm big k f d b a t.Columns (t.Columns.length:Int) (0:Int) c t).bind fun(g,h,l,i,m,j)=>ZEP e g h l i m j)else (some (k,c))
def ZyI:Nat->Int->Zom->Zpi->Int->Int->Zn7->ZG4
 |0,_,_,_,_,_,_=>none
 |n_+1,k,own,t51,t52,t53,out=>ZAq (ZyI n_) k own t51 t52 t53 out
def ZF0 (n:Nat) (s:(Int×Zom×Zpi×Int×Int×Zn7)):ZG4:=ZyI n s.1 s.2.1 s.2.2.1 s.2.2.2.1 s.2.2.2.2.1 s.2.2.2.2.2
def ZDb (a:(Int×Zom×Zpi×Int×Int×Zn7)->ZG4) (s:(Int×Zom×Zpi×Int×Int×Zn7)):ZG4:=ZAq (fun k f d b e c=>a (k,f,d,b,e,c)) s.1 s.2.1 s.2.2.1 s.2.2.2.1 s.2.2.2.2.1 s.2.2.2.2.2
theorem ZIP:∀n s,ZF0 (n+1) s=ZDb (ZF0 n) s:=fun _ _=>rfl
def ZtX (l:Zpi) (k:Int) (b:Bool) (d a:G_api_Column):ZNy:=bif b then (some (([]:Zn7),1))else ((Zwj d a).bind fun c=>(ZyI big k c l (l.length:Int) (0:Int) ([]:Zn7)).bind fun(e,f)=>ZEO e f)
def Zsx (l:Zpi) (k:Int) (c:Bool) (b a:G_api_Column):ZNy:=bif c then (some (([]:Zn7),2))else ((Zzo l).bind fun q=>bif (!q)then (ZtX l k true b a)else (bif ((b.Cells.length:Int) != (a.Cells.length:Int))then (ZtX l k true b a)else (ZtX l k (decide ((b.Cells.length:Int) > 4096)) b a)))
def Zsv (l:Zpi) (b a:G_api_Column) (k:Int):ZNy:=bif (decide (k < 0))then (Zsx l k true b a)else (Zsx l k (decide (k > 1024)) b a)
def Zw6 (l:Zpi):Option Bool:=some (decide ((l.length:Int)<=1024))
def Zrs (a:ZZp) (l c:Zpi) (d i:Int) (b:Bool):ZKH:=bif b then (some (.ret false))else (chk (inK .i64 (i+1)) <|a l c d (i+1))
def ZsL (a:ZZp) (l b:Zpi) (c i:Int):ZKH:=bif (decide (i < c))then ((idx b i).bind fun t=>(Zqp t).bind fun q=>bif (!q)then (Zrs a l b c i true)else (bif (decide (i > 0))then (chk (inK .i64 (i - 1)) <|(idx l (i - 1)).bind fun d=>Zrs a l b c i (decide (d.ID>=t.ID)))else (Zrs a l b c i false)))else (some (.brk l))
def Zrr:Nat->Zpi->Zpi->Int->Int->ZKH
 |0,_,_,_,_=>none
 |n_+1,l,t5,t6,i=>ZsL (Zrr n_) l t5 t6 i
def ZAY (n:Nat) (s:(Zpi×Zpi×Int×Int)):ZKH:=Zrr n s.1 s.2.1 s.2.2.1 s.2.2.2
def ZvS (a:(Zpi×Zpi×Int×Int)->ZKH) (s:(Zpi×Zpi×Int×Int)):ZKH:=ZsL (fun l b c i=>a (l,b,c,i)) s.1 s.2.1 s.2.2.1 s.2.2.2
theorem ZFq:∀n s,ZAY (n+1) s=ZvS (ZAY n) s:=fun _ _=>rfl
def Zq1 (l:Zpi):Option Bool:=(Zrr big l l (l.length:Int) (0:Int)).bind fun
 | .ret a=>some a
 | .brk b=>Zw6 b
def ZrU:Option ZnK:=(Zod 0).bind fun q=>some q
def Zxz (e:Bool) (a b:ZnK) (j i:Bool) (g h:ZnR):ZG5:=bif e then (some ((ZnK.mk (ZnP.mk false ([]:ZnR)) (ZnP.mk false ([]:ZnR))),1))else ((ZnY a.Num b.Num).bind fun q=>(ZnY a.Den b.Den).bind fun d=>(ZqV q d).bind fun(c,f)=>some (c,f))
def ZAd (a b:ZnK):ZG5:=(Zon a).bind fun q=>bif (!q)then (Zxz true a b false false ([]:ZnR) ([]:ZnR))else ((Zon b).bind fun c=>Zxz (!c) a b false false ([]:ZnR) ([]:ZnR))
def Zoz (a b:ZnK):Option ZnK:=(ZAd a b).bind fun(f,q)=>some f
def Zz9 (m:Zn0) (a y:ZnK):Option Zn0:=chk (inK .i64 (m.N+1)) <|(Zql m.X a).bind fun q=>(Zql m.Y y).bind fun d=>(Zoz a a).bind fun c=>(Zql m.XX c).bind fun g=>(Zoz y y).bind fun f=>(Zql m.YY f).bind fun b=>(Zoz a y).bind fun h=>(Zql m.XY h).bind fun e=>some (Zn0.mk (m.N+1) q d g b e)
def ZFi (v:Int) (l p n q s t o u r h:Bool) (m:Zn0) (j d k i c e g f b a:ZnR):Option Zn0:=some m
def Zwu (z:Tf_1) (x:ZyE) (y l B:Int) (n r o s u v q w t h:Bool) (m:Zn0) (j d k i c e g f b a:ZnR):ZRW:=bif (decide (l < y))then ((idx x l).bind fun p=>chk (inR 0 2) <|chk (inR 1 2) <|(Zz9 m p.e0 p.e1).bind fun A=>chk (inK .i64 (l+1)) <|z x y (l+1) B n r o s u v q w t h A j d k i c e g f b a)else (some (B,n,r,o,s,u,v,q,w,t,h,m,j,d,k,i,c,e,g,f,b,a))
def ZxY:Nat->ZyE->Int->Int->Int->Bool->Bool->Bool->Bool->Bool->Bool->Bool->Bool->Bool->Bool->Zn0->ZnR->ZnR->ZnR->ZnR->ZnR->ZnR->ZnR->ZnR->ZnR->ZnR->ZRW
 |0,_,_,_,_,_,_,_,_,_,_,_,_,_,_,_,_,_,_,_,_,_,_,_,_,_=>none
 |n_+1,t14,t15,t16,t2,t2_1,t2_2,t2_3,t2_4,t2_5,t2_6,t2_7,t2_8,t2_9,t2_10,m,t2_11,t2_12,t2_13,t2_14,t2_15,t2_16,t2_17,t2_18,t2_19,t2_20=>Zwu (ZxY n_) t14 t15 t16 t2 t2_1 t2_2 t2_3 t2_4 t2_5 t2_6 t2_7 t2_8 t2_9 t2_10 m t2_11 t2_12 t2_13 t2_14 t2_15 t2_16 t2_17 t2_18 t2_19 t2_20
def ZED (n:Nat) (s:(ZyE×Int×Int×Int×Bool×Bool×Bool×Bool×Bool×Bool×Bool×Bool×Bool×Bool×Zn0×ZnR×ZnR×ZnR×ZnR×ZnR×ZnR×ZnR×ZnR×ZnR×ZnR)):ZRW:=ZxY n s.1 s.2.1 s.2.2.1 s.2.2.2.1 s.2.2.2.2.1 s.2.2.2.2.2.1 s.2.2.2.2.2.2.1 s.2.2.2.2.2.2.2.1 s.2.2.2.2.2.2.2.2.1 s.2.2.2.2.2.2.2.2.2.1 s.2.2.2.2.2.2.2.2.2.2.1 s.2.2.2.2.2.2.2.2.2.2.2.1 s.2.2.2.2.2.2.2.2.2.2.2.2.1 s.2.2.2.2.2.2.2.2.2.2.2.2.2.1 s.2.2.2.2.2.2.2.2.2.2.2.2.2.2.1 s.2.2.2.2.2.2.2.2.2.2.2.2.2.2.2.1 s.2.2.2.2.2.2.2.2.2.2.2.2.2.2.2.2.1 s.2.2.2.2.2.2.2.2.2.2.2.2.2.2.2.2.2.1 s.2.2.2.2.2.2.2.2.2.2.2.2.2.2.2.2.2.2.1 s.2.2.2.2.2.2.2.2.2.2.2.2.2.2.2.2.2.2.2.1 s.2.2.2.2.2.2.2.2.2.2.2.2.2.2.2.2.2.2.2.2.1 s.2.2.2.2.2.2.2.2.2.2.2.2.2.2.2.2.2.2.2.2.2.1 s.2.2.2.2.2.2.2.2.2.2.2.2.2.2.2.2.2.2.2.2.2.2.1 s.2.2.2.2.2.2.2.2.2.2.2.2.2.2.2.2.2.2.2.2.2.2.2.1 s.2.2.2.2.2.2.2.2.2.2.2.2.2.2.2.2.2.2.2.2.2.2.2.2
def ZAA (w:Tf_0) (s:(ZyE×Int×Int×Int×Bool×Bool×Bool×Bool×Bool×Bool×Bool×Bool×Bool×Bool×Zn0×ZnR×ZnR×ZnR×ZnR×ZnR×ZnR×ZnR×ZnR×ZnR×ZnR)):ZRW:=Zwu (fun x y z A l p n q t u o v r h m j d k i c e g f b a=>w (x,y,z,A,l,p,n,q,t,u,o,v,r,h,m,j,d,k,i,c,e,g,f,b,a)) s.1 s.2.1 s.2.2.1 s.2.2.2.1 s.2.2.2.2.1 s.2.2.2.2.2.1 s.2.2.2.2.2.2.1 s.2.2.2.2.2.2.2.1 s.2.2.2.2.2.2.2.2.1 s.2.2.2.2.2.2.2.2.2.1 s.2.2.2.2.2.2.2.2.2.2.1 s.2.2.2.2.2.2.2.2.2.2.2.1 s.2.2.2.2.2.2.2.2.2.2.2.2.1 s.2.2.2.2.2.2.2.2.2.2.2.2.2.1 s.2.2.2.2.2.2.2.2.2.2.2.2.2.2.1 s.2.2.2.2.2.2.2.2.2.2.2.2.2.2.2.1 s.2.2.2.2.2.2.2.2.2.2.2.2.2.2.2.2.1 s.2.2.2.2.2.2.2.2.2.2.2.2.2.2.2.2.2.1 s.2.2.2.2.2.2.2.2.2.2.2.2.2.2.2.2.2.2.1 s.2.2.2.2.2.2.2.2.2.2.2.2.2.2.2.2.2.2.2.1 s.2.2.2.2.2.2.2.2.2.2.2.2.2.2.2.2.2.2.2.2.1 s.2.2.2.2.2.2.2.2.2.2.2.2.2.2.2.2.2.2.2.2.2.1 s.2.2.2.2.2.2.2.2.2.2.2.2.2.2.2.2.2.2.2.2.2.2.1 s.2.2.2.2.2.2.2.2.2.2.2.2.2.2.2.2.2.2.2.2.2.2.2.1 s.2.2.2.2.2.2.2.2.2.2.2.2.2.2.2.2.2.2.2.2.2.2.2.2
theorem ZHI:∀n s,ZED (n+1) s=ZAA (ZED n) s:=fun _ _=>rfl
def ZAX (l:ZyE):Option Zn0:=(ZrU).bind fun z=>(ZxY big l (l.length:Int) (0:Int) (0:Int) false false false false false false false false false false (Zn0.mk 0 z z z z z) ([]:ZnR) ([]:ZnR) ([]:ZnR) ([]:ZnR) ([]:ZnR) ([]:ZnR) ([]:ZnR) ([]:ZnR) ([]:ZnR) ([]:ZnR)).bind fun(x0,x1,x2,x3,x4,x5,x6,x7,x8,x9,x10,x11,x12,x13,x14,x15,x16,x17,x18,x19,x20,x21)=>ZFi x0 x1 x2 x3 x4 x5 x6 x7 x8 x9 x10 x11 x12 x13 x14 x15 x16 x17 x18 x19 x20 x21
def Zxy (f:Bool) (a b:ZnK) (m l:Bool) (j k:ZnR):ZG5:=bif f then (some ((ZnK.mk (ZnP.mk false ([]:ZnR)) (ZnP.mk false ([]:ZnR))),1))else ((ZnY a.Num b.Den).bind fun q=>(ZnY b.Num a.Den).bind fun e=>(Zrw e).bind fun d=>(ZpT q d).bind fun h=>(ZnY a.Den b.Den).bind fun g=>(ZqV h g).bind fun(c,i)=>some (c,i))
def ZAc (a b:ZnK):ZG5:=(Zon a).bind fun q=>bif (!q)then (Zxy true a b false false ([]:ZnR) ([]:ZnR))else ((Zon b).bind fun c=>Zxy (!c) a b false false ([]:ZnR) ([]:ZnR))
def Zt5 (a b:ZnK):Option ZnK:=(ZAc a b).bind fun(f,q)=>some f
def ZxB (d:Bool) (a b:ZnK):Option Int:=bif d then (some (0:Int))else ((ZnY a.Num b.Den).bind fun q=>(ZnY b.Num a.Den).bind fun c=>(Zrw c).bind fun e=>(ZpT q e).bind fun f=>bif ((f.Words.length:Int) == 0)then (some (0:Int))else (bif f.Neg then (some (-1:Int))else (some (1:Int))))
def ZwR (a b:ZnK):Option Int:=(Zon a).bind fun q=>bif (!q)then (ZxB true a b)else ((Zon b).bind fun c=>ZxB (!c) a b)
def ZpS (e k g:Bool) (c u j z:ZnK) (h i:ZnR):ZS1:=bif e then ((ZrU).bind fun q=>some (q,0,false))else ((ZsA c u).bind fun a=>(ZsA c j).bind fun b=>(Zoz a b).bind fun f=>(ZwR c z).bind fun d=>some (f,d,true))
def Zxi (m:Zn0):ZS1:=(Zod m.N).bind fun n=>(Zoz n m.XY).bind fun q=>(Zoz m.X m.Y).bind fun e=>(Zt5 q e).bind fun c=>(Zoz n m.XX).bind fun d=>(Zoz m.X m.X).bind fun h=>(Zt5 d h).bind fun u=>(Zoz n m.YY).bind fun g=>(Zoz m.Y m.Y).bind fun b=>(Zt5 g b).bind fun a=>(ZrU).bind fun z=>bif (decide (m.N < 3))then (ZpS true false false c u a z ([]:ZnR) ([]:ZnR))else ((ZoW u z).bind fun i=>bif i then (ZpS true false false c u a z ([]:ZnR) ([]:ZnR))else ((ZoW a z).bind fun f=>ZpS f false false c u a z ([]:ZnR) ([]:ZnR)))
def ZvO (a b:ZnK):Option Bool:=(ZwR a b).bind fun q=>some (decide (q < 0))
def ZtF (a:Bool):Option Bool:=some a
def ZvU (a b:Zph):Option Bool:=bif (decide (a.Table < b.Table))then (ZtF true)else (bif (a.Table == b.Table)then (ZtF (decide (a.Column < b.Column)))else (ZtF false))
def Zxk (a b:ZnX):Option Bool:=(ZoW a.Score b.Score).bind fun q=>bif (!q)then ((ZvO b.Score a.Score).bind fun c=>some c)else (bif (!(a.Key.Table == b.Key.Table&&(a.Key.Column == b.Key.Column&&true)))then ((ZvU a.Key b.Key).bind fun e=>some e)else ((ZvU a.Value b.Value).bind fun d=>some d))
def ZBh (l:Zn7) (i:Int) (a:ZnX):Option Zn7:=chk (Zca 0 i (l.length:Int)) <|chk (Zi5 (l.take (i).toNat).length 112) <|chk (Zi5 ((l.take (i).toNat).length+([a]:Zn7).length) 112) <|chk (Zca i (l.length:Int) (l.length:Int)) <|chk (Zi5 (((l.take (i).toNat)++([a]:Zn7)).length+(l.drop (i).toNat).length) 112) <|some (((l.take (i).toNat)++([a]:Zn7))++(l.drop (i).toNat))
def Zxj (a:ZZs) (l:Zn7) (i:Int) (b:Bool) (c:ZnX):ZOp:=bif b then (chk (inK .i64 (i - 1)) <|a l (i - 1) c)else (some (l,i,c))
def Zzv (a:ZZs) (l:Zn7) (i:Int) (c:ZnX):ZOp:=bif (decide (i > 0))then (chk (inK .i64 (i - 1)) <|(idx l (i - 1)).bind fun b=>(Zxk c b).bind fun q=>Zxj a l i q c)else (Zxj a l i false c)
def Zuh:Nat->Zn7->Int->ZnX->ZOp
 |0,_,_,_=>none
 |n_+1,l,i,x_=>Zzv (Zuh n_) l i x_
def ZDO (n:Nat) (s:(Zn7×Int×ZnX)):ZOp:=Zuh n s.1 s.2.1 s.2.2
def ZDP (a:(Zn7×Int×ZnX)->ZOp) (s:(Zn7×Int×ZnX)):ZOp:=Zzv (fun l i b=>a (l,i,b)) s.1 s.2.1 s.2.2
theorem ZHk:∀n s,ZDO (n+1) s=ZDP (ZDO n) s:=fun _ _=>rfl
def ZwN (l:Zn7) (d:ZnX):Option Zn7:=(Zuh big l (l.length:Int) d).bind fun(b,c,a)=>ZBh b c a
def ZBe (k:Int) (a:Zn7):ZNy:=chk (Zca 0 (if (a.length:Int) < k then (a.length:Int)else k) (a.length:Int)) <|some (((a.drop 0).take (((if (a.length:Int) < k then (a.length:Int)else k)).toNat - 0)),0)
def ZBf (c:ZZK) (k:Int) (d:Zpi) (f b:Int) (g a:G_api_Column) (e:Zn7):ZG4:=chk (inK .i64 (b+1)) <|c k d f (b+1) g a e
def ZBg (b:Tf_7) (k:Int) (c:Zpi) (g d:Int) (f:ZoU) (h i:Int) (j a:G_api_Column) (e:Zn7) (t:G_api_Table):ZOx:=chk (inK .i64 (i+1)) <|b k c g d f h (i+1) j a e t
def Zug (c:Z2f) (k i:Int) (f:Zpi) (n h:Int) (l:ZoU) (o d:Int) (e:ZoU) (g j:Int) (p b:G_api_Column) (m:Zn7) (t:G_api_Table) (a:G_api_Column):ZTN:=chk (inK .i64 (j+1)) <|c k i f n h l o d e g (j+1) p b m t a
def Zxh (c:Z2f) (k i j v:Int) (h:Zpi) (p r:Int) (o:ZoU) (e f:Int) (g:ZoU) (l u:Int) (w:Bool) (q b:G_api_Column) (n:Zn7) (t:G_api_Table) (a:G_api_Column) (m:Zn0) (s:ZnK):ZTN:=bif w then ((ZwN n (ZnX.mk (Zph.mk t.ID i) (Zph.mk t.ID j) s v m.N)).bind fun d=>Zug c k i h p r o e f g l u q b d t a)else (Zug c k i h p r o e f g l u q b n t a)
def ZvG (e:Z2f) (k i:Int) (h:Zpi) (r n:Int) (p:ZoU) (u f:Int) (g:ZoU) (l j:Int) (d c:G_api_Column) (o:Zn7) (t:G_api_Table) (a:G_api_Column):ZTN:=bif (decide (j < l))then ((idx g j).bind fun b=>bif (i == j)then (Zug e k i h r n p u f g l j d c o t a)else ((ZuQ d c a b).bind fun q=>(ZAX q).bind fun m=>(Zxi m).bind fun(s,v,y)=>bif y then ((ZrU).bind fun x=>(ZvO x s).bind fun w=>Zxh e k i j v h r n p u f g l j w d c o t a m s)else (Zxh e k i j v h r n p u f g l j false d c o t a m s)))else (some (k,h,r,n,p,u,f,d,c,o,t))
def ZqS:Nat->Int->Int->Zpi->Int->Int->ZoU->Int->Int->ZoU->Int->Int->G_api_Column->G_api_Column->Zn7->G_api_Table->G_api_Column->ZTN
 |0,_,_,_,_,_,_,_,_,_,_,_,_,_,_,_,_=>none
 |n_+1,k,i,t47,t48,t49,t54,t55,i_1,t62,t63,j,key,value,out,t,a=>ZvG (ZqS n_) k i t47 t48 t49 t54 t55 i_1 t62 t63 j key value out t a
def ZDL (n:Nat) (s:(Int×Int×Zpi×Int×Int×ZoU×Int×Int×ZoU×Int×Int×G_api_Column×G_api_Column×Zn7×G_api_Table×G_api_Column)):ZTN:=ZqS n s.1 s.2.1 s.2.2.1 s.2.2.2.1 s.2.2.2.2.1 s.2.2.2.2.2.1 s.2.2.2.2.2.2.1 s.2.2.2.2.2.2.2.1 s.2.2.2.2.2.2.2.2.1 s.2.2.2.2.2.2.2.2.2.1 s.2.2.2.2.2.2.2.2.2.2.1 s.2.2.2.2.2.2.2.2.2.2.2.1 s.2.2.2.2.2.2.2.2.2.2.2.2.1 s.2.2.2.2.2.2.2.2.2.2.2.2.2.1 s.2.2.2.2.2.2.2.2.2.2.2.2.2.2.1 s.2.2.2.2.2.2.2.2.2.2.2.2.2.2.2
def Zzs (c:(Int×Int×Zpi×Int×Int×ZoU×Int×Int×ZoU×Int×Int×G_api_Column×G_api_Column×Zn7×G_api_Table×G_api_Column)->ZTN) (s:(Int×Int×Zpi×Int×Int×ZoU×Int×Int×ZoU×Int×Int×G_api_Column×G_api_Column×Zn7×G_api_Table×G_api_Column)):ZTN:=ZvG (fun k i g n p m d e f h j o b l t a=>c (k,i,g,n,p,m,d,e,f,h,j,o,b,l,t,a)) s.1 s.2.1 s.2.2.1 s.2.2.2.1 s.2.2.2.2.1 s.2.2.2.2.2.1 s.2.2.2.2.2.2.1 s.2.2.2.2.2.2.2.1 s.2.2.2.2.2.2.2.2.1 s.2.2.2.2.2.2.2.2.2.1 s.2.2.2.2.2.2.2.2.2.2.1 s.2.2.2.2.2.2.2.2.2.2.2.1 s.2.2.2.2.2.2.2.2.2.2.2.2.1 s.2.2.2.2.2.2.2.2.2.2.2.2.2.1 s.2.2.2.2.2.2.2.2.2.2.2.2.2.2.1 s.2.2.2.2.2.2.2.2.2.2.2.2.2.2.2
theorem ZHh:∀n s,ZDL (n+1) s=Zzs (ZDL n) s:=fun _ _=>rfl
def ZvH (l:Tf_7) (k:Int) (c:Zpi) (h e:Int) (j:ZoU) (f i:Int) (g b:G_api_Column) (d:Zn7) (t:G_api_Table):ZOx:=bif (decide (i < f))then ((idx j i).bind fun a=>(ZqS big k i c h e j f i t.Columns (t.Columns.length:Int) (0:Int) g b d t a).bind fun(p,x,o,n,w,u,r,s,v,q,m)=>ZBg l p x o n w u r s v q m)else (some (k,c,h,e,g,b,d))
def Zsp:Nat->Int->Zpi->Int->Int->ZoU->Int->Int->G_api_Column->G_api_Column->Zn7->G_api_Table->ZOx
 |0,_,_,_,_,_,_,_,_,_,_,_=>none
 |n_+1,k,t47,t48,t49,t54,t55,i,key,value,out,t=>ZvH (Zsp n_) k t47 t48 t49 t54 t55 i key value out t
def ZDM (n:Nat) (s:(Int×Zpi×Int×Int×ZoU×Int×Int×G_api_Column×G_api_Column×Zn7×G_api_Table)):ZOx:=Zsp n s.1 s.2.1 s.2.2.1 s.2.2.2.1 s.2.2.2.2.1 s.2.2.2.2.2.1 s.2.2.2.2.2.2.1 s.2.2.2.2.2.2.2.1 s.2.2.2.2.2.2.2.2.1 s.2.2.2.2.2.2.2.2.2.1 s.2.2.2.2.2.2.2.2.2.2
def Zzt (b:(Int×Zpi×Int×Int×ZoU×Int×Int×G_api_Column×G_api_Column×Zn7×G_api_Table)->ZOx) (s:(Int×Zpi×Int×Int×ZoU×Int×Int×G_api_Column×G_api_Column×Zn7×G_api_Table)):ZOx:=ZvH (fun k c g d e j i h a f t=>b (k,c,g,d,e,j,i,h,a,f,t)) s.1 s.2.1 s.2.2.1 s.2.2.2.1 s.2.2.2.2.1 s.2.2.2.2.2.1 s.2.2.2.2.2.2.1 s.2.2.2.2.2.2.2.1 s.2.2.2.2.2.2.2.2.1 s.2.2.2.2.2.2.2.2.2.1 s.2.2.2.2.2.2.2.2.2.2
theorem ZHi:∀n s,ZDM (n+1) s=Zzt (ZDM n) s:=fun _ _=>rfl
def ZvI (f:ZZK) (k:Int) (c:Zpi) (e a:Int) (g b:G_api_Column) (d:Zn7):ZG4:=bif (decide (a < e))then ((idx c a).bind fun t=>(Zsp big k c e a t.Columns (t.Columns.length:Int) (0:Int) g b d t).bind fun(h,l,n,j,o,m,i)=>ZBf f h l n j o m i)else (some (k,d))
def Zuf:Nat->Int->Zpi->Int->Int->G_api_Column->G_api_Column->Zn7->ZG4
 |0,_,_,_,_,_,_,_=>none
 |n_+1,k,t47,t48,t49,key,value,out=>ZvI (Zuf n_) k t47 t48 t49 key value out
def ZDN (n:Nat) (s:(Int×Zpi×Int×Int×G_api_Column×G_api_Column×Zn7)):ZG4:=Zuf n s.1 s.2.1 s.2.2.1 s.2.2.2.1 s.2.2.2.2.1 s.2.2.2.2.2.1 s.2.2.2.2.2.2
def Zzu (b:(Int×Zpi×Int×Int×G_api_Column×G_api_Column×Zn7)->ZG4) (s:(Int×Zpi×Int×Int×G_api_Column×G_api_Column×Zn7)):ZG4:=ZvI (fun k c e g f a d=>b (k,c,e,g,f,a,d)) s.1 s.2.1 s.2.2.1 s.2.2.2.1 s.2.2.2.2.1 s.2.2.2.2.2.1 s.2.2.2.2.2.2
theorem ZHj:∀n s,ZDN (n+1) s=Zzu (ZDN n) s:=fun _ _=>rfl
def ZqT (l:Zpi) (k:Int) (b:Bool) (c a:G_api_Column):ZNy:=bif b then (some (([]:Zn7),1))else ((Zuf big k l (l.length:Int) (0:Int) c a ([]:Zn7)).bind fun(d,e)=>ZBe d e)
def Zp2 (l:Zpi) (k:Int) (c:Bool) (b a:G_api_Column):ZNy:=bif c then (some (([]:Zn7),2))else ((Zq1 l).bind fun q=>bif (!q)then (ZqT l k true b a)else (bif ((b.Cells.length:Int) != (a.Cells.length:Int))then (ZqT l k true b a)else (ZqT l k (decide ((b.Cells.length:Int) > 4096)) b a)))
def ZpI (l:Zpi) (b a:G_api_Column) (k:Int):ZNy:=bif (decide (k < 0))then (Zp2 l k true b a)else (Zp2 l k (decide (k > 1024)) b a)
def ZAz:Option Bool:=some true
def ZqB (a:ZZo) (b c:Zn7) (e i:Int) (d:Bool):ZwZ:=bif d then (some (.ret false))else (chk (inK .i64 (i+1)) <|a b c e (i+1))
def Zve (a:ZZo) (b c:Zn7) (d i:Int):ZwZ:=bif (decide (i < d))then ((idx c i).bind fun e=>(idx b i).bind fun y=>bif (!(e.Key.Table == y.Key.Table&&(e.Key.Column == y.Key.Column&&true)))then (ZqB a b c d i true)else (bif (!(e.Value.Table == y.Value.Table&&(e.Value.Column == y.Value.Column&&true)))then (ZqB a b c d i true)else ((ZoW e.Score y.Score).bind fun q=>bif (!q)then (ZqB a b c d i true)else (bif (e.Sign != y.Sign)then (ZqB a b c d i true)else (ZqB a b c d i (e.N != y.N))))))else (some (.brk ()))
def ZtD:Nat->Zn7->Zn7->Int->Int->ZwZ
 |0,_,_,_,_=>none
 |n_+1,b,t13,t14,i=>Zve (ZtD n_) b t13 t14 i
def ZDk (n:Nat) (s:(Zn7×Zn7×Int×Int)):ZwZ:=ZtD n s.1 s.2.1 s.2.2.1 s.2.2.2
def ZyQ (a:(Zn7×Zn7×Int×Int)->ZwZ) (s:(Zn7×Zn7×Int×Int)):ZwZ:=Zve (fun b c d i=>a (b,c,d,i)) s.1 s.2.1 s.2.2.1 s.2.2.2
theorem ZGR:∀n s,ZDk (n+1) s=ZyQ (ZDk n) s:=fun _ _=>rfl
def ZrT (a b:Zn7):Option Bool:=bif ((a.length:Int) != (b.length:Int))then (some false)else ((ZtD big b a (a.length:Int) (0:Int)).bind fun
 | .ret c=>some c
 | .brk ()=>ZAz)
def ZtS:Option Bool:=(Zrx).bind fun q=>some q
def ZtT (f:ZZT) (k d a:Int) (g c b:G_api_Column) (e:(List Zpi)):ZwZ:=chk (inK .i64 (a+1)) <|f k d (a+1) g c b e
def Zo0 (j:Tf_6) (k:Int) (m:Zpi) (e g f a:Int) (d:Bool) (l c b:G_api_Column) (h:(List Zpi)) (i:ZnR):ZVS:=bif d then (some (.ret false))else (chk (inK .i64 (a+1)) <|j k m e g f (a+1) l c b h i)
def Zq2 (r:Tf_6) (k:Int) (s:Zpi) (l p o h:Int) (j d c:G_api_Column) (n:(List Zpi)) (i:ZnR):ZVS:=bif (decide (h < o))then (chk (inR h (i.length:Int)) <|(i[(h).toNat]?).bind fun m=>(Zsv s j d m).bind fun(a,e)=>(ZpI s j d m).bind fun(b,f)=>(Zsv s j c m).bind fun(u,g)=>(ZpI s j c m).bind fun(v,w)=>(ZrT a b).bind fun q=>bif (!q)then (Zo0 r k s l p o h true j d c n i)else (bif (e != f)then (Zo0 r k s l p o h true j d c n i)else ((ZrT u v).bind fun t=>bif (!t)then (Zo0 r k s l p o h true j d c n i)else (Zo0 r k s l p o h (g != w) j d c n i))))else (some (.brk (k,l,p,j,d,c,n)))
def Zo4:Nat->Int->Zpi->Int->Int->Int->Int->G_api_Column->G_api_Column->G_api_Column->(List Zpi)->ZnR->ZVS
 |0,_,_,_,_,_,_,_,_,_,_,_=>none
 |n_+1,k,x_,t186,t187,t195,t196,key,value,short,t185,t194=>Zq2 (Zo4 n_) k x_ t186 t187 t195 t196 key value short t185 t194
def Zx0 (n:Nat) (s:(Int×Zpi×Int×Int×Int×Int×G_api_Column×G_api_Column×G_api_Column×(List Zpi)×ZnR)):ZVS:=Zo4 n s.1 s.2.1 s.2.2.1 s.2.2.2.1 s.2.2.2.2.1 s.2.2.2.2.2.1 s.2.2.2.2.2.2.1 s.2.2.2.2.2.2.2.1 s.2.2.2.2.2.2.2.2.1 s.2.2.2.2.2.2.2.2.2.1 s.2.2.2.2.2.2.2.2.2.2
def Ztr (i:(Int×Zpi×Int×Int×Int×Int×G_api_Column×G_api_Column×G_api_Column×(List Zpi)×ZnR)->ZVS) (s:(Int×Zpi×Int×Int×Int×Int×G_api_Column×G_api_Column×G_api_Column×(List Zpi)×ZnR)):ZVS:=Zq2 (fun k l c e d f j b a g h=>i (k,l,c,e,d,f,j,b,a,g,h)) s.1 s.2.1 s.2.2.1 s.2.2.2.1 s.2.2.2.2.1 s.2.2.2.2.2.1 s.2.2.2.2.2.2.1 s.2.2.2.2.2.2.2.1 s.2.2.2.2.2.2.2.2.1 s.2.2.2.2.2.2.2.2.2.1 s.2.2.2.2.2.2.2.2.2.2
theorem ZDY:∀n s,Zx0 (n+1) s=Ztr (Zx0 n) s:=fun _ _=>rfl
def Zq3 (f:ZZT) (k c a:Int) (g e d:G_api_Column) (b:(List Zpi)):ZwZ:=bif (decide (a < c))then (chk (inR a (b.length:Int)) <|(b[(a).toNat]?).bind fun h=>(Zwk k 6).bind fun q=>(Zo4 big k h c a (([k,q]:ZnR).length:Int) (0:Int) g e d b ([k,q]:ZnR)).bind fun
 | .ret i=>some (.ret i)
 | .brk (x0,x1,x2,x3,x4,x5,x6)=>ZtT f x0 x1 x2 x3 x4 x5 x6)else (some (.brk ()))
def Zo5:Nat->Int->Int->Int->G_api_Column->G_api_Column->G_api_Column->(List Zpi)->ZwZ
 |0,_,_,_,_,_,_,_=>none
 |n_+1,k,t186,t187,key,value,short,t185=>Zq3 (Zo5 n_) k t186 t187 key value short t185
def Zx1 (n:Nat) (s:(Int×Int×Int×G_api_Column×G_api_Column×G_api_Column×(List Zpi))):ZwZ:=Zo5 n s.1 s.2.1 s.2.2.1 s.2.2.2.1 s.2.2.2.2.1 s.2.2.2.2.2.1 s.2.2.2.2.2.2
def Zts (f:(Int×Int×Int×G_api_Column×G_api_Column×G_api_Column×(List Zpi))->ZwZ) (s:(Int×Int×Int×G_api_Column×G_api_Column×G_api_Column×(List Zpi))):ZwZ:=Zq3 (fun k c e g b a d=>f (k,c,e,g,b,a,d)) s.1 s.2.1 s.2.2.1 s.2.2.2.1 s.2.2.2.2.1 s.2.2.2.2.2.1 s.2.2.2.2.2.2
theorem ZDZ:∀n s,Zx1 (n+1) s=Zts (Zx1 n) s:=fun _ _=>rfl
def Zur (k:Int) (b l:Zpi) (c a:G_api_Column):Option Bool:=chk (Zca 1 (a.Cells.length:Int) (a.Cells.length:Int)) <|(Zo5 big k (([l,b]:(List Zpi)).length:Int) (0:Int) c a (G_api_Column.mk ([]:Str) (a.Cells.drop ((1:Int)).toNat)) ([l,b]:(List Zpi))).bind fun
 | .ret d=>some d
 | .brk ()=>ZtS
def Zus (e:Tf_8) (k:Int) (f:Zpi) (c a:Int) (d:ZnJ) (l:Zpi) (g b:G_api_Column):ZOw:=chk (inK .i64 (a+1)) <|e k f c (a+1) d l g b
def Zut (g:Z2e) (k:Int) (h:Zpi) (f e:Int) (b:ZoU) (c i:Int) (d:ZnJ) (l:Zpi) (j a:G_api_Column) (m:G_api_Table):ZTO:=chk (inK .i64 (i+1)) <|g k h f e b c (i+1) d l j a m
def ZrG (n:Tf_2) (k:Int) (o:Zpi) (h g:Int) (b:ZoU) (f i m j:Int) (c:Bool) (d:ZnJ) (l:Zpi) (p a:G_api_Column) (r:G_api_Table) (q e:ZyE):ZVU:=bif c then (some (.ret false))else (chk (inK .i64 (j+1)) <|n k o h g b f i m (j+1) d l p a r q e)
def Zq4 (m:Tf_2) (k:Int) (o:Zpi) (h g:Int) (c:ZoU) (e i f j:Int) (d:ZnJ) (l:Zpi) (p a:G_api_Column) (t:G_api_Table) (q b:ZyE):ZVU:=bif (decide (j < f))then (chk (inR j (b.length:Int)) <|(b[(j).toNat]?).bind fun y=>chk (inR 0 2) <|chk (inR j (q.length:Int)) <|chk (inR 0 2) <|(q[(j).toNat]?).bind fun u=>(ZoW y.e0 u.e0).bind fun s=>bif (!s)then (ZrG m k o h g c e i f j true d l p a t q b)else (chk (inR 1 2) <|chk (inR j (q.length:Int)) <|chk (inR 1 2) <|(q[(j).toNat]?).bind fun n=>(ZoW y.e1 n.e1).bind fun r=>ZrG m k o h g c e i f j (!r) d l p a t q b))else (some (.brk (k,o,h,g,c,e,i,d,l,p,a,t)))
def Zo6:Nat->Int->Zpi->Int->Int->ZoU->Int->Int->Int->Int->ZnJ->Zpi->G_api_Column->G_api_Column->G_api_Table->ZyE->ZyE->ZVU
 |0,_,_,_,_,_,_,_,_,_,_,_,_,_,_,_,_=>none
 |n_+1,k,raw,t108,t109,t114,t115,i,t150,j,d,l,key,value,x_,q,t149=>Zq4 (Zo6 n_) k raw t108 t109 t114 t115 i t150 j d l key value x_ q t149
def Zx2 (n:Nat) (s:(Int×Zpi×Int×Int×ZoU×Int×Int×Int×Int×ZnJ×Zpi×G_api_Column×G_api_Column×G_api_Table×ZyE×ZyE)):ZVU:=Zo6 n s.1 s.2.1 s.2.2.1 s.2.2.2.1 s.2.2.2.2.1 s.2.2.2.2.2.1 s.2.2.2.2.2.2.1 s.2.2.2.2.2.2.2.1 s.2.2.2.2.2.2.2.2.1 s.2.2.2.2.2.2.2.2.2.1 s.2.2.2.2.2.2.2.2.2.2.1 s.2.2.2.2.2.2.2.2.2.2.2.1 s.2.2.2.2.2.2.2.2.2.2.2.2.1 s.2.2.2.2.2.2.2.2.2.2.2.2.2.1 s.2.2.2.2.2.2.2.2.2.2.2.2.2.2.1 s.2.2.2.2.2.2.2.2.2.2.2.2.2.2.2
def Ztt (m:(Int×Zpi×Int×Int×ZoU×Int×Int×Int×Int×ZnJ×Zpi×G_api_Column×G_api_Column×G_api_Table×ZyE×ZyE)->ZVU) (s:(Int×Zpi×Int×Int×ZoU×Int×Int×Int×Int×ZnJ×Zpi×G_api_Column×G_api_Column×G_api_Table×ZyE×ZyE)):ZVU:=Zq4 (fun k n g f b c i e j d l o a p q h=>m (k,n,g,f,b,c,i,e,j,d,l,o,a,p,q,h)) s.1 s.2.1 s.2.2.1 s.2.2.2.1 s.2.2.2.2.1 s.2.2.2.2.2.1 s.2.2.2.2.2.2.1 s.2.2.2.2.2.2.2.1 s.2.2.2.2.2.2.2.2.1 s.2.2.2.2.2.2.2.2.2.1 s.2.2.2.2.2.2.2.2.2.2.1 s.2.2.2.2.2.2.2.2.2.2.2.1 s.2.2.2.2.2.2.2.2.2.2.2.2.1 s.2.2.2.2.2.2.2.2.2.2.2.2.2.1 s.2.2.2.2.2.2.2.2.2.2.2.2.2.2.1 s.2.2.2.2.2.2.2.2.2.2.2.2.2.2.2
theorem ZD0:∀n s,Zx2 (n+1) s=Ztt (Zx2 n) s:=fun _ _=>rfl
def ZrH (h:Z2e) (k:Int) (j:Zpi) (g f:Int) (b:ZoU) (e i:Int) (c:Bool) (d:ZnJ) (l:Zpi) (m a:G_api_Column) (n:G_api_Table) (p q:ZyE):ZTO:=bif c then (some (.ret false))else ((Zo6 big k j g f b e i (p.length:Int) (0:Int) d l m a n q p).bind fun
 | .ret o=>some (.ret o)
 | .brk (x0,x1,x2,x3,x4,x5,x6,x7,x8,x9,x10,x11)=>Zut h x0 x1 x2 x3 x4 x5 x6 x7 x8 x9 x10 x11)
def Zq5 (n:Z2e) (k:Int) (r:Zpi) (h g:Int) (e:ZoU) (f i:Int) (d:ZnJ) (l:Zpi) (j c:G_api_Column) (s:G_api_Table):ZTO:=bif (decide (i < f))then ((idx e i).bind fun a=>(ZnW d (s.Columns.length:Int)).bind fun(q,m)=>(idx s.Columns q).bind fun b=>(ZCB j c a b).bind fun p=>(ZuQ j c a b).bind fun o=>bif ((p.length:Int) != (o.length:Int))then (ZrH n k r h g e f i true m l j c s p o)else (ZrH n k r h g e f i (decide (i > 3)) m l j c s p o))else (some (.brk (k,r,h,g,d,l,j,c)))
def ZoD:Nat->Int->Zpi->Int->Int->ZoU->Int->Int->ZnJ->Zpi->G_api_Column->G_api_Column->G_api_Table->ZTO
 |0,_,_,_,_,_,_,_,_,_,_,_,_=>none
 |n_+1,k,raw,t108,t109,t114,t115,i,d,l,key,value,x_=>Zq5 (ZoD n_) k raw t108 t109 t114 t115 i d l key value x_
def Zx3 (n:Nat) (s:(Int×Zpi×Int×Int×ZoU×Int×Int×ZnJ×Zpi×G_api_Column×G_api_Column×G_api_Table)):ZTO:=ZoD n s.1 s.2.1 s.2.2.1 s.2.2.2.1 s.2.2.2.2.1 s.2.2.2.2.2.1 s.2.2.2.2.2.2.1 s.2.2.2.2.2.2.2.1 s.2.2.2.2.2.2.2.2.1 s.2.2.2.2.2.2.2.2.2.1 s.2.2.2.2.2.2.2.2.2.2.1 s.2.2.2.2.2.2.2.2.2.2.2
def Ztu (g:(Int×Zpi×Int×Int×ZoU×Int×Int×ZnJ×Zpi×G_api_Column×G_api_Column×G_api_Table)->ZTO) (s:(Int×Zpi×Int×Int×ZoU×Int×Int×ZnJ×Zpi×G_api_Column×G_api_Column×G_api_Table)):ZTO:=Zq5 (fun k h f e b c i d l j a m=>g (k,h,f,e,b,c,i,d,l,j,a,m)) s.1 s.2.1 s.2.2.1 s.2.2.2.1 s.2.2.2.2.1 s.2.2.2.2.2.1 s.2.2.2.2.2.2.1 s.2.2.2.2.2.2.2.1 s.2.2.2.2.2.2.2.2.1 s.2.2.2.2.2.2.2.2.2.1 s.2.2.2.2.2.2.2.2.2.2.1 s.2.2.2.2.2.2.2.2.2.2.2
theorem ZD1:∀n s,Zx3 (n+1) s=Ztu (Zx3 n) s:=fun _ _=>rfl
def Zq6 (f:Tf_8) (k:Int) (e:Zpi) (c a:Int) (d:ZnJ) (l:Zpi) (g b:G_api_Column):ZOw:=bif (decide (a < c))then (chk (inR a (l.length:Int)) <|(l[(a).toNat]?).bind fun h=>(ZoD big k e c a h.Columns (h.Columns.length:Int) (0:Int) d l g b h).bind fun
 | .ret i=>some (.ret i)
 | .brk (x0,x1,x2,x3,x4,x5,x6,x7)=>Zus f x0 x1 x2 x3 x4 x5 x6 x7)else (some (.brk (k,e,l,g,b)))
def Zo7:Nat->Int->Zpi->Int->Int->ZnJ->Zpi->G_api_Column->G_api_Column->ZOw
 |0,_,_,_,_,_,_,_,_=>none
 |n_+1,k,raw,t108,t109,d,l,key,value=>Zq6 (Zo7 n_) k raw t108 t109 d l key value
def Zx4 (n:Nat) (s:(Int×Zpi×Int×Int×ZnJ×Zpi×G_api_Column×G_api_Column)):ZOw:=Zo7 n s.1 s.2.1 s.2.2.1 s.2.2.2.1 s.2.2.2.2.1 s.2.2.2.2.2.1 s.2.2.2.2.2.2.1 s.2.2.2.2.2.2.2
def Ztv (e:(Int×Zpi×Int×Int×ZnJ×Zpi×G_api_Column×G_api_Column)->ZOw) (s:(Int×Zpi×Int×Int×ZnJ×Zpi×G_api_Column×G_api_Column)):ZOw:=Zq6 (fun k f c b d l g a=>e (k,f,c,b,d,l,g,a)) s.1 s.2.1 s.2.2.1 s.2.2.2.1 s.2.2.2.2.1 s.2.2.2.2.2.1 s.2.2.2.2.2.2.1 s.2.2.2.2.2.2.2
theorem ZD2:∀n s,Zx4 (n+1) s=Ztv (Zx4 n) s:=fun _ _=>rfl
def Zuu (k:Int) (e:Zpi) (d:ZnJ) (l:Zpi) (f b:Str) (c a:ZCq):Option Bool:=(Zo7 big k e (l.length:Int) (0:Int) d l (G_api_Column.mk f c) (G_api_Column.mk b a)).bind fun
 | .ret g=>some g
 | .brk (x0,x1,x2,x3,x4)=>Zur x0 x1 x2 x3 x4
def Zq7 (h:Int->Zpi->Int->Int->ZnJ->Zpi->Str->Str->ZCq->ZCq->ZQa) (k:Int) (f:Zpi) (e i:Int) (d:ZnJ) (l:Zpi) (j c:Str) (b a:ZCq):ZQa:=bif (decide (i < e))then ((Zou d ([([107,48]:Str),([107,49]:Str),([107,50]:Str),([107,51]:Str),([97]:Str),([98]:Str),([49]:Str),([50]:Str)]:ZEq)).bind fun(q,m)=>chk (inR i (b.length:Int)) <|(Ztz m).bind fun(n,g)=>chk (inR i (a.length:Int)) <|chk (inK .i64 (i+1)) <|h k f e (i+1) g l j c (b.set ((i).toNat) (G_api_Cell.mk false q)) (a.set ((i).toNat) n))else (some (k,f,d,l,j,c,b,a))
def Zp6:Nat->Int->Zpi->Int->Int->ZnJ->Zpi->Str->Str->ZCq->ZCq->ZQa
 |0,_,_,_,_,_,_,_,_,_,_=>none
 |n_+1,k,raw,t88,i,d,l,key,value,key_1,value_1=>Zq7 (Zp6 n_) k raw t88 i d l key value key_1 value_1
def Zx5 (n:Nat) (s:(Int×Zpi×Int×Int×ZnJ×Zpi×Str×Str×ZCq×ZCq)):ZQa:=Zp6 n s.1 s.2.1 s.2.2.1 s.2.2.2.1 s.2.2.2.2.1 s.2.2.2.2.2.1 s.2.2.2.2.2.2.1 s.2.2.2.2.2.2.2.1 s.2.2.2.2.2.2.2.2.1 s.2.2.2.2.2.2.2.2.2
def Ztw (e:(Int×Zpi×Int×Int×ZnJ×Zpi×Str×Str×ZCq×ZCq)->ZQa) (s:(Int×Zpi×Int×Int×ZnJ×Zpi×Str×Str×ZCq×ZCq)):ZQa:=Zq7 (fun k g f i d l h c b a=>e (k,g,f,i,d,l,h,c,b,a)) s.1 s.2.1 s.2.2.1 s.2.2.2.1 s.2.2.2.2.1 s.2.2.2.2.2.1 s.2.2.2.2.2.2.1 s.2.2.2.2.2.2.2.1 s.2.2.2.2.2.2.2.2.1 s.2.2.2.2.2.2.2.2.2
theorem ZD3:∀n s,Zx5 (n+1) s=Ztw (Zx5 n) s:=fun _ _=>rfl
def Zuv (t:ZnR) (k:Int) (g:Zpi):Option Bool:=(ZD8 t).bind fun d=>(Zv5 d 3).bind fun(l,e)=>(ZnW e 4).bind fun(q,h)=>chk (inK .i64 (4+q)) <|(ZrW h (4+q)).bind fun(b,f)=>(ZrW f (4+q)).bind fun(a,c)=>(Zp6 big k g (b.Cells.length:Int) (0:Int) c l b.Name a.Name b.Cells a.Cells).bind fun(i,o,r,n,s,p,j,m)=>Zuu i o r n s p j m
def Zuw (b:ZZA) (t:ZnR) (k:Int) (d c:Zpi) (e a:Int):ZOo:=chk (inK .i64 (a+1)) <|b t k d c e (a+1)
def Zq8 (i:ZnR->Int->Zpi->Zpi->Int->Int->ZoU->Int->Int->ZP4) (t:ZnR) (k:Int) (f e:Zpi) (h g:Int) (b:ZoU) (d a:Int):ZP4:=bif (decide (a < d))then ((idx b a).bind fun c=>bif (decide ((c.Cells.length:Int) > 8))then ((Zrx).bind fun q=>some (.ret q))else (chk (inK .i64 (a+1)) <|i t k f e h g b d (a+1)))else (some (.brk (t,k,f,e,h,g)))
def Zp7:Nat->ZnR->Int->Zpi->Zpi->Int->Int->ZoU->Int->Int->ZP4
 |0,_,_,_,_,_,_,_,_,_=>none
 |n_+1,t,k,raw,t48,t49,t50,t60,t61,t62=>Zq8 (Zp7 n_) t k raw t48 t49 t50 t60 t61 t62
def Zx6 (n:Nat) (s:(ZnR×Int×Zpi×Zpi×Int×Int×ZoU×Int×Int)):ZP4:=Zp7 n s.1 s.2.1 s.2.2.1 s.2.2.2.1 s.2.2.2.2.1 s.2.2.2.2.2.1 s.2.2.2.2.2.2.1 s.2.2.2.2.2.2.2.1 s.2.2.2.2.2.2.2.2
def Ztx (a:(ZnR×Int×Zpi×Zpi×Int×Int×ZoU×Int×Int)->ZP4) (s:(ZnR×Int×Zpi×Zpi×Int×Int×ZoU×Int×Int)):ZP4:=Zq8 (fun t k f e h g c d b=>a (t,k,f,e,h,g,c,d,b)) s.1 s.2.1 s.2.2.1 s.2.2.2.1 s.2.2.2.2.1 s.2.2.2.2.2.1 s.2.2.2.2.2.2.1 s.2.2.2.2.2.2.2.1 s.2.2.2.2.2.2.2.2
theorem ZD4:∀n s,Zx6 (n+1) s=Ztx (Zx6 n) s:=fun _ _=>rfl
def Zq9 (e:ZZA) (t:ZnR) (k:Int) (c b:Zpi) (d a:Int):ZOo:=bif (decide (a < d))then ((idx b a).bind fun f=>bif (decide ((f.Columns.length:Int) > 4))then ((Zrx).bind fun q=>some (.ret q))else ((Zp7 big t k c b d a f.Columns (f.Columns.length:Int) (0:Int)).bind fun
 | .ret g=>some (.ret g)
 | .brk (x0,x1,x2,x3,x4,x5)=>Zuw e x0 x1 x2 x3 x4 x5))else (some (.brk (t,k,c)))
def Zo8:Nat->ZnR->Int->Zpi->Zpi->Int->Int->ZOo
 |0,_,_,_,_,_,_=>none
 |n_+1,t,k,raw,t48,t49,t50=>Zq9 (Zo8 n_) t k raw t48 t49 t50
def Zx7 (n:Nat) (s:(ZnR×Int×Zpi×Zpi×Int×Int)):ZOo:=Zo8 n s.1 s.2.1 s.2.2.1 s.2.2.2.1 s.2.2.2.2.1 s.2.2.2.2.2
def Zty (a:(ZnR×Int×Zpi×Zpi×Int×Int)->ZOo) (s:(ZnR×Int×Zpi×Zpi×Int×Int)):ZOo:=Zq9 (fun t k c b e d=>a (t,k,c,b,e,d)) s.1 s.2.1 s.2.2.1 s.2.2.2.1 s.2.2.2.2.1 s.2.2.2.2.2
theorem ZD5:∀n s,Zx7 (n+1) s=Zty (Zx7 n) s:=fun _ _=>rfl
def ZrI (t:ZnR) (k:Int) (a:Zpi) (b:Bool):Option Bool:=bif b then ((Zrx).bind fun q=>some q)else ((Zo8 big t k a a (a.length:Int) (0:Int)).bind fun
 | .ret c=>some c
 | .brk (x0,x1,x2)=>Zuv x0 x1 x2)
def Zv4 (t:ZnR) (k:Int) (a:Zpi):Option Bool:=(ZC5 t).bind fun q=>bif (!q)then (ZrI t k a true)else (ZrI t k a (decide ((a.length:Int) > 4)))
end
end Go.Proofs

/- Printed by wip/tools/tgen.py: specs. -/
import Derived.Test.YteopakpakelkoaaGreatDoorE4
import Derived.Lib.Bytealg
import Derived.Lib.ItoaNum
import Derived.Lib.LaidU8
import Derived.Lib.SlTrimSet
import Derived.Shelf.Strconv.Itoa3
import Derived.Test.YteopakpakelkoaaGreatDoorUpWD
set_option linter.all false
namespace Go.Proofs
open Go Eng
set_option maxRecDepth 100000
noncomputable section
structure G_api_Cell where
 Null:Bool
 Text:Str
 deriving DecidableEq,Inhabited
structure G_api_Column where
 Name:Str
 Cells:(List G_api_Cell)
 deriving DecidableEq,Inhabited
structure G_api_Table where
 ID:Int
 Name:Str
 Columns:(List G_api_Column)
 deriving DecidableEq,Inhabited
structure Zgo where
 Neg:Bool
 Words:(List Int)
 deriving DecidableEq,Inhabited
structure ZbF where
 Num:Zgo
 Den:Zgo
 deriving DecidableEq,Inhabited
structure ZdN where
 lo:Int
 hi:Int
 deriving DecidableEq,Inhabited
structure Zp0 where
 word:Str
 canonical:(Option Nat)
 value:(Option Nat)
 deriving DecidableEq,Inhabited
structure Ziw where
 e0:Int
 e1:Int
 deriving DecidableEq,Inhabited
structure Zrw where
 w_:(List (List ZbF))
 best:(List (Ziw×ZbF))
 deriving DecidableEq,Inhabited
structure ZbZ where
 l:(List Int)
 at_:Int
 deriving DecidableEq,Inhabited
structure Zlj where
 Kind:Int
 Column:Int
 Text:Str
 Columns:(List Int)
 deriving DecidableEq,Inhabited
structure ZjT where
 e0:G_api_Table
 e1:G_api_Table
 deriving DecidableEq,Inhabited
abbrev Zys:Type:={l:List Int // l.length=256}
structure ZoW where
 e0:ZdN
 e1:ZdN
 e2:ZdN
 e3:ZdN
 e4:ZdN
 e5:ZdN
 e6:ZdN
 e7:ZdN
 e8:ZdN
 e9:ZdN
 e10:ZdN
 e11:ZdN
 e12:ZdN
 e13:ZdN
 e14:ZdN
 e15:ZdN
 deriving DecidableEq,Inhabited
def Zz1:Nat->Type|0=>G_api_Cell|1=>G_api_Column|2=>G_api_Table|3=>Zgo|4=>ZbF|5=>ZdN|6=>Zp0|7=>Ziw|8=>Zrw|9=>ZbZ|10=>Zlj|11=>ZjT|12=>Zys|13=>ZoW|_=>Unit
def ZYE:Nat->Nat|0=>2|1=>2|2=>3|3=>2|4=>4|5=>2|6=>3|7=>2|8=>2|9=>2|10=>4|11=>6|12=>256|13=>32|_=>0
def ZJs:(n:Nat)->Zz1 n->Zz1 n->Bool|7,x,y=>x.e0==y.e0&&x.e1==y.e1|_,_,_=>false
def ZIS:List (Lf Zz1):=[⟨.sl (.int .u32),([1]:List Int)⟩]
def ZD5:List (Lf Zz1):=(Lib.firstTab.map fun n=>⟨.int .u8,n⟩)
def Zu3:List (Lf Zz1):=[⟨.int .u8,(128:Int)⟩,⟨.int .u8,(191:Int)⟩,⟨.int .u8,(160:Int)⟩,⟨.int .u8,(191:Int)⟩,⟨.int .u8,(128:Int)⟩,⟨.int .u8,(159:Int)⟩,⟨.int .u8,(144:Int)⟩,⟨.int .u8,(191:Int)⟩,⟨.int .u8,(128:Int)⟩,⟨.int .u8,(143:Int)⟩,⟨.int .u8,(0:Int)⟩,⟨.int .u8,(0:Int)⟩,⟨.int .u8,(0:Int)⟩,⟨.int .u8,(0:Int)⟩,⟨.int .u8,(0:Int)⟩,⟨.int .u8,(0:Int)⟩,⟨.int .u8,(0:Int)⟩,⟨.int .u8,(0:Int)⟩,⟨.int .u8,(0:Int)⟩,⟨.int .u8,(0:Int)⟩,⟨.int .u8,(0:Int)⟩,⟨.int .u8,(0:Int)⟩,⟨.int .u8,(0:Int)⟩,⟨.int .u8,(0:Int)⟩,⟨.int .u8,(0:Int)⟩,⟨.int .u8,(0:Int)⟩,⟨.int .u8,(0:Int)⟩,⟨.int .u8,(0:Int)⟩,⟨.int .u8,(0:Int)⟩,⟨.int .u8,(0:Int)⟩,⟨.int .u8,(0:Int)⟩,⟨.int .u8,(0:Int)⟩]
def ZDD:List (Lf Zz1):=(Lib.pow10Tab.map fun n=>⟨.int .u64,n⟩)
abbrev Zcy:Type:=List Int
abbrev ZkT:Type:=List G_api_Column
abbrev Zo9:Type:=List ZbF
abbrev Zph:Type:=List Str
abbrev Zvr:Type:=List G_api_Cell
abbrev ZJ9:Type:=List ZjT
abbrev ZWv:Type:=Option ((List Zo9)×Int×Zo9×Int×(List Zo9)×Int×Int×Bool×Bool×(List (Ziw×ZbF))×ZbF×ZbF×Zcy×Zcy×Zcy)
abbrev ZYd:Type:=Option ((List Zo9)×Int×Int×(List Zo9)×Int×Int×Bool×Bool×(List (Ziw×ZbF))×Zcy×Zcy×Zcy)
abbrev ZRM:Type:=Option ((List Zo9)×(List (Ziw×ZbF))×Bool×Bool×Ziw×ZbF×Zcy×Zcy)
abbrev ZTz:Type:=Option (Out (Zcy×Zcy×Int×Int×G_api_Table×G_api_Table×Int×Str×ZkT) (G_api_Table×Int))
abbrev ZTx:Type:=Option ((List (Ziw×ZbF))×Bool×Bool×Ziw×ZbF×Zcy×Zcy)
abbrev ZTw:Type:=Option (Zcy×Int×ZkT×Int×Int×G_api_Table×Int×Str×Int×Str×Str×ZkT×ZkT×Zvr)
abbrev ZQb:Type:=Option (ZkT×Int×Int×G_api_Table×G_api_Table×Bool×Bool×(List Zo9)×Zo9×Zcy×Zcy)
abbrev ZYc:Type:=Option ((List Zo9)×Bool×Bool×(List (Ziw×ZbF))×Zcy×Zcy×Zcy)
abbrev ZKa:Type:=Option (Out (Zcy×G_api_Table×G_api_Table×Int×Str×ZkT) (G_api_Table×Int))
abbrev ZTv:Type:=Option (Zcy×G_api_Table×ZbZ×Int×Str×G_api_Table×ZkT)
abbrev ZOp:Type:=Option (Zcy×ZkT×Int×Int×Int×Str×Int×Str×Str×ZkT×ZkT×Zvr)
abbrev ZMT:Type:=Option (ZbZ×Int×Int×Str×Int×Int×Str×Zcy×Zcy)
abbrev ZMS:Type:=Option (Out (Zcy×Int×Str×Int×Str×ZkT×ZkT) (G_api_Table×Int))
abbrev ZJj:Type:=Option (G_api_Table×G_api_Table×Bool×Bool×(List Zo9)×Zcy×Zcy)
abbrev ZMR:Type:=Option (Zph×Zph×Int×Zph×Int×Int×Bool×Bool×Zcy×Zcy)
abbrev ZMQ:Type:=Option (Out (Zcy×G_api_Table×Int×Str×ZkT) (G_api_Table×Int))
abbrev ZOo:Type:=Option (Bool×Str×Bool×Bool×Zgo×Zgo×Zcy×Zcy)
abbrev ZWu:Type:=Option (ZbF×Bool×(List (Ziw×ZbF)))
abbrev ZIE:Type:=Option (Int×Int×Bool×Int×Int×G_api_Table×Zlj×Zcy)
abbrev ZMP:Type:=Option (Int×ZbZ×G_api_Table×Int×Str×ZkT)
abbrev ZOn:Type:=Option (Bool×Str×Zcy×Zcy×Bool×Bool×Zcy×Zcy×Zcy)
abbrev ZOm:Type:=Option (ZbZ×Int×Str×Int×Str×ZkT×ZkT)
abbrev ZMO:Type:=Option (Out (Zcy×Int×Int×ZbZ×ZJ9) Bool)
abbrev ZOl:Type:=Option (Out (G_api_Table×Int×Str×ZkT) (G_api_Table×Int))
abbrev ZMN:Type:=Option (Bool×Bool×Bool×Zgo×Zgo×Zcy×Zcy)
abbrev ZFi:Type:=Option (ZbF×(List (Ziw×ZbF)))
abbrev ZPF:Type:=Option (Bool×Bool×ZbF×Zcy×Zcy×Zcy)
abbrev ZMM:Type:=Option (Out (Bool×Str×Str) (Bool×Str×Str×Bool))
abbrev ZOk:Type:=Option (Nat×Nat×Zcy×Int×Int×Int×Int×Zcy)
abbrev ZML:Type:=Option (ZbZ×Str×Str×Zvr×Zvr)
abbrev ZOj:Type:=Option (Bool×Zcy×Zcy×Bool×Bool×Zcy×Zcy)
abbrev ZMK:Type:=Option (Zph×Zph×Int×Bool×Bool×Zcy×Zcy)
abbrev ZOi:Type:=Option (Zcy×Int×Int×Zcy×Int×Int×Zcy)
abbrev ZOh:Type:=Option (Int×Str×Int×Str×ZkT×Nat×ZkT)
abbrev ZMJ:Type:=Option (Int×Str×Int×Str×ZkT×ZkT×Nat)
abbrev ZTy:Type:=Option (Out (ZkT×Int×Int×G_api_Table) Bool)
abbrev ZJi:Type:=Option (Int×Int×Bool×Bool×Zcy×Zcy)
abbrev ZWt:Type:=Option (G_api_Column×ZbZ)
abbrev ZMI:Type:=Option (Nat×Nat×Zcy×Int×Int×Zcy)
abbrev ZPE:Type:=Option (G_api_Table×ZbZ)
abbrev ZGT:Type:=Option (Int×Str×Int×Str×ZkT×ZkT)
abbrev ZMH:Type:=Option (Str×Int×Zph×Int×Int×Zph)
abbrev ZOg:Type:=Option (Nat×Nat×Int×Int×Int×Zcy)
abbrev ZWs:Type:=Option (G_api_Cell×ZbZ)
abbrev ZKe:Type:=Option (Out ((List Zo9)×Int×Int) Int)
abbrev ZOf:Type:=Option (Zlj×ZbZ)
abbrev ZOe:Type:=Option (Zcy×Zcy×Int×Int×Zcy)
abbrev ZJh:Type:=Option (Zcy×ZbF×Int)
abbrev ZOd:Type:=Option (Nat×Nat×Zcy×Zcy)
abbrev ZOc:Type:=Option (Int×Int×Zcy×Zcy)
abbrev ZMG:Type:=Option (Bool×Str×Str×Bool)
abbrev ZOb:Type:=Option (Zph×Str×Int×Int)
abbrev ZPD:Type:=Option (Int×Int×Int×Bool)
abbrev ZIb:Type:=Option (ZbF×Bool)
abbrev ZQ2:Type:=Option (Int×Int×Int×Int)
abbrev ZGS:Type:=Option (ZbF×Int)
abbrev ZHj:Type:=Option (Out (List Zo9) Int)
abbrev ZHi:Type:=Option (G_api_Table×Int)
abbrev ZLZ:Type:=Option (Zcy×Zcy×Int)
abbrev ZMF:Type:=Option (Out Zlj Bool)
abbrev ZJ4:Type:=Option (Nat×Nat×Zcy)
abbrev ZLY:Type:=Option (Zph×Str×Int)
abbrev ZLX:Type:=Option (Str×Bool×Int)
abbrev ZIY:Type:=Option (Bool×Str×Str)
abbrev Zrv:Type:=Option (Out Unit Bool)
abbrev ZC5:Type:=Option (Out Unit Int)
abbrev ZJg:Type:=Option (Zcy×Zcy)
abbrev ZOa:Type:=Option (Out Str Str)
abbrev ZPC:Type:=Option (Out Int Int)
abbrev ZME:Type:=Option (Int×Bool)
abbrev ZLW:Type:=Option (Zcy×Int)
abbrev ZCR:Type:=Option (Int×Zcy)
abbrev ZIX:Type:=Option (Str×Bool)
abbrev ZK5:Type:=Option (Int×Int)
abbrev ZZi:Type:=(List Zo9)->Int->Int->Zo9->Int->(List Zo9)->Int->Int->Zo9->Int->Int->Bool->Bool->(List (Ziw×ZbF))->ZbF->ZbF->Zcy->Zcy->Zcy->ZWv
abbrev Tf_1:Type:=(List Zo9)->Int->Int->Int->(List Zo9)->Int->Int->Int->Int->Bool->Bool->(List (Ziw×ZbF))->Zcy->ZbF->Zcy->Zcy->ZYd
abbrev ZZh:Type:=(List Zo9)->Int->(List Zo9)->Int->Int->Bool->Bool->(List (Ziw×ZbF))->ZbF->ZbF->Zcy->Zcy->Zcy->ZPF
abbrev Tf_3:Type:=(List Zo9)->Int->Int->Zo9->Int->Int->(List (Ziw×ZbF))->Bool->Bool->Ziw->ZbF->Zcy->Zcy->ZTx
abbrev ZZg:Type:=(List Zo9)->Int->Int->Int->Int->(List (Ziw×ZbF))->Bool->Bool->Ziw->ZbF->Zcy->Zcy->ZRM
abbrev Tf_5:Type:=(ZkT×Int×Int×ZkT×Int×Int×G_api_Table×G_api_Table×Bool×Bool×(List Zo9)×G_api_Column×Zo9×Zcy×Zcy)->ZQb
abbrev Tf_6:Type:=ZkT->Int->Int->ZkT->Int->Int->G_api_Table->G_api_Table->Bool->Bool->(List Zo9)->G_api_Column->Zo9->Zcy->Zcy->ZQb
abbrev Tf_7:Type:=(List Zo9)->Int->(List Zo9)->Int->Int->Bool->Bool->(List (Ziw×ZbF))->Zcy->Zcy->Zcy->ZYc
abbrev Tf_8:Type:=Zcy->Int->Int->ZkT->Int->Int->Int->Int->G_api_Table->Int->Str->Int->Str->Str->ZkT->ZkT->Zvr->ZTw
abbrev Tf_9:Type:=Zcy->Int->Zcy->Int->Int->Zcy->Int->Int->G_api_Table->G_api_Table->Int->Str->ZkT->ZTz
abbrev ZW0:Type:=Zcy->Int->Int->Int->Int->ZbZ->ZjT->ZJ9->(List Zcy)->ZMO
abbrev ZWZ:Type:=Zph->Zph->Int->Str->Zph->Int->Int->Zph->Int->Int->Bool->Bool->Zcy->Zcy->ZMR
abbrev ZWY:Type:=(ZkT×Int×Int×G_api_Table×G_api_Table×Bool×Bool×(List Zo9)×Zcy×Zcy)->ZJj
abbrev ZRg:Type:=ZkT->Int->Int->G_api_Table->G_api_Table->Bool->Bool->(List Zo9)->Zcy->Zcy->ZJj
abbrev ZWX:Type:=Int->Int->ZbZ->Int->Int->Str->Int->Int->Str->Zcy->Zcy->ZMT
abbrev ZWW:Type:=Zcy->Int->ZkT->Int->Int->G_api_Table->Int->Str->Int->Str->ZkT->ZkT->ZGT
abbrev ZWV:Type:=Zcy->Int->G_api_Table->ZbZ->Int->Str->G_api_Table->ZkT->ZTv
abbrev ZWU:Type:=Zcy->Zcy->Int->Int->G_api_Table->Int->Str->Int->Str->ZkT->ZkT->ZMS
abbrev ZWT:Type:=Zcy->Int->Int->G_api_Table->Int->Str->Int->Str->ZkT->ZkT->Nat->ZMJ
abbrev ZWS:Type:=Int->Int->Bool->Int->Int->Int->Int->G_api_Table->Zlj->Zcy->ZIE
abbrev ZRf:Type:=(Zcy×Zcy×Int×Int×G_api_Table×G_api_Table×Int×Str×ZkT)->ZKa
abbrev ZL2:Type:=Zcy->Zcy->Int->Int->G_api_Table->G_api_Table->Int->Str->ZkT->ZKa
abbrev ZWR:Type:=Bool->Bool->Bool->Zgo->Zgo->Str->Nat->Zcy->Zcy->ZMN
abbrev ZWQ:Type:=Int->Int->Bool->Zvr->Int->Int->G_api_Table->Zlj->Zcy->ZIE
abbrev ZWP:Type:=Int->Int->ZbZ->G_api_Table->Int->Str->ZkT->ZMP
abbrev ZWO:Type:=Int->Int->Int->ZbZ->Str->Str->Zvr->Zvr->ZML
abbrev ZWN:Type:=Zph->Zph->Int->Zph->Int->Int->Bool->Bool->Zcy->Zcy->ZMK
abbrev ZWM:Type:=Zcy->ZkT->Int->Int->Int->Str->Int->Str->ZkT->ZkT->ZGT
abbrev ZWL:Type:=(Int×Int×Zvr×Int×Int×Bool×Bool×Zcy×Zcy)->ZJi
abbrev ZRe:Type:=Int->Int->Zvr->Int->Int->Bool->Bool->Zcy->Zcy->ZJi
abbrev ZWK:Type:=Zcy->Zcy->Int->Int->G_api_Table->Int->Str->ZkT->ZMQ
abbrev ZOq:Type:=Int->Int->G_api_Table->Zlj->Zcy->Option Zcy
abbrev ZRd:Type:=Zcy->Int->Int->ZbZ->ZJ9->Zrv
abbrev ZWJ:Type:=((List Zo9)×Int×Int×Zo9×Int×Int)->ZKe
abbrev ZWI:Type:=(List Zo9)->Int->Int->Zo9->Int->Int->ZKe
abbrev ZWH:Type:=Nat->Nat->Zcy->Int->Int->Int->Zcy->ZMI
abbrev ZWG:Type:=Zcy->Int->Int->G_api_Table->Zlj->ZMF
abbrev ZRc:Type:=((List Zo9)×(List Zo9)×Int×Int)->ZHj
abbrev ZWF:Type:=(Zcy×Zcy×Int×Int×Zcy)->Option Zcy
abbrev ZRb:Type:=(List Zo9)->(List Zo9)->Int->Int->ZHj
abbrev ZRa:Type:=Zcy->Zcy->Int->Int->Zcy->Option Zcy
abbrev ZWE:Type:=Str->Int->Zph->Int->Int->Zph->ZMH
abbrev ZWD:Type:=Zph->Int->Zph->Int->Int->Option Int
abbrev ZWC:Type:=Zcy->Zcy->Zcy->Int->Zcy->ZJg
abbrev ZTB:Type:=ZkT->Int->Int->G_api_Table->Zrv
abbrev ZWB:Type:=Zcy->Zcy->Int->Zcy->Option Zcy
abbrev ZQ9:Type:=Zcy->Zcy->Int->Int->Zcy->ZCR
abbrev ZWA:Type:=Zcy->Int->Int->Zcy->Option Zcy
abbrev ZQ8:Type:=Zph->Int->Int->Zph->Option Zph
abbrev ZWz:Type:=Zvr->Int->Int->Zph->Option Zph
abbrev ZQ7:Type:=Str->Zph->Str->Int->Option Zph
abbrev ZWy:Type:=Int->Int->Int->Int->Int->ZQ2
abbrev ZWx:Type:=((List Zo9)×Int×Int)->ZC5
abbrev ZQ6:Type:=(List Zo9)->Int->Int->ZC5
abbrev ZTA:Type:=Int->Int->Zcy->Option Zcy
abbrev ZWw:Type:=Bool->Str->Str->Int->ZMM
abbrev ZQ5:Type:=Zcy->Zcy->Int->ZLW
abbrev ZQ4:Type:=Zcy->Zcy->Int->ZLZ
abbrev ZQ3:Type:=Bool->Str->Str->ZIY
abbrev ZPG:Type:=Zcy->Option Zcy
abbrev ZL1:Type:=Str->Option Str
abbrev ZL0:Type:=Str->Zrv
def Zyd:Option Bool:=some true
def Zt9 (a:ZkT->Int->Int->Zrv) (e:ZkT) (c b:Int) (d:Bool):Zrv:=bif d then some (.ret false) else chk (inK .i64 (b+1)) <|a e c (b+1)
def ZsX (b:ZkT->Int->Int->Zrv) (d:ZkT) (e a:Int):Zrv:=bif a<e then (idx d a).bind fun c=>bif (c.Cells.length:Int)>10 then Zt9 b d e a true else Zt9 b d e a ((c.Name.length:Int)>100) else some (.brk ())
def Zro:Nat->ZkT->Int->Int->Zrv|0,_,_,_=>none|a+1,b,c,d=>ZsX (Zro a) b c d
def ZBc (n:Nat) (s:(ZkT×Int×Int)):Zrv:=Zro n s.1 s.2.1 s.2.2
def ZwQ (a:(ZkT×Int×Int)->Zrv) (s:(ZkT×Int×Int)):Zrv:=ZsX (fun b d c=>a (b,d,c)) s.1 s.2.1 s.2.2
theorem ZET (n s):ZBc (n+1) s=ZwQ (ZBc n) s:=rfl
def Zwi (t:G_api_Table):Option Bool:=bif (t.Columns.length:Int)>10 then some false else (Zro big t.Columns t.Columns.length 0).bind fun| .ret a=>some a| .brk ()=>Zyd
def ZBw (t:Zcy):Option Bool:=some ((t.length:Int)<=500)
def ZoO (s:Str):Option Int:=(idx s 0).bind fun c=>(idx s 1).bind fun f=>chk (0<=(8:Int)) <|(idx s 2).bind fun e=>chk (0<=(16:Int)) <|(idx s 3).bind fun d=>chk (0<=(24:Int)) <|(idx s 4).bind fun g=>chk (0<=(32:Int)) <|(idx s 5).bind fun b=>chk (0<=(40:Int)) <|(idx s 6).bind fun h=>chk (0<=(48:Int)) <|(idx s 7).bind fun a=>chk (0<=(56:Int)) <|some (orK .u64 (orK .u64 (orK .u64 (orK .u64 (orK .u64 (orK .u64 (orK .u64 (IntKind.wrap .u64 ((c.toNat:Nat):Int)) (shlK .u64 (IntKind.wrap .u64 ((f.toNat:Nat):Int)) 8)) (shlK .u64 (IntKind.wrap .u64 ((e.toNat:Nat):Int)) 16)) (shlK .u64 (IntKind.wrap .u64 ((d.toNat:Nat):Int)) 24)) (shlK .u64 (IntKind.wrap .u64 ((g.toNat:Nat):Int)) 32)) (shlK .u64 (IntKind.wrap .u64 ((b.toNat:Nat):Int)) 40)) (shlK .u64 (IntKind.wrap .u64 ((h.toNat:Nat):Int)) 48)) (shlK .u64 (IntKind.wrap .u64 ((a.toNat:Nat):Int)) 56))
def Zwp:Option Bool:=some true
def ZoI (a:ZL0) (s:Str) (b:Bool):Zrv:=bif b then some (.ret false) else chk (Zcp 4 s.length s.length) <|a (s.drop ((4:Int)).toNat)
def Zo7 (b:ZL0) (s:Str) (a:Bool):Zrv:=bif a then some (.ret false) else chk (Zcp 3 s.length s.length) <|b (s.drop ((3:Int)).toNat)
def ZpL (a:ZL0) (s:Str) (b:Bool):Zrv:=bif b then some (.ret false) else chk (Zcp 2 s.length s.length) <|a (s.drop ((2:Int)).toNat)
def Zqu (a:ZL0) (s:Str):Zrv:=a s
def Zwq (a:ZL0) (s:Str):Zrv:=a s
def Zsz (a:ZL1) (s:Str) (b:Bool):Option Str:=bif b then chk (Zcp 32 s.length s.length) <|a (s.drop ((32:Int)).toNat) else some s
def Zu5 (a:ZL1) (s:Str):Option Str:=bif (s.length:Int)>32 then (ZoO s).bind fun q=>chk (Zcp 8 s.length s.length) <|(ZoO (s.drop ((8:Int)).toNat)).bind fun c=>chk (Zcp 16 s.length s.length) <|(ZoO (s.drop ((16:Int)).toNat)).bind fun b=>chk (Zcp 24 s.length s.length) <|(ZoO (s.drop ((24:Int)).toNat)).bind fun d=>Zsz a s ((andK .u64 (orK .u64 (orK .u64 q c) (orK .u64 b d)) 9259542123273814144)==0) else Zsz a s false
def ZpK:Nat->Str->Option Str|0,_=>none|a+1,b=>Zu5 (ZpK a) b
def Zqv (a:ZL0) (s:Str) (b:Bool):Zrv:=bif b then chk (Zcp 16 s.length s.length) <|(ZpK big (s.drop ((16:Int)).toNat)).bind fun c=>Zwq a c else Zqu a s
def Zqw (a:ZL0) (s:Str) (c:Bool):Zrv:=bif c then chk (Zcp 8 s.length s.length) <|bif (decide (((s.drop ((8:Int)).toNat).length:Int)>16))then (ZoO (s.drop ((8:Int)).toNat)).bind fun q=>chk (Zcp 8 ((s.drop ((8:Int)).toNat).length:Int) ((s.drop ((8:Int)).toNat).length:Int)) <|(ZoO ((s.drop ((8:Int)).toNat).drop ((8:Int)).toNat)).bind fun b=>Zqv a (s.drop ((8:Int)).toNat) ((andK .u64 (orK .u64 q b) 9259542123273814144)==0) else Zqv a (s.drop ((8:Int)).toNat) false else Zqu a s
def Zu6 (a:ZL0) (s:Str):Zrv:=bif (s.length:Int)>0 then (idx s 0).bind fun c=>bif ((c.toNat:Nat):Int)<128 then chk (Zcp 1 s.length s.length) <|bif (decide (((s.drop ((1:Int)).toNat).length:Int)>8))then (ZoO (s.drop ((1:Int)).toNat)).bind fun q=>Zqw a (s.drop ((1:Int)).toNat) ((andK .u64 q 9259542123273814144)==0) else Zqw a (s.drop ((1:Int)).toNat) false else chk (inR ((c.toNat:Nat):Int) 256) <|(tabB (car:=Zz1) (.int .u8) ZD5 ((((c.toNat:Nat):Int)).toNat*1)).bind fun b=>chk (0<=(4:Int)) <|chk (inR (shrK .u8 b 4) 16) <|(tabB (car:=Zz1) (.int .u8) Zu3 (((shrK .u8 b 4)).toNat*2)).bind fun e=>(tabB (car:=Zz1) (.int .u8) Zu3 (((shrK .u8 b 4)).toNat*2+1)).bind fun d=>bif (IntKind.wrap .i64 (andK .u8 b 7))==2 then bif (s.length:Int)<2 then ZpL a s true else (idx s 1).bind fun o=>bif ((o.toNat:Nat):Int)<e then ZpL a s true else (idx s 1).bind fun m=>ZpL a s (d<((m.toNat:Nat):Int)) else bif (IntKind.wrap .i64 (andK .u8 b 7))==3 then bif (s.length:Int)<3 then Zo7 a s true else (idx s 1).bind fun p=>bif ((p.toNat:Nat):Int)<e then Zo7 a s true else (idx s 1).bind fun l=>bif d<((l.toNat:Nat):Int) then Zo7 a s true else (idx s 2).bind fun r=>bif ((r.toNat:Nat):Int)<128 then Zo7 a s true else (idx s 2).bind fun n=>Zo7 a s ((191:Int)<((n.toNat:Nat):Int)) else bif (IntKind.wrap .i64 (andK .u8 b 7))==4 then bif (s.length:Int)<4 then ZoI a s true else (idx s 1).bind fun i=>bif ((i.toNat:Nat):Int)<e then ZoI a s true else (idx s 1).bind fun f=>bif d<((f.toNat:Nat):Int) then ZoI a s true else (idx s 2).bind fun g=>bif ((g.toNat:Nat):Int)<128 then ZoI a s true else (idx s 2).bind fun j=>bif (191:Int)<((j.toNat:Nat):Int) then ZoI a s true else (idx s 3).bind fun h=>bif ((h.toNat:Nat):Int)<128 then ZoI a s true else (idx s 3).bind fun k=>ZoI a s ((191:Int)<((k.toNat:Nat):Int)) else some (.ret false) else some (.brk ())
def Zlq:Nat->Str->Zrv|0,_=>none|a+1,b=>Zu6 (Zlq a) b
def ZpG (s:Str):Option Bool:=(Zlq big s).bind fun| .ret a=>some a| .brk ()=>Zwp
def ZHr (s:Str):Option Bool:=(ZpG s).bind fun q=>some q
def ZDK (a:Bool):Option Bool:=some a
def ZDA (s:Str):Option Bool:=bif (s.length:Int)<=1024 then (ZHr s).bind fun q=>ZDK q else ZDK false
def ZAy (t:G_api_Table):Option Int:=bif (t.Columns.length:Int)==0 then some 0 else (idx t.Columns 0).bind fun Column=>some (Column.Cells.length:Int)
def ZwY (a:Bool):Option Bool:=some a
def ZCH (c:G_api_Cell):Option Bool:=(ZDA c.Text).bind fun q=>bif q then bif c.Null then ZwY (!(!(c.Text==[]))) else ZwY true else ZwY false
def ZzR:Option Bool:=some true
def Zud (a:Zvr->Int->Int->Zrv) (d:Zvr) (c b:Int):Zrv:=bif b<c then (idx d b).bind fun e=>(ZCH e).bind fun q=>bif !q then some (.ret false) else chk (inK .i64 (b+1)) <|a d c (b+1) else some (.brk ())
def ZvS:Nat->Zvr->Int->Int->Zrv|0,_,_,_=>none|a+1,b,c,d=>Zud (ZvS a) b c d
def ZyI (l:Zvr):Option Bool:=(ZvS big l l.length 0).bind fun| .ret a=>some a| .brk ()=>ZzR
def Zzf (a:Bool):Option Bool:=some a
def ZDL (c:G_api_Column) (d:G_api_Table):Option Bool:=(ZDA c.Name).bind fun q=>bif !q then Zzf true else (ZAy d).bind fun b=>bif (c.Cells.length:Int)!=b then Zzf true else (ZyI c.Cells).bind fun a=>Zzf (!a)
def Zqr:Option Int:=some (-1)
def Zqf (a:ZkT->G_api_Table->Int->Int->ZC5) (s:ZkT) (f:G_api_Table) (c i:Int):ZC5:=bif i<c then (idx s i).bind fun b=>(ZDL b f).bind fun q=>bif q then some (.ret i) else chk (inK .i64 (i+1)) <|a s f c (i+1) else some (.brk ())
def Zps:Nat->ZkT->G_api_Table->Int->Int->ZC5|0,_,_,_,_=>none|a+1,b,c,d,e=>Zqf (Zps a) b c d e
def Zq1 (s:ZkT) (c:G_api_Table):Option Int:=(Zps big s c s.length 0).bind fun| .ret a=>some a| .brk ()=>Zqr
def Zpt (s:ZkT) (c:G_api_Table):Option Bool:=(Zq1 s c).bind fun q=>some (q>=0)
def ZwS (a:Bool) (t:G_api_Table):Option Bool:=bif a then some false else (Zpt t.Columns t).bind fun q=>some (!q)
def Zue (t:G_api_Table):Option Bool:=bif t.ID<0 then ZwS true t else bif t.ID>1073741824 then ZwS true t else (ZDA t.Name).bind fun q=>bif !q then ZwS true t else bif (t.Columns.length:Int)>64 then ZwS true t else (ZAy t).bind fun a=>ZwS (a>4096) t
def ZwT (c:G_api_Column):Option Zph:=ZKg (chk (c.Cells.length<=1099511627776) <| some (ZxF ((c.Cells.filter fun x=> !x.Null).map fun x=>x.Text)))
def ZBZ (a:Str):Option Bool:=some (!(a==a))
def Zw2 (a:Bool):Option Bool:=some a
def ZCM (b y:Str):Option Bool:=(ZBZ b).bind fun q=>bif q then (ZBZ y).bind fun a=>bif !a then Zw2 true else Zw2 (Op.bytesLess b y) else Zw2 (Op.bytesLess b y)
def Zzg (a:Str):Option Bool:=some (!(a==a))
def Zo0 (a:Int) (b:Bool):ZME:=some (a,b)
def ZrL (e:Zph) (a:Str) (n i:Int):ZME:=bif i<n then (idx e i).bind fun c=>bif c==a then Zo0 i true else (idx e i).bind fun b=>(Zzg b).bind fun q=>bif q then (Zzg a).bind fun d=>Zo0 i d else Zo0 i false else Zo0 i false
def Zq2 (b:Zph->Str->Int->Int->Int->ZOb) (d:Zph) (a:Str) (n i j:Int):ZOb:=bif i<j then chk (inK .i64 (i+j)) <|chk (0<=(1:Int)) <|(idx d (IntKind.wrap .i64 (shrK .u64 (IntKind.wrap .u64 (i+j)) 1))).bind fun c=>(ZCM c a).bind fun q=>bif q then chk (inK .i64 ((IntKind.wrap .i64 (shrK .u64 (IntKind.wrap .u64 (i+j)) 1))+1)) <|b d a n ((IntKind.wrap .i64 (shrK .u64 (IntKind.wrap .u64 (i+j)) 1))+1) j else b d a n i (IntKind.wrap .i64 (shrK .u64 (IntKind.wrap .u64 (i+j)) 1)) else some (d,a,n,i)
def ZpU:Nat->Zph->Str->Int->Int->Int->ZOb|0,_,_,_,_,_=>none|a+1,b,c,d,e,f=>Zq2 (ZpU a) b c d e f
def Zvo (n:Nat) (s:(Zph×Str×Int×Int×Int)):ZOb:=ZpU n s.1 s.2.1 s.2.2.1 s.2.2.2.1 s.2.2.2.2
def Zvp (b:(Zph×Str×Int×Int×Int)->ZOb) (s:(Zph×Str×Int×Int×Int)):ZOb:=Zq2 (fun c a n i j=>b (c,a,n,i,j)) s.1 s.2.1 s.2.2.1 s.2.2.2.1 s.2.2.2.2
theorem ZBy (n s):Zvo (n+1) s=Zvp (Zvo n) s:=rfl
def Zqs (b:Zph) (a:Str):ZME:=(ZpU big b a b.length 0 b.length).bind fun(d,f,c,e)=>ZrL d f c e
def ZBz (n:Int):Option Int:=some n
def ZyJ (a:ZWD) (b:Zph) (n:Int) (d:Zph) (e c:Int):Option Int:=chk (inK .i64 (c+1)) <|a b n d e (c+1)
def Zwj (c:ZWD) (b:Zph) (n:Int) (e:Zph) (d a:Int):Option Int:=bif a<d then (idx e a).bind fun s=>(Zqs b s).bind fun(q,f)=>bif f then chk (inK .i64 (n+1)) <|ZyJ c b (n+1) e d a else ZyJ c b n e d a else some n
def Zu1:Nat->Zph->Int->Zph->Int->Int->Option Int|0,_,_,_,_,_=>none|a+1,b,c,d,e,f=>Zwj (Zu1 a) b c d e f
def ZDB (n:Nat) (s:(Zph×Int×Zph×Int×Int)):Option Int:=Zu1 n s.1 s.2.1 s.2.2.1 s.2.2.2.1 s.2.2.2.2
def ZAj (a:(Zph×Int×Zph×Int×Int)->Option Int) (s:(Zph×Int×Zph×Int×Int)):Option Int:=Zwj (fun b n c e d=>a (b,n,c,e,d)) s.1 s.2.1 s.2.2.1 s.2.2.2.1 s.2.2.2.2
theorem ZGp (n s):ZDB (n+1) s=ZAj (ZDB n) s:=rfl
def ZAD (a b:Zph):Option Int:=(Zu1 big b 0 a a.length 0).bind fun c=>ZBz c
def ZCr (a:Zcy):Option Zcy:=some a
def Zzj (b:ZPG) (a:Zcy) (c:Bool):Option Zcy:=bif c then chk (inK .i64 ((a.length:Int)-1)) <|chk (Zcp 0 ((a.length:Int)-1) a.length) <|b (a.take (((a.length:Int)-1)).toNat) else some a
def Zxv (a:ZPG) (b:Zcy):Option Zcy:=bif (b.length:Int)>0 then chk (inK .i64 ((b.length:Int)-1)) <|(idx b ((b.length:Int)-1)).bind fun c=>Zzj a b (c==0) else Zzj a b false
def Zqk:Nat->Zcy->Option Zcy|0,_=>none|a+1,b=>Zxv (Zqk a) b
def ZDR (n:Nat) (s:Zcy):Option Zcy:=Zqk n s
def ZDS (a:ZPG) (s:Zcy):Option Zcy:=Zxv (fun b=>a b) s
theorem ZGz (n s):ZDR (n+1) s=ZDS (ZDR n) s:=rfl
def Zpq (a:Zcy):Option Zcy:=(Zqk big a).bind fun b=>ZCr b
def Zwm (n:Int):Option Zcy:=chk (0<=(32:Int)) <|(Zpq ([(IntKind.wrap .u32 n),(IntKind.wrap .u32 (shrK .u64 n 32))]:Zcy)).bind fun q=>some q
def Zz5 (b:Bool) (a:Zcy):Option Zgo:=some (Zgo.mk b a)
def Zpx (b:Bool) (a:Zcy):Option Zgo:=bif b then chk (ZjC a.length 4) <|Zz5 ((a.length:Int)>0) a else chk (ZjC a.length 4) <|Zz5 false a
def Zzm (n:Int):Option Zgo:=bif n<0 then (Zwm (IntKind.wrap .u64 (0-(IntKind.wrap .u64 n)))).bind fun q=>(Zpx true q).bind fun b=>some b else (Zwm (IntKind.wrap .u64 n)).bind fun a=>(Zpx false a).bind fun c=>some c
def ZpZ (a:Bool):Option Bool:=some a
def Zyq (a:Zgo):Option Bool:=bif (a.Words.length:Int)<=256 then bif (a.Words.length:Int)==0 then bif !a.Neg then ZpZ true else bif (a.Words.length:Int)>0 then chk (inK .i64 ((a.Words.length:Int)-1)) <|(idx a.Words ((a.Words.length:Int)-1)).bind fun Word=>ZpZ (Word != 0) else ZpZ false else bif (a.Words.length:Int)>0 then chk (inK .i64 ((a.Words.length:Int)-1)) <|(idx a.Words ((a.Words.length:Int)-1)).bind fun Word_1=>ZpZ (Word_1 != 0) else ZpZ false else ZpZ false
def ZF9:Option Bool:=some true
def Zz6 (b:(List Zgo)->Int->Int->Zrv) (d:List Zgo) (e c:Int):Zrv:=bif c<e then (idx d c).bind fun a=>(Zyq a).bind fun q=>bif !q then some (.ret false) else chk (inK .i64 (c+1)) <|b d e (c+1) else some (.brk ())
def ZBY:Nat->(List Zgo)->Int->Int->Zrv|0,_,_,_=>none|a+1,b,c,d=>Zz6 (ZBY a) b c d
def ZFl (n:Nat) (s:((List Zgo)×Int×Int)):Zrv:=ZBY n s.1 s.2.1 s.2.2
def ZC0 (a:((List Zgo)×Int×Int)->Zrv) (s:((List Zgo)×Int×Int)):Zrv:=Zz6 (fun b d c=>a (b,d,c)) s.1 s.2.1 s.2.2
theorem ZHu (n s):ZFl (n+1) s=ZC0 (ZFl n) s:=rfl
def ZCv (l:List Zgo):Option Bool:=(ZBY big l l.length 0).bind fun| .ret a=>some a| .brk ()=>ZF9
def ZDY (a:Int):Option Bool:=some (a != a)
def ZCN (c y:Int):Option Int:=(ZDY c).bind fun b=>(ZDY y).bind fun a=>bif b then bif a then some 0 else some (-1) else bif a then some 1 else bif c<y then some (-1) else bif c>y then some 1 else some 0
def ZDX (a:Int):Option Bool:=some (a != a)
def ZC2 (c y:Int):Option Int:=(ZDX c).bind fun b=>(ZDX y).bind fun a=>bif b then bif a then some 0 else some (-1) else bif a then some 1 else bif c<y then some (-1) else bif c>y then some 1 else some 0
def Zyn:Option Int:=some 0
def ZsZ (b:Zcy->Zcy->Int->ZC5) (f e:Zcy) (i:Int):ZC5:=bif i>=0 then (idx f i).bind fun a=>(idx e i).bind fun d=>(ZC2 a d).bind fun c=>bif c != 0 then some (.ret c) else chk (inK .i64 (i-1)) <|b f e (i-1) else some (.brk ())
def Zun:Nat->Zcy->Zcy->Int->ZC5|0,_,_,_=>none|a+1,b,c,d=>ZsZ (Zun a) b c d
def ZBh (n:Nat) (s:(Zcy×Zcy×Int)):ZC5:=Zun n s.1 s.2.1 s.2.2
def ZwV (a:(Zcy×Zcy×Int)->ZC5) (s:(Zcy×Zcy×Int)):ZC5:=ZsZ (fun b c i=>a (b,c,i)) s.1 s.2.1 s.2.2
theorem ZEW (n s):ZBh (n+1) s=ZwV (ZBh n) s:=rfl
def Zqg (a b:Zcy):Option Int:=(ZCN a.length b.length).bind fun c=>bif c != 0 then some c else chk (inK .i64 (a.length-1)) <|(Zun big a b (a.length-1)).bind fun| .ret d=>some d| .brk ()=>Zyn
def ZkC (s:Zcy) (a:Bool):Option Zcy:=bif a then some [] else chk (ZjC (([]:Zcy).length+s.length) 4) <|some (([]:Zcy)++s)
def Zqi (s:Zcy):Option Zcy:=bif List.isEmpty s then agree (ZkC s true) (ZkC s false)else ZkC s false
def Zw0 (c b y:Int) (a:Bool):ZK5:=bif a then none else chk (0<=(32:Int)) <|chk ((IntKind.wrap .u64 y)≠0) <|chk ((IntKind.wrap .u64 y)≠0) <|some ((IntKind.wrap .u32 (IntKind.wrap .u64 (Int.tdiv (orK .u64 (shlK .u64 (IntKind.wrap .u64 c) 32) (IntKind.wrap .u64 b)) (IntKind.wrap .u64 y)))),(IntKind.wrap .u32 (Int.tmod (orK .u64 (shlK .u64 (IntKind.wrap .u64 c) 32) (IntKind.wrap .u64 b)) (IntKind.wrap .u64 y))))
def ZCK (a b y:Int):ZK5:=bif y != 0 then Zw0 a b y (y<=a) else Zw0 a b y false
def ZzV (rest:Int) (a:Zcy):ZLW:=(Zpq a).bind fun q=>some (q,rest)
def Zuk (e:Zcy->Int->Int->Int->Zcy->ZCR) (f:Zcy) (d rest i:Int) (b:Zcy):ZCR:=bif i>=0 then (idx f i).bind fun c=>(ZCK rest c d).bind fun(q,a)=>chk (inR i b.length) <|chk (inK .i64 (i-1)) <|e f d a (i-1) (b.set ((i).toNat) q) else some (rest,b)
def ZvV:Nat->Zcy->Int->Int->Int->Zcy->ZCR|0,_,_,_,_,_=>none|a+1,b,c,d,e,f=>Zuk (ZvV a) b c d e f
def ZCo (n:Nat) (s:(Zcy×Int×Int×Int×Zcy)):ZCR:=ZvV n s.1 s.2.1 s.2.2.1 s.2.2.2.1 s.2.2.2.2
def Zyk (a:(Zcy×Int×Int×Int×Zcy)->ZCR) (s:(Zcy×Int×Int×Int×Zcy)):ZCR:=Zuk (fun c d rest i b=>a (c,d,rest,i,b)) s.1 s.2.1 s.2.2.1 s.2.2.2.1 s.2.2.2.2
theorem ZFJ (n s):ZCo (n+1) s=Zyk (ZCo n) s:=rfl
def ZyK (a:Zcy) (d:Int):ZLW:=chk (mkOk a.length a.length 4) <|chk (inK .i64 ((a.length:Int)-1)) <|(ZvV big a d 0 ((a.length:Int)-1) (List.replicate ((a.length:Int)).toNat (0:Int))).bind fun(c,b)=>ZzV c b
def Zuq (a n:Int):Option Int:=(idx ([0,1,2,2,3,3,3,3,4,4,4,4,4,4,4,4,5,5,5,5,5,5,5,5,5,5,5,5,5,5,5,5,6,6,6,6,6,6,6,6,6,6,6,6,6,6,6,6,6,6,6,6,6,6,6,6,6,6,6,6,6,6,6,6,7,7,7,7,7,7,7,7,7,7,7,7,7,7,7,7,7,7,7,7,7,7,7,7,7,7,7,7,7,7,7,7,7,7,7,7,7,7,7,7,7,7,7,7,7,7,7,7,7,7,7,7,7,7,7,7,7,7,7,7,7,7,7,7,8,8,8,8,8,8,8,8,8,8,8,8,8,8,8,8,8,8,8,8,8,8,8,8,8,8,8,8,8,8,8,8,8,8,8,8,8,8,8,8,8,8,8,8,8,8,8,8,8,8,8,8,8,8,8,8,8,8,8,8,8,8,8,8,8,8,8,8,8,8,8,8,8,8,8,8,8,8,8,8,8,8,8,8,8,8,8,8,8,8,8,8,8,8,8,8,8,8,8,8,8,8,8,8,8,8,8,8,8,8,8,8,8,8,8,8,8,8,8,8,8,8,8,8,8,8,8,8]:Str) (IntKind.wrap .u8 a)).bind fun c=>chk (inK .i64 (n+(IntKind.wrap .i64 ((c.toNat:Nat):Int)))) <|some (n+(IntKind.wrap .i64 ((c.toNat:Nat):Int)))
def Zz3 (a n:Int):Option Int:=bif a>=256 then chk (0<=(8:Int)) <|chk (inK .i64 (n+8)) <|Zuq (shrK .u32 a 8) (n+8) else Zuq a n
def ZCJ (a:Int):Option Int:=bif a>=65536 then chk (0<=(16:Int)) <|Zz3 (shrK .u32 a 16) 16 else Zz3 a 0
def ZuJ (a:Int):Option Int:=(ZCJ a).bind fun q=>chk (inK .i64 (32-q)) <|some (32-q)
def Zyl (a:Zcy):Option Zcy:=some a
def ZsY (e:Int->Zcy->Int->Int->Zcy->Option Zcy) (n:Int) (c:Zcy) (f i:Int) (a:Zcy):Option Zcy:=bif i<f then (idx c i).bind fun d=>chk (0<=n) <|chk (inR i a.length) <|(a[(i).toNat]?).bind fun b=>chk (inR i a.length) <|chk (inK .i64 (i+1)) <|chk (0<=(32:Int)) <|chk (inR (i+1) ((a.set ((i).toNat) (orK .u32 b (IntKind.wrap .u32 (shlK .u64 (IntKind.wrap .u64 d) n)))).length:Int)) <|chk (inK .i64 (i+1)) <|e n c f (i+1) ((a.set ((i).toNat) (orK .u32 b (IntKind.wrap .u32 (shlK .u64 (IntKind.wrap .u64 d) n)))).set (((i+1)).toNat) (IntKind.wrap .u32 (shrK .u64 (shlK .u64 (IntKind.wrap .u64 d) n) 32))) else some a
def Zul:Nat->Int->Zcy->Int->Int->Zcy->Option Zcy|0,_,_,_,_,_=>none|a+1,b,c,d,e,f=>ZsY (Zul a) b c d e f
def ZBg (n:Nat) (s:(Int×Zcy×Int×Int×Zcy)):Option Zcy:=Zul n s.1 s.2.1 s.2.2.1 s.2.2.2.1 s.2.2.2.2
def ZwU (a:(Int×Zcy×Int×Int×Zcy)->Option Zcy) (s:(Int×Zcy×Int×Int×Zcy)):Option Zcy:=ZsY (fun n b c i d=>a (n,b,c,i,d)) s.1 s.2.1 s.2.2.1 s.2.2.2.1 s.2.2.2.2
theorem ZEV (n s):ZBg (n+1) s=ZwU (ZBg n) s:=rfl
def Zq7 (a:Zcy) (n:Int):Option Zcy:=chk (inK .i64 ((a.length:Int)+1)) <|chk (mkOk ((a.length:Int)+1) ((a.length:Int)+1) 4) <|(Zul big n a a.length 0 (List.replicate (((a.length:Int)+1)).toNat (0:Int))).bind fun b=>Zyl b
def ZxH (b y a:Int):ZK5:=chk (0<=(31:Int)) <|some ((IntKind.wrap .u32 ((IntKind.wrap .u32 (b-y))-a)),(shrK .u32 (orK .u32 (andK .u32 (xorK .u32 (if IntKind.signed .u32 then -1 else IntKind.max .u32) b) y) (andK .u32 (xorK .u32 (if IntKind.signed .u32 then -1 else IntKind.max .u32) (xorK .u32 b y)) (IntKind.wrap .u32 ((IntKind.wrap .u32 (b-y))-a)))) 31))
def ZAk (b y a:Int):ZK5:=chk (0<=(32:Int)) <|some ((IntKind.wrap .u32 (IntKind.wrap .u64 ((IntKind.wrap .u64 ((IntKind.wrap .u64 b)+(IntKind.wrap .u64 y)))+(IntKind.wrap .u64 a)))),(IntKind.wrap .u32 (shrK .u64 (IntKind.wrap .u64 ((IntKind.wrap .u64 ((IntKind.wrap .u64 b)+(IntKind.wrap .u64 y)))+(IntKind.wrap .u64 a))) 32)))
def ZAI (a b:Nat) (n c e:Int) (u:Zcy):ZCR:=chk (inR n (b:Int)) <|(u[(a+(n).toNat)]?).bind fun d=>chk (inR n (b:Int)) <|some ((IntKind.wrap .u32 (IntKind.wrap .u64 (c-1))),(u.set (a+(n).toNat) (IntKind.wrap .u32 (d+e))))
def Zzk (g:Nat->Nat->Int->Int->Int->Zcy->Int->Int->Zcy->ZOg) (a b:Nat) (n c h:Int) (d:Zcy) (e i:Int) (u:Zcy):ZOg:=bif i<e then (idx d i).bind fun k=>chk (inR i (b:Int)) <|(u[(a+(i).toNat)]?).bind fun j=>(ZAk j k h).bind fun(q,f)=>chk (inR i (b:Int)) <|chk (inK .i64 (i+1)) <|g a b n c f d e (i+1) (u.set (a+(i).toNat) q) else some (a,b,n,c,h,u)
def Zyo:Nat->Nat->Nat->Int->Int->Int->Zcy->Int->Int->Zcy->ZOg|0,_,_,_,_,_,_,_,_,_=>none|a+1,b,c,d,e,f,g,h,i,j=>Zzk (Zyo a) b c d e f g h i j
def ZEX (n:Nat) (s:(Nat×Nat×Int×Int×Int×Zcy×Int×Int×Zcy)):ZOg:=Zyo n s.1 s.2.1 s.2.2.1 s.2.2.2.1 s.2.2.2.2.1 s.2.2.2.2.2.1 s.2.2.2.2.2.2.1 s.2.2.2.2.2.2.2.1 s.2.2.2.2.2.2.2.2
def ZCs (d:(Nat×Nat×Int×Int×Int×Zcy×Int×Int×Zcy)->ZOg) (s:(Nat×Nat×Int×Int×Int×Zcy×Int×Int×Zcy)):ZOg:=Zzk (fun b c n a g e f i u=>d (b,c,n,a,g,e,f,i,u)) s.1 s.2.1 s.2.2.1 s.2.2.2.1 s.2.2.2.2.1 s.2.2.2.2.2.1 s.2.2.2.2.2.2.1 s.2.2.2.2.2.2.2.1 s.2.2.2.2.2.2.2.2
theorem ZHc (n s):ZEX (n+1) s=ZCs (ZEX n) s:=rfl
def ZDp (a b:Nat) (d:Zcy) (n e f g:Int) (u:Zcy):ZCR:=chk (inR n (b:Int)) <|(u[(a+(n).toNat)]?).bind fun h=>(ZxH h (IntKind.wrap .u32 g) f).bind fun(q,c)=>chk (inR n (b:Int)) <|bif c==0 then some ((IntKind.wrap .u32 e),(u.set (a+(n).toNat) q)) else (Zyo big a b n e 0 d d.length 0 (u.set (a+(n).toNat) q)).bind fun(j,m,i,k,l,o)=>ZAI j m i k l o
def Zzl (h:Nat->Nat->Zcy->Int->Int->Int->Int->Zcy->Int->Int->Zcy->ZOk) (b c:Nat) (d:Zcy) (n a f e:Int) (k:Zcy) (j i:Int) (u:Zcy):ZOk:=bif i<j then (idx k i).bind fun m=>chk (inR i (c:Int)) <|(u[(b+(i).toNat)]?).bind fun l=>(ZxH l (IntKind.wrap .u32 (IntKind.wrap .u64 (e+(IntKind.wrap .u64 (a*(IntKind.wrap .u64 m)))))) f).bind fun(q,g)=>chk (inR i (c:Int)) <|chk (0<=(32:Int)) <|chk (inK .i64 (i+1)) <|h b c d n a g (shrK .u64 (IntKind.wrap .u64 (e+(IntKind.wrap .u64 (a*(IntKind.wrap .u64 m))))) 32) k j (i+1) (u.set (b+(i).toNat) q) else some (b,c,d,n,a,f,e,u)
def ZAH:Nat->Nat->Nat->Zcy->Int->Int->Int->Int->Zcy->Int->Int->Zcy->ZOk|0,_,_,_,_,_,_,_,_,_,_,_=>none|a+1,b,c,d,e,f,g,h,i,j,k,l=>Zzl (ZAH a) b c d e f g h i j k l
def ZEY (n:Nat) (s:(Nat×Nat×Zcy×Int×Int×Int×Int×Zcy×Int×Int×Zcy)):ZOk:=ZAH n s.1 s.2.1 s.2.2.1 s.2.2.2.1 s.2.2.2.2.1 s.2.2.2.2.2.1 s.2.2.2.2.2.2.1 s.2.2.2.2.2.2.2.1 s.2.2.2.2.2.2.2.2.1 s.2.2.2.2.2.2.2.2.2.1 s.2.2.2.2.2.2.2.2.2.2
def ZCt (g:(Nat×Nat×Zcy×Int×Int×Int×Int×Zcy×Int×Int×Zcy)->ZOk) (s:(Nat×Nat×Zcy×Int×Int×Int×Int×Zcy×Int×Int×Zcy)):ZOk:=Zzl (fun e f d n b a c j h i u=>g (e,f,d,n,b,a,c,j,h,i,u)) s.1 s.2.1 s.2.2.1 s.2.2.2.1 s.2.2.2.2.1 s.2.2.2.2.2.1 s.2.2.2.2.2.2.1 s.2.2.2.2.2.2.2.1 s.2.2.2.2.2.2.2.2.1 s.2.2.2.2.2.2.2.2.2.1 s.2.2.2.2.2.2.2.2.2.2
theorem ZHd (n s):ZEY (n+1) s=ZCt (ZEY n) s:=rfl
def ZAJ (b c:Nat) (d:Zcy) (n a:Int) (u:Zcy):ZCR:=(ZAH big b c d n a 0 0 d d.length 0 u).bind fun(g,k,e,h,j,l,f,i)=>ZDp g k e h j l f i
def Zyp (e:ZWH) (b c:Nat) (d:Zcy) (n a rest:Int) (f:Bool) (u:Zcy):ZMI:=bif f then chk (inK .i64 (n-1)) <|(idx d (n-1)).bind fun g=>e b c d n (IntKind.wrap .u64 (a-1)) (IntKind.wrap .u64 (rest+(IntKind.wrap .u64 g))) u else some (b,c,d,n,a,u)
def ZCu (e:ZWH) (b c:Nat) (d:Zcy) (n a rest:Int) (u:Zcy):ZMI:=bif rest<4294967296 then chk (inK .i64 (n-2)) <|(idx d (n-2)).bind fun g=>chk (0<=(32:Int)) <|chk (inK .i64 (n-2)) <|chk (inR (n-2) (c:Int)) <|(u[(b+((n-2)).toNat)]?).bind fun f=>Zyp e b c d n a rest (decide ((IntKind.wrap .u64 (a*(IntKind.wrap .u64 g)))>(orK .u64 (shlK .u64 rest 32) (IntKind.wrap .u64 f)))) u else Zyp e b c d n a rest false u
def Zvi:Nat->Nat->Nat->Zcy->Int->Int->Int->Zcy->ZMI|0,_,_,_,_,_,_,_=>none|a+1,b,c,d,e,f,g,h=>ZCu (Zvi a) b c d e f g h
def ZEZ (n:Nat) (s:(Nat×Nat×Zcy×Int×Int×Int×Zcy)):ZMI:=Zvi n s.1 s.2.1 s.2.2.1 s.2.2.2.1 s.2.2.2.2.1 s.2.2.2.2.2.1 s.2.2.2.2.2.2
def ZE0 (e:(Nat×Nat×Zcy×Int×Int×Int×Zcy)->ZMI) (s:(Nat×Nat×Zcy×Int×Int×Int×Zcy)):ZMI:=ZCu (fun a c d n b rest u=>e (a,c,d,n,b,rest,u)) s.1 s.2.1 s.2.2.1 s.2.2.2.1 s.2.2.2.2.1 s.2.2.2.2.2.1 s.2.2.2.2.2.2
theorem ZHe (n s):ZEZ (n+1) s=ZE0 (ZEZ n) s:=rfl
def ZDl (u:Zcy) (b c:Nat) (d:Zcy):ZCR:=chk (inR d.length (c:Int)) <|(u[(b+((d.length:Int)).toNat)]?).bind fun e=>chk (0<=(32:Int)) <|chk (inK .i64 ((d.length:Int)-1)) <|chk (inR ((d.length:Int)-1) (c:Int)) <|(u[(b+(((d.length:Int)-1)).toNat)]?).bind fun a=>chk (inK .i64 ((d.length:Int)-1)) <|(idx d ((d.length:Int)-1)).bind fun f=>chk ((IntKind.wrap .u64 f)≠0) <|chk (inK .i64 ((d.length:Int)-1)) <|(idx d ((d.length:Int)-1)).bind fun g=>(Zvi big b c d d.length (if (4294967295:Int)<(IntKind.wrap .u64 (Int.tdiv (orK .u64 (shlK .u64 (IntKind.wrap .u64 e) 32) (IntKind.wrap .u64 a)) (IntKind.wrap .u64 f)))then (4294967295:Int)else IntKind.wrap .u64 (Int.tdiv (orK .u64 (shlK .u64 (IntKind.wrap .u64 e) 32) (IntKind.wrap .u64 a)) (IntKind.wrap .u64 f))) (IntKind.wrap .u64 ((orK .u64 (shlK .u64 (IntKind.wrap .u64 e) 32) (IntKind.wrap .u64 a))-(IntKind.wrap .u64 ((if (4294967295:Int)<(IntKind.wrap .u64 (Int.tdiv (orK .u64 (shlK .u64 (IntKind.wrap .u64 e) 32) (IntKind.wrap .u64 a)) (IntKind.wrap .u64 f)))then (4294967295:Int)else IntKind.wrap .u64 (Int.tdiv (orK .u64 (shlK .u64 (IntKind.wrap .u64 e) 32) (IntKind.wrap .u64 a)) (IntKind.wrap .u64 f)))*(IntKind.wrap .u64 g))))) u).bind fun(i,l,h,j,k,m)=>ZAJ i l h j k m
def ZBX (u:Zcy) (a b:Nat) (d:Zcy):ZCR:=(ZDl u a b d).bind fun r=>chk (decide (r.2.length=u.length)&&true) (some r)
def ZAG (a b:Nat) (c:Zcy):ZJ4:=some (a,b,c)
def Zxw (c:Nat->Nat->Zcy->ZJ4) (b a:Nat) (d:Bool) (e:Zcy):ZJ4:=bif d then chk (inK .i64 (((a:Nat):Int)-1)) <|chk (Zcp 0 (((a:Nat):Int)-1) (a:Int)) <|c (b+0) (((((a:Nat):Int)-1)).toNat-0) e else some (b,a,e)
def ZzX (c:Nat->Nat->Zcy->ZJ4) (b a:Nat) (e:Zcy):ZJ4:=bif ((a:Nat):Int)>0 then chk (inK .i64 (((a:Nat):Int)-1)) <|chk (inR (((a:Nat):Int)-1) (a:Int)) <|(e[(b+((((a:Nat):Int)-1)).toNat)]?).bind fun d=>Zxw c b a (d==0) e else Zxw c b a false e
def Zup:Nat->Nat->Nat->Zcy->ZJ4|0,_,_,_=>none|a+1,b,c,d=>ZzX (Zup a) b c d
def ZDg (n:Nat) (s:(Nat×Nat×Zcy)):ZJ4:=Zup n s.1 s.2.1 s.2.2
def ZDh (c:(Nat×Nat×Zcy)->ZJ4) (s:(Nat×Nat×Zcy)):ZJ4:=ZzX (fun a b d=>c (a,b,d)) s.1 s.2.1 s.2.2
theorem ZF5 (n s):ZDg (n+1) s=ZDh (ZDg n) s:=rfl
def Zz4 (e:Zcy) (b a:Nat):ZJ4:=(Zup big b a e).bind fun(d,f,c)=>ZAG d f c
def ZyL (c:Zcy) (a b:Nat):ZJ4:=(Zz4 c a b).bind fun r=>chk (decide (r.2.2.length=c.length)&&true) (some r)
def Zvg (b:Zcy) (i:Int):Option Int:=bif i<b.length then (idx b i).bind fun a=>some a else some 0
def ZCq (d:Zcy) (b a:Nat) (i:Int):ZCR:=bif i<((a:Nat):Int) then chk (inR i (a:Int)) <|(d[(b+(i).toNat)]?).bind fun c=>some (c,d) else some (0,d)
def Zxu (c:Zcy) (a b:Nat) (i:Int):ZCR:=(ZCq c a b i).bind fun r=>chk (decide (r.2.length=c.length)&&true) (some r)
def ZAm (b a:Nat) (q rest:Zcy):ZJg:=(Zpq q).bind fun d=>(Zpq ((rest.drop b).take a)).bind fun c=>some (d,c)
def ZuL (e:Int->Nat->Nat->Int->Int->Zcy->Zcy->ZOd) (c:Int) (b a:Nat) (f i:Int) (q rest:Zcy):ZOd:=bif i<f then chk (inK .i64 (i+1)) <|(Zxu rest b a (i+1)).bind fun(h,g)=>chk (0<=(32:Int)) <|chk (inR i (a:Int)) <|(g[(b+(i).toNat)]?).bind fun d=>chk (0<=c) <|chk (inR i (a:Int)) <|chk (inK .i64 (i+1)) <|e c b a f (i+1) q (g.set (b+(i).toNat) (IntKind.wrap .u32 (shrK .u64 (orK .u64 (shlK .u64 (IntKind.wrap .u64 h) 32) (IntKind.wrap .u64 d)) c))) else some (b,a,q,rest)
def Zte:Nat->Int->Nat->Nat->Int->Int->Zcy->Zcy->ZOd|0,_,_,_,_,_,_,_=>none|a+1,b,c,d,e,f,g,h=>ZuL (Zte a) b c d e f g h
def ZCY (n:Nat) (s:(Int×Nat×Nat×Int×Int×Zcy×Zcy)):ZOd:=Zte n s.1 s.2.1 s.2.2.1 s.2.2.2.1 s.2.2.2.2.1 s.2.2.2.2.2.1 s.2.2.2.2.2.2
def Zy7 (d:(Int×Nat×Nat×Int×Int×Zcy×Zcy)->ZOd) (s:(Int×Nat×Nat×Int×Int×Zcy×Zcy)):ZOd:=ZuL (fun c b a e i q rest=>d (c,b,a,e,i,q,rest)) s.1 s.2.1 s.2.2.1 s.2.2.2.1 s.2.2.2.2.1 s.2.2.2.2.2.1 s.2.2.2.2.2.2
theorem ZFU (n s):ZCY (n+1) s=Zy7 (ZCY n) s:=rfl
def ZAn (n c:Int) (u q:Zcy):ZJg:=chk (Zcp 0 n u.length) <|(ZyL u 0 ((n).toNat-0)).bind fun(b,a,d)=>(Zte big c b a ((a:Nat):Int) 0 q d).bind fun(f,h,e,g)=>ZAm f h e g
def ZuM (b:Int->Int->Zcy->Int->Zcy->Zcy->ZOc) (n a:Int) (d:Zcy) (j:Int) (u q:Zcy):ZOc:=bif j>=0 then chk (inK .i64 (j+n)) <|chk (inK .i64 ((j+n)+1)) <|chk (Zcp j ((j+n)+1) u.length) <|(ZBX u ((j).toNat) ((((j+n)+1)).toNat-(j).toNat) d).bind fun(c,e)=>chk (inR j q.length) <|chk (inK .i64 (j-1)) <|b n a d (j-1) e (q.set ((j).toNat) c) else some (n,a,u,q)
def Ztf:Nat->Int->Int->Zcy->Int->Zcy->Zcy->ZOc|0,_,_,_,_,_,_=>none|a+1,b,c,d,e,f,g=>ZuM (Ztf a) b c d e f g
def ZCZ (n:Nat) (s:(Int×Int×Zcy×Int×Zcy×Zcy)):ZOc:=Ztf n s.1 s.2.1 s.2.2.1 s.2.2.2.1 s.2.2.2.2.1 s.2.2.2.2.2
def Zy8 (b:(Int×Int×Zcy×Int×Zcy×Zcy)->ZOc) (s:(Int×Int×Zcy×Int×Zcy×Zcy)):ZOc:=ZuM (fun n a d j u q=>b (n,a,d,j,u,q)) s.1 s.2.1 s.2.2.1 s.2.2.2.1 s.2.2.2.2.1 s.2.2.2.2.2
theorem ZFV (n s):ZCZ (n+1) s=Zy8 (ZCZ n) s:=rfl
def Zrr (c a:Zcy):ZJg:=(Zqg c a).bind fun q=>bif q<0 then (Zqi c).bind fun h=>some (([]:Zcy),h) else bif (a.length:Int)==1 then (idx a 0).bind fun f=>(ZyK c f).bind fun(g,k)=>(Zpq ([k]:Zcy)).bind fun i=>some (g,i) else chk (inK .i64 ((a.length:Int)-1)) <|(idx a ((a.length:Int)-1)).bind fun d=>(ZuJ d).bind fun b=>(Zq7 c b).bind fun u=>(Zq7 a b).bind fun e=>chk (Zcp 0 a.length e.length) <|chk (inK .i64 ((c.length:Int)-(a.length:Int))) <|chk (inK .i64 (((c.length:Int)-(a.length:Int))+1)) <|chk (mkOk (((c.length:Int)-(a.length:Int))+1) (((c.length:Int)-(a.length:Int))+1) 4) <|chk (inK .i64 (((List.replicate ((((c.length:Int)-(a.length:Int))+1)).toNat (0:Int)).length:Int)-1)) <|(Ztf big a.length b ((e.drop 0).take (((a.length:Int)).toNat-0)) (((List.replicate ((((c.length:Int)-(a.length:Int))+1)).toNat (0:Int)).length:Int)-1) u (List.replicate ((((c.length:Int)-(a.length:Int))+1)).toNat (0:Int))).bind fun(l,n,j,m)=>ZAn l n j m
def Zy9 (a:Zcy):Option Zcy:=some a
def ZqX (a:Zcy->Zcy->Option Zcy) (c b:Zcy):Option Zcy:=bif (b.length:Int)>0 then (Zrr c b).bind fun(q,d)=>a b d else some c
def ZpJ:Nat->Zcy->Zcy->Option Zcy|0,_,_=>none|a+1,b,c=>ZqX (ZpJ a) b c
def Zuo (a b:Zcy):Option Zcy:=(ZpJ big a b).bind fun c=>Zy9 c
def Zr7 (a b:Zgo):Option ZbF:=(Zuo a.Words b.Words).bind fun g=>(Zrr a.Words g).bind fun(f,q)=>(Zrr b.Words g).bind fun(y,e)=>(Zpx (!(a.Neg==b.Neg)) f).bind fun c=>(Zpx false y).bind fun d=>some (ZbF.mk c d)
def ZDU (b a:Zgo):ZGS:=(ZCv ([b,a]:List Zgo)).bind fun q=>bif !q then some ((ZbF.mk (Zgo.mk false []) (Zgo.mk false [])),1) else bif (a.Words.length:Int)==0 then some ((ZbF.mk (Zgo.mk false []) (Zgo.mk false [])),8) else (Zr7 b a).bind fun c=>some (c,0)
def ZDT (c d:Int):ZGS:=(Zzm c).bind fun q=>(Zzm d).bind fun b=>(ZDU q b).bind fun(a,e)=>some (a,e)
def ZBk:Option ZbF:=(ZDT 0 1).bind fun(f,q)=>some f
def ZDQ (a b:Int):Option ZbF:=(ZDT a b).bind fun(f,e)=>bif e != 0 then ZBk.bind fun q=>some q else some f
def Zzh (a b:Zph):Option ZbF:=(ZAD a b).bind fun n=>chk (inK .i64 (a.length+b.length)) <|chk (inK .i64 ((a.length+b.length)-n)) <|(ZDQ n (if 1>((a.length+b.length)-n)then 1 else (a.length+b.length)-n)).bind fun q=>some q
def ZAE (a b:G_api_Column):Option ZbF:=(ZwT a).bind fun q=>(ZwT b).bind fun d=>(Zzh q d).bind fun c=>some c
def Zug (a:Str):Option Zph:=ZKg (chk (a.length<=1099511627776) <| some (ZxF (ZGh (a++[32]) [])))
def ZBW (a b:Str):Option ZbF:=(Zug a).bind fun q=>(Zug b).bind fun d=>(Zzh q d).bind fun c=>some c
def Zvj (a:Bool):Option Bool:=some a
def Zrx (f:ZbF):Option Bool:=(ZCv ([f.Num,f.Den]:List Zgo)).bind fun q=>bif q then bif (f.Den.Words.length:Int)>0 then bif !f.Den.Neg then (Zuo f.Num.Words f.Den.Words).bind fun b=>(Zqg b ([1]:List Int)).bind fun a=>Zvj (a==0) else Zvj false else Zvj false else Zvj false
def ZzT (a:Zcy):Option Zcy:=(Zpq a).bind fun q=>some q
def ZzU (b:ZRa) (e:Zcy) (i a:Int) (f:Zcy) (g d:Int) (c:Zcy):Option Zcy:=chk (inK .i64 (i+e.length)) <|chk (inR (i+e.length) c.length) <|chk (inK .i64 (d+1)) <|b e f g (d+1) (c.set (((i+e.length)).toNat) (IntKind.wrap .u32 a))
def Zui (d:Zcy->Int->Int->Int->Zcy->Int->Int->Zcy->Int->Int->Zcy->ZOi) (m:Zcy) (i l a:Int) (h:Zcy) (k f:Int) (e:Zcy) (g j:Int) (b:Zcy):ZOi:=bif j<g then (idx e j).bind fun y=>chk (inK .i64 (i+j)) <|chk (inR (i+j) b.length) <|(b[((i+j)).toNat]?).bind fun c=>chk (inK .i64 (i+j)) <|chk (inR (i+j) b.length) <|chk (0<=(32:Int)) <|chk (inK .i64 (j+1)) <|d m i l (shrK .u64 (IntKind.wrap .u64 (a+(IntKind.wrap .u64 ((IntKind.wrap .u64 ((IntKind.wrap .u64 l)*(IntKind.wrap .u64 y)))+(IntKind.wrap .u64 c))))) 32) h k f e g (j+1) (b.set (((i+j)).toNat) (IntKind.wrap .u32 (IntKind.wrap .u64 (a+(IntKind.wrap .u64 ((IntKind.wrap .u64 ((IntKind.wrap .u64 l)*(IntKind.wrap .u64 y)))+(IntKind.wrap .u64 c))))))) else some (m,i,a,h,k,f,b)
def ZvU:Nat->Zcy->Int->Int->Int->Zcy->Int->Int->Zcy->Int->Int->Zcy->ZOi|0,_,_,_,_,_,_,_,_,_,_,_=>none|a+1,b,c,d,e,f,g,h,i,j,k,l=>Zui (ZvU a) b c d e f g h i j k l
def ZCm (n:Nat) (s:(Zcy×Int×Int×Int×Zcy×Int×Int×Zcy×Int×Int×Zcy)):ZOi:=ZvU n s.1 s.2.1 s.2.2.1 s.2.2.2.1 s.2.2.2.2.1 s.2.2.2.2.2.1 s.2.2.2.2.2.2.1 s.2.2.2.2.2.2.2.1 s.2.2.2.2.2.2.2.2.1 s.2.2.2.2.2.2.2.2.2.1 s.2.2.2.2.2.2.2.2.2.2
def Zyi (b:(Zcy×Int×Int×Int×Zcy×Int×Int×Zcy×Int×Int×Zcy)->ZOi) (s:(Zcy×Int×Int×Int×Zcy×Int×Int×Zcy×Int×Int×Zcy)):ZOi:=Zui (fun k i l a g h e d f j c=>b (k,i,l,a,g,h,e,d,f,j,c)) s.1 s.2.1 s.2.2.1 s.2.2.2.1 s.2.2.2.2.1 s.2.2.2.2.2.1 s.2.2.2.2.2.2.1 s.2.2.2.2.2.2.2.1 s.2.2.2.2.2.2.2.2.1 s.2.2.2.2.2.2.2.2.2.1 s.2.2.2.2.2.2.2.2.2.2
theorem ZFH (n s):ZCm (n+1) s=Zyi (ZCm n) s:=rfl
def Zuj (a:ZRa) (e c:Zcy) (d i:Int) (b:Zcy):Option Zcy:=bif i<d then (idx c i).bind fun k=>(ZvU big e i k 0 c d i e e.length 0 b).bind fun(h,n,f,j,l,m,g)=>ZzU a h n f j l m g else some b
def Zsy:Nat->Zcy->Zcy->Int->Int->Zcy->Option Zcy|0,_,_,_,_,_=>none|a+1,b,c,d,e,f=>Zuj (Zsy a) b c d e f
def ZCn (n:Nat) (s:(Zcy×Zcy×Int×Int×Zcy)):Option Zcy:=Zsy n s.1 s.2.1 s.2.2.1 s.2.2.2.1 s.2.2.2.2
def Zyj (a:ZWF) (s:(Zcy×Zcy×Int×Int×Zcy)):Option Zcy:=Zuj (fun e c d i b=>a (e,c,d,i,b)) s.1 s.2.1 s.2.2.1 s.2.2.2.1 s.2.2.2.2
theorem ZFI (n s):ZCn (n+1) s=Zyj (ZCn n) s:=rfl
def Zse (a b:Zcy):Option Zcy:=chk (inK .i64 ((a.length:Int)+(b.length:Int))) <|chk (mkOk ((a.length:Int)+(b.length:Int)) ((a.length:Int)+(b.length:Int)) 4) <|(Zsy big b a a.length 0 (List.replicate (((a.length:Int)+(b.length:Int))).toNat (0:Int))).bind fun c=>ZzT c
def ZoL (a b:Zgo):Option Zgo:=(Zse a.Words b.Words).bind fun q=>(Zpx (!(a.Neg==b.Neg)) q).bind fun c=>some c
def ZyM (a:Zgo):Option Zgo:=some a
def Zvh (a:Zgo):Option Zgo:=bif !a.Neg then ZyM (Zgo.mk ((a.Words.length:Int)>0) a.Words) else ZyM (Zgo.mk false a.Words)
def ZAl (a:Int) (b:Zcy):Option Zcy:=chk (ZjC (b.length+[a].length) 4) <|(Zpq (b++[a])).bind fun q=>some q
def ZuK (e:Zcy->Zcy->Int->Int->Int->Zcy->ZCR) (j h:Zcy) (a f i:Int) (c:Zcy):ZCR:=bif i<f then (Zvg j i).bind fun q=>(Zvg h i).bind fun g=>(ZAk q g a).bind fun(d,b)=>chk (ZjC (c.length+[d].length) 4) <|chk (inK .i64 (i+1)) <|e j h b f (i+1) (c++[d]) else some (a,c)
def Zwl:Nat->Zcy->Zcy->Int->Int->Int->Zcy->ZCR|0,_,_,_,_,_,_=>none|a+1,b,c,d,e,f,g=>ZuK (Zwl a) b c d e f g
def ZCX (n:Nat) (s:(Zcy×Zcy×Int×Int×Int×Zcy)):ZCR:=Zwl n s.1 s.2.1 s.2.2.1 s.2.2.2.1 s.2.2.2.2.1 s.2.2.2.2.2
def Zy6 (b:(Zcy×Zcy×Int×Int×Int×Zcy)->ZCR) (s:(Zcy×Zcy×Int×Int×Int×Zcy)):ZCR:=ZuK (fun f e a d i c=>b (f,e,a,d,i,c)) s.1 s.2.1 s.2.2.1 s.2.2.2.1 s.2.2.2.2.1 s.2.2.2.2.2
theorem ZFT (n s):ZCX (n+1) s=Zy6 (ZCX n) s:=rfl
def Zv8 (a b:Zcy):Option Zcy:=chk (inK .i64 ((if (b.length:Int)>(a.length:Int)then (b.length:Int)else (a.length:Int))+1)) <|chk (mkOk 0 ((if (b.length:Int)>(a.length:Int)then (b.length:Int)else (a.length:Int))+1) 4) <|(Zwl big a b 0 (if (b.length:Int)>(a.length:Int)then (b.length:Int)else (a.length:Int)) 0 (List.replicate ((0:Int)).toNat (0:Int))).bind fun(d,c)=>ZAl d c
def ZzW (a:Zcy):Option Zcy:=(Zpq a).bind fun q=>some q
def Zum (d:Zcy->Zcy->Int->Int->Int->Zcy->Option Zcy) (j h:Zcy) (b f i:Int) (c:Zcy):Option Zcy:=bif i<f then (idx j i).bind fun e=>(Zvg h i).bind fun q=>(ZxH e q b).bind fun(g,a)=>chk (inR i c.length) <|chk (inK .i64 (i+1)) <|d j h a f (i+1) (c.set ((i).toNat) g) else some c
def ZvW:Nat->Zcy->Zcy->Int->Int->Int->Zcy->Option Zcy|0,_,_,_,_,_,_=>none|a+1,b,c,d,e,f,g=>Zum (ZvW a) b c d e f g
def ZCp (n:Nat) (s:(Zcy×Zcy×Int×Int×Int×Zcy)):Option Zcy:=ZvW n s.1 s.2.1 s.2.2.1 s.2.2.2.1 s.2.2.2.2.1 s.2.2.2.2.2
def Zym (b:(Zcy×Zcy×Int×Int×Int×Zcy)->Option Zcy) (s:(Zcy×Zcy×Int×Int×Int×Zcy)):Option Zcy:=Zum (fun f e a c i d=>b (f,e,a,c,i,d)) s.1 s.2.1 s.2.2.1 s.2.2.2.1 s.2.2.2.2.1 s.2.2.2.2.2
theorem ZFK (n s):ZCp (n+1) s=Zym (ZCp n) s:=rfl
def Zu2 (a b:Zcy):Option Zcy:=chk (mkOk a.length a.length 4) <|(ZvW big a b 0 a.length 0 (List.replicate ((a.length:Int)).toNat (0:Int))).bind fun c=>ZzW c
def ZBl (a b:Zgo):Option Zgo:=bif a.Neg==b.Neg then (Zv8 a.Words b.Words).bind fun q=>(Zpx a.Neg q).bind fun d=>some d else (Zqg a.Words b.Words).bind fun c=>bif c>=0 then (Zu2 a.Words b.Words).bind fun h=>(Zpx a.Neg h).bind fun f=>some f else (Zu2 b.Words a.Words).bind fun e=>(Zpx b.Neg e).bind fun g=>some g
def ZCL (f:Bool) (a b:ZbF):Option Int:=bif f then some 0 else (ZoL a.Num b.Den).bind fun q=>(ZoL b.Num a.Den).bind fun e=>(Zvh e).bind fun c=>(ZBl q c).bind fun d=>bif d.Neg then some (-1) else bif (d.Words.length:Int)>0 then some 1 else some 0
def ZBm (a b:ZbF):Option Int:=(Zrx a).bind fun q=>bif !q then ZCL true a b else (Zrx b).bind fun c=>ZCL (!c) a b
def ZDC (a:ZbF):Option Int:=ZBk.bind fun q=>(ZBm a q).bind fun b=>some b
def ZGY:Option (List (Int×Zp0)):=some (setB (q:=ZJs) (k:=(.int .i64)) (v:=(.st 6)) (car:=Zz1) (setB (q:=ZJs) (k:=(.int .i64)) (v:=(.st 6)) (car:=Zz1) (setB (q:=ZJs) (k:=(.int .i64)) (v:=(.st 6)) (car:=Zz1) (setB (q:=ZJs) (k:=(.int .i64)) (v:=(.st 6)) (car:=Zz1) (setB (q:=ZJs) (k:=(.int .i64)) (v:=(.st 6)) (car:=Zz1) ([]:(List (Int×Zp0))) 1 (Zp0.mk [116,101,120,116] (none:Option Nat) (some 244:Option Nat))) 2 (Zp0.mk [98,111,111,108] (some 245:Option Nat) (some 246:Option Nat))) 3 (Zp0.mk [105,110,116,101,103,101,114] (some 247:Option Nat) (some 248:Option Nat))) 4 (Zp0.mk [100,101,99,105,109,97,108] (some 249:Option Nat) (some 248:Option Nat))) 5 (Zp0.mk [100,97,116,101] (some 250:Option Nat) (some 251:Option Nat)))
def ZDf (s a:Str):Option Str:=chk (a.all fun b=>decide (b.toNat<128)) <| chk (a.length<4294967281) <| some (Lib.trimS s a)
def ZFO (s:Str):Option Str:=(ZDf s [32]).bind fun q=>some q
def Zqt (a:Bool):Option Bool:=some a
def ZpV (s a:Str):Option Bool:=bif (s.length:Int)>=(a.length:Int) then chk (Zcp 0 a.length s.length) <|Zqt ((s.take ((a.length:Int)).toNat)==a) else Zqt false
def Zuu (s a:Str):ZIX:=(ZpV s a).bind fun q=>bif !q then some (s,false) else chk (Zcp a.length s.length s.length) <|some ((s.drop ((a.length:Int)).toNat),true)
def ZAC (s a:Str):ZIX:=(Zuu s a).bind fun(b,c)=>some (b,c)
def Zuh (s a:Str):Option Str:=(ZpV s a).bind fun q=>bif q then chk (Zcp a.length s.length s.length) <|some (s.drop ((a.length:Int)).toNat) else some s
def Zz2 (s a:Str):Option Str:=(Zuh s a).bind fun q=>some q
def Zrb (s:Str) (c:Int):Option Int:=some (Lib.indexByte s c.toNat.toUInt8)
def ZrM (s a:Str) (n:Int) (b:Bool):Option Int:=bif b then some 0 else bif n==1 then (idx a 0).bind fun c=>(Zrb s ((c.toNat:Nat):Int)).bind fun q=>some q else bif n>=s.length then some (-1) else none
def ZtC (s a:Str):Option Int:=bif (a.length:Int)==0 then ZrM s a a.length true else ZrM s a a.length (a==s)
def Zy5 (s a:Str):Option (Str×Str×Bool):=(ZtC s a).bind fun i=>bif i>=0 then chk (Zcp 0 i s.length) <|chk (inK .i64 (i+a.length)) <|chk (Zcp (i+a.length) s.length s.length) <|some ((s.take (i).toNat),(s.drop ((i+a.length)).toNat),true) else some (s,[],false)
def ZDM (s d:Str):Option (Str×Str×Bool):=(Zy5 s d).bind fun(a,b,c)=>some (a,b,c)
def Zw1 (a:Bool):Option Bool:=some a
def ZAo (s:Str) (a:Int):Option Bool:=bif (s.length:Int)>=1 then bif (s.length:Int)<=a then (ZDf s ([48,49,50,51,52,53,54,55,56,57]:Str)).bind fun q=>Zw1 (q==([]:Str)) else Zw1 false else Zw1 false
def ZCw (c:Bool) (d e:Zcy) (i h:Bool) (g f:Zcy):ZIb:=(Zpx c d).bind fun q=>(Zpx false e).bind fun b=>(Zr7 q b).bind fun a=>some (a,true)
def Zxx (g:Bool->Zcy->Zcy->Zcy->Int->Int->Bool->Bool->Zcy->Zcy->ZOj) (h:Bool) (i f j:Zcy) (k d:Int) (l c:Bool) (b a:Zcy):ZOj:=bif d<k then (Zse j f).bind fun e=>chk (inK .i64 (d+1)) <|g h i f e k (d+1) l c b a else some (h,i,j,l,c,b,a)
def Zzn:Nat->Bool->Zcy->Zcy->Zcy->Int->Int->Bool->Bool->Zcy->Zcy->ZOj|0,_,_,_,_,_,_,_,_,_,_=>none|a+1,b,c,d,e,f,g,h,i,j,k=>Zxx (Zzn a) b c d e f g h i j k
def ZDV (n:Nat) (s:(Bool×Zcy×Zcy×Zcy×Int×Int×Bool×Bool×Zcy×Zcy)):ZOj:=Zzn n s.1 s.2.1 s.2.2.1 s.2.2.2.1 s.2.2.2.2.1 s.2.2.2.2.2.1 s.2.2.2.2.2.2.1 s.2.2.2.2.2.2.2.1 s.2.2.2.2.2.2.2.2.1 s.2.2.2.2.2.2.2.2.2
def ZAK (a:(Bool×Zcy×Zcy×Zcy×Int×Int×Bool×Bool×Zcy×Zcy)->ZOj) (s:(Bool×Zcy×Zcy×Zcy×Int×Int×Bool×Bool×Zcy×Zcy)):ZOj:=Zxx (fun g h f i j e k d c b=>a (g,h,f,i,j,e,k,d,c,b)) s.1 s.2.1 s.2.2.1 s.2.2.2.1 s.2.2.2.2.1 s.2.2.2.2.2.1 s.2.2.2.2.2.2.1 s.2.2.2.2.2.2.2.1 s.2.2.2.2.2.2.2.2.1 s.2.2.2.2.2.2.2.2.2
theorem ZGA (n s):ZDV (n+1) s=ZAK (ZDV n) s:=rfl
def ZCx (f:Bool) (a:Str) (g e:Zcy) (p d:Bool) (h c b:Zcy):ZIb:=(Zzn big f g e h a.length 0 p d c b).bind fun(k,o,i,l,m,n,j)=>ZCw k o i l m n j
def Zxy (j:Bool->Str->Zcy->Zcy->Int->Int->Bool->Bool->Zcy->Zcy->Zcy->Zcy->ZOn) (l:Bool) (b:Str) (m g:Zcy) (k a:Int) (p f:Bool) (n i e c:Zcy):ZOn:=bif a<k then chk (inR a i.length) <|(i[(a).toNat]?).bind fun d=>(Zse m g).bind fun q=>(Zwm (IntKind.wrap .u64 (IntKind.wrap .u8 (d-48)))).bind fun o=>(Zv8 q o).bind fun h=>chk (inK .i64 (a+1)) <|j l b h g k (a+1) p f n i e c else some (l,b,m,g,p,f,n,e,c)
def Zzo:Nat->Bool->Str->Zcy->Zcy->Int->Int->Bool->Bool->Zcy->Zcy->Zcy->Zcy->ZOn|0,_,_,_,_,_,_,_,_,_,_,_,_=>none|a+1,b,c,d,e,f,g,h,i,j,k,l,m=>Zxy (Zzo a) b c d e f g h i j k l m
def ZDW (n:Nat) (s:(Bool×Str×Zcy×Zcy×Int×Int×Bool×Bool×Zcy×Zcy×Zcy×Zcy)):ZOn:=Zzo n s.1 s.2.1 s.2.2.1 s.2.2.2.1 s.2.2.2.2.1 s.2.2.2.2.2.1 s.2.2.2.2.2.2.1 s.2.2.2.2.2.2.2.1 s.2.2.2.2.2.2.2.2.1 s.2.2.2.2.2.2.2.2.2.1 s.2.2.2.2.2.2.2.2.2.2.1 s.2.2.2.2.2.2.2.2.2.2.2
def ZAL (a:(Bool×Str×Zcy×Zcy×Int×Int×Bool×Bool×Zcy×Zcy×Zcy×Zcy)->ZOn) (s:(Bool×Str×Zcy×Zcy×Int×Int×Bool×Bool×Zcy×Zcy×Zcy×Zcy)):ZOn:=Zxy (fun i b j f h g m e k l d c=>a (i,b,j,f,h,g,m,e,k,l,d,c)) s.1 s.2.1 s.2.2.1 s.2.2.2.1 s.2.2.2.2.1 s.2.2.2.2.2.1 s.2.2.2.2.2.2.1 s.2.2.2.2.2.2.2.1 s.2.2.2.2.2.2.2.2.1 s.2.2.2.2.2.2.2.2.2.1 s.2.2.2.2.2.2.2.2.2.2.1 s.2.2.2.2.2.2.2.2.2.2.2
theorem ZGB (n s):ZDW (n+1) s=ZAL (ZDW n) s:=rfl
def Ztg (g:Bool) (a c:Str) (i o f:Bool) (e d:Zcy):ZIb:=bif i then some ((ZbF.mk (Zgo.mk false []) (Zgo.mk false [])),false) else (Zqi [1]).bind fun h=>chk (a.length+c.length<=Zr) <|chk ((a++c).length<=281474976710656) <|(Zzo big g c [] [10] (((a++c).map fun b=>((b.toNat:Nat):Int)).length:Int) 0 o f h ((a++c).map fun b=>((b.toNat:Nat):Int)) e d).bind fun(l,p,j,m,r,s,k,n,q)=>ZCx l p j m r s k n q
def Zv9 (h:Str) (f j e:Bool) (d c:Zcy):ZIb:=(ZDM h [46]).bind fun(a,b,g)=>(ZAo a 15).bind fun q=>bif !q then Ztg f a b true j e d c else bif g then (ZAo b 9).bind fun i=>Ztg f a b (!i) j e d c else Ztg f a b false j e d c
def Zwn (b:Str):ZIb:=(ZAC b [45]).bind fun(d,c)=>bif !c then (Zz2 b [43]).bind fun a=>Zv9 a c false false [] [] else Zv9 d c false false [] []
def ZBV (s a:Str):Option Str:=chk (a.all fun b=>decide (b.toNat<128)) <| chk (a.length<4294967281) <| some (Lib.trimLeftS s a)
def ZDm (s a:Str):Option Str:=chk (a.all fun b=>decide (b.toNat<128)) <| chk (a.length<4294967281) <| some (Lib.trimRightS s a)
def ZGa (a:Str):Option Str:=some a
def ZC1 (b:Str->Zph->Int->Int->ZOa) (a:Str) (f:Zph) (e d:Int):ZOa:=bif d<e then (idx f d).bind fun c=>bif !(c==a) then some (.ret c) else chk (inK .i64 (d+1)) <|b a f e (d+1) else some (.brk a)
def Zzp:Nat->Str->Zph->Int->Int->ZOa|0,_,_,_,_=>none|a+1,b,c,d,e=>ZC1 (Zzp a) b c d e
def ZFm (n:Nat) (s:(Str×Zph×Int×Int)):ZOa:=Zzp n s.1 s.2.1 s.2.2.1 s.2.2.2
def ZFn (b:(Str×Zph×Int×Int)->ZOa) (s:(Str×Zph×Int×Int)):ZOa:=ZC1 (fun a e d c=>b (a,e,d,c)) s.1 s.2.1 s.2.2.1 s.2.2.2
theorem ZHv (n s):ZFm (n+1) s=ZFn (ZFm n) s:=rfl
def ZDZ (a:Zph):Option Str:=(Zzp big [] a a.length 0).bind fun| .ret b=>some b| .brk c=>ZGa c
def ZBE (a:Str):ZIX:=some (a,true)
def ZBF (a:Str) (b:Bool):ZIX:=bif b then chk (([45]:Str).length+a.length<=Zr) <|ZBE (([45]:Str)++a) else ZBE a
def Zwd (t a:Str):ZIX:=(idx t 0).bind fun c=>bif ((c.toNat:Nat):Int)==45 then ZBF a (!(a==[48])) else ZBF a false
def ZB2 (t:Str):ZIX:=(Zwn t).bind fun(q,h)=>bif !h then some (([]:Str),false) else (ZBV t ([43,45]:Str)).bind fun f=>(ZDM f ([46]:Str)).bind fun(d,e,g)=>(ZBV d ([48]:Str)).bind fun b=>(ZDm e ([48]:Str)).bind fun a=>(ZDZ ([b,([48]:Str)]:Zph)).bind fun c=>bif !(a==([]:Str)) then chk (([46]:Str).length+a.length<=Zr) <|chk (c.length+(([46]:Str)++a).length<=Zr) <|Zwd t (c++(([46]:Str)++a)) else Zwd t c
def ZxG (n:Int) (s:Str):ZIX:=ZGY.bind fun q=>bif (!(Zhx (q:=ZJs) (k:=(.int .i64)) (v:=(.st 6)) (car:=Zz1) q n).isSome)then some ([],false) else bif (Option.isNone (((Zhx (q:=ZJs) (k:=(.int .i64)) (v:=(.st 6)) (car:=Zz1) q n).getD (Zp0.mk [] (none:Option Nat) (none:Option Nat))).canonical))then some (s,true) else (ZFO s).bind fun q_1=>chk (decide (((Zhx (q:=ZJs) (k:=(.int .i64)) (v:=(.st 6)) (car:=Zz1) q n).getD (Zp0.mk [] (none:Option Nat) (none:Option Nat))).canonical=some 249)) <|(ZB2 q_1).bind fun(q_2,q_3)=>some (q_2,q_3)
def ZDH (n:Int) (s:Str):ZIb:=(ZxG n s).bind fun(t,ok)=>bif !ok then some ((ZbF.mk (Zgo.mk false []) (Zgo.mk false [])),false) else ZGY.bind fun q=>chk (decide (((Zhx (q:=ZJs) (k:=(.int .i64)) (v:=(.st 6)) (car:=Zz1) q n).getD (Zp0.mk [] (none:Option Nat) (none:Option Nat))).value=some 248)) <|(Zwn t).bind fun(q_1,q_2)=>some (q_1,q_2)
def ZGZ (c:G_api_Cell):ZIb:=bif c.Null then ZBk.bind fun q=>some (q,false) else (ZDH 4 c.Text).bind fun(b,a)=>some (b,a)
def ZCl (a n:Int) (e d:Bool) (c b:Zcy):Option ZbF:=(ZDQ n (if 1>a then 1 else a)).bind fun q=>some q
def Zv7 (b:ZRe) (a n:Int) (h:Zvr) (g c:Int) (i f:Bool) (e d:Zcy):ZJi:=chk (inK .i64 (c+1)) <|b a n h g (c+1) i f e d
def Zxt (e:ZRe) (a n:Int) (h:Zvr) (g f:Int) (i d:Bool) (c b:Zcy):ZJi:=bif f<g then (idx h f).bind fun j=>bif j.Null then Zv7 e a n h g f i d c b else chk (inK .i64 (a+1)) <|(ZGZ j).bind fun(q,k)=>bif k then chk (inK .i64 (n+1)) <|Zv7 e (a+1) (n+1) h g f i d c b else Zv7 e (a+1) n h g f i d c b else some (a,n,i,d,c,b)
def Zv6:Nat->Int->Int->Zvr->Int->Int->Bool->Bool->Zcy->Zcy->ZJi|0,_,_,_,_,_,_,_,_,_=>none|a+1,b,c,d,e,f,g,h,i,j=>Zxt (Zv6 a) b c d e f g h i j
def ZDN (n:Nat) (s:(Int×Int×Zvr×Int×Int×Bool×Bool×Zcy×Zcy)):ZJi:=Zv6 n s.1 s.2.1 s.2.2.1 s.2.2.2.1 s.2.2.2.2.1 s.2.2.2.2.2.1 s.2.2.2.2.2.2.1 s.2.2.2.2.2.2.2.1 s.2.2.2.2.2.2.2.2
def ZAF (b:ZWL) (s:(Int×Int×Zvr×Int×Int×Bool×Bool×Zcy×Zcy)):ZJi:=Zxt (fun a n h g f i e d c=>b (a,n,h,g,f,i,e,d,c)) s.1 s.2.1 s.2.2.1 s.2.2.2.1 s.2.2.2.2.1 s.2.2.2.2.2.1 s.2.2.2.2.2.2.1 s.2.2.2.2.2.2.2.1 s.2.2.2.2.2.2.2.2
theorem ZGv (n s):ZDN (n+1) s=ZAF (ZDN n) s:=rfl
def ZDO (c:G_api_Column):Option ZbF:=(Zv6 big 0 0 c.Cells c.Cells.length 0 false false [] []).bind fun(b,g,a,d,e,f)=>ZCl b g a d e f
def ZwZ (c:G_api_Column):Option ZbF:=ZKg (ZDO c)
def ZFW (a b:ZbF):Option (Zgo×Zgo):=(ZoL a.Num b.Den).bind fun q=>(ZoL b.Num a.Den).bind fun e=>(ZBl q e).bind fun c=>(ZoL a.Den b.Den).bind fun d=>some (c,d)
def Zr8 (e:Bool) (a b:ZbF) (j i:Bool) (h g:Zcy):ZGS:=bif e then some ((ZbF.mk (Zgo.mk false []) (Zgo.mk false [])),1) else ((ZFW a b).bind fun(d,c)=>bif (c.Words.length:Int)==0 then some ((ZbF.mk (Zgo.mk false []) (Zgo.mk false [])),8) else ((Zr7 d c).bind fun f=>bif (if (f.Den.Words.length:Int)>(f.Num.Words.length:Int)then (f.Den.Words.length:Int)else (f.Num.Words.length:Int))>256 then some ((ZbF.mk (Zgo.mk false []) (Zgo.mk false [])),3) else some (f,0)))
def Zrs (a b:ZbF):ZGS:=(Zrx a).bind fun q=>bif !q then Zr8 true a b false false [] [] else (Zrx b).bind fun c=>Zr8 (!c) a b false false [] []
def ZEv (a b:ZbF):ZGS:=(Zrx b).bind fun q=>bif !q then some ((ZbF.mk (Zgo.mk false []) (Zgo.mk false [])),1) else (Zvh b.Num).bind fun d=>(Zrs a (ZbF.mk d b.Den)).bind fun(c,e)=>some (c,e)
def ZDn (f:ZbF) (a:Int):Option ZbF:=some f
def ZGw (a b:ZbF):Option ZbF:=(ZEv a b).bind fun(q,d)=>(ZDn q d).bind fun c=>some c
def ZDi (a b:ZbF):ZGS:=(Zrs a b).bind fun(q,c)=>some (q,c)
def ZFS (a b:ZbF):Option ZbF:=(ZDi a b).bind fun(q,d)=>(ZDn q d).bind fun c=>some c
def ZFX (a b:ZbF):Option (Zgo×Zgo):=(ZoL a.Num b.Den).bind fun c=>(ZoL a.Den b.Num).bind fun d=>some (c,d)
def Zrc (e:Bool) (a b:ZbF) (j i:Bool) (h g:Zcy):ZGS:=bif e then some ((ZbF.mk (Zgo.mk false []) (Zgo.mk false [])),1) else ((ZFX a b).bind fun(d,c)=>bif (c.Words.length:Int)==0 then some ((ZbF.mk (Zgo.mk false []) (Zgo.mk false [])),8) else ((Zr7 d c).bind fun f=>bif (if (f.Den.Words.length:Int)>(f.Num.Words.length:Int)then (f.Den.Words.length:Int)else (f.Num.Words.length:Int))>256 then some ((ZbF.mk (Zgo.mk false []) (Zgo.mk false [])),3) else some (f,0)))
def ZwW (a b:ZbF):ZGS:=(Zrx a).bind fun q=>bif !q then Zrc true a b false false [] [] else (Zrx b).bind fun c=>Zrc (!c) a b false false [] []
def ZEw (a b:ZbF):ZGS:=(ZwW a b).bind fun(q,c)=>some (q,c)
def ZHs (a b:ZbF):Option ZbF:=(ZEw a b).bind fun(q,d)=>(ZDn q d).bind fun c=>some c
def Zzi (l j:Bool) (a Zlk b:ZbF) (k i:Zcy):Option ZbF:=(ZFS a a).bind fun q=>(ZFS q Zlk).bind fun c=>(ZDQ 1 1).bind fun d=>(ZGw d b).bind fun g=>(ZFS c g).bind fun h=>(ZDQ 4 1).bind fun f=>(ZHs h f).bind fun e=>some e
def Zwk (k:Bool) (a b:G_api_Column) (n g:Bool) (d Zlk:ZbF) (h f:Zcy):Option ZbF:=bif k then ZBk.bind fun q=>some q else (ZwZ a).bind fun j=>(ZwZ b).bind fun i=>(ZGw j i).bind fun c=>(ZDC c).bind fun m=>bif m<0 then ZBk.bind fun l=>(ZGw l c).bind fun e=>Zzi n g d Zlk e h f else Zzi n g d Zlk c h f
def ZDP (a b:G_api_Column):Option ZbF:=(ZAE a b).bind fun c=>(ZBW a.Name b.Name).bind fun Zlk=>(ZDC c).bind fun q=>bif q==0 then (ZDC Zlk).bind fun d=>Zwk (d==0) a b false false c Zlk [] [] else Zwk false a b false false c Zlk [] []
def ZCy:Option Int:=some 0
def ZCz (a:ZQ6) (c:List Zo9) (d b:Int):ZC5:=chk (inK .i64 (b+1)) <|a c d (b+1)
def Zxz (c:ZWI) (b:List Zo9) (g e:Int) (f:Zo9) (d a:Int):ZKe:=bif a<d then (idx f a).bind fun h=>(ZDC h).bind fun q=>bif q<0 then some (.ret 2) else chk (inK .i64 (a+1)) <|c b g e f d (a+1) else some (.brk (b,g,e))
def Zzq:Nat->(List Zo9)->Int->Int->Zo9->Int->Int->ZKe|0,_,_,_,_,_,_=>none|a+1,b,c,d,e,f,g=>Zxz (Zzq a) b c d e f g
def ZD0 (n:Nat) (s:((List Zo9)×Int×Int×Zo9×Int×Int)):ZKe:=Zzq n s.1 s.2.1 s.2.2.1 s.2.2.2.1 s.2.2.2.2.1 s.2.2.2.2.2
def ZAM (a:ZWJ) (s:((List Zo9)×Int×Int×Zo9×Int×Int)):ZKe:=Zxz (fun b g e f d c=>a (b,g,e,f,d,c)) s.1 s.2.1 s.2.2.1 s.2.2.2.1 s.2.2.2.2.1 s.2.2.2.2.2
theorem ZGC (n s):ZD0 (n+1) s=ZAM (ZD0 n) s:=rfl
def ZxA (c:ZQ6) (b:List Zo9) (e a:Int):ZC5:=bif a<e then (idx b a).bind fun d=>(Zzq big b e a d d.length 0).bind fun| .ret f=>some (.ret f)| .brk (x0,x1,x2)=>ZCz c x0 x1 x2 else some (.brk ())
def Zwa:Nat->(List Zo9)->Int->Int->ZC5|0,_,_,_=>none|a+1,b,c,d=>ZxA (Zwa a) b c d
def ZD1 (n:Nat) (s:((List Zo9)×Int×Int)):ZC5:=Zwa n s.1 s.2.1 s.2.2
def ZAN (a:ZWx) (s:((List Zo9)×Int×Int)):ZC5:=ZxA (fun b d c=>a (b,d,c)) s.1 s.2.1 s.2.2
theorem ZGD (n s):ZD1 (n+1) s=ZAN (ZD1 n) s:=rfl
def ZCA (a:List Zo9):Option Int:=(Zwa big a a.length 0).bind fun| .ret b=>some b| .brk ()=>ZCy
def ZxB (c:ZRb) (g:List Zo9) (d:List Zo9) (e a:Int):ZHj:=bif a<e then (idx d a).bind fun f=>(idx g 0).bind fun b=>bif (f.length:Int)!=(b.length:Int) then some (.ret 1) else chk (inK .i64 (a+1)) <|c g d e (a+1) else some (.brk g)
def Zzr:Nat->(List Zo9)->(List Zo9)->Int->Int->ZHj|0,_,_,_,_=>none|a+1,b,c,d,e=>ZxB (Zzr a) b c d e
def ZD2 (n:Nat) (s:((List Zo9)×(List Zo9)×Int×Int)):ZHj:=Zzr n s.1 s.2.1 s.2.2.1 s.2.2.2
def ZAO (a:ZRc) (s:((List Zo9)×(List Zo9)×Int×Int)):ZHj:=ZxB (fun e c d b=>a (e,c,d,b)) s.1 s.2.1 s.2.2.1 s.2.2.2
theorem ZGE (n s):ZD2 (n+1) s=ZAO (ZD2 n) s:=rfl
def ZCB (a:List Zo9):Option Int:=(Zzr big a a a.length 0).bind fun| .ret b=>some b| .brk c=>ZCA c
def ZxC (c:ZRb) (f:List Zo9) (d:List Zo9) (b a:Int):ZHj:=bif a<b then (idx d a).bind fun e=>bif (e.length:Int)>8 then some (.ret 3) else chk (inK .i64 (a+1)) <|c f d b (a+1) else some (.brk f)
def Zzs:Nat->(List Zo9)->(List Zo9)->Int->Int->ZHj|0,_,_,_,_=>none|a+1,b,c,d,e=>ZxC (Zzs a) b c d e
def ZD3 (n:Nat) (s:((List Zo9)×(List Zo9)×Int×Int)):ZHj:=Zzs n s.1 s.2.1 s.2.2.1 s.2.2.2
def ZAP (a:ZRc) (s:((List Zo9)×(List Zo9)×Int×Int)):ZHj:=ZxC (fun e d c b=>a (e,d,c,b)) s.1 s.2.1 s.2.2.1 s.2.2.2
theorem ZGF (n s):ZD3 (n+1) s=ZAP (ZD3 n) s:=rfl
def ZB0 (a:List Zo9):Option Int:=bif (a.length:Int)>8 then some 3 else (Zzs big a a a.length 0).bind fun| .ret b=>some b| .brk c=>ZCB c
def Zqh (g:(List Zo9)->Int->Int->(List (Ziw×ZbF))->ZFi) (f:List Zo9) (i c k:Int) (j:Bool) (b:(List (Ziw×ZbF))) (p n:Bool) (l o:Zcy):ZWu:=bif j then ZBk.bind fun q=>some (q,false,b) else (idx f i).bind fun h=>(idx h k).bind fun a=>chk (inK .i64 (i+1)) <|chk (0<=k) <|(g f (i+1) (orK .i64 c (shlK .i64 1 k)) b).bind fun(e,m)=>(ZFS a e).bind fun d=>some (d,true,m)
def Zq8 (c:(List Zo9)->Int->Int->(List (Ziw×ZbF))->ZFi) (f:List Zo9) (i a k:Int) (m:(List (Ziw×ZbF))):ZWu:=chk (0<=k) <|bif (andK .i64 (shrK .i64 a k) 1)==1 then Zqh c f i a k true m false false [] [] else (idx f i).bind fun d=>(idx d k).bind fun b=>(ZDC b).bind fun q=>Zqh c f i a k (q==0) m false false [] []
def Zyr (h:(List Zo9)->Int->Int->(List (Ziw×ZbF))->ZFi) (f:List Zo9) (c:(List (Ziw×ZbF))) (i g:Bool) (b:Ziw) (a:ZbF) (e d:Zcy):ZFi:=some (a,(setB (q:=ZJs) (k:=(.st 7)) (v:=(.st 4)) (car:=Zz1) c b a))
def Zrt (m:(List Zo9)->Int->Int->(List (Ziw×ZbF))->ZFi) (a:ZZg) (f:List Zo9) (i e h k:Int) (l:(List (Ziw×ZbF))) (n g:Bool) (j:Ziw) (c:ZbF) (d b:Zcy):ZRM:=chk (inK .i64 (k+1)) <|a f i e h (k+1) l n g j c d b
def Zru (g:(List Zo9)->Int->Int->(List (Ziw×ZbF))->ZFi) (a:ZZg) (f:List Zo9) (i d h k:Int) (n:Bool) (m:(List (Ziw×ZbF))) (o e:Bool) (l:Ziw) (j p:ZbF) (c b:Zcy):ZRM:=bif n then Zrt g a f i d h k m o e l p c b else Zrt g a f i d h k m o e l j c b
def Zs0 (h:(List Zo9)->Int->Int->(List (Ziw×ZbF))->ZFi) (g:ZZg) (f:List Zo9) (i d j k:Int) (n:(List (Ziw×ZbF))) (p e:Bool) (l:Ziw) (a:ZbF) (c b:Zcy):ZRM:=bif k<j then (Zq8 h f i d k n).bind fun(o,r,m)=>bif r then (ZBm o a).bind fun q=>Zru h g f i d j k (q>0) m p e l a o c b else Zru h g f i d j k false m p e l a o c b else some (f,n,p,e,l,a,c,b)
def ZoH (a:(List Zo9)->Int->Int->(List (Ziw×ZbF))->ZFi):Nat->(List Zo9)->Int->Int->Int->Int->(List (Ziw×ZbF))->Bool->Bool->Ziw->ZbF->Zcy->Zcy->ZRM|0,_,_,_,_,_,_,_,_,_,_,_,_=>none|b+1,c,d,e,f,g,h,i,j,k,l,m,n=>Zs0 a (ZoH a b) c d e f g h i j k l m n
def ZBi (a:(List Zo9)->Int->Int->(List (Ziw×ZbF))->ZFi) (n:Nat) (s:((List Zo9)×Int×Int×Int×Int×(List (Ziw×ZbF))×Bool×Bool×Ziw×ZbF×Zcy×Zcy)):ZRM:=ZoH a n s.1 s.2.1 s.2.2.1 s.2.2.2.1 s.2.2.2.2.1 s.2.2.2.2.2.1 s.2.2.2.2.2.2.1 s.2.2.2.2.2.2.2.1 s.2.2.2.2.2.2.2.2.1 s.2.2.2.2.2.2.2.2.2.1 s.2.2.2.2.2.2.2.2.2.2.1 s.2.2.2.2.2.2.2.2.2.2.2
def ZFe (h:(List Zo9)->Int->Int->(List (Ziw×ZbF))->ZFi) (a:((List Zo9)×Int×Int×Int×Int×(List (Ziw×ZbF))×Bool×Bool×Ziw×ZbF×Zcy×Zcy)->ZRM) (s:((List Zo9)×Int×Int×Int×Int×(List (Ziw×ZbF))×Bool×Bool×Ziw×ZbF×Zcy×Zcy)):ZRM:=Zs0 h (fun f i e j k m n g l c d b=>a (f,i,e,j,k,m,n,g,l,c,d,b)) s.1 s.2.1 s.2.2.1 s.2.2.2.1 s.2.2.2.2.1 s.2.2.2.2.2.1 s.2.2.2.2.2.2.1 s.2.2.2.2.2.2.2.1 s.2.2.2.2.2.2.2.2.1 s.2.2.2.2.2.2.2.2.2.1 s.2.2.2.2.2.2.2.2.2.2.1 s.2.2.2.2.2.2.2.2.2.2.2
theorem ZI2 (a:(List Zo9)->Int->Int->(List (Ziw×ZbF))->ZFi):∀n s,ZBi a (n+1) s=ZFe a (ZBi a n) s:=fun _ _=>rfl
def Zza (b:(List Zo9)->Int->Int->(List (Ziw×ZbF))->ZFi) (f:List Zo9) (i a:Int) (m:(List (Ziw×ZbF))):ZFi:=bif i==f.length then ZBk.bind fun q=>some (q,m) else bif (Zhx (q:=ZJs) (k:=(.st 7)) (v:=(.st 4)) (car:=Zz1) m (Ziw.mk i a)).isSome then some (((Zhx (q:=ZJs) (k:=(.st 7)) (v:=(.st 4)) (car:=Zz1) m (Ziw.mk i a)).getD (ZbF.mk (Zgo.mk false []) (Zgo.mk false []))),m) else chk (inK .i64 (i+1)) <|(b f (i+1) a m).bind fun(c,d)=>(idx f i).bind fun e=>(ZoH b big f i a e.length 0 d false false (Ziw.mk i a) c [] []).bind fun(j,r,g,l,o,p,h,n)=>Zyr b j r g l o p h n
def Zkb:Nat->(List Zo9)->Int->Int->(List (Ziw×ZbF))->ZFi|0,_,_,_,_=>none|a+1,b,c,d,e=>Zza (Zkb a) b c d e
def ZIl (f:ZbF):Option ZbF:=chk (ZjC f.Num.Words.length 4) <|chk (ZjC f.Den.Words.length 4) <|some f
def ZC3 (f:List Zo9) (h d:Bool) (c:(List (Ziw×ZbF))) (b g e:Zcy):ZJh:=(Zkb big f 0 0 c).bind fun(q,m)=>(ZIl q).bind fun a=>some (b,a,0)
def ZC4 (b:Tf_7) (f:List Zo9) (h a:Int) (j:List Zo9) (l i:Int) (m d:Bool) (k:(List (Ziw×ZbF))) (c g e:Zcy):ZYc:=chk (ZjC (c.length+[a].length) 8) <|chk (inK .i64 (i+1)) <|b f h j l (i+1) m d k (c++[a]) g e
def Zur (g:Tf_1) (f:List Zo9) (d i m k:Int) (e:List Zo9) (o n q l:Int) (r s a:Bool) (p:(List (Ziw×ZbF))) (h:Zcy) (j:ZbF) (c b:Zcy):ZYd:=bif r then chk (0<=k) <|some (f,(orK .i64 d (shlK .i64 1 k)),k,e,o,n,s,a,p,h,c,b) else chk (inK .i64 (l+1)) <|g f d i m e o n q (l+1) s a p h j c b
def ZBA (h:Tf_1) (f:List Zo9) (a i e:Int) (l:List Zo9) (p o j k:Int) (s b:Bool) (r:(List (Ziw×ZbF))) (n:Zcy) (c:ZbF) (g d:Zcy):ZYd:=bif k<j then (Zq8 (Zkb big) f i a k r).bind fun(t,u,m)=>bif u then (ZBm t c).bind fun q=>Zur h f a i e k l p o j k (q==0) s b m n c g d else Zur h f a i e k l p o j k false s b m n c g d else some (f,a,e,l,p,o,s,b,r,n,g,d)
def Zp1:Nat->(List Zo9)->Int->Int->Int->(List Zo9)->Int->Int->Int->Int->Bool->Bool->(List (Ziw×ZbF))->Zcy->ZbF->Zcy->Zcy->ZYd|0,_,_,_,_,_,_,_,_,_,_,_,_,_,_,_,_=>none|a+1,b,c,d,e,f,g,h,i,j,k,l,m,n,o,p,q=>ZBA (Zp1 a) b c d e f g h i j k l m n o p q
def ZBB (e:Tf_7) (f:List Zo9) (d:Int) (j:List Zo9) (h i:Int) (q a:Bool) (k:(List (Ziw×ZbF))) (l b c:Zcy):ZYc:=bif i<h then (idx j i).bind fun n=>(Zkb big f i d k).bind fun(g,m)=>(Zp1 big f d i (-1) j h i n.length 0 q a m l g b c).bind fun(t,v,r,u,s,z,x,y,A,w,p,o)=>ZC4 e t v r u s z x y A w p o else some (f,q,a,k,l,b,c)
def ZqK:Nat->(List Zo9)->Int->(List Zo9)->Int->Int->Bool->Bool->(List (Ziw×ZbF))->Zcy->Zcy->Zcy->ZYc|0,_,_,_,_,_,_,_,_,_,_,_=>none|a+1,b,c,d,e,f,g,h,i,j,k,l=>ZBB (ZqK a) b c d e f g h i j k l
def ZCO (a:List Zo9):ZJh:=(ZB0 a).bind fun e=>bif e != 0 then some ([],(ZbF.mk (Zgo.mk false []) (Zgo.mk false [])),e) else (ZqK big a 0 a a.length 0 false false ([]:(List (Ziw×ZbF))) [] [] []).bind fun(d,i,b,f,g,h,c)=>ZC3 d i b f g h c
def ZBo (a b:G_api_Table) (j h:Bool) (i:List Zo9) (f g:Zcy):ZJh:=(ZCO i).bind fun(l,c,e)=>bif e != 0 then some (([]:Zcy),(ZbF.mk (Zgo.mk false []) (Zgo.mk false [])),e) else ((ZDQ (if (1:Int)>(if (b.Columns.length:Int)>(a.Columns.length:Int)then (b.Columns.length:Int)else (a.Columns.length:Int))then (1:Int)else (if (b.Columns.length:Int)>(a.Columns.length:Int)then (b.Columns.length:Int)else (a.Columns.length:Int))) 1).bind fun q=>(ZHs c q).bind fun d=>some (l,d,0))
def ZBp (c:ZRg) (j:ZkT) (i g:Int) (a b:G_api_Table) (l h:Bool) (k:List Zo9) (d:Zo9) (e f:Zcy):ZJj:=chk (ZjC (k.length+[d].length) 24) <|chk (inK .i64 (g+1)) <|c j i (g+1) a b l h (k++[d]) e f
def Zwb (h:Tf_6) (k:ZkT) (j l:Int) (m:ZkT) (i c:Int) (a b:G_api_Table) (p f:Bool) (o:List Zo9) (n:G_api_Column) (g:Zo9) (d e:Zcy):ZQb:=bif c<i then (idx m c).bind fun y=>(ZDP n y).bind fun q=>chk (ZjC (g.length+[q].length) 64) <|chk (inK .i64 (c+1)) <|h k j l m i (c+1) a b p f o n (g++[q]) d e else some (k,j,l,a,b,p,f,o,g,d,e)
def Zyv:Nat->ZkT->Int->Int->ZkT->Int->Int->G_api_Table->G_api_Table->Bool->Bool->(List Zo9)->G_api_Column->Zo9->Zcy->Zcy->ZQb|0,_,_,_,_,_,_,_,_,_,_,_,_,_,_,_=>none|a+1,b,c,d,e,f,g,h,i,j,k,l,m,n,o,p=>Zwb (Zyv a) b c d e f g h i j k l m n o p
def ZDw (n:Nat) (s:(ZkT×Int×Int×ZkT×Int×Int×G_api_Table×G_api_Table×Bool×Bool×(List Zo9)×G_api_Column×Zo9×Zcy×Zcy)):ZQb:=Zyv n s.1 s.2.1 s.2.2.1 s.2.2.2.1 s.2.2.2.2.1 s.2.2.2.2.2.1 s.2.2.2.2.2.2.1 s.2.2.2.2.2.2.2.1 s.2.2.2.2.2.2.2.2.1 s.2.2.2.2.2.2.2.2.2.1 s.2.2.2.2.2.2.2.2.2.2.1 s.2.2.2.2.2.2.2.2.2.2.2.1 s.2.2.2.2.2.2.2.2.2.2.2.2.1 s.2.2.2.2.2.2.2.2.2.2.2.2.2.1 s.2.2.2.2.2.2.2.2.2.2.2.2.2.2
def Zz9 (c:Tf_5) (s:(ZkT×Int×Int×ZkT×Int×Int×G_api_Table×G_api_Table×Bool×Bool×(List Zo9)×G_api_Column×Zo9×Zcy×Zcy)):ZQb:=Zwb (fun k j l m h g a b p f o n i d e=>c (k,j,l,m,h,g,a,b,p,f,o,n,i,d,e)) s.1 s.2.1 s.2.2.1 s.2.2.2.1 s.2.2.2.2.1 s.2.2.2.2.2.1 s.2.2.2.2.2.2.1 s.2.2.2.2.2.2.2.1 s.2.2.2.2.2.2.2.2.1 s.2.2.2.2.2.2.2.2.2.1 s.2.2.2.2.2.2.2.2.2.2.1 s.2.2.2.2.2.2.2.2.2.2.2.1 s.2.2.2.2.2.2.2.2.2.2.2.2.1 s.2.2.2.2.2.2.2.2.2.2.2.2.2.1 s.2.2.2.2.2.2.2.2.2.2.2.2.2.2
theorem ZGm (n s):ZDw (n+1) s=Zz9 (ZDw n) s:=rfl
def Zwc (g:ZRg) (h:ZkT) (i f:Int) (a b:G_api_Table) (l e:Bool) (k:List Zo9) (d c:Zcy):ZJj:=bif f<i then (idx h f).bind fun u=>(Zyv big h i f b.Columns b.Columns.length 0 a b l e k u [] d c).bind fun(o,q,m,p,n,v,s,t,w,r,j)=>ZBp g o q m p n v s t w r j else some (a,b,l,e,k,d,c)
def ZuS:Nat->ZkT->Int->Int->G_api_Table->G_api_Table->Bool->Bool->(List Zo9)->Zcy->Zcy->ZJj|0,_,_,_,_,_,_,_,_,_,_=>none|a+1,b,c,d,e,f,g,h,i,j,k=>Zwc (ZuS a) b c d e f g h i j k
def ZDx (n:Nat) (s:(ZkT×Int×Int×G_api_Table×G_api_Table×Bool×Bool×(List Zo9)×Zcy×Zcy)):ZJj:=ZuS n s.1 s.2.1 s.2.2.1 s.2.2.2.1 s.2.2.2.2.1 s.2.2.2.2.2.1 s.2.2.2.2.2.2.1 s.2.2.2.2.2.2.2.1 s.2.2.2.2.2.2.2.2.1 s.2.2.2.2.2.2.2.2.2
def ZAa (c:ZWY) (s:(ZkT×Int×Int×G_api_Table×G_api_Table×Bool×Bool×(List Zo9)×Zcy×Zcy)):ZJj:=Zwc (fun h g i a b k f j d e=>c (h,g,i,a,b,k,f,j,d,e)) s.1 s.2.1 s.2.2.1 s.2.2.2.1 s.2.2.2.2.1 s.2.2.2.2.2.1 s.2.2.2.2.2.2.1 s.2.2.2.2.2.2.2.1 s.2.2.2.2.2.2.2.2.1 s.2.2.2.2.2.2.2.2.2
theorem ZGn (n s):ZDx (n+1) s=ZAa (ZDx n) s:=rfl
def Zyw (f:Bool) (a b:G_api_Table) (k e:Bool) (c d:Zcy):ZJh:=bif f then some ([],(ZbF.mk (Zgo.mk false []) (Zgo.mk false [])),3) else (ZuS big a.Columns a.Columns.length 0 a b k e [] c d).bind fun(i,n,g,j,l,m,h)=>ZBo i n g j l m h
def Zsc (f:Bool) (a b:G_api_Table) (g e:Bool) (c d:Zcy):ZJh:=bif f then some (([]:Zcy),(ZbF.mk (Zgo.mk false []) (Zgo.mk false [])),1) else bif (a.Columns.length:Int)>8 then Zyw true a b g e c d else Zyw ((b.Columns.length:Int)>8) a b g e c d
def Zo3 (a b:G_api_Table):ZJh:=(Zue a).bind fun q=>bif !q then Zsc true a b false false [] [] else (Zue b).bind fun c=>Zsc (!c) a b false false [] []
def ZzS:Option Int:=some (-1)
def Zuf (a:Zcy->Int->Int->Int->ZC5) (s:Zcy) (d c i:Int):ZC5:=bif i<c then (idx s i).bind fun b=>bif d==b then some (.ret i) else chk (inK .i64 (i+1)) <|a s d c (i+1) else some (.brk ())
def Zsx:Nat->Zcy->Int->Int->Int->ZC5|0,_,_,_,_=>none|a+1,b,c,d,e=>Zuf (Zsx a) b c d e
def ZCk (n:Nat) (s:(Zcy×Int×Int×Int)):ZC5:=Zsx n s.1 s.2.1 s.2.2.1 s.2.2.2
def Zyh (a:(Zcy×Int×Int×Int)->ZC5) (s:(Zcy×Int×Int×Int)):ZC5:=Zuf (fun s b c i=>a (s,b,c,i)) s.1 s.2.1 s.2.2.1 s.2.2.2
theorem ZFG (n s):ZCk (n+1) s=Zyh (ZCk n) s:=rfl
def ZBx (s:Zcy) (a:Int):Option Int:=(Zsx big s a s.length 0).bind fun| .ret b=>some b| .brk ()=>ZzS
def ZvT (s:Zcy) (a:Int):Option Bool:=(ZBx s a).bind fun q=>some (q>=0)
def ZoV (s:ZkT) (a:Bool):Option ZkT:=bif a then some [] else chk (ZjC (([]:ZkT).length+s.length) 40) <|some (([]:ZkT)++s)
def Zqj (s:ZkT):Option ZkT:=bif List.isEmpty s then agree (ZoV s true) (ZoV s false)else ZoV s false
def Zpc (s:Zvr) (a:Bool):Option Zvr:=bif a then some [] else chk (ZjC (([]:Zvr).length+s.length) 24) <|some (([]:Zvr)++s)
def Zra (s:Zvr):Option Zvr:=bif List.isEmpty s then agree (Zpc s true) (Zpc s false)else Zpc s false
def ZEu (t:Int) (c:Str) (f:Int) (e:Str) (b:ZkT) (a:Nat) (d:ZkT):Option (G_api_Table×Nat):=some ((G_api_Table.mk t c b),a)
def Zzb (f:Int->Int->Int->Str->Int->Str->ZkT->Nat->ZkT->ZOh) (h i t:Int) (g:Str) (j:Int) (e:Str) (b:ZkT) (a:Nat) (d:ZkT):ZOh:=bif i<h then chk (inR i b.length) <|(b[(i).toNat]?).bind fun c=>chk (a<=(i).toNat) <|(Zra c.Cells).bind fun q=>chk (inR i b.length) <|chk (a=(i).toNat) <|(b[(i).toNat]?).bind fun k=>chk (inK .i64 (i+1)) <|f h (i+1) t g j e (b.set ((i).toNat) (G_api_Column.mk k.Name q)) (a+1) d else some (t,g,j,e,b,a,d)
def ZEt:Nat->Int->Int->Int->Str->Int->Str->ZkT->Nat->ZkT->ZOh|0,_,_,_,_,_,_,_,_,_=>none|a+1,b,c,d,e,f,g,h,i,j=>Zzb (ZEt a) b c d e f g h i j
def ZG9 (n:Nat) (s:(Int×Int×Int×Str×Int×Str×ZkT×Nat×ZkT)):ZOh:=ZEt n s.1 s.2.1 s.2.2.1 s.2.2.2.1 s.2.2.2.2.1 s.2.2.2.2.2.1 s.2.2.2.2.2.2.1 s.2.2.2.2.2.2.2.1 s.2.2.2.2.2.2.2.2
def ZBf (b:(Int×Int×Int×Str×Int×Str×ZkT×Nat×ZkT)->ZOh) (s:(Int×Int×Int×Str×Int×Str×ZkT×Nat×ZkT)):ZOh:=Zzb (fun f i t e h d g a c=>b (f,i,t,e,h,d,g,a,c)) s.1 s.2.1 s.2.2.1 s.2.2.2.1 s.2.2.2.2.1 s.2.2.2.2.2.1 s.2.2.2.2.2.2.1 s.2.2.2.2.2.2.2.1 s.2.2.2.2.2.2.2.2
theorem ZGy (n s):ZG9 (n+1) s=ZBf (ZG9 n) s:=rfl
def ZDo (t:G_api_Table):Option (G_api_Table×Nat):=(Zqj t.Columns).bind fun q=>(ZEt big q.length 0 t.ID t.Name 0 [] q 0 []).bind fun(c,g,a,d,e,f,b)=>ZEu c g a d e f b
def ZGx (a y:Int):ZK5:=chk (0<=(32:Int)) <|chk (0<=(32:Int)) <|chk (0<=(32:Int)) <|chk (0<=(32:Int)) <|chk (0<=(32:Int)) <|some ((IntKind.wrap .u64 ((IntKind.wrap .u64 ((IntKind.wrap .u64 ((shrK .u64 a 32)*(shrK .u64 y 32)))+(shrK .u64 (IntKind.wrap .u64 ((IntKind.wrap .u64 ((shrK .u64 a 32)*(andK .u64 y 4294967295)))+(shrK .u64 (IntKind.wrap .u64 ((andK .u64 a 4294967295)*(andK .u64 y 4294967295))) 32))) 32)))+(shrK .u64 (IntKind.wrap .u64 ((andK .u64 (IntKind.wrap .u64 ((IntKind.wrap .u64 ((shrK .u64 a 32)*(andK .u64 y 4294967295)))+(shrK .u64 (IntKind.wrap .u64 ((andK .u64 a 4294967295)*(andK .u64 y 4294967295))) 32))) 4294967295)+(IntKind.wrap .u64 ((andK .u64 a 4294967295)*(shrK .u64 y 32))))) 32))),(IntKind.wrap .u64 (a*y)))
def ZHt (b y:Int):ZK5:=(ZGx b y).bind fun(a,l)=>some (a,l)
def ZxE (a:Zvr):Option Zvr:=some a
def ZCI (b:Int->Zvr->Option Zvr) (n:Int) (a:Zvr):Option Zvr:=bif n<(a.length:Int) then chk (Zcp n a.length a.length) <|chk (Zcp 0 n a.length) <|chk ((n).toNat+((a.length:Int).toNat-(n).toNat)<=a.length) <|chk (inK .i64 (n+((min ((a.drop 0).take ((n).toNat-0)).length ((a.length:Int).toNat-(n).toNat):Nat):Int))) <|b (n+((min ((a.drop 0).take ((n).toNat-0)).length ((a.length:Int).toNat-(n).toNat):Nat):Int)) (ZT a ((n).toNat) (((a.drop 0).take ((n).toNat-0)).take (min ((a.drop 0).take ((n).toNat-0)).length ((a.length:Int).toNat-(n).toNat)))) else some a
def Zsv:Nat->Int->Zvr->Option Zvr|0,_,_=>none|a+1,b,c=>ZCI (Zsv a) b c
def Zsw (c:Zvr) (a:Int) (b:Bool):Option Zvr:=bif b then none else chk (mkOk (IntKind.wrap .i64 a) (IntKind.wrap .i64 a) 24) <|(Zsv big ((min c.length (List.replicate ((IntKind.wrap .i64 a)).toNat (G_api_Cell.mk false [])).length:Nat):Int) (c.take (List.replicate ((IntKind.wrap .i64 a)).toNat (G_api_Cell.mk false [])).length++(List.replicate ((IntKind.wrap .i64 a)).toNat (G_api_Cell.mk false [])).drop c.length)).bind fun d=>ZxE d
def Zpp (c:Zvr) (a:Int):Option Zvr:=bif a<0 then none else (ZHt (IntKind.wrap .u64 c.length) (IntKind.wrap .u64 a)).bind fun(d,b)=>bif d>0 then Zsw c b true else Zsw c b (b>9223372036854775807)
def Zyt (g:Int) (f:Str) (d:Int) (b:Str) (e a:ZkT) (c:Nat):ZHi:=some ((G_api_Table.mk d b a),0)
def ZqL (g:ZWT) (i:Int) (e:Zvr) (m:Zcy) (n j:Int) (b:G_api_Table) (p:Int) (k:Str) (l:Int) (f:Str) (h a:ZkT) (c:Nat):ZMJ:=chk (inR i a.length) <|(a[(i).toNat]?).bind fun d=>chk ((i).toNat<c) <|chk (ZjC (d.Cells.length+e.length) 24) <|chk (inR i a.length) <|chk ((i).toNat=(i).toNat/\(i).toNat<c) <|(a[(i).toNat]?).bind fun o=>chk (inK .i64 (j+1)) <|g m n (j+1) b p k l f h (a.set ((i).toNat) (G_api_Column.mk o.Name (d.Cells++e))) c
def Zq3 (g:ZWT) (j:Zcy) (l i:Int) (b:G_api_Table) (n:Int) (f:Str) (h:Int) (d:Str) (e c:ZkT) (a:Nat):ZMJ:=bif i<l then (idx j i).bind fun k=>(ZAy b).bind fun q=>(Zpp ([(G_api_Cell.mk true [])]:Zvr) q).bind fun m=>bif k>=0 then (idx b.Columns k).bind fun Column=>ZqL g i Column.Cells j l i b n f h d e c a else ZqL g i m j l i b n f h d e c a else some (n,f,h,d,e,c,a)
def ZuO:Nat->Zcy->Int->Int->G_api_Table->Int->Str->Int->Str->ZkT->ZkT->Nat->ZMJ|0,_,_,_,_,_,_,_,_,_,_,_=>none|a+1,b,c,d,e,f,g,h,i,j,k,l=>Zq3 (ZuO a) b c d e f g h i j k l
def ZDt (n:Nat) (s:(Zcy×Int×Int×G_api_Table×Int×Str×Int×Str×ZkT×ZkT×Nat)):ZMJ:=ZuO n s.1 s.2.1 s.2.2.1 s.2.2.2.1 s.2.2.2.2.1 s.2.2.2.2.2.1 s.2.2.2.2.2.2.1 s.2.2.2.2.2.2.2.1 s.2.2.2.2.2.2.2.2.1 s.2.2.2.2.2.2.2.2.2.1 s.2.2.2.2.2.2.2.2.2.2
def Zs3 (e:(Zcy×Int×Int×G_api_Table×Int×Str×Int×Str×ZkT×ZkT×Nat)->ZMJ) (s:(Zcy×Int×Int×G_api_Table×Int×Str×Int×Str×ZkT×ZkT×Nat)):ZMJ:=Zq3 (fun j k i b l g h d f c a=>e (j,k,i,b,l,g,h,d,f,c,a)) s.1 s.2.1 s.2.2.1 s.2.2.2.1 s.2.2.2.2.1 s.2.2.2.2.2.1 s.2.2.2.2.2.2.1 s.2.2.2.2.2.2.2.1 s.2.2.2.2.2.2.2.2.1 s.2.2.2.2.2.2.2.2.2.1 s.2.2.2.2.2.2.2.2.2.2
theorem ZC9 (n s):ZDt (n+1) s=Zs3 (ZDt n) s:=rfl
def ZuP (c:Zcy) (a b:G_api_Table) (m:Int) (h:Str) (g:ZkT):ZHi:=(ZAy a).bind fun q=>(ZAy b).bind fun f=>chk (inK .i64 (q+f)) <|bif (q+f)>4096 then some ((G_api_Table.mk 0 [] []),3) else (ZDo a).bind fun(e,d)=>(ZuO big c c.length 0 b m h e.ID e.Name g e.Columns d).bind fun(k,o,i,l,n,p,j)=>Zyt k o i l n p j
def ZuQ (d:ZL2) (c j:Zcy) (g i:Int) (h:Bool) (a b:G_api_Table) (k:Int) (f:Str) (e:ZkT):ZKa:=bif h then some (.ret ((G_api_Table.mk 0 [] []),6)) else chk (inK .i64 (i+1)) <|d c j g (i+1) a b k f e
def Zq4 (f:ZL2) (c h:Zcy) (g i:Int) (a b:G_api_Table) (j:Int) (e:Str) (d:ZkT):ZKa:=bif i<g then (idx h i).bind fun k=>bif k>=0 then chk (Zcp 0 i c.length) <|(ZvT (c.take (i).toNat) k).bind fun q=>ZuQ f c h g i q a b j e d else ZuQ f c h g i false a b j e d else some (.brk (c,a,b,j,e,d))
def Zsa:Nat->Zcy->Zcy->Int->Int->G_api_Table->G_api_Table->Int->Str->ZkT->ZKa|0,_,_,_,_,_,_,_,_,_=>none|a+1,b,c,d,e,f,g,h,i,j=>Zq4 (Zsa a) b c d e f g h i j
def ZDu (n:Nat) (s:(Zcy×Zcy×Int×Int×G_api_Table×G_api_Table×Int×Str×ZkT)):ZKa:=Zsa n s.1 s.2.1 s.2.2.1 s.2.2.2.1 s.2.2.2.2.1 s.2.2.2.2.2.1 s.2.2.2.2.2.2.1 s.2.2.2.2.2.2.2.1 s.2.2.2.2.2.2.2.2
def Zs4 (d:ZRf) (s:(Zcy×Zcy×Int×Int×G_api_Table×G_api_Table×Int×Str×ZkT)):ZKa:=Zq4 (fun c h g i a b j f e=>d (c,h,g,i,a,b,j,f,e)) s.1 s.2.1 s.2.2.1 s.2.2.2.1 s.2.2.2.2.1 s.2.2.2.2.2.1 s.2.2.2.2.2.2.1 s.2.2.2.2.2.2.2.1 s.2.2.2.2.2.2.2.2
theorem ZDa (n s):ZDu (n+1) s=Zs4 (ZDu n) s:=rfl
def Zyu (c:Zcy) (a b:G_api_Table) (g:Int) (e:Str) (d:ZkT):ZHi:=(Zsa big c c c.length 0 a b g e d).bind fun| .ret f=>some f| .brk (x0,x1,x2,x3,x4,x5)=>ZuP x0 x1 x2 x3 x4 x5
def ZuR (d:ZL2) (c i:Zcy) (h f:Int) (j:Bool) (a b:G_api_Table) (k:Int) (g:Str) (e:ZkT):ZKa:=bif j then some (.ret ((G_api_Table.mk 0 [] []),2)) else chk (inK .i64 (f+1)) <|d c i h (f+1) a b k g e
def Zq5 (g:ZL2) (c i:Zcy) (h f:Int) (a b:G_api_Table) (j:Int) (e:Str) (d:ZkT):ZKa:=bif f<h then (idx i f).bind fun k=>bif k<(-1) then ZuR g c i h f true a b j e d else ZuR g c i h f (k>=b.Columns.length) a b j e d else some (.brk (c,a,b,j,e,d))
def Zsb:Nat->Zcy->Zcy->Int->Int->G_api_Table->G_api_Table->Int->Str->ZkT->ZKa|0,_,_,_,_,_,_,_,_,_=>none|a+1,b,c,d,e,f,g,h,i,j=>Zq5 (Zsb a) b c d e f g h i j
def ZDv (n:Nat) (s:(Zcy×Zcy×Int×Int×G_api_Table×G_api_Table×Int×Str×ZkT)):ZKa:=Zsb n s.1 s.2.1 s.2.2.1 s.2.2.2.1 s.2.2.2.2.1 s.2.2.2.2.2.1 s.2.2.2.2.2.2.1 s.2.2.2.2.2.2.2.1 s.2.2.2.2.2.2.2.2
def Zs5 (d:ZRf) (s:(Zcy×Zcy×Int×Int×G_api_Table×G_api_Table×Int×Str×ZkT)):ZKa:=Zq5 (fun c h g i a b j f e=>d (c,h,g,i,a,b,j,f,e)) s.1 s.2.1 s.2.2.1 s.2.2.2.1 s.2.2.2.2.1 s.2.2.2.2.2.1 s.2.2.2.2.2.2.1 s.2.2.2.2.2.2.2.1 s.2.2.2.2.2.2.2.2
theorem ZDb (n s):ZDv (n+1) s=Zs5 (ZDv n) s:=rfl
def ZpW (c:Zcy) (f:Bool) (a b:G_api_Table) (h:Int) (e:Str) (d:ZkT):ZHi:=bif f then some ((G_api_Table.mk 0 [] []),1) else (Zsb big c c c.length 0 a b h e d).bind fun| .ret g=>some g| .brk (x0,x1,x2,x3,x4,x5)=>Zyu x0 x1 x2 x3 x4 x5
def Zqp (a b:G_api_Table) (c:Zcy):ZHi:=(Zue a).bind fun q=>bif !q then ZpW c true a b 0 [] [] else (Zue b).bind fun d=>bif !d then ZpW c true a b 0 [] [] else ZpW c ((c.length:Int)!=(a.Columns.length:Int)) a b 0 [] []
def ZvX:Option Bool:=some true
def Zq9 (d:Zcy->Zcy->Int->Int->Zrv) (b a:Zcy) (c i:Int):Zrv:=bif i<c then (idx a i).bind fun n=>(idx b i).bind fun e=>bif e != n then some (.ret false) else chk (inK .i64 (i+1)) <|d b a c (i+1) else some (.brk ())
def Zr2:Nat->Zcy->Zcy->Int->Int->Zrv|0,_,_,_,_=>none|a+1,b,c,d,e=>Zq9 (Zr2 a) b c d e
def ZzZ (n:Nat) (s:(Zcy×Zcy×Int×Int)):Zrv:=Zr2 n s.1 s.2.1 s.2.2.1 s.2.2.2
def Zut (a:(Zcy×Zcy×Int×Int)->Zrv) (s:(Zcy×Zcy×Int×Int)):Zrv:=Zq9 (fun b d c i=>a (b,d,c,i)) s.1 s.2.1 s.2.2.1 s.2.2.2
theorem ZDI (n s):ZzZ (n+1) s=Zut (ZzZ n) s:=rfl
def Zp6 (a b:Zcy):Option Bool:=bif (a.length:Int)!=(b.length:Int) then some false else (Zr2 big b a a.length 0).bind fun| .ret c=>some c| .brk ()=>ZvX
def ZCW (a:Zcy):Option Zcy:=some a
def Zy2 (b:ZPG) (a:Zcy) (c:Bool):Option Zcy:=bif c then chk (inK .i64 ((a.length:Int)-1)) <|chk (Zcp 0 ((a.length:Int)-1) a.length) <|b (a.take (((a.length:Int)-1)).toNat) else some a
def ZBS (a:ZPG) (b:Zcy):Option Zcy:=bif (b.length:Int)>0 then chk (inK .i64 ((b.length:Int)-1)) <|(idx b ((b.length:Int)-1)).bind fun c=>Zy2 a b (c==0) else Zy2 a b false
def ZpH:Nat->Zcy->Option Zcy|0,_=>none|a+1,b=>ZBS (ZpH a) b
def Zpd (a:Zcy):Option Zcy:=(ZpH big a).bind fun b=>ZCW b
def ZvL (a:Zgo):Option Zgo:=some a
def ZoX (b:Bool) (c:Zcy):Option Zgo:=(Zpd c).bind fun a=>bif b then ZvL (Zgo.mk ((a.length:Int)>0) a) else ZvL (Zgo.mk false a)
def ZsT (n u:Int) (b:Bool) (a:Zcy):Option Zgo:=chk (0<=(32:Int)) <|(ZoX (n<0) ([(IntKind.wrap .u32 u),(IntKind.wrap .u32 (shrK .u64 u 32))]:Zcy)).bind fun q=>some q
def ZoR (n:Int):Option Zgo:=bif n<0 then ZsT n (IntKind.wrap .u64 (0-(IntKind.wrap .u64 n))) false [] else ZsT n (IntKind.wrap .u64 n) false []
def Zpf (a:Bool):Option Bool:=some a
def Zqc (a:Zgo):Option Bool:=bif (a.Words.length:Int)<=256 then bif (a.Words.length:Int)==0 then bif !a.Neg then Zpf true else bif (a.Words.length:Int)>0 then chk (inK .i64 ((a.Words.length:Int)-1)) <|(idx a.Words ((a.Words.length:Int)-1)).bind fun Word=>Zpf (Word != 0) else Zpf false else bif (a.Words.length:Int)>0 then chk (inK .i64 ((a.Words.length:Int)-1)) <|(idx a.Words ((a.Words.length:Int)-1)).bind fun Word_1=>Zpf (Word_1 != 0) else Zpf false else Zpf false
def Zy3 (a:Zcy):Option Zcy:=(Zpd a).bind fun q=>some q
def ZrY (b:ZWA) (a:Zcy) (d i:Int) (c:Zcy):Option Zcy:=chk (inK .i64 (i+1)) <|b a d (i+1) c
def ZtA (d:ZWA) (a:Zcy) (e i:Int) (c:Zcy):Option Zcy:=bif i<e then chk (inR i c.length) <|(c[(i).toNat]?).bind fun b=>chk (0<=(1:Int)) <|chk (inR i c.length) <|chk (inK .i64 (i+1)) <|bif (i+1)<(a.length:Int) then chk (inR i ((c.set ((i).toNat) (shrK .u32 b 1)).length:Int)) <|((c.set ((i).toNat) (shrK .u32 b 1))[(i).toNat]?).bind fun g=>chk (inK .i64 (i+1)) <|(idx a (i+1)).bind fun f=>chk (0<=(31:Int)) <|chk (inR i ((c.set ((i).toNat) (shrK .u32 b 1)).length:Int)) <|ZrY d a e i ((c.set ((i).toNat) (shrK .u32 b 1)).set ((i).toNat) (orK .u32 g (shlK .u32 f 31))) else ZrY d a e i (c.set ((i).toNat) (shrK .u32 b 1)) else some c
def ZrX:Nat->Zcy->Int->Int->Zcy->Option Zcy|0,_,_,_,_=>none|a+1,b,c,d,e=>ZtA (ZrX a) b c d e
def ZBT (n:Nat) (s:(Zcy×Int×Int×Zcy)):Option Zcy:=ZrX n s.1 s.2.1 s.2.2.1 s.2.2.2
def Zxq (b:(Zcy×Int×Int×Zcy)->Option Zcy) (s:(Zcy×Int×Int×Zcy)):Option Zcy:=ZtA (fun a d i c=>b (a,d,i,c)) s.1 s.2.1 s.2.2.1 s.2.2.2
theorem ZFc (n s):ZBT (n+1) s=Zxq (ZBT n) s:=rfl
def Zqq (a:Zcy):Option Zcy:=chk (ZjC (([]:Zcy).length+a.length) 4) <|(ZrX big a ((([]:Zcy)++a).length:Int) 0 (([]:Zcy)++a)).bind fun b=>Zy3 b
def ZzO:Option Int:=some 0
def Zt5 (e:Zcy->Zcy->Int->ZC5) (a b:Zcy) (i:Int):ZC5:=bif i>=0 then (idx a i).bind fun f=>(idx b i).bind fun g=>bif f<g then some (.ret (-1)) else (idx a i).bind fun d=>(idx b i).bind fun c=>bif d>c then some (.ret 1) else chk (inK .i64 (i-1)) <|e a b (i-1) else some (.brk ())
def ZvK:Nat->Zcy->Zcy->Int->ZC5|0,_,_,_=>none|a+1,b,c,d=>Zt5 (ZvK a) b c d
def ZCe (n:Nat) (s:(Zcy×Zcy×Int)):ZC5:=ZvK n s.1 s.2.1 s.2.2
def Zya (c:(Zcy×Zcy×Int)->ZC5) (s:(Zcy×Zcy×Int)):ZC5:=Zt5 (fun a b i=>c (a,b,i)) s.1 s.2.1 s.2.2
theorem ZFD (n s):ZCe (n+1) s=Zya (ZCe n) s:=rfl
def ZpD (a b:Zcy):Option Int:=bif (a.length:Int)!=(b.length:Int) then bif (a.length:Int)<(b.length:Int) then some (-1) else some 1 else chk (inK .i64 ((a.length:Int)-1)) <|(ZvK big a b ((a.length:Int)-1)).bind fun| .ret c=>some c| .brk ()=>ZzO
def ZzF (a:Zcy):Option Zcy:=(Zpd a).bind fun q=>some q
def Zsp (d:ZRa) (a b:Zcy) (c i:Int) (e:Zcy):Option Zcy:=chk (ZjC (e.length+([(IntKind.wrap .u32 c)]:Zcy).length) 4) <|chk (0<=(32:Int)) <|chk (inK .i64 (i+1)) <|d a b (shrK .i64 c 32) (i+1) (e++([(IntKind.wrap .u32 c)]:Zcy))
def ZtY (e:ZRa) (a b:Zcy) (c i:Int) (f:Zcy):Option Zcy:=bif i<a.length then (idx a i).bind fun d=>chk (inK .i64 (c+(IntKind.wrap .i64 d))) <|bif i<b.length then (idx b i).bind fun g=>chk (inK .i64 ((c+(IntKind.wrap .i64 d))-(IntKind.wrap .i64 g))) <|Zsp e a b ((c+(IntKind.wrap .i64 d))-(IntKind.wrap .i64 g)) i f else Zsp e a b (c+(IntKind.wrap .i64 d)) i f else some f
def Zso:Nat->Zcy->Zcy->Int->Int->Zcy->Option Zcy|0,_,_,_,_,_=>none|a+1,b,c,d,e,f=>ZtY (Zso a) b c d e f
def ZCa (n:Nat) (s:(Zcy×Zcy×Int×Int×Zcy)):Option Zcy:=Zso n s.1 s.2.1 s.2.2.1 s.2.2.2.1 s.2.2.2.2
def Zx4 (d:ZWF) (s:(Zcy×Zcy×Int×Int×Zcy)):Option Zcy:=ZtY (fun a b c i e=>d (a,b,c,i,e)) s.1 s.2.1 s.2.2.1 s.2.2.2.1 s.2.2.2.2
theorem ZFz (n s):ZCa (n+1) s=Zx4 (ZCa n) s:=rfl
def ZqN (a b:Zcy):Option Zcy:=(Zso big a b 0 0 []).bind fun c=>ZzF c
def Zx3 (d:Int) (a:Zcy):Option Zcy:=chk (ZjC (a.length+[d].length) 4) <|(Zpd (a++[d])).bind fun q=>some q
def ZsR (f:Zcy->Int->Int->Zcy->ZCR) (a:Zcy) (d i:Int) (c:Zcy):ZCR:=bif i<(a.length:Int) then (idx a i).bind fun e=>chk (0<=(1:Int)) <|chk (ZjC (c.length+([(orK .u32 (shlK .u32 e 1) d)]:Zcy).length) 4) <|(idx a i).bind fun b=>chk (0<=(31:Int)) <|chk (inK .i64 (i+1)) <|f a (shrK .u32 b 31) (i+1) (c++([(orK .u32 (shlK .u32 e 1) d)]:Zcy)) else some (d,c)
def ZtX:Nat->Zcy->Int->Int->Zcy->ZCR|0,_,_,_,_=>none|a+1,b,c,d,e=>ZsR (ZtX a) b c d e
def ZA8 (n:Nat) (s:(Zcy×Int×Int×Zcy)):ZCR:=ZtX n s.1 s.2.1 s.2.2.1 s.2.2.2
def ZwL (b:(Zcy×Int×Int×Zcy)->ZCR) (s:(Zcy×Int×Int×Zcy)):ZCR:=ZsR (fun a d i c=>b (a,d,i,c)) s.1 s.2.1 s.2.2.1 s.2.2.2
theorem ZEQ (n s):ZA8 (n+1) s=ZwL (ZA8 n) s:=rfl
def Zta (a:Zcy) (d:Int):Option Zcy:=(ZtX big a d 0 []).bind fun(c,b)=>Zx3 c b
def ZzI (a:Zcy):Option Zcy:=some a
def Zt1 (b:Zcy->Int->Option Zcy) (a:Zcy) (k:Int):Option Zcy:=bif k>0 then (Zta a 0).bind fun c=>chk (inK .i64 (k-1)) <|b c (k-1) else some a
def ZqH:Nat->Zcy->Int->Option Zcy|0,_,_=>none|a+1,b,c=>Zt1 (ZqH a) b c
def ZzJ (a:Zcy) (k:Int):Option Zcy:=(ZqH big a k).bind fun b=>ZzI b
def ZvI (c:ZQ5) (a b:Zcy) (k:Int):ZLW:=(ZqN b a).bind fun d=>c a d k
def ZzK (c:ZQ5) (a b:Zcy) (k:Int):ZLW:=(ZpD a b).bind fun q=>bif q>0 then ZvI c b a k else ZvI c a b k
def Zx7 (c:ZQ4) (a b:Zcy) (k:Int):ZLZ:=(idx b 0).bind fun e=>bif (andK .u32 e 1)==0 then (Zqq b).bind fun d=>c a d k else some (a,b,k)
def Zpu:Nat->Zcy->Zcy->Int->ZLZ|0,_,_,_=>none|a+1,b,c,d=>Zx7 (Zpu a) b c d
def ZzL (c:ZQ5) (a b:Zcy) (k:Int):ZLW:=(Zpu big a b k).bind fun(f,d,e)=>ZzK c f d e
def Zt2 (c:ZQ4) (a b:Zcy) (k:Int):ZLZ:=(idx a 0).bind fun e=>bif (andK .u32 e 1)==0 then (Zqq a).bind fun d=>c d b k else some (a,b,k)
def Zpv:Nat->Zcy->Zcy->Int->ZLZ|0,_,_,_=>none|a+1,b,c,d=>Zt2 (Zpv a) b c d
def Zt3 (c:ZQ5) (a b:Zcy) (k:Int):ZLW:=bif (b.length:Int)>0 then (Zpv big a b k).bind fun(f,d,e)=>ZzL c f d e else some (a,k)
def Zo2:Nat->Zcy->Zcy->Int->ZLW|0,_,_,_=>none|a+1,b,c,d=>Zt3 (Zo2 a) b c d
def ZzM (a b:Zcy) (k:Int):Option Zcy:=(Zo2 big a b k).bind fun(d,c)=>ZzJ d c
def ZvJ (c:ZQ4) (a b:Zcy) (k:Int) (e:Bool):ZLZ:=bif e then (Zqq a).bind fun d=>(Zqq b).bind fun f=>chk (inK .i64 (k+1)) <|c d f (k+1) else some (a,b,k)
def Zx8 (c:ZQ4) (a b:Zcy) (k:Int):ZLZ:=(idx a 0).bind fun d=>bif (andK .u32 d 1)==0 then (idx b 0).bind fun e=>ZvJ c a b k ((andK .u32 e 1)==0) else ZvJ c a b k false
def ZqI:Nat->Zcy->Zcy->Int->ZLZ|0,_,_,_=>none|a+1,b,c,d=>Zx8 (ZqI a) b c d
def ZuU (a b:Zcy):Option Zcy:=(ZqI big a b 0).bind fun(e,c,d)=>ZzM e c d
def ZyD (a:Zcy) (i:Int):Option Int:=chk ((32:Int)≠0) <|chk (inK .i64 (Int.tdiv i 32)) <|(idx a (Int.tdiv i 32)).bind fun b=>chk ((32:Int)≠0) <|chk (0<=(IntKind.wrap .u64 (Int.tmod i 32))) <|some (andK .u32 (shrK .u32 b (IntKind.wrap .u64 (Int.tmod i 32))) 1)
def ZzN (b q:Zcy):ZJg:=(Zpd q).bind fun a=>some (a,b)
def Zss (c:ZWC) (a b d:Zcy) (i:Int) (q:Zcy):ZJg:=chk (inK .i64 (i-1)) <|c a b d (i-1) q
def Zt4 (d:ZWC) (a b j:Zcy) (i:Int) (q:Zcy):ZJg:=bif i>=0 then (ZyD a i).bind fun g=>(Zta j g).bind fun c=>(ZpD c b).bind fun f=>bif f>=0 then (ZqN c b).bind fun e=>chk ((32:Int)≠0) <|chk (inK .i64 (Int.tdiv i 32)) <|chk (inR (Int.tdiv i 32) q.length) <|(q[((Int.tdiv i 32)).toNat]?).bind fun h=>chk ((32:Int)≠0) <|chk (0<=(IntKind.wrap .u64 (Int.tmod i 32))) <|chk (inR (Int.tdiv i 32) q.length) <|Zss d a b e i (q.set (((Int.tdiv i 32)).toNat) (orK .u32 h (shlK .u32 1 (IntKind.wrap .u64 (Int.tmod i 32))))) else Zss d a b c i q else some (j,q)
def Zsr:Nat->Zcy->Zcy->Zcy->Int->Zcy->ZJg|0,_,_,_,_,_=>none|a+1,b,c,d,e,f=>Zt4 (Zsr a) b c d e f
def ZCd (n:Nat) (s:(Zcy×Zcy×Zcy×Int×Zcy)):ZJg:=Zsr n s.1 s.2.1 s.2.2.1 s.2.2.2.1 s.2.2.2.2
def Zx9 (c:(Zcy×Zcy×Zcy×Int×Zcy)->ZJg) (s:(Zcy×Zcy×Zcy×Int×Zcy)):ZJg:=Zt4 (fun a b d i q=>c (a,b,d,i,q)) s.1 s.2.1 s.2.2.1 s.2.2.2.1 s.2.2.2.2
theorem ZFC (n s):ZCd (n+1) s=Zx9 (ZCd n) s:=rfl
def ZuV (a b:Zcy):ZJg:=chk (mkOk a.length a.length 4) <|chk (inK .i64 (32*(a.length:Int))) <|chk (inK .i64 ((32*(a.length:Int))-1)) <|(Zsr big a b [] ((32*(a.length:Int))-1) (List.replicate ((a.length:Int)).toNat (0:Int))).bind fun(d,c)=>ZzN d c
def ZqG (a b:Zgo):Option ZbF:=bif (a.Words.length:Int)==0 then (ZoR 1).bind fun q=>some (ZbF.mk (Zgo.mk false []) q) else (ZuU a.Words b.Words).bind fun g=>(ZuV a.Words g).bind fun(h,f)=>(ZuV b.Words g).bind fun(y,e)=>(ZoX (!(a.Neg==b.Neg)) h).bind fun d=>(ZoX false y).bind fun c=>some (ZbF.mk d c)
def ZuH (b:Bool) (c a:Zgo) (g e:Bool) (f d:Zcy):ZGS:=bif b then some ((ZbF.mk (Zgo.mk false []) (Zgo.mk false [])),1) else bif (a.Words.length:Int)==0 then some ((ZbF.mk (Zgo.mk false []) (Zgo.mk false [])),8) else (ZqG c a).bind fun q=>some (q,0)
def Zxr (a b:Zgo):ZGS:=(Zqc a).bind fun q=>bif !q then ZuH true a b false false [] [] else (Zqc b).bind fun c=>ZuH (!c) a b false false [] []
def Zv4 (c d:Int):ZGS:=(ZoR c).bind fun q=>(ZoR d).bind fun b=>(Zxr q b).bind fun(a,e)=>some (a,e)
def ZAz (n d:Int):Option ZbF:=(Zv4 n d).bind fun(f,q)=>some f
def ZqE (n d:Int):Option ZbF:=ZKg (ZAz n d)
def ZBq (n:Int):Option ZbF:=(ZqE n 1).bind fun q=>some q
def Zpa (n:Int):Option ZbF:=ZKg (ZBq n)
def ZwH:Option Bool:=some true
def ZrA (c:Zcy->Int->Int->Zgo->Zrv) (d:Zcy) (a i:Int) (b:Zgo):Zrv:=bif i<a then (idx d i).bind fun e=>(idx b.Words i).bind fun Word=>bif Word != e then some (.ret false) else chk (inK .i64 (i+1)) <|c d a (i+1) b else some (.brk ())
def ZsO:Nat->Zcy->Int->Int->Zgo->Zrv|0,_,_,_,_=>none|a+1,b,c,d,e=>ZrA (ZsO a) b c d e
def ZAd (n:Nat) (s:(Zcy×Int×Int×Zgo)):Zrv:=ZsO n s.1 s.2.1 s.2.2.1 s.2.2.2
def Zu9 (a:(Zcy×Int×Int×Zgo)->Zrv) (s:(Zcy×Int×Int×Zgo)):Zrv:=ZrA (fun d c i b=>a (d,c,i,b)) s.1 s.2.1 s.2.2.1 s.2.2.2
theorem ZEa (n s):ZAd (n+1) s=Zu9 (ZAd n) s:=rfl
def ZsP (c:Bool) (a b:Zgo):Option Bool:=bif c then some false else (ZsO big a.Words a.Words.length 0 b).bind fun| .ret d=>some d| .brk ()=>ZwH
def ZrS (a b:Zgo):Option Bool:=bif !(a.Neg==b.Neg) then ZsP true a b else ZsP ((a.Words.length:Int)!=(b.Words.length:Int)) a b
def Zuz (a:Bool):Option Bool:=some a
def Zo5 (a b:ZbF):Option Bool:=(ZrS a.Num b.Num).bind fun q=>bif q then (ZrS a.Den b.Den).bind fun c=>Zuz c else Zuz false
def ZpM (t:G_api_Table):Option Int:=bif (t.Columns.length:Int)==0 then some 0 else (idx t.Columns 0).bind fun Column=>some (Column.Cells.length:Int)
def ZpB (a:Bool):Option Bool:=some a
def Ztc:Option Bool:=chk (inR 1 (([(G_api_Column.mk ([99,105,116,121]:Str) ([(G_api_Cell.mk false ([120]:Str))]:Zvr)),(G_api_Column.mk ([110,97,109,101]:Str) ([(G_api_Cell.mk false ([121]:Str))]:Zvr))]:ZkT).length:Int)) <|(([(G_api_Column.mk ([99,105,116,121]:Str) ([(G_api_Cell.mk false ([120]:Str))]:Zvr)),(G_api_Column.mk ([110,97,109,101]:Str) ([(G_api_Cell.mk false ([121]:Str))]:Zvr))]:ZkT)[((1:Int)).toNat]?).bind fun G_api_Column_e=>chk (inR 0 (([(G_api_Column.mk ([99,105,116,121]:Str) ([(G_api_Cell.mk false ([120]:Str))]:Zvr)),(G_api_Column.mk ([110,97,109,101]:Str) ([(G_api_Cell.mk false ([121]:Str))]:Zvr))]:ZkT).length:Int)) <|(([(G_api_Column.mk ([99,105,116,121]:Str) ([(G_api_Cell.mk false ([120]:Str))]:Zvr)),(G_api_Column.mk ([110,97,109,101]:Str) ([(G_api_Cell.mk false ([121]:Str))]:Zvr))]:ZkT)[((0:Int)).toNat]?).bind fun G_api_Column_e_1=>(Zo3 (G_api_Table.mk 1 [] ([(G_api_Column.mk ([99,105,116,121]:Str) ([(G_api_Cell.mk false ([120]:Str))]:Zvr)),(G_api_Column.mk ([110,97,109,101]:Str) ([(G_api_Cell.mk false ([121]:Str))]:Zvr))]:ZkT)) (G_api_Table.mk 2 [] ([G_api_Column_e,G_api_Column_e_1]:ZkT))).bind fun(l,s,e)=>(Zqp (G_api_Table.mk 1 [] ([(G_api_Column.mk ([99,105,116,121]:Str) ([(G_api_Cell.mk false ([120]:Str))]:Zvr)),(G_api_Column.mk ([110,97,109,101]:Str) ([(G_api_Cell.mk false ([121]:Str))]:Zvr))]:ZkT)) (G_api_Table.mk 2 [] ([G_api_Column_e,G_api_Column_e_1]:ZkT)) ([1,0]:Zcy)).bind fun(t,f)=>bif e==0 then bif f==0 then (Zp6 l ([1,0]:Zcy)).bind fun q=>bif q then (Zpa 1).bind fun b=>(Zo5 s b).bind fun a=>bif a then (ZpM t).bind fun c=>ZpB (c==2) else ZpB false else ZpB false else ZpB false else ZpB false
def ZCj (t:Zcy):Option ZbZ:=some (ZbZ.mk t 0)
def Zr0 (n m:Int):Option Int:=bif m<1 then some 0 else chk (m≠0) <|chk (inK .i64 ((Int.tmod n m)+m)) <|chk (m≠0) <|some (Int.tmod ((Int.tmod n m)+m) m)
def Zi5 (d:ZbZ) (n:Int):Option (Int×ZbZ):=bif d.at_>=d.l.length then some (0,d) else chk (inK .i64 (d.at_+1)) <|chk (inK .i64 ((d.at_+1)-1)) <|(idx d.l ((d.at_+1)-1)).bind fun a=>(Zr0 a n).bind fun q=>some (q,(ZbZ.mk d.l (d.at_+1)))
def ZoS (d:ZbZ) (l:Zph):Option (Str×ZbZ):=(Zi5 d l.length).bind fun(q,b)=>(idx l q).bind fun a=>some (a,b)
def Zv5 (d:ZbZ):ZWs:=(Zi5 d 7).bind fun(q,b)=>bif q==1 then some ((G_api_Cell.mk true []),b) else (ZoS b ([[97],[98],[99],[49],[50],[51],[49,48],[120],[45,49,46,53],[50]]:Zph)).bind fun(a,c)=>some ((G_api_Cell.mk false a),c)
def ZBj (n:Int):Option Str:=some (Lib.itoa n)
def Zua (d:ZbZ):ZWs:=(Zi5 d 9).bind fun(q,c)=>bif q==1 then some ((G_api_Cell.mk true []),c) else bif q==2 then (ZoS c ([[120],[],[49,46,50,46,51],[49,46,53,48]]:Zph)).bind fun(b,g)=>some ((G_api_Cell.mk false b),g) else (Zi5 c 12).bind fun(a,e)=>chk (inK .i64 (a-3)) <|(ZBj (a-3)).bind fun f=>some ((G_api_Cell.mk false f),e)
def Zy4 (d:ZbZ) (e c:Str) (b a:Zvr):ZWt:=some ((G_api_Column.mk c a),d)
def ZpI (b:ZWO) (a g i:Int) (d:ZbZ) (j c:Str) (h:G_api_Cell) (e f:Zvr):ZML:=chk (ZjC (f.length+[h].length) 24) <|chk (inK .i64 (i+1)) <|b a g (i+1) d j c e (f++[h])
def ZtB (e:ZWO) (a f i:Int) (d:ZbZ) (j c:Str) (b g:Zvr):ZML:=bif i<f then (Zv5 d).bind fun(o,h)=>bif a==0 then (Zua h).bind fun(k,m)=>ZpI e a f i m j c k b g else bif a==1 then (ZBj i).bind fun q=>chk (([107]:Str).length+q.length<=Zr) <|ZpI e a f i h j c (G_api_Cell.mk false (([107]:Str)++q)) b g else bif a==2 then (ZoS h ([([97]:Str),([98]:Str),([99]:Str),([100]:Str)]:Zph)).bind fun(l,n)=>ZpI e a f i n j c (G_api_Cell.mk false l) b g else ZpI e a f i h j c o b g else some (d,j,c,b,g)
def ZrZ:Nat->Int->Int->Int->ZbZ->Str->Str->Zvr->Zvr->ZML|0,_,_,_,_,_,_,_,_=>none|a+1,b,c,d,e,f,g,h,i=>ZtB (ZrZ a) b c d e f g h i
def ZBU (n:Nat) (s:(Int×Int×Int×ZbZ×Str×Str×Zvr×Zvr)):ZML:=ZrZ n s.1 s.2.1 s.2.2.1 s.2.2.2.1 s.2.2.2.2.1 s.2.2.2.2.2.1 s.2.2.2.2.2.2.1 s.2.2.2.2.2.2.2
def Zxs (b:(Int×Int×Int×ZbZ×Str×Str×Zvr×Zvr)->ZML) (s:(Int×Int×Int×ZbZ×Str×Str×Zvr×Zvr)):ZML:=ZtB (fun a f i d h c e g=>b (a,f,i,d,h,c,e,g)) s.1 s.2.1 s.2.2.1 s.2.2.2.1 s.2.2.2.2.1 s.2.2.2.2.2.1 s.2.2.2.2.2.2.1 s.2.2.2.2.2.2.2
theorem ZFd (n s):ZBU (n+1) s=Zxs (ZBU n) s:=rfl
def Zuc (d:ZbZ) (b:Int):ZWt:=(ZoS d ([[105,100],[110,97,109,101],[85,110,105,116,32,80,114,105,99,101],[99,105,116,121],[117,110,105,116],[112,114,105,99,101],[105,100,50],[]]:Zph)).bind fun(q,e)=>(Zi5 e 5).bind fun(a,c)=>(ZrZ big a b 0 c [] q [] []).bind fun(g,j,f,h,i)=>Zy4 g j f h i
def ZvR (d:ZbZ) (f:Int) (c:Str) (t:Int) (b:Str) (e a:ZkT):ZPE:=some ((G_api_Table.mk t b a),d)
def ZzQ (d:ZbZ) (g:Int) (a:Str) (t:Int) (c:Str) (b f:ZkT):ZPE:=(Zi5 d 15).bind fun(q,e)=>bif q==1 then ZvR e g a t c b [] else ZvR e g a t c b f
def Zye (f:Int->Int->ZbZ->Int->Str->Int->Str->ZkT->ZkT->ZOm) (b k:Int) (d:ZbZ) (i:Int) (a:Str) (t:Int) (g:Str) (c e:ZkT):ZOm:=bif k>0 then (Zuc d b).bind fun(q,h)=>chk (ZjC (e.length+[q].length) 40) <|chk (inK .i64 (k-1)) <|f b (k-1) h i a t g c (e++[q]) else some (d,i,a,t,g,c,e)
def ZvQ:Nat->Int->Int->ZbZ->Int->Str->Int->Str->ZkT->ZkT->ZOm|0,_,_,_,_,_,_,_,_,_=>none|a+1,b,c,d,e,f,g,h,i,j=>Zye (ZvQ a) b c d e f g h i j
def ZCh (n:Nat) (s:(Int×Int×ZbZ×Int×Str×Int×Str×ZkT×ZkT)):ZOm:=ZvQ n s.1 s.2.1 s.2.2.1 s.2.2.2.1 s.2.2.2.2.1 s.2.2.2.2.2.1 s.2.2.2.2.2.2.1 s.2.2.2.2.2.2.2.1 s.2.2.2.2.2.2.2.2
def ZCi (a:(Int×Int×ZbZ×Int×Str×Int×Str×ZkT×ZkT)->ZOm) (s:(Int×Int×ZbZ×Int×Str×Int×Str×ZkT×ZkT)):ZOm:=Zye (fun c k d h b t g e f=>a (c,k,d,h,b,t,g,e,f)) s.1 s.2.1 s.2.2.1 s.2.2.2.1 s.2.2.2.2.1 s.2.2.2.2.2.1 s.2.2.2.2.2.2.1 s.2.2.2.2.2.2.2.1 s.2.2.2.2.2.2.2.2
theorem ZFF (n s):ZCh (n+1) s=ZCi (ZCh n) s:=rfl
def Zsd (d:ZbZ) (n:Int):ZPE:=(ZoS d ([[116],[111,114,100,101,114,115],[]]:Zph)).bind fun(q,f)=>(Zi5 f 7).bind fun(b,c)=>(Zi5 c 3).bind fun(a,e)=>chk (inK .i64 (1+a)) <|(ZvQ big b (1+a) e 0 [] n q [] []).bind fun(i,m,g,j,k,l,h)=>ZzQ i m g j k l h
def ZuZ (d:ZbZ) (e a:Int) (c:Str) (b:Zcy):ZOf:=some ((Zlj.mk e a c b),d)
def ZqO (d:ZbZ) (h f:Int) (g:Str) (o c:Int) (a:Str) (e b:Zcy):ZOf:=ZuZ d o c a b
def ZBv (d:ZbZ) (h f:Int) (g:Str) (o c:Int) (a:Str) (e b:Zcy):ZOf:=ZuZ d o c a b
def ZyH (f:ZWX) (n k:Int) (i:Bool) (d:ZbZ) (l b:Int) (c:Str) (o h:Int) (g:Str) (a e:Zcy):ZMT:=bif i then (Zi5 d n).bind fun(q,j)=>chk (ZjC (e.length+[q].length) 8) <|chk (inK .i64 (k-1)) <|f n (k-1) j l b c o h g a (e++[q]) else some (d,l,b,c,o,h,g,a,e)
def ZAi (b:ZWX) (n k:Int) (d:ZbZ) (i c:Int) (e:Str) (o h:Int) (f:Str) (a g:Zcy):ZMT:=bif k>0 then ZyH b n k (n>0) d i c e o h f a g else ZyH b n k false d i c e o h f a g
def ZuY:Nat->Int->Int->ZbZ->Int->Int->Str->Int->Int->Str->Zcy->Zcy->ZMT|0,_,_,_,_,_,_,_,_,_,_,_=>none|a+1,b,c,d,e,f,g,h,i,j,k,l=>ZAi (ZuY a) b c d e f g h i j k l
def ZDy (n:Nat) (s:(Int×Int×ZbZ×Int×Int×Str×Int×Int×Str×Zcy×Zcy)):ZMT:=ZuY n s.1 s.2.1 s.2.2.1 s.2.2.2.1 s.2.2.2.2.1 s.2.2.2.2.2.1 s.2.2.2.2.2.2.1 s.2.2.2.2.2.2.2.1 s.2.2.2.2.2.2.2.2.1 s.2.2.2.2.2.2.2.2.2.1 s.2.2.2.2.2.2.2.2.2.2
def ZDz (b:(Int×Int×ZbZ×Int×Int×Str×Int×Int×Str×Zcy×Zcy)->ZMT) (s:(Int×Int×ZbZ×Int×Int×Str×Int×Int×Str×Zcy×Zcy)):ZMT:=ZAi (fun n k d i c e o h f a g=>b (n,k,d,i,c,e,o,h,f,a,g)) s.1 s.2.1 s.2.2.1 s.2.2.2.1 s.2.2.2.2.1 s.2.2.2.2.2.1 s.2.2.2.2.2.2.1 s.2.2.2.2.2.2.2.1 s.2.2.2.2.2.2.2.2.1 s.2.2.2.2.2.2.2.2.2.1 s.2.2.2.2.2.2.2.2.2.2
theorem ZGo (n s):ZDy (n+1) s=ZDz (ZDy n) s:=rfl
def Zu0 (n k:Int) (j:Bool) (d:ZbZ) (i c:Int) (a:Str) (o h:Int) (e:Str) (b f:Zcy):ZOf:=bif j then (Zi5 d n).bind fun(q,l)=>ZqO l i c a o q e b f else bif k==3 then (Zi5 d 3).bind fun(g,m)=>chk (inK .i64 (1+g)) <|(ZuY big n (1+g) m i c a o h e b f).bind fun(s,u,p,t,r,x,v,w,y)=>ZBv s u p t r x v w y else ZqO d i c a o h e b f
def ZqP (h:Bool) (d:ZbZ) (t:G_api_Table) (j c:Int) (e:Str) (o a:Int) (g:Str) (b f:Zcy):ZOf:=bif h then (idx t.Columns a).bind fun Column=>(idx t.Columns a).bind fun Column_1=>(Zi5 d Column_1.Cells.length).bind fun(q,i)=>(idx Column.Cells q).bind fun Cell=>ZqO i j c e o a Cell.Text b f else ZqO d j c e o a g b f
def Zyf (d:ZbZ) (t:G_api_Table):ZOf:=(Zi5 d 5).bind fun(q,e)=>chk (inK .i64 (1+q)) <|bif (1+q)==1 then (Zi5 e t.Columns.length).bind fun(a,g)=>(ZoS g ([([97]:Str),([98]:Str),([49]:Str),([50]:Str),([107,48]:Str),([]:Str)]:Zph)).bind fun(b,c)=>bif (t.Columns.length:Int)>0 then (idx t.Columns a).bind fun Column=>bif (Column.Cells.length:Int)>0 then (Zi5 c 3).bind fun(f,h)=>ZqP (f>0) h t 0 0 [] (1+q) a b [] [] else ZqP false c t 0 0 [] (1+q) a b [] [] else ZqP false c t 0 0 [] (1+q) a b [] [] else bif (1+q)==2 then Zu0 t.Columns.length (1+q) ((1+q)==2) e 0 0 [] (1+q) 0 [] [] [] else Zu0 t.Columns.length (1+q) ((1+q)==5) e 0 0 [] (1+q) 0 [] [] []
def Zs9 (s:Str):Option Bool:=(ZpG s).bind fun q=>some q
def ZuC (a:Bool):Option Bool:=some a
def ZtU (s:Str):Option Bool:=(Zs9 s).bind fun q=>bif q then ZuC ((s.length:Int)<=1024) else ZuC false
def Zpw (a:Bool):Option Bool:=some a
def Ztu (c:G_api_Cell):Option Bool:=(Zs9 c.Text).bind fun q=>bif q then bif (c.Text.length:Int)<=1024 then bif !c.Null then Zpw true else Zpw (c.Text==([]:Str)) else Zpw false else Zpw false
def ZxZ:Option Bool:=some true
def Zx0 (b:ZTB) (d:ZkT) (c a:Int) (t:G_api_Table):Zrv:=chk (inK .i64 (a+1)) <|b d c (a+1) t
def ZwI (c:ZkT->Int->Int->Zvr->Int->Int->G_api_Table->ZTy) (f:ZkT) (e d:Int) (b:Zvr) (g a:Int) (t:G_api_Table):ZTy:=bif a<g then (idx b a).bind fun h=>(Ztu h).bind fun q=>bif !q then some (.ret false) else chk (inK .i64 (a+1)) <|c f e d b g (a+1) t else some (.brk (f,e,d,t))
def Zrk:Nat->ZkT->Int->Int->Zvr->Int->Int->G_api_Table->ZTy|0,_,_,_,_,_,_,_=>none|a+1,b,c,d,e,f,g,h=>ZwI (Zrk a) b c d e f g h
def Zp9 (a:ZTB) (f:ZkT) (d b:Int) (e:Bool) (t:G_api_Table) (c:G_api_Column):Zrv:=bif e then some (.ret false) else (Zrk big f d b c.Cells c.Cells.length 0 t).bind fun| .ret g=>some (.ret g)| .brk (x0,x1,x2,x3)=>Zx0 a x0 x1 x2 x3
def ZwJ (b:ZTB) (e:ZkT) (d a:Int) (t:G_api_Table):Zrv:=bif a<d then (idx e a).bind fun c=>(ZtU c.Name).bind fun q=>bif !q then Zp9 b e d a true t c else bif (c.Cells.length:Int)>4096 then Zp9 b e d a true t c else (idx t.Columns 0).bind fun Column=>Zp9 b e d a ((c.Cells.length:Int)!=(Column.Cells.length:Int)) t c else some (.brk ())
def Zpe:Nat->ZkT->Int->Int->G_api_Table->Zrv|0,_,_,_,_=>none|a+1,b,c,d,e=>ZwJ (Zpe a) b c d e
def Zqa (a:Bool) (t:G_api_Table):Option Bool:=bif a then some false else (Zpe big t.Columns t.Columns.length 0 t).bind fun| .ret b=>some b| .brk ()=>ZxZ
def Znd (t:G_api_Table):Option Bool:=bif t.ID<0 then Zqa true t else bif t.ID>1073741824 then Zqa true t else (ZtU t.Name).bind fun q=>bif !q then Zqa true t else Zqa ((t.Columns.length:Int)>64) t
def ZqD (a:Bool):Option Bool:=some a
def Zsg (a:Bool):Option Bool:=some a
def Zzv (o:Zlj):Option Bool:=bif o.Column==0 then bif o.Text==([]:Str) then Zsg ((o.Columns.length:Int)<=64) else Zsg false else Zsg false
def Zsh (a:Bool):Option Bool:=some a
def Zvs (a:ZWG) (d:Zcy) (e b:Int) (c:Bool) (t:G_api_Table) (o:Zlj):ZMF:=bif c then some (.ret false) else chk (inK .i64 (b+1)) <|a d e (b+1) t o
def ZtE (b:ZWG) (c:Zcy) (d a:Int) (t:G_api_Table) (o:Zlj):ZMF:=bif a<d then (idx c a).bind fun k=>bif k<0 then Zvs b c d a true t o else Zvs b c d a (k>=t.Columns.length) t o else some (.brk o)
def Zsf:Nat->Zcy->Int->Int->G_api_Table->Zlj->ZMF|0,_,_,_,_,_=>none|a+1,b,c,d,e,f=>ZtE (Zsf a) b c d e f
def ZB3 (n:Nat) (s:(Zcy×Int×Int×G_api_Table×Zlj)):ZMF:=Zsf n s.1 s.2.1 s.2.2.1 s.2.2.2.1 s.2.2.2.2
def ZxL (a:(Zcy×Int×Int×G_api_Table×Zlj)->ZMF) (s:(Zcy×Int×Int×G_api_Table×Zlj)):ZMF:=ZtE (fun b c d t o=>a (b,c,d,t,o)) s.1 s.2.1 s.2.2.1 s.2.2.2.1 s.2.2.2.2
theorem ZFs (n s):ZB3 (n+1) s=ZxL (ZB3 n) s:=rfl
def Zsi (a:Bool) (c:Int) (b:Bool) (t:G_api_Table) (o:Zlj):Option Bool:=bif b then bif a then bif (o.Columns.length:Int)==0 then Zsh (o.Text==([]:Str)) else Zsh false else Zsh false else bif c==3 then (Zsf big o.Columns o.Columns.length 0 t o).bind fun| .ret e=>some e| .brk d=>Zzv d else bif o.Kind==4 then bif o.Column==0 then bif o.Text==([]:Str) then ZqD ((o.Columns.length:Int)==0) else ZqD false else ZqD false else ZqD false
def Zsj (a:Bool):Option Bool:=some a
def Zsk (a:Bool) (t:G_api_Table) (o:Zlj):Option Bool:=bif o.Kind==1 then bif a then bif (o.Columns.length:Int)==0 then Zsj ((o.Text.length:Int)<=1024) else Zsj false else Zsj false else bif o.Kind==2 then Zsi a o.Kind (o.Kind==2) t o else Zsi a o.Kind (o.Kind==5) t o
def Zyx (t:G_api_Table) (o:Zlj):Option Bool:=bif o.Column>=0 then Zsk (o.Column<t.Columns.length) t o else Zsk false t o
def ZwK (a:Zcy) (g:Int) (e:Str) (d:Int) (c:Str) (f b:ZkT):ZHi:=bif (a.length:Int)>64 then some ((G_api_Table.mk 0 [] []),3) else some ((G_api_Table.mk d c b),0)
def ZsQ (d:ZWU) (b:Zcy) (k:Int) (i:Zcy) (l g:Int) (j:Bool) (t:G_api_Table) (m:Int) (e:Str) (h:Int) (c:Str) (f a:ZkT):ZMS:=bif j then some (.ret ((G_api_Table.mk 0 [] []),2)) else (idx t.Columns k).bind fun Column=>chk (ZjC (a.length+[Column].length) 40) <|chk (inK .i64 (g+1)) <|d b i l (g+1) t m e h c f (a++[Column])
def ZrG (g:ZWU) (a i:Zcy) (j f:Int) (t:G_api_Table) (l:Int) (d:Str) (h:Int) (c:Str) (e b:ZkT):ZMS:=bif f<j then (idx i f).bind fun k=>bif k<0 then ZsQ g a k i j f true t l d h c e b else ZsQ g a k i j f (k>=t.Columns.length) t l d h c e b else some (.brk (a,l,d,h,c,e,b))
def Zqz:Nat->Zcy->Zcy->Int->Int->G_api_Table->Int->Str->Int->Str->ZkT->ZkT->ZMS|0,_,_,_,_,_,_,_,_,_,_,_=>none|a+1,b,c,d,e,f,g,h,i,j,k,l=>ZrG (Zqz a) b c d e f g h i j k l
def ZAe (n:Nat) (s:(Zcy×Zcy×Int×Int×G_api_Table×Int×Str×Int×Str×ZkT×ZkT)):ZMS:=Zqz n s.1 s.2.1 s.2.2.1 s.2.2.2.1 s.2.2.2.2.1 s.2.2.2.2.2.1 s.2.2.2.2.2.2.1 s.2.2.2.2.2.2.2.1 s.2.2.2.2.2.2.2.2.1 s.2.2.2.2.2.2.2.2.2.1 s.2.2.2.2.2.2.2.2.2.2
def Zvd (d:(Zcy×Zcy×Int×Int×G_api_Table×Int×Str×Int×Str×ZkT×ZkT)->ZMS) (s:(Zcy×Zcy×Int×Int×G_api_Table×Int×Str×Int×Str×ZkT×ZkT)):ZMS:=ZrG (fun a j i g t k e h c f b=>d (a,j,i,g,t,k,e,h,c,f,b)) s.1 s.2.1 s.2.2.1 s.2.2.2.1 s.2.2.2.2.1 s.2.2.2.2.2.1 s.2.2.2.2.2.2.1 s.2.2.2.2.2.2.2.1 s.2.2.2.2.2.2.2.2.1 s.2.2.2.2.2.2.2.2.2.1 s.2.2.2.2.2.2.2.2.2.2
theorem ZEb (n s):ZAe (n+1) s=Zvd (ZAe n) s:=rfl
def ZuE (t:G_api_Table) (a:Zcy):ZHi:=(Znd t).bind fun q=>bif !q then some ((G_api_Table.mk 0 [] []),1) else (Zqz big a a a.length 0 t 0 [] t.ID t.Name [] []).bind fun| .ret b=>some b| .brk (x0,x1,x2,x3,x4,x5,x6)=>ZwK x0 x1 x2 x3 x4 x5 x6
def ZxK:Option Bool:=some true
def ZsA (b:Int->Int->ZkT->Int->Int->Zrv) (f y:Int) (e:ZkT) (d a:Int):Zrv:=bif a<d then (idx e a).bind fun c=>(idx c.Cells f).bind fun Cell=>(idx c.Cells y).bind fun Cell_1=>bif !(Cell.Null==Cell_1.Null&&(Cell.Text==Cell_1.Text&&true)) then some (.ret false) else chk (inK .i64 (a+1)) <|b f y e d (a+1) else some (.brk ())
def ZtD:Nat->Int->Int->ZkT->Int->Int->Zrv|0,_,_,_,_,_=>none|a+1,b,c,d,e,f=>ZsA (ZtD a) b c d e f
def ZAT (n:Nat) (s:(Int×Int×ZkT×Int×Int)):Zrv:=ZtD n s.1 s.2.1 s.2.2.1 s.2.2.2.1 s.2.2.2.2
def Zwr (a:(Int×Int×ZkT×Int×Int)->Zrv) (s:(Int×Int×ZkT×Int×Int)):Zrv:=ZsA (fun e y d c b=>a (e,y,d,c,b)) s.1 s.2.1 s.2.2.1 s.2.2.2.1 s.2.2.2.2
theorem ZEB (n s):ZAT (n+1) s=Zwr (ZAT n) s:=rfl
def Zwe (t:G_api_Table) (b y:Int):Option Bool:=(ZtD big b y t.Columns t.Columns.length 0).bind fun| .ret a=>some a| .brk ()=>ZxK
def ZqB (c:Bool) (a b:G_api_Cell):Option Int:=bif c then some 0 else bif a.Null then some (-1) else bif b.Null then some 1 else bif Op.bytesLess a.Text b.Text then some (-1) else bif !((Op.bytesLess a.Text b.Text)||a.Text==b.Text) then some 1 else some 0
def ZrH (a b:G_api_Cell):Option Int:=bif a.Null then ZqB b.Null a b else ZqB false a b
def ZyO (a:Zcy):Option Zcy:=some a
def Zuv (a:ZOq) (b d:Int) (t:G_api_Table) (o:Zlj) (c:Zcy):Option Zcy:=chk (inK .i64 (d+1)) <|a b (d+1) t o c
def Zql (d:ZOq) (g b e c:Int) (f:Bool) (t:G_api_Table) (o:Zlj) (a:Zcy):Option Zcy:=bif f then chk (Zcp 0 b a.length) <|chk (ZjC ((a.drop 0).take ((b).toNat-0)).length 8) <|chk (ZjC (((a.drop 0).take ((b).toNat-0)).length+([g]:Zcy).length) 8) <|chk (Zcp b a.length a.length) <|chk (ZjC ((((a.drop 0).take ((b).toNat-0))++([g]:Zcy)).length+((a.drop ((b).toNat)).take ((a.length:Int).toNat-(b).toNat)).length) 8) <|Zuv d e c t o ((((a.drop 0).take ((b).toNat-0))++([g]:Zcy))++((a.drop ((b).toNat)).take ((a.length:Int).toNat-(b).toNat))) else Zuv d e c t o a
def Zqm (b:ZOq) (g f:Int) (c:Bool) (e a:Int) (t:G_api_Table) (o:Zlj) (d:Zcy):Option Zcy:=Zql b g f e a c t o d
def ZyP (b:ZOq) (g f:Int) (c:Bool) (e a:Int) (t:G_api_Table) (o:Zlj) (d:Zcy):Option Zcy:=Zql b g f e a c t o d
def ZyQ (b:ZOq) (g f:Int) (c:Bool) (e a:Int) (t:G_api_Table) (o:Zlj) (d:Zcy):Option Zcy:=Zql b g f e a c t o d
def Zux (b:ZWS) (i h:Int) (c:Bool) (f a g d:Int) (t:G_api_Table) (o:Zlj) (e:Zcy):ZIE:=chk (inK .i64 (d+1)) <|b i h c f a g (d+1) t o e
def Ztj (d:ZWS) (i h:Int) (e:Bool) (f a g c:Int) (t:G_api_Table) (o:Zlj) (b:Zcy):ZIE:=bif c<g then chk (inR c b.length) <|(b[(c).toNat]?).bind fun j=>bif e then (Zwe t j i).bind fun q=>Zux d i h (!q) f a g c t o b else Zux d i h false f a g c t o b else some (i,h,e,f,a,t,o,b)
def ZrO:Nat->Int->Int->Bool->Int->Int->Int->Int->G_api_Table->Zlj->Zcy->ZIE|0,_,_,_,_,_,_,_,_,_,_=>none|a+1,b,c,d,e,f,g,h,i,j,k=>Ztj (ZrO a) b c d e f g h i j k
def ZBI (n:Nat) (s:(Int×Int×Bool×Int×Int×Int×Int×G_api_Table×Zlj×Zcy)):ZIE:=ZrO n s.1 s.2.1 s.2.2.1 s.2.2.2.1 s.2.2.2.2.1 s.2.2.2.2.2.1 s.2.2.2.2.2.2.1 s.2.2.2.2.2.2.2.1 s.2.2.2.2.2.2.2.2.1 s.2.2.2.2.2.2.2.2.2
def Zw5 (b:(Int×Int×Bool×Int×Int×Int×Int×G_api_Table×Zlj×Zcy)->ZIE) (s:(Int×Int×Bool×Int×Int×Int×Int×G_api_Table×Zlj×Zcy)):ZIE:=Ztj (fun i h c e a g f t o d=>b (i,h,c,e,a,g,f,t,o,d)) s.1 s.2.1 s.2.2.1 s.2.2.2.1 s.2.2.2.2.1 s.2.2.2.2.2.1 s.2.2.2.2.2.2.1 s.2.2.2.2.2.2.2.1 s.2.2.2.2.2.2.2.2.1 s.2.2.2.2.2.2.2.2.2
theorem ZE6 (n s):ZBI (n+1) s=Zw5 (ZBI n) s:=rfl
def Zuw (d:ZWQ) (h c:Int) (b:Bool) (l:Zvr) (g a:Int) (e:Bool) (t:G_api_Table) (o:Zlj) (f:Zcy):ZIE:=bif e then chk (inK .i64 (c-1)) <|d h (c-1) b l g a t o f else some (h,c,b,g,a,t,o,f)
def Zw4 (d:ZWQ) (i a:Int) (e:Bool) (l:Zvr) (h c:Int) (t:G_api_Table) (o:Zlj) (b:Zcy):ZIE:=bif a>0 then chk (inK .i64 (a-1)) <|chk (inR (a-1) b.length) <|(b[((a-1)).toNat]?).bind fun f=>(idx l f).bind fun j=>(idx l i).bind fun g=>(ZrH j g).bind fun q=>Zuw d i a e l h c (q>0) t o b else Zuw d i a e l h c false t o b
def ZrN:Nat->Int->Int->Bool->Zvr->Int->Int->G_api_Table->Zlj->Zcy->ZIE|0,_,_,_,_,_,_,_,_,_=>none|a+1,b,c,d,e,f,g,h,i,j=>Zw4 (ZrN a) b c d e f g h i j
def ZBG (n:Nat) (s:(Int×Int×Bool×Zvr×Int×Int×G_api_Table×Zlj×Zcy)):ZIE:=ZrN n s.1 s.2.1 s.2.2.1 s.2.2.2.1 s.2.2.2.2.1 s.2.2.2.2.2.1 s.2.2.2.2.2.2.1 s.2.2.2.2.2.2.2.1 s.2.2.2.2.2.2.2.2
def ZBH (b:(Int×Int×Bool×Zvr×Int×Int×G_api_Table×Zlj×Zcy)->ZIE) (s:(Int×Int×Bool×Zvr×Int×Int×G_api_Table×Zlj×Zcy)):ZIE:=Zw4 (fun g f c l e a t o d=>b (g,f,c,l,e,a,t,o,d)) s.1 s.2.1 s.2.2.1 s.2.2.2.1 s.2.2.2.2.1 s.2.2.2.2.2.1 s.2.2.2.2.2.2.1 s.2.2.2.2.2.2.2.1 s.2.2.2.2.2.2.2.2
theorem ZE5 (n s):ZBG (n+1) s=ZBH (ZBG n) s:=rfl
def Ztk (b:ZOq) (e d:Int) (t:G_api_Table) (o:Zlj) (a:Zcy):Option Zcy:=bif d<e then bif o.Kind==1 then (idx t.Columns o.Column).bind fun Column=>(idx Column.Cells d).bind fun c=>bif !c.Null then Zqm b d a.length (c.Text==o.Text) e d t o a else Zqm b d a.length false e d t o a else bif o.Kind==2 then (idx t.Columns o.Column).bind fun Column_1=>(idx Column_1.Cells d).bind fun Cell=>Zqm b d a.length (!Cell.Null) e d t o a else bif o.Kind==4 then (ZrO big d a.length true e d a.length 0 t o a).bind fun(h,m,f,i,k,l,g,j)=>ZyQ b h m f i k l g j else bif o.Kind==5 then (idx t.Columns o.Column).bind fun Column_2=>(ZrN big d a.length true Column_2.Cells e d t o a).bind fun(h,m,f,i,k,l,g,j)=>ZyP b h m f i k l g j else Zqm b d a.length true e d t o a else some a
def Zpb:Nat->Int->Int->G_api_Table->Zlj->Zcy->Option Zcy|0,_,_,_,_,_=>none|a+1,b,c,d,e,f=>Ztk (Zpb a) b c d e f
def ZBJ (n:Nat) (s:(Int×Int×G_api_Table×Zlj×Zcy)):Option Zcy:=Zpb n s.1 s.2.1 s.2.2.1 s.2.2.2.1 s.2.2.2.2
def Zw6 (a:(Int×Int×G_api_Table×Zlj×Zcy)->Option Zcy) (s:(Int×Int×G_api_Table×Zlj×Zcy)):Option Zcy:=Ztk (fun b d t o c=>a (b,d,t,o,c)) s.1 s.2.1 s.2.2.1 s.2.2.2.1 s.2.2.2.2
theorem ZE7 (n s):ZBJ (n+1) s=Zw6 (ZBJ n) s:=rfl
def Zw7 (t:G_api_Table) (o:Zlj):Option Zcy:=(ZpM t).bind fun q=>(Zpb big q 0 t o []).bind fun a=>ZyO a
def Zxj (f:Int) (d:Str) (c:Int) (b:Str) (e a:ZkT):ZHi:=some ((G_api_Table.mk c b a),0)
def Zxk (d:ZWM) (g:Zcy) (k:ZkT) (j e m:Int) (f:Str) (i:Int) (c l:Str) (h a:ZkT) (b:Zvr):ZGT:=chk (ZjC (a.length+[(G_api_Column.mk l b)].length) 40) <|chk (inK .i64 (e+1)) <|d g k j (e+1) m f i c h (a++[(G_api_Column.mk l b)])
def Zr4 (i:Zcy->ZkT->Int->Int->Zcy->Int->Int->Int->Str->Int->Str->G_api_Column->Str->ZkT->ZkT->Zvr->ZOp) (g:Zcy) (o:ZkT) (n j:Int) (m:Zcy) (p e q:Int) (f:Str) (l:Int) (d:Str) (c:G_api_Column) (r:Str) (h a:ZkT) (b:Zvr):ZOp:=bif e<p then (idx m e).bind fun k=>(idx c.Cells k).bind fun Cell=>chk (ZjC (b.length+[Cell].length) 24) <|chk (inK .i64 (e+1)) <|i g o n j m p (e+1) q f l d c r h a (b++[Cell]) else some (g,o,n,j,q,f,l,d,r,h,a,b)
def Ztv:Nat->Zcy->ZkT->Int->Int->Zcy->Int->Int->Int->Str->Int->Str->G_api_Column->Str->ZkT->ZkT->Zvr->ZOp|0,_,_,_,_,_,_,_,_,_,_,_,_,_,_,_,_=>none|a+1,b,c,d,e,f,g,h,i,j,k,l,m,n,o,p,q=>Zr4 (Ztv a) b c d e f g h i j k l m n o p q
def ZAv (n:Nat) (s:(Zcy×ZkT×Int×Int×Zcy×Int×Int×Int×Str×Int×Str×G_api_Column×Str×ZkT×ZkT×Zvr)):ZOp:=Ztv n s.1 s.2.1 s.2.2.1 s.2.2.2.1 s.2.2.2.2.1 s.2.2.2.2.2.1 s.2.2.2.2.2.2.1 s.2.2.2.2.2.2.2.1 s.2.2.2.2.2.2.2.2.1 s.2.2.2.2.2.2.2.2.2.1 s.2.2.2.2.2.2.2.2.2.2.1 s.2.2.2.2.2.2.2.2.2.2.2.1 s.2.2.2.2.2.2.2.2.2.2.2.2.1 s.2.2.2.2.2.2.2.2.2.2.2.2.2.1 s.2.2.2.2.2.2.2.2.2.2.2.2.2.2.1 s.2.2.2.2.2.2.2.2.2.2.2.2.2.2.2
def Zv1 (d:(Zcy×ZkT×Int×Int×Zcy×Int×Int×Int×Str×Int×Str×G_api_Column×Str×ZkT×ZkT×Zvr)->ZOp) (s:(Zcy×ZkT×Int×Int×Zcy×Int×Int×Int×Str×Int×Str×G_api_Column×Str×ZkT×ZkT×Zvr)):ZOp:=Zr4 (fun f m l i k o n p e j b c q h a g=>d (f,m,l,i,k,o,n,p,e,j,b,c,q,h,a,g)) s.1 s.2.1 s.2.2.1 s.2.2.2.1 s.2.2.2.2.1 s.2.2.2.2.2.1 s.2.2.2.2.2.2.1 s.2.2.2.2.2.2.2.1 s.2.2.2.2.2.2.2.2.1 s.2.2.2.2.2.2.2.2.2.1 s.2.2.2.2.2.2.2.2.2.2.1 s.2.2.2.2.2.2.2.2.2.2.2.1 s.2.2.2.2.2.2.2.2.2.2.2.2.1 s.2.2.2.2.2.2.2.2.2.2.2.2.2.1 s.2.2.2.2.2.2.2.2.2.2.2.2.2.2.1 s.2.2.2.2.2.2.2.2.2.2.2.2.2.2.2
theorem ZEl (n s):ZAv (n+1) s=Zv1 (ZAv n) s:=rfl
def Zr5 (h:ZWM) (d:Zcy) (j:ZkT) (i g n:Int) (f:Str) (k:Int) (a:Str) (e b:ZkT):ZGT:=bif g<i then (idx j g).bind fun c=>(Ztv big d j i g d d.length 0 n f k a c c.Name e b []).bind fun(q,s,o,r,p,w,u,v,x,t,m,l)=>Zxk h q s o r p w u v x t m l else some (n,f,k,a,e,b)
def ZqU:Nat->Zcy->ZkT->Int->Int->Int->Str->Int->Str->ZkT->ZkT->ZGT|0,_,_,_,_,_,_,_,_,_,_=>none|a+1,b,c,d,e,f,g,h,i,j,k=>Zr5 (ZqU a) b c d e f g h i j k
def ZAw (n:Nat) (s:(Zcy×ZkT×Int×Int×Int×Str×Int×Str×ZkT×ZkT)):ZGT:=ZqU n s.1 s.2.1 s.2.2.1 s.2.2.2.1 s.2.2.2.2.1 s.2.2.2.2.2.1 s.2.2.2.2.2.2.1 s.2.2.2.2.2.2.2.1 s.2.2.2.2.2.2.2.2.1 s.2.2.2.2.2.2.2.2.2
def Zv2 (c:(Zcy×ZkT×Int×Int×Int×Str×Int×Str×ZkT×ZkT)->ZGT) (s:(Zcy×ZkT×Int×Int×Int×Str×Int×Str×ZkT×ZkT)):ZGT:=Zr5 (fun e j i g k d h b f a=>c (e,j,i,g,k,d,h,b,f,a)) s.1 s.2.1 s.2.2.1 s.2.2.2.1 s.2.2.2.2.1 s.2.2.2.2.2.1 s.2.2.2.2.2.2.1 s.2.2.2.2.2.2.2.1 s.2.2.2.2.2.2.2.2.1 s.2.2.2.2.2.2.2.2.2
theorem ZEm (n s):ZAw (n+1) s=Zv2 (ZAw n) s:=rfl
def Zxl (a:Zcy) (t:G_api_Table) (f:Int) (b:Str) (c:ZkT):ZHi:=bif (a.length:Int)>4096 then some ((G_api_Table.mk 0 [] []),3) else (ZqU big a t.Columns t.Columns.length 0 f b t.ID t.Name c []).bind fun(e,j,d,g,h,i)=>Zxj e j d g h i
def Ztw (a:ZWK) (d f:Zcy) (h e:Int) (g:Bool) (t:G_api_Table) (i:Int) (b:Str) (c:ZkT):ZMQ:=bif g then some (.ret ((G_api_Table.mk 0 [] []),2)) else chk (inK .i64 (e+1)) <|a d f h (e+1) t i b c
def Zr6 (e:ZWK) (c f:Zcy) (g d:Int) (t:G_api_Table) (h:Int) (a:Str) (b:ZkT):ZMQ:=bif d<g then (idx f d).bind fun k=>bif k<0 then Ztw e c f g d true t h a b else (ZpM t).bind fun q=>Ztw e c f g d (k>=q) t h a b else some (.brk (c,t,h,a,b))
def ZqV:Nat->Zcy->Zcy->Int->Int->G_api_Table->Int->Str->ZkT->ZMQ|0,_,_,_,_,_,_,_,_=>none|a+1,b,c,d,e,f,g,h,i=>Zr6 (ZqV a) b c d e f g h i
def ZAx (n:Nat) (s:(Zcy×Zcy×Int×Int×G_api_Table×Int×Str×ZkT)):ZMQ:=ZqV n s.1 s.2.1 s.2.2.1 s.2.2.2.1 s.2.2.2.2.1 s.2.2.2.2.2.1 s.2.2.2.2.2.2.1 s.2.2.2.2.2.2.2
def Zv3 (a:(Zcy×Zcy×Int×Int×G_api_Table×Int×Str×ZkT)->ZMQ) (s:(Zcy×Zcy×Int×Int×G_api_Table×Int×Str×ZkT)):ZMQ:=Zr6 (fun d g f e t h b c=>a (d,g,f,e,t,h,b,c)) s.1 s.2.1 s.2.2.1 s.2.2.2.1 s.2.2.2.2.1 s.2.2.2.2.2.1 s.2.2.2.2.2.2.1 s.2.2.2.2.2.2.2
theorem ZEn (n s):ZAx (n+1) s=Zv3 (ZAx n) s:=rfl
def ZvD (t:G_api_Table) (a:Zcy):ZHi:=(Znd t).bind fun q=>bif !q then some ((G_api_Table.mk 0 [] []),1) else (ZqV big a a a.length 0 t 0 [] []).bind fun| .ret b=>some b| .brk (x0,x1,x2,x3,x4)=>Zxl x0 x1 x2 x3 x4
def Zzc (t:G_api_Table) (o:Zlj):Option G_api_Table:=bif o.Kind==3 then (ZuE t o.Columns).bind fun(d,q)=>some d else (Zw7 t o).bind fun b=>(ZvD t b).bind fun(a,c)=>some a
def ZyR (f:Int) (e:Str) (c:Int) (b:Str) (d a:ZkT):Option G_api_Table:=some (G_api_Table.mk c b a)
def Ztl (h:ZkT->Int->Int->Int->Str->Int->Str->ZkT->ZkT->ZGT) (i:ZkT) (g d k:Int) (f:Str) (j:Int) (b:Str) (e a:ZkT):ZGT:=bif d<g then (idx i d).bind fun c=>chk (ZjC c.Cells.length 24) <|chk (ZjC (a.length+[c].length) 40) <|chk (inK .i64 (d+1)) <|h i g (d+1) k f j b e (a++[c]) else some (k,f,j,b,e,a)
def Zuy:Nat->ZkT->Int->Int->Int->Str->Int->Str->ZkT->ZkT->ZGT|0,_,_,_,_,_,_,_,_,_=>none|a+1,b,c,d,e,f,g,h,i,j=>Ztl (Zuy a) b c d e f g h i j
def ZBK (n:Nat) (s:(ZkT×Int×Int×Int×Str×Int×Str×ZkT×ZkT)):ZGT:=Zuy n s.1 s.2.1 s.2.2.1 s.2.2.2.1 s.2.2.2.2.1 s.2.2.2.2.2.1 s.2.2.2.2.2.2.1 s.2.2.2.2.2.2.2.1 s.2.2.2.2.2.2.2.2
def Zw8 (c:(ZkT×Int×Int×Int×Str×Int×Str×ZkT×ZkT)->ZGT) (s:(ZkT×Int×Int×Int×Str×Int×Str×ZkT×ZkT)):ZGT:=Ztl (fun g f i j e h b d a=>c (g,f,i,j,e,h,b,d,a)) s.1 s.2.1 s.2.2.1 s.2.2.2.1 s.2.2.2.2.1 s.2.2.2.2.2.1 s.2.2.2.2.2.2.1 s.2.2.2.2.2.2.2.1 s.2.2.2.2.2.2.2.2
theorem ZE8 (n s):ZBK (n+1) s=Zw8 (ZBK n) s:=rfl
def ZtG (t:G_api_Table):Option G_api_Table:=(Zuy big t.Columns t.Columns.length 0 0 [] t.ID t.Name [] []).bind fun(b,f,a,c,d,e)=>ZyR b f a c d e
def Zzw (t:G_api_Table) (c:Int) (a:Str) (b:ZkT):ZHi:=(ZtG t).bind fun q=>some (q,0)
def ZtF (d:(List Zlj)->Int->Int->G_api_Table->Int->Str->ZkT->ZOl) (f:List Zlj) (e a:Int) (t:G_api_Table) (h:Int) (b:Str) (c:ZkT):ZOl:=bif a<e then (idx f a).bind fun o=>(Zyx t o).bind fun q=>bif !q then some (.ret ((G_api_Table.mk 0 [] []),24)) else (Zzc t o).bind fun g=>chk (inK .i64 (a+1)) <|d f e (a+1) g h b c else some (.brk (t,h,b,c))
def Zvt:Nat->(List Zlj)->Int->Int->G_api_Table->Int->Str->ZkT->ZOl|0,_,_,_,_,_,_,_=>none|a+1,b,c,d,e,f,g,h=>ZtF (Zvt a) b c d e f g h
def ZB4 (n:Nat) (s:((List Zlj)×Int×Int×G_api_Table×Int×Str×ZkT)):ZOl:=Zvt n s.1 s.2.1 s.2.2.1 s.2.2.2.1 s.2.2.2.2.1 s.2.2.2.2.2.1 s.2.2.2.2.2.2
def ZxM (a:((List Zlj)×Int×Int×G_api_Table×Int×Str×ZkT)->ZOl) (s:((List Zlj)×Int×Int×G_api_Table×Int×Str×ZkT)):ZOl:=ZtF (fun d e f t g b c=>a (d,e,f,t,g,b,c)) s.1 s.2.1 s.2.2.1 s.2.2.2.1 s.2.2.2.2.1 s.2.2.2.2.2.1 s.2.2.2.2.2.2
theorem ZFt (n s):ZB4 (n+1) s=ZxM (ZB4 n) s:=rfl
def Zyy (t:G_api_Table) (l:List Zlj):ZHi:=bif (l.length:Int)>5 then some ((G_api_Table.mk 0 [] []),3) else (Znd t).bind fun q=>bif !q then some ((G_api_Table.mk 0 [] []),1) else (Zvt big l l.length 0 t 0 [] []).bind fun| .ret a=>some a| .brk (x0,x1,x2,x3)=>Zzw x0 x1 x2 x3
def Zyg (e:Int) (d:ZbZ) (t:G_api_Table) (f:Int) (c:Str) (b:ZkT):ZPE:=(ZtG t).bind fun a=>some ((G_api_Table.mk e a.Name a.Columns),d)
def Zub (a:ZWP) (e k:Int) (d:ZbZ) (t:G_api_Table) (f:Int) (c:Str) (b:ZkT):ZMP:=chk (inK .i64 (k-1)) <|a e (k-1) d t f c b
def ZwR (c:ZWP) (h k:Int) (d:ZbZ) (t:G_api_Table) (g:Int) (b:Str) (a:ZkT):ZMP:=bif k>0 then (Zyf d t).bind fun(q,f)=>(Zyy t [q]).bind fun(i,e)=>bif e==0 then Zub c h k f i g b a else Zub c h k f t g b a else some (h,d,t,g,b,a)
def Zrq:Nat->Int->Int->ZbZ->G_api_Table->Int->Str->ZkT->ZMP|0,_,_,_,_,_,_,_=>none|a+1,b,c,d,e,f,g,h=>ZwR (Zrq a) b c d e f g h
def ZBd (n:Nat) (s:(Int×Int×ZbZ×G_api_Table×Int×Str×ZkT)):ZMP:=Zrq n s.1 s.2.1 s.2.2.1 s.2.2.2.1 s.2.2.2.2.1 s.2.2.2.2.2.1 s.2.2.2.2.2.2
def ZBe (a:(Int×Int×ZbZ×G_api_Table×Int×Str×ZkT)->ZMP) (s:(Int×Int×ZbZ×G_api_Table×Int×Str×ZkT)):ZMP:=ZwR (fun e k d t f c b=>a (e,k,d,t,f,c,b)) s.1 s.2.1 s.2.2.1 s.2.2.2.1 s.2.2.2.2.1 s.2.2.2.2.2.1 s.2.2.2.2.2.2
theorem ZEU (n s):ZBd (n+1) s=ZBe (ZBd n) s:=rfl
def Ztd (d:ZbZ) (t:G_api_Table) (i:Int):ZPE:=(Zi5 d 3).bind fun(k,a)=>(Zrq big i k a t 0 [] []).bind fun(c,h,b,e,f,g)=>Zyg c h b e f g
def ZzD (a:Zph):Option Zph:=some a
def ZvE (a:ZQ8) (e:Zph) (d c:Int) (b:Zph):Option Zph:=chk (inK .i64 (c+1)) <|a e d (c+1) b
def ZvF (b:ZQ8) (s:Str) (k:Int) (f:Zph) (e d:Int) (c:Bool) (a:Zph):Option Zph:=bif c then chk (Zcp 0 k a.length) <|chk (Zcp k a.length a.length) <|chk (ZjC (([s]:Zph).length+((a.drop ((k).toNat)).take ((a.length:Int).toNat-(k).toNat)).length) 16) <|chk (((k).toNat-0)<=a.length) <|chk (ZjC (((k).toNat-0)+(([s]:Zph)++((a.drop ((k).toNat)).take ((a.length:Int).toNat-(k).toNat))).length) 16) <|ZvE b f e d (a.take ((k).toNat-0)++(([s]:Zph)++((a.drop ((k).toNat)).take ((a.length:Int).toNat-(k).toNat)))) else ZvE b f e d a
def ZzE (b:ZQ8) (s:Str) (k:Int) (f:Zph) (e d:Int) (a:Zph):Option Zph:=bif k==a.length then ZvF b s k f e d true a else chk (inR k a.length) <|(a[(k).toNat]?).bind fun c=>ZvF b s k f e d (!(c==s)) a
def ZvG (a:ZWE) (s:Str) (k:Int) (f:Zph) (e d:Int) (c:Bool) (b:Zph):ZMH:=bif c then chk (inK .i64 (k+1)) <|a s (k+1) f e d b else some (s,k,f,e,d,b)
def Zx1 (b:ZWE) (s:Str) (k:Int) (f:Zph) (e d:Int) (a:Zph):ZMH:=bif k<a.length then chk (inR k a.length) <|(a[(k).toNat]?).bind fun c=>ZvG b s k f e d (Op.bytesLess c s) a else ZvG b s k f e d false a
def Zsn:Nat->Str->Int->Zph->Int->Int->Zph->ZMH|0,_,_,_,_,_,_=>none|a+1,b,c,d,e,f,g=>Zx1 (Zsn a) b c d e f g
def ZB7 (n:Nat) (s:(Str×Int×Zph×Int×Int×Zph)):ZMH:=Zsn n s.1 s.2.1 s.2.2.1 s.2.2.2.1 s.2.2.2.2.1 s.2.2.2.2.2
def ZB8 (a:(Str×Int×Zph×Int×Int×Zph)->ZMH) (s:(Str×Int×Zph×Int×Int×Zph)):ZMH:=Zx1 (fun s k e d c b=>a (s,k,e,d,c,b)) s.1 s.2.1 s.2.2.1 s.2.2.2.1 s.2.2.2.2.1 s.2.2.2.2.2
theorem ZFw (n s):ZB7 (n+1) s=ZB8 (ZB7 n) s:=rfl
def ZtW (a:ZQ8) (e:Zph) (d c:Int) (b:Zph):Option Zph:=bif c<d then (idx e c).bind fun s=>(Zsn big s 0 e d c b).bind fun(g,k,f,h,i,j)=>ZzE a g k f h i j else some b
def ZpP:Nat->Zph->Int->Int->Zph->Option Zph|0,_,_,_,_=>none|a+1,b,c,d,e=>ZtW (ZpP a) b c d e
def ZB9 (n:Nat) (s:(Zph×Int×Int×Zph)):Option Zph:=ZpP n s.1 s.2.1 s.2.2.1 s.2.2.2
def Zx2 (a:(Zph×Int×Int×Zph)->Option Zph) (s:(Zph×Int×Int×Zph)):Option Zph:=ZtW (fun e d c b=>a (e,d,c,b)) s.1 s.2.1 s.2.2.1 s.2.2.2
theorem ZFx (n s):ZB9 (n+1) s=Zx2 (ZB9 n) s:=rfl
def ZyB (l:Zph):Option Zph:=(ZpP big l l.length 0 []).bind fun a=>ZzD a
def Zxe (l:Zph):Option Zph:=(ZyB l).bind fun q=>some q
def Ztn (a:ZWz) (c:Zvr) (d b:Int) (l:Zph):Option Zph:=chk (inK .i64 (b+1)) <|a c d (b+1) l
def Zr3 (a:ZWz) (e:Zvr) (c b:Int) (l:Zph):Option Zph:=bif b<c then (idx e b).bind fun d=>bif !d.Null then chk (ZjC (l.length+[d.Text].length) 16) <|Ztn a e c b (l++[d.Text]) else Ztn a e c b l else some l
def ZqQ:Nat->Zvr->Int->Int->Zph->Option Zph|0,_,_,_,_=>none|a+1,b,c,d,e=>Zr3 (ZqQ a) b c d e
def ZAq (n:Nat) (s:(Zvr×Int×Int×Zph)):Option Zph:=ZqQ n s.1 s.2.1 s.2.2.1 s.2.2.2
def ZvY (a:(Zvr×Int×Int×Zph)->Option Zph) (s:(Zvr×Int×Int×Zph)):Option Zph:=Zr3 (fun c d b l=>a (c,d,b,l)) s.1 s.2.1 s.2.2.1 s.2.2.2
theorem ZEi (n s):ZAq (n+1) s=ZvY (ZAq n) s:=rfl
def Zsm (c:G_api_Column):Option Zph:=(ZqQ big c.Cells c.Cells.length 0 []).bind fun a=>Zxe a
def ZlB:Option ZbF:=(Zpa 0).bind fun q=>some q
def ZwF (a b:Zph) (n:Int) (g e:Bool) (f d:Zcy):Option ZbF:=chk (inK .i64 ((a.length:Int)+(b.length:Int))) <|bif ((a.length:Int)+(b.length:Int))==0 then ZlB.bind fun q=>some q else chk (inK .i64 ((a.length:Int)+(b.length:Int))) <|chk (inK .i64 (((a.length:Int)+(b.length:Int))-n)) <|(ZqE n (((a.length:Int)+(b.length:Int))-n)).bind fun c=>some c
def ZwG (d:ZWN) (a b:Zph) (n:Int) (i:Zph) (h e:Int) (j f:Bool) (g c:Zcy):ZMK:=chk (inK .i64 (e+1)) <|d a b n i h (e+1) j f g c
def ZsN (d:ZWZ) (a b:Zph) (n:Int) (o:Str) (k:Zph) (j i:Int) (h:Zph) (l g:Int) (m e:Bool) (f c:Zcy):ZMR:=chk (inK .i64 (g+1)) <|d a b n o k j i h l (g+1) m e f c
def Zry (g:ZWZ) (a b:Zph) (n:Int) (o:Str) (k:Zph) (j i:Int) (h:Zph) (l f:Int) (m d:Bool) (e c:Zcy):ZMR:=bif f<l then (idx h f).bind fun y=>bif o==y then chk (inK .i64 (n+1)) <|ZsN g a b (n+1) o k j i h l f m d e c else ZsN g a b n o k j i h l f m d e c else some (a,b,n,k,j,i,m,d,e,c)
def Zqx:Nat->Zph->Zph->Int->Str->Zph->Int->Int->Zph->Int->Int->Bool->Bool->Zcy->Zcy->ZMR|0,_,_,_,_,_,_,_,_,_,_,_,_,_,_=>none|a+1,b,c,d,e,f,g,h,i,j,k,l,m,n,o=>Zry (Zqx a) b c d e f g h i j k l m n o
def ZAb (n:Nat) (s:(Zph×Zph×Int×Str×Zph×Int×Int×Zph×Int×Int×Bool×Bool×Zcy×Zcy)):ZMR:=Zqx n s.1 s.2.1 s.2.2.1 s.2.2.2.1 s.2.2.2.2.1 s.2.2.2.2.2.1 s.2.2.2.2.2.2.1 s.2.2.2.2.2.2.2.1 s.2.2.2.2.2.2.2.2.1 s.2.2.2.2.2.2.2.2.2.1 s.2.2.2.2.2.2.2.2.2.2.1 s.2.2.2.2.2.2.2.2.2.2.2.1 s.2.2.2.2.2.2.2.2.2.2.2.2.1 s.2.2.2.2.2.2.2.2.2.2.2.2.2
def Zu7 (d:(Zph×Zph×Int×Str×Zph×Int×Int×Zph×Int×Int×Bool×Bool×Zcy×Zcy)->ZMR) (s:(Zph×Zph×Int×Str×Zph×Int×Int×Zph×Int×Int×Bool×Bool×Zcy×Zcy)):ZMR:=Zry (fun a b n o j i h g k l m e f c=>d (a,b,n,o,j,i,h,g,k,l,m,e,f,c)) s.1 s.2.1 s.2.2.1 s.2.2.2.1 s.2.2.2.2.1 s.2.2.2.2.2.1 s.2.2.2.2.2.2.1 s.2.2.2.2.2.2.2.1 s.2.2.2.2.2.2.2.2.1 s.2.2.2.2.2.2.2.2.2.1 s.2.2.2.2.2.2.2.2.2.2.1 s.2.2.2.2.2.2.2.2.2.2.2.1 s.2.2.2.2.2.2.2.2.2.2.2.2.1 s.2.2.2.2.2.2.2.2.2.2.2.2.2
theorem ZD8 (n s):ZAb (n+1) s=Zu7 (ZAb n) s:=rfl
def Zrz (g:ZWN) (a b:Zph) (n:Int) (h:Zph) (i f:Int) (j e:Bool) (c d:Zcy):ZMK:=bif f<i then (idx h f).bind fun t=>(Zqx big a b n t h i f b b.length 0 j e c d).bind fun(m,p,k,o,l,u,r,s,v,q)=>ZwG g m p k o l u r s v q else some (a,b,n,j,e,c,d)
def Zqy:Nat->Zph->Zph->Int->Zph->Int->Int->Bool->Bool->Zcy->Zcy->ZMK|0,_,_,_,_,_,_,_,_,_,_=>none|a+1,b,c,d,e,f,g,h,i,j,k=>Zrz (Zqy a) b c d e f g h i j k
def ZAc (n:Nat) (s:(Zph×Zph×Int×Zph×Int×Int×Bool×Bool×Zcy×Zcy)):ZMK:=Zqy n s.1 s.2.1 s.2.2.1 s.2.2.2.1 s.2.2.2.2.1 s.2.2.2.2.2.1 s.2.2.2.2.2.2.1 s.2.2.2.2.2.2.2.1 s.2.2.2.2.2.2.2.2.1 s.2.2.2.2.2.2.2.2.2
def Zu8 (d:(Zph×Zph×Int×Zph×Int×Int×Bool×Bool×Zcy×Zcy)->ZMK) (s:(Zph×Zph×Int×Zph×Int×Int×Bool×Bool×Zcy×Zcy)):ZMK:=Zrz (fun a b n i h g j e f c=>d (a,b,n,i,h,g,j,e,f,c)) s.1 s.2.1 s.2.2.1 s.2.2.2.1 s.2.2.2.2.1 s.2.2.2.2.2.1 s.2.2.2.2.2.2.1 s.2.2.2.2.2.2.2.1 s.2.2.2.2.2.2.2.2.1 s.2.2.2.2.2.2.2.2.2
theorem ZD9 (n s):ZAc (n+1) s=Zu8 (ZAc n) s:=rfl
def ZrR (a b:Zph):Option ZbF:=(Zqy big a b 0 a a.length 0 false false [] []).bind fun(e,i,c,f,g,h,d)=>ZwF e i c f g h d
def Zvx (a b:G_api_Column):Option ZbF:=(Zsm a).bind fun q=>(Zsm b).bind fun d=>(ZrR q d).bind fun c=>some c
def ZpR (c:Int) (a:Bool):Option Int:=bif a then some c else some 0
def Zxd (c:Int) (a:Bool):Option Int:=bif a then some (IntKind.wrap .u8 ((IntKind.wrap .u8 (c+97))-65)) else bif c>=97 then bif c<=122 then ZpR c true else bif c>=48 then ZpR c (c<=57) else ZpR c false else bif c>=48 then ZpR c (c<=57) else ZpR c false
def Zvw (c:Int):Option Int:=bif c>=65 then Zxd c (c<=90) else Zxd c false
def Zvu (l:Zph) (s:Str) (i:Int) (a:Bool):Option Zph:=bif a then some l else chk (Zcp 0 i l.length) <|chk (ZjC (l.take (i).toNat).length 16) <|chk (ZjC ((l.take (i).toNat).length+[s].length) 16) <|chk (Zcp i l.length l.length) <|chk (ZjC (((l.take (i).toNat)++[s]).length+(l.drop (i).toNat).length) 16) <|some (((l.take (i).toNat)++[s])++(l.drop (i).toNat))
def Zzy (l:Zph) (s:Str) (i:Int):Option Zph:=bif i<l.length then (idx l i).bind fun a=>Zvu l s i (a==s) else Zvu l s i false
def Zvv (a:Zph->Str->Int->ZLY) (l:Zph) (s:Str) (i:Int) (b:Bool):ZLY:=bif b then chk (inK .i64 (i+1)) <|a l s (i+1) else some (l,s,i)
def ZxW (a:Zph->Str->Int->ZLY) (l:Zph) (s:Str) (i:Int):ZLY:=bif i<l.length then (idx l i).bind fun b=>Zvv a l s i (Op.bytesLess b s) else Zvv a l s i false
def Zsl:Nat->Zph->Str->Int->ZLY|0,_,_,_=>none|a+1,b,c,d=>ZxW (Zsl a) b c d
def ZB5 (n:Nat) (s:(Zph×Str×Int)):ZLY:=Zsl n s.1 s.2.1 s.2.2
def ZB6 (a:(Zph×Str×Int)->ZLY) (s:(Zph×Str×Int)):ZLY:=ZxW (fun l s i=>a (l,s,i)) s.1 s.2.1 s.2.2
theorem ZFv (n s):ZB5 (n+1) s=ZB6 (ZB5 n) s:=rfl
def Zyz (l:Zph) (s:Str):Option Zph:=(Zsl big l s 0).bind fun(c,a,b)=>Zzy c a b
def ZxX (a:Zph):Option Zph:=some a
def ZtQ (c:ZQ7) (a:Str) (d:Zph) (b:Str) (i:Int):Option Zph:=chk (inK .i64 (i+1)) <|c a d b (i+1)
def ZtR (b:ZQ7) (a:Str) (c:Zph) (i:Int):Option Zph:=ZtQ b a c [] i
def Zrh (d:ZQ7) (b:Str) (e:Zph) (a:Str) (i c:Int):Option Zph:=bif c != 0 then chk (a.length+([c].map fun n=>UInt8.ofNat (Int.toNat n)).length<=Zr) <|ZtQ d b e (a++([c].map fun n=>UInt8.ofNat (Int.toNat n))) i else bif !(a==[]) then (Zyz e a).bind fun f=>ZtR d b f i else ZtR d b e i
def ZwD (b:ZQ7) (a:Str) (e:Zph) (d:Str) (i:Int):Option Zph:=bif i<=a.length then bif i<a.length then (idx a i).bind fun c=>(Zvw ((c.toNat:Nat):Int)).bind fun f=>Zrh b a e d i f else Zrh b a e d i 0 else some e
def Zo4:Nat->Str->Zph->Str->Int->Option Zph|0,_,_,_,_=>none|a+1,b,c,d,e=>ZwD (Zo4 a) b c d e
def ZA5 (n:Nat) (s:(Str×Zph×Str×Int)):Option Zph:=Zo4 n s.1 s.2.1 s.2.2.1 s.2.2.2
def ZA6 (c:(Str×Zph×Str×Int)->Option Zph) (s:(Str×Zph×Str×Int)):Option Zph:=ZwD (fun a d b i=>c (a,d,b,i)) s.1 s.2.1 s.2.2.1 s.2.2.2
theorem ZEN (n s):ZA5 (n+1) s=ZA6 (ZA5 n) s:=rfl
def Zs7 (a:Str):Option Zph:=(Zo4 big a [] [] 0).bind fun b=>ZxX b
def Zwg (a b:Str):Option ZbF:=(Zs7 a).bind fun q=>(Zs7 b).bind fun d=>(ZrR q d).bind fun c=>some c
def ZyY (s:Str):Option Str:=some s
def ZuF (a:ZL1) (s:Str) (b:Bool):Option Str:=bif b then chk (inK .i64 ((s.length:Int)-1)) <|chk (Zcp 0 ((s.length:Int)-1) s.length) <|a (s.take (((s.length:Int)-1)).toNat) else some s
def Zxn (a:ZL1) (s:Str):Option Str:=bif (s.length:Int)>0 then chk (inK .i64 ((s.length:Int)-1)) <|(idx s ((s.length:Int)-1)).bind fun c=>ZuF a s (((c.toNat:Nat):Int)==32) else ZuF a s false
def ZrU:Nat->Str->Option Str|0,_=>none|a+1,b=>Zxn (ZrU a) b
def ZBO (n:Nat) (s:Str):Option Str:=ZrU n s
def ZBP (a:ZL1) (s:Str):Option Str:=Zxn (fun s=>a s) s
theorem ZFa (n s):ZBO (n+1) s=ZBP (ZBO n) s:=rfl
def ZyZ (s:Str):Option Str:=(ZrU big s).bind fun a=>ZyY a
def ZuG (a:ZL1) (s:Str) (b:Bool):Option Str:=bif b then chk (Zcp 1 s.length s.length) <|a (s.drop ((1:Int)).toNat) else some s
def Zxo (a:ZL1) (s:Str):Option Str:=bif (s.length:Int)>0 then (idx s 0).bind fun c=>ZuG a s (((c.toNat:Nat):Int)==32) else ZuG a s false
def ZrV:Nat->Str->Option Str|0,_=>none|a+1,b=>Zxo (ZrV a) b
def ZBQ (n:Nat) (s:Str):Option Str:=ZrV n s
def ZBR (a:ZL1) (s:Str):Option Str:=Zxo (fun s=>a s) s
theorem ZFb (n s):ZBQ (n+1) s=ZBR (ZBQ n) s:=rfl
def Zxp (s:Str):Option Str:=(ZrV big s).bind fun a=>ZyZ a
def ZCV (b:Zcy):Option Str:=some (b.map fun n=>UInt8.ofNat (Int.toNat n))
def Zy0 (a:ZTA) (c i:Int) (b:Zcy):Option Zcy:=chk (inK .i64 (i+1)) <|a c (i+1) b
def Zy1 (a:ZTA) (i f c:Int) (d:Bool) (b:Zcy):Option Zcy:=bif d then chk (inR i b.length) <|(b[(i).toNat]?).bind fun e=>chk (inR i b.length) <|Zy0 a f c (b.set ((i).toNat) (IntKind.wrap .u8 (e+32))) else Zy0 a f c b
def ZFy (a:ZTA) (e i:Int) (b:Zcy):Option Zcy:=bif i<e then chk (inR i b.length) <|(b[(i).toNat]?).bind fun d=>bif d>=65 then chk (inR i b.length) <|(b[(i).toNat]?).bind fun c=>Zy1 a i e i (c<=90) b else Zy1 a i e i false b else some b
def ZrW:Nat->Int->Int->Zcy->Option Zcy|0,_,_,_=>none|a+1,b,c,d=>ZFy (ZrW a) b c d
def ZDJ (s:Str):Option Str:=chk (s.length<=281474976710656) <|(ZrW big ((s.map fun b=>((b.toNat:Nat):Int)).length:Int) 0 (s.map fun b=>((b.toNat:Nat):Int))).bind fun a=>ZCV a
def ZCg (c:Bool) (a b:Str):ZMG:=some (c,a,b,true)
def Zt7 (c:ZWw) (d:Bool) (b a:Str) (i:Int) (e:Bool):ZMM:=bif e then some (.ret (false,[],[],false)) else chk (inK .i64 (i+1)) <|c d b a (i+1)
def ZsS (d:ZWw) (e:Bool) (b a:Str) (i:Int):ZMM:=bif i<a.length then (idx a i).bind fun c=>bif ((c.toNat:Nat):Int)<48 then Zt7 d e b a i true else (idx a i).bind fun f=>Zt7 d e b a i (((f.toNat:Nat):Int)>57) else some (.brk (e,b,a))
def Zqd:Nat->Bool->Str->Str->Int->ZMM|0,_,_,_,_=>none|a+1,b,c,d,e=>ZsS (Zqd a) b c d e
def ZA9 (n:Nat) (s:(Bool×Str×Str×Int)):ZMM:=Zqd n s.1 s.2.1 s.2.2.1 s.2.2.2
def ZwM (c:(Bool×Str×Str×Int)->ZMM) (s:(Bool×Str×Str×Int)):ZMM:=ZsS (fun d a b i=>c (d,a,b,i)) s.1 s.2.1 s.2.2.1 s.2.2.2
theorem ZER (n s):ZA9 (n+1) s=ZwM (ZA9 n) s:=rfl
def Zo6 (c:Bool) (b a:Str) (d:Bool):ZMG:=bif d then some (false,[],[],false) else (Zqd big c b a 0).bind fun| .ret e=>some e| .brk (x0,x1,x2)=>ZCg x0 x1 x2
def Zt8 (s:Str) (b:Bool) (a:Str) (k:Int) (d:Bool):ZMG:=bif d then some (false,[],[],false) else bif k==s.length then some (b,a,[],true) else chk (inK .i64 (k+1)) <|chk (Zcp (k+1) s.length s.length) <|(idx s k).bind fun c=>bif ((c.toNat:Nat):Int)!=46 then Zo6 b a (s.drop ((k+1)).toNat) true else bif (decide (((s.drop ((k+1)).toNat).length:Int)<1))then Zo6 b a (s.drop ((k+1)).toNat) true else Zo6 b a (s.drop ((k+1)).toNat) (decide (((s.drop ((k+1)).toNat).length:Int)>9))
def Zyc (s:Str) (a:Bool) (k:Int):ZMG:=chk (Zcp 0 k s.length) <|bif k<1 then Zt8 s a (s.take (k).toNat) k true else Zt8 s a (s.take (k).toNat) k (k>15)
def Zrm (b:Str->Bool->Int->ZLX) (s:Str) (a:Bool) (k:Int) (c:Bool):ZLX:=bif c then chk (inK .i64 (k+1)) <|b s a (k+1) else some (s,a,k)
def ZwN (a:Str->Bool->Int->ZLX) (s:Str) (b:Bool) (k:Int):ZLX:=bif k<s.length then (idx s k).bind fun c=>bif ((c.toNat:Nat):Int)>=48 then (idx s k).bind fun d=>Zrm a s b k (((d.toNat:Nat):Int)<=57) else Zrm a s b k false else Zrm a s b k false
def Zrl:Nat->Str->Bool->Int->ZLX|0,_,_,_=>none|a+1,b,c,d=>ZwN (Zrl a) b c d
def ZBa (n:Nat) (s:(Str×Bool×Int)):ZLX:=Zrl n s.1 s.2.1 s.2.2
def ZBb (a:(Str×Bool×Int)->ZLX) (s:(Str×Bool×Int)):ZLX:=ZwN (fun s b k=>a (s,b,k)) s.1 s.2.1 s.2.2
theorem ZES (n s):ZBa (n+1) s=ZBb (ZBa n) s:=rfl
def Zpg (s:Str) (a:Bool):ZMG:=(Zrl big s a 0).bind fun(d,b,c)=>Zyc d b c
def Zrn (s:Str) (a b:Bool):ZMG:=bif b then (idx s 0).bind fun c=>chk (Zcp 1 s.length s.length) <|Zpg (s.drop ((1:Int)).toNat) (((c.toNat:Nat):Int)==45) else Zpg s a
def Ztb (s:Str):ZMG:=bif (s.length:Int)>0 then (idx s 0).bind fun c=>bif ((c.toNat:Nat):Int)==43 then Zrn s false true else (idx s 0).bind fun a=>Zrn s false (((a.toNat:Nat):Int)==45) else Zrn s false false
def Zto (a:Str):Option Str:=some a
def Ztp (a:Str) (b:Bool):Option Str:=bif b then chk (([45]:Str).length+a.length<=Zr) <|Zto (([45]:Str)++a) else Zto a
def Ztq (b:Bool) (a:Str):Option Str:=bif b then Ztp a (!(a==[48])) else Ztp a false
def Zxg (c:Bool) (b a:Str):Option Str:=bif !(a==([]:Str)) then chk (([46]:Str).length+a.length<=Zr) <|chk (b.length+(([46]:Str)++a).length<=Zr) <|Ztq c (b++(([46]:Str)++a)) else Ztq c b
def Ztr (c:ZQ3) (d:Bool) (b a:Str) (e:Bool):ZIY:=bif e then chk (inK .i64 ((a.length:Int)-1)) <|chk (Zcp 0 ((a.length:Int)-1) a.length) <|c d b (a.take (((a.length:Int)-1)).toNat) else some (d,b,a)
def ZvZ (d:ZQ3) (e:Bool) (b a:Str):ZIY:=bif (a.length:Int)>0 then chk (inK .i64 ((a.length:Int)-1)) <|(idx a ((a.length:Int)-1)).bind fun c=>Ztr d e b a (((c.toNat:Nat):Int)==48) else Ztr d e b a false
def ZqR:Nat->Bool->Str->Str->ZIY|0,_,_,_=>none|a+1,b,c,d=>ZvZ (ZqR a) b c d
def ZAr (n:Nat) (s:(Bool×Str×Str)):ZIY:=ZqR n s.1 s.2.1 s.2.2
def ZAs (c:(Bool×Str×Str)->ZIY) (s:(Bool×Str×Str)):ZIY:=ZvZ (fun d a b=>c (d,a,b)) s.1 s.2.1 s.2.2
theorem ZEj (n s):ZAr (n+1) s=ZAs (ZAr n) s:=rfl
def Zxh (c:Bool) (b a:Str):Option Str:=(ZqR big c b a).bind fun(e,f,d)=>Zxg e f d
def Zts (c:ZQ3) (d:Bool) (a b:Str) (e:Bool):ZIY:=bif e then chk (Zcp 1 a.length a.length) <|c d (a.drop ((1:Int)).toNat) b else some (d,a,b)
def Zv0 (d:ZQ3) (e:Bool) (a b:Str):ZIY:=bif (a.length:Int)>1 then (idx a 0).bind fun c=>Zts d e a b (((c.toNat:Nat):Int)==48) else Zts d e a b false
def ZqS:Nat->Bool->Str->Str->ZIY|0,_,_,_=>none|a+1,b,c,d=>Zv0 (ZqS a) b c d
def ZAt (n:Nat) (s:(Bool×Str×Str)):ZIY:=ZqS n s.1 s.2.1 s.2.2
def ZAu (c:(Bool×Str×Str)->ZIY) (s:(Bool×Str×Str)):ZIY:=Zv0 (fun d a b=>c (d,a,b)) s.1 s.2.1 s.2.2
theorem ZEk (n s):ZAt (n+1) s=ZAu (ZAt n) s:=rfl
def ZvB (c:Bool) (b a:Str):Option Str:=(ZqS big c b a).bind fun(e,f,d)=>Zxh e f d
def ZDc (n:Int):Option Int:=some n
def Zzz (a:Str->Int->Int->ZPC) (s:Str) (n i:Int) (b:Bool):ZPC:=bif b then some (.ret (-1)) else chk (inK .i64 (10*n)) <|(idx s i).bind fun c=>chk (inK .i64 ((10*n)+(IntKind.wrap .i64 (IntKind.wrap .u8 (((c.toNat:Nat):Int)-48))))) <|chk (inK .i64 (i+1)) <|a s ((10*n)+(IntKind.wrap .i64 (IntKind.wrap .u8 (((c.toNat:Nat):Int)-48)))) (i+1)
def ZFP (a:Str->Int->Int->ZPC) (s:Str) (n i:Int):ZPC:=bif i<s.length then (idx s i).bind fun c=>bif ((c.toNat:Nat):Int)<48 then Zzz a s n i true else (idx s i).bind fun b=>Zzz a s n i (((b.toNat:Nat):Int)>57) else some (.brk n)
def Zvz:Nat->Str->Int->Int->ZPC|0,_,_,_=>none|a+1,b,c,d=>ZFP (Zvz a) b c d
def ZqM (s:Str):Option Int:=(Zvz big s 0 0).bind fun| .ret a=>some a| .brk b=>ZDc b
def ZuA (a:Bool):Option Bool:=some a
def ZAA (y:Int):Option Bool:=chk ((4:Int)≠0) <|bif (Int.tmod y 4)==0 then chk ((100:Int)≠0) <|bif (Int.tmod y 100)!=0 then ZuA true else chk ((400:Int)≠0) <|ZuA ((Int.tmod y 400)==0) else ZuA false
def ZqT (a:Bool):Option Int:=bif a then some 30 else some 31
def Zxi (m:Int) (a:Bool):Option Int:=bif a then some 29 else bif m==2 then some 28 else bif m==4 then ZqT true else bif m==6 then ZqT true else bif m==9 then ZqT true else ZqT (m==11)
def ZzA (y m:Int):Option Int:=bif m==2 then (ZAA y).bind fun q=>Zxi m q else Zxi m false
def ZDd (a n:Int):ZME:=chk (inK .i64 (n+a)) <|chk (inK .i64 ((n+a)-1)) <|chk (inK .i64 (((n+a)-1)-719162)) <|some ((((n+a)-1)-719162),true)
def ZFQ (d:Int->Int->Int->Int->Int->ZK5) (b a c n m:Int):ZK5:=bif m<a then (ZzA b m).bind fun q=>chk (inK .i64 (n+q)) <|chk (inK .i64 (m+1)) <|d b a c (n+q) (m+1) else some (c,n)
def ZzB:Nat->Int->Int->Int->Int->Int->ZK5|0,_,_,_,_,_=>none|a+1,b,c,d,e,f=>ZFQ (ZzB a) b c d e f
def ZDe (b a c n:Int):ZME:=(ZzB big b a c n 1).bind fun(d,e)=>ZDd d e
def ZzC (b:ZWy) (c a d n y:Int):ZQ2:=chk (inK .i64 (y+1)) <|b c a d n (y+1)
def ZFR (c:ZWy) (b a d n y:Int):ZQ2:=bif y<b then chk (inK .i64 (n+365)) <|(ZAA y).bind fun q=>bif q then chk (inK .i64 ((n+365)+1)) <|ZzC c b a d ((n+365)+1) y else ZzC c b a d (n+365) y else some (b,a,d,n)
def ZvC:Nat->Int->Int->Int->Int->Int->ZQ2|0,_,_,_,_,_=>none|a+1,b,c,d,e,f=>ZFR (ZvC a) b c d e f
def ZpO (b a c:Int) (d:Bool):ZME:=bif d then some (0,false) else (ZvC big b a c 0 1).bind fun(f,h,e,g)=>ZDe f h e g
def ZBr (b a c:Int):ZME:=bif b<1 then ZpO b a c true else bif b>9999 then ZpO b a c true else bif a<1 then ZpO b a c true else bif a>12 then ZpO b a c true else bif c<1 then ZpO b a c true else (ZzA b a).bind fun q=>ZpO b a c (c>q)
def ZyU (b a c:Int):ZPD:=(ZBr b a c).bind fun(q,d)=>some (b,a,c,d)
def ZyV (s:Str) (d:Bool):ZPD:=bif d then chk (Zcp 6 s.length s.length) <|(ZqM (s.drop ((6:Int)).toNat)).bind fun b=>chk (Zcp 3 5 s.length) <|(ZqM ((s.take ((5:Int)).toNat).drop ((3:Int)).toNat)).bind fun a=>chk (Zcp 0 2 s.length) <|(ZqM (s.take ((2:Int)).toNat)).bind fun c=>ZyU b a c else some (0,0,0,false)
def ZuB (s:Str) (f:Bool):ZPD:=bif f then chk (Zcp 0 4 s.length) <|(ZqM (s.take ((4:Int)).toNat)).bind fun b=>chk (Zcp 5 7 s.length) <|(ZqM ((s.take ((7:Int)).toNat).drop ((5:Int)).toNat)).bind fun a=>chk (Zcp 8 s.length s.length) <|(ZqM (s.drop ((8:Int)).toNat)).bind fun e=>ZyU b a e else (idx s 2).bind fun c=>bif ((c.toNat:Nat):Int)==46 then (idx s 5).bind fun d=>ZyV s (((d.toNat:Nat):Int)==46) else ZyV s false
def ZyW (s:Str) (b:Bool):ZPD:=bif b then ZuB s b else (idx s 4).bind fun c=>bif ((c.toNat:Nat):Int)==47 then (idx s 7).bind fun a=>ZuB s (((a.toNat:Nat):Int)==47) else ZuB s false
def ZAB (s:Str):ZPD:=bif (s.length:Int)!=10 then some (0,0,0,false) else (idx s 4).bind fun c=>bif ((c.toNat:Nat):Int)==45 then (idx s 7).bind fun a=>ZyW s (((a.toNat:Nat):Int)==45) else ZyW s false
def ZBM (s:Str):Option Str:=some s
def ZEP (b:Int->Int->Str->Option Str) (n a:Int) (s:Str):Option Str:=bif a>0 then chk ((10:Int)≠0) <|chk (decide ((([(IntKind.wrap .u8 (48+(IntKind.wrap .u8 (Int.tmod n 10))))]:Zcy).map fun n=>UInt8.ofNat (Int.toNat n)).length+s.length<=Zr)) <|chk ((10:Int)≠0) <|chk (inK .i64 (Int.tdiv n 10)) <|chk (inK .i64 (a-1)) <|b (Int.tdiv n 10) (a-1) ((([(IntKind.wrap .u8 (48+(IntKind.wrap .u8 (Int.tmod n 10))))]:Zcy).map fun n=>UInt8.ofNat (Int.toNat n))++s) else some s
def Zxf:Nat->Int->Int->Str->Option Str|0,_,_,_=>none|a+1,b,c,d=>ZEP (Zxf a) b c d
def ZvA (n a:Int):Option Str:=(Zxf big n a []).bind fun b=>ZBM b
def Zp7:ZIX:=some ([],false)
def Zp8 (c:Bool) (a b:Str) (d:Bool):ZIX:=bif d then (ZvB c a b).bind fun q=>some (q,true) else Zp7
def ZrC (f:Int) (t:Str) (j:Int) (i:Bool):ZIX:=bif i then (Ztb t).bind fun(e,b,a,k)=>bif k then bif f==4 then Zp8 e b a true else Zp8 e b a (a==([]:Str)) else Zp8 e b a false else bif j==5 then (ZAB t).bind fun(y,m,d,h)=>bif h then (ZvA y 4).bind fun q=>chk (q.length+([45]:Str).length<=Zr) <|(ZvA m 2).bind fun c=>chk ((q++([45]:Str)).length+c.length<=Zr) <|chk (decide (((q++([45]:Str))++c).length+([45]:Str).length<=Zr)) <|(ZvA d 2).bind fun g=>chk (decide ((((q++([45]:Str))++c)++([45]:Str)).length+g.length<=Zr)) <|some (((((q++([45]:Str))++c)++([45]:Str))++g),true) else Zp7 else Zp7
def Zva (a:Bool):ZIX:=bif a then some ([102,97,108,115,101],true) else Zp7
def Zvb (a:Str) (b:Bool):ZIX:=bif b then some ([116,114,117,101],true) else bif a==[102,97,108,115,101] then Zva (a==[102,97,108,115,101]) else Zva (a==[110,111])
def Ztt (a:Int) (s:Str):ZIX:=(Zxp s).bind fun t=>bif a==1 then some (s,true) else bif a==2 then (ZDJ t).bind fun q=>bif q==[116,114,117,101] then Zvb q (q==[116,114,117,101]) else Zvb q (q==[121,101,115]) else bif a==3 then ZrC a t a (a==3) else ZrC a t a (a==4)
def ZzG (a:Zcy):Option Zcy:=(Zpd a).bind fun q=>some q
def ZzH (d:ZWB) (a b:Zcy) (i c:Int) (e:Zcy):Option Zcy:=chk (inK .i64 (i+b.length)) <|chk (inR (i+b.length) e.length) <|chk (inK .i64 (i+1)) <|d a b (i+1) (e.set (((i+b.length)).toNat) (IntKind.wrap .u32 c))
def ZtZ (f:Zcy->Zcy->Int->Int->Int->Zcy->ZOe) (a b:Zcy) (i c j:Int) (d:Zcy):ZOe:=bif j<(b.length:Int) then (idx a i).bind fun g=>(idx b j).bind fun h=>chk (inK .i64 (i+j)) <|chk (inR (i+j) d.length) <|(d[((i+j)).toNat]?).bind fun e=>chk (inK .i64 (i+j)) <|chk (inR (i+j) d.length) <|chk (0<=(32:Int)) <|chk (inK .i64 (j+1)) <|f a b i (shrK .u64 (IntKind.wrap .u64 (c+(IntKind.wrap .u64 ((IntKind.wrap .u64 ((IntKind.wrap .u64 g)*(IntKind.wrap .u64 h)))+(IntKind.wrap .u64 e))))) 32) (j+1) (d.set (((i+j)).toNat) (IntKind.wrap .u32 (IntKind.wrap .u64 (c+(IntKind.wrap .u64 ((IntKind.wrap .u64 ((IntKind.wrap .u64 g)*(IntKind.wrap .u64 h)))+(IntKind.wrap .u64 e))))))) else some (a,b,i,c,d)
def ZvH:Nat->Zcy->Zcy->Int->Int->Int->Zcy->ZOe|0,_,_,_,_,_,_=>none|a+1,b,c,d,e,f,g=>ZtZ (ZvH a) b c d e f g
def ZCb (n:Nat) (s:(Zcy×Zcy×Int×Int×Int×Zcy)):ZOe:=ZvH n s.1 s.2.1 s.2.2.1 s.2.2.2.1 s.2.2.2.2.1 s.2.2.2.2.2
def Zx5 (d:(Zcy×Zcy×Int×Int×Int×Zcy)->ZOe) (s:(Zcy×Zcy×Int×Int×Int×Zcy)):ZOe:=ZtZ (fun a b i c j e=>d (a,b,i,c,j,e)) s.1 s.2.1 s.2.2.1 s.2.2.2.1 s.2.2.2.2.1 s.2.2.2.2.2
theorem ZFA (n s):ZCb (n+1) s=Zx5 (ZCb n) s:=rfl
def Zt0 (c:ZWB) (a b:Zcy) (i:Int) (d:Zcy):Option Zcy:=bif i<a.length then (ZvH big a b i 0 0 d).bind fun(f,j,e,g,h)=>ZzH c f j e g h else some d
def Zsq:Nat->Zcy->Zcy->Int->Zcy->Option Zcy|0,_,_,_,_=>none|a+1,b,c,d,e=>Zt0 (Zsq a) b c d e
def ZCc (n:Nat) (s:(Zcy×Zcy×Int×Zcy)):Option Zcy:=Zsq n s.1 s.2.1 s.2.2.1 s.2.2.2
def Zx6 (c:(Zcy×Zcy×Int×Zcy)->Option Zcy) (s:(Zcy×Zcy×Int×Zcy)):Option Zcy:=Zt0 (fun a b i d=>c (a,b,i,d)) s.1 s.2.1 s.2.2.1 s.2.2.2
theorem ZFB (n s):ZCc (n+1) s=Zx6 (ZCc n) s:=rfl
def ZyC (a b:Zcy):Option Zcy:=chk (inK .i64 ((a.length:Int)+(b.length:Int))) <|chk (mkOk ((a.length:Int)+(b.length:Int)) ((a.length:Int)+(b.length:Int)) 4) <|(Zsq big a b 0 (List.replicate (((a.length:Int)+(b.length:Int))).toNat (0:Int))).bind fun c=>ZzG c
def Zjm (a b:Zgo):Option Zgo:=(ZyC a.Words b.Words).bind fun q=>(ZoX (!(a.Neg==b.Neg)) q).bind fun c=>some c
def ZzP (c:Int) (a:Zcy):Option Zcy:=chk (ZjC (a.length+[(IntKind.wrap .u32 c)].length) 4) <|some (a++[(IntKind.wrap .u32 c)])
def Zst (d:ZQ9) (a b:Zcy) (c i:Int) (e:Zcy):ZCR:=chk (ZjC (e.length+([(IntKind.wrap .u32 c)]:Zcy).length) 4) <|chk (0<=(32:Int)) <|chk (inK .i64 (i+1)) <|d a b (shrK .u64 c 32) (i+1) (e++([(IntKind.wrap .u32 c)]:Zcy))
def Zsu (d:ZQ9) (a b:Zcy) (c i:Int) (e:Zcy):ZCR:=bif i<b.length then (idx b i).bind fun f=>Zst d a b (IntKind.wrap .u64 (c+(IntKind.wrap .u64 f))) i e else Zst d a b c i e
def ZqJ (d:ZQ9) (a b:Zcy) (c i:Int) (f:Bool) (e:Zcy):ZCR:=bif f then bif i<a.length then (idx a i).bind fun g=>Zsu d a b (IntKind.wrap .u64 (c+(IntKind.wrap .u64 g))) i e else Zsu d a b c i e else some (c,e)
def Zt6 (d:ZQ9) (a b:Zcy) (c i:Int) (e:Zcy):ZCR:=bif i<a.length then ZqJ d a b c i true e else ZqJ d a b c i (i<b.length) e
def ZpQ:Nat->Zcy->Zcy->Int->Int->Zcy->ZCR|0,_,_,_,_,_=>none|a+1,b,c,d,e,f=>Zt6 (ZpQ a) b c d e f
def ZCf (n:Nat) (s:(Zcy×Zcy×Int×Int×Zcy)):ZCR:=ZpQ n s.1 s.2.1 s.2.2.1 s.2.2.2.1 s.2.2.2.2
def Zyb (d:(Zcy×Zcy×Int×Int×Zcy)->ZCR) (s:(Zcy×Zcy×Int×Int×Zcy)):ZCR:=Zt6 (fun a b c i e=>d (a,b,c,i,e)) s.1 s.2.1 s.2.2.1 s.2.2.2.1 s.2.2.2.2
theorem ZFE (n s):ZCf (n+1) s=Zyb (ZCf n) s:=rfl
def ZuW (a b:Zcy):Option Zcy:=(ZpQ big a b 0 0 []).bind fun(d,c)=>ZzP d c
def Zpr (a b:Zgo):Option Zgo:=bif a.Neg==b.Neg then (ZuW a.Words b.Words).bind fun q=>(ZoX a.Neg q).bind fun d=>some d else (ZpD a.Words b.Words).bind fun c=>bif c>=0 then (ZqN a.Words b.Words).bind fun h=>(ZoX a.Neg h).bind fun f=>some f else (ZqN b.Words a.Words).bind fun e=>(ZoX b.Neg e).bind fun g=>some g
def Zqe (a:Zgo):Option Zgo:=(ZoX (!a.Neg) a.Words).bind fun q=>some q
def ZsV (e c:Bool) (n d:Zgo) (a b:Zcy):ZIb:=(ZqG n d).bind fun q=>some (q,true)
def ZwO (e g c:Bool) (n d:Zgo) (b a:Zcy):ZIb:=bif e then (Zqe n).bind fun f=>ZsV g c f d b a else ZsV g c n d b a
def ZsW (f:ZWR) (g h k e:Bool) (n d:Zgo) (j:Str) (a:Nat) (c b:Zcy):ZMN:=bif h then (ZoR 10).bind fun q=>(Zjm d q).bind fun i=>f g k e n i j a c b else some (g,k,e,n,d,c,b)
def Zve (c:ZWR) (h i g:Bool) (n d:Zgo) (b:Str) (a:Nat) (f e:Zcy):ZMN:=bif (decide (a < b.length))then (ZsW c h true i g n d b (a+(Utf8.decode ⟨List.toArray b⟩ a).2) f e)else (ZsW c h false i g n d b a f e)
def ZqA:Nat->Bool->Bool->Bool->Zgo->Zgo->Str->Nat->Zcy->Zcy->ZMN|0,_,_,_,_,_,_,_,_,_=>none|a+1,b,c,d,e,f,g,h,i,j=>Zve (ZqA a) b c d e f g h i j
def ZAf (n:Nat) (s:(Bool×Bool×Bool×Zgo×Zgo×Str×Nat×Zcy×Zcy)):ZMN:=ZqA n s.1 s.2.1 s.2.2.1 s.2.2.2.1 s.2.2.2.2.1 s.2.2.2.2.2.1 s.2.2.2.2.2.2.1 s.2.2.2.2.2.2.2.1 s.2.2.2.2.2.2.2.2
def ZAg (b:(Bool×Bool×Bool×Zgo×Zgo×Str×Nat×Zcy×Zcy)->ZMN) (s:(Bool×Bool×Bool×Zgo×Zgo×Str×Nat×Zcy×Zcy)):ZMN:=Zve (fun g i f n d h a e c=>b (g,i,f,n,d,h,a,e,c)) s.1 s.2.1 s.2.2.1 s.2.2.2.1 s.2.2.2.2.1 s.2.2.2.2.2.1 s.2.2.2.2.2.2.1 s.2.2.2.2.2.2.2.1 s.2.2.2.2.2.2.2.2
theorem ZEc (n s):ZAf (n+1) s=ZAg (ZAf n) s:=rfl
def ZwP (f:Bool) (a:Str) (o e:Bool) (n d:Zgo) (c b:Zcy):ZIb:=(ZqA big f o e n d a 0 c b).bind fun(i,m,g,j,k,l,h)=>ZwO i m g j k l h
def ZrI (i:Bool->Str->Int->Int->Bool->Bool->Zgo->Zgo->Zcy->Zcy->Zcy->ZOo) (j:Bool) (a:Str) (k b:Int) (p g:Bool) (n d:Zgo) (h f e:Zcy):ZOo:=bif b<k then chk (inR b h.length) <|(h[(b).toNat]?).bind fun c=>(ZoR 10).bind fun q=>(Zjm n q).bind fun m=>(ZoR (IntKind.wrap .i64 (IntKind.wrap .u8 (c-48)))).bind fun l=>(Zpr m l).bind fun o=>chk (inK .i64 (b+1)) <|i j a k (b+1) p g o d h f e else some (j,a,p,g,n,d,f,e)
def ZsU:Nat->Bool->Str->Int->Int->Bool->Bool->Zgo->Zgo->Zcy->Zcy->Zcy->ZOo|0,_,_,_,_,_,_,_,_,_,_,_=>none|a+1,b,c,d,e,f,g,h,i,j,k,l=>ZrI (ZsU a) b c d e f g h i j k l
def ZAh (n:Nat) (s:(Bool×Str×Int×Int×Bool×Bool×Zgo×Zgo×Zcy×Zcy×Zcy)):ZOo:=ZsU n s.1 s.2.1 s.2.2.1 s.2.2.2.1 s.2.2.2.2.1 s.2.2.2.2.2.1 s.2.2.2.2.2.2.1 s.2.2.2.2.2.2.2.1 s.2.2.2.2.2.2.2.2.1 s.2.2.2.2.2.2.2.2.2.1 s.2.2.2.2.2.2.2.2.2.2
def Zvf (b:(Bool×Str×Int×Int×Bool×Bool×Zgo×Zgo×Zcy×Zcy×Zcy)->ZOo) (s:(Bool×Str×Int×Int×Bool×Bool×Zgo×Zgo×Zcy×Zcy×Zcy)):ZOo:=ZrI (fun g a j h k f n d i e c=>b (g,a,j,h,k,f,n,d,i,e,c)) s.1 s.2.1 s.2.2.1 s.2.2.2.1 s.2.2.2.2.1 s.2.2.2.2.2.1 s.2.2.2.2.2.2.1 s.2.2.2.2.2.2.2.1 s.2.2.2.2.2.2.2.2.1 s.2.2.2.2.2.2.2.2.2.1 s.2.2.2.2.2.2.2.2.2.2
theorem ZEd (n s):ZAh (n+1) s=Zvf (ZAh n) s:=rfl
def ZuI (s:Str):ZIb:=(Ztb s).bind fun(e,c,a,k)=>bif !k then some ((ZbF.mk (Zgo.mk false []) (Zgo.mk false [])),false) else (ZoR 1).bind fun d=>chk (c.length+a.length<=Zr) <|chk ((c++a).length<=281474976710656) <|(ZsU big e a (((c++a).map fun b=>((b.toNat:Nat):Int)).length:Int) 0 false false (Zgo.mk false []) d ((c++a).map fun b=>((b.toNat:Nat):Int)) [] []).bind fun(h,n,f,i,l,m,g,j)=>ZwP h n f i l m g j
def ZtS (n:Int) (d a:Bool) (c b:Zcy):ZIb:=(Zv4 n 1).bind fun(f,q)=>some (f,true)
def ZtT (e:Int) (t:Str) (f h b:Bool) (c a:Zcy):ZIb:=bif f then some ((ZbF.mk (Zgo.mk false []) (Zgo.mk false [])),false) else bif e==2 then bif t==[116,114,117,101] then ZtS 1 h b c a else ZtS 0 h b c a else bif e==5 then (ZAB t).bind fun(y,m,d,q)=>(ZBr y m d).bind fun(n,j)=>ZtS n h b c a else (ZuI t).bind fun(g,i)=>some (g,i)
def Zwh (a:Int) (s:Str):ZIb:=(Ztt a s).bind fun(t,b)=>bif !b then ZtT a t true false false [] [] else ZtT a t (a==1) false false [] []
def Zvy (c:G_api_Cell):ZIb:=bif c.Null then some ((ZbF.mk (Zgo.mk false []) (Zgo.mk false [])),false) else (Zwh 4 c.Text).bind fun(q,a)=>some (q,a)
def ZxY (a n:Int) (f e:Bool) (d c:Zcy):Option ZbF:=bif a==0 then ZlB.bind fun q=>some q else (ZqE n a).bind fun b=>some b
def Zrj (b:ZRe) (a n:Int) (h:Zvr) (g c:Int) (i f:Bool) (e d:Zcy):ZJi:=chk (inK .i64 (c+1)) <|b a n h g (c+1) i f e d
def ZsM (e:ZRe) (a n:Int) (h:Zvr) (g f:Int) (i d:Bool) (c b:Zcy):ZJi:=bif f<g then (idx h f).bind fun j=>bif j.Null then Zrj e a n h g f i d c b else chk (inK .i64 (a+1)) <|(Zvy j).bind fun(q,k)=>bif k then chk (inK .i64 (n+1)) <|Zrj e (a+1) (n+1) h g f i d c b else Zrj e (a+1) n h g f i d c b else some (a,n,i,d,c,b)
def Zri:Nat->Int->Int->Zvr->Int->Int->Bool->Bool->Zcy->Zcy->ZJi|0,_,_,_,_,_,_,_,_,_=>none|a+1,b,c,d,e,f,g,h,i,j=>ZsM (Zri a) b c d e f g h i j
def ZA7 (n:Nat) (s:(Int×Int×Zvr×Int×Int×Bool×Bool×Zcy×Zcy)):ZJi:=Zri n s.1 s.2.1 s.2.2.1 s.2.2.2.1 s.2.2.2.2.1 s.2.2.2.2.2.1 s.2.2.2.2.2.2.1 s.2.2.2.2.2.2.2.1 s.2.2.2.2.2.2.2.2
def ZwE (b:ZWL) (s:(Int×Int×Zvr×Int×Int×Bool×Bool×Zcy×Zcy)):ZJi:=ZsM (fun a n h g f i e d c=>b (a,n,h,g,f,i,e,d,c)) s.1 s.2.1 s.2.2.1 s.2.2.2.1 s.2.2.2.2.1 s.2.2.2.2.2.1 s.2.2.2.2.2.2.1 s.2.2.2.2.2.2.2.1 s.2.2.2.2.2.2.2.2
theorem ZEO (n s):ZA7 (n+1) s=ZwE (ZA7 n) s:=rfl
def Zs8 (c:G_api_Column):Option ZbF:=(Zri big 0 0 c.Cells c.Cells.length 0 false false [] []).bind fun(b,g,a,d,e,f)=>ZxY b g a d e f
def Zqb (c:Bool) (f:ZbF):Option Bool:=bif c then some false else bif (f.Num.Words.length:Int)==0 then (ZpD f.Den.Words ([1]:Zcy)).bind fun q=>some (q==0) else (ZuU f.Num.Words f.Den.Words).bind fun b=>(ZpD b ([1]:Zcy)).bind fun a=>some (a==0)
def ZoU (f:ZbF):Option Bool:=(Zqc f.Num).bind fun q=>bif !q then Zqb true f else (Zqc f.Den).bind fun a=>bif !a then Zqb true f else bif f.Den.Neg then Zqb true f else Zqb ((f.Den.Words.length:Int)==0) f
def Ztz (a e c:Bool) (f:ZbF) (d b:Zcy):ZGS:=bif a then some ((ZbF.mk (Zgo.mk false []) (Zgo.mk false [])),3) else some (f,0)
def ZqF (a b:Zgo):ZGS:=(ZqG a b).bind fun f=>bif (f.Num.Words.length:Int)>256 then Ztz true false false f [] [] else Ztz ((f.Den.Words.length:Int)>256) false false f [] []
def ZvM (e:Bool) (a b:ZbF) (m k:Bool) (l j:Zcy):ZGS:=bif e then some ((ZbF.mk (Zgo.mk false []) (Zgo.mk false [])),1) else (Zjm a.Num b.Den).bind fun q=>(Zjm b.Num a.Den).bind fun d=>(Zqe d).bind fun c=>(Zpr q c).bind fun i=>(Zjm a.Den b.Den).bind fun g=>(ZqF i g).bind fun(f,h)=>some (f,h)
def ZyE (a b:ZbF):ZGS:=(ZoU a).bind fun q=>bif !q then ZvM true a b false false [] [] else (ZoU b).bind fun c=>ZvM (!c) a b false false [] []
def ZpX (a b:ZbF):Option ZbF:=(ZyE a b).bind fun(f,q)=>some f
def ZvO (e:Bool) (a b:ZbF):Option Int:=bif e then some 0 else (Zjm a.Num b.Den).bind fun q=>(Zjm b.Num a.Den).bind fun d=>(Zqe d).bind fun c=>(Zpr q c).bind fun f=>bif (f.Words.length:Int)==0 then some 0 else bif f.Neg then some (-1) else some 1
def ZuX (a b:ZbF):Option Int:=(ZoU a).bind fun q=>bif !q then ZvO true a b else (ZoU b).bind fun c=>ZvO (!c) a b
def ZrB (a b:ZbF):Option Bool:=(ZuX a b).bind fun q=>some (q<0)
def ZyA (a:ZbF):Option ZbF:=ZlB.bind fun q=>(ZrB a q).bind fun c=>bif c then ZlB.bind fun b=>(ZpX b a).bind fun d=>some d else some a
def ZvP (e:Bool) (a b:ZbF) (l j:Bool) (k i:Zcy):ZGS:=bif e then some ((ZbF.mk (Zgo.mk false []) (Zgo.mk false [])),1) else (Zjm a.Num b.Den).bind fun q=>(Zjm b.Num a.Den).bind fun d=>(Zpr q d).bind fun c=>(Zjm a.Den b.Den).bind fun h=>(ZqF c h).bind fun(g,f)=>some (g,f)
def ZyG (a b:ZbF):ZGS:=(ZoU a).bind fun q=>bif !q then ZvP true a b false false [] [] else (ZoU b).bind fun c=>ZvP (!c) a b false false [] []
def ZpY (a b:ZbF):Option ZbF:=(ZyG a b).bind fun(f,q)=>some f
def ZvN (e:Bool) (a b:ZbF) (j h:Bool) (i g:Zcy):ZGS:=bif e then some ((ZbF.mk (Zgo.mk false []) (Zgo.mk false [])),1) else bif (b.Num.Words.length:Int)==0 then some ((ZbF.mk (Zgo.mk false []) (Zgo.mk false [])),8) else (Zjm a.Num b.Den).bind fun q=>(Zjm a.Den b.Num).bind fun d=>(ZqF q d).bind fun(c,f)=>some (c,f)
def ZyF (a b:ZbF):ZGS:=(ZoU a).bind fun q=>bif !q then ZvN true a b false false [] [] else (ZoU b).bind fun c=>ZvN (!c) a b false false [] []
def ZuT (a b:ZbF):Option ZbF:=(ZyF a b).bind fun(f,q)=>some f
def Zq6 (i:Bool) (a b:G_api_Column) (u s:Bool) (r n:ZbF) (t p:Zcy):Option ZbF:=bif i then ZlB.bind fun q=>some q else (Zs8 a).bind fun e=>(Zs8 b).bind fun c=>(ZpX e c).bind fun m=>(ZyA m).bind fun d=>(ZpY r r).bind fun k=>(ZpY k n).bind fun j=>(Zpa 1).bind fun l=>(ZpX l d).bind fun h=>(ZpY j h).bind fun o=>(Zpa 4).bind fun f=>(ZuT o f).bind fun g=>some g
def Zzd (a b:G_api_Column):Option ZbF:=(Zvx a b).bind fun d=>(Zwg a.Name b.Name).bind fun n=>ZlB.bind fun q=>(Zo5 d q).bind fun f=>bif f then ZlB.bind fun c=>(Zo5 n c).bind fun e=>Zq6 e a b false false d n [] [] else Zq6 false a b false false d n [] []
def ZxS:Option Int:=some 0
def ZxT (a:ZQ6) (c:List Zo9) (d b:Int):ZC5:=chk (inK .i64 (b+1)) <|a c d (b+1)
def ZsI (c:ZWI) (b:List Zo9) (g e:Int) (f:Zo9) (d a:Int):ZKe:=bif a<d then (idx f a).bind fun i=>ZlB.bind fun q=>(ZrB i q).bind fun h=>bif h then some (.ret 2) else chk (inK .i64 (a+1)) <|c b g e f d (a+1) else some (.brk (b,g,e))
def ZtN:Nat->(List Zo9)->Int->Int->Zo9->Int->Int->ZKe|0,_,_,_,_,_,_=>none|a+1,b,c,d,e,f,g=>ZsI (ZtN a) b c d e f g
def ZA1 (n:Nat) (s:((List Zo9)×Int×Int×Zo9×Int×Int)):ZKe:=ZtN n s.1 s.2.1 s.2.2.1 s.2.2.2.1 s.2.2.2.2.1 s.2.2.2.2.2
def Zwz (a:ZWJ) (s:((List Zo9)×Int×Int×Zo9×Int×Int)):ZKe:=ZsI (fun b g e f d c=>a (b,g,e,f,d,c)) s.1 s.2.1 s.2.2.1 s.2.2.2.1 s.2.2.2.2.1 s.2.2.2.2.2
theorem ZEJ (n s):ZA1 (n+1) s=Zwz (ZA1 n) s:=rfl
def ZsJ (c:ZQ6) (b:List Zo9) (d a:Int):ZC5:=bif a<d then (idx b a).bind fun e=>(ZtN big b d a e e.length 0).bind fun| .ret f=>some (.ret f)| .brk (x0,x1,x2)=>ZxT c x0 x1 x2 else some (.brk ())
def Zrg:Nat->(List Zo9)->Int->Int->ZC5|0,_,_,_=>none|a+1,b,c,d=>ZsJ (Zrg a) b c d
def ZA2 (n:Nat) (s:((List Zo9)×Int×Int)):ZC5:=Zrg n s.1 s.2.1 s.2.2
def ZwA (a:ZWx) (s:((List Zo9)×Int×Int)):ZC5:=ZsJ (fun b d c=>a (b,d,c)) s.1 s.2.1 s.2.2
theorem ZEK (n s):ZA2 (n+1) s=ZwA (ZA2 n) s:=rfl
def ZxU (a:List Zo9):Option Int:=(Zrg big a a.length 0).bind fun| .ret b=>some b| .brk ()=>ZxS
def ZsK (c:ZRb) (f:List Zo9) (d:List Zo9) (e a:Int):ZHj:=bif a<e then (idx d a).bind fun g=>(idx f 0).bind fun b=>bif (g.length:Int)!=(b.length:Int) then some (.ret 1) else chk (inK .i64 (a+1)) <|c f d e (a+1) else some (.brk f)
def ZtO:Nat->(List Zo9)->(List Zo9)->Int->Int->ZHj|0,_,_,_,_=>none|a+1,b,c,d,e=>ZsK (ZtO a) b c d e
def ZA3 (n:Nat) (s:((List Zo9)×(List Zo9)×Int×Int)):ZHj:=ZtO n s.1 s.2.1 s.2.2.1 s.2.2.2
def ZwB (a:ZRc) (s:((List Zo9)×(List Zo9)×Int×Int)):ZHj:=ZsK (fun e c d b=>a (e,c,d,b)) s.1 s.2.1 s.2.2.1 s.2.2.2
theorem ZEL (n s):ZA3 (n+1) s=ZwB (ZA3 n) s:=rfl
def ZxV (a:List Zo9):Option Int:=(ZtO big a a a.length 0).bind fun| .ret b=>some b| .brk c=>ZxU c
def ZsL (c:ZRb) (e:List Zo9) (d:List Zo9) (b a:Int):ZHj:=bif a<b then (idx d a).bind fun f=>bif (f.length:Int)>8 then some (.ret 3) else chk (inK .i64 (a+1)) <|c e d b (a+1) else some (.brk e)
def ZtP:Nat->(List Zo9)->(List Zo9)->Int->Int->ZHj|0,_,_,_,_=>none|a+1,b,c,d,e=>ZsL (ZtP a) b c d e
def ZA4 (n:Nat) (s:((List Zo9)×(List Zo9)×Int×Int)):ZHj:=ZtP n s.1 s.2.1 s.2.2.1 s.2.2.2
def ZwC (a:ZRc) (s:((List Zo9)×(List Zo9)×Int×Int)):ZHj:=ZsL (fun e d c b=>a (e,d,c,b)) s.1 s.2.1 s.2.2.1 s.2.2.2
theorem ZEM (n s):ZA4 (n+1) s=ZwC (ZA4 n) s:=rfl
def Zwf (a:List Zo9):Option Int:=bif (a.length:Int)>8 then some 3 else (ZtP big a a a.length 0).bind fun| .ret b=>some b| .brk c=>ZxV c
def ZyS (g:(List Zo9)->Int->Int->(List (Ziw×ZbF))->ZFi) (b:(List (Ziw×ZbF))) (h d:Bool) (c:Ziw) (a:ZbF) (f e:Zcy):ZFi:=some (a,(setB (q:=ZJs) (k:=(.st 7)) (v:=(.st 4)) (car:=Zz1) b c a))
def Zqn (m:(List Zo9)->Int->Int->(List (Ziw×ZbF))->ZFi) (c:Tf_3) (n:List Zo9) (h left:Int) (i:Zo9) (g k:Int) (d:(List (Ziw×ZbF))) (l b:Bool) (j:Ziw) (a:ZbF) (f e:Zcy):ZTx:=chk (inK .i64 (k+1)) <|c n h left i g (k+1) d l b j a f e
def Ztm (i:(List Zo9)->Int->Int->(List (Ziw×ZbF))->ZFi) (e:Tf_3) (o:List Zo9) (g left:Int) (j:Zo9) (h k:Int) (f:(List (Ziw×ZbF))) (n b:Bool) (l:Ziw) (a:ZbF) (d c:Zcy):ZTx:=bif k<h then (idx j k).bind fun r=>chk (0<=(IntKind.wrap .u64 k)) <|bif ((andK .i64 (shrK .i64 left (IntKind.wrap .u64 k)) 1)==0)then Zqn i e o g left j h k f n b l a d c else chk (inK .i64 (g+1)) <|chk (0<=(IntKind.wrap .u64 k)) <|(i o (g+1) (andNotK .i64 left (shlK .i64 1 (IntKind.wrap .u64 k))) f).bind fun(q,m)=>(ZpY r q).bind fun s=>(ZrB a s).bind fun p=>bif p then Zqn i e o g left j h k m n b l s d c else Zqn i e o g left j h k m n b l a d c else some (f,n,b,l,a,d,c)
def ZoP (a:(List Zo9)->Int->Int->(List (Ziw×ZbF))->ZFi):Nat->(List Zo9)->Int->Int->Zo9->Int->Int->(List (Ziw×ZbF))->Bool->Bool->Ziw->ZbF->Zcy->Zcy->ZTx|0,_,_,_,_,_,_,_,_,_,_,_,_,_=>none|b+1,c,d,e,f,g,h,i,j,k,l,m,n,o=>Ztm a (ZoP a b) c d e f g h i j k l m n o
def ZBL (a:(List Zo9)->Int->Int->(List (Ziw×ZbF))->ZFi) (n:Nat) (s:((List Zo9)×Int×Int×Zo9×Int×Int×(List (Ziw×ZbF))×Bool×Bool×Ziw×ZbF×Zcy×Zcy)):ZTx:=ZoP a n s.1 s.2.1 s.2.2.1 s.2.2.2.1 s.2.2.2.2.1 s.2.2.2.2.2.1 s.2.2.2.2.2.2.1 s.2.2.2.2.2.2.2.1 s.2.2.2.2.2.2.2.2.1 s.2.2.2.2.2.2.2.2.2.1 s.2.2.2.2.2.2.2.2.2.2.1 s.2.2.2.2.2.2.2.2.2.2.2.1 s.2.2.2.2.2.2.2.2.2.2.2.2
def ZFu (h:(List Zo9)->Int->Int->(List (Ziw×ZbF))->ZFi) (c:((List Zo9)×Int×Int×Zo9×Int×Int×(List (Ziw×ZbF))×Bool×Bool×Ziw×ZbF×Zcy×Zcy)->ZTx) (s:((List Zo9)×Int×Int×Zo9×Int×Int×(List (Ziw×ZbF))×Bool×Bool×Ziw×ZbF×Zcy×Zcy)):ZTx:=Ztm h (fun n i left j g k d m b l a f e=>c (n,i,left,j,g,k,d,m,b,l,a,f,e)) s.1 s.2.1 s.2.2.1 s.2.2.2.1 s.2.2.2.2.1 s.2.2.2.2.2.1 s.2.2.2.2.2.2.1 s.2.2.2.2.2.2.2.1 s.2.2.2.2.2.2.2.2.1 s.2.2.2.2.2.2.2.2.2.1 s.2.2.2.2.2.2.2.2.2.2.1 s.2.2.2.2.2.2.2.2.2.2.2.1 s.2.2.2.2.2.2.2.2.2.2.2.2
theorem ZJa (a:(List Zo9)->Int->Int->(List (Ziw×ZbF))->ZFi):∀n s,ZBL a (n+1) s=ZFu a (ZBL a n) s:=fun _ _=>rfl
def Zzx (d:(List Zo9)->Int->Int->(List (Ziw×ZbF))->ZFi) (f:List Zo9) (a left:Int) (b:(List (Ziw×ZbF))):ZFi:=bif a==f.length then ZlB.bind fun q=>some (q,b) else bif (Zhx (q:=ZJs) (k:=(.st 7)) (v:=(.st 4)) (car:=Zz1) b (Ziw.mk a left)).isSome then some (((Zhx (q:=ZJs) (k:=(.st 7)) (v:=(.st 4)) (car:=Zz1) b (Ziw.mk a left)).getD (ZbF.mk (Zgo.mk false []) (Zgo.mk false []))),b) else chk (inK .i64 (a+1)) <|(d f (a+1) left b).bind fun(e,m)=>(idx f a).bind fun c=>(ZoP d big f a left c c.length 0 m false false (Ziw.mk a left) e [] []).bind fun(i,o,g,j,l,n,h)=>ZyS d i o g j l n h
def Zk3:Nat->(List Zo9)->Int->Int->(List (Ziw×ZbF))->ZFi|0,_,_,_,_=>none|a+1,b,c,d,e=>Zzx (Zk3 a) b c d e
def ZCU (f c:Bool) (b:ZbF) (a e d:Zcy):ZJh:=some (a,b,0)
def ZrP (b:ZZh) (m:List Zo9) (left a:Int) (j:List Zo9) (i d:Int) (l e:Bool) (f:(List (Ziw×ZbF))) (k rest:ZbF) (c h g:Zcy):ZPF:=chk (ZjC (c.length+[a].length) 8) <|chk (inK .i64 (d+1)) <|b m left j i (d+1) l e f k rest (c++[a]) h g
def ZyT (c:ZZh) (o:List Zo9) (left:Int) (p:Zo9) (a:Int) (l:List Zo9) (k j:Int) (n d:Bool) (e:(List (Ziw×ZbF))) (m rest:ZbF) (i g f:Zcy):ZPF:=bif a>=0 then chk (0<=(IntKind.wrap .u64 a)) <|(idx p a).bind fun h=>(ZpX rest h).bind fun b=>ZrP c o (andNotK .i64 left (shlK .i64 1 (IntKind.wrap .u64 a))) a l k j n d e m b i g f else ZrP c o left a l k j n d e m rest i g f
def ZrQ (b:ZZi) (r:List Zo9) (left j:Int) (p:Zo9) (f:Int) (m:List Zo9) (l a:Int) (o:Zo9) (i k:Int) (q c:Bool) (d:(List (Ziw×ZbF))) (n rest:ZbF) (h g e:Zcy):ZWv:=chk (inK .i64 (k+1)) <|b r left j p f m l a o i (k+1) q c d n rest h g e
def Zqo (f:ZZi) (t:List Zo9) (left e:Int) (u:Zo9) (h k:Int) (j:List Zo9) (i a:Int) (o:Zo9) (p r:Int) (w x b:Bool) (g:(List (Ziw×ZbF))) (l rest:ZbF) (n:Zcy) (y:ZbF) (c d:Zcy):ZWv:=bif w then ZrQ f t left e u h j i a o p r x b g l rest n c d else chk (inK .i64 (e+1)) <|chk (0<=(IntKind.wrap .u64 k)) <|(Zk3 big t (e+1) (andNotK .i64 left (shlK .i64 1 (IntKind.wrap .u64 k))) g).bind fun(q,m)=>(ZpY y q).bind fun s=>(Zo5 s rest).bind fun v=>bif v then some (t,left,u,k,j,i,a,x,b,m,l,rest,n,c,d) else ZrQ f t left e u h j i a o p r x b m l rest n c d
def Zxa (g:ZZi) (s:List Zo9) (left o:Int) (p:Zo9) (d:Int) (i:List Zo9) (h a:Int) (l:Zo9) (m k:Int) (t b:Bool) (c:(List (Ziw×ZbF))) (j rest:ZbF) (n e f:Zcy):ZWv:=bif k<m then (idx l k).bind fun u=>chk (0<=(IntKind.wrap .u64 k)) <|bif ((andK .i64 (shrK .i64 left (IntKind.wrap .u64 k)) 1)==0)then Zqo g s left o p d k i h a l m k true t b c j rest n u e f else ZlB.bind fun q=>(ZuX u q).bind fun r=>Zqo g s left o p d k i h a l m k (r==0) t b c j rest n u e f else some (s,left,p,d,i,h,a,t,b,c,j,rest,n,e,f)
def ZoK:Nat->(List Zo9)->Int->Int->Zo9->Int->(List Zo9)->Int->Int->Zo9->Int->Int->Bool->Bool->(List (Ziw×ZbF))->ZbF->ZbF->Zcy->Zcy->Zcy->ZWv|0,_,_,_,_,_,_,_,_,_,_,_,_,_,_,_,_,_,_,_=>none|a+1,b,c,d,e,f,g,h,i,j,k,l,m,n,o,p,q,r,s,t=>Zxa (ZoK a) b c d e f g h i j k l m n o p q r s t
def Zxb (e:ZZh) (v:List Zo9) (left:Int) (g:List Zo9) (f a:Int) (q b:Bool) (i:(List (Ziw×ZbF))) (h rest:ZbF) (j c d:Zcy):ZPF:=bif a<f then (idx g a).bind fun l=>(ZoK big v left a l (-1) g f a l l.length 0 q b i h rest j c d).bind fun(t,x,r,u,s,B,z,A,w,y,n,m,k,p,o)=>ZyT e t x r u s B z A w y n m k p o else some (q,b,h,j,c,d)
def ZoQ:Nat->(List Zo9)->Int->(List Zo9)->Int->Int->Bool->Bool->(List (Ziw×ZbF))->ZbF->ZbF->Zcy->Zcy->Zcy->ZPF|0,_,_,_,_,_,_,_,_,_,_,_,_,_=>none|a+1,b,c,d,e,f,g,h,i,j,k,l,m,n=>Zxb (ZoQ a) b c d e f g h i j k l m n
def Zxc (a:List Zo9):ZJh:=(Zwf a).bind fun e=>bif e != 0 then some ([],(ZbF.mk (Zgo.mk false []) (Zgo.mk false [])),e) else (Zk3 big a 0 255 ([]:(List (Ziw×ZbF)))).bind fun(b,m)=>(ZoQ big a 255 a a.length 0 false false m b b [] [] []).bind fun(d,i,c,f,g,h)=>ZCU d i c f g h
def ZxQ (a b:G_api_Table) (j h:Bool) (i:List Zo9) (f g:Zcy):ZJh:=(Zxc i).bind fun(l,s,q)=>bif (if (b.Columns.length:Int)>(a.Columns.length:Int)then (b.Columns.length:Int)else (a.Columns.length:Int))==0 then ZlB.bind fun d=>some (([]:Zcy),d,0) else ((Zpa (if (b.Columns.length:Int)>(a.Columns.length:Int)then (b.Columns.length:Int)else (a.Columns.length:Int))).bind fun c=>(ZuT s c).bind fun e=>some (l,e,0))
def ZxR (d:ZRg) (i:ZkT) (j c:Int) (a b:G_api_Table) (l h:Bool) (k:List Zo9) (e:Zo9) (f g:Zcy):ZJj:=chk (ZjC (k.length+[e].length) 24) <|chk (inK .i64 (c+1)) <|d i j (c+1) a b l h (k++[e]) f g
def ZsG (i:Tf_6) (k:ZkT) (l h:Int) (m:ZkT) (j c:Int) (a b:G_api_Table) (p f:Bool) (o:List Zo9) (n:G_api_Column) (g:Zo9) (d e:Zcy):ZQb:=bif c<j then (idx m c).bind fun y=>(Zzd n y).bind fun q=>chk (ZjC (g.length+[q].length) 64) <|chk (inK .i64 (c+1)) <|i k l h m j (c+1) a b p f o n (g++[q]) d e else some (k,l,h,a,b,p,f,o,g,d,e)
def ZtL:Nat->ZkT->Int->Int->ZkT->Int->Int->G_api_Table->G_api_Table->Bool->Bool->(List Zo9)->G_api_Column->Zo9->Zcy->Zcy->ZQb|0,_,_,_,_,_,_,_,_,_,_,_,_,_,_,_=>none|a+1,b,c,d,e,f,g,h,i,j,k,l,m,n,o,p=>ZsG (ZtL a) b c d e f g h i j k l m n o p
def ZAZ (n:Nat) (s:(ZkT×Int×Int×ZkT×Int×Int×G_api_Table×G_api_Table×Bool×Bool×(List Zo9)×G_api_Column×Zo9×Zcy×Zcy)):ZQb:=ZtL n s.1 s.2.1 s.2.2.1 s.2.2.2.1 s.2.2.2.2.1 s.2.2.2.2.2.1 s.2.2.2.2.2.2.1 s.2.2.2.2.2.2.2.1 s.2.2.2.2.2.2.2.2.1 s.2.2.2.2.2.2.2.2.2.1 s.2.2.2.2.2.2.2.2.2.2.1 s.2.2.2.2.2.2.2.2.2.2.2.1 s.2.2.2.2.2.2.2.2.2.2.2.2.1 s.2.2.2.2.2.2.2.2.2.2.2.2.2.1 s.2.2.2.2.2.2.2.2.2.2.2.2.2.2
def Zwx (c:Tf_5) (s:(ZkT×Int×Int×ZkT×Int×Int×G_api_Table×G_api_Table×Bool×Bool×(List Zo9)×G_api_Column×Zo9×Zcy×Zcy)):ZQb:=ZsG (fun k l g m i h a b p f o n j d e=>c (k,l,g,m,i,h,a,b,p,f,o,n,j,d,e)) s.1 s.2.1 s.2.2.1 s.2.2.2.1 s.2.2.2.2.1 s.2.2.2.2.2.1 s.2.2.2.2.2.2.1 s.2.2.2.2.2.2.2.1 s.2.2.2.2.2.2.2.2.1 s.2.2.2.2.2.2.2.2.2.1 s.2.2.2.2.2.2.2.2.2.2.1 s.2.2.2.2.2.2.2.2.2.2.2.1 s.2.2.2.2.2.2.2.2.2.2.2.2.1 s.2.2.2.2.2.2.2.2.2.2.2.2.2.1 s.2.2.2.2.2.2.2.2.2.2.2.2.2.2
theorem ZEH (n s):ZAZ (n+1) s=Zwx (ZAZ n) s:=rfl
def ZsH (g:ZRg) (h:ZkT) (i f:Int) (a b:G_api_Table) (l e:Bool) (k:List Zo9) (d c:Zcy):ZJj:=bif f<i then (idx h f).bind fun u=>(ZtL big h i f b.Columns b.Columns.length 0 a b l e k u [] d c).bind fun(o,q,m,p,n,v,s,t,w,r,j)=>ZxR g o q m p n v s t w r j else some (a,b,l,e,k,d,c)
def Zrf:Nat->ZkT->Int->Int->G_api_Table->G_api_Table->Bool->Bool->(List Zo9)->Zcy->Zcy->ZJj|0,_,_,_,_,_,_,_,_,_,_=>none|a+1,b,c,d,e,f,g,h,i,j,k=>ZsH (Zrf a) b c d e f g h i j k
def ZA0 (n:Nat) (s:(ZkT×Int×Int×G_api_Table×G_api_Table×Bool×Bool×(List Zo9)×Zcy×Zcy)):ZJj:=Zrf n s.1 s.2.1 s.2.2.1 s.2.2.2.1 s.2.2.2.2.1 s.2.2.2.2.2.1 s.2.2.2.2.2.2.1 s.2.2.2.2.2.2.2.1 s.2.2.2.2.2.2.2.2.1 s.2.2.2.2.2.2.2.2.2
def Zwy (c:ZWY) (s:(ZkT×Int×Int×G_api_Table×G_api_Table×Bool×Bool×(List Zo9)×Zcy×Zcy)):ZJj:=ZsH (fun h i g a b k f j d e=>c (h,i,g,a,b,k,f,j,d,e)) s.1 s.2.1 s.2.2.1 s.2.2.2.1 s.2.2.2.2.1 s.2.2.2.2.2.1 s.2.2.2.2.2.2.1 s.2.2.2.2.2.2.2.1 s.2.2.2.2.2.2.2.2.1 s.2.2.2.2.2.2.2.2.2
theorem ZEI (n s):ZA0 (n+1) s=Zwy (ZA0 n) s:=rfl
def ZtM (f:Bool) (a b:G_api_Table) (k e:Bool) (c d:Zcy):ZJh:=bif f then some ([],(ZbF.mk (Zgo.mk false []) (Zgo.mk false [])),3) else (Zrf big a.Columns a.Columns.length 0 a b k e [] c d).bind fun(i,n,g,j,l,m,h)=>ZxQ i n g j l m h
def Zp5 (f:Bool) (a b:G_api_Table) (g e:Bool) (c d:Zcy):ZJh:=bif f then some (([]:Zcy),(ZbF.mk (Zgo.mk false []) (Zgo.mk false [])),1) else bif (a.Columns.length:Int)>8 then ZtM true a b g e c d else ZtM ((b.Columns.length:Int)>8) a b g e c d
def ZoT (a b:G_api_Table):ZJh:=(Znd a).bind fun q=>bif !q then Zp5 true a b false false [] [] else (Znd b).bind fun c=>Zp5 (!c) a b false false [] []
def Zw9 (f:Int) (e:Str) (c:Int) (b:Str) (d a:ZkT):ZHi:=some ((G_api_Table.mk c b a),0)
def ZxN (f:ZWW) (e:Zcy) (n:Int) (k:ZkT) (g i:Int) (b:G_api_Table) (o:Int) (j:Str) (l:Int) (d m:Str) (h a:ZkT) (c:Zvr):ZGT:=chk (ZjC (a.length+[(G_api_Column.mk m c)].length) 40) <|chk (inK .i64 (i+1)) <|f e n k g (i+1) b o j l d h (a++[(G_api_Column.mk m c)])
def ZtI (g:Tf_8) (e:Zcy) (n i:Int) (l:ZkT) (h o f p:Int) (b:G_api_Table) (r:Int) (k:Str) (m:Int) (d q:Str) (y:G_api_Cell) (j c:ZkT) (a:Zvr):ZTw:=chk (ZjC (a.length+[y].length) 24) <|chk (inK .i64 (p+1)) <|g e n i l h o f (p+1) b r k m d q j c (a++[y])
def ZsB (o:Tf_8) (a:Zcy) (n i:Int) (m:ZkT) (h q f r:Int) (b:G_api_Table) (t:Int) (l:Str) (p:Int) (e s:Str) (j d:ZkT) (k:Zvr):ZTw:=bif r<f then (idx a i).bind fun g=>bif g>=0 then (idx a i).bind fun c=>(idx b.Columns c).bind fun Column=>(idx Column.Cells r).bind fun y=>ZtI o a n i m h q f r b t l p e s y j d k else ZtI o a n i m h q f r b t l p e s (G_api_Cell.mk true []) j d k else some (a,n,m,h,q,b,t,l,p,e,s,j,d,k)
def Zpz:Nat->Zcy->Int->Int->ZkT->Int->Int->Int->Int->G_api_Table->Int->Str->Int->Str->Str->ZkT->ZkT->Zvr->ZTw|0,_,_,_,_,_,_,_,_,_,_,_,_,_,_,_,_,_=>none|a+1,b,c,d,e,f,g,h,i,j,k,l,m,n,o,p,q,r=>ZsB (Zpz a) b c d e f g h i j k l m n o p q r
def ZAU (n:Nat) (s:(Zcy×Int×Int×ZkT×Int×Int×Int×Int×G_api_Table×Int×Str×Int×Str×Str×ZkT×ZkT×Zvr)):ZTw:=Zpz n s.1 s.2.1 s.2.2.1 s.2.2.2.1 s.2.2.2.2.1 s.2.2.2.2.2.1 s.2.2.2.2.2.2.1 s.2.2.2.2.2.2.2.1 s.2.2.2.2.2.2.2.2.1 s.2.2.2.2.2.2.2.2.2.1 s.2.2.2.2.2.2.2.2.2.2.1 s.2.2.2.2.2.2.2.2.2.2.2.1 s.2.2.2.2.2.2.2.2.2.2.2.2.1 s.2.2.2.2.2.2.2.2.2.2.2.2.2.1 s.2.2.2.2.2.2.2.2.2.2.2.2.2.2.1 s.2.2.2.2.2.2.2.2.2.2.2.2.2.2.2.1 s.2.2.2.2.2.2.2.2.2.2.2.2.2.2.2.2
def Zws (f:(Zcy×Int×Int×ZkT×Int×Int×Int×Int×G_api_Table×Int×Str×Int×Str×Str×ZkT×ZkT×Zvr)->ZTw) (s:(Zcy×Int×Int×ZkT×Int×Int×Int×Int×G_api_Table×Int×Str×Int×Str×Str×ZkT×ZkT×Zvr)):ZTw:=ZsB (fun d n i l g o e p b r k m c q h a j=>f (d,n,i,l,g,o,e,p,b,r,k,m,c,q,h,a,j)) s.1 s.2.1 s.2.2.1 s.2.2.2.1 s.2.2.2.2.1 s.2.2.2.2.2.1 s.2.2.2.2.2.2.1 s.2.2.2.2.2.2.2.1 s.2.2.2.2.2.2.2.2.1 s.2.2.2.2.2.2.2.2.2.1 s.2.2.2.2.2.2.2.2.2.2.1 s.2.2.2.2.2.2.2.2.2.2.2.1 s.2.2.2.2.2.2.2.2.2.2.2.2.1 s.2.2.2.2.2.2.2.2.2.2.2.2.2.1 s.2.2.2.2.2.2.2.2.2.2.2.2.2.2.1 s.2.2.2.2.2.2.2.2.2.2.2.2.2.2.2.1 s.2.2.2.2.2.2.2.2.2.2.2.2.2.2.2.2
theorem ZEC (n s):ZAU (n+1) s=Zws (ZAU n) s:=rfl
def ZsC (k:ZWW) (j:Zcy) (n:Int) (h:ZkT) (f i:Int) (b:G_api_Table) (r:Int) (e:Str) (l:Int) (a:Str) (g d:ZkT):ZGT:=bif i<f then (idx h i).bind fun c=>chk (ZjC c.Cells.length 24) <|(Zpz big j n i h f i n 0 b r e l a c.Name g d c.Cells).bind fun(u,x,s,v,t,B,z,A,w,y,p,o,m,q)=>ZxN k u x s v t B z A w y p o m q else some (r,e,l,a,g,d)
def Zrd:Nat->Zcy->Int->ZkT->Int->Int->G_api_Table->Int->Str->Int->Str->ZkT->ZkT->ZGT|0,_,_,_,_,_,_,_,_,_,_,_,_=>none|a+1,b,c,d,e,f,g,h,i,j,k,l,m=>ZsC (Zrd a) b c d e f g h i j k l m
def ZAV (n:Nat) (s:(Zcy×Int×ZkT×Int×Int×G_api_Table×Int×Str×Int×Str×ZkT×ZkT)):ZGT:=Zrd n s.1 s.2.1 s.2.2.1 s.2.2.2.1 s.2.2.2.2.1 s.2.2.2.2.2.1 s.2.2.2.2.2.2.1 s.2.2.2.2.2.2.2.1 s.2.2.2.2.2.2.2.2.1 s.2.2.2.2.2.2.2.2.2.1 s.2.2.2.2.2.2.2.2.2.2.1 s.2.2.2.2.2.2.2.2.2.2.2
def Zwt (e:(Zcy×Int×ZkT×Int×Int×G_api_Table×Int×Str×Int×Str×ZkT×ZkT)->ZGT) (s:(Zcy×Int×ZkT×Int×Int×G_api_Table×Int×Str×Int×Str×ZkT×ZkT)):ZGT:=ZsC (fun d n j f i b l h k c g a=>e (d,n,j,f,i,b,l,h,k,c,g,a)) s.1 s.2.1 s.2.2.1 s.2.2.2.1 s.2.2.2.2.1 s.2.2.2.2.2.1 s.2.2.2.2.2.2.1 s.2.2.2.2.2.2.2.1 s.2.2.2.2.2.2.2.2.1 s.2.2.2.2.2.2.2.2.2.1 s.2.2.2.2.2.2.2.2.2.2.1 s.2.2.2.2.2.2.2.2.2.2.2
theorem ZED (n s):ZAV (n+1) s=Zwt (ZAV n) s:=rfl
def Zre (c:Zcy) (n:Int) (f:Bool) (a b:G_api_Table) (j:Int) (e:Str) (d:ZkT):ZHi:=bif f then some ((G_api_Table.mk 0 [] []),3) else (Zrd big c n a.Columns a.Columns.length 0 b j e a.ID a.Name d []).bind fun(h,l,g,i,k,m)=>Zw9 h l g i k m
def ZtH (c:Zcy) (a b:G_api_Table) (f:Int) (e:Str) (d:ZkT):ZHi:=(ZpM b).bind fun n=>bif (a.Columns.length:Int)>0 then (ZpM a).bind fun q=>chk (inK .i64 (q+n)) <|Zre c n ((q+n)>4096) a b f e d else Zre c n false a b f e d
def ZxO (d:ZL2) (c h:Zcy) (g i:Int) (a b:G_api_Table) (j:Int) (f:Str) (e:ZkT):ZKa:=chk (inK .i64 (i+1)) <|d c h g (i+1) a b j f e
def ZtJ (d:Tf_9) (c:Zcy) (k:Int) (m:Zcy) (n i:Int) (h:Zcy) (j f:Int) (l:Bool) (a b:G_api_Table) (o:Int) (g:Str) (e:ZkT):ZTz:=bif l then some (.ret ((G_api_Table.mk 0 [] []),6)) else chk (inK .i64 (f+1)) <|d c k m n i h j (f+1) a b o g e
def ZsD (g:Tf_9) (c:Zcy) (k:Int) (l:Zcy) (m i:Int) (h:Zcy) (j f:Int) (a b:G_api_Table) (n:Int) (e:Str) (d:ZkT):ZTz:=bif f<j then (idx h f).bind fun o=>bif k>=0 then ZtJ g c k l m i h j f (k==o) a b n e d else ZtJ g c k l m i h j f false a b n e d else some (.brk (c,l,m,i,a,b,n,e,d))
def Zp2:Nat->Zcy->Int->Zcy->Int->Int->Zcy->Int->Int->G_api_Table->G_api_Table->Int->Str->ZkT->ZTz|0,_,_,_,_,_,_,_,_,_,_,_,_,_=>none|a+1,b,c,d,e,f,g,h,i,j,k,l,m,n=>ZsD (Zp2 a) b c d e f g h i j k l m n
def ZAW (n:Nat) (s:(Zcy×Int×Zcy×Int×Int×Zcy×Int×Int×G_api_Table×G_api_Table×Int×Str×ZkT)):ZTz:=Zp2 n s.1 s.2.1 s.2.2.1 s.2.2.2.1 s.2.2.2.2.1 s.2.2.2.2.2.1 s.2.2.2.2.2.2.1 s.2.2.2.2.2.2.2.1 s.2.2.2.2.2.2.2.2.1 s.2.2.2.2.2.2.2.2.2.1 s.2.2.2.2.2.2.2.2.2.2.1 s.2.2.2.2.2.2.2.2.2.2.2.1 s.2.2.2.2.2.2.2.2.2.2.2.2
def Zwu (d:(Zcy×Int×Zcy×Int×Int×Zcy×Int×Int×G_api_Table×G_api_Table×Int×Str×ZkT)->ZTz) (s:(Zcy×Int×Zcy×Int×Int×Zcy×Int×Int×G_api_Table×G_api_Table×Int×Str×ZkT)):ZTz:=ZsD (fun c k m l i g j h a b n f e=>d (c,k,m,l,i,g,j,h,a,b,n,f,e)) s.1 s.2.1 s.2.2.1 s.2.2.2.1 s.2.2.2.2.1 s.2.2.2.2.2.1 s.2.2.2.2.2.2.1 s.2.2.2.2.2.2.2.1 s.2.2.2.2.2.2.2.2.1 s.2.2.2.2.2.2.2.2.2.1 s.2.2.2.2.2.2.2.2.2.2.1 s.2.2.2.2.2.2.2.2.2.2.2.1 s.2.2.2.2.2.2.2.2.2.2.2.2
theorem ZEE (n s):ZAW (n+1) s=Zwu (ZAW n) s:=rfl
def ZsE (f:ZL2) (c h:Zcy) (g i:Int) (a b:G_api_Table) (j:Int) (e:Str) (d:ZkT):ZKa:=bif i<g then (idx h i).bind fun k=>chk (Zcp 0 i c.length) <|(Zp2 big c k h g i (c.take (i).toNat) ((c.take (i).toNat).length:Int) 0 a b j e d).bind fun| .ret l=>some (.ret l)| .brk (x0,x1,x2,x3,x4,x5,x6,x7,x8)=>ZxO f x0 x1 x2 x3 x4 x5 x6 x7 x8 else some (.brk (c,a,b,j,e,d))
def Zp3:Nat->Zcy->Zcy->Int->Int->G_api_Table->G_api_Table->Int->Str->ZkT->ZKa|0,_,_,_,_,_,_,_,_,_=>none|a+1,b,c,d,e,f,g,h,i,j=>ZsE (Zp3 a) b c d e f g h i j
def ZAX (n:Nat) (s:(Zcy×Zcy×Int×Int×G_api_Table×G_api_Table×Int×Str×ZkT)):ZKa:=Zp3 n s.1 s.2.1 s.2.2.1 s.2.2.2.1 s.2.2.2.2.1 s.2.2.2.2.2.1 s.2.2.2.2.2.2.1 s.2.2.2.2.2.2.2.1 s.2.2.2.2.2.2.2.2
def Zwv (d:ZRf) (s:(Zcy×Zcy×Int×Int×G_api_Table×G_api_Table×Int×Str×ZkT)):ZKa:=ZsE (fun c h g i a b j f e=>d (c,h,g,i,a,b,j,f,e)) s.1 s.2.1 s.2.2.1 s.2.2.2.1 s.2.2.2.2.1 s.2.2.2.2.2.1 s.2.2.2.2.2.2.1 s.2.2.2.2.2.2.2.1 s.2.2.2.2.2.2.2.2
theorem ZEF (n s):ZAX (n+1) s=Zwv (ZAX n) s:=rfl
def ZxP (c:Zcy) (a b:G_api_Table) (g:Int) (e:Str) (d:ZkT):ZHi:=(Zp3 big c c c.length 0 a b g e d).bind fun| .ret f=>some f| .brk (x0,x1,x2,x3,x4,x5)=>ZtH x0 x1 x2 x3 x4 x5
def ZtK (d:ZL2) (c h:Zcy) (i f:Int) (j:Bool) (a b:G_api_Table) (k:Int) (g:Str) (e:ZkT):ZKa:=bif j then some (.ret ((G_api_Table.mk 0 [] []),2)) else chk (inK .i64 (f+1)) <|d c h i (f+1) a b k g e
def ZsF (g:ZL2) (c h:Zcy) (i f:Int) (a b:G_api_Table) (j:Int) (e:Str) (d:ZkT):ZKa:=bif f<i then (idx h f).bind fun k=>bif k<(-1) then ZtK g c h i f true a b j e d else ZtK g c h i f (k>=b.Columns.length) a b j e d else some (.brk (c,a,b,j,e,d))
def Zp4:Nat->Zcy->Zcy->Int->Int->G_api_Table->G_api_Table->Int->Str->ZkT->ZKa|0,_,_,_,_,_,_,_,_,_=>none|a+1,b,c,d,e,f,g,h,i,j=>ZsF (Zp4 a) b c d e f g h i j
def ZAY (n:Nat) (s:(Zcy×Zcy×Int×Int×G_api_Table×G_api_Table×Int×Str×ZkT)):ZKa:=Zp4 n s.1 s.2.1 s.2.2.1 s.2.2.2.1 s.2.2.2.2.1 s.2.2.2.2.2.1 s.2.2.2.2.2.2.1 s.2.2.2.2.2.2.2.1 s.2.2.2.2.2.2.2.2
def Zww (d:ZRf) (s:(Zcy×Zcy×Int×Int×G_api_Table×G_api_Table×Int×Str×ZkT)):ZKa:=ZsF (fun c g i h a b j f e=>d (c,g,i,h,a,b,j,f,e)) s.1 s.2.1 s.2.2.1 s.2.2.2.1 s.2.2.2.2.1 s.2.2.2.2.2.1 s.2.2.2.2.2.2.1 s.2.2.2.2.2.2.2.1 s.2.2.2.2.2.2.2.2
theorem ZEG (n s):ZAY (n+1) s=Zww (ZAY n) s:=rfl
def ZpA (c:Zcy) (f:Bool) (a b:G_api_Table) (h:Int) (e:Str) (d:ZkT):ZHi:=bif f then some ((G_api_Table.mk 0 [] []),1) else (Zp4 big c c c.length 0 a b h e d).bind fun| .ret g=>some g| .brk (x0,x1,x2,x3,x4,x5)=>ZxP x0 x1 x2 x3 x4 x5
def Zs6 (a b:G_api_Table) (c:Zcy):ZHi:=(Znd a).bind fun q=>bif !q then ZpA c true a b 0 [] [] else (Znd b).bind fun d=>bif !d then ZpA c true a b 0 [] [] else ZpA c ((c.length:Int)!=(a.Columns.length:Int)) a b 0 [] []
def Zvc:Option Bool:=some true
def ZqW (d:Int->Int->G_api_Column->G_api_Column->Zrv) (c i:Int) (a b:G_api_Column):Zrv:=bif i<c then (idx a.Cells i).bind fun Cell=>(idx b.Cells i).bind fun Cell_1=>bif !(Cell.Null==Cell_1.Null&&(Cell.Text==Cell_1.Text&&true)) then some (.ret false) else chk (inK .i64 (i+1)) <|d c (i+1) a b else some (.brk ())
def ZrD:Nat->Int->Int->G_api_Column->G_api_Column->Zrv|0,_,_,_,_=>none|a+1,b,c,d,e=>ZqW (ZrD a) b c d e
def Zze (n:Nat) (s:(Int×Int×G_api_Column×G_api_Column)):Zrv:=ZrD n s.1 s.2.1 s.2.2.1 s.2.2.2
def ZtV (c:(Int×Int×G_api_Column×G_api_Column)->Zrv) (s:(Int×Int×G_api_Column×G_api_Column)):Zrv:=ZqW (fun d i a b=>c (d,i,a,b)) s.1 s.2.1 s.2.2.1 s.2.2.2
theorem ZDF (n s):Zze (n+1) s=ZtV (Zze n) s:=rfl
def ZrE (c:Bool) (a b:G_api_Column):Option Bool:=bif c then some false else (ZrD big a.Cells.length 0 a b).bind fun| .ret d=>some d| .brk ()=>Zvc
def Zty (a b:G_api_Column):Option Bool:=bif !(a.Name==b.Name) then ZrE true a b else ZrE ((a.Cells.length:Int)!=(b.Cells.length:Int)) a b
def ZyX:Option Bool:=some true
def Ztx (d:Int->Int->G_api_Table->G_api_Table->Zrv) (c i:Int) (a b:G_api_Table):Zrv:=bif i<c then (idx a.Columns i).bind fun Column=>(idx b.Columns i).bind fun Column_1=>(Zty Column Column_1).bind fun q=>bif !q then some (.ret false) else chk (inK .i64 (i+1)) <|d c (i+1) a b else some (.brk ())
def ZuD:Nat->Int->Int->G_api_Table->G_api_Table->Zrv|0,_,_,_,_=>none|a+1,b,c,d,e=>Ztx (ZuD a) b c d e
def ZBN (n:Nat) (s:(Int×Int×G_api_Table×G_api_Table)):Zrv:=ZuD n s.1 s.2.1 s.2.2.1 s.2.2.2
def Zxm (c:(Int×Int×G_api_Table×G_api_Table)->Zrv) (s:(Int×Int×G_api_Table×G_api_Table)):Zrv:=Ztx (fun d i a b=>c (d,i,a,b)) s.1 s.2.1 s.2.2.1 s.2.2.2
theorem ZE9 (n s):ZBN (n+1) s=Zxm (ZBN n) s:=rfl
def ZrT (c:Bool) (a b:G_api_Table):Option Bool:=bif c then some false else (ZuD big a.Columns.length 0 a b).bind fun| .ret d=>some d| .brk ()=>ZyX
def ZrF (a b:G_api_Table):Option Bool:=bif a.ID != b.ID then ZrT true a b else bif !(a.Name==b.Name) then ZrT true a b else ZrT ((a.Columns.length:Int)!=(b.Columns.length:Int)) a b
def Zrp:Option Bool:=Ztc.bind fun q=>some q
def ZrJ (b:ZRd) (a:Zcy) (f c:Int) (d:ZbZ) (e:ZJ9):Zrv:=chk (inK .i64 (c+1)) <|b a f (c+1) d e
def ZpS (c:ZW0) (b:Zcy) (j i e a:Int) (f:Bool) (d:ZbZ) (p:ZjT) (h:ZJ9) (g:List Zcy):ZMO:=bif f then some (.ret false) else chk (inK .i64 (a+1)) <|c b j i e (a+1) d p h g
def ZpE (h:ZW0) (b:Zcy) (k j g a:Int) (d:ZbZ) (p:ZjT) (i:ZJ9) (c:List Zcy):ZMO:=bif a<g then chk (inR a c.length) <|(c[(a).toNat]?).bind fun y=>chk (inR 0 2) <|chk (inR 1 2) <|(Zqp p.e0 p.e1 y).bind fun(u,e)=>chk (inR 0 2) <|chk (inR 1 2) <|(Zs6 p.e0 p.e1 y).bind fun(l,f)=>(ZrF u l).bind fun q=>bif !q then ZpS h b k j g a true d p i c else ZpS h b k j g a (e != f) d p i c else some (.brk (b,k,j,d,i))
def ZoY:Nat->Zcy->Int->Int->Int->Int->ZbZ->ZjT->ZJ9->(List Zcy)->ZMO|0,_,_,_,_,_,_,_,_,_=>none|a+1,b,c,d,e,f,g,h,i,j=>ZpE (ZoY a) b c d e f g h i j
def Zvk (n:Nat) (s:(Zcy×Int×Int×Int×Int×ZbZ×ZjT×ZJ9×(List Zcy))):ZMO:=ZoY n s.1 s.2.1 s.2.2.1 s.2.2.2.1 s.2.2.2.2.1 s.2.2.2.2.2.1 s.2.2.2.2.2.2.1 s.2.2.2.2.2.2.2.1 s.2.2.2.2.2.2.2.2
def ZqY (b:(Zcy×Int×Int×Int×Int×ZbZ×ZjT×ZJ9×(List Zcy))->ZMO) (s:(Zcy×Int×Int×Int×Int×ZbZ×ZjT×ZJ9×(List Zcy))):ZMO:=ZpE (fun a i h c f d p g e=>b (a,i,h,c,f,d,p,g,e)) s.1 s.2.1 s.2.2.1 s.2.2.2.1 s.2.2.2.2.1 s.2.2.2.2.2.1 s.2.2.2.2.2.2.1 s.2.2.2.2.2.2.2.1 s.2.2.2.2.2.2.2.2
theorem ZBs (n s):Zvk (n+1) s=ZqY (Zvk n) s:=rfl
def Zpl (c:ZRd) (a m:Zcy) (g f:Int) (d:ZbZ) (p:ZjT) (b:Zcy) (e:ZJ9):Zrv:=(ZoY big a g f ([m,a,b].length:Int) 0 d p e [m,a,b]).bind fun| .ret h=>some (.ret h)| .brk (x0,x1,x2,x3,x4)=>ZrJ c x0 x1 x2 x3 x4
def Zpm (b:ZRd) (a m:Zcy) (i h:Int) (g:Bool) (d:ZbZ) (p:ZjT) (f:ZJ9):Zrv:=bif g then some (.ret false) else chk (ZjC m.length 8) <|bif (m.length:Int)>0 then (Zi5 d m.length).bind fun(q,e)=>(Zi5 e 5).bind fun(c,j)=>chk (inK .i64 (c-1)) <|chk (inR q m.length) <|Zpl b a m i h j p (m.set ((q).toNat) (c-1)) f else Zpl b a m i h d p m f
def ZpF (c:ZRd) (a:Zcy) (h b:Int) (d:ZbZ) (g:ZJ9):Zrv:=bif b<h then chk (inR b g.length) <|(g[(b).toNat]?).bind fun p=>chk (inR 0 2) <|chk (inR 1 2) <|(Zo3 p.e0 p.e1).bind fun(l,s,e)=>chk (inR 0 2) <|chk (inR 1 2) <|(ZoT p.e0 p.e1).bind fun(m,j,f)=>(Zp6 l m).bind fun q=>bif !q then Zpm c a m h b true d p g else (Zo5 s j).bind fun i=>bif !i then Zpm c a m h b true d p g else Zpm c a m h b (e != f) d p g else some (.brk ())
def Zna:Nat->Zcy->Int->Int->ZbZ->ZJ9->Zrv|0,_,_,_,_,_=>none|a+1,b,c,d,e,f=>ZpF (Zna a) b c d e f
def Zvl (n:Nat) (s:(Zcy×Int×Int×ZbZ×ZJ9)):Zrv:=Zna n s.1 s.2.1 s.2.2.1 s.2.2.2.1 s.2.2.2.2
def ZqZ (b:(Zcy×Int×Int×ZbZ×ZJ9)->Zrv) (s:(Zcy×Int×Int×ZbZ×ZJ9)):Zrv:=ZpF (fun a f e d c=>b (a,f,e,d,c)) s.1 s.2.1 s.2.2.1 s.2.2.2.1 s.2.2.2.2
theorem ZBt (n s):Zvl (n+1) s=ZqZ (Zvl n) s:=rfl
def Zpn (a:Zcy) (e c:Int) (d:ZbZ) (b:ZJ9):Option Bool:=(Zna big a e c d b).bind fun| .ret f=>some f| .brk ()=>Zrp
def ZrK (f:Zcy) (g:G_api_Table) (d:ZbZ) (a:Int) (c:Str) (b:G_api_Table) (e:ZkT):Option Bool:=Zpn f ([(ZjT.mk (G_api_Table.mk a c e) b),(ZjT.mk b (G_api_Table.mk a c e)),(ZjT.mk g b)].length:Int) 0 d [(ZjT.mk (G_api_Table.mk a c e) b),(ZjT.mk b (G_api_Table.mk a c e)),(ZjT.mk g b)]
def ZpT (f:ZWV) (e:Zcy) (i:Int) (k:Bool) (h:G_api_Table) (d:ZbZ) (a:Int) (j:Str) (b:G_api_Table) (c:ZkT):ZTv:=bif k then chk (inR 0 c.length) <|(c[((0:Int)).toNat]?).bind fun g=>chk (ZjC (c.length+([g]:ZkT).length) 40) <|f e i h d a j b (c++([g]:ZkT)) else some (e,h,d,a,j,b,c)
def Zq0 (g:ZWV) (e:Zcy) (c:Int) (h:G_api_Table) (d:ZbZ) (a:Int) (i:Str) (b:G_api_Table) (f:ZkT):ZTv:=bif (f.length:Int)>0 then chk ((6:Int)≠0) <|chk (inK .i64 (Int.tdiv c 6)) <|(Zr0 (Int.tdiv c 6) 2).bind fun q=>chk (inK .i64 (8+q)) <|ZpT g e c ((f.length:Int)<(8+q)) h d a i b f else ZpT g e c false h d a i b f
def ZoZ:Nat->Zcy->Int->G_api_Table->ZbZ->Int->Str->G_api_Table->ZkT->ZTv|0,_,_,_,_,_,_,_,_=>none|a+1,b,c,d,e,f,g,h,i=>Zq0 (ZoZ a) b c d e f g h i
def Zvm (n:Nat) (s:(Zcy×Int×G_api_Table×ZbZ×Int×Str×G_api_Table×ZkT)):ZTv:=ZoZ n s.1 s.2.1 s.2.2.1 s.2.2.2.1 s.2.2.2.2.1 s.2.2.2.2.2.1 s.2.2.2.2.2.2.1 s.2.2.2.2.2.2.2
def Zvn (e:(Zcy×Int×G_api_Table×ZbZ×Int×Str×G_api_Table×ZkT)->ZTv) (s:(Zcy×Int×G_api_Table×ZbZ×Int×Str×G_api_Table×ZkT)):ZTv:=Zq0 (fun c f g d a h b i=>e (c,f,g,d,a,h,b,i)) s.1 s.2.1 s.2.2.1 s.2.2.2.1 s.2.2.2.2.1 s.2.2.2.2.2.1 s.2.2.2.2.2.2.1 s.2.2.2.2.2.2.2
theorem ZBu (n s):Zvm (n+1) s=Zvn (Zvm n) s:=rfl
def Zpo (e:Zcy) (g:Int) (h:G_api_Table) (d:ZbZ) (a:Int) (c:Str) (b:G_api_Table) (f:ZkT):Option Bool:=(Zr0 g 6).bind fun q=>bif q==0 then (ZoZ big e g h d a c b f).bind fun(l,k,i,m,n,o,j)=>ZrK l k i m n o j else Zpn e ([(ZjT.mk (G_api_Table.mk a c f) b),(ZjT.mk b (G_api_Table.mk a c f)),(ZjT.mk h b)].length:Int) 0 d [(ZjT.mk (G_api_Table.mk a c f) b),(ZjT.mk b (G_api_Table.mk a c f)),(ZjT.mk h b)]
def ZoJ (t c:Zcy) (e:Int) (l:Bool) (f:G_api_Table):Option Bool:=bif l then Ztc.bind fun q=>some q else (ZCj t).bind fun d=>(Zsd d 1).bind fun(a,m)=>(Zsd m 2).bind fun(b,k)=>(Zi5 k 2).bind fun(h,g)=>bif h==0 then (Ztd g a 2).bind fun(i,j)=>Zpo c e f j a.ID a.Name i a.Columns else Zpo c e f g a.ID a.Name b a.Columns
def Zs2 (c:G_api_Table) (t a:Zcy) (b:Int):Option Bool:=(Zwi c).bind fun q=>bif !q then ZoJ t a b true c else (ZBw t).bind fun d=>bif !d then ZoJ t a b true c else ZoJ t a b ((a.length:Int)>12) c
end
end Go.Proofs

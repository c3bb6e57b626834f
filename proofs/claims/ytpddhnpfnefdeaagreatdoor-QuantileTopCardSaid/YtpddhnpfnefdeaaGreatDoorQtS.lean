/- Printed by wip/tools/tgen.py: specs. -/
import Derived.Test.YtpddhnpfnefdeaaGreatDoorE4
import Derived.Lib.Bytealg
import Derived.Lib.ItoaNum
import Derived.Lib.LaidU8
import Derived.Lib.SlTrimSet
import Derived.Shelf.Strconv.Itoa3
import Derived.Test.YtpddhnpfnefdeaaGreatDoorQtWD
set_option linter.all false
namespace Go.Proofs
open Go Eng
set_option maxRecDepth 100000
noncomputable section
structure G_api_Cell where
 Null:Bool
 Text:Str
 deriving DecidableEq,Inhabited
structure G_api_Column where
 Name:Str
 Cells:(List G_api_Cell)
 deriving DecidableEq,Inhabited
structure G_api_Table where
 ID:Int
 Name:Str
 Columns:(List G_api_Column)
 deriving DecidableEq,Inhabited
structure ZnI where
 Neg:Bool
 Words:(List Int)
 deriving DecidableEq,Inhabited
structure ZnB where
 Num:ZnI
 Den:ZnI
 deriving DecidableEq,Inhabited
structure ZpZ where
 word:Str
 canonical:(Option Nat)
 value:(Option Nat)
 deriving DecidableEq,Inhabited
structure ZnC where
 l:(List Int)
 at_:Int
 deriving DecidableEq,Inhabited
structure ZnQ where
 Kind:Int
 Column:Int
 Text:Str
 Columns:(List Int)
 deriving DecidableEq,Inhabited
structure ZnE where
 lo:Int
 hi:Int
 deriving DecidableEq,Inhabited
structure ZpV where
 Table:Int
 Column:Int
 deriving DecidableEq,Inhabited
structure Zoi where
 Ref:ZpV
 Score:ZnB
 deriving DecidableEq,Inhabited
abbrev Zyc:Type:={l:List Int // l.length=256}
structure Zof where
 e0:ZnE
 e1:ZnE
 e2:ZnE
 e3:ZnE
 e4:ZnE
 e5:ZnE
 e6:ZnE
 e7:ZnE
 e8:ZnE
 e9:ZnE
 e10:ZnE
 e11:ZnE
 e12:ZnE
 e13:ZnE
 e14:ZnE
 e15:ZnE
 deriving DecidableEq,Inhabited
def ZCz:Nat->Type
 |0=>G_api_Cell
 |1=>G_api_Column
 |2=>G_api_Table
 |3=>ZnI
 |4=>ZnB
 |5=>ZpZ
 |6=>ZnC
 |7=>ZnQ
 |8=>ZnE
 |9=>ZpV
 |10=>Zoi
 |11=>Zyc
 |12=>Zof
 |_=>Unit
def ZVu:Nat->Nat
 |0=>2
 |1=>2
 |2=>3
 |3=>2
 |4=>4
 |5=>3
 |6=>2
 |7=>4
 |8=>2
 |9=>2
 |10=>6
 |11=>256
 |12=>32
 |_=>0
def ZHq:List (Lf ZCz):=[⟨.sl (.int .u32),([1]:List Int)⟩]
def ZC1:List (Lf ZCz):=(Lib.pow10Tab.map fun n=>⟨.int .u64,n⟩)
def ZDq:List (Lf ZCz):=(Lib.firstTab.map fun n=>⟨.int .u8,n⟩)
def Zvh:List (Lf ZCz):=[⟨.int .u8,(128:Int)⟩,⟨.int .u8,(191:Int)⟩,⟨.int .u8,(160:Int)⟩,⟨.int .u8,(191:Int)⟩,⟨.int .u8,(128:Int)⟩,⟨.int .u8,(159:Int)⟩,⟨.int .u8,(144:Int)⟩,⟨.int .u8,(191:Int)⟩,⟨.int .u8,(128:Int)⟩,⟨.int .u8,(143:Int)⟩,⟨.int .u8,(0:Int)⟩,⟨.int .u8,(0:Int)⟩,⟨.int .u8,(0:Int)⟩,⟨.int .u8,(0:Int)⟩,⟨.int .u8,(0:Int)⟩,⟨.int .u8,(0:Int)⟩,⟨.int .u8,(0:Int)⟩,⟨.int .u8,(0:Int)⟩,⟨.int .u8,(0:Int)⟩,⟨.int .u8,(0:Int)⟩,⟨.int .u8,(0:Int)⟩,⟨.int .u8,(0:Int)⟩,⟨.int .u8,(0:Int)⟩,⟨.int .u8,(0:Int)⟩,⟨.int .u8,(0:Int)⟩,⟨.int .u8,(0:Int)⟩,⟨.int .u8,(0:Int)⟩,⟨.int .u8,(0:Int)⟩,⟨.int .u8,(0:Int)⟩,⟨.int .u8,(0:Int)⟩,⟨.int .u8,(0:Int)⟩,⟨.int .u8,(0:Int)⟩]
abbrev ZnG:Type:=List Int
abbrev ZnT:Type:=List Zoi
abbrev ZoS:Type:=List ZnB
abbrev Zo4:Type:=List G_api_Column
abbrev ZrM:Type:=List G_api_Table
abbrev ZCe:Type:=List G_api_Cell
abbrev ZQF:Type:=Option (ZoS×ZoS×Int×Int×Bool×Bool×ZnB×ZnB×ZnG×ZnG)
abbrev ZSh:Type:=Option (ZnG×Zo4×Int×Int×Int×Str×Int×Str×Str×Zo4×Zo4×ZCe)
abbrev ZQE:Type:=Option (ZnC×Int×Int×Str×Int×Int×Str×ZnG×ZnG)
abbrev ZQC:Type:=Option (Out (ZnG×Int×Str×Int×Str×Zo4×Zo4) (G_api_Table×Int))
abbrev ZQB:Type:=Option (ZoS×ZoS×Int×Int×Bool×Bool×ZnB×ZnG×ZnG)
abbrev ZQA:Type:=Option (Out (ZnG×G_api_Table×Int×Str×Zo4) (G_api_Table×Int))
abbrev ZSg:Type:=Option (Bool×Str×Bool×Bool×ZnI×ZnI×ZnG×ZnG)
abbrev ZLf:Type:=Option (Int×Int×Bool×Int×Int×G_api_Table×ZnQ×ZnG)
abbrev ZQx:Type:=Option (Int×ZnC×G_api_Table×Int×Str×Zo4)
abbrev ZSf:Type:=Option (Bool×Str×ZnG×ZnG×Bool×Bool×ZnG×ZnG×ZnG)
abbrev ZLS:Type:=Option (ZnC×Int×Str×Int×Str×Zo4×Zo4)
abbrev ZLR:Type:=Option (Out (G_api_Table×Int×Str×Zo4) (G_api_Table×Int))
abbrev ZKE:Type:=Option (Bool×Bool×Bool×ZnI×ZnI×ZnG×ZnG)
abbrev ZKD:Type:=Option (Out (Int×Int×Int×G_api_Column×(List ZrM)) Bool)
abbrev ZKC:Type:=Option (Out (Bool×Str×Str) (Bool×Str×Str×Bool))
abbrev ZLQ:Type:=Option (Nat×Nat×ZnG×Int×Int×Int×Int×ZnG)
abbrev ZKB:Type:=Option (ZnC×Str×Str×ZCe×ZCe)
abbrev ZLP:Type:=Option (Out (ZnG×Int×ZrM×ZrM×Int×Int) Bool)
abbrev ZLO:Type:=Option (Bool×ZnG×ZnG×Bool×Bool×ZnG×ZnG)
abbrev ZKA:Type:=Option (Int×ZCe×Int×Int×ZoS×ZnB)
abbrev ZOj:Type:=Option (Int×Int×Int×Int×Int×Int×Int×Int)
abbrev ZJV:Type:=Option (ZoS×ZoS×Int×Bool×Bool×ZnG×ZnG)
abbrev ZLN:Type:=Option (ZnG×Int×Int×ZnG×Int×Int×ZnG)
abbrev ZIs:Type:=Option (Bool×Bool×ZnB×ZnG×ZnG)
abbrev ZQD:Type:=Option (Out (Zo4×Int×Int×G_api_Table) Bool)
abbrev ZTF:Type:=Option (G_api_Column×ZnC)
abbrev ZHh:Type:=Option (Int×ZoS×ZrM×Int×Int×ZnT)
abbrev ZKz:Type:=Option (Nat×Nat×ZnG×Int×Int×ZnG)
abbrev ZMS:Type:=Option (G_api_Table×ZnC)
abbrev ZHz:Type:=Option (Int×Str×Int×Str×Zo4×Zo4)
abbrev ZLM:Type:=Option (Nat×Nat×Int×Int×Int×ZnG)
abbrev ZTE:Type:=Option (G_api_Cell×ZnC)
abbrev ZOi:Type:=Option (Int×Int×Int×Int×Int×Int)
abbrev ZLL:Type:=Option (ZnQ×ZnC)
abbrev ZLK:Type:=Option (ZnG×ZnG×Int×Int×ZnG)
abbrev ZTD:Type:=Option (ZrM×ZnC)
abbrev ZJU:Type:=Option (ZnC×ZrM)
abbrev ZGx:Type:=Option (Int×Int×Int×Int×ZnT)
abbrev ZKy:Type:=Option (Out (ZnG×Int×ZrM) Bool)
abbrev ZLJ:Type:=Option (Nat×Nat×ZnG×ZnG)
abbrev ZLI:Type:=Option (Int×Int×ZnG×ZnG)
abbrev ZKx:Type:=Option (Bool×Str×Str×Bool)
abbrev ZKw:Type:=Option (Int×Int×Int×ZoS)
abbrev Zzx:Type:=Option (Int×Int×Int×ZnT)
abbrev ZTC:Type:=Option (Int×Int×ZnT×Int)
abbrev ZIA:Type:=Option (Out ZnT (Bool×ZnT))
abbrev ZMR:Type:=Option (Int×Int×Int×Bool)
abbrev ZKv:Type:=Option (ZnT×Int×Zoi)
abbrev ZG0:Type:=Option (ZnB×Bool)
abbrev ZOh:Type:=Option (Int×Int×Int×Int)
abbrev ZFO:Type:=Option (ZnB×Int)
abbrev ZJT:Type:=Option (ZnG×ZnG×Int)
abbrev ZKu:Type:=Option (Out ZnQ Bool)
abbrev ZKt:Type:=Option (G_api_Table×Int)
abbrev ZMQ:Type:=Option (Int×Bool×ZnT)
abbrev ZIr:Type:=Option (Nat×Nat×ZnG)
abbrev ZOg:Type:=Option (Int×ZnT×Int)
abbrev ZHN:Type:=Option (Int×Int×ZnT)
abbrev ZJS:Type:=Option (Str×Bool×Int)
abbrev ZHy:Type:=Option (Bool×Str×Str)
abbrev Zvi:Type:=Option (Out Unit Bool)
abbrev ZQz:Type:=Option (Out Unit ZoS)
abbrev ZHx:Type:=Option (Out ZrM Bool)
abbrev ZJR:Type:=Option (Out ZnT ZnT)
abbrev ZIq:Type:=Option (Out Unit ZnT)
abbrev ZGZ:Type:=Option (Out Unit Int)
abbrev ZHM:Type:=Option (ZnG×ZnG)
abbrev ZLH:Type:=Option (Out Str Str)
abbrev ZJQ:Type:=Option (Out Int Int)
abbrev ZQy:Type:=Option (Bool×ZnT)
abbrev ZCf:Type:=Option (Int×ZnG)
abbrev ZJP:Type:=Option (ZnG×Int)
abbrev ZHw:Type:=Option (Str×Bool)
abbrev ZFc:Type:=Option (Int×ZnT)
abbrev ZJO:Type:=Option (ZnT×Int)
abbrev ZOf:Type:=Option (Int×Bool)
abbrev ZHv:Type:=Option (Int×Int)
abbrev Tf_0:Type:=ZoS->ZoS->Int->Int->Bool->Bool->ZnB->ZnB->ZnG->ZnG->ZQB
abbrev Tf_1:Type:=ZoS->ZoS->Int->Int->Bool->Bool->ZnB->ZnB->ZnG->ZnG->ZQF
abbrev Tf_2:Type:=Int->Int->ZnC->Int->Int->Str->Int->Int->Str->ZnG->ZnG->ZQE
abbrev Tf_3:Type:=ZnG->ZnG->Int->Int->G_api_Table->Int->Str->Int->Str->Zo4->Zo4->ZQC
abbrev Tf_4:Type:=Int->Int->Bool->Int->Int->Int->Int->G_api_Table->ZnQ->ZnG->ZLf
abbrev Tf_5:Type:=(Int×ZoS×ZrM×Int×Int×Zo4×Int×Int×ZnT×G_api_Table)->ZHh
abbrev Tf_6:Type:=Int->ZrM->Int->Int->Int->Int->G_api_Column->(List ZrM)->ZnG->ZKD
abbrev ZSj:Type:=Int->ZoS->ZrM->Int->Int->Zo4->Int->Int->ZnT->G_api_Table->ZHh
abbrev Tf_8:Type:=Bool->Bool->Bool->ZnI->ZnI->Str->Nat->ZnG->ZnG->ZKE
abbrev ZSi:Type:=ZoS->ZoS->Int->Int->Bool->Bool->ZnB->ZnG->ZnG->ZIs
abbrev ZUa:Type:=Int->Int->Bool->ZCe->Int->Int->G_api_Table->ZnQ->ZnG->ZLf
abbrev ZT9:Type:=Int->Int->Int->ZnC->Str->Str->ZCe->ZCe->ZKB
abbrev ZT8:Type:=Int->Int->ZnC->G_api_Table->Int->Str->Zo4->ZQx
abbrev ZT7:Type:=ZnG->Zo4->Int->Int->Int->Str->Int->Str->Zo4->Zo4->ZHz
abbrev ZQO:Type:=ZoS->ZoS->Int->Int->Int->Bool->Bool->ZnG->ZnG->ZJV
abbrev ZT6:Type:=ZnG->ZnG->Int->Int->G_api_Table->Int->Str->Zo4->ZQA
abbrev ZT5:Type:=Int->Int->Int->Int->Int->Int->Int->Int->Int->ZOi
abbrev ZT4:Type:=Int->Int->Int->Int->Int->Int->Int->Int->Int->ZOj
abbrev ZLV:Type:=Int->Int->G_api_Table->ZnQ->ZnG->Option ZnG
abbrev ZT3:Type:=Int->ZCe->Int->Int->ZoS->ZnB->ZKA
abbrev ZT2:Type:=Int->Int->Int->G_api_Column->(List ZrM)->Zvi
abbrev ZT1:Type:=Nat->Nat->ZnG->Int->Int->Int->ZnG->ZKz
abbrev ZT0:Type:=ZnG->Int->Int->G_api_Table->ZnQ->ZKu
abbrev ZQN:Type:=Int->Int->ZnC->ZrM->ZJU
abbrev ZTZ:Type:=Int->Int->Int->Int->ZnT->Int->Option ZnT
abbrev ZTY:Type:=(ZnG×ZnG×Int×Int×ZnG)->Option ZnG
abbrev ZTX:Type:=(Int×ZoS×ZrM×Int×Int×ZnT)->ZFc
abbrev ZOp:Type:=ZnG->ZnG->Int->Int->ZnG->Option ZnG
abbrev ZTW:Type:=(Int×Int×Int×Int×Int×ZnT)->ZGx
abbrev ZLU:Type:=Int->Int->Int->Bool->Bool->ZnT->ZIq
abbrev ZOo:Type:=Int->ZoS->ZrM->Int->Int->ZnT->ZFc
abbrev ZTV:Type:=ZnG->Int->ZrM->ZrM->Int->Int->ZKy
abbrev ZTU:Type:=Int->Int->Int->Int->Int->ZnT->ZGx
abbrev ZTT:Type:=ZoS->Int->ZnB->Option Int
abbrev ZTS:Type:=ZnG->ZnG->ZnG->Int->ZnG->ZHM
abbrev ZTR:Type:=(ZCe×Int×Int×ZoS)->Option ZoS
abbrev ZQM:Type:=Zo4->Int->Int->G_api_Table->Zvi
abbrev ZTQ:Type:=(Int×Int×Int×Int×ZnT)->Zzx
abbrev ZTP:Type:=ZnG->ZnG->Int->ZnG->Option ZnG
abbrev ZOn:Type:=ZnG->ZnG->Int->Int->ZnG->ZCf
abbrev ZTO:Type:=ZnG->Int->Int->ZnG->Option ZnG
abbrev ZMV:Type:=ZCe->Int->Int->ZoS->Option ZoS
abbrev ZTN:Type:=Int->Int->Int->ZoS->Option ZoS
abbrev ZTM:Type:=Int->Int->Int->Int->ZoS->ZKw
abbrev ZQL:Type:=Int->Int->Int->ZnT->Option ZnT
abbrev ZQK:Type:=Int->Int->Int->Int->ZnT->Zzx
abbrev ZMU:Type:=Int->Int->Int->Int->ZnT->ZIA
abbrev ZTL:Type:=Int->Int->Int->Int->ZnT->ZGx
abbrev ZTK:Type:=Int->Int->Int->Int->Int->ZOh
abbrev ZLT:Type:=(Int×Int×Int×ZnT)->Zzx
abbrev ZTJ:Type:=ZrM->ZrM->Int->Int->ZHx
abbrev ZTI:Type:=ZnT->ZnT->Int->Int->Zvi
abbrev ZQJ:Type:=Int->Int->Int->ZnT->ZJR
abbrev ZQI:Type:=Int->Int->Int->ZnT->ZFc
abbrev ZHO:Type:=Int->Int->Int->ZnT->Zzx
abbrev ZQH:Type:=Int->Int->Int->ZnT->ZHN
abbrev ZQG:Type:=Int->Int->ZnG->Option ZnG
abbrev ZTH:Type:=Bool->Str->Str->Int->ZKC
abbrev ZTG:Type:=ZnT->Int->Zoi->ZKv
abbrev ZOm:Type:=ZnG->ZnG->Int->ZJP
abbrev ZOl:Type:=ZnG->ZnG->Int->ZJT
abbrev ZOk:Type:=Bool->Str->Str->ZHy
abbrev ZMT:Type:=ZnG->Option ZnG
abbrev ZJX:Type:=Str->Option Str
abbrev ZJW:Type:=Str->Zvi
def ZAS (t:ZnG):Option Bool:=some (decide ((t.length:Int)<=500))
def ZCi (a:ZnG):Option ZnG:=some a
def ZyG (b:ZMT) (a:ZnG) (c:Bool):Option ZnG:=bif c then (chk (inK .i64 ((a.length:Int) - 1)) <|chk (Zb9 0 ((a.length:Int) - 1) (a.length:Int)) <|b (a.take (((a.length:Int) - 1)).toNat))else (some a)
def ZA8 (a:ZMT) (b:ZnG):Option ZnG:=bif (decide ((b.length:Int) > 0))then (chk (inK .i64 ((b.length:Int) - 1)) <|(idx b ((b.length:Int) - 1)).bind fun c=>ZyG a b (c == 0))else (ZyG a b false)
def Zpp:Nat->ZnG->Option ZnG
 |0,_=>none
 |n_+1,w_=>ZA8 (Zpp n_) w_
def Zoy (b:ZnG):Option ZnG:=(Zpp big b).bind fun a=>ZCi a
def ZvT (a:ZnI):Option ZnI:=some a
def Zog (b:Bool) (c:ZnG):Option ZnI:=(Zoy c).bind fun a=>bif b then (ZvT (ZnI.mk (decide ((a.length:Int) > 0)) a))else (ZvT (ZnI.mk false a))
def Zs8 (n u:Int) (b:Bool) (a:ZnG):Option ZnI:=chk (decide (0<=(32:Int))) <|(Zog (decide (n < 0)) ([(IntKind.wrap .u32 u),(IntKind.wrap .u32 (shrK .u64 u 32))]:ZnG)).bind fun q=>some q
def Zob (n:Int):Option ZnI:=bif (decide (n < 0))then (Zs8 n (IntKind.wrap .u64 (0 - (IntKind.wrap .u64 n))) false ([]:ZnG))else (Zs8 n (IntKind.wrap .u64 n) false ([]:ZnG))
def ZoD (a:Bool):Option Bool:=some a
def Zqb (a:ZnI):Option Bool:=bif (decide ((a.Words.length:Int)<=256))then (bif ((a.Words.length:Int) == 0)then (bif (!a.Neg)then (ZoD true)else (bif (decide ((a.Words.length:Int) > 0))then (chk (inK .i64 ((a.Words.length:Int) - 1)) <|(idx a.Words ((a.Words.length:Int) - 1)).bind fun Word=>ZoD (Word != 0))else (ZoD false)))else (bif (decide ((a.Words.length:Int) > 0))then (chk (inK .i64 ((a.Words.length:Int) - 1)) <|(idx a.Words ((a.Words.length:Int) - 1)).bind fun Word_1=>ZoD (Word_1 != 0))else (ZoD false)))else (ZoD false)
def ZyH (a:ZnG):Option ZnG:=(Zoy a).bind fun q=>some q
def Zsa (b:ZTO) (a:ZnG) (d i:Int) (c:ZnG):Option ZnG:=chk (inK .i64 (i+1)) <|b a d (i+1) c
def ZtJ (d:ZTO) (a:ZnG) (e i:Int) (c:ZnG):Option ZnG:=bif (decide (i < e))then (chk (inR i (c.length:Int)) <|(c[(i).toNat]?).bind fun b=>chk (decide (0<=(1:Int))) <|chk (inR i (c.length:Int)) <|chk (inK .i64 (i+1)) <|bif (decide ((i+1) < (a.length:Int)))then (chk (inR i ((c.set ((i).toNat) (shrK .u32 b 1)).length:Int)) <|((c.set ((i).toNat) (shrK .u32 b 1))[(i).toNat]?).bind fun f=>chk (inK .i64 (i+1)) <|(idx a (i+1)).bind fun g=>chk (decide (0<=(31:Int))) <|chk (inR i ((c.set ((i).toNat) (shrK .u32 b 1)).length:Int)) <|Zsa d a e i ((c.set ((i).toNat) (shrK .u32 b 1)).set ((i).toNat) (orK .u32 f (shlK .u32 g 31))))else (Zsa d a e i (c.set ((i).toNat) (shrK .u32 b 1))))else (some c)
def Zr9:Nat->ZnG->Int->Int->ZnG->Option ZnG
 |0,_,_,_,_=>none
 |n_+1,a,t9,i,out=>ZtJ (Zr9 n_) a t9 i out
def ZA9 (n:Nat) (s:(ZnG×Int×Int×ZnG)):Option ZnG:=Zr9 n s.1 s.2.1 s.2.2.1 s.2.2.2
def Zxk (b:(ZnG×Int×Int×ZnG)->Option ZnG) (s:(ZnG×Int×Int×ZnG)):Option ZnG:=ZtJ (fun a d i c=>b (a,d,i,c)) s.1 s.2.1 s.2.2.1 s.2.2.2
theorem ZEi:∀n s,ZA9 (n+1) s=Zxk (ZA9 n) s:=fun _ _=>rfl
def Zqz (a:ZnG):Option ZnG:=chk (ZiZ (([]:ZnG).length+a.length) 4) <|(Zr9 big a ((([]:ZnG)++a).length:Int) (0:Int) (([]:ZnG)++a)).bind fun b=>ZyH b
def Zzo:Option Int:=some (0:Int)
def Zt5 (e:ZnG->ZnG->Int->ZGZ) (a b:ZnG) (i:Int):ZGZ:=bif (decide (i>=0))then ((idx a i).bind fun g=>(idx b i).bind fun f=>bif (decide (g < f))then (some (.ret (-1:Int)))else ((idx a i).bind fun c=>(idx b i).bind fun d=>bif (decide (c > d))then (some (.ret (1:Int)))else (chk (inK .i64 (i - 1)) <|e a b (i - 1))))else (some (.brk ()))
def ZvS:Nat->ZnG->ZnG->Int->ZGZ
 |0,_,_,_=>none
 |n_+1,a,b,i=>Zt5 (ZvS n_) a b i
def ZBx (n:Nat) (s:(ZnG×ZnG×Int)):ZGZ:=ZvS n s.1 s.2.1 s.2.2
def ZxT (c:(ZnG×ZnG×Int)->ZGZ) (s:(ZnG×ZnG×Int)):ZGZ:=Zt5 (fun a b i=>c (a,b,i)) s.1 s.2.1 s.2.2
theorem ZEI:∀n s,ZBx (n+1) s=ZxT (ZBx n) s:=fun _ _=>rfl
def Zpa (a b:ZnG):Option Int:=bif ((a.length:Int) != (b.length:Int))then (bif (decide ((a.length:Int) < (b.length:Int)))then (some (-1:Int))else (some (1:Int)))else (chk (inK .i64 ((a.length:Int) - 1)) <|(ZvS big a b ((a.length:Int) - 1)).bind fun
 | .ret c=>some c
 | .brk ()=>Zzo)
def Zzf (a:ZnG):Option ZnG:=(Zoy a).bind fun q=>some q
def ZsK (d:ZOp) (a b:ZnG) (c i:Int) (e:ZnG):Option ZnG:=chk (ZiZ (e.length+([(IntKind.wrap .u32 c)]:ZnG).length) 4) <|chk (decide (0<=(32:Int))) <|chk (inK .i64 (i+1)) <|d a b (shrK .i64 c 32) (i+1) (e++([(IntKind.wrap .u32 c)]:ZnG))
def Zt1 (e:ZOp) (a b:ZnG) (c i:Int) (f:ZnG):Option ZnG:=bif (decide (i < (a.length:Int)))then ((idx a i).bind fun d=>chk (inK .i64 (c+(IntKind.wrap .i64 d))) <|bif (decide (i < (b.length:Int)))then ((idx b i).bind fun g=>chk (inK .i64 ((c+(IntKind.wrap .i64 d)) - (IntKind.wrap .i64 g))) <|ZsK e a b ((c+(IntKind.wrap .i64 d)) - (IntKind.wrap .i64 g)) i f)else (ZsK e a b (c+(IntKind.wrap .i64 d)) i f))else (some f)
def ZsJ:Nat->ZnG->ZnG->Int->Int->ZnG->Option ZnG
 |0,_,_,_,_,_=>none
 |n_+1,a,b,c,i,out=>Zt1 (ZsJ n_) a b c i out
def ZBt (n:Nat) (s:(ZnG×ZnG×Int×Int×ZnG)):Option ZnG:=ZsJ n s.1 s.2.1 s.2.2.1 s.2.2.2.1 s.2.2.2.2
def ZxN (d:ZTY) (s:(ZnG×ZnG×Int×Int×ZnG)):Option ZnG:=Zt1 (fun a b c i e=>d (a,b,c,i,e)) s.1 s.2.1 s.2.2.1 s.2.2.2.1 s.2.2.2.2
theorem ZEE:∀n s,ZBt (n+1) s=ZxN (ZBt n) s:=fun _ _=>rfl
def Zq8 (a:ZnG) (b:ZnG):Option ZnG:=(ZsJ big a b (0:Int) (0:Int) ([]:ZnG)).bind fun x0=>Zzf x0
def ZxM (d:Int) (a:ZnG):Option ZnG:=chk (ZiZ (a.length+([d]:ZnG).length) 4) <|(Zoy (a++([d]:ZnG))).bind fun q=>some q
def Zs6 (f:ZnG->Int->Int->ZnG->ZCf) (a:ZnG) (d i:Int) (c:ZnG):ZCf:=bif (decide (i < (a.length:Int)))then ((idx a i).bind fun e=>chk (decide (0<=(1:Int))) <|chk (ZiZ (c.length+([(orK .u32 (shlK .u32 e 1) d)]:ZnG).length) 4) <|(idx a i).bind fun b=>chk (decide (0<=(31:Int))) <|chk (inK .i64 (i+1)) <|f a (shrK .u32 b 31) (i+1) (c++([(orK .u32 (shlK .u32 e 1) d)]:ZnG)))else (some (d,c))
def Zt0:Nat->ZnG->Int->Int->ZnG->ZCf
 |0,_,_,_,_=>none
 |n_+1,a,d,i,out=>Zs6 (Zt0 n_) a d i out
def ZAD (n:Nat) (s:(ZnG×Int×Int×ZnG)):ZCf:=Zt0 n s.1 s.2.1 s.2.2.1 s.2.2.2
def ZwI (b:(ZnG×Int×Int×ZnG)->ZCf) (s:(ZnG×Int×Int×ZnG)):ZCf:=Zs6 (fun a d i c=>b (a,d,i,c)) s.1 s.2.1 s.2.2.1 s.2.2.2
theorem ZDU:∀n s,ZAD (n+1) s=ZwI (ZAD n) s:=fun _ _=>rfl
def Ztp (a:ZnG) (d:Int):Option ZnG:=(Zt0 big a d (0:Int) ([]:ZnG)).bind fun(b,c)=>ZxM b c
def Zzi (a:ZnG):Option ZnG:=some a
def ZrB (b:ZnG->Int->Option ZnG) (a:ZnG) (k:Int):Option ZnG:=bif (decide (k > 0))then ((Ztp a 0).bind fun c=>chk (inK .i64 (k - 1)) <|b c (k - 1))else (some a)
def Zq4:Nat->ZnG->Int->Option ZnG
 |0,_,_=>none
 |n_+1,a,k=>ZrB (Zq4 n_) a k
def Zzj (a:ZnG) (k:Int):Option ZnG:=(Zq4 big a k).bind fun b=>Zzi b
def ZvQ (c:ZOm) (a b:ZnG) (k:Int):ZJP:=(Zq8 b a).bind fun d=>c a d k
def Zzk (c:ZOm) (a b:ZnG) (k:Int):ZJP:=(Zpa a b).bind fun q=>bif (decide (q > 0))then (ZvQ c b a k)else (ZvQ c a b k)
def ZxQ (c:ZOl) (a b:ZnG) (k:Int):ZJT:=(idx b 0).bind fun e=>bif ((andK .u32 e 1) == 0)then ((Zqz b).bind fun d=>c a d k)else (some (a,b,k))
def Zo2:Nat->ZnG->ZnG->Int->ZJT
 |0,_,_,_=>none
 |n_+1,a,b,k=>ZxQ (Zo2 n_) a b k
def Zzl (c:ZOm) (a b:ZnG) (k:Int):ZJP:=(Zo2 big a b k).bind fun(e,f,d)=>Zzk c e f d
def ZrC (c:ZOl) (a b:ZnG) (k:Int):ZJT:=(idx a 0).bind fun d=>bif ((andK .u32 d 1) == 0)then ((Zqz a).bind fun e=>c e b k)else (some (a,b,k))
def Zo3:Nat->ZnG->ZnG->Int->ZJT
 |0,_,_,_=>none
 |n_+1,a,b,k=>ZrC (Zo3 n_) a b k
def ZrD (c:ZOm) (a b:ZnG) (k:Int):ZJP:=bif (decide ((b.length:Int) > 0))then ((Zo3 big a b k).bind fun(e,f,d)=>Zzl c e f d)else (some (a,k))
def Zn3:Nat->ZnG->ZnG->Int->ZJP
 |0,_,_,_=>none
 |n_+1,a,b,k=>ZrD (Zn3 n_) a b k
def Zzm (a b:ZnG) (k:Int):Option ZnG:=(Zn3 big a b k).bind fun(c,d)=>Zzj c d
def ZvR (c:ZOl) (a b:ZnG) (k:Int) (f:Bool):ZJT:=bif f then ((Zqz a).bind fun e=>(Zqz b).bind fun d=>chk (inK .i64 (k+1)) <|c e d (k+1))else (some (a,b,k))
def ZxR (c:ZOl) (a b:ZnG) (k:Int):ZJT:=(idx a 0).bind fun d=>bif ((andK .u32 d 1) == 0)then ((idx b 0).bind fun e=>ZvR c a b k ((andK .u32 e 1) == 0))else (ZvR c a b k false)
def Zq5:Nat->ZnG->ZnG->Int->ZJT
 |0,_,_,_=>none
 |n_+1,a,b,k=>ZxR (Zq5 n_) a b k
def Zu3 (a b:ZnG):Option ZnG:=(Zq5 big a b (0:Int)).bind fun(d,e,c)=>Zzm d e c
def Zyi (a:ZnG) (i:Int):Option Int:=chk (decide ((32:Int)≠0)) <|chk (inK .i64 (Int.tdiv i 32)) <|(idx a (Int.tdiv i 32)).bind fun b=>chk (decide ((32:Int)≠0)) <|chk (decide (0<=(IntKind.wrap .u64 (Int.tmod i 32)))) <|some (andK .u32 (shrK .u32 b (IntKind.wrap .u64 (Int.tmod i 32))) 1)
def Zzn (b q:ZnG):ZHM:=(Zoy q).bind fun a=>some (a,b)
def ZsN (c:ZTS) (a b d:ZnG) (i:Int) (q:ZnG):ZHM:=chk (inK .i64 (i - 1)) <|c a b d (i - 1) q
def Zt4 (d:ZTS) (a b j:ZnG) (i:Int) (q:ZnG):ZHM:=bif (decide (i>=0))then ((Zyi a i).bind fun g=>(Ztp j g).bind fun c=>(Zpa c b).bind fun h=>bif (decide (h>=0))then ((Zq8 c b).bind fun e=>chk (decide ((32:Int)≠0)) <|chk (inK .i64 (Int.tdiv i 32)) <|chk (inR (Int.tdiv i 32) (q.length:Int)) <|(q[((Int.tdiv i 32)).toNat]?).bind fun f=>chk (decide ((32:Int)≠0)) <|chk (decide (0<=(IntKind.wrap .u64 (Int.tmod i 32)))) <|chk (inR (Int.tdiv i 32) (q.length:Int)) <|ZsN d a b e i (q.set (((Int.tdiv i 32)).toNat) (orK .u32 f (shlK .u32 1 (IntKind.wrap .u64 (Int.tmod i 32))))))else (ZsN d a b c i q))else (some (j,q))
def ZsM:Nat->ZnG->ZnG->ZnG->Int->ZnG->ZHM
 |0,_,_,_,_,_=>none
 |n_+1,a,b,r_,i,q=>Zt4 (ZsM n_) a b r_ i q
def ZBw (n:Nat) (s:(ZnG×ZnG×ZnG×Int×ZnG)):ZHM:=ZsM n s.1 s.2.1 s.2.2.1 s.2.2.2.1 s.2.2.2.2
def ZxS (c:(ZnG×ZnG×ZnG×Int×ZnG)->ZHM) (s:(ZnG×ZnG×ZnG×Int×ZnG)):ZHM:=Zt4 (fun a b d i q=>c (a,b,d,i,q)) s.1 s.2.1 s.2.2.1 s.2.2.2.1 s.2.2.2.2
theorem ZEH:∀n s,ZBw (n+1) s=ZxS (ZBw n) s:=fun _ _=>rfl
def Zu4 (a b:ZnG):ZHM:=chk (mkOk (a.length:Int) (a.length:Int) 4) <|chk (inK .i64 (32*(a.length:Int))) <|chk (inK .i64 ((32*(a.length:Int)) - 1)) <|(ZsM big a b ([]:ZnG) ((32*(a.length:Int)) - 1) (List.replicate ((a.length:Int)).toNat (0:Int))).bind fun(c,d)=>Zzn c d
def Zq3 (a b:ZnI):Option ZnB:=bif ((a.Words.length:Int) == 0)then ((Zob 1).bind fun q=>some (ZnB.mk (ZnI.mk false ([]:ZnG)) q))else ((Zu3 a.Words b.Words).bind fun g=>(Zu4 a.Words g).bind fun(e,f)=>(Zu4 b.Words g).bind fun(y,h)=>(Zog (!(a.Neg == b.Neg)) e).bind fun c=>(Zog false y).bind fun d=>some (ZnB.mk c d))
def ZuV (c:Bool) (b a:ZnI) (g d:Bool) (f e:ZnG):ZFO:=bif c then (some ((ZnB.mk (ZnI.mk false ([]:ZnG)) (ZnI.mk false ([]:ZnG))),1))else (bif ((a.Words.length:Int) == 0)then (some ((ZnB.mk (ZnI.mk false ([]:ZnG)) (ZnI.mk false ([]:ZnG))),8))else ((Zq3 b a).bind fun q=>some (q,0)))
def Zxl (a b:ZnI):ZFO:=(Zqb a).bind fun q=>bif (!q)then (ZuV true a b false false ([]:ZnG) ([]:ZnG))else ((Zqb b).bind fun c=>ZuV (!c) a b false false ([]:ZnG) ([]:ZnG))
def Zwb (a c:Int):ZFO:=(Zob a).bind fun q=>(Zob c).bind fun d=>(Zxl q d).bind fun(e,b)=>some (e,b)
def Zpz (n d:Int):Option ZnB:=(Zwb n d).bind fun(f,q)=>some f
def ZAP (n:Int):Option ZnB:=(Zpz n 1).bind fun q=>some q
def ZnM (n:Int):Option ZnB:=ZOv (ZAP n)
def ZFD (a y:Int):ZHv:=chk (decide (0<=(32:Int))) <|chk (decide (0<=(32:Int))) <|chk (decide (0<=(32:Int))) <|chk (decide (0<=(32:Int))) <|chk (decide (0<=(32:Int))) <|some ((IntKind.wrap .u64 ((IntKind.wrap .u64 ((IntKind.wrap .u64 ((shrK .u64 a 32)*(shrK .u64 y 32)))+(shrK .u64 (IntKind.wrap .u64 ((IntKind.wrap .u64 ((shrK .u64 a 32)*(andK .u64 y 4294967295)))+(shrK .u64 (IntKind.wrap .u64 ((andK .u64 a 4294967295)*(andK .u64 y 4294967295))) 32))) 32)))+(shrK .u64 (IntKind.wrap .u64 ((andK .u64 (IntKind.wrap .u64 ((IntKind.wrap .u64 ((shrK .u64 a 32)*(andK .u64 y 4294967295)))+(shrK .u64 (IntKind.wrap .u64 ((andK .u64 a 4294967295)*(andK .u64 y 4294967295))) 32))) 4294967295)+(IntKind.wrap .u64 ((andK .u64 a 4294967295)*(shrK .u64 y 32))))) 32))),(IntKind.wrap .u64 (a*y)))
def ZDL (x y c:Int):ZHv:=chk (decide (0<=c/\c<=1)) <| some ((x+y+c) % 18446744073709551616,(x+y+c) / 18446744073709551616)
def ZCq (a n:Int):Option Int:=(idx ([0,1,2,2,3,3,3,3,4,4,4,4,4,4,4,4,5,5,5,5,5,5,5,5,5,5,5,5,5,5,5,5,6,6,6,6,6,6,6,6,6,6,6,6,6,6,6,6,6,6,6,6,6,6,6,6,6,6,6,6,6,6,6,6,7,7,7,7,7,7,7,7,7,7,7,7,7,7,7,7,7,7,7,7,7,7,7,7,7,7,7,7,7,7,7,7,7,7,7,7,7,7,7,7,7,7,7,7,7,7,7,7,7,7,7,7,7,7,7,7,7,7,7,7,7,7,7,7,8,8,8,8,8,8,8,8,8,8,8,8,8,8,8,8,8,8,8,8,8,8,8,8,8,8,8,8,8,8,8,8,8,8,8,8,8,8,8,8,8,8,8,8,8,8,8,8,8,8,8,8,8,8,8,8,8,8,8,8,8,8,8,8,8,8,8,8,8,8,8,8,8,8,8,8,8,8,8,8,8,8,8,8,8,8,8,8,8,8,8,8,8,8,8,8,8,8,8,8,8,8,8,8,8,8,8,8,8,8,8,8,8,8,8,8,8,8,8,8,8,8,8,8,8,8,8,8]:Str) (IntKind.wrap .u8 a)).bind fun c=>chk (inK .i64 (n+(IntKind.wrap .i64 ((c.toNat:Nat):Int)))) <|some (n+(IntKind.wrap .i64 ((c.toNat:Nat):Int)))
def ZCr (a n:Int):Option Int:=bif (decide (a>=256))then (chk (decide (0<=(8:Int))) <|chk (inK .i64 (n+8)) <|ZCq (shrK .u64 a 8) (n+8))else (ZCq a n)
def ZCs (a n:Int):Option Int:=bif (decide (a>=65536))then (chk (decide (0<=(16:Int))) <|chk (inK .i64 (n+16)) <|ZCr (shrK .u64 a 16) (n+16))else (ZCr a n)
def ZDK (a:Int):Option Int:=bif (decide (a>=4294967296))then (chk (decide (0<=(32:Int))) <|ZCs (shrK .u64 a 32) (32:Int))else (ZCs a (0:Int))
def ZCj (a:Int):Option Int:=(ZDK a).bind fun q=>chk (inK .i64 (64 - q)) <|some (64 - q)
def ZEr (y s b d a c:Int):ZHv:=chk (decide (0<=s)) <|some ((IntKind.wrap .u64 ((IntKind.wrap .u64 (d*4294967296))+c)),(shrK .u64 (IntKind.wrap .u64 ((IntKind.wrap .u64 ((IntKind.wrap .u64 (a*4294967296))+b)) - (IntKind.wrap .u64 (c*y)))) s))
def ZCt (e:ZT5) (y s c i d h b a g:Int) (f:Bool):ZOi:=bif f then (bif (decide ((IntKind.wrap .u64 (b+c))>=4294967296))then (some (y,s,d,h,a,(IntKind.wrap .u64 (g - 1))))else (e y s c i d h (IntKind.wrap .u64 (b+c)) a (IntKind.wrap .u64 (g - 1))))else (some (y,s,d,h,a,g))
def ZF1 (c:ZT5) (y s f d e h a b g:Int):ZOi:=bif (decide (g>=4294967296))then (ZCt c y s f d e h a b g true)else (ZCt c y s f d e h a b g (decide ((IntKind.wrap .u64 (g*d)) > (IntKind.wrap .u64 ((IntKind.wrap .u64 (4294967296*a))+e)))))
def ZzL:Nat->Int->Int->Int->Int->Int->Int->Int->Int->Int->ZOi
 |0,_,_,_,_,_,_,_,_,_=>none
 |n_+1,y,s,yn1,yn0,un0,q1,rhat,un21,q0=>ZF1 (ZzL n_) y s yn1 yn0 un0 q1 rhat un21 q0
def ZEs (y s b e a c f d:Int):ZHv:=chk (decide (b≠0)) <|(ZzL big y s b e f d (IntKind.wrap .u64 ((IntKind.wrap .u64 ((IntKind.wrap .u64 ((IntKind.wrap .u64 (a*4294967296))+c)) - (IntKind.wrap .u64 (d*y)))) - (IntKind.wrap .u64 ((IntKind.wrap .u64 (Int.tdiv (IntKind.wrap .u64 ((IntKind.wrap .u64 ((IntKind.wrap .u64 (a*4294967296))+c)) - (IntKind.wrap .u64 (d*y)))) b))*b)))) (IntKind.wrap .u64 ((IntKind.wrap .u64 ((IntKind.wrap .u64 (a*4294967296))+c)) - (IntKind.wrap .u64 (d*y)))) (IntKind.wrap .u64 (Int.tdiv (IntKind.wrap .u64 ((IntKind.wrap .u64 ((IntKind.wrap .u64 (a*4294967296))+c)) - (IntKind.wrap .u64 (d*y)))) b))).bind fun(j,l,i,k,g,h)=>ZEr j l i k g h
def ZCu (g:ZT4) (y s b d a e f h c:Int) (i:Bool):ZOj:=bif i then (bif (decide ((IntKind.wrap .u64 (c+b))>=4294967296))then (some (y,s,b,d,a,e,f,(IntKind.wrap .u64 (h - 1))))else (g y s b d a e f (IntKind.wrap .u64 (h - 1)) (IntKind.wrap .u64 (c+b))))else (some (y,s,b,d,a,e,f,h))
def ZF2 (c:ZT4) (y s f d b e g h a:Int):ZOj:=bif (decide (h>=4294967296))then (ZCu c y s f d b e g h a true)else (ZCu c y s f d b e g h a (decide ((IntKind.wrap .u64 (h*d)) > (IntKind.wrap .u64 ((IntKind.wrap .u64 (4294967296*a))+e)))))
def ZzM:Nat->Int->Int->Int->Int->Int->Int->Int->Int->Int->ZOj
 |0,_,_,_,_,_,_,_,_,_=>none
 |n_+1,y,s,yn1,yn0,un32,un1,un0,q1,rhat=>ZF2 (ZzM n_) y s yn1 yn0 un32 un1 un0 q1 rhat
def ZFE (hi lo y:Int):ZHv:=bif (y == 0)then (none)else (bif (decide (y<=hi))then (none)else (bif (hi == 0)then (chk (decide (y≠0)) <|chk (decide (y≠0)) <|some ((IntKind.wrap .u64 (Int.tdiv lo y)),(Int.tmod lo y)))else ((ZCj y).bind fun q=>chk (decide (0<=(IntKind.wrap .u64 q))) <|chk (decide (0<=(32:Int))) <|chk (decide (0<=(IntKind.wrap .u64 q))) <|chk (decide (0<=(IntKind.wrap .u64 (64 - (IntKind.wrap .u64 q))))) <|chk (decide (0<=(IntKind.wrap .u64 q))) <|chk (decide (0<=(32:Int))) <|chk (decide ((shrK .u64 (shlK .u64 y (IntKind.wrap .u64 q)) 32)≠0)) <|(ZzM big (shlK .u64 y (IntKind.wrap .u64 q)) (IntKind.wrap .u64 q) (shrK .u64 (shlK .u64 y (IntKind.wrap .u64 q)) 32) (andK .u64 (shlK .u64 y (IntKind.wrap .u64 q)) 4294967295) (orK .u64 (shlK .u64 hi (IntKind.wrap .u64 q)) (shrK .u64 lo (IntKind.wrap .u64 (64 - (IntKind.wrap .u64 q))))) (shrK .u64 (shlK .u64 lo (IntKind.wrap .u64 q)) 32) (andK .u64 (shlK .u64 lo (IntKind.wrap .u64 q)) 4294967295) (IntKind.wrap .u64 (Int.tdiv (orK .u64 (shlK .u64 hi (IntKind.wrap .u64 q)) (shrK .u64 lo (IntKind.wrap .u64 (64 - (IntKind.wrap .u64 q))))) (shrK .u64 (shlK .u64 y (IntKind.wrap .u64 q)) 32))) (IntKind.wrap .u64 ((orK .u64 (shlK .u64 hi (IntKind.wrap .u64 q)) (shrK .u64 lo (IntKind.wrap .u64 (64 - (IntKind.wrap .u64 q))))) - (IntKind.wrap .u64 ((IntKind.wrap .u64 (Int.tdiv (orK .u64 (shlK .u64 hi (IntKind.wrap .u64 q)) (shrK .u64 lo (IntKind.wrap .u64 (64 - (IntKind.wrap .u64 q))))) (shrK .u64 (shlK .u64 y (IntKind.wrap .u64 q)) 32)))*(shrK .u64 (shlK .u64 y (IntKind.wrap .u64 q)) 32)))))).bind fun(f,h,e,g,a,d,c,b)=>ZEs f h e g a d c b)))
def ZJv (f:ZnB):Option ZnB:=chk (ZiZ f.Num.Words.length 4) <|chk (ZiZ f.Den.Words.length 4) <|some f
def ZBg (l:ZoS) (p q:Int) (g n j:Bool) (i h:ZnG):ZFO:=bif g then (some ((ZnB.mk (ZnI.mk false ([]:ZnG)) (ZnI.mk false ([]:ZnG))),2))else (bif ((l.length:Int) == 0)then (some ((ZnB.mk (ZnI.mk false ([]:ZnG)) (ZnI.mk false ([]:ZnG))),5))else ((ZFD (IntKind.wrap .u64 (l.length:Int)) (IntKind.wrap .u64 p)).bind fun(c,e)=>chk (inK .i64 (q - 1)) <|(ZDL e (IntKind.wrap .u64 (q - 1)) 0).bind fun(b,a)=>(ZFE (IntKind.wrap .u64 (c+a)) b (IntKind.wrap .u64 q)).bind fun(k,m)=>chk (inK .i64 ((if (1:Int) > (IntKind.wrap .i64 k)then (1:Int)else (IntKind.wrap .i64 k)) - 1)) <|(idx l ((if (1:Int) > (IntKind.wrap .i64 k)then (1:Int)else (IntKind.wrap .i64 k)) - 1)).bind fun d=>(ZJv d).bind fun f=>some (f,0)))
def ZE1 (l:ZoS) (p q:Int):ZFO:=bif (decide (q < 1))then (ZBg l p q true false false ([]:ZnG) ([]:ZnG))else (bif (decide (p < 0))then (ZBg l p q true false false ([]:ZnG) ([]:ZnG))else (ZBg l p q (decide (p > q)) false false ([]:ZnG) ([]:ZnG)))
def ZpY (a:Bool):Option Bool:=some a
def Zyb (a:ZnI):Option Bool:=bif (decide ((a.Words.length:Int)<=256))then (bif ((a.Words.length:Int) == 0)then (bif (!a.Neg)then (ZpY true)else (bif (decide ((a.Words.length:Int) > 0))then (chk (inK .i64 ((a.Words.length:Int) - 1)) <|(idx a.Words ((a.Words.length:Int) - 1)).bind fun Word=>ZpY (Word != 0))else (ZpY false)))else (bif (decide ((a.Words.length:Int) > 0))then (chk (inK .i64 ((a.Words.length:Int) - 1)) <|(idx a.Words ((a.Words.length:Int) - 1)).bind fun Word_1=>ZpY (Word_1 != 0))else (ZpY false)))else (ZpY false)
def ZFj:Option Bool:=some true
def ZzP (b:(List ZnI)->Int->Int->Zvi) (d:(List ZnI)) (e c:Int):Zvi:=bif (decide (c < e))then ((idx d c).bind fun a=>(Zyb a).bind fun q=>bif (!q)then (some (.ret false))else (chk (inK .i64 (c+1)) <|b d e (c+1)))else (some (.brk ()))
def ZBi:Nat->(List ZnI)->Int->Int->Zvi
 |0,_,_,_=>none
 |n_+1,t5,t6,t7=>ZzP (ZBi n_) t5 t6 t7
def ZEt (n:Nat) (s:((List ZnI)×Int×Int)):Zvi:=ZBi n s.1 s.2.1 s.2.2
def ZCv (a:((List ZnI)×Int×Int)->Zvi) (s:((List ZnI)×Int×Int)):Zvi:=ZzP (fun b c d=>a (b,c,d)) s.1 s.2.1 s.2.2
theorem ZGd:∀n s,ZEt (n+1) s=ZCv (ZEt n) s:=fun _ _=>rfl
def ZBU (l:(List ZnI)):Option Bool:=(ZBi big l (l.length:Int) (0:Int)).bind fun
 | .ret a=>some a
 | .brk ()=>ZFj
def ZBX (a:Int):Option Bool:=some (a != a)
def Ztv (c y:Int):Option Int:=(ZBX c).bind fun b=>(ZBX y).bind fun a=>bif b then (bif a then (some (0:Int))else (some (-1:Int)))else (bif a then (some (1:Int))else (bif (decide (c < y))then (some (-1:Int))else (bif (decide (c > y))then (some (1:Int))else (some (0:Int)))))
def ZDl (a:Int):Option Bool:=some (a != a)
def ZCx (c y:Int):Option Int:=(ZDl c).bind fun b=>(ZDl y).bind fun a=>bif b then (bif a then (some (0:Int))else (some (-1:Int)))else (bif a then (some (1:Int))else (bif (decide (c < y))then (some (-1:Int))else (bif (decide (c > y))then (some (1:Int))else (some (0:Int)))))
def Zx8:Option Int:=some (0:Int)
def Ztd (d:ZnG->ZnG->Int->ZGZ) (e f:ZnG) (i:Int):ZGZ:=bif (decide (i>=0))then ((idx e i).bind fun b=>(idx f i).bind fun a=>(ZCx b a).bind fun c=>bif (c != 0)then (some (.ret c))else (chk (inK .i64 (i - 1)) <|d e f (i - 1)))else (some (.brk ()))
def Zuv:Nat->ZnG->ZnG->Int->ZGZ
 |0,_,_,_=>none
 |n_+1,w_,v_,i=>Ztd (Zuv n_) w_ v_ i
def ZAL (n:Nat) (s:(ZnG×ZnG×Int)):ZGZ:=Zuv n s.1 s.2.1 s.2.2
def ZwQ (a:(ZnG×ZnG×Int)->ZGZ) (s:(ZnG×ZnG×Int)):ZGZ:=Ztd (fun c b i=>a (c,b,i)) s.1 s.2.1 s.2.2
theorem ZD1:∀n s,ZAL (n+1) s=ZwQ (ZAL n) s:=fun _ _=>rfl
def Zqi (a b:ZnG):Option Int:=(Ztv (a.length:Int) (b.length:Int)).bind fun c=>bif (c != 0)then (some c)else (chk (inK .i64 ((a.length:Int) - 1)) <|(Zuv big a b ((a.length:Int) - 1)).bind fun
 | .ret d=>some d
 | .brk ()=>Zx8)
def ZnO (s:ZnG) (a:Bool):Option ZnG:=bif a then (some ([]:ZnG))else (chk (ZiZ (([]:ZnG).length+s.length) 4) <|some (([]:ZnG)++s))
def Zqp (s:ZnG):Option ZnG:=bif (List.isEmpty s)then agree (ZnO s true) (ZnO s false)else (ZnO s false)
def Zw1 (hi lo y:Int) (a:Bool):ZHv:=bif a then (none)else (chk (decide (0<=(32:Int))) <|chk (decide ((IntKind.wrap .u64 y)≠0)) <|chk (decide ((IntKind.wrap .u64 y)≠0)) <|some ((IntKind.wrap .u32 (IntKind.wrap .u64 (Int.tdiv (orK .u64 (shlK .u64 (IntKind.wrap .u64 hi) 32) (IntKind.wrap .u64 lo)) (IntKind.wrap .u64 y)))),(IntKind.wrap .u32 (Int.tmod (orK .u64 (shlK .u64 (IntKind.wrap .u64 hi) 32) (IntKind.wrap .u64 lo)) (IntKind.wrap .u64 y)))))
def ZCa (hi lo y:Int):ZHv:=bif (y != 0)then (Zw1 hi lo y (decide (y<=hi)))else (Zw1 hi lo y false)
def ZBQ (a:ZnG):Option ZnG:=some a
def ZyW (b:ZMT) (a:ZnG) (c:Bool):Option ZnG:=bif c then (chk (inK .i64 ((a.length:Int) - 1)) <|chk (Zb9 0 ((a.length:Int) - 1) (a.length:Int)) <|b (a.take (((a.length:Int) - 1)).toNat))else (some a)
def Zxt (a:ZMT) (b:ZnG):Option ZnG:=bif (decide ((b.length:Int) > 0))then (chk (inK .i64 ((b.length:Int) - 1)) <|(idx b ((b.length:Int) - 1)).bind fun c=>ZyW a b (c == 0))else (ZyW a b false)
def Zqu:Nat->ZnG->Option ZnG
 |0,_=>none
 |n_+1,w_=>Zxt (Zqu n_) w_
def ZDf (n:Nat) (s:ZnG):Option ZnG:=Zqu n s
def ZDg (a:ZMT) (s:ZnG):Option ZnG:=Zxt (fun b=>a b) s
theorem ZFF:∀n s,ZDf (n+1) s=ZDg (ZDf n) s:=fun _ _=>rfl
def ZoQ (b:ZnG):Option ZnG:=(Zqu big b).bind fun a=>ZBQ a
def Zzu (a:Int) (b:ZnG):ZJP:=(ZoQ b).bind fun q=>some (q,a)
def Zus (f:ZnG->Int->Int->Int->ZnG->ZCf) (g:ZnG) (d b i:Int) (c:ZnG):ZCf:=bif (decide (i>=0))then ((idx g i).bind fun e=>(ZCa b e d).bind fun(q,a)=>chk (inR i (c.length:Int)) <|chk (inK .i64 (i - 1)) <|f g d a (i - 1) (c.set ((i).toNat) q))else (some (b,c))
def Zv0:Nat->ZnG->Int->Int->Int->ZnG->ZCf
 |0,_,_,_,_,_=>none
 |n_+1,w_,d,rest,i,out=>Zus (Zv0 n_) w_ d rest i out
def ZBN (n:Nat) (s:(ZnG×Int×Int×Int×ZnG)):ZCf:=Zv0 n s.1 s.2.1 s.2.2.1 s.2.2.2.1 s.2.2.2.2
def Zx5 (b:(ZnG×Int×Int×Int×ZnG)->ZCf) (s:(ZnG×Int×Int×Int×ZnG)):ZCf:=Zus (fun e d a i c=>b (e,d,a,i,c)) s.1 s.2.1 s.2.2.1 s.2.2.2.1 s.2.2.2.2
theorem ZEO:∀n s,ZBN (n+1) s=Zx5 (ZBN n) s:=fun _ _=>rfl
def Zyn (a:ZnG) (d:Int):ZJP:=chk (mkOk (a.length:Int) (a.length:Int) 4) <|chk (inK .i64 ((a.length:Int) - 1)) <|(Zv0 big a d (0:Int) ((a.length:Int) - 1) (List.replicate ((a.length:Int)).toNat (0:Int))).bind fun(b,c)=>Zzu b c
def Zuz (a n:Int):Option Int:=(idx ([0,1,2,2,3,3,3,3,4,4,4,4,4,4,4,4,5,5,5,5,5,5,5,5,5,5,5,5,5,5,5,5,6,6,6,6,6,6,6,6,6,6,6,6,6,6,6,6,6,6,6,6,6,6,6,6,6,6,6,6,6,6,6,6,7,7,7,7,7,7,7,7,7,7,7,7,7,7,7,7,7,7,7,7,7,7,7,7,7,7,7,7,7,7,7,7,7,7,7,7,7,7,7,7,7,7,7,7,7,7,7,7,7,7,7,7,7,7,7,7,7,7,7,7,7,7,7,7,8,8,8,8,8,8,8,8,8,8,8,8,8,8,8,8,8,8,8,8,8,8,8,8,8,8,8,8,8,8,8,8,8,8,8,8,8,8,8,8,8,8,8,8,8,8,8,8,8,8,8,8,8,8,8,8,8,8,8,8,8,8,8,8,8,8,8,8,8,8,8,8,8,8,8,8,8,8,8,8,8,8,8,8,8,8,8,8,8,8,8,8,8,8,8,8,8,8,8,8,8,8,8,8,8,8,8,8,8,8,8,8,8,8,8,8,8,8,8,8,8,8,8,8,8,8,8,8]:Str) (IntKind.wrap .u8 a)).bind fun c=>chk (inK .i64 (n+(IntKind.wrap .i64 ((c.toNat:Nat):Int)))) <|some (n+(IntKind.wrap .i64 ((c.toNat:Nat):Int)))
def ZzK (a n:Int):Option Int:=bif (decide (a>=256))then (chk (decide (0<=(8:Int))) <|chk (inK .i64 (n+8)) <|Zuz (shrK .u32 a 8) (n+8))else (Zuz a n)
def ZB9 (a:Int):Option Int:=bif (decide (a>=65536))then (chk (decide (0<=(16:Int))) <|ZzK (shrK .u32 a 16) (16:Int))else (ZzK a (0:Int))
def ZuZ (a:Int):Option Int:=(ZB9 a).bind fun q=>chk (inK .i64 (32 - q)) <|some (32 - q)
def Zx6 (a:ZnG):Option ZnG:=some a
def Ztc (e:Int->ZnG->Int->Int->ZnG->Option ZnG) (n:Int) (f:ZnG) (c i:Int) (a:ZnG):Option ZnG:=bif (decide (i < c))then ((idx f i).bind fun d=>chk (decide (0<=n)) <|chk (inR i (a.length:Int)) <|(a[(i).toNat]?).bind fun b=>chk (inR i (a.length:Int)) <|chk (inK .i64 (i+1)) <|chk (decide (0<=(32:Int))) <|chk (inR (i+1) ((a.set ((i).toNat) (orK .u32 b (IntKind.wrap .u32 (shlK .u64 (IntKind.wrap .u64 d) n)))).length:Int)) <|chk (inK .i64 (i+1)) <|e n f c (i+1) ((a.set ((i).toNat) (orK .u32 b (IntKind.wrap .u32 (shlK .u64 (IntKind.wrap .u64 d) n)))).set (((i+1)).toNat) (IntKind.wrap .u32 (shrK .u64 (shlK .u64 (IntKind.wrap .u64 d) n) 32))))else (some a)
def Zut:Nat->Int->ZnG->Int->Int->ZnG->Option ZnG
 |0,_,_,_,_,_=>none
 |n_+1,n,t13,t14,i,out=>Ztc (Zut n_) n t13 t14 i out
def ZAK (n:Nat) (s:(Int×ZnG×Int×Int×ZnG)):Option ZnG:=Zut n s.1 s.2.1 s.2.2.1 s.2.2.2.1 s.2.2.2.2
def ZwP (a:(Int×ZnG×Int×Int×ZnG)->Option ZnG) (s:(Int×ZnG×Int×Int×ZnG)):Option ZnG:=Ztc (fun n c b i d=>a (n,c,b,i,d)) s.1 s.2.1 s.2.2.1 s.2.2.2.1 s.2.2.2.2
theorem ZD0:∀n s,ZAK (n+1) s=ZwP (ZAK n) s:=fun _ _=>rfl
def Zrv (a:ZnG) (n:Int):Option ZnG:=chk (inK .i64 ((a.length:Int)+1)) <|chk (mkOk ((a.length:Int)+1) ((a.length:Int)+1) 4) <|(Zut big n a (a.length:Int) (0:Int) (List.replicate (((a.length:Int)+1)).toNat (0:Int))).bind fun b=>Zx6 b
def ZxC (b y a:Int):ZHv:=chk (decide (0<=(31:Int))) <|some ((IntKind.wrap .u32 ((IntKind.wrap .u32 (b - y)) - a)),(shrK .u32 (orK .u32 (andK .u32 (xorK .u32 (if IntKind.signed .u32 then -1 else IntKind.max .u32) b) y) (andK .u32 (xorK .u32 (if IntKind.signed .u32 then -1 else IntKind.max .u32) (xorK .u32 b y)) (IntKind.wrap .u32 ((IntKind.wrap .u32 (b - y)) - a)))) 31))
def Zz4 (b y a:Int):ZHv:=chk (decide (0<=(32:Int))) <|some ((IntKind.wrap .u32 (IntKind.wrap .u64 ((IntKind.wrap .u64 ((IntKind.wrap .u64 b)+(IntKind.wrap .u64 y)))+(IntKind.wrap .u64 a)))),(IntKind.wrap .u32 (shrK .u64 (IntKind.wrap .u64 ((IntKind.wrap .u64 ((IntKind.wrap .u64 b)+(IntKind.wrap .u64 y)))+(IntKind.wrap .u64 a))) 32)))
def ZAu (a b:Nat) (n c d:Int) (u:ZnG):ZCf:=chk (inR n (b:Int)) <|(u[(a+(n).toNat)]?).bind fun e=>chk (inR n (b:Int)) <|some ((IntKind.wrap .u32 (IntKind.wrap .u64 (c - 1))),(u.set (a+(n).toNat) (IntKind.wrap .u32 (e+d))))
def ZyX (g:Nat->Nat->Int->Int->Int->ZnG->Int->Int->ZnG->ZLM) (a b:Nat) (n c h:Int) (e:ZnG) (d i:Int) (u:ZnG):ZLM:=bif (decide (i < d))then ((idx e i).bind fun k=>chk (inR i (b:Int)) <|(u[(a+(i).toNat)]?).bind fun j=>(Zz4 j k h).bind fun(q,f)=>chk (inR i (b:Int)) <|chk (inK .i64 (i+1)) <|g a b n c f e d (i+1) (u.set (a+(i).toNat) q))else (some (a,b,n,c,h,u))
def Zx9:Nat->Nat->Nat->Int->Int->Int->ZnG->Int->Int->ZnG->ZLM
 |0,_,_,_,_,_,_,_,_,_=>none
 |n_+1,u_off,u_len,n,guess,add,t130,t131,i,u=>ZyX (Zx9 n_) u_off u_len n guess add t130 t131 i u
def ZD2 (n:Nat) (s:(Nat×Nat×Int×Int×Int×ZnG×Int×Int×ZnG)):ZLM:=Zx9 n s.1 s.2.1 s.2.2.1 s.2.2.2.1 s.2.2.2.2.1 s.2.2.2.2.2.1 s.2.2.2.2.2.2.1 s.2.2.2.2.2.2.2.1 s.2.2.2.2.2.2.2.2
def ZBR (d:(Nat×Nat×Int×Int×Int×ZnG×Int×Int×ZnG)->ZLM) (s:(Nat×Nat×Int×Int×Int×ZnG×Int×Int×ZnG)):ZLM:=ZyX (fun b c n a g f e i u=>d (b,c,n,a,g,f,e,i,u)) s.1 s.2.1 s.2.2.1 s.2.2.2.1 s.2.2.2.2.1 s.2.2.2.2.2.1 s.2.2.2.2.2.2.1 s.2.2.2.2.2.2.2.1 s.2.2.2.2.2.2.2.2
theorem ZF3:∀n s,ZD2 (n+1) s=ZBR (ZD2 n) s:=fun _ _=>rfl
def ZCS (a b:Nat) (d:ZnG) (n e f g:Int) (u:ZnG):ZCf:=chk (inR n (b:Int)) <|(u[(a+(n).toNat)]?).bind fun h=>(ZxC h (IntKind.wrap .u32 g) f).bind fun(q,c)=>chk (inR n (b:Int)) <|bif (c == 0)then (some ((IntKind.wrap .u32 e),(u.set (a+(n).toNat) q)))else ((Zx9 big a b n e (0:Int) d (d.length:Int) (0:Int) (u.set (a+(n).toNat) q)).bind fun(l,o,k,m,i,j)=>ZAu l o k m i j)
def ZyY (h:Nat->Nat->ZnG->Int->Int->Int->Int->ZnG->Int->Int->ZnG->ZLQ) (b c:Nat) (d:ZnG) (n a f e:Int) (k:ZnG) (j i:Int) (u:ZnG):ZLQ:=bif (decide (i < j))then ((idx k i).bind fun m=>chk (inR i (c:Int)) <|(u[(b+(i).toNat)]?).bind fun l=>(ZxC l (IntKind.wrap .u32 (IntKind.wrap .u64 (e+(IntKind.wrap .u64 (a*(IntKind.wrap .u64 m)))))) f).bind fun(q,g)=>chk (inR i (c:Int)) <|chk (decide (0<=(32:Int))) <|chk (inK .i64 (i+1)) <|h b c d n a g (shrK .u64 (IntKind.wrap .u64 (e+(IntKind.wrap .u64 (a*(IntKind.wrap .u64 m))))) 32) k j (i+1) (u.set (b+(i).toNat) q))else (some (b,c,d,n,a,f,e,u))
def ZAt:Nat->Nat->Nat->ZnG->Int->Int->Int->Int->ZnG->Int->Int->ZnG->ZLQ
 |0,_,_,_,_,_,_,_,_,_,_,_=>none
 |n_+1,u_off,u_len,d,n,guess,borrow,carry,t82,t83,i,u=>ZyY (ZAt n_) u_off u_len d n guess borrow carry t82 t83 i u
def ZD3 (n:Nat) (s:(Nat×Nat×ZnG×Int×Int×Int×Int×ZnG×Int×Int×ZnG)):ZLQ:=ZAt n s.1 s.2.1 s.2.2.1 s.2.2.2.1 s.2.2.2.2.1 s.2.2.2.2.2.1 s.2.2.2.2.2.2.1 s.2.2.2.2.2.2.2.1 s.2.2.2.2.2.2.2.2.1 s.2.2.2.2.2.2.2.2.2.1 s.2.2.2.2.2.2.2.2.2.2
def ZBS (g:(Nat×Nat×ZnG×Int×Int×Int×Int×ZnG×Int×Int×ZnG)->ZLQ) (s:(Nat×Nat×ZnG×Int×Int×Int×Int×ZnG×Int×Int×ZnG)):ZLQ:=ZyY (fun e f d n c a b j h i u=>g (e,f,d,n,c,a,b,j,h,i,u)) s.1 s.2.1 s.2.2.1 s.2.2.2.1 s.2.2.2.2.1 s.2.2.2.2.2.1 s.2.2.2.2.2.2.1 s.2.2.2.2.2.2.2.1 s.2.2.2.2.2.2.2.2.1 s.2.2.2.2.2.2.2.2.2.1 s.2.2.2.2.2.2.2.2.2.2
theorem ZF4:∀n s,ZD3 (n+1) s=ZBS (ZD3 n) s:=fun _ _=>rfl
def ZAv (u_off:Nat) (u_len:Nat) (d:ZnG) (n:Int) (guess:Int) (u:ZnG):ZCf:=(ZAt big u_off u_len d n guess (0:Int) (0:Int) d (d.length:Int) (0:Int) u).bind fun(x0,x1,x2,x3,x4,x5,x6,x7)=>ZCS x0 x1 x2 x3 x4 x5 x6 x7
def Zya (f:ZT1) (b c:Nat) (d:ZnG) (n a e:Int) (g:Bool) (u:ZnG):ZKz:=bif g then (chk (inK .i64 (n - 1)) <|(idx d (n - 1)).bind fun h=>f b c d n (IntKind.wrap .u64 (a - 1)) (IntKind.wrap .u64 (e+(IntKind.wrap .u64 h))) u)else (some (b,c,d,n,a,u))
def ZBT (f:ZT1) (b c:Nat) (d:ZnG) (n a e:Int) (u:ZnG):ZKz:=bif (decide (e < 4294967296))then (chk (inK .i64 (n - 2)) <|(idx d (n - 2)).bind fun g=>chk (decide (0<=(32:Int))) <|chk (inK .i64 (n - 2)) <|chk (inR (n - 2) (c:Int)) <|(u[(b+((n - 2)).toNat)]?).bind fun h=>Zya f b c d n a e (decide ((IntKind.wrap .u64 (a*(IntKind.wrap .u64 g))) > (orK .u64 (shlK .u64 e 32) (IntKind.wrap .u64 h)))) u)else (Zya f b c d n a e false u)
def Zvz:Nat->Nat->Nat->ZnG->Int->Int->Int->ZnG->ZKz
 |0,_,_,_,_,_,_,_=>none
 |n_+1,u_off,u_len,d,n,guess,rest,u=>ZBT (Zvz n_) u_off u_len d n guess rest u
def ZD4 (n:Nat) (s:(Nat×Nat×ZnG×Int×Int×Int×ZnG)):ZKz:=Zvz n s.1 s.2.1 s.2.2.1 s.2.2.2.1 s.2.2.2.2.1 s.2.2.2.2.2.1 s.2.2.2.2.2.2
def ZD5 (f:(Nat×Nat×ZnG×Int×Int×Int×ZnG)->ZKz) (s:(Nat×Nat×ZnG×Int×Int×Int×ZnG)):ZKz:=ZBT (fun b c d n a e u=>f (b,c,d,n,a,e,u)) s.1 s.2.1 s.2.2.1 s.2.2.2.1 s.2.2.2.2.1 s.2.2.2.2.2.1 s.2.2.2.2.2.2
theorem ZF5:∀n s,ZD4 (n+1) s=ZD5 (ZD4 n) s:=fun _ _=>rfl
def ZCM (u:ZnG) (b c:Nat) (d:ZnG):ZCf:=chk (inR (d.length:Int) (c:Int)) <|(u[(b+((d.length:Int)).toNat)]?).bind fun f=>chk (decide (0<=(32:Int))) <|chk (inK .i64 ((d.length:Int) - 1)) <|chk (inR ((d.length:Int) - 1) (c:Int)) <|(u[(b+(((d.length:Int) - 1)).toNat)]?).bind fun a=>chk (inK .i64 ((d.length:Int) - 1)) <|(idx d ((d.length:Int) - 1)).bind fun e=>chk (decide ((IntKind.wrap .u64 e)≠0)) <|chk (inK .i64 ((d.length:Int) - 1)) <|(idx d ((d.length:Int) - 1)).bind fun g=>(Zvz big b c d (d.length:Int) (if (4294967295:Int) < (IntKind.wrap .u64 (Int.tdiv (orK .u64 (shlK .u64 (IntKind.wrap .u64 f) 32) (IntKind.wrap .u64 a)) (IntKind.wrap .u64 e)))then (4294967295:Int)else (IntKind.wrap .u64 (Int.tdiv (orK .u64 (shlK .u64 (IntKind.wrap .u64 f) 32) (IntKind.wrap .u64 a)) (IntKind.wrap .u64 e)))) (IntKind.wrap .u64 ((orK .u64 (shlK .u64 (IntKind.wrap .u64 f) 32) (IntKind.wrap .u64 a)) - (IntKind.wrap .u64 ((if (4294967295:Int) < (IntKind.wrap .u64 (Int.tdiv (orK .u64 (shlK .u64 (IntKind.wrap .u64 f) 32) (IntKind.wrap .u64 a)) (IntKind.wrap .u64 e)))then (4294967295:Int)else (IntKind.wrap .u64 (Int.tdiv (orK .u64 (shlK .u64 (IntKind.wrap .u64 f) 32) (IntKind.wrap .u64 a)) (IntKind.wrap .u64 e))))*(IntKind.wrap .u64 g))))) u).bind fun(k,m,j,l,h,i)=>ZAv k m j l h i
def ZBh (u:ZnG) (a b:Nat) (d:ZnG):ZCf:=(ZCM u a b d).bind fun r=>chk (decide (r.2.length=u.length)&&true) (some r)
def ZAs (b a:Nat) (c:ZnG):ZIr:=some (b,a,c)
def Zxu (c:Nat->Nat->ZnG->ZIr) (b a:Nat) (d:Bool) (e:ZnG):ZIr:=bif d then (chk (inK .i64 (((a:Nat):Int) - 1)) <|chk (Zb9 0 (((a:Nat):Int) - 1) (a:Int)) <|c (b+0) (((((a:Nat):Int) - 1)).toNat - 0) e)else (some (b,a,e))
def Zzw (c:Nat->Nat->ZnG->ZIr) (b a:Nat) (e:ZnG):ZIr:=bif (decide (((a:Nat):Int) > 0))then (chk (inK .i64 (((a:Nat):Int) - 1)) <|chk (inR (((a:Nat):Int) - 1) (a:Int)) <|(e[(b+((((a:Nat):Int) - 1)).toNat)]?).bind fun d=>Zxu c b a (d == 0) e)else (Zxu c b a false e)
def Zux:Nat->Nat->Nat->ZnG->ZIr
 |0,_,_,_=>none
 |n_+1,w_off,w_len,w_=>Zzw (Zux n_) w_off w_len w_
def ZCI (n:Nat) (s:(Nat×Nat×ZnG)):ZIr:=Zux n s.1 s.2.1 s.2.2
def ZCJ (c:(Nat×Nat×ZnG)->ZIr) (s:(Nat×Nat×ZnG)):ZIr:=Zzw (fun b a d=>c (b,a,d)) s.1 s.2.1 s.2.2
theorem ZFg:∀n s,ZCI (n+1) s=ZCJ (ZCI n) s:=fun _ _=>rfl
def ZzN (c:ZnG) (b a:Nat):ZIr:=(Zux big b a c).bind fun(e,f,d)=>ZAs e f d
def Zyo (c:ZnG) (b a:Nat):ZIr:=(ZzN c b a).bind fun r=>chk (decide (r.2.2.length=c.length)&&true) (some r)
def Zvx (b:ZnG) (i:Int):Option Int:=bif (decide (i < (b.length:Int)))then ((idx b i).bind fun a=>some a)else (some (0:Int))
def ZBP (d:ZnG) (b a:Nat) (i:Int):ZCf:=bif (decide (i < ((a:Nat):Int)))then (chk (inR i (a:Int)) <|(d[(b+(i).toNat)]?).bind fun c=>some (c,d))else (some (0,d))
def Zxs (c:ZnG) (b a:Nat) (i:Int):ZCf:=(ZBP c b a i).bind fun r=>chk (decide (r.2.length=c.length)&&true) (some r)
def Zz6 (a b:Nat) (q c:ZnG):ZHM:=(ZoQ q).bind fun d=>(ZoQ ((c.drop a).take b)).bind fun e=>some (d,e)
def Zu1 (f:Int->Nat->Nat->Int->Int->ZnG->ZnG->ZLJ) (c:Int) (a b:Nat) (h i:Int) (q d:ZnG):ZLJ:=bif (decide (i < h))then (chk (inK .i64 (i+1)) <|(Zxs d a b (i+1)).bind fun(j,g)=>chk (decide (0<=(32:Int))) <|chk (inR i (b:Int)) <|(g[(a+(i).toNat)]?).bind fun e=>chk (decide (0<=c)) <|chk (inR i (b:Int)) <|chk (inK .i64 (i+1)) <|f c a b h (i+1) q (g.set (a+(i).toNat) (IntKind.wrap .u32 (shrK .u64 (orK .u64 (shlK .u64 (IntKind.wrap .u64 j) 32) (IntKind.wrap .u64 e)) c))))else (some (a,b,q,d))
def Zts:Nat->Int->Nat->Nat->Int->Int->ZnG->ZnG->ZLJ
 |0,_,_,_,_,_,_,_=>none
 |n_+1,shift,rest_off,rest_len,t86,i,q,rest=>Zu1 (Zts n_) shift rest_off rest_len t86 i q rest
def ZCl (n:Nat) (s:(Int×Nat×Nat×Int×Int×ZnG×ZnG)):ZLJ:=Zts n s.1 s.2.1 s.2.2.1 s.2.2.2.1 s.2.2.2.2.1 s.2.2.2.2.2.1 s.2.2.2.2.2.2
def ZyN (e:(Int×Nat×Nat×Int×Int×ZnG×ZnG)->ZLJ) (s:(Int×Nat×Nat×Int×Int×ZnG×ZnG)):ZLJ:=Zu1 (fun c a b f i q d=>e (c,a,b,f,i,q,d)) s.1 s.2.1 s.2.2.1 s.2.2.2.1 s.2.2.2.2.1 s.2.2.2.2.2.1 s.2.2.2.2.2.2
theorem ZE3:∀n s,ZCl (n+1) s=ZyN (ZCl n) s:=fun _ _=>rfl
def Zz7 (n c:Int) (u q:ZnG):ZHM:=chk (Zb9 0 n (u.length:Int)) <|(Zyo u 0 ((n).toNat - 0)).bind fun(b,a,d)=>(Zts big c b a ((a:Nat):Int) (0:Int) q d).bind fun(f,h,e,g)=>Zz6 f h e g
def Zu2 (b:Int->Int->ZnG->Int->ZnG->ZnG->ZLI) (n a:Int) (d:ZnG) (j:Int) (u q:ZnG):ZLI:=bif (decide (j>=0))then (chk (inK .i64 (j+n)) <|chk (inK .i64 ((j+n)+1)) <|chk (Zb9 j ((j+n)+1) (u.length:Int)) <|(ZBh u ((j).toNat) ((((j+n)+1)).toNat - (j).toNat) d).bind fun(c,e)=>chk (inR j (q.length:Int)) <|chk (inK .i64 (j - 1)) <|b n a d (j - 1) e (q.set ((j).toNat) c))else (some (n,a,u,q))
def Ztt:Nat->Int->Int->ZnG->Int->ZnG->ZnG->ZLI
 |0,_,_,_,_,_,_=>none
 |n_+1,n,shift,d,j,u,q=>Zu2 (Ztt n_) n shift d j u q
def ZCm (n:Nat) (s:(Int×Int×ZnG×Int×ZnG×ZnG)):ZLI:=Ztt n s.1 s.2.1 s.2.2.1 s.2.2.2.1 s.2.2.2.2.1 s.2.2.2.2.2
def ZyO (b:(Int×Int×ZnG×Int×ZnG×ZnG)->ZLI) (s:(Int×Int×ZnG×Int×ZnG×ZnG)):ZLI:=Zu2 (fun n a d j u q=>b (n,a,d,j,u,q)) s.1 s.2.1 s.2.2.1 s.2.2.2.1 s.2.2.2.2.1 s.2.2.2.2.2
theorem ZE4:∀n s,ZCm (n+1) s=ZyO (ZCm n) s:=fun _ _=>rfl
def ZrK (c a:ZnG):ZHM:=(Zqi c a).bind fun q=>bif (decide (q < 0))then ((Zqp c).bind fun h=>some (([]:ZnG),h))else (bif ((a.length:Int) == 1)then ((idx a 0).bind fun e=>(Zyn c e).bind fun(i,k)=>(ZoQ ([k]:ZnG)).bind fun g=>some (i,g))else (chk (inK .i64 ((a.length:Int) - 1)) <|(idx a ((a.length:Int) - 1)).bind fun d=>(ZuZ d).bind fun b=>(Zrv c b).bind fun u=>(Zrv a b).bind fun f=>chk (Zb9 0 (a.length:Int) (f.length:Int)) <|chk (inK .i64 ((c.length:Int) - (a.length:Int))) <|chk (inK .i64 (((c.length:Int) - (a.length:Int))+1)) <|chk (mkOk (((c.length:Int) - (a.length:Int))+1) (((c.length:Int) - (a.length:Int))+1) 4) <|chk (inK .i64 (((List.replicate ((((c.length:Int) - (a.length:Int))+1)).toNat (0:Int)).length:Int) - 1)) <|(Ztt big (a.length:Int) b ((f.drop 0).take (((a.length:Int)).toNat - 0)) (((List.replicate ((((c.length:Int) - (a.length:Int))+1)).toNat (0:Int)).length:Int) - 1) u (List.replicate ((((c.length:Int) - (a.length:Int))+1)).toNat (0:Int))).bind fun(m,j,l,n)=>Zz7 m j l n))
def ZyP (a:ZnG):Option ZnG:=some a
def Zrq (a:ZnG->ZnG->Option ZnG) (c b:ZnG):Option ZnG:=bif (decide ((b.length:Int) > 0))then ((ZrK c b).bind fun(q,d)=>a b d)else (some c)
def Zpv:Nat->ZnG->ZnG->Option ZnG
 |0,_,_=>none
 |n_+1,w_,v_=>Zrq (Zpv n_) w_ v_
def Zuw (b a:ZnG):Option ZnG:=(Zpv big b a).bind fun c=>ZyP c
def ZvA (a:Bool):Option Bool:=some a
def Zte (f:ZnB):Option Bool:=(ZBU ([f.Num,f.Den]:(List ZnI))).bind fun q=>bif q then (bif (decide ((f.Den.Words.length:Int) > 0))then (bif (!f.Den.Neg)then ((Zuw f.Num.Words f.Den.Words).bind fun a=>(Zqi a ([1]:List Int)).bind fun b=>ZvA (b == 0))else (ZvA false))else (ZvA false))else (ZvA false)
def Zzs (a:ZnG):Option ZnG:=(ZoQ a).bind fun q=>some q
def Zzt (c:ZOp) (e:ZnG) (i a:Int) (g:ZnG) (f b:Int) (d:ZnG):Option ZnG:=chk (inK .i64 (i+(e.length:Int))) <|chk (inR (i+(e.length:Int)) (d.length:Int)) <|chk (inK .i64 (b+1)) <|c e g f (b+1) (d.set (((i+(e.length:Int))).toNat) (IntKind.wrap .u32 a))
def Zuq (f:ZnG->Int->Int->Int->ZnG->Int->Int->ZnG->Int->Int->ZnG->ZLN) (m:ZnG) (i l a:Int) (h:ZnG) (d e:Int) (k:ZnG) (g j:Int) (b:ZnG):ZLN:=bif (decide (j < g))then ((idx k j).bind fun y=>chk (inK .i64 (i+j)) <|chk (inR (i+j) (b.length:Int)) <|(b[((i+j)).toNat]?).bind fun c=>chk (inK .i64 (i+j)) <|chk (inR (i+j) (b.length:Int)) <|chk (decide (0<=(32:Int))) <|chk (inK .i64 (j+1)) <|f m i l (shrK .u64 (IntKind.wrap .u64 (a+(IntKind.wrap .u64 ((IntKind.wrap .u64 ((IntKind.wrap .u64 l)*(IntKind.wrap .u64 y)))+(IntKind.wrap .u64 c))))) 32) h d e k g (j+1) (b.set (((i+j)).toNat) (IntKind.wrap .u32 (IntKind.wrap .u64 (a+(IntKind.wrap .u64 ((IntKind.wrap .u64 ((IntKind.wrap .u64 l)*(IntKind.wrap .u64 y)))+(IntKind.wrap .u64 c))))))))else (some (m,i,a,h,d,e,b))
def ZvZ:Nat->ZnG->Int->Int->Int->ZnG->Int->Int->ZnG->Int->Int->ZnG->ZLN
 |0,_,_,_,_,_,_,_,_,_,_,_=>none
 |n_+1,v_,i,x_,carry,t17,t18,i_1,t24,t25,j,out=>Zuq (ZvZ n_) v_ i x_ carry t17 t18 i_1 t24 t25 j out
def ZBL (n:Nat) (s:(ZnG×Int×Int×Int×ZnG×Int×Int×ZnG×Int×Int×ZnG)):ZLN:=ZvZ n s.1 s.2.1 s.2.2.1 s.2.2.2.1 s.2.2.2.2.1 s.2.2.2.2.2.1 s.2.2.2.2.2.2.1 s.2.2.2.2.2.2.2.1 s.2.2.2.2.2.2.2.2.1 s.2.2.2.2.2.2.2.2.2.1 s.2.2.2.2.2.2.2.2.2.2
def Zx3 (b:(ZnG×Int×Int×Int×ZnG×Int×Int×ZnG×Int×Int×ZnG)->ZLN) (s:(ZnG×Int×Int×Int×ZnG×Int×Int×ZnG×Int×Int×ZnG)):ZLN:=Zuq (fun l i k a g c d h e j f=>b (l,i,k,a,g,c,d,h,e,j,f)) s.1 s.2.1 s.2.2.1 s.2.2.2.1 s.2.2.2.2.1 s.2.2.2.2.2.1 s.2.2.2.2.2.2.1 s.2.2.2.2.2.2.2.1 s.2.2.2.2.2.2.2.2.1 s.2.2.2.2.2.2.2.2.2.1 s.2.2.2.2.2.2.2.2.2.2
theorem ZEM:∀n s,ZBL (n+1) s=Zx3 (ZBL n) s:=fun _ _=>rfl
def Zur (b:ZOp) (e d:ZnG) (a i:Int) (c:ZnG):Option ZnG:=bif (decide (i < a))then ((idx d i).bind fun h=>(ZvZ big e i h (0:Int) d a i e (e.length:Int) (0:Int) c).bind fun(l,n,k,m,f,j,g)=>Zzt b l n k m f j g)else (some c)
def ZsZ:Nat->ZnG->ZnG->Int->Int->ZnG->Option ZnG
 |0,_,_,_,_,_=>none
 |n_+1,v_,t17,t18,i,out=>Zur (ZsZ n_) v_ t17 t18 i out
def ZBM (n:Nat) (s:(ZnG×ZnG×Int×Int×ZnG)):Option ZnG:=ZsZ n s.1 s.2.1 s.2.2.1 s.2.2.2.1 s.2.2.2.2
def Zx4 (a:ZTY) (s:(ZnG×ZnG×Int×Int×ZnG)):Option ZnG:=Zur (fun e d b i c=>a (e,d,b,i,c)) s.1 s.2.1 s.2.2.1 s.2.2.2.1 s.2.2.2.2
theorem ZEN:∀n s,ZBM (n+1) s=Zx4 (ZBM n) s:=fun _ _=>rfl
def Zsz (a b:ZnG):Option ZnG:=chk (inK .i64 ((a.length:Int)+(b.length:Int))) <|chk (mkOk ((a.length:Int)+(b.length:Int)) ((a.length:Int)+(b.length:Int)) 4) <|(ZsZ big b a (a.length:Int) (0:Int) (List.replicate (((a.length:Int)+(b.length:Int))).toNat (0:Int))).bind fun c=>Zzs c
def ZzO (b:Bool) (a:ZnG):Option ZnI:=some (ZnI.mk b a)
def Zo6 (b:Bool) (a:ZnG):Option ZnI:=bif b then (chk (ZiZ a.length 4) <|ZzO (decide ((a.length:Int) > 0)) a)else (chk (ZiZ a.length 4) <|ZzO false a)
def ZoR (a b:ZnI):Option ZnI:=(Zsz a.Words b.Words).bind fun q=>(Zo6 (!(a.Neg == b.Neg)) q).bind fun c=>some c
def Zyp (a:ZnI):Option ZnI:=some a
def Zvy (a:ZnI):Option ZnI:=bif (!a.Neg)then (Zyp (ZnI.mk (decide ((a.Words.length:Int) > 0)) a.Words))else (Zyp (ZnI.mk false a.Words))
def Zz5 (a:Int) (b:ZnG):Option ZnG:=chk (ZiZ (b.length+([a]:ZnG).length) 4) <|(ZoQ (b++([a]:ZnG))).bind fun q=>some q
def Zu0 (e:ZnG->ZnG->Int->Int->Int->ZnG->ZCf) (h j:ZnG) (a f i:Int) (c:ZnG):ZCf:=bif (decide (i < f))then ((Zvx h i).bind fun q=>(Zvx j i).bind fun g=>(Zz4 q g a).bind fun(d,b)=>chk (ZiZ (c.length+([d]:ZnG).length) 4) <|chk (inK .i64 (i+1)) <|e h j b f (i+1) (c++([d]:ZnG)))else (some (a,c))
def Zww:Nat->ZnG->ZnG->Int->Int->Int->ZnG->ZCf
 |0,_,_,_,_,_,_=>none
 |n_+1,w_,v_,carry,t20,i,out=>Zu0 (Zww n_) w_ v_ carry t20 i out
def ZCk (n:Nat) (s:(ZnG×ZnG×Int×Int×Int×ZnG)):ZCf:=Zww n s.1 s.2.1 s.2.2.1 s.2.2.2.1 s.2.2.2.2.1 s.2.2.2.2.2
def ZyM (b:(ZnG×ZnG×Int×Int×Int×ZnG)->ZCf) (s:(ZnG×ZnG×Int×Int×Int×ZnG)):ZCf:=Zu0 (fun e f a d i c=>b (e,f,a,d,i,c)) s.1 s.2.1 s.2.2.1 s.2.2.2.1 s.2.2.2.2.1 s.2.2.2.2.2
theorem ZE2:∀n s,ZCk (n+1) s=ZyM (ZCk n) s:=fun _ _=>rfl
def Zwi (a b:ZnG):Option ZnG:=chk (inK .i64 ((if (b.length:Int) > (a.length:Int)then (b.length:Int)else (a.length:Int))+1)) <|chk (mkOk 0 ((if (b.length:Int) > (a.length:Int)then (b.length:Int)else (a.length:Int))+1) 4) <|(Zww big a b (0:Int) (if (b.length:Int) > (a.length:Int)then (b.length:Int)else (a.length:Int)) (0:Int) (List.replicate ((0:Int)).toNat (0:Int))).bind fun(c,d)=>Zz5 c d
def Zzv (a:ZnG):Option ZnG:=(ZoQ a).bind fun q=>some q
def Zuu (f:ZnG->ZnG->Int->Int->Int->ZnG->Option ZnG) (h j:ZnG) (b e i:Int) (c:ZnG):Option ZnG:=bif (decide (i < e))then ((idx h i).bind fun d=>(Zvx j i).bind fun q=>(ZxC d q b).bind fun(g,a)=>chk (inR i (c.length:Int)) <|chk (inK .i64 (i+1)) <|f h j a e (i+1) (c.set ((i).toNat) g))else (some c)
def Zv1:Nat->ZnG->ZnG->Int->Int->Int->ZnG->Option ZnG
 |0,_,_,_,_,_,_=>none
 |n_+1,w_,v_,borrow,t12,i,out=>Zuu (Zv1 n_) w_ v_ borrow t12 i out
def ZBO (n:Nat) (s:(ZnG×ZnG×Int×Int×Int×ZnG)):Option ZnG:=Zv1 n s.1 s.2.1 s.2.2.1 s.2.2.2.1 s.2.2.2.2.1 s.2.2.2.2.2
def Zx7 (b:(ZnG×ZnG×Int×Int×Int×ZnG)->Option ZnG) (s:(ZnG×ZnG×Int×Int×Int×ZnG)):Option ZnG:=Zuu (fun e f a c i d=>b (e,f,a,c,i,d)) s.1 s.2.1 s.2.2.1 s.2.2.2.1 s.2.2.2.2.1 s.2.2.2.2.2
theorem ZEP:∀n s,ZBO (n+1) s=Zx7 (ZBO n) s:=fun _ _=>rfl
def Zvg (a b:ZnG):Option ZnG:=chk (mkOk (a.length:Int) (a.length:Int) 4) <|(Zv1 big a b (0:Int) (a.length:Int) (0:Int) (List.replicate ((a.length:Int)).toNat (0:Int))).bind fun c=>Zzv c
def ZAO (a b:ZnI):Option ZnI:=bif (a.Neg == b.Neg)then ((Zwi a.Words b.Words).bind fun q=>(Zo6 a.Neg q).bind fun e=>some e)else ((Zqi a.Words b.Words).bind fun h=>bif (decide (h>=0))then ((Zvg a.Words b.Words).bind fun d=>(Zo6 a.Neg d).bind fun f=>some f)else ((Zvg b.Words a.Words).bind fun g=>(Zo6 b.Neg g).bind fun c=>some c))
def ZCb (f:Bool) (a b:ZnB):Option Int:=bif f then (some (0:Int))else ((ZoR a.Num b.Den).bind fun q=>(ZoR b.Num a.Den).bind fun c=>(Zvy c).bind fun e=>(ZAO q e).bind fun d=>bif d.Neg then (some (-1:Int))else (bif (decide ((d.Words.length:Int) > 0))then (some (1:Int))else (some (0:Int))))
def ZxA (a b:ZnB):Option Int:=(Zte a).bind fun q=>bif (!q)then (ZCb true a b)else ((Zte b).bind fun c=>ZCb (!c) a b)
def ZDd (i:Int):Option Int:=some i
def ZBf (a:ZTT) (l:ZoS) (i:Int) (b:Bool) (c:ZnB):Option Int:=bif b then (chk (inK .i64 (i+1)) <|a l (i+1) c)else (some i)
def ZCp (a:ZTT) (l:ZoS) (i:Int) (b:ZnB):Option Int:=bif (decide (i < (l.length:Int)))then ((idx l i).bind fun c=>(ZxA c b).bind fun q=>ZBf a l i (decide (q<=0)) b)else (ZBf a l i false b)
def ZyU:Nat->ZoS->Int->ZnB->Option Int
 |0,_,_,_=>none
 |n_+1,l,i,x_=>ZCp (ZyU n_) l i x_
def ZEp (n:Nat) (s:(ZoS×Int×ZnB)):Option Int:=ZyU n s.1 s.2.1 s.2.2
def ZEq (a:(ZoS×Int×ZnB)->Option Int) (s:(ZoS×Int×ZnB)):Option Int:=ZCp (fun l i b=>a (l,i,b)) s.1 s.2.1 s.2.2
theorem ZGc:∀n s,ZEp (n+1) s=ZEq (ZEp n) s:=fun _ _=>rfl
def ZBI (l:ZoS) (i:Int) (a:ZnB):Option Int:=(ZyU big l i a).bind fun b=>ZDd b
def Zwx (n:Int):Option ZnG:=chk (decide (0<=(32:Int))) <|(ZoQ ([(IntKind.wrap .u32 n),(IntKind.wrap .u32 (shrK .u64 n 32))]:ZnG)).bind fun q=>some q
def ZyZ (n:Int):Option ZnI:=bif (decide (n < 0))then ((Zwx (IntKind.wrap .u64 (0 - (IntKind.wrap .u64 n)))).bind fun q=>(Zo6 true q).bind fun a=>some a)else ((Zwx (IntKind.wrap .u64 n)).bind fun c=>(Zo6 false c).bind fun b=>some b)
def Zuy (a b:ZnI):Option ZnB:=(Zuw a.Words b.Words).bind fun g=>(ZrK a.Words g).bind fun(e,q)=>(ZrK b.Words g).bind fun(y,f)=>(Zo6 (!(a.Neg == b.Neg)) e).bind fun d=>(Zo6 false y).bind fun c=>some (ZnB.mk d c)
def ZDi (b a:ZnI):ZFO:=(ZBU ([b,a]:(List ZnI))).bind fun q=>bif (!q)then (some ((ZnB.mk (ZnI.mk false ([]:ZnG)) (ZnI.mk false ([]:ZnG))),1))else (bif ((a.Words.length:Int) == 0)then (some ((ZnB.mk (ZnI.mk false ([]:ZnG)) (ZnI.mk false ([]:ZnG))),8))else ((Zuy b a).bind fun c=>some (c,0)))
def ZDh (a c:Int):ZFO:=(ZyZ a).bind fun q=>(ZyZ c).bind fun d=>(ZDi q d).bind fun(e,b)=>some (e,b)
def ZEQ:Option ZnB:=(ZDh 0 1).bind fun(f,q)=>some f
def ZGB (a b:Int):Option ZnB:=(ZDh a b).bind fun(f,e)=>bif (e != 0)then ((ZEQ).bind fun q=>some q)else (some f)
def ZAU (a b:ZoS) (most:Int) (f d:Bool) (c e:ZnG):ZFO:=chk (inK .i64 ((a.length:Int)*(b.length:Int))) <|(ZGB most ((a.length:Int)*(b.length:Int))).bind fun q=>some (q,0)
def Zve (e:ZQO) (a b:ZoS) (most i k:Int) (l f:Bool) (j:ZnB) (h g:ZnG):ZJV:=(ZBI a i j).bind fun c=>(ZBI b k j).bind fun d=>chk (inK .i64 (c*(b.length:Int))) <|chk (inK .i64 (d*(a.length:Int))) <|chk (inK .i64 ((c*(b.length:Int)) - (d*(a.length:Int)))) <|chk (inK .i64 (d*(a.length:Int))) <|chk (inK .i64 (c*(b.length:Int))) <|chk (inK .i64 ((d*(a.length:Int)) - (c*(b.length:Int)))) <|e a b (if ((d*(a.length:Int)) - (c*(b.length:Int))) > (if ((c*(b.length:Int)) - (d*(a.length:Int))) > most then ((c*(b.length:Int)) - (d*(a.length:Int)))else most)then ((d*(a.length:Int)) - (c*(b.length:Int)))else (if ((c*(b.length:Int)) - (d*(a.length:Int))) > most then ((c*(b.length:Int)) - (d*(a.length:Int)))else most)) c d l f h g
def Zym (f:ZQO) (a b:ZoS) (most i k:Int) (j h c:Bool) (d e:ZnG):ZJV:=bif j then ((idx a i).bind fun m=>(idx b k).bind fun l=>(ZxA l m).bind fun q=>bif (decide (q < 0))then ((idx b k).bind fun g=>Zve f a b most i k h c g d e)else (Zve f a b most i k h c m d e))else (some (a,b,most,h,c,d,e))
def Zz2 (c:ZQO) (a b:ZoS) (most i k:Int) (g d:Bool) (f e:ZnG):ZJV:=bif (decide (i < (a.length:Int)))then (Zym c a b most i k (decide (k < (b.length:Int))) g d f e)else (Zym c a b most i k false g d f e)
def Zsy:Nat->ZoS->ZoS->Int->Int->Int->Bool->Bool->ZnG->ZnG->ZJV
 |0,_,_,_,_,_,_,_,_,_=>none
 |n_+1,a,b,most,i,k,t4,t4_1,t4_2,t4_3=>Zz2 (Zsy n_) a b most i k t4 t4_1 t4_2 t4_3
def ZCZ (n:Nat) (s:(ZoS×ZoS×Int×Int×Int×Bool×Bool×ZnG×ZnG)):ZJV:=Zsy n s.1 s.2.1 s.2.2.1 s.2.2.2.1 s.2.2.2.2.1 s.2.2.2.2.2.1 s.2.2.2.2.2.2.1 s.2.2.2.2.2.2.2.1 s.2.2.2.2.2.2.2.2
def ZC0 (c:(ZoS×ZoS×Int×Int×Int×Bool×Bool×ZnG×ZnG)->ZJV) (s:(ZoS×ZoS×Int×Int×Int×Bool×Bool×ZnG×ZnG)):ZJV:=Zz2 (fun a b most i k g d f e=>c (a,b,most,i,k,g,d,f,e)) s.1 s.2.1 s.2.2.1 s.2.2.2.1 s.2.2.2.2.1 s.2.2.2.2.2.1 s.2.2.2.2.2.2.1 s.2.2.2.2.2.2.2.1 s.2.2.2.2.2.2.2.2
theorem ZFv:∀n s,ZCZ (n+1) s=ZC0 (ZCZ n) s:=fun _ _=>rfl
def Zvf (a:ZoS) (b:ZoS) (t17:Bool) (t4:Bool) (t4_1:Bool) (t4_2:ZnG) (t4_3:ZnG):ZFO:=bif t17 then (some ((ZnB.mk (ZnI.mk false ([]:ZnG)) (ZnI.mk false ([]:ZnG))),5))else ((Zsy big a b (0:Int) (0:Int) (0:Int) t4 t4_1 t4_2 t4_3).bind fun(x0,x1,x2,x3,x4,x5,x6)=>ZAU x0 x1 x2 x3 x4 x5 x6)
def ZqQ (a b:ZoS):ZFO:=bif ((a.length:Int) == 0)then (Zvf a b true false false ([]:ZnG) ([]:ZnG))else (Zvf a b ((b.length:Int) == 0) false false ([]:ZnG) ([]:ZnG))
def ZwC:Option Bool:=some true
def ZrN (a:ZnG->Int->Int->ZnI->Zvi) (c:ZnG) (d i:Int) (b:ZnI):Zvi:=bif (decide (i < d))then ((idx c i).bind fun e=>(idx b.Words i).bind fun Word=>bif (Word != e)then (some (.ret false))else (chk (inK .i64 (i+1)) <|a c d (i+1) b))else (some (.brk ()))
def Zs2:Nat->ZnG->Int->Int->ZnI->Zvi
 |0,_,_,_,_=>none
 |n_+1,t22,t23,i,b=>ZrN (Zs2 n_) t22 t23 i b
def ZzR (n:Nat) (s:(ZnG×Int×Int×ZnI)):Zvi:=Zs2 n s.1 s.2.1 s.2.2.1 s.2.2.2
def Zvm (a:(ZnG×Int×Int×ZnI)->Zvi) (s:(ZnG×Int×Int×ZnI)):Zvi:=ZrN (fun c d i b=>a (c,d,i,b)) s.1 s.2.1 s.2.2.1 s.2.2.2
theorem ZDt:∀n s,ZzR (n+1) s=Zvm (ZzR n) s:=fun _ _=>rfl
def Zs3 (c:Bool) (a b:ZnI):Option Bool:=bif c then (some false)else ((Zs2 big a.Words (a.Words.length:Int) (0:Int) b).bind fun
 | .ret d=>some d
 | .brk ()=>ZwC)
def Zr3 (a b:ZnI):Option Bool:=bif (!(a.Neg == b.Neg))then (Zs3 true a b)else (Zs3 ((a.Words.length:Int) != (b.Words.length:Int)) a b)
def ZuO (a:Bool):Option Bool:=some a
def ZoY (a b:ZnB):Option Bool:=(Zr3 a.Num b.Num).bind fun q=>bif q then ((Zr3 a.Den b.Den).bind fun c=>ZuO c)else (ZuO false)
def ZFT:Option (List (Int×ZpZ)):=some (setB (k:=(.int .i64)) (v:=(.st 5)) (car:=ZCz) (setB (k:=(.int .i64)) (v:=(.st 5)) (car:=ZCz) (setB (k:=(.int .i64)) (v:=(.st 5)) (car:=ZCz) (setB (k:=(.int .i64)) (v:=(.st 5)) (car:=ZCz) (setB (k:=(.int .i64)) (v:=(.st 5)) (car:=ZCz) ([]:(List (Int×ZpZ))) 1 (ZpZ.mk ([116,101,120,116]:Str) (none:Option Nat) (some 164:Option Nat))) 2 (ZpZ.mk ([98,111,111,108]:Str) (some 165:Option Nat) (some 166:Option Nat))) 3 (ZpZ.mk ([105,110,116,101,103,101,114]:Str) (some 167:Option Nat) (some 168:Option Nat))) 4 (ZpZ.mk ([100,101,99,105,109,97,108]:Str) (some 169:Option Nat) (some 168:Option Nat))) 5 (ZpZ.mk ([100,97,116,101]:Str) (some 170:Option Nat) (some 171:Option Nat)))
def ZCH (s a:Str):Option Str:=chk (a.all fun b=>decide (b.toNat < 128)) <| chk (decide (a.length < 4294967281)) <| some (Lib.trimS s a)
def ZEV (s:Str):Option Str:=(ZCH s ([32]:Str)).bind fun q=>some q
def ZqR (a:Bool):Option Bool:=some a
def ZpU (s a:Str):Option Bool:=bif (decide ((s.length:Int)>=(a.length:Int)))then (chk (Zb9 0 (a.length:Int) (s.length:Int)) <|ZqR ((s.take ((a.length:Int)).toNat) == a))else (ZqR false)
def ZuJ (s a:Str):ZHw:=(ZpU s a).bind fun q=>bif (!q)then (some (s,false))else (chk (Zb9 (a.length:Int) (s.length:Int) (s.length:Int)) <|some ((s.drop ((a.length:Int)).toNat),true))
def ZAm (s a:Str):ZHw:=(ZuJ s a).bind fun(c,b)=>some (c,b)
def Zup (s a:Str):Option Str:=(ZpU s a).bind fun q=>bif q then (chk (Zb9 (a.length:Int) (s.length:Int) (s.length:Int)) <|some (s.drop ((a.length:Int)).toNat))else (some s)
def ZzJ (s a:Str):Option Str:=(Zup s a).bind fun q=>some q
def Zrz (s:Str) (c:Int):Option Int:=some (Lib.indexByte s c.toNat.toUInt8)
def Zr0 (s a:Str) (n:Int) (b:Bool):Option Int:=bif b then (some (0:Int))else (bif (n == 1)then ((idx a 0).bind fun c=>(Zrz s ((c.toNat:Nat):Int)).bind fun q=>some q)else (bif (decide (n>=(s.length:Int)))then (some (-1:Int))else (none)))
def ZtM (s a:Str):Option Int:=bif ((a.length:Int) == 0)then (Zr0 s a (a.length:Int) true)else (Zr0 s a (a.length:Int) (a == s))
def ZyL (s a:Str):Option (Str×Str×Bool):=(ZtM s a).bind fun i=>bif (decide (i>=0))then (chk (Zb9 0 i (s.length:Int)) <|chk (inK .i64 (i+(a.length:Int))) <|chk (Zb9 (i+(a.length:Int)) (s.length:Int) (s.length:Int)) <|some ((s.take (i).toNat),(s.drop ((i+(a.length:Int))).toNat),true))else (some (s,([]:Str),false))
def ZDc (s d:Str):Option (Str×Str×Bool):=(ZyL s d).bind fun(a,c,b)=>some (a,c,b)
def Zw2 (a:Bool):Option Bool:=some a
def Zz8 (s:Str) (most:Int):Option Bool:=bif (decide ((s.length:Int)>=1))then (bif (decide ((s.length:Int)<=most))then ((ZCH s ([48,49,50,51,52,53,54,55,56,57]:Str)).bind fun q=>Zw2 (q == ([]:Str)))else (Zw2 false))else (Zw2 false)
def ZBV (b:Bool) (a c:ZnG) (i h:Bool) (g f:ZnG):ZG0:=(Zo6 b a).bind fun q=>(Zo6 false c).bind fun d=>(Zuy q d).bind fun e=>some (e,true)
def Zxv (i:Bool->ZnG->ZnG->ZnG->Int->Int->Bool->Bool->ZnG->ZnG->ZLO) (h:Bool) (f k j:ZnG) (g d:Int) (l c:Bool) (b a:ZnG):ZLO:=bif (decide (d < g))then ((Zsz j k).bind fun e=>chk (inK .i64 (d+1)) <|i h f k e g (d+1) l c b a)else (some (h,f,j,l,c,b,a))
def Zy0:Nat->Bool->ZnG->ZnG->ZnG->Int->Int->Bool->Bool->ZnG->ZnG->ZLO
 |0,_,_,_,_,_,_,_,_,_,_=>none
 |n_+1,neg,num,ten,den,t63,t64,t2,t2_1,t2_2,t2_3=>Zxv (Zy0 n_) neg num ten den t63 t64 t2 t2_1 t2_2 t2_3
def ZDj (n:Nat) (s:(Bool×ZnG×ZnG×ZnG×Int×Int×Bool×Bool×ZnG×ZnG)):ZLO:=Zy0 n s.1 s.2.1 s.2.2.1 s.2.2.2.1 s.2.2.2.2.1 s.2.2.2.2.2.1 s.2.2.2.2.2.2.1 s.2.2.2.2.2.2.2.1 s.2.2.2.2.2.2.2.2.1 s.2.2.2.2.2.2.2.2.2
def ZAw (d:(Bool×ZnG×ZnG×ZnG×Int×Int×Bool×Bool×ZnG×ZnG)->ZLO) (s:(Bool×ZnG×ZnG×ZnG×Int×Int×Bool×Bool×ZnG×ZnG)):ZLO:=Zxv (fun g e j h f i k c b a=>d (g,e,j,h,f,i,k,c,b,a)) s.1 s.2.1 s.2.2.1 s.2.2.2.1 s.2.2.2.2.1 s.2.2.2.2.2.1 s.2.2.2.2.2.2.1 s.2.2.2.2.2.2.2.1 s.2.2.2.2.2.2.2.2.1 s.2.2.2.2.2.2.2.2.2
theorem ZFG:∀n s,ZDj (n+1) s=ZAw (ZDj n) s:=fun _ _=>rfl
def ZBW (f:Bool) (b:Str) (e h:ZnG) (l d:Bool) (g c a:ZnG):ZG0:=(Zy0 big f e h g (b.length:Int) (0:Int) l d c a).bind fun(n,p,m,o,i,k,j)=>ZBV n p m o i k j
def Zxw (m:Bool->Str->ZnG->ZnG->Int->Int->Bool->Bool->ZnG->ZnG->ZnG->ZnG->ZSf) (l:Bool) (c:Str) (j i:ZnG) (k a:Int) (p f:Bool) (n g e b:ZnG):ZSf:=bif (decide (a < k))then (chk (inR a (g.length:Int)) <|(g[(a).toNat]?).bind fun d=>(Zsz j i).bind fun q=>(Zwx (IntKind.wrap .u64 (IntKind.wrap .u8 (d - 48)))).bind fun o=>(Zwi q o).bind fun h=>chk (inK .i64 (a+1)) <|m l c h i k (a+1) p f n g e b)else (some (l,c,j,i,p,f,n,e,b))
def Zy1:Nat->Bool->Str->ZnG->ZnG->Int->Int->Bool->Bool->ZnG->ZnG->ZnG->ZnG->ZSf
 |0,_,_,_,_,_,_,_,_,_,_,_,_=>none
 |n_+1,neg,back,num,ten,t48,t49,t2,t2_1,den,t47,t2_2,t2_3=>Zxw (Zy1 n_) neg back num ten t48 t49 t2 t2_1 den t47 t2_2 t2_3
def ZDk (n:Nat) (s:(Bool×Str×ZnG×ZnG×Int×Int×Bool×Bool×ZnG×ZnG×ZnG×ZnG)):ZSf:=Zy1 n s.1 s.2.1 s.2.2.1 s.2.2.2.1 s.2.2.2.2.1 s.2.2.2.2.2.1 s.2.2.2.2.2.2.1 s.2.2.2.2.2.2.2.1 s.2.2.2.2.2.2.2.2.1 s.2.2.2.2.2.2.2.2.2.1 s.2.2.2.2.2.2.2.2.2.2.1 s.2.2.2.2.2.2.2.2.2.2.2
def ZAx (e:(Bool×Str×ZnG×ZnG×Int×Int×Bool×Bool×ZnG×ZnG×ZnG×ZnG)->ZSf) (s:(Bool×Str×ZnG×ZnG×Int×Int×Bool×Bool×ZnG×ZnG×ZnG×ZnG)):ZSf:=Zxw (fun i b f l g j m d k h c a=>e (i,b,f,l,g,j,m,d,k,h,c,a)) s.1 s.2.1 s.2.2.1 s.2.2.2.1 s.2.2.2.2.1 s.2.2.2.2.2.1 s.2.2.2.2.2.2.1 s.2.2.2.2.2.2.2.1 s.2.2.2.2.2.2.2.2.1 s.2.2.2.2.2.2.2.2.2.1 s.2.2.2.2.2.2.2.2.2.2.1 s.2.2.2.2.2.2.2.2.2.2.2
theorem ZFH:∀n s,ZDk (n+1) s=ZAx (ZDk n) s:=fun _ _=>rfl
def Ztu (h:Bool) (a c:Str) (g n e:Bool) (f d:ZnG):ZG0:=bif g then (some ((ZnB.mk (ZnI.mk false ([]:ZnG)) (ZnI.mk false ([]:ZnG))),false))else ((Zqp ([1]:List Int)).bind fun i=>chk (decide (a.length+c.length<=Zq)) <|chk (decide ((a++c).length<=281474976710656)) <|(Zy1 big h c ([]:ZnG) ([10]:ZnG) (((a++c).map fun b=>((b.toNat:Nat):Int)).length:Int) (0:Int) n e i ((a++c).map fun b=>((b.toNat:Nat):Int)) f d).bind fun(p,s,o,q,k,m,l,j,r)=>ZBW p s o q k m l j r)
def Zwj (body:Str) (g h e:Bool) (d c:ZnG):ZG0:=(ZDc body ([46]:Str)).bind fun(a,b,f)=>(Zz8 a 15).bind fun q=>bif (!q)then (Ztu g a b true h e d c)else (bif f then ((Zz8 b 9).bind fun i=>Ztu g a b (!i) h e d c)else (Ztu g a b false h e d c))
def Zwy (b:Str):ZG0:=(ZAm b ([45]:Str)).bind fun(body,c)=>bif (!c)then ((ZzJ b ([43]:Str)).bind fun a=>Zwj a c false false ([]:ZnG) ([]:ZnG))else (Zwj body c false false ([]:ZnG) ([]:ZnG))
def ZBe (s a:Str):Option Str:=chk (a.all fun b=>decide (b.toNat < 128)) <| chk (decide (a.length < 4294967281)) <| some (Lib.trimLeftS s a)
def ZCP (s a:Str):Option Str:=chk (a.all fun b=>decide (b.toNat < 128)) <| chk (decide (a.length < 4294967281)) <| some (Lib.trimRightS s a)
def ZFk (a:Str):Option Str:=some a
def ZCw (b:Str->(List Str)->Int->Int->ZLH) (a:Str) (f:(List Str)) (e d:Int):ZLH:=bif (decide (d < e))then ((idx f d).bind fun c=>bif (!(c == a))then (some (.ret c))else (chk (inK .i64 (d+1)) <|b a f e (d+1)))else (some (.brk a))
def Zy2:Nat->Str->(List Str)->Int->Int->ZLH
 |0,_,_,_,_=>none
 |n_+1,zero,t6,t7,t8=>ZCw (Zy2 n_) zero t6 t7 t8
def ZEu (n:Nat) (s:(Str×(List Str)×Int×Int)):ZLH:=Zy2 n s.1 s.2.1 s.2.2.1 s.2.2.2
def ZEv (a:(Str×(List Str)×Int×Int)->ZLH) (s:(Str×(List Str)×Int×Int)):ZLH:=ZCw (fun b d c e=>a (b,d,c,e)) s.1 s.2.1 s.2.2.1 s.2.2.2
theorem ZGe:∀n s,ZEu (n+1) s=ZEv (ZEu n) s:=fun _ _=>rfl
def ZDm (a:(List Str)):Option Str:=(Zy2 big ([]:Str) a (a.length:Int) (0:Int)).bind fun
 | .ret c=>some c
 | .brk b=>ZFk b
def ZAW (a:Str):ZHw:=some (a,true)
def ZAX (a:Str) (b:Bool):ZHw:=bif b then (chk (decide (([45]:Str).length+a.length<=Zq)) <|ZAW (([45]:Str)++a))else (ZAW a)
def ZtN (t a:Str):ZHw:=(idx t 0).bind fun c=>bif (((c.toNat:Nat):Int) == 45)then (ZAX a (!(a == ([48]:Str))))else (ZAX a false)
def ZBm (t:Str):ZHw:=(Zwy t).bind fun(q,h)=>bif (!h)then (some (([]:Str),false))else ((ZBe t ([43,45]:Str)).bind fun f=>(ZDc f ([46]:Str)).bind fun(d,e,g)=>(ZBe d ([48]:Str)).bind fun b=>(ZCP e ([48]:Str)).bind fun a=>(ZDm ([b,([48]:Str)]:(List Str))).bind fun c=>bif (!(a == ([]:Str)))then (chk (decide (([46]:Str).length+a.length<=Zq)) <|chk (decide (c.length+(([46]:Str)++a).length<=Zq)) <|ZtN t (c++(([46]:Str)++a)))else (ZtN t c))
def ZxB (n:Int) (s:Str):ZHw:=(ZFT).bind fun q=>bif (!(Zg3 (k:=(.int .i64)) (v:=(.st 5)) (car:=ZCz) q n).isSome)then (some (([]:Str),false))else (bif (Option.isNone (((Zg3 (k:=(.int .i64)) (v:=(.st 5)) (car:=ZCz) q n).getD (ZpZ.mk ([]:Str) (none:Option Nat) (none:Option Nat))).canonical))then (some (s,true))else ((ZEV s).bind fun q_1=>chk (decide (((Zg3 (k:=(.int .i64)) (v:=(.st 5)) (car:=ZCz) q n).getD (ZpZ.mk ([]:Str) (none:Option Nat) (none:Option Nat))).canonical=some 169)) <|(ZBm q_1).bind fun(q_2,q_3)=>some (q_2,q_3)))
def ZC4 (n:Int) (s:Str):ZG0:=(ZxB n s).bind fun(t,ok)=>bif (!ok)then (some ((ZnB.mk (ZnI.mk false ([]:ZnG)) (ZnI.mk false ([]:ZnG))),false))else ((ZFT).bind fun q=>chk (decide (((Zg3 (k:=(.int .i64)) (v:=(.st 5)) (car:=ZCz) q n).getD (ZpZ.mk ([]:Str) (none:Option Nat) (none:Option Nat))).value=some 168)) <|(Zwy t).bind fun(q_1,q_2)=>some (q_1,q_2))
def ZBJ (c:G_api_Cell):ZG0:=bif c.Null then ((ZEQ).bind fun q=>some (q,false))else ((ZC4 4 c.Text).bind fun(a,b)=>some (a,b))
def Zz3 (a:Int):Option Int:=(ZDK a).bind fun q=>some q
def Zqf (a:ZoS):Option ZoS:=some a
def Zqg (d:ZTN) (a b i:Int) (c:ZoS):Option ZoS:=chk (inK .i64 (i+1)) <|d a b (i+1) c
def ZoN (f:ZTM) (a b i j:Int) (g:Bool) (c:ZoS):ZKw:=bif g then (chk (inK .i64 (j - 1)) <|chk (inK .i64 (j - 1)) <|chk (inR (j - 1) (c.length:Int)) <|(c[((j - 1)).toNat]?).bind fun d=>chk (inR j (c.length:Int)) <|(c[(j).toNat]?).bind fun e=>chk (inR j (c.length:Int)) <|chk (inR (j - 1) ((c.set ((j).toNat) d).length:Int)) <|chk (inK .i64 (j - 1)) <|f a b i (j - 1) ((c.set ((j).toNat) d).set (((j - 1)).toNat) e))else (some (a,b,i,c))
def ZpM (f:ZTM) (a b i j:Int) (c:ZoS):ZKw:=bif (decide (j > a))then (chk (inR j (c.length:Int)) <|(c[(j).toNat]?).bind fun e=>chk (inK .i64 (j - 1)) <|chk (inR (j - 1) (c.length:Int)) <|(c[((j - 1)).toNat]?).bind fun d=>(ZxA e d).bind fun q=>ZoN f a b i j (decide (q < 0)) c)else (ZoN f a b i j false c)
def ZnX:Nat->Int->Int->Int->Int->ZoS->ZKw
 |0,_,_,_,_,_=>none
 |n_+1,a,b,i,j,data=>ZpM (ZnX n_) a b i j data
def ZsX (n:Nat) (s:(Int×Int×Int×Int×ZoS)):ZKw:=ZnX n s.1 s.2.1 s.2.2.1 s.2.2.2.1 s.2.2.2.2
def ZsY (d:(Int×Int×Int×Int×ZoS)->ZKw) (s:(Int×Int×Int×Int×ZoS)):ZKw:=ZpM (fun a b i j c=>d (a,b,i,j,c)) s.1 s.2.1 s.2.2.1 s.2.2.2.1 s.2.2.2.2
theorem ZyT:∀n s,ZsX (n+1) s=ZsY (ZsX n) s:=fun _ _=>rfl
def ZpN (d:ZTN) (a b i:Int) (c:ZoS):Option ZoS:=bif (decide (i < b))then ((ZnX big a b i i c).bind fun(f,h,e,g)=>Zqg d f h e g)else (some c)
def Zod:Nat->Int->Int->Int->ZoS->Option ZoS
 |0,_,_,_,_=>none
 |n_+1,a,b,i,data=>ZpN (Zod n_) a b i data
def Zo7 (c:ZoS) (a b:Int):Option ZoS:=chk (inK .i64 (a+1)) <|(Zod big a b (a+1) c).bind fun d=>Zqf d
def ZoU (c:ZoS) (a b:Int):Option ZoS:=(Zo7 c a b).bind fun r=>chk (decide (r.length=c.length)&&true) (some r)
def Zrc (h:Int->Int->Int->Bool->Bool->ZoS->ZQz) (a b e:Int) (c d:Bool) (f:ZoS):ZQz:=chk (inK .i64 (b - a)) <|bif (decide ((b - a)<=12))then ((ZoU f a b).bind fun g=>some (.ret g))else (bif (e == 0)then (none)else (bif (!c)then (none)else (none)))
def ZrJ:Nat->Int->Int->Int->Bool->Bool->ZoS->ZQz
 |0,_,_,_,_,_,_=>none
 |n_+1,a,b,limit,wasBalanced,wasPartitioned,data=>Zrc (ZrJ n_) a b limit wasBalanced wasPartitioned data
def ZsR (d:ZoS) (a b c:Int):Option ZoS:=(ZrJ big a b c true true d).bind fun
 | .ret e=>some e
 | .brk _=>none
def ZpQ (c:ZoS) (a b d:Int):Option ZoS:=(ZsR c a b d).bind fun r=>chk (decide (r.length=c.length)&&true) (some r)
def ZqO (a:ZoS):Option ZoS:=(Zz3 (IntKind.wrap .u64 (a.length:Int))).bind fun q=>(ZpQ a 0 (a.length:Int) q).bind fun b=>some b
def Zoe (a:ZoS):Option ZoS:=(ZqO a).bind fun r=>chk (decide (r.length=a.length)&&true) (some r)
def ZyV (b:ZoS):Option ZoS:=(Zoe b).bind fun a=>some a
def Zwh (a:ZMV) (e:ZCe) (c b:Int) (d:ZoS):Option ZoS:=chk (inK .i64 (b+1)) <|a e c (b+1) d
def Zuo (c:ZMV) (e:ZCe) (d b:Int) (a:ZoS):Option ZoS:=bif (decide (b < d))then ((idx e b).bind fun g=>(ZBJ g).bind fun(f,h)=>bif h then (chk (ZiZ (a.length+([f]:ZoS).length) 64) <|Zwh c e d b (a++([f]:ZoS)))else (Zwh c e d b a))else (some a)
def Zwg:Nat->ZCe->Int->Int->ZoS->Option ZoS
 |0,_,_,_,_=>none
 |n_+1,t9,t10,t11,out=>Zuo (Zwg n_) t9 t10 t11 out
def ZDe (n:Nat) (s:(ZCe×Int×Int×ZoS)):Option ZoS:=Zwg n s.1 s.2.1 s.2.2.1 s.2.2.2
def Zxr (a:ZTR) (s:(ZCe×Int×Int×ZoS)):Option ZoS:=Zuo (fun e b d c=>a (e,b,d,c)) s.1 s.2.1 s.2.2.1 s.2.2.2
theorem ZCY:∀n s,ZDe (n+1) s=Zxr (ZDe n) s:=fun _ _=>rfl
def Zsw (c:G_api_Column):Option ZoS:=(Zwg big c.Cells (c.Cells.length:Int) (0:Int) ([]:ZoS)).bind fun a=>ZyV a
def Zo8 (a:Bool):Option Bool:=some a
def Zqe:Option Bool:=(ZnM 1).bind fun q=>(ZnM 2).bind fun b=>(ZnM 3).bind fun c=>(ZnM 4).bind fun a=>(ZE1 ([q,b,c,a]:ZoS) 1 2).bind fun(l,e)=>chk (Zb9 0 2 (([q,b,c,a]:ZoS).length:Int)) <|chk (Zb9 1 3 (([q,b,c,a]:ZoS).length:Int)) <|(ZqQ ((([q,b,c,a]:ZoS).drop 0).take (((2:Int)).toNat - 0)) ((([q,b,c,a]:ZoS).drop (((1:Int)).toNat)).take (((3:Int)).toNat - ((1:Int)).toNat))).bind fun(d,f)=>bif (e == 0)then (bif (f == 0)then ((ZnM 2).bind fun h=>(ZoY l h).bind fun i=>bif i then ((Zpz 1 2).bind fun g=>(ZoY d g).bind fun k=>bif k then ((Zsw (G_api_Column.mk ([]:Str) ([(G_api_Cell.mk false ([51]:Str)),(G_api_Cell.mk true ([]:Str)),(G_api_Cell.mk false ([120]:Str))]:ZCe))).bind fun j=>Zo8 ((j.length:Int) == 1))else (Zo8 false))else (Zo8 false))else (Zo8 false))else (Zo8 false)
def ZBC (t:ZnG):Option ZnC:=some (ZnC.mk t 0)
def Zsl (n m:Int):Option Int:=bif (decide (m < 1))then (some (0:Int))else (chk (decide (m≠0)) <|chk (inK .i64 ((Int.tmod n m)+m)) <|chk (decide (m≠0)) <|some (Int.tmod ((Int.tmod n m)+m) m))
def ZnL (d:ZnC) (n:Int):Option (Int×ZnC):=bif (decide (d.at_>=(d.l.length:Int)))then (some (0,d))else (chk (inK .i64 (d.at_+1)) <|chk (inK .i64 ((d.at_+1) - 1)) <|(idx d.l ((d.at_+1) - 1)).bind fun a=>(Zsl a n).bind fun q=>some (q,(ZnC.mk d.l (d.at_+1))))
def Zoc (d:ZnC) (l:(List Str)):Option (Str×ZnC):=(ZnL d (l.length:Int)).bind fun(q,b)=>(idx l q).bind fun a=>some (a,b)
def Zwd (d:ZnC):ZTE:=(ZnL d 7).bind fun(q,b)=>bif (q == 1)then (some ((G_api_Cell.mk true ([]:Str)),b))else ((Zoc b ([([97]:Str),([98]:Str),([99]:Str),([49]:Str),([50]:Str),([51]:Str),([49,48]:Str),([120]:Str),([45,49,46,53]:Str),([50]:Str)]:(List Str))).bind fun(a,c)=>some ((G_api_Cell.mk false a),c))
def ZAN (n:Int):Option Str:=some (Lib.itoa n)
def Zue (d:ZnC):ZTE:=(ZnL d 9).bind fun(q,e)=>bif (q == 1)then (some ((G_api_Cell.mk true ([]:Str)),e))else (bif (q == 2)then ((Zoc e ([([120]:Str),([]:Str),([49,46,50,46,51]:Str),([49,46,53,48]:Str)]:(List Str))).bind fun(g,c)=>some ((G_api_Cell.mk false g),c))else ((ZnL e 12).bind fun(a,b)=>chk (inK .i64 (a - 3)) <|(ZAN (a - 3)).bind fun f=>some ((G_api_Cell.mk false f),b)))
def ZyJ (d:ZnC) (e c:Str) (b a:ZCe):ZTF:=some ((G_api_Column.mk c a),d)
def Zpq (e:ZT9) (a g i:Int) (d:ZnC) (j c:Str) (h:G_api_Cell) (f b:ZCe):ZKB:=chk (ZiZ (b.length+([h]:ZCe).length) 24) <|chk (inK .i64 (i+1)) <|e a g (i+1) d j c f (b++([h]:ZCe))
def ZtK (e:ZT9) (a g i:Int) (d:ZnC) (j c:Str) (b f:ZCe):ZKB:=bif (decide (i < g))then ((Zwd d).bind fun(o,h)=>bif (a == 0)then ((Zue h).bind fun(k,n)=>Zpq e a g i n j c k b f)else (bif (a == 1)then ((ZAN i).bind fun q=>chk (decide (([107]:Str).length+q.length<=Zq)) <|Zpq e a g i h j c (G_api_Cell.mk false (([107]:Str)++q)) b f)else (bif (a == 2)then ((Zoc h ([([97]:Str),([98]:Str),([99]:Str),([100]:Str)]:(List Str))).bind fun(m,l)=>Zpq e a g i l j c (G_api_Cell.mk false m) b f)else (Zpq e a g i h j c o b f))))else (some (d,j,c,b,f))
def Zsc:Nat->Int->Int->Int->ZnC->Str->Str->ZCe->ZCe->ZKB
 |0,_,_,_,_,_,_,_,_=>none
 |n_+1,kind,t15,i,d,t4,c,t4_1,c_1=>ZtK (Zsc n_) kind t15 i d t4 c t4_1 c_1
def ZBc (n:Nat) (s:(Int×Int×Int×ZnC×Str×Str×ZCe×ZCe)):ZKB:=Zsc n s.1 s.2.1 s.2.2.1 s.2.2.2.1 s.2.2.2.2.1 s.2.2.2.2.2.1 s.2.2.2.2.2.2.1 s.2.2.2.2.2.2.2
def Zxn (b:(Int×Int×Int×ZnC×Str×Str×ZCe×ZCe)->ZKB) (s:(Int×Int×Int×ZnC×Str×Str×ZCe×ZCe)):ZKB:=ZtK (fun a g i d h c e f=>b (a,g,i,d,h,c,e,f)) s.1 s.2.1 s.2.2.1 s.2.2.2.1 s.2.2.2.2.1 s.2.2.2.2.2.1 s.2.2.2.2.2.2.1 s.2.2.2.2.2.2.2
theorem ZEk:∀n s,ZBc (n+1) s=Zxn (ZBc n) s:=fun _ _=>rfl
def ZrT (d:ZnC) (b:Int):ZTF:=(Zoc d ([([105,100]:Str),([110,97,109,101]:Str),([85,110,105,116,32,80,114,105,99,101]:Str),([99,105,116,121]:Str),([117,110,105,116]:Str),([112,114,105,99,101]:Str),([105,100,50]:Str),([]:Str)]:(List Str))).bind fun(q,e)=>(ZnL e 5).bind fun(a,c)=>(Zsc big a b (0:Int) c ([]:Str) q ([]:ZCe) ([]:ZCe)).bind fun(h,j,g,i,f)=>ZyJ h j g i f
def ZvX (d:ZnC) (f:Int) (c:Str) (t:Int) (a:Str) (e b:Zo4):ZMS:=some ((G_api_Table.mk t a b),d)
def Zzq (d:ZnC) (g:Int) (a:Str) (t:Int) (c:Str) (b f:Zo4):ZMS:=(ZnL d 15).bind fun(q,e)=>bif (q == 1)then (ZvX e g a t c b ([]:Zo4))else (ZvX e g a t c b f)
def Zx0 (g:Int->Int->ZnC->Int->Str->Int->Str->Zo4->Zo4->ZLS) (a k:Int) (d:ZnC) (i:Int) (b:Str) (t:Int) (f:Str) (c e:Zo4):ZLS:=bif (decide (k > 0))then ((ZrT d a).bind fun(q,h)=>chk (ZiZ (e.length+([q]:Zo4).length) 40) <|chk (inK .i64 (k - 1)) <|g a (k - 1) h i b t f c (e++([q]:Zo4)))else (some (d,i,b,t,f,c,e))
def ZvW:Nat->Int->Int->ZnC->Int->Str->Int->Str->Zo4->Zo4->ZLS
 |0,_,_,_,_,_,_,_,_,_=>none
 |n_+1,rows,k,d,t4,t4_1,t,t_1,t4_2,t_2=>Zx0 (ZvW n_) rows k d t4 t4_1 t t_1 t4_2 t_2
def ZBA (n:Nat) (s:(Int×Int×ZnC×Int×Str×Int×Str×Zo4×Zo4)):ZLS:=ZvW n s.1 s.2.1 s.2.2.1 s.2.2.2.1 s.2.2.2.2.1 s.2.2.2.2.2.1 s.2.2.2.2.2.2.1 s.2.2.2.2.2.2.2.1 s.2.2.2.2.2.2.2.2
def ZBB (a:(Int×Int×ZnC×Int×Str×Int×Str×Zo4×Zo4)->ZLS) (s:(Int×Int×ZnC×Int×Str×Int×Str×Zo4×Zo4)):ZLS:=Zx0 (fun b k d h c t f e g=>a (b,k,d,h,c,t,f,e,g)) s.1 s.2.1 s.2.2.1 s.2.2.2.1 s.2.2.2.2.1 s.2.2.2.2.2.1 s.2.2.2.2.2.2.1 s.2.2.2.2.2.2.2.1 s.2.2.2.2.2.2.2.2
theorem ZEK:∀n s,ZBA (n+1) s=ZBB (ZBA n) s:=fun _ _=>rfl
def Zu7 (d:ZnC) (n:Int):ZMS:=(Zoc d ([([116]:Str),([111,114,100,101,114,115]:Str),([]:Str)]:(List Str))).bind fun(q,f)=>(ZnL f 7).bind fun(b,e)=>(ZnL e 3).bind fun(a,c)=>chk (inK .i64 (1+a)) <|(ZvW big b (1+a) c (0:Int) ([]:Str) n q ([]:Zo4) ([]:Zo4)).bind fun(k,m,j,l,g,i,h)=>Zzq k m j l g i h
def Zu9 (d:ZnC) (e b:Int) (a:Str) (c:ZnG):ZLL:=some ((ZnQ.mk e b a c),d)
def Zq9 (d:ZnC) (h f:Int) (e:Str) (o a:Int) (c:Str) (g b:ZnG):ZLL:=Zu9 d o a c b
def ZAR (d:ZnC) (h f:Int) (e:Str) (o a:Int) (c:Str) (g b:ZnG):ZLL:=Zu9 d o a c b
def Zyk (h:Tf_2) (n k:Int) (j:Bool) (d:ZnC) (l b:Int) (a:Str) (o g:Int) (f:Str) (c e:ZnG):ZQE:=bif j then ((ZnL d n).bind fun(q,i)=>chk (ZiZ (e.length+([q]:ZnG).length) 8) <|chk (inK .i64 (k - 1)) <|h n (k - 1) i l b a o g f c (e++([q]:ZnG)))else (some (d,l,b,a,o,g,f,c,e))
def ZzZ (a:Tf_2) (n k:Int) (d:ZnC) (i b:Int) (e:Str) (o g:Int) (f:Str) (c h:ZnG):ZQE:=bif (decide (k > 0))then (Zyk a n k (decide (n > 0)) d i b e o g f c h)else (Zyk a n k false d i b e o g f c h)
def Zu8:Nat->Int->Int->ZnC->Int->Int->Str->Int->Int->Str->ZnG->ZnG->ZQE
 |0,_,_,_,_,_,_,_,_,_,_,_=>none
 |n_+1,n,k,d,t4,t4_1,t4_2,o,o_1,o_2,t4_3,o_3=>ZzZ (Zu8 n_) n k d t4 t4_1 t4_2 o o_1 o_2 t4_3 o_3
def ZCV (n:Nat) (s:(Int×Int×ZnC×Int×Int×Str×Int×Int×Str×ZnG×ZnG)):ZQE:=Zu8 n s.1 s.2.1 s.2.2.1 s.2.2.2.1 s.2.2.2.2.1 s.2.2.2.2.2.1 s.2.2.2.2.2.2.1 s.2.2.2.2.2.2.2.1 s.2.2.2.2.2.2.2.2.1 s.2.2.2.2.2.2.2.2.2.1 s.2.2.2.2.2.2.2.2.2.2
def ZCW (a:(Int×Int×ZnC×Int×Int×Str×Int×Int×Str×ZnG×ZnG)->ZQE) (s:(Int×Int×ZnC×Int×Int×Str×Int×Int×Str×ZnG×ZnG)):ZQE:=ZzZ (fun n k d i c b o f h e g=>a (n,k,d,i,c,b,o,f,h,e,g)) s.1 s.2.1 s.2.2.1 s.2.2.2.1 s.2.2.2.2.1 s.2.2.2.2.2.1 s.2.2.2.2.2.2.1 s.2.2.2.2.2.2.2.1 s.2.2.2.2.2.2.2.2.1 s.2.2.2.2.2.2.2.2.2.1 s.2.2.2.2.2.2.2.2.2.2
theorem ZFu:∀n s,ZCV (n+1) s=ZCW (ZCV n) s:=fun _ _=>rfl
def Zva (n j:Int) (m:Bool) (d:ZnC) (l a:Int) (c:Str) (o g:Int) (f:Str) (b e:ZnG):ZLL:=bif m then ((ZnL d n).bind fun(q,i)=>Zq9 i l a c o q f b e)else (bif (j == 3)then ((ZnL d 3).bind fun(h,k)=>chk (inK .i64 (1+h)) <|(Zu8 big n (1+h) k l a c o g f b e).bind fun(y,s,v,t,w,x,r,p,u)=>ZAR y s v t w x r p u)else (Zq9 d l a c o g f b e))
def Zra (i:Bool) (d:ZnC) (t:G_api_Table) (j b:Int) (e:Str) (o a:Int) (g:Str) (c f:ZnG):ZLL:=bif i then ((idx t.Columns a).bind fun Column=>(idx t.Columns a).bind fun Column_1=>(ZnL d (Column_1.Cells.length:Int)).bind fun(q,h)=>(idx Column.Cells q).bind fun Cell=>Zq9 h j b e o a Cell.Text c f)else (Zq9 d j b e o a g c f)
def Zx1 (d:ZnC) (t:G_api_Table):ZLL:=(ZnL d 5).bind fun(q,t8)=>chk (inK .i64 (1+q)) <|bif ((1+q) == 1)then ((ZnL t8 (t.Columns.length:Int)).bind fun(q_1,t19)=>(Zoc t19 ([([97]:Str),([98]:Str),([49]:Str),([50]:Str),([107,48]:Str),([]:Str)]:(List Str))).bind fun(q_2,t23)=>bif (decide ((t.Columns.length:Int) > 0))then ((idx t.Columns q_1).bind fun Column=>bif (decide ((Column.Cells.length:Int) > 0))then ((ZnL t23 3).bind fun(q_3,t41)=>Zra (decide (q_3 > 0)) t41 t (0:Int) (0:Int) ([]:Str) (1+q) q_1 q_2 ([]:ZnG) ([]:ZnG))else (Zra false t23 t (0:Int) (0:Int) ([]:Str) (1+q) q_1 q_2 ([]:ZnG) ([]:ZnG)))else (Zra false t23 t (0:Int) (0:Int) ([]:Str) (1+q) q_1 q_2 ([]:ZnG) ([]:ZnG)))else (bif ((1+q) == 2)then (Zva (t.Columns.length:Int) (1+q) ((1+q) == 2) t8 (0:Int) (0:Int) ([]:Str) (1+q) (0:Int) ([]:Str) ([]:ZnG) ([]:ZnG))else (Zva (t.Columns.length:Int) (1+q) ((1+q) == 5) t8 (0:Int) (0:Int) ([]:Str) (1+q) (0:Int) ([]:Str) ([]:ZnG) ([]:ZnG)))
def Zoa (s:Str):Option Int:=(idx s 0).bind fun c=>(idx s 1).bind fun b=>chk (decide (0<=(8:Int))) <|(idx s 2).bind fun h=>chk (decide (0<=(16:Int))) <|(idx s 3).bind fun f=>chk (decide (0<=(24:Int))) <|(idx s 4).bind fun d=>chk (decide (0<=(32:Int))) <|(idx s 5).bind fun a=>chk (decide (0<=(40:Int))) <|(idx s 6).bind fun g=>chk (decide (0<=(48:Int))) <|(idx s 7).bind fun e=>chk (decide (0<=(56:Int))) <|some (orK .u64 (orK .u64 (orK .u64 (orK .u64 (orK .u64 (orK .u64 (orK .u64 (IntKind.wrap .u64 ((c.toNat:Nat):Int)) (shlK .u64 (IntKind.wrap .u64 ((b.toNat:Nat):Int)) 8)) (shlK .u64 (IntKind.wrap .u64 ((h.toNat:Nat):Int)) 16)) (shlK .u64 (IntKind.wrap .u64 ((f.toNat:Nat):Int)) 24)) (shlK .u64 (IntKind.wrap .u64 ((d.toNat:Nat):Int)) 32)) (shlK .u64 (IntKind.wrap .u64 ((a.toNat:Nat):Int)) 40)) (shlK .u64 (IntKind.wrap .u64 ((g.toNat:Nat):Int)) 48)) (shlK .u64 (IntKind.wrap .u64 ((e.toNat:Nat):Int)) 56))
def Zwz:Option Bool:=some true
def ZnY (a:ZJW) (s:Str) (b:Bool):Zvi:=bif b then (some (.ret false))else (chk (Zb9 4 (s.length:Int) (s.length:Int)) <|a (s.drop ((4:Int)).toNat))
def Zom (b:ZJW) (s:Str) (a:Bool):Zvi:=bif a then (some (.ret false))else (chk (Zb9 3 (s.length:Int) (s.length:Int)) <|b (s.drop ((3:Int)).toNat))
def Zpx (a:ZJW) (s:Str) (b:Bool):Zvi:=bif b then (some (.ret false))else (chk (Zb9 2 (s.length:Int) (s.length:Int)) <|a (s.drop ((2:Int)).toNat))
def ZqS (a:ZJW) (s:Str):Zvi:=a s
def ZwA (a:ZJW) (s:Str):Zvi:=a s
def Zs0 (a:ZJX) (s:Str) (b:Bool):Option Str:=bif b then (chk (Zb9 32 (s.length:Int) (s.length:Int)) <|a (s.drop ((32:Int)).toNat))else (some s)
def Zvk (a:ZJX) (s:Str):Option Str:=bif (decide ((s.length:Int) > 32))then ((Zoa s).bind fun q=>chk (Zb9 8 (s.length:Int) (s.length:Int)) <|(Zoa (s.drop ((8:Int)).toNat)).bind fun b=>chk (Zb9 16 (s.length:Int) (s.length:Int)) <|(Zoa (s.drop ((16:Int)).toNat)).bind fun d=>chk (Zb9 24 (s.length:Int) (s.length:Int)) <|(Zoa (s.drop ((24:Int)).toNat)).bind fun c=>Zs0 a s ((andK .u64 (orK .u64 (orK .u64 q b) (orK .u64 d c)) 9259542123273814144) == 0))else (Zs0 a s false)
def Zpw:Nat->Str->Option Str
 |0,_=>none
 |n_+1,s=>Zvk (Zpw n_) s
def ZqT (a:ZJW) (s:Str) (b:Bool):Zvi:=bif b then (chk (Zb9 16 (s.length:Int) (s.length:Int)) <|(Zpw big (s.drop ((16:Int)).toNat)).bind fun c=>ZwA a c)else (ZqS a s)
def ZqU (a:ZJW) (s:Str) (c:Bool):Zvi:=bif c then (chk (Zb9 8 (s.length:Int) (s.length:Int)) <|bif (decide (((s.drop ((8:Int)).toNat).length:Int) > 16))then ((Zoa (s.drop ((8:Int)).toNat)).bind fun q=>chk (Zb9 8 ((s.drop ((8:Int)).toNat).length:Int) ((s.drop ((8:Int)).toNat).length:Int)) <|(Zoa ((s.drop ((8:Int)).toNat).drop ((8:Int)).toNat)).bind fun b=>ZqT a (s.drop ((8:Int)).toNat) ((andK .u64 (orK .u64 q b) 9259542123273814144) == 0))else (ZqT a (s.drop ((8:Int)).toNat) false))else (ZqS a s)
def Zvl (a:ZJW) (s:Str):Zvi:=bif (decide ((s.length:Int) > 0))then ((idx s 0).bind fun c=>bif (decide (((c.toNat:Nat):Int) < 128))then (chk (Zb9 1 (s.length:Int) (s.length:Int)) <|bif (decide (((s.drop ((1:Int)).toNat).length:Int) > 8))then ((Zoa (s.drop ((1:Int)).toNat)).bind fun q=>ZqU a (s.drop ((1:Int)).toNat) ((andK .u64 q 9259542123273814144) == 0))else (ZqU a (s.drop ((1:Int)).toNat) false))else (chk (inR ((c.toNat:Nat):Int) 256) <|(tabB (car:=ZCz) (.int .u8) ZDq ((((c.toNat:Nat):Int)).toNat*1)).bind fun b=>chk (decide (0<=(4:Int))) <|chk (inR (shrK .u8 b 4) 16) <|(tabB (car:=ZCz) (.int .u8) Zvh (((shrK .u8 b 4)).toNat*2)).bind fun e=>(tabB (car:=ZCz) (.int .u8) Zvh (((shrK .u8 b 4)).toNat*2+1)).bind fun d=>bif ((IntKind.wrap .i64 (andK .u8 b 7)) == 2)then (bif (decide ((s.length:Int) < 2))then (Zpx a s true)else ((idx s 1).bind fun r=>bif (decide (((r.toNat:Nat):Int) < e))then (Zpx a s true)else ((idx s 1).bind fun l=>Zpx a s (decide (d < ((l.toNat:Nat):Int))))))else (bif ((IntKind.wrap .i64 (andK .u8 b 7)) == 3)then (bif (decide ((s.length:Int) < 3))then (Zom a s true)else ((idx s 1).bind fun o=>bif (decide (((o.toNat:Nat):Int) < e))then (Zom a s true)else ((idx s 1).bind fun n=>bif (decide (d < ((n.toNat:Nat):Int)))then (Zom a s true)else ((idx s 2).bind fun p=>bif (decide (((p.toNat:Nat):Int) < 128))then (Zom a s true)else ((idx s 2).bind fun m=>Zom a s (decide ((191:Int) < ((m.toNat:Nat):Int))))))))else (bif ((IntKind.wrap .i64 (andK .u8 b 7)) == 4)then (bif (decide ((s.length:Int) < 4))then (ZnY a s true)else ((idx s 1).bind fun h=>bif (decide (((h.toNat:Nat):Int) < e))then (ZnY a s true)else ((idx s 1).bind fun f=>bif (decide (d < ((f.toNat:Nat):Int)))then (ZnY a s true)else ((idx s 2).bind fun g=>bif (decide (((g.toNat:Nat):Int) < 128))then (ZnY a s true)else ((idx s 2).bind fun k=>bif (decide ((191:Int) < ((k.toNat:Nat):Int)))then (ZnY a s true)else ((idx s 3).bind fun i=>bif (decide (((i.toNat:Nat):Int) < 128))then (ZnY a s true)else ((idx s 3).bind fun j=>ZnY a s (decide ((191:Int) < ((j.toNat:Nat):Int))))))))))else (some (.ret false))))))else (some (.brk ()))
def ZnR:Nat->Str->Zvi
 |0,_=>none
 |n_+1,s=>Zvl (ZnR n_) s
def Zpo (s:Str):Option Bool:=(ZnR big s).bind fun
 | .ret a=>some a
 | .brk ()=>Zwz
def Zto (s:Str):Option Bool:=(Zpo s).bind fun q=>some q
def ZuR (a:Bool):Option Bool:=some a
def ZtX (s:Str):Option Bool:=(Zto s).bind fun q=>bif q then (ZuR (decide ((s.length:Int)<=1024)))else (ZuR false)
def Zo5 (a:Bool):Option Bool:=some a
def ZtF (c:G_api_Cell):Option Bool:=(Zto c.Text).bind fun q=>bif q then (bif (decide ((c.Text.length:Int)<=1024))then (bif (!c.Null)then (Zo5 true)else (Zo5 (c.Text == ([]:Str))))else (Zo5 false))else (Zo5 false)
def ZxK:Option Bool:=some true
def ZxL (b:ZQM) (c:Zo4) (d a:Int) (t:G_api_Table):Zvi:=chk (inK .i64 (a+1)) <|b c d (a+1) t
def ZwF (c:Zo4->Int->Int->ZCe->Int->Int->G_api_Table->ZQD) (e:Zo4) (b d:Int) (g:ZCe) (f a:Int) (t:G_api_Table):ZQD:=bif (decide (a < f))then ((idx g a).bind fun h=>(ZtF h).bind fun q=>bif (!q)then (some (.ret false))else (chk (inK .i64 (a+1)) <|c e b d g f (a+1) t))else (some (.brk (e,b,d,t)))
def ZrA:Nat->Zo4->Int->Int->ZCe->Int->Int->G_api_Table->ZQD
 |0,_,_,_,_,_,_,_=>none
 |n_+1,t28,t29,t30,t57,t58,t59,t=>ZwF (ZrA n_) t28 t29 t30 t57 t58 t59 t
def Zp6 (a:ZQM) (f:Zo4) (b e:Int) (d:Bool) (t:G_api_Table) (c:G_api_Column):Zvi:=bif d then (some (.ret false))else ((ZrA big f b e c.Cells (c.Cells.length:Int) (0:Int) t).bind fun
 | .ret g=>some (.ret g)
 | .brk (x0,x1,x2,x3)=>ZxL a x0 x1 x2 x3)
def ZwG (b:ZQM) (e:Zo4) (d a:Int) (t:G_api_Table):Zvi:=bif (decide (a < d))then ((idx e a).bind fun c=>(ZtX c.Name).bind fun q=>bif (!q)then (Zp6 b e d a true t c)else (bif (decide ((c.Cells.length:Int) > 4096))then (Zp6 b e d a true t c)else ((idx t.Columns 0).bind fun Column=>Zp6 b e d a ((c.Cells.length:Int) != (Column.Cells.length:Int)) t c)))else (some (.brk ()))
def ZoC:Nat->Zo4->Int->Int->G_api_Table->Zvi
 |0,_,_,_,_=>none
 |n_+1,t28,t29,t30,t=>ZwG (ZoC n_) t28 t29 t30 t
def Zp7 (a:Bool) (t:G_api_Table):Option Bool:=bif a then (some false)else ((ZoC big t.Columns (t.Columns.length:Int) (0:Int) t).bind fun
 | .ret b=>some b
 | .brk ()=>ZxK)
def Zpf (t:G_api_Table):Option Bool:=bif (decide (t.ID < 0))then (Zp7 true t)else (bif (decide (t.ID > 1073741824))then (Zp7 true t)else ((ZtX t.Name).bind fun q=>bif (!q)then (Zp7 true t)else (Zp7 (decide ((t.Columns.length:Int) > 64)) t)))
def Zq2 (a:Bool):Option Bool:=some a
def ZsB (a:Bool):Option Bool:=some a
def Zy6 (o:ZnQ):Option Bool:=bif (o.Column == 0)then (bif (o.Text == ([]:Str))then (ZsB (decide ((o.Columns.length:Int)<=64)))else (ZsB false))else (ZsB false)
def ZsC (a:Bool):Option Bool:=some a
def ZvE (a:ZT0) (c:ZnG) (d b:Int) (e:Bool) (t:G_api_Table) (o:ZnQ):ZKu:=bif e then (some (.ret false))else (chk (inK .i64 (b+1)) <|a c d (b+1) t o)
def ZtP (b:ZT0) (d:ZnG) (c a:Int) (t:G_api_Table) (o:ZnQ):ZKu:=bif (decide (a < c))then ((idx d a).bind fun k=>bif (decide (k < 0))then (ZvE b d c a true t o)else (ZvE b d c a (decide (k>=(t.Columns.length:Int))) t o))else (some (.brk o))
def ZsA:Nat->ZnG->Int->Int->G_api_Table->ZnQ->ZKu
 |0,_,_,_,_,_=>none
 |n_+1,t54,t55,t56,t,o=>ZtP (ZsA n_) t54 t55 t56 t o
def ZBn (n:Nat) (s:(ZnG×Int×Int×G_api_Table×ZnQ)):ZKu:=ZsA n s.1 s.2.1 s.2.2.1 s.2.2.2.1 s.2.2.2.2
def ZxF (a:(ZnG×Int×Int×G_api_Table×ZnQ)->ZKu) (s:(ZnG×Int×Int×G_api_Table×ZnQ)):ZKu:=ZtP (fun c b d t o=>a (c,b,d,t,o)) s.1 s.2.1 s.2.2.1 s.2.2.2.1 s.2.2.2.2
theorem ZEy:∀n s,ZBn (n+1) s=ZxF (ZBn n) s:=fun _ _=>rfl
def ZsD (a:Bool) (c:Int) (b:Bool) (t:G_api_Table) (o:ZnQ):Option Bool:=bif b then (bif a then (bif ((o.Columns.length:Int) == 0)then (ZsC (o.Text == ([]:Str)))else (ZsC false))else (ZsC false))else (bif (c == 3)then ((ZsA big o.Columns (o.Columns.length:Int) (0:Int) t o).bind fun
 | .ret d=>some d
 | .brk e=>Zy6 e)else (bif (o.Kind == 4)then (bif (o.Column == 0)then (bif (o.Text == ([]:Str))then (Zq2 ((o.Columns.length:Int) == 0))else (Zq2 false))else (Zq2 false))else (Zq2 false)))
def ZsE (a:Bool):Option Bool:=some a
def ZsF (a:Bool) (t:G_api_Table) (o:ZnQ):Option Bool:=bif (o.Kind == 1)then (bif a then (bif ((o.Columns.length:Int) == 0)then (ZsE (decide ((o.Text.length:Int)<=1024)))else (ZsE false))else (ZsE false))else (bif (o.Kind == 2)then (ZsD a o.Kind (o.Kind == 2) t o)else (ZsD a o.Kind (o.Kind == 5) t o))
def Zyd (t:G_api_Table) (o:ZnQ):Option Bool:=bif (decide (o.Column>=0))then (ZsF (decide (o.Column < (t.Columns.length:Int))) t o)else (ZsF false t o)
def ZwH (a:ZnG) (g:Int) (e:Str) (d:Int) (b:Str) (f c:Zo4):ZKt:=bif (decide ((a.length:Int) > 64))then (some ((G_api_Table.mk 0 ([]:Str) ([]:Zo4)),3))else (some ((G_api_Table.mk d b c),0))
def Zs5 (d:Tf_3) (a:ZnG) (k:Int) (i:ZnG) (l g:Int) (h:Bool) (t:G_api_Table) (m:Int) (e:Str) (j:Int) (c:Str) (f b:Zo4):ZQC:=bif h then (some (.ret ((G_api_Table.mk 0 ([]:Str) ([]:Zo4)),2)))else ((idx t.Columns k).bind fun Column=>chk (ZiZ (b.length+([Column]:Zo4).length) 40) <|chk (inK .i64 (g+1)) <|d a i l (g+1) t m e j c f (b++([Column]:Zo4)))
def ZrQ (g:Tf_3) (a h:ZnG) (j f:Int) (t:G_api_Table) (l:Int) (d:Str) (i:Int) (b:Str) (e c:Zo4):ZQC:=bif (decide (f < j))then ((idx h f).bind fun k=>bif (decide (k < 0))then (Zs5 g a k h j f true t l d i b e c)else (Zs5 g a k h j f (decide (k>=(t.Columns.length:Int))) t l d i b e c))else (some (.brk (a,l,d,i,b,e,c)))
def ZqX:Nat->ZnG->ZnG->Int->Int->G_api_Table->Int->Str->Int->Str->Zo4->Zo4->ZQC
 |0,_,_,_,_,_,_,_,_,_,_,_=>none
 |n_+1,columns,t18,t19,t20,t,t4,t4_1,out,out_1,t4_2,out_2=>ZrQ (ZqX n_) columns t18 t19 t20 t t4 t4_1 out out_1 t4_2 out_2
def ZzV (n:Nat) (s:(ZnG×ZnG×Int×Int×G_api_Table×Int×Str×Int×Str×Zo4×Zo4)):ZQC:=ZqX n s.1 s.2.1 s.2.2.1 s.2.2.2.1 s.2.2.2.2.1 s.2.2.2.2.2.1 s.2.2.2.2.2.2.1 s.2.2.2.2.2.2.2.1 s.2.2.2.2.2.2.2.2.1 s.2.2.2.2.2.2.2.2.2.1 s.2.2.2.2.2.2.2.2.2.2
def Zvs (d:(ZnG×ZnG×Int×Int×G_api_Table×Int×Str×Int×Str×Zo4×Zo4)->ZQC) (s:(ZnG×ZnG×Int×Int×G_api_Table×Int×Str×Int×Str×Zo4×Zo4)):ZQC:=ZrQ (fun a g i j t k e h b f c=>d (a,g,i,j,t,k,e,h,b,f,c)) s.1 s.2.1 s.2.2.1 s.2.2.2.1 s.2.2.2.2.1 s.2.2.2.2.2.1 s.2.2.2.2.2.2.1 s.2.2.2.2.2.2.2.1 s.2.2.2.2.2.2.2.2.1 s.2.2.2.2.2.2.2.2.2.1 s.2.2.2.2.2.2.2.2.2.2
theorem ZDw:∀n s,ZzV (n+1) s=Zvs (ZzV n) s:=fun _ _=>rfl
def ZuS (t:G_api_Table) (a:ZnG):ZKt:=(Zpf t).bind fun q=>bif (!q)then (some ((G_api_Table.mk 0 ([]:Str) ([]:Zo4)),1))else ((ZqX big a a (a.length:Int) (0:Int) t (0:Int) ([]:Str) t.ID t.Name ([]:Zo4) ([]:Zo4)).bind fun
 | .ret b=>some b
 | .brk (x0,x1,x2,x3,x4,x5,x6)=>ZwH x0 x1 x2 x3 x4 x5 x6)
def ZtZ (t:G_api_Table):Option Int:=bif ((t.Columns.length:Int) == 0)then (some (0:Int))else ((idx t.Columns 0).bind fun Column=>some (Column.Cells.length:Int))
def ZxE:Option Bool:=some true
def Zs1 (d:Int->Int->Zo4->Int->Int->Zvi) (f y:Int) (b:Zo4) (e a:Int):Zvi:=bif (decide (a < e))then ((idx b a).bind fun c=>(idx c.Cells f).bind fun Cell=>(idx c.Cells y).bind fun Cell_1=>bif (!(Cell.Null == Cell_1.Null&&(Cell.Text == Cell_1.Text&&true)))then (some (.ret false))else (chk (inK .i64 (a+1)) <|d f y b e (a+1)))else (some (.brk ()))
def ZtO:Nat->Int->Int->Zo4->Int->Int->Zvi
 |0,_,_,_,_,_=>none
 |n_+1,x_,y,t10,t11,t12=>Zs1 (ZtO n_) x_ y t10 t11 t12
def ZAC (n:Nat) (s:(Int×Int×Zo4×Int×Int)):Zvi:=ZtO n s.1 s.2.1 s.2.2.1 s.2.2.2.1 s.2.2.2.2
def ZwB (a:(Int×Int×Zo4×Int×Int)->Zvi) (s:(Int×Int×Zo4×Int×Int)):Zvi:=Zs1 (fun e y b d c=>a (e,y,b,d,c)) s.1 s.2.1 s.2.2.1 s.2.2.2.1 s.2.2.2.2
theorem ZDS:∀n s,ZAC (n+1) s=ZwB (ZAC n) s:=fun _ _=>rfl
def Zwk (t:G_api_Table) (a y:Int):Option Bool:=(ZtO big a y t.Columns (t.Columns.length:Int) (0:Int)).bind fun
 | .ret b=>some b
 | .brk ()=>ZxE
def Zph (c:Bool) (a b:G_api_Cell):Option Int:=bif c then (some (0:Int))else (bif a.Null then (some (-1:Int))else (bif b.Null then (some (1:Int))else (bif (Op.bytesLess a.Text b.Text)then (some (-1:Int))else (bif (!((Op.bytesLess a.Text b.Text)||a.Text == b.Text))then (some (1:Int))else (some (0:Int))))))
def ZrR (a b:G_api_Cell):Option Int:=bif a.Null then (Zph b.Null a b)else (Zph false a b)
def Zyv (a:ZnG):Option ZnG:=some a
def ZuK (a:ZLV) (b d:Int) (t:G_api_Table) (o:ZnQ) (c:ZnG):Option ZnG:=chk (inK .i64 (d+1)) <|a b (d+1) t o c
def Zqv (d:ZLV) (g b e c:Int) (f:Bool) (t:G_api_Table) (o:ZnQ) (a:ZnG):Option ZnG:=bif f then (chk (Zb9 0 b (a.length:Int)) <|chk (ZiZ ((a.drop 0).take ((b).toNat - 0)).length 8) <|chk (ZiZ (((a.drop 0).take ((b).toNat - 0)).length+([g]:ZnG).length) 8) <|chk (Zb9 b (a.length:Int) (a.length:Int)) <|chk (ZiZ ((((a.drop 0).take ((b).toNat - 0))++([g]:ZnG)).length+((a.drop ((b).toNat)).take ((a.length:Int).toNat - (b).toNat)).length) 8) <|ZuK d e c t o ((((a.drop 0).take ((b).toNat - 0))++([g]:ZnG))++((a.drop ((b).toNat)).take ((a.length:Int).toNat - (b).toNat))))else (ZuK d e c t o a)
def Zqw (c:ZLV) (g f:Int) (b:Bool) (d a:Int) (t:G_api_Table) (o:ZnQ) (e:ZnG):Option ZnG:=Zqv c g f d a b t o e
def Zyw (c:ZLV) (g f:Int) (b:Bool) (d a:Int) (t:G_api_Table) (o:ZnQ) (e:ZnG):Option ZnG:=Zqv c g f d a b t o e
def Zyx (c:ZLV) (g f:Int) (b:Bool) (d a:Int) (t:G_api_Table) (o:ZnQ) (e:ZnG):Option ZnG:=Zqv c g f d a b t o e
def ZuM (c:Tf_4) (i h:Int) (b:Bool) (e a g d:Int) (t:G_api_Table) (o:ZnQ) (f:ZnG):ZLf:=chk (inK .i64 (d+1)) <|c i h b e a g (d+1) t o f
def Ztw (e:Tf_4) (i h:Int) (d:Bool) (f a g c:Int) (t:G_api_Table) (o:ZnQ) (b:ZnG):ZLf:=bif (decide (c < g))then (chk (inR c (b.length:Int)) <|(b[(c).toNat]?).bind fun j=>bif d then ((Zwk t j i).bind fun q=>ZuM e i h (!q) f a g c t o b)else (ZuM e i h false f a g c t o b))else (some (i,h,d,f,a,t,o,b))
def Zr2:Nat->Int->Int->Bool->Int->Int->Int->Int->G_api_Table->ZnQ->ZnG->ZLf
 |0,_,_,_,_,_,_,_,_,_,_=>none
 |n_+1,r_,at_,keep,t14,r__1,t61,t62,t,o,out=>Ztw (Zr2 n_) r_ at_ keep t14 r__1 t61 t62 t o out
def ZA0 (n:Nat) (s:(Int×Int×Bool×Int×Int×Int×Int×G_api_Table×ZnQ×ZnG)):ZLf:=Zr2 n s.1 s.2.1 s.2.2.1 s.2.2.2.1 s.2.2.2.2.1 s.2.2.2.2.2.1 s.2.2.2.2.2.2.1 s.2.2.2.2.2.2.2.1 s.2.2.2.2.2.2.2.2.1 s.2.2.2.2.2.2.2.2.2
def Zw5 (c:(Int×Int×Bool×Int×Int×Int×Int×G_api_Table×ZnQ×ZnG)->ZLf) (s:(Int×Int×Bool×Int×Int×Int×Int×G_api_Table×ZnQ×ZnG)):ZLf:=Ztw (fun i g b d a f h t o e=>c (i,g,b,d,a,f,h,t,o,e)) s.1 s.2.1 s.2.2.1 s.2.2.2.1 s.2.2.2.2.1 s.2.2.2.2.2.1 s.2.2.2.2.2.2.1 s.2.2.2.2.2.2.2.1 s.2.2.2.2.2.2.2.2.1 s.2.2.2.2.2.2.2.2.2
theorem ZEd:∀n s,ZA0 (n+1) s=Zw5 (ZA0 n) s:=fun _ _=>rfl
def ZuL (e:ZUa) (h c:Int) (b:Bool) (l:ZCe) (d a:Int) (g:Bool) (t:G_api_Table) (o:ZnQ) (f:ZnG):ZLf:=bif g then (chk (inK .i64 (c - 1)) <|e h (c - 1) b l d a t o f)else (some (h,c,b,d,a,t,o,f))
def Zw4 (e:ZUa) (j a:Int) (d:Bool) (l:ZCe) (h c:Int) (t:G_api_Table) (o:ZnQ) (b:ZnG):ZLf:=bif (decide (a > 0))then (chk (inK .i64 (a - 1)) <|chk (inR (a - 1) (b.length:Int)) <|(b[((a - 1)).toNat]?).bind fun f=>(idx l f).bind fun i=>(idx l j).bind fun g=>(ZrR i g).bind fun q=>ZuL e j a d l h c (decide (q > 0)) t o b)else (ZuL e j a d l h c false t o b)
def Zr1:Nat->Int->Int->Bool->ZCe->Int->Int->G_api_Table->ZnQ->ZnG->ZLf
 |0,_,_,_,_,_,_,_,_,_=>none
 |n_+1,r_,at_,keep,l,t14,r__1,t,o,out=>Zw4 (Zr1 n_) r_ at_ keep l t14 r__1 t o out
def ZAY (n:Nat) (s:(Int×Int×Bool×ZCe×Int×Int×G_api_Table×ZnQ×ZnG)):ZLf:=Zr1 n s.1 s.2.1 s.2.2.1 s.2.2.2.1 s.2.2.2.2.1 s.2.2.2.2.2.1 s.2.2.2.2.2.2.1 s.2.2.2.2.2.2.2.1 s.2.2.2.2.2.2.2.2
def ZAZ (c:(Int×Int×Bool×ZCe×Int×Int×G_api_Table×ZnQ×ZnG)->ZLf) (s:(Int×Int×Bool×ZCe×Int×Int×G_api_Table×ZnQ×ZnG)):ZLf:=Zw4 (fun g f b l d a t o e=>c (g,f,b,l,d,a,t,o,e)) s.1 s.2.1 s.2.2.1 s.2.2.2.1 s.2.2.2.2.1 s.2.2.2.2.2.1 s.2.2.2.2.2.2.1 s.2.2.2.2.2.2.2.1 s.2.2.2.2.2.2.2.2
theorem ZEc:∀n s,ZAY (n+1) s=ZAZ (ZAY n) s:=fun _ _=>rfl
def Ztx (b:ZLV) (d e:Int) (t:G_api_Table) (o:ZnQ) (a:ZnG):Option ZnG:=bif (decide (e < d))then (bif (o.Kind == 1)then ((idx t.Columns o.Column).bind fun Column=>(idx Column.Cells e).bind fun c=>bif (!c.Null)then (Zqw b e (a.length:Int) (c.Text == o.Text) d e t o a)else (Zqw b e (a.length:Int) false d e t o a))else (bif (o.Kind == 2)then ((idx t.Columns o.Column).bind fun Column_1=>(idx Column_1.Cells e).bind fun Cell=>Zqw b e (a.length:Int) (!Cell.Null) d e t o a)else (bif (o.Kind == 4)then ((Zr2 big e (a.length:Int) true d e (a.length:Int) (0:Int) t o a).bind fun(k,m,j,l,f,i,h,g)=>Zyx b k m j l f i h g)else (bif (o.Kind == 5)then ((idx t.Columns o.Column).bind fun Column_2=>(Zr1 big e (a.length:Int) true Column_2.Cells d e t o a).bind fun(k,m,j,l,f,i,h,g)=>Zyw b k m j l f i h g)else (Zqw b e (a.length:Int) true d e t o a)))))else (some a)
def Zos:Nat->Int->Int->G_api_Table->ZnQ->ZnG->Option ZnG
 |0,_,_,_,_,_=>none
 |n_+1,t14,r_,t,o,out=>Ztx (Zos n_) t14 r_ t o out
def ZA1 (n:Nat) (s:(Int×Int×G_api_Table×ZnQ×ZnG)):Option ZnG:=Zos n s.1 s.2.1 s.2.2.1 s.2.2.2.1 s.2.2.2.2
def Zw6 (a:(Int×Int×G_api_Table×ZnQ×ZnG)->Option ZnG) (s:(Int×Int×G_api_Table×ZnQ×ZnG)):Option ZnG:=Ztx (fun b d t o c=>a (b,d,t,o,c)) s.1 s.2.1 s.2.2.1 s.2.2.2.1 s.2.2.2.2
theorem ZEe:∀n s,ZA1 (n+1) s=Zw6 (ZA1 n) s:=fun _ _=>rfl
def Zw7 (t:G_api_Table) (o:ZnQ):Option ZnG:=(ZtZ t).bind fun q=>(Zos big q (0:Int) t o ([]:ZnG)).bind fun a=>Zyv a
def Zxd (f:Int) (d:Str) (c:Int) (a:Str) (e b:Zo4):ZKt:=some ((G_api_Table.mk c a b),0)
def Zxe (d:ZT7) (e:ZnG) (k:Zo4) (i h m:Int) (f:Str) (j:Int) (c l:Str) (g a:Zo4) (b:ZCe):ZHz:=chk (ZiZ (a.length+([(G_api_Column.mk l b)]:Zo4).length) 40) <|chk (inK .i64 (h+1)) <|d e k i (h+1) m f j c g (a++([(G_api_Column.mk l b)]:Zo4))
def Zst (l:ZnG->Zo4->Int->Int->ZnG->Int->Int->Int->Str->Int->Str->G_api_Column->Str->Zo4->Zo4->ZCe->ZSh) (f:ZnG) (p:Zo4) (j o:Int) (m:ZnG) (i e q:Int) (g:Str) (n:Int) (a:Str) (c:G_api_Column) (r:Str) (h d:Zo4) (b:ZCe):ZSh:=bif (decide (e < i))then ((idx m e).bind fun k=>(idx c.Cells k).bind fun Cell=>chk (ZiZ (b.length+([Cell]:ZCe).length) 24) <|chk (inK .i64 (e+1)) <|l f p j o m i (e+1) q g n a c r h d (b++([Cell]:ZCe)))else (some (f,p,j,o,q,g,n,a,r,h,d,b))
def ZtG:Nat->ZnG->Zo4->Int->Int->ZnG->Int->Int->Int->Str->Int->Str->G_api_Column->Str->Zo4->Zo4->ZCe->ZSh
 |0,_,_,_,_,_,_,_,_,_,_,_,_,_,_,_,_=>none
 |n_+1,rows,t44,t45,t46,t53,t54,t55,t4,t4_1,out,out_1,c,x_,t4_2,out_2,x__1=>Zst (ZtG n_) rows t44 t45 t46 t53 t54 t55 t4 t4_1 out out_1 c x_ t4_2 out_2 x__1
def ZAh (n:Nat) (s:(ZnG×Zo4×Int×Int×ZnG×Int×Int×Int×Str×Int×Str×G_api_Column×Str×Zo4×Zo4×ZCe)):ZSh:=ZtG n s.1 s.2.1 s.2.2.1 s.2.2.2.1 s.2.2.2.2.1 s.2.2.2.2.2.1 s.2.2.2.2.2.2.1 s.2.2.2.2.2.2.2.1 s.2.2.2.2.2.2.2.2.1 s.2.2.2.2.2.2.2.2.2.1 s.2.2.2.2.2.2.2.2.2.2.1 s.2.2.2.2.2.2.2.2.2.2.2.1 s.2.2.2.2.2.2.2.2.2.2.2.2.1 s.2.2.2.2.2.2.2.2.2.2.2.2.2.1 s.2.2.2.2.2.2.2.2.2.2.2.2.2.2.1 s.2.2.2.2.2.2.2.2.2.2.2.2.2.2.2
def Zv8 (d:(ZnG×Zo4×Int×Int×ZnG×Int×Int×Int×Str×Int×Str×G_api_Column×Str×Zo4×Zo4×ZCe)->ZSh) (s:(ZnG×Zo4×Int×Int×ZnG×Int×Int×Int×Str×Int×Str×G_api_Column×Str×Zo4×Zo4×ZCe)):ZSh:=Zst (fun e o j n k i l p g m a c q h b f=>d (e,o,j,n,k,i,l,p,g,m,a,c,q,h,b,f)) s.1 s.2.1 s.2.2.1 s.2.2.2.1 s.2.2.2.2.1 s.2.2.2.2.2.1 s.2.2.2.2.2.2.1 s.2.2.2.2.2.2.2.1 s.2.2.2.2.2.2.2.2.1 s.2.2.2.2.2.2.2.2.2.1 s.2.2.2.2.2.2.2.2.2.2.1 s.2.2.2.2.2.2.2.2.2.2.2.1 s.2.2.2.2.2.2.2.2.2.2.2.2.1 s.2.2.2.2.2.2.2.2.2.2.2.2.2.1 s.2.2.2.2.2.2.2.2.2.2.2.2.2.2.1 s.2.2.2.2.2.2.2.2.2.2.2.2.2.2.2
theorem ZDF:∀n s,ZAh (n+1) s=Zv8 (ZAh n) s:=fun _ _=>rfl
def Zsu (k:ZT7) (b:ZnG) (i:Zo4) (h g n:Int) (e:Str) (j:Int) (a:Str) (f d:Zo4):ZHz:=bif (decide (g < h))then ((idx i g).bind fun c=>(ZtG big b i h g b (b.length:Int) (0:Int) n e j a c c.Name f d ([]:ZCe)).bind fun(x,r,u,s,v,w,p,o,t,q,l,m)=>Zxe k x r u s v w p o t q l m)else (some (n,e,j,a,f,d))
def Zrk:Nat->ZnG->Zo4->Int->Int->Int->Str->Int->Str->Zo4->Zo4->ZHz
 |0,_,_,_,_,_,_,_,_,_,_=>none
 |n_+1,rows,t44,t45,t46,t4,t4_1,out,out_1,t4_2,out_2=>Zsu (Zrk n_) rows t44 t45 t46 t4 t4_1 out out_1 t4_2 out_2
def ZAi (n:Nat) (s:(ZnG×Zo4×Int×Int×Int×Str×Int×Str×Zo4×Zo4)):ZHz:=Zrk n s.1 s.2.1 s.2.2.1 s.2.2.2.1 s.2.2.2.2.1 s.2.2.2.2.2.1 s.2.2.2.2.2.2.1 s.2.2.2.2.2.2.2.1 s.2.2.2.2.2.2.2.2.1 s.2.2.2.2.2.2.2.2.2
def Zv9 (c:(ZnG×Zo4×Int×Int×Int×Str×Int×Str×Zo4×Zo4)->ZHz) (s:(ZnG×Zo4×Int×Int×Int×Str×Int×Str×Zo4×Zo4)):ZHz:=Zsu (fun d j g i k e h a f b=>c (d,j,g,i,k,e,h,a,f,b)) s.1 s.2.1 s.2.2.1 s.2.2.2.1 s.2.2.2.2.1 s.2.2.2.2.2.1 s.2.2.2.2.2.2.1 s.2.2.2.2.2.2.2.1 s.2.2.2.2.2.2.2.2.1 s.2.2.2.2.2.2.2.2.2
theorem ZDG:∀n s,ZAi (n+1) s=Zv9 (ZAi n) s:=fun _ _=>rfl
def Zxf (a:ZnG) (t:G_api_Table) (e:Int) (b:Str) (c:Zo4):ZKt:=bif (decide ((a.length:Int) > 4096))then (some ((G_api_Table.mk 0 ([]:Str) ([]:Zo4)),3))else ((Zrk big a t.Columns (t.Columns.length:Int) (0:Int) e b t.ID t.Name c ([]:Zo4)).bind fun(h,j,g,i,d,f)=>Zxd h j g i d f)
def ZtH (a:ZT6) (b f:ZnG) (h e:Int) (g:Bool) (t:G_api_Table) (i:Int) (c:Str) (d:Zo4):ZQA:=bif g then (some (.ret ((G_api_Table.mk 0 ([]:Str) ([]:Zo4)),2)))else (chk (inK .i64 (e+1)) <|a b f h (e+1) t i c d)
def Zsv (e:ZT6) (a f:ZnG) (g d:Int) (t:G_api_Table) (h:Int) (b:Str) (c:Zo4):ZQA:=bif (decide (d < g))then ((idx f d).bind fun k=>bif (decide (k < 0))then (ZtH e a f g d true t h b c)else ((ZtZ t).bind fun q=>ZtH e a f g d (decide (k>=q)) t h b c))else (some (.brk (a,t,h,b,c)))
def Zrl:Nat->ZnG->ZnG->Int->Int->G_api_Table->Int->Str->Zo4->ZQA
 |0,_,_,_,_,_,_,_,_=>none
 |n_+1,rows,t18,t19,t20,t,t4,t4_1,t4_2=>Zsv (Zrl n_) rows t18 t19 t20 t t4 t4_1 t4_2
def ZAj (n:Nat) (s:(ZnG×ZnG×Int×Int×G_api_Table×Int×Str×Zo4)):ZQA:=Zrl n s.1 s.2.1 s.2.2.1 s.2.2.2.1 s.2.2.2.2.1 s.2.2.2.2.2.1 s.2.2.2.2.2.2.1 s.2.2.2.2.2.2.2
def Zwa (a:(ZnG×ZnG×Int×Int×G_api_Table×Int×Str×Zo4)->ZQA) (s:(ZnG×ZnG×Int×Int×G_api_Table×Int×Str×Zo4)):ZQA:=Zsv (fun b e f g t h c d=>a (b,e,f,g,t,h,c,d)) s.1 s.2.1 s.2.2.1 s.2.2.2.1 s.2.2.2.2.1 s.2.2.2.2.2.1 s.2.2.2.2.2.2.1 s.2.2.2.2.2.2.2
theorem ZDH:∀n s,ZAj (n+1) s=Zwa (ZAj n) s:=fun _ _=>rfl
def ZvN (t:G_api_Table) (a:ZnG):ZKt:=(Zpf t).bind fun q=>bif (!q)then (some ((G_api_Table.mk 0 ([]:Str) ([]:Zo4)),1))else ((Zrl big a a (a.length:Int) (0:Int) t (0:Int) ([]:Str) ([]:Zo4)).bind fun
 | .ret b=>some b
 | .brk (x0,x1,x2,x3,x4)=>Zxf x0 x1 x2 x3 x4)
def ZyQ (t:G_api_Table) (o:ZnQ):Option G_api_Table:=bif (o.Kind == 3)then ((ZuS t o.Columns).bind fun(c,q)=>some c)else ((Zw7 t o).bind fun b=>(ZvN t b).bind fun(a,d)=>some a)
def Zyy (f:Int) (e:Str) (c:Int) (a:Str) (d b:Zo4):Option G_api_Table:=some (G_api_Table.mk c a b)
def Zty (h:Zo4->Int->Int->Int->Str->Int->Str->Zo4->Zo4->ZHz) (g:Zo4) (j d k:Int) (f:Str) (i:Int) (b:Str) (e a:Zo4):ZHz:=bif (decide (d < j))then ((idx g d).bind fun c=>chk (ZiZ c.Cells.length 24) <|chk (ZiZ (a.length+([c]:Zo4).length) 40) <|chk (inK .i64 (d+1)) <|h g j (d+1) k f i b e (a++([c]:Zo4)))else (some (k,f,i,b,e,a))
def ZuN:Nat->Zo4->Int->Int->Int->Str->Int->Str->Zo4->Zo4->ZHz
 |0,_,_,_,_,_,_,_,_,_=>none
 |n_+1,t12,t13,t14,t2,t2_1,out,out_1,t2_2,out_2=>Zty (ZuN n_) t12 t13 t14 t2 t2_1 out out_1 t2_2 out_2
def ZA2 (n:Nat) (s:(Zo4×Int×Int×Int×Str×Int×Str×Zo4×Zo4)):ZHz:=ZuN n s.1 s.2.1 s.2.2.1 s.2.2.2.1 s.2.2.2.2.1 s.2.2.2.2.2.1 s.2.2.2.2.2.2.1 s.2.2.2.2.2.2.2.1 s.2.2.2.2.2.2.2.2
def Zw8 (e:(Zo4×Int×Int×Int×Str×Int×Str×Zo4×Zo4)->ZHz) (s:(Zo4×Int×Int×Int×Str×Int×Str×Zo4×Zo4)):ZHz:=Zty (fun g i f j d h a c b=>e (g,i,f,j,d,h,a,c,b)) s.1 s.2.1 s.2.2.1 s.2.2.2.1 s.2.2.2.2.1 s.2.2.2.2.2.1 s.2.2.2.2.2.2.1 s.2.2.2.2.2.2.2.1 s.2.2.2.2.2.2.2.2
theorem ZEf:∀n s,ZA2 (n+1) s=Zw8 (ZA2 n) s:=fun _ _=>rfl
def ZtR (t:G_api_Table):Option G_api_Table:=(ZuN big t.Columns (t.Columns.length:Int) (0:Int) (0:Int) ([]:Str) t.ID t.Name ([]:Zo4) ([]:Zo4)).bind fun(x0,x1,x2,x3,x4,x5)=>Zyy x0 x1 x2 x3 x4 x5
def Zy7 (t:G_api_Table) (c:Int) (b:Str) (a:Zo4):ZKt:=(ZtR t).bind fun q=>some (q,0)
def ZtQ (e:(List ZnQ)->Int->Int->G_api_Table->Int->Str->Zo4->ZLR) (d:(List ZnQ)) (f a:Int) (t:G_api_Table) (h:Int) (b:Str) (c:Zo4):ZLR:=bif (decide (a < f))then ((idx d a).bind fun o=>(Zyd t o).bind fun q=>bif (!q)then (some (.ret ((G_api_Table.mk 0 ([]:Str) ([]:Zo4)),24)))else ((ZyQ t o).bind fun g=>chk (inK .i64 (a+1)) <|e d f (a+1) g h b c))else (some (.brk (t,h,b,c)))
def ZvF:Nat->(List ZnQ)->Int->Int->G_api_Table->Int->Str->Zo4->ZLR
 |0,_,_,_,_,_,_,_=>none
 |n_+1,t18,t19,t20,t,t4,t4_1,t4_2=>ZtQ (ZvF n_) t18 t19 t20 t t4 t4_1 t4_2
def ZBo (n:Nat) (s:((List ZnQ)×Int×Int×G_api_Table×Int×Str×Zo4)):ZLR:=ZvF n s.1 s.2.1 s.2.2.1 s.2.2.2.1 s.2.2.2.2.1 s.2.2.2.2.2.1 s.2.2.2.2.2.2
def ZxG (a:((List ZnQ)×Int×Int×G_api_Table×Int×Str×Zo4)->ZLR) (s:((List ZnQ)×Int×Int×G_api_Table×Int×Str×Zo4)):ZLR:=ZtQ (fun d e f t g b c=>a (d,e,f,t,g,b,c)) s.1 s.2.1 s.2.2.1 s.2.2.2.1 s.2.2.2.2.1 s.2.2.2.2.2.1 s.2.2.2.2.2.2
theorem ZEz:∀n s,ZBo (n+1) s=ZxG (ZBo n) s:=fun _ _=>rfl
def Zye (t:G_api_Table) (l:(List ZnQ)):ZKt:=bif (decide ((l.length:Int) > 5))then (some ((G_api_Table.mk 0 ([]:Str) ([]:Zo4)),3))else ((Zpf t).bind fun q=>bif (!q)then (some ((G_api_Table.mk 0 ([]:Str) ([]:Zo4)),1))else ((ZvF big l (l.length:Int) (0:Int) t (0:Int) ([]:Str) ([]:Zo4)).bind fun
 | .ret a=>some a
 | .brk (x0,x1,x2,x3)=>Zy7 x0 x1 x2 x3))
def Zx2 (e:Int) (d:ZnC) (t:G_api_Table) (f:Int) (c:Str) (b:Zo4):ZMS:=(ZtR t).bind fun a=>some ((G_api_Table.mk e a.Name a.Columns),d)
def Zuf (a:ZT8) (f k:Int) (d:ZnC) (t:G_api_Table) (e:Int) (c:Str) (b:Zo4):ZQx:=chk (inK .i64 (k - 1)) <|a f (k - 1) d t e c b
def ZwN (c:ZT8) (h k:Int) (d:ZnC) (t:G_api_Table) (g:Int) (b:Str) (a:Zo4):ZQx:=bif (decide (k > 0))then ((Zx1 d t).bind fun(q,f)=>(Zye t ([q]:(List ZnQ))).bind fun(i,e)=>bif (e == 0)then (Zuf c h k f i g b a)else (Zuf c h k f t g b a))else (some (h,d,t,g,b,a))
def ZrH:Nat->Int->Int->ZnC->G_api_Table->Int->Str->Zo4->ZQx
 |0,_,_,_,_,_,_,_=>none
 |n_+1,id,k,d,t,t6,t6_1,t6_2=>ZwN (ZrH n_) id k d t t6 t6_1 t6_2
def ZAH (n:Nat) (s:(Int×Int×ZnC×G_api_Table×Int×Str×Zo4)):ZQx:=ZrH n s.1 s.2.1 s.2.2.1 s.2.2.2.1 s.2.2.2.2.1 s.2.2.2.2.2.1 s.2.2.2.2.2.2
def ZAI (a:(Int×Int×ZnC×G_api_Table×Int×Str×Zo4)->ZQx) (s:(Int×Int×ZnC×G_api_Table×Int×Str×Zo4)):ZQx:=ZwN (fun f k d t e c b=>a (f,k,d,t,e,c,b)) s.1 s.2.1 s.2.2.1 s.2.2.2.1 s.2.2.2.2.1 s.2.2.2.2.2.1 s.2.2.2.2.2.2
theorem ZDX:∀n s,ZAH (n+1) s=ZAI (ZAH n) s:=fun _ _=>rfl
def Ztr (d:ZnC) (t:G_api_Table) (i:Int):ZMS:=(ZnL d 3).bind fun(k,a)=>(ZrH big i k a t (0:Int) ([]:Str) ([]:Zo4)).bind fun(f,h,e,g,b,c)=>Zx2 f h e g b c
def ZyI (d:ZnC) (l:ZrM):ZTD:=some (l,d)
def Zsb (a:ZQN) (b k:Int) (d:ZnC) (l:ZrM) (t:G_api_Table):ZJU:=chk (ZiZ (l.length+([t]:ZrM).length) 48) <|chk (inK .i64 (k - 1)) <|a b (k - 1) d (l++([t]:ZrM))
def ZuX (a:ZQN) (h k:Int) (b:Bool) (d:ZnC) (l:ZrM) (t:G_api_Table):ZJU:=bif b then ((ZnL d (l.length:Int)).bind fun(q,f)=>chk (inR q (l.length:Int)) <|(l[(q).toNat]?).bind fun c=>(Ztr f c h).bind fun(e,g)=>Zsb a h k g l e)else (Zsb a h k d l t)
def Zxm (a:ZQN) (c k:Int) (d:ZnC) (l:ZrM):ZJU:=bif (decide (k > 0))then ((ZnL d 2).bind fun(q,g)=>chk (inK .i64 (1+q)) <|chk (inK .i64 (c+(1+q))) <|(Zu7 g (c+(1+q))).bind fun(t,b)=>bif (decide ((l.length:Int) > 0))then ((ZnL b 4).bind fun(f,e)=>ZuX a (c+(1+q)) k (f == 0) e l t)else (ZuX a (c+(1+q)) k false b l t))else (some (d,l))
def Zqx:Nat->Int->Int->ZnC->ZrM->ZJU
 |0,_,_,_,_=>none
 |n_+1,id,k,d,l=>Zxm (Zqx n_) id k d l
def ZBa (n:Nat) (s:(Int×Int×ZnC×ZrM)):ZJU:=Zqx n s.1 s.2.1 s.2.2.1 s.2.2.2
def ZBb (a:(Int×Int×ZnC×ZrM)->ZJU) (s:(Int×Int×ZnC×ZrM)):ZJU:=Zxm (fun b k d l=>a (b,k,d,l)) s.1 s.2.1 s.2.2.1 s.2.2.2
theorem ZEj:∀n s,ZBa (n+1) s=ZBb (ZBa n) s:=fun _ _=>rfl
def Zud (d:ZnC) (most:Int):ZTD:=(ZnL d 2).bind fun(f,b)=>(ZnL b most).bind fun(q,a)=>chk (inK .i64 (1+q)) <|(Zqx big f (1+q) a ([]:ZrM)).bind fun(c,e)=>ZyI c e
def ZGb (s:Str):Option Bool:=(Zpo s).bind fun q=>some q
def ZDa (a:Bool):Option Bool:=some a
def ZCX (s:Str):Option Bool:=bif (decide ((s.length:Int)<=1024))then ((ZGb s).bind fun q=>ZDa q)else (ZDa false)
def ZDY (t:G_api_Table):Option Int:=bif ((t.Columns.length:Int) == 0)then (some (0:Int))else ((idx t.Columns 0).bind fun Column=>some (Column.Cells.length:Int))
def ZwU (a:Bool):Option Bool:=some a
def ZB3 (c:G_api_Cell):Option Bool:=(ZCX c.Text).bind fun q=>bif q then (bif c.Null then (ZwU (!(!(c.Text == ([]:Str)))))else (ZwU true))else (ZwU false)
def Zzr:Option Bool:=some true
def Zug (a:ZCe->Int->Int->Zvi) (c:ZCe) (d b:Int):Zvi:=bif (decide (b < d))then ((idx c b).bind fun e=>(ZB3 e).bind fun q=>bif (!q)then (some (.ret false))else (chk (inK .i64 (b+1)) <|a c d (b+1)))else (some (.brk ()))
def ZvY:Nat->ZCe->Int->Int->Zvi
 |0,_,_,_=>none
 |n_+1,t7,t8,t9=>Zug (ZvY n_) t7 t8 t9
def Zyl (l:ZCe):Option Bool:=(ZvY big l (l.length:Int) (0:Int)).bind fun
 | .ret a=>some a
 | .brk ()=>Zzr
def ZyS (a:Bool):Option Bool:=some a
def ZDb (c:G_api_Column) (d:G_api_Table):Option Bool:=(ZCX c.Name).bind fun q=>bif (!q)then (ZyS true)else ((ZDY d).bind fun a=>bif ((c.Cells.length:Int) != a)then (ZyS true)else ((Zyl c.Cells).bind fun b=>ZyS (!b)))
def ZqP:Option Int:=some (-1:Int)
def Zqh (a:Zo4->G_api_Table->Int->Int->ZGZ) (s:Zo4) (f:G_api_Table) (c i:Int):ZGZ:=bif (decide (i < c))then ((idx s i).bind fun b=>(ZDb b f).bind fun q=>bif q then (some (.ret i))else (chk (inK .i64 (i+1)) <|a s f c (i+1)))else (some (.brk ()))
def ZoZ:Nat->Zo4->G_api_Table->Int->Int->ZGZ
 |0,_,_,_,_=>none
 |n_+1,s,f,t7,i=>Zqh (ZoZ n_) s f t7 i
def Zru (s:Zo4) (c:G_api_Table):Option Int:=(ZoZ big s c (s.length:Int) (0:Int)).bind fun
 | .ret a=>some a
 | .brk ()=>ZqP
def Zo0 (s:Zo4) (c:G_api_Table):Option Bool:=(Zru s c).bind fun q=>some (decide (q>=0))
def ZwO (a:Bool) (t:G_api_Table):Option Bool:=bif a then (some false)else ((Zo0 t.Columns t).bind fun q=>some (!q))
def ZEL (t:G_api_Table):Option Bool:=bif (decide (t.ID < 0))then (ZwO true t)else (bif (decide (t.ID > 1073741824))then (ZwO true t)else ((ZCX t.Name).bind fun q=>bif (!q)then (ZwO true t)else (bif (decide ((t.Columns.length:Int) > 64))then (ZwO true t)else ((ZDY t).bind fun a=>ZwO (decide (a > 4096)) t))))
def ZyK:Option Bool:=some true
def ZtL (a:ZrM->Int->Int->Zvi) (c:ZrM) (d b:Int):Zvi:=bif (decide (b < d))then ((idx c b).bind fun e=>(ZEL e).bind fun q=>bif (!q)then (some (.ret false))else (chk (inK .i64 (b+1)) <|a c d (b+1)))else (some (.brk ()))
def ZuY:Nat->ZrM->Int->Int->Zvi
 |0,_,_,_=>none
 |n_+1,t7,t8,t9=>ZtL (ZuY n_) t7 t8 t9
def ZBd (n:Nat) (s:(ZrM×Int×Int)):Zvi:=ZuY n s.1 s.2.1 s.2.2
def Zxo (a:(ZrM×Int×Int)->Zvi) (s:(ZrM×Int×Int)):Zvi:=ZtL (fun c d b=>a (c,d,b)) s.1 s.2.1 s.2.2
theorem ZEl:∀n s,ZBd (n+1) s=Zxo (ZBd n) s:=fun _ _=>rfl
def Zxp (l:ZrM):Option Bool:=(ZuY big l (l.length:Int) (0:Int)).bind fun
 | .ret a=>some a
 | .brk ()=>ZyK
def ZzI (a:Bool):Option Bool:=some a
def ZCn (l:ZrM):Option Bool:=bif (decide ((l.length:Int)<=1024))then ((Zxp l).bind fun q=>ZzI q)else (ZzI false)
def ZAT (b:ZrM->Int->ZHx) (l:ZrM) (i:Int):ZHx:=bif (decide (i < (l.length:Int)))then (chk (inK .i64 (i - 1)) <|(idx l (i - 1)).bind fun c=>(idx l i).bind fun a=>bif (decide (c.ID>=a.ID))then (some (.ret false))else (chk (inK .i64 (i+1)) <|b l (i+1)))else (some (.brk l))
def ZzH:Nat->ZrM->Int->ZHx
 |0,_,_=>none
 |n_+1,l,i=>ZAT (ZzH n_) l i
def ZDB (n:Nat) (s:(ZrM×Int)):ZHx:=ZzH n s.1 s.2
def ZDC (a:(ZrM×Int)->ZHx) (s:(ZrM×Int)):ZHx:=ZAT (fun l i=>a (l,i)) s.1 s.2
theorem ZFU:∀n s,ZDB (n+1) s=ZDC (ZDB n) s:=fun _ _=>rfl
def ZB2 (l:ZrM):Option Bool:=(ZzH big l (1:Int)).bind fun
 | .ret b=>some b
 | .brk a=>ZCn a
def ZxD (l:ZrM):Option Bool:=(ZB2 l).bind fun q=>some q
def ZE5 (a b:ZnB):Option (ZnI×ZnI):=(ZoR a.Num b.Den).bind fun q=>(ZoR b.Num a.Den).bind fun d=>(ZAO q d).bind fun c=>(ZoR a.Den b.Den).bind fun e=>some (c,e)
def Zsx (e:Bool) (a b:ZnB) (j i:Bool) (h g:ZnG):ZFO:=bif e then (some ((ZnB.mk (ZnI.mk false ([]:ZnG)) (ZnI.mk false ([]:ZnG))),1))else ((ZE5 a b).bind fun(d,c)=>bif ((c.Words.length:Int) == 0)then (some ((ZnB.mk (ZnI.mk false ([]:ZnG)) (ZnI.mk false ([]:ZnG))),8))else ((Zuy d c).bind fun f=>bif (decide ((if (f.Den.Words.length:Int) > (f.Num.Words.length:Int)then (f.Den.Words.length:Int)else (f.Num.Words.length:Int)) > 256))then (some ((ZnB.mk (ZnI.mk false ([]:ZnG)) (ZnI.mk false ([]:ZnG))),3))else (some (f,0))))
def ZrL (a b:ZnB):ZFO:=(Zte a).bind fun q=>bif (!q)then (Zsx true a b false false ([]:ZnG) ([]:ZnG))else ((Zte b).bind fun c=>Zsx (!c) a b false false ([]:ZnG) ([]:ZnG))
def ZCK (a b:ZnB):ZFO:=(Zte b).bind fun q=>bif (!q)then (some ((ZnB.mk (ZnI.mk false ([]:ZnG)) (ZnI.mk false ([]:ZnG))),1))else ((Zvy b.Num).bind fun c=>(ZrL a (ZnB.mk c b.Den)).bind fun(e,d)=>some (e,d))
def ZGR (f:ZnB) (a:Int):Option ZnB:=some f
def ZFC (a b:ZnB):Option ZnB:=(ZCK a b).bind fun(q,c)=>(ZGR q c).bind fun d=>some d
def ZGA (a:ZnB):Option Int:=(ZEQ).bind fun q=>(ZxA a q).bind fun b=>some b
def ZCL (f:ZnB):Option Bool:=(ZGA f).bind fun q=>some (decide (q > 0))
def ZFw (a b:ZnB):Option Int:=(ZxA b a).bind fun q=>some q
def ZE6 (a:Int):Option Int:=some a
def ZvB (b:Int->ZnG->Int->Int->ZJQ) (a:Int) (f:ZnG) (e d:Int):ZJQ:=bif (decide (d < e))then ((idx f d).bind fun c=>bif (c != a)then (some (.ret c))else (chk (inK .i64 (d+1)) <|b a f e (d+1)))else (some (.brk a))
def ZBY:Nat->Int->ZnG->Int->Int->ZJQ
 |0,_,_,_,_=>none
 |n_+1,zero,t6,t7,t8=>ZvB (ZBY n_) zero t6 t7 t8
def ZD6 (a:ZnG):Option Int:=(ZBY big (0:Int) a (a.length:Int) (0:Int)).bind fun
 | .ret c=>some c
 | .brk b=>ZE6 b
def ZDZ (a b:ZpV):Option Bool:=(Ztv a.Table b.Table).bind fun q=>(Ztv a.Column b.Column).bind fun c=>(ZD6 ([q,c]:ZnG)).bind fun d=>some (decide (d < 0))
def ZFi (a b:ZpV):Option Int:=(ZDZ a b).bind fun q=>bif q then (some (-1:Int))else ((ZDZ b a).bind fun c=>bif c then (some (1:Int))else (some (0:Int)))
def ZoG (a b:Zoi):Option Int:=(ZFw a.Score b.Score).bind fun q=>(ZFi a.Ref b.Ref).bind fun c=>(ZD6 ([q,c]:ZnG)).bind fun d=>some d
def Zrr (a:ZnT):Option ZnT:=some a
def Zrs (d:ZQL) (a b i:Int) (c:ZnT):Option ZnT:=chk (inK .i64 (i+1)) <|d a b (i+1) c
def Zpn (f:ZQK) (a b i j:Int) (g:Bool) (c:ZnT):Zzx:=bif g then (chk (inK .i64 (j - 1)) <|chk (inK .i64 (j - 1)) <|chk (inR (j - 1) (c.length:Int)) <|(c[((j - 1)).toNat]?).bind fun d=>chk (inR j (c.length:Int)) <|(c[(j).toNat]?).bind fun e=>chk (inR j (c.length:Int)) <|chk (inR (j - 1) ((c.set ((j).toNat) d).length:Int)) <|chk (inK .i64 (j - 1)) <|f a b i (j - 1) ((c.set ((j).toNat) d).set (((j - 1)).toNat) e))else (some (a,b,i,c))
def ZqZ (f:ZQK) (a b i j:Int) (c:ZnT):Zzx:=bif (decide (j > a))then (chk (inR j (c.length:Int)) <|(c[(j).toNat]?).bind fun e=>chk (inK .i64 (j - 1)) <|chk (inR (j - 1) (c.length:Int)) <|(c[((j - 1)).toNat]?).bind fun d=>(ZoG e d).bind fun q=>Zpn f a b i j (decide (q < 0)) c)else (Zpn f a b i j false c)
def Zn9:Nat->Int->Int->Int->Int->ZnT->Zzx
 |0,_,_,_,_,_=>none
 |n_+1,a,b,i,j,data=>ZqZ (Zn9 n_) a b i j data
def ZuB (n:Nat) (s:(Int×Int×Int×Int×ZnT)):Zzx:=Zn9 n s.1 s.2.1 s.2.2.1 s.2.2.2.1 s.2.2.2.2
def ZuC (d:ZTQ) (s:(Int×Int×Int×Int×ZnT)):Zzx:=ZqZ (fun a b i j c=>d (a,b,i,j,c)) s.1 s.2.1 s.2.2.1 s.2.2.2.1 s.2.2.2.2
theorem ZAn:∀n s,ZuB (n+1) s=ZuC (ZuB n) s:=fun _ _=>rfl
def Zon (d:ZQL) (a b i:Int) (c:ZnT):Option ZnT:=bif (decide (i < b))then ((Zn9 big a b i i c).bind fun(f,h,e,g)=>Zrs d f h e g)else (some c)
def Zov:Nat->Int->Int->Int->ZnT->Option ZnT
 |0,_,_,_,_=>none
 |n_+1,a,b,i,data=>Zon (Zov n_) a b i data
def Zp0 (c:ZnT) (a b:Int):Option ZnT:=chk (inK .i64 (a+1)) <|(Zov big a b (a+1) c).bind fun d=>Zrr d
def ZoF (c:ZnT) (a b:Int):Option ZnT:=(Zp0 c a b).bind fun r=>chk (decide (r.length=c.length)&&true) (some r)
def Ztk (a:ZnT):Option ZnT:=some a
def Zo9 (i:ZQJ) (hi a d b:Int) (c:ZnT):ZJR:=chk (inK .i64 (a+d)) <|chk (inR (a+d) (c.length:Int)) <|(c[((a+d)).toNat]?).bind fun h=>chk (inK .i64 (a+b)) <|chk (inR (a+b) (c.length:Int)) <|(c[((a+b)).toNat]?).bind fun g=>(ZoG h g).bind fun q=>bif (!(decide (q < 0)))then (some (.ret c))else (chk (inK .i64 (a+d)) <|chk (inK .i64 (a+b)) <|chk (inK .i64 (a+b)) <|chk (inR (a+b) (c.length:Int)) <|(c[((a+b)).toNat]?).bind fun e=>chk (inK .i64 (a+d)) <|chk (inR (a+d) (c.length:Int)) <|(c[((a+d)).toNat]?).bind fun f=>chk (inR (a+d) (c.length:Int)) <|chk (inR (a+b) ((c.set (((a+d)).toNat) e).length:Int)) <|i hi a b ((c.set (((a+d)).toNat) e).set (((a+b)).toNat) f))
def ZqF (d:ZQJ) (hi b e a:Int) (f:Bool) (c:ZnT):ZJR:=bif f then (chk (inK .i64 (a+1)) <|Zo9 d hi b e (a+1) c)else (Zo9 d hi b e a c)
def ZoW (f:ZQJ) (hi b a:Int) (c:ZnT):ZJR:=chk (inK .i64 (2*a)) <|chk (inK .i64 ((2*a)+1)) <|bif (decide (((2*a)+1)>=hi))then (some (.brk c))else (chk (inK .i64 (((2*a)+1)+1)) <|bif (decide ((((2*a)+1)+1) < hi))then (chk (inK .i64 (b+((2*a)+1))) <|chk (inR (b+((2*a)+1)) (c.length:Int)) <|(c[((b+((2*a)+1))).toNat]?).bind fun e=>chk (inK .i64 (b+((2*a)+1))) <|chk (inK .i64 ((b+((2*a)+1))+1)) <|chk (inR ((b+((2*a)+1))+1) (c.length:Int)) <|(c[(((b+((2*a)+1))+1)).toNat]?).bind fun d=>(ZoG e d).bind fun q=>ZqF f hi b a ((2*a)+1) (decide (q < 0)) c)else (ZqF f hi b a ((2*a)+1) false c))
def Zot:Nat->Int->Int->Int->ZnT->ZJR
 |0,_,_,_,_=>none
 |n_+1,hi,first,root,data=>ZoW (Zot n_) hi first root data
def ZwV (n:Nat) (s:(Int×Int×Int×ZnT)):ZJR:=Zot n s.1 s.2.1 s.2.2.1 s.2.2.2
def ZwW (c:(Int×Int×Int×ZnT)->ZJR) (s:(Int×Int×Int×ZnT)):ZJR:=ZoW (fun hi a d b=>c (hi,a,d,b)) s.1 s.2.1 s.2.2.1 s.2.2.2
theorem ZB4:∀n s,ZwV (n+1) s=ZwW (ZwV n) s:=fun _ _=>rfl
def Zrx (b:ZnT) (lo hi a:Int):Option ZnT:=(Zot big hi a lo b).bind fun
 | .ret c=>some c
 | .brk d=>Ztk d
def ZoA (a:ZnT) (lo hi b:Int):Option ZnT:=(Zrx a lo hi b).bind fun r=>chk (decide (r.length=a.length)&&true) (some r)
def Ztl (a:ZnT):Option ZnT:=some a
def Zsm (e:ZQL) (a lo i:Int) (b:ZnT):Option ZnT:=bif (decide (i>=0))then (chk (inK .i64 (a+i)) <|chk (inK .i64 (a+i)) <|chk (inR (a+i) (b.length:Int)) <|(b[((a+i)).toNat]?).bind fun c=>chk (inR a (b.length:Int)) <|(b[(a).toNat]?).bind fun d=>chk (inR a (b.length:Int)) <|chk (inR (a+i) ((b.set ((a).toNat) c).length:Int)) <|(ZoA ((b.set ((a).toNat) c).set (((a+i)).toNat) d) lo i a).bind fun f=>chk (inK .i64 (i - 1)) <|e a lo (i - 1) f)else (some b)
def ZqK:Nat->Int->Int->Int->ZnT->Option ZnT
 |0,_,_,_,_=>none
 |n_+1,first,lo,i,data=>Zsm (ZqK n_) first lo i data
def ZwX (n:Nat) (s:(Int×Int×Int×ZnT)):Option ZnT:=ZqK n s.1 s.2.1 s.2.2.1 s.2.2.2
def ZwY (c:(Int×Int×Int×ZnT)->Option ZnT) (s:(Int×Int×Int×ZnT)):Option ZnT:=Zsm (fun a lo i b=>c (a,lo,i,b)) s.1 s.2.1 s.2.2.1 s.2.2.2
theorem ZB5:∀n s,ZwX (n+1) s=ZwY (ZwX n) s:=fun _ _=>rfl
def Ztm (a lo hi:Int) (b:ZnT):Option ZnT:=chk (inK .i64 (hi - 1)) <|(ZqK big a lo (hi - 1) b).bind fun c=>Ztl c
def Zsn (c:ZQK) (a lo hi i:Int) (b:ZnT):Zzx:=bif (decide (i>=0))then ((ZoA b i hi a).bind fun d=>chk (inK .i64 (i - 1)) <|c a lo hi (i - 1) d)else (some (a,lo,hi,b))
def ZqL:Nat->Int->Int->Int->Int->ZnT->Zzx
 |0,_,_,_,_,_=>none
 |n_+1,first,lo,hi,i,data=>Zsn (ZqL n_) first lo hi i data
def ZwZ (n:Nat) (s:(Int×Int×Int×Int×ZnT)):Zzx:=ZqL n s.1 s.2.1 s.2.2.1 s.2.2.2.1 s.2.2.2.2
def Zw0 (c:ZTQ) (s:(Int×Int×Int×Int×ZnT)):Zzx:=Zsn (fun a lo hi i b=>c (a,lo,hi,i,b)) s.1 s.2.1 s.2.2.1 s.2.2.2.1 s.2.2.2.2
theorem ZB6:∀n s,ZwZ (n+1) s=Zw0 (ZwZ n) s:=fun _ _=>rfl
def Zry (c:ZnT) (a b:Int):Option ZnT:=chk (inK .i64 (b - a)) <|chk (inK .i64 ((b - a) - 1)) <|chk (decide ((2:Int)≠0)) <|chk (inK .i64 (Int.tdiv ((b - a) - 1) 2)) <|(ZqL big a (0:Int) (b - a) (Int.tdiv ((b - a) - 1) 2) c).bind fun(e,g,d,f)=>Ztm e g d f
def Zq1 (c:ZnT) (a b:Int):Option ZnT:=(Zry c a b).bind fun r=>chk (decide (r.length=c.length)&&true) (some r)
def Zxq (a:Int):Option Int:=(Zz3 (IntKind.wrap .u64 a)).bind fun q=>chk (decide (0<=q)) <|some (shlK .u64 1 q)
def Zvb (a:Int):ZHv:=chk (decide (0<=(13:Int))) <|chk (decide (0<=(7:Int))) <|chk (decide (0<=(17:Int))) <|some ((xorK .u64 (xorK .u64 (xorK .u64 a (shlK .u64 a 13)) (shrK .u64 (xorK .u64 a (shlK .u64 a 13)) 7)) (shlK .u64 (xorK .u64 (xorK .u64 a (shlK .u64 a 13)) (shrK .u64 (xorK .u64 a (shlK .u64 a 13)) 7)) 17)),(xorK .u64 (xorK .u64 (xorK .u64 a (shlK .u64 a 13)) (shrK .u64 (xorK .u64 a (shlK .u64 a 13)) 7)) (shlK .u64 (xorK .u64 (xorK .u64 a (shlK .u64 a 13)) (shrK .u64 (xorK .u64 a (shlK .u64 a 13)) 7)) 17)))
def Zrt (a:ZnT):Option ZnT:=some a
def Zox (j:ZTZ) (a i g d b:Int) (c:ZnT) (h:Int):Option ZnT:=chk (inK .i64 (a+b)) <|chk (inK .i64 (a+b)) <|chk (inR (a+b) (c.length:Int)) <|(c[((a+b)).toNat]?).bind fun e=>chk (inR d (c.length:Int)) <|(c[(d).toNat]?).bind fun f=>chk (inR d (c.length:Int)) <|chk (inR (a+b) ((c.set ((d).toNat) e).length:Int)) <|chk (inK .i64 (d+1)) <|j a i g (d+1) ((c.set ((d).toNat) e).set (((a+b)).toNat) f) h
def Zq0 (h:ZTZ) (a b c f:Int) (e:ZnT) (g:Int):Option ZnT:=chk (decide ((4:Int)≠0)) <|chk (inK .i64 (Int.tdiv b 4)) <|chk (inK .i64 ((Int.tdiv b 4)*2)) <|chk (inK .i64 (a+((Int.tdiv b 4)*2))) <|chk (inK .i64 ((a+((Int.tdiv b 4)*2))+1)) <|bif (decide (f<=((a+((Int.tdiv b 4)*2))+1)))then ((Zvb g).bind fun(q,d)=>bif (decide ((IntKind.wrap .i64 (andK .u64 q (IntKind.wrap .u64 (c - 1))))>=b))then (chk (inK .i64 ((IntKind.wrap .i64 (andK .u64 q (IntKind.wrap .u64 (c - 1)))) - b)) <|Zox h a b c f ((IntKind.wrap .i64 (andK .u64 q (IntKind.wrap .u64 (c - 1)))) - b) e d)else (Zox h a b c f (IntKind.wrap .i64 (andK .u64 q (IntKind.wrap .u64 (c - 1)))) e d))else (some e)
def Zow:Nat->Int->Int->Int->Int->ZnT->Int->Option ZnT
 |0,_,_,_,_,_,_=>none
 |n_+1,a,length,modulus,idx_,data,random=>Zq0 (Zow n_) a length modulus idx_ data random
def ZuD (n:Nat) (s:(Int×Int×Int×Int×ZnT×Int)):Option ZnT:=Zow n s.1 s.2.1 s.2.2.1 s.2.2.2.1 s.2.2.2.2.1 s.2.2.2.2.2
def ZuE (f:(Int×Int×Int×Int×ZnT×Int)->Option ZnT) (s:(Int×Int×Int×Int×ZnT×Int)):Option ZnT:=Zq0 (fun a d b g e c=>f (a,d,b,g,e,c)) s.1 s.2.1 s.2.2.1 s.2.2.2.1 s.2.2.2.2.1 s.2.2.2.2.2
theorem ZAo:∀n s,ZuD (n+1) s=ZuE (ZuD n) s:=fun _ _=>rfl
def Zp2 (d:ZnT) (a b:Int):Option ZnT:=chk (inK .i64 (b - a)) <|bif (decide ((b - a)>=8))then ((Zxq (b - a)).bind fun c=>chk (decide ((4:Int)≠0)) <|chk (inK .i64 (Int.tdiv (b - a) 4)) <|chk (inK .i64 ((Int.tdiv (b - a) 4)*2)) <|chk (inK .i64 (a+((Int.tdiv (b - a) 4)*2))) <|chk (inK .i64 ((a+((Int.tdiv (b - a) 4)*2)) - 1)) <|(Zow big a (b - a) c ((a+((Int.tdiv (b - a) 4)*2)) - 1) d (IntKind.wrap .u64 (b - a))).bind fun e=>Zrt e)else (some d)
def ZpC (c:ZnT) (a b:Int):Option ZnT:=(Zp2 c a b).bind fun r=>chk (decide (r.length=c.length)&&true) (some r)
def Zwe (c:ZnT) (a b d:Int):ZTC:=chk (inR b (c.length:Int)) <|(c[(b).toNat]?).bind fun f=>chk (inR a (c.length:Int)) <|(c[(a).toNat]?).bind fun e=>(ZoG f e).bind fun q=>bif (decide (q < 0))then (chk (inK .i64 (d+1)) <|some (b,a,c,(d+1)))else (some (a,b,c,d))
def ZoX (c:ZnT) (a b d:Int):ZTC:=(Zwe c a b d).bind fun r=>chk (decide (r.2.2.1.length=c.length)&&true) (some r)
def Zwf (e:ZnT) (a b c d:Int):ZOg:=(ZoX e a b d).bind fun(o,i,f,m)=>(ZoX f i c m).bind fun(j,q,h,l)=>(ZoX h o j l).bind fun(p,k,g,n)=>some (k,g,n)
def ZpT (d:ZnT) (a b c e:Int):ZOg:=(Zwf d a b c e).bind fun r=>chk (decide (r.2.1.length=d.length)&&true) (some r)
def ZrZ (c:ZnT) (a b:Int):ZOg:=chk (inK .i64 (a - 1)) <|chk (inK .i64 (a+1)) <|(ZpT c (a - 1) a (a+1) b).bind fun(q,e,d)=>some (q,e,d)
def Zn8 (b:ZnT) (a c:Int):ZOg:=(ZrZ b a c).bind fun r=>chk (decide (r.2.1.length=b.length)&&true) (some r)
def ZoO (j:Int) (a:ZnT) (b:Int):ZHN:=bif (b == 0)then (some (j,1,a))else (bif (b == 12)then (some (j,2,a))else (some (j,0,a)))
def ZoP (i j k:Int) (c:ZnT) (b:Int):ZHN:=(ZpT c i j k b).bind fun(e,d,a)=>ZoO e d a
def ZqM (d:ZnT) (a b:Int):ZHN:=chk (inK .i64 (b - a)) <|chk (decide ((4:Int)≠0)) <|chk (inK .i64 (Int.tdiv (b - a) 4)) <|chk (inK .i64 ((Int.tdiv (b - a) 4)*1)) <|chk (inK .i64 (a+((Int.tdiv (b - a) 4)*1))) <|chk (decide ((4:Int)≠0)) <|chk (inK .i64 (Int.tdiv (b - a) 4)) <|chk (inK .i64 ((Int.tdiv (b - a) 4)*2)) <|chk (inK .i64 (a+((Int.tdiv (b - a) 4)*2))) <|chk (decide ((4:Int)≠0)) <|chk (inK .i64 (Int.tdiv (b - a) 4)) <|chk (inK .i64 ((Int.tdiv (b - a) 4)*3)) <|chk (inK .i64 (a+((Int.tdiv (b - a) 4)*3))) <|bif (decide ((b - a)>=8))then (bif (decide ((b - a)>=50))then ((Zn8 d (a+((Int.tdiv (b - a) 4)*1)) 0).bind fun(i,l,f)=>(Zn8 l (a+((Int.tdiv (b - a) 4)*2)) f).bind fun(j,h,e)=>(Zn8 h (a+((Int.tdiv (b - a) 4)*3)) e).bind fun(k,g,c)=>ZoP i j k g c)else (ZoP (a+((Int.tdiv (b - a) 4)*1)) (a+((Int.tdiv (b - a) 4)*2)) (a+((Int.tdiv (b - a) 4)*3)) d (0:Int)))else (ZoO (a+((Int.tdiv (b - a) 4)*2)) d (0:Int))
def Zp1 (c:ZnT) (a b:Int):ZHN:=(ZqM c a b).bind fun r=>chk (decide (r.2.2.length=c.length)&&true) (some r)
def ZrI (a:ZnT):Option ZnT:=some a
def Zrb (d:Int->Int->ZnT->Option ZnT) (i j:Int) (a:ZnT):Option ZnT:=bif (decide (i < j))then (chk (inR j (a.length:Int)) <|(a[(j).toNat]?).bind fun b=>chk (inR i (a.length:Int)) <|(a[(i).toNat]?).bind fun c=>chk (inR i (a.length:Int)) <|chk (inR j ((a.set ((i).toNat) b).length:Int)) <|chk (inK .i64 (i+1)) <|chk (inK .i64 (j - 1)) <|d (i+1) (j - 1) ((a.set ((i).toNat) b).set ((j).toNat) c))else (some a)
def ZpB:Nat->Int->Int->ZnT->Option ZnT
 |0,_,_,_=>none
 |n_+1,i,j,data=>Zrb (ZpB n_) i j data
def Zvc (n:Nat) (s:(Int×Int×ZnT)):Option ZnT:=ZpB n s.1 s.2.1 s.2.2
def Zvd (b:(Int×Int×ZnT)->Option ZnT) (s:(Int×Int×ZnT)):Option ZnT:=Zrb (fun i j a=>b (i,j,a)) s.1 s.2.1 s.2.2
theorem ZAJ:∀n s,Zvc (n+1) s=Zvd (Zvc n) s:=fun _ _=>rfl
def Zqk (c:ZnT) (a b:Int):Option ZnT:=chk (inK .i64 (b - 1)) <|(ZpB big a (b - 1) c).bind fun d=>ZrI d
def ZpP (c:ZnT) (a b:Int):Option ZnT:=(Zqk c a b).bind fun r=>chk (decide (r.length=c.length)&&true) (some r)
def ZpI (a:ZnT):ZQy:=some (false,a)
def ZpJ (d:ZMU) (a b i j:Int) (c:ZnT):ZIA:=chk (inK .i64 (j+1)) <|d a b i (j+1) c
def Zpr (k:ZTU) (a b i j d:Int) (c:ZnT):ZGx:=bif (decide (d < b))then (chk (inR d (c.length:Int)) <|(c[(d).toNat]?).bind fun h=>chk (inK .i64 (d - 1)) <|chk (inR (d - 1) (c.length:Int)) <|(c[((d - 1)).toNat]?).bind fun g=>(ZoG h g).bind fun q=>bif (!(decide (q < 0)))then (some (a,b,i,j,c))else (chk (inK .i64 (d - 1)) <|chk (inK .i64 (d - 1)) <|chk (inR (d - 1) (c.length:Int)) <|(c[((d - 1)).toNat]?).bind fun e=>chk (inR d (c.length:Int)) <|(c[(d).toNat]?).bind fun f=>chk (inR d (c.length:Int)) <|chk (inR (d - 1) ((c.set ((d).toNat) e).length:Int)) <|chk (inK .i64 (d+1)) <|k a b i j (d+1) ((c.set ((d).toNat) e).set (((d - 1)).toNat) f)))else (some (a,b,i,j,c))
def Zn5:Nat->Int->Int->Int->Int->Int->ZnT->ZGx
 |0,_,_,_,_,_,_=>none
 |n_+1,a,b,i,j,j_1,data=>Zpr (Zn5 n_) a b i j j_1 data
def Zsd (n:Nat) (s:(Int×Int×Int×Int×Int×ZnT)):ZGx:=Zn5 n s.1 s.2.1 s.2.2.1 s.2.2.2.1 s.2.2.2.2.1 s.2.2.2.2.2
def Zse (d:ZTW) (s:(Int×Int×Int×Int×Int×ZnT)):ZGx:=Zpr (fun a b i j e c=>d (a,b,i,j,e,c)) s.1 s.2.1 s.2.2.1 s.2.2.2.1 s.2.2.2.2.1 s.2.2.2.2.2
theorem Zyq:∀n s,Zsd (n+1) s=Zse (Zsd n) s:=fun _ _=>rfl
def Zn7 (d:ZMU) (a b i j:Int) (e:Bool) (c:ZnT):ZIA:=bif e then (chk (inK .i64 (i+1)) <|(Zn5 big a b i j (i+1) c).bind fun(h,l,g,k,f)=>ZpJ d h l g k f)else (chk (inK .i64 (j+1)) <|d a b i (j+1) c)
def ZpK (d:ZMU) (a b i j:Int) (c:ZnT):ZIA:=chk (inK .i64 (b - i)) <|Zn7 d a b i j (decide ((b - i)>=2)) c
def Zps (k:ZTU) (a b i j d:Int) (c:ZnT):ZGx:=bif (decide (d>=1))then (chk (inR d (c.length:Int)) <|(c[(d).toNat]?).bind fun h=>chk (inK .i64 (d - 1)) <|chk (inR (d - 1) (c.length:Int)) <|(c[((d - 1)).toNat]?).bind fun g=>(ZoG h g).bind fun q=>bif (!(decide (q < 0)))then (some (a,b,i,j,c))else (chk (inK .i64 (d - 1)) <|chk (inK .i64 (d - 1)) <|chk (inR (d - 1) (c.length:Int)) <|(c[((d - 1)).toNat]?).bind fun e=>chk (inR d (c.length:Int)) <|(c[(d).toNat]?).bind fun f=>chk (inR d (c.length:Int)) <|chk (inR (d - 1) ((c.set ((d).toNat) e).length:Int)) <|chk (inK .i64 (d - 1)) <|k a b i j (d - 1) ((c.set ((d).toNat) e).set (((d - 1)).toNat) f)))else (some (a,b,i,j,c))
def Zn6:Nat->Int->Int->Int->Int->Int->ZnT->ZGx
 |0,_,_,_,_,_,_=>none
 |n_+1,a,b,i,j,j_1,data=>Zps (Zn6 n_) a b i j j_1 data
def Zsf (n:Nat) (s:(Int×Int×Int×Int×Int×ZnT)):ZGx:=Zn6 n s.1 s.2.1 s.2.2.1 s.2.2.2.1 s.2.2.2.2.1 s.2.2.2.2.2
def Zsg (d:ZTW) (s:(Int×Int×Int×Int×Int×ZnT)):ZGx:=Zps (fun a b i j e c=>d (a,b,i,j,e,c)) s.1 s.2.1 s.2.2.1 s.2.2.2.1 s.2.2.2.2.1 s.2.2.2.2.2
theorem Zyr:∀n s,Zsf (n+1) s=Zsg (Zsf n) s:=fun _ _=>rfl
def ZpL (f:ZMU) (a b i j:Int) (c:ZnT):ZIA:=bif (i == b)then (some (.ret (true,c)))else (chk (inK .i64 (b - a)) <|bif (decide ((b - a) < 50))then (some (.ret (false,c)))else (chk (inK .i64 (i - 1)) <|chk (inK .i64 (i - 1)) <|chk (inR (i - 1) (c.length:Int)) <|(c[((i - 1)).toNat]?).bind fun e=>chk (inR i (c.length:Int)) <|(c[(i).toNat]?).bind fun d=>chk (inR i (c.length:Int)) <|chk (inR (i - 1) ((c.set ((i).toNat) e).length:Int)) <|chk (inK .i64 (i - a)) <|bif (decide ((i - a)>=2))then (chk (inK .i64 (i - 1)) <|(Zn6 big a b i j (i - 1) ((c.set ((i).toNat) e).set (((i - 1)).toNat) d)).bind fun(k,m,h,l,g)=>ZpK f k m h l g)else (chk (inK .i64 (b - i)) <|Zn7 f a b i j (decide ((b - i)>=2)) ((c.set ((i).toNat) e).set (((i - 1)).toNat) d))))
def Zoz (d:ZTL) (a b i j:Int) (e:Bool) (c:ZnT):ZGx:=bif e then (chk (inK .i64 (i+1)) <|d a b (i+1) j c)else (some (a,b,i,j,c))
def Zpt (f:ZTL) (a b i j:Int) (c:ZnT):ZGx:=bif (decide (i < b))then (chk (inR i (c.length:Int)) <|(c[(i).toNat]?).bind fun e=>chk (inK .i64 (i - 1)) <|chk (inR (i - 1) (c.length:Int)) <|(c[((i - 1)).toNat]?).bind fun d=>(ZoG e d).bind fun q=>Zoz f a b i j (!(decide (q < 0))) c)else (Zoz f a b i j false c)
def ZnV:Nat->Int->Int->Int->Int->ZnT->ZGx
 |0,_,_,_,_,_=>none
 |n_+1,a,b,i,j,data=>Zpt (ZnV n_) a b i j data
def Zsh (n:Nat) (s:(Int×Int×Int×Int×ZnT)):ZGx:=ZnV n s.1 s.2.1 s.2.2.1 s.2.2.2.1 s.2.2.2.2
def Zsi (d:(Int×Int×Int×Int×ZnT)->ZGx) (s:(Int×Int×Int×Int×ZnT)):ZGx:=Zpt (fun a b i j c=>d (a,b,i,j,c)) s.1 s.2.1 s.2.2.1 s.2.2.2.1 s.2.2.2.2
theorem Zys:∀n s,Zsh (n+1) s=Zsi (Zsh n) s:=fun _ _=>rfl
def Zpu (d:ZMU) (a b i j:Int) (c:ZnT):ZIA:=bif (decide (j < 5))then ((ZnV big a b i j c).bind fun(g,k,f,h,e)=>ZpL d g k f h e)else (some (.brk c))
def ZnN:Nat->Int->Int->Int->Int->ZnT->ZIA
 |0,_,_,_,_,_=>none
 |n_+1,a,b,i,j,data=>Zpu (ZnN n_) a b i j data
def Zsj (n:Nat) (s:(Int×Int×Int×Int×ZnT)):ZIA:=ZnN n s.1 s.2.1 s.2.2.1 s.2.2.2.1 s.2.2.2.2
def Zsk (d:(Int×Int×Int×Int×ZnT)->ZIA) (s:(Int×Int×Int×Int×ZnT)):ZIA:=Zpu (fun a b i j c=>d (a,b,i,j,c)) s.1 s.2.1 s.2.2.1 s.2.2.2.1 s.2.2.2.2
theorem Zyt:∀n s,Zsj (n+1) s=Zsk (Zsj n) s:=fun _ _=>rfl
def ZoT (c:ZnT) (a b:Int):ZQy:=chk (inK .i64 (a+1)) <|(ZnN big a b (a+1) (0:Int) c).bind fun
 | .ret d=>some d
 | .brk e=>ZpI e
def ZoI (c:ZnT) (a b:Int):ZQy:=(ZoT c a b).bind fun r=>chk (decide (r.2.length=c.length)&&true) (some r)
def Zrd (i:Int) (a:ZnT):ZFc:=some (i,a)
def Zre (e:ZQI) (a i j:Int) (b:ZnT):ZFc:=bif (decide (i > j))then (some (i,b))else (chk (inR j (b.length:Int)) <|(b[(j).toNat]?).bind fun c=>chk (inR i (b.length:Int)) <|(b[(i).toNat]?).bind fun d=>chk (inR i (b.length:Int)) <|chk (inR j ((b.set ((i).toNat) c).length:Int)) <|chk (inK .i64 (i+1)) <|chk (inK .i64 (j - 1)) <|e a (i+1) (j - 1) ((b.set ((i).toNat) c).set ((j).toNat) d))
def Zpb (c:ZHO) (a i j:Int) (d:Bool) (b:ZnT):Zzx:=bif d then (chk (inK .i64 (j - 1)) <|c a i (j - 1) b)else (some (a,i,j,b))
def ZqG (e:ZHO) (a i j:Int) (b:ZnT):Zzx:=bif (decide (i<=j))then (chk (inR a (b.length:Int)) <|(b[(a).toNat]?).bind fun d=>chk (inR j (b.length:Int)) <|(b[(j).toNat]?).bind fun c=>(ZoG d c).bind fun q=>Zpb e a i j (decide (q < 0)) b)else (Zpb e a i j false b)
def Zn1:Nat->Int->Int->Int->ZnT->Zzx
 |0,_,_,_,_=>none
 |n_+1,a,i,j,data=>ZqG (Zn1 n_) a i j data
def Zuh (n:Nat) (s:(Int×Int×Int×ZnT)):Zzx:=Zn1 n s.1 s.2.1 s.2.2.1 s.2.2.2
def Zui (c:ZLT) (s:(Int×Int×Int×ZnT)):Zzx:=ZqG (fun a i j b=>c (a,i,j,b)) s.1 s.2.1 s.2.2.1 s.2.2.2
theorem ZAa:∀n s,Zuh (n+1) s=Zui (Zuh n) s:=fun _ _=>rfl
def Zrf (c:ZQI) (a i j:Int) (b:ZnT):ZFc:=(Zn1 big a i j b).bind fun(e,g,d,f)=>Zre c e g d f
def Zpc (c:ZHO) (a i j:Int) (d:Bool) (b:ZnT):Zzx:=bif d then (chk (inK .i64 (i+1)) <|c a (i+1) j b)else (some (a,i,j,b))
def ZqH (e:ZHO) (a i j:Int) (b:ZnT):Zzx:=bif (decide (i<=j))then (chk (inR a (b.length:Int)) <|(b[(a).toNat]?).bind fun d=>chk (inR i (b.length:Int)) <|(b[(i).toNat]?).bind fun c=>(ZoG d c).bind fun q=>Zpc e a i j (!(decide (q < 0))) b)else (Zpc e a i j false b)
def Zn2:Nat->Int->Int->Int->ZnT->Zzx
 |0,_,_,_,_=>none
 |n_+1,a,i,j,data=>ZqH (Zn2 n_) a i j data
def Zuj (n:Nat) (s:(Int×Int×Int×ZnT)):Zzx:=Zn2 n s.1 s.2.1 s.2.2.1 s.2.2.2
def Zuk (c:ZLT) (s:(Int×Int×Int×ZnT)):Zzx:=ZqH (fun a i j b=>c (a,i,j,b)) s.1 s.2.1 s.2.2.1 s.2.2.2
theorem ZAb:∀n s,Zuj (n+1) s=Zuk (Zuj n) s:=fun _ _=>rfl
def ZqI (c:ZQI) (a i j:Int) (b:ZnT):ZFc:=(Zn2 big a i j b).bind fun(e,g,d,f)=>Zrf c e g d f
def ZnW:Nat->Int->Int->Int->ZnT->ZFc
 |0,_,_,_,_=>none
 |n_+1,a,i,j,data=>ZqI (ZnW n_) a i j data
def Zul (n:Nat) (s:(Int×Int×Int×ZnT)):ZFc:=ZnW n s.1 s.2.1 s.2.2.1 s.2.2.2
def Zum (c:(Int×Int×Int×ZnT)->ZFc) (s:(Int×Int×Int×ZnT)):ZFc:=ZqI (fun a i j b=>c (a,i,j,b)) s.1 s.2.1 s.2.2.1 s.2.2.2
theorem ZAc:∀n s,Zul (n+1) s=Zum (Zul n) s:=fun _ _=>rfl
def ZpR (c:ZnT) (a b d:Int):ZFc:=chk (inR d (c.length:Int)) <|(c[(d).toNat]?).bind fun e=>chk (inR a (c.length:Int)) <|(c[(a).toNat]?).bind fun f=>chk (inR a (c.length:Int)) <|chk (inR d ((c.set ((a).toNat) e).length:Int)) <|chk (inK .i64 (a+1)) <|chk (inK .i64 (b - 1)) <|(ZnW big a (a+1) (b - 1) ((c.set ((a).toNat) e).set ((d).toNat) f)).bind fun(g,h)=>Zrd g h
def Zpm (c:ZnT) (a b d:Int):ZFc:=(ZpR c a b d).bind fun r=>chk (decide (r.2.length=c.length)&&true) (some r)
def ZsS (a j:Int) (b:ZnT):ZMQ:=chk (inR a (b.length:Int)) <|(b[(a).toNat]?).bind fun c=>chk (inR j (b.length:Int)) <|(b[(j).toNat]?).bind fun d=>chk (inR j (b.length:Int)) <|chk (inR a ((b.set ((j).toNat) c).length:Int)) <|some (j,false,((b.set ((j).toNat) c).set ((a).toNat) d))
def ZsT (e:ZQH) (a i j:Int) (b:ZnT):ZHN:=bif (decide (i > j))then (some (a,j,b))else (chk (inR j (b.length:Int)) <|(b[(j).toNat]?).bind fun c=>chk (inR i (b.length:Int)) <|(b[(i).toNat]?).bind fun d=>chk (inR i (b.length:Int)) <|chk (inR j ((b.set ((i).toNat) c).length:Int)) <|chk (inK .i64 (i+1)) <|chk (inK .i64 (j - 1)) <|e a (i+1) (j - 1) ((b.set ((i).toNat) c).set ((j).toNat) d))
def Zql (c:ZHO) (a i j:Int) (d:Bool) (b:ZnT):Zzx:=bif d then (chk (inK .i64 (j - 1)) <|c a i (j - 1) b)else (some (a,i,j,b))
def ZrU (e:ZHO) (a i j:Int) (b:ZnT):Zzx:=bif (decide (i<=j))then (chk (inR j (b.length:Int)) <|(b[(j).toNat]?).bind fun d=>chk (inR a (b.length:Int)) <|(b[(a).toNat]?).bind fun c=>(ZoG d c).bind fun q=>Zql e a i j (!(decide (q < 0))) b)else (Zql e a i j false b)
def Zoo:Nat->Int->Int->Int->ZnT->Zzx
 |0,_,_,_,_=>none
 |n_+1,a,i,j,data=>ZrU (Zoo n_) a i j data
def Zwm (n:Nat) (s:(Int×Int×Int×ZnT)):Zzx:=Zoo n s.1 s.2.1 s.2.2.1 s.2.2.2
def Zwn (c:ZLT) (s:(Int×Int×Int×ZnT)):Zzx:=ZrU (fun a i j b=>c (a,i,j,b)) s.1 s.2.1 s.2.2.1 s.2.2.2
theorem ZBD:∀n s,Zwm (n+1) s=Zwn (Zwm n) s:=fun _ _=>rfl
def ZsU (c:ZQH) (a i j:Int) (b:ZnT):ZHN:=(Zoo big a i j b).bind fun(e,g,d,f)=>ZsT c e g d f
def Zqm (c:ZHO) (a i j:Int) (d:Bool) (b:ZnT):Zzx:=bif d then (chk (inK .i64 (i+1)) <|c a (i+1) j b)else (some (a,i,j,b))
def ZrV (e:ZHO) (a i j:Int) (b:ZnT):Zzx:=bif (decide (i<=j))then (chk (inR i (b.length:Int)) <|(b[(i).toNat]?).bind fun d=>chk (inR a (b.length:Int)) <|(b[(a).toNat]?).bind fun c=>(ZoG d c).bind fun q=>Zqm e a i j (decide (q < 0)) b)else (Zqm e a i j false b)
def Zop:Nat->Int->Int->Int->ZnT->Zzx
 |0,_,_,_,_=>none
 |n_+1,a,i,j,data=>ZrV (Zop n_) a i j data
def Zwo (n:Nat) (s:(Int×Int×Int×ZnT)):Zzx:=Zop n s.1 s.2.1 s.2.2.1 s.2.2.2
def Zwp (c:ZLT) (s:(Int×Int×Int×ZnT)):Zzx:=ZrV (fun a i j b=>c (a,i,j,b)) s.1 s.2.1 s.2.2.1 s.2.2.2
theorem ZBE:∀n s,Zwo (n+1) s=Zwp (Zwo n) s:=fun _ _=>rfl
def ZrW (c:ZQH) (a i j:Int) (b:ZnT):ZHN:=(Zop big a i j b).bind fun(e,g,d,f)=>ZsU c e g d f
def Zn4:Nat->Int->Int->Int->ZnT->ZHN
 |0,_,_,_,_=>none
 |n_+1,a,i,j,data=>ZrW (Zn4 n_) a i j data
def Zwq (n:Nat) (s:(Int×Int×Int×ZnT)):ZHN:=Zn4 n s.1 s.2.1 s.2.2.1 s.2.2.2
def Zwr (c:(Int×Int×Int×ZnT)->ZHN) (s:(Int×Int×Int×ZnT)):ZHN:=ZrW (fun a i j b=>c (a,i,j,b)) s.1 s.2.1 s.2.2.1 s.2.2.2
theorem ZBF:∀n s,Zwq (n+1) s=Zwr (Zwq n) s:=fun _ _=>rfl
def ZsV (a i j:Int) (b:ZnT):ZMQ:=bif (decide (i > j))then (chk (inR a (b.length:Int)) <|(b[(a).toNat]?).bind fun d=>chk (inR j (b.length:Int)) <|(b[(j).toNat]?).bind fun f=>chk (inR j (b.length:Int)) <|chk (inR a ((b.set ((j).toNat) d).length:Int)) <|some (j,true,((b.set ((j).toNat) d).set ((a).toNat) f)))else (chk (inR j (b.length:Int)) <|(b[(j).toNat]?).bind fun c=>chk (inR i (b.length:Int)) <|(b[(i).toNat]?).bind fun e=>chk (inR i (b.length:Int)) <|chk (inR j ((b.set ((i).toNat) c).length:Int)) <|chk (inK .i64 (i+1)) <|chk (inK .i64 (j - 1)) <|(Zn4 big a (i+1) (j - 1) ((b.set ((i).toNat) c).set ((j).toNat) e)).bind fun(h,k,g)=>ZsS h k g)
def Zqn (c:ZHO) (a i j:Int) (d:Bool) (b:ZnT):Zzx:=bif d then (chk (inK .i64 (j - 1)) <|c a i (j - 1) b)else (some (a,i,j,b))
def ZrX (e:ZHO) (a i j:Int) (b:ZnT):Zzx:=bif (decide (i<=j))then (chk (inR j (b.length:Int)) <|(b[(j).toNat]?).bind fun d=>chk (inR a (b.length:Int)) <|(b[(a).toNat]?).bind fun c=>(ZoG d c).bind fun q=>Zqn e a i j (!(decide (q < 0))) b)else (Zqn e a i j false b)
def Zoq:Nat->Int->Int->Int->ZnT->Zzx
 |0,_,_,_,_=>none
 |n_+1,a,i,j,data=>ZrX (Zoq n_) a i j data
def Zws (n:Nat) (s:(Int×Int×Int×ZnT)):Zzx:=Zoq n s.1 s.2.1 s.2.2.1 s.2.2.2
def Zwt (c:ZLT) (s:(Int×Int×Int×ZnT)):Zzx:=ZrX (fun a i j b=>c (a,i,j,b)) s.1 s.2.1 s.2.2.1 s.2.2.2
theorem ZBG:∀n s,Zws (n+1) s=Zwt (Zws n) s:=fun _ _=>rfl
def ZsW (a i j:Int) (b:ZnT):ZMQ:=(Zoq big a i j b).bind fun(d,f,c,e)=>ZsV d f c e
def Zqo (c:ZHO) (a i j:Int) (d:Bool) (b:ZnT):Zzx:=bif d then (chk (inK .i64 (i+1)) <|c a (i+1) j b)else (some (a,i,j,b))
def ZrY (e:ZHO) (a i j:Int) (b:ZnT):Zzx:=bif (decide (i<=j))then (chk (inR i (b.length:Int)) <|(b[(i).toNat]?).bind fun d=>chk (inR a (b.length:Int)) <|(b[(a).toNat]?).bind fun c=>(ZoG d c).bind fun q=>Zqo e a i j (decide (q < 0)) b)else (Zqo e a i j false b)
def Zor:Nat->Int->Int->Int->ZnT->Zzx
 |0,_,_,_,_=>none
 |n_+1,a,i,j,data=>ZrY (Zor n_) a i j data
def Zwu (n:Nat) (s:(Int×Int×Int×ZnT)):Zzx:=Zor n s.1 s.2.1 s.2.2.1 s.2.2.2
def Zwv (c:ZLT) (s:(Int×Int×Int×ZnT)):Zzx:=ZrY (fun a i j b=>c (a,i,j,b)) s.1 s.2.1 s.2.2.1 s.2.2.2
theorem ZBH:∀n s,Zwu (n+1) s=Zwv (Zwu n) s:=fun _ _=>rfl
def Zrp (c:ZnT) (a b d:Int):ZMQ:=chk (inR d (c.length:Int)) <|(c[(d).toNat]?).bind fun e=>chk (inR a (c.length:Int)) <|(c[(a).toNat]?).bind fun f=>chk (inR a (c.length:Int)) <|chk (inR d ((c.set ((a).toNat) e).length:Int)) <|chk (inK .i64 (a+1)) <|chk (inK .i64 (b - 1)) <|(Zor big a (a+1) (b - 1) ((c.set ((a).toNat) e).set ((d).toNat) f)).bind fun(i,g,h,j)=>ZsW i g h j
def ZqJ (c:ZnT) (a b d:Int):ZMQ:=(Zrp c a b d).bind fun r=>chk (decide (r.2.2.length=c.length)&&true) (some r)
def Zpi (o:ZnT->Int->Int->Int->Option ZnT) (i:ZLU) (a b f:Int) (g e:Bool) (h j:Int) (r:Bool) (k:ZnT):ZIq:=bif r then ((Zpm k a b j).bind fun(q,p)=>i q b f g e p)else ((ZqJ k a b j).bind fun(c,d,l)=>chk (inK .i64 (c - a)) <|chk (inK .i64 (b - c)) <|chk (decide ((8:Int)≠0)) <|chk (inK .i64 (Int.tdiv h 8)) <|bif (decide ((c - a) < (b - c)))then ((o l a c f).bind fun n=>chk (inK .i64 (c+1)) <|i (c+1) b f (decide ((c - a)>=(Int.tdiv h 8))) d n)else (chk (inK .i64 (c+1)) <|(o l (c+1) b f).bind fun m=>i a c f (decide ((b - c)>=(Int.tdiv h 8))) d m))
def Zpj (l:ZnT->Int->Int->Int->Option ZnT) (k:ZLU) (a b i:Int) (d c:Bool) (g f:Int) (e:ZnT):ZIq:=bif (decide (a > 0))then (chk (inK .i64 (a - 1)) <|chk (inR (a - 1) (e.length:Int)) <|(e[((a - 1)).toNat]?).bind fun j=>chk (inR f (e.length:Int)) <|(e[(f).toNat]?).bind fun h=>(ZoG j h).bind fun q=>Zpi l k a b i d c g f (!(decide (q < 0))) e)else (Zpi l k a b i d c g f false e)
def ZoB (k:ZnT->Int->Int->Int->Option ZnT) (i:ZLU) (a b g:Int) (d c:Bool) (e f:Int) (l:Bool) (h:ZnT):ZIq:=bif l then ((ZoI h a b).bind fun(q,j)=>bif q then (some (.ret j))else (Zpj k i a b g d c e f j))else (Zpj k i a b g d c e f h)
def Zpk (j:ZnT->Int->Int->Int->Option ZnT) (i:ZLU) (a b g:Int) (d c:Bool) (e f k:Int) (h:ZnT):ZIq:=bif d then (bif c then (ZoB j i a b g d c e f (k == 1) h)else (ZoB j i a b g d c e f false h))else (ZoB j i a b g d c e f false h)
def Zpl (l:ZnT->Int->Int->Int->Option ZnT) (i:ZLU) (a b g:Int) (d c:Bool) (f:Int) (j:ZnT):ZIq:=(Zp1 j a b).bind fun(e,h,k)=>bif (h == 2)then ((ZpP k a b).bind fun m=>chk (inK .i64 (b - 1)) <|chk (inK .i64 (e - a)) <|chk (inK .i64 ((b - 1) - (e - a))) <|Zpk l i a b g d c f ((b - 1) - (e - a)) (1:Int) m)else (Zpk l i a b g d c f e h k)
def ZsQ (h:ZnT->Int->Int->Int->Option ZnT) (g:ZLU) (a b e:Int) (c d:Bool) (f:ZnT):ZIq:=chk (inK .i64 (b - a)) <|bif (decide ((b - a)<=12))then ((ZoF f a b).bind fun i=>some (.ret i))else (bif (e == 0)then ((Zq1 f a b).bind fun k=>some (.ret k))else (bif (!c)then ((ZpC f a b).bind fun j=>chk (inK .i64 (e - 1)) <|Zpl h g a b (e - 1) c d (b - a) j)else (Zpl h g a b e c d (b - a) f)))
def ZnU (c:ZnT->Int->Int->Int->Option ZnT):Nat->Int->Int->Int->Bool->Bool->ZnT->ZIq
 |0,_,_,_,_,_,_=>none
 |n_+1,a,b,limit,wasBalanced,wasPartitioned,data=>ZsQ c (ZnU c n_) a b limit wasBalanced wasPartitioned data
def Zxx (a:ZnT->Int->Int->Int->Option ZnT) (n:Nat) (s:(Int×Int×Int×Bool×Bool×ZnT)):ZIq:=ZnU a n s.1 s.2.1 s.2.2.1 s.2.2.2.1 s.2.2.2.2.1 s.2.2.2.2.2
def Zxy (h:ZnT->Int->Int->Int->Option ZnT) (g:(Int×Int×Int×Bool×Bool×ZnT)->ZIq) (s:(Int×Int×Int×Bool×Bool×ZnT)):ZIq:=ZsQ h (fun a b e d c f=>g (a,b,e,d,c,f)) s.1 s.2.1 s.2.2.1 s.2.2.2.1 s.2.2.2.2.1 s.2.2.2.2.2
theorem ZCo (a:ZnT->Int->Int->Int->Option ZnT):∀n s,Zxx a (n+1) s=Zxy a (Zxx a n) s:=fun _ _=>rfl
def Zro (e:ZnT->Int->Int->Int->Option ZnT) (d:ZnT) (a b c:Int):Option ZnT:=(ZnU e big a b c true true d).bind fun
 | .ret f=>some f
 | .brk _=>none
def ZnJ:Nat->ZnT->Int->Int->Int->Option ZnT
 |0,_,_,_,_=>none
 |n_+1,data,a,b,limit=>(Zro (ZnJ n_) data a b limit).bind fun r=>chk (decide (r.length=data.length)&&true) (some r)
def Zun (a:ZnT):Option ZnT:=(Zz3 (IntKind.wrap .u64 (a.length:Int))).bind fun q=>(ZnJ big a 0 (a.length:Int) q).bind fun b=>some b
def ZqN (a:ZnT):Option ZnT:=(Zun a).bind fun r=>chk (decide (r.length=a.length)&&true) (some r)
def ZBK (l:ZnT) (k:Int):Option (Nat×Nat×ZnT):=(ZqN l).bind fun a=>chk (Zb9 0 (if (a.length:Int) < k then (a.length:Int)else k) (a.length:Int)) <|some (0,(((if (a.length:Int) < k then (a.length:Int)else k)).toNat - 0),a)
def ZAr (l:ZnT) (k:Int):Option (Nat×Nat×ZnT):=(ZBK l k).bind fun r=>chk (decide (r.2.2.length=l.length)&&true) (some r)
def ZDI (k:Int) (d:ZnT):ZJO:=(ZAr d k).bind fun(b,a,c)=>some (((c.drop b).take a),0)
def ZDJ (a:ZOo) (k:Int) (d:ZoS) (e:ZrM) (f b:Int) (c:ZnT):ZFc:=chk (inK .i64 (b+1)) <|a k d e f (b+1) c
def ZB7 (a:ZSj) (k:Int) (c:ZoS) (d:ZrM) (e g:Int) (f:Zo4) (h i:Int) (b:ZnT) (t:G_api_Table):ZHh:=chk (inK .i64 (i+1)) <|a k c d e g f h (i+1) b t
def ZB8 (b:ZSj) (k:Int) (e:ZoS) (i:Int) (f:ZrM) (g j:Int) (h:Zo4) (l d:Int) (m:Bool) (c:ZnT) (t:G_api_Table) (a:ZnB):ZHh:=bif m then (chk (ZiZ (c.length+([(Zoi.mk (ZpV.mk t.ID i) a)]:ZnT).length) 80) <|ZB7 b k e f g j h l d (c++([(Zoi.mk (ZpV.mk t.ID i) a)]:ZnT)) t)else (ZB7 b k e f g j h l d c t)
def ZAp (c:ZSj) (k:Int) (b:ZoS) (g:ZrM) (h l:Int) (j:Zo4) (m i:Int) (f:ZnT) (t:G_api_Table):ZHh:=bif (decide (i < m))then ((idx j i).bind fun p=>(Zsw p).bind fun q=>(ZqQ b q).bind fun(d,e)=>(ZGB 1 1).bind fun n=>(ZFC n d).bind fun a=>bif (e == 0)then ((ZCL a).bind fun o=>ZB8 c k b i g h l j m i o f t a)else (ZB8 c k b i g h l j m i false f t a))else (some (k,b,g,h,l,f))
def Zvv:Nat->Int->ZoS->ZrM->Int->Int->Zo4->Int->Int->ZnT->G_api_Table->ZHh
 |0,_,_,_,_,_,_,_,_,_,_=>none
 |n_+1,k,own,t36,t37,t38,t43,t44,i,out,t=>ZAp (Zvv n_) k own t36 t37 t38 t43 t44 i out t
def ZEZ (n:Nat) (s:(Int×ZoS×ZrM×Int×Int×Zo4×Int×Int×ZnT×G_api_Table)):ZHh:=Zvv n s.1 s.2.1 s.2.2.1 s.2.2.2.1 s.2.2.2.2.1 s.2.2.2.2.2.1 s.2.2.2.2.2.2.1 s.2.2.2.2.2.2.2.1 s.2.2.2.2.2.2.2.2.1 s.2.2.2.2.2.2.2.2.2
def ZCQ (a:Tf_5) (s:(Int×ZoS×ZrM×Int×Int×Zo4×Int×Int×ZnT×G_api_Table)):ZHh:=ZAp (fun k c d e g f h i b t=>a (k,c,d,e,g,f,h,i,b,t)) s.1 s.2.1 s.2.2.1 s.2.2.2.1 s.2.2.2.2.1 s.2.2.2.2.2.1 s.2.2.2.2.2.2.1 s.2.2.2.2.2.2.2.1 s.2.2.2.2.2.2.2.2.1 s.2.2.2.2.2.2.2.2.2
theorem ZGG:∀n s,ZEZ (n+1) s=ZCQ (ZEZ n) s:=fun _ _=>rfl
def ZAq (b:ZOo) (k:Int) (f:ZoS) (d:ZrM) (e a:Int) (c:ZnT):ZFc:=bif (decide (a < e))then ((idx d a).bind fun t=>(Zvv big k f d e a t.Columns (t.Columns.length:Int) (0:Int) c t).bind fun(j,m,i,l,g,h)=>ZDJ b j m i l g h)else (some (k,c))
def Zz0:Nat->Int->ZoS->ZrM->Int->Int->ZnT->ZFc
 |0,_,_,_,_,_,_=>none
 |n_+1,k,own,t36,t37,t38,out=>ZAq (Zz0 n_) k own t36 t37 t38 out
def ZE0 (n:Nat) (s:(Int×ZoS×ZrM×Int×Int×ZnT)):ZFc:=Zz0 n s.1 s.2.1 s.2.2.1 s.2.2.2.1 s.2.2.2.2.1 s.2.2.2.2.2
def ZCR (a:ZTX) (s:(Int×ZoS×ZrM×Int×Int×ZnT)):ZFc:=ZAq (fun k c d e f b=>a (k,c,d,e,f,b)) s.1 s.2.1 s.2.2.1 s.2.2.2.1 s.2.2.2.2.1 s.2.2.2.2.2
theorem ZGH:∀n s,ZE0 (n+1) s=ZCR (ZE0 n) s:=fun _ _=>rfl
def Zz1 (l:ZrM) (k:Int) (b:Bool) (c:G_api_Column):ZJO:=bif b then (some (([]:ZnT),1))else ((Zsw c).bind fun a=>(Zz0 big k a l (l.length:Int) (0:Int) ([]:ZnT)).bind fun(d,e)=>ZDI d e)
def Zvw (l:ZrM) (k:Int) (a:Bool) (c:G_api_Column):ZJO:=bif a then (some (([]:ZnT),2))else ((ZxD l).bind fun q=>bif (!q)then (Zz1 l k true c)else (Zz1 l k (decide ((c.Cells.length:Int) > 4096)) c))
def Zxz (l:ZrM) (c:G_api_Column) (k:Int):ZJO:=bif (decide (k < 0))then (Zvw l k true c)else (Zvw l k (decide (k > 1024)) c)
def Zvr (l:ZrM):Option Bool:=some (decide ((l.length:Int)<=1024))
def Zp9 (a:ZTJ) (l c:ZrM) (d i:Int) (b:Bool):ZHx:=bif b then (some (.ret false))else (chk (inK .i64 (i+1)) <|a l c d (i+1))
def Zrj (a:ZTJ) (l b:ZrM) (c i:Int):ZHx:=bif (decide (i < c))then ((idx b i).bind fun t=>(Zpf t).bind fun q=>bif (!q)then (Zp9 a l b c i true)else (bif (decide (i > 0))then (chk (inK .i64 (i - 1)) <|(idx l (i - 1)).bind fun d=>Zp9 a l b c i (decide (d.ID>=t.ID)))else (Zp9 a l b c i false)))else (some (.brk l))
def Zp8:Nat->ZrM->ZrM->Int->Int->ZHx
 |0,_,_,_,_=>none
 |n_+1,l,t5,t6,i=>Zrj (Zp8 n_) l t5 t6 i
def ZyR (n:Nat) (s:(ZrM×ZrM×Int×Int)):ZHx:=Zp8 n s.1 s.2.1 s.2.2.1 s.2.2.2
def ZtY (a:(ZrM×ZrM×Int×Int)->ZHx) (s:(ZrM×ZrM×Int×Int)):ZHx:=Zrj (fun l b c i=>a (l,b,c,i)) s.1 s.2.1 s.2.2.1 s.2.2.2
theorem ZC2:∀n s,ZyR (n+1) s=ZtY (ZyR n) s:=fun _ _=>rfl
def ZpO (l:ZrM):Option Bool:=(Zp8 big l l (l.length:Int) (0:Int)).bind fun
 | .ret b=>some b
 | .brk a=>Zvr a
def ZyC (s:Str):Option Str:=some s
def ZuT (a:ZJX) (s:Str) (b:Bool):Option Str:=bif b then (chk (inK .i64 ((s.length:Int) - 1)) <|chk (Zb9 0 ((s.length:Int) - 1) (s.length:Int)) <|a (s.take (((s.length:Int) - 1)).toNat))else (some s)
def Zxh (a:ZJX) (s:Str):Option Str:=bif (decide ((s.length:Int) > 0))then (chk (inK .i64 ((s.length:Int) - 1)) <|(idx s ((s.length:Int) - 1)).bind fun c=>ZuT a s (((c.toNat:Nat):Int) == 32))else (ZuT a s false)
def Zr6:Nat->Str->Option Str
 |0,_=>none
 |n_+1,s=>Zxh (Zr6 n_) s
def ZA4 (n:Nat) (s:Str):Option Str:=Zr6 n s
def ZA5 (a:ZJX) (s:Str):Option Str:=Zxh (fun s=>a s) s
theorem ZEg:∀n s,ZA4 (n+1) s=ZA5 (ZA4 n) s:=fun _ _=>rfl
def ZyD (s:Str):Option Str:=(Zr6 big s).bind fun a=>ZyC a
def ZuU (a:ZJX) (s:Str) (b:Bool):Option Str:=bif b then (chk (Zb9 1 (s.length:Int) (s.length:Int)) <|a (s.drop ((1:Int)).toNat))else (some s)
def Zxi (a:ZJX) (s:Str):Option Str:=bif (decide ((s.length:Int) > 0))then ((idx s 0).bind fun c=>ZuU a s (((c.toNat:Nat):Int) == 32))else (ZuU a s false)
def Zr7:Nat->Str->Option Str
 |0,_=>none
 |n_+1,s=>Zxi (Zr7 n_) s
def ZA6 (n:Nat) (s:Str):Option Str:=Zr7 n s
def ZA7 (a:ZJX) (s:Str):Option Str:=Zxi (fun s=>a s) s
theorem ZEh:∀n s,ZA6 (n+1) s=ZA7 (ZA6 n) s:=fun _ _=>rfl
def Zxj (s:Str):Option Str:=(Zr7 big s).bind fun a=>ZyD a
def ZCh (b:ZnG):Option Str:=some (b.map fun n=>UInt8.ofNat (Int.toNat n))
def ZyE (a:ZQG) (c i:Int) (b:ZnG):Option ZnG:=chk (inK .i64 (i+1)) <|a c (i+1) b
def ZyF (a:ZQG) (i f c:Int) (e:Bool) (b:ZnG):Option ZnG:=bif e then (chk (inR i (b.length:Int)) <|(b[(i).toNat]?).bind fun d=>chk (inR i (b.length:Int)) <|ZyE a f c (b.set ((i).toNat) (IntKind.wrap .u8 (d+32))))else (ZyE a f c b)
def ZED (a:ZQG) (e i:Int) (b:ZnG):Option ZnG:=bif (decide (i < e))then (chk (inR i (b.length:Int)) <|(b[(i).toNat]?).bind fun d=>bif (decide (d>=65))then (chk (inR i (b.length:Int)) <|(b[(i).toNat]?).bind fun c=>ZyF a i e i (decide (c<=90)) b)else (ZyF a i e i false b))else (some b)
def Zr8:Nat->Int->Int->ZnG->Option ZnG
 |0,_,_,_=>none
 |n_+1,t8,i,b=>ZED (Zr8 n_) t8 i b
def ZC9 (s:Str):Option Str:=chk (decide (s.length<=281474976710656)) <|(Zr8 big ((s.map fun b=>((b.toNat:Nat):Int)).length:Int) (0:Int) (s.map fun b=>((b.toNat:Nat):Int))).bind fun a=>ZCh a
def ZBz (c:Bool) (b a:Str):ZKx:=some (c,b,a,true)
def Zt7 (c:ZTH) (d:Bool) (a b:Str) (i:Int) (e:Bool):ZKC:=bif e then (some (.ret (false,([]:Str),([]:Str),false)))else (chk (inK .i64 (i+1)) <|c d a b (i+1))
def Zs7 (d:ZTH) (e:Bool) (b a:Str) (i:Int):ZKC:=bif (decide (i < (a.length:Int)))then ((idx a i).bind fun c=>bif (decide (((c.toNat:Nat):Int) < 48))then (Zt7 d e b a i true)else ((idx a i).bind fun f=>Zt7 d e b a i (decide (((f.toNat:Nat):Int) > 57))))else (some (.brk (e,b,a)))
def Zqc:Nat->Bool->Str->Str->Int->ZKC
 |0,_,_,_,_=>none
 |n_+1,neg,digits,places,i=>Zs7 (Zqc n_) neg digits places i
def ZAE (n:Nat) (s:(Bool×Str×Str×Int)):ZKC:=Zqc n s.1 s.2.1 s.2.2.1 s.2.2.2
def ZwJ (c:(Bool×Str×Str×Int)->ZKC) (s:(Bool×Str×Str×Int)):ZKC:=Zs7 (fun d b a i=>c (d,b,a,i)) s.1 s.2.1 s.2.2.1 s.2.2.2
theorem ZDV:∀n s,ZAE (n+1) s=ZwJ (ZAE n) s:=fun _ _=>rfl
def Zol (c:Bool) (a b:Str) (d:Bool):ZKx:=bif d then (some (false,([]:Str),([]:Str),false))else ((Zqc big c a b (0:Int)).bind fun
 | .ret e=>some e
 | .brk (x0,x1,x2)=>ZBz x0 x1 x2)
def Zt8 (s:Str) (b:Bool) (a:Str) (k:Int) (d:Bool):ZKx:=bif d then (some (false,([]:Str),([]:Str),false))else (bif (k == (s.length:Int))then (some (b,a,([]:Str),true))else (chk (inK .i64 (k+1)) <|chk (Zb9 (k+1) (s.length:Int) (s.length:Int)) <|(idx s k).bind fun c=>bif (((c.toNat:Nat):Int) != 46)then (Zol b a (s.drop ((k+1)).toNat) true)else (bif (decide (((s.drop ((k+1)).toNat).length:Int) < 1))then (Zol b a (s.drop ((k+1)).toNat) true)else (Zol b a (s.drop ((k+1)).toNat) (decide (((s.drop ((k+1)).toNat).length:Int) > 9))))))
def ZxV (s:Str) (a:Bool) (k:Int):ZKx:=chk (Zb9 0 k (s.length:Int)) <|bif (decide (k < 1))then (Zt8 s a (s.take (k).toNat) k true)else (Zt8 s a (s.take (k).toNat) k (decide (k > 15)))
def ZrF (b:Str->Bool->Int->ZJS) (s:Str) (a:Bool) (k:Int) (c:Bool):ZJS:=bif c then (chk (inK .i64 (k+1)) <|b s a (k+1))else (some (s,a,k))
def ZwK (a:Str->Bool->Int->ZJS) (s:Str) (b:Bool) (k:Int):ZJS:=bif (decide (k < (s.length:Int)))then ((idx s k).bind fun c=>bif (decide (((c.toNat:Nat):Int)>=48))then ((idx s k).bind fun d=>ZrF a s b k (decide (((d.toNat:Nat):Int)<=57)))else (ZrF a s b k false))else (ZrF a s b k false)
def ZrE:Nat->Str->Bool->Int->ZJS
 |0,_,_,_=>none
 |n_+1,s,neg,k=>ZwK (ZrE n_) s neg k
def ZAF (n:Nat) (s:(Str×Bool×Int)):ZJS:=ZrE n s.1 s.2.1 s.2.2
def ZAG (a:(Str×Bool×Int)->ZJS) (s:(Str×Bool×Int)):ZJS:=ZwK (fun s b k=>a (s,b,k)) s.1 s.2.1 s.2.2
theorem ZDW:∀n s,ZAF (n+1) s=ZAG (ZAF n) s:=fun _ _=>rfl
def ZoE (s:Str) (a:Bool):ZKx:=(ZrE big s a (0:Int)).bind fun(c,d,b)=>ZxV c d b
def ZrG (s:Str) (a b:Bool):ZKx:=bif b then ((idx s 0).bind fun c=>chk (Zb9 1 (s.length:Int) (s.length:Int)) <|ZoE (s.drop ((1:Int)).toNat) (((c.toNat:Nat):Int) == 45))else (ZoE s a)
def Ztq (s:Str):ZKx:=bif (decide ((s.length:Int) > 0))then ((idx s 0).bind fun c=>bif (((c.toNat:Nat):Int) == 43)then (ZrG s false true)else ((idx s 0).bind fun a=>ZrG s false (((a.toNat:Nat):Int) == 45)))else (ZrG s false false)
def Ztz (a:Str):Option Str:=some a
def ZtA (a:Str) (b:Bool):Option Str:=bif b then (chk (decide (([45]:Str).length+a.length<=Zq)) <|Ztz (([45]:Str)++a))else (Ztz a)
def ZtB (b:Bool) (a:Str):Option Str:=bif b then (ZtA a (!(a == ([48]:Str))))else (ZtA a false)
def Zxa (c:Bool) (b a:Str):Option Str:=bif (!(a == ([]:Str)))then (chk (decide (([46]:Str).length+a.length<=Zq)) <|chk (decide (b.length+(([46]:Str)++a).length<=Zq)) <|ZtB c (b++(([46]:Str)++a)))else (ZtB c b)
def ZtC (d:ZOk) (c:Bool) (b a:Str) (e:Bool):ZHy:=bif e then (chk (inK .i64 ((a.length:Int) - 1)) <|chk (Zb9 0 ((a.length:Int) - 1) (a.length:Int)) <|d c b (a.take (((a.length:Int) - 1)).toNat))else (some (c,b,a))
def Zv6 (d:ZOk) (e:Bool) (b a:Str):ZHy:=bif (decide ((a.length:Int) > 0))then (chk (inK .i64 ((a.length:Int) - 1)) <|(idx a ((a.length:Int) - 1)).bind fun c=>ZtC d e b a (((c.toNat:Nat):Int) == 48))else (ZtC d e b a false)
def Zrg:Nat->Bool->Str->Str->ZHy
 |0,_,_,_=>none
 |n_+1,neg,digits,places=>Zv6 (Zrg n_) neg digits places
def ZAd (n:Nat) (s:(Bool×Str×Str)):ZHy:=Zrg n s.1 s.2.1 s.2.2
def ZAe (c:(Bool×Str×Str)->ZHy) (s:(Bool×Str×Str)):ZHy:=Zv6 (fun d b a=>c (d,b,a)) s.1 s.2.1 s.2.2
theorem ZDD:∀n s,ZAd (n+1) s=ZAe (ZAd n) s:=fun _ _=>rfl
def Zxb (c:Bool) (a b:Str):Option Str:=(Zrg big c a b).bind fun(e,f,d)=>Zxa e f d
def ZtD (d:ZOk) (c:Bool) (a b:Str) (e:Bool):ZHy:=bif e then (chk (Zb9 1 (a.length:Int) (a.length:Int)) <|d c (a.drop ((1:Int)).toNat) b)else (some (c,a,b))
def Zv7 (d:ZOk) (e:Bool) (a b:Str):ZHy:=bif (decide ((a.length:Int) > 1))then ((idx a 0).bind fun c=>ZtD d e a b (((c.toNat:Nat):Int) == 48))else (ZtD d e a b false)
def Zrh:Nat->Bool->Str->Str->ZHy
 |0,_,_,_=>none
 |n_+1,neg,digits,places=>Zv7 (Zrh n_) neg digits places
def ZAf (n:Nat) (s:(Bool×Str×Str)):ZHy:=Zrh n s.1 s.2.1 s.2.2
def ZAg (c:(Bool×Str×Str)->ZHy) (s:(Bool×Str×Str)):ZHy:=Zv7 (fun d b a=>c (d,b,a)) s.1 s.2.1 s.2.2
theorem ZDE:∀n s,ZAf (n+1) s=ZAg (ZAf n) s:=fun _ _=>rfl
def ZvL (c:Bool) (a b:Str):Option Str:=(Zrh big c a b).bind fun(e,f,d)=>Zxb e f d
def ZCA (n:Int):Option Int:=some n
def Zzb (a:Str->Int->Int->ZJQ) (s:Str) (n i:Int) (b:Bool):ZJQ:=bif b then (some (.ret (-1:Int)))else (chk (inK .i64 (10*n)) <|(idx s i).bind fun c=>chk (inK .i64 ((10*n)+(IntKind.wrap .i64 (IntKind.wrap .u8 (((c.toNat:Nat):Int) - 48))))) <|chk (inK .i64 (i+1)) <|a s ((10*n)+(IntKind.wrap .i64 (IntKind.wrap .u8 (((c.toNat:Nat):Int) - 48)))) (i+1))
def ZEW (a:Str->Int->Int->ZJQ) (s:Str) (n i:Int):ZJQ:=bif (decide (i < (s.length:Int)))then ((idx s i).bind fun c=>bif (decide (((c.toNat:Nat):Int) < 48))then (Zzb a s n i true)else ((idx s i).bind fun b=>Zzb a s n i (decide (((b.toNat:Nat):Int) > 57))))else (some (.brk n))
def ZvJ:Nat->Str->Int->Int->ZJQ
 |0,_,_,_=>none
 |n_+1,s,n,i=>ZEW (ZvJ n_) s n i
def Zq7 (s:Str):Option Int:=(ZvJ big s (0:Int) (0:Int)).bind fun
 | .ret q_=>some q_
 | .brk x0=>ZCA x0
def ZuP (a:Bool):Option Bool:=some a
def ZAk (y:Int):Option Bool:=chk (decide ((4:Int)≠0)) <|bif ((Int.tmod y 4) == 0)then (chk (decide ((100:Int)≠0)) <|bif ((Int.tmod y 100) != 0)then (ZuP true)else (chk (decide ((400:Int)≠0)) <|ZuP ((Int.tmod y 400) == 0)))else (ZuP false)
def Zri (a:Bool):Option Int:=bif a then (some (30:Int))else (some (31:Int))
def Zxc (m:Int) (a:Bool):Option Int:=bif a then (some (29:Int))else (bif (m == 2)then (some (28:Int))else (bif (m == 4)then (Zri true)else (bif (m == 6)then (Zri true)else (bif (m == 9)then (Zri true)else (Zri (m == 11))))))
def Zzc (y m:Int):Option Int:=bif (m == 2)then ((ZAk y).bind fun q=>Zxc m q)else (Zxc m false)
def ZCB (a n:Int):ZOf:=chk (inK .i64 (n+a)) <|chk (inK .i64 ((n+a) - 1)) <|chk (inK .i64 (((n+a) - 1) - 719162)) <|some ((((n+a) - 1) - 719162),true)
def ZEX (d:Int->Int->Int->Int->Int->ZHv) (b a c n m:Int):ZHv:=bif (decide (m < a))then ((Zzc b m).bind fun q=>chk (inK .i64 (n+q)) <|chk (inK .i64 (m+1)) <|d b a c (n+q) (m+1))else (some (c,n))
def Zzd:Nat->Int->Int->Int->Int->Int->ZHv
 |0,_,_,_,_,_=>none
 |n_+1,year,month,day,n,m=>ZEX (Zzd n_) year month day n m
def ZCC (b a c n:Int):ZOf:=(Zzd big b a c n (1:Int)).bind fun(d,e)=>ZCB d e
def Zze (c:ZTK) (b a d n y:Int):ZOh:=chk (inK .i64 (y+1)) <|c b a d n (y+1)
def ZEY (c:ZTK) (b a d n y:Int):ZOh:=bif (decide (y < b))then (chk (inK .i64 (n+365)) <|(ZAk y).bind fun q=>bif q then (chk (inK .i64 ((n+365)+1)) <|Zze c b a d ((n+365)+1) y)else (Zze c b a d (n+365) y))else (some (b,a,d,n))
def ZvM:Nat->Int->Int->Int->Int->Int->ZOh
 |0,_,_,_,_,_=>none
 |n_+1,year,month,day,n,y=>ZEY (ZvM n_) year month day n y
def ZpG (year:Int) (month:Int) (day:Int) (t35:Bool):ZOf:=bif t35 then (some (0,false))else ((ZvM big year month day (0:Int) (1:Int)).bind fun(x0,x1,x2,x3)=>ZCC x0 x1 x2 x3)
def ZAQ (b a c:Int):ZOf:=bif (decide (b < 1))then (ZpG b a c true)else (bif (decide (b > 9999))then (ZpG b a c true)else (bif (decide (a < 1))then (ZpG b a c true)else (bif (decide (a > 12))then (ZpG b a c true)else (bif (decide (c < 1))then (ZpG b a c true)else ((Zzc b a).bind fun q=>ZpG b a c (decide (c > q)))))))
def Zyz (b a c:Int):ZMR:=(ZAQ b a c).bind fun(q,d)=>some (b,a,c,d)
def ZyA (s:Str) (d:Bool):ZMR:=bif d then (chk (Zb9 6 (s.length:Int) (s.length:Int)) <|(Zq7 (s.drop ((6:Int)).toNat)).bind fun b=>chk (Zb9 3 5 (s.length:Int)) <|(Zq7 ((s.take ((5:Int)).toNat).drop ((3:Int)).toNat)).bind fun a=>chk (Zb9 0 2 (s.length:Int)) <|(Zq7 (s.take ((2:Int)).toNat)).bind fun c=>Zyz b a c)else (some (0,0,0,false))
def ZuQ (s:Str) (f:Bool):ZMR:=bif f then (chk (Zb9 0 4 (s.length:Int)) <|(Zq7 (s.take ((4:Int)).toNat)).bind fun b=>chk (Zb9 5 7 (s.length:Int)) <|(Zq7 ((s.take ((7:Int)).toNat).drop ((5:Int)).toNat)).bind fun a=>chk (Zb9 8 (s.length:Int) (s.length:Int)) <|(Zq7 (s.drop ((8:Int)).toNat)).bind fun e=>Zyz b a e)else ((idx s 2).bind fun c=>bif (((c.toNat:Nat):Int) == 46)then ((idx s 5).bind fun d=>ZyA s (((d.toNat:Nat):Int) == 46))else (ZyA s false))
def ZyB (s:Str) (b:Bool):ZMR:=bif b then (ZuQ s b)else ((idx s 4).bind fun c=>bif (((c.toNat:Nat):Int) == 47)then ((idx s 7).bind fun a=>ZuQ s (((a.toNat:Nat):Int) == 47))else (ZuQ s false))
def ZAl (s:Str):ZMR:=bif ((s.length:Int) != 10)then (some (0,0,0,false))else ((idx s 4).bind fun c=>bif (((c.toNat:Nat):Int) == 45)then ((idx s 7).bind fun a=>ZyB s (((a.toNat:Nat):Int) == 45))else (ZyB s false))
def ZA3 (s:Str):Option Str:=some s
def ZDT (b:Int->Int->Str->Option Str) (n a:Int) (s:Str):Option Str:=bif (decide (a > 0))then (chk (decide ((10:Int)≠0)) <|chk (decide ((([(IntKind.wrap .u8 (48+(IntKind.wrap .u8 (Int.tmod n 10))))]:ZnG).map fun n=>UInt8.ofNat (Int.toNat n)).length+s.length<=Zq)) <|chk (decide ((10:Int)≠0)) <|chk (inK .i64 (Int.tdiv n 10)) <|chk (inK .i64 (a - 1)) <|b (Int.tdiv n 10) (a - 1) ((([(IntKind.wrap .u8 (48+(IntKind.wrap .u8 (Int.tmod n 10))))]:ZnG).map fun n=>UInt8.ofNat (Int.toNat n))++s))else (some s)
def Zw9:Nat->Int->Int->Str->Option Str
 |0,_,_,_=>none
 |n_+1,n,width,s=>ZDT (Zw9 n_) n width s
def ZvK (n a:Int):Option Str:=(Zw9 big n a ([]:Str)).bind fun b=>ZA3 b
def Zp4:ZHw:=some (([]:Str),false)
def Zp5 (c:Bool) (b a:Str) (d:Bool):ZHw:=bif d then ((ZvL c b a).bind fun q=>some (q,true))else (Zp4)
def ZrP (g:Int) (t:Str) (j:Int) (i:Bool):ZHw:=bif i then ((Ztq t).bind fun(e,b,a,k)=>bif k then (bif (g == 4)then (Zp5 e b a true)else (Zp5 e b a (a == ([]:Str))))else (Zp5 e b a false))else (bif (j == 5)then ((ZAl t).bind fun(y,m,d,f)=>bif f then ((ZvK y 4).bind fun q=>chk (decide (q.length+([45]:Str).length<=Zq)) <|(ZvK m 2).bind fun c=>chk (decide ((q++([45]:Str)).length+c.length<=Zq)) <|chk (decide (((q++([45]:Str))++c).length+([45]:Str).length<=Zq)) <|(ZvK d 2).bind fun h=>chk (decide ((((q++([45]:Str))++c)++([45]:Str)).length+h.length<=Zq)) <|some (((((q++([45]:Str))++c)++([45]:Str))++h),true))else (Zp4))else (Zp4))
def Zvp (a:Bool):ZHw:=bif a then (some (([102,97,108,115,101]:Str),true))else (Zp4)
def Zvq (a:Str) (b:Bool):ZHw:=bif b then (some (([116,114,117,101]:Str),true))else (bif (a == ([102,97,108,115,101]:Str))then (Zvp (a == ([102,97,108,115,101]:Str)))else (Zvp (a == ([110,111]:Str))))
def ZtE (a:Int) (s:Str):ZHw:=(Zxj s).bind fun t=>bif (a == 1)then (some (s,true))else (bif (a == 2)then ((ZC9 t).bind fun q=>bif (q == ([116,114,117,101]:Str))then (Zvq q (q == ([116,114,117,101]:Str)))else (Zvq q (q == ([121,101,115]:Str))))else (bif (a == 3)then (ZrP a t a (a == 3))else (ZrP a t a (a == 4))))
def Zzg (a:ZnG):Option ZnG:=(Zoy a).bind fun q=>some q
def Zzh (d:ZTP) (a b:ZnG) (i c:Int) (e:ZnG):Option ZnG:=chk (inK .i64 (i+(b.length:Int))) <|chk (inR (i+(b.length:Int)) (e.length:Int)) <|chk (inK .i64 (i+1)) <|d a b (i+1) (e.set (((i+(b.length:Int))).toNat) (IntKind.wrap .u32 c))
def Zt2 (f:ZnG->ZnG->Int->Int->Int->ZnG->ZLK) (a b:ZnG) (i c j:Int) (d:ZnG):ZLK:=bif (decide (j < (b.length:Int)))then ((idx a i).bind fun h=>(idx b j).bind fun g=>chk (inK .i64 (i+j)) <|chk (inR (i+j) (d.length:Int)) <|(d[((i+j)).toNat]?).bind fun e=>chk (inK .i64 (i+j)) <|chk (inR (i+j) (d.length:Int)) <|chk (decide (0<=(32:Int))) <|chk (inK .i64 (j+1)) <|f a b i (shrK .u64 (IntKind.wrap .u64 (c+(IntKind.wrap .u64 ((IntKind.wrap .u64 ((IntKind.wrap .u64 h)*(IntKind.wrap .u64 g)))+(IntKind.wrap .u64 e))))) 32) (j+1) (d.set (((i+j)).toNat) (IntKind.wrap .u32 (IntKind.wrap .u64 (c+(IntKind.wrap .u64 ((IntKind.wrap .u64 ((IntKind.wrap .u64 h)*(IntKind.wrap .u64 g)))+(IntKind.wrap .u64 e))))))))else (some (a,b,i,c,d))
def ZvP:Nat->ZnG->ZnG->Int->Int->Int->ZnG->ZLK
 |0,_,_,_,_,_,_=>none
 |n_+1,a,b,i,c,j,out=>Zt2 (ZvP n_) a b i c j out
def ZBu (n:Nat) (s:(ZnG×ZnG×Int×Int×Int×ZnG)):ZLK:=ZvP n s.1 s.2.1 s.2.2.1 s.2.2.2.1 s.2.2.2.2.1 s.2.2.2.2.2
def ZxO (d:(ZnG×ZnG×Int×Int×Int×ZnG)->ZLK) (s:(ZnG×ZnG×Int×Int×Int×ZnG)):ZLK:=Zt2 (fun a b i c j e=>d (a,b,i,c,j,e)) s.1 s.2.1 s.2.2.1 s.2.2.2.1 s.2.2.2.2.1 s.2.2.2.2.2
theorem ZEF:∀n s,ZBu (n+1) s=ZxO (ZBu n) s:=fun _ _=>rfl
def Zt3 (rec_:ZTP) (a:ZnG) (b:ZnG) (i:Int) (out:ZnG):Option ZnG:=bif (decide (i < (a.length:Int)))then ((ZvP big a b i (0:Int) (0:Int) out).bind fun(x0,x1,x2,x3,x4)=>Zzh rec_ x0 x1 x2 x3 x4)else (some out)
def ZsL:Nat->ZnG->ZnG->Int->ZnG->Option ZnG
 |0,_,_,_,_=>none
 |n_+1,a,b,i,out=>Zt3 (ZsL n_) a b i out
def ZBv (n:Nat) (s:(ZnG×ZnG×Int×ZnG)):Option ZnG:=ZsL n s.1 s.2.1 s.2.2.1 s.2.2.2
def ZxP (c:(ZnG×ZnG×Int×ZnG)->Option ZnG) (s:(ZnG×ZnG×Int×ZnG)):Option ZnG:=Zt3 (fun a b i d=>c (a,b,i,d)) s.1 s.2.1 s.2.2.1 s.2.2.2
theorem ZEG:∀n s,ZBv (n+1) s=ZxP (ZBv n) s:=fun _ _=>rfl
def Zyh (a b:ZnG):Option ZnG:=chk (inK .i64 ((a.length:Int)+(b.length:Int))) <|chk (mkOk ((a.length:Int)+(b.length:Int)) ((a.length:Int)+(b.length:Int)) 4) <|(ZsL big a b (0:Int) (List.replicate (((a.length:Int)+(b.length:Int))).toNat (0:Int))).bind fun c=>Zzg c
def ZnS (a b:ZnI):Option ZnI:=(Zyh a.Words b.Words).bind fun q=>(Zog (!(a.Neg == b.Neg)) q).bind fun c=>some c
def Zzp (c:Int) (a:ZnG):Option ZnG:=chk (ZiZ (a.length+([(IntKind.wrap .u32 c)]:ZnG).length) 4) <|some (a++([(IntKind.wrap .u32 c)]:ZnG))
def ZsO (d:ZOn) (a b:ZnG) (c i:Int) (e:ZnG):ZCf:=chk (ZiZ (e.length+([(IntKind.wrap .u32 c)]:ZnG).length) 4) <|chk (decide (0<=(32:Int))) <|chk (inK .i64 (i+1)) <|d a b (shrK .u64 c 32) (i+1) (e++([(IntKind.wrap .u32 c)]:ZnG))
def ZsP (d:ZOn) (a b:ZnG) (c i:Int) (e:ZnG):ZCf:=bif (decide (i < (b.length:Int)))then ((idx b i).bind fun f=>ZsO d a b (IntKind.wrap .u64 (c+(IntKind.wrap .u64 f))) i e)else (ZsO d a b c i e)
def Zq6 (d:ZOn) (a b:ZnG) (c i:Int) (g:Bool) (e:ZnG):ZCf:=bif g then (bif (decide (i < (a.length:Int)))then ((idx a i).bind fun f=>ZsP d a b (IntKind.wrap .u64 (c+(IntKind.wrap .u64 f))) i e)else (ZsP d a b c i e))else (some (c,e))
def Zt6 (d:ZOn) (a b:ZnG) (c i:Int) (e:ZnG):ZCf:=bif (decide (i < (a.length:Int)))then (Zq6 d a b c i true e)else (Zq6 d a b c i (decide (i < (b.length:Int))) e)
def ZpH:Nat->ZnG->ZnG->Int->Int->ZnG->ZCf
 |0,_,_,_,_,_=>none
 |n_+1,a,b,c,i,out=>Zt6 (ZpH n_) a b c i out
def ZBy (n:Nat) (s:(ZnG×ZnG×Int×Int×ZnG)):ZCf:=ZpH n s.1 s.2.1 s.2.2.1 s.2.2.2.1 s.2.2.2.2
def ZxU (d:(ZnG×ZnG×Int×Int×ZnG)->ZCf) (s:(ZnG×ZnG×Int×Int×ZnG)):ZCf:=Zt6 (fun a b c i e=>d (a,b,c,i,e)) s.1 s.2.1 s.2.2.1 s.2.2.2.1 s.2.2.2.2
theorem ZEJ:∀n s,ZBy (n+1) s=ZxU (ZBy n) s:=fun _ _=>rfl
def Zu5 (a:ZnG) (b:ZnG):Option ZnG:=(ZpH big a b (0:Int) (0:Int) ([]:ZnG)).bind fun(x0,x1)=>Zzp x0 x1
def ZqA (a b:ZnI):Option ZnI:=bif (a.Neg == b.Neg)then ((Zu5 a.Words b.Words).bind fun q=>(Zog a.Neg q).bind fun e=>some e)else ((Zpa a.Words b.Words).bind fun h=>bif (decide (h>=0))then ((Zq8 a.Words b.Words).bind fun d=>(Zog a.Neg d).bind fun f=>some f)else ((Zq8 b.Words a.Words).bind fun g=>(Zog b.Neg g).bind fun c=>some c))
def Zqd (a:ZnI):Option ZnI:=(Zog (!a.Neg) a.Words).bind fun q=>some q
def Zta (e a:Bool) (n d:ZnI) (c b:ZnG):ZG0:=(Zq3 n d).bind fun q=>some (q,true)
def ZwL (e g c:Bool) (n d:ZnI) (b a:ZnG):ZG0:=bif e then ((Zqd n).bind fun f=>Zta g c f d b a)else (Zta g c n d b a)
def Ztb (g:Tf_8) (f i k e:Bool) (n d:ZnI) (j:Str) (a:Nat) (c b:ZnG):ZKE:=bif i then ((Zob 10).bind fun q=>(ZnS d q).bind fun h=>g f k e n h j a c b)else (some (f,k,e,n,d,c,b))
def Zvt (g:Tf_8) (h i f:Bool) (n d:ZnI) (b:Str) (a:Nat) (e c:ZnG):ZKE:=bif (decide (a < b.length))then (Ztb g h true i f n d b (a+(Utf8.decode ⟨List.toArray b⟩ a).2) e c)else (Ztb g h false i f n d b a e c)
def ZqY:Nat->Bool->Bool->Bool->ZnI->ZnI->Str->Nat->ZnG->ZnG->ZKE
 |0,_,_,_,_,_,_,_,_,_=>none
 |n_+1,neg,t2,t2_1,n,d,t43,t43_pos,t2_2,t2_3=>Zvt (ZqY n_) neg t2 t2_1 n d t43 t43_pos t2_2 t2_3
def ZzW (n:Nat) (s:(Bool×Bool×Bool×ZnI×ZnI×Str×Nat×ZnG×ZnG)):ZKE:=ZqY n s.1 s.2.1 s.2.2.1 s.2.2.2.1 s.2.2.2.2.1 s.2.2.2.2.2.1 s.2.2.2.2.2.2.1 s.2.2.2.2.2.2.2.1 s.2.2.2.2.2.2.2.2
def ZzX (f:(Bool×Bool×Bool×ZnI×ZnI×Str×Nat×ZnG×ZnG)->ZKE) (s:(Bool×Bool×Bool×ZnI×ZnI×Str×Nat×ZnG×ZnG)):ZKE:=Zvt (fun g i e n d h a c b=>f (g,i,e,n,d,h,a,c,b)) s.1 s.2.1 s.2.2.1 s.2.2.2.1 s.2.2.2.2.1 s.2.2.2.2.2.1 s.2.2.2.2.2.2.1 s.2.2.2.2.2.2.2.1 s.2.2.2.2.2.2.2.2
theorem ZDx:∀n s,ZzW (n+1) s=ZzX (ZzW n) s:=fun _ _=>rfl
def ZwM (f:Bool) (a:Str) (j e:Bool) (n d:ZnI) (c b:ZnG):ZG0:=(ZqY big f j e n d a 0 c b).bind fun(l,o,k,m,g,i,h)=>ZwL l o k m g i h
def ZrS (j:Bool->Str->Int->Int->Bool->Bool->ZnI->ZnI->ZnG->ZnG->ZnG->ZSg) (i:Bool) (a:Str) (k b:Int) (p g:Bool) (n d:ZnI) (h f e:ZnG):ZSg:=bif (decide (b < k))then (chk (inR b (h.length:Int)) <|(h[(b).toNat]?).bind fun c=>(Zob 10).bind fun q=>(ZnS n q).bind fun m=>(Zob (IntKind.wrap .i64 (IntKind.wrap .u8 (c - 48)))).bind fun o=>(ZqA m o).bind fun l=>chk (inK .i64 (b+1)) <|j i a k (b+1) p g l d h f e)else (some (i,a,p,g,n,d,f,e))
def Zs9:Nat->Bool->Str->Int->Int->Bool->Bool->ZnI->ZnI->ZnG->ZnG->ZnG->ZSg
 |0,_,_,_,_,_,_,_,_,_,_,_=>none
 |n_+1,neg,places,t28,t29,t2,t2_1,n,d,t27,t2_2,t2_3=>ZrS (Zs9 n_) neg places t28 t29 t2 t2_1 n d t27 t2_2 t2_3
def ZzY (n:Nat) (s:(Bool×Str×Int×Int×Bool×Bool×ZnI×ZnI×ZnG×ZnG×ZnG)):ZSg:=Zs9 n s.1 s.2.1 s.2.2.1 s.2.2.2.1 s.2.2.2.2.1 s.2.2.2.2.2.1 s.2.2.2.2.2.2.1 s.2.2.2.2.2.2.2.1 s.2.2.2.2.2.2.2.2.1 s.2.2.2.2.2.2.2.2.2.1 s.2.2.2.2.2.2.2.2.2.2
def Zvu (e:(Bool×Str×Int×Int×Bool×Bool×ZnI×ZnI×ZnG×ZnG×ZnG)->ZSg) (s:(Bool×Str×Int×Int×Bool×Bool×ZnI×ZnI×ZnG×ZnG×ZnG)):ZSg:=ZrS (fun h a j i k f n d g c b=>e (h,a,j,i,k,f,n,d,g,c,b)) s.1 s.2.1 s.2.2.1 s.2.2.2.1 s.2.2.2.2.1 s.2.2.2.2.2.1 s.2.2.2.2.2.2.1 s.2.2.2.2.2.2.2.1 s.2.2.2.2.2.2.2.2.1 s.2.2.2.2.2.2.2.2.2.1 s.2.2.2.2.2.2.2.2.2.2
theorem ZDy:∀n s,ZzY (n+1) s=Zvu (ZzY n) s:=fun _ _=>rfl
def ZuW (s:Str):ZG0:=(Ztq s).bind fun(e,c,a,n)=>bif (!n)then (some ((ZnB.mk (ZnI.mk false ([]:ZnG)) (ZnI.mk false ([]:ZnG))),false))else ((Zob 1).bind fun d=>chk (decide (c.length+a.length<=Zq)) <|chk (decide ((c++a).length<=281474976710656)) <|(Zs9 big e a (((c++a).map fun b=>((b.toNat:Nat):Int)).length:Int) (0:Int) false false (ZnI.mk false ([]:ZnG)) d ((c++a).map fun b=>((b.toNat:Nat):Int)) ([]:ZnG) ([]:ZnG)).bind fun(k,m,j,l,g,i,h,f)=>ZwM k m j l g i h f)
def ZtV (n:Int) (d b:Bool) (a c:ZnG):ZG0:=(Zwb n 1).bind fun(f,q)=>some (f,true)
def ZtW (e:Int) (t:Str) (h f a:Bool) (c b:ZnG):ZG0:=bif h then (some ((ZnB.mk (ZnI.mk false ([]:ZnG)) (ZnI.mk false ([]:ZnG))),false))else (bif (e == 2)then (bif (t == ([116,114,117,101]:Str))then (ZtV (1:Int) f a c b)else (ZtV (0:Int) f a c b))else (bif (e == 5)then ((ZAl t).bind fun(y,m,d,q)=>(ZAQ y m d).bind fun(n,j)=>ZtV n f a c b)else ((ZuW t).bind fun(i,g)=>some (i,g))))
def Zwl (a:Int) (s:Str):ZG0:=(ZtE a s).bind fun(t,b)=>bif (!b)then (ZtW a t true false false ([]:ZnG) ([]:ZnG))else (ZtW a t (a == 1) false false ([]:ZnG) ([]:ZnG))
def ZvI (c:G_api_Cell):ZG0:=bif c.Null then (some ((ZnB.mk (ZnI.mk false ([]:ZnG)) (ZnI.mk false ([]:ZnG))),false))else ((Zwl 4 c.Text).bind fun(q,a)=>some (q,a))
def Zqa (c:Bool) (f:ZnB):Option Bool:=bif c then (some false)else (bif ((f.Num.Words.length:Int) == 0)then ((Zpa f.Den.Words ([1]:ZnG)).bind fun q=>some (q == 0))else ((Zu3 f.Num.Words f.Den.Words).bind fun a=>(Zpa a ([1]:ZnG)).bind fun b=>some (b == 0)))
def Zpg (f:ZnB):Option Bool:=(Zqb f.Num).bind fun q=>bif (!q)then (Zqa true f)else ((Zqb f.Den).bind fun a=>bif (!a)then (Zqa true f)else (bif f.Den.Neg then (Zqa true f)else (Zqa ((f.Den.Words.length:Int) == 0) f)))
def ZvV (e:Bool) (a b:ZnB):Option Int:=bif e then (some (0:Int))else ((ZnS a.Num b.Den).bind fun q=>(ZnS b.Num a.Den).bind fun c=>(Zqd c).bind fun d=>(ZqA q d).bind fun f=>bif ((f.Words.length:Int) == 0)then (some (0:Int))else (bif f.Neg then (some (-1:Int))else (some (1:Int))))
def Zyj (a b:ZnB):Option Int:=(Zpg a).bind fun q=>bif (!q)then (ZvV true a b)else ((Zpg b).bind fun c=>ZvV (!c) a b)
def Zok (a b:ZnB):Option Bool:=(Zyj a b).bind fun q=>some (decide (q < 0))
def ZwD (a:ZoS):Option ZoS:=some a
def ZqW (b:ZMV) (c:ZCe) (e a:Int) (d:ZoS):Option ZoS:=chk (inK .i64 (a+1)) <|b c e (a+1) d
def ZwE (b:ZMV) (i:Int) (c:ZCe) (e d:Int) (a:ZoS) (f:ZnB):Option ZoS:=chk (Zb9 0 i (a.length:Int)) <|chk (ZiZ ((a.drop 0).take ((i).toNat - 0)).length 64) <|chk (ZiZ (((a.drop 0).take ((i).toNat - 0)).length+([f]:ZoS).length) 64) <|chk (Zb9 i (a.length:Int) (a.length:Int)) <|chk (ZiZ ((((a.drop 0).take ((i).toNat - 0))++([f]:ZoS)).length+((a.drop ((i).toNat)).take ((a.length:Int).toNat - (i).toNat)).length) 64) <|ZqW b c e d ((((a.drop 0).take ((i).toNat - 0))++([f]:ZoS))++((a.drop ((i).toNat)).take ((a.length:Int).toNat - (i).toNat)))
def Zs4 (c:ZT3) (i:Int) (a:ZCe) (e b:Int) (g:Bool) (d:ZoS) (f:ZnB):ZKA:=bif g then (chk (inK .i64 (i - 1)) <|c (i - 1) a e b d f)else (some (i,a,e,b,d,f))
def Zvn (b:ZT3) (i:Int) (d:ZCe) (g e:Int) (a:ZoS) (f:ZnB):ZKA:=bif (decide (i > 0))then (chk (inK .i64 (i - 1)) <|chk (inR (i - 1) (a.length:Int)) <|(a[((i - 1)).toNat]?).bind fun c=>(Zok f c).bind fun q=>Zs4 b i d g e q a f)else (Zs4 b i d g e false a f)
def ZqV:Nat->Int->ZCe->Int->Int->ZoS->ZnB->ZKA
 |0,_,_,_,_,_,_=>none
 |n_+1,i,t10,t11,t12,out,f=>Zvn (ZqV n_) i t10 t11 t12 out f
def ZzS (n:Nat) (s:(Int×ZCe×Int×Int×ZoS×ZnB)):ZKA:=ZqV n s.1 s.2.1 s.2.2.1 s.2.2.2.1 s.2.2.2.2.1 s.2.2.2.2.2
def ZzT (a:(Int×ZCe×Int×Int×ZoS×ZnB)->ZKA) (s:(Int×ZCe×Int×Int×ZoS×ZnB)):ZKA:=Zvn (fun i b e c d f=>a (i,b,e,c,d,f)) s.1 s.2.1 s.2.2.1 s.2.2.2.1 s.2.2.2.2.1 s.2.2.2.2.2
theorem ZDu:∀n s,ZzS (n+1) s=ZzT (ZzS n) s:=fun _ _=>rfl
def ZrO (c:ZMV) (d:ZCe) (e a:Int) (b:ZoS):Option ZoS:=bif (decide (a < e))then ((idx d a).bind fun h=>(ZvI h).bind fun(f,n)=>bif (!n)then (ZqW c d e a b)else ((ZqV big (b.length:Int) d e a b f).bind fun(k,m,j,l,g,i)=>ZwE c k m j l g i))else (some b)
def Zpy:Nat->ZCe->Int->Int->ZoS->Option ZoS
 |0,_,_,_,_=>none
 |n_+1,t10,t11,t12,out=>ZrO (Zpy n_) t10 t11 t12 out
def ZzU (n:Nat) (s:(ZCe×Int×Int×ZoS)):Option ZoS:=Zpy n s.1 s.2.1 s.2.2.1 s.2.2.2
def Zvo (a:ZTR) (s:(ZCe×Int×Int×ZoS)):Option ZoS:=ZrO (fun b e c d=>a (b,e,c,d)) s.1 s.2.1 s.2.2.1 s.2.2.2
theorem ZDv:∀n s,ZzU (n+1) s=Zvo (ZzU n) s:=fun _ _=>rfl
def Zr4 (c:G_api_Column):Option ZoS:=(Zpy big c.Cells (c.Cells.length:Int) (0:Int) ([]:ZoS)).bind fun a=>ZwD a
def Zqy:Option ZnB:=(ZnM 0).bind fun q=>some q
def ZtI (a e b:Bool) (f:ZnB) (d c:ZnG):ZFO:=bif a then (some ((ZnB.mk (ZnI.mk false ([]:ZnG)) (ZnI.mk false ([]:ZnG))),3))else (some (f,0))
def ZvO (a b:ZnI):ZFO:=(Zq3 a b).bind fun f=>bif (decide ((f.Num.Words.length:Int) > 256))then (ZtI true false false f ([]:ZnG) ([]:ZnG))else (ZtI (decide ((f.Den.Words.length:Int) > 256)) false false f ([]:ZnG) ([]:ZnG))
def ZvU (i:Bool) (a b:ZnB) (m j:Bool) (l k:ZnG):ZFO:=bif i then (some ((ZnB.mk (ZnI.mk false ([]:ZnG)) (ZnI.mk false ([]:ZnG))),1))else ((ZnS a.Num b.Den).bind fun q=>(ZnS b.Num a.Den).bind fun e=>(Zqd e).bind fun h=>(ZqA q h).bind fun d=>(ZnS a.Den b.Den).bind fun f=>(ZvO d f).bind fun(g,c)=>some (g,c))
def Zu6 (a b:ZnB):ZFO:=(Zpg a).bind fun q=>bif (!q)then (ZvU true a b false false ([]:ZnG) ([]:ZnG))else ((Zpg b).bind fun c=>ZvU (!c) a b false false ([]:ZnG) ([]:ZnG))
def ZpX (a b:ZnB):Option ZnB:=(Zu6 a b).bind fun(f,q)=>some f
def Zyg (a:ZnB):Option ZnB:=(Zqy).bind fun q=>(Zok a q).bind fun b=>bif b then ((Zqy).bind fun d=>(ZpX d a).bind fun c=>some c)else (some a)
def Zv3 (d b:Bool) (most:ZnB) (a c:ZnG):ZFO:=some (most,0)
def Zv4 (c:ZSi) (a b:ZoS) (i k:Int) (m e:Bool) (most:ZnB) (g f:ZnG):ZIs:=(Zpz i (a.length:Int)).bind fun q=>(Zpz k (b.length:Int)).bind fun j=>(ZpX q j).bind fun l=>(Zyg l).bind fun d=>(Zok most d).bind fun h=>bif h then (c a b i k m e d g f)else (c a b i k m e most g f)
def Zsq (f:Tf_0) (a b:ZoS) (i k:Int) (g h c:Bool) (most j:ZnB) (e d:ZnG):ZQB:=bif g then (chk (inK .i64 (k+1)) <|f a b i (k+1) h c most j e d)else (some (a,b,i,k,h,c,most,e,d))
def ZuG (c:Tf_0) (a b:ZoS) (i k:Int) (j d:Bool) (most g:ZnB) (e f:ZnG):ZQB:=bif (decide (k < (b.length:Int)))then ((idx b k).bind fun h=>(Zok g h).bind fun q=>Zsq c a b i k (!q) j d most g e f)else (Zsq c a b i k false j d most g e f)
def Zpd:Nat->ZoS->ZoS->Int->Int->Bool->Bool->ZnB->ZnB->ZnG->ZnG->ZQB
 |0,_,_,_,_,_,_,_,_,_,_=>none
 |n_+1,a,b,i,k,t4,t4_1,most,x_,t4_2,t4_3=>ZuG (Zpd n_) a b i k t4 t4_1 most x_ t4_2 t4_3
def Zzz (n:Nat) (s:(ZoS×ZoS×Int×Int×Bool×Bool×ZnB×ZnB×ZnG×ZnG)):ZQB:=Zpd n s.1 s.2.1 s.2.2.1 s.2.2.2.1 s.2.2.2.2.1 s.2.2.2.2.2.1 s.2.2.2.2.2.2.1 s.2.2.2.2.2.2.2.1 s.2.2.2.2.2.2.2.2.1 s.2.2.2.2.2.2.2.2.2
def ZzA (c:(ZoS×ZoS×Int×Int×Bool×Bool×ZnB×ZnB×ZnG×ZnG)->ZQB) (s:(ZoS×ZoS×Int×Int×Bool×Bool×ZnB×ZnB×ZnG×ZnG)):ZQB:=ZuG (fun a b i k g d most h f e=>c (a,b,i,k,g,d,most,h,f,e)) s.1 s.2.1 s.2.2.1 s.2.2.2.1 s.2.2.2.2.1 s.2.2.2.2.2.1 s.2.2.2.2.2.2.1 s.2.2.2.2.2.2.2.1 s.2.2.2.2.2.2.2.2.1 s.2.2.2.2.2.2.2.2.2
theorem ZC6:∀n s,Zzz (n+1) s=ZzA (Zzz n) s:=fun _ _=>rfl
def Zv5 (c:ZSi) (a b:ZoS) (i k:Int) (l d:Bool) (most m:ZnB) (e f:ZnG):ZIs:=(Zpd big a b i k l d most m e f).bind fun(p,s,o,q,g,n,j,h,r)=>Zv4 c p s o q g n j h r
def Zsr (f:Tf_1) (a b:ZoS) (i k:Int) (g h c:Bool) (most j:ZnB) (e d:ZnG):ZQF:=bif g then (chk (inK .i64 (i+1)) <|f a b (i+1) k h c most j e d)else (some (a,b,i,k,h,c,most,j,e,d))
def ZuH (c:Tf_1) (a b:ZoS) (i k:Int) (j d:Bool) (most g:ZnB) (f e:ZnG):ZQF:=bif (decide (i < (a.length:Int)))then ((idx a i).bind fun h=>(Zok g h).bind fun q=>Zsr c a b i k (!q) j d most g f e)else (Zsr c a b i k false j d most g f e)
def Zpe:Nat->ZoS->ZoS->Int->Int->Bool->Bool->ZnB->ZnB->ZnG->ZnG->ZQF
 |0,_,_,_,_,_,_,_,_,_,_=>none
 |n_+1,a,b,i,k,t4,t4_1,most,x_,t4_2,t4_3=>ZuH (Zpe n_) a b i k t4 t4_1 most x_ t4_2 t4_3
def ZzB (n:Nat) (s:(ZoS×ZoS×Int×Int×Bool×Bool×ZnB×ZnB×ZnG×ZnG)):ZQF:=Zpe n s.1 s.2.1 s.2.2.1 s.2.2.2.1 s.2.2.2.2.1 s.2.2.2.2.2.1 s.2.2.2.2.2.2.1 s.2.2.2.2.2.2.2.1 s.2.2.2.2.2.2.2.2.1 s.2.2.2.2.2.2.2.2.2
def ZzC (c:(ZoS×ZoS×Int×Int×Bool×Bool×ZnB×ZnB×ZnG×ZnG)->ZQF) (s:(ZoS×ZoS×Int×Int×Bool×Bool×ZnB×ZnB×ZnG×ZnG)):ZQF:=ZuH (fun a b i k g d most h f e=>c (a,b,i,k,g,d,most,h,f,e)) s.1 s.2.1 s.2.2.1 s.2.2.2.1 s.2.2.2.2.1 s.2.2.2.2.2.1 s.2.2.2.2.2.2.1 s.2.2.2.2.2.2.2.1 s.2.2.2.2.2.2.2.2.1 s.2.2.2.2.2.2.2.2.2
theorem ZC7:∀n s,ZzB (n+1) s=ZzC (ZzB n) s:=fun _ _=>rfl
def Zqr (c:ZSi) (a b:ZoS) (i k:Int) (m d:Bool) (most n:ZnB) (e f:ZnG):ZIs:=(Zpe big a b i k m d most n e f).bind fun(q,t,p,r,g,o,l,h,s,j)=>Zv5 c q t p r g o l h s j
def Zqs (c:ZSi) (a b:ZoS) (i k:Int) (j l d:Bool) (most:ZnB) (p o:Bool) (f e m n:ZnG):ZIs:=bif j then ((idx a i).bind fun g=>Zqr c a b i k l d most g f e)else ((idx b k).bind fun h=>Zqr c a b i k l d most h f e)
def Zss (f:ZSi) (a b:ZoS) (i k:Int) (h g c:Bool) (most:ZnB) (d e:ZnG):ZIs:=bif h then (bif (k == (b.length:Int))then (Zqs f a b i k true g c most false false d e ([]:ZnG) ([]:ZnG))else (bif (decide (i < (a.length:Int)))then ((idx a i).bind fun l=>(idx b k).bind fun j=>(Zok l j).bind fun q=>Zqs f a b i k q g c most false false d e ([]:ZnG) ([]:ZnG))else (Zqs f a b i k false g c most false false d e ([]:ZnG) ([]:ZnG))))else (some (g,c,most,d,e))
def ZuI (c:ZSi) (a b:ZoS) (i k:Int) (g d:Bool) (most:ZnB) (f e:ZnG):ZIs:=bif (decide (i < (a.length:Int)))then (Zss c a b i k true g d most f e)else (Zss c a b i k (decide (k < (b.length:Int))) g d most f e)
def ZnZ:Nat->ZoS->ZoS->Int->Int->Bool->Bool->ZnB->ZnG->ZnG->ZIs
 |0,_,_,_,_,_,_,_,_,_=>none
 |n_+1,a,b,i,k,t4,t4_1,most,t4_2,t4_3=>ZuI (ZnZ n_) a b i k t4 t4_1 most t4_2 t4_3
def ZzD (n:Nat) (s:(ZoS×ZoS×Int×Int×Bool×Bool×ZnB×ZnG×ZnG)):ZIs:=ZnZ n s.1 s.2.1 s.2.2.1 s.2.2.2.1 s.2.2.2.2.1 s.2.2.2.2.2.1 s.2.2.2.2.2.2.1 s.2.2.2.2.2.2.2.1 s.2.2.2.2.2.2.2.2
def ZzE (c:(ZoS×ZoS×Int×Int×Bool×Bool×ZnB×ZnG×ZnG)->ZIs) (s:(ZoS×ZoS×Int×Int×Bool×Bool×ZnB×ZnG×ZnG)):ZIs:=ZuI (fun a b i k g d most f e=>c (a,b,i,k,g,d,most,f,e)) s.1 s.2.1 s.2.2.1 s.2.2.2.1 s.2.2.2.2.1 s.2.2.2.2.2.1 s.2.2.2.2.2.2.1 s.2.2.2.2.2.2.2.1 s.2.2.2.2.2.2.2.2
theorem ZC8:∀n s,ZzD (n+1) s=ZzE (ZzD n) s:=fun _ _=>rfl
def Zqt (a:ZoS) (b:ZoS) (t18:Bool) (t4:Bool) (t4_1:Bool) (t4_2:ZnG) (t4_3:ZnG):ZFO:=bif t18 then (some ((ZnB.mk (ZnI.mk false ([]:ZnG)) (ZnI.mk false ([]:ZnG))),5))else ((Zqy).bind fun most=>(ZnZ big a b (0:Int) (0:Int) t4 t4_1 most t4_2 t4_3).bind fun(x0,x1,x2,x3,x4)=>Zv3 x0 x1 x2 x3 x4)
def Zp3 (a b:ZoS):ZFO:=bif ((a.length:Int) == 0)then (Zqt a b true false false ([]:ZnG) ([]:ZnG))else (Zqt a b ((b.length:Int) == 0) false false ([]:ZnG) ([]:ZnG))
def Zr5 (a:Bool):Option Bool:=some a
def Zxg (a b:ZpV):Option Bool:=bif (decide (a.Table < b.Table))then (Zr5 true)else (bif (a.Table == b.Table)then (Zr5 (decide (a.Column < b.Column)))else (Zr5 false))
def Zza (l:ZnT) (i:Int) (a:Zoi):Option ZnT:=chk (Zb9 0 i (l.length:Int)) <|chk (ZiZ (l.take (i).toNat).length 80) <|chk (ZiZ ((l.take (i).toNat).length+([a]:ZnT).length) 80) <|chk (Zb9 i (l.length:Int) (l.length:Int)) <|chk (ZiZ (((l.take (i).toNat)++([a]:ZnT)).length+(l.drop (i).toNat).length) 80) <|some (((l.take (i).toNat)++([a]:ZnT))++(l.drop (i).toNat))
def Zo1 (a:ZTG) (l:ZnT) (i:Int) (b:Bool) (c:Zoi):ZKv:=bif b then (chk (inK .i64 (i - 1)) <|a l (i - 1) c)else (some (l,i,c))
def ZxJ (a:ZTG) (l:ZnT) (i:Int) (c:Zoi):ZKv:=bif (decide (i > 0))then (chk (inK .i64 (i - 1)) <|(idx l (i - 1)).bind fun e=>(Zok e.Score c.Score).bind fun q=>bif q then (Zo1 a l i true c)else (chk (inK .i64 (i - 1)) <|(idx l (i - 1)).bind fun d=>(ZoY d.Score c.Score).bind fun f=>bif f then (chk (inK .i64 (i - 1)) <|(idx l (i - 1)).bind fun b=>(Zxg c.Ref b.Ref).bind fun g=>Zo1 a l i g c)else (Zo1 a l i false c)))else (Zo1 a l i false c)
def ZsI:Nat->ZnT->Int->Zoi->ZKv
 |0,_,_,_=>none
 |n_+1,l,i,h_=>ZxJ (ZsI n_) l i h_
def ZBr (n:Nat) (s:(ZnT×Int×Zoi)):ZKv:=ZsI n s.1 s.2.1 s.2.2
def ZBs (a:(ZnT×Int×Zoi)->ZKv) (s:(ZnT×Int×Zoi)):ZKv:=ZxJ (fun l i b=>a (l,i,b)) s.1 s.2.1 s.2.2
theorem ZEC:∀n s,ZBr (n+1) s=ZBs (ZBr n) s:=fun _ _=>rfl
def Zyf (l:ZnT) (a:Zoi):Option ZnT:=(ZsI big l (l.length:Int) a).bind fun(c,d,b)=>Zza c d b
def Zy8 (k:Int) (a:ZnT):ZJO:=chk (Zb9 0 (if (a.length:Int) < k then (a.length:Int)else k) (a.length:Int)) <|some (((a.drop 0).take (((if (a.length:Int) < k then (a.length:Int)else k)).toNat - 0)),0)
def Zy9 (a:ZOo) (k:Int) (q:ZoS) (d:ZrM) (e b:Int) (c:ZnT):ZFc:=chk (inK .i64 (b+1)) <|a k q d e (b+1) c
def ZvG (a:ZSj) (k:Int) (q:ZoS) (e:ZrM) (d f:Int) (c:Zo4) (g i:Int) (b:ZnT) (t:G_api_Table):ZHh:=chk (inK .i64 (i+1)) <|a k q e d f c g (i+1) b t
def ZvH (a:ZSj) (k:Int) (q:ZoS) (i:Int) (e:ZrM) (f h:Int) (g:Zo4) (j c:Int) (l:Bool) (d:ZnT) (t:G_api_Table) (s:ZnB):ZHh:=bif l then ((Zyf d (Zoi.mk (ZpV.mk t.ID i) s)).bind fun b=>ZvG a k q e f h g j c b t)else (ZvG a k q e f h g j c d t)
def ZtS (a:ZSj) (k:Int) (q:ZoS) (c:ZrM) (g h:Int) (f:Zo4) (j i:Int) (b:ZnT) (t:G_api_Table):ZHh:=bif (decide (i < j))then ((idx f i).bind fun p=>(Zr4 p).bind fun n=>(Zp3 q n).bind fun(d,e)=>(ZnM 1).bind fun o=>(ZpX o d).bind fun s=>bif (e == 0)then ((Zqy).bind fun l=>(Zok l s).bind fun m=>ZvH a k q i c g h f j i m b t s)else (ZvH a k q i c g h f j i false b t s))else (some (k,q,c,g,h,b))
def ZpE:Nat->Int->ZoS->ZrM->Int->Int->Zo4->Int->Int->ZnT->G_api_Table->ZHh
 |0,_,_,_,_,_,_,_,_,_,_=>none
 |n_+1,k,q,t36,t37,t38,t43,t44,i,out,t=>ZtS (ZpE n_) k q t36 t37 t38 t43 t44 i out t
def ZBp (n:Nat) (s:(Int×ZoS×ZrM×Int×Int×Zo4×Int×Int×ZnT×G_api_Table)):ZHh:=ZpE n s.1 s.2.1 s.2.2.1 s.2.2.2.1 s.2.2.2.2.1 s.2.2.2.2.2.1 s.2.2.2.2.2.2.1 s.2.2.2.2.2.2.2.1 s.2.2.2.2.2.2.2.2.1 s.2.2.2.2.2.2.2.2.2
def ZxH (a:Tf_5) (s:(Int×ZoS×ZrM×Int×Int×Zo4×Int×Int×ZnT×G_api_Table)):ZHh:=ZtS (fun k q e d f c g i b t=>a (k,q,e,d,f,c,g,i,b,t)) s.1 s.2.1 s.2.2.1 s.2.2.2.1 s.2.2.2.2.1 s.2.2.2.2.2.1 s.2.2.2.2.2.2.1 s.2.2.2.2.2.2.2.1 s.2.2.2.2.2.2.2.2.1 s.2.2.2.2.2.2.2.2.2
theorem ZEA:∀n s,ZBp (n+1) s=ZxH (ZBp n) s:=fun _ _=>rfl
def ZtT (b:ZOo) (k:Int) (q:ZoS) (d:ZrM) (e a:Int) (c:ZnT):ZFc:=bif (decide (a < e))then ((idx d a).bind fun t=>(ZpE big k q d e a t.Columns (t.Columns.length:Int) (0:Int) c t).bind fun(i,l,h,j,f,g)=>Zy9 b i l h j f g)else (some (k,c))
def ZsG:Nat->Int->ZoS->ZrM->Int->Int->ZnT->ZFc
 |0,_,_,_,_,_,_=>none
 |n_+1,k,q,t36,t37,t38,out=>ZtT (ZsG n_) k q t36 t37 t38 out
def ZBq (n:Nat) (s:(Int×ZoS×ZrM×Int×Int×ZnT)):ZFc:=ZsG n s.1 s.2.1 s.2.2.1 s.2.2.2.1 s.2.2.2.2.1 s.2.2.2.2.2
def ZxI (a:ZTX) (s:(Int×ZoS×ZrM×Int×Int×ZnT)):ZFc:=ZtT (fun k q c d e b=>a (k,q,c,d,e,b)) s.1 s.2.1 s.2.2.1 s.2.2.2.1 s.2.2.2.2.1 s.2.2.2.2.2
theorem ZEB:∀n s,ZBq (n+1) s=ZxI (ZBq n) s:=fun _ _=>rfl
def ZsH (l:ZrM) (k:Int) (a:Bool) (c:G_api_Column):ZJO:=bif a then (some (([]:ZnT),1))else ((Zr4 c).bind fun q=>(ZsG big k q l (l.length:Int) (0:Int) ([]:ZnT)).bind fun(b,d)=>Zy8 b d)
def ZpF (l:ZrM) (k:Int) (a:Bool) (c:G_api_Column):ZJO:=bif a then (some (([]:ZnT),2))else ((ZpO l).bind fun q=>bif (!q)then (ZsH l k true c)else (ZsH l k (decide ((c.Cells.length:Int) > 4096)) c))
def ZpW (l:ZrM) (c:G_api_Column) (k:Int):ZJO:=bif (decide (k < 0))then (ZpF l k true c)else (ZpF l k (decide (k > 1024)) c)
def Zv2:Option Bool:=some true
def Zsp (a:ZTI) (b d:ZnT) (e i:Int) (c:Bool):Zvi:=bif c then (some (.ret false))else (chk (inK .i64 (i+1)) <|a b d e (i+1))
def Zrw (a:ZTI) (b d:ZnT) (c i:Int):Zvi:=bif (decide (i < c))then ((idx d i).bind fun g=>(idx b i).bind fun f=>bif (!(g.Ref.Table == f.Ref.Table&&(g.Ref.Column == f.Ref.Column&&true)))then (Zsp a b d c i true)else ((idx b i).bind fun e=>(ZoY g.Score e.Score).bind fun q=>Zsp a b d c i (!q)))else (some (.brk ()))
def Zqq:Nat->ZnT->ZnT->Int->Int->Zvi
 |0,_,_,_,_=>none
 |n_+1,b,t12,t13,i=>Zrw (Zqq n_) b t12 t13 i
def Zzy (n:Nat) (s:(ZnT×ZnT×Int×Int)):Zvi:=Zqq n s.1 s.2.1 s.2.2.1 s.2.2.2
def ZuF (a:(ZnT×ZnT×Int×Int)->Zvi) (s:(ZnT×ZnT×Int×Int)):Zvi:=Zrw (fun b c d i=>a (b,c,d,i)) s.1 s.2.1 s.2.2.1 s.2.2.2
theorem ZC5:∀n s,Zzy (n+1) s=ZuF (Zzy n) s:=fun _ _=>rfl
def ZtU (a b:ZnT):Option Bool:=bif ((a.length:Int) != (b.length:Int))then (some false)else ((Zqq big b a (a.length:Int) (0:Int)).bind fun
 | .ret c=>some c
 | .brk ()=>Zv2)
def Zt9:Option Bool:=(Zqe).bind fun q=>some q
def Zua (a:ZT2) (k d b:Int) (c:G_api_Column) (e:(List ZrM)):Zvi:=chk (inK .i64 (b+1)) <|a k d (b+1) c e
def Zrm (b:Tf_6) (k:Int) (j:ZrM) (f g h d:Int) (a:Bool) (c:G_api_Column) (i:(List ZrM)) (e:ZnG):ZKD:=bif a then (some (.ret false))else (chk (inK .i64 (d+1)) <|b k j f g h (d+1) c i e)
def ZqB (h:Tf_6) (k:Int) (o:ZrM) (i j l d:Int) (c:G_api_Column) (m:(List ZrM)) (g:ZnG):ZKD:=bif (decide (d < l))then (chk (inR d (g.length:Int)) <|(g[(d).toNat]?).bind fun n=>(Zxz o c n).bind fun(a,e)=>(ZpW o c n).bind fun(b,f)=>(ZtU a b).bind fun q=>bif (!q)then (Zrm h k o i j l d true c m g)else (Zrm h k o i j l d (e != f) c m g))else (some (.brk (k,i,j,c,m)))
def ZoK:Nat->Int->ZrM->Int->Int->Int->Int->G_api_Column->(List ZrM)->ZnG->ZKD
 |0,_,_,_,_,_,_,_,_,_=>none
 |n_+1,k,x_,t76,t77,t88,t89,c,t75,t87=>ZqB (ZoK n_) k x_ t76 t77 t88 t89 c t75 t87
def ZxW (n:Nat) (s:(Int×ZrM×Int×Int×Int×Int×G_api_Column×(List ZrM)×ZnG)):ZKD:=ZoK n s.1 s.2.1 s.2.2.1 s.2.2.2.1 s.2.2.2.2.1 s.2.2.2.2.2.1 s.2.2.2.2.2.2.1 s.2.2.2.2.2.2.2.1 s.2.2.2.2.2.2.2.2
def Ztg (a:(Int×ZrM×Int×Int×Int×Int×G_api_Column×(List ZrM)×ZnG)->ZKD) (s:(Int×ZrM×Int×Int×Int×Int×G_api_Column×(List ZrM)×ZnG)):ZKD:=ZqB (fun k i d e f g c h b=>a (k,i,d,e,f,g,c,h,b)) s.1 s.2.1 s.2.2.1 s.2.2.2.1 s.2.2.2.2.1 s.2.2.2.2.2.1 s.2.2.2.2.2.2.1 s.2.2.2.2.2.2.2.1 s.2.2.2.2.2.2.2.2
theorem ZCD:∀n s,ZxW (n+1) s=Ztg (ZxW n) s:=fun _ _=>rfl
def ZqC (f:ZT2) (k e a:Int) (c:G_api_Column) (d:(List ZrM)):Zvi:=bif (decide (a < e))then (chk (inR a (d.length:Int)) <|(d[(a).toNat]?).bind fun g=>(Zsl k 8).bind fun q=>(Zsl k 2).bind fun b=>chk (inK .i64 (1024+b)) <|(ZoK big k g e a (([k,q,(1024+b)]:ZnG).length:Int) (0:Int) c d ([k,q,(1024+b)]:ZnG)).bind fun
 | .ret h=>some (.ret h)
 | .brk (x0,x1,x2,x3,x4)=>Zua f x0 x1 x2 x3 x4)else (some (.brk ()))
def ZoL:Nat->Int->Int->Int->G_api_Column->(List ZrM)->Zvi
 |0,_,_,_,_,_=>none
 |n_+1,k,t76,t77,c,t75=>ZqC (ZoL n_) k t76 t77 c t75
def ZxX (n:Nat) (s:(Int×Int×Int×G_api_Column×(List ZrM))):Zvi:=ZoL n s.1 s.2.1 s.2.2.1 s.2.2.2.1 s.2.2.2.2
def Zth (a:(Int×Int×Int×G_api_Column×(List ZrM))->Zvi) (s:(Int×Int×Int×G_api_Column×(List ZrM))):Zvi:=ZqC (fun k b e c d=>a (k,b,e,c,d)) s.1 s.2.1 s.2.2.1 s.2.2.2.1 s.2.2.2.2
theorem ZCE:∀n s,ZxX (n+1) s=Zth (ZxX n) s:=fun _ _=>rfl
def Zub (t:ZnG) (k:Int) (b:ZrM):Option Bool:=(ZBC t).bind fun d=>(Zud d 4).bind fun(l,e)=>(ZrT e 6).bind fun(c,f)=>chk (decide (0<=(0:Int)/\(0:Int)<=(l.length:Int)/\(l.length:Int)<=(l.length:Int)/\(l.length:Int)=(l.length:Int))) <|chk (inR 0 (l.length:Int)) <|(l[((0:Int)).toNat]?).bind fun a=>chk (decide (List.isEmpty ([a]:ZrM)=false)) <|chk (ZiZ ((l.take ((l.length:Int)).toNat).length+([a]:ZrM).length) 48) <|(ZoL big k (([l,b,((l.take ((l.length:Int)).toNat)++([a]:ZrM))]:(List ZrM)).length:Int) (0:Int) c ([l,b,((l.take ((l.length:Int)).toNat)++([a]:ZrM))]:(List ZrM))).bind fun
 | .ret g=>some g
 | .brk ()=>Zt9
def Zuc (a:ZTV) (t:ZnG) (k:Int) (e d:ZrM) (c b:Int):ZKy:=chk (inK .i64 (b+1)) <|a t k e d c (b+1)
def ZqD (d:ZnG->Int->ZrM->ZrM->Int->Int->Zo4->Int->Int->ZLP) (t:ZnG) (k:Int) (f e:ZrM) (b h:Int) (g:Zo4) (i a:Int):ZLP:=bif (decide (a < i))then ((idx g a).bind fun c=>bif (decide ((c.Cells.length:Int) > 12))then ((Zqe).bind fun q=>some (.ret q))else (chk (inK .i64 (a+1)) <|d t k f e b h g i (a+1)))else (some (.brk (t,k,f,e,b,h)))
def ZpA:Nat->ZnG->Int->ZrM->ZrM->Int->Int->Zo4->Int->Int->ZLP
 |0,_,_,_,_,_,_,_,_,_=>none
 |n_+1,t,k,raw,t31,t32,t33,t43,t44,t45=>ZqD (ZpA n_) t k raw t31 t32 t33 t43 t44 t45
def ZxY (n:Nat) (s:(ZnG×Int×ZrM×ZrM×Int×Int×Zo4×Int×Int)):ZLP:=ZpA n s.1 s.2.1 s.2.2.1 s.2.2.2.1 s.2.2.2.2.1 s.2.2.2.2.2.1 s.2.2.2.2.2.2.1 s.2.2.2.2.2.2.2.1 s.2.2.2.2.2.2.2.2
def Zti (a:(ZnG×Int×ZrM×ZrM×Int×Int×Zo4×Int×Int)->ZLP) (s:(ZnG×Int×ZrM×ZrM×Int×Int×Zo4×Int×Int)):ZLP:=ZqD (fun t k e d b g f h c=>a (t,k,e,d,b,g,f,h,c)) s.1 s.2.1 s.2.2.1 s.2.2.2.1 s.2.2.2.2.1 s.2.2.2.2.2.1 s.2.2.2.2.2.2.1 s.2.2.2.2.2.2.2.1 s.2.2.2.2.2.2.2.2
theorem ZCF:∀n s,ZxY (n+1) s=Zti (ZxY n) s:=fun _ _=>rfl
def ZqE (c:ZTV) (t:ZnG) (k:Int) (e d:ZrM) (b a:Int):ZKy:=bif (decide (a < b))then ((idx d a).bind fun f=>bif (decide ((f.Columns.length:Int) > 6))then ((Zqe).bind fun q=>some (.ret q))else ((ZpA big t k e d b a f.Columns (f.Columns.length:Int) (0:Int)).bind fun
 | .ret g=>some (.ret g)
 | .brk (x0,x1,x2,x3,x4,x5)=>Zuc c x0 x1 x2 x3 x4 x5))else (some (.brk (t,k,e)))
def ZoM:Nat->ZnG->Int->ZrM->ZrM->Int->Int->ZKy
 |0,_,_,_,_,_,_=>none
 |n_+1,t,k,raw,t31,t32,t33=>ZqE (ZoM n_) t k raw t31 t32 t33
def ZxZ (n:Nat) (s:(ZnG×Int×ZrM×ZrM×Int×Int)):ZKy:=ZoM n s.1 s.2.1 s.2.2.1 s.2.2.2.1 s.2.2.2.2.1 s.2.2.2.2.2
def Ztj (a:(ZnG×Int×ZrM×ZrM×Int×Int)->ZKy) (s:(ZnG×Int×ZrM×ZrM×Int×Int)):ZKy:=ZqE (fun t k d c b e=>a (t,k,d,c,b,e)) s.1 s.2.1 s.2.2.1 s.2.2.2.1 s.2.2.2.2.1 s.2.2.2.2.2
theorem ZCG:∀n s,ZxZ (n+1) s=Ztj (ZxZ n) s:=fun _ _=>rfl
def Zrn (t:ZnG) (k:Int) (a:ZrM) (b:Bool):Option Bool:=bif b then ((Zqe).bind fun q=>some q)else ((ZoM big t k a a (a.length:Int) (0:Int)).bind fun
 | .ret c=>some c
 | .brk (x0,x1,x2)=>Zub x0 x1 x2)
def Zwc (t:ZnG) (k:Int) (a:ZrM):Option Bool:=(ZAS t).bind fun q=>bif (!q)then (Zrn t k a true)else (Zrn t k a (decide ((a.length:Int) > 6)))
end
end Go.Proofs

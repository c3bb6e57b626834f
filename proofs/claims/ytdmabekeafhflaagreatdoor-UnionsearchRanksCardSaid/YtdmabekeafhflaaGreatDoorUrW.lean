/- Printed by wip/tools/tgen.py: walks. -/
import Derived.Test.YtdmabekeafhflaaGreatDoorUrU
import Derived.Test.YtdmabekeafhflaaGreatDoorUrX
import Derived.Test.YtdmabekeafhflaaGreatDoorUrWX
set_option linter.unusedVariables false
set_option linter.unusedSimpArgs false
set_option linter.unusedSectionVars false
namespace Go.Proofs
open Go Eng
set_option maxRecDepth 100000
noncomputable section
abbrev qe0:Sh:= .o (.v (.int .i64))
abbrev qe1:Sh:= .o (.ptr (0,1,1) 0 0)
abbrev qo2:ShO:= .arr (.int .u32) false
abbrev qe3:Sh:= .o (.v (.sl (.int .u32)))
abbrev qe4:Sh:= .o (.ptr (0,2,1) 0 0)
abbrev qo5:ShO:= .box [.o (.v (.int .i64)),.o (.v .str),.o (.full (0,4,1))]
abbrev qe6:Sh:= .o (.v .bool)
abbrev qo7:ShO:= .box [.o (.v (.int .i64)),.o (.v .str),.o (.full (0,3,1))]
abbrev qo8:ShO:= .box [.o (.v .bool),.o (.full (0,4,1)),.o (.v .bool),.o (.full (0,5,1))]
abbrev qo9:ShO:= .boxS (.st 2)
abbrev ZCv:Sh:= .o (.full (0,1,1))
abbrev ZEY:ShO:= .arr (.st 1) false
abbrev ZEf:Sh:= .o (.v (.sl (.int .i64)))
abbrev ZEe:Sh:= .o (.ptr (0,3,1) 0 0)
abbrev ZJ1:ShO:= .arr (.int .i64) false
abbrev qo15:ShO:= .box [.o (.v .bool),.o (.full (0,2,1)),.o (.v .bool),.o (.full (0,3,1))]
abbrev qo16:ShO:= .box [.o (.v (.int .i64)),.o (.v (.int .i64)),.o (.v .str),.o (.full (0,4,1))]
abbrev ZFf:Sh:= .o (.v (.int .u64))
abbrev ZPf:ShO:= .box [.o (.v .bool),.o (.full (0,5,1)),.o (.v .bool),.o (.full (0,6,1))]
abbrev qo19:ShO:= .box [.o (.v (.int .i64)),.o (.v (.int .i64)),.o (.v .str),.o (.full (0,3,1))]
abbrev ZIQ:Sh:= .o (.full (0,3,1))
abbrev ZPe:ShO:= .box [.o (.v (.int .i64)),.o (.v .str),.o (.full (0,5,1))]
abbrev ZIP:Sh:= .o (.v (.sl (.sl (.st 4))))
abbrev ZGH:Sh:= .o (.v (.int .u32))
abbrev ZHx:Sh:= .o (.v (.sl (.st 1)))
abbrev ZGq:Sh:= .o (.v .str)
abbrev ZIO:Sh:= .o (.ptr (0,0,0) 0 0)
abbrev ZFX:ShO:= .boxS (.st 4)
abbrev ZIi:ShO:= .boxS (.st 9)
abbrev ZJu:Sh:= .o (.v (.sl (.st 2)))
abbrev ZPd:ShO:= .boxS (.st 10)
abbrev ZPc:ShO:= .map (.st 7) (.st 4)
abbrev ZLo:Sh:= .o (.v (.sl (.st 11)))
abbrev ZPH:Sh:= .o (.rp (.sl (.sl (.st 4))) (0,2,1))
abbrev ZKY:ShO:= .arr (.st 11) false
abbrev ZLn:Sh:= .o (.v (.sl (.st 0)))
abbrev ZKZ:Sh:= .o (.sl (0,0,0))
abbrev ZKX:ShO:= .arr (.st 0) false
abbrev qo38:ShO:= .box [.o (.v .bool),.o (.full (0,6,1)),.o (.v .bool),.o (.full (0,7,1))]
abbrev ZR0:Sh:= .o (.rp (.sl (.sl (.st 4))) (0,3,0))
abbrev ZNc:Sh:= .o (.full (0,2,1))
abbrev ZPg:Sh:= .o (.ptr (0,4,1) 0 0)
abbrev ZNb:Sh:= .o (.v (.sl .str))
abbrev qo43:ShO:= .box [.o (.v (.int .i64)),.o (.v .str),.o (.full (0,2,1))]
abbrev ZSr:ShO:= .box [.o (.v .str),.o (.full (0,4,1))]
abbrev ZPD:ShO:= .own (.st 1) 1 (.st 0)
abbrev ZPG:Sh:= .o (.full (0,0,0))
abbrev ZPF:Sh:= .o (.full (0,4,1))
abbrev ZRZ:ShO:= .arr (.sl (.st 4)) false
abbrev ZNa:ShO:= .boxS (.st 3)
abbrev qo50:ShO:= .box [.o (.v .bool),.o (.full (0,2,1))]
abbrev qo51:ShO:= .box [.o (.v .str),.o (.full (0,3,1))]
abbrev ZRY:ShO:= .arr (.st 2) false
abbrev ZSs:Sh:= .o (.ptr (0,5,1) 0 0)
abbrev ZPC:ShO:= .boxS (.st 1)
abbrev ZPE:Sh:= .fn 44 [] []
abbrev qp0:List ShO:=[qo9,ZPd,ZJ1]
abbrev qs1:List Sh:=[qe3,qe3,qe0]
abbrev qp2:List ShO:=[ZIi,qo19,qo16,ZJ1,ZJ1]
abbrev qp3:List ShO:=[qo9,qo9,qo5,ZEY]
abbrev qp4:List ShO:=[ZPc,qo8,.boxS (.st 7),ZFX,qo2,qo2]
abbrev qs5:List Sh:=[qe1,qe4,ZIQ,qe0,qe0,qe6,qe0,qe0]
abbrev qs6:List Sh:=[qe1,qe4,ZIQ,qe0,qe0,qe6,qe0,qe0,ZIQ,qe0,qe0]
abbrev qs7:List Sh:=[ZEf,qe1,qe4,ZEe,ZEf,qe0,qe0]
abbrev qp8:List ShO:=[qo15,qo2,qo2]
abbrev qp9:List ShO:=[qo7,qo5,ZEY,ZEY]
abbrev ZLl:List Sh:=[qe1,qe4]
abbrev ZSq:List ShO:=[ZIi,qo7,qo5,ZEY,ZEY]
abbrev ZSo:List Sh:=[qe3,qe3,ZCv,ZFf,qe0]
abbrev ZSp:List ShO:=[qo8,ZPc,ZJ1,qo2,qo2]
abbrev ZPB:List ShO:=[qo9,qo7,ZEY]
abbrev ZSn:List Sh:=[qe1,qe4,ZIQ,qe0,qe0]
abbrev ZM9:List Sh:=[ZGq,qe6]
abbrev ZPz:List Sh:=[qe1,qe4,qe6]
abbrev qa0:ShA:= .p (.sl (.int .u32))
abbrev qa1:ShA:= .p (.int .i64)
abbrev qr2:ShR:= .p (.int .i64)
abbrev qr3:ShR:= .p .bool
abbrev qa4:ShA:= .p (.st 4)
abbrev qr5:ShR:= .p (.sl (.int .u32))
abbrev qr6:ShR:= .p (.st 4)
abbrev qa7:ShA:= .p .str
abbrev qa8:ShA:= .p (.int .u32)
abbrev qa9:ShA:= .p (.sl (.int .i64))
abbrev ZFI:ShA:= .p (.st 3)
abbrev ZFY:ShA:= .p (.st 2)
abbrev ZJ0:ShR:= .p (.int .u32)
abbrev ZIh:ShR:= .p (.st 3)
abbrev ZLp:ShA:= .box (.st 9)
abbrev ZNe:ShA:= .p (.int .u64)
abbrev ZNd:ShA:= .p (.sl .str)
abbrev ZIN:ShR:= .p .str
abbrev ZLm:ShR:= .p (.st 2)
abbrev ZPJ:ShA:= .p (.sl (.st 2))
abbrev ZPA:ShR:= .p (.int .u64)
abbrev ZPh:ShA:= .p (.st 1)
abbrev ZR1:ShA:= .arr (.st 11)
abbrev ZSt:ShA:= .part (.int .u32)
abbrev ZPI:ShA:= .p (.st 0)
noncomputable abbrev fd_ (f:Nat) (fn:Func) (sg:List (Nat×ZjE U)) (a:List ShA) (r:List ShR) (s:ZjA (Zke U a []) (Option (HT (oTy U [] r)))) (t:CT U (HT (oTy U [] r)) (HT (oTy U [] r))):FD U:=⟨f,fn,sg,a,[],r,[],[],s,s,t⟩
abbrev OK_ (D:FD U):Prop:=Zez X0.E D.f D.sig
theorem ok_ (D:FD U) (hf:X0.prog.funcs[D.f]? =some D.fn) (hs:Zdd X0 D.sigs:=by trivial) (h:D.lhs X0=D.rhs2:=by kernel_rfl) (ha:D.os.any (fun x=>isAr x.2)=false:=by rfl) (hw:D.w=D.s:=by rfl):OK_ D:=D.ok2 G0 hf hs ha hw h
theorem ZNi (D:FD U) (hf:X0.prog.funcs[D.f]? =some D.fn) (hs:Zdd X0 D.sigs:=by trivial) (h:D.lhs X0=D.rhs2:=by kernel_rfl) (hw:(fun v=>app (Zke U D.as []) D.w (Zl8 (r:=[]) D.as v ()))=fun v=>(app (Zke U D.as []) D.s (Zl8 (r:=[]) D.as v ())).bind fun r=>chk (Zid (Zdr D.as v) (D.b r)) (some r):=by kernel_rfl):OK_ D:=D.okA2 G0 hf hs hw h
theorem tr_:True:=trivial
def D0:=fd_ 6 Tryz.f6 [] [qa9] [qr3] Zyf .nil
theorem ZTU:OK_ D0:=ok_ D0 Tryz.func6
def D1:=fd_ 167 Tryz.f167 [] [qa7] [ZPA] Zo8 .nil
theorem ZSV:OK_ D1:=ok_ D1 Tryz.func167
def D2:=fd_ 122 Tryz.f122 [D1.sg] [qa7] [qr3] ZpF <|
.lr 9401 [0] [] [ZGq] [] 0 [] [] [] [] ZoZ Zum (fun n0=> .j 91012101415401 [0,24] [] ZM9 [] (Zqm (ZoZ n0)) <|
.j 91121012101415401 [0,39] [] ZM9 [] (Zql (ZoZ n0)) <|
.lo 94121121012101415401 [0] [] [ZGq] [] 2 [0] [] [ZGq] [] ZpJ (Zun (ZoZ n0)) (fun n1=> .j 91054121121012101415401 [0,62] [] ZM9 [] (ZrL (ZpJ n1)) <|
.nil) <|
.j 9112101415401 [0] [] [ZGq] [] (Zqk (ZoZ n0)) <|
.j 910214111111415401 [0,94] [] ZM9 [] (ZpK (ZoZ n0)) <|
.j 91021314111111415401 [0,125] [] ZM9 [] (Zph (ZoZ n0)) <|
.j 9102131314111111415401 [0,166] [] ZM9 [] (Zo2 (ZoZ n0)) <|
.nil) <|
.nil
theorem ZRE:OK_ D2:=ok_ D2 Tryz.func122 ⟨ZSV,tr_⟩
def D3:=fd_ 91 Tryz.f91 [D2.sg] [qa7] [qr3] ZDj .nil
theorem ZSU:OK_ D3:=ok_ D3 Tryz.func91 ⟨ZRE,tr_⟩
def D4:=fd_ 50 Tryz.f50 [D3.sg] [qa7] [qr3] Zz8 <|
.j 911 [2] [] [qe6] [] ZAe <|
.nil
theorem ZOb:OK_ D4:=ok_ D4 Tryz.func50 ⟨ZSU,tr_⟩
def D5:=fd_ 33 Tryz.f33 [] [ZFY] [qr2] ZxA .nil
theorem ZOa:OK_ D5:=ok_ D5 Tryz.func33
def D6:=fd_ 54 Tryz.f54 [D4.sg] [ZPI] [qr3] Zzk <|
.j 911 [2] [] [qe6] [] ZuC <|
.nil
theorem ZST:OK_ D6:=ok_ D6 Tryz.func54 ⟨ZOb,tr_⟩
def D7:=fd_ 53 Tryz.f53 [D6.sg] [.p (.sl (.st 0)),.fn 54 [] []] [qr3] ZvW <|
.lr 94101 [1,7,8,9] [] [.fn 54 [] [],ZLn,qe0,qe0] [] 0 [] [] [] [] ZtU ZwR (fun _=> .nil) <|
.nil
theorem ZSS:OK_ D7:=ok_ D7 Tryz.func53 ⟨ZST,tr_⟩
def D8:=fd_ 52 Tryz.f52 [D4.sg,D5.sg,D7.sg] [ZPh,.ptr (.st 2)] [qr3] ZAf <|
.j 911 [3] [] [qe6] [] Zwm <|
.nil
theorem ZSR:OK_ D8:=ok_ D8 Tryz.func52 ⟨ZOb,ZOa,ZSS,tr_⟩
def D9:=fd_ 92 Tryz.f92 [D8.sg] [.p (.sl (.st 1)),.fn 52 [] [.pp (.st 2)]] [qr2] ZqD <|
.lr 94101 [0,1,7,8] [] [ZHx,.fn 52 [] [.pp (.st 2)],qe0,qe0] [] 0 [] [] [] [] Zpt Zqg (fun _=> .nil) <|
.nil
theorem ZSQ:OK_ D9:=ok_ D9 Tryz.func92 ⟨ZSR,tr_⟩
def D10:=fd_ 51 Tryz.f51 [D9.sg] [.p (.sl (.st 1)),.fn 52 [] [.pp (.st 2)]] [qr3] Zpu .nil
theorem ZRU:OK_ D10:=ok_ D10 Tryz.func51 ⟨ZSQ,tr_⟩
def D11:=fd_ 27 Tryz.f27 [D4.sg,D5.sg,D10.sg] [ZFY] [qr3] ZrS <|
.j 9101 [1,27] [] [qe1,qe6] [qo9] Zuv <|
.nil
theorem ZIy:OK_ D11:=ok_ D11 Tryz.func27 ⟨ZOb,ZOa,ZRU,tr_⟩
def D13:=fd_ 229 Tryz.f229 [] [qa7] [qr3] ZyH .nil
theorem ZRP:OK_ D13:=ok_ D13 Tryz.func229
def D14:=fd_ 197 Tryz.f197 [D13.sg] [qa7,qa7] [qr3] Zzq <|
.j 911 [4] [] [qe6] [] ZuG <|
.nil
theorem ZRN:OK_ D14:=ok_ D14 Tryz.func197 ⟨ZRP,tr_⟩
def D15:=fd_ 198 Tryz.f198 [] [qa7] [qr3] Zwn .nil
theorem ZRM:OK_ D15:=ok_ D15 Tryz.func198
def D16:=fd_ 168 Tryz.f168 [D14.sg,D15.sg] [ZNd,qa7] [qr2,qr3] Zqh <|
.lo 940111 [0,1,6,7,8] [] [ZNb,ZGq,qe0,qe0,qe0] [] 0 [0,1,6,7] [] [ZNb,ZGq,qe0,qe0] [] ZpP Zq4 (fun _=> .nil) <|
.j 911111 [4,5] [] [qe0,qe6] [] Zpg <|
.nil
theorem ZRL:OK_ D16:=ok_ D16 Tryz.func168 ⟨ZRN,ZRM,tr_⟩
def D17:=fd_ 123 Tryz.f123 [D16.sg] [ZNd,ZNd] [qr2] ZxD <|
.lo 941011 [1,5,10,11,12] [] [ZNb,qe0,ZNb,qe0,qe0] [] 0 [5] [] [qe0] [] Zto Zyi (fun n0=> .j 9111541011 [1,5,10,11,12] [] [ZNb,qe0,ZNb,qe0,qe0] [] (ZvY (Zto n0)) <|
.nil) <|
.nil
theorem ZRK:OK_ D17:=ok_ D17 Tryz.func123 ⟨ZRL,tr_⟩
def D18:=fd_ 182 Tryz.f182 [] [qa0] [qr5] Zpr <|
.lo 9401 [0] [] [qe3] [] 0 [0] [] [qe3] [] Zp9 Zy4 (fun n0=> .j 9105401 [0,14] [] [qe3,qe6] [] (Zwq (Zp9 n0)) <|
.nil) <|
.nil
theorem ZGe:OK_ D18:=ok_ D18 Tryz.func182
def D19:=fd_ 146 Tryz.f146 [D18.sg] [ZNe] [qr5] Zuk .nil
theorem ZML:OK_ D19:=ok_ D19 Tryz.func146 ⟨ZGe,tr_⟩
def D20:=fd_ 141 Tryz.f141 [] [.p .bool,qa0] [ZIh] Zpy <|
.j 911 [4] [] [qe1] [qo50,qo2] Zxa <|
.nil
theorem ZHk:OK_ D20:=ok_ D20 Tryz.func141
def D21:=fd_ 106 Tryz.f106 [D19.sg,D20.sg] [qa1] [ZIh] Zwt .nil
theorem ZRJ:OK_ D21:=ok_ D21 Tryz.func106 ⟨ZML,ZHk,tr_⟩
def D22:=fd_ 177 Tryz.f177 [] [ZFI] [qr3] ZvG <|
.j 9111 [2] [] [qe6] [] ZpR <|
.nil
theorem ZRI:OK_ D22:=ok_ D22 Tryz.func177
def D23:=fd_ 138 Tryz.f138 [D22.sg] [.p (.sl (.st 3))] [qr3] Zy8 <|
.lr 94101 [5,6,7] [] [.o (.v (.sl (.st 3))),qe0,qe0] [] 0 [] [] [] [] ZyG ZB6 (fun _=> .nil) <|
.nil
theorem ZMK:OK_ D23:=ok_ D23 Tryz.func138 ⟨ZRI,tr_⟩
def D24:=fd_ 117 Tryz.f117 [] [qa1] [qr3] Zxt .nil
theorem ZRH:OK_ D24:=ok_ D24 Tryz.func117
def D25:=fd_ 86 Tryz.f86 [D24.sg] [qa1,qa1] [qr2] ZtA .nil
theorem ZMJ:OK_ D25:=ok_ D25 Tryz.func86 ⟨ZRH,tr_⟩
def D26:=fd_ 224 Tryz.f224 [] [qa8] [qr3] ZAr .nil
theorem ZRG:OK_ D26:=ok_ D26 Tryz.func224
def D27:=fd_ 179 Tryz.f179 [D26.sg] [qa8,qa8] [qr2] ZzJ .nil
theorem ZRF:OK_ D27:=ok_ D27 Tryz.func179 ⟨ZRG,tr_⟩
def D28:=fd_ 140 Tryz.f140 [D25.sg,D27.sg] [qa0,qa0] [qr2] Zp2 <|
.lr 941011 [0,1,6] [] qs1 [] 0 [] [] [] [] ZsP ZvD (fun _=> .nil) <|
.nil
theorem ZKO:OK_ D28:=ok_ D28 Tryz.func140 ⟨ZMJ,ZRF,tr_⟩
def D29:=fd_ 219 Tryz.f219 [] [qa0] [.own (.int .u32)] Zp4 <|
.j 9101 [0,4] [] [qe3,qe6] [] ZoW <|
.nil
theorem ZMI:OK_ D29:=ok_ D29 Tryz.func219
def D30:=fd_ 249 Tryz.f249 [] [qa8,qa8,qa8] [ZJ0,ZJ0] Zzo <|
.j 9101 [0,1,2,15] [] [ZGH,ZGH,ZGH,qe6] [] ZuE <|
.nil
theorem ZRD:OK_ D30:=ok_ D30 Tryz.func249
def D31:=fd_ 220 Tryz.f220 [D30.sg,D18.sg] [qa0,qa8] [qr5,ZJ0] ZvZ <|
.lo 9410111 [0,1,6,7,8] [] [qe3,ZGH,ZCv,ZGH,qe0] [qo2] 0 [6,7] [] [ZCv,ZGH] [qo2] ZtY ZwV (fun _=> .nil) <|
.nil
theorem ZRC:OK_ D31:=ok_ D31 Tryz.func220 ⟨ZRD,ZGe,tr_⟩
def D32:=fd_ 156 Tryz.f156 [] [qa8] [qr2] Zzn <|
.j 911 [0,2] [] [ZGH,qe0] [] Zw8 <|
.j 9111 [0,2] [] [ZGH,qe0] [] ZsT <|
.nil
theorem ZRB:OK_ D32:=ok_ D32 Tryz.func156
def D33:=fd_ 221 Tryz.f221 [D32.sg] [qa8] [qr2] Zs8 .nil
theorem ZRA:OK_ D33:=ok_ D33 Tryz.func221 ⟨ZRB,tr_⟩
def D34:=fd_ 222 Tryz.f222 [] [qa0,qa1] [.own (.int .u32)] ZqF <|
.lo 941011 [1,5,13,14,15] [] [qe0,ZCv,qe3,qe0,qe0] [qo2] 0 [5] [] [ZCv] [qo2] ZsN ZvB (fun _=> .nil) <|
.nil
theorem ZRz:OK_ D34:=ok_ D34 Tryz.func222
def D35:=fd_ 183 Tryz.f183 [] [qa8,qa8,qa8] [ZJ0,ZJ0] Zvd .nil
theorem ZMH:OK_ D35:=ok_ D35 Tryz.func183
def D36:=fd_ 180 Tryz.f180 [] [qa8,qa8,qa8] [ZJ0,ZJ0] Zxo .nil
theorem ZMG:OK_ D36:=ok_ D36 Tryz.func180
noncomputable def D37:FD U:=⟨223,Tryz.f223,[D35.sg,D36.sg],[ZSt,qa0],[(0,.arr (.int .u32))],[ZJ0],[],[],ZzV,ZyF,
.lo 94011111 [0,1,5,7,8] [] [ZKZ,qe3,qe0,ZFf,ZFf] [qo2] 0 [0,1,5,7] [] [ZKZ,qe3,qe0,ZFf] [qo2] Zty ZxK (fun n0=> .j 91054011111 [0,1,5,7,8,71] [] [ZKZ,qe3,qe0,ZFf,ZFf,qe6] [qo2] (ZvF (Zty n0)) <|
.nil) <|
.lo 941011111111 [0,1,5,7,9,10,82,83,84] [] [ZKZ,qe3,qe0,ZFf,ZGH,ZFf,qe3,qe0,qe0] [qo2] 2 [0,1,5,7,9,10] [] [ZKZ,qe3,qe0,ZFf,ZGH,ZFf] [qo2] ZxI ZzZ (fun _=> .nil) <|
.lo 941011111111111 [0,5,7,13,130,131,132] [] [ZKZ,qe0,ZFf,ZGH,qe3,qe0,qe0] [qo2] 4 [0,5,7,13] [] [ZKZ,qe0,ZFf,ZGH] [qo2] ZvE ZxJ (fun _=> .nil) <|
.nil⟩
theorem ZRy:OK_ D37:=ZNi D37 Tryz.func223 ⟨ZMH,ZMG,tr_⟩
noncomputable def D38:FD U:=⟨182,Tryz.f182,[],[ZSt],[(0,.arr (.int .u32))],[.view 0],[],[],Zw9,Zv0,
.lo 9401 [0] [] [ZKZ] [qo2] 0 [0] [] [ZKZ] [qo2] ZsR ZxH (fun n0=> .j 9105401 [0,14] [] [ZKZ,qe6] [qo2] (Zu3 (ZsR n0)) <|
.nil) <|
.nil⟩
theorem ZRx:OK_ D38:=ZNi D38 Tryz.func182
def D39:=fd_ 181 Tryz.f181 [] [qa0,qa1] [ZJ0] Ztw .nil
theorem ZMF:OK_ D39:=ok_ D39 Tryz.func181
noncomputable def D40:FD U:=⟨181,Tryz.f181,[],[ZSt,qa1],[(0,.arr (.int .u32))],[ZJ0],[],[],Zy3,Zu1,
.nil⟩
theorem ZRw:OK_ D40:=ZNi D40 Tryz.func181
noncomputable def D41:FD U:=⟨178,Tryz.f178,[D28.sg,D29.sg,D31.sg,D18.sg,D33.sg,D34.sg,D37.sg,D38.sg,D40.sg],[qa0,qa0],[],[qr5,qr5],[],[(84,7)],ZqR,ZqR,
.lo 9410111111 [8,9,10,11,12,13] [11] [qe0,qe0,ZCv,qe3,ZNc,qe0] [qo2,qo2] 1 [8,9,10,12] [] [qe0,qe0,ZCv,ZNc] [qo2,qo2] Zr5 Zxr (fun _=> .nil) <|
.lo 941011111111 [9,12,14,86,87] [] [qe0,ZCv,.o (.sl (0,2,1)),qe0,qe0] [qo2,qo2] 3 [12,14] [] [ZCv,.o (.sl (0,2,1))] [qo2,qo2] Zr4 Zxq (fun _=> .nil) <|
.nil⟩
theorem ZME:OK_ D41:=ok_ D41 Tryz.func178 ⟨ZKO,ZMI,ZRC,ZGe,ZRA,ZRz,ZRy,ZRx,ZRw,tr_⟩
def D42:=fd_ 139 Tryz.f139 [D41.sg] [qa0,qa0] [qr5] ZsQ <|
.lo 9401 [0,1] [] [qe3,qe3] [] 0 [0] [] [qe3] [] ZpI Zwh (fun _=> .nil) <|
.nil
theorem ZMD:OK_ D42:=ok_ D42 Tryz.func139 ⟨ZME,tr_⟩
def D43:=fd_ 145 Tryz.f145 [D42.sg,D41.sg,D20.sg] [ZFI,ZFI] [qr6] Zro .nil
theorem ZIx:OK_ D43:=ok_ D43 Tryz.func145 ⟨ZMD,ZME,ZHk,tr_⟩
def D44:=fd_ 105 Tryz.f105 [D23.sg,D43.sg] [ZFI,ZFI] [qr6,qr2] ZAo .nil
theorem ZRv:OK_ D44:=ok_ D44 Tryz.func105 ⟨ZMK,ZIx,tr_⟩
def D45:=fd_ 69 Tryz.f69 [D21.sg,D44.sg] [qa1,qa1] [qr6,qr2] ZAn .nil
theorem ZMC:OK_ D45:=ok_ D45 Tryz.func69 ⟨ZRJ,ZRv,tr_⟩
def D46:=fd_ 58 Tryz.f58 [D45.sg] [] [qr6] Zx3 .nil
theorem ZGd:OK_ D46:=ok_ D46 Tryz.func58 ⟨ZMC,tr_⟩
def D47:=fd_ 31 Tryz.f31 [D45.sg,D46.sg] [qa1,qa1] [qr6] ZAk .nil
theorem ZIw:OK_ D47:=ok_ D47 Tryz.func31 ⟨ZMC,ZGd,tr_⟩
def D48:=fd_ 93 Tryz.f93 [D17.sg,D47.sg] [ZNd,ZNd] [qr6] Zwo .nil
theorem ZMB:OK_ D48:=ok_ D48 Tryz.func93 ⟨ZRK,ZIw,tr_⟩
def D49:=fd_ 55 Tryz.f55 [(94,ZCe.sig),D48.sg] [ZPh,ZPh] [qr6] ZxE .nil
theorem ZRu:OK_ D49:=ok_ D49 Tryz.func55 ⟨ZDC,ZMB,tr_⟩
def D51:=fd_ 56 Tryz.f56 [(95,ZBz.sig),D48.sg] [qa7,qa7] [qr6] ZyE .nil
theorem ZRt:OK_ D51:=ok_ D51 Tryz.func56 ⟨ZC6,ZMB,tr_⟩
def D52:=fd_ 99 Tryz.f99 [D23.sg,D42.sg,D28.sg] [qa4] [qr3] ZqX <|
.j 911 [2] [] [qe6] [] Ztz <|
.nil
theorem ZIv:OK_ D52:=ok_ D52 Tryz.func99 ⟨ZMK,ZMD,ZKO,tr_⟩
def D53:=fd_ 144 Tryz.f144 [D18.sg] [qa0,qa0] [qr5] Zrr <|
.lo 941011 [1,5,17,18,19] [] [qe3,ZCv,qe3,qe0,qe0] [qo2] 0 [5] [] [ZCv] [qo2] ZrJ ZwT (fun n0=> .lo 9410114011541011 [1,5,6,7,8,17,18,19,24,25,26] [] [qe3,ZCv,qe0,ZGH,ZFf,qe3,qe0,qe0,qe3,qe0,qe0] [qo2] 2 [1,5,6,8,17,18,19] [] [qe3,ZCv,qe0,ZFf,qe3,qe0,qe0] [qo2] ZtX (ZwU (ZrJ n0)) (fun _=> .nil) <|
.nil) <|
.nil
theorem ZMA:OK_ D53:=ok_ D53 Tryz.func144 ⟨ZGe,tr_⟩
def D54:=fd_ 101 Tryz.f101 [D53.sg,D20.sg] [ZFI,ZFI] [ZIh] Zo5 .nil
theorem ZKN:OK_ D54:=ok_ D54 Tryz.func101 ⟨ZMA,ZHk,tr_⟩
def D55:=fd_ 102 Tryz.f102 [] [ZFI] [ZIh] Ztx <|
.j 911 [2] [] [qe1] [ZNa] Zv1 <|
.nil
theorem ZMz:OK_ D55:=ok_ D55 Tryz.func102
def D56:=fd_ 142 Tryz.f142 [D39.sg,D36.sg,D18.sg] [qa0,qa0] [qr5] Zt7 <|
.lo 9410111 [0,1,5,6,20,21] [] [qe3,qe3,ZCv,ZGH,qe0,qe0] [qo2] 0 [5,6] [] [ZCv,ZGH] [qo2] Zuj Zxp (fun _=> .nil) <|
.nil
theorem ZMy:OK_ D56:=ok_ D56 Tryz.func142 ⟨ZMF,ZMG,ZGe,tr_⟩
def D57:=fd_ 143 Tryz.f143 [D39.sg,D35.sg,D18.sg] [qa0,qa0] [qr5] Ztp <|
.lo 9410111 [0,1,5,6,12,13] [] [qe3,qe3,ZCv,ZGH,qe0,qe0] [qo2] 0 [5] [] [ZCv] [qo2] ZtZ ZwW (fun _=> .nil) <|
.nil
theorem ZRs:OK_ D57:=ok_ D57 Tryz.func143 ⟨ZMF,ZMH,ZGe,tr_⟩
def D58:=fd_ 100 Tryz.f100 [D56.sg,D20.sg,D28.sg,D57.sg] [ZFI,ZFI] [ZIh] Zx4 .nil
theorem ZMx:OK_ D58:=ok_ D58 Tryz.func100 ⟨ZMy,ZHk,ZKO,ZRs,tr_⟩
def D59:=fd_ 65 Tryz.f65 [D52.sg,D54.sg,D55.sg,D58.sg] [qa4,qa4] [qr2] ZwY <|
.j 9101 [2,3,13] [] ZPz [ZFX,ZFX] Zzp <|
.nil
theorem ZIu:OK_ D59:=ok_ D59 Tryz.func65 ⟨ZIv,ZKN,ZMz,ZMx,tr_⟩
def D60:=fd_ 57 Tryz.f57 [D46.sg,D59.sg] [qa4] [qr2] Zzm .nil
theorem ZIt:OK_ D60:=ok_ D60 Tryz.func57 ⟨ZGd,ZIu,tr_⟩
def D61:=fd_ 176 Tryz.f176 [] [] [.map (.int .i64) (.st 6)] ZCY .nil
theorem ZMw:OK_ D61:=ok_ D61 Tryz.func176
def D63:=fd_ 210 Tryz.f210 [(233,ZBs.sig)] [qa7] [ZIN] ZBR .nil
theorem ZRr:OK_ D63:=ok_ D63 Tryz.func210 ⟨ZB3,tr_⟩
def D64:=fd_ 273 Tryz.f273 [] [qa7,qa7] [qr3] ZpQ <|
.j 911 [4] [] [qe6] [] Zqi <|
.nil
theorem ZMv:OK_ D64:=ok_ D64 Tryz.func273
def D65:=fd_ 259 Tryz.f259 [D64.sg] [qa7,qa7] [ZIN,qr3] ZsW .nil
theorem ZRq:OK_ D65:=ok_ D65 Tryz.func259 ⟨ZMv,tr_⟩
def D66:=fd_ 237 Tryz.f237 [D65.sg] [qa7,qa7] [ZIN,qr3] ZxC .nil
theorem ZRp:OK_ D66:=ok_ D66 Tryz.func237 ⟨ZRq,tr_⟩
def D67:=fd_ 260 Tryz.f260 [D64.sg] [qa7,qa7] [ZIN] ZsJ .nil
theorem ZRo:OK_ D67:=ok_ D67 Tryz.func260 ⟨ZMv,tr_⟩
def D68:=fd_ 238 Tryz.f238 [D67.sg] [qa7,qa7] [ZIN] Zw7 .nil
theorem ZRn:OK_ D68:=ok_ D68 Tryz.func238 ⟨ZRo,tr_⟩
def D70:=fd_ 272 Tryz.f272 [(288,Zv2.sig)] [qa7,qa7] [qr2] Zsj <|
.j 914011 [0,1,5,16] [] [ZGq,ZGq,qe0,qe6] [] Zq5 <|
.nil
theorem ZRm:OK_ D70:=ok_ D70 Tryz.func272 ⟨ZzM,tr_⟩
def D71:=fd_ 261 Tryz.f261 [D70.sg] [qa7,qa7] [ZIN,ZIN,qr3] Zwd .nil
theorem ZRl:OK_ D71:=ok_ D71 Tryz.func261 ⟨ZRm,tr_⟩
def D72:=fd_ 239 Tryz.f239 [D71.sg] [qa7,qa7] [ZIN,ZIN,qr3] ZAg .nil
theorem ZMu:OK_ D72:=ok_ D72 Tryz.func239 ⟨ZRl,tr_⟩
def D73:=fd_ 240 Tryz.f240 [(233,ZBs.sig)] [qa7,qa1] [qr3] Zxs <|
.j 911 [4] [] [qe6] [] ZuF <|
.nil
theorem ZRk:OK_ D73:=ok_ D73 Tryz.func240 ⟨ZB3,tr_⟩
def D74:=fd_ 215 Tryz.f215 [D66.sg,D68.sg,D72.sg,D73.sg,D29.sg,D53.sg,D19.sg,D56.sg,D20.sg,D43.sg] [qa7] [qr6,qr3] Zul <|
.j 9111 [2,4,5] [] [qe1,ZGq,qe6] qp8 Zt8 <|
.j 9101111 [2,5,6,7,39] [] [qe1,qe6,ZGq,ZGq,qe6] qp8 Zr6 <|
.lo 941011111111 [2,5,7,9,10,11,47,48,49] [9,10] [qe1,qe6,ZGq,qe3,qe3,ZNc,ZIQ,qe0,qe0] [qo8,qo2,.arr (.int .u8) false,qo2,qo2] 0 [2,5,7,9,10,11] [] [qe1,qe6,ZGq,qe3,qe3,ZNc] [.box [.o (.v .bool),.o (.full (0,3,1)),.o (.v .bool),.o (.full (0,4,1))],qo2,qo2,qo2] Zwv Zza (fun _=> .nil) <|
.lo 9410111111111 [2,5,9,10,11,63,64] [11] [qe1,qe6,qe3,qe3,qe3,qe0,qe0] qp8 2 [2,5,9,11] [] [qe1,qe6,qe3,qe3] qp8 Zwu Zy9 (fun _=> .nil) <|
.nil
theorem ZMt:OK_ D74:=ok_ D74 Tryz.func215 ⟨ZRp,ZRn,ZMu,ZRk,ZMI,ZMA,ZML,ZMy,ZHk,ZIx,tr_⟩
def D77:=fd_ 243 Tryz.f243 [] [ZNd] [ZIN] ZAs <|
.lr 941011 [3,6,7,8] [] [ZGq,ZNb,qe0,qe0] [] 0 [3] [] [ZGq] [] Zww ZB7 (fun _=> .nil) <|
.nil
theorem ZRj:OK_ D77:=ok_ D77 Tryz.func243
def D78:=fd_ 216 Tryz.f216 [D74.sg,(241,ZBy.sig),D72.sg,(242,ZBe.sig),D77.sg] [qa7] [ZIN,qr3] ZyL <|
.j 9111111 [0,9] [] [ZGq,ZGq] [] Zsn <|
.j 910111111 [9,43] [] ZM9 [] Zyo <|
.j 91111111 [9] [] [ZGq] [] Zyn <|
.nil
theorem ZRi:OK_ D78:=ok_ D78 Tryz.func216 ⟨ZMt,ZC5,ZMu,ZCR,ZRj,tr_⟩
noncomputable def D79:FD U:=⟨175,Tryz.f175,[D61.sg,D63.sg,D78.sg],[qa1,qa7],[],[ZIN,qr3],[],[(26,2)],Zvc,Zvc,
.nil⟩
theorem ZRh:OK_ D79:=ok_ D79 Tryz.func175 ⟨ZMw,ZRr,ZRi,tr_⟩
noncomputable def D80:FD U:=⟨137,Tryz.f137,[D79.sg,D61.sg,D74.sg],[qa1,qa7],[],[qr6,qr3],[],[(22,2)],ZAc,ZAc,
.nil⟩
theorem ZRg:OK_ D80:=ok_ D80 Tryz.func137 ⟨ZRh,ZMw,ZMt,tr_⟩
def D81:=fd_ 97 Tryz.f97 [D46.sg,D80.sg] [ZPI] [qr6,qr3] ZCZ .nil
theorem ZRf:OK_ D81:=ok_ D81 Tryz.func97 ⟨ZGd,ZRg,tr_⟩
noncomputable def D82:FD U:=⟨60,Tryz.f60,[D81.sg,D47.sg],[ZPh],[],[qr6],[],[],ZAi,ZuD,
.lo 941011 [2,3,4,10,11,12] [] [qe1,qe0,qe0,ZLn,qe0,qe0] qp8 0 [2,3,4] [] [qe1,qe0,qe0] qp8 Zt5 ZyY (fun n0=> .j 9111541011 [2,3,4,10,11,12] [] [qe1,qe0,qe0,ZLn,qe0,qe0] qp8 (Zt6 (Zt5 n0)) <|
.nil) <|
.nil⟩
theorem ZRe:OK_ D82:=ok_ D82 Tryz.func60 ⟨ZRf,ZIw,tr_⟩ (hw:=by funext x_;exact ZzN _)
def D83:=fd_ 136 Tryz.f136 [D54.sg,D58.sg] [qa4,qa4] [ZIh,ZIh] ZBY .nil
theorem ZRd:OK_ D83:=ok_ D83 Tryz.func136 ⟨ZKN,ZMx,tr_⟩
def D84:=fd_ 104 Tryz.f104 [D52.sg,D83.sg,D43.sg] [.fn 136 [] [],qa4,qa4] [qr6,qr2] ZqS <|
.j 9101 [0,4,5,6,18] [] [.fn 136 [] [],qe1,qe4,ZEe,qe6] [ZFX,ZFX,qo8,qo2,qo2] Zrp <|
.nil
theorem ZMs:OK_ D84:=ok_ D84 Tryz.func104 ⟨ZIv,ZRd,ZIx,tr_⟩
def D85:=fd_ 96 Tryz.f96 [D52.sg,D55.sg,D84.sg] [qa4,qa4] [qr6,qr2] ZAX .nil
theorem ZRc:OK_ D85:=ok_ D85 Tryz.func96 ⟨ZIv,ZMz,ZMs,tr_⟩
def D86:=fd_ 67 Tryz.f67 [] [qa4,qa1] [qr6] ZzY .nil
theorem ZKM:OK_ D86:=ok_ D86 Tryz.func67
def D87:=fd_ 59 Tryz.f59 [D85.sg,D86.sg] [qa4,qa4] [qr6] ZCz .nil
theorem ZRb:OK_ D87:=ok_ D87 Tryz.func59 ⟨ZRc,ZKM,tr_⟩
def D88:=fd_ 98 Tryz.f98 [D84.sg] [qa4,qa4] [qr6,qr2] ZzS .nil
theorem ZRa:OK_ D88:=ok_ D88 Tryz.func98 ⟨ZMs,tr_⟩
def D89:=fd_ 61 Tryz.f61 [D88.sg,D86.sg] [qa4,qa4] [qr6] ZBS .nil
theorem ZMr:OK_ D89:=ok_ D89 Tryz.func61 ⟨ZRa,ZKM,tr_⟩
def D90:=fd_ 103 Tryz.f103 [D54.sg] [qa4,qa4] [ZIh,ZIh] ZBZ .nil
theorem ZQ9:OK_ D90:=ok_ D90 Tryz.func103 ⟨ZKN,tr_⟩
def D91:=fd_ 104 Tryz.f104 [D52.sg,D90.sg,D43.sg] [.fn 103 [] [],qa4,qa4] [qr6,qr2] Zuz <|
.j 9101 [0,4,5,6,18] [] [.fn 103 [] [],qe1,qe4,ZEe,qe6] [ZFX,ZFX,qo8,qo2,qo2] ZqK <|
.nil
theorem ZQ8:OK_ D91:=ok_ D91 Tryz.func104 ⟨ZIv,ZQ9,ZIx,tr_⟩
def D92:=fd_ 68 Tryz.f68 [D91.sg] [qa4,qa4] [qr6,qr2] ZAY .nil
theorem ZQ7:OK_ D92:=ok_ D92 Tryz.func68 ⟨ZQ8,tr_⟩
def D93:=fd_ 30 Tryz.f30 [D92.sg,D86.sg] [qa4,qa4] [qr6] ZDk .nil
theorem ZMq:OK_ D93:=ok_ D93 Tryz.func30 ⟨ZQ7,ZKM,tr_⟩
def D94:=fd_ 28 Tryz.f28 [D49.sg,D51.sg,D60.sg,D46.sg,D82.sg,D87.sg,D89.sg,D47.sg,D93.sg] [ZPh,ZPh] [qr6] ZAj <|
.j 91011 [2,3,4,5,6,24] [] [qe1,qe4,ZEe,ZPg,ZSs,qe6] [ZPC,ZPC,qo38,ZFX,ZFX,qo2,qo2] Zui <|
.j 911111 [4,5,6,7] [] [qe1,qe4,ZEe,ZPg] [ZPf,ZFX,ZFX,ZFX,qo2,qo2] Zwp <|
.nil
theorem ZQ6:OK_ D94:=ok_ D94 Tryz.func28 ⟨ZRu,ZRt,ZIt,ZGd,ZRe,ZRb,ZMr,ZIw,ZMq,tr_⟩
def D95:=fd_ 62 Tryz.f62 [D60.sg] [.p (.sl (.sl (.st 4)))] [qr2] ZyI <|
.lr 941011 [0,14,15,16] [] [ZIP,ZIP,qe0,qe0] [] 0 [0] [] [ZIP] [] Zwz Zzf (fun _=> .nil) <|
.lr 9410111 [0,24,25,26] [] [ZIP,ZIP,qe0,qe0] [] 2 [0] [] [ZIP] [] Zwy Zze (fun _=> .nil) <|
.lr 94101111 [38,39,40] [] [ZIP,qe0,qe0] [] 4 [] [] [] [] Zt9 Zzc (fun n0=> .lr 9411401154101111 [38,39,40,44,45,46] [] [ZIP,qe0,qe0,.o (.v (.sl (.st 4))),qe0,qe0] [] 6 [38,39,40] [] [ZIP,qe0,qe0] [] Zwx (Zzd (Zt9 n0)) (fun _=> .nil) <|
.nil) <|
.nil
theorem ZQ5:OK_ D95:=ok_ D95 Tryz.func62 ⟨ZIt,tr_⟩
noncomputable def ZPl (n_:Nat):FD U:=⟨63,Tryz.f63,[],[.boxr (.sl (.sl (.st 4))) 3,.p (.int .i64),.p (.int .i64),.hmap (.st 7) (.st 4)],[(3,.map (.st 7) (.st 4))],[.p (.st 4)],[],[],ZoS n_,ZoS n_,
.nil⟩
noncomputable def ZR7 (n_:Nat):FD U:=⟨64,Tryz.f64,[D60.sg,D46.sg,(ZPl n_).sg,D89.sg],[.boxr (.sl (.sl (.st 4))) 4,.p (.int .i64),.p (.int .i64),.p (.int .i64),.hmap (.st 7) (.st 4)],[(4,.map (.st 7) (.st 4))],[.p (.st 4),.p .bool],[],[],ZqG (ZoS n_),ZqG (ZoS n_),
.j 9101 [0,1,2,3,8,28] [] [.o (.rp (.sl (.sl (.st 4))) (0,4,0)),qe0,qe0,qe0,qe1,qe6] [ZPc,qo15,qo2,qo2] (Zp3 (ZoS n_)) <|
.nil⟩
theorem ZKL (n_:Nat) (ih:Zez X0.E 63 (ZPl n_).sig):Zez X0.E 64 (ZR7 n_).sig:=(ZR7 n_).ok G0 Tryz.func64 ⟨ZIt,ZGd,ih,ZMr,trivial⟩ rfl rfl (by kernel_rfl)
noncomputable def D97c (n_:Nat):FD U:=⟨63,Tryz.f63,[D46.sg,(ZPl n_).sg,(ZR7 n_).sg,D59.sg],[.boxr (.sl (.sl (.st 4))) 3,.p (.int .i64),.p (.int .i64),.hmap (.st 7) (.st 4)],[(3,.map (.st 7) (.st 4))],[.p (.st 4)],[],[],Zwi (ZoS n_),ZoS (n_+1),
.lo 941011111 [0,1,2,6,7,10,48,49] [] [ZR0,qe0,qe0,qe1,qe4,ZEe,qe0,qe0] qp4 0 [0,6,7,10] [] [ZR0,qe1,qe4,ZEe] qp4 (Zo1 (ZoS n_)) (ZvH (ZoS n_)) (fun n0=> .j 91114011541011111 [0,1,2,6,7,10,12,48,49,66] [] [ZR0,qe0,qe0,qe1,qe4,ZEe,ZPg,qe0,qe0,qe6] [ZPc,ZPf,.boxS (.st 7),ZFX,ZFX,qo2,qo2] ((ZqU (ZoS n_)) ((Zo1 (ZoS n_)) n0)) <|
.j 9111541011111 [0,1,2,6,7,10,48,49] [] [ZR0,qe0,qe0,qe1,qe4,ZEe,qe0,qe0] qp4 ((ZqT (ZoS n_)) ((Zo1 (ZoS n_)) n0)) <|
.nil) <|
.nil⟩
theorem ZN9 (n_:Nat):Zez X0.E 63 (ZPl n_).sig:=by
 induction n_ with
 |zero=>
  refine ZkU.ok (S:=(ZPl 0).FS) uok fun v r h=> ?_
  have h2:(none:Option _)=some r:=h;cases h2
 |succ n_ ih=>exact(D97c n_).ok G0 Tryz.func63 ⟨ZGd,ih,ZKL n_ ih,ZIu,trivial⟩ rfl rfl (by kernel_rfl)
noncomputable abbrev D97:FD U:=ZPl big
theorem ZMp:Zez X0.E 63 D97.sig:=ZN9 big
noncomputable abbrev D96:FD U:=ZR7 big
theorem ZQ4:Zez X0.E 64 D96.sig:=ZKL big ZMp
def D98:=fd_ 66 Tryz.f66 [] [qa4] [qr6] ZEa .nil
theorem ZQ3:OK_ D98:=ok_ D98 Tryz.func66
def D99:=fd_ 29 Tryz.f29 [D95.sg,D97.sg,D96.sg,D59.sg,D98.sg] [.p (.sl (.sl (.st 4)))] [.own (.int .i64),qr6,qr2] Zzr <|
.lo 941011111 [3,6,7,8,26,27,28] [200006] [qe1,ZPH,ZIQ,qe0,ZIP,qe0,qe0] ZSp 0 [3,6,7] [] [qe1,ZPH,ZIQ] ZSp Zqv ZzK (fun n0=> .lo 9410114011541011111 [3,6,7,8,9,11,12,26,27,28,38,39] [] [qe1,ZPH,ZIQ,qe0,qe0,ZPg,qe0,ZIP,qe0,qe0,qe0,qe0] [ZPf,ZPc,ZJ1,ZFX,qo2,qo2] 2 [3,6,7,8,12,26,27,28] [] [qe1,ZPH,ZIQ,qe0,qe0,ZIP,qe0,qe0] ZSp ZpU (ZzL (Zqv n0)) (fun n1=> .j 911140115410114011541011111 [3,6,7,8,9,11,12,13,26,27,28,38,39,56] [] [qe1,ZPH,ZIQ,qe0,qe0,ZPg,qe0,qe0,ZIP,qe0,qe0,qe0,qe0,qe6] [ZPf,ZPc,ZJ1,ZFX,qo2,qo2] (ZsU (ZpU n1)) <|
.nil) <|
.nil) <|
.nil
theorem ZQ2:OK_ D99:=ok_ D99 Tryz.func29 ⟨ZQ5,ZMp,ZQ4,ZIu,ZQ3,tr_⟩
def ZRV:=fd_ 10 Tryz.f10 [D11.sg,D94.sg,D99.sg,D47.sg,D93.sg] [ZFY,ZFY] [.own (.int .i64),qr6,qr2] ZqL <|
.j 91401 [2,3,5,16] [] [qe1,qe4,ZEe,qe6] [qo9,qo9,qo8,qo2,qo2] ZvP <|
.j 9131401 [2,3,5,26] [] [qe1,qe4,ZEe,qe6] [qo9,qo9,qo8,qo2,qo2] ZvO <|
.lo 9410111 [2,3,5,7,39,40,41] [] [qe1,qe4,ZEe,ZPF,ZHx,qe0,qe0] [qo9,qo9,ZPf,ZRZ,qo2,qo2] 1 [2,3,5,7] [] [qe1,qe4,ZEe,ZPF] [qo9,qo9,ZPf,ZRZ,qo2,qo2] Zth Zya (fun n0=> .lo 94101140115410111 [2,3,5,7,9,10,39,40,41,47,48,49] [] [qe1,qe4,ZEe,ZPF,ZSs,.o (.full (0,6,1)),ZHx,qe0,qe0,ZHx,qe0,qe0] [qo9,qo9,.box [.o (.v .bool),.o (.full (0,7,1)),.o (.v .bool),.o (.full (0,8,1))],ZRZ,ZPC,.arr (.st 4) false,qo2,qo2] 3 [2,3,5,7,10,39,40,41] [] [qe1,qe4,ZEe,ZPF,.o (.full (0,5,1)),ZHx,qe0,qe0] [qo9,qo9,qo38,ZRZ,.arr (.st 4) false,qo2,qo2] ZvN (Zyb (Zth n0)) (fun _=> .nil) <|
.nil) <|
.nil
theorem ZH1:OK_ ZRV:=ok_ ZRV Tryz.func10 ⟨ZIy,ZQ6,ZQ2,ZIw,ZMq,tr_⟩
def ZTT:=fd_ 70 Tryz.f70 [] [qa9,qa1] [qr2] Zyg <|
.lr 94101 [0,1,7,8] [] [ZEf,qe0,qe0,qe0] [] 0 [] [] [] [] ZrI ZwS (fun _=> .nil) <|
.nil
theorem ZPb:OK_ ZTT:=ok_ ZTT Tryz.func70
def ZTS:=fd_ 32 Tryz.f32 [ZTT.sg] [qa9,qa1] [qr3] ZtV .nil
theorem ZPa:OK_ ZTS:=ok_ ZTS Tryz.func32 ⟨ZPb,tr_⟩
def ZTR:=fd_ 71 Tryz.f71 [] [.p (.sl (.st 1))] [.own (.st 1)] Zp5 <|
.j 9101 [0,4] [] [ZHx,qe6] [] Zpa <|
.nil
theorem ZO9:OK_ ZTR:=ok_ ZTR Tryz.func71
def ZTQ:=fd_ 72 Tryz.f72 [] [.p (.sl (.st 0))] [.own (.st 0)] ZqI <|
.j 9101 [0,4] [] [ZLn,qe6] [] Zpl <|
.nil
theorem ZO8:OK_ ZTQ:=ok_ ZTQ Tryz.func72
noncomputable def ZTP:FD U:=⟨34,Tryz.f34,[ZTR.sg,ZTQ.sg],[ZFY],[],[.aoown 2 2 (.st 1) 1 (.st 0)],[2000011],[],ZBU,ZBU,
.lo 941011 [1,2,10,11,12] [] ZSn [qo7,qo5,ZPD,ZEY] 0 [1,2] [] ZLl [qo7,qo5,ZPD,ZEY] ZAW ZCq (fun _=> .nil) <|
.nil⟩
theorem ZO7:OK_ ZTP:=ok_ ZTP Tryz.func34 ⟨ZO9,ZO8,tr_⟩
def ZTO:=fd_ 108 Tryz.f108 [] [ZNe,ZNe] [ZPA,ZPA] ZCA .nil
theorem ZO6:OK_ ZTO:=ok_ ZTO Tryz.func108
def ZTN:=fd_ 73 Tryz.f73 [ZTO.sg] [ZNe,ZNe] [ZPA,ZPA] ZDl .nil
theorem ZO5:OK_ ZTN:=ok_ ZTN Tryz.func73 ⟨ZO6,tr_⟩
def ZTM:=fd_ 35 Tryz.f35 [ZTN.sg] [.p (.sl (.st 0)),qa1] [.own (.st 0)] ZpN <|
.j 910111 [0,6,26] [] [ZLn,ZFf,qe6] [] ZrH <|
.lo 940111111 [7,8] [] [ZCv,qe0] [ZKX] 0 [7] [] [ZCv] [ZKX] ZrG Zva (fun _=> .nil) <|
.nil
theorem ZO4:OK_ ZTM:=ok_ ZTM Tryz.func35 ⟨ZO5,tr_⟩
def ZTL:=fd_ 11 Tryz.f11 [D11.sg,ZTS.sg,D5.sg,ZTP.sg,ZTM.sg] [ZFY,ZFY,qa9] [ZLm,qr2] Zvf <|
.j 9101 [2,3,4,6,31] [] [ZEf,qe1,qe4,ZEe,qe6] qp3 Ztg <|
.lr 941011 [2,3,4,6,33,34,35] [] qs7 qp3 0 [2,3,4,6] [] [ZEf,qe1,qe4,ZEe] qp3 Zte Zx9 (fun n0=> .j 9114011541011 [2,3,4,6,33,34,35,47] [] [ZEf,qe1,qe4,ZEe,ZEf,qe0,qe0,qe6] qp3 (ZvM (Zte n0)) <|
.nil) <|
.lr 9410111 [2,3,4,6,50,51,52] [] qs7 qp3 2 [2,3,4,6] [] [ZEf,qe1,qe4,ZEe] qp3 Ztd Zx8 (fun n0=> .j 91140115410111 [2,3,4,6,50,51,52,65] [] [ZEf,qe1,qe4,ZEe,ZEf,qe0,qe0,qe6] qp3 (ZvL (Ztd n0)) <|
.nil) <|
.lo 9410111111 [4,6,12,77,78,79] [] [qe1,qe4,ZEe,ZEf,qe0,qe0] [qo9,qo5,ZPe,ZEY,ZPD] 4 [6,12] [] ZLl [qo7,qo5,ZEY,ZPD] Ztc Zx7 (fun n0=> .j 911140115410111111 [4,6,12,13,15,77,78,79] [15] [qe1,qe4,ZEe,qe0,ZLn,ZEf,qe0,qe0] [qo9,qo5,ZPe,ZEY,ZPD] (Ztf (Ztc n0)) <|
.nil) <|
.nil
theorem ZO3:OK_ ZTL:=ok_ ZTL Tryz.func11 ⟨ZIy,ZPa,ZOa,ZO7,ZO4,tr_⟩
def ZRT:=fd_ 25 Tryz.f25 [] [qa9,qa9] [qr3] ZpA <|
.lr 941011 [1,12,13,14] [] [ZEf,ZEf,qe0,qe0] [] 0 [] [] [] [] Zrk Zt0 (fun _=> .nil) <|
.nil
theorem ZH0:OK_ ZRT:=ok_ ZRT Tryz.func25
def ZMM:=fd_ 111 Tryz.f111 [] [qa0] [qr5] Zpm <|
.lo 9401 [0] [] [qe3] [] 0 [0] [] [qe3] [] ZpG Zzy (fun n0=> .j 9105401 [0,14] [] [qe3,qe6] [] (Zv8 (ZpG n0)) <|
.nil) <|
.nil
theorem ZEH:OK_ ZMM:=ok_ ZMM Tryz.func111
def ZO2:=fd_ 77 Tryz.f77 [ZMM.sg] [.p .bool,qa0] [ZIh] Zpc <|
.j 9111 [4] [] [qe1] [ZNa] ZtQ <|
.nil
theorem ZFH:OK_ ZO2:=ok_ ZO2 Tryz.func77 ⟨ZEH,tr_⟩
def ZSf:=fd_ 113 Tryz.f113 [ZO2.sg] [qa1] [ZIh] Zqc <|
.j 9111 [0,2,3] [] [qe0,qe1,ZFf] [qo50,qo2] ZrR <|
.nil
theorem ZKW:OK_ ZSf:=ok_ ZSf Tryz.func113 ⟨ZFH,tr_⟩
def ZSe:=fd_ 74 Tryz.f74 [] [ZFI] [qr3] ZpZ <|
.j 9111 [2] [] [qe6] [] Zpo <|
.nil
theorem ZKV:OK_ ZSe:=ok_ ZSe Tryz.func74
def ZTK:=fd_ 109 Tryz.f109 [ZMM.sg] [qa0] [qr5] Zqe <|
.lo 941011 [0,3,9,10] [] [qe3,ZCv,qe0,qe0] [qo2] 0 [3] [] [ZCv] [qo2] Zrc Zv9 (fun n0=> .j 9111541011 [0,3,9,10] [] [qe3,ZCv,qe0,qe0] [qo2] (Zrd (Zrc n0)) <|
.nil) <|
.nil
theorem ZO1:OK_ ZTK:=ok_ ZTK Tryz.func109 ⟨ZEH,tr_⟩
def ZPm:=fd_ 75 Tryz.f75 [] [qa0,qa0] [qr2] ZpC <|
.lr 941011 [0,1,5] [] qs1 [] 0 [] [] [] [] ZtP ZwO (fun _=> .nil) <|
.nil
theorem ZGD:OK_ ZPm:=ok_ ZPm Tryz.func75
def ZRS:=fd_ 79 Tryz.f79 [ZMM.sg] [qa0,qa0] [qr5] Zqw <|
.lo 9410111 [0,1,5,6,7] [] [qe3,qe3,ZCv,qe0,qe0] [qo2] 0 [5] [] [ZCv] [qo2] Zry ZwF (fun n0=> .j 9114015410111 [0,1,5,6,7] [] [qe3,qe3,ZCv,qe0,qe0] [qo2] (Zrz (Zry n0)) <|
.nil) <|
.nil
theorem ZHZ:OK_ ZRS:=ok_ ZRS Tryz.func79 ⟨ZEH,tr_⟩
def ZSd:=fd_ 110 Tryz.f110 [ZMM.sg] [qa0,qa8] [qr5] Zr0 <|
.lo 941011 [0,1,5,6] [] [qe3,ZGH,ZCv,qe0] [qo2] 0 [1,5] [] [ZGH,ZCv] [qo2] Zsu Zvl (fun _=> .nil) <|
.nil
theorem ZKU:OK_ ZSd:=ok_ ZSd Tryz.func110 ⟨ZEH,tr_⟩
def ZSc:=fd_ 76 Tryz.f76 [ZTK.sg,ZPm.sg,ZRS.sg,ZSd.sg] [qa0,qa0] [qr5] Zti <|
.lo 94011 [0,1,5] [] qs1 [] 0 [0,1,5] [] qs1 [] Zqt ZwM (fun n0=> .j 91054011 [0,1,5,17] [] [qe3,qe3,qe0,qe6] [] (ZtO (Zqt n0)) <|
.nil) <|
.lo 940111 [0,1,5] [] qs1 [] 2 [0,5] [] [qe3,qe0] [] Zo6 ZwJ (fun n0=> .lo 94041540111 [0,1,5] [] qs1 [] 4 [0,1,5] [] qs1 [] Zpw (ZwL (Zo6 n0)) (fun _=> .nil) <|
.lo 940141540111 [0,1,5] [] qs1 [] 6 [0,1,5] [] qs1 [] Zpv (ZwK (Zo6 n0)) (fun _=> .nil) <|
.j 911141540111 [0,1,5] [] qs1 [] (ZtN (Zo6 n0)) <|
.nil) <|
.lo 9401111 [0,5] [] [qe3,qe0] [] 8 [0] [] [qe3] [] Zqs ZwI (fun _=> .nil) <|
.nil
theorem ZKT:OK_ ZSc:=ok_ ZSc Tryz.func76 ⟨ZO1,ZGD,ZHZ,ZKU,tr_⟩
def ZTJ:=fd_ 225 Tryz.f225 [] [qa0,qa1] [ZJ0] ZvT .nil
theorem ZO0:OK_ ZTJ:=ok_ ZTJ Tryz.func225
def ZTI:=fd_ 184 Tryz.f184 [ZTJ.sg,ZSd.sg,ZPm.sg,ZRS.sg,ZMM.sg] [qa0,qa0] [qr5,qr5] Ztj <|
.lo 941011 [0,1,4,5,6] [5] [qe3,qe3,ZCv,qe3,qe0] [qo2] 0 [4,5] [] [ZCv,qe3] [qo2] ZrB ZwN (fun n0=> .j 911541011 [0,1,4,5,6] [] [qe3,qe3,ZCv,qe3,qe0] [qo2] (ZrC (ZrB n0)) <|
.nil) <|
.nil
theorem ZOZ:OK_ ZTI:=ok_ ZTI Tryz.func184 ⟨ZO0,ZKU,ZGD,ZHZ,ZEH,tr_⟩
def ZTH:=fd_ 147 Tryz.f147 [ZSf.sg,ZSc.sg,ZTI.sg,ZO2.sg] [ZFI,ZFI] [qr6] ZtM .nil
theorem ZOY:OK_ ZTH:=ok_ ZTH Tryz.func147 ⟨ZKW,ZKT,ZOZ,ZFH,tr_⟩
def ZTG:=fd_ 112 Tryz.f112 [ZSe.sg,ZTH.sg] [ZFI,ZFI] [qr6,qr2] ZuV <|
.j 9101 [2,3,4,13] [] [qe1,qe4,ZEe,qe6] [ZNa,ZNa,qo8,qo2,qo2] Zs5 <|
.nil
theorem ZOX:OK_ ZTG:=ok_ ZTG Tryz.func112 ⟨ZKV,ZOY,tr_⟩
def ZTF:=fd_ 81 Tryz.f81 [ZSf.sg,ZTG.sg] [qa1,qa1] [qr6,qr2] Zwl .nil
theorem ZOW:OK_ ZTF:=ok_ ZTF Tryz.func81 ⟨ZKW,ZOX,tr_⟩
noncomputable def ZTE:FD U:=⟨40,Tryz.f40,[ZTF.sg],[qa1,qa1],[],[qr6],[],[],ZxB,ZtJ,
.nil⟩
theorem ZOV:OK_ ZTE:=ok_ ZTE Tryz.func40 ⟨ZOW,tr_⟩ (hw:=by funext x_;funext x_;exact ZzN _)
noncomputable def ZTD:FD U:=⟨15,Tryz.f15,[ZTE.sg],[qa1],[],[qr6],[],[],Zyc,ZrY,
.nil⟩
theorem ZOU:OK_ ZTD:=ok_ ZTD Tryz.func15 ⟨ZOV,tr_⟩ (hw:=by funext x_;exact ZzN _)
def ZTC:=fd_ 45 Tryz.f45 [] [ZFI,ZFI] [qr3] Zra <|
.j 9101 [2,3,20] [] ZPz [ZNa,ZNa] ZrO <|
.lr 941011 [3,22,23,24] [] [qe1,qe3,qe0,qe0] [ZNa] 0 [] [] [] [] ZrN Zup (fun _=> .nil) <|
.nil
theorem ZOT:OK_ ZTC:=ok_ ZTC Tryz.func45
def ZRR:=fd_ 21 Tryz.f21 [ZTC.sg] [qa4,qa4] [qr3] Zps <|
.j 911 [4] [] [qe6] [] Zs2 <|
.nil
theorem ZHY:OK_ ZRR:=ok_ ZRR Tryz.func21 ⟨ZOT,tr_⟩
def ZRQ:=fd_ 16 Tryz.f16 [] [ZFY] [qr2] ZqZ .nil
theorem ZHX:OK_ ZRQ:=ok_ ZRQ Tryz.func16
def ZTB:=fd_ 7 Tryz.f7 [ZRV.sg,ZTL.sg,ZRT.sg,ZTD.sg,ZRR.sg,ZRQ.sg] [] [qr3] Zr2 <|
.j 9111111 [0] [] [qe6] [] ZpB <|
.nil
theorem ZOS:OK_ ZTB:=ok_ ZTB Tryz.func7 ⟨ZH1,ZO3,ZH0,ZOU,ZHY,ZHX,tr_⟩
def ZTA:=fd_ 8 Tryz.f8 [] [qa9] [.box (.st 9)] ZyW .nil
theorem ZOR:OK_ ZTA:=ok_ ZTA Tryz.func8
def ZSb:=fd_ 19 Tryz.f19 [] [qa1,qa1] [qr2] Zrh .nil
theorem ZKS:OK_ ZSb:=ok_ ZSb Tryz.func19
noncomputable def ZK2:FD U:=⟨17,Tryz.f17,[ZSb.sg],[ZLp,qa1],[(0,.box (.st 9))],[qr2],[],[],ZoP,ZoP,
.nil⟩
theorem ZDD:OK_ ZK2:=ok_ ZK2 Tryz.func17 ⟨ZKS,tr_⟩
noncomputable def ZOQ:FD U:=⟨18,Tryz.f18,[ZK2.sg],[ZLp,ZNd],[(0,.box (.st 9))],[ZIN],[],[],Zo9,Zo9,
.nil⟩
theorem ZFG:OK_ ZOQ:=ok_ ZOQ Tryz.func18 ⟨ZDD,tr_⟩
noncomputable def ZTz:FD U:=⟨47,Tryz.f47,[ZK2.sg,ZOQ.sg],[ZLp],[(0,.box (.st 9))],[.p (.st 0)],[],[],Zt4,Zt4,
.nil⟩
theorem ZOP:OK_ ZTz:=ok_ ZTz Tryz.func47 ⟨ZDD,ZFG,tr_⟩
noncomputable def ZTy:FD U:=⟨48,Tryz.f48,[ZK2.sg,ZOQ.sg,(49,ZBt.sig)],[ZLp],[(0,.box (.st 9))],[.p (.st 0)],[],[],ZsC,ZsC,
.nil⟩
theorem ZOO:OK_ ZTy:=ok_ ZTy Tryz.func48 ⟨ZDD,ZFG,ZB4,tr_⟩
noncomputable def ZTx:FD U:=⟨26,Tryz.f26,[ZOQ.sg,ZK2.sg,ZTz.sg,ZTy.sg,(49,ZBt.sig)],[ZLp,qa1],[(0,.box (.st 9))],[.p (.st 1)],[],[],ZsE,ZsE,
.lo 9410111 [0,4,5,6,15,16] [] [ZIO,qe1,qe4,qe0,qe0,qe0] [ZIi,qo51,ZSr,ZKX,ZKX] 0 [4,5] [] ZLl [ZIi,qo51,ZSr,ZKX,ZKX] Zrf Zwb (fun n0=> .j 911140115410111 [0,4,5,6,8,15,16] [] [ZIO,qe1,qe4,qe0,ZEe,qe0,qe0] [ZIi,ZSr,.box [.o (.v .str),.o (.full (0,5,1))],.boxS (.st 0),ZKX,ZKX] (ZpH (Zrf n0)) <|
.nil) <|
.nil⟩
theorem ZON:OK_ ZTx:=ok_ ZTx Tryz.func26 ⟨ZFG,ZDD,ZOP,ZOO,ZB4,tr_⟩
noncomputable def ZSa:FD U:=⟨9,Tryz.f9,[ZOQ.sg,ZK2.sg,ZTx.sg],[ZLp,qa1],[(0,.box (.st 9))],[ZLm],[],[],Zrq,Zrq,
.lo 9410111 [0,4,5,6,7] [] [ZIO,qe1,qe4,qe0,qe0] ZSq 0 [0,4,5] [] [ZIO,qe1,qe4] ZSq ZtS ZwQ (fun _=> .nil) <|
.j 911111 [4,5] [] ZLl ZSq ZtT <|
.nil⟩
theorem ZKR:OK_ ZSa:=ok_ ZSa Tryz.func9 ⟨ZFG,ZDD,ZON,tr_⟩
noncomputable def ZTw:FD U:=⟨88,Tryz.f88,[ZK2.sg,ZOQ.sg],[ZLp,ZFY],[(0,.box (.st 9))],[.p (.st 10)],[],[],Zvv,Zvv,
.j 911121410111 [0,3,4,5,44] [] [ZIO,qe1,qe4,ZEe,qe6] [ZIi,qo9,qo16,.box [.o (.v (.int .i64)),.o (.v (.int .i64)),.o (.v .str),.o (.full (0,5,1))],ZJ1,ZJ1] Zqy <|
.j 9131410111 [0,4,5,6,16,66] [] [ZIO,qe1,qe4,qe0,qe0,qe6] qp2 Ztn <|
.lo 941213131410111 [0,4,5,6,7] [] [ZIO,qe1,qe4,qe0,qe0] qp2 1 [4,5] [] ZLl qp2 Ztl Zye (fun n0=> .j 910541213131410111 [0,4,5,6,7,83] [] [ZIO,qe1,qe4,qe0,qe0,qe6] qp2 (ZvV (Ztl n0)) <|
.nil) <|
.j 91111 [4,5] [] ZLl qp2 Zqx <|
.j 911111 [4] [] [qe1] [ZIi,.box [.o (.v (.int .i64)),.o (.v (.int .i64)),.o (.v .str),.o (.full (0,2,1))],ZJ1] Ztm <|
.nil⟩
theorem ZOM:OK_ ZTw:=ok_ ZTw Tryz.func88 ⟨ZDD,ZFG,tr_⟩
def ZR9:=fd_ 190 Tryz.f190 [D2.sg] [qa7] [qr3] ZrZ .nil
theorem ZKQ:OK_ ZR9:=ok_ ZR9 Tryz.func190 ⟨ZRE,tr_⟩
def ZTv:=fd_ 158 Tryz.f158 [ZR9.sg] [qa7] [qr3] Zst <|
.j 911 [2] [] [qe6] [] Zs3 <|
.nil
theorem ZOL:OK_ ZTv:=ok_ ZTv Tryz.func158 ⟨ZKQ,tr_⟩
def ZTu:=fd_ 159 Tryz.f159 [ZR9.sg] [ZPI] [qr3] Zsd <|
.j 911 [2] [] [qe6] [] Zpx <|
.nil
theorem ZOK:OK_ ZTu:=ok_ ZTu Tryz.func159 ⟨ZKQ,tr_⟩
def ZRO:=fd_ 118 Tryz.f118 [ZTv.sg,ZTu.sg] [ZFY] [qr3] ZpX <|
.j 9101 [1,26] [] [qe1,qe6] [qo9] ZpW <|
.lr 941011 [1,28,29,30] [] [qe1,ZHx,qe0,qe0] [qo9] 0 [] [] [] [] Zpn Zvj (fun n0=> .j 91014011541011 [1,4,28,29,30,55] [] [qe1,qe4,ZHx,qe0,qe0,qe6] [qo9,ZPC] (ZpV (Zpn n0)) <|
.lr 941114011541011 [1,28,29,30,57,58,59] [] [qe1,ZHx,qe0,qe0,ZLn,qe0,qe0] [qo9] 2 [1,28,29,30] [] [qe1,ZHx,qe0,qe0] [qo9] ZqM (Zvk (Zpn n0)) (fun _=> .nil) <|
.nil) <|
.nil
theorem ZHW:OK_ ZRO:=ok_ ZRO Tryz.func118 ⟨ZOL,ZOK,tr_⟩
def ZTt:=fd_ 119 Tryz.f119 [] [ZFY,.p (.st 10)] [qr3] ZvQ <|
.j 911 [2,3,5] [] ZPz [qo9,ZPd] Zrx <|
.j 912141011 [4] [] [qe6] [] Zrw <|
.j 913141011 [2,3,5,20,36] [] [qe1,qe4,qe6,qe0,qe6] [qo9,ZPd] Zrv <|
.j 91213141011 [4] [] [qe6] [] Zru <|
.lr 941021313141011 [2,3,54,55,56] [] [qe1,qe4,ZEf,qe0,qe0] [qo9,ZPd] 1 [3] [] [qe1] [ZPd] Zrs ZwD (fun n0=> .j 9114011541021313141011 [2,3,54,55,56,68] [] [qe1,qe4,ZEf,qe0,qe0,qe6] [qo9,ZPd] (ZtH (Zrs n0)) <|
.nil) <|
.j 91121313141011 [4] [] [qe6] [] Zrt <|
.j 91111 [4] [] [qe6] [] Zqr <|
.nil
theorem ZOJ:OK_ ZTt:=ok_ ZTt Tryz.func119
def ZTs:=fd_ 160 Tryz.f160 [ZRO.sg] [ZFY,qa9] [ZLm,qr2] Zs4 <|
.lr 9410111 [1,2,4,6,18,19,20] [] qs7 [qo9,qo5,ZPe,ZEY,ZEY] 0 [1,4,6] [] [ZEf,qe1,qe4] qp9 Zqn Zus (fun n0=> .j 910140115410111 [1,2,4,6,8,18,19,20,32] [] [ZEf,qe1,qe4,ZEe,qe0,ZEf,qe0,qe0,qe6] [qo9,qo5,ZPe,ZEY,ZEY] (ZrP (Zqn n0)) <|
.nil) <|
.nil
theorem ZOI:OK_ ZTs:=ok_ ZTs Tryz.func160 ⟨ZHW,tr_⟩
def ZTr:=fd_ 191 Tryz.f191 [] [ZFY,qa1,qa1] [qr3] Zuf <|
.lr 94101 [1,2,10,11,12] [] [qe0,qe0,ZHx,qe0,qe0] [] 0 [] [] [] [] Zso Zvg (fun _=> .nil) <|
.nil
theorem ZOH:OK_ ZTr:=ok_ ZTr Tryz.func191
def ZTq:=fd_ 192 Tryz.f192 [] [ZPI,ZPI] [qr2] Zq1 <|
.j 91401 [2,3,5] [] ZPz [.boxS (.st 0),.boxS (.st 0)] ZpD <|
.nil
theorem ZOG:OK_ ZTq:=ok_ ZTq Tryz.func192
def ZTp:=fd_ 162 Tryz.f162 [ZRQ.sg,ZTr.sg,ZTq.sg] [ZFY,.p (.st 10)] [.own (.int .i64)] ZuK <|
.lo 941011 [2,3,5,14,15] [] ZSn qp0 0 [5] [] [ZCv] [ZJ1] Zpj Zv3 (fun n0=> .lo 941213131410114011541011 [2,3,5,6,7,8,14,15,60,61,62] [] qs6 qp0 3 [2,3,5,6,7,8,14,15] [] qs5 qp0 Zq7 (Zv5 (Zpj n0)) (fun n1=> .j 9111541213131410114011541011 [2,3,5,6,7,8,14,15,60,61,62] [] qs6 qp0 (Zs0 (Zq7 n1)) <|
.nil) <|
.lo 94121313131410114011541011 [2,3,5,6,7,8,12,14,15] [] [qe1,qe4,ZIQ,qe0,qe0,qe6,ZLn,qe0,qe0] qp0 5 [2,3,5,6,7,8,14,15] [] qs5 qp0 Zq6 (Zv4 (Zpj n0)) (fun n1=> .j 91054121313131410114011541011 [2,3,5,6,7,8,12,14,15,101] [] [qe1,qe4,ZIQ,qe0,qe0,qe6,ZLn,qe0,qe0,qe6] qp0 (ZsZ (Zq6 n1)) <|
.nil) <|
.j 91114011541011 [2,3,5,6,7,8,14,15] [] qs5 qp0 (Zqb (Zpj n0)) <|
.j 911114011541011 [2,3,5,6,7,14,15,104] [] [qe1,qe4,ZIQ,qe0,qe0,qe0,qe0,qe6] qp0 (Zqa (Zpj n0)) <|
.j 9111541011 [2,3,5,14,15] [] ZSn qp0 (ZsY (Zpj n0)) <|
.nil) <|
.nil
theorem ZOF:OK_ ZTp:=ok_ ZTp Tryz.func162 ⟨ZHX,ZOH,ZOG,tr_⟩
def ZTo:=fd_ 161 Tryz.f161 [ZRO.sg,ZRQ.sg] [ZFY,qa9] [ZLm,qr2] ZtK <|
.lr 941011 [1,2,4,18,19,20] [] [ZEf,qe1,qe4,ZEf,qe0,qe0] ZPB 0 [1,2,4] [] [ZEf,qe1,qe4] ZPB ZqA ZuQ (fun n0=> .j 9114011541011 [1,2,4,18,19,20,31] [] [ZEf,qe1,qe4,ZEf,qe0,qe0,qe6] ZPB (Zsf (ZqA n0)) <|
.nil) <|
.lo 941011111 [1,4,8,44,45,46] [] [ZEf,qe1,qe4,ZHx,qe0,qe0] qp9 2 [4,8] [] ZLl qp9 Zqz ZuO (fun n0=> .lo 9410114011541011111 [1,4,8,10,11,44,45,46,53,54,55] [] [ZEf,qe1,qe4,ZEe,ZPg,ZHx,qe0,qe0,ZEf,qe0,qe0] [ZPe,.box [.o (.v (.int .i64)),.o (.v .str),.o (.full (0,6,1))],ZPC,.box [.o (.v .str),.o (.full (0,7,1))],ZEY,ZEY,ZKX] 4 [1,4,8,11,44,45,46] [] [ZEf,qe1,qe4,ZEe,ZHx,qe0,qe0] [qo5,ZPe,.box [.o (.v .str),.o (.full (0,6,1))],ZEY,ZEY,ZKX] Zse (ZuP (Zqz n0)) (fun _=> .nil) <|
.nil) <|
.nil
theorem ZOE:OK_ ZTo:=ok_ ZTo Tryz.func161 ⟨ZHW,ZHX,tr_⟩
def ZTn:=fd_ 120 Tryz.f120 [ZTs.sg,ZTp.sg,ZTo.sg] [ZFY,.p (.st 10)] [ZLm] Zwk .nil
theorem ZOD:OK_ ZTn:=ok_ ZTn Tryz.func120 ⟨ZOI,ZOF,ZOE,tr_⟩
def ZR8:=fd_ 89 Tryz.f89 [] [ZFY] [ZLm] Zsr <|
.lo 941011 [2,3,12,13,14] [] [qe1,qe4,ZHx,qe0,qe0] qp9 0 [2,3] [] ZLl qp9 Zs1 Zv6 (fun _=> .nil) <|
.nil
theorem ZKP:OK_ ZR8:=ok_ ZR8 Tryz.func89
def ZTm:=fd_ 87 Tryz.f87 [ZRO.sg,ZTt.sg,ZTn.sg,ZR8.sg] [ZFY,.p (.sl (.st 10))] [ZLm,qr2] ZvR <|
.lr 941011 [2,4,18,19,20] [] [qe1,qe4,.o (.v (.sl (.st 10))),qe0,qe0] ZPB 1 [2,4] [] ZLl ZPB ZtI ZwE (fun _=> .nil) <|
.nil
theorem ZOC:OK_ ZTm:=ok_ ZTm Tryz.func87 ⟨ZHW,ZOJ,ZOD,ZKP,tr_⟩
noncomputable def ZTl:FD U:=⟨46,Tryz.f46,[ZK2.sg,ZTw.sg,ZTm.sg,ZR8.sg],[ZLp,ZFY,qa1],[(0,.box (.st 9))],[ZLm],[],[],Zr3,Zr3,
.lo 94101 [0,2,4,6,7] [] [ZIO,qe0,qe1,qe4,qe0] [ZIi,qo9,qo7,ZEY] 0 [2,4,6] [] [qe0,qe1,qe4] [ZIi,qo9,qo7,ZEY] ZqQ Zvw (fun n0=> .j 91154101 [0,2,4,6,7] [] [ZIO,qe0,qe1,qe4,qe0] [ZIi,qo9,qo7,ZEY] (ZsD (ZqQ n0)) <|
.nil) <|
.nil⟩
theorem ZOB:OK_ ZTl:=ok_ ZTl Tryz.func46 ⟨ZDD,ZOM,ZOC,ZKP,tr_⟩
noncomputable def ZTk:FD U:=⟨22,Tryz.f22,[ZK2.sg,ZSa.sg,ZTl.sg],[ZLp,qa1],[(0,.box (.st 9))],[.own (.st 2)],[],[],ZsB,ZsB,
.lo 9410111 [0,5,6,7] [] [ZIO,ZCv,qe0,qe0] [ZIi,ZRY] 0 [5] [] [ZCv] [ZIi,ZRY] Zqd Zwa (fun n0=> .j 910114015410111 [0,5,6,7,8,34] [] [ZIO,ZCv,qe0,qe0,qe4,qe6] [ZIi,ZRY,qo9] (Zs6 (Zqd n0)) <|
.j 91114015410111 [0,5,6,7,8] [] [ZIO,ZCv,qe0,qe0,qe4] [ZIi,ZRY,qo9] (Zre (Zqd n0)) <|
.nil) <|
.nil⟩
theorem ZOA:OK_ ZTk:=ok_ ZTk Tryz.func22 ⟨ZDD,ZKR,ZOB,tr_⟩
def ZTj:=fd_ 114 Tryz.f114 [D11.sg] [ZPJ,.fn 27 [] []] [qr3] ZuZ <|
.lr 94101 [1,7,8,9] [] [.fn 27 [] [],ZJu,qe0,qe0] [] 0 [] [] [] [] Zs7 Zwc (fun _=> .nil) <|
.nil
theorem ZOz:OK_ ZTj:=ok_ ZTj Tryz.func114 ⟨ZIy,tr_⟩
def ZTi:=fd_ 82 Tryz.f82 [ZTj.sg] [ZPJ] [qr3] Zzj <|
.lr 94101 [0,3] [] [ZJu,qe0] [] 0 [0] [] [ZJu] [] ZpT ZzC (fun _=> .nil) <|
.j 9111 [2] [] [qe6] [] ZzD <|
.nil
theorem ZOy:OK_ ZTi:=ok_ ZTi Tryz.func82 ⟨ZOz,tr_⟩
def ZTh:=fd_ 41 Tryz.f41 [ZTi.sg] [ZPJ] [qr3] ZAP .nil
theorem ZOx:OK_ ZTh:=ok_ ZTh Tryz.func41 ⟨ZOy,tr_⟩
def ZTg:=fd_ 42 Tryz.f42 [D60.sg] [qa4] [qr3] ZBp .nil
theorem ZOw:OK_ ZTg:=ok_ ZTg Tryz.func42 ⟨ZIt,tr_⟩
def ZTf:=fd_ 157 Tryz.f157 [] [ZNe] [qr2] ZCB <|
.j 911 [0,2] [] [ZFf,qe0] [] ZzG <|
.j 9111 [0,2] [] [ZFf,qe0] [] ZzF <|
.j 91111 [0,2] [] [ZFf,qe0] [] ZzE <|
.nil
theorem ZOv:OK_ ZTf:=ok_ ZTf Tryz.func157
def ZTe:=fd_ 116 Tryz.f116 [ZTf.sg] [ZNe] [qr2] ZBT .nil
theorem ZOu:OK_ ZTe:=ok_ ZTe Tryz.func116 ⟨ZOv,tr_⟩
def ZTd:=fd_ 85 Tryz.f85 [D59.sg] [qa4,qa4] [qr2] ZCp .nil
theorem ZOt:OK_ ZTd:=ok_ ZTd Tryz.func85 ⟨ZIu,tr_⟩
def ZTc:=fd_ 84 Tryz.f84 [] [qa9] [qr2] ZB8 <|
.lr 941011 [3,6,7,8] [] [qe0,ZEf,qe0,qe0] [] 0 [3] [] [qe0] [] Zzb ZDo (fun _=> .nil) <|
.nil
theorem ZOs:OK_ ZTc:=ok_ ZTc Tryz.func84
def ZTb:=fd_ 44 Tryz.f44 [ZTd.sg,D25.sg,ZTc.sg] [.p (.st 11),.p (.st 11)] [qr2] Zwj .nil
theorem ZOr:OK_ ZTb:=ok_ ZTb Tryz.func44 ⟨ZOt,ZMJ,ZOs,tr_⟩
noncomputable def ZTa:FD U:=⟨148,Tryz.f148,[ZTb.sg],[ZR1,qa1,qa1,.fn 44 [] []],[(0,.arr (.st 11))],[],[],[],ZpL,Zpk,
.lo 941 [0,1,2,3,8] [] [ZPG,qe0,qe0,ZPE,qe0] [ZKY] 0 [] [] [] [ZKY] Zpi Zqo (fun n0=> .lo 941401541 [0,1,2,3,8,9] [] [ZPG,qe0,qe0,ZPE,qe0,qe0] [ZKY] 2 [0,1,2,3,8] [] [ZPG,qe0,qe0,ZPE,qe0] [ZKY] Zo4 (Zqp (Zpi n0)) (fun n1=> .j 910541401541 [0,1,2,3,8,9,34] [] [ZPG,qe0,qe0,ZPE,qe0,qe0,qe6] [ZKY] (Zpz (Zo4 n1)) <|
.nil) <|
.nil) <|
.nil⟩
theorem ZOq:OK_ ZTa:=ZNi ZTa Tryz.func148 ⟨ZOr,tr_⟩
noncomputable def ZS9:FD U:=⟨115,Tryz.f115,[ZTa.sg],[ZR1,qa1,qa1,qa1,.fn 44 [] []],[(0,.arr (.st 11))],[],[],[],ZsG,Zqf,
.lz 9411 [0,1,2,3,4,10,11] [] [ZPG,qe0,qe0,qe0,ZPE,qe6,qe6] [ZKY] ZrF (fun _=> .nil) <|
.nil⟩
theorem ZOp:OK_ ZS9:=ZNi ZS9 Tryz.func115 ⟨ZOq,tr_⟩
noncomputable def ZS8:FD U:=⟨83,Tryz.f83,[ZTe.sg,ZS9.sg],[ZR1,.fn 44 [] []],[(0,.arr (.st 11))],[],[],[],Zri,ZpM,
.nil⟩
theorem ZOo:OK_ ZS8:=ZNi ZS8 Tryz.func83 ⟨ZOu,ZOp,tr_⟩
noncomputable def ZS7:FD U:=⟨43,Tryz.f43,[ZS8.sg],[ZR1,qa1,.fn 44 [] []],[(0,.arr (.st 11))],[.view 0],[],[],ZxG,ZtW,
.nil⟩
theorem ZOn:OK_ ZS7:=ZNi ZS7 Tryz.func43 ⟨ZOo,tr_⟩
def ZS6:=fd_ 20 Tryz.f20 [ZTh.sg,D11.sg,ZRV.sg,ZTg.sg,ZS7.sg] [ZPJ,ZFY,qa1] [.p (.sl (.st 11)),qr2] Zvb <|
.j 91401 [0,2,4,14] [] [ZJu,qe0,qe1,qe6] [qo9] Zw6 <|
.j 9131401 [0,2,4,21] [] [ZJu,qe0,qe1,qe6] [qo9] Zw5 <|
.lo 9410111 [2,4,8,35,36,37] [] [qe0,qe1,ZNc,ZJu,qe0,qe0] [qo9,ZKY] 1 [2,8] [] [qe0,ZCv] [ZKY] Zrg ZuB (fun n0=> .j 911140115410111 [2,4,8,10,11,12,35,36,37,53] [] [qe0,qe1,ZNc,ZEe,ZPF,ZSs,ZJu,qe0,qe0,qe6] [qo9,ZKY,qo9,ZJ1,ZFX] (Zw4 (Zrg n0)) <|
.j 91115410111 [2,4,8,35,36,37] [] [qe0,qe1,ZNc,ZJu,qe0,qe0] [qo9,ZKY] (Zw3 (Zrg n0)) <|
.nil) <|
.nil
theorem ZOm:OK_ ZS6:=ok_ ZS6 Tryz.func20 ⟨ZOx,ZIy,ZH1,ZOw,ZOn,tr_⟩
def ZS5:=fd_ 23 Tryz.f23 [ZRR.sg,ZRT.sg] [.p (.sl (.st 11)),.p (.sl (.st 11))] [qr3] ZuN <|
.lr 941011 [1,12,13,14] [] [ZLo,ZLo,qe0,qe0] [] 0 [] [] [] [] Zq8 Zv7 (fun n0=> .j 9114011541011 [1,12,13,14,48] [] [ZLo,ZLo,qe0,qe0,qe6] [] (Zq9 (Zq8 n0)) <|
.nil) <|
.nil
theorem ZOl:OK_ ZS5:=ok_ ZS5 Tryz.func23 ⟨ZHY,ZH0,tr_⟩
def ZS4:=fd_ 24 Tryz.f24 [] [ZPJ,qa1] [ZLm,qr3] ZuS <|
.lr 94101 [1,4,8,9,10] [] [qe0,qe1,ZJu,qe0,qe0] [qo43,ZEY] 0 [4] [] [qe1] [qo43,ZEY] Zrb Zzx (fun _=> .nil) <|
.nil
theorem ZOk:OK_ ZS4:=ok_ ZS4 Tryz.func24
def ZS3:=fd_ 36 Tryz.f36 [ZSe.sg,ZPm.sg,ZSc.sg] [qa4] [qr3] Zr1 <|
.j 9101 [1,24] [] [qe1,qe6] [ZFX] ZpY <|
.nil
theorem ZOj:OK_ ZS3:=ok_ ZS3 Tryz.func36 ⟨ZKV,ZGD,ZKT,tr_⟩
def ZS2:=fd_ 80 Tryz.f80 [ZMM.sg] [qa0,qa0] [qr5] ZvS <|
.lo 941011 [0,1,5,6] [] [qe3,qe3,ZCv,qe0] [qo2] 0 [5] [] [ZCv] [qo2] ZrA ZwG (fun n0=> .lo 94101401541011 [0,1,5,6,7,8] [] [qe3,qe3,ZCv,qe0,ZFf,qe0] [qo2] 2 [0,1,5,6,7] [] [qe3,qe3,ZCv,qe0,ZFf] [qo2] ZtL (ZwH (ZrA n0)) (fun _=> .nil) <|
.nil) <|
.nil
theorem ZOi:OK_ ZS2:=ok_ ZS2 Tryz.func80 ⟨ZEH,tr_⟩
def ZS1:=fd_ 38 Tryz.f38 [ZS2.sg,ZO2.sg] [ZFI,ZFI] [ZIh] Zp0 .nil
theorem ZOh:OK_ ZS1:=ok_ ZS1 Tryz.func38 ⟨ZOi,ZFH,tr_⟩
def ZS0:=fd_ 39 Tryz.f39 [ZO2.sg] [ZFI] [ZIh] Zug .nil
theorem ZOg:OK_ ZS0:=ok_ ZS0 Tryz.func39 ⟨ZFH,tr_⟩
def ZSZ:=fd_ 78 Tryz.f78 [] [qa0,qa0] [.own (.int .u32)] Ztk <|
.lo 9410111 [0,1,5,6,7] [] ZSo [qo2] 0 [5,6] [] [ZCv,ZFf] [qo2] ZpO ZwP (fun n0=> .j 9105410111 [0,1,5,6,7,17] [] [qe3,qe3,ZCv,ZFf,qe0,qe6] [qo2] (Zqu (ZpO n0)) <|
.j 914015410111 [0,1,5,6,7] [] ZSo [qo2] (ZrE (ZpO n0)) <|
.j 9114015410111 [0,1,5,6,7] [] ZSo [qo2] (ZrD (ZpO n0)) <|
.nil) <|
.nil
theorem ZOf:OK_ ZSZ:=ok_ ZSZ Tryz.func78
def ZSY:=fd_ 37 Tryz.f37 [ZSZ.sg,ZO2.sg,ZPm.sg,ZRS.sg] [ZFI,ZFI] [ZIh] ZuU .nil
theorem ZOe:OK_ ZSY:=ok_ ZSY Tryz.func37 ⟨ZOf,ZFH,ZGD,ZHZ,tr_⟩
def ZSX:=fd_ 14 Tryz.f14 [ZS3.sg,ZS1.sg,ZS0.sg,ZSY.sg] [qa4,qa4] [qr2] ZvU <|
.j 9101 [2,3,13] [] ZPz [ZFX,ZFX] ZtR <|
.nil
theorem ZOd:OK_ ZSX:=ok_ ZSX Tryz.func14 ⟨ZOj,ZOh,ZOg,ZOe,tr_⟩
def ZSW:=fd_ 12 Tryz.f12 [ZSX.sg] [qa4,qa4] [qr3] Zss .nil
theorem ZOc:OK_ ZSW:=ok_ ZSW Tryz.func12 ⟨ZOd,tr_⟩
def D180:=fd_ 5 Tryz.f5 [D0.sg,ZTB.sg,ZTA.sg,ZTk.sg,ZSa.sg,ZS6.sg,ZSb.sg,ZS5.sg,ZS4.sg,ZRV.sg,ZRR.sg,ZRT.sg,ZSW.sg] [qa9,qa1] [qr3] ZrW <|
.j 9101111111 [6,7,8,67] [] [ZJu,qe1,ZLo,qe6] [qo9] Zpf <|
.lr 941011111111 [6,7,8,68,69,70] [] [ZJu,qe1,ZLo,ZLo,qe0,qe0] [qo9] 0 [] [] [] [] Zpe Zq2 (fun n0=> .j 911114011541011111111 [6,7,8,68,69,70,145] [] [ZJu,qe1,ZLo,ZLo,qe0,qe0,qe6] [qo9] (ZoV (Zpe n0)) <|
.nil) <|
.nil
theorem D180_ok:OK_ D180:=ok_ D180 Tryz.func5 ⟨ZTU,ZOS,ZOR,ZOA,ZKR,ZOm,ZKS,ZOl,ZOk,ZH1,ZHY,ZH0,ZOc,tr_⟩
end
end Go.Proofs

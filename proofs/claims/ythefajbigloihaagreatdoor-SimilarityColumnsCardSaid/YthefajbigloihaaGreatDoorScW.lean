/- Printed by wip/tools/tgen.py: walks. -/
import Derived.Test.YthefajbigloihaaGreatDoorScU
import Derived.Test.YthefajbigloihaaGreatDoorScX
set_option linter.unusedVariables false
set_option linter.unusedSimpArgs false
set_option linter.unusedSectionVars false
namespace Go.Proofs
open Go Eng
set_option maxRecDepth 100000
noncomputable section
abbrev qe0:Sh:= .o (.v (.int .i64))
abbrev qo1:ShO:= .arr (.int .u32) false
abbrev qe2:Sh:= .o (.v (.sl (.int .u32)))
abbrev qo3:ShO:= .box [.o (.v .bool),.o (.full (0,2,1)),.o (.v .bool),.o (.full (0,3,1))]
abbrev qe4:Sh:= .o (.v .bool)
abbrev qe5:Sh:= .o (.ptr (0,1,1) 0 0)
abbrev qe6:Sh:= .o (.full (0,1,1))
abbrev qe7:Sh:= .o (.v .str)
abbrev qo8:ShO:= .box [.o (.v .bool),.o (.full (0,4,1)),.o (.v .bool),.o (.full (0,5,1))]
abbrev qe9:Sh:= .o (.v (.sl .str))
abbrev ZBf:Sh:= .o (.ptr (0,2,1) 0 0)
abbrev ZBe:Sh:= .o (.v (.int .u64))
abbrev ZC8:Sh:= .o (.ptr (0,3,1) 0 0)
abbrev ZBu:Sh:= .o (.v (.int .u32))
abbrev ZIK:ShO:= .box [.o (.v .bool),.o (.full (0,5,1)),.o (.v .bool),.o (.full (0,6,1))]
abbrev ZCb:ShO:= .boxS (.st 3)
abbrev ZCa:ShO:= .boxS (.st 2)
abbrev ZEa:Sh:= .o (.sl (0,0,0))
abbrev qo18:ShO:= .box [.o (.v .bool),.o (.full (0,3,1)),.o (.v .bool),.o (.full (0,4,1))]
abbrev qo19:ShO:= .box [.o (.v .bool),.o (.full (0,6,1)),.o (.v .bool),.o (.full (0,7,1))]
abbrev ZD9:ShO:= .arr .str false
abbrev ZI3:Sh:= .o (.v (.sl (.st 0)))
abbrev ZGV:ShO:= .arr (.int .u8) false
abbrev ZI2:ShO:= .box [.o (.v .str),.o (.full (0,4,1))]
abbrev ZGU:ShO:= .arr (.st 0) false
abbrev qo25:ShO:= .box [.o (.v .bool),.o (.full (0,2,1))]
abbrev qo26:ShO:= .box [.o (.v .str),.o (.full (0,3,1))]
abbrev ZIL:Sh:= .o (.full (0,2,1))
abbrev ZGT:ShO:= .boxS (.st 1)
abbrev qe29:Sh:= .o (.ptr (0,4,1) 0 0)
abbrev qp0:List ShO:=[qo3,qo1,qo1]
abbrev qs1:List Sh:=[qe2,qe2,qe0]
abbrev qp2:List ShO:=[ZCb,ZCb,qo8,qo1,qo1]
abbrev qs3:List Sh:=[qe5,qe0,qe0,ZI3,qe0,qe0]
abbrev qs4:List Sh:=[qe9,qe9,qe5,qe0,qe7,qe9,qe0,qe0,qe9,qe0,qe0]
abbrev qs5:List Sh:=[qe5,ZBf,ZC8,qe29,.o (.ptr (0,5,1) 0 0),qe4]
abbrev qs6:List Sh:=[qe7,qe4]
abbrev qs7:List Sh:=[qe5,ZBf,ZC8,qe4]
abbrev qp8:List ShO:=[qo8,ZCa,ZCa,qo1,qo1]
abbrev qs9:List Sh:=[qe4,qe7,qe7,qe4]
abbrev ZI1:List Sh:=[qe2,qe2,qe6,ZBe,qe0]
abbrev ZI0:List Sh:=[qe0,qe0,qe0,qe0,qe0]
abbrev ZG9:List Sh:=[qe4,qe7,qe7]
noncomputable def D0:FD U:=⟨11,Tryz.f11,[],[.p (.sl (.int .i64))],[],[.p .bool],[],[],Ztx,Ztx,
.nil⟩
theorem ZJW:Zeg X0.E 11 D0.sig:=D0.ok G0 Tryz.func11 trivial rfl rfl (by kernel_rfl)
noncomputable def D2:FD U:=⟨33,Tryz.f33,[],[.p (.sl .str),.p (.sl .str)],[],[.p .bool],[],[],Zo4,Zo4,
.lr 941011 [1,12,13,14] [] [qe9,qe9,qe0,qe0] [] 0 [] [] [] [] ZoC Zuz (fun _=> .nil) <|
.nil⟩
theorem ZJn:Zeg X0.E 33 D2.sig:=D2.ok G0 Tryz.func33 trivial rfl rfl (by kernel_rfl)
noncomputable def D4:FD U:=⟨259,Tryz.f259,[],[.p .str],[],[.p .bool],[],[],Zt0,Zt0,
.nil⟩
theorem ZJm:Zeg X0.E 259 D4.sig:=D4.ok G0 Tryz.func259 trivial rfl rfl (by kernel_rfl)
noncomputable def D5:FD U:=⟨189,Tryz.f189,[D4.sg],[.p .str,.p .str],[],[.p .bool],[],[],ZuN,ZuN,
.j 911 [4] [] [qe4] [] ZsJ <|
.nil⟩
theorem ZJl:Zeg X0.E 189 D5.sig:=D5.ok G0 Tryz.func189 ⟨ZJm,trivial⟩ rfl rfl (by kernel_rfl)
noncomputable def D6:FD U:=⟨260,Tryz.f260,[],[.p .str],[],[.p .bool],[],[],Zsh,Zsh,
.nil⟩
theorem ZJk:Zeg X0.E 260 D6.sig:=D6.ok G0 Tryz.func260 trivial rfl rfl (by kernel_rfl)
noncomputable def D7:FD U:=⟨192,Tryz.f192,[D5.sg,D6.sg],[.p (.sl .str),.p .str],[],[.p (.int .i64),.p .bool],[],[],Zoi,Zoi,
.lo 940111 [0,1,6,7,8] [] [qe9,qe7,qe0,qe0,qe0] [] 0 [0,1,6,7] [] [qe9,qe7,qe0,qe0] [] Zow ZpH (fun _=> .nil) <|
.j 911111 [4,5] [] [qe0,qe4] [] ZnV <|
.nil⟩
theorem ZJj:Zeg X0.E 192 D7.sig:=D7.ok G0 Tryz.func192 ⟨ZJl,ZJk,trivial⟩ rfl rfl (by kernel_rfl)
noncomputable def D8:FD U:=⟨120,Tryz.f120,[D7.sg],[.p (.sl .str),.p (.sl .str)],[],[.p (.int .i64)],[],[],Ztm,Ztm,
.lo 941011 [1,5,10,11,12] [] [qe9,qe0,qe9,qe0,qe0] [] 0 [5] [] [qe0] [] Zry Zvn (fun n0=> .j 9111541011 [1,5,10,11,12] [] [qe9,qe0,qe9,qe0,qe0] [] (Zty (Zry n0)) <|
.nil) <|
.nil⟩
theorem ZJi:Zeg X0.E 120 D8.sig:=D8.ok G0 Tryz.func120 ⟨ZJj,trivial⟩ rfl rfl (by kernel_rfl)
noncomputable def D9:FD U:=⟨252,Tryz.f252,[],[.p (.sl (.int .u32))],[],[.p (.sl (.int .u32))],[],[],Zn1,Zn1,
.lo 9401 [0] [] [qe2] [] 0 [0] [] [qe2] [] ZoL ZvY (fun n0=> .j 9105401 [0,14] [] [qe2,qe4] [] (ZtV (ZoL n0)) <|
.nil) <|
.nil⟩
theorem ZC7:Zeg X0.E 252 D9.sig:=D9.ok G0 Tryz.func252 trivial rfl rfl (by kernel_rfl)
noncomputable def D10:FD U:=⟨255,Tryz.f255,[D9.sg],[.p (.int .u64)],[],[.p (.sl (.int .u32))],[],[],Zra,Zra,
.nil⟩
theorem ZFl:Zeg X0.E 255 D10.sig:=D10.ok G0 Tryz.func255 ⟨ZC7,trivial⟩ rfl rfl (by kernel_rfl)
noncomputable def D11:FD U:=⟨175,Tryz.f175,[],[.p .bool,.p (.sl (.int .u32))],[],[.p (.st 2)],[],[],Zn9,Zn9,
.j 911 [4] [] [qe5] [qo25,qo1] Zuu <|
.nil⟩
theorem ZBY:Zeg X0.E 175 D11.sig:=D11.ok G0 Tryz.func175 trivial rfl rfl (by kernel_rfl)
noncomputable def D12:FD U:=⟨180,Tryz.f180,[D10.sg,D11.sg],[.p (.int .i64)],[],[.p (.st 2)],[],[],Zsp,Zsp,
.nil⟩
theorem ZIF:Zeg X0.E 180 D12.sig:=D12.ok G0 Tryz.func180 ⟨ZFl,ZBY,trivial⟩ rfl rfl (by kernel_rfl)
noncomputable def D13:FD U:=⟨218,Tryz.f218,[],[.p (.st 2)],[],[.p .bool],[],[],ZrM,ZrM,
.j 9111 [2] [] [qe4] [] Zoz <|
.nil⟩
theorem ZID:Zeg X0.E 218 D13.sig:=D13.ok G0 Tryz.func218 trivial rfl rfl (by kernel_rfl)
noncomputable def D14:FD U:=⟨154,Tryz.f154,[D13.sg],[.p (.sl (.st 2))],[],[.p .bool],[],[],ZuM,ZuM,
.lr 94101 [5,6,7] [] [.o (.v (.sl (.st 2))),qe0,qe0] [] 0 [] [] [] [] ZvC Zyj (fun _=> .nil) <|
.nil⟩
theorem ZFk:Zeg X0.E 154 D14.sig:=D14.ok G0 Tryz.func154 ⟨ZID,trivial⟩ rfl rfl (by kernel_rfl)
noncomputable def D15:FD U:=⟨287,Tryz.f287,[],[.p (.int .i64)],[],[.p .bool],[],[],Zv5,Zv5,
.nil⟩
theorem ZIB:Zeg X0.E 287 D15.sig:=D15.ok G0 Tryz.func287 trivial rfl rfl (by kernel_rfl)
noncomputable def D16:FD U:=⟨220,Tryz.f220,[D15.sg],[.p (.int .i64),.p (.int .i64)],[],[.p (.int .i64)],[],[],ZuO,ZuO,
.nil⟩
theorem ZIA:Zeg X0.E 220 D16.sig:=D16.ok G0 Tryz.func220 ⟨ZIB,trivial⟩ rfl rfl (by kernel_rfl)
noncomputable def D17:FD U:=⟨288,Tryz.f288,[],[.p (.int .u32)],[],[.p .bool],[],[],ZvD,ZvD,
.nil⟩
theorem ZIz:Zeg X0.E 288 D17.sig:=D17.ok G0 Tryz.func288 trivial rfl rfl (by kernel_rfl)
noncomputable def D18:FD U:=⟨221,Tryz.f221,[D17.sg],[.p (.int .u32),.p (.int .u32)],[],[.p (.int .i64)],[],[],Zuw,Zuw,
.nil⟩
theorem ZIy:Zeg X0.E 221 D18.sig:=D18.ok G0 Tryz.func221 ⟨ZIz,trivial⟩ rfl rfl (by kernel_rfl)
noncomputable def D19:FD U:=⟨156,Tryz.f156,[D16.sg,D18.sg],[.p (.sl (.int .u32)),.p (.sl (.int .u32))],[],[.p (.int .i64)],[],[],Zol,Zol,
.lr 941011 [0,1,6] [] qs1 [] 0 [] [] [] [] Zq8 Ztt (fun _=> .nil) <|
.nil⟩
theorem ZDZ:Zeg X0.E 156 D19.sig:=D19.ok G0 Tryz.func156 ⟨ZIA,ZIy,trivial⟩ rfl rfl (by kernel_rfl)
noncomputable def D20:FD U:=⟨282,Tryz.f282,[],[.p (.sl (.int .u32))],[],[.own (.int .u32)],[],[],Zog,Zog,
.j 9101 [0,4] [] [qe2,qe4] [] ZnJ <|
.nil⟩
theorem ZFj:Zeg X0.E 282 D20.sig:=D20.ok G0 Tryz.func282 trivial rfl rfl (by kernel_rfl)
noncomputable def D21:FD U:=⟨325,Tryz.f325,[],[.p (.int .u32),.p (.int .u32),.p (.int .u32)],[],[.p (.int .u32),.p (.int .u32)],[],[],ZuI,ZuI,
.j 9101 [0,1,2,15] [] [ZBu,ZBu,ZBu,qe4] [] ZsH <|
.nil⟩
theorem ZIx:Zeg X0.E 325 D21.sig:=D21.ok G0 Tryz.func325 trivial rfl rfl (by kernel_rfl)
noncomputable def D22:FD U:=⟨283,Tryz.f283,[D21.sg,D9.sg],[.p (.sl (.int .u32)),.p (.int .u32)],[],[.p (.sl (.int .u32)),.p (.int .u32)],[],[],Zrz,Zrz,
.lo 9410111 [0,1,6,7,8] [] [qe2,ZBu,qe6,ZBu,qe0] [qo1] 0 [6,7] [] [qe6,ZBu] [qo1] Zr8 Zun (fun _=> .nil) <|
.nil⟩
theorem ZIw:Zeg X0.E 283 D22.sig:=D22.ok G0 Tryz.func283 ⟨ZIx,ZC7,trivial⟩ rfl rfl (by kernel_rfl)
noncomputable def D23:FD U:=⟨173,Tryz.f173,[],[.p (.int .u32)],[],[.p (.int .i64)],[],[],ZuH,ZuH,
.j 911 [0,2] [] [ZBu,qe0] [] Zus <|
.j 9111 [0,2] [] [ZBu,qe0] [] Zrc <|
.nil⟩
theorem ZIv:Zeg X0.E 173 D23.sig:=D23.ok G0 Tryz.func173 trivial rfl rfl (by kernel_rfl)
noncomputable def D24:FD U:=⟨284,Tryz.f284,[D23.sg],[.p (.int .u32)],[],[.p (.int .i64)],[],[],ZpR,ZpR,
.nil⟩
theorem ZIu:Zeg X0.E 284 D24.sig:=D24.ok G0 Tryz.func284 ⟨ZIv,trivial⟩ rfl rfl (by kernel_rfl)
noncomputable def D25:FD U:=⟨285,Tryz.f285,[],[.p (.sl (.int .u32)),.p (.int .i64)],[],[.own (.int .u32)],[],[],ZoH,ZoH,
.lo 941011 [1,5,13,14,15] [] [qe0,qe6,qe2,qe0,qe0] [qo1] 0 [5] [] [qe6] [qo1] Zq6 Ztr (fun _=> .nil) <|
.nil⟩
theorem ZIt:Zeg X0.E 285 D25.sig:=D25.ok G0 Tryz.func285 trivial rfl rfl (by kernel_rfl)
noncomputable def D26:FD U:=⟨253,Tryz.f253,[],[.p (.int .u32),.p (.int .u32),.p (.int .u32)],[],[.p (.int .u32),.p (.int .u32)],[],[],ZrJ,ZrJ,
.nil⟩
theorem ZFi:Zeg X0.E 253 D26.sig:=D26.ok G0 Tryz.func253 trivial rfl rfl (by kernel_rfl)
noncomputable def D27:FD U:=⟨250,Tryz.f250,[],[.p (.int .u32),.p (.int .u32),.p (.int .u32)],[],[.p (.int .u32),.p (.int .u32)],[],[],Zs3,Zs3,
.nil⟩
theorem ZFh:Zeg X0.E 250 D27.sig:=D27.ok G0 Tryz.func250 trivial rfl rfl (by kernel_rfl)
noncomputable def D28:FD U:=⟨286,Tryz.f286,[D26.sg,D27.sg],[.part (.int .u32),.p (.sl (.int .u32))],[(0,.arr (.int .u32))],[.p (.int .u32)],[],[],ZwE,ZvB,
.lo 94011111 [0,1,5,7,8] [] [ZEa,qe2,qe0,ZBe,ZBe] [qo1] 0 [0,1,5,7] [] [ZEa,qe2,qe0,ZBe] [qo1] ZrK Zu1 (fun n0=> .j 91054011111 [0,1,5,7,8,71] [] [ZEa,qe2,qe0,ZBe,ZBe,qe4] [qo1] (Ztv (ZrK n0)) <|
.nil) <|
.lo 941011111111 [0,1,5,7,9,10,82,83,84] [] [ZEa,qe2,qe0,ZBe,ZBu,ZBe,qe2,qe0,qe0] [qo1] 2 [0,1,5,7,9,10] [] [ZEa,qe2,qe0,ZBe,ZBu,ZBe] [qo1] ZuZ ZwG (fun _=> .nil) <|
.lo 941011111111111 [0,5,7,13,130,131,132] [] [ZEa,qe0,ZBe,ZBu,qe2,qe0,qe0] [qo1] 4 [0,5,7,13] [] [ZEa,qe0,ZBe,ZBu] [qo1] Ztu Zu0 (fun _=> .nil) <|
.nil⟩
theorem ZIs:Zeg X0.E 286 D28.sig:=D28.okA G0 Tryz.func286 ⟨ZFi,ZFh,trivial⟩ (by kernel_rfl) (by kernel_rfl)
noncomputable def D29:FD U:=⟨252,Tryz.f252,[],[.part (.int .u32)],[(0,.arr (.int .u32))],[.view 0],[],[],Zut,Ztz,
.lo 9401 [0] [] [ZEa] [qo1] 0 [0] [] [ZEa] [qo1] Zq9 ZuY (fun n0=> .j 9105401 [0,14] [] [ZEa,qe4] [qo1] (ZsZ (Zq9 n0)) <|
.nil) <|
.nil⟩
theorem ZIr:Zeg X0.E 252 D29.sig:=D29.okA G0 Tryz.func252 trivial (by kernel_rfl) (by kernel_rfl)
noncomputable def D30:FD U:=⟨251,Tryz.f251,[],[.p (.sl (.int .u32)),.p (.int .i64)],[],[.p (.int .u32)],[],[],Zqq,Zqq,
.nil⟩
theorem ZFg:Zeg X0.E 251 D30.sig:=D30.ok G0 Tryz.func251 trivial rfl rfl (by kernel_rfl)
noncomputable def D31:FD U:=⟨251,Tryz.f251,[],[.part (.int .u32),.p (.int .i64)],[(0,.arr (.int .u32))],[.p (.int .u32)],[],[],ZvX,ZsX,
.nil⟩
theorem ZIq:Zeg X0.E 251 D31.sig:=D31.okA G0 Tryz.func251 trivial (by kernel_rfl) (by kernel_rfl)
noncomputable def D32:FD U:=⟨219,Tryz.f219,[D19.sg,D20.sg,D22.sg,D9.sg,D24.sg,D25.sg,D28.sg,D29.sg,D31.sg],[.p (.sl (.int .u32)),.p (.sl (.int .u32))],[],[.p (.sl (.int .u32)),.p (.sl (.int .u32))],[],[(84,7)],ZpA,ZpA,
.lo 9410111111 [8,9,10,11,12,13] [11] [qe0,qe0,qe6,qe2,ZIL,qe0] [qo1,qo1] 1 [8,9,10,12] [] [qe0,qe0,qe6,ZIL] [qo1,qo1] Zqx ZuL (fun _=> .nil) <|
.lo 941011111111 [9,12,14,86,87] [] [qe0,qe6,.o (.sl (0,2,1)),qe0,qe0] [qo1,qo1] 3 [12,14] [] [qe6,.o (.sl (0,2,1))] [qo1,qo1] Zqw ZuK (fun _=> .nil) <|
.nil⟩
theorem ZFf:Zeg X0.E 219 D32.sig:=D32.ok G0 Tryz.func219 ⟨ZDZ,ZFj,ZIw,ZC7,ZIu,ZIt,ZIs,ZIr,ZIq,trivial⟩ rfl rfl (by kernel_rfl)
noncomputable def D33:FD U:=⟨155,Tryz.f155,[D32.sg],[.p (.sl (.int .u32)),.p (.sl (.int .u32))],[],[.p (.sl (.int .u32))],[],[],ZpJ,ZpJ,
.lo 9401 [0,1] [] [qe2,qe2] [] 0 [0] [] [qe2] [] Zoo ZtQ (fun _=> .nil) <|
.nil⟩
theorem ZFe:Zeg X0.E 155 D33.sig:=D33.ok G0 Tryz.func155 ⟨ZFf,trivial⟩ rfl rfl (by kernel_rfl)
noncomputable def D34:FD U:=⟨254,Tryz.f254,[D33.sg,D32.sg,D11.sg],[.p (.st 2),.p (.st 2)],[],[.p (.st 3)],[],[],Zpe,Zpe,
.nil⟩
theorem ZCQ:Zeg X0.E 254 D34.sig:=D34.ok G0 Tryz.func254 ⟨ZFe,ZFf,ZBY,trivial⟩ rfl rfl (by kernel_rfl)
noncomputable def D35:FD U:=⟨179,Tryz.f179,[D14.sg,D34.sg],[.p (.st 2),.p (.st 2)],[],[.p (.st 3),.p (.int .i64)],[],[],Zv2,Zv2,
.nil⟩
theorem ZIp:Zeg X0.E 179 D35.sig:=D35.ok G0 Tryz.func179 ⟨ZFk,ZCQ,trivial⟩ rfl rfl (by kernel_rfl)
noncomputable def D36:FD U:=⟨116,Tryz.f116,[D12.sg,D35.sg],[.p (.int .i64),.p (.int .i64)],[],[.p (.st 3),.p (.int .i64)],[],[],Zwd,Zwd,
.nil⟩
theorem ZFd:Zeg X0.E 116 D36.sig:=D36.ok G0 Tryz.func116 ⟨ZIF,ZIp,trivial⟩ rfl rfl (by kernel_rfl)
noncomputable def D37:FD U:=⟨67,Tryz.f67,[D36.sg],[],[],[.p (.st 3)],[],[],Zwc,Zwc,
.nil⟩
theorem ZCP:Zeg X0.E 67 D37.sig:=D37.ok G0 Tryz.func67 ⟨ZFd,trivial⟩ rfl rfl (by kernel_rfl)
noncomputable def D38:FD U:=⟨64,Tryz.f64,[D36.sg,D37.sg],[.p (.int .i64),.p (.int .i64)],[],[.p (.st 3)],[],[],Zxf,Zxf,
.nil⟩
theorem ZDY:Zeg X0.E 64 D38.sig:=D38.ok G0 Tryz.func64 ⟨ZFd,ZCP,trivial⟩ rfl rfl (by kernel_rfl)
noncomputable def D39:FD U:=⟨78,Tryz.f78,[D8.sg,D38.sg],[.p (.sl .str),.p (.sl .str)],[],[.p (.st 3)],[],[],Zsm,Zsm,
.nil⟩
theorem ZFc:Zeg X0.E 78 D39.sig:=D39.ok G0 Tryz.func78 ⟨ZJi,ZDY,trivial⟩ rfl rfl (by kernel_rfl)
noncomputable def D40:FD U:=⟨38,Tryz.f38,[(80,Zyp.sig),D39.sg],[.p (.st 1),.p (.st 1)],[],[.p (.st 3)],[],[],ZrI,ZrI,
.nil⟩
theorem ZFb:Zeg X0.E 38 D40.sig:=D40.ok G0 Tryz.func38 ⟨Zzh,ZFc,trivial⟩ rfl rfl (by kernel_rfl)
noncomputable def D41:FD U:=⟨36,Tryz.f36,[(34,Zwo.sig),D39.sg],[.p .str,.p .str],[],[.p (.st 3)],[],[],ZtU,ZtU,
.nil⟩
theorem ZIo:Zeg X0.E 36 D41.sig:=D41.ok G0 Tryz.func36 ⟨ZwW,ZFc,trivial⟩ rfl rfl (by kernel_rfl)
noncomputable def D42:FD U:=⟨101,Tryz.f101,[D14.sg,D33.sg,D19.sg],[.p (.st 3)],[],[.p .bool],[],[],ZoS,ZoS,
.j 911 [2] [] [qe4] [] ZrL <|
.nil⟩
theorem ZCO:Zeg X0.E 101 D42.sig:=D42.ok G0 Tryz.func101 ⟨ZFk,ZFe,ZDZ,trivial⟩ rfl rfl (by kernel_rfl)
noncomputable def D43:FD U:=⟨178,Tryz.f178,[D9.sg],[.p (.sl (.int .u32)),.p (.sl (.int .u32))],[],[.p (.sl (.int .u32))],[],[],Zo2,Zo2,
.lo 941011 [1,5,17,18,19] [] [qe2,qe6,qe2,qe0,qe0] [qo1] 0 [5] [] [qe6] [qo1] Zqc Zul (fun n0=> .lo 9410114011541011 [1,5,6,7,8,17,18,19,24,25,26] [] [qe2,qe6,qe0,ZBu,ZBe,qe2,qe0,qe0,qe2,qe0,qe0] [qo1] 2 [1,5,6,8,17,18,19] [] [qe2,qe6,qe0,ZBe,qe2,qe0,qe0] [qo1] Zr7 (Zum (Zqc n0)) (fun _=> .nil) <|
.nil) <|
.nil⟩
theorem ZFa:Zeg X0.E 178 D43.sig:=D43.ok G0 Tryz.func178 ⟨ZC7,trivial⟩ rfl rfl (by kernel_rfl)
noncomputable def D44:FD U:=⟨114,Tryz.f114,[D43.sg,D11.sg],[.p (.st 2),.p (.st 2)],[],[.p (.st 2)],[],[],ZnL,ZnL,
.nil⟩
theorem ZDX:Zeg X0.E 114 D44.sig:=D44.ok G0 Tryz.func114 ⟨ZFa,ZBY,trivial⟩ rfl rfl (by kernel_rfl)
noncomputable def D45:FD U:=⟨115,Tryz.f115,[],[.p (.st 2)],[],[.p (.st 2)],[],[],Zqr,Zqr,
.j 911 [2] [] [qe5] [ZCa] ZtA <|
.nil⟩
theorem ZE9:Zeg X0.E 115 D45.sig:=D45.ok G0 Tryz.func115 trivial rfl rfl (by kernel_rfl)
noncomputable def D46:FD U:=⟨176,Tryz.f176,[D30.sg,D27.sg,D9.sg],[.p (.sl (.int .u32)),.p (.sl (.int .u32))],[],[.p (.sl (.int .u32))],[],[],Zqv,Zqv,
.lo 9410111 [0,1,5,6,20,21] [] [qe2,qe2,qe6,ZBu,qe0,qe0] [qo1] 0 [5,6] [] [qe6,ZBu] [qo1] Zso ZuJ (fun _=> .nil) <|
.nil⟩
theorem ZE8:Zeg X0.E 176 D46.sig:=D46.ok G0 Tryz.func176 ⟨ZFg,ZFh,ZC7,trivial⟩ rfl rfl (by kernel_rfl)
noncomputable def D47:FD U:=⟨177,Tryz.f177,[D30.sg,D26.sg,D9.sg],[.p (.sl (.int .u32)),.p (.sl (.int .u32))],[],[.p (.sl (.int .u32))],[],[],ZpX,ZpX,
.lo 9410111 [0,1,5,6,12,13] [] [qe2,qe2,qe6,ZBu,qe0,qe0] [qo1] 0 [5] [] [qe6] [qo1] Zr9 Zuo (fun _=> .nil) <|
.nil⟩
theorem ZIn:Zeg X0.E 177 D47.sig:=D47.ok G0 Tryz.func177 ⟨ZFg,ZFi,ZC7,trivial⟩ rfl rfl (by kernel_rfl)
noncomputable def D48:FD U:=⟨113,Tryz.f113,[D46.sg,D11.sg,D19.sg,D47.sg],[.p (.st 2),.p (.st 2)],[],[.p (.st 2)],[],[],Zuq,Zuq,
.nil⟩
theorem ZE7:Zeg X0.E 113 D48.sig:=D48.ok G0 Tryz.func113 ⟨ZE8,ZBY,ZDZ,ZIn,trivial⟩ rfl rfl (by kernel_rfl)
noncomputable def D49:FD U:=⟨62,Tryz.f62,[D42.sg,D44.sg,D45.sg,D48.sg],[.p (.st 3),.p (.st 3)],[],[.p (.int .i64)],[],[],ZwC,ZwC,
.j 9101 [2,3,13] [] [qe5,ZBf,qe4] [ZCb,ZCb] Zwe <|
.nil⟩
theorem ZIm:Zeg X0.E 62 D49.sig:=D49.ok G0 Tryz.func62 ⟨ZCO,ZDX,ZE9,ZE7,trivial⟩ rfl rfl (by kernel_rfl)
noncomputable def D50:FD U:=⟨82,Tryz.f82,[D37.sg,D49.sg],[.p (.st 3)],[],[.p (.int .i64)],[],[],Zw9,Zw9,
.nil⟩
theorem ZIl:Zeg X0.E 82 D50.sig:=D50.ok G0 Tryz.func82 ⟨ZCP,ZIm,trivial⟩ rfl rfl (by kernel_rfl)
noncomputable def D51:FD U:=⟨164,Tryz.f164,[],[],[],[.map (.int .i64) (.st 4)],[],[],ZxI,ZxI,
.nil⟩
theorem ZE6:Zeg X0.E 164 D51.sig:=D51.ok G0 Tryz.func164 trivial rfl rfl (by kernel_rfl)
noncomputable def D53:FD U:=⟨236,Tryz.f236,[(297,ZxB.sig)],[.p .str],[],[.p .str],[],[],Zw5,Zw5,
.nil⟩
theorem ZIk:Zeg X0.E 236 D53.sig:=D53.ok G0 Tryz.func236 ⟨Zyf,trivial⟩ rfl rfl (by kernel_rfl)
noncomputable def D54:FD U:=⟨353,Tryz.f353,[],[.p .str,.p .str],[],[.p .bool],[],[],Zoc,Zoc,
.j 911 [4] [] [qe4] [] ZoO <|
.nil⟩
theorem ZE5:Zeg X0.E 353 D54.sig:=D54.ok G0 Tryz.func353 trivial rfl rfl (by kernel_rfl)
noncomputable def D55:FD U:=⟨337,Tryz.f337,[D54.sg],[.p .str,.p .str],[],[.p .str,.p .bool],[],[],Zpn,Zpn,
.nil⟩
theorem ZIj:Zeg X0.E 337 D55.sig:=D55.ok G0 Tryz.func337 ⟨ZE5,trivial⟩ rfl rfl (by kernel_rfl)
noncomputable def D56:FD U:=⟨301,Tryz.f301,[D55.sg],[.p .str,.p .str],[],[.p .str,.p .bool],[],[],Ztl,Ztl,
.nil⟩
theorem ZIi:Zeg X0.E 301 D56.sig:=D56.ok G0 Tryz.func301 ⟨ZIj,trivial⟩ rfl rfl (by kernel_rfl)
noncomputable def D57:FD U:=⟨338,Tryz.f338,[D54.sg],[.p .str,.p .str],[],[.p .str],[],[],Zpb,Zpb,
.nil⟩
theorem ZIh:Zeg X0.E 338 D57.sig:=D57.ok G0 Tryz.func338 ⟨ZE5,trivial⟩ rfl rfl (by kernel_rfl)
noncomputable def D58:FD U:=⟨302,Tryz.f302,[D57.sg],[.p .str,.p .str],[],[.p .str],[],[],ZsG,ZsG,
.nil⟩
theorem ZIg:Zeg X0.E 302 D58.sig:=D58.ok G0 Tryz.func302 ⟨ZIh,trivial⟩ rfl rfl (by kernel_rfl)
noncomputable def D60:FD U:=⟨352,Tryz.f352,[(370,ZtB.sig)],[.p .str,.p .str],[],[.p (.int .i64)],[],[],Zpc,Zpc,
.j 914011 [0,1,5,16] [] [qe7,qe7,qe0,qe4] [] ZpI <|
.nil⟩
theorem ZIf:Zeg X0.E 352 D60.sig:=D60.ok G0 Tryz.func352 ⟨Zwp,trivial⟩ rfl rfl (by kernel_rfl)
noncomputable def D61:FD U:=⟨339,Tryz.f339,[D60.sg],[.p .str,.p .str],[],[.p .str,.p .str,.p .bool],[],[],Zrj,Zrj,
.nil⟩
theorem ZIe:Zeg X0.E 339 D61.sig:=D61.ok G0 Tryz.func339 ⟨ZIf,trivial⟩ rfl rfl (by kernel_rfl)
noncomputable def D62:FD U:=⟨303,Tryz.f303,[D61.sg],[.p .str,.p .str],[],[.p .str,.p .str,.p .bool],[],[],Zwb,Zwb,
.nil⟩
theorem ZE4:Zeg X0.E 303 D62.sig:=D62.ok G0 Tryz.func303 ⟨ZIe,trivial⟩ rfl rfl (by kernel_rfl)
noncomputable def D63:FD U:=⟨304,Tryz.f304,[(297,ZxB.sig)],[.p .str,.p (.int .i64)],[],[.p .bool],[],[],Zs4,Zs4,
.j 911 [4] [] [qe4] [] ZsI <|
.nil⟩
theorem ZId:Zeg X0.E 304 D63.sig:=D63.ok G0 Tryz.func304 ⟨Zyf,trivial⟩ rfl rfl (by kernel_rfl)
noncomputable def D64:FD U:=⟨241,Tryz.f241,[D56.sg,D58.sg,D62.sg,D63.sg,D20.sg,D43.sg,D10.sg,D46.sg,D11.sg,D34.sg],[.p .str],[],[.p (.st 3),.p .bool],[],[],Zrb,Zrb,
.j 9111 [2,4,5] [] [qe5,qe7,qe4] qp0 Zsk <|
.j 9101111 [2,5,6,7,39] [] [qe5,qe4,qe7,qe7,qe4] qp0 Zqy <|
.lo 941011111111 [2,5,7,9,10,11,47,48,49] [9,10] [qe5,qe4,qe7,qe2,qe2,ZIL,.o (.full (0,3,1)),qe0,qe0] [qo8,qo1,ZGV,qo1,qo1] 0 [2,5,7,9,10,11] [] [qe5,qe4,qe7,qe2,qe2,ZIL] [qo18,qo1,qo1,qo1] ZtZ Zv4 (fun _=> .nil) <|
.lo 9410111111111 [2,5,9,10,11,63,64] [11] [qe5,qe4,qe2,qe2,qe2,qe0,qe0] qp0 2 [2,5,9,11] [] [qe5,qe4,qe2,qe2] qp0 ZtY Zv3 (fun _=> .nil) <|
.nil⟩
theorem ZE3:Zeg X0.E 241 D64.sig:=D64.ok G0 Tryz.func241 ⟨ZIi,ZIg,ZE4,ZId,ZFj,ZFa,ZFl,ZE8,ZBY,ZCQ,trivial⟩ rfl rfl (by kernel_rfl)
noncomputable def D67:FD U:=⟨307,Tryz.f307,[],[.p (.sl .str)],[],[.p .str],[],[],Zv6,Zv6,
.lr 941011 [3,6,7,8] [] [qe7,qe9,qe0,qe0] [] 0 [3] [] [qe7] [] Zt1 Zyk (fun _=> .nil) <|
.nil⟩
theorem ZIc:Zeg X0.E 307 D67.sig:=D67.ok G0 Tryz.func307 trivial rfl rfl (by kernel_rfl)
noncomputable def D68:FD U:=⟨242,Tryz.f242,[D64.sg,(305,ZxH.sig),D62.sg,(306,Zxw.sig),D67.sg],[.p .str],[],[.p .str,.p .bool],[],[],Zuy,Zuy,
.j 9111111 [0,9] [] [qe7,qe7] [] ZqJ <|
.j 910111111 [9,43] [] qs6 [] Zvr <|
.j 91111111 [9] [] [qe7] [] Zvq <|
.nil⟩
theorem ZIb:Zeg X0.E 242 D68.sig:=D68.ok G0 Tryz.func242 ⟨ZE3,ZyV,ZE4,ZyJ,ZIc,trivial⟩ rfl rfl (by kernel_rfl)
noncomputable def D69:FD U:=⟨163,Tryz.f163,[D51.sg,D53.sg,D68.sg],[.p (.int .i64),.p .str],[],[.p .str,.p .bool],[],[(26,2)],Zs2,Zs2,
.nil⟩
theorem ZIa:Zeg X0.E 163 D69.sig:=D69.ok G0 Tryz.func163 ⟨ZE6,ZIk,ZIb,trivial⟩ rfl rfl (by kernel_rfl)
noncomputable def D70:FD U:=⟨110,Tryz.f110,[D69.sg,D51.sg,D64.sg],[.p (.int .i64),.p .str],[],[.p (.st 3),.p .bool],[],[(22,2)],ZwL,ZwL,
.nil⟩
theorem ZH9:Zeg X0.E 110 D70.sig:=D70.ok G0 Tryz.func110 ⟨ZIa,ZE6,ZE3,trivial⟩ rfl rfl (by kernel_rfl)
noncomputable def D71:FD U:=⟨60,Tryz.f60,[D37.sg,D70.sg],[.p (.st 0)],[],[.p (.st 3),.p .bool],[],[],Zx5,Zx5,
.nil⟩
theorem ZH8:Zeg X0.E 60 D71.sig:=D71.ok G0 Tryz.func60 ⟨ZCP,ZH9,trivial⟩ rfl rfl (by kernel_rfl)
noncomputable def D72:FD U:=⟨40,Tryz.f40,[D71.sg,D38.sg],[.p (.st 1)],[],[.p (.st 3)],[],[],ZwN,ZoY,
.lo 941011 [2,3,4,10,11,12] [] qs3 qp0 0 [2,3,4] [] [qe5,qe0,qe0] qp0 Zsi ZvR (fun n0=> .j 9111541011 [2,3,4,10,11,12] [] qs3 qp0 (Zsj (Zsi n0)) <|
.nil) <|
.nil⟩
theorem ZDW:Zeg X0.E 40 D72.sig:=D72.ok G0 Tryz.func40 ⟨ZH8,ZDY,trivial⟩ rfl (by funext x_;exact Zwr _) (by kernel_rfl)
noncomputable def D73:FD U:=⟨196,Tryz.f196,[D44.sg,D48.sg],[.p (.st 3),.p (.st 3)],[],[.p (.st 2),.p (.st 2)],[],[],ZwQ,ZwQ,
.nil⟩
theorem ZH7:Zeg X0.E 196 D73.sig:=D73.ok G0 Tryz.func196 ⟨ZDX,ZE7,trivial⟩ rfl rfl (by kernel_rfl)
noncomputable def D74:FD U:=⟨197,Tryz.f197,[D42.sg,D73.sg,D34.sg],[.fn 196 [] [],.p (.st 3),.p (.st 3)],[],[.p (.st 3),.p (.int .i64)],[],[],ZoI,ZoI,
.j 9101 [0,4,5,6,18] [] [.fn 196 [] [],qe5,ZBf,ZC8,qe4] qp2 ZpT <|
.nil⟩
theorem ZE2:Zeg X0.E 197 D74.sig:=D74.ok G0 Tryz.func197 ⟨ZCO,ZH7,ZCQ,trivial⟩ rfl rfl (by kernel_rfl)
noncomputable def D75:FD U:=⟨127,Tryz.f127,[D42.sg,D45.sg,D74.sg],[.p (.st 3),.p (.st 3)],[],[.p (.st 3),.p (.int .i64)],[],[],ZwA,ZwA,
.nil⟩
theorem ZH6:Zeg X0.E 127 D75.sig:=D75.ok G0 Tryz.func127 ⟨ZCO,ZE9,ZE2,trivial⟩ rfl rfl (by kernel_rfl)
noncomputable def D76:FD U:=⟨126,Tryz.f126,[],[.p (.st 3),.p (.int .i64)],[],[.p (.st 3)],[],[],ZvS,ZvS,
.nil⟩
theorem ZDV:Zeg X0.E 126 D76.sig:=D76.ok G0 Tryz.func126 trivial rfl rfl (by kernel_rfl)
noncomputable def D77:FD U:=⟨83,Tryz.f83,[D75.sg,D76.sg],[.p (.st 3),.p (.st 3)],[],[.p (.st 3)],[],[],Zx6,Zx6,
.nil⟩
theorem ZH5:Zeg X0.E 83 D77.sig:=D77.ok G0 Tryz.func83 ⟨ZH6,ZDV,trivial⟩ rfl rfl (by kernel_rfl)
noncomputable def D78:FD U:=⟨128,Tryz.f128,[D74.sg],[.p (.st 3),.p (.st 3)],[],[.p (.st 3),.p (.int .i64)],[],[],Zvk,Zvk,
.nil⟩
theorem ZH4:Zeg X0.E 128 D78.sig:=D78.ok G0 Tryz.func128 ⟨ZE2,trivial⟩ rfl rfl (by kernel_rfl)
noncomputable def D79:FD U:=⟨84,Tryz.f84,[D78.sg,D76.sg],[.p (.st 3),.p (.st 3)],[],[.p (.st 3)],[],[],Zx7,Zx7,
.nil⟩
theorem ZH3:Zeg X0.E 84 D79.sig:=D79.ok G0 Tryz.func84 ⟨ZH4,ZDV,trivial⟩ rfl rfl (by kernel_rfl)
noncomputable def D80:FD U:=⟨198,Tryz.f198,[D44.sg],[.p (.st 3),.p (.st 3)],[],[.p (.st 2),.p (.st 2)],[],[],ZwR,ZwR,
.nil⟩
theorem ZH2:Zeg X0.E 198 D80.sig:=D80.ok G0 Tryz.func198 ⟨ZDX,trivial⟩ rfl rfl (by kernel_rfl)
noncomputable def D81:FD U:=⟨197,Tryz.f197,[D42.sg,D80.sg,D34.sg],[.fn 198 [] [],.p (.st 3),.p (.st 3)],[],[.p (.st 3),.p (.int .i64)],[],[],Zqp,Zqp,
.j 9101 [0,4,5,6,18] [] [.fn 198 [] [],qe5,ZBf,ZC8,qe4] qp2 Zpo <|
.nil⟩
theorem ZH1:Zeg X0.E 197 D81.sig:=D81.ok G0 Tryz.func197 ⟨ZCO,ZH2,ZCQ,trivial⟩ rfl rfl (by kernel_rfl)
noncomputable def D82:FD U:=⟨129,Tryz.f129,[D81.sg],[.p (.st 3),.p (.st 3)],[],[.p (.st 3),.p (.int .i64)],[],[],ZwB,ZwB,
.nil⟩
theorem ZH0:Zeg X0.E 129 D82.sig:=D82.ok G0 Tryz.func129 ⟨ZH1,trivial⟩ rfl rfl (by kernel_rfl)
noncomputable def D83:FD U:=⟨85,Tryz.f85,[D82.sg,D76.sg],[.p (.st 3),.p (.st 3)],[],[.p (.st 3)],[],[],Zy4,Zy4,
.nil⟩
theorem ZHZ:Zeg X0.E 85 D83.sig:=D83.ok G0 Tryz.func85 ⟨ZH0,ZDV,trivial⟩ rfl rfl (by kernel_rfl)
noncomputable def D84:FD U:=⟨42,Tryz.f42,[D40.sg,D41.sg,D50.sg,D37.sg,D72.sg,D77.sg,D79.sg,D38.sg,D83.sg],[.p (.st 1),.p (.st 1)],[],[.p (.st 3)],[],[],Ztn,Ztn,
.j 91011 [2,3,4,5,6,24] [] qs5 [ZGT,ZGT,qo19,ZCb,ZCb,qo1,qo1] Zsn <|
.j 911111 [4,5,6,7] [] [qe5,ZBf,ZC8,qe29] [ZIK,ZCb,ZCb,ZCb,qo1,qo1] ZtT <|
.nil⟩
theorem ZE1:Zeg X0.E 42 D84.sig:=D84.ok G0 Tryz.func42 ⟨ZFb,ZIo,ZIl,ZCP,ZDW,ZH5,ZH3,ZDY,ZHZ,trivial⟩ rfl rfl (by kernel_rfl)
noncomputable def D85:FD U:=⟨201,Tryz.f201,[],[.p (.sl (.int .u32))],[],[.p (.sl (.int .u32))],[],[],ZnZ,ZnZ,
.lo 9401 [0] [] [qe2] [] 0 [0] [] [qe2] [] Zom Zwi (fun n0=> .j 9105401 [0,14] [] [qe2,qe4] [] (ZtK (Zom n0)) <|
.nil) <|
.nil⟩
theorem ZAZ:Zeg X0.E 201 D85.sig:=D85.ok G0 Tryz.func201 trivial rfl rfl (by kernel_rfl)
noncomputable def D86:FD U:=⟨135,Tryz.f135,[D85.sg],[.p .bool,.p (.sl (.int .u32))],[],[.p (.st 2)],[],[],ZnP,ZnP,
.j 9111 [4] [] [qe5] [ZCa] Zr2 <|
.nil⟩
theorem ZBX:Zeg X0.E 135 D86.sig:=D86.ok G0 Tryz.func135 ⟨ZAZ,trivial⟩ rfl rfl (by kernel_rfl)
noncomputable def D87:FD U:=⟨140,Tryz.f140,[D86.sg],[.p (.int .i64)],[],[.p (.st 2)],[],[],ZnM,ZnM,
.j 9111 [0,2,3] [] [qe0,qe5,ZBe] [qo25,qo1] Zqj <|
.nil⟩
theorem ZDU:Zeg X0.E 140 D87.sig:=D87.ok G0 Tryz.func140 ⟨ZBX,trivial⟩ rfl rfl (by kernel_rfl)
noncomputable def D88:FD U:=⟨132,Tryz.f132,[],[.p (.st 2)],[],[.p .bool],[],[],Zoh,Zoh,
.j 9111 [2] [] [qe4] [] Zn3 <|
.nil⟩
theorem ZE0:Zeg X0.E 132 D88.sig:=D88.ok G0 Tryz.func132 trivial rfl rfl (by kernel_rfl)
noncomputable def D89:FD U:=⟨199,Tryz.f199,[D85.sg],[.p (.sl (.int .u32))],[],[.p (.sl (.int .u32))],[],[],Zop,Zop,
.lo 941011 [0,3,9,10] [] [qe2,qe6,qe0,qe0] [qo1] 0 [3] [] [qe6] [qo1] ZpN ZtL (fun n0=> .j 9111541011 [0,3,9,10] [] [qe2,qe6,qe0,qe0] [qo1] (ZpO (ZpN n0)) <|
.nil) <|
.nil⟩
theorem ZHY:Zeg X0.E 199 D89.sig:=D89.ok G0 Tryz.func199 ⟨ZAZ,trivial⟩ rfl rfl (by kernel_rfl)
noncomputable def D90:FD U:=⟨133,Tryz.f133,[],[.p (.sl (.int .u32)),.p (.sl (.int .u32))],[],[.p (.int .i64)],[],[],Zoa,Zoa,
.lr 941011 [0,1,5] [] qs1 [] 0 [] [] [] [] Zr1 Zuj (fun _=> .nil) <|
.nil⟩
theorem ZCN:Zeg X0.E 133 D90.sig:=D90.ok G0 Tryz.func133 trivial rfl rfl (by kernel_rfl)
noncomputable def D91:FD U:=⟨137,Tryz.f137,[D85.sg],[.p (.sl (.int .u32)),.p (.sl (.int .u32))],[],[.p (.sl (.int .u32))],[],[],Zoy,Zoy,
.lo 9410111 [0,1,5,6,7] [] [qe2,qe2,qe6,qe0,qe0] [qo1] 0 [5] [] [qe6] [qo1] Zp5 Zua (fun n0=> .j 9114015410111 [0,1,5,6,7] [] [qe2,qe2,qe6,qe0,qe0] [qo1] (Zp6 (Zp5 n0)) <|
.nil) <|
.nil⟩
theorem ZDT:Zeg X0.E 137 D91.sig:=D91.ok G0 Tryz.func137 ⟨ZAZ,trivial⟩ rfl rfl (by kernel_rfl)
noncomputable def D92:FD U:=⟨200,Tryz.f200,[D85.sg],[.p (.sl (.int .u32)),.p (.int .u32)],[],[.p (.sl (.int .u32))],[],[],Zpj,Zpj,
.lo 941011 [0,1,5,6] [] [qe2,ZBu,qe6,qe0] [qo1] 0 [1,5] [] [ZBu,qe6] [qo1] ZqS Ztb (fun _=> .nil) <|
.nil⟩
theorem ZEZ:Zeg X0.E 200 D92.sig:=D92.ok G0 Tryz.func200 ⟨ZAZ,trivial⟩ rfl rfl (by kernel_rfl)
noncomputable def D93:FD U:=⟨134,Tryz.f134,[D89.sg,D90.sg,D91.sg,D92.sg],[.p (.sl (.int .u32)),.p (.sl (.int .u32))],[],[.p (.sl (.int .u32))],[],[],ZpU,ZpU,
.lo 94011 [0,1,5] [] qs1 [] 0 [0,1,5] [] qs1 [] ZoW Zuh (fun n0=> .j 91054011 [0,1,5,17] [] [qe2,qe2,qe0,qe4] [] (Zr0 (ZoW n0)) <|
.nil) <|
.lo 940111 [0,1,5] [] qs1 [] 2 [0,5] [] [qe2,qe0] [] ZnQ Zue (fun n0=> .lo 94041540111 [0,1,5] [] qs1 [] 4 [0,1,5] [] qs1 [] Zof (Zug (ZnQ n0)) (fun _=> .nil) <|
.lo 940141540111 [0,1,5] [] qs1 [] 6 [0,1,5] [] qs1 [] Zoe (Zuf (ZnQ n0)) (fun _=> .nil) <|
.j 911141540111 [0,1,5] [] qs1 [] (ZrZ (ZnQ n0)) <|
.nil) <|
.lo 9401111 [0,5] [] [qe2,qe0] [] 8 [0] [] [qe2] [] ZoV Zud (fun _=> .nil) <|
.nil⟩
theorem ZEY:Zeg X0.E 134 D93.sig:=D93.ok G0 Tryz.func134 ⟨ZHY,ZCN,ZDT,ZEZ,trivial⟩ rfl rfl (by kernel_rfl)
noncomputable def D94:FD U:=⟨315,Tryz.f315,[],[.p (.sl (.int .u32)),.p (.int .i64)],[],[.p (.int .u32)],[],[],Zrs,Zrs,
.nil⟩
theorem ZHX:Zeg X0.E 315 D94.sig:=D94.ok G0 Tryz.func315 trivial rfl rfl (by kernel_rfl)
noncomputable def D95:FD U:=⟨262,Tryz.f262,[D94.sg,D92.sg,D90.sg,D91.sg,D85.sg],[.p (.sl (.int .u32)),.p (.sl (.int .u32))],[],[.p (.sl (.int .u32)),.p (.sl (.int .u32))],[],[],ZpV,ZpV,
.lo 941011 [0,1,4,5,6] [5] [qe2,qe2,qe6,qe2,qe0] [qo1] 0 [4,5] [] [qe6,qe2] [qo1] Zp8 Zui (fun n0=> .j 911541011 [0,1,4,5,6] [] [qe2,qe2,qe6,qe2,qe0] [qo1] (Zp9 (Zp8 n0)) <|
.nil) <|
.nil⟩
theorem ZHW:Zeg X0.E 262 D95.sig:=D95.ok G0 Tryz.func262 ⟨ZHX,ZEZ,ZCN,ZDT,ZAZ,trivial⟩ rfl rfl (by kernel_rfl)
noncomputable def D96:FD U:=⟨202,Tryz.f202,[D87.sg,D93.sg,D95.sg,D86.sg],[.p (.st 2),.p (.st 2)],[],[.p (.st 3)],[],[],Zot,Zot,
.nil⟩
theorem ZDS:Zeg X0.E 202 D96.sig:=D96.ok G0 Tryz.func202 ⟨ZDU,ZEY,ZHW,ZBX,trivial⟩ rfl rfl (by kernel_rfl)
noncomputable def D97:FD U:=⟨139,Tryz.f139,[D88.sg,D96.sg],[.p (.st 2),.p (.st 2)],[],[.p (.st 3),.p (.int .i64)],[],[],Zq1,Zq1,
.j 9101 [2,3,4,13] [] qs7 [ZCa,ZCa,qo8,qo1,qo1] Zri <|
.nil⟩
theorem ZHV:Zeg X0.E 139 D97.sig:=D97.ok G0 Tryz.func139 ⟨ZE0,ZDS,trivial⟩ rfl rfl (by kernel_rfl)
noncomputable def D98:FD U:=⟨92,Tryz.f92,[D87.sg,D97.sg],[.p (.int .i64),.p (.int .i64)],[],[.p (.st 3),.p (.int .i64)],[],[],Zqu,Zqu,
.nil⟩
theorem ZEX:Zeg X0.E 92 D98.sig:=D98.ok G0 Tryz.func92 ⟨ZDU,ZHV,trivial⟩ rfl rfl (by kernel_rfl)
noncomputable def D99:FD U:=⟨48,Tryz.f48,[D98.sg],[.p (.int .i64),.p (.int .i64)],[],[.p (.st 3)],[],[],ZuV,Zod,
.nil⟩
theorem ZCM:Zeg X0.E 48 D99.sig:=D99.ok G0 Tryz.func48 ⟨ZEX,trivial⟩ rfl (by funext x_;funext x_;exact Zwr _) (by kernel_rfl)
noncomputable def ZII:FD U:=⟨47,Tryz.f47,[D99.sg],[.p (.int .i64)],[],[.p (.st 3)],[],[],Zvl,Zn8,
.nil⟩
theorem ZCq:Zeg X0.E 47 ZII.sig:=ZII.ok G0 Tryz.func47 ⟨ZCM,trivial⟩ rfl (by funext x_;exact Zwr _) (by kernel_rfl)
noncomputable def ZJV:FD U:=⟨66,Tryz.f66,[],[.p (.st 2),.p (.st 2)],[],[.p .bool],[],[],ZoN,ZoN,
.j 9101 [2,3,20] [] [qe5,ZBf,qe4] [ZCa,ZCa] Zqg <|
.lr 941011 [3,22,23,24] [] [qe5,qe2,qe0,qe0] [ZCa] 0 [] [] [] [] Zqf Zsw (fun _=> .nil) <|
.nil⟩
theorem ZGS:Zeg X0.E 66 ZJV.sig:=ZJV.ok G0 Tryz.func66 trivial rfl rfl (by kernel_rfl)
noncomputable def ZIH:FD U:=⟨28,Tryz.f28,[ZJV.sg],[.p (.st 3),.p (.st 3)],[],[.p .bool],[],[],ZnY,ZnY,
.j 911 [4] [] [qe4] [] Zrd <|
.nil⟩
theorem ZCp:Zeg X0.E 28 ZIH.sig:=ZIH.ok G0 Tryz.func28 ⟨ZGS,trivial⟩ rfl rfl (by kernel_rfl)
noncomputable def ZJU:FD U:=⟨31,Tryz.f31,[(34,Zwo.sig),D2.sg,D84.sg,ZII.sg,ZIH.sg,D72.sg,D99.sg],[],[],[.p .bool],[],[],Zpl,Zpl,
.j 9111 [0] [] [qe4] [] Zpy <|
.nil⟩
theorem ZGR:Zeg X0.E 31 ZJU.sig:=ZJU.ok G0 Tryz.func31 ⟨ZwW,ZJn,ZE1,ZCq,ZCp,ZDW,ZCM,trivial⟩ rfl rfl (by kernel_rfl)
noncomputable def ZJT:FD U:=⟨13,Tryz.f13,[],[.p (.sl (.int .i64))],[],[.box (.st 5)],[],[],ZtS,ZtS,
.nil⟩
theorem ZGQ:Zeg X0.E 13 ZJT.sig:=ZJT.ok G0 Tryz.func13 trivial rfl rfl (by kernel_rfl)
noncomputable def ZJS:FD U:=⟨16,Tryz.f16,[],[.p (.int .i64),.p (.int .i64)],[],[.p (.int .i64)],[],[],ZsF,ZsF,
.nil⟩
theorem ZGP:Zeg X0.E 16 ZJS.sig:=ZJS.ok G0 Tryz.func16 trivial rfl rfl (by kernel_rfl)
noncomputable def ZGO:FD U:=⟨14,Tryz.f14,[ZJS.sg],[.box (.st 5),.p (.int .i64)],[(0,.box (.st 5))],[.p (.int .i64)],[],[],ZnT,ZnT,
.nil⟩
theorem ZAG:Zeg X0.E 14 ZGO.sig:=ZGO.ok G0 Tryz.func14 ⟨ZGP,trivial⟩ rfl rfl (by kernel_rfl)
noncomputable def ZIG:FD U:=⟨32,Tryz.f32,[ZGO.sg],[.box (.st 5),.p (.sl .str)],[(0,.box (.st 5))],[.p .str],[],[],Zob,Zob,
.nil⟩
theorem ZCo:Zeg X0.E 32 ZIG.sig:=ZIG.ok G0 Tryz.func32 ⟨ZAG,trivial⟩ rfl rfl (by kernel_rfl)
noncomputable def ZJR:FD U:=⟨54,Tryz.f54,[ZGO.sg,ZIG.sg],[.box (.st 5)],[(0,.box (.st 5))],[.p (.st 0)],[],[],Zsg,Zsg,
.nil⟩
theorem ZGN:Zeg X0.E 54 ZJR.sig:=ZJR.ok G0 Tryz.func54 ⟨ZAG,ZCo,trivial⟩ rfl rfl (by kernel_rfl)
noncomputable def ZJQ:FD U:=⟨55,Tryz.f55,[ZGO.sg,ZIG.sg,(56,ZxC.sig)],[.box (.st 5)],[(0,.box (.st 5))],[.p (.st 0)],[],[],Zq2,Zq2,
.nil⟩
theorem ZGM:Zeg X0.E 55 ZJQ.sig:=ZJQ.ok G0 Tryz.func55 ⟨ZAG,ZCo,Zyg,trivial⟩ rfl rfl (by kernel_rfl)
noncomputable def ZJP:FD U:=⟨15,Tryz.f15,[ZIG.sg,ZGO.sg,ZJR.sg,ZJQ.sg,(56,ZxC.sig)],[.box (.st 5),.p (.int .i64)],[(0,.box (.st 5))],[.p (.st 1)],[],[],ZpG,ZpG,
.lo 9410111 [0,4,5,6,15,16] [] [.o (.ptr (0,0,0) 0 0),qe5,ZBf,qe0,qe0,qe0] [.boxS (.st 5),qo26,ZI2,ZGU,ZGU] 0 [4,5] [] [qe5,ZBf] [.boxS (.st 5),qo26,ZI2,ZGU,ZGU] ZpQ ZtM (fun n0=> .j 911140115410111 [0,4,5,6,8,15,16] [] [.o (.ptr (0,0,0) 0 0),qe5,ZBf,qe0,ZC8,qe0,qe0] [.boxS (.st 5),ZI2,.box [.o (.v .str),.o (.full (0,5,1))],.boxS (.st 0),ZGU,ZGU] (Zon (ZpQ n0)) <|
.nil) <|
.nil⟩
theorem ZGL:Zeg X0.E 15 ZJP.sig:=ZJP.ok G0 Tryz.func15 ⟨ZCo,ZAG,ZGN,ZGM,Zyg,trivial⟩ rfl rfl (by kernel_rfl)
noncomputable def ZJO:FD U:=⟨125,Tryz.f125,[],[.p (.sl .str)],[],[.own .str],[],[],Zrq,Zrq,
.lo 941011 [3,7,8,9] [] [qe6,qe9,qe0,qe0] [ZD9] 0 [3] [] [qe6] [ZD9] Zor Zt8 (fun n0=> .lo 940114011541011 [3,5,6,7,8,9] [] [qe6,qe7,qe0,qe9,qe0,qe0] [ZD9] 2 [3,5,6,7,8,9] [] [qe6,qe7,qe0,qe9,qe0,qe0] [ZD9] Zp4 (Zt9 (Zor n0)) (fun n1=> .j 910540114011541011 [3,5,6,7,8,9,24] [] [qe6,qe7,qe0,qe9,qe0,qe0,qe4] [ZD9] (ZrX (Zp4 n1)) <|
.nil) <|
.j 911114011541011 [3,5,6,7,8,9,38] [] [qe6,qe7,qe0,qe9,qe0,qe0,qe4] [ZD9] (ZrW (Zor n0)) <|
.j 9111541011 [3,7,8,9] [] [qe6,qe9,qe0,qe0] [ZD9] (ZrV (Zor n0)) <|
.nil) <|
.nil⟩
theorem ZGK:Zeg X0.E 125 ZJO.sig:=ZJO.ok G0 Tryz.func125 trivial rfl rfl (by kernel_rfl)
noncomputable def ZJN:FD U:=⟨81,Tryz.f81,[ZJO.sg],[.p (.st 1)],[],[.own .str],[],[],ZoU,ZoU,
.lo 941011 [3,7,8,9] [] [qe6,ZI3,qe0,qe0] [ZD9] 0 [3] [] [qe6] [ZD9] Zo5 ZsL (fun n0=> .j 9111541011 [3,7,8,9] [] [qe6,ZI3,qe0,qe0] [ZD9] (Zqz (Zo5 n0)) <|
.nil) <|
.nil⟩
theorem ZGJ:Zeg X0.E 81 ZJN.sig:=ZJN.ok G0 Tryz.func81 ⟨ZGK,trivial⟩ rfl rfl (by kernel_rfl)
noncomputable def ZGY:FD U:=⟨45,Tryz.f45,[ZII.sg],[],[],[.p (.st 3)],[],[],ZnS,ZnS,
.nil⟩
theorem ZBr:Zeg X0.E 45 ZGY.sig:=ZGY.ok G0 Tryz.func45 ⟨ZCq,trivial⟩ rfl rfl (by kernel_rfl)
noncomputable def ZIU:FD U:=⟨79,Tryz.f79,[ZGY.sg,D99.sg],[.p (.sl .str),.p (.sl .str)],[],[.p (.st 3)],[],[],ZoM,ZoM,
.lo 941011 [0,1,4,5,10,11,12] [] [qe9,qe9,qe5,qe0,qe9,qe0,qe0] qp0 0 [0,1,4,5] [] [qe9,qe9,qe5,qe0] qp0 ZoQ Zsu (fun n0=> .lo 94114011541011 [0,1,4,5,7,10,11,12,16,17,18] [] qs4 qp0 2 [0,1,4,5,10,11,12] [] [qe9,qe9,qe5,qe0,qe9,qe0,qe0] qp0 ZoP (Zsv (ZoQ n0)) (fun n1=> .j 911154114011541011 [0,1,4,5,7,10,11,12,16,17,18] [] qs4 qp0 (Zqe (ZoP n1)) <|
.nil) <|
.nil) <|
.nil⟩
theorem ZD7:Zeg X0.E 79 ZIU.sig:=ZIU.ok G0 Tryz.func79 ⟨ZBr,ZCM,trivial⟩ rfl rfl (by kernel_rfl)
noncomputable def ZIT:FD U:=⟨39,Tryz.f39,[ZJN.sg,ZIU.sg],[.p (.st 1),.p (.st 1)],[],[.p (.st 3)],[],[],ZoT,ZoT,
.nil⟩
theorem ZD6:Zeg X0.E 39 ZIT.sig:=ZIT.ok G0 Tryz.func39 ⟨ZGJ,ZD7,trivial⟩ rfl rfl (by kernel_rfl)
noncomputable def ZJM:FD U:=⟨203,Tryz.f203,[],[.p .str],[],[.p .str],[],[],ZqQ,ZqQ,
.lo 9401 [0] [] [qe7] [] 0 [0] [] [qe7] [] ZpL ZtH (fun n0=> .j 9105401 [0,10] [] qs6 [] (Zrh (ZpL n0)) <|
.nil) <|
.lo 94011 [0] [] [qe7] [] 2 [0] [] [qe7] [] ZpK ZtG (fun n0=> .j 91054011 [0,23] [] qs6 [] (Zrg (ZpK n0)) <|
.nil) <|
.nil⟩
theorem ZGI:Zeg X0.E 203 ZJM.sig:=ZJM.ok G0 Tryz.func203 trivial rfl rfl (by kernel_rfl)
noncomputable def ZJL:FD U:=⟨204,Tryz.f204,[],[.p .str],[],[.p .str],[],[],ZuW,ZuW,
.lo 941011 [3,8,9] [] [qe6,qe0,qe0] [ZGV] 0 [3] [] [qe6] [ZGV] ZpM Zwh (fun n0=> .j 9114011541011 [3,4,8,9,23] [] [qe6,qe0,qe0,qe0,qe4] [ZGV] (ZtJ (ZpM n0)) <|
.j 9111541011 [3,8,9] [] [qe6,qe0,qe0] [ZGV] (ZtI (ZpM n0)) <|
.nil) <|
.nil⟩
theorem ZGH:Zeg X0.E 204 ZJL.sig:=ZJL.ok G0 Tryz.func204 trivial rfl rfl (by kernel_rfl)
noncomputable def ZIS:FD U:=⟨205,Tryz.f205,[],[.p .str],[],[.p .bool,.p .str,.p .str,.p .bool],[],[],Zpk,Zpk,
.j 9101 [0,2,20] [] [qe7,qe4,qe4] [] Zpx <|
.j 911 [0,2] [] qs6 [] Zn4 <|
.lo 940111 [0,2,6] [] [qe7,qe4,qe0] [] 0 [0,2,6] [] [qe7,qe4,qe0] [] Zpv Ztk (fun n0=> .j 910540111 [0,2,6,41] [] [qe7,qe4,qe0,qe4] [] (Zpw (Zpv n0)) <|
.nil) <|
.j 91011111 [0,2,3,6,52] [] [qe7,qe4,qe7,qe0,qe4] [] Zq0 <|
.j 91011111111 [2,3,4,76] [] qs9 [] Zn0 <|
.lr 9410111111111 [2,3,4,7] [] [qe4,qe7,qe7,qe0] [] 2 [2,3,4] [] ZG9 [] ZoG ZvQ (fun n0=> .j 914015410111111111 [2,3,4,7,92] [] [qe4,qe7,qe7,qe0,qe4] [] (ZqZ (ZoG n0)) <|
.nil) <|
.nil⟩
theorem ZD5:Zeg X0.E 205 ZIS.sig:=ZIS.ok G0 Tryz.func205 trivial rfl rfl (by kernel_rfl)
noncomputable def ZJK:FD U:=⟨206,Tryz.f206,[],[.p .bool,.p .str,.p .str],[],[.p .str],[],[],Zp3,Zp3,
.lo 9401 [0,1,2] [] ZG9 [] 0 [0,1,2] [] ZG9 [] Zo7 ZsO (fun n0=> .j 9105401 [0,1,2,14] [] qs9 [] (ZqE (Zo7 n0)) <|
.nil) <|
.lo 94011 [0,1,2] [] ZG9 [] 2 [0,1,2] [] ZG9 [] Zo6 ZsN (fun n0=> .j 91054011 [0,1,2,27] [] qs9 [] (ZqD (Zo6 n0)) <|
.nil) <|
.j 91111 [0,1] [] [qe4,qe7] [] ZqC <|
.j 9101111 [1,43] [] qs6 [] ZqB <|
.j 911111 [1] [] [qe7] [] ZqA <|
.nil⟩
theorem ZGG:Zeg X0.E 206 ZJK.sig:=ZJK.ok G0 Tryz.func206 trivial rfl rfl (by kernel_rfl)
noncomputable def ZJJ:FD U:=⟨208,Tryz.f208,[],[.p .str],[],[.p (.int .i64)],[],[],Zox,Zox,
.lr 941011 [0,3,4] [] [qe7,qe0,qe0] [] 0 [3] [] [qe0] [] ZrS Zwu (fun n0=> .j 910401541011 [0,3,4,20] [] [qe7,qe0,qe0,qe4] [] (Zt5 (ZrS n0)) <|
.nil) <|
.nil⟩
theorem ZGF:Zeg X0.E 208 ZJJ.sig:=ZJJ.ok G0 Tryz.func208 trivial rfl rfl (by kernel_rfl)
noncomputable def ZIR:FD U:=⟨210,Tryz.f210,[],[.p (.int .i64)],[],[.p .bool],[],[],ZsQ,ZsQ,
.j 911 [2] [] [qe4] [] Zre <|
.nil⟩
theorem ZD4:Zeg X0.E 210 ZIR.sig:=ZIR.ok G0 Tryz.func210 trivial rfl rfl (by kernel_rfl)
noncomputable def ZJI:FD U:=⟨209,Tryz.f209,[ZIR.sg],[.p (.int .i64),.p (.int .i64)],[],[.p (.int .i64)],[],[],ZrT,ZrT,
.j 91401 [1,5] [] [qe0,qe4] [] ZsP <|
.j 913131401 [15] [] [qe4] [] Zo8 <|
.nil⟩
theorem ZGE:Zeg X0.E 209 ZJI.sig:=ZJI.ok G0 Tryz.func209 ⟨ZD4,trivial⟩ rfl rfl (by kernel_rfl)
noncomputable def ZIQ:FD U:=⟨143,Tryz.f143,[ZJI.sg,ZIR.sg],[.p (.int .i64),.p (.int .i64),.p (.int .i64)],[],[.p (.int .i64),.p .bool],[],[],Ztw,Ztw,
.j 9101 [0,1,2,35] [] [qe0,qe0,qe0,qe4] [] Zoq <|
.lo 9410111 [0,1,2,8,9] [] ZI0 [] 0 [0,1,2,8] [] [qe0,qe0,qe0,qe0] [] ZrU Zww (fun n0=> .j 9115410111 [0,1,2,8,9] [] ZI0 [] (Zt7 (ZrU n0)) <|
.nil) <|
.lo 94101111 [0,1,2,8,10] [] ZI0 [] 2 [2,8] [] [qe0,qe0] [] Zt6 Zwv (fun _=> .nil) <|
.nil⟩
theorem ZD3:Zeg X0.E 143 ZIQ.sig:=ZIQ.ok G0 Tryz.func143 ⟨ZGE,ZD4,trivial⟩ rfl rfl (by kernel_rfl)
noncomputable def ZIP:FD U:=⟨142,Tryz.f142,[ZJJ.sg,ZIQ.sg],[.p .str],[],[.p (.int .i64),.p (.int .i64),.p (.int .i64),.p .bool],[],[],ZsR,ZsR,
.j 9104011 [0,9] [] qs6 [] ZtF <|
.j 914011 [0,9] [] qs6 [] Zrf <|
.j 91314011 [0,35] [] qs6 [] ZtE <|
.j 9111 [2,3,4] [] [qe0,qe0,qe0] [] ZtD <|
.nil⟩
theorem ZD2:Zeg X0.E 142 ZIP.sig:=ZIP.ok G0 Tryz.func142 ⟨ZGF,ZD3,trivial⟩ rfl rfl (by kernel_rfl)
noncomputable def ZJH:FD U:=⟨207,Tryz.f207,[],[.p (.int .i64),.p (.int .i64)],[],[.p .str],[],[],Zp2,Zp2,
.lo 94011 [0,1,5] [] [qe0,qe0,qe7] [] 0 [5] [] [qe7] [] ZsM Zvs (fun _=> .nil) <|
.nil⟩
theorem ZGD:Zeg X0.E 207 ZJH.sig:=ZJH.ok G0 Tryz.func207 trivial rfl rfl (by kernel_rfl)
noncomputable def ZJG:FD U:=⟨141,Tryz.f141,[ZJM.sg,ZJL.sg,ZIS.sg,ZJK.sg,ZIP.sg,ZJH.sg],[.p (.int .i64),.p .str],[],[.p .str,.p .bool],[],[],Zo9,Zo9,
.j 9141213141011 [24,25] [] qs6 [] ZrF <|
.j 913141213141011 [28] [] [qe4] [] ZrE <|
.j 91313141011 [0,6,17,31] [] [qe0,qe7,qe0,qe4] [] ZpE <|
.j 91121313141011 [7,8,9,49] [] qs9 [] ZoE <|
.j 9111 [] [] [] [] ZoD <|
.nil⟩
theorem ZGC:Zeg X0.E 141 ZJG.sig:=ZJG.ok G0 Tryz.func141 ⟨ZGI,ZGH,ZD5,ZGG,ZD2,ZGD,trivial⟩ rfl rfl (by kernel_rfl)
noncomputable def ZJF:FD U:=⟨138,Tryz.f138,[D85.sg],[.p (.sl (.int .u32)),.p (.sl (.int .u32))],[],[.p (.sl (.int .u32))],[],[],Zrr,Zrr,
.lo 941011 [0,1,5,6] [] [qe2,qe2,qe6,qe0] [qo1] 0 [5] [] [qe6] [qo1] Zp7 Zub (fun n0=> .lo 94101401541011 [0,1,5,6,7,8] [] [qe2,qe2,qe6,qe0,ZBe,qe0] [qo1] 2 [0,1,5,6,7] [] [qe2,qe2,qe6,qe0,ZBe] [qo1] ZrY (Zuc (Zp7 n0)) (fun _=> .nil) <|
.nil) <|
.nil⟩
theorem ZGB:Zeg X0.E 138 ZJF.sig:=ZJF.ok G0 Tryz.func138 ⟨ZAZ,trivial⟩ rfl rfl (by kernel_rfl)
noncomputable def ZGA:FD U:=⟨90,Tryz.f90,[ZJF.sg,D86.sg],[.p (.st 2),.p (.st 2)],[],[.p (.st 2)],[],[],ZnG,ZnG,
.nil⟩
theorem ZAF:Zeg X0.E 90 ZGA.sig:=ZGA.ok G0 Tryz.func90 ⟨ZGB,ZBX,trivial⟩ rfl rfl (by kernel_rfl)
noncomputable def ZJE:FD U:=⟨136,Tryz.f136,[],[.p (.sl (.int .u32)),.p (.sl (.int .u32))],[],[.own (.int .u32)],[],[],ZpW,ZpW,
.lo 9410111 [0,1,5,6,7] [] ZI1 [qo1] 0 [5,6] [] [qe6,ZBe] [qo1] Zou Zuk (fun n0=> .j 9105410111 [0,1,5,6,7,17] [] [qe2,qe2,qe6,ZBe,qe0,qe4] [qo1] (ZoX (Zou n0)) <|
.j 914015410111 [0,1,5,6,7] [] ZI1 [qo1] (Zqb (Zou n0)) <|
.j 9114015410111 [0,1,5,6,7] [] ZI1 [qo1] (Zqa (Zou n0)) <|
.nil) <|
.nil⟩
theorem ZGz:Zeg X0.E 136 ZJE.sig:=ZJE.ok G0 Tryz.func136 trivial rfl rfl (by kernel_rfl)
noncomputable def ZGX:FD U:=⟨89,Tryz.f89,[ZJE.sg,D86.sg,D90.sg,D91.sg],[.p (.st 2),.p (.st 2)],[],[.p (.st 2)],[],[],Zn2,Zn2,
.nil⟩
theorem ZBq:Zeg X0.E 89 ZGX.sig:=ZGX.ok G0 Tryz.func89 ⟨ZGz,ZBX,ZCN,ZDT,trivial⟩ rfl rfl (by kernel_rfl)
noncomputable def ZIE:FD U:=⟨91,Tryz.f91,[D86.sg],[.p (.st 2)],[],[.p (.st 2)],[],[],Zok,Zok,
.nil⟩
theorem ZCn:Zeg X0.E 91 ZIE.sig:=ZIE.ok G0 Tryz.func91 ⟨ZBX,trivial⟩ rfl rfl (by kernel_rfl)
noncomputable def ZJD:FD U:=⟨144,Tryz.f144,[ZIS.sg,D87.sg,ZGA.sg,ZGX.sg,ZIE.sg,D96.sg],[.p .str],[],[.p (.st 3),.p .bool],[],[],ZpP,ZpP,
.lo 94101111 [2,4,6,8,9,27,28,29] [100008] [qe5,qe4,qe7,ZBf,ZC8,.o (.full (0,4,1)),qe0,qe0] [ZIK,ZCa,ZCa,ZGV,qo1,qo1] 0 [2,4,6,8,9] [] [qe5,qe4,qe7,ZBf,ZC8] qp8 Zqk ZsB (fun _=> .nil) <|
.lo 941011111 [2,4,8,9,43] [] [qe5,qe4,ZBf,ZC8,.o (.it (0,4,1))] [ZIK,ZCa,ZCa,.sit,qo1,qo1] 2 [2,4,8,9] [] [qe5,qe4,ZBf,ZC8] qp8 ZoR ZsA (fun n0=> .j 91541011111 [2,4,8,9,43,45] [] [qe5,qe4,ZBf,ZC8,.o (.it (0,4,1)),qe4] [ZIK,ZCa,ZCa,.sit,qo1,qo1] (Zqm (ZoR n0)) <|
.nil) <|
.j 91111111 [2,8,9] [] [qe5,ZBf,ZC8] qp8 Zql <|
.nil⟩
theorem ZGy:Zeg X0.E 144 ZJD.sig:=ZJD.ok G0 Tryz.func144 ⟨ZD5,ZDU,ZAF,ZBq,ZCn,ZDS,trivial⟩ rfl rfl (by kernel_rfl)
noncomputable def ZJC:FD U:=⟨93,Tryz.f93,[ZJG.sg,ZIP.sg,ZIQ.sg,ZJD.sg,D98.sg],[.p (.int .i64),.p .str],[],[.p (.st 3),.p .bool],[],[],Zqt,Zqt,
.j 91011 [0,4,6,26] [] [qe0,qe5,qe7,qe4] qp0 ZqP <|
.j 911111 [4,8] [] [qe5,qe0] qp0 ZqO <|
.nil⟩
theorem ZGx:Zeg X0.E 93 ZJC.sig:=ZJC.ok G0 Tryz.func93 ⟨ZGC,ZD2,ZD3,ZGy,ZEX,trivial⟩ rfl rfl (by kernel_rfl)
noncomputable def ZJB:FD U:=⟨49,Tryz.f49,[ZJC.sg],[.p (.st 0)],[],[.p (.st 3),.p .bool],[],[],Zp1,Zp1,
.nil⟩
theorem ZGw:Zeg X0.E 49 ZJB.sig:=ZJB.ok G0 Tryz.func49 ⟨ZGx,trivial⟩ rfl rfl (by kernel_rfl)
noncomputable def ZIO:FD U:=⟨41,Tryz.f41,[ZJB.sg,ZGY.sg,D99.sg],[.p (.st 1)],[],[.p (.st 3)],[],[],ZoB,ZoB,
.lo 941011 [2,3,4,10,11,12] [] qs3 qp0 0 [2,3,4] [] [qe5,qe0,qe0] qp0 Zpq Zs8 (fun n0=> .j 9111541011 [2,3,4,10,11,12] [] qs3 qp0 (Zpr (Zpq n0)) <|
.nil) <|
.nil⟩
theorem ZD1:Zeg X0.E 41 ZIO.sig:=ZIO.ok G0 Tryz.func41 ⟨ZGw,ZBr,ZCM,trivial⟩ rfl rfl (by kernel_rfl)
noncomputable def ZJA:FD U:=⟨76,Tryz.f76,[],[.p (.int .u8)],[],[.p (.int .u8)],[],[],Zp0,Zp0,
.j 91401 [0,3] [] [.o (.v (.int .u8)),qe4] [] ZsK <|
.j 9131401 [0,13] [] [.o (.v (.int .u8)),qe4] [] Zov <|
.nil⟩
theorem ZGv:Zeg X0.E 76 ZJA.sig:=ZJA.ok G0 Tryz.func76 trivial rfl rfl (by kernel_rfl)
noncomputable def ZJz:FD U:=⟨77,Tryz.f77,[],[.p (.sl .str),.p .str],[],[.p (.sl .str)],[],[],Zrn,Zrn,
.lo 94011 [0,1,5] [] [qe9,qe7,qe0] [] 0 [0,1,5] [] [qe9,qe7,qe0] [] ZpZ Zt4 (fun n0=> .j 91054011 [0,1,5,17] [] [qe9,qe7,qe0,qe4] [] (ZrR (ZpZ n0)) <|
.nil) <|
.j 910111 [0,1,5,31] [] [qe9,qe7,qe0,qe4] [] ZrQ <|
.nil⟩
theorem ZGu:Zeg X0.E 77 ZJz.sig:=ZJz.ok G0 Tryz.func77 trivial rfl rfl (by kernel_rfl)
noncomputable def ZJy:FD U:=⟨35,Tryz.f35,[ZJA.sg,ZJz.sg],[.p .str],[],[.p (.sl .str)],[],[],Zph,Zph,
.lo 9410111 [0,3,4,5] [3] [qe7,qe9,qe7,qe0] [] 0 [3] [] [qe9] [] ZnX Zs7 (fun n0=> .j 9114015410111 [0,3,4,5,6] [] [qe7,qe9,qe7,qe0,.o (.v (.int .u8))] [] (Zpp (ZnX n0)) <|
.j 911114015410111 [0,3,5] [3] [qe7,qe9,qe0] [] (ZqL (ZnX n0)) <|
.j 9115410111 [0,3,4,5] [3] [qe7,qe9,qe7,qe0] [] (ZqK (ZnX n0)) <|
.nil) <|
.nil⟩
theorem ZGt:Zeg X0.E 35 ZJy.sig:=ZJy.ok G0 Tryz.func35 ⟨ZGv,ZGu,trivial⟩ rfl rfl (by kernel_rfl)
noncomputable def ZJx:FD U:=⟨37,Tryz.f37,[ZJy.sg,ZIU.sg],[.p .str,.p .str],[],[.p (.st 3)],[],[],Zqs,Zqs,
.nil⟩
theorem ZGs:Zeg X0.E 37 ZJx.sig:=ZJx.ok G0 Tryz.func37 ⟨ZGt,ZD7,trivial⟩ rfl rfl (by kernel_rfl)
noncomputable def ZGW:FD U:=⟨88,Tryz.f88,[D88.sg,D90.sg,D93.sg],[.p (.st 3)],[],[.p .bool],[],[],ZnN,ZnN,
.j 9101 [1,24] [] [qe5,qe4] [ZCb] ZoF <|
.nil⟩
theorem ZBp:Zeg X0.E 88 ZGW.sig:=ZGW.ok G0 Tryz.func88 ⟨ZE0,ZCN,ZEY,trivial⟩ rfl rfl (by kernel_rfl)
noncomputable def ZIC:FD U:=⟨153,Tryz.f153,[D96.sg],[.p (.st 2),.p (.st 2)],[],[.p (.st 3),.p (.int .i64)],[],[],Zos,Zos,
.j 91011 [4,6,21] [] [qe5,ZBf,qe4] [qo18,ZCb,qo1,qo1] ZqF <|
.nil⟩
theorem ZCm:Zeg X0.E 153 ZIC.sig:=ZIC.ok G0 Tryz.func153 ⟨ZDS,trivial⟩ rfl rfl (by kernel_rfl)
noncomputable def ZJw:FD U:=⟨100,Tryz.f100,[ZGW.sg,ZGA.sg,ZIE.sg,ZGX.sg,ZIC.sg],[.p (.st 3),.p (.st 3)],[],[.p (.st 3),.p (.int .i64)],[],[],Zrt,Zrt,
.j 9101 [2,3,4,13] [] qs7 qp2 Zr3 <|
.nil⟩
theorem ZGr:Zeg X0.E 100 ZJw.sig:=ZJw.ok G0 Tryz.func100 ⟨ZBp,ZAF,ZCn,ZBq,ZCm,trivial⟩ rfl rfl (by kernel_rfl)
noncomputable def ZIN:FD U:=⟨52,Tryz.f52,[ZJw.sg],[.p (.st 3),.p (.st 3)],[],[.p (.st 3)],[],[],ZoZ,ZoZ,
.nil⟩
theorem ZD0:Zeg X0.E 52 ZIN.sig:=ZIN.ok G0 Tryz.func52 ⟨ZGr,trivial⟩ rfl rfl (by kernel_rfl)
noncomputable def ZJv:FD U:=⟨46,Tryz.f46,[ZGW.sg,ZGA.sg,ZIE.sg,ZGX.sg],[.p (.st 3),.p (.st 3)],[],[.p (.int .i64)],[],[],Zrv,Zrv,
.j 9101 [2,3,13] [] [qe5,ZBf,qe4] [ZCb,ZCb] Zr5 <|
.nil⟩
theorem ZGq:Zeg X0.E 46 ZJv.sig:=ZJv.ok G0 Tryz.func46 ⟨ZBp,ZAF,ZCn,ZBq,trivial⟩ rfl rfl (by kernel_rfl)
noncomputable def ZJu:FD U:=⟨44,Tryz.f44,[ZJv.sg],[.p (.st 3),.p (.st 3)],[],[.p .bool],[],[],ZqN,ZqN,
.nil⟩
theorem ZGp:Zeg X0.E 44 ZJu.sig:=ZJu.ok G0 Tryz.func44 ⟨ZGq,trivial⟩ rfl rfl (by kernel_rfl)
noncomputable def ZJt:FD U:=⟨65,Tryz.f65,[ZGY.sg,ZJu.sg,ZIN.sg],[.p (.st 3)],[],[.p (.st 3)],[],[],Zrp,Zrp,
.nil⟩
theorem ZGo:Zeg X0.E 65 ZJt.sig:=ZJt.ok G0 Tryz.func65 ⟨ZBr,ZGp,ZD0,trivial⟩ rfl rfl (by kernel_rfl)
noncomputable def ZJs:FD U:=⟨130,Tryz.f130,[ZGW.sg,ZGA.sg,ZGX.sg,ZIC.sg],[.p (.st 3),.p (.st 3)],[],[.p (.st 3),.p (.int .i64)],[],[],Zrw,Zrw,
.j 9101 [2,3,4,13] [] qs7 qp2 Zr6 <|
.nil⟩
theorem ZGn:Zeg X0.E 130 ZJs.sig:=ZJs.ok G0 Tryz.func130 ⟨ZBp,ZAF,ZBq,ZCm,trivial⟩ rfl rfl (by kernel_rfl)
noncomputable def ZJr:FD U:=⟨86,Tryz.f86,[ZJs.sg],[.p (.st 3),.p (.st 3)],[],[.p (.st 3)],[],[],Zo0,Zo0,
.nil⟩
theorem ZGm:Zeg X0.E 86 ZJr.sig:=ZJr.ok G0 Tryz.func86 ⟨ZGn,trivial⟩ rfl rfl (by kernel_rfl)
noncomputable def ZJq:FD U:=⟨131,Tryz.f131,[ZGW.sg,ZGA.sg,ZIC.sg],[.p (.st 3),.p (.st 3)],[],[.p (.st 3),.p (.int .i64)],[],[],Zru,Zru,
.j 9101 [2,3,4,13] [] qs7 qp2 Zr4 <|
.nil⟩
theorem ZGl:Zeg X0.E 131 ZJq.sig:=ZJq.ok G0 Tryz.func131 ⟨ZBp,ZAF,ZCm,trivial⟩ rfl rfl (by kernel_rfl)
noncomputable def ZJp:FD U:=⟨87,Tryz.f87,[ZJq.sg],[.p (.st 3),.p (.st 3)],[],[.p (.st 3)],[],[],Zro,Zro,
.nil⟩
theorem ZGk:Zeg X0.E 87 ZJp.sig:=ZJp.ok G0 Tryz.func87 ⟨ZGl,trivial⟩ rfl rfl (by kernel_rfl)
noncomputable def ZJo:FD U:=⟨43,Tryz.f43,[ZIT.sg,ZJx.sg,ZGY.sg,ZIH.sg,ZIO.sg,ZIN.sg,ZJt.sg,ZJr.sg,ZII.sg,ZJp.sg],[.p (.st 1),.p (.st 1)],[],[.p (.st 3)],[],[],Zsc,Zsc,
.j 91011 [2,3,4,5,6,24] [] qs5 [ZGT,ZGT,qo19,ZCb,ZCb,qo1,qo1] Zpi <|
.nil⟩
theorem ZGj:Zeg X0.E 43 ZJo.sig:=ZJo.ok G0 Tryz.func43 ⟨ZD6,ZGs,ZBr,ZCp,ZD1,ZD0,ZGo,ZGm,ZCq,ZGk,trivial⟩ rfl rfl (by kernel_rfl)
noncomputable def D153:FD U:=⟨6,Tryz.f6,[D0.sg,ZJU.sg,ZJT.sg,ZJP.sg,ZGO.sg,D40.sg,ZIT.sg,ZIH.sg,D72.sg,ZIO.sg,D84.sg,ZJo.sg],[.p (.st 1),.p (.st 1),.p (.sl (.int .i64))],[],[.p .bool],[],[],ZoJ,ZoJ,
.j 9101 [2,3,4,38] [] [.o (.v (.sl (.int .i64))),qe5,ZBf,qe4] [ZGT,ZGT] ZnK <|
.lr 94101111 [60,61,62] [] [qe6,qe0,qe0] [.arr (.st 6) false] 0 [] [] [] [] ZnU Zpz (fun n0=> .j 911401154101111 [60,61,62,101] [] [qe6,qe0,qe0,qe4] [.arr (.st 6) false] (Zn5 (ZnU n0)) <|
.nil) <|
.nil⟩
theorem D153_ok:Zeg X0.E 6 D153.sig:=D153.ok G0 Tryz.func6 ⟨ZJW,ZGR,ZGQ,ZGL,ZAG,ZFb,ZD6,ZCp,ZDW,ZD1,ZE1,ZGj,trivial⟩ rfl rfl (by kernel_rfl)
end
end Go.Proofs

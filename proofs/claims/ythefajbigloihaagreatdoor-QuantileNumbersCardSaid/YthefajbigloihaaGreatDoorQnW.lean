/- Printed by wip/tools/tgen.py: walks. -/
import Derived.Test.YthefajbigloihaaGreatDoorQnU
import Derived.Test.YthefajbigloihaaGreatDoorQnX
set_option linter.unusedVariables false
set_option linter.unusedSimpArgs false
set_option linter.unusedSectionVars false
namespace Go.Proofs
open Go Eng
set_option maxRecDepth 100000
noncomputable section
abbrev qe0:Sh:= .o (.v (.int .i64))
abbrev qo1:ShO:= .arr (.int .u32) false
abbrev qe2:Sh:= .o (.v (.sl (.int .u32)))
abbrev qo3:ShO:= .box [.o (.v .bool),.o (.full (0,2,1)),.o (.v .bool),.o (.full (0,3,1))]
abbrev qe4:Sh:= .o (.v .bool)
abbrev qe5:Sh:= .o (.ptr (0,1,1) 0 0)
abbrev qe6:Sh:= .o (.v (.int .u64))
abbrev qe7:Sh:= .o (.v (.sl (.st 3)))
abbrev qo8:ShO:= .arr (.st 3) false
abbrev qo9:ShO:= .box [.o (.v .bool),.o (.full (0,4,1)),.o (.v .bool),.o (.full (0,5,1))]
abbrev ZAo:Sh:= .o (.full (0,1,1))
abbrev ZCJ:Sh:= .o (.full (0,0,0))
abbrev ZAH:Sh:= .o (.v .str)
abbrev ZB2:Sh:= .o (.ptr (0,2,1) 0 0)
abbrev qo14:ShO:= .box [.o (.v .bool),.o (.full (0,3,1)),.o (.v .bool),.o (.full (0,4,1))]
abbrev ZDE:Sh:= .fn 62 [] []
abbrev ZDD:ShO:= .boxS (.st 3)
abbrev ZET:Sh:= .o (.ptr (0,3,1) 0 0)
abbrev ZDe:Sh:= .o (.v (.int .u32))
abbrev ZDO:ShO:= .boxS (.st 2)
abbrev ZKV:ShO:= .box [.o (.v .bool),.o (.full (0,5,1)),.o (.v .bool),.o (.full (0,6,1))]
abbrev ZFA:Sh:= .o (.sl (0,0,0))
abbrev ZKy:Sh:= .o (.v (.sl (.st 0)))
abbrev ZIp:ShO:= .arr (.int .u8) false
abbrev ZKU:ShO:= .box [.o (.v .str),.o (.full (0,4,1))]
abbrev ZIo:ShO:= .arr (.st 0) false
abbrev qo26:ShO:= .box [.o (.v .bool),.o (.full (0,2,1))]
abbrev qo27:ShO:= .box [.o (.v .str),.o (.full (0,3,1))]
abbrev ZKx:Sh:= .o (.full (0,2,1))
abbrev qs0:List Sh:=[ZCJ,qe0,ZDE,qe0,qe0]
abbrev qp1:List ShO:=[qo3,qo1,qo1]
abbrev qs2:List Sh:=[ZCJ,qe0,qe0,ZDE,qe0,qe0]
abbrev qs3:List Sh:=[ZCJ,qe0,ZDE,qe0,qe0,qe4]
abbrev qp4:List ShO:=[qo9,ZDD,ZDD,qo1,qo1]
abbrev qs5:List Sh:=[qe2,qe2,qe0]
abbrev qs6:List Sh:=[ZCJ,qe0,qe0,ZDE,qe0,qe0,qe4]
abbrev qs7:List Sh:=[qe7,qe7,qe5,ZB2,qe0,qe0,ZET]
abbrev qs8:List Sh:=[qe7,qe7,qe5,qe0,qe7,qe0,qe0]
abbrev qp9:List ShO:=[qo14,ZDD,qo1,qo1]
abbrev ZKS:List Sh:=[qe7,qe7,qe5,ZB2,qe0,qe0,ZET,qe4]
abbrev qs11:List Sh:=[ZCJ,qe0,qe0,qe0,ZDE,qe4,qe4,qe0,qe0,qe4]
abbrev qs12:List Sh:=[qe6,qe6,qe6,qe6,qe6,qe6,qe6,qe6,qe6,qe4]
abbrev ZFM:List Sh:=[ZAH,qe4]
abbrev qs14:List Sh:=[qe6,qe6,qe6,qe6,qe6,qe6,qe6,qe6,qe6]
abbrev ZKw:List Sh:=[ZAo,ZKy,qe0,qe0]
abbrev ZKv:List Sh:=[qe4,ZAH,ZAH,qe4]
abbrev ZIH:List Sh:=[qe4,ZAH,ZAH]
abbrev ZKR:List Sh:=[ZCJ,qe0,qe0,ZDE,qe0]
abbrev ZKT:List ShO:=[qo9,ZDO,ZDO,qo1,qo1]
abbrev ZKu:List Sh:=[qe7,qe7,qe5,qe4]
abbrev ZKQ:List Sh:=[qe2,qe2,ZAo,qe6,qe0]
abbrev ZKP:List Sh:=[qe0,qe0,qe0,qe0,qe0]
noncomputable def D0:FD U:=⟨11,Tryz.f11,[],[.p (.sl (.int .i64))],[],[.p .bool],[],[],Zvn,Zvn,
.nil⟩
theorem ZLH:Zeg X0.E 11 D0.sig:=D0.ok G0 Tryz.func11 trivial rfl rfl (by kernel_rfl)
noncomputable def D1:FD U:=⟨201,Tryz.f201,[],[.p (.sl (.int .u32))],[],[.p (.sl (.int .u32))],[],[],Zoo,Zoo,
.lo 9401 [0] [] [qe2] [] 0 [0] [] [qe2] [] Zpw Zyo (fun n0=> .j 9105401 [0,14] [] [qe2,qe4] [] (ZvA (Zpw n0)) <|
.nil) <|
.nil⟩
theorem ZEH:Zeg X0.E 201 D1.sig:=D1.ok G0 Tryz.func201 trivial rfl rfl (by kernel_rfl)
noncomputable def D2:FD U:=⟨135,Tryz.f135,[D1.sg],[.p .bool,.p (.sl (.int .u32))],[],[.p (.st 2)],[],[],Zn4,Zn4,
.j 9111 [4] [] [qe5] [ZDO] Zt2 <|
.nil⟩
theorem ZFr:Zeg X0.E 135 D2.sig:=D2.ok G0 Tryz.func135 ⟨ZEH,trivial⟩ rfl rfl (by kernel_rfl)
noncomputable def D3:FD U:=⟨140,Tryz.f140,[D2.sg],[.p (.int .i64)],[],[.p (.st 2)],[],[],ZnZ,ZnZ,
.j 9111 [0,2,3] [] [qe0,qe5,qe6] [qo26,qo1] Zr8 <|
.nil⟩
theorem ZHQ:Zeg X0.E 140 D3.sig:=D3.ok G0 Tryz.func140 ⟨ZFr,trivial⟩ rfl rfl (by kernel_rfl)
noncomputable def D4:FD U:=⟨132,Tryz.f132,[],[.p (.st 2)],[],[.p .bool],[],[],Zpd,Zpd,
.j 9111 [2] [] [qe4] [] ZoC <|
.nil⟩
theorem ZJ0:Zeg X0.E 132 D4.sig:=D4.ok G0 Tryz.func132 trivial rfl rfl (by kernel_rfl)
noncomputable def D5:FD U:=⟨199,Tryz.f199,[D1.sg],[.p (.sl (.int .u32))],[],[.p (.sl (.int .u32))],[],[],ZpB,ZpB,
.lo 941011 [0,3,9,10] [] [qe2,ZAo,qe0,qe0] [qo1] 0 [3] [] [ZAo] [qo1] Zro ZvB (fun n0=> .j 9111541011 [0,3,9,10] [] [qe2,ZAo,qe0,qe0] [qo1] (Zrp (Zro n0)) <|
.nil) <|
.nil⟩
theorem ZLb:Zeg X0.E 199 D5.sig:=D5.ok G0 Tryz.func199 ⟨ZEH,trivial⟩ rfl rfl (by kernel_rfl)
noncomputable def D6:FD U:=⟨133,Tryz.f133,[],[.p (.sl (.int .u32)),.p (.sl (.int .u32))],[],[.p (.int .i64)],[],[],ZoO,ZoO,
.lr 941011 [0,1,5] [] qs5 [] 0 [] [] [] [] Zt1 Zwc (fun _=> .nil) <|
.nil⟩
theorem ZGf:Zeg X0.E 133 D6.sig:=D6.ok G0 Tryz.func133 trivial rfl rfl (by kernel_rfl)
noncomputable def D7:FD U:=⟨137,Tryz.f137,[D1.sg],[.p (.sl (.int .u32)),.p (.sl (.int .u32))],[],[.p (.sl (.int .u32))],[],[],ZpX,ZpX,
.lo 9410111 [0,1,5,6,7] [] [qe2,qe2,ZAo,qe0,qe0] [qo1] 0 [5] [] [ZAo] [qo1] ZrQ Zv3 (fun n0=> .j 9114015410111 [0,1,5,6,7] [] [qe2,qe2,ZAo,qe0,qe0] [qo1] (ZrR (ZrQ n0)) <|
.nil) <|
.nil⟩
theorem ZHP:Zeg X0.E 137 D7.sig:=D7.ok G0 Tryz.func137 ⟨ZEH,trivial⟩ rfl rfl (by kernel_rfl)
noncomputable def D8:FD U:=⟨200,Tryz.f200,[D1.sg],[.p (.sl (.int .u32)),.p (.int .u32)],[],[.p (.sl (.int .u32))],[],[],Zq0,Zq0,
.lo 941011 [0,1,5,6] [] [qe2,ZDe,ZAo,qe0] [qo1] 0 [1,5] [] [ZDe,ZAo] [qo1] ZsE Zu1 (fun _=> .nil) <|
.nil⟩
theorem ZJD:Zeg X0.E 200 D8.sig:=D8.ok G0 Tryz.func200 ⟨ZEH,trivial⟩ rfl rfl (by kernel_rfl)
noncomputable def D9:FD U:=⟨134,Tryz.f134,[D5.sg,D6.sg,D7.sg,D8.sg],[.p (.sl (.int .u32)),.p (.sl (.int .u32))],[],[.p (.sl (.int .u32))],[],[],ZrI,ZrI,
.lo 94011 [0,1,5] [] qs5 [] 0 [0,1,5] [] qs5 [] Zqy Zwa (fun n0=> .j 91054011 [0,1,5,17] [] [qe2,qe2,qe0,qe4] [] (Zt0 (Zqy n0)) <|
.nil) <|
.lo 940111 [0,1,5] [] qs5 [] 2 [0,5] [] [qe2,qe0] [] Zn9 Zv7 (fun n0=> .lo 94041540111 [0,1,5] [] qs5 [] 4 [0,1,5] [] qs5 [] Zo2 (Zv9 (Zn9 n0)) (fun _=> .nil) <|
.lo 940141540111 [0,1,5] [] qs5 [] 6 [0,1,5] [] qs5 [] Zo1 (Zv8 (Zn9 n0)) (fun _=> .nil) <|
.j 911141540111 [0,1,5] [] qs5 [] (ZtZ (Zn9 n0)) <|
.nil) <|
.lo 9401111 [0,5] [] [qe2,qe0] [] 8 [0] [] [qe2] [] Zqx Zv6 (fun _=> .nil) <|
.nil⟩
theorem ZJt:Zeg X0.E 134 D9.sig:=D9.ok G0 Tryz.func134 ⟨ZLb,ZGf,ZHP,ZJD,trivial⟩ rfl rfl (by kernel_rfl)
noncomputable def D10:FD U:=⟨315,Tryz.f315,[],[.p (.sl (.int .u32)),.p (.int .i64)],[],[.p (.int .u32)],[],[],Ztz,Ztz,
.nil⟩
theorem ZKr:Zeg X0.E 315 D10.sig:=D10.ok G0 Tryz.func315 trivial rfl rfl (by kernel_rfl)
noncomputable def D11:FD U:=⟨262,Tryz.f262,[D10.sg,D8.sg,D6.sg,D7.sg,D1.sg],[.p (.sl (.int .u32)),.p (.sl (.int .u32))],[],[.p (.sl (.int .u32)),.p (.sl (.int .u32))],[],[],ZrJ,ZrJ,
.lo 941011 [0,1,4,5,6] [5] [qe2,qe2,ZAo,qe2,qe0] [qo1] 0 [4,5] [] [ZAo,qe2] [qo1] ZrU Zwb (fun n0=> .j 911541011 [0,1,4,5,6] [] [qe2,qe2,ZAo,qe2,qe0] [qo1] (ZrV (ZrU n0)) <|
.nil) <|
.nil⟩
theorem ZKq:Zeg X0.E 262 D11.sig:=D11.ok G0 Tryz.func262 ⟨ZKr,ZJD,ZGf,ZHP,ZEH,trivial⟩ rfl rfl (by kernel_rfl)
noncomputable def D12:FD U:=⟨202,Tryz.f202,[D3.sg,D9.sg,D11.sg,D2.sg],[.p (.st 2),.p (.st 2)],[],[.p (.st 3)],[],[],ZpK,ZpK,
.nil⟩
theorem ZFu:Zeg X0.E 202 D12.sig:=D12.ok G0 Tryz.func202 ⟨ZHQ,ZJt,ZKq,ZFr,trivial⟩ rfl rfl (by kernel_rfl)
noncomputable def D13:FD U:=⟨139,Tryz.f139,[D4.sg,D12.sg],[.p (.st 2),.p (.st 2)],[],[.p (.st 3),.p (.int .i64)],[],[],ZsN,ZsN,
.j 9101 [2,3,4,13] [] [qe5,ZB2,ZET,qe4] [ZDO,ZDO,qo9,qo1,qo1] Zts <|
.nil⟩
theorem ZKl:Zeg X0.E 139 D13.sig:=D13.ok G0 Tryz.func139 ⟨ZJ0,ZFu,trivial⟩ rfl rfl (by kernel_rfl)
noncomputable def D14:FD U:=⟨92,Tryz.f92,[D3.sg,D13.sg],[.p (.int .i64),.p (.int .i64)],[],[.p (.st 3),.p (.int .i64)],[],[],Zsk,Zsk,
.nil⟩
theorem ZGX:Zeg X0.E 92 D14.sig:=D14.ok G0 Tryz.func92 ⟨ZHQ,ZKl,trivial⟩ rfl rfl (by kernel_rfl)
noncomputable def D15:FD U:=⟨48,Tryz.f48,[D14.sg],[.p (.int .i64),.p (.int .i64)],[],[.p (.st 3)],[],[],ZoB,ZoB,
.nil⟩
theorem ZEn:Zeg X0.E 48 D15.sig:=D15.ok G0 Tryz.func48 ⟨ZGX,trivial⟩ rfl rfl (by kernel_rfl)
noncomputable def D16:FD U:=⟨47,Tryz.f47,[D15.sg],[.p (.int .i64)],[],[.p (.st 3)],[],[],ZnY,ZnY,
.nil⟩
theorem ZGW:Zeg X0.E 47 D16.sig:=D16.ok G0 Tryz.func47 ⟨ZEn,trivial⟩ rfl rfl (by kernel_rfl)
noncomputable def D17:FD U:=⟨106,Tryz.f106,[],[.p (.int .u64),.p (.int .u64)],[],[.p (.int .u64),.p (.int .u64)],[],[],ZwL,ZwL,
.nil⟩
theorem ZKk:Zeg X0.E 106 D17.sig:=D17.ok G0 Tryz.func106 trivial rfl rfl (by kernel_rfl)
noncomputable def D19:FD U:=⟨174,Tryz.f174,[],[.p (.int .u64)],[],[.p (.int .i64)],[],[],Zyh,Zyh,
.j 911 [0,2] [] [qe6,qe0] [] Zyw <|
.j 9111 [0,2] [] [qe6,qe0] [] Zyv <|
.j 91111 [0,2] [] [qe6,qe0] [] Zyu <|
.nil⟩
theorem ZGV:Zeg X0.E 174 D19.sig:=D19.ok G0 Tryz.func174 trivial rfl rfl (by kernel_rfl)
noncomputable def D20:FD U:=⟨162,Tryz.f162,[D19.sg],[.p (.int .u64)],[],[.p (.int .i64)],[],[],ZvG,ZvG,
.nil⟩
theorem ZKj:Zeg X0.E 162 D20.sig:=D20.ok G0 Tryz.func162 ⟨ZGV,trivial⟩ rfl rfl (by kernel_rfl)
noncomputable def D21:FD U:=⟨108,Tryz.f108,[D20.sg],[.p (.int .u64),.p (.int .u64),.p (.int .u64)],[],[.p (.int .u64),.p (.int .u64)],[],[],ZwN,ZwN,
.lo 94011111111111111 [2,8,9,10,11,13,14,15,16] [] qs14 [] 0 [2,8,9,10,11,13,14,15] [] [qe6,qe6,qe6,qe6,qe6,qe6,qe6,qe6] [] Zwv ZzL (fun n0=> .j 91054011111111111111 [2,8,9,10,11,13,14,15,16,78] [] qs12 [] (Zyy (Zwv n0)) <|
.nil) <|
.lo 940111111111111111111 [2,8,9,10,14,15,16,17,18] [] qs14 [] 2 [2,8,14,15,17,18] [] [qe6,qe6,qe6,qe6,qe6,qe6] [] Zwu ZzK (fun n0=> .j 910540111111111111111111 [2,8,9,10,14,15,16,17,18,113] [] qs12 [] (Zyx (Zwu n0)) <|
.nil) <|
.nil⟩
theorem ZKi:Zeg X0.E 108 D21.sig:=D21.ok G0 Tryz.func108 ⟨ZKj,trivial⟩ rfl rfl (by kernel_rfl)
noncomputable def D22:FD U:=⟨109,Tryz.f109,[],[.p (.st 3)],[],[.p (.st 3)],[],[],ZBF,ZBF,
.nil⟩
theorem ZKh:Zeg X0.E 109 D22.sig:=D22.ok G0 Tryz.func109 trivial rfl rfl (by kernel_rfl)
noncomputable def D23:FD U:=⟨59,Tryz.f59,[D17.sg,(107,ZAm.sig),D21.sg,D22.sg],[.p (.sl (.st 3)),.p (.int .i64),.p (.int .i64)],[],[.p (.st 3),.p (.int .i64)],[],[],Zvc,Zvc,
.j 91401 [0,1,2,6,13] [] [qe7,qe0,qe0,qe5,qe4] qp1 ZvQ <|
.nil⟩
theorem ZKg:Zeg X0.E 59 D23.sig:=D23.ok G0 Tryz.func59 ⟨ZKk,ZA4,ZKi,ZKh,trivial⟩ rfl rfl (by kernel_rfl)
noncomputable def D24:FD U:=⟨218,Tryz.f218,[],[.p (.st 2)],[],[.p .bool],[],[],ZtU,ZtU,
.j 9111 [2] [] [qe4] [] ZpY <|
.nil⟩
theorem ZKf:Zeg X0.E 218 D24.sig:=D24.ok G0 Tryz.func218 trivial rfl rfl (by kernel_rfl)
noncomputable def D25:FD U:=⟨154,Tryz.f154,[D24.sg],[.p (.sl (.st 2))],[],[.p .bool],[],[],ZwS,ZwS,
.lr 94101 [5,6,7] [] [.o (.v (.sl (.st 2))),qe0,qe0] [] 0 [] [] [] [] ZxJ ZAq (fun _=> .nil) <|
.nil⟩
theorem ZGU:Zeg X0.E 154 D25.sig:=D25.ok G0 Tryz.func154 ⟨ZKf,trivial⟩ rfl rfl (by kernel_rfl)
noncomputable def D26:FD U:=⟨287,Tryz.f287,[],[.p (.int .i64)],[],[.p .bool],[],[],Zya,Zya,
.nil⟩
theorem ZKe:Zeg X0.E 287 D26.sig:=D26.ok G0 Tryz.func287 trivial rfl rfl (by kernel_rfl)
noncomputable def D27:FD U:=⟨220,Tryz.f220,[D26.sg],[.p (.int .i64),.p (.int .i64)],[],[.p (.int .i64)],[],[],ZwT,ZwT,
.nil⟩
theorem ZKd:Zeg X0.E 220 D27.sig:=D27.ok G0 Tryz.func220 ⟨ZKe,trivial⟩ rfl rfl (by kernel_rfl)
noncomputable def D28:FD U:=⟨288,Tryz.f288,[],[.p (.int .u32)],[],[.p .bool],[],[],ZxK,ZxK,
.nil⟩
theorem ZKc:Zeg X0.E 288 D28.sig:=D28.ok G0 Tryz.func288 trivial rfl rfl (by kernel_rfl)
noncomputable def D29:FD U:=⟨221,Tryz.f221,[D28.sg],[.p (.int .u32),.p (.int .u32)],[],[.p (.int .i64)],[],[],Zwz,Zwz,
.nil⟩
theorem ZKb:Zeg X0.E 221 D29.sig:=D29.ok G0 Tryz.func221 ⟨ZKc,trivial⟩ rfl rfl (by kernel_rfl)
noncomputable def D30:FD U:=⟨156,Tryz.f156,[D27.sg,D29.sg],[.p (.sl (.int .u32)),.p (.sl (.int .u32))],[],[.p (.int .i64)],[],[],Zpq,Zpq,
.lr 941011 [0,1,6] [] qs5 [] 0 [] [] [] [] Zs5 Zvi (fun _=> .nil) <|
.nil⟩
theorem ZFq:Zeg X0.E 156 D30.sig:=D30.ok G0 Tryz.func156 ⟨ZKd,ZKb,trivial⟩ rfl rfl (by kernel_rfl)
noncomputable def D31:FD U:=⟨282,Tryz.f282,[],[.p (.sl (.int .u32))],[],[.own (.int .u32)],[],[],Zo3,Zo3,
.j 9101 [0,4] [] [qe2,qe4] [] ZnL <|
.nil⟩
theorem ZGT:Zeg X0.E 282 D31.sig:=D31.ok G0 Tryz.func282 trivial rfl rfl (by kernel_rfl)
noncomputable def D32:FD U:=⟨325,Tryz.f325,[],[.p (.int .u32),.p (.int .u32),.p (.int .u32)],[],[.p (.int .u32),.p (.int .u32)],[],[],ZwO,ZwO,
.j 9101 [0,1,2,15] [] [ZDe,ZDe,ZDe,qe4] [] ZuE <|
.nil⟩
theorem ZKa:Zeg X0.E 325 D32.sig:=D32.ok G0 Tryz.func325 trivial rfl rfl (by kernel_rfl)
noncomputable def D33:FD U:=⟨252,Tryz.f252,[],[.p (.sl (.int .u32))],[],[.p (.sl (.int .u32))],[],[],Zoz,Zoz,
.lo 9401 [0] [] [qe2] [] 0 [0] [] [qe2] [] Zqf Zx3 (fun n0=> .j 9105401 [0,14] [] [qe2,qe4] [] (ZvS (Zqf n0)) <|
.nil) <|
.nil⟩
theorem ZCT:Zeg X0.E 252 D33.sig:=D33.ok G0 Tryz.func252 trivial rfl rfl (by kernel_rfl)
noncomputable def D34:FD U:=⟨283,Tryz.f283,[D32.sg,D33.sg],[.p (.sl (.int .u32)),.p (.int .u32)],[],[.p (.sl (.int .u32)),.p (.int .u32)],[],[],ZtH,ZtH,
.lo 9410111 [0,1,6,7,8] [] [qe2,ZDe,ZAo,ZDe,qe0] [qo1] 0 [6,7] [] [ZAo,ZDe] [qo1] Zt6 Zwh (fun _=> .nil) <|
.nil⟩
theorem ZJ9:Zeg X0.E 283 D34.sig:=D34.ok G0 Tryz.func283 ⟨ZKa,ZCT,trivial⟩ rfl rfl (by kernel_rfl)
noncomputable def D35:FD U:=⟨173,Tryz.f173,[],[.p (.int .u32)],[],[.p (.int .i64)],[],[],ZwM,ZwM,
.j 911 [0,2] [] [ZDe,qe0] [] Zwt <|
.j 9111 [0,2] [] [ZDe,qe0] [] Ztb <|
.nil⟩
theorem ZJ8:Zeg X0.E 173 D35.sig:=D35.ok G0 Tryz.func173 trivial rfl rfl (by kernel_rfl)
noncomputable def D36:FD U:=⟨284,Tryz.f284,[D35.sg],[.p (.int .u32)],[],[.p (.int .i64)],[],[],Zrs,Zrs,
.nil⟩
theorem ZJ7:Zeg X0.E 284 D36.sig:=D36.ok G0 Tryz.func284 ⟨ZJ8,trivial⟩ rfl rfl (by kernel_rfl)
noncomputable def D37:FD U:=⟨285,Tryz.f285,[],[.p (.sl (.int .u32)),.p (.int .i64)],[],[.own (.int .u32)],[],[],Zqa,Zqa,
.lo 941011 [1,5,13,14,15] [] [qe0,ZAo,qe2,qe0,qe0] [qo1] 0 [5] [] [ZAo] [qo1] Zs3 Zvg (fun _=> .nil) <|
.nil⟩
theorem ZJ6:Zeg X0.E 285 D37.sig:=D37.ok G0 Tryz.func285 trivial rfl rfl (by kernel_rfl)
noncomputable def D38:FD U:=⟨253,Tryz.f253,[],[.p (.int .u32),.p (.int .u32),.p (.int .u32)],[],[.p (.int .u32),.p (.int .u32)],[],[],ZtR,ZtR,
.nil⟩
theorem ZGS:Zeg X0.E 253 D38.sig:=D38.ok G0 Tryz.func253 trivial rfl rfl (by kernel_rfl)
noncomputable def D39:FD U:=⟨250,Tryz.f250,[],[.p (.int .u32),.p (.int .u32),.p (.int .u32)],[],[.p (.int .u32),.p (.int .u32)],[],[],ZuY,ZuY,
.nil⟩
theorem ZGR:Zeg X0.E 250 D39.sig:=D39.ok G0 Tryz.func250 trivial rfl rfl (by kernel_rfl)
noncomputable def D40:FD U:=⟨286,Tryz.f286,[D38.sg,D39.sg],[.part (.int .u32),.p (.sl (.int .u32))],[(0,.arr (.int .u32))],[.p (.int .u32)],[],[],ZyL,ZxI,
.lo 94011111 [0,1,5,7,8] [] [ZFA,qe2,qe0,qe6,qe6] [qo1] 0 [0,1,5,7] [] [ZFA,qe2,qe0,qe6] [qo1] ZtS Zxd (fun n0=> .j 91054011111 [0,1,5,7,8,71] [] [ZFA,qe2,qe0,qe6,qe6,qe4] [qo1] (Zvl (ZtS n0)) <|
.nil) <|
.lo 941011111111 [0,1,5,7,9,10,82,83,84] [] [ZFA,qe2,qe0,qe6,ZDe,qe6,qe2,qe0,qe0] [qo1] 2 [0,1,5,7,9,10] [] [ZFA,qe2,qe0,qe6,ZDe,qe6] [qo1] Zxb ZyN (fun _=> .nil) <|
.lo 941011111111111 [0,5,7,13,130,131,132] [] [ZFA,qe0,qe6,ZDe,qe2,qe0,qe0] [qo1] 4 [0,5,7,13] [] [ZFA,qe0,qe6,ZDe] [qo1] Zvk Zxc (fun _=> .nil) <|
.nil⟩
theorem ZJ5:Zeg X0.E 286 D40.sig:=D40.okA G0 Tryz.func286 ⟨ZGS,ZGR,trivial⟩ (by kernel_rfl) (by kernel_rfl)
noncomputable def D41:FD U:=⟨252,Tryz.f252,[],[.part (.int .u32)],[(0,.arr (.int .u32))],[.view 0],[],[],Zww,Zvq,
.lo 9401 [0] [] [ZFA] [qo1] 0 [0] [] [ZFA] [qo1] Zs6 Zxa (fun n0=> .j 9105401 [0,14] [] [ZFA,qe4] [qo1] (ZuU (Zs6 n0)) <|
.nil) <|
.nil⟩
theorem ZJ4:Zeg X0.E 252 D41.sig:=D41.okA G0 Tryz.func252 trivial (by kernel_rfl) (by kernel_rfl)
noncomputable def D42:FD U:=⟨251,Tryz.f251,[],[.p (.sl (.int .u32)),.p (.int .i64)],[],[.p (.int .u32)],[],[],Zsi,Zsi,
.nil⟩
theorem ZGQ:Zeg X0.E 251 D42.sig:=D42.ok G0 Tryz.func251 trivial rfl rfl (by kernel_rfl)
noncomputable def D43:FD U:=⟨251,Tryz.f251,[],[.part (.int .u32),.p (.int .i64)],[(0,.arr (.int .u32))],[.p (.int .u32)],[],[],Zx2,ZuS,
.nil⟩
theorem ZJ3:Zeg X0.E 251 D43.sig:=D43.okA G0 Tryz.func251 trivial (by kernel_rfl) (by kernel_rfl)
noncomputable def D44:FD U:=⟨219,Tryz.f219,[D30.sg,D31.sg,D34.sg,D33.sg,D36.sg,D37.sg,D40.sg,D41.sg,D43.sg],[.p (.sl (.int .u32)),.p (.sl (.int .u32))],[],[.p (.sl (.int .u32)),.p (.sl (.int .u32))],[],[(84,7)],Zre,Zre,
.lo 9410111111 [8,9,10,11,12,13] [11] [qe0,qe0,ZAo,qe2,ZKx,qe0] [qo1,qo1] 1 [8,9,10,12] [] [qe0,qe0,ZAo,ZKx] [qo1,qo1] Zsn ZwR (fun _=> .nil) <|
.lo 941011111111 [9,12,14,86,87] [] [qe0,ZAo,.o (.sl (0,2,1)),qe0,qe0] [qo1,qo1] 3 [12,14] [] [ZAo,.o (.sl (0,2,1))] [qo1,qo1] Zsm ZwQ (fun _=> .nil) <|
.nil⟩
theorem ZGP:Zeg X0.E 219 D44.sig:=D44.ok G0 Tryz.func219 ⟨ZFq,ZGT,ZJ9,ZCT,ZJ7,ZJ6,ZJ5,ZJ4,ZJ3,trivial⟩ rfl rfl (by kernel_rfl)
noncomputable def D45:FD U:=⟨155,Tryz.f155,[D44.sg],[.p (.sl (.int .u32)),.p (.sl (.int .u32))],[],[.p (.sl (.int .u32))],[],[],Zrk,Zrk,
.lo 9401 [0,1] [] [qe2,qe2] [] 0 [0] [] [qe2] [] Zpy ZvK (fun _=> .nil) <|
.nil⟩
theorem ZGO:Zeg X0.E 155 D45.sig:=D45.ok G0 Tryz.func155 ⟨ZGP,trivial⟩ rfl rfl (by kernel_rfl)
noncomputable def D46:FD U:=⟨101,Tryz.f101,[D25.sg,D45.sg,D30.sg],[.p (.st 3)],[],[.p .bool],[],[],ZvL,ZvL,
.j 911 [2] [] [qe4] [] ZtT <|
.nil⟩
theorem ZJ2:Zeg X0.E 101 D46.sig:=D46.ok G0 Tryz.func101 ⟨ZGU,ZGO,ZFq,trivial⟩ rfl rfl (by kernel_rfl)
noncomputable def D47:FD U:=⟨178,Tryz.f178,[D33.sg],[.p (.sl (.int .u32)),.p (.sl (.int .u32))],[],[.p (.sl (.int .u32))],[],[],ZqO,ZqO,
.lo 941011 [1,5,17,18,19] [] [qe2,ZAo,qe2,qe0,qe0] [qo1] 0 [5] [] [ZAo] [qo1] Zr2 Zwf (fun n0=> .lo 9410114011541011 [1,5,6,7,8,17,18,19,24,25,26] [] [qe2,ZAo,qe0,ZDe,qe6,qe2,qe0,qe0,qe2,qe0,qe0] [qo1] 2 [1,5,6,8,17,18,19] [] [qe2,ZAo,qe0,qe6,qe2,qe0,qe0] [qo1] Zt5 (Zwg (Zr2 n0)) (fun _=> .nil) <|
.nil) <|
.nil⟩
theorem ZGN:Zeg X0.E 178 D47.sig:=D47.ok G0 Tryz.func178 ⟨ZCT,trivial⟩ rfl rfl (by kernel_rfl)
noncomputable def D48:FD U:=⟨175,Tryz.f175,[],[.p .bool,.p (.sl (.int .u32))],[],[.p (.st 2)],[],[],ZoN,ZoN,
.j 911 [4] [] [qe5] [qo26,qo1] Zwx <|
.nil⟩
theorem ZDC:Zeg X0.E 175 D48.sig:=D48.ok G0 Tryz.func175 trivial rfl rfl (by kernel_rfl)
noncomputable def D49:FD U:=⟨114,Tryz.f114,[D47.sg,D48.sg],[.p (.st 2),.p (.st 2)],[],[.p (.st 2)],[],[],ZrG,ZrG,
.nil⟩
theorem ZJ1:Zeg X0.E 114 D49.sig:=D49.ok G0 Tryz.func114 ⟨ZGN,ZDC,trivial⟩ rfl rfl (by kernel_rfl)
noncomputable def D50:FD U:=⟨115,Tryz.f115,[],[.p (.st 2)],[],[.p (.st 2)],[],[],Zvj,Zvj,
.j 911 [2] [] [qe5] [ZDO] Zvr <|
.nil⟩
theorem ZJZ:Zeg X0.E 115 D50.sig:=D50.ok G0 Tryz.func115 trivial rfl rfl (by kernel_rfl)
noncomputable def D51:FD U:=⟨176,Tryz.f176,[D42.sg,D39.sg,D33.sg],[.p (.sl (.int .u32)),.p (.sl (.int .u32))],[],[.p (.sl (.int .u32))],[],[],Zsl,Zsl,
.lo 9410111 [0,1,5,6,20,21] [] [qe2,qe2,ZAo,ZDe,qe0,qe0] [qo1] 0 [5,6] [] [ZAo,ZDe] [qo1] Zuk ZwP (fun _=> .nil) <|
.nil⟩
theorem ZGM:Zeg X0.E 176 D51.sig:=D51.ok G0 Tryz.func176 ⟨ZGQ,ZGR,ZCT,trivial⟩ rfl rfl (by kernel_rfl)
noncomputable def D52:FD U:=⟨177,Tryz.f177,[D42.sg,D38.sg,D33.sg],[.p (.sl (.int .u32)),.p (.sl (.int .u32))],[],[.p (.sl (.int .u32))],[],[],ZrM,ZrM,
.lo 9410111 [0,1,5,6,12,13] [] [qe2,qe2,ZAo,ZDe,qe0,qe0] [qo1] 0 [5] [] [ZAo] [qo1] Zt7 Zwi (fun _=> .nil) <|
.nil⟩
theorem ZJY:Zeg X0.E 177 D52.sig:=D52.ok G0 Tryz.func177 ⟨ZGQ,ZGS,ZCT,trivial⟩ rfl rfl (by kernel_rfl)
noncomputable def D53:FD U:=⟨113,Tryz.f113,[D51.sg,D48.sg,D30.sg,D52.sg],[.p (.st 2),.p (.st 2)],[],[.p (.st 2)],[],[],ZyI,ZyI,
.nil⟩
theorem ZJX:Zeg X0.E 113 D53.sig:=D53.ok G0 Tryz.func113 ⟨ZGM,ZDC,ZFq,ZJY,trivial⟩ rfl rfl (by kernel_rfl)
noncomputable def D54:FD U:=⟨62,Tryz.f62,[D46.sg,D49.sg,D50.sg,D53.sg],[.p (.st 3),.p (.st 3)],[],[.p (.int .i64)],[],[],Zob,Zob,
.j 9101 [2,3,13] [] [qe5,ZB2,qe4] [ZDD,ZDD] Zyk <|
.nil⟩
theorem ZBs:Zeg X0.E 62 D54.sig:=D54.ok G0 Tryz.func62 ⟨ZJ2,ZJ1,ZJZ,ZJX,trivial⟩ rfl rfl (by kernel_rfl)
noncomputable def D55:FD U:=⟨63,Tryz.f63,[D54.sg],[.p (.sl (.st 3)),.p (.int .i64),.p (.st 3)],[],[.p (.int .i64)],[],[],ZwJ,ZwJ,
.lo 9401 [0,1,5] [] [qe7,qe0,qe5] [ZDD] 0 [1] [] [qe0] [] ZvP ZyY (fun n0=> .j 9105401 [0,1,5,19] [] [qe7,qe0,qe5,qe4] [ZDD] (ZxH (ZvP n0)) <|
.nil) <|
.nil⟩
theorem ZJW:Zeg X0.E 63 D55.sig:=D55.ok G0 Tryz.func63 ⟨ZBs,trivial⟩ rfl rfl (by kernel_rfl)
noncomputable def D56:FD U:=⟨255,Tryz.f255,[D33.sg],[.p (.int .u64)],[],[.p (.sl (.int .u32))],[],[],Zs8,Zs8,
.nil⟩
theorem ZGL:Zeg X0.E 255 D56.sig:=D56.ok G0 Tryz.func255 ⟨ZCT,trivial⟩ rfl rfl (by kernel_rfl)
noncomputable def D57:FD U:=⟨180,Tryz.f180,[D56.sg,D48.sg],[.p (.int .i64)],[],[.p (.st 2)],[],[],Zul,Zul,
.nil⟩
theorem ZJV:Zeg X0.E 180 D57.sig:=D57.ok G0 Tryz.func180 ⟨ZGL,ZDC,trivial⟩ rfl rfl (by kernel_rfl)
noncomputable def D58:FD U:=⟨254,Tryz.f254,[D45.sg,D44.sg,D48.sg],[.p (.st 2),.p (.st 2)],[],[.p (.st 3)],[],[],Zs7,Zs7,
.nil⟩
theorem ZGK:Zeg X0.E 254 D58.sig:=D58.ok G0 Tryz.func254 ⟨ZGO,ZGP,ZDC,trivial⟩ rfl rfl (by kernel_rfl)
noncomputable def D59:FD U:=⟨179,Tryz.f179,[D25.sg,D58.sg],[.p (.st 2),.p (.st 2)],[],[.p (.st 3),.p (.int .i64)],[],[],Zx7,Zx7,
.nil⟩
theorem ZJU:Zeg X0.E 179 D59.sig:=D59.ok G0 Tryz.func179 ⟨ZGU,ZGK,trivial⟩ rfl rfl (by kernel_rfl)
noncomputable def D60:FD U:=⟨116,Tryz.f116,[D57.sg,D59.sg],[.p (.int .i64),.p (.int .i64)],[],[.p (.st 3),.p (.int .i64)],[],[],Zyj,Zyj,
.nil⟩
theorem ZGJ:Zeg X0.E 116 D60.sig:=D60.ok G0 Tryz.func116 ⟨ZJV,ZJU,trivial⟩ rfl rfl (by kernel_rfl)
noncomputable def D61:FD U:=⟨67,Tryz.f67,[D60.sg],[],[],[.p (.st 3)],[],[],Zzh,Zzh,
.nil⟩
theorem ZFp:Zeg X0.E 67 D61.sig:=D61.ok G0 Tryz.func67 ⟨ZGJ,trivial⟩ rfl rfl (by kernel_rfl)
noncomputable def D62:FD U:=⟨64,Tryz.f64,[D60.sg,D61.sg],[.p (.int .i64),.p (.int .i64)],[],[.p (.st 3)],[],[],ZBm,ZBm,
.nil⟩
theorem ZGI:Zeg X0.E 64 D62.sig:=D62.ok G0 Tryz.func64 ⟨ZGJ,ZFp,trivial⟩ rfl rfl (by kernel_rfl)
noncomputable def D63:FD U:=⟨25,Tryz.f25,[D54.sg,D55.sg,D62.sg],[.p (.sl (.st 3)),.p (.sl (.st 3))],[],[.p (.st 3),.p (.int .i64)],[],[],Zpf,Zpf,
.j 9101 [0,1,4,17] [] ZKu qp1 ZtG <|
.lo 940111 [0,1,4,6,7,8] [] [qe7,qe7,qe5,qe0,qe0,qe0] qp1 0 [0,1,4,6] [] [qe7,qe7,qe5,qe0] qp1 ZrL Zxt (fun n0=> .j 910540111 [0,1,4,6,7,8,28] [] [qe7,qe7,qe5,qe0,qe0,qe0,qe4] qp1 (Zvp (ZrL n0)) <|
.j 91141540111 [0,1,4,6,7,8,9] [] [qe7,qe7,qe5,qe0,qe0,qe0,ZB2] qp9 (ZtF (ZrL n0)) <|
.nil) <|
.nil⟩
theorem ZGH:Zeg X0.E 25 D63.sig:=D63.ok G0 Tryz.func25 ⟨ZBs,ZJW,ZGI,trivial⟩ rfl rfl (by kernel_rfl)
noncomputable def D64:FD U:=⟨66,Tryz.f66,[],[.p (.st 2),.p (.st 2)],[],[.p .bool],[],[],Zqg,Zqg,
.j 9101 [2,3,20] [] [qe5,ZB2,qe4] [ZDO,ZDO] Zr4 <|
.lr 941011 [3,22,23,24] [] [qe5,qe2,qe0,qe0] [ZDO] 0 [] [] [] [] Zr3 Zum (fun _=> .nil) <|
.nil⟩
theorem ZJT:Zeg X0.E 66 D64.sig:=D64.ok G0 Tryz.func66 trivial rfl rfl (by kernel_rfl)
noncomputable def D65:FD U:=⟨28,Tryz.f28,[D64.sg],[.p (.st 3),.p (.st 3)],[],[.p .bool],[],[],Zoc,Zoc,
.j 911 [4] [] [qe4] [] Ztn <|
.nil⟩
theorem ZFo:Zeg X0.E 28 D65.sig:=D65.ok G0 Tryz.func28 ⟨ZJT,trivial⟩ rfl rfl (by kernel_rfl)
noncomputable def D66:FD U:=⟨164,Tryz.f164,[],[],[],[.map (.int .i64) (.st 4)],[],[],ZzR,ZzR,
.nil⟩
theorem ZGG:Zeg X0.E 164 D66.sig:=D66.ok G0 Tryz.func164 trivial rfl rfl (by kernel_rfl)
noncomputable def D68:FD U:=⟨236,Tryz.f236,[(297,ZzG.sig)],[.p .str],[],[.p .str],[],[],Zzd,Zzd,
.nil⟩
theorem ZJS:Zeg X0.E 236 D68.sig:=D68.ok G0 Tryz.func236 ⟨ZAk,trivial⟩ rfl rfl (by kernel_rfl)
noncomputable def D69:FD U:=⟨353,Tryz.f353,[],[.p .str,.p .str],[],[.p .bool],[],[],ZoY,ZoY,
.j 911 [4] [] [qe4] [] Zqq <|
.nil⟩
theorem ZGF:Zeg X0.E 353 D69.sig:=D69.ok G0 Tryz.func353 trivial rfl rfl (by kernel_rfl)
noncomputable def D70:FD U:=⟨337,Tryz.f337,[D69.sg],[.p .str,.p .str],[],[.p .str,.p .bool],[],[],Zq5,Zq5,
.nil⟩
theorem ZJR:Zeg X0.E 337 D70.sig:=D70.ok G0 Tryz.func337 ⟨ZGF,trivial⟩ rfl rfl (by kernel_rfl)
noncomputable def D71:FD U:=⟨301,Tryz.f301,[D70.sg],[.p .str,.p .str],[],[.p .str,.p .bool],[],[],Zvb,Zvb,
.nil⟩
theorem ZJQ:Zeg X0.E 301 D71.sig:=D71.ok G0 Tryz.func301 ⟨ZJR,trivial⟩ rfl rfl (by kernel_rfl)
noncomputable def D72:FD U:=⟨338,Tryz.f338,[D69.sg],[.p .str,.p .str],[],[.p .str],[],[],ZqU,ZqU,
.nil⟩
theorem ZJP:Zeg X0.E 338 D72.sig:=D72.ok G0 Tryz.func338 ⟨ZGF,trivial⟩ rfl rfl (by kernel_rfl)
noncomputable def D73:FD U:=⟨302,Tryz.f302,[D72.sg],[.p .str,.p .str],[],[.p .str],[],[],ZuC,ZuC,
.nil⟩
theorem ZJO:Zeg X0.E 302 D73.sig:=D73.ok G0 Tryz.func302 ⟨ZJP,trivial⟩ rfl rfl (by kernel_rfl)
noncomputable def D75:FD U:=⟨352,Tryz.f352,[(370,Zvs.sig)],[.p .str,.p .str],[],[.p (.int .i64)],[],[],ZqV,ZqV,
.j 914011 [0,1,5,16] [] [ZAH,ZAH,qe0,qe4] [] Zrj <|
.nil⟩
theorem ZJN:Zeg X0.E 352 D75.sig:=D75.ok G0 Tryz.func352 ⟨ZyB,trivial⟩ rfl rfl (by kernel_rfl)
noncomputable def D76:FD U:=⟨339,Tryz.f339,[D75.sg],[.p .str,.p .str],[],[.p .str,.p .str,.p .bool],[],[],Ztt,Ztt,
.nil⟩
theorem ZJM:Zeg X0.E 339 D76.sig:=D76.ok G0 Tryz.func339 ⟨ZJN,trivial⟩ rfl rfl (by kernel_rfl)
noncomputable def D77:FD U:=⟨303,Tryz.f303,[D76.sg],[.p .str,.p .str],[],[.p .str,.p .str,.p .bool],[],[],Zyg,Zyg,
.nil⟩
theorem ZGE:Zeg X0.E 303 D77.sig:=D77.ok G0 Tryz.func303 ⟨ZJM,trivial⟩ rfl rfl (by kernel_rfl)
noncomputable def D78:FD U:=⟨304,Tryz.f304,[(297,ZzG.sig)],[.p .str,.p (.int .i64)],[],[.p .bool],[],[],ZuZ,ZuZ,
.j 911 [4] [] [qe4] [] ZuF <|
.nil⟩
theorem ZJL:Zeg X0.E 304 D78.sig:=D78.ok G0 Tryz.func304 ⟨ZAk,trivial⟩ rfl rfl (by kernel_rfl)
noncomputable def D79:FD U:=⟨241,Tryz.f241,[D71.sg,D73.sg,D77.sg,D78.sg,D31.sg,D47.sg,D56.sg,D51.sg,D48.sg,D58.sg],[.p .str],[],[.p (.st 3),.p .bool],[],[],Zs9,Zs9,
.j 9111 [2,4,5] [] [qe5,ZAH,qe4] qp1 Zui <|
.j 9101111 [2,5,6,7,39] [] [qe5,qe4,ZAH,ZAH,qe4] qp1 Zso <|
.lo 941011111111 [2,5,7,9,10,11,47,48,49] [9,10] [qe5,qe4,ZAH,qe2,qe2,ZKx,.o (.full (0,3,1)),qe0,qe0] [qo9,qo1,ZIp,qo1,qo1] 0 [2,5,7,9,10,11] [] [qe5,qe4,ZAH,qe2,qe2,ZKx] [qo14,qo1,qo1,qo1] ZvW Zx9 (fun _=> .nil) <|
.lo 9410111111111 [2,5,9,10,11,63,64] [11] [qe5,qe4,qe2,qe2,qe2,qe0,qe0] qp1 2 [2,5,9,11] [] [qe5,qe4,qe2,qe2] qp1 ZvV Zx8 (fun _=> .nil) <|
.nil⟩
theorem ZGD:Zeg X0.E 241 D79.sig:=D79.ok G0 Tryz.func241 ⟨ZJQ,ZJO,ZGE,ZJL,ZGT,ZGN,ZGL,ZGM,ZDC,ZGK,trivial⟩ rfl rfl (by kernel_rfl)
noncomputable def D82:FD U:=⟨307,Tryz.f307,[],[.p (.sl .str)],[],[.p .str],[],[],Zyb,Zyb,
.lr 941011 [3,6,7,8] [] [ZAH,.o (.v (.sl .str)),qe0,qe0] [] 0 [3] [] [ZAH] [] ZvX ZAr (fun _=> .nil) <|
.nil⟩
theorem ZJK:Zeg X0.E 307 D82.sig:=D82.ok G0 Tryz.func307 trivial rfl rfl (by kernel_rfl)
noncomputable def D83:FD U:=⟨242,Tryz.f242,[D79.sg,(305,ZzQ.sig),D77.sg,(306,ZzA.sig),D82.sg],[.p .str],[],[.p .str,.p .bool],[],[],ZwB,ZwB,
.j 9111111 [0,9] [] [ZAH,ZAH] [] ZsA <|
.j 910111111 [9,43] [] ZFM [] Zxx <|
.j 91111111 [9] [] [ZAH] [] Zxw <|
.nil⟩
theorem ZJJ:Zeg X0.E 242 D83.sig:=D83.ok G0 Tryz.func242 ⟨ZGD,ZAX,ZGE,ZAL,ZJK,trivial⟩ rfl rfl (by kernel_rfl)
noncomputable def D84:FD U:=⟨163,Tryz.f163,[D66.sg,D68.sg,D83.sg],[.p (.int .i64),.p .str],[],[.p .str,.p .bool],[],[(26,2)],ZuX,ZuX,
.nil⟩
theorem ZJI:Zeg X0.E 163 D84.sig:=D84.ok G0 Tryz.func163 ⟨ZGG,ZJS,ZJJ,trivial⟩ rfl rfl (by kernel_rfl)
noncomputable def D85:FD U:=⟨110,Tryz.f110,[D84.sg,D66.sg,D79.sg],[.p (.int .i64),.p .str],[],[.p (.st 3),.p .bool],[],[(22,2)],ZyT,ZyT,
.nil⟩
theorem ZJH:Zeg X0.E 110 D85.sig:=D85.ok G0 Tryz.func110 ⟨ZJI,ZGG,ZGD,trivial⟩ rfl rfl (by kernel_rfl)
noncomputable def D86:FD U:=⟨60,Tryz.f60,[D61.sg,D85.sg],[.p (.st 0)],[],[.p (.st 3),.p .bool],[],[],ZAb,ZAb,
.nil⟩
theorem ZJG:Zeg X0.E 60 D86.sig:=D86.ok G0 Tryz.func60 ⟨ZFp,ZJH,trivial⟩ rfl rfl (by kernel_rfl)
noncomputable def D87:FD U:=⟨112,Tryz.f112,[D19.sg],[.p (.int .u64)],[],[.p (.int .i64)],[],[],ZxX,ZxX,
.nil⟩
theorem ZGC:Zeg X0.E 112 D87.sig:=D87.ok G0 Tryz.func112 ⟨ZGV,trivial⟩ rfl rfl (by kernel_rfl)
noncomputable def D88:FD U:=⟨165,Tryz.f165,[D54.sg],[.arr (.st 3),.p (.int .i64),.p (.int .i64),.fn 62 [] []],[(0,.arr (.st 3))],[],[],[],Zo8,Zom,
.lo 941 [0,1,2,3,8] [] ZKR [qo8] 0 [] [] [] [qo8] Zoi Zp7 (fun n0=> .lo 941401541 [0,1,2,3,8,9] [] qs2 [qo8] 2 [0,1,2,3,8] [] ZKR [qo8] ZnX (Zp8 (Zoi n0)) (fun n1=> .j 910541401541 [0,1,2,3,8,9,34] [] qs6 [qo8] (ZoM (ZnX n1)) <|
.nil) <|
.nil) <|
.nil⟩
theorem ZJF:Zeg X0.E 165 D88.sig:=D88.okA G0 Tryz.func165 ⟨ZBs,trivial⟩ (by kernel_rfl) (by kernel_rfl)
noncomputable def D89:FD U:=⟨245,Tryz.f245,[D54.sg],[.arr (.st 3),.p (.int .i64),.p (.int .i64),.p (.int .i64),.fn 62 [] []],[(0,.arr (.st 3))],[],[],[],Zp0,Zog,
.lr 941 [0,2,3,4,10] [] ZKR [qo8] 0 [] [] [] [qo8] Zoe ZqX (fun n0=> .j 910114541 [0,2,3,4,10,11,40] [] qs6 [qo8] (Zpr (Zoe n0)) <|
.j 91114541 [0,2,3,4,10,11] [] qs2 [qo8] (ZoA (Zoe n0)) <|
.nil) <|
.nil⟩
theorem ZJE:Zeg X0.E 245 D89.sig:=D89.okA G0 Tryz.func245 ⟨ZBs,trivial⟩ (by kernel_rfl) (by kernel_rfl)
noncomputable def D90:FD U:=⟨166,Tryz.f166,[D89.sg],[.arr (.st 3),.p (.int .i64),.p (.int .i64),.fn 62 [] []],[(0,.arr (.st 3))],[],[],[],Zp1,ZpH,
.lo 9410111 [0,3,8,9,10,11] [] [ZCJ,ZDE,qe0,qe0,qe0,qe0] [qo8] 0 [0,3,8,9,10] [] [ZCJ,ZDE,qe0,qe0,qe0] [qo8] Zpu ZqZ (fun _=> .nil) <|
.lo 9411111 [0,3,8,9,12] [] [ZCJ,ZDE,qe0,qe0,qe0] [qo8] 2 [] [] [] [qo8] Zpt ZqY (fun _=> .nil) <|
.nil⟩
theorem ZJC:Zeg X0.E 166 D90.sig:=D90.okA G0 Tryz.func166 ⟨ZJE,trivial⟩ (by kernel_rfl) (by kernel_rfl)
noncomputable def D91:FD U:=⟨246,Tryz.f246,[D87.sg],[.p (.int .i64)],[],[.p (.int .u64)],[],[],ZsZ,ZsZ,
.nil⟩
theorem ZJB:Zeg X0.E 246 D91.sig:=D91.ok G0 Tryz.func246 ⟨ZGC,trivial⟩ rfl rfl (by kernel_rfl)
noncomputable def D92:FD U:=⟨247,Tryz.f247,[],[.box (.int .u64)],[(0,.box (.int .u64))],[.p (.int .u64)],[],[],ZtC,ZtC,
.nil⟩
theorem ZJA:Zeg X0.E 247 D92.sig:=D92.ok G0 Tryz.func247 trivial rfl rfl (by kernel_rfl)
noncomputable def D93:FD U:=⟨167,Tryz.f167,[D91.sg,D92.sg],[.arr (.st 3),.p (.int .i64),.p (.int .i64),.fn 62 [] []],[(0,.arr (.st 3))],[],[],[],Zpa,ZoR,
.lo 94111211 [0,1,8,9,10,11] [] [ZCJ,qe0,qe0,qe5,qe6,qe0] [qo8,.boxS (.int .u64)] 0 [] [] [] [qo8] Zoj Zp9 (fun n0=> .j 91140154111211 [0,1,8,9,10,11,12] [] [ZCJ,qe0,qe0,qe5,qe6,qe0,qe0] [qo8,.boxS (.int .u64)] (Zok (Zoj n0)) <|
.nil) <|
.nil⟩
theorem ZJz:Zeg X0.E 167 D93.sig:=D93.okA G0 Tryz.func167 ⟨ZJB,ZJA,trivial⟩ (by kernel_rfl) (by kernel_rfl)
noncomputable def D94:FD U:=⟨313,Tryz.f313,[D54.sg],[.arr (.st 3),.p (.int .i64),.p (.int .i64),.box (.int .i64),.fn 62 [] []],[(0,.arr (.st 3)),(3,.box (.int .i64))],[.p (.int .i64),.p (.int .i64)],[],[],Zsg,Zow,
.nil⟩
theorem ZJy:Zeg X0.E 313 D94.sig:=D94.okA G0 Tryz.func313 ⟨ZBs,trivial⟩ (by kernel_rfl) (by kernel_rfl)
noncomputable def D95:FD U:=⟨249,Tryz.f249,[D94.sg],[.arr (.st 3),.p (.int .i64),.p (.int .i64),.p (.int .i64),.box (.int .i64),.fn 62 [] []],[(0,.arr (.st 3)),(4,.box (.int .i64))],[.p (.int .i64)],[],[],Zsh,ZoX,
.nil⟩
theorem ZGB:Zeg X0.E 249 D95.sig:=D95.okA G0 Tryz.func249 ⟨ZJy,trivial⟩ (by kernel_rfl) (by kernel_rfl)
noncomputable def D96:FD U:=⟨248,Tryz.f248,[D95.sg],[.arr (.st 3),.p (.int .i64),.box (.int .i64),.fn 62 [] []],[(0,.arr (.st 3)),(2,.box (.int .i64))],[.p (.int .i64)],[],[],Zqo,ZnW,
.nil⟩
theorem ZJx:Zeg X0.E 248 D96.sig:=D96.okA G0 Tryz.func248 ⟨ZGB,trivial⟩ (by kernel_rfl) (by kernel_rfl)
noncomputable def D97:FD U:=⟨168,Tryz.f168,[D96.sg,D95.sg],[.arr (.st 3),.p (.int .i64),.p (.int .i64),.fn 62 [] []],[(0,.arr (.st 3))],[.p (.int .i64),.p (.int .i64)],[],[],Zpv,Zo9,
.j 91210111111 [0,3,11,12,13,14] [] [ZCJ,ZDE,qe5,qe0,qe0,qe0] [qo8,.boxS (.int .i64)] Zos <|
.j 91111111 [11,13] [] [qe5,qe0] [qo8,.boxS (.int .i64)] Zor <|
.nil⟩
theorem ZJw:Zeg X0.E 168 D97.sig:=D97.okA G0 Tryz.func168 ⟨ZJx,ZGB,trivial⟩ (by kernel_rfl) (by kernel_rfl)
noncomputable def D98:FD U:=⟨169,Tryz.f169,[],[.arr (.st 3),.p (.int .i64),.p (.int .i64),.fn 62 [] []],[(0,.arr (.st 3))],[],[],[],Zph,ZoZ,
.lo 9411 [0,8,9] [] [ZCJ,qe0,qe0] [qo8] 0 [] [] [] [qo8] ZoQ Zqb (fun _=> .nil) <|
.nil⟩
theorem ZJv:Zeg X0.E 169 D98.sig:=D98.okA G0 Tryz.func169 trivial (by kernel_rfl) (by kernel_rfl)
noncomputable def D99:FD U:=⟨170,Tryz.f170,[D54.sg],[.arr (.st 3),.p (.int .i64),.p (.int .i64),.fn 62 [] []],[(0,.arr (.st 3))],[.p .bool],[],[],Zoy,Zoq,
.lr 941011 [0,1,2,3,9,10] [] qs2 [qo8] 0 [] [] [] [qo8] ZnK Zo4 (fun n0=> .lo 940401541011 [0,1,2,3,9,10] [] qs2 [qo8] 2 [0,1,2,3,9,10] [] qs2 [qo8] ZnP (Zo7 (ZnK n0)) (fun n1=> .j 910540401541011 [0,1,2,3,9,10,36] [] qs6 [qo8] (Zon (ZnP n1)) <|
.nil) <|
.lo 9412101111401541011 [0,1,2,3,9,10,11] [] [ZCJ,qe0,qe0,ZDE,qe0,qe0,qe0] [qo8] 4 [0,1,2,3,9,10] [] qs2 [qo8] ZnU (Zo6 (ZnK n0)) (fun _=> .nil) <|
.j 9111111401541011 [0,1,2,3,9,10,104] [] qs6 [qo8] (ZnV (ZnK n0)) <|
.lo 9412111111401541011 [0,1,2,3,9,10,12] [] [ZCJ,qe0,qe0,ZDE,qe0,qe0,qe0] [qo8] 6 [0,1,2,3,9,10] [] qs2 [qo8] ZnT (Zo5 (ZnK n0)) (fun _=> .nil) <|
.nil) <|
.nil⟩
theorem ZJu:Zeg X0.E 170 D99.sig:=D99.okA G0 Tryz.func170 ⟨ZBs,trivial⟩ (by kernel_rfl) (by kernel_rfl)
noncomputable def ZLG:FD U:=⟨171,Tryz.f171,[D54.sg],[.arr (.st 3),.p (.int .i64),.p (.int .i64),.p (.int .i64),.fn 62 [] []],[(0,.arr (.st 3))],[.p (.int .i64)],[],[],Zo0,ZoL,
.lo 940111 [0,1,4,11,12] [] qs0 [qo8] 0 [11] [] [qe0] [qo8] ZnO ZpT (fun n0=> .lo 9404540111 [0,1,4,11,12] [] qs0 [qo8] 2 [0,1,4,11,12] [] qs0 [qo8] ZnS (ZpV (ZnO n0)) (fun n1=> .j 9105404540111 [0,1,4,11,12,47] [] qs3 [qo8] (ZoJ (ZnS n1)) <|
.nil) <|
.lo 94014540111 [0,1,4,11,12] [] qs0 [qo8] 4 [0,1,4,11,12] [] qs0 [qo8] ZnR (ZpU (ZnO n0)) (fun n1=> .j 91054014540111 [0,1,4,11,12,65] [] qs3 [qo8] (ZoI (ZnR n1)) <|
.nil) <|
.nil) <|
.nil⟩
theorem ZIm:Zeg X0.E 171 ZLG.sig:=ZLG.okA G0 Tryz.func171 ⟨ZBs,trivial⟩ (by kernel_rfl) (by kernel_rfl)
noncomputable def ZLF:FD U:=⟨172,Tryz.f172,[D54.sg],[.arr (.st 3),.p (.int .i64),.p (.int .i64),.p (.int .i64),.fn 62 [] []],[(0,.arr (.st 3))],[.p (.int .i64),.p .bool],[],[],ZpQ,Zps,
.lo 940111 [0,1,4,12,13] [] qs0 [qo8] 0 [0,1,4,12,13] [] qs0 [qo8] Zn8 ZqN (fun n0=> .j 910540111 [0,1,4,12,13,47] [] qs3 [qo8] (Zpl (Zn8 n0)) <|
.nil) <|
.lo 9401111 [0,1,4,12,13] [] qs0 [qo8] 2 [0,1,4,12,13] [] qs0 [qo8] Zn7 ZqM (fun n0=> .j 9105401111 [0,1,4,12,13,66] [] qs3 [qo8] (Zpk (Zn7 n0)) <|
.nil) <|
.lo 940111111111 [0,1,4,12,13] [] qs0 [qo8] 4 [0,1,13] [] [ZCJ,qe0,qe0] [qo8] ZnQ ZqJ (fun n0=> .lo 9404540111111111 [0,1,4,12,13] [] qs0 [qo8] 6 [0,1,4,12,13] [] qs0 [qo8] Zn6 (ZqL (ZnQ n0)) (fun n1=> .j 9105404540111111111 [0,1,4,12,13,120] [] qs3 [qo8] (Zpj (Zn6 n1)) <|
.nil) <|
.lo 94014540111111111 [0,1,4,12,13] [] qs0 [qo8] 8 [0,1,4,12,13] [] qs0 [qo8] Zn5 (ZqK (ZnQ n0)) (fun n1=> .j 91054014540111111111 [0,1,4,12,13,139] [] qs3 [qo8] (Zpi (Zn5 n1)) <|
.nil) <|
.nil) <|
.nil⟩
theorem ZIl:Zeg X0.E 172 ZLF.sig:=ZLF.okA G0 Tryz.func172 ⟨ZBs,trivial⟩ (by kernel_rfl) (by kernel_rfl)
noncomputable def ZGh (n_:Nat):FD U:=⟨111,Tryz.f111,[],[.arr (.st 3),.p (.int .i64),.p (.int .i64),.p (.int .i64),.fn 62 [] []],[(0,.arr (.st 3))],[],[],[],ZnF n_,ZnF n_,
.nil⟩
noncomputable def ZLE (n_:Nat):FD U:=⟨111,Tryz.f111,[D88.sg,D90.sg,D93.sg,D97.sg,D98.sg,D99.sg,D54.sg,ZLG.sg,ZLF.sg,(ZGh n_).sg],[.arr (.st 3),.p (.int .i64),.p (.int .i64),.p (.int .i64),.fn 62 [] []],[(0,.arr (.st 3))],[],[],[],ZpP (ZnF n_),ZnF (n_+1),
.lz 9411 [0,1,2,3,4,10,11] [] [ZCJ,qe0,qe0,qe0,ZDE,qe4,qe4] [qo8] (ZnM (ZnF n_)) (fun n0=> .j 9111145411 [0,1,2,3,4,10,11,12] [] [ZCJ,qe0,qe0,qe0,ZDE,qe4,qe4,qe0] [qo8] ((ZoH (ZnF n_)) ((ZnM (ZnF n_)) n0)) <|
.j 911111145411 [0,1,2,3,4,10,11,12,13,14] [] [ZCJ,qe0,qe0,qe0,ZDE,qe4,qe4,qe0,qe0,qe0] [qo8] ((ZoG (ZnF n_)) ((ZnM (ZnF n_)) n0)) <|
.j 91011111145411 [0,1,2,3,4,10,11,12,13,75] [] qs11 [qo8] ((Zoh (ZnF n_)) ((ZnM (ZnF n_)) n0)) <|
.j 9111111145411 [0,1,2,3,4,10,11,12,13] [] [ZCJ,qe0,qe0,qe0,ZDE,qe4,qe4,qe0,qe0] [qo8] ((ZoF (ZnF n_)) ((ZnM (ZnF n_)) n0)) <|
.j 910111111145411 [0,1,2,3,4,10,11,12,13,97] [] qs11 [qo8] ((ZoE (ZnF n_)) ((ZnM (ZnF n_)) n0)) <|
.nil) <|
.nil⟩
theorem ZGg (n_:Nat):Zeg X0.E 111 (ZGh n_).sig:=by
 induction n_ with
 |zero=>
  refine Zj9.ok (S:=(ZGh 0).FS) uok fun v r h=> ?_
  have h2:(none:Option _)=some r:=h;cases h2
 |succ n_ ih=>exact(ZLE n_).okA G0 Tryz.func111 ⟨ZJF,ZJC,ZJz,ZJw,ZJv,ZJu,ZBs,ZIm,ZIl,ih,trivial⟩ (by kernel_rfl) (by kernel_rfl)
noncomputable abbrev D102:FD U:=ZGh big
theorem ZIk:Zeg X0.E 111 D102.sig:=ZGg big
noncomputable def ZLD:FD U:=⟨61,Tryz.f61,[D87.sg,D102.sg],[.arr (.st 3),.fn 62 [] []],[(0,.arr (.st 3))],[],[],[],Zqp,Zol,
.nil⟩
theorem ZIj:Zeg X0.E 61 ZLD.sig:=ZLD.okA G0 Tryz.func61 ⟨ZGC,ZIk,trivial⟩ (by kernel_rfl) (by kernel_rfl)
noncomputable def ZKH:FD U:=⟨23,Tryz.f23,[D86.sg,ZLD.sg],[.p (.st 1)],[],[.own (.st 3)],[],[],ZrF,ZrF,
.lo 941011 [3,9,10,11] [] ZKw [qo8] 0 [3] [] [ZAo] [qo8] Zuh ZxW (fun n0=> .j 9111541011 [3,9,10,11] [] ZKw [qo8] (ZvR (Zuh n0)) <|
.nil) <|
.nil⟩
theorem ZFz:Zeg X0.E 23 ZKH.sig:=ZKH.ok G0 Tryz.func23 ⟨ZJG,ZIj,trivial⟩ rfl rfl (by kernel_rfl)
noncomputable def ZLC:FD U:=⟨22,Tryz.f22,[D16.sg,D23.sg,D63.sg,D65.sg,D15.sg,ZKH.sg],[],[],[.p .bool],[],[],Zq2,Zq2,
.j 911111 [0] [] [qe4] [] Zpe <|
.nil⟩
theorem ZIi:Zeg X0.E 22 ZLC.sig:=ZLC.ok G0 Tryz.func22 ⟨ZGW,ZKg,ZGH,ZFo,ZEn,ZFz,trivial⟩ rfl rfl (by kernel_rfl)
noncomputable def ZLB:FD U:=⟨13,Tryz.f13,[],[.p (.sl (.int .i64))],[],[.box (.st 5)],[],[],ZvM,ZvM,
.nil⟩
theorem ZIh:Zeg X0.E 13 ZLB.sig:=ZLB.ok G0 Tryz.func13 trivial rfl rfl (by kernel_rfl)
noncomputable def ZLA:FD U:=⟨16,Tryz.f16,[],[.p (.int .i64),.p (.int .i64)],[],[.p (.int .i64)],[],[],ZuB,ZuB,
.nil⟩
theorem ZIg:Zeg X0.E 16 ZLA.sig:=ZLA.ok G0 Tryz.func16 trivial rfl rfl (by kernel_rfl)
noncomputable def ZIf:FD U:=⟨14,Tryz.f14,[ZLA.sg],[.box (.st 5),.p (.int .i64)],[(0,.box (.st 5))],[.p (.int .i64)],[],[],Zof,Zof,
.nil⟩
theorem ZCC:Zeg X0.E 14 ZIf.sig:=ZIf.ok G0 Tryz.func14 ⟨ZIg,trivial⟩ rfl rfl (by kernel_rfl)
noncomputable def ZKs:FD U:=⟨32,Tryz.f32,[ZIf.sg],[.box (.st 5),.p (.sl .str)],[(0,.box (.st 5))],[.p .str],[],[],ZoP,ZoP,
.nil⟩
theorem ZD3:Zeg X0.E 32 ZKs.sig:=ZKs.ok G0 Tryz.func32 ⟨ZCC,trivial⟩ rfl rfl (by kernel_rfl)
noncomputable def ZLz:FD U:=⟨54,Tryz.f54,[ZIf.sg,ZKs.sg],[.box (.st 5)],[(0,.box (.st 5))],[.p (.st 0)],[],[],Zug,Zug,
.nil⟩
theorem ZIe:Zeg X0.E 54 ZLz.sig:=ZLz.ok G0 Tryz.func54 ⟨ZCC,ZD3,trivial⟩ rfl rfl (by kernel_rfl)
noncomputable def ZLy:FD U:=⟨55,Tryz.f55,[ZIf.sg,ZKs.sg,(56,ZzH.sig)],[.box (.st 5)],[(0,.box (.st 5))],[.p (.st 0)],[],[],ZsO,ZsO,
.nil⟩
theorem ZId:Zeg X0.E 55 ZLy.sig:=ZLy.ok G0 Tryz.func55 ⟨ZCC,ZD3,ZAl,trivial⟩ rfl rfl (by kernel_rfl)
noncomputable def ZLx:FD U:=⟨15,Tryz.f15,[ZKs.sg,ZIf.sg,ZLz.sg,ZLy.sg,(56,ZzH.sig)],[.box (.st 5),.p (.int .i64)],[(0,.box (.st 5))],[.p (.st 1)],[],[],Zqi,Zqi,
.lo 9410111 [0,4,5,6,15,16] [] [.o (.ptr (0,0,0) 0 0),qe5,ZB2,qe0,qe0,qe0] [.boxS (.st 5),qo27,ZKU,ZIo,ZIo] 0 [4,5] [] [qe5,ZB2] [.boxS (.st 5),qo27,ZKU,ZIo,ZIo] Zrr ZvC (fun n0=> .j 911140115410111 [0,4,5,6,8,15,16] [] [.o (.ptr (0,0,0) 0 0),qe5,ZB2,qe0,ZET,qe0,qe0] [.boxS (.st 5),ZKU,.box [.o (.v .str),.o (.full (0,5,1))],.boxS (.st 0),ZIo,ZIo] (Zpx (Zrr n0)) <|
.nil) <|
.nil⟩
theorem ZIc:Zeg X0.E 15 ZLx.sig:=ZLx.ok G0 Tryz.func15 ⟨ZD3,ZCC,ZIe,ZId,ZAl,trivial⟩ rfl rfl (by kernel_rfl)
noncomputable def ZLw:FD U:=⟨203,Tryz.f203,[],[.p .str],[],[.p .str],[],[],ZsD,ZsD,
.lo 9401 [0] [] [ZAH] [] 0 [0] [] [ZAH] [] Zrm Zvx (fun n0=> .j 9105401 [0,10] [] ZFM [] (Ztr (Zrm n0)) <|
.nil) <|
.lo 94011 [0] [] [ZAH] [] 2 [0] [] [ZAH] [] Zrl Zvw (fun n0=> .j 91054011 [0,23] [] ZFM [] (Ztq (Zrl n0)) <|
.nil) <|
.nil⟩
theorem ZIb:Zeg X0.E 203 ZLw.sig:=ZLw.ok G0 Tryz.func203 trivial rfl rfl (by kernel_rfl)
noncomputable def ZLv:FD U:=⟨204,Tryz.f204,[],[.p .str],[],[.p .str],[],[],Zw5,Zw5,
.lo 941011 [3,8,9] [] [ZAo,qe0,qe0] [ZIp] 0 [3] [] [ZAo] [ZIp] Zrn Zyn (fun n0=> .j 9114011541011 [3,4,8,9,23] [] [ZAo,qe0,qe0,qe0,qe4] [ZIp] (Zvz (Zrn n0)) <|
.j 9111541011 [3,8,9] [] [ZAo,qe0,qe0] [ZIp] (Zvy (Zrn n0)) <|
.nil) <|
.nil⟩
theorem ZIa:Zeg X0.E 204 ZLv.sig:=ZLv.ok G0 Tryz.func204 trivial rfl rfl (by kernel_rfl)
noncomputable def ZKG:FD U:=⟨205,Tryz.f205,[],[.p .str],[],[.p .bool,.p .str,.p .str,.p .bool],[],[],Zq1,Zq1,
.j 9101 [0,2,20] [] [ZAH,qe4,qe4] [] Zrc <|
.j 911 [0,2] [] ZFM [] ZoD <|
.lo 940111 [0,2,6] [] [ZAH,qe4,qe0] [] 0 [0,2,6] [] [ZAH,qe4,qe0] [] Zra Zva (fun n0=> .j 910540111 [0,2,6,41] [] [ZAH,qe4,qe0,qe4] [] (Zrb (Zra n0)) <|
.nil) <|
.j 91011111 [0,2,3,6,52] [] [ZAH,qe4,ZAH,qe0,qe4] [] ZsM <|
.j 91011111111 [2,3,4,76] [] ZKv [] Zop <|
.lr 9410111111111 [2,3,4,7] [] [qe4,ZAH,ZAH,qe0] [] 2 [2,3,4] [] ZIH [] Zp6 ZxV (fun n0=> .j 914015410111111111 [2,3,4,7,92] [] [qe4,ZAH,ZAH,qe0,qe4] [] (ZsL (Zp6 n0)) <|
.nil) <|
.nil⟩
theorem ZFy:Zeg X0.E 205 ZKG.sig:=ZKG.ok G0 Tryz.func205 trivial rfl rfl (by kernel_rfl)
noncomputable def ZLu:FD U:=⟨206,Tryz.f206,[],[.p .bool,.p .str,.p .str],[],[.p .str],[],[],ZrP,ZrP,
.lo 9401 [0,1,2] [] ZIH [] 0 [0,1,2] [] ZIH [] ZqR ZuJ (fun n0=> .j 9105401 [0,1,2,14] [] ZKv [] (Zsv (ZqR n0)) <|
.nil) <|
.lo 94011 [0,1,2] [] ZIH [] 2 [0,1,2] [] ZIH [] ZqQ ZuI (fun n0=> .j 91054011 [0,1,2,27] [] ZKv [] (Zsu (ZqQ n0)) <|
.nil) <|
.j 91111 [0,1] [] [qe4,ZAH] [] Zst <|
.j 9101111 [1,43] [] ZFM [] Zss <|
.j 911111 [1] [] [ZAH] [] Zsr <|
.nil⟩
theorem ZH9:Zeg X0.E 206 ZLu.sig:=ZLu.ok G0 Tryz.func206 trivial rfl rfl (by kernel_rfl)
noncomputable def ZLt:FD U:=⟨208,Tryz.f208,[],[.p .str],[],[.p (.int .i64)],[],[],ZpW,ZpW,
.lr 941011 [0,3,4] [] [ZAH,qe0,qe0] [] 0 [3] [] [qe0] [] ZtV ZyC (fun n0=> .j 910401541011 [0,3,4,20] [] [ZAH,qe0,qe0,qe4] [] (Zv0 (ZtV n0)) <|
.nil) <|
.nil⟩
theorem ZH8:Zeg X0.E 208 ZLt.sig:=ZLt.ok G0 Tryz.func208 trivial rfl rfl (by kernel_rfl)
noncomputable def ZKF:FD U:=⟨210,Tryz.f210,[],[.p (.int .i64)],[],[.p .bool],[],[],ZuL,ZuL,
.j 911 [2] [] [qe4] [] Zto <|
.nil⟩
theorem ZFx:Zeg X0.E 210 ZKF.sig:=ZKF.ok G0 Tryz.func210 trivial rfl rfl (by kernel_rfl)
noncomputable def ZLs:FD U:=⟨209,Tryz.f209,[ZKF.sg],[.p (.int .i64),.p (.int .i64)],[],[.p (.int .i64)],[],[],ZtW,ZtW,
.j 91401 [1,5] [] [qe0,qe4] [] ZuK <|
.j 913131401 [15] [] [qe4] [] ZqS <|
.nil⟩
theorem ZH7:Zeg X0.E 209 ZLs.sig:=ZLs.ok G0 Tryz.func209 ⟨ZFx,trivial⟩ rfl rfl (by kernel_rfl)
noncomputable def ZKE:FD U:=⟨143,Tryz.f143,[ZLs.sg,ZKF.sg],[.p (.int .i64),.p (.int .i64),.p (.int .i64)],[],[.p (.int .i64),.p .bool],[],[],Zvm,Zvm,
.j 9101 [0,1,2,35] [] [qe0,qe0,qe0,qe4] [] ZpJ <|
.lo 9410111 [0,1,2,8,9] [] ZKP [] 0 [0,1,2,8] [] [qe0,qe0,qe0,qe0] [] ZtX ZyE (fun n0=> .j 9115410111 [0,1,2,8,9] [] ZKP [] (Zv2 (ZtX n0)) <|
.nil) <|
.lo 94101111 [0,1,2,8,10] [] ZKP [] 2 [2,8] [] [qe0,qe0] [] Zv1 ZyD (fun _=> .nil) <|
.nil⟩
theorem ZFw:Zeg X0.E 143 ZKE.sig:=ZKE.ok G0 Tryz.func143 ⟨ZH7,ZFx,trivial⟩ rfl rfl (by kernel_rfl)
noncomputable def ZKD:FD U:=⟨142,Tryz.f142,[ZLt.sg,ZKE.sg],[.p .str],[],[.p (.int .i64),.p (.int .i64),.p (.int .i64),.p .bool],[],[],ZuM,ZuM,
.j 9104011 [0,9] [] ZFM [] Zvv <|
.j 914011 [0,9] [] ZFM [] Ztp <|
.j 91314011 [0,35] [] ZFM [] Zvu <|
.j 9111 [2,3,4] [] [qe0,qe0,qe0] [] Zvt <|
.nil⟩
theorem ZFv:Zeg X0.E 142 ZKD.sig:=ZKD.ok G0 Tryz.func142 ⟨ZH8,ZFw,trivial⟩ rfl rfl (by kernel_rfl)
noncomputable def ZLr:FD U:=⟨207,Tryz.f207,[],[.p (.int .i64),.p (.int .i64)],[],[.p .str],[],[],ZrO,ZrO,
.lo 94011 [0,1,5] [] [qe0,qe0,ZAH] [] 0 [5] [] [ZAH] [] ZuH Zxy (fun _=> .nil) <|
.nil⟩
theorem ZH6:Zeg X0.E 207 ZLr.sig:=ZLr.ok G0 Tryz.func207 trivial rfl rfl (by kernel_rfl)
noncomputable def ZLq:FD U:=⟨141,Tryz.f141,[ZLw.sg,ZLv.sg,ZKG.sg,ZLu.sg,ZKD.sg,ZLr.sg],[.p (.int .i64),.p .str],[],[.p .str,.p .bool],[],[],ZqT,ZqT,
.j 9141213141011 [24,25] [] ZFM [] ZtN <|
.j 913141213141011 [28] [] [qe4] [] ZtM <|
.j 91313141011 [0,6,17,31] [] [qe0,ZAH,qe0,qe4] [] Zrh <|
.j 91121313141011 [7,8,9,49] [] ZKv [] Zp4 <|
.j 9111 [] [] [] [] Zp3 <|
.nil⟩
theorem ZH5:Zeg X0.E 141 ZLq.sig:=ZLq.ok G0 Tryz.func141 ⟨ZIb,ZIa,ZFy,ZH9,ZFv,ZH6,trivial⟩ rfl rfl (by kernel_rfl)
noncomputable def ZLp:FD U:=⟨138,Tryz.f138,[D1.sg],[.p (.sl (.int .u32)),.p (.sl (.int .u32))],[],[.p (.sl (.int .u32))],[],[],Zty,Zty,
.lo 941011 [0,1,5,6] [] [qe2,qe2,ZAo,qe0] [qo1] 0 [5] [] [ZAo] [qo1] ZrT Zv4 (fun n0=> .lo 94101401541011 [0,1,5,6,7,8] [] [qe2,qe2,ZAo,qe0,qe6,qe0] [qo1] 2 [0,1,5,6,7] [] [qe2,qe2,ZAo,qe0,qe6] [qo1] ZtY (Zv5 (ZrT n0)) (fun _=> .nil) <|
.nil) <|
.nil⟩
theorem ZH4:Zeg X0.E 138 ZLp.sig:=ZLp.ok G0 Tryz.func138 ⟨ZEH,trivial⟩ rfl rfl (by kernel_rfl)
noncomputable def ZKp:FD U:=⟨90,Tryz.f90,[ZLp.sg,D2.sg],[.p (.st 2),.p (.st 2)],[],[.p (.st 2)],[],[],ZnN,ZnN,
.nil⟩
theorem ZD2:Zeg X0.E 90 ZKp.sig:=ZKp.ok G0 Tryz.func90 ⟨ZH4,ZFr,trivial⟩ rfl rfl (by kernel_rfl)
noncomputable def ZLo:FD U:=⟨136,Tryz.f136,[],[.p (.sl (.int .u32)),.p (.sl (.int .u32))],[],[.own (.int .u32)],[],[],ZrK,ZrK,
.lo 9410111 [0,1,5,6,7] [] ZKQ [qo1] 0 [5,6] [] [ZAo,qe6] [qo1] ZpL Zwd (fun n0=> .j 9105410111 [0,1,5,6,7,17] [] [qe2,qe2,ZAo,qe6,qe0,qe4] [qo1] (Zqz (ZpL n0)) <|
.j 914015410111 [0,1,5,6,7] [] ZKQ [qo1] (ZrX (ZpL n0)) <|
.j 9114015410111 [0,1,5,6,7] [] ZKQ [qo1] (ZrW (ZpL n0)) <|
.nil) <|
.nil⟩
theorem ZH3:Zeg X0.E 136 ZLo.sig:=ZLo.ok G0 Tryz.func136 trivial rfl rfl (by kernel_rfl)
noncomputable def ZKo:FD U:=⟨89,Tryz.f89,[ZLo.sg,D2.sg,D6.sg,D7.sg],[.p (.st 2),.p (.st 2)],[],[.p (.st 2)],[],[],ZpC,ZpC,
.nil⟩
theorem ZD1:Zeg X0.E 89 ZKo.sig:=ZKo.ok G0 Tryz.func89 ⟨ZH3,ZFr,ZGf,ZHP,trivial⟩ rfl rfl (by kernel_rfl)
noncomputable def ZKn:FD U:=⟨91,Tryz.f91,[D2.sg],[.p (.st 2)],[],[.p (.st 2)],[],[],Zpp,Zpp,
.nil⟩
theorem ZD0:Zeg X0.E 91 ZKn.sig:=ZKn.ok G0 Tryz.func91 ⟨ZFr,trivial⟩ rfl rfl (by kernel_rfl)
noncomputable def ZLn:FD U:=⟨144,Tryz.f144,[ZKG.sg,D3.sg,ZKp.sg,ZKo.sg,ZKn.sg,D12.sg],[.p .str],[],[.p (.st 3),.p .bool],[],[],Zrq,Zrq,
.lo 94101111 [2,4,6,8,9,27,28,29] [100008] [qe5,qe4,ZAH,ZB2,ZET,.o (.full (0,4,1)),qe0,qe0] [ZKV,ZDO,ZDO,ZIp,qo1,qo1] 0 [2,4,6,8,9] [] [qe5,qe4,ZAH,ZB2,ZET] ZKT Zr9 Zut (fun _=> .nil) <|
.lo 941011111 [2,4,8,9,43] [] [qe5,qe4,ZB2,ZET,.o (.it (0,4,1))] [ZKV,ZDO,ZDO,.sit,qo1,qo1] 2 [2,4,8,9] [] [qe5,qe4,ZB2,ZET] ZKT Zqt Zus (fun n0=> .j 91541011111 [2,4,8,9,43,45] [] [qe5,qe4,ZB2,ZET,.o (.it (0,4,1)),qe4] [ZKV,ZDO,ZDO,.sit,qo1,qo1] (Zsb (Zqt n0)) <|
.nil) <|
.j 91111111 [2,8,9] [] [qe5,ZB2,ZET] ZKT Zsa <|
.nil⟩
theorem ZH2:Zeg X0.E 144 ZLn.sig:=ZLn.ok G0 Tryz.func144 ⟨ZFy,ZHQ,ZD2,ZD1,ZD0,ZFu,trivial⟩ rfl rfl (by kernel_rfl)
noncomputable def ZLm:FD U:=⟨93,Tryz.f93,[ZLq.sg,ZKD.sg,ZKE.sg,ZLn.sg,D14.sg],[.p (.int .i64),.p .str],[],[.p (.st 3),.p .bool],[],[],Zsj,Zsj,
.j 91011 [0,4,6,26] [] [qe0,qe5,ZAH,qe4] qp1 ZsC <|
.j 911111 [4,8] [] [qe5,qe0] qp1 ZsB <|
.nil⟩
theorem ZH1:Zeg X0.E 93 ZLm.sig:=ZLm.ok G0 Tryz.func93 ⟨ZH5,ZFv,ZFw,ZH2,ZGX,trivial⟩ rfl rfl (by kernel_rfl)
noncomputable def ZLl:FD U:=⟨49,Tryz.f49,[ZLm.sg],[.p (.st 0)],[],[.p (.st 3),.p .bool],[],[],ZrN,ZrN,
.nil⟩
theorem ZH0:Zeg X0.E 49 ZLl.sig:=ZLl.ok G0 Tryz.func49 ⟨ZH1,trivial⟩ rfl rfl (by kernel_rfl)
noncomputable def ZKC:FD U:=⟨88,Tryz.f88,[D4.sg,D6.sg,D9.sg],[.p (.st 3)],[],[.p .bool],[],[],Zpo,Zpo,
.j 9101 [1,24] [] [qe5,qe4] [ZDD] Zp5 <|
.nil⟩
theorem ZFt:Zeg X0.E 88 ZKC.sig:=ZKC.ok G0 Tryz.func88 ⟨ZJ0,ZGf,ZJt,trivial⟩ rfl rfl (by kernel_rfl)
noncomputable def ZLk:FD U:=⟨46,Tryz.f46,[ZKC.sg,ZKp.sg,ZKn.sg,ZKo.sg],[.p (.st 3),.p (.st 3)],[],[.p (.int .i64)],[],[],ZtB,ZtB,
.j 9101 [2,3,13] [] [qe5,ZB2,qe4] [ZDD,ZDD] Zt4 <|
.nil⟩
theorem ZHZ:Zeg X0.E 46 ZLk.sig:=ZLk.ok G0 Tryz.func46 ⟨ZFt,ZD2,ZD0,ZD1,trivial⟩ rfl rfl (by kernel_rfl)
noncomputable def ZIq:FD U:=⟨44,Tryz.f44,[ZLk.sg],[.p (.st 3),.p (.st 3)],[],[.p .bool],[],[],Zod,Zod,
.nil⟩
theorem ZDc:Zeg X0.E 44 ZIq.sig:=ZIq.ok G0 Tryz.func44 ⟨ZHZ,trivial⟩ rfl rfl (by kernel_rfl)
noncomputable def ZLj:FD U:=⟨24,Tryz.f24,[ZLl.sg,ZIq.sg],[.p (.st 1)],[],[.own (.st 3)],[],[],Zqh,Zqh,
.lo 941011 [3,10,11,12] [] ZKw [qo8] 0 [3] [] [ZAo] [qo8] Zpz Zun (fun n0=> .lo 94011114011541011 [3,6,8,10,11,12] [] [ZAo,ZB2,qe0,ZKy,qe0,qe0] [qo8,ZDD] 2 [3,6,8,10,11,12] [] [ZAo,ZB2,qe0,ZKy,qe0,qe0] [qo8,ZDD] Zqr (Zuo (Zpz n0)) (fun n1=> .j 91054011114011541011 [3,6,8,10,11,12,35] [] [ZAo,ZB2,qe0,ZKy,qe0,qe0,qe4] [qo8,ZDD] (Zr5 (Zqr n1)) <|
.nil) <|
.j 9111541011 [3,10,11,12] [] ZKw [qo8] (Zqs (Zpz n0)) <|
.nil) <|
.nil⟩
theorem ZHY:Zeg X0.E 24 ZLj.sig:=ZLj.ok G0 Tryz.func24 ⟨ZH0,ZDc,trivial⟩ rfl rfl (by kernel_rfl)
noncomputable def ZKm:FD U:=⟨45,Tryz.f45,[D16.sg],[],[],[.p (.st 3)],[],[],ZpA,ZpA,
.nil⟩
theorem ZDZ:Zeg X0.E 45 ZKm.sig:=ZKm.ok G0 Tryz.func45 ⟨ZGW,trivial⟩ rfl rfl (by kernel_rfl)
noncomputable def ZLi:FD U:=⟨153,Tryz.f153,[D12.sg],[.p (.st 2),.p (.st 2)],[],[.p (.st 3),.p (.int .i64)],[],[],ZrS,ZrS,
.j 91011 [4,6,21] [] [qe5,ZB2,qe4] qp9 Zsw <|
.nil⟩
theorem ZHX:Zeg X0.E 153 ZLi.sig:=ZLi.ok G0 Tryz.func153 ⟨ZFu,trivial⟩ rfl rfl (by kernel_rfl)
noncomputable def ZLh:FD U:=⟨100,Tryz.f100,[ZKC.sg,ZKp.sg,ZKn.sg,ZKo.sg,ZLi.sg],[.p (.st 3),.p (.st 3)],[],[.p (.st 3),.p (.int .i64)],[],[],ZtA,ZtA,
.j 9101 [2,3,4,13] [] [qe5,ZB2,ZET,qe4] [ZDD,ZDD,qo9,qo1,qo1] Zt3 <|
.nil⟩
theorem ZHW:Zeg X0.E 100 ZLh.sig:=ZLh.ok G0 Tryz.func100 ⟨ZFt,ZD2,ZD0,ZD1,ZHX,trivial⟩ rfl rfl (by kernel_rfl)
noncomputable def ZKB:FD U:=⟨52,Tryz.f52,[ZLh.sg],[.p (.st 3),.p (.st 3)],[],[.p (.st 3)],[],[],ZrH,ZrH,
.nil⟩
theorem ZFs:Zeg X0.E 52 ZKB.sig:=ZKB.ok G0 Tryz.func52 ⟨ZHW,trivial⟩ rfl rfl (by kernel_rfl)
noncomputable def ZLg:FD U:=⟨65,Tryz.f65,[ZKm.sg,ZIq.sg,ZKB.sg],[.p (.st 3)],[],[.p (.st 3)],[],[],Ztx,Ztx,
.nil⟩
theorem ZHV:Zeg X0.E 65 ZLg.sig:=ZLg.ok G0 Tryz.func65 ⟨ZDZ,ZDc,ZFs,trivial⟩ rfl rfl (by kernel_rfl)
noncomputable def ZLf:FD U:=⟨26,Tryz.f26,[ZKm.sg,ZIq.sg,D15.sg,ZKB.sg,ZLg.sg],[.p (.sl (.st 3)),.p (.sl (.st 3))],[],[.p (.st 3),.p (.int .i64)],[],[],Zpc,Zpc,
.j 9101 [0,1,4,18] [] ZKu qp1 Zqe <|
.lo 9401111 [0,1,4,6,7,8] [] [qe7,qe7,qe5,ZB2,qe0,qe0] qp9 0 [4,6] [] [qe5,ZB2] qp9 Zn2 Zua (fun n0=> .j 9105401111 [0,1,4,6,7,8,30] [] [qe7,qe7,qe5,ZB2,qe0,qe0,qe4] qp9 (Zry (Zn2 n0)) <|
.j 9101415401111 [0,1,4,6,7,8,9,51] [] ZKS [qo9,ZDD,.box [.o (.v .bool),.o (.full (0,6,1)),.o (.v .bool),.o (.full (0,7,1))],qo1,qo1,qo1,qo1] (Zqd (Zn2 n0)) <|
.j 911415401111 [0,1,4,6,7,8,9] [] qs7 qp4 (Zqc (Zn2 n0)) <|
.lo 94011415401111 [0,1,4,6,7,8,9] [] qs7 qp4 2 [0,1,4,6,7,8,9] [] qs7 qp4 Zpn (Zuc (Zn2 n0)) (fun n1=> .j 91054011415401111 [0,1,4,6,7,8,9,72] [] ZKS qp4 (Zrx (Zpn n1)) <|
.nil) <|
.lo 940111415401111 [0,1,4,6,7,8,9] [] qs7 qp4 4 [0,1,4,6,7,8] [] [qe7,qe7,qe5,ZB2,qe0,qe0] qp9 Zpm (Zub (Zn2 n0)) (fun n1=> .j 910540111415401111 [0,1,4,6,7,8,9,87] [] ZKS qp4 (Zrw (Zpm n1)) <|
.nil) <|
.nil) <|
.nil⟩
theorem ZHU:Zeg X0.E 26 ZLf.sig:=ZLf.ok G0 Tryz.func26 ⟨ZDZ,ZDc,ZEn,ZFs,ZHV,trivial⟩ rfl rfl (by kernel_rfl)
noncomputable def ZLe:FD U:=⟨27,Tryz.f27,[D65.sg],[.p (.sl (.st 3)),.p (.sl (.st 3))],[],[.p .bool],[],[],Zp2,Zp2,
.lr 941011 [1,12,13,14] [] [qe7,qe7,qe0,qe0] [] 0 [] [] [] [] Zru Zt8 (fun _=> .nil) <|
.nil⟩
theorem ZHT:Zeg X0.E 27 ZLe.sig:=ZLe.ok G0 Tryz.func27 ⟨ZFo,trivial⟩ rfl rfl (by kernel_rfl)
noncomputable def ZLd:FD U:=⟨29,Tryz.f29,[D61.sg,D54.sg,D62.sg],[.p (.sl (.st 3)),.p (.sl (.st 3))],[],[.p (.st 3)],[],[],ZtQ,ZtQ,
.j 9101 [0,1,4,15] [] ZKu qp1 ZuD <|
.lo 9410111 [0,1,4,5,17,18,19] [] qs8 qp1 0 [0,4,5] [] [qe7,qe5,qe0] qp1 Zta Zyt (fun n0=> .j 91140115410111 [0,1,4,5,17,18,19,39] [] [qe7,qe7,qe5,qe0,qe7,qe0,qe0,qe4] qp1 (Zws (Zta n0)) <|
.j 91115410111 [0,1,4,5,17,18,19] [] qs8 qp1 (Zwr (Zta n0)) <|
.nil) <|
.nil⟩
theorem ZHS:Zeg X0.E 29 ZLd.sig:=ZLd.ok G0 Tryz.func29 ⟨ZFp,ZBs,ZGI,trivial⟩ rfl rfl (by kernel_rfl)
noncomputable def ZLc:FD U:=⟨30,Tryz.f30,[ZKm.sg,ZIq.sg,D15.sg],[.p (.sl (.st 3)),.p (.sl (.st 3))],[],[.p (.st 3)],[],[],ZpI,ZpI,
.j 9101 [0,1,4,15] [] ZKu qp1 ZqP <|
.lo 9410111 [0,1,4,5,17,18,19] [] qs8 qp1 0 [0,4,5] [] [qe7,qe5,qe0] qp1 ZpO ZuG (fun n0=> .j 91140115410111 [0,1,4,5,17,18,19,39] [] [qe7,qe7,qe5,qe0,qe7,qe0,qe0,qe4] qp1 (Zsq (ZpO n0)) <|
.j 91115410111 [0,1,4,5,17,18,19] [] qs8 qp1 (Zsp (ZpO n0)) <|
.nil) <|
.nil⟩
theorem ZHR:Zeg X0.E 30 ZLc.sig:=ZLc.ok G0 Tryz.func30 ⟨ZDZ,ZDc,ZEn,trivial⟩ rfl rfl (by kernel_rfl)
noncomputable def D146:FD U:=⟨4,Tryz.f4,[D0.sg,ZLC.sg,ZLB.sg,ZLx.sg,ZIf.sg,ZKH.sg,ZLj.sg,D63.sg,ZLf.sg,ZLe.sg,D65.sg,ZLd.sg,ZLc.sg],[.p (.st 1),.p (.st 1),.p (.sl (.int .i64))],[],[.p .bool],[],[],Zqw,Zqw,
.j 9101 [2,3,4,32] [] [.o (.v (.sl (.int .i64))),qe5,ZB2,qe4] [.boxS (.st 1),.boxS (.st 1)] Zov <|
.lr 9410111 [50,51,52] [] [ZAo,qe0,qe0] [.arr (.st 6) false] 0 [] [] [] [] Zou Zrt (fun n0=> .j 911111140115410111 [50,51,52,110] [] [ZAo,qe0,qe0,qe4] [.arr (.st 6) false] (Zn1 (Zou n0)) <|
.nil) <|
.nil⟩
theorem D146_ok:Zeg X0.E 4 D146.sig:=D146.ok G0 Tryz.func4 ⟨ZLH,ZIi,ZIh,ZIc,ZCC,ZFz,ZHY,ZGH,ZHU,ZHT,ZFo,ZHS,ZHR,trivial⟩ rfl rfl (by kernel_rfl)
end
end Go.Proofs

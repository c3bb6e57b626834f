/- Printed by wip/tools/tgen.py: walks. -/
import Derived.Test.YthefajbigloihaaGreatDoorQoU
import Derived.Test.YthefajbigloihaaGreatDoorQoX
import Derived.Test.YthefajbigloihaaGreatDoorQoWX
set_option linter.unusedVariables false
set_option linter.unusedSimpArgs false
set_option linter.unusedSectionVars false
namespace Go.Proofs
open Go Eng
set_option maxRecDepth 100000
noncomputable section
abbrev qe0:Sh:= .o (.v (.int .i64))
abbrev qe1:Sh:= .o (.v (.sl (.int .u32)))
abbrev qe2:Sh:= .o (.ptr (0,1,1) 0 0)
abbrev qo3:ShO:= .arr (.int .u32) false
abbrev qe4:Sh:= .o (.v .bool)
abbrev qe5:Sh:= .o (.v (.int .u64))
abbrev qe6:Sh:= .o (.ptr (0,2,1) 0 0)
abbrev qo7:ShO:= .arr (.st 10) false
abbrev qe8:Sh:= .o (.full (0,0,0))
abbrev qe9:Sh:= .o (.full (0,1,1))
abbrev ZKS:ShO:= .box [.o (.v (.int .i64)),.o (.v .str),.o (.full (0,3,1))]
abbrev qo11:ShO:= .box [.o (.v .bool),.o (.full (0,2,1)),.o (.v .bool),.o (.full (0,3,1))]
abbrev ZLh:ShO:= .box [.o (.v (.int .i64)),.o (.v .str),.o (.full (0,4,1))]
abbrev ZFx:ShO:= .arr (.st 3) false
abbrev ZDT:Sh:= .o (.v (.sl (.st 1)))
abbrev ZDp:ShO:= .boxS (.st 6)
abbrev ZFz:Sh:= .fn 99 [] []
abbrev ZJi:ShO:= .arr (.int .i64) false
abbrev qo18:ShO:= .box [.o (.v (.int .i64)),.o (.v (.int .i64)),.o (.v .str),.o (.full (0,4,1))]
abbrev ZFd:Sh:= .o (.v (.sl (.int .i64)))
abbrev ZFc:Sh:= .o (.v (.sl (.st 3)))
abbrev qo21:ShO:= .box [.o (.v (.int .i64)),.o (.v (.int .i64)),.o (.v .str),.o (.full (0,3,1))]
abbrev ZFy:Sh:= .o (.v (.sl (.st 6)))
abbrev ZE6:Sh:= .o (.v (.int .u32))
abbrev ZM2:ShO:= .box [.o (.v .bool),.o (.full (0,4,1)),.o (.v .bool),.o (.full (0,5,1))]
abbrev ZGM:Sh:= .o (.v (.sl (.st 10)))
abbrev ZGh:Sh:= .o (.ptr (0,0,0) 0 0)
abbrev ZFb:Sh:= .o (.v .str)
abbrev ZHP:Sh:= .o (.full (0,3,1))
abbrev ZF2:ShO:= .boxS (.st 5)
abbrev ZM1:ShO:= .box [.o (.v (.int .i64)),.o (.v .str),.o (.full (0,5,1))]
abbrev ZNq:ShO:= .box [.o (.v .bool),.o (.full (0,3,1)),.o (.v .bool),.o (.full (0,4,1))]
abbrev ZE5:ShO:= .boxS (.st 1)
abbrev ZHD:Sh:= .o (.ptr (0,3,1) 0 0)
abbrev ZKR:ShO:= .boxS (.st 7)
abbrev ZHC:Sh:= .o (.sl (0,0,0))
abbrev ZHO:ShO:= .arr (.st 1) false
abbrev ZIq:ShO:= .arr (.st 2) false
abbrev ZKT:Sh:= .o (.v (.sl (.st 2)))
abbrev ZNp:ShO:= .box [.o (.v .str),.o (.full (0,4,1))]
abbrev ZJh:ShO:= .boxS (.st 0)
abbrev qo41:ShO:= .box [.o (.v .bool),.o (.full (0,2,1))]
abbrev qo42:ShO:= .box [.o (.v .str),.o (.full (0,3,1))]
abbrev ZM3:Sh:= .o (.full (0,2,1))
abbrev ZM0:ShO:= .arr (.st 6) false
abbrev ZLi:Sh:= .fn 62 [] []
abbrev qs0:List Sh:=[qe8,qe0,ZFz,qe0,qe0]
abbrev qs1:List Sh:=[qe8,qe0,qe0,ZFz,qe0,qe0]
abbrev qs2:List Sh:=[qe8,qe0,ZFz,qe0,qe0,qe4]
abbrev qs3:List Sh:=[ZDT,ZGM,qe0,qe0,qe2,qe0,qe6,qe4,ZFy,qe0,qe0,ZFc,qe0,qe0,ZGM,qe0,qe0]
abbrev qp4:List ShO:=[ZDp,ZKR,ZJi]
abbrev qs5:List Sh:=[qe1,qe1,qe0]
abbrev qp6:List ShO:=[ZF2,qo21,qo18,ZJi,ZJi]
abbrev qs7:List Sh:=[qe8,qe0,qe0,ZFz,qe0,qe0,qe4]
abbrev qp8:List ShO:=[qo11,qo3,qo3]
abbrev qs9:List Sh:=[qe2,qe6,ZHP,qe0,qe0,qe4,qe0,qe0]
abbrev ZLg:List ShO:=[ZKS,ZLh,ZFx,ZFx]
abbrev qs11:List Sh:=[ZDT,ZGM,qe0,qe0,qe2,ZFy,qe0,qe0,ZFc,qe0,qe0]
abbrev qs12:List Sh:=[qe2,qe6,ZHP,qe0,qe0,qe4,qe0,qe0,ZHP,qe0,qe0]
abbrev qs13:List Sh:=[qe0,ZDT,qe9,qe6,ZFy,qe0,qe0,ZFc,qe0,qe0]
abbrev qs14:List Sh:=[qe8,qe0,qe0,qe0,ZFz,qe4,qe4,qe0,qe0,qe4]
abbrev qs15:List Sh:=[qe5,qe5,qe5,qe5,qe5,qe5,qe5,qe5,qe5,qe4]
abbrev ZKQ:List Sh:=[qe2,qe6,qe4]
abbrev qs17:List Sh:=[qe5,qe5,qe5,qe5,qe5,qe5,qe5,qe5,qe5]
abbrev ZLf:List ShO:=[ZDp,ZKS,ZFx]
abbrev ZNo:List ShO:=[ZF2,ZKS,ZLh,ZFx,ZFx]
abbrev ZNn:List Sh:=[qe8,qe0,qe0,ZFz,qe0]
abbrev ZJg:List Sh:=[ZFb,qe4]
abbrev ZNm:List Sh:=[qe1,qe1,qe9,qe5,qe0]
noncomputable def D0:FD U:=⟨11,Tryz.f11,[],[.p (.sl (.int .i64))],[],[.p .bool],[],[],Zwq,Zwq,
.nil⟩
theorem ZOK:Zeg X0.E 11 D0.sig:=D0.ok G0 Tryz.func11 trivial rfl rfl (by kernel_rfl)
noncomputable def D1:FD U:=⟨201,Tryz.f201,[],[.p (.sl (.int .u32))],[],[.p (.sl (.int .u32))],[],[],Zoi,Zoi,
.lo 9401 [0] [] [qe1] [] 0 [0] [] [qe1] [] Zpq ZzG (fun n0=> .j 9105401 [0,14] [] [qe1,qe4] [] (ZwD (Zpq n0)) <|
.nil) <|
.nil⟩
theorem ZGw:Zeg X0.E 201 D1.sig:=D1.ok G0 Tryz.func201 trivial rfl rfl (by kernel_rfl)
noncomputable def D2:FD U:=⟨135,Tryz.f135,[D1.sg],[.p .bool,.p (.sl (.int .u32))],[],[.p (.st 0)],[],[],Zn4,Zn4,
.j 9111 [4] [] [qe2] [ZJh] ZuB <|
.nil⟩
theorem ZHn:Zeg X0.E 135 D2.sig:=D2.ok G0 Tryz.func135 ⟨ZGw,trivial⟩ rfl rfl (by kernel_rfl)
noncomputable def D3:FD U:=⟨140,Tryz.f140,[D2.sg],[.p (.int .i64)],[],[.p (.st 0)],[],[],Zpr,Zpr,
.j 9111 [0,2,3] [] [qe0,qe2,qe5] [qo41,qo3] ZsC <|
.nil⟩
theorem ZME:Zeg X0.E 140 D3.sig:=D3.ok G0 Tryz.func140 ⟨ZHn,trivial⟩ rfl rfl (by kernel_rfl)
noncomputable def D4:FD U:=⟨132,Tryz.f132,[],[.p (.st 0)],[],[.p .bool],[],[],Zo6,Zo6,
.j 9111 [2] [] [qe4] [] ZoH <|
.nil⟩
theorem ZMA:Zeg X0.E 132 D4.sig:=D4.ok G0 Tryz.func132 trivial rfl rfl (by kernel_rfl)
noncomputable def D5:FD U:=⟨199,Tryz.f199,[D1.sg],[.p (.sl (.int .u32))],[],[.p (.sl (.int .u32))],[],[],Zpz,Zpz,
.lo 941011 [0,3,9,10] [] [qe1,qe9,qe0,qe0] [qo3] 0 [3] [] [qe9] [qo3] Zry ZwE (fun n0=> .j 9111541011 [0,3,9,10] [] [qe1,qe9,qe0,qe0] [qo3] (Zrz (Zry n0)) <|
.nil) <|
.nil⟩
theorem ZNL:Zeg X0.E 199 D5.sig:=D5.ok G0 Tryz.func199 ⟨ZGw,trivial⟩ rfl rfl (by kernel_rfl)
noncomputable def D6:FD U:=⟨133,Tryz.f133,[],[.p (.sl (.int .u32)),.p (.sl (.int .u32))],[],[.p (.int .i64)],[],[],ZoR,ZoR,
.lr 941011 [0,1,5] [] qs5 [] 0 [] [] [] [] ZuA Zxc (fun _=> .nil) <|
.nil⟩
theorem ZIh:Zeg X0.E 133 D6.sig:=D6.ok G0 Tryz.func133 trivial rfl rfl (by kernel_rfl)
noncomputable def D7:FD U:=⟨137,Tryz.f137,[D1.sg],[.p (.sl (.int .u32)),.p (.sl (.int .u32))],[],[.p (.sl (.int .u32))],[],[],ZpP,ZpP,
.lo 9410111 [0,1,5,6,7] [] [qe1,qe1,qe9,qe0,qe0] [qo3] 0 [5] [] [qe9] [qo3] Zsb Zw3 (fun n0=> .j 9114015410111 [0,1,5,6,7] [] [qe1,qe1,qe9,qe0,qe0] [qo3] (Zsc (Zsb n0)) <|
.nil) <|
.nil⟩
theorem ZJR:Zeg X0.E 137 D7.sig:=D7.ok G0 Tryz.func137 ⟨ZGw,trivial⟩ rfl rfl (by kernel_rfl)
noncomputable def D8:FD U:=⟨200,Tryz.f200,[D1.sg],[.p (.sl (.int .u32)),.p (.int .u32)],[],[.p (.sl (.int .u32))],[],[],Zq1,Zq1,
.lo 941011 [0,1,5,6] [] [qe1,ZE6,qe9,qe0] [qo3] 0 [1,5] [] [ZE6,qe9] [qo3] Ztc Zv1 (fun _=> .nil) <|
.nil⟩
theorem ZMf:Zeg X0.E 200 D8.sig:=D8.ok G0 Tryz.func200 ⟨ZGw,trivial⟩ rfl rfl (by kernel_rfl)
noncomputable def D9:FD U:=⟨134,Tryz.f134,[D5.sg,D6.sg,D7.sg,D8.sg],[.p (.sl (.int .u32)),.p (.sl (.int .u32))],[],[.p (.sl (.int .u32))],[],[],ZrZ,ZrZ,
.lo 94011 [0,1,5] [] qs5 [] 0 [0,1,5] [] qs5 [] ZqG Zxa (fun n0=> .j 91054011 [0,1,5,17] [] [qe1,qe1,qe0,qe4] [] (Zuz (ZqG n0)) <|
.nil) <|
.lo 940111 [0,1,5] [] qs5 [] 2 [0,5] [] [qe1,qe0] [] Zn7 Zw7 (fun n0=> .lo 94041540111 [0,1,5] [] qs5 [] 4 [0,1,5] [] qs5 [] Zo1 (Zw9 (Zn7 n0)) (fun _=> .nil) <|
.lo 940141540111 [0,1,5] [] qs5 [] 6 [0,1,5] [] qs5 [] Zo0 (Zw8 (Zn7 n0)) (fun _=> .nil) <|
.j 911141540111 [0,1,5] [] qs5 [] (Zuy (Zn7 n0)) <|
.nil) <|
.lo 9401111 [0,5] [] [qe1,qe0] [] 8 [0] [] [qe1] [] ZqF Zw6 (fun _=> .nil) <|
.nil⟩
theorem ZL8:Zeg X0.E 134 D9.sig:=D9.ok G0 Tryz.func134 ⟨ZNL,ZIh,ZJR,ZMf,trivial⟩ rfl rfl (by kernel_rfl)
noncomputable def D10:FD U:=⟨315,Tryz.f315,[],[.p (.sl (.int .u32)),.p (.int .i64)],[],[.p (.int .u32)],[],[],Zt6,Zt6,
.nil⟩
theorem ZMX:Zeg X0.E 315 D10.sig:=D10.ok G0 Tryz.func315 trivial rfl rfl (by kernel_rfl)
noncomputable def D11:FD U:=⟨262,Tryz.f262,[D10.sg,D8.sg,D6.sg,D7.sg,D1.sg],[.p (.sl (.int .u32)),.p (.sl (.int .u32))],[],[.p (.sl (.int .u32)),.p (.sl (.int .u32))],[],[],Zr0,Zr0,
.lo 941011 [0,1,4,5,6] [5] [qe1,qe1,qe9,qe1,qe0] [qo3] 0 [4,5] [] [qe9,qe1] [qo3] Zsf Zxb (fun n0=> .j 911541011 [0,1,4,5,6] [] [qe1,qe1,qe9,qe1,qe0] [qo3] (Zsg (Zsf n0)) <|
.nil) <|
.nil⟩
theorem ZMW:Zeg X0.E 262 D11.sig:=D11.ok G0 Tryz.func262 ⟨ZMX,ZMf,ZIh,ZJR,ZGw,trivial⟩ rfl rfl (by kernel_rfl)
noncomputable def D12:FD U:=⟨202,Tryz.f202,[D3.sg,D9.sg,D11.sg,D2.sg],[.p (.st 0),.p (.st 0)],[],[.p (.st 1)],[],[],ZqE,ZqE,
.nil⟩
theorem ZIY:Zeg X0.E 202 D12.sig:=D12.ok G0 Tryz.func202 ⟨ZME,ZL8,ZMW,ZHn,trivial⟩ rfl rfl (by kernel_rfl)
noncomputable def D13:FD U:=⟨139,Tryz.f139,[D4.sg,D12.sg],[.p (.st 0),.p (.st 0)],[],[.p (.st 1),.p (.int .i64)],[],[],Ztj,Ztj,
.j 9101 [2,3,4,13] [] [qe2,qe6,ZHD,qe4] [ZJh,ZJh,ZM2,qo3,qo3] ZtW <|
.nil⟩
theorem ZMU:Zeg X0.E 139 D13.sig:=D13.ok G0 Tryz.func139 ⟨ZMA,ZIY,trivial⟩ rfl rfl (by kernel_rfl)
noncomputable def D14:FD U:=⟨92,Tryz.f92,[D3.sg,D13.sg],[.p (.int .i64),.p (.int .i64)],[],[.p (.st 1),.p (.int .i64)],[],[],ZuP,ZuP,
.nil⟩
theorem ZMT:Zeg X0.E 92 D14.sig:=D14.ok G0 Tryz.func92 ⟨ZME,ZMU,trivial⟩ rfl rfl (by kernel_rfl)
noncomputable def D15:FD U:=⟨48,Tryz.f48,[D14.sg],[.p (.int .i64),.p (.int .i64)],[],[.p (.st 1)],[],[],Zqk,Zqk,
.nil⟩
theorem ZIX:Zeg X0.E 48 D15.sig:=D15.ok G0 Tryz.func48 ⟨ZMT,trivial⟩ rfl rfl (by kernel_rfl)
noncomputable def D16:FD U:=⟨47,Tryz.f47,[D15.sg],[.p (.int .i64)],[],[.p (.st 1)],[],[],Zyq,ZnR,
.nil⟩
theorem ZHo:Zeg X0.E 47 D16.sig:=D16.ok G0 Tryz.func47 ⟨ZIX,trivial⟩ rfl (by funext x_;exact ZCi _) (by kernel_rfl)
noncomputable def D17:FD U:=⟨106,Tryz.f106,[],[.p (.int .u64),.p (.int .u64)],[],[.p (.int .u64),.p (.int .u64)],[],[],ZAL,ZAL,
.nil⟩
theorem ZMS:Zeg X0.E 106 D17.sig:=D17.ok G0 Tryz.func106 trivial rfl rfl (by kernel_rfl)
noncomputable def D19:FD U:=⟨174,Tryz.f174,[],[.p (.int .u64)],[],[.p (.int .i64)],[],[],ZzA,ZzA,
.j 911 [0,2] [] [qe5,qe0] [] ZzQ <|
.j 9111 [0,2] [] [qe5,qe0] [] ZzP <|
.j 91111 [0,2] [] [qe5,qe0] [] ZzO <|
.nil⟩
theorem ZIW:Zeg X0.E 174 D19.sig:=D19.ok G0 Tryz.func174 trivial rfl rfl (by kernel_rfl)
noncomputable def D20:FD U:=⟨162,Tryz.f162,[D19.sg],[.p (.int .u64)],[],[.p (.int .i64)],[],[],ZwI,ZwI,
.nil⟩
theorem ZMR:Zeg X0.E 162 D20.sig:=D20.ok G0 Tryz.func162 ⟨ZIW,trivial⟩ rfl rfl (by kernel_rfl)
noncomputable def D21:FD U:=⟨108,Tryz.f108,[D20.sg],[.p (.int .u64),.p (.int .u64),.p (.int .u64)],[],[.p (.int .u64),.p (.int .u64)],[],[],ZAM,ZAM,
.lo 94011111111111111 [2,8,9,10,11,13,14,15,16] [] qs17 [] 0 [2,8,9,10,11,13,14,15] [] [qe5,qe5,qe5,qe5,qe5,qe5,qe5,qe5] [] Zxt ZBp (fun n0=> .j 91054011111111111111 [2,8,9,10,11,13,14,15,16,78] [] qs15 [] (ZzS (Zxt n0)) <|
.nil) <|
.lo 940111111111111111111 [2,8,9,10,14,15,16,17,18] [] qs17 [] 2 [2,8,14,15,17,18] [] [qe5,qe5,qe5,qe5,qe5,qe5] [] Zxs ZBo (fun n0=> .j 910540111111111111111111 [2,8,9,10,14,15,16,17,18,113] [] qs15 [] (ZzR (Zxs n0)) <|
.nil) <|
.nil⟩
theorem ZMQ:Zeg X0.E 108 D21.sig:=D21.ok G0 Tryz.func108 ⟨ZMR,trivial⟩ rfl rfl (by kernel_rfl)
noncomputable def D22:FD U:=⟨109,Tryz.f109,[],[.p (.st 1)],[],[.p (.st 1)],[],[],ZD2,ZD2,
.nil⟩
theorem ZMP:Zeg X0.E 109 D22.sig:=D22.ok G0 Tryz.func109 trivial rfl rfl (by kernel_rfl)
noncomputable def D23:FD U:=⟨59,Tryz.f59,[D17.sg,(107,ZB3.sig),D21.sg,D22.sg],[.p (.sl (.st 1)),.p (.int .i64),.p (.int .i64)],[],[.p (.st 1),.p (.int .i64)],[],[],ZAo,ZAo,
.j 91401 [0,1,2,6,13] [] [ZDT,qe0,qe0,qe2,qe4] qp8 ZyI <|
.nil⟩
theorem ZMO:Zeg X0.E 59 D23.sig:=D23.ok G0 Tryz.func59 ⟨ZMS,ZCN,ZMQ,ZMP,trivial⟩ rfl rfl (by kernel_rfl)
noncomputable def D24:FD U:=⟨218,Tryz.f218,[],[.p (.st 0)],[],[.p .bool],[],[],Zus,Zus,
.j 9111 [2] [] [qe4] [] ZpQ <|
.nil⟩
theorem ZMN:Zeg X0.E 218 D24.sig:=D24.ok G0 Tryz.func218 trivial rfl rfl (by kernel_rfl)
noncomputable def D25:FD U:=⟨154,Tryz.f154,[D24.sg],[.p (.sl (.st 0))],[],[.p .bool],[],[],ZxP,ZxP,
.lr 94101 [5,6,7] [] [.o (.v (.sl (.st 0))),qe0,qe0] [] 0 [] [] [] [] ZyK ZB6 (fun _=> .nil) <|
.nil⟩
theorem ZIV:Zeg X0.E 154 D25.sig:=D25.ok G0 Tryz.func154 ⟨ZMN,trivial⟩ rfl rfl (by kernel_rfl)
noncomputable def D26:FD U:=⟨287,Tryz.f287,[],[.p (.int .i64)],[],[.p .bool],[],[],ZxQ,ZxQ,
.nil⟩
theorem ZMM:Zeg X0.E 287 D26.sig:=D26.ok G0 Tryz.func287 trivial rfl rfl (by kernel_rfl)
noncomputable def D27:FD U:=⟨220,Tryz.f220,[D26.sg],[.p (.int .i64),.p (.int .i64)],[],[.p (.int .i64)],[],[],Zru,Zru,
.nil⟩
theorem ZIU:Zeg X0.E 220 D27.sig:=D27.ok G0 Tryz.func220 ⟨ZMM,trivial⟩ rfl rfl (by kernel_rfl)
noncomputable def D28:FD U:=⟨288,Tryz.f288,[],[.p (.int .u32)],[],[.p .bool],[],[],ZyL,ZyL,
.nil⟩
theorem ZML:Zeg X0.E 288 D28.sig:=D28.ok G0 Tryz.func288 trivial rfl rfl (by kernel_rfl)
noncomputable def D29:FD U:=⟨221,Tryz.f221,[D28.sg],[.p (.int .u32),.p (.int .u32)],[],[.p (.int .i64)],[],[],Zxy,Zxy,
.nil⟩
theorem ZMK:Zeg X0.E 221 D29.sig:=D29.ok G0 Tryz.func221 ⟨ZML,trivial⟩ rfl rfl (by kernel_rfl)
noncomputable def D30:FD U:=⟨156,Tryz.f156,[D27.sg,D29.sg],[.p (.sl (.int .u32)),.p (.sl (.int .u32))],[],[.p (.int .i64)],[],[],Zpg,Zpg,
.lr 941011 [0,1,6] [] qs5 [] 0 [] [] [] [] ZtE Zwk (fun _=> .nil) <|
.nil⟩
theorem ZHm:Zeg X0.E 156 D30.sig:=D30.ok G0 Tryz.func156 ⟨ZIU,ZMK,trivial⟩ rfl rfl (by kernel_rfl)
noncomputable def D31:FD U:=⟨282,Tryz.f282,[],[.p (.sl (.int .u32))],[],[.own (.int .u32)],[],[],Zo2,Zo2,
.j 9101 [0,4] [] [qe1,qe4] [] ZnT <|
.nil⟩
theorem ZIT:Zeg X0.E 282 D31.sig:=D31.ok G0 Tryz.func282 trivial rfl rfl (by kernel_rfl)
noncomputable def D32:FD U:=⟨325,Tryz.f325,[],[.p (.int .u32),.p (.int .u32),.p (.int .u32)],[],[.p (.int .u32),.p (.int .u32)],[],[],ZxL,ZxL,
.j 9101 [0,1,2,15] [] [ZE6,ZE6,ZE6,qe4] [] ZvA <|
.nil⟩
theorem ZMJ:Zeg X0.E 325 D32.sig:=D32.ok G0 Tryz.func325 trivial rfl rfl (by kernel_rfl)
noncomputable def D33:FD U:=⟨252,Tryz.f252,[],[.p (.sl (.int .u32))],[],[.p (.sl (.int .u32))],[],[],Zot,Zot,
.lo 9401 [0] [] [qe1] [] 0 [0] [] [qe1] [] Zqe Zzd (fun n0=> .j 9105401 [0,14] [] [qe1,qe4] [] (ZwT (Zqe n0)) <|
.nil) <|
.nil⟩
theorem ZEL:Zeg X0.E 252 D33.sig:=D33.ok G0 Tryz.func252 trivial rfl rfl (by kernel_rfl)
noncomputable def D34:FD U:=⟨283,Tryz.f283,[D32.sg,D33.sg],[.p (.sl (.int .u32)),.p (.int .u32)],[],[.p (.sl (.int .u32)),.p (.int .u32)],[],[],Zuj,Zuj,
.lo 9410111 [0,1,6,7,8] [] [qe1,ZE6,qe9,ZE6,qe0] [qo3] 0 [6,7] [] [qe9,ZE6] [qo3] ZuI Zxi (fun _=> .nil) <|
.nil⟩
theorem ZMI:Zeg X0.E 283 D34.sig:=D34.ok G0 Tryz.func283 ⟨ZMJ,ZEL,trivial⟩ rfl rfl (by kernel_rfl)
noncomputable def D35:FD U:=⟨173,Tryz.f173,[],[.p (.int .u32)],[],[.p (.int .i64)],[],[],ZxK,ZxK,
.j 911 [0,2] [] [ZE6,qe0] [] Zxr <|
.j 9111 [0,2] [] [ZE6,qe0] [] ZtI <|
.nil⟩
theorem ZMH:Zeg X0.E 173 D35.sig:=D35.ok G0 Tryz.func173 trivial rfl rfl (by kernel_rfl)
noncomputable def D36:FD U:=⟨284,Tryz.f284,[D35.sg],[.p (.int .u32)],[],[.p (.int .i64)],[],[],ZrK,ZrK,
.nil⟩
theorem ZMG:Zeg X0.E 284 D36.sig:=D36.ok G0 Tryz.func284 ⟨ZMH,trivial⟩ rfl rfl (by kernel_rfl)
noncomputable def D37:FD U:=⟨285,Tryz.f285,[],[.p (.sl (.int .u32)),.p (.int .i64)],[],[.own (.int .u32)],[],[],Zp7,Zp7,
.lo 941011 [1,5,13,14,15] [] [qe0,qe9,qe1,qe0,qe0] [qo3] 0 [5] [] [qe9] [qo3] ZtC Zwi (fun _=> .nil) <|
.nil⟩
theorem ZMF:Zeg X0.E 285 D37.sig:=D37.ok G0 Tryz.func285 trivial rfl rfl (by kernel_rfl)
noncomputable def D38:FD U:=⟨253,Tryz.f253,[],[.p (.int .u32),.p (.int .u32),.p (.int .u32)],[],[.p (.int .u32),.p (.int .u32)],[],[],Zuo,Zuo,
.nil⟩
theorem ZIS:Zeg X0.E 253 D38.sig:=D38.ok G0 Tryz.func253 trivial rfl rfl (by kernel_rfl)
noncomputable def D39:FD U:=⟨250,Tryz.f250,[],[.p (.int .u32),.p (.int .u32),.p (.int .u32)],[],[.p (.int .u32),.p (.int .u32)],[],[],ZvU,ZvU,
.nil⟩
theorem ZIR:Zeg X0.E 250 D39.sig:=D39.ok G0 Tryz.func250 trivial rfl rfl (by kernel_rfl)
noncomputable def D40:FD U:=⟨286,Tryz.f286,[D38.sg,D39.sg],[.part (.int .u32),.p (.sl (.int .u32))],[(0,.arr (.int .u32))],[.p (.int .u32)],[],[],ZzZ,ZyJ,
.lo 94011111 [0,1,5,7,8] [] [ZHC,qe1,qe0,qe5,qe5] [qo3] 0 [0,1,5,7] [] [ZHC,qe1,qe0,qe5] [qo3] Zuq Zx6 (fun n0=> .j 91054011111 [0,1,5,7,8,71] [] [ZHC,qe1,qe0,qe5,qe5,qe4] [qo3] (Zwm (Zuq n0)) <|
.nil) <|
.lo 941011111111 [0,1,5,7,9,10,82,83,84] [] [ZHC,qe1,qe0,qe5,ZE6,qe5,qe1,qe0,qe0] [qo3] 2 [0,1,5,7,9,10] [] [ZHC,qe1,qe0,qe5,ZE6,qe5] [qo3] Zx4 Zz3 (fun _=> .nil) <|
.lo 941011111111111 [0,5,7,13,130,131,132] [] [ZHC,qe0,qe5,ZE6,qe1,qe0,qe0] [qo3] 4 [0,5,7,13] [] [ZHC,qe0,qe5,ZE6] [qo3] Zwl Zx5 (fun _=> .nil) <|
.nil⟩
theorem ZMD:Zeg X0.E 286 D40.sig:=D40.okA G0 Tryz.func286 ⟨ZIS,ZIR,trivial⟩ (by kernel_rfl) (by kernel_rfl)
noncomputable def D41:FD U:=⟨252,Tryz.f252,[],[.part (.int .u32)],[(0,.arr (.int .u32))],[.view 0],[],[],Zxu,Zws,
.lo 9401 [0] [] [ZHC] [qo3] 0 [0] [] [ZHC] [qo3] ZtF Zx3 (fun n0=> .j 9105401 [0,14] [] [ZHC,qe4] [qo3] (ZvR (ZtF n0)) <|
.nil) <|
.nil⟩
theorem ZMC:Zeg X0.E 252 D41.sig:=D41.okA G0 Tryz.func252 trivial (by kernel_rfl) (by kernel_rfl)
noncomputable def D42:FD U:=⟨251,Tryz.f251,[],[.p (.sl (.int .u32)),.p (.int .i64)],[],[.p (.int .u32)],[],[],ZsO,ZsO,
.nil⟩
theorem ZIQ:Zeg X0.E 251 D42.sig:=D42.ok G0 Tryz.func251 trivial rfl rfl (by kernel_rfl)
noncomputable def D43:FD U:=⟨251,Tryz.f251,[],[.part (.int .u32),.p (.int .i64)],[(0,.arr (.int .u32))],[.p (.int .u32)],[],[],Zzc,ZvP,
.nil⟩
theorem ZMB:Zeg X0.E 251 D43.sig:=D43.okA G0 Tryz.func251 trivial (by kernel_rfl) (by kernel_rfl)
noncomputable def D44:FD U:=⟨219,Tryz.f219,[D30.sg,D31.sg,D34.sg,D33.sg,D36.sg,D37.sg,D40.sg,D41.sg,D43.sg],[.p (.sl (.int .u32)),.p (.sl (.int .u32))],[],[.p (.sl (.int .u32)),.p (.sl (.int .u32))],[],[(84,7)],Zre,Zre,
.lo 9410111111 [8,9,10,11,12,13] [11] [qe0,qe0,qe9,qe1,ZM3,qe0] [qo3,qo3] 1 [8,9,10,12] [] [qe0,qe0,qe9,ZM3] [qo3,qo3] ZsW ZxO (fun _=> .nil) <|
.lo 941011111111 [9,12,14,86,87] [] [qe0,qe9,.o (.sl (0,2,1)),qe0,qe0] [qo3,qo3] 3 [12,14] [] [qe9,.o (.sl (0,2,1))] [qo3,qo3] ZsV ZxN (fun _=> .nil) <|
.nil⟩
theorem ZIP:Zeg X0.E 219 D44.sig:=D44.ok G0 Tryz.func219 ⟨ZHm,ZIT,ZMI,ZEL,ZMG,ZMF,ZMD,ZMC,ZMB,trivial⟩ rfl rfl (by kernel_rfl)
noncomputable def D45:FD U:=⟨155,Tryz.f155,[D44.sg],[.p (.sl (.int .u32)),.p (.sl (.int .u32))],[],[.p (.sl (.int .u32))],[],[],Zrt,Zrt,
.lo 9401 [0,1] [] [qe1,qe1] [] 0 [0] [] [qe1] [] Zpx ZwN (fun _=> .nil) <|
.nil⟩
theorem ZIO:Zeg X0.E 155 D45.sig:=D45.ok G0 Tryz.func155 ⟨ZIP,trivial⟩ rfl rfl (by kernel_rfl)
noncomputable def D46:FD U:=⟨101,Tryz.f101,[D25.sg,D45.sg,D30.sg],[.p (.st 1)],[],[.p .bool],[],[],Zrf,Zrf,
.j 911 [2] [] [qe4] [] Zur <|
.nil⟩
theorem ZHl:Zeg X0.E 101 D46.sig:=D46.ok G0 Tryz.func101 ⟨ZIV,ZIO,ZHm,trivial⟩ rfl rfl (by kernel_rfl)
noncomputable def D47:FD U:=⟨178,Tryz.f178,[D33.sg],[.p (.sl (.int .u32)),.p (.sl (.int .u32))],[],[.p (.sl (.int .u32))],[],[],ZqP,ZqP,
.lo 941011 [1,5,17,18,19] [] [qe1,qe9,qe1,qe0,qe0] [qo3] 0 [5] [] [qe9] [qo3] Zss Zxg (fun n0=> .lo 9410114011541011 [1,5,6,7,8,17,18,19,24,25,26] [] [qe1,qe9,qe0,ZE6,qe5,qe1,qe0,qe0,qe1,qe0,qe0] [qo3] 2 [1,5,6,8,17,18,19] [] [qe1,qe9,qe0,qe5,qe1,qe0,qe0] [qo3] ZuH (Zxh (Zss n0)) (fun _=> .nil) <|
.nil) <|
.nil⟩
theorem ZIN:Zeg X0.E 178 D47.sig:=D47.ok G0 Tryz.func178 ⟨ZEL,trivial⟩ rfl rfl (by kernel_rfl)
noncomputable def D48:FD U:=⟨175,Tryz.f175,[],[.p .bool,.p (.sl (.int .u32))],[],[.p (.st 0)],[],[],ZoQ,ZoQ,
.j 911 [4] [] [qe2] [qo41,qo3] Zxv <|
.nil⟩
theorem ZFw:Zeg X0.E 175 D48.sig:=D48.ok G0 Tryz.func175 trivial rfl rfl (by kernel_rfl)
noncomputable def D49:FD U:=⟨114,Tryz.f114,[D47.sg,D48.sg],[.p (.st 0),.p (.st 0)],[],[.p (.st 0)],[],[],Zou,Zou,
.nil⟩
theorem ZIM:Zeg X0.E 114 D49.sig:=D49.ok G0 Tryz.func114 ⟨ZIN,ZFw,trivial⟩ rfl rfl (by kernel_rfl)
noncomputable def D50:FD U:=⟨115,Tryz.f115,[],[.p (.st 0)],[],[.p (.st 0)],[],[],ZsP,ZsP,
.j 911 [2] [] [qe2] [ZJh] Zwt <|
.nil⟩
theorem ZIL:Zeg X0.E 115 D50.sig:=D50.ok G0 Tryz.func115 trivial rfl rfl (by kernel_rfl)
noncomputable def D51:FD U:=⟨176,Tryz.f176,[D42.sg,D39.sg,D33.sg],[.p (.sl (.int .u32)),.p (.sl (.int .u32))],[],[.p (.sl (.int .u32))],[],[],ZsU,ZsU,
.lo 9410111 [0,1,5,6,20,21] [] [qe1,qe1,qe9,ZE6,qe0,qe0] [qo3] 0 [5,6] [] [qe9,ZE6] [qo3] Zu5 ZxM (fun _=> .nil) <|
.nil⟩
theorem ZIK:Zeg X0.E 176 D51.sig:=D51.ok G0 Tryz.func176 ⟨ZIQ,ZIR,ZEL,trivial⟩ rfl rfl (by kernel_rfl)
noncomputable def D52:FD U:=⟨177,Tryz.f177,[D42.sg,D38.sg,D33.sg],[.p (.sl (.int .u32)),.p (.sl (.int .u32))],[],[.p (.sl (.int .u32))],[],[],Zr3,Zr3,
.lo 9410111 [0,1,5,6,12,13] [] [qe1,qe1,qe9,ZE6,qe0,qe0] [qo3] 0 [5] [] [qe9] [qo3] ZuJ Zxj (fun _=> .nil) <|
.nil⟩
theorem ZMz:Zeg X0.E 177 D52.sig:=D52.ok G0 Tryz.func177 ⟨ZIQ,ZIS,ZEL,trivial⟩ rfl rfl (by kernel_rfl)
noncomputable def D53:FD U:=⟨113,Tryz.f113,[D51.sg,D48.sg,D30.sg,D52.sg],[.p (.st 0),.p (.st 0)],[],[.p (.st 0)],[],[],Zxl,Zxl,
.nil⟩
theorem ZIJ:Zeg X0.E 113 D53.sig:=D53.ok G0 Tryz.func113 ⟨ZIK,ZFw,ZHm,ZMz,trivial⟩ rfl rfl (by kernel_rfl)
noncomputable def D54:FD U:=⟨62,Tryz.f62,[D46.sg,D49.sg,D50.sg,D53.sg],[.p (.st 1),.p (.st 1)],[],[.p (.int .i64)],[],[],ZuK,ZuK,
.j 9101 [2,3,13] [] ZKQ [ZE5,ZE5] ZzD <|
.nil⟩
theorem ZFv:Zeg X0.E 62 D54.sig:=D54.ok G0 Tryz.func62 ⟨ZHl,ZIM,ZIL,ZIJ,trivial⟩ rfl rfl (by kernel_rfl)
noncomputable def D55:FD U:=⟨63,Tryz.f63,[D54.sg],[.p (.sl (.st 1)),.p (.int .i64),.p (.st 1)],[],[.p (.int .i64)],[],[],ZxH,ZxH,
.lo 9401 [0,1,5] [] [ZDT,qe0,qe2] [ZE5] 0 [1] [] [qe0] [] ZwR ZAn (fun n0=> .j 9105401 [0,1,5,19] [] [ZDT,qe0,qe2,qe4] [ZE5] (ZyH (ZwR n0)) <|
.nil) <|
.nil⟩
theorem ZMy:Zeg X0.E 63 D55.sig:=D55.ok G0 Tryz.func63 ⟨ZFv,trivial⟩ rfl rfl (by kernel_rfl)
noncomputable def D56:FD U:=⟨255,Tryz.f255,[D33.sg],[.p (.int .u64)],[],[.p (.sl (.int .u32))],[],[],ZtG,ZtG,
.nil⟩
theorem ZII:Zeg X0.E 255 D56.sig:=D56.ok G0 Tryz.func255 ⟨ZEL,trivial⟩ rfl rfl (by kernel_rfl)
noncomputable def D57:FD U:=⟨180,Tryz.f180,[D56.sg,D48.sg],[.p (.int .i64)],[],[.p (.st 0)],[],[],Zu6,Zu6,
.nil⟩
theorem ZMx:Zeg X0.E 180 D57.sig:=D57.ok G0 Tryz.func180 ⟨ZII,ZFw,trivial⟩ rfl rfl (by kernel_rfl)
noncomputable def D58:FD U:=⟨254,Tryz.f254,[D45.sg,D44.sg,D48.sg],[.p (.st 0),.p (.st 0)],[],[.p (.st 1)],[],[],ZrW,ZrW,
.nil⟩
theorem ZHk:Zeg X0.E 254 D58.sig:=D58.ok G0 Tryz.func254 ⟨ZIO,ZIP,ZFw,trivial⟩ rfl rfl (by kernel_rfl)
noncomputable def D59:FD U:=⟨179,Tryz.f179,[D25.sg,D58.sg],[.p (.st 0),.p (.st 0)],[],[.p (.st 1),.p (.int .i64)],[],[],Zzh,Zzh,
.nil⟩
theorem ZMw:Zeg X0.E 179 D59.sig:=D59.ok G0 Tryz.func179 ⟨ZIV,ZHk,trivial⟩ rfl rfl (by kernel_rfl)
noncomputable def D60:FD U:=⟨116,Tryz.f116,[D57.sg,D59.sg],[.p (.int .i64),.p (.int .i64)],[],[.p (.st 1),.p (.int .i64)],[],[],ZzC,ZzC,
.nil⟩
theorem ZIH:Zeg X0.E 116 D60.sig:=D60.ok G0 Tryz.func116 ⟨ZMx,ZMw,trivial⟩ rfl rfl (by kernel_rfl)
noncomputable def D61:FD U:=⟨67,Tryz.f67,[D60.sg],[],[],[.p (.st 1)],[],[],ZAK,ZAK,
.nil⟩
theorem ZHj:Zeg X0.E 67 D61.sig:=D61.ok G0 Tryz.func67 ⟨ZIH,trivial⟩ rfl rfl (by kernel_rfl)
noncomputable def D62:FD U:=⟨64,Tryz.f64,[D60.sg,D61.sg],[.p (.int .i64),.p (.int .i64)],[],[.p (.st 1)],[],[],ZCv,ZCv,
.nil⟩
theorem ZIG:Zeg X0.E 64 D62.sig:=D62.ok G0 Tryz.func64 ⟨ZIH,ZHj,trivial⟩ rfl rfl (by kernel_rfl)
noncomputable def D63:FD U:=⟨25,Tryz.f25,[D54.sg,D55.sg,D62.sg],[.p (.sl (.st 1)),.p (.sl (.st 1))],[],[.p (.st 1),.p (.int .i64)],[],[],Zpc,Zpc,
.j 9101 [0,1,4,17] [] [ZDT,ZDT,qe2,qe4] qp8 Zui <|
.lo 940111 [0,1,4,6,7,8] [] [ZDT,ZDT,qe2,qe0,qe0,qe0] qp8 0 [0,1,4,6] [] [ZDT,ZDT,qe2,qe0] qp8 Zr2 Zyt (fun n0=> .j 910540111 [0,1,4,6,7,8,28] [] [ZDT,ZDT,qe2,qe0,qe0,qe0,qe4] qp8 (Zwr (Zr2 n0)) <|
.j 91141540111 [0,1,4,6,7,8,9] [] [ZDT,ZDT,qe2,qe0,qe0,qe0,qe6] [ZNq,ZE5,qo3,qo3] (Zuh (Zr2 n0)) <|
.nil) <|
.nil⟩
theorem ZHi:Zeg X0.E 25 D63.sig:=D63.ok G0 Tryz.func25 ⟨ZFv,ZMy,ZIG,trivial⟩ rfl rfl (by kernel_rfl)
noncomputable def D64:FD U:=⟨66,Tryz.f66,[],[.p (.st 0),.p (.st 0)],[],[.p .bool],[],[],Zqi,Zqi,
.j 9101 [2,3,20] [] ZKQ [ZJh,ZJh] Zsx <|
.lr 941011 [3,22,23,24] [] [qe2,qe1,qe0,qe0] [ZJh] 0 [] [] [] [] Zsw Zvd (fun _=> .nil) <|
.nil⟩
theorem ZMv:Zeg X0.E 66 D64.sig:=D64.ok G0 Tryz.func66 trivial rfl rfl (by kernel_rfl)
noncomputable def D65:FD U:=⟨28,Tryz.f28,[D64.sg],[.p (.st 1),.p (.st 1)],[],[.p .bool],[],[],ZoD,ZoD,
.j 911 [4] [] [qe4] [] ZtU <|
.nil⟩
theorem ZIF:Zeg X0.E 28 D65.sig:=D65.ok G0 Tryz.func28 ⟨ZMv,trivial⟩ rfl rfl (by kernel_rfl)
noncomputable def D66:FD U:=⟨164,Tryz.f164,[],[],[],[.map (.int .i64) (.st 4)],[],[],ZBt,ZBt,
.nil⟩
theorem ZIE:Zeg X0.E 164 D66.sig:=D66.ok G0 Tryz.func164 trivial rfl rfl (by kernel_rfl)
noncomputable def D68:FD U:=⟨236,Tryz.f236,[(297,ZBk.sig)],[.p .str],[],[.p .str],[],[],ZDi,ZDi,
.nil⟩
theorem ZMu:Zeg X0.E 236 D68.sig:=D68.ok G0 Tryz.func236 ⟨ZB1,trivial⟩ rfl rfl (by kernel_rfl)
noncomputable def D69:FD U:=⟨353,Tryz.f353,[],[.p .str,.p .str],[],[.p .bool],[],[],Zq6,Zq6,
.j 911 [4] [] [qe4] [] ZsN <|
.nil⟩
theorem ZID:Zeg X0.E 353 D69.sig:=D69.ok G0 Tryz.func353 trivial rfl rfl (by kernel_rfl)
noncomputable def D70:FD U:=⟨337,Tryz.f337,[D69.sg],[.p .str,.p .str],[],[.p .str,.p .bool],[],[],ZtP,ZtP,
.nil⟩
theorem ZMt:Zeg X0.E 337 D70.sig:=D70.ok G0 Tryz.func337 ⟨ZID,trivial⟩ rfl rfl (by kernel_rfl)
noncomputable def D71:FD U:=⟨301,Tryz.f301,[D70.sg],[.p .str,.p .str],[],[.p .str,.p .bool],[],[],Zz0,Zz0,
.nil⟩
theorem ZMs:Zeg X0.E 301 D71.sig:=D71.ok G0 Tryz.func301 ⟨ZMt,trivial⟩ rfl rfl (by kernel_rfl)
noncomputable def D72:FD U:=⟨338,Tryz.f338,[D69.sg],[.p .str,.p .str],[],[.p .str],[],[],Zty,Zty,
.nil⟩
theorem ZMr:Zeg X0.E 338 D72.sig:=D72.ok G0 Tryz.func338 ⟨ZID,trivial⟩ rfl rfl (by kernel_rfl)
noncomputable def D73:FD U:=⟨302,Tryz.f302,[D72.sg],[.p .str,.p .str],[],[.p .str],[],[],ZzL,ZzL,
.nil⟩
theorem ZMq:Zeg X0.E 302 D73.sig:=D73.ok G0 Tryz.func302 ⟨ZMr,trivial⟩ rfl rfl (by kernel_rfl)
noncomputable def D75:FD U:=⟨352,Tryz.f352,[(370,Zwy.sig)],[.p .str,.p .str],[],[.p (.int .i64)],[],[],ZvO,ZvO,
.j 914011 [0,1,5,16] [] [ZFb,ZFb,qe0,qe4] [] Zup <|
.nil⟩
theorem ZMp:Zeg X0.E 352 D75.sig:=D75.ok G0 Tryz.func352 ⟨ZzU,trivial⟩ rfl rfl (by kernel_rfl)
noncomputable def D76:FD U:=⟨339,Tryz.f339,[D75.sg],[.p .str,.p .str],[],[.p .str,.p .str,.p .bool],[],[],ZwJ,ZwJ,
.nil⟩
theorem ZMo:Zeg X0.E 339 D76.sig:=D76.ok G0 Tryz.func339 ⟨ZMp,trivial⟩ rfl rfl (by kernel_rfl)
noncomputable def D77:FD U:=⟨303,Tryz.f303,[D76.sg],[.p .str,.p .str],[],[.p .str,.p .str,.p .bool],[],[],ZBF,ZBF,
.nil⟩
theorem ZIC:Zeg X0.E 303 D77.sig:=D77.ok G0 Tryz.func303 ⟨ZMo,trivial⟩ rfl rfl (by kernel_rfl)
noncomputable def D78:FD U:=⟨304,Tryz.f304,[(297,ZBk.sig)],[.p .str,.p (.int .i64)],[],[.p .bool],[],[],ZzB,ZzB,
.j 911 [4] [] [qe4] [] Zxw <|
.nil⟩
theorem ZMn:Zeg X0.E 304 D78.sig:=D78.ok G0 Tryz.func304 ⟨ZB1,trivial⟩ rfl rfl (by kernel_rfl)
noncomputable def D79:FD U:=⟨241,Tryz.f241,[D71.sg,D73.sg,D77.sg,D78.sg,D31.sg,D47.sg,D56.sg,D51.sg,D48.sg,D58.sg],[.p .str],[],[.p (.st 1),.p .bool],[],[],Zu7,Zu7,
.j 9111 [2,4,5] [] [qe2,ZFb,qe4] qp8 Zzk <|
.j 9101111 [2,5,6,7,39] [] [qe2,qe4,ZFb,ZFb,qe4] qp8 ZwX <|
.lo 941011111111 [2,5,7,9,10,11,47,48,49] [9,10] [qe2,qe4,ZFb,qe1,qe1,ZM3,ZHP,qe0,qe0] [ZM2,qo3,.arr (.int .u8) false,qo3,qo3] 0 [2,5,7,9,10,11] [] [qe2,qe4,ZFb,qe1,qe1,ZM3] [ZNq,qo3,qo3,qo3] Zzj ZA7 (fun _=> .nil) <|
.lo 9410111111111 [2,5,9,10,11,63,64] [11] [qe2,qe4,qe1,qe1,qe1,qe0,qe0] qp8 2 [2,5,9,11] [] [qe2,qe4,qe1,qe1] qp8 Zzi ZwW (fun _=> .nil) <|
.nil⟩
theorem ZIB:Zeg X0.E 241 D79.sig:=D79.ok G0 Tryz.func241 ⟨ZMs,ZMq,ZIC,ZMn,ZIT,ZIN,ZII,ZIK,ZFw,ZHk,trivial⟩ rfl rfl (by kernel_rfl)
noncomputable def D82:FD U:=⟨307,Tryz.f307,[],[.p (.sl .str)],[],[.p .str],[],[],ZBT,ZBT,
.lr 941011 [3,6,7,8] [] [ZFb,.o (.v (.sl .str)),qe0,qe0] [] 0 [3] [] [ZFb] [] ZAt ZB7 (fun _=> .nil) <|
.nil⟩
theorem ZMm:Zeg X0.E 307 D82.sig:=D82.ok G0 Tryz.func307 trivial rfl rfl (by kernel_rfl)
noncomputable def D83:FD U:=⟨242,Tryz.f242,[D79.sg,(305,ZBs.sig),D77.sg,(306,ZBb.sig),D82.sg],[.p .str],[],[.p .str,.p .bool],[],[],ZyP,ZyP,
.j 9111111 [0,9] [] [ZFb,ZFb] [] ZAi <|
.j 910111111 [9,43] [] ZJg [] ZAh <|
.j 91111111 [9] [] [ZFb] [] ZAg <|
.nil⟩
theorem ZMl:Zeg X0.E 242 D83.sig:=D83.ok G0 Tryz.func242 ⟨ZIB,ZCD,ZIC,ZCq,ZMm,trivial⟩ rfl rfl (by kernel_rfl)
noncomputable def D84:FD U:=⟨163,Tryz.f163,[D66.sg,D68.sg,D83.sg],[.p (.int .i64),.p .str],[],[.p .str,.p .bool],[],[(26,2)],ZxB,ZxB,
.nil⟩
theorem ZMk:Zeg X0.E 163 D84.sig:=D84.ok G0 Tryz.func163 ⟨ZIE,ZMu,ZMl,trivial⟩ rfl rfl (by kernel_rfl)
noncomputable def D85:FD U:=⟨110,Tryz.f110,[D84.sg,D66.sg,D79.sg],[.p (.int .i64),.p .str],[],[.p (.st 1),.p .bool],[],[(22,2)],ZBu,ZBu,
.nil⟩
theorem ZMj:Zeg X0.E 110 D85.sig:=D85.ok G0 Tryz.func110 ⟨ZMk,ZIE,ZIB,trivial⟩ rfl rfl (by kernel_rfl)
noncomputable def D86:FD U:=⟨60,Tryz.f60,[D61.sg,D85.sg],[.p (.st 2)],[],[.p (.st 1),.p .bool],[],[],Zqy,Zqy,
.nil⟩
theorem ZMi:Zeg X0.E 60 D86.sig:=D86.ok G0 Tryz.func60 ⟨ZHj,ZMj,trivial⟩ rfl rfl (by kernel_rfl)
noncomputable def D87:FD U:=⟨112,Tryz.f112,[D19.sg],[.p (.int .u64)],[],[.p (.int .i64)],[],[],Zwe,Zwe,
.nil⟩
theorem ZHh:Zeg X0.E 112 D87.sig:=D87.ok G0 Tryz.func112 ⟨ZIW,trivial⟩ rfl rfl (by kernel_rfl)
noncomputable def D88:FD U:=⟨165,Tryz.f165,[D54.sg],[.arr (.st 1),.p (.int .i64),.p (.int .i64),.fn 62 [] []],[(0,.arr (.st 1))],[],[],[],Zo5,ZoT,
.lo 941 [0,1,2,3,8] [] [qe8,qe0,qe0,ZLi,qe0] [ZHO] 0 [] [] [] [ZHO] Zof Zp4 (fun n0=> .lo 941401541 [0,1,2,3,8,9] [] [qe8,qe0,qe0,ZLi,qe0,qe0] [ZHO] 2 [0,1,2,3,8] [] [qe8,qe0,qe0,ZLi,qe0] [ZHO] Zn1 (Zp5 (Zof n0)) (fun n1=> .j 910541401541 [0,1,2,3,8,9,34] [] [qe8,qe0,qe0,ZLi,qe0,qe0,qe4] [ZHO] (ZoM (Zn1 n1)) <|
.nil) <|
.nil) <|
.nil⟩
theorem ZMh:Zeg X0.E 165 D88.sig:=D88.okA G0 Tryz.func165 ⟨ZFv,trivial⟩ (by kernel_rfl) (by kernel_rfl)
noncomputable def D89:FD U:=⟨111,Tryz.f111,[D88.sg],[.arr (.st 1),.p (.int .i64),.p (.int .i64),.p (.int .i64),.fn 62 [] []],[(0,.arr (.st 1))],[],[],[],Zsk,ZpL,
.lz 9411 [0,1,2,3,4,10,11] [] [qe8,qe0,qe0,qe0,ZLi,qe4,qe4] [ZHO] Zrd (fun _=> .nil) <|
.nil⟩
theorem ZMg:Zeg X0.E 111 D89.sig:=D89.okA G0 Tryz.func111 ⟨ZMh,trivial⟩ (by kernel_rfl) (by kernel_rfl)
noncomputable def D90:FD U:=⟨61,Tryz.f61,[D87.sg,D89.sg],[.arr (.st 1),.fn 62 [] []],[(0,.arr (.st 1))],[],[],[],Zqw,Zog,
.nil⟩
theorem ZMe:Zeg X0.E 61 D90.sig:=D90.okA G0 Tryz.func61 ⟨ZHh,ZMg,trivial⟩ (by kernel_rfl) (by kernel_rfl)
noncomputable def D91:FD U:=⟨23,Tryz.f23,[D86.sg,D90.sg],[.p (.st 3)],[],[.own (.st 1)],[],[],ZpC,ZpC,
.lo 941011 [3,9,10,11] [] [qe9,ZKT,qe0,qe0] [ZHO] 0 [3] [] [qe9] [ZHO] ZuT ZwS (fun n0=> .j 9111541011 [3,9,10,11] [] [qe9,ZKT,qe0,qe0] [ZHO] (ZuU (ZuT n0)) <|
.nil) <|
.nil⟩
theorem ZHg:Zeg X0.E 23 D91.sig:=D91.ok G0 Tryz.func23 ⟨ZMi,ZMe,trivial⟩ rfl rfl (by kernel_rfl)
noncomputable def D92:FD U:=⟨22,Tryz.f22,[D16.sg,D23.sg,D63.sg,D65.sg,D15.sg,D91.sg],[],[],[.p .bool],[],[],Zq2,Zq2,
.j 911111 [0] [] [qe4] [] Zo7 <|
.nil⟩
theorem ZMd:Zeg X0.E 22 D92.sig:=D92.ok G0 Tryz.func22 ⟨ZHo,ZMO,ZHi,ZIF,ZIX,ZHg,trivial⟩ rfl rfl (by kernel_rfl)
noncomputable def D93:FD U:=⟨13,Tryz.f13,[],[.p (.sl (.int .i64))],[],[.box (.st 5)],[],[],ZwO,ZwO,
.nil⟩
theorem ZMc:Zeg X0.E 13 D93.sig:=D93.ok G0 Tryz.func13 trivial rfl rfl (by kernel_rfl)
noncomputable def D94:FD U:=⟨16,Tryz.f16,[],[.p (.int .i64),.p (.int .i64)],[],[.p (.int .i64)],[],[],ZtH,ZtH,
.nil⟩
theorem ZMb:Zeg X0.E 16 D94.sig:=D94.ok G0 Tryz.func16 trivial rfl rfl (by kernel_rfl)
noncomputable def D95:FD U:=⟨14,Tryz.f14,[D94.sg],[.box (.st 5),.p (.int .i64)],[(0,.box (.st 5))],[.p (.int .i64)],[],[],ZnL,ZnL,
.nil⟩
theorem ZDP:Zeg X0.E 14 D95.sig:=D95.ok G0 Tryz.func14 ⟨ZMb,trivial⟩ rfl rfl (by kernel_rfl)
noncomputable def D96:FD U:=⟨32,Tryz.f32,[D95.sg],[.box (.st 5),.p (.sl .str)],[(0,.box (.st 5))],[.p .str],[],[],Zoe,Zoe,
.nil⟩
theorem ZFu:Zeg X0.E 32 D96.sig:=D96.ok G0 Tryz.func32 ⟨ZDP,trivial⟩ rfl rfl (by kernel_rfl)
noncomputable def D97:FD U:=⟨54,Tryz.f54,[D95.sg,D96.sg],[.box (.st 5)],[(0,.box (.st 5))],[.p (.st 2)],[],[],ZuQ,ZuQ,
.nil⟩
theorem ZMa:Zeg X0.E 54 D97.sig:=D97.ok G0 Tryz.func54 ⟨ZDP,ZFu,trivial⟩ rfl rfl (by kernel_rfl)
noncomputable def D99:FD U:=⟨55,Tryz.f55,[D95.sg,D96.sg,(56,ZBl.sig)],[.box (.st 5)],[(0,.box (.st 5))],[.p (.st 2)],[],[],Ztl,Ztl,
.nil⟩
theorem ZL9:Zeg X0.E 55 D99.sig:=D99.ok G0 Tryz.func55 ⟨ZDP,ZFu,ZB2,trivial⟩ rfl rfl (by kernel_rfl)
noncomputable def ZNg:FD U:=⟨15,Tryz.f15,[D96.sg,D95.sg,D97.sg,D99.sg,(56,ZBl.sig)],[.box (.st 5),.p (.int .i64)],[(0,.box (.st 5))],[.p (.st 3)],[],[],Zrm,Zrm,
.lo 9410111 [0,4,5,6,15,16] [] [ZGh,qe2,qe6,qe0,qe0,qe0] [ZF2,qo42,ZNp,ZIq,ZIq] 0 [4,5] [] [qe2,qe6] [ZF2,qo42,ZNp,ZIq,ZIq] ZrB ZwG (fun n0=> .j 911140115410111 [0,4,5,6,8,15,16] [] [ZGh,qe2,qe6,qe0,ZHD,qe0,qe0] [ZF2,ZNp,.box [.o (.v .str),.o (.full (0,5,1))],.boxS (.st 2),ZIq,ZIq] (Zps (ZrB n0)) <|
.nil) <|
.nil⟩
theorem ZHA:Zeg X0.E 15 ZNg.sig:=ZNg.ok G0 Tryz.func15 ⟨ZFu,ZDP,ZMa,ZL9,ZB2,trivial⟩ rfl rfl (by kernel_rfl)
noncomputable def ZOJ:FD U:=⟨94,Tryz.f94,[D96.sg,D95.sg,ZNg.sg],[.box (.st 5),.p (.int .i64)],[(0,.box (.st 5))],[.p (.st 6)],[],[],Zt9,Zt9,
.lo 9410111 [0,4,5,6,7] [] [ZGh,qe2,qe6,qe0,qe0] ZNo 0 [0,4,5] [] [ZGh,qe2,qe6] ZNo ZuE Zxe (fun _=> .nil) <|
.j 911111 [4,5] [] [qe2,qe6] ZNo ZuF <|
.nil⟩
theorem ZKP:Zeg X0.E 94 ZOJ.sig:=ZOJ.ok G0 Tryz.func94 ⟨ZFu,ZDP,ZHA,trivial⟩ rfl rfl (by kernel_rfl)
noncomputable def ZOI:FD U:=⟨146,Tryz.f146,[D95.sg,D96.sg],[.box (.st 5),.p (.st 6)],[(0,.box (.st 5))],[.p (.st 7)],[],[],Zwb,Zwb,
.j 911121410111 [0,3,4,5,44] [] [ZGh,qe2,qe6,ZHD,qe4] [ZF2,ZDp,qo18,.box [.o (.v (.int .i64)),.o (.v (.int .i64)),.o (.v .str),.o (.full (0,5,1))],ZJi,ZJi] ZqJ <|
.j 9131410111 [0,4,5,6,16,66] [] [ZGh,qe2,qe6,qe0,qe0,qe4] qp6 Zuc <|
.lo 941213131410111 [0,4,5,6,7] [] [ZGh,qe2,qe6,qe0,qe0] qp6 1 [4,5] [] [qe2,qe6] qp6 Zua Zyr (fun n0=> .j 910541213131410111 [0,4,5,6,7,83] [] [ZGh,qe2,qe6,qe0,qe0,qe4] qp6 (Zwp (Zua n0)) <|
.nil) <|
.j 91111 [4,5] [] [qe2,qe6] qp6 ZqI <|
.j 911111 [4] [] [qe2] [ZF2,.box [.o (.v (.int .i64)),.o (.v (.int .i64)),.o (.v .str),.o (.full (0,2,1))],ZJi] Zub <|
.nil⟩
theorem ZKO:Zeg X0.E 146 ZOI.sig:=ZOI.ok G0 Tryz.func146 ⟨ZDP,ZFu,trivial⟩ rfl rfl (by kernel_rfl)
noncomputable def ZOH:FD U:=⟨366,Tryz.f366,[],[.p .str],[],[.p (.int .u64)],[],[],Zoq,Zoq,
.nil⟩
theorem ZKN:Zeg X0.E 366 ZOH.sig:=ZOH.ok G0 Tryz.func366 trivial rfl rfl (by kernel_rfl)
noncomputable def ZNf:FD U:=⟨346,Tryz.f346,[ZOH.sg],[.p .str],[],[.p .bool],[],[],Zqf,Zqf,
.lr 9401 [0] [] [ZFb] [] 0 [] [] [] [] Zn2 Zyb (fun n0=> .j 91012101415401 [0,24] [] ZJg [] (Zvb (Zn2 n0)) <|
.j 91121012101415401 [0,39] [] ZJg [] (Zva (Zn2 n0)) <|
.lo 94121121012101415401 [0] [] [ZFb] [] 2 [0] [] [ZFb] [] Zst (Zyc (Zn2 n0)) (fun n1=> .j 91054121121012101415401 [0,62] [] ZJg [] (Zu9 (Zst n1)) <|
.nil) <|
.j 9112101415401 [0] [] [ZFb] [] (Zu8 (Zn2 n0)) <|
.j 910214111111415401 [0,94] [] ZJg [] (Zsu (Zn2 n0)) <|
.j 91021314111111415401 [0,125] [] ZJg [] (Zpy (Zn2 n0)) <|
.j 9102131314111111415401 [0,166] [] ZJg [] (Zok (Zn2 n0)) <|
.nil) <|
.nil⟩
theorem ZHz:Zeg X0.E 346 ZNf.sig:=ZNf.ok G0 Tryz.func346 ⟨ZKN,trivial⟩ rfl rfl (by kernel_rfl)
noncomputable def ZNe:FD U:=⟨316,Tryz.f316,[ZNf.sg],[.p .str],[],[.p .bool],[],[],Zq0,Zq0,
.nil⟩
theorem ZHy:Zeg X0.E 316 ZNe.sig:=ZNe.ok G0 Tryz.func316 ⟨ZHz,trivial⟩ rfl rfl (by kernel_rfl)
noncomputable def ZOG:FD U:=⟨263,Tryz.f263,[ZNe.sg],[.p .str],[],[.p .bool],[],[],Zrj,Zrj,
.j 911 [2] [] [qe4] [] ZtV <|
.nil⟩
theorem ZKM:Zeg X0.E 263 ZOG.sig:=ZOG.ok G0 Tryz.func263 ⟨ZHy,trivial⟩ rfl rfl (by kernel_rfl)
noncomputable def ZOF:FD U:=⟨264,Tryz.f264,[ZNe.sg],[.p (.st 2)],[],[.p .bool],[],[],ZqQ,ZqQ,
.j 911 [2] [] [qe4] [] Zo4 <|
.nil⟩
theorem ZKL:Zeg X0.E 264 ZOF.sig:=ZOF.ok G0 Tryz.func264 ⟨ZHy,trivial⟩ rfl rfl (by kernel_rfl)
noncomputable def ZMY:FD U:=⟨211,Tryz.f211,[ZOG.sg,ZOF.sg],[.p (.st 6)],[],[.p .bool],[],[],Zp0,Zp0,
.j 9101 [1,26] [] [qe2,qe4] [ZDp] ZpZ <|
.lr 941011 [1,28,29,30] [] [qe2,ZFc,qe0,qe0] [ZDp] 0 [] [] [] [] ZpY ZvZ (fun n0=> .j 91014011541011 [1,4,28,29,30,55] [] [qe2,qe6,ZFc,qe0,qe0,qe4] [ZDp,.boxS (.st 3)] (Zq7 (ZpY n0)) <|
.lr 941114011541011 [1,28,29,30,57,58,59] [] [qe2,ZFc,qe0,qe0,ZKT,qe0,qe0] [ZDp] 2 [1,28,29,30] [] [qe2,ZFc,qe0,qe0] [ZDp] Ztb (Zv0 (ZpY n0)) (fun _=> .nil) <|
.nil) <|
.nil⟩
theorem ZFO:Zeg X0.E 211 ZMY.sig:=ZMY.ok G0 Tryz.func211 ⟨ZKM,ZKL,trivial⟩ rfl rfl (by kernel_rfl)
noncomputable def ZOE:FD U:=⟨212,Tryz.f212,[],[.p (.st 6),.p (.st 7)],[],[.p .bool],[],[],Zt2,Zt2,
.j 911 [2,3,5] [] ZKQ [ZDp,ZKR] Zr9 <|
.j 912141011 [4] [] [qe4] [] Zr8 <|
.j 913141011 [2,3,5,20,36] [] [qe2,qe6,qe4,qe0,qe4] [ZDp,ZKR] Zr7 <|
.j 91213141011 [4] [] [qe4] [] Zr6 <|
.lr 941021313141011 [2,3,54,55,56] [] [qe2,qe6,ZFd,qe0,qe0] [ZDp,ZKR] 1 [3] [] [qe2] [ZKR] Zr4 Zw1 (fun n0=> .j 9114011541021313141011 [2,3,54,55,56,68] [] [qe2,qe6,ZFd,qe0,qe0,qe4] [ZDp,ZKR] (Zuv (Zr4 n0)) <|
.nil) <|
.j 91121313141011 [4] [] [qe4] [] Zr5 <|
.j 91111 [4] [] [qe4] [] ZqD <|
.nil⟩
theorem ZKK:Zeg X0.E 212 ZOE.sig:=ZOE.ok G0 Tryz.func212 trivial rfl rfl (by kernel_rfl)
noncomputable def ZOD:FD U:=⟨265,Tryz.f265,[ZMY.sg],[.p (.st 6),.p (.sl (.int .i64))],[],[.p (.st 6),.p (.int .i64)],[],[],Zrx,Zrx,
.lr 9410111 [1,2,4,6,18,19,20] [] [ZFd,qe2,qe6,ZHD,ZFd,qe0,qe0] [ZDp,ZLh,ZM1,ZFx,ZFx] 0 [1,4,6] [] [ZFd,qe2,qe6] ZLg Zqz Zvg (fun n0=> .j 910140115410111 [1,2,4,6,8,18,19,20,32] [] [ZFd,qe2,qe6,ZHD,qe0,ZFd,qe0,qe0,qe4] [ZDp,ZLh,ZM1,ZFx,ZFx] (ZsA (Zqz n0)) <|
.nil) <|
.nil⟩
theorem ZKJ:Zeg X0.E 265 ZOD.sig:=ZOD.ok G0 Tryz.func265 ⟨ZFO,trivial⟩ rfl rfl (by kernel_rfl)
noncomputable def ZNd:FD U:=⟨317,Tryz.f317,[],[.p (.st 6)],[],[.p (.int .i64)],[],[],Zrk,Zrk,
.nil⟩
theorem ZHx:Zeg X0.E 317 ZNd.sig:=ZNd.ok G0 Tryz.func317 trivial rfl rfl (by kernel_rfl)
noncomputable def ZOC:FD U:=⟨318,Tryz.f318,[],[.p (.st 6),.p (.int .i64),.p (.int .i64)],[],[.p .bool],[],[],ZsR,ZsR,
.lr 94101 [1,2,10,11,12] [] [qe0,qe0,ZFc,qe0,qe0] [] 0 [] [] [] [] Zs7 ZvW (fun _=> .nil) <|
.nil⟩
theorem ZKI:Zeg X0.E 318 ZOC.sig:=ZOC.ok G0 Tryz.func318 trivial rfl rfl (by kernel_rfl)
noncomputable def ZOB:FD U:=⟨319,Tryz.f319,[],[.p (.st 2),.p (.st 2)],[],[.p (.int .i64)],[],[],Zp1,Zp1,
.j 91401 [2,3,5] [] ZKQ [.boxS (.st 2),.boxS (.st 2)] Zph <|
.nil⟩
theorem ZKH:Zeg X0.E 319 ZOB.sig:=ZOB.ok G0 Tryz.func319 trivial rfl rfl (by kernel_rfl)
noncomputable def ZOA:FD U:=⟨267,Tryz.f267,[ZNd.sg,ZOC.sg,ZOB.sg],[.p (.st 6),.p (.st 7)],[],[.own (.int .i64)],[],[],Zs6,Zs6,
.lo 941011 [2,3,5,14,15] [] [qe2,qe6,ZHP,qe0,qe0] qp4 0 [5] [] [qe9] [ZJi] Zor Zwz (fun n0=> .lo 941213131410114011541011 [2,3,5,6,7,8,14,15,60,61,62] [] qs12 qp4 3 [2,3,5,6,7,8,14,15] [] qs9 qp4 Zrw (ZwB (Zor n0)) (fun n1=> .j 9111541213131410114011541011 [2,3,5,6,7,8,14,15,60,61,62] [] qs12 qp4 (ZtS (Zrw n1)) <|
.nil) <|
.lo 94121313131410114011541011 [2,3,5,6,7,8,12,14,15] [] [qe2,qe6,ZHP,qe0,qe0,qe4,ZKT,qe0,qe0] qp4 5 [2,3,5,6,7,8,14,15] [] qs9 qp4 Zrv (ZwA (Zor n0)) (fun n1=> .j 91054121313131410114011541011 [2,3,5,6,7,8,12,14,15,101] [] [qe2,qe6,ZHP,qe0,qe0,qe4,ZKT,qe0,qe0,qe4] qp4 (ZtR (Zrv n1)) <|
.nil) <|
.j 91114011541011 [2,3,5,6,7,8,14,15] [] qs9 qp4 (Zqh (Zor n0)) <|
.j 911114011541011 [2,3,5,6,7,14,15,104] [] [qe2,qe6,ZHP,qe0,qe0,qe0,qe0,qe4] qp4 (Zqg (Zor n0)) <|
.j 9111541011 [2,3,5,14,15] [] [qe2,qe6,ZHP,qe0,qe0] qp4 (ZtQ (Zor n0)) <|
.nil) <|
.nil⟩
theorem ZKG:Zeg X0.E 267 ZOA.sig:=ZOA.ok G0 Tryz.func267 ⟨ZHx,ZKI,ZKH,trivial⟩ rfl rfl (by kernel_rfl)
noncomputable def ZOz:FD U:=⟨266,Tryz.f266,[ZMY.sg,ZNd.sg],[.p (.st 6),.p (.sl (.int .i64))],[],[.p (.st 6),.p (.int .i64)],[],[],Zsa,Zsa,
.lr 941011 [1,2,4,18,19,20] [] [ZFd,qe2,qe6,ZFd,qe0,qe0] ZLf 0 [1,2,4] [] [ZFd,qe2,qe6] ZLf ZqS ZvI (fun n0=> .j 9114011541011 [1,2,4,18,19,20,31] [] [ZFd,qe2,qe6,ZFd,qe0,qe0,qe4] ZLf (Zs1 (ZqS n0)) <|
.nil) <|
.lo 941011111 [1,4,8,44,45,46] [] [ZFd,qe2,qe6,ZFc,qe0,qe0] ZLg 2 [4,8] [] [qe2,qe6] ZLg ZqR ZvG (fun n0=> .lo 9410114011541011111 [1,4,8,10,11,44,45,46,53,54,55] [] [ZFd,qe2,qe6,ZHD,.o (.ptr (0,4,1) 0 0),ZFc,qe0,qe0,ZFd,qe0,qe0] [ZM1,.box [.o (.v (.int .i64)),.o (.v .str),.o (.full (0,6,1))],.boxS (.st 3),.box [.o (.v .str),.o (.full (0,7,1))],ZFx,ZFx,ZIq] 4 [1,4,8,11,44,45,46] [] [ZFd,qe2,qe6,ZHD,ZFc,qe0,qe0] [ZLh,ZM1,.box [.o (.v .str),.o (.full (0,6,1))],ZFx,ZFx,ZIq] Zs0 (ZvH (ZqR n0)) (fun _=> .nil) <|
.nil) <|
.nil⟩
theorem ZKF:Zeg X0.E 266 ZOz.sig:=ZOz.ok G0 Tryz.func266 ⟨ZFO,ZHx,trivial⟩ rfl rfl (by kernel_rfl)
noncomputable def ZOy:FD U:=⟨213,Tryz.f213,[ZOD.sg,ZOA.sg,ZOz.sg],[.p (.st 6),.p (.st 7)],[],[.p (.st 6)],[],[],ZuL,ZuL,
.nil⟩
theorem ZKE:Zeg X0.E 213 ZOy.sig:=ZOy.ok G0 Tryz.func213 ⟨ZKJ,ZKG,ZKF,trivial⟩ rfl rfl (by kernel_rfl)
noncomputable def ZNc:FD U:=⟨147,Tryz.f147,[],[.p (.st 6)],[],[.p (.st 6)],[],[],Zrg,Zrg,
.lo 941011 [2,3,12,13,14] [] [qe2,qe6,ZFc,qe0,qe0] ZLg 0 [2,3] [] [qe2,qe6] ZLg ZtT ZwC (fun _=> .nil) <|
.nil⟩
theorem ZHw:Zeg X0.E 147 ZNc.sig:=ZNc.ok G0 Tryz.func147 trivial rfl rfl (by kernel_rfl)
noncomputable def ZOx:FD U:=⟨145,Tryz.f145,[ZMY.sg,ZOE.sg,ZOy.sg,ZNc.sg],[.p (.st 6),.p (.sl (.st 7))],[],[.p (.st 6),.p (.int .i64)],[],[],Zt3,Zt3,
.lr 941011 [2,4,18,19,20] [] [qe2,qe6,.o (.v (.sl (.st 7))),qe0,qe0] ZLf 1 [2,4] [] [qe2,qe6] ZLf Zuw Zw2 (fun _=> .nil) <|
.nil⟩
theorem ZKD:Zeg X0.E 145 ZOx.sig:=ZOx.ok G0 Tryz.func145 ⟨ZFO,ZKK,ZKE,ZHw,trivial⟩ rfl rfl (by kernel_rfl)
noncomputable def ZOw:FD U:=⟨95,Tryz.f95,[D95.sg,ZOI.sg,ZOx.sg,ZNc.sg],[.box (.st 5),.p (.st 6),.p (.int .i64)],[(0,.box (.st 5))],[.p (.st 6)],[],[],ZsS,ZsS,
.lo 94101 [0,2,4,6,7] [] [ZGh,qe0,qe2,qe6,qe0] [ZF2,ZDp,ZKS,ZFx] 0 [2,4,6] [] [qe0,qe2,qe6] [ZF2,ZDp,ZKS,ZFx] Zrb Zwc (fun n0=> .j 91154101 [0,2,4,6,7] [] [ZGh,qe0,qe2,qe6,qe0] [ZF2,ZDp,ZKS,ZFx] (Ztm (Zrb n0)) <|
.nil) <|
.nil⟩
theorem ZKC:Zeg X0.E 95 ZOw.sig:=ZOw.ok G0 Tryz.func95 ⟨ZDP,ZKO,ZKD,ZHw,trivial⟩ rfl rfl (by kernel_rfl)
noncomputable def ZOv:FD U:=⟨50,Tryz.f50,[D95.sg,ZOJ.sg,ZOw.sg],[.box (.st 5),.p (.int .i64)],[(0,.box (.st 5))],[.own (.st 6)],[],[],Ztk,Ztk,
.lo 9410111 [0,5,6,7] [] [ZGh,qe9,qe0,qe0] [ZF2,ZM0] 0 [5] [] [qe9] [ZF2,ZM0] Zqj ZwF (fun n0=> .j 910114015410111 [0,5,6,7,8,34] [] [ZGh,qe9,qe0,qe0,qe6,qe4] [ZF2,ZM0,ZDp] (ZtX (Zqj n0)) <|
.j 91114015410111 [0,5,6,7,8] [] [ZGh,qe9,qe0,qe0,qe6] [ZF2,ZM0,ZDp] (ZrA (Zqj n0)) <|
.nil) <|
.nil⟩
theorem ZKB:Zeg X0.E 50 ZOv.sig:=ZOv.ok G0 Tryz.func50 ⟨ZDP,ZKP,ZKC,trivial⟩ rfl rfl (by kernel_rfl)
noncomputable def ZOu:FD U:=⟨320,Tryz.f320,[ZNf.sg],[.p .str],[],[.p .bool],[],[],ZB5,ZB5,
.nil⟩
theorem ZKA:Zeg X0.E 320 ZOu.sig:=ZOu.ok G0 Tryz.func320 ⟨ZHz,trivial⟩ rfl rfl (by kernel_rfl)
noncomputable def ZMV:FD U:=⟨268,Tryz.f268,[ZOu.sg],[.p .str],[],[.p .bool],[],[],Zy0,Zy0,
.j 911 [2] [] [qe4] [] ZAj <|
.nil⟩
theorem ZFN:Zeg X0.E 268 ZMV.sig:=ZMV.ok G0 Tryz.func268 ⟨ZKA,trivial⟩ rfl rfl (by kernel_rfl)
noncomputable def ZNb:FD U:=⟨269,Tryz.f269,[],[.p (.st 6)],[],[.p (.int .i64)],[],[],Zz8,Zz8,
.nil⟩
theorem ZHv:Zeg X0.E 269 ZNb.sig:=ZNb.ok G0 Tryz.func269 trivial rfl rfl (by kernel_rfl)
noncomputable def ZOt:FD U:=⟨273,Tryz.f273,[ZMV.sg],[.p (.st 2)],[],[.p .bool],[],[],ZxG,ZxG,
.j 911 [2] [] [qe4] [] Zvt <|
.nil⟩
theorem ZKz:Zeg X0.E 273 ZOt.sig:=ZOt.ok G0 Tryz.func273 ⟨ZFN,trivial⟩ rfl rfl (by kernel_rfl)
noncomputable def ZOs:FD U:=⟨272,Tryz.f272,[ZOt.sg],[.p (.sl (.st 2)),.fn 273 [] []],[],[.p .bool],[],[],Zud,Zud,
.lr 94101 [1,7,8,9] [] [.fn 273 [] [],ZKT,qe0,qe0] [] 0 [] [] [] [] ZuG Zxf (fun _=> .nil) <|
.nil⟩
theorem ZKy:Zeg X0.E 272 ZOs.sig:=ZOs.ok G0 Tryz.func272 ⟨ZKz,trivial⟩ rfl rfl (by kernel_rfl)
noncomputable def ZOr:FD U:=⟨271,Tryz.f271,[ZMV.sg,ZNb.sg,ZOs.sg],[.p (.st 3),.ptr (.st 6)],[],[.p .bool],[],[],ZAk,ZAk,
.j 911 [3] [] [qe4] [] ZwP <|
.nil⟩
theorem ZKx:Zeg X0.E 271 ZOr.sig:=ZOr.ok G0 Tryz.func271 ⟨ZFN,ZHv,ZKy,trivial⟩ rfl rfl (by kernel_rfl)
noncomputable def ZOq:FD U:=⟨321,Tryz.f321,[ZOr.sg],[.p (.sl (.st 3)),.fn 271 [] [.pp (.st 6)]],[],[.p (.int .i64)],[],[],Zpp,Zpp,
.lr 94101 [0,1,7,8] [] [ZFc,.fn 271 [] [.pp (.st 6)],qe0,qe0] [] 0 [] [] [] [] ZoY Zqx (fun _=> .nil) <|
.nil⟩
theorem ZKw:Zeg X0.E 321 ZOq.sig:=ZOq.ok G0 Tryz.func321 ⟨ZKx,trivial⟩ rfl rfl (by kernel_rfl)
noncomputable def ZOp:FD U:=⟨270,Tryz.f270,[ZOq.sg],[.p (.sl (.st 3)),.fn 271 [] [.pp (.st 6)]],[],[.p .bool],[],[],ZoZ,ZoZ,
.nil⟩
theorem ZKv:Zeg X0.E 270 ZOp.sig:=ZOp.ok G0 Tryz.func270 ⟨ZKw,trivial⟩ rfl rfl (by kernel_rfl)
noncomputable def ZOo:FD U:=⟨215,Tryz.f215,[ZMV.sg,ZNb.sg,ZOp.sg],[.p (.st 6)],[],[.p .bool],[],[],ZAl,ZAl,
.j 9101 [1,27] [] [qe2,qe4] [ZDp] Zvj <|
.nil⟩
theorem ZKu:Zeg X0.E 215 ZOo.sig:=ZOo.ok G0 Tryz.func215 ⟨ZFN,ZHv,ZKv,trivial⟩ rfl rfl (by kernel_rfl)
noncomputable def ZOn:FD U:=⟨214,Tryz.f214,[ZOo.sg],[.p (.sl (.st 6)),.fn 215 [] []],[],[.p .bool],[],[],Ztn,Ztn,
.lr 94101 [1,7,8,9] [] [.fn 215 [] [],ZFy,qe0,qe0] [] 0 [] [] [] [] ZtY ZwH (fun _=> .nil) <|
.nil⟩
theorem ZKt:Zeg X0.E 214 ZOn.sig:=ZOn.ok G0 Tryz.func214 ⟨ZKu,trivial⟩ rfl rfl (by kernel_rfl)
noncomputable def ZOm:FD U:=⟨148,Tryz.f148,[ZOn.sg],[.p (.sl (.st 6))],[],[.p .bool],[],[],ZxF,ZxF,
.lr 94101 [0,3] [] [ZFy,qe0] [] 0 [0] [] [ZFy] [] Zxp ZzK (fun _=> .nil) <|
.j 9111 [2] [] [qe4] [] Zxq <|
.nil⟩
theorem ZKs:Zeg X0.E 148 ZOm.sig:=ZOm.ok G0 Tryz.func148 ⟨ZKt,trivial⟩ rfl rfl (by kernel_rfl)
noncomputable def ZOl:FD U:=⟨96,Tryz.f96,[ZOm.sg],[.p (.sl (.st 6))],[],[.p .bool],[],[],ZvV,ZvV,
.nil⟩
theorem ZKr:Zeg X0.E 96 ZOl.sig:=ZOl.ok G0 Tryz.func96 ⟨ZKs,trivial⟩ rfl rfl (by kernel_rfl)
noncomputable def ZOk:FD U:=⟨196,Tryz.f196,[D49.sg,D53.sg],[.p (.st 1),.p (.st 1)],[],[.p (.st 0),.p (.st 0)],[],[],ZAs,ZAs,
.nil⟩
theorem ZKq:Zeg X0.E 196 ZOk.sig:=ZOk.ok G0 Tryz.func196 ⟨ZIM,ZIJ,trivial⟩ rfl rfl (by kernel_rfl)
noncomputable def ZOj:FD U:=⟨197,Tryz.f197,[D46.sg,ZOk.sg,D58.sg],[.fn 196 [] [],.p (.st 1),.p (.st 1)],[],[.p (.st 1),.p (.int .i64)],[],[],Zp8,Zp8,
.j 9101 [0,4,5,6,18] [] [.fn 196 [] [],qe2,qe6,ZHD,qe4] [ZE5,ZE5,ZM2,qo3,qo3] ZrX <|
.nil⟩
theorem ZKp:Zeg X0.E 197 ZOj.sig:=ZOj.ok G0 Tryz.func197 ⟨ZHl,ZKq,ZHk,trivial⟩ rfl rfl (by kernel_rfl)
noncomputable def ZOi:FD U:=⟨127,Tryz.f127,[D46.sg,D50.sg,ZOj.sg],[.p (.st 1),.p (.st 1)],[],[.p (.st 1),.p (.int .i64)],[],[],Zyp,Zyp,
.nil⟩
theorem ZKo:Zeg X0.E 127 ZOi.sig:=ZOi.ok G0 Tryz.func127 ⟨ZHl,ZIL,ZKp,trivial⟩ rfl rfl (by kernel_rfl)
noncomputable def ZOh:FD U:=⟨126,Tryz.f126,[],[.p (.st 1),.p (.int .i64)],[],[.p (.st 1)],[],[],ZCu,ZCu,
.nil⟩
theorem ZKn:Zeg X0.E 126 ZOh.sig:=ZOh.ok G0 Tryz.func126 trivial rfl rfl (by kernel_rfl)
noncomputable def ZOg:FD U:=⟨83,Tryz.f83,[ZOi.sg,ZOh.sg],[.p (.st 1),.p (.st 1)],[],[.p (.st 1)],[],[],ZBP,ZBP,
.nil⟩
theorem ZKm:Zeg X0.E 83 ZOg.sig:=ZOg.ok G0 Tryz.func83 ⟨ZKo,ZKn,trivial⟩ rfl rfl (by kernel_rfl)
noncomputable def ZOf:FD U:=⟨82,Tryz.f82,[D61.sg,D54.sg],[.p (.st 1)],[],[.p (.int .i64)],[],[],ZCj,ZCj,
.nil⟩
theorem ZKl:Zeg X0.E 82 ZOf.sig:=ZOf.ok G0 Tryz.func82 ⟨ZHj,ZFv,trivial⟩ rfl rfl (by kernel_rfl)
noncomputable def ZOe:FD U:=⟨97,Tryz.f97,[ZOf.sg],[.p (.st 1)],[],[.p .bool],[],[],Zyk,Zyk,
.nil⟩
theorem ZKk:Zeg X0.E 97 ZOe.sig:=ZOe.ok G0 Tryz.func97 ⟨ZKl,trivial⟩ rfl rfl (by kernel_rfl)
noncomputable def ZOd:FD U:=⟨151,Tryz.f151,[D54.sg],[.p (.st 1),.p (.st 1)],[],[.p (.int .i64)],[],[],ZAS,ZAS,
.nil⟩
theorem ZKj:Zeg X0.E 151 ZOd.sig:=ZOd.ok G0 Tryz.func151 ⟨ZFv,trivial⟩ rfl rfl (by kernel_rfl)
noncomputable def ZNa:FD U:=⟨150,Tryz.f150,[],[.p (.sl (.int .i64))],[],[.p (.int .i64)],[],[],ZAd,ZAd,
.lr 941011 [3,6,7,8] [] [qe0,ZFd,qe0,qe0] [] 0 [3] [] [qe0] [] Zzl ZBU (fun _=> .nil) <|
.nil⟩
theorem ZHu:Zeg X0.E 150 ZNa.sig:=ZNa.ok G0 Tryz.func150 trivial rfl rfl (by kernel_rfl)
noncomputable def ZOc:FD U:=⟨217,Tryz.f217,[D27.sg,ZNa.sg],[.p (.st 9),.p (.st 9)],[],[.p .bool],[],[],Zz9,Zz9,
.nil⟩
theorem ZKi:Zeg X0.E 217 ZOc.sig:=ZOc.ok G0 Tryz.func217 ⟨ZIU,ZHu,trivial⟩ rfl rfl (by kernel_rfl)
noncomputable def ZOb:FD U:=⟨152,Tryz.f152,[ZOc.sg],[.p (.st 9),.p (.st 9)],[],[.p (.int .i64)],[],[],ZA0,ZA0,
.nil⟩
theorem ZKh:Zeg X0.E 152 ZOb.sig:=ZOb.ok G0 Tryz.func152 ⟨ZKi,trivial⟩ rfl rfl (by kernel_rfl)
noncomputable def ZIk:FD U:=⟨99,Tryz.f99,[ZOd.sg,ZOb.sg,ZNa.sg],[.p (.st 10),.p (.st 10)],[],[.p (.int .i64)],[],[],Zos,Zos,
.nil⟩
theorem ZDn:Zeg X0.E 99 ZIk.sig:=ZIk.ok G0 Tryz.func99 ⟨ZKj,ZKh,ZHu,trivial⟩ rfl rfl (by kernel_rfl)
noncomputable def ZOa:FD U:=⟨274,Tryz.f274,[ZIk.sg],[.arr (.st 10),.p (.int .i64),.p (.int .i64),.fn 99 [] []],[(0,.arr (.st 10))],[],[],[],ZpV,ZoI,
.lo 941 [0,1,2,3,8] [] ZNn [qo7] 0 [] [] [] [qo7] ZoA ZqX (fun n0=> .lo 941401541 [0,1,2,3,8,9] [] qs1 [qo7] 2 [0,1,2,3,8] [] ZNn [qo7] Zod (ZqY (ZoA n0)) (fun n1=> .j 910541401541 [0,1,2,3,8,9,34] [] qs7 [qo7] (Zpo (Zod n1)) <|
.nil) <|
.nil) <|
.nil⟩
theorem ZKg:Zeg X0.E 274 ZOa.sig:=ZOa.okA G0 Tryz.func274 ⟨ZDn,trivial⟩ (by kernel_rfl) (by kernel_rfl)
noncomputable def ZN9:FD U:=⟨322,Tryz.f322,[ZIk.sg],[.arr (.st 10),.p (.int .i64),.p (.int .i64),.p (.int .i64),.fn 99 [] []],[(0,.arr (.st 10))],[],[],[],Zq4,ZoF,
.lr 941 [0,2,3,4,10] [] ZNn [qo7] 0 [] [] [] [qo7] Zoz ZsK (fun n0=> .j 910114541 [0,2,3,4,10,11,40] [] qs7 [qo7] (Zqn (Zoz n0)) <|
.j 91114541 [0,2,3,4,10,11] [] qs1 [qo7] (Zpb (Zoz n0)) <|
.nil) <|
.nil⟩
theorem ZKf:Zeg X0.E 322 ZN9.sig:=ZN9.okA G0 Tryz.func322 ⟨ZDn,trivial⟩ (by kernel_rfl) (by kernel_rfl)
noncomputable def ZN8:FD U:=⟨275,Tryz.f275,[ZN9.sg],[.arr (.st 10),.p (.int .i64),.p (.int .i64),.fn 99 [] []],[(0,.arr (.st 10))],[],[],[],Zq5,ZqC,
.lo 9410111 [0,3,8,9,10,11] [] [qe8,ZFz,qe0,qe0,qe0,qe0] [qo7] 0 [0,3,8,9,10] [] [qe8,ZFz,qe0,qe0,qe0] [qo7] Zqt ZsM (fun _=> .nil) <|
.lo 9411111 [0,3,8,9,12] [] [qe8,ZFz,qe0,qe0,qe0] [qo7] 2 [] [] [] [qo7] Zqs ZsL (fun _=> .nil) <|
.nil⟩
theorem ZKe:Zeg X0.E 275 ZN8.sig:=ZN8.okA G0 Tryz.func275 ⟨ZKf,trivial⟩ (by kernel_rfl) (by kernel_rfl)
noncomputable def ZN7:FD U:=⟨246,Tryz.f246,[D87.sg],[.p (.int .i64)],[],[.p (.int .u64)],[],[],Ztv,Ztv,
.nil⟩
theorem ZKd:Zeg X0.E 246 ZN7.sig:=ZN7.ok G0 Tryz.func246 ⟨ZHh,trivial⟩ rfl rfl (by kernel_rfl)
noncomputable def ZN6:FD U:=⟨247,Tryz.f247,[],[.box (.int .u64)],[(0,.box (.int .u64))],[.p (.int .u64)],[],[],Zue,Zue,
.nil⟩
theorem ZKc:Zeg X0.E 247 ZN6.sig:=ZN6.ok G0 Tryz.func247 trivial rfl rfl (by kernel_rfl)
noncomputable def ZN5:FD U:=⟨276,Tryz.f276,[ZN7.sg,ZN6.sg],[.arr (.st 10),.p (.int .i64),.p (.int .i64),.fn 99 [] []],[(0,.arr (.st 10))],[],[],[],ZpX,ZpB,
.lo 94111211 [0,1,8,9,10,11] [] [qe8,qe0,qe0,qe2,qe5,qe0] [qo7,.boxS (.int .u64)] 0 [] [] [] [qo7] ZoB ZqZ (fun n0=> .j 91140154111211 [0,1,8,9,10,11,12] [] [qe8,qe0,qe0,qe2,qe5,qe0,qe0] [qo7,.boxS (.int .u64)] (ZoC (ZoB n0)) <|
.nil) <|
.nil⟩
theorem ZKb:Zeg X0.E 276 ZN5.sig:=ZN5.okA G0 Tryz.func276 ⟨ZKd,ZKc,trivial⟩ (by kernel_rfl) (by kernel_rfl)
noncomputable def ZN4:FD U:=⟨347,Tryz.f347,[ZIk.sg],[.arr (.st 10),.p (.int .i64),.p (.int .i64),.box (.int .i64),.fn 99 [] []],[(0,.arr (.st 10)),(3,.box (.int .i64))],[.p (.int .i64),.p (.int .i64)],[],[],ZuR,ZoX,
.nil⟩
theorem ZKa:Zeg X0.E 347 ZN4.sig:=ZN4.okA G0 Tryz.func347 ⟨ZDn,trivial⟩ (by kernel_rfl) (by kernel_rfl)
noncomputable def ZM9:FD U:=⟨324,Tryz.f324,[ZN4.sg],[.arr (.st 10),.p (.int .i64),.p (.int .i64),.p (.int .i64),.box (.int .i64),.fn 99 [] []],[(0,.arr (.st 10)),(4,.box (.int .i64))],[.p (.int .i64)],[],[],ZuS,ZpO,
.nil⟩
theorem ZHt:Zeg X0.E 324 ZM9.sig:=ZM9.okA G0 Tryz.func324 ⟨ZKa,trivial⟩ (by kernel_rfl) (by kernel_rfl)
noncomputable def ZN3:FD U:=⟨323,Tryz.f323,[ZM9.sg],[.arr (.st 10),.p (.int .i64),.box (.int .i64),.fn 99 [] []],[(0,.arr (.st 10)),(2,.box (.int .i64))],[.p (.int .i64)],[],[],Zrs,Zoc,
.nil⟩
theorem ZJ9:Zeg X0.E 323 ZN3.sig:=ZN3.okA G0 Tryz.func323 ⟨ZHt,trivial⟩ (by kernel_rfl) (by kernel_rfl)
noncomputable def ZN2:FD U:=⟨277,Tryz.f277,[ZN3.sg,ZM9.sg],[.arr (.st 10),.p (.int .i64),.p (.int .i64),.fn 99 [] []],[(0,.arr (.st 10))],[.p (.int .i64),.p (.int .i64)],[],[],Zqu,ZpW,
.j 91210111111 [0,3,11,12,13,14] [] [qe8,ZFz,qe2,qe0,qe0,qe0] [qo7,.boxS (.int .i64)] ZoO <|
.j 91111111 [11,13] [] [qe2,qe0] [qo7,.boxS (.int .i64)] ZoN <|
.nil⟩
theorem ZJ8:Zeg X0.E 277 ZN2.sig:=ZN2.okA G0 Tryz.func277 ⟨ZJ9,ZHt,trivial⟩ (by kernel_rfl) (by kernel_rfl)
noncomputable def ZN1:FD U:=⟨278,Tryz.f278,[],[.arr (.st 10),.p (.int .i64),.p (.int .i64),.fn 99 [] []],[(0,.arr (.st 10))],[],[],[],Zp9,ZpK,
.lo 9411 [0,8,9] [] [qe8,qe0,qe0] [qo7] 0 [] [] [] [qo7] ZpA Zrc (fun _=> .nil) <|
.nil⟩
theorem ZJ7:Zeg X0.E 278 ZN1.sig:=ZN1.okA G0 Tryz.func278 trivial (by kernel_rfl) (by kernel_rfl)
noncomputable def ZN0:FD U:=⟨279,Tryz.f279,[ZIk.sg],[.arr (.st 10),.p (.int .i64),.p (.int .i64),.fn 99 [] []],[(0,.arr (.st 10))],[.p .bool],[],[],ZoS,ZoJ,
.lr 941011 [0,1,2,3,9,10] [] qs1 [qo7] 0 [] [] [] [qo7] ZnS ZpE (fun n0=> .lo 940401541011 [0,1,2,3,9,10] [] qs1 [qo7] 2 [0,1,2,3,9,10] [] qs1 [qo7] ZnZ (ZpH (ZnS n0)) (fun n1=> .j 910540401541011 [0,1,2,3,9,10,36] [] qs7 [qo7] (ZoE (ZnZ n1)) <|
.nil) <|
.lo 9412101111401541011 [0,1,2,3,9,10,11] [] [qe8,qe0,qe0,ZFz,qe0,qe0,qe0] [qo7] 4 [0,1,2,3,9,10] [] qs1 [qo7] Zoa (ZpG (ZnS n0)) (fun _=> .nil) <|
.j 9111111401541011 [0,1,2,3,9,10,104] [] qs7 [qo7] (Zob (ZnS n0)) <|
.lo 9412111111401541011 [0,1,2,3,9,10,12] [] [qe8,qe0,qe0,ZFz,qe0,qe0,qe0] [qo7] 6 [0,1,2,3,9,10] [] qs1 [qo7] Zn9 (ZpF (ZnS n0)) (fun _=> .nil) <|
.nil) <|
.nil⟩
theorem ZJ6:Zeg X0.E 279 ZN0.sig:=ZN0.okA G0 Tryz.func279 ⟨ZDn,trivial⟩ (by kernel_rfl) (by kernel_rfl)
noncomputable def ZNZ:FD U:=⟨280,Tryz.f280,[ZIk.sg],[.arr (.st 10),.p (.int .i64),.p (.int .i64),.p (.int .i64),.fn 99 [] []],[(0,.arr (.st 10))],[.p (.int .i64)],[],[],ZpM,Zpn,
.lo 940111 [0,1,4,11,12] [] qs0 [qo7] 0 [11] [] [qe0] [qo7] Zn0 ZqM (fun n0=> .lo 9404540111 [0,1,4,11,12] [] qs0 [qo7] 2 [0,1,4,11,12] [] qs0 [qo7] Zn6 (ZqO (Zn0 n0)) (fun n1=> .j 9105404540111 [0,1,4,11,12,47] [] qs2 [qo7] (Zpe (Zn6 n1)) <|
.nil) <|
.lo 94014540111 [0,1,4,11,12] [] qs0 [qo7] 4 [0,1,4,11,12] [] qs0 [qo7] Zn5 (ZqN (Zn0 n0)) (fun n1=> .j 91054014540111 [0,1,4,11,12,65] [] qs2 [qo7] (Zpd (Zn5 n1)) <|
.nil) <|
.nil) <|
.nil⟩
theorem ZJ5:Zeg X0.E 280 ZNZ.sig:=ZNZ.okA G0 Tryz.func280 ⟨ZDn,trivial⟩ (by kernel_rfl) (by kernel_rfl)
noncomputable def ZNY:FD U:=⟨281,Tryz.f281,[ZIk.sg],[.arr (.st 10),.p (.int .i64),.p (.int .i64),.p (.int .i64),.fn 99 [] []],[(0,.arr (.st 10))],[.p (.int .i64),.p .bool],[],[],ZqU,Zqr,
.lo 940111 [0,1,4,12,13] [] qs0 [qo7] 0 [0,1,4,12,13] [] qs0 [qo7] Zop Zsp (fun n0=> .j 910540111 [0,1,4,12,13,47] [] qs2 [qo7] (Zqd (Zop n0)) <|
.nil) <|
.lo 9401111 [0,1,4,12,13] [] qs0 [qo7] 2 [0,1,4,12,13] [] qs0 [qo7] Zoo Zso (fun n0=> .j 9105401111 [0,1,4,12,13,66] [] qs2 [qo7] (Zqc (Zoo n0)) <|
.nil) <|
.lo 940111111111 [0,1,4,12,13] [] qs0 [qo7] 4 [0,1,13] [] [qe8,qe0,qe0] [qo7] Zn8 Zsl (fun n0=> .lo 9404540111111111 [0,1,4,12,13] [] qs0 [qo7] 6 [0,1,4,12,13] [] qs0 [qo7] Zon (Zsn (Zn8 n0)) (fun n1=> .j 9105404540111111111 [0,1,4,12,13,120] [] qs2 [qo7] (Zqb (Zon n1)) <|
.nil) <|
.lo 94014540111111111 [0,1,4,12,13] [] qs0 [qo7] 8 [0,1,4,12,13] [] qs0 [qo7] Zom (Zsm (Zn8 n0)) (fun n1=> .j 91054014540111111111 [0,1,4,12,13,139] [] qs2 [qo7] (Zqa (Zom n1)) <|
.nil) <|
.nil) <|
.nil⟩
theorem ZJ4:Zeg X0.E 281 ZNY.sig:=ZNY.okA G0 Tryz.func281 ⟨ZDn,trivial⟩ (by kernel_rfl) (by kernel_rfl)
noncomputable def ZIj (n_:Nat):FD U:=⟨216,Tryz.f216,[],[.arr (.st 10),.p (.int .i64),.p (.int .i64),.p (.int .i64),.fn 99 [] []],[(0,.arr (.st 10))],[],[],[],ZnJ n_,ZnJ n_,
.nil⟩
noncomputable def ZNX (n_:Nat):FD U:=⟨216,Tryz.f216,[ZOa.sg,ZN8.sg,ZN5.sg,ZN2.sg,ZN1.sg,ZN0.sg,ZIk.sg,ZNZ.sg,ZNY.sg,(ZIj n_).sg],[.arr (.st 10),.p (.int .i64),.p (.int .i64),.p (.int .i64),.fn 99 [] []],[(0,.arr (.st 10))],[],[],[],ZqT (ZnJ n_),ZnJ (n_+1),
.lz 9411 [0,1,2,3,4,10,11] [] [qe8,qe0,qe0,qe0,ZFz,qe4,qe4] [qo7] (ZnY (ZnJ n_)) (fun n0=> .j 9111145411 [0,1,2,3,4,10,11,12] [] [qe8,qe0,qe0,qe0,ZFz,qe4,qe4,qe0] [qo7] ((Zpl (ZnJ n_)) ((ZnY (ZnJ n_)) n0)) <|
.j 911111145411 [0,1,2,3,4,10,11,12,13,14] [] [qe8,qe0,qe0,qe0,ZFz,qe4,qe4,qe0,qe0,qe0] [qo7] ((Zpk (ZnJ n_)) ((ZnY (ZnJ n_)) n0)) <|
.j 91011111145411 [0,1,2,3,4,10,11,12,13,75] [] qs14 [qo7] ((ZoG (ZnJ n_)) ((ZnY (ZnJ n_)) n0)) <|
.j 9111111145411 [0,1,2,3,4,10,11,12,13] [] [qe8,qe0,qe0,qe0,ZFz,qe4,qe4,qe0,qe0] [qo7] ((Zpj (ZnJ n_)) ((ZnY (ZnJ n_)) n0)) <|
.j 910111111145411 [0,1,2,3,4,10,11,12,13,97] [] qs14 [qo7] ((Zpi (ZnJ n_)) ((ZnY (ZnJ n_)) n0)) <|
.nil) <|
.nil⟩
theorem ZIi (n_:Nat):Zeg X0.E 216 (ZIj n_).sig:=by
 induction n_ with
 |zero=>
  refine Zj9.ok (S:=(ZIj 0).FS) uok fun v r h=> ?_
  have h2:(none:Option _)=some r:=h;cases h2
 |succ n_ ih=>exact(ZNX n_).okA G0 Tryz.func216 ⟨ZKg,ZKe,ZKb,ZJ8,ZJ7,ZJ6,ZDn,ZJ5,ZJ4,ih,trivial⟩ (by kernel_rfl) (by kernel_rfl)
noncomputable abbrev D159:FD U:=ZIj big
theorem ZJ3:Zeg X0.E 216 D159.sig:=ZIi big
noncomputable def ZNW:FD U:=⟨149,Tryz.f149,[D87.sg,D159.sg],[.arr (.st 10),.fn 99 [] []],[(0,.arr (.st 10))],[],[],[],Ztw,Zqv,
.nil⟩
theorem ZJ2:Zeg X0.E 149 ZNW.sig:=ZNW.okA G0 Tryz.func149 ⟨ZHh,ZJ3,trivial⟩ (by kernel_rfl) (by kernel_rfl)
noncomputable def ZNV:FD U:=⟨98,Tryz.f98,[ZNW.sg],[.arr (.st 10),.p (.int .i64),.fn 99 [] []],[(0,.arr (.st 10))],[.view 0],[],[],Zy7,Zx2,
.nil⟩
theorem ZJ1:Zeg X0.E 98 ZNV.sig:=ZNV.okA G0 Tryz.func98 ⟨ZJ2,trivial⟩ (by kernel_rfl) (by kernel_rfl)
noncomputable def ZNU:FD U:=⟨51,Tryz.f51,[ZOl.sg,D91.sg,D63.sg,D62.sg,ZOg.sg,ZOe.sg,ZNV.sg],[.p (.sl (.st 6)),.p (.st 3),.p (.int .i64)],[],[.p (.sl (.st 10)),.p (.int .i64)],[],[],ZzV,ZzV,
.j 91401 [0,2,4,17] [] [ZFy,qe0,qe2,qe4] [.boxS (.st 3)] Zzz <|
.j 9131401 [0,2,4,24] [] [ZFy,qe0,qe2,qe4] [.boxS (.st 3)] Zzy <|
.lo 94101111 [2,8,9,36,37,38] [8] [qe0,ZDT,qe9,ZFy,qe0,qe0] [qo7] 1 [2,9] [] [qe0,qe9] [qo7] ZxI ZAI (fun n0=> .lo 9411401154101111 [2,8,9,11,36,37,38,43,44,45] [8] qs13 [qo7,ZDp] 3 [2,8,9,36,37,38] [] [qe0,ZDT,qe9,ZFy,qe0,qe0] [qo7] Zun (ZAJ (ZxI n0)) (fun n1=> .j 9111140115411401154101111 [2,8,9,11,12,16,36,37,38,43,44,45,65] [] [qe0,ZDT,qe9,qe6,qe0,ZHD,ZFy,qe0,qe0,ZFc,qe0,qe0,qe4] [qo7,ZDp,ZE5] (Zzx (Zun n1)) <|
.j 91115411401154101111 [2,8,9,11,36,37,38,43,44,45] [] qs13 [qo7,ZDp] (Zzw (Zun n1)) <|
.nil) <|
.nil) <|
.nil⟩
theorem ZJ0:Zeg X0.E 51 ZNU.sig:=ZNU.ok G0 Tryz.func51 ⟨ZKr,ZHg,ZHi,ZIG,ZKm,ZKk,ZJ1,trivial⟩ rfl rfl (by kernel_rfl)
noncomputable def ZM8:FD U:=⟨88,Tryz.f88,[D4.sg,D6.sg,D9.sg],[.p (.st 1)],[],[.p .bool],[],[],Zpf,Zpf,
.j 9101 [1,24] [] [qe2,qe4] [ZE5] Zp2 <|
.nil⟩
theorem ZHs:Zeg X0.E 88 ZM8.sig:=ZM8.ok G0 Tryz.func88 ⟨ZMA,ZIh,ZL8,trivial⟩ rfl rfl (by kernel_rfl)
noncomputable def ZNT:FD U:=⟨138,Tryz.f138,[D1.sg],[.p (.sl (.int .u32)),.p (.sl (.int .u32))],[],[.p (.sl (.int .u32))],[],[],Zt5,Zt5,
.lo 941011 [0,1,5,6] [] [qe1,qe1,qe9,qe0] [qo3] 0 [5] [] [qe9] [qo3] Zse Zw4 (fun n0=> .lo 94101401541011 [0,1,5,6,7,8] [] [qe1,qe1,qe9,qe0,qe5,qe0] [qo3] 2 [0,1,5,6,7] [] [qe1,qe1,qe9,qe0,qe5] [qo3] Zux (Zw5 (Zse n0)) (fun _=> .nil) <|
.nil) <|
.nil⟩
theorem ZJZ:Zeg X0.E 138 ZNT.sig:=ZNT.ok G0 Tryz.func138 ⟨ZGw,trivial⟩ rfl rfl (by kernel_rfl)
noncomputable def ZM7:FD U:=⟨90,Tryz.f90,[ZNT.sg,D2.sg],[.p (.st 0),.p (.st 0)],[],[.p (.st 0)],[],[],ZnX,ZnX,
.nil⟩
theorem ZHr:Zeg X0.E 90 ZM7.sig:=ZM7.ok G0 Tryz.func90 ⟨ZJZ,ZHn,trivial⟩ rfl rfl (by kernel_rfl)
noncomputable def ZM6:FD U:=⟨91,Tryz.f91,[D2.sg],[.p (.st 0)],[],[.p (.st 0)],[],[],Zp3,Zp3,
.nil⟩
theorem ZHq:Zeg X0.E 91 ZM6.sig:=ZM6.ok G0 Tryz.func91 ⟨ZHn,trivial⟩ rfl rfl (by kernel_rfl)
noncomputable def ZNS:FD U:=⟨136,Tryz.f136,[],[.p (.sl (.int .u32)),.p (.sl (.int .u32))],[],[.own (.int .u32)],[],[],Zr1,Zr1,
.lo 9410111 [0,1,5,6,7] [] ZNm [qo3] 0 [5,6] [] [qe9,qe5] [qo3] ZpD Zxd (fun n0=> .j 9105410111 [0,1,5,6,7,17] [] [qe1,qe1,qe9,qe5,qe0,qe4] [qo3] (ZqH (ZpD n0)) <|
.j 914015410111 [0,1,5,6,7] [] ZNm [qo3] (Zsi (ZpD n0)) <|
.j 9114015410111 [0,1,5,6,7] [] ZNm [qo3] (Zsh (ZpD n0)) <|
.nil) <|
.nil⟩
theorem ZJY:Zeg X0.E 136 ZNS.sig:=ZNS.ok G0 Tryz.func136 trivial rfl rfl (by kernel_rfl)
noncomputable def ZM5:FD U:=⟨89,Tryz.f89,[ZNS.sg,D2.sg,D6.sg,D7.sg],[.p (.st 0),.p (.st 0)],[],[.p (.st 0)],[],[],Zql,Zql,
.nil⟩
theorem ZHp:Zeg X0.E 89 ZM5.sig:=ZM5.ok G0 Tryz.func89 ⟨ZJY,ZHn,ZIh,ZJR,trivial⟩ rfl rfl (by kernel_rfl)
noncomputable def ZNR:FD U:=⟨46,Tryz.f46,[ZM8.sg,ZM7.sg,ZM6.sg,ZM5.sg],[.p (.st 1),.p (.st 1)],[],[.p (.int .i64)],[],[],Zt8,Zt8,
.j 9101 [2,3,13] [] ZKQ [ZE5,ZE5] ZuD <|
.nil⟩
theorem ZJX:Zeg X0.E 46 ZNR.sig:=ZNR.ok G0 Tryz.func46 ⟨ZHs,ZHr,ZHq,ZHp,trivial⟩ rfl rfl (by kernel_rfl)
noncomputable def ZNQ:FD U:=⟨44,Tryz.f44,[ZNR.sg],[.p (.st 1),.p (.st 1)],[],[.p .bool],[],[],Zri,Zri,
.nil⟩
theorem ZJW:Zeg X0.E 44 ZNQ.sig:=ZNQ.ok G0 Tryz.func44 ⟨ZJX,trivial⟩ rfl rfl (by kernel_rfl)
noncomputable def ZNP:FD U:=⟨153,Tryz.f153,[D12.sg],[.p (.st 0),.p (.st 0)],[],[.p (.st 1),.p (.int .i64)],[],[],Zsd,Zsd,
.j 91011 [4,6,21] [] ZKQ [ZNq,ZE5,qo3,qo3] Zs2 <|
.nil⟩
theorem ZJV:Zeg X0.E 153 ZNP.sig:=ZNP.ok G0 Tryz.func153 ⟨ZIY,trivial⟩ rfl rfl (by kernel_rfl)
noncomputable def ZNO:FD U:=⟨100,Tryz.f100,[ZM8.sg,ZM7.sg,ZM6.sg,ZM5.sg,ZNP.sg],[.p (.st 1),.p (.st 1)],[],[.p (.st 1),.p (.int .i64)],[],[],Zt7,Zt7,
.j 9101 [2,3,4,13] [] [qe2,qe6,ZHD,qe4] [ZE5,ZE5,ZM2,qo3,qo3] ZuC <|
.nil⟩
theorem ZJU:Zeg X0.E 100 ZNO.sig:=ZNO.ok G0 Tryz.func100 ⟨ZHs,ZHr,ZHq,ZHp,ZJV,trivial⟩ rfl rfl (by kernel_rfl)
noncomputable def ZNN:FD U:=⟨52,Tryz.f52,[ZNO.sg],[.p (.st 1),.p (.st 1)],[],[.p (.st 1)],[],[],Zt4,Zt4,
.nil⟩
theorem ZJT:Zeg X0.E 52 ZNN.sig:=ZNN.ok G0 Tryz.func52 ⟨ZJU,trivial⟩ rfl rfl (by kernel_rfl)
noncomputable def ZNM:FD U:=⟨45,Tryz.f45,[D16.sg],[],[],[.p (.st 1)],[],[],Zta,Zta,
.nil⟩
theorem ZJS:Zeg X0.E 45 ZNM.sig:=ZNM.ok G0 Tryz.func45 ⟨ZHo,trivial⟩ rfl rfl (by kernel_rfl)
noncomputable def D175:FD U:=⟨10,Tryz.f10,[D0.sg,D92.sg,D93.sg,ZOv.sg,ZNg.sg,D91.sg,ZNU.sg,D63.sg,D16.sg,ZNQ.sg,ZNN.sg,D65.sg,ZNM.sg],[.p (.sl (.int .i64))],[],[.p .bool],[],[],Zq3,Zq3,
.lr 9410111111111 [6,7,8,9,46,47,48] [6] [ZDT,ZGM,qe0,qe0,ZFy,qe0,qe0] [] 0 [7,8,9] [] [ZGM,qe0,qe0] [] Zow ZsH (fun n0=> .lr 941140115410111111111 [6,7,8,9,11,46,47,48,53,54,55] [6] qs11 [ZDp] 2 [6,7,8,9,46,47,48] [] [ZDT,ZGM,qe0,qe0,ZFy,qe0,qe0] [] ZnW (ZsI (Zow n0)) (fun n1=> .j 910114011541140115410111111111 [6,7,8,9,11,12,14,46,47,48,53,54,55,74] [] [ZDT,ZGM,qe0,qe0,qe2,qe0,qe6,ZFy,qe0,qe0,ZFc,qe0,qe0,qe4] [ZDp,ZE5] (Zqm (ZnW n1)) <|
.lo 9410111114011541140115410111111111 [6,7,8,9,11,12,14,16,46,47,48,53,54,55,77,78,79] [] qs3 [ZDp,ZE5] 4 [6,7,8,9,11,14,16,46,47,48,53,54,55] [] [ZDT,ZGM,qe0,qe0,qe2,qe6,qe4,ZFy,qe0,qe0,ZFc,qe0,qe0] [ZDp,ZE5] Zov (ZsJ (ZnW n1)) (fun n2=> .j 91115410111114011541140115410111111111 [6,7,8,9,11,12,14,16,46,47,48,53,54,55,77,78,79] [] qs3 [ZDp,ZE5] (Zoy (Zov n2)) <|
.nil) <|
.j 911111114011541140115410111111111 [6,7,8,9,11,46,47,48,53,54,55,114] [] [ZDT,ZGM,qe0,qe0,qe2,ZFy,qe0,qe0,ZFc,qe0,qe0,qe4] [ZDp] (Zox (ZnW n1)) <|
.j 9111541140115410111111111 [6,7,8,9,11,46,47,48,53,54,55] [] qs11 [ZDp] (Zpa (ZnW n1)) <|
.nil) <|
.nil) <|
.lr 94101111111111 [7,8,9,19] [] [ZGM,qe0,qe0,qe0] [] 6 [7,8,9] [] [ZGM,qe0,qe0] [] Zo8 ZsG (fun _=> .nil) <|
.j 9111111111111 [2] [] [qe4] [] Zo9 <|
.nil⟩
theorem D175_ok:Zeg X0.E 10 D175.sig:=D175.ok2 G0 Tryz.func10 ⟨ZOK,ZMd,ZMc,ZKB,ZHA,ZHg,ZJ0,ZHi,ZHo,ZJW,ZJT,ZIF,ZJS,trivial⟩ rfl rfl (by kernel_rfl)
end
end Go.Proofs

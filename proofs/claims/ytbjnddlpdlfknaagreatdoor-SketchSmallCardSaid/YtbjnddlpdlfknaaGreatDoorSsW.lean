/- Printed by wip/tools/tgen.py: walks. -/
import Derived.Test.YtbjnddlpdlfknaaGreatDoorSsU
import Derived.Test.YtbjnddlpdlfknaaGreatDoorSsX
set_option linter.unusedVariables false
set_option linter.unusedSimpArgs false
set_option linter.unusedSectionVars false
namespace Go.Proofs
open Go Eng
set_option maxRecDepth 100000
noncomputable section
abbrev qe0:Sh:= .o (.v (.int .i64))
abbrev qe1:Sh:= .o (.v (.sl (.int .u32)))
abbrev qo2:ShO:= .arr (.int .u32) false
abbrev qe3:Sh:= .o (.v .bool)
abbrev qe4:Sh:= .o (.ptr (0,1,1) 0 0)
abbrev qe5:Sh:= .o (.v .str)
abbrev qe6:Sh:= .o (.full (0,1,1))
abbrev qe7:Sh:= .o (.v (.int .u64))
abbrev qo8:ShO:= .box [.o (.v .bool),.o (.full (0,2,1)),.o (.v .bool),.o (.full (0,3,1))]
abbrev qo9:ShO:= .box [.o (.v .bool),.o (.full (0,4,1)),.o (.v .bool),.o (.full (0,5,1))]
abbrev ZyL:Sh:= .o (.ptr (0,2,1) 0 0)
abbrev Zyt:Sh:= .o (.v (.int .u32))
abbrev ZzS:Sh:= .o (.ptr (0,3,1) 0 0)
abbrev ZEo:ShO:= .box [.o (.v .bool),.o (.full (0,5,1)),.o (.v .bool),.o (.full (0,6,1))]
abbrev Zzr:ShO:= .arr (.st 4) false
abbrev Zza:ShO:= .boxS (.st 2)
abbrev ZAy:Sh:= .o (.map (0,2,1))
abbrev ZAx:Sh:= .o (.sl (0,0,0))
abbrev Zzq:ShO:= .boxS (.st 5)
abbrev ZCm:Sh:= .o (.v (.sl (.st 0)))
abbrev ZzR:ShO:= .boxS (.st 1)
abbrev ZAF:ShO:= .map .str .bool
abbrev ZCl:Sh:= .o (.v (.sl (.st 4)))
abbrev ZCk:ShO:= .arr (.int .u8) false
abbrev qo24:ShO:= .box [.o (.v (.int .i64)),.o (.v .bool),.o (.full (0,4,1))]
abbrev ZEn:ShO:= .box [.o (.v .str),.o (.full (0,4,1))]
abbrev ZCj:ShO:= .arr (.st 0) false
abbrev ZCz:Sh:= .o (.full (0,0,0))
abbrev ZCy:Sh:= .o (.full (0,3,1))
abbrev qo29:ShO:= .box [.o (.v .bool),.o (.full (0,2,1))]
abbrev ZEa:ShO:= .map .str (.int .i64)
abbrev qo31:ShO:= .box [.o (.v .str),.o (.full (0,3,1))]
abbrev ZEb:Sh:= .o (.full (0,2,1))
abbrev ZEp:Sh:= .o (.ptr (0,4,1) 0 0)
abbrev ZCx:Sh:= .fn 73 [] []
abbrev qe35:Sh:= .o (.map (0,3,1))
abbrev qs0:List Sh:=[qe1,qe1,qe0]
abbrev qs1:List Sh:=[qe5,qe4,qe0,ZyL,qe0,qe0,qe35,ZCm,qe0,qe0]
abbrev qs2:List Sh:=[qe5,qe3]
abbrev qp3:List ShO:=[qo8,qo2,qo2]
abbrev qp4:List ShO:=[qo9,Zza,Zza,qo2,qo2]
abbrev qs5:List Sh:=[qe3,qe5,qe5,qe3]
abbrev qs6:List Sh:=[qe0,qe0,qe0,qe0,qe0]
abbrev qs7:List Sh:=[qe1,qe1,qe6,qe7,qe0]
abbrev qs8:List Sh:=[qe3,qe5,qe5]
noncomputable def D0:FD U:=⟨9,Tryz.f9,[],[.p (.sl (.int .i64))],[],[.p .bool],[],[],ZrU,ZrU,
.nil⟩
theorem ZE6:Zeg X0.E 9 D0.sig:=D0.ok G0 Tryz.func9 trivial rfl rfl (by kernel_rfl)
noncomputable def D1:FD U:=⟨178,Tryz.f178,[],[.p (.sl (.int .u32))],[],[.p (.sl (.int .u32))],[],[],ZnX,ZnX,
.lo 9401 [0] [] [qe1] [] 0 [0] [] [qe1] [] ZoB ZtP (fun n0=> .j 9105401 [0,14] [] [qe1,qe3] [] (Zsf (ZoB n0)) <|
.nil) <|
.nil⟩
theorem ZzE:Zeg X0.E 178 D1.sig:=D1.ok G0 Tryz.func178 trivial rfl rfl (by kernel_rfl)
noncomputable def D2:FD U:=⟨181,Tryz.f181,[D1.sg],[.p (.int .u64)],[],[.p (.sl (.int .u32))],[],[],Zqd,Zqd,
.nil⟩
theorem ZDX:Zeg X0.E 181 D2.sig:=D2.ok G0 Tryz.func181 ⟨ZzE,trivial⟩ rfl rfl (by kernel_rfl)
noncomputable def D3:FD U:=⟨132,Tryz.f132,[],[.p .bool,.p (.sl (.int .u32))],[],[.p (.st 2)],[],[],Zn4,Zn4,
.j 911 [4] [] [qe4] [qo29,qo2] ZsK <|
.nil⟩
theorem ZAq:Zeg X0.E 132 D3.sig:=D3.ok G0 Tryz.func132 trivial rfl rfl (by kernel_rfl)
noncomputable def D4:FD U:=⟨137,Tryz.f137,[D2.sg,D3.sg],[.p (.int .i64)],[],[.p (.st 2)],[],[],ZqY,ZqY,
.nil⟩
theorem ZEN:Zeg X0.E 137 D4.sig:=D4.ok G0 Tryz.func137 ⟨ZDX,ZAq,trivial⟩ rfl rfl (by kernel_rfl)
noncomputable def D5:FD U:=⟨155,Tryz.f155,[],[.p (.st 2)],[],[.p .bool],[],[],ZqG,ZqG,
.j 9111 [2] [] [qe3] [] Zos <|
.nil⟩
theorem ZEM:Zeg X0.E 155 D5.sig:=D5.ok G0 Tryz.func155 trivial rfl rfl (by kernel_rfl)
noncomputable def D6:FD U:=⟨109,Tryz.f109,[D5.sg],[.p (.sl (.st 2))],[],[.p .bool],[],[],ZsY,ZsY,
.lr 94101 [5,6,7] [] [.o (.v (.sl (.st 2))),qe0,qe0] [] 0 [] [] [] [] ZtA Zwg (fun _=> .nil) <|
.nil⟩
theorem ZDv:Zeg X0.E 109 D6.sig:=D6.ok G0 Tryz.func109 ⟨ZEM,trivial⟩ rfl rfl (by kernel_rfl)
noncomputable def D7:FD U:=⟨204,Tryz.f204,[],[.p (.int .i64)],[],[.p .bool],[],[],ZtX,ZtX,
.nil⟩
theorem ZEL:Zeg X0.E 204 D7.sig:=D7.ok G0 Tryz.func204 trivial rfl rfl (by kernel_rfl)
noncomputable def D8:FD U:=⟨157,Tryz.f157,[D7.sg],[.p (.int .i64),.p (.int .i64)],[],[.p (.int .i64)],[],[],ZsZ,ZsZ,
.nil⟩
theorem ZEK:Zeg X0.E 157 D8.sig:=D8.ok G0 Tryz.func157 ⟨ZEL,trivial⟩ rfl rfl (by kernel_rfl)
noncomputable def D9:FD U:=⟨205,Tryz.f205,[],[.p (.int .u32)],[],[.p .bool],[],[],ZtB,ZtB,
.nil⟩
theorem ZEJ:Zeg X0.E 205 D9.sig:=D9.ok G0 Tryz.func205 trivial rfl rfl (by kernel_rfl)
noncomputable def D10:FD U:=⟨158,Tryz.f158,[D9.sg],[.p (.int .u32),.p (.int .u32)],[],[.p (.int .i64)],[],[],ZsO,ZsO,
.nil⟩
theorem ZD8:Zeg X0.E 158 D10.sig:=D10.ok G0 Tryz.func158 ⟨ZEJ,trivial⟩ rfl rfl (by kernel_rfl)
noncomputable def D11:FD U:=⟨111,Tryz.f111,[D8.sg,D10.sg],[.p (.sl (.int .u32)),.p (.sl (.int .u32))],[],[.p (.int .i64)],[],[],Zod,Zod,
.lr 941011 [0,1,6] [] qs0 [] 0 [] [] [] [] Zqa ZrQ (fun _=> .nil) <|
.nil⟩
theorem ZAs:Zeg X0.E 111 D11.sig:=D11.ok G0 Tryz.func111 ⟨ZEK,ZD8,trivial⟩ rfl rfl (by kernel_rfl)
noncomputable def D12:FD U:=⟨199,Tryz.f199,[],[.p (.sl (.int .u32))],[],[.own (.int .u32)],[],[],Zn9,Zn9,
.j 9101 [0,4] [] [qe1,qe3] [] ZnK <|
.nil⟩
theorem ZBs:Zeg X0.E 199 D12.sig:=D12.ok G0 Tryz.func199 trivial rfl rfl (by kernel_rfl)
noncomputable def D13:FD U:=⟨231,Tryz.f231,[],[.p (.int .u32),.p (.int .u32),.p (.int .u32)],[],[.p (.int .u32),.p (.int .u32)],[],[],ZsU,ZsU,
.j 9101 [0,1,2,15] [] [Zyt,Zyt,Zyt,qe3] [] Zrc <|
.nil⟩
theorem ZD7:Zeg X0.E 231 D13.sig:=D13.ok G0 Tryz.func231 trivial rfl rfl (by kernel_rfl)
noncomputable def D14:FD U:=⟨200,Tryz.f200,[D13.sg,D1.sg],[.p (.sl (.int .u32)),.p (.int .u32)],[],[.p (.sl (.int .u32)),.p (.int .u32)],[],[],Zqv,Zqv,
.lo 9410111 [0,1,6,7,8] [] [qe1,Zyt,qe6,Zyt,qe0] [qo2] 0 [6,7] [] [qe6,Zyt] [qo2] ZqR ZsE (fun _=> .nil) <|
.nil⟩
theorem ZD6:Zeg X0.E 200 D14.sig:=D14.ok G0 Tryz.func200 ⟨ZD7,ZzE,trivial⟩ rfl rfl (by kernel_rfl)
noncomputable def D15:FD U:=⟨148,Tryz.f148,[],[.p (.int .u32)],[],[.p (.int .i64)],[],[],ZsT,ZsT,
.j 911 [0,2] [] [Zyt,qe0] [] ZsI <|
.j 9111 [0,2] [] [Zyt,qe0] [] Zqf <|
.nil⟩
theorem ZD5:Zeg X0.E 148 D15.sig:=D15.ok G0 Tryz.func148 trivial rfl rfl (by kernel_rfl)
noncomputable def D16:FD U:=⟨201,Tryz.f201,[D15.sg],[.p (.int .u32)],[],[.p (.int .i64)],[],[],Zpf,Zpf,
.nil⟩
theorem ZD4:Zeg X0.E 201 D16.sig:=D16.ok G0 Tryz.func201 ⟨ZD5,trivial⟩ rfl rfl (by kernel_rfl)
noncomputable def D17:FD U:=⟨202,Tryz.f202,[],[.p (.sl (.int .u32)),.p (.int .i64)],[],[.own (.int .u32)],[],[],Zoy,Zoy,
.lo 941011 [1,5,13,14,15] [] [qe0,qe6,qe1,qe0,qe0] [qo2] 0 [5] [] [qe6] [qo2] Zp8 ZrO (fun _=> .nil) <|
.nil⟩
theorem ZD3:Zeg X0.E 202 D17.sig:=D17.ok G0 Tryz.func202 trivial rfl rfl (by kernel_rfl)
noncomputable def D18:FD U:=⟨179,Tryz.f179,[],[.p (.int .u32),.p (.int .u32),.p (.int .u32)],[],[.p (.int .u32),.p (.int .u32)],[],[],ZqC,ZqC,
.nil⟩
theorem ZBr:Zeg X0.E 179 D18.sig:=D18.ok G0 Tryz.func179 trivial rfl rfl (by kernel_rfl)
noncomputable def D19:FD U:=⟨176,Tryz.f176,[],[.p (.int .u32),.p (.int .u32),.p (.int .u32)],[],[.p (.int .u32),.p (.int .u32)],[],[],Zrv,Zrv,
.nil⟩
theorem ZBq:Zeg X0.E 176 D19.sig:=D19.ok G0 Tryz.func176 trivial rfl rfl (by kernel_rfl)
noncomputable def D20:FD U:=⟨203,Tryz.f203,[D18.sg,D19.sg],[.part (.int .u32),.p (.sl (.int .u32))],[(0,.arr (.int .u32))],[.p (.int .u32)],[],[],ZuB,Ztz,
.lo 94011111 [0,1,5,7,8] [] [ZAx,qe1,qe0,qe7,qe7] [qo2] 0 [0,1,5,7] [] [ZAx,qe1,qe0,qe7] [qo2] ZqE Zs8 (fun n0=> .j 91054011111 [0,1,5,7,8,71] [] [ZAx,qe1,qe0,qe7,qe7,qe3] [qo2] (ZrS (ZqE n0)) <|
.nil) <|
.lo 941011111111 [0,1,5,7,9,10,82,83,84] [] [ZAx,qe1,qe0,qe7,Zyt,qe7,qe1,qe0,qe0] [qo2] 2 [0,1,5,7,9,10] [] [ZAx,qe1,qe0,qe7,Zyt,qe7] [qo2] Zs6 ZuE (fun _=> .nil) <|
.lo 941011111111111 [0,5,7,13,130,131,132] [] [ZAx,qe0,qe7,Zyt,qe1,qe0,qe0] [qo2] 4 [0,5,7,13] [] [ZAx,qe0,qe7,Zyt] [qo2] ZrR Zs7 (fun _=> .nil) <|
.nil⟩
theorem ZD2:Zeg X0.E 203 D20.sig:=D20.okA G0 Tryz.func203 ⟨ZBr,ZBq,trivial⟩ (by kernel_rfl) (by kernel_rfl)
noncomputable def D21:FD U:=⟨178,Tryz.f178,[],[.part (.int .u32)],[(0,.arr (.int .u32))],[.view 0],[],[],ZsJ,ZrV,
.lo 9401 [0] [] [ZAx] [qo2] 0 [0] [] [ZAx] [qo2] Zqb Zs5 (fun n0=> .j 9105401 [0,14] [] [ZAx,qe3] [qo2] (Zrs (Zqb n0)) <|
.nil) <|
.nil⟩
theorem ZD1:Zeg X0.E 178 D21.sig:=D21.okA G0 Tryz.func178 trivial (by kernel_rfl) (by kernel_rfl)
noncomputable def D22:FD U:=⟨177,Tryz.f177,[],[.p (.sl (.int .u32)),.p (.int .i64)],[],[.p (.int .u32)],[],[],ZpD,ZpD,
.nil⟩
theorem ZBp:Zeg X0.E 177 D22.sig:=D22.ok G0 Tryz.func177 trivial rfl rfl (by kernel_rfl)
noncomputable def D23:FD U:=⟨177,Tryz.f177,[],[.part (.int .u32),.p (.int .i64)],[(0,.arr (.int .u32))],[.p (.int .u32)],[],[],ZtO,Zrq,
.nil⟩
theorem ZD0:Zeg X0.E 177 D23.sig:=D23.okA G0 Tryz.func177 trivial (by kernel_rfl) (by kernel_rfl)
noncomputable def D24:FD U:=⟨156,Tryz.f156,[D11.sg,D12.sg,D14.sg,D1.sg,D16.sg,D17.sg,D20.sg,D21.sg,D23.sg],[.p (.sl (.int .u32)),.p (.sl (.int .u32))],[],[.p (.sl (.int .u32)),.p (.sl (.int .u32))],[],[(84,7)],Zo3,Zo3,
.lo 9410111111 [8,9,10,11,12,13] [11] [qe0,qe0,qe6,qe1,ZEb,qe0] [qo2,qo2] 1 [8,9,10,12] [] [qe0,qe0,qe6,ZEb] [qo2,qo2] ZpI ZsX (fun _=> .nil) <|
.lo 941011111111 [9,12,14,86,87] [] [qe0,qe6,.o (.sl (0,2,1)),qe0,qe0] [qo2,qo2] 3 [12,14] [] [qe6,.o (.sl (0,2,1))] [qo2,qo2] ZpH ZsW (fun _=> .nil) <|
.nil⟩
theorem ZBo:Zeg X0.E 156 D24.sig:=D24.ok G0 Tryz.func156 ⟨ZAs,ZBs,ZD6,ZzE,ZD4,ZD3,ZD2,ZD1,ZD0,trivial⟩ rfl rfl (by kernel_rfl)
noncomputable def D25:FD U:=⟨110,Tryz.f110,[D24.sg],[.p (.sl (.int .u32)),.p (.sl (.int .u32))],[],[.p (.sl (.int .u32))],[],[],Zpa,Zpa,
.lo 9401 [0,1] [] [qe1,qe1] [] 0 [0] [] [qe1] [] Zoj Zsd (fun _=> .nil) <|
.nil⟩
theorem ZBn:Zeg X0.E 110 D25.sig:=D25.ok G0 Tryz.func110 ⟨ZBo,trivial⟩ rfl rfl (by kernel_rfl)
noncomputable def D26:FD U:=⟨180,Tryz.f180,[D25.sg,D24.sg,D3.sg],[.p (.st 2),.p (.st 2)],[],[.p (.st 3)],[],[],Zph,Zph,
.nil⟩
theorem ZAr:Zeg X0.E 180 D26.sig:=D26.ok G0 Tryz.func180 ⟨ZBn,ZBo,ZAq,trivial⟩ rfl rfl (by kernel_rfl)
noncomputable def D27:FD U:=⟨136,Tryz.f136,[D6.sg,D26.sg],[.p (.st 2),.p (.st 2)],[],[.p (.st 3),.p (.int .i64)],[],[],ZtT,ZtT,
.nil⟩
theorem ZDZ:Zeg X0.E 136 D27.sig:=D27.ok G0 Tryz.func136 ⟨ZDv,ZAr,trivial⟩ rfl rfl (by kernel_rfl)
noncomputable def D28:FD U:=⟨91,Tryz.f91,[D4.sg,D27.sg],[.p (.int .i64),.p (.int .i64)],[],[.p (.st 3),.p (.int .i64)],[],[],ZuR,ZuR,
.nil⟩
theorem ZDY:Zeg X0.E 91 D28.sig:=D28.ok G0 Tryz.func91 ⟨ZEN,ZDZ,trivial⟩ rfl rfl (by kernel_rfl)
noncomputable def D29:FD U:=⟨59,Tryz.f59,[D28.sg],[],[],[.p (.st 3)],[],[],ZvM,ZvM,
.nil⟩
theorem ZBm:Zeg X0.E 59 D29.sig:=D29.ok G0 Tryz.func59 ⟨ZDY,trivial⟩ rfl rfl (by kernel_rfl)
noncomputable def D30:FD U:=⟨139,Tryz.f139,[],[],[],[.map (.int .i64) (.st 6)],[],[],Zvz,Zvz,
.nil⟩
theorem ZBl:Zeg X0.E 139 D30.sig:=D30.ok G0 Tryz.func139 trivial rfl rfl (by kernel_rfl)
noncomputable def D32:FD U:=⟨182,Tryz.f182,[(214,Zvt.sig)],[.p .str],[],[.p .str],[],[],Zw8,Zw8,
.nil⟩
theorem ZDW:Zeg X0.E 182 D32.sig:=D32.ok G0 Tryz.func182 ⟨Zv9,trivial⟩ rfl rfl (by kernel_rfl)
noncomputable def D33:FD U:=⟨257,Tryz.f257,[],[.p .str,.p .str],[],[.p .bool],[],[],ZoV,ZoV,
.j 911 [4] [] [qe3] [] ZpC <|
.nil⟩
theorem ZBk:Zeg X0.E 257 D33.sig:=D33.ok G0 Tryz.func257 trivial rfl rfl (by kernel_rfl)
noncomputable def D34:FD U:=⟨243,Tryz.f243,[D33.sg],[.p .str,.p .str],[],[.p .str,.p .bool],[],[],Zqi,Zqi,
.nil⟩
theorem ZDV:Zeg X0.E 243 D34.sig:=D34.ok G0 Tryz.func243 ⟨ZBk,trivial⟩ rfl rfl (by kernel_rfl)
noncomputable def D35:FD U:=⟨218,Tryz.f218,[D34.sg],[.p .str,.p .str],[],[.p .str,.p .bool],[],[],ZuC,ZuC,
.nil⟩
theorem ZDU:Zeg X0.E 218 D35.sig:=D35.ok G0 Tryz.func218 ⟨ZDV,trivial⟩ rfl rfl (by kernel_rfl)
noncomputable def D36:FD U:=⟨244,Tryz.f244,[D33.sg],[.p .str,.p .str],[],[.p .str],[],[],Zp4,Zp4,
.nil⟩
theorem ZDT:Zeg X0.E 244 D36.sig:=D36.ok G0 Tryz.func244 ⟨ZBk,trivial⟩ rfl rfl (by kernel_rfl)
noncomputable def D37:FD U:=⟨219,Tryz.f219,[D36.sg],[.p .str,.p .str],[],[.p .str],[],[],Zuc,Zuc,
.nil⟩
theorem ZDS:Zeg X0.E 219 D37.sig:=D37.ok G0 Tryz.func219 ⟨ZDT,trivial⟩ rfl rfl (by kernel_rfl)
noncomputable def D39:FD U:=⟨256,Tryz.f256,[(275,ZrW.sig)],[.p .str,.p .str],[],[.p (.int .i64)],[],[],Zrp,Zrp,
.j 914011 [0,1,5,16] [] [qe5,qe5,qe0,qe3] [] ZqD <|
.nil⟩
theorem ZDR:Zeg X0.E 256 D39.sig:=D39.ok G0 Tryz.func256 ⟨Zui,trivial⟩ rfl rfl (by kernel_rfl)
noncomputable def D40:FD U:=⟨245,Tryz.f245,[D39.sg],[.p .str,.p .str],[],[.p .str,.p .str,.p .bool],[],[],Zr9,Zr9,
.nil⟩
theorem ZDQ:Zeg X0.E 245 D40.sig:=D40.ok G0 Tryz.func245 ⟨ZDR,trivial⟩ rfl rfl (by kernel_rfl)
noncomputable def D41:FD U:=⟨220,Tryz.f220,[D40.sg],[.p .str,.p .str],[],[.p .str,.p .str,.p .bool],[],[],ZvH,ZvH,
.nil⟩
theorem ZBj:Zeg X0.E 220 D41.sig:=D41.ok G0 Tryz.func220 ⟨ZDQ,trivial⟩ rfl rfl (by kernel_rfl)
noncomputable def D42:FD U:=⟨221,Tryz.f221,[(214,Zvt.sig)],[.p .str,.p (.int .i64)],[],[.p .bool],[],[],Zt3,Zt3,
.j 911 [4] [] [qe3] [] ZsL <|
.nil⟩
theorem ZDP:Zeg X0.E 221 D42.sig:=D42.ok G0 Tryz.func221 ⟨Zv9,trivial⟩ rfl rfl (by kernel_rfl)
noncomputable def D43:FD U:=⟨135,Tryz.f135,[D1.sg],[.p (.sl (.int .u32)),.p (.sl (.int .u32))],[],[.p (.sl (.int .u32))],[],[],ZoO,ZoO,
.lo 941011 [1,5,17,18,19] [] [qe1,qe6,qe1,qe0,qe0] [qo2] 0 [5] [] [qe6] [qo2] Zpq ZsC (fun n0=> .lo 9410114011541011 [1,5,6,7,8,17,18,19,24,25,26] [] [qe1,qe6,qe0,Zyt,qe7,qe1,qe0,qe0,qe1,qe0,qe0] [qo2] 2 [1,5,6,8,17,18,19] [] [qe1,qe6,qe0,qe7,qe1,qe0,qe0] [qo2] ZqQ (ZsD (Zpq n0)) (fun _=> .nil) <|
.nil) <|
.nil⟩
theorem ZBi:Zeg X0.E 135 D43.sig:=D43.ok G0 Tryz.func135 ⟨ZzE,trivial⟩ rfl rfl (by kernel_rfl)
noncomputable def D44:FD U:=⟨133,Tryz.f133,[D22.sg,D19.sg,D1.sg],[.p (.sl (.int .u32)),.p (.sl (.int .u32))],[],[.p (.sl (.int .u32))],[],[],ZpG,ZpG,
.lo 9410111 [0,1,5,6,20,21] [] [qe1,qe1,qe6,Zyt,qe0,qe0] [qo2] 0 [5,6] [] [qe6,Zyt] [qo2] ZqX ZsV (fun _=> .nil) <|
.nil⟩
theorem ZBh:Zeg X0.E 133 D44.sig:=D44.ok G0 Tryz.func133 ⟨ZBp,ZBq,ZzE,trivial⟩ rfl rfl (by kernel_rfl)
noncomputable def D45:FD U:=⟨187,Tryz.f187,[D35.sg,D37.sg,D41.sg,D42.sg,D12.sg,D43.sg,D2.sg,D44.sg,D3.sg,D26.sg],[.p .str],[],[.p (.st 3),.p .bool],[],[],ZqZ,ZqZ,
.j 9111 [2,4,5] [] [qe4,qe5,qe3] qp3 ZtW <|
.j 9101111 [2,5,6,7,39] [] [qe4,qe3,qe5,qe5,qe3] qp3 Zsj <|
.lo 941011111111 [2,5,7,9,10,11,47,48,49] [9,10] [qe4,qe3,qe5,qe1,qe1,ZEb,ZCy,qe0,qe0] [qo9,qo2,ZCk,qo2,qo2] 0 [2,5,7,9,10,11] [] [qe4,qe3,qe5,qe1,qe1,ZEb] [.box [.o (.v .bool),.o (.full (0,3,1)),.o (.v .bool),.o (.full (0,4,1))],qo2,qo2,qo2] ZtV Zvg (fun _=> .nil) <|
.lo 9410111111111 [2,5,9,10,11,63,64] [11] [qe4,qe3,qe1,qe1,qe1,qe0,qe0] qp3 2 [2,5,9,11] [] [qe4,qe3,qe1,qe1] qp3 ZtU Zsi (fun _=> .nil) <|
.nil⟩
theorem ZBg:Zeg X0.E 187 D45.sig:=D45.ok G0 Tryz.func187 ⟨ZDU,ZDS,ZBj,ZDP,ZBs,ZBi,ZDX,ZBh,ZAq,ZAr,trivial⟩ rfl rfl (by kernel_rfl)
noncomputable def D48:FD U:=⟨224,Tryz.f224,[],[.p (.sl .str)],[],[.p .str],[],[],Zv0,Zv0,
.lr 941011 [3,6,7,8] [] [qe5,.o (.v (.sl .str)),qe0,qe0] [] 0 [3] [] [qe5] [] ZuS Zwh (fun _=> .nil) <|
.nil⟩
theorem ZDO:Zeg X0.E 224 D48.sig:=D48.ok G0 Tryz.func224 trivial rfl rfl (by kernel_rfl)
noncomputable def D49:FD U:=⟨188,Tryz.f188,[D45.sg,(222,Zvx.sig),D41.sg,(223,Zvl.sig),D48.sg],[.p .str],[],[.p .str,.p .bool],[],[],ZtE,ZtE,
.j 9111111 [0,9] [] [qe5,qe5] [] ZuI <|
.j 910111111 [9,43] [] qs2 [] ZuH <|
.j 91111111 [9] [] [qe5] [] ZuG <|
.nil⟩
theorem ZDN:Zeg X0.E 188 D49.sig:=D49.ok G0 Tryz.func188 ⟨ZBg,ZwD,ZBj,Zwr,ZDO,trivial⟩ rfl rfl (by kernel_rfl)
noncomputable def D50:FD U:=⟨138,Tryz.f138,[D30.sg,D32.sg,D49.sg],[.p (.int .i64),.p .str],[],[.p .str,.p .bool],[],[(26,2)],ZsP,ZsP,
.nil⟩
theorem ZDM:Zeg X0.E 138 D50.sig:=D50.ok G0 Tryz.func138 ⟨ZBl,ZDW,ZDN,trivial⟩ rfl rfl (by kernel_rfl)
noncomputable def D51:FD U:=⟨92,Tryz.f92,[D50.sg,D30.sg,D45.sg],[.p (.int .i64),.p .str],[],[.p (.st 3),.p .bool],[],[(22,2)],ZvA,ZvA,
.nil⟩
theorem ZDL:Zeg X0.E 92 D51.sig:=D51.ok G0 Tryz.func92 ⟨ZDM,ZBl,ZBg,trivial⟩ rfl rfl (by kernel_rfl)
noncomputable def D52:FD U:=⟨60,Tryz.f60,[D29.sg,D51.sg],[.p (.st 0)],[],[.p (.st 3),.p .bool],[],[],ZoN,ZoN,
.nil⟩
theorem ZDK:Zeg X0.E 60 D52.sig:=D52.ok G0 Tryz.func60 ⟨ZBm,ZDL,trivial⟩ rfl rfl (by kernel_rfl)
noncomputable def D53:FD U:=⟨17,Tryz.f17,[],[.p .str],[],[.p (.int .u64)],[],[],Zo9,Zo9,
.lo 941011 [0,3,6,7] [] [qe5,qe7,qe0,qe0] [] 0 [3] [] [qe7] [] ZuA Zvr (fun _=> .nil) <|
.nil⟩
theorem Zzn:Zeg X0.E 17 D53.sig:=D53.ok G0 Tryz.func17 trivial rfl rfl (by kernel_rfl)
noncomputable def D54:FD U:=⟨72,Tryz.f72,[D6.sg,D25.sg,D11.sg],[.p (.st 3)],[],[.p .bool],[],[],Zra,Zra,
.j 911 [2] [] [qe3] [] ZqF <|
.nil⟩
theorem ZBf:Zeg X0.E 72 D54.sig:=D54.ok G0 Tryz.func72 ⟨ZDv,ZBn,ZAs,trivial⟩ rfl rfl (by kernel_rfl)
noncomputable def D55:FD U:=⟨89,Tryz.f89,[D43.sg,D3.sg],[.p (.st 2),.p (.st 2)],[],[.p (.st 2)],[],[],Zoz,Zoz,
.nil⟩
theorem ZDJ:Zeg X0.E 89 D55.sig:=D55.ok G0 Tryz.func89 ⟨ZBi,ZAq,trivial⟩ rfl rfl (by kernel_rfl)
noncomputable def D56:FD U:=⟨134,Tryz.f134,[D22.sg,D18.sg,D1.sg],[.p (.sl (.int .u32)),.p (.sl (.int .u32))],[],[.p (.sl (.int .u32))],[],[],Zpk,Zpk,
.lo 9410111 [0,1,5,6,12,13] [] [qe1,qe1,qe6,Zyt,qe0,qe0] [qo2] 0 [5] [] [qe6] [qo2] ZqS ZsF (fun _=> .nil) <|
.nil⟩
theorem ZDI:Zeg X0.E 134 D56.sig:=D56.ok G0 Tryz.func134 ⟨ZBp,ZBr,ZzE,trivial⟩ rfl rfl (by kernel_rfl)
noncomputable def D57:FD U:=⟨88,Tryz.f88,[D44.sg,D3.sg,D11.sg,D56.sg],[.p (.st 2),.p (.st 2)],[],[.p (.st 2)],[],[],Ztn,Ztn,
.nil⟩
theorem ZDH:Zeg X0.E 88 D57.sig:=D57.ok G0 Tryz.func88 ⟨ZBh,ZAq,ZAs,ZDI,trivial⟩ rfl rfl (by kernel_rfl)
noncomputable def D58:FD U:=⟨164,Tryz.f164,[D55.sg,D57.sg],[.p (.st 3),.p (.st 3)],[],[.p (.st 2),.p (.st 2)],[],[],ZuQ,ZuQ,
.nil⟩
theorem ZDG:Zeg X0.E 164 D58.sig:=D58.ok G0 Tryz.func164 ⟨ZDJ,ZDH,trivial⟩ rfl rfl (by kernel_rfl)
noncomputable def D59:FD U:=⟨165,Tryz.f165,[D54.sg,D58.sg,D26.sg],[.fn 164 [] [],.p (.st 3),.p (.st 3)],[],[.p (.st 3),.p (.int .i64)],[],[],Zqc,Zqc,
.j 9101 [0,4,5,6,18] [] [.fn 164 [] [],qe4,ZyL,ZzS,qe3] [.boxS (.st 3),.boxS (.st 3),qo9,qo2,qo2] Zpi <|
.nil⟩
theorem ZDF:Zeg X0.E 165 D59.sig:=D59.ok G0 Tryz.func165 ⟨ZBf,ZDG,ZAr,trivial⟩ rfl rfl (by kernel_rfl)
noncomputable def D60:FD U:=⟨116,Tryz.f116,[D59.sg],[.p (.st 3),.p (.st 3)],[],[.p (.st 3),.p (.int .i64)],[],[],Zuw,Zuw,
.nil⟩
theorem ZDE:Zeg X0.E 116 D60.sig:=D60.ok G0 Tryz.func116 ⟨ZDF,trivial⟩ rfl rfl (by kernel_rfl)
noncomputable def D61:FD U:=⟨115,Tryz.f115,[],[.p (.st 3),.p (.int .i64)],[],[.p (.st 3)],[],[],Zwu,Zwu,
.nil⟩
theorem ZDD:Zeg X0.E 115 D61.sig:=D61.ok G0 Tryz.func115 trivial rfl rfl (by kernel_rfl)
noncomputable def D62:FD U:=⟨75,Tryz.f75,[D60.sg,D61.sg],[.p (.st 3),.p (.st 3)],[],[.p (.st 3)],[],[],ZwK,ZwK,
.nil⟩
theorem ZDC:Zeg X0.E 75 D62.sig:=D62.ok G0 Tryz.func75 ⟨ZDE,ZDD,trivial⟩ rfl rfl (by kernel_rfl)
noncomputable def D63:FD U:=⟨131,Tryz.f131,[],[.p (.int .u64)],[],[.p (.int .i64)],[],[],Zu0,Zu0,
.j 911 [0,2] [] [qe7,qe0] [] Zuf <|
.j 9111 [0,2] [] [qe7,qe0] [] Zue <|
.j 91111 [0,2] [] [qe7,qe0] [] Zud <|
.nil⟩
theorem ZDB:Zeg X0.E 131 D63.sig:=D63.ok G0 Tryz.func131 trivial rfl rfl (by kernel_rfl)
noncomputable def D64:FD U:=⟨94,Tryz.f94,[D63.sg],[.p (.int .u64)],[],[.p (.int .i64)],[],[],ZuN,ZuN,
.nil⟩
theorem ZDA:Zeg X0.E 94 D64.sig:=D64.ok G0 Tryz.func94 ⟨ZDB,trivial⟩ rfl rfl (by kernel_rfl)
noncomputable def D65:FD U:=⟨159,Tryz.f159,[],[.p (.int .u64)],[],[.p .bool],[],[],Zsk,Zsk,
.nil⟩
theorem ZDz:Zeg X0.E 159 D65.sig:=D65.ok G0 Tryz.func159 trivial rfl rfl (by kernel_rfl)
noncomputable def D66:FD U:=⟨113,Tryz.f113,[D65.sg],[.p (.int .u64),.p (.int .u64)],[],[.p (.int .i64)],[],[],ZsN,ZsN,
.nil⟩
theorem ZDy:Zeg X0.E 113 D66.sig:=D66.ok G0 Tryz.func113 ⟨ZDz,trivial⟩ rfl rfl (by kernel_rfl)
noncomputable def D68:FD U:=⟨101,Tryz.f101,[(151,ZrX.sig)],[.p .str,.p .str],[],[.p (.int .i64)],[],[],Zt1,Zt1,
.nil⟩
theorem ZDx:Zeg X0.E 101 D68.sig:=D68.ok G0 Tryz.func101 ⟨Zuj,trivial⟩ rfl rfl (by kernel_rfl)
noncomputable def D69:FD U:=⟨112,Tryz.f112,[],[.p (.sl (.int .i64))],[],[.p (.int .i64)],[],[],Zvh,Zvh,
.lr 941011 [3,6,7,8] [] [qe0,.o (.v (.sl (.int .i64))),qe0,qe0] [] 0 [3] [] [qe0] [] ZtY Zv1 (fun _=> .nil) <|
.nil⟩
theorem ZDw:Zeg X0.E 112 D69.sig:=D69.ok G0 Tryz.func112 trivial rfl rfl (by kernel_rfl)
noncomputable def D70:FD U:=⟨73,Tryz.f73,[D66.sg,D68.sg,D69.sg],[.p (.st 4),.p (.st 4)],[],[.p (.int .i64)],[],[],Ztl,Ztl,
.nil⟩
theorem ZBe:Zeg X0.E 73 D70.sig:=D70.ok G0 Tryz.func73 ⟨ZDy,ZDx,ZDw,trivial⟩ rfl rfl (by kernel_rfl)
noncomputable def D71:FD U:=⟨166,Tryz.f166,[D70.sg],[.arr (.st 4),.p (.int .i64),.p (.int .i64),.fn 73 [] []],[(0,.arr (.st 4))],[],[],[],Zn3,ZnY,
.lo 941 [0,1,2,3,8] [] [ZCz,qe0,qe0,ZCx,qe0] [Zzr] 0 [] [] [] [Zzr] ZnP Zon (fun n0=> .lo 941401541 [0,1,2,3,8,9] [] [ZCz,qe0,qe0,ZCx,qe0,qe0] [Zzr] 2 [0,1,2,3,8] [] [ZCz,qe0,qe0,ZCx,qe0] [Zzr] ZnN (Zoo (ZnP n0)) (fun n1=> .j 910541401541 [0,1,2,3,8,9,34] [] [ZCz,qe0,qe0,ZCx,qe0,qe0,qe3] [Zzr] (ZnW (ZnN n1)) <|
.nil) <|
.nil) <|
.nil⟩
theorem ZDu:Zeg X0.E 166 D71.sig:=D71.okA G0 Tryz.func166 ⟨ZBe,trivial⟩ (by kernel_rfl) (by kernel_rfl)
noncomputable def D72:FD U:=⟨117,Tryz.f117,[D71.sg],[.arr (.st 4),.p (.int .i64),.p (.int .i64),.p (.int .i64),.fn 73 [] []],[(0,.arr (.st 4))],[],[],[],Zo2,Zoc,
.lz 9411 [0,1,2,3,4,10,11] [] [ZCz,qe0,qe0,qe0,ZCx,qe3,qe3] [Zzr] ZoG (fun _=> .nil) <|
.nil⟩
theorem ZDt:Zeg X0.E 117 D72.sig:=D72.okA G0 Tryz.func117 ⟨ZDu,trivial⟩ (by kernel_rfl) (by kernel_rfl)
noncomputable def D73:FD U:=⟨76,Tryz.f76,[D64.sg,D72.sg],[.arr (.st 4),.fn 73 [] []],[(0,.arr (.st 4))],[],[],[],Zoi,ZnV,
.nil⟩
theorem ZDs:Zeg X0.E 76 D73.sig:=D73.okA G0 Tryz.func76 ⟨ZDA,ZDt,trivial⟩ (by kernel_rfl) (by kernel_rfl)
noncomputable def D74:FD U:=⟨43,Tryz.f43,[D52.sg,D53.sg,D29.sg,D62.sg,D73.sg],[.p (.st 1),.p (.st 1)],[],[.own (.st 4)],[],[],ZuL,ZuL,
.lo 9410111 [3,5,6,15,16,17] [] [qe4,ZAy,ZCy,ZCm,qe0,qe0] [ZzR,ZEa,Zzr] 0 [6] [] [qe6] [Zzr] Zqg Zvq (fun n0=> .j 9101140115410111 [3,5,6,8,9,15,16,17,36] [] [qe4,ZAy,ZCy,ZEp,.o (.ptr (0,5,1) 0 0),ZCm,qe0,qe0,qe3] [ZzR,ZEa,Zzr,.boxS (.st 0),.boxS (.st 3)] (Zq7 (Zqg n0)) <|
.j 91111140115410111 [3,5,6,9,11,15,16,17] [] [qe4,ZAy,ZCy,ZEp,qe0,ZCm,qe0,qe0] [ZzR,ZEa,Zzr,.boxS (.st 3)] (Ztf (Zqg n0)) <|
.j 91115410111 [3,5,6,15,16,17] [] [qe4,ZAy,ZCy,ZCm,qe0,qe0] [ZzR,ZEa,Zzr] (Zte (Zqg n0)) <|
.nil) <|
.nil⟩
theorem ZDr:Zeg X0.E 43 D74.sig:=D74.ok G0 Tryz.func43 ⟨ZDK,Zzn,ZBm,ZDC,ZDs,trivial⟩ rfl rfl (by kernel_rfl)
noncomputable def D75:FD U:=⟨15,Tryz.f15,[D74.sg],[.p (.st 1),.p (.st 1),.p (.int .i64)],[],[.p (.st 5),.p (.int .i64)],[],[],Zt2,Zt2,
.j 91401 [2,3,4,6,9] [] [qe0,qe4,ZyL,ZzS,qe3] [ZzR,ZzR,qo24,Zzr] Zuz <|
.j 9131401 [2,3,4,6,17] [] [qe0,qe4,ZyL,ZzS,qe3] [ZzR,ZzR,qo24,Zzr] Zuy <|
.nil⟩
theorem ZBd:Zeg X0.E 15 D75.sig:=D75.ok G0 Tryz.func15 ⟨ZDr,trivial⟩ rfl rfl (by kernel_rfl)
noncomputable def D76:FD U:=⟨38,Tryz.f38,[D53.sg,D54.sg,D70.sg],[.p (.st 5)],[],[.p .bool],[],[],Ztm,Ztm,
.j 9101 [1,33] [] [qe4,qe3] [Zzq] ZqB <|
.lr 941011 [1,35,36,37] [] [qe4,ZCl,qe0,qe0] [Zzq] 0 [] [] [] [] Zru ZuZ (fun n0=> .j 9114011541011 [1,35,36,37,73] [] [qe4,ZCl,qe0,qe0,qe3] [Zzq] (ZqA (Zru n0)) <|
.nil) <|
.nil⟩
theorem ZDq:Zeg X0.E 38 D76.sig:=D76.ok G0 Tryz.func38 ⟨Zzn,ZBf,ZBe,trivial⟩ rfl rfl (by kernel_rfl)
noncomputable def D77:FD U:=⟨154,Tryz.f154,[],[.p (.sl (.int .u32))],[],[.p (.sl (.int .u32))],[],[],ZnT,ZnT,
.lo 9401 [0] [] [qe1] [] 0 [0] [] [qe1] [] Zog Zt8 (fun n0=> .j 9105401 [0,14] [] [qe1,qe3] [] (Zr5 (Zog n0)) <|
.nil) <|
.nil⟩
theorem Zyf:Zeg X0.E 154 D77.sig:=D77.ok G0 Tryz.func154 trivial rfl rfl (by kernel_rfl)
noncomputable def D78:FD U:=⟨105,Tryz.f105,[D77.sg],[.p .bool,.p (.sl (.int .u32))],[],[.p (.st 2)],[],[],ZnQ,ZnQ,
.j 9111 [4] [] [qe4] [Zza] ZqP <|
.nil⟩
theorem ZyK:Zeg X0.E 105 D78.sig:=D78.ok G0 Tryz.func105 ⟨Zyf,trivial⟩ rfl rfl (by kernel_rfl)
noncomputable def D79:FD U:=⟨126,Tryz.f126,[D78.sg],[.p (.int .i64)],[],[.p (.st 2)],[],[],ZnO,ZnO,
.j 9111 [0,2,3] [] [qe0,qe4,qe7] [qo29,qo2] Zpu <|
.nil⟩
theorem ZAp:Zeg X0.E 126 D79.sig:=D79.ok G0 Tryz.func126 ⟨ZyK,trivial⟩ rfl rfl (by kernel_rfl)
noncomputable def D80:FD U:=⟨102,Tryz.f102,[],[.p (.st 2)],[],[.p .bool],[],[],Zo0,Zo0,
.j 9111 [2] [] [qe3] [] ZnZ <|
.nil⟩
theorem ZDp:Zeg X0.E 102 D80.sig:=D80.ok G0 Tryz.func102 trivial rfl rfl (by kernel_rfl)
noncomputable def D81:FD U:=⟨152,Tryz.f152,[D77.sg],[.p (.sl (.int .u32))],[],[.p (.sl (.int .u32))],[],[],Zol,Zol,
.lo 941011 [0,3,9,10] [] [qe1,qe6,qe0,qe0] [qo2] 0 [3] [] [qe6] [qo2] Zpc Zr6 (fun n0=> .j 9111541011 [0,3,9,10] [] [qe1,qe6,qe0,qe0] [qo2] (Zpd (Zpc n0)) <|
.nil) <|
.nil⟩
theorem ZDo:Zeg X0.E 152 D81.sig:=D81.ok G0 Tryz.func152 ⟨Zyf,trivial⟩ rfl rfl (by kernel_rfl)
noncomputable def D82:FD U:=⟨103,Tryz.f103,[],[.p (.sl (.int .u32)),.p (.sl (.int .u32))],[],[.p (.int .i64)],[],[],ZoM,ZoM,
.lr 941011 [0,1,5] [] qs0 [] 0 [] [] [] [] ZqO Zsy (fun _=> .nil) <|
.nil⟩
theorem ZAo:Zeg X0.E 103 D82.sig:=D82.ok G0 Tryz.func103 trivial rfl rfl (by kernel_rfl)
noncomputable def D83:FD U:=⟨107,Tryz.f107,[D77.sg],[.p (.sl (.int .u32)),.p (.sl (.int .u32))],[],[.p (.sl (.int .u32))],[],[],Zor,Zor,
.lo 9410111 [0,1,5,6,7] [] [qe1,qe1,qe6,qe0,qe0] [qo2] 0 [5] [] [qe6] [qo2] Zpm Zsq (fun n0=> .j 9114015410111 [0,1,5,6,7] [] [qe1,qe1,qe6,qe0,qe0] [qo2] (Zpn (Zpm n0)) <|
.nil) <|
.nil⟩
theorem ZAn:Zeg X0.E 107 D83.sig:=D83.ok G0 Tryz.func107 ⟨Zyf,trivial⟩ rfl rfl (by kernel_rfl)
noncomputable def D84:FD U:=⟨153,Tryz.f153,[D77.sg],[.p (.sl (.int .u32)),.p (.int .u32)],[],[.p (.sl (.int .u32))],[],[],ZoU,ZoU,
.lo 941011 [0,1,5,6] [] [qe1,Zyt,qe6,qe0] [qo2] 0 [1,5] [] [Zyt,qe6] [qo2] ZpQ Zrx (fun _=> .nil) <|
.nil⟩
theorem ZBc:Zeg X0.E 153 D84.sig:=D84.ok G0 Tryz.func153 ⟨Zyf,trivial⟩ rfl rfl (by kernel_rfl)
noncomputable def D85:FD U:=⟨104,Tryz.f104,[D81.sg,D82.sg,D83.sg,D84.sg],[.p (.sl (.int .u32)),.p (.sl (.int .u32))],[],[.p (.sl (.int .u32))],[],[],Zqt,Zqt,
.lo 94011 [0,1,5] [] qs0 [] 0 [0,1,5] [] qs0 [] ZoK Zsw (fun n0=> .j 91054011 [0,1,5,17] [] [qe1,qe1,qe0,qe3] [] (ZqN (ZoK n0)) <|
.nil) <|
.lo 940111 [0,1,5] [] qs0 [] 2 [0,5] [] [qe1,qe0] [] ZnR Zst (fun n0=> .lo 94041540111 [0,1,5] [] qs0 [] 4 [0,1,5] [] qs0 [] Zn8 (Zsv (ZnR n0)) (fun _=> .nil) <|
.lo 940141540111 [0,1,5] [] qs0 [] 6 [0,1,5] [] qs0 [] Zn7 (Zsu (ZnR n0)) (fun _=> .nil) <|
.j 911141540111 [0,1,5] [] qs0 [] (ZqM (ZnR n0)) <|
.nil) <|
.lo 9401111 [0,5] [] [qe1,qe0] [] 8 [0] [] [qe1] [] ZoJ Zss (fun _=> .nil) <|
.nil⟩
theorem ZDn:Zeg X0.E 104 D85.sig:=D85.ok G0 Tryz.func104 ⟨ZDo,ZAo,ZAn,ZBc,trivial⟩ rfl rfl (by kernel_rfl)
noncomputable def D86:FD U:=⟨213,Tryz.f213,[],[.p (.sl (.int .u32)),.p (.int .i64)],[],[.p (.int .u32)],[],[],Zqu,Zqu,
.nil⟩
theorem ZDm:Zeg X0.E 213 D86.sig:=D86.ok G0 Tryz.func213 trivial rfl rfl (by kernel_rfl)
noncomputable def D87:FD U:=⟨174,Tryz.f174,[D86.sg,D84.sg,D82.sg,D83.sg,D77.sg],[.p (.sl (.int .u32)),.p (.sl (.int .u32))],[],[.p (.sl (.int .u32)),.p (.sl (.int .u32))],[],[],Zpj,Zpj,
.lo 941011 [0,1,4,5,6] [5] [qe1,qe1,qe6,qe1,qe0] [qo2] 0 [4,5] [] [qe6,qe1] [qo2] Zpo Zsx (fun n0=> .j 911541011 [0,1,4,5,6] [] [qe1,qe1,qe6,qe1,qe0] [qo2] (Zpp (Zpo n0)) <|
.nil) <|
.nil⟩
theorem ZDl:Zeg X0.E 174 D87.sig:=D87.ok G0 Tryz.func174 ⟨ZDm,ZBc,ZAo,ZAn,Zyf,trivial⟩ rfl rfl (by kernel_rfl)
noncomputable def D88:FD U:=⟨127,Tryz.f127,[D79.sg,D85.sg,D87.sg,D78.sg],[.p (.st 2),.p (.st 2)],[],[.p (.st 3)],[],[],ZoI,ZoI,
.nil⟩
theorem ZBb:Zeg X0.E 127 D88.sig:=D88.ok G0 Tryz.func127 ⟨ZAp,ZDn,ZDl,ZyK,trivial⟩ rfl rfl (by kernel_rfl)
noncomputable def D89:FD U:=⟨128,Tryz.f128,[D80.sg,D88.sg],[.p (.st 2),.p (.st 2)],[],[.p (.st 3),.p (.int .i64)],[],[],ZpZ,ZpZ,
.j 9101 [2,3,4,13] [] [qe4,ZyL,ZzS,qe3] [Zza,Zza,qo9,qo2,qo2] Zqo <|
.nil⟩
theorem ZDk:Zeg X0.E 128 D89.sig:=D89.ok G0 Tryz.func128 ⟨ZDp,ZBb,trivial⟩ rfl rfl (by kernel_rfl)
noncomputable def D90:FD U:=⟨81,Tryz.f81,[D79.sg,D89.sg],[.p (.int .i64),.p (.int .i64)],[],[.p (.st 3),.p (.int .i64)],[],[],ZpF,ZpF,
.nil⟩
theorem ZBa:Zeg X0.E 81 D90.sig:=D90.ok G0 Tryz.func81 ⟨ZAp,ZDk,trivial⟩ rfl rfl (by kernel_rfl)
noncomputable def D91:FD U:=⟨49,Tryz.f49,[D90.sg],[.p (.int .i64),.p (.int .i64)],[],[.p (.st 3)],[],[],ZpO,ZpO,
.nil⟩
theorem ZDj:Zeg X0.E 49 D91.sig:=D91.ok G0 Tryz.func49 ⟨ZBa,trivial⟩ rfl rfl (by kernel_rfl)
noncomputable def D92:FD U:=⟨23,Tryz.f23,[D91.sg],[.p (.int .i64)],[],[.p (.st 3)],[],[],Zqs,Zqs,
.nil⟩
theorem ZDi:Zeg X0.E 23 D92.sig:=D92.ok G0 Tryz.func23 ⟨ZDj,trivial⟩ rfl rfl (by kernel_rfl)
noncomputable def D93:FD U:=⟨48,Tryz.f48,[],[.p (.st 2),.p (.st 2)],[],[.p .bool],[],[],ZoC,ZoC,
.j 9101 [2,3,20] [] [qe4,ZyL,qe3] [Zza,Zza] Zps <|
.lr 941011 [3,22,23,24] [] [qe4,qe1,qe0,qe0] [Zza] 0 [] [] [] [] Zpr Zq1 (fun _=> .nil) <|
.nil⟩
theorem ZDh:Zeg X0.E 48 D93.sig:=D93.ok G0 Tryz.func48 trivial rfl rfl (by kernel_rfl)
noncomputable def D94:FD U:=⟨20,Tryz.f20,[D93.sg],[.p (.st 3),.p (.st 3)],[],[.p .bool],[],[],ZpN,ZpN,
.j 911 [4] [] [qe3] [] Zqj <|
.nil⟩
theorem ZDg:Zeg X0.E 20 D94.sig:=D94.ok G0 Tryz.func20 ⟨ZDh,trivial⟩ rfl rfl (by kernel_rfl)
noncomputable def D95:FD U:=⟨10,Tryz.f10,[D75.sg,D76.sg,D92.sg,D94.sg,D53.sg],[],[],[.p .bool],[],[],Zox,Zox,
.j 9101111 [3,40] [] [qe4,qe3] [Zzq] Zow <|
.lr 941011111 [42,43,44] [] [ZCl,qe0,qe0] [] 0 [] [] [] [] Zov ZrG (fun n0=> .j 9114011541011111 [42,43,44,62] [] [ZCl,qe0,qe0,qe3] [] (Zo1 (Zov n0)) <|
.nil) <|
.nil⟩
theorem ZDf:Zeg X0.E 10 D95.sig:=D95.ok G0 Tryz.func10 ⟨ZBd,ZDq,ZDi,ZDg,Zzn,trivial⟩ rfl rfl (by kernel_rfl)
noncomputable def D96:FD U:=⟨11,Tryz.f11,[],[.p (.sl (.int .i64))],[],[.box (.st 7)],[],[],Zse,Zse,
.nil⟩
theorem ZDe:Zeg X0.E 11 D96.sig:=D96.ok G0 Tryz.func11 trivial rfl rfl (by kernel_rfl)
noncomputable def D97:FD U:=⟨14,Tryz.f14,[],[.p (.int .i64),.p (.int .i64)],[],[.p (.int .i64)],[],[],Zqe,Zqe,
.nil⟩
theorem ZA9:Zeg X0.E 14 D97.sig:=D97.ok G0 Tryz.func14 trivial rfl rfl (by kernel_rfl)
noncomputable def D98:FD U:=⟨12,Tryz.f12,[D97.sg],[.box (.st 7),.p (.int .i64)],[(0,.box (.st 7))],[.p (.int .i64)],[],[],ZnS,ZnS,
.nil⟩
theorem ZyJ:Zeg X0.E 12 D98.sig:=D98.ok G0 Tryz.func12 ⟨ZA9,trivial⟩ rfl rfl (by kernel_rfl)
noncomputable def D99:FD U:=⟨39,Tryz.f39,[D98.sg],[.box (.st 7),.p (.sl .str)],[(0,.box (.st 7))],[.p .str],[],[],Zn5,Zn5,
.nil⟩
theorem ZAm:Zeg X0.E 39 D99.sig:=D99.ok G0 Tryz.func39 ⟨ZyJ,trivial⟩ rfl rfl (by kernel_rfl)
noncomputable def ZE5:FD U:=⟨40,Tryz.f40,[D98.sg,D99.sg],[.box (.st 7)],[(0,.box (.st 7))],[.p (.st 0)],[],[],ZqT,ZqT,
.nil⟩
theorem ZCi:Zeg X0.E 40 ZE5.sig:=ZE5.ok G0 Tryz.func40 ⟨ZyJ,ZAm,trivial⟩ rfl rfl (by kernel_rfl)
noncomputable def ZE4:FD U:=⟨41,Tryz.f41,[D98.sg,D99.sg,(42,Zvu.sig)],[.box (.st 7)],[(0,.box (.st 7))],[.p (.st 0)],[],[],Zp3,Zp3,
.nil⟩
theorem ZCh:Zeg X0.E 41 ZE4.sig:=ZE4.ok G0 Tryz.func41 ⟨ZyJ,ZAm,Zwa,trivial⟩ rfl rfl (by kernel_rfl)
noncomputable def ZE3:FD U:=⟨13,Tryz.f13,[D99.sg,D98.sg,ZE5.sg,ZE4.sg,(42,Zvu.sig)],[.box (.st 7),.p (.int .i64)],[(0,.box (.st 7))],[.p (.st 1)],[],[],Zo8,Zo8,
.lo 9410111 [0,4,5,6,15,16] [] [.o (.ptr (0,0,0) 0 0),qe4,ZyL,qe0,qe0,qe0] [.boxS (.st 7),qo31,ZEn,ZCj,ZCj] 0 [4,5] [] [qe4,ZyL] [.boxS (.st 7),qo31,ZEn,ZCj,ZCj] Zpe Zr8 (fun n0=> .j 911140115410111 [0,4,5,6,8,15,16] [] [.o (.ptr (0,0,0) 0 0),qe4,ZyL,qe0,ZzS,qe0,qe0] [.boxS (.st 7),ZEn,.box [.o (.v .str),.o (.full (0,5,1))],.boxS (.st 0),ZCj,ZCj] (Zoh (Zpe n0)) <|
.nil) <|
.nil⟩
theorem ZCg:Zeg X0.E 13 ZE3.sig:=ZE3.ok G0 Tryz.func13 ⟨ZAm,ZyJ,ZCi,ZCh,Zwa,trivial⟩ rfl rfl (by kernel_rfl)
noncomputable def ZE2:FD U:=⟨118,Tryz.f118,[],[.p .str],[],[.p .str],[],[],Zs1,Zs1,
.lo 9401 [0] [] [qe5] [] 0 [0] [] [qe5] [] Zqn Zt6 (fun n0=> .j 9105401 [0,10] [] qs2 [] (Zr2 (Zqn n0)) <|
.nil) <|
.lo 94011 [0] [] [qe5] [] 2 [0] [] [qe5] [] Zqm Zt5 (fun n0=> .j 91054011 [0,23] [] qs2 [] (Zr1 (Zqm n0)) <|
.nil) <|
.nil⟩
theorem ZCf:Zeg X0.E 118 ZE2.sig:=ZE2.ok G0 Tryz.func118 trivial rfl rfl (by kernel_rfl)
noncomputable def ZE1:FD U:=⟨119,Tryz.f119,[],[.p .str],[],[.p .str],[],[],Zs2,Zs2,
.lo 941011 [3,8,9] [] [qe6,qe0,qe0] [ZCk] 0 [3] [] [qe6] [ZCk] Zpb Zt7 (fun n0=> .j 9114011541011 [3,4,8,9,23] [] [qe6,qe0,qe0,qe0,qe3] [ZCk] (Zr4 (Zpb n0)) <|
.j 9111541011 [3,8,9] [] [qe6,qe0,qe0] [ZCk] (Zr3 (Zpb n0)) <|
.nil) <|
.nil⟩
theorem ZCe:Zeg X0.E 119 ZE1.sig:=ZE1.ok G0 Tryz.func119 trivial rfl rfl (by kernel_rfl)
noncomputable def ZEg:FD U:=⟨120,Tryz.f120,[],[.p .str],[],[.p .bool,.p .str,.p .str,.p .bool],[],[],ZqW,ZqW,
.j 9101 [0,2,20] [] [qe5,qe3,qe3] [] ZpY <|
.j 911 [0,2] [] qs2 [] ZrF <|
.lo 940111 [0,2,6] [] [qe5,qe3,qe0] [] 0 [0,2,6] [] [qe5,qe3,qe0] [] ZpV ZtJ (fun n0=> .j 910540111 [0,2,6,41] [] [qe5,qe3,qe0,qe3] [] (ZpX (ZpV n0)) <|
.nil) <|
.j 91011111 [0,2,3,6,52] [] [qe5,qe3,qe5,qe0,qe3] [] ZrE <|
.j 91011111111 [2,3,4,76] [] qs5 [] ZpW <|
.lr 9410111111111 [2,3,4,7] [] [qe3,qe5,qe5,qe0] [] 2 [2,3,4] [] qs8 [] ZpU ZtI (fun n0=> .j 914015410111111111 [2,3,4,7,92] [] [qe3,qe5,qe5,qe0,qe3] [] (ZrD (ZpU n0)) <|
.nil) <|
.nil⟩
theorem ZAw:Zeg X0.E 120 ZEg.sig:=ZEg.ok G0 Tryz.func120 trivial rfl rfl (by kernel_rfl)
noncomputable def ZE0:FD U:=⟨121,Tryz.f121,[],[.p .bool,.p .str,.p .str],[],[.p .str],[],[],Zsn,Zsn,
.lo 9401 [0,1,2] [] qs8 [] 0 [0,1,2] [] qs8 [] ZpK Ztt (fun n0=> .j 9105401 [0,1,2,14] [] qs5 [] (Zri (ZpK n0)) <|
.nil) <|
.lo 94011 [0,1,2] [] qs8 [] 2 [0,1,2] [] qs8 [] ZpJ Zts (fun n0=> .j 91054011 [0,1,2,27] [] qs5 [] (Zrh (ZpJ n0)) <|
.nil) <|
.j 91111 [0,1] [] [qe3,qe5] [] Zrg <|
.j 9101111 [1,43] [] qs2 [] Zrf <|
.j 911111 [1] [] [qe5] [] Zre <|
.nil⟩
theorem ZCd:Zeg X0.E 121 ZE0.sig:=ZE0.ok G0 Tryz.func121 trivial rfl rfl (by kernel_rfl)
noncomputable def ZEZ:FD U:=⟨123,Tryz.f123,[],[.p .str],[],[.p (.int .i64)],[],[],Zoq,Zoq,
.lr 941011 [0,3,4] [] [qe5,qe0,qe0] [] 0 [3] [] [qe0] [] ZqI Zul (fun n0=> .j 910401541011 [0,3,4,20] [] [qe5,qe0,qe0,qe3] [] (Zsm (ZqI n0)) <|
.nil) <|
.nil⟩
theorem ZCc:Zeg X0.E 123 ZEZ.sig:=ZEZ.ok G0 Tryz.func123 trivial rfl rfl (by kernel_rfl)
noncomputable def ZEf:FD U:=⟨125,Tryz.f125,[],[.p (.int .i64)],[],[.p .bool],[],[],Zrk,Zrk,
.j 911 [2] [] [qe3] [] Zqk <|
.nil⟩
theorem ZAv:Zeg X0.E 125 ZEf.sig:=ZEf.ok G0 Tryz.func125 trivial rfl rfl (by kernel_rfl)
noncomputable def ZEY:FD U:=⟨124,Tryz.f124,[ZEf.sg],[.p (.int .i64),.p (.int .i64)],[],[.p (.int .i64)],[],[],ZqJ,ZqJ,
.j 91401 [1,5] [] [qe0,qe3] [] Zrj <|
.j 913131401 [15] [] [qe3] [] ZoP <|
.nil⟩
theorem ZCb:Zeg X0.E 124 ZEY.sig:=ZEY.ok G0 Tryz.func124 ⟨ZAv,trivial⟩ rfl rfl (by kernel_rfl)
noncomputable def ZEe:FD U:=⟨79,Tryz.f79,[ZEY.sg,ZEf.sg],[.p (.int .i64),.p (.int .i64),.p (.int .i64)],[],[.p (.int .i64),.p .bool],[],[],ZrT,ZrT,
.j 9101 [0,1,2,35] [] [qe0,qe0,qe0,qe3] [] Zop <|
.lo 9410111 [0,1,2,8,9] [] qs6 [] 0 [0,1,2,8] [] [qe0,qe0,qe0,qe0] [] ZqK Zun (fun n0=> .j 9115410111 [0,1,2,8,9] [] qs6 [] (Zsp (ZqK n0)) <|
.nil) <|
.lo 94101111 [0,1,2,8,10] [] qs6 [] 2 [2,8] [] [qe0,qe0] [] Zso Zum (fun _=> .nil) <|
.nil⟩
theorem ZAu:Zeg X0.E 79 ZEe.sig:=ZEe.ok G0 Tryz.func79 ⟨ZCb,ZAv,trivial⟩ rfl rfl (by kernel_rfl)
noncomputable def ZEd:FD U:=⟨78,Tryz.f78,[ZEZ.sg,ZEe.sg],[.p .str],[],[.p (.int .i64),.p (.int .i64),.p (.int .i64),.p .bool],[],[],Zrl,Zrl,
.j 9104011 [0,9] [] qs2 [] Zr0 <|
.j 914011 [0,9] [] qs2 [] Zql <|
.j 91314011 [0,35] [] qs2 [] ZrZ <|
.j 9111 [2,3,4] [] [qe0,qe0,qe0] [] ZrY <|
.nil⟩
theorem ZAt:Zeg X0.E 78 ZEd.sig:=ZEd.ok G0 Tryz.func78 ⟨ZCc,ZAu,trivial⟩ rfl rfl (by kernel_rfl)
noncomputable def ZEX:FD U:=⟨122,Tryz.f122,[],[.p (.int .i64),.p (.int .i64)],[],[.p .str],[],[],Zpl,Zpl,
.lo 94011 [0,1,5] [] [qe0,qe0,qe5] [] 0 [5] [] [qe5] [] Zrd Ztr (fun _=> .nil) <|
.nil⟩
theorem ZCa:Zeg X0.E 122 ZEX.sig:=ZEX.ok G0 Tryz.func122 trivial rfl rfl (by kernel_rfl)
noncomputable def ZEW:FD U:=⟨77,Tryz.f77,[ZE2.sg,ZE1.sg,ZEg.sg,ZE0.sg,ZEd.sg,ZEX.sg],[.p (.int .i64),.p .str],[],[.p .str,.p .bool],[],[],Zrm,Zrm,
.j 9141213141011 [24,25] [] qs2 [] Zqz <|
.j 913141213141011 [28] [] [qe3] [] Zqy <|
.j 91313141011 [0,6,17,31] [] [qe0,qe5,qe0,qe3] [] Zqx <|
.j 91121313141011 [7,8,9,49] [] qs5 [] Zo7 <|
.j 9111 [] [] [] [] Zou <|
.nil⟩
theorem ZB9:Zeg X0.E 77 ZEW.sig:=ZEW.ok G0 Tryz.func77 ⟨ZCf,ZCe,ZAw,ZCd,ZAt,ZCa,trivial⟩ rfl rfl (by kernel_rfl)
noncomputable def ZEV:FD U:=⟨108,Tryz.f108,[D77.sg],[.p (.sl (.int .u32)),.p (.sl (.int .u32))],[],[.p (.sl (.int .u32))],[],[],Zto,Zto,
.lo 941011 [0,1,5,6] [] [qe1,qe1,qe6,qe0] [qo2] 0 [5] [] [qe6] [qo2] ZqL Zuo (fun n0=> .lo 94101401541011 [0,1,5,6,7,8] [] [qe1,qe1,qe6,qe0,qe7,qe0] [qo2] 2 [0,1,5,6,7] [] [qe1,qe1,qe6,qe0,qe7] [qo2] Zsr (Zup (ZqL n0)) (fun _=> .nil) <|
.nil) <|
.nil⟩
theorem ZB8:Zeg X0.E 108 ZEV.sig:=ZEV.ok G0 Tryz.func108 ⟨Zyf,trivial⟩ rfl rfl (by kernel_rfl)
noncomputable def ZEU:FD U:=⟨70,Tryz.f70,[ZEV.sg,D78.sg],[.p (.st 2),.p (.st 2)],[],[.p (.st 2)],[],[],ZqV,ZqV,
.nil⟩
theorem ZB7:Zeg X0.E 70 ZEU.sig:=ZEU.ok G0 Tryz.func70 ⟨ZB8,ZyK,trivial⟩ rfl rfl (by kernel_rfl)
noncomputable def ZET:FD U:=⟨106,Tryz.f106,[],[.p (.sl (.int .u32)),.p (.sl (.int .u32))],[],[.own (.int .u32)],[],[],Ztp,Ztp,
.lo 9410111 [0,1,5,6,7] [] qs7 [qo2] 0 [5,6] [] [qe6,qe7] [qo2] ZoL Zuq (fun n0=> .j 9105410111 [0,1,5,6,7,17] [] [qe1,qe1,qe6,qe7,qe0,qe3] [qo2] (ZsB (ZoL n0)) <|
.j 914015410111 [0,1,5,6,7] [] qs7 [qo2] (ZsA (ZoL n0)) <|
.j 9114015410111 [0,1,5,6,7] [] qs7 [qo2] (Zsz (ZoL n0)) <|
.nil) <|
.nil⟩
theorem ZB6:Zeg X0.E 106 ZET.sig:=ZET.ok G0 Tryz.func106 trivial rfl rfl (by kernel_rfl)
noncomputable def ZES:FD U:=⟨69,Tryz.f69,[ZET.sg,D78.sg,D82.sg,D83.sg],[.p (.st 2),.p (.st 2)],[],[.p (.st 2)],[],[],Zs3,Zs3,
.nil⟩
theorem ZB5:Zeg X0.E 69 ZES.sig:=ZES.ok G0 Tryz.func69 ⟨ZB6,ZyK,ZAo,ZAn,trivial⟩ rfl rfl (by kernel_rfl)
noncomputable def ZER:FD U:=⟨71,Tryz.f71,[D78.sg],[.p (.st 2)],[],[.p (.st 2)],[],[],ZsS,ZsS,
.nil⟩
theorem ZB4:Zeg X0.E 71 ZER.sig:=ZER.ok G0 Tryz.func71 ⟨ZyK,trivial⟩ rfl rfl (by kernel_rfl)
noncomputable def ZEQ:FD U:=⟨80,Tryz.f80,[ZEg.sg,D79.sg,ZEU.sg,ZES.sg,ZER.sg,D88.sg],[.p .str],[],[.p (.st 3),.p .bool],[],[],Zr7,Zr7,
.lo 94101111 [2,4,6,8,9,27,28,29] [100008] [qe4,qe3,qe5,ZyL,ZzS,.o (.full (0,4,1)),qe0,qe0] [ZEo,Zza,Zza,ZCk,qo2,qo2] 0 [2,4,6,8,9] [] [qe4,qe3,qe5,ZyL,ZzS] qp4 Zq3 Ztc (fun _=> .nil) <|
.lo 941011111 [2,4,8,9,43] [] [qe4,qe3,ZyL,ZzS,.o (.it (0,4,1))] [ZEo,Zza,Zza,.sit,qo2,qo2] 2 [2,4,8,9] [] [qe4,qe3,ZyL,ZzS] qp4 Zpv Ztb (fun n0=> .j 91541011111 [2,4,8,9,43,45] [] [qe4,qe3,ZyL,ZzS,.o (.it (0,4,1)),qe3] [ZEo,Zza,Zza,.sit,qo2,qo2] (Zq5 (Zpv n0)) <|
.nil) <|
.j 91111111 [2,8,9] [] [qe4,ZyL,ZzS] qp4 Zq4 <|
.nil⟩
theorem ZB3:Zeg X0.E 80 ZEQ.sig:=ZEQ.ok G0 Tryz.func80 ⟨ZAw,ZAp,ZB7,ZB5,ZB4,ZBb,trivial⟩ rfl rfl (by kernel_rfl)
noncomputable def ZEP:FD U:=⟨44,Tryz.f44,[ZEW.sg,ZEd.sg,ZEe.sg,ZEQ.sg,D90.sg],[.p (.int .i64),.p .str],[],[.p (.st 3),.p .bool],[],[],ZsR,ZsR,
.j 91011 [0,4,6,26] [] [qe0,qe4,qe5,qe3] qp3 Zrw <|
.j 911111 [4,8] [] [qe4,qe0] qp3 ZpP <|
.nil⟩
theorem ZB2:Zeg X0.E 44 ZEP.sig:=ZEP.ok G0 Tryz.func44 ⟨ZB9,ZAt,ZAu,ZB3,ZBa,trivial⟩ rfl rfl (by kernel_rfl)
noncomputable def ZEO:FD U:=⟨16,Tryz.f16,[ZEP.sg],[.p (.st 0)],[],[.p (.st 3),.p .bool],[],[],ZoH,ZoH,
.nil⟩
theorem ZB1:Zeg X0.E 16 ZEO.sig:=ZEO.ok G0 Tryz.func16 ⟨ZB2,trivial⟩ rfl rfl (by kernel_rfl)
noncomputable def D123:FD U:=⟨3,Tryz.f3,[D0.sg,D95.sg,D96.sg,D98.sg,ZE3.sg,D97.sg,D75.sg,ZEO.sg,D53.sg],[.p (.sl (.int .i64)),.p (.int .i64),.p .str],[],[.p .bool],[],[],Zpg,Zpg,
.j 9101 [0,1,2,32] [] [.o (.v (.sl (.int .i64))),qe0,qe5,qe3] [] Zn2 <|
.lo 9410111111111 [2,10,11,12,13,14,15,56,57,58] [] qs1 [ZzR,Zzq,ZAF] 0 [2,11,12,13,14,15] [] [qe5,qe0,qe4,qe0,qe0,ZAy] [Zzq,ZAF] ZnU Zp2 (fun n0=> .j 911140115410111111111 [2,10,11,12,13,14,15,17,56,57,58,77] [] [qe5,qe4,qe0,ZyL,qe0,qe0,qe35,ZEp,ZCm,qe0,qe0,qe3] [ZzR,Zzq,ZAF,.boxS (.st 0)] (ZoS (ZnU n0)) <|
.j 91115410111111111 [2,10,11,12,13,14,15,56,57,58] [] qs1 [ZzR,Zzq,ZAF] (ZoR (ZnU n0)) <|
.nil) <|
.lr 941011111111111 [2,11,12,13,14,15,20,85,86,87] [] [qe5,qe0,qe4,qe0,qe0,ZAy,qe0,ZCl,qe0,qe0] [Zzq,ZAF] 2 [2,11,12,13,14,15,20] [] [qe5,qe0,qe4,qe0,qe0,ZAy,qe0] [Zzq,ZAF] Zn1 Zp1 (fun n0=> .j 91114011541011111111111 [2,11,12,13,14,15,20,85,86,87,107] [] [qe5,qe0,qe4,qe0,qe0,ZAy,qe0,ZCl,qe0,qe0,qe3] [Zzq,ZAF] (ZoQ (Zn1 n0)) <|
.nil) <|
.lr 94101111111111111 [2,11,12,13,14,15,20,23,24] [] [qe5,qe0,qe4,qe0,qe0,ZAy,qe0,qe7,qe0] [Zzq,ZAF] 4 [2,11,12,13,14,15,20,23] [] [qe5,qe0,qe4,qe0,qe0,ZAy,qe0,qe7] [Zzq,ZAF] Zom Zp0 (fun _=> .nil) <|
.j 9111111111111111 [6] [] [qe3] [] ZnL <|
.nil⟩
theorem D123_ok:Zeg X0.E 3 D123.sig:=D123.ok G0 Tryz.func3 ⟨ZE6,ZDf,ZDe,ZyJ,ZCg,ZA9,ZBd,ZB1,Zzn,trivial⟩ rfl rfl (by kernel_rfl)
end
end Go.Proofs

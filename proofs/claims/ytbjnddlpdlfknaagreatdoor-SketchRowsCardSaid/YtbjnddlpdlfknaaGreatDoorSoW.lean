/- Printed by wip/tools/tgen.py: walks. -/
import Derived.Test.YtbjnddlpdlfknaaGreatDoorSoU
import Derived.Test.YtbjnddlpdlfknaaGreatDoorSoX
set_option linter.unusedVariables false
set_option linter.unusedSimpArgs false
set_option linter.unusedSectionVars false
namespace Go.Proofs
open Go Eng
set_option maxRecDepth 100000
noncomputable section
abbrev qe0:Sh:= .o (.v (.int .i64))
abbrev qe1:Sh:= .o (.v (.sl (.int .u32)))
abbrev qo2:ShO:= .arr (.int .u32) false
abbrev qe3:Sh:= .o (.ptr (0,1,1) 0 0)
abbrev qe4:Sh:= .o (.full (0,1,1))
abbrev qe5:Sh:= .o (.v .bool)
abbrev qe6:Sh:= .o (.v (.int .u64))
abbrev qe7:Sh:= .o (.v (.int .u32))
abbrev qo8:ShO:= .box [.o (.v .bool),.o (.full (0,2,1)),.o (.v .bool),.o (.full (0,3,1))]
abbrev qo9:ShO:= .box [.o (.v .bool),.o (.full (0,4,1)),.o (.v .bool),.o (.full (0,5,1))]
abbrev Zyk:Sh:= .o (.ptr (0,2,1) 0 0)
abbrev Zyj:ShO:= .arr (.st 4) false
abbrev ZyJ:Sh:= .o (.v (.sl (.st 4)))
abbrev ZxP:ShO:= .boxS (.st 5)
abbrev Zzk:Sh:= .o (.sl (0,0,0))
abbrev Zx6:Sh:= .o (.v .str)
abbrev ZzS:Sh:= .o (.full (0,3,1))
abbrev ZBo:Sh:= .o (.ptr (0,3,1) 0 0)
abbrev qo18:ShO:= .box [.o (.v (.int .i64)),.o (.v .bool),.o (.full (0,4,1))]
abbrev ZDg:ShO:= .box [.o (.v .str),.o (.full (0,4,1))]
abbrev ZBn:ShO:= .arr (.st 0) false
abbrev ZBm:ShO:= .arr (.st 8) false
abbrev ZzR:ShO:= .boxS (.st 1)
abbrev ZBy:Sh:= .o (.full (0,0,0))
abbrev ZAy:Sh:= .fn 73 [] []
abbrev ZC9:Sh:= .o (.v (.sl (.st 0)))
abbrev qo26:ShO:= .box [.o (.v .bool),.o (.full (0,2,1))]
abbrev ZC6:ShO:= .map .str (.int .i64)
abbrev qo28:ShO:= .box [.o (.v .str),.o (.full (0,3,1))]
abbrev ZC8:Sh:= .o (.full (0,2,1))
abbrev ZBl:ShO:= .boxS (.st 2)
abbrev ZBk:ShO:= .boxS (.st 3)
abbrev ZC7:Sh:= .o (.map (0,2,1))
abbrev qs0:List Sh:=[qe1,qe1,qe0]
noncomputable def D0:FD U:=⟨9,Tryz.f9,[],[.p (.sl (.int .i64))],[],[.p .bool],[],[],Zrj,Zrj,
.nil⟩
theorem ZDT:Zeg X0.E 9 D0.sig:=D0.ok G0 Tryz.func9 trivial rfl rfl (by kernel_rfl)
noncomputable def D1:FD U:=⟨178,Tryz.f178,[],[.p (.sl (.int .u32))],[],[.p (.sl (.int .u32))],[],[],Zn5,Zn5,
.lo 9401 [0] [] [qe1] [] 0 [0] [] [qe1] [] ZoH ZsV (fun n0=> .j 9105401 [0,14] [] [qe1,qe5] [] (ZrA (ZoH n0)) <|
.nil) <|
.nil⟩
theorem Zyx:Zeg X0.E 178 D1.sig:=D1.ok G0 Tryz.func178 trivial rfl rfl (by kernel_rfl)
noncomputable def D2:FD U:=⟨181,Tryz.f181,[D1.sg],[.p (.int .u64)],[],[.p (.sl (.int .u32))],[],[],Zp5,Zp5,
.nil⟩
theorem ZCU:Zeg X0.E 181 D2.sig:=D2.ok G0 Tryz.func181 ⟨Zyx,trivial⟩ rfl rfl (by kernel_rfl)
noncomputable def D3:FD U:=⟨132,Tryz.f132,[],[.p .bool,.p (.sl (.int .u32))],[],[.p (.st 2)],[],[],Zod,Zod,
.j 911 [4] [] [qe3] [qo26,qo2] ZrZ <|
.nil⟩
theorem Zzh:Zeg X0.E 132 D3.sig:=D3.ok G0 Tryz.func132 trivial rfl rfl (by kernel_rfl)
noncomputable def D4:FD U:=⟨137,Tryz.f137,[D2.sg,D3.sg],[.p (.int .i64)],[],[.p (.st 2)],[],[],ZqJ,ZqJ,
.nil⟩
theorem ZDB:Zeg X0.E 137 D4.sig:=D4.ok G0 Tryz.func137 ⟨ZCU,Zzh,trivial⟩ rfl rfl (by kernel_rfl)
noncomputable def D5:FD U:=⟨155,Tryz.f155,[],[.p (.st 2)],[],[.p .bool],[],[],Zqs,Zqs,
.j 9111 [2] [] [qe5] [] ZoB <|
.nil⟩
theorem ZDA:Zeg X0.E 155 D5.sig:=D5.ok G0 Tryz.func155 trivial rfl rfl (by kernel_rfl)
noncomputable def D6:FD U:=⟨109,Tryz.f109,[D5.sg],[.p (.sl (.st 2))],[],[.p .bool],[],[],Zsb,Zsb,
.lr 94101 [5,6,7] [] [.o (.v (.sl (.st 2))),qe0,qe0] [] 0 [] [] [] [] ZsH Zu9 (fun _=> .nil) <|
.nil⟩
theorem ZCu:Zeg X0.E 109 D6.sig:=D6.ok G0 Tryz.func109 ⟨ZDA,trivial⟩ rfl rfl (by kernel_rfl)
noncomputable def D7:FD U:=⟨204,Tryz.f204,[],[.p (.int .i64)],[],[.p .bool],[],[],Zs3,Zs3,
.nil⟩
theorem ZDz:Zeg X0.E 204 D7.sig:=D7.ok G0 Tryz.func204 trivial rfl rfl (by kernel_rfl)
noncomputable def D8:FD U:=⟨157,Tryz.f157,[D7.sg],[.p (.int .i64),.p (.int .i64)],[],[.p (.int .i64)],[],[],Zsc,Zsc,
.nil⟩
theorem ZDy:Zeg X0.E 157 D8.sig:=D8.ok G0 Tryz.func157 ⟨ZDz,trivial⟩ rfl rfl (by kernel_rfl)
noncomputable def D9:FD U:=⟨205,Tryz.f205,[],[.p (.int .u32)],[],[.p .bool],[],[],ZsI,ZsI,
.nil⟩
theorem ZDx:Zeg X0.E 205 D9.sig:=D9.ok G0 Tryz.func205 trivial rfl rfl (by kernel_rfl)
noncomputable def D10:FD U:=⟨158,Tryz.f158,[D9.sg],[.p (.int .u32),.p (.int .u32)],[],[.p (.int .i64)],[],[],Zr3,Zr3,
.nil⟩
theorem ZC4:Zeg X0.E 158 D10.sig:=D10.ok G0 Tryz.func158 ⟨ZDx,trivial⟩ rfl rfl (by kernel_rfl)
noncomputable def D11:FD U:=⟨111,Tryz.f111,[D8.sg,D10.sg],[.p (.sl (.int .u32)),.p (.sl (.int .u32))],[],[.p (.int .i64)],[],[],Zoo,Zoo,
.lr 941011 [0,1,6] [] qs0 [] 0 [] [] [] [] Zp2 Zrg (fun _=> .nil) <|
.nil⟩
theorem Zzj:Zeg X0.E 111 D11.sig:=D11.ok G0 Tryz.func111 ⟨ZDy,ZC4,trivial⟩ rfl rfl (by kernel_rfl)
noncomputable def D12:FD U:=⟨199,Tryz.f199,[],[.p (.sl (.int .u32))],[],[.own (.int .u32)],[],[],Zok,Zok,
.j 9101 [0,4] [] [qe1,qe5] [] ZnM <|
.nil⟩
theorem ZAm:Zeg X0.E 199 D12.sig:=D12.ok G0 Tryz.func199 trivial rfl rfl (by kernel_rfl)
noncomputable def D13:FD U:=⟨231,Tryz.f231,[],[.p (.int .u32),.p (.int .u32),.p (.int .u32)],[],[.p (.int .u32),.p (.int .u32)],[],[],Zr7,Zr7,
.j 9101 [0,1,2,15] [] [qe7,qe7,qe7,qe5] [] ZqS <|
.nil⟩
theorem ZC3:Zeg X0.E 231 D13.sig:=D13.ok G0 Tryz.func231 trivial rfl rfl (by kernel_rfl)
noncomputable def D14:FD U:=⟨200,Tryz.f200,[D13.sg,D1.sg],[.p (.sl (.int .u32)),.p (.int .u32)],[],[.p (.sl (.int .u32)),.p (.int .u32)],[],[],Zqk,Zqk,
.lo 9410111 [0,1,6,7,8] [] [qe1,qe7,qe4,qe7,qe0] [qo2] 0 [6,7] [] [qe4,qe7] [qo2] ZqA ZrR (fun _=> .nil) <|
.nil⟩
theorem ZC2:Zeg X0.E 200 D14.sig:=D14.ok G0 Tryz.func200 ⟨ZC3,Zyx,trivial⟩ rfl rfl (by kernel_rfl)
noncomputable def D15:FD U:=⟨148,Tryz.f148,[],[.p (.int .u32)],[],[.p (.int .i64)],[],[],Zr6,Zr6,
.j 911 [0,2] [] [qe7,qe0] [] ZrX <|
.j 9111 [0,2] [] [qe7,qe0] [] Zp6 <|
.nil⟩
theorem ZC1:Zeg X0.E 148 D15.sig:=D15.ok G0 Tryz.func148 trivial rfl rfl (by kernel_rfl)
noncomputable def D16:FD U:=⟨201,Tryz.f201,[D15.sg],[.p (.int .u32)],[],[.p (.int .i64)],[],[],Zpi,Zpi,
.nil⟩
theorem ZC0:Zeg X0.E 201 D16.sig:=D16.ok G0 Tryz.func201 ⟨ZC1,trivial⟩ rfl rfl (by kernel_rfl)
noncomputable def D17:FD U:=⟨202,Tryz.f202,[],[.p (.sl (.int .u32)),.p (.int .i64)],[],[.own (.int .u32)],[],[],ZoF,ZoF,
.lo 941011 [1,5,13,14,15] [] [qe0,qe4,qe1,qe0,qe0] [qo2] 0 [5] [] [qe4] [qo2] Zp0 Zre (fun _=> .nil) <|
.nil⟩
theorem ZCZ:Zeg X0.E 202 D17.sig:=D17.ok G0 Tryz.func202 trivial rfl rfl (by kernel_rfl)
noncomputable def D18:FD U:=⟨179,Tryz.f179,[],[.p (.int .u32),.p (.int .u32),.p (.int .u32)],[],[.p (.int .u32),.p (.int .u32)],[],[],Zqo,Zqo,
.nil⟩
theorem ZAl:Zeg X0.E 179 D18.sig:=D18.ok G0 Tryz.func179 trivial rfl rfl (by kernel_rfl)
noncomputable def D19:FD U:=⟨176,Tryz.f176,[],[.p (.int .u32),.p (.int .u32),.p (.int .u32)],[],[.p (.int .u32),.p (.int .u32)],[],[],Zq2,Zq2,
.nil⟩
theorem ZAk:Zeg X0.E 176 D19.sig:=D19.ok G0 Tryz.func176 trivial rfl rfl (by kernel_rfl)
noncomputable def D20:FD U:=⟨203,Tryz.f203,[D18.sg,D19.sg],[.part (.int .u32),.p (.sl (.int .u32))],[(0,.arr (.int .u32))],[.p (.int .u32)],[],[],ZtC,ZsG,
.lo 94011111 [0,1,5,7,8] [] [Zzk,qe1,qe0,qe6,qe6] [qo2] 0 [0,1,5,7] [] [Zzk,qe1,qe0,qe6] [qo2] Zqq Zsl (fun n0=> .j 91054011111 [0,1,5,7,8,71] [] [Zzk,qe1,qe0,qe6,qe6,qe5] [qo2] (Zri (Zqq n0)) <|
.nil) <|
.lo 941011111111 [0,1,5,7,9,10,82,83,84] [] [Zzk,qe1,qe0,qe6,qe7,qe6,qe1,qe0,qe0] [qo2] 2 [0,1,5,7,9,10] [] [Zzk,qe1,qe0,qe6,qe7,qe6] [qo2] Zsj ZtH (fun _=> .nil) <|
.lo 941011111111111 [0,5,7,13,130,131,132] [] [Zzk,qe0,qe6,qe7,qe1,qe0,qe0] [qo2] 4 [0,5,7,13] [] [Zzk,qe0,qe6,qe7] [qo2] Zrh Zsk (fun _=> .nil) <|
.nil⟩
theorem ZCY:Zeg X0.E 203 D20.sig:=D20.okA G0 Tryz.func203 ⟨ZAl,ZAk,trivial⟩ (by kernel_rfl) (by kernel_rfl)
noncomputable def D21:FD U:=⟨178,Tryz.f178,[],[.part (.int .u32)],[(0,.arr (.int .u32))],[.view 0],[],[],ZrY,Zrk,
.lo 9401 [0] [] [Zzk] [qo2] 0 [0] [] [Zzk] [qo2] Zp3 Zsi (fun n0=> .j 9105401 [0,14] [] [Zzk,qe5] [qo2] (ZqZ (Zp3 n0)) <|
.nil) <|
.nil⟩
theorem ZCX:Zeg X0.E 178 D21.sig:=D21.okA G0 Tryz.func178 trivial (by kernel_rfl) (by kernel_rfl)
noncomputable def D22:FD U:=⟨177,Tryz.f177,[],[.p (.sl (.int .u32)),.p (.int .i64)],[],[.p (.int .u32)],[],[],ZpH,ZpH,
.nil⟩
theorem ZAj:Zeg X0.E 177 D22.sig:=D22.ok G0 Tryz.func177 trivial rfl rfl (by kernel_rfl)
noncomputable def D23:FD U:=⟨177,Tryz.f177,[],[.part (.int .u32),.p (.int .i64)],[(0,.arr (.int .u32))],[.p (.int .u32)],[],[],ZsU,ZqX,
.nil⟩
theorem ZCW:Zeg X0.E 177 D23.sig:=D23.okA G0 Tryz.func177 trivial (by kernel_rfl) (by kernel_rfl)
noncomputable def D24:FD U:=⟨156,Tryz.f156,[D11.sg,D12.sg,D14.sg,D1.sg,D16.sg,D17.sg,D20.sg,D21.sg,D23.sg],[.p (.sl (.int .u32)),.p (.sl (.int .u32))],[],[.p (.sl (.int .u32)),.p (.sl (.int .u32))],[],[(84,7)],Zo7,Zo7,
.lo 9410111111 [8,9,10,11,12,13] [11] [qe0,qe0,qe4,qe1,ZC8,qe0] [qo2,qo2] 1 [8,9,10,12] [] [qe0,qe0,qe4,ZC8] [qo2,qo2] ZpK Zsa (fun _=> .nil) <|
.lo 941011111111 [9,12,14,86,87] [] [qe0,qe4,.o (.sl (0,2,1)),qe0,qe0] [qo2,qo2] 3 [12,14] [] [qe4,.o (.sl (0,2,1))] [qo2,qo2] ZpJ Zr9 (fun _=> .nil) <|
.nil⟩
theorem ZAi:Zeg X0.E 156 D24.sig:=D24.ok G0 Tryz.func156 ⟨Zzj,ZAm,ZC2,Zyx,ZC0,ZCZ,ZCY,ZCX,ZCW,trivial⟩ rfl rfl (by kernel_rfl)
noncomputable def D25:FD U:=⟨110,Tryz.f110,[D24.sg],[.p (.sl (.int .u32)),.p (.sl (.int .u32))],[],[.p (.sl (.int .u32))],[],[],Zpd,Zpd,
.lo 9401 [0,1] [] [qe1,qe1] [] 0 [0] [] [qe1] [] Zov Zrw (fun _=> .nil) <|
.nil⟩
theorem ZAh:Zeg X0.E 110 D25.sig:=D25.ok G0 Tryz.func110 ⟨ZAi,trivial⟩ rfl rfl (by kernel_rfl)
noncomputable def D26:FD U:=⟨180,Tryz.f180,[D25.sg,D24.sg,D3.sg],[.p (.st 2),.p (.st 2)],[],[.p (.st 3)],[],[],ZoU,ZoU,
.nil⟩
theorem Zyh:Zeg X0.E 180 D26.sig:=D26.ok G0 Tryz.func180 ⟨ZAh,ZAi,Zzh,trivial⟩ rfl rfl (by kernel_rfl)
noncomputable def D27:FD U:=⟨136,Tryz.f136,[D6.sg,D26.sg],[.p (.st 2),.p (.st 2)],[],[.p (.st 3),.p (.int .i64)],[],[],ZsZ,ZsZ,
.nil⟩
theorem ZCV:Zeg X0.E 136 D27.sig:=D27.ok G0 Tryz.func136 ⟨ZCu,Zyh,trivial⟩ rfl rfl (by kernel_rfl)
noncomputable def D28:FD U:=⟨91,Tryz.f91,[D4.sg,D27.sg],[.p (.int .i64),.p (.int .i64)],[],[.p (.st 3),.p (.int .i64)],[],[],Ztf,Ztf,
.nil⟩
theorem ZAg:Zeg X0.E 91 D28.sig:=D28.ok G0 Tryz.func91 ⟨ZDB,ZCV,trivial⟩ rfl rfl (by kernel_rfl)
noncomputable def D29:FD U:=⟨59,Tryz.f59,[D28.sg],[],[],[.p (.st 3)],[],[],Zt4,Zt4,
.nil⟩
theorem Zzi:Zeg X0.E 59 D29.sig:=D29.ok G0 Tryz.func59 ⟨ZAg,trivial⟩ rfl rfl (by kernel_rfl)
noncomputable def D30:FD U:=⟨139,Tryz.f139,[],[],[],[.map (.int .i64) (.st 6)],[],[],ZuC,ZuC,
.nil⟩
theorem ZAf:Zeg X0.E 139 D30.sig:=D30.ok G0 Tryz.func139 trivial rfl rfl (by kernel_rfl)
noncomputable def D32:FD U:=⟨182,Tryz.f182,[(214,Zuv.sig)],[.p .str],[],[.p .str],[],[],Zwa,Zwa,
.nil⟩
theorem ZCT:Zeg X0.E 182 D32.sig:=D32.ok G0 Tryz.func182 ⟨Zu2,trivial⟩ rfl rfl (by kernel_rfl)
noncomputable def D33:FD U:=⟨257,Tryz.f257,[],[.p .str,.p .str],[],[.p .bool],[],[],ZoY,ZoY,
.j 911 [4] [] [qe5] [] ZpG <|
.nil⟩
theorem ZAe:Zeg X0.E 257 D33.sig:=D33.ok G0 Tryz.func257 trivial rfl rfl (by kernel_rfl)
noncomputable def D34:FD U:=⟨243,Tryz.f243,[D33.sg],[.p .str,.p .str],[],[.p .str,.p .bool],[],[],Zqa,Zqa,
.nil⟩
theorem ZCS:Zeg X0.E 243 D34.sig:=D34.ok G0 Tryz.func243 ⟨ZAe,trivial⟩ rfl rfl (by kernel_rfl)
noncomputable def D35:FD U:=⟨218,Tryz.f218,[D34.sg],[.p .str,.p .str],[],[.p .str,.p .bool],[],[],ZtE,ZtE,
.nil⟩
theorem ZCR:Zeg X0.E 218 D35.sig:=D35.ok G0 Tryz.func218 ⟨ZCS,trivial⟩ rfl rfl (by kernel_rfl)
noncomputable def D36:FD U:=⟨244,Tryz.f244,[D33.sg],[.p .str,.p .str],[],[.p .str],[],[],ZpW,ZpW,
.nil⟩
theorem ZCQ:Zeg X0.E 244 D36.sig:=D36.ok G0 Tryz.func244 ⟨ZAe,trivial⟩ rfl rfl (by kernel_rfl)
noncomputable def D37:FD U:=⟨219,Tryz.f219,[D36.sg],[.p .str,.p .str],[],[.p .str],[],[],Ztl,Ztl,
.nil⟩
theorem ZCP:Zeg X0.E 219 D37.sig:=D37.ok G0 Tryz.func219 ⟨ZCQ,trivial⟩ rfl rfl (by kernel_rfl)
noncomputable def D39:FD U:=⟨256,Tryz.f256,[(275,Zrm.sig)],[.p .str,.p .str],[],[.p (.int .i64)],[],[],ZqW,ZqW,
.j 914011 [0,1,5,16] [] [Zx6,Zx6,qe0,qe5] [] Zqp <|
.nil⟩
theorem ZCO:Zeg X0.E 256 D39.sig:=D39.ok G0 Tryz.func256 ⟨Ztr,trivial⟩ rfl rfl (by kernel_rfl)
noncomputable def D40:FD U:=⟨245,Tryz.f245,[D39.sg],[.p .str,.p .str],[],[.p .str,.p .str,.p .bool],[],[],Zrs,Zrs,
.nil⟩
theorem ZCN:Zeg X0.E 245 D40.sig:=D40.ok G0 Tryz.func245 ⟨ZCO,trivial⟩ rfl rfl (by kernel_rfl)
noncomputable def D41:FD U:=⟨220,Tryz.f220,[D40.sg],[.p .str,.p .str],[],[.p .str,.p .str,.p .bool],[],[],ZuH,ZuH,
.nil⟩
theorem ZAd:Zeg X0.E 220 D41.sig:=D41.ok G0 Tryz.func220 ⟨ZCN,trivial⟩ rfl rfl (by kernel_rfl)
noncomputable def D42:FD U:=⟨221,Tryz.f221,[(214,Zuv.sig)],[.p .str,.p (.int .i64)],[],[.p .bool],[],[],Zte,Zte,
.j 911 [4] [] [qe5] [] Zr0 <|
.nil⟩
theorem ZCM:Zeg X0.E 221 D42.sig:=D42.ok G0 Tryz.func221 ⟨Zu2,trivial⟩ rfl rfl (by kernel_rfl)
noncomputable def D43:FD U:=⟨135,Tryz.f135,[D1.sg],[.p (.sl (.int .u32)),.p (.sl (.int .u32))],[],[.p (.sl (.int .u32))],[],[],ZoS,ZoS,
.lo 941011 [1,5,17,18,19] [] [qe1,qe4,qe1,qe0,qe0] [qo2] 0 [5] [] [qe4] [qo2] Zpv ZrP (fun n0=> .lo 9410114011541011 [1,5,6,7,8,17,18,19,24,25,26] [] [qe1,qe4,qe0,qe7,qe6,qe1,qe0,qe0,qe1,qe0,qe0] [qo2] 2 [1,5,6,8,17,18,19] [] [qe1,qe4,qe0,qe6,qe1,qe0,qe0] [qo2] Zqz (ZrQ (Zpv n0)) (fun _=> .nil) <|
.nil) <|
.nil⟩
theorem ZAc:Zeg X0.E 135 D43.sig:=D43.ok G0 Tryz.func135 ⟨Zyx,trivial⟩ rfl rfl (by kernel_rfl)
noncomputable def D44:FD U:=⟨133,Tryz.f133,[D22.sg,D19.sg,D1.sg],[.p (.sl (.int .u32)),.p (.sl (.int .u32))],[],[.p (.sl (.int .u32))],[],[],ZpI,ZpI,
.lo 9410111 [0,1,5,6,20,21] [] [qe1,qe1,qe4,qe7,qe0,qe0] [qo2] 0 [5,6] [] [qe4,qe7] [qo2] ZqI Zr8 (fun _=> .nil) <|
.nil⟩
theorem ZAb:Zeg X0.E 133 D44.sig:=D44.ok G0 Tryz.func133 ⟨ZAj,ZAk,Zyx,trivial⟩ rfl rfl (by kernel_rfl)
noncomputable def D45:FD U:=⟨187,Tryz.f187,[D35.sg,D37.sg,D41.sg,D42.sg,D12.sg,D43.sg,D2.sg,D44.sg,D3.sg,D26.sg],[.p .str],[],[.p (.st 3),.p .bool],[],[],ZqK,ZqK,
.j 9111 [2,4,5] [] [qe3,Zx6,qe5] [qo8,qo2,qo2] Zs2 <|
.j 9101111 [2,5,6,7,39] [] [qe3,qe5,Zx6,Zx6,qe5] [qo8,qo2,qo2] ZrE <|
.lo 941011111111 [2,5,7,9,10,11,47,48,49] [9,10] [qe3,qe5,Zx6,qe1,qe1,ZC8,ZzS,qe0,qe0] [qo9,qo2,.arr (.int .u8) false,qo2,qo2] 0 [2,5,7,9,10,11] [] [qe3,qe5,Zx6,qe1,qe1,ZC8] [.box [.o (.v .bool),.o (.full (0,3,1)),.o (.v .bool),.o (.full (0,4,1))],qo2,qo2,qo2] Zs1 Zuk (fun _=> .nil) <|
.lo 9410111111111 [2,5,9,10,11,63,64] [11] [qe3,qe5,qe1,qe1,qe1,qe0,qe0] [qo8,qo2,qo2] 2 [2,5,9,11] [] [qe3,qe5,qe1,qe1] [qo8,qo2,qo2] Zs0 ZrD (fun _=> .nil) <|
.nil⟩
theorem ZAa:Zeg X0.E 187 D45.sig:=D45.ok G0 Tryz.func187 ⟨ZCR,ZCP,ZAd,ZCM,ZAm,ZAc,ZCU,ZAb,Zzh,Zyh,trivial⟩ rfl rfl (by kernel_rfl)
noncomputable def D48:FD U:=⟨224,Tryz.f224,[],[.p (.sl .str)],[],[.p .str],[],[],ZuV,ZuV,
.lr 941011 [3,6,7,8] [] [Zx6,.o (.v (.sl .str)),qe0,qe0] [] 0 [3] [] [Zx6] [] ZtW Zva (fun _=> .nil) <|
.nil⟩
theorem ZCL:Zeg X0.E 224 D48.sig:=D48.ok G0 Tryz.func224 trivial rfl rfl (by kernel_rfl)
noncomputable def D49:FD U:=⟨188,Tryz.f188,[D45.sg,(222,ZuA.sig),D41.sg,(223,Zuo.sig),D48.sg],[.p .str],[],[.p .str,.p .bool],[],[],ZsM,ZsM,
.j 9111111 [0,9] [] [Zx6,Zx6] [] ZtM <|
.j 910111111 [9,43] [] [Zx6,qe5] [] ZtL <|
.j 91111111 [9] [] [Zx6] [] ZtK <|
.nil⟩
theorem ZCK:Zeg X0.E 188 D49.sig:=D49.ok G0 Tryz.func188 ⟨ZAa,Zvz,ZAd,Zvq,ZCL,trivial⟩ rfl rfl (by kernel_rfl)
noncomputable def D50:FD U:=⟨138,Tryz.f138,[D30.sg,D32.sg,D49.sg],[.p (.int .i64),.p .str],[],[.p .str,.p .bool],[],[(26,2)],Zr4,Zr4,
.nil⟩
theorem ZCJ:Zeg X0.E 138 D50.sig:=D50.ok G0 Tryz.func138 ⟨ZAf,ZCT,ZCK,trivial⟩ rfl rfl (by kernel_rfl)
noncomputable def D51:FD U:=⟨92,Tryz.f92,[D50.sg,D30.sg,D45.sg],[.p (.int .i64),.p .str],[],[.p (.st 3),.p .bool],[],[(22,2)],ZuD,ZuD,
.nil⟩
theorem ZCI:Zeg X0.E 92 D51.sig:=D51.ok G0 Tryz.func92 ⟨ZCJ,ZAf,ZAa,trivial⟩ rfl rfl (by kernel_rfl)
noncomputable def D52:FD U:=⟨60,Tryz.f60,[D29.sg,D51.sg],[.p (.st 0)],[],[.p (.st 3),.p .bool],[],[],Zpk,Zpk,
.nil⟩
theorem ZCH:Zeg X0.E 60 D52.sig:=D52.ok G0 Tryz.func60 ⟨Zzi,ZCI,trivial⟩ rfl rfl (by kernel_rfl)
noncomputable def D53:FD U:=⟨17,Tryz.f17,[],[.p .str],[],[.p (.int .u64)],[],[],Zsh,Zsh,
.lo 941011 [0,3,6,7] [] [Zx6,qe6,qe0,qe0] [] 0 [3] [] [qe6] [] ZtB Zut (fun _=> .nil) <|
.nil⟩
theorem Zzg:Zeg X0.E 17 D53.sig:=D53.ok G0 Tryz.func17 trivial rfl rfl (by kernel_rfl)
noncomputable def D54:FD U:=⟨72,Tryz.f72,[D6.sg,D25.sg,D11.sg],[.p (.st 3)],[],[.p .bool],[],[],ZpF,ZpF,
.j 911 [2] [] [qe5] [] Zqr <|
.nil⟩
theorem Zzf:Zeg X0.E 72 D54.sig:=D54.ok G0 Tryz.func72 ⟨ZCu,ZAh,Zzj,trivial⟩ rfl rfl (by kernel_rfl)
noncomputable def D55:FD U:=⟨89,Tryz.f89,[D43.sg,D3.sg],[.p (.st 2),.p (.st 2)],[],[.p (.st 2)],[],[],Zn6,Zn6,
.nil⟩
theorem Zz9:Zeg X0.E 89 D55.sig:=D55.ok G0 Tryz.func89 ⟨ZAc,Zzh,trivial⟩ rfl rfl (by kernel_rfl)
noncomputable def D56:FD U:=⟨134,Tryz.f134,[D22.sg,D18.sg,D1.sg],[.p (.sl (.int .u32)),.p (.sl (.int .u32))],[],[.p (.sl (.int .u32))],[],[],Zpp,Zpp,
.lo 9410111 [0,1,5,6,12,13] [] [qe1,qe1,qe4,qe7,qe0,qe0] [qo2] 0 [5] [] [qe4] [qo2] ZqB ZrS (fun _=> .nil) <|
.nil⟩
theorem ZCG:Zeg X0.E 134 D56.sig:=D56.ok G0 Tryz.func134 ⟨ZAj,ZAl,Zyx,trivial⟩ rfl rfl (by kernel_rfl)
noncomputable def D57:FD U:=⟨88,Tryz.f88,[D44.sg,D3.sg,D11.sg,D56.sg],[.p (.st 2),.p (.st 2)],[],[.p (.st 2)],[],[],Zsy,Zsy,
.nil⟩
theorem ZCF:Zeg X0.E 88 D57.sig:=D57.ok G0 Tryz.func88 ⟨ZAb,Zzh,Zzj,ZCG,trivial⟩ rfl rfl (by kernel_rfl)
noncomputable def D58:FD U:=⟨164,Tryz.f164,[D55.sg,D57.sg],[.p (.st 3),.p (.st 3)],[],[.p (.st 2),.p (.st 2)],[],[],ZtU,ZtU,
.nil⟩
theorem ZCE:Zeg X0.E 164 D58.sig:=D58.ok G0 Tryz.func164 ⟨Zz9,ZCF,trivial⟩ rfl rfl (by kernel_rfl)
noncomputable def D59:FD U:=⟨165,Tryz.f165,[D54.sg,D58.sg,D26.sg],[.fn 164 [] [],.p (.st 3),.p (.st 3)],[],[.p (.st 3),.p (.int .i64)],[],[],Zp4,Zp4,
.j 9101 [0,4,5,6,18] [] [.fn 164 [] [],qe3,Zyk,ZBo,qe5] [ZBk,ZBk,qo9,qo2,qo2] Zpl <|
.nil⟩
theorem ZCD:Zeg X0.E 165 D59.sig:=D59.ok G0 Tryz.func165 ⟨Zzf,ZCE,Zyh,trivial⟩ rfl rfl (by kernel_rfl)
noncomputable def D60:FD U:=⟨116,Tryz.f116,[D59.sg],[.p (.st 3),.p (.st 3)],[],[.p (.st 3),.p (.int .i64)],[],[],Ztx,Ztx,
.nil⟩
theorem ZCC:Zeg X0.E 116 D60.sig:=D60.ok G0 Tryz.func116 ⟨ZCD,trivial⟩ rfl rfl (by kernel_rfl)
noncomputable def D61:FD U:=⟨115,Tryz.f115,[],[.p (.st 3),.p (.int .i64)],[],[.p (.st 3)],[],[],Zt3,Zt3,
.nil⟩
theorem Zz8:Zeg X0.E 115 D61.sig:=D61.ok G0 Tryz.func115 trivial rfl rfl (by kernel_rfl)
noncomputable def D62:FD U:=⟨75,Tryz.f75,[D60.sg,D61.sg],[.p (.st 3),.p (.st 3)],[],[.p (.st 3)],[],[],ZvL,ZvL,
.nil⟩
theorem ZCB:Zeg X0.E 75 D62.sig:=D62.ok G0 Tryz.func75 ⟨ZCC,Zz8,trivial⟩ rfl rfl (by kernel_rfl)
noncomputable def D63:FD U:=⟨131,Tryz.f131,[],[.p (.int .u64)],[],[.p (.int .i64)],[],[],Zt5,Zt5,
.j 911 [0,2] [] [qe6,qe0] [] Zto <|
.j 9111 [0,2] [] [qe6,qe0] [] Ztn <|
.j 91111 [0,2] [] [qe6,qe0] [] Ztm <|
.nil⟩
theorem ZCA:Zeg X0.E 131 D63.sig:=D63.ok G0 Tryz.func131 trivial rfl rfl (by kernel_rfl)
noncomputable def D64:FD U:=⟨94,Tryz.f94,[D63.sg],[.p (.int .u64)],[],[.p (.int .i64)],[],[],ZtR,ZtR,
.nil⟩
theorem ZCz:Zeg X0.E 94 D64.sig:=D64.ok G0 Tryz.func94 ⟨ZCA,trivial⟩ rfl rfl (by kernel_rfl)
noncomputable def D65:FD U:=⟨159,Tryz.f159,[],[.p (.int .u64)],[],[.p .bool],[],[],ZrF,ZrF,
.nil⟩
theorem ZCy:Zeg X0.E 159 D65.sig:=D65.ok G0 Tryz.func159 trivial rfl rfl (by kernel_rfl)
noncomputable def D66:FD U:=⟨113,Tryz.f113,[D65.sg],[.p (.int .u64),.p (.int .u64)],[],[.p (.int .i64)],[],[],Zr2,Zr2,
.nil⟩
theorem ZCx:Zeg X0.E 113 D66.sig:=D66.ok G0 Tryz.func113 ⟨ZCy,trivial⟩ rfl rfl (by kernel_rfl)
noncomputable def D68:FD U:=⟨101,Tryz.f101,[(151,Zrn.sig)],[.p .str,.p .str],[],[.p (.int .i64)],[],[],Zs9,Zs9,
.nil⟩
theorem ZCw:Zeg X0.E 101 D68.sig:=D68.ok G0 Tryz.func101 ⟨Zts,trivial⟩ rfl rfl (by kernel_rfl)
noncomputable def D69:FD U:=⟨112,Tryz.f112,[],[.p (.sl (.int .i64))],[],[.p (.int .i64)],[],[],Zul,Zul,
.lr 941011 [3,6,7,8] [] [qe0,.o (.v (.sl (.int .i64))),qe0,qe0] [] 0 [3] [] [qe0] [] Zs4 ZuW (fun _=> .nil) <|
.nil⟩
theorem ZCv:Zeg X0.E 112 D69.sig:=D69.ok G0 Tryz.func112 trivial rfl rfl (by kernel_rfl)
noncomputable def D70:FD U:=⟨73,Tryz.f73,[D66.sg,D68.sg,D69.sg],[.p (.st 4),.p (.st 4)],[],[.p (.int .i64)],[],[],Zqy,Zqy,
.nil⟩
theorem Zyg:Zeg X0.E 73 D70.sig:=D70.ok G0 Tryz.func73 ⟨ZCx,ZCw,ZCv,trivial⟩ rfl rfl (by kernel_rfl)
noncomputable def D71:FD U:=⟨166,Tryz.f166,[D70.sg],[.arr (.st 4),.p (.int .i64),.p (.int .i64),.fn 73 [] []],[(0,.arr (.st 4))],[],[],[],Zoc,Zn9,
.lo 941 [0,1,2,3,8] [] [ZBy,qe0,qe0,ZAy,qe0] [Zyj] 0 [] [] [] [Zyj] ZnU Zoy (fun n0=> .lo 941401541 [0,1,2,3,8,9] [] [ZBy,qe0,qe0,ZAy,qe0,qe0] [Zyj] 2 [0,1,2,3,8] [] [ZBy,qe0,qe0,ZAy,qe0] [Zyj] ZnQ (Zoz (ZnU n0)) (fun n1=> .j 910541401541 [0,1,2,3,8,9,34] [] [ZBy,qe0,qe0,ZAy,qe0,qe0,qe5] [Zyj] (Zn2 (ZnQ n1)) <|
.nil) <|
.nil) <|
.nil⟩
theorem ZCt:Zeg X0.E 166 D71.sig:=D71.okA G0 Tryz.func166 ⟨Zyg,trivial⟩ (by kernel_rfl) (by kernel_rfl)
noncomputable def D72:FD U:=⟨117,Tryz.f117,[D71.sg],[.arr (.st 4),.p (.int .i64),.p (.int .i64),.p (.int .i64),.fn 73 [] []],[(0,.arr (.st 4))],[],[],[],Zo6,Zon,
.lz 9411 [0,1,2,3,4,10,11] [] [ZBy,qe0,qe0,qe0,ZAy,qe5,qe5] [Zyj] ZoM (fun _=> .nil) <|
.nil⟩
theorem ZCs:Zeg X0.E 117 D72.sig:=D72.okA G0 Tryz.func117 ⟨ZCt,trivial⟩ (by kernel_rfl) (by kernel_rfl)
noncomputable def D73:FD U:=⟨76,Tryz.f76,[D64.sg,D72.sg],[.arr (.st 4),.fn 73 [] []],[(0,.arr (.st 4))],[],[],[],Zou,Zn0,
.nil⟩
theorem ZCr:Zeg X0.E 76 D73.sig:=D73.okA G0 Tryz.func76 ⟨ZCz,ZCs,trivial⟩ (by kernel_rfl) (by kernel_rfl)
noncomputable def D74:FD U:=⟨43,Tryz.f43,[D52.sg,D53.sg,D29.sg,D62.sg,D73.sg],[.p (.st 1),.p (.st 1)],[],[.own (.st 4)],[],[],ZtP,ZtP,
.lo 9410111 [3,5,6,15,16,17] [] [qe3,ZC7,ZzS,ZC9,qe0,qe0] [ZzR,ZC6,Zyj] 0 [6] [] [qe4] [Zyj] Zp7 Zus (fun n0=> .j 9101140115410111 [3,5,6,8,9,15,16,17,36] [] [qe3,ZC7,ZzS,.o (.ptr (0,4,1) 0 0),.o (.ptr (0,5,1) 0 0),ZC9,qe0,qe0,qe5] [ZzR,ZC6,Zyj,.boxS (.st 0),ZBk] (ZqP (Zp7 n0)) <|
.j 91111140115410111 [3,5,6,9,11,15,16,17] [] [qe3,ZC7,ZzS,.o (.ptr (0,4,1) 0 0),qe0,ZC9,qe0,qe0] [ZzR,ZC6,Zyj,ZBk] (Zsq (Zp7 n0)) <|
.j 91115410111 [3,5,6,15,16,17] [] [qe3,ZC7,ZzS,ZC9,qe0,qe0] [ZzR,ZC6,Zyj] (Zsp (Zp7 n0)) <|
.nil) <|
.nil⟩
theorem ZCq:Zeg X0.E 43 D74.sig:=D74.ok G0 Tryz.func43 ⟨ZCH,Zzg,Zzi,ZCB,ZCr,trivial⟩ rfl rfl (by kernel_rfl)
noncomputable def D75:FD U:=⟨15,Tryz.f15,[D74.sg],[.p (.st 1),.p (.st 1),.p (.int .i64)],[],[.p (.st 5),.p (.int .i64)],[],[],Zrz,Zrz,
.j 91401 [2,3,4,6,9] [] [qe0,qe3,Zyk,ZBo,qe5] [ZzR,ZzR,qo18,Zyj] ZtA <|
.j 9131401 [2,3,4,6,17] [] [qe0,qe3,Zyk,ZBo,qe5] [ZzR,ZzR,qo18,Zyj] Ztz <|
.nil⟩
theorem Zz7:Zeg X0.E 15 D75.sig:=D75.ok G0 Tryz.func15 ⟨ZCq,trivial⟩ rfl rfl (by kernel_rfl)
noncomputable def D76:FD U:=⟨38,Tryz.f38,[D53.sg,D54.sg,D70.sg],[.p (.st 5)],[],[.p .bool],[],[],Zsx,Zsx,
.j 9101 [1,33] [] [qe3,qe5] [ZxP] Zqn <|
.lr 941011 [1,35,36,37] [] [qe3,ZyJ,qe0,qe0] [ZxP] 0 [] [] [] [] Zq0 Zt1 (fun n0=> .j 9114011541011 [1,35,36,37,73] [] [qe3,ZyJ,qe0,qe0,qe5] [ZxP] (Zqm (Zq0 n0)) <|
.nil) <|
.nil⟩
theorem ZCp:Zeg X0.E 38 D76.sig:=D76.ok G0 Tryz.func38 ⟨Zzg,Zzf,Zyg,trivial⟩ rfl rfl (by kernel_rfl)
noncomputable def D77:FD U:=⟨154,Tryz.f154,[],[.p (.sl (.int .u32))],[],[.p (.sl (.int .u32))],[],[],Zn8,Zn8,
.lo 9401 [0] [] [qe1] [] 0 [0] [] [qe1] [] Zor Zth (fun n0=> .j 9105401 [0,14] [] [qe1,qe5] [] (Zrp (Zor n0)) <|
.nil) <|
.nil⟩
theorem ZxI:Zeg X0.E 154 D77.sig:=D77.ok G0 Tryz.func154 trivial rfl rfl (by kernel_rfl)
noncomputable def D78:FD U:=⟨105,Tryz.f105,[D77.sg],[.p .bool,.p (.sl (.int .u32))],[],[.p (.st 2)],[],[],ZoA,ZoA,
.j 9111 [4] [] [qe3] [ZBl] Zqx <|
.nil⟩
theorem Zz6:Zeg X0.E 105 D78.sig:=D78.ok G0 Tryz.func105 ⟨ZxI,trivial⟩ rfl rfl (by kernel_rfl)
noncomputable def D79:FD U:=⟨126,Tryz.f126,[D78.sg],[.p (.int .i64)],[],[.p (.st 2)],[],[],Zos,Zos,
.j 9111 [0,2,3] [] [qe0,qe3,qe6] [qo26,qo2] Zpz <|
.nil⟩
theorem Zz5:Zeg X0.E 126 D79.sig:=D79.ok G0 Tryz.func126 ⟨Zz6,trivial⟩ rfl rfl (by kernel_rfl)
noncomputable def D80:FD U:=⟨102,Tryz.f102,[],[.p (.st 2)],[],[.p .bool],[],[],Zo4,Zo4,
.j 9111 [2] [] [qe5] [] Zoa <|
.nil⟩
theorem ZCo:Zeg X0.E 102 D80.sig:=D80.ok G0 Tryz.func102 trivial rfl rfl (by kernel_rfl)
noncomputable def D81:FD U:=⟨152,Tryz.f152,[D77.sg],[.p (.sl (.int .u32))],[],[.p (.sl (.int .u32))],[],[],Zox,Zox,
.lo 941011 [0,3,9,10] [] [qe1,qe4,qe0,qe0] [qo2] 0 [3] [] [qe4] [qo2] Zpf Zrq (fun n0=> .j 9111541011 [0,3,9,10] [] [qe1,qe4,qe0,qe0] [qo2] (Zpg (Zpf n0)) <|
.nil) <|
.nil⟩
theorem ZCn:Zeg X0.E 152 D81.sig:=D81.ok G0 Tryz.func152 ⟨ZxI,trivial⟩ rfl rfl (by kernel_rfl)
noncomputable def D82:FD U:=⟨103,Tryz.f103,[],[.p (.sl (.int .u32)),.p (.sl (.int .u32))],[],[.p (.int .i64)],[],[],Zpo,Zpo,
.lr 941011 [0,1,5] [] qs0 [] 0 [] [] [] [] Zqw ZrO (fun _=> .nil) <|
.nil⟩
theorem Zz4:Zeg X0.E 103 D82.sig:=D82.ok G0 Tryz.func103 trivial rfl rfl (by kernel_rfl)
noncomputable def D83:FD U:=⟨107,Tryz.f107,[D77.sg],[.p (.sl (.int .u32)),.p (.sl (.int .u32))],[],[.p (.sl (.int .u32))],[],[],Zpm,Zpm,
.lo 9410111 [0,1,5,6,7] [] [qe1,qe1,qe4,qe0,qe0] [qo2] 0 [5] [] [qe4] [qo2] Zpq ZrH (fun n0=> .j 9114015410111 [0,1,5,6,7] [] [qe1,qe1,qe4,qe0,qe0] [qo2] (Zpr (Zpq n0)) <|
.nil) <|
.nil⟩
theorem Zz3:Zeg X0.E 107 D83.sig:=D83.ok G0 Tryz.func107 ⟨ZxI,trivial⟩ rfl rfl (by kernel_rfl)
noncomputable def D84:FD U:=⟨153,Tryz.f153,[D77.sg],[.p (.sl (.int .u32)),.p (.int .u32)],[],[.p (.sl (.int .u32))],[],[],ZoV,ZoV,
.lo 941011 [0,1,5,6] [] [qe1,qe7,qe4,qe0] [qo2] 0 [1,5] [] [qe7,qe4] [qo2] ZpQ Zq3 (fun _=> .nil) <|
.nil⟩
theorem Zz2:Zeg X0.E 153 D84.sig:=D84.ok G0 Tryz.func153 ⟨ZxI,trivial⟩ rfl rfl (by kernel_rfl)
noncomputable def D85:FD U:=⟨104,Tryz.f104,[D81.sg,D82.sg,D83.sg,D84.sg],[.p (.sl (.int .u32)),.p (.sl (.int .u32))],[],[.p (.sl (.int .u32))],[],[],Zqi,Zqi,
.lo 94011 [0,1,5] [] qs0 [] 0 [0,1,5] [] qs0 [] ZoQ ZrM (fun n0=> .j 91054011 [0,1,5,17] [] [qe1,qe1,qe0,qe5] [] (Zqv (ZoQ n0)) <|
.nil) <|
.lo 940111 [0,1,5] [] qs0 [] 2 [0,5] [] [qe1,qe0] [] ZnV ZrJ (fun n0=> .lo 94041540111 [0,1,5] [] qs0 [] 4 [0,1,5] [] qs0 [] Zoj (ZrL (ZnV n0)) (fun _=> .nil) <|
.lo 940141540111 [0,1,5] [] qs0 [] 6 [0,1,5] [] qs0 [] Zoi (ZrK (ZnV n0)) (fun _=> .nil) <|
.j 911141540111 [0,1,5] [] qs0 [] (Zqu (ZnV n0)) <|
.nil) <|
.lo 9401111 [0,5] [] [qe1,qe0] [] 8 [0] [] [qe1] [] ZoP ZrI (fun _=> .nil) <|
.nil⟩
theorem ZCm:Zeg X0.E 104 D85.sig:=D85.ok G0 Tryz.func104 ⟨ZCn,Zz4,Zz3,Zz2,trivial⟩ rfl rfl (by kernel_rfl)
noncomputable def D86:FD U:=⟨213,Tryz.f213,[],[.p (.sl (.int .u32)),.p (.int .i64)],[],[.p (.int .u32)],[],[],Zqj,Zqj,
.nil⟩
theorem ZCl:Zeg X0.E 213 D86.sig:=D86.ok G0 Tryz.func213 trivial rfl rfl (by kernel_rfl)
noncomputable def D87:FD U:=⟨174,Tryz.f174,[D86.sg,D84.sg,D82.sg,D83.sg,D77.sg],[.p (.sl (.int .u32)),.p (.sl (.int .u32))],[],[.p (.sl (.int .u32)),.p (.sl (.int .u32))],[],[],Zpn,Zpn,
.lo 941011 [0,1,4,5,6] [5] [qe1,qe1,qe4,qe1,qe0] [qo2] 0 [4,5] [] [qe4,qe1] [qo2] Zpt ZrN (fun n0=> .j 911541011 [0,1,4,5,6] [] [qe1,qe1,qe4,qe1,qe0] [qo2] (Zpu (Zpt n0)) <|
.nil) <|
.nil⟩
theorem ZCk:Zeg X0.E 174 D87.sig:=D87.ok G0 Tryz.func174 ⟨ZCl,Zz2,Zz4,Zz3,ZxI,trivial⟩ rfl rfl (by kernel_rfl)
noncomputable def D88:FD U:=⟨127,Tryz.f127,[D79.sg,D85.sg,D87.sg,D78.sg],[.p (.st 2),.p (.st 2)],[],[.p (.st 3)],[],[],Zps,Zps,
.nil⟩
theorem ZCj:Zeg X0.E 127 D88.sig:=D88.ok G0 Tryz.func127 ⟨Zz5,ZCm,ZCk,Zz6,trivial⟩ rfl rfl (by kernel_rfl)
noncomputable def D89:FD U:=⟨128,Tryz.f128,[D80.sg,D88.sg],[.p (.st 2),.p (.st 2)],[],[.p (.st 3),.p (.int .i64)],[],[],ZpU,ZpU,
.j 9101 [2,3,4,13] [] [qe3,Zyk,ZBo,qe5] [ZBl,ZBl,qo9,qo2,qo2] Zqc <|
.nil⟩
theorem ZCi:Zeg X0.E 128 D89.sig:=D89.ok G0 Tryz.func128 ⟨ZCo,ZCj,trivial⟩ rfl rfl (by kernel_rfl)
noncomputable def D90:FD U:=⟨81,Tryz.f81,[D79.sg,D89.sg],[.p (.int .i64),.p (.int .i64)],[],[.p (.st 3),.p (.int .i64)],[],[],ZqC,ZqC,
.nil⟩
theorem ZCh:Zeg X0.E 81 D90.sig:=D90.ok G0 Tryz.func81 ⟨Zz5,ZCi,trivial⟩ rfl rfl (by kernel_rfl)
noncomputable def D91:FD U:=⟨49,Tryz.f49,[D90.sg],[.p (.int .i64),.p (.int .i64)],[],[.p (.st 3)],[],[],ZpP,ZpP,
.nil⟩
theorem ZCg:Zeg X0.E 49 D91.sig:=D91.ok G0 Tryz.func49 ⟨ZCh,trivial⟩ rfl rfl (by kernel_rfl)
noncomputable def D92:FD U:=⟨23,Tryz.f23,[D91.sg],[.p (.int .i64)],[],[.p (.st 3)],[],[],Zqh,Zqh,
.nil⟩
theorem ZCf:Zeg X0.E 23 D92.sig:=D92.ok G0 Tryz.func23 ⟨ZCg,trivial⟩ rfl rfl (by kernel_rfl)
noncomputable def D93:FD U:=⟨48,Tryz.f48,[],[.p (.st 2),.p (.st 2)],[],[.p .bool],[],[],ZoK,ZoK,
.j 9101 [2,3,20] [] [qe3,Zyk,qe5] [ZBl,ZBl] Zpx <|
.lr 941011 [3,22,23,24] [] [qe3,qe1,qe0,qe0] [ZBl] 0 [] [] [] [] Zpw ZqM (fun _=> .nil) <|
.nil⟩
theorem ZCe:Zeg X0.E 48 D93.sig:=D93.ok G0 Tryz.func48 trivial rfl rfl (by kernel_rfl)
noncomputable def D94:FD U:=⟨20,Tryz.f20,[D93.sg],[.p (.st 3),.p (.st 3)],[],[.p .bool],[],[],ZoL,ZoL,
.j 911 [4] [] [qe5] [] Zqb <|
.nil⟩
theorem Zze:Zeg X0.E 20 D94.sig:=D94.ok G0 Tryz.func20 ⟨ZCe,trivial⟩ rfl rfl (by kernel_rfl)
noncomputable def D95:FD U:=⟨10,Tryz.f10,[D75.sg,D76.sg,D92.sg,D94.sg,D53.sg],[],[],[.p .bool],[],[],ZoW,ZoW,
.j 9101111 [3,40] [] [qe3,qe5] [ZxP] ZoE <|
.lr 941011111 [42,43,44] [] [ZyJ,qe0,qe0] [] 0 [] [] [] [] ZoD Zq9 (fun n0=> .j 9114011541011111 [42,43,44,62] [] [ZyJ,qe0,qe0,qe5] [] (Zo5 (ZoD n0)) <|
.nil) <|
.nil⟩
theorem ZCd:Zeg X0.E 10 D95.sig:=D95.ok G0 Tryz.func10 ⟨Zz7,ZCp,ZCf,Zze,Zzg,trivial⟩ rfl rfl (by kernel_rfl)
noncomputable def D96:FD U:=⟨11,Tryz.f11,[],[.p (.sl (.int .i64))],[],[.box (.st 7)],[],[],Zrx,Zrx,
.nil⟩
theorem ZCc:Zeg X0.E 11 D96.sig:=D96.ok G0 Tryz.func11 trivial rfl rfl (by kernel_rfl)
noncomputable def D97:FD U:=⟨14,Tryz.f14,[],[.p (.int .i64),.p (.int .i64)],[],[.p (.int .i64)],[],[],Zpj,Zpj,
.nil⟩
theorem Zz1:Zeg X0.E 14 D97.sig:=D97.ok G0 Tryz.func14 trivial rfl rfl (by kernel_rfl)
noncomputable def D98:FD U:=⟨12,Tryz.f12,[D97.sg],[.box (.st 7),.p (.int .i64)],[(0,.box (.st 7))],[.p (.int .i64)],[],[],ZnX,ZnX,
.nil⟩
theorem ZxH:Zeg X0.E 12 D98.sig:=D98.ok G0 Tryz.func12 ⟨Zz1,trivial⟩ rfl rfl (by kernel_rfl)
noncomputable def D99:FD U:=⟨39,Tryz.f39,[D98.sg],[.box (.st 7),.p (.sl .str)],[(0,.box (.st 7))],[.p .str],[],[],Zof,Zof,
.nil⟩
theorem Zzd:Zeg X0.E 39 D99.sig:=D99.ok G0 Tryz.func39 ⟨ZxH,trivial⟩ rfl rfl (by kernel_rfl)
noncomputable def ZDS:FD U:=⟨40,Tryz.f40,[D98.sg,D99.sg],[.box (.st 7)],[(0,.box (.st 7))],[.p (.st 0)],[],[],ZqD,ZqD,
.nil⟩
theorem ZBj:Zeg X0.E 40 ZDS.sig:=ZDS.ok G0 Tryz.func40 ⟨ZxH,Zzd,trivial⟩ rfl rfl (by kernel_rfl)
noncomputable def ZDR:FD U:=⟨41,Tryz.f41,[D98.sg,D99.sg,(42,Zuw.sig)],[.box (.st 7)],[(0,.box (.st 7))],[.p (.st 0)],[],[],ZpV,ZpV,
.nil⟩
theorem ZBi:Zeg X0.E 41 ZDR.sig:=ZDR.ok G0 Tryz.func41 ⟨ZxH,Zzd,Zu3,trivial⟩ rfl rfl (by kernel_rfl)
noncomputable def ZDQ:FD U:=⟨13,Tryz.f13,[D99.sg,D98.sg,ZDS.sg,ZDR.sg,(42,Zuw.sig)],[.box (.st 7),.p (.int .i64)],[(0,.box (.st 7))],[.p (.st 1)],[],[],Zpc,Zpc,
.lo 9410111 [0,4,5,6,15,16] [] [.o (.ptr (0,0,0) 0 0),qe3,Zyk,qe0,qe0,qe0] [.boxS (.st 7),qo28,ZDg,ZBn,ZBn] 0 [4,5] [] [qe3,Zyk] [.boxS (.st 7),qo28,ZDg,ZBn,ZBn] Zph Zrr (fun n0=> .j 911140115410111 [0,4,5,6,8,15,16] [] [.o (.ptr (0,0,0) 0 0),qe3,Zyk,qe0,ZBo,qe0,qe0] [.boxS (.st 7),ZDg,.box [.o (.v .str),.o (.full (0,5,1))],.boxS (.st 0),ZBn,ZBn] (Zot (Zph n0)) <|
.nil) <|
.nil⟩
theorem ZBh:Zeg X0.E 13 ZDQ.sig:=ZDQ.ok G0 Tryz.func13 ⟨Zzd,ZxH,ZBj,ZBi,Zu3,trivial⟩ rfl rfl (by kernel_rfl)
noncomputable def ZDP:FD U:=⟨18,Tryz.f18,[D94.sg],[.p (.st 5),.p (.st 5)],[],[.p .bool],[],[],Zpa,Zpa,
.j 9101 [2,3,28] [] [qe3,Zyk,qe5] [ZxP,ZxP] Zpe <|
.lr 941011 [3,30,31,32] [] [qe3,ZyJ,qe0,qe0] [ZxP] 0 [] [] [] [] ZoI Zro (fun n0=> .j 91114011541011 [3,30,31,32,68] [] [qe3,ZyJ,qe0,qe0,qe5] [ZxP] (ZoJ (ZoI n0)) <|
.nil) <|
.nil⟩
theorem ZBg:Zeg X0.E 18 ZDP.sig:=ZDP.ok G0 Tryz.func18 ⟨Zze,trivial⟩ rfl rfl (by kernel_rfl)
noncomputable def ZDO:FD U:=⟨82,Tryz.f82,[D70.sg],[.p (.sl (.st 4)),.p (.st 4),.fn 73 [] []],[],[.p (.int .i64),.p .bool],[],[],ZnK,ZnK,
.lo 940111 [0,2,4,8,9,10] [] [ZyJ,ZAy,qe3,qe0,qe0,qe0] [.boxS (.st 4)] 0 [0,2,4,8,9] [] [ZyJ,ZAy,qe3,qe0,qe0] [.boxS (.st 4)] ZnN ZnS (fun _=> .nil) <|
.j 911111 [6,7] [] [qe0,qe5] [] ZnO <|
.nil⟩
theorem ZBf:Zeg X0.E 82 ZDO.sig:=ZDO.ok G0 Tryz.func82 ⟨Zyg,trivial⟩ rfl rfl (by kernel_rfl)
noncomputable def ZDN:FD U:=⟨45,Tryz.f45,[ZDO.sg],[.p (.st 5),.p (.st 4)],[],[.p (.st 4),.p .bool],[],[],ZuI,ZuI,
.nil⟩
theorem ZBe:Zeg X0.E 45 ZDN.sig:=ZDN.ok G0 Tryz.func45 ⟨ZBf,trivial⟩ rfl rfl (by kernel_rfl)
noncomputable def ZDM:FD U:=⟨58,Tryz.f58,[D28.sg,D29.sg],[.p (.int .i64),.p (.int .i64)],[],[.p (.st 3)],[],[],Zwi,Zwi,
.nil⟩
theorem ZBd:Zeg X0.E 58 ZDM.sig:=ZDM.ok G0 Tryz.func58 ⟨ZAg,Zzi,trivial⟩ rfl rfl (by kernel_rfl)
noncomputable def ZDL:FD U:=⟨175,Tryz.f175,[D55.sg],[.p (.st 3),.p (.st 3)],[],[.p (.st 2),.p (.st 2)],[],[],ZtV,ZtV,
.nil⟩
theorem ZBc:Zeg X0.E 175 ZDL.sig:=ZDL.ok G0 Tryz.func175 ⟨Zz9,trivial⟩ rfl rfl (by kernel_rfl)
noncomputable def ZDK:FD U:=⟨165,Tryz.f165,[D54.sg,ZDL.sg,D26.sg],[.fn 175 [] [],.p (.st 3),.p (.st 3)],[],[.p (.st 3),.p (.int .i64)],[],[],ZpE,ZpE,
.j 9101 [0,4,5,6,18] [] [.fn 175 [] [],qe3,Zyk,ZBo,qe5] [ZBk,ZBk,qo9,qo2,qo2] Zo0 <|
.nil⟩
theorem ZBb:Zeg X0.E 165 ZDK.sig:=ZDK.ok G0 Tryz.func165 ⟨Zzf,ZBc,Zyh,trivial⟩ rfl rfl (by kernel_rfl)
noncomputable def ZDJ:FD U:=⟨129,Tryz.f129,[ZDK.sg],[.p (.st 3),.p (.st 3)],[],[.p (.st 3),.p (.int .i64)],[],[],Ztw,Ztw,
.nil⟩
theorem ZBa:Zeg X0.E 129 ZDJ.sig:=ZDJ.ok G0 Tryz.func129 ⟨ZBb,trivial⟩ rfl rfl (by kernel_rfl)
noncomputable def ZDI:FD U:=⟨83,Tryz.f83,[ZDJ.sg,D61.sg],[.p (.st 3),.p (.st 3)],[],[.p (.st 3)],[],[],ZvK,ZvK,
.nil⟩
theorem ZA9:Zeg X0.E 83 ZDI.sig:=ZDI.ok G0 Tryz.func83 ⟨ZBa,Zz8,trivial⟩ rfl rfl (by kernel_rfl)
noncomputable def ZDH:FD U:=⟨46,Tryz.f46,[ZDM.sg,ZDI.sg],[.p (.st 4)],[],[.p (.st 3)],[],[],Ztb,Ztb,
.nil⟩
theorem ZA8:Zeg X0.E 46 ZDH.sig:=ZDH.ok G0 Tryz.func46 ⟨ZBd,ZA9,trivial⟩ rfl rfl (by kernel_rfl)
noncomputable def ZDG:FD U:=⟨85,Tryz.f85,[D70.sg],[.p (.st 5),.p (.st 4)],[],[.p .bool],[],[],Zry,Zry,
.j 911 [4] [] [qe5] [] ZqH <|
.nil⟩
theorem ZA7:Zeg X0.E 85 ZDG.sig:=ZDG.ok G0 Tryz.func85 ⟨Zyg,trivial⟩ rfl rfl (by kernel_rfl)
noncomputable def ZDF:FD U:=⟨130,Tryz.f130,[ZDG.sg],[.p (.sl (.st 4)),.fn 85 [.v (.st 5)] []],[],[.p (.int .i64)],[],[],Zn1,Zn1,
.lr 94101 [0,1,7,8] [] [ZyJ,.fn 85 [.v (.st 5)] [],qe0,qe0] [] 0 [] [] [] [] ZnY Zoh (fun _=> .nil) <|
.nil⟩
theorem ZA6:Zeg X0.E 130 ZDF.sig:=ZDF.ok G0 Tryz.func130 ⟨ZA7,trivial⟩ rfl rfl (by kernel_rfl)
noncomputable def ZDE:FD U:=⟨84,Tryz.f84,[ZDF.sg],[.p (.sl (.st 4)),.fn 85 [.v (.st 5)] []],[],[.p .bool],[],[],ZnZ,ZnZ,
.nil⟩
theorem ZA5:Zeg X0.E 84 ZDE.sig:=ZDE.ok G0 Tryz.func84 ⟨ZA6,trivial⟩ rfl rfl (by kernel_rfl)
noncomputable def ZDD:FD U:=⟨47,Tryz.f47,[ZDE.sg],[.p (.st 5),.p (.st 5)],[],[.p .bool],[],[],Zsw,Zsw,
.j 911 [4] [] [qe5] [] Zta <|
.nil⟩
theorem ZA4:Zeg X0.E 47 ZDD.sig:=ZDD.ok G0 Tryz.func47 ⟨ZA5,trivial⟩ rfl rfl (by kernel_rfl)
noncomputable def ZDC:FD U:=⟨19,Tryz.f19,[ZDN.sg,ZDH.sg,ZDD.sg],[.p (.st 5),.p (.st 5)],[],[.own (.st 8),.p .bool],[],[],Zub,Zub,
.lo 941011 [2,3,6,12,13,14] [] [qe3,Zyk,ZzS,ZyJ,qe0,qe0] [ZxP,ZxP,ZBm] 0 [2,3,6] [] [qe3,Zyk,ZzS] [ZxP,ZxP,ZBm] Zq1 Zt2 (fun n0=> .j 9111541011 [2,3,6,12,13,14] [] [qe3,Zyk,ZzS,ZyJ,qe0,qe0] [ZxP,ZxP,ZBm] (Ztd (Zq1 n0)) <|
.nil) <|
.j 91111 [4,5] [] [qe4,qe5] [ZBm] Ztc <|
.nil⟩
theorem ZA3:Zeg X0.E 19 ZDC.sig:=ZDC.ok G0 Tryz.func19 ⟨ZBe,ZA8,ZA4,trivial⟩ rfl rfl (by kernel_rfl)
noncomputable def D118:FD U:=⟨4,Tryz.f4,[D0.sg,D95.sg,D96.sg,D98.sg,ZDQ.sg,D97.sg,D75.sg,ZDP.sg,ZDC.sg,D94.sg],[.p (.sl (.int .i64)),.p (.int .i64),.p (.int .i64)],[],[.p .bool],[],[],ZpB,ZpB,
.j 910111111111111 [15,129] [] [qe3,qe5] [ZxP] ZnT <|
.j 91011111111111111 [21,147] [] [qe4,qe5] [ZBm] Zog <|
.lr 9410111111111111111 [148,149,150] [] [qe4,qe0,qe0] [ZBm] 0 [] [] [] [] ZoX Zp8 (fun _=> .nil) <|
.nil⟩
theorem D118_ok:Zeg X0.E 4 D118.sig:=D118.ok G0 Tryz.func4 ⟨ZDT,ZCd,ZCc,ZxH,ZBh,Zz1,Zz7,ZBg,ZA3,Zze,trivial⟩ rfl rfl (by kernel_rfl)
end
end Go.Proofs

/- Printed by wip/tools/tgen.py: walks. -/
import Derived.Test.YtbjnddlpdlfknaaGreatDoorCkU
import Derived.Test.YtbjnddlpdlfknaaGreatDoorCkX
set_option linter.unusedVariables false
set_option linter.unusedSimpArgs false
set_option linter.unusedSectionVars false
namespace Go.Proofs
open Go Eng
set_option maxRecDepth 100000
noncomputable section
abbrev qe0:Sh:= .o (.v (.int .i64))
abbrev qo1:ShO:= .arr (.int .u32) false
abbrev qe2:Sh:= .o (.v (.sl (.int .u32)))
abbrev qe3:Sh:= .o (.v .bool)
abbrev qe4:Sh:= .o (.ptr (0,1,1) 0 0)
abbrev qe5:Sh:= .o (.full (0,1,1))
abbrev qo6:ShO:= .box [.o (.v (.int .i64)),.o (.v .bool),.o (.full (0,3,1)),.o (.v .bool),.o (.full (0,4,1)),.o (.v .bool),.o (.full (0,5,1)),.o (.v .bool),.o (.full (0,6,1)),.o (.v .bool),.o (.full (0,7,1)),.o (.v .bool),.o (.full (0,8,1)),.o (.v .bool),.o (.full (0,9,1)),.o (.v .bool),.o (.full (0,10,1)),.o (.v .bool),.o (.full (0,11,1)),.o (.v .bool),.o (.full (0,12,1))]
abbrev qe7:Sh:= .o (.v .str)
abbrev qe8:Sh:= .o (.ptr (0,2,1) 0 0)
abbrev qo9:ShO:= .box [.o (.v .bool),.o (.full (0,4,1)),.o (.v .bool),.o (.full (0,5,1))]
abbrev ZyL:Sh:= .o (.v (.int .u64))
abbrev qo11:ShO:= .box [.o (.v .bool),.o (.full (0,2,1)),.o (.v .bool),.o (.full (0,3,1))]
abbrev ZAx:ShO:= .arr (.st 2) false
abbrev ZzD:Sh:= .o (.v (.int .u32))
abbrev ZGs:ShO:= .box [.o (.v .bool),.o (.full (0,5,1)),.o (.v .bool),.o (.full (0,6,1))]
abbrev ZzN:ShO:= .arr (.st 7) false
abbrev ZA7:Sh:= .o (.ptr (0,3,1) 0 0)
abbrev ZA6:Sh:= .o (.v (.sl (.st 7)))
abbrev ZAi:ShO:= .boxS (.st 0)
abbrev ZAh:ShO:= .boxS (.st 6)
abbrev ZA5:Sh:= .o (.full (0,3,1))
abbrev ZBZ:Sh:= .o (.full (0,0,0))
abbrev ZBY:Sh:= .o (.sl (0,0,0))
abbrev ZB9:ShO:= .boxS (.st 1)
abbrev ZDk:Sh:= .o (.v (.sl (.st 5)))
abbrev ZDj:Sh:= .o (.full (0,2,1))
abbrev ZEx:ShO:= .arr (.int .u8) false
abbrev ZGK:ShO:= .box [.o (.v .str),.o (.full (0,4,1))]
abbrev ZEw:ShO:= .arr (.st 5) false
abbrev ZEM:Sh:= .o (.map (0,2,1))
abbrev ZGu:Sh:= .o (.ptr (0,4,1) 0 0)
abbrev qo31:ShO:= .box [.o (.v .bool),.o (.full (0,2,1))]
abbrev ZGr:ShO:= .map .str (.int .i64)
abbrev qo33:ShO:= .box [.o (.v .str),.o (.full (0,3,1))]
abbrev ZGt:Sh:= .o (.full (0,4,1))
abbrev ZEL:Sh:= .fn 100 [] []
abbrev ZEK:Sh:= .fn 73 [] []
abbrev ZGM:Sh:= .o (.full (0,5,1))
abbrev ZGq:ShO:= .map .str .bool
abbrev ZGL:Sh:= .o (.map (0,3,1))
abbrev qs0:List Sh:=[qe2,qe2,qe0]
abbrev qp1:List ShO:=[qo6,.boxS (.st 3),qo1,qo1,qo1,qo1,qo1,qo1,qo1,qo1,qo1,qo1]
abbrev qp2:List ShO:=[qo11,qo1,qo1]
abbrev qs3:List Sh:=[qe7,qe3]
abbrev qp4:List ShO:=[ZAh,ZAh,ZAx,ZAx,ZAx]
abbrev qp5:List ShO:=[ZAx,.boxS (.st 7)]
abbrev qp6:List ShO:=[ZB9,ZB9,qo9,qo1,qo1]
abbrev qp7:List ShO:=[qo9,ZAi,ZAi,qo1,qo1]
abbrev qs8:List Sh:=[qe3,qe7,qe7,qe3]
abbrev qs9:List Sh:=[qe2,qe2,qe5,ZyL,qe0]
abbrev ZGJ:List Sh:=[qe0,qe0,qe0,qe0,qe0]
abbrev ZEJ:List Sh:=[qe3,qe7,qe7]
noncomputable def D0:FD U:=⟨9,Tryz.f9,[],[.p (.sl (.int .i64))],[],[.p .bool],[],[],Zsk,Zsk,
.nil⟩
theorem ZHL:Zeg X0.E 9 D0.sig:=D0.ok G0 Tryz.func9 trivial rfl rfl (by kernel_rfl)
noncomputable def D1:FD U:=⟨154,Tryz.f154,[],[.p (.sl (.int .u32))],[],[.p (.sl (.int .u32))],[],[],Zn0,Zn0,
.lo 9401 [0] [] [qe2] [] 0 [0] [] [qe2] [] Zow ZuV (fun n0=> .j 9105401 [0,14] [] [qe2,qe3] [] (Zsz (Zow n0)) <|
.nil) <|
.nil⟩
theorem ZA4:Zeg X0.E 154 D1.sig:=D1.ok G0 Tryz.func154 trivial rfl rfl (by kernel_rfl)
noncomputable def D2:FD U:=⟨105,Tryz.f105,[D1.sg],[.p .bool,.p (.sl (.int .u32))],[],[.p (.st 0)],[],[],ZnV,ZnV,
.j 9111 [4] [] [qe4] [ZAi] Zre <|
.nil⟩
theorem ZBP:Zeg X0.E 105 D2.sig:=D2.ok G0 Tryz.func105 ⟨ZA4,trivial⟩ rfl rfl (by kernel_rfl)
noncomputable def D3:FD U:=⟨126,Tryz.f126,[D2.sg],[.p (.int .i64)],[],[.p (.st 0)],[],[],ZnR,ZnR,
.j 9111 [0,2,3] [] [qe0,qe4,ZyL] [qo31,qo1] Zp0 <|
.nil⟩
theorem ZDS:Zeg X0.E 126 D3.sig:=D3.ok G0 Tryz.func126 ⟨ZBP,trivial⟩ rfl rfl (by kernel_rfl)
noncomputable def D4:FD U:=⟨102,Tryz.f102,[],[.p (.st 0)],[],[.p .bool],[],[],Zpt,Zpt,
.j 9111 [2] [] [qe3] [] Zoa <|
.nil⟩
theorem ZG8:Zeg X0.E 102 D4.sig:=D4.ok G0 Tryz.func102 trivial rfl rfl (by kernel_rfl)
noncomputable def D5:FD U:=⟨152,Tryz.f152,[D1.sg],[.p (.sl (.int .u32))],[],[.p (.sl (.int .u32))],[],[],ZoC,ZoC,
.lo 941011 [0,3,9,10] [] [qe2,qe5,qe0,qe0] [qo1] 0 [3] [] [qe5] [qo1] ZpG ZsA (fun n0=> .j 9111541011 [0,3,9,10] [] [qe2,qe5,qe0,qe0] [qo1] (ZpH (ZpG n0)) <|
.nil) <|
.nil⟩
theorem ZG7:Zeg X0.E 152 D5.sig:=D5.ok G0 Tryz.func152 ⟨ZA4,trivial⟩ rfl rfl (by kernel_rfl)
noncomputable def D6:FD U:=⟨103,Tryz.f103,[],[.p (.sl (.int .u32)),.p (.sl (.int .u32))],[],[.p (.int .i64)],[],[],Zpc,Zpc,
.lr 941011 [0,1,5] [] qs0 [] 0 [] [] [] [] Zrd Zs6 (fun _=> .nil) <|
.nil⟩
theorem ZDR:Zeg X0.E 103 D6.sig:=D6.ok G0 Tryz.func103 trivial rfl rfl (by kernel_rfl)
noncomputable def D7:FD U:=⟨107,Tryz.f107,[D1.sg],[.p (.sl (.int .u32)),.p (.sl (.int .u32))],[],[.p (.sl (.int .u32))],[],[],ZoN,ZoN,
.lo 9410111 [0,1,5,6,7] [] [qe2,qe2,qe5,qe0,qe0] [qo1] 0 [5] [] [qe5] [qo1] ZpS ZsY (fun n0=> .j 9114015410111 [0,1,5,6,7] [] [qe2,qe2,qe5,qe0,qe0] [qo1] (ZpT (ZpS n0)) <|
.nil) <|
.nil⟩
theorem ZDQ:Zeg X0.E 107 D7.sig:=D7.ok G0 Tryz.func107 ⟨ZA4,trivial⟩ rfl rfl (by kernel_rfl)
noncomputable def D8:FD U:=⟨153,Tryz.f153,[D1.sg],[.p (.sl (.int .u32)),.p (.int .u32)],[],[.p (.sl (.int .u32))],[],[],Zpj,Zpj,
.lo 941011 [0,1,5,6] [] [qe2,ZzD,qe5,qe0] [qo1] 0 [1,5] [] [ZzD,qe5] [qo1] Zqk Zr0 (fun _=> .nil) <|
.nil⟩
theorem ZFF:Zeg X0.E 153 D8.sig:=D8.ok G0 Tryz.func153 ⟨ZA4,trivial⟩ rfl rfl (by kernel_rfl)
noncomputable def D9:FD U:=⟨104,Tryz.f104,[D5.sg,D6.sg,D7.sg,D8.sg],[.p (.sl (.int .u32)),.p (.sl (.int .u32))],[],[.p (.sl (.int .u32))],[],[],ZqU,ZqU,
.lo 94011 [0,1,5] [] qs0 [] 0 [0,1,5] [] qs0 [] Zpa Zs4 (fun n0=> .j 91054011 [0,1,5,17] [] [qe2,qe2,qe0,qe3] [] (Zrc (Zpa n0)) <|
.nil) <|
.lo 940111 [0,1,5] [] qs0 [] 2 [0,5] [] [qe2,qe0] [] ZnW Zs1 (fun n0=> .lo 94041540111 [0,1,5] [] qs0 [] 4 [0,1,5] [] qs0 [] Zoj (Zs3 (ZnW n0)) (fun _=> .nil) <|
.lo 940141540111 [0,1,5] [] qs0 [] 6 [0,1,5] [] qs0 [] Zoi (Zs2 (ZnW n0)) (fun _=> .nil) <|
.j 911141540111 [0,1,5] [] qs0 [] (Zrb (ZnW n0)) <|
.nil) <|
.lo 9401111 [0,5] [] [qe2,qe0] [] 8 [0] [] [qe2] [] Zo9 Zs0 (fun _=> .nil) <|
.nil⟩
theorem ZG6:Zeg X0.E 104 D9.sig:=D9.ok G0 Tryz.func104 ⟨ZG7,ZDR,ZDQ,ZFF,trivial⟩ rfl rfl (by kernel_rfl)
noncomputable def D10:FD U:=⟨213,Tryz.f213,[],[.p (.sl (.int .u32)),.p (.int .i64)],[],[.p (.int .u32)],[],[],ZqV,ZqV,
.nil⟩
theorem ZGo:Zeg X0.E 213 D10.sig:=D10.ok G0 Tryz.func213 trivial rfl rfl (by kernel_rfl)
noncomputable def D11:FD U:=⟨174,Tryz.f174,[D10.sg,D8.sg,D6.sg,D7.sg,D1.sg],[.p (.sl (.int .u32)),.p (.sl (.int .u32))],[],[.p (.sl (.int .u32)),.p (.sl (.int .u32))],[],[],ZpO,ZpO,
.lo 941011 [0,1,4,5,6] [5] [qe2,qe2,qe5,qe2,qe0] [qo1] 0 [4,5] [] [qe5,qe2] [qo1] ZpU Zs5 (fun n0=> .j 911541011 [0,1,4,5,6] [] [qe2,qe2,qe5,qe2,qe0] [qo1] (ZpV (ZpU n0)) <|
.nil) <|
.nil⟩
theorem ZGn:Zeg X0.E 174 D11.sig:=D11.ok G0 Tryz.func174 ⟨ZGo,ZFF,ZDR,ZDQ,ZA4,trivial⟩ rfl rfl (by kernel_rfl)
noncomputable def D12:FD U:=⟨127,Tryz.f127,[D3.sg,D9.sg,D11.sg,D2.sg],[.p (.st 0),.p (.st 0)],[],[.p (.st 1)],[],[],Zo8,Zo8,
.nil⟩
theorem ZC4:Zeg X0.E 127 D12.sig:=D12.ok G0 Tryz.func127 ⟨ZDS,ZG6,ZGn,ZBP,trivial⟩ rfl rfl (by kernel_rfl)
noncomputable def D13:FD U:=⟨128,Tryz.f128,[D4.sg,D12.sg],[.p (.st 0),.p (.st 0)],[],[.p (.st 1),.p (.int .i64)],[],[],Zqt,Zqt,
.j 9101 [2,3,4,13] [] [qe4,qe8,ZA7,qe3] [ZAi,ZAi,qo9,qo1,qo1] ZqO <|
.nil⟩
theorem ZGm:Zeg X0.E 128 D13.sig:=D13.ok G0 Tryz.func128 ⟨ZG8,ZC4,trivial⟩ rfl rfl (by kernel_rfl)
noncomputable def D14:FD U:=⟨81,Tryz.f81,[D3.sg,D13.sg],[.p (.int .i64),.p (.int .i64)],[],[.p (.st 1),.p (.int .i64)],[],[],Zp9,Zp9,
.nil⟩
theorem ZC3:Zeg X0.E 81 D14.sig:=D14.ok G0 Tryz.func81 ⟨ZDS,ZGm,trivial⟩ rfl rfl (by kernel_rfl)
noncomputable def D15:FD U:=⟨49,Tryz.f49,[D14.sg],[.p (.int .i64),.p (.int .i64)],[],[.p (.st 1)],[],[],Zqi,Zqi,
.nil⟩
theorem ZGl:Zeg X0.E 49 D15.sig:=D15.ok G0 Tryz.func49 ⟨ZC3,trivial⟩ rfl rfl (by kernel_rfl)
noncomputable def D16:FD U:=⟨23,Tryz.f23,[D15.sg],[.p (.int .i64)],[],[.p (.st 1)],[],[],ZnY,ZnY,
.nil⟩
theorem ZC2:Zeg X0.E 23 D16.sig:=D16.ok G0 Tryz.func23 ⟨ZGl,trivial⟩ rfl rfl (by kernel_rfl)
noncomputable def D17:FD U:=⟨64,Tryz.f64,[D16.sg],[],[],[.own (.st 2)],[],[],Zqu,Zqu,
.nil⟩
theorem ZGk:Zeg X0.E 64 D17.sig:=D17.ok G0 Tryz.func64 ⟨ZC2,trivial⟩ rfl rfl (by kernel_rfl)
noncomputable def D18:FD U:=⟨178,Tryz.f178,[],[.p (.sl (.int .u32))],[],[.p (.sl (.int .u32))],[],[],Zn5,Zn5,
.lo 9401 [0] [] [qe2] [] 0 [0] [] [qe2] [] Zo2 Zuy (fun n0=> .j 9105401 [0,14] [] [qe2,qe3] [] (ZsK (Zo2 n0)) <|
.nil) <|
.nil⟩
theorem Zzq:Zeg X0.E 178 D18.sig:=D18.ok G0 Tryz.func178 trivial rfl rfl (by kernel_rfl)
noncomputable def D19:FD U:=⟨181,Tryz.f181,[D18.sg],[.p (.int .u64)],[],[.p (.sl (.int .u32))],[],[],ZqE,ZqE,
.nil⟩
theorem ZC1:Zeg X0.E 181 D19.sig:=D19.ok G0 Tryz.func181 ⟨Zzq,trivial⟩ rfl rfl (by kernel_rfl)
noncomputable def D20:FD U:=⟨132,Tryz.f132,[],[.p .bool,.p (.sl (.int .u32))],[],[.p (.st 0)],[],[],Zoc,Zoc,
.j 911 [4] [] [qe4] [qo31,qo1] Ztk <|
.nil⟩
theorem Zz8:Zeg X0.E 132 D20.sig:=D20.ok G0 Tryz.func132 trivial rfl rfl (by kernel_rfl)
noncomputable def D21:FD U:=⟨137,Tryz.f137,[D19.sg,D20.sg],[.p (.int .i64)],[],[.p (.st 0)],[],[],Zrq,Zrq,
.nil⟩
theorem ZGj:Zeg X0.E 137 D21.sig:=D21.ok G0 Tryz.func137 ⟨ZC1,Zz8,trivial⟩ rfl rfl (by kernel_rfl)
noncomputable def D22:FD U:=⟨155,Tryz.f155,[],[.p (.st 0)],[],[.p .bool],[],[],Zq5,Zq5,
.j 9111 [2] [] [qe3] [] ZoO <|
.nil⟩
theorem ZGi:Zeg X0.E 155 D22.sig:=D22.ok G0 Tryz.func155 trivial rfl rfl (by kernel_rfl)
noncomputable def D23:FD U:=⟨109,Tryz.f109,[D22.sg],[.p (.sl (.st 0))],[],[.p .bool],[],[],Zty,Zty,
.lr 94101 [5,6,7] [] [.o (.v (.sl (.st 0))),qe0,qe0] [] 0 [] [] [] [] Zuf Zxf (fun _=> .nil) <|
.nil⟩
theorem ZC0:Zeg X0.E 109 D23.sig:=D23.ok G0 Tryz.func109 ⟨ZGi,trivial⟩ rfl rfl (by kernel_rfl)
noncomputable def D24:FD U:=⟨204,Tryz.f204,[],[.p (.int .i64)],[],[.p .bool],[],[],ZuH,ZuH,
.nil⟩
theorem ZGh:Zeg X0.E 204 D24.sig:=D24.ok G0 Tryz.func204 trivial rfl rfl (by kernel_rfl)
noncomputable def D25:FD U:=⟨157,Tryz.f157,[D24.sg],[.p (.int .i64),.p (.int .i64)],[],[.p (.int .i64)],[],[],ZtC,ZtC,
.nil⟩
theorem ZGg:Zeg X0.E 157 D25.sig:=D25.ok G0 Tryz.func157 ⟨ZGh,trivial⟩ rfl rfl (by kernel_rfl)
noncomputable def D26:FD U:=⟨205,Tryz.f205,[],[.p (.int .u32)],[],[.p .bool],[],[],Zug,Zug,
.nil⟩
theorem ZGf:Zeg X0.E 205 D26.sig:=D26.ok G0 Tryz.func205 trivial rfl rfl (by kernel_rfl)
noncomputable def D27:FD U:=⟨158,Tryz.f158,[D26.sg],[.p (.int .u32),.p (.int .u32)],[],[.p (.int .i64)],[],[],Zto,Zto,
.nil⟩
theorem ZGe:Zeg X0.E 158 D27.sig:=D27.ok G0 Tryz.func158 ⟨ZGf,trivial⟩ rfl rfl (by kernel_rfl)
noncomputable def D28:FD U:=⟨111,Tryz.f111,[D25.sg,D27.sg],[.p (.sl (.int .u32)),.p (.sl (.int .u32))],[],[.p (.int .i64)],[],[],Zor,Zor,
.lr 941011 [0,1,6] [] qs0 [] 0 [] [] [] [] ZqC Zsf (fun _=> .nil) <|
.nil⟩
theorem ZBQ:Zeg X0.E 111 D28.sig:=D28.ok G0 Tryz.func111 ⟨ZGg,ZGe,trivial⟩ rfl rfl (by kernel_rfl)
noncomputable def D29:FD U:=⟨199,Tryz.f199,[],[.p (.sl (.int .u32))],[],[.own (.int .u32)],[],[],Zok,Zok,
.j 9101 [0,4] [] [qe2,qe3] [] ZnK <|
.nil⟩
theorem ZCZ:Zeg X0.E 199 D29.sig:=D29.ok G0 Tryz.func199 trivial rfl rfl (by kernel_rfl)
noncomputable def D30:FD U:=⟨231,Tryz.f231,[],[.p (.int .u32),.p (.int .u32),.p (.int .u32)],[],[.p (.int .u32),.p (.int .u32)],[],[],Ztu,Ztu,
.j 9101 [0,1,2,15] [] [ZzD,ZzD,ZzD,qe3] [] ZrD <|
.nil⟩
theorem ZGd:Zeg X0.E 231 D30.sig:=D30.ok G0 Tryz.func231 trivial rfl rfl (by kernel_rfl)
noncomputable def D31:FD U:=⟨200,Tryz.f200,[D30.sg,D18.sg],[.p (.sl (.int .u32)),.p (.int .u32)],[],[.p (.sl (.int .u32)),.p (.int .u32)],[],[],ZqW,ZqW,
.lo 9410111 [0,1,6,7,8] [] [qe2,ZzD,qe5,ZzD,qe0] [qo1] 0 [6,7] [] [qe5,ZzD] [qo1] Zrg Ztd (fun _=> .nil) <|
.nil⟩
theorem ZGc:Zeg X0.E 200 D31.sig:=D31.ok G0 Tryz.func200 ⟨ZGd,Zzq,trivial⟩ rfl rfl (by kernel_rfl)
noncomputable def D32:FD U:=⟨148,Tryz.f148,[],[.p (.int .u32)],[],[.p (.int .i64)],[],[],Ztt,Ztt,
.j 911 [0,2] [] [ZzD,qe0] [] Zti <|
.j 9111 [0,2] [] [ZzD,qe0] [] ZqF <|
.nil⟩
theorem ZGb:Zeg X0.E 148 D32.sig:=D32.ok G0 Tryz.func148 trivial rfl rfl (by kernel_rfl)
noncomputable def D33:FD U:=⟨201,Tryz.f201,[D32.sg],[.p (.int .u32)],[],[.p (.int .i64)],[],[],ZpJ,ZpJ,
.nil⟩
theorem ZGa:Zeg X0.E 201 D33.sig:=D33.ok G0 Tryz.func201 ⟨ZGb,trivial⟩ rfl rfl (by kernel_rfl)
noncomputable def D34:FD U:=⟨202,Tryz.f202,[],[.p (.sl (.int .u32)),.p (.int .i64)],[],[.own (.int .u32)],[],[],ZoW,ZoW,
.lo 941011 [1,5,13,14,15] [] [qe0,qe5,qe2,qe0,qe0] [qo1] 0 [5] [] [qe5] [qo1] ZqA Zsd (fun _=> .nil) <|
.nil⟩
theorem ZF9:Zeg X0.E 202 D34.sig:=D34.ok G0 Tryz.func202 trivial rfl rfl (by kernel_rfl)
noncomputable def D35:FD U:=⟨179,Tryz.f179,[],[.p (.int .u32),.p (.int .u32),.p (.int .u32)],[],[.p (.int .u32),.p (.int .u32)],[],[],Zq1,Zq1,
.nil⟩
theorem ZCY:Zeg X0.E 179 D35.sig:=D35.ok G0 Tryz.func179 trivial rfl rfl (by kernel_rfl)
noncomputable def D36:FD U:=⟨176,Tryz.f176,[],[.p (.int .u32),.p (.int .u32),.p (.int .u32)],[],[.p (.int .u32),.p (.int .u32)],[],[],ZrY,ZrY,
.nil⟩
theorem ZCX:Zeg X0.E 176 D36.sig:=D36.ok G0 Tryz.func176 trivial rfl rfl (by kernel_rfl)
noncomputable def D37:FD U:=⟨203,Tryz.f203,[D35.sg,D36.sg],[.part (.int .u32),.p (.sl (.int .u32))],[(0,.arr (.int .u32))],[.p (.int .u32)],[],[],Zvp,Zue,
.lo 94011111 [0,1,5,7,8] [] [ZBY,qe2,qe0,ZyL,ZyL] [qo1] 0 [0,1,5,7] [] [ZBY,qe2,qe0,ZyL] [qo1] Zq3 ZtN (fun n0=> .j 91054011111 [0,1,5,7,8,71] [] [ZBY,qe2,qe0,ZyL,ZyL,qe3] [qo1] (Zsh (Zq3 n0)) <|
.nil) <|
.lo 941011111111 [0,1,5,7,9,10,82,83,84] [] [ZBY,qe2,qe0,ZyL,ZzD,ZyL,qe2,qe0,qe0] [qo1] 2 [0,1,5,7,9,10] [] [ZBY,qe2,qe0,ZyL,ZzD,ZyL] [qo1] ZtL Zvr (fun _=> .nil) <|
.lo 941011111111111 [0,5,7,13,130,131,132] [] [ZBY,qe0,ZyL,ZzD,qe2,qe0,qe0] [qo1] 4 [0,5,7,13] [] [ZBY,qe0,ZyL,ZzD] [qo1] Zsg ZtM (fun _=> .nil) <|
.nil⟩
theorem ZF8:Zeg X0.E 203 D37.sig:=D37.okA G0 Tryz.func203 ⟨ZCY,ZCX,trivial⟩ (by kernel_rfl) (by kernel_rfl)
noncomputable def D38:FD U:=⟨178,Tryz.f178,[],[.part (.int .u32)],[(0,.arr (.int .u32))],[.view 0],[],[],Ztj,Zsl,
.lo 9401 [0] [] [ZBY] [qo1] 0 [0] [] [ZBY] [qo1] ZqD ZtK (fun n0=> .j 9105401 [0,14] [] [ZBY,qe3] [qo1] (ZrW (ZqD n0)) <|
.nil) <|
.nil⟩
theorem ZF7:Zeg X0.E 178 D38.sig:=D38.okA G0 Tryz.func178 trivial (by kernel_rfl) (by kernel_rfl)
noncomputable def D39:FD U:=⟨177,Tryz.f177,[],[.p (.sl (.int .u32)),.p (.int .i64)],[],[.p (.int .u32)],[],[],Zp7,Zp7,
.nil⟩
theorem ZCW:Zeg X0.E 177 D39.sig:=D39.ok G0 Tryz.func177 trivial rfl rfl (by kernel_rfl)
noncomputable def D40:FD U:=⟨177,Tryz.f177,[],[.part (.int .u32),.p (.int .i64)],[(0,.arr (.int .u32))],[.p (.int .u32)],[],[],Zux,ZrU,
.nil⟩
theorem ZF6:Zeg X0.E 177 D40.sig:=D40.okA G0 Tryz.func177 trivial (by kernel_rfl) (by kernel_rfl)
noncomputable def D41:FD U:=⟨156,Tryz.f156,[D28.sg,D29.sg,D31.sg,D18.sg,D33.sg,D34.sg,D37.sg,D38.sg,D40.sg],[.p (.sl (.int .u32)),.p (.sl (.int .u32))],[],[.p (.sl (.int .u32)),.p (.sl (.int .u32))],[],[(84,7)],Zpz,Zpz,
.lo 9410111111 [8,9,10,11,12,13] [11] [qe0,qe0,qe5,qe2,ZDj,qe0] [qo1,qo1] 1 [8,9,10,12] [] [qe0,qe0,qe5,ZDj] [qo1,qo1] Zqc Ztx (fun _=> .nil) <|
.lo 941011111111 [9,12,14,86,87] [] [qe0,qe5,.o (.sl (0,2,1)),qe0,qe0] [qo1,qo1] 3 [12,14] [] [qe5,.o (.sl (0,2,1))] [qo1,qo1] Zqb Ztw (fun _=> .nil) <|
.nil⟩
theorem ZCV:Zeg X0.E 156 D41.sig:=D41.ok G0 Tryz.func156 ⟨ZBQ,ZCZ,ZGc,Zzq,ZGa,ZF9,ZF8,ZF7,ZF6,trivial⟩ rfl rfl (by kernel_rfl)
noncomputable def D42:FD U:=⟨110,Tryz.f110,[D41.sg],[.p (.sl (.int .u32)),.p (.sl (.int .u32))],[],[.p (.sl (.int .u32))],[],[],ZpE,ZpE,
.lo 9401 [0,1] [] [qe2,qe2] [] 0 [0] [] [qe2] [] Zoz ZsH (fun _=> .nil) <|
.nil⟩
theorem ZCU:Zeg X0.E 110 D42.sig:=D42.ok G0 Tryz.func110 ⟨ZCV,trivial⟩ rfl rfl (by kernel_rfl)
noncomputable def D43:FD U:=⟨180,Tryz.f180,[D42.sg,D41.sg,D20.sg],[.p (.st 0),.p (.st 0)],[],[.p (.st 1)],[],[],ZoY,ZoY,
.nil⟩
theorem Zz7:Zeg X0.E 180 D43.sig:=D43.ok G0 Tryz.func180 ⟨ZCU,ZCV,Zz8,trivial⟩ rfl rfl (by kernel_rfl)
noncomputable def D44:FD U:=⟨136,Tryz.f136,[D23.sg,D43.sg],[.p (.st 0),.p (.st 0)],[],[.p (.st 1),.p (.int .i64)],[],[],ZuC,ZuC,
.nil⟩
theorem ZF5:Zeg X0.E 136 D44.sig:=D44.ok G0 Tryz.func136 ⟨ZC0,Zz7,trivial⟩ rfl rfl (by kernel_rfl)
noncomputable def D45:FD U:=⟨91,Tryz.f91,[D21.sg,D44.sg],[.p (.int .i64),.p (.int .i64)],[],[.p (.st 1),.p (.int .i64)],[],[],ZuO,ZuO,
.nil⟩
theorem ZCT:Zeg X0.E 91 D45.sig:=D45.ok G0 Tryz.func91 ⟨ZGj,ZF5,trivial⟩ rfl rfl (by kernel_rfl)
noncomputable def D46:FD U:=⟨59,Tryz.f59,[D45.sg],[],[],[.p (.st 1)],[],[],Zro,Zro,
.nil⟩
theorem Zzp:Zeg X0.E 59 D46.sig:=D46.ok G0 Tryz.func59 ⟨ZCT,trivial⟩ rfl rfl (by kernel_rfl)
noncomputable def D47:FD U:=⟨98,Tryz.f98,[D46.sg],[],[],[.p (.st 3)],[],[],ZsP,ZsP,
.nil⟩
theorem ZF4:Zeg X0.E 98 D47.sig:=D47.ok G0 Tryz.func98 ⟨Zzp,trivial⟩ rfl rfl (by kernel_rfl)
noncomputable def D48:FD U:=⟨72,Tryz.f72,[D23.sg,D42.sg,D28.sg],[.p (.st 1)],[],[.p .bool],[],[],ZoA,ZoA,
.j 911 [2] [] [qe3] [] Zq4 <|
.nil⟩
theorem Zz6:Zeg X0.E 72 D48.sig:=D48.ok G0 Tryz.func72 ⟨ZC0,ZCU,ZBQ,trivial⟩ rfl rfl (by kernel_rfl)
noncomputable def D49:FD U:=⟨135,Tryz.f135,[D18.sg],[.p (.sl (.int .u32)),.p (.sl (.int .u32))],[],[.p (.sl (.int .u32))],[],[],Zpf,Zpf,
.lo 941011 [1,5,17,18,19] [] [qe2,qe5,qe2,qe0,qe0] [qo1] 0 [5] [] [qe5] [qo1] ZpW Ztb (fun n0=> .lo 9410114011541011 [1,5,6,7,8,17,18,19,24,25,26] [] [qe2,qe5,qe0,ZzD,ZyL,qe2,qe0,qe0,qe2,qe0,qe0] [qo1] 2 [1,5,6,8,17,18,19] [] [qe2,qe5,qe0,ZyL,qe2,qe0,qe0] [qo1] Zrf (Ztc (ZpW n0)) (fun _=> .nil) <|
.nil) <|
.nil⟩
theorem ZCS:Zeg X0.E 135 D49.sig:=D49.ok G0 Tryz.func135 ⟨Zzq,trivial⟩ rfl rfl (by kernel_rfl)
noncomputable def D50:FD U:=⟨89,Tryz.f89,[D49.sg,D20.sg],[.p (.st 0),.p (.st 0)],[],[.p (.st 0)],[],[],ZnM,ZnM,
.nil⟩
theorem ZAO:Zeg X0.E 89 D50.sig:=D50.ok G0 Tryz.func89 ⟨ZCS,Zz8,trivial⟩ rfl rfl (by kernel_rfl)
noncomputable def D51:FD U:=⟨133,Tryz.f133,[D39.sg,D36.sg,D18.sg],[.p (.sl (.int .u32)),.p (.sl (.int .u32))],[],[.p (.sl (.int .u32))],[],[],Zqa,Zqa,
.lo 9410111 [0,1,5,6,20,21] [] [qe2,qe2,qe5,ZzD,qe0,qe0] [qo1] 0 [5,6] [] [qe5,ZzD] [qo1] Zrp Ztv (fun _=> .nil) <|
.nil⟩
theorem ZCR:Zeg X0.E 133 D51.sig:=D51.ok G0 Tryz.func133 ⟨ZCW,ZCX,Zzq,trivial⟩ rfl rfl (by kernel_rfl)
noncomputable def D52:FD U:=⟨134,Tryz.f134,[D39.sg,D35.sg,D18.sg],[.p (.sl (.int .u32)),.p (.sl (.int .u32))],[],[.p (.sl (.int .u32))],[],[],ZpP,ZpP,
.lo 9410111 [0,1,5,6,12,13] [] [qe2,qe2,qe5,ZzD,qe0,qe0] [qo1] 0 [5] [] [qe5] [qo1] Zrh Zte (fun _=> .nil) <|
.nil⟩
theorem ZF3:Zeg X0.E 134 D52.sig:=D52.ok G0 Tryz.func134 ⟨ZCW,ZCY,Zzq,trivial⟩ rfl rfl (by kernel_rfl)
noncomputable def D53:FD U:=⟨88,Tryz.f88,[D51.sg,D20.sg,D28.sg,D52.sg],[.p (.st 0),.p (.st 0)],[],[.p (.st 0)],[],[],Ztg,Ztg,
.nil⟩
theorem ZCQ:Zeg X0.E 88 D53.sig:=D53.ok G0 Tryz.func88 ⟨ZCR,Zz8,ZBQ,ZF3,trivial⟩ rfl rfl (by kernel_rfl)
noncomputable def D54:FD U:=⟨164,Tryz.f164,[D50.sg,D53.sg],[.p (.st 1),.p (.st 1)],[],[.p (.st 0),.p (.st 0)],[],[],ZvJ,ZvJ,
.nil⟩
theorem ZF2:Zeg X0.E 164 D54.sig:=D54.ok G0 Tryz.func164 ⟨ZAO,ZCQ,trivial⟩ rfl rfl (by kernel_rfl)
noncomputable def D55:FD U:=⟨165,Tryz.f165,[D48.sg,D54.sg,D43.sg],[.fn 164 [] [],.p (.st 1),.p (.st 1)],[],[.p (.st 1),.p (.int .i64)],[],[],ZoX,ZoX,
.j 9101 [0,4,5,6,18] [] [.fn 164 [] [],qe4,qe8,ZA7,qe3] qp6 ZpN <|
.nil⟩
theorem ZCP:Zeg X0.E 165 D55.sig:=D55.ok G0 Tryz.func165 ⟨Zz6,ZF2,Zz7,trivial⟩ rfl rfl (by kernel_rfl)
noncomputable def D56:FD U:=⟨116,Tryz.f116,[D55.sg],[.p (.st 1),.p (.st 1)],[],[.p (.st 1),.p (.int .i64)],[],[],Zt1,Zt1,
.nil⟩
theorem ZF1:Zeg X0.E 116 D56.sig:=D56.ok G0 Tryz.func116 ⟨ZCP,trivial⟩ rfl rfl (by kernel_rfl)
noncomputable def D57:FD U:=⟨115,Tryz.f115,[],[.p (.st 1),.p (.int .i64)],[],[.p (.st 1)],[],[],Zta,Zta,
.nil⟩
theorem ZAN:Zeg X0.E 115 D57.sig:=D57.ok G0 Tryz.func115 trivial rfl rfl (by kernel_rfl)
noncomputable def D58:FD U:=⟨75,Tryz.f75,[D56.sg,D57.sg],[.p (.st 1),.p (.st 1)],[],[.p (.st 1)],[],[],Zvf,Zvf,
.nil⟩
theorem ZCO:Zeg X0.E 75 D58.sig:=D58.ok G0 Tryz.func75 ⟨ZF1,ZAN,trivial⟩ rfl rfl (by kernel_rfl)
noncomputable def D59:FD U:=⟨197,Tryz.f197,[D50.sg],[.p (.st 1),.p (.st 1)],[],[.p (.st 0),.p (.st 0)],[],[],Zvo,Zvo,
.nil⟩
theorem ZF0:Zeg X0.E 197 D59.sig:=D59.ok G0 Tryz.func197 ⟨ZAO,trivial⟩ rfl rfl (by kernel_rfl)
noncomputable def D60:FD U:=⟨165,Tryz.f165,[D48.sg,D59.sg,D43.sg],[.fn 197 [] [],.p (.st 1),.p (.st 1)],[],[.p (.st 1),.p (.int .i64)],[],[],Zp5,Zp5,
.j 9101 [0,4,5,6,18] [] [.fn 197 [] [],qe4,qe8,ZA7,qe3] qp6 Zpp <|
.nil⟩
theorem ZFZ:Zeg X0.E 165 D60.sig:=D60.ok G0 Tryz.func165 ⟨Zz6,ZF0,Zz7,trivial⟩ rfl rfl (by kernel_rfl)
noncomputable def D61:FD U:=⟨150,Tryz.f150,[D60.sg],[.p (.st 1),.p (.st 1)],[],[.p (.st 1),.p (.int .i64)],[],[],Zvj,Zvj,
.nil⟩
theorem ZFY:Zeg X0.E 150 D61.sig:=D61.ok G0 Tryz.func150 ⟨ZFZ,trivial⟩ rfl rfl (by kernel_rfl)
noncomputable def D62:FD U:=⟨97,Tryz.f97,[D61.sg,D57.sg],[.p (.st 1),.p (.st 1)],[],[.p (.st 1)],[],[],Zur,Zur,
.nil⟩
theorem ZBO:Zeg X0.E 97 D62.sig:=D62.ok G0 Tryz.func97 ⟨ZFY,ZAN,trivial⟩ rfl rfl (by kernel_rfl)
noncomputable def D63:FD U:=⟨99,Tryz.f99,[D58.sg,D62.sg],[.p (.st 3),.p (.st 1),.p (.st 1)],[],[.p (.st 3)],[],[],ZtB,ZtB,
.nil⟩
theorem ZFX:Zeg X0.E 99 D63.sig:=D63.ok G0 Tryz.func99 ⟨ZCO,ZBO,trivial⟩ rfl rfl (by kernel_rfl)
noncomputable def D64:FD U:=⟨63,Tryz.f63,[D47.sg,D63.sg],[.p (.sl (.st 2))],[],[.p (.st 3)],[],[],ZtY,ZtY,
.lo 941011 [2,3,7,8,9] [] [qe4,qe8,.o (.v (.sl (.st 2))),qe0,qe0] qp1 0 [2,3] [] [qe4,qe8] qp1 ZtO ZwW (fun _=> .nil) <|
.nil⟩
theorem ZFW:Zeg X0.E 63 D64.sig:=D64.ok G0 Tryz.func63 ⟨ZF4,ZFX,trivial⟩ rfl rfl (by kernel_rfl)
noncomputable def D65:FD U:=⟨58,Tryz.f58,[D45.sg,D46.sg],[.p (.int .i64),.p (.int .i64)],[],[.p (.st 1)],[],[],Zxe,Zxe,
.nil⟩
theorem ZCN:Zeg X0.E 58 D65.sig:=D65.ok G0 Tryz.func58 ⟨ZCT,Zzp,trivial⟩ rfl rfl (by kernel_rfl)
noncomputable def D66:FD U:=⟨90,Tryz.f90,[],[.p (.st 0)],[],[.p (.st 0)],[],[],Zp8,Zp8,
.j 911 [2] [] [qe4] [ZAi] Zsm <|
.nil⟩
theorem ZCM:Zeg X0.E 90 D66.sig:=D66.ok G0 Tryz.func90 trivial rfl rfl (by kernel_rfl)
noncomputable def D67:FD U:=⟨196,Tryz.f196,[D48.sg,D66.sg,D55.sg],[.p (.st 1),.p (.st 1)],[],[.p (.st 1),.p (.int .i64)],[],[],Zvi,Zvi,
.nil⟩
theorem ZFV:Zeg X0.E 196 D67.sig:=D67.ok G0 Tryz.func196 ⟨Zz6,ZCM,ZCP,trivial⟩ rfl rfl (by kernel_rfl)
noncomputable def D68:FD U:=⟨149,Tryz.f149,[D67.sg,D57.sg],[.p (.st 1),.p (.st 1)],[],[.p (.st 1)],[],[],ZxQ,ZxQ,
.nil⟩
theorem ZFU:Zeg X0.E 149 D68.sig:=D68.ok G0 Tryz.func149 ⟨ZFV,ZAN,trivial⟩ rfl rfl (by kernel_rfl)
noncomputable def D69:FD U:=⟨95,Tryz.f95,[D65.sg,D62.sg,D68.sg],[.p (.int .i64),.p (.st 1),.p (.st 1),.p (.st 1)],[],[.p (.st 1)],[],[],ZoZ,ZoZ,
.nil⟩
theorem ZFT:Zeg X0.E 95 D69.sig:=D69.ok G0 Tryz.func95 ⟨ZCN,ZBO,ZFU,trivial⟩ rfl rfl (by kernel_rfl)
noncomputable def D70:FD U:=⟨56,Tryz.f56,[D48.sg,D50.sg,D66.sg,D53.sg],[.p (.st 1),.p (.st 1)],[],[.p (.int .i64)],[],[],Zvl,Zvl,
.j 9101 [2,3,13] [] [qe4,qe8,qe3] [ZB9,ZB9] ZuP <|
.nil⟩
theorem ZFS:Zeg X0.E 56 D70.sig:=D70.ok G0 Tryz.func56 ⟨Zz6,ZAO,ZCM,ZCQ,trivial⟩ rfl rfl (by kernel_rfl)
noncomputable def D71:FD U:=⟨96,Tryz.f96,[D46.sg,D70.sg],[.p (.st 1)],[],[.p (.int .i64)],[],[],ZvT,ZvT,
.nil⟩
theorem ZFR:Zeg X0.E 96 D71.sig:=D71.ok G0 Tryz.func96 ⟨Zzp,ZFS,trivial⟩ rfl rfl (by kernel_rfl)
noncomputable def D72:FD U:=⟨175,Tryz.f175,[D50.sg],[.p (.st 1),.p (.st 1)],[],[.p (.st 0),.p (.st 0)],[],[],ZvK,ZvK,
.nil⟩
theorem ZFQ:Zeg X0.E 175 D72.sig:=D72.ok G0 Tryz.func175 ⟨ZAO,trivial⟩ rfl rfl (by kernel_rfl)
noncomputable def D73:FD U:=⟨165,Tryz.f165,[D48.sg,D72.sg,D43.sg],[.fn 175 [] [],.p (.st 1),.p (.st 1)],[],[.p (.st 1),.p (.int .i64)],[],[],Zp4,Zp4,
.j 9101 [0,4,5,6,18] [] [.fn 175 [] [],qe4,qe8,ZA7,qe3] qp6 Zpo <|
.nil⟩
theorem ZFP:Zeg X0.E 165 D73.sig:=D73.ok G0 Tryz.func165 ⟨Zz6,ZFQ,Zz7,trivial⟩ rfl rfl (by kernel_rfl)
noncomputable def D74:FD U:=⟨129,Tryz.f129,[D73.sg],[.p (.st 1),.p (.st 1)],[],[.p (.st 1),.p (.int .i64)],[],[],Zvk,Zvk,
.nil⟩
theorem ZFO:Zeg X0.E 129 D74.sig:=D74.ok G0 Tryz.func129 ⟨ZFP,trivial⟩ rfl rfl (by kernel_rfl)
noncomputable def D75:FD U:=⟨83,Tryz.f83,[D74.sg,D57.sg],[.p (.st 1),.p (.st 1)],[],[.p (.st 1)],[],[],Zv3,Zv3,
.nil⟩
theorem ZCL:Zeg X0.E 83 D75.sig:=D75.ok G0 Tryz.func83 ⟨ZFO,ZAN,trivial⟩ rfl rfl (by kernel_rfl)
noncomputable def D76:FD U:=⟨62,Tryz.f62,[D69.sg,D71.sg,D46.sg,D62.sg,D75.sg],[.p (.st 3)],[],[.p (.st 1),.p (.int .i64),.p .bool],[],[],ZrF,ZrF,
.j 91011 [2,5,6,7,47] [] [qe4,qe8,ZA7,ZGu,qe3] [ZGs,ZB9,ZB9,ZB9,qo1,qo1] Zo4 <|
.nil⟩
theorem ZFN:Zeg X0.E 62 D76.sig:=D76.ok G0 Tryz.func62 ⟨ZFT,ZFR,Zzp,ZBO,ZCL,trivial⟩ rfl rfl (by kernel_rfl)
noncomputable def D77:FD U:=⟨48,Tryz.f48,[],[.p (.st 0),.p (.st 0)],[],[.p .bool],[],[],Zo3,Zo3,
.j 9101 [2,3,20] [] [qe4,qe8,qe3] [ZAi,ZAi] ZpY <|
.lr 941011 [3,22,23,24] [] [qe4,qe2,qe0,qe0] [ZAi] 0 [] [] [] [] ZpX Zru (fun _=> .nil) <|
.nil⟩
theorem ZFM:Zeg X0.E 48 D77.sig:=D77.ok G0 Tryz.func48 trivial rfl rfl (by kernel_rfl)
noncomputable def D78:FD U:=⟨20,Tryz.f20,[D77.sg],[.p (.st 1),.p (.st 1)],[],[.p .bool],[],[],ZnZ,ZnZ,
.j 911 [4] [] [qe3] [] ZqJ <|
.nil⟩
theorem ZCK:Zeg X0.E 20 D78.sig:=D78.ok G0 Tryz.func20 ⟨ZFM,trivial⟩ rfl rfl (by kernel_rfl)
noncomputable def D79:FD U:=⟨30,Tryz.f30,[D17.sg,D64.sg,D76.sg,D16.sg,D78.sg],[],[],[.p .bool],[],[],Zpk,Zpk,
.j 9111 [0] [] [qe3] [] Zpu <|
.nil⟩
theorem ZFL:Zeg X0.E 30 D79.sig:=D79.ok G0 Tryz.func30 ⟨ZGk,ZFW,ZFN,ZC2,ZCK,trivial⟩ rfl rfl (by kernel_rfl)
noncomputable def D80:FD U:=⟨11,Tryz.f11,[],[.p (.sl (.int .i64))],[],[.box (.st 4)],[],[],ZsJ,ZsJ,
.nil⟩
theorem ZFK:Zeg X0.E 11 D80.sig:=D80.ok G0 Tryz.func11 trivial rfl rfl (by kernel_rfl)
noncomputable def D81:FD U:=⟨14,Tryz.f14,[],[.p (.int .i64),.p (.int .i64)],[],[.p (.int .i64)],[],[],ZrC,ZrC,
.nil⟩
theorem ZFJ:Zeg X0.E 14 D81.sig:=D81.ok G0 Tryz.func14 trivial rfl rfl (by kernel_rfl)
noncomputable def D82:FD U:=⟨12,Tryz.f12,[D81.sg],[.box (.st 4),.p (.int .i64)],[(0,.box (.st 4))],[.p (.int .i64)],[],[],ZnS,ZnS,
.nil⟩
theorem Zz5:Zeg X0.E 12 D82.sig:=D82.ok G0 Tryz.func12 ⟨ZFJ,trivial⟩ rfl rfl (by kernel_rfl)
noncomputable def D83:FD U:=⟨39,Tryz.f39,[D82.sg],[.box (.st 4),.p (.sl .str)],[(0,.box (.st 4))],[.p .str],[],[],Zod,Zod,
.nil⟩
theorem ZBN:Zeg X0.E 39 D83.sig:=D83.ok G0 Tryz.func39 ⟨Zz5,trivial⟩ rfl rfl (by kernel_rfl)
noncomputable def D84:FD U:=⟨40,Tryz.f40,[D82.sg,D83.sg],[.box (.st 4)],[(0,.box (.st 4))],[.p (.st 5)],[],[],Zrl,Zrl,
.nil⟩
theorem ZFI:Zeg X0.E 40 D84.sig:=D84.ok G0 Tryz.func40 ⟨Zz5,ZBN,trivial⟩ rfl rfl (by kernel_rfl)
noncomputable def D86:FD U:=⟨41,Tryz.f41,[D82.sg,D83.sg,(42,Zwq.sig)],[.box (.st 4)],[(0,.box (.st 4))],[.p (.st 5)],[],[],Zqv,Zqv,
.nil⟩
theorem ZFH:Zeg X0.E 41 D86.sig:=D86.ok G0 Tryz.func41 ⟨Zz5,ZBN,Zw7,trivial⟩ rfl rfl (by kernel_rfl)
noncomputable def D87:FD U:=⟨13,Tryz.f13,[D83.sg,D82.sg,D84.sg,D86.sg,(42,Zwq.sig)],[.box (.st 4),.p (.int .i64)],[(0,.box (.st 4))],[.p (.st 6)],[],[],ZoG,ZoG,
.lo 9410111 [0,4,5,6,15,16] [] [.o (.ptr (0,0,0) 0 0),qe4,qe8,qe0,qe0,qe0] [.boxS (.st 4),qo33,ZGK,ZEw,ZEw] 0 [4,5] [] [qe4,qe8] [.boxS (.st 4),qo33,ZGK,ZEw,ZEw] ZpI ZsC (fun n0=> .j 911140115410111 [0,4,5,6,8,15,16] [] [.o (.ptr (0,0,0) 0 0),qe4,qe8,qe0,ZA7,qe0,qe0] [.boxS (.st 4),ZGK,.box [.o (.v .str),.o (.full (0,5,1))],.boxS (.st 5),ZEw,ZEw] (Zox (ZpI n0)) <|
.nil) <|
.nil⟩
theorem ZFG:Zeg X0.E 13 D87.sig:=D87.ok G0 Tryz.func13 ⟨ZBN,Zz5,ZFI,ZFH,Zw7,trivial⟩ rfl rfl (by kernel_rfl)
noncomputable def D88:FD U:=⟨139,Tryz.f139,[],[],[],[.map (.int .i64) (.st 8)],[],[],Zww,Zww,
.nil⟩
theorem ZCJ:Zeg X0.E 139 D88.sig:=D88.ok G0 Tryz.func139 trivial rfl rfl (by kernel_rfl)
noncomputable def D90:FD U:=⟨182,Tryz.f182,[(214,Zwp.sig)],[.p .str],[],[.p .str],[],[],Zyf,Zyf,
.nil⟩
theorem ZFE:Zeg X0.E 182 D90.sig:=D90.ok G0 Tryz.func182 ⟨Zw6,trivial⟩ rfl rfl (by kernel_rfl)
noncomputable def D91:FD U:=⟨257,Tryz.f257,[],[.p .str,.p .str],[],[.p .bool],[],[],Zpn,Zpn,
.j 911 [4] [] [qe3] [] Zp6 <|
.nil⟩
theorem ZCI:Zeg X0.E 257 D91.sig:=D91.ok G0 Tryz.func257 trivial rfl rfl (by kernel_rfl)
noncomputable def D92:FD U:=⟨243,Tryz.f243,[D91.sg],[.p .str,.p .str],[],[.p .str,.p .bool],[],[],ZqI,ZqI,
.nil⟩
theorem ZFD:Zeg X0.E 243 D92.sig:=D92.ok G0 Tryz.func243 ⟨ZCI,trivial⟩ rfl rfl (by kernel_rfl)
noncomputable def D93:FD U:=⟨218,Tryz.f218,[D92.sg],[.p .str,.p .str],[],[.p .str,.p .bool],[],[],Zvq,Zvq,
.nil⟩
theorem ZFC:Zeg X0.E 218 D93.sig:=D93.ok G0 Tryz.func218 ⟨ZFD,trivial⟩ rfl rfl (by kernel_rfl)
noncomputable def D94:FD U:=⟨244,Tryz.f244,[D91.sg],[.p .str,.p .str],[],[.p .str],[],[],Zqw,Zqw,
.nil⟩
theorem ZFB:Zeg X0.E 244 D94.sig:=D94.ok G0 Tryz.func244 ⟨ZCI,trivial⟩ rfl rfl (by kernel_rfl)
noncomputable def D95:FD U:=⟨219,Tryz.f219,[D94.sg],[.p .str,.p .str],[],[.p .str],[],[],ZuZ,ZuZ,
.nil⟩
theorem ZFA:Zeg X0.E 219 D95.sig:=D95.ok G0 Tryz.func219 ⟨ZFB,trivial⟩ rfl rfl (by kernel_rfl)
noncomputable def D97:FD U:=⟨256,Tryz.f256,[(275,Zsq.sig)],[.p .str,.p .str],[],[.p (.int .i64)],[],[],ZrT,ZrT,
.j 914011 [0,1,5,16] [] [qe7,qe7,qe0,qe3] [] Zq2 <|
.nil⟩
theorem ZFz:Zeg X0.E 256 D97.sig:=D97.ok G0 Tryz.func256 ⟨Zu5,trivial⟩ rfl rfl (by kernel_rfl)
noncomputable def D98:FD U:=⟨245,Tryz.f245,[D97.sg],[.p .str,.p .str],[],[.p .str,.p .str,.p .bool],[],[],ZsD,ZsD,
.nil⟩
theorem ZFy:Zeg X0.E 245 D98.sig:=D98.ok G0 Tryz.func245 ⟨ZFz,trivial⟩ rfl rfl (by kernel_rfl)
noncomputable def D99:FD U:=⟨220,Tryz.f220,[D98.sg],[.p .str,.p .str],[],[.p .str,.p .str,.p .bool],[],[],ZwE,ZwE,
.nil⟩
theorem ZCH:Zeg X0.E 220 D99.sig:=D99.ok G0 Tryz.func220 ⟨ZFy,trivial⟩ rfl rfl (by kernel_rfl)
noncomputable def ZHK:FD U:=⟨221,Tryz.f221,[(214,Zwp.sig)],[.p .str,.p (.int .i64)],[],[.p .bool],[],[],ZuN,ZuN,
.j 911 [4] [] [qe3] [] Ztl <|
.nil⟩
theorem ZEu:Zeg X0.E 221 ZHK.sig:=ZHK.ok G0 Tryz.func221 ⟨Zw6,trivial⟩ rfl rfl (by kernel_rfl)
noncomputable def ZGD:FD U:=⟨187,Tryz.f187,[D93.sg,D95.sg,D99.sg,ZHK.sg,D29.sg,D49.sg,D19.sg,D51.sg,D20.sg,D43.sg],[.p .str],[],[.p (.st 1),.p .bool],[],[],Zrr,Zrr,
.j 9111 [2,4,5] [] [qe4,qe7,qe3] qp2 ZuF <|
.j 9101111 [2,5,6,7,39] [] [qe4,qe3,qe7,qe7,qe3] qp2 ZsO <|
.lo 941011111111 [2,5,7,9,10,11,47,48,49] [9,10] [qe4,qe3,qe7,qe2,qe2,ZDj,ZA5,qe0,qe0] [qo9,qo1,ZEx,qo1,qo1] 0 [2,5,7,9,10,11] [] [qe4,qe3,qe7,qe2,qe2,ZDj] [.box [.o (.v .bool),.o (.full (0,3,1)),.o (.v .bool),.o (.full (0,4,1))],qo1,qo1,qo1] ZuE Zwa (fun _=> .nil) <|
.lo 9410111111111 [2,5,9,10,11,63,64] [11] [qe4,qe3,qe2,qe2,qe2,qe0,qe0] qp2 2 [2,5,9,11] [] [qe4,qe3,qe2,qe2] qp2 ZuD ZsN (fun _=> .nil) <|
.nil⟩
theorem ZBX:Zeg X0.E 187 ZGD.sig:=ZGD.ok G0 Tryz.func187 ⟨ZFC,ZFA,ZCH,ZEu,ZCZ,ZCS,ZC1,ZCR,Zz8,Zz7,trivial⟩ rfl rfl (by kernel_rfl)
noncomputable def ZHJ:FD U:=⟨224,Tryz.f224,[],[.p (.sl .str)],[],[.p .str],[],[],ZwX,ZwX,
.lr 941011 [3,6,7,8] [] [qe7,.o (.v (.sl .str)),qe0,qe0] [] 0 [3] [] [qe7] [] ZvL Zxg (fun _=> .nil) <|
.nil⟩
theorem ZEt:Zeg X0.E 224 ZHJ.sig:=ZHJ.ok G0 Tryz.func224 trivial rfl rfl (by kernel_rfl)
noncomputable def ZHI:FD U:=⟨188,Tryz.f188,[ZGD.sg,(222,Zwt.sig),D99.sg,(223,Zwg.sig),ZHJ.sg],[.p .str],[],[.p .str,.p .bool],[],[],Zul,Zul,
.j 9111111 [0,9] [] [qe7,qe7] [] ZvB <|
.j 910111111 [9,43] [] qs3 [] ZvA <|
.j 91111111 [9] [] [qe7] [] Zvz <|
.nil⟩
theorem ZEs:Zeg X0.E 188 ZHI.sig:=ZHI.ok G0 Tryz.func188 ⟨ZBX,ZxF,ZCH,Zxy,ZEt,trivial⟩ rfl rfl (by kernel_rfl)
noncomputable def ZHH:FD U:=⟨138,Tryz.f138,[D88.sg,D90.sg,ZHI.sg],[.p (.int .i64),.p .str],[],[.p .str,.p .bool],[],[(26,2)],Ztp,Ztp,
.nil⟩
theorem ZEr:Zeg X0.E 138 ZHH.sig:=ZHH.ok G0 Tryz.func138 ⟨ZCJ,ZFE,ZEs,trivial⟩ rfl rfl (by kernel_rfl)
noncomputable def ZHG:FD U:=⟨92,Tryz.f92,[ZHH.sg,D88.sg,ZGD.sg],[.p (.int .i64),.p .str],[],[.p (.st 1),.p .bool],[],[(22,2)],Zwx,Zwx,
.nil⟩
theorem ZEq:Zeg X0.E 92 ZHG.sig:=ZHG.ok G0 Tryz.func92 ⟨ZEr,ZCJ,ZBX,trivial⟩ rfl rfl (by kernel_rfl)
noncomputable def ZHF:FD U:=⟨60,Tryz.f60,[D46.sg,ZHG.sg],[.p (.st 5)],[],[.p (.st 1),.p .bool],[],[],Zpe,Zpe,
.nil⟩
theorem ZEp:Zeg X0.E 60 ZHF.sig:=ZHF.ok G0 Tryz.func60 ⟨Zzp,ZEq,trivial⟩ rfl rfl (by kernel_rfl)
noncomputable def ZHE:FD U:=⟨17,Tryz.f17,[],[.p .str],[],[.p (.int .u64)],[],[],ZvG,ZvG,
.lo 941011 [0,3,6,7] [] [qe7,ZyL,qe0,qe0] [] 0 [3] [] [ZyL] [] Zvn Zwm (fun _=> .nil) <|
.nil⟩
theorem ZEo:Zeg X0.E 17 ZHE.sig:=ZHE.ok G0 Tryz.func17 trivial rfl rfl (by kernel_rfl)
noncomputable def ZHD:FD U:=⟨131,Tryz.f131,[],[.p (.int .u64)],[],[.p (.int .i64)],[],[],ZvU,ZvU,
.j 911 [0,2] [] [ZyL,qe0] [] Zu2 <|
.j 9111 [0,2] [] [ZyL,qe0] [] Zu1 <|
.j 91111 [0,2] [] [ZyL,qe0] [] Zu0 <|
.nil⟩
theorem ZEn:Zeg X0.E 131 ZHD.sig:=ZHD.ok G0 Tryz.func131 trivial rfl rfl (by kernel_rfl)
noncomputable def ZGC:FD U:=⟨94,Tryz.f94,[ZHD.sg],[.p (.int .u64)],[],[.p (.int .i64)],[],[],Zus,Zus,
.nil⟩
theorem ZBW:Zeg X0.E 94 ZGC.sig:=ZGC.ok G0 Tryz.func94 ⟨ZEn,trivial⟩ rfl rfl (by kernel_rfl)
noncomputable def ZHC:FD U:=⟨159,Tryz.f159,[],[.p (.int .u64)],[],[.p .bool],[],[],ZsR,ZsR,
.nil⟩
theorem ZEm:Zeg X0.E 159 ZHC.sig:=ZHC.ok G0 Tryz.func159 trivial rfl rfl (by kernel_rfl)
noncomputable def ZHB:FD U:=⟨113,Tryz.f113,[ZHC.sg],[.p (.int .u64),.p (.int .u64)],[],[.p (.int .i64)],[],[],Ztn,Ztn,
.nil⟩
theorem ZEl:Zeg X0.E 113 ZHB.sig:=ZHB.ok G0 Tryz.func113 ⟨ZEm,trivial⟩ rfl rfl (by kernel_rfl)
noncomputable def ZGB:FD U:=⟨101,Tryz.f101,[(151,Zsr.sig)],[.p .str,.p .str],[],[.p (.int .i64)],[],[],ZrX,ZrX,
.nil⟩
theorem ZBV:Zeg X0.E 101 ZGB.sig:=ZGB.ok G0 Tryz.func101 ⟨Zu6,trivial⟩ rfl rfl (by kernel_rfl)
noncomputable def ZHA:FD U:=⟨112,Tryz.f112,[],[.p (.sl (.int .i64))],[],[.p (.int .i64)],[],[],Zwc,Zwc,
.lr 941011 [3,6,7,8] [] [qe0,.o (.v (.sl (.int .i64))),qe0,qe0] [] 0 [3] [] [qe0] [] ZuI ZwY (fun _=> .nil) <|
.nil⟩
theorem ZEk:Zeg X0.E 112 ZHA.sig:=ZHA.ok G0 Tryz.func112 trivial rfl rfl (by kernel_rfl)
noncomputable def ZHz:FD U:=⟨73,Tryz.f73,[ZHB.sg,ZGB.sg,ZHA.sg],[.p (.st 7),.p (.st 7)],[],[.p (.int .i64)],[],[],Zve,Zve,
.nil⟩
theorem ZEj:Zeg X0.E 73 ZHz.sig:=ZHz.ok G0 Tryz.func73 ⟨ZEl,ZBV,ZEk,trivial⟩ rfl rfl (by kernel_rfl)
noncomputable def ZHy:FD U:=⟨166,Tryz.f166,[ZHz.sg],[.arr (.st 7),.p (.int .i64),.p (.int .i64),.fn 73 [] []],[(0,.arr (.st 7))],[],[],[],Zob,Zn7,
.lo 941 [0,1,2,3,8] [] [ZBZ,qe0,qe0,ZEK,qe0] [ZzN] 0 [] [] [] [ZzN] ZnU ZoH (fun n0=> .lo 941401541 [0,1,2,3,8,9] [] [ZBZ,qe0,qe0,ZEK,qe0,qe0] [ZzN] 2 [0,1,2,3,8] [] [ZBZ,qe0,qe0,ZEK,qe0] [ZzN] ZnP (ZoI (ZnU n0)) (fun n1=> .j 910541401541 [0,1,2,3,8,9,34] [] [ZBZ,qe0,qe0,ZEK,qe0,qe0,qe3] [ZzN] (Zn4 (ZnP n1)) <|
.nil) <|
.nil) <|
.nil⟩
theorem ZEi:Zeg X0.E 166 ZHy.sig:=ZHy.okA G0 Tryz.func166 ⟨ZEj,trivial⟩ (by kernel_rfl) (by kernel_rfl)
noncomputable def ZHx:FD U:=⟨117,Tryz.f117,[ZHy.sg],[.arr (.st 7),.p (.int .i64),.p (.int .i64),.p (.int .i64),.fn 73 [] []],[(0,.arr (.st 7))],[],[],[],Zpy,Zoq,
.lz 9411 [0,1,2,3,4,10,11] [] [ZBZ,qe0,qe0,qe0,ZEK,qe3,qe3] [ZzN] Zo5 (fun _=> .nil) <|
.nil⟩
theorem ZEh:Zeg X0.E 117 ZHx.sig:=ZHx.okA G0 Tryz.func117 ⟨ZEi,trivial⟩ (by kernel_rfl) (by kernel_rfl)
noncomputable def ZHw:FD U:=⟨76,Tryz.f76,[ZGC.sg,ZHx.sg],[.arr (.st 7),.fn 73 [] []],[(0,.arr (.st 7))],[],[],[],Zoy,Zn1,
.nil⟩
theorem ZEg:Zeg X0.E 76 ZHw.sig:=ZHw.okA G0 Tryz.func76 ⟨ZBW,ZEh,trivial⟩ (by kernel_rfl) (by kernel_rfl)
noncomputable def ZHv:FD U:=⟨43,Tryz.f43,[ZHF.sg,ZHE.sg,D46.sg,D58.sg,ZHw.sg],[.p (.st 6),.p (.st 6)],[],[.own (.st 7)],[],[],ZvE,ZvE,
.lo 9410111 [3,5,6,15,16,17] [] [qe4,ZEM,ZA5,ZDk,qe0,qe0] [ZAh,ZGr,ZzN] 0 [6] [] [qe5] [ZzN] ZqG Zwl (fun n0=> .j 9101140115410111 [3,5,6,8,9,15,16,17,36] [] [qe4,ZEM,ZA5,ZGu,.o (.ptr (0,5,1) 0 0),ZDk,qe0,qe0,qe3] [ZAh,ZGr,ZzN,.boxS (.st 5),ZB9] (Zrz (ZqG n0)) <|
.j 91111140115410111 [3,5,6,9,11,15,16,17] [] [qe4,ZEM,ZA5,ZGu,qe0,ZDk,qe0,qe0] [ZAh,ZGr,ZzN,ZB9] (ZtV (ZqG n0)) <|
.j 91115410111 [3,5,6,15,16,17] [] [qe4,ZEM,ZA5,ZDk,qe0,qe0] [ZAh,ZGr,ZzN] (ZtU (ZqG n0)) <|
.nil) <|
.nil⟩
theorem ZEf:Zeg X0.E 43 ZHv.sig:=ZHv.ok G0 Tryz.func43 ⟨ZEp,ZEo,Zzp,ZCO,ZEg,trivial⟩ rfl rfl (by kernel_rfl)
noncomputable def ZHu:FD U:=⟨100,Tryz.f100,[ZGB.sg],[.p (.st 7),.p (.st 7)],[],[.p (.int .i64)],[],[],ZrE,ZrE,
.nil⟩
theorem ZEe:Zeg X0.E 100 ZHu.sig:=ZHu.ok G0 Tryz.func100 ⟨ZBV,trivial⟩ rfl rfl (by kernel_rfl)
noncomputable def ZHt:FD U:=⟨166,Tryz.f166,[ZHu.sg],[.arr (.st 7),.p (.int .i64),.p (.int .i64),.fn 100 [] []],[(0,.arr (.st 7))],[],[],[],Zn8,Zn3,
.lo 941 [0,1,2,3,8] [] [ZBZ,qe0,qe0,ZEL,qe0] [ZzN] 0 [] [] [] [ZzN] ZnQ Zou (fun n0=> .lo 941401541 [0,1,2,3,8,9] [] [ZBZ,qe0,qe0,ZEL,qe0,qe0] [ZzN] 2 [0,1,2,3,8] [] [ZBZ,qe0,qe0,ZEL,qe0] [ZzN] ZnN (Zov (ZnQ n0)) (fun n1=> .j 910541401541 [0,1,2,3,8,9,34] [] [ZBZ,qe0,qe0,ZEL,qe0,qe0,qe3] [ZzN] (Zn2 (ZnN n1)) <|
.nil) <|
.nil) <|
.nil⟩
theorem ZEd:Zeg X0.E 166 ZHt.sig:=ZHt.okA G0 Tryz.func166 ⟨ZEe,trivial⟩ (by kernel_rfl) (by kernel_rfl)
noncomputable def ZHs:FD U:=⟨117,Tryz.f117,[ZHt.sg],[.arr (.st 7),.p (.int .i64),.p (.int .i64),.p (.int .i64),.fn 100 [] []],[(0,.arr (.st 7))],[],[],[],Zpd,Zoh,
.lz 9411 [0,1,2,3,4,10,11] [] [ZBZ,qe0,qe0,qe0,ZEL,qe3,qe3] [ZzN] Zo1 (fun _=> .nil) <|
.nil⟩
theorem ZEc:Zeg X0.E 117 ZHs.sig:=ZHs.okA G0 Tryz.func117 ⟨ZEd,trivial⟩ (by kernel_rfl) (by kernel_rfl)
noncomputable def ZHr:FD U:=⟨76,Tryz.f76,[ZGC.sg,ZHs.sg],[.arr (.st 7),.fn 100 [] []],[(0,.arr (.st 7))],[],[],[],Zon,ZnX,
.nil⟩
theorem ZEb:Zeg X0.E 76 ZHr.sig:=ZHr.okA G0 Tryz.func76 ⟨ZBW,ZEc,trivial⟩ (by kernel_rfl) (by kernel_rfl)
noncomputable def ZHq:FD U:=⟨66,Tryz.f66,[ZHv.sg,ZHr.sg],[.p (.st 6),.p (.st 6)],[],[.own (.st 7)],[],[],Zrt,Zrt,
.nil⟩
theorem ZEa:Zeg X0.E 66 ZHq.sig:=ZHq.ok G0 Tryz.func66 ⟨ZEf,ZEb,trivial⟩ rfl rfl (by kernel_rfl)
noncomputable def ZHp:FD U:=⟨65,Tryz.f65,[D65.sg,D75.sg],[.p (.sl (.st 7)),.p (.sl (.st 7))],[],[.own (.st 2)],[],[],Zsi,Zsi,
.lo 9410111 [1,5,6,9,10,11] [] [ZA6,qe5,qe0,ZA6,qe0,qe0] [ZAx] 0 [5] [] [qe5] [ZAx] Zpg Zt4 (fun n0=> .lo 940140115410111 [1,5,6,8,9,10,11] [] [ZA6,qe5,qe0,qe8,ZA6,qe0,qe0] qp5 2 [1,5,6,8,9,10,11] [] [ZA6,qe5,qe0,qe8,ZA6,qe0,qe0] qp5 ZpQ (Zt5 (Zpg n0)) (fun n1=> .j 910540140115410111 [1,5,6,8,9,10,11,28] [] [ZA6,qe5,qe0,qe8,ZA6,qe0,qe0,qe3] qp5 (Zsp (ZpQ n1)) <|
.nil) <|
.j 911140115410111 [1,5,6,8,9,10,11,44] [] [ZA6,qe5,qe0,qe8,ZA6,qe0,qe0,qe3] qp5 (Zso (Zpg n0)) <|
.j 91115410111 [1,5,6,9,10,11] [] [ZA6,qe5,qe0,ZA6,qe0,qe0] [ZAx] (Zsn (Zpg n0)) <|
.nil) <|
.nil⟩
theorem ZD9:Zeg X0.E 65 ZHp.sig:=ZHp.ok G0 Tryz.func65 ⟨ZCN,ZCL,trivial⟩ rfl rfl (by kernel_rfl)
noncomputable def ZHo:FD U:=⟨31,Tryz.f31,[ZHq.sg,ZHp.sg],[.p (.st 6),.p (.st 6),.p (.st 6),.p (.st 6)],[],[.own (.st 2)],[],[],Zoo,Zoo,
.nil⟩
theorem ZD8:Zeg X0.E 31 ZHo.sig:=ZHo.ok G0 Tryz.func31 ⟨ZEa,ZD9,trivial⟩ rfl rfl (by kernel_rfl)
noncomputable def ZHn:FD U:=⟨118,Tryz.f118,[],[.p .str],[],[.p .str],[],[],ZtH,ZtH,
.lo 9401 [0] [] [qe7] [] 0 [0] [] [qe7] [] ZqN ZuT (fun n0=> .j 9105401 [0,10] [] qs3 [] (Zsw (ZqN n0)) <|
.nil) <|
.lo 94011 [0] [] [qe7] [] 2 [0] [] [qe7] [] ZqM ZuS (fun n0=> .j 91054011 [0,23] [] qs3 [] (Zsv (ZqM n0)) <|
.nil) <|
.nil⟩
theorem ZD7:Zeg X0.E 118 ZHn.sig:=ZHn.ok G0 Tryz.func118 trivial rfl rfl (by kernel_rfl)
noncomputable def ZHm:FD U:=⟨119,Tryz.f119,[],[.p .str],[],[.p .str],[],[],ZtI,ZtI,
.lo 941011 [3,8,9] [] [qe5,qe0,qe0] [ZEx] 0 [3] [] [qe5] [ZEx] ZpF ZuU (fun n0=> .j 9114011541011 [3,4,8,9,23] [] [qe5,qe0,qe0,qe0,qe3] [ZEx] (Zsy (ZpF n0)) <|
.j 9111541011 [3,8,9] [] [qe5,qe0,qe0] [ZEx] (Zsx (ZpF n0)) <|
.nil) <|
.nil⟩
theorem ZD6:Zeg X0.E 119 ZHm.sig:=ZHm.ok G0 Tryz.func119 trivial rfl rfl (by kernel_rfl)
noncomputable def ZGA:FD U:=⟨120,Tryz.f120,[],[.p .str],[],[.p .bool,.p .str,.p .str,.p .bool],[],[],Zrn,Zrn,
.j 9101 [0,2,20] [] [qe7,qe3,qe3] [] Zqs <|
.j 911 [0,2] [] qs3 [] Zr8 <|
.lo 940111 [0,2,6] [] [qe7,qe3,qe0] [] 0 [0,2,6] [] [qe7,qe3,qe0] [] Zqp Zuq (fun n0=> .j 910540111 [0,2,6,41] [] [qe7,qe3,qe0,qe3] [] (Zqr (Zqp n0)) <|
.nil) <|
.j 91011111 [0,2,3,6,52] [] [qe7,qe3,qe7,qe0,qe3] [] Zr7 <|
.j 91011111111 [2,3,4,76] [] qs8 [] Zqq <|
.lr 9410111111111 [2,3,4,7] [] [qe3,qe7,qe7,qe0] [] 2 [2,3,4] [] ZEJ [] Zqo Zup (fun n0=> .j 914015410111111111 [2,3,4,7,92] [] [qe3,qe7,qe7,qe0,qe3] [] (Zr6 (Zqo n0)) <|
.nil) <|
.nil⟩
theorem ZBU:Zeg X0.E 120 ZGA.sig:=ZGA.ok G0 Tryz.func120 trivial rfl rfl (by kernel_rfl)
noncomputable def ZHl:FD U:=⟨121,Tryz.f121,[],[.p .bool,.p .str,.p .str],[],[.p .str],[],[],ZsV,ZsV,
.lo 9401 [0,1,2] [] ZEJ [] 0 [0,1,2] [] ZEJ [] Zqf Zt8 (fun n0=> .j 9105401 [0,1,2,14] [] qs8 [] (ZrL (Zqf n0)) <|
.nil) <|
.lo 94011 [0,1,2] [] ZEJ [] 2 [0,1,2] [] ZEJ [] Zqe Zt7 (fun n0=> .j 91054011 [0,1,2,27] [] qs8 [] (ZrK (Zqe n0)) <|
.nil) <|
.j 91111 [0,1] [] [qe3,qe7] [] ZrJ <|
.j 9101111 [1,43] [] qs3 [] ZrI <|
.j 911111 [1] [] [qe7] [] ZrH <|
.nil⟩
theorem ZD5:Zeg X0.E 121 ZHl.sig:=ZHl.ok G0 Tryz.func121 trivial rfl rfl (by kernel_rfl)
noncomputable def ZHk:FD U:=⟨123,Tryz.f123,[],[.p .str],[],[.p (.int .i64)],[],[],ZoM,ZoM,
.lr 941011 [0,3,4] [] [qe7,qe0,qe0] [] 0 [3] [] [qe0] [] Zq7 Zu8 (fun n0=> .j 910401541011 [0,3,4,20] [] [qe7,qe0,qe0,qe3] [] (ZsU (Zq7 n0)) <|
.nil) <|
.nil⟩
theorem ZD4:Zeg X0.E 123 ZHk.sig:=ZHk.ok G0 Tryz.func123 trivial rfl rfl (by kernel_rfl)
noncomputable def ZGz:FD U:=⟨125,Tryz.f125,[],[.p (.int .i64)],[],[.p .bool],[],[],ZrN,ZrN,
.j 911 [2] [] [qe3] [] ZqK <|
.nil⟩
theorem ZBT:Zeg X0.E 125 ZGz.sig:=ZGz.ok G0 Tryz.func125 trivial rfl rfl (by kernel_rfl)
noncomputable def ZHj:FD U:=⟨124,Tryz.f124,[ZGz.sg],[.p (.int .i64),.p (.int .i64)],[],[.p (.int .i64)],[],[],Zq8,Zq8,
.j 91401 [1,5] [] [qe0,qe3] [] ZrM <|
.j 913131401 [15] [] [qe3] [] Zph <|
.nil⟩
theorem ZD3:Zeg X0.E 124 ZHj.sig:=ZHj.ok G0 Tryz.func124 ⟨ZBT,trivial⟩ rfl rfl (by kernel_rfl)
noncomputable def ZGy:FD U:=⟨79,Tryz.f79,[ZHj.sg,ZGz.sg],[.p (.int .i64),.p (.int .i64),.p (.int .i64)],[],[.p (.int .i64),.p .bool],[],[],Zsj,Zsj,
.j 9101 [0,1,2,35] [] [qe0,qe0,qe0,qe3] [] ZoJ <|
.lo 9410111 [0,1,2,8,9] [] ZGJ [] 0 [0,1,2,8] [] [qe0,qe0,qe0,qe0] [] Zq9 Zva (fun n0=> .j 9115410111 [0,1,2,8,9] [] ZGJ [] (ZsX (Zq9 n0)) <|
.nil) <|
.lo 94101111 [0,1,2,8,10] [] ZGJ [] 2 [2,8] [] [qe0,qe0] [] ZsW Zu9 (fun _=> .nil) <|
.nil⟩
theorem ZBS:Zeg X0.E 79 ZGy.sig:=ZGy.ok G0 Tryz.func79 ⟨ZD3,ZBT,trivial⟩ rfl rfl (by kernel_rfl)
noncomputable def ZGx:FD U:=⟨78,Tryz.f78,[ZHk.sg,ZGy.sg],[.p .str],[],[.p (.int .i64),.p (.int .i64),.p (.int .i64),.p .bool],[],[],ZrO,ZrO,
.j 9104011 [0,9] [] qs3 [] Zsu <|
.j 914011 [0,9] [] qs3 [] ZqL <|
.j 91314011 [0,35] [] qs3 [] Zst <|
.j 9111 [2,3,4] [] [qe0,qe0,qe0] [] Zss <|
.nil⟩
theorem ZBR:Zeg X0.E 78 ZGx.sig:=ZGx.ok G0 Tryz.func78 ⟨ZD4,ZBS,trivial⟩ rfl rfl (by kernel_rfl)
noncomputable def ZHi:FD U:=⟨122,Tryz.f122,[],[.p (.int .i64),.p (.int .i64)],[],[.p .str],[],[],ZpR,ZpR,
.lo 94011 [0,1,5] [] [qe0,qe0,qe7] [] 0 [5] [] [qe7] [] ZrG Zt6 (fun _=> .nil) <|
.nil⟩
theorem ZD2:Zeg X0.E 122 ZHi.sig:=ZHi.ok G0 Tryz.func122 trivial rfl rfl (by kernel_rfl)
noncomputable def ZHh:FD U:=⟨77,Tryz.f77,[ZHn.sg,ZHm.sg,ZGA.sg,ZHl.sg,ZGx.sg,ZHi.sg],[.p (.int .i64),.p .str],[],[.p .str,.p .bool],[],[],ZrP,ZrP,
.j 9141213141011 [24,25] [] qs3 [] Zq0 <|
.j 913141213141011 [28] [] [qe3] [] ZqZ <|
.j 91313141011 [0,6,17,31] [] [qe0,qe7,qe0,qe3] [] ZqY <|
.j 91121313141011 [7,8,9,49] [] qs8 [] ZpD <|
.j 9111 [] [] [] [] ZoV <|
.nil⟩
theorem ZD1:Zeg X0.E 77 ZHh.sig:=ZHh.ok G0 Tryz.func77 ⟨ZD7,ZD6,ZBU,ZD5,ZBR,ZD2,trivial⟩ rfl rfl (by kernel_rfl)
noncomputable def ZHg:FD U:=⟨108,Tryz.f108,[D1.sg],[.p (.sl (.int .u32)),.p (.sl (.int .u32))],[],[.p (.sl (.int .u32))],[],[],Zt2,Zt2,
.lo 941011 [0,1,5,6] [] [qe2,qe2,qe5,qe0] [qo1] 0 [5] [] [qe5] [qo1] Zra Zvb (fun n0=> .lo 94101401541011 [0,1,5,6,7,8] [] [qe2,qe2,qe5,qe0,ZyL,qe0] [qo1] 2 [0,1,5,6,7] [] [qe2,qe2,qe5,qe0,ZyL] [qo1] ZsZ (Zvc (Zra n0)) (fun _=> .nil) <|
.nil) <|
.nil⟩
theorem ZD0:Zeg X0.E 108 ZHg.sig:=ZHg.ok G0 Tryz.func108 ⟨ZA4,trivial⟩ rfl rfl (by kernel_rfl)
noncomputable def ZHf:FD U:=⟨70,Tryz.f70,[ZHg.sg,D2.sg],[.p (.st 0),.p (.st 0)],[],[.p (.st 0)],[],[],Zrm,Zrm,
.nil⟩
theorem ZDZ:Zeg X0.E 70 ZHf.sig:=ZHf.ok G0 Tryz.func70 ⟨ZD0,ZBP,trivial⟩ rfl rfl (by kernel_rfl)
noncomputable def ZHe:FD U:=⟨106,Tryz.f106,[],[.p (.sl (.int .u32)),.p (.sl (.int .u32))],[],[.own (.int .u32)],[],[],Zt3,Zt3,
.lo 9410111 [0,1,5,6,7] [] qs9 [qo1] 0 [5,6] [] [qe5,ZyL] [qo1] Zpb Zvd (fun n0=> .j 9105410111 [0,1,5,6,7,17] [] [qe2,qe2,qe5,ZyL,qe0,qe3] [qo1] (Zs9 (Zpb n0)) <|
.j 914015410111 [0,1,5,6,7] [] qs9 [qo1] (Zs8 (Zpb n0)) <|
.j 9114015410111 [0,1,5,6,7] [] qs9 [qo1] (Zs7 (Zpb n0)) <|
.nil) <|
.nil⟩
theorem ZDY:Zeg X0.E 106 ZHe.sig:=ZHe.ok G0 Tryz.func106 trivial rfl rfl (by kernel_rfl)
noncomputable def ZHd:FD U:=⟨69,Tryz.f69,[ZHe.sg,D2.sg,D6.sg,D7.sg],[.p (.st 0),.p (.st 0)],[],[.p (.st 0)],[],[],ZtJ,ZtJ,
.nil⟩
theorem ZDX:Zeg X0.E 69 ZHd.sig:=ZHd.ok G0 Tryz.func69 ⟨ZDY,ZBP,ZDR,ZDQ,trivial⟩ rfl rfl (by kernel_rfl)
noncomputable def ZHc:FD U:=⟨71,Tryz.f71,[D2.sg],[.p (.st 0)],[],[.p (.st 0)],[],[],Zts,Zts,
.nil⟩
theorem ZDW:Zeg X0.E 71 ZHc.sig:=ZHc.ok G0 Tryz.func71 ⟨ZBP,trivial⟩ rfl rfl (by kernel_rfl)
noncomputable def ZHb:FD U:=⟨80,Tryz.f80,[ZGA.sg,D3.sg,ZHf.sg,ZHd.sg,ZHc.sg,D12.sg],[.p .str],[],[.p (.st 1),.p .bool],[],[],ZsB,ZsB,
.lo 94101111 [2,4,6,8,9,27,28,29] [100008] [qe4,qe3,qe7,qe8,ZA7,ZGt,qe0,qe0] [ZGs,ZAi,ZAi,ZEx,qo1,qo1] 0 [2,4,6,8,9] [] [qe4,qe3,qe7,qe8,ZA7] qp7 Zrw ZtT (fun _=> .nil) <|
.lo 941011111 [2,4,8,9,43] [] [qe4,qe3,qe8,ZA7,.o (.it (0,4,1))] [ZGs,ZAi,ZAi,.sit,qo1,qo1] 2 [2,4,8,9] [] [qe4,qe3,qe8,ZA7] qp7 Zp1 ZtS (fun n0=> .j 91541011111 [2,4,8,9,43,45] [] [qe4,qe3,qe8,ZA7,.o (.it (0,4,1)),qe3] [ZGs,ZAi,ZAi,.sit,qo1,qo1] (Zry (Zp1 n0)) <|
.nil) <|
.j 91111111 [2,8,9] [] [qe4,qe8,ZA7] qp7 Zrx <|
.nil⟩
theorem ZDV:Zeg X0.E 80 ZHb.sig:=ZHb.ok G0 Tryz.func80 ⟨ZBU,ZDS,ZDZ,ZDX,ZDW,ZC4,trivial⟩ rfl rfl (by kernel_rfl)
noncomputable def ZHa:FD U:=⟨44,Tryz.f44,[ZHh.sg,ZGx.sg,ZGy.sg,ZHb.sg,D14.sg],[.p (.int .i64),.p .str],[],[.p (.st 1),.p .bool],[],[],Ztr,Ztr,
.j 91011 [0,4,6,26] [] [qe0,qe4,qe7,qe3] qp2 ZrZ <|
.j 911111 [4,8] [] [qe4,qe0] qp2 Zqj <|
.nil⟩
theorem ZDU:Zeg X0.E 44 ZHa.sig:=ZHa.ok G0 Tryz.func44 ⟨ZD1,ZBR,ZBS,ZDV,ZC3,trivial⟩ rfl rfl (by kernel_rfl)
noncomputable def ZG9:FD U:=⟨16,Tryz.f16,[ZHa.sg],[.p (.st 5)],[],[.p (.st 1),.p .bool],[],[],Zo7,Zo7,
.nil⟩
theorem ZDT:Zeg X0.E 16 ZG9.sig:=ZG9.ok G0 Tryz.func16 ⟨ZDU,trivial⟩ rfl rfl (by kernel_rfl)
noncomputable def D148:FD U:=⟨6,Tryz.f6,[D0.sg,D79.sg,D80.sg,D82.sg,D87.sg,ZHo.sg,D78.sg,ZG9.sg],[.p (.sl (.int .i64))],[],[.p .bool],[],[],Zo6,Zo6,
.j 91011111111 [6,7,10,11,12,70] [] [qe4,qe8,ZA5,ZGt,ZGM,qe3] qp4 Zof <|
.lr 9410111111111 [6,7,11,12,71,72,73] [] [qe4,qe8,ZA5,ZGt,ZGM,qe0,qe0] qp4 0 [6,7,12] [] [qe4,qe8,ZA5] [ZAh,ZAh,ZAx] Zoe ZpM (fun n0=> .j 91140115410111111111 [6,7,11,12,71,72,73,97] [] [qe4,qe8,ZA5,ZGt,ZGM,qe0,qe0,qe3] qp4 (ZoU (Zoe n0)) <|
.nil) <|
.lr 94101111111111 [6,7,12,99,100,101] [] [qe4,qe8,ZA5,ZA5,qe0,qe0] [ZAh,ZAh,ZAx] 2 [6,7,12] [] [qe4,qe8,ZA5] [ZAh,ZAh,ZAx] ZoQ ZpL (fun _=> .nil) <|
.lo 9410111111111111 [7,12,17,114,115,116] [] [qe4,ZDj,ZGL,ZDk,qe0,qe0] [ZAh,ZAx,ZGq] 4 [12,17] [] [qe5,ZEM] [ZAx,ZGq] ZnT ZpK (fun n0=> .j 911140115410111111111111 [7,12,17,19,114,115,116,135] [] [qe4,ZDj,ZGL,ZGu,ZDk,qe0,qe0,qe3] [ZAh,ZAx,ZGq,.boxS (.st 5)] (ZoT (ZnT n0)) <|
.j 91115410111111111111 [7,12,17,114,115,116] [] [qe4,ZDj,ZGL,ZDk,qe0,qe0] [ZAh,ZAx,ZGq] (ZoS (ZnT n0)) <|
.nil) <|
.j 911111111111111 [2] [] [qe3] [] ZoR <|
.nil⟩
theorem D148_ok:Zeg X0.E 6 D148.sig:=D148.ok G0 Tryz.func6 ⟨ZHL,ZFL,ZFK,Zz5,ZFG,ZD8,ZCK,ZDT,trivial⟩ rfl rfl (by kernel_rfl)
end
end Go.Proofs

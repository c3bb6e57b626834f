/- Printed by wip/tools/tgen.py: walks. -/
import Derived.Test.YtbjnddlpdlfknaaGreatDoorQwU
import Derived.Test.YtbjnddlpdlfknaaGreatDoorQwX
set_option linter.unusedVariables false
set_option linter.unusedSimpArgs false
set_option linter.unusedSectionVars false
namespace Go.Proofs
open Go Eng
set_option maxRecDepth 100000
noncomputable section
abbrev qe0:Sh:= .o (.v (.int .i64))
abbrev qe1:Sh:= .o (.v (.sl (.int .u32)))
abbrev qo2:ShO:= .arr (.int .u32) false
abbrev qe3:Sh:= .o (.v (.int .u64))
abbrev qe4:Sh:= .o (.full (0,1,1))
abbrev qe5:Sh:= .o (.v (.sl (.st 1)))
abbrev qo6:ShO:= .box [.o (.v .bool),.o (.full (0,2,1)),.o (.v .bool),.o (.full (0,3,1))]
abbrev qe7:Sh:= .o (.ptr (0,1,1) 0 0)
abbrev qe8:Sh:= .o (.v .bool)
abbrev qo9:ShO:= .arr (.st 1) false
abbrev ZwX:Sh:= .o (.v (.int .u32))
abbrev Zw2:ShO:= .boxS (.st 1)
abbrev ZxA:Sh:= .o (.full (0,2,1))
abbrev ZyD:Sh:= .o (.ptr (0,2,1) 0 0)
abbrev Zye:Sh:= .o (.sl (0,0,0))
abbrev ZzS:Sh:= .o (.ptr (0,3,1) 0 0)
abbrev qo16:ShO:= .box [.o (.v .bool),.o (.full (0,3,1)),.o (.v .bool),.o (.full (0,4,1))]
abbrev qo17:ShO:= .box [.o (.v .bool),.o (.full (0,4,1)),.o (.v .bool),.o (.full (0,5,1))]
abbrev Zxz:Sh:= .o (.v .str)
abbrev Zz6:ShO:= .arr (.int .i64) false
abbrev Zz7:Sh:= .o (.full (0,0,0))
abbrev ZBI:Sh:= .o (.ptr (0,0,0) 0 0)
abbrev ZBU:Sh:= .o (.ptr (0,4,1) 0 0)
abbrev Zzm:ShO:= .boxS (.st 0)
abbrev Zzn:Sh:= .fn 56 [] []
abbrev qo25:ShO:= .box [.o (.v .bool),.o (.full (0,2,1))]
abbrev Zz5:ShO:= .boxS (.st 5)
abbrev qs0:List Sh:=[qe1,qe1,qe0]
abbrev qp1:List ShO:=[qo6,qo2,qo2]
abbrev qs2:List Sh:=[qe5,qe4,ZxA,qe0,ZzS,qe0,ZBU,qe0,qe0,qe5,qe0,qe0]
abbrev qs3:List Sh:=[qe3,qe3,qe3,qe3,qe3,qe3,qe3,qe3,qe3,qe8]
abbrev qs4:List Sh:=[qe3,qe3,qe3,qe3,qe3,qe3,qe3,qe3,qe3]
abbrev qp5:List ShO:=[qo9,qo9,Zw2,Zw2]
abbrev qs6:List Sh:=[qe1,qe1,qe4,qe3,qe0]
noncomputable def D0:FD U:=⟨9,Tryz.f9,[],[.p (.sl (.int .i64))],[],[.p .bool],[],[],Zrn,Zrn,
.nil⟩
theorem ZCh:Zeg X0.E 9 D0.sig:=D0.ok G0 Tryz.func9 trivial rfl rfl (by kernel_rfl)
noncomputable def D1:FD U:=⟨154,Tryz.f154,[],[.p (.sl (.int .u32))],[],[.p (.sl (.int .u32))],[],[],ZnV,ZnV,
.lo 9401 [0] [] [qe1] [] 0 [0] [] [qe1] [] Zok Zts (fun n0=> .j 9105401 [0,14] [] [qe1,qe8] [] (Zrv (Zok n0)) <|
.nil) <|
.nil⟩
theorem ZxH:Zeg X0.E 154 D1.sig:=D1.ok G0 Tryz.func154 trivial rfl rfl (by kernel_rfl)
noncomputable def D2:FD U:=⟨105,Tryz.f105,[D1.sg],[.p .bool,.p (.sl (.int .u32))],[],[.p (.st 0)],[],[],ZnO,ZnO,
.j 9111 [4] [] [qe7] [Zzm] Zqx <|
.nil⟩
theorem Zx9:Zeg X0.E 105 D2.sig:=D2.ok G0 Tryz.func105 ⟨ZxH,trivial⟩ rfl rfl (by kernel_rfl)
noncomputable def D3:FD U:=⟨126,Tryz.f126,[D2.sg],[.p (.int .i64)],[],[.p (.st 0)],[],[],Zol,Zol,
.j 9111 [0,2,3] [] [qe0,qe7,qe3] [qo25,qo2] Zpr <|
.nil⟩
theorem ZBn:Zeg X0.E 126 D3.sig:=D3.ok G0 Tryz.func126 ⟨Zx9,trivial⟩ rfl rfl (by kernel_rfl)
noncomputable def D4:FD U:=⟨102,Tryz.f102,[],[.p (.st 0)],[],[.p .bool],[],[],Zoc,Zoc,
.j 9111 [2] [] [qe8] [] ZnY <|
.nil⟩
theorem ZBh:Zeg X0.E 102 D4.sig:=D4.ok G0 Tryz.func102 trivial rfl rfl (by kernel_rfl)
noncomputable def D5:FD U:=⟨152,Tryz.f152,[D1.sg],[.p (.sl (.int .u32))],[],[.p (.sl (.int .u32))],[],[],Zos,Zos,
.lo 941011 [0,3,9,10] [] [qe1,qe4,qe0,qe0] [qo2] 0 [3] [] [qe4] [qo2] Zo0 Zrw (fun n0=> .j 9111541011 [0,3,9,10] [] [qe1,qe4,qe0,qe0] [qo2] (Zo1 (Zo0 n0)) <|
.nil) <|
.nil⟩
theorem ZB9:Zeg X0.E 152 D5.sig:=D5.ok G0 Tryz.func152 ⟨ZxH,trivial⟩ rfl rfl (by kernel_rfl)
noncomputable def D6:FD U:=⟨103,Tryz.f103,[],[.p (.sl (.int .u32)),.p (.sl (.int .u32))],[],[.p (.int .i64)],[],[],Zn3,Zn3,
.lr 941011 [0,1,5] [] qs0 [] 0 [] [] [] [] Zqw ZrZ (fun _=> .nil) <|
.nil⟩
theorem ZyA:Zeg X0.E 103 D6.sig:=D6.ok G0 Tryz.func103 trivial rfl rfl (by kernel_rfl)
noncomputable def D7:FD U:=⟨107,Tryz.f107,[D1.sg],[.p (.sl (.int .u32)),.p (.sl (.int .u32))],[],[.p (.sl (.int .u32))],[],[],Zou,Zou,
.lo 9410111 [0,1,5,6,7] [] [qe1,qe1,qe4,qe0,qe0] [qo2] 0 [5] [] [qe4] [qo2] Zpb ZrQ (fun n0=> .j 9114015410111 [0,1,5,6,7] [] [qe1,qe1,qe4,qe0,qe0] [qo2] (Zpc (Zpb n0)) <|
.nil) <|
.nil⟩
theorem ZzK:Zeg X0.E 107 D7.sig:=D7.ok G0 Tryz.func107 ⟨ZxH,trivial⟩ rfl rfl (by kernel_rfl)
noncomputable def D8:FD U:=⟨153,Tryz.f153,[D1.sg],[.p (.sl (.int .u32)),.p (.int .u32)],[],[.p (.sl (.int .u32))],[],[],ZoO,ZoO,
.lo 941011 [0,1,5,6] [] [qe1,ZwX,qe4,qe0] [qo2] 0 [1,5] [] [ZwX,qe4] [qo2] ZpK Zq5 (fun _=> .nil) <|
.nil⟩
theorem ZAS:Zeg X0.E 153 D8.sig:=D8.ok G0 Tryz.func153 ⟨ZxH,trivial⟩ rfl rfl (by kernel_rfl)
noncomputable def D9:FD U:=⟨104,Tryz.f104,[D5.sg,D6.sg,D7.sg,D8.sg],[.p (.sl (.int .u32)),.p (.sl (.int .u32))],[],[.p (.sl (.int .u32))],[],[],Zo5,Zo5,
.lo 94011 [0,1,5] [] qs0 [] 0 [0,1,5] [] qs0 [] ZoK ZrX (fun n0=> .j 91054011 [0,1,5,17] [] [qe1,qe1,qe0,qe8] [] (Zqv (ZoK n0)) <|
.nil) <|
.lo 940111 [0,1,5] [] qs0 [] 2 [0,5] [] [qe1,qe0] [] ZnP ZrU (fun n0=> .lo 94041540111 [0,1,5] [] qs0 [] 4 [0,1,5] [] qs0 [] Zn7 (ZrW (ZnP n0)) (fun _=> .nil) <|
.lo 940141540111 [0,1,5] [] qs0 [] 6 [0,1,5] [] qs0 [] Zn6 (ZrV (ZnP n0)) (fun _=> .nil) <|
.j 911141540111 [0,1,5] [] qs0 [] (Zqu (ZnP n0)) <|
.nil) <|
.lo 9401111 [0,5] [] [qe1,qe0] [] 8 [0] [] [qe1] [] ZoJ ZrT (fun _=> .nil) <|
.nil⟩
theorem ZAJ:Zeg X0.E 104 D9.sig:=D9.ok G0 Tryz.func104 ⟨ZB9,ZyA,ZzK,ZAS,trivial⟩ rfl rfl (by kernel_rfl)
noncomputable def D10:FD U:=⟨213,Tryz.f213,[],[.p (.sl (.int .u32)),.p (.int .i64)],[],[.p (.int .u32)],[],[],Zqg,Zqg,
.nil⟩
theorem ZBG:Zeg X0.E 213 D10.sig:=D10.ok G0 Tryz.func213 trivial rfl rfl (by kernel_rfl)
noncomputable def D11:FD U:=⟨174,Tryz.f174,[D10.sg,D8.sg,D6.sg,D7.sg,D1.sg],[.p (.sl (.int .u32)),.p (.sl (.int .u32))],[],[.p (.sl (.int .u32)),.p (.sl (.int .u32))],[],[],Zo6,Zo6,
.lo 941011 [0,1,4,5,6] [5] [qe1,qe1,qe4,qe1,qe0] [qo2] 0 [4,5] [] [qe4,qe1] [qo2] Zpf ZrY (fun n0=> .j 911541011 [0,1,4,5,6] [] [qe1,qe1,qe4,qe1,qe0] [qo2] (Zpg (Zpf n0)) <|
.nil) <|
.nil⟩
theorem ZBF:Zeg X0.E 174 D11.sig:=D11.ok G0 Tryz.func174 ⟨ZBG,ZAS,ZyA,ZzK,ZxH,trivial⟩ rfl rfl (by kernel_rfl)
noncomputable def D12:FD U:=⟨127,Tryz.f127,[D3.sg,D9.sg,D11.sg,D2.sg],[.p (.st 0),.p (.st 0)],[],[.p (.st 1)],[],[],Zpe,Zpe,
.nil⟩
theorem ZBE:Zeg X0.E 127 D12.sig:=D12.ok G0 Tryz.func127 ⟨ZBn,ZAJ,ZBF,Zx9,trivial⟩ rfl rfl (by kernel_rfl)
noncomputable def D13:FD U:=⟨128,Tryz.f128,[D4.sg,D12.sg],[.p (.st 0),.p (.st 0)],[],[.p (.st 1),.p (.int .i64)],[],[],ZpS,ZpS,
.j 9101 [2,3,4,13] [] [qe7,ZyD,ZzS,qe8] [Zzm,Zzm,qo17,qo2,qo2] Zqb <|
.nil⟩
theorem ZBD:Zeg X0.E 128 D13.sig:=D13.ok G0 Tryz.func128 ⟨ZBh,ZBE,trivial⟩ rfl rfl (by kernel_rfl)
noncomputable def D14:FD U:=⟨81,Tryz.f81,[D3.sg,D13.sg],[.p (.int .i64),.p (.int .i64)],[],[.p (.st 1),.p (.int .i64)],[],[],ZqC,ZqC,
.nil⟩
theorem ZBC:Zeg X0.E 81 D14.sig:=D14.ok G0 Tryz.func81 ⟨ZBn,ZBD,trivial⟩ rfl rfl (by kernel_rfl)
noncomputable def D15:FD U:=⟨49,Tryz.f49,[D14.sg],[.p (.int .i64),.p (.int .i64)],[],[.p (.st 1)],[],[],Zoq,Zoq,
.nil⟩
theorem Zyb:Zeg X0.E 49 D15.sig:=D15.ok G0 Tryz.func49 ⟨ZBC,trivial⟩ rfl rfl (by kernel_rfl)
noncomputable def D16:FD U:=⟨23,Tryz.f23,[D15.sg],[.p (.int .i64)],[],[.p (.st 1)],[],[],ZnI,ZnI,
.nil⟩
theorem Zya:Zeg X0.E 23 D16.sig:=D16.ok G0 Tryz.func23 ⟨Zyb,trivial⟩ rfl rfl (by kernel_rfl)
noncomputable def D17:FD U:=⟨52,Tryz.f52,[],[.p (.int .u64),.p (.int .u64)],[],[.p (.int .u64),.p (.int .u64)],[],[],Zsq,Zsq,
.nil⟩
theorem ZBB:Zeg X0.E 52 D17.sig:=D17.ok G0 Tryz.func52 trivial rfl rfl (by kernel_rfl)
noncomputable def D19:FD U:=⟨131,Tryz.f131,[],[.p (.int .u64)],[],[.p (.int .i64)],[],[],Ztm,Ztm,
.j 911 [0,2] [] [qe3,qe0] [] ZtF <|
.j 9111 [0,2] [] [qe3,qe0] [] ZtE <|
.j 91111 [0,2] [] [qe3,qe0] [] ZtD <|
.nil⟩
theorem Zy7:Zeg X0.E 131 D19.sig:=D19.ok G0 Tryz.func131 trivial rfl rfl (by kernel_rfl)
noncomputable def D20:FD U:=⟨87,Tryz.f87,[D19.sg],[.p (.int .u64)],[],[.p (.int .i64)],[],[],Zrx,Zrx,
.nil⟩
theorem ZBA:Zeg X0.E 87 D20.sig:=D20.ok G0 Tryz.func87 ⟨Zy7,trivial⟩ rfl rfl (by kernel_rfl)
noncomputable def D21:FD U:=⟨54,Tryz.f54,[D20.sg],[.p (.int .u64),.p (.int .u64),.p (.int .u64)],[],[.p (.int .u64),.p (.int .u64)],[],[],Zss,Zss,
.lo 94011111111111111 [2,8,9,10,11,13,14,15,16] [] qs4 [] 0 [2,8,9,10,11,13,14,15] [] [qe3,qe3,qe3,qe3,qe3,qe3,qe3,qe3] [] Zsb Zuz (fun n0=> .j 91054011111111111111 [2,8,9,10,11,13,14,15,16,78] [] qs3 [] (ZtH (Zsb n0)) <|
.nil) <|
.lo 940111111111111111111 [2,8,9,10,14,15,16,17,18] [] qs4 [] 2 [2,8,14,15,17,18] [] [qe3,qe3,qe3,qe3,qe3,qe3] [] Zsa Zuy (fun n0=> .j 910540111111111111111111 [2,8,9,10,14,15,16,17,18,113] [] qs3 [] (ZtG (Zsa n0)) <|
.nil) <|
.nil⟩
theorem ZBz:Zeg X0.E 54 D21.sig:=D21.ok G0 Tryz.func54 ⟨ZBA,trivial⟩ rfl rfl (by kernel_rfl)
noncomputable def D22:FD U:=⟨55,Tryz.f55,[],[.p (.st 1)],[],[.p (.st 1)],[],[],Zv3,Zv3,
.nil⟩
theorem ZBy:Zeg X0.E 55 D22.sig:=D22.ok G0 Tryz.func55 trivial rfl rfl (by kernel_rfl)
noncomputable def D23:FD U:=⟨25,Tryz.f25,[D17.sg,(53,Zu6.sig),D21.sg,D22.sg],[.p (.sl (.st 1)),.p (.int .i64),.p (.int .i64)],[],[.p (.st 1),.p (.int .i64)],[],[],ZqD,ZqD,
.j 91401 [0,1,2,6,13] [] [qe5,qe0,qe0,qe7,qe8] qp1 ZrG <|
.nil⟩
theorem Zy6:Zeg X0.E 25 D23.sig:=D23.ok G0 Tryz.func25 ⟨ZBB,ZvF,ZBz,ZBy,trivial⟩ rfl rfl (by kernel_rfl)
noncomputable def D24:FD U:=⟨155,Tryz.f155,[],[.p (.st 0)],[],[.p .bool],[],[],Zqr,Zqr,
.j 9111 [2] [] [qe8] [] Zov <|
.nil⟩
theorem ZBx:Zeg X0.E 155 D24.sig:=D24.ok G0 Tryz.func155 trivial rfl rfl (by kernel_rfl)
noncomputable def D25:FD U:=⟨109,Tryz.f109,[D24.sg],[.p (.sl (.st 0))],[],[.p .bool],[],[],Zsx,Zsx,
.lr 94101 [5,6,7] [] [.o (.v (.sl (.st 0))),qe0,qe0] [] 0 [] [] [] [] ZsU Zu8 (fun _=> .nil) <|
.nil⟩
theorem Zy5:Zeg X0.E 109 D25.sig:=D25.ok G0 Tryz.func109 ⟨ZBx,trivial⟩ rfl rfl (by kernel_rfl)
noncomputable def D26:FD U:=⟨204,Tryz.f204,[],[.p (.int .i64)],[],[.p .bool],[],[],Zti,Zti,
.nil⟩
theorem ZBw:Zeg X0.E 204 D26.sig:=D26.ok G0 Tryz.func204 trivial rfl rfl (by kernel_rfl)
noncomputable def D27:FD U:=⟨157,Tryz.f157,[D26.sg],[.p (.int .i64),.p (.int .i64)],[],[.p (.int .i64)],[],[],Zsy,Zsy,
.nil⟩
theorem ZBv:Zeg X0.E 157 D27.sig:=D27.ok G0 Tryz.func157 ⟨ZBw,trivial⟩ rfl rfl (by kernel_rfl)
noncomputable def D28:FD U:=⟨205,Tryz.f205,[],[.p (.int .u32)],[],[.p .bool],[],[],ZsW,ZsW,
.nil⟩
theorem ZBu:Zeg X0.E 205 D28.sig:=D28.ok G0 Tryz.func205 trivial rfl rfl (by kernel_rfl)
noncomputable def D29:FD U:=⟨158,Tryz.f158,[D28.sg],[.p (.int .u32),.p (.int .u32)],[],[.p (.int .i64)],[],[],Zsg,Zsg,
.nil⟩
theorem ZBt:Zeg X0.E 158 D29.sig:=D29.ok G0 Tryz.func158 ⟨ZBu,trivial⟩ rfl rfl (by kernel_rfl)
noncomputable def D30:FD U:=⟨111,Tryz.f111,[D27.sg,D29.sg],[.p (.sl (.int .u32)),.p (.sl (.int .u32))],[],[.p (.int .i64)],[],[],Zog,Zog,
.lr 941011 [0,1,6] [] qs0 [] 0 [] [] [] [] Zp0 Zrj (fun _=> .nil) <|
.nil⟩
theorem Zx8:Zeg X0.E 111 D30.sig:=D30.ok G0 Tryz.func111 ⟨ZBv,ZBt,trivial⟩ rfl rfl (by kernel_rfl)
noncomputable def D31:FD U:=⟨199,Tryz.f199,[],[.p (.sl (.int .u32))],[],[.own (.int .u32)],[],[],Zn8,Zn8,
.j 9101 [0,4] [] [qe1,qe8] [] ZnH <|
.nil⟩
theorem Zy4:Zeg X0.E 199 D31.sig:=D31.ok G0 Tryz.func199 trivial rfl rfl (by kernel_rfl)
noncomputable def D32:FD U:=⟨231,Tryz.f231,[],[.p (.int .u32),.p (.int .u32),.p (.int .u32)],[],[.p (.int .u32),.p (.int .u32)],[],[],Zst,Zst,
.j 9101 [0,1,2,15] [] [ZwX,ZwX,ZwX,qe8] [] ZqS <|
.nil⟩
theorem ZBs:Zeg X0.E 231 D32.sig:=D32.ok G0 Tryz.func231 trivial rfl rfl (by kernel_rfl)
noncomputable def D33:FD U:=⟨178,Tryz.f178,[],[.p (.sl (.int .u32))],[],[.p (.sl (.int .u32))],[],[],ZnW,ZnW,
.lo 9401 [0] [] [qe1] [] 0 [0] [] [qe1] [] ZoD Zta (fun n0=> .j 9105401 [0,14] [] [qe1,qe8] [] (ZrJ (ZoD n0)) <|
.nil) <|
.nil⟩
theorem ZwO:Zeg X0.E 178 D33.sig:=D33.ok G0 Tryz.func178 trivial rfl rfl (by kernel_rfl)
noncomputable def D34:FD U:=⟨200,Tryz.f200,[D32.sg,D33.sg],[.p (.sl (.int .u32)),.p (.int .u32)],[],[.p (.sl (.int .u32)),.p (.int .u32)],[],[],Zqi,Zqi,
.lo 9410111 [0,1,6,7,8] [] [qe1,ZwX,qe4,ZwX,qe0] [qo2] 0 [6,7] [] [qe4,ZwX] [qo2] ZqA Zr5 (fun _=> .nil) <|
.nil⟩
theorem ZBr:Zeg X0.E 200 D34.sig:=D34.ok G0 Tryz.func200 ⟨ZBs,ZwO,trivial⟩ rfl rfl (by kernel_rfl)
noncomputable def D35:FD U:=⟨148,Tryz.f148,[],[.p (.int .u32)],[],[.p (.int .i64)],[],[],Zsr,Zsr,
.j 911 [0,2] [] [ZwX,qe0] [] Zr9 <|
.j 9111 [0,2] [] [ZwX,qe0] [] Zp6 <|
.nil⟩
theorem ZBq:Zeg X0.E 148 D35.sig:=D35.ok G0 Tryz.func148 trivial rfl rfl (by kernel_rfl)
noncomputable def D36:FD U:=⟨201,Tryz.f201,[D35.sg],[.p (.int .u32)],[],[.p (.int .i64)],[],[],Zo2,Zo2,
.nil⟩
theorem ZBp:Zeg X0.E 201 D36.sig:=D36.ok G0 Tryz.func201 ⟨ZBq,trivial⟩ rfl rfl (by kernel_rfl)
noncomputable def D37:FD U:=⟨202,Tryz.f202,[],[.p (.sl (.int .u32)),.p (.int .i64)],[],[.own (.int .u32)],[],[],ZoB,ZoB,
.lo 941011 [1,5,13,14,15] [] [qe0,qe4,qe1,qe0,qe0] [qo2] 0 [5] [] [qe4] [qo2] ZpY Zrh (fun _=> .nil) <|
.nil⟩
theorem ZBo:Zeg X0.E 202 D37.sig:=D37.ok G0 Tryz.func202 trivial rfl rfl (by kernel_rfl)
noncomputable def D38:FD U:=⟨179,Tryz.f179,[],[.p (.int .u32),.p (.int .u32),.p (.int .u32)],[],[.p (.int .u32),.p (.int .u32)],[],[],Zqn,Zqn,
.nil⟩
theorem Zy3:Zeg X0.E 179 D38.sig:=D38.ok G0 Tryz.func179 trivial rfl rfl (by kernel_rfl)
noncomputable def D39:FD U:=⟨176,Tryz.f176,[],[.p (.int .u32),.p (.int .u32),.p (.int .u32)],[],[.p (.int .u32),.p (.int .u32)],[],[],Zq4,Zq4,
.nil⟩
theorem Zy2:Zeg X0.E 176 D39.sig:=D39.ok G0 Tryz.func176 trivial rfl rfl (by kernel_rfl)
noncomputable def D40:FD U:=⟨203,Tryz.f203,[D38.sg,D39.sg],[.part (.int .u32),.p (.sl (.int .u32))],[(0,.arr (.int .u32))],[.p (.int .u32)],[],[],ZtO,ZsT,
.lo 94011111 [0,1,5,7,8] [] [Zye,qe1,qe0,qe3,qe3] [qo2] 0 [0,1,5,7] [] [Zye,qe1,qe0,qe3] [qo2] Zqp ZsE (fun n0=> .j 91054011111 [0,1,5,7,8,71] [] [Zye,qe1,qe0,qe3,qe3,qe8] [qo2] (Zrm (Zqp n0)) <|
.nil) <|
.lo 941011111111 [0,1,5,7,9,10,82,83,84] [] [Zye,qe1,qe0,qe3,ZwX,qe3,qe1,qe0,qe0] [qo2] 2 [0,1,5,7,9,10] [] [Zye,qe1,qe0,qe3,ZwX,qe3] [qo2] ZsC ZtR (fun _=> .nil) <|
.lo 941011111111111 [0,5,7,13,130,131,132] [] [Zye,qe0,qe3,ZwX,qe1,qe0,qe0] [qo2] 4 [0,5,7,13] [] [Zye,qe0,qe3,ZwX] [qo2] Zrl ZsD (fun _=> .nil) <|
.nil⟩
theorem ZBm:Zeg X0.E 203 D40.sig:=D40.okA G0 Tryz.func203 ⟨Zy3,Zy2,trivial⟩ (by kernel_rfl) (by kernel_rfl)
noncomputable def D41:FD U:=⟨178,Tryz.f178,[],[.part (.int .u32)],[(0,.arr (.int .u32))],[.view 0],[],[],Zsc,Zrr,
.lo 9401 [0] [] [Zye] [qo2] 0 [0] [] [Zye] [qo2] Zp1 ZsB (fun n0=> .j 9105401 [0,14] [] [Zye,qe8] [qo2] (ZqX (Zp1 n0)) <|
.nil) <|
.nil⟩
theorem ZBl:Zeg X0.E 178 D41.sig:=D41.okA G0 Tryz.func178 trivial (by kernel_rfl) (by kernel_rfl)
noncomputable def D42:FD U:=⟨177,Tryz.f177,[],[.p (.sl (.int .u32)),.p (.int .i64)],[],[.p (.int .u32)],[],[],Zpw,Zpw,
.nil⟩
theorem Zy1:Zeg X0.E 177 D42.sig:=D42.ok G0 Tryz.func177 trivial rfl rfl (by kernel_rfl)
noncomputable def D43:FD U:=⟨177,Tryz.f177,[],[.part (.int .u32),.p (.int .i64)],[(0,.arr (.int .u32))],[.p (.int .u32)],[],[],Zs9,ZqV,
.nil⟩
theorem ZBk:Zeg X0.E 177 D43.sig:=D43.okA G0 Tryz.func177 trivial (by kernel_rfl) (by kernel_rfl)
noncomputable def D44:FD U:=⟨156,Tryz.f156,[D30.sg,D31.sg,D34.sg,D33.sg,D36.sg,D37.sg,D40.sg,D41.sg,D43.sg],[.p (.sl (.int .u32)),.p (.sl (.int .u32))],[],[.p (.sl (.int .u32)),.p (.sl (.int .u32))],[],[(84,7)],ZoW,ZoW,
.lo 9410111111 [8,9,10,11,12,13] [11] [qe0,qe0,qe4,qe1,ZxA,qe0] [qo2,qo2] 1 [8,9,10,12] [] [qe0,qe0,qe4,ZxA] [qo2,qo2] ZpC Zsw (fun _=> .nil) <|
.lo 941011111111 [9,12,14,86,87] [] [qe0,qe4,.o (.sl (0,2,1)),qe0,qe0] [qo2,qo2] 3 [12,14] [] [qe4,.o (.sl (0,2,1))] [qo2,qo2] ZpB Zsv (fun _=> .nil) <|
.nil⟩
theorem Zy0:Zeg X0.E 156 D44.sig:=D44.ok G0 Tryz.func156 ⟨Zx8,Zy4,ZBr,ZwO,ZBp,ZBo,ZBm,ZBl,ZBk,trivial⟩ rfl rfl (by kernel_rfl)
noncomputable def D45:FD U:=⟨110,Tryz.f110,[D44.sg],[.p (.sl (.int .u32)),.p (.sl (.int .u32))],[],[.p (.sl (.int .u32))],[],[],ZoZ,ZoZ,
.lo 9401 [0,1] [] [qe1,qe1] [] 0 [0] [] [qe1] [] Zon ZrC (fun _=> .nil) <|
.nil⟩
theorem ZyZ:Zeg X0.E 110 D45.sig:=D45.ok G0 Tryz.func110 ⟨Zy0,trivial⟩ rfl rfl (by kernel_rfl)
noncomputable def D46:FD U:=⟨72,Tryz.f72,[D25.sg,D45.sg,D30.sg],[.p (.st 1)],[],[.p .bool],[],[],ZrD,ZrD,
.j 911 [2] [] [qe8] [] Zqq <|
.nil⟩
theorem ZBj:Zeg X0.E 72 D46.sig:=D46.ok G0 Tryz.func72 ⟨Zy5,ZyZ,Zx8,trivial⟩ rfl rfl (by kernel_rfl)
noncomputable def D47:FD U:=⟨135,Tryz.f135,[D33.sg],[.p (.sl (.int .u32)),.p (.sl (.int .u32))],[],[.p (.sl (.int .u32))],[],[],ZoM,ZoM,
.lo 941011 [1,5,17,18,19] [] [qe1,qe4,qe1,qe0,qe0] [qo2] 0 [5] [] [qe4] [qo2] Zpn Zr3 (fun n0=> .lo 9410114011541011 [1,5,6,7,8,17,18,19,24,25,26] [] [qe1,qe4,qe0,ZwX,qe3,qe1,qe0,qe0,qe1,qe0,qe0] [qo2] 2 [1,5,6,8,17,18,19] [] [qe1,qe4,qe0,qe3,qe1,qe0,qe0] [qo2] Zqz (Zr4 (Zpn n0)) (fun _=> .nil) <|
.nil) <|
.nil⟩
theorem ZyY:Zeg X0.E 135 D47.sig:=D47.ok G0 Tryz.func135 ⟨ZwO,trivial⟩ rfl rfl (by kernel_rfl)
noncomputable def D48:FD U:=⟨132,Tryz.f132,[],[.p .bool,.p (.sl (.int .u32))],[],[.p (.st 0)],[],[],Zn2,Zn2,
.j 911 [4] [] [qe7] [qo25,qo2] Zsd <|
.nil⟩
theorem Zw9:Zeg X0.E 132 D48.sig:=D48.ok G0 Tryz.func132 trivial rfl rfl (by kernel_rfl)
noncomputable def D49:FD U:=⟨89,Tryz.f89,[D47.sg,D48.sg],[.p (.st 0),.p (.st 0)],[],[.p (.st 0)],[],[],Zo3,Zo3,
.nil⟩
theorem ZBi:Zeg X0.E 89 D49.sig:=D49.ok G0 Tryz.func89 ⟨ZyY,Zw9,trivial⟩ rfl rfl (by kernel_rfl)
noncomputable def D50:FD U:=⟨90,Tryz.f90,[],[.p (.st 0)],[],[.p (.st 0)],[],[],Zrk,Zrk,
.j 911 [2] [] [qe7] [Zzm] Zrs <|
.nil⟩
theorem ZBg:Zeg X0.E 90 D50.sig:=D50.ok G0 Tryz.func90 trivial rfl rfl (by kernel_rfl)
noncomputable def D51:FD U:=⟨133,Tryz.f133,[D42.sg,D39.sg,D33.sg],[.p (.sl (.int .u32)),.p (.sl (.int .u32))],[],[.p (.sl (.int .u32))],[],[],ZpA,ZpA,
.lo 9410111 [0,1,5,6,20,21] [] [qe1,qe1,qe4,ZwX,qe0,qe0] [qo2] 0 [5,6] [] [qe4,ZwX] [qo2] ZqH Zsu (fun _=> .nil) <|
.nil⟩
theorem ZyX:Zeg X0.E 133 D51.sig:=D51.ok G0 Tryz.func133 ⟨Zy1,Zy2,ZwO,trivial⟩ rfl rfl (by kernel_rfl)
noncomputable def D52:FD U:=⟨134,Tryz.f134,[D42.sg,D38.sg,D33.sg],[.p (.sl (.int .u32)),.p (.sl (.int .u32))],[],[.p (.sl (.int .u32))],[],[],Zpa,Zpa,
.lo 9410111 [0,1,5,6,12,13] [] [qe1,qe1,qe4,ZwX,qe0,qe0] [qo2] 0 [5] [] [qe4] [qo2] ZqB Zr6 (fun _=> .nil) <|
.nil⟩
theorem ZBf:Zeg X0.E 134 D52.sig:=D52.ok G0 Tryz.func134 ⟨Zy1,Zy3,ZwO,trivial⟩ rfl rfl (by kernel_rfl)
noncomputable def D53:FD U:=⟨88,Tryz.f88,[D51.sg,D48.sg,D30.sg,D52.sg],[.p (.st 0),.p (.st 0)],[],[.p (.st 0)],[],[],ZtN,ZtN,
.nil⟩
theorem ZBe:Zeg X0.E 88 D53.sig:=D53.ok G0 Tryz.func88 ⟨ZyX,Zw9,Zx8,ZBf,trivial⟩ rfl rfl (by kernel_rfl)
noncomputable def D54:FD U:=⟨56,Tryz.f56,[D46.sg,D49.sg,D50.sg,D53.sg],[.p (.st 1),.p (.st 1)],[],[.p (.int .i64)],[],[],ZpI,ZpI,
.j 9101 [2,3,13] [] [qe7,ZyD,qe8] [Zw2,Zw2] Ztq <|
.nil⟩
theorem Zw8:Zeg X0.E 56 D54.sig:=D54.ok G0 Tryz.func56 ⟨ZBj,ZBi,ZBg,ZBe,trivial⟩ rfl rfl (by kernel_rfl)
noncomputable def D55:FD U:=⟨57,Tryz.f57,[D54.sg],[.p (.sl (.st 1)),.p (.int .i64),.p (.st 1)],[],[.p (.int .i64)],[],[],Zsn,Zsn,
.lo 9401 [0,1,5] [] [qe5,qe0,qe7] [Zw2] 0 [1] [] [qe0] [] ZrF ZtZ (fun n0=> .j 9105401 [0,1,5,19] [] [qe5,qe0,qe7,qe8] [Zw2] (ZsS (ZrF n0)) <|
.nil) <|
.nil⟩
theorem ZBd:Zeg X0.E 57 D55.sig:=D55.ok G0 Tryz.func57 ⟨Zw8,trivial⟩ rfl rfl (by kernel_rfl)
noncomputable def D56:FD U:=⟨181,Tryz.f181,[D33.sg],[.p (.int .u64)],[],[.p (.sl (.int .u32))],[],[],Zp3,Zp3,
.nil⟩
theorem ZyW:Zeg X0.E 181 D56.sig:=D56.ok G0 Tryz.func181 ⟨ZwO,trivial⟩ rfl rfl (by kernel_rfl)
noncomputable def D57:FD U:=⟨137,Tryz.f137,[D56.sg,D48.sg],[.p (.int .i64)],[],[.p (.st 0)],[],[],ZqI,ZqI,
.nil⟩
theorem ZBc:Zeg X0.E 137 D57.sig:=D57.ok G0 Tryz.func137 ⟨ZyW,Zw9,trivial⟩ rfl rfl (by kernel_rfl)
noncomputable def D58:FD U:=⟨180,Tryz.f180,[D45.sg,D44.sg,D48.sg],[.p (.st 0),.p (.st 0)],[],[.p (.st 1)],[],[],Zp2,Zp2,
.nil⟩
theorem ZyV:Zeg X0.E 180 D58.sig:=D58.ok G0 Tryz.func180 ⟨ZyZ,Zy0,Zw9,trivial⟩ rfl rfl (by kernel_rfl)
noncomputable def D59:FD U:=⟨136,Tryz.f136,[D25.sg,D58.sg],[.p (.st 0),.p (.st 0)],[],[.p (.st 1),.p (.int .i64)],[],[],Zte,Zte,
.nil⟩
theorem ZBb:Zeg X0.E 136 D59.sig:=D59.ok G0 Tryz.func136 ⟨Zy5,ZyV,trivial⟩ rfl rfl (by kernel_rfl)
noncomputable def D60:FD U:=⟨91,Tryz.f91,[D57.sg,D59.sg],[.p (.int .i64),.p (.int .i64)],[],[.p (.st 1),.p (.int .i64)],[],[],Ztp,Ztp,
.nil⟩
theorem ZyU:Zeg X0.E 91 D60.sig:=D60.ok G0 Tryz.func91 ⟨ZBc,ZBb,trivial⟩ rfl rfl (by kernel_rfl)
noncomputable def D61:FD U:=⟨59,Tryz.f59,[D60.sg],[],[],[.p (.st 1)],[],[],ZuR,ZuR,
.nil⟩
theorem ZyT:Zeg X0.E 59 D61.sig:=D61.ok G0 Tryz.func59 ⟨ZyU,trivial⟩ rfl rfl (by kernel_rfl)
noncomputable def D62:FD U:=⟨58,Tryz.f58,[D60.sg,D61.sg],[.p (.int .i64),.p (.int .i64)],[],[.p (.st 1)],[],[],Zv4,Zv4,
.nil⟩
theorem ZBa:Zeg X0.E 58 D62.sig:=D62.ok G0 Tryz.func58 ⟨ZyU,ZyT,trivial⟩ rfl rfl (by kernel_rfl)
noncomputable def D63:FD U:=⟨26,Tryz.f26,[D54.sg,D55.sg,D62.sg],[.p (.sl (.st 1)),.p (.sl (.st 1))],[],[.p (.st 1),.p (.int .i64)],[],[],Zoe,Zoe,
.j 9101 [0,1,4,17] [] [qe5,qe5,qe7,qe8] qp1 Zrp <|
.lo 940111 [0,1,4,6,7,8] [] [qe5,qe5,qe7,qe0,qe0,qe0] qp1 0 [0,1,4,6] [] [qe5,qe5,qe7,qe0] qp1 Zo9 ZsM (fun n0=> .j 910540111 [0,1,4,6,7,8,28] [] [qe5,qe5,qe7,qe0,qe0,qe0,qe8] qp1 (Zro (Zo9 n0)) <|
.j 91141540111 [0,1,4,6,7,8,9] [] [qe5,qe5,qe7,qe0,qe0,qe0,ZyD] [qo16,Zw2,qo2,qo2] (Zqh (Zo9 n0)) <|
.nil) <|
.nil⟩
theorem ZyS:Zeg X0.E 26 D63.sig:=D63.ok G0 Tryz.func26 ⟨Zw8,ZBd,ZBa,trivial⟩ rfl rfl (by kernel_rfl)
noncomputable def D64:FD U:=⟨48,Tryz.f48,[],[.p (.st 0),.p (.st 0)],[],[.p .bool],[],[],ZoE,ZoE,
.j 9101 [2,3,20] [] [qe7,ZyD,qe8] [Zzm,Zzm] Zpp <|
.lr 941011 [3,22,23,24] [] [qe7,qe1,qe0,qe0] [Zzm] 0 [] [] [] [] Zpo ZqK (fun _=> .nil) <|
.nil⟩
theorem ZA9:Zeg X0.E 48 D64.sig:=D64.ok G0 Tryz.func48 trivial rfl rfl (by kernel_rfl)
noncomputable def D65:FD U:=⟨20,Tryz.f20,[D64.sg],[.p (.st 1),.p (.st 1)],[],[.p .bool],[],[],Zop,Zop,
.j 911 [4] [] [qe8] [] Zqa <|
.nil⟩
theorem ZyR:Zeg X0.E 20 D65.sig:=D65.ok G0 Tryz.func20 ⟨ZA9,trivial⟩ rfl rfl (by kernel_rfl)
noncomputable def D66:FD U:=⟨139,Tryz.f139,[],[],[],[.map (.int .i64) (.st 4)],[],[],ZuD,ZuD,
.nil⟩
theorem ZyQ:Zeg X0.E 139 D66.sig:=D66.ok G0 Tryz.func139 trivial rfl rfl (by kernel_rfl)
noncomputable def D68:FD U:=⟨182,Tryz.f182,[(214,Zuv.sig)],[.p .str],[],[.p .str],[],[],ZvX,ZvX,
.nil⟩
theorem ZA8:Zeg X0.E 182 D68.sig:=D68.ok G0 Tryz.func182 ⟨Zu5,trivial⟩ rfl rfl (by kernel_rfl)
noncomputable def D69:FD U:=⟨257,Tryz.f257,[],[.p .str,.p .str],[],[.p .bool],[],[],ZoQ,ZoQ,
.j 911 [4] [] [qe8] [] Zpv <|
.nil⟩
theorem ZyP:Zeg X0.E 257 D69.sig:=D69.ok G0 Tryz.func257 trivial rfl rfl (by kernel_rfl)
noncomputable def D70:FD U:=⟨243,Tryz.f243,[D69.sg],[.p .str,.p .str],[],[.p .str,.p .bool],[],[],Zp9,Zp9,
.nil⟩
theorem ZA7:Zeg X0.E 243 D70.sig:=D70.ok G0 Tryz.func243 ⟨ZyP,trivial⟩ rfl rfl (by kernel_rfl)
noncomputable def D71:FD U:=⟨218,Tryz.f218,[D70.sg],[.p .str,.p .str],[],[.p .str,.p .bool],[],[],ZtP,ZtP,
.nil⟩
theorem ZA6:Zeg X0.E 218 D71.sig:=D71.ok G0 Tryz.func218 ⟨ZA7,trivial⟩ rfl rfl (by kernel_rfl)
noncomputable def D72:FD U:=⟨244,Tryz.f244,[D69.sg],[.p .str,.p .str],[],[.p .str],[],[],ZpU,ZpU,
.nil⟩
theorem ZA5:Zeg X0.E 244 D72.sig:=D72.ok G0 Tryz.func244 ⟨ZyP,trivial⟩ rfl rfl (by kernel_rfl)
noncomputable def D73:FD U:=⟨219,Tryz.f219,[D72.sg],[.p .str,.p .str],[],[.p .str],[],[],Ztz,Ztz,
.nil⟩
theorem ZA4:Zeg X0.E 219 D73.sig:=D73.ok G0 Tryz.func219 ⟨ZA5,trivial⟩ rfl rfl (by kernel_rfl)
noncomputable def D75:FD U:=⟨256,Tryz.f256,[(275,Zrt.sig)],[.p .str,.p .str],[],[.p (.int .i64)],[],[],ZqU,ZqU,
.j 914011 [0,1,5,16] [] [Zxz,Zxz,qe0,qe8] [] Zqo <|
.nil⟩
theorem ZA3:Zeg X0.E 256 D75.sig:=D75.ok G0 Tryz.func256 ⟨ZtJ,trivial⟩ rfl rfl (by kernel_rfl)
noncomputable def D76:FD U:=⟨245,Tryz.f245,[D75.sg],[.p .str,.p .str],[],[.p .str,.p .str,.p .bool],[],[],Zry,Zry,
.nil⟩
theorem ZA2:Zeg X0.E 245 D76.sig:=D76.ok G0 Tryz.func245 ⟨ZA3,trivial⟩ rfl rfl (by kernel_rfl)
noncomputable def D77:FD U:=⟨220,Tryz.f220,[D76.sg],[.p .str,.p .str],[],[.p .str,.p .str,.p .bool],[],[],ZuK,ZuK,
.nil⟩
theorem ZyO:Zeg X0.E 220 D77.sig:=D77.ok G0 Tryz.func220 ⟨ZA2,trivial⟩ rfl rfl (by kernel_rfl)
noncomputable def D78:FD U:=⟨221,Tryz.f221,[(214,Zuv.sig)],[.p .str,.p (.int .i64)],[],[.p .bool],[],[],Zto,Zto,
.j 911 [4] [] [qe8] [] Zse <|
.nil⟩
theorem ZA1:Zeg X0.E 221 D78.sig:=D78.ok G0 Tryz.func221 ⟨Zu5,trivial⟩ rfl rfl (by kernel_rfl)
noncomputable def D79:FD U:=⟨187,Tryz.f187,[D71.sg,D73.sg,D77.sg,D78.sg,D31.sg,D47.sg,D56.sg,D51.sg,D48.sg,D58.sg],[.p .str],[],[.p (.st 1),.p .bool],[],[],ZsV,ZsV,
.j 9111 [2,4,5] [] [qe7,Zxz,qe8] qp1 Zth <|
.j 9101111 [2,5,6,7,39] [] [qe7,qe8,Zxz,Zxz,qe8] qp1 ZrM <|
.lo 941011111111 [2,5,7,9,10,11,47,48,49] [9,10] [qe7,qe8,Zxz,qe1,qe1,ZxA,.o (.full (0,3,1)),qe0,qe0] [qo17,qo2,.arr (.int .u8) false,qo2,qo2] 0 [2,5,7,9,10,11] [] [qe7,qe8,Zxz,qe1,qe1,ZxA] [qo16,qo2,qo2,qo2] Ztg Zuq (fun _=> .nil) <|
.lo 9410111111111 [2,5,9,10,11,63,64] [11] [qe7,qe8,qe1,qe1,qe1,qe0,qe0] qp1 2 [2,5,9,11] [] [qe7,qe8,qe1,qe1] qp1 Ztf Zup (fun _=> .nil) <|
.nil⟩
theorem ZyN:Zeg X0.E 187 D79.sig:=D79.ok G0 Tryz.func187 ⟨ZA6,ZA4,ZyO,ZA1,Zy4,ZyY,ZyW,ZyX,Zw9,ZyV,trivial⟩ rfl rfl (by kernel_rfl)
noncomputable def D82:FD U:=⟨224,Tryz.f224,[],[.p (.sl .str)],[],[.p .str],[],[],Zu0,Zu0,
.lr 941011 [3,6,7,8] [] [Zxz,.o (.v (.sl .str)),qe0,qe0] [] 0 [3] [] [Zxz] [] Zt4 Zu9 (fun _=> .nil) <|
.nil⟩
theorem ZA0:Zeg X0.E 224 D82.sig:=D82.ok G0 Tryz.func224 trivial rfl rfl (by kernel_rfl)
noncomputable def D83:FD U:=⟨188,Tryz.f188,[D79.sg,(222,ZuC.sig),D77.sg,(223,Zut.sig),D82.sg],[.p .str],[],[.p .str,.p .bool],[],[],ZuU,ZuU,
.j 9111111 [0,9] [] [Zxz,Zxz] [] ZtX <|
.j 910111111 [9,43] [] [Zxz,qe8] [] ZtW <|
.j 91111111 [9] [] [Zxz] [] ZtV <|
.nil⟩
theorem ZAZ:Zeg X0.E 188 D83.sig:=D83.ok G0 Tryz.func188 ⟨ZyN,Zvy,ZyO,Zvo,ZA0,trivial⟩ rfl rfl (by kernel_rfl)
noncomputable def D84:FD U:=⟨138,Tryz.f138,[D66.sg,D68.sg,D83.sg],[.p (.int .i64),.p .str],[],[.p .str,.p .bool],[],[(26,2)],Zuc,Zuc,
.nil⟩
theorem ZAY:Zeg X0.E 138 D84.sig:=D84.ok G0 Tryz.func138 ⟨ZyQ,ZA8,ZAZ,trivial⟩ rfl rfl (by kernel_rfl)
noncomputable def D85:FD U:=⟨92,Tryz.f92,[D84.sg,D66.sg,D79.sg],[.p (.int .i64),.p .str],[],[.p (.st 1),.p .bool],[],[(22,2)],Zvr,Zvr,
.nil⟩
theorem ZAX:Zeg X0.E 92 D85.sig:=D85.ok G0 Tryz.func92 ⟨ZAY,ZyQ,ZyN,trivial⟩ rfl rfl (by kernel_rfl)
noncomputable def D86:FD U:=⟨60,Tryz.f60,[D61.sg,D85.sg],[.p (.st 2)],[],[.p (.st 1),.p .bool],[],[],ZtQ,ZtQ,
.nil⟩
theorem ZAW:Zeg X0.E 60 D86.sig:=D86.ok G0 Tryz.func60 ⟨ZyT,ZAX,trivial⟩ rfl rfl (by kernel_rfl)
noncomputable def D87:FD U:=⟨94,Tryz.f94,[D19.sg],[.p (.int .u64)],[],[.p (.int .i64)],[],[],ZuW,ZuW,
.nil⟩
theorem ZAV:Zeg X0.E 94 D87.sig:=D87.ok G0 Tryz.func94 ⟨Zy7,trivial⟩ rfl rfl (by kernel_rfl)
noncomputable def D88:FD U:=⟨140,Tryz.f140,[D54.sg],[.arr (.st 1),.p (.int .i64),.p (.int .i64),.fn 56 [] []],[(0,.arr (.st 1))],[],[],[],Zp7,ZpH,
.lo 941 [0,1,2,3,8] [] [Zz7,qe0,qe0,Zzn,qe0] [qo9] 0 [] [] [] [qo9] Zn1 Zpy (fun n0=> .lo 941401541 [0,1,2,3,8,9] [] [Zz7,qe0,qe0,Zzn,qe0,qe0] [qo9] 2 [0,1,2,3,8] [] [Zz7,qe0,qe0,Zzn,qe0] [qo9] Zn0 (Zpz (Zn1 n0)) (fun n1=> .j 910541401541 [0,1,2,3,8,9,34] [] [Zz7,qe0,qe0,Zzn,qe0,qe0,qe8] [qo9] (Zoz (Zn0 n1)) <|
.nil) <|
.nil) <|
.nil⟩
theorem ZAU:Zeg X0.E 140 D88.sig:=D88.okA G0 Tryz.func140 ⟨Zw8,trivial⟩ (by kernel_rfl) (by kernel_rfl)
noncomputable def D89:FD U:=⟨93,Tryz.f93,[D88.sg],[.arr (.st 1),.p (.int .i64),.p (.int .i64),.p (.int .i64),.fn 56 [] []],[(0,.arr (.st 1))],[],[],[],Zq3,ZqG,
.lz 9411 [0,1,2,3,4,10,11] [] [Zz7,qe0,qe0,qe0,Zzn,qe8,qe8] [qo9] ZoV (fun _=> .nil) <|
.nil⟩
theorem ZAT:Zeg X0.E 93 D89.sig:=D89.okA G0 Tryz.func93 ⟨ZAU,trivial⟩ (by kernel_rfl) (by kernel_rfl)
noncomputable def D90:FD U:=⟨61,Tryz.f61,[D87.sg,D89.sg],[.arr (.st 1),.fn 56 [] []],[(0,.arr (.st 1))],[],[],[],ZpT,ZoA,
.nil⟩
theorem ZAR:Zeg X0.E 61 D90.sig:=D90.okA G0 Tryz.func61 ⟨ZAV,ZAT,trivial⟩ (by kernel_rfl) (by kernel_rfl)
noncomputable def D91:FD U:=⟨29,Tryz.f29,[D86.sg,D90.sg],[.p (.st 3)],[],[.own (.st 1)],[],[],ZrI,ZrI,
.lo 941011 [3,9,10,11] [] [qe4,.o (.v (.sl (.st 2))),qe0,qe0] [qo9] 0 [3] [] [qe4] [qo9] ZqE Zs4 (fun n0=> .j 9111541011 [3,9,10,11] [] [qe4,.o (.v (.sl (.st 2))),qe0,qe0] [qo9] (ZrH (ZqE n0)) <|
.nil) <|
.nil⟩
theorem ZAQ:Zeg X0.E 29 D91.sig:=D91.ok G0 Tryz.func29 ⟨ZAW,ZAR,trivial⟩ rfl rfl (by kernel_rfl)
noncomputable def D92:FD U:=⟨21,Tryz.f21,[D16.sg,D23.sg,D63.sg,D65.sg,D15.sg,D91.sg],[],[],[.p .bool],[],[],Zoy,Zoy,
.j 911111 [0] [] [qe8] [] Zod <|
.nil⟩
theorem ZAP:Zeg X0.E 21 D92.sig:=D92.ok G0 Tryz.func21 ⟨Zya,Zy6,ZyS,ZyR,Zyb,ZAQ,trivial⟩ rfl rfl (by kernel_rfl)
noncomputable def D93:FD U:=⟨11,Tryz.f11,[],[.p (.sl (.int .i64))],[],[.box (.st 5)],[],[],ZrE,ZrE,
.nil⟩
theorem ZAO:Zeg X0.E 11 D93.sig:=D93.ok G0 Tryz.func11 trivial rfl rfl (by kernel_rfl)
noncomputable def D94:FD U:=⟨14,Tryz.f14,[],[.p (.int .i64),.p (.int .i64)],[],[.p (.int .i64)],[],[],Zp4,Zp4,
.nil⟩
theorem ZyM:Zeg X0.E 14 D94.sig:=D94.ok G0 Tryz.func14 trivial rfl rfl (by kernel_rfl)
noncomputable def D95:FD U:=⟨12,Tryz.f12,[D94.sg],[.box (.st 5),.p (.int .i64)],[(0,.box (.st 5))],[.p (.int .i64)],[],[],Zom,Zom,
.nil⟩
theorem ZyL:Zeg X0.E 12 D95.sig:=D95.ok G0 Tryz.func12 ⟨ZyM,trivial⟩ rfl rfl (by kernel_rfl)
noncomputable def D96:FD U:=⟨50,Tryz.f50,[D95.sg,D15.sg],[.box (.st 5)],[(0,.box (.st 5))],[.p (.st 1)],[],[],Zpm,Zpm,
.nil⟩
theorem ZAN:Zeg X0.E 50 D96.sig:=D96.ok G0 Tryz.func50 ⟨ZyL,Zyb,trivial⟩ rfl rfl (by kernel_rfl)
noncomputable def D97:FD U:=⟨68,Tryz.f68,[D4.sg,D6.sg,D9.sg],[.p (.st 1)],[],[.p .bool],[],[],ZoP,ZoP,
.j 9101 [1,24] [] [qe7,qe8] [Zw2] Zox <|
.nil⟩
theorem ZAM:Zeg X0.E 68 D97.sig:=D97.ok G0 Tryz.func68 ⟨ZBh,ZyA,ZAJ,trivial⟩ rfl rfl (by kernel_rfl)
noncomputable def D98:FD U:=⟨108,Tryz.f108,[D1.sg],[.p (.sl (.int .u32)),.p (.sl (.int .u32))],[],[.p (.sl (.int .u32))],[],[],Zqf,Zqf,
.lo 941011 [0,1,5,6] [] [qe1,qe1,qe4,qe0] [qo2] 0 [5] [] [qe4] [qo2] Zpd ZrR (fun n0=> .lo 94101401541011 [0,1,5,6,7,8] [] [qe1,qe1,qe4,qe0,qe3,qe0] [qo2] 2 [0,1,5,6,7] [] [qe1,qe1,qe4,qe0,qe3] [qo2] Zqt (ZrS (Zpd n0)) (fun _=> .nil) <|
.nil) <|
.nil⟩
theorem ZAL:Zeg X0.E 108 D98.sig:=D98.ok G0 Tryz.func108 ⟨ZxH,trivial⟩ rfl rfl (by kernel_rfl)
noncomputable def D99:FD U:=⟨70,Tryz.f70,[D98.sg,D2.sg],[.p (.st 0),.p (.st 0)],[],[.p (.st 0)],[],[],Zof,Zof,
.nil⟩
theorem ZAK:Zeg X0.E 70 D99.sig:=D99.ok G0 Tryz.func70 ⟨ZAL,Zx9,trivial⟩ rfl rfl (by kernel_rfl)
noncomputable def ZCg:FD U:=⟨71,Tryz.f71,[D2.sg],[.p (.st 0)],[],[.p (.st 0)],[],[],Zpx,Zpx,
.nil⟩
theorem ZzR:Zeg X0.E 71 ZCg.sig:=ZCg.ok G0 Tryz.func71 ⟨Zx9,trivial⟩ rfl rfl (by kernel_rfl)
noncomputable def ZCf:FD U:=⟨106,Tryz.f106,[],[.p (.sl (.int .u32)),.p (.sl (.int .u32))],[],[.own (.int .u32)],[],[],Zo7,Zo7,
.lo 9410111 [0,1,5,6,7] [] qs6 [qo2] 0 [5,6] [] [qe4,qe3] [qo2] Zot Zr0 (fun n0=> .j 9105410111 [0,1,5,6,7,17] [] [qe1,qe1,qe4,qe3,qe0,qe8] [qo2] (ZoL (Zot n0)) <|
.j 914015410111 [0,1,5,6,7] [] qs6 [qo2] (Zpi (Zot n0)) <|
.j 9114015410111 [0,1,5,6,7] [] qs6 [qo2] (Zph (Zot n0)) <|
.nil) <|
.nil⟩
theorem ZzQ:Zeg X0.E 106 ZCf.sig:=ZCf.ok G0 Tryz.func106 trivial rfl rfl (by kernel_rfl)
noncomputable def ZCe:FD U:=⟨69,Tryz.f69,[ZCf.sg,D2.sg,D6.sg,D7.sg],[.p (.st 0),.p (.st 0)],[],[.p (.st 0)],[],[],ZpR,ZpR,
.nil⟩
theorem ZzP:Zeg X0.E 69 ZCe.sig:=ZCe.ok G0 Tryz.func69 ⟨ZzQ,Zx9,ZyA,ZzK,trivial⟩ rfl rfl (by kernel_rfl)
noncomputable def ZBL:FD U:=⟨37,Tryz.f37,[D97.sg,D99.sg,ZCg.sg,ZCe.sg],[.p (.st 1),.p (.st 1)],[],[.p (.int .i64)],[],[],Zo8,Zo8,
.j 9101 [2,3,13] [] [qe7,ZyD,qe8] [Zw2,Zw2] Zqy <|
.nil⟩
theorem Zyd:Zeg X0.E 37 ZBL.sig:=ZBL.ok G0 Tryz.func37 ⟨ZAM,ZAK,ZzR,ZzP,trivial⟩ rfl rfl (by kernel_rfl)
noncomputable def ZBK:FD U:=⟨35,Tryz.f35,[ZBL.sg],[.p (.st 1),.p (.st 1)],[],[.p .bool],[],[],Zor,Zor,
.nil⟩
theorem Zyc:Zeg X0.E 35 ZBK.sig:=ZBK.ok G0 Tryz.func35 ⟨Zyd,trivial⟩ rfl rfl (by kernel_rfl)
noncomputable def ZCd:FD U:=⟨22,Tryz.f22,[D95.sg,D96.sg,ZBK.sg],[.box (.st 5),.p (.int .i64)],[(0,.box (.st 5))],[.own (.st 1)],[],[],ZoF,ZoF,
.lo 941011 [0,5,6] [] [ZBI,qe4,qe0] [Zz5,qo9] 0 [5] [] [qe4] [Zz5,qo9] ZoG ZqM (fun n0=> .lo 94011401541011 [0,5,6,7,8] [] [ZBI,qe4,qe0,ZyD,qe0] [Zz5,qo9,Zw2] 2 [0,5,6,7,8] [] [ZBI,qe4,qe0,ZyD,qe0] [Zz5,qo9,Zw2] Zoo (ZqN (ZoG n0)) (fun n1=> .j 91054011401541011 [0,5,6,7,8,31] [] [ZBI,qe4,qe0,ZyD,qe0,qe8] [Zz5,qo9,Zw2] (Zps (Zoo n1)) <|
.nil) <|
.nil) <|
.nil⟩
theorem ZzO:Zeg X0.E 22 ZCd.sig:=ZCd.ok G0 Tryz.func22 ⟨ZyL,ZAN,Zyc,trivial⟩ rfl rfl (by kernel_rfl)
noncomputable def ZCc:FD U:=⟨67,Tryz.f67,[D54.sg],[.p (.sl (.st 1)),.p (.st 1),.fn 56 [] []],[],[.p (.int .i64),.p .bool],[],[],ZnJ,ZnJ,
.lo 940111 [0,2,4,8,9,10] [] [qe5,Zzn,qe7,qe0,qe0,qe0] [Zw2] 0 [0,2,4,8,9] [] [qe5,Zzn,qe7,qe0,qe0] [Zw2] ZnK ZnS (fun _=> .nil) <|
.j 911111 [6,7] [] [qe0,qe8] [] ZnL <|
.nil⟩
theorem ZzN:Zeg X0.E 67 ZCc.sig:=ZCc.ok G0 Tryz.func67 ⟨Zw8,trivial⟩ rfl rfl (by kernel_rfl)
noncomputable def ZCb:FD U:=⟨33,Tryz.f33,[D54.sg,ZCc.sg],[.p (.sl (.st 1)),.p (.sl (.st 1))],[],[.own (.int .i64),.p (.int .i64)],[],[],Zsp,Zsp,
.lr 941011 [0,1,6] [] [qe5,qe5,qe0] [] 0 [0,1] [] [qe5,qe5] [] Zp5 ZtC (fun _=> .nil) <|
.lo 94101111 [1,7,36,37,38] [] [qe5,qe4,qe5,qe0,qe0] [Zz6] 2 [7] [] [qe4] [Zz6] ZqQ ZtB (fun n0=> .j 9111401154101111 [1,7,10,36,37,38] [] [qe5,qe4,qe0,qe5,qe0,qe0] [Zz6] (ZqR (ZqQ n0)) <|
.nil) <|
.nil⟩
theorem ZzM:Zeg X0.E 33 ZCb.sig:=ZCb.ok G0 Tryz.func33 ⟨Zw8,ZzN,trivial⟩ rfl rfl (by kernel_rfl)
noncomputable def ZCa:FD U:=⟨36,Tryz.f36,[D16.sg],[],[],[.p (.st 1)],[],[],ZpJ,ZpJ,
.nil⟩
theorem ZzL:Zeg X0.E 36 ZCa.sig:=ZCa.ok G0 Tryz.func36 ⟨Zya,trivial⟩ rfl rfl (by kernel_rfl)
noncomputable def D109:FD U:=⟨8,Tryz.f8,[D0.sg,D92.sg,D93.sg,ZCd.sg,D16.sg,D94.sg,D23.sg,ZBK.sg,ZCb.sg,D63.sg,D65.sg,ZCa.sg,ZBL.sg],[.p (.sl (.int .i64)),.p (.int .i64)],[],[.p .bool],[],[],ZoY,ZoY,
.lr 9410111111 [6,7,8,9,10,11] [6,100010] [qe5,qe4,ZxA,qe0,ZzS,qe0] [qo9,qo9,Zw2] 0 [6,7,8] [] [qe5,qe4,ZxA] [qo9,qo9] ZnM ZpF (fun n0=> .j 9105410111111 [6,7,8,9,10,11,52] [] [qe5,qe4,ZxA,qe0,ZzS,qe0,qe8] [qo9,qo9,Zw2] (ZoI (ZnM n0)) <|
.lo 9410114015410111111 [6,7,8,9,10,11,12,13,14,62,63,64] [] qs2 qp5 2 [6,7,8,9,10,11,12,13,14] [] [qe5,qe4,ZxA,qe0,ZzS,qe0,ZBU,qe0,qe0] qp5 ZnX (ZpG (ZnM n0)) (fun n1=> .j 91115410114015410111111 [6,7,8,9,10,11,12,13,14,62,63,64] [] qs2 qp5 (ZoH (ZnX n1)) <|
.nil) <|
.j 9101114015410111111 [6,7,8,9,10,11,12,95] [100010] [qe5,qe4,ZxA,qe0,ZzS,qe0,ZBU,qe8] qp5 (ZnT (ZnM n0)) <|
.nil) <|
.lo 9410111111111 [6,7,17,18,19,103,104,105] [] [qe5,qe4,ZxA,qe0,qe0,ZxA,qe0,qe0] [qo9,Zz6] 4 [6,7,17,18,19] [] [qe5,qe4,ZxA,qe0,qe0] [qo9,Zz6] Zoh ZpE (fun _=> .nil) <|
.j 9101111111111 [6,7,125] [] [qe5,qe4,qe8] [qo9] Zoj <|
.j 91011111111111 [6,7,133] [] [qe5,qe4,qe8] [qo9] Zoi <|
.j 91111111111111111 [4] [] [qe8] [] ZnN <|
.nil⟩
theorem D109_ok:Zeg X0.E 8 D109.sig:=D109.ok G0 Tryz.func8 ⟨ZCh,ZAP,ZAO,ZzO,Zya,ZyM,Zy6,Zyc,ZzM,ZyS,ZyR,ZzL,Zyd,trivial⟩ rfl rfl (by kernel_rfl)
end
end Go.Proofs

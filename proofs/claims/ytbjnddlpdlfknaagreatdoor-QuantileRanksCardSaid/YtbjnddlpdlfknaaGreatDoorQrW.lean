/- Printed by wip/tools/tgen.py: walks. -/
import Derived.Test.YtbjnddlpdlfknaaGreatDoorQrU
import Derived.Test.YtbjnddlpdlfknaaGreatDoorQrX
set_option linter.unusedVariables false
set_option linter.unusedSimpArgs false
set_option linter.unusedSectionVars false
namespace Go.Proofs
open Go Eng
set_option maxRecDepth 100000
noncomputable section
abbrev qe0:Sh:= .o (.v (.int .i64))
abbrev qe1:Sh:= .o (.v (.sl (.int .u32)))
abbrev qo2:ShO:= .arr (.int .u32) false
abbrev qe3:Sh:= .o (.v (.int .u64))
abbrev qe4:Sh:= .o (.full (0,1,1))
abbrev qe5:Sh:= .o (.v (.sl (.st 1)))
abbrev qo6:ShO:= .box [.o (.v .bool),.o (.full (0,2,1)),.o (.v .bool),.o (.full (0,3,1))]
abbrev qe7:Sh:= .o (.ptr (0,1,1) 0 0)
abbrev qe8:Sh:= .o (.v .bool)
abbrev qe9:Sh:= .o (.v (.int .u32))
abbrev ZxA:ShO:= .arr (.st 1) false
abbrev Zyj:ShO:= .arr (.int .i64) false
abbrev Zy8:Sh:= .o (.ptr (0,2,1) 0 0)
abbrev ZxV:ShO:= .boxS (.st 1)
abbrev Zy7:Sh:= .o (.sl (0,0,0))
abbrev ZzE:Sh:= .o (.full (0,2,1))
abbrev qo16:ShO:= .box [.o (.v .bool),.o (.full (0,3,1)),.o (.v .bool),.o (.full (0,4,1))]
abbrev qo17:ShO:= .box [.o (.v .bool),.o (.full (0,4,1)),.o (.v .bool),.o (.full (0,5,1))]
abbrev Zyk:Sh:= .o (.v .str)
abbrev ZA7:Sh:= .o (.full (0,0,0))
abbrev ZCM:Sh:= .o (.ptr (0,0,0) 0 0)
abbrev ZAk:ShO:= .boxS (.st 0)
abbrev ZAl:Sh:= .fn 56 [] []
abbrev qo23:ShO:= .box [.o (.v .bool),.o (.full (0,2,1))]
abbrev ZA6:ShO:= .boxS (.st 5)
abbrev qp0:List ShO:=[qo6,qo2,qo2]
abbrev qs1:List Sh:=[qe1,qe1,qe0]
abbrev qs2:List Sh:=[qe3,qe3,qe3,qe3,qe3,qe3,qe3,qe3,qe3,qe8]
abbrev qs3:List Sh:=[qe3,qe3,qe3,qe3,qe3,qe3,qe3,qe3,qe3]
abbrev qs4:List Sh:=[qe1,qe1,qe4,qe3,qe0]
noncomputable def D0:FD U:=⟨9,Tryz.f9,[],[.p (.sl (.int .i64))],[],[.p .bool],[],[],ZrM,ZrM,
.nil⟩
theorem ZDl:Zeg X0.E 9 D0.sig:=D0.ok G0 Tryz.func9 trivial rfl rfl (by kernel_rfl)
noncomputable def D1:FD U:=⟨154,Tryz.f154,[],[.p (.sl (.int .u32))],[],[.p (.sl (.int .u32))],[],[],ZnU,ZnU,
.lo 9401 [0] [] [qe1] [] 0 [0] [] [qe1] [] Zoo Zt3 (fun n0=> .j 9105401 [0,14] [] [qe1,qe8] [] (ZrV (Zoo n0)) <|
.nil) <|
.nil⟩
theorem Zyt:Zeg X0.E 154 D1.sig:=D1.ok G0 Tryz.func154 trivial rfl rfl (by kernel_rfl)
noncomputable def D2:FD U:=⟨105,Tryz.f105,[D1.sg],[.p .bool,.p (.sl (.int .u32))],[],[.p (.st 0)],[],[],ZnO,ZnO,
.j 9111 [4] [] [qe7] [ZAk] ZqP <|
.nil⟩
theorem Zy4:Zeg X0.E 105 D2.sig:=D2.ok G0 Tryz.func105 ⟨Zyt,trivial⟩ rfl rfl (by kernel_rfl)
noncomputable def D3:FD U:=⟨126,Tryz.f126,[D2.sg],[.p (.int .i64)],[],[.p (.st 0)],[],[],Zop,Zop,
.j 9111 [0,2,3] [] [qe0,qe7,qe3] [qo23,qo2] ZpG <|
.nil⟩
theorem ZCr:Zeg X0.E 126 D3.sig:=D3.ok G0 Tryz.func126 ⟨Zy4,trivial⟩ rfl rfl (by kernel_rfl)
noncomputable def D4:FD U:=⟨102,Tryz.f102,[],[.p (.st 0)],[],[.p .bool],[],[],Zoe,Zoe,
.j 9111 [2] [] [qe8] [] ZnZ <|
.nil⟩
theorem ZCl:Zeg X0.E 102 D4.sig:=D4.ok G0 Tryz.func102 trivial rfl rfl (by kernel_rfl)
noncomputable def D5:FD U:=⟨152,Tryz.f152,[D1.sg],[.p (.sl (.int .u32))],[],[.p (.sl (.int .u32))],[],[],Zot,Zot,
.lo 941011 [0,3,9,10] [] [qe1,qe4,qe0,qe0] [qo2] 0 [3] [] [qe4] [qo2] Zpa ZrW (fun n0=> .j 9111541011 [0,3,9,10] [] [qe1,qe4,qe0,qe0] [qo2] (Zpb (Zpa n0)) <|
.nil) <|
.nil⟩
theorem ZDc:Zeg X0.E 152 D5.sig:=D5.ok G0 Tryz.func152 ⟨Zyt,trivial⟩ rfl rfl (by kernel_rfl)
noncomputable def D6:FD U:=⟨103,Tryz.f103,[],[.p (.sl (.int .u32)),.p (.sl (.int .u32))],[],[.p (.int .i64)],[],[],Zn4,Zn4,
.lr 941011 [0,1,5] [] qs1 [] 0 [] [] [] [] ZqO Zsn (fun _=> .nil) <|
.nil⟩
theorem ZzB:Zeg X0.E 103 D6.sig:=D6.ok G0 Tryz.func103 trivial rfl rfl (by kernel_rfl)
noncomputable def D7:FD U:=⟨107,Tryz.f107,[D1.sg],[.p (.sl (.int .u32)),.p (.sl (.int .u32))],[],[.p (.sl (.int .u32))],[],[],Zox,Zox,
.lo 9410111 [0,1,5,6,7] [] [qe1,qe1,qe4,qe0,qe0] [qo2] 0 [5] [] [qe4] [qo2] Zpt Zse (fun n0=> .j 9114015410111 [0,1,5,6,7] [] [qe1,qe1,qe4,qe0,qe0] [qo2] (Zpu (Zpt n0)) <|
.nil) <|
.nil⟩
theorem ZAI:Zeg X0.E 107 D7.sig:=D7.ok G0 Tryz.func107 ⟨Zyt,trivial⟩ rfl rfl (by kernel_rfl)
noncomputable def D8:FD U:=⟨153,Tryz.f153,[D1.sg],[.p (.sl (.int .u32)),.p (.int .u32)],[],[.p (.sl (.int .u32))],[],[],ZoX,ZoX,
.lo 941011 [0,1,5,6] [] [qe1,qe9,qe4,qe0] [qo2] 0 [1,5] [] [qe9,qe4] [qo2] ZpZ Zru (fun _=> .nil) <|
.nil⟩
theorem ZBV:Zeg X0.E 153 D8.sig:=D8.ok G0 Tryz.func153 ⟨Zyt,trivial⟩ rfl rfl (by kernel_rfl)
noncomputable def D9:FD U:=⟨104,Tryz.f104,[D5.sg,D6.sg,D7.sg,D8.sg],[.p (.sl (.int .u32)),.p (.sl (.int .u32))],[],[.p (.sl (.int .u32))],[],[],Zpn,Zpn,
.lo 94011 [0,1,5] [] qs1 [] 0 [0,1,5] [] qs1 [] ZoQ Zsl (fun n0=> .j 91054011 [0,1,5,17] [] [qe1,qe1,qe0,qe8] [] (ZqN (ZoQ n0)) <|
.nil) <|
.lo 940111 [0,1,5] [] qs1 [] 2 [0,5] [] [qe1,qe0] [] ZnP Zsi (fun n0=> .lo 94041540111 [0,1,5] [] qs1 [] 4 [0,1,5] [] qs1 [] Zn9 (Zsk (ZnP n0)) (fun _=> .nil) <|
.lo 940141540111 [0,1,5] [] qs1 [] 6 [0,1,5] [] qs1 [] Zn8 (Zsj (ZnP n0)) (fun _=> .nil) <|
.j 911141540111 [0,1,5] [] qs1 [] (ZqM (ZnP n0)) <|
.nil) <|
.lo 9401111 [0,5] [] [qe1,qe0] [] 8 [0] [] [qe1] [] ZoP Zsh (fun _=> .nil) <|
.nil⟩
theorem ZBM:Zeg X0.E 104 D9.sig:=D9.ok G0 Tryz.func104 ⟨ZDc,ZzB,ZAI,ZBV,trivial⟩ rfl rfl (by kernel_rfl)
noncomputable def D10:FD U:=⟨213,Tryz.f213,[],[.p (.sl (.int .u32)),.p (.int .i64)],[],[.p (.int .u32)],[],[],Zqx,Zqx,
.nil⟩
theorem ZCK:Zeg X0.E 213 D10.sig:=D10.ok G0 Tryz.func213 trivial rfl rfl (by kernel_rfl)
noncomputable def D11:FD U:=⟨174,Tryz.f174,[D10.sg,D8.sg,D6.sg,D7.sg,D1.sg],[.p (.sl (.int .u32)),.p (.sl (.int .u32))],[],[.p (.sl (.int .u32)),.p (.sl (.int .u32))],[],[],Zpo,Zpo,
.lo 941011 [0,1,4,5,6] [5] [qe1,qe1,qe4,qe1,qe0] [qo2] 0 [4,5] [] [qe4,qe1] [qo2] Zpx Zsm (fun n0=> .j 911541011 [0,1,4,5,6] [] [qe1,qe1,qe4,qe1,qe0] [qo2] (Zpy (Zpx n0)) <|
.nil) <|
.nil⟩
theorem ZCJ:Zeg X0.E 174 D11.sig:=D11.ok G0 Tryz.func174 ⟨ZCK,ZBV,ZzB,ZAI,Zyt,trivial⟩ rfl rfl (by kernel_rfl)
noncomputable def D12:FD U:=⟨127,Tryz.f127,[D3.sg,D9.sg,D11.sg,D2.sg],[.p (.st 0),.p (.st 0)],[],[.p (.st 1)],[],[],Zpw,Zpw,
.nil⟩
theorem ZCI:Zeg X0.E 127 D12.sig:=D12.ok G0 Tryz.func127 ⟨ZCr,ZBM,ZCJ,Zy4,trivial⟩ rfl rfl (by kernel_rfl)
noncomputable def D13:FD U:=⟨128,Tryz.f128,[D4.sg,D12.sg],[.p (.st 0),.p (.st 0)],[],[.p (.st 1),.p (.int .i64)],[],[],Zp7,Zp7,
.j 9101 [2,3,4,13] [] [qe7,Zy8,.o (.ptr (0,3,1) 0 0),qe8] [ZAk,ZAk,qo17,qo2,qo2] Zqr <|
.nil⟩
theorem ZCH:Zeg X0.E 128 D13.sig:=D13.ok G0 Tryz.func128 ⟨ZCl,ZCI,trivial⟩ rfl rfl (by kernel_rfl)
noncomputable def D14:FD U:=⟨81,Tryz.f81,[D3.sg,D13.sg],[.p (.int .i64),.p (.int .i64)],[],[.p (.st 1),.p (.int .i64)],[],[],ZqX,ZqX,
.nil⟩
theorem ZCG:Zeg X0.E 81 D14.sig:=D14.ok G0 Tryz.func81 ⟨ZCr,ZCH,trivial⟩ rfl rfl (by kernel_rfl)
noncomputable def D15:FD U:=⟨49,Tryz.f49,[D14.sg],[.p (.int .i64),.p (.int .i64)],[],[.p (.st 1)],[],[],ZnY,ZnY,
.nil⟩
theorem Zyd:Zeg X0.E 49 D15.sig:=D15.ok G0 Tryz.func49 ⟨ZCG,trivial⟩ rfl rfl (by kernel_rfl)
noncomputable def D16:FD U:=⟨23,Tryz.f23,[D15.sg],[.p (.int .i64)],[],[.p (.st 1)],[],[],ZnM,ZnM,
.nil⟩
theorem Zz8:Zeg X0.E 23 D16.sig:=D16.ok G0 Tryz.func23 ⟨Zyd,trivial⟩ rfl rfl (by kernel_rfl)
noncomputable def D17:FD U:=⟨52,Tryz.f52,[],[.p (.int .u64),.p (.int .u64)],[],[.p (.int .u64),.p (.int .u64)],[],[],ZqF,ZqF,
.nil⟩
theorem ZCF:Zeg X0.E 52 D17.sig:=D17.ok G0 Tryz.func52 trivial rfl rfl (by kernel_rfl)
noncomputable def D19:FD U:=⟨131,Tryz.f131,[],[.p (.int .u64)],[],[.p (.int .i64)],[],[],Zrs,Zrs,
.j 911 [0,2] [] [qe3,qe0] [] Zsx <|
.j 9111 [0,2] [] [qe3,qe0] [] Zsw <|
.j 91111 [0,2] [] [qe3,qe0] [] Zrg <|
.nil⟩
theorem Zz7:Zeg X0.E 131 D19.sig:=D19.ok G0 Tryz.func131 trivial rfl rfl (by kernel_rfl)
noncomputable def D20:FD U:=⟨87,Tryz.f87,[D19.sg],[.p (.int .u64)],[],[.p (.int .i64)],[],[],Zpc,Zpc,
.nil⟩
theorem ZCE:Zeg X0.E 87 D20.sig:=D20.ok G0 Tryz.func87 ⟨Zz7,trivial⟩ rfl rfl (by kernel_rfl)
noncomputable def D21:FD U:=⟨54,Tryz.f54,[D20.sg],[.p (.int .u64),.p (.int .u64),.p (.int .u64)],[],[.p (.int .u64),.p (.int .u64)],[],[],ZoT,ZoT,
.lo 94011111111111111 [2,8,9,10,11,13,14,15,16] [] qs3 [] 0 [2,8,9,10,11,13,14,15] [] [qe3,qe3,qe3,qe3,qe3,qe3,qe3,qe3] [] Zql Zsz (fun n0=> .j 91054011111111111111 [2,8,9,10,11,13,14,15,16,78] [] qs2 [] (ZsB (Zql n0)) <|
.nil) <|
.lo 940111111111111111111 [2,8,9,10,14,15,16,17,18] [] qs3 [] 2 [2,8,14,15,17,18] [] [qe3,qe3,qe3,qe3,qe3,qe3] [] Zqk Zub (fun n0=> .j 910540111111111111111111 [2,8,9,10,14,15,16,17,18,113] [] qs2 [] (ZsA (Zqk n0)) <|
.nil) <|
.nil⟩
theorem ZCD:Zeg X0.E 54 D21.sig:=D21.ok G0 Tryz.func54 ⟨ZCE,trivial⟩ rfl rfl (by kernel_rfl)
noncomputable def D22:FD U:=⟨55,Tryz.f55,[],[.p (.st 1)],[],[.p (.st 1)],[],[],Zwe,Zwe,
.nil⟩
theorem ZCC:Zeg X0.E 55 D22.sig:=D22.ok G0 Tryz.func55 trivial rfl rfl (by kernel_rfl)
noncomputable def D23:FD U:=⟨25,Tryz.f25,[D17.sg,(53,ZvB.sig),D21.sg,D22.sg],[.p (.sl (.st 1)),.p (.int .i64),.p (.int .i64)],[],[.p (.st 1),.p (.int .i64)],[],[],Zoj,Zoj,
.j 91401 [0,1,2,6,13] [] [qe5,qe0,qe0,qe7,qe8] qp0 Zpk <|
.nil⟩
theorem Zz6:Zeg X0.E 25 D23.sig:=D23.ok G0 Tryz.func25 ⟨ZCF,Zwa,ZCD,ZCC,trivial⟩ rfl rfl (by kernel_rfl)
noncomputable def D24:FD U:=⟨155,Tryz.f155,[],[.p (.st 0)],[],[.p .bool],[],[],ZqJ,ZqJ,
.j 9111 [2] [] [qe8] [] Zoy <|
.nil⟩
theorem ZCB:Zeg X0.E 155 D24.sig:=D24.ok G0 Tryz.func155 trivial rfl rfl (by kernel_rfl)
noncomputable def D25:FD U:=⟨109,Tryz.f109,[D24.sg],[.p (.sl (.st 0))],[],[.p .bool],[],[],ZsW,ZsW,
.lr 94101 [5,6,7] [] [.o (.v (.sl (.st 0))),qe0,qe0] [] 0 [] [] [] [] Ztt ZvD (fun _=> .nil) <|
.nil⟩
theorem Zz5:Zeg X0.E 109 D25.sig:=D25.ok G0 Tryz.func109 ⟨ZCB,trivial⟩ rfl rfl (by kernel_rfl)
noncomputable def D26:FD U:=⟨204,Tryz.f204,[],[.p (.int .i64)],[],[.p .bool],[],[],ZtR,ZtR,
.nil⟩
theorem ZCA:Zeg X0.E 204 D26.sig:=D26.ok G0 Tryz.func204 trivial rfl rfl (by kernel_rfl)
noncomputable def D27:FD U:=⟨157,Tryz.f157,[D26.sg],[.p (.int .i64),.p (.int .i64)],[],[.p (.int .i64)],[],[],ZsX,ZsX,
.nil⟩
theorem ZCz:Zeg X0.E 157 D27.sig:=D27.ok G0 Tryz.func157 ⟨ZCA,trivial⟩ rfl rfl (by kernel_rfl)
noncomputable def D28:FD U:=⟨205,Tryz.f205,[],[.p (.int .u32)],[],[.p .bool],[],[],Ztv,Ztv,
.nil⟩
theorem ZCy:Zeg X0.E 205 D28.sig:=D28.ok G0 Tryz.func205 trivial rfl rfl (by kernel_rfl)
noncomputable def D29:FD U:=⟨158,Tryz.f158,[D28.sg],[.p (.int .u32),.p (.int .u32)],[],[.p (.int .i64)],[],[],ZsG,ZsG,
.nil⟩
theorem ZCx:Zeg X0.E 158 D29.sig:=D29.ok G0 Tryz.func158 ⟨ZCy,trivial⟩ rfl rfl (by kernel_rfl)
noncomputable def D30:FD U:=⟨111,Tryz.f111,[D27.sg,D29.sg],[.p (.sl (.int .u32)),.p (.sl (.int .u32))],[],[.p (.int .i64)],[],[],Zol,Zol,
.lr 941011 [0,1,6] [] qs1 [] 0 [] [] [] [] Zqf ZrI (fun _=> .nil) <|
.nil⟩
theorem Zy3:Zeg X0.E 111 D30.sig:=D30.ok G0 Tryz.func111 ⟨ZCz,ZCx,trivial⟩ rfl rfl (by kernel_rfl)
noncomputable def D31:FD U:=⟨199,Tryz.f199,[],[.p (.sl (.int .u32))],[],[.own (.int .u32)],[],[],Zoa,Zoa,
.j 9101 [0,4] [] [qe1,qe8] [] ZnI <|
.nil⟩
theorem Zz4:Zeg X0.E 199 D31.sig:=D31.ok G0 Tryz.func199 trivial rfl rfl (by kernel_rfl)
noncomputable def D32:FD U:=⟨231,Tryz.f231,[],[.p (.int .u32),.p (.int .u32),.p (.int .u32)],[],[.p (.int .u32),.p (.int .u32)],[],[],ZsR,ZsR,
.j 9101 [0,1,2,15] [] [qe9,qe9,qe9,qe8] [] Zrh <|
.nil⟩
theorem ZCw:Zeg X0.E 231 D32.sig:=D32.ok G0 Tryz.func231 trivial rfl rfl (by kernel_rfl)
noncomputable def D33:FD U:=⟨178,Tryz.f178,[],[.p (.sl (.int .u32))],[],[.p (.sl (.int .u32))],[],[],ZnV,ZnV,
.lo 9401 [0] [] [qe1] [] 0 [0] [] [qe1] [] ZoH ZtJ (fun n0=> .j 9105401 [0,14] [] [qe1,qe8] [] (Zr8 (ZoH n0)) <|
.nil) <|
.nil⟩
theorem Zxw:Zeg X0.E 178 D33.sig:=D33.ok G0 Tryz.func178 trivial rfl rfl (by kernel_rfl)
noncomputable def D34:FD U:=⟨200,Tryz.f200,[D32.sg,D33.sg],[.p (.sl (.int .u32)),.p (.int .u32)],[],[.p (.sl (.int .u32)),.p (.int .u32)],[],[],Zqz,Zqz,
.lo 9410111 [0,1,6,7,8] [] [qe1,qe9,qe4,qe9,qe0] [qo2] 0 [6,7] [] [qe4,qe9] [qo2] ZqS Zst (fun _=> .nil) <|
.nil⟩
theorem ZCv:Zeg X0.E 200 D34.sig:=D34.ok G0 Tryz.func200 ⟨ZCw,Zxw,trivial⟩ rfl rfl (by kernel_rfl)
noncomputable def D35:FD U:=⟨148,Tryz.f148,[],[.p (.int .u32)],[],[.p (.int .i64)],[],[],ZsQ,ZsQ,
.j 911 [0,2] [] [qe9,qe0] [] Zsy <|
.j 9111 [0,2] [] [qe9,qe0] [] Zqj <|
.nil⟩
theorem ZCu:Zeg X0.E 148 D35.sig:=D35.ok G0 Tryz.func148 trivial rfl rfl (by kernel_rfl)
noncomputable def D36:FD U:=⟨201,Tryz.f201,[D35.sg],[.p (.int .u32)],[],[.p (.int .i64)],[],[],Zpd,Zpd,
.nil⟩
theorem ZCt:Zeg X0.E 201 D36.sig:=D36.ok G0 Tryz.func201 ⟨ZCu,trivial⟩ rfl rfl (by kernel_rfl)
noncomputable def D37:FD U:=⟨202,Tryz.f202,[],[.p (.sl (.int .u32)),.p (.int .i64)],[],[.own (.int .u32)],[],[],ZoG,ZoG,
.lo 941011 [1,5,13,14,15] [] [qe0,qe4,qe1,qe0,qe0] [qo2] 0 [5] [] [qe4] [qo2] Zqd ZrG (fun _=> .nil) <|
.nil⟩
theorem ZCs:Zeg X0.E 202 D37.sig:=D37.ok G0 Tryz.func202 trivial rfl rfl (by kernel_rfl)
noncomputable def D38:FD U:=⟨179,Tryz.f179,[],[.p (.int .u32),.p (.int .u32),.p (.int .u32)],[],[.p (.int .u32),.p (.int .u32)],[],[],ZqE,ZqE,
.nil⟩
theorem Zz3:Zeg X0.E 179 D38.sig:=D38.ok G0 Tryz.func179 trivial rfl rfl (by kernel_rfl)
noncomputable def D39:FD U:=⟨176,Tryz.f176,[],[.p (.int .u32),.p (.int .u32),.p (.int .u32)],[],[.p (.int .u32),.p (.int .u32)],[],[],Zrt,Zrt,
.nil⟩
theorem Zz2:Zeg X0.E 176 D39.sig:=D39.ok G0 Tryz.func176 trivial rfl rfl (by kernel_rfl)
noncomputable def D40:FD U:=⟨203,Tryz.f203,[D38.sg,D39.sg],[.part (.int .u32),.p (.sl (.int .u32))],[(0,.arr (.int .u32))],[.p (.int .u32)],[],[],Zuj,Zts,
.lo 94011111 [0,1,5,7,8] [] [Zy7,qe1,qe0,qe3,qe3] [qo2] 0 [0,1,5,7] [] [Zy7,qe1,qe0,qe3] [qo2] ZqH Zs9 (fun n0=> .j 91054011111 [0,1,5,7,8,71] [] [Zy7,qe1,qe0,qe3,qe3,qe8] [qo2] (ZrL (ZqH n0)) <|
.nil) <|
.lo 941011111111 [0,1,5,7,9,10,82,83,84] [] [Zy7,qe1,qe0,qe3,qe9,qe3,qe1,qe0,qe0] [qo2] 2 [0,1,5,7,9,10] [] [Zy7,qe1,qe0,qe3,qe9,qe3] [qo2] Zs7 Zum (fun _=> .nil) <|
.lo 941011111111111 [0,5,7,13,130,131,132] [] [Zy7,qe0,qe3,qe9,qe1,qe0,qe0] [qo2] 4 [0,5,7,13] [] [Zy7,qe0,qe3,qe9] [qo2] ZrK Zs8 (fun _=> .nil) <|
.nil⟩
theorem ZCq:Zeg X0.E 203 D40.sig:=D40.okA G0 Tryz.func203 ⟨Zz3,Zz2,trivial⟩ (by kernel_rfl) (by kernel_rfl)
noncomputable def D41:FD U:=⟨178,Tryz.f178,[],[.part (.int .u32)],[(0,.arr (.int .u32))],[.view 0],[],[],ZsC,ZrR,
.lo 9401 [0] [] [Zy7] [qo2] 0 [0] [] [Zy7] [qo2] Zqg Zs6 (fun n0=> .j 9105401 [0,14] [] [Zy7,qe8] [qo2] (Zrq (Zqg n0)) <|
.nil) <|
.nil⟩
theorem ZCp:Zeg X0.E 178 D41.sig:=D41.okA G0 Tryz.func178 trivial (by kernel_rfl) (by kernel_rfl)
noncomputable def D42:FD U:=⟨177,Tryz.f177,[],[.p (.sl (.int .u32)),.p (.int .i64)],[],[.p (.int .u32)],[],[],ZpO,ZpO,
.nil⟩
theorem Zz1:Zeg X0.E 177 D42.sig:=D42.ok G0 Tryz.func177 trivial rfl rfl (by kernel_rfl)
noncomputable def D43:FD U:=⟨177,Tryz.f177,[],[.part (.int .u32),.p (.int .i64)],[(0,.arr (.int .u32))],[.p (.int .u32)],[],[],ZtI,Zro,
.nil⟩
theorem ZCo:Zeg X0.E 177 D43.sig:=D43.okA G0 Tryz.func177 trivial (by kernel_rfl) (by kernel_rfl)
noncomputable def D44:FD U:=⟨156,Tryz.f156,[D30.sg,D31.sg,D34.sg,D33.sg,D36.sg,D37.sg,D40.sg,D41.sg,D43.sg],[.p (.sl (.int .u32)),.p (.sl (.int .u32))],[],[.p (.sl (.int .u32)),.p (.sl (.int .u32))],[],[(84,7)],Zo7,Zo7,
.lo 9410111111 [8,9,10,11,12,13] [11] [qe0,qe0,qe4,qe1,ZzE,qe0] [qo2,qo2] 1 [8,9,10,12] [] [qe0,qe0,qe4,ZzE] [qo2,qo2] ZpU ZsV (fun _=> .nil) <|
.lo 941011111111 [9,12,14,86,87] [] [qe0,qe4,.o (.sl (0,2,1)),qe0,qe0] [qo2,qo2] 3 [12,14] [] [qe4,.o (.sl (0,2,1))] [qo2,qo2] ZpT ZsU (fun _=> .nil) <|
.nil⟩
theorem Zz0:Zeg X0.E 156 D44.sig:=D44.ok G0 Tryz.func156 ⟨Zy3,Zz4,ZCv,Zxw,ZCt,ZCs,ZCq,ZCp,ZCo,trivial⟩ rfl rfl (by kernel_rfl)
noncomputable def D45:FD U:=⟨110,Tryz.f110,[D44.sg],[.p (.sl (.int .u32)),.p (.sl (.int .u32))],[],[.p (.sl (.int .u32))],[],[],Zo9,Zo9,
.lo 9401 [0,1] [] [qe1,qe1] [] 0 [0] [] [qe1] [] Zor Zr1 (fun _=> .nil) <|
.nil⟩
theorem ZzZ:Zeg X0.E 110 D45.sig:=D45.ok G0 Tryz.func110 ⟨Zz0,trivial⟩ rfl rfl (by kernel_rfl)
noncomputable def D46:FD U:=⟨72,Tryz.f72,[D25.sg,D45.sg,D30.sg],[.p (.st 1)],[],[.p .bool],[],[],Zr2,Zr2,
.j 911 [2] [] [qe8] [] ZqI <|
.nil⟩
theorem ZCn:Zeg X0.E 72 D46.sig:=D46.ok G0 Tryz.func72 ⟨Zz5,ZzZ,Zy3,trivial⟩ rfl rfl (by kernel_rfl)
noncomputable def D47:FD U:=⟨135,Tryz.f135,[D33.sg],[.p (.sl (.int .u32)),.p (.sl (.int .u32))],[],[.p (.sl (.int .u32))],[],[],ZoU,ZoU,
.lo 941011 [1,5,17,18,19] [] [qe1,qe4,qe1,qe0,qe0] [qo2] 0 [5] [] [qe4] [qo2] ZpC Zsr (fun n0=> .lo 9410114011541011 [1,5,6,7,8,17,18,19,24,25,26] [] [qe1,qe4,qe0,qe9,qe3,qe1,qe0,qe0,qe1,qe0,qe0] [qo2] 2 [1,5,6,8,17,18,19] [] [qe1,qe4,qe0,qe3,qe1,qe0,qe0] [qo2] ZqR (Zss (ZpC n0)) (fun _=> .nil) <|
.nil) <|
.nil⟩
theorem ZzY:Zeg X0.E 135 D47.sig:=D47.ok G0 Tryz.func135 ⟨Zxw,trivial⟩ rfl rfl (by kernel_rfl)
noncomputable def D48:FD U:=⟨132,Tryz.f132,[],[.p .bool,.p (.sl (.int .u32))],[],[.p (.st 0)],[],[],Zn3,Zn3,
.j 911 [4] [] [qe7] [qo23,qo2] ZsD <|
.nil⟩
theorem ZxQ:Zeg X0.E 132 D48.sig:=D48.ok G0 Tryz.func132 trivial rfl rfl (by kernel_rfl)
noncomputable def D49:FD U:=⟨89,Tryz.f89,[D47.sg,D48.sg],[.p (.st 0),.p (.st 0)],[],[.p (.st 0)],[],[],Zpl,Zpl,
.nil⟩
theorem ZCm:Zeg X0.E 89 D49.sig:=D49.ok G0 Tryz.func89 ⟨ZzY,ZxQ,trivial⟩ rfl rfl (by kernel_rfl)
noncomputable def D50:FD U:=⟨90,Tryz.f90,[],[.p (.st 0)],[],[.p (.st 0)],[],[],ZrJ,ZrJ,
.j 911 [2] [] [qe7] [ZAk] ZrS <|
.nil⟩
theorem ZCk:Zeg X0.E 90 D50.sig:=D50.ok G0 Tryz.func90 trivial rfl rfl (by kernel_rfl)
noncomputable def D51:FD U:=⟨133,Tryz.f133,[D42.sg,D39.sg,D33.sg],[.p (.sl (.int .u32)),.p (.sl (.int .u32))],[],[.p (.sl (.int .u32))],[],[],ZpS,ZpS,
.lo 9410111 [0,1,5,6,20,21] [] [qe1,qe1,qe4,qe9,qe0,qe0] [qo2] 0 [5,6] [] [qe4,qe9] [qo2] Zq2 ZsT (fun _=> .nil) <|
.nil⟩
theorem ZzX:Zeg X0.E 133 D51.sig:=D51.ok G0 Tryz.func133 ⟨Zz1,Zz2,Zxw,trivial⟩ rfl rfl (by kernel_rfl)
noncomputable def D52:FD U:=⟨134,Tryz.f134,[D42.sg,D38.sg,D33.sg],[.p (.sl (.int .u32)),.p (.sl (.int .u32))],[],[.p (.sl (.int .u32))],[],[],Zps,Zps,
.lo 9410111 [0,1,5,6,12,13] [] [qe1,qe1,qe4,qe9,qe0,qe0] [qo2] 0 [5] [] [qe4] [qo2] ZqT Zsu (fun _=> .nil) <|
.nil⟩
theorem ZCj:Zeg X0.E 134 D52.sig:=D52.ok G0 Tryz.func134 ⟨Zz1,Zz3,Zxw,trivial⟩ rfl rfl (by kernel_rfl)
noncomputable def D53:FD U:=⟨88,Tryz.f88,[D51.sg,D48.sg,D30.sg,D52.sg],[.p (.st 0),.p (.st 0)],[],[.p (.st 0)],[],[],Zuh,Zuh,
.nil⟩
theorem ZCi:Zeg X0.E 88 D53.sig:=D53.ok G0 Tryz.func88 ⟨ZzX,ZxQ,Zy3,ZCj,trivial⟩ rfl rfl (by kernel_rfl)
noncomputable def D54:FD U:=⟨56,Tryz.f56,[D46.sg,D49.sg,D50.sg,D53.sg],[.p (.st 1),.p (.st 1)],[],[.p (.int .i64)],[],[],ZpY,ZpY,
.j 9101 [2,3,13] [] [qe7,Zy8,qe8] [ZxV,ZxV] Zt0 <|
.nil⟩
theorem ZxP:Zeg X0.E 56 D54.sig:=D54.ok G0 Tryz.func56 ⟨ZCn,ZCm,ZCk,ZCi,trivial⟩ rfl rfl (by kernel_rfl)
noncomputable def D55:FD U:=⟨57,Tryz.f57,[D54.sg],[.p (.sl (.st 1)),.p (.int .i64),.p (.st 1)],[],[.p (.int .i64)],[],[],ZsO,ZsO,
.lo 9401 [0,1,5] [] [qe5,qe0,qe7] [ZxV] 0 [1] [] [qe0] [] Zr5 Zut (fun n0=> .j 9105401 [0,1,5,19] [] [qe5,qe0,qe7,qe8] [ZxV] (Ztr (Zr5 n0)) <|
.nil) <|
.nil⟩
theorem ZCh:Zeg X0.E 57 D55.sig:=D55.ok G0 Tryz.func57 ⟨ZxP,trivial⟩ rfl rfl (by kernel_rfl)
noncomputable def D56:FD U:=⟨181,Tryz.f181,[D33.sg],[.p (.int .u64)],[],[.p (.sl (.int .u32))],[],[],Zqi,Zqi,
.nil⟩
theorem ZzW:Zeg X0.E 181 D56.sig:=D56.ok G0 Tryz.func181 ⟨Zxw,trivial⟩ rfl rfl (by kernel_rfl)
noncomputable def D57:FD U:=⟨137,Tryz.f137,[D56.sg,D48.sg],[.p (.int .i64)],[],[.p (.st 0)],[],[],Zq3,Zq3,
.nil⟩
theorem ZCg:Zeg X0.E 137 D57.sig:=D57.ok G0 Tryz.func137 ⟨ZzW,ZxQ,trivial⟩ rfl rfl (by kernel_rfl)
noncomputable def D58:FD U:=⟨180,Tryz.f180,[D45.sg,D44.sg,D48.sg],[.p (.st 0),.p (.st 0)],[],[.p (.st 1)],[],[],Zqh,Zqh,
.nil⟩
theorem ZzV:Zeg X0.E 180 D58.sig:=D58.ok G0 Tryz.func180 ⟨ZzZ,Zz0,ZxQ,trivial⟩ rfl rfl (by kernel_rfl)
noncomputable def D59:FD U:=⟨136,Tryz.f136,[D25.sg,D58.sg],[.p (.st 0),.p (.st 0)],[],[.p (.st 1),.p (.int .i64)],[],[],ZtN,ZtN,
.nil⟩
theorem ZCf:Zeg X0.E 136 D59.sig:=D59.ok G0 Tryz.func136 ⟨Zz5,ZzV,trivial⟩ rfl rfl (by kernel_rfl)
noncomputable def D60:FD U:=⟨91,Tryz.f91,[D57.sg,D59.sg],[.p (.int .i64),.p (.int .i64)],[],[.p (.st 1),.p (.int .i64)],[],[],ZtZ,ZtZ,
.nil⟩
theorem ZzU:Zeg X0.E 91 D60.sig:=D60.ok G0 Tryz.func91 ⟨ZCg,ZCf,trivial⟩ rfl rfl (by kernel_rfl)
noncomputable def D61:FD U:=⟨59,Tryz.f59,[D60.sg],[],[],[.p (.st 1)],[],[],Zvn,Zvn,
.nil⟩
theorem ZzT:Zeg X0.E 59 D61.sig:=D61.ok G0 Tryz.func59 ⟨ZzU,trivial⟩ rfl rfl (by kernel_rfl)
noncomputable def D62:FD U:=⟨58,Tryz.f58,[D60.sg,D61.sg],[.p (.int .i64),.p (.int .i64)],[],[.p (.st 1)],[],[],ZwA,ZwA,
.nil⟩
theorem ZCe:Zeg X0.E 58 D62.sig:=D62.ok G0 Tryz.func58 ⟨ZzU,ZzT,trivial⟩ rfl rfl (by kernel_rfl)
noncomputable def D63:FD U:=⟨26,Tryz.f26,[D54.sg,D55.sg,D62.sg],[.p (.sl (.st 1)),.p (.sl (.st 1))],[],[.p (.st 1),.p (.int .i64)],[],[],Zo6,Zo6,
.j 9101 [0,1,4,17] [] [qe5,qe5,qe7,qe8] qp0 ZrO <|
.lo 940111 [0,1,4,6,7,8] [] [qe5,qe5,qe7,qe0,qe0,qe0] qp0 0 [0,1,4,6] [] [qe5,qe5,qe7,qe0] qp0 Zpr Ztg (fun n0=> .j 910540111 [0,1,4,6,7,8,28] [] [qe5,qe5,qe7,qe0,qe0,qe0,qe8] qp0 (ZrN (Zpr n0)) <|
.j 91141540111 [0,1,4,6,7,8,9] [] [qe5,qe5,qe7,qe0,qe0,qe0,Zy8] [qo16,ZxV,qo2,qo2] (Zqy (Zpr n0)) <|
.nil) <|
.nil⟩
theorem ZCd:Zeg X0.E 26 D63.sig:=D63.ok G0 Tryz.func26 ⟨ZxP,ZCh,ZCe,trivial⟩ rfl rfl (by kernel_rfl)
noncomputable def D64:FD U:=⟨48,Tryz.f48,[],[.p (.st 0),.p (.st 0)],[],[.p .bool],[],[],ZoI,ZoI,
.j 9101 [2,3,20] [] [qe7,Zy8,qe8] [ZAk,ZAk] ZpE <|
.lr 941011 [3,22,23,24] [] [qe7,qe1,qe0,qe0] [ZAk] 0 [] [] [] [] ZpD Zq4 (fun _=> .nil) <|
.nil⟩
theorem ZCc:Zeg X0.E 48 D64.sig:=D64.ok G0 Tryz.func48 trivial rfl rfl (by kernel_rfl)
noncomputable def D65:FD U:=⟨20,Tryz.f20,[D64.sg],[.p (.st 1),.p (.st 1)],[],[.p .bool],[],[],Zn6,Zn6,
.j 911 [4] [] [qe8] [] Zqp <|
.nil⟩
theorem ZzS:Zeg X0.E 20 D65.sig:=D65.ok G0 Tryz.func20 ⟨ZCc,trivial⟩ rfl rfl (by kernel_rfl)
noncomputable def D66:FD U:=⟨139,Tryz.f139,[],[],[],[.map (.int .i64) (.st 4)],[],[],Zva,Zva,
.nil⟩
theorem ZzR:Zeg X0.E 139 D66.sig:=D66.ok G0 Tryz.func139 trivial rfl rfl (by kernel_rfl)
noncomputable def D68:FD U:=⟨182,Tryz.f182,[(214,Zu4.sig)],[.p .str],[],[.p .str],[],[],Zwu,Zwu,
.nil⟩
theorem ZCb:Zeg X0.E 182 D68.sig:=D68.ok G0 Tryz.func182 ⟨ZvA,trivial⟩ rfl rfl (by kernel_rfl)
noncomputable def D69:FD U:=⟨257,Tryz.f257,[],[.p .str,.p .str],[],[.p .bool],[],[],Zo1,Zo1,
.j 911 [4] [] [qe8] [] ZpN <|
.nil⟩
theorem ZzQ:Zeg X0.E 257 D69.sig:=D69.ok G0 Tryz.func257 trivial rfl rfl (by kernel_rfl)
noncomputable def D70:FD U:=⟨243,Tryz.f243,[D69.sg],[.p .str,.p .str],[],[.p .str,.p .bool],[],[],Zqo,Zqo,
.nil⟩
theorem ZCa:Zeg X0.E 243 D70.sig:=D70.ok G0 Tryz.func243 ⟨ZzQ,trivial⟩ rfl rfl (by kernel_rfl)
noncomputable def D71:FD U:=⟨218,Tryz.f218,[D70.sg],[.p .str,.p .str],[],[.p .str,.p .bool],[],[],Zuk,Zuk,
.nil⟩
theorem ZB9:Zeg X0.E 218 D71.sig:=D71.ok G0 Tryz.func218 ⟨ZCa,trivial⟩ rfl rfl (by kernel_rfl)
noncomputable def D72:FD U:=⟨244,Tryz.f244,[D69.sg],[.p .str,.p .str],[],[.p .str],[],[],Zp9,Zp9,
.nil⟩
theorem ZB8:Zeg X0.E 244 D72.sig:=D72.ok G0 Tryz.func244 ⟨ZzQ,trivial⟩ rfl rfl (by kernel_rfl)
noncomputable def D73:FD U:=⟨219,Tryz.f219,[D72.sg],[.p .str,.p .str],[],[.p .str],[],[],Zt7,Zt7,
.nil⟩
theorem ZB7:Zeg X0.E 219 D73.sig:=D73.ok G0 Tryz.func219 ⟨ZB8,trivial⟩ rfl rfl (by kernel_rfl)
noncomputable def D75:FD U:=⟨256,Tryz.f256,[(275,ZrT.sig)],[.p .str,.p .str],[],[.p (.int .i64)],[],[],Zrn,Zrn,
.j 914011 [0,1,5,16] [] [Zyk,Zyk,qe0,qe8] [] ZqG <|
.nil⟩
theorem ZB6:Zeg X0.E 256 D75.sig:=D75.ok G0 Tryz.func256 ⟨Zud,trivial⟩ rfl rfl (by kernel_rfl)
noncomputable def D76:FD U:=⟨245,Tryz.f245,[D75.sg],[.p .str,.p .str],[],[.p .str,.p .str,.p .bool],[],[],ZrX,ZrX,
.nil⟩
theorem ZB5:Zeg X0.E 245 D76.sig:=D76.ok G0 Tryz.func245 ⟨ZB6,trivial⟩ rfl rfl (by kernel_rfl)
noncomputable def D77:FD U:=⟨220,Tryz.f220,[D76.sg],[.p .str,.p .str],[],[.p .str,.p .str,.p .bool],[],[],Zvh,Zvh,
.nil⟩
theorem ZzP:Zeg X0.E 220 D77.sig:=D77.ok G0 Tryz.func220 ⟨ZB5,trivial⟩ rfl rfl (by kernel_rfl)
noncomputable def D78:FD U:=⟨221,Tryz.f221,[(214,Zu4.sig)],[.p .str,.p (.int .i64)],[],[.p .bool],[],[],ZtY,ZtY,
.j 911 [4] [] [qe8] [] ZsE <|
.nil⟩
theorem ZB4:Zeg X0.E 221 D78.sig:=D78.ok G0 Tryz.func221 ⟨ZvA,trivial⟩ rfl rfl (by kernel_rfl)
noncomputable def D79:FD U:=⟨187,Tryz.f187,[D71.sg,D73.sg,D77.sg,D78.sg,D31.sg,D47.sg,D56.sg,D51.sg,D48.sg,D58.sg],[.p .str],[],[.p (.st 1),.p .bool],[],[],Ztu,Ztu,
.j 9111 [2,4,5] [] [qe7,Zyk,qe8] qp0 ZtQ <|
.j 9101111 [2,5,6,7,39] [] [qe7,qe8,Zyk,Zyk,qe8] qp0 Zsb <|
.lo 941011111111 [2,5,7,9,10,11,47,48,49] [9,10] [qe7,qe8,Zyk,qe1,qe1,ZzE,.o (.full (0,3,1)),qe0,qe0] [qo17,qo2,.arr (.int .u8) false,qo2,qo2] 0 [2,5,7,9,10,11] [] [qe7,qe8,Zyk,qe1,qe1,ZzE] [qo16,qo2,qo2,qo2] ZtP ZuZ (fun _=> .nil) <|
.lo 9410111111111 [2,5,9,10,11,63,64] [11] [qe7,qe8,qe1,qe1,qe1,qe0,qe0] qp0 2 [2,5,9,11] [] [qe7,qe8,qe1,qe1] qp0 ZtO ZuY (fun _=> .nil) <|
.nil⟩
theorem ZzO:Zeg X0.E 187 D79.sig:=D79.ok G0 Tryz.func187 ⟨ZB9,ZB7,ZzP,ZB4,Zz4,ZzY,ZzW,ZzX,ZxQ,ZzV,trivial⟩ rfl rfl (by kernel_rfl)
noncomputable def D82:FD U:=⟨224,Tryz.f224,[],[.p (.sl .str)],[],[.p .str],[],[],Zvw,Zvw,
.lr 941011 [3,6,7,8] [] [Zyk,.o (.v (.sl .str)),qe0,qe0] [] 0 [3] [] [Zyk] [] Zuz ZvE (fun _=> .nil) <|
.nil⟩
theorem ZB3:Zeg X0.E 224 D82.sig:=D82.ok G0 Tryz.func224 trivial rfl rfl (by kernel_rfl)
noncomputable def D83:FD U:=⟨188,Tryz.f188,[D79.sg,(222,Zu9.sig),D77.sg,(223,Zu1.sig),D82.sg],[.p .str],[],[.p .str,.p .bool],[],[],Zvq,Zvq,
.j 9111111 [0,9] [] [Zyk,Zyk] [] Zur <|
.j 910111111 [9,43] [] [Zyk,qe8] [] Zuq <|
.j 91111111 [9] [] [Zyk] [] Zup <|
.nil⟩
theorem ZB2:Zeg X0.E 188 D83.sig:=D83.ok G0 Tryz.func188 ⟨ZzO,Zv3,ZzP,ZvQ,ZB3,trivial⟩ rfl rfl (by kernel_rfl)
noncomputable def D84:FD U:=⟨138,Tryz.f138,[D66.sg,D68.sg,D83.sg],[.p (.int .i64),.p .str],[],[.p .str,.p .bool],[],[(26,2)],ZuJ,ZuJ,
.nil⟩
theorem ZB1:Zeg X0.E 138 D84.sig:=D84.ok G0 Tryz.func138 ⟨ZzR,ZCb,ZB2,trivial⟩ rfl rfl (by kernel_rfl)
noncomputable def D85:FD U:=⟨92,Tryz.f92,[D84.sg,D66.sg,D79.sg],[.p (.int .i64),.p .str],[],[.p (.st 1),.p .bool],[],[(22,2)],ZvS,ZvS,
.nil⟩
theorem ZB0:Zeg X0.E 92 D85.sig:=D85.ok G0 Tryz.func92 ⟨ZB1,ZzR,ZzO,trivial⟩ rfl rfl (by kernel_rfl)
noncomputable def D86:FD U:=⟨60,Tryz.f60,[D61.sg,D85.sg],[.p (.st 2)],[],[.p (.st 1),.p .bool],[],[],Zul,Zul,
.nil⟩
theorem ZBZ:Zeg X0.E 60 D86.sig:=D86.ok G0 Tryz.func60 ⟨ZzT,ZB0,trivial⟩ rfl rfl (by kernel_rfl)
noncomputable def D87:FD U:=⟨94,Tryz.f94,[D19.sg],[.p (.int .u64)],[],[.p (.int .i64)],[],[],Zvs,Zvs,
.nil⟩
theorem ZBY:Zeg X0.E 94 D87.sig:=D87.ok G0 Tryz.func94 ⟨Zz7,trivial⟩ rfl rfl (by kernel_rfl)
noncomputable def D88:FD U:=⟨140,Tryz.f140,[D54.sg],[.arr (.st 1),.p (.int .i64),.p (.int .i64),.fn 56 [] []],[(0,.arr (.st 1))],[],[],[],Zqm,ZpX,
.lo 941 [0,1,2,3,8] [] [ZA7,qe0,qe0,ZAl,qe0] [ZxA] 0 [] [] [] [ZxA] Zn2 ZpQ (fun n0=> .lo 941401541 [0,1,2,3,8,9] [] [ZA7,qe0,qe0,ZAl,qe0,qe0] [ZxA] 2 [0,1,2,3,8] [] [ZA7,qe0,qe0,ZAl,qe0] [ZxA] Zn1 (ZpR (Zn2 n0)) (fun n1=> .j 910541401541 [0,1,2,3,8,9,34] [] [ZA7,qe0,qe0,ZAl,qe0,qe0,qe8] [ZxA] (ZoE (Zn1 n1)) <|
.nil) <|
.nil) <|
.nil⟩
theorem ZBX:Zeg X0.E 140 D88.sig:=D88.okA G0 Tryz.func140 ⟨ZxP,trivial⟩ (by kernel_rfl) (by kernel_rfl)
noncomputable def D89:FD U:=⟨93,Tryz.f93,[D88.sg],[.arr (.st 1),.p (.int .i64),.p (.int .i64),.p (.int .i64),.fn 56 [] []],[(0,.arr (.st 1))],[],[],[],Zrr,Zq1,
.lz 9411 [0,1,2,3,4,10,11] [] [ZA7,qe0,qe0,qe0,ZAl,qe8,qe8] [ZxA] Zo5 (fun _=> .nil) <|
.nil⟩
theorem ZBW:Zeg X0.E 93 D89.sig:=D89.okA G0 Tryz.func93 ⟨ZBX,trivial⟩ (by kernel_rfl) (by kernel_rfl)
noncomputable def D90:FD U:=⟨61,Tryz.f61,[D87.sg,D89.sg],[.arr (.st 1),.fn 56 [] []],[(0,.arr (.st 1))],[],[],[],Zp8,ZoF,
.nil⟩
theorem ZBU:Zeg X0.E 61 D90.sig:=D90.okA G0 Tryz.func61 ⟨ZBY,ZBW,trivial⟩ (by kernel_rfl) (by kernel_rfl)
noncomputable def D91:FD U:=⟨29,Tryz.f29,[D86.sg,D90.sg],[.p (.st 3)],[],[.own (.st 1)],[],[],Zr7,Zr7,
.lo 941011 [3,9,10,11] [] [qe4,.o (.v (.sl (.st 2))),qe0,qe0] [ZxA] 0 [3] [] [qe4] [ZxA] ZqY ZtD (fun n0=> .j 9111541011 [3,9,10,11] [] [qe4,.o (.v (.sl (.st 2))),qe0,qe0] [ZxA] (Zr6 (ZqY n0)) <|
.nil) <|
.nil⟩
theorem ZBT:Zeg X0.E 29 D91.sig:=D91.ok G0 Tryz.func29 ⟨ZBZ,ZBU,trivial⟩ rfl rfl (by kernel_rfl)
noncomputable def D92:FD U:=⟨21,Tryz.f21,[D16.sg,D23.sg,D63.sg,D65.sg,D15.sg,D91.sg],[],[],[.p .bool],[],[],ZoZ,ZoZ,
.j 911111 [0] [] [qe8] [] Zof <|
.nil⟩
theorem ZBS:Zeg X0.E 21 D92.sig:=D92.ok G0 Tryz.func21 ⟨Zz8,Zz6,ZCd,ZzS,Zyd,ZBT,trivial⟩ rfl rfl (by kernel_rfl)
noncomputable def D93:FD U:=⟨11,Tryz.f11,[],[.p (.sl (.int .i64))],[],[.box (.st 5)],[],[],Zr4,Zr4,
.nil⟩
theorem ZBR:Zeg X0.E 11 D93.sig:=D93.ok G0 Tryz.func11 trivial rfl rfl (by kernel_rfl)
noncomputable def D94:FD U:=⟨14,Tryz.f14,[],[.p (.int .i64),.p (.int .i64)],[],[.p (.int .i64)],[],[],Zom,Zom,
.nil⟩
theorem ZzN:Zeg X0.E 14 D94.sig:=D94.ok G0 Tryz.func14 trivial rfl rfl (by kernel_rfl)
noncomputable def D95:FD U:=⟨12,Tryz.f12,[D94.sg],[.box (.st 5),.p (.int .i64)],[(0,.box (.st 5))],[.p (.int .i64)],[],[],Zoq,Zoq,
.nil⟩
theorem ZzM:Zeg X0.E 12 D95.sig:=D95.ok G0 Tryz.func12 ⟨ZzN,trivial⟩ rfl rfl (by kernel_rfl)
noncomputable def D96:FD U:=⟨50,Tryz.f50,[D95.sg,D15.sg],[.box (.st 5)],[(0,.box (.st 5))],[.p (.st 1)],[],[],ZpB,ZpB,
.nil⟩
theorem ZBQ:Zeg X0.E 50 D96.sig:=D96.ok G0 Tryz.func50 ⟨ZzM,Zyd,trivial⟩ rfl rfl (by kernel_rfl)
noncomputable def D97:FD U:=⟨68,Tryz.f68,[D4.sg,D6.sg,D9.sg],[.p (.st 1)],[],[.p .bool],[],[],ZoY,ZoY,
.j 9101 [1,24] [] [qe7,qe8] [ZxV] ZoD <|
.nil⟩
theorem ZBP:Zeg X0.E 68 D97.sig:=D97.ok G0 Tryz.func68 ⟨ZCl,ZzB,ZBM,trivial⟩ rfl rfl (by kernel_rfl)
noncomputable def D98:FD U:=⟨108,Tryz.f108,[D1.sg],[.p (.sl (.int .u32)),.p (.sl (.int .u32))],[],[.p (.sl (.int .u32))],[],[],Zqw,Zqw,
.lo 941011 [0,1,5,6] [] [qe1,qe1,qe4,qe0] [qo2] 0 [5] [] [qe4] [qo2] Zpv Zsf (fun n0=> .lo 94101401541011 [0,1,5,6,7,8] [] [qe1,qe1,qe4,qe0,qe3,qe0] [qo2] 2 [0,1,5,6,7] [] [qe1,qe1,qe4,qe0,qe3] [qo2] ZqL (Zsg (Zpv n0)) (fun _=> .nil) <|
.nil) <|
.nil⟩
theorem ZBO:Zeg X0.E 108 D98.sig:=D98.ok G0 Tryz.func108 ⟨Zyt,trivial⟩ rfl rfl (by kernel_rfl)
noncomputable def D99:FD U:=⟨70,Tryz.f70,[D98.sg,D2.sg],[.p (.st 0),.p (.st 0)],[],[.p (.st 0)],[],[],Zok,Zok,
.nil⟩
theorem ZBN:Zeg X0.E 70 D99.sig:=D99.ok G0 Tryz.func70 ⟨ZBO,Zy4,trivial⟩ rfl rfl (by kernel_rfl)
noncomputable def ZDk:FD U:=⟨71,Tryz.f71,[D2.sg],[.p (.st 0)],[],[.p (.st 0)],[],[],ZpP,ZpP,
.nil⟩
theorem ZAQ:Zeg X0.E 71 ZDk.sig:=ZDk.ok G0 Tryz.func71 ⟨Zy4,trivial⟩ rfl rfl (by kernel_rfl)
noncomputable def ZDj:FD U:=⟨106,Tryz.f106,[],[.p (.sl (.int .u32)),.p (.sl (.int .u32))],[],[.own (.int .u32)],[],[],Zpp,Zpp,
.lo 9410111 [0,1,5,6,7] [] qs4 [qo2] 0 [5,6] [] [qe4,qe3] [qo2] Zou Zso (fun n0=> .j 9105410111 [0,1,5,6,7,17] [] [qe1,qe1,qe4,qe3,qe0,qe8] [qo2] (ZoR (Zou n0)) <|
.j 914015410111 [0,1,5,6,7] [] qs4 [qo2] (ZpA (Zou n0)) <|
.j 9114015410111 [0,1,5,6,7] [] qs4 [qo2] (Zpz (Zou n0)) <|
.nil) <|
.nil⟩
theorem ZAP:Zeg X0.E 106 ZDj.sig:=ZDj.ok G0 Tryz.func106 trivial rfl rfl (by kernel_rfl)
noncomputable def ZDi:FD U:=⟨69,Tryz.f69,[ZDj.sg,D2.sg,D6.sg,D7.sg],[.p (.st 0),.p (.st 0)],[],[.p (.st 0)],[],[],Zp6,Zp6,
.nil⟩
theorem ZAO:Zeg X0.E 69 ZDi.sig:=ZDi.ok G0 Tryz.func69 ⟨ZAP,Zy4,ZzB,ZAI,trivial⟩ rfl rfl (by kernel_rfl)
noncomputable def ZCO:FD U:=⟨37,Tryz.f37,[D97.sg,D99.sg,ZDk.sg,ZDi.sg],[.p (.st 1),.p (.st 1)],[],[.p (.int .i64)],[],[],Zpq,Zpq,
.j 9101 [2,3,13] [] [qe7,Zy8,qe8] [ZxV,ZxV] ZqQ <|
.nil⟩
theorem Zy6:Zeg X0.E 37 ZCO.sig:=ZCO.ok G0 Tryz.func37 ⟨ZBP,ZBN,ZAQ,ZAO,trivial⟩ rfl rfl (by kernel_rfl)
noncomputable def ZCN:FD U:=⟨35,Tryz.f35,[ZCO.sg],[.p (.st 1),.p (.st 1)],[],[.p .bool],[],[],ZoK,ZoK,
.nil⟩
theorem Zy5:Zeg X0.E 35 ZCN.sig:=ZCN.ok G0 Tryz.func35 ⟨Zy6,trivial⟩ rfl rfl (by kernel_rfl)
noncomputable def ZDh:FD U:=⟨22,Tryz.f22,[D95.sg,D96.sg,ZCN.sg],[.box (.st 5),.p (.int .i64)],[(0,.box (.st 5))],[.own (.st 1)],[],[],ZoJ,ZoJ,
.lo 941011 [0,5,6] [] [ZCM,qe4,qe0] [ZA6,ZxA] 0 [5] [] [qe4] [ZA6,ZxA] ZoN Zq6 (fun n0=> .lo 94011401541011 [0,5,6,7,8] [] [ZCM,qe4,qe0,Zy8,qe0] [ZA6,ZxA,ZxV] 2 [0,5,6,7,8] [] [ZCM,qe4,qe0,Zy8,qe0] [ZA6,ZxA,ZxV] Zos (Zq7 (ZoN n0)) (fun n1=> .j 91054011401541011 [0,5,6,7,8,31] [] [ZCM,qe4,qe0,Zy8,qe0,qe8] [ZA6,ZxA,ZxV] (ZpH (Zos n1)) <|
.nil) <|
.nil) <|
.nil⟩
theorem ZAN:Zeg X0.E 22 ZDh.sig:=ZDh.ok G0 Tryz.func22 ⟨ZzM,ZBQ,Zy5,trivial⟩ rfl rfl (by kernel_rfl)
noncomputable def ZDg:FD U:=⟨32,Tryz.f32,[D15.sg,ZCO.sg],[.p (.sl (.st 1)),.p (.int .i64),.p (.int .i64)],[],[.p (.st 1),.p (.int .i64)],[],[],ZnX,ZnX,
.j 91401 [0,1,2,6,10] [] [qe5,qe0,qe0,qe7,qe8] qp0 Zon <|
.lr 941011 [0,1,2,6,28,29,30] [] [qe5,qe0,qe0,qe7,qe5,qe0,qe0] qp0 1 [0,6] [] [qe5,qe7] qp0 Zqq Zt2 (fun _=> .nil) <|
.nil⟩
theorem ZAM:Zeg X0.E 32 ZDg.sig:=ZDg.ok G0 Tryz.func32 ⟨Zyd,Zy6,trivial⟩ rfl rfl (by kernel_rfl)
noncomputable def ZDf:FD U:=⟨67,Tryz.f67,[D54.sg],[.p (.sl (.st 1)),.p (.st 1),.fn 56 [] []],[],[.p (.int .i64),.p .bool],[],[],ZnJ,ZnJ,
.lo 940111 [0,2,4,8,9,10] [] [qe5,ZAl,qe7,qe0,qe0,qe0] [ZxV] 0 [0,2,4,8,9] [] [qe5,ZAl,qe7,qe0,qe0] [ZxV] ZnK ZnR (fun _=> .nil) <|
.j 911111 [6,7] [] [qe0,qe8] [] ZnL <|
.nil⟩
theorem ZAL:Zeg X0.E 67 ZDf.sig:=ZDf.ok G0 Tryz.func67 ⟨ZxP,trivial⟩ rfl rfl (by kernel_rfl)
noncomputable def ZDe:FD U:=⟨33,Tryz.f33,[D54.sg,ZDf.sg],[.p (.sl (.st 1)),.p (.sl (.st 1))],[],[.own (.int .i64),.p (.int .i64)],[],[],ZoS,ZoS,
.lr 941011 [0,1,6] [] [qe5,qe5,qe0] [] 0 [0,1] [] [qe5,qe5] [] Zph Zua (fun _=> .nil) <|
.lo 94101111 [1,7,36,37,38] [] [qe5,qe4,qe5,qe0,qe0] [Zyj] 2 [7] [] [qe4] [Zyj] Zre Zt9 (fun n0=> .j 9111401154101111 [1,7,10,36,37,38] [] [qe5,qe4,qe0,qe5,qe0,qe0] [Zyj] (Zrf (Zre n0)) <|
.nil) <|
.nil⟩
theorem ZAK:Zeg X0.E 33 ZDe.sig:=ZDe.ok G0 Tryz.func33 ⟨ZxP,ZAL,trivial⟩ rfl rfl (by kernel_rfl)
noncomputable def ZDd:FD U:=⟨34,Tryz.f34,[ZCN.sg],[.p (.sl (.st 1)),.p (.sl (.st 1))],[],[.own (.int .i64),.p (.int .i64)],[],[],Zn7,Zn7,
.lr 941011 [0,1,6] [] [qe5,qe5,qe0] [] 0 [0,1] [] [qe5,qe5] [] Zow Zrl (fun _=> .nil) <|
.lo 94101111 [1,7,35,36,37] [] [qe5,qe4,qe5,qe0,qe0] [Zyj] 2 [7] [] [qe4] [Zyj] ZoV Zrj (fun n0=> .lo 94011401154101111 [1,7,9,10,35,36,37] [] [qe5,qe4,Zy8,qe0,qe5,qe0,qe0] [Zyj,ZxV] 4 [1,7,10,35,36,37] [] [qe5,qe4,qe0,qe5,qe0,qe0] [Zyj] Zov (Zrk (ZoV n0)) (fun n1=> .j 91054011401154101111 [1,7,9,10,35,36,37,53] [] [qe5,qe4,Zy8,qe0,qe5,qe0,qe0,qe8] [Zyj,ZxV] (ZpV (Zov n1)) <|
.nil) <|
.nil) <|
.nil⟩
theorem ZAJ:Zeg X0.E 34 ZDd.sig:=ZDd.ok G0 Tryz.func34 ⟨Zy5,trivial⟩ rfl rfl (by kernel_rfl)
noncomputable def D110:FD U:=⟨7,Tryz.f7,[D0.sg,D92.sg,D93.sg,ZDh.sg,D94.sg,D23.sg,ZDg.sg,D65.sg,D16.sg,ZDe.sg,ZDd.sg],[.p (.sl (.int .i64)),.p (.int .i64),.p (.int .i64),.p (.int .i64)],[],[.p .bool],[],[],Zo0,Zo0,
.lr 94101111 [3,10,11,48,49,50] [10] [qe0,qe5,qe4,ZzE,qe0,qe0] [ZxA,.arr (.st 6) false] 0 [3,10,11] [] [qe0,qe5,qe4] [ZxA] ZnW ZpM (fun n0=> .j 91111401154101111 [3,10,11,48,49,50,80] [] [qe0,qe5,qe4,ZzE,qe0,qe0,qe8] [ZxA,.arr (.st 6) false] (ZoM (ZnW n0)) <|
.nil) <|
.lo 941121011111 [10,11,88,89] [] [qe5,qe4,qe0,qe0] [ZxA] 2 [10,11] [] [qe5,qe4] [ZxA] Zoh ZpL (fun _=> .nil) <|
.j 91111111 [10,11,19,20] [] [qe5,qe5,qe4,qe0] [Zyj] Zoi <|
.j 91011111111 [19,21,119] [] [qe4,ZzE,qe8] [Zyj,Zyj] ZoL <|
.lr 9410111111111 [21,120,121,122] [] [qe4,ZzE,qe0,qe0] [Zyj,Zyj] 4 [] [] [] [] Zog ZpK (fun _=> .nil) <|
.nil⟩
theorem D110_ok:Zeg X0.E 7 D110.sig:=D110.ok G0 Tryz.func7 ⟨ZDl,ZBS,ZBR,ZAN,ZzN,Zz6,ZAM,ZzS,Zz8,ZAK,ZAJ,trivial⟩ rfl rfl (by kernel_rfl)
end
end Go.Proofs

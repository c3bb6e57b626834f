/- Printed by wip/tools/tgen.py: walks. -/
import Derived.Test.YtbjnddlpdlfknaaGreatDoorQmU
import Derived.Test.YtbjnddlpdlfknaaGreatDoorQmX
set_option linter.unusedVariables false
set_option linter.unusedSimpArgs false
set_option linter.unusedSectionVars false
namespace Go.Proofs
open Go Eng
set_option maxRecDepth 100000
noncomputable section
abbrev qe0:Sh:= .o (.v (.int .i64))
abbrev qe1:Sh:= .o (.v (.sl (.int .u32)))
abbrev qo2:ShO:= .arr (.int .u32) false
abbrev qe3:Sh:= .o (.v (.int .u64))
abbrev qo4:ShO:= .box [.o (.v .bool),.o (.full (0,2,1)),.o (.v .bool),.o (.full (0,3,1))]
abbrev qe5:Sh:= .o (.ptr (0,1,1) 0 0)
abbrev qe6:Sh:= .o (.full (0,1,1))
abbrev qe7:Sh:= .o (.v .bool)
abbrev qo8:ShO:= .arr (.st 1) false
abbrev qe9:Sh:= .o (.v (.sl (.st 1)))
abbrev ZxW:Sh:= .o (.ptr (0,2,1) 0 0)
abbrev Zxu:Sh:= .o (.v (.int .u32))
abbrev ZCY:ShO:= .box [.o (.v .bool),.o (.full (0,3,1)),.o (.v .bool),.o (.full (0,4,1))]
abbrev ZCX:ShO:= .box [.o (.v .bool),.o (.full (0,4,1)),.o (.v .bool),.o (.full (0,5,1))]
abbrev ZxV:ShO:= .boxS (.st 1)
abbrev Zy7:Sh:= .o (.full (0,2,1))
abbrev Zyy:ShO:= .boxS (.st 5)
abbrev Zy6:Sh:= .o (.sl (0,0,0))
abbrev ZCK:ShO:= .box [.o (.v .str),.o (.full (0,3,1))]
abbrev Zyj:Sh:= .o (.v .str)
abbrev Zzz:ShO:= .arr (.st 2) false
abbrev ZAe:Sh:= .o (.full (0,3,1))
abbrev ZAW:Sh:= .o (.ptr (0,0,0) 0 0)
abbrev ZCW:ShO:= .box [.o (.v .str),.o (.full (0,4,1))]
abbrev ZBb:Sh:= .o (.full (0,0,0))
abbrev ZCN:Sh:= .o (.ptr (0,4,1) 0 0)
abbrev ZAd:ShO:= .boxS (.st 0)
abbrev qo27:ShO:= .box [.o (.v .bool),.o (.full (0,2,1))]
abbrev ZCM:Sh:= .o (.full (0,5,1))
abbrev ZCL:Sh:= .o (.full (0,6,1))
abbrev ZCZ:Sh:= .o (.ptr (0,3,1) 0 0)
abbrev ZBa:Sh:= .fn 56 [] []
abbrev qp0:List ShO:=[qo4,qo2,qo2]
abbrev qs1:List Sh:=[qe1,qe1,qe0]
abbrev qp2:List ShO:=[Zyy,qo8,qo8,ZxV,qo8,qo8]
abbrev qs3:List Sh:=[qe3,qe3,qe3,qe3,qe3,qe3,qe3,qe3,qe3,qe7]
abbrev qs4:List Sh:=[qe3,qe3,qe3,qe3,qe3,qe3,qe3,qe3,qe3]
abbrev qs5:List Sh:=[qe1,qe1,qe6,qe3,qe0]
noncomputable def D0:FD U:=⟨9,Tryz.f9,[],[.p (.sl (.int .i64))],[],[.p .bool],[],[],ZrF,ZrF,
.nil⟩
theorem ZDw:Zeg X0.E 9 D0.sig:=D0.ok G0 Tryz.func9 trivial rfl rfl (by kernel_rfl)
noncomputable def D1:FD U:=⟨154,Tryz.f154,[],[.p (.sl (.int .u32))],[],[.p (.sl (.int .u32))],[],[],ZnV,ZnV,
.lo 9401 [0] [] [qe1] [] 0 [0] [] [qe1] [] Zoj ZtP (fun n0=> .j 9105401 [0,14] [] [qe1,qe7] [] (ZrM (Zoj n0)) <|
.nil) <|
.nil⟩
theorem Zys:Zeg X0.E 154 D1.sig:=D1.ok G0 Tryz.func154 trivial rfl rfl (by kernel_rfl)
noncomputable def D2:FD U:=⟨105,Tryz.f105,[D1.sg],[.p .bool,.p (.sl (.int .u32))],[],[.p (.st 0)],[],[],ZnQ,ZnQ,
.j 9111 [4] [] [qe5] [ZAd] ZqP <|
.nil⟩
theorem Zy3:Zeg X0.E 105 D2.sig:=D2.ok G0 Tryz.func105 ⟨Zys,trivial⟩ rfl rfl (by kernel_rfl)
noncomputable def D3:FD U:=⟨126,Tryz.f126,[D2.sg],[.p (.int .i64)],[],[.p (.st 0)],[],[],Zok,Zok,
.j 9111 [0,2,3] [] [qe0,qe5,qe3] [qo27,qo2] ZpG <|
.nil⟩
theorem ZCp:Zeg X0.E 126 D3.sig:=D3.ok G0 Tryz.func126 ⟨Zy3,trivial⟩ rfl rfl (by kernel_rfl)
noncomputable def D4:FD U:=⟨102,Tryz.f102,[],[.p (.st 0)],[],[.p .bool],[],[],Zob,Zob,
.j 9111 [2] [] [qe7] [] ZnZ <|
.nil⟩
theorem ZCj:Zeg X0.E 102 D4.sig:=D4.ok G0 Tryz.func102 trivial rfl rfl (by kernel_rfl)
noncomputable def D5:FD U:=⟨152,Tryz.f152,[D1.sg],[.p (.sl (.int .u32))],[],[.p (.sl (.int .u32))],[],[],Zop,Zop,
.lo 941011 [0,3,9,10] [] [qe1,qe6,qe0,qe0] [qo2] 0 [3] [] [qe6] [qo2] Zpc ZrN (fun n0=> .j 9111541011 [0,3,9,10] [] [qe1,qe6,qe0,qe0] [qo2] (Zpd (Zpc n0)) <|
.nil) <|
.nil⟩
theorem ZDi:Zeg X0.E 152 D5.sig:=D5.ok G0 Tryz.func152 ⟨Zys,trivial⟩ rfl rfl (by kernel_rfl)
noncomputable def D6:FD U:=⟨103,Tryz.f103,[],[.p (.sl (.int .u32)),.p (.sl (.int .u32))],[],[.p (.int .i64)],[],[],Zn3,Zn3,
.lr 941011 [0,1,5] [] qs1 [] 0 [] [] [] [] ZqO Zsi (fun _=> .nil) <|
.nil⟩
theorem Zzv:Zeg X0.E 103 D6.sig:=D6.ok G0 Tryz.func103 trivial rfl rfl (by kernel_rfl)
noncomputable def D7:FD U:=⟨107,Tryz.f107,[D1.sg],[.p (.sl (.int .u32)),.p (.sl (.int .u32))],[],[.p (.sl (.int .u32))],[],[],Zov,Zov,
.lo 9410111 [0,1,5,6,7] [] [qe1,qe1,qe6,qe0,qe0] [qo2] 0 [5] [] [qe6] [qo2] Zpq Zr9 (fun n0=> .j 9114015410111 [0,1,5,6,7] [] [qe1,qe1,qe6,qe0,qe0] [qo2] (Zpr (Zpq n0)) <|
.nil) <|
.nil⟩
theorem ZAI:Zeg X0.E 107 D7.sig:=D7.ok G0 Tryz.func107 ⟨Zys,trivial⟩ rfl rfl (by kernel_rfl)
noncomputable def D8:FD U:=⟨153,Tryz.f153,[D1.sg],[.p (.sl (.int .u32)),.p (.int .u32)],[],[.p (.sl (.int .u32))],[],[],Zo0,Zo0,
.lo 941011 [0,1,5,6] [] [qe1,Zxu,qe6,qe0] [qo2] 0 [1,5] [] [Zxu,qe6] [qo2] ZpY Zrn (fun _=> .nil) <|
.nil⟩
theorem ZBV:Zeg X0.E 153 D8.sig:=D8.ok G0 Tryz.func153 ⟨Zys,trivial⟩ rfl rfl (by kernel_rfl)
noncomputable def D9:FD U:=⟨104,Tryz.f104,[D5.sg,D6.sg,D7.sg,D8.sg],[.p (.sl (.int .u32)),.p (.sl (.int .u32))],[],[.p (.sl (.int .u32))],[],[],Zpl,Zpl,
.lo 94011 [0,1,5] [] qs1 [] 0 [0,1,5] [] qs1 [] ZoR Zsg (fun n0=> .j 91054011 [0,1,5,17] [] [qe1,qe1,qe0,qe7] [] (ZqN (ZoR n0)) <|
.nil) <|
.lo 940111 [0,1,5] [] qs1 [] 2 [0,5] [] [qe1,qe0] [] ZnR Zsd (fun n0=> .lo 94041540111 [0,1,5] [] qs1 [] 4 [0,1,5] [] qs1 [] Zn8 (Zsf (ZnR n0)) (fun _=> .nil) <|
.lo 940141540111 [0,1,5] [] qs1 [] 6 [0,1,5] [] qs1 [] Zn7 (Zse (ZnR n0)) (fun _=> .nil) <|
.j 911141540111 [0,1,5] [] qs1 [] (ZqM (ZnR n0)) <|
.nil) <|
.lo 9401111 [0,5] [] [qe1,qe0] [] 8 [0] [] [qe1] [] ZoQ Zsc (fun _=> .nil) <|
.nil⟩
theorem ZBP:Zeg X0.E 104 D9.sig:=D9.ok G0 Tryz.func104 ⟨ZDi,Zzv,ZAI,ZBV,trivial⟩ rfl rfl (by kernel_rfl)
noncomputable def D10:FD U:=⟨213,Tryz.f213,[],[.p (.sl (.int .u32)),.p (.int .i64)],[],[.p (.int .u32)],[],[],Zqw,Zqw,
.nil⟩
theorem ZCI:Zeg X0.E 213 D10.sig:=D10.ok G0 Tryz.func213 trivial rfl rfl (by kernel_rfl)
noncomputable def D11:FD U:=⟨174,Tryz.f174,[D10.sg,D8.sg,D6.sg,D7.sg,D1.sg],[.p (.sl (.int .u32)),.p (.sl (.int .u32))],[],[.p (.sl (.int .u32)),.p (.sl (.int .u32))],[],[],Zpm,Zpm,
.lo 941011 [0,1,4,5,6] [5] [qe1,qe1,qe6,qe1,qe0] [qo2] 0 [4,5] [] [qe6,qe1] [qo2] Zpu Zsh (fun n0=> .j 911541011 [0,1,4,5,6] [] [qe1,qe1,qe6,qe1,qe0] [qo2] (Zpv (Zpu n0)) <|
.nil) <|
.nil⟩
theorem ZCG:Zeg X0.E 174 D11.sig:=D11.ok G0 Tryz.func174 ⟨ZCI,ZBV,Zzv,ZAI,Zys,trivial⟩ rfl rfl (by kernel_rfl)
noncomputable def D12:FD U:=⟨127,Tryz.f127,[D3.sg,D9.sg,D11.sg,D2.sg],[.p (.st 0),.p (.st 0)],[],[.p (.st 1)],[],[],ZoP,ZoP,
.nil⟩
theorem Zz4:Zeg X0.E 127 D12.sig:=D12.ok G0 Tryz.func127 ⟨ZCp,ZBP,ZCG,Zy3,trivial⟩ rfl rfl (by kernel_rfl)
noncomputable def D13:FD U:=⟨128,Tryz.f128,[D4.sg,D12.sg],[.p (.st 0),.p (.st 0)],[],[.p (.st 1),.p (.int .i64)],[],[],Zp5,Zp5,
.j 9101 [2,3,4,13] [] [qe5,ZxW,ZCZ,qe7] [ZAd,ZAd,ZCX,qo2,qo2] Zqr <|
.nil⟩
theorem ZCF:Zeg X0.E 128 D13.sig:=D13.ok G0 Tryz.func128 ⟨ZCj,Zz4,trivial⟩ rfl rfl (by kernel_rfl)
noncomputable def D14:FD U:=⟨81,Tryz.f81,[D3.sg,D13.sg],[.p (.int .i64),.p (.int .i64)],[],[.p (.st 1),.p (.int .i64)],[],[],ZqX,ZqX,
.nil⟩
theorem ZCE:Zeg X0.E 81 D14.sig:=D14.ok G0 Tryz.func81 ⟨ZCp,ZCF,trivial⟩ rfl rfl (by kernel_rfl)
noncomputable def D15:FD U:=⟨49,Tryz.f49,[D14.sg],[.p (.int .i64),.p (.int .i64)],[],[.p (.st 1)],[],[],Zoo,Zoo,
.nil⟩
theorem Zy4:Zeg X0.E 49 D15.sig:=D15.ok G0 Tryz.func49 ⟨ZCE,trivial⟩ rfl rfl (by kernel_rfl)
noncomputable def D16:FD U:=⟨23,Tryz.f23,[D15.sg],[.p (.int .i64)],[],[.p (.st 1)],[],[],ZnN,ZnN,
.nil⟩
theorem Zz3:Zeg X0.E 23 D16.sig:=D16.ok G0 Tryz.func23 ⟨Zy4,trivial⟩ rfl rfl (by kernel_rfl)
noncomputable def D17:FD U:=⟨52,Tryz.f52,[],[.p (.int .u64),.p (.int .u64)],[],[.p (.int .u64),.p (.int .u64)],[],[],ZsK,ZsK,
.nil⟩
theorem ZCD:Zeg X0.E 52 D17.sig:=D17.ok G0 Tryz.func52 trivial rfl rfl (by kernel_rfl)
noncomputable def D19:FD U:=⟨131,Tryz.f131,[],[.p (.int .u64)],[],[.p (.int .i64)],[],[],ZtJ,ZtJ,
.j 911 [0,2] [] [qe3,qe0] [] ZtY <|
.j 9111 [0,2] [] [qe3,qe0] [] ZtX <|
.j 91111 [0,2] [] [qe3,qe0] [] ZtW <|
.nil⟩
theorem Zz2:Zeg X0.E 131 D19.sig:=D19.ok G0 Tryz.func131 trivial rfl rfl (by kernel_rfl)
noncomputable def D20:FD U:=⟨87,Tryz.f87,[D19.sg],[.p (.int .u64)],[],[.p (.int .i64)],[],[],ZrP,ZrP,
.nil⟩
theorem ZCC:Zeg X0.E 87 D20.sig:=D20.ok G0 Tryz.func87 ⟨Zz2,trivial⟩ rfl rfl (by kernel_rfl)
noncomputable def D21:FD U:=⟨54,Tryz.f54,[D20.sg],[.p (.int .u64),.p (.int .u64),.p (.int .u64)],[],[.p (.int .u64),.p (.int .u64)],[],[],ZsM,ZsM,
.lo 94011111111111111 [2,8,9,10,11,13,14,15,16] [] qs4 [] 0 [2,8,9,10,11,13,14,15] [] [qe3,qe3,qe3,qe3,qe3,qe3,qe3,qe3] [] Zsv ZuT (fun n0=> .j 91054011111111111111 [2,8,9,10,11,13,14,15,16,78] [] qs3 [] (Zt0 (Zsv n0)) <|
.nil) <|
.lo 940111111111111111111 [2,8,9,10,14,15,16,17,18] [] qs4 [] 2 [2,8,14,15,17,18] [] [qe3,qe3,qe3,qe3,qe3,qe3] [] Zsu ZuS (fun n0=> .j 910540111111111111111111 [2,8,9,10,14,15,16,17,18,113] [] qs3 [] (ZtZ (Zsu n0)) <|
.nil) <|
.nil⟩
theorem ZCB:Zeg X0.E 54 D21.sig:=D21.ok G0 Tryz.func54 ⟨ZCC,trivial⟩ rfl rfl (by kernel_rfl)
noncomputable def D22:FD U:=⟨55,Tryz.f55,[],[.p (.st 1)],[],[.p (.st 1)],[],[],Zwr,Zwr,
.nil⟩
theorem ZCA:Zeg X0.E 55 D22.sig:=D22.ok G0 Tryz.func55 trivial rfl rfl (by kernel_rfl)
noncomputable def D23:FD U:=⟨25,Tryz.f25,[D17.sg,(53,Zvo.sig),D21.sg,D22.sg],[.p (.sl (.st 1)),.p (.int .i64),.p (.int .i64)],[],[.p (.st 1),.p (.int .i64)],[],[],Zp8,Zp8,
.j 91401 [0,1,2,6,13] [] [qe9,qe0,qe0,qe5,qe7] qp0 Zr0 <|
.nil⟩
theorem Zz1:Zeg X0.E 25 D23.sig:=D23.ok G0 Tryz.func25 ⟨ZCD,ZvW,ZCB,ZCA,trivial⟩ rfl rfl (by kernel_rfl)
noncomputable def D24:FD U:=⟨155,Tryz.f155,[],[.p (.st 0)],[],[.p .bool],[],[],ZqJ,ZqJ,
.j 9111 [2] [] [qe7] [] Zow <|
.nil⟩
theorem ZCz:Zeg X0.E 155 D24.sig:=D24.ok G0 Tryz.func155 trivial rfl rfl (by kernel_rfl)
noncomputable def D25:FD U:=⟨109,Tryz.f109,[D24.sg],[.p (.sl (.st 0))],[],[.p .bool],[],[],ZsR,ZsR,
.lr 94101 [5,6,7] [] [.o (.v (.sl (.st 0))),qe0,qe0] [] 0 [] [] [] [] Zte Zvq (fun _=> .nil) <|
.nil⟩
theorem Zz0:Zeg X0.E 109 D25.sig:=D25.ok G0 Tryz.func109 ⟨ZCz,trivial⟩ rfl rfl (by kernel_rfl)
noncomputable def D26:FD U:=⟨204,Tryz.f204,[],[.p (.int .i64)],[],[.p .bool],[],[],ZtB,ZtB,
.nil⟩
theorem ZCy:Zeg X0.E 204 D26.sig:=D26.ok G0 Tryz.func204 trivial rfl rfl (by kernel_rfl)
noncomputable def D27:FD U:=⟨157,Tryz.f157,[D26.sg],[.p (.int .i64),.p (.int .i64)],[],[.p (.int .i64)],[],[],ZsS,ZsS,
.nil⟩
theorem ZCx:Zeg X0.E 157 D27.sig:=D27.ok G0 Tryz.func157 ⟨ZCy,trivial⟩ rfl rfl (by kernel_rfl)
noncomputable def D28:FD U:=⟨205,Tryz.f205,[],[.p (.int .u32)],[],[.p .bool],[],[],Ztf,Ztf,
.nil⟩
theorem ZCw:Zeg X0.E 205 D28.sig:=D28.ok G0 Tryz.func205 trivial rfl rfl (by kernel_rfl)
noncomputable def D29:FD U:=⟨158,Tryz.f158,[D28.sg],[.p (.int .u32),.p (.int .u32)],[],[.p (.int .i64)],[],[],ZsA,ZsA,
.nil⟩
theorem ZCv:Zeg X0.E 158 D29.sig:=D29.ok G0 Tryz.func158 ⟨ZCw,trivial⟩ rfl rfl (by kernel_rfl)
noncomputable def D30:FD U:=⟨111,Tryz.f111,[D27.sg,D29.sg],[.p (.sl (.int .u32)),.p (.sl (.int .u32))],[],[.p (.int .i64)],[],[],Zoi,Zoi,
.lr 941011 [0,1,6] [] qs1 [] 0 [] [] [] [] Zqg ZrB (fun _=> .nil) <|
.nil⟩
theorem Zy2:Zeg X0.E 111 D30.sig:=D30.ok G0 Tryz.func111 ⟨ZCx,ZCv,trivial⟩ rfl rfl (by kernel_rfl)
noncomputable def D31:FD U:=⟨199,Tryz.f199,[],[.p (.sl (.int .u32))],[],[.own (.int .u32)],[],[],Zn9,Zn9,
.j 9101 [0,4] [] [qe1,qe7] [] ZnI <|
.nil⟩
theorem ZzZ:Zeg X0.E 199 D31.sig:=D31.ok G0 Tryz.func199 trivial rfl rfl (by kernel_rfl)
noncomputable def D32:FD U:=⟨231,Tryz.f231,[],[.p (.int .u32),.p (.int .u32),.p (.int .u32)],[],[.p (.int .u32),.p (.int .u32)],[],[],ZsN,ZsN,
.j 9101 [0,1,2,15] [] [Zxu,Zxu,Zxu,qe7] [] Zrc <|
.nil⟩
theorem ZCu:Zeg X0.E 231 D32.sig:=D32.ok G0 Tryz.func231 trivial rfl rfl (by kernel_rfl)
noncomputable def D33:FD U:=⟨178,Tryz.f178,[],[.p (.sl (.int .u32))],[],[.p (.sl (.int .u32))],[],[],ZnX,ZnX,
.lo 9401 [0] [] [qe1] [] 0 [0] [] [qe1] [] ZoG Ztt (fun n0=> .j 9105401 [0,14] [] [qe1,qe7] [] (Zr2 (ZoG n0)) <|
.nil) <|
.nil⟩
theorem Zxk:Zeg X0.E 178 D33.sig:=D33.ok G0 Tryz.func178 trivial rfl rfl (by kernel_rfl)
noncomputable def D34:FD U:=⟨200,Tryz.f200,[D32.sg,D33.sg],[.p (.sl (.int .u32)),.p (.int .u32)],[],[.p (.sl (.int .u32)),.p (.int .u32)],[],[],ZqA,ZqA,
.lo 9410111 [0,1,6,7,8] [] [qe1,Zxu,qe6,Zxu,qe0] [qo2] 0 [6,7] [] [qe6,Zxu] [qo2] ZqT Zsm (fun _=> .nil) <|
.nil⟩
theorem ZCt:Zeg X0.E 200 D34.sig:=D34.ok G0 Tryz.func200 ⟨ZCu,Zxk,trivial⟩ rfl rfl (by kernel_rfl)
noncomputable def D35:FD U:=⟨148,Tryz.f148,[],[.p (.int .u32)],[],[.p (.int .i64)],[],[],ZsL,ZsL,
.j 911 [0,2] [] [Zxu,qe0] [] Zst <|
.j 9111 [0,2] [] [Zxu,qe0] [] Zql <|
.nil⟩
theorem ZCs:Zeg X0.E 148 D35.sig:=D35.ok G0 Tryz.func148 trivial rfl rfl (by kernel_rfl)
noncomputable def D36:FD U:=⟨201,Tryz.f201,[D35.sg],[.p (.int .u32)],[],[.p (.int .i64)],[],[],Zpf,Zpf,
.nil⟩
theorem ZCr:Zeg X0.E 201 D36.sig:=D36.ok G0 Tryz.func201 ⟨ZCs,trivial⟩ rfl rfl (by kernel_rfl)
noncomputable def D37:FD U:=⟨202,Tryz.f202,[],[.p (.sl (.int .u32)),.p (.int .i64)],[],[.own (.int .u32)],[],[],ZoF,ZoF,
.lo 941011 [1,5,13,14,15] [] [qe0,qe6,qe1,qe0,qe0] [qo2] 0 [5] [] [qe6] [qo2] Zqe Zrz (fun _=> .nil) <|
.nil⟩
theorem ZCq:Zeg X0.E 202 D37.sig:=D37.ok G0 Tryz.func202 trivial rfl rfl (by kernel_rfl)
noncomputable def D38:FD U:=⟨179,Tryz.f179,[],[.p (.int .u32),.p (.int .u32),.p (.int .u32)],[],[.p (.int .u32),.p (.int .u32)],[],[],ZqF,ZqF,
.nil⟩
theorem ZzY:Zeg X0.E 179 D38.sig:=D38.ok G0 Tryz.func179 trivial rfl rfl (by kernel_rfl)
noncomputable def D39:FD U:=⟨176,Tryz.f176,[],[.p (.int .u32),.p (.int .u32),.p (.int .u32)],[],[.p (.int .u32),.p (.int .u32)],[],[],Zrl,Zrl,
.nil⟩
theorem ZzX:Zeg X0.E 176 D39.sig:=D39.ok G0 Tryz.func176 trivial rfl rfl (by kernel_rfl)
noncomputable def D40:FD U:=⟨203,Tryz.f203,[D38.sg,D39.sg],[.part (.int .u32),.p (.sl (.int .u32))],[(0,.arr (.int .u32))],[.p (.int .u32)],[],[],Zt6,Ztd,
.lo 94011111 [0,1,5,7,8] [] [Zy6,qe1,qe0,qe3,qe3] [qo2] 0 [0,1,5,7] [] [Zy6,qe1,qe0,qe3] [qo2] ZqH ZsY (fun n0=> .j 91054011111 [0,1,5,7,8,71] [] [Zy6,qe1,qe0,qe3,qe3,qe7] [qo2] (ZrE (ZqH n0)) <|
.nil) <|
.lo 941011111111 [0,1,5,7,9,10,82,83,84] [] [Zy6,qe1,qe0,qe3,Zxu,qe3,qe1,qe0,qe0] [qo2] 2 [0,1,5,7,9,10] [] [Zy6,qe1,qe0,qe3,Zxu,qe3] [qo2] ZsW Zt8 (fun _=> .nil) <|
.lo 941011111111111 [0,5,7,13,130,131,132] [] [Zy6,qe0,qe3,Zxu,qe1,qe0,qe0] [qo2] 4 [0,5,7,13] [] [Zy6,qe0,qe3,Zxu] [qo2] ZrD ZsX (fun _=> .nil) <|
.nil⟩
theorem ZCo:Zeg X0.E 203 D40.sig:=D40.okA G0 Tryz.func203 ⟨ZzY,ZzX,trivial⟩ (by kernel_rfl) (by kernel_rfl)
noncomputable def D41:FD U:=⟨178,Tryz.f178,[],[.part (.int .u32)],[(0,.arr (.int .u32))],[.view 0],[],[],Zsw,ZrJ,
.lo 9401 [0] [] [Zy6] [qo2] 0 [0] [] [Zy6] [qo2] Zqh ZsV (fun n0=> .j 9105401 [0,14] [] [Zy6,qe7] [qo2] (Zrj (Zqh n0)) <|
.nil) <|
.nil⟩
theorem ZCn:Zeg X0.E 178 D41.sig:=D41.okA G0 Tryz.func178 trivial (by kernel_rfl) (by kernel_rfl)
noncomputable def D42:FD U:=⟨177,Tryz.f177,[],[.p (.sl (.int .u32)),.p (.int .i64)],[],[.p (.int .u32)],[],[],ZpN,ZpN,
.nil⟩
theorem ZzW:Zeg X0.E 177 D42.sig:=D42.ok G0 Tryz.func177 trivial rfl rfl (by kernel_rfl)
noncomputable def D43:FD U:=⟨177,Tryz.f177,[],[.part (.int .u32),.p (.int .i64)],[(0,.arr (.int .u32))],[.p (.int .u32)],[],[],Zts,Zrh,
.nil⟩
theorem ZCm:Zeg X0.E 177 D43.sig:=D43.okA G0 Tryz.func177 trivial (by kernel_rfl) (by kernel_rfl)
noncomputable def D44:FD U:=⟨156,Tryz.f156,[D30.sg,D31.sg,D34.sg,D33.sg,D36.sg,D37.sg,D40.sg,D41.sg,D43.sg],[.p (.sl (.int .u32)),.p (.sl (.int .u32))],[],[.p (.sl (.int .u32)),.p (.sl (.int .u32))],[],[(84,7)],Zo9,Zo9,
.lo 9410111111 [8,9,10,11,12,13] [11] [qe0,qe0,qe6,qe1,Zy7,qe0] [qo2,qo2] 1 [8,9,10,12] [] [qe0,qe0,qe6,Zy7] [qo2,qo2] ZpS ZsQ (fun _=> .nil) <|
.lo 941011111111 [9,12,14,86,87] [] [qe0,qe6,.o (.sl (0,2,1)),qe0,qe0] [qo2,qo2] 3 [12,14] [] [qe6,.o (.sl (0,2,1))] [qo2,qo2] ZpR ZsP (fun _=> .nil) <|
.nil⟩
theorem ZzV:Zeg X0.E 156 D44.sig:=D44.ok G0 Tryz.func156 ⟨Zy2,ZzZ,ZCt,Zxk,ZCr,ZCq,ZCo,ZCn,ZCm,trivial⟩ rfl rfl (by kernel_rfl)
noncomputable def D45:FD U:=⟨110,Tryz.f110,[D44.sg],[.p (.sl (.int .u32)),.p (.sl (.int .u32))],[],[.p (.sl (.int .u32))],[],[],Zpb,Zpb,
.lo 9401 [0,1] [] [qe1,qe1] [] 0 [0] [] [qe1] [] Zom ZrU (fun _=> .nil) <|
.nil⟩
theorem ZzU:Zeg X0.E 110 D45.sig:=D45.ok G0 Tryz.func110 ⟨ZzV,trivial⟩ rfl rfl (by kernel_rfl)
noncomputable def D46:FD U:=⟨72,Tryz.f72,[D25.sg,D45.sg,D30.sg],[.p (.st 1)],[],[.p .bool],[],[],ZrV,ZrV,
.j 911 [2] [] [qe7] [] ZqI <|
.nil⟩
theorem ZCl:Zeg X0.E 72 D46.sig:=D46.ok G0 Tryz.func72 ⟨Zz0,ZzU,Zy2,trivial⟩ rfl rfl (by kernel_rfl)
noncomputable def D47:FD U:=⟨135,Tryz.f135,[D33.sg],[.p (.sl (.int .u32)),.p (.sl (.int .u32))],[],[.p (.sl (.int .u32))],[],[],ZoX,ZoX,
.lo 941011 [1,5,17,18,19] [] [qe1,qe6,qe1,qe0,qe0] [qo2] 0 [5] [] [qe6] [qo2] ZpC Zsk (fun n0=> .lo 9410114011541011 [1,5,6,7,8,17,18,19,24,25,26] [] [qe1,qe6,qe0,Zxu,qe3,qe1,qe0,qe0,qe1,qe0,qe0] [qo2] 2 [1,5,6,8,17,18,19] [] [qe1,qe6,qe0,qe3,qe1,qe0,qe0] [qo2] ZqS (Zsl (ZpC n0)) (fun _=> .nil) <|
.nil) <|
.nil⟩
theorem ZzT:Zeg X0.E 135 D47.sig:=D47.ok G0 Tryz.func135 ⟨Zxk,trivial⟩ rfl rfl (by kernel_rfl)
noncomputable def D48:FD U:=⟨132,Tryz.f132,[],[.p .bool,.p (.sl (.int .u32))],[],[.p (.st 0)],[],[],Zn2,Zn2,
.j 911 [4] [] [qe5] [qo27,qo2] Zsx <|
.nil⟩
theorem ZxL:Zeg X0.E 132 D48.sig:=D48.ok G0 Tryz.func132 trivial rfl rfl (by kernel_rfl)
noncomputable def D49:FD U:=⟨89,Tryz.f89,[D47.sg,D48.sg],[.p (.st 0),.p (.st 0)],[],[.p (.st 0)],[],[],Zpk,Zpk,
.nil⟩
theorem ZCk:Zeg X0.E 89 D49.sig:=D49.ok G0 Tryz.func89 ⟨ZzT,ZxL,trivial⟩ rfl rfl (by kernel_rfl)
noncomputable def D50:FD U:=⟨90,Tryz.f90,[],[.p (.st 0)],[],[.p (.st 0)],[],[],ZrC,ZrC,
.j 911 [2] [] [qe5] [ZAd] ZrK <|
.nil⟩
theorem ZCi:Zeg X0.E 90 D50.sig:=D50.ok G0 Tryz.func90 trivial rfl rfl (by kernel_rfl)
noncomputable def D51:FD U:=⟨133,Tryz.f133,[D42.sg,D39.sg,D33.sg],[.p (.sl (.int .u32)),.p (.sl (.int .u32))],[],[.p (.sl (.int .u32))],[],[],ZpQ,ZpQ,
.lo 9410111 [0,1,5,6,20,21] [] [qe1,qe1,qe6,Zxu,qe0,qe0] [qo2] 0 [5,6] [] [qe6,Zxu] [qo2] Zq0 ZsO (fun _=> .nil) <|
.nil⟩
theorem ZzS:Zeg X0.E 133 D51.sig:=D51.ok G0 Tryz.func133 ⟨ZzW,ZzX,Zxk,trivial⟩ rfl rfl (by kernel_rfl)
noncomputable def D52:FD U:=⟨134,Tryz.f134,[D42.sg,D38.sg,D33.sg],[.p (.sl (.int .u32)),.p (.sl (.int .u32))],[],[.p (.sl (.int .u32))],[],[],Zpp,Zpp,
.lo 9410111 [0,1,5,6,12,13] [] [qe1,qe1,qe6,Zxu,qe0,qe0] [qo2] 0 [5] [] [qe6] [qo2] ZqU Zsn (fun _=> .nil) <|
.nil⟩
theorem ZCh:Zeg X0.E 134 D52.sig:=D52.ok G0 Tryz.func134 ⟨ZzW,ZzY,Zxk,trivial⟩ rfl rfl (by kernel_rfl)
noncomputable def D53:FD U:=⟨88,Tryz.f88,[D51.sg,D48.sg,D30.sg,D52.sg],[.p (.st 0),.p (.st 0)],[],[.p (.st 0)],[],[],Zt5,Zt5,
.nil⟩
theorem ZCg:Zeg X0.E 88 D53.sig:=D53.ok G0 Tryz.func88 ⟨ZzS,ZxL,Zy2,ZCh,trivial⟩ rfl rfl (by kernel_rfl)
noncomputable def D54:FD U:=⟨56,Tryz.f56,[D46.sg,D49.sg,D50.sg,D53.sg],[.p (.st 1),.p (.st 1)],[],[.p (.int .i64)],[],[],ZqV,ZqV,
.j 9101 [2,3,13] [] [qe5,ZxW,qe7] [ZxV,ZxV] ZtN <|
.nil⟩
theorem Zyf:Zeg X0.E 56 D54.sig:=D54.ok G0 Tryz.func56 ⟨ZCl,ZCk,ZCi,ZCg,trivial⟩ rfl rfl (by kernel_rfl)
noncomputable def D55:FD U:=⟨57,Tryz.f57,[D54.sg],[.p (.sl (.st 1)),.p (.int .i64),.p (.st 1)],[],[.p (.int .i64)],[],[],ZsI,ZsI,
.lo 9401 [0,1,5] [] [qe9,qe0,qe5] [ZxV] 0 [1] [] [qe0] [] ZrZ Zuj (fun n0=> .j 9105401 [0,1,5,19] [] [qe9,qe0,qe5,qe7] [ZxV] (Ztc (ZrZ n0)) <|
.nil) <|
.nil⟩
theorem ZCf:Zeg X0.E 57 D55.sig:=D55.ok G0 Tryz.func57 ⟨Zyf,trivial⟩ rfl rfl (by kernel_rfl)
noncomputable def D56:FD U:=⟨181,Tryz.f181,[D33.sg],[.p (.int .u64)],[],[.p (.sl (.int .u32))],[],[],Zqj,Zqj,
.nil⟩
theorem ZzR:Zeg X0.E 181 D56.sig:=D56.ok G0 Tryz.func181 ⟨Zxk,trivial⟩ rfl rfl (by kernel_rfl)
noncomputable def D57:FD U:=⟨137,Tryz.f137,[D56.sg,D48.sg],[.p (.int .i64)],[],[.p (.st 0)],[],[],Zq1,Zq1,
.nil⟩
theorem ZCe:Zeg X0.E 137 D57.sig:=D57.ok G0 Tryz.func137 ⟨ZzR,ZxL,trivial⟩ rfl rfl (by kernel_rfl)
noncomputable def D58:FD U:=⟨180,Tryz.f180,[D45.sg,D44.sg,D48.sg],[.p (.st 0),.p (.st 0)],[],[.p (.st 1)],[],[],Zqi,Zqi,
.nil⟩
theorem ZzQ:Zeg X0.E 180 D58.sig:=D58.ok G0 Tryz.func180 ⟨ZzU,ZzV,ZxL,trivial⟩ rfl rfl (by kernel_rfl)
noncomputable def D59:FD U:=⟨136,Tryz.f136,[D25.sg,D58.sg],[.p (.st 0),.p (.st 0)],[],[.p (.st 1),.p (.int .i64)],[],[],Ztx,Ztx,
.nil⟩
theorem ZCd:Zeg X0.E 136 D59.sig:=D59.ok G0 Tryz.func136 ⟨Zz0,ZzQ,trivial⟩ rfl rfl (by kernel_rfl)
noncomputable def D60:FD U:=⟨91,Tryz.f91,[D57.sg,D59.sg],[.p (.int .i64),.p (.int .i64)],[],[.p (.st 1),.p (.int .i64)],[],[],ZtM,ZtM,
.nil⟩
theorem ZzP:Zeg X0.E 91 D60.sig:=D60.ok G0 Tryz.func91 ⟨ZCe,ZCd,trivial⟩ rfl rfl (by kernel_rfl)
noncomputable def D61:FD U:=⟨59,Tryz.f59,[D60.sg],[],[],[.p (.st 1)],[],[],Zuu,Zuu,
.nil⟩
theorem Zy1:Zeg X0.E 59 D61.sig:=D61.ok G0 Tryz.func59 ⟨ZzP,trivial⟩ rfl rfl (by kernel_rfl)
noncomputable def D62:FD U:=⟨58,Tryz.f58,[D60.sg,D61.sg],[.p (.int .i64),.p (.int .i64)],[],[.p (.st 1)],[],[],Zwd,Zwd,
.nil⟩
theorem ZzO:Zeg X0.E 58 D62.sig:=D62.ok G0 Tryz.func58 ⟨ZzP,Zy1,trivial⟩ rfl rfl (by kernel_rfl)
noncomputable def D63:FD U:=⟨26,Tryz.f26,[D54.sg,D55.sg,D62.sg],[.p (.sl (.st 1)),.p (.sl (.st 1))],[],[.p (.st 1),.p (.int .i64)],[],[],Zot,Zot,
.j 9101 [0,1,4,17] [] [qe9,qe9,qe5,qe7] qp0 ZrI <|
.lo 940111 [0,1,4,6,7,8] [] [qe9,qe9,qe5,qe0,qe0,qe0] qp0 0 [0,1,4,6] [] [qe9,qe9,qe5,qe0] qp0 Zpo Zs7 (fun n0=> .j 910540111 [0,1,4,6,7,8,28] [] [qe9,qe9,qe5,qe0,qe0,qe0,qe7] qp0 (ZrH (Zpo n0)) <|
.j 91141540111 [0,1,4,6,7,8,9] [] [qe9,qe9,qe5,qe0,qe0,qe0,ZxW] [ZCY,ZxV,qo2,qo2] (Zqz (Zpo n0)) <|
.nil) <|
.nil⟩
theorem ZzN:Zeg X0.E 26 D63.sig:=D63.ok G0 Tryz.func26 ⟨Zyf,ZCf,ZzO,trivial⟩ rfl rfl (by kernel_rfl)
noncomputable def D64:FD U:=⟨48,Tryz.f48,[],[.p (.st 0),.p (.st 0)],[],[.p .bool],[],[],ZoH,ZoH,
.j 9101 [2,3,20] [] [qe5,ZxW,qe7] [ZAd,ZAd] ZpE <|
.lr 941011 [3,22,23,24] [] [qe5,qe1,qe0,qe0] [ZAd] 0 [] [] [] [] ZpD Zq3 (fun _=> .nil) <|
.nil⟩
theorem ZCc:Zeg X0.E 48 D64.sig:=D64.ok G0 Tryz.func48 trivial rfl rfl (by kernel_rfl)
noncomputable def D65:FD U:=⟨20,Tryz.f20,[D64.sg],[.p (.st 1),.p (.st 1)],[],[.p .bool],[],[],ZnY,ZnY,
.j 911 [4] [] [qe7] [] Zqq <|
.nil⟩
theorem Zy0:Zeg X0.E 20 D65.sig:=D65.ok G0 Tryz.func20 ⟨ZCc,trivial⟩ rfl rfl (by kernel_rfl)
noncomputable def D66:FD U:=⟨139,Tryz.f139,[],[],[],[.map (.int .i64) (.st 4)],[],[],ZuX,ZuX,
.nil⟩
theorem ZzM:Zeg X0.E 139 D66.sig:=D66.ok G0 Tryz.func139 trivial rfl rfl (by kernel_rfl)
noncomputable def D68:FD U:=⟨182,Tryz.f182,[(214,ZuO.sig)],[.p .str],[],[.p .str],[],[],Zwi,Zwi,
.nil⟩
theorem ZCb:Zeg X0.E 182 D68.sig:=D68.ok G0 Tryz.func182 ⟨Zvm,trivial⟩ rfl rfl (by kernel_rfl)
noncomputable def D69:FD U:=⟨257,Tryz.f257,[],[.p .str,.p .str],[],[.p .bool],[],[],Zo3,Zo3,
.j 911 [4] [] [qe7] [] ZpM <|
.nil⟩
theorem ZzL:Zeg X0.E 257 D69.sig:=D69.ok G0 Tryz.func257 trivial rfl rfl (by kernel_rfl)
noncomputable def D70:FD U:=⟨243,Tryz.f243,[D69.sg],[.p .str,.p .str],[],[.p .str,.p .bool],[],[],Zqp,Zqp,
.nil⟩
theorem ZCa:Zeg X0.E 243 D70.sig:=D70.ok G0 Tryz.func243 ⟨ZzL,trivial⟩ rfl rfl (by kernel_rfl)
noncomputable def D71:FD U:=⟨218,Tryz.f218,[D70.sg],[.p .str,.p .str],[],[.p .str,.p .bool],[],[],Zt7,Zt7,
.nil⟩
theorem ZB9:Zeg X0.E 218 D71.sig:=D71.ok G0 Tryz.func218 ⟨ZCa,trivial⟩ rfl rfl (by kernel_rfl)
noncomputable def D72:FD U:=⟨244,Tryz.f244,[D69.sg],[.p .str,.p .str],[],[.p .str],[],[],Zqa,Zqa,
.nil⟩
theorem ZB8:Zeg X0.E 244 D72.sig:=D72.ok G0 Tryz.func244 ⟨ZzL,trivial⟩ rfl rfl (by kernel_rfl)
noncomputable def D73:FD U:=⟨219,Tryz.f219,[D72.sg],[.p .str,.p .str],[],[.p .str],[],[],ZtT,ZtT,
.nil⟩
theorem ZB7:Zeg X0.E 219 D73.sig:=D73.ok G0 Tryz.func219 ⟨ZB8,trivial⟩ rfl rfl (by kernel_rfl)
noncomputable def D75:FD U:=⟨256,Tryz.f256,[(275,ZrL.sig)],[.p .str,.p .str],[],[.p (.int .i64)],[],[],Zrg,Zrg,
.j 914011 [0,1,5,16] [] [Zyj,Zyj,qe0,qe7] [] ZqG <|
.nil⟩
theorem ZB6:Zeg X0.E 256 D75.sig:=D75.ok G0 Tryz.func256 ⟨Zt2,trivial⟩ rfl rfl (by kernel_rfl)
noncomputable def D76:FD U:=⟨245,Tryz.f245,[D75.sg],[.p .str,.p .str],[],[.p .str,.p .str,.p .bool],[],[],ZrQ,ZrQ,
.nil⟩
theorem ZB5:Zeg X0.E 245 D76.sig:=D76.ok G0 Tryz.func245 ⟨ZB6,trivial⟩ rfl rfl (by kernel_rfl)
noncomputable def D77:FD U:=⟨220,Tryz.f220,[D76.sg],[.p .str,.p .str],[],[.p .str,.p .str,.p .bool],[],[],Zu5,Zu5,
.nil⟩
theorem ZzK:Zeg X0.E 220 D77.sig:=D77.ok G0 Tryz.func220 ⟨ZB5,trivial⟩ rfl rfl (by kernel_rfl)
noncomputable def D78:FD U:=⟨221,Tryz.f221,[(214,ZuO.sig)],[.p .str,.p (.int .i64)],[],[.p .bool],[],[],ZtL,ZtL,
.j 911 [4] [] [qe7] [] Zsy <|
.nil⟩
theorem ZB4:Zeg X0.E 221 D78.sig:=D78.ok G0 Tryz.func221 ⟨Zvm,trivial⟩ rfl rfl (by kernel_rfl)
noncomputable def D79:FD U:=⟨187,Tryz.f187,[D71.sg,D73.sg,D77.sg,D78.sg,D31.sg,D47.sg,D56.sg,D51.sg,D48.sg,D58.sg],[.p .str],[],[.p (.st 1),.p .bool],[],[],Zq2,Zq2,
.j 9111 [2,4,5] [] [qe5,Zyj,qe7] qp0 ZtA <|
.j 9101111 [2,5,6,7,39] [] [qe5,qe7,Zyj,Zyj,qe7] qp0 Zr6 <|
.lo 941011111111 [2,5,7,9,10,11,47,48,49] [9,10] [qe5,qe7,Zyj,qe1,qe1,Zy7,ZAe,qe0,qe0] [ZCX,qo2,.arr (.int .u8) false,qo2,qo2] 0 [2,5,7,9,10,11] [] [qe5,qe7,Zyj,qe1,qe1,Zy7] [ZCY,qo2,qo2,qo2] Ztz ZuH (fun _=> .nil) <|
.lo 9410111111111 [2,5,9,10,11,63,64] [11] [qe5,qe7,qe1,qe1,qe1,qe0,qe0] qp0 2 [2,5,9,11] [] [qe5,qe7,qe1,qe1] qp0 Zty Zr5 (fun _=> .nil) <|
.nil⟩
theorem ZzJ:Zeg X0.E 187 D79.sig:=D79.ok G0 Tryz.func187 ⟨ZB9,ZB7,ZzK,ZB4,ZzZ,ZzT,ZzR,ZzS,ZxL,ZzQ,trivial⟩ rfl rfl (by kernel_rfl)
noncomputable def D82:FD U:=⟨224,Tryz.f224,[],[.p (.sl .str)],[],[.p .str],[],[],Zvh,Zvh,
.lr 941011 [3,6,7,8] [] [Zyj,.o (.v (.sl .str)),qe0,qe0] [] 0 [3] [] [Zyj] [] Zuo Zvr (fun _=> .nil) <|
.nil⟩
theorem ZB3:Zeg X0.E 224 D82.sig:=D82.ok G0 Tryz.func224 trivial rfl rfl (by kernel_rfl)
noncomputable def D83:FD U:=⟨188,Tryz.f188,[D79.sg,(222,ZuW.sig),D77.sg,(223,ZuK.sig),D82.sg],[.p .str],[],[.p .str,.p .bool],[],[],Zth,Zth,
.j 9111111 [0,9] [] [Zyj,Zyj] [] Zug <|
.j 910111111 [9,43] [] [Zyj,qe7] [] Zuf <|
.j 91111111 [9] [] [Zyj] [] Zue <|
.nil⟩
theorem ZB2:Zeg X0.E 188 D83.sig:=D83.ok G0 Tryz.func188 ⟨ZzJ,ZvO,ZzK,ZvF,ZB3,trivial⟩ rfl rfl (by kernel_rfl)
noncomputable def D84:FD U:=⟨138,Tryz.f138,[D66.sg,D68.sg,D83.sg],[.p (.int .i64),.p .str],[],[.p .str,.p .bool],[],[(26,2)],ZsC,ZsC,
.nil⟩
theorem ZB1:Zeg X0.E 138 D84.sig:=D84.ok G0 Tryz.func138 ⟨ZzM,ZCb,ZB2,trivial⟩ rfl rfl (by kernel_rfl)
noncomputable def D85:FD U:=⟨92,Tryz.f92,[D84.sg,D66.sg,D79.sg],[.p (.int .i64),.p .str],[],[.p (.st 1),.p .bool],[],[(22,2)],ZuY,ZuY,
.nil⟩
theorem ZB0:Zeg X0.E 92 D85.sig:=D85.ok G0 Tryz.func92 ⟨ZB1,ZzM,ZzJ,trivial⟩ rfl rfl (by kernel_rfl)
noncomputable def D86:FD U:=⟨60,Tryz.f60,[D61.sg,D85.sg],[.p (.st 2)],[],[.p (.st 1),.p .bool],[],[],ZoW,ZoW,
.nil⟩
theorem ZBZ:Zeg X0.E 60 D86.sig:=D86.ok G0 Tryz.func60 ⟨Zy1,ZB0,trivial⟩ rfl rfl (by kernel_rfl)
noncomputable def D87:FD U:=⟨94,Tryz.f94,[D19.sg],[.p (.int .u64)],[],[.p (.int .i64)],[],[],Zul,Zul,
.nil⟩
theorem ZBY:Zeg X0.E 94 D87.sig:=D87.ok G0 Tryz.func94 ⟨Zz2,trivial⟩ rfl rfl (by kernel_rfl)
noncomputable def D88:FD U:=⟨140,Tryz.f140,[D54.sg],[.arr (.st 1),.p (.int .i64),.p (.int .i64),.fn 56 [] []],[(0,.arr (.st 1))],[],[],[],Zoa,Zn5,
.lo 941 [0,1,2,3,8] [] [ZBb,qe0,qe0,ZBa,qe0] [qo8] 0 [] [] [] [qo8] ZnT ZoD (fun n0=> .lo 941401541 [0,1,2,3,8,9] [] [ZBb,qe0,qe0,ZBa,qe0,qe0] [qo8] 2 [0,1,2,3,8] [] [ZBb,qe0,qe0,ZBa,qe0] [qo8] ZnM (ZoE (ZnT n0)) (fun n1=> .j 910541401541 [0,1,2,3,8,9,34] [] [ZBb,qe0,qe0,ZBa,qe0,qe0,qe7] [qo8] (Zn1 (ZnM n1)) <|
.nil) <|
.nil) <|
.nil⟩
theorem ZBX:Zeg X0.E 140 D88.sig:=D88.okA G0 Tryz.func140 ⟨Zyf,trivial⟩ (by kernel_rfl) (by kernel_rfl)
noncomputable def D89:FD U:=⟨93,Tryz.f93,[D88.sg],[.arr (.st 1),.p (.int .i64),.p (.int .i64),.p (.int .i64),.fn 56 [] []],[(0,.arr (.st 1))],[],[],[],Zpz,Zou,
.lz 9411 [0,1,2,3,4,10,11] [] [ZBb,qe0,qe0,qe0,ZBa,qe7,qe7] [qo8] Zo8 (fun _=> .nil) <|
.nil⟩
theorem ZBW:Zeg X0.E 93 D89.sig:=D89.okA G0 Tryz.func93 ⟨ZBX,trivial⟩ (by kernel_rfl) (by kernel_rfl)
noncomputable def D90:FD U:=⟨61,Tryz.f61,[D87.sg,D89.sg],[.arr (.st 1),.fn 56 [] []],[(0,.arr (.st 1))],[],[],[],ZoM,ZnU,
.nil⟩
theorem ZBU:Zeg X0.E 61 D90.sig:=D90.okA G0 Tryz.func61 ⟨ZBY,ZBW,trivial⟩ (by kernel_rfl) (by kernel_rfl)
noncomputable def D91:FD U:=⟨29,Tryz.f29,[D86.sg,D90.sg],[.p (.st 3)],[],[.own (.st 1)],[],[],ZoY,ZoY,
.lo 941011 [3,9,10,11] [] [qe6,.o (.v (.sl (.st 2))),qe0,qe0] [qo8] 0 [3] [] [qe6] [qo8] ZpP Zr1 (fun n0=> .j 9111541011 [3,9,10,11] [] [qe6,.o (.v (.sl (.st 2))),qe0,qe0] [qo8] (ZqZ (ZpP n0)) <|
.nil) <|
.nil⟩
theorem ZzI:Zeg X0.E 29 D91.sig:=D91.ok G0 Tryz.func29 ⟨ZBZ,ZBU,trivial⟩ rfl rfl (by kernel_rfl)
noncomputable def D92:FD U:=⟨21,Tryz.f21,[D16.sg,D23.sg,D63.sg,D65.sg,D15.sg,D91.sg],[],[],[.p .bool],[],[],ZoC,ZoC,
.j 911111 [0] [] [qe7] [] Zoc <|
.nil⟩
theorem ZBT:Zeg X0.E 21 D92.sig:=D92.ok G0 Tryz.func21 ⟨Zz3,Zz1,ZzN,Zy0,Zy4,ZzI,trivial⟩ rfl rfl (by kernel_rfl)
noncomputable def D93:FD U:=⟨11,Tryz.f11,[],[.p (.sl (.int .i64))],[],[.box (.st 5)],[],[],ZrX,ZrX,
.nil⟩
theorem ZBS:Zeg X0.E 11 D93.sig:=D93.ok G0 Tryz.func11 trivial rfl rfl (by kernel_rfl)
noncomputable def D94:FD U:=⟨14,Tryz.f14,[],[.p (.int .i64),.p (.int .i64)],[],[.p (.int .i64)],[],[],ZoT,ZoT,
.nil⟩
theorem ZzH:Zeg X0.E 14 D94.sig:=D94.ok G0 Tryz.func14 trivial rfl rfl (by kernel_rfl)
noncomputable def D95:FD U:=⟨12,Tryz.f12,[D94.sg],[.box (.st 5),.p (.int .i64)],[(0,.box (.st 5))],[.p (.int .i64)],[],[],ZnL,ZnL,
.nil⟩
theorem Zxj:Zeg X0.E 12 D95.sig:=D95.ok G0 Tryz.func12 ⟨ZzH,trivial⟩ rfl rfl (by kernel_rfl)
noncomputable def D96:FD U:=⟨50,Tryz.f50,[D95.sg,D15.sg],[.box (.st 5)],[(0,.box (.st 5))],[.p (.st 1)],[],[],Zpy,Zpy,
.nil⟩
theorem ZBR:Zeg X0.E 50 D96.sig:=D96.ok G0 Tryz.func50 ⟨Zxj,Zy4,trivial⟩ rfl rfl (by kernel_rfl)
noncomputable def D97:FD U:=⟨68,Tryz.f68,[D4.sg,D6.sg,D9.sg],[.p (.st 1)],[],[.p .bool],[],[],Zoh,Zoh,
.j 9101 [1,24] [] [qe5,qe7] [ZxV] ZoB <|
.nil⟩
theorem ZzG:Zeg X0.E 68 D97.sig:=D97.ok G0 Tryz.func68 ⟨ZCj,Zzv,ZBP,trivial⟩ rfl rfl (by kernel_rfl)
noncomputable def D98:FD U:=⟨108,Tryz.f108,[D1.sg],[.p (.sl (.int .u32)),.p (.sl (.int .u32))],[],[.p (.sl (.int .u32))],[],[],Zqv,Zqv,
.lo 941011 [0,1,5,6] [] [qe1,qe1,qe6,qe0] [qo2] 0 [5] [] [qe6] [qo2] Zpt Zsa (fun n0=> .lo 94101401541011 [0,1,5,6,7,8] [] [qe1,qe1,qe6,qe0,qe3,qe0] [qo2] 2 [0,1,5,6,7] [] [qe1,qe1,qe6,qe0,qe3] [qo2] ZqL (Zsb (Zpt n0)) (fun _=> .nil) <|
.nil) <|
.nil⟩
theorem ZBQ:Zeg X0.E 108 D98.sig:=D98.ok G0 Tryz.func108 ⟨Zys,trivial⟩ rfl rfl (by kernel_rfl)
noncomputable def D99:FD U:=⟨70,Tryz.f70,[D98.sg,D2.sg],[.p (.st 0),.p (.st 0)],[],[.p (.st 0)],[],[],ZnK,ZnK,
.nil⟩
theorem ZzF:Zeg X0.E 70 D99.sig:=D99.ok G0 Tryz.func70 ⟨ZBQ,Zy3,trivial⟩ rfl rfl (by kernel_rfl)
noncomputable def ZDv:FD U:=⟨71,Tryz.f71,[D2.sg],[.p (.st 0)],[],[.p (.st 0)],[],[],ZpO,ZpO,
.nil⟩
theorem ZAV:Zeg X0.E 71 ZDv.sig:=ZDv.ok G0 Tryz.func71 ⟨Zy3,trivial⟩ rfl rfl (by kernel_rfl)
noncomputable def ZDu:FD U:=⟨106,Tryz.f106,[],[.p (.sl (.int .u32)),.p (.sl (.int .u32))],[],[.own (.int .u32)],[],[],Zpn,Zpn,
.lo 9410111 [0,1,5,6,7] [] qs5 [qo2] 0 [5,6] [] [qe6,qe3] [qo2] Zoq Zsj (fun n0=> .j 9105410111 [0,1,5,6,7,17] [] [qe1,qe1,qe6,qe3,qe0,qe7] [qo2] (ZoS (Zoq n0)) <|
.j 914015410111 [0,1,5,6,7] [] qs5 [qo2] (Zpx (Zoq n0)) <|
.j 9114015410111 [0,1,5,6,7] [] qs5 [qo2] (Zpw (Zoq n0)) <|
.nil) <|
.nil⟩
theorem ZAU:Zeg X0.E 106 ZDu.sig:=ZDu.ok G0 Tryz.func106 trivial rfl rfl (by kernel_rfl)
noncomputable def ZCP:FD U:=⟨69,Tryz.f69,[ZDu.sg,D2.sg,D6.sg,D7.sg],[.p (.st 0),.p (.st 0)],[],[.p (.st 0)],[],[],ZoJ,ZoJ,
.nil⟩
theorem Zy5:Zeg X0.E 69 ZCP.sig:=ZCP.ok G0 Tryz.func69 ⟨ZAU,Zy3,Zzv,ZAI,trivial⟩ rfl rfl (by kernel_rfl)
noncomputable def ZDt:FD U:=⟨37,Tryz.f37,[D97.sg,D99.sg,ZDv.sg,ZCP.sg],[.p (.st 1),.p (.st 1)],[],[.p (.int .i64)],[],[],Zqx,Zqx,
.j 9101 [2,3,13] [] [qe5,ZxW,qe7] [ZxV,ZxV] ZqQ <|
.nil⟩
theorem ZAT:Zeg X0.E 37 ZDt.sig:=ZDt.ok G0 Tryz.func37 ⟨ZzG,ZzF,ZAV,Zy5,trivial⟩ rfl rfl (by kernel_rfl)
noncomputable def ZDs:FD U:=⟨35,Tryz.f35,[ZDt.sg],[.p (.st 1),.p (.st 1)],[],[.p .bool],[],[],ZpX,ZpX,
.nil⟩
theorem ZAS:Zeg X0.E 35 ZDs.sig:=ZDs.ok G0 Tryz.func35 ⟨ZAT,trivial⟩ rfl rfl (by kernel_rfl)
noncomputable def ZDr:FD U:=⟨22,Tryz.f22,[D95.sg,D96.sg,ZDs.sg],[.box (.st 5),.p (.int .i64)],[(0,.box (.st 5))],[.own (.st 1)],[],[],ZoI,ZoI,
.lo 941011 [0,5,6] [] [ZAW,qe6,qe0] [Zyy,qo8] 0 [5] [] [qe6] [Zyy,qo8] ZoN Zq5 (fun n0=> .lo 94011401541011 [0,5,6,7,8] [] [ZAW,qe6,qe0,ZxW,qe0] [Zyy,qo8,ZxV] 2 [0,5,6,7,8] [] [ZAW,qe6,qe0,ZxW,qe0] [Zyy,qo8,ZxV] Zon (Zq6 (ZoN n0)) (fun n1=> .j 91054011401541011 [0,5,6,7,8,31] [] [ZAW,qe6,qe0,ZxW,qe0,qe7] [Zyy,qo8,ZxV] (ZpH (Zon n1)) <|
.nil) <|
.nil) <|
.nil⟩
theorem ZAR:Zeg X0.E 22 ZDr.sig:=ZDr.ok G0 Tryz.func22 ⟨Zxj,ZBR,ZAS,trivial⟩ rfl rfl (by kernel_rfl)
noncomputable def ZDq:FD U:=⟨86,Tryz.f86,[D12.sg],[.p (.st 0),.p (.st 0)],[],[.p (.st 1),.p (.int .i64)],[],[],Zps,Zps,
.j 91011 [4,6,21] [] [qe5,ZxW,qe7] [ZCY,ZxV,qo2,qo2] ZpT <|
.nil⟩
theorem ZAQ:Zeg X0.E 86 ZDq.sig:=ZDq.ok G0 Tryz.func86 ⟨Zz4,trivial⟩ rfl rfl (by kernel_rfl)
noncomputable def ZDp:FD U:=⟨51,Tryz.f51,[D97.sg,D99.sg,ZCP.sg,ZDq.sg],[.p (.st 1),.p (.st 1)],[],[.p (.st 1),.p (.int .i64)],[],[],Zqy,Zqy,
.j 9101 [2,3,4,13] [] [qe5,ZxW,ZCZ,qe7] [ZxV,ZxV,ZCX,qo2,qo2] ZqR <|
.nil⟩
theorem ZAP:Zeg X0.E 51 ZDp.sig:=ZDp.ok G0 Tryz.func51 ⟨ZzG,ZzF,Zy5,ZAQ,trivial⟩ rfl rfl (by kernel_rfl)
noncomputable def ZDo:FD U:=⟨24,Tryz.f24,[ZDp.sg],[.p (.st 1),.p (.st 1)],[],[.p (.st 1)],[],[],ZoU,ZoU,
.nil⟩
theorem ZAO:Zeg X0.E 24 ZDo.sig:=ZDo.ok G0 Tryz.func24 ⟨ZAP,trivial⟩ rfl rfl (by kernel_rfl)
noncomputable def ZDn:FD U:=⟨27,Tryz.f27,[D61.sg,D54.sg,D62.sg],[.p (.sl (.st 1)),.p (.sl (.st 1))],[],[.p (.st 1)],[],[],Zrk,Zrk,
.j 9101 [0,1,4,15] [] [qe9,qe9,qe5,qe7] qp0 Zss <|
.lo 9410111 [0,1,4,5,17,18,19] [] [qe9,qe9,qe5,qe0,qe9,qe0,qe0] qp0 0 [0,4,5] [] [qe9,qe5,qe0] qp0 Zqk ZtV (fun n0=> .j 91140115410111 [0,1,4,5,17,18,19,39] [] [qe9,qe9,qe5,qe0,qe9,qe0,qe0,qe7] qp0 (Zsr (Zqk n0)) <|
.j 91115410111 [0,1,4,5,17,18,19] [] [qe9,qe9,qe5,qe0,qe9,qe0,qe0] qp0 (Zsq (Zqk n0)) <|
.nil) <|
.nil⟩
theorem ZAN:Zeg X0.E 27 ZDn.sig:=ZDn.ok G0 Tryz.func27 ⟨Zy1,Zyf,ZzO,trivial⟩ rfl rfl (by kernel_rfl)
noncomputable def ZCH:FD U:=⟨39,Tryz.f39,[D95.sg],[.box (.st 5),.p (.sl .str)],[(0,.box (.st 5))],[.p .str],[],[],Zn4,Zn4,
.nil⟩
theorem Zx2:Zeg X0.E 39 ZCH.sig:=ZCH.ok G0 Tryz.func39 ⟨Zxj,trivial⟩ rfl rfl (by kernel_rfl)
noncomputable def ZDm:FD U:=⟨40,Tryz.f40,[D95.sg,ZCH.sg],[.box (.st 5)],[(0,.box (.st 5))],[.p (.st 2)],[],[],ZqY,ZqY,
.nil⟩
theorem ZAM:Zeg X0.E 40 ZDm.sig:=ZDm.ok G0 Tryz.func40 ⟨Zxj,Zx2,trivial⟩ rfl rfl (by kernel_rfl)
noncomputable def ZDl:FD U:=⟨41,Tryz.f41,[D95.sg,ZCH.sg,(42,ZuP.sig)],[.box (.st 5)],[(0,.box (.st 5))],[.p (.st 2)],[],[],Zp6,Zp6,
.nil⟩
theorem ZAL:Zeg X0.E 41 ZDl.sig:=ZDl.ok G0 Tryz.func41 ⟨Zxj,Zx2,Zvn,trivial⟩ rfl rfl (by kernel_rfl)
noncomputable def ZDk:FD U:=⟨13,Tryz.f13,[ZCH.sg,D95.sg,ZDm.sg,ZDl.sg,(42,ZuP.sig)],[.box (.st 5),.p (.int .i64)],[(0,.box (.st 5))],[.p (.st 3)],[],[],Zp7,Zp7,
.lo 9410111 [0,4,5,6,15,16] [] [ZAW,qe5,ZxW,qe0,qe0,qe0] [Zyy,ZCK,ZCW,Zzz,Zzz] 0 [4,5] [] [qe5,ZxW] [Zyy,ZCK,ZCW,Zzz,Zzz] Zpe ZrO (fun n0=> .j 911140115410111 [0,4,5,6,8,15,16] [] [ZAW,qe5,ZxW,qe0,ZCZ,qe0,qe0] [Zyy,ZCW,.box [.o (.v .str),.o (.full (0,5,1))],.boxS (.st 2),Zzz,Zzz] (Zol (Zpe n0)) <|
.nil) <|
.nil⟩
theorem ZAK:Zeg X0.E 13 ZDk.sig:=ZDk.ok G0 Tryz.func13 ⟨Zx2,Zxj,ZAM,ZAL,Zvn,trivial⟩ rfl rfl (by kernel_rfl)
noncomputable def ZDj:FD U:=⟨28,Tryz.f28,[D65.sg],[.p (.sl (.st 1)),.p (.sl (.st 1))],[],[.p .bool],[],[],Zo4,Zo4,
.lr 941011 [1,12,13,14] [] [qe9,qe9,qe0,qe0] [] 0 [] [] [] [] Zpj ZqW (fun _=> .nil) <|
.nil⟩
theorem ZAJ:Zeg X0.E 28 ZDj.sig:=ZDj.ok G0 Tryz.func28 ⟨Zy0,trivial⟩ rfl rfl (by kernel_rfl)
noncomputable def D116:FD U:=⟨5,Tryz.f5,[D0.sg,D92.sg,D93.sg,ZDr.sg,D94.sg,D16.sg,ZDo.sg,D23.sg,D63.sg,D65.sg,ZDn.sg,ZDk.sg,D91.sg,ZDj.sg],[.p (.sl (.int .i64)),.p (.int .i64),.p (.int .i64)],[],[.p .bool],[],[],Zo2,Zo2,
.j 9101111 [1,2,7,8,9,45] [] [qe0,qe0,qe5,Zy7,ZAe,qe7] [Zyy,qo8,qo8] Zog <|
.lo 94101111111 [2,7,8,9,10,11,12,51,52,53] [] [qe0,qe5,Zy7,ZAe,ZCN,ZCM,ZCL,Zy7,qe0,qe0] qp2 0 [2,7,8,9,10,11,12] [] [qe0,qe5,Zy7,ZAe,ZCN,ZCM,ZCL] qp2 Zof ZpL (fun _=> .nil) <|
.lo 941011111111 [2,7,8,9,10,11,12,64,65,66] [] [qe0,qe5,Zy7,ZAe,ZCN,ZCM,ZCL,ZAe,qe0,qe0] qp2 2 [2,7,8,9,10,11,12] [] [qe0,qe5,Zy7,ZAe,ZCN,ZCM,ZCL] qp2 Zoe ZoK (fun _=> .nil) <|
.j 9101111111111111 [7,140] [] [qe5,qe7] [Zyy] ZnJ <|
.lo 94101111111111111111 [25,26,145,146] [] [qe5,ZxW,qe0,qe0] [.boxS (.st 3),ZCK,Zzz] 4 [25,26] [] [qe5,ZxW] [.boxS (.st 3),ZCK,Zzz] Zod ZpK (fun _=> .nil) <|
.j 9111111111111111111 [6] [] [qe7] [] ZoL <|
.nil⟩
theorem D116_ok:Zeg X0.E 5 D116.sig:=D116.ok G0 Tryz.func5 ⟨ZDw,ZBT,ZBS,ZAR,ZzH,Zz3,ZAO,Zz1,ZzN,Zy0,ZAN,ZAK,ZzI,ZAJ,trivial⟩ rfl rfl (by kernel_rfl)
end
end Go.Proofs

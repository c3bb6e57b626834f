/- Printed by wip/tools/tgen.py: walks. -/
import Derived.Test.YthefajbigloihaaGreatDoorSnU
import Derived.Test.YthefajbigloihaaGreatDoorSnX
set_option linter.unusedVariables false
set_option linter.unusedSimpArgs false
set_option linter.unusedSectionVars false
namespace Go.Proofs
open Go Eng
set_option maxRecDepth 100000
noncomputable section
abbrev qe0:Sh:= .o (.v (.int .i64))
abbrev qe1:Sh:= .o (.v (.sl (.int .u32)))
abbrev qo2:ShO:= .arr (.int .u32) false
abbrev qo3:ShO:= .box [.o (.v .bool),.o (.full (0,2,1)),.o (.v .bool),.o (.full (0,3,1))]
abbrev qe4:Sh:= .o (.ptr (0,1,1) 0 0)
abbrev qe5:Sh:= .o (.v (.sl .str))
abbrev qe6:Sh:= .o (.full (0,1,1))
abbrev qe7:Sh:= .o (.v .bool)
abbrev qe8:Sh:= .o (.v .str)
abbrev qe9:Sh:= .o (.v (.int .u32))
abbrev ZCK:ShO:= .box [.o (.v .bool),.o (.full (0,4,1)),.o (.v .bool),.o (.full (0,5,1))]
abbrev ZxQ:Sh:= .o (.v (.int .u64))
abbrev Zy3:Sh:= .o (.sl (0,0,0))
abbrev ZAj:Sh:= .o (.ptr (0,2,1) 0 0)
abbrev Zyt:ShO:= .boxS (.st 3)
abbrev ZA9:Sh:= .o (.ptr (0,3,1) 0 0)
abbrev ZAi:ShO:= .boxS (.st 2)
abbrev qo17:ShO:= .box [.o (.v .bool),.o (.full (0,2,1))]
abbrev ZCL:Sh:= .o (.full (0,2,1))
abbrev qp0:List ShO:=[qo3,qo2,qo2]
abbrev qs1:List Sh:=[qe1,qe1,qe0]
abbrev qs2:List Sh:=[qe5,qe5,qe4,qe0,qe8,qe5,qe0,qe0,qe5,qe0,qe0]
abbrev qs3:List Sh:=[qe4,qe0,qe0,.o (.v (.sl (.st 0))),qe0,qe0]
noncomputable def D0:FD U:=⟨11,Tryz.f11,[],[.p (.sl (.int .i64))],[],[.p .bool],[],[],Zre,Zre,
.nil⟩
theorem ZDr:Zeg X0.E 11 D0.sig:=D0.ok G0 Tryz.func11 trivial rfl rfl (by kernel_rfl)
noncomputable def D2:FD U:=⟨33,Tryz.f33,[],[.p (.sl .str),.p (.sl .str)],[],[.p .bool],[],[],Zoc,Zoc,
.lr 941011 [1,12,13,14] [] [qe5,qe5,qe0,qe0] [] 0 [] [] [] [] Zol Zr0 (fun _=> .nil) <|
.nil⟩
theorem ZCv:Zeg X0.E 33 D2.sig:=D2.ok G0 Tryz.func33 trivial rfl rfl (by kernel_rfl)
noncomputable def D4:FD U:=⟨259,Tryz.f259,[],[.p .str],[],[.p .bool],[],[],ZrA,ZrA,
.nil⟩
theorem ZDg:Zeg X0.E 259 D4.sig:=D4.ok G0 Tryz.func259 trivial rfl rfl (by kernel_rfl)
noncomputable def D5:FD U:=⟨189,Tryz.f189,[D4.sg],[.p .str,.p .str],[],[.p .bool],[],[],Zsc,Zsc,
.j 911 [4] [] [qe7] [] ZqL <|
.nil⟩
theorem ZDf:Zeg X0.E 189 D5.sig:=D5.ok G0 Tryz.func189 ⟨ZDg,trivial⟩ rfl rfl (by kernel_rfl)
noncomputable def D6:FD U:=⟨260,Tryz.f260,[],[.p .str],[],[.p .bool],[],[],Zqq,Zqq,
.nil⟩
theorem ZDe:Zeg X0.E 260 D6.sig:=D6.ok G0 Tryz.func260 trivial rfl rfl (by kernel_rfl)
noncomputable def D7:FD U:=⟨192,Tryz.f192,[D5.sg,D6.sg],[.p (.sl .str),.p .str],[],[.p (.int .i64),.p .bool],[],[],Zn0,Zn0,
.lo 940111 [0,1,6,7,8] [] [qe5,qe8,qe0,qe0,qe0] [] 0 [0,1,6,7] [] [qe5,qe8,qe0,qe0] [] Zod ZoW (fun _=> .nil) <|
.j 911111 [4,5] [] [qe0,qe7] [] ZnM <|
.nil⟩
theorem ZDd:Zeg X0.E 192 D7.sig:=D7.ok G0 Tryz.func192 ⟨ZDf,ZDe,trivial⟩ rfl rfl (by kernel_rfl)
noncomputable def D8:FD U:=⟨120,Tryz.f120,[D7.sg],[.p (.sl .str),.p (.sl .str)],[],[.p (.int .i64)],[],[],Zq3,Zq3,
.lo 941011 [1,5,10,11,12] [] [qe5,qe0,qe5,qe0,qe0] [] 0 [5] [] [qe0] [] Zp2 Zsz (fun n0=> .j 9111541011 [1,5,10,11,12] [] [qe5,qe0,qe5,qe0,qe0] [] (Zrf (Zp2 n0)) <|
.nil) <|
.nil⟩
theorem ZDc:Zeg X0.E 120 D8.sig:=D8.ok G0 Tryz.func120 ⟨ZDd,trivial⟩ rfl rfl (by kernel_rfl)
noncomputable def D9:FD U:=⟨252,Tryz.f252,[],[.p (.sl (.int .u32))],[],[.p (.sl (.int .u32))],[],[],ZnQ,ZnQ,
.lo 9401 [0] [] [qe1] [] 0 [0] [] [qe1] [] Zop ZsW (fun n0=> .j 9105401 [0,14] [] [qe1,qe7] [] (Zrv (Zop n0)) <|
.nil) <|
.nil⟩
theorem Zyf:Zeg X0.E 252 D9.sig:=D9.ok G0 Tryz.func252 trivial rfl rfl (by kernel_rfl)
noncomputable def D10:FD U:=⟨255,Tryz.f255,[D9.sg],[.p (.int .u64)],[],[.p (.sl (.int .u32))],[],[],ZpP,ZpP,
.nil⟩
theorem Zz2:Zeg X0.E 255 D10.sig:=D10.ok G0 Tryz.func255 ⟨Zyf,trivial⟩ rfl rfl (by kernel_rfl)
noncomputable def D11:FD U:=⟨175,Tryz.f175,[],[.p .bool,.p (.sl (.int .u32))],[],[.p (.st 2)],[],[],ZnU,ZnU,
.j 911 [4] [] [qe4] [qo17,qo2] ZrU <|
.nil⟩
theorem Zxm:Zeg X0.E 175 D11.sig:=D11.ok G0 Tryz.func175 trivial rfl rfl (by kernel_rfl)
noncomputable def D12:FD U:=⟨180,Tryz.f180,[D10.sg,D11.sg],[.p (.int .i64)],[],[.p (.st 2)],[],[],Zqy,Zqy,
.nil⟩
theorem ZCI:Zeg X0.E 180 D12.sig:=D12.ok G0 Tryz.func180 ⟨Zz2,Zxm,trivial⟩ rfl rfl (by kernel_rfl)
noncomputable def D13:FD U:=⟨218,Tryz.f218,[],[.p (.st 2)],[],[.p .bool],[],[],Zqb,Zqb,
.j 9111 [2] [] [qe7] [] Zof <|
.nil⟩
theorem ZCH:Zeg X0.E 218 D13.sig:=D13.ok G0 Tryz.func218 trivial rfl rfl (by kernel_rfl)
noncomputable def D14:FD U:=⟨154,Tryz.f154,[D13.sg],[.p (.sl (.st 2))],[],[.p .bool],[],[],Zsb,Zsb,
.lr 94101 [5,6,7] [] [.o (.v (.sl (.st 2))),qe0,qe0] [] 0 [] [] [] [] ZsD ZuK (fun _=> .nil) <|
.nil⟩
theorem Zz1:Zeg X0.E 154 D14.sig:=D14.ok G0 Tryz.func154 ⟨ZCH,trivial⟩ rfl rfl (by kernel_rfl)
noncomputable def D15:FD U:=⟨287,Tryz.f287,[],[.p (.int .i64)],[],[.p .bool],[],[],Zs4,Zs4,
.nil⟩
theorem ZCG:Zeg X0.E 287 D15.sig:=D15.ok G0 Tryz.func287 trivial rfl rfl (by kernel_rfl)
noncomputable def D16:FD U:=⟨220,Tryz.f220,[D15.sg],[.p (.int .i64),.p (.int .i64)],[],[.p (.int .i64)],[],[],Zsd,Zsd,
.nil⟩
theorem ZCF:Zeg X0.E 220 D16.sig:=D16.ok G0 Tryz.func220 ⟨ZCG,trivial⟩ rfl rfl (by kernel_rfl)
noncomputable def D17:FD U:=⟨288,Tryz.f288,[],[.p (.int .u32)],[],[.p .bool],[],[],ZsE,ZsE,
.nil⟩
theorem ZCE:Zeg X0.E 288 D17.sig:=D17.ok G0 Tryz.func288 trivial rfl rfl (by kernel_rfl)
noncomputable def D18:FD U:=⟨221,Tryz.f221,[D17.sg],[.p (.int .u32),.p (.int .u32)],[],[.p (.int .i64)],[],[],ZrX,ZrX,
.nil⟩
theorem ZCD:Zeg X0.E 221 D18.sig:=D18.ok G0 Tryz.func221 ⟨ZCE,trivial⟩ rfl rfl (by kernel_rfl)
noncomputable def D19:FD U:=⟨156,Tryz.f156,[D16.sg,D18.sg],[.p (.sl (.int .u32)),.p (.sl (.int .u32))],[],[.p (.int .i64)],[],[],Zn2,Zn2,
.lr 941011 [0,1,6] [] qs1 [] 0 [] [] [] [] ZpN Zra (fun _=> .nil) <|
.nil⟩
theorem ZyW:Zeg X0.E 156 D19.sig:=D19.ok G0 Tryz.func156 ⟨ZCF,ZCD,trivial⟩ rfl rfl (by kernel_rfl)
noncomputable def D20:FD U:=⟨282,Tryz.f282,[],[.p (.sl (.int .u32))],[],[.own (.int .u32)],[],[],ZnZ,ZnZ,
.j 9101 [0,4] [] [qe1,qe7] [] ZnH <|
.nil⟩
theorem Zz0:Zeg X0.E 282 D20.sig:=D20.ok G0 Tryz.func282 trivial rfl rfl (by kernel_rfl)
noncomputable def D21:FD U:=⟨325,Tryz.f325,[],[.p (.int .u32),.p (.int .u32),.p (.int .u32)],[],[.p (.int .u32),.p (.int .u32)],[],[],Zr7,Zr7,
.j 9101 [0,1,2,15] [] [qe9,qe9,qe9,qe7] [] ZqK <|
.nil⟩
theorem ZCC:Zeg X0.E 325 D21.sig:=D21.ok G0 Tryz.func325 trivial rfl rfl (by kernel_rfl)
noncomputable def D22:FD U:=⟨283,Tryz.f283,[D21.sg,D9.sg],[.p (.sl (.int .u32)),.p (.int .u32)],[],[.p (.sl (.int .u32)),.p (.int .u32)],[],[],Zp3,Zp3,
.lo 9410111 [0,1,6,7,8] [] [qe1,qe9,qe6,qe9,qe0] [qo2] 0 [6,7] [] [qe6,qe9] [qo2] Zql ZrN (fun _=> .nil) <|
.nil⟩
theorem ZCB:Zeg X0.E 283 D22.sig:=D22.ok G0 Tryz.func283 ⟨ZCC,Zyf,trivial⟩ rfl rfl (by kernel_rfl)
noncomputable def D23:FD U:=⟨173,Tryz.f173,[],[.p (.int .u32)],[],[.p (.int .i64)],[],[],Zr6,Zr6,
.j 911 [0,2] [] [qe9,qe0] [] ZrS <|
.j 9111 [0,2] [] [qe9,qe0] [] ZpQ <|
.nil⟩
theorem ZCA:Zeg X0.E 173 D23.sig:=D23.ok G0 Tryz.func173 trivial rfl rfl (by kernel_rfl)
noncomputable def D24:FD U:=⟨284,Tryz.f284,[D23.sg],[.p (.int .u32)],[],[.p (.int .i64)],[],[],Zo2,Zo2,
.nil⟩
theorem ZCz:Zeg X0.E 284 D24.sig:=D24.ok G0 Tryz.func284 ⟨ZCA,trivial⟩ rfl rfl (by kernel_rfl)
noncomputable def D25:FD U:=⟨285,Tryz.f285,[],[.p (.sl (.int .u32)),.p (.int .i64)],[],[.own (.int .u32)],[],[],Zom,Zom,
.lo 941011 [1,5,13,14,15] [] [qe0,qe6,qe1,qe0,qe0] [qo2] 0 [5] [] [qe6] [qo2] ZpL Zq8 (fun _=> .nil) <|
.nil⟩
theorem ZCy:Zeg X0.E 285 D25.sig:=D25.ok G0 Tryz.func285 trivial rfl rfl (by kernel_rfl)
noncomputable def D26:FD U:=⟨253,Tryz.f253,[],[.p (.int .u32),.p (.int .u32),.p (.int .u32)],[],[.p (.int .u32),.p (.int .u32)],[],[],Zp7,Zp7,
.nil⟩
theorem ZzZ:Zeg X0.E 253 D26.sig:=D26.ok G0 Tryz.func253 trivial rfl rfl (by kernel_rfl)
noncomputable def D27:FD U:=⟨250,Tryz.f250,[],[.p (.int .u32),.p (.int .u32),.p (.int .u32)],[],[.p (.int .u32),.p (.int .u32)],[],[],ZqU,ZqU,
.nil⟩
theorem ZzY:Zeg X0.E 250 D27.sig:=D27.ok G0 Tryz.func250 trivial rfl rfl (by kernel_rfl)
noncomputable def D28:FD U:=⟨286,Tryz.f286,[D26.sg,D27.sg],[.part (.int .u32),.p (.sl (.int .u32))],[(0,.arr (.int .u32))],[.p (.int .u32)],[],[],Ztr,ZsC,
.lo 94011111 [0,1,5,7,8] [] [Zy3,qe1,qe0,ZxQ,ZxQ] [qo2] 0 [0,1,5,7] [] [Zy3,qe1,qe0,ZxQ] [qo2] Zp9 Zsl (fun n0=> .j 91054011111 [0,1,5,7,8,71] [] [Zy3,qe1,qe0,ZxQ,ZxQ,qe7] [qo2] (Zrc (Zp9 n0)) <|
.nil) <|
.lo 941011111111 [0,1,5,7,9,10,82,83,84] [] [Zy3,qe1,qe0,ZxQ,qe9,ZxQ,qe1,qe0,qe0] [qo2] 2 [0,1,5,7,9,10] [] [Zy3,qe1,qe0,ZxQ,qe9,ZxQ] [qo2] Zsj Ztt (fun _=> .nil) <|
.lo 941011111111111 [0,5,7,13,130,131,132] [] [Zy3,qe0,ZxQ,qe9,qe1,qe0,qe0] [qo2] 4 [0,5,7,13] [] [Zy3,qe0,ZxQ,qe9] [qo2] Zrb Zsk (fun _=> .nil) <|
.nil⟩
theorem ZCx:Zeg X0.E 286 D28.sig:=D28.okA G0 Tryz.func286 ⟨ZzZ,ZzY,trivial⟩ (by kernel_rfl) (by kernel_rfl)
noncomputable def D29:FD U:=⟨252,Tryz.f252,[],[.part (.int .u32)],[(0,.arr (.int .u32))],[.view 0],[],[],ZrT,Zrg,
.lo 9401 [0] [] [Zy3] [qo2] 0 [0] [] [Zy3] [qo2] ZpO Zsi (fun n0=> .j 9105401 [0,14] [] [Zy3,qe7] [qo2] (ZqT (ZpO n0)) <|
.nil) <|
.nil⟩
theorem ZCw:Zeg X0.E 252 D29.sig:=D29.okA G0 Tryz.func252 trivial (by kernel_rfl) (by kernel_rfl)
noncomputable def D30:FD U:=⟨251,Tryz.f251,[],[.p (.sl (.int .u32)),.p (.int .i64)],[],[.p (.int .u32)],[],[],Zpr,Zpr,
.nil⟩
theorem ZzX:Zeg X0.E 251 D30.sig:=D30.ok G0 Tryz.func251 trivial rfl rfl (by kernel_rfl)
noncomputable def D31:FD U:=⟨251,Tryz.f251,[],[.part (.int .u32),.p (.int .i64)],[(0,.arr (.int .u32))],[.p (.int .u32)],[],[],ZsV,ZqR,
.nil⟩
theorem ZCu:Zeg X0.E 251 D31.sig:=D31.okA G0 Tryz.func251 trivial (by kernel_rfl) (by kernel_rfl)
noncomputable def D32:FD U:=⟨219,Tryz.f219,[D19.sg,D20.sg,D22.sg,D9.sg,D24.sg,D25.sg,D28.sg,D29.sg,D31.sg],[.p (.sl (.int .u32)),.p (.sl (.int .u32))],[],[.p (.sl (.int .u32)),.p (.sl (.int .u32))],[],[(84,7)],ZoS,ZoS,
.lo 9410111111 [8,9,10,11,12,13] [11] [qe0,qe0,qe6,qe1,ZCL,qe0] [qo2,qo2] 1 [8,9,10,12] [] [qe0,qe0,qe6,ZCL] [qo2,qo2] Zpw Zsa (fun _=> .nil) <|
.lo 941011111111 [9,12,14,86,87] [] [qe0,qe6,.o (.sl (0,2,1)),qe0,qe0] [qo2,qo2] 3 [12,14] [] [qe6,.o (.sl (0,2,1))] [qo2,qo2] Zpv Zr9 (fun _=> .nil) <|
.nil⟩
theorem ZzW:Zeg X0.E 219 D32.sig:=D32.ok G0 Tryz.func219 ⟨ZyW,Zz0,ZCB,Zyf,ZCz,ZCy,ZCx,ZCw,ZCu,trivial⟩ rfl rfl (by kernel_rfl)
noncomputable def D33:FD U:=⟨155,Tryz.f155,[D32.sg],[.p (.sl (.int .u32)),.p (.sl (.int .u32))],[],[.p (.sl (.int .u32))],[],[],ZoX,ZoX,
.lo 9401 [0,1] [] [qe1,qe1] [] 0 [0] [] [qe1] [] Zn6 Zrp (fun _=> .nil) <|
.nil⟩
theorem ZzV:Zeg X0.E 155 D33.sig:=D33.ok G0 Tryz.func155 ⟨ZzW,trivial⟩ rfl rfl (by kernel_rfl)
noncomputable def D34:FD U:=⟨254,Tryz.f254,[D33.sg,D32.sg,D11.sg],[.p (.st 2),.p (.st 2)],[],[.p (.st 3)],[],[],ZoC,ZoC,
.nil⟩
theorem Zx1:Zeg X0.E 254 D34.sig:=D34.ok G0 Tryz.func254 ⟨ZzV,ZzW,Zxm,trivial⟩ rfl rfl (by kernel_rfl)
noncomputable def D35:FD U:=⟨179,Tryz.f179,[D14.sg,D34.sg],[.p (.st 2),.p (.st 2)],[],[.p (.st 3),.p (.int .i64)],[],[],Zs0,Zs0,
.nil⟩
theorem ZCt:Zeg X0.E 179 D35.sig:=D35.ok G0 Tryz.func179 ⟨Zz1,Zx1,trivial⟩ rfl rfl (by kernel_rfl)
noncomputable def D36:FD U:=⟨116,Tryz.f116,[D12.sg,D35.sg],[.p (.int .i64),.p (.int .i64)],[],[.p (.st 3),.p (.int .i64)],[],[],Zs9,Zs9,
.nil⟩
theorem ZzU:Zeg X0.E 116 D36.sig:=D36.ok G0 Tryz.func116 ⟨ZCI,ZCt,trivial⟩ rfl rfl (by kernel_rfl)
noncomputable def D37:FD U:=⟨67,Tryz.f67,[D36.sg],[],[],[.p (.st 3)],[],[],Zs7,Zs7,
.nil⟩
theorem Zx0:Zeg X0.E 67 D37.sig:=D37.ok G0 Tryz.func67 ⟨ZzU,trivial⟩ rfl rfl (by kernel_rfl)
noncomputable def D38:FD U:=⟨64,Tryz.f64,[D36.sg,D37.sg],[.p (.int .i64),.p (.int .i64)],[],[.p (.st 3)],[],[],ZtV,ZtV,
.nil⟩
theorem ZyV:Zeg X0.E 64 D38.sig:=D38.ok G0 Tryz.func64 ⟨ZzU,Zx0,trivial⟩ rfl rfl (by kernel_rfl)
noncomputable def D39:FD U:=⟨78,Tryz.f78,[D8.sg,D38.sg],[.p (.sl .str),.p (.sl .str)],[],[.p (.st 3)],[],[],Zqu,Zqu,
.nil⟩
theorem ZzT:Zeg X0.E 78 D39.sig:=D39.ok G0 Tryz.func78 ⟨ZDc,ZyV,trivial⟩ rfl rfl (by kernel_rfl)
noncomputable def D40:FD U:=⟨38,Tryz.f38,[(80,ZuO.sig),D39.sg],[.p (.st 1),.p (.st 1)],[],[.p (.st 3)],[],[],Zq4,Zq4,
.nil⟩
theorem ZCs:Zeg X0.E 38 D40.sig:=D40.ok G0 Tryz.func38 ⟨Zvw,ZzT,trivial⟩ rfl rfl (by kernel_rfl)
noncomputable def D41:FD U:=⟨36,Tryz.f36,[(34,ZrY.sig),D39.sg],[.p .str,.p .str],[],[.p (.st 3)],[],[],Zqw,Zqw,
.nil⟩
theorem ZzS:Zeg X0.E 36 D41.sig:=D41.ok G0 Tryz.func36 ⟨Zsm,ZzT,trivial⟩ rfl rfl (by kernel_rfl)
noncomputable def D42:FD U:=⟨101,Tryz.f101,[D14.sg,D33.sg,D19.sg],[.p (.st 3)],[],[.p .bool],[],[],Zov,Zov,
.j 911 [2] [] [qe7] [] Zqa <|
.nil⟩
theorem ZxZ:Zeg X0.E 101 D42.sig:=D42.ok G0 Tryz.func101 ⟨Zz1,ZzV,ZyW,trivial⟩ rfl rfl (by kernel_rfl)
noncomputable def D43:FD U:=⟨178,Tryz.f178,[D9.sg],[.p (.sl (.int .u32)),.p (.sl (.int .u32))],[],[.p (.sl (.int .u32))],[],[],Zoz,Zoz,
.lo 941011 [1,5,17,18,19] [] [qe1,qe6,qe1,qe0,qe0] [qo2] 0 [5] [] [qe6] [qo2] Zph ZrL (fun n0=> .lo 9410114011541011 [1,5,6,7,8,17,18,19,24,25,26] [] [qe1,qe6,qe0,qe9,ZxQ,qe1,qe0,qe0,qe1,qe0,qe0] [qo2] 2 [1,5,6,8,17,18,19] [] [qe1,qe6,qe0,ZxQ,qe1,qe0,qe0] [qo2] Zqk (ZrM (Zph n0)) (fun _=> .nil) <|
.nil) <|
.nil⟩
theorem ZzR:Zeg X0.E 178 D43.sig:=D43.ok G0 Tryz.func178 ⟨Zyf,trivial⟩ rfl rfl (by kernel_rfl)
noncomputable def D44:FD U:=⟨114,Tryz.f114,[D43.sg,D11.sg],[.p (.st 2),.p (.st 2)],[],[.p (.st 2)],[],[],ZnK,ZnK,
.nil⟩
theorem ZyU:Zeg X0.E 114 D44.sig:=D44.ok G0 Tryz.func114 ⟨ZzR,Zxm,trivial⟩ rfl rfl (by kernel_rfl)
noncomputable def D45:FD U:=⟨115,Tryz.f115,[],[.p (.st 2)],[],[.p (.st 2)],[],[],Zps,Zps,
.j 911 [2] [] [qe4] [ZAi] Zrh <|
.nil⟩
theorem ZzQ:Zeg X0.E 115 D45.sig:=D45.ok G0 Tryz.func115 trivial rfl rfl (by kernel_rfl)
noncomputable def D46:FD U:=⟨176,Tryz.f176,[D30.sg,D27.sg,D9.sg],[.p (.sl (.int .u32)),.p (.sl (.int .u32))],[],[.p (.sl (.int .u32))],[],[],Zpu,Zpu,
.lo 9410111 [0,1,5,6,20,21] [] [qe1,qe1,qe6,qe9,qe0,qe0] [qo2] 0 [5,6] [] [qe6,qe9] [qo2] Zqx Zr8 (fun _=> .nil) <|
.nil⟩
theorem ZzP:Zeg X0.E 176 D46.sig:=D46.ok G0 Tryz.func176 ⟨ZzX,ZzY,Zyf,trivial⟩ rfl rfl (by kernel_rfl)
noncomputable def D47:FD U:=⟨177,Tryz.f177,[D30.sg,D26.sg,D9.sg],[.p (.sl (.int .u32)),.p (.sl (.int .u32))],[],[.p (.sl (.int .u32))],[],[],Zo9,Zo9,
.lo 9410111 [0,1,5,6,12,13] [] [qe1,qe1,qe6,qe9,qe0,qe0] [qo2] 0 [5] [] [qe6] [qo2] Zqm ZrO (fun _=> .nil) <|
.nil⟩
theorem ZCr:Zeg X0.E 177 D47.sig:=D47.ok G0 Tryz.func177 ⟨ZzX,ZzZ,Zyf,trivial⟩ rfl rfl (by kernel_rfl)
noncomputable def D48:FD U:=⟨113,Tryz.f113,[D46.sg,D11.sg,D19.sg,D47.sg],[.p (.st 2),.p (.st 2)],[],[.p (.st 2)],[],[],ZrQ,ZrQ,
.nil⟩
theorem ZzO:Zeg X0.E 113 D48.sig:=D48.ok G0 Tryz.func113 ⟨ZzP,Zxm,ZyW,ZCr,trivial⟩ rfl rfl (by kernel_rfl)
noncomputable def D49:FD U:=⟨62,Tryz.f62,[D42.sg,D44.sg,D45.sg,D48.sg],[.p (.st 3),.p (.st 3)],[],[.p (.int .i64)],[],[],Ztp,Ztp,
.j 9101 [2,3,13] [] [qe4,ZAj,qe7] [Zyt,Zyt] Zta <|
.nil⟩
theorem ZCq:Zeg X0.E 62 D49.sig:=D49.ok G0 Tryz.func62 ⟨ZxZ,ZyU,ZzQ,ZzO,trivial⟩ rfl rfl (by kernel_rfl)
noncomputable def D50:FD U:=⟨82,Tryz.f82,[D37.sg,D49.sg],[.p (.st 3)],[],[.p (.int .i64)],[],[],ZtQ,ZtQ,
.nil⟩
theorem ZCp:Zeg X0.E 82 D50.sig:=D50.ok G0 Tryz.func82 ⟨Zx0,ZCq,trivial⟩ rfl rfl (by kernel_rfl)
noncomputable def D51:FD U:=⟨164,Tryz.f164,[],[],[],[.map (.int .i64) (.st 4)],[],[],Zuj,Zuj,
.nil⟩
theorem ZzN:Zeg X0.E 164 D51.sig:=D51.ok G0 Tryz.func164 trivial rfl rfl (by kernel_rfl)
noncomputable def D53:FD U:=⟨236,Tryz.f236,[(297,Zuc.sig)],[.p .str],[],[.p .str],[],[],ZvI,ZvI,
.nil⟩
theorem ZCo:Zeg X0.E 236 D53.sig:=D53.ok G0 Tryz.func236 ⟨ZuI,trivial⟩ rfl rfl (by kernel_rfl)
noncomputable def D54:FD U:=⟨353,Tryz.f353,[],[.p .str,.p .str],[],[.p .bool],[],[],ZoI,ZoI,
.j 911 [4] [] [qe7] [] Zpq <|
.nil⟩
theorem ZzM:Zeg X0.E 353 D54.sig:=D54.ok G0 Tryz.func353 trivial rfl rfl (by kernel_rfl)
noncomputable def D55:FD U:=⟨337,Tryz.f337,[D54.sg],[.p .str,.p .str],[],[.p .str,.p .bool],[],[],ZpS,ZpS,
.nil⟩
theorem ZCn:Zeg X0.E 337 D55.sig:=D55.ok G0 Tryz.func337 ⟨ZzM,trivial⟩ rfl rfl (by kernel_rfl)
noncomputable def D56:FD U:=⟨301,Tryz.f301,[D55.sg],[.p .str,.p .str],[],[.p .str,.p .bool],[],[],Zts,Zts,
.nil⟩
theorem ZCm:Zeg X0.E 301 D56.sig:=D56.ok G0 Tryz.func301 ⟨ZCn,trivial⟩ rfl rfl (by kernel_rfl)
noncomputable def D57:FD U:=⟨338,Tryz.f338,[D54.sg],[.p .str,.p .str],[],[.p .str],[],[],ZpH,ZpH,
.nil⟩
theorem ZCl:Zeg X0.E 338 D57.sig:=D57.ok G0 Tryz.func338 ⟨ZzM,trivial⟩ rfl rfl (by kernel_rfl)
noncomputable def D58:FD U:=⟨302,Tryz.f302,[D57.sg],[.p .str,.p .str],[],[.p .str],[],[],Ztg,Ztg,
.nil⟩
theorem ZCk:Zeg X0.E 302 D58.sig:=D58.ok G0 Tryz.func302 ⟨ZCl,trivial⟩ rfl rfl (by kernel_rfl)
noncomputable def D60:FD U:=⟨352,Tryz.f352,[(370,Zri.sig)],[.p .str,.p .str],[],[.p (.int .i64)],[],[],ZqQ,ZqQ,
.j 914011 [0,1,5,16] [] [qe8,qe8,qe0,qe7] [] Zp8 <|
.nil⟩
theorem ZCj:Zeg X0.E 352 D60.sig:=D60.ok G0 Tryz.func352 ⟨Zti,trivial⟩ rfl rfl (by kernel_rfl)
noncomputable def D61:FD U:=⟨339,Tryz.f339,[D60.sg],[.p .str,.p .str],[],[.p .str,.p .str,.p .bool],[],[],Zrl,Zrl,
.nil⟩
theorem ZCi:Zeg X0.E 339 D61.sig:=D61.ok G0 Tryz.func339 ⟨ZCj,trivial⟩ rfl rfl (by kernel_rfl)
noncomputable def D62:FD U:=⟨303,Tryz.f303,[D61.sg],[.p .str,.p .str],[],[.p .str,.p .str,.p .bool],[],[],Zup,Zup,
.nil⟩
theorem ZzL:Zeg X0.E 303 D62.sig:=D62.ok G0 Tryz.func303 ⟨ZCi,trivial⟩ rfl rfl (by kernel_rfl)
noncomputable def D63:FD U:=⟨304,Tryz.f304,[(297,Zuc.sig)],[.p .str,.p (.int .i64)],[],[.p .bool],[],[],Zs8,Zs8,
.j 911 [4] [] [qe7] [] ZrV <|
.nil⟩
theorem ZCh:Zeg X0.E 304 D63.sig:=D63.ok G0 Tryz.func304 ⟨ZuI,trivial⟩ rfl rfl (by kernel_rfl)
noncomputable def D64:FD U:=⟨241,Tryz.f241,[D56.sg,D58.sg,D62.sg,D63.sg,D20.sg,D43.sg,D10.sg,D46.sg,D11.sg,D34.sg],[.p .str],[],[.p (.st 3),.p .bool],[],[],Zqz,Zqz,
.j 9111 [2,4,5] [] [qe4,qe8,qe7] qp0 Zs3 <|
.j 9101111 [2,5,6,7,39] [] [qe4,qe7,qe8,qe8,qe7] qp0 Zrz <|
.lo 941011111111 [2,5,7,9,10,11,47,48,49] [9,10] [qe4,qe7,qe8,qe1,qe1,ZCL,.o (.full (0,3,1)),qe0,qe0] [ZCK,qo2,.arr (.int .u8) false,qo2,qo2] 0 [2,5,7,9,10,11] [] [qe4,qe7,qe8,qe1,qe1,ZCL] [.box [.o (.v .bool),.o (.full (0,3,1)),.o (.v .bool),.o (.full (0,4,1))],qo2,qo2,qo2] Zs2 Zt4 (fun _=> .nil) <|
.lo 9410111111111 [2,5,9,10,11,63,64] [11] [qe4,qe7,qe1,qe1,qe1,qe0,qe0] qp0 2 [2,5,9,11] [] [qe4,qe7,qe1,qe1] qp0 Zs1 Zry (fun _=> .nil) <|
.nil⟩
theorem ZzK:Zeg X0.E 241 D64.sig:=D64.ok G0 Tryz.func241 ⟨ZCm,ZCk,ZzL,ZCh,Zz0,ZzR,Zz2,ZzP,Zxm,Zx1,trivial⟩ rfl rfl (by kernel_rfl)
noncomputable def D67:FD U:=⟨307,Tryz.f307,[],[.p (.sl .str)],[],[.p .str],[],[],ZuD,ZuD,
.lr 941011 [3,6,7,8] [] [qe8,qe5,qe0,qe0] [] 0 [3] [] [qe8] [] ZtI ZuL (fun _=> .nil) <|
.nil⟩
theorem ZCg:Zeg X0.E 307 D67.sig:=D67.ok G0 Tryz.func307 trivial rfl rfl (by kernel_rfl)
noncomputable def D68:FD U:=⟨242,Tryz.f242,[D64.sg,(305,Zuh.sig),D62.sg,(306,Zt7.sig),D67.sg],[.p .str],[],[.p .str,.p .bool],[],[],ZsJ,ZsJ,
.j 9111111 [0,9] [] [qe8,qe8] [] ZtA <|
.j 910111111 [9,43] [] [qe8,qe7] [] Ztz <|
.j 91111111 [9] [] [qe8] [] Zty <|
.nil⟩
theorem ZCf:Zeg X0.E 242 D68.sig:=D68.ok G0 Tryz.func242 ⟨ZzK,Zva,ZzL,Zu0,ZCg,trivial⟩ rfl rfl (by kernel_rfl)
noncomputable def D69:FD U:=⟨163,Tryz.f163,[D51.sg,D53.sg,D68.sg],[.p (.int .i64),.p .str],[],[.p .str,.p .bool],[],[(26,2)],ZrZ,ZrZ,
.nil⟩
theorem ZCe:Zeg X0.E 163 D69.sig:=D69.ok G0 Tryz.func163 ⟨ZzN,ZCo,ZCf,trivial⟩ rfl rfl (by kernel_rfl)
noncomputable def D70:FD U:=⟨110,Tryz.f110,[D69.sg,D51.sg,D64.sg],[.p (.int .i64),.p .str],[],[.p (.st 3),.p .bool],[],[(22,2)],Zuk,Zuk,
.nil⟩
theorem ZCd:Zeg X0.E 110 D70.sig:=D70.ok G0 Tryz.func110 ⟨ZCe,ZzN,ZzK,trivial⟩ rfl rfl (by kernel_rfl)
noncomputable def D71:FD U:=⟨60,Tryz.f60,[D37.sg,D70.sg],[.p (.st 0)],[],[.p (.st 3),.p .bool],[],[],ZpG,ZpG,
.nil⟩
theorem ZCc:Zeg X0.E 60 D71.sig:=D71.ok G0 Tryz.func60 ⟨Zx0,ZCd,trivial⟩ rfl rfl (by kernel_rfl)
noncomputable def D72:FD U:=⟨40,Tryz.f40,[D71.sg,D38.sg],[.p (.st 1)],[],[.p (.st 3)],[],[],ZtD,Zo4,
.lo 941011 [2,3,4,10,11,12] [] qs3 qp0 0 [2,3,4] [] [qe4,qe0,qe0] qp0 Zqr ZsP (fun n0=> .j 9111541011 [2,3,4,10,11,12] [] qs3 qp0 (Zqs (Zqr n0)) <|
.nil) <|
.nil⟩
theorem ZzJ:Zeg X0.E 40 D72.sig:=D72.ok G0 Tryz.func40 ⟨ZCc,ZyV,trivial⟩ rfl (by funext x_;exact Ztj _) (by kernel_rfl)
noncomputable def D73:FD U:=⟨196,Tryz.f196,[D44.sg,D48.sg],[.p (.st 3),.p (.st 3)],[],[.p (.st 2),.p (.st 2)],[],[],ZtG,ZtG,
.nil⟩
theorem ZCb:Zeg X0.E 196 D73.sig:=D73.ok G0 Tryz.func196 ⟨ZyU,ZzO,trivial⟩ rfl rfl (by kernel_rfl)
noncomputable def D74:FD U:=⟨197,Tryz.f197,[D42.sg,D73.sg,D34.sg],[.fn 196 [] [],.p (.st 3),.p (.st 3)],[],[.p (.st 3),.p (.int .i64)],[],[],Zon,Zon,
.j 9101 [0,4,5,6,18] [] [.fn 196 [] [],qe4,ZAj,ZA9,qe7] [Zyt,Zyt,ZCK,qo2,qo2] Zo5 <|
.nil⟩
theorem ZzI:Zeg X0.E 197 D74.sig:=D74.ok G0 Tryz.func197 ⟨ZxZ,ZCb,Zx1,trivial⟩ rfl rfl (by kernel_rfl)
noncomputable def D75:FD U:=⟨127,Tryz.f127,[D42.sg,D45.sg,D74.sg],[.p (.st 3),.p (.st 3)],[],[.p (.st 3),.p (.int .i64)],[],[],Ztn,Ztn,
.nil⟩
theorem ZCa:Zeg X0.E 127 D75.sig:=D75.ok G0 Tryz.func127 ⟨ZxZ,ZzQ,ZzI,trivial⟩ rfl rfl (by kernel_rfl)
noncomputable def D76:FD U:=⟨126,Tryz.f126,[],[.p (.st 3),.p (.int .i64)],[],[.p (.st 3)],[],[],ZsQ,ZsQ,
.nil⟩
theorem ZyT:Zeg X0.E 126 D76.sig:=D76.ok G0 Tryz.func126 trivial rfl rfl (by kernel_rfl)
noncomputable def D77:FD U:=⟨83,Tryz.f83,[D75.sg,D76.sg],[.p (.st 3),.p (.st 3)],[],[.p (.st 3)],[],[],Zuy,Zuy,
.nil⟩
theorem ZB9:Zeg X0.E 83 D77.sig:=D77.ok G0 Tryz.func83 ⟨ZCa,ZyT,trivial⟩ rfl rfl (by kernel_rfl)
noncomputable def D78:FD U:=⟨128,Tryz.f128,[D74.sg],[.p (.st 3),.p (.st 3)],[],[.p (.st 3),.p (.int .i64)],[],[],Zsv,Zsv,
.nil⟩
theorem ZB8:Zeg X0.E 128 D78.sig:=D78.ok G0 Tryz.func128 ⟨ZzI,trivial⟩ rfl rfl (by kernel_rfl)
noncomputable def D79:FD U:=⟨84,Tryz.f84,[D78.sg,D76.sg],[.p (.st 3),.p (.st 3)],[],[.p (.st 3)],[],[],Zuz,Zuz,
.nil⟩
theorem ZB7:Zeg X0.E 84 D79.sig:=D79.ok G0 Tryz.func84 ⟨ZB8,ZyT,trivial⟩ rfl rfl (by kernel_rfl)
noncomputable def D80:FD U:=⟨198,Tryz.f198,[D44.sg],[.p (.st 3),.p (.st 3)],[],[.p (.st 2),.p (.st 2)],[],[],ZtH,ZtH,
.nil⟩
theorem ZB6:Zeg X0.E 198 D80.sig:=D80.ok G0 Tryz.func198 ⟨ZyU,trivial⟩ rfl rfl (by kernel_rfl)
noncomputable def D81:FD U:=⟨197,Tryz.f197,[D42.sg,D80.sg,D34.sg],[.fn 198 [] [],.p (.st 3),.p (.st 3)],[],[.p (.st 3),.p (.int .i64)],[],[],Zpp,Zpp,
.j 9101 [0,4,5,6,18] [] [.fn 198 [] [],qe4,ZAj,ZA9,qe7] [Zyt,Zyt,ZCK,qo2,qo2] ZoJ <|
.nil⟩
theorem ZB5:Zeg X0.E 197 D81.sig:=D81.ok G0 Tryz.func197 ⟨ZxZ,ZB6,Zx1,trivial⟩ rfl rfl (by kernel_rfl)
noncomputable def D82:FD U:=⟨129,Tryz.f129,[D81.sg],[.p (.st 3),.p (.st 3)],[],[.p (.st 3),.p (.int .i64)],[],[],Zto,Zto,
.nil⟩
theorem ZB4:Zeg X0.E 129 D82.sig:=D82.ok G0 Tryz.func129 ⟨ZB5,trivial⟩ rfl rfl (by kernel_rfl)
noncomputable def D83:FD U:=⟨85,Tryz.f85,[D82.sg,D76.sg],[.p (.st 3),.p (.st 3)],[],[.p (.st 3)],[],[],Zvo,Zvo,
.nil⟩
theorem ZB3:Zeg X0.E 85 D83.sig:=D83.ok G0 Tryz.func85 ⟨ZB4,ZyT,trivial⟩ rfl rfl (by kernel_rfl)
noncomputable def D84:FD U:=⟨42,Tryz.f42,[D40.sg,D41.sg,D50.sg,D37.sg,D72.sg,D77.sg,D79.sg,D38.sg,D83.sg],[.p (.st 1),.p (.st 1)],[],[.p (.st 3)],[],[],Zr5,Zr5,
.j 91011 [2,3,4,5,6,24] [] [qe4,ZAj,ZA9,.o (.ptr (0,4,1) 0 0),.o (.ptr (0,5,1) 0 0),qe7] [.boxS (.st 1),.boxS (.st 1),.box [.o (.v .bool),.o (.full (0,6,1)),.o (.v .bool),.o (.full (0,7,1))],Zyt,Zyt,qo2,qo2] Zqv <|
.j 911111 [4,5,6,7] [] [qe4,ZAj,ZA9,.o (.ptr (0,4,1) 0 0)] [.box [.o (.v .bool),.o (.full (0,5,1)),.o (.v .bool),.o (.full (0,6,1))],Zyt,Zyt,Zyt,qo2,qo2] Zru <|
.nil⟩
theorem ZB2:Zeg X0.E 42 D84.sig:=D84.ok G0 Tryz.func42 ⟨ZCs,ZzS,ZCp,Zx0,ZzJ,ZB9,ZB7,ZyV,ZB3,trivial⟩ rfl rfl (by kernel_rfl)
noncomputable def D85:FD U:=⟨201,Tryz.f201,[],[.p (.sl (.int .u32))],[],[.p (.sl (.int .u32))],[],[],ZnR,ZnR,
.lo 9401 [0] [] [qe1] [] 0 [0] [] [qe1] [] Zn4 Ztc (fun n0=> .j 9105401 [0,14] [] [qe1,qe7] [] (Zrj (Zn4 n0)) <|
.nil) <|
.nil⟩
theorem Zxl:Zeg X0.E 201 D85.sig:=D85.ok G0 Tryz.func201 trivial rfl rfl (by kernel_rfl)
noncomputable def D86:FD U:=⟨135,Tryz.f135,[D85.sg],[.p .bool,.p (.sl (.int .u32))],[],[.p (.st 2)],[],[],Zoe,Zoe,
.j 9111 [4] [] [qe4] [ZAi] Zqj <|
.nil⟩
theorem ZzH:Zeg X0.E 135 D86.sig:=D86.ok G0 Tryz.func135 ⟨Zxl,trivial⟩ rfl rfl (by kernel_rfl)
noncomputable def D87:FD U:=⟨140,Tryz.f140,[D86.sg],[.p (.int .i64)],[],[.p (.st 2)],[],[],Zn5,Zn5,
.j 9111 [0,2,3] [] [qe0,qe4,ZxQ] [qo17,qo2] Zpm <|
.nil⟩
theorem ZzG:Zeg X0.E 140 D87.sig:=D87.ok G0 Tryz.func140 ⟨ZzH,trivial⟩ rfl rfl (by kernel_rfl)
noncomputable def D88:FD U:=⟨132,Tryz.f132,[],[.p (.st 2)],[],[.p .bool],[],[],ZoO,ZoO,
.j 9111 [2] [] [qe7] [] ZnT <|
.nil⟩
theorem ZB1:Zeg X0.E 132 D88.sig:=D88.ok G0 Tryz.func132 trivial rfl rfl (by kernel_rfl)
noncomputable def D89:FD U:=⟨199,Tryz.f199,[D85.sg],[.p (.sl (.int .u32))],[],[.p (.sl (.int .u32))],[],[],Zn7,Zn7,
.lo 941011 [0,3,9,10] [] [qe1,qe6,qe0,qe0] [qo2] 0 [3] [] [qe6] [qo2] ZoZ Zrk (fun n0=> .j 9111541011 [0,3,9,10] [] [qe1,qe6,qe0,qe0] [qo2] (Zo0 (ZoZ n0)) <|
.nil) <|
.nil⟩
theorem ZB0:Zeg X0.E 199 D89.sig:=D89.ok G0 Tryz.func199 ⟨Zxl,trivial⟩ rfl rfl (by kernel_rfl)
noncomputable def D90:FD U:=⟨133,Tryz.f133,[],[.p (.sl (.int .u32)),.p (.sl (.int .u32))],[],[.p (.int .i64)],[],[],Zo8,Zo8,
.lr 941011 [0,1,5] [] qs1 [] 0 [] [] [] [] Zqi ZrK (fun _=> .nil) <|
.nil⟩
theorem ZzF:Zeg X0.E 133 D90.sig:=D90.ok G0 Tryz.func133 trivial rfl rfl (by kernel_rfl)
noncomputable def D91:FD U:=⟨137,Tryz.f137,[D85.sg],[.p (.sl (.int .u32)),.p (.sl (.int .u32))],[],[.p (.sl (.int .u32))],[],[],Zo6,Zo6,
.lo 9410111 [0,1,5,6,7] [] [qe1,qe1,qe6,qe0,qe0] [qo2] 0 [5] [] [qe6] [qo2] Zpc ZrD (fun n0=> .j 9114015410111 [0,1,5,6,7] [] [qe1,qe1,qe6,qe0,qe0] [qo2] (Zpd (Zpc n0)) <|
.nil) <|
.nil⟩
theorem ZzE:Zeg X0.E 137 D91.sig:=D91.ok G0 Tryz.func137 ⟨Zxl,trivial⟩ rfl rfl (by kernel_rfl)
noncomputable def D92:FD U:=⟨200,Tryz.f200,[D85.sg],[.p (.sl (.int .u32)),.p (.int .u32)],[],[.p (.sl (.int .u32))],[],[],ZoG,ZoG,
.lo 941011 [0,1,5,6] [] [qe1,qe9,qe6,qe0] [qo2] 0 [1,5] [] [qe9,qe6] [qo2] ZpB ZqX (fun _=> .nil) <|
.nil⟩
theorem ZzD:Zeg X0.E 200 D92.sig:=D92.ok G0 Tryz.func200 ⟨Zxl,trivial⟩ rfl rfl (by kernel_rfl)
noncomputable def D93:FD U:=⟨134,Tryz.f134,[D89.sg,D90.sg,D91.sg,D92.sg],[.p (.sl (.int .u32)),.p (.sl (.int .u32))],[],[.p (.sl (.int .u32))],[],[],Zp0,Zp0,
.lo 94011 [0,1,5] [] qs1 [] 0 [0,1,5] [] qs1 [] Zoy ZrI (fun n0=> .j 91054011 [0,1,5,17] [] [qe1,qe1,qe0,qe7] [] (Zqh (Zoy n0)) <|
.nil) <|
.lo 940111 [0,1,5] [] qs1 [] 2 [0,5] [] [qe1,qe0] [] ZnL ZrF (fun n0=> .lo 94041540111 [0,1,5] [] qs1 [] 4 [0,1,5] [] qs1 [] ZnY (ZrH (ZnL n0)) (fun _=> .nil) <|
.lo 940141540111 [0,1,5] [] qs1 [] 6 [0,1,5] [] qs1 [] ZnX (ZrG (ZnL n0)) (fun _=> .nil) <|
.j 911141540111 [0,1,5] [] qs1 [] (Zqg (ZnL n0)) <|
.nil) <|
.lo 9401111 [0,5] [] [qe1,qe0] [] 8 [0] [] [qe1] [] Zox ZrE (fun _=> .nil) <|
.nil⟩
theorem ZBZ:Zeg X0.E 134 D93.sig:=D93.ok G0 Tryz.func134 ⟨ZB0,ZzF,ZzE,ZzD,trivial⟩ rfl rfl (by kernel_rfl)
noncomputable def D94:FD U:=⟨315,Tryz.f315,[],[.p (.sl (.int .u32)),.p (.int .i64)],[],[.p (.int .u32)],[],[],Zp1,Zp1,
.nil⟩
theorem ZBY:Zeg X0.E 315 D94.sig:=D94.ok G0 Tryz.func315 trivial rfl rfl (by kernel_rfl)
noncomputable def D95:FD U:=⟨262,Tryz.f262,[D94.sg,D92.sg,D90.sg,D91.sg,D85.sg],[.p (.sl (.int .u32)),.p (.sl (.int .u32))],[],[.p (.sl (.int .u32)),.p (.sl (.int .u32))],[],[],Zo7,Zo7,
.lo 941011 [0,1,4,5,6] [5] [qe1,qe1,qe6,qe1,qe0] [qo2] 0 [4,5] [] [qe6,qe1] [qo2] Zpf ZrJ (fun n0=> .j 911541011 [0,1,4,5,6] [] [qe1,qe1,qe6,qe1,qe0] [qo2] (Zpg (Zpf n0)) <|
.nil) <|
.nil⟩
theorem ZBX:Zeg X0.E 262 D95.sig:=D95.ok G0 Tryz.func262 ⟨ZBY,ZzD,ZzF,ZzE,Zxl,trivial⟩ rfl rfl (by kernel_rfl)
noncomputable def D96:FD U:=⟨202,Tryz.f202,[D87.sg,D93.sg,D95.sg,D86.sg],[.p (.st 2),.p (.st 2)],[],[.p (.st 3)],[],[],Zpe,Zpe,
.nil⟩
theorem ZBW:Zeg X0.E 202 D96.sig:=D96.ok G0 Tryz.func202 ⟨ZzG,ZBZ,ZBX,ZzH,trivial⟩ rfl rfl (by kernel_rfl)
noncomputable def D97:FD U:=⟨139,Tryz.f139,[D88.sg,D96.sg],[.p (.st 2),.p (.st 2)],[],[.p (.st 3),.p (.int .i64)],[],[],ZpF,ZpF,
.j 9101 [2,3,4,13] [] [qe4,ZAj,ZA9,qe7] [ZAi,ZAi,ZCK,qo2,qo2] ZpU <|
.nil⟩
theorem ZBV:Zeg X0.E 139 D97.sig:=D97.ok G0 Tryz.func139 ⟨ZB1,ZBW,trivial⟩ rfl rfl (by kernel_rfl)
noncomputable def D98:FD U:=⟨92,Tryz.f92,[D87.sg,D97.sg],[.p (.int .i64),.p (.int .i64)],[],[.p (.st 3),.p (.int .i64)],[],[],Zqn,Zqn,
.nil⟩
theorem ZBU:Zeg X0.E 92 D98.sig:=D98.ok G0 Tryz.func92 ⟨ZzG,ZBV,trivial⟩ rfl rfl (by kernel_rfl)
noncomputable def D99:FD U:=⟨48,Tryz.f48,[D98.sg],[.p (.int .i64),.p (.int .i64)],[],[.p (.st 3)],[],[],Zsg,Zoa,
.nil⟩
theorem ZyS:Zeg X0.E 48 D99.sig:=D99.ok G0 Tryz.func48 ⟨ZBU,trivial⟩ rfl (by funext x_;funext x_;exact Ztj _) (by kernel_rfl)
noncomputable def ZCQ:FD U:=⟨47,Tryz.f47,[D99.sg],[.p (.int .i64)],[],[.p (.st 3)],[],[],Zsx,ZoF,
.nil⟩
theorem Zy0:Zeg X0.E 47 ZCQ.sig:=ZCQ.ok G0 Tryz.func47 ⟨ZyS,trivial⟩ rfl (by funext x_;exact Ztj _) (by kernel_rfl)
noncomputable def ZDq:FD U:=⟨66,Tryz.f66,[],[.p (.st 2),.p (.st 2)],[],[.p .bool],[],[],Zoq,Zoq,
.j 9101 [2,3,20] [] [qe4,ZAj,qe7] [ZAi,ZAi] Zpk <|
.lr 941011 [3,22,23,24] [] [qe4,qe1,qe0,qe0] [ZAi] 0 [] [] [] [] Zpj ZqE (fun _=> .nil) <|
.nil⟩
theorem ZAZ:Zeg X0.E 66 ZDq.sig:=ZDq.ok G0 Tryz.func66 trivial rfl rfl (by kernel_rfl)
noncomputable def ZCP:FD U:=⟨28,Tryz.f28,[ZDq.sg],[.p (.st 3),.p (.st 3)],[],[.p .bool],[],[],Zos,Zos,
.j 911 [4] [] [qe7] [] ZpT <|
.nil⟩
theorem ZyZ:Zeg X0.E 28 ZCP.sig:=ZCP.ok G0 Tryz.func28 ⟨ZAZ,trivial⟩ rfl rfl (by kernel_rfl)
noncomputable def ZDp:FD U:=⟨31,Tryz.f31,[(34,ZrY.sig),D2.sg,D84.sg,ZCQ.sg,ZCP.sg,D72.sg,D99.sg],[],[],[.p .bool],[],[],ZoH,ZoH,
.j 9111 [0] [] [qe7] [] ZoP <|
.nil⟩
theorem ZAY:Zeg X0.E 31 ZDp.sig:=ZDp.ok G0 Tryz.func31 ⟨Zsm,ZCv,ZB2,Zy0,ZyZ,ZzJ,ZyS,trivial⟩ rfl rfl (by kernel_rfl)
noncomputable def ZDo:FD U:=⟨13,Tryz.f13,[],[.p (.sl (.int .i64))],[],[.box (.st 5)],[],[],Zrt,Zrt,
.nil⟩
theorem ZAX:Zeg X0.E 13 ZDo.sig:=ZDo.ok G0 Tryz.func13 trivial rfl rfl (by kernel_rfl)
noncomputable def ZDn:FD U:=⟨16,Tryz.f16,[],[.p (.int .i64),.p (.int .i64)],[],[.p (.int .i64)],[],[],ZqJ,ZqJ,
.nil⟩
theorem ZAW:Zeg X0.E 16 ZDn.sig:=ZDn.ok G0 Tryz.func16 trivial rfl rfl (by kernel_rfl)
noncomputable def ZCO:FD U:=⟨14,Tryz.f14,[ZDn.sg],[.box (.st 5),.p (.int .i64)],[(0,.box (.st 5))],[.p (.int .i64)],[],[],Zor,Zor,
.nil⟩
theorem ZyY:Zeg X0.E 14 ZCO.sig:=ZCO.ok G0 Tryz.func14 ⟨ZAW,trivial⟩ rfl rfl (by kernel_rfl)
noncomputable def ZDm:FD U:=⟨32,Tryz.f32,[ZCO.sg],[.box (.st 5),.p (.sl .str)],[(0,.box (.st 5))],[.p .str],[],[],Zo1,Zo1,
.nil⟩
theorem ZAV:Zeg X0.E 32 ZDm.sig:=ZDm.ok G0 Tryz.func32 ⟨ZyY,trivial⟩ rfl rfl (by kernel_rfl)
noncomputable def ZDl:FD U:=⟨76,Tryz.f76,[],[.p (.int .u8)],[],[.p (.int .u8)],[],[],Zpb,Zpb,
.j 91401 [0,3] [] [.o (.v (.int .u8)),qe7] [] ZqM <|
.j 9131401 [0,13] [] [.o (.v (.int .u8)),qe7] [] Zob <|
.nil⟩
theorem ZAU:Zeg X0.E 76 ZDl.sig:=ZDl.ok G0 Tryz.func76 trivial rfl rfl (by kernel_rfl)
noncomputable def ZDk:FD U:=⟨77,Tryz.f77,[],[.p (.sl .str),.p .str],[],[.p (.sl .str)],[],[],ZpZ,ZpZ,
.lo 94011 [0,1,5] [] [qe5,qe8,qe0] [] 0 [0,1,5] [] [qe5,qe8,qe0] [] Zpa ZrC (fun n0=> .j 91054011 [0,1,5,17] [] [qe5,qe8,qe0,qe7] [] (Zqf (Zpa n0)) <|
.nil) <|
.j 910111 [0,1,5,31] [] [qe5,qe8,qe0,qe7] [] Zqe <|
.nil⟩
theorem ZAT:Zeg X0.E 77 ZDk.sig:=ZDk.ok G0 Tryz.func77 trivial rfl rfl (by kernel_rfl)
noncomputable def ZCN:FD U:=⟨35,Tryz.f35,[ZDl.sg,ZDk.sg],[.p .str],[],[.p (.sl .str)],[],[],Zok,Zok,
.lo 9410111 [0,3,4,5] [3] [qe8,qe5,qe8,qe0] [] 0 [3] [] [qe5] [] ZnN ZqW (fun n0=> .j 9114015410111 [0,3,4,5,6] [] [qe8,qe5,qe8,qe0,.o (.v (.int .u8))] [] (ZoK (ZnN n0)) <|
.j 911114015410111 [0,3,5] [3] [qe8,qe5,qe0] [] (Zpz (ZnN n0)) <|
.j 9115410111 [0,3,4,5] [3] [qe8,qe5,qe8,qe0] [] (Zpy (ZnN n0)) <|
.nil) <|
.nil⟩
theorem ZyX:Zeg X0.E 35 ZCN.sig:=ZCN.ok G0 Tryz.func35 ⟨ZAU,ZAT,trivial⟩ rfl rfl (by kernel_rfl)
noncomputable def ZDj:FD U:=⟨45,Tryz.f45,[ZCQ.sg],[],[],[.p (.st 3)],[],[],ZqN,ZqN,
.nil⟩
theorem ZAS:Zeg X0.E 45 ZDj.sig:=ZDj.ok G0 Tryz.func45 ⟨Zy0,trivial⟩ rfl rfl (by kernel_rfl)
noncomputable def ZDi:FD U:=⟨79,Tryz.f79,[ZDj.sg,D99.sg],[.p (.sl .str),.p (.sl .str)],[],[.p (.st 3)],[],[],ZoY,ZoY,
.lo 941011 [0,1,4,5,10,11,12] [] [qe5,qe5,qe4,qe0,qe5,qe0,qe0] qp0 0 [0,1,4,5] [] [qe5,qe5,qe4,qe0] qp0 Zou ZqC (fun n0=> .lo 94114011541011 [0,1,4,5,7,10,11,12,16,17,18] [] qs2 qp0 2 [0,1,4,5,10,11,12] [] [qe5,qe5,qe4,qe0,qe5,qe0,qe0] qp0 Zot (ZqD (Zou n0)) (fun n1=> .j 911154114011541011 [0,1,4,5,7,10,11,12,16,17,18] [] qs2 qp0 (Zpi (Zot n1)) <|
.nil) <|
.nil) <|
.nil⟩
theorem ZAR:Zeg X0.E 79 ZDi.sig:=ZDi.ok G0 Tryz.func79 ⟨ZAS,ZyS,trivial⟩ rfl rfl (by kernel_rfl)
noncomputable def ZDh:FD U:=⟨37,Tryz.f37,[ZCN.sg,ZDi.sg],[.p .str,.p .str],[],[.p (.st 3)],[],[],Zpt,Zpt,
.nil⟩
theorem ZAQ:Zeg X0.E 37 ZDh.sig:=ZDh.ok G0 Tryz.func37 ⟨ZyX,ZAR,trivial⟩ rfl rfl (by kernel_rfl)
noncomputable def D114:FD U:=⟨5,Tryz.f5,[D0.sg,ZDp.sg,ZDo.sg,ZCO.sg,ZDm.sg,(34,ZrY.sig),ZCN.sg,D2.sg,D41.sg,ZDh.sg,ZCP.sg],[.p .str,.p .str,.p (.sl (.int .i64))],[],[.p .bool],[],[],Zow,Zow,
.j 9101 [0,1,2,23] [] [qe8,qe8,.o (.v (.sl (.int .i64))),qe7] [] ZnP <|
.lo 94101111 [0,1,7,8,28,29] [] [qe8,qe8,qe4,qe8,qe0,qe0] [.boxS (.st 5)] 0 [0,1,8] [] [qe8,qe8,qe8] [] Zoh Zoi (fun _=> .nil) <|
.lr 941011111 [47,48,49] [] [qe6,qe0,qe0] [.arr (.st 6) false] 2 [] [] [] [] ZnO Zo3 (fun n0=> .j 9114011541011111 [47,48,49,74] [] [qe6,qe0,qe0,qe7] [.arr (.st 6) false] (Zoj (ZnO n0)) <|
.nil) <|
.nil⟩
theorem D114_ok:Zeg X0.E 5 D114.sig:=D114.ok G0 Tryz.func5 ⟨ZDr,ZAY,ZAX,ZyY,ZAV,Zsm,ZyX,ZCv,ZzS,ZAQ,ZyZ,trivial⟩ rfl rfl (by kernel_rfl)
end
end Go.Proofs

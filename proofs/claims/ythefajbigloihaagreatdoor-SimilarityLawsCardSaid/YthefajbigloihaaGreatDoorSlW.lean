/- Printed by wip/tools/tgen.py: walks. -/
import Derived.Test.YthefajbigloihaaGreatDoorSlU
import Derived.Test.YthefajbigloihaaGreatDoorSlX
set_option linter.unusedVariables false
set_option linter.unusedSimpArgs false
set_option linter.unusedSectionVars false
namespace Go.Proofs
open Go Eng
set_option maxRecDepth 100000
noncomputable section
abbrev qe0:Sh:= .o (.v (.sl (.int .u32)))
abbrev qe1:Sh:= .o (.v (.int .i64))
abbrev qo2:ShO:= .arr (.int .u32) false
abbrev qe3:Sh:= .o (.full (0,1,1))
abbrev qe4:Sh:= .o (.ptr (0,1,1) 0 0)
abbrev qe5:Sh:= .o (.v .bool)
abbrev qo6:ShO:= .box [.o (.v .bool),.o (.full (0,2,1)),.o (.v .bool),.o (.full (0,3,1))]
abbrev qe7:Sh:= .o (.v (.int .u64))
abbrev qe8:Sh:= .o (.v (.int .u32))
abbrev qo9:ShO:= .box [.o (.v .bool),.o (.full (0,4,1)),.o (.v .bool),.o (.full (0,5,1))]
abbrev ZyX:Sh:= .o (.ptr (0,2,1) 0 0)
abbrev ZxZ:ShO:= .boxS (.st 3)
abbrev Zzw:Sh:= .o (.sl (0,0,0))
abbrev Zx0:Sh:= .o (.v .str)
abbrev ZzF:Sh:= .o (.v (.sl .str))
abbrev ZBE:Sh:= .o (.ptr (0,3,1) 0 0)
abbrev ZDt:ShO:= .box [.o (.v .str),.o (.full (0,4,1))]
abbrev ZBD:ShO:= .arr (.st 0) false
abbrev ZAM:ShO:= .boxS (.st 2)
abbrev ZDk:Sh:= .o (.v (.sl (.st 0)))
abbrev qo20:ShO:= .box [.o (.v .bool),.o (.full (0,2,1))]
abbrev qo21:ShO:= .box [.o (.v .str),.o (.full (0,3,1))]
abbrev ZDj:Sh:= .o (.full (0,2,1))
abbrev ZBC:ShO:= .boxS (.st 1)
abbrev qs0:List Sh:=[qe0,qe0,qe1]
abbrev qp1:List ShO:=[qo6,qo2,qo2]
abbrev qs2:List Sh:=[qe0,qe0,qe3,qe7,qe1]
noncomputable def D0:FD U:=⟨11,Tryz.f11,[],[.p (.sl (.int .i64))],[],[.p .bool],[],[],Zrm,Zrm,
.nil⟩
theorem ZD5:Zeg X0.E 11 D0.sig:=D0.ok G0 Tryz.func11 trivial rfl rfl (by kernel_rfl)
noncomputable def D2:FD U:=⟨33,Tryz.f33,[],[.p (.sl .str),.p (.sl .str)],[],[.p .bool],[],[],ZoJ,ZoJ,
.lr 941011 [1,12,13,14] [] [ZzF,ZzF,qe1,qe1] [] 0 [] [] [] [] Zoo Zsa (fun _=> .nil) <|
.nil⟩
theorem ZDP:Zeg X0.E 33 D2.sig:=D2.ok G0 Tryz.func33 trivial rfl rfl (by kernel_rfl)
noncomputable def D4:FD U:=⟨259,Tryz.f259,[],[.p .str],[],[.p .bool],[],[],ZrH,ZrH,
.nil⟩
theorem ZDO:Zeg X0.E 259 D4.sig:=D4.ok G0 Tryz.func259 trivial rfl rfl (by kernel_rfl)
noncomputable def D5:FD U:=⟨189,Tryz.f189,[D4.sg],[.p .str,.p .str],[],[.p .bool],[],[],Zsj,Zsj,
.j 911 [4] [] [qe5] [] ZqP <|
.nil⟩
theorem ZDN:Zeg X0.E 189 D5.sig:=D5.ok G0 Tryz.func189 ⟨ZDO,trivial⟩ rfl rfl (by kernel_rfl)
noncomputable def D6:FD U:=⟨260,Tryz.f260,[],[.p .str],[],[.p .bool],[],[],Zqy,Zqy,
.nil⟩
theorem ZDM:Zeg X0.E 260 D6.sig:=D6.ok G0 Tryz.func260 trivial rfl rfl (by kernel_rfl)
noncomputable def D7:FD U:=⟨192,Tryz.f192,[D5.sg,D6.sg],[.p (.sl .str),.p .str],[],[.p (.int .i64),.p .bool],[],[],Zn9,Zn9,
.lo 940111 [0,1,6,7,8] [] [ZzF,Zx0,qe1,qe1,qe1] [] 0 [0,1,6,7] [] [ZzF,Zx0,qe1,qe1] [] Zok Zo1 (fun _=> .nil) <|
.j 911111 [4,5] [] [qe1,qe5] [] ZnR <|
.nil⟩
theorem ZDL:Zeg X0.E 192 D7.sig:=D7.ok G0 Tryz.func192 ⟨ZDN,ZDM,trivial⟩ rfl rfl (by kernel_rfl)
noncomputable def D8:FD U:=⟨120,Tryz.f120,[D7.sg],[.p (.sl .str),.p (.sl .str)],[],[.p (.int .i64)],[],[],Zrb,Zrb,
.lo 941011 [1,5,10,11,12] [] [ZzF,qe1,ZzF,qe1,qe1] [] 0 [5] [] [qe1] [] Zqb ZsE (fun n0=> .j 9111541011 [1,5,10,11,12] [] [ZzF,qe1,ZzF,qe1,qe1] [] (Zrn (Zqb n0)) <|
.nil) <|
.nil⟩
theorem ZDK:Zeg X0.E 120 D8.sig:=D8.ok G0 Tryz.func120 ⟨ZDL,trivial⟩ rfl rfl (by kernel_rfl)
noncomputable def D9:FD U:=⟨252,Tryz.f252,[],[.p (.sl (.int .u32))],[],[.p (.sl (.int .u32))],[],[],ZnU,ZnU,
.lo 9401 [0] [] [qe0] [] 0 [0] [] [qe0] [] ZoA Zs3 (fun n0=> .j 9105401 [0,14] [] [qe0,qe5] [] (ZrC (ZoA n0)) <|
.nil) <|
.nil⟩
theorem ZyG:Zeg X0.E 252 D9.sig:=D9.ok G0 Tryz.func252 trivial rfl rfl (by kernel_rfl)
noncomputable def D10:FD U:=⟨255,Tryz.f255,[D9.sg],[.p (.int .u64)],[],[.p (.sl (.int .u32))],[],[],Zp0,Zp0,
.nil⟩
theorem ZAA:Zeg X0.E 255 D10.sig:=D10.ok G0 Tryz.func255 ⟨ZyG,trivial⟩ rfl rfl (by kernel_rfl)
noncomputable def D11:FD U:=⟨175,Tryz.f175,[],[.p .bool,.p (.sl (.int .u32))],[],[.p (.st 2)],[],[],Zn0,Zn0,
.j 911 [4] [] [qe4] [qo20,qo2] Zr3 <|
.nil⟩
theorem ZxR:Zeg X0.E 175 D11.sig:=D11.ok G0 Tryz.func175 trivial rfl rfl (by kernel_rfl)
noncomputable def D12:FD U:=⟨180,Tryz.f180,[D10.sg,D11.sg],[.p (.int .i64)],[],[.p (.st 2)],[],[],ZqG,ZqG,
.nil⟩
theorem ZDf:Zeg X0.E 180 D12.sig:=D12.ok G0 Tryz.func180 ⟨ZAA,ZxR,trivial⟩ rfl rfl (by kernel_rfl)
noncomputable def D13:FD U:=⟨218,Tryz.f218,[],[.p (.st 2)],[],[.p .bool],[],[],Zqj,Zqj,
.j 9111 [2] [] [qe5] [] Zom <|
.nil⟩
theorem ZDe:Zeg X0.E 218 D13.sig:=D13.ok G0 Tryz.func218 trivial rfl rfl (by kernel_rfl)
noncomputable def D14:FD U:=⟨154,Tryz.f154,[D13.sg],[.p (.sl (.st 2))],[],[.p .bool],[],[],Zsi,Zsi,
.lr 94101 [5,6,7] [] [.o (.v (.sl (.st 2))),qe1,qe1] [] 0 [] [] [] [] ZsL ZuT (fun _=> .nil) <|
.nil⟩
theorem ZAz:Zeg X0.E 154 D14.sig:=D14.ok G0 Tryz.func154 ⟨ZDe,trivial⟩ rfl rfl (by kernel_rfl)
noncomputable def D15:FD U:=⟨287,Tryz.f287,[],[.p (.int .i64)],[],[.p .bool],[],[],Ztb,Ztb,
.nil⟩
theorem ZDd:Zeg X0.E 287 D15.sig:=D15.ok G0 Tryz.func287 trivial rfl rfl (by kernel_rfl)
noncomputable def D16:FD U:=⟨220,Tryz.f220,[D15.sg],[.p (.int .i64),.p (.int .i64)],[],[.p (.int .i64)],[],[],Zsk,Zsk,
.nil⟩
theorem ZDc:Zeg X0.E 220 D16.sig:=D16.ok G0 Tryz.func220 ⟨ZDd,trivial⟩ rfl rfl (by kernel_rfl)
noncomputable def D17:FD U:=⟨288,Tryz.f288,[],[.p (.int .u32)],[],[.p .bool],[],[],ZsM,ZsM,
.nil⟩
theorem ZDb:Zeg X0.E 288 D17.sig:=D17.ok G0 Tryz.func288 trivial rfl rfl (by kernel_rfl)
noncomputable def D18:FD U:=⟨221,Tryz.f221,[D17.sg],[.p (.int .u32),.p (.int .u32)],[],[.p (.int .i64)],[],[],Zr6,Zr6,
.nil⟩
theorem ZDa:Zeg X0.E 221 D18.sig:=D18.ok G0 Tryz.func221 ⟨ZDb,trivial⟩ rfl rfl (by kernel_rfl)
noncomputable def D19:FD U:=⟨156,Tryz.f156,[D16.sg,D18.sg],[.p (.sl (.int .u32)),.p (.sl (.int .u32))],[],[.p (.int .i64)],[],[],Zoc,Zoc,
.lr 941011 [0,1,6] [] qs0 [] 0 [] [] [] [] ZpY Zri (fun _=> .nil) <|
.nil⟩
theorem Zzt:Zeg X0.E 156 D19.sig:=D19.ok G0 Tryz.func156 ⟨ZDc,ZDa,trivial⟩ rfl rfl (by kernel_rfl)
noncomputable def D20:FD U:=⟨282,Tryz.f282,[],[.p (.sl (.int .u32))],[],[.own (.int .u32)],[],[],Zn6,Zn6,
.j 9101 [0,4] [] [qe0,qe5] [] ZnI <|
.nil⟩
theorem ZAy:Zeg X0.E 282 D20.sig:=D20.ok G0 Tryz.func282 trivial rfl rfl (by kernel_rfl)
noncomputable def D21:FD U:=⟨325,Tryz.f325,[],[.p (.int .u32),.p (.int .u32),.p (.int .u32)],[],[.p (.int .u32),.p (.int .u32)],[],[],Zse,Zse,
.j 9101 [0,1,2,15] [] [qe8,qe8,qe8,qe5] [] ZqO <|
.nil⟩
theorem ZC9:Zeg X0.E 325 D21.sig:=D21.ok G0 Tryz.func325 trivial rfl rfl (by kernel_rfl)
noncomputable def D22:FD U:=⟨283,Tryz.f283,[D21.sg,D9.sg],[.p (.sl (.int .u32)),.p (.int .u32)],[],[.p (.sl (.int .u32)),.p (.int .u32)],[],[],Zqc,Zqc,
.lo 9410111 [0,1,6,7,8] [] [qe0,qe8,qe3,qe8,qe1] [qo2] 0 [6,7] [] [qe3,qe8] [qo2] Zqu ZrX (fun _=> .nil) <|
.nil⟩
theorem ZC8:Zeg X0.E 283 D22.sig:=D22.ok G0 Tryz.func283 ⟨ZC9,ZyG,trivial⟩ rfl rfl (by kernel_rfl)
noncomputable def D23:FD U:=⟨173,Tryz.f173,[],[.p (.int .u32)],[],[.p (.int .i64)],[],[],Zsd,Zsd,
.j 911 [0,2] [] [qe8,qe1] [] Zr1 <|
.j 9111 [0,2] [] [qe8,qe1] [] Zp1 <|
.nil⟩
theorem ZC7:Zeg X0.E 173 D23.sig:=D23.ok G0 Tryz.func173 trivial rfl rfl (by kernel_rfl)
noncomputable def D24:FD U:=⟨284,Tryz.f284,[D23.sg],[.p (.int .u32)],[],[.p (.int .i64)],[],[],Zo6,Zo6,
.nil⟩
theorem ZC6:Zeg X0.E 284 D24.sig:=D24.ok G0 Tryz.func284 ⟨ZC7,trivial⟩ rfl rfl (by kernel_rfl)
noncomputable def D25:FD U:=⟨285,Tryz.f285,[],[.p (.sl (.int .u32)),.p (.int .i64)],[],[.own (.int .u32)],[],[],Zoq,Zoq,
.lo 941011 [1,5,13,14,15] [] [qe1,qe3,qe0,qe1,qe1] [qo2] 0 [5] [] [qe3] [qo2] ZpW Zrg (fun _=> .nil) <|
.nil⟩
theorem ZC5:Zeg X0.E 285 D25.sig:=D25.ok G0 Tryz.func285 trivial rfl rfl (by kernel_rfl)
noncomputable def D26:FD U:=⟨253,Tryz.f253,[],[.p (.int .u32),.p (.int .u32),.p (.int .u32)],[],[.p (.int .u32),.p (.int .u32)],[],[],Zqf,Zqf,
.nil⟩
theorem ZAx:Zeg X0.E 253 D26.sig:=D26.ok G0 Tryz.func253 trivial rfl rfl (by kernel_rfl)
noncomputable def D27:FD U:=⟨250,Tryz.f250,[],[.p (.int .u32),.p (.int .u32),.p (.int .u32)],[],[.p (.int .u32),.p (.int .u32)],[],[],Zq0,Zq0,
.nil⟩
theorem ZAw:Zeg X0.E 250 D27.sig:=D27.ok G0 Tryz.func250 trivial rfl rfl (by kernel_rfl)
noncomputable def D28:FD U:=⟨286,Tryz.f286,[D26.sg,D27.sg],[.part (.int .u32),.p (.sl (.int .u32))],[(0,.arr (.int .u32))],[.p (.int .u32)],[],[],Zty,ZsK,
.lo 94011111 [0,1,5,7,8] [] [Zzw,qe0,qe1,qe7,qe7] [qo2] 0 [0,1,5,7] [] [Zzw,qe0,qe1,qe7] [qo2] Zqh Zsr (fun n0=> .j 91054011111 [0,1,5,7,8,71] [] [Zzw,qe0,qe1,qe7,qe7,qe5] [qo2] (Zrk (Zqh n0)) <|
.nil) <|
.lo 941011111111 [0,1,5,7,9,10,82,83,84] [] [Zzw,qe0,qe1,qe7,qe8,qe7,qe0,qe1,qe1] [qo2] 2 [0,1,5,7,9,10] [] [Zzw,qe0,qe1,qe7,qe8,qe7] [qo2] Zsp ZtA (fun _=> .nil) <|
.lo 941011111111111 [0,5,7,13,130,131,132] [] [Zzw,qe1,qe7,qe8,qe0,qe1,qe1] [qo2] 4 [0,5,7,13] [] [Zzw,qe1,qe7,qe8] [qo2] Zrj Zsq (fun _=> .nil) <|
.nil⟩
theorem ZC4:Zeg X0.E 286 D28.sig:=D28.okA G0 Tryz.func286 ⟨ZAx,ZAw,trivial⟩ (by kernel_rfl) (by kernel_rfl)
noncomputable def D29:FD U:=⟨252,Tryz.f252,[],[.part (.int .u32)],[(0,.arr (.int .u32))],[.view 0],[],[],Zr2,Zro,
.lo 9401 [0] [] [Zzw] [qo2] 0 [0] [] [Zzw] [qo2] ZpZ Zso (fun n0=> .j 9105401 [0,14] [] [Zzw,qe5] [qo2] (ZqY (ZpZ n0)) <|
.nil) <|
.nil⟩
theorem ZC3:Zeg X0.E 252 D29.sig:=D29.okA G0 Tryz.func252 trivial (by kernel_rfl) (by kernel_rfl)
noncomputable def D30:FD U:=⟨251,Tryz.f251,[],[.p (.sl (.int .u32)),.p (.int .i64)],[],[.p (.int .u32)],[],[],Zpv,Zpv,
.nil⟩
theorem ZAv:Zeg X0.E 251 D30.sig:=D30.ok G0 Tryz.func251 trivial rfl rfl (by kernel_rfl)
noncomputable def D31:FD U:=⟨251,Tryz.f251,[],[.part (.int .u32),.p (.int .i64)],[(0,.arr (.int .u32))],[.p (.int .u32)],[],[],Zs2,ZqW,
.nil⟩
theorem ZC2:Zeg X0.E 251 D31.sig:=D31.okA G0 Tryz.func251 trivial (by kernel_rfl) (by kernel_rfl)
noncomputable def D32:FD U:=⟨219,Tryz.f219,[D19.sg,D20.sg,D22.sg,D9.sg,D24.sg,D25.sg,D28.sg,D29.sg,D31.sg],[.p (.sl (.int .u32)),.p (.sl (.int .u32))],[],[.p (.sl (.int .u32)),.p (.sl (.int .u32))],[],[(84,7)],ZoW,ZoW,
.lo 9410111111 [8,9,10,11,12,13] [11] [qe1,qe1,qe3,qe0,ZDj,qe1] [qo2,qo2] 1 [8,9,10,12] [] [qe1,qe1,qe3,ZDj] [qo2,qo2] ZpA Zsh (fun _=> .nil) <|
.lo 941011111111 [9,12,14,86,87] [] [qe1,qe3,.o (.sl (0,2,1)),qe1,qe1] [qo2,qo2] 3 [12,14] [] [qe3,.o (.sl (0,2,1))] [qo2,qo2] Zpz Zsg (fun _=> .nil) <|
.nil⟩
theorem ZAu:Zeg X0.E 219 D32.sig:=D32.ok G0 Tryz.func219 ⟨Zzt,ZAy,ZC8,ZyG,ZC6,ZC5,ZC4,ZC3,ZC2,trivial⟩ rfl rfl (by kernel_rfl)
noncomputable def D33:FD U:=⟨155,Tryz.f155,[D32.sg],[.p (.sl (.int .u32)),.p (.sl (.int .u32))],[],[.p (.sl (.int .u32))],[],[],Zo2,Zo2,
.lo 9401 [0,1] [] [qe0,qe0] [] 0 [0] [] [qe0] [] Zog Zry (fun _=> .nil) <|
.nil⟩
theorem ZAt:Zeg X0.E 155 D33.sig:=D33.ok G0 Tryz.func155 ⟨ZAu,trivial⟩ rfl rfl (by kernel_rfl)
noncomputable def D34:FD U:=⟨254,Tryz.f254,[D33.sg,D32.sg,D11.sg],[.p (.st 2),.p (.st 2)],[],[.p (.st 3)],[],[],ZoM,ZoM,
.nil⟩
theorem Zys:Zeg X0.E 254 D34.sig:=D34.ok G0 Tryz.func254 ⟨ZAt,ZAu,ZxR,trivial⟩ rfl rfl (by kernel_rfl)
noncomputable def D35:FD U:=⟨179,Tryz.f179,[D14.sg,D34.sg],[.p (.st 2),.p (.st 2)],[],[.p (.st 3),.p (.int .i64)],[],[],Zs7,Zs7,
.nil⟩
theorem ZC1:Zeg X0.E 179 D35.sig:=D35.ok G0 Tryz.func179 ⟨ZAz,Zys,trivial⟩ rfl rfl (by kernel_rfl)
noncomputable def D36:FD U:=⟨116,Tryz.f116,[D12.sg,D35.sg],[.p (.int .i64),.p (.int .i64)],[],[.p (.st 3),.p (.int .i64)],[],[],Zth,Zth,
.nil⟩
theorem ZAs:Zeg X0.E 116 D36.sig:=D36.ok G0 Tryz.func116 ⟨ZDf,ZC1,trivial⟩ rfl rfl (by kernel_rfl)
noncomputable def D37:FD U:=⟨67,Tryz.f67,[D36.sg],[],[],[.p (.st 3)],[],[],Ztf,Ztf,
.nil⟩
theorem Zyr:Zeg X0.E 67 D37.sig:=D37.ok G0 Tryz.func67 ⟨ZAs,trivial⟩ rfl rfl (by kernel_rfl)
noncomputable def D38:FD U:=⟨64,Tryz.f64,[D36.sg,D37.sg],[.p (.int .i64),.p (.int .i64)],[],[.p (.st 3)],[],[],Zt1,Zt1,
.nil⟩
theorem Zzs:Zeg X0.E 64 D38.sig:=D38.ok G0 Tryz.func64 ⟨ZAs,Zyr,trivial⟩ rfl rfl (by kernel_rfl)
noncomputable def D39:FD U:=⟨78,Tryz.f78,[D8.sg,D38.sg],[.p (.sl .str),.p (.sl .str)],[],[.p (.st 3)],[],[],ZqD,ZqD,
.nil⟩
theorem ZAr:Zeg X0.E 78 D39.sig:=D39.ok G0 Tryz.func78 ⟨ZDK,Zzs,trivial⟩ rfl rfl (by kernel_rfl)
noncomputable def D40:FD U:=⟨38,Tryz.f38,[(80,ZuZ.sig),D39.sg],[.p (.st 1),.p (.st 1)],[],[.p (.st 3)],[],[],Zrc,Zrc,
.nil⟩
theorem ZC0:Zeg X0.E 38 D40.sig:=D40.ok G0 Tryz.func38 ⟨ZvK,ZAr,trivial⟩ rfl rfl (by kernel_rfl)
noncomputable def D41:FD U:=⟨36,Tryz.f36,[(34,Zr7.sig),D39.sg],[.p .str,.p .str],[],[.p (.st 3)],[],[],ZpQ,ZpQ,
.nil⟩
theorem ZAq:Zeg X0.E 36 D41.sig:=D41.ok G0 Tryz.func36 ⟨Zss,ZAr,trivial⟩ rfl rfl (by kernel_rfl)
noncomputable def D42:FD U:=⟨101,Tryz.f101,[D14.sg,D33.sg,D19.sg],[.p (.st 3)],[],[.p .bool],[],[],ZoC,ZoC,
.j 911 [2] [] [qe5] [] Zqi <|
.nil⟩
theorem Zyq:Zeg X0.E 101 D42.sig:=D42.ok G0 Tryz.func101 ⟨ZAz,ZAt,Zzt,trivial⟩ rfl rfl (by kernel_rfl)
noncomputable def D43:FD U:=⟨178,Tryz.f178,[D9.sg],[.p (.sl (.int .u32)),.p (.sl (.int .u32))],[],[.p (.sl (.int .u32))],[],[],ZoH,ZoH,
.lo 941011 [1,5,17,18,19] [] [qe0,qe3,qe0,qe1,qe1] [qo2] 0 [5] [] [qe3] [qo2] Zpm ZrV (fun n0=> .lo 9410114011541011 [1,5,6,7,8,17,18,19,24,25,26] [] [qe0,qe3,qe1,qe8,qe7,qe0,qe1,qe1,qe0,qe1,qe1] [qo2] 2 [1,5,6,8,17,18,19] [] [qe0,qe3,qe1,qe7,qe0,qe1,qe1] [qo2] Zqt (ZrW (Zpm n0)) (fun _=> .nil) <|
.nil) <|
.nil⟩
theorem ZAp:Zeg X0.E 178 D43.sig:=D43.ok G0 Tryz.func178 ⟨ZyG,trivial⟩ rfl rfl (by kernel_rfl)
noncomputable def D44:FD U:=⟨114,Tryz.f114,[D43.sg,D11.sg],[.p (.st 2),.p (.st 2)],[],[.p (.st 2)],[],[],ZnK,ZnK,
.nil⟩
theorem Zzr:Zeg X0.E 114 D44.sig:=D44.ok G0 Tryz.func114 ⟨ZAp,ZxR,trivial⟩ rfl rfl (by kernel_rfl)
noncomputable def D45:FD U:=⟨115,Tryz.f115,[],[.p (.st 2)],[],[.p (.st 2)],[],[],Zpw,Zpw,
.j 911 [2] [] [qe4] [ZAM] Zrp <|
.nil⟩
theorem ZAo:Zeg X0.E 115 D45.sig:=D45.ok G0 Tryz.func115 trivial rfl rfl (by kernel_rfl)
noncomputable def D46:FD U:=⟨176,Tryz.f176,[D30.sg,D27.sg,D9.sg],[.p (.sl (.int .u32)),.p (.sl (.int .u32))],[],[.p (.sl (.int .u32))],[],[],Zpy,Zpy,
.lo 9410111 [0,1,5,6,20,21] [] [qe0,qe0,qe3,qe8,qe1,qe1] [qo2] 0 [5,6] [] [qe3,qe8] [qo2] ZqF Zsf (fun _=> .nil) <|
.nil⟩
theorem ZAn:Zeg X0.E 176 D46.sig:=D46.ok G0 Tryz.func176 ⟨ZAv,ZAw,ZyG,trivial⟩ rfl rfl (by kernel_rfl)
noncomputable def D47:FD U:=⟨177,Tryz.f177,[D30.sg,D26.sg,D9.sg],[.p (.sl (.int .u32)),.p (.sl (.int .u32))],[],[.p (.sl (.int .u32))],[],[],Zpd,Zpd,
.lo 9410111 [0,1,5,6,12,13] [] [qe0,qe0,qe3,qe8,qe1,qe1] [qo2] 0 [5] [] [qe3] [qo2] Zqv ZrY (fun _=> .nil) <|
.nil⟩
theorem ZCZ:Zeg X0.E 177 D47.sig:=D47.ok G0 Tryz.func177 ⟨ZAv,ZAx,ZyG,trivial⟩ rfl rfl (by kernel_rfl)
noncomputable def D48:FD U:=⟨113,Tryz.f113,[D46.sg,D11.sg,D19.sg,D47.sg],[.p (.st 2),.p (.st 2)],[],[.p (.st 2)],[],[],Zr0,Zr0,
.nil⟩
theorem ZAm:Zeg X0.E 113 D48.sig:=D48.ok G0 Tryz.func113 ⟨ZAn,ZxR,Zzt,ZCZ,trivial⟩ rfl rfl (by kernel_rfl)
noncomputable def D49:FD U:=⟨62,Tryz.f62,[D42.sg,D44.sg,D45.sg,D48.sg],[.p (.st 3),.p (.st 3)],[],[.p (.int .i64)],[],[],Ztx,Ztx,
.j 9101 [2,3,13] [] [qe4,ZyX,qe5] [ZxZ,ZxZ] Zti <|
.nil⟩
theorem ZCY:Zeg X0.E 62 D49.sig:=D49.ok G0 Tryz.func62 ⟨Zyq,Zzr,ZAo,ZAm,trivial⟩ rfl rfl (by kernel_rfl)
noncomputable def D50:FD U:=⟨82,Tryz.f82,[D37.sg,D49.sg],[.p (.st 3)],[],[.p (.int .i64)],[],[],ZtV,ZtV,
.nil⟩
theorem ZCX:Zeg X0.E 82 D50.sig:=D50.ok G0 Tryz.func82 ⟨Zyr,ZCY,trivial⟩ rfl rfl (by kernel_rfl)
noncomputable def D51:FD U:=⟨164,Tryz.f164,[],[],[],[.map (.int .i64) (.st 4)],[],[],Zuo,Zuo,
.nil⟩
theorem ZAl:Zeg X0.E 164 D51.sig:=D51.ok G0 Tryz.func164 trivial rfl rfl (by kernel_rfl)
noncomputable def D53:FD U:=⟨236,Tryz.f236,[(297,Zuj.sig)],[.p .str],[],[.p .str],[],[],ZvU,ZvU,
.nil⟩
theorem ZCW:Zeg X0.E 236 D53.sig:=D53.ok G0 Tryz.func236 ⟨ZuP,trivial⟩ rfl rfl (by kernel_rfl)
noncomputable def D54:FD U:=⟨353,Tryz.f353,[],[.p .str,.p .str],[],[.p .bool],[],[],ZoQ,ZoQ,
.j 911 [4] [] [qe5] [] Zpu <|
.nil⟩
theorem ZAk:Zeg X0.E 353 D54.sig:=D54.ok G0 Tryz.func353 trivial rfl rfl (by kernel_rfl)
noncomputable def D55:FD U:=⟨337,Tryz.f337,[D54.sg],[.p .str,.p .str],[],[.p .str,.p .bool],[],[],Zp3,Zp3,
.nil⟩
theorem ZCV:Zeg X0.E 337 D55.sig:=D55.ok G0 Tryz.func337 ⟨ZAk,trivial⟩ rfl rfl (by kernel_rfl)
noncomputable def D56:FD U:=⟨301,Tryz.f301,[D55.sg],[.p .str,.p .str],[],[.p .str,.p .bool],[],[],Ztz,Ztz,
.nil⟩
theorem ZCU:Zeg X0.E 301 D56.sig:=D56.ok G0 Tryz.func301 ⟨ZCV,trivial⟩ rfl rfl (by kernel_rfl)
noncomputable def D57:FD U:=⟨338,Tryz.f338,[D54.sg],[.p .str,.p .str],[],[.p .str],[],[],ZpS,ZpS,
.nil⟩
theorem ZCT:Zeg X0.E 338 D57.sig:=D57.ok G0 Tryz.func338 ⟨ZAk,trivial⟩ rfl rfl (by kernel_rfl)
noncomputable def D58:FD U:=⟨302,Tryz.f302,[D57.sg],[.p .str,.p .str],[],[.p .str],[],[],Zto,Zto,
.nil⟩
theorem ZCS:Zeg X0.E 302 D58.sig:=D58.ok G0 Tryz.func302 ⟨ZCT,trivial⟩ rfl rfl (by kernel_rfl)
noncomputable def D60:FD U:=⟨352,Tryz.f352,[(370,Zrq.sig)],[.p .str,.p .str],[],[.p (.int .i64)],[],[],ZqV,ZqV,
.j 914011 [0,1,5,16] [] [Zx0,Zx0,qe1,qe5] [] Zqg <|
.nil⟩
theorem ZCR:Zeg X0.E 352 D60.sig:=D60.ok G0 Tryz.func352 ⟨Ztq,trivial⟩ rfl rfl (by kernel_rfl)
noncomputable def D61:FD U:=⟨339,Tryz.f339,[D60.sg],[.p .str,.p .str],[],[.p .str,.p .str,.p .bool],[],[],Zru,Zru,
.nil⟩
theorem ZCQ:Zeg X0.E 339 D61.sig:=D61.ok G0 Tryz.func339 ⟨ZCR,trivial⟩ rfl rfl (by kernel_rfl)
noncomputable def D62:FD U:=⟨303,Tryz.f303,[D61.sg],[.p .str,.p .str],[],[.p .str,.p .str,.p .bool],[],[],Zuw,Zuw,
.nil⟩
theorem ZAj:Zeg X0.E 303 D62.sig:=D62.ok G0 Tryz.func303 ⟨ZCQ,trivial⟩ rfl rfl (by kernel_rfl)
noncomputable def D63:FD U:=⟨304,Tryz.f304,[(297,Zuj.sig)],[.p .str,.p (.int .i64)],[],[.p .bool],[],[],Ztg,Ztg,
.j 911 [4] [] [qe5] [] Zr4 <|
.nil⟩
theorem ZCP:Zeg X0.E 304 D63.sig:=D63.ok G0 Tryz.func304 ⟨ZuP,trivial⟩ rfl rfl (by kernel_rfl)
noncomputable def D64:FD U:=⟨241,Tryz.f241,[D56.sg,D58.sg,D62.sg,D63.sg,D20.sg,D43.sg,D10.sg,D46.sg,D11.sg,D34.sg],[.p .str],[],[.p (.st 3),.p .bool],[],[],ZqH,ZqH,
.j 9111 [2,4,5] [] [qe4,Zx0,qe5] qp1 Zta <|
.j 9101111 [2,5,6,7,39] [] [qe4,qe5,Zx0,Zx0,qe5] qp1 ZrG <|
.lo 941011111111 [2,5,7,9,10,11,47,48,49] [9,10] [qe4,qe5,Zx0,qe0,qe0,ZDj,.o (.full (0,3,1)),qe1,qe1] [qo9,qo2,.arr (.int .u8) false,qo2,qo2] 0 [2,5,7,9,10,11] [] [qe4,qe5,Zx0,qe0,qe0,ZDj] [.box [.o (.v .bool),.o (.full (0,3,1)),.o (.v .bool),.o (.full (0,4,1))],qo2,qo2,qo2] Zs9 Zub (fun _=> .nil) <|
.lo 9410111111111 [2,5,9,10,11,63,64] [11] [qe4,qe5,qe0,qe0,qe0,qe1,qe1] qp1 2 [2,5,9,11] [] [qe4,qe5,qe0,qe0] qp1 Zs8 ZrF (fun _=> .nil) <|
.nil⟩
theorem ZAi:Zeg X0.E 241 D64.sig:=D64.ok G0 Tryz.func241 ⟨ZCU,ZCS,ZAj,ZCP,ZAy,ZAp,ZAA,ZAn,ZxR,Zys,trivial⟩ rfl rfl (by kernel_rfl)
noncomputable def D67:FD U:=⟨307,Tryz.f307,[],[.p (.sl .str)],[],[.p .str],[],[],ZuK,ZuK,
.lr 941011 [3,6,7,8] [] [Zx0,ZzF,qe1,qe1] [] 0 [3] [] [Zx0] [] ZtO ZuU (fun _=> .nil) <|
.nil⟩
theorem ZCO:Zeg X0.E 307 D67.sig:=D67.ok G0 Tryz.func307 trivial rfl rfl (by kernel_rfl)
noncomputable def D68:FD U:=⟨242,Tryz.f242,[D64.sg,(305,Zun.sig),D62.sg,(306,Zuf.sig),D67.sg],[.p .str],[],[.p .str,.p .bool],[],[],ZsO,ZsO,
.j 9111111 [0,9] [] [Zx0,Zx0] [] ZtG <|
.j 910111111 [9,43] [] [Zx0,qe5] [] ZtF <|
.j 91111111 [9] [] [Zx0] [] ZtE <|
.nil⟩
theorem ZCN:Zeg X0.E 242 D68.sig:=D68.ok G0 Tryz.func242 ⟨ZAi,Zvn,ZAj,Zvd,ZCO,trivial⟩ rfl rfl (by kernel_rfl)
noncomputable def D69:FD U:=⟨163,Tryz.f163,[D51.sg,D53.sg,D68.sg],[.p (.int .i64),.p .str],[],[.p .str,.p .bool],[],[(26,2)],Zr9,Zr9,
.nil⟩
theorem ZCM:Zeg X0.E 163 D69.sig:=D69.ok G0 Tryz.func163 ⟨ZAl,ZCW,ZCN,trivial⟩ rfl rfl (by kernel_rfl)
noncomputable def D70:FD U:=⟨110,Tryz.f110,[D69.sg,D51.sg,D64.sg],[.p (.int .i64),.p .str],[],[.p (.st 3),.p .bool],[],[(22,2)],Zup,Zup,
.nil⟩
theorem ZCL:Zeg X0.E 110 D70.sig:=D70.ok G0 Tryz.func110 ⟨ZCM,ZAl,ZAi,trivial⟩ rfl rfl (by kernel_rfl)
noncomputable def D71:FD U:=⟨60,Tryz.f60,[D37.sg,D70.sg],[.p (.st 0)],[],[.p (.st 3),.p .bool],[],[],ZpR,ZpR,
.nil⟩
theorem ZCK:Zeg X0.E 60 D71.sig:=D71.ok G0 Tryz.func60 ⟨Zyr,ZCL,trivial⟩ rfl rfl (by kernel_rfl)
noncomputable def D72:FD U:=⟨40,Tryz.f40,[D71.sg,D38.sg],[.p (.st 1)],[],[.p (.st 3)],[],[],ZtJ,Zo7,
.lo 941011 [2,3,4,10,11,12] [] [qe4,qe1,qe1,ZDk,qe1,qe1] qp1 0 [2,3,4] [] [qe4,qe1,qe1] qp1 Zqz ZsW (fun n0=> .j 9111541011 [2,3,4,10,11,12] [] [qe4,qe1,qe1,ZDk,qe1,qe1] qp1 (ZqA (Zqz n0)) <|
.nil) <|
.nil⟩
theorem ZAh:Zeg X0.E 40 D72.sig:=D72.ok G0 Tryz.func40 ⟨ZCK,Zzs,trivial⟩ rfl (by funext x_;exact Zts _) (by kernel_rfl)
noncomputable def D73:FD U:=⟨196,Tryz.f196,[D44.sg,D48.sg],[.p (.st 3),.p (.st 3)],[],[.p (.st 2),.p (.st 2)],[],[],ZtM,ZtM,
.nil⟩
theorem ZCJ:Zeg X0.E 196 D73.sig:=D73.ok G0 Tryz.func196 ⟨Zzr,ZAm,trivial⟩ rfl rfl (by kernel_rfl)
noncomputable def D74:FD U:=⟨197,Tryz.f197,[D42.sg,D73.sg,D34.sg],[.fn 196 [] [],.p (.st 3),.p (.st 3)],[],[.p (.st 3),.p (.int .i64)],[],[],Zor,Zor,
.j 9101 [0,4,5,6,18] [] [.fn 196 [] [],qe4,ZyX,ZBE,qe5] [ZxZ,ZxZ,qo9,qo2,qo2] Zo8 <|
.nil⟩
theorem ZAg:Zeg X0.E 197 D74.sig:=D74.ok G0 Tryz.func197 ⟨Zyq,ZCJ,Zys,trivial⟩ rfl rfl (by kernel_rfl)
noncomputable def D75:FD U:=⟨127,Tryz.f127,[D42.sg,D45.sg,D74.sg],[.p (.st 3),.p (.st 3)],[],[.p (.st 3),.p (.int .i64)],[],[],Ztv,Ztv,
.nil⟩
theorem ZCI:Zeg X0.E 127 D75.sig:=D75.ok G0 Tryz.func127 ⟨Zyq,ZAo,ZAg,trivial⟩ rfl rfl (by kernel_rfl)
noncomputable def D76:FD U:=⟨126,Tryz.f126,[],[.p (.st 3),.p (.int .i64)],[],[.p (.st 3)],[],[],ZsX,ZsX,
.nil⟩
theorem Zzq:Zeg X0.E 126 D76.sig:=D76.ok G0 Tryz.func126 trivial rfl rfl (by kernel_rfl)
noncomputable def D77:FD U:=⟨83,Tryz.f83,[D75.sg,D76.sg],[.p (.st 3),.p (.st 3)],[],[.p (.st 3)],[],[],ZuF,ZuF,
.nil⟩
theorem ZCH:Zeg X0.E 83 D77.sig:=D77.ok G0 Tryz.func83 ⟨ZCI,Zzq,trivial⟩ rfl rfl (by kernel_rfl)
noncomputable def D78:FD U:=⟨128,Tryz.f128,[D74.sg],[.p (.st 3),.p (.st 3)],[],[.p (.st 3),.p (.int .i64)],[],[],ZsA,ZsA,
.nil⟩
theorem ZCG:Zeg X0.E 128 D78.sig:=D78.ok G0 Tryz.func128 ⟨ZAg,trivial⟩ rfl rfl (by kernel_rfl)
noncomputable def D79:FD U:=⟨84,Tryz.f84,[D78.sg,D76.sg],[.p (.st 3),.p (.st 3)],[],[.p (.st 3)],[],[],ZuG,ZuG,
.nil⟩
theorem ZCF:Zeg X0.E 84 D79.sig:=D79.ok G0 Tryz.func84 ⟨ZCG,Zzq,trivial⟩ rfl rfl (by kernel_rfl)
noncomputable def D80:FD U:=⟨198,Tryz.f198,[D44.sg],[.p (.st 3),.p (.st 3)],[],[.p (.st 2),.p (.st 2)],[],[],ZtN,ZtN,
.nil⟩
theorem ZCE:Zeg X0.E 198 D80.sig:=D80.ok G0 Tryz.func198 ⟨Zzr,trivial⟩ rfl rfl (by kernel_rfl)
noncomputable def D81:FD U:=⟨197,Tryz.f197,[D42.sg,D80.sg,D34.sg],[.fn 198 [] [],.p (.st 3),.p (.st 3)],[],[.p (.st 3),.p (.int .i64)],[],[],Zpt,Zpt,
.j 9101 [0,4,5,6,18] [] [.fn 198 [] [],qe4,ZyX,ZBE,qe5] [ZxZ,ZxZ,qo9,qo2,qo2] ZoR <|
.nil⟩
theorem ZCD:Zeg X0.E 197 D81.sig:=D81.ok G0 Tryz.func197 ⟨Zyq,ZCE,Zys,trivial⟩ rfl rfl (by kernel_rfl)
noncomputable def D82:FD U:=⟨129,Tryz.f129,[D81.sg],[.p (.st 3),.p (.st 3)],[],[.p (.st 3),.p (.int .i64)],[],[],Ztw,Ztw,
.nil⟩
theorem ZCC:Zeg X0.E 129 D82.sig:=D82.ok G0 Tryz.func129 ⟨ZCD,trivial⟩ rfl rfl (by kernel_rfl)
noncomputable def D83:FD U:=⟨85,Tryz.f85,[D82.sg,D76.sg],[.p (.st 3),.p (.st 3)],[],[.p (.st 3)],[],[],Zvy,Zvy,
.nil⟩
theorem ZCB:Zeg X0.E 85 D83.sig:=D83.ok G0 Tryz.func85 ⟨ZCC,Zzq,trivial⟩ rfl rfl (by kernel_rfl)
noncomputable def D84:FD U:=⟨42,Tryz.f42,[D40.sg,D41.sg,D50.sg,D37.sg,D72.sg,D77.sg,D79.sg,D38.sg,D83.sg],[.p (.st 1),.p (.st 1)],[],[.p (.st 3)],[],[],ZpP,ZpP,
.j 91011 [2,3,4,5,6,24] [] [qe4,ZyX,ZBE,.o (.ptr (0,4,1) 0 0),.o (.ptr (0,5,1) 0 0),qe5] [ZBC,ZBC,.box [.o (.v .bool),.o (.full (0,6,1)),.o (.v .bool),.o (.full (0,7,1))],ZxZ,ZxZ,qo2,qo2] ZqE <|
.j 911111 [4,5,6,7] [] [qe4,ZyX,ZBE,.o (.ptr (0,4,1) 0 0)] [.box [.o (.v .bool),.o (.full (0,5,1)),.o (.v .bool),.o (.full (0,6,1))],ZxZ,ZxZ,ZxZ,qo2,qo2] ZrB <|
.nil⟩
theorem ZAf:Zeg X0.E 42 D84.sig:=D84.ok G0 Tryz.func42 ⟨ZC0,ZAq,ZCX,Zyr,ZAh,ZCH,ZCF,Zzs,ZCB,trivial⟩ rfl rfl (by kernel_rfl)
noncomputable def D85:FD U:=⟨201,Tryz.f201,[],[.p (.sl (.int .u32))],[],[.p (.sl (.int .u32))],[],[],ZnS,ZnS,
.lo 9401 [0] [] [qe0] [] 0 [0] [] [qe0] [] Zod Ztk (fun n0=> .j 9105401 [0,14] [] [qe0,qe5] [] (Zrr (Zod n0)) <|
.nil) <|
.nil⟩
theorem Zw5:Zeg X0.E 201 D85.sig:=D85.ok G0 Tryz.func201 trivial rfl rfl (by kernel_rfl)
noncomputable def D86:FD U:=⟨135,Tryz.f135,[D85.sg],[.p .bool,.p (.sl (.int .u32))],[],[.p (.st 2)],[],[],ZnM,ZnM,
.j 9111 [4] [] [qe4] [ZAM] Zqr <|
.nil⟩
theorem ZxQ:Zeg X0.E 135 D86.sig:=D86.ok G0 Tryz.func135 ⟨Zw5,trivial⟩ rfl rfl (by kernel_rfl)
noncomputable def D87:FD U:=⟨140,Tryz.f140,[D86.sg],[.p (.int .i64)],[],[.p (.st 2)],[],[],Zoe,Zoe,
.j 9111 [0,2,3] [] [qe1,qe4,qe7] [qo20,qo2] Zpq <|
.nil⟩
theorem ZAe:Zeg X0.E 140 D87.sig:=D87.ok G0 Tryz.func140 ⟨ZxQ,trivial⟩ rfl rfl (by kernel_rfl)
noncomputable def D88:FD U:=⟨132,Tryz.f132,[],[.p (.st 2)],[],[.p .bool],[],[],Zn8,Zn8,
.j 9111 [2] [] [qe5] [] ZnW <|
.nil⟩
theorem ZAd:Zeg X0.E 132 D88.sig:=D88.ok G0 Tryz.func132 trivial rfl rfl (by kernel_rfl)
noncomputable def D89:FD U:=⟨199,Tryz.f199,[D85.sg],[.p (.sl (.int .u32))],[],[.p (.sl (.int .u32))],[],[],Zoh,Zoh,
.lo 941011 [0,3,9,10] [] [qe0,qe3,qe1,qe1] [qo2] 0 [3] [] [qe3] [qo2] Zo3 Zrs (fun n0=> .j 9111541011 [0,3,9,10] [] [qe0,qe3,qe1,qe1] [qo2] (Zo4 (Zo3 n0)) <|
.nil) <|
.nil⟩
theorem ZCA:Zeg X0.E 199 D89.sig:=D89.ok G0 Tryz.func199 ⟨Zw5,trivial⟩ rfl rfl (by kernel_rfl)
noncomputable def D90:FD U:=⟨133,Tryz.f133,[],[.p (.sl (.int .u32)),.p (.sl (.int .u32))],[],[.p (.int .i64)],[],[],Zn1,Zn1,
.lr 941011 [0,1,5] [] qs0 [] 0 [] [] [] [] Zqq ZrT (fun _=> .nil) <|
.nil⟩
theorem Zyp:Zeg X0.E 133 D90.sig:=D90.ok G0 Tryz.func133 trivial rfl rfl (by kernel_rfl)
noncomputable def D91:FD U:=⟨137,Tryz.f137,[D85.sg],[.p (.sl (.int .u32)),.p (.sl (.int .u32))],[],[.p (.sl (.int .u32))],[],[],Zol,Zol,
.lo 9410111 [0,1,5,6,7] [] [qe0,qe0,qe3,qe1,qe1] [qo2] 0 [5] [] [qe3] [qo2] Zpe ZrK (fun n0=> .j 9114015410111 [0,1,5,6,7] [] [qe0,qe0,qe3,qe1,qe1] [qo2] (Zpf (Zpe n0)) <|
.nil) <|
.nil⟩
theorem Zzp:Zeg X0.E 137 D91.sig:=D91.ok G0 Tryz.func137 ⟨Zw5,trivial⟩ rfl rfl (by kernel_rfl)
noncomputable def D92:FD U:=⟨200,Tryz.f200,[D85.sg],[.p (.sl (.int .u32)),.p (.int .u32)],[],[.p (.sl (.int .u32))],[],[],ZoO,ZoO,
.lo 941011 [0,1,5,6] [] [qe0,qe8,qe3,qe1] [qo2] 0 [1,5] [] [qe8,qe3] [qo2] ZpF Zq2 (fun _=> .nil) <|
.nil⟩
theorem ZAc:Zeg X0.E 200 D92.sig:=D92.ok G0 Tryz.func200 ⟨Zw5,trivial⟩ rfl rfl (by kernel_rfl)
noncomputable def D93:FD U:=⟨134,Tryz.f134,[D89.sg,D90.sg,D91.sg,D92.sg],[.p (.sl (.int .u32)),.p (.sl (.int .u32))],[],[.p (.sl (.int .u32))],[],[],Zo9,Zo9,
.lo 94011 [0,1,5] [] qs0 [] 0 [0,1,5] [] qs0 [] ZoF ZrR (fun n0=> .j 91054011 [0,1,5,17] [] [qe0,qe0,qe1,qe5] [] (Zqp (ZoF n0)) <|
.nil) <|
.lo 940111 [0,1,5] [] qs0 [] 2 [0,5] [] [qe0,qe1] [] ZnN ZrO (fun n0=> .lo 94041540111 [0,1,5] [] qs0 [] 4 [0,1,5] [] qs0 [] Zn4 (ZrQ (ZnN n0)) (fun _=> .nil) <|
.lo 940141540111 [0,1,5] [] qs0 [] 6 [0,1,5] [] qs0 [] Zn3 (ZrP (ZnN n0)) (fun _=> .nil) <|
.j 911141540111 [0,1,5] [] qs0 [] (Zqo (ZnN n0)) <|
.nil) <|
.lo 9401111 [0,5] [] [qe0,qe1] [] 8 [0] [] [qe0] [] ZoE ZrN (fun _=> .nil) <|
.nil⟩
theorem ZAb:Zeg X0.E 134 D93.sig:=D93.ok G0 Tryz.func134 ⟨ZCA,Zyp,Zzp,ZAc,trivial⟩ rfl rfl (by kernel_rfl)
noncomputable def D94:FD U:=⟨315,Tryz.f315,[],[.p (.sl (.int .u32)),.p (.int .i64)],[],[.p (.int .u32)],[],[],Zqa,Zqa,
.nil⟩
theorem ZCz:Zeg X0.E 315 D94.sig:=D94.ok G0 Tryz.func315 trivial rfl rfl (by kernel_rfl)
noncomputable def D95:FD U:=⟨262,Tryz.f262,[D94.sg,D92.sg,D90.sg,D91.sg,D85.sg],[.p (.sl (.int .u32)),.p (.sl (.int .u32))],[],[.p (.sl (.int .u32)),.p (.sl (.int .u32))],[],[],Zpa,Zpa,
.lo 941011 [0,1,4,5,6] [5] [qe0,qe0,qe3,qe0,qe1] [qo2] 0 [4,5] [] [qe3,qe0] [qo2] Zpi ZrS (fun n0=> .j 911541011 [0,1,4,5,6] [] [qe0,qe0,qe3,qe0,qe1] [qo2] (Zpj (Zpi n0)) <|
.nil) <|
.nil⟩
theorem ZCy:Zeg X0.E 262 D95.sig:=D95.ok G0 Tryz.func262 ⟨ZCz,ZAc,Zyp,Zzp,Zw5,trivial⟩ rfl rfl (by kernel_rfl)
noncomputable def D96:FD U:=⟨202,Tryz.f202,[D87.sg,D93.sg,D95.sg,D86.sg],[.p (.st 2),.p (.st 2)],[],[.p (.st 3)],[],[],Zph,Zph,
.nil⟩
theorem ZCx:Zeg X0.E 202 D96.sig:=D96.ok G0 Tryz.func202 ⟨ZAe,ZAb,ZCy,ZxQ,trivial⟩ rfl rfl (by kernel_rfl)
noncomputable def D97:FD U:=⟨139,Tryz.f139,[D88.sg,D96.sg],[.p (.st 2),.p (.st 2)],[],[.p (.st 3),.p (.int .i64)],[],[],ZpN,ZpN,
.j 9101 [2,3,4,13] [] [qe4,ZyX,ZBE,qe5] [ZAM,ZAM,qo9,qo2,qo2] Zp5 <|
.nil⟩
theorem ZCw:Zeg X0.E 139 D97.sig:=D97.ok G0 Tryz.func139 ⟨ZAd,ZCx,trivial⟩ rfl rfl (by kernel_rfl)
noncomputable def D98:FD U:=⟨92,Tryz.f92,[D87.sg,D97.sg],[.p (.int .i64),.p (.int .i64)],[],[.p (.st 3),.p (.int .i64)],[],[],Zqw,Zqw,
.nil⟩
theorem ZCv:Zeg X0.E 92 D98.sig:=D98.ok G0 Tryz.func92 ⟨ZAe,ZCw,trivial⟩ rfl rfl (by kernel_rfl)
noncomputable def D99:FD U:=⟨48,Tryz.f48,[D98.sg],[.p (.int .i64),.p (.int .i64)],[],[.p (.st 3)],[],[],Zsm,ZnV,
.nil⟩
theorem Zzo:Zeg X0.E 48 D99.sig:=D99.ok G0 Tryz.func48 ⟨ZCv,trivial⟩ rfl (by funext x_;funext x_;exact Zts _) (by kernel_rfl)
noncomputable def ZDh:FD U:=⟨47,Tryz.f47,[D99.sg],[.p (.int .i64)],[],[.p (.st 3)],[],[],ZsC,Zoa,
.nil⟩
theorem Zx7:Zeg X0.E 47 ZDh.sig:=ZDh.ok G0 Tryz.func47 ⟨Zzo,trivial⟩ rfl (by funext x_;exact Zts _) (by kernel_rfl)
noncomputable def ZD4:FD U:=⟨66,Tryz.f66,[],[.p (.st 2),.p (.st 2)],[],[.p .bool],[],[],ZoB,ZoB,
.j 9101 [2,3,20] [] [qe4,ZyX,qe5] [ZAM,ZAM] Zpo <|
.lr 941011 [3,22,23,24] [] [qe4,qe0,qe1,qe1] [ZAM] 0 [] [] [] [] Zpn ZqI (fun _=> .nil) <|
.nil⟩
theorem ZBB:Zeg X0.E 66 ZD4.sig:=ZD4.ok G0 Tryz.func66 trivial rfl rfl (by kernel_rfl)
noncomputable def ZDn:FD U:=⟨28,Tryz.f28,[ZD4.sg],[.p (.st 3),.p (.st 3)],[],[.p .bool],[],[],ZnQ,ZnQ,
.j 911 [4] [] [qe5] [] Zp4 <|
.nil⟩
theorem Zzv:Zeg X0.E 28 ZDn.sig:=ZDn.ok G0 Tryz.func28 ⟨ZBB,trivial⟩ rfl rfl (by kernel_rfl)
noncomputable def ZD3:FD U:=⟨31,Tryz.f31,[(34,Zr7.sig),D2.sg,D84.sg,ZDh.sg,ZDn.sg,D72.sg,D99.sg],[],[],[.p .bool],[],[],ZnZ,ZnZ,
.j 9111 [0] [] [qe5] [] ZoV <|
.nil⟩
theorem ZBA:Zeg X0.E 31 ZD3.sig:=ZD3.ok G0 Tryz.func31 ⟨Zss,ZDP,ZAf,Zx7,Zzv,ZAh,Zzo,trivial⟩ rfl rfl (by kernel_rfl)
noncomputable def ZD2:FD U:=⟨13,Tryz.f13,[],[.p (.sl (.int .i64))],[],[.box (.st 5)],[],[],ZrA,ZrA,
.nil⟩
theorem ZBz:Zeg X0.E 13 ZD2.sig:=ZD2.ok G0 Tryz.func13 trivial rfl rfl (by kernel_rfl)
noncomputable def ZD1:FD U:=⟨16,Tryz.f16,[],[.p (.int .i64),.p (.int .i64)],[],[.p (.int .i64)],[],[],ZqN,ZqN,
.nil⟩
theorem ZBy:Zeg X0.E 16 ZD1.sig:=ZD1.ok G0 Tryz.func16 trivial rfl rfl (by kernel_rfl)
noncomputable def ZBx:FD U:=⟨14,Tryz.f14,[ZD1.sg],[.box (.st 5),.p (.int .i64)],[(0,.box (.st 5))],[.p (.int .i64)],[],[],ZnL,ZnL,
.nil⟩
theorem ZwO:Zeg X0.E 14 ZBx.sig:=ZBx.ok G0 Tryz.func14 ⟨ZBy,trivial⟩ rfl rfl (by kernel_rfl)
noncomputable def ZDg:FD U:=⟨32,Tryz.f32,[ZBx.sg],[.box (.st 5),.p (.sl .str)],[(0,.box (.st 5))],[.p .str],[],[],Zn2,Zn2,
.nil⟩
theorem Zx6:Zeg X0.E 32 ZDg.sig:=ZDg.ok G0 Tryz.func32 ⟨ZwO,trivial⟩ rfl rfl (by kernel_rfl)
noncomputable def ZD0:FD U:=⟨54,Tryz.f54,[ZBx.sg,ZDg.sg],[.box (.st 5)],[(0,.box (.st 5))],[.p (.st 0)],[],[],Zqx,Zqx,
.nil⟩
theorem ZBw:Zeg X0.E 54 ZD0.sig:=ZD0.ok G0 Tryz.func54 ⟨ZwO,Zx6,trivial⟩ rfl rfl (by kernel_rfl)
noncomputable def ZDZ:FD U:=⟨55,Tryz.f55,[ZBx.sg,ZDg.sg,(56,Zuk.sig)],[.box (.st 5)],[(0,.box (.st 5))],[.p (.st 0)],[],[],ZpO,ZpO,
.nil⟩
theorem ZBv:Zeg X0.E 55 ZDZ.sig:=ZDZ.ok G0 Tryz.func55 ⟨ZwO,Zx6,ZuQ,trivial⟩ rfl rfl (by kernel_rfl)
noncomputable def ZDY:FD U:=⟨15,Tryz.f15,[ZDg.sg,ZBx.sg,ZD0.sg,ZDZ.sg,(56,Zuk.sig)],[.box (.st 5),.p (.int .i64)],[(0,.box (.st 5))],[.p (.st 1)],[],[],Zo0,Zo0,
.lo 9410111 [0,4,5,6,15,16] [] [.o (.ptr (0,0,0) 0 0),qe4,ZyX,qe1,qe1,qe1] [.boxS (.st 5),qo21,ZDt,ZBD,ZBD] 0 [4,5] [] [qe4,ZyX] [.boxS (.st 5),qo21,ZDt,ZBD,ZBD] Zo5 Zrt (fun n0=> .j 911140115410111 [0,4,5,6,8,15,16] [] [.o (.ptr (0,0,0) 0 0),qe4,ZyX,qe1,ZBE,qe1,qe1] [.boxS (.st 5),ZDt,.box [.o (.v .str),.o (.full (0,5,1))],.boxS (.st 0),ZBD,ZBD] (Zof (Zo5 n0)) <|
.nil) <|
.nil⟩
theorem ZBu:Zeg X0.E 15 ZDY.sig:=ZDY.ok G0 Tryz.func15 ⟨Zx6,ZwO,ZBw,ZBv,ZuQ,trivial⟩ rfl rfl (by kernel_rfl)
noncomputable def ZDX:FD U:=⟨45,Tryz.f45,[ZDh.sg],[],[],[.p (.st 3)],[],[],ZoY,ZoY,
.nil⟩
theorem ZBt:Zeg X0.E 45 ZDX.sig:=ZDX.ok G0 Tryz.func45 ⟨Zx7,trivial⟩ rfl rfl (by kernel_rfl)
noncomputable def ZDW:FD U:=⟨88,Tryz.f88,[D88.sg,D90.sg,D93.sg],[.p (.st 3)],[],[.p .bool],[],[],ZoP,ZoP,
.j 9101 [1,24] [] [qe4,qe5] [ZxZ] Zop <|
.nil⟩
theorem ZBs:Zeg X0.E 88 ZDW.sig:=ZDW.ok G0 Tryz.func88 ⟨ZAd,Zyp,ZAb,trivial⟩ rfl rfl (by kernel_rfl)
noncomputable def ZDV:FD U:=⟨138,Tryz.f138,[D85.sg],[.p (.sl (.int .u32)),.p (.sl (.int .u32))],[],[.p (.sl (.int .u32))],[],[],Zp9,Zp9,
.lo 941011 [0,1,5,6] [] [qe0,qe0,qe3,qe1] [qo2] 0 [5] [] [qe3] [qo2] Zpg ZrL (fun n0=> .lo 94101401541011 [0,1,5,6,7,8] [] [qe0,qe0,qe3,qe1,qe7,qe1] [qo2] 2 [0,1,5,6,7] [] [qe0,qe0,qe3,qe1,qe7] [qo2] Zqn (ZrM (Zpg n0)) (fun _=> .nil) <|
.nil) <|
.nil⟩
theorem ZBr:Zeg X0.E 138 ZDV.sig:=ZDV.ok G0 Tryz.func138 ⟨Zw5,trivial⟩ rfl rfl (by kernel_rfl)
noncomputable def ZDU:FD U:=⟨90,Tryz.f90,[ZDV.sg,D86.sg],[.p (.st 2),.p (.st 2)],[],[.p (.st 2)],[],[],Zob,Zob,
.nil⟩
theorem ZBq:Zeg X0.E 90 ZDU.sig:=ZDU.ok G0 Tryz.func90 ⟨ZBr,ZxQ,trivial⟩ rfl rfl (by kernel_rfl)
noncomputable def ZDT:FD U:=⟨91,Tryz.f91,[D86.sg],[.p (.st 2)],[],[.p (.st 2)],[],[],Zpx,Zpx,
.nil⟩
theorem ZBp:Zeg X0.E 91 ZDT.sig:=ZDT.ok G0 Tryz.func91 ⟨ZxQ,trivial⟩ rfl rfl (by kernel_rfl)
noncomputable def ZDS:FD U:=⟨136,Tryz.f136,[],[.p (.sl (.int .u32)),.p (.sl (.int .u32))],[],[.own (.int .u32)],[],[],Zpb,Zpb,
.lo 9410111 [0,1,5,6,7] [] qs2 [qo2] 0 [5,6] [] [qe3,qe7] [qo2] Zoi ZrU (fun n0=> .j 9105410111 [0,1,5,6,7,17] [] [qe0,qe0,qe3,qe7,qe1,qe5] [qo2] (ZoG (Zoi n0)) <|
.j 914015410111 [0,1,5,6,7] [] qs2 [qo2] (Zpl (Zoi n0)) <|
.j 9114015410111 [0,1,5,6,7] [] qs2 [qo2] (Zpk (Zoi n0)) <|
.nil) <|
.nil⟩
theorem ZBo:Zeg X0.E 136 ZDS.sig:=ZDS.ok G0 Tryz.func136 trivial rfl rfl (by kernel_rfl)
noncomputable def ZDR:FD U:=⟨89,Tryz.f89,[ZDS.sg,D86.sg,D90.sg,D91.sg],[.p (.st 2),.p (.st 2)],[],[.p (.st 2)],[],[],ZpM,ZpM,
.nil⟩
theorem ZBn:Zeg X0.E 89 ZDR.sig:=ZDR.ok G0 Tryz.func89 ⟨ZBo,ZxQ,Zyp,Zzp,trivial⟩ rfl rfl (by kernel_rfl)
noncomputable def ZDm:FD U:=⟨46,Tryz.f46,[ZDW.sg,ZDU.sg,ZDT.sg,ZDR.sg],[.p (.st 3),.p (.st 3)],[],[.p (.int .i64)],[],[],Zpc,Zpc,
.j 9101 [2,3,13] [] [qe4,ZyX,qe5] [ZxZ,ZxZ] Zqs <|
.nil⟩
theorem Zzu:Zeg X0.E 46 ZDm.sig:=ZDm.ok G0 Tryz.func46 ⟨ZBs,ZBq,ZBp,ZBn,trivial⟩ rfl rfl (by kernel_rfl)
noncomputable def ZDQ:FD U:=⟨44,Tryz.f44,[ZDm.sg],[.p (.st 3),.p (.st 3)],[],[.p .bool],[],[],ZpE,ZpE,
.nil⟩
theorem ZBm:Zeg X0.E 44 ZDQ.sig:=ZDQ.ok G0 Tryz.func44 ⟨Zzu,trivial⟩ rfl rfl (by kernel_rfl)
noncomputable def D121:FD U:=⟨7,Tryz.f7,[D0.sg,ZD3.sg,ZD2.sg,ZBx.sg,ZDY.sg,D84.sg,ZDn.sg,ZDX.sg,ZDQ.sg,ZDh.sg,ZDm.sg,D41.sg,(34,Zr7.sig),D99.sg],[.p (.sl (.int .i64))],[],[.p .bool],[],[],ZoK,ZoK,
.j 91011111 [4,61] [] [qe4,qe5] [ZBC] ZnO <|
.lo 94101111111 [4,8,63,64,65] [] [qe4,qe5,ZDk,qe1,qe1] [ZBC] 0 [4,8] [] [qe4,qe5] [ZBC] Zn5 Zos (fun n0=> .j 911154101111111 [4,8,63,64,65] [] [qe4,qe5,ZDk,qe1,qe1] [ZBC] (Zoy (Zn5 n0)) <|
.nil) <|
.j 91410111111111 [8,11,12,84] [] [qe5,qe4,qe5,qe5] [ZxZ] Zox <|
.j 9121410111111111 [2] [] [qe5] [] Zow <|
.j 912131410111111111 [2] [] [qe5] [] Zov <|
.j 91213131410111111111 [2] [] [qe5] [] Zou <|
.j 911111111111 [2] [] [qe5] [] Zot <|
.nil⟩
theorem D121_ok:Zeg X0.E 7 D121.sig:=D121.ok G0 Tryz.func7 ⟨ZD5,ZBA,ZBz,ZwO,ZBu,ZAf,Zzv,ZBt,ZBm,Zx7,Zzu,ZAq,Zss,Zzo,trivial⟩ rfl rfl (by kernel_rfl)
end
end Go.Proofs

/- Printed by wip/tools/tgen.py: walks. -/
import Derived.Test.YthefajbigloihaaGreatDoorShU
import Derived.Test.YthefajbigloihaaGreatDoorShX
set_option linter.unusedVariables false
set_option linter.unusedSimpArgs false
set_option linter.unusedSectionVars false
namespace Go.Proofs
open Go Eng
set_option maxRecDepth 100000
noncomputable section
abbrev qe0:Sh:= .o (.v (.int .i64))
abbrev qe1:Sh:= .o (.v (.sl (.int .u32)))
abbrev qo2:ShO:= .arr (.int .u32) false
abbrev qe3:Sh:= .o (.v .bool)
abbrev qe4:Sh:= .o (.ptr (0,1,1) 0 0)
abbrev qe5:Sh:= .o (.full (0,1,1))
abbrev qe6:Sh:= .o (.v .str)
abbrev qo7:ShO:= .box [.o (.v .bool),.o (.full (0,2,1)),.o (.v .bool),.o (.full (0,3,1))]
abbrev qo8:ShO:= .box [.o (.v .bool),.o (.full (0,4,1)),.o (.v .bool),.o (.full (0,5,1))]
abbrev qe9:Sh:= .o (.ptr (0,2,1) 0 0)
abbrev Zx7:Sh:= .o (.v (.int .u64))
abbrev Zzb:Sh:= .o (.ptr (0,3,1) 0 0)
abbrev Zye:Sh:= .o (.v (.int .u32))
abbrev ZEg:ShO:= .box [.o (.v .bool),.o (.full (0,5,1)),.o (.v .bool),.o (.full (0,6,1))]
abbrev ZyP:ShO:= .boxS (.st 2)
abbrev ZCE:ShO:= .box [.o (.v .str),.o (.full (0,4,1))]
abbrev ZAu:Sh:= .o (.sl (0,0,0))
abbrev ZAF:Sh:= .o (.v (.sl .str))
abbrev ZAE:ShO:= .arr (.st 0) false
abbrev ZzR:ShO:= .boxS (.st 3)
abbrev ZCD:ShO:= .arr (.int .u8) false
abbrev ZA0:ShO:= .boxS (.st 1)
abbrev ZEu:Sh:= .o (.v (.sl (.st 0)))
abbrev qo23:ShO:= .box [.o (.v .bool),.o (.full (0,2,1))]
abbrev qo24:ShO:= .box [.o (.v .str),.o (.full (0,3,1))]
abbrev ZEh:Sh:= .o (.full (0,2,1))
abbrev qs0:List Sh:=[qe1,qe1,qe0]
abbrev qp1:List ShO:=[qo7,qo2,qo2]
abbrev qs2:List Sh:=[qe4,qe9,qe0,Zzb,qe0,qe0,ZEu,qe0,qe0]
abbrev qs3:List Sh:=[qe6,qe3]
abbrev qp4:List ShO:=[qo8,ZyP,ZyP,qo2,qo2]
abbrev qs5:List Sh:=[qe3,qe6,qe6,qe3]
abbrev qs6:List Sh:=[qe1,qe1,qe5,Zx7,qe0]
abbrev qs7:List Sh:=[qe0,qe0,qe0,qe0,qe0]
abbrev qs8:List Sh:=[qe3,qe6,qe6]
noncomputable def D0:FD U:=⟨11,Tryz.f11,[],[.p (.sl (.int .i64))],[],[.p .bool],[],[],ZrA,ZrA,
.nil⟩
theorem ZFd:Zeg X0.E 11 D0.sig:=D0.ok G0 Tryz.func11 trivial rfl rfl (by kernel_rfl)
noncomputable def D2:FD U:=⟨33,Tryz.f33,[],[.p (.sl .str),.p (.sl .str)],[],[.p .bool],[],[],ZoD,ZoD,
.lr 941011 [1,12,13,14] [] [ZAF,ZAF,qe0,qe0] [] 0 [] [] [] [] Zon ZsE (fun _=> .nil) <|
.nil⟩
theorem ZEQ:Zeg X0.E 33 D2.sig:=D2.ok G0 Tryz.func33 trivial rfl rfl (by kernel_rfl)
noncomputable def D4:FD U:=⟨259,Tryz.f259,[],[.p .str],[],[.p .bool],[],[],Zr6,Zr6,
.nil⟩
theorem ZEP:Zeg X0.E 259 D4.sig:=D4.ok G0 Tryz.func259 trivial rfl rfl (by kernel_rfl)
noncomputable def D5:FD U:=⟨189,Tryz.f189,[D4.sg],[.p .str,.p .str],[],[.p .bool],[],[],ZsP,ZsP,
.j 911 [4] [] [qe3] [] ZqW <|
.nil⟩
theorem ZEO:Zeg X0.E 189 D5.sig:=D5.ok G0 Tryz.func189 ⟨ZEP,trivial⟩ rfl rfl (by kernel_rfl)
noncomputable def D6:FD U:=⟨260,Tryz.f260,[],[.p .str],[],[.p .bool],[],[],ZqB,ZqB,
.nil⟩
theorem ZEN:Zeg X0.E 260 D6.sig:=D6.ok G0 Tryz.func260 trivial rfl rfl (by kernel_rfl)
noncomputable def D7:FD U:=⟨192,Tryz.f192,[D5.sg,D6.sg],[.p (.sl .str),.p .str],[],[.p (.int .i64),.p .bool],[],[],Zn4,Zn4,
.lo 940111 [0,1,6,7,8] [] [ZAF,qe6,qe0,qe0,qe0] [] 0 [0,1,6,7] [] [ZAF,qe6,qe0,qe0] [] Zoi ZoX (fun _=> .nil) <|
.j 911111 [4,5] [] [qe0,qe3] [] ZnQ <|
.nil⟩
theorem ZEM:Zeg X0.E 192 D7.sig:=D7.ok G0 Tryz.func192 ⟨ZEO,ZEN,trivial⟩ rfl rfl (by kernel_rfl)
noncomputable def D8:FD U:=⟨120,Tryz.f120,[D7.sg],[.p (.sl .str),.p (.sl .str)],[],[.p (.int .i64)],[],[],Zrq,Zrq,
.lo 941011 [1,5,10,11,12] [] [ZAF,qe0,ZAF,qe0,qe0] [] 0 [5] [] [qe0] [] Zqb Zti (fun n0=> .j 9111541011 [1,5,10,11,12] [] [ZAF,qe0,ZAF,qe0,qe0] [] (ZrB (Zqb n0)) <|
.nil) <|
.nil⟩
theorem ZEL:Zeg X0.E 120 D8.sig:=D8.ok G0 Tryz.func120 ⟨ZEM,trivial⟩ rfl rfl (by kernel_rfl)
noncomputable def D9:FD U:=⟨252,Tryz.f252,[],[.p (.sl (.int .u32))],[],[.p (.sl (.int .u32))],[],[],ZnS,ZnS,
.lo 9401 [0] [] [qe1] [] 0 [0] [] [qe1] [] Zor ZtG (fun n0=> .j 9105401 [0,14] [] [qe1,qe3] [] (Zr1 (Zor n0)) <|
.nil) <|
.nil⟩
theorem Zzz:Zeg X0.E 252 D9.sig:=D9.ok G0 Tryz.func252 trivial rfl rfl (by kernel_rfl)
noncomputable def D10:FD U:=⟨255,Tryz.f255,[D9.sg],[.p (.int .u64)],[],[.p (.sl (.int .u32))],[],[],ZpU,ZpU,
.nil⟩
theorem ZBv:Zeg X0.E 255 D10.sig:=D10.ok G0 Tryz.func255 ⟨Zzz,trivial⟩ rfl rfl (by kernel_rfl)
noncomputable def D11:FD U:=⟨175,Tryz.f175,[],[.p .bool,.p (.sl (.int .u32))],[],[.p (.st 2)],[],[],ZnX,ZnX,
.j 911 [4] [] [qe4] [qo23,qo2] Zsy <|
.nil⟩
theorem ZyE:Zeg X0.E 175 D11.sig:=D11.ok G0 Tryz.func175 trivial rfl rfl (by kernel_rfl)
noncomputable def D12:FD U:=⟨180,Tryz.f180,[D10.sg,D11.sg],[.p (.int .i64)],[],[.p (.st 2)],[],[],ZqL,ZqL,
.nil⟩
theorem ZEd:Zeg X0.E 180 D12.sig:=D12.ok G0 Tryz.func180 ⟨ZBv,ZyE,trivial⟩ rfl rfl (by kernel_rfl)
noncomputable def D13:FD U:=⟨218,Tryz.f218,[],[.p (.st 2)],[],[.p .bool],[],[],Zql,Zql,
.j 9111 [2] [] [qe3] [] Zol <|
.nil⟩
theorem ZEc:Zeg X0.E 218 D13.sig:=D13.ok G0 Tryz.func218 trivial rfl rfl (by kernel_rfl)
noncomputable def D14:FD U:=⟨154,Tryz.f154,[D13.sg],[.p (.sl (.st 2))],[],[.p .bool],[],[],ZsO,ZsO,
.lr 94101 [5,6,7] [] [.o (.v (.sl (.st 2))),qe0,qe0] [] 0 [] [] [] [] Ztq ZvU (fun _=> .nil) <|
.nil⟩
theorem ZBu:Zeg X0.E 154 D14.sig:=D14.ok G0 Tryz.func154 ⟨ZEc,trivial⟩ rfl rfl (by kernel_rfl)
noncomputable def D15:FD U:=⟨287,Tryz.f287,[],[.p (.int .i64)],[],[.p .bool],[],[],ZtO,ZtO,
.nil⟩
theorem ZEb:Zeg X0.E 287 D15.sig:=D15.ok G0 Tryz.func287 trivial rfl rfl (by kernel_rfl)
noncomputable def D16:FD U:=⟨220,Tryz.f220,[D15.sg],[.p (.int .i64),.p (.int .i64)],[],[.p (.int .i64)],[],[],ZsQ,ZsQ,
.nil⟩
theorem ZEa:Zeg X0.E 220 D16.sig:=D16.ok G0 Tryz.func220 ⟨ZEb,trivial⟩ rfl rfl (by kernel_rfl)
noncomputable def D17:FD U:=⟨288,Tryz.f288,[],[.p (.int .u32)],[],[.p .bool],[],[],Ztr,Ztr,
.nil⟩
theorem ZD9:Zeg X0.E 288 D17.sig:=D17.ok G0 Tryz.func288 trivial rfl rfl (by kernel_rfl)
noncomputable def D18:FD U:=⟨221,Tryz.f221,[D17.sg],[.p (.int .u32),.p (.int .u32)],[],[.p (.int .i64)],[],[],ZsB,ZsB,
.nil⟩
theorem ZD8:Zeg X0.E 221 D18.sig:=D18.ok G0 Tryz.func221 ⟨ZD9,trivial⟩ rfl rfl (by kernel_rfl)
noncomputable def D19:FD U:=⟨156,Tryz.f156,[D16.sg,D18.sg],[.p (.sl (.int .u32)),.p (.sl (.int .u32))],[],[.p (.int .i64)],[],[],Zn6,Zn6,
.lr 941011 [0,1,6] [] qs0 [] 0 [] [] [] [] ZpS Zrw (fun _=> .nil) <|
.nil⟩
theorem ZAn:Zeg X0.E 156 D19.sig:=D19.ok G0 Tryz.func156 ⟨ZEa,ZD8,trivial⟩ rfl rfl (by kernel_rfl)
noncomputable def D20:FD U:=⟨282,Tryz.f282,[],[.p (.sl (.int .u32))],[],[.own (.int .u32)],[],[],Zn3,Zn3,
.j 9101 [0,4] [] [qe1,qe3] [] ZnI <|
.nil⟩
theorem ZBt:Zeg X0.E 282 D20.sig:=D20.ok G0 Tryz.func282 trivial rfl rfl (by kernel_rfl)
noncomputable def D21:FD U:=⟨325,Tryz.f325,[],[.p (.int .u32),.p (.int .u32),.p (.int .u32)],[],[.p (.int .u32),.p (.int .u32)],[],[],ZsK,ZsK,
.j 9101 [0,1,2,15] [] [Zye,Zye,Zye,qe3] [] ZqV <|
.nil⟩
theorem ZD7:Zeg X0.E 325 D21.sig:=D21.ok G0 Tryz.func325 trivial rfl rfl (by kernel_rfl)
noncomputable def D22:FD U:=⟨283,Tryz.f283,[D21.sg,D9.sg],[.p (.sl (.int .u32)),.p (.int .u32)],[],[.p (.sl (.int .u32)),.p (.int .u32)],[],[],Zqc,Zqc,
.lo 9410111 [0,1,6,7,8] [] [qe1,Zye,qe5,Zye,qe0] [qo2] 0 [6,7] [] [qe5,Zye] [qo2] Zqy Zsr (fun _=> .nil) <|
.nil⟩
theorem ZD6:Zeg X0.E 283 D22.sig:=D22.ok G0 Tryz.func283 ⟨ZD7,Zzz,trivial⟩ rfl rfl (by kernel_rfl)
noncomputable def D23:FD U:=⟨173,Tryz.f173,[],[.p (.int .u32)],[],[.p (.int .i64)],[],[],ZsJ,ZsJ,
.j 911 [0,2] [] [Zye,qe0] [] Zsw <|
.j 9111 [0,2] [] [Zye,qe0] [] ZpW <|
.nil⟩
theorem ZD5:Zeg X0.E 173 D23.sig:=D23.ok G0 Tryz.func173 trivial rfl rfl (by kernel_rfl)
noncomputable def D24:FD U:=⟨284,Tryz.f284,[D23.sg],[.p (.int .u32)],[],[.p (.int .i64)],[],[],Zo3,Zo3,
.nil⟩
theorem ZD4:Zeg X0.E 284 D24.sig:=D24.ok G0 Tryz.func284 ⟨ZD5,trivial⟩ rfl rfl (by kernel_rfl)
noncomputable def D25:FD U:=⟨285,Tryz.f285,[],[.p (.sl (.int .u32)),.p (.int .i64)],[],[.own (.int .u32)],[],[],Zop,Zop,
.lo 941011 [1,5,13,14,15] [] [qe0,qe5,qe1,qe0,qe0] [qo2] 0 [5] [] [qe5] [qo2] ZpQ Zru (fun _=> .nil) <|
.nil⟩
theorem ZD3:Zeg X0.E 285 D25.sig:=D25.ok G0 Tryz.func285 trivial rfl rfl (by kernel_rfl)
noncomputable def D26:FD U:=⟨253,Tryz.f253,[],[.p (.int .u32),.p (.int .u32),.p (.int .u32)],[],[.p (.int .u32),.p (.int .u32)],[],[],Zqh,Zqh,
.nil⟩
theorem ZBs:Zeg X0.E 253 D26.sig:=D26.ok G0 Tryz.func253 trivial rfl rfl (by kernel_rfl)
noncomputable def D27:FD U:=⟨250,Tryz.f250,[],[.p (.int .u32),.p (.int .u32),.p (.int .u32)],[],[.p (.int .u32),.p (.int .u32)],[],[],Zrf,Zrf,
.nil⟩
theorem ZBr:Zeg X0.E 250 D27.sig:=D27.ok G0 Tryz.func250 trivial rfl rfl (by kernel_rfl)
noncomputable def D28:FD U:=⟨286,Tryz.f286,[D26.sg,D27.sg],[.part (.int .u32),.p (.sl (.int .u32))],[(0,.arr (.int .u32))],[.p (.int .u32)],[],[],Zul,Ztp,
.lo 94011111 [0,1,5,7,8] [] [ZAu,qe1,qe0,Zx7,Zx7] [qo2] 0 [0,1,5,7] [] [ZAu,qe1,qe0,Zx7] [qo2] Zqj Zs2 (fun n0=> .j 91054011111 [0,1,5,7,8,71] [] [ZAu,qe1,qe0,Zx7,Zx7,qe3] [qo2] (Zry (Zqj n0)) <|
.nil) <|
.lo 941011111111 [0,1,5,7,9,10,82,83,84] [] [ZAu,qe1,qe0,Zx7,Zye,Zx7,qe1,qe0,qe0] [qo2] 2 [0,1,5,7,9,10] [] [ZAu,qe1,qe0,Zx7,Zye,Zx7] [qo2] Zs0 Zun (fun _=> .nil) <|
.lo 941011111111111 [0,5,7,13,130,131,132] [] [ZAu,qe0,Zx7,Zye,qe1,qe0,qe0] [qo2] 4 [0,5,7,13] [] [ZAu,qe0,Zx7,Zye] [qo2] Zrx Zs1 (fun _=> .nil) <|
.nil⟩
theorem ZD2:Zeg X0.E 286 D28.sig:=D28.okA G0 Tryz.func286 ⟨ZBs,ZBr,trivial⟩ (by kernel_rfl) (by kernel_rfl)
noncomputable def D29:FD U:=⟨252,Tryz.f252,[],[.part (.int .u32)],[(0,.arr (.int .u32))],[.view 0],[],[],Zsx,ZrC,
.lo 9401 [0] [] [ZAu] [qo2] 0 [0] [] [ZAu] [qo2] ZpT ZsZ (fun n0=> .j 9105401 [0,14] [] [ZAu,qe3] [qo2] (Zre (ZpT n0)) <|
.nil) <|
.nil⟩
theorem ZD1:Zeg X0.E 252 D29.sig:=D29.okA G0 Tryz.func252 trivial (by kernel_rfl) (by kernel_rfl)
noncomputable def D30:FD U:=⟨251,Tryz.f251,[],[.p (.sl (.int .u32)),.p (.int .i64)],[],[.p (.int .u32)],[],[],Zpn,Zpn,
.nil⟩
theorem ZBq:Zeg X0.E 251 D30.sig:=D30.ok G0 Tryz.func251 trivial rfl rfl (by kernel_rfl)
noncomputable def D31:FD U:=⟨251,Tryz.f251,[],[.part (.int .u32),.p (.int .i64)],[(0,.arr (.int .u32))],[.p (.int .u32)],[],[],ZtF,Zrc,
.nil⟩
theorem ZD0:Zeg X0.E 251 D31.sig:=D31.okA G0 Tryz.func251 trivial (by kernel_rfl) (by kernel_rfl)
noncomputable def D32:FD U:=⟨219,Tryz.f219,[D19.sg,D20.sg,D22.sg,D9.sg,D24.sg,D25.sg,D28.sg,D29.sg,D31.sg],[.p (.sl (.int .u32)),.p (.sl (.int .u32))],[],[.p (.sl (.int .u32)),.p (.sl (.int .u32))],[],[(84,7)],ZoT,ZoT,
.lo 9410111111 [8,9,10,11,12,13] [11] [qe0,qe0,qe5,qe1,ZEh,qe0] [qo2,qo2] 1 [8,9,10,12] [] [qe0,qe0,qe5,ZEh] [qo2,qo2] Zpt ZsN (fun _=> .nil) <|
.lo 941011111111 [9,12,14,86,87] [] [qe0,qe5,.o (.sl (0,2,1)),qe0,qe0] [qo2,qo2] 3 [12,14] [] [qe5,.o (.sl (0,2,1))] [qo2,qo2] Zps ZsM (fun _=> .nil) <|
.nil⟩
theorem ZBp:Zeg X0.E 219 D32.sig:=D32.ok G0 Tryz.func219 ⟨ZAn,ZBt,ZD6,Zzz,ZD4,ZD3,ZD2,ZD1,ZD0,trivial⟩ rfl rfl (by kernel_rfl)
noncomputable def D33:FD U:=⟨155,Tryz.f155,[D32.sg],[.p (.sl (.int .u32)),.p (.sl (.int .u32))],[],[.p (.sl (.int .u32))],[],[],ZoY,ZoY,
.lo 9401 [0,1] [] [qe1,qe1] [] 0 [0] [] [qe1] [] Zod ZrV (fun _=> .nil) <|
.nil⟩
theorem ZBo:Zeg X0.E 155 D33.sig:=D33.ok G0 Tryz.func155 ⟨ZBp,trivial⟩ rfl rfl (by kernel_rfl)
noncomputable def D34:FD U:=⟨254,Tryz.f254,[D33.sg,D32.sg,D11.sg],[.p (.st 2),.p (.st 2)],[],[.p (.st 3)],[],[],ZoH,ZoH,
.nil⟩
theorem Zzl:Zeg X0.E 254 D34.sig:=D34.ok G0 Tryz.func254 ⟨ZBo,ZBp,ZyE,trivial⟩ rfl rfl (by kernel_rfl)
noncomputable def D35:FD U:=⟨179,Tryz.f179,[D14.sg,D34.sg],[.p (.st 2),.p (.st 2)],[],[.p (.st 3),.p (.int .i64)],[],[],ZtK,ZtK,
.nil⟩
theorem ZDZ:Zeg X0.E 179 D35.sig:=D35.ok G0 Tryz.func179 ⟨ZBu,Zzl,trivial⟩ rfl rfl (by kernel_rfl)
noncomputable def D36:FD U:=⟨116,Tryz.f116,[D12.sg,D35.sg],[.p (.int .i64),.p (.int .i64)],[],[.p (.st 3),.p (.int .i64)],[],[],ZtT,ZtT,
.nil⟩
theorem ZBn:Zeg X0.E 116 D36.sig:=D36.ok G0 Tryz.func116 ⟨ZEd,ZDZ,trivial⟩ rfl rfl (by kernel_rfl)
noncomputable def D37:FD U:=⟨67,Tryz.f67,[D36.sg],[],[],[.p (.st 3)],[],[],ZtR,ZtR,
.nil⟩
theorem Zzk:Zeg X0.E 67 D37.sig:=D37.ok G0 Tryz.func67 ⟨ZBn,trivial⟩ rfl rfl (by kernel_rfl)
noncomputable def D38:FD U:=⟨64,Tryz.f64,[D36.sg,D37.sg],[.p (.int .i64),.p (.int .i64)],[],[.p (.st 3)],[],[],ZuP,ZuP,
.nil⟩
theorem ZAm:Zeg X0.E 64 D38.sig:=D38.ok G0 Tryz.func64 ⟨ZBn,Zzk,trivial⟩ rfl rfl (by kernel_rfl)
noncomputable def D39:FD U:=⟨78,Tryz.f78,[D8.sg,D38.sg],[.p (.sl .str),.p (.sl .str)],[],[.p (.st 3)],[],[],ZqI,ZqI,
.nil⟩
theorem ZBm:Zeg X0.E 78 D39.sig:=D39.ok G0 Tryz.func78 ⟨ZEL,ZAm,trivial⟩ rfl rfl (by kernel_rfl)
noncomputable def D40:FD U:=⟨38,Tryz.f38,[(80,ZvZ.sig),D39.sg],[.p (.st 1),.p (.st 1)],[],[.p (.st 3)],[],[],Zpl,Zpl,
.nil⟩
theorem ZBl:Zeg X0.E 38 D40.sig:=D40.ok G0 Tryz.func38 ⟨ZwI,ZBm,trivial⟩ rfl rfl (by kernel_rfl)
noncomputable def D41:FD U:=⟨36,Tryz.f36,[(34,Zt5.sig),D39.sg],[.p .str,.p .str],[],[.p (.st 3)],[],[],Zr0,Zr0,
.nil⟩
theorem ZDY:Zeg X0.E 36 D41.sig:=D41.ok G0 Tryz.func36 ⟨ZuC,ZBm,trivial⟩ rfl rfl (by kernel_rfl)
noncomputable def D42:FD U:=⟨101,Tryz.f101,[D14.sg,D33.sg,D19.sg],[.p (.st 3)],[],[.p .bool],[],[],Zou,Zou,
.j 911 [2] [] [qe3] [] Zqk <|
.nil⟩
theorem Zzj:Zeg X0.E 101 D42.sig:=D42.ok G0 Tryz.func101 ⟨ZBu,ZBo,ZAn,trivial⟩ rfl rfl (by kernel_rfl)
noncomputable def D43:FD U:=⟨178,Tryz.f178,[D9.sg],[.p (.sl (.int .u32)),.p (.sl (.int .u32))],[],[.p (.sl (.int .u32))],[],[],ZoB,ZoB,
.lo 941011 [1,5,17,18,19] [] [qe1,qe5,qe1,qe0,qe0] [qo2] 0 [5] [] [qe5] [qo2] Zpc Zsp (fun n0=> .lo 9410114011541011 [1,5,6,7,8,17,18,19,24,25,26] [] [qe1,qe5,qe0,Zye,Zx7,qe1,qe0,qe0,qe1,qe0,qe0] [qo2] 2 [1,5,6,8,17,18,19] [] [qe1,qe5,qe0,Zx7,qe1,qe0,qe0] [qo2] Zqx (Zsq (Zpc n0)) (fun _=> .nil) <|
.nil) <|
.nil⟩
theorem ZBk:Zeg X0.E 178 D43.sig:=D43.ok G0 Tryz.func178 ⟨Zzz,trivial⟩ rfl rfl (by kernel_rfl)
noncomputable def D44:FD U:=⟨114,Tryz.f114,[D43.sg,D11.sg],[.p (.st 2),.p (.st 2)],[],[.p (.st 2)],[],[],ZnK,ZnK,
.nil⟩
theorem ZAl:Zeg X0.E 114 D44.sig:=D44.ok G0 Tryz.func114 ⟨ZBk,ZyE,trivial⟩ rfl rfl (by kernel_rfl)
noncomputable def D45:FD U:=⟨115,Tryz.f115,[],[.p (.st 2)],[],[.p (.st 2)],[],[],Zpo,Zpo,
.j 911 [2] [] [qe4] [ZyP] ZrD <|
.nil⟩
theorem ZBj:Zeg X0.E 115 D45.sig:=D45.ok G0 Tryz.func115 trivial rfl rfl (by kernel_rfl)
noncomputable def D46:FD U:=⟨176,Tryz.f176,[D30.sg,D27.sg,D9.sg],[.p (.sl (.int .u32)),.p (.sl (.int .u32))],[],[.p (.sl (.int .u32))],[],[],Zpr,Zpr,
.lo 9410111 [0,1,5,6,20,21] [] [qe1,qe1,qe5,Zye,qe0,qe0] [qo2] 0 [5,6] [] [qe5,Zye] [qo2] ZqK ZsL (fun _=> .nil) <|
.nil⟩
theorem ZBi:Zeg X0.E 176 D46.sig:=D46.ok G0 Tryz.func176 ⟨ZBq,ZBr,Zzz,trivial⟩ rfl rfl (by kernel_rfl)
noncomputable def D47:FD U:=⟨177,Tryz.f177,[D30.sg,D26.sg,D9.sg],[.p (.sl (.int .u32)),.p (.sl (.int .u32))],[],[.p (.sl (.int .u32))],[],[],Zo6,Zo6,
.lo 9410111 [0,1,5,6,12,13] [] [qe1,qe1,qe5,Zye,qe0,qe0] [qo2] 0 [5] [] [qe5] [qo2] Zqz Zss (fun _=> .nil) <|
.nil⟩
theorem ZDX:Zeg X0.E 177 D47.sig:=D47.ok G0 Tryz.func177 ⟨ZBq,ZBs,Zzz,trivial⟩ rfl rfl (by kernel_rfl)
noncomputable def D48:FD U:=⟨113,Tryz.f113,[D46.sg,D11.sg,D19.sg,D47.sg],[.p (.st 2),.p (.st 2)],[],[.p (.st 2)],[],[],Zsu,Zsu,
.nil⟩
theorem ZBh:Zeg X0.E 113 D48.sig:=D48.ok G0 Tryz.func113 ⟨ZBi,ZyE,ZAn,ZDX,trivial⟩ rfl rfl (by kernel_rfl)
noncomputable def D49:FD U:=⟨62,Tryz.f62,[D42.sg,D44.sg,D45.sg,D48.sg],[.p (.st 3),.p (.st 3)],[],[.p (.int .i64)],[],[],Zuj,Zuj,
.j 9101 [2,3,13] [] [qe4,qe9,qe3] [ZzR,ZzR] ZtU <|
.nil⟩
theorem ZDW:Zeg X0.E 62 D49.sig:=D49.ok G0 Tryz.func62 ⟨Zzj,ZAl,ZBj,ZBh,trivial⟩ rfl rfl (by kernel_rfl)
noncomputable def D50:FD U:=⟨82,Tryz.f82,[D37.sg,D49.sg],[.p (.st 3)],[],[.p (.int .i64)],[],[],ZuK,ZuK,
.nil⟩
theorem ZDV:Zeg X0.E 82 D50.sig:=D50.ok G0 Tryz.func82 ⟨Zzk,ZDW,trivial⟩ rfl rfl (by kernel_rfl)
noncomputable def D51:FD U:=⟨164,Tryz.f164,[],[],[],[.map (.int .i64) (.st 4)],[],[],Zvj,Zvj,
.nil⟩
theorem ZBg:Zeg X0.E 164 D51.sig:=D51.ok G0 Tryz.func164 trivial rfl rfl (by kernel_rfl)
noncomputable def D53:FD U:=⟨236,Tryz.f236,[(297,Zvd.sig)],[.p .str],[],[.p .str],[],[],ZwV,ZwV,
.nil⟩
theorem ZDU:Zeg X0.E 236 D53.sig:=D53.ok G0 Tryz.func236 ⟨ZvQ,trivial⟩ rfl rfl (by kernel_rfl)
noncomputable def D54:FD U:=⟨353,Tryz.f353,[],[.p .str,.p .str],[],[.p .bool],[],[],ZoM,ZoM,
.j 911 [4] [] [qe3] [] Zpm <|
.nil⟩
theorem ZBf:Zeg X0.E 353 D54.sig:=D54.ok G0 Tryz.func353 trivial rfl rfl (by kernel_rfl)
noncomputable def D55:FD U:=⟨337,Tryz.f337,[D54.sg],[.p .str,.p .str],[],[.p .str,.p .bool],[],[],ZpY,ZpY,
.nil⟩
theorem ZDT:Zeg X0.E 337 D55.sig:=D55.ok G0 Tryz.func337 ⟨ZBf,trivial⟩ rfl rfl (by kernel_rfl)
noncomputable def D56:FD U:=⟨301,Tryz.f301,[D55.sg],[.p .str,.p .str],[],[.p .str,.p .bool],[],[],Zum,Zum,
.nil⟩
theorem ZDS:Zeg X0.E 301 D56.sig:=D56.ok G0 Tryz.func301 ⟨ZDT,trivial⟩ rfl rfl (by kernel_rfl)
noncomputable def D57:FD U:=⟨338,Tryz.f338,[D54.sg],[.p .str,.p .str],[],[.p .str],[],[],ZpM,ZpM,
.nil⟩
theorem ZDR:Zeg X0.E 338 D57.sig:=D57.ok G0 Tryz.func338 ⟨ZBf,trivial⟩ rfl rfl (by kernel_rfl)
noncomputable def D58:FD U:=⟨302,Tryz.f302,[D57.sg],[.p .str,.p .str],[],[.p .str],[],[],Zt3,Zt3,
.nil⟩
theorem ZDQ:Zeg X0.E 302 D58.sig:=D58.ok G0 Tryz.func302 ⟨ZDR,trivial⟩ rfl rfl (by kernel_rfl)
noncomputable def D60:FD U:=⟨352,Tryz.f352,[(370,ZrF.sig)],[.p .str,.p .str],[],[.p (.int .i64)],[],[],Zrb,Zrb,
.j 914011 [0,1,5,16] [] [qe6,qe6,qe0,qe3] [] Zqi <|
.nil⟩
theorem ZDP:Zeg X0.E 352 D60.sig:=D60.ok G0 Tryz.func352 ⟨Zt6,trivial⟩ rfl rfl (by kernel_rfl)
noncomputable def D61:FD U:=⟨339,Tryz.f339,[D60.sg],[.p .str,.p .str],[],[.p .str,.p .str,.p .bool],[],[],ZrR,ZrR,
.nil⟩
theorem ZDO:Zeg X0.E 339 D61.sig:=D61.ok G0 Tryz.func339 ⟨ZDP,trivial⟩ rfl rfl (by kernel_rfl)
noncomputable def D62:FD U:=⟨303,Tryz.f303,[D61.sg],[.p .str,.p .str],[],[.p .str,.p .str,.p .bool],[],[],Zvr,Zvr,
.nil⟩
theorem ZBe:Zeg X0.E 303 D62.sig:=D62.ok G0 Tryz.func303 ⟨ZDO,trivial⟩ rfl rfl (by kernel_rfl)
noncomputable def D63:FD U:=⟨304,Tryz.f304,[(297,Zvd.sig)],[.p .str,.p (.int .i64)],[],[.p .bool],[],[],ZtS,ZtS,
.j 911 [4] [] [qe3] [] Zsz <|
.nil⟩
theorem ZDN:Zeg X0.E 304 D63.sig:=D63.ok G0 Tryz.func304 ⟨ZvQ,trivial⟩ rfl rfl (by kernel_rfl)
noncomputable def D64:FD U:=⟨241,Tryz.f241,[D56.sg,D58.sg,D62.sg,D63.sg,D20.sg,D43.sg,D10.sg,D46.sg,D11.sg,D34.sg],[.p .str],[],[.p (.st 3),.p .bool],[],[],ZqM,ZqM,
.j 9111 [2,4,5] [] [qe4,qe6,qe3] qp1 ZtN <|
.j 9101111 [2,5,6,7,39] [] [qe4,qe3,qe6,qe6,qe3] qp1 Zr5 <|
.lo 941011111111 [2,5,7,9,10,11,47,48,49] [9,10] [qe4,qe3,qe6,qe1,qe1,ZEh,.o (.full (0,3,1)),qe0,qe0] [qo8,qo2,ZCD,qo2,qo2] 0 [2,5,7,9,10,11] [] [qe4,qe3,qe6,qe1,qe1,ZEh] [.box [.o (.v .bool),.o (.full (0,3,1)),.o (.v .bool),.o (.full (0,4,1))],qo2,qo2,qo2] ZtM Zu1 (fun _=> .nil) <|
.lo 9410111111111 [2,5,9,10,11,63,64] [11] [qe4,qe3,qe1,qe1,qe1,qe0,qe0] qp1 2 [2,5,9,11] [] [qe4,qe3,qe1,qe1] qp1 ZtL Zr4 (fun _=> .nil) <|
.nil⟩
theorem ZBd:Zeg X0.E 241 D64.sig:=D64.ok G0 Tryz.func241 ⟨ZDS,ZDQ,ZBe,ZDN,ZBt,ZBk,ZBv,ZBi,ZyE,Zzl,trivial⟩ rfl rfl (by kernel_rfl)
noncomputable def D67:FD U:=⟨307,Tryz.f307,[],[.p (.sl .str)],[],[.p .str],[],[],ZvM,ZvM,
.lr 941011 [3,6,7,8] [] [qe6,ZAF,qe0,qe0] [] 0 [3] [] [qe6] [] ZuB ZvV (fun _=> .nil) <|
.nil⟩
theorem ZDM:Zeg X0.E 307 D67.sig:=D67.ok G0 Tryz.func307 trivial rfl rfl (by kernel_rfl)
noncomputable def D68:FD U:=⟨242,Tryz.f242,[D64.sg,(305,Zvh.sig),D62.sg,(306,Zu5.sig),D67.sg],[.p .str],[],[.p .str,.p .bool],[],[],Ztt,Ztt,
.j 9111111 [0,9] [] [qe6,qe6] [] Zut <|
.j 910111111 [9,43] [] qs3 [] Zus <|
.j 91111111 [9] [] [qe6] [] Zur <|
.nil⟩
theorem ZDL:Zeg X0.E 242 D68.sig:=D68.ok G0 Tryz.func242 ⟨ZBd,Zwk,ZBe,Zwa,ZDM,trivial⟩ rfl rfl (by kernel_rfl)
noncomputable def D69:FD U:=⟨163,Tryz.f163,[D51.sg,D53.sg,D68.sg],[.p (.int .i64),.p .str],[],[.p .str,.p .bool],[],[(26,2)],ZsD,ZsD,
.nil⟩
theorem ZDK:Zeg X0.E 163 D69.sig:=D69.ok G0 Tryz.func163 ⟨ZBg,ZDU,ZDL,trivial⟩ rfl rfl (by kernel_rfl)
noncomputable def D70:FD U:=⟨110,Tryz.f110,[D69.sg,D51.sg,D64.sg],[.p (.int .i64),.p .str],[],[.p (.st 3),.p .bool],[],[(22,2)],Zvk,Zvk,
.nil⟩
theorem ZDJ:Zeg X0.E 110 D70.sig:=D70.ok G0 Tryz.func110 ⟨ZDK,ZBg,ZBd,trivial⟩ rfl rfl (by kernel_rfl)
noncomputable def D71:FD U:=⟨60,Tryz.f60,[D37.sg,D70.sg],[.p (.st 0)],[],[.p (.st 3),.p .bool],[],[],ZpL,ZpL,
.nil⟩
theorem ZDI:Zeg X0.E 60 D71.sig:=D71.ok G0 Tryz.func60 ⟨Zzk,ZDJ,trivial⟩ rfl rfl (by kernel_rfl)
noncomputable def D72:FD U:=⟨40,Tryz.f40,[D71.sg,D38.sg],[.p (.st 1)],[],[.p (.st 3)],[],[],Zuw,Zn8,
.lo 941011 [2,3,4,10,11,12] [] [qe4,qe0,qe0,ZEu,qe0,qe0] qp1 0 [2,3,4] [] [qe4,qe0,qe0] qp1 ZqC Ztz (fun n0=> .j 9111541011 [2,3,4,10,11,12] [] [qe4,qe0,qe0,ZEu,qe0,qe0] qp1 (ZqD (ZqC n0)) <|
.nil) <|
.nil⟩
theorem ZAk:Zeg X0.E 40 D72.sig:=D72.ok G0 Tryz.func40 ⟨ZDI,ZAm,trivial⟩ rfl (by funext x_;exact Zt7 _) (by kernel_rfl)
noncomputable def D73:FD U:=⟨196,Tryz.f196,[D44.sg,D48.sg],[.p (.st 3),.p (.st 3)],[],[.p (.st 2),.p (.st 2)],[],[],Zuz,Zuz,
.nil⟩
theorem ZDH:Zeg X0.E 196 D73.sig:=D73.ok G0 Tryz.func196 ⟨ZAl,ZBh,trivial⟩ rfl rfl (by kernel_rfl)
noncomputable def D74:FD U:=⟨197,Tryz.f197,[D42.sg,D73.sg,D34.sg],[.fn 196 [] [],.p (.st 3),.p (.st 3)],[],[.p (.st 3),.p (.int .i64)],[],[],Zoq,Zoq,
.j 9101 [0,4,5,6,18] [] [.fn 196 [] [],qe4,qe9,Zzb,qe3] [ZzR,ZzR,qo8,qo2,qo2] Zo4 <|
.nil⟩
theorem ZBc:Zeg X0.E 197 D74.sig:=D74.ok G0 Tryz.func197 ⟨Zzj,ZDH,Zzl,trivial⟩ rfl rfl (by kernel_rfl)
noncomputable def D75:FD U:=⟨127,Tryz.f127,[D42.sg,D45.sg,D74.sg],[.p (.st 3),.p (.st 3)],[],[.p (.st 3),.p (.int .i64)],[],[],Zuh,Zuh,
.nil⟩
theorem ZDG:Zeg X0.E 127 D75.sig:=D75.ok G0 Tryz.func127 ⟨Zzj,ZBj,ZBc,trivial⟩ rfl rfl (by kernel_rfl)
noncomputable def D76:FD U:=⟨126,Tryz.f126,[],[.p (.st 3),.p (.int .i64)],[],[.p (.st 3)],[],[],ZtA,ZtA,
.nil⟩
theorem ZAj:Zeg X0.E 126 D76.sig:=D76.ok G0 Tryz.func126 trivial rfl rfl (by kernel_rfl)
noncomputable def D77:FD U:=⟨83,Tryz.f83,[D75.sg,D76.sg],[.p (.st 3),.p (.st 3)],[],[.p (.st 3)],[],[],ZvH,ZvH,
.nil⟩
theorem ZDF:Zeg X0.E 83 D77.sig:=D77.ok G0 Tryz.func83 ⟨ZDG,ZAj,trivial⟩ rfl rfl (by kernel_rfl)
noncomputable def D78:FD U:=⟨128,Tryz.f128,[D74.sg],[.p (.st 3),.p (.st 3)],[],[.p (.st 3),.p (.int .i64)],[],[],Ztb,Ztb,
.nil⟩
theorem ZDE:Zeg X0.E 128 D78.sig:=D78.ok G0 Tryz.func128 ⟨ZBc,trivial⟩ rfl rfl (by kernel_rfl)
noncomputable def D79:FD U:=⟨84,Tryz.f84,[D78.sg,D76.sg],[.p (.st 3),.p (.st 3)],[],[.p (.st 3)],[],[],ZvI,ZvI,
.nil⟩
theorem ZDD:Zeg X0.E 84 D79.sig:=D79.ok G0 Tryz.func84 ⟨ZDE,ZAj,trivial⟩ rfl rfl (by kernel_rfl)
noncomputable def D80:FD U:=⟨198,Tryz.f198,[D44.sg],[.p (.st 3),.p (.st 3)],[],[.p (.st 2),.p (.st 2)],[],[],ZuA,ZuA,
.nil⟩
theorem ZDC:Zeg X0.E 198 D80.sig:=D80.ok G0 Tryz.func198 ⟨ZAl,trivial⟩ rfl rfl (by kernel_rfl)
noncomputable def D81:FD U:=⟨197,Tryz.f197,[D42.sg,D80.sg,D34.sg],[.fn 198 [] [],.p (.st 3),.p (.st 3)],[],[.p (.st 3),.p (.int .i64)],[],[],Zpk,Zpk,
.j 9101 [0,4,5,6,18] [] [.fn 198 [] [],qe4,qe9,Zzb,qe3] [ZzR,ZzR,qo8,qo2,qo2] ZoN <|
.nil⟩
theorem ZDB:Zeg X0.E 197 D81.sig:=D81.ok G0 Tryz.func197 ⟨Zzj,ZDC,Zzl,trivial⟩ rfl rfl (by kernel_rfl)
noncomputable def D82:FD U:=⟨129,Tryz.f129,[D81.sg],[.p (.st 3),.p (.st 3)],[],[.p (.st 3),.p (.int .i64)],[],[],Zui,Zui,
.nil⟩
theorem ZDA:Zeg X0.E 129 D82.sig:=D82.ok G0 Tryz.func129 ⟨ZDB,trivial⟩ rfl rfl (by kernel_rfl)
noncomputable def D83:FD U:=⟨85,Tryz.f85,[D82.sg,D76.sg],[.p (.st 3),.p (.st 3)],[],[.p (.st 3)],[],[],ZwA,ZwA,
.nil⟩
theorem ZDz:Zeg X0.E 85 D83.sig:=D83.ok G0 Tryz.func85 ⟨ZDA,ZAj,trivial⟩ rfl rfl (by kernel_rfl)
noncomputable def D84:FD U:=⟨42,Tryz.f42,[D40.sg,D41.sg,D50.sg,D37.sg,D72.sg,D77.sg,D79.sg,D38.sg,D83.sg],[.p (.st 1),.p (.st 1)],[],[.p (.st 3)],[],[],ZqE,ZqE,
.j 91011 [2,3,4,5,6,24] [] [qe4,qe9,Zzb,.o (.ptr (0,4,1) 0 0),.o (.ptr (0,5,1) 0 0),qe3] [ZA0,ZA0,.box [.o (.v .bool),.o (.full (0,6,1)),.o (.v .bool),.o (.full (0,7,1))],ZzR,ZzR,qo2,qo2] ZqJ <|
.j 911111 [4,5,6,7] [] [qe4,qe9,Zzb,.o (.ptr (0,4,1) 0 0)] [ZEg,ZzR,ZzR,ZzR,qo2,qo2] ZrZ <|
.nil⟩
theorem ZBb:Zeg X0.E 42 D84.sig:=D84.ok G0 Tryz.func42 ⟨ZBl,ZDY,ZDV,Zzk,ZAk,ZDF,ZDD,ZAm,ZDz,trivial⟩ rfl rfl (by kernel_rfl)
noncomputable def D85:FD U:=⟨201,Tryz.f201,[],[.p (.sl (.int .u32))],[],[.p (.sl (.int .u32))],[],[],ZnR,ZnR,
.lo 9401 [0] [] [qe1] [] 0 [0] [] [qe1] [] Zob ZtZ (fun n0=> .j 9105401 [0,14] [] [qe1,qe3] [] (ZrN (Zob n0)) <|
.nil) <|
.nil⟩
theorem ZxX:Zeg X0.E 201 D85.sig:=D85.ok G0 Tryz.func201 trivial rfl rfl (by kernel_rfl)
noncomputable def D86:FD U:=⟨135,Tryz.f135,[D85.sg],[.p .bool,.p (.sl (.int .u32))],[],[.p (.st 2)],[],[],ZnO,ZnO,
.j 9111 [4] [] [qe4] [ZyP] Zqw <|
.nil⟩
theorem ZyD:Zeg X0.E 135 D86.sig:=D86.ok G0 Tryz.func135 ⟨ZxX,trivial⟩ rfl rfl (by kernel_rfl)
noncomputable def D87:FD U:=⟨140,Tryz.f140,[D86.sg],[.p (.int .i64)],[],[.p (.st 2)],[],[],ZnM,ZnM,
.j 9111 [0,2,3] [] [qe0,qe4,Zx7] [qo23,qo2] Zpg <|
.nil⟩
theorem ZAi:Zeg X0.E 140 D87.sig:=D87.ok G0 Tryz.func140 ⟨ZyD,trivial⟩ rfl rfl (by kernel_rfl)
noncomputable def D88:FD U:=⟨132,Tryz.f132,[],[.p (.st 2)],[],[.p .bool],[],[],ZoR,ZoR,
.j 9111 [2] [] [qe3] [] ZnU <|
.nil⟩
theorem ZDy:Zeg X0.E 132 D88.sig:=D88.ok G0 Tryz.func132 trivial rfl rfl (by kernel_rfl)
noncomputable def D89:FD U:=⟨199,Tryz.f199,[D85.sg],[.p (.sl (.int .u32))],[],[.p (.sl (.int .u32))],[],[],Zoe,Zoe,
.lo 941011 [0,3,9,10] [] [qe1,qe5,qe0,qe0] [qo2] 0 [3] [] [qe5] [qo2] Zo0 ZrO (fun n0=> .j 9111541011 [0,3,9,10] [] [qe1,qe5,qe0,qe0] [qo2] (Zo1 (Zo0 n0)) <|
.nil) <|
.nil⟩
theorem ZDx:Zeg X0.E 199 D89.sig:=D89.ok G0 Tryz.func199 ⟨ZxX,trivial⟩ rfl rfl (by kernel_rfl)
noncomputable def D90:FD U:=⟨133,Tryz.f133,[],[.p (.sl (.int .u32)),.p (.sl (.int .u32))],[],[.p (.int .i64)],[],[],ZoA,ZoA,
.lr 941011 [0,1,5] [] qs0 [] 0 [] [] [] [] Zqv Zsl (fun _=> .nil) <|
.nil⟩
theorem ZAh:Zeg X0.E 133 D90.sig:=D90.ok G0 Tryz.func133 trivial rfl rfl (by kernel_rfl)
noncomputable def D91:FD U:=⟨137,Tryz.f137,[D85.sg],[.p (.sl (.int .u32)),.p (.sl (.int .u32))],[],[.p (.sl (.int .u32))],[],[],Zok,Zok,
.lo 9410111 [0,1,5,6,7] [] [qe1,qe1,qe5,qe0,qe0] [qo2] 0 [5] [] [qe5] [qo2] Zo8 Zsd (fun n0=> .j 9114015410111 [0,1,5,6,7] [] [qe1,qe1,qe5,qe0,qe0] [qo2] (Zo9 (Zo8 n0)) <|
.nil) <|
.nil⟩
theorem ZAg:Zeg X0.E 137 D91.sig:=D91.ok G0 Tryz.func137 ⟨ZxX,trivial⟩ rfl rfl (by kernel_rfl)
noncomputable def D92:FD U:=⟨200,Tryz.f200,[D85.sg],[.p (.sl (.int .u32)),.p (.int .u32)],[],[.p (.sl (.int .u32))],[],[],ZoK,ZoK,
.lo 941011 [0,1,5,6] [] [qe1,Zye,qe5,qe0] [qo2] 0 [1,5] [] [Zye,qe5] [qo2] ZpA Zrh (fun _=> .nil) <|
.nil⟩
theorem ZBa:Zeg X0.E 200 D92.sig:=D92.ok G0 Tryz.func200 ⟨ZxX,trivial⟩ rfl rfl (by kernel_rfl)
noncomputable def D93:FD U:=⟨134,Tryz.f134,[D89.sg,D90.sg,D91.sg,D92.sg],[.p (.sl (.int .u32)),.p (.sl (.int .u32))],[],[.p (.sl (.int .u32))],[],[],Zp9,Zp9,
.lo 94011 [0,1,5] [] qs0 [] 0 [0,1,5] [] qs0 [] Zoy Zsj (fun n0=> .j 91054011 [0,1,5,17] [] [qe1,qe1,qe0,qe3] [] (Zqu (Zoy n0)) <|
.nil) <|
.lo 940111 [0,1,5] [] qs0 [] 2 [0,5] [] [qe1,qe0] [] ZnP Zsg (fun n0=> .lo 94041540111 [0,1,5] [] qs0 [] 4 [0,1,5] [] qs0 [] Zn2 (Zsi (ZnP n0)) (fun _=> .nil) <|
.lo 940141540111 [0,1,5] [] qs0 [] 6 [0,1,5] [] qs0 [] Zn1 (Zsh (ZnP n0)) (fun _=> .nil) <|
.j 911141540111 [0,1,5] [] qs0 [] (Zqt (ZnP n0)) <|
.nil) <|
.lo 9401111 [0,5] [] [qe1,qe0] [] 8 [0] [] [qe1] [] Zox Zsf (fun _=> .nil) <|
.nil⟩
theorem ZDw:Zeg X0.E 134 D93.sig:=D93.ok G0 Tryz.func134 ⟨ZDx,ZAh,ZAg,ZBa,trivial⟩ rfl rfl (by kernel_rfl)
noncomputable def D94:FD U:=⟨315,Tryz.f315,[],[.p (.sl (.int .u32)),.p (.int .i64)],[],[.p (.int .u32)],[],[],Zqa,Zqa,
.nil⟩
theorem ZDv:Zeg X0.E 315 D94.sig:=D94.ok G0 Tryz.func315 trivial rfl rfl (by kernel_rfl)
noncomputable def D95:FD U:=⟨262,Tryz.f262,[D94.sg,D92.sg,D90.sg,D91.sg,D85.sg],[.p (.sl (.int .u32)),.p (.sl (.int .u32))],[],[.p (.sl (.int .u32)),.p (.sl (.int .u32))],[],[],Zo5,Zo5,
.lo 941011 [0,1,4,5,6] [5] [qe1,qe1,qe5,qe1,qe0] [qo2] 0 [4,5] [] [qe5,qe1] [qo2] Zpa Zsk (fun n0=> .j 911541011 [0,1,4,5,6] [] [qe1,qe1,qe5,qe1,qe0] [qo2] (Zpb (Zpa n0)) <|
.nil) <|
.nil⟩
theorem ZDu:Zeg X0.E 262 D95.sig:=D95.ok G0 Tryz.func262 ⟨ZDv,ZBa,ZAh,ZAg,ZxX,trivial⟩ rfl rfl (by kernel_rfl)
noncomputable def D96:FD U:=⟨202,Tryz.f202,[D87.sg,D93.sg,D95.sg,D86.sg],[.p (.st 2),.p (.st 2)],[],[.p (.st 3)],[],[],Zow,Zow,
.nil⟩
theorem ZA9:Zeg X0.E 202 D96.sig:=D96.ok G0 Tryz.func202 ⟨ZAi,ZDw,ZDu,ZyD,trivial⟩ rfl rfl (by kernel_rfl)
noncomputable def D97:FD U:=⟨139,Tryz.f139,[D88.sg,D96.sg],[.p (.st 2),.p (.st 2)],[],[.p (.st 3),.p (.int .i64)],[],[],ZpJ,ZpJ,
.j 9101 [2,3,4,13] [] [qe4,qe9,Zzb,qe3] [ZyP,ZyP,qo8,qo2,qo2] Zp4 <|
.nil⟩
theorem ZDt:Zeg X0.E 139 D97.sig:=D97.ok G0 Tryz.func139 ⟨ZDy,ZA9,trivial⟩ rfl rfl (by kernel_rfl)
noncomputable def D98:FD U:=⟨92,Tryz.f92,[D87.sg,D97.sg],[.p (.int .i64),.p (.int .i64)],[],[.p (.st 3),.p (.int .i64)],[],[],Zpq,Zpq,
.nil⟩
theorem ZA8:Zeg X0.E 92 D98.sig:=D98.ok G0 Tryz.func92 ⟨ZAi,ZDt,trivial⟩ rfl rfl (by kernel_rfl)
noncomputable def D99:FD U:=⟨48,Tryz.f48,[D98.sg],[.p (.int .i64),.p (.int .i64)],[],[.p (.st 3)],[],[],ZsU,Zof,
.nil⟩
theorem ZAf:Zeg X0.E 48 D99.sig:=D99.ok G0 Tryz.func48 ⟨ZA8,trivial⟩ rfl (by funext x_;funext x_;exact Zt7 _) (by kernel_rfl)
noncomputable def ZFc:FD U:=⟨47,Tryz.f47,[D99.sg],[.p (.int .i64)],[],[.p (.st 3)],[],[],Ztd,Zpp,
.nil⟩
theorem ZCC:Zeg X0.E 47 ZFc.sig:=ZFc.ok G0 Tryz.func47 ⟨ZAf,trivial⟩ rfl (by funext x_;exact Zt7 _) (by kernel_rfl)
noncomputable def ZFb:FD U:=⟨66,Tryz.f66,[],[.p (.st 2),.p (.st 2)],[],[.p .bool],[],[],Zos,Zos,
.j 9101 [2,3,20] [] [qe4,qe9,qe3] [ZyP,ZyP] Zpe <|
.lr 941011 [3,22,23,24] [] [qe4,qe1,qe0,qe0] [ZyP] 0 [] [] [] [] Zpd ZqN (fun _=> .nil) <|
.nil⟩
theorem ZCB:Zeg X0.E 66 ZFb.sig:=ZFb.ok G0 Tryz.func66 trivial rfl rfl (by kernel_rfl)
noncomputable def ZEo:FD U:=⟨28,Tryz.f28,[ZFb.sg],[.p (.st 3),.p (.st 3)],[],[.p .bool],[],[],ZnT,ZnT,
.j 911 [4] [] [qe3] [] ZpZ <|
.nil⟩
theorem ZAt:Zeg X0.E 28 ZEo.sig:=ZEo.ok G0 Tryz.func28 ⟨ZCB,trivial⟩ rfl rfl (by kernel_rfl)
noncomputable def ZFa:FD U:=⟨31,Tryz.f31,[(34,Zt5.sig),D2.sg,D84.sg,ZFc.sg,ZEo.sg,D72.sg,D99.sg],[],[],[.p .bool],[],[],ZoL,ZoL,
.j 9111 [0] [] [qe3] [] ZoS <|
.nil⟩
theorem ZCA:Zeg X0.E 31 ZFa.sig:=ZFa.ok G0 Tryz.func31 ⟨ZuC,ZEQ,ZBb,ZCC,ZAt,ZAk,ZAf,trivial⟩ rfl rfl (by kernel_rfl)
noncomputable def ZE9:FD U:=⟨13,Tryz.f13,[],[.p (.sl (.int .i64))],[],[.box (.st 5)],[],[],ZrY,ZrY,
.nil⟩
theorem ZCz:Zeg X0.E 13 ZE9.sig:=ZE9.ok G0 Tryz.func13 trivial rfl rfl (by kernel_rfl)
noncomputable def ZEn:FD U:=⟨16,Tryz.f16,[],[.p (.int .i64),.p (.int .i64)],[],[.p (.int .i64)],[],[],ZpV,ZpV,
.nil⟩
theorem ZAs:Zeg X0.E 16 ZEn.sig:=ZEn.ok G0 Tryz.func16 trivial rfl rfl (by kernel_rfl)
noncomputable def ZCy:FD U:=⟨14,Tryz.f14,[ZEn.sg],[.box (.st 5),.p (.int .i64)],[(0,.box (.st 5))],[.p (.int .i64)],[],[],ZnN,ZnN,
.nil⟩
theorem ZxG:Zeg X0.E 14 ZCy.sig:=ZCy.ok G0 Tryz.func14 ⟨ZAs,trivial⟩ rfl rfl (by kernel_rfl)
noncomputable def ZEe:FD U:=⟨32,Tryz.f32,[ZCy.sg],[.box (.st 5),.p (.sl .str)],[(0,.box (.st 5))],[.p .str],[],[],ZnY,ZnY,
.nil⟩
theorem ZyY:Zeg X0.E 32 ZEe.sig:=ZEe.ok G0 Tryz.func32 ⟨ZxG,trivial⟩ rfl rfl (by kernel_rfl)
noncomputable def ZE8:FD U:=⟨54,Tryz.f54,[ZCy.sg,ZEe.sg],[.box (.st 5)],[(0,.box (.st 5))],[.p (.st 0)],[],[],ZqA,ZqA,
.nil⟩
theorem ZCx:Zeg X0.E 54 ZE8.sig:=ZE8.ok G0 Tryz.func54 ⟨ZxG,ZyY,trivial⟩ rfl rfl (by kernel_rfl)
noncomputable def ZE7:FD U:=⟨55,Tryz.f55,[ZCy.sg,ZEe.sg,(56,Zve.sig)],[.box (.st 5)],[(0,.box (.st 5))],[.p (.st 0)],[],[],ZpK,ZpK,
.nil⟩
theorem ZCw:Zeg X0.E 55 ZE7.sig:=ZE7.ok G0 Tryz.func55 ⟨ZxG,ZyY,ZvR,trivial⟩ rfl rfl (by kernel_rfl)
noncomputable def ZE6:FD U:=⟨15,Tryz.f15,[ZEe.sg,ZCy.sg,ZE8.sg,ZE7.sg,(56,Zve.sig)],[.box (.st 5),.p (.int .i64)],[(0,.box (.st 5))],[.p (.st 1)],[],[],ZoW,ZoW,
.lo 9410111 [0,4,5,6,15,16] [] [.o (.ptr (0,0,0) 0 0),qe4,qe9,qe0,qe0,qe0] [.boxS (.st 5),qo24,ZCE,ZAE,ZAE] 0 [4,5] [] [qe4,qe9] [.boxS (.st 5),qo24,ZCE,ZAE,ZAE] Zo2 ZrQ (fun n0=> .j 911140115410111 [0,4,5,6,8,15,16] [] [.o (.ptr (0,0,0) 0 0),qe4,qe9,qe0,Zzb,qe0,qe0] [.boxS (.st 5),ZCE,.box [.o (.v .str),.o (.full (0,5,1))],.boxS (.st 0),ZAE,ZAE] (Zoc (Zo2 n0)) <|
.nil) <|
.nil⟩
theorem ZCv:Zeg X0.E 15 ZE6.sig:=ZE6.ok G0 Tryz.func15 ⟨ZyY,ZxG,ZCx,ZCw,ZvR,trivial⟩ rfl rfl (by kernel_rfl)
noncomputable def ZE5:FD U:=⟨203,Tryz.f203,[],[.p .str],[],[.p .str],[],[],ZsV,ZsV,
.lo 9401 [0] [] [qe6] [] 0 [0] [] [qe6] [] Zp3 ZtX (fun n0=> .j 9105401 [0,10] [] qs3 [] (ZrK (Zp3 n0)) <|
.nil) <|
.lo 94011 [0] [] [qe6] [] 2 [0] [] [qe6] [] Zp2 ZtW (fun n0=> .j 91054011 [0,23] [] qs3 [] (ZrJ (Zp2 n0)) <|
.nil) <|
.nil⟩
theorem ZCu:Zeg X0.E 203 ZE5.sig:=ZE5.ok G0 Tryz.func203 trivial rfl rfl (by kernel_rfl)
noncomputable def ZE4:FD U:=⟨204,Tryz.f204,[],[.p .str],[],[.p .str],[],[],ZsW,ZsW,
.lo 941011 [3,8,9] [] [qe5,qe0,qe0] [ZCD] 0 [3] [] [qe5] [ZCD] ZoZ ZtY (fun n0=> .j 9114011541011 [3,4,8,9,23] [] [qe5,qe0,qe0,qe0,qe3] [ZCD] (ZrM (ZoZ n0)) <|
.j 9111541011 [3,8,9] [] [qe5,qe0,qe0] [ZCD] (ZrL (ZoZ n0)) <|
.nil) <|
.nil⟩
theorem ZCt:Zeg X0.E 204 ZE4.sig:=ZE4.ok G0 Tryz.func204 trivial rfl rfl (by kernel_rfl)
noncomputable def ZEm:FD U:=⟨205,Tryz.f205,[],[.p .str],[],[.p .bool,.p .str,.p .str,.p .bool],[],[],ZqG,ZqG,
.j 9101 [0,2,20] [] [qe6,qe3,qe3] [] ZpI <|
.j 911 [0,2] [] qs3 [] Zrp <|
.lo 940111 [0,2,6] [] [qe6,qe3,qe0] [] 0 [0,2,6] [] [qe6,qe3,qe0] [] ZpF Zty (fun n0=> .j 910540111 [0,2,6,41] [] [qe6,qe3,qe0,qe3] [] (ZpH (ZpF n0)) <|
.nil) <|
.j 91011111 [0,2,3,6,52] [] [qe6,qe3,qe6,qe0,qe3] [] Zro <|
.j 91011111111 [2,3,4,76] [] qs5 [] ZpG <|
.lr 9410111111111 [2,3,4,7] [] [qe3,qe6,qe6,qe0] [] 2 [2,3,4] [] qs8 [] ZpE Ztx (fun n0=> .j 914015410111111111 [2,3,4,7,92] [] [qe3,qe6,qe6,qe0,qe3] [] (Zrn (ZpE n0)) <|
.nil) <|
.nil⟩
theorem ZAr:Zeg X0.E 205 ZEm.sig:=ZEm.ok G0 Tryz.func205 trivial rfl rfl (by kernel_rfl)
noncomputable def ZE3:FD U:=⟨206,Tryz.f206,[],[.p .bool,.p .str,.p .str],[],[.p .str],[],[],Zsa,Zsa,
.lo 9401 [0,1,2] [] qs8 [] 0 [0,1,2] [] qs8 [] Zpv Ztl (fun n0=> .j 9105401 [0,1,2,14] [] qs5 [] (Zq3 (Zpv n0)) <|
.nil) <|
.lo 94011 [0,1,2] [] qs8 [] 2 [0,1,2] [] qs8 [] Zpu Ztk (fun n0=> .j 91054011 [0,1,2,27] [] qs5 [] (Zq2 (Zpu n0)) <|
.nil) <|
.j 91111 [0,1] [] [qe3,qe6] [] Zq1 <|
.j 9101111 [1,43] [] qs3 [] Zq0 <|
.j 911111 [1] [] [qe6] [] ZqZ <|
.nil⟩
theorem ZCs:Zeg X0.E 206 ZE3.sig:=ZE3.ok G0 Tryz.func206 trivial rfl rfl (by kernel_rfl)
noncomputable def ZE2:FD U:=⟨208,Tryz.f208,[],[.p .str],[],[.p (.int .i64)],[],[],Zoj,Zoj,
.lr 941011 [0,3,4] [] [qe6,qe0,qe0] [] 0 [3] [] [qe0] [] Zqp Zt9 (fun n0=> .j 910401541011 [0,3,4,20] [] [qe6,qe0,qe0,qe3] [] (Zr9 (Zqp n0)) <|
.nil) <|
.nil⟩
theorem ZCr:Zeg X0.E 208 ZE2.sig:=ZE2.ok G0 Tryz.func208 trivial rfl rfl (by kernel_rfl)
noncomputable def ZEl:FD U:=⟨210,Tryz.f210,[],[.p (.int .i64)],[],[.p .bool],[],[],Zq5,Zq5,
.j 911 [2] [] [qe3] [] Zp0 <|
.nil⟩
theorem ZAq:Zeg X0.E 210 ZEl.sig:=ZEl.ok G0 Tryz.func210 trivial rfl rfl (by kernel_rfl)
noncomputable def ZE1:FD U:=⟨209,Tryz.f209,[ZEl.sg],[.p (.int .i64),.p (.int .i64)],[],[.p (.int .i64)],[],[],Zqq,Zqq,
.j 91401 [1,5] [] [qe0,qe3] [] Zq4 <|
.j 913131401 [15] [] [qe3] [] ZoE <|
.nil⟩
theorem ZCq:Zeg X0.E 209 ZE1.sig:=ZE1.ok G0 Tryz.func209 ⟨ZAq,trivial⟩ rfl rfl (by kernel_rfl)
noncomputable def ZEk:FD U:=⟨143,Tryz.f143,[ZE1.sg,ZEl.sg],[.p (.int .i64),.p (.int .i64),.p (.int .i64)],[],[.p (.int .i64),.p .bool],[],[],Zrz,Zrz,
.j 9101 [0,1,2,35] [] [qe0,qe0,qe0,qe3] [] Zog <|
.lo 9410111 [0,1,2,8,9] [] qs7 [] 0 [0,1,2,8] [] [qe0,qe0,qe0,qe0] [] Zqr Zub (fun n0=> .j 9115410111 [0,1,2,8,9] [] qs7 [] (Zsc (Zqr n0)) <|
.nil) <|
.lo 94101111 [0,1,2,8,10] [] qs7 [] 2 [2,8] [] [qe0,qe0] [] Zsb Zua (fun _=> .nil) <|
.nil⟩
theorem ZAp:Zeg X0.E 143 ZEk.sig:=ZEk.ok G0 Tryz.func143 ⟨ZCq,ZAq,trivial⟩ rfl rfl (by kernel_rfl)
noncomputable def ZEj:FD U:=⟨142,Tryz.f142,[ZE2.sg,ZEk.sg],[.p .str],[],[.p (.int .i64),.p (.int .i64),.p (.int .i64),.p .bool],[],[],Zq6,Zq6,
.j 9104011 [0,9] [] qs3 [] ZrI <|
.j 914011 [0,9] [] qs3 [] Zp1 <|
.j 91314011 [0,35] [] qs3 [] ZrH <|
.j 9111 [2,3,4] [] [qe0,qe0,qe0] [] ZrG <|
.nil⟩
theorem ZAo:Zeg X0.E 142 ZEj.sig:=ZEj.ok G0 Tryz.func142 ⟨ZCr,ZAp,trivial⟩ rfl rfl (by kernel_rfl)
noncomputable def ZE0:FD U:=⟨207,Tryz.f207,[],[.p (.int .i64),.p (.int .i64)],[],[.p .str],[],[],Zo7,Zo7,
.lo 94011 [0,1,5] [] [qe0,qe0,qe6] [] 0 [5] [] [qe6] [] ZqY Ztj (fun _=> .nil) <|
.nil⟩
theorem ZCp:Zeg X0.E 207 ZE0.sig:=ZE0.ok G0 Tryz.func207 trivial rfl rfl (by kernel_rfl)
noncomputable def ZEZ:FD U:=⟨141,Tryz.f141,[ZE5.sg,ZE4.sg,ZEm.sg,ZE3.sg,ZEj.sg,ZE0.sg],[.p (.int .i64),.p .str],[],[.p .str,.p .bool],[],[],Zq7,Zq7,
.j 9141213141011 [24,25] [] qs3 [] Zqg <|
.j 913141213141011 [28] [] [qe3] [] Zqf <|
.j 91313141011 [0,6,17,31] [] [qe0,qe6,qe0,qe3] [] Zqe <|
.j 91121313141011 [7,8,9,49] [] qs5 [] ZoV <|
.j 9111 [] [] [] [] Zoo <|
.nil⟩
theorem ZCo:Zeg X0.E 141 ZEZ.sig:=ZEZ.ok G0 Tryz.func141 ⟨ZCu,ZCt,ZAr,ZCs,ZAo,ZCp,trivial⟩ rfl rfl (by kernel_rfl)
noncomputable def ZEY:FD U:=⟨138,Tryz.f138,[D85.sg],[.p (.sl (.int .u32)),.p (.sl (.int .u32))],[],[.p (.sl (.int .u32))],[],[],Zte,Zte,
.lo 941011 [0,1,5,6] [] [qe1,qe1,qe5,qe0] [qo2] 0 [5] [] [qe5] [qo2] Zqs Zuc (fun n0=> .lo 94101401541011 [0,1,5,6,7,8] [] [qe1,qe1,qe5,qe0,Zx7,qe0] [qo2] 2 [0,1,5,6,7] [] [qe1,qe1,qe5,qe0,Zx7] [qo2] Zse (Zud (Zqs n0)) (fun _=> .nil) <|
.nil) <|
.nil⟩
theorem ZCn:Zeg X0.E 138 ZEY.sig:=ZEY.ok G0 Tryz.func138 ⟨ZxX,trivial⟩ rfl rfl (by kernel_rfl)
noncomputable def ZEX:FD U:=⟨90,Tryz.f90,[ZEY.sg,D86.sg],[.p (.st 2),.p (.st 2)],[],[.p (.st 2)],[],[],ZqF,ZqF,
.nil⟩
theorem ZCm:Zeg X0.E 90 ZEX.sig:=ZEX.ok G0 Tryz.func90 ⟨ZCn,ZyD,trivial⟩ rfl rfl (by kernel_rfl)
noncomputable def ZEW:FD U:=⟨136,Tryz.f136,[],[.p (.sl (.int .u32)),.p (.sl (.int .u32))],[],[.own (.int .u32)],[],[],Ztf,Ztf,
.lo 9410111 [0,1,5,6,7] [] qs6 [qo2] 0 [5,6] [] [qe5,Zx7] [qo2] Zoz Zue (fun n0=> .j 9105410111 [0,1,5,6,7,17] [] [qe1,qe1,qe5,Zx7,qe0,qe3] [qo2] (Zso (Zoz n0)) <|
.j 914015410111 [0,1,5,6,7] [] qs6 [qo2] (Zsn (Zoz n0)) <|
.j 9114015410111 [0,1,5,6,7] [] qs6 [qo2] (Zsm (Zoz n0)) <|
.nil) <|
.nil⟩
theorem ZCl:Zeg X0.E 136 ZEW.sig:=ZEW.ok G0 Tryz.func136 trivial rfl rfl (by kernel_rfl)
noncomputable def ZEV:FD U:=⟨89,Tryz.f89,[ZEW.sg,D86.sg,D90.sg,D91.sg],[.p (.st 2),.p (.st 2)],[],[.p (.st 2)],[],[],ZsX,ZsX,
.nil⟩
theorem ZCk:Zeg X0.E 89 ZEV.sig:=ZEV.ok G0 Tryz.func89 ⟨ZCl,ZyD,ZAh,ZAg,trivial⟩ rfl rfl (by kernel_rfl)
noncomputable def ZEU:FD U:=⟨91,Tryz.f91,[D86.sg],[.p (.st 2)],[],[.p (.st 2)],[],[],ZsH,ZsH,
.nil⟩
theorem ZCj:Zeg X0.E 91 ZEU.sig:=ZEU.ok G0 Tryz.func91 ⟨ZyD,trivial⟩ rfl rfl (by kernel_rfl)
noncomputable def ZET:FD U:=⟨144,Tryz.f144,[ZEm.sg,D87.sg,ZEX.sg,ZEV.sg,ZEU.sg,D96.sg],[.p .str],[],[.p (.st 3),.p .bool],[],[],ZrP,ZrP,
.lo 94101111 [2,4,6,8,9,27,28,29] [100008] [qe4,qe3,qe6,qe9,Zzb,.o (.full (0,4,1)),qe0,qe0] [ZEg,ZyP,ZyP,ZCD,qo2,qo2] 0 [2,4,6,8,9] [] [qe4,qe3,qe6,qe9,Zzb] qp4 ZqP Zs6 (fun _=> .nil) <|
.lo 941011111 [2,4,8,9,43] [] [qe4,qe3,qe9,Zzb,.o (.it (0,4,1))] [ZEg,ZyP,ZyP,.sit,qo2,qo2] 2 [2,4,8,9] [] [qe4,qe3,qe9,Zzb] qp4 Zph Zs5 (fun n0=> .j 91541011111 [2,4,8,9,43,45] [] [qe4,qe3,qe9,Zzb,.o (.it (0,4,1)),qe3] [ZEg,ZyP,ZyP,.sit,qo2,qo2] (ZqR (Zph n0)) <|
.nil) <|
.j 91111111 [2,8,9] [] [qe4,qe9,Zzb] qp4 ZqQ <|
.nil⟩
theorem ZCi:Zeg X0.E 144 ZET.sig:=ZET.ok G0 Tryz.func144 ⟨ZAr,ZAi,ZCm,ZCk,ZCj,ZA9,trivial⟩ rfl rfl (by kernel_rfl)
noncomputable def ZES:FD U:=⟨93,Tryz.f93,[ZEZ.sg,ZEj.sg,ZEk.sg,ZET.sg,D98.sg],[.p (.int .i64),.p .str],[],[.p (.st 3),.p .bool],[],[],ZsG,ZsG,
.j 91011 [0,4,6,26] [] [qe0,qe4,qe6,qe3] qp1 Zrg <|
.j 911111 [4,8] [] [qe4,qe0] qp1 Zpz <|
.nil⟩
theorem ZCh:Zeg X0.E 93 ZES.sig:=ZES.ok G0 Tryz.func93 ⟨ZCo,ZAo,ZAp,ZCi,ZA8,trivial⟩ rfl rfl (by kernel_rfl)
noncomputable def ZER:FD U:=⟨49,Tryz.f49,[ZES.sg],[.p (.st 0)],[],[.p (.st 3),.p .bool],[],[],Zov,Zov,
.nil⟩
theorem ZCg:Zeg X0.E 49 ZER.sig:=ZER.ok G0 Tryz.func49 ⟨ZCh,trivial⟩ rfl rfl (by kernel_rfl)
noncomputable def D131:FD U:=⟨9,Tryz.f9,[D0.sg,ZFa.sg,ZE9.sg,ZCy.sg,ZE6.sg,ZEn.sg,ZER.sg,D72.sg,D99.sg,ZEo.sg,D84.sg,D40.sg],[.p (.sl (.int .i64)),.p (.int .i64)],[],[.p .bool],[],[],Zot,Zot,
.lo 94101111111 [6,7,8,9,10,11,51,52,53] [] qs2 [ZA0,ZA0,ZCE,ZAE] 0 [6,7,8,9,10,11] [] [qe4,qe9,qe0,Zzb,qe0,qe0] [ZA0,ZA0,ZCE,ZAE] ZnV Zoh (fun n0=> .j 911154101111111 [6,7,8,9,10,11,51,52,53] [] qs2 [ZA0,ZA0,ZCE,ZAE] (ZnW (ZnV n0)) <|
.nil) <|
.j 91111111111 [4] [] [qe3] [] ZnL <|
.nil⟩
theorem D131_ok:Zeg X0.E 9 D131.sig:=D131.ok G0 Tryz.func9 ⟨ZFd,ZCA,ZCz,ZxG,ZCv,ZAs,ZCg,ZAk,ZAf,ZAt,ZBb,ZBl,trivial⟩ rfl rfl (by kernel_rfl)
end
end Go.Proofs

/- Printed by wip/tools/tgen.py: walks. -/
import Derived.Test.YthefajbigloihaaGreatDoorSwU
import Derived.Test.YthefajbigloihaaGreatDoorSwX
set_option linter.unusedVariables false
set_option linter.unusedSimpArgs false
set_option linter.unusedSectionVars false
namespace Go.Proofs
open Go Eng
set_option maxRecDepth 100000
noncomputable section
abbrev qe0:Sh:= .o (.v (.sl (.int .u32)))
abbrev qe1:Sh:= .o (.v (.int .i64))
abbrev qo2:ShO:= .arr (.int .u32) false
abbrev qo3:ShO:= .box [.o (.v .bool),.o (.full (0,2,1)),.o (.v .bool),.o (.full (0,3,1))]
abbrev qe4:Sh:= .o (.full (0,1,1))
abbrev qe5:Sh:= .o (.ptr (0,1,1) 0 0)
abbrev qe6:Sh:= .o (.v .bool)
abbrev qe7:Sh:= .o (.v (.int .u32))
abbrev qo8:ShO:= .box [.o (.v .bool),.o (.full (0,4,1)),.o (.v .bool),.o (.full (0,5,1))]
abbrev qe9:Sh:= .o (.v .str)
abbrev Zw1:Sh:= .o (.v (.int .u64))
abbrev Zxp:Sh:= .o (.v (.sl .str))
abbrev Zyf:Sh:= .o (.sl (0,0,0))
abbrev Zzw:Sh:= .o (.ptr (0,2,1) 0 0)
abbrev ZxI:ShO:= .boxS (.st 3)
abbrev ZAj:Sh:= .o (.ptr (0,3,1) 0 0)
abbrev Zzv:ShO:= .boxS (.st 2)
abbrev qo17:ShO:= .box [.o (.v .bool),.o (.full (0,2,1))]
abbrev ZBT:Sh:= .o (.full (0,2,1))
abbrev qs0:List Sh:=[qe0,qe0,qe1]
abbrev qp1:List ShO:=[qo3,qo2,qo2]
abbrev qs2:List Sh:=[qe5,qe1,qe1,.o (.v (.sl (.st 0))),qe1,qe1]
noncomputable def D0:FD U:=⟨11,Tryz.f11,[],[.p (.sl (.int .i64))],[],[.p .bool],[],[],ZqL,ZqL,
.nil⟩
theorem ZCw:Zeg X0.E 11 D0.sig:=D0.ok G0 Tryz.func11 trivial rfl rfl (by kernel_rfl)
noncomputable def D2:FD U:=⟨33,Tryz.f33,[],[.p (.sl .str),.p (.sl .str)],[],[.p .bool],[],[],ZnT,ZnT,
.lr 941011 [1,12,13,14] [] [Zxp,Zxp,qe1,qe1] [] 0 [] [] [] [] Zoi Zrw (fun _=> .nil) <|
.nil⟩
theorem ZBE:Zeg X0.E 33 D2.sig:=D2.ok G0 Tryz.func33 trivial rfl rfl (by kernel_rfl)
noncomputable def D4:FD U:=⟨259,Tryz.f259,[],[.p .str],[],[.p .bool],[],[],Zq6,Zq6,
.nil⟩
theorem ZCq:Zeg X0.E 259 D4.sig:=D4.ok G0 Tryz.func259 trivial rfl rfl (by kernel_rfl)
noncomputable def D5:FD U:=⟨189,Tryz.f189,[D4.sg],[.p .str,.p .str],[],[.p .bool],[],[],ZrG,ZrG,
.j 911 [4] [] [qe6] [] Zqm <|
.nil⟩
theorem ZCp:Zeg X0.E 189 D5.sig:=D5.ok G0 Tryz.func189 ⟨ZCq,trivial⟩ rfl rfl (by kernel_rfl)
noncomputable def D6:FD U:=⟨260,Tryz.f260,[],[.p .str],[],[.p .bool],[],[],Zp5,Zp5,
.nil⟩
theorem ZCo:Zeg X0.E 260 D6.sig:=D6.ok G0 Tryz.func260 trivial rfl rfl (by kernel_rfl)
noncomputable def D7:FD U:=⟨192,Tryz.f192,[D5.sg,D6.sg],[.p (.sl .str),.p .str],[],[.p (.int .i64),.p .bool],[],[],ZnY,ZnY,
.lo 940111 [0,1,6,7,8] [] [Zxp,qe9,qe1,qe1,qe1] [] 0 [0,1,6,7] [] [Zxp,qe9,qe1,qe1] [] Zoa ZoO (fun _=> .nil) <|
.j 911111 [4,5] [] [qe1,qe6] [] ZnM <|
.nil⟩
theorem ZCn:Zeg X0.E 192 D7.sig:=D7.ok G0 Tryz.func192 ⟨ZCp,ZCo,trivial⟩ rfl rfl (by kernel_rfl)
noncomputable def D8:FD U:=⟨120,Tryz.f120,[D7.sg],[.p (.sl .str),.p (.sl .str)],[],[.p (.int .i64)],[],[],ZqA,ZqA,
.lo 941011 [1,5,10,11,12] [] [Zxp,qe1,Zxp,qe1,qe1] [] 0 [5] [] [qe1] [] ZpK Zr1 (fun n0=> .j 9111541011 [1,5,10,11,12] [] [Zxp,qe1,Zxp,qe1,qe1] [] (ZqM (ZpK n0)) <|
.nil) <|
.nil⟩
theorem ZCm:Zeg X0.E 120 D8.sig:=D8.ok G0 Tryz.func120 ⟨ZCn,trivial⟩ rfl rfl (by kernel_rfl)
noncomputable def D9:FD U:=⟨252,Tryz.f252,[],[.p (.sl (.int .u32))],[],[.p (.sl (.int .u32))],[],[],ZnN,ZnN,
.lo 9401 [0] [] [qe0] [] 0 [0] [] [qe0] [] Zol Zsm (fun n0=> .j 9105401 [0,14] [] [qe0,qe6] [] (Zq1 (Zol n0)) <|
.nil) <|
.nil⟩
theorem Zxo:Zeg X0.E 252 D9.sig:=D9.ok G0 Tryz.func252 trivial rfl rfl (by kernel_rfl)
noncomputable def D10:FD U:=⟨255,Tryz.f255,[D9.sg],[.p (.int .u64)],[],[.p (.sl (.int .u32))],[],[],Zpy,Zpy,
.nil⟩
theorem Zzg:Zeg X0.E 255 D10.sig:=D10.ok G0 Tryz.func255 ⟨Zxo,trivial⟩ rfl rfl (by kernel_rfl)
noncomputable def D11:FD U:=⟨175,Tryz.f175,[],[.p .bool,.p (.sl (.int .u32))],[],[.p (.st 2)],[],[],ZnQ,ZnQ,
.j 911 [4] [] [qe5] [qo17,qo2] Zrq <|
.nil⟩
theorem Zww:Zeg X0.E 175 D11.sig:=D11.ok G0 Tryz.func175 trivial rfl rfl (by kernel_rfl)
noncomputable def D12:FD U:=⟨180,Tryz.f180,[D10.sg,D11.sg],[.p (.int .i64)],[],[.p (.st 2)],[],[],Zqd,Zqd,
.nil⟩
theorem ZBR:Zeg X0.E 180 D12.sig:=D12.ok G0 Tryz.func180 ⟨Zzg,Zww,trivial⟩ rfl rfl (by kernel_rfl)
noncomputable def D13:FD U:=⟨218,Tryz.f218,[],[.p (.st 2)],[],[.p .bool],[],[],ZpR,ZpR,
.j 9111 [2] [] [qe6] [] Zoc <|
.nil⟩
theorem ZBQ:Zeg X0.E 218 D13.sig:=D13.ok G0 Tryz.func218 trivial rfl rfl (by kernel_rfl)
noncomputable def D14:FD U:=⟨154,Tryz.f154,[D13.sg],[.p (.sl (.st 2))],[],[.p .bool],[],[],ZrF,ZrF,
.lr 94101 [5,6,7] [] [.o (.v (.sl (.st 2))),qe1,qe1] [] 0 [] [] [] [] Zr5 Zt2 (fun _=> .nil) <|
.nil⟩
theorem Zzf:Zeg X0.E 154 D14.sig:=D14.ok G0 Tryz.func154 ⟨ZBQ,trivial⟩ rfl rfl (by kernel_rfl)
noncomputable def D15:FD U:=⟨287,Tryz.f287,[],[.p (.int .i64)],[],[.p .bool],[],[],Zsu,Zsu,
.nil⟩
theorem ZBP:Zeg X0.E 287 D15.sig:=D15.ok G0 Tryz.func287 trivial rfl rfl (by kernel_rfl)
noncomputable def D16:FD U:=⟨220,Tryz.f220,[D15.sg],[.p (.int .i64),.p (.int .i64)],[],[.p (.int .i64)],[],[],ZrH,ZrH,
.nil⟩
theorem ZBO:Zeg X0.E 220 D16.sig:=D16.ok G0 Tryz.func220 ⟨ZBP,trivial⟩ rfl rfl (by kernel_rfl)
noncomputable def D17:FD U:=⟨288,Tryz.f288,[],[.p (.int .u32)],[],[.p .bool],[],[],Zr6,Zr6,
.nil⟩
theorem ZBN:Zeg X0.E 288 D17.sig:=D17.ok G0 Tryz.func288 trivial rfl rfl (by kernel_rfl)
noncomputable def D18:FD U:=⟨221,Tryz.f221,[D17.sg],[.p (.int .u32),.p (.int .u32)],[],[.p (.int .i64)],[],[],Zrt,Zrt,
.nil⟩
theorem ZBM:Zeg X0.E 221 D18.sig:=D18.ok G0 Tryz.func221 ⟨ZBN,trivial⟩ rfl rfl (by kernel_rfl)
noncomputable def D19:FD U:=⟨156,Tryz.f156,[D16.sg,D18.sg],[.p (.sl (.int .u32)),.p (.sl (.int .u32))],[],[.p (.int .i64)],[],[],Zn0,Zn0,
.lr 941011 [0,1,6] [] qs0 [] 0 [] [] [] [] Zpw ZqH (fun _=> .nil) <|
.nil⟩
theorem Zx9:Zeg X0.E 156 D19.sig:=D19.ok G0 Tryz.func156 ⟨ZBO,ZBM,trivial⟩ rfl rfl (by kernel_rfl)
noncomputable def D20:FD U:=⟨282,Tryz.f282,[],[.p (.sl (.int .u32))],[],[.own (.int .u32)],[],[],ZnW,ZnW,
.j 9101 [0,4] [] [qe0,qe6] [] ZnH <|
.nil⟩
theorem Zze:Zeg X0.E 282 D20.sig:=D20.ok G0 Tryz.func282 trivial rfl rfl (by kernel_rfl)
noncomputable def D21:FD U:=⟨325,Tryz.f325,[],[.p (.int .u32),.p (.int .u32),.p (.int .u32)],[],[.p (.int .u32),.p (.int .u32)],[],[],ZrB,ZrB,
.j 9101 [0,1,2,15] [] [qe7,qe7,qe7,qe6] [] Zql <|
.nil⟩
theorem ZBL:Zeg X0.E 325 D21.sig:=D21.ok G0 Tryz.func325 trivial rfl rfl (by kernel_rfl)
noncomputable def D22:FD U:=⟨283,Tryz.f283,[D21.sg,D9.sg],[.p (.sl (.int .u32)),.p (.int .u32)],[],[.p (.sl (.int .u32)),.p (.int .u32)],[],[],ZpL,ZpL,
.lo 9410111 [0,1,6,7,8] [] [qe0,qe7,qe4,qe7,qe1] [qo2] 0 [6,7] [] [qe4,qe7] [qo2] Zp0 Zrj (fun _=> .nil) <|
.nil⟩
theorem ZBK:Zeg X0.E 283 D22.sig:=D22.ok G0 Tryz.func283 ⟨ZBL,Zxo,trivial⟩ rfl rfl (by kernel_rfl)
noncomputable def D23:FD U:=⟨173,Tryz.f173,[],[.p (.int .u32)],[],[.p (.int .i64)],[],[],ZrA,ZrA,
.j 911 [0,2] [] [qe7,qe1] [] Zro <|
.j 9111 [0,2] [] [qe7,qe1] [] Zpz <|
.nil⟩
theorem ZBJ:Zeg X0.E 173 D23.sig:=D23.ok G0 Tryz.func173 trivial rfl rfl (by kernel_rfl)
noncomputable def D24:FD U:=⟨284,Tryz.f284,[D23.sg],[.p (.int .u32)],[],[.p (.int .i64)],[],[],ZoS,ZoS,
.nil⟩
theorem ZBI:Zeg X0.E 284 D24.sig:=D24.ok G0 Tryz.func284 ⟨ZBJ,trivial⟩ rfl rfl (by kernel_rfl)
noncomputable def D25:FD U:=⟨285,Tryz.f285,[],[.p (.sl (.int .u32)),.p (.int .i64)],[],[.own (.int .u32)],[],[],Zoj,Zoj,
.lo 941011 [1,5,13,14,15] [] [qe1,qe4,qe0,qe1,qe1] [qo2] 0 [5] [] [qe4] [qo2] Zpu ZqF (fun _=> .nil) <|
.nil⟩
theorem ZBH:Zeg X0.E 285 D25.sig:=D25.ok G0 Tryz.func285 trivial rfl rfl (by kernel_rfl)
noncomputable def D26:FD U:=⟨253,Tryz.f253,[],[.p (.int .u32),.p (.int .u32),.p (.int .u32)],[],[.p (.int .u32),.p (.int .u32)],[],[],ZpN,ZpN,
.nil⟩
theorem Zzd:Zeg X0.E 253 D26.sig:=D26.ok G0 Tryz.func253 trivial rfl rfl (by kernel_rfl)
noncomputable def D27:FD U:=⟨250,Tryz.f250,[],[.p (.int .u32),.p (.int .u32),.p (.int .u32)],[],[.p (.int .u32),.p (.int .u32)],[],[],Zqt,Zqt,
.nil⟩
theorem Zzc:Zeg X0.E 250 D27.sig:=D27.ok G0 Tryz.func250 trivial rfl rfl (by kernel_rfl)
noncomputable def D28:FD U:=⟨286,Tryz.f286,[D26.sg,D27.sg],[.part (.int .u32),.p (.sl (.int .u32))],[(0,.arr (.int .u32))],[.p (.int .u32)],[],[],ZsR,Zr4,
.lo 94011111 [0,1,5,7,8] [] [Zyf,qe0,qe1,Zw1,Zw1] [qo2] 0 [0,1,5,7] [] [Zyf,qe0,qe1,Zw1] [qo2] ZpP ZrQ (fun n0=> .j 91054011111 [0,1,5,7,8,71] [] [Zyf,qe0,qe1,Zw1,Zw1,qe6] [qo2] (ZqJ (ZpP n0)) <|
.nil) <|
.lo 941011111111 [0,1,5,7,9,10,82,83,84] [] [Zyf,qe0,qe1,Zw1,qe7,Zw1,qe0,qe1,qe1] [qo2] 2 [0,1,5,7,9,10] [] [Zyf,qe0,qe1,Zw1,qe7,Zw1] [qo2] ZrO ZsT (fun _=> .nil) <|
.lo 941011111111111 [0,5,7,13,130,131,132] [] [Zyf,qe1,Zw1,qe7,qe0,qe1,qe1] [qo2] 4 [0,5,7,13] [] [Zyf,qe1,Zw1,qe7] [qo2] ZqI ZrP (fun _=> .nil) <|
.nil⟩
theorem ZBG:Zeg X0.E 286 D28.sig:=D28.okA G0 Tryz.func286 ⟨Zzd,Zzc,trivial⟩ (by kernel_rfl) (by kernel_rfl)
noncomputable def D29:FD U:=⟨252,Tryz.f252,[],[.part (.int .u32)],[(0,.arr (.int .u32))],[.view 0],[],[],Zrp,ZqN,
.lo 9401 [0] [] [Zyf] [qo2] 0 [0] [] [Zyf] [qo2] Zpx ZrN (fun n0=> .j 9105401 [0,14] [] [Zyf,qe6] [qo2] (Zqs (Zpx n0)) <|
.nil) <|
.nil⟩
theorem ZBF:Zeg X0.E 252 D29.sig:=D29.okA G0 Tryz.func252 trivial (by kernel_rfl) (by kernel_rfl)
noncomputable def D30:FD U:=⟨251,Tryz.f251,[],[.p (.sl (.int .u32)),.p (.int .i64)],[],[.p (.int .u32)],[],[],Zpd,Zpd,
.nil⟩
theorem Zzb:Zeg X0.E 251 D30.sig:=D30.ok G0 Tryz.func251 trivial rfl rfl (by kernel_rfl)
noncomputable def D31:FD U:=⟨251,Tryz.f251,[],[.part (.int .u32),.p (.int .i64)],[(0,.arr (.int .u32))],[.p (.int .u32)],[],[],Zsl,Zqq,
.nil⟩
theorem ZBD:Zeg X0.E 251 D31.sig:=D31.okA G0 Tryz.func251 trivial (by kernel_rfl) (by kernel_rfl)
noncomputable def D32:FD U:=⟨219,Tryz.f219,[D19.sg,D20.sg,D22.sg,D9.sg,D24.sg,D25.sg,D28.sg,D29.sg,D31.sg],[.p (.sl (.int .u32)),.p (.sl (.int .u32))],[],[.p (.sl (.int .u32)),.p (.sl (.int .u32))],[],[(84,7)],ZoL,ZoL,
.lo 9410111111 [8,9,10,11,12,13] [11] [qe1,qe1,qe4,qe0,ZBT,qe1] [qo2,qo2] 1 [8,9,10,12] [] [qe1,qe1,qe4,ZBT] [qo2,qo2] Zph ZrE (fun _=> .nil) <|
.lo 941011111111 [9,12,14,86,87] [] [qe1,qe4,.o (.sl (0,2,1)),qe1,qe1] [qo2,qo2] 3 [12,14] [] [qe4,.o (.sl (0,2,1))] [qo2,qo2] Zpg ZrD (fun _=> .nil) <|
.nil⟩
theorem Zza:Zeg X0.E 219 D32.sig:=D32.ok G0 Tryz.func219 ⟨Zx9,Zze,ZBK,Zxo,ZBI,ZBH,ZBG,ZBF,ZBD,trivial⟩ rfl rfl (by kernel_rfl)
noncomputable def D33:FD U:=⟨155,Tryz.f155,[D32.sg],[.p (.sl (.int .u32)),.p (.sl (.int .u32))],[],[.p (.sl (.int .u32))],[],[],ZoP,ZoP,
.lo 9401 [0,1] [] [qe0,qe0] [] 0 [0] [] [qe0] [] Zn6 ZqW (fun _=> .nil) <|
.nil⟩
theorem Zy9:Zeg X0.E 155 D33.sig:=D33.ok G0 Tryz.func155 ⟨Zza,trivial⟩ rfl rfl (by kernel_rfl)
noncomputable def D34:FD U:=⟨254,Tryz.f254,[D33.sg,D32.sg,D11.sg],[.p (.st 2),.p (.st 2)],[],[.p (.st 3)],[],[],Zox,Zox,
.nil⟩
theorem Zxc:Zeg X0.E 254 D34.sig:=D34.ok G0 Tryz.func254 ⟨Zy9,Zza,Zww,trivial⟩ rfl rfl (by kernel_rfl)
noncomputable def D35:FD U:=⟨179,Tryz.f179,[D14.sg,D34.sg],[.p (.st 2),.p (.st 2)],[],[.p (.st 3),.p (.int .i64)],[],[],Zsq,Zsq,
.nil⟩
theorem ZBC:Zeg X0.E 179 D35.sig:=D35.ok G0 Tryz.func179 ⟨Zzf,Zxc,trivial⟩ rfl rfl (by kernel_rfl)
noncomputable def D36:FD U:=⟨116,Tryz.f116,[D12.sg,D35.sg],[.p (.int .i64),.p (.int .i64)],[],[.p (.st 3),.p (.int .i64)],[],[],Zsz,Zsz,
.nil⟩
theorem Zy8:Zeg X0.E 116 D36.sig:=D36.ok G0 Tryz.func116 ⟨ZBR,ZBC,trivial⟩ rfl rfl (by kernel_rfl)
noncomputable def D37:FD U:=⟨67,Tryz.f67,[D36.sg],[],[],[.p (.st 3)],[],[],Zsx,Zsx,
.nil⟩
theorem Zxb:Zeg X0.E 67 D37.sig:=D37.ok G0 Tryz.func67 ⟨Zy8,trivial⟩ rfl rfl (by kernel_rfl)
noncomputable def D38:FD U:=⟨64,Tryz.f64,[D36.sg,D37.sg],[.p (.int .i64),.p (.int .i64)],[],[.p (.st 3)],[],[],Ztj,Ztj,
.nil⟩
theorem Zx8:Zeg X0.E 64 D38.sig:=D38.ok G0 Tryz.func64 ⟨Zy8,Zxb,trivial⟩ rfl rfl (by kernel_rfl)
noncomputable def D39:FD U:=⟨78,Tryz.f78,[D8.sg,D38.sg],[.p (.sl .str),.p (.sl .str)],[],[.p (.st 3)],[],[],Zp9,Zp9,
.nil⟩
theorem Zy7:Zeg X0.E 78 D39.sig:=D39.ok G0 Tryz.func78 ⟨ZCm,Zx8,trivial⟩ rfl rfl (by kernel_rfl)
noncomputable def D40:FD U:=⟨38,Tryz.f38,[(80,Zt6.sig),D39.sg],[.p (.st 1),.p (.st 1)],[],[.p (.st 3)],[],[],ZqB,ZqB,
.nil⟩
theorem ZBB:Zeg X0.E 38 D40.sig:=D40.ok G0 Tryz.func38 ⟨ZuQ,Zy7,trivial⟩ rfl rfl (by kernel_rfl)
noncomputable def D41:FD U:=⟨36,Tryz.f36,[(34,Zru.sig),D39.sg],[.p .str,.p .str],[],[.p (.st 3)],[],[],Zqb,Zqb,
.nil⟩
theorem Zy6:Zeg X0.E 36 D41.sig:=D41.ok G0 Tryz.func36 ⟨ZrR,Zy7,trivial⟩ rfl rfl (by kernel_rfl)
noncomputable def D42:FD U:=⟨101,Tryz.f101,[D14.sg,D33.sg,D19.sg],[.p (.st 3)],[],[.p .bool],[],[],Zop,Zop,
.j 911 [2] [] [qe6] [] ZpQ <|
.nil⟩
theorem Zxa:Zeg X0.E 101 D42.sig:=D42.ok G0 Tryz.func101 ⟨Zzf,Zy9,Zx9,trivial⟩ rfl rfl (by kernel_rfl)
noncomputable def D43:FD U:=⟨178,Tryz.f178,[D9.sg],[.p (.sl (.int .u32)),.p (.sl (.int .u32))],[],[.p (.sl (.int .u32))],[],[],Zou,Zou,
.lo 941011 [1,5,17,18,19] [] [qe0,qe4,qe0,qe1,qe1] [qo2] 0 [5] [] [qe4] [qo2] Zo4 Zrh (fun n0=> .lo 9410114011541011 [1,5,6,7,8,17,18,19,24,25,26] [] [qe0,qe4,qe1,qe7,Zw1,qe0,qe1,qe1,qe0,qe1,qe1] [qo2] 2 [1,5,6,8,17,18,19] [] [qe0,qe4,qe1,Zw1,qe0,qe1,qe1] [qo2] ZpZ (Zri (Zo4 n0)) (fun _=> .nil) <|
.nil) <|
.nil⟩
theorem Zy5:Zeg X0.E 178 D43.sig:=D43.ok G0 Tryz.func178 ⟨Zxo,trivial⟩ rfl rfl (by kernel_rfl)
noncomputable def D44:FD U:=⟨114,Tryz.f114,[D43.sg,D11.sg],[.p (.st 2),.p (.st 2)],[],[.p (.st 2)],[],[],ZnK,ZnK,
.nil⟩
theorem Zx7:Zeg X0.E 114 D44.sig:=D44.ok G0 Tryz.func114 ⟨Zy5,Zww,trivial⟩ rfl rfl (by kernel_rfl)
noncomputable def D45:FD U:=⟨115,Tryz.f115,[],[.p (.st 2)],[],[.p (.st 2)],[],[],Zpe,Zpe,
.j 911 [2] [] [qe5] [Zzv] ZqO <|
.nil⟩
theorem Zy4:Zeg X0.E 115 D45.sig:=D45.ok G0 Tryz.func115 trivial rfl rfl (by kernel_rfl)
noncomputable def D46:FD U:=⟨176,Tryz.f176,[D30.sg,D27.sg,D9.sg],[.p (.sl (.int .u32)),.p (.sl (.int .u32))],[],[.p (.sl (.int .u32))],[],[],Zpf,Zpf,
.lo 9410111 [0,1,5,6,20,21] [] [qe0,qe0,qe4,qe7,qe1,qe1] [qo2] 0 [5,6] [] [qe4,qe7] [qo2] Zqc ZrC (fun _=> .nil) <|
.nil⟩
theorem Zy3:Zeg X0.E 176 D46.sig:=D46.ok G0 Tryz.func176 ⟨Zzb,Zzc,Zxo,trivial⟩ rfl rfl (by kernel_rfl)
noncomputable def D47:FD U:=⟨177,Tryz.f177,[D30.sg,D26.sg,D9.sg],[.p (.sl (.int .u32)),.p (.sl (.int .u32))],[],[.p (.sl (.int .u32))],[],[],ZoY,ZoY,
.lo 9410111 [0,1,5,6,12,13] [] [qe0,qe0,qe4,qe7,qe1,qe1] [qo2] 0 [5] [] [qe4] [qo2] Zp1 Zrk (fun _=> .nil) <|
.nil⟩
theorem ZBA:Zeg X0.E 177 D47.sig:=D47.ok G0 Tryz.func177 ⟨Zzb,Zzd,Zxo,trivial⟩ rfl rfl (by kernel_rfl)
noncomputable def D48:FD U:=⟨113,Tryz.f113,[D46.sg,D11.sg,D19.sg,D47.sg],[.p (.st 2),.p (.st 2)],[],[.p (.st 2)],[],[],Zrm,Zrm,
.nil⟩
theorem Zy2:Zeg X0.E 113 D48.sig:=D48.ok G0 Tryz.func113 ⟨Zy3,Zww,Zx9,ZBA,trivial⟩ rfl rfl (by kernel_rfl)
noncomputable def D49:FD U:=⟨62,Tryz.f62,[D42.sg,D44.sg,D45.sg,D48.sg],[.p (.st 3),.p (.st 3)],[],[.p (.int .i64)],[],[],ZsP,ZsP,
.j 9101 [2,3,13] [] [qe5,Zzw,qe6] [ZxI,ZxI] ZsA <|
.nil⟩
theorem ZBz:Zeg X0.E 62 D49.sig:=D49.ok G0 Tryz.func62 ⟨Zxa,Zx7,Zy4,Zy2,trivial⟩ rfl rfl (by kernel_rfl)
noncomputable def D50:FD U:=⟨82,Tryz.f82,[D37.sg,D49.sg],[.p (.st 3)],[],[.p (.int .i64)],[],[],Zte,Zte,
.nil⟩
theorem ZBy:Zeg X0.E 82 D50.sig:=D50.ok G0 Tryz.func82 ⟨Zxb,ZBz,trivial⟩ rfl rfl (by kernel_rfl)
noncomputable def D51:FD U:=⟨164,Tryz.f164,[],[],[],[.map (.int .i64) (.st 4)],[],[],ZtE,ZtE,
.nil⟩
theorem Zy1:Zeg X0.E 164 D51.sig:=D51.ok G0 Tryz.func164 trivial rfl rfl (by kernel_rfl)
noncomputable def D53:FD U:=⟨236,Tryz.f236,[(297,Zty.sig)],[.p .str],[],[.p .str],[],[],Zu3,Zu3,
.nil⟩
theorem ZBx:Zeg X0.E 236 D53.sig:=D53.ok G0 Tryz.func236 ⟨Zt0,trivial⟩ rfl rfl (by kernel_rfl)
noncomputable def D54:FD U:=⟨353,Tryz.f353,[],[.p .str,.p .str],[],[.p .bool],[],[],ZoC,ZoC,
.j 911 [4] [] [qe6] [] Zpc <|
.nil⟩
theorem Zy0:Zeg X0.E 353 D54.sig:=D54.ok G0 Tryz.func353 trivial rfl rfl (by kernel_rfl)
noncomputable def D55:FD U:=⟨337,Tryz.f337,[D54.sg],[.p .str,.p .str],[],[.p .str,.p .bool],[],[],ZpB,ZpB,
.nil⟩
theorem ZBw:Zeg X0.E 337 D55.sig:=D55.ok G0 Tryz.func337 ⟨Zy0,trivial⟩ rfl rfl (by kernel_rfl)
noncomputable def D56:FD U:=⟨301,Tryz.f301,[D55.sg],[.p .str,.p .str],[],[.p .str,.p .bool],[],[],ZsS,ZsS,
.nil⟩
theorem ZBv:Zeg X0.E 301 D56.sig:=D56.ok G0 Tryz.func301 ⟨ZBw,trivial⟩ rfl rfl (by kernel_rfl)
noncomputable def D57:FD U:=⟨338,Tryz.f338,[D54.sg],[.p .str,.p .str],[],[.p .str],[],[],Zpq,Zpq,
.nil⟩
theorem ZBu:Zeg X0.E 338 D57.sig:=D57.ok G0 Tryz.func338 ⟨Zy0,trivial⟩ rfl rfl (by kernel_rfl)
noncomputable def D58:FD U:=⟨302,Tryz.f302,[D57.sg],[.p .str,.p .str],[],[.p .str],[],[],ZsG,ZsG,
.nil⟩
theorem ZBt:Zeg X0.E 302 D58.sig:=D58.ok G0 Tryz.func302 ⟨ZBu,trivial⟩ rfl rfl (by kernel_rfl)
noncomputable def D60:FD U:=⟨352,Tryz.f352,[(370,ZqP.sig)],[.p .str,.p .str],[],[.p (.int .i64)],[],[],Zqp,Zqp,
.j 914011 [0,1,5,16] [] [qe9,qe9,qe1,qe6] [] ZpO <|
.nil⟩
theorem ZBs:Zeg X0.E 352 D60.sig:=D60.ok G0 Tryz.func352 ⟨ZsI,trivial⟩ rfl rfl (by kernel_rfl)
noncomputable def D61:FD U:=⟨339,Tryz.f339,[D60.sg],[.p .str,.p .str],[],[.p .str,.p .str,.p .bool],[],[],ZqS,ZqS,
.nil⟩
theorem ZBr:Zeg X0.E 339 D61.sig:=D61.ok G0 Tryz.func339 ⟨ZBs,trivial⟩ rfl rfl (by kernel_rfl)
noncomputable def D62:FD U:=⟨303,Tryz.f303,[D61.sg],[.p .str,.p .str],[],[.p .str,.p .str,.p .bool],[],[],ZtJ,ZtJ,
.nil⟩
theorem ZyZ:Zeg X0.E 303 D62.sig:=D62.ok G0 Tryz.func303 ⟨ZBr,trivial⟩ rfl rfl (by kernel_rfl)
noncomputable def D63:FD U:=⟨304,Tryz.f304,[(297,Zty.sig)],[.p .str,.p (.int .i64)],[],[.p .bool],[],[],Zsy,Zsy,
.j 911 [4] [] [qe6] [] Zrr <|
.nil⟩
theorem ZBq:Zeg X0.E 304 D63.sig:=D63.ok G0 Tryz.func304 ⟨Zt0,trivial⟩ rfl rfl (by kernel_rfl)
noncomputable def D64:FD U:=⟨241,Tryz.f241,[D56.sg,D58.sg,D62.sg,D63.sg,D20.sg,D43.sg,D10.sg,D46.sg,D11.sg,D34.sg],[.p .str],[],[.p (.st 3),.p .bool],[],[],Zqe,Zqe,
.j 9111 [2,4,5] [] [qe5,qe9,qe6] qp1 Zst <|
.j 9101111 [2,5,6,7,39] [] [qe5,qe6,qe9,qe9,qe6] qp1 Zq5 <|
.lo 941011111111 [2,5,7,9,10,11,47,48,49] [9,10] [qe5,qe6,qe9,qe0,qe0,ZBT,.o (.full (0,3,1)),qe1,qe1] [qo8,qo2,.arr (.int .u8) false,qo2,qo2] 0 [2,5,7,9,10,11] [] [qe5,qe6,qe9,qe0,qe0,ZBT] [.box [.o (.v .bool),.o (.full (0,3,1)),.o (.v .bool),.o (.full (0,4,1))],qo2,qo2,qo2] Zss Ztr (fun _=> .nil) <|
.lo 9410111111111 [2,5,9,10,11,63,64] [11] [qe5,qe6,qe0,qe0,qe0,qe1,qe1] qp1 2 [2,5,9,11] [] [qe5,qe6,qe0,qe0] qp1 Zsr Zq4 (fun _=> .nil) <|
.nil⟩
theorem ZyY:Zeg X0.E 241 D64.sig:=D64.ok G0 Tryz.func241 ⟨ZBv,ZBt,ZyZ,ZBq,Zze,Zy5,Zzg,Zy3,Zww,Zxc,trivial⟩ rfl rfl (by kernel_rfl)
noncomputable def D67:FD U:=⟨307,Tryz.f307,[],[.p (.sl .str)],[],[.p .str],[],[],ZtW,ZtW,
.lr 941011 [3,6,7,8] [] [qe9,Zxp,qe1,qe1] [] 0 [3] [] [qe9] [] Zs8 Zt3 (fun _=> .nil) <|
.nil⟩
theorem ZBp:Zeg X0.E 307 D67.sig:=D67.ok G0 Tryz.func307 trivial rfl rfl (by kernel_rfl)
noncomputable def D68:FD U:=⟨242,Tryz.f242,[D64.sg,(305,ZtC.sig),D62.sg,(306,Ztu.sig),D67.sg],[.p .str],[],[.p .str,.p .bool],[],[],Zsb,Zsb,
.j 9111111 [0,9] [] [qe9,qe9] [] Zs0 <|
.j 910111111 [9,43] [] [qe9,qe6] [] ZsZ <|
.j 91111111 [9] [] [qe9] [] ZsY <|
.nil⟩
theorem ZBo:Zeg X0.E 242 D68.sig:=D68.ok G0 Tryz.func242 ⟨ZyY,Zuq,ZyZ,Zuh,ZBp,trivial⟩ rfl rfl (by kernel_rfl)
noncomputable def D69:FD U:=⟨163,Tryz.f163,[D51.sg,D53.sg,D68.sg],[.p (.int .i64),.p .str],[],[.p .str,.p .bool],[],[(26,2)],Zrv,Zrv,
.nil⟩
theorem ZBn:Zeg X0.E 163 D69.sig:=D69.ok G0 Tryz.func163 ⟨Zy1,ZBx,ZBo,trivial⟩ rfl rfl (by kernel_rfl)
noncomputable def D70:FD U:=⟨110,Tryz.f110,[D69.sg,D51.sg,D64.sg],[.p (.int .i64),.p .str],[],[.p (.st 3),.p .bool],[],[(22,2)],ZtF,ZtF,
.nil⟩
theorem ZBm:Zeg X0.E 110 D70.sig:=D70.ok G0 Tryz.func110 ⟨ZBn,Zy1,ZyY,trivial⟩ rfl rfl (by kernel_rfl)
noncomputable def D71:FD U:=⟨60,Tryz.f60,[D37.sg,D70.sg],[.p (.st 0)],[],[.p (.st 3),.p .bool],[],[],Zpp,Zpp,
.nil⟩
theorem ZBl:Zeg X0.E 60 D71.sig:=D71.ok G0 Tryz.func60 ⟨Zxb,ZBm,trivial⟩ rfl rfl (by kernel_rfl)
noncomputable def D72:FD U:=⟨40,Tryz.f40,[D71.sg,D38.sg],[.p (.st 1)],[],[.p (.st 3)],[],[],Zs3,ZoT,
.lo 941011 [2,3,4,10,11,12] [] qs2 qp1 0 [2,3,4] [] [qe5,qe1,qe1] qp1 Zp6 Zsf (fun n0=> .j 9111541011 [2,3,4,10,11,12] [] qs2 qp1 (Zp7 (Zp6 n0)) <|
.nil) <|
.nil⟩
theorem ZyX:Zeg X0.E 40 D72.sig:=D72.ok G0 Tryz.func40 ⟨ZBl,Zx8,trivial⟩ rfl (by funext x_;exact ZsJ _) (by kernel_rfl)
noncomputable def D73:FD U:=⟨196,Tryz.f196,[D44.sg,D48.sg],[.p (.st 3),.p (.st 3)],[],[.p (.st 2),.p (.st 2)],[],[],Zs6,Zs6,
.nil⟩
theorem ZBk:Zeg X0.E 196 D73.sig:=D73.ok G0 Tryz.func196 ⟨Zx7,Zy2,trivial⟩ rfl rfl (by kernel_rfl)
noncomputable def D74:FD U:=⟨197,Tryz.f197,[D42.sg,D73.sg,D34.sg],[.fn 196 [] [],.p (.st 3),.p (.st 3)],[],[.p (.st 3),.p (.int .i64)],[],[],Zok,Zok,
.j 9101 [0,4,5,6,18] [] [.fn 196 [] [],qe5,Zzw,ZAj,qe6] [ZxI,ZxI,qo8,qo2,qo2] ZoU <|
.nil⟩
theorem ZyW:Zeg X0.E 197 D74.sig:=D74.ok G0 Tryz.func197 ⟨Zxa,ZBk,Zxc,trivial⟩ rfl rfl (by kernel_rfl)
noncomputable def D75:FD U:=⟨127,Tryz.f127,[D42.sg,D45.sg,D74.sg],[.p (.st 3),.p (.st 3)],[],[.p (.st 3),.p (.int .i64)],[],[],ZsN,ZsN,
.nil⟩
theorem ZBj:Zeg X0.E 127 D75.sig:=D75.ok G0 Tryz.func127 ⟨Zxa,Zy4,ZyW,trivial⟩ rfl rfl (by kernel_rfl)
noncomputable def D76:FD U:=⟨126,Tryz.f126,[],[.p (.st 3),.p (.int .i64)],[],[.p (.st 3)],[],[],Zsg,Zsg,
.nil⟩
theorem Zx6:Zeg X0.E 126 D76.sig:=D76.ok G0 Tryz.func126 trivial rfl rfl (by kernel_rfl)
noncomputable def D77:FD U:=⟨83,Tryz.f83,[D75.sg,D76.sg],[.p (.st 3),.p (.st 3)],[],[.p (.st 3)],[],[],ZtR,ZtR,
.nil⟩
theorem ZBi:Zeg X0.E 83 D77.sig:=D77.ok G0 Tryz.func83 ⟨ZBj,Zx6,trivial⟩ rfl rfl (by kernel_rfl)
noncomputable def D78:FD U:=⟨128,Tryz.f128,[D74.sg],[.p (.st 3),.p (.st 3)],[],[.p (.st 3),.p (.int .i64)],[],[],ZrX,ZrX,
.nil⟩
theorem ZBh:Zeg X0.E 128 D78.sig:=D78.ok G0 Tryz.func128 ⟨ZyW,trivial⟩ rfl rfl (by kernel_rfl)
noncomputable def D79:FD U:=⟨84,Tryz.f84,[D78.sg,D76.sg],[.p (.st 3),.p (.st 3)],[],[.p (.st 3)],[],[],ZtS,ZtS,
.nil⟩
theorem ZBg:Zeg X0.E 84 D79.sig:=D79.ok G0 Tryz.func84 ⟨ZBh,Zx6,trivial⟩ rfl rfl (by kernel_rfl)
noncomputable def D80:FD U:=⟨198,Tryz.f198,[D44.sg],[.p (.st 3),.p (.st 3)],[],[.p (.st 2),.p (.st 2)],[],[],Zs7,Zs7,
.nil⟩
theorem ZBf:Zeg X0.E 198 D80.sig:=D80.ok G0 Tryz.func198 ⟨Zx7,trivial⟩ rfl rfl (by kernel_rfl)
noncomputable def D81:FD U:=⟨197,Tryz.f197,[D42.sg,D80.sg,D34.sg],[.fn 198 [] [],.p (.st 3),.p (.st 3)],[],[.p (.st 3),.p (.int .i64)],[],[],Zpb,Zpb,
.j 9101 [0,4,5,6,18] [] [.fn 198 [] [],qe5,Zzw,ZAj,qe6] [ZxI,ZxI,qo8,qo2,qo2] ZoD <|
.nil⟩
theorem ZBe:Zeg X0.E 197 D81.sig:=D81.ok G0 Tryz.func197 ⟨Zxa,ZBf,Zxc,trivial⟩ rfl rfl (by kernel_rfl)
noncomputable def D82:FD U:=⟨129,Tryz.f129,[D81.sg],[.p (.st 3),.p (.st 3)],[],[.p (.st 3),.p (.int .i64)],[],[],ZsO,ZsO,
.nil⟩
theorem ZBd:Zeg X0.E 129 D82.sig:=D82.ok G0 Tryz.func129 ⟨ZBe,trivial⟩ rfl rfl (by kernel_rfl)
noncomputable def D83:FD U:=⟨85,Tryz.f85,[D82.sg,D76.sg],[.p (.st 3),.p (.st 3)],[],[.p (.st 3)],[],[],ZuF,ZuF,
.nil⟩
theorem ZBc:Zeg X0.E 85 D83.sig:=D83.ok G0 Tryz.func85 ⟨ZBd,Zx6,trivial⟩ rfl rfl (by kernel_rfl)
noncomputable def D84:FD U:=⟨42,Tryz.f42,[D40.sg,D41.sg,D50.sg,D37.sg,D72.sg,D77.sg,D79.sg,D38.sg,D83.sg],[.p (.st 1),.p (.st 1)],[],[.p (.st 3)],[],[],Zrz,Zrz,
.j 91011 [2,3,4,5,6,24] [] [qe5,Zzw,ZAj,.o (.ptr (0,4,1) 0 0),.o (.ptr (0,5,1) 0 0),qe6] [.boxS (.st 1),.boxS (.st 1),.box [.o (.v .bool),.o (.full (0,6,1)),.o (.v .bool),.o (.full (0,7,1))],ZxI,ZxI,qo2,qo2] Zqa <|
.j 911111 [4,5,6,7] [] [qe5,Zzw,ZAj,.o (.ptr (0,4,1) 0 0)] [.box [.o (.v .bool),.o (.full (0,5,1)),.o (.v .bool),.o (.full (0,6,1))],ZxI,ZxI,ZxI,qo2,qo2] Zq0 <|
.nil⟩
theorem ZBb:Zeg X0.E 42 D84.sig:=D84.ok G0 Tryz.func42 ⟨ZBB,Zy6,ZBy,Zxb,ZyX,ZBi,ZBg,Zx8,ZBc,trivial⟩ rfl rfl (by kernel_rfl)
noncomputable def D85:FD U:=⟨201,Tryz.f201,[],[.p (.sl (.int .u32))],[],[.p (.sl (.int .u32))],[],[],ZnO,ZnO,
.lo 9401 [0] [] [qe0] [] 0 [0] [] [qe0] [] Zn3 ZsC (fun n0=> .j 9105401 [0,14] [] [qe0,qe6] [] (ZqQ (Zn3 n0)) <|
.nil) <|
.nil⟩
theorem Zwv:Zeg X0.E 201 D85.sig:=D85.ok G0 Tryz.func201 trivial rfl rfl (by kernel_rfl)
noncomputable def D86:FD U:=⟨135,Tryz.f135,[D85.sg],[.p .bool,.p (.sl (.int .u32))],[],[.p (.st 2)],[],[],Zob,Zob,
.j 9111 [4] [] [qe5] [Zzv] ZpY <|
.nil⟩
theorem ZyV:Zeg X0.E 135 D86.sig:=D86.ok G0 Tryz.func135 ⟨Zwv,trivial⟩ rfl rfl (by kernel_rfl)
noncomputable def D87:FD U:=⟨140,Tryz.f140,[D86.sg],[.p (.int .i64)],[],[.p (.st 2)],[],[],Zn4,Zn4,
.j 9111 [0,2,3] [] [qe1,qe5,Zw1] [qo17,qo2] Zo8 <|
.nil⟩
theorem ZyU:Zeg X0.E 140 D87.sig:=D87.ok G0 Tryz.func140 ⟨ZyV,trivial⟩ rfl rfl (by kernel_rfl)
noncomputable def D88:FD U:=⟨132,Tryz.f132,[],[.p (.st 2)],[],[.p .bool],[],[],ZoH,ZoH,
.j 9111 [2] [] [qe6] [] ZnP <|
.nil⟩
theorem ZBa:Zeg X0.E 132 D88.sig:=D88.ok G0 Tryz.func132 trivial rfl rfl (by kernel_rfl)
noncomputable def D89:FD U:=⟨199,Tryz.f199,[D85.sg],[.p (.sl (.int .u32))],[],[.p (.sl (.int .u32))],[],[],Zn7,Zn7,
.lo 941011 [0,3,9,10] [] [qe0,qe4,qe1,qe1] [qo2] 0 [3] [] [qe4] [qo2] ZoQ ZqR (fun n0=> .j 9111541011 [0,3,9,10] [] [qe0,qe4,qe1,qe1] [qo2] (ZoR (ZoQ n0)) <|
.nil) <|
.nil⟩
theorem ZA9:Zeg X0.E 199 D89.sig:=D89.ok G0 Tryz.func199 ⟨Zwv,trivial⟩ rfl rfl (by kernel_rfl)
noncomputable def D90:FD U:=⟨133,Tryz.f133,[],[.p (.sl (.int .u32)),.p (.sl (.int .u32))],[],[.p (.int .i64)],[],[],ZoX,ZoX,
.lr 941011 [0,1,5] [] qs0 [] 0 [] [] [] [] ZpX Zrg (fun _=> .nil) <|
.nil⟩
theorem ZyT:Zeg X0.E 133 D90.sig:=D90.ok G0 Tryz.func133 trivial rfl rfl (by kernel_rfl)
noncomputable def D91:FD U:=⟨137,Tryz.f137,[D85.sg],[.p (.sl (.int .u32)),.p (.sl (.int .u32))],[],[.p (.sl (.int .u32))],[],[],ZoV,ZoV,
.lo 9410111 [0,1,5,6,7] [] [qe0,qe0,qe4,qe1,qe1] [qo2] 0 [5] [] [qe4] [qo2] ZoZ Zq9 (fun n0=> .j 9114015410111 [0,1,5,6,7] [] [qe0,qe0,qe4,qe1,qe1] [qo2] (Zo0 (ZoZ n0)) <|
.nil) <|
.nil⟩
theorem ZyS:Zeg X0.E 137 D91.sig:=D91.ok G0 Tryz.func137 ⟨Zwv,trivial⟩ rfl rfl (by kernel_rfl)
noncomputable def D92:FD U:=⟨200,Tryz.f200,[D85.sg],[.p (.sl (.int .u32)),.p (.int .u32)],[],[.p (.sl (.int .u32))],[],[],ZoA,ZoA,
.lo 941011 [0,1,5,6] [] [qe0,qe7,qe4,qe1] [qo2] 0 [1,5] [] [qe7,qe4] [qo2] Zpk Zqu (fun _=> .nil) <|
.nil⟩
theorem ZyR:Zeg X0.E 200 D92.sig:=D92.ok G0 Tryz.func200 ⟨Zwv,trivial⟩ rfl rfl (by kernel_rfl)
noncomputable def D93:FD U:=⟨134,Tryz.f134,[D89.sg,D90.sg,D91.sg,D92.sg],[.p (.sl (.int .u32)),.p (.sl (.int .u32))],[],[.p (.sl (.int .u32))],[],[],ZpI,ZpI,
.lo 94011 [0,1,5] [] qs0 [] 0 [0,1,5] [] qs0 [] Zot Zre (fun n0=> .j 91054011 [0,1,5,17] [] [qe0,qe0,qe1,qe6] [] (ZpW (Zot n0)) <|
.nil) <|
.lo 940111 [0,1,5] [] qs0 [] 2 [0,5] [] [qe0,qe1] [] ZnL Zrb (fun n0=> .lo 94041540111 [0,1,5] [] qs0 [] 4 [0,1,5] [] qs0 [] ZnV (Zrd (ZnL n0)) (fun _=> .nil) <|
.lo 940141540111 [0,1,5] [] qs0 [] 6 [0,1,5] [] qs0 [] ZnU (Zrc (ZnL n0)) (fun _=> .nil) <|
.j 911141540111 [0,1,5] [] qs0 [] (ZpV (ZnL n0)) <|
.nil) <|
.lo 9401111 [0,5] [] [qe0,qe1] [] 8 [0] [] [qe0] [] Zos Zra (fun _=> .nil) <|
.nil⟩
theorem ZA8:Zeg X0.E 134 D93.sig:=D93.ok G0 Tryz.func134 ⟨ZA9,ZyT,ZyS,ZyR,trivial⟩ rfl rfl (by kernel_rfl)
noncomputable def D94:FD U:=⟨315,Tryz.f315,[],[.p (.sl (.int .u32)),.p (.int .i64)],[],[.p (.int .u32)],[],[],ZpJ,ZpJ,
.nil⟩
theorem ZA7:Zeg X0.E 315 D94.sig:=D94.ok G0 Tryz.func315 trivial rfl rfl (by kernel_rfl)
noncomputable def D95:FD U:=⟨262,Tryz.f262,[D94.sg,D92.sg,D90.sg,D91.sg,D85.sg],[.p (.sl (.int .u32)),.p (.sl (.int .u32))],[],[.p (.sl (.int .u32)),.p (.sl (.int .u32))],[],[],ZoW,ZoW,
.lo 941011 [0,1,4,5,6] [5] [qe0,qe0,qe4,qe0,qe1] [qo2] 0 [4,5] [] [qe4,qe0] [qo2] Zo2 Zrf (fun n0=> .j 911541011 [0,1,4,5,6] [] [qe0,qe0,qe4,qe0,qe1] [qo2] (Zo3 (Zo2 n0)) <|
.nil) <|
.nil⟩
theorem ZA6:Zeg X0.E 262 D95.sig:=D95.ok G0 Tryz.func262 ⟨ZA7,ZyR,ZyT,ZyS,Zwv,trivial⟩ rfl rfl (by kernel_rfl)
noncomputable def D96:FD U:=⟨202,Tryz.f202,[D87.sg,D93.sg,D95.sg,D86.sg],[.p (.st 2),.p (.st 2)],[],[.p (.st 3)],[],[],Zo1,Zo1,
.nil⟩
theorem ZA5:Zeg X0.E 202 D96.sig:=D96.ok G0 Tryz.func202 ⟨ZyU,ZA8,ZA6,ZyV,trivial⟩ rfl rfl (by kernel_rfl)
noncomputable def D97:FD U:=⟨139,Tryz.f139,[D88.sg,D96.sg],[.p (.st 2),.p (.st 2)],[],[.p (.st 3),.p (.int .i64)],[],[],Zpo,Zpo,
.j 9101 [2,3,4,13] [] [qe5,Zzw,ZAj,qe6] [Zzv,Zzv,qo8,qo2,qo2] ZpD <|
.nil⟩
theorem ZA4:Zeg X0.E 139 D97.sig:=D97.ok G0 Tryz.func139 ⟨ZBa,ZA5,trivial⟩ rfl rfl (by kernel_rfl)
noncomputable def D98:FD U:=⟨92,Tryz.f92,[D87.sg,D97.sg],[.p (.int .i64),.p (.int .i64)],[],[.p (.st 3),.p (.int .i64)],[],[],Zp2,Zp2,
.nil⟩
theorem ZA3:Zeg X0.E 92 D98.sig:=D98.ok G0 Tryz.func92 ⟨ZyU,ZA4,trivial⟩ rfl rfl (by kernel_rfl)
noncomputable def D99:FD U:=⟨48,Tryz.f48,[D98.sg],[.p (.int .i64),.p (.int .i64)],[],[.p (.st 3)],[],[],ZrL,Zor,
.nil⟩
theorem ZyQ:Zeg X0.E 48 D99.sig:=D99.ok G0 Tryz.func48 ⟨ZA3,trivial⟩ rfl (by funext x_;funext x_;exact ZsJ _) (by kernel_rfl)
noncomputable def ZBY:FD U:=⟨47,Tryz.f47,[D99.sg],[.p (.int .i64)],[],[.p (.st 3)],[],[],ZrZ,Zoz,
.nil⟩
theorem Zyc:Zeg X0.E 47 ZBY.sig:=ZBY.ok G0 Tryz.func47 ⟨ZyQ,trivial⟩ rfl (by funext x_;exact ZsJ _) (by kernel_rfl)
noncomputable def ZCv:FD U:=⟨66,Tryz.f66,[],[.p (.st 2),.p (.st 2)],[],[.p .bool],[],[],Zom,Zom,
.j 9101 [2,3,20] [] [qe5,Zzw,qe6] [Zzv,Zzv] Zo6 <|
.lr 941011 [3,22,23,24] [] [qe5,qe0,qe1,qe1] [Zzv] 0 [] [] [] [] Zo5 Zqf (fun _=> .nil) <|
.nil⟩
theorem Zz5:Zeg X0.E 66 ZCv.sig:=ZCv.ok G0 Tryz.func66 trivial rfl rfl (by kernel_rfl)
noncomputable def ZBX:FD U:=⟨28,Tryz.f28,[ZCv.sg],[.p (.st 3),.p (.st 3)],[],[.p .bool],[],[],Zoo,Zoo,
.j 911 [4] [] [qe6] [] ZpC <|
.nil⟩
theorem Zyb:Zeg X0.E 28 ZBX.sig:=ZBX.ok G0 Tryz.func28 ⟨Zz5,trivial⟩ rfl rfl (by kernel_rfl)
noncomputable def ZCu:FD U:=⟨31,Tryz.f31,[(34,Zru.sig),D2.sg,D84.sg,ZBY.sg,ZBX.sg,D72.sg,D99.sg],[],[],[.p .bool],[],[],ZoB,ZoB,
.j 9111 [0] [] [qe6] [] ZoI <|
.nil⟩
theorem Zz4:Zeg X0.E 31 ZCu.sig:=ZCu.ok G0 Tryz.func31 ⟨ZrR,ZBE,ZBb,Zyc,Zyb,ZyX,ZyQ,trivial⟩ rfl rfl (by kernel_rfl)
noncomputable def ZCt:FD U:=⟨13,Tryz.f13,[],[.p (.sl (.int .i64))],[],[.box (.st 5)],[],[],ZqZ,ZqZ,
.nil⟩
theorem Zz3:Zeg X0.E 13 ZCt.sig:=ZCt.ok G0 Tryz.func13 trivial rfl rfl (by kernel_rfl)
noncomputable def ZCs:FD U:=⟨16,Tryz.f16,[],[.p (.int .i64),.p (.int .i64)],[],[.p (.int .i64)],[],[],Zqk,Zqk,
.nil⟩
theorem Zz2:Zeg X0.E 16 ZCs.sig:=ZCs.ok G0 Tryz.func16 trivial rfl rfl (by kernel_rfl)
noncomputable def ZBW:FD U:=⟨14,Tryz.f14,[ZCs.sg],[.box (.st 5),.p (.int .i64)],[(0,.box (.st 5))],[.p (.int .i64)],[],[],Zn5,Zn5,
.nil⟩
theorem Zya:Zeg X0.E 14 ZBW.sig:=ZBW.ok G0 Tryz.func14 ⟨Zz2,trivial⟩ rfl rfl (by kernel_rfl)
noncomputable def ZCr:FD U:=⟨32,Tryz.f32,[ZBW.sg],[.box (.st 5),.p (.sl .str)],[(0,.box (.st 5))],[.p .str],[],[],Zon,Zon,
.nil⟩
theorem Zz1:Zeg X0.E 32 ZCr.sig:=ZCr.ok G0 Tryz.func32 ⟨Zya,trivial⟩ rfl rfl (by kernel_rfl)
noncomputable def D108:FD U:=⟨8,Tryz.f8,[D0.sg,ZCu.sg,ZCt.sg,ZBW.sg,ZCr.sg,(34,Zru.sig),D2.sg,D41.sg,ZBY.sg,ZBX.sg],[.p (.sl (.int .i64))],[],[.p .bool],[],[],Zoq,Zoq,
.lo 94101111 [3,4,5,18,19] [] [qe5,qe9,qe9,qe1,qe1] [.boxS (.st 5)] 0 [4,5] [] [qe9,qe9] [] Zoe Zog (fun _=> .nil) <|
.lr 94101111111 [4,5,7,52,53,54] [] [qe9,qe9,Zxp,Zxp,qe1,qe1] [] 2 [4,5,7] [] [qe9,qe9,Zxp] [] ZnR Zof (fun _=> .nil) <|
.j 9111111111 [2] [] [qe6] [] Zoh <|
.nil⟩
theorem D108_ok:Zeg X0.E 8 D108.sig:=D108.ok G0 Tryz.func8 ⟨ZCw,Zz4,Zz3,Zya,Zz1,ZrR,ZBE,Zy6,Zyc,Zyb,trivial⟩ rfl rfl (by kernel_rfl)
end
end Go.Proofs

/- Printed by wip/tools/tgen.py: walks. -/
import Derived.Test.YthefajbigloihaaGreatDoorSmU
import Derived.Test.YthefajbigloihaaGreatDoorSmX
set_option linter.unusedVariables false
set_option linter.unusedSimpArgs false
set_option linter.unusedSectionVars false
namespace Go.Proofs
open Go Eng
set_option maxRecDepth 100000
noncomputable section
abbrev qe0:Sh:= .o (.v (.int .i64))
abbrev qe1:Sh:= .o (.v (.sl (.int .u32)))
abbrev qo2:ShO:= .arr (.int .u32) false
abbrev qe3:Sh:= .o (.v .bool)
abbrev qo4:ShO:= .arr (.st 4) false
abbrev qe5:Sh:= .o (.ptr (0,1,1) 0 0)
abbrev qe6:Sh:= .o (.full (0,0,0))
abbrev qe7:Sh:= .o (.full (0,1,1))
abbrev qe8:Sh:= .o (.v .str)
abbrev qe9:Sh:= .fn 102 [] []
abbrev ZBz:Sh:= .o (.v (.int .u64))
abbrev ZIM:ShO:= .box [.o (.v .bool),.o (.full (0,4,1)),.o (.v .bool),.o (.full (0,5,1))]
abbrev qo12:ShO:= .box [.o (.v .bool),.o (.full (0,2,1)),.o (.v .bool),.o (.full (0,3,1))]
abbrev ZDh:Sh:= .o (.ptr (0,2,1) 0 0)
abbrev ZD4:Sh:= .o (.ptr (0,3,1) 0 0)
abbrev ZC7:Sh:= .o (.v (.int .u32))
abbrev ZEn:Sh:= .o (.full (0,2,1))
abbrev qo17:ShO:= .box [.o (.v (.int .i64)),.o (.v .bool),.o (.full (0,4,1))]
abbrev ZKU:ShO:= .box [.o (.v .bool),.o (.full (0,5,1)),.o (.v .bool),.o (.full (0,6,1))]
abbrev ZD3:ShO:= .boxS (.st 2)
abbrev ZEP:ShO:= .boxS (.st 1)
abbrev ZFT:Sh:= .o (.v (.sl (.st 4)))
abbrev ZFG:Sh:= .o (.sl (0,0,0))
abbrev qo23:ShO:= .box [.o (.v .bool),.o (.full (0,3,1)),.o (.v .bool),.o (.full (0,4,1))]
abbrev ZHj:Sh:= .o (.v (.sl (.st 0)))
abbrev ZHi:Sh:= .o (.full (0,3,1))
abbrev ZIw:ShO:= .arr (.int .u8) false
abbrev ZKT:ShO:= .box [.o (.v .str),.o (.full (0,4,1))]
abbrev ZFS:ShO:= .boxS (.st 3)
abbrev ZIv:ShO:= .arr (.st 0) false
abbrev ZGw:ShO:= .boxS (.st 5)
abbrev qo31:ShO:= .box [.o (.v .bool),.o (.full (0,2,1))]
abbrev ZKu:ShO:= .map .str (.int .i64)
abbrev qo33:ShO:= .box [.o (.v .str),.o (.full (0,3,1))]
abbrev ZIu:ShO:= .boxS (.st 4)
abbrev ZKv:Sh:= .o (.map (0,2,1))
abbrev ZKS:ShO:= .arr (.st 8) false
abbrev ZKV:Sh:= .o (.ptr (0,4,1) 0 0)
abbrev qs0:List Sh:=[qe6,qe0,qe9,qe0,qe0]
abbrev qs1:List Sh:=[qe6,qe0,qe0,qe9,qe0,qe0]
abbrev qs2:List Sh:=[qe6,qe0,qe9,qe0,qe0,qe3]
abbrev qs3:List Sh:=[qe1,qe1,qe0]
abbrev qs4:List Sh:=[qe6,qe0,qe0,qe9,qe0,qe0,qe3]
abbrev qs5:List Sh:=[qe0,qe5,ZDh,ZD4,qe3]
abbrev qs6:List Sh:=[qe6,qe0,qe0,qe0,qe9,qe3,qe3,qe0,qe0,qe3]
abbrev qp7:List ShO:=[qo12,qo2,qo2]
abbrev qp8:List ShO:=[ZEP,ZEP,qo17,qo4]
abbrev qs9:List Sh:=[qe8,qe3]
abbrev qp10:List ShO:=[.boxS (.st 8),ZKS,.arr (.int .i64) false]
abbrev ZKR:List ShO:=[ZIM,ZD3,ZD3,qo2,qo2]
abbrev ZKt:List Sh:=[qe3,qe8,qe8,qe3]
abbrev ZKQ:List Sh:=[qe1,qe1,qe7,ZBz,qe0]
abbrev ZKP:List Sh:=[qe0,qe0,qe0,qe0,qe0]
abbrev ZIL:List Sh:=[qe3,qe8,qe8]
abbrev ZKO:List Sh:=[qe6,qe0,qe0,qe9,qe0]
noncomputable def D0:FD U:=⟨11,Tryz.f11,[],[.p (.sl (.int .i64))],[],[.p .bool],[],[],Zvn,Zvn,
.nil⟩
theorem ZLM:Zeg X0.E 11 D0.sig:=D0.ok G0 Tryz.func11 trivial rfl rfl (by kernel_rfl)
noncomputable def D1:FD U:=⟨252,Tryz.f252,[],[.p (.sl (.int .u32))],[],[.p (.sl (.int .u32))],[],[],ZoD,ZoD,
.lo 9401 [0] [] [qe1] [] 0 [0] [] [qe1] [] Zqm ZxS (fun n0=> .j 9105401 [0,14] [] [qe1,qe3] [] (ZvM (Zqm n0)) <|
.nil) <|
.nil⟩
theorem ZEC:Zeg X0.E 252 D1.sig:=D1.ok G0 Tryz.func252 trivial rfl rfl (by kernel_rfl)
noncomputable def D2:FD U:=⟨255,Tryz.f255,[D1.sg],[.p (.int .u64)],[],[.p (.sl (.int .u32))],[],[],Zti,Zti,
.nil⟩
theorem ZKe:Zeg X0.E 255 D2.sig:=D2.ok G0 Tryz.func255 ⟨ZEC,trivial⟩ rfl rfl (by kernel_rfl)
noncomputable def D3:FD U:=⟨175,Tryz.f175,[],[.p .bool,.p (.sl (.int .u32))],[],[.p (.st 2)],[],[],ZoW,ZoW,
.j 911 [4] [] [qe5] [qo31,qo2] Zwn <|
.nil⟩
theorem ZFt:Zeg X0.E 175 D3.sig:=D3.ok G0 Tryz.func175 trivial rfl rfl (by kernel_rfl)
noncomputable def D4:FD U:=⟨180,Tryz.f180,[D2.sg,D3.sg],[.p (.int .i64)],[],[.p (.st 2)],[],[],Zui,Zui,
.nil⟩
theorem ZLf:Zeg X0.E 180 D4.sig:=D4.ok G0 Tryz.func180 ⟨ZKe,ZFt,trivial⟩ rfl rfl (by kernel_rfl)
noncomputable def D5:FD U:=⟨218,Tryz.f218,[],[.p (.st 2)],[],[.p .bool],[],[],ZtS,ZtS,
.j 9111 [2] [] [qe3] [] ZpV <|
.nil⟩
theorem ZLe:Zeg X0.E 218 D5.sig:=D5.ok G0 Tryz.func218 trivial rfl rfl (by kernel_rfl)
noncomputable def D6:FD U:=⟨154,Tryz.f154,[D5.sg],[.p (.sl (.st 2))],[],[.p .bool],[],[],ZwE,ZwE,
.lr 94101 [5,6,7] [] [.o (.v (.sl (.st 2))),qe0,qe0] [] 0 [] [] [] [] ZxB ZAi (fun _=> .nil) <|
.nil⟩
theorem ZJN:Zeg X0.E 154 D6.sig:=D6.ok G0 Tryz.func154 ⟨ZLe,trivial⟩ rfl rfl (by kernel_rfl)
noncomputable def D7:FD U:=⟨287,Tryz.f287,[],[.p (.int .i64)],[],[.p .bool],[],[],ZxZ,ZxZ,
.nil⟩
theorem ZLd:Zeg X0.E 287 D7.sig:=D7.ok G0 Tryz.func287 trivial rfl rfl (by kernel_rfl)
noncomputable def D8:FD U:=⟨220,Tryz.f220,[D7.sg],[.p (.int .i64),.p (.int .i64)],[],[.p (.int .i64)],[],[],ZwF,ZwF,
.nil⟩
theorem ZLc:Zeg X0.E 220 D8.sig:=D8.ok G0 Tryz.func220 ⟨ZLd,trivial⟩ rfl rfl (by kernel_rfl)
noncomputable def D9:FD U:=⟨288,Tryz.f288,[],[.p (.int .u32)],[],[.p .bool],[],[],ZxC,ZxC,
.nil⟩
theorem ZLb:Zeg X0.E 288 D9.sig:=D9.ok G0 Tryz.func288 trivial rfl rfl (by kernel_rfl)
noncomputable def D10:FD U:=⟨221,Tryz.f221,[D9.sg],[.p (.int .u32),.p (.int .u32)],[],[.p (.int .i64)],[],[],Zwq,Zwq,
.nil⟩
theorem ZKq:Zeg X0.E 221 D10.sig:=D10.ok G0 Tryz.func221 ⟨ZLb,trivial⟩ rfl rfl (by kernel_rfl)
noncomputable def D11:FD U:=⟨156,Tryz.f156,[D8.sg,D10.sg],[.p (.sl (.int .u32)),.p (.sl (.int .u32))],[],[.p (.int .i64)],[],[],Zpr,Zpr,
.lr 941011 [0,1,6] [] qs3 [] 0 [] [] [] [] Ztf Zvj (fun _=> .nil) <|
.nil⟩
theorem ZFB:Zeg X0.E 156 D11.sig:=D11.ok G0 Tryz.func156 ⟨ZLc,ZKq,trivial⟩ rfl rfl (by kernel_rfl)
noncomputable def D12:FD U:=⟨282,Tryz.f282,[],[.p (.sl (.int .u32))],[],[.own (.int .u32)],[],[],Zpi,Zpi,
.j 9101 [0,4] [] [qe1,qe3] [] ZnN <|
.nil⟩
theorem ZG3:Zeg X0.E 282 D12.sig:=D12.ok G0 Tryz.func282 trivial rfl rfl (by kernel_rfl)
noncomputable def D13:FD U:=⟨325,Tryz.f325,[],[.p (.int .u32),.p (.int .u32),.p (.int .u32)],[],[.p (.int .u32),.p (.int .u32)],[],[],ZwA,ZwA,
.j 9101 [0,1,2,15] [] [ZC7,ZC7,ZC7,qe3] [] Zuv <|
.nil⟩
theorem ZKo:Zeg X0.E 325 D13.sig:=D13.ok G0 Tryz.func325 trivial rfl rfl (by kernel_rfl)
noncomputable def D14:FD U:=⟨283,Tryz.f283,[D13.sg,D1.sg],[.p (.sl (.int .u32)),.p (.int .u32)],[],[.p (.sl (.int .u32)),.p (.int .u32)],[],[],ZtH,ZtH,
.lo 9410111 [0,1,6,7,8] [] [qe1,ZC7,qe7,ZC7,qe0] [qo2] 0 [6,7] [] [qe7,ZC7] [qo2] Zua Zwf (fun _=> .nil) <|
.nil⟩
theorem ZKn:Zeg X0.E 283 D14.sig:=D14.ok G0 Tryz.func283 ⟨ZKo,ZEC,trivial⟩ rfl rfl (by kernel_rfl)
noncomputable def D15:FD U:=⟨173,Tryz.f173,[],[.p (.int .u32)],[],[.p (.int .i64)],[],[],Zwz,Zwz,
.j 911 [0,2] [] [ZC7,qe0] [] Zwl <|
.j 9111 [0,2] [] [ZC7,qe0] [] Ztk <|
.nil⟩
theorem ZKm:Zeg X0.E 173 D15.sig:=D15.ok G0 Tryz.func173 trivial rfl rfl (by kernel_rfl)
noncomputable def D16:FD U:=⟨284,Tryz.f284,[D15.sg],[.p (.int .u32)],[],[.p (.int .i64)],[],[],ZrC,ZrC,
.nil⟩
theorem ZKl:Zeg X0.E 284 D16.sig:=D16.ok G0 Tryz.func284 ⟨ZKm,trivial⟩ rfl rfl (by kernel_rfl)
noncomputable def D17:FD U:=⟨285,Tryz.f285,[],[.p (.sl (.int .u32)),.p (.int .i64)],[],[.own (.int .u32)],[],[],Zp6,Zp6,
.lo 941011 [1,5,13,14,15] [] [qe0,qe7,qe1,qe0,qe0] [qo2] 0 [5] [] [qe7] [qo2] Ztd Zvh (fun _=> .nil) <|
.nil⟩
theorem ZKk:Zeg X0.E 285 D17.sig:=D17.ok G0 Tryz.func285 trivial rfl rfl (by kernel_rfl)
noncomputable def D18:FD U:=⟨253,Tryz.f253,[],[.p (.int .u32),.p (.int .u32),.p (.int .u32)],[],[.p (.int .u32),.p (.int .u32)],[],[],ZtP,ZtP,
.nil⟩
theorem ZG2:Zeg X0.E 253 D18.sig:=D18.ok G0 Tryz.func253 trivial rfl rfl (by kernel_rfl)
noncomputable def D19:FD U:=⟨250,Tryz.f250,[],[.p (.int .u32),.p (.int .u32),.p (.int .u32)],[],[.p (.int .u32),.p (.int .u32)],[],[],ZuW,ZuW,
.nil⟩
theorem ZG1:Zeg X0.E 250 D19.sig:=D19.ok G0 Tryz.func250 trivial rfl rfl (by kernel_rfl)
noncomputable def D20:FD U:=⟨286,Tryz.f286,[D18.sg,D19.sg],[.part (.int .u32),.p (.sl (.int .u32))],[(0,.arr (.int .u32))],[.p (.int .u32)],[],[],ZyA,ZxA,
.lo 94011111 [0,1,5,7,8] [] [ZFG,qe1,qe0,ZBz,ZBz] [qo2] 0 [0,1,5,7] [] [ZFG,qe1,qe0,ZBz] [qo2] ZtQ ZwR (fun n0=> .j 91054011111 [0,1,5,7,8,71] [] [ZFG,qe1,qe0,ZBz,ZBz,qe3] [qo2] (Zvl (ZtQ n0)) <|
.nil) <|
.lo 941011111111 [0,1,5,7,9,10,82,83,84] [] [ZFG,qe1,qe0,ZBz,ZC7,ZBz,qe1,qe0,qe0] [qo2] 2 [0,1,5,7,9,10] [] [ZFG,qe1,qe0,ZBz,ZC7,ZBz] [qo2] ZwP ZyD (fun _=> .nil) <|
.lo 941011111111111 [0,5,7,13,130,131,132] [] [ZFG,qe0,ZBz,ZC7,qe1,qe0,qe0] [qo2] 4 [0,5,7,13] [] [ZFG,qe0,ZBz,ZC7] [qo2] Zvk ZwQ (fun _=> .nil) <|
.nil⟩
theorem ZKj:Zeg X0.E 286 D20.sig:=D20.okA G0 Tryz.func286 ⟨ZG2,ZG1,trivial⟩ (by kernel_rfl) (by kernel_rfl)
noncomputable def D21:FD U:=⟨252,Tryz.f252,[],[.part (.int .u32)],[(0,.arr (.int .u32))],[.view 0],[],[],Zwm,Zvo,
.lo 9401 [0] [] [ZFG] [qo2] 0 [0] [] [ZFG] [qo2] Ztg ZwO (fun n0=> .j 9105401 [0,14] [] [ZFG,qe3] [qo2] (ZuN (Ztg n0)) <|
.nil) <|
.nil⟩
theorem ZKi:Zeg X0.E 252 D21.sig:=D21.okA G0 Tryz.func252 trivial (by kernel_rfl) (by kernel_rfl)
noncomputable def D22:FD U:=⟨251,Tryz.f251,[],[.p (.sl (.int .u32)),.p (.int .i64)],[],[.p (.int .u32)],[],[],Zsn,Zsn,
.nil⟩
theorem ZG0:Zeg X0.E 251 D22.sig:=D22.ok G0 Tryz.func251 trivial rfl rfl (by kernel_rfl)
noncomputable def D23:FD U:=⟨251,Tryz.f251,[],[.part (.int .u32),.p (.int .i64)],[(0,.arr (.int .u32))],[.p (.int .u32)],[],[],ZxR,ZuL,
.nil⟩
theorem ZKh:Zeg X0.E 251 D23.sig:=D23.okA G0 Tryz.func251 trivial (by kernel_rfl) (by kernel_rfl)
noncomputable def D24:FD U:=⟨219,Tryz.f219,[D11.sg,D12.sg,D14.sg,D1.sg,D16.sg,D17.sg,D20.sg,D21.sg,D23.sg],[.p (.sl (.int .u32)),.p (.sl (.int .u32))],[],[.p (.sl (.int .u32)),.p (.sl (.int .u32))],[],[(84,7)],Zrd,Zrd,
.lo 9410111111 [8,9,10,11,12,13] [11] [qe0,qe0,qe7,qe1,ZEn,qe0] [qo2,qo2] 1 [8,9,10,12] [] [qe0,qe0,qe7,ZEn] [qo2,qo2] Zsz ZwD (fun _=> .nil) <|
.lo 941011111111 [9,12,14,86,87] [] [qe0,qe7,.o (.sl (0,2,1)),qe0,qe0] [qo2,qo2] 3 [12,14] [] [qe7,.o (.sl (0,2,1))] [qo2,qo2] Zsy ZwC (fun _=> .nil) <|
.nil⟩
theorem ZGZ:Zeg X0.E 219 D24.sig:=D24.ok G0 Tryz.func219 ⟨ZFB,ZG3,ZKn,ZEC,ZKl,ZKk,ZKj,ZKi,ZKh,trivial⟩ rfl rfl (by kernel_rfl)
noncomputable def D25:FD U:=⟨155,Tryz.f155,[D24.sg],[.p (.sl (.int .u32)),.p (.sl (.int .u32))],[],[.p (.sl (.int .u32))],[],[],Zrr,Zrr,
.lo 9401 [0,1] [] [qe1,qe1] [] 0 [0] [] [qe1] [] ZpD ZvI (fun _=> .nil) <|
.nil⟩
theorem ZGY:Zeg X0.E 155 D25.sig:=D25.ok G0 Tryz.func155 ⟨ZGZ,trivial⟩ rfl rfl (by kernel_rfl)
noncomputable def D26:FD U:=⟨254,Tryz.f254,[D25.sg,D24.sg,D3.sg],[.p (.st 2),.p (.st 2)],[],[.p (.st 3)],[],[],ZrF,ZrF,
.nil⟩
theorem ZFu:Zeg X0.E 254 D26.sig:=D26.ok G0 Tryz.func254 ⟨ZGY,ZGZ,ZFt,trivial⟩ rfl rfl (by kernel_rfl)
noncomputable def D27:FD U:=⟨179,Tryz.f179,[D6.sg,D26.sg],[.p (.st 2),.p (.st 2)],[],[.p (.st 3),.p (.int .i64)],[],[],ZxW,ZxW,
.nil⟩
theorem ZKg:Zeg X0.E 179 D27.sig:=D27.ok G0 Tryz.func179 ⟨ZJN,ZFu,trivial⟩ rfl rfl (by kernel_rfl)
noncomputable def D28:FD U:=⟨116,Tryz.f116,[D4.sg,D27.sg],[.p (.int .i64),.p (.int .i64)],[],[.p (.st 3),.p (.int .i64)],[],[],ZyN,ZyN,
.nil⟩
theorem ZKf:Zeg X0.E 116 D28.sig:=D28.ok G0 Tryz.func116 ⟨ZLf,ZKg,trivial⟩ rfl rfl (by kernel_rfl)
noncomputable def D29:FD U:=⟨67,Tryz.f67,[D28.sg],[],[],[.p (.st 3)],[],[],ZzT,ZzT,
.nil⟩
theorem ZGX:Zeg X0.E 67 D29.sig:=D29.ok G0 Tryz.func67 ⟨ZKf,trivial⟩ rfl rfl (by kernel_rfl)
noncomputable def D30:FD U:=⟨164,Tryz.f164,[],[],[],[.map (.int .i64) (.st 6)],[],[],ZzH,ZzH,
.nil⟩
theorem ZGW:Zeg X0.E 164 D30.sig:=D30.ok G0 Tryz.func164 trivial rfl rfl (by kernel_rfl)
noncomputable def D32:FD U:=⟨236,Tryz.f236,[(297,ZzA.sig)],[.p .str],[],[.p .str],[],[],ZyX,ZyX,
.nil⟩
theorem ZKd:Zeg X0.E 236 D32.sig:=D32.ok G0 Tryz.func236 ⟨ZAc,trivial⟩ rfl rfl (by kernel_rfl)
noncomputable def D33:FD U:=⟨353,Tryz.f353,[],[.p .str,.p .str],[],[.p .bool],[],[],Zo9,Zo9,
.j 911 [4] [] [qe3] [] Zqy <|
.nil⟩
theorem ZGV:Zeg X0.E 353 D33.sig:=D33.ok G0 Tryz.func353 trivial rfl rfl (by kernel_rfl)
noncomputable def D34:FD U:=⟨337,Tryz.f337,[D33.sg],[.p .str,.p .str],[],[.p .str,.p .bool],[],[],ZqX,ZqX,
.nil⟩
theorem ZKc:Zeg X0.E 337 D34.sig:=D34.ok G0 Tryz.func337 ⟨ZGV,trivial⟩ rfl rfl (by kernel_rfl)
noncomputable def D35:FD U:=⟨301,Tryz.f301,[D34.sg],[.p .str,.p .str],[],[.p .str,.p .bool],[],[],Zvb,Zvb,
.nil⟩
theorem ZKb:Zeg X0.E 301 D35.sig:=D35.ok G0 Tryz.func301 ⟨ZKc,trivial⟩ rfl rfl (by kernel_rfl)
noncomputable def D36:FD U:=⟨338,Tryz.f338,[D33.sg],[.p .str,.p .str],[],[.p .str],[],[],ZqO,ZqO,
.nil⟩
theorem ZKa:Zeg X0.E 338 D36.sig:=D36.ok G0 Tryz.func338 ⟨ZGV,trivial⟩ rfl rfl (by kernel_rfl)
noncomputable def D37:FD U:=⟨302,Tryz.f302,[D36.sg],[.p .str,.p .str],[],[.p .str],[],[],Zuu,Zuu,
.nil⟩
theorem ZJ9:Zeg X0.E 302 D37.sig:=D37.ok G0 Tryz.func302 ⟨ZKa,trivial⟩ rfl rfl (by kernel_rfl)
noncomputable def D39:FD U:=⟨352,Tryz.f352,[(370,Zvq.sig)],[.p .str,.p .str],[],[.p (.int .i64)],[],[],ZqP,ZqP,
.j 914011 [0,1,5,16] [] [qe8,qe8,qe0,qe3] [] Zrq <|
.nil⟩
theorem ZJ8:Zeg X0.E 352 D39.sig:=D39.ok G0 Tryz.func352 ⟨Zym,trivial⟩ rfl rfl (by kernel_rfl)
noncomputable def D40:FD U:=⟨339,Tryz.f339,[D39.sg],[.p .str,.p .str],[],[.p .str,.p .str,.p .bool],[],[],Ztx,Ztx,
.nil⟩
theorem ZJ7:Zeg X0.E 339 D40.sig:=D40.ok G0 Tryz.func339 ⟨ZJ8,trivial⟩ rfl rfl (by kernel_rfl)
noncomputable def D41:FD U:=⟨303,Tryz.f303,[D40.sg],[.p .str,.p .str],[],[.p .str,.p .str,.p .bool],[],[],Zx5,Zx5,
.nil⟩
theorem ZGU:Zeg X0.E 303 D41.sig:=D41.ok G0 Tryz.func303 ⟨ZJ7,trivial⟩ rfl rfl (by kernel_rfl)
noncomputable def D42:FD U:=⟨304,Tryz.f304,[(297,ZzA.sig)],[.p .str,.p (.int .i64)],[],[.p .bool],[],[],ZuX,ZuX,
.j 911 [4] [] [qe3] [] Zuw <|
.nil⟩
theorem ZJ6:Zeg X0.E 304 D42.sig:=D42.ok G0 Tryz.func304 ⟨ZAc,trivial⟩ rfl rfl (by kernel_rfl)
noncomputable def D43:FD U:=⟨178,Tryz.f178,[D1.sg],[.p (.sl (.int .u32)),.p (.sl (.int .u32))],[],[.p (.sl (.int .u32))],[],[],ZqG,ZqG,
.lo 941011 [1,5,17,18,19] [] [qe1,qe7,qe1,qe0,qe0] [qo2] 0 [5] [] [qe7] [qo2] ZrZ Zwd (fun n0=> .lo 9410114011541011 [1,5,6,7,8,17,18,19,24,25,26] [] [qe1,qe7,qe0,ZC7,ZBz,qe1,qe0,qe0,qe1,qe0,qe0] [qo2] 2 [1,5,6,8,17,18,19] [] [qe1,qe7,qe0,ZBz,qe1,qe0,qe0] [qo2] Zt9 (Zwe (ZrZ n0)) (fun _=> .nil) <|
.nil) <|
.nil⟩
theorem ZGT:Zeg X0.E 178 D43.sig:=D43.ok G0 Tryz.func178 ⟨ZEC,trivial⟩ rfl rfl (by kernel_rfl)
noncomputable def D44:FD U:=⟨176,Tryz.f176,[D22.sg,D19.sg,D1.sg],[.p (.sl (.int .u32)),.p (.sl (.int .u32))],[],[.p (.sl (.int .u32))],[],[],Zsx,Zsx,
.lo 9410111 [0,1,5,6,20,21] [] [qe1,qe1,qe7,ZC7,qe0,qe0] [qo2] 0 [5,6] [] [qe7,ZC7] [qo2] Zuh ZwB (fun _=> .nil) <|
.nil⟩
theorem ZGS:Zeg X0.E 176 D44.sig:=D44.ok G0 Tryz.func176 ⟨ZG0,ZG1,ZEC,trivial⟩ rfl rfl (by kernel_rfl)
noncomputable def D45:FD U:=⟨241,Tryz.f241,[D35.sg,D37.sg,D41.sg,D42.sg,D12.sg,D43.sg,D2.sg,D44.sg,D3.sg,D26.sg],[.p .str],[],[.p (.st 3),.p .bool],[],[],Ztj,Ztj,
.j 9111 [2,4,5] [] [qe5,qe8,qe3] qp7 Zuf <|
.j 9101111 [2,5,6,7,39] [] [qe5,qe3,qe8,qe8,qe3] qp7 ZsA <|
.lo 941011111111 [2,5,7,9,10,11,47,48,49] [9,10] [qe5,qe3,qe8,qe1,qe1,ZEn,ZHi,qe0,qe0] [ZIM,qo2,ZIw,qo2,qo2] 0 [2,5,7,9,10,11] [] [qe5,qe3,qe8,qe1,qe1,ZEn] [qo23,qo2,qo2,qo2] ZvQ ZxY (fun _=> .nil) <|
.lo 9410111111111 [2,5,9,10,11,63,64] [11] [qe5,qe3,qe1,qe1,qe1,qe0,qe0] qp7 2 [2,5,9,11] [] [qe5,qe3,qe1,qe1] qp7 ZvP ZxX (fun _=> .nil) <|
.nil⟩
theorem ZGR:Zeg X0.E 241 D45.sig:=D45.ok G0 Tryz.func241 ⟨ZKb,ZJ9,ZGU,ZJ6,ZG3,ZGT,ZKe,ZGS,ZFt,ZFu,trivial⟩ rfl rfl (by kernel_rfl)
noncomputable def D48:FD U:=⟨307,Tryz.f307,[],[.p (.sl .str)],[],[.p .str],[],[],Zx0,Zx0,
.lr 941011 [3,6,7,8] [] [qe8,.o (.v (.sl .str)),qe0,qe0] [] 0 [3] [] [qe8] [] ZvS ZAj (fun _=> .nil) <|
.nil⟩
theorem ZJ5:Zeg X0.E 307 D48.sig:=D48.ok G0 Tryz.func307 trivial rfl rfl (by kernel_rfl)
noncomputable def D49:FD U:=⟨242,Tryz.f242,[D45.sg,(305,ZzG.sig),D41.sg,(306,Zzo.sig),D48.sg],[.p .str],[],[.p .str,.p .bool],[],[],Zwt,Zwt,
.j 9111111 [0,9] [] [qe8,qe8] [] ZsP <|
.j 910111111 [9,43] [] qs9 [] Zxk <|
.j 91111111 [9] [] [qe8] [] Zxj <|
.nil⟩
theorem ZJ4:Zeg X0.E 242 D49.sig:=D49.ok G0 Tryz.func242 ⟨ZGR,ZAL,ZGU,ZAB,ZJ5,trivial⟩ rfl rfl (by kernel_rfl)
noncomputable def D50:FD U:=⟨163,Tryz.f163,[D30.sg,D32.sg,D49.sg],[.p (.int .i64),.p .str],[],[.p .str,.p .bool],[],[(26,2)],ZuR,ZuR,
.nil⟩
theorem ZJ3:Zeg X0.E 163 D50.sig:=D50.ok G0 Tryz.func163 ⟨ZGW,ZKd,ZJ4,trivial⟩ rfl rfl (by kernel_rfl)
noncomputable def D51:FD U:=⟨110,Tryz.f110,[D50.sg,D30.sg,D45.sg],[.p (.int .i64),.p .str],[],[.p (.st 3),.p .bool],[],[(22,2)],ZyG,ZyG,
.nil⟩
theorem ZJ2:Zeg X0.E 110 D51.sig:=D51.ok G0 Tryz.func110 ⟨ZJ3,ZGW,ZGR,trivial⟩ rfl rfl (by kernel_rfl)
noncomputable def D52:FD U:=⟨60,Tryz.f60,[D29.sg,D51.sg],[.p (.st 0)],[],[.p (.st 3),.p .bool],[],[],Zz0,Zz0,
.nil⟩
theorem ZJ1:Zeg X0.E 60 D52.sig:=D52.ok G0 Tryz.func60 ⟨ZGX,ZJ2,trivial⟩ rfl rfl (by kernel_rfl)
noncomputable def D53:FD U:=⟨20,Tryz.f20,[],[.p .str],[],[.p (.int .u64)],[],[],ZvL,ZvL,
.lo 941011 [0,3,6,7] [] [qe8,ZBz,qe0,qe0] [] 0 [3] [] [ZBz] [] Zyz Zzx (fun _=> .nil) <|
.nil⟩
theorem ZEh:Zeg X0.E 20 D53.sig:=D53.ok G0 Tryz.func20 trivial rfl rfl (by kernel_rfl)
noncomputable def D54:FD U:=⟨101,Tryz.f101,[D6.sg,D25.sg,D11.sg],[.p (.st 3)],[],[.p .bool],[],[],Zut,Zut,
.j 911 [2] [] [qe3] [] ZtR <|
.nil⟩
theorem ZGQ:Zeg X0.E 101 D54.sig:=D54.ok G0 Tryz.func101 ⟨ZJN,ZGY,ZFB,trivial⟩ rfl rfl (by kernel_rfl)
noncomputable def D55:FD U:=⟨114,Tryz.f114,[D43.sg,D3.sg],[.p (.st 2),.p (.st 2)],[],[.p (.st 2)],[],[],Zp7,Zp7,
.nil⟩
theorem ZJ0:Zeg X0.E 114 D55.sig:=D55.ok G0 Tryz.func114 ⟨ZGT,ZFt,trivial⟩ rfl rfl (by kernel_rfl)
noncomputable def D56:FD U:=⟨177,Tryz.f177,[D22.sg,D18.sg,D1.sg],[.p (.sl (.int .u32)),.p (.sl (.int .u32))],[],[.p (.sl (.int .u32))],[],[],ZrK,ZrK,
.lo 9410111 [0,1,5,6,12,13] [] [qe1,qe1,qe7,ZC7,qe0,qe0] [qo2] 0 [5] [] [qe7] [qo2] Zub Zwg (fun _=> .nil) <|
.nil⟩
theorem ZJZ:Zeg X0.E 177 D56.sig:=D56.ok G0 Tryz.func177 ⟨ZG0,ZG2,ZEC,trivial⟩ rfl rfl (by kernel_rfl)
noncomputable def D57:FD U:=⟨113,Tryz.f113,[D44.sg,D3.sg,D11.sg,D56.sg],[.p (.st 2),.p (.st 2)],[],[.p (.st 2)],[],[],Zxe,Zxe,
.nil⟩
theorem ZJY:Zeg X0.E 113 D57.sig:=D57.ok G0 Tryz.func113 ⟨ZGS,ZFt,ZFB,ZJZ,trivial⟩ rfl rfl (by kernel_rfl)
noncomputable def D58:FD U:=⟨196,Tryz.f196,[D55.sg,D57.sg],[.p (.st 3),.p (.st 3)],[],[.p (.st 2),.p (.st 2)],[],[],ZyM,ZyM,
.nil⟩
theorem ZJX:Zeg X0.E 196 D58.sig:=D58.ok G0 Tryz.func196 ⟨ZJ0,ZJY,trivial⟩ rfl rfl (by kernel_rfl)
noncomputable def D59:FD U:=⟨197,Tryz.f197,[D54.sg,D58.sg,D26.sg],[.fn 196 [] [],.p (.st 3),.p (.st 3)],[],[.p (.st 3),.p (.int .i64)],[],[],Zth,Zth,
.j 9101 [0,4,5,6,18] [] [.fn 196 [] [],qe5,ZDh,ZD4,qe3] [ZFS,ZFS,ZIM,qo2,qo2] ZrG <|
.nil⟩
theorem ZJW:Zeg X0.E 197 D59.sig:=D59.ok G0 Tryz.func197 ⟨ZGQ,ZJX,ZFu,trivial⟩ rfl rfl (by kernel_rfl)
noncomputable def D60:FD U:=⟨128,Tryz.f128,[D59.sg],[.p (.st 3),.p (.st 3)],[],[.p (.st 3),.p (.int .i64)],[],[],Zyw,Zyw,
.nil⟩
theorem ZJV:Zeg X0.E 128 D60.sig:=D60.ok G0 Tryz.func128 ⟨ZJW,trivial⟩ rfl rfl (by kernel_rfl)
noncomputable def D61:FD U:=⟨126,Tryz.f126,[],[.p (.st 3),.p (.int .i64)],[],[.p (.st 3)],[],[],ZAE,ZAE,
.nil⟩
theorem ZJU:Zeg X0.E 126 D61.sig:=D61.ok G0 Tryz.func126 trivial rfl rfl (by kernel_rfl)
noncomputable def D62:FD U:=⟨84,Tryz.f84,[D60.sg,D61.sg],[.p (.st 3),.p (.st 3)],[],[.p (.st 3)],[],[],ZAU,ZAU,
.nil⟩
theorem ZJT:Zeg X0.E 84 D62.sig:=D62.ok G0 Tryz.func84 ⟨ZJV,ZJU,trivial⟩ rfl rfl (by kernel_rfl)
noncomputable def D63:FD U:=⟨174,Tryz.f174,[],[.p (.int .u64)],[],[.p (.int .i64)],[],[],Zy1,Zy1,
.j 911 [0,2] [] [ZBz,qe0] [] Zyh <|
.j 9111 [0,2] [] [ZBz,qe0] [] Zyg <|
.j 91111 [0,2] [] [ZBz,qe0] [] Zyf <|
.nil⟩
theorem ZJS:Zeg X0.E 174 D63.sig:=D63.ok G0 Tryz.func174 trivial rfl rfl (by kernel_rfl)
noncomputable def D64:FD U:=⟨112,Tryz.f112,[D63.sg],[.p (.int .u64)],[],[.p (.int .i64)],[],[],ZxM,ZxM,
.nil⟩
theorem ZGP:Zeg X0.E 112 D64.sig:=D64.ok G0 Tryz.func112 ⟨ZJS,trivial⟩ rfl rfl (by kernel_rfl)
noncomputable def D65:FD U:=⟨222,Tryz.f222,[],[.p (.int .u64)],[],[.p .bool],[],[],ZvR,ZvR,
.nil⟩
theorem ZJR:Zeg X0.E 222 D65.sig:=D65.ok G0 Tryz.func222 trivial rfl rfl (by kernel_rfl)
noncomputable def D66:FD U:=⟨157,Tryz.f157,[D65.sg],[.p (.int .u64),.p (.int .u64)],[],[.p (.int .i64)],[],[],Zwp,Zwp,
.nil⟩
theorem ZJQ:Zeg X0.E 157 D66.sig:=D66.ok G0 Tryz.func157 ⟨ZJR,trivial⟩ rfl rfl (by kernel_rfl)
noncomputable def D68:FD U:=⟨158,Tryz.f158,[(223,Zvr.sig)],[.p .str,.p .str],[],[.p (.int .i64)],[],[],Zx6,Zx6,
.nil⟩
theorem ZJP:Zeg X0.E 158 D68.sig:=D68.ok G0 Tryz.func158 ⟨Zyn,trivial⟩ rfl rfl (by kernel_rfl)
noncomputable def D69:FD U:=⟨150,Tryz.f150,[],[.p (.sl (.int .i64))],[],[.p (.int .i64)],[],[],Zzi,Zzi,
.lr 941011 [3,6,7,8] [] [qe0,.o (.v (.sl (.int .i64))),qe0,qe0] [] 0 [3] [] [qe0] [] Zx1 Zz4 (fun _=> .nil) <|
.nil⟩
theorem ZJO:Zeg X0.E 150 D69.sig:=D69.ok G0 Tryz.func150 trivial rfl rfl (by kernel_rfl)
noncomputable def D70:FD U:=⟨102,Tryz.f102,[D66.sg,D68.sg,D69.sg],[.p (.st 4),.p (.st 4)],[],[.p (.int .i64)],[],[],ZoH,ZoH,
.nil⟩
theorem ZBQ:Zeg X0.E 102 D70.sig:=D70.ok G0 Tryz.func102 ⟨ZJQ,ZJP,ZJO,trivial⟩ rfl rfl (by kernel_rfl)
noncomputable def D71:FD U:=⟨228,Tryz.f228,[D70.sg],[.arr (.st 4),.p (.int .i64),.p (.int .i64),.fn 102 [] []],[(0,.arr (.st 4))],[],[],[],ZoT,Zof,
.lo 941 [0,1,2,3,8] [] ZKO [qo4] 0 [] [] [] [qo4] Zoa ZpF (fun n0=> .lo 941401541 [0,1,2,3,8,9] [] qs1 [qo4] 2 [0,1,2,3,8] [] ZKO [qo4] ZnV (ZpG (Zoa n0)) (fun n1=> .j 910541401541 [0,1,2,3,8,9,34] [] qs4 [qo4] (ZoC (ZnV n1)) <|
.nil) <|
.nil) <|
.nil⟩
theorem ZJM:Zeg X0.E 228 D71.sig:=D71.okA G0 Tryz.func228 ⟨ZBQ,trivial⟩ (by kernel_rfl) (by kernel_rfl)
noncomputable def D72:FD U:=⟨294,Tryz.f294,[D70.sg],[.arr (.st 4),.p (.int .i64),.p (.int .i64),.p (.int .i64),.fn 102 [] []],[(0,.arr (.st 4))],[],[],[],Zpu,Zn8,
.lr 941 [0,2,3,4,10] [] ZKO [qo4] 0 [] [] [] [qo4] Zn5 Zqv (fun n0=> .j 910114541 [0,2,3,4,10,11,40] [] qs4 [qo4] (Zpa (Zn5 n0)) <|
.j 91114541 [0,2,3,4,10,11] [] qs1 [qo4] (Zou (Zn5 n0)) <|
.nil) <|
.nil⟩
theorem ZJL:Zeg X0.E 294 D72.sig:=D72.okA G0 Tryz.func294 ⟨ZBQ,trivial⟩ (by kernel_rfl) (by kernel_rfl)
noncomputable def D73:FD U:=⟨229,Tryz.f229,[D72.sg],[.arr (.st 4),.p (.int .i64),.p (.int .i64),.fn 102 [] []],[(0,.arr (.st 4))],[],[],[],Zpv,Zpj,
.lo 9410111 [0,3,8,9,10,11] [] [qe6,qe9,qe0,qe0,qe0,qe0] [qo4] 0 [0,3,8,9,10] [] [qe6,qe9,qe0,qe0,qe0] [qo4] Zpd Zqx (fun _=> .nil) <|
.lo 9411111 [0,3,8,9,12] [] [qe6,qe9,qe0,qe0,qe0] [qo4] 2 [] [] [] [qo4] Zpc Zqw (fun _=> .nil) <|
.nil⟩
theorem ZJK:Zeg X0.E 229 D73.sig:=D73.okA G0 Tryz.func229 ⟨ZJL,trivial⟩ (by kernel_rfl) (by kernel_rfl)
noncomputable def D74:FD U:=⟨246,Tryz.f246,[D64.sg],[.p (.int .i64)],[],[.p (.int .u64)],[],[],Zs9,Zs9,
.nil⟩
theorem ZJJ:Zeg X0.E 246 D74.sig:=D74.ok G0 Tryz.func246 ⟨ZGP,trivial⟩ rfl rfl (by kernel_rfl)
noncomputable def D75:FD U:=⟨247,Tryz.f247,[],[.box (.int .u64)],[(0,.box (.int .u64))],[.p (.int .u64)],[],[],ZtG,ZtG,
.nil⟩
theorem ZJI:Zeg X0.E 247 D75.sig:=D75.ok G0 Tryz.func247 trivial rfl rfl (by kernel_rfl)
noncomputable def D76:FD U:=⟨230,Tryz.f230,[D74.sg,D75.sg],[.arr (.st 4),.p (.int .i64),.p (.int .i64),.fn 102 [] []],[(0,.arr (.st 4))],[],[],[],ZoV,ZoG,
.lo 94111211 [0,1,8,9,10,11] [] [qe6,qe0,qe0,qe5,ZBz,qe0] [qo4,.boxS (.int .u64)] 0 [] [] [] [qo4] Zob ZpH (fun n0=> .j 91140154111211 [0,1,8,9,10,11,12] [] [qe6,qe0,qe0,qe5,ZBz,qe0,qe0] [qo4,.boxS (.int .u64)] (Zoc (Zob n0)) <|
.nil) <|
.nil⟩
theorem ZJH:Zeg X0.E 230 D76.sig:=D76.okA G0 Tryz.func230 ⟨ZJJ,ZJI,trivial⟩ (by kernel_rfl) (by kernel_rfl)
noncomputable def D77:FD U:=⟨328,Tryz.f328,[D70.sg],[.arr (.st 4),.p (.int .i64),.p (.int .i64),.box (.int .i64),.fn 102 [] []],[(0,.arr (.st 4)),(3,.box (.int .i64))],[.p (.int .i64),.p (.int .i64)],[],[],Zro,Zoi,
.nil⟩
theorem ZJG:Zeg X0.E 328 D77.sig:=D77.okA G0 Tryz.func328 ⟨ZBQ,trivial⟩ (by kernel_rfl) (by kernel_rfl)
noncomputable def D78:FD U:=⟨296,Tryz.f296,[D77.sg],[.arr (.st 4),.p (.int .i64),.p (.int .i64),.p (.int .i64),.box (.int .i64),.fn 102 [] []],[(0,.arr (.st 4)),(4,.box (.int .i64))],[.p (.int .i64)],[],[],Zrp,ZoE,
.nil⟩
theorem ZGO:Zeg X0.E 296 D78.sig:=D78.okA G0 Tryz.func296 ⟨ZJG,trivial⟩ (by kernel_rfl) (by kernel_rfl)
noncomputable def D79:FD U:=⟨295,Tryz.f295,[D78.sg],[.arr (.st 4),.p (.int .i64),.box (.int .i64),.fn 102 [] []],[(0,.arr (.st 4)),(2,.box (.int .i64))],[.p (.int .i64)],[],[],ZpR,ZnU,
.nil⟩
theorem ZJF:Zeg X0.E 295 D79.sig:=D79.okA G0 Tryz.func295 ⟨ZGO,trivial⟩ (by kernel_rfl) (by kernel_rfl)
noncomputable def D80:FD U:=⟨231,Tryz.f231,[D79.sg,D78.sg],[.arr (.st 4),.p (.int .i64),.p (.int .i64),.fn 102 [] []],[(0,.arr (.st 4))],[.p (.int .i64),.p (.int .i64)],[],[],Zpe,ZoU,
.j 91210111111 [0,3,11,12,13,14] [] [qe6,qe9,qe5,qe0,qe0,qe0] [qo4,.boxS (.int .i64)] Zok <|
.j 91111111 [11,13] [] [qe5,qe0] [qo4,.boxS (.int .i64)] Zoj <|
.nil⟩
theorem ZJE:Zeg X0.E 231 D80.sig:=D80.okA G0 Tryz.func231 ⟨ZJF,ZGO,trivial⟩ (by kernel_rfl) (by kernel_rfl)
noncomputable def D81:FD U:=⟨232,Tryz.f232,[],[.arr (.st 4),.p (.int .i64),.p (.int .i64),.fn 102 [] []],[(0,.arr (.st 4))],[],[],[],Zo3,ZoO,
.lo 9411 [0,8,9] [] [qe6,qe0,qe0] [qo4] 0 [] [] [] [qo4] ZoF ZpL (fun _=> .nil) <|
.nil⟩
theorem ZJD:Zeg X0.E 232 D81.sig:=D81.okA G0 Tryz.func232 trivial (by kernel_rfl) (by kernel_rfl)
noncomputable def D82:FD U:=⟨233,Tryz.f233,[D70.sg],[.arr (.st 4),.p (.int .i64),.p (.int .i64),.fn 102 [] []],[(0,.arr (.st 4))],[.p .bool],[],[],Zoq,Zom,
.lr 941011 [0,1,2,3,9,10] [] qs1 [qo4] 0 [] [] [] [qo4] ZnL ZoY (fun n0=> .lo 940401541011 [0,1,2,3,9,10] [] qs1 [qo4] 2 [0,1,2,3,9,10] [] qs1 [qo4] ZnQ (Zo1 (ZnL n0)) (fun n1=> .j 910540401541011 [0,1,2,3,9,10,36] [] qs4 [qo4] (Zoh (ZnQ n1)) <|
.nil) <|
.lo 9412101111401541011 [0,1,2,3,9,10,11] [] [qe6,qe0,qe0,qe9,qe0,qe0,qe0] [qo4] 4 [0,1,2,3,9,10] [] qs1 [qo4] ZnX (Zo0 (ZnL n0)) (fun _=> .nil) <|
.j 9111111401541011 [0,1,2,3,9,10,104] [] qs4 [qo4] (ZnY (ZnL n0)) <|
.lo 9412111111401541011 [0,1,2,3,9,10,12] [] [qe6,qe0,qe0,qe9,qe0,qe0,qe0] [qo4] 6 [0,1,2,3,9,10] [] qs1 [qo4] ZnW (ZoZ (ZnL n0)) (fun _=> .nil) <|
.nil) <|
.nil⟩
theorem ZJC:Zeg X0.E 233 D82.sig:=D82.okA G0 Tryz.func233 ⟨ZBQ,trivial⟩ (by kernel_rfl) (by kernel_rfl)
noncomputable def D83:FD U:=⟨234,Tryz.f234,[D70.sg],[.arr (.st 4),.p (.int .i64),.p (.int .i64),.p (.int .i64),.fn 102 [] []],[(0,.arr (.st 4))],[.p (.int .i64)],[],[],ZoP,ZoB,
.lo 940111 [0,1,4,11,12] [] qs0 [qo4] 0 [11] [] [qe0] [qo4] ZnP Zpz (fun n0=> .lo 9404540111 [0,1,4,11,12] [] qs0 [qo4] 2 [0,1,4,11,12] [] qs0 [qo4] ZnT (ZpB (ZnP n0)) (fun n1=> .j 9105404540111 [0,1,4,11,12,47] [] qs2 [qo4] (ZoA (ZnT n1)) <|
.nil) <|
.lo 94014540111 [0,1,4,11,12] [] qs0 [qo4] 4 [0,1,4,11,12] [] qs0 [qo4] ZnS (ZpA (ZnP n0)) (fun n1=> .j 91054014540111 [0,1,4,11,12,65] [] qs2 [qo4] (Zoz (ZnS n1)) <|
.nil) <|
.nil) <|
.nil⟩
theorem ZJB:Zeg X0.E 234 D83.sig:=D83.okA G0 Tryz.func234 ⟨ZBQ,trivial⟩ (by kernel_rfl) (by kernel_rfl)
noncomputable def D84:FD U:=⟨235,Tryz.f235,[D70.sg],[.arr (.st 4),.p (.int .i64),.p (.int .i64),.p (.int .i64),.fn 102 [] []],[(0,.arr (.st 4))],[.p (.int .i64),.p .bool],[],[],Zpq,Zpb,
.lo 940111 [0,1,4,12,13] [] qs0 [qo4] 0 [0,1,4,12,13] [] qs0 [qo4] Zn3 Zqd (fun n0=> .j 910540111 [0,1,4,12,13,47] [] qs2 [qo4] (Zo7 (Zn3 n0)) <|
.nil) <|
.lo 9401111 [0,1,4,12,13] [] qs0 [qo4] 2 [0,1,4,12,13] [] qs0 [qo4] Zn2 Zqc (fun n0=> .j 9105401111 [0,1,4,12,13,66] [] qs2 [qo4] (Zo6 (Zn2 n0)) <|
.nil) <|
.lo 940111111111 [0,1,4,12,13] [] qs0 [qo4] 4 [0,1,13] [] [qe6,qe0,qe0] [qo4] ZnR Zp9 (fun n0=> .lo 9404540111111111 [0,1,4,12,13] [] qs0 [qo4] 6 [0,1,4,12,13] [] qs0 [qo4] Zn1 (Zqb (ZnR n0)) (fun n1=> .j 9105404540111111111 [0,1,4,12,13,120] [] qs2 [qo4] (Zo5 (Zn1 n1)) <|
.nil) <|
.lo 94014540111111111 [0,1,4,12,13] [] qs0 [qo4] 8 [0,1,4,12,13] [] qs0 [qo4] Zn0 (Zqa (ZnR n0)) (fun n1=> .j 91054014540111111111 [0,1,4,12,13,139] [] qs2 [qo4] (Zo4 (Zn0 n1)) <|
.nil) <|
.nil) <|
.nil⟩
theorem ZJA:Zeg X0.E 235 D84.sig:=D84.okA G0 Tryz.func235 ⟨ZBQ,trivial⟩ (by kernel_rfl) (by kernel_rfl)
noncomputable def ZKy (n_:Nat):FD U:=⟨160,Tryz.f160,[],[.arr (.st 4),.p (.int .i64),.p (.int .i64),.p (.int .i64),.fn 102 [] []],[(0,.arr (.st 4))],[],[],[],ZnG n_,ZnG n_,
.nil⟩
noncomputable def D85c (n_:Nat):FD U:=⟨160,Tryz.f160,[D71.sg,D73.sg,D76.sg,D80.sg,D81.sg,D82.sg,D70.sg,D83.sg,D84.sg,(ZKy n_).sg],[.arr (.st 4),.p (.int .i64),.p (.int .i64),.p (.int .i64),.fn 102 [] []],[(0,.arr (.st 4))],[],[],[],Zpp (ZnG n_),ZnG (n_+1),
.lz 9411 [0,1,2,3,4,10,11] [] [qe6,qe0,qe0,qe0,qe9,qe3,qe3] [qo4] (ZnO (ZnG n_)) (fun n0=> .j 9111145411 [0,1,2,3,4,10,11,12] [] [qe6,qe0,qe0,qe0,qe9,qe3,qe3,qe0] [qo4] ((Zoy (ZnG n_)) ((ZnO (ZnG n_)) n0)) <|
.j 911111145411 [0,1,2,3,4,10,11,12,13,14] [] [qe6,qe0,qe0,qe0,qe9,qe3,qe3,qe0,qe0,qe0] [qo4] ((Zox (ZnG n_)) ((ZnO (ZnG n_)) n0)) <|
.j 91011111145411 [0,1,2,3,4,10,11,12,13,75] [] qs6 [qo4] ((Zn9 (ZnG n_)) ((ZnO (ZnG n_)) n0)) <|
.j 9111111145411 [0,1,2,3,4,10,11,12,13] [] [qe6,qe0,qe0,qe0,qe9,qe3,qe3,qe0,qe0] [qo4] ((Zow (ZnG n_)) ((ZnO (ZnG n_)) n0)) <|
.j 910111111145411 [0,1,2,3,4,10,11,12,13,97] [] qs6 [qo4] ((Zov (ZnG n_)) ((ZnO (ZnG n_)) n0)) <|
.nil) <|
.nil⟩
theorem ZHW (n_:Nat):Zeg X0.E 160 (ZKy n_).sig:=by
 induction n_ with
 |zero=>
  refine Zj9.ok (S:=(ZKy 0).FS) uok fun v r h=> ?_
  have h2:(none:Option _)=some r:=h;cases h2
 |succ n_ ih=>exact(D85c n_).okA G0 Tryz.func160 ⟨ZJM,ZJK,ZJH,ZJE,ZJD,ZJC,ZBQ,ZJB,ZJA,ih,trivial⟩ (by kernel_rfl) (by kernel_rfl)
noncomputable abbrev D85:FD U:=ZKy big
theorem ZJz:Zeg X0.E 160 D85.sig:=ZHW big
noncomputable def D86:FD U:=⟨104,Tryz.f104,[D64.sg,D85.sg],[.arr (.st 4),.fn 102 [] []],[(0,.arr (.st 4))],[],[],[],ZpC,ZnZ,
.nil⟩
theorem ZJy:Zeg X0.E 104 D86.sig:=D86.okA G0 Tryz.func104 ⟨ZGP,ZJz,trivial⟩ (by kernel_rfl) (by kernel_rfl)
noncomputable def D87:FD U:=⟨57,Tryz.f57,[D52.sg,D53.sg,D29.sg,D62.sg,D86.sg],[.p (.st 1),.p (.st 1)],[],[.own (.st 4)],[],[],ZyI,ZyI,
.lo 9410111 [3,5,6,15,16,17] [] [qe5,ZKv,ZHi,ZHj,qe0,qe0] [ZEP,ZKu,qo4] 0 [6] [] [qe7] [qo4] Ztl Zzw (fun n0=> .j 9101140115410111 [3,5,6,8,9,15,16,17,36] [] [qe5,ZKv,ZHi,ZKV,.o (.ptr (0,5,1) 0 0),ZHj,qe0,qe0,qe3] [ZEP,ZKu,qo4,.boxS (.st 0),ZFS] (Zuq (Ztl n0)) <|
.j 91111140115410111 [3,5,6,9,11,15,16,17] [] [qe5,ZKv,ZHi,ZKV,qe0,ZHj,qe0,qe0] [ZEP,ZKu,qo4,ZFS] (Zw7 (Ztl n0)) <|
.j 91115410111 [3,5,6,15,16,17] [] [qe5,ZKv,ZHi,ZHj,qe0,qe0] [ZEP,ZKu,qo4] (Zw6 (Ztl n0)) <|
.nil) <|
.nil⟩
theorem ZJx:Zeg X0.E 57 D87.sig:=D87.ok G0 Tryz.func57 ⟨ZJ1,ZEh,ZGX,ZJT,ZJy,trivial⟩ rfl rfl (by kernel_rfl)
noncomputable def D88:FD U:=⟨17,Tryz.f17,[D87.sg],[.p (.st 1),.p (.st 1),.p (.int .i64)],[],[.p (.st 5),.p (.int .i64)],[],[],ZvK,ZvK,
.j 91401 [2,3,4,6,9] [] qs5 qp8 Zw5 <|
.j 9131401 [2,3,4,6,17] [] qs5 qp8 Zw4 <|
.nil⟩
theorem ZGN:Zeg X0.E 17 D88.sig:=D88.ok G0 Tryz.func17 ⟨ZJx,trivial⟩ rfl rfl (by kernel_rfl)
noncomputable def D89:FD U:=⟨53,Tryz.f53,[D53.sg,D54.sg,D70.sg],[.p (.st 5)],[],[.p .bool],[],[],Zxd,Zxd,
.j 9101 [1,33] [] [qe5,qe3] [ZGw] ZtO <|
.lr 941011 [1,35,36,37] [] [qe5,ZFT,qe0,qe0] [ZGw] 0 [] [] [] [] ZuV Zy0 (fun n0=> .j 9114011541011 [1,35,36,37,73] [] [qe5,ZFT,qe0,qe0,qe3] [ZGw] (ZtN (ZuV n0)) <|
.nil) <|
.nil⟩
theorem ZJw:Zeg X0.E 53 D89.sig:=D89.ok G0 Tryz.func53 ⟨ZEh,ZGQ,ZBQ,trivial⟩ rfl rfl (by kernel_rfl)
noncomputable def D90:FD U:=⟨201,Tryz.f201,[],[.p (.sl (.int .u32))],[],[.p (.sl (.int .u32))],[],[],Zor,Zor,
.lo 9401 [0] [] [qe1] [] 0 [0] [] [qe1] [] Zpw Zyb (fun n0=> .j 9105401 [0,14] [] [qe1,qe3] [] (ZvC (Zpw n0)) <|
.nil) <|
.nil⟩
theorem ZCI:Zeg X0.E 201 D90.sig:=D90.ok G0 Tryz.func201 trivial rfl rfl (by kernel_rfl)
noncomputable def D91:FD U:=⟨135,Tryz.f135,[D90.sg],[.p .bool,.p (.sl (.int .u32))],[],[.p (.st 2)],[],[],Zod,Zod,
.j 9111 [4] [] [qe5] [ZD3] Zt3 <|
.nil⟩
theorem ZDy:Zeg X0.E 135 D91.sig:=D91.ok G0 Tryz.func135 ⟨ZCI,trivial⟩ rfl rfl (by kernel_rfl)
noncomputable def D92:FD U:=⟨140,Tryz.f140,[D91.sg],[.p (.int .i64)],[],[.p (.st 2)],[],[],Zn6,Zn6,
.j 9111 [0,2,3] [] [qe0,qe5,ZBz] [qo31,qo2] Zr4 <|
.nil⟩
theorem ZFs:Zeg X0.E 140 D92.sig:=D92.ok G0 Tryz.func140 ⟨ZDy,trivial⟩ rfl rfl (by kernel_rfl)
noncomputable def D93:FD U:=⟨132,Tryz.f132,[],[.p (.st 2)],[],[.p .bool],[],[],Zpl,Zpl,
.j 9111 [2] [] [qe3] [] ZoI <|
.nil⟩
theorem ZGM:Zeg X0.E 132 D93.sig:=D93.ok G0 Tryz.func132 trivial rfl rfl (by kernel_rfl)
noncomputable def D94:FD U:=⟨199,Tryz.f199,[D90.sg],[.p (.sl (.int .u32))],[],[.p (.sl (.int .u32))],[],[],ZpE,ZpE,
.lo 941011 [0,3,9,10] [] [qe1,qe7,qe0,qe0] [qo2] 0 [3] [] [qe7] [qo2] Zrw ZvD (fun n0=> .j 9111541011 [0,3,9,10] [] [qe1,qe7,qe0,qe0] [qo2] (Zrx (Zrw n0)) <|
.nil) <|
.nil⟩
theorem ZJv:Zeg X0.E 199 D94.sig:=D94.ok G0 Tryz.func199 ⟨ZCI,trivial⟩ rfl rfl (by kernel_rfl)
noncomputable def D95:FD U:=⟨133,Tryz.f133,[],[.p (.sl (.int .u32)),.p (.sl (.int .u32))],[],[.p (.int .i64)],[],[],ZoX,ZoX,
.lr 941011 [0,1,5] [] qs3 [] 0 [] [] [] [] Zt2 Zv6 (fun _=> .nil) <|
.nil⟩
theorem ZEg:Zeg X0.E 133 D95.sig:=D95.ok G0 Tryz.func133 trivial rfl rfl (by kernel_rfl)
noncomputable def D96:FD U:=⟨137,Tryz.f137,[D90.sg],[.p (.sl (.int .u32)),.p (.sl (.int .u32))],[],[.p (.sl (.int .u32))],[],[],ZpU,ZpU,
.lo 9410111 [0,1,5,6,7] [] [qe1,qe1,qe7,qe0,qe0] [qo2] 0 [5] [] [qe7] [qo2] ZrR ZvX (fun n0=> .j 9114015410111 [0,1,5,6,7] [] [qe1,qe1,qe7,qe0,qe0] [qo2] (ZrS (ZrR n0)) <|
.nil) <|
.nil⟩
theorem ZFr:Zeg X0.E 137 D96.sig:=D96.ok G0 Tryz.func137 ⟨ZCI,trivial⟩ rfl rfl (by kernel_rfl)
noncomputable def D97:FD U:=⟨200,Tryz.f200,[D90.sg],[.p (.sl (.int .u32)),.p (.int .u32)],[],[.p (.sl (.int .u32))],[],[],ZqS,ZqS,
.lo 941011 [0,1,5,6] [] [qe1,ZC7,qe7,qe0] [qo2] 0 [1,5] [] [ZC7,qe7] [qo2] ZsW ZuY (fun _=> .nil) <|
.nil⟩
theorem ZGL:Zeg X0.E 200 D97.sig:=D97.ok G0 Tryz.func200 ⟨ZCI,trivial⟩ rfl rfl (by kernel_rfl)
noncomputable def D98:FD U:=⟨134,Tryz.f134,[D94.sg,D95.sg,D96.sg,D97.sg],[.p (.sl (.int .u32)),.p (.sl (.int .u32))],[],[.p (.sl (.int .u32))],[],[],ZrH,ZrH,
.lo 94011 [0,1,5] [] qs3 [] 0 [0,1,5] [] qs3 [] ZqE Zv4 (fun n0=> .j 91054011 [0,1,5,17] [] [qe1,qe1,qe0,qe3] [] (Zt1 (ZqE n0)) <|
.nil) <|
.lo 940111 [0,1,5] [] qs3 [] 2 [0,5] [] [qe1,qe0] [] Zoe Zv1 (fun n0=> .lo 94041540111 [0,1,5] [] qs3 [] 4 [0,1,5] [] qs3 [] Zph (Zv3 (Zoe n0)) (fun _=> .nil) <|
.lo 940141540111 [0,1,5] [] qs3 [] 6 [0,1,5] [] qs3 [] Zpg (Zv2 (Zoe n0)) (fun _=> .nil) <|
.j 911141540111 [0,1,5] [] qs3 [] (Zt0 (Zoe n0)) <|
.nil) <|
.lo 9401111 [0,5] [] [qe1,qe0] [] 8 [0] [] [qe1] [] ZqD Zv0 (fun _=> .nil) <|
.nil⟩
theorem ZGK:Zeg X0.E 134 D98.sig:=D98.ok G0 Tryz.func134 ⟨ZJv,ZEg,ZFr,ZGL,trivial⟩ rfl rfl (by kernel_rfl)
noncomputable def D99:FD U:=⟨315,Tryz.f315,[],[.p (.sl (.int .u32)),.p (.int .i64)],[],[.p (.int .u32)],[],[],ZtE,ZtE,
.nil⟩
theorem ZJu:Zeg X0.E 315 D99.sig:=D99.ok G0 Tryz.func315 trivial rfl rfl (by kernel_rfl)
noncomputable def ZLL:FD U:=⟨262,Tryz.f262,[D99.sg,D97.sg,D95.sg,D96.sg,D90.sg],[.p (.sl (.int .u32)),.p (.sl (.int .u32))],[],[.p (.sl (.int .u32)),.p (.sl (.int .u32))],[],[],ZrI,ZrI,
.lo 941011 [0,1,4,5,6] [5] [qe1,qe1,qe7,qe1,qe0] [qo2] 0 [4,5] [] [qe7,qe1] [qo2] ZrV Zv5 (fun n0=> .j 911541011 [0,1,4,5,6] [] [qe1,qe1,qe7,qe1,qe0] [qo2] (ZrW (ZrV n0)) <|
.nil) <|
.nil⟩
theorem ZIt:Zeg X0.E 262 ZLL.sig:=ZLL.ok G0 Tryz.func262 ⟨ZJu,ZGL,ZEg,ZFr,ZCI,trivial⟩ rfl rfl (by kernel_rfl)
noncomputable def ZKr:FD U:=⟨202,Tryz.f202,[D92.sg,D98.sg,ZLL.sg,D91.sg],[.p (.st 2),.p (.st 2)],[],[.p (.st 3)],[],[],ZpJ,ZpJ,
.nil⟩
theorem ZDP:Zeg X0.E 202 ZKr.sig:=ZKr.ok G0 Tryz.func202 ⟨ZFs,ZGK,ZIt,ZDy,trivial⟩ rfl rfl (by kernel_rfl)
noncomputable def ZLK:FD U:=⟨139,Tryz.f139,[D93.sg,ZKr.sg],[.p (.st 2),.p (.st 2)],[],[.p (.st 3),.p (.int .i64)],[],[],Zs5,Zs5,
.j 9101 [2,3,4,13] [] [qe5,ZDh,ZD4,qe3] [ZD3,ZD3,ZIM,qo2,qo2] Ztw <|
.nil⟩
theorem ZIs:Zeg X0.E 139 ZLK.sig:=ZLK.ok G0 Tryz.func139 ⟨ZGM,ZDP,trivial⟩ rfl rfl (by kernel_rfl)
noncomputable def ZKI:FD U:=⟨92,Tryz.f92,[D92.sg,ZLK.sg],[.p (.int .i64),.p (.int .i64)],[],[.p (.st 3),.p (.int .i64)],[],[],Zsp,Zsp,
.nil⟩
theorem ZFF:Zeg X0.E 92 ZKI.sig:=ZKI.ok G0 Tryz.func92 ⟨ZFs,ZIs,trivial⟩ rfl rfl (by kernel_rfl)
noncomputable def ZLJ:FD U:=⟨48,Tryz.f48,[ZKI.sg],[.p (.int .i64),.p (.int .i64)],[],[.p (.st 3)],[],[],ZsS,ZsS,
.nil⟩
theorem ZIr:Zeg X0.E 48 ZLJ.sig:=ZLJ.ok G0 Tryz.func48 ⟨ZFF,trivial⟩ rfl rfl (by kernel_rfl)
noncomputable def ZLI:FD U:=⟨47,Tryz.f47,[ZLJ.sg],[.p (.int .i64)],[],[.p (.st 3)],[],[],ZtB,ZtB,
.nil⟩
theorem ZIq:Zeg X0.E 47 ZLI.sig:=ZLI.ok G0 Tryz.func47 ⟨ZIr,trivial⟩ rfl rfl (by kernel_rfl)
noncomputable def ZLH:FD U:=⟨66,Tryz.f66,[],[.p (.st 2),.p (.st 2)],[],[.p .bool],[],[],Zqq,Zqq,
.j 9101 [2,3,20] [] [qe5,ZDh,qe3] [ZD3,ZD3] Zr1 <|
.lr 941011 [3,22,23,24] [] [qe5,qe1,qe0,qe0] [ZD3] 0 [] [] [] [] Zr0 Zuj (fun _=> .nil) <|
.nil⟩
theorem ZIp:Zeg X0.E 66 ZLH.sig:=ZLH.ok G0 Tryz.func66 trivial rfl rfl (by kernel_rfl)
noncomputable def ZKH:FD U:=⟨28,Tryz.f28,[ZLH.sg],[.p (.st 3),.p (.st 3)],[],[.p .bool],[],[],Zrk,Zrk,
.j 911 [4] [] [qe3] [] Ztr <|
.nil⟩
theorem ZFE:Zeg X0.E 28 ZKH.sig:=ZKH.ok G0 Tryz.func28 ⟨ZIp,trivial⟩ rfl rfl (by kernel_rfl)
noncomputable def ZLG:FD U:=⟨12,Tryz.f12,[D88.sg,D89.sg,ZLI.sg,ZKH.sg,D53.sg],[],[],[.p .bool],[],[],ZqV,ZqV,
.j 9101111 [3,40] [] [qe5,qe3] [ZGw] Zp3 <|
.lr 941011111 [42,43,44] [] [ZFT,qe0,qe0] [] 0 [] [] [] [] Zp2 Zu8 (fun n0=> .j 9114011541011111 [42,43,44,62] [] [ZFT,qe0,qe0,qe3] [] (Zq6 (Zp2 n0)) <|
.nil) <|
.nil⟩
theorem ZIo:Zeg X0.E 12 ZLG.sig:=ZLG.ok G0 Tryz.func12 ⟨ZGN,ZJw,ZIq,ZFE,ZEh,trivial⟩ rfl rfl (by kernel_rfl)
noncomputable def ZLF:FD U:=⟨13,Tryz.f13,[],[.p (.sl (.int .i64))],[],[.box (.st 7)],[],[],ZvJ,ZvJ,
.nil⟩
theorem ZIn:Zeg X0.E 13 ZLF.sig:=ZLF.ok G0 Tryz.func13 trivial rfl rfl (by kernel_rfl)
noncomputable def ZKG:FD U:=⟨16,Tryz.f16,[],[.p (.int .i64),.p (.int .i64)],[],[.p (.int .i64)],[],[],ZrD,ZrD,
.nil⟩
theorem ZFD:Zeg X0.E 16 ZKG.sig:=ZKG.ok G0 Tryz.func16 trivial rfl rfl (by kernel_rfl)
noncomputable def ZIm:FD U:=⟨14,Tryz.f14,[ZKG.sg],[.box (.st 7),.p (.int .i64)],[(0,.box (.st 7))],[.p (.int .i64)],[],[],Zon,Zon,
.nil⟩
theorem ZCs:Zeg X0.E 14 ZIm.sig:=ZIm.ok G0 Tryz.func14 ⟨ZFD,trivial⟩ rfl rfl (by kernel_rfl)
noncomputable def ZKp:FD U:=⟨32,Tryz.f32,[ZIm.sg],[.box (.st 7),.p (.sl .str)],[(0,.box (.st 7))],[.p .str],[],[],Zo2,Zo2,
.nil⟩
theorem ZDO:Zeg X0.E 32 ZKp.sig:=ZKp.ok G0 Tryz.func32 ⟨ZCs,trivial⟩ rfl rfl (by kernel_rfl)
noncomputable def ZLE:FD U:=⟨54,Tryz.f54,[ZIm.sg,ZKp.sg],[.box (.st 7)],[(0,.box (.st 7))],[.p (.st 0)],[],[],Zue,Zue,
.nil⟩
theorem ZIl:Zeg X0.E 54 ZLE.sig:=ZLE.ok G0 Tryz.func54 ⟨ZCs,ZDO,trivial⟩ rfl rfl (by kernel_rfl)
noncomputable def ZLD:FD U:=⟨55,Tryz.f55,[ZIm.sg,ZKp.sg,(56,ZzB.sig)],[.box (.st 7)],[(0,.box (.st 7))],[.p (.st 0)],[],[],Zs8,Zs8,
.nil⟩
theorem ZIk:Zeg X0.E 55 ZLD.sig:=ZLD.ok G0 Tryz.func55 ⟨ZCs,ZDO,ZAd,trivial⟩ rfl rfl (by kernel_rfl)
noncomputable def ZLC:FD U:=⟨15,Tryz.f15,[ZKp.sg,ZIm.sg,ZLE.sg,ZLD.sg,(56,ZzB.sig)],[.box (.st 7),.p (.int .i64)],[(0,.box (.st 7))],[.p (.st 1)],[],[],Zrn,Zrn,
.lo 9410111 [0,4,5,6,15,16] [] [.o (.ptr (0,0,0) 0 0),qe5,ZDh,qe0,qe0,qe0] [.boxS (.st 7),qo33,ZKT,ZIv,ZIv] 0 [4,5] [] [qe5,ZDh] [.boxS (.st 7),qo33,ZKT,ZIv,ZIv] Zrz ZvE (fun n0=> .j 911140115410111 [0,4,5,6,8,15,16] [] [.o (.ptr (0,0,0) 0 0),qe5,ZDh,qe0,ZD4,qe0,qe0] [.boxS (.st 7),ZKT,.box [.o (.v .str),.o (.full (0,5,1))],.boxS (.st 0),ZIv,ZIv] (Zpx (Zrz n0)) <|
.nil) <|
.nil⟩
theorem ZIj:Zeg X0.E 15 ZLC.sig:=ZLC.ok G0 Tryz.func15 ⟨ZDO,ZCs,ZIl,ZIk,ZAd,trivial⟩ rfl rfl (by kernel_rfl)
noncomputable def ZLB:FD U:=⟨203,Tryz.f203,[],[.p .str],[],[.p .str],[],[],ZsV,ZsV,
.lo 9401 [0] [] [qe8] [] 0 [0] [] [qe8] [] Zru Zvz (fun n0=> .j 9105401 [0,10] [] qs9 [] (Ztv (Zru n0)) <|
.nil) <|
.lo 94011 [0] [] [qe8] [] 2 [0] [] [qe8] [] Zrt Zvy (fun n0=> .j 91054011 [0,23] [] qs9 [] (Ztu (Zrt n0)) <|
.nil) <|
.nil⟩
theorem ZIi:Zeg X0.E 203 ZLB.sig:=ZLB.ok G0 Tryz.func203 trivial rfl rfl (by kernel_rfl)
noncomputable def ZLA:FD U:=⟨204,Tryz.f204,[],[.p .str],[],[.p .str],[],[],ZwM,ZwM,
.lo 941011 [3,8,9] [] [qe7,qe0,qe0] [ZIw] 0 [3] [] [qe7] [ZIw] Zrv Zya (fun n0=> .j 9114011541011 [3,4,8,9,23] [] [qe7,qe0,qe0,qe0,qe3] [ZIw] (ZvB (Zrv n0)) <|
.j 9111541011 [3,8,9] [] [qe7,qe0,qe0] [ZIw] (ZvA (Zrv n0)) <|
.nil) <|
.nil⟩
theorem ZIh:Zeg X0.E 204 ZLA.sig:=ZLA.ok G0 Tryz.func204 trivial rfl rfl (by kernel_rfl)
noncomputable def ZKF:FD U:=⟨205,Tryz.f205,[],[.p .str],[],[.p .bool,.p .str,.p .str,.p .bool],[],[],ZqU,ZqU,
.j 9101 [0,2,20] [] [qe8,qe3,qe3] [] Zq5 <|
.j 911 [0,2] [] qs9 [] ZoJ <|
.lo 940111 [0,2,6] [] [qe8,qe3,qe0] [] 0 [0,2,6] [] [qe8,qe3,qe0] [] Zq3 Zu7 (fun n0=> .j 910540111 [0,2,6,41] [] [qe8,qe3,qe0,qe3] [] (Zq4 (Zq3 n0)) <|
.nil) <|
.j 91011111 [0,2,3,6,52] [] [qe8,qe3,qe8,qe0,qe3] [] Zs4 <|
.j 91011111111 [2,3,4,76] [] ZKt [] Zos <|
.lr 9410111111111 [2,3,4,7] [] [qe3,qe8,qe8,qe0] [] 2 [2,3,4] [] ZIL [] Zp1 ZxL (fun n0=> .j 914015410111111111 [2,3,4,7,92] [] [qe3,qe8,qe8,qe0,qe3] [] (Zs3 (Zp1 n0)) <|
.nil) <|
.nil⟩
theorem ZFC:Zeg X0.E 205 ZKF.sig:=ZKF.ok G0 Tryz.func205 trivial rfl rfl (by kernel_rfl)
noncomputable def ZLz:FD U:=⟨206,Tryz.f206,[],[.p .bool,.p .str,.p .str],[],[.p .str],[],[],ZrQ,ZrQ,
.lo 9401 [0,1,2] [] ZIL [] 0 [0,1,2] [] ZIL [] ZqJ ZuD (fun n0=> .j 9105401 [0,1,2,14] [] ZKt [] (ZsI (ZqJ n0)) <|
.nil) <|
.lo 94011 [0,1,2] [] ZIL [] 2 [0,1,2] [] ZIL [] ZqI ZuC (fun n0=> .j 91054011 [0,1,2,27] [] ZKt [] (ZsH (ZqI n0)) <|
.nil) <|
.j 91111 [0,1] [] [qe3,qe8] [] ZsG <|
.j 9101111 [1,43] [] qs9 [] ZsF <|
.j 911111 [1] [] [qe8] [] ZsE <|
.nil⟩
theorem ZIg:Zeg X0.E 206 ZLz.sig:=ZLz.ok G0 Tryz.func206 trivial rfl rfl (by kernel_rfl)
noncomputable def ZLy:FD U:=⟨208,Tryz.f208,[],[.p .str],[],[.p (.int .i64)],[],[],ZpT,ZpT,
.lr 941011 [0,3,4] [] [qe8,qe0,qe0] [] 0 [3] [] [qe0] [] ZtW Zyo (fun n0=> .j 910401541011 [0,3,4,20] [] [qe8,qe0,qe0,qe3] [] (ZvU (ZtW n0)) <|
.nil) <|
.nil⟩
theorem ZIf:Zeg X0.E 208 ZLy.sig:=ZLy.ok G0 Tryz.func208 trivial rfl rfl (by kernel_rfl)
noncomputable def ZKE:FD U:=⟨210,Tryz.f210,[],[.p (.int .i64)],[],[.p .bool],[],[],ZuF,ZuF,
.j 911 [2] [] [qe3] [] Zts <|
.nil⟩
theorem ZFA:Zeg X0.E 210 ZKE.sig:=ZKE.ok G0 Tryz.func210 trivial rfl rfl (by kernel_rfl)
noncomputable def ZLx:FD U:=⟨209,Tryz.f209,[ZKE.sg],[.p (.int .i64),.p (.int .i64)],[],[.p (.int .i64)],[],[],ZtX,ZtX,
.j 91401 [1,5] [] [qe0,qe3] [] ZuE <|
.j 913131401 [15] [] [qe3] [] ZqK <|
.nil⟩
theorem ZIe:Zeg X0.E 209 ZLx.sig:=ZLx.ok G0 Tryz.func209 ⟨ZFA,trivial⟩ rfl rfl (by kernel_rfl)
noncomputable def ZKD:FD U:=⟨143,Tryz.f143,[ZLx.sg,ZKE.sg],[.p (.int .i64),.p (.int .i64),.p (.int .i64)],[],[.p (.int .i64),.p .bool],[],[],Zvm,Zvm,
.j 9101 [0,1,2,35] [] [qe0,qe0,qe0,qe3] [] ZpI <|
.lo 9410111 [0,1,2,8,9] [] ZKP [] 0 [0,1,2,8] [] [qe0,qe0,qe0,qe0] [] ZtY Zyq (fun n0=> .j 9115410111 [0,1,2,8,9] [] ZKP [] (ZvW (ZtY n0)) <|
.nil) <|
.lo 94101111 [0,1,2,8,10] [] ZKP [] 2 [2,8] [] [qe0,qe0] [] ZvV Zyp (fun _=> .nil) <|
.nil⟩
theorem ZFz:Zeg X0.E 143 ZKD.sig:=ZKD.ok G0 Tryz.func143 ⟨ZIe,ZFA,trivial⟩ rfl rfl (by kernel_rfl)
noncomputable def ZKC:FD U:=⟨142,Tryz.f142,[ZLy.sg,ZKD.sg],[.p .str],[],[.p (.int .i64),.p (.int .i64),.p (.int .i64),.p .bool],[],[],ZuG,ZuG,
.j 9104011 [0,9] [] qs9 [] Zvx <|
.j 914011 [0,9] [] qs9 [] Ztt <|
.j 91314011 [0,35] [] qs9 [] Zvw <|
.j 9111 [2,3,4] [] [qe0,qe0,qe0] [] Zvv <|
.nil⟩
theorem ZFy:Zeg X0.E 142 ZKC.sig:=ZKC.ok G0 Tryz.func142 ⟨ZIf,ZFz,trivial⟩ rfl rfl (by kernel_rfl)
noncomputable def ZLw:FD U:=⟨207,Tryz.f207,[],[.p (.int .i64),.p (.int .i64)],[],[.p .str],[],[],ZrP,ZrP,
.lo 94011 [0,1,5] [] [qe0,qe0,qe8] [] 0 [5] [] [qe8] [] ZuB Zxp (fun _=> .nil) <|
.nil⟩
theorem ZId:Zeg X0.E 207 ZLw.sig:=ZLw.ok G0 Tryz.func207 trivial rfl rfl (by kernel_rfl)
noncomputable def ZLv:FD U:=⟨141,Tryz.f141,[ZLB.sg,ZLA.sg,ZKF.sg,ZLz.sg,ZKC.sg,ZLw.sg],[.p (.int .i64),.p .str],[],[.p .str,.p .bool],[],[],ZqL,ZqL,
.j 9141213141011 [24,25] [] qs9 [] ZtK <|
.j 913141213141011 [28] [] [qe3] [] ZtJ <|
.j 91313141011 [0,6,17,31] [] [qe0,qe8,qe0,qe3] [] Zrl <|
.j 91121313141011 [7,8,9,49] [] ZKt [] ZpZ <|
.j 9111 [] [] [] [] ZpY <|
.nil⟩
theorem ZIc:Zeg X0.E 141 ZLv.sig:=ZLv.ok G0 Tryz.func141 ⟨ZIi,ZIh,ZFC,ZIg,ZFy,ZId,trivial⟩ rfl rfl (by kernel_rfl)
noncomputable def ZLu:FD U:=⟨138,Tryz.f138,[D90.sg],[.p (.sl (.int .u32)),.p (.sl (.int .u32))],[],[.p (.sl (.int .u32))],[],[],ZtD,ZtD,
.lo 941011 [0,1,5,6] [] [qe1,qe1,qe7,qe0] [qo2] 0 [5] [] [qe7] [qo2] ZrU ZvY (fun n0=> .lo 94101401541011 [0,1,5,6,7,8] [] [qe1,qe1,qe7,qe0,ZBz,qe0] [qo2] 2 [0,1,5,6,7] [] [qe1,qe1,qe7,qe0,ZBz] [qo2] ZtZ (ZvZ (ZrU n0)) (fun _=> .nil) <|
.nil) <|
.nil⟩
theorem ZIb:Zeg X0.E 138 ZLu.sig:=ZLu.ok G0 Tryz.func138 ⟨ZCI,trivial⟩ rfl rfl (by kernel_rfl)
noncomputable def ZKB:FD U:=⟨90,Tryz.f90,[ZLu.sg,D91.sg],[.p (.st 2),.p (.st 2)],[],[.p (.st 2)],[],[],Zn7,Zn7,
.nil⟩
theorem ZFx:Zeg X0.E 90 ZKB.sig:=ZKB.ok G0 Tryz.func90 ⟨ZIb,ZDy,trivial⟩ rfl rfl (by kernel_rfl)
noncomputable def ZLt:FD U:=⟨136,Tryz.f136,[],[.p (.sl (.int .u32)),.p (.sl (.int .u32))],[],[.own (.int .u32)],[],[],ZrJ,ZrJ,
.lo 9410111 [0,1,5,6,7] [] ZKQ [qo2] 0 [5,6] [] [qe7,ZBz] [qo2] ZpK Zv7 (fun n0=> .j 9105410111 [0,1,5,6,7,17] [] [qe1,qe1,qe7,ZBz,qe0,qe3] [qo2] (ZqF (ZpK n0)) <|
.j 914015410111 [0,1,5,6,7] [] ZKQ [qo2] (ZrY (ZpK n0)) <|
.j 9114015410111 [0,1,5,6,7] [] ZKQ [qo2] (ZrX (ZpK n0)) <|
.nil) <|
.nil⟩
theorem ZIa:Zeg X0.E 136 ZLt.sig:=ZLt.ok G0 Tryz.func136 trivial rfl rfl (by kernel_rfl)
noncomputable def ZKA:FD U:=⟨89,Tryz.f89,[ZLt.sg,D91.sg,D95.sg,D96.sg],[.p (.st 2),.p (.st 2)],[],[.p (.st 2)],[],[],Zqs,Zqs,
.nil⟩
theorem ZFw:Zeg X0.E 89 ZKA.sig:=ZKA.ok G0 Tryz.func89 ⟨ZIa,ZDy,ZEg,ZFr,trivial⟩ rfl rfl (by kernel_rfl)
noncomputable def ZLs:FD U:=⟨91,Tryz.f91,[D91.sg],[.p (.st 2)],[],[.p (.st 2)],[],[],Zsq,Zsq,
.nil⟩
theorem ZH9:Zeg X0.E 91 ZLs.sig:=ZLs.ok G0 Tryz.func91 ⟨ZDy,trivial⟩ rfl rfl (by kernel_rfl)
noncomputable def ZLr:FD U:=⟨144,Tryz.f144,[ZKF.sg,D92.sg,ZKB.sg,ZKA.sg,ZLs.sg,ZKr.sg],[.p .str],[],[.p (.st 3),.p .bool],[],[],Zry,Zry,
.lo 94101111 [2,4,6,8,9,27,28,29] [100008] [qe5,qe3,qe8,ZDh,ZD4,.o (.full (0,4,1)),qe0,qe0] [ZKU,ZD3,ZD3,ZIw,qo2,qo2] 0 [2,4,6,8,9] [] [qe5,qe3,qe8,ZDh,ZD4] ZKR Zr5 Zuo (fun _=> .nil) <|
.lo 941011111 [2,4,8,9,43] [] [qe5,qe3,ZDh,ZD4,.o (.it (0,4,1))] [ZKU,ZD3,ZD3,.sit,qo2,qo2] 2 [2,4,8,9] [] [qe5,qe3,ZDh,ZD4] ZKR ZqB Zun (fun n0=> .j 91541011111 [2,4,8,9,43,45] [] [qe5,qe3,ZDh,ZD4,.o (.it (0,4,1)),qe3] [ZKU,ZD3,ZD3,.sit,qo2,qo2] (Zr7 (ZqB n0)) <|
.nil) <|
.j 91111111 [2,8,9] [] [qe5,ZDh,ZD4] ZKR Zr6 <|
.nil⟩
theorem ZH8:Zeg X0.E 144 ZLr.sig:=ZLr.ok G0 Tryz.func144 ⟨ZFC,ZFs,ZFx,ZFw,ZH9,ZDP,trivial⟩ rfl rfl (by kernel_rfl)
noncomputable def ZLq:FD U:=⟨93,Tryz.f93,[ZLv.sg,ZKC.sg,ZKD.sg,ZLr.sg,ZKI.sg],[.p (.int .i64),.p .str],[],[.p (.st 3),.p .bool],[],[],Zso,Zso,
.j 91011 [0,4,6,26] [] [qe0,qe5,qe8,qe3] qp7 ZsU <|
.j 911111 [4,8] [] [qe5,qe0] qp7 ZsT <|
.nil⟩
theorem ZH7:Zeg X0.E 93 ZLq.sig:=ZLq.ok G0 Tryz.func93 ⟨ZIc,ZFy,ZFz,ZH8,ZFF,trivial⟩ rfl rfl (by kernel_rfl)
noncomputable def ZLp:FD U:=⟨49,Tryz.f49,[ZLq.sg],[.p (.st 0)],[],[.p (.st 3),.p .bool],[],[],ZrO,ZrO,
.nil⟩
theorem ZH6:Zeg X0.E 49 ZLp.sig:=ZLp.ok G0 Tryz.func49 ⟨ZH7,trivial⟩ rfl rfl (by kernel_rfl)
noncomputable def ZKz:FD U:=⟨21,Tryz.f21,[],[.p .str],[],[.p (.int .u64)],[],[],Zri,Zri,
.lo 941011 [0,3,4] [] [qe8,ZBz,qe0] [] 0 [3] [] [ZBz] [] Ztq Zvu (fun _=> .nil) <|
.nil⟩
theorem ZFv:Zeg X0.E 21 ZKz.sig:=ZKz.ok G0 Tryz.func21 trivial rfl rfl (by kernel_rfl)
noncomputable def ZLo:FD U:=⟨88,Tryz.f88,[D93.sg,D95.sg,D98.sg],[.p (.st 3)],[],[.p .bool],[],[],ZqT,ZqT,
.j 9101 [1,24] [] [qe5,qe3] [ZFS] Zp0 <|
.nil⟩
theorem ZH5:Zeg X0.E 88 ZLo.sig:=ZLo.ok G0 Tryz.func88 ⟨ZGM,ZEg,ZGK,trivial⟩ rfl rfl (by kernel_rfl)
noncomputable def ZLn:FD U:=⟨153,Tryz.f153,[ZKr.sg],[.p (.st 2),.p (.st 2)],[],[.p (.st 3),.p (.int .i64)],[],[],ZrT,ZrT,
.j 91011 [4,6,21] [] [qe5,ZDh,qe3] [qo23,ZFS,qo2,qo2] ZsJ <|
.nil⟩
theorem ZH4:Zeg X0.E 153 ZLn.sig:=ZLn.ok G0 Tryz.func153 ⟨ZDP,trivial⟩ rfl rfl (by kernel_rfl)
noncomputable def ZLm:FD U:=⟨130,Tryz.f130,[ZLo.sg,ZKB.sg,ZKA.sg,ZLn.sg],[.p (.st 3),.p (.st 3)],[],[.p (.st 3),.p (.int .i64)],[],[],ZtF,ZtF,
.j 9101 [2,3,4,13] [] [qe5,ZDh,ZD4,qe3] [ZFS,ZFS,ZIM,qo2,qo2] Zt4 <|
.nil⟩
theorem ZH3:Zeg X0.E 130 ZLm.sig:=ZLm.ok G0 Tryz.func130 ⟨ZH5,ZFx,ZFw,ZH4,trivial⟩ rfl rfl (by kernel_rfl)
noncomputable def ZLl:FD U:=⟨86,Tryz.f86,[ZLm.sg],[.p (.st 3),.p (.st 3)],[],[.p (.st 3)],[],[],ZtC,ZtC,
.nil⟩
theorem ZH2:Zeg X0.E 86 ZLl.sig:=ZLl.ok G0 Tryz.func86 ⟨ZH3,trivial⟩ rfl rfl (by kernel_rfl)
noncomputable def ZLk:FD U:=⟨161,Tryz.f161,[],[.p (.st 4),.p (.st 4)],[],[.p .bool],[],[],ZrN,ZrN,
.j 911 [4] [] [qe3] [] ZqH <|
.nil⟩
theorem ZH1:Zeg X0.E 161 ZLk.sig:=ZLk.ok G0 Tryz.func161 trivial rfl rfl (by kernel_rfl)
noncomputable def ZLj:FD U:=⟨105,Tryz.f105,[ZLl.sg,ZLk.sg],[.p (.sl (.st 4)),.p (.st 4)],[],[.own (.st 4)],[],[],ZpS,ZpS,
.lo 9410111 [3,5,6,9,10,11] [] [qe5,ZEn,qe3,ZFT,qe0,qe0] [ZIu,qo4] 0 [3,5,6] [] [qe5,ZEn,qe3] [ZIu,qo4] ZqC ZtV (fun n0=> .j 91310140115410111 [3,5,6,8,9,10,11,38] [] [qe5,ZEn,qe3,ZD4,ZFT,qe0,qe0,qe3] [ZIu,qo4,ZIu] (ZrM (ZqC n0)) <|
.j 91140115410111 [3,5,6,8,9,10,11] [] [qe5,ZEn,qe3,ZD4,ZFT,qe0,qe0] [ZIu,qo4,ZIu] (Zpf (ZqC n0)) <|
.nil) <|
.j 911111 [5] [] [qe7] [qo4] ZrL <|
.nil⟩
theorem ZH0:Zeg X0.E 105 ZLj.sig:=ZLj.ok G0 Tryz.func105 ⟨ZH2,ZH1,trivial⟩ rfl rfl (by kernel_rfl)
noncomputable def ZLi:FD U:=⟨58,Tryz.f58,[ZLp.sg,ZKz.sg,ZLj.sg],[.p (.st 1),.p (.st 1)],[],[.own (.st 4)],[],[],ZsQ,ZsQ,
.lo 941011 [3,5,11,12,13] [] [qe5,ZEn,ZHj,qe0,qe0] [ZEP,qo4] 0 [5] [] [qe7] [qo4] Zqp Zvt (fun n0=> .j 910114011541011 [3,5,7,8,11,12,13,32] [] [qe5,ZEn,ZD4,ZKV,ZHj,qe0,qe0,qe3] [ZEP,qo4,.boxS (.st 0),ZFS] (Ztn (Zqp n0)) <|
.j 9111541011 [3,5,11,12,13] [] [qe5,ZEn,ZHj,qe0,qe0] [ZEP,qo4] (Ztm (Zqp n0)) <|
.nil) <|
.nil⟩
theorem ZHZ:Zeg X0.E 58 ZLi.sig:=ZLi.ok G0 Tryz.func58 ⟨ZH6,ZFv,ZH0,trivial⟩ rfl rfl (by kernel_rfl)
noncomputable def ZLh:FD U:=⟨18,Tryz.f18,[ZLi.sg],[.p (.st 1),.p (.st 1),.p (.int .i64)],[],[.p (.st 5),.p (.int .i64)],[],[],ZsR,ZsR,
.j 91401 [2,3,4,6,9] [] qs5 qp8 Ztp <|
.j 9131401 [2,3,4,6,17] [] qs5 qp8 Zto <|
.nil⟩
theorem ZHY:Zeg X0.E 18 ZLh.sig:=ZLh.ok G0 Tryz.func18 ⟨ZHZ,trivial⟩ rfl rfl (by kernel_rfl)
noncomputable def ZLg:FD U:=⟨19,Tryz.f19,[ZKH.sg],[.p (.st 5),.p (.st 5)],[],[.p .bool],[],[],Zqr,Zqr,
.j 9101 [2,3,28] [] [qe5,ZDh,qe3] [ZGw,ZGw] Zrs <|
.lr 941011 [3,30,31,32] [] [qe5,ZFT,qe0,qe0] [ZGw] 0 [] [] [] [] Zqn Zvs (fun n0=> .j 91114011541011 [3,30,31,32,68] [] [qe5,ZFT,qe0,qe0,qe3] [ZGw] (Zqo (Zqn n0)) <|
.nil) <|
.nil⟩
theorem ZHX:Zeg X0.E 19 ZLg.sig:=ZLg.ok G0 Tryz.func19 ⟨ZFE,trivial⟩ rfl rfl (by kernel_rfl)
noncomputable def D146:FD U:=⟨3,Tryz.f3,[D0.sg,ZLG.sg,ZLF.sg,ZIm.sg,ZLC.sg,ZKG.sg,D88.sg,ZLh.sg,ZLg.sg,D53.sg,ZKz.sg],[.p (.st 1),.p (.st 1),.p (.sl (.int .i64)),.p (.int .i64),.p .str],[],[.p .bool],[],[],ZrE,ZrE,
.j 9101 [2,3,4,5,6,42] [] [.o (.v (.sl (.int .i64))),qe0,qe8,qe5,ZDh,qe3] [ZEP,ZEP] Zot <|
.lr 941011111 [3,4,66,67,68] [] [qe0,qe8,qe7,qe0,qe0] [ZKS] 0 [4] [] [qe8] [] ZoS Zs6 (fun n0=> .lr 94114011541011111 [3,4,16,66,67,68,78,79,80] [] [qe0,qe8,qe5,ZEn,qe0,qe0,ZHi,qe0,qe0] qp10 2 [3,4,66,67,68] [] [qe0,qe8,qe7,qe0,qe0] [ZKS] ZoR (Zs7 (ZoS n0)) (fun n1=> .j 91111401154114011541011111 [3,4,16,66,67,68,78,79,80,110] [] [qe0,qe8,qe5,ZEn,qe0,qe0,ZHi,qe0,qe0,qe3] qp10 (ZqN (ZoR n1)) <|
.nil) <|
.nil) <|
.j 91111111 [10] [] [qe3] [] ZqM <|
.nil⟩
theorem D146_ok:Zeg X0.E 3 D146.sig:=D146.ok G0 Tryz.func3 ⟨ZLM,ZIo,ZIn,ZCs,ZIj,ZFD,ZGN,ZHY,ZHX,ZEh,ZFv,trivial⟩ rfl rfl (by kernel_rfl)
end
end Go.Proofs

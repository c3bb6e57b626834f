/- Printed by wip/tools/tgen.py: walks. -/
import Derived.Test.YtamebpdbedglkaaGreatDoorMgU
import Derived.Test.YtamebpdbedglkaaGreatDoorMgX
set_option linter.unusedVariables false
set_option linter.unusedSimpArgs false
set_option linter.unusedSectionVars false
namespace Go.Proofs
open Go Eng
set_option maxRecDepth 100000
noncomputable section
abbrev qe0:Sh:= .o (.v (.int .i64))
abbrev qe1:Sh:= .o (.v (.sl (.int .u32)))
abbrev qo2:ShO:= .arr (.int .u32) false
abbrev qo3:ShO:= .arr (.st 4) false
abbrev qe4:Sh:= .o (.ptr (0,1,1) 0 0)
abbrev qe5:Sh:= .o (.v .bool)
abbrev qe6:Sh:= .o (.full (0,0,0))
abbrev qe7:Sh:= .o (.full (0,1,1))
abbrev qe8:Sh:= .o (.ptr (0,2,1) 0 0)
abbrev qe9:Sh:= .fn 28 [] []
abbrev ZE1:ShO:= .box [.o (.v (.int .i64)),.o (.v .bool),.o (.full (0,5,1))]
abbrev ZDb:ShO:= .box [.o (.v (.int .i64)),.o (.v .bool),.o (.full (0,4,1))]
abbrev ZFf:ShO:= .box [.o (.v (.int .i64)),.o (.v .bool),.o (.full (0,6,1))]
abbrev ZyJ:Sh:= .o (.v (.int .u64))
abbrev ZyV:Sh:= .o (.v (.int .u32))
abbrev ZzL:Sh:= .o (.ptr (0,3,1) 0 0)
abbrev ZE0:ShO:= .box [.o (.v .bool),.o (.full (0,2,1)),.o (.v .bool),.o (.full (0,3,1))]
abbrev ZyU:ShO:= .boxS (.st 5)
abbrev ZzK:Sh:= .o (.v (.sl (.st 4)))
abbrev ZFe:ShO:= .box [.o (.v .bool),.o (.full (0,4,1)),.o (.v .bool),.o (.full (0,5,1))]
abbrev ZBz:Sh:= .o (.ptr (0,4,1) 0 0)
abbrev ZA0:Sh:= .o (.sl (0,0,0))
abbrev ZzJ:Sh:= .o (.v .str)
abbrev qo23:ShO:= .box [.o (.v (.int .i64)),.o (.v .bool),.o (.full (0,3,1))]
abbrev ZFd:ShO:= .box [.o (.v .str),.o (.full (0,4,1))]
abbrev ZDa:ShO:= .arr (.st 0) false
abbrev ZBy:ShO:= .boxS (.st 1)
abbrev ZDp:Sh:= .o (.full (0,3,1))
abbrev ZE4:Sh:= .o (.v (.sl (.st 0)))
abbrev qo29:ShO:= .box [.o (.v .bool),.o (.full (0,2,1))]
abbrev ZEZ:ShO:= .map .str (.int .i64)
abbrev qo31:ShO:= .box [.o (.v .str),.o (.full (0,3,1))]
abbrev ZE3:Sh:= .o (.full (0,2,1))
abbrev ZC9:ShO:= .boxS (.st 2)
abbrev ZE2:Sh:= .o (.map (0,2,1))
abbrev qs0:List Sh:=[qe6,qe0,qe9,qe0,qe0]
abbrev qs1:List Sh:=[qe6,qe0,qe0,qe0,qe9,qe5,qe5,qe0,qe0,qe5]
abbrev qs2:List Sh:=[qe6,qe0,qe0,qe9,qe0,qe0]
abbrev qs3:List Sh:=[qe1,qe1,qe0]
abbrev qp4:List ShO:=[ZyU,ZyU,ZE1,ZFf,qo3,qo3]
abbrev qs5:List Sh:=[qe6,qe0,qe9,qe0,qe0,qe5]
abbrev qs6:List Sh:=[qe6,qe0,qe0,qe9,qe0,qe0,qe5]
abbrev qs7:List Sh:=[qe6,qe0,qe0,qe0,qe9,qe5,qe5,qe0,qe0]
noncomputable def D0:FD U:=⟨5,Tryz.f5,[],[.p (.sl (.int .i64))],[],[.p .bool],[],[],Zsf,Zsf,
.nil⟩
theorem ZFP:Zeg X0.E 5 D0.sig:=D0.ok G0 Tryz.func5 trivial rfl rfl (by kernel_rfl)
noncomputable def D1:FD U:=⟨113,Tryz.f113,[],[.p (.sl (.int .u32))],[],[.p (.sl (.int .u32))],[],[],Zoo,Zoo,
.lo 9401 [0] [] [qe1] [] 0 [0] [] [qe1] [] Zpq Zt0 (fun n0=> .j 9105401 [0,14] [] [qe1,qe5] [] (Zsu (Zpq n0)) <|
.nil) <|
.nil⟩
theorem ZAc:Zeg X0.E 113 D1.sig:=D1.ok G0 Tryz.func113 trivial rfl rfl (by kernel_rfl)
noncomputable def D2:FD U:=⟨144,Tryz.f144,[D1.sg],[.p (.int .u64)],[],[.p (.sl (.int .u32))],[],[],Zq0,Zq0,
.nil⟩
theorem ZEL:Zeg X0.E 144 D2.sig:=D2.ok G0 Tryz.func144 ⟨ZAc,trivial⟩ rfl rfl (by kernel_rfl)
noncomputable def D3:FD U:=⟨143,Tryz.f143,[],[.p .bool,.p (.sl (.int .u32))],[],[.p (.st 2)],[],[],Zoy,Zoy,
.j 911 [4] [] [qe4] [qo29,qo2] ZsY <|
.nil⟩
theorem ZAV:Zeg X0.E 143 D3.sig:=D3.ok G0 Tryz.func143 trivial rfl rfl (by kernel_rfl)
noncomputable def D4:FD U:=⟨110,Tryz.f110,[D2.sg,D3.sg],[.p (.int .i64)],[],[.p (.st 2)],[],[],ZrE,ZrE,
.nil⟩
theorem ZFC:Zeg X0.E 110 D4.sig:=D4.ok G0 Tryz.func110 ⟨ZEL,ZAV,trivial⟩ rfl rfl (by kernel_rfl)
noncomputable def D5:FD U:=⟨69,Tryz.f69,[],[.p (.st 2)],[],[.p .bool],[],[],Zrn,Zrn,
.j 9111 [2] [] [qe5] [] Zpa <|
.nil⟩
theorem ZFB:Zeg X0.E 69 D5.sig:=D5.ok G0 Tryz.func69 trivial rfl rfl (by kernel_rfl)
noncomputable def D6:FD U:=⟨44,Tryz.f44,[D5.sg],[.p (.sl (.st 2))],[],[.p .bool],[],[],Ztb,Ztb,
.lr 94101 [5,6,7] [] [.o (.v (.sl (.st 2))),qe0,qe0] [] 0 [] [] [] [] ZtK Zwj (fun _=> .nil) <|
.nil⟩
theorem ZEk:Zeg X0.E 44 D6.sig:=D6.ok G0 Tryz.func44 ⟨ZFB,trivial⟩ rfl rfl (by kernel_rfl)
noncomputable def D7:FD U:=⟨118,Tryz.f118,[],[.p (.int .i64)],[],[.p .bool],[],[],Zt8,Zt8,
.nil⟩
theorem ZFA:Zeg X0.E 118 D7.sig:=D7.ok G0 Tryz.func118 trivial rfl rfl (by kernel_rfl)
noncomputable def D8:FD U:=⟨71,Tryz.f71,[D7.sg],[.p (.int .i64),.p (.int .i64)],[],[.p (.int .i64)],[],[],Ztc,Ztc,
.nil⟩
theorem ZFz:Zeg X0.E 71 D8.sig:=D8.ok G0 Tryz.func71 ⟨ZFA,trivial⟩ rfl rfl (by kernel_rfl)
noncomputable def D9:FD U:=⟨119,Tryz.f119,[],[.p (.int .u32)],[],[.p .bool],[],[],ZtL,ZtL,
.nil⟩
theorem ZFy:Zeg X0.E 119 D9.sig:=D9.ok G0 Tryz.func119 trivial rfl rfl (by kernel_rfl)
noncomputable def D10:FD U:=⟨72,Tryz.f72,[D9.sg],[.p (.int .u32),.p (.int .u32)],[],[.p (.int .i64)],[],[],Zs2,Zs2,
.nil⟩
theorem ZEW:Zeg X0.E 72 D10.sig:=D10.ok G0 Tryz.func72 ⟨ZFy,trivial⟩ rfl rfl (by kernel_rfl)
noncomputable def D11:FD U:=⟨46,Tryz.f46,[D8.sg,D10.sg],[.p (.sl (.int .u32)),.p (.sl (.int .u32))],[],[.p (.int .i64)],[],[],ZoQ,ZoQ,
.lr 941011 [0,1,6] [] qs3 [] 0 [] [] [] [] ZqX Zsc (fun _=> .nil) <|
.nil⟩
theorem ZAX:Zeg X0.E 46 D11.sig:=D11.ok G0 Tryz.func46 ⟨ZFz,ZEW,trivial⟩ rfl rfl (by kernel_rfl)
noncomputable def D12:FD U:=⟨111,Tryz.f111,[],[.p (.sl (.int .u32))],[],[.own (.int .u32)],[],[],ZoN,ZoN,
.j 9101 [0,4] [] [qe1,qe5] [] ZnO <|
.nil⟩
theorem ZCd:Zeg X0.E 111 D12.sig:=D12.ok G0 Tryz.func111 trivial rfl rfl (by kernel_rfl)
noncomputable def D13:FD U:=⟨145,Tryz.f145,[],[.p (.int .u32),.p (.int .u32),.p (.int .u32)],[],[.p (.int .u32),.p (.int .u32)],[],[],Zs7,Zs7,
.j 9101 [0,1,2,15] [] [ZyV,ZyV,ZyV,qe5] [] ZrO <|
.nil⟩
theorem ZEV:Zeg X0.E 145 D13.sig:=D13.ok G0 Tryz.func145 trivial rfl rfl (by kernel_rfl)
noncomputable def D14:FD U:=⟨112,Tryz.f112,[D13.sg,D1.sg],[.p (.sl (.int .u32)),.p (.int .u32)],[],[.p (.sl (.int .u32)),.p (.int .u32)],[],[],Zre,Zre,
.lo 9410111 [0,1,6,7,8] [] [qe1,ZyV,qe7,ZyV,qe0] [qo2] 0 [6,7] [] [qe7,ZyV] [qo2] Zrv ZsQ (fun _=> .nil) <|
.nil⟩
theorem ZEU:Zeg X0.E 112 D14.sig:=D14.ok G0 Tryz.func112 ⟨ZEV,ZAc,trivial⟩ rfl rfl (by kernel_rfl)
noncomputable def D15:FD U:=⟨101,Tryz.f101,[],[.p (.int .u32)],[],[.p (.int .i64)],[],[],Zs6,Zs6,
.j 911 [0,2] [] [ZyV,qe0] [] ZsW <|
.j 9111 [0,2] [] [ZyV,qe0] [] Zq1 <|
.nil⟩
theorem ZET:Zeg X0.E 101 D15.sig:=D15.ok G0 Tryz.func101 trivial rfl rfl (by kernel_rfl)
noncomputable def D16:FD U:=⟨114,Tryz.f114,[D15.sg],[.p (.int .u32)],[],[.p (.int .i64)],[],[],Zp4,Zp4,
.nil⟩
theorem ZES:Zeg X0.E 114 D16.sig:=D16.ok G0 Tryz.func114 ⟨ZET,trivial⟩ rfl rfl (by kernel_rfl)
noncomputable def D17:FD U:=⟨115,Tryz.f115,[],[.p (.sl (.int .u32)),.p (.int .i64)],[],[.own (.int .u32)],[],[],Zpf,Zpf,
.lo 941011 [1,5,13,14,15] [] [qe0,qe7,qe1,qe0,qe0] [qo2] 0 [5] [] [qe7] [qo2] ZqV Zsa (fun _=> .nil) <|
.nil⟩
theorem ZER:Zeg X0.E 115 D17.sig:=D17.ok G0 Tryz.func115 trivial rfl rfl (by kernel_rfl)
noncomputable def D18:FD U:=⟨146,Tryz.f146,[],[.p (.int .u32),.p (.int .u32),.p (.int .u32)],[],[.p (.int .u32),.p (.int .u32)],[],[],Zrj,Zrj,
.nil⟩
theorem ZCc:Zeg X0.E 146 D18.sig:=D18.ok G0 Tryz.func146 trivial rfl rfl (by kernel_rfl)
noncomputable def D19:FD U:=⟨147,Tryz.f147,[],[.p (.int .u32),.p (.int .u32),.p (.int .u32)],[],[.p (.int .u32),.p (.int .u32)],[],[],ZrX,ZrX,
.nil⟩
theorem ZCb:Zeg X0.E 147 D19.sig:=D19.ok G0 Tryz.func147 trivial rfl rfl (by kernel_rfl)
noncomputable def D20:FD U:=⟨116,Tryz.f116,[D18.sg,D19.sg],[.part (.int .u32),.p (.sl (.int .u32))],[(0,.arr (.int .u32))],[.p (.int .u32)],[],[],ZuI,ZtJ,
.lo 94011111 [0,1,5,7,8] [] [ZA0,qe1,qe0,ZyJ,ZyJ] [qo2] 0 [0,1,5,7] [] [ZA0,qe1,qe0,ZyJ] [qo2] Zrl Zto (fun n0=> .j 91054011111 [0,1,5,7,8,71] [] [ZA0,qe1,qe0,ZyJ,ZyJ,qe5] [qo2] (Zse (Zrl n0)) <|
.nil) <|
.lo 941011111111 [0,1,5,7,9,10,82,83,84] [] [ZA0,qe1,qe0,ZyJ,ZyV,ZyJ,qe1,qe0,qe0] [qo2] 2 [0,1,5,7,9,10] [] [ZA0,qe1,qe0,ZyJ,ZyV,ZyJ] [qo2] Ztm ZuN (fun _=> .nil) <|
.lo 941011111111111 [0,5,7,13,130,131,132] [] [ZA0,qe0,ZyJ,ZyV,qe1,qe0,qe0] [qo2] 4 [0,5,7,13] [] [ZA0,qe0,ZyJ,ZyV] [qo2] Zsd Ztn (fun _=> .nil) <|
.nil⟩
theorem ZEQ:Zeg X0.E 116 D20.sig:=D20.okA G0 Tryz.func116 ⟨ZCc,ZCb,trivial⟩ (by kernel_rfl) (by kernel_rfl)
noncomputable def D21:FD U:=⟨113,Tryz.f113,[],[.part (.int .u32)],[(0,.arr (.int .u32))],[.view 0],[],[],ZsX,Zsg,
.lo 9401 [0] [] [ZA0] [qo2] 0 [0] [] [ZA0] [qo2] ZqY Ztl (fun n0=> .j 9105401 [0,14] [] [ZA0,qe5] [qo2] (ZrV (ZqY n0)) <|
.nil) <|
.nil⟩
theorem ZEP:Zeg X0.E 113 D21.sig:=D21.okA G0 Tryz.func113 trivial (by kernel_rfl) (by kernel_rfl)
noncomputable def D22:FD U:=⟨117,Tryz.f117,[],[.p (.sl (.int .u32)),.p (.int .i64)],[],[.p (.int .u32)],[],[],ZqC,ZqC,
.nil⟩
theorem ZCa:Zeg X0.E 117 D22.sig:=D22.ok G0 Tryz.func117 trivial rfl rfl (by kernel_rfl)
noncomputable def D23:FD U:=⟨117,Tryz.f117,[],[.part (.int .u32),.p (.int .i64)],[(0,.arr (.int .u32))],[.p (.int .u32)],[],[],ZtZ,ZrT,
.nil⟩
theorem ZEO:Zeg X0.E 117 D23.sig:=D23.okA G0 Tryz.func117 trivial (by kernel_rfl) (by kernel_rfl)
noncomputable def D24:FD U:=⟨70,Tryz.f70,[D11.sg,D12.sg,D14.sg,D1.sg,D16.sg,D17.sg,D20.sg,D21.sg,D23.sg],[.p (.sl (.int .u32)),.p (.sl (.int .u32))],[],[.p (.sl (.int .u32)),.p (.sl (.int .u32))],[],[(84,7)],ZpQ,ZpQ,
.lo 9410111111 [8,9,10,11,12,13] [11] [qe0,qe0,qe7,qe1,ZE3,qe0] [qo2,qo2] 1 [8,9,10,12] [] [qe0,qe0,qe7,ZE3] [qo2,qo2] ZqF Zta (fun _=> .nil) <|
.lo 941011111111 [9,12,14,86,87] [] [qe0,qe7,.o (.sl (0,2,1)),qe0,qe0] [qo2,qo2] 3 [12,14] [] [qe7,.o (.sl (0,2,1))] [qo2,qo2] ZqE Zs9 (fun _=> .nil) <|
.nil⟩
theorem ZB9:Zeg X0.E 70 D24.sig:=D24.ok G0 Tryz.func70 ⟨ZAX,ZCd,ZEU,ZAc,ZES,ZER,ZEQ,ZEP,ZEO,trivial⟩ rfl rfl (by kernel_rfl)
noncomputable def D25:FD U:=⟨45,Tryz.f45,[D24.sg],[.p (.sl (.int .u32)),.p (.sl (.int .u32))],[],[.p (.sl (.int .u32))],[],[],ZpZ,ZpZ,
.lo 9401 [0,1] [] [qe1,qe1] [] 0 [0] [] [qe1] [] ZoX Zsr (fun _=> .nil) <|
.nil⟩
theorem ZB8:Zeg X0.E 45 D25.sig:=D25.ok G0 Tryz.func45 ⟨ZB9,trivial⟩ rfl rfl (by kernel_rfl)
noncomputable def D26:FD U:=⟨124,Tryz.f124,[D25.sg,D24.sg,D3.sg],[.p (.st 2),.p (.st 2)],[],[.p (.st 3)],[],[],Zp7,Zp7,
.nil⟩
theorem ZAW:Zeg X0.E 124 D26.sig:=D26.ok G0 Tryz.func124 ⟨ZB8,ZB9,ZAV,trivial⟩ rfl rfl (by kernel_rfl)
noncomputable def D27:FD U:=⟨109,Tryz.f109,[D6.sg,D26.sg],[.p (.st 2),.p (.st 2)],[],[.p (.st 3),.p (.int .i64)],[],[],Zt4,Zt4,
.nil⟩
theorem ZEN:Zeg X0.E 109 D27.sig:=D27.ok G0 Tryz.func109 ⟨ZEk,ZAW,trivial⟩ rfl rfl (by kernel_rfl)
noncomputable def D28:FD U:=⟨68,Tryz.f68,[D4.sg,D27.sg],[.p (.int .i64),.p (.int .i64)],[],[.p (.st 3),.p (.int .i64)],[],[],Zu0,Zu0,
.nil⟩
theorem ZEM:Zeg X0.E 68 D28.sig:=D28.ok G0 Tryz.func68 ⟨ZFC,ZEN,trivial⟩ rfl rfl (by kernel_rfl)
noncomputable def D29:FD U:=⟨43,Tryz.f43,[D28.sg],[],[],[.p (.st 3)],[],[],ZvW,ZvW,
.nil⟩
theorem ZB7:Zeg X0.E 43 D29.sig:=D29.ok G0 Tryz.func43 ⟨ZEM,trivial⟩ rfl rfl (by kernel_rfl)
noncomputable def D30:FD U:=⟨108,Tryz.f108,[],[],[],[.map (.int .i64) (.st 6)],[],[],ZvL,ZvL,
.nil⟩
theorem ZB6:Zeg X0.E 108 D30.sig:=D30.ok G0 Tryz.func108 trivial rfl rfl (by kernel_rfl)
noncomputable def D32:FD U:=⟨134,Tryz.f134,[(155,ZvD.sig)],[.p .str],[],[.p .str],[],[],Zxe,Zxe,
.nil⟩
theorem ZEK:Zeg X0.E 134 D32.sig:=D32.ok G0 Tryz.func134 ⟨Zwd,trivial⟩ rfl rfl (by kernel_rfl)
noncomputable def D33:FD U:=⟨193,Tryz.f193,[],[.p .str,.p .str],[],[.p .bool],[],[],ZpI,ZpI,
.j 911 [4] [] [qe5] [] ZqB <|
.nil⟩
theorem ZB5:Zeg X0.E 193 D33.sig:=D33.ok G0 Tryz.func193 trivial rfl rfl (by kernel_rfl)
noncomputable def D34:FD U:=⟨179,Tryz.f179,[D33.sg],[.p .str,.p .str],[],[.p .str,.p .bool],[],[],Zq5,Zq5,
.nil⟩
theorem ZEJ:Zeg X0.E 179 D34.sig:=D34.ok G0 Tryz.func179 ⟨ZB5,trivial⟩ rfl rfl (by kernel_rfl)
noncomputable def D35:FD U:=⟨159,Tryz.f159,[D34.sg],[.p .str,.p .str],[],[.p .str,.p .bool],[],[],ZuJ,ZuJ,
.nil⟩
theorem ZEI:Zeg X0.E 159 D35.sig:=D35.ok G0 Tryz.func159 ⟨ZEJ,trivial⟩ rfl rfl (by kernel_rfl)
noncomputable def D36:FD U:=⟨180,Tryz.f180,[D33.sg],[.p .str,.p .str],[],[.p .str],[],[],ZqR,ZqR,
.nil⟩
theorem ZEH:Zeg X0.E 180 D36.sig:=D36.ok G0 Tryz.func180 ⟨ZB5,trivial⟩ rfl rfl (by kernel_rfl)
noncomputable def D37:FD U:=⟨160,Tryz.f160,[D36.sg],[.p .str,.p .str],[],[.p .str],[],[],Zus,Zus,
.nil⟩
theorem ZEG:Zeg X0.E 160 D37.sig:=D37.ok G0 Tryz.func160 ⟨ZEH,trivial⟩ rfl rfl (by kernel_rfl)
noncomputable def D39:FD U:=⟨192,Tryz.f192,[(211,Zsh.sig)],[.p .str,.p .str],[],[.p (.int .i64)],[],[],ZrS,ZrS,
.j 914011 [0,1,5,16] [] [ZzJ,ZzJ,qe0,qe5] [] Zrk <|
.nil⟩
theorem ZEF:Zeg X0.E 192 D39.sig:=D39.ok G0 Tryz.func192 ⟨Zuy,trivial⟩ rfl rfl (by kernel_rfl)
noncomputable def D40:FD U:=⟨181,Tryz.f181,[D39.sg],[.p .str,.p .str],[],[.p .str,.p .str,.p .bool],[],[],Zsn,Zsn,
.nil⟩
theorem ZEE:Zeg X0.E 181 D40.sig:=D40.ok G0 Tryz.func181 ⟨ZEF,trivial⟩ rfl rfl (by kernel_rfl)
noncomputable def D41:FD U:=⟨161,Tryz.f161,[D40.sg],[.p .str,.p .str],[],[.p .str,.p .str,.p .bool],[],[],ZvQ,ZvQ,
.nil⟩
theorem ZB4:Zeg X0.E 161 D41.sig:=D41.ok G0 Tryz.func161 ⟨ZEE,trivial⟩ rfl rfl (by kernel_rfl)
noncomputable def D42:FD U:=⟨162,Tryz.f162,[(155,ZvD.sig)],[.p .str,.p (.int .i64)],[],[.p .bool],[],[],Zum,Zum,
.j 911 [4] [] [qe5] [] ZsZ <|
.nil⟩
theorem ZED:Zeg X0.E 162 D42.sig:=D42.ok G0 Tryz.func162 ⟨Zwd,trivial⟩ rfl rfl (by kernel_rfl)
noncomputable def D43:FD U:=⟨151,Tryz.f151,[D1.sg],[.p (.sl (.int .u32)),.p (.sl (.int .u32))],[],[.p (.sl (.int .u32))],[],[],ZpD,ZpD,
.lo 941011 [1,5,17,18,19] [] [qe1,qe7,qe1,qe0,qe0] [qo2] 0 [5] [] [qe7] [qo2] Zqi ZsO (fun n0=> .lo 9410114011541011 [1,5,6,7,8,17,18,19,24,25,26] [] [qe1,qe7,qe0,ZyV,ZyJ,qe1,qe0,qe0,qe1,qe0,qe0] [qo2] 2 [1,5,6,8,17,18,19] [] [qe1,qe7,qe0,ZyJ,qe1,qe0,qe0] [qo2] Zru (ZsP (Zqi n0)) (fun _=> .nil) <|
.nil) <|
.nil⟩
theorem ZB3:Zeg X0.E 151 D43.sig:=D43.ok G0 Tryz.func151 ⟨ZAc,trivial⟩ rfl rfl (by kernel_rfl)
noncomputable def D44:FD U:=⟨149,Tryz.f149,[D22.sg,D19.sg,D1.sg],[.p (.sl (.int .u32)),.p (.sl (.int .u32))],[],[.p (.sl (.int .u32))],[],[],ZqD,ZqD,
.lo 9410111 [0,1,5,6,20,21] [] [qe1,qe1,qe7,ZyV,qe0,qe0] [qo2] 0 [5,6] [] [qe7,ZyV] [qo2] ZrD Zs8 (fun _=> .nil) <|
.nil⟩
theorem ZB2:Zeg X0.E 149 D44.sig:=D44.ok G0 Tryz.func149 ⟨ZCa,ZCb,ZAc,trivial⟩ rfl rfl (by kernel_rfl)
noncomputable def D45:FD U:=⟨139,Tryz.f139,[D35.sg,D37.sg,D41.sg,D42.sg,D12.sg,D43.sg,D2.sg,D44.sg,D3.sg,D26.sg],[.p .str],[],[.p (.st 3),.p .bool],[],[],ZrF,ZrF,
.j 9111 [2,4,5] [] [qe4,ZzJ,qe5] [ZE0,qo2,qo2] Zt7 <|
.j 9101111 [2,5,6,7,39] [] [qe4,qe5,ZzJ,ZzJ,qe5] [ZE0,qo2,qo2] Zsy <|
.lo 941011111111 [2,5,7,9,10,11,47,48,49] [9,10] [qe4,qe5,ZzJ,qe1,qe1,ZE3,ZDp,qe0,qe0] [ZFe,qo2,.arr (.int .u8) false,qo2,qo2] 0 [2,5,7,9,10,11] [] [qe4,qe5,ZzJ,qe1,qe1,ZE3] [.box [.o (.v .bool),.o (.full (0,3,1)),.o (.v .bool),.o (.full (0,4,1))],qo2,qo2,qo2] Zt6 Zvs (fun _=> .nil) <|
.lo 9410111111111 [2,5,9,10,11,63,64] [11] [qe4,qe5,qe1,qe1,qe1,qe0,qe0] [ZE0,qo2,qo2] 2 [2,5,9,11] [] [qe4,qe5,qe1,qe1] [ZE0,qo2,qo2] Zt5 Zsx (fun _=> .nil) <|
.nil⟩
theorem ZB1:Zeg X0.E 139 D45.sig:=D45.ok G0 Tryz.func139 ⟨ZEI,ZEG,ZB4,ZED,ZCd,ZB3,ZEL,ZB2,ZAV,ZAW,trivial⟩ rfl rfl (by kernel_rfl)
noncomputable def D48:FD U:=⟨165,Tryz.f165,[],[.p (.sl .str)],[],[.p .str],[],[],Zv6,Zv6,
.lr 941011 [3,6,7,8] [] [ZzJ,.o (.v (.sl .str)),qe0,qe0] [] 0 [3] [] [ZzJ] [] Zu1 Zwk (fun _=> .nil) <|
.nil⟩
theorem ZEC:Zeg X0.E 165 D48.sig:=D48.ok G0 Tryz.func165 trivial rfl rfl (by kernel_rfl)
noncomputable def D49:FD U:=⟨140,Tryz.f140,[D45.sg,(163,ZvJ.sig),D41.sg,(164,Zvw.sig),D48.sg],[.p .str],[],[.p .str,.p .bool],[],[],ZtR,ZtR,
.j 9111111 [0,9] [] [ZzJ,ZzJ] [] ZuR <|
.j 910111111 [9,43] [] [ZzJ,qe5] [] ZuQ <|
.j 91111111 [9] [] [ZzJ] [] ZuP <|
.nil⟩
theorem ZEB:Zeg X0.E 140 D49.sig:=D49.ok G0 Tryz.func140 ⟨ZB1,ZwD,ZB4,Zwu,ZEC,trivial⟩ rfl rfl (by kernel_rfl)
noncomputable def D50:FD U:=⟨107,Tryz.f107,[D30.sg,D32.sg,D49.sg],[.p (.int .i64),.p .str],[],[.p .str,.p .bool],[],[(26,2)],Zs3,Zs3,
.nil⟩
theorem ZEA:Zeg X0.E 107 D50.sig:=D50.ok G0 Tryz.func107 ⟨ZB6,ZEK,ZEB,trivial⟩ rfl rfl (by kernel_rfl)
noncomputable def D51:FD U:=⟨67,Tryz.f67,[D50.sg,D30.sg,D45.sg],[.p (.int .i64),.p .str],[],[.p (.st 3),.p .bool],[],[(22,2)],ZvM,ZvM,
.nil⟩
theorem ZEz:Zeg X0.E 67 D51.sig:=D51.ok G0 Tryz.func67 ⟨ZEA,ZB6,ZB1,trivial⟩ rfl rfl (by kernel_rfl)
noncomputable def D52:FD U:=⟨42,Tryz.f42,[D29.sg,D51.sg],[.p (.st 0)],[],[.p (.st 3),.p .bool],[],[],Zp6,Zp6,
.nil⟩
theorem ZEy:Zeg X0.E 42 D52.sig:=D52.ok G0 Tryz.func42 ⟨ZB7,ZEz,trivial⟩ rfl rfl (by kernel_rfl)
noncomputable def D53:FD U:=⟨17,Tryz.f17,[],[.p .str],[],[.p (.int .u64)],[],[],Ztk,Ztk,
.lo 941011 [0,3,6,7] [] [ZzJ,ZyJ,qe0,qe0] [] 0 [3] [] [ZyJ] [] ZuH ZvB (fun _=> .nil) <|
.nil⟩
theorem ZAU:Zeg X0.E 17 D53.sig:=D53.ok G0 Tryz.func17 trivial rfl rfl (by kernel_rfl)
noncomputable def D54:FD U:=⟨27,Tryz.f27,[D6.sg,D25.sg,D11.sg],[.p (.st 3)],[],[.p .bool],[],[],ZrN,ZrN,
.j 911 [2] [] [qe5] [] Zrm <|
.nil⟩
theorem ZB0:Zeg X0.E 27 D54.sig:=D54.ok G0 Tryz.func27 ⟨ZEk,ZB8,ZAX,trivial⟩ rfl rfl (by kernel_rfl)
noncomputable def D55:FD U:=⟨123,Tryz.f123,[D43.sg,D3.sg],[.p (.st 2),.p (.st 2)],[],[.p (.st 2)],[],[],Zpg,Zpg,
.nil⟩
theorem ZEx:Zeg X0.E 123 D55.sig:=D55.ok G0 Tryz.func123 ⟨ZB3,ZAV,trivial⟩ rfl rfl (by kernel_rfl)
noncomputable def D56:FD U:=⟨150,Tryz.f150,[D22.sg,D18.sg,D1.sg],[.p (.sl (.int .u32)),.p (.sl (.int .u32))],[],[.p (.sl (.int .u32))],[],[],Zqc,Zqc,
.lo 9410111 [0,1,5,6,12,13] [] [qe1,qe1,qe7,ZyV,qe0,qe0] [qo2] 0 [5] [] [qe7] [qo2] Zrw ZsR (fun _=> .nil) <|
.nil⟩
theorem ZEw:Zeg X0.E 150 D56.sig:=D56.ok G0 Tryz.func150 ⟨ZCa,ZCc,ZAc,trivial⟩ rfl rfl (by kernel_rfl)
noncomputable def D57:FD U:=⟨122,Tryz.f122,[D44.sg,D3.sg,D11.sg,D56.sg],[.p (.st 2),.p (.st 2)],[],[.p (.st 2)],[],[],ZtB,ZtB,
.nil⟩
theorem ZEv:Zeg X0.E 122 D57.sig:=D57.ok G0 Tryz.func122 ⟨ZB2,ZAV,ZAX,ZEw,trivial⟩ rfl rfl (by kernel_rfl)
noncomputable def D58:FD U:=⟨91,Tryz.f91,[D55.sg,D57.sg],[.p (.st 3),.p (.st 3)],[],[.p (.st 2),.p (.st 2)],[],[],ZuZ,ZuZ,
.nil⟩
theorem ZEu:Zeg X0.E 91 D58.sig:=D58.ok G0 Tryz.func91 ⟨ZEx,ZEv,trivial⟩ rfl rfl (by kernel_rfl)
noncomputable def D59:FD U:=⟨92,Tryz.f92,[D54.sg,D58.sg,D26.sg],[.fn 91 [] [],.p (.st 3),.p (.st 3)],[],[.p (.st 3),.p (.int .i64)],[],[],ZqZ,ZqZ,
.j 9101 [0,4,5,6,18] [] [.fn 91 [] [],qe4,qe8,ZzL,qe5] [.boxS (.st 3),.boxS (.st 3),ZFe,qo2,qo2] Zp8 <|
.nil⟩
theorem ZEt:Zeg X0.E 92 D59.sig:=D59.ok G0 Tryz.func92 ⟨ZB0,ZEu,ZAW,trivial⟩ rfl rfl (by kernel_rfl)
noncomputable def D60:FD U:=⟨63,Tryz.f63,[D59.sg],[.p (.st 3),.p (.st 3)],[],[.p (.st 3),.p (.int .i64)],[],[],ZuD,ZuD,
.nil⟩
theorem ZEs:Zeg X0.E 63 D60.sig:=D60.ok G0 Tryz.func63 ⟨ZEt,trivial⟩ rfl rfl (by kernel_rfl)
noncomputable def D61:FD U:=⟨62,Tryz.f62,[],[.p (.st 3),.p (.int .i64)],[],[.p (.st 3)],[],[],Zww,Zww,
.nil⟩
theorem ZEr:Zeg X0.E 62 D61.sig:=D61.ok G0 Tryz.func62 trivial rfl rfl (by kernel_rfl)
noncomputable def D62:FD U:=⟨36,Tryz.f36,[D60.sg,D61.sg],[.p (.st 3),.p (.st 3)],[],[.p (.st 3)],[],[],Zwr,Zwr,
.nil⟩
theorem ZBZ:Zeg X0.E 36 D62.sig:=D62.ok G0 Tryz.func36 ⟨ZEs,ZEr,trivial⟩ rfl rfl (by kernel_rfl)
noncomputable def D63:FD U:=⟨102,Tryz.f102,[],[.p (.int .u64)],[],[.p (.int .i64)],[],[],Zvd,Zvd,
.j 911 [0,2] [] [ZyJ,qe0] [] Zuv <|
.j 9111 [0,2] [] [ZyJ,qe0] [] Zuu <|
.j 91111 [0,2] [] [ZyJ,qe0] [] Zut <|
.nil⟩
theorem ZEq:Zeg X0.E 102 D63.sig:=D63.ok G0 Tryz.func102 trivial rfl rfl (by kernel_rfl)
noncomputable def D64:FD U:=⟨65,Tryz.f65,[D63.sg],[.p (.int .u64)],[],[.p (.int .i64)],[],[],ZuW,ZuW,
.nil⟩
theorem ZEp:Zeg X0.E 65 D64.sig:=D64.ok G0 Tryz.func65 ⟨ZEq,trivial⟩ rfl rfl (by kernel_rfl)
noncomputable def D65:FD U:=⟨73,Tryz.f73,[],[.p (.int .u64)],[],[.p .bool],[],[],Zsz,Zsz,
.nil⟩
theorem ZEo:Zeg X0.E 73 D65.sig:=D65.ok G0 Tryz.func73 trivial rfl rfl (by kernel_rfl)
noncomputable def D66:FD U:=⟨48,Tryz.f48,[D65.sg],[.p (.int .u64),.p (.int .u64)],[],[.p (.int .i64)],[],[],Zs1,Zs1,
.nil⟩
theorem ZEn:Zeg X0.E 48 D66.sig:=D66.ok G0 Tryz.func48 ⟨ZEo,trivial⟩ rfl rfl (by kernel_rfl)
noncomputable def D68:FD U:=⟨49,Tryz.f49,[(74,Zsi.sig)],[.p .str,.p .str],[],[.p (.int .i64)],[],[],Zue,Zue,
.nil⟩
theorem ZEm:Zeg X0.E 49 D68.sig:=D68.ok G0 Tryz.func49 ⟨Zuz,trivial⟩ rfl rfl (by kernel_rfl)
noncomputable def D69:FD U:=⟨47,Tryz.f47,[],[.p (.sl (.int .i64))],[],[.p (.int .i64)],[],[],Zvt,Zvt,
.lr 941011 [3,6,7,8] [] [qe0,.o (.v (.sl (.int .i64))),qe0,qe0] [] 0 [3] [] [qe0] [] Zt9 Zv7 (fun _=> .nil) <|
.nil⟩
theorem ZEl:Zeg X0.E 47 D69.sig:=D69.ok G0 Tryz.func47 trivial rfl rfl (by kernel_rfl)
noncomputable def D70:FD U:=⟨28,Tryz.f28,[D66.sg,D68.sg,D69.sg],[.p (.st 4),.p (.st 4)],[],[.p (.int .i64)],[],[],Zor,Zor,
.nil⟩
theorem ZxA:Zeg X0.E 28 D70.sig:=D70.ok G0 Tryz.func28 ⟨ZEn,ZEm,ZEl,trivial⟩ rfl rfl (by kernel_rfl)
noncomputable def D71:FD U:=⟨93,Tryz.f93,[D70.sg],[.arr (.st 4),.p (.int .i64),.p (.int .i64),.fn 28 [] []],[(0,.arr (.st 4))],[],[],[],Zox,Zoa,
.lo 941 [0,1,2,3,8] [] [qe6,qe0,qe0,qe9,qe0] [qo3] 0 [] [] [] [qo3] Zn7 Zo1 (fun n0=> .lo 941401541 [0,1,2,3,8,9] [] qs2 [qo3] 2 [0,1,2,3,8] [] [qe6,qe0,qe0,qe9,qe0] [qo3] ZnV (Zo2 (Zn7 n0)) (fun n1=> .j 910541401541 [0,1,2,3,8,9,34] [] qs6 [qo3] (Zol (ZnV n1)) <|
.nil) <|
.nil) <|
.nil⟩
theorem ZBY:Zeg X0.E 93 D71.sig:=D71.okA G0 Tryz.func93 ⟨ZxA,trivial⟩ (by kernel_rfl) (by kernel_rfl)
noncomputable def D72:FD U:=⟨152,Tryz.f152,[D70.sg],[.arr (.st 4),.p (.int .i64),.p (.int .i64),.box (.int .i64),.fn 28 [] []],[(0,.arr (.st 4)),(3,.box (.int .i64))],[.p (.int .i64),.p (.int .i64)],[],[],ZpX,Zoc,
.nil⟩
theorem ZEj:Zeg X0.E 152 D72.sig:=D72.okA G0 Tryz.func152 ⟨ZxA,trivial⟩ (by kernel_rfl) (by kernel_rfl)
noncomputable def D73:FD U:=⟨129,Tryz.f129,[D72.sg],[.arr (.st 4),.p (.int .i64),.p (.int .i64),.p (.int .i64),.box (.int .i64),.fn 28 [] []],[(0,.arr (.st 4)),(4,.box (.int .i64))],[.p (.int .i64)],[],[],ZpY,ZoS,
.nil⟩
theorem ZBX:Zeg X0.E 129 D73.sig:=D73.okA G0 Tryz.func129 ⟨ZEj,trivial⟩ (by kernel_rfl) (by kernel_rfl)
noncomputable def D74:FD U:=⟨128,Tryz.f128,[D73.sg],[.arr (.st 4),.p (.int .i64),.box (.int .i64),.fn 28 [] []],[(0,.arr (.st 4)),(2,.box (.int .i64))],[.p (.int .i64)],[],[],ZqA,Zok,
.nil⟩
theorem ZEi:Zeg X0.E 128 D74.sig:=D74.okA G0 Tryz.func128 ⟨ZBX,trivial⟩ (by kernel_rfl) (by kernel_rfl)
noncomputable def D75:FD U:=⟨96,Tryz.f96,[D74.sg,D73.sg],[.arr (.st 4),.p (.int .i64),.p (.int .i64),.fn 28 [] []],[(0,.arr (.st 4))],[.p (.int .i64),.p (.int .i64)],[],[],Zpv,Zoe,
.j 91210111111 [0,3,11,12,13,14] [] [qe6,qe9,qe4,qe0,qe0,qe0] [qo3,.boxS (.int .i64)] Zow <|
.j 91111111 [11,13] [] [qe4,qe0] [qo3,.boxS (.int .i64)] Zov <|
.nil⟩
theorem ZBW:Zeg X0.E 96 D75.sig:=D75.okA G0 Tryz.func96 ⟨ZEi,ZBX,trivial⟩ (by kernel_rfl) (by kernel_rfl)
noncomputable def D76:FD U:=⟨98,Tryz.f98,[D70.sg],[.arr (.st 4),.p (.int .i64),.p (.int .i64),.fn 28 [] []],[(0,.arr (.st 4))],[.p .bool],[],[],Zof,ZnY,
.lr 941011 [0,1,2,3,9,10] [] qs2 [qo3] 0 [] [] [] [qo3] ZnM Zpw (fun n0=> .lo 940401541011 [0,1,2,3,9,10] [] qs2 [qo3] 2 [0,1,2,3,9,10] [] qs2 [qo3] ZnW (ZoC (ZnM n0)) (fun n1=> .j 910540401541011 [0,1,2,3,9,10,36] [] qs6 [qo3] (Zob (ZnW n1)) <|
.nil) <|
.lo 9412101111401541011 [0,1,2,3,9,10,11] [] [qe6,qe0,qe0,qe9,qe0,qe0,qe0] [qo3] 4 [0,1,2,3,9,10] [] qs2 [qo3] ZoB (Zpy (ZnM n0)) (fun _=> .nil) <|
.j 9111111401541011 [0,1,2,3,9,10,104] [] qs6 [qo3] (ZoD (ZnM n0)) <|
.lo 9412111111401541011 [0,1,2,3,9,10,12] [] [qe6,qe0,qe0,qe9,qe0,qe0,qe0] [qo3] 6 [0,1,2,3,9,10] [] qs2 [qo3] ZoA (Zpx (ZnM n0)) (fun _=> .nil) <|
.nil) <|
.nil⟩
theorem ZBV:Zeg X0.E 98 D76.sig:=D76.okA G0 Tryz.func98 ⟨ZxA,trivial⟩ (by kernel_rfl) (by kernel_rfl)
noncomputable def D77:FD U:=⟨100,Tryz.f100,[D70.sg],[.arr (.st 4),.p (.int .i64),.p (.int .i64),.p (.int .i64),.fn 28 [] []],[(0,.arr (.st 4))],[.p (.int .i64),.p .bool],[],[],ZoP,ZoK,
.lo 940111 [0,1,4,12,13] [] qs0 [qo3] 0 [0,1,4,12,13] [] qs0 [qo3] Zn5 Zpn (fun n0=> .j 910540111 [0,1,4,12,13,47] [] qs5 [qo3] (ZoJ (Zn5 n0)) <|
.nil) <|
.lo 9401111 [0,1,4,12,13] [] qs0 [qo3] 2 [0,1,4,12,13] [] qs0 [qo3] Zn4 Zpm (fun n0=> .j 9105401111 [0,1,4,12,13,66] [] qs5 [qo3] (ZoI (Zn4 n0)) <|
.nil) <|
.lo 940111111111 [0,1,4,12,13] [] qs0 [qo3] 4 [0,1,13] [] [qe6,qe0,qe0] [qo3] ZnU Zpj (fun n0=> .lo 9404540111111111 [0,1,4,12,13] [] qs0 [qo3] 6 [0,1,4,12,13] [] qs0 [qo3] Zn3 (Zpl (ZnU n0)) (fun n1=> .j 9105404540111111111 [0,1,4,12,13,120] [] qs5 [qo3] (ZoH (Zn3 n1)) <|
.nil) <|
.lo 94014540111111111 [0,1,4,12,13] [] qs0 [qo3] 8 [0,1,4,12,13] [] qs0 [qo3] Zn2 (Zpk (ZnU n0)) (fun n1=> .j 91054014540111111111 [0,1,4,12,13,139] [] qs5 [qo3] (ZoG (Zn2 n1)) <|
.nil) <|
.nil) <|
.nil⟩
theorem ZBU:Zeg X0.E 100 D77.sig:=D77.okA G0 Tryz.func100 ⟨ZxA,trivial⟩ (by kernel_rfl) (by kernel_rfl)
noncomputable def D78:FD U:=⟨64,Tryz.f64,[D71.sg,D75.sg,D76.sg,D70.sg,D77.sg],[.arr (.st 4),.p (.int .i64),.p (.int .i64),.p (.int .i64),.fn 28 [] []],[(0,.arr (.st 4))],[],[],[],ZpB,Zog,
.lz 9411 [0,1,2,3,4,10,11] [] [qe6,qe0,qe0,qe0,qe9,qe5,qe5] [qo3] Zn1 (fun n0=> .j 91011111145411 [0,1,2,3,4,10,11,12,13,75] [] qs1 [qo3] (ZoF (Zn1 n0)) <|
.j 9111111145411 [0,1,2,3,4,10,11,12,13] [] qs7 [qo3] (Zpi (Zn1 n0)) <|
.j 910111111145411 [0,1,2,3,4,10,11,12,13,97] [] qs1 [qo3] (Zph (Zn1 n0)) <|
.nil) <|
.nil⟩
theorem ZEh:Zeg X0.E 64 D78.sig:=D78.okA G0 Tryz.func64 ⟨ZBY,ZBW,ZBV,ZxA,ZBU,trivial⟩ (by kernel_rfl) (by kernel_rfl)
noncomputable def D79:FD U:=⟨64,Tryz.f64,[D71.sg,D75.sg,D76.sg,D70.sg,D77.sg,D78.sg],[.arr (.st 4),.p (.int .i64),.p (.int .i64),.p (.int .i64),.fn 28 [] []],[(0,.arr (.st 4))],[],[],[],Zo0,Zn8,
.lz 9411 [0,1,2,3,4,10,11] [] [qe6,qe0,qe0,qe0,qe9,qe5,qe5] [qo3] ZnJ (fun n0=> .j 91011111145411 [0,1,2,3,4,10,11,12,13,75] [] qs1 [qo3] (Zoj (ZnJ n0)) <|
.j 9111111145411 [0,1,2,3,4,10,11,12,13] [] qs7 [qo3] (Zoi (ZnJ n0)) <|
.j 910111111145411 [0,1,2,3,4,10,11,12,13,97] [] qs1 [qo3] (Zoh (ZnJ n0)) <|
.nil) <|
.nil⟩
theorem ZEg:Zeg X0.E 64 D79.sig:=D79.okA G0 Tryz.func64 ⟨ZBY,ZBW,ZBV,ZxA,ZBU,ZEh,trivial⟩ (by kernel_rfl) (by kernel_rfl)
noncomputable def D80:FD U:=⟨39,Tryz.f39,[D64.sg,D79.sg],[.arr (.st 4),.fn 28 [] []],[(0,.arr (.st 4))],[],[],[],ZoW,ZnT,
.nil⟩
theorem ZBT:Zeg X0.E 39 D80.sig:=D80.okA G0 Tryz.func39 ⟨ZEp,ZEg,trivial⟩ (by kernel_rfl) (by kernel_rfl)
noncomputable def D81:FD U:=⟨26,Tryz.f26,[D52.sg,D53.sg,D29.sg,D62.sg,D80.sg],[.p (.st 1),.p (.st 1)],[],[.own (.st 4)],[],[],ZuU,ZuU,
.lo 9410111 [3,5,6,15,16,17] [] [qe4,ZE2,ZDp,ZE4,qe0,qe0] [ZBy,ZEZ,qo3] 0 [6] [] [qe7] [qo3] Zq3 ZvA (fun n0=> .j 9101140115410111 [3,5,6,8,9,15,16,17,36] [] [qe4,ZE2,ZDp,ZBz,.o (.ptr (0,5,1) 0 0),ZE4,qe0,qe0,qe5] [ZBy,ZEZ,qo3,.boxS (.st 0),.boxS (.st 3)] (ZrK (Zq3 n0)) <|
.j 91111140115410111 [3,5,6,9,11,15,16,17] [] [qe4,ZE2,ZDp,ZBz,qe0,ZE4,qe0,qe0] [ZBy,ZEZ,qo3,.boxS (.st 3)] (Ztu (Zq3 n0)) <|
.j 91115410111 [3,5,6,15,16,17] [] [qe4,ZE2,ZDp,ZE4,qe0,qe0] [ZBy,ZEZ,qo3] (Ztt (Zq3 n0)) <|
.nil) <|
.nil⟩
theorem ZEf:Zeg X0.E 26 D81.sig:=D81.ok G0 Tryz.func26 ⟨ZEy,ZAU,ZB7,ZBZ,ZBT,trivial⟩ rfl rfl (by kernel_rfl)
noncomputable def D82:FD U:=⟨10,Tryz.f10,[D81.sg],[.p (.st 1),.p (.st 1),.p (.int .i64)],[],[.p (.st 5),.p (.int .i64)],[],[],Zst,Zst,
.j 91401 [2,3,4,6,9] [] [qe0,qe4,qe8,ZzL,qe5] [ZBy,ZBy,ZDb,qo3] ZuG <|
.j 9131401 [2,3,4,6,17] [] [qe0,qe4,qe8,ZzL,qe5] [ZBy,ZBy,ZDb,qo3] ZuF <|
.nil⟩
theorem ZBS:Zeg X0.E 10 D82.sig:=D82.ok G0 Tryz.func10 ⟨ZEf,trivial⟩ rfl rfl (by kernel_rfl)
noncomputable def D83:FD U:=⟨12,Tryz.f12,[D53.sg,D54.sg,D70.sg],[.p (.st 5)],[],[.p .bool],[],[],ZqJ,ZqJ,
.j 9101 [1,33] [] [qe4,qe5] [ZyU] Zpe <|
.lr 941011 [1,35,36,37] [] [qe4,ZzK,qe0,qe0] [ZyU] 0 [] [] [] [] ZrW Zuf (fun n0=> .j 9114011541011 [1,35,36,37,73] [] [qe4,ZzK,qe0,qe0,qe5] [ZyU] (Zrg (ZrW n0)) <|
.nil) <|
.nil⟩
theorem ZBR:Zeg X0.E 12 D83.sig:=D83.ok G0 Tryz.func12 ⟨ZAU,ZB0,ZxA,trivial⟩ rfl rfl (by kernel_rfl)
noncomputable def D84:FD U:=⟨90,Tryz.f90,[],[.p (.sl (.int .u32))],[],[.p (.sl (.int .u32))],[],[],Zoq,Zoq,
.lo 9401 [0] [] [qe1] [] 0 [0] [] [qe1] [] ZoT Zuo (fun n0=> .j 9105401 [0,14] [] [qe1,qe5] [] (Zsk (ZoT n0)) <|
.nil) <|
.nil⟩
theorem Zzm:Zeg X0.E 90 D84.sig:=D84.ok G0 Tryz.func90 trivial rfl rfl (by kernel_rfl)
noncomputable def D85:FD U:=⟨87,Tryz.f87,[D84.sg],[.p .bool,.p (.sl (.int .u32))],[],[.p (.st 2)],[],[],Zo9,Zo9,
.j 9111 [4] [] [qe4] [ZC9] Zrs <|
.nil⟩
theorem ZBQ:Zeg X0.E 87 D85.sig:=D85.ok G0 Tryz.func87 ⟨Zzm,trivial⟩ rfl rfl (by kernel_rfl)
noncomputable def D86:FD U:=⟨83,Tryz.f83,[D85.sg],[.p (.int .i64)],[],[.p (.st 2)],[],[],ZoU,ZoU,
.j 9111 [0,2,3] [] [qe0,qe4,ZyJ] [qo29,qo2] Zqm <|
.nil⟩
theorem ZBP:Zeg X0.E 83 D86.sig:=D86.ok G0 Tryz.func83 ⟨ZBQ,trivial⟩ rfl rfl (by kernel_rfl)
noncomputable def D87:FD U:=⟨32,Tryz.f32,[],[.p (.st 2)],[],[.p .bool],[],[],ZpN,ZpN,
.j 9111 [2] [] [qe5] [] Zos <|
.nil⟩
theorem ZEe:Zeg X0.E 32 D87.sig:=D87.ok G0 Tryz.func32 trivial rfl rfl (by kernel_rfl)
noncomputable def D88:FD U:=⟨58,Tryz.f58,[D84.sg],[.p (.sl (.int .u32))],[],[.p (.sl (.int .u32))],[],[],ZoZ,ZoZ,
.lo 941011 [0,3,9,10] [] [qe1,qe7,qe0,qe0] [qo2] 0 [3] [] [qe7] [qo2] Zp1 Zsl (fun n0=> .j 9111541011 [0,3,9,10] [] [qe1,qe7,qe0,qe0] [qo2] (Zp2 (Zp1 n0)) <|
.nil) <|
.nil⟩
theorem ZEd:Zeg X0.E 58 D88.sig:=D88.ok G0 Tryz.func58 ⟨Zzm,trivial⟩ rfl rfl (by kernel_rfl)
noncomputable def D89:FD U:=⟨33,Tryz.f33,[],[.p (.sl (.int .u32)),.p (.sl (.int .u32))],[],[.p (.int .i64)],[],[],Zqb,Zqb,
.lr 941011 [0,1,5] [] qs3 [] 0 [] [] [] [] Zrr ZsI (fun _=> .nil) <|
.nil⟩
theorem ZBO:Zeg X0.E 33 D89.sig:=D89.ok G0 Tryz.func33 trivial rfl rfl (by kernel_rfl)
noncomputable def D90:FD U:=⟨59,Tryz.f59,[D84.sg],[.p (.sl (.int .u32)),.p (.sl (.int .u32))],[],[.p (.sl (.int .u32))],[],[],Zp9,Zp9,
.lo 9410111 [0,1,5,6,7] [] [qe1,qe1,qe7,qe0,qe0] [qo2] 0 [5] [] [qe7] [qo2] Zqd ZsB (fun n0=> .j 9114015410111 [0,1,5,6,7] [] [qe1,qe1,qe7,qe0,qe0] [qo2] (Zqe (Zqd n0)) <|
.nil) <|
.nil⟩
theorem ZBN:Zeg X0.E 59 D90.sig:=D90.ok G0 Tryz.func59 ⟨Zzm,trivial⟩ rfl rfl (by kernel_rfl)
noncomputable def D91:FD U:=⟨60,Tryz.f60,[D84.sg],[.p (.sl (.int .u32)),.p (.int .u32)],[],[.p (.sl (.int .u32))],[],[],ZpG,ZpG,
.lo 941011 [0,1,5,6] [] [qe1,ZyV,qe7,qe0] [qo2] 0 [1,5] [] [ZyV,qe7] [qo2] ZqL ZrZ (fun _=> .nil) <|
.nil⟩
theorem ZBM:Zeg X0.E 60 D91.sig:=D91.ok G0 Tryz.func60 ⟨Zzm,trivial⟩ rfl rfl (by kernel_rfl)
noncomputable def D92:FD U:=⟨34,Tryz.f34,[D88.sg,D89.sg,D90.sg,D91.sg],[.p (.sl (.int .u32)),.p (.sl (.int .u32))],[],[.p (.sl (.int .u32))],[],[],Zrc,Zrc,
.lo 94011 [0,1,5] [] qs3 [] 0 [0,1,5] [] qs3 [] ZpA ZsG (fun n0=> .j 91054011 [0,1,5,17] [] [qe1,qe1,qe0,qe5] [] (Zrq (ZpA n0)) <|
.nil) <|
.lo 940111 [0,1,5] [] qs3 [] 2 [0,5] [] [qe1,qe0] [] Zn9 ZsD (fun n0=> .lo 94041540111 [0,1,5] [] qs3 [] 4 [0,1,5] [] qs3 [] ZoM (ZsF (Zn9 n0)) (fun _=> .nil) <|
.lo 940141540111 [0,1,5] [] qs3 [] 6 [0,1,5] [] qs3 [] ZoL (ZsE (Zn9 n0)) (fun _=> .nil) <|
.j 911141540111 [0,1,5] [] qs3 [] (Zrp (Zn9 n0)) <|
.nil) <|
.lo 9401111 [0,5] [] [qe1,qe0] [] 8 [0] [] [qe1] [] Zpz ZsC (fun _=> .nil) <|
.nil⟩
theorem ZEc:Zeg X0.E 34 D92.sig:=D92.ok G0 Tryz.func34 ⟨ZEd,ZBO,ZBN,ZBM,trivial⟩ rfl rfl (by kernel_rfl)
noncomputable def D93:FD U:=⟨148,Tryz.f148,[],[.p (.sl (.int .u32)),.p (.int .i64)],[],[.p (.int .u32)],[],[],Zrd,Zrd,
.nil⟩
theorem ZEb:Zeg X0.E 148 D93.sig:=D93.ok G0 Tryz.func148 trivial rfl rfl (by kernel_rfl)
noncomputable def D94:FD U:=⟨121,Tryz.f121,[D93.sg,D91.sg,D89.sg,D90.sg,D84.sg],[.p (.sl (.int .u32)),.p (.sl (.int .u32))],[],[.p (.sl (.int .u32)),.p (.sl (.int .u32))],[],[],Zqa,Zqa,
.lo 941011 [0,1,4,5,6] [5] [qe1,qe1,qe7,qe1,qe0] [qo2] 0 [4,5] [] [qe7,qe1] [qo2] Zqg ZsH (fun n0=> .j 911541011 [0,1,4,5,6] [] [qe1,qe1,qe7,qe1,qe0] [qo2] (Zqh (Zqg n0)) <|
.nil) <|
.nil⟩
theorem ZEa:Zeg X0.E 121 D94.sig:=D94.ok G0 Tryz.func121 ⟨ZEb,ZBM,ZBO,ZBN,Zzm,trivial⟩ rfl rfl (by kernel_rfl)
noncomputable def D95:FD U:=⟨85,Tryz.f85,[D86.sg,D92.sg,D94.sg,D85.sg],[.p (.st 2),.p (.st 2)],[],[.p (.st 3)],[],[],Zqf,Zqf,
.nil⟩
theorem ZD9:Zeg X0.E 85 D95.sig:=D95.ok G0 Tryz.func85 ⟨ZBP,ZEc,ZEa,ZBQ,trivial⟩ rfl rfl (by kernel_rfl)
noncomputable def D96:FD U:=⟨86,Tryz.f86,[D87.sg,D95.sg],[.p (.st 2),.p (.st 2)],[],[.p (.st 3),.p (.int .i64)],[],[],ZqP,ZqP,
.j 9101 [2,3,4,13] [] [qe4,qe8,ZzL,qe5] [ZC9,ZC9,ZFe,qo2,qo2] Zq7 <|
.nil⟩
theorem ZD8:Zeg X0.E 86 D96.sig:=D96.ok G0 Tryz.func86 ⟨ZEe,ZD9,trivial⟩ rfl rfl (by kernel_rfl)
noncomputable def D97:FD U:=⟨54,Tryz.f54,[D86.sg,D96.sg],[.p (.int .i64),.p (.int .i64)],[],[.p (.st 3),.p (.int .i64)],[],[],Zry,Zry,
.nil⟩
theorem ZD7:Zeg X0.E 54 D97.sig:=D97.ok G0 Tryz.func54 ⟨ZBP,ZD8,trivial⟩ rfl rfl (by kernel_rfl)
noncomputable def D98:FD U:=⟨40,Tryz.f40,[D97.sg],[.p (.int .i64),.p (.int .i64)],[],[.p (.st 3)],[],[],ZqK,ZqK,
.nil⟩
theorem ZD6:Zeg X0.E 40 D98.sig:=D98.ok G0 Tryz.func40 ⟨ZD7,trivial⟩ rfl rfl (by kernel_rfl)
noncomputable def D99:FD U:=⟨21,Tryz.f21,[D98.sg],[.p (.int .i64)],[],[.p (.st 3)],[],[],Zrb,Zrb,
.nil⟩
theorem ZD5:Zeg X0.E 21 D99.sig:=D99.ok G0 Tryz.func21 ⟨ZD6,trivial⟩ rfl rfl (by kernel_rfl)
noncomputable def ZFO:FD U:=⟨31,Tryz.f31,[],[.p (.st 2),.p (.st 2)],[],[.p .bool],[],[],Zpt,Zpt,
.j 9101 [2,3,20] [] [qe4,qe8,qe5] [ZC9,ZC9] Zqk <|
.lr 941011 [3,22,23,24] [] [qe4,qe1,qe0,qe0] [ZC9] 0 [] [] [] [] Zqj ZrH (fun _=> .nil) <|
.nil⟩
theorem ZC8:Zeg X0.E 31 ZFO.sig:=ZFO.ok G0 Tryz.func31 trivial rfl rfl (by kernel_rfl)
noncomputable def ZE7:FD U:=⟨16,Tryz.f16,[ZFO.sg],[.p (.st 3),.p (.st 3)],[],[.p .bool],[],[],ZpU,ZpU,
.j 911 [4] [] [qe5] [] Zq6 <|
.nil⟩
theorem ZAZ:Zeg X0.E 16 ZE7.sig:=ZE7.ok G0 Tryz.func16 ⟨ZC8,trivial⟩ rfl rfl (by kernel_rfl)
noncomputable def ZFN:FD U:=⟨6,Tryz.f6,[D82.sg,D83.sg,D99.sg,ZE7.sg,D53.sg],[],[],[.p .bool],[],[],ZpH,ZpH,
.j 9101111 [3,40] [] [qe4,qe5] [ZyU] Zpd <|
.lr 941011111 [42,43,44] [] [ZzK,qe0,qe0] [] 0 [] [] [] [] Zpc Zr5 (fun n0=> .j 9114011541011111 [42,43,44,62] [] [ZzK,qe0,qe0,qe5] [] (ZpO (Zpc n0)) <|
.nil) <|
.nil⟩
theorem ZC7:Zeg X0.E 6 ZFN.sig:=ZFN.ok G0 Tryz.func6 ⟨ZBS,ZBR,ZD5,ZAZ,ZAU,trivial⟩ rfl rfl (by kernel_rfl)
noncomputable def ZFM:FD U:=⟨7,Tryz.f7,[],[.p (.sl (.int .i64))],[],[.box (.st 7)],[],[],Zss,Zss,
.nil⟩
theorem ZC6:Zeg X0.E 7 ZFM.sig:=ZFM.ok G0 Tryz.func7 trivial rfl rfl (by kernel_rfl)
noncomputable def ZE6:FD U:=⟨11,Tryz.f11,[],[.p (.int .i64),.p (.int .i64)],[],[.p (.int .i64)],[],[],Zp5,Zp5,
.nil⟩
theorem ZAY:Zeg X0.E 11 ZE6.sig:=ZE6.ok G0 Tryz.func11 trivial rfl rfl (by kernel_rfl)
noncomputable def ZC5:FD U:=⟨8,Tryz.f8,[ZE6.sg],[.box (.st 7),.p (.int .i64)],[(0,.box (.st 7))],[.p (.int .i64)],[],[],Zod,Zod,
.nil⟩
theorem Zyo:Zeg X0.E 8 ZC5.sig:=ZC5.ok G0 Tryz.func8 ⟨ZAY,trivial⟩ rfl rfl (by kernel_rfl)
noncomputable def ZEX:FD U:=⟨22,Tryz.f22,[ZC5.sg],[.box (.st 7),.p (.sl .str)],[(0,.box (.st 7))],[.p .str],[],[],ZoE,ZoE,
.nil⟩
theorem Zzz:Zeg X0.E 22 ZEX.sig:=ZEX.ok G0 Tryz.func22 ⟨Zyo,trivial⟩ rfl rfl (by kernel_rfl)
noncomputable def ZFL:FD U:=⟨23,Tryz.f23,[ZC5.sg,ZEX.sg],[.box (.st 7)],[(0,.box (.st 7))],[.p (.st 0)],[],[],Zrz,Zrz,
.nil⟩
theorem ZC4:Zeg X0.E 23 ZFL.sig:=ZFL.ok G0 Tryz.func23 ⟨Zyo,Zzz,trivial⟩ rfl rfl (by kernel_rfl)
noncomputable def ZFK:FD U:=⟨24,Tryz.f24,[ZC5.sg,ZEX.sg,(25,ZvE.sig)],[.box (.st 7)],[(0,.box (.st 7))],[.p (.st 0)],[],[],ZqQ,ZqQ,
.nil⟩
theorem ZC3:Zeg X0.E 24 ZFK.sig:=ZFK.ok G0 Tryz.func24 ⟨Zyo,Zzz,Zwe,trivial⟩ rfl rfl (by kernel_rfl)
noncomputable def ZFJ:FD U:=⟨9,Tryz.f9,[ZEX.sg,ZC5.sg,ZFL.sg,ZFK.sg,(25,ZvE.sig)],[.box (.st 7),.p (.int .i64)],[(0,.box (.st 7))],[.p (.st 1)],[],[],ZpW,ZpW,
.lo 9410111 [0,4,5,6,15,16] [] [.o (.ptr (0,0,0) 0 0),qe4,qe8,qe0,qe0,qe0] [.boxS (.st 7),qo31,ZFd,ZDa,ZDa] 0 [4,5] [] [qe4,qe8] [.boxS (.st 7),qo31,ZFd,ZDa,ZDa] Zp3 Zsm (fun n0=> .j 911140115410111 [0,4,5,6,8,15,16] [] [.o (.ptr (0,0,0) 0 0),qe4,qe8,qe0,ZzL,qe0,qe0] [.boxS (.st 7),ZFd,.box [.o (.v .str),.o (.full (0,5,1))],.boxS (.st 0),ZDa,ZDa] (ZoV (Zp3 n0)) <|
.nil) <|
.nil⟩
theorem ZC2:Zeg X0.E 9 ZFJ.sig:=ZFJ.ok G0 Tryz.func9 ⟨Zzz,Zyo,ZC4,ZC3,Zwe,trivial⟩ rfl rfl (by kernel_rfl)
noncomputable def ZFI:FD U:=⟨61,Tryz.f61,[D70.sg],[.p (.sl (.st 4)),.p (.st 4),.fn 28 [] []],[],[.p (.int .i64),.p .bool],[],[],ZnR,ZnR,
.lo 940111 [0,2,4,8,9,10] [] [ZzK,qe9,qe4,qe0,qe0,qe0] [.boxS (.st 4)] 0 [0,2,4,8,9] [] [ZzK,qe9,qe4,qe0,qe0] [.boxS (.st 4)] ZnP Zn0 (fun _=> .nil) <|
.j 911111 [6,7] [] [qe0,qe5] [] ZnQ <|
.nil⟩
theorem ZC1:Zeg X0.E 61 ZFI.sig:=ZFI.ok G0 Tryz.func61 ⟨ZxA,trivial⟩ rfl rfl (by kernel_rfl)
noncomputable def ZFH:FD U:=⟨35,Tryz.f35,[ZFI.sg],[.p (.st 5),.p (.st 4)],[],[.p (.st 4),.p .bool],[],[],Ztg,Ztg,
.nil⟩
theorem ZC0:Zeg X0.E 35 ZFH.sig:=ZFH.ok G0 Tryz.func35 ⟨ZC1,trivial⟩ rfl rfl (by kernel_rfl)
noncomputable def ZFG:FD U:=⟨37,Tryz.f37,[D70.sg],[.p (.st 5),.p (.st 4)],[],[.p .bool],[],[],ZpP,ZpP,
.j 911 [4] [] [qe5] [] ZrC <|
.nil⟩
theorem ZCZ:Zeg X0.E 37 ZFG.sig:=ZFG.ok G0 Tryz.func37 ⟨ZxA,trivial⟩ rfl rfl (by kernel_rfl)
noncomputable def ZFF:FD U:=⟨38,Tryz.f38,[],[.p (.st 3)],[],[.p (.st 3)],[],[],Zvl,Zvl,
.nil⟩
theorem ZCY:Zeg X0.E 38 ZFF.sig:=ZFF.ok G0 Tryz.func38 trivial rfl rfl (by kernel_rfl)
noncomputable def ZFE:FD U:=⟨19,Tryz.f19,[D83.sg,ZFH.sg,D62.sg,ZFG.sg,ZFF.sg,D80.sg],[.p (.st 5),.p (.st 5)],[],[.p (.st 5),.p (.int .i64)],[],[],ZtA,ZtA,
.j 91401 [2,3,4,15] [] [qe4,qe8,ZzL,qe5] [ZyU,ZyU,ZDb,qo3] Zul <|
.j 9111 [2,3,4,6] [] [qe4,qe8,ZzL,ZBz] qp4 Zs5 <|
.lo 9410111 [2,3,4,6,42,43,44] [] [qe4,qe8,ZzL,ZBz,ZzK,qe0,qe0] qp4 1 [2,3,4,6] [] [qe4,qe8,ZzL,ZBz] qp4 Zri Zvc (fun n0=> .j 91140115410111 [2,3,4,6,8,42,43,44] [] [qe4,qe8,ZzL,ZBz,.o (.ptr (0,5,1) 0 0),ZzK,qe0,qe0] [ZyU,ZyU,ZFf,.box [.o (.v (.int .i64)),.o (.v .bool),.o (.full (0,7,1))],.boxS (.st 4),qo3,qo3] (Zuk (Zri n0)) <|
.j 91115410111 [2,3,4,6,42,43,44] [] [qe4,qe8,ZzL,ZBz,ZzK,qe0,qe0] qp4 (Zuj (Zri n0)) <|
.nil) <|
.lo 94101111 [2,4,6,82,83,84] [] [qe4,qe8,ZzL,ZzK,qe0,qe0] [ZyU,ZDb,ZE1,qo3,qo3] 3 [4,6] [] [qe4,qe8] [qo23,ZDb,qo3,qo3] Zrh Zvb (fun n0=> .j 9111401154101111 [2,4,6,12,82,83,84,101] [] [qe4,qe8,ZzL,ZBz,ZzK,qe0,qe0,qe5] [ZyU,ZE1,ZFf,.boxS (.st 4),qo3,qo3] (Zui (Zrh n0)) <|
.j 911154101111 [2,4,6,82,83,84] [] [qe4,qe8,ZzL,ZzK,qe0,qe0] [ZyU,ZDb,ZE1,qo3,qo3] (Zuh (Zrh n0)) <|
.nil) <|
.j 91111111 [4,6] [100006] [qe4,qe8] [qo23,ZyU,qo3] Zug <|
.nil⟩
theorem ZCX:Zeg X0.E 19 ZFE.sig:=ZFE.ok G0 Tryz.func19 ⟨ZBR,ZC0,ZBZ,ZCZ,ZCY,ZBT,trivial⟩ rfl rfl (by kernel_rfl)
noncomputable def ZFD:FD U:=⟨20,Tryz.f20,[ZE7.sg],[.p (.st 5),.p (.st 5)],[],[.p .bool],[],[],Zpu,Zpu,
.j 9101 [2,3,28] [] [qe4,qe8,qe5] [ZyU,ZyU] Zp0 <|
.lr 941011 [3,30,31,32] [] [qe4,ZzK,qe0,qe0] [ZyU] 0 [] [] [] [] Zpr Zsj (fun n0=> .j 91114011541011 [3,30,31,32,68] [] [qe4,ZzK,qe0,qe0,qe5] [ZyU] (Zps (Zpr n0)) <|
.nil) <|
.nil⟩
theorem ZCW:Zeg X0.E 20 ZFD.sig:=ZFD.ok G0 Tryz.func20 ⟨ZAZ,trivial⟩ rfl rfl (by kernel_rfl)
noncomputable def D117:FD U:=⟨4,Tryz.f4,[D0.sg,ZFN.sg,ZFM.sg,ZC5.sg,ZFJ.sg,ZE6.sg,D82.sg,ZFE.sg,ZFD.sg],[.p (.sl (.int .i64)),.p (.int .i64),.p (.int .i64)],[],[.p .bool],[],[],ZpV,ZpV,
.j 9111111111111 [6] [] [qe5] [] ZnS <|
.nil⟩
theorem D117_ok:Zeg X0.E 4 D117.sig:=D117.ok G0 Tryz.func4 ⟨ZFP,ZC7,ZC6,Zyo,ZC2,ZAY,ZBS,ZCX,ZCW,trivial⟩ rfl rfl (by kernel_rfl)
end
end Go.Proofs

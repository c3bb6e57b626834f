/- Printed by wip/tools/tgen.py: walks. -/
import Derived.Test.YtamebpdbedglkaaGreatDoorSxU
import Derived.Test.YtamebpdbedglkaaGreatDoorSxX
set_option linter.unusedVariables false
set_option linter.unusedSimpArgs false
set_option linter.unusedSectionVars false
namespace Go.Proofs
open Go Eng
set_option maxRecDepth 100000
noncomputable section
abbrev qe0:Sh:= .o (.v (.int .i64))
abbrev qe1:Sh:= .o (.v (.sl (.int .u32)))
abbrev qo2:ShO:= .arr (.int .u32) false
abbrev qe3:Sh:= .o (.v .bool)
abbrev qe4:Sh:= .o (.ptr (0,1,1) 0 0)
abbrev qo5:ShO:= .arr (.st 4) false
abbrev qe6:Sh:= .o (.full (0,1,1))
abbrev qe7:Sh:= .o (.v .str)
abbrev qe8:Sh:= .o (.full (0,0,0))
abbrev qe9:Sh:= .o (.ptr (0,2,1) 0 0)
abbrev ZzT:Sh:= .o (.ptr (0,3,1) 0 0)
abbrev ZER:ShO:= .box [.o (.v .bool),.o (.full (0,4,1)),.o (.v .bool),.o (.full (0,5,1))]
abbrev Zzq:Sh:= .o (.v (.int .u64))
abbrev qo13:ShO:= .box [.o (.v .bool),.o (.full (0,2,1)),.o (.v .bool),.o (.full (0,3,1))]
abbrev ZAr:ShO:= .boxS (.st 1)
abbrev ZBt:Sh:= .fn 28 [] []
abbrev ZAX:Sh:= .o (.v (.sl (.st 0)))
abbrev ZAs:Sh:= .o (.v (.int .u32))
abbrev ZAW:ShO:= .boxS (.st 3)
abbrev ZC0:Sh:= .o (.ptr (0,4,1) 0 0)
abbrev ZGP:ShO:= .box [.o (.v .bool),.o (.full (0,5,1)),.o (.v .bool),.o (.full (0,6,1))]
abbrev ZBd:ShO:= .boxS (.st 2)
abbrev ZDP:Sh:= .o (.ptr (0,5,1) 0 0)
abbrev ZCE:ShO:= .boxS (.st 5)
abbrev ZCy:Sh:= .o (.sl (0,0,0))
abbrev ZGv:Sh:= .o (.ptr (0,6,1) 0 0)
abbrev qo26:ShO:= .box [.o (.v .bool),.o (.full (0,3,1)),.o (.v .bool),.o (.full (0,4,1))]
abbrev ZET:Sh:= .o (.v (.sl (.st 4)))
abbrev ZED:ShO:= .boxS (.st 0)
abbrev ZEC:ShO:= .arr (.int .u8) false
abbrev qo30:ShO:= .box [.o (.v (.int .i64)),.o (.v .bool),.o (.full (0,4,1))]
abbrev ZGO:ShO:= .box [.o (.v .str),.o (.full (0,4,1))]
abbrev ZEB:ShO:= .arr (.st 0) false
abbrev ZES:Sh:= .o (.full (0,3,1))
abbrev qo34:ShO:= .box [.o (.v .bool),.o (.full (0,2,1))]
abbrev ZGs:ShO:= .map .str (.int .i64)
abbrev qo36:ShO:= .box [.o (.v .str),.o (.full (0,3,1))]
abbrev ZGu:Sh:= .o (.full (0,2,1))
abbrev ZGt:Sh:= .o (.map (0,2,1))
abbrev qs0:List Sh:=[qe8,qe0,ZBt,qe0,qe0]
abbrev qs1:List Sh:=[qe4,qe9,ZzT,ZC0,ZDP,qe0,ZGv,qe3,ZAX,qe0,qe0,ZET,qe0,qe0]
abbrev qp2:List ShO:=[ZAr,ZAr,ZCE,ZED,ZAW,ZAW]
abbrev qs3:List Sh:=[qe8,qe0,qe0,qe0,ZBt,qe3,qe3,qe0,qe0,qe3]
abbrev qs4:List Sh:=[qe8,qe0,qe0,ZBt,qe0,qe0]
abbrev qs5:List Sh:=[qe4,qe9,ZzT,ZC0,ZDP,qe0,ZGv,qe3,ZAX,qe0,qe0,ZAX,qe0,qe0]
abbrev qs6:List Sh:=[qe1,qe1,qe0]
abbrev qs7:List Sh:=[qe8,qe0,ZBt,qe0,qe0,qe3]
abbrev qs8:List Sh:=[qe8,qe0,qe0,ZBt,qe0,qe0,qe3]
abbrev qp9:List ShO:=[qo13,qo2,qo2]
abbrev qs10:List Sh:=[qe8,qe0,qe0,qe0,ZBt,qe3,qe3,qe0,qe0]
abbrev ZCD:List Sh:=[qe7,qe3]
abbrev ZGN:List ShO:=[ZER,ZBd,ZBd,qo2,qo2]
abbrev ZGq:List Sh:=[qe3,qe7,qe7,qe3]
abbrev ZGM:List Sh:=[qe1,qe1,qe6,Zzq,qe0]
abbrev ZGL:List Sh:=[qe0,qe0,qe0,qe0,qe0]
abbrev ZEQ:List Sh:=[qe3,qe7,qe7]
abbrev ZGr:List ShO:=[ZAr,ZAr,ZCE]
noncomputable def D0:FD U:=⟨5,Tryz.f5,[],[.p (.sl (.int .i64))],[],[.p .bool],[],[],Ztu,Ztu,
.nil⟩
theorem ZHC:Zeg X0.E 5 D0.sig:=D0.ok G0 Tryz.func5 trivial rfl rfl (by kernel_rfl)
noncomputable def D1:FD U:=⟨113,Tryz.f113,[],[.p (.sl (.int .u32))],[],[.p (.sl (.int .u32))],[],[],Zor,Zor,
.lo 9401 [0] [] [qe1] [] 0 [0] [] [qe1] [] ZpA Zvu (fun n0=> .j 9105401 [0,14] [] [qe1,qe3] [] (ZtQ (ZpA n0)) <|
.nil) <|
.nil⟩
theorem ZBF:Zeg X0.E 113 D1.sig:=D1.ok G0 Tryz.func113 trivial rfl rfl (by kernel_rfl)
noncomputable def D2:FD U:=⟨144,Tryz.f144,[D1.sg],[.p (.int .u64)],[],[.p (.sl (.int .u32))],[],[],ZrF,ZrF,
.nil⟩
theorem ZGc:Zeg X0.E 144 D2.sig:=D2.ok G0 Tryz.func144 ⟨ZBF,trivial⟩ rfl rfl (by kernel_rfl)
noncomputable def D3:FD U:=⟨143,Tryz.f143,[],[.p .bool,.p (.sl (.int .u32))],[],[.p (.st 2)],[],[],ZoA,ZoA,
.j 911 [4] [] [qe4] [qo34,qo2] Zuo <|
.nil⟩
theorem ZCm:Zeg X0.E 143 D3.sig:=D3.ok G0 Tryz.func143 trivial rfl rfl (by kernel_rfl)
noncomputable def D4:FD U:=⟨110,Tryz.f110,[D2.sg,D3.sg],[.p (.int .i64)],[],[.p (.st 2)],[],[],Zsv,Zsv,
.nil⟩
theorem ZHe:Zeg X0.E 110 D4.sig:=D4.ok G0 Tryz.func110 ⟨ZGc,ZCm,trivial⟩ rfl rfl (by kernel_rfl)
noncomputable def D5:FD U:=⟨69,Tryz.f69,[],[.p (.st 2)],[],[.p .bool],[],[],Zr8,Zr8,
.j 9111 [2] [] [qe3] [] Zpi <|
.nil⟩
theorem ZHd:Zeg X0.E 69 D5.sig:=D5.ok G0 Tryz.func69 trivial rfl rfl (by kernel_rfl)
noncomputable def D6:FD U:=⟨44,Tryz.f44,[D5.sg],[.p (.sl (.st 2))],[],[.p .bool],[],[],ZuE,ZuE,
.lr 94101 [5,6,7] [] [.o (.v (.sl (.st 2))),qe0,qe0] [] 0 [] [] [] [] Zvd ZxT (fun _=> .nil) <|
.nil⟩
theorem ZFK:Zeg X0.E 44 D6.sig:=D6.ok G0 Tryz.func44 ⟨ZHd,trivial⟩ rfl rfl (by kernel_rfl)
noncomputable def D7:FD U:=⟨118,Tryz.f118,[],[.p (.int .i64)],[],[.p .bool],[],[],ZvC,ZvC,
.nil⟩
theorem ZHc:Zeg X0.E 118 D7.sig:=D7.ok G0 Tryz.func118 trivial rfl rfl (by kernel_rfl)
noncomputable def D8:FD U:=⟨71,Tryz.f71,[D7.sg],[.p (.int .i64),.p (.int .i64)],[],[.p (.int .i64)],[],[],ZuF,ZuF,
.nil⟩
theorem ZHb:Zeg X0.E 71 D8.sig:=D8.ok G0 Tryz.func71 ⟨ZHc,trivial⟩ rfl rfl (by kernel_rfl)
noncomputable def D9:FD U:=⟨119,Tryz.f119,[],[.p (.int .u32)],[],[.p .bool],[],[],Zve,Zve,
.nil⟩
theorem ZHa:Zeg X0.E 119 D9.sig:=D9.ok G0 Tryz.func119 trivial rfl rfl (by kernel_rfl)
noncomputable def D10:FD U:=⟨72,Tryz.f72,[D9.sg],[.p (.int .u32),.p (.int .u32)],[],[.p (.int .i64)],[],[],Zus,Zus,
.nil⟩
theorem ZGn:Zeg X0.E 72 D10.sig:=D10.ok G0 Tryz.func72 ⟨ZHa,trivial⟩ rfl rfl (by kernel_rfl)
noncomputable def D11:FD U:=⟨46,Tryz.f46,[D8.sg,D10.sg],[.p (.sl (.int .u32)),.p (.sl (.int .u32))],[],[.p (.int .i64)],[],[],ZoT,ZoT,
.lr 941011 [0,1,6] [] qs6 [] 0 [] [] [] [] ZrC Ztq (fun _=> .nil) <|
.nil⟩
theorem ZCr:Zeg X0.E 46 D11.sig:=D11.ok G0 Tryz.func46 ⟨ZHb,ZGn,trivial⟩ rfl rfl (by kernel_rfl)
noncomputable def D12:FD U:=⟨111,Tryz.f111,[],[.p (.sl (.int .u32))],[],[.own (.int .u32)],[],[],ZoQ,ZoQ,
.j 9101 [0,4] [] [qe1,qe3] [] ZnO <|
.nil⟩
theorem ZDB:Zeg X0.E 111 D12.sig:=D12.ok G0 Tryz.func111 trivial rfl rfl (by kernel_rfl)
noncomputable def D13:FD U:=⟨145,Tryz.f145,[],[.p (.int .u32),.p (.int .u32),.p (.int .u32)],[],[.p (.int .u32),.p (.int .u32)],[],[],ZuA,ZuA,
.j 9101 [0,1,2,15] [] [ZAs,ZAs,ZAs,qe3] [] ZsH <|
.nil⟩
theorem ZGm:Zeg X0.E 145 D13.sig:=D13.ok G0 Tryz.func145 trivial rfl rfl (by kernel_rfl)
noncomputable def D14:FD U:=⟨112,Tryz.f112,[D13.sg,D1.sg],[.p (.sl (.int .u32)),.p (.int .u32)],[],[.p (.sl (.int .u32)),.p (.int .u32)],[],[],ZrY,ZrY,
.lo 9410111 [0,1,6,7,8] [] [qe1,ZAs,qe6,ZAs,qe0] [qo2] 0 [6,7] [] [qe6,ZAs] [qo2] Zsm Zuj (fun _=> .nil) <|
.nil⟩
theorem ZGl:Zeg X0.E 112 D14.sig:=D14.ok G0 Tryz.func112 ⟨ZGm,ZBF,trivial⟩ rfl rfl (by kernel_rfl)
noncomputable def D15:FD U:=⟨101,Tryz.f101,[],[.p (.int .u32)],[],[.p (.int .i64)],[],[],Zuz,Zuz,
.j 911 [0,2] [] [ZAs,qe0] [] Zum <|
.j 9111 [0,2] [] [ZAs,qe0] [] ZrH <|
.nil⟩
theorem ZGk:Zeg X0.E 101 D15.sig:=D15.ok G0 Tryz.func101 trivial rfl rfl (by kernel_rfl)
noncomputable def D16:FD U:=⟨114,Tryz.f114,[D15.sg],[.p (.int .u32)],[],[.p (.int .i64)],[],[],Zql,Zql,
.nil⟩
theorem ZGj:Zeg X0.E 114 D16.sig:=D16.ok G0 Tryz.func114 ⟨ZGk,trivial⟩ rfl rfl (by kernel_rfl)
noncomputable def D17:FD U:=⟨115,Tryz.f115,[],[.p (.sl (.int .u32)),.p (.int .i64)],[],[.own (.int .u32)],[],[],Zpp,Zpp,
.lo 941011 [1,5,13,14,15] [] [qe0,qe6,qe1,qe0,qe0] [qo2] 0 [5] [] [qe6] [qo2] ZrA Zto (fun _=> .nil) <|
.nil⟩
theorem ZGi:Zeg X0.E 115 D17.sig:=D17.ok G0 Tryz.func115 trivial rfl rfl (by kernel_rfl)
noncomputable def D18:FD U:=⟨146,Tryz.f146,[],[.p (.int .u32),.p (.int .u32),.p (.int .u32)],[],[.p (.int .u32),.p (.int .u32)],[],[],Zr4,Zr4,
.nil⟩
theorem ZDA:Zeg X0.E 146 D18.sig:=D18.ok G0 Tryz.func146 trivial rfl rfl (by kernel_rfl)
noncomputable def D19:FD U:=⟨147,Tryz.f147,[],[.p (.int .u32),.p (.int .u32),.p (.int .u32)],[],[.p (.int .u32),.p (.int .u32)],[],[],Zs1,Zs1,
.nil⟩
theorem ZDz:Zeg X0.E 147 D19.sig:=D19.ok G0 Tryz.func147 trivial rfl rfl (by kernel_rfl)
noncomputable def D20:FD U:=⟨116,Tryz.f116,[D18.sg,D19.sg],[.part (.int .u32),.p (.sl (.int .u32))],[(0,.arr (.int .u32))],[.p (.int .u32)],[],[],Zwg,Zvc,
.lo 94011111 [0,1,5,7,8] [] [ZCy,qe1,qe0,Zzq,Zzq] [qo2] 0 [0,1,5,7] [] [ZCy,qe1,qe0,Zzq] [qo2] Zr6 ZuO (fun n0=> .j 91054011111 [0,1,5,7,8,71] [] [ZCy,qe1,qe0,Zzq,Zzq,qe3] [qo2] (Zts (Zr6 n0)) <|
.nil) <|
.lo 941011111111 [0,1,5,7,9,10,82,83,84] [] [ZCy,qe1,qe0,Zzq,ZAs,Zzq,qe1,qe0,qe0] [qo2] 2 [0,1,5,7,9,10] [] [ZCy,qe1,qe0,Zzq,ZAs,Zzq] [qo2] ZuM Zwj (fun _=> .nil) <|
.lo 941011111111111 [0,5,7,13,130,131,132] [] [ZCy,qe0,Zzq,ZAs,qe1,qe0,qe0] [qo2] 4 [0,5,7,13] [] [ZCy,qe0,Zzq,ZAs] [qo2] Ztr ZuN (fun _=> .nil) <|
.nil⟩
theorem ZGh:Zeg X0.E 116 D20.sig:=D20.okA G0 Tryz.func116 ⟨ZDA,ZDz,trivial⟩ (by kernel_rfl) (by kernel_rfl)
noncomputable def D21:FD U:=⟨113,Tryz.f113,[],[.part (.int .u32)],[(0,.arr (.int .u32))],[.view 0],[],[],Zun,Ztv,
.lo 9401 [0] [] [ZCy] [qo2] 0 [0] [] [ZCy] [qo2] ZrD ZuL (fun n0=> .j 9105401 [0,14] [] [ZCy,qe3] [qo2] (ZsZ (ZrD n0)) <|
.nil) <|
.nil⟩
theorem ZGg:Zeg X0.E 113 D21.sig:=D21.okA G0 Tryz.func113 trivial (by kernel_rfl) (by kernel_rfl)
noncomputable def D22:FD U:=⟨117,Tryz.f117,[],[.p (.sl (.int .u32)),.p (.int .i64)],[],[.p (.int .u32)],[],[],Zq1,Zq1,
.nil⟩
theorem ZDy:Zeg X0.E 117 D22.sig:=D22.ok G0 Tryz.func117 trivial rfl rfl (by kernel_rfl)
noncomputable def D23:FD U:=⟨117,Tryz.f117,[],[.part (.int .u32),.p (.int .i64)],[(0,.arr (.int .u32))],[.p (.int .u32)],[],[],Zvt,ZsX,
.nil⟩
theorem ZGf:Zeg X0.E 117 D23.sig:=D23.okA G0 Tryz.func117 trivial (by kernel_rfl) (by kernel_rfl)
noncomputable def D24:FD U:=⟨70,Tryz.f70,[D11.sg,D12.sg,D14.sg,D1.sg,D16.sg,D17.sg,D20.sg,D21.sg,D23.sg],[.p (.sl (.int .u32)),.p (.sl (.int .u32))],[],[.p (.sl (.int .u32)),.p (.sl (.int .u32))],[],[(84,7)],Zp7,Zp7,
.lo 9410111111 [8,9,10,11,12,13] [11] [qe0,qe0,qe6,qe1,ZGu,qe0] [qo2,qo2] 1 [8,9,10,12] [] [qe0,qe0,qe6,ZGu] [qo2,qo2] Zq5 ZuD (fun _=> .nil) <|
.lo 941011111111 [9,12,14,86,87] [] [qe0,qe6,.o (.sl (0,2,1)),qe0,qe0] [qo2,qo2] 3 [12,14] [] [qe6,.o (.sl (0,2,1))] [qo2,qo2] Zq4 ZuC (fun _=> .nil) <|
.nil⟩
theorem ZDx:Zeg X0.E 70 D24.sig:=D24.ok G0 Tryz.func70 ⟨ZCr,ZDB,ZGl,ZBF,ZGj,ZGi,ZGh,ZGg,ZGf,trivial⟩ rfl rfl (by kernel_rfl)
noncomputable def D25:FD U:=⟨45,Tryz.f45,[D24.sg],[.p (.sl (.int .u32)),.p (.sl (.int .u32))],[],[.p (.sl (.int .u32))],[],[],Zqg,Zqg,
.lo 9401 [0,1] [] [qe1,qe1] [] 0 [0] [] [qe1] [] Zo1 ZtN (fun _=> .nil) <|
.nil⟩
theorem ZDw:Zeg X0.E 45 D25.sig:=D25.ok G0 Tryz.func45 ⟨ZDx,trivial⟩ rfl rfl (by kernel_rfl)
noncomputable def D26:FD U:=⟨124,Tryz.f124,[D25.sg,D24.sg,D3.sg],[.p (.st 2),.p (.st 2)],[],[.p (.st 3)],[],[],Zqn,Zqn,
.nil⟩
theorem ZCn:Zeg X0.E 124 D26.sig:=D26.ok G0 Tryz.func124 ⟨ZDw,ZDx,ZCm,trivial⟩ rfl rfl (by kernel_rfl)
noncomputable def D27:FD U:=⟨109,Tryz.f109,[D6.sg,D26.sg],[.p (.st 2),.p (.st 2)],[],[.p (.st 3),.p (.int .i64)],[],[],Zvy,Zvy,
.nil⟩
theorem ZGe:Zeg X0.E 109 D27.sig:=D27.ok G0 Tryz.func109 ⟨ZFK,ZCn,trivial⟩ rfl rfl (by kernel_rfl)
noncomputable def D28:FD U:=⟨68,Tryz.f68,[D4.sg,D27.sg],[.p (.int .i64),.p (.int .i64)],[],[.p (.st 3),.p (.int .i64)],[],[],Zwx,Zwx,
.nil⟩
theorem ZGd:Zeg X0.E 68 D28.sig:=D28.ok G0 Tryz.func68 ⟨ZHe,ZGe,trivial⟩ rfl rfl (by kernel_rfl)
noncomputable def D29:FD U:=⟨43,Tryz.f43,[D28.sg],[],[],[.p (.st 3)],[],[],Zxw,Zxw,
.nil⟩
theorem ZDv:Zeg X0.E 43 D29.sig:=D29.ok G0 Tryz.func43 ⟨ZGd,trivial⟩ rfl rfl (by kernel_rfl)
noncomputable def D30:FD U:=⟨108,Tryz.f108,[],[],[],[.map (.int .i64) (.st 6)],[],[],Zxg,Zxg,
.nil⟩
theorem ZDu:Zeg X0.E 108 D30.sig:=D30.ok G0 Tryz.func108 trivial rfl rfl (by kernel_rfl)
noncomputable def D32:FD U:=⟨134,Tryz.f134,[(155,Zxa.sig)],[.p .str],[],[.p .str],[],[],ZyM,ZyM,
.nil⟩
theorem ZGb:Zeg X0.E 134 D32.sig:=D32.ok G0 Tryz.func134 ⟨ZxN,trivial⟩ rfl rfl (by kernel_rfl)
noncomputable def D33:FD U:=⟨193,Tryz.f193,[],[.p .str,.p .str],[],[.p .bool],[],[],Zp0,Zp0,
.j 911 [4] [] [qe3] [] Zq0 <|
.nil⟩
theorem ZDt:Zeg X0.E 193 D33.sig:=D33.ok G0 Tryz.func193 trivial rfl rfl (by kernel_rfl)
noncomputable def D34:FD U:=⟨179,Tryz.f179,[D33.sg],[.p .str,.p .str],[],[.p .str,.p .bool],[],[],ZrK,ZrK,
.nil⟩
theorem ZGa:Zeg X0.E 179 D34.sig:=D34.ok G0 Tryz.func179 ⟨ZDt,trivial⟩ rfl rfl (by kernel_rfl)
noncomputable def D35:FD U:=⟨159,Tryz.f159,[D34.sg],[.p .str,.p .str],[],[.p .str,.p .bool],[],[],Zwh,Zwh,
.nil⟩
theorem ZF9:Zeg X0.E 159 D35.sig:=D35.ok G0 Tryz.func159 ⟨ZGa,trivial⟩ rfl rfl (by kernel_rfl)
noncomputable def D36:FD U:=⟨180,Tryz.f180,[D33.sg],[.p .str,.p .str],[],[.p .str],[],[],Zrw,Zrw,
.nil⟩
theorem ZF8:Zeg X0.E 180 D36.sig:=D36.ok G0 Tryz.func180 ⟨ZDt,trivial⟩ rfl rfl (by kernel_rfl)
noncomputable def D37:FD U:=⟨160,Tryz.f160,[D36.sg],[.p .str,.p .str],[],[.p .str],[],[],ZvU,ZvU,
.nil⟩
theorem ZF7:Zeg X0.E 160 D37.sig:=D37.ok G0 Tryz.func160 ⟨ZF8,trivial⟩ rfl rfl (by kernel_rfl)
noncomputable def D39:FD U:=⟨192,Tryz.f192,[(211,Ztw.sig)],[.p .str,.p .str],[],[.p (.int .i64)],[],[],ZsW,ZsW,
.j 914011 [0,1,5,16] [] [qe7,qe7,qe0,qe3] [] Zr5 <|
.nil⟩
theorem ZF6:Zeg X0.E 192 D39.sig:=D39.ok G0 Tryz.func192 ⟨Zv0,trivial⟩ rfl rfl (by kernel_rfl)
noncomputable def D40:FD U:=⟨181,Tryz.f181,[D39.sg],[.p .str,.p .str],[],[.p .str,.p .str,.p .bool],[],[],ZtJ,ZtJ,
.nil⟩
theorem ZF5:Zeg X0.E 181 D40.sig:=D40.ok G0 Tryz.func181 ⟨ZF6,trivial⟩ rfl rfl (by kernel_rfl)
noncomputable def D41:FD U:=⟨161,Tryz.f161,[D40.sg],[.p .str,.p .str],[],[.p .str,.p .str,.p .bool],[],[],Zxr,Zxr,
.nil⟩
theorem ZDs:Zeg X0.E 161 D41.sig:=D41.ok G0 Tryz.func161 ⟨ZF5,trivial⟩ rfl rfl (by kernel_rfl)
noncomputable def D42:FD U:=⟨162,Tryz.f162,[(155,Zxa.sig)],[.p .str,.p (.int .i64)],[],[.p .bool],[],[],ZvK,ZvK,
.j 911 [4] [] [qe3] [] Zup <|
.nil⟩
theorem ZF4:Zeg X0.E 162 D42.sig:=D42.ok G0 Tryz.func162 ⟨ZxN,trivial⟩ rfl rfl (by kernel_rfl)
noncomputable def D43:FD U:=⟨151,Tryz.f151,[D1.sg],[.p (.sl (.int .u32)),.p (.sl (.int .u32))],[],[.p (.sl (.int .u32))],[],[],ZpQ,ZpQ,
.lo 941011 [1,5,17,18,19] [] [qe1,qe6,qe1,qe0,qe0] [qo2] 0 [5] [] [qe6] [qo2] ZqD Zuh (fun n0=> .lo 9410114011541011 [1,5,6,7,8,17,18,19,24,25,26] [] [qe1,qe6,qe0,ZAs,Zzq,qe1,qe0,qe0,qe1,qe0,qe0] [qo2] 2 [1,5,6,8,17,18,19] [] [qe1,qe6,qe0,Zzq,qe1,qe0,qe0] [qo2] Zsl (Zui (ZqD n0)) (fun _=> .nil) <|
.nil) <|
.nil⟩
theorem ZDr:Zeg X0.E 151 D43.sig:=D43.ok G0 Tryz.func151 ⟨ZBF,trivial⟩ rfl rfl (by kernel_rfl)
noncomputable def D44:FD U:=⟨149,Tryz.f149,[D22.sg,D19.sg,D1.sg],[.p (.sl (.int .u32)),.p (.sl (.int .u32))],[],[.p (.sl (.int .u32))],[],[],Zq3,Zq3,
.lo 9410111 [0,1,5,6,20,21] [] [qe1,qe1,qe6,ZAs,qe0,qe0] [qo2] 0 [5,6] [] [qe6,ZAs] [qo2] Zsu ZuB (fun _=> .nil) <|
.nil⟩
theorem ZDq:Zeg X0.E 149 D44.sig:=D44.ok G0 Tryz.func149 ⟨ZDy,ZDz,ZBF,trivial⟩ rfl rfl (by kernel_rfl)
noncomputable def D45:FD U:=⟨139,Tryz.f139,[D35.sg,D37.sg,D41.sg,D42.sg,D12.sg,D43.sg,D2.sg,D44.sg,D3.sg,D26.sg],[.p .str],[],[.p (.st 3),.p .bool],[],[],Zsw,Zsw,
.j 9111 [2,4,5] [] [qe4,qe7,qe3] qp9 ZvB <|
.j 9101111 [2,5,6,7,39] [] [qe4,qe3,qe7,qe7,qe3] qp9 ZtU <|
.lo 941011111111 [2,5,7,9,10,11,47,48,49] [9,10] [qe4,qe3,qe7,qe1,qe1,ZGu,ZES,qe0,qe0] [ZER,qo2,ZEC,qo2,qo2] 0 [2,5,7,9,10,11] [] [qe4,qe3,qe7,qe1,qe1,ZGu] [qo26,qo2,qo2,qo2] ZvA ZwX (fun _=> .nil) <|
.lo 9410111111111 [2,5,9,10,11,63,64] [11] [qe4,qe3,qe1,qe1,qe1,qe0,qe0] qp9 2 [2,5,9,11] [] [qe4,qe3,qe1,qe1] qp9 Zvz ZtT (fun _=> .nil) <|
.nil⟩
theorem ZDp:Zeg X0.E 139 D45.sig:=D45.ok G0 Tryz.func139 ⟨ZF9,ZF7,ZDs,ZF4,ZDB,ZDr,ZGc,ZDq,ZCm,ZCn,trivial⟩ rfl rfl (by kernel_rfl)
noncomputable def D48:FD U:=⟨165,Tryz.f165,[],[.p (.sl .str)],[],[.p .str],[],[],ZxH,ZxH,
.lr 941011 [3,6,7,8] [] [qe7,.o (.v (.sl .str)),qe0,qe0] [] 0 [3] [] [qe7] [] Zwy ZxU (fun _=> .nil) <|
.nil⟩
theorem ZF3:Zeg X0.E 165 D48.sig:=D48.ok G0 Tryz.func165 trivial rfl rfl (by kernel_rfl)
noncomputable def D49:FD U:=⟨140,Tryz.f140,[D45.sg,(163,Zxf.sig),D41.sg,(164,Zw2.sig),D48.sg],[.p .str],[],[.p .str,.p .bool],[],[],Zvg,Zvg,
.j 9111111 [0,9] [] [qe7,qe7] [] Zwo <|
.j 910111111 [9,43] [] ZCD [] Zwn <|
.j 91111111 [9] [] [qe7] [] Zwm <|
.nil⟩
theorem ZF2:Zeg X0.E 140 D49.sig:=D49.ok G0 Tryz.func140 ⟨ZDp,Zyn,ZDs,Zya,ZF3,trivial⟩ rfl rfl (by kernel_rfl)
noncomputable def D50:FD U:=⟨107,Tryz.f107,[D30.sg,D32.sg,D49.sg],[.p (.int .i64),.p .str],[],[.p .str,.p .bool],[],[(26,2)],Zuv,Zuv,
.nil⟩
theorem ZF1:Zeg X0.E 107 D50.sig:=D50.ok G0 Tryz.func107 ⟨ZDu,ZGb,ZF2,trivial⟩ rfl rfl (by kernel_rfl)
noncomputable def D51:FD U:=⟨67,Tryz.f67,[D50.sg,D30.sg,D45.sg],[.p (.int .i64),.p .str],[],[.p (.st 3),.p .bool],[],[(22,2)],Zxh,Zxh,
.nil⟩
theorem ZF0:Zeg X0.E 67 D51.sig:=D51.ok G0 Tryz.func67 ⟨ZF1,ZDu,ZDp,trivial⟩ rfl rfl (by kernel_rfl)
noncomputable def D52:FD U:=⟨42,Tryz.f42,[D29.sg,D51.sg],[.p (.st 0)],[],[.p (.st 3),.p .bool],[],[],ZpH,ZpH,
.nil⟩
theorem ZFZ:Zeg X0.E 42 D52.sig:=D52.ok G0 Tryz.func42 ⟨ZDv,ZF0,trivial⟩ rfl rfl (by kernel_rfl)
noncomputable def D53:FD U:=⟨17,Tryz.f17,[],[.p .str],[],[.p (.int .u64)],[],[],ZsV,ZsV,
.lo 941011 [0,3,6,7] [] [qe7,Zzq,qe0,qe0] [] 0 [3] [] [Zzq] [] Zwf Zw8 (fun _=> .nil) <|
.nil⟩
theorem ZBo:Zeg X0.E 17 D53.sig:=D53.ok G0 Tryz.func17 trivial rfl rfl (by kernel_rfl)
noncomputable def D54:FD U:=⟨27,Tryz.f27,[D6.sg,D25.sg,D11.sg],[.p (.st 3)],[],[.p .bool],[],[],ZsG,ZsG,
.j 911 [2] [] [qe3] [] Zr7 <|
.nil⟩
theorem ZDo:Zeg X0.E 27 D54.sig:=D54.ok G0 Tryz.func27 ⟨ZFK,ZDw,ZCr,trivial⟩ rfl rfl (by kernel_rfl)
noncomputable def D55:FD U:=⟨123,Tryz.f123,[D43.sg,D3.sg],[.p (.st 2),.p (.st 2)],[],[.p (.st 2)],[],[],Zpq,Zpq,
.nil⟩
theorem ZFY:Zeg X0.E 123 D55.sig:=D55.ok G0 Tryz.func123 ⟨ZDr,ZCm,trivial⟩ rfl rfl (by kernel_rfl)
noncomputable def D56:FD U:=⟨150,Tryz.f150,[D22.sg,D18.sg,D1.sg],[.p (.sl (.int .u32)),.p (.sl (.int .u32))],[],[.p (.sl (.int .u32))],[],[],Zqt,Zqt,
.lo 9410111 [0,1,5,6,12,13] [] [qe1,qe1,qe6,ZAs,qe0,qe0] [qo2] 0 [5] [] [qe6] [qo2] Zsn Zuk (fun _=> .nil) <|
.nil⟩
theorem ZFX:Zeg X0.E 150 D56.sig:=D56.ok G0 Tryz.func150 ⟨ZDy,ZDA,ZBF,trivial⟩ rfl rfl (by kernel_rfl)
noncomputable def D57:FD U:=⟨122,Tryz.f122,[D44.sg,D3.sg,D11.sg,D56.sg],[.p (.st 2),.p (.st 2)],[],[.p (.st 2)],[],[],Zu0,Zu0,
.nil⟩
theorem ZFW:Zeg X0.E 122 D57.sig:=D57.ok G0 Tryz.func122 ⟨ZDq,ZCm,ZCr,ZFX,trivial⟩ rfl rfl (by kernel_rfl)
noncomputable def D58:FD U:=⟨91,Tryz.f91,[D55.sg,D57.sg],[.p (.st 3),.p (.st 3)],[],[.p (.st 2),.p (.st 2)],[],[],Zww,Zww,
.nil⟩
theorem ZFV:Zeg X0.E 91 D58.sig:=D58.ok G0 Tryz.func91 ⟨ZFY,ZFW,trivial⟩ rfl rfl (by kernel_rfl)
noncomputable def D59:FD U:=⟨92,Tryz.f92,[D54.sg,D58.sg,D26.sg],[.fn 91 [] [],.p (.st 3),.p (.st 3)],[],[.p (.st 3),.p (.int .i64)],[],[],ZrE,ZrE,
.j 9101 [0,4,5,6,18] [] [.fn 91 [] [],qe4,qe9,ZzT,qe3] [ZAW,ZAW,ZER,qo2,qo2] Zqo <|
.nil⟩
theorem ZFU:Zeg X0.E 92 D59.sig:=D59.ok G0 Tryz.func92 ⟨ZDo,ZFV,ZCn,trivial⟩ rfl rfl (by kernel_rfl)
noncomputable def D60:FD U:=⟨63,Tryz.f63,[D59.sg],[.p (.st 3),.p (.st 3)],[],[.p (.st 3),.p (.int .i64)],[],[],Zwc,Zwc,
.nil⟩
theorem ZFT:Zeg X0.E 63 D60.sig:=D60.ok G0 Tryz.func63 ⟨ZFU,trivial⟩ rfl rfl (by kernel_rfl)
noncomputable def D61:FD U:=⟨62,Tryz.f62,[],[.p (.st 3),.p (.int .i64)],[],[.p (.st 3)],[],[],Zye,Zye,
.nil⟩
theorem ZFS:Zeg X0.E 62 D61.sig:=D61.ok G0 Tryz.func62 trivial rfl rfl (by kernel_rfl)
noncomputable def D62:FD U:=⟨36,Tryz.f36,[D60.sg,D61.sg],[.p (.st 3),.p (.st 3)],[],[.p (.st 3)],[],[],Zyt,Zyt,
.nil⟩
theorem ZFR:Zeg X0.E 36 D62.sig:=D62.ok G0 Tryz.func36 ⟨ZFT,ZFS,trivial⟩ rfl rfl (by kernel_rfl)
noncomputable def D63:FD U:=⟨102,Tryz.f102,[],[.p (.int .u64)],[],[.p (.int .i64)],[],[],ZwF,ZwF,
.j 911 [0,2] [] [Zzq,qe0] [] ZvX <|
.j 9111 [0,2] [] [Zzq,qe0] [] ZvW <|
.j 91111 [0,2] [] [Zzq,qe0] [] ZvV <|
.nil⟩
theorem ZFQ:Zeg X0.E 102 D63.sig:=D63.ok G0 Tryz.func102 trivial rfl rfl (by kernel_rfl)
noncomputable def D64:FD U:=⟨65,Tryz.f65,[D63.sg],[.p (.int .u64)],[],[.p (.int .i64)],[],[],Zwt,Zwt,
.nil⟩
theorem ZFP:Zeg X0.E 65 D64.sig:=D64.ok G0 Tryz.func65 ⟨ZFQ,trivial⟩ rfl rfl (by kernel_rfl)
noncomputable def D65:FD U:=⟨73,Tryz.f73,[],[.p (.int .u64)],[],[.p .bool],[],[],ZtV,ZtV,
.nil⟩
theorem ZFO:Zeg X0.E 73 D65.sig:=D65.ok G0 Tryz.func73 trivial rfl rfl (by kernel_rfl)
noncomputable def D66:FD U:=⟨48,Tryz.f48,[D65.sg],[.p (.int .u64),.p (.int .u64)],[],[.p (.int .i64)],[],[],Zur,Zur,
.nil⟩
theorem ZFN:Zeg X0.E 48 D66.sig:=D66.ok G0 Tryz.func48 ⟨ZFO,trivial⟩ rfl rfl (by kernel_rfl)
noncomputable def D68:FD U:=⟨49,Tryz.f49,[(74,Ztx.sig)],[.p .str,.p .str],[],[.p (.int .i64)],[],[],ZvH,ZvH,
.nil⟩
theorem ZFM:Zeg X0.E 49 D68.sig:=D68.ok G0 Tryz.func49 ⟨Zv1,trivial⟩ rfl rfl (by kernel_rfl)
noncomputable def D69:FD U:=⟨47,Tryz.f47,[],[.p (.sl (.int .i64))],[],[.p (.int .i64)],[],[],ZwY,ZwY,
.lr 941011 [3,6,7,8] [] [qe0,.o (.v (.sl (.int .i64))),qe0,qe0] [] 0 [3] [] [qe0] [] ZvD ZxI (fun _=> .nil) <|
.nil⟩
theorem ZFL:Zeg X0.E 47 D69.sig:=D69.ok G0 Tryz.func47 trivial rfl rfl (by kernel_rfl)
noncomputable def D70:FD U:=⟨28,Tryz.f28,[D66.sg,D68.sg,D69.sg],[.p (.st 4),.p (.st 4)],[],[.p (.int .i64)],[],[],ZoV,ZoV,
.nil⟩
theorem ZzR:Zeg X0.E 28 D70.sig:=D70.ok G0 Tryz.func28 ⟨ZFN,ZFM,ZFL,trivial⟩ rfl rfl (by kernel_rfl)
noncomputable def D71:FD U:=⟨93,Tryz.f93,[D70.sg],[.arr (.st 4),.p (.int .i64),.p (.int .i64),.fn 28 [] []],[(0,.arr (.st 4))],[],[],[],Zoz,Zn9,
.lo 941 [0,1,2,3,8] [] [qe8,qe0,qe0,ZBt,qe0] [qo5] 0 [] [] [] [qo5] Zn5 Zo5 (fun n0=> .lo 941401541 [0,1,2,3,8,9] [] qs4 [qo5] 2 [0,1,2,3,8] [] [qe8,qe0,qe0,ZBt,qe0] [qo5] ZnS (Zo6 (Zn5 n0)) (fun n1=> .j 910541401541 [0,1,2,3,8,9,34] [] qs8 [qo5] (Zoq (ZnS n1)) <|
.nil) <|
.nil) <|
.nil⟩
theorem ZDn:Zeg X0.E 93 D71.sig:=D71.okA G0 Tryz.func93 ⟨ZzR,trivial⟩ (by kernel_rfl) (by kernel_rfl)
noncomputable def D72:FD U:=⟨152,Tryz.f152,[D70.sg],[.arr (.st 4),.p (.int .i64),.p (.int .i64),.box (.int .i64),.fn 28 [] []],[(0,.arr (.st 4)),(3,.box (.int .i64))],[.p (.int .i64),.p (.int .i64)],[],[],Zqe,Zob,
.nil⟩
theorem ZFJ:Zeg X0.E 152 D72.sig:=D72.okA G0 Tryz.func152 ⟨ZzR,trivial⟩ (by kernel_rfl) (by kernel_rfl)
noncomputable def D73:FD U:=⟨129,Tryz.f129,[D72.sg],[.arr (.st 4),.p (.int .i64),.p (.int .i64),.p (.int .i64),.box (.int .i64),.fn 28 [] []],[(0,.arr (.st 4)),(4,.box (.int .i64))],[.p (.int .i64)],[],[],Zqf,ZoX,
.nil⟩
theorem ZDm:Zeg X0.E 129 D73.sig:=D73.okA G0 Tryz.func129 ⟨ZFJ,trivial⟩ (by kernel_rfl) (by kernel_rfl)
noncomputable def D74:FD U:=⟨128,Tryz.f128,[D73.sg],[.arr (.st 4),.p (.int .i64),.box (.int .i64),.fn 28 [] []],[(0,.arr (.st 4)),(2,.box (.int .i64))],[.p (.int .i64)],[],[],ZqW,Zop,
.nil⟩
theorem ZFI:Zeg X0.E 128 D74.sig:=D74.okA G0 Tryz.func128 ⟨ZDm,trivial⟩ (by kernel_rfl) (by kernel_rfl)
noncomputable def D75:FD U:=⟨96,Tryz.f96,[D74.sg,D73.sg],[.arr (.st 4),.p (.int .i64),.p (.int .i64),.fn 28 [] []],[(0,.arr (.st 4))],[.p (.int .i64),.p (.int .i64)],[],[],ZpG,Zof,
.j 91210111111 [0,3,11,12,13,14] [] [qe8,ZBt,qe4,qe0,qe0,qe0] [qo5,.boxS (.int .i64)] Zox <|
.j 91111111 [11,13] [] [qe4,qe0] [qo5,.boxS (.int .i64)] Zow <|
.nil⟩
theorem ZDl:Zeg X0.E 96 D75.sig:=D75.okA G0 Tryz.func96 ⟨ZFI,ZDm,trivial⟩ (by kernel_rfl) (by kernel_rfl)
noncomputable def D76:FD U:=⟨98,Tryz.f98,[D70.sg],[.arr (.st 4),.p (.int .i64),.p (.int .i64),.fn 28 [] []],[(0,.arr (.st 4))],[.p .bool],[],[],Zog,ZnU,
.lr 941011 [0,1,2,3,9,10] [] qs4 [qo5] 0 [] [] [] [qo5] ZnM ZpJ (fun n0=> .lo 940401541011 [0,1,2,3,9,10] [] qs4 [qo5] 2 [0,1,2,3,9,10] [] qs4 [qo5] ZnT (ZoE (ZnM n0)) (fun n1=> .j 910540401541011 [0,1,2,3,9,10,36] [] qs8 [qo5] (Zoa (ZnT n1)) <|
.nil) <|
.lo 9412101111401541011 [0,1,2,3,9,10,11] [] [qe8,qe0,qe0,ZBt,qe0,qe0,qe0] [qo5] 4 [0,1,2,3,9,10] [] qs4 [qo5] ZoD (ZpL (ZnM n0)) (fun _=> .nil) <|
.j 9111111401541011 [0,1,2,3,9,10,104] [] qs8 [qo5] (ZoF (ZnM n0)) <|
.lo 9412111111401541011 [0,1,2,3,9,10,12] [] [qe8,qe0,qe0,ZBt,qe0,qe0,qe0] [qo5] 6 [0,1,2,3,9,10] [] qs4 [qo5] ZoC (ZpK (ZnM n0)) (fun _=> .nil) <|
.nil) <|
.nil⟩
theorem ZDk:Zeg X0.E 98 D76.sig:=D76.okA G0 Tryz.func98 ⟨ZzR,trivial⟩ (by kernel_rfl) (by kernel_rfl)
noncomputable def D77:FD U:=⟨100,Tryz.f100,[D70.sg],[.arr (.st 4),.p (.int .i64),.p (.int .i64),.p (.int .i64),.fn 28 [] []],[(0,.arr (.st 4))],[.p (.int .i64),.p .bool],[],[],ZoS,ZoN,
.lo 940111 [0,1,4,12,13] [] qs0 [qo5] 0 [0,1,4,12,13] [] qs0 [qo5] Zn1 Zpx (fun n0=> .j 910540111 [0,1,4,12,13,47] [] qs7 [qo5] (ZoL (Zn1 n0)) <|
.nil) <|
.lo 9401111 [0,1,4,12,13] [] qs0 [qo5] 2 [0,1,4,12,13] [] qs0 [qo5] Zn0 Zpw (fun n0=> .j 9105401111 [0,1,4,12,13,66] [] qs7 [qo5] (ZoK (Zn0 n0)) <|
.nil) <|
.lo 940111111111 [0,1,4,12,13] [] qs0 [qo5] 4 [0,1,13] [] [qe8,qe0,qe0] [qo5] ZnR Zpt (fun n0=> .lo 9404540111111111 [0,1,4,12,13] [] qs0 [qo5] 6 [0,1,4,12,13] [] qs0 [qo5] ZnZ (Zpv (ZnR n0)) (fun n1=> .j 9105404540111111111 [0,1,4,12,13,120] [] qs7 [qo5] (ZoJ (ZnZ n1)) <|
.nil) <|
.lo 94014540111111111 [0,1,4,12,13] [] qs0 [qo5] 8 [0,1,4,12,13] [] qs0 [qo5] ZnY (Zpu (ZnR n0)) (fun n1=> .j 91054014540111111111 [0,1,4,12,13,139] [] qs7 [qo5] (ZoI (ZnY n1)) <|
.nil) <|
.nil) <|
.nil⟩
theorem ZDj:Zeg X0.E 100 D77.sig:=D77.okA G0 Tryz.func100 ⟨ZzR,trivial⟩ (by kernel_rfl) (by kernel_rfl)
noncomputable def D78:FD U:=⟨64,Tryz.f64,[D71.sg,D75.sg,D76.sg,D70.sg,D77.sg],[.arr (.st 4),.p (.int .i64),.p (.int .i64),.p (.int .i64),.fn 28 [] []],[(0,.arr (.st 4))],[],[],[],ZpP,Zol,
.lz 9411 [0,1,2,3,4,10,11] [] [qe8,qe0,qe0,qe0,ZBt,qe3,qe3] [qo5] ZnX (fun n0=> .j 91011111145411 [0,1,2,3,4,10,11,12,13,75] [] qs3 [qo5] (ZoH (ZnX n0)) <|
.j 9111111145411 [0,1,2,3,4,10,11,12,13] [] qs10 [qo5] (Zps (ZnX n0)) <|
.j 910111111145411 [0,1,2,3,4,10,11,12,13,97] [] qs3 [qo5] (Zpr (ZnX n0)) <|
.nil) <|
.nil⟩
theorem ZFH:Zeg X0.E 64 D78.sig:=D78.okA G0 Tryz.func64 ⟨ZDn,ZDl,ZDk,ZzR,ZDj,trivial⟩ (by kernel_rfl) (by kernel_rfl)
noncomputable def D79:FD U:=⟨64,Tryz.f64,[D71.sg,D75.sg,D76.sg,D70.sg,D77.sg,D78.sg],[.arr (.st 4),.p (.int .i64),.p (.int .i64),.p (.int .i64),.fn 28 [] []],[(0,.arr (.st 4))],[],[],[],Zo4,Zn7,
.lz 9411 [0,1,2,3,4,10,11] [] [qe8,qe0,qe0,qe0,ZBt,qe3,qe3] [qo5] ZnK (fun n0=> .j 91011111145411 [0,1,2,3,4,10,11,12,13,75] [] qs3 [qo5] (Zoo (ZnK n0)) <|
.j 9111111145411 [0,1,2,3,4,10,11,12,13] [] qs10 [qo5] (Zon (ZnK n0)) <|
.j 910111111145411 [0,1,2,3,4,10,11,12,13,97] [] qs3 [qo5] (Zom (ZnK n0)) <|
.nil) <|
.nil⟩
theorem ZFG:Zeg X0.E 64 D79.sig:=D79.okA G0 Tryz.func64 ⟨ZDn,ZDl,ZDk,ZzR,ZDj,ZFH,trivial⟩ (by kernel_rfl) (by kernel_rfl)
noncomputable def D80:FD U:=⟨39,Tryz.f39,[D64.sg,D79.sg],[.arr (.st 4),.fn 28 [] []],[(0,.arr (.st 4))],[],[],[],Zo0,ZnW,
.nil⟩
theorem ZFF:Zeg X0.E 39 D80.sig:=D80.okA G0 Tryz.func39 ⟨ZFP,ZFG,trivial⟩ (by kernel_rfl) (by kernel_rfl)
noncomputable def D81:FD U:=⟨26,Tryz.f26,[D52.sg,D53.sg,D29.sg,D62.sg,D80.sg],[.p (.st 1),.p (.st 1)],[],[.own (.st 4)],[],[],Zwr,Zwr,
.lo 9410111 [3,5,6,15,16,17] [] [qe4,ZGt,ZES,ZAX,qe0,qe0] [ZAr,ZGs,qo5] 0 [6] [] [qe6] [qo5] ZrI Zw7 (fun n0=> .j 9101140115410111 [3,5,6,8,9,15,16,17,36] [] [qe4,ZGt,ZES,ZC0,ZDP,ZAX,qe0,qe0,qe3] [ZAr,ZGs,qo5,ZED,ZAW] (ZsD (ZrI n0)) <|
.j 91111140115410111 [3,5,6,9,11,15,16,17] [] [qe4,ZGt,ZES,ZC0,qe0,ZAX,qe0,qe0] [ZAr,ZGs,qo5,ZAW] (ZuW (ZrI n0)) <|
.j 91115410111 [3,5,6,15,16,17] [] [qe4,ZGt,ZES,ZAX,qe0,qe0] [ZAr,ZGs,qo5] (ZuV (ZrI n0)) <|
.nil) <|
.nil⟩
theorem ZFE:Zeg X0.E 26 D81.sig:=D81.ok G0 Tryz.func26 ⟨ZFZ,ZBo,ZDv,ZFR,ZFF,trivial⟩ rfl rfl (by kernel_rfl)
noncomputable def D82:FD U:=⟨10,Tryz.f10,[D81.sg],[.p (.st 1),.p (.st 1),.p (.int .i64)],[],[.p (.st 5),.p (.int .i64)],[],[],ZvJ,ZvJ,
.j 91401 [2,3,4,6,9] [] [qe0,qe4,qe9,ZzT,qe3] [ZAr,ZAr,qo30,qo5] Zwe <|
.j 9131401 [2,3,4,6,17] [] [qe0,qe4,qe9,ZzT,qe3] [ZAr,ZAr,qo30,qo5] Zwd <|
.nil⟩
theorem ZDi:Zeg X0.E 10 D82.sig:=D82.ok G0 Tryz.func10 ⟨ZFE,trivial⟩ rfl rfl (by kernel_rfl)
noncomputable def D83:FD U:=⟨12,Tryz.f12,[D53.sg,D54.sg,D70.sg],[.p (.st 5)],[],[.p .bool],[],[],Zsk,Zsk,
.j 9101 [1,33] [] [qe4,qe3] [ZCE] Zpo <|
.lr 941011 [1,35,36,37] [] [qe4,ZET,qe0,qe0] [ZCE] 0 [] [] [] [] Zs0 ZvI (fun n0=> .j 9114011541011 [1,35,36,37,73] [] [qe4,ZET,qe0,qe0,qe3] [ZCE] (Zr3 (Zs0 n0)) <|
.nil) <|
.nil⟩
theorem ZDh:Zeg X0.E 12 D83.sig:=D83.ok G0 Tryz.func12 ⟨ZBo,ZDo,ZzR,trivial⟩ rfl rfl (by kernel_rfl)
noncomputable def D84:FD U:=⟨90,Tryz.f90,[],[.p (.sl (.int .u32))],[],[.p (.sl (.int .u32))],[],[],Zoi,Zoi,
.lo 9401 [0] [] [qe1] [] 0 [0] [] [qe1] [] ZoY ZvQ (fun n0=> .j 9105401 [0,14] [] [qe1,qe3] [] (ZtF (ZoY n0)) <|
.nil) <|
.nil⟩
theorem ZAa:Zeg X0.E 90 D84.sig:=D84.ok G0 Tryz.func90 trivial rfl rfl (by kernel_rfl)
noncomputable def D85:FD U:=⟨87,Tryz.f87,[D84.sg],[.p .bool,.p (.sl (.int .u32))],[],[.p (.st 2)],[],[],Zn6,Zn6,
.j 9111 [4] [] [qe4] [ZBd] Zsh <|
.nil⟩
theorem ZAO:Zeg X0.E 87 D85.sig:=D85.ok G0 Tryz.func87 ⟨ZAa,trivial⟩ rfl rfl (by kernel_rfl)
noncomputable def D86:FD U:=⟨83,Tryz.f83,[D85.sg],[.p (.int .i64)],[],[.p (.st 2)],[],[],Zn3,Zn3,
.j 9111 [0,2,3] [] [qe0,qe4,Zzq] [qo34,qo2] ZqH <|
.nil⟩
theorem ZCl:Zeg X0.E 83 D86.sig:=D86.ok G0 Tryz.func83 ⟨ZAO,trivial⟩ rfl rfl (by kernel_rfl)
noncomputable def D87:FD U:=⟨32,Tryz.f32,[],[.p (.st 2)],[],[.p .bool],[],[],ZoR,ZoR,
.j 9111 [2] [] [qe3] [] Zot <|
.nil⟩
theorem ZDg:Zeg X0.E 32 D87.sig:=D87.ok G0 Tryz.func32 trivial rfl rfl (by kernel_rfl)
noncomputable def D88:FD U:=⟨58,Tryz.f58,[D84.sg],[.p (.sl (.int .u32))],[],[.p (.sl (.int .u32))],[],[],Zo2,Zo2,
.lo 941011 [0,3,9,10] [] [qe1,qe6,qe0,qe0] [qo2] 0 [3] [] [qe6] [qo2] Zqi ZtG (fun n0=> .j 9111541011 [0,3,9,10] [] [qe1,qe6,qe0,qe0] [qo2] (Zqj (Zqi n0)) <|
.nil) <|
.nil⟩
theorem ZFD:Zeg X0.E 58 D88.sig:=D88.ok G0 Tryz.func58 ⟨ZAa,trivial⟩ rfl rfl (by kernel_rfl)
noncomputable def D89:FD U:=⟨33,Tryz.f33,[],[.p (.sl (.int .u32)),.p (.sl (.int .u32))],[],[.p (.int .i64)],[],[],ZoB,ZoB,
.lr 941011 [0,1,5] [] qs6 [] 0 [] [] [] [] Zsg Zua (fun _=> .nil) <|
.nil⟩
theorem ZBn:Zeg X0.E 33 D89.sig:=D89.ok G0 Tryz.func33 trivial rfl rfl (by kernel_rfl)
noncomputable def D90:FD U:=⟨59,Tryz.f59,[D84.sg],[.p (.sl (.int .u32)),.p (.sl (.int .u32))],[],[.p (.sl (.int .u32))],[],[],Zph,Zph,
.lo 9410111 [0,1,5,6,7] [] [qe1,qe1,qe6,qe0,qe0] [qo2] 0 [5] [] [qe6] [qo2] Zqv Zt1 (fun n0=> .j 9114015410111 [0,1,5,6,7] [] [qe1,qe1,qe6,qe0,qe0] [qo2] (Zqw (Zqv n0)) <|
.nil) <|
.nil⟩
theorem ZCk:Zeg X0.E 59 D90.sig:=D90.ok G0 Tryz.func59 ⟨ZAa,trivial⟩ rfl rfl (by kernel_rfl)
noncomputable def D91:FD U:=⟨60,Tryz.f60,[D84.sg],[.p (.sl (.int .u32)),.p (.int .u32)],[],[.p (.sl (.int .u32))],[],[],ZpY,ZpY,
.lo 941011 [0,1,5,6] [] [qe1,ZAs,qe6,qe0] [qo2] 0 [1,5] [] [ZAs,qe6] [qo2] Zrg Zs4 (fun _=> .nil) <|
.nil⟩
theorem ZDf:Zeg X0.E 60 D91.sig:=D91.ok G0 Tryz.func60 ⟨ZAa,trivial⟩ rfl rfl (by kernel_rfl)
noncomputable def D92:FD U:=⟨34,Tryz.f34,[D88.sg,D89.sg,D90.sg,D91.sg],[.p (.sl (.int .u32)),.p (.sl (.int .u32))],[],[.p (.sl (.int .u32))],[],[],Zqq,Zqq,
.lo 94011 [0,1,5] [] qs6 [] 0 [0,1,5] [] qs6 [] ZpN Zt8 (fun n0=> .j 91054011 [0,1,5,17] [] [qe1,qe1,qe0,qe3] [] (Zsf (ZpN n0)) <|
.nil) <|
.lo 940111 [0,1,5] [] qs6 [] 2 [0,5] [] [qe1,qe0] [] Zn8 Zt5 (fun n0=> .lo 94041540111 [0,1,5] [] qs6 [] 4 [0,1,5] [] qs6 [] ZoP (Zt7 (Zn8 n0)) (fun _=> .nil) <|
.lo 940141540111 [0,1,5] [] qs6 [] 6 [0,1,5] [] qs6 [] ZoO (Zt6 (Zn8 n0)) (fun _=> .nil) <|
.j 911141540111 [0,1,5] [] qs6 [] (Zse (Zn8 n0)) <|
.nil) <|
.lo 9401111 [0,5] [] [qe1,qe0] [] 8 [0] [] [qe1] [] ZpM Zt4 (fun _=> .nil) <|
.nil⟩
theorem ZDe:Zeg X0.E 34 D92.sig:=D92.ok G0 Tryz.func34 ⟨ZFD,ZBn,ZCk,ZDf,trivial⟩ rfl rfl (by kernel_rfl)
noncomputable def D93:FD U:=⟨148,Tryz.f148,[],[.p (.sl (.int .u32)),.p (.int .i64)],[],[.p (.int .u32)],[],[],ZrW,ZrW,
.nil⟩
theorem ZFC:Zeg X0.E 148 D93.sig:=D93.ok G0 Tryz.func148 trivial rfl rfl (by kernel_rfl)
noncomputable def D94:FD U:=⟨121,Tryz.f121,[D93.sg,D91.sg,D89.sg,D90.sg,D84.sg],[.p (.sl (.int .u32)),.p (.sl (.int .u32))],[],[.p (.sl (.int .u32)),.p (.sl (.int .u32))],[],[],Zqr,Zqr,
.lo 941011 [0,1,4,5,6] [5] [qe1,qe1,qe6,qe1,qe0] [qo2] 0 [4,5] [] [qe6,qe1] [qo2] Zqz Zt9 (fun n0=> .j 911541011 [0,1,4,5,6] [] [qe1,qe1,qe6,qe1,qe0] [qo2] (ZqA (Zqz n0)) <|
.nil) <|
.nil⟩
theorem ZFB:Zeg X0.E 121 D94.sig:=D94.ok G0 Tryz.func121 ⟨ZFC,ZDf,ZBn,ZCk,ZAa,trivial⟩ rfl rfl (by kernel_rfl)
noncomputable def D95:FD U:=⟨85,Tryz.f85,[D86.sg,D92.sg,D94.sg,D85.sg],[.p (.st 2),.p (.st 2)],[],[.p (.st 3)],[],[],Zo8,Zo8,
.nil⟩
theorem ZCj:Zeg X0.E 85 D95.sig:=D95.ok G0 Tryz.func85 ⟨ZCl,ZDe,ZFB,ZAO,trivial⟩ rfl rfl (by kernel_rfl)
noncomputable def D96:FD U:=⟨86,Tryz.f86,[D87.sg,D95.sg],[.p (.st 2),.p (.st 2)],[],[.p (.st 3),.p (.int .i64)],[],[],Zrs,Zrs,
.j 9101 [2,3,4,13] [] [qe4,qe9,ZzT,qe3] [ZBd,ZBd,ZER,qo2,qo2] ZrQ <|
.nil⟩
theorem ZFA:Zeg X0.E 86 D96.sig:=D96.ok G0 Tryz.func86 ⟨ZDg,ZCj,trivial⟩ rfl rfl (by kernel_rfl)
noncomputable def D97:FD U:=⟨54,Tryz.f54,[D86.sg,D96.sg],[.p (.int .i64),.p (.int .i64)],[],[.p (.st 3),.p (.int .i64)],[],[],Zq2,Zq2,
.nil⟩
theorem ZDd:Zeg X0.E 54 D97.sig:=D97.ok G0 Tryz.func54 ⟨ZCl,ZFA,trivial⟩ rfl rfl (by kernel_rfl)
noncomputable def D98:FD U:=⟨40,Tryz.f40,[D97.sg],[.p (.int .i64),.p (.int .i64)],[],[.p (.st 3)],[],[],Zre,Zre,
.nil⟩
theorem ZFz:Zeg X0.E 40 D98.sig:=D98.ok G0 Tryz.func40 ⟨ZDd,trivial⟩ rfl rfl (by kernel_rfl)
noncomputable def D99:FD U:=⟨21,Tryz.f21,[D98.sg],[.p (.int .i64)],[],[.p (.st 3)],[],[],Zqp,Zqp,
.nil⟩
theorem ZDc:Zeg X0.E 21 D99.sig:=D99.ok G0 Tryz.func21 ⟨ZFz,trivial⟩ rfl rfl (by kernel_rfl)
noncomputable def ZHB:FD U:=⟨31,Tryz.f31,[],[.p (.st 2),.p (.st 2)],[],[.p .bool],[],[],ZpB,ZpB,
.j 9101 [2,3,20] [] [qe4,qe9,qe3] [ZBd,ZBd] ZqF <|
.lr 941011 [3,22,23,24] [] [qe4,qe1,qe0,qe0] [ZBd] 0 [] [] [] [] ZqE Zsx (fun _=> .nil) <|
.nil⟩
theorem ZEA:Zeg X0.E 31 ZHB.sig:=ZHB.ok G0 Tryz.func31 trivial rfl rfl (by kernel_rfl)
noncomputable def ZGF:FD U:=⟨16,Tryz.f16,[ZHB.sg],[.p (.st 3),.p (.st 3)],[],[.p .bool],[],[],Zqb,Zqb,
.j 911 [4] [] [qe3] [] ZrL <|
.nil⟩
theorem ZCx:Zeg X0.E 16 ZGF.sig:=ZGF.ok G0 Tryz.func16 ⟨ZEA,trivial⟩ rfl rfl (by kernel_rfl)
noncomputable def ZHA:FD U:=⟨6,Tryz.f6,[D82.sg,D83.sg,D99.sg,ZGF.sg,D53.sg],[],[],[.p .bool],[],[],ZpZ,ZpZ,
.j 9101111 [3,40] [] [qe4,qe3] [ZCE] Zpn <|
.lr 941011111 [42,43,44] [] [ZET,qe0,qe0] [] 0 [] [] [] [] Zpm Ztg (fun n0=> .j 9114011541011111 [42,43,44,62] [] [ZET,qe0,qe0,qe3] [] (Zp6 (Zpm n0)) <|
.nil) <|
.nil⟩
theorem ZEz:Zeg X0.E 6 ZHA.sig:=ZHA.ok G0 Tryz.func6 ⟨ZDi,ZDh,ZDc,ZCx,ZBo,trivial⟩ rfl rfl (by kernel_rfl)
noncomputable def ZHz:FD U:=⟨7,Tryz.f7,[],[.p (.sl (.int .i64))],[],[.box (.st 7)],[],[],ZtP,ZtP,
.nil⟩
theorem ZEy:Zeg X0.E 7 ZHz.sig:=ZHz.ok G0 Tryz.func7 trivial rfl rfl (by kernel_rfl)
noncomputable def ZGE:FD U:=⟨11,Tryz.f11,[],[.p (.int .i64),.p (.int .i64)],[],[.p (.int .i64)],[],[],ZrG,ZrG,
.nil⟩
theorem ZCw:Zeg X0.E 11 ZGE.sig:=ZGE.ok G0 Tryz.func11 trivial rfl rfl (by kernel_rfl)
noncomputable def ZEx:FD U:=⟨8,Tryz.f8,[ZGE.sg],[.box (.st 7),.p (.int .i64)],[(0,.box (.st 7))],[.p (.int .i64)],[],[],Zod,Zod,
.nil⟩
theorem ZzS:Zeg X0.E 8 ZEx.sig:=ZEx.ok G0 Tryz.func8 ⟨ZCw,trivial⟩ rfl rfl (by kernel_rfl)
noncomputable def ZGo:FD U:=⟨22,Tryz.f22,[ZEx.sg],[.box (.st 7),.p (.sl .str)],[(0,.box (.st 7))],[.p .str],[],[],ZoG,ZoG,
.nil⟩
theorem ZA1:Zeg X0.E 22 ZGo.sig:=ZGo.ok G0 Tryz.func22 ⟨ZzS,trivial⟩ rfl rfl (by kernel_rfl)
noncomputable def ZHy:FD U:=⟨23,Tryz.f23,[ZEx.sg,ZGo.sg],[.box (.st 7)],[(0,.box (.st 7))],[.p (.st 0)],[],[],Zsq,Zsq,
.nil⟩
theorem ZEw:Zeg X0.E 23 ZHy.sig:=ZHy.ok G0 Tryz.func23 ⟨ZzS,ZA1,trivial⟩ rfl rfl (by kernel_rfl)
noncomputable def ZHx:FD U:=⟨24,Tryz.f24,[ZEx.sg,ZGo.sg,(25,Zxb.sig)],[.box (.st 7)],[(0,.box (.st 7))],[.p (.st 0)],[],[],Zrv,Zrv,
.nil⟩
theorem ZEv:Zeg X0.E 24 ZHx.sig:=ZHx.ok G0 Tryz.func24 ⟨ZzS,ZA1,ZxO,trivial⟩ rfl rfl (by kernel_rfl)
noncomputable def ZHw:FD U:=⟨9,Tryz.f9,[ZGo.sg,ZEx.sg,ZHy.sg,ZHx.sg,(25,Zxb.sig)],[.box (.st 7),.p (.int .i64)],[(0,.box (.st 7))],[.p (.st 1)],[],[],Zqd,Zqd,
.lo 9410111 [0,4,5,6,15,16] [] [.o (.ptr (0,0,0) 0 0),qe4,qe9,qe0,qe0,qe0] [.boxS (.st 7),qo36,ZGO,ZEB,ZEB] 0 [4,5] [] [qe4,qe9] [.boxS (.st 7),qo36,ZGO,ZEB,ZEB] Zqk ZtI (fun n0=> .j 911140115410111 [0,4,5,6,8,15,16] [] [.o (.ptr (0,0,0) 0 0),qe4,qe9,qe0,ZzT,qe0,qe0] [.boxS (.st 7),ZGO,.box [.o (.v .str),.o (.full (0,5,1))],ZED,ZEB,ZEB] (ZoZ (Zqk n0)) <|
.nil) <|
.nil⟩
theorem ZEu:Zeg X0.E 9 ZHw.sig:=ZHw.ok G0 Tryz.func9 ⟨ZA1,ZzS,ZEw,ZEv,ZxO,trivial⟩ rfl rfl (by kernel_rfl)
noncomputable def ZHv:FD U:=⟨75,Tryz.f75,[],[.p .str],[],[.p .str],[],[],ZuI,ZuI,
.lo 9401 [0] [] [qe7] [] 0 [0] [] [qe7] [] ZrP ZvO (fun n0=> .j 9105401 [0,10] [] ZCD [] (ZtC (ZrP n0)) <|
.nil) <|
.lo 94011 [0] [] [qe7] [] 2 [0] [] [qe7] [] ZrO ZvN (fun n0=> .j 91054011 [0,23] [] ZCD [] (ZtB (ZrO n0)) <|
.nil) <|
.nil⟩
theorem ZEt:Zeg X0.E 75 ZHv.sig:=ZHv.ok G0 Tryz.func75 trivial rfl rfl (by kernel_rfl)
noncomputable def ZHu:FD U:=⟨76,Tryz.f76,[],[.p .str],[],[.p .str],[],[],ZuJ,ZuJ,
.lo 941011 [3,8,9] [] [qe6,qe0,qe0] [ZEC] 0 [3] [] [qe6] [ZEC] Zqh ZvP (fun n0=> .j 9114011541011 [3,4,8,9,23] [] [qe6,qe0,qe0,qe0,qe3] [ZEC] (ZtE (Zqh n0)) <|
.j 9111541011 [3,8,9] [] [qe6,qe0,qe0] [ZEC] (ZtD (Zqh n0)) <|
.nil) <|
.nil⟩
theorem ZEs:Zeg X0.E 76 ZHu.sig:=ZHu.ok G0 Tryz.func76 trivial rfl rfl (by kernel_rfl)
noncomputable def ZGD:FD U:=⟨77,Tryz.f77,[],[.p .str],[],[.p .bool,.p .str,.p .str,.p .bool],[],[],Zst,Zst,
.j 9101 [0,2,20] [] [qe7,qe3,qe3] [] Zrr <|
.j 911 [0,2] [] ZCD [] Ztf <|
.lo 940111 [0,2,6] [] [qe7,qe3,qe0] [] 0 [0,2,6] [] [qe7,qe3,qe0] [] Zro Zvo (fun n0=> .j 910540111 [0,2,6,41] [] [qe7,qe3,qe0,qe3] [] (Zrq (Zro n0)) <|
.nil) <|
.j 91011111 [0,2,3,6,52] [] [qe7,qe3,qe7,qe0,qe3] [] Zte <|
.j 91011111111 [2,3,4,76] [] ZGq [] Zrp <|
.lr 9410111111111 [2,3,4,7] [] [qe3,qe7,qe7,qe0] [] 2 [2,3,4] [] ZEQ [] Zrn Zvn (fun n0=> .j 914015410111111111 [2,3,4,7,92] [] [qe3,qe7,qe7,qe0,qe3] [] (Ztd (Zrn n0)) <|
.nil) <|
.nil⟩
theorem ZCv:Zeg X0.E 77 ZGD.sig:=ZGD.ok G0 Tryz.func77 trivial rfl rfl (by kernel_rfl)
noncomputable def ZHt:FD U:=⟨78,Tryz.f78,[],[.p .bool,.p .str,.p .str],[],[.p .str],[],[],ZtY,ZtY,
.lo 9401 [0,1,2] [] ZEQ [] 0 [0,1,2] [] ZEQ [] Zq7 Zu6 (fun n0=> .j 9105401 [0,1,2,14] [] ZGq [] (ZsO (Zq7 n0)) <|
.nil) <|
.lo 94011 [0,1,2] [] ZEQ [] 2 [0,1,2] [] ZEQ [] Zq6 Zu5 (fun n0=> .j 91054011 [0,1,2,27] [] ZGq [] (ZsN (Zq6 n0)) <|
.nil) <|
.j 91111 [0,1] [] [qe3,qe7] [] ZsM <|
.j 9101111 [1,43] [] ZCD [] ZsL <|
.j 911111 [1] [] [qe7] [] ZsK <|
.nil⟩
theorem ZEr:Zeg X0.E 78 ZHt.sig:=ZHt.ok G0 Tryz.func78 trivial rfl rfl (by kernel_rfl)
noncomputable def ZHs:FD U:=⟨80,Tryz.f80,[],[.p .str],[],[.p (.int .i64)],[],[],Zpg,Zpg,
.lr 941011 [0,3,4] [] [qe7,qe0,qe0] [] 0 [3] [] [qe0] [] Zsa Zv4 (fun n0=> .j 910401541011 [0,3,4,20] [] [qe7,qe0,qe0,qe3] [] (ZtX (Zsa n0)) <|
.nil) <|
.nil⟩
theorem ZEq:Zeg X0.E 80 ZHs.sig:=ZHs.ok G0 Tryz.func80 trivial rfl rfl (by kernel_rfl)
noncomputable def ZGC:FD U:=⟨82,Tryz.f82,[],[.p (.int .i64)],[],[.p .bool],[],[],ZsQ,ZsQ,
.j 911 [2] [] [qe3] [] ZrM <|
.nil⟩
theorem ZCu:Zeg X0.E 82 ZGC.sig:=ZGC.ok G0 Tryz.func82 trivial rfl rfl (by kernel_rfl)
noncomputable def ZHr:FD U:=⟨81,Tryz.f81,[ZGC.sg],[.p (.int .i64),.p (.int .i64)],[],[.p (.int .i64)],[],[],Zsb,Zsb,
.j 91401 [1,5] [] [qe0,qe3] [] ZsP <|
.j 913131401 [15] [] [qe3] [] ZpR <|
.nil⟩
theorem ZEp:Zeg X0.E 81 ZHr.sig:=ZHr.ok G0 Tryz.func81 ⟨ZCu,trivial⟩ rfl rfl (by kernel_rfl)
noncomputable def ZGB:FD U:=⟨52,Tryz.f52,[ZHr.sg,ZGC.sg],[.p (.int .i64),.p (.int .i64),.p (.int .i64)],[],[.p (.int .i64),.p .bool],[],[],Ztt,Ztt,
.j 9101 [0,1,2,35] [] [qe0,qe0,qe0,qe3] [] Zo7 <|
.lo 9410111 [0,1,2,8,9] [] ZGL [] 0 [0,1,2,8] [] [qe0,qe0,qe0,qe0] [] Zsc Zv6 (fun n0=> .j 9115410111 [0,1,2,8,9] [] ZGL [] (Zt0 (Zsc n0)) <|
.nil) <|
.lo 94101111 [0,1,2,8,10] [] ZGL [] 2 [2,8] [] [qe0,qe0] [] ZtZ Zv5 (fun _=> .nil) <|
.nil⟩
theorem ZCt:Zeg X0.E 52 ZGB.sig:=ZGB.ok G0 Tryz.func52 ⟨ZEp,ZCu,trivial⟩ rfl rfl (by kernel_rfl)
noncomputable def ZGA:FD U:=⟨51,Tryz.f51,[ZHs.sg,ZGB.sg],[.p .str],[],[.p (.int .i64),.p (.int .i64),.p (.int .i64),.p .bool],[],[],ZsR,ZsR,
.j 9104011 [0,9] [] ZCD [] ZtA <|
.j 914011 [0,9] [] ZCD [] ZrN <|
.j 91314011 [0,35] [] ZCD [] Ztz <|
.j 9111 [2,3,4] [] [qe0,qe0,qe0] [] Zty <|
.nil⟩
theorem ZCs:Zeg X0.E 51 ZGA.sig:=ZGA.ok G0 Tryz.func51 ⟨ZEq,ZCt,trivial⟩ rfl rfl (by kernel_rfl)
noncomputable def ZHq:FD U:=⟨79,Tryz.f79,[],[.p (.int .i64),.p (.int .i64)],[],[.p .str],[],[],Zqu,Zqu,
.lo 94011 [0,1,5] [] [qe0,qe0,qe7] [] 0 [5] [] [qe7] [] ZsJ Zu4 (fun _=> .nil) <|
.nil⟩
theorem ZEo:Zeg X0.E 79 ZHq.sig:=ZHq.ok G0 Tryz.func79 trivial rfl rfl (by kernel_rfl)
noncomputable def ZHp:FD U:=⟨50,Tryz.f50,[ZHv.sg,ZHu.sg,ZGD.sg,ZHt.sg,ZGA.sg,ZHq.sg],[.p (.int .i64),.p .str],[],[.p .str,.p .bool],[],[],ZsS,ZsS,
.j 9141213141011 [24,25] [] ZCD [] Zr2 <|
.j 913141213141011 [28] [] [qe3] [] Zr1 <|
.j 91313141011 [0,6,17,31] [] [qe0,qe7,qe0,qe3] [] Zr0 <|
.j 91121313141011 [7,8,9,49] [] ZGq [] Zqc <|
.j 9111 [] [] [] [] Zpk <|
.nil⟩
theorem ZEn:Zeg X0.E 50 ZHp.sig:=ZHp.ok G0 Tryz.func50 ⟨ZEt,ZEs,ZCv,ZEr,ZCs,ZEo,trivial⟩ rfl rfl (by kernel_rfl)
noncomputable def ZHo:FD U:=⟨89,Tryz.f89,[D84.sg],[.p (.sl (.int .u32)),.p (.sl (.int .u32))],[],[.p (.sl (.int .u32))],[],[],ZrV,ZrV,
.lo 941011 [0,1,5,6] [] [qe1,qe1,qe6,qe0] [qo2] 0 [5] [] [qe6] [qo2] Zqy Zt2 (fun n0=> .lo 94101401541011 [0,1,5,6,7,8] [] [qe1,qe1,qe6,qe0,Zzq,qe0] [qo2] 2 [0,1,5,6,7] [] [qe1,qe1,qe6,qe0,Zzq] [qo2] Zsd (Zt3 (Zqy n0)) (fun _=> .nil) <|
.nil) <|
.nil⟩
theorem ZEm:Zeg X0.E 89 ZHo.sig:=ZHo.ok G0 Tryz.func89 ⟨ZAa,trivial⟩ rfl rfl (by kernel_rfl)
noncomputable def ZGz:FD U:=⟨57,Tryz.f57,[ZHo.sg,D85.sg],[.p (.st 2),.p (.st 2)],[],[.p (.st 2)],[],[],Zn4,Zn4,
.nil⟩
theorem ZCq:Zeg X0.E 57 ZGz.sig:=ZGz.ok G0 Tryz.func57 ⟨ZEm,ZAO,trivial⟩ rfl rfl (by kernel_rfl)
noncomputable def ZHn:FD U:=⟨88,Tryz.f88,[],[.p (.sl (.int .u32)),.p (.sl (.int .u32))],[],[.own (.int .u32)],[],[],Zqs,Zqs,
.lo 9410111 [0,1,5,6,7] [] ZGM [qo2] 0 [5,6] [] [qe6,Zzq] [qo2] Zo9 Zub (fun n0=> .j 9105410111 [0,1,5,6,7,17] [] [qe1,qe1,qe6,Zzq,qe0,qe3] [qo2] (ZpO (Zo9 n0)) <|
.j 914015410111 [0,1,5,6,7] [] ZGM [qo2] (ZqC (Zo9 n0)) <|
.j 9114015410111 [0,1,5,6,7] [] ZGM [qo2] (ZqB (Zo9 n0)) <|
.nil) <|
.nil⟩
theorem ZEl:Zeg X0.E 88 ZHn.sig:=ZHn.ok G0 Tryz.func88 trivial rfl rfl (by kernel_rfl)
noncomputable def ZGy:FD U:=⟨56,Tryz.f56,[ZHn.sg,D85.sg,D89.sg,D90.sg],[.p (.st 2),.p (.st 2)],[],[.p (.st 2)],[],[],ZpC,ZpC,
.nil⟩
theorem ZCp:Zeg X0.E 56 ZGy.sig:=ZGy.ok G0 Tryz.func56 ⟨ZEl,ZAO,ZBn,ZCk,trivial⟩ rfl rfl (by kernel_rfl)
noncomputable def ZHm:FD U:=⟨84,Tryz.f84,[D85.sg],[.p (.st 2)],[],[.p (.st 2)],[],[],Zuy,Zuy,
.nil⟩
theorem ZEk:Zeg X0.E 84 ZHm.sig:=ZHm.ok G0 Tryz.func84 ⟨ZAO,trivial⟩ rfl rfl (by kernel_rfl)
noncomputable def ZHl:FD U:=⟨53,Tryz.f53,[ZGD.sg,D86.sg,ZGz.sg,ZGy.sg,ZHm.sg,D95.sg],[.p .str],[],[.p (.st 3),.p .bool],[],[],ZtH,ZtH,
.lo 94101111 [2,4,6,8,9,27,28,29] [100008] [qe4,qe3,qe7,qe9,ZzT,.o (.full (0,4,1)),qe0,qe0] [ZGP,ZBd,ZBd,ZEC,qo2,qo2] 0 [2,4,6,8,9] [] [qe4,qe3,qe7,qe9,ZzT] ZGN Zsz ZuT (fun _=> .nil) <|
.lo 941011111 [2,4,8,9,43] [] [qe4,qe3,qe9,ZzT,.o (.it (0,4,1))] [ZGP,ZBd,ZBd,.sit,qo2,qo2] 2 [2,4,8,9] [] [qe4,qe3,qe9,ZzT] ZGN ZqI ZuS (fun n0=> .j 91541011111 [2,4,8,9,43,45] [] [qe4,qe3,qe9,ZzT,.o (.it (0,4,1)),qe3] [ZGP,ZBd,ZBd,.sit,qo2,qo2] (ZsB (ZqI n0)) <|
.nil) <|
.j 91111111 [2,8,9] [] [qe4,qe9,ZzT] ZGN ZsA <|
.nil⟩
theorem ZEj:Zeg X0.E 53 ZHl.sig:=ZHl.ok G0 Tryz.func53 ⟨ZCv,ZCl,ZCq,ZCp,ZEk,ZCj,trivial⟩ rfl rfl (by kernel_rfl)
noncomputable def ZHk:FD U:=⟨29,Tryz.f29,[ZHp.sg,ZGA.sg,ZGB.sg,ZHl.sg,D97.sg],[.p (.int .i64),.p .str],[],[.p (.st 3),.p .bool],[],[],Zux,Zux,
.j 91011 [0,4,6,26] [] [qe0,qe4,qe7,qe3] qp9 Zs3 <|
.j 911111 [4,8] [] [qe4,qe0] qp9 Zrf <|
.nil⟩
theorem ZEi:Zeg X0.E 29 ZHk.sig:=ZHk.ok G0 Tryz.func29 ⟨ZEn,ZCs,ZCt,ZEj,ZDd,trivial⟩ rfl rfl (by kernel_rfl)
noncomputable def ZHj:FD U:=⟨13,Tryz.f13,[ZHk.sg],[.p (.st 0)],[],[.p (.st 3),.p .bool],[],[],Zos,Zos,
.nil⟩
theorem ZEh:Zeg X0.E 13 ZHj.sig:=ZHj.ok G0 Tryz.func13 ⟨ZEi,trivial⟩ rfl rfl (by kernel_rfl)
noncomputable def ZHi:FD U:=⟨14,Tryz.f14,[D99.sg],[],[],[.p (.st 3)],[],[],Zrd,Zrd,
.nil⟩
theorem ZEg:Zeg X0.E 14 ZHi.sig:=ZHi.ok G0 Tryz.func14 ⟨ZDc,trivial⟩ rfl rfl (by kernel_rfl)
noncomputable def ZGx:FD U:=⟨18,Tryz.f18,[D87.sg,D89.sg,D92.sg],[.p (.st 3)],[],[.p .bool],[],[],Zoe,Zoe,
.j 9101 [1,24] [] [qe4,qe3] [ZAW] Zpl <|
.nil⟩
theorem ZCo:Zeg X0.E 18 ZGx.sig:=ZGx.ok G0 Tryz.func18 ⟨ZDg,ZBn,ZDe,trivial⟩ rfl rfl (by kernel_rfl)
noncomputable def ZHh:FD U:=⟨55,Tryz.f55,[D95.sg],[.p (.st 2),.p (.st 2)],[],[.p (.st 3),.p (.int .i64)],[],[],Zqx,Zqx,
.j 91011 [4,6,21] [] [qe4,qe9,qe3] [qo26,ZAW,qo2,qo2] Zq8 <|
.nil⟩
theorem ZEf:Zeg X0.E 55 ZHh.sig:=ZHh.ok G0 Tryz.func55 ⟨ZCj,trivial⟩ rfl rfl (by kernel_rfl)
noncomputable def ZHg:FD U:=⟨30,Tryz.f30,[ZGx.sg,ZGz.sg,ZGy.sg,ZHh.sg],[.p (.st 3),.p (.st 3)],[],[.p (.st 3),.p (.int .i64)],[],[],ZrX,ZrX,
.j 9101 [2,3,4,13] [] [qe4,qe9,ZzT,qe3] [ZAW,ZAW,ZER,qo2,qo2] Zsi <|
.nil⟩
theorem ZEe:Zeg X0.E 30 ZHg.sig:=ZHg.ok G0 Tryz.func30 ⟨ZCo,ZCq,ZCp,ZEf,trivial⟩ rfl rfl (by kernel_rfl)
noncomputable def ZHf:FD U:=⟨15,Tryz.f15,[ZHg.sg],[.p (.st 3),.p (.st 3)],[],[.p (.st 3)],[],[],ZrU,ZrU,
.nil⟩
theorem ZEd:Zeg X0.E 15 ZHf.sig:=ZHf.ok G0 Tryz.func15 ⟨ZEe,trivial⟩ rfl rfl (by kernel_rfl)
noncomputable def D135:FD U:=⟨3,Tryz.f3,[D0.sg,ZHA.sg,ZHz.sg,ZEx.sg,ZHw.sg,ZGE.sg,D82.sg,D83.sg,ZHj.sg,ZHi.sg,ZHf.sg,ZGF.sg,D53.sg,ZGx.sg],[.p (.sl (.int .i64)),.p (.int .i64)],[],[.p .bool],[],[],Zqm,Zqm,
.j 910111111 [7,8,9,53] [] [qe4,qe9,ZzT,qe3] ZGr ZpW <|
.lr 94101111111 [7,8,9,55,56,57] [] [qe4,qe9,ZzT,ZAX,qe0,qe0] ZGr 0 [] [] [] [] ZnP Zrb (fun n0=> .j 91011401154101111111 [7,8,9,12,13,55,56,57,76] [] [qe4,qe9,ZzT,ZC0,ZDP,ZAX,qe0,qe0,qe3] [ZAr,ZAr,ZCE,ZED,ZAW] (ZpV (ZnP n0)) <|
.lo 94101111401154101111111 [7,8,9,12,13,15,16,17,55,56,57,79,80,81] [] qs5 qp2 2 [7,8,9,12,13,15,16,17,55,56,57] [] [qe4,qe9,ZzT,ZC0,ZDP,qe0,ZGv,qe3,ZAX,qe0,qe0] qp2 Zok (Zru (ZnP n0)) (fun n1=> .j 9111401154101111401154101111111 [7,8,9,12,13,15,16,17,20,55,56,57,79,80,81,107] [] [qe4,qe9,ZzT,ZC0,ZDP,qe0,ZGv,qe3,.o (.ptr (0,7,1) 0 0),ZAX,qe0,qe0,ZAX,qe0,qe0,qe3] [ZAr,ZAr,ZCE,ZED,ZAW,ZAW,ZAW] (Zo3 (Zok n1)) <|
.j 911154101111401154101111111 [7,8,9,12,13,15,16,17,55,56,57,79,80,81] [] qs5 qp2 (ZpU (Zok n1)) <|
.nil) <|
.lr 941011111401154101111111 [7,8,9,12,13,15,16,17,55,56,57,115,116,117] [] qs1 qp2 4 [7,8,9,12,13,17,55,56,57] [] [qe4,qe9,ZzT,ZC0,ZDP,qe3,ZAX,qe0,qe0] [ZAr,ZAr,ZCE,ZED,ZAW] Zoj (Zrt (ZnP n0)) (fun n1=> .j 912114011541011111401154101111111 [7,8,9,12,13,15,16,17,55,56,57,115,116,117] [] qs1 qp2 (ZpT (Zoj n1)) <|
.j 9111541011111401154101111111 [7,8,9,12,13,15,16,17,55,56,57,115,116,117] [] qs1 qp2 (ZpS (Zoj n1)) <|
.nil) <|
.j 91111111401154101111111 [7,8,9,55,56,57,174] [] [qe4,qe9,ZzT,ZAX,qe0,qe0,qe3] ZGr (ZnQ (ZnP n0)) <|
.j 911154101111111 [7,8,9,55,56,57] [] [qe4,qe9,ZzT,ZAX,qe0,qe0] ZGr (ZoW (ZnP n0)) <|
.nil) <|
.nil⟩
theorem D135_ok:Zeg X0.E 3 D135.sig:=D135.ok G0 Tryz.func3 ⟨ZHC,ZEz,ZEy,ZzS,ZEu,ZCw,ZDi,ZDh,ZEh,ZEg,ZEd,ZCx,ZBo,ZCo,trivial⟩ rfl rfl (by kernel_rfl)
end
end Go.Proofs

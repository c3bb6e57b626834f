/- Printed by wip/tools/tgen.py: walks. -/
import Derived.Test.YtpkmihjnkbkcjaaGreatDoorWtU
import Derived.Test.YtpkmihjnkbkcjaaGreatDoorWtWX
set_option linter.unusedVariables false
set_option linter.unusedSimpArgs false
set_option linter.unusedSectionVars false
namespace Go.Proofs
open Go Eng
set_option maxRecDepth 100000
noncomputable section
abbrev qe0:Sh:= .o (.v (.int .i64))
abbrev qe1:Sh:= .o (.v (.sl (.int .u32)))
abbrev qo2:ShO:= .arr (.st 4) false
abbrev qe3:Sh:= .o (.full (0,0,0))
abbrev qo4:ShO:= .arr (.int .u32) false
abbrev qe5:Sh:= .o (.full (0,1,1))
abbrev qe6:Sh:= .o (.v .bool)
abbrev qe7:Sh:= .o (.ptr (0,1,1) 0 0)
abbrev qe8:Sh:= .fn 15 [] []
abbrev qe9:Sh:= .o (.v (.int .u64))
abbrev ZBw:Sh:= .o (.v (.sl (.int .u8)))
abbrev qo11:ShO:= .box [.o (.full (0,9,1)),.o (.full (0,10,1)),.o (.full (0,11,1)),.o (.full (0,12,1)),.o (.full (0,13,1))]
abbrev qo12:ShO:= .box [.o (.full (0,4,1)),.o (.full (0,5,1)),.o (.full (0,6,1)),.o (.full (0,7,1)),.o (.full (0,8,1))]
abbrev ZA8:Sh:= .o (.v (.int .u32))
abbrev ZB2:ShO:= .arr (.st 5) false
abbrev ZB1:ShO:= .arr (.st 6) false
abbrev ZD8:ShO:= .arr (.st 10) false
abbrev ZD7:ShO:= .arr (.st 13) false
abbrev ZC1:Sh:= .o (.ptr (0,2,1) 0 0)
abbrev ZCT:Sh:= .o (.sl (0,0,0))
abbrev ZE5:Sh:= .o (.ptr (0,3,1) 0 0)
abbrev ZFs:ShO:= .map (.int .i64) .bool
abbrev ZD6:ShO:= .boxS (.st 14)
abbrev ZFv:Sh:= .o (.map (0,2,1))
abbrev ZD5:ShO:= .boxS (.st 2)
abbrev ZHJ:Sh:= .o (.v (.sl (.st 14)))
abbrev qo26:ShO:= .box [.o (.v .bool),.o (.full (0,2,1))]
abbrev ZHV:ShO:= .boxS (.st 18)
abbrev ZHU:ShO:= .own (.st 14) 0 (.st 4)
abbrev ZFr:ShO:= .boxS (.st 3)
abbrev ZHW:Sh:= .o (.v (.sl (.st 4)))
abbrev ZFu:Sh:= .fn 17 [] []
abbrev ZFt:Sh:= .fn 19 [] []
abbrev qs0:List Sh:=[qe3,qe0,qe8,qe0,qe0]
abbrev qp1:List ShO:=[ZHV,qo12,qo11,qo2,ZB2,ZB1,ZD8,ZD7,qo2,ZB2,ZB1,ZD8,ZD7]
abbrev qs2:List Sh:=[qe3,qe0,qe0,qe8,qe0,qe0]
abbrev qs3:List Sh:=[qe3,qe0,qe8,qe0,qe0,qe6]
abbrev qs4:List Sh:=[qe1,qe1,qe0]
abbrev qs5:List Sh:=[qe3,qe0,qe0,qe8,qe0,qe0,qe6]
abbrev qs6:List Sh:=[qe3,qe0,qe0,qe0,qe8,qe6,qe6,qe0,qe0,qe6]
abbrev qs7:List Sh:=[qe1,qe1,qe5,qe9,qe0]
abbrev qs8:List Sh:=[qe3,qe0,qe0,qe8,qe0]
abbrev qa0:ShA:= .p (.int .i64)
abbrev qa1:ShA:= .p (.sl (.int .u32))
abbrev qr2:ShR:= .p (.int .i64)
abbrev qr3:ShR:= .p (.sl (.int .u32))
abbrev qa4:ShA:= .p (.int .u32)
abbrev qa5:ShA:= .arr (.st 4)
abbrev qa6:ShA:= .fn 15 [] []
abbrev qa7:ShA:= .p (.st 2)
abbrev qr8:ShR:= .p (.int .u32)
abbrev qa9:ShA:= .p (.st 3)
abbrev ZBv:ShR:= .p .bool
abbrev ZC0:ShR:= .p (.st 2)
abbrev ZE4:ShR:= .p (.st 3)
abbrev ZHX:ShA:= .part (.int .u32)
noncomputable abbrev fd_ (f:Nat) (fn:Func) (sg:List (Nat×Zjt U)) (a:List ShA) (r:List ShR) (s:Zjo (Zj4 U a []) (Option (HT (oTy U [] r)))) (t:CT U (HT (oTy U [] r)) (HT (oTy U [] r))):FD U:=⟨f,fn,sg,a,[],r,[],[],s,s,t⟩
abbrev OK_ (D:FD U):Prop:=Zeu X0.E D.f D.sig
theorem ok_ (D:FD U) (hf:X0.prog.funcs[D.f]? =some D.fn) (hs:Zc9 X0 D.sigs:=by trivial) (h:D.lhs X0=D.rhs2:=by kernel_rfl) (ha:D.os.any (fun x=>isAr x.2)=false:=by rfl) (hw:D.w=D.s:=by rfl):OK_ D:=D.ok2 G0 hf hs ha hw h
theorem Zz9 (D:FD U) (hf:X0.prog.funcs[D.f]? =some D.fn) (hs:Zc9 X0 D.sigs:=by trivial) (h:D.lhs X0=D.rhs2:=by kernel_rfl) (hw:(fun v=>app (Zj4 U D.as []) D.w (ZlN (r:=[]) D.as v ()))=fun v=>(app (Zj4 U D.as []) D.s (ZlN (r:=[]) D.as v ())).bind fun r=>chk (Zh4 (Zdn D.as v) (D.b r)) (some r):=by kernel_rfl):OK_ D:=D.okA2 G0 hf hs hw h
theorem tr_:True:=trivial
def D0:=fd_ 10 Tryz.f10 [] [qa0,qa0] [.own (.st 0),qr2] ZzA <|
.j 9101 [0,1,21] [] [qe0,qe0,qe6] [] Zvl <|
.lo 9410111 [0,1,6,22,23] [] [qe0,qe0,qe5,qe0,qe0] [.arr (.st 0) false] 0 [6] [] [qe5] [.arr (.st 0) false] Zxu ZyE (fun _=> .nil) <|
.nil
theorem ZID:OK_ D0:=ok_ D0 Tryz.func10
noncomputable def D1:FD U:=⟨4,Tryz.f4,[D0.sg],[],[],[ZBv],[],[],Zvn,Zro,
.j 9111 [0] [] [qe6] [] Zqc <|
.nil⟩
theorem ZIl:OK_ D1:=ok_ D1 Tryz.func4 ⟨ZID,tr_⟩ (hw:=by exact ZzJ _)
def D2:=fd_ 103 Tryz.f103 [] [qa1] [qr3] Zo0 <|
.lo 9401 [0] [] [qe1] [] 0 [0] [] [qe1] [] ZpI ZwK (fun n0=> .j 9105401 [0,14] [] [qe1,qe6] [] (Zuz (ZpI n0)) <|
.nil) <|
.nil
theorem ZCe:OK_ D2:=ok_ D2 Tryz.func103
def D3:=fd_ 66 Tryz.f66 [D2.sg] [.p .bool,qa1] [ZC0] ZoT <|
.j 9111 [4] [] [qe7] [ZD5] Ztb <|
.nil
theorem ZCQ:OK_ D3:=ok_ D3 Tryz.func66 ⟨ZCe,tr_⟩
def D4:=fd_ 51 Tryz.f51 [D3.sg] [qa0] [ZC0] ZsL <|
.j 9111 [0,2,3] [] [qe0,qe7,qe9] [qo26,qo4] ZtE <|
.nil
theorem ZHf:OK_ D4:=ok_ D4 Tryz.func51 ⟨ZCQ,tr_⟩
def D5:=fd_ 63 Tryz.f63 [] [qa7] [ZBv] Zqa <|
.j 9111 [2] [] [qe6] [] Zo7 <|
.nil
theorem ZG8:OK_ D5:=ok_ D5 Tryz.func63
def D6:=fd_ 101 Tryz.f101 [D2.sg] [qa1] [qr3] Zqo <|
.lo 941011 [0,3,9,10] [] [qe1,qe5,qe0,qe0] [qo4] 0 [3] [] [qe5] [qo4] Zrm ZuA (fun n0=> .j 9111541011 [0,3,9,10] [] [qe1,qe5,qe0,qe0] [qo4] (Zrn (Zrm n0)) <|
.nil) <|
.nil
theorem ZIk:OK_ D6:=ok_ D6 Tryz.func101 ⟨ZCe,tr_⟩
def D7:=fd_ 64 Tryz.f64 [] [qa1,qa1] [qr2] Zpx <|
.lr 941011 [0,1,5] [] qs4 [] 0 [] [] [] [] Zta Zu0 (fun _=> .nil) <|
.nil
theorem ZDv:OK_ D7:=ok_ D7 Tryz.func64
def D8:=fd_ 68 Tryz.f68 [D2.sg] [qa1,qa1] [qr3] ZqK <|
.lo 9410111 [0,1,5,6,7] [] [qe1,qe1,qe5,qe0,qe0] [qo4] 0 [5] [] [qe5] [qo4] ZrA ZuR (fun n0=> .j 9114015410111 [0,1,5,6,7] [] [qe1,qe1,qe5,qe0,qe0] [qo4] (ZrB (ZrA n0)) <|
.nil) <|
.nil
theorem ZEL:OK_ D8:=ok_ D8 Tryz.func68 ⟨ZCe,tr_⟩
def D9:=fd_ 102 Tryz.f102 [D2.sg] [qa1,qa4] [qr3] Zr6 <|
.lo 941011 [0,1,5,6] [] [qe1,ZA8,qe5,qe0] [qo4] 0 [1,5] [] [ZA8,qe5] [qo4] Zsf Zt5 (fun _=> .nil) <|
.nil
theorem ZGx:OK_ D9:=ok_ D9 Tryz.func102 ⟨ZCe,tr_⟩
def D10:=fd_ 65 Tryz.f65 [D6.sg,D7.sg,D8.sg,D9.sg] [qa1,qa1] [qr3] ZsQ <|
.lo 94011 [0,1,5] [] qs4 [] 0 [0,1,5] [] qs4 [] ZqH ZuY (fun n0=> .j 91054011 [0,1,5,17] [] [qe1,qe1,qe0,qe6] [] (Zs9 (ZqH n0)) <|
.nil) <|
.lo 940111 [0,1,5] [] qs4 [] 2 [0,5] [] [qe1,qe0] [] ZoD ZuV (fun n0=> .lo 94041540111 [0,1,5] [] qs4 [] 4 [0,1,5] [] qs4 [] Zpn (ZuX (ZoD n0)) (fun _=> .nil) <|
.lo 940141540111 [0,1,5] [] qs4 [] 6 [0,1,5] [] qs4 [] Zpm (ZuW (ZoD n0)) (fun _=> .nil) <|
.j 911141540111 [0,1,5] [] qs4 [] (Zs8 (ZoD n0)) <|
.nil) <|
.lo 9401111 [0,5] [] [qe1,qe0] [] 8 [0] [] [qe1] [] ZqG ZuU (fun _=> .nil) <|
.nil
theorem ZDV:OK_ D10:=ok_ D10 Tryz.func65 ⟨ZIk,ZDv,ZEL,ZGx,tr_⟩
def D11:=fd_ 123 Tryz.f123 [] [qa1,qa0] [qr8] Zxs .nil
theorem ZHI:OK_ D11:=ok_ D11 Tryz.func123
def D12:=fd_ 104 Tryz.f104 [D11.sg,D9.sg,D7.sg,D8.sg,D2.sg] [qa1,qa1] [qr3,qr3] ZvY <|
.lo 941011 [0,1,4,5,6] [5] [qe1,qe1,qe5,qe1,qe0] [qo4] 0 [4,5] [] [qe5,qe1] [qo4] ZrD ZwY (fun n0=> .j 911541011 [0,1,4,5,6] [] [qe1,qe1,qe5,qe1,qe0] [qo4] (ZuZ (ZrD n0)) <|
.nil) <|
.nil
theorem ZHH:OK_ D12:=ok_ D12 Tryz.func104 ⟨ZHI,ZGx,ZDv,ZEL,ZCe,tr_⟩
def D13:=fd_ 70 Tryz.f70 [D4.sg,D10.sg,D12.sg,D3.sg] [qa7,qa7] [ZE4] ZwX .nil
theorem ZHG:OK_ D13:=ok_ D13 Tryz.func70 ⟨ZHf,ZDV,ZHH,ZCQ,tr_⟩
def D14:=fd_ 50 Tryz.f50 [D5.sg,D13.sg] [qa7,qa7] [ZE4,qr2] Zxj <|
.j 9101 [2,3,4,13] [] [qe7,ZC1,ZE5,qe6] [ZD5,ZD5,.box [.o (.v .bool),.o (.full (0,4,1)),.o (.v .bool),.o (.full (0,5,1))],qo4,qo4] ZuB <|
.nil
theorem ZHF:OK_ D14:=ok_ D14 Tryz.func50 ⟨ZG8,ZHG,tr_⟩
def D15:=fd_ 23 Tryz.f23 [D4.sg,D14.sg] [qa0,qa0] [ZE4,qr2] ZxE .nil
theorem ZHE:OK_ D15:=ok_ D15 Tryz.func23 ⟨ZHf,ZHF,tr_⟩
def D16:=fd_ 11 Tryz.f11 [D15.sg] [qa0,qa0] [ZE4] Zxi .nil
theorem ZHD:OK_ D16:=ok_ D16 Tryz.func11 ⟨ZHE,tr_⟩
noncomputable def D17:FD U:=⟨5,Tryz.f5,[D16.sg],[qa0],[],[ZE4],[],[],ZvX,Zpc,
.nil⟩
theorem ZHC:OK_ D17:=ok_ D17 Tryz.func5 ⟨ZHD,tr_⟩ (hw:=by funext x_;exact ZzJ _)
def D18:=fd_ 6 Tryz.f6 [] [qa0,qa0] [qr2] Zvf .nil
theorem ZHB:OK_ D18:=ok_ D18 Tryz.func6
def D19:=fd_ 12 Tryz.f12 [] [.p (.sl (.st 10))] [.own (.st 10)] ZqE <|
.j 9101 [0,4] [] [.o (.v (.sl (.st 10))),qe6] [] Zp6 <|
.nil
theorem ZDU:OK_ D19:=ok_ D19 Tryz.func12
def D20:=fd_ 13 Tryz.f13 [] [.p (.sl (.st 13))] [.own (.st 13)] ZqF <|
.j 9101 [0,4] [] [.o (.v (.sl (.st 13))),qe6] [] Zp8 <|
.nil
theorem ZDT:OK_ D20:=ok_ D20 Tryz.func13
def D21:=fd_ 80 Tryz.f80 [] [.p (.int .u64)] [qr2] ZyG <|
.j 911 [0,2] [] [qe9,qe0] [] ZwR <|
.j 9111 [0,2] [] [qe9,qe0] [] ZwQ <|
.j 91111 [0,2] [] [qe9,qe0] [] ZwP <|
.nil
theorem ZHA:OK_ D21:=ok_ D21 Tryz.func80
def D22:=fd_ 53 Tryz.f53 [D21.sg] [.p (.int .u64)] [qr2] Zvp .nil
theorem ZBV:OK_ D22:=ok_ D22 Tryz.func53 ⟨ZHA,tr_⟩
def D23:=fd_ 125 Tryz.f125 [] [qa7] [ZBv] Zum <|
.j 9111 [2] [] [qe6] [] Zp2 <|
.nil
theorem ZHz:OK_ D23:=ok_ D23 Tryz.func125
def D24:=fd_ 110 Tryz.f110 [D23.sg] [.p (.sl (.st 2))] [ZBv] Zxn <|
.lr 94101 [5,6,7] [] [.o (.v (.sl (.st 2))),qe0,qe0] [] 0 [] [] [] [] Zv4 Zyo (fun _=> .nil) <|
.nil
theorem ZHy:OK_ D24:=ok_ D24 Tryz.func110 ⟨ZHz,tr_⟩
def D25:=fd_ 57 Tryz.f57 [] [qa0] [ZBv] Zwt .nil
theorem ZHx:OK_ D25:=ok_ D25 Tryz.func57
def D26:=fd_ 29 Tryz.f29 [D25.sg] [qa0,qa0] [qr2] Zrj .nil
theorem ZCS:OK_ D26:=ok_ D26 Tryz.func29 ⟨ZHx,tr_⟩
def D27:=fd_ 139 Tryz.f139 [] [qa4] [ZBv] Zxo .nil
theorem ZHw:OK_ D27:=ok_ D27 Tryz.func139
def D28:=fd_ 127 Tryz.f127 [D27.sg] [qa4,qa4] [qr2] ZwT .nil
theorem ZHv:OK_ D28:=ok_ D28 Tryz.func127 ⟨ZHw,tr_⟩
def D29:=fd_ 112 Tryz.f112 [D26.sg,D28.sg] [qa1,qa1] [qr2] Zqe <|
.lr 941011 [0,1,6] [] qs4 [] 0 [] [] [] [] ZsA Zuj (fun _=> .nil) <|
.nil
theorem ZCR:OK_ D29:=ok_ D29 Tryz.func112 ⟨ZCS,ZHv,tr_⟩
def D30:=fd_ 134 Tryz.f134 [] [qa1] [.own (.int .u32)] ZrQ <|
.j 9101 [0,4] [] [qe1,qe6] [] Zou <|
.nil
theorem ZHu:OK_ D30:=ok_ D30 Tryz.func134
def D31:=fd_ 140 Tryz.f140 [] [qa4,qa4,qa4] [qr8,qr8] ZwH <|
.j 9101 [0,1,2,15] [] [ZA8,ZA8,ZA8,qe6] [] ZtO <|
.nil
theorem ZHt:OK_ D31:=ok_ D31 Tryz.func140
def D32:=fd_ 130 Tryz.f130 [] [qa1] [qr3] Zpv <|
.lo 9401 [0] [] [qe1] [] 0 [0] [] [qe1] [] Zqm Zwp (fun n0=> .j 9105401 [0,14] [] [qe1,qe6] [] (ZuN (Zqm n0)) <|
.nil) <|
.nil
theorem ZBq:OK_ D32:=ok_ D32 Tryz.func130
def D33:=fd_ 135 Tryz.f135 [D31.sg,D32.sg] [qa1,qa4] [qr3,qr8] Zus <|
.lo 9410111 [0,1,6,7,8] [] [qe1,ZA8,qe5,ZA8,qe0] [qo4] 0 [6,7] [] [qe5,ZA8] [qo4] Ztg Zu8 (fun _=> .nil) <|
.nil
theorem ZHs:OK_ D33:=ok_ D33 Tryz.func135 ⟨ZHt,ZBq,tr_⟩
def D34:=fd_ 79 Tryz.f79 [] [qa4] [qr2] ZwG <|
.j 911 [0,2] [] [ZA8,qe0] [] Zvg <|
.j 9111 [0,2] [] [ZA8,qe0] [] ZsD <|
.nil
theorem ZHr:OK_ D34:=ok_ D34 Tryz.func79
def D35:=fd_ 136 Tryz.f136 [D34.sg] [qa4] [qr2] ZsM .nil
theorem ZHq:OK_ D35:=ok_ D35 Tryz.func136 ⟨ZHr,tr_⟩
def D36:=fd_ 137 Tryz.f137 [] [qa1,qa0] [.own (.int .u32)] Zq0 <|
.lo 941011 [1,5,13,14,15] [] [qe0,qe5,qe1,qe0,qe0] [qo4] 0 [5] [] [qe5] [qo4] Zsy Zuh (fun _=> .nil) <|
.nil
theorem ZHp:OK_ D36:=ok_ D36 Tryz.func137
def D37:=fd_ 131 Tryz.f131 [] [qa4,qa4,qa4] [qr8,qr8] Zt3 .nil
theorem ZDS:OK_ D37:=ok_ D37 Tryz.func131
def D38:=fd_ 128 Tryz.f128 [] [qa4,qa4,qa4] [qr8,qr8] Zvq .nil
theorem ZDR:OK_ D38:=ok_ D38 Tryz.func128
noncomputable def D39:FD U:=⟨138,Tryz.f138,[D37.sg,D38.sg],[ZHX,qa1],[(0,.arr (.int .u32))],[qr8],[],[],Zw8,Zv3,
.lo 94011111 [0,1,5,7,8] [] [ZCT,qe1,qe0,qe9,qe9] [qo4] 0 [0,1,5,7] [] [ZCT,qe1,qe0,qe9] [qo4] Zs3 ZvN (fun n0=> .j 91054011111 [0,1,5,7,8,71] [] [ZCT,qe1,qe0,qe9,qe9,qe6] [qo4] (Zul (Zs3 n0)) <|
.nil) <|
.lo 941011111111 [0,1,5,7,9,10,82,83,84] [] [ZCT,qe1,qe0,qe9,ZA8,qe9,qe1,qe0,qe0] [qo4] 2 [0,1,5,7,9,10] [] [ZCT,qe1,qe0,qe9,ZA8,qe9] [qo4] ZvL Zxa (fun _=> .nil) <|
.lo 941011111111111 [0,5,7,13,130,131,132] [] [ZCT,qe0,qe9,ZA8,qe1,qe0,qe0] [qo4] 4 [0,5,7,13] [] [ZCT,qe0,qe9,ZA8] [qo4] Zuk ZvM (fun _=> .nil) <|
.nil⟩
theorem ZHo:OK_ D39:=Zz9 D39 Tryz.func138 ⟨ZDS,ZDR,tr_⟩
noncomputable def D40:FD U:=⟨130,Tryz.f130,[],[ZHX],[(0,.arr (.int .u32))],[.view 0],[],[],Zvi,Zut,
.lo 9401 [0] [] [ZCT] [qo4] 0 [0] [] [ZCT] [qo4] ZsB ZvJ (fun n0=> .j 9105401 [0,14] [] [ZCT,qe6] [qo4] (ZtY (ZsB n0)) <|
.nil) <|
.nil⟩
theorem ZHn:OK_ D40:=Zz9 D40 Tryz.func130
def D41:=fd_ 129 Tryz.f129 [] [qa1,qa0] [qr8] Zs1 .nil
theorem ZDQ:OK_ D41:=ok_ D41 Tryz.func129
noncomputable def D42:FD U:=⟨129,Tryz.f129,[],[ZHX,qa0],[(0,.arr (.int .u32))],[qr8],[],[],Zwo,ZtW,
.nil⟩
theorem ZHm:OK_ D42:=Zz9 D42 Tryz.func129
noncomputable def D43:FD U:=⟨126,Tryz.f126,[D29.sg,D30.sg,D33.sg,D32.sg,D35.sg,D36.sg,D39.sg,D40.sg,D42.sg],[qa1,qa1],[],[qr3,qr3],[],[(84,7)],Ztn,Ztn,
.lo 9410111111 [8,9,10,11,12,13] [11] [qe0,qe0,qe5,qe1,.o (.full (0,2,1)),qe0] [qo4,qo4] 1 [8,9,10,12] [] [qe0,qe0,qe5,.o (.full (0,2,1))] [qo4,qo4] Zr9 Zvt (fun _=> .nil) <|
.lo 941011111111 [9,12,14,86,87] [] [qe0,qe5,.o (.sl (0,2,1)),qe0,qe0] [qo4,qo4] 3 [12,14] [] [qe5,.o (.sl (0,2,1))] [qo4,qo4] Zr8 Zvs (fun _=> .nil) <|
.nil⟩
theorem ZHl:OK_ D43:=ok_ D43 Tryz.func126 ⟨ZCR,ZHu,ZHs,ZBq,ZHq,ZHp,ZHo,ZHn,ZHm,tr_⟩
def D44:=fd_ 111 Tryz.f111 [D43.sg] [qa1,qa1] [qr3] ZtV <|
.lo 9401 [0,1] [] [qe1,qe1] [] 0 [0] [] [qe1] [] ZpO ZuH (fun _=> .nil) <|
.nil
theorem ZHk:OK_ D44:=ok_ D44 Tryz.func111 ⟨ZHl,tr_⟩
def D45:=fd_ 81 Tryz.f81 [D24.sg,D44.sg,D29.sg] [qa9] [ZBv] ZvV <|
.j 911 [2] [] [qe6] [] Zs4 <|
.nil
theorem ZHj:OK_ D45:=ok_ D45 Tryz.func81 ⟨ZHy,ZHk,ZCR,tr_⟩
def D46:=fd_ 116 Tryz.f116 [D32.sg] [qa1,qa1] [qr3] Zur <|
.lo 941011 [1,5,17,18,19] [] [qe1,qe5,qe1,qe0,qe0] [qo4] 0 [5] [] [qe5] [qo4] ZrS Zu6 (fun n0=> .lo 9410114011541011 [1,5,6,7,8,17,18,19,24,25,26] [] [qe1,qe5,qe0,ZA8,qe9,qe1,qe0,qe0,qe1,qe0,qe0] [qo4] 2 [1,5,6,8,17,18,19] [] [qe1,qe5,qe0,qe9,qe1,qe0,qe0] [qo4] Ztf (Zu7 (ZrS n0)) (fun _=> .nil) <|
.nil) <|
.nil
theorem ZHi:OK_ D46:=ok_ D46 Tryz.func116 ⟨ZBq,tr_⟩
def D47:=fd_ 113 Tryz.f113 [] [.p .bool,qa1] [ZC0] Zs2 <|
.j 911 [4] [] [qe7] [qo26,qo4] Zvj <|
.nil
theorem ZDP:OK_ D47:=ok_ D47 Tryz.func113
def D48:=fd_ 83 Tryz.f83 [D46.sg,D47.sg] [qa7,qa7] [ZC0] ZsC .nil
theorem ZHh:OK_ D48:=ok_ D48 Tryz.func83 ⟨ZHi,ZDP,tr_⟩
def D49:=fd_ 84 Tryz.f84 [] [qa7] [ZC0] ZvK <|
.j 911 [2] [] [qe7] [ZD5] Zuu <|
.nil
theorem ZHg:OK_ D49:=ok_ D49 Tryz.func84
def D50:=fd_ 114 Tryz.f114 [D41.sg,D38.sg,D32.sg] [qa1,qa1] [qr3] ZuM <|
.lo 9410111 [0,1,5,6,20,21] [] [qe1,qe1,qe5,ZA8,qe0,qe0] [qo4] 0 [5,6] [] [qe5,ZA8] [qo4] ZtB Zvr (fun _=> .nil) <|
.nil
theorem ZHe:OK_ D50:=ok_ D50 Tryz.func114 ⟨ZDQ,ZDR,ZBq,tr_⟩
def D51:=fd_ 115 Tryz.f115 [D41.sg,D37.sg,D32.sg] [qa1,qa1] [qr3] ZsX <|
.lo 9410111 [0,1,5,6,12,13] [] [qe1,qe1,qe5,ZA8,qe0,qe0] [qo4] 0 [5] [] [qe5] [qo4] Zth Zu9 (fun _=> .nil) <|
.nil
theorem ZHd:OK_ D51:=ok_ D51 Tryz.func115 ⟨ZDQ,ZDS,ZBq,tr_⟩
def D52:=fd_ 82 Tryz.f82 [D50.sg,D47.sg,D29.sg,D51.sg] [qa7,qa7] [ZC0] ZxA .nil
theorem ZHc:OK_ D52:=ok_ D52 Tryz.func82 ⟨ZHe,ZDP,ZCR,ZHd,tr_⟩
def D53:=fd_ 54 Tryz.f54 [D45.sg,D48.sg,D49.sg,D52.sg] [qa9,qa9] [qr2] ZxB <|
.j 9101 [2,3,13] [] [qe7,ZC1,qe6] [ZFr,ZFr] ZwI <|
.nil
theorem ZHb:OK_ D53:=ok_ D53 Tryz.func54 ⟨ZHj,ZHh,ZHg,ZHc,tr_⟩
def D54:=fd_ 26 Tryz.f26 [D53.sg] [qa9,qa9] [qr2] Zw3 .nil
theorem ZCP:OK_ D54:=ok_ D54 Tryz.func26 ⟨ZHb,tr_⟩
def D55:=fd_ 25 Tryz.f25 [] [.p (.sl (.int .i64))] [qr2] Zwv <|
.lr 941011 [3,6,7,8] [] [qe0,.o (.v (.sl (.int .i64))),qe0,qe0] [] 0 [3] [] [qe0] [] Zwu Zyh (fun _=> .nil) <|
.nil
theorem ZBU:OK_ D55:=ok_ D55 Tryz.func25
def D56:=fd_ 55 Tryz.f55 [D26.sg,D55.sg] [.p (.st 1),.p (.st 1)] [ZBv] ZxF .nil
theorem ZHa:OK_ D56:=ok_ D56 Tryz.func55 ⟨ZCS,ZBU,tr_⟩
def D57:=fd_ 27 Tryz.f27 [D56.sg] [.p (.st 1),.p (.st 1)] [qr2] Zxd .nil
theorem ZDO:OK_ D57:=ok_ D57 Tryz.func27 ⟨ZHa,tr_⟩
def D58:=fd_ 15 Tryz.f15 [D54.sg,D57.sg,D55.sg] [.p (.st 4),.p (.st 4)] [qr2] Zo9 .nil
theorem ZAJ:OK_ D58:=ok_ D58 Tryz.func15 ⟨ZCP,ZDO,ZBU,tr_⟩
noncomputable def D59:FD U:=⟨71,Tryz.f71,[D58.sg],[qa5,qa0,qa0,qa6],[(0,.arr (.st 4))],[],[],[],Zp3,Zo8,
.lo 941 [0,1,2,3,8] [] qs8 [qo2] 0 [] [] [] [qo2] ZoX ZqX (fun n0=> .lo 941401541 [0,1,2,3,8,9] [] qs2 [qo2] 2 [0,1,2,3,8] [] qs8 [qo2] ZoK (ZqY (ZoX n0)) (fun n1=> .j 910541401541 [0,1,2,3,8,9,34] [] qs5 [qo2] (ZpH (ZoK n1)) <|
.nil) <|
.nil) <|
.nil⟩
theorem ZG9:OK_ D59:=Zz9 D59 Tryz.func71 ⟨ZAJ,tr_⟩
noncomputable def D60:FD U:=⟨105,Tryz.f105,[D58.sg],[qa5,qa0,qa0,qa0,qa6],[(0,.arr (.st 4))],[],[],[],Zq2,Zo5,
.lr 941 [0,2,3,4,10] [] qs8 [qo2] 0 [] [] [] [qo2] ZoV Zr0 (fun n0=> .j 910114541 [0,2,3,4,10,11,40] [] qs5 [qo2] (Zqp (ZoV n0)) <|
.j 91114541 [0,2,3,4,10,11] [] qs2 [qo2] (Zpw (ZoV n0)) <|
.nil) <|
.nil⟩
theorem ZG7:OK_ D60:=Zz9 D60 Tryz.func105 ⟨ZAJ,tr_⟩
noncomputable def D61:FD U:=⟨72,Tryz.f72,[D60.sg],[qa5,qa0,qa0,qa6],[(0,.arr (.st 4))],[],[],[],Zq3,ZqD,
.lo 9410111 [0,3,8,9,10,11] [] [qe3,qe8,qe0,qe0,qe0,qe0] [qo2] 0 [0,3,8,9,10] [] [qe3,qe8,qe0,qe0,qe0] [qo2] Zqv Zr2 (fun _=> .nil) <|
.lo 9411111 [0,3,8,9,12] [] [qe3,qe8,qe0,qe0,qe0] [qo2] 2 [] [] [] [qo2] Zqu Zr1 (fun _=> .nil) <|
.nil⟩
theorem ZG6:OK_ D61:=Zz9 D61 Tryz.func72 ⟨ZG7,tr_⟩
def D62:=fd_ 106 Tryz.f106 [D22.sg] [qa0] [.p (.int .u64)] ZtR .nil
theorem ZG5:OK_ D62:=ok_ D62 Tryz.func106 ⟨ZBV,tr_⟩
noncomputable def D63:FD U:=⟨107,Tryz.f107,[],[.box (.int .u64)],[(0,.box (.int .u64))],[.p (.int .u64)],[],[],ZsS,ZsS,
.nil⟩
theorem ZG4:OK_ D63:=ok_ D63 Tryz.func107
noncomputable def D64:FD U:=⟨73,Tryz.f73,[D62.sg,D63.sg],[qa5,qa0,qa0,qa6],[(0,.arr (.st 4))],[],[],[],Zp5,ZpQ,
.lo 94111211 [0,1,8,9,10,11] [] [qe3,qe0,qe0,qe7,qe9,qe0] [qo2,.boxS (.int .u64)] 0 [] [] [] [qo2] ZoY ZqZ (fun n0=> .j 91140154111211 [0,1,8,9,10,11,12] [] [qe3,qe0,qe0,qe7,qe9,qe0,qe0] [qo2,.boxS (.int .u64)] (ZoZ (ZoY n0)) <|
.nil) <|
.nil⟩
theorem ZG3:OK_ D64:=Zz9 D64 Tryz.func73 ⟨ZG5,ZG4,tr_⟩
noncomputable def D65:FD U:=⟨124,Tryz.f124,[D58.sg],[qa5,qa0,qa0,.box (.int .i64),qa6],[(0,.arr (.st 4)),(3,.box (.int .i64))],[qr2,qr2],[],[],Ztj,Zpj,
.nil⟩
theorem ZG2:OK_ D65:=Zz9 D65 Tryz.func124 ⟨ZAJ,tr_⟩
noncomputable def D66:FD U:=⟨109,Tryz.f109,[D65.sg],[qa5,qa0,qa0,qa0,.box (.int .i64),qa6],[(0,.arr (.st 4)),(4,.box (.int .i64))],[qr2],[],[],Ztk,Zp1,
.nil⟩
theorem ZDN:OK_ D66:=Zz9 D66 Tryz.func109 ⟨ZG2,tr_⟩
noncomputable def D67:FD U:=⟨108,Tryz.f108,[D66.sg],[qa5,qa0,.box (.int .i64),qa6],[(0,.arr (.st 4)),(2,.box (.int .i64))],[qr2],[],[],Zri,ZoJ,
.nil⟩
theorem ZG1:OK_ D67:=Zz9 D67 Tryz.func108 ⟨ZDN,tr_⟩
noncomputable def D68:FD U:=⟨74,Tryz.f74,[D67.sg,D66.sg],[qa5,qa0,qa0,qa6],[(0,.arr (.st 4))],[qr2,qr2],[],[],Zqw,Zp4,
.j 91210111111 [0,3,11,12,13,14] [] [qe3,qe8,qe7,qe0,qe0,qe0] [qo2,.boxS (.int .i64)] Zpe <|
.j 91111111 [11,13] [] [qe7,qe0] [qo2,.boxS (.int .i64)] Zpd <|
.nil⟩
theorem ZG0:OK_ D68:=Zz9 D68 Tryz.func74 ⟨ZG1,ZDN,tr_⟩
noncomputable def D69:FD U:=⟨75,Tryz.f75,[],[qa5,qa0,qa0,qa6],[(0,.arr (.st 4))],[],[],[],Zqf,ZpY,
.lo 9411 [0,8,9] [] [qe3,qe0,qe0] [qo2] 0 [] [] [] [qo2] ZpP Zq7 (fun _=> .nil) <|
.nil⟩
theorem ZGZ:OK_ D69:=Zz9 D69 Tryz.func75
noncomputable def D70:FD U:=⟨76,Tryz.f76,[D58.sg],[qa5,qa0,qa0,qa6],[(0,.arr (.st 4))],[ZBv],[],[],Zpg,Zpa,
.lr 941011 [0,1,2,3,9,10] [] qs2 [qo2] 0 [] [] [] [qo2] Zot ZpT (fun n0=> .lo 940401541011 [0,1,2,3,9,10] [] qs2 [qo2] 2 [0,1,2,3,9,10] [] qs2 [qo2] Zoy (ZpW (Zot n0)) (fun n1=> .j 910540401541011 [0,1,2,3,9,10,36] [] qs5 [qo2] (Zo1 (Zoy n1)) <|
.nil) <|
.lo 9412101111401541011 [0,1,2,3,9,10,11] [] [qe3,qe0,qe0,qe8,qe0,qe0,qe0] [qo2] 4 [0,1,2,3,9,10] [] qs2 [qo2] ZoG (ZpV (Zot n0)) (fun _=> .nil) <|
.j 9111111401541011 [0,1,2,3,9,10,104] [] qs5 [qo2] (ZoH (Zot n0)) <|
.lo 9412111111401541011 [0,1,2,3,9,10,12] [] [qe3,qe0,qe0,qe8,qe0,qe0,qe0] [qo2] 6 [0,1,2,3,9,10] [] qs2 [qo2] ZoF (ZpU (Zot n0)) (fun _=> .nil) <|
.nil) <|
.nil⟩
theorem ZGY:OK_ D70:=Zz9 D70 Tryz.func76 ⟨ZAJ,tr_⟩
noncomputable def D71:FD U:=⟨77,Tryz.f77,[D58.sg],[qa5,qa0,qa0,qa0,qa6],[(0,.arr (.st 4))],[qr2],[],[],ZpZ,ZpG,
.lo 940111 [0,1,4,11,12] [] qs0 [qo2] 0 [11] [] [qe0] [qo2] Zoz ZqN (fun n0=> .lo 9404540111 [0,1,4,11,12] [] qs0 [qo2] 2 [0,1,4,11,12] [] qs0 [qo2] ZoC (ZqP (Zoz n0)) (fun n1=> .j 9105404540111 [0,1,4,11,12,47] [] qs3 [qo2] (Zpz (ZoC n1)) <|
.nil) <|
.lo 94014540111 [0,1,4,11,12] [] qs0 [qo2] 4 [0,1,4,11,12] [] qs0 [qo2] ZoB (ZqO (Zoz n0)) (fun n1=> .j 91054014540111 [0,1,4,11,12,65] [] qs3 [qo2] (Zpy (ZoB n1)) <|
.nil) <|
.nil) <|
.nil⟩
theorem ZGX:OK_ D71:=Zz9 D71 Tryz.func77 ⟨ZAJ,tr_⟩
noncomputable def D72:FD U:=⟨78,Tryz.f78,[D58.sg],[qa5,qa0,qa0,qa0,qa6],[(0,.arr (.st 4))],[qr2,ZBv],[],[],ZqU,Zqt,
.lo 940111 [0,1,4,12,13] [] qs0 [qo2] 0 [0,1,4,12,13] [] qs0 [qo2] ZoS ZrM (fun n0=> .j 910540111 [0,1,4,12,13,47] [] qs3 [qo2] (Zqj (ZoS n0)) <|
.nil) <|
.lo 9401111 [0,1,4,12,13] [] qs0 [qo2] 2 [0,1,4,12,13] [] qs0 [qo2] ZoR ZrL (fun n0=> .j 9105401111 [0,1,4,12,13,66] [] qs3 [qo2] (Zqi (ZoR n0)) <|
.nil) <|
.lo 940111111111 [0,1,4,12,13] [] qs0 [qo2] 4 [0,1,13] [] [qe3,qe0,qe0] [qo2] ZoE ZrI (fun n0=> .lo 9404540111111111 [0,1,4,12,13] [] qs0 [qo2] 6 [0,1,4,12,13] [] qs0 [qo2] ZoQ (ZrK (ZoE n0)) (fun n1=> .j 9105404540111111111 [0,1,4,12,13,120] [] qs3 [qo2] (Zqh (ZoQ n1)) <|
.nil) <|
.lo 94014540111111111 [0,1,4,12,13] [] qs0 [qo2] 8 [0,1,4,12,13] [] qs0 [qo2] ZoP (ZrJ (ZoE n0)) (fun n1=> .j 91054014540111111111 [0,1,4,12,13,139] [] qs3 [qo2] (Zqg (ZoP n1)) <|
.nil) <|
.nil) <|
.nil⟩
theorem ZGW:OK_ D72:=Zz9 D72 Tryz.func78 ⟨ZAJ,tr_⟩
noncomputable def ZHN (n_:Nat):FD U:=⟨52,Tryz.f52,[],[.arr (.st 4),.p (.int .i64),.p (.int .i64),.p (.int .i64),.fn 15 [] []],[(0,.arr (.st 4))],[],[],[],Zon n_,Zon n_,
.nil⟩
noncomputable def D73c (n_:Nat):FD U:=⟨52,Tryz.f52,[D59.sg,D61.sg,D64.sg,D68.sg,D69.sg,D70.sg,D58.sg,D71.sg,D72.sg,(ZHN n_).sg],[.arr (.st 4),.p (.int .i64),.p (.int .i64),.p (.int .i64),.fn 15 [] []],[(0,.arr (.st 4))],[],[],[],ZqT (Zon n_),Zon (n_+1),
.lz 9411 [0,1,2,3,4,10,11] [] [qe3,qe0,qe0,qe0,qe8,qe6,qe6] [qo2] (Zox (Zon n_)) (fun n0=> .j 9111145411 [0,1,2,3,4,10,11,12] [] [qe3,qe0,qe0,qe0,qe8,qe6,qe6,qe0] [qo2] ((ZpF (Zon n_)) ((Zox (Zon n_)) n0)) <|
.j 911111145411 [0,1,2,3,4,10,11,12,13,14] [] [qe3,qe0,qe0,qe0,qe8,qe6,qe6,qe0,qe0,qe0] [qo2] ((ZpE (Zon n_)) ((Zox (Zon n_)) n0)) <|
.j 91011111145411 [0,1,2,3,4,10,11,12,13,75] [] qs6 [qo2] ((Zo6 (Zon n_)) ((Zox (Zon n_)) n0)) <|
.j 9111111145411 [0,1,2,3,4,10,11,12,13] [] [qe3,qe0,qe0,qe0,qe8,qe6,qe6,qe0,qe0] [qo2] ((ZpD (Zon n_)) ((Zox (Zon n_)) n0)) <|
.j 910111111145411 [0,1,2,3,4,10,11,12,13,97] [] qs6 [qo2] ((ZpC (Zon n_)) ((Zox (Zon n_)) n0)) <|
.nil) <|
.nil⟩
theorem ZEM (n_:Nat):Zeu X0.E 52 (ZHN n_).sig:=by
 induction n_ with
 |zero=>
  refine ZkI.ok (S:=(ZHN 0).FS) uok fun v r h=> ?_
  have h2:(none:Option _)=some r:=h;cases h2
 |succ n_ ih=>exact(D73c n_).okA G0 Tryz.func52 ⟨ZG9,ZG6,ZG3,ZG0,ZGZ,ZGY,ZAJ,ZGX,ZGW,ih,trivial⟩ (by kernel_rfl) (by kernel_rfl)
noncomputable abbrev D73:FD U:=ZHN big
theorem ZGV:Zeu X0.E 52 D73.sig:=ZEM big
noncomputable def D74:FD U:=⟨24,Tryz.f24,[D22.sg,D73.sg],[qa5,qa6],[(0,.arr (.st 4))],[],[],[],Zsu,Zqx,
.nil⟩
theorem ZGU:OK_ D74:=Zz9 D74 Tryz.func24 ⟨ZBV,ZGV,tr_⟩
noncomputable def D75:FD U:=⟨14,Tryz.f14,[D74.sg],[qa5,qa0,qa6],[(0,.arr (.st 4))],[.view 0],[],[],Zwj,ZtT,
.nil⟩
theorem ZGT:OK_ D75:=Zz9 D75 Tryz.func14 ⟨ZGU,tr_⟩
def D76:=fd_ 17 Tryz.f17 [D54.sg,D26.sg,D55.sg] [.p (.st 5),.p (.st 5)] [qr2] ZxC .nil
theorem ZGS:OK_ D76:=ok_ D76 Tryz.func17 ⟨ZCP,ZCS,ZBU,tr_⟩
noncomputable def D77:FD U:=⟨85,Tryz.f85,[D76.sg],[.arr (.st 5),qa0,qa0,.fn 17 [] []],[(0,.arr (.st 5))],[],[],[],Ztl,ZsV,
.lo 941 [0,1,2,3,8] [] [qe3,qe0,qe0,ZFu,qe0] [ZB2] 0 [] [] [] [ZB2] Zpu ZsE (fun n0=> .lo 941401541 [0,1,2,3,8,9] [] [qe3,qe0,qe0,ZFu,qe0,qe0] [ZB2] 2 [0,1,2,3,8] [] [qe3,qe0,qe0,ZFu,qe0] [ZB2] Zpt (ZsF (Zpu n0)) (fun n1=> .j 910541401541 [0,1,2,3,8,9,34] [] [qe3,qe0,qe0,ZFu,qe0,qe0,qe6] [ZB2] (ZqA (Zpt n1)) <|
.nil) <|
.nil) <|
.nil⟩
theorem ZGR:OK_ D77:=Zz9 D77 Tryz.func85 ⟨ZGS,tr_⟩
noncomputable def D78:FD U:=⟨56,Tryz.f56,[D77.sg],[.arr (.st 5),qa0,qa0,qa0,.fn 17 [] []],[(0,.arr (.st 5))],[],[],[],ZuL,Zud,
.lz 9411 [0,1,2,3,4,10,11] [] [qe3,qe0,qe0,qe0,ZFu,qe6,qe6] [ZB2] ZrG (fun _=> .nil) <|
.nil⟩
theorem ZGQ:OK_ D78:=Zz9 D78 Tryz.func56 ⟨ZGR,tr_⟩
noncomputable def D79:FD U:=⟨28,Tryz.f28,[D22.sg,D78.sg],[.arr (.st 5),.fn 17 [] []],[(0,.arr (.st 5))],[],[],[],ZtN,Zq8,
.nil⟩
theorem ZGP:OK_ D79:=Zz9 D79 Tryz.func28 ⟨ZBV,ZGQ,tr_⟩
noncomputable def D80:FD U:=⟨16,Tryz.f16,[D79.sg],[.arr (.st 5),qa0,.fn 17 [] []],[(0,.arr (.st 5))],[.view 0],[],[],ZvI,ZrR,
.nil⟩
theorem ZGO:OK_ D80:=Zz9 D80 Tryz.func16 ⟨ZGP,tr_⟩
def D81:=fd_ 19 Tryz.f19 [D54.sg,D57.sg,D55.sg] [.p (.st 6),.p (.st 6)] [qr2] ZxM .nil
theorem ZGN:OK_ D81:=ok_ D81 Tryz.func19 ⟨ZCP,ZDO,ZBU,tr_⟩
noncomputable def D82:FD U:=⟨93,Tryz.f93,[D81.sg],[.arr (.st 6),qa0,qa0,.fn 19 [] []],[(0,.arr (.st 6))],[],[],[],Zse,ZrZ,
.lo 941 [0,1,2,3,8] [] [qe3,qe0,qe0,ZFt,qe0] [ZB1] 0 [] [] [] [ZB1] Zo3 ZrN (fun n0=> .lo 941401541 [0,1,2,3,8,9] [] [qe3,qe0,qe0,ZFt,qe0,qe0] [ZB1] 2 [0,1,2,3,8] [] [qe3,qe0,qe0,ZFt,qe0] [ZB1] Zo2 (ZrO (Zo3 n0)) (fun n1=> .j 910541401541 [0,1,2,3,8,9,34] [] [qe3,qe0,qe0,ZFt,qe0,qe0,qe6] [ZB1] (ZpX (Zo2 n1)) <|
.nil) <|
.nil) <|
.nil⟩
theorem ZGM:OK_ D82:=Zz9 D82 Tryz.func93 ⟨ZGN,tr_⟩
noncomputable def D83:FD U:=⟨58,Tryz.f58,[D82.sg],[.arr (.st 6),qa0,qa0,qa0,.fn 19 [] []],[(0,.arr (.st 6))],[],[],[],Ztq,Zs6,
.lz 9411 [0,1,2,3,4,10,11] [] [qe3,qe0,qe0,qe0,ZFt,qe6,qe6] [ZB1] ZqM (fun _=> .nil) <|
.nil⟩
theorem ZGL:OK_ D83:=Zz9 D83 Tryz.func58 ⟨ZGM,tr_⟩
noncomputable def D84:FD U:=⟨30,Tryz.f30,[D22.sg,D83.sg],[.arr (.st 6),.fn 19 [] []],[(0,.arr (.st 6))],[],[],[],ZrP,ZpN,
.nil⟩
theorem ZGK:OK_ D84:=Zz9 D84 Tryz.func30 ⟨ZBV,ZGL,tr_⟩
noncomputable def D85:FD U:=⟨18,Tryz.f18,[D84.sg],[.arr (.st 6),qa0,.fn 19 [] []],[(0,.arr (.st 6))],[.view 0],[],[],ZtU,Zql,
.nil⟩
theorem ZGJ:OK_ D85:=Zz9 D85 Tryz.func18 ⟨ZGK,tr_⟩
def D86:=fd_ 59 Tryz.f59 [] [.p (.sl (.st 4))] [.own (.st 4)] Zrz <|
.j 9101 [0,4] [] [ZHW,qe6] [] Zpf <|
.nil
theorem ZGI:OK_ D86:=ok_ D86 Tryz.func59
def D87:=fd_ 33 Tryz.f33 [] [qa9] [ZE4] ZyF .nil
theorem ZCO:OK_ D87:=ok_ D87 Tryz.func33
def D88:=fd_ 32 Tryz.f32 [D87.sg] [.p (.st 4)] [.p (.st 4)] ZxQ .nil
theorem ZGH:OK_ D88:=ok_ D88 Tryz.func32 ⟨ZCO,tr_⟩
def D89:=fd_ 31 Tryz.f31 [D86.sg,D88.sg] [.p (.sl (.st 4)),.fn 32 [] []] [.own (.st 4)] Zvh <|
.lo 941011 [1,5,10,11,12] [] [.fn 32 [] [],qe5,qe5,qe0,qe0] [qo2] 0 [5] [] [qe5] [qo2] ZtS Zxk (fun _=> .nil) <|
.nil
theorem ZGG:OK_ D89:=ok_ D89 Tryz.func31 ⟨ZGI,ZGH,tr_⟩
def D90:=fd_ 60 Tryz.f60 [] [.p (.sl (.st 5))] [.own (.st 5)] Zsd <|
.j 9101 [0,4] [] [.o (.v (.sl (.st 5))),qe6] [] Zp7 <|
.nil
theorem ZGF:OK_ D90:=ok_ D90 Tryz.func60
def D91:=fd_ 36 Tryz.f36 [] [.p (.sl (.int .i64))] [.own (.int .i64)] ZvZ <|
.j 9101 [0,4] [] [.o (.v (.sl (.int .i64))),qe6] [] Ztd <|
.nil
theorem ZDM:OK_ D91:=ok_ D91 Tryz.func36
def D92:=fd_ 35 Tryz.f35 [D91.sg,D87.sg] [.p (.st 5)] [.p (.st 5)] Zy4 .nil
theorem ZGE:OK_ D92:=ok_ D92 Tryz.func35 ⟨ZDM,ZCO,tr_⟩
def D93:=fd_ 34 Tryz.f34 [D90.sg,D92.sg] [.p (.sl (.st 5)),.fn 35 [] []] [.own (.st 5)] ZsW <|
.lo 941011 [1,5,10,11,12] [] [.fn 35 [] [],qe5,qe5,qe0,qe0] [ZB2] 0 [5] [] [qe5] [ZB2] Zu3 Zw0 (fun _=> .nil) <|
.nil
theorem ZGD:OK_ D93:=ok_ D93 Tryz.func34 ⟨ZGF,ZGE,tr_⟩
def D94:=fd_ 61 Tryz.f61 [] [.p (.sl (.st 6))] [.own (.st 6)] Zqk <|
.j 9101 [0,4] [] [.o (.v (.sl (.st 6))),qe6] [] Zo4 <|
.nil
theorem ZGC:OK_ D94:=ok_ D94 Tryz.func61
def D95:=fd_ 38 Tryz.f38 [D87.sg] [.p (.st 6)] [.p (.st 6)] Zy3 .nil
theorem ZGB:OK_ D95:=ok_ D95 Tryz.func38 ⟨ZCO,tr_⟩
def D96:=fd_ 37 Tryz.f37 [D94.sg,D95.sg] [.p (.sl (.st 6)),.fn 38 [] []] [.own (.st 6)] Zq9 <|
.lo 941011 [1,5,10,11,12] [] [.fn 38 [] [],qe5,qe5,qe0,qe0] [ZB1] 0 [5] [] [qe5] [ZB1] Ztm ZvB (fun _=> .nil) <|
.nil
theorem ZGA:OK_ D96:=ok_ D96 Tryz.func37 ⟨ZGC,ZGB,tr_⟩
def D97:=fd_ 62 Tryz.f62 [] [.p (.sl (.st 7))] [.own (.st 7)] Zvc <|
.j 9101 [0,4] [] [.o (.v (.sl (.st 7))),qe6] [] Zqy <|
.nil
theorem ZGz:OK_ D97:=ok_ D97 Tryz.func62
def D98:=fd_ 41 Tryz.f41 [D97.sg] [.p (.st 8)] [.p (.st 8)] Zya .nil
theorem ZDL:OK_ D98:=ok_ D98 Tryz.func41 ⟨ZGz,tr_⟩
def D99:=fd_ 40 Tryz.f40 [D98.sg,D91.sg] [.p (.st 10)] [.p (.st 10)] Zy2 .nil
theorem ZGy:OK_ D99:=ok_ D99 Tryz.func40 ⟨ZDL,ZDM,tr_⟩
def ZIC:=fd_ 39 Tryz.f39 [D19.sg,D99.sg] [.p (.sl (.st 10)),.fn 40 [] []] [.own (.st 10)] Zup <|
.lo 941011 [1,5,10,11,12] [] [.fn 40 [] [],qe5,qe5,qe0,qe0] [ZD8] 0 [5] [] [qe5] [ZD8] Zu2 ZwZ (fun _=> .nil) <|
.nil
theorem ZE3:OK_ ZIC:=ok_ ZIC Tryz.func39 ⟨ZDU,ZGy,tr_⟩
def ZIB:=fd_ 44 Tryz.f44 [] [.p (.sl (.st 11))] [.own (.st 11)] Zt1 <|
.j 9101 [0,4] [] [.o (.v (.sl (.st 11))),qe6] [] ZpR <|
.nil
theorem ZE2:OK_ ZIB:=ok_ ZIB Tryz.func44
def ZIA:=fd_ 45 Tryz.f45 [] [.p (.sl (.st 1))] [.own (.st 1)] ZvA <|
.j 9101 [0,4] [] [.o (.v (.sl (.st 1))),qe6] [] ZqV <|
.nil
theorem ZE1:OK_ ZIA:=ok_ ZIA Tryz.func45
def ZIz:=fd_ 43 Tryz.f43 [D98.sg,ZIB.sg,ZIA.sg] [.p (.st 13)] [.p (.st 13)] Zy1 .nil
theorem ZE0:OK_ ZIz:=ok_ ZIz Tryz.func43 ⟨ZDL,ZE2,ZE1,tr_⟩
def ZIy:=fd_ 42 Tryz.f42 [D20.sg,ZIz.sg] [.p (.sl (.st 13)),.fn 43 [] []] [.own (.st 13)] Zuq <|
.lo 941011 [1,5,10,11,12] [] [.fn 43 [] [],qe5,qe5,qe0,qe0] [ZD7] 0 [5] [] [qe5] [ZD7] Zu5 Zw2 (fun _=> .nil) <|
.nil
theorem ZEZ:OK_ ZIy:=ok_ ZIy Tryz.func42 ⟨ZDT,ZE0,tr_⟩
def ZIx:=fd_ 20 Tryz.f20 [D89.sg,D93.sg,D96.sg,ZIC.sg,ZIy.sg] [.p (.st 14)] [.p (.st 14)] Zyu .nil
theorem ZEY:OK_ ZIx:=ok_ ZIx Tryz.func20 ⟨ZGG,ZGD,ZGA,ZE3,ZEZ,tr_⟩
def ZIw:=fd_ 7 Tryz.f7 [D19.sg,D20.sg,D75.sg,D80.sg,D85.sg,ZIx.sg] [.p (.st 18),.p (.sl (.st 14))] [.p (.st 14),qr2] Zxz <|
.j 9101 [1,2,4,16] [] [ZHJ,qe7,ZC1,qe6] [ZHV,.box [.o (.full (0,3,1)),.o (.full (0,4,1)),.o (.full (0,5,1)),.o (.full (0,6,1)),.o (.full (0,7,1))],qo2,ZB2,ZB1,ZD8,ZD7] ZwB <|
.lo 9410111 [2,4,6,18,19,20] [] [qe7,ZC1,ZE5,ZHJ,qe0,qe0] qp1 0 [2,4,6] [] [qe7,ZC1,ZE5] qp1 Zt2 Zxv (fun n0=> .j 911140115410111 [2,4,6,8,18,19,20] [] [qe7,ZC1,ZE5,.o (.ptr (0,4,1) 0 0),ZHJ,qe0,qe0] [ZHV,.box [.o (.full (0,5,1)),.o (.full (0,6,1)),.o (.full (0,7,1)),.o (.full (0,8,1)),.o (.full (0,9,1))],.box [.o (.full (0,10,1)),.o (.full (0,11,1)),.o (.full (0,12,1)),.o (.full (0,13,1)),.o (.full (0,14,1))],ZD6,qo2,ZB2,ZB1,ZD8,ZD7,qo2,ZB2,ZB1,ZD8,ZD7] (ZwA (Zt2 n0)) <|
.j 91115410111 [2,4,6,18,19,20] [] [qe7,ZC1,ZE5,ZHJ,qe0,qe0] qp1 (Zwz (Zt2 n0)) <|
.nil) <|
.nil
theorem ZEX:OK_ ZIw:=ok_ ZIw Tryz.func7 ⟨ZDU,ZDT,ZGT,ZGO,ZGJ,ZEY,tr_⟩
def ZIv:=fd_ 46 Tryz.f46 [D5.sg,D7.sg,D10.sg] [qa9] [ZBv] Zr7 <|
.j 9101 [1,24] [] [qe7,qe6] [ZFr] Zp9 <|
.nil
theorem ZEW:OK_ ZIv:=ok_ ZIv Tryz.func46 ⟨ZG8,ZDv,ZDV,tr_⟩
def ZIu:=fd_ 69 Tryz.f69 [D2.sg] [qa1,qa1] [qr3] Zun <|
.lo 941011 [0,1,5,6] [] [qe1,qe1,qe5,qe0] [qo4] 0 [5] [] [qe5] [qo4] ZrC ZuS (fun n0=> .lo 94101401541011 [0,1,5,6,7,8] [] [qe1,qe1,qe5,qe0,qe9,qe0] [qo4] 2 [0,1,5,6,7] [] [qe1,qe1,qe5,qe0,qe9] [qo4] Zs7 (ZuT (ZrC n0)) (fun _=> .nil) <|
.nil) <|
.nil
theorem ZEV:OK_ ZIu:=ok_ ZIu Tryz.func69 ⟨ZCe,tr_⟩
def ZIt:=fd_ 48 Tryz.f48 [ZIu.sg,D3.sg] [qa7,qa7] [ZC0] Zqb .nil
theorem ZEU:OK_ ZIt:=ok_ ZIt Tryz.func48 ⟨ZEV,ZCQ,tr_⟩
def ZIs:=fd_ 49 Tryz.f49 [D3.sg] [qa7] [ZC0] Ztp .nil
theorem ZET:OK_ ZIs:=ok_ ZIs Tryz.func49 ⟨ZCQ,tr_⟩
def ZIr:=fd_ 67 Tryz.f67 [] [qa1,qa1] [.own (.int .u32)] ZsR <|
.lo 9410111 [0,1,5,6,7] [] qs7 [qo4] 0 [5,6] [] [qe5,qe9] [qo4] ZpS Zu1 (fun n0=> .j 9105410111 [0,1,5,6,7,17] [] [qe1,qe1,qe5,qe9,qe0,qe6] [qo4] (ZqI (ZpS n0)) <|
.j 914015410111 [0,1,5,6,7] [] qs7 [qo4] (ZrF (ZpS n0)) <|
.j 9114015410111 [0,1,5,6,7] [] qs7 [qo4] (ZrE (ZpS n0)) <|
.nil) <|
.nil
theorem ZES:OK_ ZIr:=ok_ ZIr Tryz.func67
def ZIq:=fd_ 47 Tryz.f47 [ZIr.sg,D3.sg,D7.sg,D8.sg] [qa7,qa7] [ZC0] ZtQ .nil
theorem ZER:OK_ ZIq:=ok_ ZIq Tryz.func47 ⟨ZES,ZCQ,ZDv,ZEL,tr_⟩
def ZIp:=fd_ 21 Tryz.f21 [ZIv.sg,ZIt.sg,ZIs.sg,ZIq.sg] [qa9,qa9] [qr2] Zuo <|
.j 9101 [2,3,13] [] [qe7,ZC1,qe6] [ZFr,ZFr] Ztc <|
.nil
theorem ZEQ:OK_ ZIp:=ok_ ZIp Tryz.func21 ⟨ZEW,ZEU,ZET,ZER,tr_⟩
def ZIo:=fd_ 8 Tryz.f8 [ZIp.sg] [qa9,qa9] [ZBv] Zrb .nil
theorem ZEP:OK_ ZIo:=ok_ ZIo Tryz.func8 ⟨ZEQ,tr_⟩
def ZIn:=fd_ 22 Tryz.f22 [] [qa7,qa7] [ZBv] Zrl <|
.j 9101 [2,3,20] [] [qe7,ZC1,qe6] [ZD5,ZD5] ZrU <|
.lr 941011 [3,22,23,24] [] [qe7,qe1,qe0,qe0] [ZD5] 0 [] [] [] [] ZrT ZtC (fun _=> .nil) <|
.nil
theorem ZEO:OK_ ZIn:=ok_ ZIn Tryz.func22
def ZIm:=fd_ 9 Tryz.f9 [ZIn.sg] [qa9,qa9] [ZBv] Zpk <|
.j 911 [4] [] [qe6] [] ZsK <|
.nil
theorem ZEN:OK_ ZIm:=ok_ ZIm Tryz.func9 ⟨ZEO,tr_⟩
noncomputable def D117:FD U:=⟨3,Tryz.f3,[D1.sg,D17.sg,D18.sg,ZIw.sg,ZIo.sg,ZIm.sg],[.p (.sl (.int .u8)),.p (.sl (.int .u8)),qa0],[],[ZBv],[1000081],[],Zsc,Zsc,
.j 9101 [0,1,2,26] [] [ZBw,ZBw,qe0,qe6] [] Zps <|
.lo 9410111 [0,1,2,7,32,33,34] [] [ZBw,ZBw,qe0,qe5,ZBw,qe0,qe0] [ZHU] 0 [0,2,7] [] [ZBw,qe0,qe5] [ZHU] Zpq Zs0 (fun n0=> .j 911140115410111 [0,1,2,7,8,9,10,32,33,34] [] [ZBw,ZBw,qe0,qe5,qe0,.o (.v (.int .u8)),qe0,ZBw,qe0,qe0] [ZHU] (Zqd (Zpq n0)) <|
.nil) <|
.j 910111111 [0,12,95] [] [ZBw,qe7,qe6] [ZD6] Zrc <|
.lr 941011111111 [0,12,14,98,99,100] [] [ZBw,qe7,ZFv,ZHW,qe0,qe0] [ZD6,ZFs] 2 [0,12,14] [] [ZBw,qe7,ZFv] [ZD6,ZFs] Zpp ZsZ (fun n0=> .j 91014011541011111111 [0,12,14,16,98,99,100,160] [] [ZBw,qe7,ZFv,ZE5,ZHW,qe0,qe0,qe6] [ZD6,ZFs,.boxS (.st 4)] (ZoN (Zpp n0)) <|
.nil) <|
.lr 9410111111111 [12,14,166,167,168] [] [qe7,ZFv,ZBw,qe0,qe0] [ZD6,ZFs] 4 [] [] [] [] Zpo Zvo (fun n0=> .j 91140115410111111111 [12,14,166,167,168,199] [] [qe7,ZFv,ZBw,qe0,qe0,qe6] [ZD6,ZFs] (Zpr (Zpo n0)) <|
.nil) <|
.nil⟩
theorem D117_ok:OK_ D117:=ok_ D117 Tryz.func3 ⟨ZIl,ZHC,ZHB,ZEX,ZEP,ZEN,tr_⟩
end
end Go.Proofs

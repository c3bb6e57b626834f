/- Printed by wip/tools/tgen.py: walks. -/
import Derived.Test.YtdmabekeafhflaaGreatDoorUfU
import Derived.Test.YtdmabekeafhflaaGreatDoorUfX
import Derived.Test.YtdmabekeafhflaaGreatDoorUfWX
set_option linter.unusedVariables false
set_option linter.unusedSimpArgs false
set_option linter.unusedSectionVars false
namespace Go.Proofs
open Go Eng
set_option maxRecDepth 100000
noncomputable section
abbrev qe0:Sh:= .o (.v (.int .i64))
abbrev qo1:ShO:= .arr (.int .u32) false
abbrev qe2:Sh:= .o (.v (.sl (.int .u32)))
abbrev qe3:Sh:= .o (.ptr (0,1,1) 0 0)
abbrev qo4:ShO:= .box [.o (.v .bool),.o (.full (0,4,1)),.o (.v .bool),.o (.full (0,5,1))]
abbrev qo5:ShO:= .box [.o (.v (.int .i64)),.o (.v .str),.o (.full (0,4,1))]
abbrev qe6:Sh:= .o (.v .bool)
abbrev qe7:Sh:= .o (.ptr (0,2,1) 0 0)
abbrev qe8:Sh:= .o (.full (0,1,1))
abbrev qo9:ShO:= .box [.o (.v .bool),.o (.full (0,2,1)),.o (.v .bool),.o (.full (0,3,1))]
abbrev ZAR:Sh:= .o (.ptr (0,3,1) 0 0)
abbrev ZJO:ShO:= .box [.o (.v .bool),.o (.full (0,5,1)),.o (.v .bool),.o (.full (0,6,1))]
abbrev ZBt:ShO:= .boxS (.st 2)
abbrev ZCV:Sh:= .o (.v (.sl (.int .i64)))
abbrev ZEx:Sh:= .o (.v (.sl (.sl (.st 4))))
abbrev ZCD:Sh:= .o (.v (.int .u32))
abbrev ZCC:Sh:= .o (.v (.int .u64))
abbrev ZCo:Sh:= .o (.v .str)
abbrev ZGg:ShO:= .arr (.st 1) false
abbrev ZL8:ShO:= .box [.o (.v (.int .i64)),.o (.v .str),.o (.full (0,3,1))]
abbrev ZCU:ShO:= .boxS (.st 4)
abbrev ZJN:ShO:= .map (.st 7) (.st 4)
abbrev ZKf:Sh:= .o (.rp (.sl (.sl (.st 4))) (0,2,1))
abbrev ZGf:ShO:= .arr (.st 10) false
abbrev ZGh:Sh:= .o (.sl (0,0,0))
abbrev ZJM:ShO:= .arr (.int .i64) false
abbrev ZHd:Sh:= .o (.v (.sl (.st 2)))
abbrev qo27:ShO:= .box [.o (.v .bool),.o (.full (0,6,1)),.o (.v .bool),.o (.full (0,7,1))]
abbrev ZL9:Sh:= .o (.rp (.sl (.sl (.st 4))) (0,3,0))
abbrev ZIm:Sh:= .o (.full (0,2,1))
abbrev ZIl:Sh:= .o (.full (0,3,1))
abbrev ZJQ:Sh:= .o (.v (.sl (.st 0)))
abbrev ZJP:Sh:= .o (.v (.sl (.st 1)))
abbrev ZIk:Sh:= .o (.v (.sl .str))
abbrev qo34:ShO:= .box [.o (.v (.int .i64)),.o (.v .str),.o (.full (0,5,1))]
abbrev ZKe:Sh:= .o (.ptr (0,4,1) 0 0)
abbrev ZKa:ShO:= .own (.st 1) 1 (.st 0)
abbrev ZKd:Sh:= .o (.full (0,0,0))
abbrev ZKc:Sh:= .o (.full (0,4,1))
abbrev ZL7:ShO:= .arr (.sl (.st 4)) false
abbrev ZIj:ShO:= .boxS (.st 3)
abbrev qo41:ShO:= .box [.o (.v .bool),.o (.full (0,2,1))]
abbrev qo42:ShO:= .box [.o (.v .str),.o (.full (0,5,1))]
abbrev ZL6:ShO:= .arr (.st 0) false
abbrev ZMy:Sh:= .o (.ptr (0,5,1) 0 0)
abbrev ZKb:Sh:= .fn 44 [] []
abbrev qp0:List ShO:=[ZBt,ZBt,qo5,ZGg]
abbrev qs1:List Sh:=[qe2,qe2,qe0]
abbrev qp2:List ShO:=[ZJN,qo4,.boxS (.st 7),ZCU,qo1,qo1]
abbrev qp3:List ShO:=[qo9,qo1,qo1]
abbrev qp4:List ShO:=[qo4,ZJN,ZJM,qo1,qo1]
abbrev qs5:List Sh:=[ZCo,qe6]
abbrev qa0:ShA:= .p (.sl (.int .u32))
abbrev qa1:ShA:= .p (.int .i64)
abbrev qr2:ShR:= .p (.int .i64)
abbrev qr3:ShR:= .p .bool
abbrev qr4:ShR:= .p (.sl (.int .u32))
abbrev qr5:ShR:= .p (.st 4)
abbrev qa6:ShA:= .p (.st 4)
abbrev qa7:ShA:= .p .str
abbrev qa8:ShA:= .p (.int .u32)
abbrev qa9:ShA:= .p (.sl (.int .i64))
abbrev ZCW:ShA:= .p (.st 3)
abbrev ZFo:ShR:= .p (.int .u32)
abbrev ZFn:ShR:= .p (.st 3)
abbrev ZIo:ShA:= .p (.int .u64)
abbrev ZIn:ShA:= .p (.sl .str)
abbrev ZEw:ShR:= .p .str
abbrev ZGB:ShA:= .p (.st 2)
abbrev ZJ9:ShR:= .p (.int .u64)
abbrev ZMb:ShA:= .p (.sl (.st 2))
abbrev ZJR:ShA:= .p (.st 1)
abbrev ZMa:ShA:= .arr (.st 10)
abbrev ZMz:ShA:= .part (.int .u32)
noncomputable abbrev fd_ (f:Nat) (fn:Func) (sg:List (Nat×ZjE U)) (a:List ShA) (r:List ShR) (s:ZjA (Zke U a []) (Option (HT (oTy U [] r)))) (t:CT U (HT (oTy U [] r)) (HT (oTy U [] r))):FD U:=⟨f,fn,sg,a,[],r,[],[],s,s,t⟩
abbrev OK_ (D:FD U):Prop:=Zez X0.E D.f D.sig
theorem ok_ (D:FD U) (hf:X0.prog.funcs[D.f]? =some D.fn) (hs:Zdd X0 D.sigs:=by trivial) (h:D.lhs X0=D.rhs2:=by kernel_rfl) (ha:D.os.any (fun x=>isAr x.2)=false:=by rfl) (hw:D.w=D.s:=by rfl):OK_ D:=D.ok2 G0 hf hs ha hw h
theorem ZIs (D:FD U) (hf:X0.prog.funcs[D.f]? =some D.fn) (hs:Zdd X0 D.sigs:=by trivial) (h:D.lhs X0=D.rhs2:=by kernel_rfl) (hw:(fun v=>app (Zke U D.as []) D.w (Zl8 (r:=[]) D.as v ()))=fun v=>(app (Zke U D.as []) D.s (Zl8 (r:=[]) D.as v ())).bind fun r=>chk (Zid (Zdr D.as v) (D.b r)) (some r):=by kernel_rfl):OK_ D:=D.okA2 G0 hf hs hw h
theorem tr_:True:=trivial
def D0:=fd_ 6 Tryz.f6 [] [qa9] [qr3] Zvr .nil
theorem ZNE:OK_ D0:=ok_ D0 Tryz.func6
def D1:=fd_ 167 Tryz.f167 [] [qa7] [ZJ9] Zo0 .nil
theorem ZM1:OK_ D1:=ok_ D1 Tryz.func167
def D2:=fd_ 122 Tryz.f122 [D1.sg] [qa7] [qr3] ZpK <|
.lr 9401 [0] [] [ZCo] [] 0 [] [] [] [] ZoV Zsv (fun n0=> .j 91012101415401 [0,24] [] qs5 [] (ZpT (ZoV n0)) <|
.j 91121012101415401 [0,39] [] qs5 [] (ZpS (ZoV n0)) <|
.lo 94121121012101415401 [0] [] [ZCo] [] 2 [0] [] [ZCo] [] Zpq (Zsw (ZoV n0)) (fun n1=> .j 91054121121012101415401 [0,62] [] qs5 [] (ZqJ (Zpq n1)) <|
.nil) <|
.j 9112101415401 [0] [] [ZCo] [] (ZpR (ZoV n0)) <|
.j 910214111111415401 [0,94] [] qs5 [] (Zpr (ZoV n0)) <|
.j 91021314111111415401 [0,125] [] qs5 [] (Zo5 (ZoV n0)) <|
.j 9102131314111111415401 [0,166] [] qs5 [] (ZoX (ZoV n0)) <|
.nil) <|
.nil
theorem ZM0:OK_ D2:=ok_ D2 Tryz.func122 ⟨ZM1,tr_⟩
def D3:=fd_ 91 Tryz.f91 [D2.sg] [qa7] [qr3] ZzL .nil
theorem ZMZ:OK_ D3:=ok_ D3 Tryz.func91 ⟨ZM0,tr_⟩
def D4:=fd_ 50 Tryz.f50 [D3.sg] [qa7] [qr3] Zw4 <|
.j 911 [2] [] [qe6] [] Zw8 <|
.nil
theorem ZI8:OK_ D4:=ok_ D4 Tryz.func50 ⟨ZMZ,tr_⟩
def D5:=fd_ 33 Tryz.f33 [] [ZGB] [qr2] ZuT .nil
theorem ZI7:OK_ D5:=ok_ D5 Tryz.func33
def D6:=fd_ 54 Tryz.f54 [D4.sg] [.p (.st 0)] [qr3] Zwg <|
.j 911 [2] [] [qe6] [] ZsF <|
.nil
theorem ZMY:OK_ D6:=ok_ D6 Tryz.func54 ⟨ZI8,tr_⟩
def D7:=fd_ 53 Tryz.f53 [D6.sg] [.p (.sl (.st 0)),.fn 54 [] []] [qr3] Ztz <|
.lr 94101 [1,7,8,9] [] [.fn 54 [] [],ZJQ,qe0,qe0] [] 0 [] [] [] [] Zr5 Zug (fun _=> .nil) <|
.nil
theorem ZMX:OK_ D7:=ok_ D7 Tryz.func53 ⟨ZMY,tr_⟩
def D8:=fd_ 52 Tryz.f52 [D4.sg,D5.sg,D7.sg] [ZJR,.ptr (.st 2)] [qr3] Zw9 <|
.j 911 [3] [] [qe6] [] ZtR <|
.nil
theorem ZMW:OK_ D8:=ok_ D8 Tryz.func52 ⟨ZI8,ZI7,ZMX,tr_⟩
def D9:=fd_ 92 Tryz.f92 [D8.sg] [.p (.sl (.st 1)),.fn 52 [] [.pp (.st 2)]] [qr2] Zp1 <|
.lr 94101 [0,1,7,8] [] [ZJP,.fn 52 [] [.pp (.st 2)],qe0,qe0] [] 0 [] [] [] [] Zpd ZpO (fun _=> .nil) <|
.nil
theorem ZMV:OK_ D9:=ok_ D9 Tryz.func92 ⟨ZMW,tr_⟩
def D10:=fd_ 51 Tryz.f51 [D9.sg] [.p (.sl (.st 1)),.fn 52 [] [.pp (.st 2)]] [qr3] Zpe .nil
theorem ZL2:OK_ D10:=ok_ D10 Tryz.func51 ⟨ZMV,tr_⟩
def D11:=fd_ 27 Tryz.f27 [D4.sg,D5.sg,D10.sg] [ZGB] [qr3] ZqO <|
.j 9101 [1,27] [] [qe3,qe6] [ZBt] Zsz <|
.nil
theorem ZEl:OK_ D11:=ok_ D11 Tryz.func27 ⟨ZI8,ZI7,ZL2,tr_⟩
def D13:=fd_ 229 Tryz.f229 [] [qa7] [qr3] ZvJ .nil
theorem ZL1:OK_ D13:=ok_ D13 Tryz.func229
def D14:=fd_ 197 Tryz.f197 [D13.sg] [qa7,qa7] [qr3] Zwn <|
.j 911 [4] [] [qe6] [] ZsK <|
.nil
theorem ZL0:OK_ D14:=ok_ D14 Tryz.func197 ⟨ZL1,tr_⟩
def D15:=fd_ 198 Tryz.f198 [] [qa7] [qr3] ZtT .nil
theorem ZLZ:OK_ D15:=ok_ D15 Tryz.func198
def D16:=fd_ 168 Tryz.f168 [D14.sg,D15.sg] [ZIn,qa7] [qr2,qr3] ZpP <|
.lo 940111 [0,1,6,7,8] [] [ZIk,ZCo,qe0,qe0,qe0] [] 0 [0,1,6,7] [] [ZIk,ZCo,qe0,qe0] [] Zpv Zqm (fun _=> .nil) <|
.j 911111 [4,5] [] [qe0,qe6] [] Zo3 <|
.nil
theorem ZLY:OK_ D16:=ok_ D16 Tryz.func168 ⟨ZL0,ZLZ,tr_⟩
def D17:=fd_ 123 Tryz.f123 [D16.sg] [ZIn,ZIn] [qr2] ZuX <|
.lo 941011 [1,5,10,11,12] [] [ZIk,qe0,ZIk,qe0,qe0] [] 0 [5] [] [qe0] [] ZrL Zvu (fun n0=> .j 9111541011 [1,5,10,11,12] [] [ZIk,qe0,ZIk,qe0,qe0] [] (ZtB (ZrL n0)) <|
.nil) <|
.nil
theorem ZLX:OK_ D17:=ok_ D17 Tryz.func123 ⟨ZLY,tr_⟩
def D18:=fd_ 182 Tryz.f182 [] [qa0] [qr4] Zo9 <|
.lo 9401 [0] [] [qe2] [] 0 [0] [] [qe2] [] ZpJ Zv2 (fun n0=> .j 9105401 [0,14] [] [qe2,qe6] [] (ZtW (ZpJ n0)) <|
.nil) <|
.nil
theorem ZCe:OK_ D18:=ok_ D18 Tryz.func182
def D19:=fd_ 146 Tryz.f146 [D18.sg] [ZIo] [qr4] Zst .nil
theorem ZHT:OK_ D19:=ok_ D19 Tryz.func146 ⟨ZCe,tr_⟩
def D20:=fd_ 141 Tryz.f141 [] [.p .bool,qa0] [ZFn] Zph <|
.j 911 [4] [] [qe3] [qo41,qo1] Zuz <|
.nil
theorem ZDf:OK_ D20:=ok_ D20 Tryz.func141
def D21:=fd_ 106 Tryz.f106 [D19.sg,D20.sg] [qa1] [ZFn] ZtZ .nil
theorem ZLW:OK_ D21:=ok_ D21 Tryz.func106 ⟨ZHT,ZDf,tr_⟩
def D22:=fd_ 177 Tryz.f177 [] [ZCW] [qr3] Ztm <|
.j 9111 [2] [] [qe6] [] Zpx <|
.nil
theorem ZLV:OK_ D22:=ok_ D22 Tryz.func177
def D23:=fd_ 138 Tryz.f138 [D22.sg] [.p (.sl (.st 3))] [qr3] Zv6 <|
.lr 94101 [5,6,7] [] [.o (.v (.sl (.st 3))),qe0,qe0] [] 0 [] [] [] [] ZvI ZyH (fun _=> .nil) <|
.nil
theorem ZHS:OK_ D23:=ok_ D23 Tryz.func138 ⟨ZLV,tr_⟩
def D24:=fd_ 117 Tryz.f117 [] [qa1] [qr3] Zxn .nil
theorem ZLU:OK_ D24:=ok_ D24 Tryz.func117
def D25:=fd_ 86 Tryz.f86 [D24.sg] [qa1,qa1] [qr2] ZuO .nil
theorem ZHR:OK_ D25:=ok_ D25 Tryz.func86 ⟨ZLU,tr_⟩
def D26:=fd_ 224 Tryz.f224 [] [qa8] [qr3] Zxm .nil
theorem ZLT:OK_ D26:=ok_ D26 Tryz.func224
def D27:=fd_ 179 Tryz.f179 [D26.sg] [qa8,qa8] [qr2] ZwE .nil
theorem ZLS:OK_ D27:=ok_ D27 Tryz.func179 ⟨ZLT,tr_⟩
def D28:=fd_ 140 Tryz.f140 [D25.sg,D27.sg] [qa0,qa0] [qr2] ZpF <|
.lr 941011 [0,1,6] [] qs1 [] 0 [] [] [] [] Zri Ztj (fun _=> .nil) <|
.nil
theorem ZF5:OK_ D28:=ok_ D28 Tryz.func140 ⟨ZHR,ZLS,tr_⟩
def D29:=fd_ 219 Tryz.f219 [] [qa0] [.own (.int .u32)] ZpH <|
.j 9101 [0,4] [] [qe2,qe6] [] ZoT <|
.nil
theorem ZHQ:OK_ D29:=ok_ D29 Tryz.func219
def D30:=fd_ 249 Tryz.f249 [] [qa8,qa8,qa8] [ZFo,ZFo] Zwl <|
.j 9101 [0,1,2,15] [] [ZCD,ZCD,ZCD,qe6] [] ZsI <|
.nil
theorem ZLR:OK_ D30:=ok_ D30 Tryz.func249
def D31:=fd_ 220 Tryz.f220 [D30.sg,D18.sg] [qa0,qa8] [qr4,ZFo] ZtC <|
.lo 9410111 [0,1,6,7,8] [] [qe2,ZCD,qe8,ZCD,qe0] [qo1] 0 [6,7] [] [qe8,ZCD] [qo1] Zr8 Zuk (fun _=> .nil) <|
.nil
theorem ZLQ:OK_ D31:=ok_ D31 Tryz.func220 ⟨ZLR,ZCe,tr_⟩
def D32:=fd_ 156 Tryz.f156 [] [qa8] [qr2] Zwk <|
.j 911 [0,2] [] [ZCD,qe0] [] Zux <|
.j 9111 [0,2] [] [ZCD,qe0] [] Zrm <|
.nil
theorem ZLP:OK_ D32:=ok_ D32 Tryz.func156
def D33:=fd_ 221 Tryz.f221 [D32.sg] [qa8] [qr2] Zrw .nil
theorem ZLO:OK_ D33:=ok_ D33 Tryz.func221 ⟨ZLP,tr_⟩
def D34:=fd_ 222 Tryz.f222 [] [qa0,qa1] [.own (.int .u32)] Zp4 <|
.lo 941011 [1,5,13,14,15] [] [qe0,qe8,qe2,qe0,qe0] [qo1] 0 [5] [] [qe8] [qo1] Zrg Zth (fun _=> .nil) <|
.nil
theorem ZLN:OK_ D34:=ok_ D34 Tryz.func222
def D35:=fd_ 183 Tryz.f183 [] [qa8,qa8,qa8] [ZFo,ZFo] Zs3 .nil
theorem ZHP:OK_ D35:=ok_ D35 Tryz.func183
def D36:=fd_ 180 Tryz.f180 [] [qa8,qa8,qa8] [ZFo,ZFo] ZuJ .nil
theorem ZHO:OK_ D36:=ok_ D36 Tryz.func180
noncomputable def D37:FD U:=⟨223,Tryz.f223,[D35.sg,D36.sg],[ZMz,qa0],[(0,.arr (.int .u32))],[ZFo],[],[],ZwT,ZvH,
.lo 94011111 [0,1,5,7,8] [] [ZGh,qe2,qe0,ZCC,ZCC] [qo1] 0 [0,1,5,7] [] [ZGh,qe2,qe0,ZCC] [qo1] ZrU Zu3 (fun n0=> .j 91054011111 [0,1,5,7,8,71] [] [ZGh,qe2,qe0,ZCC,ZCC,qe6] [qo1] (Ztl (ZrU n0)) <|
.nil) <|
.lo 941011111111 [0,1,5,7,9,10,82,83,84] [] [ZGh,qe2,qe0,ZCC,ZCD,ZCC,qe2,qe0,qe0] [qo1] 2 [0,1,5,7,9,10] [] [ZGh,qe2,qe0,ZCC,ZCD,ZCC] [qo1] Zu1 ZwX (fun _=> .nil) <|
.lo 941011111111111 [0,5,7,13,130,131,132] [] [ZGh,qe0,ZCC,ZCD,qe2,qe0,qe0] [qo1] 4 [0,5,7,13] [] [ZGh,qe0,ZCC,ZCD] [qo1] Ztk Zu2 (fun _=> .nil) <|
.nil⟩
theorem ZLM:OK_ D37:=ZIs D37 Tryz.func223 ⟨ZHP,ZHO,tr_⟩
noncomputable def D38:FD U:=⟨182,Tryz.f182,[],[ZMz],[(0,.arr (.int .u32))],[.view 0],[],[],Zuy,ZtD,
.lo 9401 [0] [] [ZGh] [qo1] 0 [0] [] [ZGh] [qo1] Zrk Zu0 (fun n0=> .j 9105401 [0,14] [] [ZGh,qe6] [qo1] (ZsT (Zrk n0)) <|
.nil) <|
.nil⟩
theorem ZLL:OK_ D38:=ZIs D38 Tryz.func182
def D39:=fd_ 181 Tryz.f181 [] [qa0,qa1] [ZFo] ZrS .nil
theorem ZHN:OK_ D39:=ok_ D39 Tryz.func181
noncomputable def D40:FD U:=⟨181,Tryz.f181,[],[ZMz,qa1],[(0,.arr (.int .u32))],[ZFo],[],[],Zv1,ZsR,
.nil⟩
theorem ZLK:OK_ D40:=ZIs D40 Tryz.func181
noncomputable def D41:FD U:=⟨178,Tryz.f178,[D28.sg,D29.sg,D31.sg,D18.sg,D33.sg,D34.sg,D37.sg,D38.sg,D40.sg],[qa0,qa0],[],[qr4,qr4],[],[(84,7)],Zqe,Zqe,
.lo 9410111111 [8,9,10,11,12,13] [11] [qe0,qe0,qe8,qe2,ZIm,qe0] [qo1,qo1] 1 [8,9,10,12] [] [qe0,qe0,qe8,ZIm] [qo1,qo1] ZqV ZuM (fun _=> .nil) <|
.lo 941011111111 [9,12,14,86,87] [] [qe0,qe8,.o (.sl (0,2,1)),qe0,qe0] [qo1,qo1] 3 [12,14] [] [qe8,.o (.sl (0,2,1))] [qo1,qo1] ZqU ZuL (fun _=> .nil) <|
.nil⟩
theorem ZHM:OK_ D41:=ok_ D41 Tryz.func178 ⟨ZF5,ZHQ,ZLQ,ZCe,ZLO,ZLN,ZLM,ZLL,ZLK,tr_⟩
def D42:=fd_ 139 Tryz.f139 [D41.sg] [qa0,qa0] [qr4] Zrj <|
.lo 9401 [0,1] [] [qe2,qe2] [] 0 [0] [] [qe2] [] Zpp ZtN (fun _=> .nil) <|
.nil
theorem ZHL:OK_ D42:=ok_ D42 Tryz.func139 ⟨ZHM,tr_⟩
def D43:=fd_ 145 Tryz.f145 [D42.sg,D41.sg,D20.sg] [ZCW,ZCW] [qr5] Zqw .nil
theorem ZEk:OK_ D43:=ok_ D43 Tryz.func145 ⟨ZHL,ZHM,ZDf,tr_⟩
def D44:=fd_ 105 Tryz.f105 [D23.sg,D43.sg] [ZCW,ZCW] [qr5,qr2] Zxj .nil
theorem ZLJ:OK_ D44:=ok_ D44 Tryz.func105 ⟨ZHS,ZEk,tr_⟩
def D45:=fd_ 69 Tryz.f69 [D21.sg,D44.sg] [qa1,qa1] [qr5,qr2] Zxi .nil
theorem ZHK:OK_ D45:=ok_ D45 Tryz.func69 ⟨ZLW,ZLJ,tr_⟩
def D46:=fd_ 58 Tryz.f58 [D45.sg] [] [qr5] Zvh .nil
theorem ZCd:OK_ D46:=ok_ D46 Tryz.func58 ⟨ZHK,tr_⟩
def D47:=fd_ 31 Tryz.f31 [D45.sg,D46.sg] [qa1,qa1] [qr5] Zxe .nil
theorem ZEj:OK_ D47:=ok_ D47 Tryz.func31 ⟨ZHK,ZCd,tr_⟩
def D48:=fd_ 93 Tryz.f93 [D17.sg,D47.sg] [ZIn,ZIn] [qr5] ZtU .nil
theorem ZHJ:OK_ D48:=ok_ D48 Tryz.func93 ⟨ZLX,ZEj,tr_⟩
def D49:=fd_ 55 Tryz.f55 [(94,ZyL.sig),D48.sg] [ZJR,ZJR] [qr5] ZuY .nil
theorem ZLI:OK_ D49:=ok_ D49 Tryz.func55 ⟨Zz2,ZHJ,tr_⟩
def D51:=fd_ 56 Tryz.f56 [(95,Zyg.sig),D48.sg] [qa7,qa7] [qr5] ZvG .nil
theorem ZLH:OK_ D51:=ok_ D51 Tryz.func56 ⟨Zzw,ZHJ,tr_⟩
def D52:=fd_ 99 Tryz.f99 [D23.sg,D42.sg,D28.sg] [qa6] [qr3] Zqk <|
.j 911 [2] [] [qe6] [] ZrV <|
.nil
theorem ZEi:OK_ D52:=ok_ D52 Tryz.func99 ⟨ZHS,ZHL,ZF5,tr_⟩
def D53:=fd_ 144 Tryz.f144 [D18.sg] [qa0,qa0] [qr4] Zqz <|
.lo 941011 [1,5,17,18,19] [] [qe2,qe8,qe2,qe0,qe0] [qo1] 0 [5] [] [qe8] [qo1] ZqI Zui (fun n0=> .lo 9410114011541011 [1,5,6,7,8,17,18,19,24,25,26] [] [qe2,qe8,qe0,ZCD,ZCC,qe2,qe0,qe0,qe2,qe0,qe0] [qo1] 2 [1,5,6,8,17,18,19] [] [qe2,qe8,qe0,ZCC,qe2,qe0,qe0] [qo1] Zr7 (Zuj (ZqI n0)) (fun _=> .nil) <|
.nil) <|
.nil
theorem ZHI:OK_ D53:=ok_ D53 Tryz.func144 ⟨ZCe,tr_⟩
def D54:=fd_ 101 Tryz.f101 [D53.sg,D20.sg] [ZCW,ZCW] [ZFn] ZoY .nil
theorem ZF4:OK_ D54:=ok_ D54 Tryz.func101 ⟨ZHI,ZDf,tr_⟩
def D55:=fd_ 102 Tryz.f102 [] [ZCW] [ZFn] ZrT <|
.j 911 [2] [] [qe3] [ZIj] ZtE <|
.nil
theorem ZHH:OK_ D55:=ok_ D55 Tryz.func102
def D56:=fd_ 142 Tryz.f142 [D39.sg,D36.sg,D18.sg] [qa0,qa0] [qr4] Zsi <|
.lo 9410111 [0,1,5,6,20,21] [] [qe2,qe2,qe8,ZCD,qe0,qe0] [qo1] 0 [5,6] [] [qe8,ZCD] [qo1] Zss ZuK (fun _=> .nil) <|
.nil
theorem ZHG:OK_ D56:=ok_ D56 Tryz.func142 ⟨ZHN,ZHO,ZCe,tr_⟩
def D57:=fd_ 143 Tryz.f143 [D39.sg,D35.sg,D18.sg] [qa0,qa0] [qr4] ZrM <|
.lo 9410111 [0,1,5,6,12,13] [] [qe2,qe2,qe8,ZCD,qe0,qe0] [qo1] 0 [5] [] [qe8] [qo1] Zr9 Zul (fun _=> .nil) <|
.nil
theorem ZLG:OK_ D57:=ok_ D57 Tryz.func143 ⟨ZHN,ZHP,ZCe,tr_⟩
def D58:=fd_ 100 Tryz.f100 [D56.sg,D20.sg,D28.sg,D57.sg] [ZCW,ZCW] [ZFn] Zvi .nil
theorem ZHF:OK_ D58:=ok_ D58 Tryz.func100 ⟨ZHG,ZDf,ZF5,ZLG,tr_⟩
def D59:=fd_ 65 Tryz.f65 [D52.sg,D54.sg,D55.sg,D58.sg] [qa6,qa6] [qr2] Zun <|
.j 9101 [2,3,13] [] [qe3,qe7,qe6] [ZCU,ZCU] Zwm <|
.nil
theorem ZEh:OK_ D59:=ok_ D59 Tryz.func65 ⟨ZEi,ZF4,ZHH,ZHF,tr_⟩
def D60:=fd_ 57 Tryz.f57 [D46.sg,D59.sg] [qa6] [qr2] Zwj .nil
theorem ZEg:OK_ D60:=ok_ D60 Tryz.func57 ⟨ZCd,ZEh,tr_⟩
def D61:=fd_ 176 Tryz.f176 [] [] [.map (.int .i64) (.st 6)] Zzp .nil
theorem ZHE:OK_ D61:=ok_ D61 Tryz.func176
def D63:=fd_ 210 Tryz.f210 [(233,Zya.sig)] [qa7] [ZEw] Zyt .nil
theorem ZLF:OK_ D63:=ok_ D63 Tryz.func210 ⟨ZyF,tr_⟩
def D64:=fd_ 273 Tryz.f273 [] [qa7,qa7] [qr3] Zpw <|
.j 911 [4] [] [qe6] [] ZpQ <|
.nil
theorem ZHD:OK_ D64:=ok_ D64 Tryz.func273
def D65:=fd_ 259 Tryz.f259 [D64.sg] [qa7,qa7] [ZEw,qr3] Zrr .nil
theorem ZLE:OK_ D65:=ok_ D65 Tryz.func259 ⟨ZHD,tr_⟩
def D66:=fd_ 237 Tryz.f237 [D65.sg] [qa7,qa7] [ZEw,qr3] ZuW .nil
theorem ZLD:OK_ D66:=ok_ D66 Tryz.func237 ⟨ZLE,tr_⟩
def D67:=fd_ 260 Tryz.f260 [D64.sg] [qa7,qa7] [ZEw] Zrc .nil
theorem ZLC:OK_ D67:=ok_ D67 Tryz.func260 ⟨ZHD,tr_⟩
def D68:=fd_ 238 Tryz.f238 [D67.sg] [qa7,qa7] [ZEw] Zuw .nil
theorem ZLB:OK_ D68:=ok_ D68 Tryz.func238 ⟨ZLC,tr_⟩
def D70:=fd_ 272 Tryz.f272 [(288,ZtF.sig)] [qa7,qa7] [qr2] ZqZ <|
.j 914011 [0,1,5,16] [] [ZCo,ZCo,qe0,qe6] [] Zqn <|
.nil
theorem ZLA:OK_ D70:=ok_ D70 Tryz.func272 ⟨ZwI,tr_⟩
def D71:=fd_ 261 Tryz.f261 [D70.sg] [qa7,qa7] [ZEw,ZEw,qr3] ZtJ .nil
theorem ZLz:OK_ D71:=ok_ D71 Tryz.func261 ⟨ZLA,tr_⟩
def D72:=fd_ 239 Tryz.f239 [D71.sg] [qa7,qa7] [ZEw,ZEw,qr3] Zxa .nil
theorem ZHC:OK_ D72:=ok_ D72 Tryz.func239 ⟨ZLz,tr_⟩
def D73:=fd_ 240 Tryz.f240 [(233,Zya.sig)] [qa7,qa1] [qr3] ZuN <|
.j 911 [4] [] [qe6] [] ZsJ <|
.nil
theorem ZLy:OK_ D73:=ok_ D73 Tryz.func240 ⟨ZyF,tr_⟩
def D74:=fd_ 215 Tryz.f215 [D66.sg,D68.sg,D72.sg,D73.sg,D29.sg,D53.sg,D19.sg,D56.sg,D20.sg,D43.sg] [qa7] [qr5,qr3] Zsu <|
.j 9111 [2,4,5] [] [qe3,ZCo,qe6] qp3 Zsj <|
.j 9101111 [2,5,6,7,39] [] [qe3,qe6,ZCo,ZCo,qe6] qp3 ZqW <|
.lo 941011111111 [2,5,7,9,10,11,47,48,49] [9,10] [qe3,qe6,ZCo,qe2,qe2,ZIm,ZIl,qe0,qe0] [qo4,qo1,.arr (.int .u8) false,qo1,qo1] 0 [2,5,7,9,10,11] [] [qe3,qe6,ZCo,qe2,qe2,ZIm] [.box [.o (.v .bool),.o (.full (0,3,1)),.o (.v .bool),.o (.full (0,4,1))],qo1,qo1,qo1] Zt1 Zv8 (fun _=> .nil) <|
.lo 9410111111111 [2,5,9,10,11,63,64] [11] [qe3,qe6,qe2,qe2,qe2,qe0,qe0] qp3 2 [2,5,9,11] [] [qe3,qe6,qe2,qe2] qp3 Zt0 Zv7 (fun _=> .nil) <|
.nil
theorem ZHB:OK_ D74:=ok_ D74 Tryz.func215 ⟨ZLD,ZLB,ZHC,ZLy,ZHQ,ZHI,ZHT,ZHG,ZDf,ZEk,tr_⟩
def D77:=fd_ 243 Tryz.f243 [] [ZIn] [ZEw] Zxo <|
.lr 941011 [3,6,7,8] [] [ZCo,ZIk,qe0,qe0] [] 0 [3] [] [ZCo] [] Zt2 ZyI (fun _=> .nil) <|
.nil
theorem ZLx:OK_ D77:=ok_ D77 Tryz.func243
def D78:=fd_ 216 Tryz.f216 [D74.sg,(241,Zyf.sig),D72.sg,(242,Zx0.sig),D77.sg] [qa7] [ZEw,qr3] ZvP <|
.j 9111111 [0,9] [] [ZCo,ZCo] [] Zq2 <|
.j 910111111 [9,43] [] qs5 [] ZvB <|
.j 91111111 [9] [] [ZCo] [] ZvA <|
.nil
theorem ZLw:OK_ D78:=ok_ D78 Tryz.func216 ⟨ZHB,Zzv,ZHC,Zzh,ZLx,tr_⟩
noncomputable def D79:FD U:=⟨175,Tryz.f175,[D61.sg,D63.sg,D78.sg],[qa1,qa7],[],[ZEw,qr3],[],[(26,2)],Zs2,Zs2,
.nil⟩
theorem ZLv:OK_ D79:=ok_ D79 Tryz.func175 ⟨ZHE,ZLF,ZLw,tr_⟩
noncomputable def D80:FD U:=⟨137,Tryz.f137,[D79.sg,D61.sg,D74.sg],[qa1,qa7],[],[qr5,qr3],[],[(22,2)],Zw7,Zw7,
.nil⟩
theorem ZLu:OK_ D80:=ok_ D80 Tryz.func137 ⟨ZLv,ZHE,ZHB,tr_⟩
def D81:=fd_ 97 Tryz.f97 [D46.sg,D80.sg] [.p (.st 0)] [qr5,qr3] Zzq .nil
theorem ZLt:OK_ D81:=ok_ D81 Tryz.func97 ⟨ZCd,ZLu,tr_⟩
noncomputable def D82:FD U:=⟨60,Tryz.f60,[D81.sg,D47.sg],[ZJR],[],[qr5],[],[],Zxc,ZsH,
.lo 941011 [2,3,4,10,11,12] [] [qe3,qe0,qe0,ZJQ,qe0,qe0] qp3 0 [2,3,4] [] [qe3,qe0,qe0] qp3 Zsg ZvW (fun n0=> .j 9111541011 [2,3,4,10,11,12] [] [qe3,qe0,qe0,ZJQ,qe0,qe0] qp3 (Zsh (Zsg n0)) <|
.nil) <|
.nil⟩
theorem ZLs:OK_ D82:=ok_ D82 Tryz.func60 ⟨ZLt,ZEj,tr_⟩ (hw:=by funext x_;exact ZwJ _)
def D83:=fd_ 136 Tryz.f136 [D54.sg,D58.sg] [qa6,qa6] [ZFn,ZFn] Zyz .nil
theorem ZLr:OK_ D83:=ok_ D83 Tryz.func136 ⟨ZF4,ZHF,tr_⟩
def D84:=fd_ 104 Tryz.f104 [D52.sg,D83.sg,D43.sg] [.fn 136 [] [],qa6,qa6] [qr5,qr2] Zqf <|
.j 9101 [0,4,5,6,18] [] [.fn 136 [] [],qe3,qe7,ZAR,qe6] [ZCU,ZCU,qo4,qo1,qo1] Zqx <|
.nil
theorem ZHA:OK_ D84:=ok_ D84 Tryz.func104 ⟨ZEi,ZLr,ZEk,tr_⟩
def D85:=fd_ 96 Tryz.f96 [D52.sg,D55.sg,D84.sg] [qa6,qa6] [qr5,qr2] ZxN .nil
theorem ZLq:OK_ D85:=ok_ D85 Tryz.func96 ⟨ZEi,ZHH,ZHA,tr_⟩
def D86:=fd_ 67 Tryz.f67 [] [qa6,qa1] [qr5] ZwW .nil
theorem ZF3:OK_ D86:=ok_ D86 Tryz.func67
def D87:=fd_ 59 Tryz.f59 [D85.sg,D86.sg] [qa6,qa6] [qr5] Zy2 .nil
theorem ZLp:OK_ D87:=ok_ D87 Tryz.func59 ⟨ZLq,ZF3,tr_⟩
def D88:=fd_ 98 Tryz.f98 [D84.sg] [qa6,qa6] [qr5,qr2] ZwP .nil
theorem ZLo:OK_ D88:=ok_ D88 Tryz.func98 ⟨ZHA,tr_⟩
def D89:=fd_ 61 Tryz.f61 [D88.sg,D86.sg] [qa6,qa6] [qr5] Zyu .nil
theorem ZHz:OK_ D89:=ok_ D89 Tryz.func61 ⟨ZLo,ZF3,tr_⟩
def D90:=fd_ 103 Tryz.f103 [D54.sg] [qa6,qa6] [ZFn,ZFn] ZyA .nil
theorem ZLn:OK_ D90:=ok_ D90 Tryz.func103 ⟨ZF4,tr_⟩
def D91:=fd_ 104 Tryz.f104 [D52.sg,D90.sg,D43.sg] [.fn 103 [] [],qa6,qa6] [qr5,qr2] ZsD <|
.j 9101 [0,4,5,6,18] [] [.fn 103 [] [],qe3,qe7,ZAR,qe6] [ZCU,ZCU,qo4,qo1,qo1] Zp8 <|
.nil
theorem ZLm:OK_ D91:=ok_ D91 Tryz.func104 ⟨ZEi,ZLn,ZEk,tr_⟩
def D92:=fd_ 68 Tryz.f68 [D91.sg] [qa6,qa6] [qr5,qr2] ZxO .nil
theorem ZLl:OK_ D92:=ok_ D92 Tryz.func68 ⟨ZLm,tr_⟩
def D93:=fd_ 30 Tryz.f30 [D92.sg,D86.sg] [qa6,qa6] [qr5] ZzM .nil
theorem ZHy:OK_ D93:=ok_ D93 Tryz.func30 ⟨ZLl,ZF3,tr_⟩
def D94:=fd_ 28 Tryz.f28 [D49.sg,D51.sg,D60.sg,D46.sg,D82.sg,D87.sg,D89.sg,D47.sg,D93.sg] [ZJR,ZJR] [qr5] Zxd <|
.j 91011 [2,3,4,5,6,24] [] [qe3,qe7,ZAR,ZKe,ZMy,qe6] [.boxS (.st 1),.boxS (.st 1),qo27,ZCU,ZCU,qo1,qo1] Zsr <|
.j 911111 [4,5,6,7] [] [qe3,qe7,ZAR,ZKe] [ZJO,ZCU,ZCU,ZCU,qo1,qo1] ZtV <|
.nil
theorem ZLk:OK_ D94:=ok_ D94 Tryz.func28 ⟨ZLI,ZLH,ZEg,ZCd,ZLs,ZLp,ZHz,ZEj,ZHy,tr_⟩
def D95:=fd_ 62 Tryz.f62 [D60.sg] [.p (.sl (.sl (.st 4)))] [qr2] ZvK <|
.lr 941011 [0,14,15,16] [] [ZEx,ZEx,qe0,qe0] [] 0 [0] [] [ZEx] [] Zt5 Zwc (fun _=> .nil) <|
.lr 9410111 [0,24,25,26] [] [ZEx,ZEx,qe0,qe0] [] 2 [0] [] [ZEx] [] Zt4 Zwb (fun _=> .nil) <|
.lr 94101111 [38,39,40] [] [ZEx,qe0,qe0] [] 4 [] [] [] [] Zsk Zv9 (fun n0=> .lr 9411401154101111 [38,39,40,44,45,46] [] [ZEx,qe0,qe0,.o (.v (.sl (.st 4))),qe0,qe0] [] 6 [38,39,40] [] [ZEx,qe0,qe0] [] Zt3 (Zwa (Zsk n0)) (fun _=> .nil) <|
.nil) <|
.nil
theorem ZLj:OK_ D95:=ok_ D95 Tryz.func62 ⟨ZEg,tr_⟩
noncomputable def ZJW (n_:Nat):FD U:=⟨63,Tryz.f63,[],[.boxr (.sl (.sl (.st 4))) 3,.p (.int .i64),.p (.int .i64),.hmap (.st 7) (.st 4)],[(3,.map (.st 7) (.st 4))],[.p (.st 4)],[],[],ZoP n_,ZoP n_,
.nil⟩
noncomputable def ZMh (n_:Nat):FD U:=⟨64,Tryz.f64,[D60.sg,D46.sg,(ZJW n_).sg,D89.sg],[.boxr (.sl (.sl (.st 4))) 4,.p (.int .i64),.p (.int .i64),.p (.int .i64),.hmap (.st 7) (.st 4)],[(4,.map (.st 7) (.st 4))],[.p (.st 4),.p .bool],[],[],Zp5 (ZoP n_),Zp5 (ZoP n_),
.j 9101 [0,1,2,3,8,28] [] [.o (.rp (.sl (.sl (.st 4))) (0,4,0)),qe0,qe0,qe0,qe3,qe6] [ZJN,qo9,qo1,qo1] (ZpG (ZoP n_)) <|
.nil⟩
theorem ZF2 (n_:Nat) (ih:Zez X0.E 63 (ZJW n_).sig):Zez X0.E 64 (ZMh n_).sig:=(ZMh n_).ok G0 Tryz.func64 ⟨ZEg,ZCd,ih,ZHz,trivial⟩ rfl rfl (by kernel_rfl)
noncomputable def D97c (n_:Nat):FD U:=⟨63,Tryz.f63,[D46.sg,(ZJW n_).sg,(ZMh n_).sg,D59.sg],[.boxr (.sl (.sl (.st 4))) 3,.p (.int .i64),.p (.int .i64),.hmap (.st 7) (.st 4)],[(3,.map (.st 7) (.st 4))],[.p (.st 4)],[],[],ZtO (ZoP n_),ZoP (n_+1),
.lo 941011111 [0,1,2,6,7,10,48,49] [] [ZL9,qe0,qe0,qe3,qe7,ZAR,qe0,qe0] qp2 0 [0,6,7,10] [] [ZL9,qe3,qe7,ZAR] qp2 (ZoW (ZoP n_)) (Ztn (ZoP n_)) (fun n0=> .j 91114011541011111 [0,1,2,6,7,10,12,48,49,66] [] [ZL9,qe0,qe0,qe3,qe7,ZAR,ZKe,qe0,qe0,qe6] [ZJN,ZJO,.boxS (.st 7),ZCU,ZCU,qo1,qo1] ((Zqh (ZoP n_)) ((ZoW (ZoP n_)) n0)) <|
.j 9111541011111 [0,1,2,6,7,10,48,49] [] [ZL9,qe0,qe0,qe3,qe7,ZAR,qe0,qe0] qp2 ((Zqg (ZoP n_)) ((ZoW (ZoP n_)) n0)) <|
.nil) <|
.nil⟩
theorem ZI6 (n_:Nat):Zez X0.E 63 (ZJW n_).sig:=by
 induction n_ with
 |zero=>
  refine ZkU.ok (S:=(ZJW 0).FS) uok fun v r h=> ?_
  have h2:(none:Option _)=some r:=h;cases h2
 |succ n_ ih=>exact(D97c n_).ok G0 Tryz.func63 ⟨ZCd,ih,ZF2 n_ ih,ZEh,trivial⟩ rfl rfl (by kernel_rfl)
noncomputable abbrev D97:FD U:=ZJW big
theorem ZHx:Zez X0.E 63 D97.sig:=ZI6 big
noncomputable abbrev D96:FD U:=ZMh big
theorem ZLi:Zez X0.E 64 D96.sig:=ZF2 big ZHx
def D98:=fd_ 66 Tryz.f66 [] [qa6] [qr5] ZAx .nil
theorem ZLh:OK_ D98:=ok_ D98 Tryz.func66
def D99:=fd_ 29 Tryz.f29 [D95.sg,D97.sg,D96.sg,D59.sg,D98.sg] [.p (.sl (.sl (.st 4)))] [.own (.int .i64),qr5,qr2] Zwo <|
.lo 941011111 [3,6,7,8,26,27,28] [200006] [qe3,ZKf,ZIl,qe0,ZEx,qe0,qe0] qp4 0 [3,6,7] [] [qe3,ZKf,ZIl] qp4 ZpX ZwF (fun n0=> .lo 9410114011541011111 [3,6,7,8,9,11,12,26,27,28,38,39] [] [qe3,ZKf,ZIl,qe0,qe0,ZKe,qe0,ZEx,qe0,qe0,qe0,qe0] [ZJO,ZJN,ZJM,ZCU,qo1,qo1] 2 [3,6,7,8,12,26,27,28] [] [qe3,ZKf,ZIl,qe0,qe0,ZEx,qe0,qe0] qp4 ZpD (ZwG (ZpX n0)) (fun n1=> .j 911140115410114011541011111 [3,6,7,8,9,11,12,13,26,27,28,38,39,56] [] [qe3,ZKf,ZIl,qe0,qe0,ZKe,qe0,qe0,ZEx,qe0,qe0,qe0,qe0,qe6] [ZJO,ZJN,ZJM,ZCU,qo1,qo1] (Zrn (ZpD n1)) <|
.nil) <|
.nil) <|
.nil
theorem ZLg:OK_ D99:=ok_ D99 Tryz.func29 ⟨ZLj,ZHx,ZLi,ZEh,ZLh,tr_⟩
def ZL3:=fd_ 10 Tryz.f10 [D11.sg,D94.sg,D99.sg,D47.sg,D93.sg] [ZGB,ZGB] [.own (.int .i64),qr5,qr2] ZpM <|
.j 91401 [2,3,5,16] [] [qe3,qe7,ZAR,qe6] [ZBt,ZBt,qo4,qo1,qo1] Ztw <|
.j 9131401 [2,3,5,26] [] [qe3,qe7,ZAR,qe6] [ZBt,ZBt,qo4,qo1,qo1] Ztv <|
.lo 9410111 [2,3,5,7,39,40,41] [] [qe3,qe7,ZAR,ZKc,ZJP,qe0,qe0] [ZBt,ZBt,ZJO,ZL7,qo1,qo1] 1 [2,3,5,7] [] [qe3,qe7,ZAR,ZKc] [ZBt,ZBt,ZJO,ZL7,qo1,qo1] ZrG Zvo (fun n0=> .lo 94101140115410111 [2,3,5,7,9,10,39,40,41,47,48,49] [] [qe3,qe7,ZAR,ZKc,ZMy,.o (.full (0,6,1)),ZJP,qe0,qe0,ZJP,qe0,qe0] [ZBt,ZBt,.box [.o (.v .bool),.o (.full (0,7,1)),.o (.v .bool),.o (.full (0,8,1))],ZL7,.boxS (.st 1),.arr (.st 4) false,qo1,qo1] 3 [2,3,5,7,10,39,40,41] [] [qe3,qe7,ZAR,ZKc,.o (.full (0,5,1)),ZJP,qe0,qe0] [ZBt,ZBt,qo27,ZL7,.arr (.st 4) false,qo1,qo1] Ztu (Zvp (ZrG n0)) (fun _=> .nil) <|
.nil) <|
.nil
theorem ZDJ:OK_ ZL3:=ok_ ZL3 Tryz.func10 ⟨ZEl,ZLk,ZLg,ZEj,ZHy,tr_⟩
def ZND:=fd_ 70 Tryz.f70 [] [qa9,qa1] [qr2] Zvs <|
.lr 94101 [0,1,7,8] [] [ZCV,qe0,qe0,qe0] [] 0 [] [] [] [] ZqH Zuh (fun _=> .nil) <|
.nil
theorem ZJL:OK_ ZND:=ok_ ZND Tryz.func70
def ZNC:=fd_ 32 Tryz.f32 [ZND.sg] [qa9,qa1] [qr3] Zr6 .nil
theorem ZJK:OK_ ZNC:=ok_ ZNC Tryz.func32 ⟨ZJL,tr_⟩
def ZNB:=fd_ 71 Tryz.f71 [] [.p (.sl (.st 1))] [.own (.st 1)] ZpI <|
.j 9101 [0,4] [] [ZJP,qe6] [] Zo1 <|
.nil
theorem ZJJ:OK_ ZNB:=ok_ ZNB Tryz.func71
def ZNA:=fd_ 72 Tryz.f72 [] [.p (.sl (.st 0))] [.own (.st 0)] Zp6 <|
.j 9101 [0,4] [] [ZJQ,qe6] [] Zo7 <|
.nil
theorem ZJI:OK_ ZNA:=ok_ ZNA Tryz.func72
noncomputable def ZNz:FD U:=⟨34,Tryz.f34,[ZNB.sg,ZNA.sg],[ZGB],[],[.aoown 2 2 (.st 1) 1 (.st 0)],[2000011],[],Zyv,Zyv,
.lo 941011 [1,2,10,11,12] [] [qe3,qe7,ZIl,qe0,qe0] [ZL8,qo5,ZKa,ZGg] 0 [1,2] [] [qe3,qe7] [ZL8,qo5,ZKa,ZGg] ZxM ZyT (fun _=> .nil) <|
.nil⟩
theorem ZJH:OK_ ZNz:=ok_ ZNz Tryz.func34 ⟨ZJJ,ZJI,tr_⟩
def ZNy:=fd_ 108 Tryz.f108 [] [ZIo,ZIo] [ZJ9,ZJ9] Zy3 .nil
theorem ZJG:OK_ ZNy:=ok_ ZNy Tryz.func108
def ZNx:=fd_ 73 Tryz.f73 [ZNy.sg] [ZIo,ZIo] [ZJ9,ZJ9] ZzN .nil
theorem ZJF:OK_ ZNx:=ok_ ZNx Tryz.func73 ⟨ZJG,tr_⟩
def ZNw:=fd_ 35 Tryz.f35 [ZNx.sg] [.p (.sl (.st 0)),qa1] [.own (.st 0)] Zpu <|
.j 910111 [0,6,26] [] [ZJQ,ZCC,qe6] [] ZqG <|
.lo 940111111 [7,8] [] [qe8,qe0] [ZL6] 0 [7] [] [qe8] [ZL6] ZqF Zs1 (fun _=> .nil) <|
.nil
theorem ZJE:OK_ ZNw:=ok_ ZNw Tryz.func35 ⟨ZJF,tr_⟩
def ZNv:=fd_ 11 Tryz.f11 [D11.sg,ZNC.sg,D5.sg,ZNz.sg,ZNw.sg] [ZGB,ZGB,qa9] [.p (.st 2),qr2] Zs4 <|
.j 9101 [2,3,4,6,31] [] [ZCV,qe3,qe7,ZAR,qe6] qp0 ZrF <|
.lr 941011 [2,3,4,6,33,34,35] [] [ZCV,qe3,qe7,ZAR,ZCV,qe0,qe0] qp0 0 [2,3,4,6] [] [ZCV,qe3,qe7,ZAR] qp0 ZrD Zvn (fun n0=> .j 9114011541011 [2,3,4,6,33,34,35,47] [] [ZCV,qe3,qe7,ZAR,ZCV,qe0,qe0,qe6] qp0 (Ztt (ZrD n0)) <|
.nil) <|
.lr 9410111 [2,3,4,6,50,51,52] [] [ZCV,qe3,qe7,ZAR,ZCV,qe0,qe0] qp0 2 [2,3,4,6] [] [ZCV,qe3,qe7,ZAR] qp0 ZrC Zvm (fun n0=> .j 91140115410111 [2,3,4,6,50,51,52,65] [] [ZCV,qe3,qe7,ZAR,ZCV,qe0,qe0,qe6] qp0 (Zts (ZrC n0)) <|
.nil) <|
.lo 9410111111 [4,6,12,77,78,79] [] [qe3,qe7,ZAR,ZCV,qe0,qe0] [ZBt,qo5,qo34,ZGg,ZKa] 4 [6,12] [] [qe3,qe7] [ZL8,qo5,ZGg,ZKa] ZrB Zvl (fun n0=> .j 911140115410111111 [4,6,12,13,15,77,78,79] [15] [qe3,qe7,ZAR,qe0,ZJQ,ZCV,qe0,qe0] [ZBt,qo5,qo34,ZGg,ZKa] (ZrE (ZrB n0)) <|
.nil) <|
.nil
theorem ZJD:OK_ ZNv:=ok_ ZNv Tryz.func11 ⟨ZEl,ZJK,ZI7,ZJH,ZJE,tr_⟩
def ZNu:=fd_ 25 Tryz.f25 [] [qa9,qa9] [qr3] Zs5 <|
.lr 941011 [1,12,13,14] [] [ZCV,ZCV,qe0,qe0] [] 0 [] [] [] [] Zsb ZuS (fun _=> .nil) <|
.nil
theorem ZJC:OK_ ZNu:=ok_ ZNu Tryz.func25
def ZJB:=fd_ 111 Tryz.f111 [] [qa0] [qr4] Zpc <|
.lo 9401 [0] [] [qe2] [] 0 [0] [] [qe2] [] Zpn Zwt (fun n0=> .j 9105401 [0,14] [] [qe2,qe6] [] (ZtG (Zpn n0)) <|
.nil) <|
.nil
theorem ZBM:OK_ ZJB:=ok_ ZJB Tryz.func111
def ZMq:=fd_ 77 Tryz.f77 [ZJB.sg] [.p .bool,qa0] [ZFn] ZpY <|
.j 9111 [4] [] [qe3] [ZIj] Zr4 <|
.nil
theorem ZGe:OK_ ZMq:=ok_ ZMq Tryz.func77 ⟨ZBM,tr_⟩
def ZMp:=fd_ 113 Tryz.f113 [ZMq.sg] [qa1] [ZFn] ZpL <|
.j 9111 [0,2,3] [] [qe0,qe3,ZCC] [qo41,qo1] ZqN <|
.nil
theorem ZGd:OK_ ZMp:=ok_ ZMp Tryz.func113 ⟨ZGe,tr_⟩
def ZNt:=fd_ 74 Tryz.f74 [] [ZCW] [qr3] Zq8 <|
.j 9111 [2] [] [qe6] [] Zo8 <|
.nil
theorem ZJA:OK_ ZNt:=ok_ ZNt Tryz.func74
def ZNs:=fd_ 109 Tryz.f109 [ZJB.sg] [qa0] [qr4] ZpN <|
.lo 941011 [0,3,9,10] [] [qe2,qe8,qe0,qe0] [qo1] 0 [3] [] [qe8] [qo1] Zqp ZtH (fun n0=> .j 9111541011 [0,3,9,10] [] [qe2,qe8,qe0,qe0] [qo1] (Zqq (Zqp n0)) <|
.nil) <|
.nil
theorem ZJz:OK_ ZNs:=ok_ ZNs Tryz.func109 ⟨ZBM,tr_⟩
def ZMo:=fd_ 75 Tryz.f75 [] [qa0,qa0] [qr2] ZrJ <|
.lr 941011 [0,1,5] [] qs1 [] 0 [] [] [] [] Zr3 Zuf (fun _=> .nil) <|
.nil
theorem ZGc:OK_ ZMo:=ok_ ZMo Tryz.func75
def ZMn:=fd_ 79 Tryz.f79 [ZJB.sg] [qa0,qa0] [qr4] ZrH <|
.lo 9410111 [0,1,5,6,7] [] [qe2,qe2,qe8,qe0,qe0] [qo1] 0 [5] [] [qe8] [qo1] ZqA Zt8 (fun n0=> .j 9114015410111 [0,1,5,6,7] [] [qe2,qe2,qe8,qe0,qe0] [qo1] (ZqB (ZqA n0)) <|
.nil) <|
.nil
theorem ZGb:OK_ ZMn:=ok_ ZMn Tryz.func79 ⟨ZBM,tr_⟩
def ZMm:=fd_ 110 Tryz.f110 [ZJB.sg] [qa0,qa8] [qr4] ZqS <|
.lo 941011 [0,1,5,6] [] [qe2,ZCD,qe8,qe0] [qo1] 0 [1,5] [] [ZCD,qe8] [qo1] Zq4 Zs6 (fun _=> .nil) <|
.nil
theorem ZGa:OK_ ZMm:=ok_ ZMm Tryz.func110 ⟨ZBM,tr_⟩
def ZNr:=fd_ 76 Tryz.f76 [ZNs.sg,ZMo.sg,ZMn.sg,ZMm.sg] [qa0,qa0] [qr4] Ztx <|
.lo 94011 [0,1,5] [] qs1 [] 0 [0,1,5] [] qs1 [] ZpW Zud (fun n0=> .j 91054011 [0,1,5,17] [] [qe2,qe2,qe0,qe6] [] (Zr2 (ZpW n0)) <|
.nil) <|
.lo 940111 [0,1,5] [] qs1 [] 2 [0,5] [] [qe2,qe0] [] ZoZ Zua (fun n0=> .lo 94041540111 [0,1,5] [] qs1 [] 4 [0,1,5] [] qs1 [] Zpg (Zuc (ZoZ n0)) (fun _=> .nil) <|
.lo 940141540111 [0,1,5] [] qs1 [] 6 [0,1,5] [] qs1 [] Zpf (Zub (ZoZ n0)) (fun _=> .nil) <|
.j 911141540111 [0,1,5] [] qs1 [] (Zr1 (ZoZ n0)) <|
.nil) <|
.lo 9401111 [0,5] [] [qe2,qe0] [] 8 [0] [] [qe2] [] ZpV Zt9 (fun _=> .nil) <|
.nil
theorem ZJy:OK_ ZNr:=ok_ ZNr Tryz.func76 ⟨ZJz,ZGc,ZGb,ZGa,tr_⟩
def ZNq:=fd_ 225 Tryz.f225 [] [qa0,qa1] [ZFo] Zty .nil
theorem ZJx:OK_ ZNq:=ok_ ZNq Tryz.func225
def ZNp:=fd_ 184 Tryz.f184 [ZNq.sg,ZMm.sg,ZMo.sg,ZMn.sg,ZJB.sg] [qa0,qa0] [qr4,qr4] ZrI <|
.lo 941011 [0,1,4,5,6] [5] [qe2,qe2,qe8,qe2,qe0] [qo1] 0 [4,5] [] [qe8,qe2] [qo1] ZqC Zue (fun n0=> .j 911541011 [0,1,4,5,6] [] [qe2,qe2,qe8,qe2,qe0] [qo1] (ZqD (ZqC n0)) <|
.nil) <|
.nil
theorem ZJw:OK_ ZNp:=ok_ ZNp Tryz.func184 ⟨ZJx,ZGa,ZGc,ZGb,ZBM,tr_⟩
def ZNo:=fd_ 147 Tryz.f147 [ZMp.sg,ZNr.sg,ZNp.sg,ZMq.sg] [ZCW,ZCW] [qr5] Zr0 .nil
theorem ZJv:OK_ ZNo:=ok_ ZNo Tryz.func147 ⟨ZGd,ZJy,ZJw,ZGe,tr_⟩
def ZNn:=fd_ 112 Tryz.f112 [ZNt.sg,ZNo.sg] [ZCW,ZCW] [qr5,qr2] ZsN <|
.j 9101 [2,3,4,13] [] [qe3,qe7,ZAR,qe6] [ZIj,ZIj,qo4,qo1,qo1] Zrt <|
.nil
theorem ZJu:OK_ ZNn:=ok_ ZNn Tryz.func112 ⟨ZJA,ZJv,tr_⟩
def ZNm:=fd_ 81 Tryz.f81 [ZMp.sg,ZNn.sg] [qa1,qa1] [qr5,qr2] ZtQ .nil
theorem ZJt:OK_ ZNm:=ok_ ZNm Tryz.func81 ⟨ZGd,ZJu,tr_⟩
noncomputable def ZNl:FD U:=⟨40,Tryz.f40,[ZNm.sg],[qa1,qa1],[],[qr5],[],[],ZuV,ZrZ,
.nil⟩
theorem ZJs:OK_ ZNl:=ok_ ZNl Tryz.func40 ⟨ZJt,tr_⟩ (hw:=by funext x_;funext x_;exact ZwJ _)
noncomputable def ZMl:FD U:=⟨15,Tryz.f15,[ZNl.sg],[qa1],[],[qr5],[],[],Zvq,Zp3,
.nil⟩
theorem ZF9:OK_ ZMl:=ok_ ZMl Tryz.func15 ⟨ZJs,tr_⟩ (hw:=by funext x_;exact ZwJ _)
def ZNk:=fd_ 45 Tryz.f45 [] [ZCW,ZCW] [qr3] Zqo <|
.j 9101 [2,3,20] [] [qe3,qe7,qe6] [ZIj,ZIj] ZqL <|
.lr 941011 [3,22,23,24] [] [qe3,qe2,qe0,qe0] [ZIj] 0 [] [] [] [] ZqK Zsx (fun _=> .nil) <|
.nil
theorem ZJr:OK_ ZNk:=ok_ ZNk Tryz.func45
def ZMk:=fd_ 21 Tryz.f21 [ZNk.sg] [qa6,qa6] [qr3] Zq3 <|
.j 911 [4] [] [qe6] [] Zrs <|
.nil
theorem ZF8:OK_ ZMk:=ok_ ZMk Tryz.func21 ⟨ZJr,tr_⟩
def ZNj:=fd_ 16 Tryz.f16 [] [ZGB] [qr2] ZsL .nil
theorem ZJq:OK_ ZNj:=ok_ ZNj Tryz.func16
def ZNi:=fd_ 7 Tryz.f7 [ZL3.sg,ZNv.sg,ZNu.sg,ZMl.sg,ZMk.sg,ZNj.sg] [] [qr3] ZqT <|
.j 9111111 [0] [] [qe6] [] Zpk <|
.nil
theorem ZJp:OK_ ZNi:=ok_ ZNi Tryz.func7 ⟨ZDJ,ZJD,ZJC,ZF9,ZF8,ZJq,tr_⟩
def ZNh:=fd_ 8 Tryz.f8 [] [qa9] [.box (.st 9)] ZvU .nil
theorem ZJo:OK_ ZNh:=ok_ ZNh Tryz.func8
def ZMj:=fd_ 19 Tryz.f19 [] [qa1,qa1] [qr2] Zrl .nil
theorem ZF7:OK_ ZMj:=ok_ ZMj Tryz.func19
noncomputable def ZMi:FD U:=⟨17,Tryz.f17,[ZMj.sg],[.box (.st 9),qa1],[(0,.box (.st 9))],[qr2],[],[],Zpo,Zpo,
.nil⟩
theorem ZF6:OK_ ZMi:=ok_ ZMi Tryz.func17 ⟨ZF7,tr_⟩
noncomputable def ZNg:FD U:=⟨18,Tryz.f18,[ZMi.sg],[.box (.st 9),ZIn],[(0,.box (.st 9))],[ZEw],[],[],Zru,Zru,
.nil⟩
theorem ZJn:OK_ ZNg:=ok_ ZNg Tryz.func18 ⟨ZF6,tr_⟩
def ZNf:=fd_ 114 Tryz.f114 [D11.sg] [ZMb,.fn 27 [] []] [qr3] ZsP <|
.lr 94101 [1,7,8,9] [] [.fn 27 [] [],ZHd,qe0,qe0] [] 0 [] [] [] [] Zrv ZtI (fun _=> .nil) <|
.nil
theorem ZJm:OK_ ZNf:=ok_ ZNf Tryz.func114 ⟨ZEl,tr_⟩
def ZNe:=fd_ 82 Tryz.f82 [ZNf.sg] [ZMb] [qr3] Zwf <|
.lr 94101 [0,3] [] [ZHd,qe0] [] 0 [0] [] [ZHd] [] ZpC Zwx (fun _=> .nil) <|
.j 9111 [2] [] [qe6] [] Zwy <|
.nil
theorem ZJl:OK_ ZNe:=ok_ ZNe Tryz.func82 ⟨ZJm,tr_⟩
def ZNd:=fd_ 41 Tryz.f41 [ZNe.sg] [ZMb] [qr3] ZxG .nil
theorem ZJk:OK_ ZNd:=ok_ ZNd Tryz.func41 ⟨ZJl,tr_⟩
def ZNc:=fd_ 42 Tryz.f42 [D60.sg] [qa6] [qr3] Zx4 .nil
theorem ZJj:OK_ ZNc:=ok_ ZNc Tryz.func42 ⟨ZEg,tr_⟩
def ZNb:=fd_ 157 Tryz.f157 [] [ZIo] [qr2] Zy4 <|
.j 911 [0,2] [] [ZCC,qe0] [] ZwB <|
.j 9111 [0,2] [] [ZCC,qe0] [] ZwA <|
.j 91111 [0,2] [] [ZCC,qe0] [] Zwz <|
.nil
theorem ZJi:OK_ ZNb:=ok_ ZNb Tryz.func157
def ZNa:=fd_ 116 Tryz.f116 [ZNb.sg] [ZIo] [qr2] ZzO .nil
theorem ZJh:OK_ ZNa:=ok_ ZNa Tryz.func116 ⟨ZJi,tr_⟩
def ZM9:=fd_ 85 Tryz.f85 [D59.sg] [qa6,qa6] [qr2] ZAc .nil
theorem ZJg:OK_ ZM9:=ok_ ZM9 Tryz.func85 ⟨ZEh,tr_⟩
def ZM8:=fd_ 84 Tryz.f84 [] [qa9] [qr2] ZA2 <|
.lr 941011 [3,6,7,8] [] [qe0,ZCV,qe0,qe0] [] 0 [3] [] [qe0] [] ZyB ZzR (fun _=> .nil) <|
.nil
theorem ZJf:OK_ ZM8:=ok_ ZM8 Tryz.func84
def ZM7:=fd_ 44 Tryz.f44 [ZM9.sg,D25.sg,ZM8.sg] [.p (.st 10),.p (.st 10)] [qr2] ZxP .nil
theorem ZJe:OK_ ZM7:=ok_ ZM7 Tryz.func44 ⟨ZJg,ZHR,ZJf,tr_⟩
noncomputable def ZM6:FD U:=⟨148,Tryz.f148,[ZM7.sg],[ZMa,qa1,qa1,.fn 44 [] []],[(0,.arr (.st 10))],[],[],[],Zse,ZrK,
.lo 941 [0,1,2,3,8] [] [ZKd,qe0,qe0,ZKb,qe0] [ZGf] 0 [] [] [] [ZGf] Zpj Zrp (fun n0=> .lo 941401541 [0,1,2,3,8,9] [] [ZKd,qe0,qe0,ZKb,qe0,qe0] [ZGf] 2 [0,1,2,3,8] [] [ZKd,qe0,qe0,ZKb,qe0] [ZGf] Zpi (Zrq (Zpj n0)) (fun n1=> .j 910541401541 [0,1,2,3,8,9,34] [] [ZKd,qe0,qe0,ZKb,qe0,qe0,qe6] [ZGf] (ZpU (Zpi n1)) <|
.nil) <|
.nil) <|
.nil⟩
theorem ZJd:OK_ ZM6:=ZIs ZM6 Tryz.func148 ⟨ZJe,tr_⟩
noncomputable def ZM5:FD U:=⟨115,Tryz.f115,[ZM6.sg],[ZMa,qa1,qa1,qa1,.fn 44 [] []],[(0,.arr (.st 10))],[],[],[],ZtS,Ztc,
.lz 9411 [0,1,2,3,4,10,11] [] [ZKd,qe0,qe0,qe0,ZKb,qe6,qe6] [ZGf] ZqE (fun _=> .nil) <|
.nil⟩
theorem ZJc:OK_ ZM5:=ZIs ZM5 Tryz.func115 ⟨ZJd,tr_⟩
noncomputable def ZM4:FD U:=⟨83,Tryz.f83,[ZNa.sg,ZM5.sg],[ZMa,.fn 44 [] []],[(0,.arr (.st 10))],[],[],[],ZsG,Zsf,
.nil⟩
theorem ZJb:OK_ ZM4:=ZIs ZM4 Tryz.func83 ⟨ZJh,ZJc,tr_⟩
noncomputable def ZM3:FD U:=⟨43,Tryz.f43,[ZM4.sg],[ZMa,qa1,.fn 44 [] []],[(0,.arr (.st 10))],[.view 0],[],[],Zxf,ZwM,
.nil⟩
theorem ZJa:OK_ ZM3:=ZIs ZM3 Tryz.func43 ⟨ZJb,tr_⟩
def ZM2:=fd_ 20 Tryz.f20 [ZNd.sg,D11.sg,ZL3.sg,ZNc.sg,ZM3.sg] [ZMb,ZGB,qa1] [.p (.sl (.st 10)),qr2] ZuB <|
.j 91401 [0,2,4,14] [] [ZHd,qe0,qe3,qe6] [ZBt] Zuv <|
.j 9131401 [0,2,4,21] [] [ZHd,qe0,qe3,qe6] [ZBt] Zuu <|
.lo 9410111 [2,4,8,35,36,37] [] [qe0,qe3,ZIm,ZHd,qe0,qe0] [ZBt,ZGf] 1 [2,8] [] [qe0,qe8] [ZGf] Zqr Zur (fun n0=> .j 911140115410111 [2,4,8,10,11,12,35,36,37,53] [] [qe0,qe3,ZIm,ZAR,ZKc,ZMy,ZHd,qe0,qe0,qe6] [ZBt,ZGf,ZBt,ZJM,ZCU] (Zut (Zqr n0)) <|
.j 91115410111 [2,4,8,35,36,37] [] [qe0,qe3,ZIm,ZHd,qe0,qe0] [ZBt,ZGf] (Zus (Zqr n0)) <|
.nil) <|
.nil
theorem ZI9:OK_ ZM2:=ok_ ZM2 Tryz.func20 ⟨ZJk,ZEl,ZDJ,ZJj,ZJa,tr_⟩
def D149:=fd_ 4 Tryz.f4 [D0.sg,ZNi.sg,ZNh.sg,ZMi.sg,ZNg.sg,ZMj.sg,ZL3.sg,ZM2.sg,ZMl.sg,ZMk.sg] [qa9,qa1] [qr3] Zq0 <|
.lo 9410111111 [1,5,6,7,8,34,35] [] [qe0,qe3,qe7,qe0,qe0,qe0,qe0] [.boxS (.st 9),ZL8,ZGg] 0 [1,6,8] [] [qe0,qe3,qe0] [.box [.o (.v (.int .i64)),.o (.v .str),.o (.full (0,2,1))],ZGg] Zpa ZpB (fun n0=> .lo 94101140115410111111 [1,5,6,7,8,9,10,34,35,43,44] [] [qe0,qe3,qe7,qe0,qe0,qe0,ZAR,qe0,qe0,qe0,qe0] [.boxS (.st 9),qo5,qo42,ZGg,ZL6] 2 [1,5,6,7,8,10,34,35] [] [qe0,qe3,qe7,qe0,qe0,ZAR,qe0,qe0] [.boxS (.st 9),qo5,qo42,ZGg,ZL6] ZpA (Zqt (Zpa n0)) (fun _=> .nil) <|
.nil) <|
.j 91011111111111 [8,12,14,129] [] [qe0,qe0,qe8,qe6] [ZJM] ZoU <|
.lr 9410111111111111 [8,12,130,131,132] [] [qe0,qe0,qe8,qe0,qe0] [ZJM] 4 [] [] [] [] Zpz Zqs (fun _=> .nil) <|
.nil
theorem D149_ok:OK_ D149:=ok_ D149 Tryz.func4 ⟨ZNE,ZJp,ZJo,ZF6,ZJn,ZF7,ZDJ,ZI9,ZF9,ZF8,tr_⟩
end
end Go.Proofs

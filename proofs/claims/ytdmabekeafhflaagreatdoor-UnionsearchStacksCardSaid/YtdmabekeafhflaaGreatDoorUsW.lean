/- Printed by wip/tools/tgen.py: walks. -/
import Derived.Test.YtdmabekeafhflaaGreatDoorUsU
import Derived.Test.YtdmabekeafhflaaGreatDoorUsX
import Derived.Test.YtdmabekeafhflaaGreatDoorUsWX
set_option linter.unusedVariables false
set_option linter.unusedSimpArgs false
set_option linter.unusedSectionVars false
namespace Go.Proofs
open Go Eng
set_option maxRecDepth 100000
noncomputable section
abbrev qe0:Sh:= .o (.v (.int .i64))
abbrev qo1:ShO:= .arr (.int .u32) false
abbrev qe2:Sh:= .o (.v (.sl (.int .u32)))
abbrev qe3:Sh:= .o (.ptr (0,1,1) 0 0)
abbrev qe4:Sh:= .o (.ptr (0,2,1) 0 0)
abbrev qo5:ShO:= .box [.o (.v .bool),.o (.full (0,4,1)),.o (.v .bool),.o (.full (0,5,1))]
abbrev qo6:ShO:= .box [.o (.v (.int .i64)),.o (.v .str),.o (.full (0,4,1))]
abbrev qe7:Sh:= .o (.full (0,1,1))
abbrev qe8:Sh:= .o (.v .bool)
abbrev qe9:Sh:= .o (.ptr (0,3,1) 0 0)
abbrev qo10:ShO:= .box [.o (.v .bool),.o (.full (0,2,1)),.o (.v .bool),.o (.full (0,3,1))]
abbrev ZBT:Sh:= .o (.v (.sl (.int .i64)))
abbrev ZAy:ShO:= .boxS (.st 2)
abbrev ZJU:ShO:= .box [.o (.v .bool),.o (.full (0,5,1)),.o (.v .bool),.o (.full (0,6,1))]
abbrev ZB9:Sh:= .o (.v (.int .u64))
abbrev ZMh:ShO:= .box [.o (.v (.int .i64)),.o (.v .str),.o (.full (0,3,1))]
abbrev ZEK:Sh:= .o (.v (.sl (.sl (.st 4))))
abbrev ZCV:Sh:= .o (.v (.int .u32))
abbrev ZHo:ShO:= .arr (.st 1) false
abbrev ZCA:Sh:= .o (.v .str)
abbrev ZCz:ShO:= .boxS (.st 4)
abbrev ZFA:Sh:= .o (.v (.sl (.st 1)))
abbrev ZJT:ShO:= .map (.st 7) (.st 4)
abbrev ZKh:Sh:= .o (.rp (.sl (.sl (.st 4))) (0,2,1))
abbrev ZGw:Sh:= .o (.sl (0,0,0))
abbrev ZHp:Sh:= .o (.v (.sl (.st 0)))
abbrev qo26:ShO:= .box [.o (.v .bool),.o (.full (0,6,1)),.o (.v .bool),.o (.full (0,7,1))]
abbrev ZMl:Sh:= .o (.rp (.sl (.sl (.st 4))) (0,3,0))
abbrev ZHn:ShO:= .arr (.st 0) false
abbrev ZIu:Sh:= .o (.full (0,3,1))
abbrev ZJV:Sh:= .o (.ptr (0,4,1) 0 0)
abbrev ZIt:Sh:= .o (.v (.sl .str))
abbrev qo32:ShO:= .box [.o (.v (.int .i64)),.o (.v .str),.o (.full (0,5,1))]
abbrev ZMJ:ShO:= .box [.o (.v .str),.o (.full (0,4,1))]
abbrev ZMI:ShO:= .arr (.int .i64) false
abbrev ZKg:ShO:= .own (.st 1) 1 (.st 0)
abbrev ZMg:ShO:= .arr (.sl (.st 4)) false
abbrev ZMk:Sh:= .o (.ptr (0,0,0) 0 0)
abbrev ZIs:ShO:= .boxS (.st 3)
abbrev qo39:ShO:= .box [.o (.v .bool),.o (.full (0,2,1))]
abbrev qo40:ShO:= .box [.o (.v .str),.o (.full (0,3,1))]
abbrev ZMj:Sh:= .o (.full (0,2,1))
abbrev ZMi:Sh:= .o (.full (0,4,1))
abbrev ZMf:ShO:= .boxS (.st 9)
abbrev qp0:List ShO:=[ZAy,ZAy,qo6,ZHo]
abbrev qs1:List Sh:=[qe2,qe2,qe0]
abbrev qp2:List ShO:=[ZJT,qo5,.boxS (.st 7),ZCz,qo1,qo1]
abbrev qp3:List ShO:=[qo10,qo1,qo1]
abbrev qp4:List ShO:=[ZMf,ZMh,qo6,ZHo,ZHo]
abbrev qp5:List ShO:=[qo5,ZJT,ZMI,qo1,qo1]
abbrev qs6:List Sh:=[qe2,qe2,qe7,ZB9,qe0]
abbrev qs7:List Sh:=[ZCA,qe8]
abbrev qa0:ShA:= .p (.sl (.int .u32))
abbrev qa1:ShA:= .p (.int .i64)
abbrev qr2:ShR:= .p (.int .i64)
abbrev qr3:ShR:= .p (.sl (.int .u32))
abbrev qa4:ShA:= .p (.st 4)
abbrev qr5:ShR:= .p (.st 4)
abbrev qr6:ShR:= .p .bool
abbrev qa7:ShA:= .p .str
abbrev qa8:ShA:= .p (.int .u32)
abbrev qa9:ShA:= .p (.st 3)
abbrev ZHr:ShA:= .p (.sl (.int .i64))
abbrev ZFz:ShR:= .p (.int .u32)
abbrev ZEi:ShR:= .p (.st 3)
abbrev ZIv:ShA:= .p (.sl .str)
abbrev ZEJ:ShR:= .p .str
abbrev ZHq:ShA:= .p (.st 2)
abbrev ZJX:ShA:= .box (.st 9)
abbrev ZKi:ShA:= .p (.int .u64)
abbrev ZKf:ShR:= .p (.int .u64)
abbrev ZJW:ShA:= .p (.st 1)
abbrev ZMK:ShA:= .part (.int .u32)
noncomputable abbrev fd_ (f:Nat) (fn:Func) (sg:List (Nat×ZjE U)) (a:List ShA) (r:List ShR) (s:ZjA (Zke U a []) (Option (HT (oTy U [] r)))) (t:CT U (HT (oTy U [] r)) (HT (oTy U [] r))):FD U:=⟨f,fn,sg,a,[],r,[],[],s,s,t⟩
abbrev OK_ (D:FD U):Prop:=Zez X0.E D.f D.sig
theorem ok_ (D:FD U) (hf:X0.prog.funcs[D.f]? =some D.fn) (hs:Zdd X0 D.sigs:=by trivial) (h:D.lhs X0=D.rhs2:=by kernel_rfl) (ha:D.os.any (fun x=>isAr x.2)=false:=by rfl) (hw:D.w=D.s:=by rfl):OK_ D:=D.ok2 G0 hf hs ha hw h
theorem ZML (D:FD U) (hf:X0.prog.funcs[D.f]? =some D.fn) (hs:Zdd X0 D.sigs:=by trivial) (h:D.lhs X0=D.rhs2:=by kernel_rfl) (hw:(fun v=>app (Zke U D.as []) D.w (Zl8 (r:=[]) D.as v ()))=fun v=>(app (Zke U D.as []) D.s (Zl8 (r:=[]) D.as v ())).bind fun r=>chk (Zid (Zdr D.as v) (D.b r)) (some r):=by kernel_rfl):OK_ D:=D.okA2 G0 hf hs hw h
theorem tr_:True:=trivial
def D0:=fd_ 6 Tryz.f6 [] [ZHr] [qr6] ZvG .nil
theorem ZNL:OK_ D0:=ok_ D0 Tryz.func6
def D1:=fd_ 167 Tryz.f167 [] [qa7] [ZKf] Zo5 .nil
theorem ZNd:OK_ D1:=ok_ D1 Tryz.func167
def D2:=fd_ 122 Tryz.f122 [D1.sg] [qa7] [qr6] ZpQ <|
.lr 9401 [0] [] [ZCA] [] 0 [] [] [] [] ZoU ZsL (fun n0=> .j 91012101415401 [0,24] [] qs7 [] (ZpY (ZoU n0)) <|
.j 91121012101415401 [0,39] [] qs7 [] (ZpX (ZoU n0)) <|
.lo 94121121012101415401 [0] [] [ZCA] [] 2 [0] [] [ZCA] [] Zpw (ZsM (ZoU n0)) (fun n1=> .j 91054121121012101415401 [0,62] [] qs7 [] (ZqS (Zpw n1)) <|
.nil) <|
.j 9112101415401 [0] [] [ZCA] [] (ZpW (ZoU n0)) <|
.j 910214111111415401 [0,94] [] qs7 [] (Zpx (ZoU n0)) <|
.j 91021314111111415401 [0,125] [] qs7 [] (Zpb (ZoU n0)) <|
.j 9102131314111111415401 [0,166] [] qs7 [] (Zo0 (ZoU n0)) <|
.nil) <|
.nil
theorem ZNc:OK_ D2:=ok_ D2 Tryz.func122 ⟨ZNd,tr_⟩
def D3:=fd_ 91 Tryz.f91 [D2.sg] [qa7] [qr6] ZzY .nil
theorem ZNb:OK_ D3:=ok_ D3 Tryz.func91 ⟨ZNc,tr_⟩
def D4:=fd_ 50 Tryz.f50 [D3.sg] [qa7] [qr6] Zxf <|
.j 911 [2] [] [qe8] [] Zxm <|
.nil
theorem ZJj:OK_ D4:=ok_ D4 Tryz.func50 ⟨ZNb,tr_⟩
def D5:=fd_ 33 Tryz.f33 [] [ZHq] [qr2] Zu5 .nil
theorem ZJi:OK_ D5:=ok_ D5 Tryz.func33
def D6:=fd_ 54 Tryz.f54 [D4.sg] [.p (.st 0)] [qr6] Zwz <|
.j 911 [2] [] [qe8] [] ZsW <|
.nil
theorem ZNa:OK_ D6:=ok_ D6 Tryz.func54 ⟨ZJj,tr_⟩
def D7:=fd_ 53 Tryz.f53 [D6.sg] [.p (.sl (.st 0)),.fn 54 [] []] [qr6] ZtQ <|
.lr 94101 [1,7,8,9] [] [.fn 54 [] [],ZHp,qe0,qe0] [] 0 [] [] [] [] Zsm Zuz (fun _=> .nil) <|
.nil
theorem ZM9:OK_ D7:=ok_ D7 Tryz.func53 ⟨ZNa,tr_⟩
def D8:=fd_ 52 Tryz.f52 [D4.sg,D5.sg,D7.sg] [ZJW,.ptr (.st 2)] [qr6] Zxn <|
.j 911 [3] [] [qe8] [] Zt6 <|
.nil
theorem ZM8:OK_ D8:=ok_ D8 Tryz.func52 ⟨ZJj,ZJi,ZM9,tr_⟩
def D9:=fd_ 92 Tryz.f92 [D8.sg] [.p (.sl (.st 1)),.fn 52 [] [.pp (.st 2)]] [qr2] Zp8 <|
.lr 94101 [0,1,7,8] [] [ZFA,.fn 52 [] [.pp (.st 2)],qe0,qe0] [] 0 [] [] [] [] Zpk ZpT (fun _=> .nil) <|
.nil
theorem ZM7:OK_ D9:=ok_ D9 Tryz.func92 ⟨ZM8,tr_⟩
def D10:=fd_ 51 Tryz.f51 [D9.sg] [.p (.sl (.st 1)),.fn 52 [] [.pp (.st 2)]] [qr6] Zpl .nil
theorem ZMc:OK_ D10:=ok_ D10 Tryz.func51 ⟨ZM7,tr_⟩
def D11:=fd_ 27 Tryz.f27 [D4.sg,D5.sg,D10.sg] [ZHq] [qr6] Zsn <|
.j 9101 [1,27] [] [qe3,qe8] [ZAy] ZsP <|
.nil
theorem ZH7:OK_ D11:=ok_ D11 Tryz.func27 ⟨ZJj,ZJi,ZMc,tr_⟩
def D13:=fd_ 229 Tryz.f229 [] [qa7] [qr6] ZvY .nil
theorem ZL9:OK_ D13:=ok_ D13 Tryz.func229
def D14:=fd_ 197 Tryz.f197 [D13.sg] [qa7,qa7] [qr6] ZwE <|
.j 911 [4] [] [qe8] [] Zs0 <|
.nil
theorem ZL8:OK_ D14:=ok_ D14 Tryz.func197 ⟨ZL9,tr_⟩
def D15:=fd_ 198 Tryz.f198 [] [qa7] [qr6] Zt7 .nil
theorem ZL7:OK_ D15:=ok_ D15 Tryz.func198
def D16:=fd_ 168 Tryz.f168 [D14.sg,D15.sg] [ZIv,qa7] [qr2,qr6] ZpU <|
.lo 940111 [0,1,6,7,8] [] [ZIt,ZCA,qe0,qe0,qe0] [] 0 [0,1,6,7] [] [ZIt,ZCA,qe0,qe0] [] ZpB Zqt (fun _=> .nil) <|
.j 911111 [4,5] [] [qe0,qe8] [] Zpa <|
.nil
theorem ZL6:OK_ D16:=ok_ D16 Tryz.func168 ⟨ZL8,ZL7,tr_⟩
def D17:=fd_ 123 Tryz.f123 [D16.sg] [ZIv,ZIv] [qr2] Zu8 <|
.lo 941011 [1,5,10,11,12] [] [ZIt,qe0,ZIt,qe0,qe0] [] 0 [5] [] [qe0] [] ZrW ZvJ (fun n0=> .j 9111541011 [1,5,10,11,12] [] [ZIt,qe0,ZIt,qe0,qe0] [] (ZtR (ZrW n0)) <|
.nil) <|
.nil
theorem ZL5:OK_ D17:=ok_ D17 Tryz.func123 ⟨ZL6,tr_⟩
def D18:=fd_ 182 Tryz.f182 [] [qa0] [qr3] Zpj <|
.lo 9401 [0] [] [qe2] [] 0 [0] [] [qe2] [] ZpP Zwl (fun n0=> .j 9105401 [0,14] [] [qe2,qe8] [] (Zua (ZpP n0)) <|
.nil) <|
.nil
theorem ZCn:OK_ D18:=ok_ D18 Tryz.func182
def D19:=fd_ 146 Tryz.f146 [D18.sg] [ZKi] [qr3] ZsJ .nil
theorem ZH6:OK_ D19:=ok_ D19 Tryz.func146 ⟨ZCn,tr_⟩
def D20:=fd_ 141 Tryz.f141 [] [.p .bool,qa0] [ZEi] Zpo <|
.j 911 [4] [] [qe3] [qo39,qo1] ZuM <|
.nil
theorem ZDx:OK_ D20:=ok_ D20 Tryz.func141
def D21:=fd_ 106 Tryz.f106 [D19.sg,D20.sg] [qa1] [ZEi] Zud .nil
theorem ZL4:OK_ D21:=ok_ D21 Tryz.func106 ⟨ZH6,ZDx,tr_⟩
def D22:=fd_ 177 Tryz.f177 [] [qa9] [qr6] ZtG <|
.j 9111 [2] [] [qe8] [] ZpD <|
.nil
theorem ZL3:OK_ D22:=ok_ D22 Tryz.func177
def D23:=fd_ 138 Tryz.f138 [D22.sg] [.p (.sl (.st 3))] [qr6] Zwp <|
.lr 94101 [5,6,7] [] [.o (.v (.sl (.st 3))),qe0,qe0] [] 0 [] [] [] [] ZvX ZyS (fun _=> .nil) <|
.nil
theorem ZH5:OK_ D23:=ok_ D23 Tryz.func138 ⟨ZL3,tr_⟩
def D24:=fd_ 117 Tryz.f117 [] [qa1] [qr6] ZxA .nil
theorem ZL2:OK_ D24:=ok_ D24 Tryz.func117
def D25:=fd_ 86 Tryz.f86 [D24.sg] [qa1,qa1] [qr2] ZwF .nil
theorem ZL1:OK_ D25:=ok_ D25 Tryz.func86 ⟨ZL2,tr_⟩
def D26:=fd_ 224 Tryz.f224 [] [qa8] [qr6] Zxz .nil
theorem ZL0:OK_ D26:=ok_ D26 Tryz.func224
def D27:=fd_ 179 Tryz.f179 [D26.sg] [qa8,qa8] [qr2] ZwS .nil
theorem ZLZ:OK_ D27:=ok_ D27 Tryz.func179 ⟨ZL0,tr_⟩
def D28:=fd_ 140 Tryz.f140 [D25.sg,D27.sg] [qa0,qa0] [qr2] ZpL <|
.lr 941011 [0,1,6] [] qs1 [] 0 [] [] [] [] Zrw ZtD (fun _=> .nil) <|
.nil
theorem ZGn:OK_ D28:=ok_ D28 Tryz.func140 ⟨ZL1,ZLZ,tr_⟩
def D29:=fd_ 219 Tryz.f219 [] [qa0] [.own (.int .u32)] ZpN <|
.j 9101 [0,4] [] [qe2,qe8] [] ZoT <|
.nil
theorem ZH4:OK_ D29:=ok_ D29 Tryz.func219
def D30:=fd_ 249 Tryz.f249 [] [qa8,qa8,qa8] [ZFz,ZFz] ZwC <|
.j 9101 [0,1,2,15] [] [ZCV,ZCV,ZCV,qe8] [] ZsY <|
.nil
theorem ZLY:OK_ D30:=ok_ D30 Tryz.func249
def D31:=fd_ 220 Tryz.f220 [D30.sg,D18.sg] [qa0,qa8] [qr3,ZFz] ZtS <|
.lo 9410111 [0,1,6,7,8] [] [qe2,ZCV,qe7,ZCV,qe0] [qo1] 0 [6,7] [] [qe7,ZCV] [qo1] Zsq ZuD (fun _=> .nil) <|
.nil
theorem ZLX:OK_ D31:=ok_ D31 Tryz.func220 ⟨ZLY,ZCn,tr_⟩
def D32:=fd_ 156 Tryz.f156 [] [qa8] [qr2] ZwB <|
.j 911 [0,2] [] [ZCV,qe0] [] ZuK <|
.j 9111 [0,2] [] [ZCV,qe0] [] Zrz <|
.nil
theorem ZLW:OK_ D32:=ok_ D32 Tryz.func156
def D33:=fd_ 221 Tryz.f221 [D32.sg] [qa8] [qr2] ZrG .nil
theorem ZLV:OK_ D33:=ok_ D33 Tryz.func221 ⟨ZLW,tr_⟩
def D34:=fd_ 222 Tryz.f222 [] [qa0,qa1] [.own (.int .u32)] Zqa <|
.lo 941011 [1,5,13,14,15] [] [qe0,qe7,qe2,qe0,qe0] [qo1] 0 [5] [] [qe7] [qo1] Zru ZtB (fun _=> .nil) <|
.nil
theorem ZLU:OK_ D34:=ok_ D34 Tryz.func222
def D35:=fd_ 183 Tryz.f183 [] [qa8,qa8,qa8] [ZFz,ZFz] Ztk .nil
theorem ZH3:OK_ D35:=ok_ D35 Tryz.func183
def D36:=fd_ 180 Tryz.f180 [] [qa8,qa8,qa8] [ZFz,ZFz] ZuX .nil
theorem ZH2:OK_ D36:=ok_ D36 Tryz.func180
noncomputable def D37:FD U:=⟨223,Tryz.f223,[D35.sg,D36.sg],[ZMK,qa0],[(0,.arr (.int .u32))],[ZFz],[],[],Zw4,ZvW,
.lo 94011111 [0,1,5,7,8] [] [ZGw,qe2,qe0,ZB9,ZB9] [qo1] 0 [0,1,5,7] [] [ZGw,qe2,qe0,ZB9] [qo1] Zr6 Zve (fun n0=> .j 91054011111 [0,1,5,7,8,71] [] [ZGw,qe2,qe0,ZB9,ZB9,qe8] [qo1] (ZtF (Zr6 n0)) <|
.nil) <|
.lo 941011111111 [0,1,5,7,9,10,82,83,84] [] [ZGw,qe2,qe0,ZB9,ZCV,ZB9,qe2,qe0,qe0] [qo1] 2 [0,1,5,7,9,10] [] [ZGw,qe2,qe0,ZB9,ZCV,ZB9] [qo1] Zvc Zw8 (fun _=> .nil) <|
.lo 941011111111111 [0,5,7,13,130,131,132] [] [ZGw,qe0,ZB9,ZCV,qe2,qe0,qe0] [qo1] 4 [0,5,7,13] [] [ZGw,qe0,ZB9,ZCV] [qo1] ZtE Zvd (fun _=> .nil) <|
.nil⟩
theorem ZLT:OK_ D37:=ZML D37 Tryz.func223 ⟨ZH3,ZH2,tr_⟩
noncomputable def D38:FD U:=⟨182,Tryz.f182,[],[ZMK],[(0,.arr (.int .u32))],[.view 0],[],[],ZuL,ZtT,
.lo 9401 [0] [] [ZGw] [qo1] 0 [0] [] [ZGw] [qo1] Zry Zvb (fun n0=> .j 9105401 [0,14] [] [ZGw,qe8] [qo1] (Ztb (Zry n0)) <|
.nil) <|
.nil⟩
theorem ZLS:OK_ D38:=ZML D38 Tryz.func182
def D39:=fd_ 181 Tryz.f181 [] [qa0,qa1] [ZFz] Zr4 .nil
theorem ZH1:OK_ D39:=ok_ D39 Tryz.func181
noncomputable def D40:FD U:=⟨181,Tryz.f181,[],[ZMK,qa1],[(0,.arr (.int .u32))],[ZFz],[],[],Zwk,Zs9,
.nil⟩
theorem ZLR:OK_ D40:=ZML D40 Tryz.func181
noncomputable def D41:FD U:=⟨178,Tryz.f178,[D28.sg,D29.sg,D31.sg,D18.sg,D33.sg,D34.sg,D37.sg,D38.sg,D40.sg],[qa0,qa0],[],[qr3,qr3],[],[(84,7)],Zqk,Zqk,
.lo 9410111111 [8,9,10,11,12,13] [11] [qe0,qe0,qe7,qe2,ZMj,qe0] [qo1,qo1] 1 [8,9,10,12] [] [qe0,qe0,qe7,ZMj] [qo1,qo1] Zq6 Zu0 (fun _=> .nil) <|
.lo 941011111111 [9,12,14,86,87] [] [qe0,qe7,.o (.sl (0,2,1)),qe0,qe0] [qo1,qo1] 3 [12,14] [] [qe7,.o (.sl (0,2,1))] [qo1,qo1] Zq5 ZuZ (fun _=> .nil) <|
.nil⟩
theorem ZH0:OK_ D41:=ok_ D41 Tryz.func178 ⟨ZGn,ZH4,ZLX,ZCn,ZLV,ZLU,ZLT,ZLS,ZLR,tr_⟩
def D42:=fd_ 139 Tryz.f139 [D41.sg] [qa0,qa0] [qr3] Zrx <|
.lo 9401 [0,1] [] [qe2,qe2] [] 0 [0] [] [qe2] [] Zpv Zt3 (fun _=> .nil) <|
.nil
theorem ZHZ:OK_ D42:=ok_ D42 Tryz.func139 ⟨ZH0,tr_⟩
def D43:=fd_ 145 Tryz.f145 [D42.sg,D41.sg,D20.sg] [qa9,qa9] [qr5] ZqC .nil
theorem ZEy:OK_ D43:=ok_ D43 Tryz.func145 ⟨ZHZ,ZH0,ZDx,tr_⟩
def D44:=fd_ 105 Tryz.f105 [D23.sg,D43.sg] [qa9,qa9] [qr5,qr2] Zxw .nil
theorem ZLQ:OK_ D44:=ok_ D44 Tryz.func105 ⟨ZH5,ZEy,tr_⟩
def D45:=fd_ 69 Tryz.f69 [D21.sg,D44.sg] [qa1,qa1] [qr5,qr2] Zxv .nil
theorem ZHY:OK_ D45:=ok_ D45 Tryz.func69 ⟨ZL4,ZLQ,tr_⟩
def D46:=fd_ 58 Tryz.f58 [D45.sg] [] [qr5] Zvv .nil
theorem ZCm:OK_ D46:=ok_ D46 Tryz.func58 ⟨ZHY,tr_⟩
def D47:=fd_ 31 Tryz.f31 [D45.sg,D46.sg] [qa1,qa1] [qr5] Zxs .nil
theorem ZEx:OK_ D47:=ok_ D47 Tryz.func31 ⟨ZHY,ZCm,tr_⟩
def D48:=fd_ 93 Tryz.f93 [D17.sg,D47.sg] [ZIv,ZIv] [qr5] Zt8 .nil
theorem ZHX:OK_ D48:=ok_ D48 Tryz.func93 ⟨ZL5,ZEx,tr_⟩
def D49:=fd_ 55 Tryz.f55 [(94,ZyY.sig),D48.sg] [ZJW,ZJW] [qr5] Zu9 .nil
theorem ZLP:OK_ D49:=ok_ D49 Tryz.func55 ⟨ZAi,ZHX,tr_⟩
def D51:=fd_ 56 Tryz.f56 [(95,Zyn.sig),D48.sg] [qa7,qa7] [qr5] ZvV .nil
theorem ZLO:OK_ D51:=ok_ D51 Tryz.func56 ⟨ZzI,ZHX,tr_⟩
def D52:=fd_ 99 Tryz.f99 [D23.sg,D42.sg,D28.sg] [qa4] [qr6] Zqq <|
.j 911 [2] [] [qe8] [] Zr7 <|
.nil
theorem ZEw:OK_ D52:=ok_ D52 Tryz.func99 ⟨ZH5,ZHZ,ZGn,tr_⟩
def D53:=fd_ 144 Tryz.f144 [D18.sg] [qa0,qa0] [qr3] ZqF <|
.lo 941011 [1,5,17,18,19] [] [qe2,qe7,qe2,qe0,qe0] [qo1] 0 [5] [] [qe7] [qo1] ZqR ZuB (fun n0=> .lo 9410114011541011 [1,5,6,7,8,17,18,19,24,25,26] [] [qe2,qe7,qe0,ZCV,ZB9,qe2,qe0,qe0,qe2,qe0,qe0] [qo1] 2 [1,5,6,8,17,18,19] [] [qe2,qe7,qe0,ZB9,qe2,qe0,qe0] [qo1] Zsp (ZuC (ZqR n0)) (fun _=> .nil) <|
.nil) <|
.nil
theorem ZHW:OK_ D53:=ok_ D53 Tryz.func144 ⟨ZCn,tr_⟩
def D54:=fd_ 101 Tryz.f101 [D53.sg,D20.sg] [qa9,qa9] [ZEi] Zo2 .nil
theorem ZGm:OK_ D54:=ok_ D54 Tryz.func101 ⟨ZHW,ZDx,tr_⟩
def D55:=fd_ 102 Tryz.f102 [] [qa9] [ZEi] Zr5 <|
.j 911 [2] [] [qe3] [ZIs] ZtU <|
.nil
theorem ZHV:OK_ D55:=ok_ D55 Tryz.func102
def D56:=fd_ 142 Tryz.f142 [D39.sg,D36.sg,D18.sg] [qa0,qa0] [qr3] Zsw <|
.lo 9410111 [0,1,5,6,20,21] [] [qe2,qe2,qe7,ZCV,qe0,qe0] [qo1] 0 [5,6] [] [qe7,ZCV] [qo1] ZsI ZuY (fun _=> .nil) <|
.nil
theorem ZHU:OK_ D56:=ok_ D56 Tryz.func142 ⟨ZH1,ZH2,ZCn,tr_⟩
def D57:=fd_ 143 Tryz.f143 [D39.sg,D35.sg,D18.sg] [qa0,qa0] [qr3] ZrX <|
.lo 9410111 [0,1,5,6,12,13] [] [qe2,qe2,qe7,ZCV,qe0,qe0] [qo1] 0 [5] [] [qe7] [qo1] Zsr ZuE (fun _=> .nil) <|
.nil
theorem ZLN:OK_ D57:=ok_ D57 Tryz.func143 ⟨ZH1,ZH3,ZCn,tr_⟩
def D58:=fd_ 100 Tryz.f100 [D56.sg,D20.sg,D28.sg,D57.sg] [qa9,qa9] [ZEi] Zvw .nil
theorem ZHT:OK_ D58:=ok_ D58 Tryz.func100 ⟨ZHU,ZDx,ZGn,ZLN,tr_⟩
def D59:=fd_ 65 Tryz.f65 [D52.sg,D54.sg,D55.sg,D58.sg] [qa4,qa4] [qr2] Zvx <|
.j 9101 [2,3,13] [] [qe3,qe4,qe8] [ZCz,ZCz] ZwD <|
.nil
theorem ZGl:OK_ D59:=ok_ D59 Tryz.func65 ⟨ZEw,ZGm,ZHV,ZHT,tr_⟩
def D60:=fd_ 57 Tryz.f57 [D46.sg,D59.sg] [qa4] [qr2] Zxh .nil
theorem ZGk:OK_ D60:=ok_ D60 Tryz.func57 ⟨ZCm,ZGl,tr_⟩
def D61:=fd_ 176 Tryz.f176 [] [] [.map (.int .i64) (.st 6)] ZzA .nil
theorem ZHS:OK_ D61:=ok_ D61 Tryz.func176
def D63:=fd_ 210 Tryz.f210 [(233,Zyg.sig)] [qa7] [ZEJ] ZyD .nil
theorem ZLM:OK_ D63:=ok_ D63 Tryz.func210 ⟨ZyP,tr_⟩
def D64:=fd_ 273 Tryz.f273 [] [qa7,qa7] [qr6] ZpC <|
.j 911 [4] [] [qe8] [] ZpV <|
.nil
theorem ZHR:OK_ D64:=ok_ D64 Tryz.func273
def D65:=fd_ 259 Tryz.f259 [D64.sg] [qa7,qa7] [ZEJ,qr6] ZrD .nil
theorem ZLL:OK_ D65:=ok_ D65 Tryz.func259 ⟨ZHR,tr_⟩
def D66:=fd_ 237 Tryz.f237 [D65.sg] [qa7,qa7] [ZEJ,qr6] Zu7 .nil
theorem ZLK:OK_ D66:=ok_ D66 Tryz.func237 ⟨ZLL,tr_⟩
def D67:=fd_ 260 Tryz.f260 [D64.sg] [qa7,qa7] [ZEJ] Zrq .nil
theorem ZLJ:OK_ D67:=ok_ D67 Tryz.func260 ⟨ZHR,tr_⟩
def D68:=fd_ 238 Tryz.f238 [D67.sg] [qa7,qa7] [ZEJ] ZuJ .nil
theorem ZLI:OK_ D68:=ok_ D68 Tryz.func238 ⟨ZLJ,tr_⟩
def D70:=fd_ 272 Tryz.f272 [(288,ZtV.sig)] [qa7,qa7] [qr2] Zra <|
.j 914011 [0,1,5,16] [] [ZCA,ZCA,qe0,qe8] [] Zqu <|
.nil
theorem ZLH:OK_ D70:=ok_ D70 Tryz.func272 ⟨ZwW,tr_⟩
def D71:=fd_ 261 Tryz.f261 [D70.sg] [qa7,qa7] [ZEJ,ZEJ,qr6] ZtZ .nil
theorem ZLG:OK_ D71:=ok_ D71 Tryz.func261 ⟨ZLH,tr_⟩
def D72:=fd_ 239 Tryz.f239 [D71.sg] [qa7,qa7] [ZEJ,ZEJ,qr6] Zxo .nil
theorem ZHQ:OK_ D72:=ok_ D72 Tryz.func239 ⟨ZLG,tr_⟩
def D73:=fd_ 240 Tryz.f240 [(233,Zyg.sig)] [qa7,qa1] [qr6] Zu1 <|
.j 911 [4] [] [qe8] [] ZsZ <|
.nil
theorem ZLF:OK_ D73:=ok_ D73 Tryz.func240 ⟨ZyP,tr_⟩
def D74:=fd_ 215 Tryz.f215 [D66.sg,D68.sg,D72.sg,D73.sg,D29.sg,D53.sg,D19.sg,D56.sg,D20.sg,D43.sg] [qa7] [qr5,qr6] ZsK <|
.j 9111 [2,4,5] [] [qe3,ZCA,qe8] qp3 Zsx <|
.j 9101111 [2,5,6,7,39] [] [qe3,qe8,ZCA,ZCA,qe8] qp3 Zq7 <|
.lo 941011111111 [2,5,7,9,10,11,47,48,49] [9,10] [qe3,qe8,ZCA,qe2,qe2,ZMj,ZIu,qe0,qe0] [qo5,qo1,.arr (.int .u8) false,qo1,qo1] 0 [2,5,7,9,10,11] [] [qe3,qe8,ZCA,qe2,qe2,ZMj] [.box [.o (.v .bool),.o (.full (0,3,1)),.o (.v .bool),.o (.full (0,4,1))],qo1,qo1,qo1] Zuf Zwr (fun _=> .nil) <|
.lo 9410111111111 [2,5,9,10,11,63,64] [11] [qe3,qe8,qe2,qe2,qe2,qe0,qe0] qp3 2 [2,5,9,11] [] [qe3,qe8,qe2,qe2] qp3 Zue Zwq (fun _=> .nil) <|
.nil
theorem ZHP:OK_ D74:=ok_ D74 Tryz.func215 ⟨ZLK,ZLI,ZHQ,ZLF,ZH4,ZHW,ZH6,ZHU,ZDx,ZEy,tr_⟩
def D77:=fd_ 243 Tryz.f243 [] [ZIv] [ZEJ] ZxB <|
.lr 941011 [3,6,7,8] [] [ZCA,ZIt,qe0,qe0] [] 0 [3] [] [ZCA] [] Zug ZyT (fun _=> .nil) <|
.nil
theorem ZLE:OK_ D77:=ok_ D77 Tryz.func243
def D78:=fd_ 216 Tryz.f216 [D74.sg,(241,Zym.sig),D72.sg,(242,Zyb.sig),D77.sg] [qa7] [ZEJ,qr6] Zv4 <|
.j 9111111 [0,9] [] [ZCA,ZCA] [] Zrd <|
.j 910111111 [9,43] [] qs7 [] ZvQ <|
.j 91111111 [9] [] [ZCA] [] ZvP <|
.nil
theorem ZLD:OK_ D78:=ok_ D78 Tryz.func216 ⟨ZHP,ZzH,ZHQ,Zzu,ZLE,tr_⟩
noncomputable def D79:FD U:=⟨175,Tryz.f175,[D61.sg,D63.sg,D78.sg],[qa1,qa7],[],[ZEJ,qr6],[],[(26,2)],Ztj,Ztj,
.nil⟩
theorem ZLC:OK_ D79:=ok_ D79 Tryz.func175 ⟨ZHS,ZLM,ZLD,tr_⟩
noncomputable def D80:FD U:=⟨137,Tryz.f137,[D79.sg,D61.sg,D74.sg],[qa1,qa7],[],[qr5,qr6],[],[(22,2)],Zxl,Zxl,
.nil⟩
theorem ZLB:OK_ D80:=ok_ D80 Tryz.func137 ⟨ZLC,ZHS,ZHP,tr_⟩
def D81:=fd_ 97 Tryz.f97 [D46.sg,D80.sg] [.p (.st 0)] [qr5,qr6] ZzB .nil
theorem ZLA:OK_ D81:=ok_ D81 Tryz.func97 ⟨ZCm,ZLB,tr_⟩
noncomputable def D82:FD U:=⟨60,Tryz.f60,[D81.sg,D47.sg],[ZJW],[],[qr5],[],[],Zxq,ZsX,
.lo 941011 [2,3,4,10,11,12] [] [qe3,qe0,qe0,ZHp,qe0,qe0] qp3 0 [2,3,4] [] [qe3,qe0,qe0] qp3 Zsu Zwf (fun n0=> .j 9111541011 [2,3,4,10,11,12] [] [qe3,qe0,qe0,ZHp,qe0,qe0] qp3 (Zsv (Zsu n0)) <|
.nil) <|
.nil⟩
theorem ZLz:OK_ D82:=ok_ D82 Tryz.func60 ⟨ZLA,ZEx,tr_⟩ (hw:=by funext x_;exact ZwX _)
def D83:=fd_ 136 Tryz.f136 [D54.sg,D58.sg] [qa4,qa4] [ZEi,ZEi] ZyJ .nil
theorem ZLy:OK_ D83:=ok_ D83 Tryz.func136 ⟨ZGm,ZHT,tr_⟩
def D84:=fd_ 104 Tryz.f104 [D52.sg,D83.sg,D43.sg] [.fn 136 [] [],qa4,qa4] [qr5,qr2] Zql <|
.j 9101 [0,4,5,6,18] [] [.fn 136 [] [],qe3,qe4,qe9,qe8] [ZCz,ZCz,qo5,qo1,qo1] ZqD <|
.nil
theorem ZHO:OK_ D84:=ok_ D84 Tryz.func104 ⟨ZEw,ZLy,ZEy,tr_⟩
def D85:=fd_ 96 Tryz.f96 [D52.sg,D55.sg,D84.sg] [qa4,qa4] [qr5,qr2] ZxY .nil
theorem ZLx:OK_ D85:=ok_ D85 Tryz.func96 ⟨ZEw,ZHV,ZHO,tr_⟩
def D86:=fd_ 67 Tryz.f67 [] [qa4,qa1] [qr5] Zw7 .nil
theorem ZGj:OK_ D86:=ok_ D86 Tryz.func67
def D87:=fd_ 59 Tryz.f59 [D85.sg,D86.sg] [qa4,qa4] [qr5] Zzf .nil
theorem ZLw:OK_ D87:=ok_ D87 Tryz.func59 ⟨ZLx,ZGj,tr_⟩
def D88:=fd_ 98 Tryz.f98 [D84.sg] [qa4,qa4] [qr5,qr2] Zw1 .nil
theorem ZLv:OK_ D88:=ok_ D88 Tryz.func98 ⟨ZHO,tr_⟩
def D89:=fd_ 61 Tryz.f61 [D88.sg,D86.sg] [qa4,qa4] [qr5] ZyE .nil
theorem ZHN:OK_ D89:=ok_ D89 Tryz.func61 ⟨ZLv,ZGj,tr_⟩
def D90:=fd_ 103 Tryz.f103 [D54.sg] [qa4,qa4] [ZEi,ZEi] ZyK .nil
theorem ZLu:OK_ D90:=ok_ D90 Tryz.func103 ⟨ZGm,tr_⟩
def D91:=fd_ 104 Tryz.f104 [D52.sg,D90.sg,D43.sg] [.fn 103 [] [],qa4,qa4] [qr5,qr2] ZsT <|
.j 9101 [0,4,5,6,18] [] [.fn 103 [] [],qe3,qe4,qe9,qe8] [ZCz,ZCz,qo5,qo1,qo1] Zqe <|
.nil
theorem ZLt:OK_ D91:=ok_ D91 Tryz.func104 ⟨ZEw,ZLu,ZEy,tr_⟩
def D92:=fd_ 68 Tryz.f68 [D91.sg] [qa4,qa4] [qr5,qr2] ZxZ .nil
theorem ZLs:OK_ D92:=ok_ D92 Tryz.func68 ⟨ZLt,tr_⟩
def D93:=fd_ 30 Tryz.f30 [D92.sg,D86.sg] [qa4,qa4] [qr5] ZzZ .nil
theorem ZHM:OK_ D93:=ok_ D93 Tryz.func30 ⟨ZLs,ZGj,tr_⟩
def D94:=fd_ 28 Tryz.f28 [D49.sg,D51.sg,D60.sg,D46.sg,D82.sg,D87.sg,D89.sg,D47.sg,D93.sg] [ZJW,ZJW] [qr5] Zxr <|
.j 91011 [2,3,4,5,6,24] [] [qe3,qe4,qe9,ZJV,.o (.ptr (0,5,1) 0 0),qe8] [.boxS (.st 1),.boxS (.st 1),qo26,ZCz,ZCz,qo1,qo1] ZsH <|
.j 911111 [4,5,6,7] [] [qe3,qe4,qe9,ZJV] [ZJU,ZCz,ZCz,ZCz,qo1,qo1] Zt9 <|
.nil
theorem ZLr:OK_ D94:=ok_ D94 Tryz.func28 ⟨ZLP,ZLO,ZGk,ZCm,ZLz,ZLw,ZHN,ZEx,ZHM,tr_⟩
def D95:=fd_ 62 Tryz.f62 [D60.sg] [.p (.sl (.sl (.st 4)))] [qr2] ZvZ <|
.lr 941011 [0,14,15,16] [] [ZEK,ZEK,qe0,qe0] [] 0 [0] [] [ZEK] [] Zuj Zwv (fun _=> .nil) <|
.lr 9410111 [0,24,25,26] [] [ZEK,ZEK,qe0,qe0] [] 2 [0] [] [ZEK] [] Zui Zwu (fun _=> .nil) <|
.lr 94101111 [38,39,40] [] [ZEK,qe0,qe0] [] 4 [] [] [] [] Zsy Zws (fun n0=> .lr 9411401154101111 [38,39,40,44,45,46] [] [ZEK,qe0,qe0,.o (.v (.sl (.st 4))),qe0,qe0] [] 6 [38,39,40] [] [ZEK,qe0,qe0] [] Zuh (Zwt (Zsy n0)) (fun _=> .nil) <|
.nil) <|
.nil
theorem ZLq:OK_ D95:=ok_ D95 Tryz.func62 ⟨ZGk,tr_⟩
noncomputable def ZJ2 (n_:Nat):FD U:=⟨63,Tryz.f63,[],[.boxr (.sl (.sl (.st 4))) 3,.p (.int .i64),.p (.int .i64),.hmap (.st 7) (.st 4)],[(3,.map (.st 7) (.st 4))],[.p (.st 4)],[],[],ZoQ n_,ZoQ n_,
.nil⟩
noncomputable def ZMs (n_:Nat):FD U:=⟨64,Tryz.f64,[D60.sg,D46.sg,(ZJ2 n_).sg,D89.sg],[.boxr (.sl (.sl (.st 4))) 4,.p (.int .i64),.p (.int .i64),.p (.int .i64),.hmap (.st 7) (.st 4)],[(4,.map (.st 7) (.st 4))],[.p (.st 4),.p .bool],[],[],Zqb (ZoQ n_),Zqb (ZoQ n_),
.j 9101 [0,1,2,3,8,28] [] [.o (.rp (.sl (.sl (.st 4))) (0,4,0)),qe0,qe0,qe0,qe3,qe8] [ZJT,qo10,qo1,qo1] (ZpM (ZoQ n_)) <|
.nil⟩
theorem ZGi (n_:Nat) (ih:Zez X0.E 63 (ZJ2 n_).sig):Zez X0.E 64 (ZMs n_).sig:=(ZMs n_).ok G0 Tryz.func64 ⟨ZGk,ZCm,ih,ZHN,trivial⟩ rfl rfl (by kernel_rfl)
noncomputable def D97c (n_:Nat):FD U:=⟨63,Tryz.f63,[D46.sg,(ZJ2 n_).sg,(ZMs n_).sg,D59.sg],[.boxr (.sl (.sl (.st 4))) 3,.p (.int .i64),.p (.int .i64),.hmap (.st 7) (.st 4)],[(3,.map (.st 7) (.st 4))],[.p (.st 4)],[],[],Zt4 (ZoQ n_),ZoQ (n_+1),
.lo 941011111 [0,1,2,6,7,10,48,49] [] [ZMl,qe0,qe0,qe3,qe4,qe9,qe0,qe0] qp2 0 [0,6,7,10] [] [ZMl,qe3,qe4,qe9] qp2 (ZoZ (ZoQ n_)) (ZtH (ZoQ n_)) (fun n0=> .j 91114011541011111 [0,1,2,6,7,10,12,48,49,66] [] [ZMl,qe0,qe0,qe3,qe4,qe9,ZJV,qe0,qe0,qe8] [ZJT,ZJU,.boxS (.st 7),ZCz,ZCz,qo1,qo1] ((Zqn (ZoQ n_)) ((ZoZ (ZoQ n_)) n0)) <|
.j 9111541011111 [0,1,2,6,7,10,48,49] [] [ZMl,qe0,qe0,qe3,qe4,qe9,qe0,qe0] qp2 ((Zqm (ZoQ n_)) ((ZoZ (ZoQ n_)) n0)) <|
.nil) <|
.nil⟩
theorem ZJh (n_:Nat):Zez X0.E 63 (ZJ2 n_).sig:=by
 induction n_ with
 |zero=>
  refine ZkU.ok (S:=(ZJ2 0).FS) uok fun v r h=> ?_
  have h2:(none:Option _)=some r:=h;cases h2
 |succ n_ ih=>exact(D97c n_).ok G0 Tryz.func63 ⟨ZCm,ih,ZGi n_ ih,ZGl,trivial⟩ rfl rfl (by kernel_rfl)
noncomputable abbrev D97:FD U:=ZJ2 big
theorem ZHL:Zez X0.E 63 D97.sig:=ZJh big
noncomputable abbrev D96:FD U:=ZMs big
theorem ZLp:Zez X0.E 64 D96.sig:=ZGi big ZHL
def D98:=fd_ 66 Tryz.f66 [] [qa4] [qr5] ZAH .nil
theorem ZLo:OK_ D98:=ok_ D98 Tryz.func66
def D99:=fd_ 29 Tryz.f29 [D95.sg,D97.sg,D96.sg,D59.sg,D98.sg] [.p (.sl (.sl (.st 4)))] [.own (.int .i64),qr5,qr2] ZwG <|
.lo 941011111 [3,6,7,8,26,27,28] [200006] [qe3,ZKh,ZIu,qe0,ZEK,qe0,qe0] qp5 0 [3,6,7] [] [qe3,ZKh,ZIu] qp5 Zp3 ZwT (fun n0=> .lo 9410114011541011111 [3,6,7,8,9,11,12,26,27,28,38,39] [] [qe3,ZKh,ZIu,qe0,qe0,ZJV,qe0,ZEK,qe0,qe0,qe0,qe0] [ZJU,ZJT,ZMI,ZCz,qo1,qo1] 2 [3,6,7,8,12,26,27,28] [] [qe3,ZKh,ZIu,qe0,qe0,ZEK,qe0,qe0] qp5 ZpF (ZwU (Zp3 n0)) (fun n1=> .j 911140115410114011541011111 [3,6,7,8,9,11,12,13,26,27,28,38,39,56] [] [qe3,ZKh,ZIu,qe0,qe0,ZJV,qe0,qe0,ZEK,qe0,qe0,qe0,qe0,qe8] [ZJU,ZJT,ZMI,ZCz,qo1,qo1] (ZrA (ZpF n1)) <|
.nil) <|
.nil) <|
.nil
theorem ZLn:OK_ D99:=ok_ D99 Tryz.func29 ⟨ZLq,ZHL,ZLp,ZGl,ZLo,tr_⟩
def ZMA:=fd_ 10 Tryz.f10 [D11.sg,D94.sg,D99.sg,D47.sg,D93.sg] [ZHq,ZHq] [.own (.int .i64),qr5,qr2] Zq1 <|
.j 91401 [2,3,5,16] [] [qe3,qe4,qe9,qe8] [ZAy,ZAy,qo5,qo1,qo1] ZtN <|
.j 9131401 [2,3,5,26] [] [qe3,qe4,qe9,qe8] [ZAy,ZAy,qo5,qo1,qo1] ZtM <|
.lo 9410111 [2,3,5,7,39,40,41] [] [qe3,qe4,qe9,ZMi,ZFA,qe0,qe0] [ZAy,ZAy,ZJU,ZMg,qo1,qo1] 1 [2,3,5,7] [] [qe3,qe4,qe9,ZMi] [ZAy,ZAy,ZJU,ZMg,qo1,qo1] ZrP ZvD (fun n0=> .lo 94101140115410111 [2,3,5,7,9,10,39,40,41,47,48,49] [] [qe3,qe4,qe9,ZMi,.o (.ptr (0,5,1) 0 0),.o (.full (0,6,1)),ZFA,qe0,qe0,ZFA,qe0,qe0] [ZAy,ZAy,.box [.o (.v .bool),.o (.full (0,7,1)),.o (.v .bool),.o (.full (0,8,1))],ZMg,.boxS (.st 1),.arr (.st 4) false,qo1,qo1] 3 [2,3,5,7,10,39,40,41] [] [qe3,qe4,qe9,ZMi,.o (.full (0,5,1)),ZFA,qe0,qe0] [ZAy,ZAy,qo26,ZMg,.arr (.st 4) false,qo1,qo1] ZtL (ZvE (ZrP n0)) (fun _=> .nil) <|
.nil) <|
.nil
theorem ZGv:OK_ ZMA:=ok_ ZMA Tryz.func10 ⟨ZH7,ZLr,ZLn,ZEx,ZHM,tr_⟩
def ZNK:=fd_ 70 Tryz.f70 [] [ZHr,qa1] [qr2] ZvH <|
.lr 94101 [0,1,7,8] [] [ZBT,qe0,qe0,qe0] [] 0 [] [] [] [] ZqQ ZuA (fun _=> .nil) <|
.nil
theorem ZJS:OK_ ZNK:=ok_ ZNK Tryz.func70
def ZNJ:=fd_ 32 Tryz.f32 [ZNK.sg] [ZHr,qa1] [qr6] Zso .nil
theorem ZJR:OK_ ZNJ:=ok_ ZNJ Tryz.func32 ⟨ZJS,tr_⟩
def ZNI:=fd_ 71 Tryz.f71 [] [.p (.sl (.st 1))] [.own (.st 1)] ZpO <|
.j 9101 [0,4] [] [ZFA,qe8] [] Zo7 <|
.nil
theorem ZJQ:OK_ ZNI:=ok_ ZNI Tryz.func71
def ZNH:=fd_ 72 Tryz.f72 [] [.p (.sl (.st 0))] [.own (.st 0)] Zqc <|
.j 9101 [0,4] [] [ZHp,qe8] [] Zpd <|
.nil
theorem ZJP:OK_ ZNH:=ok_ ZNH Tryz.func72
noncomputable def ZNG:FD U:=⟨34,Tryz.f34,[ZNI.sg,ZNH.sg],[ZHq],[],[.aoown 2 2 (.st 1) 1 (.st 0)],[2000011],[],ZyF,ZyF,
.lo 941011 [1,2,10,11,12] [] [qe3,qe4,ZIu,qe0,qe0] [ZMh,qo6,ZKg,ZHo] 0 [1,2] [] [qe3,qe4] [ZMh,qo6,ZKg,ZHo] ZxX Zy8 (fun _=> .nil) <|
.nil⟩
theorem ZJO:OK_ ZNG:=ok_ ZNG Tryz.func34 ⟨ZJQ,ZJP,tr_⟩
def ZNF:=fd_ 108 Tryz.f108 [] [ZKi,ZKi] [ZKf,ZKf] Zzg .nil
theorem ZJN:OK_ ZNF:=ok_ ZNF Tryz.func108
def ZNE:=fd_ 73 Tryz.f73 [ZNF.sg] [ZKi,ZKi] [ZKf,ZKf] Zz0 .nil
theorem ZJM:OK_ ZNE:=ok_ ZNE Tryz.func73 ⟨ZJN,tr_⟩
def ZND:=fd_ 35 Tryz.f35 [ZNE.sg] [.p (.sl (.st 0)),qa1] [.own (.st 0)] Zpz <|
.j 910111 [0,6,26] [] [ZHp,ZB9,qe8] [] ZqP <|
.lo 940111111 [7,8] [] [qe7,qe0] [ZHn] 0 [7] [] [qe7] [ZHn] ZqO Zti (fun _=> .nil) <|
.nil
theorem ZJL:OK_ ZND:=ok_ ZND Tryz.func35 ⟨ZJM,tr_⟩
def ZMz:=fd_ 11 Tryz.f11 [D11.sg,ZNJ.sg,D5.sg,ZNG.sg,ZND.sg] [ZHq,ZHq,ZHr] [.p (.st 2),qr2] Zr0 <|
.j 9101 [2,3,4,6,31] [] [ZBT,qe3,qe4,qe9,qe8] qp0 ZrO <|
.lr 941011 [2,3,4,6,33,34,35] [] [ZBT,qe3,qe4,qe9,ZBT,qe0,qe0] qp0 0 [2,3,4,6] [] [ZBT,qe3,qe4,qe9] qp0 ZrM ZvC (fun n0=> .j 9114011541011 [2,3,4,6,33,34,35,47] [] [ZBT,qe3,qe4,qe9,ZBT,qe0,qe0,qe8] qp0 (ZtK (ZrM n0)) <|
.nil) <|
.lr 9410111 [2,3,4,6,50,51,52] [] [ZBT,qe3,qe4,qe9,ZBT,qe0,qe0] qp0 2 [2,3,4,6] [] [ZBT,qe3,qe4,qe9] qp0 ZrL ZvB (fun n0=> .j 91140115410111 [2,3,4,6,50,51,52,65] [] [ZBT,qe3,qe4,qe9,ZBT,qe0,qe0,qe8] qp0 (ZtJ (ZrL n0)) <|
.nil) <|
.lo 9410111111 [4,6,12,77,78,79] [] [qe3,qe4,qe9,ZBT,qe0,qe0] [ZAy,qo6,qo32,ZHo,ZKg] 4 [6,12] [] [qe3,qe4] [ZMh,qo6,ZHo,ZKg] ZrK ZvA (fun n0=> .j 911140115410111111 [4,6,12,13,15,77,78,79] [15] [qe3,qe4,qe9,qe0,ZHp,ZBT,qe0,qe0] [ZAy,qo6,qo32,ZHo,ZKg] (ZrN (ZrK n0)) <|
.nil) <|
.nil
theorem ZGu:OK_ ZMz:=ok_ ZMz Tryz.func11 ⟨ZH7,ZJR,ZJi,ZJO,ZJL,tr_⟩
def ZNC:=fd_ 25 Tryz.f25 [] [ZHr,ZHr] [qr6] Ztm <|
.lr 941011 [1,12,13,14] [] [ZBT,ZBT,qe0,qe0] [] 0 [] [] [] [] Zss Zu4 (fun _=> .nil) <|
.nil
theorem ZJK:OK_ ZNC:=ok_ ZNC Tryz.func25
def ZH8:=fd_ 111 Tryz.f111 [] [qa0] [qr3] Zpe <|
.lo 9401 [0] [] [qe2] [] 0 [0] [] [qe2] [] Zpt ZwM (fun n0=> .j 9105401 [0,14] [] [qe2,qe8] [] (ZtW (Zpt n0)) <|
.nil) <|
.nil
theorem ZA8:OK_ ZH8:=ok_ ZH8 Tryz.func111
def ZJJ:=fd_ 77 Tryz.f77 [ZH8.sg] [.p .bool,qa0] [ZEi] Zo9 <|
.j 9111 [4] [] [qe3] [ZIs] Zsi <|
.nil
theorem ZBR:OK_ ZJJ:=ok_ ZJJ Tryz.func77 ⟨ZA8,tr_⟩
def ZMy:=fd_ 113 Tryz.f113 [ZJJ.sg] [qa1] [ZEi] ZpR <|
.j 9111 [0,2,3] [] [qe0,qe3,ZB9] [qo39,qo1] ZqW <|
.nil
theorem ZGt:OK_ ZMy:=ok_ ZMy Tryz.func113 ⟨ZBR,tr_⟩
def ZMx:=fd_ 74 Tryz.f74 [] [qa9] [qr6] ZpI <|
.j 9111 [2] [] [qe8] [] Zpf <|
.nil
theorem ZGs:OK_ ZMx:=ok_ ZMx Tryz.func74
def ZNB:=fd_ 109 Tryz.f109 [ZH8.sg] [qa0] [qr3] ZpS <|
.lo 941011 [0,3,9,10] [] [qe2,qe7,qe0,qe0] [qo1] 0 [3] [] [qe7] [qo1] Zqx ZtX (fun n0=> .j 9111541011 [0,3,9,10] [] [qe2,qe7,qe0,qe0] [qo1] (Zqy (Zqx n0)) <|
.nil) <|
.nil
theorem ZJI:OK_ ZNB:=ok_ ZNB Tryz.func109 ⟨ZA8,tr_⟩
def ZJ4:=fd_ 75 Tryz.f75 [] [qa0,qa0] [qr2] Zpq <|
.lr 941011 [0,1,5] [] qs1 [] 0 [] [] [] [] Zsh Zuw (fun _=> .nil) <|
.nil
theorem ZCS:OK_ ZJ4:=ok_ ZJ4 Tryz.func75
def ZMb:=fd_ 79 Tryz.f79 [ZH8.sg] [qa0,qa0] [qr3] Zp4 <|
.lo 9410111 [0,1,5,6,7] [] [qe2,qe2,qe7,qe0,qe0] [qo1] 0 [5] [] [qe7] [qo1] ZqG Zun (fun n0=> .j 9114015410111 [0,1,5,6,7] [] [qe2,qe2,qe7,qe0,qe0] [qo1] (ZqH (ZqG n0)) <|
.nil) <|
.nil
theorem ZD1:OK_ ZMb:=ok_ ZMb Tryz.func79 ⟨ZA8,tr_⟩
def ZMw:=fd_ 110 Tryz.f110 [ZH8.sg] [qa0,qa8] [qr3] Zq2 <|
.lo 941011 [0,1,5,6] [] [qe2,ZCV,qe7,qe0] [qo1] 0 [1,5] [] [ZCV,qe7] [qo1] Zre Ztn (fun _=> .nil) <|
.nil
theorem ZGr:OK_ ZMw:=ok_ ZMw Tryz.func110 ⟨ZA8,tr_⟩
def ZMv:=fd_ 76 Tryz.f76 [ZNB.sg,ZJ4.sg,ZMb.sg,ZMw.sg] [qa0,qa0] [qr3] ZrQ <|
.lo 94011 [0,1,5] [] qs1 [] 0 [0,1,5] [] qs1 [] Zp1 Zuu (fun n0=> .j 91054011 [0,1,5,17] [] [qe2,qe2,qe0,qe8] [] (Zsg (Zp1 n0)) <|
.nil) <|
.lo 940111 [0,1,5] [] qs1 [] 2 [0,5] [] [qe2,qe0] [] Zo3 Zur (fun n0=> .lo 94041540111 [0,1,5] [] qs1 [] 4 [0,1,5] [] qs1 [] Zpn (Zut (Zo3 n0)) (fun _=> .nil) <|
.lo 940141540111 [0,1,5] [] qs1 [] 6 [0,1,5] [] qs1 [] Zpm (Zus (Zo3 n0)) (fun _=> .nil) <|
.j 911141540111 [0,1,5] [] qs1 [] (Zsf (Zo3 n0)) <|
.nil) <|
.lo 9401111 [0,5] [] [qe2,qe0] [] 8 [0] [] [qe2] [] Zp0 Zuq (fun _=> .nil) <|
.nil
theorem ZGq:OK_ ZMv:=ok_ ZMv Tryz.func76 ⟨ZJI,ZCS,ZD1,ZGr,tr_⟩
def ZNA:=fd_ 225 Tryz.f225 [] [qa0,qa1] [ZFz] ZtP .nil
theorem ZJH:OK_ ZNA:=ok_ ZNA Tryz.func225
def ZNz:=fd_ 184 Tryz.f184 [ZNA.sg,ZMw.sg,ZJ4.sg,ZMb.sg,ZH8.sg] [qa0,qa0] [qr3,qr3] ZrR <|
.lo 941011 [0,1,4,5,6] [5] [qe2,qe2,qe7,qe2,qe0] [qo1] 0 [4,5] [] [qe7,qe2] [qo1] ZqJ Zuv (fun n0=> .j 911541011 [0,1,4,5,6] [] [qe2,qe2,qe7,qe2,qe0] [qo1] (ZqK (ZqJ n0)) <|
.nil) <|
.nil
theorem ZJG:OK_ ZNz:=ok_ ZNz Tryz.func184 ⟨ZJH,ZGr,ZCS,ZD1,ZA8,tr_⟩
def ZNy:=fd_ 147 Tryz.f147 [ZMy.sg,ZMv.sg,ZNz.sg,ZJJ.sg] [qa9,qa9] [qr5] Zse .nil
theorem ZJF:OK_ ZNy:=ok_ ZNy Tryz.func147 ⟨ZGt,ZGq,ZJG,ZBR,tr_⟩
def ZNx:=fd_ 112 Tryz.f112 [ZMx.sg,ZNy.sg] [qa9,qa9] [qr5,qr2] Zs6 <|
.j 9101 [2,3,4,13] [] [qe3,qe4,qe9,qe8] [ZIs,ZIs,qo5,qo1,qo1] ZrF <|
.nil
theorem ZJE:OK_ ZNx:=ok_ ZNx Tryz.func112 ⟨ZGs,ZJF,tr_⟩
def ZNw:=fd_ 81 Tryz.f81 [ZMy.sg,ZNx.sg] [qa1,qa1] [qr5,qr2] Zt5 .nil
theorem ZJD:OK_ ZNw:=ok_ ZNw Tryz.func81 ⟨ZGt,ZJE,tr_⟩
noncomputable def ZNv:FD U:=⟨40,Tryz.f40,[ZNw.sg],[qa1,qa1],[],[qr5],[],[],Zu6,Zsc,
.nil⟩
theorem ZJC:OK_ ZNv:=ok_ ZNv Tryz.func40 ⟨ZJD,tr_⟩ (hw:=by funext x_;funext x_;exact ZwX _)
noncomputable def ZMa:FD U:=⟨15,Tryz.f15,[ZNv.sg],[qa1],[],[qr5],[],[],ZvF,ZpG,
.nil⟩
theorem ZD0:OK_ ZMa:=ok_ ZMa Tryz.func15 ⟨ZJC,tr_⟩ (hw:=by funext x_;exact ZwX _)
def ZNu:=fd_ 45 Tryz.f45 [] [qa9,qa9] [qr6] Zqw <|
.j 9101 [2,3,20] [] [qe3,qe4,qe8] [ZIs,ZIs] ZqU <|
.lr 941011 [3,22,23,24] [] [qe3,qe2,qe0,qe0] [ZIs] 0 [] [] [] [] ZqT ZsN (fun _=> .nil) <|
.nil
theorem ZJB:OK_ ZNu:=ok_ ZNu Tryz.func45
def ZNt:=fd_ 21 Tryz.f21 [ZNu.sg] [qa4,qa4] [qr6] Zs2 <|
.j 911 [4] [] [qe8] [] ZrE <|
.nil
theorem ZJA:OK_ ZNt:=ok_ ZNt Tryz.func21 ⟨ZJB,tr_⟩
def ZMu:=fd_ 16 Tryz.f16 [] [ZHq] [qr2] Zqs .nil
theorem ZGp:OK_ ZMu:=ok_ ZMu Tryz.func16
def ZNs:=fd_ 7 Tryz.f7 [ZMA.sg,ZMz.sg,ZNC.sg,ZMa.sg,ZNt.sg,ZMu.sg] [] [qr6] Zq4 <|
.j 9111111 [0] [] [qe8] [] Zpp <|
.nil
theorem ZJz:OK_ ZNs:=ok_ ZNs Tryz.func7 ⟨ZGv,ZGu,ZJK,ZD0,ZJA,ZGp,tr_⟩
def ZNr:=fd_ 8 Tryz.f8 [] [ZHr] [.box (.st 9)] Zwd .nil
theorem ZJy:OK_ ZNr:=ok_ ZNr Tryz.func8
def ZNq:=fd_ 19 Tryz.f19 [] [qa1,qa1] [qr2] ZuI .nil
theorem ZJx:OK_ ZNq:=ok_ ZNq Tryz.func19
noncomputable def ZJw:FD U:=⟨17,Tryz.f17,[ZNq.sg],[ZJX,qa1],[(0,.box (.st 9))],[qr2],[],[],ZoX,ZoX,
.nil⟩
theorem ZBQ:OK_ ZJw:=ok_ ZJw Tryz.func17 ⟨ZJx,tr_⟩
noncomputable def ZJ3:FD U:=⟨18,Tryz.f18,[ZJw.sg],[ZJX,ZIv],[(0,.box (.st 9))],[ZEJ],[],[],Zpc,Zpc,
.nil⟩
theorem ZCR:OK_ ZJ3:=ok_ ZJ3 Tryz.func18 ⟨ZBQ,tr_⟩
noncomputable def ZNp:FD U:=⟨47,Tryz.f47,[ZJw.sg,ZJ3.sg],[ZJX],[(0,.box (.st 9))],[.p (.st 0)],[],[],Zst,Zst,
.nil⟩
theorem ZJv:OK_ ZNp:=ok_ ZNp Tryz.func47 ⟨ZBQ,ZCR,tr_⟩
noncomputable def ZNo:FD U:=⟨48,Tryz.f48,[ZJw.sg,ZJ3.sg,(49,Zyh.sig)],[ZJX],[(0,.box (.st 9))],[.p (.st 0)],[],[],Zrl,Zrl,
.nil⟩
theorem ZJu:OK_ ZNo:=ok_ ZNo Tryz.func48 ⟨ZBQ,ZCR,ZyQ,tr_⟩
noncomputable def ZNn:FD U:=⟨26,Tryz.f26,[ZJ3.sg,ZJw.sg,ZNp.sg,ZNo.sg,(49,Zyh.sig)],[ZJX,qa1],[(0,.box (.st 9))],[.p (.st 1)],[],[],Zrm,Zrm,
.lo 9410111 [0,4,5,6,15,16] [] [ZMk,qe3,qe4,qe0,qe0,qe0] [ZMf,qo40,ZMJ,ZHn,ZHn] 0 [4,5] [] [qe3,qe4] [ZMf,qo40,ZMJ,ZHn,ZHn] Zqz ZtY (fun n0=> .j 911140115410111 [0,4,5,6,8,15,16] [] [ZMk,qe3,qe4,qe0,qe9,qe0,qe0] [ZMf,ZMJ,.box [.o (.v .str),.o (.full (0,5,1))],.boxS (.st 0),ZHn,ZHn] (Zpu (Zqz n0)) <|
.nil) <|
.nil⟩
theorem ZJt:OK_ ZNn:=ok_ ZNn Tryz.func26 ⟨ZCR,ZBQ,ZJv,ZJu,ZyQ,tr_⟩
noncomputable def ZNm:FD U:=⟨9,Tryz.f9,[ZJ3.sg,ZJw.sg,ZNn.sg],[ZJX,qa1],[(0,.box (.st 9))],[.p (.st 2)],[],[],ZqE,ZqE,
.lo 9410111 [0,4,5,6,7] [] [ZMk,qe3,qe4,qe0,qe0] qp4 0 [0,4,5] [] [ZMk,qe3,qe4] qp4 Zsk Zuy (fun _=> .nil) <|
.j 911111 [4,5] [] [qe3,qe4] qp4 Zsl <|
.nil⟩
theorem ZJs:OK_ ZNm:=ok_ ZNm Tryz.func9 ⟨ZCR,ZBQ,ZJt,tr_⟩
def ZNl:=fd_ 13 Tryz.f13 [ZMa.sg] [] [qr5] Zs1 .nil
theorem ZJr:OK_ ZNl:=ok_ ZNl Tryz.func13 ⟨ZD0,tr_⟩
def ZNk:=fd_ 36 Tryz.f36 [ZMx.sg,ZJ4.sg,ZMv.sg] [qa4] [qr6] Zq3 <|
.j 9101 [1,24] [] [qe3,qe8] [ZCz] ZpH <|
.nil
theorem ZJq:OK_ ZNk:=ok_ ZNk Tryz.func36 ⟨ZGs,ZCS,ZGq,tr_⟩
def ZNj:=fd_ 80 Tryz.f80 [ZH8.sg] [qa0,qa0] [qr3] ZtO <|
.lo 941011 [0,1,5,6] [] [qe2,qe2,qe7,qe0] [qo1] 0 [5] [] [qe7] [qo1] ZqI Zuo (fun n0=> .lo 94101401541011 [0,1,5,6,7,8] [] [qe2,qe2,qe7,qe0,ZB9,qe0] [qo1] 2 [0,1,5,6,7] [] [qe2,qe2,qe7,qe0,ZB9] [qo1] Zsd (Zup (ZqI n0)) (fun _=> .nil) <|
.nil) <|
.nil
theorem ZJp:OK_ ZNj:=ok_ ZNj Tryz.func80 ⟨ZA8,tr_⟩
def ZNi:=fd_ 38 Tryz.f38 [ZNj.sg,ZJJ.sg] [qa9,qa9] [ZEi] ZpJ .nil
theorem ZJo:OK_ ZNi:=ok_ ZNi Tryz.func38 ⟨ZJp,ZBR,tr_⟩
def ZNh:=fd_ 39 Tryz.f39 [ZJJ.sg] [qa9] [ZEi] ZsF .nil
theorem ZJn:OK_ ZNh:=ok_ ZNh Tryz.func39 ⟨ZBR,tr_⟩
def ZNg:=fd_ 78 Tryz.f78 [] [qa0,qa0] [.own (.int .u32)] ZrS <|
.lo 9410111 [0,1,5,6,7] [] qs6 [qo1] 0 [5,6] [] [qe7,ZB9] [qo1] ZpA Zux (fun n0=> .j 9105410111 [0,1,5,6,7,17] [] [qe2,qe2,qe7,ZB9,qe0,qe8] [qo1] (Zp2 (ZpA n0)) <|
.j 914015410111 [0,1,5,6,7] [] qs6 [qo1] (ZqM (ZpA n0)) <|
.j 9114015410111 [0,1,5,6,7] [] qs6 [qo1] (ZqL (ZpA n0)) <|
.nil) <|
.nil
theorem ZJm:OK_ ZNg:=ok_ ZNg Tryz.func78
def ZNf:=fd_ 37 Tryz.f37 [ZNg.sg,ZJJ.sg,ZJ4.sg,ZMb.sg] [qa9,qa9] [ZEi] Zs5 .nil
theorem ZJl:OK_ ZNf:=ok_ ZNf Tryz.func37 ⟨ZJm,ZBR,ZCS,ZD1,tr_⟩
def ZMt:=fd_ 14 Tryz.f14 [ZNk.sg,ZNi.sg,ZNh.sg,ZNf.sg] [qa4,qa4] [qr2] ZrT <|
.j 9101 [2,3,13] [] [qe3,qe4,qe8] [ZCz,ZCz] Zsj <|
.nil
theorem ZGo:OK_ ZMt:=ok_ ZMt Tryz.func14 ⟨ZJq,ZJo,ZJn,ZJl,tr_⟩
def ZNe:=fd_ 12 Tryz.f12 [ZMt.sg] [qa4,qa4] [qr6] Zs3 .nil
theorem ZJk:OK_ ZNe:=ok_ ZNe Tryz.func12 ⟨ZGo,tr_⟩
def D149:=fd_ 3 Tryz.f3 [D0.sg,ZNs.sg,ZNr.sg,ZNm.sg,ZMA.sg,ZMz.sg,ZNl.sg,ZNe.sg,ZMa.sg,ZMt.sg,ZMu.sg] [ZHr] [qr6] ZqN <|
.j 910111111 [4,5,6,9,75] [] [qe3,qe4,ZBT,qe9,qe8] [ZAy,ZAy,ZAy] ZoV <|
.lr 941011111111 [4,5,6,11,12,81,82,83] [] [qe3,qe4,ZBT,qe0,qe0,ZFA,qe0,qe0] [ZAy,ZAy] 0 [] [] [] [] ZoY Zqi (fun n0=> .j 91014011541011111111 [4,5,6,11,12,13,14,81,82,83,105] [] [qe3,qe4,ZBT,qe0,qe0,qe0,qe9,ZFA,qe0,qe0,qe8] [ZAy,ZAy,.boxS (.st 1)] (Zpy (ZoY n0)) <|
.lr 941114011541011111111 [4,5,6,11,12,13,81,82,83,107,108,109] [] [qe3,qe4,ZBT,qe0,qe0,qe0,ZFA,qe0,qe0,ZHp,qe0,qe0] [ZAy,ZAy] 2 [4,5,6,11,12,81,82,83] [] [qe3,qe4,ZBT,qe0,qe0,ZFA,qe0,qe0] [ZAy,ZAy] Zpg (Zqj (ZoY n0)) (fun n1=> .j 91114011541114011541011111111 [4,5,6,11,12,13,16,17,81,82,83,107,108,109] [] [qe3,qe4,ZBT,qe0,qe0,qe0,qe9,ZJV,ZFA,qe0,qe0,ZHp,qe0,qe0] [ZAy,ZAy,.boxS (.st 0),.boxS (.st 0)] (Zo6 (Zpg n1)) <|
.nil) <|
.nil) <|
.nil
theorem D149_ok:OK_ D149:=ok_ D149 Tryz.func3 ⟨ZNL,ZJz,ZJy,ZJs,ZGv,ZGu,ZJr,ZJk,ZD0,ZGo,ZGp,tr_⟩
end
end Go.Proofs

/- Printed by wip/tools/tgen.py: walks. -/
import Derived.Test.YtdonkbljnbaacaaGreatDoorUtU
import Derived.Test.YtdonkbljnbaacaaGreatDoorUtX
import Derived.Test.YtdonkbljnbaacaaGreatDoorUtWX
set_option linter.unusedVariables false
set_option linter.unusedSimpArgs false
set_option linter.unusedSectionVars false
namespace Go.Proofs
open Go Eng
set_option maxRecDepth 100000
noncomputable section
abbrev c:Sh:= .o (.v (.int .i64))
abbrev i:ShO:= .arr (.int .u32) false
abbrev e:Sh:= .o (.ptr (0,1,1) 0 0)
abbrev k:Sh:= .o (.v (.sl (.int .u32)))
abbrev l:Sh:= .o (.ptr (0,2,1) 0 0)
abbrev d:Sh:= .o (.v .bool)
abbrev aE:ShO:= .box [.o (.v .bool),.o (.full (0,4,1)),.o (.v .bool),.o (.full (0,5,1))]
abbrev an:ShO:= .box [.o (.v (.int .i64)),.o (.v .str),.o (.full (0,4,1))]
abbrev bC:ShO:= .box [.o (.v .bool),.o (.full (0,2,1)),.o (.v .bool),.o (.full (0,3,1))]
abbrev H:Sh:= .o (.ptr (0,3,1) 0 0)
abbrev q:Sh:= .o (.full (0,1,1))
abbrev aA:ShO:= .box [.o (.v (.int .i64)),.o (.v .str),.o (.full (0,3,1))]
abbrev z:ShO:= .boxS (.st 2)
abbrev m:Sh:= .o (.v .str)
abbrev M:Sh:= .o (.v (.sl (.sl (.st 4))))
abbrev K:Sh:= .o (.v (.sl (.int .i64)))
abbrev Y:ShO:= .arr (.int .i64) false
abbrev aF:ShO:= .box [.o (.v .bool),.o (.full (0,5,1)),.o (.v .bool),.o (.full (0,6,1))]
abbrev T:ShO:= .arr (.st 1) false
abbrev aW:ShO:= .box [.o (.v .bool),.o (.full (0,6,1)),.o (.v .bool),.o (.full (0,7,1))]
abbrev J:Sh:= .o (.v (.sl .str))
abbrev L:ShO:= .boxS (.st 4)
abbrev aa:Sh:= .o (.v (.sl (.st 2)))
abbrev bD:ShO:= .box [.o (.v (.int .i64)),.o (.v (.int .i64)),.o (.v .str),.o (.full (0,4,1))]
abbrev Q:Sh:= .o (.v (.int .u64))
abbrev W:Sh:= .o (.v (.sl (.st 1)))
abbrev ad:Sh:= .o (.full (0,3,1))
abbrev bR:ShO:= .box [.o (.v (.int .i64)),.o (.v (.int .i64)),.o (.v .str),.o (.full (0,3,1))]
abbrev aG:ShO:= .map (.st 7) (.st 4)
abbrev aQ:ShO:= .box [.o (.v (.int .i64)),.o (.v .str),.o (.full (0,5,1))]
abbrev X:Sh:= .o (.v (.int .u32))
abbrev ak:Sh:= .o (.ptr (0,0,0) 0 0)
abbrev al:Sh:= .o (.ptr (0,4,1) 0 0)
abbrev ar:Sh:= .o (.full (0,2,1))
abbrev au:Sh:= .o (.v (.sl (.st 0)))
abbrev ah:ShO:= .arr (.st 11) false
abbrev ai:ShO:= .boxS (.st 9)
abbrev af:ShO:= .boxS (.st 3)
abbrev bE:ShO:= .box [.o (.v .bool),.o (.full (0,7,1)),.o (.v .bool),.o (.full (0,8,1))]
abbrev aH:Sh:= .o (.v (.sl (.st 4)))
abbrev aB:Sh:= .o (.full (0,4,1))
abbrev aR:ShO:= .boxS (.st 10)
abbrev ba:ShO:= .arr (.sl (.st 4)) false
abbrev aX:Sh:= .o (.rp (.sl (.sl (.st 4))) (0,2,1))
abbrev av:Sh:= .o (.sl (0,0,0))
abbrev aw:ShO:= .arr (.st 0) false
abbrev aK:Sh:= .o (.full (0,5,1))
abbrev bF:ShO:= .box [.o (.v .bool),.o (.full (0,3,1)),.o (.v .bool),.o (.full (0,4,1))]
abbrev aL:Sh:= .o (.v (.sl (.st 11)))
abbrev bb:Sh:= .o (.rp (.sl (.sl (.st 4))) (0,3,0))
abbrev ax:ShO:= .arr .str false
abbrev bc:Sh:= .o (.ptr (0,5,1) 0 0)
abbrev aS:ShO:= .arr (.int .u8) false
abbrev bp:ShO:= .box [.o (.v .str),.o (.full (0,4,1))]
abbrev aY:Sh:= .o (.map (0,2,1))
abbrev aZ:ShO:= .own (.st 1) 1 (.st 0)
abbrev aM:ShO:= .boxS (.st 1)
abbrev a0:Sh:= .o (.full (0,0,0))
abbrev bd:ShO:= .arr (.sl (.st 2)) false
abbrev bG:ShO:= .boxS (.st 7)
abbrev bH:ShO:= .box [.o (.v .bool),.o (.full (0,2,1))]
abbrev bI:ShO:= .box [.o (.v .str),.o (.full (0,3,1))]
abbrev be:ShO:= .arr (.st 2) false
abbrev bq:ShO:= .arr (.st 4) false
abbrev a1:Sh:= .fn 50 [] []
abbrev bJ:Sh:= .o (.map (0,3,0))
abbrev ab:List ShO:=[bC,i,i]
abbrev a2:List ShO:=[aW,aG,L,L,Y,i,i]
abbrev aT:List ShO:=[aG,aE,bG,L,i,i]
abbrev ay:List ShO:=[z,aR,Y]
abbrev bK:List Sh:=[M,e,aY,c,H,al,aK,c,aH,c,M,c,c,aH,c,c]
abbrev ag:List Sh:=[m,d]
abbrev bL:List Sh:=[e,l,H,aB,bc,.o (.full (0,6,1)),W,c,c,W,c,c]
abbrev aN:List ShO:=[z,z,an,T]
abbrev aI:List Sh:=[e,l,H,d]
abbrev az:List Sh:=[k,k,c]
abbrev a3:List ShO:=[ai,bR,bD,Y,Y]
abbrev bf:List ShO:=[z,z,aF,ba,i,i]
abbrev a4:List ShO:=[L,L,aE,i,i]
abbrev bh:List Sh:=[c,e,ar,aa,c,c]
abbrev bi:List Sh:=[e,c,c,au,c,c]
abbrev br:List Sh:=[e,l,ad,c,c,d,c,c]
abbrev bM:List Sh:=[J,J,e,c,m,J,c,c,J,c,c]
abbrev a5:List ShO:=[aA,an,T,T]
abbrev bN:List Sh:=[e,l,ad,c,c,d,c,c,ad,c,c]
abbrev bs:List Sh:=[K,e,l,H,K,c,c]
abbrev bO:List Sh:=[c,e,ar,H,aB,bc,aa,c,c,d]
abbrev bj:List ShO:=[z,z,aE,i,i]
abbrev bP:List Sh:=[M,c,c,bJ,e,l,H,aH,c,c]
abbrev bQ:List ShO:=[z,z,bE,ba,aM,bq,i,i]
abbrev aU:List Sh:=[e,l,d]
abbrev aC:List Sh:=[e,l]
abbrev a6:List ShO:=[z,aA,T]
abbrev bk:List Sh:=[M,M,c,c]
abbrev bl:List Sh:=[d,m,m,d]
abbrev bt:List ShO:=[ai,aA,an,T,T]
abbrev a7:List Sh:=[d,m,m]
abbrev bm:List Sh:=[aa,c,e,d]
abbrev bu:List Sh:=[k,k,q,Q,c]
abbrev bv:List ShO:=[aE,aG,Y,i,i]
abbrev bw:List ShO:=[aE,af,af,i,i]
abbrev bx:List Sh:=[e,l,ad,c,c]
abbrev bz:List Sh:=[c,c,c,c,c]
abbrev y:ShA:= .p (.int .i64)
abbrev u:ShR:= .p (.int .i64)
abbrev I:ShA:= .p (.sl (.int .u32))
abbrev A:ShR:= .p (.st 4)
abbrev B:ShA:= .p (.st 4)
abbrev n:ShR:= .p .bool
abbrev G:ShA:= .p .str
abbrev ac:ShR:= .p (.sl (.int .u32))
abbrev N:ShA:= .p (.st 2)
abbrev O:ShA:= .p (.st 3)
abbrev ae:ShA:= .p (.int .u32)
abbrev ao:ShA:= .p (.sl (.int .i64))
abbrev ap:ShR:= .p (.int .u32)
abbrev aq:ShA:= .p (.sl .str)
abbrev aj:ShR:= .p (.st 3)
abbrev V:ShR:= .p .str
abbrev am:ShA:= .p (.st 1)
abbrev aO:ShA:= .p (.sl (.st 2))
abbrev bn:ShA:= .p (.sl (.sl (.st 4)))
abbrev aD:ShA:= .box (.st 9)
abbrev aP:ShA:= .p (.int .u64)
abbrev a8:ShR:= .own (.int .i64)
abbrev aJ:ShR:= .p (.st 2)
abbrev a9:ShR:= .p (.int .u64)
abbrev aV:ShA:= .p (.st 0)
abbrev bo:ShA:= .arr (.st 11)
abbrev bA:ShA:= .p (.sl (.st 11))
abbrev bB:ShA:= .part (.int .u32)
noncomputable abbrev fd_ (f:Nat) (fn:Func) (sg:List (Nat×ZjE U)) (a:List ShA) (r:List ShR) (s:ZjA (Zke U a []) (Option (HT (oTy U [] r)))) (t:CT U (HT (oTy U [] r)) (HT (oTy U [] r))):FD U:=⟨f,fn,sg,a,[],r,[],[],s,s,t⟩
abbrev OK_ (D:FD U):Prop:=Zez X0.E D.f D.sig
theorem ok_ (D:FD U) (hf:X0.prog.funcs[D.f]? =some D.fn) (hs:Zdd X0 D.sigs:=by trivial) (h:D.lhs X0=D.rhs2:=by kernel_rfl) (ha:D.os.any (fun x=>isAr x.2)=false:=by rfl) (hw:D.w=D.s:=by rfl):OK_ D:=D.ok2 G0 hf hs ha hw h
theorem ZT7 (D:FD U) (hf:X0.prog.funcs[D.f]? =some D.fn) (hs:Zdd X0 D.sigs:=by trivial) (h:D.lhs X0=D.rhs2:=by kernel_rfl) (hw:(fun v=>app (Zke U D.as []) D.w (Zl8 (r:=[]) D.as v ()))=fun v=>(app (Zke U D.as []) D.s (Zl8 (r:=[]) D.as v ())).bind fun r=>chk (Zid (Zdr D.as v) (D.b r)) (some r):=by kernel_rfl):OK_ D:=D.okA2 G0 hf hs hw h
theorem tr_:True:=trivial
def D0:=fd_ 6 Tryz.f6 [] [ao] [n] ZBR .nil
theorem Z2g:OK_ D0:=ok_ D0 Tryz.func6
def D1:=fd_ 196 Tryz.f196 [] [G] [a9] ZoM .nil
theorem Z1a:OK_ D1:=ok_ D1 Tryz.func196
def D2:=fd_ 145 Tryz.f145 [D1.sg] [G] [n] Zpz <|
.lr 9401 [0] [] [m] [] 0 [] [] [] [] Zlq Zww (fun n0=> .j 91012101415401 [0,24] [] ag [] (Zqz (Zlq n0)) <|
.j 91121012101415401 [0,39] [] ag [] (Zqy (Zlq n0)) <|
.lo 94121121012101415401 [0] [] [m] [] 2 [0] [] [m] [] ZpD (Zwx (Zlq n0)) (fun n1=> .j 91054121121012101415401 [0,62] [] ag [] (ZsI (ZpD n1)) <|
.nil) <|
.j 9112101415401 [0] [] [m] [] (Zqx (Zlq n0)) <|
.j 910214111111415401 [0,94] [] ag [] (ZpE (Zlq n0)) <|
.j 91021314111111415401 [0,125] [] ag [] (Zo2 (Zlq n0)) <|
.j 9102131314111111415401 [0,166] [] ag [] (Zoy (Zlq n0)) <|
.nil) <|
.nil
theorem ZZe:OK_ D2:=ok_ D2 Tryz.func145 ⟨Z1a,tr_⟩
def D3:=fd_ 106 Tryz.f106 [D2.sg] [G] [n] ZIb .nil
theorem Z0W:OK_ D3:=ok_ D3 Tryz.func106 ⟨ZZe,tr_⟩
def D4:=fd_ 60 Tryz.f60 [D3.sg] [G] [n] ZD6 <|
.j 911 [2] [] [d] [] ZEf <|
.nil
theorem ZUY:OK_ D4:=ok_ D4 Tryz.func60 ⟨Z0W,tr_⟩
def D5:=fd_ 43 Tryz.f43 [] [N] [u] ZAY .nil
theorem ZUX:OK_ D5:=ok_ D5 Tryz.func43
def D6:=fd_ 64 Tryz.f64 [D4.sg] [aV] [n] ZDd <|
.j 911 [2] [] [d] [] Zw3 <|
.nil
theorem Z0V:OK_ D6:=ok_ D6 Tryz.func64 ⟨ZUY,tr_⟩
def D7:=fd_ 63 Tryz.f63 [D6.sg] [.p (.sl (.st 0)),.fn 64 [] []] [n] ZyT <|
.lr 94101 [1,7,8,9] [] [.fn 64 [] [],au,c,c] [] 0 [] [] [] [] ZvS Zz7 (fun _=> .nil) <|
.nil
theorem Z0U:OK_ D7:=ok_ D7 Tryz.func63 ⟨Z0V,tr_⟩
def D8:=fd_ 62 Tryz.f62 [D4.sg,D5.sg,D7.sg] [am,.ptr (.st 2)] [n] ZEg <|
.j 911 [3] [] [d] [] Zzt <|
.nil
theorem Z0T:OK_ D8:=ok_ D8 Tryz.func62 ⟨ZUY,ZUX,Z0U,tr_⟩
def D9:=fd_ 107 Tryz.f107 [D8.sg] [.p (.sl (.st 1)),.fn 62 [] [.pp (.st 2)]] [u] Zq4 <|
.lr 94101 [0,1,7,8] [] [W,.fn 62 [] [.pp (.st 2)],c,c] [] 0 [] [] [] [] Zpn Zqu (fun _=> .nil) <|
.nil
theorem Z0S:OK_ D9:=ok_ D9 Tryz.func107 ⟨Z0T,tr_⟩
def D10:=fd_ 61 Tryz.f61 [D9.sg] [.p (.sl (.st 1)),.fn 62 [] [.pp (.st 2)]] [n] Zpo .nil
theorem ZZy:OK_ D10:=ok_ D10 Tryz.func61 ⟨Z0S,tr_⟩
def D11:=fd_ 31 Tryz.f31 [D4.sg,D5.sg,D10.sg] [N] [n] ZrL <|
.j 9101 [1,27] [] [e,d] [z] ZwU <|
.nil
theorem ZOG:OK_ D11:=ok_ D11 Tryz.func31 ⟨ZUY,ZUX,ZZy,tr_⟩
def D13:=fd_ 270 Tryz.f270 [] [G] [n] ZCp .nil
theorem ZZs:OK_ D13:=ok_ D13 Tryz.func270
def D14:=fd_ 230 Tryz.f230 [D13.sg] [G,G] [n] ZDj <|
.j 911 [4] [] [d] [] Zw7 <|
.nil
theorem ZZr:OK_ D14:=ok_ D14 Tryz.func230 ⟨ZZs,tr_⟩
def D15:=fd_ 231 Tryz.f231 [] [G] [n] Zzu .nil
theorem ZZq:OK_ D15:=ok_ D15 Tryz.func231
def D16:=fd_ 197 Tryz.f197 [D14.sg,D15.sg] [aq,G] [u,n] Zqv <|
.lo 940111 [0,1,6,7,8] [] [J,m,c,c,c] [] 0 [0,1,6,7] [] [J,m,c,c] [] ZpU ZrN (fun _=> .nil) <|
.j 911111 [4,5] [] [c,d] [] ZoX <|
.nil
theorem ZZp:OK_ D16:=ok_ D16 Tryz.func197 ⟨ZZr,ZZq,tr_⟩
def D17:=fd_ 146 Tryz.f146 [D16.sg] [aq,aq] [u] ZA3 <|
.lo 941011 [1,5,10,11,12] [] [J,c,J,c,c] [] 0 [5] [] [c] [] Zu4 ZBV (fun n0=> .j 9111541011 [1,5,10,11,12] [] [J,c,J,c,c] [] (ZyU (Zu4 n0)) <|
.nil) <|
.nil
theorem ZZo:OK_ D17:=ok_ D17 Tryz.func146 ⟨ZZp,tr_⟩
def D18:=fd_ 211 Tryz.f211 [] [I] [ac] Zpl <|
.lo 9401 [0] [] [k] [] 0 [0] [] [k] [] Zql ZCX (fun n0=> .j 9105401 [0,14] [] [k,d] [] (Zzx (Zql n0)) <|
.nil) <|
.nil
theorem ZLz:OK_ D18:=ok_ D18 Tryz.func211
def D19:=fd_ 169 Tryz.f169 [D18.sg] [aP] [ac] Zwt .nil
theorem ZTl:OK_ D19:=ok_ D19 Tryz.func169 ⟨ZLz,tr_⟩
def D20:=fd_ 164 Tryz.f164 [] [.p .bool,I] [aj] Zpu <|
.j 911 [4] [] [e] [bH,i] ZAp <|
.nil
theorem ZMZ:OK_ D20:=ok_ D20 Tryz.func164
def D21:=fd_ 121 Tryz.f121 [D19.sg,D20.sg] [y] [aj] ZzA .nil
theorem ZZj:OK_ D21:=ok_ D21 Tryz.func121 ⟨ZTl,ZMZ,tr_⟩
def D22:=fd_ 206 Tryz.f206 [] [O] [n] Zyz <|
.j 9111 [2] [] [d] [] ZpZ <|
.nil
theorem ZZi:OK_ D22:=ok_ D22 Tryz.func206
def D23:=fd_ 161 Tryz.f161 [D22.sg] [.p (.sl (.st 3))] [n] ZC1 <|
.lr 94101 [5,6,7] [] [.o (.v (.sl (.st 3))),c,c] [] 0 [] [] [] [] ZCo ZGJ (fun _=> .nil) <|
.nil
theorem ZTk:OK_ D23:=ok_ D23 Tryz.func161 ⟨ZZi,tr_⟩
def D24:=fd_ 139 Tryz.f139 [] [y] [n] ZC4 .nil
theorem ZZh:OK_ D24:=ok_ D24 Tryz.func139
def D25:=fd_ 100 Tryz.f100 [D24.sg] [y,y] [u] Zvn .nil
theorem ZTj:OK_ D25:=ok_ D25 Tryz.func100 ⟨ZZh,tr_⟩
def D26:=fd_ 257 Tryz.f257 [] [ae] [n] ZEs .nil
theorem ZZg:OK_ D26:=ok_ D26 Tryz.func257
def D27:=fd_ 208 Tryz.f208 [D26.sg] [ae,ae] [u] ZDB .nil
theorem ZZf:OK_ D27:=ok_ D27 Tryz.func208 ⟨ZZg,tr_⟩
def D28:=fd_ 163 Tryz.f163 [D25.sg,D27.sg] [I,I] [u] Zqe <|
.lr 941011 [0,1,6] [] az [] 0 [] [] [] [] Zul Zyw (fun _=> .nil) <|
.nil
theorem ZQU:OK_ D28:=ok_ D28 Tryz.func163 ⟨ZTj,ZZf,tr_⟩
def D29:=fd_ 252 Tryz.f252 [] [I] [.own (.int .u32)] Zqi <|
.j 9101 [0,4] [] [k,d] [] Zkb <|
.nil
theorem ZTi:OK_ D29:=ok_ D29 Tryz.func252
def D30:=fd_ 290 Tryz.f290 [] [ae,ae,ae] [ap,ap] ZDh <|
.j 9101 [0,1,2,15] [] [X,X,X,d] [] Zw5 <|
.nil
theorem ZZd:OK_ D30:=ok_ D30 Tryz.func290
def D31:=fd_ 253 Tryz.f253 [D30.sg,D18.sg] [I,ae] [ac,ap] ZyV <|
.lo 9410111 [0,1,6,7,8] [] [k,X,q,X,c] [i] 0 [6,7] [] [q,X] [i] ZvW ZAb (fun _=> .nil) <|
.nil
theorem ZZc:OK_ D31:=ok_ D31 Tryz.func253 ⟨ZZd,ZLz,tr_⟩
def D32:=fd_ 190 Tryz.f190 [] [ae] [u] ZDg <|
.j 911 [0,2] [] [X,c] [] ZAn <|
.j 9111 [0,2] [] [X,c] [] Zuq <|
.nil
theorem ZZb:OK_ D32:=ok_ D32 Tryz.func190
def D33:=fd_ 254 Tryz.f254 [D32.sg] [ae] [u] ZuJ .nil
theorem ZZa:OK_ D33:=ok_ D33 Tryz.func254 ⟨ZZb,tr_⟩
def D34:=fd_ 255 Tryz.f255 [] [I,y] [.own (.int .u32)] Zra <|
.lo 941011 [1,5,13,14,15] [] [c,q,k,c,c] [i] 0 [5] [] [q] [i] Zuj Zyu (fun _=> .nil) <|
.nil
theorem ZY9:OK_ D34:=ok_ D34 Tryz.func255
def D35:=fd_ 212 Tryz.f212 [] [ae,ae,ae] [ap,ap] ZxQ .nil
theorem ZTh:OK_ D35:=ok_ D35 Tryz.func212
def D36:=fd_ 209 Tryz.f209 [] [ae,ae,ae] [ap,ap] ZAI .nil
theorem ZTg:OK_ D36:=ok_ D36 Tryz.func209
noncomputable def D37:FD U:=⟨256,Tryz.f256,[D35.sg,D36.sg],[bB,I],[(0,.arr (.int .u32))],[ap],[],[],ZDS,ZCn,
.lo 94011111 [0,1,5,7,8] [] [av,k,c,Q,Q] [i] 0 [0,1,5,7] [] [av,k,c,Q] [i] Zvl ZBa (fun n0=> .j 91054011111 [0,1,5,7,8,71] [] [av,k,c,Q,Q,d] [i] (Zyy (Zvl n0)) <|
.nil) <|
.lo 941011111111 [0,1,5,7,9,10,82,83,84] [] [av,k,c,Q,X,Q,k,c,c] [i] 2 [0,1,5,7,9,10] [] [av,k,c,Q,X,Q] [i] ZA8 ZDV (fun _=> .nil) <|
.lo 941011111111111 [0,5,7,13,130,131,132] [] [av,c,Q,X,k,c,c] [i] 4 [0,5,7,13] [] [av,c,Q,X] [i] Zyx ZA9 (fun _=> .nil) <|
.nil⟩
theorem ZY8:OK_ D37:=ZT7 D37 Tryz.func256 ⟨ZTh,ZTg,tr_⟩
noncomputable def D38:FD U:=⟨211,Tryz.f211,[],[bB],[(0,.arr (.int .u32))],[.view 0],[],[],ZAo,ZyW,
.lo 9401 [0] [] [av] [i] 0 [0] [] [av] [i] Zun ZA7 (fun n0=> .j 9105401 [0,14] [] [av,d] [i] (ZxE (Zun n0)) <|
.nil) <|
.nil⟩
theorem ZY7:OK_ D38:=ZT7 D38 Tryz.func211
def D39:=fd_ 210 Tryz.f210 [] [I,y] [ap] Zvj .nil
theorem ZTf:OK_ D39:=ok_ D39 Tryz.func210
noncomputable def D40:FD U:=⟨210,Tryz.f210,[],[bB,y],[(0,.arr (.int .u32))],[ap],[],[],ZCW,ZxC,
.nil⟩
theorem ZY6:OK_ D40:=ZT7 D40 Tryz.func210
noncomputable def D41:FD U:=⟨207,Tryz.f207,[D28.sg,D29.sg,D31.sg,D18.sg,D33.sg,D34.sg,D37.sg,D38.sg,D40.sg],[I,I],[],[ac,ac],[],[(84,7)],Zrs,Zrs,
.lo 9410111111 [8,9,10,11,12,13] [11] [c,c,q,k,ar,c] [i,i] 1 [8,9,10,12] [] [c,c,q,ar] [i,i] Ztd ZAM (fun _=> .nil) <|
.lo 941011111111 [9,12,14,86,87] [] [c,q,.o (.sl (0,2,1)),c,c] [i,i] 3 [12,14] [] [q,.o (.sl (0,2,1))] [i,i] Ztc ZAL (fun _=> .nil) <|
.nil⟩
theorem ZTe:OK_ D41:=ok_ D41 Tryz.func207 ⟨ZQU,ZTi,ZZc,ZLz,ZZa,ZY9,ZY8,ZY7,ZY6,tr_⟩
def D42:=fd_ 162 Tryz.f162 [D41.sg] [I,I] [ac] Zum <|
.lo 9401 [0,1] [] [k,k] [] 0 [0] [] [k] [] ZpC Zzm (fun _=> .nil) <|
.nil
theorem ZTd:OK_ D42:=ok_ D42 Tryz.func162 ⟨ZTe,tr_⟩
def D43:=fd_ 168 Tryz.f168 [D42.sg,D41.sg,D20.sg] [O,O] [A] Zse .nil
theorem ZOF:OK_ D43:=ok_ D43 Tryz.func168 ⟨ZTd,ZTe,ZMZ,tr_⟩
def D44:=fd_ 120 Tryz.f120 [D23.sg,D43.sg] [O,O] [A,u] ZEp .nil
theorem ZY5:OK_ D44:=ok_ D44 Tryz.func120 ⟨ZTk,ZOF,tr_⟩
def D45:=fd_ 79 Tryz.f79 [D21.sg,D44.sg] [y,y] [A,u] ZEo .nil
theorem ZTc:OK_ D45:=ok_ D45 Tryz.func79 ⟨ZZj,ZY5,tr_⟩
def D46:=fd_ 68 Tryz.f68 [D45.sg] [] [A] ZBF .nil
theorem ZLy:OK_ D46:=ok_ D46 Tryz.func68 ⟨ZTc,tr_⟩
def D47:=fd_ 35 Tryz.f35 [D45.sg,D46.sg] [y,y] [A] ZEl .nil
theorem ZOE:OK_ D47:=ok_ D47 Tryz.func35 ⟨ZTc,ZLy,tr_⟩
def D48:=fd_ 108 Tryz.f108 [D17.sg,D47.sg] [aq,aq] [A] Zzv .nil
theorem ZTb:OK_ D48:=ok_ D48 Tryz.func108 ⟨ZZo,ZOE,tr_⟩
def D49:=fd_ 65 Tryz.f65 [(109,ZGR.sig),D48.sg] [am,am] [A] ZA4 .nil
theorem ZY4:OK_ D49:=ok_ D49 Tryz.func65 ⟨ZIw,ZTb,tr_⟩
def D51:=fd_ 66 Tryz.f66 [(110,ZFW.sig),D48.sg] [G,G] [A] ZCm .nil
theorem ZY3:OK_ D51:=ok_ D51 Tryz.func66 ⟨ZHR,ZTb,tr_⟩
def D52:=fd_ 114 Tryz.f114 [D23.sg,D42.sg,D28.sg] [B] [n] Zrx <|
.j 911 [2] [] [d] [] Zvm <|
.nil
theorem ZOD:OK_ D52:=ok_ D52 Tryz.func114 ⟨ZTk,ZTd,ZQU,tr_⟩
def D53:=fd_ 167 Tryz.f167 [D18.sg] [I,I] [ac] Zsg <|
.lo 941011 [1,5,17,18,19] [] [k,q,k,c,c] [i] 0 [5] [] [q] [i] ZsH Zz9 (fun n0=> .lo 9410114011541011 [1,5,6,7,8,17,18,19,24,25,26] [] [k,q,c,X,Q,k,c,c,k,c,c] [i] 2 [1,5,6,8,17,18,19] [] [k,q,c,Q,k,c,c] [i] ZvV (ZAa (ZsH n0)) (fun _=> .nil) <|
.nil) <|
.nil
theorem ZTa:OK_ D53:=ok_ D53 Tryz.func167 ⟨ZLz,tr_⟩
def D54:=fd_ 116 Tryz.f116 [D53.sg,D20.sg] [O,O] [aj] ZoK .nil
theorem ZQT:OK_ D54:=ok_ D54 Tryz.func116 ⟨ZTa,ZMZ,tr_⟩
def D55:=fd_ 117 Tryz.f117 [] [O] [aj] Zvk <|
.j 911 [2] [] [e] [af] ZyX <|
.nil
theorem ZS9:OK_ D55:=ok_ D55 Tryz.func117
def D56:=fd_ 165 Tryz.f165 [D39.sg,D36.sg,D18.sg] [I,I] [ac] Zv9 <|
.lo 9410111 [0,1,5,6,20,21] [] [k,k,q,X,c,c] [i] 0 [5,6] [] [q,X] [i] Zws ZAK (fun _=> .nil) <|
.nil
theorem ZS8:OK_ D56:=ok_ D56 Tryz.func165 ⟨ZTf,ZTg,ZLz,tr_⟩
def D57:=fd_ 166 Tryz.f166 [D39.sg,D35.sg,D18.sg] [I,I] [ac] Zu5 <|
.lo 9410111 [0,1,5,6,12,13] [] [k,k,q,X,c,c] [i] 0 [5] [] [q] [i] ZvX ZAc (fun _=> .nil) <|
.nil
theorem ZY2:OK_ D57:=ok_ D57 Tryz.func166 ⟨ZTf,ZTh,ZLz,tr_⟩
def D58:=fd_ 115 Tryz.f115 [D56.sg,D20.sg,D28.sg,D57.sg] [O,O] [aj] ZBG .nil
theorem ZS7:OK_ D58:=ok_ D58 Tryz.func115 ⟨ZS8,ZMZ,ZQU,ZY2,tr_⟩
def D59:=fd_ 75 Tryz.f75 [D52.sg,D54.sg,D55.sg,D58.sg] [B,B] [u] ZAe <|
.j 9101 [2,3,13] [] aU [L,L] ZDi <|
.nil
theorem ZOC:OK_ D59:=ok_ D59 Tryz.func75 ⟨ZOD,ZQT,ZS9,ZS7,tr_⟩
def D60:=fd_ 67 Tryz.f67 [D46.sg,D59.sg] [B] [u] ZDf .nil
theorem ZOB:OK_ D60:=ok_ D60 Tryz.func67 ⟨ZLy,ZOC,tr_⟩
def D61:=fd_ 205 Tryz.f205 [] [] [.map (.int .i64) (.st 6)] ZHG .nil
theorem ZS6:OK_ D61:=ok_ D61 Tryz.func205
def D63:=fd_ 243 Tryz.f243 [(274,ZFO.sig)] [G] [V] ZGm .nil
theorem ZY1:OK_ D63:=ok_ D63 Tryz.func243 ⟨ZGE,tr_⟩
def D64:=fd_ 314 Tryz.f314 [] [G,G] [n] ZpV <|
.j 911 [4] [] [d] [] Zqw <|
.nil
theorem ZS5:OK_ D64:=ok_ D64 Tryz.func314
def D65:=fd_ 300 Tryz.f300 [D64.sg] [G,G] [V,n] Zut .nil
theorem ZY0:OK_ D65:=ok_ D65 Tryz.func300 ⟨ZS5,tr_⟩
def D66:=fd_ 278 Tryz.f278 [D65.sg] [G,G] [V,n] ZA2 .nil
theorem ZYZ:OK_ D66:=ok_ D66 Tryz.func278 ⟨ZY0,tr_⟩
def D67:=fd_ 301 Tryz.f301 [D64.sg] [G,G] [V] Zuf .nil
theorem ZYY:OK_ D67:=ok_ D67 Tryz.func301 ⟨ZS5,tr_⟩
def D68:=fd_ 279 Tryz.f279 [D67.sg] [G,G] [V] ZAm .nil
theorem ZYX:OK_ D68:=ok_ D68 Tryz.func279 ⟨ZYY,tr_⟩
def D70:=fd_ 313 Tryz.f313 [(329,ZyY.sig)] [G,G] [u] Ztz <|
.j 914011 [0,1,5,16] [] [m,m,c,d] [] ZrO <|
.nil
theorem ZYW:OK_ D70:=ok_ D70 Tryz.func313 ⟨ZDF,tr_⟩
def D71:=fd_ 302 Tryz.f302 [D70.sg] [G,G] [V,V,n] Zzi .nil
theorem ZYV:OK_ D71:=ok_ D71 Tryz.func302 ⟨ZYW,tr_⟩
def D72:=fd_ 280 Tryz.f280 [D71.sg] [G,G] [V,V,n] ZEh .nil
theorem ZS4:OK_ D72:=ok_ D72 Tryz.func280 ⟨ZYV,tr_⟩
def D73:=fd_ 281 Tryz.f281 [(274,ZFO.sig)] [G,y] [n] ZAN <|
.j 911 [4] [] [d] [] Zw6 <|
.nil
theorem ZYU:OK_ D73:=ok_ D73 Tryz.func281 ⟨ZGE,tr_⟩
def D74:=fd_ 248 Tryz.f248 [D66.sg,D68.sg,D72.sg,D73.sg,D29.sg,D53.sg,D19.sg,D56.sg,D20.sg,D43.sg] [G] [A,n] Zwu <|
.j 9111 [2,4,5] [] [e,m,d] ab Zwa <|
.j 9101111 [2,5,6,7,39] [] [e,d,m,m,d] ab Zte <|
.lo 941011111111 [2,5,7,9,10,11,47,48,49] [9,10] [e,d,m,k,k,ar,ad,c,c] [aE,i,aS,i,i] 0 [2,5,7,9,10,11] [] [e,d,m,k,k,ar] [bF,i,i,i] ZzC ZC3 (fun _=> .nil) <|
.lo 9410111111111 [2,5,9,10,11,63,64] [11] [e,d,k,k,k,c,c] ab 2 [2,5,9,11] [] [e,d,k,k] ab ZzB ZC2 (fun _=> .nil) <|
.nil
theorem ZS3:OK_ D74:=ok_ D74 Tryz.func248 ⟨ZYZ,ZYX,ZS4,ZYU,ZTi,ZTa,ZTl,ZS8,ZMZ,ZOF,tr_⟩
def D77:=fd_ 284 Tryz.f284 [] [aq] [V] ZEt <|
.lr 941011 [3,6,7,8] [] [m,J,c,c] [] 0 [3] [] [m] [] ZzD ZGK (fun _=> .nil) <|
.nil
theorem ZYT:OK_ D77:=ok_ D77 Tryz.func284
def D78:=fd_ 249 Tryz.f249 [D74.sg,(282,ZFV.sig),D72.sg,(283,ZFw.sig),D77.sg] [G] [V,n] ZCs <|
.j 9111111 [0,9] [] [m,m] [] Zwh <|
.j 910111111 [9,43] [] ag [] ZB2 <|
.j 91111111 [9] [] [m] [] ZB1 <|
.nil
theorem ZYS:OK_ D78:=ok_ D78 Tryz.func249 ⟨ZS3,ZHQ,ZS4,ZHA,ZYT,tr_⟩
noncomputable def D79:FD U:=⟨204,Tryz.f204,[D61.sg,D63.sg,D78.sg],[y,G],[],[V,n],[],[(26,2)],ZxP,ZxP,
.nil⟩
theorem ZYR:OK_ D79:=ok_ D79 Tryz.func204 ⟨ZS6,ZY1,ZYS,tr_⟩
noncomputable def D80:FD U:=⟨160,Tryz.f160,[D79.sg,D61.sg,D74.sg],[y,G],[],[A,n],[],[(22,2)],ZEc,ZEc,
.nil⟩
theorem ZYQ:OK_ D80:=ok_ D80 Tryz.func160 ⟨ZYR,ZS6,ZS3,tr_⟩
def D81:=fd_ 112 Tryz.f112 [D46.sg,D80.sg] [aV] [A,n] ZHI .nil
theorem ZYP:OK_ D81:=ok_ D81 Tryz.func112 ⟨ZLy,ZYQ,tr_⟩
noncomputable def D82:FD U:=⟨70,Tryz.f70,[D81.sg,D47.sg],[am],[],[A],[],[],ZEj,Zw4,
.lo 941011 [2,3,4,10,11,12] [] bi ab 0 [2,3,4] [] [e,c,c] ab Zv7 ZCR (fun n0=> .j 9111541011 [2,3,4,10,11,12] [] bi ab (Zv8 (Zv7 n0)) <|
.nil) <|
.nil⟩
theorem ZYO:OK_ D82:=ok_ D82 Tryz.func70 ⟨ZYP,ZOE,tr_⟩ (hw:=by funext x_;exact ZDG _)
def D83:=fd_ 159 Tryz.f159 [D54.sg,D58.sg] [B,B] [aj,aj] ZGw .nil
theorem ZYN:OK_ D83:=ok_ D83 Tryz.func159 ⟨ZQT,ZS7,tr_⟩
def D84:=fd_ 119 Tryz.f119 [D52.sg,D83.sg,D43.sg] [.fn 159 [] [],B,B] [A,u] Zrt <|
.j 9101 [0,4,5,6,18] [] [.fn 159 [] [],e,l,H,d] a4 Zsf <|
.nil
theorem ZS2:OK_ D84:=ok_ D84 Tryz.func119 ⟨ZOD,ZYN,ZOF,tr_⟩
def D85:=fd_ 111 Tryz.f111 [D52.sg,D55.sg,D84.sg] [B,B] [A,u] ZE2 .nil
theorem ZYM:OK_ D85:=ok_ D85 Tryz.func111 ⟨ZOD,ZS9,ZS2,tr_⟩
def D86:=fd_ 77 Tryz.f77 [] [B,y] [A] ZDU .nil
theorem ZQS:OK_ D86:=ok_ D86 Tryz.func77
def D87:=fd_ 69 Tryz.f69 [D85.sg,D86.sg] [B,B] [A] ZHd .nil
theorem ZYL:OK_ D87:=ok_ D87 Tryz.func69 ⟨ZYM,ZQS,tr_⟩
def D88:=fd_ 113 Tryz.f113 [D84.sg] [B,B] [A,u] ZDO .nil
theorem ZYK:OK_ D88:=ok_ D88 Tryz.func113 ⟨ZS2,tr_⟩
def D89:=fd_ 71 Tryz.f71 [D88.sg,D86.sg] [B,B] [A] ZGq .nil
theorem ZS1:OK_ D89:=ok_ D89 Tryz.func71 ⟨ZYK,ZQS,tr_⟩
def D90:=fd_ 118 Tryz.f118 [D54.sg] [B,B] [aj,aj] ZGx .nil
theorem ZYJ:OK_ D90:=ok_ D90 Tryz.func118 ⟨ZQT,tr_⟩
def D91:=fd_ 119 Tryz.f119 [D52.sg,D90.sg,D43.sg] [.fn 118 [] [],B,B] [A,u] ZwY <|
.j 9101 [0,4,5,6,18] [] [.fn 118 [] [],e,l,H,d] a4 Zrf <|
.nil
theorem ZYI:OK_ D91:=ok_ D91 Tryz.func119 ⟨ZOD,ZYJ,ZOF,tr_⟩
def D92:=fd_ 78 Tryz.f78 [D91.sg] [B,B] [A,u] ZE3 .nil
theorem ZYH:OK_ D92:=ok_ D92 Tryz.func78 ⟨ZYI,tr_⟩
def D93:=fd_ 34 Tryz.f34 [D92.sg,D86.sg] [B,B] [A] ZIc .nil
theorem ZS0:OK_ D93:=ok_ D93 Tryz.func34 ⟨ZYH,ZQS,tr_⟩
def D94:=fd_ 32 Tryz.f32 [D49.sg,D51.sg,D60.sg,D46.sg,D82.sg,D87.sg,D89.sg,D47.sg,D93.sg] [am,am] [A] ZEk <|
.j 91011 [2,3,4,5,6,24] [] [e,l,H,al,bc,d] [aM,aM,aW,L,L,i,i] Zwr <|
.j 911111 [4,5,6,7] [] [e,l,H,al] [aF,L,L,L,i,i] Zzw <|
.nil
theorem ZYG:OK_ D94:=ok_ D94 Tryz.func32 ⟨ZY4,ZY3,ZOB,ZLy,ZYO,ZYL,ZS1,ZOE,ZS0,tr_⟩
def D95:=fd_ 72 Tryz.f72 [D60.sg] [bn] [u] ZCq <|
.lr 941011 [0,14,15,16] [] bk [] 0 [0] [] [M] [] ZzG ZC9 (fun _=> .nil) <|
.lr 9410111 [0,24,25,26] [] bk [] 2 [0] [] [M] [] ZzF ZC8 (fun _=> .nil) <|
.lr 94101111 [38,39,40] [] [M,c,c] [] 4 [] [] [] [] Zwb ZC6 (fun n0=> .lr 9411401154101111 [38,39,40,44,45,46] [] [M,c,c,aH,c,c] [] 6 [38,39,40] [] [M,c,c] [] ZzE (ZC7 (Zwb n0)) (fun _=> .nil) <|
.nil) <|
.nil
theorem ZYF:OK_ D95:=ok_ D95 Tryz.func72 ⟨ZOB,tr_⟩
noncomputable def ZWu (n_:Nat):FD U:=⟨73,Tryz.f73,[],[.boxr (.sl (.sl (.st 4))) 3,.p (.int .i64),.p (.int .i64),.hmap (.st 7) (.st 4)],[(3,.map (.st 7) (.st 4))],[.p (.st 4)],[],[],ZjT n_,ZjT n_,
.nil⟩
noncomputable def ZZQ (n_:Nat):FD U:=⟨74,Tryz.f74,[D60.sg,D46.sg,(ZWu n_).sg,D89.sg],[.boxr (.sl (.sl (.st 4))) 4,.p (.int .i64),.p (.int .i64),.p (.int .i64),.hmap (.st 7) (.st 4)],[(4,.map (.st 7) (.st 4))],[.p (.st 4),.p .bool],[],[],Zrb (ZjT n_),Zrb (ZjT n_),
.j 9101 [0,1,2,3,8,28] [] [.o (.rp (.sl (.sl (.st 4))) (0,4,0)),c,c,c,e,d] [aG,bC,i,i] (Zqf (ZjT n_)) <|
.nil⟩
theorem ZQR (n_:Nat) (ih:Zez X0.E 73 (ZWu n_).sig):Zez X0.E 74 (ZZQ n_).sig:=(ZZQ n_).ok G0 Tryz.func74 ⟨ZOB,ZLy,ih,ZS1,trivial⟩ rfl rfl (by kernel_rfl)
noncomputable def D97c (n_:Nat):FD U:=⟨73,Tryz.f73,[D46.sg,(ZWu n_).sg,(ZZQ n_).sg,D59.sg],[.boxr (.sl (.sl (.st 4))) 3,.p (.int .i64),.p (.int .i64),.hmap (.st 7) (.st 4)],[(3,.map (.st 7) (.st 4))],[.p (.st 4)],[],[],Zzn (ZjT n_),ZjT (n_+1),
.lo 941011111 [0,1,2,6,7,10,48,49] [] [bb,c,c,e,l,H,c,c] aT 0 [0,6,7,10] [] [bb,e,l,H] aT (Znd (ZjT n_)) (ZyA (ZjT n_)) (fun n0=> .j 91114011541011111 [0,1,2,6,7,10,12,48,49,66] [] [bb,c,c,e,l,H,al,c,c,d] [aG,aF,bG,L,L,i,i] ((Zrv (ZjT n_)) ((Znd (ZjT n_)) n0)) <|
.j 9111541011111 [0,1,2,6,7,10,48,49] [] [bb,c,c,e,l,H,c,c] aT ((Zru (ZjT n_)) ((Znd (ZjT n_)) n0)) <|
.nil) <|
.nil⟩
theorem ZUW (n_:Nat):Zez X0.E 73 (ZWu n_).sig:=by
 induction n_ with
 |zero=>
  refine ZkU.ok (S:=(ZWu 0).FS) uok fun v r h=> ?_
  have h2:(none:Option _)=some r:=h;cases h2
 |succ n_ ih=>exact(D97c n_).ok G0 Tryz.func73 ⟨ZLy,ih,ZQR n_ ih,ZOC,trivial⟩ rfl rfl (by kernel_rfl)
noncomputable abbrev D97:FD U:=ZWu big
theorem ZSZ:Zez X0.E 73 D97.sig:=ZUW big
noncomputable abbrev D96:FD U:=ZZQ big
theorem ZYE:Zez X0.E 74 D96.sig:=ZQR big ZSZ
def D98:=fd_ 76 Tryz.f76 [] [B] [A] ZI8 .nil
theorem ZYD:OK_ D98:=ok_ D98 Tryz.func76
def D99:=fd_ 33 Tryz.f33 [D95.sg,D97.sg,D96.sg,D59.sg,D98.sg] [bn] [a8,A,u] ZDk <|
.lo 941011111 [3,6,7,8,26,27,28] [200006] [e,aX,ad,c,M,c,c] bv 0 [3,6,7] [] [e,aX,ad] bv ZqQ ZDC (fun n0=> .lo 9410114011541011111 [3,6,7,8,9,11,12,26,27,28,38,39] [] [e,aX,ad,c,c,al,c,M,c,c,c,c] [aF,aG,Y,L,i,i] 2 [3,6,7,8,12,26,27,28] [] [e,aX,ad,c,c,M,c,c] bv Zp1 (ZDD (ZqQ n0)) (fun n1=> .j 911140115410114011541011111 [3,6,7,8,9,11,12,13,26,27,28,38,39,56] [] [e,aX,ad,c,c,al,c,c,M,c,c,c,c,d] [aF,aG,Y,L,i,i] (Zur (Zp1 n1)) <|
.nil) <|
.nil) <|
.nil
theorem ZYC:OK_ D99:=ok_ D99 Tryz.func33 ⟨ZYF,ZSZ,ZYE,ZOC,ZYD,tr_⟩
def ZZ7:=fd_ 13 Tryz.f13 [D11.sg,D94.sg,D99.sg,D47.sg,D93.sg] [N,N] [a8,A,u] Zqr <|
.j 91401 [2,3,5,16] [] aI bj ZuU <|
.j 9131401 [2,3,5,26] [] aI bj ZyG <|
.lo 9410111 [2,3,5,7,39,40,41] [] [e,l,H,aB,W,c,c] bf 1 [2,3,5,7] [] [e,l,H,aB] bf ZuT ZBM (fun n0=> .lo 94101140115410111 [2,3,5,7,9,10,39,40,41,47,48,49] [] bL bQ 3 [2,3,5,7,10,39,40,41] [] [e,l,H,aB,aK,W,c,c] [z,z,aW,ba,bq,i,i] ZyF (ZBN (ZuT n0)) (fun _=> .nil) <|
.nil) <|
.nil
theorem ZRd:OK_ ZZ7:=ok_ ZZ7 Tryz.func13 ⟨ZOG,ZYG,ZYC,ZOE,ZS0,tr_⟩
def Z2f:=fd_ 92 Tryz.f92 [] [ao,y] [u] ZBT <|
.lr 94101 [0,1,7,8] [] [K,c,c,c] [] 0 [] [] [] [] ZsG Zz8 (fun _=> .nil) <|
.nil
theorem ZWl:OK_ Z2f:=ok_ Z2f Tryz.func92
def Z2e:=fd_ 42 Tryz.f42 [Z2f.sg] [ao,y] [n] ZvT .nil
theorem ZWk:OK_ Z2e:=ok_ Z2e Tryz.func42 ⟨ZWl,tr_⟩
def Z2d:=fd_ 93 Tryz.f93 [] [.p (.sl (.st 1))] [.own (.st 1)] Zqj <|
.j 9101 [0,4] [] [W,d] [] ZoS <|
.nil
theorem ZWj:OK_ Z2d:=ok_ Z2d Tryz.func93
def Z2c:=fd_ 94 Tryz.f94 [] [.p (.sl (.st 0))] [.own (.st 0)] Zrd <|
.j 9101 [0,4] [] [au,d] [] Zpb <|
.nil
theorem ZWi:OK_ Z2c:=ok_ Z2c Tryz.func94
noncomputable def Z2b:FD U:=⟨44,Tryz.f44,[Z2d.sg,Z2c.sg],[N],[],[.aoown 2 2 (.st 1) 1 (.st 0)],[2000011],[],ZGs,ZGs,
.lo 941011 [1,2,10,11,12] [] bx [aA,an,aZ,T] 0 [1,2] [] aC [aA,an,aZ,T] ZE1 ZG5 (fun _=> .nil) <|
.nil⟩
theorem ZWh:OK_ Z2b:=ok_ Z2b Tryz.func44 ⟨ZWj,ZWi,tr_⟩
def Z2a:=fd_ 135 Tryz.f135 [] [aP,aP] [a9,a9] ZHe .nil
theorem ZWg:OK_ Z2a:=ok_ Z2a Tryz.func135
def Z19:=fd_ 95 Tryz.f95 [Z2a.sg] [aP,aP] [a9,a9] ZId .nil
theorem ZWf:OK_ Z19:=ok_ Z19 Tryz.func95 ⟨ZWg,tr_⟩
def Z18:=fd_ 45 Tryz.f45 [Z19.sg] [.p (.sl (.st 0)),y] [.own (.st 0)] ZpI <|
.j 910111 [0,6,26] [] [au,Q,d] [] ZsF <|
.lo 940111111 [7,8] [] [q,c] [aw] 0 [7] [] [q] [aw] ZsE ZxN (fun _=> .nil) <|
.nil
theorem ZWe:OK_ Z18:=ok_ Z18 Tryz.func45 ⟨ZWf,tr_⟩
def Z17:=fd_ 17 Tryz.f17 [D11.sg,Z2e.sg,D5.sg,Z2b.sg,Z18.sg] [N,N,ao] [aJ,u] ZxT <|
.j 9101 [2,3,4,6,31] [] [K,e,l,H,d] aN ZuS <|
.lr 941011 [2,3,4,6,33,34,35] [] bs aN 0 [2,3,4,6] [] [K,e,l,H] aN ZuQ ZBL (fun n0=> .j 9114011541011 [2,3,4,6,33,34,35,47] [] [K,e,l,H,K,c,c,d] aN (ZyE (ZuQ n0)) <|
.nil) <|
.lr 9410111 [2,3,4,6,50,51,52] [] bs aN 2 [2,3,4,6] [] [K,e,l,H] aN ZuP ZBK (fun n0=> .j 91140115410111 [2,3,4,6,50,51,52,65] [] [K,e,l,H,K,c,c,d] aN (ZyD (ZuP n0)) <|
.nil) <|
.lo 9410111111 [4,6,12,77,78,79] [] [e,l,H,K,c,c] [z,an,aQ,T,aZ] 4 [6,12] [] aC [aA,an,T,aZ] ZuO ZBJ (fun n0=> .j 911140115410111111 [4,6,12,13,15,77,78,79] [15] [e,l,H,c,au,K,c,c] [z,an,aQ,T,aZ] (ZuR (ZuO n0)) <|
.nil) <|
.nil
theorem ZWd:OK_ Z17:=ok_ Z17 Tryz.func17 ⟨ZOG,ZWk,ZUX,ZWh,ZWe,tr_⟩
def ZZ6:=fd_ 15 Tryz.f15 [] [ao,ao] [n] Zp2 <|
.lr 941011 [1,12,13,14] [] [K,K,c,c] [] 0 [] [] [] [] Zr9 ZvY (fun _=> .nil) <|
.nil
theorem ZRc:OK_ ZZ6:=ok_ ZZ6 Tryz.func15
def ZTn:=fd_ 219 Tryz.f219 [] [I] [ac] Zpe <|
.lo 9401 [0] [] [k] [] 0 [0] [] [k] [] ZpA ZDr (fun n0=> .j 9105401 [0,14] [] [k,d] [] (Zzd (ZpA n0)) <|
.nil) <|
.nil
theorem ZJW:OK_ ZTn:=ok_ ZTn Tryz.func219
def ZWc:=fd_ 177 Tryz.f177 [ZTn.sg] [.p .bool,I] [aj] ZoV <|
.j 9111 [4] [] [e] [af] ZvL <|
.nil
theorem ZK2:OK_ ZWc:=ok_ ZWc Tryz.func177 ⟨ZJW,tr_⟩
def ZZx:=fd_ 141 Tryz.f141 [ZWc.sg] [y] [aj] ZoP <|
.j 9111 [0,2,3] [] [c,e,Q] [bH,i] ZsX <|
.nil
theorem ZN3:OK_ ZZx:=ok_ ZZx Tryz.func141 ⟨ZK2,tr_⟩
def ZZ5:=fd_ 174 Tryz.f174 [] [O] [n] Zqa <|
.j 9111 [2] [] [d] [] Zpg <|
.nil
theorem ZRb:OK_ ZZ5:=ok_ ZZ5 Tryz.func174
def Z16:=fd_ 217 Tryz.f217 [ZTn.sg] [I] [ac] Zqs <|
.lo 941011 [0,3,9,10] [] [k,q,c,c] [i] 0 [3] [] [q] [i] Zr0 Zze (fun n0=> .j 9111541011 [0,3,9,10] [] [k,q,c,c] [i] (Zr1 (Zr0 n0)) <|
.nil) <|
.nil
theorem ZWb:OK_ Z16:=ok_ Z16 Tryz.func217 ⟨ZJW,tr_⟩
def ZWy:=fd_ 175 Tryz.f175 [] [I,I] [u] Zpy <|
.lr 941011 [0,1,5] [] az [] 0 [] [] [] [] ZvK Zz4 (fun _=> .nil) <|
.nil
theorem ZL8:OK_ ZWy:=ok_ ZWy Tryz.func175
def ZZw:=fd_ 179 Tryz.f179 [ZTn.sg] [I,I] [ac] ZqS <|
.lo 9410111 [0,1,5,6,7] [] [k,k,q,c,c] [i] 0 [5] [] [q] [i] Zst ZzV (fun n0=> .j 9114015410111 [0,1,5,6,7] [] [k,k,q,c,c] [i] (Zsu (Zst n0)) <|
.nil) <|
.nil
theorem ZN2:OK_ ZZw:=ok_ ZZw Tryz.func179 ⟨ZJW,tr_⟩
def ZZ4:=fd_ 218 Tryz.f218 [ZTn.sg] [I,ae] [ac] Zta <|
.lo 941011 [0,1,5,6] [] [k,X,q,c] [i] 0 [1,5] [] [X,q] [i] ZtT Zyc (fun _=> .nil) <|
.nil
theorem ZRa:OK_ ZZ4:=ok_ ZZ4 Tryz.func218 ⟨ZJW,tr_⟩
def ZZ3:=fd_ 176 Tryz.f176 [Z16.sg,ZWy.sg,ZZw.sg,ZZ4.sg] [I,I] [ac] ZuW <|
.lo 94011 [0,1,5] [] az [] 0 [0,1,5] [] az [] ZqO Zz2 (fun n0=> .j 91054011 [0,1,5,17] [] [k,k,c,d] [] (ZvJ (ZqO n0)) <|
.nil) <|
.lo 940111 [0,1,5] [] az [] 2 [0,5] [] [k,c] [] ZoY ZzZ (fun n0=> .lo 94041540111 [0,1,5] [] az [] 4 [0,1,5] [] az [] Zpr (Zz1 (ZoY n0)) (fun _=> .nil) <|
.lo 940141540111 [0,1,5] [] az [] 6 [0,1,5] [] az [] Zpq (Zz0 (ZoY n0)) (fun _=> .nil) <|
.j 911141540111 [0,1,5] [] az [] (ZvI (ZoY n0)) <|
.nil) <|
.lo 9401111 [0,5] [] [k,c] [] 8 [0] [] [k] [] ZqN ZzY (fun _=> .nil) <|
.nil
theorem ZQ9:OK_ ZZ3:=ok_ ZZ3 Tryz.func176 ⟨ZWb,ZL8,ZN2,ZRa,tr_⟩
def Z15:=fd_ 266 Tryz.f266 [] [I,y] [ap] ZyO .nil
theorem ZWa:OK_ Z15:=ok_ Z15 Tryz.func266
def Z14:=fd_ 220 Tryz.f220 [Z15.sg,ZZ4.sg,ZWy.sg,ZZw.sg,ZTn.sg] [I,I] [ac,ac] ZuX <|
.lo 941011 [0,1,4,5,6] [5] [k,k,q,k,c] [i] 0 [4,5] [] [q,k] [i] Zsw Zz3 (fun n0=> .j 911541011 [0,1,4,5,6] [] [k,k,q,k,c] [i] (Zsx (Zsw n0)) <|
.nil) <|
.nil
theorem ZV9:OK_ Z14:=ok_ Z14 Tryz.func220 ⟨ZWa,ZRa,ZL8,ZN2,ZJW,tr_⟩
def ZZv:=fd_ 181 Tryz.f181 [ZZx.sg,ZZ3.sg,Z14.sg,ZWc.sg] [O,O] [A] ZqM .nil
theorem ZN1:OK_ ZZv:=ok_ ZZv Tryz.func181 ⟨ZN3,ZQ9,ZV9,ZK2,tr_⟩
def Z13:=fd_ 140 Tryz.f140 [ZZ5.sg,ZZv.sg] [O,O] [A,u] Zxw <|
.j 9101 [2,3,4,13] [] aI [af,af,aE,i,i] ZuF <|
.nil
theorem ZV8:OK_ Z13:=ok_ Z13 Tryz.func140 ⟨ZRb,ZN1,tr_⟩
def ZZ2:=fd_ 101 Tryz.f101 [ZZx.sg,Z13.sg] [y,y] [A,u] Zv5 .nil
theorem ZQ8:OK_ ZZ2:=ok_ ZZ2 Tryz.func101 ⟨ZN3,ZV8,tr_⟩
noncomputable def ZZu:FD U:=⟨54,Tryz.f54,[ZZ2.sg],[y,y],[],[A],[],[],ZAZ,ZqK,
.nil⟩
theorem ZN0:OK_ ZZu:=ok_ ZZu Tryz.func54 ⟨ZQ8,tr_⟩ (hw:=by funext x_;funext x_;exact ZDG _)
noncomputable def ZWx:FD U:=⟨24,Tryz.f24,[ZZu.sg],[y],[],[A],[],[],ZBO,Zo6,
.nil⟩
theorem ZL7:OK_ ZWx:=ok_ ZWx Tryz.func24 ⟨ZN0,tr_⟩ (hw:=by funext x_;exact ZDG _)
def Z12:=fd_ 41 Tryz.f41 [] [O,O] [n] ZrW <|
.j 9101 [2,3,20] [] aU [af,af] ZsT <|
.lr 941011 [3,22,23,24] [] [e,k,c,c] [af] 0 [] [] [] [] ZsS ZwJ (fun _=> .nil) <|
.nil
theorem ZV7:OK_ Z12:=ok_ Z12 Tryz.func41
def ZV6:=fd_ 16 Tryz.f16 [Z12.sg] [B,B] [n] Zpd <|
.j 911 [4] [] [d] [] Zuy <|
.nil
theorem ZK1:OK_ ZV6:=ok_ ZV6 Tryz.func16 ⟨ZV7,tr_⟩
def ZZt:=fd_ 25 Tryz.f25 [] [N] [u] ZrE .nil
theorem ZNZ:OK_ ZZt:=ok_ ZZt Tryz.func25
def Z11:=fd_ 7 Tryz.f7 [ZZ7.sg,Z17.sg,ZZ6.sg,ZWx.sg,ZV6.sg,ZZt.sg] [] [n] Zq8 <|
.j 9111111 [0] [] [d] [] Zpw <|
.nil
theorem ZV5:OK_ Z11:=ok_ Z11 Tryz.func7 ⟨ZRd,ZWd,ZRc,ZL7,ZK1,ZNZ,tr_⟩
def Z10:=fd_ 5 Tryz.f5 [] [N] [n] Zwm <|
.lr 941011 [10,11,12] [] [W,c,c] [] 0 [] [] [] [] Zrq Zym (fun n0=> .j 9114011541011 [10,11,12,25] [] [W,c,c,d] [] (Zt5 (Zrq n0)) <|
.nil) <|
.nil
theorem ZV4:OK_ Z10:=ok_ Z10 Tryz.func5
def Z1Z:=fd_ 8 Tryz.f8 [] [ao] [.box (.st 9)] ZCP .nil
theorem ZV3:OK_ Z1Z:=ok_ Z1Z Tryz.func8
def ZZ1:=fd_ 12 Tryz.f12 [] [y,y] [u] Zup .nil
theorem ZQ7:OK_ ZZ1:=ok_ ZZ1 Tryz.func12
noncomputable def ZQ6:FD U:=⟨10,Tryz.f10,[ZZ1.sg],[aD,y],[(0,.box (.st 9))],[u],[],[],Zi5,Zi5,
.nil⟩
theorem ZHT:OK_ ZQ6:=ok_ ZQ6 Tryz.func10 ⟨ZQ7,tr_⟩
noncomputable def ZV2:FD U:=⟨26,Tryz.f26,[ZQ6.sg],[aD,aq],[(0,.box (.st 9))],[V],[],[],ZoQ,ZoQ,
.nil⟩
theorem ZK0:OK_ ZV2:=ok_ ZV2 Tryz.func26 ⟨ZHT,tr_⟩
noncomputable def Z1Y:FD U:=⟨55,Tryz.f55,[ZQ6.sg,ZV2.sg],[aD],[(0,.box (.st 9))],[.p (.st 0)],[],[],Zv6,Zv6,
.nil⟩
theorem ZV1:OK_ Z1Y:=ok_ Z1Y Tryz.func55 ⟨ZHT,ZK0,tr_⟩
noncomputable def Z1X:FD U:=⟨56,Tryz.f56,[ZQ6.sg,ZV2.sg,(57,ZFP.sig)],[aD],[(0,.box (.st 9))],[.p (.st 0)],[],[],Zt8,Zt8,
.nil⟩
theorem ZV0:OK_ Z1X:=ok_ Z1X Tryz.func56 ⟨ZHT,ZK0,ZGF,tr_⟩
noncomputable def Z1W:FD U:=⟨27,Tryz.f27,[ZV2.sg,ZQ6.sg,Z1Y.sg,Z1X.sg,(57,ZFP.sig)],[aD,y],[(0,.box (.st 9))],[.p (.st 1)],[],[],Zua,Zua,
.lo 9410111 [0,4,5,6,15,16] [] [ak,e,l,c,c,c] [ai,bI,bp,aw,aw] 0 [4,5] [] aC [ai,bI,bp,aw,aw] Zr3 Zzg (fun n0=> .j 911140115410111 [0,4,5,6,8,15,16] [] [ak,e,l,c,H,c,c] [ai,bp,.box [.o (.v .str),.o (.full (0,5,1))],.boxS (.st 0),aw,aw] (ZpB (Zr3 n0)) <|
.nil) <|
.nil⟩
theorem ZVZ:OK_ Z1W:=ok_ Z1W Tryz.func27 ⟨ZK0,ZHT,ZV1,ZV0,ZGF,tr_⟩
noncomputable def Z1V:FD U:=⟨9,Tryz.f9,[ZV2.sg,ZQ6.sg,Z1W.sg],[aD,y],[(0,.box (.st 9))],[aJ],[],[],Zu0,Zu0,
.lo 9410111 [0,4,5,6,7] [] [ak,e,l,c,c] bt 0 [0,4,5] [] [ak,e,l] bt ZvQ Zz6 (fun _=> .nil) <|
.j 911111 [4,5] [] aC bt ZvR <|
.nil⟩
theorem ZVY:OK_ Z1V:=ok_ Z1V Tryz.func9 ⟨ZK0,ZHT,ZVZ,tr_⟩
noncomputable def Z1U:FD U:=⟨29,Tryz.f29,[ZQ6.sg,ZV2.sg],[aD,N],[(0,.box (.st 9))],[.p (.st 10)],[],[],Zyo,Zyo,
.j 911121410111 [0,3,4,5,44] [] [ak,e,l,H,d] [ai,z,bD,.box [.o (.v (.int .i64)),.o (.v (.int .i64)),.o (.v .str),.o (.full (0,5,1))],Y,Y] ZqU <|
.j 9131410111 [0,4,5,6,16,66] [] [ak,e,l,c,c,d] a3 Zu3 <|
.lo 941213131410111 [0,4,5,6,7] [] [ak,e,l,c,c] a3 1 [4,5] [] aC a3 Zu1 ZBQ (fun n0=> .j 910541213131410111 [0,4,5,6,7,83] [] [ak,e,l,c,c,d] a3 (ZyS (Zu1 n0)) <|
.nil) <|
.j 91111 [4,5] [] aC a3 ZqT <|
.j 911111 [4] [] [e] [ai,.box [.o (.v (.int .i64)),.o (.v (.int .i64)),.o (.v .str),.o (.full (0,2,1))],Y] Zu2 <|
.nil⟩
theorem ZVX:OK_ Z1U:=ok_ Z1U Tryz.func29 ⟨ZHT,ZK0,tr_⟩
def ZZ0:=fd_ 122 Tryz.f122 [D2.sg] [G] [n] Zs9 .nil
theorem ZQ5:OK_ ZZ0:=ok_ ZZ0 Tryz.func122 ⟨ZZe,tr_⟩
def Z1T:=fd_ 80 Tryz.f80 [ZZ0.sg] [G] [n] ZtQ <|
.j 911 [2] [] [d] [] ZuB <|
.nil
theorem ZVW:OK_ Z1T:=ok_ Z1T Tryz.func80 ⟨ZQ5,tr_⟩
def Z1S:=fd_ 81 Tryz.f81 [ZZ0.sg] [aV] [n] Zts <|
.j 911 [2] [] [d] [] Zpt <|
.nil
theorem ZVV:OK_ Z1S:=ok_ Z1S Tryz.func81 ⟨ZQ5,tr_⟩
def ZTm:=fd_ 36 Tryz.f36 [Z1T.sg,Z1S.sg] [N] [n] ZlB <|
.j 9101 [1,26] [] [e,d] [z] Zp6 <|
.lr 941011 [1,28,29,30] [] [e,W,c,c] [z] 0 [] [] [] [] Zpf Zx8 (fun n0=> .j 91014011541011 [1,4,28,29,30,55] [] [e,l,W,c,c,d] [z,aM] (Zp5 (Zpf n0)) <|
.lr 941114011541011 [1,28,29,30,57,58,59] [] [e,W,c,c,au,c,c] [z] 2 [1,28,29,30] [] [e,W,c,c] [z] Zrm (Zx9 (Zpf n0)) (fun _=> .nil) <|
.nil) <|
.nil
theorem ZJV:OK_ ZTm:=ok_ ZTm Tryz.func36 ⟨ZVW,ZVV,tr_⟩
def Z1R:=fd_ 58 Tryz.f58 [] [N,.p (.st 10)] [n] ZyH <|
.j 911 [2,3,5] [] aU [z,aR] Zsm <|
.j 912141011 [4] [] [d] [] Zsl <|
.j 913141011 [2,3,5,20,36] [] [e,l,d,c,d] [z,aR] Zsk <|
.j 91213141011 [4] [] [d] [] Zsj <|
.lr 941021313141011 [2,3,54,55,56] [] [e,l,K,c,c] [z,aR] 1 [3] [] [e] [aR] Zsh ZzJ (fun n0=> .j 9114011541021313141011 [2,3,54,55,56,68] [] [e,l,K,c,c,d] [z,aR] (Zvs (Zsh n0)) <|
.nil) <|
.j 91121313141011 [4] [] [d] [] Zsi <|
.j 91111 [4] [] [d] [] ZqI <|
.nil
theorem ZVU:OK_ Z1R:=ok_ Z1R Tryz.func58
def Z1Q:=fd_ 103 Tryz.f103 [ZTm.sg] [N,ao] [aJ,u] ZuC <|
.lr 9410111 [1,2,4,6,18,19,20] [] bs [z,an,aQ,T,T] 0 [1,4,6] [] [K,e,l] a5 ZqC ZwM (fun n0=> .j 910140115410111 [1,2,4,6,8,18,19,20,32] [] [K,e,l,H,c,K,c,c,d] [z,an,aQ,T,T] (ZsU (ZqC n0)) <|
.nil) <|
.nil
theorem ZVT:OK_ Z1Q:=ok_ Z1Q Tryz.func103 ⟨ZJV,tr_⟩
def Z1P:=fd_ 143 Tryz.f143 [] [N,y,y] [n] Zwi <|
.lr 94101 [1,2,10,11,12] [] [c,c,W,c,c] [] 0 [] [] [] [] ZtC ZxU (fun _=> .nil) <|
.nil
theorem ZVS:OK_ Z1P:=ok_ Z1P Tryz.func143
def Z1O:=fd_ 144 Tryz.f144 [] [aV,aV] [u] ZrG <|
.j 91401 [2,3,5] [] aU [.boxS (.st 0),.boxS (.st 0)] ZqG <|
.nil
theorem ZVR:OK_ Z1O:=ok_ Z1O Tryz.func144
def Z1N:=fd_ 105 Tryz.f105 [ZZt.sg,Z1P.sg,Z1O.sg] [N,.p (.st 10)] [a8] Zxd <|
.lo 941011 [2,3,5,14,15] [] bx ay 0 [5] [] [q] [Y] Zo9 ZyZ (fun n0=> .lo 941213131410114011541011 [2,3,5,6,7,8,14,15,60,61,62] [] bN ay 3 [2,3,5,6,7,8,14,15] [] br ay ZrQ (Zy1 (Zo9 n0)) (fun n1=> .j 9111541213131410114011541011 [2,3,5,6,7,8,14,15,60,61,62] [] bN ay (Zuw (ZrQ n1)) <|
.nil) <|
.lo 94121313131410114011541011 [2,3,5,6,7,8,12,14,15] [] [e,l,ad,c,c,d,au,c,c] ay 5 [2,3,5,6,7,8,14,15] [] br ay ZrP (Zy0 (Zo9 n0)) (fun n1=> .j 91054121313131410114011541011 [2,3,5,6,7,8,12,14,15,101] [] [e,l,ad,c,c,d,au,c,c,d] ay (Zuv (ZrP n1)) <|
.nil) <|
.j 91114011541011 [2,3,5,6,7,8,14,15] [] br ay (Zqn (Zo9 n0)) <|
.j 911114011541011 [2,3,5,6,7,14,15,104] [] [e,l,ad,c,c,c,c,d] ay (Zqm (Zo9 n0)) <|
.j 9111541011 [2,3,5,14,15] [] bx ay (Zuu (Zo9 n0)) <|
.nil) <|
.nil
theorem ZVQ:OK_ Z1N:=ok_ Z1N Tryz.func105 ⟨ZNZ,ZVS,ZVR,tr_⟩
def Z1M:=fd_ 104 Tryz.f104 [ZTm.sg,ZZt.sg] [N,ao] [aJ,u] ZvD <|
.lr 941011 [1,2,4,18,19,20] [] [K,e,l,K,c,c] a6 0 [1,2,4] [] [K,e,l] a6 Zq2 Zxr (fun n0=> .j 9114011541011 [1,2,4,18,19,20,31] [] [K,e,l,K,c,c,d] a6 (Ztu (Zq2 n0)) <|
.nil) <|
.lo 941011111 [1,4,8,44,45,46] [] [K,e,l,W,c,c] a5 2 [4,8] [] aC a5 Zq1 Zxp (fun n0=> .lo 9410114011541011111 [1,4,8,10,11,44,45,46,53,54,55] [] [K,e,l,H,al,W,c,c,K,c,c] [aQ,.box [.o (.v (.int .i64)),.o (.v .str),.o (.full (0,6,1))],aM,.box [.o (.v .str),.o (.full (0,7,1))],T,T,aw] 4 [1,4,8,11,44,45,46] [] [K,e,l,H,W,c,c] [an,aQ,.box [.o (.v .str),.o (.full (0,6,1))],T,T,aw] Ztt (Zxq (Zq1 n0)) (fun _=> .nil) <|
.nil) <|
.nil
theorem ZVP:OK_ Z1M:=ok_ Z1M Tryz.func104 ⟨ZJV,ZNZ,tr_⟩
def Z1L:=fd_ 59 Tryz.f59 [Z1Q.sg,Z1N.sg,Z1M.sg] [N,.p (.st 10)] [aJ] Zzq .nil
theorem ZVO:OK_ Z1L:=ok_ Z1L Tryz.func59 ⟨ZVT,ZVQ,ZVP,tr_⟩
def ZZZ:=fd_ 30 Tryz.f30 [] [N] [aJ] ZtF <|
.lo 941011 [2,3,12,13,14] [] [e,l,W,c,c] a5 0 [2,3] [] aC a5 Zux Zy2 (fun _=> .nil) <|
.nil
theorem ZQ4:OK_ ZZZ:=ok_ ZZZ Tryz.func30
def Z1K:=fd_ 28 Tryz.f28 [ZTm.sg,Z1R.sg,Z1L.sg,ZZZ.sg] [N,.p (.sl (.st 10))] [aJ,u] ZyI <|
.lr 941011 [2,4,18,19,20] [] [e,l,.o (.v (.sl (.st 10))),c,c] a6 1 [2,4] [] aC a6 Zvt ZzK (fun _=> .nil) <|
.nil
theorem ZVN:OK_ Z1K:=ok_ Z1K Tryz.func28 ⟨ZJV,ZVU,ZVO,ZQ4,tr_⟩
noncomputable def ZZY:FD U:=⟨11,Tryz.f11,[ZQ6.sg,Z1U.sg,Z1K.sg,ZZZ.sg],[aD,N,y],[(0,.box (.st 9))],[aJ],[],[],Zq9,Zq9,
.lo 94101 [0,2,4,6,7] [] [ak,c,e,l,c] [ai,z,aA,T] 0 [2,4,6] [] [c,e,l] [ai,z,aA,T] Zrr Zyp (fun n0=> .j 91154101 [0,2,4,6,7] [] [ak,c,e,l,c] [ai,z,aA,T] (Zt9 (Zrr n0)) <|
.nil) <|
.nil⟩
theorem ZQ3:OK_ ZZY:=ok_ ZZY Tryz.func11 ⟨ZHT,ZVX,ZVN,ZQ4,tr_⟩
noncomputable def Z1J:FD U:=⟨20,Tryz.f20,[ZQ6.sg,Z1V.sg,ZZY.sg],[aD,y],[(0,.box (.st 9))],[.own (.st 2)],[],[],Zt7,Zt7,
.lo 9410111 [0,5,6,7] [] [ak,q,c,c] [ai,be] 0 [5] [] [q] [ai,be] Zqq Zzf (fun n0=> .j 910114015410111 [0,5,6,7,8,34] [] [ak,q,c,c,l,d] [ai,be,z] (ZuH (Zqq n0)) <|
.j 91114015410111 [0,5,6,7,8] [] [ak,q,c,c,l] [ai,be,z] (Zr2 (Zqq n0)) <|
.nil) <|
.nil⟩
theorem ZVM:OK_ Z1J:=ok_ Z1J Tryz.func20 ⟨ZHT,ZVY,ZQ3,tr_⟩
def Z1I:=fd_ 136 Tryz.f136 [D11.sg] [aO,.fn 31 [] []] [n] ZxA <|
.lr 94101 [1,7,8,9] [] [.fn 31 [] [],aa,c,c] [] 0 [] [] [] [] ZuI Zzh (fun _=> .nil) <|
.nil
theorem ZVL:OK_ Z1I:=ok_ Z1I Tryz.func136 ⟨ZOG,tr_⟩
def Z1H:=fd_ 96 Tryz.f96 [Z1I.sg] [aO] [n] ZDc <|
.lr 94101 [0,3] [] [aa,c] [] 0 [0] [] [aa] [] ZAk ZDv (fun _=> .nil) <|
.j 9111 [2] [] [d] [] ZAl <|
.nil
theorem ZVK:OK_ Z1H:=ok_ Z1H Tryz.func96 ⟨ZVL,tr_⟩
def Z1G:=fd_ 47 Tryz.f47 [Z1H.sg] [aO] [n] ZAJ .nil
theorem ZVJ:OK_ Z1G:=ok_ Z1G Tryz.func47 ⟨ZVK,tr_⟩
def Z1F:=fd_ 48 Tryz.f48 [D60.sg] [B] [n] ZFJ .nil
theorem ZVI:OK_ Z1F:=ok_ Z1F Tryz.func48 ⟨ZOB,tr_⟩
def Z1E:=fd_ 191 Tryz.f191 [] [aP] [u] ZHf <|
.j 911 [0,2] [] [Q,c] [] ZDy <|
.j 9111 [0,2] [] [Q,c] [] ZDx <|
.j 91111 [0,2] [] [Q,c] [] ZDw <|
.nil
theorem ZVH:OK_ Z1E:=ok_ Z1E Tryz.func191
def Z1D:=fd_ 138 Tryz.f138 [Z1E.sg] [aP] [u] ZGr .nil
theorem ZVG:OK_ Z1D:=ok_ Z1D Tryz.func138 ⟨ZVH,tr_⟩
def Z1C:=fd_ 99 Tryz.f99 [D59.sg] [B,B] [u] ZG4 .nil
theorem ZVF:OK_ Z1C:=ok_ Z1C Tryz.func99 ⟨ZOC,tr_⟩
def Z1B:=fd_ 98 Tryz.f98 [] [ao] [u] ZGL <|
.lr 941011 [3,6,7,8] [] [c,K,c,c] [] 0 [3] [] [c] [] ZC5 ZIg (fun _=> .nil) <|
.nil
theorem ZVE:OK_ Z1B:=ok_ Z1B Tryz.func98
def Z1A:=fd_ 50 Tryz.f50 [Z1C.sg,D25.sg,Z1B.sg] [.p (.st 11),.p (.st 11)] [u] Zzp .nil
theorem ZVD:OK_ Z1A:=ok_ Z1A Tryz.func50 ⟨ZVF,ZTj,ZVE,tr_⟩
noncomputable def Z1z:FD U:=⟨182,Tryz.f182,[Z1A.sg],[bo,y,y,.fn 50 [] []],[(0,.arr (.st 11))],[],[],[],ZpG,Zpa,
.lo 941 [0,1,2,3,8] [] [a0,c,c,a1,c] [ah] 0 [] [] [] [ah] Zo3 ZqE (fun n0=> .lo 941401541 [0,1,2,3,8,9] [] [a0,c,c,a1,c,c] [ah] 2 [0,1,2,3,8] [] [a0,c,c,a1,c] [ah] ZoJ (ZqF (Zo3 n0)) (fun n1=> .j 910541401541 [0,1,2,3,8,9,34] [] [a0,c,c,a1,c,c,d] [ah] (Zpv (ZoJ n1)) <|
.nil) <|
.nil) <|
.nil⟩
theorem ZVC:OK_ Z1z:=ZT7 Z1z Tryz.func182 ⟨ZVD,tr_⟩
noncomputable def Z1y:FD U:=⟨137,Tryz.f137,[Z1z.sg],[bo,y,y,y,.fn 50 [] []],[(0,.arr (.st 11))],[],[],[],Zuc,Zqt,
.lz 9411 [0,1,2,3,4,10,11] [] [a0,c,c,c,a1,d,d] [ah] ZsD (fun _=> .nil) <|
.nil⟩
theorem ZVB:OK_ Z1y:=ZT7 Z1y Tryz.func137 ⟨ZVC,tr_⟩
noncomputable def Z1x:FD U:=⟨97,Tryz.f97,[Z1D.sg,Z1y.sg],[bo,.fn 50 [] []],[(0,.arr (.st 11))],[],[],[],Zr7,ZpH,
.nil⟩
theorem ZVA:OK_ Z1x:=ZT7 Z1x Tryz.func97 ⟨ZVG,ZVB,tr_⟩
noncomputable def Z1w:FD U:=⟨49,Tryz.f49,[Z1x.sg],[bo,y,.fn 50 [] []],[(0,.arr (.st 11))],[.view 0],[],[],ZA6,ZvU,
.nil⟩
theorem ZVz:OK_ Z1w:=ZT7 Z1w Tryz.func49 ⟨ZVA,tr_⟩
def Z1v:=fd_ 21 Tryz.f21 [Z1G.sg,D11.sg,ZZ7.sg,Z1F.sg,Z1w.sg] [aO,N,y] [.p (.sl (.st 11)),u] Zs6 <|
.j 91401 [0,2,4,14] [] bm [z] Zr6 <|
.j 9131401 [0,2,4,21] [] bm [z] Zw2 <|
.lo 9410111 [2,4,8,35,36,37] [] bh [z,ah] 1 [2,8] [] [c,q] [ah] Zr5 Zw0 (fun n0=> .j 911140115410111 [2,4,8,10,11,12,35,36,37,53] [] bO [z,ah,z,Y,L] (Zuo (Zr5 n0)) <|
.j 91115410111 [2,4,8,35,36,37] [] bh [z,ah] (Zw1 (Zr5 n0)) <|
.nil) <|
.nil
theorem ZVy:OK_ Z1v:=ok_ Z1v Tryz.func21 ⟨ZVJ,ZOG,ZRd,ZVI,ZVz,tr_⟩
def Z1u:=fd_ 51 Tryz.f51 [ZTm.sg] [aO] [n] Zq0 <|
.lr 94101 [0,5,6,7] [] [aa,aa,c,c] [] 0 [0] [] [aa] [] Zp7 Zvf (fun n0=> .j 911401154101 [0,5,6,7,29] [] [aa,aa,c,c,d] [] (Zp8 (Zp7 n0)) <|
.nil) <|
.nil
theorem ZVx:OK_ Z1u:=ok_ Z1u Tryz.func51 ⟨ZJV,tr_⟩
def Z1t:=fd_ 170 Tryz.f170 [] [aq] [.own .str] ZyM <|
.lo 941011 [3,7,8,9] [] [q,J,c,c] [ax] 0 [3] [] [q] [ax] ZpM ZzT (fun n0=> .lo 940114011541011 [3,5,6,7,8,9] [] [q,m,c,J,c,c] [ax] 2 [3,5,6,7,8,9] [] [q,m,c,J,c,c] [ax] Zss (ZzU (ZpM n0)) (fun n1=> .j 910540114011541011 [3,5,6,7,8,9,24] [] [q,m,c,J,c,c,d] [ax] (ZvG (Zss n1)) <|
.nil) <|
.j 911114011541011 [3,5,6,7,8,9,38] [] [q,m,c,J,c,c,d] [ax] (ZvF (ZpM n0)) <|
.j 9111541011 [3,7,8,9] [] [q,J,c,c] [ax] (ZvE (ZpM n0)) <|
.nil) <|
.nil
theorem ZVw:OK_ Z1t:=ok_ Z1t Tryz.func170
def Z1s:=fd_ 124 Tryz.f124 [Z1t.sg] [am] [.own .str] Zsr <|
.lo 941011 [3,7,8,9] [] [q,au,c,c] [ax] 0 [3] [] [q] [ax] ZqV Zxk (fun n0=> .j 9111541011 [3,7,8,9] [] [q,au,c,c] [ax] (Ztl (ZqV n0)) <|
.nil) <|
.nil
theorem ZVv:OK_ Z1s:=ok_ Z1s Tryz.func124 ⟨ZVw,tr_⟩
def ZQ2:=fd_ 39 Tryz.f39 [ZWx.sg] [] [A] Zlj .nil
theorem ZHS:OK_ ZQ2:=ok_ ZQ2 Tryz.func39 ⟨ZL7,tr_⟩
def ZZX:=fd_ 123 Tryz.f123 [ZQ2.sg,ZZu.sg] [aq,aq] [A] ZrV <|
.lo 941011 [0,1,4,5,10,11,12] [] [J,J,e,c,J,c,c] ab 0 [0,1,4,5] [] [J,J,e,c] ab ZqB ZwH (fun n0=> .lo 94114011541011 [0,1,4,5,7,10,11,12,16,17,18] [] bM ab 2 [0,1,4,5,10,11,12] [] [J,J,e,c,J,c,c] ab ZqA (ZwI (ZqB n0)) (fun n1=> .j 911154114011541011 [0,1,4,5,7,10,11,12,16,17,18] [] bM ab (ZsR (ZqA n1)) <|
.nil) <|
.nil) <|
.nil
theorem ZQ1:OK_ ZZX:=ok_ ZZX Tryz.func123 ⟨ZHS,ZN0,tr_⟩
def Z1r:=fd_ 82 Tryz.f82 [Z1s.sg,ZZX.sg] [am,am] [A] Zvx .nil
theorem ZVu:OK_ Z1r:=ok_ Z1r Tryz.func82 ⟨ZVv,ZQ1,tr_⟩
def Z1q:=fd_ 171 Tryz.f171 [] [.p (.int .u8)] [.p (.int .u8)] Zvw <|
.j 91401 [0,3] [] [.o (.v (.int .u8)),d] [] Zxj <|
.j 9131401 [0,13] [] [.o (.v (.int .u8)),d] [] ZpQ <|
.nil
theorem ZVt:OK_ Z1q:=ok_ Z1q Tryz.func171
def Z1p:=fd_ 172 Tryz.f172 [] [aq,G] [.p (.sl .str)] ZyK <|
.lo 94011 [0,1,5] [] [J,m,c] [] 0 [0,1,5] [] [J,m,c] [] Zsq ZzO (fun n0=> .j 91054011 [0,1,5,17] [] [J,m,c,d] [] (Zvv (Zsq n0)) <|
.nil) <|
.j 910111 [0,1,5,31] [] [J,m,c,d] [] Zvu <|
.nil
theorem ZVs:OK_ Z1p:=ok_ Z1p Tryz.func172
def Z1o:=fd_ 125 Tryz.f125 [Z1q.sg,Z1p.sg] [G] [.p (.sl .str)] Zs7 <|
.lo 9410111 [0,3,4,5] [3] [m,J,m,c] [] 0 [3] [] [J] [] ZoZ Zx6 (fun n0=> .j 9114015410111 [0,3,4,5,6] [] [m,J,m,c,.o (.v (.int .u8))] [] (Zrj (ZoZ n0)) <|
.j 911114015410111 [0,3,5] [3] [m,J,c] [] (ZtN (ZoZ n0)) <|
.j 9115410111 [0,3,4,5] [3] [m,J,m,c] [] (ZtM (ZoZ n0)) <|
.nil) <|
.nil
theorem ZVr:OK_ Z1o:=ok_ Z1o Tryz.func125 ⟨ZVt,ZVs,tr_⟩
def Z1n:=fd_ 83 Tryz.f83 [Z1o.sg,ZZX.sg] [G,G] [A] Zwk .nil
theorem ZVq:OK_ Z1n:=ok_ Z1n Tryz.func83 ⟨ZVr,ZQ1,tr_⟩
def Z1m:=fd_ 258 Tryz.f258 [] [G] [V] Zxu <|
.lo 9401 [0] [] [m] [] 0 [0] [] [m] [] ZrY Zza (fun n0=> .j 9105401 [0,10] [] ag [] (ZuE (ZrY n0)) <|
.nil) <|
.lo 94011 [0] [] [m] [] 2 [0] [] [m] [] ZrX Zy9 (fun n0=> .j 91054011 [0,23] [] ag [] (ZuD (ZrX n0)) <|
.nil) <|
.nil
theorem ZVp:OK_ Z1m:=ok_ Z1m Tryz.func258
def Z1l:=fd_ 259 Tryz.f259 [] [G] [V] ZEe <|
.lo 941011 [3,8,9] [] [q,c,c] [aS] 0 [3] [] [q] [aS] ZrZ ZDq (fun n0=> .j 9114011541011 [3,4,8,9,23] [] [q,c,c,c,d] [aS] (Zzc (ZrZ n0)) <|
.j 9111541011 [3,8,9] [] [q,c,c] [aS] (Zzb (ZrZ n0)) <|
.nil) <|
.nil
theorem ZVo:OK_ Z1l:=ok_ Z1l Tryz.func259
def ZZW:=fd_ 260 Tryz.f260 [] [G] [n,V,V,n] Ztb <|
.j 9101 [0,2,20] [] [m,d,d] [] Zrp <|
.j 911 [0,2] [] ag [] Zph <|
.lo 940111 [0,2,6] [] [m,d,c] [] 0 [0,2,6] [] [m,d,c] [] Zrn Zyl (fun n0=> .j 910540111 [0,2,6,41] [] [m,d,c,d] [] (Zro (Zrn n0)) <|
.nil) <|
.j 91011111 [0,2,3,6,52] [] [m,d,m,c,d] [] Zt4 <|
.j 91011111111 [2,3,4,76] [] bl [] Zo0 <|
.lr 9410111111111 [2,3,4,7] [] [d,m,m,c] [] 2 [2,3,4] [] a7 [] Zqb ZCJ (fun n0=> .j 914015410111111111 [2,3,4,7,92] [] [d,m,m,c,d] [] (Zt3 (Zqb n0)) <|
.nil) <|
.nil
theorem ZQ0:OK_ ZZW:=ok_ ZZW Tryz.func260
def Z1k:=fd_ 261 Tryz.f261 [] [.p .bool,G,G] [V] ZvB <|
.lo 9401 [0,1,2] [] a7 [] 0 [0,1,2] [] a7 [] ZqX Zxn (fun n0=> .j 9105401 [0,1,2,14] [] bl [] (Ztq (ZqX n0)) <|
.nil) <|
.lo 94011 [0,1,2] [] a7 [] 2 [0,1,2] [] a7 [] ZqW Zxm (fun n0=> .j 91054011 [0,1,2,27] [] bl [] (Ztp (ZqW n0)) <|
.nil) <|
.j 91111 [0,1] [] [d,m] [] Zto <|
.j 9101111 [1,43] [] ag [] Ztn <|
.j 911111 [1] [] [m] [] Ztm <|
.nil
theorem ZVn:OK_ Z1k:=ok_ Z1k Tryz.func261
def Z1j:=fd_ 263 Tryz.f263 [] [G] [u] ZqR <|
.lr 941011 [0,3,4] [] [m,c,c] [] 0 [3] [] [c] [] Zvz ZDI (fun n0=> .j 910401541011 [0,3,4,20] [] [m,c,c,d] [] (ZzP (Zvz n0)) <|
.nil) <|
.nil
theorem ZVm:OK_ Z1j:=ok_ Z1j Tryz.func263
def ZZV:=fd_ 265 Tryz.f265 [] [y] [n] ZA0 <|
.j 911 [2] [] [d] [] Zuz <|
.nil
theorem ZQZ:OK_ ZZV:=ok_ ZZV Tryz.func265
def Z1i:=fd_ 264 Tryz.f264 [ZZV.sg] [y,y] [u] ZzQ <|
.j 91401 [1,5] [] [c,d] [] Zxo <|
.j 913131401 [15] [] [d] [] ZqY <|
.nil
theorem ZVl:OK_ Z1i:=ok_ Z1i Tryz.func264 ⟨ZQZ,tr_⟩
def ZZU:=fd_ 215 Tryz.f215 [Z1i.sg,ZZV.sg] [y,y,y] [u,n] ZBP <|
.j 9101 [0,1,2,35] [] [c,c,c,d] [] ZpL <|
.lo 9410111 [0,1,2,8,9] [] bz [] 0 [0,1,2,8] [] [c,c,c,c] [] ZvC ZDK (fun n0=> .j 9115410111 [0,1,2,8,9] [] bz [] (ZzS (ZvC n0)) <|
.nil) <|
.lo 94101111 [0,1,2,8,10] [] bz [] 2 [2,8] [] [c,c] [] ZzR ZDJ (fun _=> .nil) <|
.nil
theorem ZQY:OK_ ZZU:=ok_ ZZU Tryz.func215 ⟨ZVl,ZQZ,tr_⟩
def ZZT:=fd_ 214 Tryz.f214 [Z1j.sg,ZZU.sg] [G] [u,u,u,n] ZA1 <|
.j 9104011 [0,9] [] ag [] Zy8 <|
.j 914011 [0,9] [] ag [] ZuA <|
.j 91314011 [0,35] [] ag [] Zy7 <|
.j 9111 [2,3,4] [] [c,c,c] [] Zy6 <|
.nil
theorem ZQX:OK_ ZZT:=ok_ ZZT Tryz.func214 ⟨ZVm,ZQY,tr_⟩
def Z1h:=fd_ 262 Tryz.f262 [] [y,y] [V] ZvA <|
.lo 94011 [0,1,5] [] [c,c,m] [] 0 [5] [] [m] [] Zxl ZCa (fun _=> .nil) <|
.nil
theorem ZVk:OK_ Z1h:=ok_ Z1h Tryz.func262
def Z1g:=fd_ 213 Tryz.f213 [Z1m.sg,Z1l.sg,ZZW.sg,Z1k.sg,ZZT.sg,Z1h.sg] [y,G] [V,n] Ztr <|
.j 9141213141011 [24,25] [] ag [] Zve <|
.j 913141213141011 [28] [] [d] [] Zvd <|
.j 91313141011 [0,6,17,31] [] [c,m,c,d] [] ZrD <|
.j 91121313141011 [7,8,9,49] [] bl [] Zp4 <|
.j 9111 [] [] [] [] Zp3 <|
.nil
theorem ZVj:OK_ Z1g:=ok_ Z1g Tryz.func213 ⟨ZVp,ZVo,ZQ0,ZVn,ZQX,ZVk,tr_⟩
def Z1f:=fd_ 180 Tryz.f180 [ZTn.sg] [I,I] [ac] ZyN <|
.lo 941011 [0,1,5,6] [] [k,k,q,c] [i] 0 [5] [] [q] [i] Zsv ZzW (fun n0=> .lo 94101401541011 [0,1,5,6,7,8] [] [k,k,q,c,Q,c] [i] 2 [0,1,5,6,7] [] [k,k,q,c,Q] [i] ZvH (ZzX (Zsv n0)) (fun _=> .nil) <|
.nil) <|
.nil
theorem ZVi:OK_ Z1f:=ok_ Z1f Tryz.func180 ⟨ZJW,tr_⟩
def ZVh:=fd_ 131 Tryz.f131 [Z1f.sg,ZWc.sg] [O,O] [aj] Zjm .nil
theorem ZKZ:OK_ ZVh:=ok_ ZVh Tryz.func131 ⟨ZVi,ZK2,tr_⟩
def Z1e:=fd_ 178 Tryz.f178 [] [I,I] [.own (.int .u32)] ZuY <|
.lo 9410111 [0,1,5,6,7] [] bu [i] 0 [5,6] [] [q,Q] [i] ZpN Zz5 (fun n0=> .j 9105410111 [0,1,5,6,7,17] [] [k,k,q,Q,c,d] [i] (ZqP (ZpN n0)) <|
.j 914015410111 [0,1,5,6,7] [] bu [i] (Zsz (ZpN n0)) <|
.j 9114015410111 [0,1,5,6,7] [] bu [i] (Zsy (ZpN n0)) <|
.nil) <|
.nil
theorem ZVg:OK_ Z1e:=ok_ Z1e Tryz.func178
def ZWw:=fd_ 130 Tryz.f130 [Z1e.sg,ZWc.sg,ZWy.sg,ZZw.sg] [O,O] [aj] Zpm .nil
theorem ZL6:OK_ ZWw:=ok_ ZWw Tryz.func130 ⟨ZVg,ZK2,ZL8,ZN2,tr_⟩
def ZZn:=fd_ 132 Tryz.f132 [ZWc.sg] [O] [aj] Zqc .nil
theorem ZNY:OK_ ZZn:=ok_ ZZn Tryz.func132 ⟨ZK2,tr_⟩
def Z1d:=fd_ 216 Tryz.f216 [ZZW.sg,ZZx.sg,ZVh.sg,ZWw.sg,ZZn.sg,ZZv.sg] [G] [A,n] ZuG <|
.lo 94101111 [2,4,6,8,9,27,28,29] [100008] [e,d,m,l,H,aB,c,c] [aF,af,af,aS,i,i] 0 [2,4,6,8,9] [] [e,d,m,l,H] bw ZsY ZwR (fun _=> .nil) <|
.lo 941011111 [2,4,8,9,43] [] [e,d,l,H,.o (.it (0,4,1))] [aF,af,af,.sit,i,i] 2 [2,4,8,9] [] [e,d,l,H] bw ZqD ZwQ (fun n0=> .j 91541011111 [2,4,8,9,43,45] [] [e,d,l,H,.o (.it (0,4,1)),d] [aF,af,af,.sit,i,i] (Zs0 (ZqD n0)) <|
.nil) <|
.j 91111111 [2,8,9] [] [e,l,H] bw ZsZ <|
.nil
theorem ZVf:OK_ Z1d:=ok_ Z1d Tryz.func216 ⟨ZQ0,ZN3,ZKZ,ZL6,ZNY,ZN1,tr_⟩
def Z1c:=fd_ 173 Tryz.f173 [Z1g.sg,ZZT.sg,ZZU.sg,Z1d.sg,ZZ2.sg] [y,G] [A,n] Zwl <|
.j 91011 [0,4,6,26] [] [c,e,m,d] ab ZtP <|
.j 911111 [4,8] [] [e,c] ab ZtO <|
.nil
theorem ZVe:OK_ Z1c:=ok_ Z1c Tryz.func173 ⟨ZVj,ZQX,ZQY,ZVf,ZQ8,tr_⟩
def Z1b:=fd_ 127 Tryz.f127 [Z1c.sg] [aV] [A,n] Zvy .nil
theorem ZVd:OK_ Z1b:=ok_ Z1b Tryz.func127 ⟨ZVe,tr_⟩
def Z09:=fd_ 86 Tryz.f86 [Z1b.sg,ZQ2.sg,ZZu.sg] [am] [A] Zs8 <|
.lo 941011 [2,3,4,10,11,12] [] bi ab 0 [2,3,4] [] [e,c,c] ab Zrk Zx7 (fun n0=> .j 9111541011 [2,3,4,10,11,12] [] bi ab (Zrl (Zrk n0)) <|
.nil) <|
.nil
theorem ZVc:OK_ Z09:=ok_ Z09 Tryz.func86 ⟨ZVd,ZHS,ZN0,tr_⟩
def ZWv:=fd_ 129 Tryz.f129 [ZZ5.sg,ZWy.sg,ZZ3.sg] [B] [n] ZoR <|
.j 9101 [1,24] [] [e,d] [L] Zp9 <|
.nil
theorem ZL5:OK_ ZWv:=ok_ ZWv Tryz.func129 ⟨ZRb,ZL8,ZQ9,tr_⟩
def ZZm:=fd_ 133 Tryz.f133 [ZZv.sg] [O,O] [A,u] ZqL <|
.j 91011 [4,6,21] [] aU [bF,L,i,i] Ztv <|
.nil
theorem ZNX:OK_ ZZm:=ok_ ZZm Tryz.func133 ⟨ZN1,tr_⟩
def Z08:=fd_ 126 Tryz.f126 [ZWv.sg,ZVh.sg,ZZn.sg,ZWw.sg,ZZm.sg] [B,B] [A,u] ZyP <|
.j 9101 [2,3,4,13] [] aI a4 ZvM <|
.nil
theorem ZVb:OK_ Z08:=ok_ Z08 Tryz.func126 ⟨ZL5,ZKZ,ZNY,ZL6,ZNX,tr_⟩
def ZZl:=fd_ 85 Tryz.f85 [Z08.sg] [B,B] [A] ZpX .nil
theorem ZNW:OK_ ZZl:=ok_ ZZl Tryz.func85 ⟨ZVb,tr_⟩
def ZZS:=fd_ 90 Tryz.f90 [ZWv.sg,ZVh.sg,ZZn.sg,ZWw.sg] [B,B] [u] ZuZ <|
.j 9101 [2,3,13] [] aU [L,L] ZvO <|
.nil
theorem ZQW:OK_ ZZS:=ok_ ZZS Tryz.func90 ⟨ZL5,ZKZ,ZNY,ZL6,tr_⟩
def ZVa:=fd_ 52 Tryz.f52 [ZZS.sg] [B,B] [n] ZpF .nil
theorem ZKY:OK_ ZVa:=ok_ ZVa Tryz.func52 ⟨ZQW,tr_⟩
def Z07:=fd_ 84 Tryz.f84 [ZQ2.sg,ZVa.sg,ZZl.sg] [B] [A] ZyL .nil
theorem ZU9:OK_ Z07:=ok_ Z07 Tryz.func84 ⟨ZHS,ZKY,ZNW,tr_⟩
def Z06:=fd_ 128 Tryz.f128 [ZWv.sg,ZVh.sg,ZWw.sg,ZZm.sg] [B,B] [A,u] ZyR <|
.j 9101 [2,3,4,13] [] aI a4 ZvP <|
.nil
theorem ZU8:OK_ Z06:=ok_ Z06 Tryz.func128 ⟨ZL5,ZKZ,ZL6,ZNX,tr_⟩
def ZZk:=fd_ 87 Tryz.f87 [Z06.sg] [B,B] [A] ZpY .nil
theorem ZNV:OK_ ZZk:=ok_ ZZk Tryz.func87 ⟨ZU8,tr_⟩
def Z05:=fd_ 91 Tryz.f91 [ZWv.sg,ZVh.sg,ZZm.sg] [B,B] [A,u] ZyQ <|
.j 9101 [2,3,4,13] [] aI a4 ZvN <|
.nil
theorem ZU7:OK_ Z05:=ok_ Z05 Tryz.func91 ⟨ZL5,ZKZ,ZNX,tr_⟩
def ZZR:=fd_ 40 Tryz.f40 [Z05.sg] [B,B] [A] ZuV .nil
theorem ZQV:OK_ ZZR:=ok_ ZZR Tryz.func40 ⟨ZU7,tr_⟩
def Z04:=fd_ 37 Tryz.f37 [Z1r.sg,Z1n.sg,ZQ2.sg,ZV6.sg,Z09.sg,ZZl.sg,Z07.sg,ZZk.sg,ZWx.sg,ZZR.sg] [am,am] [A] Zzr <|
.j 91011 [2,3,4,5,6,24] [] [e,l,H,al,bc,d] [aM,aM,aW,L,L,i,i] Zq7 <|
.nil
theorem ZU6:OK_ Z04:=ok_ Z04 Tryz.func37 ⟨ZVu,ZVq,ZHS,ZK1,ZVc,ZNW,ZU9,ZNV,ZL7,ZQV,tr_⟩
def Z03:=fd_ 88 Tryz.f88 [ZQ2.sg,ZVa.sg] [bn] [u] Zwj <|
.lr 941011 [0,14,15,16] [] bk [] 0 [0] [] [M] [] ZtL Zx4 (fun _=> .nil) <|
.lr 9410111 [0,24,25,26] [] bk [] 2 [0] [] [M] [] ZtK Zx3 (fun _=> .nil) <|
.lr 94101111 [38,39,40] [] [M,c,c] [] 4 [] [] [] [] Zri Zx1 (fun n0=> .lr 9411401154101111 [38,39,40,44,45,46] [] [M,c,c,aH,c,c] [] 6 [38,39,40] [] [M,c,c] [] ZtJ (Zx2 (Zri n0)) (fun _=> .nil) <|
.nil) <|
.nil
theorem ZU5:OK_ Z03:=ok_ Z03 Tryz.func88 ⟨ZHS,ZKY,tr_⟩
noncomputable def ZSx (n_:Nat):FD U:=⟨89,Tryz.f89,[],[.p (.sl (.sl (.st 4))),.p (.int .i64),.p (.int .i64),.map (.st 7) (.st 4)],[(3,.map (.st 7) (.st 4))],[.p (.st 4)],[],[],ZkT n_,ZkT n_,
.nil⟩
noncomputable def Z02 (n_:Nat):FD U:=⟨89,Tryz.f89,[ZQ2.sg,(ZSx n_).sg,ZZk.sg,ZVa.sg],[.p (.sl (.sl (.st 4))),.p (.int .i64),.p (.int .i64),.map (.st 7) (.st 4)],[(3,.map (.st 7) (.st 4))],[.p (.st 4)],[],[],ZzN (ZkT n_),ZkT (n_+1),
.lo 941011111 [0,1,2,3,8,9,12,41,42,43] [] bP aT 0 [3,8,9,12] [] [bJ,e,l,H] aT (ZoN (ZkT n_)) (Zy4 (ZkT n_)) (fun n0=> .j 9111541011111 [0,1,2,3,8,9,12,41,42,43] [] bP aT ((Zqo (ZkT n_)) ((ZoN (ZkT n_)) n0)) <|
.nil) <|
.nil⟩
theorem ZSw (n_:Nat):Zez X0.E 89 (ZSx n_).sig:=by
 induction n_ with
 |zero=>
  refine ZkU.ok (S:=(ZSx 0).FS) uok fun v r h=> ?_
  have h2:(none:Option _)=some r:=h;cases h2
 |succ n_ ih=>exact(Z02 n_).ok G0 Tryz.func89 ⟨ZHS,ih,ZNV,ZKY,trivial⟩ rfl rfl (by kernel_rfl)
noncomputable abbrev D214:FD U:=ZSx big
theorem ZU4:Zez X0.E 89 D214.sig:=ZSw big
def Z01:=fd_ 38 Tryz.f38 [Z03.sg,D214.sg,ZQ2.sg,ZZS.sg,ZZk.sg,ZV6.sg,ZZl.sg] [bn] [a8,A,u] Zxi <|
.lo 94101111111 [0,3,6,7,8,9,10,29,30,31] [] [M,e,aY,c,H,al,aK,M,c,c] a2 0 [3,8,10] [] [e,l,ad] [aE,L,Y,i,i] ZoO ZDp (fun n0=> .lo 941011401154101111111 [0,3,6,7,8,9,10,11,12,13,29,30,31,36,37,38] [] bK a2 2 [0,3,6,7,8,9,10,12,13,29,30,31] [] [M,e,aY,c,H,al,aK,aH,c,M,c,c] a2 ZoI (Zy5 (ZoO n0)) (fun n1=> .j 91014011541011401154101111111 [0,3,6,7,8,9,10,11,12,13,14,15,29,30,31,36,37,38,54] [] [M,e,aY,c,H,al,aK,c,aH,c,c,.o (.ptr (0,6,1) 0 0),M,c,c,aH,c,c,d] [bE,aG,L,L,Y,L,i,i] (Zqp (ZoI n1)) <|
.j 9111541011401154101111111 [0,3,6,7,8,9,10,11,12,13,29,30,31,36,37,38] [] bK a2 (ZrU (ZoI n1)) <|
.nil) <|
.j 91111401154101111111 [0,3,6,7,8,9,10,13,29,30,31] [] [M,e,aY,c,H,al,aK,c,M,c,c] a2 (ZrT (ZoO n0)) <|
.nil) <|
.nil
theorem ZU3:OK_ Z01:=ok_ Z01 Tryz.func38 ⟨ZU5,ZU4,ZHS,ZQW,ZNV,ZK1,ZNW,tr_⟩
def Z00:=fd_ 14 Tryz.f14 [ZTm.sg,Z04.sg,Z01.sg,ZQ2.sg,ZWx.sg,ZZR.sg] [N,N] [a8,A,u] Zq6 <|
.j 91401 [2,3,5,17] [] aI bj Zrh <|
.j 9131401 [2,3,5,27] [] aI bj ZtI <|
.lo 9410111 [2,3,5,7,40,41,42] [] [e,l,H,aB,W,c,c] bf 1 [2,3,5,7] [] [e,l,H,aB] bf Zrg ZxZ (fun n0=> .lo 94101140115410111 [2,3,5,7,9,10,40,41,42,47,48,49] [] bL bQ 3 [2,3,5,7,10,40,41,42] [] [e,l,H,aB,aK,W,c,c] [z,z,aW,ba,bq,i,i] ZtH (Zx0 (Zrg n0)) (fun _=> .nil) <|
.nil) <|
.nil
theorem ZU2:OK_ Z00:=ok_ Z00 Tryz.func14 ⟨ZJV,ZU6,ZU3,ZHS,ZL7,ZQV,tr_⟩
def Z0Z:=fd_ 53 Tryz.f53 [ZVa.sg,ZV6.sg] [bA,.p (.st 11)] [.own (.st 11)] ZyJ <|
.lo 94011 [0,3,5] [] [aL,e,c] [.boxS (.st 11)] 0 [0,3,5] [] [aL,e,c] [.boxS (.st 11)] Zsp ZzM (fun n0=> .j 91054011 [0,3,5,42] [] [aL,e,c,d] [.boxS (.st 11)] (Zpp (Zsp n0)) <|
.nil) <|
.nil
theorem ZU1:OK_ Z0Z:=ok_ Z0Z Tryz.func53 ⟨ZKY,ZK1,tr_⟩
def Z0Y:=fd_ 22 Tryz.f22 [Z1u.sg,ZTm.sg,Z00.sg,ZQ2.sg,ZVa.sg,Z0Z.sg] [aO,N,y] [.p (.sl (.st 11)),u] ZpW <|
.j 91401 [0,2,4,14] [] bm [z] ZpK <|
.j 9131401 [0,2,4,21] [] bm [z] Zso <|
.lo 9410111 [2,4,8,35,36,37] [] bh [z,ah] 1 [2,8] [] [c,q] [ah] ZpJ ZzL (fun n0=> .j 911140115410111 [2,4,8,10,11,12,35,36,37,54] [] bO [z,ah,z,Y,L] (ZqJ (ZpJ n0)) <|
.j 91115410111 [2,4,8,35,36,37] [] bh [z,ah] (Zsn (ZpJ n0)) <|
.nil) <|
.nil
theorem ZU0:OK_ Z0Y:=ok_ Z0Y Tryz.func22 ⟨ZVx,ZJV,ZU2,ZHS,ZKY,ZU1,tr_⟩
def Z0X:=fd_ 23 Tryz.f23 [ZV6.sg,ZZ6.sg] [bA,bA] [n] Zrz <|
.lr 941011 [1,12,13,14] [] [aL,aL,c,c] [] 0 [] [] [] [] ZrR Zy3 (fun n0=> .j 9114011541011 [1,12,13,14,48] [] [aL,aL,c,c,d] [] (ZrS (ZrR n0)) <|
.nil) <|
.nil
theorem ZUZ:OK_ Z0X:=ok_ Z0X Tryz.func23 ⟨ZK1,ZRc,tr_⟩
def D220:=fd_ 4 Tryz.f4 [D0.sg,Z11.sg,Z10.sg,Z1Z.sg,Z1J.sg,ZQ6.sg,ZZY.sg,ZZ1.sg,Z1v.sg,Z0Y.sg,Z0X.sg] [ao,aO,y] [n] Zt6 <|
.j 9101 [0,1,2,27] [] [K,aa,c,d] [] Zqh <|
.lr 941011 [0,1,2,29,30,31] [] [K,aa,c,aa,c,c] [] 0 [0,1,2] [] [K,aa,c] [] Zps ZsC (fun _=> .nil) <|
.lr 9410111111 [2,11,68,69,70] [] [c,e,ar,c,c] [z,bd] 2 [] [] [] [] Zo8 ZsA (fun n0=> .lr 941140115410111111 [2,11,13,68,69,70,77,78,79] [] [c,e,aa,ar,c,c,ad,c,c] [z,bd,Y] 4 [2,11,68,69,70] [] [c,e,ar,c,c] [z,bd] Zo7 (ZsB (Zo8 n0)) (fun n1=> .j 911114011541140115410111111 [2,11,13,68,69,70,77,78,79,105] [] [c,e,aa,ar,c,c,ad,c,c,d] [z,bd,Y] (Zqg (Zo7 n1)) <|
.nil) <|
.nil) <|
.nil
theorem D220_ok:OK_ D220:=ok_ D220 Tryz.func4 ⟨Z2g,ZV5,ZV4,ZV3,ZVM,ZHT,ZQ3,ZQ7,ZVy,ZU0,ZUZ,tr_⟩
end
end Go.Proofs

/- Printed by wip/tools/tgen.py: walks. -/
import Derived.Test.YtcjejmbjlhlkhaaGreatDoorCtU
import Derived.Test.YtcjejmbjlhlkhaaGreatDoorCtX
import Derived.Test.YtcjejmbjlhlkhaaGreatDoorCtWX
set_option linter.unusedVariables false
set_option linter.unusedSimpArgs false
set_option linter.unusedSectionVars false
namespace Go.Proofs
open Go Eng
set_option maxRecDepth 100000
noncomputable section
abbrev c:Sh:= .o (.v (.int .i64))
abbrev i:ShO:= .arr (.int .u32) false
abbrev e:Sh:= .o (.ptr (0,1,1) 0 0)
abbrev d:Sh:= .o (.v .bool)
abbrev n:Sh:= .o (.v (.sl (.int .u32)))
abbrev q:Sh:= .o (.ptr (0,2,1) 0 0)
abbrev l:Sh:= .o (.full (0,1,1))
abbrev bY:ShO:= .box [.o (.v (.int .i64)),.o (.v .bool),.o (.full (0,3,1)),.o (.v .bool),.o (.full (0,4,1)),.o (.v .bool),.o (.full (0,5,1)),.o (.v .bool),.o (.full (0,6,1)),.o (.v .bool),.o (.full (0,7,1)),.o (.v .bool),.o (.full (0,8,1)),.o (.v .bool),.o (.full (0,9,1)),.o (.v .bool),.o (.full (0,10,1)),.o (.v .bool),.o (.full (0,11,1)),.o (.v .bool),.o (.full (0,12,1))]
abbrev m:ShO:= .arr (.st 13) false
abbrev O:Sh:= .o (.full (0,0,0))
abbrev I:ShO:= .arr (.st 10) false
abbrev aN:ShO:= .box [.o (.v (.int .i64)),.o (.v .str),.o (.full (0,3,1))]
abbrev J:Sh:= .o (.full (0,2,1))
abbrev M:Sh:= .o (.ptr (0,3,1) 0 0)
abbrev K:Sh:= .o (.v (.sl (.st 2)))
abbrev B:Sh:= .o (.v .str)
abbrev bf:ShO:= .box [.o (.v .bool),.o (.full (0,4,1)),.o (.v .bool),.o (.full (0,5,1))]
abbrev A:ShO:= .boxS (.st 1)
abbrev Q:Sh:= .o (.full (0,3,1))
abbrev W:Sh:= .o (.ptr (0,4,1) 0 0)
abbrev a2:ShO:= .box [.o (.v (.int .i64)),.o (.v .str),.o (.full (0,4,1))]
abbrev V:Sh:= .o (.v (.sl (.st 1)))
abbrev N:ShO:= .boxS (.st 2)
abbrev ah:ShO:= .arr (.st 1) false
abbrev aD:ShO:= .arr (.int .i64) false
abbrev T:Sh:= .o (.v (.int .u64))
abbrev ai:Sh:= .fn 35 [] []
abbrev Y:Sh:= .o (.v (.sl (.int .i64)))
abbrev bI:ShO:= .box [.o (.v (.int .i64)),.o (.v (.int .i64)),.o (.v .str),.o (.full (0,4,1))]
abbrev ab:Sh:= .o (.v (.sl (.st 10)))
abbrev bZ:ShO:= .box [.o (.v .bool),.o (.full (0,2,1)),.o (.v .bool),.o (.full (0,3,1))]
abbrev ac:ShO:= .boxS (.st 4)
abbrev b0:ShO:= .box [.o (.v (.int .i64)),.o (.v (.int .i64)),.o (.v .str),.o (.full (0,3,1))]
abbrev au:ShO:= .arr (.st 5) false
abbrev aa:ShO:= .boxS (.st 7)
abbrev af:Sh:= .o (.v (.int .u32))
abbrev bh:ShO:= .box [.o (.v .bool),.o (.full (0,5,1)),.o (.v .bool),.o (.full (0,6,1))]
abbrev ar:Sh:= .o (.ptr (0,0,0) 0 0)
abbrev aE:Sh:= .o (.ptr (0,5,1) 0 0)
abbrev av:ShO:= .arr (.st 2) false
abbrev bi:ShO:= .box [.o (.v (.int .i64)),.o (.v .str),.o (.full (0,5,1))]
abbrev al:ShO:= .boxS (.st 3)
abbrev ax:Sh:= .o (.v (.sl (.st 0)))
abbrev aO:ShO:= .arr .str false
abbrev aw:ShO:= .arr (.st 0) false
abbrev ay:ShO:= .boxS (.st 10)
abbrev aP:ShO:= .boxS (.st 8)
abbrev aA:Sh:= .o (.sl (0,0,0))
abbrev aQ:Sh:= .o (.full (0,5,1))
abbrev bJ:ShO:= .box [.o (.v .bool),.o (.full (0,3,1)),.o (.v .bool),.o (.full (0,4,1))]
abbrev aI:Sh:= .o (.v (.sl (.st 13)))
abbrev aR:ShO:= .arr (.int .u8) false
abbrev br:ShO:= .box [.o (.v .str),.o (.full (0,4,1))]
abbrev bs:ShO:= .box [.o (.v .str),.o (.full (0,5,1))]
abbrev bt:ShO:= .box [.o (.v .str),.o (.full (0,6,1))]
abbrev aS:Sh:= .o (.full (0,4,1))
abbrev bj:ShO:= .arr (.sl (.st 2)) false
abbrev bK:ShO:= .box [.o (.v .bool),.o (.full (0,2,1))]
abbrev bk:ShO:= .map .str (.int .i64)
abbrev bL:ShO:= .box [.o (.v .str),.o (.full (0,3,1))]
abbrev b1:ShO:= .boxS (.st 5)
abbrev bu:ShO:= .boxS (.st 6)
abbrev bl:Sh:= .o (.map (0,2,1))
abbrev a3:ShO:= .boxS (.st 0)
abbrev a4:Sh:= .fn 57 [] []
abbrev a5:Sh:= .fn 87 [] []
abbrev bv:Sh:= .o (.full (0,6,1))
abbrev bw:Sh:= .o (.full (0,7,1))
abbrev an:List Sh:=[O,c,ai,c,c]
abbrev bm:List ShO:=[bY,bu,i,i,i,i,i,i,i,i,i,i]
abbrev aJ:List Sh:=[O,c,c,ai,c,c]
abbrev aK:List ShO:=[ac,ac,bf,i,i]
abbrev aT:List Sh:=[O,c,ai,c,c,d]
abbrev aU:List ShO:=[I,I,au,b1,aO]
abbrev aB:List ShO:=[N,aP,aD]
abbrev bM:List Sh:=[c,e,q,Q,W,c,aE,K,c,c,V,c,c,V,c,c]
abbrev am:List Sh:=[B,d]
abbrev bN:List Sh:=[c,ab,l,q,c,M,K,c,c,V,c,c,V,c,c]
abbrev aC:List Sh:=[n,n,c]
abbrev a6:List ShO:=[aa,b0,bI,aD,aD]
abbrev bO:List Sh:=[c,K,e,J,M,W,aE,J,c,c,V,c,c]
abbrev bn:List Sh:=[O,c,c,ai,c,c,d]
abbrev bx:List ShO:=[aa,av,A,A,N,au,au]
abbrev bz:List Sh:=[e,q,Q,c,c,d,c,c]
abbrev bP:List Sh:=[l,J,Q,B,W,aQ,c,c,J,c,c]
abbrev bQ:List Sh:=[l,J,Q,B,W,aQ,c,c,l,c,c]
abbrev a7:List ShO:=[I,I,aO,ay]
abbrev a8:List ShO:=[aN,a2,ah,ah]
abbrev bR:List Sh:=[c,e,q,Q,W,K,c,c,V,c,c]
abbrev bS:List Sh:=[l,J,Q,W,c,l,c,c,J,c,c]
abbrev bT:List Sh:=[e,q,Q,c,c,d,c,c,Q,c,c]
abbrev bU:List Sh:=[l,J,Q,W,l,c,c,J,c,c]
abbrev bV:List Sh:=[c,ab,l,q,K,c,c,V,c,c]
abbrev a9:List Sh:=[e,q,M,d]
abbrev bo:List Sh:=[K,c,e,q,d]
abbrev bW:List Sh:=[O,c,c,c,ai,d,d,c,c,d]
abbrev bX:List Sh:=[c,K,e,J,M,W,J,c,c]
abbrev aV:List ShO:=[bZ,i,i]
abbrev aW:List Sh:=[e,q,d]
abbrev aF:List Sh:=[e,q]
abbrev ba:List ShO:=[N,aN,ah]
abbrev bA:List ShO:=[aa,aN,a2,ah,ah]
abbrev bp:List Sh:=[d,B,B,d]
abbrev bb:List Sh:=[d,B,B]
abbrev bB:List ShO:=[bf,al,al,i,i]
abbrev bC:List Sh:=[n,n,l,T,c]
abbrev bD:List Sh:=[O,c,c,ai,c]
abbrev bE:List Sh:=[c,c,c,c,c]
abbrev k:ShA:= .p (.int .i64)
abbrev y:ShR:= .p (.int .i64)
abbrev L:ShA:= .p (.sl (.int .u32))
abbrev u:ShA:= .p (.st 4)
abbrev z:ShR:= .p .bool
abbrev G:ShR:= .p (.st 4)
abbrev ag:ShR:= .p (.sl (.int .u32))
abbrev H:ShA:= .p .str
abbrev X:ShA:= .p (.st 3)
abbrev aj:ShA:= .p (.int .u32)
abbrev ao:ShA:= .arr (.st 13)
abbrev ae:ShA:= .p (.st 1)
abbrev ap:ShA:= .fn 35 [] []
abbrev ak:ShR:= .p (.st 3)
abbrev az:ShR:= .p (.int .u32)
abbrev aq:ShA:= .p (.st 2)
abbrev ad:ShR:= .p .str
abbrev aX:ShA:= .p (.sl (.int .i64))
abbrev aL:ShA:= .p (.sl (.st 2))
abbrev aG:ShA:= .box (.st 7)
abbrev aH:ShA:= .p (.st 10)
abbrev aY:ShA:= .p (.int .u64)
abbrev aZ:ShA:= .arr (.st 10)
abbrev bc:ShR:= .p (.int .u64)
abbrev aM:ShR:= .p (.st 2)
abbrev a0:ShA:= .p (.st 12)
abbrev a1:ShA:= .p (.st 0)
abbrev bd:ShA:= .p (.st 13)
abbrev bq:ShR:= .own (.st 10)
abbrev bF:ShA:= .p (.sl (.st 10))
abbrev bG:ShA:= .p (.sl (.st 13))
abbrev bH:ShA:= .part (.int .u32)
abbrev be:ShR:= .p (.st 6)
noncomputable abbrev fd_ (f:Nat) (fn:Func) (sg:List (Nat×Zi8 U)) (a:List ShA) (r:List ShR) (s:Zi3 (ZjH U a []) (Option (HT (oTy U [] r)))) (t:CT U (HT (oTy U [] r)) (HT (oTy U [] r))):FD U:=⟨f,fn,sg,a,[],r,[],[],s,s,t⟩
abbrev OK_ (D:FD U):Prop:=Zei X0.E D.f D.sig
theorem ok_ (D:FD U) (hf:X0.prog.funcs[D.f]? =some D.fn) (hs:ZcY X0 D.sigs:=by trivial) (h:D.lhs X0=D.rhs2:=by kernel_rfl) (ha:D.os.any (fun x=>isAr x.2)=false:=by rfl) (hw:D.w=D.s:=by rfl):OK_ D:=D.ok2 G0 hf hs ha hw h
theorem ZLo (D:FD U) (hf:X0.prog.funcs[D.f]? =some D.fn) (hs:ZcY X0 D.sigs:=by trivial) (h:D.lhs X0=D.rhs2:=by kernel_rfl) (hw:(fun v=>app (ZjH U D.as []) D.w (Zlj (r:=[]) D.as v ()))=fun v=>(app (ZjH U D.as []) D.s (Zlj (r:=[]) D.as v ())).bind fun r=>chk (ZhK (Zdd D.as v) (D.b r)) (some r):=by kernel_rfl):OK_ D:=D.okA2 G0 hf hs hw h
theorem tr_:True:=trivial
def D0:=fd_ 4 Tryz.f4 [] [aX] [z] ZC5 .nil
theorem Z3P:OK_ D0:=ok_ D0 Tryz.func4
def D1:=fd_ 213 Tryz.f213 [] [L] [ag] Zpn <|
.lo 9401 [0] [] [n] [] 0 [0] [] [n] [] ZqC ZEF (fun n0=> .j 9105401 [0,14] [] [n,d] [] (ZAK (ZqC n0)) <|
.nil) <|
.nil
theorem ZQg:OK_ D1:=ok_ D1 Tryz.func213
def D2:=fd_ 166 Tryz.f166 [D1.sg] [.p .bool,L] [ak] ZoT <|
.j 9111 [4] [] [e] [al] Zxx <|
.nil
theorem ZRx:OK_ D2:=ok_ D2 Tryz.func166 ⟨ZQg,tr_⟩
def D3:=fd_ 120 Tryz.f120 [D2.sg] [k] [ak] ZoL <|
.j 9111 [0,2,3] [] [c,e,T] [bK,i] ZuK <|
.nil
theorem ZV8:OK_ D3:=ok_ D3 Tryz.func120 ⟨ZRx,tr_⟩
def D4:=fd_ 163 Tryz.f163 [] [X] [z] Zru <|
.j 9111 [2] [] [d] [] Zpu <|
.nil
theorem Z0o:OK_ D4:=ok_ D4 Tryz.func163
def D5:=fd_ 211 Tryz.f211 [D1.sg] [L] [ag] ZrV <|
.lo 941011 [0,3,9,10] [] [n,l,c,c] [i] 0 [3] [] [l] [i] ZtJ ZAL (fun n0=> .j 9111541011 [0,3,9,10] [] [n,l,c,c] [i] (ZtK (ZtJ n0)) <|
.nil) <|
.nil
theorem Z2g:OK_ D5:=ok_ D5 Tryz.func211 ⟨ZQg,tr_⟩
def D6:=fd_ 164 Tryz.f164 [] [L,L] [y] Zqm <|
.lr 941011 [0,1,5] [] aC [] 0 [] [] [] [] Zxw ZBv (fun _=> .nil) <|
.nil
theorem ZTc:OK_ D6:=ok_ D6 Tryz.func164
def D7:=fd_ 168 Tryz.f168 [D1.sg] [L,L] [ag] ZsC <|
.lo 9410111 [0,1,5,6,7] [] [n,n,l,c,c] [i] 0 [5] [] [l] [i] Zuk ZBm (fun n0=> .j 9114015410111 [0,1,5,6,7] [] [n,n,l,c,c] [i] (Zul (Zuk n0)) <|
.nil) <|
.nil
theorem ZV7:OK_ D7:=ok_ D7 Tryz.func168 ⟨ZQg,tr_⟩
def D8:=fd_ 212 Tryz.f212 [D1.sg] [L,aj] [ag] ZuS <|
.lo 941011 [0,1,5,6] [] [n,af,l,c] [i] 0 [1,5] [] [af,l] [i] ZvV ZzD (fun _=> .nil) <|
.nil
theorem ZZ4:OK_ D8:=ok_ D8 Tryz.func212 ⟨ZQg,tr_⟩
def D9:=fd_ 165 Tryz.f165 [D5.sg,D6.sg,D7.sg,D8.sg] [L,L] [ag] ZwO <|
.lo 94011 [0,1,5] [] aC [] 0 [0,1,5] [] aC [] Zst ZBt (fun n0=> .j 91054011 [0,1,5,17] [] [n,n,c,d] [] (Zxv (Zst n0)) <|
.nil) <|
.lo 940111 [0,1,5] [] aC [] 2 [0,5] [] [n,c] [] ZoC ZBq (fun n0=> .lo 94041540111 [0,1,5] [] aC [] 4 [0,1,5] [] aC [] Zp5 (ZBs (ZoC n0)) (fun _=> .nil) <|
.lo 940141540111 [0,1,5] [] aC [] 6 [0,1,5] [] aC [] Zp4 (ZBr (ZoC n0)) (fun _=> .nil) <|
.j 911141540111 [0,1,5] [] aC [] (Zxu (ZoC n0)) <|
.nil) <|
.lo 9401111 [0,5] [] [n,c] [] 8 [0] [] [n] [] Zss ZBp (fun _=> .nil) <|
.nil
theorem ZZX:OK_ D9:=ok_ D9 Tryz.func165 ⟨Z2g,ZTc,ZV7,ZZ4,tr_⟩
def D10:=fd_ 242 Tryz.f242 [] [L,k] [az] ZAb .nil
theorem Z0M:OK_ D10:=ok_ D10 Tryz.func242
def D11:=fd_ 221 Tryz.f221 [D10.sg,D8.sg,D6.sg,D7.sg,D1.sg] [L,L] [ag,ag] ZwP <|
.lo 941011 [0,1,4,5,6] [5] [n,n,l,n,c] [i] 0 [4,5] [] [l,n] [i] Zun ZBu (fun n0=> .j 911541011 [0,1,4,5,6] [] [n,n,l,n,c] [i] (Zuo (Zun n0)) <|
.nil) <|
.nil
theorem Z0L:OK_ D11:=ok_ D11 Tryz.func221 ⟨Z0M,ZZ4,ZTc,ZV7,ZQg,tr_⟩
def D12:=fd_ 180 Tryz.f180 [D3.sg,D9.sg,D11.sg,D2.sg] [X,X] [G] Zsr .nil
theorem ZRO:OK_ D12:=ok_ D12 Tryz.func180 ⟨ZV8,ZZX,Z0L,ZRx,tr_⟩
def D13:=fd_ 119 Tryz.f119 [D4.sg,D12.sg] [X,X] [G,y] Zy7 <|
.j 9101 [2,3,4,13] [] a9 [al,al,bf,i,i] ZwF <|
.nil
theorem Z0J:OK_ D13:=ok_ D13 Tryz.func119 ⟨Z0o,ZRO,tr_⟩
def D14:=fd_ 81 Tryz.f81 [D3.sg,D13.sg] [k,k] [G,y] ZxO .nil
theorem ZUi:OK_ D14:=ok_ D14 Tryz.func81 ⟨ZV8,Z0J,tr_⟩
def D15:=fd_ 49 Tryz.f49 [D14.sg] [k,k] [G] ZyV .nil
theorem Z0I:OK_ D15:=ok_ D15 Tryz.func49 ⟨ZUi,tr_⟩
noncomputable def D16:FD U:=⟨22,Tryz.f22,[D15.sg],[k],[],[G],[],[],ZC2,Zod,
.nil⟩
theorem ZNN:OK_ D16:=ok_ D16 Tryz.func22 ⟨Z0I,tr_⟩ (hw:=by funext x_;exact ZMV _)
def D17:=fd_ 21 Tryz.f21 [D16.sg] [] [.own (.st 5)] Zy8 .nil
theorem Z0G:OK_ D17:=ok_ D17 Tryz.func21 ⟨ZNN,tr_⟩
def D18:=fd_ 219 Tryz.f219 [] [L] [ag] ZpH <|
.lo 9401 [0] [] [n] [] 0 [0] [] [n] [] ZrO ZEe (fun n0=> .j 9105401 [0,14] [] [n,d] [] (ZA0 (ZrO n0)) <|
.nil) <|
.nil
theorem ZMg:OK_ D18:=ok_ D18 Tryz.func219
def D19:=fd_ 179 Tryz.f179 [D18.sg] [aY] [ag] Zx9 .nil
theorem ZUg:OK_ D19:=ok_ D19 Tryz.func179 ⟨ZMg,tr_⟩
def D20:=fd_ 174 Tryz.f174 [] [.p .bool,L] [ak] Zqb <|
.j 911 [4] [] [e] [bK,i] ZBS <|
.nil
theorem ZNM:OK_ D20:=ok_ D20 Tryz.func174
def D21:=fd_ 114 Tryz.f114 [D19.sg,D20.sg] [k] [ak] ZA3 .nil
theorem Z0D:OK_ D21:=ok_ D21 Tryz.func114 ⟨ZUg,ZNM,tr_⟩
def D22:=fd_ 214 Tryz.f214 [] [X] [z] Zz3 <|
.j 9111 [2] [] [d] [] Zrf <|
.nil
theorem Z0C:OK_ D22:=ok_ D22 Tryz.func214
def D23:=fd_ 171 Tryz.f171 [D22.sg] [.p (.sl (.st 3))] [z] ZEi <|
.lr 94101 [5,6,7] [] [.o (.v (.sl (.st 3))),c,c] [] 0 [] [] [] [] ZDD ZH7 (fun _=> .nil) <|
.nil
theorem ZUf:OK_ D23:=ok_ D23 Tryz.func171 ⟨Z0C,tr_⟩
def D24:=fd_ 209 Tryz.f209 [] [k] [z] ZEm .nil
theorem Z0B:OK_ D24:=ok_ D24 Tryz.func209
def D25:=fd_ 161 Tryz.f161 [D24.sg] [k,k] [y] Zu8 .nil
theorem ZUe:OK_ D25:=ok_ D25 Tryz.func161 ⟨Z0B,tr_⟩
def D26:=fd_ 241 Tryz.f241 [] [aj] [z] ZFG .nil
theorem Z0A:OK_ D26:=ok_ D26 Tryz.func241
def D27:=fd_ 216 Tryz.f216 [D26.sg] [aj,aj] [y] ZET .nil
theorem Z0z:OK_ D27:=ok_ D27 Tryz.func216 ⟨Z0A,tr_⟩
def D28:=fd_ 173 Tryz.f173 [D25.sg,D27.sg] [L,L] [y] ZrF <|
.lr 941011 [0,1,6] [] aC [] 0 [] [] [] [] Zwg Zz0 (fun _=> .nil) <|
.nil
theorem ZRy:OK_ D28:=ok_ D28 Tryz.func173 ⟨ZUe,Z0z,tr_⟩
def D29:=fd_ 236 Tryz.f236 [] [L] [.own (.int .u32)] ZrJ <|
.j 9101 [0,4] [] [n,d] [] Zn2 <|
.nil
theorem ZUd:OK_ D29:=ok_ D29 Tryz.func236
def D30:=fd_ 259 Tryz.f259 [] [aj,aj,aj] [az,az] ZEv <|
.j 9101 [0,1,2,15] [] [af,af,af,d] [] ZyG <|
.nil
theorem Z0y:OK_ D30:=ok_ D30 Tryz.func259
def D31:=fd_ 237 Tryz.f237 [D30.sg,D18.sg] [L,aj] [ag,az] ZAi <|
.lo 9410111 [0,1,6,7,8] [] [n,af,l,af,c] [i] 0 [6,7] [] [l,af] [i] ZxH ZBB (fun _=> .nil) <|
.nil
theorem Z0x:OK_ D31:=ok_ D31 Tryz.func237 ⟨Z0y,ZMg,tr_⟩
def D32:=fd_ 138 Tryz.f138 [] [aj] [y] ZEu <|
.j 911 [0,2] [] [af,c] [] ZBQ <|
.j 9111 [0,2] [] [af,c] [] Zwl <|
.nil
theorem Z0w:OK_ D32:=ok_ D32 Tryz.func138
def D33:=fd_ 238 Tryz.f238 [D32.sg] [aj] [y] ZwJ .nil
theorem Z0v:OK_ D33:=ok_ D33 Tryz.func238 ⟨Z0w,tr_⟩
def D34:=fd_ 239 Tryz.f239 [] [L,k] [.own (.int .u32)] ZsV <|
.lo 941011 [1,5,13,14,15] [] [c,l,n,c,c] [i] 0 [5] [] [l] [i] Zwe ZzY (fun _=> .nil) <|
.nil
theorem Z0u:OK_ D34:=ok_ D34 Tryz.func239
def D35:=fd_ 220 Tryz.f220 [] [aj,aj,aj] [az,az] Zzn .nil
theorem ZUc:OK_ D35:=ok_ D35 Tryz.func220
def D36:=fd_ 217 Tryz.f217 [] [aj,aj,aj] [az,az] ZB7 .nil
theorem ZUb:OK_ D36:=ok_ D36 Tryz.func217
noncomputable def D37:FD U:=⟨240,Tryz.f240,[D35.sg,D36.sg],[bH,L],[(0,.arr (.int .u32))],[az],[],[],ZFa,ZDC,
.lo 94011111 [0,1,5,7,8] [] [aA,n,c,T,T] [i] 0 [0,1,5,7] [] [aA,n,c,T] [i] Zxc ZCy (fun n0=> .j 91054011111 [0,1,5,7,8,71] [] [aA,n,c,T,T,d] [i] (Zz2 (Zxc n0)) <|
.nil) <|
.lo 941011111111 [0,1,5,7,9,10,82,83,84] [] [aA,n,c,T,af,T,n,c,c] [i] 2 [0,1,5,7,9,10] [] [aA,n,c,T,af,T] [i] ZCw ZFd (fun _=> .nil) <|
.lo 941011111111111 [0,5,7,13,130,131,132] [] [aA,c,T,af,n,c,c] [i] 4 [0,5,7,13] [] [aA,c,T,af] [i] Zz1 ZCx (fun _=> .nil) <|
.nil⟩
theorem Z0t:OK_ D37:=ZLo D37 Tryz.func240 ⟨ZUc,ZUb,tr_⟩
noncomputable def D38:FD U:=⟨219,Tryz.f219,[],[bH],[(0,.arr (.int .u32))],[.view 0],[],[],ZBR,ZAj,
.lo 9401 [0] [] [aA] [i] 0 [0] [] [aA] [i] Zwi ZCv (fun n0=> .j 9105401 [0,14] [] [aA,d] [i] (Zzi (Zwi n0)) <|
.nil) <|
.nil⟩
theorem Z0s:OK_ D38:=ZLo D38 Tryz.func219
def D39:=fd_ 218 Tryz.f218 [] [L,k] [az] Zxa .nil
theorem ZUa:OK_ D39:=ok_ D39 Tryz.func218
noncomputable def D40:FD U:=⟨218,Tryz.f218,[],[bH,k],[(0,.arr (.int .u32))],[az],[],[],ZEd,Zzg,
.nil⟩
theorem Z0r:OK_ D40:=ZLo D40 Tryz.func218
noncomputable def D41:FD U:=⟨215,Tryz.f215,[D28.sg,D29.sg,D31.sg,D18.sg,D33.sg,D34.sg,D37.sg,D38.sg,D40.sg],[L,L],[],[ag,ag],[],[(84,7)],Ztb,Ztb,
.lo 9410111111 [8,9,10,11,12,13] [11] [c,c,l,n,J,c] [i,i] 1 [8,9,10,12] [] [c,c,l,J] [i,i] Zu6 ZCa (fun _=> .nil) <|
.lo 941011111111 [9,12,14,86,87] [] [c,l,.o (.sl (0,2,1)),c,c] [i,i] 3 [12,14] [] [l,.o (.sl (0,2,1))] [i,i] Zu5 ZB9 (fun _=> .nil) <|
.nil⟩
theorem ZT9:OK_ D41:=ok_ D41 Tryz.func215 ⟨ZRy,ZUd,Z0x,ZMg,Z0v,Z0u,Z0t,Z0s,Z0r,tr_⟩
def D42:=fd_ 172 Tryz.f172 [D41.sg] [L,L] [ag] Zwh <|
.lo 9401 [0,1] [] [n,n] [] 0 [0] [] [n] [] ZqH ZAU (fun _=> .nil) <|
.nil
theorem ZT8:OK_ D42:=ok_ D42 Tryz.func172 ⟨ZT9,tr_⟩
def D43:=fd_ 178 Tryz.f178 [D42.sg,D41.sg,D20.sg] [X,X] [G] ZsP .nil
theorem ZNL:OK_ D43:=ok_ D43 Tryz.func178 ⟨ZT8,ZT9,ZNM,tr_⟩
def D44:=fd_ 113 Tryz.f113 [D23.sg,D43.sg] [X,X] [G,y] ZFD .nil
theorem Z0q:OK_ D44:=ok_ D44 Tryz.func113 ⟨ZUf,ZNL,tr_⟩
def D45:=fd_ 76 Tryz.f76 [D21.sg,D44.sg] [k,k] [G,y] ZFC .nil
theorem ZT7:OK_ D45:=ok_ D45 Tryz.func76 ⟨Z0D,Z0q,tr_⟩
def D46:=fd_ 44 Tryz.f44 [D45.sg] [] [G] Zzm .nil
theorem ZMf:OK_ D46:=ok_ D46 Tryz.func44 ⟨ZT7,tr_⟩
def D47:=fd_ 47 Tryz.f47 [D46.sg] [] [be] ZDE .nil
theorem Z0p:OK_ D47:=ok_ D47 Tryz.func47 ⟨ZMf,tr_⟩
def D48:=fd_ 109 Tryz.f109 [D23.sg,D42.sg,D28.sg] [u] [z] Zrh <|
.j 911 [2] [] [d] [] Zxd <|
.nil
theorem ZNK:OK_ D48:=ok_ D48 Tryz.func109 ⟨ZUf,ZT8,ZRy,tr_⟩
def D49:=fd_ 177 Tryz.f177 [D18.sg] [L,L] [ag] Zt6 <|
.lo 941011 [1,5,17,18,19] [] [n,l,n,c,c] [i] 0 [5] [] [l] [i] Zux ZBz (fun n0=> .lo 9410114011541011 [1,5,6,7,8,17,18,19,24,25,26] [] [n,l,c,af,T,n,c,c,n,c,c] [i] 2 [1,5,6,8,17,18,19] [] [n,l,c,T,n,c,c] [i] ZxG (ZBA (Zux n0)) (fun _=> .nil) <|
.nil) <|
.nil
theorem ZT6:OK_ D49:=ok_ D49 Tryz.func177 ⟨ZMg,tr_⟩
def D50:=fd_ 111 Tryz.f111 [D49.sg,D20.sg] [X,X] [ak] Zn9 .nil
theorem ZPm:OK_ D50:=ok_ D50 Tryz.func111 ⟨ZT6,ZNM,tr_⟩
def D51:=fd_ 175 Tryz.f175 [D39.sg,D36.sg,D18.sg] [L,L] [ag] ZxV <|
.lo 9410111 [0,1,5,6,20,21] [] [n,n,l,af,c,c] [i] 0 [5,6] [] [l,af] [i] Zx8 ZB8 (fun _=> .nil) <|
.nil
theorem ZT5:OK_ D51:=ok_ D51 Tryz.func175 ⟨ZUa,ZUb,ZMg,tr_⟩
def D52:=fd_ 176 Tryz.f176 [D39.sg,D35.sg,D18.sg] [L,L] [ag] ZwX <|
.lo 9410111 [0,1,5,6,12,13] [] [n,n,l,af,c,c] [i] 0 [5] [] [l] [i] ZxI ZBC (fun _=> .nil) <|
.nil
theorem Z0n:OK_ D52:=ok_ D52 Tryz.func176 ⟨ZUa,ZUc,ZMg,tr_⟩
def D53:=fd_ 110 Tryz.f110 [D51.sg,D20.sg,D28.sg,D52.sg] [X,X] [ak] ZC1 .nil
theorem ZT4:OK_ D53:=ok_ D53 Tryz.func110 ⟨ZT5,ZNM,ZRy,Z0n,tr_⟩
def D54:=fd_ 170 Tryz.f170 [D50.sg,D53.sg] [u,u] [ak,ak] ZHQ .nil
theorem Z0m:OK_ D54:=ok_ D54 Tryz.func170 ⟨ZPm,ZT4,tr_⟩
def D55:=fd_ 116 Tryz.f116 [D48.sg,D54.sg,D43.sg] [.fn 170 [] [],u,u] [G,y] Ztc <|
.j 9101 [0,4,5,6,18] [] [.fn 170 [] [],e,q,M,d] aK Zt4 <|
.nil
theorem ZT3:OK_ D55:=ok_ D55 Tryz.func116 ⟨ZNK,Z0m,ZNL,tr_⟩
def D56:=fd_ 118 Tryz.f118 [D55.sg] [u,u] [G,y] ZE7 .nil
theorem Z0l:OK_ D56:=ok_ D56 Tryz.func118 ⟨ZT3,tr_⟩
def D57:=fd_ 77 Tryz.f77 [] [u,k] [G] ZCu .nil
theorem ZPl:OK_ D57:=ok_ D57 Tryz.func77
def D58:=fd_ 80 Tryz.f80 [D56.sg,D57.sg] [u,u] [G] ZFz .nil
theorem ZT2:OK_ D58:=ok_ D58 Tryz.func80 ⟨Z0l,ZPl,tr_⟩
def D59:=fd_ 117 Tryz.f117 [D50.sg] [u,u] [ak,ak] ZG2 .nil
theorem Z0k:OK_ D59:=ok_ D59 Tryz.func117 ⟨ZPm,tr_⟩
def D60:=fd_ 116 Tryz.f116 [D48.sg,D59.sg,D43.sg] [.fn 117 [] [],u,u] [G,y] ZyB <|
.j 9101 [0,4,5,6,18] [] [.fn 117 [] [],e,q,M,d] aK ZsY <|
.nil
theorem Z0j:OK_ D60:=ok_ D60 Tryz.func116 ⟨ZNK,Z0k,ZNL,tr_⟩
def D61:=fd_ 79 Tryz.f79 [D60.sg] [u,u] [G,y] ZGh .nil
theorem Z0i:OK_ D61:=ok_ D61 Tryz.func79 ⟨Z0j,tr_⟩
def D62:=fd_ 46 Tryz.f46 [D61.sg,D57.sg] [u,u] [G] ZE3 .nil
theorem ZRw:OK_ D62:=ok_ D62 Tryz.func46 ⟨Z0i,ZPl,tr_⟩
def D63:=fd_ 48 Tryz.f48 [D58.sg,D62.sg] [.p (.st 6),u,u] [be] ZEx .nil
theorem Z0h:OK_ D63:=ok_ D63 Tryz.func48 ⟨ZT2,ZRw,tr_⟩
def D64:=fd_ 20 Tryz.f20 [D47.sg,D63.sg] [.p (.sl (.st 5))] [be] ZCY <|
.lo 941011 [2,3,7,8,9] [] [e,q,.o (.v (.sl (.st 5))),c,c] bm 0 [2,3] [] aF bm ZCC ZHS (fun _=> .nil) <|
.nil
theorem ZT1:OK_ D64:=ok_ D64 Tryz.func20 ⟨Z0p,Z0h,tr_⟩
def D65:=fd_ 54 Tryz.f54 [D45.sg,D46.sg] [k,k] [G] ZIM .nil
theorem ZT0:OK_ D65:=ok_ D65 Tryz.func54 ⟨ZT7,ZMf,tr_⟩
def D66:=fd_ 112 Tryz.f112 [] [X] [ak] Zxb <|
.j 911 [2] [] [e] [al] ZAk <|
.nil
theorem ZTZ:OK_ D66:=ok_ D66 Tryz.func112
def D67:=fd_ 108 Tryz.f108 [D48.sg,D66.sg,D55.sg] [u,u] [G,y] ZGg .nil
theorem Z0g:OK_ D67:=ok_ D67 Tryz.func108 ⟨ZNK,ZTZ,ZT3,tr_⟩
def D68:=fd_ 74 Tryz.f74 [D67.sg,D57.sg] [u,u] [G] ZKc .nil
theorem Z0f:OK_ D68:=ok_ D68 Tryz.func74 ⟨Z0g,ZPl,tr_⟩
def D69:=fd_ 42 Tryz.f42 [D65.sg,D62.sg,D68.sg] [k,u,u,u] [G] ZsQ .nil
theorem Z0e:OK_ D69:=ok_ D69 Tryz.func42 ⟨ZT0,ZRw,Z0f,tr_⟩
def D70:=fd_ 75 Tryz.f75 [D48.sg,D50.sg,D66.sg,D53.sg] [u,u] [y] ZE6 <|
.j 9101 [2,3,13] [] aW [ac,ac] ZEw <|
.nil
theorem ZTY:OK_ D70:=ok_ D70 Tryz.func75 ⟨ZNK,ZPm,ZTZ,ZT4,tr_⟩
def D71:=fd_ 43 Tryz.f43 [D46.sg,D70.sg] [u] [y] ZF7 .nil
theorem ZTX:OK_ D71:=ok_ D71 Tryz.func43 ⟨ZMf,ZTY,tr_⟩
def D72:=fd_ 115 Tryz.f115 [D50.sg] [u,u] [ak,ak] ZHR .nil
theorem Z0d:OK_ D72:=ok_ D72 Tryz.func115 ⟨ZPm,tr_⟩
def D73:=fd_ 116 Tryz.f116 [D48.sg,D72.sg,D43.sg] [.fn 115 [] [],u,u] [G,y] ZyA <|
.j 9101 [0,4,5,6,18] [] [.fn 115 [] [],e,q,M,d] aK ZsX <|
.nil
theorem Z0c:OK_ D73:=ok_ D73 Tryz.func116 ⟨ZNK,Z0d,ZNL,tr_⟩
def D74:=fd_ 78 Tryz.f78 [D73.sg] [u,u] [G,y] ZGi .nil
theorem Z0b:OK_ D74:=ok_ D74 Tryz.func78 ⟨Z0c,tr_⟩
def D75:=fd_ 45 Tryz.f45 [D74.sg,D57.sg] [u,u] [G] ZHM .nil
theorem ZTW:OK_ D75:=ok_ D75 Tryz.func45 ⟨Z0b,ZPl,tr_⟩
def D76:=fd_ 19 Tryz.f19 [D69.sg,D71.sg,D46.sg,D62.sg,D75.sg] [.p (.st 6)] [G,y,z] ZyK <|
.j 91011 [2,5,6,7,47] [] [e,q,M,W,d] [bh,ac,ac,ac,i,i] Zr5 <|
.nil
theorem ZTV:OK_ D76:=ok_ D76 Tryz.func19 ⟨Z0e,ZTX,ZMf,ZRw,ZTW,tr_⟩
def D77:=fd_ 31 Tryz.f31 [] [X,X] [z] ZtE <|
.j 9101 [2,3,20] [] aW [al,al] ZuG <|
.lr 941011 [3,22,23,24] [] [e,n,c,c] [al] 0 [] [] [] [] ZuF Zym (fun _=> .nil) <|
.nil
theorem Z0a:OK_ D77:=ok_ D77 Tryz.func31
def D78:=fd_ 14 Tryz.f14 [D77.sg] [u,u] [z] ZoW <|
.j 911 [4] [] [d] [] Zwy <|
.nil
theorem ZNJ:OK_ D78:=ok_ D78 Tryz.func14 ⟨Z0a,tr_⟩
def D79:=fd_ 5 Tryz.f5 [D17.sg,D64.sg,D76.sg,D16.sg,D78.sg] [] [z] Zrx <|
.j 9111 [0] [] [d] [] Zs8 <|
.nil
theorem ZZ9:OK_ D79:=ok_ D79 Tryz.func5 ⟨Z0G,ZT1,ZTV,ZNN,ZNJ,tr_⟩
def D80:=fd_ 6 Tryz.f6 [] [aX] [.box (.st 7)] ZD8 .nil
theorem ZZ8:OK_ D80:=ok_ D80 Tryz.func6
def D81:=fd_ 15 Tryz.f15 [] [k,k] [y] Zwk .nil
theorem ZTU:OK_ D81:=ok_ D81 Tryz.func15
noncomputable def D82:FD U:=⟨8,Tryz.f8,[D81.sg],[aG,k],[(0,.box (.st 7))],[y],[],[],ZnW,ZnW,
.nil⟩
theorem ZKu:OK_ D82:=ok_ D82 Tryz.func8 ⟨ZTU,tr_⟩
noncomputable def D83:FD U:=⟨10,Tryz.f10,[D82.sg],[aG,.p (.sl .str)],[(0,.box (.st 7))],[ad],[],[],Zou,Zou,
.nil⟩
theorem ZMe:OK_ D83:=ok_ D83 Tryz.func10 ⟨ZKu,tr_⟩
noncomputable def D84:FD U:=⟨25,Tryz.f25,[D82.sg,D83.sg],[aG],[(0,.box (.st 7))],[.p (.st 0)],[],[],ZxP,ZxP,
.nil⟩
theorem ZZ7:OK_ D84:=ok_ D84 Tryz.func25 ⟨ZKu,ZMe,tr_⟩
noncomputable def D86:FD U:=⟨11,Tryz.f11,[D82.sg,D83.sg,(26,ZG7.sig)],[aG],[(0,.box (.st 7))],[.p (.st 0)],[],[],Ztz,Ztz,
.nil⟩
theorem ZTT:OK_ D86:=ok_ D86 Tryz.func11 ⟨ZKu,ZMe,ZH3,tr_⟩
noncomputable def D87:FD U:=⟨9,Tryz.f9,[D83.sg,D82.sg,D84.sg,D86.sg,(26,ZG7.sig)],[aG,k],[(0,.box (.st 7))],[.aown 1 1 (.st 0)],[],[],ZrW,ZrW,
.lo 9410111 [0,4,5,6,15,16] [] [ar,e,q,c,c,c] [aa,bL,br,aw,aw] 0 [4,5] [] aF [aa,bL,br,aw,aw] ZtM ZAN (fun n0=> .j 911140115410111 [0,4,5,6,8,15,16] [] [ar,e,q,c,M,c,c] [aa,br,bs,a3,aw,aw] (ZqD (ZtM n0)) <|
.nil) <|
.nil⟩
theorem ZTS:OK_ D87:=ok_ D87 Tryz.func9 ⟨ZMe,ZKu,ZZ7,ZTT,ZH3,tr_⟩
noncomputable def D88:FD U:=⟨23,Tryz.f23,[D83.sg,D82.sg,D87.sg],[aG,k],[(0,.box (.st 7))],[aM],[],[],ZwS,ZwS,
.lo 9410111 [0,4,5,6,7] [] [ar,e,q,c,c] bA 0 [0,4,5] [] [ar,e,q] bA ZxD ZBx (fun _=> .nil) <|
.j 911111 [4,5] [] aF bA ZxE <|
.nil⟩
theorem ZZ6:OK_ D88:=ok_ D88 Tryz.func23 ⟨ZMe,ZKu,ZTS,tr_⟩
noncomputable def D89:FD U:=⟨51,Tryz.f51,[D82.sg,D83.sg],[aG,aq],[(0,.box (.st 7))],[.p (.st 8)],[],[],ZzO,ZzO,
.j 911121410111 [0,3,4,5,44] [] [ar,e,q,M,d] [aa,N,bI,.box [.o (.v (.int .i64)),.o (.v (.int .i64)),.o (.v .str),.o (.full (0,5,1))],aD,aD] ZsE <|
.j 9131410111 [0,4,5,6,16,66] [] [ar,e,q,c,c,d] a6 ZwV <|
.lo 941213131410111 [0,4,5,6,7] [] [ar,e,q,c,c] a6 1 [4,5] [] aF a6 ZwT ZC4 (fun n0=> .j 910541213131410111 [0,4,5,6,7,83] [] [ar,e,q,c,c,d] a6 (ZAg (ZwT n0)) <|
.nil) <|
.j 91111 [4,5] [] aF a6 ZsD <|
.j 911111 [4] [] [e] [aa,.box [.o (.v (.int .i64)),.o (.v (.int .i64)),.o (.v .str),.o (.full (0,2,1))],aD] ZwU <|
.nil⟩
theorem ZZ5:OK_ D89:=ok_ D89 Tryz.func51 ⟨ZKu,ZMe,tr_⟩
def D90:=fd_ 235 Tryz.f235 [] [H] [bc] ZoK .nil
theorem ZZ3:OK_ D90:=ok_ D90 Tryz.func235
def D91:=fd_ 210 Tryz.f210 [D90.sg] [H] [z] ZqA <|
.lr 9401 [0] [] [B] [] 0 [] [] [] [] Zn8 Zyd (fun n0=> .j 91012101415401 [0,24] [] am [] (Zsh (Zn8 n0)) <|
.j 91121012101415401 [0,39] [] am [] (Zsg (Zn8 n0)) <|
.lo 94121121012101415401 [0] [] [B] [] 2 [0] [] [B] [] ZqI (Zye (Zn8 n0)) (fun n1=> .j 91054121121012101415401 [0,62] [] am [] (Zuy (ZqI n1)) <|
.nil) <|
.j 9112101415401 [0] [] [B] [] (Zsf (Zn8 n0)) <|
.j 910214111111415401 [0,94] [] am [] (ZqJ (Zn8 n0)) <|
.j 91021314111111415401 [0,125] [] am [] (Zo2 (Zn8 n0)) <|
.j 9102131314111111415401 [0,166] [] am [] (Zoo (Zn8 n0)) <|
.nil) <|
.nil
theorem ZTR:OK_ D91:=ok_ D91 Tryz.func210 ⟨ZZ3,tr_⟩
def D92:=fd_ 162 Tryz.f162 [D91.sg] [H] [z] ZuR .nil
theorem ZTQ:OK_ D92:=ok_ D92 Tryz.func162 ⟨ZTR,tr_⟩
def D93:=fd_ 99 Tryz.f99 [D92.sg] [H] [z] ZvR <|
.j 911 [2] [] [d] [] ZwB <|
.nil
theorem ZZ2:OK_ D93:=ok_ D93 Tryz.func99 ⟨ZTQ,tr_⟩
def D94:=fd_ 100 Tryz.f100 [D92.sg] [a1] [z] Zvn <|
.j 911 [2] [] [d] [] Zp8 <|
.nil
theorem ZZ1:OK_ D94:=ok_ D94 Tryz.func100 ⟨ZTQ,tr_⟩
def D95:=fd_ 68 Tryz.f68 [D93.sg,D94.sg] [aq] [z] Zqp <|
.j 9101 [1,26] [] [e,d] [N] Zrq <|
.lr 941011 [1,28,29,30] [] [e,V,c,c] [N] 0 [] [] [] [] Zpt ZzB (fun n0=> .j 91014011541011 [1,4,28,29,30,55] [] [e,q,V,c,c,d] [N,A] (Zrp (Zpt n0)) <|
.lr 941114011541011 [1,28,29,30,57,58,59] [] [e,V,c,c,ax,c,c] [N] 2 [1,28,29,30] [] [e,V,c,c] [N] Zs1 (ZzC (Zpt n0)) (fun _=> .nil) <|
.nil) <|
.nil
theorem ZPk:OK_ D95:=ok_ D95 Tryz.func68 ⟨ZZ2,ZZ1,tr_⟩
def D96:=fd_ 82 Tryz.f82 [] [aq,.p (.st 8)] [z] Zz7 <|
.j 911 [2,3,5] [] aW [N,aP] Zue <|
.j 912141011 [4] [] [d] [] Zud <|
.j 913141011 [2,3,5,20,36] [] [e,q,d,c,d] [N,aP] Zuc <|
.j 91213141011 [4] [] [d] [] Zub <|
.lr 941021313141011 [2,3,54,55,56] [] [e,q,Y,c,c] [N,aP] 1 [3] [] [e] [aP] Zt9 ZBc (fun n0=> .j 9114011541021313141011 [2,3,54,55,56,68] [] [e,q,Y,c,c,d] [N,aP] (Zxf (Zt9 n0)) <|
.nil) <|
.j 91121313141011 [4] [] [d] [] Zua <|
.j 91111 [4] [] [d] [] Zso <|
.nil
theorem ZZ0:OK_ D96:=ok_ D96 Tryz.func82
def D97:=fd_ 121 Tryz.f121 [D95.sg] [aq,aX] [aM,y] ZwC <|
.lr 9410111 [1,2,4,6,18,19,20] [] [Y,e,q,M,Y,c,c] [N,a2,bi,ah,ah] 0 [1,4,6] [] [Y,e,q] a8 Zsi Zyp (fun n0=> .j 910140115410111 [1,2,4,6,8,18,19,20,32] [] [Y,e,q,M,c,Y,c,c,d] [N,a2,bi,ah,ah] (ZuH (Zsi n0)) <|
.nil) <|
.nil
theorem ZZZ:OK_ D97:=ok_ D97 Tryz.func121 ⟨ZPk,tr_⟩
def D98:=fd_ 181 Tryz.f181 [] [aq] [y] ZvT .nil
theorem ZTP:OK_ D98:=ok_ D98 Tryz.func181
def D99:=fd_ 182 Tryz.f182 [] [aq,k,k] [z] ZxX <|
.lr 94101 [1,2,10,11,12] [] [c,c,V,c,c] [] 0 [] [] [] [] ZvC Zzp (fun _=> .nil) <|
.nil
theorem ZZY:OK_ D99:=ok_ D99 Tryz.func182
def Z3O:=fd_ 183 Tryz.f183 [] [a1,a1] [y] Ztp <|
.j 91401 [2,3,5] [] aW [a3,a3] Zqx <|
.nil
theorem ZXH:OK_ Z3O:=ok_ Z3O Tryz.func183
def Z3N:=fd_ 123 Tryz.f123 [D98.sg,D99.sg,Z3O.sg] [aq,.p (.st 8)] [.own (.int .i64)] ZyO <|
.lo 941011 [2,3,5,14,15] [] [e,q,Q,c,c] aB 0 [5] [] [l] [aD] Zo9 ZAv (fun n0=> .lo 941213131410114011541011 [2,3,5,6,7,8,14,15,60,61,62] [] bT aB 3 [2,3,5,6,7,8,14,15] [] bz aB ZtC (ZAx (Zo9 n0)) (fun n1=> .j 9111541213131410114011541011 [2,3,5,6,7,8,14,15,60,61,62] [] bT aB (Zws (ZtC n1)) <|
.nil) <|
.lo 94121313131410114011541011 [2,3,5,6,7,8,12,14,15] [] [e,q,Q,c,c,d,ax,c,c] aB 5 [2,3,5,6,7,8,14,15] [] bz aB ZtB (ZAw (Zo9 n0)) (fun n1=> .j 91054121313131410114011541011 [2,3,5,6,7,8,12,14,15,101] [] [e,q,Q,c,c,d,ax,c,c,d] aB (Zwr (ZtB n1)) <|
.nil) <|
.j 91114011541011 [2,3,5,6,7,8,14,15] [] bz aB (ZrQ (Zo9 n0)) <|
.j 911114011541011 [2,3,5,6,7,14,15,104] [] [e,q,Q,c,c,c,c,d] aB (ZrP (Zo9 n0)) <|
.j 9111541011 [2,3,5,14,15] [] [e,q,Q,c,c] aB (Zwq (Zo9 n0)) <|
.nil) <|
.nil
theorem ZXG:OK_ Z3N:=ok_ Z3N Tryz.func123 ⟨ZTP,ZZY,ZXH,tr_⟩
def Z3M:=fd_ 122 Tryz.f122 [D95.sg,D98.sg] [aq,aX] [aM,y] Zxs <|
.lr 941011 [1,2,4,18,19,20] [] [Y,e,q,Y,c,c] ba 0 [1,2,4] [] [Y,e,q] ba ZsN Zy2 (fun n0=> .j 9114011541011 [1,2,4,18,19,20,31] [] [Y,e,q,Y,c,c,d] ba (Zvp (ZsN n0)) <|
.nil) <|
.lo 941011111 [1,4,8,44,45,46] [] [Y,e,q,V,c,c] a8 2 [4,8] [] aF a8 ZsM Zy0 (fun n0=> .lo 9410114011541011111 [1,4,8,10,11,44,45,46,53,54,55] [] [Y,e,q,M,W,V,c,c,Y,c,c] [bi,.box [.o (.v (.int .i64)),.o (.v .str),.o (.full (0,6,1))],A,.box [.o (.v .str),.o (.full (0,7,1))],ah,ah,aw] 4 [1,4,8,11,44,45,46] [] [Y,e,q,M,V,c,c] [a2,bi,bt,ah,ah,aw] Zvo (Zy1 (ZsM n0)) (fun _=> .nil) <|
.nil) <|
.nil
theorem ZXF:OK_ Z3M:=ok_ Z3M Tryz.func122 ⟨ZPk,ZTP,tr_⟩
def Z3L:=fd_ 83 Tryz.f83 [D97.sg,Z3N.sg,Z3M.sg] [aq,.p (.st 8)] [aM] ZAW .nil
theorem ZXE:OK_ Z3L:=ok_ Z3L Tryz.func83 ⟨ZZZ,ZXG,ZXF,tr_⟩
def Z1i:=fd_ 52 Tryz.f52 [] [aq] [aM] ZvF <|
.lo 941011 [2,3,12,13,14] [] [e,q,V,c,c] a8 0 [2,3] [] aF a8 Zwt ZAy (fun _=> .nil) <|
.nil
theorem ZRT:OK_ Z1i:=ok_ Z1i Tryz.func52
def Z3K:=fd_ 50 Tryz.f50 [D95.sg,D96.sg,Z3L.sg,Z1i.sg] [aq,.p (.sl (.st 8))] [aM,y] Zz8 <|
.lr 941011 [2,4,18,19,20] [] [e,q,.o (.v (.sl (.st 8))),c,c] ba 1 [2,4] [] aF ba Zxg ZBd (fun _=> .nil) <|
.nil
theorem ZXD:OK_ Z3K:=ok_ Z3K Tryz.func50 ⟨ZPk,ZZ0,ZXE,ZRT,tr_⟩
noncomputable def Z3J:FD U:=⟨24,Tryz.f24,[D82.sg,D89.sg,Z3K.sg,Z1i.sg],[aG,aq,k],[(0,.box (.st 7))],[aM],[],[],ZuU,ZuU,
.lo 94101 [0,2,4,6,7] [] [ar,c,e,q,c] [aa,N,aN,ah] 0 [2,4,6] [] [c,e,q] [aa,N,aN,ah] Zs9 ZzP (fun n0=> .j 91154101 [0,2,4,6,7] [] [ar,c,e,q,c] [aa,N,aN,ah] (Zv6 (Zs9 n0)) <|
.nil) <|
.nil⟩
theorem ZXC:OK_ Z3J:=ok_ Z3J Tryz.func24 ⟨ZKu,ZZ5,ZXD,ZRT,tr_⟩
noncomputable def Z3I:FD U:=⟨7,Tryz.f7,[D82.sg,D88.sg,Z3J.sg],[aG,k],[(0,.box (.st 7))],[.own (.st 2)],[],[],Zv5,Zv5,
.lo 9410111 [0,5,6,7] [] [ar,l,c,c] [aa,av] 0 [5] [] [l] [aa,av] ZrS ZAM (fun n0=> .j 910114015410111 [0,5,6,7,8,34] [] [ar,l,c,c,q,d] [aa,av,N] (ZwH (ZrS n0)) <|
.j 91114015410111 [0,5,6,7,8] [] [ar,l,c,c,q] [aa,av,N] (ZtL (ZrS n0)) <|
.nil) <|
.nil⟩
theorem ZXB:OK_ Z3I:=ok_ Z3I Tryz.func7 ⟨ZKu,ZZ6,ZXC,tr_⟩
def Z1h:=fd_ 189 Tryz.f189 [] [] [.map (.int .i64) (.st 11)] ZIJ .nil
theorem ZRS:OK_ Z1h:=ok_ Z1h Tryz.func189
def Z3H:=fd_ 224 Tryz.f224 [(243,ZG6.sig)] [H] [ad] ZHH .nil
theorem ZXA:OK_ Z3H:=ok_ Z3H Tryz.func224 ⟨ZH2,tr_⟩
def Z1g:=fd_ 282 Tryz.f282 [] [H,H] [z] Zrb <|
.j 911 [4] [] [d] [] Zr4 <|
.nil
theorem ZRR:OK_ Z1g:=ok_ Z1g Tryz.func282
def Z3G:=fd_ 268 Tryz.f268 [Z1g.sg] [H,H] [ad,z] Zwp .nil
theorem ZXz:OK_ Z3G:=ok_ Z3G Tryz.func268 ⟨ZRR,tr_⟩
def Z3F:=fd_ 247 Tryz.f247 [Z3G.sg] [H,H] [ad,z] ZCt .nil
theorem ZXy:OK_ Z3F:=ok_ Z3F Tryz.func247 ⟨ZXz,tr_⟩
def Z3E:=fd_ 269 Tryz.f269 [Z1g.sg] [H,H] [ad] Zwa .nil
theorem ZXx:OK_ Z3E:=ok_ Z3E Tryz.func269 ⟨ZRR,tr_⟩
def Z3D:=fd_ 248 Tryz.f248 [Z3E.sg] [H,H] [ad] ZBP .nil
theorem ZXw:OK_ Z3D:=ok_ Z3D Tryz.func248 ⟨ZXx,tr_⟩
def Z3C:=fd_ 281 Tryz.f281 [(300,ZAt.sig)] [H,H] [y] Zvu <|
.j 914011 [0,1,5,16] [] [B,B,c,d] [] ZtA <|
.nil
theorem ZXv:OK_ Z3C:=ok_ Z3C Tryz.func281 ⟨ZEW,tr_⟩
def Z3B:=fd_ 270 Tryz.f270 [Z3C.sg] [H,H] [ad,ad,z] ZAQ .nil
theorem ZXu:OK_ Z3B:=ok_ Z3B Tryz.func270 ⟨ZXv,tr_⟩
def Z1f:=fd_ 249 Tryz.f249 [Z3B.sg] [H,H] [ad,ad,z] ZFw .nil
theorem ZRQ:OK_ Z1f:=ok_ Z1f Tryz.func249 ⟨ZXu,tr_⟩
def Z3A:=fd_ 250 Tryz.f250 [(243,ZG6.sig)] [H,k] [z] ZCb <|
.j 911 [4] [] [d] [] ZyH <|
.nil
theorem ZXt:OK_ Z3A:=ok_ Z3A Tryz.func250 ⟨ZH2,tr_⟩
def Z1e:=fd_ 229 Tryz.f229 [Z3F.sg,Z3D.sg,Z1f.sg,Z3A.sg,D29.sg,D49.sg,D19.sg,D51.sg,D20.sg,D43.sg] [H] [G,z] Zya <|
.j 9111 [2,4,5] [] [e,B,d] aV ZxW <|
.j 9101111 [2,5,6,7,39] [] [e,d,B,B,d] aV Zu7 <|
.lo 941011111111 [2,5,7,9,10,11,47,48,49] [9,10] [e,d,B,n,n,J,Q,c,c] [bf,i,aR,i,i] 0 [2,5,7,9,10,11] [] [e,d,B,n,n,J] [bJ,i,i,i] ZA5 ZEk (fun _=> .nil) <|
.lo 9410111111111 [2,5,9,10,11,63,64] [11] [e,d,n,n,n,c,c] aV 2 [2,5,9,11] [] [e,d,n,n] aV ZA4 ZEj (fun _=> .nil) <|
.nil
theorem ZRP:OK_ Z1e:=ok_ Z1e Tryz.func229 ⟨ZXy,ZXw,ZRQ,ZXt,ZUd,ZT6,ZUg,ZT5,ZNM,ZNL,tr_⟩
def Z3z:=fd_ 253 Tryz.f253 [] [.p (.sl .str)] [ad] ZFH <|
.lr 941011 [3,6,7,8] [] [B,.o (.v (.sl .str)),c,c] [] 0 [3] [] [B] [] ZA7 ZH8 (fun _=> .nil) <|
.nil
theorem ZXs:OK_ Z3z:=ok_ Z3z Tryz.func253
def Z3y:=fd_ 230 Tryz.f230 [Z1e.sg,(251,ZHd.sig),Z1f.sg,(252,ZGM.sig),Z3z.sg] [H] [ad,z] ZDI <|
.j 9111111 [0,9] [] [B,B] [] ZvB <|
.j 910111111 [9,43] [] am [] ZDe <|
.j 91111111 [9] [] [B] [] ZDd <|
.nil
theorem ZXr:OK_ Z3y:=ok_ Z3y Tryz.func230 ⟨ZRP,ZIV,ZRQ,ZIF,ZXs,tr_⟩
noncomputable def Z3x:FD U:=⟨188,Tryz.f188,[Z1h.sg,Z3H.sg,Z3y.sg],[k,H],[],[ad,z],[],[(26,2)],Zzl,Zzl,
.nil⟩
theorem ZXq:OK_ Z3x:=ok_ Z3x Tryz.func188 ⟨ZRS,ZXA,ZXr,tr_⟩
noncomputable def Z3w:FD U:=⟨128,Tryz.f128,[Z3x.sg,Z1h.sg,Z1e.sg],[k,H],[],[G,z],[],[(22,2)],ZFs,ZFs,
.nil⟩
theorem ZXp:OK_ Z3w:=ok_ Z3w Tryz.func128 ⟨ZXq,ZRS,ZRP,tr_⟩
def Z3v:=fd_ 85 Tryz.f85 [D46.sg,Z3w.sg] [a1] [G,z] ZIL .nil
theorem ZXo:OK_ Z3v:=ok_ Z3v Tryz.func85 ⟨ZMf,ZXp,tr_⟩
def Z3u:=fd_ 86 Tryz.f86 [] [H] [bc] ZHv <|
.lo 941011 [0,3,6,7] [] [B,T,c,c] [] 0 [3] [] [T] [] ZE8 ZG1 (fun _=> .nil) <|
.nil
theorem ZXn:OK_ Z3u:=ok_ Z3u Tryz.func86
def Z3t:=fd_ 139 Tryz.f139 [] [aY] [y] ZIs <|
.j 911 [0,2] [] [T,c] [] ZEM <|
.j 9111 [0,2] [] [T,c] [] ZEL <|
.j 91111 [0,2] [] [T,c] [] ZEK <|
.nil
theorem ZXm:OK_ Z3t:=ok_ Z3t Tryz.func139
def ZXZ:=fd_ 89 Tryz.f89 [Z3t.sg] [aY] [y] ZzU .nil
theorem ZMS:OK_ ZXZ:=ok_ ZXZ Tryz.func89 ⟨ZXm,tr_⟩
def Z3s:=fd_ 190 Tryz.f190 [] [aY] [z] ZDF .nil
theorem ZXl:OK_ Z3s:=ok_ Z3s Tryz.func190
def Z3r:=fd_ 129 Tryz.f129 [Z3s.sg] [aY,aY] [y] ZES .nil
theorem ZXk:OK_ Z3r:=ok_ Z3r Tryz.func129 ⟨ZXl,tr_⟩
def Z1d:=fd_ 58 Tryz.f58 [(90,ZAu.sig)] [H,H] [y] ZB3 .nil
theorem ZRN:OK_ Z1d:=ok_ Z1d Tryz.func58 ⟨ZEX,tr_⟩
def Z0K:=fd_ 65 Tryz.f65 [] [aX] [y] ZCp <|
.lr 941011 [3,6,7,8] [] [c,Y,c,c] [] 0 [3] [] [c] [] Zz5 ZFI (fun _=> .nil) <|
.nil
theorem ZOH:OK_ Z0K:=ok_ Z0K Tryz.func65
def Z3q:=fd_ 87 Tryz.f87 [Z3r.sg,Z1d.sg,Z0K.sg] [aH,aH] [y] ZGf .nil
theorem ZXj:OK_ Z3q:=ok_ Z3q Tryz.func87 ⟨ZXk,ZRN,ZOH,tr_⟩
noncomputable def Z3p:FD U:=⟨130,Tryz.f130,[Z3q.sg],[aZ,k,k,.fn 87 [] []],[(0,.arr (.st 10))],[],[],[],ZpG,Zpp,
.lo 941 [0,1,2,3,8] [] [O,c,c,a5,c] [I] 0 [] [] [] [I] Zox ZqP (fun n0=> .lo 941401541 [0,1,2,3,8,9] [] [O,c,c,a5,c,c] [I] 2 [0,1,2,3,8] [] [O,c,c,a5,c] [I] Zog (ZqQ (Zox n0)) (fun n1=> .j 910541401541 [0,1,2,3,8,9,34] [] [O,c,c,a5,c,c,d] [I] (Zpl (Zog n1)) <|
.nil) <|
.nil) <|
.nil⟩
theorem ZXi:OK_ Z3p:=ZLo Z3p Tryz.func130 ⟨ZXj,tr_⟩
noncomputable def Z3o:FD U:=⟨88,Tryz.f88,[Z3p.sg],[aZ,k,k,k,.fn 87 [] []],[(0,.arr (.st 10))],[],[],[],Zta,Zqn,
.lz 9411 [0,1,2,3,4,10,11] [] [O,c,c,c,a5,d,d] [I] Zsl (fun _=> .nil) <|
.nil⟩
theorem ZXh:OK_ Z3o:=ZLo Z3o Tryz.func88 ⟨ZXi,tr_⟩
noncomputable def Z3n:FD U:=⟨56,Tryz.f56,[ZXZ.sg,Z3o.sg],[aZ,.fn 87 [] []],[(0,.arr (.st 10))],[],[],[],ZqG,ZoZ,
.nil⟩
theorem ZXg:OK_ Z3n:=ZLo Z3n Tryz.func56 ⟨ZMS,ZXh,tr_⟩
def Z3m:=fd_ 55 Tryz.f55 [Z3v.sg,Z3u.sg,D46.sg,D58.sg,Z3n.sg] [ae,ae] [bq] ZHu <|
.lo 9410111 [3,5,6,15,16,17] [] [e,bl,Q,ax,c,c] [A,bk,I] 0 [6] [] [l] [I] Zwo ZG0 (fun n0=> .j 9101140115410111 [3,5,6,8,9,15,16,17,36] [] [e,bl,Q,W,aE,ax,c,c,d] [A,bk,I,a3,ac] (Zyx (Zwo n0)) <|
.j 91111140115410111 [3,5,6,9,11,15,16,17] [] [e,bl,Q,W,c,ax,c,c] [A,bk,I,ac] (ZCV (Zwo n0)) <|
.j 91115410111 [3,5,6,15,16,17] [] [e,bl,Q,ax,c,c] [A,bk,I] (ZCU (Zwo n0)) <|
.nil) <|
.nil
theorem ZXf:OK_ Z3m:=ok_ Z3m Tryz.func55 ⟨ZXo,ZXn,ZMf,ZT2,ZXg,tr_⟩
def Z3l:=fd_ 57 Tryz.f57 [Z1d.sg] [aH,aH] [y] ZBU .nil
theorem ZXe:OK_ Z3l:=ok_ Z3l Tryz.func57 ⟨ZRN,tr_⟩
noncomputable def Z3k:FD U:=⟨130,Tryz.f130,[Z3l.sg],[aZ,k,k,.fn 57 [] []],[(0,.arr (.st 10))],[],[],[],Zpq,Zpa,
.lo 941 [0,1,2,3,8] [] [O,c,c,a4,c] [I] 0 [] [] [] [I] Zop Zqv (fun n0=> .lo 941401541 [0,1,2,3,8,9] [] [O,c,c,a4,c,c] [I] 2 [0,1,2,3,8] [] [O,c,c,a4,c] [I] Zoa (Zqw (Zop n0)) (fun n1=> .j 910541401541 [0,1,2,3,8,9,34] [] [O,c,c,a4,c,c,d] [I] (Zo1 (Zoa n1)) <|
.nil) <|
.nil) <|
.nil⟩
theorem ZXd:OK_ Z3k:=ZLo Z3k Tryz.func130 ⟨ZXe,tr_⟩
noncomputable def Z3j:FD U:=⟨88,Tryz.f88,[Z3k.sg],[aZ,k,k,k,.fn 57 [] []],[(0,.arr (.st 10))],[],[],[],ZsF,ZpV,
.lz 9411 [0,1,2,3,4,10,11] [] [O,c,c,c,a4,d,d] [I] ZrL (fun _=> .nil) <|
.nil⟩
theorem ZXc:OK_ Z3j:=ZLo Z3j Tryz.func88 ⟨ZXd,tr_⟩
noncomputable def Z3i:FD U:=⟨56,Tryz.f56,[ZXZ.sg,Z3j.sg],[aZ,.fn 57 [] []],[(0,.arr (.st 10))],[],[],[],Zqk,ZoR,
.nil⟩
theorem ZXb:OK_ Z3i:=ZLo Z3i Tryz.func56 ⟨ZMS,ZXc,tr_⟩
def Z1c:=fd_ 28 Tryz.f28 [Z3m.sg,Z3i.sg] [ae,ae] [bq] Zwj .nil
theorem ZRM:OK_ Z1c:=ok_ Z1c Tryz.func28 ⟨ZXf,ZXb,tr_⟩
def Z1b:=fd_ 27 Tryz.f27 [D65.sg,D75.sg] [bF,bF] [.own (.st 5)] Zz4 <|
.lo 9410111 [1,5,6,9,10,11] [] [ab,l,c,ab,c,c] [au] 0 [5] [] [l] [au] ZsG ZC7 (fun n0=> .lo 940140115410111 [1,5,6,8,9,10,11] [] [ab,l,c,q,ab,c,c] [au,ay] 2 [1,5,6,8,9,10,11] [] [ab,l,c,q,ab,c,c] [au,ay] Zt7 (ZC8 (ZsG n0)) (fun n1=> .j 910540140115410111 [1,5,6,8,9,10,11,28] [] [ab,l,c,q,ab,c,c,d] [au,ay] (ZAn (Zt7 n1)) <|
.nil) <|
.j 911140115410111 [1,5,6,8,9,10,11,44] [] [ab,l,c,q,ab,c,c,d] [au,ay] (ZAm (ZsG n0)) <|
.j 91115410111 [1,5,6,9,10,11] [] [ab,l,c,ab,c,c] [au] (ZAl (ZsG n0)) <|
.nil) <|
.nil
theorem ZRL:OK_ Z1b:=ok_ Z1b Tryz.func27 ⟨ZT0,ZTW,tr_⟩
def Z3h:=fd_ 12 Tryz.f12 [Z1c.sg,Z1b.sg] [ae,ae,ae,ae] [.own (.st 5)] ZCB .nil
theorem ZXa:OK_ Z3h:=ok_ Z3h Tryz.func12 ⟨ZRM,ZRL,tr_⟩
def Z3g:=fd_ 196 Tryz.f196 [] [H] [ad] Zy5 <|
.lo 9401 [0] [] [B] [] 0 [0] [] [B] [] ZtH ZAH (fun n0=> .j 9105401 [0,10] [] am [] (ZwE (ZtH n0)) <|
.nil) <|
.lo 94011 [0] [] [B] [] 2 [0] [] [B] [] ZtG ZAG (fun n0=> .j 91054011 [0,23] [] am [] (ZwD (ZtG n0)) <|
.nil) <|
.nil
theorem ZW9:OK_ Z3g:=ok_ Z3g Tryz.func196
def Z3f:=fd_ 197 Tryz.f197 [] [H] [ad] ZFt <|
.lo 941011 [3,8,9] [] [l,c,c] [aR] 0 [3] [] [l] [aR] ZtI ZEE (fun n0=> .j 9114011541011 [3,4,8,9,23] [] [l,c,c,c,d] [aR] (ZAJ (ZtI n0)) <|
.j 9111541011 [3,8,9] [] [l,c,c] [aR] (ZAI (ZtI n0)) <|
.nil) <|
.nil
theorem ZW8:OK_ Z3f:=ok_ Z3f Tryz.func197
def Z1a:=fd_ 198 Tryz.f198 [] [H] [z,ad,ad,z] ZuT <|
.j 9101 [0,2,20] [] [B,d,d] [] Zs7 <|
.j 911 [0,2] [] am [] Zpv <|
.lo 940111 [0,2,6] [] [B,d,c] [] 0 [0,2,6] [] [B,d,c] [] Zs5 ZzM (fun n0=> .j 910540111 [0,2,6,41] [] [B,d,c,d] [] (Zs6 (Zs5 n0)) <|
.nil) <|
.j 91011111 [0,2,3,6,52] [] [B,d,B,c,d] [] Zv3 <|
.j 91011111111 [2,3,4,76] [] bp [] ZoX <|
.lr 9410111111111 [2,3,4,7] [] [d,B,B,c] [] 2 [2,3,4] [] bb [] Zrv ZDX (fun n0=> .j 914015410111111111 [2,3,4,7,92] [] [d,B,B,c,d] [] (Zv2 (Zrv n0)) <|
.nil) <|
.nil
theorem ZRK:OK_ Z1a:=ok_ Z1a Tryz.func198
def Z3e:=fd_ 199 Tryz.f199 [] [.p .bool,H,H] [ad] Zxq <|
.lo 9401 [0,1,2] [] bb [] 0 [0,1,2] [] bb [] ZsJ ZyY (fun n0=> .j 9105401 [0,1,2,14] [] bp [] (Zvl (ZsJ n0)) <|
.nil) <|
.lo 94011 [0,1,2] [] bb [] 2 [0,1,2] [] bb [] ZsI ZyX (fun n0=> .j 91054011 [0,1,2,27] [] bp [] (Zvk (ZsI n0)) <|
.nil) <|
.j 91111 [0,1] [] [d,B] [] Zvj <|
.j 9101111 [1,43] [] am [] Zvi <|
.j 911111 [1] [] [B] [] Zvh <|
.nil
theorem ZW7:OK_ Z3e:=ok_ Z3e Tryz.func199
def Z3d:=fd_ 201 Tryz.f201 [] [H] [y] ZsB <|
.lr 941011 [0,3,4] [] [B,c,c] [] 0 [3] [] [c] [] Zxo ZEZ (fun n0=> .j 910401541011 [0,3,4,20] [] [B,c,c,d] [] (ZBi (Zxo n0)) <|
.nil) <|
.nil
theorem ZW6:OK_ Z3d:=ok_ Z3d Tryz.func201
def Z09:=fd_ 203 Tryz.f203 [] [k] [z] ZCr <|
.j 911 [2] [] [d] [] Zwz <|
.nil
theorem ZRJ:OK_ Z09:=ok_ Z09 Tryz.func203
def Z3c:=fd_ 202 Tryz.f202 [Z09.sg] [k,k] [y] ZBj <|
.j 91401 [1,5] [] [c,d] [] ZyZ <|
.j 913131401 [15] [] [d] [] ZsK <|
.nil
theorem ZW5:OK_ Z3c:=ok_ Z3c Tryz.func202 ⟨ZRJ,tr_⟩
def Z08:=fd_ 143 Tryz.f143 [Z3c.sg,Z09.sg] [k,k,k] [y,z] ZC3 <|
.j 9101 [0,1,2,35] [] [c,c,c,d] [] ZqU <|
.lo 9410111 [0,1,2,8,9] [] bE [] 0 [0,1,2,8] [] [c,c,c,c] [] Zxr ZE1 (fun n0=> .j 9115410111 [0,1,2,8,9] [] bE [] (ZBl (Zxr n0)) <|
.nil) <|
.lo 94101111 [0,1,2,8,10] [] bE [] 2 [2,8] [] [c,c] [] ZBk ZE0 (fun _=> .nil) <|
.nil
theorem ZRI:OK_ Z08:=ok_ Z08 Tryz.func143 ⟨ZW5,ZRJ,tr_⟩
def Z07:=fd_ 142 Tryz.f142 [Z3d.sg,Z08.sg] [H] [y,y,y,z] ZCs <|
.j 9104011 [0,9] [] am [] ZAF <|
.j 914011 [0,9] [] am [] ZwA <|
.j 91314011 [0,35] [] am [] ZAE <|
.j 9111 [2,3,4] [] [c,c,c] [] ZAD <|
.nil
theorem ZRH:OK_ Z07:=ok_ Z07 Tryz.func142 ⟨ZW6,ZRI,tr_⟩
def Z3b:=fd_ 200 Tryz.f200 [] [k,k] [ad] Zxp <|
.lo 94011 [0,1,5] [] [c,c,B] [] 0 [5] [] [B] [] ZyW ZDo (fun _=> .nil) <|
.nil
theorem ZW4:OK_ Z3b:=ok_ Z3b Tryz.func200
def Z3a:=fd_ 141 Tryz.f141 [Z3g.sg,Z3f.sg,Z1a.sg,Z3e.sg,Z07.sg,Z3b.sg] [k,H] [ad,z] Zvm <|
.j 9141213141011 [24,25] [] am [] Zw5 <|
.j 913141213141011 [28] [] [d] [] Zw4 <|
.j 91313141011 [0,6,17,31] [] [c,B,c,d] [] Ztn <|
.j 91121313141011 [7,8,9,49] [] bp [] Zro <|
.j 9111 [] [] [] [] Zrn <|
.nil
theorem ZW3:OK_ Z3a:=ok_ Z3a Tryz.func141 ⟨ZW9,ZW8,ZRK,ZW7,ZRH,ZW4,tr_⟩
def Z29:=fd_ 169 Tryz.f169 [D1.sg] [L,L] [ag] ZAa <|
.lo 941011 [0,1,5,6] [] [n,n,l,c] [i] 0 [5] [] [l] [i] Zum ZBn (fun n0=> .lo 94101401541011 [0,1,5,6,7,8] [] [n,n,l,c,T,c] [i] 2 [0,1,5,6,7] [] [n,n,l,c,T] [i] Zxt (ZBo (Zum n0)) (fun _=> .nil) <|
.nil) <|
.nil
theorem ZW2:OK_ Z29:=ok_ Z29 Tryz.func169 ⟨ZQg,tr_⟩
def ZUh:=fd_ 105 Tryz.f105 [Z29.sg,D2.sg] [X,X] [ak] ZnY .nil
theorem ZKL:OK_ ZUh:=ok_ ZUh Tryz.func105 ⟨ZW2,ZRx,tr_⟩
def Z28:=fd_ 167 Tryz.f167 [] [L,L] [.own (.int .u32)] ZwQ <|
.lo 9410111 [0,1,5,6,7] [] bC [i] 0 [5,6] [] [l,T] [i] ZqW ZBw (fun n0=> .j 9105410111 [0,1,5,6,7,17] [] [n,n,l,T,c,d] [i] (Zsu (ZqW n0)) <|
.j 914015410111 [0,1,5,6,7] [] bC [i] (Zuq (ZqW n0)) <|
.j 9114015410111 [0,1,5,6,7] [] bC [i] (Zup (ZqW n0)) <|
.nil) <|
.nil
theorem ZW1:OK_ Z28:=ok_ Z28 Tryz.func167
def ZXY:=fd_ 104 Tryz.f104 [Z28.sg,D2.sg,D6.sg,D7.sg] [X,X] [ak] ZpT .nil
theorem ZMR:OK_ ZXY:=ok_ ZXY Tryz.func104 ⟨ZW1,ZRx,ZTc,ZV7,tr_⟩
def Z0H:=fd_ 106 Tryz.f106 [D2.sg] [X] [ak] Zrw .nil
theorem ZOG:OK_ Z0H:=ok_ Z0H Tryz.func106 ⟨ZRx,tr_⟩
def Z27:=fd_ 144 Tryz.f144 [Z1a.sg,D3.sg,ZUh.sg,ZXY.sg,Z0H.sg,D12.sg] [H] [G,z] ZwG <|
.lo 94101111 [2,4,6,8,9,27,28,29] [100008] [e,d,B,q,M,aS,c,c] [bh,al,al,aR,i,i] 0 [2,4,6,8,9] [] [e,d,B,q,M] bB ZuL Zyu (fun _=> .nil) <|
.lo 941011111 [2,4,8,9,43] [] [e,d,q,M,.o (.it (0,4,1))] [bh,al,al,.sit,i,i] 2 [2,4,8,9] [] [e,d,q,M] bB Zsj Zyt (fun n0=> .j 91541011111 [2,4,8,9,43,45] [] [e,d,q,M,.o (.it (0,4,1)),d] [bh,al,al,.sit,i,i] (ZuN (Zsj n0)) <|
.nil) <|
.j 91111111 [2,8,9] [] [e,q,M] bB ZuM <|
.nil
theorem ZW0:OK_ Z27:=ok_ Z27 Tryz.func144 ⟨ZRK,ZV8,ZKL,ZMR,ZOG,ZRO,tr_⟩
def Z26:=fd_ 91 Tryz.f91 [Z3a.sg,Z07.sg,Z08.sg,Z27.sg,D14.sg] [k,H] [G,z] ZxZ <|
.j 91011 [0,4,6,26] [] [c,e,B,d] aV ZvQ <|
.j 911111 [4,8] [] [e,c] aV ZvP <|
.nil
theorem ZWZ:OK_ Z26:=ok_ Z26 Tryz.func91 ⟨ZW3,ZRH,ZRI,ZW0,ZUi,tr_⟩
def Z25:=fd_ 59 Tryz.f59 [Z26.sg] [a1] [G,z] Zxn .nil
theorem ZWY:OK_ Z25:=ok_ Z25 Tryz.func59 ⟨ZWZ,tr_⟩
def Z24:=fd_ 61 Tryz.f61 [] [H] [bc] ZyU <|
.lo 941011 [0,3,4] [] [B,T,c] [] 0 [3] [] [T] [] Zwx ZAC (fun _=> .nil) <|
.nil
theorem ZWX:OK_ Z24:=ok_ Z24 Tryz.func61
def ZWW:=fd_ 103 Tryz.f103 [D4.sg,D6.sg,D9.sg] [u] [z] Zon <|
.j 9101 [1,24] [] [e,d] [ac] Zrt <|
.nil
theorem ZLO:OK_ ZWW:=ok_ ZWW Tryz.func103 ⟨Z0o,ZTc,ZZX,tr_⟩
def ZXX:=fd_ 146 Tryz.f146 [D12.sg] [X,X] [G,y] ZqV <|
.j 91011 [4,6,21] [] aW [bJ,ac,i,i] Zvq <|
.nil
theorem ZMQ:OK_ ZXX:=ok_ ZXX Tryz.func146 ⟨ZRO,tr_⟩
def Z23:=fd_ 145 Tryz.f145 [ZWW.sg,ZUh.sg,ZXY.sg,ZXX.sg] [u,u] [G,y] ZAf <|
.j 9101 [2,3,4,13] [] a9 aK ZxC <|
.nil
theorem ZWV:OK_ Z23:=ok_ Z23 Tryz.func145 ⟨ZLO,ZKL,ZMR,ZMQ,tr_⟩
def Z06:=fd_ 92 Tryz.f92 [Z23.sg] [u,u] [G] Zql .nil
theorem ZRG:OK_ Z06:=ok_ Z06 Tryz.func92 ⟨ZWV,tr_⟩
def Z22:=fd_ 93 Tryz.f93 [] [aH,aH] [z] Zxm <|
.j 911 [4] [] [d] [] ZsH <|
.nil
theorem ZWU:OK_ Z22:=ok_ Z22 Tryz.func93
def Z21:=fd_ 60 Tryz.f60 [Z06.sg,Z22.sg] [bF,aH] [bq] Zsz <|
.lo 9410111 [3,5,6,9,10,11] [] [e,J,d,ab,c,c] [ay,I] 0 [3,5,6] [] [e,J,d] [ay,I] Zsq Zxl (fun n0=> .j 91310140115410111 [3,5,6,8,9,10,11,38] [] [e,J,d,M,ab,c,c,d] [ay,I,ay] (Zuj (Zsq n0)) <|
.j 91140115410111 [3,5,6,8,9,10,11] [] [e,J,d,M,ab,c,c] [ay,I,ay] (Zp3 (Zsq n0)) <|
.nil) <|
.j 911111 [5] [] [l] [I] Zui <|
.nil
theorem ZWT:OK_ Z21:=ok_ Z21 Tryz.func60 ⟨ZRG,ZWU,tr_⟩
def Z20:=fd_ 29 Tryz.f29 [Z25.sg,Z24.sg,Z21.sg] [ae,ae] [bq] ZvM <|
.lo 941011 [3,5,11,12,13] [] [e,J,ax,c,c] [A,I] 0 [5] [] [l] [I] ZrR ZAB (fun n0=> .j 910114011541011 [3,5,7,8,11,12,13,32] [] [e,J,M,W,ax,c,c,d] [A,I,a3,ac] (Zww (ZrR n0)) <|
.j 9111541011 [3,5,11,12,13] [] [e,J,ax,c,c] [A,I] (Zwv (ZrR n0)) <|
.nil) <|
.nil
theorem ZWS:OK_ Z20:=ok_ Z20 Tryz.func29 ⟨ZWY,ZWX,ZWT,tr_⟩
def Z2Z:=fd_ 94 Tryz.f94 [ZWW.sg,ZUh.sg,ZXX.sg] [u,u] [G,y] ZAe <|
.j 9101 [2,3,4,13] [] a9 aK ZxA <|
.nil
theorem ZWR:OK_ Z2Z:=ok_ Z2Z Tryz.func94 ⟨ZLO,ZKL,ZMQ,tr_⟩
def Z05:=fd_ 62 Tryz.f62 [Z2Z.sg] [u,u] [G] ZsA .nil
theorem ZRF:OK_ Z05:=ok_ Z05 Tryz.func62 ⟨ZWR,tr_⟩
def Z2Y:=fd_ 30 Tryz.f30 [D16.sg,Z05.sg] [aH] [G] ZvN .nil
theorem ZWQ:OK_ Z2Y:=ok_ Z2Y Tryz.func30 ⟨ZNN,ZRF,tr_⟩
def Z04:=fd_ 13 Tryz.f13 [Z20.sg,Z2Y.sg] [ae,ae,ae,ae] [.own (.st 5)] ZuQ <|
.lo 9410111 [9,10,11,31,32,33] [] [l,J,Q,l,c,c] [I,I,aO] 0 [9,10,11] [] [l,J,Q] [I,I,aO] Zrl Zzy (fun n0=> .lo 941140115410111 [9,10,11,13,31,32,33,37,38,39] [] bU a7 2 [9,10,11,31,32,33] [] [l,J,Q,l,c,c] [I,I,aO] Zqj (Zzz (Zrl n0)) (fun n1=> .lo 9401114011541140115410111 [9,10,11,13,16,31,32,33,37,38,39] [] bS a7 4 [9,10,11,13,16,31,32,33,37,38,39] [] bS a7 Zrk (ZzA (Zqj n1)) (fun n2=> .j 9105401114011541140115410111 [9,10,11,13,16,31,32,33,37,38,39,61] [] [l,J,Q,W,c,l,c,c,J,c,c,d] a7 (ZvL (Zrk n2)) <|
.nil) <|
.j 9111541140115410111 [9,10,11,13,31,32,33,37,38,39] [] bU a7 (ZsZ (Zqj n1)) <|
.nil) <|
.nil) <|
.lo 941011111 [9,10,17,78,79,80] [] [l,J,Q,aS,c,c] [I,I,au,aO] 6 [17] [] [l] [au] Zqi ZyR (fun n0=> .lo 9410114011541011111 [9,10,17,19,20,78,79,80,84,85,86] [100020] bQ aU 8 [9,10,17,19,20,78,79,80] [] [l,J,Q,B,W,aQ,c,c] aU Zrj (Zzx (Zqi n0)) (fun n1=> .j 91115410114011541011111 [9,10,17,19,20,78,79,80,84,85,86] [100020] bQ aU (ZvK (Zrj n1)) <|
.nil) <|
.lo 94101114011541011111 [9,10,17,19,20,78,79,80,98,99,100] [] bP aU 10 [9,10,17,20,78,79,80] [] [l,J,Q,W,aQ,c,c] aU Zri (Zzw (Zqi n0)) (fun n1=> .j 911154101114011541011111 [9,10,17,19,20,78,79,80,98,99,100] [] bP aU (ZvJ (Zri n1)) <|
.nil) <|
.nil) <|
.nil
theorem ZRE:OK_ Z04:=ok_ Z04 Tryz.func13 ⟨ZWS,ZWQ,tr_⟩
def Z2X:=fd_ 204 Tryz.f204 [D91.sg] [H] [z] ZJa .nil
theorem ZWP:OK_ Z2X:=ok_ Z2X Tryz.func204 ⟨ZTR,tr_⟩
def Z0F:=fd_ 147 Tryz.f147 [Z2X.sg] [H] [z] ZFl <|
.j 911 [2] [] [d] [] ZFu <|
.nil
theorem ZOF:OK_ Z0F:=ok_ Z0F Tryz.func147 ⟨ZWP,tr_⟩
def Z03:=fd_ 148 Tryz.f148 [] [aq] [y] ZGz .nil
theorem ZRD:OK_ Z03:=ok_ Z03 Tryz.func148
def Z2W:=fd_ 152 Tryz.f152 [Z0F.sg] [a1] [z] ZEt <|
.j 911 [2] [] [d] [] ZyF <|
.nil
theorem ZWO:OK_ Z2W:=ok_ Z2W Tryz.func152 ⟨ZOF,tr_⟩
def Z2V:=fd_ 151 Tryz.f151 [Z2W.sg] [.p (.sl (.st 0)),.fn 152 [] []] [z] ZAh <|
.lr 94101 [1,7,8,9] [] [.fn 152 [] [],ax,c,c] [] 0 [] [] [] [] ZxF ZBy (fun _=> .nil) <|
.nil
theorem ZWN:OK_ Z2V:=ok_ Z2V Tryz.func151 ⟨ZWO,tr_⟩
def Z2U:=fd_ 150 Tryz.f150 [Z0F.sg,Z03.sg,Z2V.sg] [ae,.ptr (.st 2)] [z] ZFv <|
.j 911 [3] [] [d] [] ZAZ <|
.nil
theorem ZWM:OK_ Z2U:=ok_ Z2U Tryz.func150 ⟨ZOF,ZRD,ZWN,tr_⟩
def Z2T:=fd_ 205 Tryz.f205 [Z2U.sg] [.p (.sl (.st 1)),.fn 150 [] [.pp (.st 2)]] [y] ZsR <|
.lr 94101 [0,1,7,8] [] [V,.fn 150 [] [.pp (.st 2)],c,c] [] 0 [] [] [] [] Zp0 Zr3 (fun _=> .nil) <|
.nil
theorem ZWL:OK_ Z2T:=ok_ Z2T Tryz.func205 ⟨ZWM,tr_⟩
def Z2S:=fd_ 149 Tryz.f149 [Z2T.sg] [.p (.sl (.st 1)),.fn 150 [] [.pp (.st 2)]] [z] Zp1 .nil
theorem ZWK:OK_ Z2S:=ok_ Z2S Tryz.func149 ⟨ZWL,tr_⟩
def Z2R:=fd_ 96 Tryz.f96 [Z0F.sg,Z03.sg,Z2S.sg] [aq] [z] ZHt <|
.j 9101 [1,27] [] [e,d] [N] Zyw <|
.nil
theorem ZWJ:OK_ Z2R:=ok_ Z2R Tryz.func96 ⟨ZOF,ZRD,ZWK,tr_⟩
def Z2Q:=fd_ 95 Tryz.f95 [Z2R.sg] [aL,.fn 96 [] []] [z] Zzc <|
.lr 94101 [1,7,8,9] [] [.fn 96 [] [],K,c,c] [] 0 [] [] [] [] ZwI ZAO (fun _=> .nil) <|
.nil
theorem ZWI:OK_ Z2Q:=ok_ Z2Q Tryz.func95 ⟨ZWJ,tr_⟩
def Z2P:=fd_ 63 Tryz.f63 [Z2Q.sg] [aL] [z] ZEs <|
.lr 94101 [0,3] [] [K,c] [] 0 [0] [] [K] [] ZBN ZEJ (fun _=> .nil) <|
.j 9111 [2] [] [d] [] ZBO <|
.nil
theorem ZWH:OK_ Z2P:=ok_ Z2P Tryz.func63 ⟨ZWI,tr_⟩
def Z2O:=fd_ 32 Tryz.f32 [Z2P.sg] [aL] [z] Zzo .nil
theorem ZWG:OK_ Z2O:=ok_ Z2O Tryz.func32 ⟨ZWH,tr_⟩
def Z2N:=fd_ 33 Tryz.f33 [D71.sg] [u] [z] ZE9 .nil
theorem ZWF:OK_ Z2N:=ok_ Z2N Tryz.func33 ⟨ZTX,tr_⟩
def Z2M:=fd_ 66 Tryz.f66 [D70.sg] [u,u] [y] ZIj .nil
theorem ZWE:OK_ Z2M:=ok_ Z2M Tryz.func66 ⟨ZTY,tr_⟩
def Z2L:=fd_ 98 Tryz.f98 [D25.sg,Z0K.sg] [a0,a0] [z] ZGA .nil
theorem ZWD:OK_ Z2L:=ok_ Z2L Tryz.func98 ⟨ZUe,ZOH,tr_⟩
def Z2K:=fd_ 67 Tryz.f67 [Z2L.sg] [a0,a0] [y] ZGB .nil
theorem ZWC:OK_ Z2K:=ok_ Z2K Tryz.func67 ⟨ZWD,tr_⟩
def ZTf:=fd_ 35 Tryz.f35 [Z2M.sg,Z2K.sg,Z0K.sg] [bd,bd] [y] Zob .nil
theorem ZJ5:OK_ ZTf:=ok_ ZTf Tryz.func35 ⟨ZWE,ZWC,ZOH,tr_⟩
noncomputable def Z2J:FD U:=⟨153,Tryz.f153,[ZTf.sg],[ao,k,k,ap],[(0,.arr (.st 13))],[],[],[],ZpK,ZoH,
.lo 941 [0,1,2,3,8] [] bD [m] 0 [] [] [] [m] ZoE ZqX (fun n0=> .lo 941401541 [0,1,2,3,8,9] [] aJ [m] 2 [0,1,2,3,8] [] bD [m] Zoi (ZqY (ZoE n0)) (fun n1=> .j 910541401541 [0,1,2,3,8,9,34] [] bn [m] (Zpr (Zoi n1)) <|
.nil) <|
.nil) <|
.nil⟩
theorem ZWB:OK_ Z2J:=ZLo Z2J Tryz.func153 ⟨ZJ5,tr_⟩
noncomputable def Z2I:FD U:=⟨206,Tryz.f206,[ZTf.sg],[ao,k,k,k,ap],[(0,.arr (.st 13))],[],[],[],ZqK,ZoA,
.lr 941 [0,2,3,4,10] [] bD [m] 0 [] [] [] [m] Zow Zsk (fun n0=> .j 910114541 [0,2,3,4,10,11,40] [] bn [m] (Zqd (Zow n0)) <|
.j 91114541 [0,2,3,4,10,11] [] aJ [m] (Zo3 (Zow n0)) <|
.nil) <|
.nil⟩
theorem ZWA:OK_ Z2I:=ZLo Z2I Tryz.func206 ⟨ZJ5,tr_⟩
noncomputable def Z2H:FD U:=⟨154,Tryz.f154,[Z2I.sg],[ao,k,k,ap],[(0,.arr (.st 13))],[],[],[],ZqR,Zqo,
.lo 9410111 [0,3,8,9,10,11] [] [O,ai,c,c,c,c] [m] 0 [0,3,8,9,10] [] [O,ai,c,c,c] [m] Zqg Zsn (fun _=> .nil) <|
.lo 9411111 [0,3,8,9,12] [] [O,ai,c,c,c] [m] 2 [] [] [] [m] Zqf Zsm (fun _=> .nil) <|
.nil⟩
theorem ZWz:OK_ Z2H:=ZLo Z2H Tryz.func154 ⟨ZWA,tr_⟩
def Z2G:=fd_ 192 Tryz.f192 [ZXZ.sg] [k] [bc] Zzd .nil
theorem ZWy:OK_ Z2G:=ok_ Z2G Tryz.func192 ⟨ZMS,tr_⟩
noncomputable def Z2F:FD U:=⟨193,Tryz.f193,[],[.box (.int .u64)],[(0,.box (.int .u64))],[bc],[],[],ZwW,ZwW,
.nil⟩
theorem ZWx:OK_ Z2F:=ok_ Z2F Tryz.func193
noncomputable def Z2E:FD U:=⟨155,Tryz.f155,[Z2G.sg,Z2F.sg],[ao,k,k,ap],[(0,.arr (.st 13))],[],[],[],ZpM,Zpy,
.lo 94111211 [0,1,8,9,10,11] [] [O,c,c,e,T,c] [m,.boxS (.int .u64)] 0 [] [] [] [m] ZoF ZqZ (fun n0=> .j 91140154111211 [0,1,8,9,10,11,12] [] [O,c,c,e,T,c,c] [m,.boxS (.int .u64)] (ZoG (ZoF n0)) <|
.nil) <|
.nil⟩
theorem ZWw:OK_ Z2E:=ZLo Z2E Tryz.func155 ⟨ZWy,ZWx,tr_⟩
noncomputable def Z2D:FD U:=⟨234,Tryz.f234,[ZTf.sg],[ao,k,k,.box (.int .i64),ap],[(0,.arr (.st 13)),(3,.box (.int .i64))],[y,y],[],[],ZtU,ZoM,
.nil⟩
theorem ZWv:OK_ Z2D:=ZLo Z2D Tryz.func234 ⟨ZJ5,tr_⟩
noncomputable def Z02:FD U:=⟨208,Tryz.f208,[Z2D.sg],[ao,k,k,k,.box (.int .i64),ap],[(0,.arr (.st 13)),(4,.box (.int .i64))],[y],[],[],ZtV,Zpw,
.nil⟩
theorem ZRC:OK_ Z02:=ZLo Z02 Tryz.func208 ⟨ZWv,tr_⟩
noncomputable def Z2C:FD U:=⟨207,Tryz.f207,[Z02.sg],[ao,k,.box (.int .i64),ap],[(0,.arr (.st 13)),(2,.box (.int .i64))],[y],[],[],ZrD,Zoh,
.nil⟩
theorem ZWu:OK_ Z2C:=ZLo Z2C Tryz.func207 ⟨ZRC,tr_⟩
noncomputable def Z2B:FD U:=⟨156,Tryz.f156,[Z2C.sg,Z02.sg],[ao,k,k,ap],[(0,.arr (.st 13))],[y,y],[],[],Zqh,ZpL,
.j 91210111111 [0,3,11,12,13,14] [] [O,ai,e,c,c,c] [m,.boxS (.int .i64)] ZoO <|
.j 91111111 [11,13] [] [e,c] [m,.boxS (.int .i64)] ZoN <|
.nil⟩
theorem ZWt:OK_ Z2B:=ZLo Z2B Tryz.func156 ⟨ZWu,ZRC,tr_⟩
noncomputable def Z2A:FD U:=⟨157,Tryz.f157,[],[ao,k,k,ap],[(0,.arr (.st 13))],[],[],[],ZpU,ZpE,
.lo 9411 [0,8,9] [] [O,c,c] [m] 0 [] [] [] [m] Zpx Zrd (fun _=> .nil) <|
.nil⟩
theorem ZWs:OK_ Z2A:=ZLo Z2A Tryz.func157
noncomputable def Z2z:FD U:=⟨158,Tryz.f158,[ZTf.sg],[ao,k,k,ap],[(0,.arr (.st 13))],[z],[],[],ZoY,ZoQ,
.lr 941011 [0,1,2,3,9,10] [] aJ [m] 0 [] [] [] [m] ZnZ ZpO (fun n0=> .lo 940401541011 [0,1,2,3,9,10] [] aJ [m] 2 [0,1,2,3,9,10] [] aJ [m] Zn5 (ZpR (ZnZ n0)) (fun n1=> .j 910540401541011 [0,1,2,3,9,10,36] [] bn [m] (ZoJ (Zn5 n1)) <|
.nil) <|
.lo 9412101111401541011 [0,1,2,3,9,10,11] [] [O,c,c,ai,c,c,c] [m] 4 [0,1,2,3,9,10] [] aJ [m] Zok (ZpQ (ZnZ n0)) (fun _=> .nil) <|
.j 9111111401541011 [0,1,2,3,9,10,104] [] bn [m] (Zol (ZnZ n0)) <|
.lo 9412111111401541011 [0,1,2,3,9,10,12] [] [O,c,c,ai,c,c,c] [m] 6 [0,1,2,3,9,10] [] aJ [m] Zoj (ZpP (ZnZ n0)) (fun _=> .nil) <|
.nil) <|
.nil⟩
theorem ZWr:OK_ Z2z:=ZLo Z2z Tryz.func158 ⟨ZJ5,tr_⟩
noncomputable def Z2y:FD U:=⟨159,Tryz.f159,[ZTf.sg],[ao,k,k,k,ap],[(0,.arr (.st 13))],[y],[],[],ZpF,Zpo,
.lo 940111 [0,1,4,11,12] [] an [m] 0 [11] [] [c] [m] Zn4 ZqM (fun n0=> .lo 9404540111 [0,1,4,11,12] [] an [m] 2 [0,1,4,11,12] [] an [m] Zof (ZqO (Zn4 n0)) (fun n1=> .j 9105404540111 [0,1,4,11,12,47] [] aT [m] (Zpk (Zof n1)) <|
.nil) <|
.lo 94014540111 [0,1,4,11,12] [] an [m] 4 [0,1,4,11,12] [] an [m] Zoe (ZqN (Zn4 n0)) (fun n1=> .j 91054014540111 [0,1,4,11,12,65] [] aT [m] (Zpj (Zoe n1)) <|
.nil) <|
.nil) <|
.nil⟩
theorem ZWq:OK_ Z2y:=ZLo Z2y Tryz.func159 ⟨ZJ5,tr_⟩
noncomputable def Z2x:FD U:=⟨160,Tryz.f160,[ZTf.sg],[ao,k,k,k,ap],[(0,.arr (.st 13))],[y,z],[],[],Zqz,Zqe,
.lo 940111 [0,1,4,12,13] [] an [m] 0 [0,1,4,12,13] [] an [m] Zot Zr2 (fun n0=> .j 910540111 [0,1,4,12,13,47] [] aT [m] (ZpZ (Zot n0)) <|
.nil) <|
.lo 9401111 [0,1,4,12,13] [] an [m] 2 [0,1,4,12,13] [] an [m] Zos Zr1 (fun n0=> .j 9105401111 [0,1,4,12,13,66] [] aT [m] (ZpY (Zos n0)) <|
.nil) <|
.lo 940111111111 [0,1,4,12,13] [] an [m] 4 [0,1,13] [] [O,c,c] [m] Zoc ZrY (fun n0=> .lo 9404540111111111 [0,1,4,12,13] [] an [m] 6 [0,1,4,12,13] [] an [m] Zor (Zr0 (Zoc n0)) (fun n1=> .j 9105404540111111111 [0,1,4,12,13,120] [] aT [m] (ZpX (Zor n1)) <|
.nil) <|
.lo 94014540111111111 [0,1,4,12,13] [] an [m] 8 [0,1,4,12,13] [] an [m] Zoq (ZrZ (Zoc n0)) (fun n1=> .j 91054014540111111111 [0,1,4,12,13,139] [] aT [m] (ZpW (Zoq n1)) <|
.nil) <|
.nil) <|
.nil⟩
theorem ZWp:OK_ Z2x:=ZLo Z2x Tryz.func160 ⟨ZJ5,tr_⟩
noncomputable def ZTe (n_:Nat):FD U:=⟨97,Tryz.f97,[],[.arr (.st 13),.p (.int .i64),.p (.int .i64),.p (.int .i64),.fn 35 [] []],[(0,.arr (.st 13))],[],[],[],ZnT n_,ZnT n_,
.nil⟩
noncomputable def Z2w (n_:Nat):FD U:=⟨97,Tryz.f97,[Z2J.sg,Z2H.sg,Z2E.sg,Z2B.sg,Z2A.sg,Z2z.sg,ZTf.sg,Z2y.sg,Z2x.sg,(ZTe n_).sg],[.arr (.st 13),.p (.int .i64),.p (.int .i64),.p (.int .i64),.fn 35 [] []],[(0,.arr (.st 13))],[],[],[],Zqy (ZnT n_),ZnT (n_+1),
.lz 9411 [0,1,2,3,4,10,11] [] [O,c,c,c,ai,d,d] [m] (Zn3 (ZnT n_)) (fun n0=> .j 9111145411 [0,1,2,3,4,10,11,12] [] [O,c,c,c,ai,d,d,c] [m] ((Zpg (ZnT n_)) ((Zn3 (ZnT n_)) n0)) <|
.j 911111145411 [0,1,2,3,4,10,11,12,13,14] [] [O,c,c,c,ai,d,d,c,c,c] [m] ((Zpf (ZnT n_)) ((Zn3 (ZnT n_)) n0)) <|
.j 91011111145411 [0,1,2,3,4,10,11,12,13,75] [] bW [m] ((ZoB (ZnT n_)) ((Zn3 (ZnT n_)) n0)) <|
.j 9111111145411 [0,1,2,3,4,10,11,12,13] [] [O,c,c,c,ai,d,d,c,c] [m] ((Zpe (ZnT n_)) ((Zn3 (ZnT n_)) n0)) <|
.j 910111111145411 [0,1,2,3,4,10,11,12,13,97] [] bW [m] ((Zpd (ZnT n_)) ((Zn3 (ZnT n_)) n0)) <|
.nil) <|
.nil⟩
theorem ZTd (n_:Nat):Zei X0.E 97 (ZTe n_).sig:=by
 induction n_ with
 |zero=>
  refine Zkh.ok (S:=(ZTe 0).FS) uok fun v r h=> ?_
  have h2:(none:Option _)=some r:=h;cases h2
 |succ n_ ih=>exact(Z2w n_).okA G0 Tryz.func97 ⟨ZWB,ZWz,ZWw,ZWt,ZWs,ZWr,ZJ5,ZWq,ZWp,ih,trivial⟩ (by kernel_rfl) (by kernel_rfl)
noncomputable abbrev D211:FD U:=ZTe big
theorem ZWo:Zei X0.E 97 D211.sig:=ZTd big
noncomputable def Z2v:FD U:=⟨64,Tryz.f64,[ZXZ.sg,D211.sg],[ao,ap],[(0,.arr (.st 13))],[],[],[],Zq0,Zpb,
.nil⟩
theorem ZWn:OK_ Z2v:=ZLo Z2v Tryz.func64 ⟨ZMS,ZWo,tr_⟩
noncomputable def Z2u:FD U:=⟨34,Tryz.f34,[Z2v.sg],[ao,k,ap],[(0,.arr (.st 13))],[.view 0],[],[],Zzf,ZxU,
.nil⟩
theorem ZWm:OK_ Z2u:=ZLo Z2u Tryz.func34 ⟨ZWn,tr_⟩
def Z2t:=fd_ 16 Tryz.f16 [Z2O.sg,Z1c.sg,Z1b.sg,D64.sg,D76.sg,Z2N.sg,Z2u.sg] [aL,ae,ae,k] [.p (.sl (.st 13)),y] Zsv <|
.j 91401 [0,3,5,6,22] [] bo [A,A] Zsx <|
.j 9131401 [0,3,5,6,29] [] bo [A,A] ZtX <|
.lo 94101111 [3,10,11,51,52,53] [10] [c,ab,l,K,c,c] [m] 1 [3,11] [] [c,l] [m] ZyI ZEO (fun n0=> .lo 9411401154101111 [3,10,11,13,51,52,53,58,59,60] [10] bV [m,N] 3 [3,10,11,51,52,53] [] [c,ab,l,K,c,c] [m] Zwm (ZEP (ZyI n0)) (fun n1=> .lo 941140115411401154101111 [3,10,11,13,14,15,51,52,53,58,59,60,66,67,68] [10] bN [m,N,A] 5 [3,10,11,13,51,52,53,58,59,60] [] bV [m,N] ZtW (ZEQ (Zwm n1)) (fun n2=> .j 9111114011541140115411401154101111 [3,10,11,13,14,15,16,18,19,20,51,52,53,58,59,60,66,67,68,92] [] [c,ab,l,q,c,M,c,W,aE,c,K,c,c,V,c,c,V,c,c,d] [m,N,A,bu,ac] (ZBV (ZtW n2)) <|
.j 9111541140115411401154101111 [3,10,11,13,14,15,51,52,53,58,59,60,66,67,68] [10] bN [m,N,A] (ZyJ (ZtW n2)) <|
.nil) <|
.nil) <|
.nil) <|
.nil
theorem ZWl:OK_ Z2t:=ok_ Z2t Tryz.func16 ⟨ZWG,ZRM,ZRL,ZT1,ZTV,ZWF,ZWm,tr_⟩
def Z2s:=fd_ 36 Tryz.f36 [D95.sg] [aL] [z] Zq1 <|
.lr 94101 [0,5,6,7] [] [K,K,c,c] [] 0 [0] [] [K] [] Zrr Zw6 (fun n0=> .j 911401154101 [0,5,6,7,29] [] [K,K,c,c,d] [] (Zrs (Zrr n0)) <|
.nil) <|
.nil
theorem ZWk:OK_ Z2s:=ok_ Z2s Tryz.func36 ⟨ZPk,tr_⟩
def Z0E:=fd_ 40 Tryz.f40 [D16.sg] [] [G] ZrU .nil
theorem ZOE:OK_ Z0E:=ok_ Z0E Tryz.func40 ⟨ZNN,tr_⟩
def Z2r:=fd_ 102 Tryz.f102 [ZWW.sg,ZUh.sg,ZXX.sg] [u,u] [G,y] ZAd <|
.j 9101 [2,3,4,13] [] a9 aK Zxz <|
.nil
theorem ZWj:OK_ Z2r:=ok_ Z2r Tryz.func102 ⟨ZLO,ZKL,ZMQ,tr_⟩
def Z01:=fd_ 71 Tryz.f71 [Z2r.sg] [u,u] [G] Zoz .nil
theorem ZRB:OK_ Z01:=ok_ Z01 Tryz.func71 ⟨ZWj,tr_⟩
def Z2q:=fd_ 69 Tryz.f69 [Z06.sg,Z01.sg] [.p (.st 6),u,u] [be] Zz9 .nil
theorem ZWi:OK_ Z2q:=ok_ Z2q Tryz.func69 ⟨ZRG,ZRB,tr_⟩
def Z2p:=fd_ 37 Tryz.f37 [Z0E.sg,Z2q.sg] [.p (.sl (.st 5))] [be] ZAX <|
.lo 9410111 [2,4,14,15,16] [] [e,q,.o (.v (.sl (.st 5))),c,c] bm 0 [2,4] [] aF bm ZxY ZFi (fun _=> .nil) <|
.nil
theorem ZWh:OK_ Z2p:=ok_ Z2p Tryz.func37 ⟨ZOE,ZWi,tr_⟩
def Z2o:=fd_ 101 Tryz.f101 [ZWW.sg,ZUh.sg,Z0H.sg,ZXY.sg,ZXX.sg] [u,u] [G,y] ZAc <|
.j 9101 [2,3,4,13] [] a9 aK Zxy <|
.nil
theorem ZWg:OK_ Z2o:=ok_ Z2o Tryz.func101 ⟨ZLO,ZKL,ZOG,ZMR,ZMQ,tr_⟩
def Z2n:=fd_ 70 Tryz.f70 [Z2o.sg] [u,u] [G] Zt5 .nil
theorem ZWf:OK_ Z2n:=ok_ Z2n Tryz.func70 ⟨ZWg,tr_⟩
def Z00:=fd_ 72 Tryz.f72 [ZWW.sg,ZUh.sg,Z0H.sg,ZXY.sg] [u,u] [y] ZwR <|
.j 9101 [2,3,13] [] aW [ac,ac] ZxB <|
.nil
theorem ZRA:OK_ Z00:=ok_ Z00 Tryz.func72 ⟨ZLO,ZKL,ZOG,ZMR,tr_⟩
def Z2m:=fd_ 38 Tryz.f38 [D16.sg,Z01.sg,Z2n.sg,Z0E.sg,D78.sg,Z05.sg,Z00.sg] [.p (.st 6)] [G,y,z] Zxi <|
.j 910111111 [2,6,7,8,9,56] [] [e,q,M,W,aE,d] [.box [.o (.v .bool),.o (.full (0,6,1)),.o (.v .bool),.o (.full (0,7,1))],ac,ac,ac,ac,i,i] ZpS <|
.nil
theorem ZWe:OK_ Z2m:=ok_ Z2m Tryz.func38 ⟨ZNN,ZRB,ZWf,ZOE,ZNJ,ZRF,ZRA,tr_⟩
def Z0Z:=fd_ 39 Tryz.f39 [Z00.sg] [u,u] [z] ZvO .nil
theorem ZRz:OK_ Z0Z:=ok_ Z0Z Tryz.func39 ⟨ZRA,tr_⟩
def Z2l:=fd_ 107 Tryz.f107 [] [a0,a0] [z] ZvU <|
.j 911 [4] [] [d] [] ZtF <|
.nil
theorem ZWd:OK_ Z2l:=ok_ Z2l Tryz.func107
def Z2k:=fd_ 73 Tryz.f73 [D78.sg,Z0Z.sg,Z2l.sg] [bd,bd] [z] Zxk .nil
theorem ZWc:OK_ Z2k:=ok_ Z2k Tryz.func73 ⟨ZNJ,ZRz,ZWd,tr_⟩
def Z2j:=fd_ 41 Tryz.f41 [Z2k.sg] [bG,bd] [.own (.st 13)] ZwN <|
.lo 94011 [0,3,5] [] [aI,e,c] [.boxS (.st 13)] 0 [0,3,5] [] [aI,e,c] [.boxS (.st 13)] Zuh ZBh (fun n0=> .j 91054011 [0,3,5,18] [] [aI,e,c,d] [.boxS (.st 13)] (Zxj (Zuh n0)) <|
.nil) <|
.nil
theorem ZWb:OK_ Z2j:=ok_ Z2j Tryz.func41 ⟨ZWc,tr_⟩
def Z2i:=fd_ 17 Tryz.f17 [Z2s.sg,Z04.sg,Z2p.sg,Z2m.sg,Z0E.sg,Z0Z.sg,Z2j.sg] [aL,ae,ae,k] [.p (.sl (.st 13)),y] ZpI <|
.j 91401 [0,3,5,6,21] [] bo [A,A] Zp2 <|
.j 9131401 [0,3,5,6,28] [] bo [A,A] ZqT <|
.lo 9410111 [3,5,6,10,47,48,49] [] [c,e,q,Q,K,c,c] [A,A,m] 1 [3,10] [] [c,l] [m] Zuf ZBe (fun n0=> .lo 941140115410111 [3,5,6,10,12,47,48,49,54,55,56] [] bR [A,A,m,N] 3 [3,5,6,10,47,48,49] [] [c,e,q,Q,K,c,c] [A,A,m] Zsp (ZBf (Zuf n0)) (fun n1=> .lo 94114011541140115410111 [3,5,6,10,12,13,14,47,48,49,54,55,56,62,63,64] [] bM [A,A,m,N,A] 5 [3,5,6,10,12,47,48,49,54,55,56] [] bR [A,A,m,N] ZqS (ZBg (Zsp n1)) (fun n2=> .j 911111401154114011541140115410111 [3,5,6,10,12,13,14,15,17,18,19,47,48,49,54,55,56,62,63,64,89] [] [c,e,q,Q,W,c,aE,c,.o (.ptr (0,6,1) 0 0),.o (.ptr (0,7,1) 0 0),c,K,c,c,V,c,c,V,c,c,d] [A,A,m,N,A,bu,ac] (Zxh (ZqS n2)) <|
.j 911154114011541140115410111 [3,5,6,10,12,13,14,47,48,49,54,55,56,62,63,64] [] bM [A,A,m,N,A] (Zug (ZqS n2)) <|
.nil) <|
.nil) <|
.nil) <|
.nil
theorem ZWa:OK_ Z2i:=ok_ Z2i Tryz.func17 ⟨ZWk,ZRE,ZWh,ZWe,ZOE,ZRz,ZWb,tr_⟩
def Z2h:=fd_ 18 Tryz.f18 [D78.sg] [bG,bG] [z] ZrT <|
.lr 941011 [1,13,14,15] [] [aI,aI,c,c] [] 0 [] [] [] [] ZtD ZAz (fun n0=> .j 91114011541011 [1,13,14,15,57] [] [aI,aI,c,c,d] [] (ZqB (ZtD n0)) <|
.nil) <|
.nil
theorem ZV9:OK_ Z2h:=ok_ Z2h Tryz.func18 ⟨ZNJ,tr_⟩
def D231:=fd_ 3 Tryz.f3 [D0.sg,D79.sg,D80.sg,Z3I.sg,D82.sg,D87.sg,D83.sg,D86.sg,Z3h.sg,Z04.sg,D78.sg,D81.sg,Z2t.sg,Z2i.sg,Z2h.sg] [aX,k,aL] [z] Zv4 <|
.j 9101 [0,1,2,46] [] [Y,c,K,d] [] ZrI <|
.lr 941011 [0,1,2,48,49,50] [] [Y,c,K,K,c,c] [] 0 [0,1,2] [] [Y,c,K] [] Zo8 Zuv (fun n0=> .lr 941114011541011 [0,1,2,48,49,50,60,61,62] [] [Y,c,K,K,c,c,V,c,c] [] 2 [0,1,2,48,49,50] [] [Y,c,K,K,c,c] [] Zp7 (Zuw (Zo8 n0)) (fun _=> .nil) <|
.nil) <|
.lo 94101111111 [1,2,11,12,14,15,88,89] [] [c,K,e,J,M,W,c,c] [aa,av,bs,bt,aw,aw] 4 [1,2,11,12,14,15] [] [c,K,e,J,M,W] [aa,av,bs,bt,aw,aw] Zp6 Zuu (fun _=> .nil) <|
.lr 941011111111 [1,2,11,12,14,15,107,108,109] [100014,100015] bX [aa,av,A,A] 6 [1,2,12,14,15] [] [c,K,l,q,M] [av,A,A] Zo7 Zur (fun n0=> .lr 94114011541011111111 [1,2,11,12,14,15,18,107,108,109,114,115,116] [100014,100015] bO [aa,av,A,A,N] 8 [1,2,11,12,14,15,107,108,109] [] bX [aa,av,A,A] ZoD (Zus (Zo7 n0)) (fun n1=> .j 910111401154114011541011111111 [1,2,11,12,14,15,18,22,23,107,108,109,114,115,116,148] [] [c,K,e,J,M,W,aE,bv,bw,J,c,c,V,c,c,d] bx (ZrH (ZoD n1)) <|
.lr 9411111401154114011541011111111 [1,2,11,12,14,15,18,23,107,108,109,114,115,116,149,150,151] [] [c,K,e,J,M,W,aE,bv,J,c,c,V,c,c,bw,c,c] bx 10 [1,2,11,12,14,15,18,107,108,109,114,115,116] [] bO [aa,av,A,A,N] Zo6 (Zut (ZoD n1)) (fun n2=> .j 91140115411111401154114011541011111111 [1,2,11,12,14,15,18,23,107,108,109,114,115,116,149,150,151,175] [] [c,K,e,J,M,W,aE,bv,J,c,c,V,c,c,bw,c,c,d] bx (ZrG (Zo6 n2)) <|
.nil) <|
.nil) <|
.nil) <|
.lr 94101111111111 [1,14,15,26,185,186,187] [] [c,e,q,M,aS,c,c] [A,A,A,bj] 12 [] [] [] [] Zo5 ZtS (fun n0=> .lr 9411401154101111111111 [1,14,15,26,28,185,186,187,194,195,196] [] [c,e,q,M,K,aS,c,c,aQ,c,c] [A,A,A,bj,aD] 14 [1,14,15,26,185,186,187] [] [c,e,q,M,aS,c,c] [A,A,A,bj] Zo4 (ZtT (Zo5 n0)) (fun n1=> .j 911111140115411401154101111111111 [1,14,15,26,28,185,186,187,194,195,196,251] [] [c,e,q,M,K,aS,c,c,aQ,c,c,d] [A,A,A,bj,aD] (Zo0 (Zo4 n1)) <|
.nil) <|
.nil) <|
.nil
theorem D231_ok:OK_ D231:=ok_ D231 Tryz.func3 ⟨Z3P,ZZ9,ZZ8,ZXB,ZKu,ZTS,ZMe,ZTT,ZXa,ZRE,ZNJ,ZTU,ZWl,ZWa,ZV9,tr_⟩
end
end Go.Proofs

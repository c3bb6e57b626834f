/- Printed by wip/tools/tgen.py: walks. -/
import Derived.Test.YteopakpakelkoaaGreatDoorUpU
import Derived.Test.YteopakpakelkoaaGreatDoorUpX
import Derived.Test.YteopakpakelkoaaGreatDoorUpWX
set_option linter.unusedVariables false
set_option linter.unusedSimpArgs false
set_option linter.unusedSectionVars false
namespace Go.Proofs
open Go Eng
set_option maxRecDepth 100000
noncomputable section
abbrev c:Sh:= .o (.v (.int .i64))
abbrev i:ShO:= .arr (.int .u32) false
abbrev d:Sh:= .o (.ptr (0,1,1) 0 0)
abbrev k:Sh:= .o (.ptr (0,2,1) 0 0)
abbrev l:Sh:= .o (.v (.sl (.int .u32)))
abbrev ar:ShO:= .box [.o (.v (.int .i64)),.o (.v .str),.o (.full (0,4,1))]
abbrev e:Sh:= .o (.v .bool)
abbrev aC:ShO:= .box [.o (.v .bool),.o (.full (0,4,1)),.o (.v .bool),.o (.full (0,5,1))]
abbrev y:Sh:= .o (.v (.sl (.int .i64)))
abbrev q:Sh:= .o (.ptr (0,3,1) 0 0)
abbrev bz:ShO:= .box [.o (.v .bool),.o (.full (0,2,1)),.o (.v .bool),.o (.full (0,3,1))]
abbrev I:ShO:= .boxS (.st 2)
abbrev aB:ShO:= .box [.o (.v (.int .i64)),.o (.v .str),.o (.full (0,3,1))]
abbrev N:ShO:= .arr (.st 1) false
abbrev m:Sh:= .o (.v .str)
abbrev u:Sh:= .o (.full (0,1,1))
abbrev L:Sh:= .o (.v (.sl (.sl (.st 4))))
abbrev aD:ShO:= .box [.o (.v .bool),.o (.full (0,5,1)),.o (.v .bool),.o (.full (0,6,1))]
abbrev ai:ShO:= .arr (.int .i64) false
abbrev aE:ShO:= .box [.o (.v (.int .i64)),.o (.v .str),.o (.full (0,5,1))]
abbrev aT:ShO:= .box [.o (.v .bool),.o (.full (0,6,1)),.o (.v .bool),.o (.full (0,7,1))]
abbrev K:Sh:= .o (.v (.sl .str))
abbrev O:ShO:= .boxS (.st 4)
abbrev T:Sh:= .o (.v (.sl (.st 1)))
abbrev bA:ShO:= .box [.o (.v (.int .i64)),.o (.v (.int .i64)),.o (.v .str),.o (.full (0,4,1))]
abbrev Y:Sh:= .o (.full (0,3,1))
abbrev X:Sh:= .o (.ptr (0,4,1) 0 0)
abbrev V:Sh:= .o (.v (.int .u64))
abbrev bO:ShO:= .box [.o (.v (.int .i64)),.o (.v (.int .i64)),.o (.v .str),.o (.full (0,3,1))]
abbrev aF:ShO:= .map (.st 7) (.st 4)
abbrev ab:ShO:= .boxS (.st 9)
abbrev aa:Sh:= .o (.v (.int .u32))
abbrev au:Sh:= .o (.v (.sl (.st 0)))
abbrev a6:ShO:= .box [.o (.v (.int .i64)),.o (.v .str),.o (.full (0,6,1))]
abbrev ag:ShO:= .boxS (.st 3)
abbrev an:Sh:= .o (.full (0,4,1))
abbrev bB:ShO:= .box [.o (.v .bool),.o (.full (0,7,1)),.o (.v .bool),.o (.full (0,8,1))]
abbrev al:ShO:= .arr (.st 0) false
abbrev aG:Sh:= .o (.v (.sl (.st 4)))
abbrev av:Sh:= .o (.ptr (0,0,0) 0 0)
abbrev aM:ShO:= .boxS (.st 10)
abbrev a7:ShO:= .arr (.sl (.st 4)) false
abbrev aU:Sh:= .o (.rp (.sl (.sl (.st 4))) (0,2,1))
abbrev aw:Sh:= .o (.sl (0,0,0))
abbrev aL:Sh:= .o (.full (0,5,1))
abbrev bC:ShO:= .box [.o (.v .bool),.o (.full (0,3,1)),.o (.v .bool),.o (.full (0,4,1))]
abbrev ao:ShO:= .boxS (.st 1)
abbrev a8:Sh:= .o (.rp (.sl (.sl (.st 4))) (0,3,0))
abbrev ax:ShO:= .arr .str false
abbrev aV:Sh:= .o (.full (0,2,1))
abbrev aN:ShO:= .arr (.st 11) false
abbrev aO:ShO:= .arr (.int .u8) false
abbrev bj:ShO:= .box [.o (.v .str),.o (.full (0,4,1))]
abbrev bk:ShO:= .box [.o (.v .str),.o (.full (0,7,1))]
abbrev a9:Sh:= .o (.ptr (0,5,1) 0 0)
abbrev aW:Sh:= .o (.map (0,2,1))
abbrev aX:ShO:= .own (.st 1) 1 (.st 0)
abbrev bD:ShO:= .boxS (.st 7)
abbrev bE:ShO:= .box [.o (.v .bool),.o (.full (0,2,1))]
abbrev bF:ShO:= .box [.o (.v .str),.o (.full (0,3,1))]
abbrev bl:ShO:= .arr (.st 4) false
abbrev bP:ShO:= .arr (.st 1) true
abbrev bG:Sh:= .o (.map (0,3,0))
abbrev bm:ShO:= .boxS (.st 11)
abbrev ac:List ShO:=[I,I,ar,N]
abbrev ad:List ShO:=[bz,i,i]
abbrev aP:List Sh:=[y,d,k,q,y,c,c]
abbrev aY:List ShO:=[aT,aF,O,O,ai,i,i]
abbrev aQ:List ShO:=[aF,aC,bD,O,i,i]
abbrev ay:List ShO:=[I,aM,ai]
abbrev bH:List Sh:=[L,d,aW,c,q,X,aL,c,aG,c,L,c,c,aG,c,c]
abbrev ah:List Sh:=[m,e]
abbrev bI:List Sh:=[d,k,q,an,a9,.o (.full (0,6,1)),T,c,c,T,c,c]
abbrev aH:List Sh:=[d,k,q,e]
abbrev az:List Sh:=[l,l,c]
abbrev aZ:List ShO:=[ab,bO,bA,ai,ai]
abbrev aR:List ShO:=[aB,ar,N,N]
abbrev ba:List ShO:=[I,I,aD,a7,i,i]
abbrev a0:List ShO:=[O,O,aC,i,i]
abbrev bb:List Sh:=[d,c,c,au,c,c]
abbrev bn:List Sh:=[d,k,Y,c,c,e,c,c]
abbrev aI:List Sh:=[d,k,e]
abbrev bJ:List Sh:=[K,K,d,c,m,K,c,c,K,c,c]
abbrev bo:List Sh:=[y,d,k,q,y,c,c,e]
abbrev bc:List ShO:=[I,ab,aE,I,bP]
abbrev bK:List Sh:=[d,k,Y,c,c,e,c,c,Y,c,c]
abbrev bd:List ShO:=[I,I,aC,i,i]
abbrev bL:List Sh:=[L,c,c,bG,d,k,q,aG,c,c]
abbrev aA:List Sh:=[d,k]
abbrev bM:List ShO:=[ab,bm,aN,.arr (.sl (.int .i64)) false]
abbrev bN:List ShO:=[I,I,bB,a7,ao,bl,i,i]
abbrev a1:List ShO:=[I,aB,N]
abbrev be:List Sh:=[L,L,c,c]
abbrev bf:List Sh:=[e,m,m,e]
abbrev bp:List ShO:=[I,ar,aE,N,N]
abbrev bq:List ShO:=[ab,aB,ar,N,N]
abbrev a2:List Sh:=[e,m,m]
abbrev br:List Sh:=[l,l,u,V,c]
abbrev bs:List ShO:=[aC,aF,ai,i,i]
abbrev bt:List ShO:=[aC,ag,ag,i,i]
abbrev bh:List Sh:=[y,d,k,q]
abbrev bu:List Sh:=[d,k,Y,c,c]
abbrev bv:List Sh:=[y,d,aV,c,c]
abbrev bw:List Sh:=[c,c,c,c,c]
abbrev J:ShA:= .p (.sl (.int .u32))
abbrev H:ShA:= .p (.int .i64)
abbrev z:ShR:= .p (.int .i64)
abbrev A:ShR:= .p (.st 4)
abbrev G:ShA:= .p (.st 4)
abbrev n:ShR:= .p .bool
abbrev B:ShA:= .p .str
abbrev ae:ShR:= .p (.sl (.int .u32))
abbrev M:ShA:= .p (.st 2)
abbrev am:ShA:= .p (.sl (.int .i64))
abbrev Q:ShA:= .p (.st 3)
abbrev af:ShA:= .p (.int .u32)
abbrev ap:ShR:= .p (.int .u32)
abbrev aq:ShA:= .p (.sl .str)
abbrev aj:ShA:= .p (.st 1)
abbrev ak:ShR:= .p (.st 3)
abbrev W:ShR:= .p .str
abbrev bi:ShA:= .p (.sl (.sl (.st 4)))
abbrev aJ:ShA:= .box (.st 9)
abbrev a3:ShR:= .own (.int .i64)
abbrev aK:ShR:= .p (.st 2)
abbrev a4:ShA:= .p (.int .u64)
abbrev a5:ShR:= .p (.int .u64)
abbrev aS:ShA:= .p (.st 0)
abbrev bx:ShA:= .part (.int .u32)
noncomputable abbrev fd_ (f:Nat) (fn:Func) (sg:List (Nat×ZjE U)) (a:List ShA) (r:List ShR) (s:ZjA (Zke U a []) (Option (HT (oTy U [] r)))) (t:CT U (HT (oTy U [] r)) (HT (oTy U [] r))):FD U:=⟨f,fn,sg,a,[],r,[],[],s,s,t⟩
abbrev OK_ (D:FD U):Prop:=Zez X0.E D.f D.sig
theorem ok_ (D:FD U) (hf:X0.prog.funcs[D.f]? =some D.fn) (hs:Zdd X0 D.sigs:=by trivial) (h:D.lhs X0=D.rhs2:=by kernel_rfl) (ha:D.os.any (fun x=>isAr x.2)=false:=by rfl) (hw:D.w=D.s:=by rfl):OK_ D:=D.ok2 G0 hf hs ha hw h
theorem ZYV (D:FD U) (hf:X0.prog.funcs[D.f]? =some D.fn) (hs:Zdd X0 D.sigs:=by trivial) (h:D.lhs X0=D.rhs2:=by kernel_rfl) (hw:(fun v=>app (Zke U D.as []) D.w (Zl8 (r:=[]) D.as v ()))=fun v=>(app (Zke U D.as []) D.s (Zl8 (r:=[]) D.as v ())).bind fun r=>chk (Zid (Zdr D.as v) (D.b r)) (some r):=by kernel_rfl):OK_ D:=D.okA2 G0 hf hs hw h
theorem tr_:True:=trivial
def D0:=fd_ 5 Tryz.f5 [] [M] [n] Zwi <|
.lr 941011 [10,11,12] [] [T,c,c] [] 0 [] [] [] [] Zro Zyd (fun n0=> .j 9114011541011 [10,11,12,25] [] [T,c,c,e] [] (Zt9 (Zro n0)) <|
.nil) <|
.nil
theorem Z0r:OK_ D0:=ok_ D0 Tryz.func5
def D1:=fd_ 6 Tryz.f6 [] [am] [n] ZBw .nil
theorem ZZs:OK_ D1:=ok_ D1 Tryz.func6
def D2:=fd_ 196 Tryz.f196 [] [B] [a5] ZoO .nil
theorem ZZn:OK_ D2:=ok_ D2 Tryz.func196
def D3:=fd_ 145 Tryz.f145 [D2.sg] [B] [n] ZpG <|
.lr 9401 [0] [] [m] [] 0 [] [] [] [] Zlq Zwp (fun n0=> .j 91012101415401 [0,24] [] ah [] (Zqw (Zlq n0)) <|
.j 91121012101415401 [0,39] [] ah [] (Zqv (Zlq n0)) <|
.lo 94121121012101415401 [0] [] [m] [] 2 [0] [] [m] [] ZpK (Zwq (Zlq n0)) (fun n1=> .j 91054121121012101415401 [0,62] [] ah [] (Zsz (ZpK n1)) <|
.nil) <|
.j 9112101415401 [0] [] [m] [] (Zqu (Zlq n0)) <|
.j 910214111111415401 [0,94] [] ah [] (ZpL (Zlq n0)) <|
.j 91021314111111415401 [0,125] [] ah [] (Zo7 (Zlq n0)) <|
.j 9102131314111111415401 [0,166] [] ah [] (ZoI (Zlq n0)) <|
.nil) <|
.nil
theorem ZXv:OK_ D3:=ok_ D3 Tryz.func145 ⟨ZZn,tr_⟩
def D4:=fd_ 106 Tryz.f106 [D3.sg] [B] [n] ZHr .nil
theorem ZZm:OK_ D4:=ok_ D4 Tryz.func106 ⟨ZXv,tr_⟩
def D5:=fd_ 60 Tryz.f60 [D4.sg] [B] [n] ZDA <|
.j 911 [2] [] [e] [] ZDK <|
.nil
theorem ZTF:OK_ D5:=ok_ D5 Tryz.func60 ⟨ZZm,tr_⟩
def D6:=fd_ 43 Tryz.f43 [] [M] [z] ZAy .nil
theorem ZTE:OK_ D6:=ok_ D6 Tryz.func43
def D7:=fd_ 64 Tryz.f64 [D5.sg] [aS] [n] ZCH <|
.j 911 [2] [] [e] [] ZwY <|
.nil
theorem ZZl:OK_ D7:=ok_ D7 Tryz.func64 ⟨ZTF,tr_⟩
def D8:=fd_ 63 Tryz.f63 [D7.sg] [.p (.sl (.st 0)),.fn 64 [] []] [n] ZyI <|
.lr 94101 [1,7,8,9] [] [.fn 64 [] [],au,c,c] [] 0 [] [] [] [] ZvS ZzR (fun _=> .nil) <|
.nil
theorem ZZk:OK_ D8:=ok_ D8 Tryz.func63 ⟨ZZl,tr_⟩
def D9:=fd_ 62 Tryz.f62 [D5.sg,D6.sg,D8.sg] [aj,.ptr (.st 2)] [n] ZDL <|
.j 911 [3] [] [e] [] Zzf <|
.nil
theorem ZZj:OK_ D9:=ok_ D9 Tryz.func62 ⟨ZTF,ZTE,ZZk,tr_⟩
def D10:=fd_ 107 Tryz.f107 [D9.sg] [.p (.sl (.st 1)),.fn 62 [] [.pp (.st 2)]] [z] Zq1 <|
.lr 94101 [0,1,7,8] [] [T,.fn 62 [] [.pp (.st 2)],c,c] [] 0 [] [] [] [] Zps Zqr (fun _=> .nil) <|
.nil
theorem ZXY:OK_ D10:=ok_ D10 Tryz.func107 ⟨ZZj,tr_⟩
def D11:=fd_ 61 Tryz.f61 [D10.sg] [.p (.sl (.st 1)),.fn 62 [] [.pp (.st 2)]] [n] Zpt .nil
theorem ZXV:OK_ D11:=ok_ D11 Tryz.func61 ⟨ZXY,tr_⟩
def D12:=fd_ 31 Tryz.f31 [D5.sg,D6.sg,D11.sg] [M] [n] Zue <|
.j 9101 [1,27] [] [d,e] [I] ZwS <|
.nil
theorem ZR9:OK_ D12:=ok_ D12 Tryz.func31 ⟨ZTF,ZTE,ZXV,tr_⟩
def D14:=fd_ 270 Tryz.f270 [] [B] [n] ZBZ .nil
theorem ZXS:OK_ D14:=ok_ D14 Tryz.func270
def D15:=fd_ 230 Tryz.f230 [D14.sg] [B,B] [n] ZCM <|
.j 911 [4] [] [e] [] Zw2 <|
.nil
theorem ZXR:OK_ D15:=ok_ D15 Tryz.func230 ⟨ZXS,tr_⟩
def D16:=fd_ 231 Tryz.f231 [] [B] [n] Zzg .nil
theorem ZXQ:OK_ D16:=ok_ D16 Tryz.func231
def D17:=fd_ 197 Tryz.f197 [D15.sg,D16.sg] [aq,B] [z,n] Zqs <|
.lo 940111 [0,1,6,7,8] [] [K,m,c,c,c] [] 0 [0,1,6,7] [] [K,m,c,c] [] ZpU ZrL (fun _=> .nil) <|
.j 911111 [4,5] [] [c,e] [] Zo0 <|
.nil
theorem ZXP:OK_ D17:=ok_ D17 Tryz.func197 ⟨ZXR,ZXQ,tr_⟩
def D18:=fd_ 146 Tryz.f146 [D17.sg] [aq,aq] [z] ZAD <|
.lo 941011 [1,5,10,11,12] [] [K,c,K,c,c] [] 0 [5] [] [c] [] Zu1 ZBz (fun n0=> .j 9111541011 [1,5,10,11,12] [] [K,c,K,c,c] [] (ZyJ (Zu1 n0)) <|
.nil) <|
.nil
theorem ZXL:OK_ D18:=ok_ D18 Tryz.func146 ⟨ZXP,tr_⟩
def D19:=fd_ 211 Tryz.f211 [] [J] [ae] Zpq <|
.lo 9401 [0] [] [l] [] 0 [0] [] [l] [] Zqk ZCr (fun n0=> .j 9105401 [0,14] [] [l,e] [] (Zzj (Zqk n0)) <|
.nil) <|
.nil
theorem ZKE:OK_ D19:=ok_ D19 Tryz.func211
def D20:=fd_ 169 Tryz.f169 [D19.sg] [a4] [ae] Zwm .nil
theorem ZR8:OK_ D20:=ok_ D20 Tryz.func169 ⟨ZKE,tr_⟩
def D21:=fd_ 164 Tryz.f164 [] [.p .bool,J] [ak] Zpx <|
.j 911 [4] [] [d] [bE,i] Zz5 <|
.nil
theorem ZL4:OK_ D21:=ok_ D21 Tryz.func164
def D22:=fd_ 121 Tryz.f121 [D20.sg,D21.sg] [H] [ak] Zzm .nil
theorem ZXI:OK_ D22:=ok_ D22 Tryz.func121 ⟨ZR8,ZL4,tr_⟩
def D23:=fd_ 206 Tryz.f206 [] [Q] [n] Zyq <|
.j 9111 [2] [] [e] [] ZpZ <|
.nil
theorem ZXH:OK_ D23:=ok_ D23 Tryz.func206
def D24:=fd_ 161 Tryz.f161 [D23.sg] [.p (.sl (.st 3))] [n] ZCv <|
.lr 94101 [5,6,7] [] [.o (.v (.sl (.st 3))),c,c] [] 0 [] [] [] [] ZBY ZF9 (fun _=> .nil) <|
.nil
theorem ZR7:OK_ D24:=ok_ D24 Tryz.func161 ⟨ZXH,tr_⟩
def D25:=fd_ 139 Tryz.f139 [] [H] [n] ZDY .nil
theorem ZXG:OK_ D25:=ok_ D25 Tryz.func139
def D26:=fd_ 100 Tryz.f100 [D25.sg] [H,H] [z] ZCN .nil
theorem ZXF:OK_ D26:=ok_ D26 Tryz.func100 ⟨ZXG,tr_⟩
def D27:=fd_ 257 Tryz.f257 [] [af] [n] ZDX .nil
theorem ZXE:OK_ D27:=ok_ D27 Tryz.func257
def D28:=fd_ 208 Tryz.f208 [D27.sg] [af,af] [z] ZC2 .nil
theorem ZXD:OK_ D28:=ok_ D28 Tryz.func208 ⟨ZXE,tr_⟩
def D29:=fd_ 163 Tryz.f163 [D26.sg,D28.sg] [J,J] [z] Zqg <|
.lr 941011 [0,1,6] [] az [] 0 [] [] [] [] Zun Zyn (fun _=> .nil) <|
.nil
theorem ZPN:OK_ D29:=ok_ D29 Tryz.func163 ⟨ZXF,ZXD,tr_⟩
def D30:=fd_ 252 Tryz.f252 [] [J] [.own (.int .u32)] Zqi <|
.j 9101 [0,4] [] [l,e] [] ZkC <|
.nil
theorem ZR6:OK_ D30:=ok_ D30 Tryz.func252
def D31:=fd_ 290 Tryz.f290 [] [af,af,af] [ap,ap] ZCK <|
.j 9101 [0,1,2,15] [] [aa,aa,aa,e] [] Zw0 <|
.nil
theorem ZXC:OK_ D31:=ok_ D31 Tryz.func290
def D32:=fd_ 253 Tryz.f253 [D31.sg,D19.sg] [J,af] [ae,ap] ZyK <|
.lo 9410111 [0,1,6,7,8] [] [l,aa,u,aa,c] [i] 0 [6,7] [] [u,aa] [i] ZvV ZzV (fun _=> .nil) <|
.nil
theorem ZXB:OK_ D32:=ok_ D32 Tryz.func253 ⟨ZXC,ZKE,tr_⟩
def D33:=fd_ 190 Tryz.f190 [] [af] [z] ZCJ <|
.j 911 [0,2] [] [aa,c] [] Zz3 <|
.j 9111 [0,2] [] [aa,c] [] Zuq <|
.nil
theorem ZXA:OK_ D33:=ok_ D33 Tryz.func190
def D34:=fd_ 254 Tryz.f254 [D33.sg] [af] [z] ZuJ .nil
theorem ZXz:OK_ D34:=ok_ D34 Tryz.func254 ⟨ZXA,tr_⟩
def D35:=fd_ 255 Tryz.f255 [] [J,H] [.own (.int .u32)] Zq7 <|
.lo 941011 [1,5,13,14,15] [] [c,u,l,c,c] [i] 0 [5] [] [u] [i] Zul Zyl (fun _=> .nil) <|
.nil
theorem ZXy:OK_ D35:=ok_ D35 Tryz.func255
def D36:=fd_ 212 Tryz.f212 [] [af,af,af] [ap,ap] ZxH .nil
theorem ZR5:OK_ D36:=ok_ D36 Tryz.func212
def D37:=fd_ 209 Tryz.f209 [] [af,af,af] [ap,ap] ZAk .nil
theorem ZR4:OK_ D37:=ok_ D37 Tryz.func209
noncomputable def D38:FD U:=⟨256,Tryz.f256,[D36.sg,D37.sg],[bx,J],[(0,.arr (.int .u32))],[ap],[],[],ZDl,ZBX,
.lo 94011111 [0,1,5,7,8] [] [aw,l,c,V,V] [i] 0 [0,1,5,7] [] [aw,l,c,V] [i] Zvi ZAJ (fun n0=> .j 91054011111 [0,1,5,7,8,71] [] [aw,l,c,V,V,e] [i] (Zyp (Zvi n0)) <|
.nil) <|
.lo 941011111111 [0,1,5,7,9,10,82,83,84] [] [aw,l,c,V,aa,V,l,c,c] [i] 2 [0,1,5,7,9,10] [] [aw,l,c,V,aa,V] [i] ZAH ZDp (fun _=> .nil) <|
.lo 941011111111111 [0,5,7,13,130,131,132] [] [aw,c,V,aa,l,c,c] [i] 4 [0,5,7,13] [] [aw,c,V,aa] [i] Zyo ZAI (fun _=> .nil) <|
.nil⟩
theorem ZXx:OK_ D38:=ZYV D38 Tryz.func256 ⟨ZR5,ZR4,tr_⟩
noncomputable def D39:FD U:=⟨211,Tryz.f211,[],[bx],[(0,.arr (.int .u32))],[.view 0],[],[],Zz4,ZyL,
.lo 9401 [0] [] [aw] [i] 0 [0] [] [aw] [i] Zup ZAG (fun n0=> .j 9105401 [0,14] [] [aw,e] [i] (Zxw (Zup n0)) <|
.nil) <|
.nil⟩
theorem ZXw:OK_ D39:=ZYV D39 Tryz.func211
def D40:=fd_ 210 Tryz.f210 [] [J,H] [ap] Zvg .nil
theorem ZR3:OK_ D40:=ok_ D40 Tryz.func210
noncomputable def D41:FD U:=⟨210,Tryz.f210,[],[bx,H],[(0,.arr (.int .u32))],[ap],[],[],ZCq,Zxu,
.nil⟩
theorem ZXu:OK_ D41:=ZYV D41 Tryz.func210
noncomputable def D42:FD U:=⟨207,Tryz.f207,[D29.sg,D30.sg,D32.sg,D19.sg,D34.sg,D35.sg,D38.sg,D39.sg,D41.sg],[J,J],[],[ae,ae],[],[(84,7)],Zrr,Zrr,
.lo 9410111111 [8,9,10,11,12,13] [11] [c,c,u,l,aV,c] [i,i] 1 [8,9,10,12] [] [c,c,u,aV] [i,i] Ztf ZAn (fun _=> .nil) <|
.lo 941011111111 [9,12,14,86,87] [] [c,u,.o (.sl (0,2,1)),c,c] [i,i] 3 [12,14] [] [u,.o (.sl (0,2,1))] [i,i] Zte ZAm (fun _=> .nil) <|
.nil⟩
theorem ZR2:OK_ D42:=ok_ D42 Tryz.func207 ⟨ZPN,ZR6,ZXB,ZKE,ZXz,ZXy,ZXx,ZXw,ZXu,tr_⟩
def D43:=fd_ 162 Tryz.f162 [D42.sg] [J,J] [ae] Zuo <|
.lo 9401 [0,1] [] [l,l] [] 0 [0] [] [l] [] ZpJ Zy9 (fun _=> .nil) <|
.nil
theorem ZR1:OK_ D43:=ok_ D43 Tryz.func162 ⟨ZR2,tr_⟩
def D44:=fd_ 168 Tryz.f168 [D43.sg,D42.sg,D21.sg] [Q,Q] [A] Zr7 .nil
theorem ZND:OK_ D44:=ok_ D44 Tryz.func168 ⟨ZR1,ZR2,ZL4,tr_⟩
def D45:=fd_ 120 Tryz.f120 [D24.sg,D44.sg] [Q,Q] [A,z] ZDU .nil
theorem ZXt:OK_ D45:=ok_ D45 Tryz.func120 ⟨ZR7,ZND,tr_⟩
def D46:=fd_ 79 Tryz.f79 [D22.sg,D45.sg] [H,H] [A,z] ZDT .nil
theorem ZR0:OK_ D46:=ok_ D46 Tryz.func79 ⟨ZXI,ZXt,tr_⟩
def D47:=fd_ 68 Tryz.f68 [D46.sg] [] [A] ZBk .nil
theorem ZKD:OK_ D47:=ok_ D47 Tryz.func68 ⟨ZR0,tr_⟩
def D48:=fd_ 35 Tryz.f35 [D46.sg,D47.sg] [H,H] [A] ZDQ .nil
theorem ZNC:OK_ D48:=ok_ D48 Tryz.func35 ⟨ZR0,ZKD,tr_⟩
def D49:=fd_ 108 Tryz.f108 [D18.sg,D48.sg] [aq,aq] [A] Zzh .nil
theorem ZRZ:OK_ D49:=ok_ D49 Tryz.func108 ⟨ZXL,ZNC,tr_⟩
def D50:=fd_ 65 Tryz.f65 [(109,ZGg.sig),D49.sg] [aj,aj] [A] ZAE .nil
theorem ZXs:OK_ D50:=ok_ D50 Tryz.func65 ⟨ZHI,ZRZ,tr_⟩
def D52:=fd_ 66 Tryz.f66 [(110,ZFq.sig),D49.sg] [B,B] [A] ZBW .nil
theorem ZXr:OK_ D52:=ok_ D52 Tryz.func66 ⟨ZG7,ZRZ,tr_⟩
def D53:=fd_ 114 Tryz.f114 [D24.sg,D43.sg,D29.sg] [G] [n] Zrx <|
.j 911 [2] [] [e] [] Zvj <|
.nil
theorem ZNB:OK_ D53:=ok_ D53 Tryz.func114 ⟨ZR7,ZR1,ZPN,tr_⟩
def D54:=fd_ 167 Tryz.f167 [D19.sg] [J,J] [ae] Zse <|
.lo 941011 [1,5,17,18,19] [] [l,u,l,c,c] [i] 0 [5] [] [u] [i] Zsy ZzT (fun n0=> .lo 9410114011541011 [1,5,6,7,8,17,18,19,24,25,26] [] [l,u,c,aa,V,l,c,c,l,c,c] [i] 2 [1,5,6,8,17,18,19] [] [l,u,c,V,l,c,c] [i] ZvU (ZzU (Zsy n0)) (fun _=> .nil) <|
.nil) <|
.nil
theorem ZRY:OK_ D54:=ok_ D54 Tryz.func167 ⟨ZKE,tr_⟩
def D55:=fd_ 116 Tryz.f116 [D54.sg,D21.sg] [Q,Q] [ak] ZoL .nil
theorem ZPM:OK_ D55:=ok_ D55 Tryz.func116 ⟨ZRY,ZL4,tr_⟩
def D56:=fd_ 117 Tryz.f117 [] [Q] [ak] Zvh <|
.j 911 [2] [] [d] [ag] ZyM <|
.nil
theorem ZRX:OK_ D56:=ok_ D56 Tryz.func117
def D57:=fd_ 165 Tryz.f165 [D40.sg,D37.sg,D19.sg] [J,J] [ae] Zv8 <|
.lo 9410111 [0,1,5,6,20,21] [] [l,l,u,aa,c,c] [i] 0 [5,6] [] [u,aa] [i] Zwl ZAl (fun _=> .nil) <|
.nil
theorem ZRW:OK_ D57:=ok_ D57 Tryz.func165 ⟨ZR3,ZR4,ZKE,tr_⟩
def D58:=fd_ 166 Tryz.f166 [D40.sg,D36.sg,D19.sg] [J,J] [ae] Zu2 <|
.lo 9410111 [0,1,5,6,12,13] [] [l,l,u,aa,c,c] [i] 0 [5] [] [u] [i] ZvW ZzW (fun _=> .nil) <|
.nil
theorem ZXq:OK_ D58:=ok_ D58 Tryz.func166 ⟨ZR3,ZR5,ZKE,tr_⟩
def D59:=fd_ 115 Tryz.f115 [D57.sg,D21.sg,D29.sg,D58.sg] [Q,Q] [ak] ZBl .nil
theorem ZRV:OK_ D59:=ok_ D59 Tryz.func115 ⟨ZRW,ZL4,ZPN,ZXq,tr_⟩
def D60:=fd_ 75 Tryz.f75 [D53.sg,D55.sg,D56.sg,D59.sg] [G,G] [z] ZBm <|
.j 9101 [2,3,13] [] aI [O,O] ZCL <|
.nil
theorem ZPL:OK_ D60:=ok_ D60 Tryz.func75 ⟨ZNB,ZPM,ZRX,ZRV,tr_⟩
def D61:=fd_ 67 Tryz.f67 [D47.sg,D60.sg] [G] [z] ZDC .nil
theorem ZPK:OK_ D61:=ok_ D61 Tryz.func67 ⟨ZKD,ZPL,tr_⟩
def D62:=fd_ 205 Tryz.f205 [] [] [.map (.int .i64) (.st 6)] ZGY .nil
theorem ZRU:OK_ D62:=ok_ D62 Tryz.func205
def D64:=fd_ 243 Tryz.f243 [(274,ZFj.sig)] [B] [W] ZFO .nil
theorem ZXp:OK_ D64:=ok_ D64 Tryz.func243 ⟨ZF3,tr_⟩
def D65:=fd_ 314 Tryz.f314 [] [B,B] [n] ZpV <|
.j 911 [4] [] [e] [] Zqt <|
.nil
theorem ZRT:OK_ D65:=ok_ D65 Tryz.func314
def D66:=fd_ 300 Tryz.f300 [D65.sg] [B,B] [W,n] Zuu .nil
theorem ZXo:OK_ D66:=ok_ D66 Tryz.func300 ⟨ZRT,tr_⟩
def D67:=fd_ 278 Tryz.f278 [D66.sg] [B,B] [W,n] ZAC .nil
theorem ZXn:OK_ D67:=ok_ D67 Tryz.func278 ⟨ZXo,tr_⟩
def D68:=fd_ 301 Tryz.f301 [D65.sg] [B,B] [W] Zuh .nil
theorem ZXm:OK_ D68:=ok_ D68 Tryz.func301 ⟨ZRT,tr_⟩
def D69:=fd_ 279 Tryz.f279 [D68.sg] [B,B] [W] Zz2 .nil
theorem ZXl:OK_ D69:=ok_ D69 Tryz.func279 ⟨ZXm,tr_⟩
def D71:=fd_ 313 Tryz.f313 [(329,ZyN.sig)] [B,B] [z] ZtC <|
.j 914011 [0,1,5,16] [] [m,m,c,e] [] ZrM <|
.nil
theorem ZXk:OK_ D71:=ok_ D71 Tryz.func313 ⟨ZC6,tr_⟩
def D72:=fd_ 302 Tryz.f302 [D71.sg] [B,B] [W,W,n] Zy5 .nil
theorem ZXj:OK_ D72:=ok_ D72 Tryz.func302 ⟨ZXk,tr_⟩
def D73:=fd_ 280 Tryz.f280 [D72.sg] [B,B] [W,W,n] ZDM .nil
theorem ZRS:OK_ D73:=ok_ D73 Tryz.func280 ⟨ZXj,tr_⟩
def D74:=fd_ 281 Tryz.f281 [(274,ZFj.sig)] [B,H] [n] ZAo <|
.j 911 [4] [] [e] [] Zw1 <|
.nil
theorem ZXi:OK_ D74:=ok_ D74 Tryz.func281 ⟨ZF3,tr_⟩
def D75:=fd_ 248 Tryz.f248 [D67.sg,D69.sg,D73.sg,D74.sg,D30.sg,D54.sg,D20.sg,D57.sg,D21.sg,D44.sg] [B] [A,n] Zwn <|
.j 9111 [2,4,5] [] [d,m,e] ad Zv9 <|
.j 9101111 [2,5,6,7,39] [] [d,e,m,m,e] ad Ztg <|
.lo 941011111111 [2,5,7,9,10,11,47,48,49] [9,10] [d,e,m,l,l,aV,Y,c,c] [aC,i,aO,i,i] 0 [2,5,7,9,10,11] [] [d,e,m,l,l,aV] [bC,i,i,i] Zzo ZCx (fun _=> .nil) <|
.lo 9410111111111 [2,5,9,10,11,63,64] [11] [d,e,l,l,l,c,c] ad 2 [2,5,9,11] [] [d,e,l,l] ad Zzn ZCw (fun _=> .nil) <|
.nil
theorem ZRR:OK_ D75:=ok_ D75 Tryz.func248 ⟨ZXn,ZXl,ZRS,ZXi,ZR6,ZRY,ZR8,ZRW,ZL4,ZND,tr_⟩
def D78:=fd_ 284 Tryz.f284 [] [aq] [W] ZDZ <|
.lr 941011 [3,6,7,8] [] [m,K,c,c] [] 0 [3] [] [m] [] Zzp ZGa (fun _=> .nil) <|
.nil
theorem ZXh:OK_ D78:=ok_ D78 Tryz.func284
def D79:=fd_ 249 Tryz.f249 [D75.sg,(282,ZFp.sig),D73.sg,(283,ZE4.sig),D78.sg] [B] [W,n] ZB2 <|
.j 9111111 [0,9] [] [m,m] [] Zwd <|
.j 910111111 [9,43] [] ah [] ZBF <|
.j 91111111 [9] [] [m] [] ZBE <|
.nil
theorem ZXg:OK_ D79:=ok_ D79 Tryz.func249 ⟨ZRR,ZG6,ZRS,ZGU,ZXh,tr_⟩
noncomputable def D80:FD U:=⟨204,Tryz.f204,[D62.sg,D64.sg,D79.sg],[H,B],[],[W,n],[],[(26,2)],ZxG,ZxG,
.nil⟩
theorem ZXf:OK_ D80:=ok_ D80 Tryz.func204 ⟨ZRU,ZXp,ZXg,tr_⟩
noncomputable def D81:FD U:=⟨160,Tryz.f160,[D80.sg,D62.sg,D75.sg],[H,B],[],[A,n],[],[(22,2)],ZDH,ZDH,
.nil⟩
theorem ZXe:OK_ D81:=ok_ D81 Tryz.func160 ⟨ZXf,ZRU,ZRR,tr_⟩
def D82:=fd_ 112 Tryz.f112 [D47.sg,D81.sg] [aS] [A,n] ZGZ .nil
theorem ZXd:OK_ D82:=ok_ D82 Tryz.func112 ⟨ZKD,ZXe,tr_⟩
noncomputable def D83:FD U:=⟨70,Tryz.f70,[D82.sg,D48.sg],[aj],[],[A],[],[],ZDO,ZwZ,
.lo 941011 [2,3,4,10,11,12] [] bb ad 0 [2,3,4] [] [d,c,c] ad Zv6 ZCl (fun n0=> .j 9111541011 [2,3,4,10,11,12] [] bb ad (Zv7 (Zv6 n0)) <|
.nil) <|
.nil⟩
theorem ZXc:OK_ D83:=ok_ D83 Tryz.func70 ⟨ZXd,ZNC,tr_⟩ (hw:=by funext x_;exact ZC7 _)
def D84:=fd_ 159 Tryz.f159 [D55.sg,D59.sg] [G,G] [ak,ak] ZFW .nil
theorem ZXb:OK_ D84:=ok_ D84 Tryz.func159 ⟨ZPM,ZRV,tr_⟩
def D85:=fd_ 119 Tryz.f119 [D53.sg,D84.sg,D44.sg] [.fn 159 [] [],G,G] [A,z] Zrs <|
.j 9101 [0,4,5,6,18] [] [.fn 159 [] [],d,k,q,e] a0 Zr8 <|
.nil
theorem ZRQ:OK_ D85:=ok_ D85 Tryz.func119 ⟨ZNB,ZXb,ZND,tr_⟩
def D86:=fd_ 111 Tryz.f111 [D53.sg,D56.sg,D85.sg] [G,G] [A,z] ZEv .nil
theorem ZXa:OK_ D86:=ok_ D86 Tryz.func111 ⟨ZNB,ZRX,ZRQ,tr_⟩
def D87:=fd_ 77 Tryz.f77 [] [G,H] [A] ZDn .nil
theorem ZPJ:OK_ D87:=ok_ D87 Tryz.func77
def D88:=fd_ 69 Tryz.f69 [D86.sg,D87.sg] [G,G] [A] ZGw .nil
theorem ZW9:OK_ D88:=ok_ D88 Tryz.func69 ⟨ZXa,ZPJ,tr_⟩
def D89:=fd_ 113 Tryz.f113 [D85.sg] [G,G] [A,z] ZDi .nil
theorem ZW8:OK_ D89:=ok_ D89 Tryz.func113 ⟨ZRQ,tr_⟩
def D90:=fd_ 71 Tryz.f71 [D89.sg,D87.sg] [G,G] [A] ZFS .nil
theorem ZRP:OK_ D90:=ok_ D90 Tryz.func71 ⟨ZW8,ZPJ,tr_⟩
def D91:=fd_ 118 Tryz.f118 [D55.sg] [G,G] [ak,ak] ZFX .nil
theorem ZW7:OK_ D91:=ok_ D91 Tryz.func118 ⟨ZPM,tr_⟩
def D92:=fd_ 119 Tryz.f119 [D53.sg,D91.sg,D44.sg] [.fn 118 [] [],G,G] [A,z] ZwW <|
.j 9101 [0,4,5,6,18] [] [.fn 118 [] [],d,k,q,e] a0 Zrc <|
.nil
theorem ZW6:OK_ D92:=ok_ D92 Tryz.func119 ⟨ZNB,ZW7,ZND,tr_⟩
def D93:=fd_ 78 Tryz.f78 [D92.sg] [G,G] [A,z] ZEw .nil
theorem ZW5:OK_ D93:=ok_ D93 Tryz.func78 ⟨ZW6,tr_⟩
def D94:=fd_ 34 Tryz.f34 [D93.sg,D87.sg] [G,G] [A] ZHs .nil
theorem ZRO:OK_ D94:=ok_ D94 Tryz.func34 ⟨ZW5,ZPJ,tr_⟩
def D95:=fd_ 32 Tryz.f32 [D50.sg,D52.sg,D61.sg,D47.sg,D83.sg,D88.sg,D90.sg,D48.sg,D94.sg] [aj,aj] [A] ZDP <|
.j 91011 [2,3,4,5,6,24] [] [d,k,q,X,a9,e] [ao,ao,aT,O,O,i,i] Zwk <|
.j 911111 [4,5,6,7] [] [d,k,q,X] [aD,O,O,O,i,i] Zzi <|
.nil
theorem ZW4:OK_ D95:=ok_ D95 Tryz.func32 ⟨ZXs,ZXr,ZPK,ZKD,ZXc,ZW9,ZRP,ZNC,ZRO,tr_⟩
def D96:=fd_ 72 Tryz.f72 [D61.sg] [bi] [z] ZB0 <|
.lr 941011 [0,14,15,16] [] be [] 0 [0] [] [L] [] Zzs ZCB (fun _=> .nil) <|
.lr 9410111 [0,24,25,26] [] be [] 2 [0] [] [L] [] Zzr ZCA (fun _=> .nil) <|
.lr 94101111 [38,39,40] [] [L,c,c] [] 4 [] [] [] [] Zwa ZCy (fun n0=> .lr 9411401154101111 [38,39,40,44,45,46] [] [L,c,c,aG,c,c] [] 6 [38,39,40] [] [L,c,c] [] Zzq (ZCz (Zwa n0)) (fun _=> .nil) <|
.nil) <|
.nil
theorem ZW3:OK_ D96:=ok_ D96 Tryz.func72 ⟨ZPK,tr_⟩
noncomputable def ZUT (n_:Nat):FD U:=⟨73,Tryz.f73,[],[.boxr (.sl (.sl (.st 4))) 3,.p (.int .i64),.p (.int .i64),.hmap (.st 7) (.st 4)],[(3,.map (.st 7) (.st 4))],[.p (.st 4)],[],[],Zkb n_,Zkb n_,
.nil⟩
noncomputable def ZYe (n_:Nat):FD U:=⟨74,Tryz.f74,[D61.sg,D47.sg,(ZUT n_).sg,D90.sg],[.boxr (.sl (.sl (.st 4))) 4,.p (.int .i64),.p (.int .i64),.p (.int .i64),.hmap (.st 7) (.st 4)],[(4,.map (.st 7) (.st 4))],[.p (.st 4),.p .bool],[],[],Zq8 (Zkb n_),Zq8 (Zkb n_),
.j 9101 [0,1,2,3,8,28] [] [.o (.rp (.sl (.sl (.st 4))) (0,4,0)),c,c,c,d,e] [aF,bz,i,i] (Zqh (Zkb n_)) <|
.nil⟩
theorem ZPI (n_:Nat) (ih:Zez X0.E 73 (ZUT n_).sig):Zez X0.E 74 (ZYe n_).sig:=(ZYe n_).ok G0 Tryz.func74 ⟨ZPK,ZKD,ih,ZRP,trivial⟩ rfl rfl (by kernel_rfl)
noncomputable def D98c (n_:Nat):FD U:=⟨73,Tryz.f73,[D47.sg,(ZUT n_).sg,(ZYe n_).sg,D60.sg],[.boxr (.sl (.sl (.st 4))) 3,.p (.int .i64),.p (.int .i64),.hmap (.st 7) (.st 4)],[(3,.map (.st 7) (.st 4))],[.p (.st 4)],[],[],Zza (Zkb n_),Zkb (n_+1),
.lo 941011111 [0,1,2,6,7,10,48,49] [] [a8,c,c,d,k,q,c,c] aQ 0 [0,6,7,10] [] [a8,d,k,q] aQ (ZoH (Zkb n_)) (Zyr (Zkb n_)) (fun n0=> .j 91114011541011111 [0,1,2,6,7,10,12,48,49,66] [] [a8,c,c,d,k,q,X,c,c,e] [aF,aD,bD,O,O,i,i] ((Zru (Zkb n_)) ((ZoH (Zkb n_)) n0)) <|
.j 9111541011111 [0,1,2,6,7,10,48,49] [] [a8,c,c,d,k,q,c,c] aQ ((Zrt (Zkb n_)) ((ZoH (Zkb n_)) n0)) <|
.nil) <|
.nil⟩
theorem ZTD (n_:Nat):Zez X0.E 73 (ZUT n_).sig:=by
 induction n_ with
 |zero=>
  refine ZkU.ok (S:=(ZUT 0).FS) uok fun v r h=> ?_
  have h2:(none:Option _)=some r:=h;cases h2
 |succ n_ ih=>exact(D98c n_).ok G0 Tryz.func73 ⟨ZKD,ih,ZPI n_ ih,ZPL,trivial⟩ rfl rfl (by kernel_rfl)
noncomputable abbrev D98:FD U:=ZUT big
theorem ZRN:Zez X0.E 73 D98.sig:=ZTD big
noncomputable abbrev D97:FD U:=ZYe big
theorem ZW2:Zez X0.E 74 D97.sig:=ZPI big ZRN
def D99:=fd_ 76 Tryz.f76 [] [G] [A] ZIl .nil
theorem ZW1:OK_ D99:=ok_ D99 Tryz.func76
def Z0q:=fd_ 33 Tryz.f33 [D96.sg,D98.sg,D97.sg,D60.sg,D99.sg] [bi] [a3,A,z] ZCO <|
.lo 941011111 [3,6,7,8,26,27,28] [200006] [d,aU,Y,c,L,c,c] bs 0 [3,6,7] [] [d,aU,Y] bs ZqK ZC3 (fun n0=> .lo 9410114011541011111 [3,6,7,8,9,11,12,26,27,28,38,39] [] [d,aU,Y,c,c,X,c,L,c,c,c,c] [aD,aF,ai,O,i,i] 2 [3,6,7,8,12,26,27,28] [] [d,aU,Y,c,c,L,c,c] bs Zp1 (ZC4 (ZqK n0)) (fun n1=> .j 911140115410114011541011111 [3,6,7,8,9,11,12,13,26,27,28,38,39,56] [] [d,aU,Y,c,c,X,c,c,L,c,c,c,c,e] [aD,aF,ai,O,i,i] (Zur (Zp1 n1)) <|
.nil) <|
.nil) <|
.nil
theorem ZUL:OK_ Z0q:=ok_ Z0q Tryz.func33 ⟨ZW3,ZRN,ZW2,ZPL,ZW1,tr_⟩
def ZYv:=fd_ 13 Tryz.f13 [D12.sg,D95.sg,Z0q.sg,D48.sg,D94.sg] [M,M] [a3,A,z] Zo3 <|
.j 91401 [2,3,5,16] [] aH bd Zsc <|
.j 9131401 [2,3,5,26] [] aH bd Zyw <|
.lo 9410111 [2,3,5,7,39,40,41] [] [d,k,q,an,T,c,c] ba 1 [2,3,5,7] [] [d,k,q,an] ba ZuS ZBo (fun n0=> .lo 94101140115410111 [2,3,5,7,9,10,39,40,41,47,48,49] [] bI bN 3 [2,3,5,7,10,39,40,41] [] [d,k,q,an,aL,T,c,c] [I,I,aT,a7,bl,i,i] Zyv (ZBp (ZuS n0)) (fun _=> .nil) <|
.nil) <|
.nil
theorem ZP4:OK_ ZYv:=ok_ ZYv Tryz.func13 ⟨ZR9,ZW4,ZUL,ZNC,ZRO,tr_⟩
def Z0p:=fd_ 92 Tryz.f92 [] [am,H] [z] ZBx <|
.lr 94101 [0,1,7,8] [] [y,c,c,c] [] 0 [] [] [] [] Zsx ZzS (fun _=> .nil) <|
.nil
theorem ZUK:OK_ Z0p:=ok_ Z0p Tryz.func92
def Z0o:=fd_ 42 Tryz.f42 [Z0p.sg] [am,H] [n] ZvT .nil
theorem ZUJ:OK_ Z0o:=ok_ Z0o Tryz.func42 ⟨ZUK,tr_⟩
def Z0n:=fd_ 93 Tryz.f93 [] [.p (.sl (.st 1))] [.own (.st 1)] Zqj <|
.j 9101 [0,4] [] [T,e] [] ZoV <|
.nil
theorem ZUI:OK_ Z0n:=ok_ Z0n Tryz.func93
def Z0m:=fd_ 94 Tryz.f94 [] [.p (.sl (.st 0))] [.own (.st 0)] Zra <|
.j 9101 [0,4] [] [au,e] [] Zpc <|
.nil
theorem ZUH:OK_ Z0m:=ok_ Z0m Tryz.func94
noncomputable def Z0l:FD U:=⟨44,Tryz.f44,[Z0n.sg,Z0m.sg],[M],[],[.aoown 2 2 (.st 1) 1 (.st 0)],[2000011],[],ZDo,ZDo,
.lo 941011 [1,2,10,11,12] [] bu [aB,ar,aX,N] 0 [1,2] [] aA [aB,ar,aX,N] ZEt ZEu (fun _=> .nil) <|
.nil⟩
theorem ZUG:OK_ Z0l:=ok_ Z0l Tryz.func44 ⟨ZUI,ZUH,tr_⟩
def Z0k:=fd_ 135 Tryz.f135 [] [a4,a4] [a5,a5] ZGx .nil
theorem ZUF:OK_ Z0k:=ok_ Z0k Tryz.func135
def Z0j:=fd_ 95 Tryz.f95 [Z0k.sg] [a4,a4] [a5,a5] ZHt .nil
theorem ZUE:OK_ Z0j:=ok_ Z0j Tryz.func95 ⟨ZUF,tr_⟩
def Z0i:=fd_ 45 Tryz.f45 [Z0j.sg] [.p (.sl (.st 0)),H] [.own (.st 0)] Zpp <|
.j 910111 [0,6,26] [] [au,V,e] [] Zsw <|
.lo 940111111 [7,8] [] [u,c] [al] 0 [7] [] [u] [al] Zsv ZxE (fun _=> .nil) <|
.nil
theorem ZUD:OK_ Z0i:=ok_ Z0i Tryz.func45 ⟨ZUE,tr_⟩
def ZYu:=fd_ 17 Tryz.f17 [D12.sg,Z0o.sg,D6.sg,Z0l.sg,Z0i.sg] [M,M,am] [aK,z] Zqp <|
.j 9101 [2,3,4,6,31] [] [y,d,k,q,e] ac ZpW <|
.lr 941011 [2,3,4,6,33,34,35] [] aP ac 0 [2,3,4,6] [] bh ac Zsb Zyu (fun n0=> .j 9114011541011 [2,3,4,6,33,34,35,47] [] bo ac (ZuR (Zsb n0)) <|
.nil) <|
.lr 9410111 [2,3,4,6,50,51,52] [] aP ac 2 [2,3,4,6] [] bh ac Zsa ZuP (fun n0=> .j 91140115410111 [2,3,4,6,50,51,52,65] [] bo ac (ZuQ (Zsa n0)) <|
.nil) <|
.lo 9410111111 [4,6,12,77,78,79] [] [d,k,q,y,c,c] [I,ar,aE,N,aX] 4 [6,12] [] aA [aB,ar,N,aX] ZuO Zyt (fun n0=> .j 911140115410111111 [4,6,12,13,15,77,78,79] [15] [d,k,q,c,au,y,c,c] [I,ar,aE,N,aX] (ZqL (ZuO n0)) <|
.nil) <|
.nil
theorem ZP3:OK_ ZYu:=ok_ ZYu Tryz.func17 ⟨ZR9,ZUJ,ZTE,ZUG,ZUD,tr_⟩
def ZYt:=fd_ 15 Tryz.f15 [] [am,am] [n] Zp6 <|
.lr 941011 [1,12,13,14] [] [y,y,c,c] [] 0 [] [] [] [] Zr2 ZvX (fun _=> .nil) <|
.nil
theorem ZP2:OK_ ZYt:=ok_ ZYt Tryz.func15
def ZSa:=fd_ 219 Tryz.f219 [] [J] [ae] Zpd <|
.lo 9401 [0] [] [l] [] 0 [0] [] [l] [] ZpH ZCW (fun n0=> .j 9105401 [0,14] [] [l,e] [] (Zy2 (ZpH n0)) <|
.nil) <|
.nil
theorem ZIZ:OK_ ZSa:=ok_ ZSa Tryz.func219
def ZUC:=fd_ 177 Tryz.f177 [ZSa.sg] [.p .bool,J] [ak] ZoX <|
.j 9111 [4] [] [d] [ag] ZvL <|
.nil
theorem ZJ8:OK_ ZUC:=ok_ ZUC Tryz.func177 ⟨ZIZ,tr_⟩
def ZXX:=fd_ 141 Tryz.f141 [ZUC.sg] [H] [ak] ZoR <|
.j 9111 [0,2,3] [] [c,d,V] [bE,i] ZsT <|
.nil
theorem ZM2:OK_ ZXX:=ok_ ZXX Tryz.func141 ⟨ZJ8,tr_⟩
def ZYs:=fd_ 174 Tryz.f174 [] [Q] [n] Zqc <|
.j 9111 [2] [] [e] [] Zpf <|
.nil
theorem ZP1:OK_ ZYs:=ok_ ZYs Tryz.func174
def Z0h:=fd_ 217 Tryz.f217 [ZSa.sg] [J] [ae] Zqq <|
.lo 941011 [0,3,9,10] [] [l,u,c,c] [i] 0 [3] [] [u] [i] ZrX Zy3 (fun n0=> .j 9111541011 [0,3,9,10] [] [l,u,c,c] [i] (ZrY (ZrX n0)) <|
.nil) <|
.nil
theorem ZUB:OK_ Z0h:=ok_ Z0h Tryz.func217 ⟨ZIZ,tr_⟩
def ZUZ:=fd_ 175 Tryz.f175 [] [J,J] [z] ZpD <|
.lr 941011 [0,1,5] [] az [] 0 [] [] [] [] ZvK ZzO (fun _=> .nil) <|
.nil
theorem ZLc:OK_ ZUZ:=ok_ ZUZ Tryz.func175
def ZXW:=fd_ 179 Tryz.f179 [ZSa.sg] [J,J] [ae] ZqN <|
.lo 9410111 [0,1,5,6,7] [] [l,l,u,c,c] [i] 0 [5] [] [u] [i] Zso ZzF (fun n0=> .j 9114015410111 [0,1,5,6,7] [] [l,l,u,c,c] [i] (Zsp (Zso n0)) <|
.nil) <|
.nil
theorem ZM1:OK_ ZXW:=ok_ ZXW Tryz.func179 ⟨ZIZ,tr_⟩
def ZYr:=fd_ 218 Tryz.f218 [ZSa.sg] [J,af] [ae] Zta <|
.lo 941011 [0,1,5,6] [] [l,aa,u,c] [i] 0 [1,5] [] [aa,u] [i] ZtX Zx3 (fun _=> .nil) <|
.nil
theorem ZP0:OK_ ZYr:=ok_ ZYr Tryz.func218 ⟨ZIZ,tr_⟩
def ZYq:=fd_ 176 Tryz.f176 [Z0h.sg,ZUZ.sg,ZXW.sg,ZYr.sg] [J,J] [ae] ZuU <|
.lo 94011 [0,1,5] [] az [] 0 [0,1,5] [] az [] ZqI ZzM (fun n0=> .j 91054011 [0,1,5,17] [] [l,l,c,e] [] (ZvJ (ZqI n0)) <|
.nil) <|
.lo 940111 [0,1,5] [] az [] 2 [0,5] [] [l,c] [] Zo2 ZzJ (fun n0=> .lo 94041540111 [0,1,5] [] az [] 4 [0,1,5] [] az [] Zpv (ZzL (Zo2 n0)) (fun _=> .nil) <|
.lo 940141540111 [0,1,5] [] az [] 6 [0,1,5] [] az [] Zpu (ZzK (Zo2 n0)) (fun _=> .nil) <|
.j 911141540111 [0,1,5] [] az [] (ZvI (Zo2 n0)) <|
.nil) <|
.lo 9401111 [0,5] [] [l,c] [] 8 [0] [] [l] [] ZqH ZzI (fun _=> .nil) <|
.nil
theorem ZPZ:OK_ ZYq:=ok_ ZYq Tryz.func176 ⟨ZUB,ZLc,ZM1,ZP0,tr_⟩
def Z0g:=fd_ 266 Tryz.f266 [] [J,H] [ap] ZyD .nil
theorem ZUA:OK_ Z0g:=ok_ Z0g Tryz.func266
def Z0f:=fd_ 220 Tryz.f220 [Z0g.sg,ZYr.sg,ZUZ.sg,ZXW.sg,ZSa.sg] [J,J] [ae,ae] ZuV <|
.lo 941011 [0,1,4,5,6] [5] [l,l,u,l,c] [i] 0 [4,5] [] [u,l] [i] Zsr ZzN (fun n0=> .j 911541011 [0,1,4,5,6] [] [l,l,u,l,c] [i] (Zss (Zsr n0)) <|
.nil) <|
.nil
theorem ZUz:OK_ Z0f:=ok_ Z0f Tryz.func220 ⟨ZUA,ZP0,ZLc,ZM1,ZIZ,tr_⟩
def ZXU:=fd_ 181 Tryz.f181 [ZXX.sg,ZYq.sg,Z0f.sg,ZUC.sg] [Q,Q] [A] ZqG .nil
theorem ZM0:OK_ ZXU:=ok_ ZXU Tryz.func181 ⟨ZM2,ZPZ,ZUz,ZJ8,tr_⟩
def Z0e:=fd_ 140 Tryz.f140 [ZYs.sg,ZXU.sg] [Q,Q] [A,z] Zxr <|
.j 9101 [2,3,4,13] [] aH [ag,ag,aC,i,i] ZuH <|
.nil
theorem ZUy:OK_ Z0e:=ok_ Z0e Tryz.func140 ⟨ZP1,ZM0,tr_⟩
def ZYp:=fd_ 101 Tryz.f101 [ZXX.sg,Z0e.sg] [H,H] [A,z] Zv4 .nil
theorem ZPY:OK_ ZYp:=ok_ ZYp Tryz.func101 ⟨ZM2,ZUy,tr_⟩
noncomputable def ZXT:FD U:=⟨54,Tryz.f54,[ZYp.sg],[H,H],[],[A],[],[],ZAz,ZqE,
.nil⟩
theorem ZMZ:OK_ ZXT:=ok_ ZXT Tryz.func54 ⟨ZPY,tr_⟩ (hw:=by funext x_;funext x_;exact ZC7 _)
noncomputable def ZUY:FD U:=⟨24,Tryz.f24,[ZXT.sg],[H],[],[A],[],[],ZBq,Zpa,
.nil⟩
theorem ZLb:OK_ ZUY:=ok_ ZUY Tryz.func24 ⟨ZMZ,tr_⟩ (hw:=by funext x_;exact ZC7 _)
def Z0d:=fd_ 41 Tryz.f41 [] [Q,Q] [n] ZrS <|
.j 9101 [2,3,20] [] aI [ag,ag] ZsP <|
.lr 941011 [3,22,23,24] [] [d,l,c,c] [ag] 0 [] [] [] [] ZsO ZwH (fun _=> .nil) <|
.nil
theorem ZUx:OK_ Z0d:=ok_ Z0d Tryz.func41
def ZUX:=fd_ 16 Tryz.f16 [Z0d.sg] [G,G] [n] Zo5 <|
.j 911 [4] [] [e] [] Zuz <|
.nil
theorem ZLa:OK_ ZUX:=ok_ ZUX Tryz.func16 ⟨ZUx,tr_⟩
def ZUW:=fd_ 25 Tryz.f25 [] [M] [z] ZpM .nil
theorem ZK9:OK_ ZUW:=ok_ ZUW Tryz.func25
def Z0c:=fd_ 7 Tryz.f7 [ZYv.sg,ZYu.sg,ZYt.sg,ZUY.sg,ZUX.sg,ZUW.sg] [] [n] Ztc <|
.j 9111111 [0] [] [e] [] ZpB <|
.nil
theorem ZUw:OK_ Z0c:=ok_ Z0c Tryz.func7 ⟨ZP4,ZP3,ZP2,ZLb,ZLa,ZK9,tr_⟩
def Z0b:=fd_ 8 Tryz.f8 [] [am] [.box (.st 9)] ZCj .nil
theorem ZUv:OK_ Z0b:=ok_ Z0b Tryz.func8
def ZYo:=fd_ 12 Tryz.f12 [] [H,H] [z] Zr0 .nil
theorem ZPX:OK_ ZYo:=ok_ ZYo Tryz.func12
noncomputable def ZQe:FD U:=⟨10,Tryz.f10,[ZYo.sg],[aJ,H],[(0,.box (.st 9))],[z],[],[],Zi5,Zi5,
.nil⟩
theorem ZHL:OK_ ZQe:=ok_ ZQe Tryz.func10 ⟨ZPX,tr_⟩
noncomputable def ZUu:FD U:=⟨26,Tryz.f26,[ZQe.sg],[aJ,aq],[(0,.box (.st 9))],[W],[],[],ZoS,ZoS,
.nil⟩
theorem ZJ7:OK_ ZUu:=ok_ ZUu Tryz.func26 ⟨ZHL,tr_⟩
noncomputable def Z0a:FD U:=⟨55,Tryz.f55,[ZQe.sg,ZUu.sg],[aJ],[(0,.box (.st 9))],[.p (.st 0)],[],[],Zv5,Zv5,
.nil⟩
theorem ZUt:OK_ Z0a:=ok_ Z0a Tryz.func55 ⟨ZHL,ZJ7,tr_⟩
noncomputable def ZZ9:FD U:=⟨56,Tryz.f56,[ZQe.sg,ZUu.sg,(57,ZFk.sig)],[aJ],[(0,.box (.st 9))],[.p (.st 0)],[],[],Zua,Zua,
.nil⟩
theorem ZUs:OK_ ZZ9:=ok_ ZZ9 Tryz.func56 ⟨ZHL,ZJ7,ZF4,tr_⟩
noncomputable def ZZ8:FD U:=⟨27,Tryz.f27,[ZUu.sg,ZQe.sg,Z0a.sg,ZZ9.sg,(57,ZFk.sig)],[aJ,H],[(0,.box (.st 9))],[.p (.st 1)],[],[],Zuc,Zuc,
.lo 9410111 [0,4,5,6,15,16] [] [av,d,k,c,c,c] [ab,bF,bj,al,al] 0 [4,5] [] aA [ab,bF,bj,al,al] ZrZ Zy4 (fun n0=> .j 911140115410111 [0,4,5,6,8,15,16] [] [av,d,k,c,q,c,c] [ab,bj,.box [.o (.v .str),.o (.full (0,5,1))],.boxS (.st 0),al,al] (ZpI (ZrZ n0)) <|
.nil) <|
.nil⟩
theorem ZUr:OK_ ZZ8:=ok_ ZZ8 Tryz.func27 ⟨ZJ7,ZHL,ZUt,ZUs,ZF4,tr_⟩
noncomputable def ZZ7:FD U:=⟨9,Tryz.f9,[ZUu.sg,ZQe.sg,ZZ8.sg],[aJ,H],[(0,.box (.st 9))],[.aown 2 2 (.st 1)],[],[],Zsd,Zsd,
.lo 9410111 [0,4,5,6,7] [] [av,d,k,c,c] bq 0 [0,4,5] [] [av,d,k] bq ZvQ ZzQ (fun _=> .nil) <|
.j 911111 [4,5] [] aA bq ZvR <|
.nil⟩
theorem ZUq:OK_ ZZ7:=ok_ ZZ7 Tryz.func9 ⟨ZJ7,ZHL,ZUr,tr_⟩
noncomputable def ZZ6:FD U:=⟨29,Tryz.f29,[ZQe.sg,ZUu.sg],[aJ,M],[(0,.box (.st 9))],[.p (.st 10)],[],[],Zyf,Zyf,
.j 911121410111 [0,3,4,5,44] [] [av,d,k,q,e] [ab,I,bA,.box [.o (.v (.int .i64)),.o (.v (.int .i64)),.o (.v .str),.o (.full (0,5,1))],ai,ai] ZqP <|
.j 9131410111 [0,4,5,6,16,66] [] [av,d,k,c,c,e] aZ Zu0 <|
.lo 941213131410111 [0,4,5,6,7] [] [av,d,k,c,c] aZ 1 [4,5] [] aA aZ ZuY ZBv (fun n0=> .j 910541213131410111 [0,4,5,6,7,83] [] [av,d,k,c,c,e] aZ (ZyH (ZuY n0)) <|
.nil) <|
.j 91111 [4,5] [] aA aZ ZqO <|
.j 911111 [4] [] [d] [ab,.box [.o (.v (.int .i64)),.o (.v (.int .i64)),.o (.v .str),.o (.full (0,2,1))],ai] ZuZ <|
.nil⟩
theorem ZUp:OK_ ZZ6:=ok_ ZZ6 Tryz.func29 ⟨ZHL,ZJ7,tr_⟩
def ZYn:=fd_ 122 Tryz.f122 [D3.sg] [B] [n] Zs9 .nil
theorem ZPW:OK_ ZYn:=ok_ ZYn Tryz.func122 ⟨ZXv,tr_⟩
def ZZ5:=fd_ 80 Tryz.f80 [ZYn.sg] [B] [n] ZtU <|
.j 911 [2] [] [e] [] ZuC <|
.nil
theorem ZUo:OK_ ZZ5:=ok_ ZZ5 Tryz.func80 ⟨ZPW,tr_⟩
def ZZ4:=fd_ 81 Tryz.f81 [ZYn.sg] [aS] [n] Ztu <|
.j 911 [2] [] [e] [] Zpw <|
.nil
theorem ZUn:OK_ ZZ4:=ok_ ZZ4 Tryz.func81 ⟨ZPW,tr_⟩
def ZUm:=fd_ 36 Tryz.f36 [ZZ5.sg,ZZ4.sg] [M] [n] Znd <|
.j 9101 [1,26] [] [d,e] [I] Zqa <|
.lr 941011 [1,28,29,30] [] [d,T,c,c] [I] 0 [] [] [] [] Zpe ZxZ (fun n0=> .j 91014011541011 [1,4,28,29,30,55] [] [d,k,T,c,c,e] [I,ao] (Zp9 (Zpe n0)) <|
.lr 941114011541011 [1,28,29,30,57,58,59] [] [d,T,c,c,au,c,c] [I] 2 [1,28,29,30] [] [d,T,c,c] [I] Zrk (Zx0 (Zpe n0)) (fun _=> .nil) <|
.nil) <|
.nil
theorem ZJ6:OK_ ZUm:=ok_ ZUm Tryz.func36 ⟨ZUo,ZUn,tr_⟩
def ZZ3:=fd_ 58 Tryz.f58 [] [M,.p (.st 10)] [n] Zyx <|
.j 911 [2,3,5] [] aI [I,aM] Zsk <|
.j 912141011 [4] [] [e] [] Zsj <|
.j 913141011 [2,3,5,20,36] [] [d,k,e,c,e] [I,aM] Zsi <|
.j 91213141011 [4] [] [e] [] Zsh <|
.lr 941021313141011 [2,3,54,55,56] [] [d,k,y,c,c] [I,aM] 1 [3] [] [d] [aM] Zsf Zzv (fun n0=> .j 9114011541021313141011 [2,3,54,55,56,68] [] [d,k,y,c,c,e] [I,aM] (Zvs (Zsf n0)) <|
.nil) <|
.j 91121313141011 [4] [] [e] [] Zsg <|
.j 91111 [4] [] [e] [] ZqD <|
.nil
theorem ZUl:OK_ ZZ3:=ok_ ZZ3 Tryz.func58
def ZZ2:=fd_ 103 Tryz.f103 [ZUm.sg] [M,am] [aK,z] ZuE <|
.lr 9410111 [1,2,4,6,18,19,20] [] aP bp 0 [1,4,6] [] [y,d,k] aR Zqz ZwK (fun n0=> .j 910140115410111 [1,2,4,6,8,18,19,20,32] [] [y,d,k,q,c,y,c,c,e] bp (ZsQ (Zqz n0)) <|
.nil) <|
.nil
theorem ZUk:OK_ ZZ2:=ok_ ZZ2 Tryz.func103 ⟨ZJ6,tr_⟩
def ZZ1:=fd_ 143 Tryz.f143 [] [M,H,H] [n] Zwe <|
.lr 94101 [1,2,10,11,12] [] [c,c,T,c,c] [] 0 [] [] [] [] ZtD ZxK (fun _=> .nil) <|
.nil
theorem ZUj:OK_ ZZ1:=ok_ ZZ1 Tryz.func143
def ZZ0:=fd_ 144 Tryz.f144 [] [aS,aS] [z] ZrH <|
.j 91401 [2,3,5] [] aI [.boxS (.st 0),.boxS (.st 0)] ZqB <|
.nil
theorem ZUi:OK_ ZZ0:=ok_ ZZ0 Tryz.func144
def ZZZ:=fd_ 105 Tryz.f105 [ZUW.sg,ZZ1.sg,ZZ0.sg] [M,.p (.st 10)] [a3] Zw7 <|
.lo 941011 [2,3,5,14,15] [] bu ay 0 [5] [] [u] [ai] Zpb ZyO (fun n0=> .lo 941213131410114011541011 [2,3,5,6,7,8,14,15,60,61,62] [] bK ay 3 [2,3,5,6,7,8,14,15] [] bn ay ZrO (ZyQ (Zpb n0)) (fun n1=> .j 9111541213131410114011541011 [2,3,5,6,7,8,14,15,60,61,62] [] bK ay (Zux (ZrO n1)) <|
.nil) <|
.lo 94121313131410114011541011 [2,3,5,6,7,8,12,14,15] [] [d,k,Y,c,c,e,au,c,c] ay 5 [2,3,5,6,7,8,14,15] [] bn ay ZrN (ZyP (Zpb n0)) (fun n1=> .j 91054121313131410114011541011 [2,3,5,6,7,8,12,14,15,101] [] [d,k,Y,c,c,e,au,c,c,e] ay (Zuw (ZrN n1)) <|
.nil) <|
.j 91114011541011 [2,3,5,6,7,8,14,15] [] bn ay (Zqm (Zpb n0)) <|
.j 911114011541011 [2,3,5,6,7,14,15,104] [] [d,k,Y,c,c,c,c,e] ay (Zql (Zpb n0)) <|
.j 9111541011 [2,3,5,14,15] [] bu ay (Zuv (Zpb n0)) <|
.nil) <|
.nil
theorem ZUh:OK_ ZZZ:=ok_ ZZZ Tryz.func105 ⟨ZK9,ZUj,ZUi,tr_⟩
def ZZY:=fd_ 104 Tryz.f104 [ZUm.sg,ZUW.sg] [M,am] [aK,z] ZvD <|
.lr 941011 [1,2,4,18,19,20] [] [y,d,k,y,c,c] a1 0 [1,2,4] [] [y,d,k] a1 ZqV Zxl (fun n0=> .j 9114011541011 [1,2,4,18,19,20,31] [] [y,d,k,y,c,c,e] a1 (Ztw (ZqV n0)) <|
.nil) <|
.lo 941011111 [1,4,8,44,45,46] [] [y,d,k,T,c,c] aR 2 [4,8] [] aA aR ZqU Zxj (fun n0=> .lo 9410114011541011111 [1,4,8,10,11,44,45,46,53,54,55] [] [y,d,k,q,X,T,c,c,y,c,c] [aE,a6,ao,bk,N,N,al] 4 [1,4,8,11,44,45,46] [] [y,d,k,q,T,c,c] [ar,aE,.box [.o (.v .str),.o (.full (0,6,1))],N,N,al] Ztv (Zxk (ZqU n0)) (fun _=> .nil) <|
.nil) <|
.nil
theorem ZUg:OK_ ZZY:=ok_ ZZY Tryz.func104 ⟨ZJ6,ZK9,tr_⟩
def ZZX:=fd_ 59 Tryz.f59 [ZZ2.sg,ZZZ.sg,ZZY.sg] [M,.p (.st 10)] [aK] Zzc .nil
theorem ZUf:OK_ ZZX:=ok_ ZZX Tryz.func59 ⟨ZUk,ZUh,ZUg,tr_⟩
def ZYm:=fd_ 30 Tryz.f30 [] [M] [aK] ZtG <|
.lo 941011 [2,3,12,13,14] [] [d,k,T,c,c] aR 0 [2,3] [] aA aR Zuy ZyR (fun _=> .nil) <|
.nil
theorem ZPV:OK_ ZYm:=ok_ ZYm Tryz.func30
def ZZW:=fd_ 28 Tryz.f28 [ZUm.sg,ZZ3.sg,ZZX.sg,ZYm.sg] [M,.p (.sl (.st 10))] [aK,z] Zyy <|
.lr 941011 [2,4,18,19,20] [] [d,k,.o (.v (.sl (.st 10))),c,c] a1 1 [2,4] [] aA a1 Zvt Zzw (fun _=> .nil) <|
.nil
theorem ZUe:OK_ ZZW:=ok_ ZZW Tryz.func28 ⟨ZJ6,ZUl,ZUf,ZPV,tr_⟩
noncomputable def ZZV:FD U:=⟨11,Tryz.f11,[ZQe.sg,ZZ6.sg,ZZW.sg,ZYm.sg],[aJ,M,H],[(0,.box (.st 9))],[aK],[],[],Ztd,Ztd,
.lo 94101 [0,2,4,6,7] [] [av,c,d,k,c] [ab,I,aB,N] 0 [2,4,6] [] [c,d,k] [ab,I,aB,N] Zrq Zyg (fun n0=> .j 91154101 [0,2,4,6,7] [] [av,c,d,k,c] [ab,I,aB,N] (Zub (Zrq n0)) <|
.nil) <|
.nil⟩
theorem ZUd:OK_ ZZV:=ok_ ZZV Tryz.func11 ⟨ZHL,ZUp,ZUe,ZPV,tr_⟩
def ZZU:=fd_ 170 Tryz.f170 [] [aq] [.own .str] ZyB <|
.lo 941011 [3,7,8,9] [] [u,K,c,c] [ax] 0 [3] [] [u] [ax] ZpP ZzD (fun n0=> .lo 940114011541011 [3,5,6,7,8,9] [] [u,m,c,K,c,c] [ax] 2 [3,5,6,7,8,9] [] [u,m,c,K,c,c] [ax] Zsn (ZzE (ZpP n0)) (fun n1=> .j 910540114011541011 [3,5,6,7,8,9,24] [] [u,m,c,K,c,c,e] [ax] (ZvG (Zsn n1)) <|
.nil) <|
.j 911114011541011 [3,5,6,7,8,9,38] [] [u,m,c,K,c,c,e] [ax] (ZvF (ZpP n0)) <|
.j 9111541011 [3,7,8,9] [] [u,K,c,c] [ax] (ZvE (ZpP n0)) <|
.nil) <|
.nil
theorem ZUc:OK_ ZZU:=ok_ ZZU Tryz.func170
def ZZT:=fd_ 124 Tryz.f124 [ZZU.sg] [aj] [.own .str] Zsm <|
.lo 941011 [3,7,8,9] [] [u,au,c,c] [ax] 0 [3] [] [u] [ax] ZqQ Zxe (fun n0=> .j 9111541011 [3,7,8,9] [] [u,au,c,c] [ax] (Ztn (ZqQ n0)) <|
.nil) <|
.nil
theorem ZUb:OK_ ZZT:=ok_ ZZT Tryz.func124 ⟨ZUc,tr_⟩
def ZQd:=fd_ 39 Tryz.f39 [ZUY.sg] [] [A] ZlB .nil
theorem ZHK:OK_ ZQd:=ok_ ZQd Tryz.func39 ⟨ZLb,tr_⟩
def ZYl:=fd_ 123 Tryz.f123 [ZQd.sg,ZXT.sg] [aq,aq] [A] ZrR <|
.lo 941011 [0,1,4,5,10,11,12] [] [K,K,d,c,K,c,c] ad 0 [0,1,4,5] [] [K,K,d,c] ad Zqy ZwF (fun n0=> .lo 94114011541011 [0,1,4,5,7,10,11,12,16,17,18] [] bJ ad 2 [0,1,4,5,10,11,12] [] [K,K,d,c,K,c,c] ad Zqx (ZwG (Zqy n0)) (fun n1=> .j 911154114011541011 [0,1,4,5,7,10,11,12,16,17,18] [] bJ ad (ZsN (Zqx n1)) <|
.nil) <|
.nil) <|
.nil
theorem ZPU:OK_ ZYl:=ok_ ZYl Tryz.func123 ⟨ZHK,ZMZ,tr_⟩
def ZZS:=fd_ 82 Tryz.f82 [ZZT.sg,ZYl.sg] [aj,aj] [A] Zvx .nil
theorem ZUa:OK_ ZZS:=ok_ ZZS Tryz.func82 ⟨ZUb,ZPU,tr_⟩
def ZZR:=fd_ 171 Tryz.f171 [] [.p (.int .u8)] [.p (.int .u8)] Zvw <|
.j 91401 [0,3] [] [.o (.v (.int .u8)),e] [] Zxd <|
.j 9131401 [0,13] [] [.o (.v (.int .u8)),e] [] ZpR <|
.nil
theorem ZT9:OK_ ZZR:=ok_ ZZR Tryz.func171
def ZZQ:=fd_ 172 Tryz.f172 [] [aq,B] [.p (.sl .str)] Zyz <|
.lo 94011 [0,1,5] [] [K,m,c] [] 0 [0,1,5] [] [K,m,c] [] Zsl Zzy (fun n0=> .j 91054011 [0,1,5,17] [] [K,m,c,e] [] (Zvv (Zsl n0)) <|
.nil) <|
.j 910111 [0,1,5,31] [] [K,m,c,e] [] Zvu <|
.nil
theorem ZT8:OK_ ZZQ:=ok_ ZZQ Tryz.func172
def ZZP:=fd_ 125 Tryz.f125 [ZZR.sg,ZZQ.sg] [B] [.p (.sl .str)] Zs7 <|
.lo 9410111 [0,3,4,5] [3] [m,K,m,c] [] 0 [3] [] [K] [] Zo4 ZxX (fun n0=> .j 9114015410111 [0,3,4,5,6] [] [m,K,m,c,.o (.v (.int .u8))] [] (Zrh (Zo4 n0)) <|
.j 911114015410111 [0,3,5] [3] [m,K,c] [] (ZtR (Zo4 n0)) <|
.j 9115410111 [0,3,4,5] [3] [m,K,m,c] [] (ZtQ (Zo4 n0)) <|
.nil) <|
.nil
theorem ZT7:OK_ ZZP:=ok_ ZZP Tryz.func125 ⟨ZT9,ZT8,tr_⟩
def ZZO:=fd_ 83 Tryz.f83 [ZZP.sg,ZYl.sg] [B,B] [A] Zwg .nil
theorem ZT6:OK_ ZZO:=ok_ ZZO Tryz.func83 ⟨ZT7,ZPU,tr_⟩
def ZZN:=fd_ 258 Tryz.f258 [] [B] [W] Zxp <|
.lo 9401 [0] [] [m] [] 0 [0] [] [m] [] ZrV ZyZ (fun n0=> .j 9105401 [0,10] [] ah [] (ZuG (ZrV n0)) <|
.nil) <|
.lo 94011 [0] [] [m] [] 2 [0] [] [m] [] ZrU ZyY (fun n0=> .j 91054011 [0,23] [] ah [] (ZuF (ZrU n0)) <|
.nil) <|
.nil
theorem ZT5:OK_ ZZN:=ok_ ZZN Tryz.func258
def ZZM:=fd_ 259 Tryz.f259 [] [B] [W] ZDJ <|
.lo 941011 [3,8,9] [] [u,c,c] [aO] 0 [3] [] [u] [aO] ZrW ZCV (fun n0=> .j 9114011541011 [3,4,8,9,23] [] [u,c,c,c,e] [aO] (Zy1 (ZrW n0)) <|
.j 9111541011 [3,8,9] [] [u,c,c] [aO] (Zy0 (ZrW n0)) <|
.nil) <|
.nil
theorem ZT4:OK_ ZZM:=ok_ ZZM Tryz.func259
def ZYk:=fd_ 260 Tryz.f260 [] [B] [n,W,W,n] Ztb <|
.j 9101 [0,2,20] [] [m,e,e] [] Zrn <|
.j 911 [0,2] [] ah [] Zpg <|
.lo 940111 [0,2,6] [] [m,e,c] [] 0 [0,2,6] [] [m,e,c] [] Zrl Zyc (fun n0=> .j 910540111 [0,2,6,41] [] [m,e,c,e] [] (Zrm (Zrl n0)) <|
.nil) <|
.j 91011111 [0,2,3,6,52] [] [m,e,m,c,e] [] Zt8 <|
.j 91011111111 [2,3,4,76] [] bf [] Zo6 <|
.lr 9410111111111 [2,3,4,7] [] [e,m,m,c] [] 2 [2,3,4] [] a2 [] Zqd ZCg (fun n0=> .j 914015410111111111 [2,3,4,7,92] [] [e,m,m,c,e] [] (Zt7 (Zqd n0)) <|
.nil) <|
.nil
theorem ZPT:OK_ ZYk:=ok_ ZYk Tryz.func260
def ZZL:=fd_ 261 Tryz.f261 [] [.p .bool,B,B] [W] ZvB <|
.lo 9401 [0,1,2] [] a2 [] 0 [0,1,2] [] a2 [] ZqS Zxh (fun n0=> .j 9105401 [0,1,2,14] [] bf [] (Zts (ZqS n0)) <|
.nil) <|
.lo 94011 [0,1,2] [] a2 [] 2 [0,1,2] [] a2 [] ZqR Zxg (fun n0=> .j 91054011 [0,1,2,27] [] bf [] (Ztr (ZqR n0)) <|
.nil) <|
.j 91111 [0,1] [] [e,m] [] Ztq <|
.j 9101111 [1,43] [] ah [] Ztp <|
.j 911111 [1] [] [m] [] Zto <|
.nil
theorem ZT3:OK_ ZZL:=ok_ ZZL Tryz.func261
def ZZK:=fd_ 263 Tryz.f263 [] [B] [z] ZqM <|
.lr 941011 [0,3,4] [] [m,c,c] [] 0 [3] [] [c] [] Zvz ZDc (fun n0=> .j 910401541011 [0,3,4,20] [] [m,c,c,e] [] (Zzz (Zvz n0)) <|
.nil) <|
.nil
theorem ZT2:OK_ ZZK:=ok_ ZZK Tryz.func263
def ZYj:=fd_ 265 Tryz.f265 [] [H] [n] ZAA <|
.j 911 [2] [] [e] [] ZuA <|
.nil
theorem ZPS:OK_ ZYj:=ok_ ZYj Tryz.func265
def ZZJ:=fd_ 264 Tryz.f264 [ZYj.sg] [H,H] [z] ZzA <|
.j 91401 [1,5] [] [c,e] [] Zxi <|
.j 913131401 [15] [] [e] [] ZqT <|
.nil
theorem ZT1:OK_ ZZJ:=ok_ ZZJ Tryz.func264 ⟨ZPS,tr_⟩
def ZYi:=fd_ 215 Tryz.f215 [ZZJ.sg,ZYj.sg] [H,H,H] [z,n] ZBr <|
.j 9101 [0,1,2,35] [] [c,c,c,e] [] ZpO <|
.lo 9410111 [0,1,2,8,9] [] bw [] 0 [0,1,2,8] [] [c,c,c,c] [] ZvC ZDe (fun n0=> .j 9115410111 [0,1,2,8,9] [] bw [] (ZzC (ZvC n0)) <|
.nil) <|
.lo 94101111 [0,1,2,8,10] [] bw [] 2 [2,8] [] [c,c] [] ZzB ZDd (fun _=> .nil) <|
.nil
theorem ZPR:OK_ ZYi:=ok_ ZYi Tryz.func215 ⟨ZT1,ZPS,tr_⟩
def ZYh:=fd_ 214 Tryz.f214 [ZZK.sg,ZYi.sg] [B] [z,z,z,n] ZAB <|
.j 9104011 [0,9] [] ah [] ZyW <|
.j 914011 [0,9] [] ah [] ZuB <|
.j 91314011 [0,35] [] ah [] ZyV <|
.j 9111 [2,3,4] [] [c,c,c] [] ZyU <|
.nil
theorem ZPQ:OK_ ZYh:=ok_ ZYh Tryz.func214 ⟨ZT2,ZPR,tr_⟩
def ZZI:=fd_ 262 Tryz.f262 [] [H,H] [W] ZvA <|
.lo 94011 [0,1,5] [] [c,c,m] [] 0 [5] [] [m] [] Zxf ZBM (fun _=> .nil) <|
.nil
theorem ZT0:OK_ ZZI:=ok_ ZZI Tryz.func262
def ZZH:=fd_ 213 Tryz.f213 [ZZN.sg,ZZM.sg,ZYk.sg,ZZL.sg,ZYh.sg,ZZI.sg] [H,B] [W,n] Ztt <|
.j 9141213141011 [24,25] [] ah [] Zvb <|
.j 913141213141011 [28] [] [e] [] Zva <|
.j 91313141011 [0,6,17,31] [] [c,m,c,e] [] ZrC <|
.j 91121313141011 [7,8,9,49] [] bf [] Zp8 <|
.j 9111 [] [] [] [] Zp7 <|
.nil
theorem ZTZ:OK_ ZZH:=ok_ ZZH Tryz.func213 ⟨ZT5,ZT4,ZPT,ZT3,ZPQ,ZT0,tr_⟩
def ZZG:=fd_ 180 Tryz.f180 [ZSa.sg] [J,J] [ae] ZyC <|
.lo 941011 [0,1,5,6] [] [l,l,u,c] [i] 0 [5] [] [u] [i] Zsq ZzG (fun n0=> .lo 94101401541011 [0,1,5,6,7,8] [] [l,l,u,c,V,c] [i] 2 [0,1,5,6,7] [] [l,l,u,c,V] [i] ZvH (ZzH (Zsq n0)) (fun _=> .nil) <|
.nil) <|
.nil
theorem ZTY:OK_ ZZG:=ok_ ZZG Tryz.func180 ⟨ZIZ,tr_⟩
def ZTX:=fd_ 131 Tryz.f131 [ZZG.sg,ZUC.sg] [Q,Q] [ak] Zjm .nil
theorem ZJ5:OK_ ZTX:=ok_ ZTX Tryz.func131 ⟨ZTY,ZJ8,tr_⟩
def ZZF:=fd_ 178 Tryz.f178 [] [J,J] [.own (.int .u32)] ZuW <|
.lo 9410111 [0,1,5,6,7] [] br [i] 0 [5,6] [] [u,V] [i] ZpQ ZzP (fun n0=> .j 9105410111 [0,1,5,6,7,17] [] [l,l,u,V,c,e] [i] (ZqJ (ZpQ n0)) <|
.j 914015410111 [0,1,5,6,7] [] br [i] (Zsu (ZpQ n0)) <|
.j 9114015410111 [0,1,5,6,7] [] br [i] (Zst (ZpQ n0)) <|
.nil) <|
.nil
theorem ZTW:OK_ ZZF:=ok_ ZZF Tryz.func178
def ZUV:=fd_ 130 Tryz.f130 [ZZF.sg,ZUC.sg,ZUZ.sg,ZXW.sg] [Q,Q] [ak] Zpr .nil
theorem ZK8:OK_ ZUV:=ok_ ZUV Tryz.func130 ⟨ZTW,ZJ8,ZLc,ZM1,tr_⟩
def ZXO:=fd_ 132 Tryz.f132 [ZUC.sg] [Q] [ak] Zqe .nil
theorem ZMY:OK_ ZXO:=ok_ ZXO Tryz.func132 ⟨ZJ8,tr_⟩
def ZZE:=fd_ 216 Tryz.f216 [ZYk.sg,ZXX.sg,ZTX.sg,ZUV.sg,ZXO.sg,ZXU.sg] [B] [A,n] ZuI <|
.lo 94101111 [2,4,6,8,9,27,28,29] [100008] [d,e,m,k,q,an,c,c] [aD,ag,ag,aO,i,i] 0 [2,4,6,8,9] [] [d,e,m,k,q] bt ZsU ZwP (fun _=> .nil) <|
.lo 941011111 [2,4,8,9,43] [] [d,e,k,q,.o (.it (0,4,1))] [aD,ag,ag,.sit,i,i] 2 [2,4,8,9] [] [d,e,k,q] bt ZqA ZwO (fun n0=> .j 91541011111 [2,4,8,9,43,45] [] [d,e,k,q,.o (.it (0,4,1)),e] [aD,ag,ag,.sit,i,i] (ZsW (ZqA n0)) <|
.nil) <|
.j 91111111 [2,8,9] [] [d,k,q] bt ZsV <|
.nil
theorem ZTV:OK_ ZZE:=ok_ ZZE Tryz.func216 ⟨ZPT,ZM2,ZJ5,ZK8,ZMY,ZM0,tr_⟩
def ZZD:=fd_ 173 Tryz.f173 [ZZH.sg,ZYh.sg,ZYi.sg,ZZE.sg,ZYp.sg] [H,B] [A,n] Zwh <|
.j 91011 [0,4,6,26] [] [c,d,m,e] ad ZtT <|
.j 911111 [4,8] [] [d,c] ad ZtS <|
.nil
theorem ZTU:OK_ ZZD:=ok_ ZZD Tryz.func173 ⟨ZTZ,ZPQ,ZPR,ZTV,ZPY,tr_⟩
def ZZC:=fd_ 127 Tryz.f127 [ZZD.sg] [aS] [A,n] Zvy .nil
theorem ZTT:OK_ ZZC:=ok_ ZZC Tryz.func127 ⟨ZTU,tr_⟩
def ZZB:=fd_ 86 Tryz.f86 [ZZC.sg,ZQd.sg,ZXT.sg] [aj] [A] Zs8 <|
.lo 941011 [2,3,4,10,11,12] [] bb ad 0 [2,3,4] [] [d,c,c] ad Zri ZxY (fun n0=> .j 9111541011 [2,3,4,10,11,12] [] bb ad (Zrj (Zri n0)) <|
.nil) <|
.nil
theorem ZTS:OK_ ZZB:=ok_ ZZB Tryz.func86 ⟨ZTT,ZHK,ZMZ,tr_⟩
def ZUU:=fd_ 129 Tryz.f129 [ZYs.sg,ZUZ.sg,ZYq.sg] [G] [n] ZoU <|
.j 9101 [1,24] [] [d,e] [O] Zqb <|
.nil
theorem ZK7:OK_ ZUU:=ok_ ZUU Tryz.func129 ⟨ZP1,ZLc,ZPZ,tr_⟩
def ZXN:=fd_ 133 Tryz.f133 [ZXU.sg] [Q,Q] [A,z] ZqF <|
.j 91011 [4,6,21] [] aI [bC,O,i,i] Ztz <|
.nil
theorem ZMX:OK_ ZXN:=ok_ ZXN Tryz.func133 ⟨ZM0,tr_⟩
def ZZA:=fd_ 126 Tryz.f126 [ZUU.sg,ZTX.sg,ZXO.sg,ZUV.sg,ZXN.sg] [G,G] [A,z] ZyE <|
.j 9101 [2,3,4,13] [] aH a0 ZvM <|
.nil
theorem ZTR:OK_ ZZA:=ok_ ZZA Tryz.func126 ⟨ZK7,ZJ5,ZMY,ZK8,ZMX,tr_⟩
def ZXM:=fd_ 85 Tryz.f85 [ZZA.sg] [G,G] [A] ZpX .nil
theorem ZMW:OK_ ZXM:=ok_ ZXM Tryz.func85 ⟨ZTR,tr_⟩
def ZYg:=fd_ 90 Tryz.f90 [ZUU.sg,ZTX.sg,ZXO.sg,ZUV.sg] [G,G] [z] ZuX <|
.j 9101 [2,3,13] [] aI [O,O] ZvO <|
.nil
theorem ZPP:OK_ ZYg:=ok_ ZYg Tryz.func90 ⟨ZK7,ZJ5,ZMY,ZK8,tr_⟩
def ZXK:=fd_ 52 Tryz.f52 [ZYg.sg] [G,G] [n] ZrB .nil
theorem ZMV:OK_ ZXK:=ok_ ZXK Tryz.func52 ⟨ZPP,tr_⟩
def ZZz:=fd_ 84 Tryz.f84 [ZQd.sg,ZXK.sg,ZXM.sg] [G] [A] ZyA .nil
theorem ZTQ:OK_ ZZz:=ok_ ZZz Tryz.func84 ⟨ZHK,ZMV,ZMW,tr_⟩
def ZZy:=fd_ 128 Tryz.f128 [ZUU.sg,ZTX.sg,ZUV.sg,ZXN.sg] [G,G] [A,z] ZyG <|
.j 9101 [2,3,4,13] [] aH a0 ZvP <|
.nil
theorem ZTP:OK_ ZZy:=ok_ ZZy Tryz.func128 ⟨ZK7,ZJ5,ZK8,ZMX,tr_⟩
def ZXJ:=fd_ 87 Tryz.f87 [ZZy.sg] [G,G] [A] ZpY .nil
theorem ZMU:OK_ ZXJ:=ok_ ZXJ Tryz.func87 ⟨ZTP,tr_⟩
def ZZx:=fd_ 91 Tryz.f91 [ZUU.sg,ZTX.sg,ZXN.sg] [G,G] [A,z] ZyF <|
.j 9101 [2,3,4,13] [] aH a0 ZvN <|
.nil
theorem ZTO:OK_ ZZx:=ok_ ZZx Tryz.func91 ⟨ZK7,ZJ5,ZMX,tr_⟩
def ZYf:=fd_ 40 Tryz.f40 [ZZx.sg] [G,G] [A] ZuT .nil
theorem ZPO:OK_ ZYf:=ok_ ZYf Tryz.func40 ⟨ZTO,tr_⟩
def ZZw:=fd_ 37 Tryz.f37 [ZZS.sg,ZZO.sg,ZQd.sg,ZUX.sg,ZZB.sg,ZXM.sg,ZZz.sg,ZXJ.sg,ZUY.sg,ZYf.sg] [aj,aj] [A] Zzd <|
.j 91011 [2,3,4,5,6,24] [] [d,k,q,X,a9,e] [ao,ao,aT,O,O,i,i] Zq6 <|
.nil
theorem ZTN:OK_ ZZw:=ok_ ZZw Tryz.func37 ⟨ZUa,ZT6,ZHK,ZLa,ZTS,ZMW,ZTQ,ZMU,ZLb,ZPO,tr_⟩
def ZZv:=fd_ 88 Tryz.f88 [ZQd.sg,ZXK.sg] [bi] [z] Zwf <|
.lr 941011 [0,14,15,16] [] be [] 0 [0] [] [L] [] ZtP ZxV (fun _=> .nil) <|
.lr 9410111 [0,24,25,26] [] be [] 2 [0] [] [L] [] ZtO ZxU (fun _=> .nil) <|
.lr 94101111 [38,39,40] [] [L,c,c] [] 4 [] [] [] [] Zrg ZxS (fun n0=> .lr 9411401154101111 [38,39,40,44,45,46] [] [L,c,c,aG,c,c] [] 6 [38,39,40] [] [L,c,c] [] ZtN (ZxT (Zrg n0)) (fun _=> .nil) <|
.nil) <|
.nil
theorem ZTM:OK_ ZZv:=ok_ ZZv Tryz.func88 ⟨ZHK,ZMV,tr_⟩
noncomputable def ZRj (n_:Nat):FD U:=⟨89,Tryz.f89,[],[.p (.sl (.sl (.st 4))),.p (.int .i64),.p (.int .i64),.map (.st 7) (.st 4)],[(3,.map (.st 7) (.st 4))],[.p (.st 4)],[],[],Zk3 n_,Zk3 n_,
.nil⟩
noncomputable def ZZu (n_:Nat):FD U:=⟨89,Tryz.f89,[ZQd.sg,(ZRj n_).sg,ZXJ.sg,ZXK.sg],[.p (.sl (.sl (.st 4))),.p (.int .i64),.p (.int .i64),.map (.st 7) (.st 4)],[(3,.map (.st 7) (.st 4))],[.p (.st 4)],[],[],Zzx (Zk3 n_),Zk3 (n_+1),
.lo 941011111 [0,1,2,3,8,9,12,41,42,43] [] bL aQ 0 [3,8,9,12] [] [bG,d,k,q] aQ (ZoP (Zk3 n_)) (ZyS (Zk3 n_)) (fun n0=> .j 9111541011111 [0,1,2,3,8,9,12,41,42,43] [] bL aQ ((Zqn (Zk3 n_)) ((ZoP (Zk3 n_)) n0)) <|
.nil) <|
.nil⟩
theorem ZRi (n_:Nat):Zez X0.E 89 (ZRj n_).sig:=by
 induction n_ with
 |zero=>
  refine ZkU.ok (S:=(ZRj 0).FS) uok fun v r h=> ?_
  have h2:(none:Option _)=some r:=h;cases h2
 |succ n_ ih=>exact(ZZu n_).ok G0 Tryz.func89 ⟨ZHK,ih,ZMU,ZMV,trivial⟩ rfl rfl (by kernel_rfl)
noncomputable abbrev D198:FD U:=ZRj big
theorem ZTL:Zez X0.E 89 D198.sig:=ZRi big
def ZZt:=fd_ 38 Tryz.f38 [ZZv.sg,D198.sg,ZQd.sg,ZYg.sg,ZXJ.sg,ZUX.sg,ZXM.sg] [bi] [a3,A,z] Zxc <|
.lo 94101111111 [0,3,6,7,8,9,10,29,30,31] [] [L,d,aW,c,q,X,aL,L,c,c] aY 0 [3,8,10] [] [d,k,Y] [aC,O,ai,i,i] ZoQ ZCU (fun n0=> .lo 941011401154101111111 [0,3,6,7,8,9,10,11,12,13,29,30,31,36,37,38] [] bH aY 2 [0,3,6,7,8,9,10,12,13,29,30,31] [] [L,d,aW,c,q,X,aL,aG,c,L,c,c] aY ZoK (ZyT (ZoQ n0)) (fun n1=> .j 91014011541011401154101111111 [0,3,6,7,8,9,10,11,12,13,14,15,29,30,31,36,37,38,54] [] [L,d,aW,c,q,X,aL,c,aG,c,c,.o (.ptr (0,6,1) 0 0),L,c,c,aG,c,c,e] [bB,aF,O,O,ai,O,i,i] (Zqo (ZoK n1)) <|
.j 9111541011401154101111111 [0,3,6,7,8,9,10,11,12,13,29,30,31,36,37,38] [] bH aY (ZrQ (ZoK n1)) <|
.nil) <|
.j 91111401154101111111 [0,3,6,7,8,9,10,13,29,30,31] [] [L,d,aW,c,q,X,aL,c,L,c,c] aY (ZrP (ZoQ n0)) <|
.nil) <|
.nil
theorem ZTK:OK_ ZZt:=ok_ ZZt Tryz.func38 ⟨ZTM,ZTL,ZHK,ZPP,ZMU,ZLa,ZMW,tr_⟩
def ZZr:=fd_ 14 Tryz.f14 [ZUm.sg,ZZw.sg,ZZt.sg,ZQd.sg,ZUY.sg,ZYf.sg] [M,M] [a3,A,z] ZoT <|
.j 91401 [2,3,5,17] [] aH bd Zp5 <|
.j 9131401 [2,3,5,27] [] aH bd ZtM <|
.lo 9410111 [2,3,5,7,40,41,42] [] [d,k,q,an,T,c,c] ba 1 [2,3,5,7] [] [d,k,q,an] ba Zrf ZxQ (fun n0=> .lo 94101140115410111 [2,3,5,7,9,10,40,41,42,47,48,49] [] bI bN 3 [2,3,5,7,10,40,41,42] [] [d,k,q,an,aL,T,c,c] [I,I,aT,a7,bl,i,i] ZtL (ZxR (Zrf n0)) (fun _=> .nil) <|
.nil) <|
.nil
theorem ZTJ:OK_ ZZr:=ok_ ZZr Tryz.func14 ⟨ZJ6,ZTN,ZTK,ZHK,ZLb,ZPO,tr_⟩
def ZZq:=fd_ 18 Tryz.f18 [ZUm.sg,ZUW.sg] [M,M,am] [aK,z] Zs6 <|
.j 9101 [2,3,4,6,36] [] [y,d,k,q,e] ac ZpA <|
.lr 941011 [2,3,4,6,38,39,40] [] aP ac 0 [2,3,4,6] [] bh ac Zp4 ZxP (fun n0=> .j 9114011541011 [2,3,4,6,38,39,40,52] [] bo ac (ZtK (Zp4 n0)) <|
.nil) <|
.lr 9410111 [2,3,4,6,55,56,57] [] aP ac 2 [2,3,4,6] [] bh ac Zp3 ZtH (fun n0=> .lr 941140115410111 [2,3,4,6,11,55,56,57,64,65,66] [] [y,d,k,q,c,y,c,c,y,c,c] ac 4 [2,3,4,6,55,56,57] [] aP ac Zp2 (ZxO (Zp3 n0)) (fun n1=> .j 9114011541140115410111 [2,3,4,6,11,55,56,57,64,65,66,76] [] [y,d,k,q,c,y,c,c,y,c,c,e] ac (ZtJ (Zp2 n1)) <|
.nil) <|
.nil) <|
.j 91011111 [2,3,4,6,14,92] [] [y,d,k,q,c,e] ac Zre <|
.lo 94101111111 [2,4,6,14,15,100,101,102] [] [y,d,k,c,q,T,c,c] bp 6 [6,15] [] aA aR Zrd Zw9 (fun n0=> .lo 941011401154101111111 [2,4,6,14,15,16,18,100,101,102,113,114] [] [y,d,k,c,q,c,X,T,c,c,c,c] [I,aE,a6,bk,N,N,al] 8 [2,4,6,14,15,18,100,101,102] [] [y,d,k,c,q,X,T,c,c] [I,aE,a6,bk,N,N,al] Zpz (ZxN (Zrd n0)) (fun n1=> .j 91114011541011401154101111111 [2,4,6,14,15,16,18,20,100,101,102,113,114] [] [y,d,k,c,q,c,X,a9,T,c,c,c,c] [I,a6,.box [.o (.v (.int .i64)),.o (.v .str),.o (.full (0,7,1))],.box [.o (.v .str),.o (.full (0,8,1))],.boxS (.st 0),N,N,al] (ZtI (Zpz n1)) <|
.nil) <|
.nil) <|
.nil
theorem ZTI:OK_ ZZq:=ok_ ZZq Tryz.func18 ⟨ZJ6,ZK9,tr_⟩
def ZZp:=fd_ 46 Tryz.f46 [] [aj,aj] [n] Zty <|
.j 9101 [2,3,19] [] aI [ao,ao] ZrE <|
.lr 941011 [2,3,22,23] [] [d,k,c,c] [ao,ao] 0 [] [] [] [] ZrD Zvc (fun _=> .nil) <|
.nil
theorem ZTH:OK_ ZZp:=ok_ ZZp Tryz.func46
def ZZo:=fd_ 19 Tryz.f19 [ZZp.sg] [M,M] [n] ZrF <|
.j 9101 [2,3,26] [] aI [I,I] ZrT <|
.lr 941011 [2,3,29,30] [] [d,k,c,c] [I,I] 0 [] [] [] [] ZuD ZyX (fun _=> .nil) <|
.nil
theorem ZTG:OK_ ZZo:=ok_ ZZo Tryz.func19 ⟨ZTH,tr_⟩
def D204:=fd_ 3 Tryz.f3 [D0.sg,D1.sg,Z0c.sg,Z0b.sg,ZZ7.sg,ZQe.sg,ZZV.sg,ZYo.sg,ZYv.sg,ZZr.sg,ZYt.sg,ZUX.sg,ZYu.sg,ZZq.sg,ZZo.sg] [M,am,am,H] [n] Zs2 <|
.j 9101 [1,2,3,4,39] [] [y,y,c,d,e] [I] ZoJ <|
.j 911111 [2,3,4,9,10,11] [100011,400010] [y,c,d,k,q,X] bc Zpo <|
.lo 9421011111 [2,3,4,9,10,11] [] [y,c,d,k,q,X] bc 0 [2,4,9,10,11] [] [y,d,k,q,X] bc ZoZ ZrK (fun n0=> .j 9105421011111 [2,3,4,9,10,11,69] [] [y,c,d,k,q,X,e] bc (ZpT (ZoZ n0)) <|
.nil) <|
.j 910111111 [2,9,88,89,90] [] bv [ab,aN] Zpn <|
.lr 9410111111 [2,9,88,89,90] [] bv [ab,aN] 2 [] [] [] [] Zna Zrp (fun n0=> .j 91011140115410111111 [2,9,13,17,88,89,90,126] [] [y,d,k,y,Y,c,c,e] [ab,bm,aN] (Zpm (Zna n0)) <|
.j 911111140115410111111 [2,9,13,17,20,88,89,90] [] [y,d,k,y,Y,an,c,c] [ab,bm,ai,aN] (Zpl (Zna n0)) <|
.lr 94111111140115410111111 [2,9,13,88,89,90,144,145,146] [] [y,d,k,Y,c,c,an,c,c] bM 4 [2,9,88,89,90] [] bv [ab,aN] ZoY (ZrJ (Zna n0)) (fun n1=> .j 91111401154111111140115410111111 [2,9,13,88,89,90,144,145,146,176] [] [y,d,k,Y,c,c,an,c,c,e] bM (ZpS (ZoY n1)) <|
.nil) <|
.nil) <|
.nil
theorem D204_ok:OK_ D204:=ok_ D204 Tryz.func3 ⟨Z0r,ZZs,ZUw,ZUv,ZUq,ZHL,ZUd,ZPX,ZP4,ZTJ,ZP2,ZLa,ZP3,ZTI,ZTG,tr_⟩
end
end Go.Proofs

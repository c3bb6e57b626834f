/- Printed by wip/tools/tgen.py: walks. -/
import Derived.Test.YtpddhnpfnefdeaaGreatDoorQtU
import Derived.Test.YtpddhnpfnefdeaaGreatDoorQtX
import Derived.Test.YtpddhnpfnefdeaaGreatDoorQtWX
set_option linter.unusedVariables false
set_option linter.unusedSimpArgs false
set_option linter.unusedSectionVars false
namespace Go.Proofs
open Go Eng
set_option maxRecDepth 100000
noncomputable section
abbrev g0:Sh:= .o (.v (.int .i64))
abbrev g3:ShO:= .arr (.int .u32) false
abbrev g2:Sh:= .o (.ptr (0,1,1) 0 0)
abbrev g5:Sh:= .o (.v (.sl (.int .u32)))
abbrev g1:Sh:= .o (.v .bool)
abbrev g7:Sh:= .o (.ptr (0,2,1) 0 0)
abbrev ga:Sh:= .o (.v (.int .u64))
abbrev g6:ShO:= .arr (.st 10) false
abbrev g8:Sh:= .o (.full (0,1,1))
abbrev hn:ShO:= .box [.o (.v .bool),.o (.full (0,4,1)),.o (.v .bool),.o (.full (0,5,1))]
abbrev gk:Sh:= .o (.full (0,0,0))
abbrev hu:ShO:= .box [.o (.v (.int .i64)),.o (.v .str),.o (.full (0,3,1))]
abbrev k6:ShO:= .box [.o (.v .bool),.o (.full (0,2,1)),.o (.v .bool),.o (.full (0,3,1))]
abbrev gf:Sh:= .o (.v (.sl (.st 4)))
abbrev gc:Sh:= .o (.v .str)
abbrev j6:ShO:= .box [.o (.v (.int .i64)),.o (.v .str),.o (.full (0,4,1))]
abbrev gi:Sh:= .o (.v (.sl (.st 2)))
abbrev gs:ShO:= .arr (.st 1) false
abbrev hg:ShO:= .arr (.int .i64) false
abbrev jw:ShO:= .box [.o (.v .bool),.o (.full (0,3,1)),.o (.v .bool),.o (.full (0,4,1))]
abbrev gt:Sh:= .fn 31 [] []
abbrev gp:Sh:= .o (.ptr (0,3,1) 0 0)
abbrev gm:Sh:= .o (.v (.sl (.int .i64)))
abbrev gj:ShO:= .boxS (.st 2)
abbrev jx:ShO:= .box [.o (.v (.int .i64)),.o (.v (.int .i64)),.o (.v .str),.o (.full (0,4,1))]
abbrev gn:ShO:= .boxS (.st 4)
abbrev k7:ShO:= .box [.o (.v (.int .i64)),.o (.v (.int .i64)),.o (.v .str),.o (.full (0,3,1))]
abbrev gv:Sh:= .o (.v (.sl (.st 1)))
abbrev gq:Sh:= .o (.v (.int .u32))
abbrev h8:Sh:= .o (.full (0,3,1))
abbrev h5:Sh:= .o (.ptr (0,0,0) 0 0)
abbrev gw:ShO:= .arr (.st 4) false
abbrev gz:ShO:= .boxS (.st 6)
abbrev jd:ShO:= .box [.o (.v (.int .i64)),.o (.v .str),.o (.full (0,5,1))]
abbrev gx:ShO:= .boxS (.st 3)
abbrev jl:ShO:= .box [.o (.v .bool),.o (.full (0,5,1)),.o (.v .bool),.o (.full (0,6,1))]
abbrev hj:Sh:= .o (.v (.sl (.st 0)))
abbrev hv:ShO:= .boxS (.st 7)
abbrev hb:Sh:= .o (.sl (0,0,0))
abbrev hk:Sh:= .o (.full (0,2,1))
abbrev ho:Sh:= .o (.v (.sl (.st 10)))
abbrev hl:ShO:= .arr (.st 0) false
abbrev hc:ShO:= .boxS (.st 1)
abbrev hx:ShO:= .arr (.int .u8) false
abbrev jm:ShO:= .box [.o (.v .str),.o (.full (0,4,1))]
abbrev je:ShO:= .arr (.sl (.st 2)) false
abbrev jy:ShO:= .box [.o (.v .bool),.o (.full (0,2,1))]
abbrev jz:ShO:= .box [.o (.v .str),.o (.full (0,3,1))]
abbrev jf:ShO:= .arr (.st 2) false
abbrev j7:Sh:= .fn 43 [] []
abbrev h0:List Sh:=[gk,g0,gt,g0,g0]
abbrev hp:List Sh:=[gk,g0,g0,gt,g0,g0]
abbrev hy:List Sh:=[gk,g0,gt,g0,g0,g1]
abbrev h6:List ShO:=[k6,g3,g3]
abbrev hd:List ShO:=[gj,hv,hg]
abbrev gy:List Sh:=[gc,g1]
abbrev hz:List ShO:=[hn,gn,gn,g3,g3]
abbrev jg:List Sh:=[gf,gf,g2,g7,g0,g0,gp]
abbrev he:List Sh:=[g5,g5,g0]
abbrev j8:List ShO:=[gz,k7,jx,hg,hg]
abbrev jh:List Sh:=[gk,g0,g0,gt,g0,g0,g1]
abbrev j0:List ShO:=[jw,gn,g3,g3]
abbrev jn:List Sh:=[gf,gf,g2,g7,g0,g0,gp,g1]
abbrev jo:List Sh:=[g2,g7,h8,g0,g0,g1,g0,g0]
abbrev j9:List ShO:=[hu,j6,gs,gs]
abbrev k0:List Sh:=[g2,g7,h8,g0,g0,g1,g0,g0,h8,g0,g0]
abbrev k1:List Sh:=[g0,gf,g8,g7,gi,g0,g0,gv,g0,g0]
abbrev k2:List Sh:=[g0,g8,gf,g7,gi,g0,g0,gv,g0,g0]
abbrev k3:List Sh:=[gk,g0,g0,g0,gt,g1,g1,g0,g0,g1]
abbrev k4:List Sh:=[ga,ga,ga,ga,ga,ga,ga,ga,ga,g1]
abbrev j1:List Sh:=[g2,g7,g1]
abbrev k5:List Sh:=[ga,ga,ga,ga,ga,ga,ga,ga,ga]
abbrev ja:List ShO:=[gj,hu,gs]
abbrev jp:List ShO:=[gz,hu,j6,gs,gs]
abbrev ji:List Sh:=[g1,gc,gc,g1]
abbrev jb:List Sh:=[g1,gc,gc]
abbrev jj:List Sh:=[gi,g0,g2,g1]
abbrev jk:List Sh:=[g8,hj,g0,g0]
abbrev jq:List Sh:=[gk,g0,g0,gt,g0]
abbrev jr:List ShO:=[hn,gx,gx,g3,g3]
abbrev hm:List Sh:=[g2,g7]
abbrev js:List Sh:=[g0,g0,g0,g0,g0]
abbrev jt:List Sh:=[g5,g5,g8,ga,g0]
abbrev g4:ShA:= .p (.int .i64)
abbrev gb:ShR:= .p (.int .i64)
abbrev ge:ShA:= .p (.sl (.int .u32))
abbrev g9:ShR:= .p .bool
abbrev gr:ShR:= .p (.sl (.int .u32))
abbrev gg:ShA:= .p (.st 4)
abbrev gh:ShR:= .p (.st 4)
abbrev gd:ShA:= .p .str
abbrev gl:ShA:= .p (.st 3)
abbrev gu:ShA:= .p (.int .u32)
abbrev h1:ShA:= .arr (.st 10)
abbrev h3:ShA:= .fn 31 [] []
abbrev h9:ShR:= .p (.int .u32)
abbrev h4:ShA:= .p (.st 2)
abbrev go:ShR:= .p .str
abbrev hh:ShA:= .p (.int .u64)
abbrev j2:ShA:= .p (.sl (.int .i64))
abbrev h7:ShR:= .p (.st 3)
abbrev hq:ShA:= .p (.sl (.st 2))
abbrev hi:ShA:= .box (.st 6)
abbrev hr:ShR:= .p (.int .u64)
abbrev j3:ShA:= .p (.sl (.st 4))
abbrev ht:ShR:= .p (.st 2)
abbrev j4:ShA:= .p (.st 0)
abbrev j5:ShA:= .p (.st 9)
abbrev ju:ShA:= .p (.sl (.st 10))
abbrev jv:ShA:= .part (.int .u32)
abbrev jc:ShA:= .p (.st 1)
noncomputable abbrev fd_ (f:Nat) (fn:Func) (sg:List (Nat×Zi1 U)) (a:List ShA) (r:List ShR) (s:ZiX (Zjz U a []) (Option (HT (oTy U [] r)))) (t:CT U (HT (oTy U [] r)) (HT (oTy U [] r))):FD U:=⟨f,fn,sg,a,[],r,[],[],s,s,t⟩
abbrev OK_ (D:FD U):Prop:=Zeg X0.E D.f D.sig
theorem ok_ (D:FD U) (hf:X0.prog.funcs[D.f]? =some D.fn) (hs:ZcX X0 D.sigs:=by trivial) (h:D.lhs X0=D.rhs2:=by kernel_rfl) (ha:D.os.any (fun x=>isAr x.2)=false:=by rfl) (hw:D.w=D.s:=by rfl):OK_ D:=D.ok2 G0 hf hs ha hw h
theorem ZIJ (D:FD U) (hf:X0.prog.funcs[D.f]? =some D.fn) (hs:ZcX X0 D.sigs:=by trivial) (h:D.lhs X0=D.rhs2:=by kernel_rfl) (hw:(fun v=>app (Zjz U D.as []) D.w (Zla (r:=[]) D.as v ()))=fun v=>(app (Zjz U D.as []) D.s (Zla (r:=[]) D.as v ())).bind fun r=>chk (ZhF (Zdb D.as v) (D.b r)) (some r):=by kernel_rfl):OK_ D:=D.okA2 G0 hf hs hw h
theorem tr_:True:=trivial
def D0:=fd_ 4 Tryz.f4 [] [j2] [g9] ZAS .nil
theorem ZXh:OK_ D0:=ok_ D0 Tryz.func4
def D1:=fd_ 162 Tryz.f162 [] [ge] [gr] Zoy <|
.lo 9401 [0] [] [g5] [] 0 [0] [] [g5] [] Zpp ZCi (fun n0=> .j 9105401 [0,14] [] [g5,g1] [] (ZyG (Zpp n0)) <|
.nil) <|
.nil
theorem ZLY:OK_ D1:=ok_ D1 Tryz.func162
def D2:=fd_ 108 Tryz.f108 [D1.sg] [.p .bool,ge] [h7] Zog <|
.j 9111 [4] [] [g2] [gx] ZvT <|
.nil
theorem ZM4:OK_ D2:=ok_ D2 Tryz.func108 ⟨ZLY,tr_⟩
def D3:=fd_ 75 Tryz.f75 [D2.sg] [g4] [h7] Zob <|
.j 9111 [0,2,3] [] [g0,g2,ga] [jy,g3] Zs8 <|
.nil
theorem ZQQ:OK_ D3:=ok_ D3 Tryz.func75 ⟨ZM4,tr_⟩
def D4:=fd_ 106 Tryz.f106 [] [gl] [g9] Zqb <|
.j 9111 [2] [] [g1] [] ZoD <|
.nil
theorem ZUC:OK_ D4:=ok_ D4 Tryz.func106
def D5:=fd_ 199 Tryz.f199 [D1.sg] [ge] [gr] Zqz <|
.lo 941011 [0,3,9,10] [] [g5,g8,g0,g0] [g3] 0 [3] [] [g8] [g3] Zr9 ZyH (fun n0=> .j 9111541011 [0,3,9,10] [] [g5,g8,g0,g0] [g3] (Zsa (Zr9 n0)) <|
.nil) <|
.nil
theorem ZV3:OK_ D5:=ok_ D5 Tryz.func199 ⟨ZLY,tr_⟩
def D6:=fd_ 149 Tryz.f149 [] [ge,ge] [gb] Zpa <|
.lr 941011 [0,1,5] [] he [] 0 [] [] [] [] ZvS Zzo (fun _=> .nil) <|
.nil
theorem ZOr:OK_ D6:=ok_ D6 Tryz.func149
def D7:=fd_ 152 Tryz.f152 [D1.sg] [ge,ge] [gr] Zq8 <|
.lo 9410111 [0,1,5,6,7] [] [g5,g5,g8,g0,g0] [g3] 0 [5] [] [g8] [g3] ZsJ Zzf (fun n0=> .j 9114015410111 [0,1,5,6,7] [] [g5,g5,g8,g0,g0] [g3] (ZsK (ZsJ n0)) <|
.nil) <|
.nil
theorem ZQP:OK_ D7:=ok_ D7 Tryz.func152 ⟨ZLY,tr_⟩
def D8:=fd_ 200 Tryz.f200 [D1.sg] [ge,gu] [gr] Ztp <|
.lo 941011 [0,1,5,6] [] [g5,gq,g8,g0] [g3] 0 [1,5] [] [gq,g8] [g3] Zt0 ZxM (fun _=> .nil) <|
.nil
theorem ZUh:OK_ D8:=ok_ D8 Tryz.func200 ⟨ZLY,tr_⟩
def D9:=fd_ 150 Tryz.f150 [D5.sg,D6.sg,D7.sg,D8.sg] [ge,ge] [gr] Zu3 <|
.lo 94011 [0,1,5] [] he [] 0 [0,1,5] [] he [] Zq5 Zzm (fun n0=> .j 91054011 [0,1,5,17] [] [g5,g5,g0,g1] [] (ZvR (Zq5 n0)) <|
.nil) <|
.lo 940111 [0,1,5] [] he [] 2 [0,5] [] [g5,g0] [] Zn3 Zzj (fun n0=> .lo 94041540111 [0,1,5] [] he [] 4 [0,1,5] [] he [] Zo3 (Zzl (Zn3 n0)) (fun _=> .nil) <|
.lo 940141540111 [0,1,5] [] he [] 6 [0,1,5] [] he [] Zo2 (Zzk (Zn3 n0)) (fun _=> .nil) <|
.j 911141540111 [0,1,5] [] he [] (ZvQ (Zn3 n0)) <|
.nil) <|
.lo 9401111 [0,5] [] [g5,g0] [] 8 [0] [] [g5] [] Zq4 Zzi (fun _=> .nil) <|
.nil
theorem ZUb:OK_ D9:=ok_ D9 Tryz.func150 ⟨ZV3,ZOr,ZQP,ZUh,tr_⟩
def D10:=fd_ 207 Tryz.f207 [] [ge,g4] [h9] Zyi .nil
theorem ZU2:OK_ D10:=ok_ D10 Tryz.func207
def D11:=fd_ 161 Tryz.f161 [D10.sg,D8.sg,D6.sg,D7.sg,D1.sg] [ge,ge] [gr,gr] Zu4 <|
.lo 941011 [0,1,4,5,6] [5] [g5,g5,g8,g5,g0] [g3] 0 [4,5] [] [g8,g5] [g3] ZsM Zzn (fun n0=> .j 911541011 [0,1,4,5,6] [] [g5,g5,g8,g5,g0] [g3] (ZsN (ZsM n0)) <|
.nil) <|
.nil
theorem ZU1:OK_ D11:=ok_ D11 Tryz.func161 ⟨ZU2,ZUh,ZOr,ZQP,ZLY,tr_⟩
def D12:=fd_ 107 Tryz.f107 [D3.sg,D9.sg,D11.sg,D2.sg] [gl,gl] [gh] Zq3 .nil
theorem ZNe:OK_ D12:=ok_ D12 Tryz.func107 ⟨ZQQ,ZUb,ZU1,ZM4,tr_⟩
def D13:=fd_ 74 Tryz.f74 [D4.sg,D12.sg] [gl,gl] [gh,gb] Zxl <|
.j 9101 [2,3,4,13] [] [g2,g7,gp,g1] [gx,gx,hn,g3,g3] ZuV <|
.nil
theorem ZUZ:OK_ D13:=ok_ D13 Tryz.func74 ⟨ZUC,ZNe,tr_⟩
def D14:=fd_ 46 Tryz.f46 [D3.sg,D13.sg] [g4,g4] [gh,gb] Zwb .nil
theorem ZPh:OK_ D14:=ok_ D14 Tryz.func46 ⟨ZQQ,ZUZ,tr_⟩
def D15:=fd_ 17 Tryz.f17 [D14.sg] [g4,g4] [gh] Zpz .nil
theorem ZNb:OK_ D15:=ok_ D15 Tryz.func17 ⟨ZPh,tr_⟩
noncomputable def D16:FD U:=⟨13,Tryz.f13,[D15.sg],[g4],[],[gh],[],[],ZAP,ZnM,
.nil⟩
theorem ZM8:OK_ D16:=ok_ D16 Tryz.func13 ⟨ZNb,tr_⟩ (hw:=by funext x_;exact ZFA _)
def D17:=fd_ 39 Tryz.f39 [] [hh,hh] [hr,hr] ZFD .nil
theorem ZUV:OK_ D17:=ok_ D17 Tryz.func39
def D19:=fd_ 98 Tryz.f98 [] [hh] [gb] ZDK <|
.j 911 [0,2] [] [ga,g0] [] ZCs <|
.j 9111 [0,2] [] [ga,g0] [] ZCr <|
.j 91111 [0,2] [] [ga,g0] [] ZCq <|
.nil
theorem ZPg:OK_ D19:=ok_ D19 Tryz.func98
def D20:=fd_ 69 Tryz.f69 [D19.sg] [hh] [gb] ZCj .nil
theorem ZUS:OK_ D20:=ok_ D20 Tryz.func69 ⟨ZPg,tr_⟩
def D21:=fd_ 41 Tryz.f41 [D20.sg] [hh,hh,hh] [hr,hr] ZFE <|
.lo 94011111111111111 [2,8,9,10,11,13,14,15,16] [] k5 [] 0 [2,8,9,10,11,13,14,15] [] [ga,ga,ga,ga,ga,ga,ga,ga] [] ZzM ZEs (fun n0=> .j 91054011111111111111 [2,8,9,10,11,13,14,15,16,78] [] k4 [] (ZCu (ZzM n0)) <|
.nil) <|
.lo 940111111111111111111 [2,8,9,10,14,15,16,17,18] [] k5 [] 2 [2,8,14,15,17,18] [] [ga,ga,ga,ga,ga,ga] [] ZzL ZEr (fun n0=> .j 910540111111111111111111 [2,8,9,10,14,15,16,17,18,113] [] k4 [] (ZCt (ZzL n0)) <|
.nil) <|
.nil
theorem ZUR:OK_ D21:=ok_ D21 Tryz.func41 ⟨ZUS,tr_⟩
def D22:=fd_ 42 Tryz.f42 [] [gg] [gh] ZJv .nil
theorem ZUQ:OK_ D22:=ok_ D22 Tryz.func42
def D23:=fd_ 14 Tryz.f14 [D17.sg,(40,ZFf.sig),D21.sg,D22.sg] [j3,g4,g4] [gh,gb] ZE1 <|
.j 91401 [0,1,2,6,13] [] [gf,g0,g0,g2,g1] h6 ZBg <|
.nil
theorem ZUP:OK_ D23:=ok_ D23 Tryz.func14 ⟨ZUV,ZF7,ZUR,ZUQ,tr_⟩
def D24:=fd_ 154 Tryz.f154 [] [gl] [g9] Zyb <|
.j 9111 [2] [] [g1] [] ZpY <|
.nil
theorem ZUO:OK_ D24:=ok_ D24 Tryz.func154
def D25:=fd_ 99 Tryz.f99 [D24.sg] [.p (.sl (.st 3))] [g9] ZBU <|
.lr 94101 [5,6,7] [] [.o (.v (.sl (.st 3))),g0,g0] [] 0 [] [] [] [] ZBi ZFj (fun _=> .nil) <|
.nil
theorem ZPf:OK_ D25:=ok_ D25 Tryz.func99 ⟨ZUO,tr_⟩
def D26:=fd_ 189 Tryz.f189 [] [g4] [g9] ZBX .nil
theorem ZUN:OK_ D26:=ok_ D26 Tryz.func189
def D27:=fd_ 143 Tryz.f143 [D26.sg] [g4,g4] [gb] Ztv .nil
theorem ZPe:OK_ D27:=ok_ D27 Tryz.func143 ⟨ZUN,tr_⟩
def D28:=fd_ 206 Tryz.f206 [] [gu] [g9] ZDl .nil
theorem ZUM:OK_ D28:=ok_ D28 Tryz.func206
def D29:=fd_ 156 Tryz.f156 [D28.sg] [gu,gu] [gb] ZCx .nil
theorem ZUL:OK_ D29:=ok_ D29 Tryz.func156 ⟨ZUM,tr_⟩
def D30:=fd_ 101 Tryz.f101 [D27.sg,D29.sg] [ge,ge] [gb] Zqi <|
.lr 941011 [0,1,6] [] he [] 0 [] [] [] [] Zuv Zx8 (fun _=> .nil) <|
.nil
theorem ZM3:OK_ D30:=ok_ D30 Tryz.func101 ⟨ZPe,ZUL,tr_⟩
def D31:=fd_ 201 Tryz.f201 [] [ge] [.own (.int .u32)] Zqp <|
.j 9101 [0,4] [] [g5,g1] [] ZnO <|
.nil
theorem ZPd:OK_ D31:=ok_ D31 Tryz.func201
def D32:=fd_ 229 Tryz.f229 [] [gu,gu,gu] [h9,h9] ZCa <|
.j 9101 [0,1,2,15] [] [gq,gq,gq,g1] [] Zw1 <|
.nil
theorem ZUK:OK_ D32:=ok_ D32 Tryz.func229
def D33:=fd_ 159 Tryz.f159 [] [ge] [gr] ZoQ <|
.lo 9401 [0] [] [g5] [] 0 [0] [] [g5] [] Zqu ZBQ (fun n0=> .j 9105401 [0,14] [] [g5,g1] [] (ZyW (Zqu n0)) <|
.nil) <|
.nil
theorem ZIV:OK_ D33:=ok_ D33 Tryz.func159
def D34:=fd_ 202 Tryz.f202 [D32.sg,D33.sg] [ge,gu] [gr,h9] Zyn <|
.lo 9410111 [0,1,6,7,8] [] [g5,gq,g8,gq,g0] [g3] 0 [6,7] [] [g8,gq] [g3] Zv0 Zzu (fun _=> .nil) <|
.nil
theorem ZUJ:OK_ D34:=ok_ D34 Tryz.func202 ⟨ZUK,ZIV,tr_⟩
def D35:=fd_ 119 Tryz.f119 [] [gu] [gb] ZB9 <|
.j 911 [0,2] [] [gq,g0] [] ZzK <|
.j 9111 [0,2] [] [gq,g0] [] Zuz <|
.nil
theorem ZUI:OK_ D35:=ok_ D35 Tryz.func119
def D36:=fd_ 203 Tryz.f203 [D35.sg] [gu] [gb] ZuZ .nil
theorem ZUH:OK_ D36:=ok_ D36 Tryz.func203 ⟨ZUI,tr_⟩
def D37:=fd_ 204 Tryz.f204 [] [ge,g4] [.own (.int .u32)] Zrv <|
.lo 941011 [1,5,13,14,15] [] [g0,g8,g5,g0,g0] [g3] 0 [5] [] [g8] [g3] Zut Zx6 (fun _=> .nil) <|
.nil
theorem ZUG:OK_ D37:=ok_ D37 Tryz.func204
def D38:=fd_ 160 Tryz.f160 [] [gu,gu,gu] [h9,h9] ZxC .nil
theorem ZPc:OK_ D38:=ok_ D38 Tryz.func160
def D39:=fd_ 157 Tryz.f157 [] [gu,gu,gu] [h9,h9] Zz4 .nil
theorem ZPb:OK_ D39:=ok_ D39 Tryz.func157
noncomputable def D40:FD U:=⟨205,Tryz.f205,[D38.sg,D39.sg],[jv,ge],[(0,.arr (.int .u32))],[h9],[],[],ZCM,ZBh,
.lo 94011111 [0,1,5,7,8] [] [hb,g5,g0,ga,ga] [g3] 0 [0,1,5,7] [] [hb,g5,g0,ga] [g3] Zvz ZAv (fun n0=> .j 91054011111 [0,1,5,7,8,71] [] [hb,g5,g0,ga,ga,g1] [g3] (Zya (Zvz n0)) <|
.nil) <|
.lo 941011111111 [0,1,5,7,9,10,82,83,84] [] [hb,g5,g0,ga,gq,ga,g5,g0,g0] [g3] 2 [0,1,5,7,9,10] [] [hb,g5,g0,ga,gq,ga] [g3] ZAt ZCS (fun _=> .nil) <|
.lo 941011111111111 [0,5,7,13,130,131,132] [] [hb,g0,ga,gq,g5,g0,g0] [g3] 4 [0,5,7,13] [] [hb,g0,ga,gq] [g3] Zx9 ZAu (fun _=> .nil) <|
.nil⟩
theorem ZUF:OK_ D40:=ZIJ D40 Tryz.func205 ⟨ZPc,ZPb,tr_⟩
noncomputable def D41:FD U:=⟨159,Tryz.f159,[],[jv],[(0,.arr (.int .u32))],[.view 0],[],[],ZzN,Zyo,
.lo 9401 [0] [] [hb] [g3] 0 [0] [] [hb] [g3] Zux ZAs (fun n0=> .j 9105401 [0,14] [] [hb,g1] [g3] (Zxu (Zux n0)) <|
.nil) <|
.nil⟩
theorem ZUE:OK_ D41:=ZIJ D41 Tryz.func159
def D42:=fd_ 158 Tryz.f158 [] [ge,g4] [h9] Zvx .nil
theorem ZPa:OK_ D42:=ok_ D42 Tryz.func158
noncomputable def D43:FD U:=⟨158,Tryz.f158,[],[jv,g4],[(0,.arr (.int .u32))],[h9],[],[],ZBP,Zxs,
.nil⟩
theorem ZUD:OK_ D43:=ZIJ D43 Tryz.func158
noncomputable def D44:FD U:=⟨155,Tryz.f155,[D30.sg,D31.sg,D34.sg,D33.sg,D36.sg,D37.sg,D40.sg,D41.sg,D43.sg],[ge,ge],[],[gr,gr],[],[(84,7)],ZrK,ZrK,
.lo 9410111111 [8,9,10,11,12,13] [11] [g0,g0,g8,g5,hk,g0] [g3,g3] 1 [8,9,10,12] [] [g0,g0,g8,hk] [g3,g3] Ztt Zz7 (fun _=> .nil) <|
.lo 941011111111 [9,12,14,86,87] [] [g0,g8,.o (.sl (0,2,1)),g0,g0] [g3,g3] 3 [12,14] [] [g8,.o (.sl (0,2,1))] [g3,g3] Zts Zz6 (fun _=> .nil) <|
.nil⟩
theorem ZO9:OK_ D44:=ok_ D44 Tryz.func155 ⟨ZM3,ZPd,ZUJ,ZIV,ZUH,ZUG,ZUF,ZUE,ZUD,tr_⟩
def D45:=fd_ 100 Tryz.f100 [D44.sg] [ge,ge] [gr] Zuw <|
.lo 9401 [0,1] [] [g5,g5] [] 0 [0] [] [g5] [] Zpv ZyP (fun _=> .nil) <|
.nil
theorem ZO8:OK_ D45:=ok_ D45 Tryz.func100 ⟨ZO9,tr_⟩
def D46:=fd_ 70 Tryz.f70 [D25.sg,D45.sg,D30.sg] [gg] [g9] Zte <|
.j 911 [2] [] [g1] [] ZvA <|
.nil
theorem ZM2:OK_ D46:=ok_ D46 Tryz.func70 ⟨ZPf,ZO8,ZM3,tr_⟩
def D47:=fd_ 105 Tryz.f105 [D33.sg] [ge,ge] [gr] Zsz <|
.lo 941011 [1,5,17,18,19] [] [g5,g8,g5,g0,g0] [g3] 0 [5] [] [g8] [g3] ZsZ Zzs (fun n0=> .lo 9410114011541011 [1,5,6,7,8,17,18,19,24,25,26] [] [g5,g8,g0,gq,ga,g5,g0,g0,g5,g0,g0] [g3] 2 [1,5,6,8,17,18,19] [] [g5,g8,g0,ga,g5,g0,g0] [g3] ZvZ (Zzt (ZsZ n0)) (fun _=> .nil) <|
.nil) <|
.nil
theorem ZO7:OK_ D47:=ok_ D47 Tryz.func105 ⟨ZIV,tr_⟩
def D48:=fd_ 102 Tryz.f102 [] [.p .bool,ge] [h7] Zo6 <|
.j 911 [4] [] [g2] [jy,g3] ZzO <|
.nil
theorem ZJ0:OK_ D48:=ok_ D48 Tryz.func102
def D49:=fd_ 72 Tryz.f72 [D47.sg,D48.sg] [gl,gl] [h7] ZoR .nil
theorem ZO6:OK_ D49:=ok_ D49 Tryz.func72 ⟨ZO7,ZJ0,tr_⟩
def D50:=fd_ 73 Tryz.f73 [] [gl] [h7] Zvy <|
.j 911 [2] [] [g2] [gx] Zyp <|
.nil
theorem ZO5:OK_ D50:=ok_ D50 Tryz.func73
def D51:=fd_ 103 Tryz.f103 [D42.sg,D39.sg,D33.sg] [ge,ge] [gr] Zwi <|
.lo 9410111 [0,1,5,6,20,21] [] [g5,g5,g8,gq,g0,g0] [g3] 0 [5,6] [] [g8,gq] [g3] Zww Zz5 (fun _=> .nil) <|
.nil
theorem ZO4:OK_ D51:=ok_ D51 Tryz.func103 ⟨ZPa,ZPb,ZIV,tr_⟩
def D52:=fd_ 104 Tryz.f104 [D42.sg,D38.sg,D33.sg] [ge,ge] [gr] Zvg <|
.lo 9410111 [0,1,5,6,12,13] [] [g5,g5,g8,gq,g0,g0] [g3] 0 [5] [] [g8] [g3] Zv1 Zzv (fun _=> .nil) <|
.nil
theorem ZUB:OK_ D52:=ok_ D52 Tryz.func104 ⟨ZPa,ZPc,ZIV,tr_⟩
def D53:=fd_ 71 Tryz.f71 [D51.sg,D48.sg,D30.sg,D52.sg] [gl,gl] [h7] ZAO .nil
theorem ZO3:OK_ D53:=ok_ D53 Tryz.func71 ⟨ZO4,ZJ0,ZM3,ZUB,tr_⟩
def D54:=fd_ 43 Tryz.f43 [D46.sg,D49.sg,D50.sg,D53.sg] [gg,gg] [gb] ZxA <|
.j 9101 [2,3,13] [] j1 [gn,gn] ZCb <|
.nil
theorem ZJZ:OK_ D54:=ok_ D54 Tryz.func43 ⟨ZM2,ZO6,ZO5,ZO3,tr_⟩
def D55:=fd_ 44 Tryz.f44 [D54.sg] [j3,g4,gg] [gb] ZBI <|
.lo 9401 [0,1,5] [] [gf,g0,g2] [gn] 0 [1] [] [g0] [] ZyU ZDd (fun n0=> .j 9105401 [0,1,5,19] [] [gf,g0,g2,g1] [gn] (ZBf (ZyU n0)) <|
.nil) <|
.nil
theorem ZUA:OK_ D55:=ok_ D55 Tryz.func44 ⟨ZJZ,tr_⟩
def D56:=fd_ 134 Tryz.f134 [D33.sg] [hh] [gr] Zwx .nil
theorem ZO2:OK_ D56:=ok_ D56 Tryz.func134 ⟨ZIV,tr_⟩
def D57:=fd_ 87 Tryz.f87 [D56.sg,D48.sg] [g4] [h7] ZyZ .nil
theorem ZUz:OK_ D57:=ok_ D57 Tryz.func87 ⟨ZO2,ZJ0,tr_⟩
def D58:=fd_ 133 Tryz.f133 [D45.sg,D44.sg,D48.sg] [gl,gl] [gh] Zuy .nil
theorem ZM1:OK_ D58:=ok_ D58 Tryz.func133 ⟨ZO8,ZO9,ZJ0,tr_⟩
def D59:=fd_ 86 Tryz.f86 [D25.sg,D58.sg] [gl,gl] [gh,gb] ZDi .nil
theorem ZUy:OK_ D59:=ok_ D59 Tryz.func86 ⟨ZPf,ZM1,tr_⟩
def D60:=fd_ 56 Tryz.f56 [D57.sg,D59.sg] [g4,g4] [gh,gb] ZDh .nil
theorem ZO1:OK_ D60:=ok_ D60 Tryz.func56 ⟨ZUz,ZUy,tr_⟩
def D61:=fd_ 57 Tryz.f57 [D60.sg] [] [gh] ZEQ .nil
theorem ZM0:OK_ D61:=ok_ D61 Tryz.func57 ⟨ZO1,tr_⟩
def D62:=fd_ 28 Tryz.f28 [D60.sg,D61.sg] [g4,g4] [gh] ZGB .nil
theorem ZO0:OK_ D62:=ok_ D62 Tryz.func28 ⟨ZO1,ZM0,tr_⟩
def D63:=fd_ 15 Tryz.f15 [D54.sg,D55.sg,D62.sg] [j3,j3] [gh,gb] ZqQ <|
.j 9101 [0,1,4,17] [] [gf,gf,g2,g1] h6 Zvf <|
.lo 940111 [0,1,4,6,7,8] [] [gf,gf,g2,g0,g0,g0] h6 0 [0,1,4,6] [] [gf,gf,g2,g0] h6 Zsy ZAU (fun n0=> .j 910540111 [0,1,4,6,7,8,28] [] [gf,gf,g2,g0,g0,g0,g1] h6 (Zym (Zsy n0)) <|
.j 91141540111 [0,1,4,6,7,8,9] [] [gf,gf,g2,g0,g0,g0,g7] j0 (Zve (Zsy n0)) <|
.nil) <|
.nil
theorem ZOZ:OK_ D63:=ok_ D63 Tryz.func15 ⟨ZJZ,ZUA,ZO0,tr_⟩
def D64:=fd_ 45 Tryz.f45 [] [gl,gl] [g9] Zr3 <|
.j 9101 [2,3,20] [] j1 [gx,gx] Zs3 <|
.lr 941011 [3,22,23,24] [] [g2,g5,g0,g0] [gx] 0 [] [] [] [] Zs2 ZwC (fun _=> .nil) <|
.nil
theorem ZUx:OK_ D64:=ok_ D64 Tryz.func45
def D65:=fd_ 16 Tryz.f16 [D64.sg] [gg,gg] [g9] ZoY <|
.j 911 [4] [] [g1] [] ZuO <|
.nil
theorem ZMZ:OK_ D65:=ok_ D65 Tryz.func16 ⟨ZUx,tr_⟩
def D66:=fd_ 110 Tryz.f110 [] [] [.map (.int .i64) (.st 5)] ZFT .nil
theorem ZOY:OK_ D66:=ok_ D66 Tryz.func110
def D68:=fd_ 163 Tryz.f163 [(208,ZEn.sig)] [gd] [go] ZEV .nil
theorem ZUw:OK_ D68:=ok_ D68 Tryz.func163 ⟨ZFd,tr_⟩
def D69:=fd_ 252 Tryz.f252 [] [gd,gd] [g9] ZpU <|
.j 911 [4] [] [g1] [] ZqR <|
.nil
theorem ZOX:OK_ D69:=ok_ D69 Tryz.func252
def D70:=fd_ 238 Tryz.f238 [D69.sg] [gd,gd] [go,g9] ZuJ .nil
theorem ZUv:OK_ D70:=ok_ D70 Tryz.func238 ⟨ZOX,tr_⟩
def D71:=fd_ 212 Tryz.f212 [D70.sg] [gd,gd] [go,g9] ZAm .nil
theorem ZUu:OK_ D71:=ok_ D71 Tryz.func212 ⟨ZUv,tr_⟩
def D72:=fd_ 239 Tryz.f239 [D69.sg] [gd,gd] [go] Zup .nil
theorem ZUt:OK_ D72:=ok_ D72 Tryz.func239 ⟨ZOX,tr_⟩
def D73:=fd_ 213 Tryz.f213 [D72.sg] [gd,gd] [go] ZzJ .nil
theorem ZUs:OK_ D73:=ok_ D73 Tryz.func213 ⟨ZUt,tr_⟩
def D75:=fd_ 251 Tryz.f251 [(270,Zyu.sig)] [gd,gd] [gb] ZtM <|
.j 914011 [0,1,5,16] [] [gc,gc,g0,g1] [] Zr0 <|
.nil
theorem ZUr:OK_ D75:=ok_ D75 Tryz.func251 ⟨ZCy,tr_⟩
def D76:=fd_ 240 Tryz.f240 [D75.sg] [gd,gd] [go,go,g9] ZyL .nil
theorem ZUq:OK_ D76:=ok_ D76 Tryz.func240 ⟨ZUr,tr_⟩
def D77:=fd_ 214 Tryz.f214 [D76.sg] [gd,gd] [go,go,g9] ZDc .nil
theorem ZOW:OK_ D77:=ok_ D77 Tryz.func214 ⟨ZUq,tr_⟩
def D78:=fd_ 215 Tryz.f215 [(208,ZEn.sig)] [gd,g4] [g9] Zz8 <|
.j 911 [4] [] [g1] [] Zw2 <|
.nil
theorem ZUp:OK_ D78:=ok_ D78 Tryz.func215 ⟨ZFd,tr_⟩
def D79:=fd_ 168 Tryz.f168 [D71.sg,D73.sg,D77.sg,D78.sg,D31.sg,D47.sg,D56.sg,D51.sg,D48.sg,D58.sg] [gd] [gh,g9] Zwy <|
.j 9111 [2,4,5] [] [g2,gc,g1] h6 Zwj <|
.j 9101111 [2,5,6,7,39] [] [g2,g1,gc,gc,g1] h6 Ztu <|
.lo 941011111111 [2,5,7,9,10,11,47,48,49] [9,10] [g2,g1,gc,g5,g5,hk,h8,g0,g0] [hn,g3,hx,g3,g3] 0 [2,5,7,9,10,11] [] [g2,g1,gc,g5,g5,hk] [jw,g3,g3,g3] Zy1 ZBW (fun _=> .nil) <|
.lo 9410111111111 [2,5,9,10,11,63,64] [11] [g2,g1,g5,g5,g5,g0,g0] h6 2 [2,5,9,11] [] [g2,g1,g5,g5] h6 Zy0 ZBV (fun _=> .nil) <|
.nil
theorem ZOV:OK_ D79:=ok_ D79 Tryz.func168 ⟨ZUu,ZUs,ZOW,ZUp,ZPd,ZO7,ZO2,ZO4,ZJ0,ZM1,tr_⟩
def D82:=fd_ 218 Tryz.f218 [] [.p (.sl .str)] [go] ZDm <|
.lr 941011 [3,6,7,8] [] [gc,.o (.v (.sl .str)),g0,g0] [] 0 [3] [] [gc] [] Zy2 ZFk (fun _=> .nil) <|
.nil
theorem ZUo:OK_ D82:=ok_ D82 Tryz.func218
def D83:=fd_ 169 Tryz.f169 [D79.sg,(216,ZEx.sig),D77.sg,(217,ZEb.sig),D82.sg] [gd] [go,g9] ZBm <|
.j 9111111 [0,9] [] [gc,gc] [] ZtN <|
.j 910111111 [9,43] [] gy [] ZAX <|
.j 91111111 [9] [] [gc] [] ZAW <|
.nil
theorem ZUn:OK_ D83:=ok_ D83 Tryz.func169 ⟨ZOV,ZFZ,ZOW,ZFP,ZUo,tr_⟩
noncomputable def D84:FD U:=⟨109,Tryz.f109,[D66.sg,D68.sg,D83.sg],[g4,gd],[],[go,g9],[],[(26,2)],ZxB,ZxB,
.nil⟩
theorem ZUm:OK_ D84:=ok_ D84 Tryz.func109 ⟨ZOY,ZUw,ZUn,tr_⟩
noncomputable def D85:FD U:=⟨76,Tryz.f76,[D84.sg,D66.sg,D79.sg],[g4,gd],[],[gh,g9],[],[(22,2)],ZC4,ZC4,
.nil⟩
theorem ZUl:OK_ D85:=ok_ D85 Tryz.func76 ⟨ZUm,ZOY,ZOV,tr_⟩
def D86:=fd_ 47 Tryz.f47 [D61.sg,D85.sg] [j4] [gh,g9] ZBJ .nil
theorem ZUk:OK_ D86:=ok_ D86 Tryz.func47 ⟨ZM0,ZUl,tr_⟩
def D87:=fd_ 78 Tryz.f78 [D19.sg] [hh] [gb] Zz3 .nil
theorem ZMY:OK_ D87:=ok_ D87 Tryz.func78 ⟨ZPg,tr_⟩
noncomputable def D88:FD U:=⟨111,Tryz.f111,[D54.sg],[.arr (.st 4),g4,g4,.fn 43 [] []],[(0,.arr (.st 4))],[],[],[],Zo7,ZoU,
.lo 941 [0,1,2,3,8] [] [gk,g0,g0,j7,g0] [gw] 0 [] [] [] [gw] Zod Zqf (fun n0=> .lo 941401541 [0,1,2,3,8,9] [] [gk,g0,g0,j7,g0,g0] [gw] 2 [0,1,2,3,8] [] [gk,g0,g0,j7,g0] [gw] ZnX (Zqg (Zod n0)) (fun n1=> .j 910541401541 [0,1,2,3,8,9,34] [] [gk,g0,g0,j7,g0,g0,g1] [gw] (ZoN (ZnX n1)) <|
.nil) <|
.nil) <|
.nil⟩
theorem ZUj:OK_ D88:=ZIJ D88 Tryz.func111 ⟨ZJZ,tr_⟩
noncomputable def D89:FD U:=⟨77,Tryz.f77,[D88.sg],[.arr (.st 4),g4,g4,g4,.fn 43 [] []],[(0,.arr (.st 4))],[],[],[],ZsR,ZpQ,
.lz 9411 [0,1,2,3,4,10,11] [] [gk,g0,g0,g0,j7,g1,g1] [gw] ZrJ (fun _=> .nil) <|
.nil⟩
theorem ZUi:OK_ D89:=ZIJ D89 Tryz.func77 ⟨ZUj,tr_⟩
noncomputable def D90:FD U:=⟨48,Tryz.f48,[D87.sg,D89.sg],[.arr (.st 4),.fn 43 [] []],[(0,.arr (.st 4))],[],[],[],ZqO,Zoe,
.nil⟩
theorem ZUg:OK_ D90:=ZIJ D90 Tryz.func48 ⟨ZMY,ZUi,tr_⟩
def D91:=fd_ 18 Tryz.f18 [D86.sg,D90.sg] [jc] [.own (.st 4)] Zsw <|
.lo 941011 [3,9,10,11] [] jk [gw] 0 [3] [] [g8] [gw] Zwg ZyV (fun n0=> .j 9111541011 [3,9,10,11] [] jk [gw] (Zwh (Zwg n0)) <|
.nil) <|
.nil
theorem ZOU:OK_ D91:=ok_ D91 Tryz.func18 ⟨ZUk,ZUg,tr_⟩
def D92:=fd_ 5 Tryz.f5 [D16.sg,D23.sg,D63.sg,D65.sg,D15.sg,D91.sg] [] [g9] Zqe <|
.j 911111 [0] [] [g1] [] Zo8 <|
.nil
theorem ZUf:OK_ D92:=ok_ D92 Tryz.func5 ⟨ZM8,ZUP,ZOZ,ZMZ,ZNb,ZOU,tr_⟩
def D93:=fd_ 6 Tryz.f6 [] [j2] [.box (.st 6)] ZBC .nil
theorem ZUe:OK_ D93:=ok_ D93 Tryz.func6
def D94:=fd_ 9 Tryz.f9 [] [g4,g4] [gb] Zsl .nil
theorem ZOT:OK_ D94:=ok_ D94 Tryz.func9
noncomputable def D95:FD U:=⟨19,Tryz.f19,[D94.sg],[hi,g4],[(0,.box (.st 6))],[gb],[],[],ZnL,ZnL,
.nil⟩
theorem ZHH:OK_ D95:=ok_ D95 Tryz.func19 ⟨ZOT,tr_⟩
noncomputable def D96:FD U:=⟨22,Tryz.f22,[D95.sg],[hi,.p (.sl .str)],[(0,.box (.st 6))],[go],[],[],Zoc,Zoc,
.nil⟩
theorem ZJY:OK_ D96:=ok_ D96 Tryz.func22 ⟨ZHH,tr_⟩
noncomputable def D97:FD U:=⟨23,Tryz.f23,[D95.sg,D96.sg],[hi],[(0,.box (.st 6))],[.p (.st 0)],[],[],Zwd,Zwd,
.nil⟩
theorem ZUd:OK_ D97:=ok_ D97 Tryz.func23 ⟨ZHH,ZJY,tr_⟩
noncomputable def D99:FD U:=⟨24,Tryz.f24,[D95.sg,D96.sg,(25,ZEo.sig)],[hi],[(0,.box (.st 6))],[.p (.st 0)],[],[],Zue,Zue,
.nil⟩
theorem ZUc:OK_ D99:=ok_ D99 Tryz.func24 ⟨ZHH,ZJY,ZFe,tr_⟩
noncomputable def ZVp:FD U:=⟨8,Tryz.f8,[D96.sg,D95.sg,D97.sg,D99.sg,(25,ZEo.sig)],[hi,g4],[(0,.box (.st 6))],[.p (.st 1)],[],[],ZrT,ZrT,
.lo 9410111 [0,4,5,6,15,16] [] [h5,g2,g7,g0,g0,g0] [gz,jz,jm,hl,hl] 0 [4,5] [] hm [gz,jz,jm,hl,hl] Zsc ZyJ (fun n0=> .j 911140115410111 [0,4,5,6,8,15,16] [] [h5,g2,g7,g0,gp,g0,g0] [gz,jm,.box [.o (.v .str),.o (.full (0,5,1))],.boxS (.st 0),hl,hl] (Zpq (Zsc n0)) <|
.nil) <|
.nil⟩
theorem ZNk:OK_ ZVp:=ok_ ZVp Tryz.func8 ⟨ZJY,ZHH,ZUd,ZUc,ZFe,tr_⟩
noncomputable def ZXg:FD U:=⟨20,Tryz.f20,[D96.sg,D95.sg,ZVp.sg],[hi,g4],[(0,.box (.st 6))],[ht],[],[],Zu7,Zu7,
.lo 9410111 [0,4,5,6,7] [] [h5,g2,g7,g0,g0] jp 0 [0,4,5] [] [h5,g2,g7] jp ZvW Zzq (fun _=> .nil) <|
.j 911111 [4,5] [] hm jp ZvX <|
.nil⟩
theorem ZR4:OK_ ZXg:=ok_ ZXg Tryz.func20 ⟨ZJY,ZHH,ZNk,tr_⟩
noncomputable def ZXf:FD U:=⟨50,Tryz.f50,[D95.sg,D96.sg],[hi,h4],[(0,.box (.st 6))],[.p (.st 7)],[],[],Zx1,Zx1,
.j 911121410111 [0,3,4,5,44] [] [h5,g2,g7,gp,g1] [gz,gj,jx,.box [.o (.v (.int .i64)),.o (.v (.int .i64)),.o (.v .str),.o (.full (0,5,1))],hg,hg] Zra <|
.j 9131410111 [0,4,5,6,16,66] [] [h5,g2,g7,g0,g0,g1] j8 Zva <|
.lo 941213131410111 [0,4,5,6,7] [] [h5,g2,g7,g0,g0] j8 1 [4,5] [] hm j8 Zu8 ZAR (fun n0=> .j 910541213131410111 [0,4,5,6,7,83] [] [h5,g2,g7,g0,g0,g1] j8 (Zyk (Zu8 n0)) <|
.nil) <|
.j 91111 [4,5] [] hm j8 Zq9 <|
.j 911111 [4] [] [g2] [gz,.box [.o (.v (.int .i64)),.o (.v (.int .i64)),.o (.v .str),.o (.full (0,2,1))],hg] Zu9 <|
.nil⟩
theorem ZR3:OK_ ZXf:=ok_ ZXf Tryz.func50 ⟨ZHH,ZJY,tr_⟩
def ZXe:=fd_ 228 Tryz.f228 [] [gd] [hr] Zoa .nil
theorem ZR2:OK_ ZXe:=ok_ ZXe Tryz.func228
def ZVo:=fd_ 190 Tryz.f190 [ZXe.sg] [gd] [g9] Zpo <|
.lr 9401 [0] [] [gc] [] 0 [] [] [] [] ZnR Zwz (fun n0=> .j 91012101415401 [0,24] [] gy [] (ZqU (ZnR n0)) <|
.j 91121012101415401 [0,39] [] gy [] (ZqT (ZnR n0)) <|
.lo 94121121012101415401 [0] [] [gc] [] 2 [0] [] [gc] [] Zpw (ZwA (ZnR n0)) (fun n1=> .j 91054121121012101415401 [0,62] [] gy [] (Zs0 (Zpw n1)) <|
.nil) <|
.j 9112101415401 [0] [] [gc] [] (ZqS (ZnR n0)) <|
.j 910214111111415401 [0,94] [] gy [] (Zpx (ZnR n0)) <|
.j 91021314111111415401 [0,125] [] gy [] (Zom (ZnR n0)) <|
.j 9102131314111111415401 [0,166] [] gy [] (ZnY (ZnR n0)) <|
.nil) <|
.nil
theorem ZNj:OK_ ZVo:=ok_ ZVo Tryz.func190 ⟨ZR2,tr_⟩
def ZVn:=fd_ 144 Tryz.f144 [ZVo.sg] [gd] [g9] Zto .nil
theorem ZNi:OK_ ZVn:=ok_ ZVn Tryz.func144 ⟨ZNj,tr_⟩
def ZXd:=fd_ 90 Tryz.f90 [ZVn.sg] [gd] [g9] ZtX <|
.j 911 [2] [] [g1] [] ZuR <|
.nil
theorem ZR1:OK_ ZXd:=ok_ ZXd Tryz.func90 ⟨ZNi,tr_⟩
def ZXc:=fd_ 91 Tryz.f91 [ZVn.sg] [j4] [g9] ZtF <|
.j 911 [2] [] [g1] [] Zo5 <|
.nil
theorem ZR0:OK_ ZXc:=ok_ ZXc Tryz.func91 ⟨ZNi,tr_⟩
def ZSk:=fd_ 63 Tryz.f63 [ZXd.sg,ZXc.sg] [h4] [g9] Zpf <|
.j 9101 [1,26] [] [g2,g1] [gj] Zp7 <|
.lr 941011 [1,28,29,30] [] [g2,gv,g0,g0] [gj] 0 [] [] [] [] ZoC ZxK (fun n0=> .j 91014011541011 [1,4,28,29,30,55] [] [g2,g7,gv,g0,g0,g1] [gj,hc] (Zp6 (ZoC n0)) <|
.lr 941114011541011 [1,28,29,30,57,58,59] [] [g2,gv,g0,g0,hj,g0,g0] [gj] 2 [1,28,29,30] [] [g2,gv,g0,g0] [gj] ZrA (ZxL (ZoC n0)) (fun _=> .nil) <|
.nil) <|
.nil
theorem ZJk:OK_ ZSk:=ok_ ZSk Tryz.func63 ⟨ZR1,ZR0,tr_⟩
def ZXb:=fd_ 79 Tryz.f79 [] [h4,.p (.st 7)] [g9] Zyd <|
.j 911 [2,3,5] [] j1 [gj,hv] ZsF <|
.j 912141011 [4] [] [g1] [] ZsE <|
.j 913141011 [2,3,5,20,36] [] [g2,g7,g1,g0,g1] [gj,hv] ZsD <|
.j 91213141011 [4] [] [g1] [] ZsC <|
.lr 941021313141011 [2,3,54,55,56] [] [g2,g7,gm,g0,g0] [gj,hv] 1 [3] [] [g2] [hv] ZsA Zy6 (fun n0=> .j 9114011541021313141011 [2,3,54,55,56,68] [] [g2,g7,gm,g0,g0,g1] [gj,hv] (ZvE (ZsA n0)) <|
.nil) <|
.j 91121313141011 [4] [] [g1] [] ZsB <|
.j 91111 [4] [] [g1] [] Zq2 <|
.nil
theorem ZRZ:OK_ ZXb:=ok_ ZXb Tryz.func79
def ZXa:=fd_ 120 Tryz.f120 [ZSk.sg] [h4,j2] [ht,gb] ZuS <|
.lr 9410111 [1,2,4,6,18,19,20] [] [gm,g2,g7,gp,gm,g0,g0] [gj,j6,jd,gs,gs] 0 [1,4,6] [] [gm,g2,g7] j9 ZqX ZwH (fun n0=> .j 910140115410111 [1,2,4,6,8,18,19,20,32] [] [gm,g2,g7,gp,g0,gm,g0,g0,g1] [gj,j6,jd,gs,gs] (Zs5 (ZqX n0)) <|
.nil) <|
.nil
theorem ZRY:OK_ ZXa:=ok_ ZXa Tryz.func120 ⟨ZJk,tr_⟩
def ZVm:=fd_ 177 Tryz.f177 [] [h4] [gb] ZtZ .nil
theorem ZNh:OK_ ZVm:=ok_ ZVm Tryz.func177
def ZW9:=fd_ 178 Tryz.f178 [] [h4,g4,g4] [g9] Zwk <|
.lr 94101 [1,2,10,11,12] [] [g0,g0,gv,g0,g0] [] 0 [] [] [] [] ZtO ZxE (fun _=> .nil) <|
.nil
theorem ZRX:OK_ ZW9:=ok_ ZW9 Tryz.func178
def ZW8:=fd_ 179 Tryz.f179 [] [j4,j4] [gb] ZrR <|
.j 91401 [2,3,5] [] j1 [.boxS (.st 0),.boxS (.st 0)] Zph <|
.nil
theorem ZRW:OK_ ZW8:=ok_ ZW8 Tryz.func179
def ZW7:=fd_ 122 Tryz.f122 [ZVm.sg,ZW9.sg,ZW8.sg] [h4,.p (.st 7)] [.own (.int .i64)] Zw7 <|
.lo 941011 [2,3,5,14,15] [] [g2,g7,h8,g0,g0] hd 0 [5] [] [g8] [hg] Zos Zyv (fun n0=> .lo 941213131410114011541011 [2,3,5,6,7,8,14,15,60,61,62] [] k0 hd 3 [2,3,5,6,7,8,14,15] [] jo hd Zr2 (Zyx (Zos n0)) (fun n1=> .j 9111541213131410114011541011 [2,3,5,6,7,8,14,15,60,61,62] [] k0 hd (ZuM (Zr2 n1)) <|
.nil) <|
.lo 94121313131410114011541011 [2,3,5,6,7,8,12,14,15] [] [g2,g7,h8,g0,g0,g1,hj,g0,g0] hd 5 [2,3,5,6,7,8,14,15] [] jo hd Zr1 (Zyw (Zos n0)) (fun n1=> .j 91054121313131410114011541011 [2,3,5,6,7,8,12,14,15,101] [] [g2,g7,h8,g0,g0,g1,hj,g0,g0,g1] hd (ZuL (Zr1 n1)) <|
.nil) <|
.j 91114011541011 [2,3,5,6,7,8,14,15] [] jo hd (Zqw (Zos n0)) <|
.j 911114011541011 [2,3,5,6,7,14,15,104] [] [g2,g7,h8,g0,g0,g0,g0,g1] hd (Zqv (Zos n0)) <|
.j 9111541011 [2,3,5,14,15] [] [g2,g7,h8,g0,g0] hd (ZuK (Zos n0)) <|
.nil) <|
.nil
theorem ZRV:OK_ ZW7:=ok_ ZW7 Tryz.func122 ⟨ZNh,ZRX,ZRW,tr_⟩
def ZW6:=fd_ 121 Tryz.f121 [ZSk.sg,ZVm.sg] [h4,j2] [ht,gb] ZvN <|
.lr 941011 [1,2,4,18,19,20] [] [gm,g2,g7,gm,g0,g0] ja 0 [1,2,4] [] [gm,g2,g7] ja Zrl Zxf (fun n0=> .j 9114011541011 [1,2,4,18,19,20,31] [] [gm,g2,g7,gm,g0,g0,g1] ja (ZtH (Zrl n0)) <|
.nil) <|
.lo 941011111 [1,4,8,44,45,46] [] [gm,g2,g7,gv,g0,g0] j9 2 [4,8] [] hm j9 Zrk Zxd (fun n0=> .lo 9410114011541011111 [1,4,8,10,11,44,45,46,53,54,55] [] [gm,g2,g7,gp,.o (.ptr (0,4,1) 0 0),gv,g0,g0,gm,g0,g0] [jd,.box [.o (.v (.int .i64)),.o (.v .str),.o (.full (0,6,1))],hc,.box [.o (.v .str),.o (.full (0,7,1))],gs,gs,hl] 4 [1,4,8,11,44,45,46] [] [gm,g2,g7,gp,gv,g0,g0] [j6,jd,.box [.o (.v .str),.o (.full (0,6,1))],gs,gs,hl] ZtG (Zxe (Zrk n0)) (fun _=> .nil) <|
.nil) <|
.nil
theorem ZRU:OK_ ZW6:=ok_ ZW6 Tryz.func121 ⟨ZJk,ZNh,tr_⟩
def ZW5:=fd_ 80 Tryz.f80 [ZXa.sg,ZW7.sg,ZW6.sg] [h4,.p (.st 7)] [ht] ZyQ .nil
theorem ZRT:OK_ ZW5:=ok_ ZW5 Tryz.func80 ⟨ZRY,ZRV,ZRU,tr_⟩
def ZVl:=fd_ 51 Tryz.f51 [] [h4] [ht] ZtR <|
.lo 941011 [2,3,12,13,14] [] [g2,g7,gv,g0,g0] j9 0 [2,3] [] hm j9 ZuN Zyy (fun _=> .nil) <|
.nil
theorem ZNg:OK_ ZVl:=ok_ ZVl Tryz.func51
def ZW4:=fd_ 49 Tryz.f49 [ZSk.sg,ZXb.sg,ZW5.sg,ZVl.sg] [h4,.p (.sl (.st 7))] [ht,gb] Zye <|
.lr 941011 [2,4,18,19,20] [] [g2,g7,.o (.v (.sl (.st 7))),g0,g0] ja 1 [2,4] [] hm ja ZvF Zy7 (fun _=> .nil) <|
.nil
theorem ZRS:OK_ ZW4:=ok_ ZW4 Tryz.func49 ⟨ZJk,ZRZ,ZRT,ZNg,tr_⟩
noncomputable def ZW3:FD U:=⟨21,Tryz.f21,[D95.sg,ZXf.sg,ZW4.sg,ZVl.sg],[hi,h4,g4],[(0,.box (.st 6))],[ht],[],[],Ztr,Ztr,
.lo 94101 [0,2,4,6,7] [] [h5,g0,g2,g7,g0] [gz,gj,hu,gs] 0 [2,4,6] [] [g0,g2,g7] [gz,gj,hu,gs] ZrH Zx2 (fun n0=> .j 91154101 [0,2,4,6,7] [] [h5,g0,g2,g7,g0] [gz,gj,hu,gs] (Zuf (ZrH n0)) <|
.nil) <|
.nil⟩
theorem ZRR:OK_ ZW3:=ok_ ZW3 Tryz.func21 ⟨ZHH,ZR3,ZRS,ZNg,tr_⟩
noncomputable def ZW2:FD U:=⟨7,Tryz.f7,[D95.sg,ZXg.sg,ZW3.sg],[hi,g4],[(0,.box (.st 6))],[.own (.st 2)],[],[],Zud,Zud,
.lo 9410111 [0,5,6,7] [] [h5,g8,g0,g0] [gz,jf] 0 [5] [] [g8] [gz,jf] Zqx ZyI (fun n0=> .j 910114015410111 [0,5,6,7,8,34] [] [h5,g8,g0,g0,g7,g1] [gz,jf,gj] (ZuX (Zqx n0)) <|
.j 91114015410111 [0,5,6,7,8] [] [h5,g8,g0,g0,g7] [gz,jf,gj] (Zsb (Zqx n0)) <|
.nil) <|
.nil⟩
theorem ZRQ:OK_ ZW2:=ok_ ZW2 Tryz.func7 ⟨ZHH,ZR4,ZRR,tr_⟩
def ZW1:=fd_ 184 Tryz.f184 [ZVo.sg] [gd] [g9] ZGb .nil
theorem ZRP:OK_ ZW1:=ok_ ZW1 Tryz.func184 ⟨ZNj,tr_⟩
def ZU0:=fd_ 127 Tryz.f127 [ZW1.sg] [gd] [g9] ZCX <|
.j 911 [2] [] [g1] [] ZDa <|
.nil
theorem ZKL:OK_ ZU0:=ok_ ZU0 Tryz.func127 ⟨ZRP,tr_⟩
def ZVk:=fd_ 128 Tryz.f128 [] [h4] [gb] ZDY .nil
theorem ZNf:OK_ ZVk:=ok_ ZVk Tryz.func128
def ZW0:=fd_ 132 Tryz.f132 [ZU0.sg] [j4] [g9] ZB3 <|
.j 911 [2] [] [g1] [] ZwU <|
.nil
theorem ZRO:OK_ ZW0:=ok_ ZW0 Tryz.func132 ⟨ZKL,tr_⟩
def ZWZ:=fd_ 131 Tryz.f131 [ZW0.sg] [.p (.sl (.st 0)),.fn 132 [] []] [g9] Zyl <|
.lr 94101 [1,7,8,9] [] [.fn 132 [] [],hj,g0,g0] [] 0 [] [] [] [] ZvY Zzr (fun _=> .nil) <|
.nil
theorem ZRN:OK_ ZWZ:=ok_ ZWZ Tryz.func131 ⟨ZRO,tr_⟩
def ZWY:=fd_ 130 Tryz.f130 [ZU0.sg,ZVk.sg,ZWZ.sg] [jc,.ptr (.st 2)] [g9] ZDb <|
.j 911 [3] [] [g1] [] ZyS <|
.nil
theorem ZRM:OK_ ZWY:=ok_ ZWY Tryz.func130 ⟨ZKL,ZNf,ZRN,tr_⟩
def ZWX:=fd_ 185 Tryz.f185 [ZWY.sg] [.p (.sl (.st 1)),.fn 130 [] [.pp (.st 2)]] [gb] Zru <|
.lr 94101 [0,1,7,8] [] [gv,.fn 130 [] [.pp (.st 2)],g0,g0] [] 0 [] [] [] [] ZoZ ZqP (fun _=> .nil) <|
.nil
theorem ZRL:OK_ ZWX:=ok_ ZWX Tryz.func185 ⟨ZRM,tr_⟩
def ZWW:=fd_ 129 Tryz.f129 [ZWX.sg] [.p (.sl (.st 1)),.fn 130 [] [.pp (.st 2)]] [g9] Zo0 .nil
theorem ZRK:OK_ ZWW:=ok_ ZWW Tryz.func129 ⟨ZRL,tr_⟩
def ZWV:=fd_ 83 Tryz.f83 [ZU0.sg,ZVk.sg,ZWW.sg] [h4] [g9] ZEL <|
.j 9101 [1,27] [] [g2,g1] [gj] ZwO <|
.nil
theorem ZRJ:OK_ ZWV:=ok_ ZWV Tryz.func83 ⟨ZKL,ZNf,ZRK,tr_⟩
def ZWU:=fd_ 82 Tryz.f82 [ZWV.sg] [hq,.fn 83 [] []] [g9] Zxp <|
.lr 94101 [1,7,8,9] [] [.fn 83 [] [],gi,g0,g0] [] 0 [] [] [] [] ZuY ZyK (fun _=> .nil) <|
.nil
theorem ZRI:OK_ ZWU:=ok_ ZWU Tryz.func82 ⟨ZRJ,tr_⟩
def ZWT:=fd_ 53 Tryz.f53 [ZWU.sg] [hq] [g9] ZB2 <|
.lr 94101 [0,3] [] [gi,g0] [] 0 [0] [] [gi] [] ZzH ZCn (fun _=> .nil) <|
.j 9111 [2] [] [g1] [] ZzI <|
.nil
theorem ZRH:OK_ ZWT:=ok_ ZWT Tryz.func53 ⟨ZRI,tr_⟩
def ZWS:=fd_ 26 Tryz.f26 [ZWT.sg] [hq] [g9] ZxD .nil
theorem ZRG:OK_ ZWS:=ok_ ZWS Tryz.func26 ⟨ZRH,tr_⟩
def ZWR:=fd_ 84 Tryz.f84 [D49.sg,D53.sg] [gg,gg] [h7,h7] ZE5 .nil
theorem ZRF:OK_ ZWR:=ok_ ZWR Tryz.func84 ⟨ZO6,ZO3,tr_⟩
def ZWQ:=fd_ 85 Tryz.f85 [D46.sg,ZWR.sg,D58.sg] [.fn 84 [] [],gg,gg] [gh,gb] ZrL <|
.j 9101 [0,4,5,6,18] [] [.fn 84 [] [],g2,g7,gp,g1] [gn,gn,hn,g3,g3] Zsx <|
.nil
theorem ZRE:OK_ ZWQ:=ok_ ZWQ Tryz.func85 ⟨ZM2,ZRF,ZM1,tr_⟩
def ZWP:=fd_ 55 Tryz.f55 [D46.sg,D50.sg,ZWQ.sg] [gg,gg] [gh,gb] ZCK .nil
theorem ZRD:OK_ ZWP:=ok_ ZWP Tryz.func55 ⟨ZM2,ZO5,ZRE,tr_⟩
def ZWO:=fd_ 54 Tryz.f54 [] [gg,g4] [gh] ZGR .nil
theorem ZRC:OK_ ZWO:=ok_ ZWO Tryz.func54
def ZWN:=fd_ 27 Tryz.f27 [ZWP.sg,ZWO.sg] [gg,gg] [gh] ZFC .nil
theorem ZRB:OK_ ZWN:=ok_ ZWN Tryz.func27 ⟨ZRD,ZRC,tr_⟩
def ZWM:=fd_ 58 Tryz.f58 [D61.sg,D54.sg] [gg] [gb] ZGA .nil
theorem ZRA:OK_ ZWM:=ok_ ZWM Tryz.func58 ⟨ZM0,ZJZ,tr_⟩
def ZWL:=fd_ 29 Tryz.f29 [ZWM.sg] [gg] [g9] ZCL .nil
theorem ZRz:OK_ ZWL:=ok_ ZWL Tryz.func29 ⟨ZRA,tr_⟩
def ZWK:=fd_ 61 Tryz.f61 [D54.sg] [gg,gg] [gb] ZFw .nil
theorem ZRy:OK_ ZWK:=ok_ ZWK Tryz.func61 ⟨ZJZ,tr_⟩
def ZVj:=fd_ 60 Tryz.f60 [] [j2] [gb] ZD6 <|
.lr 941011 [3,6,7,8] [] [g0,gm,g0,g0] [] 0 [3] [] [g0] [] ZBY ZE6 (fun _=> .nil) <|
.nil
theorem ZNd:OK_ ZVj:=ok_ ZVj Tryz.func60
def ZWJ:=fd_ 89 Tryz.f89 [D27.sg,ZVj.sg] [j5,j5] [g9] ZDZ .nil
theorem ZRx:OK_ ZWJ:=ok_ ZWJ Tryz.func89 ⟨ZPe,ZNd,tr_⟩
def ZWI:=fd_ 62 Tryz.f62 [ZWJ.sg] [j5,j5] [gb] ZFi .nil
theorem ZRw:OK_ ZWI:=ok_ ZWI Tryz.func62 ⟨ZRx,tr_⟩
def ZOu:=fd_ 31 Tryz.f31 [ZWK.sg,ZWI.sg,ZVj.sg] [.p (.st 10),.p (.st 10)] [gb] ZoG .nil
theorem ZG1:OK_ ZOu:=ok_ ZOu Tryz.func31 ⟨ZRy,ZRw,ZNd,tr_⟩
noncomputable def ZWH:FD U:=⟨135,Tryz.f135,[ZOu.sg],[h1,g4,g4,h3],[(0,.arr (.st 10))],[],[],[],Zp0,ZoF,
.lo 941 [0,1,2,3,8] [] jq [g6] 0 [] [] [] [g6] Zov Zrr (fun n0=> .lo 941401541 [0,1,2,3,8,9] [] hp [g6] 2 [0,1,2,3,8] [] jq [g6] Zn9 (Zrs (Zov n0)) (fun n1=> .j 910541401541 [0,1,2,3,8,9,34] [] jh [g6] (Zpn (Zn9 n1)) <|
.nil) <|
.nil) <|
.nil⟩
theorem ZRv:OK_ ZWH:=ZIJ ZWH Tryz.func135 ⟨ZG1,tr_⟩
noncomputable def ZWG:FD U:=⟨186,Tryz.f186,[ZOu.sg],[h1,g4,g4,g4,h3],[(0,.arr (.st 10))],[],[],[],Zrx,ZoA,
.lr 941 [0,2,3,4,10] [] jq [g6] 0 [] [] [] [g6] Zot Ztk (fun n0=> .j 910114541 [0,2,3,4,10,11,40] [] jh [g6] (ZqF (Zot n0)) <|
.j 91114541 [0,2,3,4,10,11] [] hp [g6] (Zo9 (Zot n0)) <|
.nil) <|
.nil⟩
theorem ZRu:OK_ ZWG:=ZIJ ZWG Tryz.func186 ⟨ZG1,tr_⟩
noncomputable def ZWF:FD U:=⟨136,Tryz.f136,[ZWG.sg],[h1,g4,g4,h3],[(0,.arr (.st 10))],[],[],[],Zry,Zq1,
.lo 9410111 [0,3,8,9,10,11] [] [gk,gt,g0,g0,g0,g0] [g6] 0 [0,3,8,9,10] [] [gk,gt,g0,g0,g0] [g6] ZqL Ztm (fun _=> .nil) <|
.lo 9411111 [0,3,8,9,12] [] [gk,gt,g0,g0,g0] [g6] 2 [] [] [] [g6] ZqK Ztl (fun _=> .nil) <|
.nil⟩
theorem ZRt:OK_ ZWF:=ZIJ ZWF Tryz.func136 ⟨ZRu,tr_⟩
def ZWE:=fd_ 173 Tryz.f173 [D87.sg] [g4] [hr] Zxq .nil
theorem ZRs:OK_ ZWE:=ok_ ZWE Tryz.func173 ⟨ZMY,tr_⟩
noncomputable def ZWD:FD U:=⟨174,Tryz.f174,[],[.box (.int .u64)],[(0,.box (.int .u64))],[hr],[],[],Zvb,Zvb,
.nil⟩
theorem ZRr:OK_ ZWD:=ok_ ZWD Tryz.func174
noncomputable def ZWC:FD U:=⟨137,Tryz.f137,[ZWE.sg,ZWD.sg],[h1,g4,g4,h3],[(0,.arr (.st 10))],[],[],[],Zp2,ZpC,
.lo 94111211 [0,1,8,9,10,11] [] [gk,g0,g0,g2,ga,g0] [g6,.boxS (.int .u64)] 0 [] [] [] [g6] Zow Zrt (fun n0=> .j 91140154111211 [0,1,8,9,10,11,12] [] [gk,g0,g0,g2,ga,g0,g0] [g6,.boxS (.int .u64)] (Zox (Zow n0)) <|
.nil) <|
.nil⟩
theorem ZRq:OK_ ZWC:=ZIJ ZWC Tryz.func137 ⟨ZRs,ZRr,tr_⟩
noncomputable def ZWB:FD U:=⟨227,Tryz.f227,[ZOu.sg],[h1,g4,g4,.box (.int .i64),h3],[(0,.arr (.st 10)),(3,.box (.int .i64))],[gb,gb],[],[],Zwe,ZoX,
.nil⟩
theorem ZRp:OK_ ZWB:=ZIJ ZWB Tryz.func227 ⟨ZG1,tr_⟩
noncomputable def ZVi:FD U:=⟨188,Tryz.f188,[ZWB.sg],[h1,g4,g4,g4,.box (.int .i64),h3],[(0,.arr (.st 10)),(4,.box (.int .i64))],[gb],[],[],Zwf,ZpT,
.nil⟩
theorem ZNc:OK_ ZVi:=ZIJ ZVi Tryz.func188 ⟨ZRp,tr_⟩
noncomputable def ZWA:FD U:=⟨187,Tryz.f187,[ZVi.sg],[h1,g4,.box (.int .i64),h3],[(0,.arr (.st 10)),(2,.box (.int .i64))],[gb],[],[],ZrZ,Zn8,
.nil⟩
theorem ZRo:OK_ ZWA:=ZIJ ZWA Tryz.func187 ⟨ZNc,tr_⟩
noncomputable def ZWz:FD U:=⟨138,Tryz.f138,[ZWA.sg,ZVi.sg],[h1,g4,g4,h3],[(0,.arr (.st 10))],[gb,gb],[],[],ZqM,Zp1,
.j 91210111111 [0,3,11,12,13,14] [] [gk,gt,g2,g0,g0,g0] [g6,.boxS (.int .i64)] ZoP <|
.j 91111111 [11,13] [] [g2,g0] [g6,.boxS (.int .i64)] ZoO <|
.nil⟩
theorem ZRn:OK_ ZWz:=ZIJ ZWz Tryz.func138 ⟨ZRo,ZNc,tr_⟩
noncomputable def ZWy:FD U:=⟨139,Tryz.f139,[],[h1,g4,g4,h3],[(0,.arr (.st 10))],[],[],[],Zqk,ZpP,
.lo 9411 [0,8,9] [] [gk,g0,g0] [g6] 0 [] [] [] [g6] ZpB ZrI (fun _=> .nil) <|
.nil⟩
theorem ZRm:OK_ ZWy:=ZIJ ZWy Tryz.func139
noncomputable def ZWx:FD U:=⟨140,Tryz.f140,[ZOu.sg],[h1,g4,g4,h3],[(0,.arr (.st 10))],[g9],[],[],ZoT,ZoI,
.lr 941011 [0,1,2,3,9,10] [] hp [g6] 0 [] [] [] [g6] ZnN ZpI (fun n0=> .lo 940401541011 [0,1,2,3,9,10] [] hp [g6] 2 [0,1,2,3,9,10] [] hp [g6] ZnV (ZpL (ZnN n0)) (fun n1=> .j 910540401541011 [0,1,2,3,9,10,36] [] jh [g6] (Zoz (ZnV n1)) <|
.nil) <|
.lo 9412101111401541011 [0,1,2,3,9,10,11] [] [gk,g0,g0,gt,g0,g0,g0] [g6] 4 [0,1,2,3,9,10] [] hp [g6] Zn6 (ZpK (ZnN n0)) (fun _=> .nil) <|
.j 9111111401541011 [0,1,2,3,9,10,104] [] jh [g6] (Zn7 (ZnN n0)) <|
.lo 9412111111401541011 [0,1,2,3,9,10,12] [] [gk,g0,g0,gt,g0,g0,g0] [g6] 6 [0,1,2,3,9,10] [] hp [g6] Zn5 (ZpJ (ZnN n0)) (fun _=> .nil) <|
.nil) <|
.nil⟩
theorem ZRl:OK_ ZWx:=ZIJ ZWx Tryz.func140 ⟨ZG1,tr_⟩
noncomputable def ZWw:FD U:=⟨141,Tryz.f141,[ZOu.sg],[h1,g4,g4,g4,h3],[(0,.arr (.st 10))],[gb],[],[],ZpR,Zpm,
.lo 940111 [0,1,4,11,12] [] h0 [g6] 0 [11] [] [g0] [g6] ZnW Zrd (fun n0=> .lo 9404540111 [0,1,4,11,12] [] h0 [g6] 2 [0,1,4,11,12] [] h0 [g6] Zn2 (Zrf (ZnW n0)) (fun n1=> .j 9105404540111 [0,1,4,11,12,47] [] hy [g6] (Zpc (Zn2 n1)) <|
.nil) <|
.lo 94014540111 [0,1,4,11,12] [] h0 [g6] 4 [0,1,4,11,12] [] h0 [g6] Zn1 (Zre (ZnW n0)) (fun n1=> .j 91054014540111 [0,1,4,11,12,65] [] hy [g6] (Zpb (Zn1 n1)) <|
.nil) <|
.nil) <|
.nil⟩
theorem ZRk:OK_ ZWw:=ZIJ ZWw Tryz.func141 ⟨ZG1,tr_⟩
noncomputable def ZWv:FD U:=⟨142,Tryz.f142,[ZOu.sg],[h1,g4,g4,g4,h3],[(0,.arr (.st 10))],[gb,g9],[],[],Zrp,ZqJ,
.lo 940111 [0,1,4,12,13] [] h0 [g6] 0 [0,1,4,12,13] [] h0 [g6] Zor ZsW (fun n0=> .j 910540111 [0,1,4,12,13,47] [] hy [g6] (Zqo (Zor n0)) <|
.nil) <|
.lo 9401111 [0,1,4,12,13] [] h0 [g6] 2 [0,1,4,12,13] [] h0 [g6] Zoq ZsV (fun n0=> .j 9105401111 [0,1,4,12,13,66] [] hy [g6] (Zqn (Zoq n0)) <|
.nil) <|
.lo 940111111111 [0,1,4,12,13] [] h0 [g6] 4 [0,1,13] [] [gk,g0,g0] [g6] Zn4 ZsS (fun n0=> .lo 9404540111111111 [0,1,4,12,13] [] h0 [g6] 6 [0,1,4,12,13] [] h0 [g6] Zop (ZsU (Zn4 n0)) (fun n1=> .j 9105404540111111111 [0,1,4,12,13,120] [] hy [g6] (Zqm (Zop n1)) <|
.nil) <|
.lo 94014540111111111 [0,1,4,12,13] [] h0 [g6] 8 [0,1,4,12,13] [] h0 [g6] Zoo (ZsT (Zn4 n0)) (fun n1=> .j 91054014540111111111 [0,1,4,12,13,139] [] hy [g6] (Zql (Zoo n1)) <|
.nil) <|
.nil) <|
.nil⟩
theorem ZRj:OK_ ZWv:=ZIJ ZWv Tryz.func142 ⟨ZG1,tr_⟩
noncomputable def ZOt (n_:Nat):FD U:=⟨88,Tryz.f88,[],[.arr (.st 10),.p (.int .i64),.p (.int .i64),.p (.int .i64),.fn 31 [] []],[(0,.arr (.st 10))],[],[],[],ZnJ n_,ZnJ n_,
.nil⟩
noncomputable def ZWu (n_:Nat):FD U:=⟨88,Tryz.f88,[ZWH.sg,ZWF.sg,ZWC.sg,ZWz.sg,ZWy.sg,ZWx.sg,ZOu.sg,ZWw.sg,ZWv.sg,(ZOt n_).sg],[.arr (.st 10),.p (.int .i64),.p (.int .i64),.p (.int .i64),.fn 31 [] []],[(0,.arr (.st 10))],[],[],[],Zro (ZnJ n_),ZnJ (n_+1),
.lz 9411 [0,1,2,3,4,10,11] [] [gk,g0,g0,g0,gt,g1,g1] [g6] (ZnU (ZnJ n_)) (fun n0=> .j 9111145411 [0,1,2,3,4,10,11,12] [] [gk,g0,g0,g0,gt,g1,g1,g0] [g6] ((Zpl (ZnJ n_)) ((ZnU (ZnJ n_)) n0)) <|
.j 911111145411 [0,1,2,3,4,10,11,12,13,14] [] [gk,g0,g0,g0,gt,g1,g1,g0,g0,g0] [g6] ((Zpk (ZnJ n_)) ((ZnU (ZnJ n_)) n0)) <|
.j 91011111145411 [0,1,2,3,4,10,11,12,13,75] [] k3 [g6] ((ZoB (ZnJ n_)) ((ZnU (ZnJ n_)) n0)) <|
.j 9111111145411 [0,1,2,3,4,10,11,12,13] [] [gk,g0,g0,g0,gt,g1,g1,g0,g0] [g6] ((Zpj (ZnJ n_)) ((ZnU (ZnJ n_)) n0)) <|
.j 910111111145411 [0,1,2,3,4,10,11,12,13,97] [] k3 [g6] ((Zpi (ZnJ n_)) ((ZnU (ZnJ n_)) n0)) <|
.nil) <|
.nil⟩
theorem ZOs (n_:Nat):Zeg X0.E 88 (ZOt n_).sig:=by
 induction n_ with
 |zero=>
  refine Zj9.ok (S:=(ZOt 0).FS) uok fun v r h=> ?_
  have h2:(none:Option _)=some r:=h;cases h2
 |succ n_ ih=>exact(ZWu n_).okA G0 Tryz.func88 ⟨ZRv,ZRt,ZRq,ZRn,ZRm,ZRl,ZG1,ZRk,ZRj,ih,trivial⟩ (by kernel_rfl) (by kernel_rfl)
noncomputable abbrev D159:FD U:=ZOt big
theorem ZRi:Zeg X0.E 88 D159.sig:=ZOs big
noncomputable def ZWt:FD U:=⟨59,Tryz.f59,[D87.sg,D159.sg],[h1,h3],[(0,.arr (.st 10))],[],[],[],Zun,ZqN,
.nil⟩
theorem ZRh:OK_ ZWt:=ZIJ ZWt Tryz.func59 ⟨ZMY,ZRi,tr_⟩
noncomputable def ZWs:FD U:=⟨30,Tryz.f30,[ZWt.sg],[h1,g4,h3],[(0,.arr (.st 10))],[.view 0],[],[],ZBK,ZAr,
.nil⟩
theorem ZRg:OK_ ZWs:=ZIJ ZWs Tryz.func30 ⟨ZRh,tr_⟩
def ZWr:=fd_ 10 Tryz.f10 [ZWS.sg,D91.sg,D63.sg,D62.sg,ZWN.sg,ZWL.sg,ZWs.sg] [hq,jc,g4] [.p (.sl (.st 10)),gb] Zxz <|
.j 91401 [0,2,4,17] [] jj [hc] Zvw <|
.j 9131401 [0,2,4,24] [] jj [hc] Zz1 <|
.lo 94101111 [2,8,9,36,37,38] [8] [g0,gf,g8,gi,g0,g0] [g6] 1 [2,9] [] [g0,g8] [g6] Zz0 ZDI (fun n0=> .lo 9411401154101111 [2,8,9,11,36,37,38,43,44,45] [8] k1 [g6,gj] 3 [2,8,9,36,37,38] [] [g0,gf,g8,gi,g0,g0] [g6] Zvv (ZDJ (Zz0 n0)) (fun n1=> .j 9111140115411401154101111 [2,8,9,11,12,16,36,37,38,43,44,45,65] [] [g0,gf,g8,g7,g0,gp,gi,g0,g0,gv,g0,g0,g1] [g6,gj,gn] (ZB8 (Zvv n1)) <|
.j 91115411401154101111 [2,8,9,11,36,37,38,43,44,45] [] k1 [g6,gj] (ZB7 (Zvv n1)) <|
.nil) <|
.nil) <|
.nil
theorem ZRf:OK_ ZWr:=ok_ ZWr Tryz.func10 ⟨ZRG,ZOU,ZOZ,ZO0,ZRB,ZRz,ZRg,tr_⟩
def ZWq:=fd_ 32 Tryz.f32 [ZSk.sg] [hq] [g9] ZpO <|
.lr 94101 [0,5,6,7] [] [gi,gi,g0,g0] [] 0 [0] [] [gi] [] Zp8 Zvr (fun n0=> .j 911401154101 [0,5,6,7,29] [] [gi,gi,g0,g0,g1] [] (Zp9 (Zp8 n0)) <|
.nil) <|
.nil
theorem ZRe:OK_ ZWq:=ok_ ZWq Tryz.func32 ⟨ZJk,tr_⟩
def ZWp:=fd_ 191 Tryz.f191 [] [gd] [go] Zxj <|
.lo 9401 [0] [] [gc] [] 0 [0] [] [gc] [] Zr7 ZyD (fun n0=> .j 9105401 [0,10] [] gy [] (ZuU (Zr7 n0)) <|
.nil) <|
.lo 94011 [0] [] [gc] [] 2 [0] [] [gc] [] Zr6 ZyC (fun n0=> .j 91054011 [0,23] [] gy [] (ZuT (Zr6 n0)) <|
.nil) <|
.nil
theorem ZRd:OK_ ZWp:=ok_ ZWp Tryz.func191
def ZWo:=fd_ 192 Tryz.f192 [] [gd] [go] ZC9 <|
.lo 941011 [3,8,9] [] [g8,g0,g0] [hx] 0 [3] [] [g8] [hx] Zr8 ZCh (fun n0=> .j 9114011541011 [3,4,8,9,23] [] [g8,g0,g0,g0,g1] [hx] (ZyF (Zr8 n0)) <|
.j 9111541011 [3,8,9] [] [g8,g0,g0] [hx] (ZyE (Zr8 n0)) <|
.nil) <|
.nil
theorem ZRc:OK_ ZWo:=ok_ ZWo Tryz.func192
def ZVh:=fd_ 193 Tryz.f193 [] [gd] [g9,go,go,g9] Ztq <|
.j 9101 [0,2,20] [] [gc,g1,g1] [] ZrG <|
.j 911 [0,2] [] gy [] ZoE <|
.lo 940111 [0,2,6] [] [gc,g1,g0] [] 0 [0,2,6] [] [gc,g1,g0] [] ZrE ZxV (fun n0=> .j 910540111 [0,2,6,41] [] [gc,g1,g0,g1] [] (ZrF (ZrE n0)) <|
.nil) <|
.j 91011111 [0,2,3,6,52] [] [gc,g1,gc,g0,g1] [] Zt8 <|
.j 91011111111 [2,3,4,76] [] ji [] Zol <|
.lr 9410111111111 [2,3,4,7] [] [g1,gc,gc,g0] [] 2 [2,3,4] [] jb [] Zqc ZBz (fun n0=> .j 914015410111111111 [2,3,4,7,92] [] [g1,gc,gc,g0,g1] [] (Zt7 (Zqc n0)) <|
.nil) <|
.nil
theorem ZNa:OK_ ZVh:=ok_ ZVh Tryz.func193
def ZWn:=fd_ 194 Tryz.f194 [] [.p .bool,gd,gd] [go] ZvL <|
.lo 9401 [0,1,2] [] jb [] 0 [0,1,2] [] jb [] Zrh Zxb (fun n0=> .j 9105401 [0,1,2,14] [] ji [] (ZtD (Zrh n0)) <|
.nil) <|
.lo 94011 [0,1,2] [] jb [] 2 [0,1,2] [] jb [] Zrg Zxa (fun n0=> .j 91054011 [0,1,2,27] [] ji [] (ZtC (Zrg n0)) <|
.nil) <|
.j 91111 [0,1] [] [g1,gc] [] ZtB <|
.j 9101111 [1,43] [] gy [] ZtA <|
.j 911111 [1] [] [gc] [] Ztz <|
.nil
theorem ZRb:OK_ ZWn:=ok_ ZWn Tryz.func194
def ZWm:=fd_ 196 Tryz.f196 [] [gd] [gb] Zq7 <|
.lr 941011 [0,3,4] [] [gc,g0,g0] [] 0 [3] [] [g0] [] ZvJ ZCA (fun n0=> .j 910401541011 [0,3,4,20] [] [gc,g0,g0,g1] [] (Zzb (ZvJ n0)) <|
.nil) <|
.nil
theorem ZRa:OK_ ZWm:=ok_ ZWm Tryz.func196
def ZVg:=fd_ 198 Tryz.f198 [] [g4] [g9] ZAk <|
.j 911 [2] [] [g1] [] ZuP <|
.nil
theorem ZM9:OK_ ZVg:=ok_ ZVg Tryz.func198
def ZWl:=fd_ 197 Tryz.f197 [ZVg.sg] [g4,g4] [gb] Zzc <|
.j 91401 [1,5] [] [g0,g1] [] Zxc <|
.j 913131401 [15] [] [g1] [] Zri <|
.nil
theorem ZQ9:OK_ ZWl:=ok_ ZWl Tryz.func197 ⟨ZM9,tr_⟩
def ZVf:=fd_ 147 Tryz.f147 [ZWl.sg,ZVg.sg] [g4,g4,g4] [gb,g9] ZAQ <|
.j 9101 [0,1,2,35] [] [g0,g0,g0,g1] [] ZpG <|
.lo 9410111 [0,1,2,8,9] [] js [] 0 [0,1,2,8] [] [g0,g0,g0,g0] [] ZvM ZCC (fun n0=> .j 9115410111 [0,1,2,8,9] [] js [] (Zze (ZvM n0)) <|
.nil) <|
.lo 94101111 [0,1,2,8,10] [] js [] 2 [2,8] [] [g0,g0] [] Zzd ZCB (fun _=> .nil) <|
.nil
theorem ZM7:OK_ ZVf:=ok_ ZVf Tryz.func147 ⟨ZQ9,ZM9,tr_⟩
def ZVe:=fd_ 146 Tryz.f146 [ZWm.sg,ZVf.sg] [gd] [gb,gb,gb,g9] ZAl <|
.j 9104011 [0,9] [] gy [] ZyB <|
.j 914011 [0,9] [] gy [] ZuQ <|
.j 91314011 [0,35] [] gy [] ZyA <|
.j 9111 [2,3,4] [] [g0,g0,g0] [] Zyz <|
.nil
theorem ZM6:OK_ ZVe:=ok_ ZVe Tryz.func146 ⟨ZRa,ZM7,tr_⟩
def ZWk:=fd_ 195 Tryz.f195 [] [g4,g4] [go] ZvK <|
.lo 94011 [0,1,5] [] [g0,g0,gc] [] 0 [5] [] [gc] [] Zw9 ZA3 (fun _=> .nil) <|
.nil
theorem ZQ8:OK_ ZWk:=ok_ ZWk Tryz.func195
def ZWj:=fd_ 145 Tryz.f145 [ZWp.sg,ZWo.sg,ZVh.sg,ZWn.sg,ZVe.sg,ZWk.sg] [g4,gd] [go,g9] ZtE <|
.j 9141213141011 [24,25] [] gy [] Zvq <|
.j 913141213141011 [28] [] [g1] [] Zvp <|
.j 91313141011 [0,6,17,31] [] [g0,gc,g0,g1] [] ZrP <|
.j 91121313141011 [7,8,9,49] [] ji [] Zp5 <|
.j 9111 [] [] [] [] Zp4 <|
.nil
theorem ZQ7:OK_ ZWj:=ok_ ZWj Tryz.func145 ⟨ZRd,ZRc,ZNa,ZRb,ZM6,ZQ8,tr_⟩
def ZWi:=fd_ 153 Tryz.f153 [D1.sg] [ge,ge] [gr] Zyh <|
.lo 941011 [0,1,5,6] [] [g5,g5,g8,g0] [g3] 0 [5] [] [g8] [g3] ZsL Zzg (fun n0=> .lo 94101401541011 [0,1,5,6,7,8] [] [g5,g5,g8,g0,ga,g0] [g3] 2 [0,1,5,6,7] [] [g5,g5,g8,g0,ga] [g3] ZvP (Zzh (ZsL n0)) (fun _=> .nil) <|
.nil) <|
.nil
theorem ZQ6:OK_ ZWi:=ok_ ZWi Tryz.func153 ⟨ZLY,tr_⟩
def ZUY:=fd_ 96 Tryz.f96 [ZWi.sg,D2.sg] [gl,gl] [h7] ZnS .nil
theorem ZKK:OK_ ZUY:=ok_ ZUY Tryz.func96 ⟨ZQ6,ZM4,tr_⟩
def ZWh:=fd_ 151 Tryz.f151 [] [ge,ge] [.own (.int .u32)] Zu5 <|
.lo 9410111 [0,1,5,6,7] [] jt [g3] 0 [5,6] [] [g8,ga] [g3] ZpH Zzp (fun n0=> .j 9105410111 [0,1,5,6,7,17] [] [g5,g5,g8,ga,g0,g1] [g3] (Zq6 (ZpH n0)) <|
.j 914015410111 [0,1,5,6,7] [] jt [g3] (ZsP (ZpH n0)) <|
.j 9114015410111 [0,1,5,6,7] [] jt [g3] (ZsO (ZpH n0)) <|
.nil) <|
.nil
theorem ZQ5:OK_ ZWh:=ok_ ZWh Tryz.func151
def ZUX:=fd_ 95 Tryz.f95 [ZWh.sg,D2.sg,D6.sg,D7.sg] [gl,gl] [h7] ZqA .nil
theorem ZKJ:OK_ ZUX:=ok_ ZUX Tryz.func95 ⟨ZQ5,ZM4,ZOr,ZQP,tr_⟩
def ZUW:=fd_ 97 Tryz.f97 [D2.sg] [gl] [h7] Zqd .nil
theorem ZKI:OK_ ZUW:=ok_ ZUW Tryz.func97 ⟨ZM4,tr_⟩
def ZWg:=fd_ 148 Tryz.f148 [ZVh.sg,D3.sg,ZUY.sg,ZUX.sg,ZUW.sg,D12.sg] [gd] [gh,g9] ZuW <|
.lo 94101111 [2,4,6,8,9,27,28,29] [100008] [g2,g1,gc,g7,gp,.o (.full (0,4,1)),g0,g0] [jl,gx,gx,hx,g3,g3] 0 [2,4,6,8,9] [] [g2,g1,gc,g7,gp] jr Zs9 ZwM (fun _=> .nil) <|
.lo 941011111 [2,4,8,9,43] [] [g2,g1,g7,gp,.o (.it (0,4,1))] [jl,gx,gx,.sit,g3,g3] 2 [2,4,8,9] [] [g2,g1,g7,gp] jr ZqY ZwL (fun n0=> .j 91541011111 [2,4,8,9,43,45] [] [g2,g1,g7,gp,.o (.it (0,4,1)),g1] [jl,gx,gx,.sit,g3,g3] (Ztb (ZqY n0)) <|
.nil) <|
.j 91111111 [2,8,9] [] [g2,g7,gp] jr Zta <|
.nil
theorem ZQ4:OK_ ZWg:=ok_ ZWg Tryz.func148 ⟨ZNa,ZQQ,ZKK,ZKJ,ZKI,ZNe,tr_⟩
def ZWf:=fd_ 92 Tryz.f92 [ZWj.sg,ZVe.sg,ZVf.sg,ZWg.sg,D14.sg] [g4,gd] [gh,g9] Zwl <|
.j 91011 [0,4,6,26] [] [g0,g2,gc,g1] h6 ZtW <|
.j 911111 [4,8] [] [g2,g0] h6 ZtV <|
.nil
theorem ZQ3:OK_ ZWf:=ok_ ZWf Tryz.func92 ⟨ZQ7,ZM6,ZM7,ZQ4,ZPh,tr_⟩
def ZWe:=fd_ 64 Tryz.f64 [ZWf.sg] [j4] [gh,g9] ZvI .nil
theorem ZQ2:OK_ ZWe:=ok_ ZWe Tryz.func64 ⟨ZQ3,tr_⟩
def ZVd:=fd_ 93 Tryz.f93 [D4.sg,D6.sg,D9.sg] [gg] [g9] Zpg <|
.j 9101 [1,24] [] [g2,g1] [gn] Zqa <|
.nil
theorem ZM5:OK_ ZVd:=ok_ ZVd Tryz.func93 ⟨ZUC,ZOr,ZUb,tr_⟩
def ZWd:=fd_ 67 Tryz.f67 [ZVd.sg,ZUY.sg,ZUW.sg,ZUX.sg] [gg,gg] [gb] Zyj <|
.j 9101 [2,3,13] [] j1 [gn,gn] ZvV <|
.nil
theorem ZQ1:OK_ ZWd:=ok_ ZWd Tryz.func67 ⟨ZM5,ZKK,ZKI,ZKJ,tr_⟩
def ZQ0:=fd_ 36 Tryz.f36 [ZWd.sg] [gg,gg] [g9] Zok .nil
theorem ZIu:OK_ ZQ0:=ok_ ZQ0 Tryz.func36 ⟨ZQ1,tr_⟩
def ZWc:=fd_ 33 Tryz.f33 [ZWe.sg,ZQ0.sg] [jc] [.own (.st 4)] Zr4 <|
.lo 941011 [3,10,11,12] [] jk [gw] 0 [3] [] [g8] [gw] Zpy ZwD (fun n0=> .lo 94011114011541011 [3,6,8,10,11,12] [] [g8,g7,g0,hj,g0,g0] [gw,gn] 2 [3,6,8,10,11,12] [] [g8,g7,g0,hj,g0,g0] [gw,gn] ZqV (ZwE (Zpy n0)) (fun n1=> .j 91054011114011541011 [3,6,8,10,11,12,35] [] [g8,g7,g0,hj,g0,g0,g1] [gw,gn] (Zs4 (ZqV n1)) <|
.nil) <|
.j 9111541011 [3,10,11,12] [] jk [gw] (ZqW (Zpy n0)) <|
.nil) <|
.nil
theorem ZQZ:OK_ ZWc:=ok_ ZWc Tryz.func33 ⟨ZQ2,ZIu,tr_⟩
def ZUU:=fd_ 37 Tryz.f37 [D16.sg] [] [gh] Zqy .nil
theorem ZKH:OK_ ZUU:=ok_ ZUU Tryz.func37 ⟨ZM8,tr_⟩
def ZWb:=fd_ 94 Tryz.f94 [D12.sg] [gl,gl] [gh,gb] ZvO <|
.j 91011 [4,6,21] [] j1 j0 ZtI <|
.nil
theorem ZQY:OK_ ZWb:=ok_ ZWb Tryz.func94 ⟨ZNe,tr_⟩
def ZWa:=fd_ 66 Tryz.f66 [ZVd.sg,ZUY.sg,ZUW.sg,ZUX.sg,ZWb.sg] [gg,gg] [gh,gb] Zu6 <|
.j 9101 [2,3,4,13] [] [g2,g7,gp,g1] [gn,gn,hn,g3,g3] ZvU <|
.nil
theorem ZQX:OK_ ZWa:=ok_ ZWa Tryz.func66 ⟨ZM5,ZKK,ZKI,ZKJ,ZQY,tr_⟩
def ZUT:=fd_ 35 Tryz.f35 [ZWa.sg] [gg,gg] [gh] ZpX .nil
theorem ZKG:OK_ ZUT:=ok_ ZUT Tryz.func35 ⟨ZQX,tr_⟩
def ZV9:=fd_ 65 Tryz.f65 [ZUU.sg,ZQ0.sg,ZUT.sg] [gg] [gh] Zyg .nil
theorem ZQW:OK_ ZV9:=ok_ ZV9 Tryz.func65 ⟨ZKH,ZIu,ZKG,tr_⟩
def ZV8:=fd_ 34 Tryz.f34 [ZUU.sg,ZQ0.sg,D15.sg,ZUT.sg,ZV9.sg] [j3,j3] [gh,gb] Zp3 <|
.j 9101 [0,1,4,18] [] [gf,gf,g2,g1] h6 Zqt <|
.lo 9401111 [0,1,4,6,7,8] [] [gf,gf,g2,g7,g0,g0] j0 0 [4,6] [] hm j0 ZnZ Zv3 (fun n0=> .j 9105401111 [0,1,4,6,7,8,30] [] [gf,gf,g2,g7,g0,g0,g1] j0 (Zss (ZnZ n0)) <|
.j 9101415401111 [0,1,4,6,7,8,9,51] [] jn [hn,gn,.box [.o (.v .bool),.o (.full (0,6,1)),.o (.v .bool),.o (.full (0,7,1))],g3,g3,g3,g3] (Zqs (ZnZ n0)) <|
.j 911415401111 [0,1,4,6,7,8,9] [] jg hz (Zqr (ZnZ n0)) <|
.lo 94011415401111 [0,1,4,6,7,8,9] [] jg hz 2 [0,1,4,6,7,8,9] [] jg hz Zpe (Zv5 (ZnZ n0)) (fun n1=> .j 91054011415401111 [0,1,4,6,7,8,9,72] [] jn hz (Zsr (Zpe n1)) <|
.nil) <|
.lo 940111415401111 [0,1,4,6,7,8,9] [] jg hz 4 [0,1,4,6,7,8] [] [gf,gf,g2,g7,g0,g0] j0 Zpd (Zv4 (ZnZ n0)) (fun n1=> .j 910540111415401111 [0,1,4,6,7,8,9,87] [] jn hz (Zsq (Zpd n1)) <|
.nil) <|
.nil) <|
.nil
theorem ZQV:OK_ ZV8:=ok_ ZV8 Tryz.func34 ⟨ZKH,ZIu,ZNb,ZKG,ZQW,tr_⟩
def ZV7:=fd_ 68 Tryz.f68 [] [j5,j5] [g9] Zxg <|
.j 911 [4] [] [g1] [] Zr5 <|
.nil
theorem ZQU:OK_ ZV7:=ok_ ZV7 Tryz.func68
def ZV6:=fd_ 38 Tryz.f38 [ZQ0.sg,D65.sg,ZV7.sg] [ju,.p (.st 10)] [.own (.st 10)] Zyf <|
.lo 94011 [0,3,5] [] [ho,g2,g0] [.boxS (.st 10)] 0 [0,3,5] [] [ho,g2,g0] [.boxS (.st 10)] ZsI Zza (fun n0=> .j 91054011 [0,3,5,42] [] [ho,g2,g0,g1] [.boxS (.st 10)] (Zo1 (ZsI n0)) <|
.nil) <|
.nil
theorem ZQT:OK_ ZV6:=ok_ ZV6 Tryz.func38 ⟨ZIu,ZMZ,ZQU,tr_⟩
def ZV5:=fd_ 11 Tryz.f11 [ZWq.sg,ZWc.sg,ZV8.sg,D16.sg,ZUT.sg,ZUU.sg,ZQ0.sg,ZV6.sg] [hq,jc,g4] [.p (.sl (.st 10)),gb] ZpW <|
.j 91401 [0,2,4,17] [] jj [hc] ZpF <|
.j 9131401 [0,2,4,24] [] jj [hc] ZsH <|
.lo 94101111 [2,8,9,36,37,38] [9] [g0,g8,gf,gi,g0,g0] [g6] 1 [2,8] [] [g0,g8] [g6] ZsG Zy8 (fun n0=> .lo 9411401154101111 [2,8,9,11,36,37,38,43,44,45] [9] k2 [g6,gj] 3 [2,8,9,36,37,38] [] [g0,g8,gf,gi,g0,g0] [g6] ZpE (Zy9 (ZsG n0)) (fun n1=> .j 9111140115411401154101111 [2,8,9,11,12,16,36,37,38,43,44,45,66] [] [g0,g8,gf,g7,g0,gp,gi,g0,g0,gv,g0,g0,g1] [g6,gj,gn] (ZvH (ZpE n1)) <|
.j 91115411401154101111 [2,8,9,11,36,37,38,43,44,45] [] k2 [g6,gj] (ZvG (ZpE n1)) <|
.nil) <|
.nil) <|
.nil
theorem ZQS:OK_ ZV5:=ok_ ZV5 Tryz.func11 ⟨ZRe,ZQZ,ZQV,ZM8,ZKG,ZKH,ZIu,ZQT,tr_⟩
def ZV4:=fd_ 12 Tryz.f12 [D65.sg] [ju,ju] [g9] ZtU <|
.lr 941011 [1,12,13,14] [] [ho,ho,g0,g0] [] 0 [] [] [] [] Zqq Zv2 (fun n0=> .j 9114011541011 [1,12,13,14,37] [] [ho,ho,g0,g0,g1] [] (Zsp (Zqq n0)) <|
.nil) <|
.nil
theorem ZQR:OK_ ZV4:=ok_ ZV4 Tryz.func12 ⟨ZMZ,tr_⟩
def D197:=fd_ 3 Tryz.f3 [D0.sg,D92.sg,D93.sg,ZW2.sg,ZVp.sg,D94.sg,ZWr.sg,ZV5.sg,ZV4.sg] [j2,g4,hq] [g9] Zwc <|
.j 9101 [0,1,2,29] [] [gm,g0,gi,g1] [] Zrn <|
.lr 941011 [0,1,2,31,32,33] [] [gm,g0,gi,gi,g0,g0] [] 0 [0,1,2] [] [gm,g0,gi] [] ZoM Zub (fun n0=> .lr 941114011541011 [0,1,2,31,32,33,43,44,45] [] [gm,g0,gi,gi,g0,g0,gv,g0,g0] [] 2 [0,1,2,31,32,33] [] [gm,g0,gi,gi,g0,g0] [] ZpA (Zuc (ZoM n0)) (fun _=> .nil) <|
.nil) <|
.lr 941011111 [1,13,75,76,77] [] [g0,g2,hk,g0,g0] [hc,je] 4 [] [] [] [] ZoL Zt9 (fun n0=> .lr 94114011541011111 [1,13,15,75,76,77,87,88,89] [] [g0,g2,gi,hk,g0,g0,h8,g0,g0] [hc,je,hg] 6 [1,13,75,76,77] [] [g0,g2,hk,g0,g0] [hc,je] ZoK (Zua (ZoL n0)) (fun n1=> .j 91111401154114011541011111 [1,13,15,75,76,77,87,88,89,115] [] [g0,g2,gi,hk,g0,g0,h8,g0,g0,g1] [hc,je,hg] (Zrm (ZoK n1)) <|
.nil) <|
.nil) <|
.nil
theorem D197_ok:OK_ D197:=ok_ D197 Tryz.func3 ⟨ZXh,ZUf,ZUe,ZRQ,ZNk,ZOT,ZRf,ZQS,ZQR,tr_⟩
end
end Go.Proofs

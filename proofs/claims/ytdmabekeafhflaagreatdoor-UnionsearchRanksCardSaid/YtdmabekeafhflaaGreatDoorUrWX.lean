/- A walk's equation with its right sides told outright: the kernel then needs not compare one long tuple's parts with another's. -/
import Derived.Test.YtdmabekeafhflaaGreatDoorE5
set_option linter.unusedVariables false
set_option linter.unusedSimpArgs false
set_option linter.unusedSectionVars false
namespace Eng
open Go
section
variable {U:Zd} {r:List Type} {X:Type}
abbrev ap1:(s:Sh1)→ZjA (lv1 U s r) X→Znm U s→ZjA r X
 | .v _,f,x=>f x
 | .pp _,f,x=>f x
 | .full _,f,_=>f
 | .sl _,f,x=>f x.1 x.2
 | .ptr _ _ _,f,_=>f
 | .ptrI _ _,f,x=>f x
 | .map _,f,_=>f
 | .it _,f,_=>f
 | .nilp,f,_=>f
 | .nilfn,f,_=>f
 | .undef,f,_=>f
 | .nils _,f,_=>f
 | .clip _,f,x=>f x
 | .rp _ _,f,x=>f x
abbrev ZQA:(l:List Sh1)→ZjA (lvs1 U l r) X→Zg4 U l→ZjA r X
 | [],f,_=>f
 |s::l,f,x=>ZQA l (ap1 (r:=lvs1 U l r) s f x.1) x.2
abbrev apS:(s:Sh)→ZjA (lvS U s r) X→Val U s→ZjA r X
 | .o s,f,x=>ap1 s f x
 | .agg l,f,x=>ZQA l f x
 | .fn _ a b,f,x=>ZQA b (ZQA (r:=lvs1 U b r) a f x.1) x.2
abbrev aps:(l:List Sh)→ZjA (lvs U l r) X→Zcn U l→ZjA r X
 | [],f,_=>f
 |s::l,f,x=>aps l (apS (r:=lvs U l r) s f x.1) x.2
abbrev apO:(s:ShO)→ZjA (lvO U s r) X→ValO U s→ZjA r X
 | .box l,f,x=>aps l f x
 | .boxS _,f,x=>f x
 | .arr _ _,f,x=>f x
 | .map _ _,f,x=>f x
 | .sit,f,x=>f x.1 x.2
 | .mit _ _,f,x=>f x.1 x.2
 | .own _ _ _,f,x=>f x.1 x.2
abbrev ZSO:(l:List ShO)→ZjA (lvsO U l r) X→Zal U l→ZjA r X
 | [],f,_=>f
 |s::l,f,x=>ZSO l (apO (r:=lvsO U l r) s f x.1) x.2
abbrev ZMU (shs:List Sh) (sho:List ShO) (f:ZjA (lvQ U shs sho) X) (v:Zcn U shs) (w:Zal U sho):X:=ZSO (r:=[]) sho (aps (r:=lvsO U sho []) shs f v) w
theorem ZMm (s:Sh1) (f:ZjA (lv1 U s r) X) (x:Znm U s) (y:HL r):app (lv1 U s r) f (fl1 s x y)=app r (ap1 s f x) y:=by cases s<;>rfl
theorem ZGA:∀(l:List Sh1) (f:ZjA (lvs1 U l r) X) (x:Zg4 U l) (y:HL r),app (lvs1 U l r) f (fls1 l x y)=app r (ZQA l f x) y
 | [],_,_,_=>rfl
 |s::l,f,x,y=>(ZMm (r:=lvs1 U l r) s f x.1 (fls1 l x.2 y)).trans (ZGA l (ap1 (r:=lvs1 U l r) s f x.1) x.2 y)
theorem ZQB (s:Sh) (f:ZjA (lvS U s r) X) (x:Val U s) (y:HL r):app (lvS U s r) f (flS s x y)=app r (apS s f x) y:=by
 cases s with
 |o s=>exact ZMm s f x y
 |agg l=>exact ZGA l f x y
 |fn q a b=>exact(ZGA (r:=lvs1 U b r) a f x.1 (fls1 b x.2 y)).trans (ZGA b _ x.2 y)
theorem ZKF:∀(l:List Sh) (f:ZjA (lvs U l r) X) (x:Zcn U l) (y:HL r),app (lvs U l r) f (fls l x y)=app r (aps l f x) y
 | [],_,_,_=>rfl
 |s::l,f,x,y=>(ZQB (r:=lvs U l r) s f x.1 (fls l x.2 y)).trans (ZKF l (apS (r:=lvs U l r) s f x.1) x.2 y)
theorem ZQC (s:ShO) (f:ZjA (lvO U s r) X) (x:ValO U s) (y:HL r):app (lvO U s r) f (flO s x y)=app r (apO s f x) y:=by
 cases s with
 |box l=>exact ZKF l f x y
 |_=>rfl
theorem ZKG:∀(l:List ShO) (f:ZjA (lvsO U l r) X) (x:Zal U l) (y:HL r),app (lvsO U l r) f (flsO l x y)=app r (ZSO l f x) y
 | [],_,_,_=>rfl
 |s::l,f,x,y=>(ZQC (r:=lvsO U l r) s f x.1 (flsO l x.2 y)).trans (ZKG l (apO (r:=lvsO U l r) s f x.1) x.2 y)
theorem ZGi (shs:List Sh) (sho:List ShO) (f:ZjA (lvQ U shs sho) X):ZMU shs sho f=fun v w=>unc shs sho f v w:=by funext v w;exact((ZKF (r:=lvsO U sho []) shs f v (flsO (r:=[]) sho w ())).trans (ZKG (r:=[]) sho _ w ())).symm
end
variable {U:Zd} {ρ:Type}
abbrev CT.rhs2:{R:Type}→(t:CT U ρ R)→t.Ty
 |_,.nil=>()
 |_,.j _ _ _ shs sho f k=>(true,ZMU shs sho f,k.rhs2)
 |_,.lo _ _ _ shs sho _ _ _ xshs xsho hd af body k=>(true,fun _ _=>none,fun n=>ZMU shs sho (hd (n+1)),fun n=>(body n).rhs2,ZMU xshs xsho af,k.rhs2)
 |_,.lr _ _ _ shs sho _ _ _ xshs xsho hd af body k=>(true,fun _ _=>none,fun n=>ZMU shs sho (hd (n+1)),fun n=>(body n).rhs2,ZMU xshs xsho af,k.rhs2)
 |_,.lz _ _ _ shs sho hd body k=>(true,fun _ _=>none,fun n=>ZMU shs sho (hd (n+1)),fun n=>(body n).rhs2,k.rhs2)
theorem CT.rhs2_eq:∀{R:Type} (t:CT U ρ R),t.rhs2=t.rhs
 |_,.nil=>rfl
 |_,.j _ _ _ shs sho f k=>by have h:=rhs2_eq k;simp only[CT.rhs2,CT.rhs,ZGi,h]
 |_,.lo _ _ _ shs sho _ _ _ xshs xsho hd af body k=>by
  have h:=rhs2_eq k;have hb:(fun n=>(body n).rhs2)=fun n=>(body n).rhs:=funext fun n=>rhs2_eq (body n)
  simp only[CT.rhs2,CT.rhs,ZGi,h,hb]
 |_,.lr _ _ _ shs sho _ _ _ xshs xsho hd af body k=>by
  have h:=rhs2_eq k;have hb:(fun n=>(body n).rhs2)=fun n=>(body n).rhs:=funext fun n=>rhs2_eq (body n)
  simp only[CT.rhs2,CT.rhs,ZGi,h,hb]
 |_,.lz _ _ _ shs sho hd body k=>by
  have h:=rhs2_eq k;have hb:(fun n=>(body n).rhs2)=fun n=>(body n).rhs:=funext fun n=>rhs2_eq (body n)
  simp only[CT.rhs2,CT.rhs,ZGi,h,hb]
abbrev FD.rhs2 (D:FD U):D.Ty:=(true,fun _=>true,fun v=>app (Zke U D.as []) D.s (Zl8 (r:=[]) D.as v ()),D.t.rhs2)
theorem FD.rhs2_eq (D:FD U):D.rhs2=D.rhs:=by simp only[FD.rhs2,FD.rhs,CT.rhs2_eq]
theorem FD.ok2 {X0:ZG U} (G:Gnd X0) (D:FD U) (hf:X0.prog.funcs[D.f]? =some D.fn) (hs:Zdd X0 D.sigs) (ha:D.os.any (fun x=>isAr x.2)=false) (hw:D.w=D.s) (h:D.lhs X0=D.rhs2):Zez X0.E D.f D.sig:=
 D.ok G hf hs ha hw (h.trans D.rhs2_eq)
theorem FD.okA2 {X0:ZG U} (G:Gnd X0) (D:FD U) (hf:X0.prog.funcs[D.f]? =some D.fn) (hs:Zdd X0 D.sigs)
  (hw:(fun v=>app (Zke U D.as []) D.w (Zl8 (r:=[]) D.as v ()))=fun v=>(app (Zke U D.as []) D.s (Zl8 (r:=[]) D.as v ())).bind fun r=>chk (Zid (Zdr D.as v) (D.b r)) (some r)) (h:D.lhs X0=D.rhs2):Zez X0.E D.f D.sig:=
 D.okA G hf hs hw (h.trans D.rhs2_eq)
theorem ZAU {car:Nat→Type} {T:Ty} {c:Lf car} {X:Type} {f:El car T→Option X} {x:X} (h:(c.as T).bind f=some x):∃a,c=⟨T,a⟩∧f a=some x:=by obtain⟨a,h0,h⟩:=bind_some h;exact⟨a,as_car h0,h⟩
end Eng

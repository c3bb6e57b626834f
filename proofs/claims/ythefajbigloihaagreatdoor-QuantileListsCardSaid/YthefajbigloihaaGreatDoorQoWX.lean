/- A walk's equation with its right sides told outright: the kernel then needs not compare one long tuple's parts with another's. -/
import Derived.Test.YthefajbigloihaaGreatDoorE4
set_option linter.unusedVariables false
set_option linter.unusedSimpArgs false
set_option linter.unusedSectionVars false
namespace Eng
open Go
section
variable {U:Zc} {r:List Type} {X:Type}
abbrev ap1:(s:Sh1)→ZiX (lv1 U s r) X→Zmm U s→ZiX r X
 | .v _,f,x=>f x
 | .pp _,f,x=>f x
 | .full _,f,_=>f
 | .sl _,f,x=>f x.1 x.2
 | .ptr _ _ _,f,_=>f
 | .ptrI _ _,f,x=>f x
 | .map _,f,_=>f
 | .it _,f,_=>f
 | .nilp,f,_=>f
 | .nilfn,f,_=>f
 | .undef,f,_=>f
 | .nils _,f,_=>f
 | .clip _,f,x=>f x
abbrev ZL2:(l:List Sh1)→ZiX (lvs1 U l r) X→ZgC U l→ZiX r X
 | [],f,_=>f
 |s::l,f,x=>ZL2 l (ap1 (r:=lvs1 U l r) s f x.1) x.2
abbrev apS:(s:Sh)→ZiX (lvS U s r) X→Val U s→ZiX r X
 | .o s,f,x=>ap1 s f x
 | .agg l,f,x=>ZL2 l f x
 | .fn _ a b,f,x=>ZL2 b (ZL2 (r:=lvs1 U b r) a f x.1) x.2
abbrev aps:(l:List Sh)→ZiX (lvs U l r) X→Zb7 U l→ZiX r X
 | [],f,_=>f
 |s::l,f,x=>aps l (apS (r:=lvs U l r) s f x.1) x.2
abbrev apO:(s:ShO)→ZiX (lvO U s r) X→ValO U s→ZiX r X
 | .box l,f,x=>aps l f x
 | .boxS _,f,x=>f x
 | .arr _ _,f,x=>f x
 | .map _ _,f,x=>f x
 | .sit,f,x=>f x.1 x.2
 | .mit _ _,f,x=>f x.1 x.2
abbrev ZNK:(l:List ShO)→ZiX (lvsO U l r) X→Zaf U l→ZiX r X
 | [],f,_=>f
 |s::l,f,x=>ZNK l (apO (r:=lvsO U l r) s f x.1) x.2
abbrev ZI1 (shs:List Sh) (sho:List ShO) (f:ZiX (lvQ U shs sho) X) (v:Zb7 U shs) (w:Zaf U sho):X:=ZNK (r:=[]) sho (aps (r:=lvsO U sho []) shs f v) w
theorem ZIA (s:Sh1) (f:ZiX (lv1 U s r) X) (x:Zmm U s) (y:HL r):app (lv1 U s r) f (fl1 s x y)=app r (ap1 s f x) y:=by cases s<;>rfl
theorem ZE2:∀(l:List Sh1) (f:ZiX (lvs1 U l r) X) (x:ZgC U l) (y:HL r),app (lvs1 U l r) f (fls1 l x y)=app r (ZL2 l f x) y
 | [],_,_,_=>rfl
 |s::l,f,x,y=>(ZIA (r:=lvs1 U l r) s f x.1 (fls1 l x.2 y)).trans (ZE2 l (ap1 (r:=lvs1 U l r) s f x.1) x.2 y)
theorem ZL3 (s:Sh) (f:ZiX (lvS U s r) X) (x:Val U s) (y:HL r):app (lvS U s r) f (flS s x y)=app r (apS s f x) y:=by
 cases s with
 |o s=>exact ZIA s f x y
 |agg l=>exact ZE2 l f x y
 |fn q a b=>exact(ZE2 (r:=lvs1 U b r) a f x.1 (fls1 b x.2 y)).trans (ZE2 b _ x.2 y)
theorem ZHc:∀(l:List Sh) (f:ZiX (lvs U l r) X) (x:Zb7 U l) (y:HL r),app (lvs U l r) f (fls l x y)=app r (aps l f x) y
 | [],_,_,_=>rfl
 |s::l,f,x,y=>(ZL3 (r:=lvs U l r) s f x.1 (fls l x.2 y)).trans (ZHc l (apS (r:=lvs U l r) s f x.1) x.2 y)
theorem ZL4 (s:ShO) (f:ZiX (lvO U s r) X) (x:ValO U s) (y:HL r):app (lvO U s r) f (flO s x y)=app r (apO s f x) y:=by
 cases s with
 |box l=>exact ZHc l f x y
 |_=>rfl
theorem ZHd:∀(l:List ShO) (f:ZiX (lvsO U l r) X) (x:Zaf U l) (y:HL r),app (lvsO U l r) f (flsO l x y)=app r (ZNK l f x) y
 | [],_,_,_=>rfl
 |s::l,f,x,y=>(ZL4 (r:=lvsO U l r) s f x.1 (flsO l x.2 y)).trans (ZHd l (apO (r:=lvsO U l r) s f x.1) x.2 y)
theorem ZEN (shs:List Sh) (sho:List ShO) (f:ZiX (lvQ U shs sho) X):ZI1 shs sho f=fun v w=>unc shs sho f v w:=by funext v w;exact((ZHc (r:=lvsO U sho []) shs f v (flsO (r:=[]) sho w ())).trans (ZHd (r:=[]) sho _ w ())).symm
end
variable {U:Zc} {ρ:Type}
abbrev CT.rhs2:{R:Type}→(t:CT U ρ R)→t.Ty
 |_,.nil=>()
 |_,.j _ _ _ shs sho f k=>(true,ZI1 shs sho f,k.rhs2)
 |_,.lo _ _ _ shs sho _ _ _ xshs xsho hd af body k=>(true,fun _ _=>none,fun n=>ZI1 shs sho (hd (n+1)),fun n=>(body n).rhs2,ZI1 xshs xsho af,k.rhs2)
 |_,.lr _ _ _ shs sho _ _ _ xshs xsho hd af body k=>(true,fun _ _=>none,fun n=>ZI1 shs sho (hd (n+1)),fun n=>(body n).rhs2,ZI1 xshs xsho af,k.rhs2)
 |_,.lz _ _ _ shs sho hd body k=>(true,fun _ _=>none,fun n=>ZI1 shs sho (hd (n+1)),fun n=>(body n).rhs2,k.rhs2)
theorem CT.rhs2_eq:∀{R:Type} (t:CT U ρ R),t.rhs2=t.rhs
 |_,.nil=>rfl
 |_,.j _ _ _ shs sho f k=>by have h:=rhs2_eq k;simp only[CT.rhs2,CT.rhs,ZEN,h]
 |_,.lo _ _ _ shs sho _ _ _ xshs xsho hd af body k=>by
  have h:=rhs2_eq k;have hb:(fun n=>(body n).rhs2)=fun n=>(body n).rhs:=funext fun n=>rhs2_eq (body n)
  simp only[CT.rhs2,CT.rhs,ZEN,h,hb]
 |_,.lr _ _ _ shs sho _ _ _ xshs xsho hd af body k=>by
  have h:=rhs2_eq k;have hb:(fun n=>(body n).rhs2)=fun n=>(body n).rhs:=funext fun n=>rhs2_eq (body n)
  simp only[CT.rhs2,CT.rhs,ZEN,h,hb]
 |_,.lz _ _ _ shs sho hd body k=>by
  have h:=rhs2_eq k;have hb:(fun n=>(body n).rhs2)=fun n=>(body n).rhs:=funext fun n=>rhs2_eq (body n)
  simp only[CT.rhs2,CT.rhs,ZEN,h,hb]
abbrev FD.rhs2 (D:FD U):D.Ty:=(true,fun _=>true,fun v=>app (Zjz U D.as []) D.s (Zla (r:=[]) D.as v ()),D.t.rhs2)
theorem FD.rhs2_eq (D:FD U):D.rhs2=D.rhs:=by simp only[FD.rhs2,FD.rhs,CT.rhs2_eq]
theorem FD.ok2 {X0:ZG U} (G:Gnd X0) (D:FD U) (hf:X0.prog.funcs[D.f]? =some D.fn) (hs:ZcX X0 D.sigs) (ha:D.os.any (fun x=>isAr x.2)=false) (hw:D.w=D.s) (h:D.lhs X0=D.rhs2):Zeg X0.E D.f D.sig:=
 D.ok G hf hs ha hw (h.trans D.rhs2_eq)
end Eng

/- A walk's equation with its right sides told outright: the kernel then needs not compare one long tuple's parts with another's. -/
import Derived.Test.YtcjejmbjlhlkhaaGreatDoorE4
set_option linter.all false
namespace Eng
open Go
section
variable {U:Zc} {r:List Type} {X:Type}
abbrev ap1:(s:Sh1)->Zi3 (lv1 U s r) X->Zmv U s->Zi3 r X
 | .v _,f,x=>f x
 | .pp _,f,x=>f x
 | .full _,f,_=>f
 | .sl _,f,x=>f x.1 x.2
 | .ptr _ _ _,f,_=>f
 | .ptrI _ _,f,x=>f x
 | .map _,f,_=>f
 | .it _,f,_=>f
 | .nilp,f,_=>f
 | .nilfn,f,_=>f
 | .undef,f,_=>f
 | .nils _,f,_=>f
 | .clip _,f,x=>f x
abbrev ZZe:(l:List Sh1)->Zi3 (lvs1 U l r) X->ZgH U l->Zi3 r X
 | [],f,_=>f
 |s::l,f,x=>ZZe l (ap1 (r:=lvs1 U l r) s f x.1) x.2
abbrev apS:(s:Sh)->Zi3 (lvS U s r) X->Val U s->Zi3 r X
 | .o s,f,x=>ap1 s f x
 | .agg l,f,x=>ZZe l f x
 | .fn _ a b,f,x=>ZZe b (ZZe (r:=lvs1 U b r) a f x.1) x.2
abbrev aps:(l:List Sh)->Zi3 (lvs U l r) X->Zb8 U l->Zi3 r X
 | [],f,_=>f
 |s::l,f,x=>aps l (apS (r:=lvs U l r) s f x.1) x.2
abbrev apO:(s:ShO)->Zi3 (lvO U s r) X->ValO U s->Zi3 r X
 | .box l,f,x=>aps l f x
 | .boxS _,f,x=>f x
 | .arr _ _,f,x=>f x
 | .map _ _,f,x=>f x
 | .sit,f,x=>f x.1 x.2
 | .mit _ _,f,x=>f x.1 x.2
abbrev Z2c:(l:List ShO)->Zi3 (lvsO U l r) X->Zag U l->Zi3 r X
 | [],f,_=>f
 |s::l,f,x=>Z2c l (apO (r:=lvsO U l r) s f x.1) x.2
abbrev ZUo (b:List Sh) (a:List ShO) (f:Zi3 (lvQ U b a) X) (v:Zb8 U b) (w:Zag U a):X:=Z2c (r:=[]) a (aps (r:=lvsO U a []) b f v) w
theorem ZTJ (s:Sh1) (f:Zi3 (lv1 U s r) X) (x:Zmv U s) (y:HL r):app (lv1 U s r) f (fl1 s x y)=app r (ap1 s f x) y:=by cases s<;>rfl
theorem ZMO:∀(l:List Sh1) (f:Zi3 (lvs1 U l r) X) (x:ZgH U l) (y:HL r),app (lvs1 U l r) f (fls1 l x y)=app r (ZZe l f x) y
 | [],_,_,_=>rfl
 |s::l,f,x,y=>(ZTJ (r:=lvs1 U l r) s f x.1 (fls1 l x.2 y)).trans (ZMO l (ap1 (r:=lvs1 U l r) s f x.1) x.2 y)
theorem ZZf (s:Sh) (f:Zi3 (lvS U s r) X) (x:Val U s) (y:HL r):app (lvS U s r) f (flS s x y)=app r (apS s f x) y:=by
 cases s with
 |o s=>exact ZTJ s f x y
 |agg l=>exact ZMO l f x y
 |fn q a b=>exact(ZMO (r:=lvs1 U b r) a f x.1 (fls1 b x.2 y)).trans (ZMO b _ x.2 y)
theorem ZRl:∀(l:List Sh) (f:Zi3 (lvs U l r) X) (x:Zb8 U l) (y:HL r),app (lvs U l r) f (fls l x y)=app r (aps l f x) y
 | [],_,_,_=>rfl
 |s::l,f,x,y=>(ZZf (r:=lvs U l r) s f x.1 (fls l x.2 y)).trans (ZRl l (apS (r:=lvs U l r) s f x.1) x.2 y)
theorem ZZg (s:ShO) (f:Zi3 (lvO U s r) X) (x:ValO U s) (y:HL r):app (lvO U s r) f (flO s x y)=app r (apO s f x) y:=by
 cases s with
 |box l=>exact ZRl l f x y
 |_=>rfl
theorem ZRm:∀(l:List ShO) (f:Zi3 (lvsO U l r) X) (x:Zag U l) (y:HL r),app (lvsO U l r) f (flsO l x y)=app r (Z2c l f x) y
 | [],_,_,_=>rfl
 |s::l,f,x,y=>(ZZg (r:=lvsO U l r) s f x.1 (flsO l x.2 y)).trans (ZRm l (apO (r:=lvsO U l r) s f x.1) x.2 y)
theorem ZMj (b:List Sh) (a:List ShO) (f:Zi3 (lvQ U b a) X):ZUo b a f=fun v w=>unc b a f v w:=by funext v w;exact((ZRl (r:=lvsO U a []) b f v (flsO (r:=[]) a w ())).trans (ZRm (r:=[]) a _ w ())).symm
end
variable {U:Zc} {ρ:Type}
abbrev CT.rhs2:{R:Type}->(t:CT U ρ R)->t.Ty
 |_,.nil=>()
 |_,.j _ _ _ shs sho f k=>(true,ZUo shs sho f,k.rhs2)
 |_,.lo _ _ _ shs sho _ _ _ xshs xsho hd af body k=>(true,fun _ _=>none,fun n=>ZUo shs sho (hd (n+1)),fun n=>(body n).rhs2,ZUo xshs xsho af,k.rhs2)
 |_,.lr _ _ _ shs sho _ _ _ xshs xsho hd af body k=>(true,fun _ _=>none,fun n=>ZUo shs sho (hd (n+1)),fun n=>(body n).rhs2,ZUo xshs xsho af,k.rhs2)
 |_,.lz _ _ _ shs sho hd body k=>(true,fun _ _=>none,fun n=>ZUo shs sho (hd (n+1)),fun n=>(body n).rhs2,k.rhs2)
theorem CT.rhs2_eq:∀{R:Type} (t:CT U ρ R),t.rhs2=t.rhs
 |_,.nil=>rfl
 |_,.j _ _ _ shs sho f k=>by have h:=rhs2_eq k;simp only[CT.rhs2,CT.rhs,ZMj,h]
 |_,.lo _ _ _ shs sho _ _ _ xshs xsho hd af body k=>by
  have h:=rhs2_eq k;have a:(fun n=>(body n).rhs2)=fun n=>(body n).rhs:=funext fun n=>rhs2_eq (body n)
  simp only[CT.rhs2,CT.rhs,ZMj,h,a]
 |_,.lr _ _ _ shs sho _ _ _ xshs xsho hd af body k=>by
  have h:=rhs2_eq k;have a:(fun n=>(body n).rhs2)=fun n=>(body n).rhs:=funext fun n=>rhs2_eq (body n)
  simp only[CT.rhs2,CT.rhs,ZMj,h,a]
 |_,.lz _ _ _ shs sho hd body k=>by
  have h:=rhs2_eq k;have a:(fun n=>(body n).rhs2)=fun n=>(body n).rhs:=funext fun n=>rhs2_eq (body n)
  simp only[CT.rhs2,CT.rhs,ZMj,h,a]
abbrev FD.rhs2 (D:FD U):D.Ty:=(true,fun _=>true,fun v=>app (ZjH U D.as []) D.s (Zlj (r:=[]) D.as v ()),D.t.rhs2)
theorem FD.rhs2_eq (D:FD U):D.rhs2=D.rhs:=by simp only[FD.rhs2,FD.rhs,CT.rhs2_eq]
theorem FD.ok2 {X0:ZG U} (G:Gnd X0) (D:FD U) (a:X0.prog.funcs[D.f]? =some D.fn) (b:ZcY X0 D.sigs) (d:D.os.any (fun x=>isAr x.2)=false) (c:D.w=D.s) (h:D.lhs X0=D.rhs2):Zei X0.E D.f D.sig:=
 D.ok G a b d c (h.trans D.rhs2_eq)
theorem FD.okA2 {X0:ZG U} (G:Gnd X0) (D:FD U) (a:X0.prog.funcs[D.f]? =some D.fn) (b:ZcY X0 D.sigs)
  (c:(fun v=>app (ZjH U D.as []) D.w (Zlj (r:=[]) D.as v ()))=fun v=>(app (ZjH U D.as []) D.s (Zlj (r:=[]) D.as v ())).bind fun r=>chk (ZhK (Zdd D.as v) (D.b r)) (some r)) (h:D.lhs X0=D.rhs2):Zei X0.E D.f D.sig:=
 D.okA G a b c (h.trans D.rhs2_eq)
theorem ZFh {car:Nat->Type} {T:Ty} {c:Lf car} {X:Type} {f:El car T->Option X} {x:X} (h:(c.as T).bind f=some x):∃a,c=⟨T,a⟩/\f a=some x:=by obtain⟨a,b,h⟩:=bind_some h;exact⟨a,as_car b,h⟩
end Eng

/- A walk's equation with its right sides told outright: the kernel then needs not compare one long tuple's parts with another's. -/
import Derived.Test.YteopakpakelkoaaGreatDoorE4
set_option linter.all false
namespace Eng
open Go
section
variable {U:Zd} {r:List Type} {X:Type}
abbrev ap1:(s:Sh1)->ZjA (lv1 U s r) X->Znm U s->ZjA r X
 | .v _,f,x=>f x
 | .pp _,f,x=>f x
 | .full _,f,_=>f
 | .sl _,f,x=>f x.1 x.2
 | .ptr _ _ _,f,_=>f
 | .ptrI _ _,f,x=>f x
 | .map _,f,_=>f
 | .it _,f,_=>f
 | .nilp,f,_=>f
 | .nilfn,f,_=>f
 | .undef,f,_=>f
 | .nils _,f,_=>f
 | .clip _,f,x=>f x
 | .rp _ _,f,x=>f x
abbrev ZWo:(l:List Sh1)->ZjA (lvs1 U l r) X->Zg4 U l->ZjA r X
 | [],f,_=>f
 |s::l,f,x=>ZWo l (ap1 (r:=lvs1 U l r) s f x.1) x.2
abbrev apS:(s:Sh)->ZjA (lvS U s r) X->Val U s->ZjA r X
 | .o s,f,x=>ap1 s f x
 | .agg l,f,x=>ZWo l f x
 | .fn _ a b,f,x=>ZWo b (ZWo (r:=lvs1 U b r) a f x.1) x.2
abbrev aps:(l:List Sh)->ZjA (lvs U l r) X->Zcn U l->ZjA r X
 | [],f,_=>f
 |s::l,f,x=>aps l (apS (r:=lvs U l r) s f x.1) x.2
abbrev apO:(s:ShO)->ZjA (lvO U s r) X->ValO U s->ZjA r X
 | .box l,f,x=>aps l f x
 | .boxS _,f,x=>f x
 | .arr _ _,f,x=>f x
 | .map _ _,f,x=>f x
 | .sit,f,x=>f x.1 x.2
 | .own _ _ _,f,x=>f x.1 x.2
abbrev ZZf:(l:List ShO)->ZjA (lvsO U l r) X->Zal U l->ZjA r X
 | [],f,_=>f
 |s::l,f,x=>ZZf l (apO (r:=lvsO U l r) s f x.1) x.2
abbrev ZSj (b:List Sh) (a:List ShO) (f:ZjA (lvQ U b a) X) (v:Zcn U b) (w:Zal U a):X:=ZZf (r:=[]) a (aps (r:=lvsO U a []) b f v) w
theorem ZRK (s:Sh1) (f:ZjA (lv1 U s r) X) (x:Znm U s) (y:HL r):app (lv1 U s r) f (fl1 s x y)=app r (ap1 s f x) y:=by cases s<;>rfl
theorem ZK3:∀(l:List Sh1) (f:ZjA (lvs1 U l r) X) (x:Zg4 U l) (y:HL r),app (lvs1 U l r) f (fls1 l x y)=app r (ZWo l f x) y
 | [],_,_,_=>rfl
 |s::l,f,x,y=>(ZRK (r:=lvs1 U l r) s f x.1 (fls1 l x.2 y)).trans (ZK3 l (ap1 (r:=lvs1 U l r) s f x.1) x.2 y)
theorem ZWp (s:Sh) (f:ZjA (lvS U s r) X) (x:Val U s) (y:HL r):app (lvS U s r) f (flS s x y)=app r (apS s f x) y:=by
 cases s with
 |o s=>exact ZRK s f x y
 |agg l=>exact ZK3 l f x y
 |fn q a b=>exact(ZK3 (r:=lvs1 U b r) a f x.1 (fls1 b x.2 y)).trans (ZK3 b _ x.2 y)
theorem ZPz:∀(l:List Sh) (f:ZjA (lvs U l r) X) (x:Zcn U l) (y:HL r),app (lvs U l r) f (fls l x y)=app r (aps l f x) y
 | [],_,_,_=>rfl
 |s::l,f,x,y=>(ZWp (r:=lvs U l r) s f x.1 (fls l x.2 y)).trans (ZPz l (apS (r:=lvs U l r) s f x.1) x.2 y)
theorem ZWq (s:ShO) (f:ZjA (lvO U s r) X) (x:ValO U s) (y:HL r):app (lvO U s r) f (flO s x y)=app r (apO s f x) y:=by
 cases s with
 |box l=>exact ZPz l f x y
 |_=>rfl
theorem ZPA:∀(l:List ShO) (f:ZjA (lvsO U l r) X) (x:Zal U l) (y:HL r),app (lvsO U l r) f (flsO l x y)=app r (ZZf l f x) y
 | [],_,_,_=>rfl
 |s::l,f,x,y=>(ZWq (r:=lvsO U l r) s f x.1 (flsO l x.2 y)).trans (ZPA l (apO (r:=lvsO U l r) s f x.1) x.2 y)
theorem ZKH (b:List Sh) (a:List ShO) (f:ZjA (lvQ U b a) X):ZSj b a f=fun v w=>unc b a f v w:=by funext v w;exact((ZPz (r:=lvsO U a []) b f v (flsO (r:=[]) a w ())).trans (ZPA (r:=[]) a _ w ())).symm
end
variable {U:Zd} {ρ:Type}
abbrev CT.rhs2:{R:Type}->(t:CT U ρ R)->t.Ty
 |_,.nil=>()
 |_,.j _ _ _ shs sho f k=>(true,ZSj shs sho f,k.rhs2)
 |_,.lo _ _ _ shs sho _ _ _ xshs xsho hd af body k=>(true,fun _ _=>none,fun n=>ZSj shs sho (hd (n+1)),fun n=>(body n).rhs2,ZSj xshs xsho af,k.rhs2)
 |_,.lr _ _ _ shs sho _ _ _ xshs xsho hd af body k=>(true,fun _ _=>none,fun n=>ZSj shs sho (hd (n+1)),fun n=>(body n).rhs2,ZSj xshs xsho af,k.rhs2)
 |_,.lz _ _ _ shs sho hd body k=>(true,fun _ _=>none,fun n=>ZSj shs sho (hd (n+1)),fun n=>(body n).rhs2,k.rhs2)
theorem CT.rhs2_eq:∀{R:Type} (t:CT U ρ R),t.rhs2=t.rhs
 |_,.nil=>rfl
 |_,.j _ _ _ shs sho f k=>by have h:=rhs2_eq k;simp only[CT.rhs2,CT.rhs,ZKH,h]
 |_,.lo _ _ _ shs sho _ _ _ xshs xsho hd af body k=>by
  have h:=rhs2_eq k;have a:(fun n=>(body n).rhs2)=fun n=>(body n).rhs:=funext fun n=>rhs2_eq (body n)
  simp only[CT.rhs2,CT.rhs,ZKH,h,a]
 |_,.lr _ _ _ shs sho _ _ _ xshs xsho hd af body k=>by
  have h:=rhs2_eq k;have a:(fun n=>(body n).rhs2)=fun n=>(body n).rhs:=funext fun n=>rhs2_eq (body n)
  simp only[CT.rhs2,CT.rhs,ZKH,h,a]
 |_,.lz _ _ _ shs sho hd body k=>by
  have h:=rhs2_eq k;have a:(fun n=>(body n).rhs2)=fun n=>(body n).rhs:=funext fun n=>rhs2_eq (body n)
  simp only[CT.rhs2,CT.rhs,ZKH,h,a]
abbrev FD.rhs2 (D:FD U):D.Ty:=(true,fun _=>true,fun v=>app (Zke U D.as []) D.s (Zl8 (r:=[]) D.as v ()),D.t.rhs2)
theorem FD.rhs2_eq (D:FD U):D.rhs2=D.rhs:=by simp only[FD.rhs2,FD.rhs,CT.rhs2_eq]
theorem FD.ok2 {X0:ZG U} (G:Gnd X0) (D:FD U) (c:X0.prog.funcs[D.f]? =some D.fn) (a:Zdd X0 D.sigs) (d:D.os.any (fun x=>isAr x.2)=false) (b:D.w=D.s) (h:D.lhs X0=D.rhs2):Zez X0.E D.f D.sig:=
 D.ok G c a d b (h.trans D.rhs2_eq)
theorem FD.okA2 {X0:ZG U} (G:Gnd X0) (D:FD U) (b:X0.prog.funcs[D.f]? =some D.fn) (a:Zdd X0 D.sigs)
  (c:(fun v=>app (Zke U D.as []) D.w (Zl8 (r:=[]) D.as v ()))=fun v=>(app (Zke U D.as []) D.s (Zl8 (r:=[]) D.as v ())).bind fun r=>chk (Zid (Zdr D.as v) (D.b r)) (some r)) (h:D.lhs X0=D.rhs2):Zez X0.E D.f D.sig:=
 D.okA G b a c (h.trans D.rhs2_eq)
theorem ZEs {car:Nat->Type} {T:Ty} {c:Lf car} {X:Type} {f:El car T->Option X} {x:X} (h:(c.as T).bind f=some x):∃a,c=⟨T,a⟩/\f a=some x:=by obtain⟨a,b,h⟩:=bind_some h;exact⟨a,as_car b,h⟩
end Eng

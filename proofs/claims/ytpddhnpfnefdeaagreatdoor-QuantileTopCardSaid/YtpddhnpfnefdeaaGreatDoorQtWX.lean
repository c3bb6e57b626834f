/- A walk's equation with its right sides told outright: the kernel then needs not compare one long tuple's parts with another's. -/
import Derived.Test.YtpddhnpfnefdeaaGreatDoorE4
set_option linter.all false
namespace Eng
open Go
section
variable {U:Zc} {r:List Type} {X:Type}
abbrev ap1:(s:Sh1)->ZiX (lv1 U s r) X->Zmm U s->ZiX r X
 | .v _,f,x=>f x
 | .pp _,f,x=>f x
 | .full _,f,_=>f
 | .sl _,f,x=>f x.1 x.2
 | .ptr _ _ _,f,_=>f
 | .ptrI _ _,f,x=>f x
 | .map _,f,_=>f
 | .it _,f,_=>f
 | .nilp,f,_=>f
 | .nilfn,f,_=>f
 | .undef,f,_=>f
 | .nils _,f,_=>f
 | .clip _,f,x=>f x
abbrev ZTv:(l:List Sh1)->ZiX (lvs1 U l r) X->ZgC U l->ZiX r X
 | [],f,_=>f
 |s::l,f,x=>ZTv l (ap1 (r:=lvs1 U l r) s f x.1) x.2
abbrev apS:(s:Sh)->ZiX (lvS U s r) X->Val U s->ZiX r X
 | .o s,f,x=>ap1 s f x
 | .agg l,f,x=>ZTv l f x
 | .fn _ a b,f,x=>ZTv b (ZTv (r:=lvs1 U b r) a f x.1) x.2
abbrev aps:(l:List Sh)->ZiX (lvs U l r) X->Zb7 U l->ZiX r X
 | [],f,_=>f
 |s::l,f,x=>aps l (apS (r:=lvs U l r) s f x.1) x.2
abbrev apO:(s:ShO)->ZiX (lvO U s r) X->ValO U s->ZiX r X
 | .box l,f,x=>aps l f x
 | .boxS _,f,x=>f x
 | .arr _ _,f,x=>f x
 | .map _ _,f,x=>f x
 | .sit,f,x=>f x.1 x.2
 | .mit _ _,f,x=>f x.1 x.2
abbrev ZV2:(l:List ShO)->ZiX (lvsO U l r) X->Zaf U l->ZiX r X
 | [],f,_=>f
 |s::l,f,x=>ZV2 l (apO (r:=lvsO U l r) s f x.1) x.2
abbrev ZPo (b:List Sh) (a:List ShO) (f:ZiX (lvQ U b a) X) (v:Zb7 U b) (w:Zaf U a):X:=ZV2 (r:=[]) a (aps (r:=lvsO U a []) b f v) w
theorem ZOS (s:Sh1) (f:ZiX (lv1 U s r) X) (x:Zmm U s) (y:HL r):app (lv1 U s r) f (fl1 s x y)=app r (ap1 s f x) y:=by cases s<;>rfl
theorem ZJi:∀(l:List Sh1) (f:ZiX (lvs1 U l r) X) (x:ZgC U l) (y:HL r),app (lvs1 U l r) f (fls1 l x y)=app r (ZTv l f x) y
 | [],_,_,_=>rfl
 |s::l,f,x,y=>(ZOS (r:=lvs1 U l r) s f x.1 (fls1 l x.2 y)).trans (ZJi l (ap1 (r:=lvs1 U l r) s f x.1) x.2 y)
theorem ZTw (s:Sh) (f:ZiX (lvS U s r) X) (x:Val U s) (y:HL r):app (lvS U s r) f (flS s x y)=app r (apS s f x) y:=by
 cases s with
 |o s=>exact ZOS s f x y
 |agg l=>exact ZJi l f x y
 |fn q a b=>exact(ZJi (r:=lvs1 U b r) a f x.1 (fls1 b x.2 y)).trans (ZJi b _ x.2 y)
theorem ZMM:∀(l:List Sh) (f:ZiX (lvs U l r) X) (x:Zb7 U l) (y:HL r),app (lvs U l r) f (fls l x y)=app r (aps l f x) y
 | [],_,_,_=>rfl
 |s::l,f,x,y=>(ZTw (r:=lvs U l r) s f x.1 (fls l x.2 y)).trans (ZMM l (apS (r:=lvs U l r) s f x.1) x.2 y)
theorem ZTx (s:ShO) (f:ZiX (lvO U s r) X) (x:ValO U s) (y:HL r):app (lvO U s r) f (flO s x y)=app r (apO s f x) y:=by
 cases s with
 |box l=>exact ZMM l f x y
 |_=>rfl
theorem ZMN:∀(l:List ShO) (f:ZiX (lvsO U l r) X) (x:Zaf U l) (y:HL r),app (lvsO U l r) f (flsO l x y)=app r (ZV2 l f x) y
 | [],_,_,_=>rfl
 |s::l,f,x,y=>(ZTx (r:=lvsO U l r) s f x.1 (flsO l x.2 y)).trans (ZMN l (apO (r:=lvsO U l r) s f x.1) x.2 y)
theorem ZIX (b:List Sh) (a:List ShO) (f:ZiX (lvQ U b a) X):ZPo b a f=fun v w=>unc b a f v w:=by funext v w;exact((ZMM (r:=lvsO U a []) b f v (flsO (r:=[]) a w ())).trans (ZMN (r:=[]) a _ w ())).symm
end
variable {U:Zc} {ρ:Type}
abbrev CT.rhs2:{R:Type}->(t:CT U ρ R)->t.Ty
 |_,.nil=>()
 |_,.j _ _ _ shs sho f k=>(true,ZPo shs sho f,k.rhs2)
 |_,.lo _ _ _ shs sho _ _ _ xshs xsho hd af body k=>(true,fun _ _=>none,fun n=>ZPo shs sho (hd (n+1)),fun n=>(body n).rhs2,ZPo xshs xsho af,k.rhs2)
 |_,.lr _ _ _ shs sho _ _ _ xshs xsho hd af body k=>(true,fun _ _=>none,fun n=>ZPo shs sho (hd (n+1)),fun n=>(body n).rhs2,ZPo xshs xsho af,k.rhs2)
 |_,.lz _ _ _ shs sho hd body k=>(true,fun _ _=>none,fun n=>ZPo shs sho (hd (n+1)),fun n=>(body n).rhs2,k.rhs2)
theorem CT.rhs2_eq:∀{R:Type} (t:CT U ρ R),t.rhs2=t.rhs
 |_,.nil=>rfl
 |_,.j _ _ _ shs sho f k=>by have h:=rhs2_eq k;simp only[CT.rhs2,CT.rhs,ZIX,h]
 |_,.lo _ _ _ shs sho _ _ _ xshs xsho hd af body k=>by
  have h:=rhs2_eq k;have a:(fun n=>(body n).rhs2)=fun n=>(body n).rhs:=funext fun n=>rhs2_eq (body n)
  simp only[CT.rhs2,CT.rhs,ZIX,h,a]
 |_,.lr _ _ _ shs sho _ _ _ xshs xsho hd af body k=>by
  have h:=rhs2_eq k;have a:(fun n=>(body n).rhs2)=fun n=>(body n).rhs:=funext fun n=>rhs2_eq (body n)
  simp only[CT.rhs2,CT.rhs,ZIX,h,a]
 |_,.lz _ _ _ shs sho hd body k=>by
  have h:=rhs2_eq k;have a:(fun n=>(body n).rhs2)=fun n=>(body n).rhs:=funext fun n=>rhs2_eq (body n)
  simp only[CT.rhs2,CT.rhs,ZIX,h,a]
abbrev FD.rhs2 (D:FD U):D.Ty:=(true,fun _=>true,fun v=>app (Zjz U D.as []) D.s (Zla (r:=[]) D.as v ()),D.t.rhs2)
theorem FD.rhs2_eq (D:FD U):D.rhs2=D.rhs:=by simp only[FD.rhs2,FD.rhs,CT.rhs2_eq]
theorem FD.ok2 {X0:ZG U} (G:Gnd X0) (D:FD U) (b:X0.prog.funcs[D.f]? =some D.fn) (c:ZcX X0 D.sigs) (a:D.os.any (fun x=>isAr x.2)=false) (hw:D.w=D.s) (h:D.lhs X0=D.rhs2):Zeg X0.E D.f D.sig:=
 D.ok G b c a hw (h.trans D.rhs2_eq)
theorem FD.okA2 {X0:ZG U} (G:Gnd X0) (D:FD U) (b:X0.prog.funcs[D.f]? =some D.fn) (a:ZcX X0 D.sigs)
  (hw:(fun v=>app (Zjz U D.as []) D.w (Zla (r:=[]) D.as v ()))=fun v=>(app (Zjz U D.as []) D.s (Zla (r:=[]) D.as v ())).bind fun r=>chk (ZhF (Zdb D.as v) (D.b r)) (some r)) (h:D.lhs X0=D.rhs2):Zeg X0.E D.f D.sig:=
 D.okA G b a hw (h.trans D.rhs2_eq)
theorem ZEm {car:Nat->Type} {T:Ty} {c:Lf car} {X:Type} {f:El car T->Option X} {x:X} (h:(c.as T).bind f=some x):∃a,c=⟨T,a⟩/\f a=some x:=by obtain⟨a,b,h⟩:=bind_some h;exact⟨a,as_car b,h⟩
end Eng

/- A walk's equation with its right sides told outright: the kernel then needs not compare one long tuple's parts with another's. -/
import Derived.Test.YtpkmihjnkbkcjaaGreatDoorE4
set_option linter.unusedVariables false
set_option linter.unusedSimpArgs false
set_option linter.unusedSectionVars false
namespace Eng
open Go
section
variable {U:Zc} {r:List Type} {X:Type}
abbrev ap1:(s:Sh1)→Zjo (lv1 U s r) X→Zm0 U s→Zjo r X
 | .v _,f,x=>f x
 | .pp _,f,x=>f x
 | .full _,f,_=>f
 | .sl _,f,x=>f x.1 x.2
 | .ptr _ _ _,f,_=>f
 | .ptrI _ _,f,x=>f x
 | .map _,f,_=>f
 | .it _,f,_=>f
 | .nilp,f,_=>f
 | .nilfn,f,_=>f
 | .undef,f,_=>f
 | .nils _,f,_=>f
 | .clip _,f,x=>f x
abbrev ZGf:(l:List Sh1)→Zjo (lvs1 U l r) X→ZgY U l→Zjo r X
 | [],f,_=>f
 |s::l,f,x=>ZGf l (ap1 (r:=lvs1 U l r) s f x.1) x.2
abbrev apS:(s:Sh)→Zjo (lvS U s r) X→Val U s→Zjo r X
 | .o s,f,x=>ap1 s f x
 | .agg l,f,x=>ZGf l f x
 | .fn _ a b,f,x=>ZGf b (ZGf (r:=lvs1 U b r) a f x.1) x.2
abbrev aps:(l:List Sh)→Zjo (lvs U l r) X→Zcg U l→Zjo r X
 | [],f,_=>f
 |s::l,f,x=>aps l (apS (r:=lvs U l r) s f x.1) x.2
abbrev apO:(s:ShO)→Zjo (lvO U s r) X→ValO U s→Zjo r X
 | .box l,f,x=>aps l f x
 | .boxS _,f,x=>f x
 | .arr _ _,f,x=>f x
 | .map _ _,f,x=>f x
 | .sit,f,x=>f x.1 x.2
 | .mit _ _,f,x=>f x.1 x.2
 | .own _ _ _,f,x=>f x.1 x.2
abbrev ZIh:(l:List ShO)→Zjo (lvsO U l r) X→Zaj U l→Zjo r X
 | [],f,_=>f
 |s::l,f,x=>ZIh l (apO (r:=lvsO U l r) s f x.1) x.2
abbrev ZDW (shs:List Sh) (sho:List ShO) (f:Zjo (lvQ U shs sho) X) (v:Zcg U shs) (w:Zaj U sho):X:=ZIh (r:=[]) sho (aps (r:=lvsO U sho []) shs f v) w
theorem ZDJ (s:Sh1) (f:Zjo (lv1 U s r) X) (x:Zm0 U s) (y:HL r):app (lv1 U s r) f (fl1 s x y)=app r (ap1 s f x) y:=by cases s<;>rfl
theorem ZA6:∀(l:List Sh1) (f:Zjo (lvs1 U l r) X) (x:ZgY U l) (y:HL r),app (lvs1 U l r) f (fls1 l x y)=app r (ZGf l f x) y
 | [],_,_,_=>rfl
 |s::l,f,x,y=>(ZDJ (r:=lvs1 U l r) s f x.1 (fls1 l x.2 y)).trans (ZA6 l (ap1 (r:=lvs1 U l r) s f x.1) x.2 y)
theorem ZGg (s:Sh) (f:Zjo (lvS U s r) X) (x:Val U s) (y:HL r):app (lvS U s r) f (flS s x y)=app r (apS s f x) y:=by
 cases s with
 |o s=>exact ZDJ s f x y
 |agg l=>exact ZA6 l f x y
 |fn q a b=>exact(ZA6 (r:=lvs1 U b r) a f x.1 (fls1 b x.2 y)).trans (ZA6 b _ x.2 y)
theorem ZCG:∀(l:List Sh) (f:Zjo (lvs U l r) X) (x:Zcg U l) (y:HL r),app (lvs U l r) f (fls l x y)=app r (aps l f x) y
 | [],_,_,_=>rfl
 |s::l,f,x,y=>(ZGg (r:=lvs U l r) s f x.1 (fls l x.2 y)).trans (ZCG l (apS (r:=lvs U l r) s f x.1) x.2 y)
theorem ZGh (s:ShO) (f:Zjo (lvO U s r) X) (x:ValO U s) (y:HL r):app (lvO U s r) f (flO s x y)=app r (apO s f x) y:=by
 cases s with
 |box l=>exact ZCG l f x y
 |_=>rfl
theorem ZCH:∀(l:List ShO) (f:Zjo (lvsO U l r) X) (x:Zaj U l) (y:HL r),app (lvsO U l r) f (flsO l x y)=app r (ZIh l f x) y
 | [],_,_,_=>rfl
 |s::l,f,x,y=>(ZGh (r:=lvsO U l r) s f x.1 (flsO l x.2 y)).trans (ZCH l (apO (r:=lvsO U l r) s f x.1) x.2 y)
theorem ZAX (shs:List Sh) (sho:List ShO) (f:Zjo (lvQ U shs sho) X):ZDW shs sho f=fun v w=>unc shs sho f v w:=by funext v w;exact((ZCG (r:=lvsO U sho []) shs f v (flsO (r:=[]) sho w ())).trans (ZCH (r:=[]) sho _ w ())).symm
end
variable {U:Zc} {ρ:Type}
abbrev CT.rhs2:{R:Type}→(t:CT U ρ R)→t.Ty
 |_,.nil=>()
 |_,.j _ _ _ shs sho f k=>(true,ZDW shs sho f,k.rhs2)
 |_,.lo _ _ _ shs sho _ _ _ xshs xsho hd af body k=>(true,fun _ _=>none,fun n=>ZDW shs sho (hd (n+1)),fun n=>(body n).rhs2,ZDW xshs xsho af,k.rhs2)
 |_,.lr _ _ _ shs sho _ _ _ xshs xsho hd af body k=>(true,fun _ _=>none,fun n=>ZDW shs sho (hd (n+1)),fun n=>(body n).rhs2,ZDW xshs xsho af,k.rhs2)
 |_,.lz _ _ _ shs sho hd body k=>(true,fun _ _=>none,fun n=>ZDW shs sho (hd (n+1)),fun n=>(body n).rhs2,k.rhs2)
theorem CT.rhs2_eq:∀{R:Type} (t:CT U ρ R),t.rhs2=t.rhs
 |_,.nil=>rfl
 |_,.j _ _ _ shs sho f k=>by have h:=rhs2_eq k;simp only[CT.rhs2,CT.rhs,ZAX,h]
 |_,.lo _ _ _ shs sho _ _ _ xshs xsho hd af body k=>by
  have h:=rhs2_eq k;have hb:(fun n=>(body n).rhs2)=fun n=>(body n).rhs:=funext fun n=>rhs2_eq (body n)
  simp only[CT.rhs2,CT.rhs,ZAX,h,hb]
 |_,.lr _ _ _ shs sho _ _ _ xshs xsho hd af body k=>by
  have h:=rhs2_eq k;have hb:(fun n=>(body n).rhs2)=fun n=>(body n).rhs:=funext fun n=>rhs2_eq (body n)
  simp only[CT.rhs2,CT.rhs,ZAX,h,hb]
 |_,.lz _ _ _ shs sho hd body k=>by
  have h:=rhs2_eq k;have hb:(fun n=>(body n).rhs2)=fun n=>(body n).rhs:=funext fun n=>rhs2_eq (body n)
  simp only[CT.rhs2,CT.rhs,ZAX,h,hb]
abbrev FD.rhs2 (D:FD U):D.Ty:=(true,fun _=>true,fun v=>app (Zj4 U D.as []) D.s (ZlN (r:=[]) D.as v ()),D.t.rhs2)
theorem FD.rhs2_eq (D:FD U):D.rhs2=D.rhs:=by simp only[FD.rhs2,FD.rhs,CT.rhs2_eq]
theorem FD.ok2 {X0:ZF U} (G:Gnd X0) (D:FD U) (hf:X0.prog.funcs[D.f]? =some D.fn) (hs:Zc9 X0 D.sigs) (ha:D.os.any (fun x=>isAr x.2)=false) (hw:D.w=D.s) (h:D.lhs X0=D.rhs2):Zeu X0.E D.f D.sig:=
 D.ok G hf hs ha hw (h.trans D.rhs2_eq)
theorem FD.okA2 {X0:ZF U} (G:Gnd X0) (D:FD U) (hf:X0.prog.funcs[D.f]? =some D.fn) (hs:Zc9 X0 D.sigs)
  (hw:(fun v=>app (Zj4 U D.as []) D.w (ZlN (r:=[]) D.as v ()))=fun v=>(app (Zj4 U D.as []) D.s (ZlN (r:=[]) D.as v ())).bind fun r=>chk (Zh4 (Zdn D.as v) (D.b r)) (some r)) (h:D.lhs X0=D.rhs2):Zeu X0.E D.f D.sig:=
 D.okA G hf hs hw (h.trans D.rhs2_eq)
theorem ZvO {car:Nat→Type} {T:Ty} {c:Lf car} {X:Type} {f:El car T→Option X} {x:X} (h:(c.as T).bind f=some x):∃a,c=⟨T,a⟩∧f a=some x:=by obtain⟨a,h0,h⟩:=bind_some h;exact⟨a,as_car h0,h⟩
end Eng

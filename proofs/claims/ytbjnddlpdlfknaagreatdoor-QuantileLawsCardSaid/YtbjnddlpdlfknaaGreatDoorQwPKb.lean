/- Plain reasoning, part 2: loops over lists. -/
import Derived.Test.YtbjnddlpdlfknaaGreatDoorQwPK
import Derived.KernelRfl
set_option linter.unusedVariables false
set_option linter.unusedSimpArgs false
set_option linter.unusedSectionVars false
namespace Go.Proofs
open Go Eng
theorem Zxk {α σ τ X:Type} {f:Nat→σ→Option X} {body:(σ→Option X)→σ→Option X} (hf:∀n s,f (n+1) s=body (f n) s)
  (xs:List α) (hlen:xs.length≤1000000000000000) (st:Int→τ→σ) (P:Nat→τ→Prop) {Q:X→Prop} (t0:τ) (h0:P 0 t0)
  (step:∀(rec:σ→Option X) (k:Nat) t (h:k < xs.length),P k t→(∀t',P (k+1) t'→wp (rec (st ((k:Int)+1) t')) Q)→wp (body rec (st (k:Int) t)) Q)
  (fin:∀(rec:σ→Option X) t,P xs.length t→wp (body rec (st (xs.length:Int) t)) Q):wp (f big (st 0 t0)) Q:=by
 have key:∀(n k:Nat) t,k≤xs.length→P k t→xs.length - k < n→wp (f n (st (k:Int) t)) Q:=by
  intro n
  induction n with
  |zero=>intro k t _ _ h;omega
  |succ n ih=>
   intro k t hk hP hm;rw[hf]
   by_cases hlt:k < xs.length
   ·refine step _ k t hlt hP fun t' h'=> ?_
    exact ih (k+1) t' (by omega) h' (by omega)
   ·have:k=xs.length:=by omega
    subst this;exact fin _ t hP
 exact key big 0 t0 (Nat.zero_le _) h0 (by rw[big_eq];omega)
theorem Zr8 {σ τ X:Type} {f:Nat→σ→Option X} {body:(σ→Option X)→σ→Option X} (hf:∀n s,f (n+1) s=body (f n) s)
  (m:Nat) (hlen:m≤1000000000000000) (st:Int→τ→σ) (P:Nat→τ→Prop) {Q:X→Prop} (t0:τ) (h0:P 0 t0)
  (step:∀(rec:σ→Option X) (k:Nat) t (h:k < m),P k t→(∀t',P (k+1) t'→wp (rec (st ((k:Int)+1) t')) Q)→wp (body rec (st (k:Int) t)) Q)
  (fin:∀(rec:σ→Option X) t,P m t→wp (body rec (st (m:Int) t)) Q):wp (f big (st 0 t0)) Q:=by
 have e:(List.replicate m ()).length=m:=List.length_replicate;refine Zxk hf (List.replicate m ()) (by omega) st P t0 h0 (fun rec k s h=>step rec k s (by omega)) (fun rec s h=> ?_);rw[e]at h⊢
 exact fin rec s h
theorem ZsG {σ τ X:Type} {f:Nat→σ→Option X} {body:(σ→Option X)→σ→Option X} (hf:∀n s,f (n+1) s=body (f n) s)
  (st:τ→σ) (P:τ→Prop) (m:τ→Nat) {Q:X→Prop} (t0:τ) (h0:P t0) (hm:m t0≤1000000000000000)
  (step:∀(rec:σ→Option X) t,P t→(∀t',P t'→m t' < m t→wp (rec (st t')) Q)→wp (body rec (st t)) Q):wp (f big (st t0)) Q:=by
 have key:∀(n:Nat) t,P t→m t < n→wp (f n (st t)) Q:=by
  intro n
  induction n with
  |zero=>intro t _ h;omega
  |succ n ih=>
   intro t hP hm;rw[hf];exact step _ t hP fun t' h' hlt=>ih t' h' (by omega)
 exact key big t0 h0 (by rw[big_eq];omega)
theorem Zxm {α:Type} {o:Option α} {x:α} {Q:α→Prop} (h:o=some x):wp o Q↔Q x:=by subst h;exact ZnC
theorem ZhP {α:Type} {xs:List α} {i:Int} (h0:0≤i) (h:i.toNat < xs.length):idx xs i=some xs[i.toNat]:=by unfold idx;rw[if_pos h0,List.getElem?_eq_getElem h]
theorem Zu4 {α:Type} {xs:List α} {k:Nat} (h:k < xs.length):idx xs (k:Int)=some xs[k]:=by rw[ZhP (by omega) (by simpa using h)];simp
end Go.Proofs

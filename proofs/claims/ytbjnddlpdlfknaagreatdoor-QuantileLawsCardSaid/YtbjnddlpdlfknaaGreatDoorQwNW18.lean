/- The second implementation: parity; the odd part of a number. -/
import Derived.Test.YtbjnddlpdlfknaaGreatDoorQwNW17
set_option linter.unusedVariables false
set_option linter.unusedSimpArgs false
set_option linter.unusedSectionVars false
namespace Go.Proofs
open Go Eng
theorem Zw4 {a:Nat} (h:a≠0):idx (iL (wd a)) 0=some ((a % Bw:Nat):Int):=by rw[Zv1 h];rfl
theorem Zwv {a:Nat}:(andK .u32 ((a % Bw:Nat):Int) 1 == 0)=decide (a % 2=0):=by
 rw[show (1:Int)=((1:Nat):Int)from rfl,ZwW (Nat.mod_lt _ (by decide)) (by decide),Nat.and_one_is_mod];have e:a % Bw % 2=a % 2:=by simp only[Bw];omega
 rw[e]
 by_cases h:a % 2=0
 ·rw[h];rfl
 ·rw[decide_eq_false h];exact beq_eq_false_iff_ne.2 (by omega)
theorem Zxw (P:Nat→Prop) {f:Nat→List Int×List Int×Int→Option (List Int×List Int×Int)} (y:List Int) (k:Int)
  (hf:∀n x,x≠0→(wd x).length≤100000→f (n+1) (iL (wd x),y,k)=if x % 2=0 then f n (iL (wd (x / 2)),y,k)else some (iL (wd x),y,k))
  (hP:∀x,P (2*x)→P x):∀(n x:Nat),x≠0→(wd x).length≤100000→P x→(∀m,x < 2 ^ m→m≤n→∃z,f n (iL (wd x),y,k)=some (iL (wd z),y,k)∧z % 2=1∧z≤x∧P z)
 |0,x,hx,hl,hp,m,hm,hmn=>by
  have:m=0:=by omega
  subst this;rw[Nat.pow_zero]at hm;omega
 |n+1,x,hx,hl,hp,m,hm,hmn=>by
  rw[hf n x hx hl]
  by_cases h:x % 2=0
  ·rw[if_pos h];cases m with
   |zero=>rw[Nat.pow_zero]at hm;omega
   |succ m=>
    obtain⟨z,h1,h2,h3,h4⟩:=Zxw P y k hf hP n (x / 2) (by omega) (Nat.le_trans (Zru (Nat.div_le_self x 2)) hl) (hP _ (by rwa [show 2*(x / 2)=x by omega])) m (by rw[Nat.pow_succ]at hm;omega) (by omega);exact⟨z,h1,h2,by omega,h4⟩
  ·rw[if_neg h];exact⟨x,rfl,by omega,Nat.le_refl _,hp⟩
end Go.Proofs

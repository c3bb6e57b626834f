/- The second implementation: the binary gcd, its main loop. -/
import Derived.Test.YtbjnddlpdlfknaaGreatDoorQwNW19
set_option linter.unusedVariables false
set_option linter.unusedSimpArgs false
set_option linter.unusedSectionVars false
namespace Go.Proofs
open Go Eng
theorem ZyJ (y:List Int) (k:Int) {x:Nat} (ho:x % 2=1):Zn7 big (iL (wd x)) y k=some (iL (wd x),y,k):=by obtain⟨n,hn⟩:=ZzE 1 (by decide);rw[hn];show ZoT (Zn7 n) (iL (wd x)) y k=_;unfold ZoT;rw[Zw4 (by omega),Option.bind_some,Zwv,decide_eq_false (by omega),cond_false]
theorem ZBW (w:List Int) (k:Int) {y:Nat} (b:Nat) (hb:b % 2=1) (hy:y≠0) (hl:(wd y).length≤100000):∃z,Zn6 big w (iL (wd y)) k=some (w,iL (wd z),k)∧z % 2=1∧(z≤y∧(y % 2=0→z≤y / 2))∧Nat.gcd z b=Nat.gcd y b:=by
 have hm:=Zvx hl;have step:∀n x,x≠0→(wd x).length≤100000→Zn6 (n+1) w (iL (wd x)) k=if x % 2=0 then Zn6 n w (iL (wd (x / 2))) k else some (w,iL (wd x),k):=fun n x hx hl=>by
  show Zq9 (Zn6 n) w (iL (wd x)) k=_;unfold Zq9;rw[Zw4 hx,Option.bind_some,Zwv]
  by_cases h:x % 2=0
  ·rw[decide_eq_true h,cond_true,if_pos h,Zwk x hl,Option.bind_some]
  ·rw[decide_eq_false h,cond_false,if_neg h]
 have key:∀(n x m:Nat),x≠0→(wd x).length≤100000→x < 2 ^ m→m≤n→∃z,Zn6 n w (iL (wd x)) k=some (w,iL (wd z),k)∧z % 2=1∧(z≤x∧(x % 2=0→z≤x / 2))∧Nat.gcd z b=Nat.gcd x b:=by
  intro n
  induction n with
  |zero=>
   intro x m hx hl hm hmn;have:m=0:=by omega
   subst this;rw[Nat.pow_zero]at hm;omega
  |succ n ih=>
   intro x m hx hl hm hmn;rw[step n x hx hl]
   by_cases h:x % 2=0
   ·rw[if_pos h];cases m with
    |zero=>rw[Nat.pow_zero]at hm;omega
    |succ m=>
     obtain⟨z,h1,h2,h3,h4⟩:=ih (x / 2) m (by omega) (Nat.le_trans (Zru (Nat.div_le_self x 2)) hl) (by rw[Nat.pow_succ]at hm;omega) (by omega);refine⟨z,h1,h2,⟨by omega,fun _=>h3.1⟩, ?_⟩;rw[h4,←ZxX hb,show 2*(x / 2)=x by omega]
   ·rw[if_neg h];exact⟨x,rfl,by omega,⟨Nat.le_refl _,fun h'=>absurd h' h⟩,rfl⟩
 exact key big y (y.log2+1) hy hl (Zuf y) (Nat.le_of_lt (ZwA (by omega)))
end Go.Proofs

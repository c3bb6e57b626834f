/- The second implementation: the binary gcd. -/
import Derived.Test.YtbjnddlpdlfknaaGreatDoorQwNW18
set_option linter.unusedVariables false
set_option linter.unusedSimpArgs false
set_option linter.unusedSectionVars false
namespace Go.Proofs
open Go Eng
theorem Zuf (x:Nat):x < 2 ^ (x.log2+1):=Nat.lt_log2_self
theorem Zvx {x n:Nat} (h:(wd x).length≤n):x.log2≤32*n:=by
 rcases Nat.eq_zero_or_pos x with rfl |hp
 ·rw[Nat.log2_zero];omega
 ·have h1:=Nat.log2_self_le (n:=x) (by omega);have h2:=Nat.lt_of_lt_of_le (ZsX x) (Nat.pow_le_pow_right (n:=Bw) (by decide) h);rw[show Bw=2 ^ 32 from rfl,←Nat.pow_mul]at h2;exact Nat.le_of_lt ((Nat.pow_lt_pow_iff_right (a:=2) (by decide)).1 (Nat.lt_of_le_of_lt h1 h2))
theorem ZxX {x b:Nat} (hb:b % 2=1):Nat.gcd (2*x) b=Nat.gcd x b:=by
 have hc:Nat.Coprime 2 b:=by unfold Nat.Coprime;rw[Nat.gcd_rec,hb,Nat.gcd_one_left]
 exact Nat.Coprime.gcd_mul_left_cancel x hc
theorem ZBX (y:List Int) (k:Int) {x:Nat} (b:Nat) (hb:b % 2=1) (hx:x≠0) (hl:(wd x).length≤100000):∃z,Zn7 big (iL (wd x)) y k=some (iL (wd z),y,k)∧z % 2=1∧z≤x∧Nat.gcd z b=Nat.gcd x b:=by
 have hm:=Zvx hl;refine Zxw (fun z=>Nat.gcd z b=Nat.gcd x b) (f:=fun n t=>Zn7 n t.1 t.2.1 t.2.2) y k (fun n x hx hl=> ?_) (fun z h=>by rwa [ZxX hb]at h) big x hx hl rfl (x.log2+1) (Zuf x) (Nat.le_of_lt (ZwA (by omega)));show ZoT (Zn7 n) (iL (wd x)) y k=_;unfold ZoT;rw[Zw4 hx,Option.bind_some,Zwv]
 by_cases h:x % 2=0
 ·rw[decide_eq_true h,cond_true,if_pos h,Zwk x hl,Option.bind_some]
 ·rw[decide_eq_false h,cond_false,if_neg h]
end Go.Proofs

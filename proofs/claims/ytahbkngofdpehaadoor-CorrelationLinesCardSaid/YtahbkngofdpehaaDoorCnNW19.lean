/- The second implementation: the binary gcd. -/
import Derived.Test.YtahbkngofdpehaaDoorCnNW18
set_option linter.unusedVariables false
set_option linter.unusedSimpArgs false
set_option linter.unusedSectionVars false
namespace Go.Proofs
open Go Eng

theorem log2_half {x : Nat} (h : x ≠ 0) (he : x % 2 = 0) : x.log2 = (x / 2).log2 + 1 := by
  rw [Nat.log2_def x, if_pos (by omega)]
theorem lt_two_log (x : Nat) : x < 2 ^ (x.log2 + 1) := Nat.lt_log2_self
theorem log2_len {x n : Nat} (h : (wd x).length ≤ n) : x.log2 ≤ 32 * n := by
  rcases Nat.eq_zero_or_pos x with rfl | hp
  · rw [Nat.log2_zero]; omega
  · have h1 := Nat.log2_self_le (n := x) (by omega)
    have h2 := Nat.lt_of_lt_of_le (wd_lt_len x) (Nat.pow_le_pow_right (n := Bw) (by decide) h)
    rw [show Bw = 2 ^ 32 from rfl, ← Nat.pow_mul] at h2
    exact Nat.le_of_lt ((Nat.pow_lt_pow_iff_right (a := 2) (by decide)).1 (Nat.lt_of_le_of_lt h1 h2))

theorem gcd_odd {x b : Nat} (hb : b % 2 = 1) : Nat.gcd (2 * x) b = Nat.gcd x b := by
  have hc : Nat.Coprime 2 b := by
    unfold Nat.Coprime
    rw [Nat.gcd_rec, hb, Nat.gcd_one_left]
  exact Nat.Coprime.gcd_mul_left_cancel x hc

theorem l3_go (y : List Int) (k : Int) {x : Nat} (b : Nat) (hb : b % 2 = 1) (hx : x ≠ 0) (hl : (wd x).length ≤ 100000) : ∃ z, s_tablefinderref01_gcd_l3 big (iL (wd x)) y k = some (iL (wd z), y, k) ∧ z % 2 = 1 ∧ z ≤ x ∧ Nat.gcd z b = Nat.gcd x b := by
  have hm := log2_len hl
  refine odd_part (fun z => Nat.gcd z b = Nat.gcd x b) (f := fun n t => s_tablefinderref01_gcd_l3 n t.1 t.2.1 t.2.2) y k (fun n x hx hl => ?_) (fun z h => by rwa [gcd_odd hb] at h) big x hx hl rfl (x.log2 + 1) (lt_two_log x) (Nat.le_of_lt (big_lt (by omega)))
  show s_tablefinderref01_gcd_l3_b (s_tablefinderref01_gcd_l3 n) (iL (wd x)) y k = _
  unfold s_tablefinderref01_gcd_l3_b
  rw [low_eq hx, Option.bind_some, even_eq]
  by_cases h : x % 2 = 0
  · rw [decide_eq_true h, cond_true, if_pos h, halfR_eq x hl, Option.bind_some]
  · rw [decide_eq_false h, cond_false, if_neg h]
end Go.Proofs

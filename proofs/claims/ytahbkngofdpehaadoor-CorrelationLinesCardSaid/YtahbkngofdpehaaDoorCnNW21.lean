/- The second implementation: the binary gcd's main loop, the first number odd. -/
import Derived.Test.YtahbkngofdpehaaDoorCnNW20
set_option linter.unusedVariables false
set_option linter.unusedSimpArgs false
set_option linter.unusedSectionVars false
namespace Go.Proofs
open Go Eng

theorem l2_go (k : Int) : ∀ (n x y p q : Nat), x % 2 = 1 → (wd x).length ≤ 100000 → (wd y).length ≤ 100000 → x < 2 ^ p → y < 2 ^ q → p + q + y % 2 < n → s_tablefinderref01_gcd_l2 n (iL (wd x)) (iL (wd y)) k = some (iL (wd (Nat.gcd x y)), k)
  | 0, x, y, p, q, _, _, _, _, _, h => absurd h (by omega)
  | n + 1, x, y, p, q, ho, hxl, hyl, hp, hq, hn => by
    show s_tablefinderref01_gcd_l2_b (s_tablefinderref01_gcd_l2 n) _ _ _ = _
    unfold s_tablefinderref01_gcd_l2_b
    rw [iL_len]
    by_cases h0 : y = 0
    · subst h0
      rw [wd_zero, Nat.gcd_zero_right]; rfl
    · have hl := wd_len_pos h0
      obtain ⟨z, hz, hz1, hz2, hz3⟩ := l4_go (iL (wd x)) k x ho h0 hyl
      rw [decide_eq_true (by omega), cond_true, l3_odd _ _ ho, Option.bind_some]
      dsimp only
      unfold s_tablefinderref01_gcd_k3
      rw [hz, Option.bind_some]
      dsimp only
      have hzl := Nat.le_trans (wd_mono hz2.1) hyl
      unfold s_tablefinderref01_gcd_k4
      rw [cmpR_eq x z hxl hzl, Option.bind_some]
      obtain ⟨q', hq', hq2⟩ : ∃ q', z < 2 ^ q' ∧ q' + 1 ≤ q + y % 2 := by
        by_cases he : y % 2 = 0
        · cases q with
          | zero => rw [Nat.pow_zero] at hq; omega
          | succ q =>
            refine ⟨q, ?_, by omega⟩
            have := hz2.2 he
            rw [Nat.pow_succ] at hq; omega
        · exact ⟨q, by omega, by omega⟩
      unfold s_tablefinderref01_gcd_j5
      have eg : Nat.gcd x y = Nat.gcd x z := by rw [Nat.gcd_comm x y, ← hz3, Nat.gcd_comm]
      rw [eg]
      by_cases hc : z < x
      · rw [natC_gt hc, show decide ((1 : Int) > 0) = true from rfl, cond_true, subR_eq x z (by omega) hxl, Option.bind_some, l2_go k n z (x - z) q' p hz1 hzl (Nat.le_trans (wd_mono (Nat.sub_le x z)) hxl) hq' (by omega) (by omega), Nat.gcd_sub_self_right (by omega), Nat.gcd_comm]
      · have hnc : decide (natC x z > 0) = false := by
          refine decide_eq_false ?_
          unfold natC
          rw [if_neg hc]
          split <;> decide
        rw [hnc, cond_false, subR_eq z x (by omega) hzl, Option.bind_some, l2_go k n x (z - x) p q' ho hxl (Nat.le_trans (wd_mono (Nat.sub_le z x)) hzl) hp (by omega) (by omega), Nat.gcd_sub_self_right (by omega)]
end Go.Proofs

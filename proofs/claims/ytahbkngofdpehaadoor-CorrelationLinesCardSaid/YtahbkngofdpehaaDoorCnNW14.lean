/- The second implementation: words. -/
import Derived.Test.YtahbkngofdpehaaDoorCnNW13
set_option linter.unusedVariables false
set_option linter.unusedSimpArgs false
set_option linter.unusedSectionVars false
namespace Go.Proofs
open Go Eng

theorem trimR_l1 : ∀ n w, s_tablefinderref01_trim_l1 n w = s_fraction_trimmed_l1 n w
  | 0, _ => rfl
  | n + 1, w => by
    have : s_tablefinderref01_trim_l1 n = s_fraction_trimmed_l1 n := funext (trimR_l1 n)
    show s_tablefinderref01_trim_l1_b (s_tablefinderref01_trim_l1 n) w = s_fraction_trimmed_l1_b (s_fraction_trimmed_l1 n) w
    rw [this]; rfl
theorem trimR_same (w : List Int) : s_tablefinderref01_trim w = s_fraction_trimmed w := by
  unfold s_tablefinderref01_trim s_fraction_trimmed
  rw [trimR_l1]; rfl
theorem trimR_eq {l : List Nat} (h : Dg l) (hl : l.length ≤ 1000000) : s_tablefinderref01_trim (iL l) = some (iL (wd (val l))) := by rw [trimR_same, trim_eq h hl]
theorem bigR_eq (neg : Bool) {l : List Nat} (h : Dg l) (hl : l.length ≤ 1000000) : s_tablefinderref01_big neg (iL l) = some (bg (if neg then -(val l : Int) else val l)) := by
  unfold s_tablefinderref01_big s_tablefinderref01_big_j1
  rw [trimR_eq h hl, Option.bind_some, iL_len]
  unfold bg
  cases neg with
  | true =>
    rw [cond_true, if_pos rfl, Int.natAbs_neg, Int.natAbs_natCast]
    congr 2
    by_cases h0 : val l = 0
    · rw [h0, wd_zero]; rfl
    · have := wd_len_pos h0
      rw [decide_eq_true (by omega), decide_eq_true (by omega)]
  | false => rw [cond_false, if_neg (by decide), Int.natAbs_natCast, decide_eq_false (by omega)]
theorem validBigR_same (a : G_api_Big) : s_tablefinderref01_ValidBig a = s_fraction_ValidBig a := rfl
end Go.Proofs

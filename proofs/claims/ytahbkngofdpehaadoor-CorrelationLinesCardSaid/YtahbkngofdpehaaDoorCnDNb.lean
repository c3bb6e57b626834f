/- The kit's dice. -/
import Derived.Test.YtahbkngofdpehaaDoorCnS
import Derived.Test.YtahbkngofdpehaaDoorCnPKb
set_option linter.unusedVariables false
set_option linter.unusedSimpArgs false
set_option linter.unusedSectionVars false
namespace Go.Proofs
open Go Eng

theorem mod_wp (n : Int) {m : Int} (h : 1 ≤ m ∧ m ≤ 1000000) : wp (s_tablefinderkit_Mod n m) (fun r => 0 ≤ r ∧ r < m) := by
  have ha : -m < Int.tmod n m ∧ Int.tmod n m < m := ⟨Int.lt_tmod_of_pos n (by omega), Int.tmod_lt_of_pos n (by omega)⟩
  unfold s_tablefinderkit_Mod
  have h3 : decide (m < 1) = false := decide_eq_false (by omega)
  have h4 : decide (m ≠ 0) = true := decide_eq_true (by omega)
  rw [h3, cond_false, wp_chk, wp_chk, wp_chk, wp_some]
  exact ⟨h4, inK_i64 (by omega), h4, Int.tmod_nonneg _ (by omega), Int.tmod_lt_of_pos _ (by omega)⟩

end Go.Proofs

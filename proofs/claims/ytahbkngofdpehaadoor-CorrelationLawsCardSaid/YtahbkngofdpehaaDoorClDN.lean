/- The kit's dice. -/
import Derived.Test.YtahbkngofdpehaaDoorClS
import Derived.Test.YtahbkngofdpehaaDoorClPKb
set_option linter.unusedVariables false
set_option linter.unusedSimpArgs false
set_option linter.unusedSectionVars false
namespace Go.Proofs
open Go Eng

theorem mod_wp (n : Int) {m : Int} (h : 1 ≤ m ∧ m ≤ 1000000) : wp (s_tablefinderkit_Mod n m) (fun r => 0 ≤ r ∧ r < m) := by
  have ha : -m < Int.tmod n m ∧ Int.tmod n m < m := ⟨Int.lt_tmod_of_pos n (by omega), Int.tmod_lt_of_pos n (by omega)⟩
  unfold s_tablefinderkit_Mod
  have h3 : decide (m < 1) = false := decide_eq_false (by omega)
  have h4 : decide (m ≠ 0) = true := decide_eq_true (by omega)
  rw [h3, cond_false, wp_chk, wp_chk, wp_chk, wp_some]
  exact ⟨h4, inK_i64 (by omega), h4, Int.tmod_nonneg _ (by omega), Int.tmod_lt_of_pos _ (by omega)⟩

def DiceOk (d : G_tablefinderkit_Dice) : Prop := 0 ≤ d.at_ ∧ d.at_ ≤ d.l.length ∧ d.l.length ≤ 500

theorem next_wp {d : G_tablefinderkit_Dice} (hd : DiceOk d) {n : Int} (hn : 1 ≤ n ∧ n ≤ 1000000) : wp (s_tablefinderkit_Dice_Next d n) (fun r => (0 ≤ r.1 ∧ r.1 < n) ∧ DiceOk r.2) := by
  unfold s_tablefinderkit_Dice_Next
  have hd0 := hd
  obtain ⟨h0, h1, h2⟩ := hd0
  rw [wp_bif]
  refine ⟨fun h => ?_, fun h => ?_⟩
  · rw [wp_some]; exact ⟨by simp only; omega, hd⟩
  · simp only [decide_eq_false_iff_not] at h
    simp only [wp_chk, wp_bind, wp_idx, wp_some]
    refine ⟨inK_i64 (by omega), inK_i64 (by omega), by omega, by omega, wp_mono (mod_wp _ hn) fun r hr => ⟨hr, ?_⟩⟩
    simp only [DiceOk]; omega
end Go.Proofs

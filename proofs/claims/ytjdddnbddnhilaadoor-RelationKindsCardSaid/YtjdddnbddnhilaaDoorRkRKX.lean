/- The numbers of an array that is handed over. -/
import Derived.Test.YtjdddnbddnhilaaDoorRkU
import Derived.Test.YtjdddnbddnhilaaDoorRkStrIn
set_option linter.unusedVariables false
set_option linter.unusedSimpArgs false
set_option linter.unusedSectionVars false
namespace Go.Proofs
open Go Eng

theorem arr6_of {w : World} {S : Nat → Prop} {v : Value} {y : G_arr6_Int} (h : RelP w S v (enc_G_arr6_Int y)) : (0 ≤ y.e0 ∧ y.e0 ≤ 255) ∧ (0 ≤ y.e1 ∧ y.e1 ≤ 255) := by
  have h0 := h.ints (k := .u8) (n := y.e0) (.agg (by simp) .int)
  have h1 := h.ints (k := .u8) (n := y.e1) (.agg (c := .int .u8 y.e1) (by simp) .int)
  rw [u8_min, u8_max] at h0 h1
  exact ⟨h0, h1⟩

end Go.Proofs

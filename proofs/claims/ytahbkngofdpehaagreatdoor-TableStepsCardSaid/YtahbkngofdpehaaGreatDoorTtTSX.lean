/- The bytes, the number and the text that are handed over. -/
import Derived.Test.YtahbkngofdpehaaGreatDoorTtU
import Derived.Test.YtahbkngofdpehaaGreatDoorTtStrIn
set_option linter.unusedVariables false
set_option linter.unusedSimpArgs false
set_option linter.unusedSectionVars false
namespace Go.Proofs
open Go Eng

theorem bytes_of {w : World} {S : Nat → Prop} {v : Value} {y : List Int} (h : RelP w S v (U.encE (.sl (.int .u8)) y)) : ∀ x ∈ y, 0 ≤ x ∧ x ≤ 255 := by
  obtain ⟨n, h'⟩ : ∃ n, RelP w S v (.sl n (y.map fun z => P.int .u8 z)) := ⟨_, h⟩
  intro x hx
  have := h'.ints (k := .u8) (n := x) (.sl (List.mem_map.2 ⟨x, hx, rfl⟩) .int)
  rw [u8_min, u8_max] at this
  exact this
theorem i64_of {w : World} {S : Nat → Prop} {v : Value} {y : Int} (h : RelP w S v (U.encE (.int .i64) y)) : -9223372036854775808 ≤ y ∧ y ≤ 9223372036854775807 := by
  have h' : RelP w S v (P.int .i64 y) := h
  have := h'.ints (k := .i64) (n := y) .int
  rw [show IntKind.min .i64 = -9223372036854775808 from by decide, show IntKind.max .i64 = 9223372036854775807 from by decide] at this
  exact this
theorem text_of {w : World} {S : Nat → Prop} {v : Value} {y : G_api_Cell} (h : RelP w S v (U.encE (.st 0) y)) : y.Text.length ≤ 9223372036854775807 := by
  have hm : maxInt = 9223372036854775807 := by decide
  have h' : RelP w S v (enc_G_api_Cell y) := h
  unfold enc_G_api_Cell at h'
  rw [← hm]
  exact h'.strs (.agg (by simp) .str)
end Go.Proofs

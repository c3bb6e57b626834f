/- The bytes that are handed over. -/
import Derived.Test.YtahbkngofdpehaaDoorTsU
import Derived.Test.YtahbkngofdpehaaDoorTsStrIn
set_option linter.unusedVariables false
set_option linter.unusedSimpArgs false
set_option linter.unusedSectionVars false
namespace Go.Proofs
open Go Eng

theorem bytes_of {w : World} {S : Nat → Prop} {v : Value} {y : List Int} (h : RelP w S v (U.encE (.sl (.int .u8)) y)) : ∀ x ∈ y, 0 ≤ x ∧ x ≤ 255 := by
  obtain ⟨n, h'⟩ : ∃ n, RelP w S v (.sl n (y.map fun z => P.int .u8 z)) := ⟨_, h⟩
  intro x hx
  have := h'.ints (k := .u8) (n := x) (.sl (List.mem_map.2 ⟨x, hx, rfl⟩) .int)
  rw [u8_min, u8_max] at this
  exact this
end Go.Proofs

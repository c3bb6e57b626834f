/- The numbers of a byte with a sign that are handed over. -/
import Derived.Test.YtahbkngofdpehaaDoorCnU
import Derived.Test.YtahbkngofdpehaaDoorCnStrIn
set_option linter.unusedVariables false
set_option linter.unusedSimpArgs false
set_option linter.unusedSectionVars false
namespace Go.Proofs
open Go Eng

theorem i8s_of {w : World} {S : Nat → Prop} {v : Value} {y : List Int} (h : RelP w S v (U.encE (.sl (.int .i8)) y)) : ∀ x ∈ y, -128 ≤ x ∧ x ≤ 127 := by
  obtain ⟨n, h'⟩ : ∃ n, RelP w S v (.sl n (y.map fun z => P.int .i8 z)) := ⟨_, h⟩
  intro x hx
  have := h'.ints (k := .i8) (n := x) (.sl (List.mem_map.2 ⟨x, hx, rfl⟩) .int)
  rw [show IntKind.min .i8 = -128 from by decide, show IntKind.max .i8 = 127 from by decide] at this
  exact this
end Go.Proofs

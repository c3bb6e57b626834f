/- The law's own example. -/
import Derived.Test.YtjdddnbddnhilaaDoorRkRF
set_option linter.unusedVariables false
set_option linter.unusedSimpArgs false
set_option linter.unusedSectionVars false
namespace Go.Proofs
open Go Eng

theorem awake29 : s_tablefinderlaw29_awake = some true := by
  unfold s_tablefinderlaw29_awake
  rw [of_eq _ _ _ _ ⟨by simp, by simp⟩ ⟨by simp, by simp⟩]
  kernel_rfl

end Go.Proofs

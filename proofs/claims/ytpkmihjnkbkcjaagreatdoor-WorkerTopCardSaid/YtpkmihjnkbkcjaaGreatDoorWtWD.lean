/- A seal. -/
import Derived.Laws.RangeAny
set_option linter.unusedVariables false
set_option linter.unusedSimpArgs false
set_option linter.unusedSectionVars false
namespace Go.Proofs
open Go
noncomputable def ZCf {α:Type} (a:α):α:=Classical.choose (⟨a,rfl⟩:∃x,x=a)
theorem ZzJ {α:Type} (a:α):ZCf a=a:=Classical.choose_spec (⟨a,rfl⟩:∃x,x=a)
end Go.Proofs

/- A seal. -/
import Derived.Laws.RangeAny
set_option linter.all false
namespace Go.Proofs
open Go
noncomputable def ZOv {b:Type} (a:b):b:=Classical.choose (⟨a,rfl⟩:∃x,x=a)
theorem ZFA {b:Type} (a:b):ZOv a=a:=Classical.choose_spec (⟨a,rfl⟩:∃x,x=a)
end Go.Proofs

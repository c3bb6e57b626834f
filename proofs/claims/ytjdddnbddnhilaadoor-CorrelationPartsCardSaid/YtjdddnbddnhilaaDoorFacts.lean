/- Closed facts of the program, for all rows of the seat. -/
import Derived.Test.YtjdddnbddnhilaaDoorRows
import Derived.Test.YtjdddnbddnhilaaDoorCards
import Derived.ProofKit
import Derived.SevenTiedAt
set_option linter.unusedVariables false
set_option linter.unusedSimpArgs false
set_option linter.unusedSectionVars false
set_option maxRecDepth 100000
namespace Go.Proofs.YtjdddnbddnhilaaDoor.facts
theorem fact1 : (laidOutB Tryd.prog) = true := by kernel_rfl
theorem fact2 : (mapsRowed Tryd.prog) = true := by kernel_rfl
theorem fact6 : ((Tryd.prog.stops == [])) = true := by kernel_rfl
theorem fact8 : ((Tryd.prog.stopKnobs == [])) = true := by kernel_rfl
theorem fact22 : ((Rows.relationOfRow.plainKeys == Tryd.prog.plainKeys)) = true := by kernel_rfl
theorem fact24 : (Tryd.prog.stopsHeard) = true := by kernel_rfl
theorem fact25 : (Tryd.prog.mayEnter) = true := by kernel_rfl
theorem fact26 : ((Rows.relationOfRow.lifted == Tryd.prog.liftsFinal)) = true := by kernel_rfl
theorem fact27 : ((Tryd.prog.make == some Rows.relationOfRow.make)) = true := by kernel_rfl
theorem mainIs_ : Tryd.prog.mainIs = some ((true, "fe002f48e3566b7bfabc7ef5f58aca63e3b1c8255176ac4aac7689c909d0d442").1, (true, "fe002f48e3566b7bfabc7ef5f58aca63e3b1c8255176ac4aac7689c909d0d442").2.toList) := by kernel_rfl
theorem looks_ : false = Tryd.prog.looks [] := by kernel_rfl
end Go.Proofs.YtjdddnbddnhilaaDoor.facts

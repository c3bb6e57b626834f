/- Closed facts of the program, for all rows of the seat. -/
import Derived.Test.YtahbkngofdpehaaDoorRows
import Derived.Test.YtahbkngofdpehaaDoorCards
import Derived.ProofKit
import Derived.SevenTiedAt
set_option linter.unusedVariables false
set_option linter.unusedSimpArgs false
set_option linter.unusedSectionVars false
set_option maxRecDepth 100000
namespace Go.Proofs.YtahbkngofdpehaaDoor.facts
theorem fact1 : (laidOutB Tryd.prog) = true := by kernel_rfl
theorem fact2 : (mapsRowed Tryd.prog) = true := by kernel_rfl
theorem fact6 : ((Tryd.prog.stops == [])) = true := by kernel_rfl
theorem fact8 : ((Tryd.prog.stopKnobs == [])) = true := by kernel_rfl
theorem fact22 : ((Rows.correlationLawsRow.plainKeys == Tryd.prog.plainKeys)) = true := by kernel_rfl
theorem fact24 : (Tryd.prog.stopsHeard) = true := by kernel_rfl
theorem fact25 : (Tryd.prog.mayEnter) = true := by kernel_rfl
theorem fact26 : ((Rows.correlationLawsRow.lifted == Tryd.prog.liftsFinal)) = true := by kernel_rfl
theorem fact27 : ((Tryd.prog.make == some Rows.correlationLawsRow.make)) = true := by kernel_rfl
theorem mainIs_ : Tryd.prog.mainIs = some ((true, "eec583a55967367a8612e427ddfa2e8e8fb9bce4814b0ecaca0ef50afc55f610").1, (true, "eec583a55967367a8612e427ddfa2e8e8fb9bce4814b0ecaca0ef50afc55f610").2.toList) := by kernel_rfl
theorem looks_ : false = Tryd.prog.looks [] := by kernel_rfl
end Go.Proofs.YtahbkngofdpehaaDoor.facts

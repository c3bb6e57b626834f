/- Closed facts of the program, for all rows of the seat. -/
import Derived.Test.YtahbkngofdpehaaGreatDoorRows
import Derived.Test.YtahbkngofdpehaaGreatDoorCards
import Derived.ProofKit
import Derived.SevenTiedAt
set_option linter.unusedVariables false
set_option linter.unusedSimpArgs false
set_option linter.unusedSectionVars false
set_option maxRecDepth 100000
namespace Go.Proofs.YtahbkngofdpehaaGreatDoor.facts
theorem fact1 : (laidOutB Tryz.prog) = true := by kernel_rfl
theorem fact2 : (mapsRowed Tryz.prog) = true := by kernel_rfl
theorem fact6 : ((Tryz.prog.stops == [])) = true := by kernel_rfl
theorem fact8 : ((Tryz.prog.stopKnobs == [])) = true := by kernel_rfl
theorem fact22 : ((Rows.workerTopRow.plainKeys == Tryz.prog.plainKeys)) = true := by kernel_rfl
theorem fact24 : (Tryz.prog.stopsHeard) = true := by kernel_rfl
theorem fact25 : (Tryz.prog.mayEnter) = true := by kernel_rfl
theorem fact26 : ((Rows.workerTopRow.lifted == Tryz.prog.liftsFinal)) = true := by kernel_rfl
theorem fact27 : ((Tryz.prog.make == some Rows.workerTopRow.make)) = true := by kernel_rfl
theorem mainIs_ : Tryz.prog.mainIs = some ((true, "9637301d239bb3d334a75e8279a1906919cae3986eda3b3a7ba60539dcc99076").1, (true, "9637301d239bb3d334a75e8279a1906919cae3986eda3b3a7ba60539dcc99076").2.toList) := by kernel_rfl
theorem looks_ : false = Tryz.prog.looks [] := by kernel_rfl
end Go.Proofs.YtahbkngofdpehaaGreatDoor.facts

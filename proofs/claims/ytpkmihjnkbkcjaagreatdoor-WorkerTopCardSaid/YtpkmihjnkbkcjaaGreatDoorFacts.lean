/- Closed facts of the program, for all rows of the seat. -/
import Derived.Test.YtpkmihjnkbkcjaaGreatDoorRows
import Derived.Test.YtpkmihjnkbkcjaaGreatDoorCards
import Derived.ProofKit
import Derived.SevenTiedAt
set_option linter.unusedVariables false
set_option linter.unusedSimpArgs false
set_option linter.unusedSectionVars false
set_option maxRecDepth 100000
namespace Go.Proofs.YtpkmihjnkbkcjaaGreatDoor.facts
theorem fact1:(laidOutB Tryz.prog)=true:=by kernel_rfl
theorem fact2:(mapsRowed Tryz.prog)=true:=by kernel_rfl
theorem fact6:((Tryz.prog.stops == []))=true:=by kernel_rfl
theorem fact8:((Tryz.prog.stopKnobs == []))=true:=by kernel_rfl
theorem fact22:((Rows.workerTopRow.plainKeys == Tryz.prog.plainKeys))=true:=by kernel_rfl
theorem fact24:(Tryz.prog.stopsHeard)=true:=by kernel_rfl
theorem fact25:(Tryz.prog.mayEnter)=true:=by kernel_rfl
theorem fact26:((Rows.workerTopRow.lifted == Tryz.prog.liftsFinal))=true:=by kernel_rfl
theorem fact27:((Tryz.prog.make == some Rows.workerTopRow.make))=true:=by kernel_rfl
theorem mainIs_:Tryz.prog.mainIs=some ((true, "2fec9bf7bbaaffceda9010671acb48213e9893f7ecc1bd25ee202b914df478ab").1,(true, "2fec9bf7bbaaffceda9010671acb48213e9893f7ecc1bd25ee202b914df478ab").2.toList):=by kernel_rfl
theorem looks_:false=Tryz.prog.looks []:=by kernel_rfl
end Go.Proofs.YtpkmihjnkbkcjaaGreatDoor.facts

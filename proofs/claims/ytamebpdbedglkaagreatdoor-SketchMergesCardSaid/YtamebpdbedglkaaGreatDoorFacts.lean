/- Closed facts of the program, for all rows of the seat. -/
import Derived.Test.YtamebpdbedglkaaGreatDoorRows
import Derived.Test.YtamebpdbedglkaaGreatDoorCards
import Derived.ProofKit
import Derived.SevenTiedAt
set_option linter.unusedVariables false
set_option linter.unusedSimpArgs false
set_option linter.unusedSectionVars false
set_option maxRecDepth 100000
namespace Go.Proofs.YtamebpdbedglkaaGreatDoor.facts
theorem fact1:(laidOutB Tryz.prog)=true:=by kernel_rfl
theorem fact2:(mapsRowed Tryz.prog)=true:=by kernel_rfl
theorem fact6:((Tryz.prog.stops == []))=true:=by kernel_rfl
theorem fact8:((Tryz.prog.stopKnobs == []))=true:=by kernel_rfl
theorem fact22:((Rows.sketchExactRow.plainKeys == Tryz.prog.plainKeys))=true:=by kernel_rfl
theorem fact24:(Tryz.prog.stopsHeard)=true:=by kernel_rfl
theorem fact25:(Tryz.prog.mayEnter)=true:=by kernel_rfl
theorem fact26:((Rows.sketchExactRow.lifted == Tryz.prog.liftsFinal))=true:=by kernel_rfl
theorem fact27:((Tryz.prog.make == some Rows.sketchExactRow.make))=true:=by kernel_rfl
theorem mainIs_:Tryz.prog.mainIs=some ((true, "3c638803a5fc33a7879a1a6edbdf40d1120690d0ec6b0e325eb9ad0aae38d510").1,(true, "3c638803a5fc33a7879a1a6edbdf40d1120690d0ec6b0e325eb9ad0aae38d510").2.toList):=by kernel_rfl
theorem looks_:true=Tryz.prog.looks []:=by kernel_rfl
end Go.Proofs.YtamebpdbedglkaaGreatDoor.facts

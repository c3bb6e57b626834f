/- Closed facts of the program, for all rows of the seat. -/
import Derived.Test.YtbjnddlpdlfknaaGreatDoorRows
import Derived.Test.YtbjnddlpdlfknaaGreatDoorCards
import Derived.ProofKit
import Derived.SevenTiedAt
set_option linter.unusedVariables false
set_option linter.unusedSimpArgs false
set_option linter.unusedSectionVars false
set_option maxRecDepth 100000
namespace Go.Proofs.YtbjnddlpdlfknaaGreatDoor.facts
theorem fact1:(laidOutB Tryz.prog)=true:=by kernel_rfl
theorem fact2:(mapsRowed Tryz.prog)=true:=by kernel_rfl
theorem fact6:((Tryz.prog.stops == []))=true:=by kernel_rfl
theorem fact8:((Tryz.prog.stopKnobs == []))=true:=by kernel_rfl
theorem fact22:((Rows.sketchSmallRow.plainKeys == Tryz.prog.plainKeys))=true:=by kernel_rfl
theorem fact24:(Tryz.prog.stopsHeard)=true:=by kernel_rfl
theorem fact25:(Tryz.prog.mayEnter)=true:=by kernel_rfl
theorem fact26:((Rows.sketchSmallRow.lifted == Tryz.prog.liftsFinal))=true:=by kernel_rfl
theorem fact27:((Tryz.prog.make == some Rows.sketchSmallRow.make))=true:=by kernel_rfl
theorem mainIs_:Tryz.prog.mainIs=some ((true, "c1238d137551f79098629bacbf4651e08366f198a9e459edac437b5f1ba99b83").1,(true, "c1238d137551f79098629bacbf4651e08366f198a9e459edac437b5f1ba99b83").2.toList):=by kernel_rfl
theorem looks_:true=Tryz.prog.looks []:=by kernel_rfl
end Go.Proofs.YtbjnddlpdlfknaaGreatDoor.facts

/- Closed facts of the program, for all rows of the seat. -/
import Derived.Test.YteopakpakelkoaaGreatDoorRows
import Derived.Test.YteopakpakelkoaaGreatDoorCards
import Derived.ProofKit
import Derived.SevenTiedAt
set_option linter.unusedVariables false
set_option linter.unusedSimpArgs false
set_option linter.unusedSectionVars false
set_option maxRecDepth 100000
namespace Go.Proofs.YteopakpakelkoaaGreatDoor.facts
theorem fact1:(laidOutB Tryz.prog)=true:=by kernel_rfl
theorem fact2:(mapsRowed Tryz.prog)=true:=by kernel_rfl
theorem fact6:((Tryz.prog.stops == []))=true:=by kernel_rfl
theorem fact8:((Tryz.prog.stopKnobs == []))=true:=by kernel_rfl
theorem fact22:((Rows.unionsearchPairsRow.plainKeys == Tryz.prog.plainKeys))=true:=by kernel_rfl
theorem fact24:(Tryz.prog.stopsHeard)=true:=by kernel_rfl
theorem fact25:(Tryz.prog.mayEnter)=true:=by kernel_rfl
theorem fact26:((Rows.unionsearchPairsRow.lifted == Tryz.prog.liftsFinal))=true:=by kernel_rfl
theorem fact27:((Tryz.prog.make == some Rows.unionsearchPairsRow.make))=true:=by kernel_rfl
theorem mainIs_:Tryz.prog.mainIs=some ((true, "227b809be0a86251cf4fa55eab6459dd828d42d5c56f64c9df674cc8dd32c7d3").1,(true, "227b809be0a86251cf4fa55eab6459dd828d42d5c56f64c9df674cc8dd32c7d3").2.toList):=by kernel_rfl
theorem looks_:true=Tryz.prog.looks []:=by kernel_rfl
end Go.Proofs.YteopakpakelkoaaGreatDoor.facts

/- Closed facts of the program, for all rows of the seat. -/
import Derived.Test.YtcjejmbjlhlkhaaGreatDoorRows
import Derived.Test.YtcjejmbjlhlkhaaGreatDoorCards
import Derived.ProofKit
import Derived.SevenTiedAt
set_option linter.unusedVariables false
set_option linter.unusedSimpArgs false
set_option linter.unusedSectionVars false
set_option maxRecDepth 100000
namespace Go.Proofs.YtcjejmbjlhlkhaaGreatDoor.facts
theorem fact1:(laidOutB Tryz.prog)=true:=by kernel_rfl
theorem fact2:(mapsRowed Tryz.prog)=true:=by kernel_rfl
theorem fact6:((Tryz.prog.stops == []))=true:=by kernel_rfl
theorem fact8:((Tryz.prog.stopKnobs == []))=true:=by kernel_rfl
theorem fact22:((Rows.correlationTopRow.plainKeys == Tryz.prog.plainKeys))=true:=by kernel_rfl
theorem fact24:(Tryz.prog.stopsHeard)=true:=by kernel_rfl
theorem fact25:(Tryz.prog.mayEnter)=true:=by kernel_rfl
theorem fact26:((Rows.correlationTopRow.lifted == Tryz.prog.liftsFinal))=true:=by kernel_rfl
theorem fact27:((Tryz.prog.make == some Rows.correlationTopRow.make))=true:=by kernel_rfl
theorem mainIs_:Tryz.prog.mainIs=some ((true, "8c1e79d6d7e186442841f620b9d2c369256a9ddc5eaf677d6ac381433b379919").1,(true, "8c1e79d6d7e186442841f620b9d2c369256a9ddc5eaf677d6ac381433b379919").2.toList):=by kernel_rfl
theorem looks_:true=Tryz.prog.looks []:=by kernel_rfl
end Go.Proofs.YtcjejmbjlhlkhaaGreatDoor.facts

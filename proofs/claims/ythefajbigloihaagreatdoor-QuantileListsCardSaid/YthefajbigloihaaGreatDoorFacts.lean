/- Closed facts of the program, for all rows of the seat. -/
import Derived.Test.YthefajbigloihaaGreatDoorRows
import Derived.Test.YthefajbigloihaaGreatDoorCards
import Derived.ProofKit
import Derived.SevenTiedAt
set_option linter.unusedVariables false
set_option linter.unusedSimpArgs false
set_option linter.unusedSectionVars false
set_option maxRecDepth 100000
namespace Go.Proofs.YthefajbigloihaaGreatDoor.facts
theorem fact1:(laidOutB Tryz.prog)=true:=by kernel_rfl
theorem fact2:(mapsRowed Tryz.prog)=true:=by kernel_rfl
theorem fact6:((Tryz.prog.stops == []))=true:=by kernel_rfl
theorem fact8:((Tryz.prog.stopKnobs == []))=true:=by kernel_rfl
theorem fact22:((Rows.sketchMakesRow.plainKeys == Tryz.prog.plainKeys))=true:=by kernel_rfl
theorem fact24:(Tryz.prog.stopsHeard)=true:=by kernel_rfl
theorem fact25:(Tryz.prog.mayEnter)=true:=by kernel_rfl
theorem fact26:((Rows.sketchMakesRow.lifted == Tryz.prog.liftsFinal))=true:=by kernel_rfl
theorem fact27:((Tryz.prog.make == some Rows.sketchMakesRow.make))=true:=by kernel_rfl
theorem mainIs_:Tryz.prog.mainIs=some ((true, "cbb9050748a371b4c6446a223b38c2a958a8cc32d44cb5e0acb64c81ff403e1f").1,(true, "cbb9050748a371b4c6446a223b38c2a958a8cc32d44cb5e0acb64c81ff403e1f").2.toList):=by kernel_rfl
theorem looks_:true=Tryz.prog.looks []:=by kernel_rfl
end Go.Proofs.YthefajbigloihaaGreatDoor.facts

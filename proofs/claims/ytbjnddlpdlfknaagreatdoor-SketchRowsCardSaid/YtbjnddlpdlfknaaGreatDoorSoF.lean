/- Closed facts of the row SketchRows and of the program. -/
import Derived.Test.YtbjnddlpdlfknaaGreatDoorFacts
set_option linter.unusedVariables false
set_option linter.unusedSimpArgs false
set_option linter.unusedSectionVars false
set_option maxRecDepth 100000
namespace Go.Proofs.YtbjnddlpdlfknaaGreatDoor.sketchRows
theorem ZDu:(Rows.sketchRowsRow.wf (OpenSpec.ofChange Rows.sketchRowsSpec))=true:=by kernel_rfl
theorem fact1:(laidOutB Tryz.prog)=true:=facts.fact1
theorem fact2:(mapsRowed Tryz.prog)=true:=facts.fact2
theorem ZDt:(Tryz.f4.params.all (Tryz.prog.readableRec ·))=true:=by kernel_rfl
theorem ZDs:(namedTie Tryz.prog Rows.sketchRowsRow.named Rows.sketchRowsSpec.vars)=true:=by kernel_rfl
theorem ZDr:((Rows.sketchRowsRow.stops == []))=true:=by kernel_rfl
theorem fact6:((Tryz.prog.stops == []))=true:=facts.fact6
theorem ZDq:((Rows.sketchRowsRow.knobs == []))=true:=by kernel_rfl
theorem fact8:((Tryz.prog.stopKnobs == []))=true:=facts.fact8
theorem ZDp:((Rows.sketchRowsRow.inPlace == Tryz.prog.inPlace 4))=true:=by kernel_rfl
theorem ZB4:((Rows.sketchRowsRow.unfollowed == Tryz.prog.unfollowed 4))=true:=by kernel_rfl
theorem ZB3:((Rows.sketchRowsRow.recurses == Tryz.prog.recurses 4))=true:=by kernel_rfl
theorem ZB2:((Rows.sketchRowsRow.named == Tryz.prog.varsNamed 4))=true:=by kernel_rfl
theorem ZB1:((Rows.sketchRowsRow.maps == (Tryz.f4.params.toList++Rows.sketchRowsSpec.plain.varTypes Tryz.prog).any (Tryz.prog.mapsRec ·)))=true:=by kernel_rfl
theorem ZB0:((Rows.sketchRowsRow.ifaces == (Tryz.f4.params.toList++Rows.sketchRowsSpec.plain.varTypes Tryz.prog).any (Tryz.prog.ifacesRec ·)))=true:=by kernel_rfl
theorem ZBZ:((Rows.sketchRowsRow.mapsOut == Tryz.prog.mapsAmong Tryz.f4.resultTypes.toList))=true:=by kernel_rfl
theorem ZBY:((Rows.sketchRowsRow.loops == (Tryz.f4.params.toList++Rows.sketchRowsSpec.plain.varTypes Tryz.prog).any (Tryz.prog.loopsFrom ·)))=true:=by kernel_rfl
theorem ZBX:((Rows.sketchRowsRow.wideKeys == (Tryz.f4.params.toList++Rows.sketchRowsSpec.plain.varTypes Tryz.prog++Tryz.f4.resultTypes.toList).any (Tryz.prog.wideKeysFrom ·)))=true:=by kernel_rfl
theorem ZBW:(Rows.sketchRowsSpec.vars.all (Tryz.prog.varReadable ·))=true:=by kernel_rfl
theorem ZBV:(Tryz.f4.resultTypes.all (fun t=>Tryz.prog.readableRec t&&decide (t < Tryz.prog.types.size)))=true:=by kernel_rfl
theorem ZBU:((Rows.sketchRowsRow.ifacesOut == Tryz.f4.resultTypes.toList.any (Tryz.prog.ifacesRec ·)))=true:=by kernel_rfl
theorem ZBT:((Rows.sketchRowsRow.loopsOut == Tryz.f4.resultTypes.toList.any (Tryz.prog.loopsFrom ·)))=true:=by kernel_rfl
theorem fact22:((Rows.sketchRowsRow.plainKeys == Tryz.prog.plainKeys))=true:=facts.fact22
theorem ZBS:(Rows.sketchRowsRow.shortTexts.isNone)=true:=by kernel_rfl
theorem fact24:(Tryz.prog.stopsHeard)=true:=facts.fact24
theorem fact25:(Tryz.prog.mayEnter)=true:=facts.fact25
theorem fact26:((Rows.sketchRowsRow.lifted == Tryz.prog.liftsFinal))=true:=facts.fact26
theorem fact27:((Tryz.prog.make == some Rows.sketchRowsRow.make))=true:=facts.fact27
theorem ZBR:((Rows.sketchRowsRow.kinds == (if Rows.sketchRowsRow.domain.isEmpty then []else Tryz.f4.params.toList.map fun t=>match Tryz.prog.underlying t with |some (.int k)=>some k |_=>none)))=true:=by kernel_rfl
theorem ZBQ:((Rows.sketchRowsRow.pinned == Rows.sketchRowsRow.pinnedBy))=true:=by kernel_rfl
theorem ZBP:((Rows.sketchRowsRow.veiled == (Tryz.f4.params.toList++Rows.sketchRowsSpec.plain.varTypes Tryz.prog++Tryz.f4.resultTypes.toList).any (Tryz.prog.veiledRec ·)))=true:=by kernel_rfl
theorem ZBO:(Rows.sketchRowsRow.veiledFits Tryz.prog Tryz.f4.params.toList (Tryz.f4.params.toList++Rows.sketchRowsSpec.plain.varTypes Tryz.prog++Tryz.f4.resultTypes.toList))=true:=by kernel_rfl
theorem Zwe {a b:Bool} (h:a=true) (h':b=true):(a&&b)=true:=by rw[h,h'];rfl
theorem ZB6:joinedFacts Tryz.prog 4 Tryz.f4 Rows.sketchRowsSpec Rows.sketchRowsRow=true:=by unfold joinedFacts;exact(Zwe (Zwe (Zwe (Zwe (Zwe (Zwe (Zwe (Zwe (Zwe (Zwe (Zwe (Zwe (Zwe (Zwe (Zwe (Zwe (Zwe (Zwe (Zwe (Zwe (Zwe (Zwe (Zwe (Zwe (Zwe (Zwe (Zwe (Zwe (Zwe (Zwe (Zwe ZDu fact1) fact2) ZDt) ZDs) ZDr) fact6) ZDq) fact8) ZDp) ZB4) ZB3) ZB2) ZB1) ZB0) ZBZ) ZBY) ZBX) ZBW) ZBV) ZBU) ZBT) fact22) ZBS) fact24) fact25) fact26) fact27) ZBR) ZBQ) ZBP) ZBO)
theorem ZzV:Tryz.prog.funcNamed "tablefinder/tablefinderlaw24.SketchRows" =some 4:=by kernel_rfl
theorem ZDm:Tryz.f4.isInstance Tryz.prog Rows.sketchRowsRow.origin Rows.sketchRowsRow.targs:=of_decide_eq_true (by kernel_rfl)
theorem ZDb:Tryz.f4.isWrapper Tryz.prog Rows.sketchRowsRow.wrapper Rows.sketchRowsRow.mainSum:=by unfold Func.isWrapper;first |(rw[if_pos (by decide+kernel)];kernel_rfl) |(rw[if_neg (by decide+kernel)];exact⟨rfl,rfl⟩)
theorem ZBq:Rows.sketchRowsRow.wfByText (OpenSpec.ofChange Rows.sketchRowsSpec)=true:=by kernel_rfl
theorem mainIs_:Tryz.prog.mainIs=some ((true, "c1238d137551f79098629bacbf4651e08366f198a9e459edac437b5f1ba99b83").1,(true, "c1238d137551f79098629bacbf4651e08366f198a9e459edac437b5f1ba99b83").2.toList):=facts.mainIs_
theorem ZDo:false=Rows.sketchRowsRow.goesBy Tryz.prog:=by kernel_rfl
theorem looks_:true=Tryz.prog.looks []:=facts.looks_
theorem ZBu:([22,3,3].all fun u=> !Tryz.prog.wantsStandIn u)=true:=by kernel_rfl
end Go.Proofs.YtbjnddlpdlfknaaGreatDoor.sketchRows

/- Closed facts of the row CorrelationTop and of the program. -/
import Derived.Test.YtcjejmbjlhlkhaaGreatDoorFacts
set_option linter.unusedVariables false
set_option linter.unusedSimpArgs false
set_option linter.unusedSectionVars false
set_option maxRecDepth 100000
namespace Go.Proofs.YtcjejmbjlhlkhaaGreatDoor.correlationTop
theorem Z11:(Rows.correlationTopRow.wf (OpenSpec.ofChange Rows.correlationTopSpec))=true:=by kernel_rfl
theorem fact1:(laidOutB Tryz.prog)=true:=facts.fact1
theorem fact2:(mapsRowed Tryz.prog)=true:=facts.fact2
theorem Z10:(Tryz.f3.params.all (Tryz.prog.readableRec ·))=true:=by kernel_rfl
theorem Z1Z:(namedTie Tryz.prog Rows.correlationTopRow.named Rows.correlationTopSpec.vars)=true:=by kernel_rfl
theorem Z1Y:((Rows.correlationTopRow.stops == []))=true:=by kernel_rfl
theorem fact6:((Tryz.prog.stops == []))=true:=facts.fact6
theorem Z1X:((Rows.correlationTopRow.knobs == []))=true:=by kernel_rfl
theorem fact8:((Tryz.prog.stopKnobs == []))=true:=facts.fact8
theorem Z1W:((Rows.correlationTopRow.inPlace == Tryz.prog.inPlace 3))=true:=by kernel_rfl
theorem ZY5:((Rows.correlationTopRow.unfollowed == Tryz.prog.unfollowed 3))=true:=by kernel_rfl
theorem ZY4:((Rows.correlationTopRow.recurses == Tryz.prog.recurses 3))=true:=by kernel_rfl
theorem ZY3:((Rows.correlationTopRow.named == Tryz.prog.varsNamed 3))=true:=by kernel_rfl
theorem ZY2:((Rows.correlationTopRow.maps == (Tryz.f3.params.toList++Rows.correlationTopSpec.plain.varTypes Tryz.prog).any (Tryz.prog.mapsRec ·)))=true:=by kernel_rfl
theorem ZY1:((Rows.correlationTopRow.ifaces == (Tryz.f3.params.toList++Rows.correlationTopSpec.plain.varTypes Tryz.prog).any (Tryz.prog.ifacesRec ·)))=true:=by kernel_rfl
theorem ZY0:((Rows.correlationTopRow.mapsOut == Tryz.prog.mapsAmong Tryz.f3.resultTypes.toList))=true:=by kernel_rfl
theorem ZYZ:((Rows.correlationTopRow.loops == (Tryz.f3.params.toList++Rows.correlationTopSpec.plain.varTypes Tryz.prog).any (Tryz.prog.loopsFrom ·)))=true:=by kernel_rfl
theorem ZYY:((Rows.correlationTopRow.wideKeys == (Tryz.f3.params.toList++Rows.correlationTopSpec.plain.varTypes Tryz.prog++Tryz.f3.resultTypes.toList).any (Tryz.prog.wideKeysFrom ·)))=true:=by kernel_rfl
theorem ZYX:(Rows.correlationTopSpec.vars.all (Tryz.prog.varReadable ·))=true:=by kernel_rfl
theorem ZYW:(Tryz.f3.resultTypes.all (fun t=>Tryz.prog.readableRec t&&decide (t < Tryz.prog.types.size)))=true:=by kernel_rfl
theorem ZYV:((Rows.correlationTopRow.ifacesOut == Tryz.f3.resultTypes.toList.any (Tryz.prog.ifacesRec ·)))=true:=by kernel_rfl
theorem ZYU:((Rows.correlationTopRow.loopsOut == Tryz.f3.resultTypes.toList.any (Tryz.prog.loopsFrom ·)))=true:=by kernel_rfl
theorem fact22:((Rows.correlationTopRow.plainKeys == Tryz.prog.plainKeys))=true:=facts.fact22
theorem ZYT:(Rows.correlationTopRow.shortTexts.isNone)=true:=by kernel_rfl
theorem fact24:(Tryz.prog.stopsHeard)=true:=facts.fact24
theorem fact25:(Tryz.prog.mayEnter)=true:=facts.fact25
theorem fact26:((Rows.correlationTopRow.lifted == Tryz.prog.liftsFinal))=true:=facts.fact26
theorem fact27:((Tryz.prog.make == some Rows.correlationTopRow.make))=true:=facts.fact27
theorem ZYS:((Rows.correlationTopRow.kinds == (if Rows.correlationTopRow.domain.isEmpty then []else Tryz.f3.params.toList.map fun t=>match Tryz.prog.underlying t with |some (.int k)=>some k |_=>none)))=true:=by kernel_rfl
theorem ZYR:((Rows.correlationTopRow.pinned == Rows.correlationTopRow.pinnedBy))=true:=by kernel_rfl
theorem ZYQ:((Rows.correlationTopRow.veiled == (Tryz.f3.params.toList++Rows.correlationTopSpec.plain.varTypes Tryz.prog++Tryz.f3.resultTypes.toList).any (Tryz.prog.veiledRec ·)))=true:=by kernel_rfl
theorem ZYP:(Rows.correlationTopRow.veiledFits Tryz.prog Tryz.f3.params.toList (Tryz.f3.params.toList++Rows.correlationTopSpec.plain.varTypes Tryz.prog++Tryz.f3.resultTypes.toList))=true:=by kernel_rfl
theorem ZJ0 {a b:Bool} (h:a=true) (h':b=true):(a&&b)=true:=by rw[h,h'];rfl
theorem ZZa:joinedFacts Tryz.prog 3 Tryz.f3 Rows.correlationTopSpec Rows.correlationTopRow=true:=by unfold joinedFacts;exact(ZJ0 (ZJ0 (ZJ0 (ZJ0 (ZJ0 (ZJ0 (ZJ0 (ZJ0 (ZJ0 (ZJ0 (ZJ0 (ZJ0 (ZJ0 (ZJ0 (ZJ0 (ZJ0 (ZJ0 (ZJ0 (ZJ0 (ZJ0 (ZJ0 (ZJ0 (ZJ0 (ZJ0 (ZJ0 (ZJ0 (ZJ0 (ZJ0 (ZJ0 (ZJ0 (ZJ0 Z11 fact1) fact2) Z10) Z1Z) Z1Y) fact6) Z1X) fact8) Z1W) ZY5) ZY4) ZY3) ZY2) ZY1) ZY0) ZYZ) ZYY) ZYX) ZYW) ZYV) ZYU) fact22) ZYT) fact24) fact25) fact26) fact27) ZYS) ZYR) ZYQ) ZYP)
theorem ZTw:Tryz.prog.funcNamed "tablefinder/tablefinderlaw25.CorrelationTop" =some 3:=by kernel_rfl
theorem Z1S:Tryz.f3.isInstance Tryz.prog Rows.correlationTopRow.origin Rows.correlationTopRow.targs:=of_decide_eq_true (by kernel_rfl)
theorem Z1j:Tryz.f3.isWrapper Tryz.prog Rows.correlationTopRow.wrapper Rows.correlationTopRow.mainSum:=by unfold Func.isWrapper;first |(rw[if_pos (by decide+kernel)];kernel_rfl) |(rw[if_neg (by decide+kernel)];exact⟨rfl,rfl⟩)
theorem ZX1:Rows.correlationTopRow.wfByText (OpenSpec.ofChange Rows.correlationTopSpec)=true:=by kernel_rfl
theorem mainIs_:Tryz.prog.mainIs=some ((true, "8c1e79d6d7e186442841f620b9d2c369256a9ddc5eaf677d6ac381433b379919").1,(true, "8c1e79d6d7e186442841f620b9d2c369256a9ddc5eaf677d6ac381433b379919").2.toList):=facts.mainIs_
theorem Z1V:false=Rows.correlationTopRow.goesBy Tryz.prog:=by kernel_rfl
theorem looks_:true=Tryz.prog.looks []:=facts.looks_
theorem ZYa:([22,3,23].all fun u=> !Tryz.prog.wantsStandIn u)=true:=by kernel_rfl
end Go.Proofs.YtcjejmbjlhlkhaaGreatDoor.correlationTop

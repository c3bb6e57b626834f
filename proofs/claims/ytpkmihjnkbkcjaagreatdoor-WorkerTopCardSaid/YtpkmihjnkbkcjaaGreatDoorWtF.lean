/- Closed facts of the row WorkerTop and of the program. -/
import Derived.Test.YtpkmihjnkbkcjaaGreatDoorFacts
set_option linter.unusedVariables false
set_option linter.unusedSimpArgs false
set_option linter.unusedSectionVars false
set_option maxRecDepth 100000
namespace Go.Proofs.YtpkmihjnkbkcjaaGreatDoor.workerTop
theorem ZH9:(Rows.workerTopRow.wf (OpenSpec.ofChange Rows.workerTopSpec))=true:=by kernel_rfl
theorem fact1:(laidOutB Tryz.prog)=true:=facts.fact1
theorem fact2:(mapsRowed Tryz.prog)=true:=facts.fact2
theorem ZH8:(Tryz.f3.params.all (Tryz.prog.readableRec ·))=true:=by kernel_rfl
theorem ZH7:(namedTie Tryz.prog Rows.workerTopRow.named Rows.workerTopSpec.vars)=true:=by kernel_rfl
theorem ZH6:((Rows.workerTopRow.stops == []))=true:=by kernel_rfl
theorem fact6:((Tryz.prog.stops == []))=true:=facts.fact6
theorem ZH5:((Rows.workerTopRow.knobs == []))=true:=by kernel_rfl
theorem fact8:((Tryz.prog.stopKnobs == []))=true:=facts.fact8
theorem ZH4:((Rows.workerTopRow.inPlace == Tryz.prog.inPlace 3))=true:=by kernel_rfl
theorem ZGa:((Rows.workerTopRow.unfollowed == Tryz.prog.unfollowed 3))=true:=by kernel_rfl
theorem ZF9:((Rows.workerTopRow.recurses == Tryz.prog.recurses 3))=true:=by kernel_rfl
theorem ZF8:((Rows.workerTopRow.named == Tryz.prog.varsNamed 3))=true:=by kernel_rfl
theorem ZF7:((Rows.workerTopRow.maps == (Tryz.f3.params.toList++Rows.workerTopSpec.plain.varTypes Tryz.prog).any (Tryz.prog.mapsRec ·)))=true:=by kernel_rfl
theorem ZF6:((Rows.workerTopRow.ifaces == (Tryz.f3.params.toList++Rows.workerTopSpec.plain.varTypes Tryz.prog).any (Tryz.prog.ifacesRec ·)))=true:=by kernel_rfl
theorem ZF5:((Rows.workerTopRow.mapsOut == Tryz.prog.mapsAmong Tryz.f3.resultTypes.toList))=true:=by kernel_rfl
theorem ZF4:((Rows.workerTopRow.loops == (Tryz.f3.params.toList++Rows.workerTopSpec.plain.varTypes Tryz.prog).any (Tryz.prog.loopsFrom ·)))=true:=by kernel_rfl
theorem ZF3:((Rows.workerTopRow.wideKeys == (Tryz.f3.params.toList++Rows.workerTopSpec.plain.varTypes Tryz.prog++Tryz.f3.resultTypes.toList).any (Tryz.prog.wideKeysFrom ·)))=true:=by kernel_rfl
theorem ZF2:(Rows.workerTopSpec.vars.all (Tryz.prog.varReadable ·))=true:=by kernel_rfl
theorem ZF1:(Tryz.f3.resultTypes.all (fun t=>Tryz.prog.readableRec t&&decide (t < Tryz.prog.types.size)))=true:=by kernel_rfl
theorem ZF0:((Rows.workerTopRow.ifacesOut == Tryz.f3.resultTypes.toList.any (Tryz.prog.ifacesRec ·)))=true:=by kernel_rfl
theorem ZFZ:((Rows.workerTopRow.loopsOut == Tryz.f3.resultTypes.toList.any (Tryz.prog.loopsFrom ·)))=true:=by kernel_rfl
theorem fact22:((Rows.workerTopRow.plainKeys == Tryz.prog.plainKeys))=true:=facts.fact22
theorem ZFY:(Rows.workerTopRow.shortTexts.isNone)=true:=by kernel_rfl
theorem fact24:(Tryz.prog.stopsHeard)=true:=facts.fact24
theorem fact25:(Tryz.prog.mayEnter)=true:=facts.fact25
theorem fact26:((Rows.workerTopRow.lifted == Tryz.prog.liftsFinal))=true:=facts.fact26
theorem fact27:((Tryz.prog.make == some Rows.workerTopRow.make))=true:=facts.fact27
theorem ZFX:((Rows.workerTopRow.kinds == (if Rows.workerTopRow.domain.isEmpty then []else Tryz.f3.params.toList.map fun t=>match Tryz.prog.underlying t with |some (.int k)=>some k |_=>none)))=true:=by kernel_rfl
theorem ZFW:((Rows.workerTopRow.pinned == Rows.workerTopRow.pinnedBy))=true:=by kernel_rfl
theorem ZFV:((Rows.workerTopRow.veiled == (Tryz.f3.params.toList++Rows.workerTopSpec.plain.varTypes Tryz.prog++Tryz.f3.resultTypes.toList).any (Tryz.prog.veiledRec ·)))=true:=by kernel_rfl
theorem ZFU:(Rows.workerTopRow.veiledFits Tryz.prog Tryz.f3.params.toList (Tryz.f3.params.toList++Rows.workerTopSpec.plain.varTypes Tryz.prog++Tryz.f3.resultTypes.toList))=true:=by kernel_rfl
theorem ZzI {a b:Bool} (h:a=true) (h':b=true):(a&&b)=true:=by rw[h,h'];rfl
theorem ZGc:joinedFacts Tryz.prog 3 Tryz.f3 Rows.workerTopSpec Rows.workerTopRow=true:=by unfold joinedFacts;exact(ZzI (ZzI (ZzI (ZzI (ZzI (ZzI (ZzI (ZzI (ZzI (ZzI (ZzI (ZzI (ZzI (ZzI (ZzI (ZzI (ZzI (ZzI (ZzI (ZzI (ZzI (ZzI (ZzI (ZzI (ZzI (ZzI (ZzI (ZzI (ZzI (ZzI (ZzI ZH9 fact1) fact2) ZH8) ZH7) ZH6) fact6) ZH5) fact8) ZH4) ZGa) ZF9) ZF8) ZF7) ZF6) ZF5) ZF4) ZF3) ZF2) ZF1) ZF0) ZFZ) fact22) ZFY) fact24) fact25) fact26) fact27) ZFX) ZFW) ZFV) ZFU)
theorem ZDC:Tryz.prog.funcNamed "tablefinder/tablefinderlaw44.WorkerTop" =some 3:=by kernel_rfl
theorem ZH2:Tryz.f3.isInstance Tryz.prog Rows.workerTopRow.origin Rows.workerTopRow.targs:=of_decide_eq_true (by kernel_rfl)
theorem ZHO:Tryz.f3.isWrapper Tryz.prog Rows.workerTopRow.wrapper Rows.workerTopRow.mainSum:=by unfold Func.isWrapper;first |(rw[if_pos (by decide+kernel)];kernel_rfl) |(rw[if_neg (by decide+kernel)];exact⟨rfl,rfl⟩)
theorem ZFf:Rows.workerTopRow.wfByText (OpenSpec.ofChange Rows.workerTopSpec)=true:=by kernel_rfl
theorem mainIs_:Tryz.prog.mainIs=some ((true, "2fec9bf7bbaaffceda9010671acb48213e9893f7ecc1bd25ee202b914df478ab").1,(true, "2fec9bf7bbaaffceda9010671acb48213e9893f7ecc1bd25ee202b914df478ab").2.toList):=facts.mainIs_
theorem ZH3:false=Rows.workerTopRow.goesBy Tryz.prog:=by kernel_rfl
theorem looks_:false=Tryz.prog.looks []:=facts.looks_
theorem ZFo:([22,22,3].all fun u=> !Tryz.prog.wantsStandIn u)=true:=by kernel_rfl
end Go.Proofs.YtpkmihjnkbkcjaaGreatDoor.workerTop

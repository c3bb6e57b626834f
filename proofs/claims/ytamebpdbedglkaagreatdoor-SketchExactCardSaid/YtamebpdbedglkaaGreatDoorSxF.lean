/- Closed facts of the row SketchExact and of the program. -/
import Derived.Test.YtamebpdbedglkaaGreatDoorFacts
set_option linter.unusedVariables false
set_option linter.unusedSimpArgs false
set_option linter.unusedSectionVars false
set_option maxRecDepth 100000
namespace Go.Proofs.YtamebpdbedglkaaGreatDoor.sketchExact
theorem ZG6:(Rows.sketchExactRow.wf (OpenSpec.ofChange Rows.sketchExactSpec))=true:=by kernel_rfl
theorem fact1:(laidOutB Tryz.prog)=true:=facts.fact1
theorem fact2:(mapsRowed Tryz.prog)=true:=facts.fact2
theorem ZG5:(Tryz.f3.params.all (Tryz.prog.readableRec ·))=true:=by kernel_rfl
theorem ZG4:(namedTie Tryz.prog Rows.sketchExactRow.named Rows.sketchExactSpec.vars)=true:=by kernel_rfl
theorem ZG3:((Rows.sketchExactRow.stops == []))=true:=by kernel_rfl
theorem fact6:((Tryz.prog.stops == []))=true:=facts.fact6
theorem ZG2:((Rows.sketchExactRow.knobs == []))=true:=by kernel_rfl
theorem fact8:((Tryz.prog.stopKnobs == []))=true:=facts.fact8
theorem ZG1:((Rows.sketchExactRow.inPlace == Tryz.prog.inPlace 3))=true:=by kernel_rfl
theorem ZFr:((Rows.sketchExactRow.unfollowed == Tryz.prog.unfollowed 3))=true:=by kernel_rfl
theorem ZFq:((Rows.sketchExactRow.recurses == Tryz.prog.recurses 3))=true:=by kernel_rfl
theorem ZFp:((Rows.sketchExactRow.named == Tryz.prog.varsNamed 3))=true:=by kernel_rfl
theorem ZFo:((Rows.sketchExactRow.maps == (Tryz.f3.params.toList++Rows.sketchExactSpec.plain.varTypes Tryz.prog).any (Tryz.prog.mapsRec ·)))=true:=by kernel_rfl
theorem ZFn:((Rows.sketchExactRow.ifaces == (Tryz.f3.params.toList++Rows.sketchExactSpec.plain.varTypes Tryz.prog).any (Tryz.prog.ifacesRec ·)))=true:=by kernel_rfl
theorem ZFm:((Rows.sketchExactRow.mapsOut == Tryz.prog.mapsAmong Tryz.f3.resultTypes.toList))=true:=by kernel_rfl
theorem ZFl:((Rows.sketchExactRow.loops == (Tryz.f3.params.toList++Rows.sketchExactSpec.plain.varTypes Tryz.prog).any (Tryz.prog.loopsFrom ·)))=true:=by kernel_rfl
theorem ZFk:((Rows.sketchExactRow.wideKeys == (Tryz.f3.params.toList++Rows.sketchExactSpec.plain.varTypes Tryz.prog++Tryz.f3.resultTypes.toList).any (Tryz.prog.wideKeysFrom ·)))=true:=by kernel_rfl
theorem ZFj:(Rows.sketchExactSpec.vars.all (Tryz.prog.varReadable ·))=true:=by kernel_rfl
theorem ZFi:(Tryz.f3.resultTypes.all (fun t=>Tryz.prog.readableRec t&&decide (t < Tryz.prog.types.size)))=true:=by kernel_rfl
theorem ZFh:((Rows.sketchExactRow.ifacesOut == Tryz.f3.resultTypes.toList.any (Tryz.prog.ifacesRec ·)))=true:=by kernel_rfl
theorem ZFg:((Rows.sketchExactRow.loopsOut == Tryz.f3.resultTypes.toList.any (Tryz.prog.loopsFrom ·)))=true:=by kernel_rfl
theorem fact22:((Rows.sketchExactRow.plainKeys == Tryz.prog.plainKeys))=true:=facts.fact22
theorem ZFf:(Rows.sketchExactRow.shortTexts.isNone)=true:=by kernel_rfl
theorem fact24:(Tryz.prog.stopsHeard)=true:=facts.fact24
theorem fact25:(Tryz.prog.mayEnter)=true:=facts.fact25
theorem fact26:((Rows.sketchExactRow.lifted == Tryz.prog.liftsFinal))=true:=facts.fact26
theorem fact27:((Tryz.prog.make == some Rows.sketchExactRow.make))=true:=facts.fact27
theorem ZFe:((Rows.sketchExactRow.kinds == (if Rows.sketchExactRow.domain.isEmpty then []else Tryz.f3.params.toList.map fun t=>match Tryz.prog.underlying t with |some (.int k)=>some k |_=>none)))=true:=by kernel_rfl
theorem ZFd:((Rows.sketchExactRow.pinned == Rows.sketchExactRow.pinnedBy))=true:=by kernel_rfl
theorem ZFc:((Rows.sketchExactRow.veiled == (Tryz.f3.params.toList++Rows.sketchExactSpec.plain.varTypes Tryz.prog++Tryz.f3.resultTypes.toList).any (Tryz.prog.veiledRec ·)))=true:=by kernel_rfl
theorem ZFb:(Rows.sketchExactRow.veiledFits Tryz.prog Tryz.f3.params.toList (Tryz.f3.params.toList++Rows.sketchExactSpec.plain.varTypes Tryz.prog++Tryz.f3.resultTypes.toList))=true:=by kernel_rfl
theorem ZyT {a b:Bool} (h:a=true) (h':b=true):(a&&b)=true:=by rw[h,h'];rfl
theorem ZFt:joinedFacts Tryz.prog 3 Tryz.f3 Rows.sketchExactSpec Rows.sketchExactRow=true:=by unfold joinedFacts;exact(ZyT (ZyT (ZyT (ZyT (ZyT (ZyT (ZyT (ZyT (ZyT (ZyT (ZyT (ZyT (ZyT (ZyT (ZyT (ZyT (ZyT (ZyT (ZyT (ZyT (ZyT (ZyT (ZyT (ZyT (ZyT (ZyT (ZyT (ZyT (ZyT (ZyT (ZyT ZG6 fact1) fact2) ZG5) ZG4) ZG3) fact6) ZG2) fact8) ZG1) ZFr) ZFq) ZFp) ZFo) ZFn) ZFm) ZFl) ZFk) ZFj) ZFi) ZFh) ZFg) fact22) ZFf) fact24) fact25) fact26) fact27) ZFe) ZFd) ZFc) ZFb)
theorem ZC5:Tryz.prog.funcNamed "tablefinder/tablefinderlaw24.SketchExact" =some 3:=by kernel_rfl
theorem ZGY:Tryz.f3.isInstance Tryz.prog Rows.sketchExactRow.origin Rows.sketchExactRow.targs:=of_decide_eq_true (by kernel_rfl)
theorem ZGG:Tryz.f3.isWrapper Tryz.prog Rows.sketchExactRow.wrapper Rows.sketchExactRow.mainSum:=by unfold Func.isWrapper;first |(rw[if_pos (by decide+kernel)];kernel_rfl) |(rw[if_neg (by decide+kernel)];exact⟨rfl,rfl⟩)
theorem ZEF:Rows.sketchExactRow.wfByText (OpenSpec.ofChange Rows.sketchExactSpec)=true:=by kernel_rfl
theorem mainIs_:Tryz.prog.mainIs=some ((true, "3c638803a5fc33a7879a1a6edbdf40d1120690d0ec6b0e325eb9ad0aae38d510").1,(true, "3c638803a5fc33a7879a1a6edbdf40d1120690d0ec6b0e325eb9ad0aae38d510").2.toList):=facts.mainIs_
theorem ZG0:false=Rows.sketchExactRow.goesBy Tryz.prog:=by kernel_rfl
theorem looks_:true=Tryz.prog.looks []:=facts.looks_
theorem ZEL:([22,3].all fun u=> !Tryz.prog.wantsStandIn u)=true:=by kernel_rfl
end Go.Proofs.YtamebpdbedglkaaGreatDoor.sketchExact

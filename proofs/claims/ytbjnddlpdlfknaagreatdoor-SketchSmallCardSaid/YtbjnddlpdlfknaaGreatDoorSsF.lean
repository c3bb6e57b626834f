/- Closed facts of the row SketchSmall and of the program. -/
import Derived.Test.YtbjnddlpdlfknaaGreatDoorFacts
set_option linter.unusedVariables false
set_option linter.unusedSimpArgs false
set_option linter.unusedSectionVars false
set_option maxRecDepth 100000
namespace Go.Proofs.YtbjnddlpdlfknaaGreatDoor.sketchSmall
theorem ZEG:(Rows.sketchSmallRow.wf (OpenSpec.ofChange Rows.sketchSmallSpec))=true:=by kernel_rfl
theorem fact1:(laidOutB Tryz.prog)=true:=facts.fact1
theorem fact2:(mapsRowed Tryz.prog)=true:=facts.fact2
theorem ZEF:(Tryz.f3.params.all (Tryz.prog.readableRec ·))=true:=by kernel_rfl
theorem ZEE:(namedTie Tryz.prog Rows.sketchSmallRow.named Rows.sketchSmallSpec.vars)=true:=by kernel_rfl
theorem ZED:((Rows.sketchSmallRow.stops == []))=true:=by kernel_rfl
theorem fact6:((Tryz.prog.stops == []))=true:=facts.fact6
theorem ZEC:((Rows.sketchSmallRow.knobs == []))=true:=by kernel_rfl
theorem fact8:((Tryz.prog.stopKnobs == []))=true:=facts.fact8
theorem ZEB:((Rows.sketchSmallRow.inPlace == Tryz.prog.inPlace 3))=true:=by kernel_rfl
theorem ZC7:((Rows.sketchSmallRow.unfollowed == Tryz.prog.unfollowed 3))=true:=by kernel_rfl
theorem ZC6:((Rows.sketchSmallRow.recurses == Tryz.prog.recurses 3))=true:=by kernel_rfl
theorem ZC5:((Rows.sketchSmallRow.named == Tryz.prog.varsNamed 3))=true:=by kernel_rfl
theorem ZC4:((Rows.sketchSmallRow.maps == (Tryz.f3.params.toList++Rows.sketchSmallSpec.plain.varTypes Tryz.prog).any (Tryz.prog.mapsRec ·)))=true:=by kernel_rfl
theorem ZC3:((Rows.sketchSmallRow.ifaces == (Tryz.f3.params.toList++Rows.sketchSmallSpec.plain.varTypes Tryz.prog).any (Tryz.prog.ifacesRec ·)))=true:=by kernel_rfl
theorem ZC2:((Rows.sketchSmallRow.mapsOut == Tryz.prog.mapsAmong Tryz.f3.resultTypes.toList))=true:=by kernel_rfl
theorem ZC1:((Rows.sketchSmallRow.loops == (Tryz.f3.params.toList++Rows.sketchSmallSpec.plain.varTypes Tryz.prog).any (Tryz.prog.loopsFrom ·)))=true:=by kernel_rfl
theorem ZC0:((Rows.sketchSmallRow.wideKeys == (Tryz.f3.params.toList++Rows.sketchSmallSpec.plain.varTypes Tryz.prog++Tryz.f3.resultTypes.toList).any (Tryz.prog.wideKeysFrom ·)))=true:=by kernel_rfl
theorem ZCZ:(Rows.sketchSmallSpec.vars.all (Tryz.prog.varReadable ·))=true:=by kernel_rfl
theorem ZCY:(Tryz.f3.resultTypes.all (fun t=>Tryz.prog.readableRec t&&decide (t < Tryz.prog.types.size)))=true:=by kernel_rfl
theorem ZCX:((Rows.sketchSmallRow.ifacesOut == Tryz.f3.resultTypes.toList.any (Tryz.prog.ifacesRec ·)))=true:=by kernel_rfl
theorem ZCW:((Rows.sketchSmallRow.loopsOut == Tryz.f3.resultTypes.toList.any (Tryz.prog.loopsFrom ·)))=true:=by kernel_rfl
theorem fact22:((Rows.sketchSmallRow.plainKeys == Tryz.prog.plainKeys))=true:=facts.fact22
theorem ZCV:(Rows.sketchSmallRow.shortTexts.isNone)=true:=by kernel_rfl
theorem fact24:(Tryz.prog.stopsHeard)=true:=facts.fact24
theorem fact25:(Tryz.prog.mayEnter)=true:=facts.fact25
theorem fact26:((Rows.sketchSmallRow.lifted == Tryz.prog.liftsFinal))=true:=facts.fact26
theorem fact27:((Tryz.prog.make == some Rows.sketchSmallRow.make))=true:=facts.fact27
theorem ZCU:((Rows.sketchSmallRow.kinds == (if Rows.sketchSmallRow.domain.isEmpty then []else Tryz.f3.params.toList.map fun t=>match Tryz.prog.underlying t with |some (.int k)=>some k |_=>none)))=true:=by kernel_rfl
theorem ZCT:((Rows.sketchSmallRow.pinned == Rows.sketchSmallRow.pinnedBy))=true:=by kernel_rfl
theorem ZCS:((Rows.sketchSmallRow.veiled == (Tryz.f3.params.toList++Rows.sketchSmallSpec.plain.varTypes Tryz.prog++Tryz.f3.resultTypes.toList).any (Tryz.prog.veiledRec ·)))=true:=by kernel_rfl
theorem ZCR:(Rows.sketchSmallRow.veiledFits Tryz.prog Tryz.f3.params.toList (Tryz.f3.params.toList++Rows.sketchSmallSpec.plain.varTypes Tryz.prog++Tryz.f3.resultTypes.toList))=true:=by kernel_rfl
theorem Zxc {a b:Bool} (h:a=true) (h':b=true):(a&&b)=true:=by rw[h,h'];rfl
theorem ZC8:joinedFacts Tryz.prog 3 Tryz.f3 Rows.sketchSmallSpec Rows.sketchSmallRow=true:=by unfold joinedFacts;exact(Zxc (Zxc (Zxc (Zxc (Zxc (Zxc (Zxc (Zxc (Zxc (Zxc (Zxc (Zxc (Zxc (Zxc (Zxc (Zxc (Zxc (Zxc (Zxc (Zxc (Zxc (Zxc (Zxc (Zxc (Zxc (Zxc (Zxc (Zxc (Zxc (Zxc (Zxc ZEG fact1) fact2) ZEF) ZEE) ZED) fact6) ZEC) fact8) ZEB) ZC7) ZC6) ZC5) ZC4) ZC3) ZC2) ZC1) ZC0) ZCZ) ZCY) ZCX) ZCW) fact22) ZCV) fact24) fact25) fact26) fact27) ZCU) ZCT) ZCS) ZCR)
theorem ZA3:Tryz.prog.funcNamed "tablefinder/tablefinderlaw24.SketchSmall" =some 3:=by kernel_rfl
theorem ZEy:Tryz.f3.isInstance Tryz.prog Rows.sketchSmallRow.origin Rows.sketchSmallRow.targs:=of_decide_eq_true (by kernel_rfl)
theorem ZEh:Tryz.f3.isWrapper Tryz.prog Rows.sketchSmallRow.wrapper Rows.sketchSmallRow.mainSum:=by unfold Func.isWrapper;first |(rw[if_pos (by decide+kernel)];kernel_rfl) |(rw[if_neg (by decide+kernel)];exact⟨rfl,rfl⟩)
theorem ZCp:Rows.sketchSmallRow.wfByText (OpenSpec.ofChange Rows.sketchSmallSpec)=true:=by kernel_rfl
theorem mainIs_:Tryz.prog.mainIs=some ((true, "c1238d137551f79098629bacbf4651e08366f198a9e459edac437b5f1ba99b83").1,(true, "c1238d137551f79098629bacbf4651e08366f198a9e459edac437b5f1ba99b83").2.toList):=facts.mainIs_
theorem ZEA:false=Rows.sketchSmallRow.goesBy Tryz.prog:=by kernel_rfl
theorem looks_:true=Tryz.prog.looks []:=facts.looks_
theorem ZCu:([22,3,9].all fun u=> !Tryz.prog.wantsStandIn u)=true:=by kernel_rfl
end Go.Proofs.YtbjnddlpdlfknaaGreatDoor.sketchSmall

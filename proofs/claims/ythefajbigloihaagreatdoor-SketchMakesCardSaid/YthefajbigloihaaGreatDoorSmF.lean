/- Closed facts of the row SketchMakes and of the program. -/
import Derived.Test.YthefajbigloihaaGreatDoorFacts
set_option linter.unusedVariables false
set_option linter.unusedSimpArgs false
set_option linter.unusedSectionVars false
set_option maxRecDepth 100000
namespace Go.Proofs.YthefajbigloihaaGreatDoor.sketchMakes
theorem ZK9:(Rows.sketchMakesRow.wf (OpenSpec.ofChange Rows.sketchMakesSpec))=true:=by kernel_rfl
theorem fact1:(laidOutB Tryz.prog)=true:=facts.fact1
theorem fact2:(mapsRowed Tryz.prog)=true:=facts.fact2
theorem ZK8:(Tryz.f3.params.all (Tryz.prog.readableRec ·))=true:=by kernel_rfl
theorem ZK7:(namedTie Tryz.prog Rows.sketchMakesRow.named Rows.sketchMakesSpec.vars)=true:=by kernel_rfl
theorem ZK6:((Rows.sketchMakesRow.stops == []))=true:=by kernel_rfl
theorem fact6:((Tryz.prog.stops == []))=true:=facts.fact6
theorem ZK5:((Rows.sketchMakesRow.knobs == []))=true:=by kernel_rfl
theorem fact8:((Tryz.prog.stopKnobs == []))=true:=facts.fact8
theorem ZK4:((Rows.sketchMakesRow.inPlace == Tryz.prog.inPlace 3))=true:=by kernel_rfl
theorem ZJm:((Rows.sketchMakesRow.unfollowed == Tryz.prog.unfollowed 3))=true:=by kernel_rfl
theorem ZJl:((Rows.sketchMakesRow.recurses == Tryz.prog.recurses 3))=true:=by kernel_rfl
theorem ZJk:((Rows.sketchMakesRow.named == Tryz.prog.varsNamed 3))=true:=by kernel_rfl
theorem ZJj:((Rows.sketchMakesRow.maps == (Tryz.f3.params.toList++Rows.sketchMakesSpec.plain.varTypes Tryz.prog).any (Tryz.prog.mapsRec ·)))=true:=by kernel_rfl
theorem ZJi:((Rows.sketchMakesRow.ifaces == (Tryz.f3.params.toList++Rows.sketchMakesSpec.plain.varTypes Tryz.prog).any (Tryz.prog.ifacesRec ·)))=true:=by kernel_rfl
theorem ZJh:((Rows.sketchMakesRow.mapsOut == Tryz.prog.mapsAmong Tryz.f3.resultTypes.toList))=true:=by kernel_rfl
theorem ZJg:((Rows.sketchMakesRow.loops == (Tryz.f3.params.toList++Rows.sketchMakesSpec.plain.varTypes Tryz.prog).any (Tryz.prog.loopsFrom ·)))=true:=by kernel_rfl
theorem ZJf:((Rows.sketchMakesRow.wideKeys == (Tryz.f3.params.toList++Rows.sketchMakesSpec.plain.varTypes Tryz.prog++Tryz.f3.resultTypes.toList).any (Tryz.prog.wideKeysFrom ·)))=true:=by kernel_rfl
theorem ZJe:(Rows.sketchMakesSpec.vars.all (Tryz.prog.varReadable ·))=true:=by kernel_rfl
theorem ZJd:(Tryz.f3.resultTypes.all (fun t=>Tryz.prog.readableRec t&&decide (t < Tryz.prog.types.size)))=true:=by kernel_rfl
theorem ZJc:((Rows.sketchMakesRow.ifacesOut == Tryz.f3.resultTypes.toList.any (Tryz.prog.ifacesRec ·)))=true:=by kernel_rfl
theorem ZJb:((Rows.sketchMakesRow.loopsOut == Tryz.f3.resultTypes.toList.any (Tryz.prog.loopsFrom ·)))=true:=by kernel_rfl
theorem fact22:((Rows.sketchMakesRow.plainKeys == Tryz.prog.plainKeys))=true:=facts.fact22
theorem ZJa:(Rows.sketchMakesRow.shortTexts.isNone)=true:=by kernel_rfl
theorem fact24:(Tryz.prog.stopsHeard)=true:=facts.fact24
theorem fact25:(Tryz.prog.mayEnter)=true:=facts.fact25
theorem fact26:((Rows.sketchMakesRow.lifted == Tryz.prog.liftsFinal))=true:=facts.fact26
theorem fact27:((Tryz.prog.make == some Rows.sketchMakesRow.make))=true:=facts.fact27
theorem ZI9:((Rows.sketchMakesRow.kinds == (if Rows.sketchMakesRow.domain.isEmpty then []else Tryz.f3.params.toList.map fun t=>match Tryz.prog.underlying t with |some (.int k)=>some k |_=>none)))=true:=by kernel_rfl
theorem ZI8:((Rows.sketchMakesRow.pinned == Rows.sketchMakesRow.pinnedBy))=true:=by kernel_rfl
theorem ZI7:((Rows.sketchMakesRow.veiled == (Tryz.f3.params.toList++Rows.sketchMakesSpec.plain.varTypes Tryz.prog++Tryz.f3.resultTypes.toList).any (Tryz.prog.veiledRec ·)))=true:=by kernel_rfl
theorem ZI6:(Rows.sketchMakesRow.veiledFits Tryz.prog Tryz.f3.params.toList (Tryz.f3.params.toList++Rows.sketchMakesSpec.plain.varTypes Tryz.prog++Tryz.f3.resultTypes.toList))=true:=by kernel_rfl
theorem ZBl {a b:Bool} (h:a=true) (h':b=true):(a&&b)=true:=by rw[h,h'];rfl
theorem ZJn:joinedFacts Tryz.prog 3 Tryz.f3 Rows.sketchMakesSpec Rows.sketchMakesRow=true:=by unfold joinedFacts;exact(ZBl (ZBl (ZBl (ZBl (ZBl (ZBl (ZBl (ZBl (ZBl (ZBl (ZBl (ZBl (ZBl (ZBl (ZBl (ZBl (ZBl (ZBl (ZBl (ZBl (ZBl (ZBl (ZBl (ZBl (ZBl (ZBl (ZBl (ZBl (ZBl (ZBl (ZBl ZK9 fact1) fact2) ZK8) ZK7) ZK6) fact6) ZK5) fact8) ZK4) ZJm) ZJl) ZJk) ZJj) ZJi) ZJh) ZJg) ZJf) ZJe) ZJd) ZJc) ZJb) fact22) ZJa) fact24) fact25) fact26) fact27) ZI9) ZI8) ZI7) ZI6)
theorem ZGB:Tryz.prog.funcNamed "tablefinder/tablefinderlaw24.SketchMakes" =some 3:=by kernel_rfl
theorem ZK1:Tryz.f3.isInstance Tryz.prog Rows.sketchMakesRow.origin Rows.sketchMakesRow.targs:=of_decide_eq_true (by kernel_rfl)
theorem ZKJ:Tryz.f3.isWrapper Tryz.prog Rows.sketchMakesRow.wrapper Rows.sketchMakesRow.mainSum:=by unfold Func.isWrapper;first |(rw[if_pos (by decide+kernel)];kernel_rfl) |(rw[if_neg (by decide+kernel)];exact⟨rfl,rfl⟩)
theorem ZIy:Rows.sketchMakesRow.wfByText (OpenSpec.ofChange Rows.sketchMakesSpec)=true:=by kernel_rfl
theorem mainIs_:Tryz.prog.mainIs=some ((true, "cbb9050748a371b4c6446a223b38c2a958a8cc32d44cb5e0acb64c81ff403e1f").1,(true, "cbb9050748a371b4c6446a223b38c2a958a8cc32d44cb5e0acb64c81ff403e1f").2.toList):=facts.mainIs_
theorem ZK3:false=Rows.sketchMakesRow.goesBy Tryz.prog:=by kernel_rfl
theorem looks_:true=Tryz.prog.looks []:=facts.looks_
theorem ZIH:([24,24,25,3,9].all fun u=> !Tryz.prog.wantsStandIn u)=true:=by kernel_rfl
end Go.Proofs.YthefajbigloihaaGreatDoor.sketchMakes

/- Closed facts of the row QuantileNumbers and of the program. -/
import Derived.Test.YthefajbigloihaaGreatDoorFacts
set_option linter.unusedVariables false
set_option linter.unusedSimpArgs false
set_option linter.unusedSectionVars false
set_option maxRecDepth 100000
namespace Go.Proofs.YthefajbigloihaaGreatDoor.quantileNumbers
theorem ZK7:(Rows.quantileNumbersRow.wf (OpenSpec.ofChange Rows.quantileNumbersSpec))=true:=by kernel_rfl
theorem fact1:(laidOutB Tryz.prog)=true:=facts.fact1
theorem fact2:(mapsRowed Tryz.prog)=true:=facts.fact2
theorem ZK6:(Tryz.f4.params.all (Tryz.prog.readableRec ·))=true:=by kernel_rfl
theorem ZK5:(namedTie Tryz.prog Rows.quantileNumbersRow.named Rows.quantileNumbersSpec.vars)=true:=by kernel_rfl
theorem ZK4:((Rows.quantileNumbersRow.stops == []))=true:=by kernel_rfl
theorem fact6:((Tryz.prog.stops == []))=true:=facts.fact6
theorem ZK3:((Rows.quantileNumbersRow.knobs == []))=true:=by kernel_rfl
theorem fact8:((Tryz.prog.stopKnobs == []))=true:=facts.fact8
theorem ZK2:((Rows.quantileNumbersRow.inPlace == Tryz.prog.inPlace 4))=true:=by kernel_rfl
theorem ZJk:((Rows.quantileNumbersRow.unfollowed == Tryz.prog.unfollowed 4))=true:=by kernel_rfl
theorem ZJj:((Rows.quantileNumbersRow.recurses == Tryz.prog.recurses 4))=true:=by kernel_rfl
theorem ZJi:((Rows.quantileNumbersRow.named == Tryz.prog.varsNamed 4))=true:=by kernel_rfl
theorem ZJh:((Rows.quantileNumbersRow.maps == (Tryz.f4.params.toList++Rows.quantileNumbersSpec.plain.varTypes Tryz.prog).any (Tryz.prog.mapsRec ·)))=true:=by kernel_rfl
theorem ZJg:((Rows.quantileNumbersRow.ifaces == (Tryz.f4.params.toList++Rows.quantileNumbersSpec.plain.varTypes Tryz.prog).any (Tryz.prog.ifacesRec ·)))=true:=by kernel_rfl
theorem ZJf:((Rows.quantileNumbersRow.mapsOut == Tryz.prog.mapsAmong Tryz.f4.resultTypes.toList))=true:=by kernel_rfl
theorem ZJe:((Rows.quantileNumbersRow.loops == (Tryz.f4.params.toList++Rows.quantileNumbersSpec.plain.varTypes Tryz.prog).any (Tryz.prog.loopsFrom ·)))=true:=by kernel_rfl
theorem ZJd:((Rows.quantileNumbersRow.wideKeys == (Tryz.f4.params.toList++Rows.quantileNumbersSpec.plain.varTypes Tryz.prog++Tryz.f4.resultTypes.toList).any (Tryz.prog.wideKeysFrom ·)))=true:=by kernel_rfl
theorem ZJc:(Rows.quantileNumbersSpec.vars.all (Tryz.prog.varReadable ·))=true:=by kernel_rfl
theorem ZJb:(Tryz.f4.resultTypes.all (fun t=>Tryz.prog.readableRec t&&decide (t < Tryz.prog.types.size)))=true:=by kernel_rfl
theorem ZJa:((Rows.quantileNumbersRow.ifacesOut == Tryz.f4.resultTypes.toList.any (Tryz.prog.ifacesRec ·)))=true:=by kernel_rfl
theorem ZI9:((Rows.quantileNumbersRow.loopsOut == Tryz.f4.resultTypes.toList.any (Tryz.prog.loopsFrom ·)))=true:=by kernel_rfl
theorem fact22:((Rows.quantileNumbersRow.plainKeys == Tryz.prog.plainKeys))=true:=facts.fact22
theorem ZI8:(Rows.quantileNumbersRow.shortTexts.isNone)=true:=by kernel_rfl
theorem fact24:(Tryz.prog.stopsHeard)=true:=facts.fact24
theorem fact25:(Tryz.prog.mayEnter)=true:=facts.fact25
theorem fact26:((Rows.quantileNumbersRow.lifted == Tryz.prog.liftsFinal))=true:=facts.fact26
theorem fact27:((Tryz.prog.make == some Rows.quantileNumbersRow.make))=true:=facts.fact27
theorem ZI7:((Rows.quantileNumbersRow.kinds == (if Rows.quantileNumbersRow.domain.isEmpty then []else Tryz.f4.params.toList.map fun t=>match Tryz.prog.underlying t with |some (.int k)=>some k |_=>none)))=true:=by kernel_rfl
theorem ZI6:((Rows.quantileNumbersRow.pinned == Rows.quantileNumbersRow.pinnedBy))=true:=by kernel_rfl
theorem ZI5:((Rows.quantileNumbersRow.veiled == (Tryz.f4.params.toList++Rows.quantileNumbersSpec.plain.varTypes Tryz.prog++Tryz.f4.resultTypes.toList).any (Tryz.prog.veiledRec ·)))=true:=by kernel_rfl
theorem ZI4:(Rows.quantileNumbersRow.veiledFits Tryz.prog Tryz.f4.params.toList (Tryz.f4.params.toList++Rows.quantileNumbersSpec.plain.varTypes Tryz.prog++Tryz.f4.resultTypes.toList))=true:=by kernel_rfl
theorem ZBy {a b:Bool} (h:a=true) (h':b=true):(a&&b)=true:=by rw[h,h'];rfl
theorem ZJn:joinedFacts Tryz.prog 4 Tryz.f4 Rows.quantileNumbersSpec Rows.quantileNumbersRow=true:=by unfold joinedFacts;exact(ZBy (ZBy (ZBy (ZBy (ZBy (ZBy (ZBy (ZBy (ZBy (ZBy (ZBy (ZBy (ZBy (ZBy (ZBy (ZBy (ZBy (ZBy (ZBy (ZBy (ZBy (ZBy (ZBy (ZBy (ZBy (ZBy (ZBy (ZBy (ZBy (ZBy (ZBy ZK7 fact1) fact2) ZK6) ZK5) ZK4) fact6) ZK3) fact8) ZK2) ZJk) ZJj) ZJi) ZJh) ZJg) ZJf) ZJe) ZJd) ZJc) ZJb) ZJa) ZI9) fact22) ZI8) fact24) fact25) fact26) fact27) ZI7) ZI6) ZI5) ZI4)
theorem ZGt:Tryz.prog.funcNamed "tablefinder/tablefinderlaw23.QuantileNumbers" =some 4:=by kernel_rfl
theorem ZK0:Tryz.f4.isInstance Tryz.prog Rows.quantileNumbersRow.origin Rows.quantileNumbersRow.targs:=of_decide_eq_true (by kernel_rfl)
theorem ZKI:Tryz.f4.isWrapper Tryz.prog Rows.quantileNumbersRow.wrapper Rows.quantileNumbersRow.mainSum:=by unfold Func.isWrapper;first |(rw[if_pos (by decide+kernel)];kernel_rfl) |(rw[if_neg (by decide+kernel)];exact⟨rfl,rfl⟩)
theorem ZIt:Rows.quantileNumbersRow.wfByText (OpenSpec.ofChange Rows.quantileNumbersSpec)=true:=by kernel_rfl
theorem mainIs_:Tryz.prog.mainIs=some ((true, "cbb9050748a371b4c6446a223b38c2a958a8cc32d44cb5e0acb64c81ff403e1f").1,(true, "cbb9050748a371b4c6446a223b38c2a958a8cc32d44cb5e0acb64c81ff403e1f").2.toList):=facts.mainIs_
theorem ZK1:false=Rows.quantileNumbersRow.goesBy Tryz.prog:=by kernel_rfl
theorem looks_:true=Tryz.prog.looks []:=facts.looks_
theorem ZIF:([24,24,25].all fun u=> !Tryz.prog.wantsStandIn u)=true:=by kernel_rfl
end Go.Proofs.YthefajbigloihaaGreatDoor.quantileNumbers

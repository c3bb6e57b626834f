/- Closed facts of the row UnionsearchPairs and of the program. -/
import Derived.Test.YteopakpakelkoaaGreatDoorFacts
set_option linter.unusedVariables false
set_option linter.unusedSimpArgs false
set_option linter.unusedSectionVars false
set_option maxRecDepth 100000
namespace Go.Proofs.YteopakpakelkoaaGreatDoor.unionsearchPairs
theorem ZY9:(Rows.unionsearchPairsRow.wf (OpenSpec.ofChange Rows.unionsearchPairsSpec))=true:=by kernel_rfl
theorem fact1:(laidOutB Tryz.prog)=true:=facts.fact1
theorem fact2:(mapsRowed Tryz.prog)=true:=facts.fact2
theorem ZY8:(Tryz.f3.params.all (Tryz.prog.readableRec ·))=true:=by kernel_rfl
theorem ZY7:(namedTie Tryz.prog Rows.unionsearchPairsRow.named Rows.unionsearchPairsSpec.vars)=true:=by kernel_rfl
theorem ZY6:((Rows.unionsearchPairsRow.stops == []))=true:=by kernel_rfl
theorem fact6:((Tryz.prog.stops == []))=true:=facts.fact6
theorem ZY5:((Rows.unionsearchPairsRow.knobs == []))=true:=by kernel_rfl
theorem fact8:((Tryz.prog.stopKnobs == []))=true:=facts.fact8
theorem ZY4:((Rows.unionsearchPairsRow.inPlace == Tryz.prog.inPlace 3))=true:=by kernel_rfl
theorem ZWb:((Rows.unionsearchPairsRow.unfollowed == Tryz.prog.unfollowed 3))=true:=by kernel_rfl
theorem ZWa:((Rows.unionsearchPairsRow.recurses == Tryz.prog.recurses 3))=true:=by kernel_rfl
theorem ZV9:((Rows.unionsearchPairsRow.named == Tryz.prog.varsNamed 3))=true:=by kernel_rfl
theorem ZV8:((Rows.unionsearchPairsRow.maps == (Tryz.f3.params.toList++Rows.unionsearchPairsSpec.plain.varTypes Tryz.prog).any (Tryz.prog.mapsRec ·)))=true:=by kernel_rfl
theorem ZV7:((Rows.unionsearchPairsRow.ifaces == (Tryz.f3.params.toList++Rows.unionsearchPairsSpec.plain.varTypes Tryz.prog).any (Tryz.prog.ifacesRec ·)))=true:=by kernel_rfl
theorem ZV6:((Rows.unionsearchPairsRow.mapsOut == Tryz.prog.mapsAmong Tryz.f3.resultTypes.toList))=true:=by kernel_rfl
theorem ZV5:((Rows.unionsearchPairsRow.loops == (Tryz.f3.params.toList++Rows.unionsearchPairsSpec.plain.varTypes Tryz.prog).any (Tryz.prog.loopsFrom ·)))=true:=by kernel_rfl
theorem ZV4:((Rows.unionsearchPairsRow.wideKeys == (Tryz.f3.params.toList++Rows.unionsearchPairsSpec.plain.varTypes Tryz.prog++Tryz.f3.resultTypes.toList).any (Tryz.prog.wideKeysFrom ·)))=true:=by kernel_rfl
theorem ZV3:(Rows.unionsearchPairsSpec.vars.all (Tryz.prog.varReadable ·))=true:=by kernel_rfl
theorem ZV2:(Tryz.f3.resultTypes.all (fun t=>Tryz.prog.readableRec t&&decide (t < Tryz.prog.types.size)))=true:=by kernel_rfl
theorem ZV1:((Rows.unionsearchPairsRow.ifacesOut == Tryz.f3.resultTypes.toList.any (Tryz.prog.ifacesRec ·)))=true:=by kernel_rfl
theorem ZV0:((Rows.unionsearchPairsRow.loopsOut == Tryz.f3.resultTypes.toList.any (Tryz.prog.loopsFrom ·)))=true:=by kernel_rfl
theorem fact22:((Rows.unionsearchPairsRow.plainKeys == Tryz.prog.plainKeys))=true:=facts.fact22
theorem ZVZ:(Rows.unionsearchPairsRow.shortTexts.isNone)=true:=by kernel_rfl
theorem fact24:(Tryz.prog.stopsHeard)=true:=facts.fact24
theorem fact25:(Tryz.prog.mayEnter)=true:=facts.fact25
theorem fact26:((Rows.unionsearchPairsRow.lifted == Tryz.prog.liftsFinal))=true:=facts.fact26
theorem fact27:((Tryz.prog.make == some Rows.unionsearchPairsRow.make))=true:=facts.fact27
theorem ZVY:((Rows.unionsearchPairsRow.kinds == (if Rows.unionsearchPairsRow.domain.isEmpty then []else Tryz.f3.params.toList.map fun t=>match Tryz.prog.underlying t with |some (.int k)=>some k |_=>none)))=true:=by kernel_rfl
theorem ZVX:((Rows.unionsearchPairsRow.pinned == Rows.unionsearchPairsRow.pinnedBy))=true:=by kernel_rfl
theorem ZVW:((Rows.unionsearchPairsRow.veiled == (Tryz.f3.params.toList++Rows.unionsearchPairsSpec.plain.varTypes Tryz.prog++Tryz.f3.resultTypes.toList).any (Tryz.prog.veiledRec ·)))=true:=by kernel_rfl
theorem ZVV:(Rows.unionsearchPairsRow.veiledFits Tryz.prog Tryz.f3.params.toList (Tryz.f3.params.toList++Rows.unionsearchPairsSpec.plain.varTypes Tryz.prog++Tryz.f3.resultTypes.toList))=true:=by kernel_rfl
theorem ZIa {a b:Bool} (h:a=true) (h':b=true):(a&&b)=true:=by rw[h,h'];rfl
theorem ZWf:joinedFacts Tryz.prog 3 Tryz.f3 Rows.unionsearchPairsSpec Rows.unionsearchPairsRow=true:=by unfold joinedFacts;exact(ZIa (ZIa (ZIa (ZIa (ZIa (ZIa (ZIa (ZIa (ZIa (ZIa (ZIa (ZIa (ZIa (ZIa (ZIa (ZIa (ZIa (ZIa (ZIa (ZIa (ZIa (ZIa (ZIa (ZIa (ZIa (ZIa (ZIa (ZIa (ZIa (ZIa (ZIa ZY9 fact1) fact2) ZY8) ZY7) ZY6) fact6) ZY5) fact8) ZY4) ZWb) ZWa) ZV9) ZV8) ZV7) ZV6) ZV5) ZV4) ZV3) ZV2) ZV1) ZV0) fact22) ZVZ) fact24) fact25) fact26) fact27) ZVY) ZVX) ZVW) ZVV)
theorem ZRw:Tryz.prog.funcNamed "tablefinder/tablefinderlaw28.UnionsearchPairs" =some 3:=by kernel_rfl
theorem ZY2:Tryz.f3.isInstance Tryz.prog Rows.unionsearchPairsRow.origin Rows.unionsearchPairsRow.targs:=of_decide_eq_true (by kernel_rfl)
theorem ZYA:Tryz.f3.isWrapper Tryz.prog Rows.unionsearchPairsRow.wrapper Rows.unionsearchPairsRow.mainSum:=by unfold Func.isWrapper;first |(rw[if_pos (by decide+kernel)];kernel_rfl) |(rw[if_neg (by decide+kernel)];exact⟨rfl,rfl⟩)
theorem ZU3:Rows.unionsearchPairsRow.wfByText (OpenSpec.ofChange Rows.unionsearchPairsSpec)=true:=by kernel_rfl
theorem mainIs_:Tryz.prog.mainIs=some ((true, "227b809be0a86251cf4fa55eab6459dd828d42d5c56f64c9df674cc8dd32c7d3").1,(true, "227b809be0a86251cf4fa55eab6459dd828d42d5c56f64c9df674cc8dd32c7d3").2.toList):=facts.mainIs_
theorem ZY3:false=Rows.unionsearchPairsRow.goesBy Tryz.prog:=by kernel_rfl
theorem looks_:true=Tryz.prog.looks []:=facts.looks_
theorem ZVe:([24,25,25,3].all fun u=> !Tryz.prog.wantsStandIn u)=true:=by kernel_rfl
end Go.Proofs.YteopakpakelkoaaGreatDoor.unionsearchPairs

/- Closed facts of the row UnionsearchTop and of the program. -/
import Derived.Test.YtdonkbljnbaacaaGreatDoorFacts
set_option linter.unusedVariables false
set_option linter.unusedSimpArgs false
set_option linter.unusedSectionVars false
set_option maxRecDepth 100000
namespace Go.Proofs.YtdonkbljnbaacaaGreatDoor.unionsearchTop
theorem Z0I:(Rows.unionsearchTopRow.wf (OpenSpec.ofChange Rows.unionsearchTopSpec))=true:=by kernel_rfl
theorem fact1:(laidOutB Tryz.prog)=true:=facts.fact1
theorem fact2:(mapsRowed Tryz.prog)=true:=facts.fact2
theorem Z0H:(Tryz.f4.params.all (Tryz.prog.readableRec ·))=true:=by kernel_rfl
theorem Z0G:(namedTie Tryz.prog Rows.unionsearchTopRow.named Rows.unionsearchTopSpec.vars)=true:=by kernel_rfl
theorem Z0F:((Rows.unionsearchTopRow.stops == []))=true:=by kernel_rfl
theorem fact6:((Tryz.prog.stops == []))=true:=facts.fact6
theorem Z0E:((Rows.unionsearchTopRow.knobs == []))=true:=by kernel_rfl
theorem fact8:((Tryz.prog.stopKnobs == []))=true:=facts.fact8
theorem Z0D:((Rows.unionsearchTopRow.inPlace == Tryz.prog.inPlace 4))=true:=by kernel_rfl
theorem ZXG:((Rows.unionsearchTopRow.unfollowed == Tryz.prog.unfollowed 4))=true:=by kernel_rfl
theorem ZXF:((Rows.unionsearchTopRow.recurses == Tryz.prog.recurses 4))=true:=by kernel_rfl
theorem ZXE:((Rows.unionsearchTopRow.named == Tryz.prog.varsNamed 4))=true:=by kernel_rfl
theorem ZXD:((Rows.unionsearchTopRow.maps == (Tryz.f4.params.toList++Rows.unionsearchTopSpec.plain.varTypes Tryz.prog).any (Tryz.prog.mapsRec ·)))=true:=by kernel_rfl
theorem ZXC:((Rows.unionsearchTopRow.ifaces == (Tryz.f4.params.toList++Rows.unionsearchTopSpec.plain.varTypes Tryz.prog).any (Tryz.prog.ifacesRec ·)))=true:=by kernel_rfl
theorem ZXB:((Rows.unionsearchTopRow.mapsOut == Tryz.prog.mapsAmong Tryz.f4.resultTypes.toList))=true:=by kernel_rfl
theorem ZXA:((Rows.unionsearchTopRow.loops == (Tryz.f4.params.toList++Rows.unionsearchTopSpec.plain.varTypes Tryz.prog).any (Tryz.prog.loopsFrom ·)))=true:=by kernel_rfl
theorem ZXz:((Rows.unionsearchTopRow.wideKeys == (Tryz.f4.params.toList++Rows.unionsearchTopSpec.plain.varTypes Tryz.prog++Tryz.f4.resultTypes.toList).any (Tryz.prog.wideKeysFrom ·)))=true:=by kernel_rfl
theorem ZXy:(Rows.unionsearchTopSpec.vars.all (Tryz.prog.varReadable ·))=true:=by kernel_rfl
theorem ZXx:(Tryz.f4.resultTypes.all (fun t=>Tryz.prog.readableRec t&&decide (t < Tryz.prog.types.size)))=true:=by kernel_rfl
theorem ZXw:((Rows.unionsearchTopRow.ifacesOut == Tryz.f4.resultTypes.toList.any (Tryz.prog.ifacesRec ·)))=true:=by kernel_rfl
theorem ZXv:((Rows.unionsearchTopRow.loopsOut == Tryz.f4.resultTypes.toList.any (Tryz.prog.loopsFrom ·)))=true:=by kernel_rfl
theorem fact22:((Rows.unionsearchTopRow.plainKeys == Tryz.prog.plainKeys))=true:=facts.fact22
theorem ZXu:(Rows.unionsearchTopRow.shortTexts.isNone)=true:=by kernel_rfl
theorem fact24:(Tryz.prog.stopsHeard)=true:=facts.fact24
theorem fact25:(Tryz.prog.mayEnter)=true:=facts.fact25
theorem fact26:((Rows.unionsearchTopRow.lifted == Tryz.prog.liftsFinal))=true:=facts.fact26
theorem fact27:((Tryz.prog.make == some Rows.unionsearchTopRow.make))=true:=facts.fact27
theorem ZXt:((Rows.unionsearchTopRow.kinds == (if Rows.unionsearchTopRow.domain.isEmpty then []else Tryz.f4.params.toList.map fun t=>match Tryz.prog.underlying t with |some (.int k)=>some k |_=>none)))=true:=by kernel_rfl
theorem ZXs:((Rows.unionsearchTopRow.pinned == Rows.unionsearchTopRow.pinnedBy))=true:=by kernel_rfl
theorem ZXr:((Rows.unionsearchTopRow.veiled == (Tryz.f4.params.toList++Rows.unionsearchTopSpec.plain.varTypes Tryz.prog++Tryz.f4.resultTypes.toList).any (Tryz.prog.veiledRec ·)))=true:=by kernel_rfl
theorem ZXq:(Rows.unionsearchTopRow.veiledFits Tryz.prog Tryz.f4.params.toList (Tryz.f4.params.toList++Rows.unionsearchTopSpec.plain.varTypes Tryz.prog++Tryz.f4.resultTypes.toList))=true:=by kernel_rfl
theorem ZIX {a b:Bool} (h:a=true) (h':b=true):(a&&b)=true:=by rw[h,h'];rfl
theorem ZXK:joinedFacts Tryz.prog 4 Tryz.f4 Rows.unionsearchTopSpec Rows.unionsearchTopRow=true:=by unfold joinedFacts;exact(ZIX (ZIX (ZIX (ZIX (ZIX (ZIX (ZIX (ZIX (ZIX (ZIX (ZIX (ZIX (ZIX (ZIX (ZIX (ZIX (ZIX (ZIX (ZIX (ZIX (ZIX (ZIX (ZIX (ZIX (ZIX (ZIX (ZIX (ZIX (ZIX (ZIX (ZIX Z0I fact1) fact2) Z0H) Z0G) Z0F) fact6) Z0E) fact8) Z0D) ZXG) ZXF) ZXE) ZXD) ZXC) ZXB) ZXA) ZXz) ZXy) ZXx) ZXw) ZXv) fact22) ZXu) fact24) fact25) fact26) fact27) ZXt) ZXs) ZXr) ZXq)
theorem ZSH:Tryz.prog.funcNamed "tablefinder/tablefinderlaw28.UnionsearchTop" =some 4:=by kernel_rfl
theorem Z0B:Tryz.f4.isInstance Tryz.prog Rows.unionsearchTopRow.origin Rows.unionsearchTopRow.targs:=of_decide_eq_true (by kernel_rfl)
theorem ZZ9:Tryz.f4.isWrapper Tryz.prog Rows.unionsearchTopRow.wrapper Rows.unionsearchTopRow.mainSum:=by unfold Func.isWrapper;first |(rw[if_pos (by decide+kernel)];kernel_rfl) |(rw[if_neg (by decide+kernel)];exact⟨rfl,rfl⟩)
theorem ZWA:Rows.unionsearchTopRow.wfByText (OpenSpec.ofChange Rows.unionsearchTopSpec)=true:=by kernel_rfl
theorem mainIs_:Tryz.prog.mainIs=some ((true, "227b809be0a86251cf4fa55eab6459dd828d42d5c56f64c9df674cc8dd32c7d3").1,(true, "227b809be0a86251cf4fa55eab6459dd828d42d5c56f64c9df674cc8dd32c7d3").2.toList):=facts.mainIs_
theorem Z0C:false=Rows.unionsearchTopRow.goesBy Tryz.prog:=by kernel_rfl
theorem looks_:true=Tryz.prog.looks []:=facts.looks_
theorem ZWI:([25,55,3].all fun u=> !Tryz.prog.wantsStandIn u)=true:=by kernel_rfl
end Go.Proofs.YtdonkbljnbaacaaGreatDoor.unionsearchTop

/- Closed facts of the row CorrelationKeys and of the program. -/
import Derived.Test.YtbjnddlpdlfknaaGreatDoorFacts
set_option linter.unusedVariables false
set_option linter.unusedSimpArgs false
set_option linter.unusedSectionVars false
set_option maxRecDepth 100000
namespace Go.Proofs.YtbjnddlpdlfknaaGreatDoor.correlationKeys
theorem ZG2:(Rows.correlationKeysRow.wf (OpenSpec.ofChange Rows.correlationKeysSpec))=true:=by kernel_rfl
theorem fact1:(laidOutB Tryz.prog)=true:=facts.fact1
theorem fact2:(mapsRowed Tryz.prog)=true:=facts.fact2
theorem ZG1:(Tryz.f6.params.all (Tryz.prog.readableRec ·))=true:=by kernel_rfl
theorem ZG0:(namedTie Tryz.prog Rows.correlationKeysRow.named Rows.correlationKeysSpec.vars)=true:=by kernel_rfl
theorem ZGZ:((Rows.correlationKeysRow.stops == []))=true:=by kernel_rfl
theorem fact6:((Tryz.prog.stops == []))=true:=facts.fact6
theorem ZGY:((Rows.correlationKeysRow.knobs == []))=true:=by kernel_rfl
theorem fact8:((Tryz.prog.stopKnobs == []))=true:=facts.fact8
theorem ZGX:((Rows.correlationKeysRow.inPlace == Tryz.prog.inPlace 6))=true:=by kernel_rfl
theorem ZFo:((Rows.correlationKeysRow.unfollowed == Tryz.prog.unfollowed 6))=true:=by kernel_rfl
theorem ZFn:((Rows.correlationKeysRow.recurses == Tryz.prog.recurses 6))=true:=by kernel_rfl
theorem ZFm:((Rows.correlationKeysRow.named == Tryz.prog.varsNamed 6))=true:=by kernel_rfl
theorem ZFl:((Rows.correlationKeysRow.maps == (Tryz.f6.params.toList++Rows.correlationKeysSpec.plain.varTypes Tryz.prog).any (Tryz.prog.mapsRec ·)))=true:=by kernel_rfl
theorem ZFk:((Rows.correlationKeysRow.ifaces == (Tryz.f6.params.toList++Rows.correlationKeysSpec.plain.varTypes Tryz.prog).any (Tryz.prog.ifacesRec ·)))=true:=by kernel_rfl
theorem ZFj:((Rows.correlationKeysRow.mapsOut == Tryz.prog.mapsAmong Tryz.f6.resultTypes.toList))=true:=by kernel_rfl
theorem ZFi:((Rows.correlationKeysRow.loops == (Tryz.f6.params.toList++Rows.correlationKeysSpec.plain.varTypes Tryz.prog).any (Tryz.prog.loopsFrom ·)))=true:=by kernel_rfl
theorem ZFh:((Rows.correlationKeysRow.wideKeys == (Tryz.f6.params.toList++Rows.correlationKeysSpec.plain.varTypes Tryz.prog++Tryz.f6.resultTypes.toList).any (Tryz.prog.wideKeysFrom ·)))=true:=by kernel_rfl
theorem ZFg:(Rows.correlationKeysSpec.vars.all (Tryz.prog.varReadable ·))=true:=by kernel_rfl
theorem ZFf:(Tryz.f6.resultTypes.all (fun t=>Tryz.prog.readableRec t&&decide (t < Tryz.prog.types.size)))=true:=by kernel_rfl
theorem ZFe:((Rows.correlationKeysRow.ifacesOut == Tryz.f6.resultTypes.toList.any (Tryz.prog.ifacesRec ·)))=true:=by kernel_rfl
theorem ZFd:((Rows.correlationKeysRow.loopsOut == Tryz.f6.resultTypes.toList.any (Tryz.prog.loopsFrom ·)))=true:=by kernel_rfl
theorem fact22:((Rows.correlationKeysRow.plainKeys == Tryz.prog.plainKeys))=true:=facts.fact22
theorem ZFc:(Rows.correlationKeysRow.shortTexts.isNone)=true:=by kernel_rfl
theorem fact24:(Tryz.prog.stopsHeard)=true:=facts.fact24
theorem fact25:(Tryz.prog.mayEnter)=true:=facts.fact25
theorem fact26:((Rows.correlationKeysRow.lifted == Tryz.prog.liftsFinal))=true:=facts.fact26
theorem fact27:((Tryz.prog.make == some Rows.correlationKeysRow.make))=true:=facts.fact27
theorem ZFb:((Rows.correlationKeysRow.kinds == (if Rows.correlationKeysRow.domain.isEmpty then []else Tryz.f6.params.toList.map fun t=>match Tryz.prog.underlying t with |some (.int k)=>some k |_=>none)))=true:=by kernel_rfl
theorem ZFa:((Rows.correlationKeysRow.pinned == Rows.correlationKeysRow.pinnedBy))=true:=by kernel_rfl
theorem ZE9:((Rows.correlationKeysRow.veiled == (Tryz.f6.params.toList++Rows.correlationKeysSpec.plain.varTypes Tryz.prog++Tryz.f6.resultTypes.toList).any (Tryz.prog.veiledRec ·)))=true:=by kernel_rfl
theorem ZE8:(Rows.correlationKeysRow.veiledFits Tryz.prog Tryz.f6.params.toList (Tryz.f6.params.toList++Rows.correlationKeysSpec.plain.varTypes Tryz.prog++Tryz.f6.resultTypes.toList))=true:=by kernel_rfl
theorem Zym {a b:Bool} (h:a=true) (h':b=true):(a&&b)=true:=by rw[h,h'];rfl
theorem ZFr:joinedFacts Tryz.prog 6 Tryz.f6 Rows.correlationKeysSpec Rows.correlationKeysRow=true:=by unfold joinedFacts;exact(Zym (Zym (Zym (Zym (Zym (Zym (Zym (Zym (Zym (Zym (Zym (Zym (Zym (Zym (Zym (Zym (Zym (Zym (Zym (Zym (Zym (Zym (Zym (Zym (Zym (Zym (Zym (Zym (Zym (Zym (Zym ZG2 fact1) fact2) ZG1) ZG0) ZGZ) fact6) ZGY) fact8) ZGX) ZFo) ZFn) ZFm) ZFl) ZFk) ZFj) ZFi) ZFh) ZFg) ZFf) ZFe) ZFd) fact22) ZFc) fact24) fact25) fact26) fact27) ZFb) ZFa) ZE9) ZE8)
theorem ZCy:Tryz.prog.funcNamed "tablefinder/tablefinderlaw25.CorrelationKeys" =some 6:=by kernel_rfl
theorem ZGU:Tryz.f6.isInstance Tryz.prog Rows.correlationKeysRow.origin Rows.correlationKeysRow.targs:=of_decide_eq_true (by kernel_rfl)
theorem ZGE:Tryz.f6.isWrapper Tryz.prog Rows.correlationKeysRow.wrapper Rows.correlationKeysRow.mainSum:=by unfold Func.isWrapper;first |(rw[if_pos (by decide+kernel)];kernel_rfl) |(rw[if_neg (by decide+kernel)];exact⟨rfl,rfl⟩)
theorem ZEA:Rows.correlationKeysRow.wfByText (OpenSpec.ofChange Rows.correlationKeysSpec)=true:=by kernel_rfl
theorem mainIs_:Tryz.prog.mainIs=some ((true, "c1238d137551f79098629bacbf4651e08366f198a9e459edac437b5f1ba99b83").1,(true, "c1238d137551f79098629bacbf4651e08366f198a9e459edac437b5f1ba99b83").2.toList):=facts.mainIs_
theorem ZGW:false=Rows.correlationKeysRow.goesBy Tryz.prog:=by kernel_rfl
theorem looks_:true=Tryz.prog.looks []:=facts.looks_
theorem ZEG:([22].all fun u=> !Tryz.prog.wantsStandIn u)=true:=by kernel_rfl
end Go.Proofs.YtbjnddlpdlfknaaGreatDoor.correlationKeys

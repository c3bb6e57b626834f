/- Closed facts of the row QuantileLists and of the program. -/
import Derived.Test.YthefajbigloihaaGreatDoorFacts
set_option linter.unusedVariables false
set_option linter.unusedSimpArgs false
set_option linter.unusedSectionVars false
set_option maxRecDepth 100000
namespace Go.Proofs.YthefajbigloihaaGreatDoor.quantileLists
theorem ZNG:(Rows.quantileListsRow.wf (OpenSpec.ofChange Rows.quantileListsSpec))=true:=by kernel_rfl
theorem fact1:(laidOutB Tryz.prog)=true:=facts.fact1
theorem fact2:(mapsRowed Tryz.prog)=true:=facts.fact2
theorem ZNF:(Tryz.f10.params.all (Tryz.prog.readableRec ·))=true:=by kernel_rfl
theorem ZNE:(namedTie Tryz.prog Rows.quantileListsRow.named Rows.quantileListsSpec.vars)=true:=by kernel_rfl
theorem ZND:((Rows.quantileListsRow.stops == []))=true:=by kernel_rfl
theorem fact6:((Tryz.prog.stops == []))=true:=facts.fact6
theorem ZNC:((Rows.quantileListsRow.knobs == []))=true:=by kernel_rfl
theorem fact8:((Tryz.prog.stopKnobs == []))=true:=facts.fact8
theorem ZNB:((Rows.quantileListsRow.inPlace == Tryz.prog.inPlace 10))=true:=by kernel_rfl
theorem ZLV:((Rows.quantileListsRow.unfollowed == Tryz.prog.unfollowed 10))=true:=by kernel_rfl
theorem ZLU:((Rows.quantileListsRow.recurses == Tryz.prog.recurses 10))=true:=by kernel_rfl
theorem ZLT:((Rows.quantileListsRow.named == Tryz.prog.varsNamed 10))=true:=by kernel_rfl
theorem ZLS:((Rows.quantileListsRow.maps == (Tryz.f10.params.toList++Rows.quantileListsSpec.plain.varTypes Tryz.prog).any (Tryz.prog.mapsRec ·)))=true:=by kernel_rfl
theorem ZLR:((Rows.quantileListsRow.ifaces == (Tryz.f10.params.toList++Rows.quantileListsSpec.plain.varTypes Tryz.prog).any (Tryz.prog.ifacesRec ·)))=true:=by kernel_rfl
theorem ZLQ:((Rows.quantileListsRow.mapsOut == Tryz.prog.mapsAmong Tryz.f10.resultTypes.toList))=true:=by kernel_rfl
theorem ZLP:((Rows.quantileListsRow.loops == (Tryz.f10.params.toList++Rows.quantileListsSpec.plain.varTypes Tryz.prog).any (Tryz.prog.loopsFrom ·)))=true:=by kernel_rfl
theorem ZLO:((Rows.quantileListsRow.wideKeys == (Tryz.f10.params.toList++Rows.quantileListsSpec.plain.varTypes Tryz.prog++Tryz.f10.resultTypes.toList).any (Tryz.prog.wideKeysFrom ·)))=true:=by kernel_rfl
theorem ZLN:(Rows.quantileListsSpec.vars.all (Tryz.prog.varReadable ·))=true:=by kernel_rfl
theorem ZLM:(Tryz.f10.resultTypes.all (fun t=>Tryz.prog.readableRec t&&decide (t < Tryz.prog.types.size)))=true:=by kernel_rfl
theorem ZLL:((Rows.quantileListsRow.ifacesOut == Tryz.f10.resultTypes.toList.any (Tryz.prog.ifacesRec ·)))=true:=by kernel_rfl
theorem ZLK:((Rows.quantileListsRow.loopsOut == Tryz.f10.resultTypes.toList.any (Tryz.prog.loopsFrom ·)))=true:=by kernel_rfl
theorem fact22:((Rows.quantileListsRow.plainKeys == Tryz.prog.plainKeys))=true:=facts.fact22
theorem ZLJ:(Rows.quantileListsRow.shortTexts.isNone)=true:=by kernel_rfl
theorem fact24:(Tryz.prog.stopsHeard)=true:=facts.fact24
theorem fact25:(Tryz.prog.mayEnter)=true:=facts.fact25
theorem fact26:((Rows.quantileListsRow.lifted == Tryz.prog.liftsFinal))=true:=facts.fact26
theorem fact27:((Tryz.prog.make == some Rows.quantileListsRow.make))=true:=facts.fact27
theorem ZLI:((Rows.quantileListsRow.kinds == (if Rows.quantileListsRow.domain.isEmpty then []else Tryz.f10.params.toList.map fun t=>match Tryz.prog.underlying t with |some (.int k)=>some k |_=>none)))=true:=by kernel_rfl
theorem ZLH:((Rows.quantileListsRow.pinned == Rows.quantileListsRow.pinnedBy))=true:=by kernel_rfl
theorem ZLG:((Rows.quantileListsRow.veiled == (Tryz.f10.params.toList++Rows.quantileListsSpec.plain.varTypes Tryz.prog++Tryz.f10.resultTypes.toList).any (Tryz.prog.veiledRec ·)))=true:=by kernel_rfl
theorem ZLF:(Rows.quantileListsRow.veiledFits Tryz.prog Tryz.f10.params.toList (Tryz.f10.params.toList++Rows.quantileListsSpec.plain.varTypes Tryz.prog++Tryz.f10.resultTypes.toList))=true:=by kernel_rfl
theorem ZDm {a b:Bool} (h:a=true) (h':b=true):(a&&b)=true:=by rw[h,h'];rfl
theorem ZLX:joinedFacts Tryz.prog 10 Tryz.f10 Rows.quantileListsSpec Rows.quantileListsRow=true:=by unfold joinedFacts;exact(ZDm (ZDm (ZDm (ZDm (ZDm (ZDm (ZDm (ZDm (ZDm (ZDm (ZDm (ZDm (ZDm (ZDm (ZDm (ZDm (ZDm (ZDm (ZDm (ZDm (ZDm (ZDm (ZDm (ZDm (ZDm (ZDm (ZDm (ZDm (ZDm (ZDm (ZDm ZNG fact1) fact2) ZNF) ZNE) ZND) fact6) ZNC) fact8) ZNB) ZLV) ZLU) ZLT) ZLS) ZLR) ZLQ) ZLP) ZLO) ZLN) ZLM) ZLL) ZLK) fact22) ZLJ) fact24) fact25) fact26) fact27) ZLI) ZLH) ZLG) ZLF)
theorem ZIv:Tryz.prog.funcNamed "tablefinder/tablefinderlaw23.QuantileLists" =some 10:=by kernel_rfl
theorem ZNz:Tryz.f10.isInstance Tryz.prog Rows.quantileListsRow.origin Rows.quantileListsRow.targs:=of_decide_eq_true (by kernel_rfl)
theorem ZNh:Tryz.f10.isWrapper Tryz.prog Rows.quantileListsRow.wrapper Rows.quantileListsRow.mainSum:=by unfold Func.isWrapper;first |(rw[if_pos (by decide+kernel)];kernel_rfl) |(rw[if_neg (by decide+kernel)];exact⟨rfl,rfl⟩)
theorem ZKX:Rows.quantileListsRow.wfByText (OpenSpec.ofChange Rows.quantileListsSpec)=true:=by kernel_rfl
theorem mainIs_:Tryz.prog.mainIs=some ((true, "cbb9050748a371b4c6446a223b38c2a958a8cc32d44cb5e0acb64c81ff403e1f").1,(true, "cbb9050748a371b4c6446a223b38c2a958a8cc32d44cb5e0acb64c81ff403e1f").2.toList):=facts.mainIs_
theorem ZNA:false=Rows.quantileListsRow.goesBy Tryz.prog:=by kernel_rfl
theorem looks_:true=Tryz.prog.looks []:=facts.looks_
theorem ZLa:([25].all fun u=> !Tryz.prog.wantsStandIn u)=true:=by kernel_rfl
end Go.Proofs.YthefajbigloihaaGreatDoor.quantileLists

/- Closed facts of the row SimilarityWords and of the program. -/
import Derived.Test.YthefajbigloihaaGreatDoorFacts
set_option linter.unusedVariables false
set_option linter.unusedSimpArgs false
set_option linter.unusedSectionVars false
set_option maxRecDepth 100000
namespace Go.Proofs.YthefajbigloihaaGreatDoor.similarityWords
theorem ZCj:(Rows.similarityWordsRow.wf (OpenSpec.ofChange Rows.similarityWordsSpec))=true:=by kernel_rfl
theorem fact1:(laidOutB Tryz.prog)=true:=facts.fact1
theorem fact2:(mapsRowed Tryz.prog)=true:=facts.fact2
theorem ZCi:(Tryz.f8.params.all (Tryz.prog.readableRec ·))=true:=by kernel_rfl
theorem ZCh:(namedTie Tryz.prog Rows.similarityWordsRow.named Rows.similarityWordsSpec.vars)=true:=by kernel_rfl
theorem ZCg:((Rows.similarityWordsRow.stops == []))=true:=by kernel_rfl
theorem fact6:((Tryz.prog.stops == []))=true:=facts.fact6
theorem ZCf:((Rows.similarityWordsRow.knobs == []))=true:=by kernel_rfl
theorem fact8:((Tryz.prog.stopKnobs == []))=true:=facts.fact8
theorem ZCe:((Rows.similarityWordsRow.inPlace == Tryz.prog.inPlace 8))=true:=by kernel_rfl
theorem ZAT:((Rows.similarityWordsRow.unfollowed == Tryz.prog.unfollowed 8))=true:=by kernel_rfl
theorem ZAS:((Rows.similarityWordsRow.recurses == Tryz.prog.recurses 8))=true:=by kernel_rfl
theorem ZAR:((Rows.similarityWordsRow.named == Tryz.prog.varsNamed 8))=true:=by kernel_rfl
theorem ZAQ:((Rows.similarityWordsRow.maps == (Tryz.f8.params.toList++Rows.similarityWordsSpec.plain.varTypes Tryz.prog).any (Tryz.prog.mapsRec ·)))=true:=by kernel_rfl
theorem ZAP:((Rows.similarityWordsRow.ifaces == (Tryz.f8.params.toList++Rows.similarityWordsSpec.plain.varTypes Tryz.prog).any (Tryz.prog.ifacesRec ·)))=true:=by kernel_rfl
theorem ZAO:((Rows.similarityWordsRow.mapsOut == Tryz.prog.mapsAmong Tryz.f8.resultTypes.toList))=true:=by kernel_rfl
theorem ZAN:((Rows.similarityWordsRow.loops == (Tryz.f8.params.toList++Rows.similarityWordsSpec.plain.varTypes Tryz.prog).any (Tryz.prog.loopsFrom ·)))=true:=by kernel_rfl
theorem ZAM:((Rows.similarityWordsRow.wideKeys == (Tryz.f8.params.toList++Rows.similarityWordsSpec.plain.varTypes Tryz.prog++Tryz.f8.resultTypes.toList).any (Tryz.prog.wideKeysFrom ·)))=true:=by kernel_rfl
theorem ZAL:(Rows.similarityWordsSpec.vars.all (Tryz.prog.varReadable ·))=true:=by kernel_rfl
theorem ZAK:(Tryz.f8.resultTypes.all (fun t=>Tryz.prog.readableRec t&&decide (t < Tryz.prog.types.size)))=true:=by kernel_rfl
theorem ZAJ:((Rows.similarityWordsRow.ifacesOut == Tryz.f8.resultTypes.toList.any (Tryz.prog.ifacesRec ·)))=true:=by kernel_rfl
theorem ZAI:((Rows.similarityWordsRow.loopsOut == Tryz.f8.resultTypes.toList.any (Tryz.prog.loopsFrom ·)))=true:=by kernel_rfl
theorem fact22:((Rows.similarityWordsRow.plainKeys == Tryz.prog.plainKeys))=true:=facts.fact22
theorem ZAH:(Rows.similarityWordsRow.shortTexts.isNone)=true:=by kernel_rfl
theorem fact24:(Tryz.prog.stopsHeard)=true:=facts.fact24
theorem fact25:(Tryz.prog.mayEnter)=true:=facts.fact25
theorem fact26:((Rows.similarityWordsRow.lifted == Tryz.prog.liftsFinal))=true:=facts.fact26
theorem fact27:((Tryz.prog.make == some Rows.similarityWordsRow.make))=true:=facts.fact27
theorem ZAG:((Rows.similarityWordsRow.kinds == (if Rows.similarityWordsRow.domain.isEmpty then []else Tryz.f8.params.toList.map fun t=>match Tryz.prog.underlying t with |some (.int k)=>some k |_=>none)))=true:=by kernel_rfl
theorem ZAF:((Rows.similarityWordsRow.pinned == Rows.similarityWordsRow.pinnedBy))=true:=by kernel_rfl
theorem ZAE:((Rows.similarityWordsRow.veiled == (Tryz.f8.params.toList++Rows.similarityWordsSpec.plain.varTypes Tryz.prog++Tryz.f8.resultTypes.toList).any (Tryz.prog.veiledRec ·)))=true:=by kernel_rfl
theorem ZAD:(Rows.similarityWordsRow.veiledFits Tryz.prog Tryz.f8.params.toList (Tryz.f8.params.toList++Rows.similarityWordsSpec.plain.varTypes Tryz.prog++Tryz.f8.resultTypes.toList))=true:=by kernel_rfl
theorem Zu7 {a b:Bool} (h:a=true) (h':b=true):(a&&b)=true:=by rw[h,h'];rfl
theorem ZAY:joinedFacts Tryz.prog 8 Tryz.f8 Rows.similarityWordsSpec Rows.similarityWordsRow=true:=by unfold joinedFacts;exact(Zu7 (Zu7 (Zu7 (Zu7 (Zu7 (Zu7 (Zu7 (Zu7 (Zu7 (Zu7 (Zu7 (Zu7 (Zu7 (Zu7 (Zu7 (Zu7 (Zu7 (Zu7 (Zu7 (Zu7 (Zu7 (Zu7 (Zu7 (Zu7 (Zu7 (Zu7 (Zu7 (Zu7 (Zu7 (Zu7 (Zu7 ZCj fact1) fact2) ZCi) ZCh) ZCg) fact6) ZCf) fact8) ZCe) ZAT) ZAS) ZAR) ZAQ) ZAP) ZAO) ZAN) ZAM) ZAL) ZAK) ZAJ) ZAI) fact22) ZAH) fact24) fact25) fact26) fact27) ZAG) ZAF) ZAE) ZAD)
theorem ZyL:Tryz.prog.funcNamed "tablefinder/tablefinderlaw26.SimilarityWords" =some 8:=by kernel_rfl
theorem ZCc:Tryz.f8.isInstance Tryz.prog Rows.similarityWordsRow.origin Rows.similarityWordsRow.targs:=of_decide_eq_true (by kernel_rfl)
theorem ZBZ:Tryz.f8.isWrapper Tryz.prog Rows.similarityWordsRow.wrapper Rows.similarityWordsRow.mainSum:=by unfold Func.isWrapper;first |(rw[if_pos (by decide+kernel)];kernel_rfl) |(rw[if_neg (by decide+kernel)];exact⟨rfl,rfl⟩)
theorem Zz9:Rows.similarityWordsRow.wfByText (OpenSpec.ofChange Rows.similarityWordsSpec)=true:=by kernel_rfl
theorem mainIs_:Tryz.prog.mainIs=some ((true, "cbb9050748a371b4c6446a223b38c2a958a8cc32d44cb5e0acb64c81ff403e1f").1,(true, "cbb9050748a371b4c6446a223b38c2a958a8cc32d44cb5e0acb64c81ff403e1f").2.toList):=facts.mainIs_
theorem ZCd:false=Rows.similarityWordsRow.goesBy Tryz.prog:=by kernel_rfl
theorem looks_:true=Tryz.prog.looks []:=facts.looks_
theorem ZAh:([25].all fun u=> !Tryz.prog.wantsStandIn u)=true:=by kernel_rfl
end Go.Proofs.YthefajbigloihaaGreatDoor.similarityWords

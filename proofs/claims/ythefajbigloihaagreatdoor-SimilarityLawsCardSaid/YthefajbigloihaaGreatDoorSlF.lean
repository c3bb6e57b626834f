/- Closed facts of the row SimilarityLaws and of the program. -/
import Derived.Test.YthefajbigloihaaGreatDoorFacts
set_option linter.unusedVariables false
set_option linter.unusedSimpArgs false
set_option linter.unusedSectionVars false
set_option maxRecDepth 100000
namespace Go.Proofs.YthefajbigloihaaGreatDoor.similarityLaws
theorem ZDH:(Rows.similarityLawsRow.wf (OpenSpec.ofChange Rows.similarityLawsSpec))=true:=by kernel_rfl
theorem fact1:(laidOutB Tryz.prog)=true:=facts.fact1
theorem fact2:(mapsRowed Tryz.prog)=true:=facts.fact2
theorem ZDG:(Tryz.f7.params.all (Tryz.prog.readableRec ·))=true:=by kernel_rfl
theorem ZDF:(namedTie Tryz.prog Rows.similarityLawsRow.named Rows.similarityLawsSpec.vars)=true:=by kernel_rfl
theorem ZDE:((Rows.similarityLawsRow.stops == []))=true:=by kernel_rfl
theorem fact6:((Tryz.prog.stops == []))=true:=facts.fact6
theorem ZDD:((Rows.similarityLawsRow.knobs == []))=true:=by kernel_rfl
theorem fact8:((Tryz.prog.stopKnobs == []))=true:=facts.fact8
theorem ZDC:((Rows.similarityLawsRow.inPlace == Tryz.prog.inPlace 7))=true:=by kernel_rfl
theorem ZCn:((Rows.similarityLawsRow.unfollowed == Tryz.prog.unfollowed 7))=true:=by kernel_rfl
theorem ZCm:((Rows.similarityLawsRow.recurses == Tryz.prog.recurses 7))=true:=by kernel_rfl
theorem ZCl:((Rows.similarityLawsRow.named == Tryz.prog.varsNamed 7))=true:=by kernel_rfl
theorem ZCk:((Rows.similarityLawsRow.maps == (Tryz.f7.params.toList++Rows.similarityLawsSpec.plain.varTypes Tryz.prog).any (Tryz.prog.mapsRec ·)))=true:=by kernel_rfl
theorem ZCj:((Rows.similarityLawsRow.ifaces == (Tryz.f7.params.toList++Rows.similarityLawsSpec.plain.varTypes Tryz.prog).any (Tryz.prog.ifacesRec ·)))=true:=by kernel_rfl
theorem ZCi:((Rows.similarityLawsRow.mapsOut == Tryz.prog.mapsAmong Tryz.f7.resultTypes.toList))=true:=by kernel_rfl
theorem ZCh:((Rows.similarityLawsRow.loops == (Tryz.f7.params.toList++Rows.similarityLawsSpec.plain.varTypes Tryz.prog).any (Tryz.prog.loopsFrom ·)))=true:=by kernel_rfl
theorem ZCg:((Rows.similarityLawsRow.wideKeys == (Tryz.f7.params.toList++Rows.similarityLawsSpec.plain.varTypes Tryz.prog++Tryz.f7.resultTypes.toList).any (Tryz.prog.wideKeysFrom ·)))=true:=by kernel_rfl
theorem ZCf:(Rows.similarityLawsSpec.vars.all (Tryz.prog.varReadable ·))=true:=by kernel_rfl
theorem ZCe:(Tryz.f7.resultTypes.all (fun t=>Tryz.prog.readableRec t&&decide (t < Tryz.prog.types.size)))=true:=by kernel_rfl
theorem ZCd:((Rows.similarityLawsRow.ifacesOut == Tryz.f7.resultTypes.toList.any (Tryz.prog.ifacesRec ·)))=true:=by kernel_rfl
theorem ZCc:((Rows.similarityLawsRow.loopsOut == Tryz.f7.resultTypes.toList.any (Tryz.prog.loopsFrom ·)))=true:=by kernel_rfl
theorem fact22:((Rows.similarityLawsRow.plainKeys == Tryz.prog.plainKeys))=true:=facts.fact22
theorem ZCb:(Rows.similarityLawsRow.shortTexts.isNone)=true:=by kernel_rfl
theorem fact24:(Tryz.prog.stopsHeard)=true:=facts.fact24
theorem fact25:(Tryz.prog.mayEnter)=true:=facts.fact25
theorem fact26:((Rows.similarityLawsRow.lifted == Tryz.prog.liftsFinal))=true:=facts.fact26
theorem fact27:((Tryz.prog.make == some Rows.similarityLawsRow.make))=true:=facts.fact27
theorem ZCa:((Rows.similarityLawsRow.kinds == (if Rows.similarityLawsRow.domain.isEmpty then []else Tryz.f7.params.toList.map fun t=>match Tryz.prog.underlying t with |some (.int k)=>some k |_=>none)))=true:=by kernel_rfl
theorem ZB9:((Rows.similarityLawsRow.pinned == Rows.similarityLawsRow.pinnedBy))=true:=by kernel_rfl
theorem ZB8:((Rows.similarityLawsRow.veiled == (Tryz.f7.params.toList++Rows.similarityLawsSpec.plain.varTypes Tryz.prog++Tryz.f7.resultTypes.toList).any (Tryz.prog.veiledRec ·)))=true:=by kernel_rfl
theorem ZB7:(Rows.similarityLawsRow.veiledFits Tryz.prog Tryz.f7.params.toList (Tryz.f7.params.toList++Rows.similarityLawsSpec.plain.varTypes Tryz.prog++Tryz.f7.resultTypes.toList))=true:=by kernel_rfl
theorem Zv0 {a b:Bool} (h:a=true) (h':b=true):(a&&b)=true:=by rw[h,h'];rfl
theorem ZCq:joinedFacts Tryz.prog 7 Tryz.f7 Rows.similarityLawsSpec Rows.similarityLawsRow=true:=by unfold joinedFacts;exact(Zv0 (Zv0 (Zv0 (Zv0 (Zv0 (Zv0 (Zv0 (Zv0 (Zv0 (Zv0 (Zv0 (Zv0 (Zv0 (Zv0 (Zv0 (Zv0 (Zv0 (Zv0 (Zv0 (Zv0 (Zv0 (Zv0 (Zv0 (Zv0 (Zv0 (Zv0 (Zv0 (Zv0 (Zv0 (Zv0 (Zv0 ZDH fact1) fact2) ZDG) ZDF) ZDE) fact6) ZDD) fact8) ZDC) ZCn) ZCm) ZCl) ZCk) ZCj) ZCi) ZCh) ZCg) ZCf) ZCe) ZCd) ZCc) fact22) ZCb) fact24) fact25) fact26) fact27) ZCa) ZB9) ZB8) ZB7)
theorem Zz6:Tryz.prog.funcNamed "tablefinder/tablefinderlaw26.SimilarityLaws" =some 7:=by kernel_rfl
theorem ZDA:Tryz.f7.isInstance Tryz.prog Rows.similarityLawsRow.origin Rows.similarityLawsRow.targs:=of_decide_eq_true (by kernel_rfl)
theorem ZDo:Tryz.f7.isWrapper Tryz.prog Rows.similarityLawsRow.wrapper Rows.similarityLawsRow.mainSum:=by unfold Func.isWrapper;first |(rw[if_pos (by decide+kernel)];kernel_rfl) |(rw[if_neg (by decide+kernel)];exact⟨rfl,rfl⟩)
theorem ZBG:Rows.similarityLawsRow.wfByText (OpenSpec.ofChange Rows.similarityLawsSpec)=true:=by kernel_rfl
theorem mainIs_:Tryz.prog.mainIs=some ((true, "cbb9050748a371b4c6446a223b38c2a958a8cc32d44cb5e0acb64c81ff403e1f").1,(true, "cbb9050748a371b4c6446a223b38c2a958a8cc32d44cb5e0acb64c81ff403e1f").2.toList):=facts.mainIs_
theorem ZDB:false=Rows.similarityLawsRow.goesBy Tryz.prog:=by kernel_rfl
theorem looks_:true=Tryz.prog.looks []:=facts.looks_
theorem ZBM:([25].all fun u=> !Tryz.prog.wantsStandIn u)=true:=by kernel_rfl
end Go.Proofs.YthefajbigloihaaGreatDoor.similarityLaws

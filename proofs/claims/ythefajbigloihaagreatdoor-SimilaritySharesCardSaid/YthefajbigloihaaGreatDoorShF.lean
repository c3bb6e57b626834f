/- Closed facts of the row SimilarityShares and of the program. -/
import Derived.Test.YthefajbigloihaaGreatDoorFacts
set_option linter.unusedVariables false
set_option linter.unusedSimpArgs false
set_option linter.unusedSectionVars false
set_option maxRecDepth 100000
namespace Go.Proofs.YthefajbigloihaaGreatDoor.similarityShares
theorem ZEI:(Rows.similaritySharesRow.wf (OpenSpec.ofChange Rows.similaritySharesSpec))=true:=by kernel_rfl
theorem fact1:(laidOutB Tryz.prog)=true:=facts.fact1
theorem fact2:(mapsRowed Tryz.prog)=true:=facts.fact2
theorem ZEH:(Tryz.f9.params.all (Tryz.prog.readableRec ·))=true:=by kernel_rfl
theorem ZEG:(namedTie Tryz.prog Rows.similaritySharesRow.named Rows.similaritySharesSpec.vars)=true:=by kernel_rfl
theorem ZEF:((Rows.similaritySharesRow.stops == []))=true:=by kernel_rfl
theorem fact6:((Tryz.prog.stops == []))=true:=facts.fact6
theorem ZEE:((Rows.similaritySharesRow.knobs == []))=true:=by kernel_rfl
theorem fact8:((Tryz.prog.stopKnobs == []))=true:=facts.fact8
theorem ZED:((Rows.similaritySharesRow.inPlace == Tryz.prog.inPlace 9))=true:=by kernel_rfl
theorem ZDl:((Rows.similaritySharesRow.unfollowed == Tryz.prog.unfollowed 9))=true:=by kernel_rfl
theorem ZDk:((Rows.similaritySharesRow.recurses == Tryz.prog.recurses 9))=true:=by kernel_rfl
theorem ZDj:((Rows.similaritySharesRow.named == Tryz.prog.varsNamed 9))=true:=by kernel_rfl
theorem ZDi:((Rows.similaritySharesRow.maps == (Tryz.f9.params.toList++Rows.similaritySharesSpec.plain.varTypes Tryz.prog).any (Tryz.prog.mapsRec ·)))=true:=by kernel_rfl
theorem ZDh:((Rows.similaritySharesRow.ifaces == (Tryz.f9.params.toList++Rows.similaritySharesSpec.plain.varTypes Tryz.prog).any (Tryz.prog.ifacesRec ·)))=true:=by kernel_rfl
theorem ZDg:((Rows.similaritySharesRow.mapsOut == Tryz.prog.mapsAmong Tryz.f9.resultTypes.toList))=true:=by kernel_rfl
theorem ZDf:((Rows.similaritySharesRow.loops == (Tryz.f9.params.toList++Rows.similaritySharesSpec.plain.varTypes Tryz.prog).any (Tryz.prog.loopsFrom ·)))=true:=by kernel_rfl
theorem ZDe:((Rows.similaritySharesRow.wideKeys == (Tryz.f9.params.toList++Rows.similaritySharesSpec.plain.varTypes Tryz.prog++Tryz.f9.resultTypes.toList).any (Tryz.prog.wideKeysFrom ·)))=true:=by kernel_rfl
theorem ZDd:(Rows.similaritySharesSpec.vars.all (Tryz.prog.varReadable ·))=true:=by kernel_rfl
theorem ZDc:(Tryz.f9.resultTypes.all (fun t=>Tryz.prog.readableRec t&&decide (t < Tryz.prog.types.size)))=true:=by kernel_rfl
theorem ZDb:((Rows.similaritySharesRow.ifacesOut == Tryz.f9.resultTypes.toList.any (Tryz.prog.ifacesRec ·)))=true:=by kernel_rfl
theorem ZDa:((Rows.similaritySharesRow.loopsOut == Tryz.f9.resultTypes.toList.any (Tryz.prog.loopsFrom ·)))=true:=by kernel_rfl
theorem fact22:((Rows.similaritySharesRow.plainKeys == Tryz.prog.plainKeys))=true:=facts.fact22
theorem ZC9:(Rows.similaritySharesRow.shortTexts.isNone)=true:=by kernel_rfl
theorem fact24:(Tryz.prog.stopsHeard)=true:=facts.fact24
theorem fact25:(Tryz.prog.mayEnter)=true:=facts.fact25
theorem fact26:((Rows.similaritySharesRow.lifted == Tryz.prog.liftsFinal))=true:=facts.fact26
theorem fact27:((Tryz.prog.make == some Rows.similaritySharesRow.make))=true:=facts.fact27
theorem ZC8:((Rows.similaritySharesRow.kinds == (if Rows.similaritySharesRow.domain.isEmpty then []else Tryz.f9.params.toList.map fun t=>match Tryz.prog.underlying t with |some (.int k)=>some k |_=>none)))=true:=by kernel_rfl
theorem ZC7:((Rows.similaritySharesRow.pinned == Rows.similaritySharesRow.pinnedBy))=true:=by kernel_rfl
theorem ZC6:((Rows.similaritySharesRow.veiled == (Tryz.f9.params.toList++Rows.similaritySharesSpec.plain.varTypes Tryz.prog++Tryz.f9.resultTypes.toList).any (Tryz.prog.veiledRec ·)))=true:=by kernel_rfl
theorem ZC5:(Rows.similaritySharesRow.veiledFits Tryz.prog Tryz.f9.params.toList (Tryz.f9.params.toList++Rows.similaritySharesSpec.plain.varTypes Tryz.prog++Tryz.f9.resultTypes.toList))=true:=by kernel_rfl
theorem ZwZ {a b:Bool} (h:a=true) (h':b=true):(a&&b)=true:=by rw[h,h'];rfl
theorem ZDo:joinedFacts Tryz.prog 9 Tryz.f9 Rows.similaritySharesSpec Rows.similaritySharesRow=true:=by unfold joinedFacts;exact(ZwZ (ZwZ (ZwZ (ZwZ (ZwZ (ZwZ (ZwZ (ZwZ (ZwZ (ZwZ (ZwZ (ZwZ (ZwZ (ZwZ (ZwZ (ZwZ (ZwZ (ZwZ (ZwZ (ZwZ (ZwZ (ZwZ (ZwZ (ZwZ (ZwZ (ZwZ (ZwZ (ZwZ (ZwZ (ZwZ (ZwZ ZEI fact1) fact2) ZEH) ZEG) ZEF) fact6) ZEE) fact8) ZED) ZDl) ZDk) ZDj) ZDi) ZDh) ZDg) ZDf) ZDe) ZDd) ZDc) ZDb) ZDa) fact22) ZC9) fact24) fact25) fact26) fact27) ZC8) ZC7) ZC6) ZC5)
theorem ZA3:Tryz.prog.funcNamed "tablefinder/tablefinderlaw26.SimilarityShares" =some 9:=by kernel_rfl
theorem ZEB:Tryz.f9.isInstance Tryz.prog Rows.similaritySharesRow.origin Rows.similaritySharesRow.targs:=of_decide_eq_true (by kernel_rfl)
theorem ZEp:Tryz.f9.isWrapper Tryz.prog Rows.similaritySharesRow.wrapper Rows.similaritySharesRow.mainSum:=by unfold Func.isWrapper;first |(rw[if_pos (by decide+kernel)];kernel_rfl) |(rw[if_neg (by decide+kernel)];exact⟨rfl,rfl⟩)
theorem ZCG:Rows.similaritySharesRow.wfByText (OpenSpec.ofChange Rows.similaritySharesSpec)=true:=by kernel_rfl
theorem mainIs_:Tryz.prog.mainIs=some ((true, "cbb9050748a371b4c6446a223b38c2a958a8cc32d44cb5e0acb64c81ff403e1f").1,(true, "cbb9050748a371b4c6446a223b38c2a958a8cc32d44cb5e0acb64c81ff403e1f").2.toList):=facts.mainIs_
theorem ZEC:false=Rows.similaritySharesRow.goesBy Tryz.prog:=by kernel_rfl
theorem looks_:true=Tryz.prog.looks []:=facts.looks_
theorem ZCK:([25,3].all fun u=> !Tryz.prog.wantsStandIn u)=true:=by kernel_rfl
end Go.Proofs.YthefajbigloihaaGreatDoor.similarityShares

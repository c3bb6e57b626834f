/- Closed facts of the row SimilarityNames and of the program. -/
import Derived.Test.YthefajbigloihaaGreatDoorFacts
set_option linter.unusedVariables false
set_option linter.unusedSimpArgs false
set_option linter.unusedSectionVars false
set_option maxRecDepth 100000
namespace Go.Proofs.YthefajbigloihaaGreatDoor.similarityNames
theorem ZC9:(Rows.similarityNamesRow.wf (OpenSpec.ofChange Rows.similarityNamesSpec))=true:=by kernel_rfl
theorem fact1:(laidOutB Tryz.prog)=true:=facts.fact1
theorem fact2:(mapsRowed Tryz.prog)=true:=facts.fact2
theorem ZC8:(Tryz.f5.params.all (Tryz.prog.readableRec ·))=true:=by kernel_rfl
theorem ZC7:(namedTie Tryz.prog Rows.similarityNamesRow.named Rows.similarityNamesSpec.vars)=true:=by kernel_rfl
theorem ZC6:((Rows.similarityNamesRow.stops == []))=true:=by kernel_rfl
theorem fact6:((Tryz.prog.stops == []))=true:=facts.fact6
theorem ZC5:((Rows.similarityNamesRow.knobs == []))=true:=by kernel_rfl
theorem fact8:((Tryz.prog.stopKnobs == []))=true:=facts.fact8
theorem ZC4:((Rows.similarityNamesRow.inPlace == Tryz.prog.inPlace 5))=true:=by kernel_rfl
theorem ZBL:((Rows.similarityNamesRow.unfollowed == Tryz.prog.unfollowed 5))=true:=by kernel_rfl
theorem ZBK:((Rows.similarityNamesRow.recurses == Tryz.prog.recurses 5))=true:=by kernel_rfl
theorem ZBJ:((Rows.similarityNamesRow.named == Tryz.prog.varsNamed 5))=true:=by kernel_rfl
theorem ZBI:((Rows.similarityNamesRow.maps == (Tryz.f5.params.toList++Rows.similarityNamesSpec.plain.varTypes Tryz.prog).any (Tryz.prog.mapsRec ·)))=true:=by kernel_rfl
theorem ZBH:((Rows.similarityNamesRow.ifaces == (Tryz.f5.params.toList++Rows.similarityNamesSpec.plain.varTypes Tryz.prog).any (Tryz.prog.ifacesRec ·)))=true:=by kernel_rfl
theorem ZBG:((Rows.similarityNamesRow.mapsOut == Tryz.prog.mapsAmong Tryz.f5.resultTypes.toList))=true:=by kernel_rfl
theorem ZBF:((Rows.similarityNamesRow.loops == (Tryz.f5.params.toList++Rows.similarityNamesSpec.plain.varTypes Tryz.prog).any (Tryz.prog.loopsFrom ·)))=true:=by kernel_rfl
theorem ZBE:((Rows.similarityNamesRow.wideKeys == (Tryz.f5.params.toList++Rows.similarityNamesSpec.plain.varTypes Tryz.prog++Tryz.f5.resultTypes.toList).any (Tryz.prog.wideKeysFrom ·)))=true:=by kernel_rfl
theorem ZBD:(Rows.similarityNamesSpec.vars.all (Tryz.prog.varReadable ·))=true:=by kernel_rfl
theorem ZBC:(Tryz.f5.resultTypes.all (fun t=>Tryz.prog.readableRec t&&decide (t < Tryz.prog.types.size)))=true:=by kernel_rfl
theorem ZBB:((Rows.similarityNamesRow.ifacesOut == Tryz.f5.resultTypes.toList.any (Tryz.prog.ifacesRec ·)))=true:=by kernel_rfl
theorem ZBA:((Rows.similarityNamesRow.loopsOut == Tryz.f5.resultTypes.toList.any (Tryz.prog.loopsFrom ·)))=true:=by kernel_rfl
theorem fact22:((Rows.similarityNamesRow.plainKeys == Tryz.prog.plainKeys))=true:=facts.fact22
theorem ZBz:(Rows.similarityNamesRow.shortTexts.isNone)=true:=by kernel_rfl
theorem fact24:(Tryz.prog.stopsHeard)=true:=facts.fact24
theorem fact25:(Tryz.prog.mayEnter)=true:=facts.fact25
theorem fact26:((Rows.similarityNamesRow.lifted == Tryz.prog.liftsFinal))=true:=facts.fact26
theorem fact27:((Tryz.prog.make == some Rows.similarityNamesRow.make))=true:=facts.fact27
theorem ZBy:((Rows.similarityNamesRow.kinds == (if Rows.similarityNamesRow.domain.isEmpty then []else Tryz.f5.params.toList.map fun t=>match Tryz.prog.underlying t with |some (.int k)=>some k |_=>none)))=true:=by kernel_rfl
theorem ZBx:((Rows.similarityNamesRow.pinned == Rows.similarityNamesRow.pinnedBy))=true:=by kernel_rfl
theorem ZBw:((Rows.similarityNamesRow.veiled == (Tryz.f5.params.toList++Rows.similarityNamesSpec.plain.varTypes Tryz.prog++Tryz.f5.resultTypes.toList).any (Tryz.prog.veiledRec ·)))=true:=by kernel_rfl
theorem ZBv:(Rows.similarityNamesRow.veiledFits Tryz.prog Tryz.f5.params.toList (Tryz.f5.params.toList++Rows.similarityNamesSpec.plain.varTypes Tryz.prog++Tryz.f5.resultTypes.toList))=true:=by kernel_rfl
theorem ZvN {a b:Bool} (h:a=true) (h':b=true):(a&&b)=true:=by rw[h,h'];rfl
theorem ZBQ:joinedFacts Tryz.prog 5 Tryz.f5 Rows.similarityNamesSpec Rows.similarityNamesRow=true:=by unfold joinedFacts;exact(ZvN (ZvN (ZvN (ZvN (ZvN (ZvN (ZvN (ZvN (ZvN (ZvN (ZvN (ZvN (ZvN (ZvN (ZvN (ZvN (ZvN (ZvN (ZvN (ZvN (ZvN (ZvN (ZvN (ZvN (ZvN (ZvN (ZvN (ZvN (ZvN (ZvN (ZvN ZC9 fact1) fact2) ZC8) ZC7) ZC6) fact6) ZC5) fact8) ZC4) ZBL) ZBK) ZBJ) ZBI) ZBH) ZBG) ZBF) ZBE) ZBD) ZBC) ZBB) ZBA) fact22) ZBz) fact24) fact25) fact26) fact27) ZBy) ZBx) ZBw) ZBv)
theorem Zzz:Tryz.prog.funcNamed "tablefinder/tablefinderlaw26.SimilarityNames" =some 5:=by kernel_rfl
theorem ZC2:Tryz.f5.isInstance Tryz.prog Rows.similarityNamesRow.origin Rows.similarityNamesRow.targs:=of_decide_eq_true (by kernel_rfl)
theorem ZCR:Tryz.f5.isWrapper Tryz.prog Rows.similarityNamesRow.wrapper Rows.similarityNamesRow.mainSum:=by unfold Func.isWrapper;first |(rw[if_pos (by decide+kernel)];kernel_rfl) |(rw[if_neg (by decide+kernel)];exact⟨rfl,rfl⟩)
theorem ZA3:Rows.similarityNamesRow.wfByText (OpenSpec.ofChange Rows.similarityNamesSpec)=true:=by kernel_rfl
theorem mainIs_:Tryz.prog.mainIs=some ((true, "cbb9050748a371b4c6446a223b38c2a958a8cc32d44cb5e0acb64c81ff403e1f").1,(true, "cbb9050748a371b4c6446a223b38c2a958a8cc32d44cb5e0acb64c81ff403e1f").2.toList):=facts.mainIs_
theorem ZC3:false=Rows.similarityNamesRow.goesBy Tryz.prog:=by kernel_rfl
theorem looks_:true=Tryz.prog.looks []:=facts.looks_
theorem ZA7:([9,9,25].all fun u=> !Tryz.prog.wantsStandIn u)=true:=by kernel_rfl
end Go.Proofs.YthefajbigloihaaGreatDoor.similarityNames

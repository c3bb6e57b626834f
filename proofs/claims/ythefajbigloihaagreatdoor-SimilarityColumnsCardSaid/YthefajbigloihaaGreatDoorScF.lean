/- Closed facts of the row SimilarityColumns and of the program. -/
import Derived.Test.YthefajbigloihaaGreatDoorFacts
set_option linter.unusedVariables false
set_option linter.unusedSimpArgs false
set_option linter.unusedSectionVars false
set_option maxRecDepth 100000
namespace Go.Proofs.YthefajbigloihaaGreatDoor.similarityColumns
theorem ZJg:(Rows.similarityColumnsRow.wf (OpenSpec.ofChange Rows.similarityColumnsSpec))=true:=by kernel_rfl
theorem fact1:(laidOutB Tryz.prog)=true:=facts.fact1
theorem fact2:(mapsRowed Tryz.prog)=true:=facts.fact2
theorem ZJf:(Tryz.f6.params.all (Tryz.prog.readableRec ·))=true:=by kernel_rfl
theorem ZJe:(namedTie Tryz.prog Rows.similarityColumnsRow.named Rows.similarityColumnsSpec.vars)=true:=by kernel_rfl
theorem ZJd:((Rows.similarityColumnsRow.stops == []))=true:=by kernel_rfl
theorem fact6:((Tryz.prog.stops == []))=true:=facts.fact6
theorem ZJc:((Rows.similarityColumnsRow.knobs == []))=true:=by kernel_rfl
theorem fact8:((Tryz.prog.stopKnobs == []))=true:=facts.fact8
theorem ZJb:((Rows.similarityColumnsRow.inPlace == Tryz.prog.inPlace 6))=true:=by kernel_rfl
theorem ZHN:((Rows.similarityColumnsRow.unfollowed == Tryz.prog.unfollowed 6))=true:=by kernel_rfl
theorem ZHM:((Rows.similarityColumnsRow.recurses == Tryz.prog.recurses 6))=true:=by kernel_rfl
theorem ZHL:((Rows.similarityColumnsRow.named == Tryz.prog.varsNamed 6))=true:=by kernel_rfl
theorem ZHK:((Rows.similarityColumnsRow.maps == (Tryz.f6.params.toList++Rows.similarityColumnsSpec.plain.varTypes Tryz.prog).any (Tryz.prog.mapsRec ·)))=true:=by kernel_rfl
theorem ZHJ:((Rows.similarityColumnsRow.ifaces == (Tryz.f6.params.toList++Rows.similarityColumnsSpec.plain.varTypes Tryz.prog).any (Tryz.prog.ifacesRec ·)))=true:=by kernel_rfl
theorem ZHI:((Rows.similarityColumnsRow.mapsOut == Tryz.prog.mapsAmong Tryz.f6.resultTypes.toList))=true:=by kernel_rfl
theorem ZHH:((Rows.similarityColumnsRow.loops == (Tryz.f6.params.toList++Rows.similarityColumnsSpec.plain.varTypes Tryz.prog).any (Tryz.prog.loopsFrom ·)))=true:=by kernel_rfl
theorem ZHG:((Rows.similarityColumnsRow.wideKeys == (Tryz.f6.params.toList++Rows.similarityColumnsSpec.plain.varTypes Tryz.prog++Tryz.f6.resultTypes.toList).any (Tryz.prog.wideKeysFrom ·)))=true:=by kernel_rfl
theorem ZHF:(Rows.similarityColumnsSpec.vars.all (Tryz.prog.varReadable ·))=true:=by kernel_rfl
theorem ZHE:(Tryz.f6.resultTypes.all (fun t=>Tryz.prog.readableRec t&&decide (t < Tryz.prog.types.size)))=true:=by kernel_rfl
theorem ZHD:((Rows.similarityColumnsRow.ifacesOut == Tryz.f6.resultTypes.toList.any (Tryz.prog.ifacesRec ·)))=true:=by kernel_rfl
theorem ZHC:((Rows.similarityColumnsRow.loopsOut == Tryz.f6.resultTypes.toList.any (Tryz.prog.loopsFrom ·)))=true:=by kernel_rfl
theorem fact22:((Rows.similarityColumnsRow.plainKeys == Tryz.prog.plainKeys))=true:=facts.fact22
theorem ZHB:(Rows.similarityColumnsRow.shortTexts.isNone)=true:=by kernel_rfl
theorem fact24:(Tryz.prog.stopsHeard)=true:=facts.fact24
theorem fact25:(Tryz.prog.mayEnter)=true:=facts.fact25
theorem fact26:((Rows.similarityColumnsRow.lifted == Tryz.prog.liftsFinal))=true:=facts.fact26
theorem fact27:((Tryz.prog.make == some Rows.similarityColumnsRow.make))=true:=facts.fact27
theorem ZHA:((Rows.similarityColumnsRow.kinds == (if Rows.similarityColumnsRow.domain.isEmpty then []else Tryz.f6.params.toList.map fun t=>match Tryz.prog.underlying t with |some (.int k)=>some k |_=>none)))=true:=by kernel_rfl
theorem ZHz:((Rows.similarityColumnsRow.pinned == Rows.similarityColumnsRow.pinnedBy))=true:=by kernel_rfl
theorem ZHy:((Rows.similarityColumnsRow.veiled == (Tryz.f6.params.toList++Rows.similarityColumnsSpec.plain.varTypes Tryz.prog++Tryz.f6.resultTypes.toList).any (Tryz.prog.veiledRec ·)))=true:=by kernel_rfl
theorem ZHx:(Rows.similarityColumnsRow.veiledFits Tryz.prog Tryz.f6.params.toList (Tryz.f6.params.toList++Rows.similarityColumnsSpec.plain.varTypes Tryz.prog++Tryz.f6.resultTypes.toList))=true:=by kernel_rfl
theorem Zzv {a b:Bool} (h:a=true) (h':b=true):(a&&b)=true:=by rw[h,h'];rfl
theorem ZHR:joinedFacts Tryz.prog 6 Tryz.f6 Rows.similarityColumnsSpec Rows.similarityColumnsRow=true:=by unfold joinedFacts;exact(Zzv (Zzv (Zzv (Zzv (Zzv (Zzv (Zzv (Zzv (Zzv (Zzv (Zzv (Zzv (Zzv (Zzv (Zzv (Zzv (Zzv (Zzv (Zzv (Zzv (Zzv (Zzv (Zzv (Zzv (Zzv (Zzv (Zzv (Zzv (Zzv (Zzv (Zzv ZJg fact1) fact2) ZJf) ZJe) ZJd) fact6) ZJc) fact8) ZJb) ZHN) ZHM) ZHL) ZHK) ZHJ) ZHI) ZHH) ZHG) ZHF) ZHE) ZHD) ZHC) fact22) ZHB) fact24) fact25) fact26) fact27) ZHA) ZHz) ZHy) ZHx)
theorem ZEP:Tryz.prog.funcNamed "tablefinder/tablefinderlaw26.SimilarityColumns" =some 6:=by kernel_rfl
theorem ZI9:Tryz.f6.isInstance Tryz.prog Rows.similarityColumnsRow.origin Rows.similarityColumnsRow.targs:=of_decide_eq_true (by kernel_rfl)
theorem ZIV:Tryz.f6.isWrapper Tryz.prog Rows.similarityColumnsRow.wrapper Rows.similarityColumnsRow.mainSum:=by unfold Func.isWrapper;first |(rw[if_pos (by decide+kernel)];kernel_rfl) |(rw[if_neg (by decide+kernel)];exact⟨rfl,rfl⟩)
theorem ZG0:Rows.similarityColumnsRow.wfByText (OpenSpec.ofChange Rows.similarityColumnsSpec)=true:=by kernel_rfl
theorem mainIs_:Tryz.prog.mainIs=some ((true, "cbb9050748a371b4c6446a223b38c2a958a8cc32d44cb5e0acb64c81ff403e1f").1,(true, "cbb9050748a371b4c6446a223b38c2a958a8cc32d44cb5e0acb64c81ff403e1f").2.toList):=facts.mainIs_
theorem ZJa:false=Rows.similarityColumnsRow.goesBy Tryz.prog:=by kernel_rfl
theorem looks_:true=Tryz.prog.looks []:=facts.looks_
theorem ZG6:([24,24,25].all fun u=> !Tryz.prog.wantsStandIn u)=true:=by kernel_rfl
end Go.Proofs.YthefajbigloihaaGreatDoor.similarityColumns

/- Closed facts of the row SketchMerges and of the program. -/
import Derived.Test.YtamebpdbedglkaaGreatDoorFacts
set_option linter.unusedVariables false
set_option linter.unusedSimpArgs false
set_option linter.unusedSectionVars false
set_option maxRecDepth 100000
namespace Go.Proofs.YtamebpdbedglkaaGreatDoor.sketchMerges
theorem ZFv:(Rows.sketchMergesRow.wf (OpenSpec.ofChange Rows.sketchMergesSpec))=true:=by kernel_rfl
theorem fact1:(laidOutB Tryz.prog)=true:=facts.fact1
theorem fact2:(mapsRowed Tryz.prog)=true:=facts.fact2
theorem ZFu:(Tryz.f4.params.all (Tryz.prog.readableRec ·))=true:=by kernel_rfl
theorem ZFt:(namedTie Tryz.prog Rows.sketchMergesRow.named Rows.sketchMergesSpec.vars)=true:=by kernel_rfl
theorem ZFs:((Rows.sketchMergesRow.stops == []))=true:=by kernel_rfl
theorem fact6:((Tryz.prog.stops == []))=true:=facts.fact6
theorem ZFr:((Rows.sketchMergesRow.knobs == []))=true:=by kernel_rfl
theorem fact8:((Tryz.prog.stopKnobs == []))=true:=facts.fact8
theorem ZFq:((Rows.sketchMergesRow.inPlace == Tryz.prog.inPlace 4))=true:=by kernel_rfl
theorem ZDZ:((Rows.sketchMergesRow.unfollowed == Tryz.prog.unfollowed 4))=true:=by kernel_rfl
theorem ZDY:((Rows.sketchMergesRow.recurses == Tryz.prog.recurses 4))=true:=by kernel_rfl
theorem ZDX:((Rows.sketchMergesRow.named == Tryz.prog.varsNamed 4))=true:=by kernel_rfl
theorem ZDW:((Rows.sketchMergesRow.maps == (Tryz.f4.params.toList++Rows.sketchMergesSpec.plain.varTypes Tryz.prog).any (Tryz.prog.mapsRec ·)))=true:=by kernel_rfl
theorem ZDV:((Rows.sketchMergesRow.ifaces == (Tryz.f4.params.toList++Rows.sketchMergesSpec.plain.varTypes Tryz.prog).any (Tryz.prog.ifacesRec ·)))=true:=by kernel_rfl
theorem ZDU:((Rows.sketchMergesRow.mapsOut == Tryz.prog.mapsAmong Tryz.f4.resultTypes.toList))=true:=by kernel_rfl
theorem ZDT:((Rows.sketchMergesRow.loops == (Tryz.f4.params.toList++Rows.sketchMergesSpec.plain.varTypes Tryz.prog).any (Tryz.prog.loopsFrom ·)))=true:=by kernel_rfl
theorem ZDS:((Rows.sketchMergesRow.wideKeys == (Tryz.f4.params.toList++Rows.sketchMergesSpec.plain.varTypes Tryz.prog++Tryz.f4.resultTypes.toList).any (Tryz.prog.wideKeysFrom ·)))=true:=by kernel_rfl
theorem ZDR:(Rows.sketchMergesSpec.vars.all (Tryz.prog.varReadable ·))=true:=by kernel_rfl
theorem ZDQ:(Tryz.f4.resultTypes.all (fun t=>Tryz.prog.readableRec t&&decide (t < Tryz.prog.types.size)))=true:=by kernel_rfl
theorem ZDP:((Rows.sketchMergesRow.ifacesOut == Tryz.f4.resultTypes.toList.any (Tryz.prog.ifacesRec ·)))=true:=by kernel_rfl
theorem ZDO:((Rows.sketchMergesRow.loopsOut == Tryz.f4.resultTypes.toList.any (Tryz.prog.loopsFrom ·)))=true:=by kernel_rfl
theorem fact22:((Rows.sketchMergesRow.plainKeys == Tryz.prog.plainKeys))=true:=facts.fact22
theorem ZDN:(Rows.sketchMergesRow.shortTexts.isNone)=true:=by kernel_rfl
theorem fact24:(Tryz.prog.stopsHeard)=true:=facts.fact24
theorem fact25:(Tryz.prog.mayEnter)=true:=facts.fact25
theorem fact26:((Rows.sketchMergesRow.lifted == Tryz.prog.liftsFinal))=true:=facts.fact26
theorem fact27:((Tryz.prog.make == some Rows.sketchMergesRow.make))=true:=facts.fact27
theorem ZDM:((Rows.sketchMergesRow.kinds == (if Rows.sketchMergesRow.domain.isEmpty then []else Tryz.f4.params.toList.map fun t=>match Tryz.prog.underlying t with |some (.int k)=>some k |_=>none)))=true:=by kernel_rfl
theorem ZDL:((Rows.sketchMergesRow.pinned == Rows.sketchMergesRow.pinnedBy))=true:=by kernel_rfl
theorem ZDK:((Rows.sketchMergesRow.veiled == (Tryz.f4.params.toList++Rows.sketchMergesSpec.plain.varTypes Tryz.prog++Tryz.f4.resultTypes.toList).any (Tryz.prog.veiledRec ·)))=true:=by kernel_rfl
theorem ZDJ:(Rows.sketchMergesRow.veiledFits Tryz.prog Tryz.f4.params.toList (Tryz.f4.params.toList++Rows.sketchMergesSpec.plain.varTypes Tryz.prog++Tryz.f4.resultTypes.toList))=true:=by kernel_rfl
theorem Zxj {a b:Bool} (h:a=true) (h':b=true):(a&&b)=true:=by rw[h,h'];rfl
theorem ZD0:joinedFacts Tryz.prog 4 Tryz.f4 Rows.sketchMergesSpec Rows.sketchMergesRow=true:=by unfold joinedFacts;exact(Zxj (Zxj (Zxj (Zxj (Zxj (Zxj (Zxj (Zxj (Zxj (Zxj (Zxj (Zxj (Zxj (Zxj (Zxj (Zxj (Zxj (Zxj (Zxj (Zxj (Zxj (Zxj (Zxj (Zxj (Zxj (Zxj (Zxj (Zxj (Zxj (Zxj (Zxj ZFv fact1) fact2) ZFu) ZFt) ZFs) fact6) ZFr) fact8) ZFq) ZDZ) ZDY) ZDX) ZDW) ZDV) ZDU) ZDT) ZDS) ZDR) ZDQ) ZDP) ZDO) fact22) ZDN) fact24) fact25) fact26) fact27) ZDM) ZDL) ZDK) ZDJ)
theorem ZBE:Tryz.prog.funcNamed "tablefinder/tablefinderlaw24.SketchMerges" =some 4:=by kernel_rfl
theorem ZFn:Tryz.f4.isInstance Tryz.prog Rows.sketchMergesRow.origin Rows.sketchMergesRow.targs:=of_decide_eq_true (by kernel_rfl)
theorem ZE8:Tryz.f4.isWrapper Tryz.prog Rows.sketchMergesRow.wrapper Rows.sketchMergesRow.mainSum:=by unfold Func.isWrapper;first |(rw[if_pos (by decide+kernel)];kernel_rfl) |(rw[if_neg (by decide+kernel)];exact⟨rfl,rfl⟩)
theorem ZDe:Rows.sketchMergesRow.wfByText (OpenSpec.ofChange Rows.sketchMergesSpec)=true:=by kernel_rfl
theorem mainIs_:Tryz.prog.mainIs=some ((true, "3c638803a5fc33a7879a1a6edbdf40d1120690d0ec6b0e325eb9ad0aae38d510").1,(true, "3c638803a5fc33a7879a1a6edbdf40d1120690d0ec6b0e325eb9ad0aae38d510").2.toList):=facts.mainIs_
theorem ZFp:false=Rows.sketchMergesRow.goesBy Tryz.prog:=by kernel_rfl
theorem looks_:true=Tryz.prog.looks []:=facts.looks_
theorem ZDl:([22,3,3].all fun u=> !Tryz.prog.wantsStandIn u)=true:=by kernel_rfl
end Go.Proofs.YtamebpdbedglkaaGreatDoor.sketchMerges

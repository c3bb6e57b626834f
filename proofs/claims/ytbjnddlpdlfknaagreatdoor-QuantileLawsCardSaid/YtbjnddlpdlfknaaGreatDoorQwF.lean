/- Closed facts of the row QuantileLaws and of the program. -/
import Derived.Test.YtbjnddlpdlfknaaGreatDoorFacts
set_option linter.unusedVariables false
set_option linter.unusedSimpArgs false
set_option linter.unusedSectionVars false
set_option maxRecDepth 100000
namespace Go.Proofs.YtbjnddlpdlfknaaGreatDoor.quantileLaws
theorem ZB6:(Rows.quantileLawsRow.wf (OpenSpec.ofChange Rows.quantileLawsSpec))=true:=by kernel_rfl
theorem fact1:(laidOutB Tryz.prog)=true:=facts.fact1
theorem fact2:(mapsRowed Tryz.prog)=true:=facts.fact2
theorem ZB5:(Tryz.f8.params.all (Tryz.prog.readableRec ·))=true:=by kernel_rfl
theorem ZB4:(namedTie Tryz.prog Rows.quantileLawsRow.named Rows.quantileLawsSpec.vars)=true:=by kernel_rfl
theorem ZB3:((Rows.quantileLawsRow.stops == []))=true:=by kernel_rfl
theorem fact6:((Tryz.prog.stops == []))=true:=facts.fact6
theorem ZB2:((Rows.quantileLawsRow.knobs == []))=true:=by kernel_rfl
theorem fact8:((Tryz.prog.stopKnobs == []))=true:=facts.fact8
theorem ZB1:((Rows.quantileLawsRow.inPlace == Tryz.prog.inPlace 8))=true:=by kernel_rfl
theorem ZAD:((Rows.quantileLawsRow.unfollowed == Tryz.prog.unfollowed 8))=true:=by kernel_rfl
theorem ZAC:((Rows.quantileLawsRow.recurses == Tryz.prog.recurses 8))=true:=by kernel_rfl
theorem ZAB:((Rows.quantileLawsRow.named == Tryz.prog.varsNamed 8))=true:=by kernel_rfl
theorem ZAA:((Rows.quantileLawsRow.maps == (Tryz.f8.params.toList++Rows.quantileLawsSpec.plain.varTypes Tryz.prog).any (Tryz.prog.mapsRec ·)))=true:=by kernel_rfl
theorem ZAz:((Rows.quantileLawsRow.ifaces == (Tryz.f8.params.toList++Rows.quantileLawsSpec.plain.varTypes Tryz.prog).any (Tryz.prog.ifacesRec ·)))=true:=by kernel_rfl
theorem ZAy:((Rows.quantileLawsRow.mapsOut == Tryz.prog.mapsAmong Tryz.f8.resultTypes.toList))=true:=by kernel_rfl
theorem ZAx:((Rows.quantileLawsRow.loops == (Tryz.f8.params.toList++Rows.quantileLawsSpec.plain.varTypes Tryz.prog).any (Tryz.prog.loopsFrom ·)))=true:=by kernel_rfl
theorem ZAw:((Rows.quantileLawsRow.wideKeys == (Tryz.f8.params.toList++Rows.quantileLawsSpec.plain.varTypes Tryz.prog++Tryz.f8.resultTypes.toList).any (Tryz.prog.wideKeysFrom ·)))=true:=by kernel_rfl
theorem ZAv:(Rows.quantileLawsSpec.vars.all (Tryz.prog.varReadable ·))=true:=by kernel_rfl
theorem ZAu:(Tryz.f8.resultTypes.all (fun t=>Tryz.prog.readableRec t&&decide (t < Tryz.prog.types.size)))=true:=by kernel_rfl
theorem ZAt:((Rows.quantileLawsRow.ifacesOut == Tryz.f8.resultTypes.toList.any (Tryz.prog.ifacesRec ·)))=true:=by kernel_rfl
theorem ZAs:((Rows.quantileLawsRow.loopsOut == Tryz.f8.resultTypes.toList.any (Tryz.prog.loopsFrom ·)))=true:=by kernel_rfl
theorem fact22:((Rows.quantileLawsRow.plainKeys == Tryz.prog.plainKeys))=true:=facts.fact22
theorem ZAr:(Rows.quantileLawsRow.shortTexts.isNone)=true:=by kernel_rfl
theorem fact24:(Tryz.prog.stopsHeard)=true:=facts.fact24
theorem fact25:(Tryz.prog.mayEnter)=true:=facts.fact25
theorem fact26:((Rows.quantileLawsRow.lifted == Tryz.prog.liftsFinal))=true:=facts.fact26
theorem fact27:((Tryz.prog.make == some Rows.quantileLawsRow.make))=true:=facts.fact27
theorem ZAq:((Rows.quantileLawsRow.kinds == (if Rows.quantileLawsRow.domain.isEmpty then []else Tryz.f8.params.toList.map fun t=>match Tryz.prog.underlying t with |some (.int k)=>some k |_=>none)))=true:=by kernel_rfl
theorem ZAp:((Rows.quantileLawsRow.pinned == Rows.quantileLawsRow.pinnedBy))=true:=by kernel_rfl
theorem ZAo:((Rows.quantileLawsRow.veiled == (Tryz.f8.params.toList++Rows.quantileLawsSpec.plain.varTypes Tryz.prog++Tryz.f8.resultTypes.toList).any (Tryz.prog.veiledRec ·)))=true:=by kernel_rfl
theorem ZAn:(Rows.quantileLawsRow.veiledFits Tryz.prog Tryz.f8.params.toList (Tryz.f8.params.toList++Rows.quantileLawsSpec.plain.varTypes Tryz.prog++Tryz.f8.resultTypes.toList))=true:=by kernel_rfl
theorem Zv0 {a b:Bool} (h:a=true) (h':b=true):(a&&b)=true:=by rw[h,h'];rfl
theorem ZAE:joinedFacts Tryz.prog 8 Tryz.f8 Rows.quantileLawsSpec Rows.quantileLawsRow=true:=by unfold joinedFacts;exact(Zv0 (Zv0 (Zv0 (Zv0 (Zv0 (Zv0 (Zv0 (Zv0 (Zv0 (Zv0 (Zv0 (Zv0 (Zv0 (Zv0 (Zv0 (Zv0 (Zv0 (Zv0 (Zv0 (Zv0 (Zv0 (Zv0 (Zv0 (Zv0 (Zv0 (Zv0 (Zv0 (Zv0 (Zv0 (Zv0 (Zv0 ZB6 fact1) fact2) ZB5) ZB4) ZB3) fact6) ZB2) fact8) ZB1) ZAD) ZAC) ZAB) ZAA) ZAz) ZAy) ZAx) ZAw) ZAv) ZAu) ZAt) ZAs) fact22) ZAr) fact24) fact25) fact26) fact27) ZAq) ZAp) ZAo) ZAn)
theorem ZyG:Tryz.prog.funcNamed "tablefinder/tablefinderlaw23.QuantileLaws" =some 8:=by kernel_rfl
theorem ZBY:Tryz.f8.isInstance Tryz.prog Rows.quantileLawsRow.origin Rows.quantileLawsRow.targs:=of_decide_eq_true (by kernel_rfl)
theorem ZBM:Tryz.f8.isWrapper Tryz.prog Rows.quantileLawsRow.wrapper Rows.quantileLawsRow.mainSum:=by unfold Func.isWrapper;first |(rw[if_pos (by decide+kernel)];kernel_rfl) |(rw[if_neg (by decide+kernel)];exact⟨rfl,rfl⟩)
theorem ZzX:Rows.quantileLawsRow.wfByText (OpenSpec.ofChange Rows.quantileLawsSpec)=true:=by kernel_rfl
theorem mainIs_:Tryz.prog.mainIs=some ((true, "c1238d137551f79098629bacbf4651e08366f198a9e459edac437b5f1ba99b83").1,(true, "c1238d137551f79098629bacbf4651e08366f198a9e459edac437b5f1ba99b83").2.toList):=facts.mainIs_
theorem ZB0:false=Rows.quantileLawsRow.goesBy Tryz.prog:=by kernel_rfl
theorem looks_:true=Tryz.prog.looks []:=facts.looks_
theorem Zz3:([22,3].all fun u=> !Tryz.prog.wantsStandIn u)=true:=by kernel_rfl
end Go.Proofs.YtbjnddlpdlfknaaGreatDoor.quantileLaws

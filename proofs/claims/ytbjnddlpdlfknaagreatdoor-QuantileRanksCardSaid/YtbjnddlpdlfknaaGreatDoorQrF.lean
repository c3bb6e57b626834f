/- Closed facts of the row QuantileRanks and of the program. -/
import Derived.Test.YtbjnddlpdlfknaaGreatDoorFacts
set_option linter.unusedVariables false
set_option linter.unusedSimpArgs false
set_option linter.unusedSectionVars false
set_option maxRecDepth 100000
namespace Go.Proofs.YtbjnddlpdlfknaaGreatDoor.quantileRanks
theorem ZC9:(Rows.quantileRanksRow.wf (OpenSpec.ofChange Rows.quantileRanksSpec))=true:=by kernel_rfl
theorem fact1:(laidOutB Tryz.prog)=true:=facts.fact1
theorem fact2:(mapsRowed Tryz.prog)=true:=facts.fact2
theorem ZC8:(Tryz.f7.params.all (Tryz.prog.readableRec ·))=true:=by kernel_rfl
theorem ZC7:(namedTie Tryz.prog Rows.quantileRanksRow.named Rows.quantileRanksSpec.vars)=true:=by kernel_rfl
theorem ZC6:((Rows.quantileRanksRow.stops == []))=true:=by kernel_rfl
theorem fact6:((Tryz.prog.stops == []))=true:=facts.fact6
theorem ZC5:((Rows.quantileRanksRow.knobs == []))=true:=by kernel_rfl
theorem fact8:((Tryz.prog.stopKnobs == []))=true:=facts.fact8
theorem ZC4:((Rows.quantileRanksRow.inPlace == Tryz.prog.inPlace 7))=true:=by kernel_rfl
theorem ZBG:((Rows.quantileRanksRow.unfollowed == Tryz.prog.unfollowed 7))=true:=by kernel_rfl
theorem ZBF:((Rows.quantileRanksRow.recurses == Tryz.prog.recurses 7))=true:=by kernel_rfl
theorem ZBE:((Rows.quantileRanksRow.named == Tryz.prog.varsNamed 7))=true:=by kernel_rfl
theorem ZBD:((Rows.quantileRanksRow.maps == (Tryz.f7.params.toList++Rows.quantileRanksSpec.plain.varTypes Tryz.prog).any (Tryz.prog.mapsRec ·)))=true:=by kernel_rfl
theorem ZBC:((Rows.quantileRanksRow.ifaces == (Tryz.f7.params.toList++Rows.quantileRanksSpec.plain.varTypes Tryz.prog).any (Tryz.prog.ifacesRec ·)))=true:=by kernel_rfl
theorem ZBB:((Rows.quantileRanksRow.mapsOut == Tryz.prog.mapsAmong Tryz.f7.resultTypes.toList))=true:=by kernel_rfl
theorem ZBA:((Rows.quantileRanksRow.loops == (Tryz.f7.params.toList++Rows.quantileRanksSpec.plain.varTypes Tryz.prog).any (Tryz.prog.loopsFrom ·)))=true:=by kernel_rfl
theorem ZBz:((Rows.quantileRanksRow.wideKeys == (Tryz.f7.params.toList++Rows.quantileRanksSpec.plain.varTypes Tryz.prog++Tryz.f7.resultTypes.toList).any (Tryz.prog.wideKeysFrom ·)))=true:=by kernel_rfl
theorem ZBy:(Rows.quantileRanksSpec.vars.all (Tryz.prog.varReadable ·))=true:=by kernel_rfl
theorem ZBx:(Tryz.f7.resultTypes.all (fun t=>Tryz.prog.readableRec t&&decide (t < Tryz.prog.types.size)))=true:=by kernel_rfl
theorem ZBw:((Rows.quantileRanksRow.ifacesOut == Tryz.f7.resultTypes.toList.any (Tryz.prog.ifacesRec ·)))=true:=by kernel_rfl
theorem ZBv:((Rows.quantileRanksRow.loopsOut == Tryz.f7.resultTypes.toList.any (Tryz.prog.loopsFrom ·)))=true:=by kernel_rfl
theorem fact22:((Rows.quantileRanksRow.plainKeys == Tryz.prog.plainKeys))=true:=facts.fact22
theorem ZBu:(Rows.quantileRanksRow.shortTexts.isNone)=true:=by kernel_rfl
theorem fact24:(Tryz.prog.stopsHeard)=true:=facts.fact24
theorem fact25:(Tryz.prog.mayEnter)=true:=facts.fact25
theorem fact26:((Rows.quantileRanksRow.lifted == Tryz.prog.liftsFinal))=true:=facts.fact26
theorem fact27:((Tryz.prog.make == some Rows.quantileRanksRow.make))=true:=facts.fact27
theorem ZBt:((Rows.quantileRanksRow.kinds == (if Rows.quantileRanksRow.domain.isEmpty then []else Tryz.f7.params.toList.map fun t=>match Tryz.prog.underlying t with |some (.int k)=>some k |_=>none)))=true:=by kernel_rfl
theorem ZBs:((Rows.quantileRanksRow.pinned == Rows.quantileRanksRow.pinnedBy))=true:=by kernel_rfl
theorem ZBr:((Rows.quantileRanksRow.veiled == (Tryz.f7.params.toList++Rows.quantileRanksSpec.plain.varTypes Tryz.prog++Tryz.f7.resultTypes.toList).any (Tryz.prog.veiledRec ·)))=true:=by kernel_rfl
theorem ZBq:(Rows.quantileRanksRow.veiledFits Tryz.prog Tryz.f7.params.toList (Tryz.f7.params.toList++Rows.quantileRanksSpec.plain.varTypes Tryz.prog++Tryz.f7.resultTypes.toList))=true:=by kernel_rfl
theorem Zwy {a b:Bool} (h:a=true) (h':b=true):(a&&b)=true:=by rw[h,h'];rfl
theorem ZBH:joinedFacts Tryz.prog 7 Tryz.f7 Rows.quantileRanksSpec Rows.quantileRanksRow=true:=by unfold joinedFacts;exact(Zwy (Zwy (Zwy (Zwy (Zwy (Zwy (Zwy (Zwy (Zwy (Zwy (Zwy (Zwy (Zwy (Zwy (Zwy (Zwy (Zwy (Zwy (Zwy (Zwy (Zwy (Zwy (Zwy (Zwy (Zwy (Zwy (Zwy (Zwy (Zwy (Zwy (Zwy ZC9 fact1) fact2) ZC8) ZC7) ZC6) fact6) ZC5) fact8) ZC4) ZBG) ZBF) ZBE) ZBD) ZBC) ZBB) ZBA) ZBz) ZBy) ZBx) ZBw) ZBv) fact22) ZBu) fact24) fact25) fact26) fact27) ZBt) ZBs) ZBr) ZBq)
theorem ZzI:Tryz.prog.funcNamed "tablefinder/tablefinderlaw23.QuantileRanks" =some 7:=by kernel_rfl
theorem ZC2:Tryz.f7.isInstance Tryz.prog Rows.quantileRanksRow.origin Rows.quantileRanksRow.targs:=of_decide_eq_true (by kernel_rfl)
theorem ZCP:Tryz.f7.isWrapper Tryz.prog Rows.quantileRanksRow.wrapper Rows.quantileRanksRow.mainSum:=by unfold Func.isWrapper;first |(rw[if_pos (by decide+kernel)];kernel_rfl) |(rw[if_neg (by decide+kernel)];exact⟨rfl,rfl⟩)
theorem ZAW:Rows.quantileRanksRow.wfByText (OpenSpec.ofChange Rows.quantileRanksSpec)=true:=by kernel_rfl
theorem mainIs_:Tryz.prog.mainIs=some ((true, "c1238d137551f79098629bacbf4651e08366f198a9e459edac437b5f1ba99b83").1,(true, "c1238d137551f79098629bacbf4651e08366f198a9e459edac437b5f1ba99b83").2.toList):=facts.mainIs_
theorem ZC3:false=Rows.quantileRanksRow.goesBy Tryz.prog:=by kernel_rfl
theorem looks_:true=Tryz.prog.looks []:=facts.looks_
theorem ZA3:([22,3,3,3].all fun u=> !Tryz.prog.wantsStandIn u)=true:=by kernel_rfl
end Go.Proofs.YtbjnddlpdlfknaaGreatDoor.quantileRanks

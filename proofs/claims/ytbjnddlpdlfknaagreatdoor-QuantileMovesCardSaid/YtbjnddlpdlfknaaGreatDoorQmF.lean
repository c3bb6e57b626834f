/- Closed facts of the row QuantileMoves and of the program. -/
import Derived.Test.YtbjnddlpdlfknaaGreatDoorFacts
set_option linter.unusedVariables false
set_option linter.unusedSimpArgs false
set_option linter.unusedSectionVars false
set_option maxRecDepth 100000
namespace Go.Proofs.YtbjnddlpdlfknaaGreatDoor.quantileMoves
theorem ZDe:(Rows.quantileMovesRow.wf (OpenSpec.ofChange Rows.quantileMovesSpec))=true:=by kernel_rfl
theorem fact1:(laidOutB Tryz.prog)=true:=facts.fact1
theorem fact2:(mapsRowed Tryz.prog)=true:=facts.fact2
theorem ZDd:(Tryz.f5.params.all (Tryz.prog.readableRec ·))=true:=by kernel_rfl
theorem ZDc:(namedTie Tryz.prog Rows.quantileMovesRow.named Rows.quantileMovesSpec.vars)=true:=by kernel_rfl
theorem ZDb:((Rows.quantileMovesRow.stops == []))=true:=by kernel_rfl
theorem fact6:((Tryz.prog.stops == []))=true:=facts.fact6
theorem ZDa:((Rows.quantileMovesRow.knobs == []))=true:=by kernel_rfl
theorem fact8:((Tryz.prog.stopKnobs == []))=true:=facts.fact8
theorem ZC9:((Rows.quantileMovesRow.inPlace == Tryz.prog.inPlace 5))=true:=by kernel_rfl
theorem ZBJ:((Rows.quantileMovesRow.unfollowed == Tryz.prog.unfollowed 5))=true:=by kernel_rfl
theorem ZBI:((Rows.quantileMovesRow.recurses == Tryz.prog.recurses 5))=true:=by kernel_rfl
theorem ZBH:((Rows.quantileMovesRow.named == Tryz.prog.varsNamed 5))=true:=by kernel_rfl
theorem ZBG:((Rows.quantileMovesRow.maps == (Tryz.f5.params.toList++Rows.quantileMovesSpec.plain.varTypes Tryz.prog).any (Tryz.prog.mapsRec ·)))=true:=by kernel_rfl
theorem ZBF:((Rows.quantileMovesRow.ifaces == (Tryz.f5.params.toList++Rows.quantileMovesSpec.plain.varTypes Tryz.prog).any (Tryz.prog.ifacesRec ·)))=true:=by kernel_rfl
theorem ZBE:((Rows.quantileMovesRow.mapsOut == Tryz.prog.mapsAmong Tryz.f5.resultTypes.toList))=true:=by kernel_rfl
theorem ZBD:((Rows.quantileMovesRow.loops == (Tryz.f5.params.toList++Rows.quantileMovesSpec.plain.varTypes Tryz.prog).any (Tryz.prog.loopsFrom ·)))=true:=by kernel_rfl
theorem ZBC:((Rows.quantileMovesRow.wideKeys == (Tryz.f5.params.toList++Rows.quantileMovesSpec.plain.varTypes Tryz.prog++Tryz.f5.resultTypes.toList).any (Tryz.prog.wideKeysFrom ·)))=true:=by kernel_rfl
theorem ZBB:(Rows.quantileMovesSpec.vars.all (Tryz.prog.varReadable ·))=true:=by kernel_rfl
theorem ZBA:(Tryz.f5.resultTypes.all (fun t=>Tryz.prog.readableRec t&&decide (t < Tryz.prog.types.size)))=true:=by kernel_rfl
theorem ZBz:((Rows.quantileMovesRow.ifacesOut == Tryz.f5.resultTypes.toList.any (Tryz.prog.ifacesRec ·)))=true:=by kernel_rfl
theorem ZBy:((Rows.quantileMovesRow.loopsOut == Tryz.f5.resultTypes.toList.any (Tryz.prog.loopsFrom ·)))=true:=by kernel_rfl
theorem fact22:((Rows.quantileMovesRow.plainKeys == Tryz.prog.plainKeys))=true:=facts.fact22
theorem ZBx:(Rows.quantileMovesRow.shortTexts.isNone)=true:=by kernel_rfl
theorem fact24:(Tryz.prog.stopsHeard)=true:=facts.fact24
theorem fact25:(Tryz.prog.mayEnter)=true:=facts.fact25
theorem fact26:((Rows.quantileMovesRow.lifted == Tryz.prog.liftsFinal))=true:=facts.fact26
theorem fact27:((Tryz.prog.make == some Rows.quantileMovesRow.make))=true:=facts.fact27
theorem ZBw:((Rows.quantileMovesRow.kinds == (if Rows.quantileMovesRow.domain.isEmpty then []else Tryz.f5.params.toList.map fun t=>match Tryz.prog.underlying t with |some (.int k)=>some k |_=>none)))=true:=by kernel_rfl
theorem ZBv:((Rows.quantileMovesRow.pinned == Rows.quantileMovesRow.pinnedBy))=true:=by kernel_rfl
theorem ZBu:((Rows.quantileMovesRow.veiled == (Tryz.f5.params.toList++Rows.quantileMovesSpec.plain.varTypes Tryz.prog++Tryz.f5.resultTypes.toList).any (Tryz.prog.veiledRec ·)))=true:=by kernel_rfl
theorem ZBt:(Rows.quantileMovesRow.veiledFits Tryz.prog Tryz.f5.params.toList (Tryz.f5.params.toList++Rows.quantileMovesSpec.plain.varTypes Tryz.prog++Tryz.f5.resultTypes.toList))=true:=by kernel_rfl
theorem Zwm {a b:Bool} (h:a=true) (h':b=true):(a&&b)=true:=by rw[h,h'];rfl
theorem ZBK:joinedFacts Tryz.prog 5 Tryz.f5 Rows.quantileMovesSpec Rows.quantileMovesRow=true:=by unfold joinedFacts;exact(Zwm (Zwm (Zwm (Zwm (Zwm (Zwm (Zwm (Zwm (Zwm (Zwm (Zwm (Zwm (Zwm (Zwm (Zwm (Zwm (Zwm (Zwm (Zwm (Zwm (Zwm (Zwm (Zwm (Zwm (Zwm (Zwm (Zwm (Zwm (Zwm (Zwm (Zwm ZDe fact1) fact2) ZDd) ZDc) ZDb) fact6) ZDa) fact8) ZC9) ZBJ) ZBI) ZBH) ZBG) ZBF) ZBE) ZBD) ZBC) ZBB) ZBA) ZBz) ZBy) fact22) ZBx) fact24) fact25) fact26) fact27) ZBw) ZBv) ZBu) ZBt)
theorem ZzB:Tryz.prog.funcNamed "tablefinder/tablefinderlaw23.QuantileMoves" =some 5:=by kernel_rfl
theorem ZC7:Tryz.f5.isInstance Tryz.prog Rows.quantileMovesRow.origin Rows.quantileMovesRow.targs:=of_decide_eq_true (by kernel_rfl)
theorem ZCQ:Tryz.f5.isWrapper Tryz.prog Rows.quantileMovesRow.wrapper Rows.quantileMovesRow.mainSum:=by unfold Func.isWrapper;first |(rw[if_pos (by decide+kernel)];kernel_rfl) |(rw[if_neg (by decide+kernel)];exact⟨rfl,rfl⟩)
theorem ZAZ:Rows.quantileMovesRow.wfByText (OpenSpec.ofChange Rows.quantileMovesSpec)=true:=by kernel_rfl
theorem mainIs_:Tryz.prog.mainIs=some ((true, "c1238d137551f79098629bacbf4651e08366f198a9e459edac437b5f1ba99b83").1,(true, "c1238d137551f79098629bacbf4651e08366f198a9e459edac437b5f1ba99b83").2.toList):=facts.mainIs_
theorem ZC8:false=Rows.quantileMovesRow.goesBy Tryz.prog:=by kernel_rfl
theorem looks_:true=Tryz.prog.looks []:=facts.looks_
theorem ZA7:([22,3,3].all fun u=> !Tryz.prog.wantsStandIn u)=true:=by kernel_rfl
end Go.Proofs.YtbjnddlpdlfknaaGreatDoor.quantileMoves

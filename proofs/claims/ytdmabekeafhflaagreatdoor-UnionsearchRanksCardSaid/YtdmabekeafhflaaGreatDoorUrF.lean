/- Closed facts of the row UnionsearchRanks and of the program. -/
import Derived.Test.YtdmabekeafhflaaGreatDoorFacts
set_option linter.unusedVariables false
set_option linter.unusedSimpArgs false
set_option linter.unusedSectionVars false
set_option maxRecDepth 100000
namespace Go.Proofs.YtdmabekeafhflaaGreatDoor.unionsearchRanks
theorem ZSI:(Rows.unionsearchRanksRow.wf (OpenSpec.ofChange Rows.unionsearchRanksSpec))=true:=by kernel_rfl
theorem fact1:(laidOutB Tryz.prog)=true:=facts.fact1
theorem fact2:(mapsRowed Tryz.prog)=true:=facts.fact2
theorem ZSH:(Tryz.f5.params.all (Tryz.prog.readableRec ·))=true:=by kernel_rfl
theorem ZSG:(namedTie Tryz.prog Rows.unionsearchRanksRow.named Rows.unionsearchRanksSpec.vars)=true:=by kernel_rfl
theorem ZSF:((Rows.unionsearchRanksRow.stops == []))=true:=by kernel_rfl
theorem fact6:((Tryz.prog.stops == []))=true:=facts.fact6
theorem ZSE:((Rows.unionsearchRanksRow.knobs == []))=true:=by kernel_rfl
theorem fact8:((Tryz.prog.stopKnobs == []))=true:=facts.fact8
theorem ZSD:((Rows.unionsearchRanksRow.inPlace == Tryz.prog.inPlace 5))=true:=by kernel_rfl
theorem ZQm:((Rows.unionsearchRanksRow.unfollowed == Tryz.prog.unfollowed 5))=true:=by kernel_rfl
theorem ZQl:((Rows.unionsearchRanksRow.recurses == Tryz.prog.recurses 5))=true:=by kernel_rfl
theorem ZQk:((Rows.unionsearchRanksRow.named == Tryz.prog.varsNamed 5))=true:=by kernel_rfl
theorem ZQj:((Rows.unionsearchRanksRow.maps == (Tryz.f5.params.toList++Rows.unionsearchRanksSpec.plain.varTypes Tryz.prog).any (Tryz.prog.mapsRec ·)))=true:=by kernel_rfl
theorem ZQi:((Rows.unionsearchRanksRow.ifaces == (Tryz.f5.params.toList++Rows.unionsearchRanksSpec.plain.varTypes Tryz.prog).any (Tryz.prog.ifacesRec ·)))=true:=by kernel_rfl
theorem ZQh:((Rows.unionsearchRanksRow.mapsOut == Tryz.prog.mapsAmong Tryz.f5.resultTypes.toList))=true:=by kernel_rfl
theorem ZQg:((Rows.unionsearchRanksRow.loops == (Tryz.f5.params.toList++Rows.unionsearchRanksSpec.plain.varTypes Tryz.prog).any (Tryz.prog.loopsFrom ·)))=true:=by kernel_rfl
theorem ZQf:((Rows.unionsearchRanksRow.wideKeys == (Tryz.f5.params.toList++Rows.unionsearchRanksSpec.plain.varTypes Tryz.prog++Tryz.f5.resultTypes.toList).any (Tryz.prog.wideKeysFrom ·)))=true:=by kernel_rfl
theorem ZQe:(Rows.unionsearchRanksSpec.vars.all (Tryz.prog.varReadable ·))=true:=by kernel_rfl
theorem ZQd:(Tryz.f5.resultTypes.all (fun t=>Tryz.prog.readableRec t&&decide (t < Tryz.prog.types.size)))=true:=by kernel_rfl
theorem ZQc:((Rows.unionsearchRanksRow.ifacesOut == Tryz.f5.resultTypes.toList.any (Tryz.prog.ifacesRec ·)))=true:=by kernel_rfl
theorem ZQb:((Rows.unionsearchRanksRow.loopsOut == Tryz.f5.resultTypes.toList.any (Tryz.prog.loopsFrom ·)))=true:=by kernel_rfl
theorem fact22:((Rows.unionsearchRanksRow.plainKeys == Tryz.prog.plainKeys))=true:=facts.fact22
theorem ZQa:(Rows.unionsearchRanksRow.shortTexts.isNone)=true:=by kernel_rfl
theorem fact24:(Tryz.prog.stopsHeard)=true:=facts.fact24
theorem fact25:(Tryz.prog.mayEnter)=true:=facts.fact25
theorem fact26:((Rows.unionsearchRanksRow.lifted == Tryz.prog.liftsFinal))=true:=facts.fact26
theorem fact27:((Tryz.prog.make == some Rows.unionsearchRanksRow.make))=true:=facts.fact27
theorem ZP9:((Rows.unionsearchRanksRow.kinds == (if Rows.unionsearchRanksRow.domain.isEmpty then []else Tryz.f5.params.toList.map fun t=>match Tryz.prog.underlying t with |some (.int k)=>some k |_=>none)))=true:=by kernel_rfl
theorem ZP8:((Rows.unionsearchRanksRow.pinned == Rows.unionsearchRanksRow.pinnedBy))=true:=by kernel_rfl
theorem ZP7:((Rows.unionsearchRanksRow.veiled == (Tryz.f5.params.toList++Rows.unionsearchRanksSpec.plain.varTypes Tryz.prog++Tryz.f5.resultTypes.toList).any (Tryz.prog.veiledRec ·)))=true:=by kernel_rfl
theorem ZP6:(Rows.unionsearchRanksRow.veiledFits Tryz.prog Tryz.f5.params.toList (Tryz.f5.params.toList++Rows.unionsearchRanksSpec.plain.varTypes Tryz.prog++Tryz.f5.resultTypes.toList))=true:=by kernel_rfl
theorem ZD1 {a b:Bool} (h:a=true) (h':b=true):(a&&b)=true:=by rw[h,h'];rfl
theorem ZQp:joinedFacts Tryz.prog 5 Tryz.f5 Rows.unionsearchRanksSpec Rows.unionsearchRanksRow=true:=by unfold joinedFacts;exact(ZD1 (ZD1 (ZD1 (ZD1 (ZD1 (ZD1 (ZD1 (ZD1 (ZD1 (ZD1 (ZD1 (ZD1 (ZD1 (ZD1 (ZD1 (ZD1 (ZD1 (ZD1 (ZD1 (ZD1 (ZD1 (ZD1 (ZD1 (ZD1 (ZD1 (ZD1 (ZD1 (ZD1 (ZD1 (ZD1 (ZD1 ZSI fact1) fact2) ZSH) ZSG) ZSF) fact6) ZSE) fact8) ZSD) ZQm) ZQl) ZQk) ZQj) ZQi) ZQh) ZQg) ZQf) ZQe) ZQd) ZQc) ZQb) fact22) ZQa) fact24) fact25) fact26) fact27) ZP9) ZP8) ZP7) ZP6)
theorem ZL9:Tryz.prog.funcNamed "tablefinder/tablefinderlaw28.UnionsearchRanks" =some 5:=by kernel_rfl
theorem ZSB:Tryz.f5.isInstance Tryz.prog Rows.unionsearchRanksRow.origin Rows.unionsearchRanksRow.targs:=of_decide_eq_true (by kernel_rfl)
theorem ZSh:Tryz.f5.isWrapper Tryz.prog Rows.unionsearchRanksRow.wrapper Rows.unionsearchRanksRow.mainSum:=by unfold Func.isWrapper;first |(rw[if_pos (by decide+kernel)];kernel_rfl) |(rw[if_neg (by decide+kernel)];exact⟨rfl,rfl⟩)
theorem ZPo:Rows.unionsearchRanksRow.wfByText (OpenSpec.ofChange Rows.unionsearchRanksSpec)=true:=by kernel_rfl
theorem mainIs_:Tryz.prog.mainIs=some ((true, "2cf6421c3486c0a42ee993ed8002b134e658a97b4d2bd861e087e29b1fc891d4").1,(true, "2cf6421c3486c0a42ee993ed8002b134e658a97b4d2bd861e087e29b1fc891d4").2.toList):=facts.mainIs_
theorem ZSC:false=Rows.unionsearchRanksRow.goesBy Tryz.prog:=by kernel_rfl
theorem looks_:true=Tryz.prog.looks []:=facts.looks_
theorem ZPv:([22,3].all fun u=> !Tryz.prog.wantsStandIn u)=true:=by kernel_rfl
end Go.Proofs.YtdmabekeafhflaaGreatDoor.unionsearchRanks

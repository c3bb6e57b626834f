/- Closed facts of the row UnionsearchStacks and of the program. -/
import Derived.Test.YtdmabekeafhflaaGreatDoorFacts
set_option linter.unusedVariables false
set_option linter.unusedSimpArgs false
set_option linter.unusedSectionVars false
set_option maxRecDepth 100000
namespace Go.Proofs.YtdmabekeafhflaaGreatDoor.unionsearchStacks
theorem ZMZ:(Rows.unionsearchStacksRow.wf (OpenSpec.ofChange Rows.unionsearchStacksSpec))=true:=by kernel_rfl
theorem fact1:(laidOutB Tryz.prog)=true:=facts.fact1
theorem fact2:(mapsRowed Tryz.prog)=true:=facts.fact2
theorem ZMY:(Tryz.f3.params.all (Tryz.prog.readableRec ·))=true:=by kernel_rfl
theorem ZMX:(namedTie Tryz.prog Rows.unionsearchStacksRow.named Rows.unionsearchStacksSpec.vars)=true:=by kernel_rfl
theorem ZMW:((Rows.unionsearchStacksRow.stops == []))=true:=by kernel_rfl
theorem fact6:((Tryz.prog.stops == []))=true:=facts.fact6
theorem ZMV:((Rows.unionsearchStacksRow.knobs == []))=true:=by kernel_rfl
theorem fact8:((Tryz.prog.stopKnobs == []))=true:=facts.fact8
theorem ZMU:((Rows.unionsearchStacksRow.inPlace == Tryz.prog.inPlace 3))=true:=by kernel_rfl
theorem ZKV:((Rows.unionsearchStacksRow.unfollowed == Tryz.prog.unfollowed 3))=true:=by kernel_rfl
theorem ZKU:((Rows.unionsearchStacksRow.recurses == Tryz.prog.recurses 3))=true:=by kernel_rfl
theorem ZKT:((Rows.unionsearchStacksRow.named == Tryz.prog.varsNamed 3))=true:=by kernel_rfl
theorem ZKS:((Rows.unionsearchStacksRow.maps == (Tryz.f3.params.toList++Rows.unionsearchStacksSpec.plain.varTypes Tryz.prog).any (Tryz.prog.mapsRec ·)))=true:=by kernel_rfl
theorem ZKR:((Rows.unionsearchStacksRow.ifaces == (Tryz.f3.params.toList++Rows.unionsearchStacksSpec.plain.varTypes Tryz.prog).any (Tryz.prog.ifacesRec ·)))=true:=by kernel_rfl
theorem ZKQ:((Rows.unionsearchStacksRow.mapsOut == Tryz.prog.mapsAmong Tryz.f3.resultTypes.toList))=true:=by kernel_rfl
theorem ZKP:((Rows.unionsearchStacksRow.loops == (Tryz.f3.params.toList++Rows.unionsearchStacksSpec.plain.varTypes Tryz.prog).any (Tryz.prog.loopsFrom ·)))=true:=by kernel_rfl
theorem ZKO:((Rows.unionsearchStacksRow.wideKeys == (Tryz.f3.params.toList++Rows.unionsearchStacksSpec.plain.varTypes Tryz.prog++Tryz.f3.resultTypes.toList).any (Tryz.prog.wideKeysFrom ·)))=true:=by kernel_rfl
theorem ZKN:(Rows.unionsearchStacksSpec.vars.all (Tryz.prog.varReadable ·))=true:=by kernel_rfl
theorem ZKM:(Tryz.f3.resultTypes.all (fun t=>Tryz.prog.readableRec t&&decide (t < Tryz.prog.types.size)))=true:=by kernel_rfl
theorem ZKL:((Rows.unionsearchStacksRow.ifacesOut == Tryz.f3.resultTypes.toList.any (Tryz.prog.ifacesRec ·)))=true:=by kernel_rfl
theorem ZKK:((Rows.unionsearchStacksRow.loopsOut == Tryz.f3.resultTypes.toList.any (Tryz.prog.loopsFrom ·)))=true:=by kernel_rfl
theorem fact22:((Rows.unionsearchStacksRow.plainKeys == Tryz.prog.plainKeys))=true:=facts.fact22
theorem ZKJ:(Rows.unionsearchStacksRow.shortTexts.isNone)=true:=by kernel_rfl
theorem fact24:(Tryz.prog.stopsHeard)=true:=facts.fact24
theorem fact25:(Tryz.prog.mayEnter)=true:=facts.fact25
theorem fact26:((Rows.unionsearchStacksRow.lifted == Tryz.prog.liftsFinal))=true:=facts.fact26
theorem fact27:((Tryz.prog.make == some Rows.unionsearchStacksRow.make))=true:=facts.fact27
theorem ZKI:((Rows.unionsearchStacksRow.kinds == (if Rows.unionsearchStacksRow.domain.isEmpty then []else Tryz.f3.params.toList.map fun t=>match Tryz.prog.underlying t with |some (.int k)=>some k |_=>none)))=true:=by kernel_rfl
theorem ZKH:((Rows.unionsearchStacksRow.pinned == Rows.unionsearchStacksRow.pinnedBy))=true:=by kernel_rfl
theorem ZKG:((Rows.unionsearchStacksRow.veiled == (Tryz.f3.params.toList++Rows.unionsearchStacksSpec.plain.varTypes Tryz.prog++Tryz.f3.resultTypes.toList).any (Tryz.prog.veiledRec ·)))=true:=by kernel_rfl
theorem ZKF:(Rows.unionsearchStacksRow.veiledFits Tryz.prog Tryz.f3.params.toList (Tryz.f3.params.toList++Rows.unionsearchStacksSpec.plain.varTypes Tryz.prog++Tryz.f3.resultTypes.toList))=true:=by kernel_rfl
theorem ZAx {a b:Bool} (h:a=true) (h':b=true):(a&&b)=true:=by rw[h,h'];rfl
theorem ZKY:joinedFacts Tryz.prog 3 Tryz.f3 Rows.unionsearchStacksSpec Rows.unionsearchStacksRow=true:=by unfold joinedFacts;exact(ZAx (ZAx (ZAx (ZAx (ZAx (ZAx (ZAx (ZAx (ZAx (ZAx (ZAx (ZAx (ZAx (ZAx (ZAx (ZAx (ZAx (ZAx (ZAx (ZAx (ZAx (ZAx (ZAx (ZAx (ZAx (ZAx (ZAx (ZAx (ZAx (ZAx (ZAx ZMZ fact1) fact2) ZMY) ZMX) ZMW) fact6) ZMV) fact8) ZMU) ZKV) ZKU) ZKT) ZKS) ZKR) ZKQ) ZKP) ZKO) ZKN) ZKM) ZKL) ZKK) fact22) ZKJ) fact24) fact25) fact26) fact27) ZKI) ZKH) ZKG) ZKF)
theorem ZHu:Tryz.prog.funcNamed "tablefinder/tablefinderlaw28.UnionsearchStacks" =some 3:=by kernel_rfl
theorem ZMS:Tryz.f3.isInstance Tryz.prog Rows.unionsearchStacksRow.origin Rows.unionsearchStacksRow.targs:=of_decide_eq_true (by kernel_rfl)
theorem ZMD:Tryz.f3.isWrapper Tryz.prog Rows.unionsearchStacksRow.wrapper Rows.unionsearchStacksRow.mainSum:=by unfold Func.isWrapper;first |(rw[if_pos (by decide+kernel)];kernel_rfl) |(rw[if_neg (by decide+kernel)];exact⟨rfl,rfl⟩)
theorem ZJ6:Rows.unionsearchStacksRow.wfByText (OpenSpec.ofChange Rows.unionsearchStacksSpec)=true:=by kernel_rfl
theorem mainIs_:Tryz.prog.mainIs=some ((true, "2cf6421c3486c0a42ee993ed8002b134e658a97b4d2bd861e087e29b1fc891d4").1,(true, "2cf6421c3486c0a42ee993ed8002b134e658a97b4d2bd861e087e29b1fc891d4").2.toList):=facts.mainIs_
theorem ZMT:false=Rows.unionsearchStacksRow.goesBy Tryz.prog:=by kernel_rfl
theorem looks_:true=Tryz.prog.looks []:=facts.looks_
theorem ZKd:([22].all fun u=> !Tryz.prog.wantsStandIn u)=true:=by kernel_rfl
end Go.Proofs.YtdmabekeafhflaaGreatDoor.unionsearchStacks

/- Closed facts of the row UnionsearchSelf and of the program. -/
import Derived.Test.YtdmabekeafhflaaGreatDoorFacts
set_option linter.unusedVariables false
set_option linter.unusedSimpArgs false
set_option linter.unusedSectionVars false
set_option maxRecDepth 100000
namespace Go.Proofs.YtdmabekeafhflaaGreatDoor.unionsearchSelf
theorem ZMN:(Rows.unionsearchSelfRow.wf (OpenSpec.ofChange Rows.unionsearchSelfSpec))=true:=by kernel_rfl
theorem fact1:(laidOutB Tryz.prog)=true:=facts.fact1
theorem fact2:(mapsRowed Tryz.prog)=true:=facts.fact2
theorem ZMM:(Tryz.f4.params.all (Tryz.prog.readableRec ·))=true:=by kernel_rfl
theorem ZML:(namedTie Tryz.prog Rows.unionsearchSelfRow.named Rows.unionsearchSelfSpec.vars)=true:=by kernel_rfl
theorem ZMK:((Rows.unionsearchSelfRow.stops == []))=true:=by kernel_rfl
theorem fact6:((Tryz.prog.stops == []))=true:=facts.fact6
theorem ZMJ:((Rows.unionsearchSelfRow.knobs == []))=true:=by kernel_rfl
theorem fact8:((Tryz.prog.stopKnobs == []))=true:=facts.fact8
theorem ZMI:((Rows.unionsearchSelfRow.inPlace == Tryz.prog.inPlace 4))=true:=by kernel_rfl
theorem ZKP:((Rows.unionsearchSelfRow.unfollowed == Tryz.prog.unfollowed 4))=true:=by kernel_rfl
theorem ZKO:((Rows.unionsearchSelfRow.recurses == Tryz.prog.recurses 4))=true:=by kernel_rfl
theorem ZKN:((Rows.unionsearchSelfRow.named == Tryz.prog.varsNamed 4))=true:=by kernel_rfl
theorem ZKM:((Rows.unionsearchSelfRow.maps == (Tryz.f4.params.toList++Rows.unionsearchSelfSpec.plain.varTypes Tryz.prog).any (Tryz.prog.mapsRec ·)))=true:=by kernel_rfl
theorem ZKL:((Rows.unionsearchSelfRow.ifaces == (Tryz.f4.params.toList++Rows.unionsearchSelfSpec.plain.varTypes Tryz.prog).any (Tryz.prog.ifacesRec ·)))=true:=by kernel_rfl
theorem ZKK:((Rows.unionsearchSelfRow.mapsOut == Tryz.prog.mapsAmong Tryz.f4.resultTypes.toList))=true:=by kernel_rfl
theorem ZKJ:((Rows.unionsearchSelfRow.loops == (Tryz.f4.params.toList++Rows.unionsearchSelfSpec.plain.varTypes Tryz.prog).any (Tryz.prog.loopsFrom ·)))=true:=by kernel_rfl
theorem ZKI:((Rows.unionsearchSelfRow.wideKeys == (Tryz.f4.params.toList++Rows.unionsearchSelfSpec.plain.varTypes Tryz.prog++Tryz.f4.resultTypes.toList).any (Tryz.prog.wideKeysFrom ·)))=true:=by kernel_rfl
theorem ZKH:(Rows.unionsearchSelfSpec.vars.all (Tryz.prog.varReadable ·))=true:=by kernel_rfl
theorem ZKG:(Tryz.f4.resultTypes.all (fun t=>Tryz.prog.readableRec t&&decide (t < Tryz.prog.types.size)))=true:=by kernel_rfl
theorem ZKF:((Rows.unionsearchSelfRow.ifacesOut == Tryz.f4.resultTypes.toList.any (Tryz.prog.ifacesRec ·)))=true:=by kernel_rfl
theorem ZKE:((Rows.unionsearchSelfRow.loopsOut == Tryz.f4.resultTypes.toList.any (Tryz.prog.loopsFrom ·)))=true:=by kernel_rfl
theorem fact22:((Rows.unionsearchSelfRow.plainKeys == Tryz.prog.plainKeys))=true:=facts.fact22
theorem ZKD:(Rows.unionsearchSelfRow.shortTexts.isNone)=true:=by kernel_rfl
theorem fact24:(Tryz.prog.stopsHeard)=true:=facts.fact24
theorem fact25:(Tryz.prog.mayEnter)=true:=facts.fact25
theorem fact26:((Rows.unionsearchSelfRow.lifted == Tryz.prog.liftsFinal))=true:=facts.fact26
theorem fact27:((Tryz.prog.make == some Rows.unionsearchSelfRow.make))=true:=facts.fact27
theorem ZKC:((Rows.unionsearchSelfRow.kinds == (if Rows.unionsearchSelfRow.domain.isEmpty then []else Tryz.f4.params.toList.map fun t=>match Tryz.prog.underlying t with |some (.int k)=>some k |_=>none)))=true:=by kernel_rfl
theorem ZKB:((Rows.unionsearchSelfRow.pinned == Rows.unionsearchSelfRow.pinnedBy))=true:=by kernel_rfl
theorem ZKA:((Rows.unionsearchSelfRow.veiled == (Tryz.f4.params.toList++Rows.unionsearchSelfSpec.plain.varTypes Tryz.prog++Tryz.f4.resultTypes.toList).any (Tryz.prog.veiledRec ·)))=true:=by kernel_rfl
theorem ZKz:(Rows.unionsearchSelfRow.veiledFits Tryz.prog Tryz.f4.params.toList (Tryz.f4.params.toList++Rows.unionsearchSelfSpec.plain.varTypes Tryz.prog++Tryz.f4.resultTypes.toList))=true:=by kernel_rfl
theorem ZAn {a b:Bool} (h:a=true) (h':b=true):(a&&b)=true:=by rw[h,h'];rfl
theorem ZKS:joinedFacts Tryz.prog 4 Tryz.f4 Rows.unionsearchSelfSpec Rows.unionsearchSelfRow=true:=by unfold joinedFacts;exact(ZAn (ZAn (ZAn (ZAn (ZAn (ZAn (ZAn (ZAn (ZAn (ZAn (ZAn (ZAn (ZAn (ZAn (ZAn (ZAn (ZAn (ZAn (ZAn (ZAn (ZAn (ZAn (ZAn (ZAn (ZAn (ZAn (ZAn (ZAn (ZAn (ZAn (ZAn ZMN fact1) fact2) ZMM) ZML) ZMK) fact6) ZMJ) fact8) ZMI) ZKP) ZKO) ZKN) ZKM) ZKL) ZKK) ZKJ) ZKI) ZKH) ZKG) ZKF) ZKE) fact22) ZKD) fact24) fact25) fact26) fact27) ZKC) ZKB) ZKA) ZKz)
theorem ZHi:Tryz.prog.funcNamed "tablefinder/tablefinderlaw28.UnionsearchSelf" =some 4:=by kernel_rfl
theorem ZMG:Tryz.f4.isInstance Tryz.prog Rows.unionsearchSelfRow.origin Rows.unionsearchSelfRow.targs:=of_decide_eq_true (by kernel_rfl)
theorem ZMs:Tryz.f4.isWrapper Tryz.prog Rows.unionsearchSelfRow.wrapper Rows.unionsearchSelfRow.mainSum:=by unfold Func.isWrapper;first |(rw[if_pos (by decide+kernel)];kernel_rfl) |(rw[if_neg (by decide+kernel)];exact⟨rfl,rfl⟩)
theorem ZJY:Rows.unionsearchSelfRow.wfByText (OpenSpec.ofChange Rows.unionsearchSelfSpec)=true:=by kernel_rfl
theorem mainIs_:Tryz.prog.mainIs=some ((true, "2cf6421c3486c0a42ee993ed8002b134e658a97b4d2bd861e087e29b1fc891d4").1,(true, "2cf6421c3486c0a42ee993ed8002b134e658a97b4d2bd861e087e29b1fc891d4").2.toList):=facts.mainIs_
theorem ZMH:false=Rows.unionsearchSelfRow.goesBy Tryz.prog:=by kernel_rfl
theorem looks_:true=Tryz.prog.looks []:=facts.looks_
theorem ZJ6:([22,3].all fun u=> !Tryz.prog.wantsStandIn u)=true:=by kernel_rfl
end Go.Proofs.YtdmabekeafhflaaGreatDoor.unionsearchSelf

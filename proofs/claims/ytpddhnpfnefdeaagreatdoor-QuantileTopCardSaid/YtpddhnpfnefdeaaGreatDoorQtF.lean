/- Closed facts of the row QuantileTop and of the program. -/
import Derived.Test.YtpddhnpfnefdeaaGreatDoorFacts
set_option linter.unusedVariables false
set_option linter.unusedSimpArgs false
set_option linter.unusedSectionVars false
set_option maxRecDepth 100000
namespace Go.Proofs.YtpddhnpfnefdeaaGreatDoor.quantileTop
theorem ZVY:(Rows.quantileTopRow.wf (OpenSpec.ofChange Rows.quantileTopSpec))=true:=by kernel_rfl
theorem fact1:(laidOutB Tryz.prog)=true:=facts.fact1
theorem fact2:(mapsRowed Tryz.prog)=true:=facts.fact2
theorem ZVX:(Tryz.f3.params.all (Tryz.prog.readableRec ·))=true:=by kernel_rfl
theorem ZVW:(namedTie Tryz.prog Rows.quantileTopRow.named Rows.quantileTopSpec.vars)=true:=by kernel_rfl
theorem ZVV:((Rows.quantileTopRow.stops == []))=true:=by kernel_rfl
theorem fact6:((Tryz.prog.stops == []))=true:=facts.fact6
theorem ZVU:((Rows.quantileTopRow.knobs == []))=true:=by kernel_rfl
theorem fact8:((Tryz.prog.stopKnobs == []))=true:=facts.fact8
theorem ZVT:((Rows.quantileTopRow.inPlace == Tryz.prog.inPlace 3))=true:=by kernel_rfl
theorem ZTm:((Rows.quantileTopRow.unfollowed == Tryz.prog.unfollowed 3))=true:=by kernel_rfl
theorem ZTl:((Rows.quantileTopRow.recurses == Tryz.prog.recurses 3))=true:=by kernel_rfl
theorem ZTk:((Rows.quantileTopRow.named == Tryz.prog.varsNamed 3))=true:=by kernel_rfl
theorem ZTj:((Rows.quantileTopRow.maps == (Tryz.f3.params.toList++Rows.quantileTopSpec.plain.varTypes Tryz.prog).any (Tryz.prog.mapsRec ·)))=true:=by kernel_rfl
theorem ZTi:((Rows.quantileTopRow.ifaces == (Tryz.f3.params.toList++Rows.quantileTopSpec.plain.varTypes Tryz.prog).any (Tryz.prog.ifacesRec ·)))=true:=by kernel_rfl
theorem ZTh:((Rows.quantileTopRow.mapsOut == Tryz.prog.mapsAmong Tryz.f3.resultTypes.toList))=true:=by kernel_rfl
theorem ZTg:((Rows.quantileTopRow.loops == (Tryz.f3.params.toList++Rows.quantileTopSpec.plain.varTypes Tryz.prog).any (Tryz.prog.loopsFrom ·)))=true:=by kernel_rfl
theorem ZTf:((Rows.quantileTopRow.wideKeys == (Tryz.f3.params.toList++Rows.quantileTopSpec.plain.varTypes Tryz.prog++Tryz.f3.resultTypes.toList).any (Tryz.prog.wideKeysFrom ·)))=true:=by kernel_rfl
theorem ZTe:(Rows.quantileTopSpec.vars.all (Tryz.prog.varReadable ·))=true:=by kernel_rfl
theorem ZTd:(Tryz.f3.resultTypes.all (fun t=>Tryz.prog.readableRec t&&decide (t < Tryz.prog.types.size)))=true:=by kernel_rfl
theorem ZTc:((Rows.quantileTopRow.ifacesOut == Tryz.f3.resultTypes.toList.any (Tryz.prog.ifacesRec ·)))=true:=by kernel_rfl
theorem ZTb:((Rows.quantileTopRow.loopsOut == Tryz.f3.resultTypes.toList.any (Tryz.prog.loopsFrom ·)))=true:=by kernel_rfl
theorem fact22:((Rows.quantileTopRow.plainKeys == Tryz.prog.plainKeys))=true:=facts.fact22
theorem ZTa:(Rows.quantileTopRow.shortTexts.isNone)=true:=by kernel_rfl
theorem fact24:(Tryz.prog.stopsHeard)=true:=facts.fact24
theorem fact25:(Tryz.prog.mayEnter)=true:=facts.fact25
theorem fact26:((Rows.quantileTopRow.lifted == Tryz.prog.liftsFinal))=true:=facts.fact26
theorem fact27:((Tryz.prog.make == some Rows.quantileTopRow.make))=true:=facts.fact27
theorem ZS9:((Rows.quantileTopRow.kinds == (if Rows.quantileTopRow.domain.isEmpty then []else Tryz.f3.params.toList.map fun t=>match Tryz.prog.underlying t with |some (.int k)=>some k |_=>none)))=true:=by kernel_rfl
theorem ZS8:((Rows.quantileTopRow.pinned == Rows.quantileTopRow.pinnedBy))=true:=by kernel_rfl
theorem ZS7:((Rows.quantileTopRow.veiled == (Tryz.f3.params.toList++Rows.quantileTopSpec.plain.varTypes Tryz.prog++Tryz.f3.resultTypes.toList).any (Tryz.prog.veiledRec ·)))=true:=by kernel_rfl
theorem ZS6:(Rows.quantileTopRow.veiledFits Tryz.prog Tryz.f3.params.toList (Tryz.f3.params.toList++Rows.quantileTopSpec.plain.varTypes Tryz.prog++Tryz.f3.resultTypes.toList))=true:=by kernel_rfl
theorem ZGY {a b:Bool} (h:a=true) (h':b=true):(a&&b)=true:=by rw[h,h'];rfl
theorem ZTq:joinedFacts Tryz.prog 3 Tryz.f3 Rows.quantileTopSpec Rows.quantileTopRow=true:=by unfold joinedFacts;exact(ZGY (ZGY (ZGY (ZGY (ZGY (ZGY (ZGY (ZGY (ZGY (ZGY (ZGY (ZGY (ZGY (ZGY (ZGY (ZGY (ZGY (ZGY (ZGY (ZGY (ZGY (ZGY (ZGY (ZGY (ZGY (ZGY (ZGY (ZGY (ZGY (ZGY (ZGY ZVY fact1) fact2) ZVX) ZVW) ZVV) fact6) ZVU) fact8) ZVT) ZTm) ZTl) ZTk) ZTj) ZTi) ZTh) ZTg) ZTf) ZTe) ZTd) ZTc) ZTb) fact22) ZTa) fact24) fact25) fact26) fact27) ZS9) ZS8) ZS7) ZS6)
theorem ZOL:Tryz.prog.funcNamed "tablefinder/tablefinderlaw23.QuantileTop" =some 3:=by kernel_rfl
theorem ZVR:Tryz.f3.isInstance Tryz.prog Rows.quantileTopRow.origin Rows.quantileTopRow.targs:=of_decide_eq_true (by kernel_rfl)
theorem ZVq:Tryz.f3.isWrapper Tryz.prog Rows.quantileTopRow.wrapper Rows.quantileTopRow.mainSum:=by unfold Func.isWrapper;first |(rw[if_pos (by decide+kernel)];kernel_rfl) |(rw[if_neg (by decide+kernel)];exact⟨rfl,rfl⟩)
theorem ZSn:Rows.quantileTopRow.wfByText (OpenSpec.ofChange Rows.quantileTopSpec)=true:=by kernel_rfl
theorem mainIs_:Tryz.prog.mainIs=some ((true, "5f751942a05f26414b623520b692795d4638819d8df465413c47bbd0d9e74ae1").1,(true, "5f751942a05f26414b623520b692795d4638819d8df465413c47bbd0d9e74ae1").2.toList):=facts.mainIs_
theorem ZVS:false=Rows.quantileTopRow.goesBy Tryz.prog:=by kernel_rfl
theorem looks_:true=Tryz.prog.looks []:=facts.looks_
theorem ZSB:([22,3,23].all fun u=> !Tryz.prog.wantsStandIn u)=true:=by kernel_rfl
end Go.Proofs.YtpddhnpfnefdeaaGreatDoor.quantileTop

/- Closed facts of the row CorrelationParts and of the program. -/
import Derived.Test.YtjdddnbddnhilaaDoorFacts
set_option linter.unusedVariables false
set_option linter.unusedSimpArgs false
set_option linter.unusedSectionVars false
set_option maxRecDepth 100000
namespace Go.Proofs.YtjdddnbddnhilaaDoor.correlationParts
theorem fact0 : (Rows.correlationPartsRow.wf (OpenSpec.ofChange Rows.correlationPartsSpec)) = true := by kernel_rfl
theorem fact1 : (laidOutB Tryd.prog) = true := facts.fact1
theorem fact2 : (mapsRowed Tryd.prog) = true := facts.fact2
theorem fact3 : (Tryd.f7.params.all (Tryd.prog.readableRec ·)) = true := by kernel_rfl
theorem fact4 : (namedTie Tryd.prog Rows.correlationPartsRow.named Rows.correlationPartsSpec.vars) = true := by kernel_rfl
theorem fact5 : ((Rows.correlationPartsRow.stops == [])) = true := by kernel_rfl
theorem fact6 : ((Tryd.prog.stops == [])) = true := facts.fact6
theorem fact7 : ((Rows.correlationPartsRow.knobs == [])) = true := by kernel_rfl
theorem fact8 : ((Tryd.prog.stopKnobs == [])) = true := facts.fact8
theorem fact9 : ((Rows.correlationPartsRow.inPlace == Tryd.prog.inPlace 7)) = true := by kernel_rfl
theorem fact10 : ((Rows.correlationPartsRow.unfollowed == Tryd.prog.unfollowed 7)) = true := by kernel_rfl
theorem fact11 : ((Rows.correlationPartsRow.recurses == Tryd.prog.recurses 7)) = true := by kernel_rfl
theorem fact12 : ((Rows.correlationPartsRow.named == Tryd.prog.varsNamed 7)) = true := by kernel_rfl
theorem fact13 : ((Rows.correlationPartsRow.maps == (Tryd.f7.params.toList ++ Rows.correlationPartsSpec.plain.varTypes Tryd.prog).any (Tryd.prog.mapsRec ·))) = true := by kernel_rfl
theorem fact14 : ((Rows.correlationPartsRow.ifaces == (Tryd.f7.params.toList ++ Rows.correlationPartsSpec.plain.varTypes Tryd.prog).any (Tryd.prog.ifacesRec ·))) = true := by kernel_rfl
theorem fact15 : ((Rows.correlationPartsRow.mapsOut == Tryd.prog.mapsAmong Tryd.f7.resultTypes.toList)) = true := by kernel_rfl
theorem fact16 : ((Rows.correlationPartsRow.loops == (Tryd.f7.params.toList ++ Rows.correlationPartsSpec.plain.varTypes Tryd.prog).any (Tryd.prog.loopsFrom ·))) = true := by kernel_rfl
theorem fact17 : ((Rows.correlationPartsRow.wideKeys == (Tryd.f7.params.toList ++ Rows.correlationPartsSpec.plain.varTypes Tryd.prog ++ Tryd.f7.resultTypes.toList).any (Tryd.prog.wideKeysFrom ·))) = true := by kernel_rfl
theorem fact18 : (Rows.correlationPartsSpec.vars.all (Tryd.prog.varReadable ·)) = true := by kernel_rfl
theorem fact19 : (Tryd.f7.resultTypes.all (fun t => Tryd.prog.readableRec t && decide (t < Tryd.prog.types.size))) = true := by kernel_rfl
theorem fact20 : ((Rows.correlationPartsRow.ifacesOut == Tryd.f7.resultTypes.toList.any (Tryd.prog.ifacesRec ·))) = true := by kernel_rfl
theorem fact21 : ((Rows.correlationPartsRow.loopsOut == Tryd.f7.resultTypes.toList.any (Tryd.prog.loopsFrom ·))) = true := by kernel_rfl
theorem fact22 : ((Rows.correlationPartsRow.plainKeys == Tryd.prog.plainKeys)) = true := facts.fact22
theorem fact23 : (Rows.correlationPartsRow.shortTexts.isNone) = true := by kernel_rfl
theorem fact24 : (Tryd.prog.stopsHeard) = true := facts.fact24
theorem fact25 : (Tryd.prog.mayEnter) = true := facts.fact25
theorem fact26 : ((Rows.correlationPartsRow.lifted == Tryd.prog.liftsFinal)) = true := facts.fact26
theorem fact27 : ((Tryd.prog.make == some Rows.correlationPartsRow.make)) = true := facts.fact27
theorem fact28 : ((Rows.correlationPartsRow.kinds == (if Rows.correlationPartsRow.domain.isEmpty then [] else Tryd.f7.params.toList.map fun t => match Tryd.prog.underlying t with | some (.int k) => some k | _ => none))) = true := by kernel_rfl
theorem fact29 : ((Rows.correlationPartsRow.pinned == Rows.correlationPartsRow.pinnedBy)) = true := by kernel_rfl
theorem fact30 : ((Rows.correlationPartsRow.veiled == (Tryd.f7.params.toList ++ Rows.correlationPartsSpec.plain.varTypes Tryd.prog ++ Tryd.f7.resultTypes.toList).any (Tryd.prog.veiledRec ·))) = true := by kernel_rfl
theorem fact31 : (Rows.correlationPartsRow.veiledFits Tryd.prog Tryd.f7.params.toList (Tryd.f7.params.toList ++ Rows.correlationPartsSpec.plain.varTypes Tryd.prog ++ Tryd.f7.resultTypes.toList)) = true := by kernel_rfl
theorem and2 {a b : Bool} (h : a = true) (h' : b = true) : (a && b) = true := by rw [h, h']; rfl
theorem closed : joinedFacts Tryd.prog 7 Tryd.f7 Rows.correlationPartsSpec Rows.correlationPartsRow = true := by
  unfold joinedFacts
  exact (and2 (and2 (and2 (and2 (and2 (and2 (and2 (and2 (and2 (and2 (and2 (and2 (and2 (and2 (and2 (and2 (and2 (and2 (and2 (and2 (and2 (and2 (and2 (and2 (and2 (and2 (and2 (and2 (and2 (and2 (and2 fact0 fact1) fact2) fact3) fact4) fact5) fact6) fact7) fact8) fact9) fact10) fact11) fact12) fact13) fact14) fact15) fact16) fact17) fact18) fact19) fact20) fact21) fact22) fact23) fact24) fact25) fact26) fact27) fact28) fact29) fact30) fact31)
theorem named_ : Tryd.prog.funcNamed "tablefinder/tablefinderlaw25.CorrelationParts" = some 7 := by kernel_rfl
theorem inst_ : Tryd.f7.isInstance Tryd.prog Rows.correlationPartsRow.origin Rows.correlationPartsRow.targs := of_decide_eq_true (by kernel_rfl)
theorem wrap_ : Tryd.f7.isWrapper Tryd.prog Rows.correlationPartsRow.wrapper Rows.correlationPartsRow.mainSum := by unfold Func.isWrapper; first | (rw [if_pos (by decide +kernel)]; kernel_rfl) | (rw [if_neg (by decide +kernel)]; exact ⟨rfl, rfl⟩)
theorem wfText : Rows.correlationPartsRow.wfByText (OpenSpec.ofChange Rows.correlationPartsSpec) = true := by kernel_rfl
theorem mainIs_ : Tryd.prog.mainIs = some ((true, "fe002f48e3566b7bfabc7ef5f58aca63e3b1c8255176ac4aac7689c909d0d442").1, (true, "fe002f48e3566b7bfabc7ef5f58aca63e3b1c8255176ac4aac7689c909d0d442").2.toList) := facts.mainIs_
theorem goes_ : false = Rows.correlationPartsRow.goesBy Tryd.prog := by kernel_rfl
theorem looks_ : false = Tryd.prog.looks [] := facts.looks_
theorem stand_ : ([25, 3].all fun u => !Tryd.prog.wantsStandIn u) = true := by kernel_rfl
end Go.Proofs.YtjdddnbddnhilaaDoor.correlationParts

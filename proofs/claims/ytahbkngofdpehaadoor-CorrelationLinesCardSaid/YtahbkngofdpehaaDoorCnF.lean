/- Closed facts of the row CorrelationLines and of the program. -/
import Derived.Test.YtahbkngofdpehaaDoorFacts
set_option linter.unusedVariables false
set_option linter.unusedSimpArgs false
set_option linter.unusedSectionVars false
set_option maxRecDepth 100000
namespace Go.Proofs.YtahbkngofdpehaaDoor.correlationLines
theorem fact0 : (Rows.correlationLinesRow.wf (OpenSpec.ofChange Rows.correlationLinesSpec)) = true := by kernel_rfl
theorem fact1 : (laidOutB Tryd.prog) = true := facts.fact1
theorem fact2 : (mapsRowed Tryd.prog) = true := facts.fact2
theorem fact3 : (Tryd.f4.params.all (Tryd.prog.readableRec ·)) = true := by kernel_rfl
theorem fact4 : (namedTie Tryd.prog Rows.correlationLinesRow.named Rows.correlationLinesSpec.vars) = true := by kernel_rfl
theorem fact5 : ((Rows.correlationLinesRow.stops == [])) = true := by kernel_rfl
theorem fact6 : ((Tryd.prog.stops == [])) = true := facts.fact6
theorem fact7 : ((Rows.correlationLinesRow.knobs == [])) = true := by kernel_rfl
theorem fact8 : ((Tryd.prog.stopKnobs == [])) = true := facts.fact8
theorem fact9 : ((Rows.correlationLinesRow.inPlace == Tryd.prog.inPlace 4)) = true := by kernel_rfl
theorem fact10 : ((Rows.correlationLinesRow.unfollowed == Tryd.prog.unfollowed 4)) = true := by kernel_rfl
theorem fact11 : ((Rows.correlationLinesRow.recurses == Tryd.prog.recurses 4)) = true := by kernel_rfl
theorem fact12 : ((Rows.correlationLinesRow.named == Tryd.prog.varsNamed 4)) = true := by kernel_rfl
theorem fact13 : ((Rows.correlationLinesRow.maps == (Tryd.f4.params.toList ++ Rows.correlationLinesSpec.plain.varTypes Tryd.prog).any (Tryd.prog.mapsRec ·))) = true := by kernel_rfl
theorem fact14 : ((Rows.correlationLinesRow.ifaces == (Tryd.f4.params.toList ++ Rows.correlationLinesSpec.plain.varTypes Tryd.prog).any (Tryd.prog.ifacesRec ·))) = true := by kernel_rfl
theorem fact15 : ((Rows.correlationLinesRow.mapsOut == Tryd.prog.mapsAmong Tryd.f4.resultTypes.toList)) = true := by kernel_rfl
theorem fact16 : ((Rows.correlationLinesRow.loops == (Tryd.f4.params.toList ++ Rows.correlationLinesSpec.plain.varTypes Tryd.prog).any (Tryd.prog.loopsFrom ·))) = true := by kernel_rfl
theorem fact17 : ((Rows.correlationLinesRow.wideKeys == (Tryd.f4.params.toList ++ Rows.correlationLinesSpec.plain.varTypes Tryd.prog ++ Tryd.f4.resultTypes.toList).any (Tryd.prog.wideKeysFrom ·))) = true := by kernel_rfl
theorem fact18 : (Rows.correlationLinesSpec.vars.all (Tryd.prog.varReadable ·)) = true := by kernel_rfl
theorem fact19 : (Tryd.f4.resultTypes.all (fun t => Tryd.prog.readableRec t && decide (t < Tryd.prog.types.size))) = true := by kernel_rfl
theorem fact20 : ((Rows.correlationLinesRow.ifacesOut == Tryd.f4.resultTypes.toList.any (Tryd.prog.ifacesRec ·))) = true := by kernel_rfl
theorem fact21 : ((Rows.correlationLinesRow.loopsOut == Tryd.f4.resultTypes.toList.any (Tryd.prog.loopsFrom ·))) = true := by kernel_rfl
theorem fact22 : ((Rows.correlationLinesRow.plainKeys == Tryd.prog.plainKeys)) = true := facts.fact22
theorem fact23 : (Rows.correlationLinesRow.shortTexts.isNone) = true := by kernel_rfl
theorem fact24 : (Tryd.prog.stopsHeard) = true := facts.fact24
theorem fact25 : (Tryd.prog.mayEnter) = true := facts.fact25
theorem fact26 : ((Rows.correlationLinesRow.lifted == Tryd.prog.liftsFinal)) = true := facts.fact26
theorem fact27 : ((Tryd.prog.make == some Rows.correlationLinesRow.make)) = true := facts.fact27
theorem fact28 : ((Rows.correlationLinesRow.kinds == (if Rows.correlationLinesRow.domain.isEmpty then [] else Tryd.f4.params.toList.map fun t => match Tryd.prog.underlying t with | some (.int k) => some k | _ => none))) = true := by kernel_rfl
theorem fact29 : ((Rows.correlationLinesRow.pinned == Rows.correlationLinesRow.pinnedBy)) = true := by kernel_rfl
theorem fact30 : ((Rows.correlationLinesRow.veiled == (Tryd.f4.params.toList ++ Rows.correlationLinesSpec.plain.varTypes Tryd.prog ++ Tryd.f4.resultTypes.toList).any (Tryd.prog.veiledRec ·))) = true := by kernel_rfl
theorem fact31 : (Rows.correlationLinesRow.veiledFits Tryd.prog Tryd.f4.params.toList (Tryd.f4.params.toList ++ Rows.correlationLinesSpec.plain.varTypes Tryd.prog ++ Tryd.f4.resultTypes.toList)) = true := by kernel_rfl
theorem and2 {a b : Bool} (h : a = true) (h' : b = true) : (a && b) = true := by rw [h, h']; rfl
theorem closed : joinedFacts Tryd.prog 4 Tryd.f4 Rows.correlationLinesSpec Rows.correlationLinesRow = true := by
  unfold joinedFacts
  exact (and2 (and2 (and2 (and2 (and2 (and2 (and2 (and2 (and2 (and2 (and2 (and2 (and2 (and2 (and2 (and2 (and2 (and2 (and2 (and2 (and2 (and2 (and2 (and2 (and2 (and2 (and2 (and2 (and2 (and2 (and2 fact0 fact1) fact2) fact3) fact4) fact5) fact6) fact7) fact8) fact9) fact10) fact11) fact12) fact13) fact14) fact15) fact16) fact17) fact18) fact19) fact20) fact21) fact22) fact23) fact24) fact25) fact26) fact27) fact28) fact29) fact30) fact31)
theorem named_ : Tryd.prog.funcNamed "tablefinder/tablefinderlaw25.CorrelationLines" = some 4 := by kernel_rfl
theorem inst_ : Tryd.f4.isInstance Tryd.prog Rows.correlationLinesRow.origin Rows.correlationLinesRow.targs := of_decide_eq_true (by kernel_rfl)
theorem wrap_ : Tryd.f4.isWrapper Tryd.prog Rows.correlationLinesRow.wrapper Rows.correlationLinesRow.mainSum := by unfold Func.isWrapper; first | (rw [if_pos (by decide +kernel)]; kernel_rfl) | (rw [if_neg (by decide +kernel)]; exact ⟨rfl, rfl⟩)
theorem wfText : Rows.correlationLinesRow.wfByText (OpenSpec.ofChange Rows.correlationLinesSpec) = true := by kernel_rfl
theorem mainIs_ : Tryd.prog.mainIs = some ((true, "eec583a55967367a8612e427ddfa2e8e8fb9bce4814b0ecaca0ef50afc55f610").1, (true, "eec583a55967367a8612e427ddfa2e8e8fb9bce4814b0ecaca0ef50afc55f610").2.toList) := facts.mainIs_
theorem goes_ : false = Rows.correlationLinesRow.goesBy Tryd.prog := by kernel_rfl
theorem looks_ : false = Tryd.prog.looks [] := facts.looks_
theorem stand_ : ([47, 3, 3, 4].all fun u => !Tryd.prog.wantsStandIn u) = true := by kernel_rfl
end Go.Proofs.YtahbkngofdpehaaDoor.correlationLines

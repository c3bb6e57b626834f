/- Closed facts of the row TableSteps and of the program. -/
import Derived.Test.YtahbkngofdpehaaGreatDoorFacts
set_option linter.unusedVariables false
set_option linter.unusedSimpArgs false
set_option linter.unusedSectionVars false
set_option maxRecDepth 100000
namespace Go.Proofs.YtahbkngofdpehaaGreatDoor.tableSteps
theorem fact0 : (Rows.tableStepsRow.wf (OpenSpec.ofChange Rows.tableStepsSpec)) = true := by kernel_rfl
theorem fact1 : (laidOutB Tryz.prog) = true := facts.fact1
theorem fact2 : (mapsRowed Tryz.prog) = true := facts.fact2
theorem fact3 : (Tryz.f4.params.all (Tryz.prog.readableRec ·)) = true := by kernel_rfl
theorem fact4 : (namedTie Tryz.prog Rows.tableStepsRow.named Rows.tableStepsSpec.vars) = true := by kernel_rfl
theorem fact5 : ((Rows.tableStepsRow.stops == [])) = true := by kernel_rfl
theorem fact6 : ((Tryz.prog.stops == [])) = true := facts.fact6
theorem fact7 : ((Rows.tableStepsRow.knobs == [])) = true := by kernel_rfl
theorem fact8 : ((Tryz.prog.stopKnobs == [])) = true := facts.fact8
theorem fact9 : ((Rows.tableStepsRow.inPlace == Tryz.prog.inPlace 4)) = true := by kernel_rfl
theorem fact10 : ((Rows.tableStepsRow.unfollowed == Tryz.prog.unfollowed 4)) = true := by kernel_rfl
theorem fact11 : ((Rows.tableStepsRow.recurses == Tryz.prog.recurses 4)) = true := by kernel_rfl
theorem fact12 : ((Rows.tableStepsRow.named == Tryz.prog.varsNamed 4)) = true := by kernel_rfl
theorem fact13 : ((Rows.tableStepsRow.maps == (Tryz.f4.params.toList ++ Rows.tableStepsSpec.plain.varTypes Tryz.prog).any (Tryz.prog.mapsRec ·))) = true := by kernel_rfl
theorem fact14 : ((Rows.tableStepsRow.ifaces == (Tryz.f4.params.toList ++ Rows.tableStepsSpec.plain.varTypes Tryz.prog).any (Tryz.prog.ifacesRec ·))) = true := by kernel_rfl
theorem fact15 : ((Rows.tableStepsRow.mapsOut == Tryz.prog.mapsAmong Tryz.f4.resultTypes.toList)) = true := by kernel_rfl
theorem fact16 : ((Rows.tableStepsRow.loops == (Tryz.f4.params.toList ++ Rows.tableStepsSpec.plain.varTypes Tryz.prog).any (Tryz.prog.loopsFrom ·))) = true := by kernel_rfl
theorem fact17 : ((Rows.tableStepsRow.wideKeys == (Tryz.f4.params.toList ++ Rows.tableStepsSpec.plain.varTypes Tryz.prog ++ Tryz.f4.resultTypes.toList).any (Tryz.prog.wideKeysFrom ·))) = true := by kernel_rfl
theorem fact18 : (Rows.tableStepsSpec.vars.all (Tryz.prog.varReadable ·)) = true := by kernel_rfl
theorem fact19 : (Tryz.f4.resultTypes.all (fun t => Tryz.prog.readableRec t && decide (t < Tryz.prog.types.size))) = true := by kernel_rfl
theorem fact20 : ((Rows.tableStepsRow.ifacesOut == Tryz.f4.resultTypes.toList.any (Tryz.prog.ifacesRec ·))) = true := by kernel_rfl
theorem fact21 : ((Rows.tableStepsRow.loopsOut == Tryz.f4.resultTypes.toList.any (Tryz.prog.loopsFrom ·))) = true := by kernel_rfl
theorem fact22 : ((Rows.tableStepsRow.plainKeys == Tryz.prog.plainKeys)) = true := facts.fact22
theorem fact23 : (Rows.tableStepsRow.shortTexts.isNone) = true := by kernel_rfl
theorem fact24 : (Tryz.prog.stopsHeard) = true := facts.fact24
theorem fact25 : (Tryz.prog.mayEnter) = true := facts.fact25
theorem fact26 : ((Rows.tableStepsRow.lifted == Tryz.prog.liftsFinal)) = true := facts.fact26
theorem fact27 : ((Tryz.prog.make == some Rows.tableStepsRow.make)) = true := facts.fact27
theorem fact28 : ((Rows.tableStepsRow.kinds == (if Rows.tableStepsRow.domain.isEmpty then [] else Tryz.f4.params.toList.map fun t => match Tryz.prog.underlying t with | some (.int k) => some k | _ => none))) = true := by kernel_rfl
theorem fact29 : ((Rows.tableStepsRow.pinned == Rows.tableStepsRow.pinnedBy)) = true := by kernel_rfl
theorem fact30 : ((Rows.tableStepsRow.veiled == (Tryz.f4.params.toList ++ Rows.tableStepsSpec.plain.varTypes Tryz.prog ++ Tryz.f4.resultTypes.toList).any (Tryz.prog.veiledRec ·))) = true := by kernel_rfl
theorem fact31 : (Rows.tableStepsRow.veiledFits Tryz.prog Tryz.f4.params.toList (Tryz.f4.params.toList ++ Rows.tableStepsSpec.plain.varTypes Tryz.prog ++ Tryz.f4.resultTypes.toList)) = true := by kernel_rfl
theorem and2 {a b : Bool} (h : a = true) (h' : b = true) : (a && b) = true := by rw [h, h']; rfl
theorem closed : joinedFacts Tryz.prog 4 Tryz.f4 Rows.tableStepsSpec Rows.tableStepsRow = true := by
  unfold joinedFacts
  exact (and2 (and2 (and2 (and2 (and2 (and2 (and2 (and2 (and2 (and2 (and2 (and2 (and2 (and2 (and2 (and2 (and2 (and2 (and2 (and2 (and2 (and2 (and2 (and2 (and2 (and2 (and2 (and2 (and2 (and2 (and2 fact0 fact1) fact2) fact3) fact4) fact5) fact6) fact7) fact8) fact9) fact10) fact11) fact12) fact13) fact14) fact15) fact16) fact17) fact18) fact19) fact20) fact21) fact22) fact23) fact24) fact25) fact26) fact27) fact28) fact29) fact30) fact31)
theorem named_ : Tryz.prog.funcNamed "tablefinder/tablefinderlaw03.TableSteps" = some 4 := by kernel_rfl
theorem inst_ : Tryz.f4.isInstance Tryz.prog Rows.tableStepsRow.origin Rows.tableStepsRow.targs := of_decide_eq_true (by kernel_rfl)
theorem wrap_ : Tryz.f4.isWrapper Tryz.prog Rows.tableStepsRow.wrapper Rows.tableStepsRow.mainSum := by unfold Func.isWrapper; first | (rw [if_pos (by decide +kernel)]; kernel_rfl) | (rw [if_neg (by decide +kernel)]; exact ⟨rfl, rfl⟩)
theorem wfText : Rows.tableStepsRow.wfByText (OpenSpec.ofChange Rows.tableStepsSpec) = true := by kernel_rfl
theorem mainIs_ : Tryz.prog.mainIs = some ((true, "9637301d239bb3d334a75e8279a1906919cae3986eda3b3a7ba60539dcc99076").1, (true, "9637301d239bb3d334a75e8279a1906919cae3986eda3b3a7ba60539dcc99076").2.toList) := facts.mainIs_
theorem goes_ : false = Rows.tableStepsRow.goesBy Tryz.prog := by kernel_rfl
theorem looks_ : false = Tryz.prog.looks [] := facts.looks_
theorem stand_ : ([22, 3, 3, 54, 54, 56, 56].all fun u => !Tryz.prog.wantsStandIn u) = true := by kernel_rfl
end Go.Proofs.YtahbkngofdpehaaGreatDoor.tableSteps

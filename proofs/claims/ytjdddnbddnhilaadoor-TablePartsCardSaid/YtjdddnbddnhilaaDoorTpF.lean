/- Closed facts of the row TableParts and of the program. -/
import Derived.Test.YtjdddnbddnhilaaDoorFacts
set_option linter.unusedVariables false
set_option linter.unusedSimpArgs false
set_option linter.unusedSectionVars false
set_option maxRecDepth 100000
namespace Go.Proofs.YtjdddnbddnhilaaDoor.tableParts
theorem fact0 : (Rows.tablePartsRow.wf (OpenSpec.ofChange Rows.tablePartsSpec)) = true := by kernel_rfl
theorem fact1 : (laidOutB Tryd.prog) = true := facts.fact1
theorem fact2 : (mapsRowed Tryd.prog) = true := facts.fact2
theorem fact3 : (Tryd.f16.params.all (Tryd.prog.readableRec ·)) = true := by kernel_rfl
theorem fact4 : (namedTie Tryd.prog Rows.tablePartsRow.named Rows.tablePartsSpec.vars) = true := by kernel_rfl
theorem fact5 : ((Rows.tablePartsRow.stops == [])) = true := by kernel_rfl
theorem fact6 : ((Tryd.prog.stops == [])) = true := facts.fact6
theorem fact7 : ((Rows.tablePartsRow.knobs == [])) = true := by kernel_rfl
theorem fact8 : ((Tryd.prog.stopKnobs == [])) = true := facts.fact8
theorem fact9 : ((Rows.tablePartsRow.inPlace == Tryd.prog.inPlace 16)) = true := by kernel_rfl
theorem fact10 : ((Rows.tablePartsRow.unfollowed == Tryd.prog.unfollowed 16)) = true := by kernel_rfl
theorem fact11 : ((Rows.tablePartsRow.recurses == Tryd.prog.recurses 16)) = true := by kernel_rfl
theorem fact12 : ((Rows.tablePartsRow.named == Tryd.prog.varsNamed 16)) = true := by kernel_rfl
theorem fact13 : ((Rows.tablePartsRow.maps == (Tryd.f16.params.toList ++ Rows.tablePartsSpec.plain.varTypes Tryd.prog).any (Tryd.prog.mapsRec ·))) = true := by kernel_rfl
theorem fact14 : ((Rows.tablePartsRow.ifaces == (Tryd.f16.params.toList ++ Rows.tablePartsSpec.plain.varTypes Tryd.prog).any (Tryd.prog.ifacesRec ·))) = true := by kernel_rfl
theorem fact15 : ((Rows.tablePartsRow.mapsOut == Tryd.prog.mapsAmong Tryd.f16.resultTypes.toList)) = true := by kernel_rfl
theorem fact16 : ((Rows.tablePartsRow.loops == (Tryd.f16.params.toList ++ Rows.tablePartsSpec.plain.varTypes Tryd.prog).any (Tryd.prog.loopsFrom ·))) = true := by kernel_rfl
theorem fact17 : ((Rows.tablePartsRow.wideKeys == (Tryd.f16.params.toList ++ Rows.tablePartsSpec.plain.varTypes Tryd.prog ++ Tryd.f16.resultTypes.toList).any (Tryd.prog.wideKeysFrom ·))) = true := by kernel_rfl
theorem fact18 : (Rows.tablePartsSpec.vars.all (Tryd.prog.varReadable ·)) = true := by kernel_rfl
theorem fact19 : (Tryd.f16.resultTypes.all (fun t => Tryd.prog.readableRec t && decide (t < Tryd.prog.types.size))) = true := by kernel_rfl
theorem fact20 : ((Rows.tablePartsRow.ifacesOut == Tryd.f16.resultTypes.toList.any (Tryd.prog.ifacesRec ·))) = true := by kernel_rfl
theorem fact21 : ((Rows.tablePartsRow.loopsOut == Tryd.f16.resultTypes.toList.any (Tryd.prog.loopsFrom ·))) = true := by kernel_rfl
theorem fact22 : ((Rows.tablePartsRow.plainKeys == Tryd.prog.plainKeys)) = true := facts.fact22
theorem fact23 : (Rows.tablePartsRow.shortTexts.isNone) = true := by kernel_rfl
theorem fact24 : (Tryd.prog.stopsHeard) = true := facts.fact24
theorem fact25 : (Tryd.prog.mayEnter) = true := facts.fact25
theorem fact26 : ((Rows.tablePartsRow.lifted == Tryd.prog.liftsFinal)) = true := facts.fact26
theorem fact27 : ((Tryd.prog.make == some Rows.tablePartsRow.make)) = true := facts.fact27
theorem fact28 : ((Rows.tablePartsRow.kinds == (if Rows.tablePartsRow.domain.isEmpty then [] else Tryd.f16.params.toList.map fun t => match Tryd.prog.underlying t with | some (.int k) => some k | _ => none))) = true := by kernel_rfl
theorem fact29 : ((Rows.tablePartsRow.pinned == Rows.tablePartsRow.pinnedBy)) = true := by kernel_rfl
theorem fact30 : ((Rows.tablePartsRow.veiled == (Tryd.f16.params.toList ++ Rows.tablePartsSpec.plain.varTypes Tryd.prog ++ Tryd.f16.resultTypes.toList).any (Tryd.prog.veiledRec ·))) = true := by kernel_rfl
theorem fact31 : (Rows.tablePartsRow.veiledFits Tryd.prog Tryd.f16.params.toList (Tryd.f16.params.toList ++ Rows.tablePartsSpec.plain.varTypes Tryd.prog ++ Tryd.f16.resultTypes.toList)) = true := by kernel_rfl
theorem and2 {a b : Bool} (h : a = true) (h' : b = true) : (a && b) = true := by rw [h, h']; rfl
theorem closed : joinedFacts Tryd.prog 16 Tryd.f16 Rows.tablePartsSpec Rows.tablePartsRow = true := by
  unfold joinedFacts
  exact (and2 (and2 (and2 (and2 (and2 (and2 (and2 (and2 (and2 (and2 (and2 (and2 (and2 (and2 (and2 (and2 (and2 (and2 (and2 (and2 (and2 (and2 (and2 (and2 (and2 (and2 (and2 (and2 (and2 (and2 (and2 fact0 fact1) fact2) fact3) fact4) fact5) fact6) fact7) fact8) fact9) fact10) fact11) fact12) fact13) fact14) fact15) fact16) fact17) fact18) fact19) fact20) fact21) fact22) fact23) fact24) fact25) fact26) fact27) fact28) fact29) fact30) fact31)
theorem named_ : Tryd.prog.funcNamed "tablefinder/tablefinderlaw03.TableParts" = some 16 := by kernel_rfl
theorem inst_ : Tryd.f16.isInstance Tryd.prog Rows.tablePartsRow.origin Rows.tablePartsRow.targs := of_decide_eq_true (by kernel_rfl)
theorem wrap_ : Tryd.f16.isWrapper Tryd.prog Rows.tablePartsRow.wrapper Rows.tablePartsRow.mainSum := by unfold Func.isWrapper; first | (rw [if_pos (by decide +kernel)]; kernel_rfl) | (rw [if_neg (by decide +kernel)]; exact ⟨rfl, rfl⟩)
theorem wfText : Rows.tablePartsRow.wfByText (OpenSpec.ofChange Rows.tablePartsSpec) = true := by kernel_rfl
theorem mainIs_ : Tryd.prog.mainIs = some ((true, "fe002f48e3566b7bfabc7ef5f58aca63e3b1c8255176ac4aac7689c909d0d442").1, (true, "fe002f48e3566b7bfabc7ef5f58aca63e3b1c8255176ac4aac7689c909d0d442").2.toList) := facts.mainIs_
theorem goes_ : false = Rows.tablePartsRow.goesBy Tryd.prog := by kernel_rfl
theorem looks_ : false = Tryd.prog.looks [] := facts.looks_
theorem stand_ : ([83].all fun u => !Tryd.prog.wantsStandIn u) = true := by kernel_rfl
end Go.Proofs.YtjdddnbddnhilaaDoor.tableParts

/- Closed facts of the row RelationOf and of the program. -/
import Derived.Test.YtjdddnbddnhilaaDoorFacts
set_option linter.unusedVariables false
set_option linter.unusedSimpArgs false
set_option linter.unusedSectionVars false
set_option maxRecDepth 100000
namespace Go.Proofs.YtjdddnbddnhilaaDoor.relationOf
theorem fact0 : (Rows.relationOfRow.wf (OpenSpec.ofChange Rows.relationOfSpec)) = true := by kernel_rfl
theorem fact1 : (laidOutB Tryd.prog) = true := facts.fact1
theorem fact2 : (mapsRowed Tryd.prog) = true := facts.fact2
theorem fact3 : (Tryd.f3.params.all (Tryd.prog.readableRec ·)) = true := by kernel_rfl
theorem fact4 : (namedTie Tryd.prog Rows.relationOfRow.named Rows.relationOfSpec.vars) = true := by kernel_rfl
theorem fact5 : ((Rows.relationOfRow.stops == [])) = true := by kernel_rfl
theorem fact6 : ((Tryd.prog.stops == [])) = true := facts.fact6
theorem fact7 : ((Rows.relationOfRow.knobs == [])) = true := by kernel_rfl
theorem fact8 : ((Tryd.prog.stopKnobs == [])) = true := facts.fact8
theorem fact9 : ((Rows.relationOfRow.inPlace == Tryd.prog.inPlace 3)) = true := by kernel_rfl
theorem fact10 : ((Rows.relationOfRow.unfollowed == Tryd.prog.unfollowed 3)) = true := by kernel_rfl
theorem fact11 : ((Rows.relationOfRow.recurses == Tryd.prog.recurses 3)) = true := by kernel_rfl
theorem fact12 : ((Rows.relationOfRow.named == Tryd.prog.varsNamed 3)) = true := by kernel_rfl
theorem fact13 : ((Rows.relationOfRow.maps == (Tryd.f3.params.toList ++ Rows.relationOfSpec.plain.varTypes Tryd.prog).any (Tryd.prog.mapsRec ·))) = true := by kernel_rfl
theorem fact14 : ((Rows.relationOfRow.ifaces == (Tryd.f3.params.toList ++ Rows.relationOfSpec.plain.varTypes Tryd.prog).any (Tryd.prog.ifacesRec ·))) = true := by kernel_rfl
theorem fact15 : ((Rows.relationOfRow.mapsOut == Tryd.prog.mapsAmong Tryd.f3.resultTypes.toList)) = true := by kernel_rfl
theorem fact16 : ((Rows.relationOfRow.loops == (Tryd.f3.params.toList ++ Rows.relationOfSpec.plain.varTypes Tryd.prog).any (Tryd.prog.loopsFrom ·))) = true := by kernel_rfl
theorem fact17 : ((Rows.relationOfRow.wideKeys == (Tryd.f3.params.toList ++ Rows.relationOfSpec.plain.varTypes Tryd.prog ++ Tryd.f3.resultTypes.toList).any (Tryd.prog.wideKeysFrom ·))) = true := by kernel_rfl
theorem fact18 : (Rows.relationOfSpec.vars.all (Tryd.prog.varReadable ·)) = true := by kernel_rfl
theorem fact19 : (Tryd.f3.resultTypes.all (fun t => Tryd.prog.readableRec t && decide (t < Tryd.prog.types.size))) = true := by kernel_rfl
theorem fact20 : ((Rows.relationOfRow.ifacesOut == Tryd.f3.resultTypes.toList.any (Tryd.prog.ifacesRec ·))) = true := by kernel_rfl
theorem fact21 : ((Rows.relationOfRow.loopsOut == Tryd.f3.resultTypes.toList.any (Tryd.prog.loopsFrom ·))) = true := by kernel_rfl
theorem fact22 : ((Rows.relationOfRow.plainKeys == Tryd.prog.plainKeys)) = true := facts.fact22
theorem fact23 : (Rows.relationOfRow.shortTexts.isNone) = true := by kernel_rfl
theorem fact24 : (Tryd.prog.stopsHeard) = true := facts.fact24
theorem fact25 : (Tryd.prog.mayEnter) = true := facts.fact25
theorem fact26 : ((Rows.relationOfRow.lifted == Tryd.prog.liftsFinal)) = true := facts.fact26
theorem fact27 : ((Tryd.prog.make == some Rows.relationOfRow.make)) = true := facts.fact27
theorem fact28 : ((Rows.relationOfRow.kinds == (if Rows.relationOfRow.domain.isEmpty then [] else Tryd.f3.params.toList.map fun t => match Tryd.prog.underlying t with | some (.int k) => some k | _ => none))) = true := by kernel_rfl
theorem fact29 : ((Rows.relationOfRow.pinned == Rows.relationOfRow.pinnedBy)) = true := by kernel_rfl
theorem fact30 : ((Rows.relationOfRow.veiled == (Tryd.f3.params.toList ++ Rows.relationOfSpec.plain.varTypes Tryd.prog ++ Tryd.f3.resultTypes.toList).any (Tryd.prog.veiledRec ·))) = true := by kernel_rfl
theorem fact31 : (Rows.relationOfRow.veiledFits Tryd.prog Tryd.f3.params.toList (Tryd.f3.params.toList ++ Rows.relationOfSpec.plain.varTypes Tryd.prog ++ Tryd.f3.resultTypes.toList)) = true := by kernel_rfl
theorem and2 {a b : Bool} (h : a = true) (h' : b = true) : (a && b) = true := by rw [h, h']; rfl
theorem closed : joinedFacts Tryd.prog 3 Tryd.f3 Rows.relationOfSpec Rows.relationOfRow = true := by
  unfold joinedFacts
  exact (and2 (and2 (and2 (and2 (and2 (and2 (and2 (and2 (and2 (and2 (and2 (and2 (and2 (and2 (and2 (and2 (and2 (and2 (and2 (and2 (and2 (and2 (and2 (and2 (and2 (and2 (and2 (and2 (and2 (and2 (and2 fact0 fact1) fact2) fact3) fact4) fact5) fact6) fact7) fact8) fact9) fact10) fact11) fact12) fact13) fact14) fact15) fact16) fact17) fact18) fact19) fact20) fact21) fact22) fact23) fact24) fact25) fact26) fact27) fact28) fact29) fact30) fact31)
theorem named_ : Tryd.prog.funcNamed "tablefinder/tablefinderlaw29.RelationOf" = some 3 := by kernel_rfl
theorem inst_ : Tryd.f3.isInstance Tryd.prog Rows.relationOfRow.origin Rows.relationOfRow.targs := of_decide_eq_true (by kernel_rfl)
theorem wrap_ : Tryd.f3.isWrapper Tryd.prog Rows.relationOfRow.wrapper Rows.relationOfRow.mainSum := by unfold Func.isWrapper; first | (rw [if_pos (by decide +kernel)]; kernel_rfl) | (rw [if_neg (by decide +kernel)]; exact ⟨rfl, rfl⟩)
theorem wfText : Rows.relationOfRow.wfByText (OpenSpec.ofChange Rows.relationOfSpec) = true := by kernel_rfl
theorem mainIs_ : Tryd.prog.mainIs = some ((true, "fe002f48e3566b7bfabc7ef5f58aca63e3b1c8255176ac4aac7689c909d0d442").1, (true, "fe002f48e3566b7bfabc7ef5f58aca63e3b1c8255176ac4aac7689c909d0d442").2.toList) := facts.mainIs_
theorem goes_ : false = Rows.relationOfRow.goesBy Tryd.prog := by kernel_rfl
theorem looks_ : false = Tryd.prog.looks [] := facts.looks_
theorem stand_ : ([24, 24, 25, 3, 3].all fun u => !Tryd.prog.wantsStandIn u) = true := by kernel_rfl
end Go.Proofs.YtjdddnbddnhilaaDoor.relationOf

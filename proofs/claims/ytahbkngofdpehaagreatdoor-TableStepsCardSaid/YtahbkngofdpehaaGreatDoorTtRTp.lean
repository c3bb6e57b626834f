/- Tables: which are valid: the program. -/
import Derived.Test.YtahbkngofdpehaaGreatDoorTtRT0
set_option linter.unusedVariables false
set_option linter.unusedSimpArgs false
set_option linter.unusedSectionVars false
namespace Go.Proofs
open Go Eng
theorem fine_eq (s : Str) : s_table_fine s = some (fineS s) := by
  unfold s_table_fine s_table_fine_j1 s_text_Valid fineS
  by_cases h : (s.length : Int) ≤ 1024
  · rw [decide_eq_true h, valid_eq s (by omega)]; rfl
  · rw [decide_eq_false h]; rfl
theorem cell_eq (c : G_api_Cell) : s_table_ValidCell c = some (cellS c) := by
  unfold s_table_ValidCell s_table_ValidCell_j1 cellS
  rw [fine_eq]
  cases fineS c.Text <;> cases c.Null <;> simp
theorem every_eq (l : List G_api_Cell) (hl : l.length ≤ 1000000000000) : s_table_every_api_Cell l = some (l.all cellS) := by
  refine eq_of_wp ?_
  unfold s_table_every_api_Cell s_table_every_api_Cell_k1
  rw [wp_bind]
  refine wp_mono (all_loop (f := fun n i => s_table_every_api_Cell_l1 n l (l.length : Int) i) (body := fun rec i => s_table_every_api_Cell_l1_b (fun _ _ i => rec i) l (l.length : Int) i) l cellS false (fun n i => rfl) hl (fun rec i h Q h0 h1 => ?_) (fun rec Q h0 => ?_)) ?_
  · unfold s_table_every_api_Cell_l1_b
    simp only [wp_bif, wp_bind, wp_idx, wp_chk, wp_some, cell_eq, decide_eq_true_eq, decide_eq_false_iff_not, Int.toNat_natCast, Bool.not_eq_true', Bool.not_eq_false']
    exact ⟨fun _ => ⟨by omega, h, h0, fun hc => ⟨inK_i64 (by omega), h1 hc⟩⟩, fun hc => absurd (by omega) hc⟩
  · unfold s_table_every_api_Cell_l1_b
    simp only [wp_bif, wp_some, decide_eq_true_eq, decide_eq_false_iff_not]
    exact ⟨fun hc => absurd hc (by omega), fun _ => h0⟩
  · rintro r rfl
    cases l.all cellS <;> simp [wp_some]

theorem rows_eq (t : G_api_Table) : s_table_Rows t = some (rowsS t) := by
  unfold s_table_Rows rowsS
  cases t.Columns with
  | nil => rfl
  | cons c l =>
    have : (((c :: l).length : Int) == 0) = false := by
      rw [List.length_cons, beq_eq_false_iff_ne]; omega
    rw [this]; rfl
theorem col_eq (c : G_api_Column) (t : G_api_Table) (hc : c.Cells.length ≤ 1000000000000) : s_table_Valid_1 c t = some (!colS (rowsS t) c) := by
  unfold s_table_Valid_1 s_table_Valid_1_j1 colS
  rw [fine_eq, rows_eq, every_eq _ hc]
  cases fineS c.Name
  · rfl
  · simp only [Option.bind_some, Bool.not_true, cond_false, bne, Bool.true_and]
    cases (c.Cells.length : Int) == rowsS t <;> rfl

theorem index_eq (l : List G_api_Column) (t : G_api_Table) (hl : l.length ≤ 1000000000000) (hc : ∀ c ∈ l, c.Cells.length ≤ 1000000000000) : s_slices_ContainsFunc_api_Column_api_Column l t = some (!l.all (colS (rowsS t))) := by
  refine eq_of_wp ?_
  unfold s_slices_ContainsFunc_api_Column_api_Column s_slices_IndexFunc_api_Column_api_Column s_slices_IndexFunc_api_Column_api_Column_k1
  rw [wp_bind, wp_bind]
  refine wp_mono (loop_wp (f := fun n i => s_slices_IndexFunc_api_Column_api_Column_l1 n l t (l.length : Int) i) (body := fun rec i => s_slices_IndexFunc_api_Column_api_Column_l1_b (fun _ _ _ i => rec i) l t (l.length : Int) i) (fun n i => rfl)
    (fun i => ∃ k : Nat, k ≤ l.length ∧ i = (k : Int) ∧ (l.take k).all (colS (rowsS t)) = true) (fun i => l.length - i.toNat)
    (fun r => (r = .brk () ∧ l.all (colS (rowsS t)) = true) ∨ ∃ k : Nat, r = .ret (k : Int) ∧ l.all (colS (rowsS t)) = false) ?_ big 0 ⟨0, Nat.zero_le _, rfl, by simp⟩ (big_lt (by omega))) ?_
  · rintro rec i ⟨k, hk, rfl, hp⟩ ih
    unfold s_slices_IndexFunc_api_Column_api_Column_l1_b
    rw [wp_bif]
    refine ⟨fun h => ?_, fun h => ?_⟩
    · simp only [decide_eq_true_eq] at h
      have hlt : k < l.length := by omega
      rw [wp_bind, wp_idx]
      refine ⟨by omega, by omega, ?_⟩
      simp only [Int.toNat_natCast]
      rw [col_eq _ _ (hc _ (List.getElem_mem _)), wp_bind, wp_some, wp_bif, wp_some, wp_chk]
      refine ⟨fun h1 => .inr ⟨k, rfl, ?_⟩, fun h1 => ⟨inK_i64 (by omega), ih _ ⟨k + 1, by omega, by omega, ?_⟩ (by omega)⟩⟩
      · simp only [Bool.not_eq_true'] at h1
        exact List.all_eq_false.2 ⟨l[k], List.getElem_mem _, by rw [h1]; simp⟩
      · simp only [Bool.not_eq_false'] at h1
        rw [List.take_succ_eq_append_getElem hlt, List.all_append, hp]; simp [h1]
    · simp only [decide_eq_false_iff_not] at h
      have : k = l.length := by omega
      subst this
      rw [List.take_length] at hp
      rw [wp_some]; exact .inl ⟨rfl, hp⟩
  · rintro r (⟨rfl, h⟩ | ⟨k, rfl, h⟩)
    · simp only [wp_some, h]; rfl
    · simp only [wp_some, h, Bool.not_false, decide_eq_true_eq]; omega

theorem table_eq (t : G_api_Table) (hl : t.Columns.length ≤ 1000000000000) (hc : ∀ c ∈ t.Columns, c.Cells.length ≤ 1000000000000) : s_table_Valid t = some (tableS t) := by
  unfold s_table_Valid s_table_Valid_j1 tableS
  rw [fine_eq, rows_eq, index_eq _ _ hl hc]
  simp only [Option.bind_some]
  by_cases h1 : t.ID < 0
  · simp [h1]; omega
  by_cases h2 : t.ID > 1073741824
  · simp [h1, h2]; omega
  cases h3 : fineS t.Name
  · simp [h1, h2]
  by_cases h4 : (t.Columns.length : Int) > 64
  · simp [h1, h2, h4]; omega
  by_cases h5 : rowsS t > 4096
  · simp [h1, h2, h4, h5]; omega
  have e1 : 0 ≤ t.ID := by omega
  have e2 : t.ID ≤ 1073741824 := by omega
  have e4 : (t.Columns.length : Int) ≤ 64 := by omega
  have e5 : rowsS t ≤ 4096 := by omega
  rw [decide_eq_false h1, decide_eq_false h2, decide_eq_false h4, decide_eq_false h5, decide_eq_true e1, decide_eq_true e2, decide_eq_true e4, decide_eq_true e5]
  simp


end Go.Proofs

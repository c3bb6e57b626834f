/- The mill's tables are valid; the same. -/
import Derived.Test.YtahbkngofdpehaaDoorTsTM2b
set_option linter.unusedVariables false
set_option linter.unusedSimpArgs false
set_option linter.unusedSectionVars false
namespace Go.Proofs
open Go Eng

def rowsT (t : G_api_Table) : Int := match t.Columns with | [] => 0 | c :: _ => (c.Cells.length : Int)
theorem rows_eq (t : G_api_Table) : s_table_Rows t = some (rowsT t) := by
  unfold s_table_Rows rowsT
  cases t.Columns with
  | nil => rfl
  | cons c l =>
    have : (((c :: l).length : Int) == 0) = false := by
      rw [List.length_cons, beq_eq_false_iff_ne]; omega
    rw [this]; rfl

theorem fine_all : (mtexts.all fun s => s_table_fine s == some true) = true := by kernel_rfl
theorem fine_eq {s : Str} (h : s ∈ mtexts) : s_table_fine s = some true := beq_iff_eq.1 (List.all_eq_true.1 fine_all s h)
theorem validCell_eq {c : G_api_Cell} (h : CellM c) : s_table_ValidCell c = some true := by
  unfold s_table_ValidCell s_table_ValidCell_j1
  rw [fine_eq h.1, Option.bind_some, cond_true]
  cases hn : c.Null with
  | true => rw [h.2 hn]; rfl
  | false => rfl

theorem every_eq (l : List G_api_Cell) (hl : l.length ≤ 1000000) (h : ∀ c ∈ l, CellM c) : s_table_every_api_Cell l = some true := by
  refine eq_of_wp ?_
  unfold s_table_every_api_Cell s_table_every_api_Cell_k1
  rw [wp_bind]
  refine wp_mono (forS_wp s_table_every_api_Cell_l1_FB l (by omega) (fun k (_ : Unit) => (l, (l.length : Int), k)) (fun _ _ => True) (Q := fun x => x = .brk ()) () trivial (fun rec k _ hlt _ ih => ?_) (fun rec _ _ => ?_)) ?_
  · unfold s_table_every_api_Cell_l1_B s_table_every_api_Cell_l1_b
    dsimp only
    rw [wp_bif]
    refine ⟨fun _ => ?_, fun h => by simp only [decide_eq_false_iff_not] at h; omega⟩
    rw [wp_bind, idx_nat hlt, wp_some, validCell_eq (h _ (List.getElem_mem hlt)), wp_bind, wp_some, Bool.not_true, cond_false, wp_chk]
    exact ⟨inK_i64 (by omega), ih () trivial⟩
  · unfold s_table_every_api_Cell_l1_B s_table_every_api_Cell_l1_b
    dsimp only
    rw [wp_bif]
    exact ⟨fun h => by simp only [decide_eq_true_eq] at h; omega, fun _ => by rw [wp_some]⟩
  · rintro x rfl
    dsimp only; rw [wp_some]

theorem rowsT_of {n : Nat} {t : G_api_Table} (h : ∀ c ∈ t.Columns, ColM n c) : (t.Columns = [] ∧ rowsT t = 0) ∨ rowsT t = (n : Int) := by
  unfold rowsT
  cases hc : t.Columns with
  | nil => exact .inl ⟨rfl, rfl⟩
  | cons c l => exact .inr (by dsimp only; rw [(h c (by rw [hc]; exact List.mem_cons_self)).2.1])

theorem valid_eq {m r : Nat} {t : G_api_Table} (h : TabM m r t) (hm : m ≤ 64) (hr : r ≤ 4096) (hid : 0 ≤ t.ID ∧ t.ID ≤ 1000) : s_table_Valid t = some true := by
  obtain ⟨hn, hc, n, hnr, hcols⟩ := h
  have hrow := rowsT_of hcols
  have v1 : ∀ c ∈ t.Columns, s_table_Valid_1 c t = some false := fun c hcm => by
    have hcc := hcols c hcm
    have hrn : rowsT t = (n : Int) := by
      rcases hrow with ⟨h0, _⟩ | h0
      · rw [h0] at hcm; cases hcm
      · exact h0
    unfold s_table_Valid_1 s_table_Valid_1_j1
    rw [fine_eq hcc.1, Option.bind_some, Bool.not_true, cond_false, rows_eq, Option.bind_some, hrn, hcc.2.1, bne_self_eq_false, cond_false, every_eq _ (by have := hcc.2.1; omega) hcc.2.2]
    rfl
  have hi : s_slices_IndexFunc_api_Column_api_Column t.Columns t = some (-1) := by
    refine eq_of_wp ?_
    unfold s_slices_IndexFunc_api_Column_api_Column s_slices_IndexFunc_api_Column_api_Column_k1
    rw [wp_bind]
    refine wp_mono (forS_wp s_slices_IndexFunc_api_Column_api_Column_l1_FB t.Columns (by omega) (fun k (_ : Unit) => (t.Columns, t, (t.Columns.length : Int), k)) (fun _ _ => True) (Q := fun x => x = .brk ()) () trivial (fun rec k _ hlt _ ih => ?_) (fun rec _ _ => ?_)) ?_
    · unfold s_slices_IndexFunc_api_Column_api_Column_l1_B s_slices_IndexFunc_api_Column_api_Column_l1_b
      dsimp only
      rw [wp_bif]
      refine ⟨fun _ => ?_, fun h => by simp only [decide_eq_false_iff_not] at h; omega⟩
      rw [wp_bind, idx_nat hlt, wp_some, v1 _ (List.getElem_mem hlt), wp_bind, wp_some, cond_false, wp_chk]
      exact ⟨inK_i64 (by omega), ih () trivial⟩
    · unfold s_slices_IndexFunc_api_Column_api_Column_l1_B s_slices_IndexFunc_api_Column_api_Column_l1_b
      dsimp only
      rw [wp_bif]
      exact ⟨fun h => by simp only [decide_eq_true_eq] at h; omega, fun _ => by rw [wp_some]⟩
    · rintro x rfl
      dsimp only; rw [wp_some]
  have hrl : rowsT t ≤ 4096 := by rcases hrow with ⟨_, h0⟩ | h0 <;> omega
  unfold s_table_Valid s_table_Valid_j1 s_slices_ContainsFunc_api_Column_api_Column
  rw [decide_eq_false (by omega : ¬ t.ID < 0), cond_false, decide_eq_false (by omega : ¬ t.ID > 1073741824), cond_false, fine_eq hn, Option.bind_some, Bool.not_true, cond_false, decide_eq_false (by omega : ¬ (t.Columns.length : Int) > 64), cond_false, rows_eq, Option.bind_some, decide_eq_false (by omega : ¬ rowsT t > 4096), cond_false, hi]
  rfl

theorem within_eq (l : List Int) (hl : l.length ≤ 1000000) (n : Int) (h : ∀ k ∈ l, 0 ≤ k ∧ k < n) : s_table_within l n = some true := by
  refine eq_of_wp ?_
  unfold s_table_within s_table_every_int s_table_every_int_k1
  rw [wp_bind, wp_bind]
  refine wp_mono (forS_wp s_table_every_int_l1_FB l (by omega) (fun k (_ : Unit) => (n, l, (l.length : Int), k)) (fun _ _ => True) (Q := fun x => x = .brk ()) () trivial (fun rec k _ hlt _ ih => ?_) (fun rec _ _ => ?_)) ?_
  · have hk := h _ (List.getElem_mem hlt)
    unfold s_table_every_int_l1_B s_table_every_int_l1_b s_table_within_1 s_table_within_1_j1
    dsimp only
    rw [wp_bif]
    refine ⟨fun _ => ?_, fun h => by simp only [decide_eq_false_iff_not] at h; omega⟩
    rw [wp_bind, idx_nat hlt, wp_some, wp_bind, decide_eq_true (by omega : l[k] ≥ 0), cond_true, wp_some, decide_eq_true hk.2, Bool.not_true, cond_false, wp_chk]
    exact ⟨inK_i64 (by omega), ih () trivial⟩
  · unfold s_table_every_int_l1_B s_table_every_int_l1_b
    dsimp only
    rw [wp_bif]
    exact ⟨fun h => by simp only [decide_eq_true_eq] at h; omega, fun _ => by rw [wp_some]⟩
  · rintro x rfl
    dsimp only; rw [wp_some, wp_some]

theorem cellsSame (l : List G_api_Cell) (hl : l.length ≤ 1000000) : s_slices_Equal_api_Cell_api_Cell l l = some true := by
  refine eq_of_wp ?_
  unfold s_slices_Equal_api_Cell_api_Cell s_slices_Equal_api_Cell_api_Cell_k1
  rw [bne_self_eq_false, cond_false, wp_bind]
  refine wp_mono (forS_wp s_slices_Equal_api_Cell_api_Cell_l1_FB l (by omega) (fun k (_ : Unit) => (l, l, (l.length : Int), k)) (fun _ _ => True) (Q := fun x => x = .brk ()) () trivial (fun rec k _ hlt _ ih => ?_) (fun rec _ _ => ?_)) ?_
  · unfold s_slices_Equal_api_Cell_api_Cell_l1_B s_slices_Equal_api_Cell_api_Cell_l1_b
    dsimp only
    rw [wp_bif]
    refine ⟨fun _ => ?_, fun h => by simp only [decide_eq_false_iff_not] at h; omega⟩
    rw [wp_bind, idx_nat hlt, wp_some, wp_bind, wp_some, wp_bif]
    refine ⟨fun h => by simp at h, fun _ => ?_⟩
    rw [wp_chk]
    exact ⟨inK_i64 (by omega), ih () trivial⟩
  · unfold s_slices_Equal_api_Cell_api_Cell_l1_B s_slices_Equal_api_Cell_api_Cell_l1_b
    dsimp only
    rw [wp_bif]
    exact ⟨fun h => by simp only [decide_eq_true_eq] at h; omega, fun _ => by rw [wp_some]⟩
  · rintro x rfl
    dsimp only; rw [wp_some]

theorem colsSame (l : List G_api_Column) (hl : l.length ≤ 1000000) (hc : ∀ c ∈ l, c.Cells.length ≤ 1000000) : s_slices_EqualFunc_api_Column_api_Column_api_Column_api_Column l l = some true := by
  refine eq_of_wp ?_
  unfold s_slices_EqualFunc_api_Column_api_Column_api_Column_api_Column s_slices_EqualFunc_api_Column_api_Column_api_Column_api_Column_k1
  rw [bne_self_eq_false, cond_false, wp_bind]
  refine wp_mono (forS_wp s_slices_EqualFunc_api_Column_api_Column_api_Column_api_Column_l1_FB l (by omega) (fun k (_ : Unit) => (l, l, (l.length : Int), k)) (fun _ _ => True) (Q := fun x => x = .brk ()) () trivial (fun rec k _ hlt _ ih => ?_) (fun rec _ _ => ?_)) ?_
  · unfold s_slices_EqualFunc_api_Column_api_Column_api_Column_api_Column_l1_B s_slices_EqualFunc_api_Column_api_Column_api_Column_api_Column_l1_b s_table_Same_1 s_table_Same_1_j1
    dsimp only
    rw [wp_bif]
    refine ⟨fun _ => ?_, fun h => by simp only [decide_eq_false_iff_not] at h; omega⟩
    rw [wp_bind, idx_nat hlt, wp_some, wp_bind, wp_some, beq_self_eq_true, cond_true, cellsSame _ (hc _ (List.getElem_mem hlt)), wp_bind, Option.bind_some, wp_some, Bool.not_true, cond_false, wp_chk]
    exact ⟨inK_i64 (by omega), ih () trivial⟩
  · unfold s_slices_EqualFunc_api_Column_api_Column_api_Column_api_Column_l1_B s_slices_EqualFunc_api_Column_api_Column_api_Column_api_Column_l1_b
    dsimp only
    rw [wp_bif]
    exact ⟨fun h => by simp only [decide_eq_true_eq] at h; omega, fun _ => by rw [wp_some]⟩
  · rintro x rfl
    dsimp only; rw [wp_some]

theorem same_eq {m r : Nat} {t : G_api_Table} (h : TabM m r t) (hm : m ≤ 64) (hr : r ≤ 4096) : s_table_Same t t = some true := by
  obtain ⟨hn, hc, n, hnr, hcols⟩ := h
  unfold s_table_Same s_table_Same_j1
  rw [beq_self_eq_true, cond_true, beq_self_eq_true, cond_true, colsSame _ (by omega) (fun c hc => by have := (hcols c hc).2.1; omega)]
  rfl
end Go.Proofs

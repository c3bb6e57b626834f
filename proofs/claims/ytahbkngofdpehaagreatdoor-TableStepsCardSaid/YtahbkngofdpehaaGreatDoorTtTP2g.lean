/- Rows and columns are chosen. -/
import Derived.Test.YtahbkngofdpehaaGreatDoorTtTS1
set_option linter.unusedVariables false
set_option linter.unusedSimpArgs false
set_option linter.unusedSectionVars false
namespace Go.Proofs
open Go Eng

def pickC (rows : List Int) (c : G_api_Column) : G_api_Column := ⟨c.Name, rows.map fun k => c.Cells.getD k.toNat default⟩
def selT (t : G_api_Table) (rows : List Int) : G_api_Table := ⟨t.ID, t.Name, t.Columns.map (pickC rows)⟩
def projT (t : G_api_Table) (cols : List Int) : G_api_Table := ⟨t.ID, t.Name, cols.map fun k => t.Columns.getD k.toNat default⟩

theorem getD_lt {α : Type} (l : List α) (d : α) {i : Nat} (h : i < l.length) : l.getD i d = l[i] := by
  rw [List.getD_eq_getElem?_getD, List.getElem?_eq_getElem h, Option.getD_some]

theorem select1_eq {m r : Nat} {t : G_api_Table} (h : TabG m r t) {rows : List Int} (hl : rows.length ≤ 1000) (hk : ∀ k ∈ rows, 0 ≤ k ∧ k < rowsS t) {i : Nat} (hi : i < t.Columns.length) : s_table_Select_1 (i : Int) t rows = some (pickC rows t.Columns[i]) := by
  refine eq_of_wp ?_
  obtain ⟨hn, hc, n, hnr, hcols⟩ := h
  have hci := hcols _ (List.getElem_mem hi)
  have hrow : rowsS t = (n : Int) := by
    rcases rowsS_of hcols with ⟨h1, _⟩ | h1
    · rw [h1] at hi; exact absurd hi (Nat.not_lt_zero _)
    · exact h1
  unfold s_table_Select_1
  rw [wp_bind, idx_nat hi, wp_some, wp_bind]
  refine wp_mono (forS_wp s_table_Select_1_l1_FB rows (by omega) (fun k (o : List G_api_Cell) => ((i : Int), t, rows, (rows.length : Int), k, [], t.Columns[i].Name, [], o)) (fun k o => o = (rows.take k).map fun k => t.Columns[i].Cells.getD k.toNat default)
    (Q := fun x => x = ([], t.Columns[i].Name, [], rows.map fun k => t.Columns[i].Cells.getD k.toNat default)) [] rfl (fun rec k o hlt hP ih => ?_) (fun rec o hP => ?_)) ?_
  · subst hP
    have hkk := hk _ (List.getElem_mem hlt)
    have hlt2 : rows[k].toNat < t.Columns[i].Cells.length := by rw [hci.2.1]; omega
    unfold s_table_Select_1_l1_B s_table_Select_1_l1_b
    dsimp only
    rw [wp_bif]
    refine ⟨fun _ => ?_, fun h => by simp only [decide_eq_false_iff_not] at h; omega⟩
    rw [wp_bind, idx_nat hlt, wp_some, wp_bind, idx_nat hi, wp_some, wp_bind, idx_some hkk.1 hlt2, wp_some, wp_chk, wp_chk]
    refine ⟨room_ok (by simp only [List.length_map, List.length_take, List.length_singleton]; omega), inK_i64 (by omega), ih _ ?_⟩
    rw [List.take_succ_eq_append_getElem hlt, List.map_append, List.map_cons, List.map_nil, getD_lt _ _ hlt2]
  · subst hP
    rw [List.take_length]
    unfold s_table_Select_1_l1_B s_table_Select_1_l1_b
    dsimp only
    rw [wp_bif]
    exact ⟨fun h => by simp only [decide_eq_true_eq] at h; omega, fun _ => by rw [wp_some]⟩
  · rintro x rfl
    dsimp only
    unfold s_table_Select_1_k1
    rw [wp_some]
    rfl

theorem select_eq {m r : Nat} {t : G_api_Table} (h : TabG m r t) (hm : m ≤ 64) (hr : r ≤ 4096) (hid : True) {rows : List Int} (hl : rows.length ≤ 1000) (hk : ∀ k ∈ rows, 0 ≤ k ∧ k < rowsS t) : s_table_Select t rows = some (selT t rows, 0) := by
  refine eq_of_wp ?_
  have hc := h.2.1
  unfold s_table_Select
  rw [tvalid_eq h hm hr hid, wp_bind, wp_some, Bool.not_true, cond_false, rows_eq, wp_bind, wp_some, within_eq rows (by omega) _ hk, wp_bind, wp_some, Bool.not_true, cond_false, decide_eq_false (by omega : ¬ (rows.length : Int) > 4096), cond_false]
  unfold s_table_with s_table_with_k1
  rw [wp_bind, wp_bind]
  refine wp_mono (uptoS_wp s_table_with_l1_FB t.Columns.length (by omega) (fun k (o : List G_api_Column) => (t, rows, (t.Columns.length : Int), k, 0, [], t.ID, t.Name, [], o)) (fun k o => o = (t.Columns.take k).map (pickC rows))
    (Q := fun x => x = (0, [], t.ID, t.Name, [], t.Columns.map (pickC rows))) [] rfl (fun rec k o hlt hP ih => ?_) (fun rec o hP => ?_)) ?_
  · subst hP
    unfold s_table_with_l1_B s_table_with_l1_b
    dsimp only
    rw [wp_bif]
    refine ⟨fun _ => ?_, fun h => by simp only [decide_eq_false_iff_not] at h; omega⟩
    rw [select1_eq h hl hk hlt, wp_bind, wp_some, wp_chk, wp_chk]
    refine ⟨room_ok (by simp only [List.length_map, List.length_take, List.length_singleton]; omega), inK_i64 (by omega), ih _ ?_⟩
    rw [List.take_succ_eq_append_getElem hlt, List.map_append, List.map_cons, List.map_nil]
  · subst hP
    rw [List.take_length]
    unfold s_table_with_l1_B s_table_with_l1_b
    dsimp only
    rw [wp_bif]
    exact ⟨fun h => by simp only [decide_eq_true_eq] at h; omega, fun _ => by rw [wp_some]⟩
  · rintro x rfl
    dsimp only
    rw [wp_some, wp_some]
    rfl

end Go.Proofs

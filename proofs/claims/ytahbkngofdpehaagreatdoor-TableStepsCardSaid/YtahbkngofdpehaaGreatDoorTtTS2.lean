/- Both programs' Project, Select, Row, on any table. -/
import Derived.Test.YtahbkngofdpehaaGreatDoorTtTQ5g
import Derived.Test.YtahbkngofdpehaaGreatDoorTtTM3s
set_option linter.unusedVariables false
set_option linter.unusedSimpArgs false
set_option linter.unusedSectionVars false
namespace Go.Proofs
open Go Eng

def zT : G_api_Table := ⟨0, [], []⟩
/-- A valid table of few cells. -/
structure GT (x : G_api_Table) (n : Nat) : Prop where
  tab : TabG 64 7 x
  rows : rowsS x = (n : Int)
  cols : ∀ c ∈ x.Columns, ColG n c
  few : n ≤ 7
  txt : TextsOk x
theorem GT.ok {x : G_api_Table} {n : Nat} (h : GT x n) : tableS x = true := h.tab.1
theorem GT.len {x : G_api_Table} {n : Nat} (h : GT x n) : x.Columns.length ≤ 64 := h.tab.2.1
theorem GT.valid {x : G_api_Table} {n : Nat} (h : GT x n) : s_table_Valid x = some true := tvalid_eq h.tab (by omega) (by omega) trivial
theorem GT.rvalid {x : G_api_Table} {n : Nat} (h : GT x n) : s_tablefinderref03_Valid x = some true := by
  rw [rtable_eq x h.txt (by have := h.len; omega), h.ok]
theorem GT.mk' {x : G_api_Table} (h1 : tableS x = true) (h2 : x.Columns.length ≤ 64) {n : Nat} (hn : n ≤ 7) (hc : ∀ c ∈ x.Columns, ColG n c) (ht : TextsOk x) : ∃ n, GT x n := by
  rcases rowsS_of hc with ⟨h0, h3⟩ | h3
  · exact ⟨0, ⟨h1, h2, n, hn, hc⟩, by simpa using h3, by rw [h0]; simp, by omega, ht⟩
  · exact ⟨n, ⟨h1, h2, n, hn, hc⟩, h3, hc, hn, ht⟩

theorem column_eq (c : G_api_Column) (hc : c.Cells.length ≤ 1000000) : s_table_column c = some c := by
  unfold s_table_column
  rw [clone_eq _ hc, Option.bind_some]
theorem select_all {x : G_api_Table} {n : Nat} (h : GT x n) {rows : List Int} (hl : rows.length ≤ 1000) : s_table_Select x rows = some (if inB n rows then (selT x rows, 0) else (zT, 2)) := by
  cases hb : inB n rows with
  | true => rw [if_pos rfl]; exact select_eq h.tab (by omega) (by omega) trivial hl (fun k hk => by rw [h.rows]; exact inB_iff.1 hb k hk)
  | false =>
    unfold s_table_Select
    rw [h.valid, Option.bind_some, Bool.not_true, cond_false, rows_eq, Option.bind_some, h.rows, withinB_eq rows (by omega), hb, Option.bind_some, Bool.not_false, cond_true, if_neg Bool.false_ne_true]; rfl
theorem project_all {x : G_api_Table} {n : Nat} (h : GT x n) {cols : List Int} (hl : cols.length ≤ 64) : s_table_Project x cols = some (if inB x.Columns.length cols then (projT x cols, 0) else (zT, 2)) := by
  unfold s_table_Project
  rw [h.valid, Option.bind_some, Bool.not_true, cond_false, withinB_eq cols (by omega), Option.bind_some]
  cases hb : inB x.Columns.length cols with
  | false => rw [Bool.not_false, cond_true, if_neg Bool.false_ne_true]; rfl
  | true =>
    have hk := inB_iff.1 hb
    rw [Bool.not_true, cond_false, decide_eq_false (by omega : ¬ (cols.length : Int) > 64), cond_false, if_pos rfl]
    refine eq_of_wp ?_
    unfold s_table_with_2 s_table_with_2_k1
    rw [wp_bind, wp_bind]
    refine wp_mono (uptoS_wp s_table_with_2_l1_FB cols.length (by omega) (fun k (o : List G_api_Column) => (x, cols, (cols.length : Int), k, 0, [], x.ID, x.Name, [], o)) (fun k o => o = (cols.take k).map fun k => x.Columns.getD k.toNat default)
      (Q := fun y => y = (0, [], x.ID, x.Name, [], cols.map fun k => x.Columns.getD k.toNat default)) [] rfl (fun rec k o hlt hP ih => ?_) (fun rec o hP => ?_)) ?_
    · subst hP
      have hkk := hk _ (List.getElem_mem hlt)
      have hlt2 : cols[k].toNat < x.Columns.length := by omega
      have hcl := (h.cols _ (List.getElem_mem hlt2)).2.1
      have := h.few
      unfold s_table_with_2_l1_B s_table_with_2_l1_b s_table_Project_1
      dsimp only
      rw [wp_bif]
      refine ⟨fun _ => ?_, fun h => by simp only [decide_eq_false_iff_not] at h; omega⟩
      rw [idx_nat hlt, Option.bind_some, idx_some hkk.1 hlt2, Option.bind_some, column_eq _ (by omega), Option.bind_some, wp_bind, wp_some, wp_chk, wp_chk]
      refine ⟨room_ok (by simp only [List.length_map, List.length_take, List.length_singleton]; omega), inK_i64 (by omega), ih _ ?_⟩
      rw [List.take_succ_eq_append_getElem hlt, List.map_append, List.map_cons, List.map_nil, getD_lt _ _ hlt2]
    · subst hP
      rw [List.take_length]
      unfold s_table_with_2_l1_B s_table_with_2_l1_b
      dsimp only
      rw [wp_bif]
      exact ⟨fun h => by simp only [decide_eq_true_eq] at h; omega, fun _ => by rw [wp_some]⟩
    · rintro y rfl
      dsimp only
      rw [wp_some, wp_some]
      rfl

/-! ## The document's -/

theorem rproject_all {x : G_api_Table} {n : Nat} (h : GT x n) {cols : List Int} (hl : cols.length ≤ 64) : s_tablefinderref03_Project x cols = some (if inB x.Columns.length cols then (projT x cols, 0) else (zT, 2)) := by
  refine eq_of_wp ?_
  unfold s_tablefinderref03_Project
  rw [h.rvalid, wp_bind, wp_some, Bool.not_true, cond_false, wp_bind]
  have hlen := h.len
  refine wp_mono (forS_wp s_tablefinderref03_Project_l1_FB cols (by omega) (fun k (o : List G_api_Column) => (cols, cols, (cols.length : Int), k, x, 0, [], x.ID, x.Name, [], o)) (fun k o => o = (cols.take k).map (fun k => x.Columns.getD k.toNat default) ∧ inB x.Columns.length (cols.take k) = true)
    (Q := fun y => y = if inB x.Columns.length cols then .brk (cols, 0, [], x.ID, x.Name, [], cols.map fun k => x.Columns.getD k.toNat default) else .ret (zT, 2)) [] ⟨rfl, rfl⟩ (fun rec k o hlt hP ih => ?_) (fun rec o hP => ?_)) ?_
  · obtain ⟨rfl, hb⟩ := hP
    have es : inB x.Columns.length (cols.take (k + 1)) = (decide (0 ≤ cols[k]) && decide (cols[k] < (x.Columns.length : Int))) := by
      unfold inB at hb ⊢
      rw [List.take_succ_eq_append_getElem hlt, List.all_append, hb]; simp
    have bad : (decide (0 ≤ cols[k]) && decide (cols[k] < (x.Columns.length : Int))) = false → inB x.Columns.length cols = false := fun hf => by
      unfold inB
      exact List.all_eq_false.2 ⟨cols[k], List.getElem_mem _, by rw [hf]; simp⟩
    have stop : (decide (0 ≤ cols[k]) && decide (cols[k] < (x.Columns.length : Int))) = false → wp (s_tablefinderref03_Project_j1 (fun columns t18 t19 t20 t t4 t4_1 out out_1 t4_2 out_2 => rec (columns, t18, t19, t20, t, t4, t4_1, out, out_1, t4_2, out_2)) cols cols[k] cols (cols.length : Int) (k : Int) true x 0 [] x.ID x.Name [] ((cols.take k).map (fun k => x.Columns.getD k.toNat default))) (fun y => y = if inB x.Columns.length cols then .brk (cols, 0, [], x.ID, x.Name, [], cols.map fun k => x.Columns.getD k.toNat default) else .ret (zT, 2)) := fun hf => by
      unfold s_tablefinderref03_Project_j1
      rw [cond_true, wp_some, bad hf]; rfl
    unfold s_tablefinderref03_Project_l1_B s_tablefinderref03_Project_l1_b
    dsimp only
    rw [wp_bif]
    refine ⟨fun _ => ?_, fun h => by simp only [decide_eq_false_iff_not] at h; omega⟩
    rw [idx_nat hlt, wp_bind, wp_some, wp_bif]
    refine ⟨fun h0 => stop ?_, fun h0 => ?_⟩
    · have := of_decide_eq_true h0
      rw [decide_eq_false (by omega : ¬ 0 ≤ cols[k]), Bool.false_and]
    · have h0 := of_decide_eq_false h0
      by_cases h1 : cols[k] < (x.Columns.length : Int)
      · have hlt2 : cols[k].toNat < x.Columns.length := by omega
        rw [decide_eq_false (by omega : ¬ cols[k] ≥ (x.Columns.length : Int))]
        unfold s_tablefinderref03_Project_j1
        rw [cond_false, idx_some (by omega) hlt2, wp_bind, wp_some, wp_chk, wp_chk]
        refine ⟨room_ok (by simp only [List.length_map, List.length_take, List.length_singleton]; omega), inK_i64 (by omega), ih _ ⟨?_, ?_⟩⟩
        · rw [List.take_succ_eq_append_getElem hlt, List.map_append, List.map_cons, List.map_nil, getD_lt _ _ hlt2]
        · rw [es, decide_eq_true (by omega : 0 ≤ cols[k]), decide_eq_true h1]; rfl
      · rw [decide_eq_true (by omega : cols[k] ≥ (x.Columns.length : Int))]
        refine stop ?_
        rw [decide_eq_false h1, Bool.and_false]
  · obtain ⟨rfl, hb⟩ := hP
    rw [List.take_length] at hb ⊢
    unfold s_tablefinderref03_Project_l1_B s_tablefinderref03_Project_l1_b
    dsimp only
    rw [wp_bif]
    refine ⟨fun h => by simp only [decide_eq_true_eq] at h; omega, fun _ => ?_⟩
    rw [wp_some, hb]; rfl
  · rintro y rfl
    cases inB x.Columns.length cols with
    | false => exact wp_some.2 rfl
    | true =>
      show wp (s_tablefinderref03_Project_k2 _ _ _ _ _ _ _) _
      unfold s_tablefinderref03_Project_k2
      rw [decide_eq_false (by omega), cond_false, wp_some]; rfl

theorem rselect_all {x : G_api_Table} {n : Nat} (h : GT x n) {rows : List Int} (hl : rows.length ≤ 1000) : s_tablefinderref03_Select x rows = some (if inB n rows then (selT x rows, 0) else (zT, 2)) := by
  refine eq_of_wp ?_
  have hlen := h.len
  have hfew := h.few
  unfold s_tablefinderref03_Select
  rw [h.rvalid, wp_bind, wp_some, Bool.not_true, cond_false, wp_bind]
  refine wp_mono (allS_wp s_tablefinderref03_Select_l1_FB rows (by omega) (fun k => (rows, rows, (rows.length : Int), k, x, 0, [], [])) (fun k => decide (0 ≤ k) && decide (k < (n : Int))) (zT, 2) (rows, x, 0, [], []) (fun rec k hlt Q q1 q2 => ?_) (fun rec Q q => ?_)) ?_
  · unfold s_tablefinderref03_Select_l1_B s_tablefinderref03_Select_l1_b
    dsimp only
    rw [wp_bif]
    refine ⟨fun _ => ?_, fun h => by simp only [decide_eq_false_iff_not] at h; omega⟩
    rw [idx_nat hlt, wp_bind, wp_some, wp_bif]
    refine ⟨fun h0 => ?_, fun h0 => ?_⟩
    · have := of_decide_eq_true h0
      unfold s_tablefinderref03_Select_j1
      rw [cond_true, wp_some]
      exact q1 (by rw [decide_eq_false (by omega : ¬ 0 ≤ rows[k])]; rfl)
    · have h0 := of_decide_eq_false h0
      rw [rrows_eq, wp_bind, wp_some, h.rows]
      unfold s_tablefinderref03_Select_j1
      by_cases h1 : rows[k] < (n : Int)
      · rw [decide_eq_false (by omega : ¬ rows[k] ≥ (n : Int)), cond_false, wp_chk]
        exact ⟨inK_i64 (by omega), q2 (by rw [decide_eq_true (by omega : 0 ≤ rows[k]), decide_eq_true h1]; rfl)⟩
      · rw [decide_eq_true (by omega : rows[k] ≥ (n : Int)), cond_true, wp_some]
        exact q1 (by rw [decide_eq_false h1, Bool.and_false])
  · unfold s_tablefinderref03_Select_l1_B s_tablefinderref03_Select_l1_b
    dsimp only
    rw [wp_bif]
    exact ⟨fun h => by simp only [decide_eq_true_eq] at h; omega, fun _ => by rw [wp_some]; exact q⟩
  · rintro y rfl
    rw [show (rows.all fun k => decide (0 ≤ k) && decide (k < (n : Int))) = inB n rows from rfl]
    cases hb : inB n rows with
    | false => exact wp_some.2 rfl
    | true =>
      have hk := inB_iff.1 hb
      show wp (s_tablefinderref03_Select_k2 rows x 0 [] []) _
      rw [if_pos rfl]
      unfold s_tablefinderref03_Select_k2
      rw [decide_eq_false (by omega), cond_false, wp_bind]
      refine wp_mono (forS_wp s_tablefinderref03_Select_l2_FB x.Columns (by omega) (fun k (o : List G_api_Column) => (rows, x.Columns, (x.Columns.length : Int), k, 0, [], x.ID, x.Name, [], o)) (fun k o => o = (x.Columns.take k).map (pickC rows))
        (Q := fun y => y = (0, [], x.ID, x.Name, [], x.Columns.map (pickC rows))) [] rfl (fun rec k o hlt hP ih => ?_) (fun rec o hP => ?_)) ?_
      · subst hP
        have hcl := (h.cols _ (List.getElem_mem hlt)).2.1
        unfold s_tablefinderref03_Select_l2_B s_tablefinderref03_Select_l2_b
        dsimp only
        rw [wp_bif]
        refine ⟨fun _ => ?_, fun h => by simp only [decide_eq_false_iff_not] at h; omega⟩
        rw [idx_nat hlt, wp_bind, wp_some, wp_bind]
        generalize hcc : x.Columns[k] = c at *
        refine wp_mono (forS_wp s_tablefinderref03_Select_l3_FB rows (by omega) (fun j (o2 : List G_api_Cell) => (rows, x.Columns, (x.Columns.length : Int), (k : Int), rows, (rows.length : Int), j, 0, [], x.ID, x.Name, c, c.Name, [], (x.Columns.take k).map (pickC rows), o2)) (fun j o2 => o2 = (rows.take j).map fun k => c.Cells.getD k.toNat default)
          (Q := fun y => y = (rows, x.Columns, (x.Columns.length : Int), (k : Int), 0, [], x.ID, x.Name, c.Name, [], (x.Columns.take k).map (pickC rows), rows.map fun k => c.Cells.getD k.toNat default)) [] rfl (fun rec2 j o2 hj hP ih2 => ?_) (fun rec2 o2 hP => ?_)) ?_
        · subst hP
          have hkk := hk _ (List.getElem_mem hj)
          have hlt2 : rows[j].toNat < c.Cells.length := by omega
          unfold s_tablefinderref03_Select_l3_B s_tablefinderref03_Select_l3_b
          dsimp only
          rw [wp_bif]
          refine ⟨fun _ => ?_, fun h => by simp only [decide_eq_false_iff_not] at h; omega⟩
          rw [idx_nat hj, wp_bind, wp_some, idx_some hkk.1 hlt2, wp_bind, wp_some, wp_chk, wp_chk]
          refine ⟨room_ok (by simp only [List.length_map, List.length_take, List.length_singleton]; omega), inK_i64 (by omega), ih2 _ ?_⟩
          rw [List.take_succ_eq_append_getElem hj, List.map_append, List.map_cons, List.map_nil, getD_lt _ _ hlt2]
        · subst hP
          rw [List.take_length]
          unfold s_tablefinderref03_Select_l3_B s_tablefinderref03_Select_l3_b
          dsimp only
          rw [wp_bif]
          exact ⟨fun h => by simp only [decide_eq_true_eq] at h; omega, fun _ => by rw [wp_some]⟩
        · rintro y rfl
          dsimp only
          unfold s_tablefinderref03_Select_k3
          rw [wp_chk, wp_chk]
          refine ⟨room_ok (by simp only [List.length_map, List.length_take, List.length_singleton]; omega), inK_i64 (by omega), ih _ ?_⟩
          rw [List.take_succ_eq_append_getElem hlt, List.map_append, List.map_cons, List.map_nil, hcc]
          rfl
      · subst hP
        rw [List.take_length]
        unfold s_tablefinderref03_Select_l2_B s_tablefinderref03_Select_l2_b
        dsimp only
        rw [wp_bif]
        exact ⟨fun h => by simp only [decide_eq_true_eq] at h; omega, fun _ => by rw [wp_some]⟩
      · rintro y rfl
        dsimp only
        unfold s_tablefinderref03_Select_k4
        exact wp_some.2 rfl

/-! ## Rows -/

theorem at_eq {x : G_api_Table} {n : Nat} (h : GT x n) {i : Nat} (hi : i < n) : s_tablefinderref03_at x (i : Int) = some (rowAt x i) := by
  refine eq_of_wp ?_
  have hlen := h.len
  unfold s_tablefinderref03_at s_tablefinderref03_at_k1
  rw [wp_bind]
  refine wp_mono (forS_wp s_tablefinderref03_at_l1_FB x.Columns (by omega) (fun k (o : List G_api_Cell) => ((i : Int), x.Columns, (x.Columns.length : Int), k, o)) (fun k o => o = (x.Columns.take k).map fun c => c.Cells.getD i default) (Q := fun y => y = rowAt x i) [] rfl (fun rec k o hlt hP ih => ?_) (fun rec o hP => ?_)) (fun y hy => wp_some.2 hy)
  · subst hP
    have hcl := (h.cols _ (List.getElem_mem hlt)).2.1
    have hic : i < x.Columns[k].Cells.length := by omega
    unfold s_tablefinderref03_at_l1_B s_tablefinderref03_at_l1_b
    dsimp only
    rw [wp_bif]
    refine ⟨fun _ => ?_, fun h => by simp only [decide_eq_false_iff_not] at h; omega⟩
    rw [idx_nat hlt, wp_bind, wp_some, idx_nat hic, wp_bind, wp_some, wp_chk, wp_chk]
    refine ⟨room_ok (by simp only [List.length_map, List.length_take, List.length_singleton]; omega), inK_i64 (by omega), ih _ ?_⟩
    rw [List.take_succ_eq_append_getElem hlt, List.map_append, List.map_cons, List.map_nil, getD_lt _ _ hic]
  · subst hP
    rw [List.take_length]
    unfold s_tablefinderref03_at_l1_B s_tablefinderref03_at_l1_b
    dsimp only
    rw [wp_bif]
    exact ⟨fun h => by simp only [decide_eq_true_eq] at h; omega, fun _ => by rw [wp_some]; rfl⟩
theorem row_all {x : G_api_Table} {n : Nat} (h : GT x n) (i : Int) : s_table_Row x i = some (if 0 ≤ i ∧ i < n then (rowAt x i.toNat, 0) else ([], 2)) := by
  have hlen := h.len
  unfold s_table_Row
  rw [h.valid, Option.bind_some, Bool.not_true, cond_false, rows_eq, h.rows]
  by_cases h0 : i < 0
  · rw [decide_eq_true h0, cond_true, if_neg (by omega)]; rfl
  · rw [decide_eq_false h0, cond_false, Option.bind_some]
    unfold s_table_Row_j1
    by_cases h1 : i ≥ (n : Int)
    · rw [decide_eq_true h1, cond_true, if_neg (by omega)]
    · rw [decide_eq_false h1, cond_false, if_pos (by omega)]
      obtain ⟨j, rfl⟩ : ∃ j : Nat, i = (j : Int) := ⟨i.toNat, by omega⟩
      rw [Int.toNat_natCast]
      refine eq_of_wp ?_
      unfold s_table_Row_k2
      rw [wp_bind]
      refine wp_mono (forS_wp s_table_Row_l1_FB x.Columns (by omega) (fun k (o : List G_api_Cell) => ((j : Int), x.Columns, (x.Columns.length : Int), k, o)) (fun k o => o = (x.Columns.take k).map fun c => c.Cells.getD j default) (Q := fun y => y = rowAt x j) [] rfl (fun rec k o hlt hP ih => ?_) (fun rec o hP => ?_)) (fun y hy => wp_some.2 (by rw [hy]))
      · subst hP
        have hcl := (h.cols _ (List.getElem_mem hlt)).2.1
        have hic : j < x.Columns[k].Cells.length := by omega
        unfold s_table_Row_l1_B s_table_Row_l1_b
        dsimp only
        rw [wp_bif]
        refine ⟨fun _ => ?_, fun h => by simp only [decide_eq_false_iff_not] at h; omega⟩
        rw [idx_nat hlt, wp_bind, wp_some, idx_nat hic, wp_bind, wp_some, wp_chk, wp_chk]
        refine ⟨room_ok (by simp only [List.length_map, List.length_take, List.length_singleton]; omega), inK_i64 (by omega), ih _ ?_⟩
        rw [List.take_succ_eq_append_getElem hlt, List.map_append, List.map_cons, List.map_nil, getD_lt _ _ hic]
      · subst hP
        rw [List.take_length]
        unfold s_table_Row_l1_B s_table_Row_l1_b
        dsimp only
        rw [wp_bif]
        exact ⟨fun h => by simp only [decide_eq_true_eq] at h; omega, fun _ => by rw [wp_some]; rfl⟩
theorem rrow_all {x : G_api_Table} {n : Nat} (h : GT x n) (i : Int) : s_tablefinderref03_Row x i = some (if 0 ≤ i ∧ i < n then (rowAt x i.toNat, 0) else ([], 2)) := by
  unfold s_tablefinderref03_Row
  rw [h.rvalid, Option.bind_some, Bool.not_true, cond_false, rrows_eq, h.rows]
  by_cases h0 : i < 0
  · rw [decide_eq_true h0, cond_true, if_neg (by omega)]; rfl
  · rw [decide_eq_false h0, cond_false, Option.bind_some]
    unfold s_tablefinderref03_Row_j1
    by_cases h1 : i ≥ (n : Int)
    · rw [decide_eq_true h1, cond_true, if_neg (by omega)]
    · rw [decide_eq_false h1, cond_false, if_pos (by omega)]
      obtain ⟨j, rfl⟩ : ∃ j : Nat, i = (j : Int) := ⟨i.toNat, by omega⟩
      rw [at_eq h (by omega), Option.bind_some, Int.toNat_natCast]

/-! ## Comparison, sorting -/

theorem rcompare_eq (a b : G_api_Cell) : s_tablefinderref03_CompareCells a b = some (cellC a b) := by
  unfold s_tablefinderref03_CompareCells s_tablefinderref03_CompareCells_j1 cellC strC
  cases a.Null <;> cases b.Null <;> simp only [cond_true, cond_false, if_true, Bool.false_eq_true, if_false]
  cases h1 : Op.bytesLess a.Text b.Text with
  | true => rfl
  | false =>
    rw [cond_false, Bool.false_or, if_neg Bool.false_ne_true]
    cases h2 : Op.bytesLess b.Text a.Text with
    | true =>
      have hne : a.Text ≠ b.Text := fun e => by rw [e, bl_irrefl] at h2; cases h2
      rw [beq_eq_false_iff_ne.2 hne]; rfl
    | false =>
      rw [bl_tri _ _ h1 h2, beq_self_eq_true]; rfl
theorem rowcmp_eq {a b : List G_api_Cell} (hl : a.length = b.length) (ha : a.length ≤ 1000) : s_tablefinderref03_compare a b = some (rowC a b) := by
  refine eq_of_wp ?_
  unfold s_tablefinderref03_compare s_tablefinderref03_compare_k1
  rw [wp_bind]
  refine wp_mono (forS_wp s_tablefinderref03_compare_l1_FB a (by omega) (fun k (_ : Unit) => (a, b, (a.length : Int), k)) (fun k _ => rowC a b = rowC (a.drop k) (b.drop k))
    (Q := fun x => match x with | .ret d => d = rowC a b | .brk _ => rowC a b = 0) () rfl ?_ ?_) ?_
  · rintro rec k _ hlt hP ih
    have hlb : k < b.length := by omega
    have hP : rowC a b = if cellC a[k] b[k] = 0 then rowC (a.drop (k + 1)) (b.drop (k + 1)) else cellC a[k] b[k] := by
      rw [hP, List.drop_eq_getElem_cons hlt, List.drop_eq_getElem_cons hlb]; rfl
    unfold s_tablefinderref03_compare_l1_B s_tablefinderref03_compare_l1_b
    dsimp only
    rw [wp_bif]
    refine ⟨fun _ => ?_, fun h => by simp only [decide_eq_false_iff_not] at h; omega⟩
    rw [idx_nat hlt, wp_bind, wp_some, idx_nat hlb, wp_bind, wp_some, rcompare_eq, wp_bind, wp_some, wp_bif]
    refine ⟨fun hc => ?_, fun hc => ?_⟩
    · have hc : cellC a[k] b[k] ≠ 0 := by simpa using hc
      rw [wp_some]
      rw [if_neg hc] at hP
      exact hP.symm
    · have hc : cellC a[k] b[k] = 0 := by simpa using hc
      rw [if_pos hc] at hP
      rw [wp_chk]
      exact ⟨inK_i64 (by omega), ih () hP⟩
  · rintro rec _ hP
    unfold s_tablefinderref03_compare_l1_B s_tablefinderref03_compare_l1_b
    dsimp only
    rw [wp_bif]
    refine ⟨fun h => by simp only [decide_eq_true_eq] at h; omega, fun _ => ?_⟩
    rw [wp_some]
    rw [List.drop_of_length_le (by omega), List.drop_of_length_le (by omega)] at hP
    exact hP
  · rintro (_ | d) hx
    · rw [wp_some]; exact hx.symm
    · rw [wp_some]; exact hx
end Go.Proofs

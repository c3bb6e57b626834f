/- Both programs' Sort, Same. -/
import Derived.Test.YtahbkngofdpehaaGreatDoorTtTS2
set_option linter.unusedVariables false
set_option linter.unusedSimpArgs false
set_option linter.unusedSectionVars false
namespace Go.Proofs
open Go Eng

theorem sort_good {x : G_api_Table} {n : Nat} (h : GT x n) : s_table_Sort x = some (selT x (orderT x), 0) := sort_eq h.tab (by omega) (by omega) trivial
theorem sort_bad {x : G_api_Table} (hb : tableS x = false) (hl : x.Columns.length ≤ 1000000) (hc : ∀ c ∈ x.Columns, c.Cells.length ≤ 100) : s_table_Sort x = some (zT, 1) := by
  have hr : 0 ≤ rowsS x ∧ rowsS x ≤ 100 := by
    unfold rowsS
    cases ht : x.Columns with
    | nil => exact ⟨by decide, by decide⟩
    | cons c l => dsimp only; have := hc c (by rw [ht]; simp); omega
  have hv : s_table_Valid x = some false := by rw [table_eq x (by omega) (fun c hcm => by have := hc c hcm; omega), hb]
  refine eq_of_wp ?_
  unfold s_table_Sort
  rw [rows_eq, wp_bind, wp_some, wp_chk]
  have e : rowsS x = ((rowsS x).toNat : Int) := by omega
  refine ⟨decide_eq_true (by unfold roomB; omega), ?_⟩
  rw [List.length_replicate, wp_bind]
  refine wp_mono (fill_eq x (rowsS x).toNat (by omega) 0 [] []) ?_
  rintro y rfl
  dsimp only
  unfold s_table_Sort_k1 s_table_Sort_j2 s_table_Select
  rw [hv, wp_bind, wp_some, cond_false, wp_bind, wp_bind, wp_some, Bool.not_false, cond_true, wp_some, wp_some]
  rfl

theorem rins {x : G_api_Table} {n : Nat} (h : GT x n) {i : Nat} (hi : i < n) {D : List Int} (hD : ∀ y ∈ D, 0 ≤ y ∧ y < n) (hl : D.length ≤ 100) (a : Int) (b : Str) (c : List G_api_Column) :
    wp (s_tablefinderref03_Sort_l2 big (i : Int) (D.length : Int) x a b D c) (fun y => ∃ k : Nat, k ≤ D.length ∧ y = ((i : Int), (k : Int), x, a, b, D, c) ∧ D.take k ++ ((i : Int) :: D.drop k) = insR (ltT x) (i : Int) D) := by
  have hlen := h.len
  refine whileS_wp s_tablefinderref03_Sort_l2_FB (fun k : Nat => ((i : Int), (k : Int), x, a, b, D, c)) (fun k => k ≤ D.length ∧ insR (ltT x) (i : Int) D = insR (ltT x) (i : Int) (D.take k) ++ D.drop k) (fun k => k) D.length ⟨Nat.le_refl _, by rw [List.take_length, List.drop_length, List.append_nil]⟩ (by omega) ?_
  rintro rec k ⟨hk, hP⟩ ih
  unfold s_tablefinderref03_Sort_l2_B s_tablefinderref03_Sort_l2_b s_tablefinderref03_Sort_j1
  dsimp only
  rw [wp_bif]
  refine ⟨fun h0 => ?_, fun h0 => ?_⟩
  · have h0 := of_decide_eq_true h0
    obtain ⟨j, rfl⟩ : ∃ j, k = j + 1 := ⟨k - 1, by omega⟩
    have hj : j < D.length := by omega
    have ej : ((j + 1 : Nat) : Int) - 1 = (j : Int) := by omega
    have hd := hD _ (List.getElem_mem hj)
    have hdn : D[j].toNat < n := by omega
    have ed : D[j] = ((D[j].toNat : Nat) : Int) := by omega
    have ra : (rowAt x D[j].toNat).length = x.Columns.length := by unfold rowAt; simp
    have rb : (rowAt x i).length = x.Columns.length := by unfold rowAt; simp
    have hat := at_eq h hdn
    rw [← ed] at hat
    have htk : D.take (j + 1) = D.take j ++ [D[j]] := List.take_succ_eq_append_getElem hj
    have hdr : D.drop j = D[j] :: D.drop (j + 1) := List.drop_eq_getElem_cons hj
    have hlt : ltT x (i : Int) D[j] = decide (rowC (rowAt x D[j].toNat) (rowAt x i) > 0) := by
      unfold ltT
      rw [Int.toNat_natCast]
      have := rowC_neg (rowAt x D[j].toNat) (rowAt x i)
      exact decide_eq_decide.2 (by omega)
    rw [htk, insR_snoc, hlt] at hP
    rw [ej, wp_chk, wp_chk, Int.toNat_natCast, List.getElem?_eq_getElem hj, wp_bind, wp_some, hat, wp_bind, wp_some, at_eq h hi, wp_bind, wp_some, rowcmp_eq (by omega) (by omega), wp_bind, wp_some, wp_bif]
    refine ⟨inK_i64 (by omega), inR_ok ⟨by omega, by omega⟩, fun hc => ?_, fun hc => ?_⟩
    · rw [wp_chk]
      refine ⟨inK_i64 (by omega), ih j ⟨by omega, ?_⟩ (by omega)⟩
      rw [if_pos hc] at hP
      rw [hP, hdr, List.append_assoc]; rfl
    · rw [wp_some]
      refine ⟨j + 1, hk, rfl, ?_⟩
      rw [if_neg (by rw [hc]; decide)] at hP
      rw [hP, htk, List.append_assoc, List.append_assoc]; rfl
  · have h0 := of_decide_eq_false h0
    have : k = 0 := by omega
    subst this
    rw [cond_false, wp_some]
    refine ⟨0, Nat.zero_le _, rfl, ?_⟩
    rw [hP, List.take_zero, List.drop_zero, insR_nil]; rfl

theorem rsort_good {x : G_api_Table} {n : Nat} (h : GT x n) : s_tablefinderref03_Sort x = some (selT x (orderT x), 0) := by
  have hfew := h.few
  refine eq_of_wp ?_
  unfold s_tablefinderref03_Sort
  rw [h.rvalid, wp_bind, wp_some, Bool.not_true, cond_false, wp_bind]
  refine wp_mono (uptoS_wp s_tablefinderref03_Sort_l1_FB n (by omega) (fun i (o : List Int) => (i, x, 0, [], o, [])) (fun i o => o = isort (ltT x) (idxL i)) (Q := fun y => y = (x, 0, [], isort (ltT x) (idxL n), [])) [] rfl ?_ ?_) ?_
  · rintro rec i o hi rfl ih
    unfold s_tablefinderref03_Sort_l1_B s_tablefinderref03_Sort_l1_b
    dsimp only
    rw [rrows_eq, wp_bind, wp_some, h.rows, wp_bif]
    refine ⟨fun _ => ?_, fun h => by have := of_decide_eq_false h; omega⟩
    have hol : (isort (ltT x) (idxL i)).length = i := by rw [isort_len, idxL_len]
    rw [wp_bind]
    refine wp_mono (rins h hi (D := isort (ltT x) (idxL i)) (fun y hy => by have := idxL_mem ((isort_perm _).mem_iff.1 hy); omega) (by omega) 0 [] []) ?_
    rintro y ⟨k, hk, rfl, he⟩
    dsimp only
    have e2 : idxL (i + 1) = idxL i ++ [(i : Int)] := by unfold idxL; rw [List.range_succ, List.map_append]; rfl
    have hdk : (((isort (ltT x) (idxL i)).drop k).take (((isort (ltT x) (idxL i)).length : Int).toNat - ((k : Int)).toNat)) = (isort (ltT x) (idxL i)).drop k := List.take_of_length_le (by rw [List.length_drop, Int.toNat_natCast, Int.toNat_natCast]; omega)
    unfold s_tablefinderref03_Sort_k2
    rw [Int.toNat_natCast] at hdk ⊢
    rw [Int.toNat_natCast] at hdk
    rw [Int.toNat_natCast, hdk, wp_chk, wp_chk, wp_chk, wp_chk, wp_chk, wp_chk]
    refine ⟨within_ok (by omega), within_ok (by omega), room_ok (by simp only [List.length_singleton, List.length_drop]; omega), decide_eq_true (by omega), room_ok (by simp only [List.length_append, List.length_singleton, List.length_drop]; omega), inK_i64 (by omega), ih _ ?_⟩
    rw [Nat.sub_zero, e2, isort_snoc, ← he]; rfl
  · rintro rec o rfl
    unfold s_tablefinderref03_Sort_l1_B s_tablefinderref03_Sort_l1_b
    dsimp only
    rw [rrows_eq, wp_bind, wp_some, h.rows, wp_bif]
    refine ⟨fun h => by have := of_decide_eq_true h; omega, fun _ => by rw [wp_some]⟩
  · rintro y rfl
    dsimp only
    unfold s_tablefinderref03_Sort_k3
    have ho : isort (ltT x) (idxL n) = orderT x := by unfold orderT; rw [h.rows, Int.toNat_natCast]
    have hb : inB n (orderT x) = true := inB_iff.2 fun k hk => by have := orderT_mem hk; rw [h.rows, Int.toNat_natCast] at this; exact this
    rw [ho, rselect_all h (by rw [orderT_len, h.rows, Int.toNat_natCast]; omega), hb, if_pos rfl, wp_bind, wp_some, wp_some]

/-! ## Equality -/

theorem list_ext_all {α : Type} [DecidableEq α] {a b : List α} (hl : a.length = b.length) : ((List.range a.length).all fun i => a[i]? == b[i]?) = decide (a = b) := by
  by_cases h : a = b
  · subst h; simp
  · rw [decide_eq_false h]
    refine List.all_eq_false.2 ?_
    refine Decidable.byContradiction fun hn => h (List.ext_getElem? fun i => ?_)
    by_cases hi : i < a.length
    · refine Decidable.byContradiction fun hne => hn ⟨i, List.mem_range.2 hi, ?_⟩
      simpa using hne
    · rw [List.getElem?_eq_none (by omega), List.getElem?_eq_none (by omega)]
theorem cell_beq (a b : G_api_Cell) : (a.Null == b.Null && (a.Text == b.Text && true)) = decide (a = b) := by
  rw [Bool.and_true]
  cases a; cases b
  rename_i n1 t1 n2 t2
  by_cases h1 : n1 = n2
  · by_cases h2 : t1 = t2
    · subst h1; subst h2; simp
    · rw [decide_eq_false (fun e => h2 (by cases e; rfl))]; simp [h2]
  · rw [decide_eq_false (fun e => h1 (by cases e; rfl))]; simp [h1]
theorem cellsEq (a b : List G_api_Cell) (ha : a.length ≤ 1000000) : s_slices_Equal_api_Cell_api_Cell a b = some (decide (a = b)) := by
  unfold s_slices_Equal_api_Cell_api_Cell s_slices_Equal_api_Cell_api_Cell_k1
  by_cases hl : a.length = b.length
  · rw [hl, bne_self_eq_false, cond_false]
    refine eq_of_wp ?_
    rw [wp_bind, ← hl]
    have hr : (List.range a.length).length = a.length := List.length_range
    refine wp_mono (allS_wp s_slices_Equal_api_Cell_api_Cell_l1_FB (List.range a.length) (by omega) (fun k => (a, b, (a.length : Int), k)) (fun i => a[i]? == b[i]?) false () (fun rec k hlt Q q1 q2 => ?_) (fun rec Q q => ?_)) ?_
    · rw [hr] at hlt
      have hlb : k < b.length := by omega
      rw [List.getElem_range] at q1 q2
      have e : (a[k]? == b[k]?) = decide (a[k] = b[k]) := by rw [List.getElem?_eq_getElem hlt, List.getElem?_eq_getElem hlb]; by_cases h : a[k] = b[k] <;> simp [h]
      rw [e] at q1 q2
      unfold s_slices_Equal_api_Cell_api_Cell_l1_B s_slices_Equal_api_Cell_api_Cell_l1_b
      dsimp only
      rw [wp_bif]
      refine ⟨fun _ => ?_, fun h => by simp only [decide_eq_false_iff_not] at h; omega⟩
      rw [idx_nat hlt, wp_bind, wp_some, idx_nat hlb, wp_bind, wp_some, cell_beq, wp_bif]
      refine ⟨fun h => by rw [wp_some]; exact q1 (by rw [Bool.not_eq_true'] at h; exact h), fun h => by rw [wp_chk]; exact ⟨inK_i64 (by omega), q2 (by rw [Bool.not_eq_false'] at h; exact h)⟩⟩
    · rw [hr]
      unfold s_slices_Equal_api_Cell_api_Cell_l1_B s_slices_Equal_api_Cell_api_Cell_l1_b
      dsimp only
      rw [wp_bif]
      exact ⟨fun h => by simp only [decide_eq_true_eq] at h; omega, fun _ => by rw [wp_some]; exact q⟩
    · rintro y rfl
      rw [list_ext_all hl]
      cases decide (a = b) <;> exact wp_some.2 rfl
  · have : ((a.length : Int) != (b.length : Int)) = true := by rw [bne_iff_ne]; omega
    rw [this, cond_true, decide_eq_false (fun e => hl (by rw [e]))]
theorem same1_eq (a b : G_api_Column) (ha : a.Cells.length ≤ 1000000) : s_table_Same_1 a b = some (decide (a = b)) := by
  unfold s_table_Same_1 s_table_Same_1_j1
  cases a; cases b
  rename_i n1 c1 n2 c2
  dsimp only at ha ⊢
  by_cases h1 : n1 = n2
  · subst h1
    rw [beq_self_eq_true, cond_true, cellsEq _ _ ha, Option.bind_some]
    congr 1
    exact decide_eq_decide.2 ⟨fun e => by rw [e], fun e => by cases e; rfl⟩
  · rw [beq_eq_false_iff_ne.2 h1, cond_false, decide_eq_false (fun e => h1 (by cases e; rfl))]
theorem tsame_eq (a b : G_api_Table) (hl : a.Columns.length ≤ 1000000) (hc : ∀ c ∈ a.Columns, c.Cells.length ≤ 1000000) : s_table_Same a b = some (decide (a = b)) := by
  have cols : s_slices_EqualFunc_api_Column_api_Column_api_Column_api_Column a.Columns b.Columns = some (decide (a.Columns = b.Columns)) := by
    generalize a.Columns = s at hl hc
    generalize b.Columns = t
    unfold s_slices_EqualFunc_api_Column_api_Column_api_Column_api_Column s_slices_EqualFunc_api_Column_api_Column_api_Column_api_Column_k1
    by_cases hst : s.length = t.length
    · rw [hst, bne_self_eq_false, cond_false]
      refine eq_of_wp ?_
      rw [wp_bind, ← hst]
      have hr : (List.range s.length).length = s.length := List.length_range
      refine wp_mono (allS_wp s_slices_EqualFunc_api_Column_api_Column_api_Column_api_Column_l1_FB (List.range s.length) (by omega) (fun k => (t, s, (s.length : Int), k)) (fun i => s[i]? == t[i]?) false () (fun rec k hlt Q q1 q2 => ?_) (fun rec Q q => ?_)) ?_
      · rw [hr] at hlt
        have hlb : k < t.length := by omega
        rw [List.getElem_range] at q1 q2
        have e : (s[k]? == t[k]?) = decide (s[k] = t[k]) := by rw [List.getElem?_eq_getElem hlt, List.getElem?_eq_getElem hlb]; by_cases h : s[k] = t[k] <;> simp [h]
        rw [e] at q1 q2
        unfold s_slices_EqualFunc_api_Column_api_Column_api_Column_api_Column_l1_B s_slices_EqualFunc_api_Column_api_Column_api_Column_api_Column_l1_b
        dsimp only
        rw [wp_bif]
        refine ⟨fun _ => ?_, fun h => by simp only [decide_eq_false_iff_not] at h; omega⟩
        rw [idx_nat hlt, wp_bind, wp_some, idx_nat hlb, wp_bind, wp_some, same1_eq _ _ (hc _ (List.getElem_mem hlt)), wp_bind, wp_some, wp_bif]
        refine ⟨fun h => by rw [wp_some]; exact q1 (by rw [Bool.not_eq_true'] at h; exact h), fun h => by rw [wp_chk]; exact ⟨inK_i64 (by omega), q2 (by rw [Bool.not_eq_false'] at h; exact h)⟩⟩
      · rw [hr]
        unfold s_slices_EqualFunc_api_Column_api_Column_api_Column_api_Column_l1_B s_slices_EqualFunc_api_Column_api_Column_api_Column_api_Column_l1_b
        dsimp only
        rw [wp_bif]
        exact ⟨fun h => by simp only [decide_eq_true_eq] at h; omega, fun _ => by rw [wp_some]; exact q⟩
      · rintro y rfl
        rw [list_ext_all hst]
        cases decide (s = t) <;> exact wp_some.2 rfl
    · have : ((s.length : Int) != (t.length : Int)) = true := by rw [bne_iff_ne]; omega
      rw [this, cond_true, decide_eq_false (fun e => hst (by rw [e]))]
  unfold s_table_Same s_table_Same_j1
  cases a; cases b
  rename_i i1 n1 c1 i2 n2 c2
  dsimp only at cols ⊢
  by_cases h0 : i1 = i2
  · subst h0
    rw [beq_self_eq_true, cond_true]
    by_cases h1 : n1 = n2
    · subst h1
      rw [beq_self_eq_true, cond_true, cols, Option.bind_some]
      congr 1
      exact decide_eq_decide.2 ⟨fun e => by rw [e], fun e => by cases e; rfl⟩
    · rw [beq_eq_false_iff_ne.2 h1, cond_false, decide_eq_false (fun e => h1 (by cases e; rfl))]
  · rw [beq_eq_false_iff_ne.2 h0, cond_false, decide_eq_false (fun e => h0 (by cases e; rfl))]
theorem sameCells_eq (a b : G_api_Column) (ha : a.Cells.length ≤ 1000000) : s_tablefinderref03_SameCells a b = some (decide (a = b)) := by
  unfold s_tablefinderref03_SameCells s_tablefinderref03_SameCells_j1 s_tablefinderref03_SameCells_k2
  by_cases h1 : a.Name = b.Name
  · rw [beq_iff_eq.2 h1, Bool.not_true, cond_false]
    by_cases hl : a.Cells.length = b.Cells.length
    · rw [hl, bne_self_eq_false, cond_false]
      refine eq_of_wp ?_
      rw [wp_bind, ← hl]
      have hr : (List.range a.Cells.length).length = a.Cells.length := List.length_range
      refine wp_mono (allS_wp s_tablefinderref03_SameCells_l1_FB (List.range a.Cells.length) (by omega) (fun k => ((a.Cells.length : Int), k, a, b)) (fun i => a.Cells[i]? == b.Cells[i]?) false () (fun rec k hlt Q q1 q2 => ?_) (fun rec Q q => ?_)) ?_
      · rw [hr] at hlt
        have hlb : k < b.Cells.length := by omega
        rw [List.getElem_range] at q1 q2
        have e : (a.Cells[k]? == b.Cells[k]?) = decide (a.Cells[k] = b.Cells[k]) := by rw [List.getElem?_eq_getElem hlt, List.getElem?_eq_getElem hlb]; by_cases h : a.Cells[k] = b.Cells[k] <;> simp [h]
        rw [e] at q1 q2
        unfold s_tablefinderref03_SameCells_l1_B s_tablefinderref03_SameCells_l1_b
        dsimp only
        rw [wp_bif]
        refine ⟨fun _ => ?_, fun h => by simp only [decide_eq_false_iff_not] at h; omega⟩
        rw [idx_nat hlt, wp_bind, wp_some, idx_nat hlb, wp_bind, wp_some, cell_beq, wp_bif]
        refine ⟨fun h => by rw [wp_some]; exact q1 (by rw [Bool.not_eq_true'] at h; exact h), fun h => by rw [wp_chk]; exact ⟨inK_i64 (by omega), q2 (by rw [Bool.not_eq_false'] at h; exact h)⟩⟩
      · rw [hr]
        unfold s_tablefinderref03_SameCells_l1_B s_tablefinderref03_SameCells_l1_b
        dsimp only
        rw [wp_bif]
        exact ⟨fun h => by simp only [decide_eq_true_eq] at h; omega, fun _ => by rw [wp_some]; exact q⟩
      · rintro y rfl
        have e : decide (a = b) = decide (a.Cells = b.Cells) := decide_eq_decide.2 ⟨fun e => by rw [e], fun e => by cases a; cases b; cases h1; cases e; rfl⟩
        rw [list_ext_all hl, e]
        cases decide (a.Cells = b.Cells) <;> exact wp_some.2 rfl
    · have : ((a.Cells.length : Int) != (b.Cells.length : Int)) = true := by rw [bne_iff_ne]; omega
      rw [this, cond_true, decide_eq_false (fun e => hl (by rw [e]))]
  · rw [beq_eq_false_iff_ne.2 h1, Bool.not_false, cond_true, cond_true, decide_eq_false (fun e => h1 (by rw [e]))]
theorem rsame_eq (a b : G_api_Table) (hl : a.Columns.length ≤ 1000000) (hc : ∀ c ∈ a.Columns, c.Cells.length ≤ 1000000) : s_tablefinderref03_Same a b = some (decide (a = b)) := by
  unfold s_tablefinderref03_Same s_tablefinderref03_Same_j1 s_tablefinderref03_Same_k2
  by_cases h0 : a.ID = b.ID
  · rw [h0, bne_self_eq_false, cond_false]
    by_cases h1 : a.Name = b.Name
    · rw [beq_iff_eq.2 h1, Bool.not_true, cond_false]
      by_cases hst : a.Columns.length = b.Columns.length
      · rw [hst, bne_self_eq_false, cond_false]
        refine eq_of_wp ?_
        rw [wp_bind, ← hst]
        have hr : (List.range a.Columns.length).length = a.Columns.length := List.length_range
        refine wp_mono (allS_wp s_tablefinderref03_Same_l1_FB (List.range a.Columns.length) (by omega) (fun k => ((a.Columns.length : Int), k, a, b)) (fun i => a.Columns[i]? == b.Columns[i]?) false () (fun rec k hlt Q q1 q2 => ?_) (fun rec Q q => ?_)) ?_
        · rw [hr] at hlt
          have hlb : k < b.Columns.length := by omega
          rw [List.getElem_range] at q1 q2
          have e : (a.Columns[k]? == b.Columns[k]?) = decide (a.Columns[k] = b.Columns[k]) := by rw [List.getElem?_eq_getElem hlt, List.getElem?_eq_getElem hlb]; by_cases h : a.Columns[k] = b.Columns[k] <;> simp [h]
          rw [e] at q1 q2
          unfold s_tablefinderref03_Same_l1_B s_tablefinderref03_Same_l1_b
          dsimp only
          rw [wp_bif]
          refine ⟨fun _ => ?_, fun h => by simp only [decide_eq_false_iff_not] at h; omega⟩
          rw [idx_nat hlt, wp_bind, wp_some, idx_nat hlb, wp_bind, wp_some, sameCells_eq _ _ (hc _ (List.getElem_mem hlt)), wp_bind, wp_some, wp_bif]
          refine ⟨fun h => by rw [wp_some]; exact q1 (by rw [Bool.not_eq_true'] at h; exact h), fun h => by rw [wp_chk]; exact ⟨inK_i64 (by omega), q2 (by rw [Bool.not_eq_false'] at h; exact h)⟩⟩
        · rw [hr]
          unfold s_tablefinderref03_Same_l1_B s_tablefinderref03_Same_l1_b
          dsimp only
          rw [wp_bif]
          exact ⟨fun h => by simp only [decide_eq_true_eq] at h; omega, fun _ => by rw [wp_some]; exact q⟩
        · rintro y rfl
          have e : decide (a = b) = decide (a.Columns = b.Columns) := decide_eq_decide.2 ⟨fun e => by rw [e], fun e => by cases a; cases b; cases h0; cases h1; cases e; rfl⟩
          rw [list_ext_all hst, e]
          cases decide (a.Columns = b.Columns) <;> exact wp_some.2 rfl
      · have : ((a.Columns.length : Int) != (b.Columns.length : Int)) = true := by rw [bne_iff_ne]; omega
        rw [this, cond_true, decide_eq_false (fun e => hst (by rw [e]))]
    · rw [beq_eq_false_iff_ne.2 h1, Bool.not_false, cond_true, cond_true, decide_eq_false (fun e => h1 (by rw [e]))]
  · have : (a.ID != b.ID) = true := by rw [bne_iff_ne]; exact h0
    rw [this, cond_true, cond_true, decide_eq_false (fun e => h0 (by rw [e]))]
end Go.Proofs

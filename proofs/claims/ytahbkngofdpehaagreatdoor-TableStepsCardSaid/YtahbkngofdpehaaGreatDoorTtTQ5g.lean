/- table.Sort, as its spec has it. -/
import Derived.Test.YtahbkngofdpehaaGreatDoorTtTQ4g
set_option linter.unusedVariables false
set_option linter.unusedSimpArgs false
set_option linter.unusedSectionVars false
namespace Go.Proofs
open Go Eng

theorem cmp_rows {n : Nat} {t : G_api_Table} (h : ∀ c ∈ t.Columns, ColG n c) (hm : t.Columns.length ≤ 64) {i j : Nat} (hi : i < n) (hj : j < n) : s_table_Sort_1 (i : Int) (j : Int) t = some (rowC (rowAt t i) (rowAt t j)) := by
  have hl1 : (rowAt t i).length = t.Columns.length := by unfold rowAt; simp
  have hl2 : (rowAt t j).length = t.Columns.length := by unfold rowAt; simp
  refine eq_of_wp ?_
  unfold s_table_Sort_1 s_table_Sort_1_k1
  rw [wp_bind]
  refine wp_mono (forS_wp s_table_Sort_1_l1_FB t.Columns (by omega) (fun k (_ : Unit) => ((i : Int), (j : Int), t.Columns, (t.Columns.length : Int), k)) (fun k _ => rowC (rowAt t i) (rowAt t j) = rowC ((rowAt t i).drop k) ((rowAt t j).drop k))
    (Q := fun x => match x with | .ret d => d = rowC (rowAt t i) (rowAt t j) | .brk _ => rowC (rowAt t i) (rowAt t j) = 0) () rfl ?_ ?_) ?_
  · rintro rec k _ hlt hP ih
    obtain ⟨_, hcl, hcx⟩ := h _ (List.getElem_mem hlt)
    have hic : i < t.Columns[k].Cells.length := by omega
    have hjc : j < t.Columns[k].Cells.length := by omega
    have e1 : (rowAt t i).drop k = t.Columns[k].Cells[i] :: (rowAt t i).drop (k + 1) := by
      rw [List.drop_eq_getElem_cons (by omega)]
      congr 1
      unfold rowAt; rw [List.getElem_map, getD_lt _ _ hic]
    have e2 : (rowAt t j).drop k = t.Columns[k].Cells[j] :: (rowAt t j).drop (k + 1) := by
      rw [List.drop_eq_getElem_cons (by omega)]
      congr 1
      unfold rowAt; rw [List.getElem_map, getD_lt _ _ hjc]
    rw [e1, e2] at hP
    have hP : rowC (rowAt t i) (rowAt t j) = if cellC t.Columns[k].Cells[i] t.Columns[k].Cells[j] = 0 then rowC ((rowAt t i).drop (k + 1)) ((rowAt t j).drop (k + 1)) else cellC t.Columns[k].Cells[i] t.Columns[k].Cells[j] := hP
    unfold s_table_Sort_1_l1_B s_table_Sort_1_l1_b
    dsimp only
    rw [wp_bif]
    refine ⟨fun _ => ?_, fun h => by simp only [decide_eq_false_iff_not] at h; omega⟩
    rw [wp_bind, idx_nat hlt, wp_some, wp_bind, idx_nat hic, wp_some, wp_bind, idx_nat hjc, wp_some, compare_eq, wp_bind, wp_some, wp_bif]
    refine ⟨fun hc => ?_, fun hc => ?_⟩
    · have hc : cellC t.Columns[k].Cells[i] t.Columns[k].Cells[j] ≠ 0 := by simpa using hc
      rw [wp_some]
      rw [if_neg hc] at hP
      exact hP.symm
    · have hc : cellC t.Columns[k].Cells[i] t.Columns[k].Cells[j] = 0 := by simpa using hc
      rw [if_pos hc] at hP
      rw [wp_chk]
      exact ⟨inK_i64 (by omega), ih () hP⟩
  · rintro rec _ hP
    unfold s_table_Sort_1_l1_B s_table_Sort_1_l1_b
    dsimp only
    rw [wp_bif]
    refine ⟨fun h => by simp only [decide_eq_true_eq] at h; omega, fun _ => ?_⟩
    rw [wp_some]
    rw [List.drop_of_length_le (by omega), List.drop_of_length_le (by omega)] at hP
    exact hP
  · rintro (_ | d) hx
    · rw [wp_some]; exact hx.symm
    · rw [wp_some]; exact hx

def ltT (t : G_api_Table) (x p : Int) : Bool := decide (rowC (rowAt t x.toNat) (rowAt t p.toNat) < 0)

theorem set_swap (A C : List Int) (p x : Int) : ((A ++ p :: x :: C).set (A.length + 1) p).set A.length x = A ++ x :: p :: C := by
  induction A with
  | nil => rfl
  | cons a A ih => simp only [List.cons_append, List.length_cons, List.set_cons_succ, ih]

theorem ins_inner {n : Nat} {t : G_api_Table} (h : ∀ c ∈ t.Columns, ColG n c) (hm : t.Columns.length ≤ 64) (b : Int) (i0 : Int) {A0 C0 : List Int} {x : Int} (hA : ∀ y ∈ A0, 0 ≤ y ∧ y < n) (hx : 0 ≤ x ∧ x < n) (hlen : (A0 ++ x :: C0).length ≤ 1000) :
    wp (s_slices_insertionSortCmpFunc_int_l2 big 0 b t i0 (A0.length : Int) (A0 ++ x :: C0)) (fun y => y = (0, b, t, i0, insR (ltT t) x A0 ++ C0)) := by
  refine whileS_wp s_slices_insertionSortCmpFunc_int_l2_FB (fun (s : List Int × List Int) => ((0 : Int), b, t, i0, (s.1.length : Int), s.1 ++ x :: s.2)) (fun s => (∀ y ∈ s.1, 0 ≤ y ∧ y < n) ∧ insR (ltT t) x s.1 ++ s.2 = insR (ltT t) x A0 ++ C0 ∧ (s.1 ++ x :: s.2).length ≤ 1000) (fun s => s.1.length)
    (Q := fun y => y = (0, b, t, i0, insR (ltT t) x A0 ++ C0)) (A0, C0) ⟨hA, rfl, hlen⟩ (by dsimp only; simp only [List.length_append] at hlen; omega) ?_
  rintro rec ⟨A, C⟩ ⟨hA, hR, hl⟩ ih
  dsimp only at hA hR hl ih ⊢
  unfold s_slices_insertionSortCmpFunc_int_l2_B s_slices_insertionSortCmpFunc_int_l2_b s_slices_insertionSortCmpFunc_int_j1
  dsimp only
  rcases List.eq_nil_or_concat A with rfl | ⟨A, p, rfl⟩
  · rw [wp_bif]
    refine ⟨fun h => by simp at h, fun _ => ?_⟩
    rw [cond_false, wp_some]
    rw [insR_nil] at hR
    rw [← hR]; rfl
  · rw [List.concat_eq_append] at *
    have hp := hA p (by simp)
    simp only [List.length_append, List.length_cons, List.length_nil] at hl
    have e0 : (A ++ [p]) ++ x :: C = A ++ p :: x :: C := by simp
    have ei : ((A ++ [p]).length : Int) = ((A.length + 1 : Nat) : Int) := by simp
    have ej : (((A ++ [p]).length : Int) - 1) = (A.length : Int) := by rw [ei]; omega
    have g1 : (A ++ p :: x :: C)[A.length + 1]? = some x := by simp
    have g0 : (A ++ p :: x :: C)[A.length]? = some p := by simp
    rw [wp_bif]
    refine ⟨fun _ => ?_, fun h => by simp only [decide_eq_false_iff_not, ei] at h; omega⟩
    rw [ej, ei, e0]
    simp only [Int.toNat_natCast, g1, g0, Option.bind_some]
    have lx : inR ((A.length + 1 : Nat) : Int) ((A ++ p :: x :: C).length : Int) = true := inR_ok ⟨by omega, by simp only [List.length_append, List.length_cons]; omega⟩
    have lp : inR (A.length : Int) ((A ++ p :: x :: C).length : Int) = true := inR_ok ⟨by omega, by simp only [List.length_append, List.length_cons]; omega⟩
    have lp' : inR (A.length : Int) (((A ++ p :: x :: C).set (A.length + 1) p).length : Int) = true := by rw [List.length_set]; exact lp
    have ki : inK .i64 (A.length : Int) = true := inK_i64 (by omega)
    rw [lx, lp, lp', ki]
    simp only [chk_true]
    have hxx : x = ((x.toNat : Nat) : Int) := by omega
    have hpp : p = ((p.toNat : Nat) : Int) := by omega
    have hcmp : s_table_Sort_1 x p t = some (rowC (rowAt t x.toNat) (rowAt t p.toNat)) := by
      have := cmp_rows h hm (i := x.toNat) (j := p.toNat) (by omega) (by omega)
      rwa [← hxx, ← hpp] at this
    rw [hcmp, wp_bind, wp_some]
    rw [insR_snoc] at hR
    have hlt : ltT t x p = decide (rowC (rowAt t x.toNat) (rowAt t p.toNat) < 0) := rfl
    rw [wp_bif]
    refine ⟨fun hc => ?_, fun hc => ?_⟩
    · rw [hlt, if_pos hc] at hR
      rw [set_swap]
      have := ih (A, p :: C) ⟨fun y hy => hA y (by simp [hy]), by rw [← hR]; simp, by simp only [List.length_append, List.length_cons]; omega⟩ (by simp)
      exact this
    · rw [hlt, if_neg (by rw [hc]; simp)] at hR
      rw [wp_some, ← hR]
      simp

theorem ins_eq {n : Nat} {t : G_api_Table} (h : ∀ c ∈ t.Columns, ColG n c) (hm : t.Columns.length ≤ 64) {D : List Int} (hD : ∀ y ∈ D, 0 ≤ y ∧ y < n) (hl : D.length ≤ 1000) :
    s_slices_insertionSortCmpFunc_int_w D 0 (D.length : Int) t = some (isort (ltT t) D) := by
  have key : s_slices_insertionSortCmpFunc_int D 0 (D.length : Int) t = some (isort (ltT t) D) := by
    refine eq_of_wp ?_
    unfold s_slices_insertionSortCmpFunc_int s_slices_insertionSortCmpFunc_int_k3
    rw [wp_chk, wp_bind]
    refine ⟨inK_i64 (by omega), ?_⟩
    have inv : ∀ (i : Nat), i ≤ D.length → ∀ y ∈ isort (ltT t) (D.take i), 0 ≤ y ∧ y < n := fun i _ y hy => hD y (List.mem_of_mem_take ((isort_perm _).mem_iff.1 hy))
    -- the outer loop starts at 1
    have out : ∀ (k f : Nat), k + 1 ≤ D.length → D.length - (k + 1) < f → wp (s_slices_insertionSortCmpFunc_int_l1 f 0 (D.length : Int) t ((k + 1 : Nat) : Int) (isort (ltT t) (D.take (k + 1)) ++ D.drop (k + 1))) (fun y => y = isort (ltT t) D) := by
      intro k f
      induction f generalizing k with
      | zero => intro _ h; omega
      | succ f ih =>
        intro hk hf
        show wp (s_slices_insertionSortCmpFunc_int_l1_b _ _ _ _ _ _) _
        unfold s_slices_insertionSortCmpFunc_int_l1_b s_slices_insertionSortCmpFunc_int_k2
        rw [wp_bif]
        refine ⟨fun hc => ?_, fun hc => ?_⟩
        · simp only [decide_eq_true_eq] at hc
          have hk2 : k + 1 < D.length := by omega
          have hlen : (isort (ltT t) (D.take (k + 1))).length = k + 1 := by rw [isort_len, List.length_take]; omega
          have e : D.drop (k + 1) = D[k + 1] :: D.drop (k + 2) := List.drop_eq_getElem_cons hk2
          rw [e]
          have := ins_inner h hm (D.length : Int) ((k + 1 : Nat) : Int) (A0 := isort (ltT t) (D.take (k + 1))) (C0 := D.drop (k + 2)) (x := D[k + 1]) (inv _ hk) (hD _ (List.getElem_mem _)) (by simp only [List.length_append, List.length_cons, hlen, List.length_drop]; omega)
          rw [hlen] at this
          rw [wp_bind]
          refine wp_mono this ?_
          rintro y rfl
          dsimp only
          rw [wp_chk]
          refine ⟨inK_i64 (by omega), ?_⟩
          have e2 : insR (ltT t) D[k + 1] (isort (ltT t) (D.take (k + 1))) = isort (ltT t) (D.take (k + 2)) := by
            rw [List.take_succ_eq_append_getElem hk2, isort_snoc]
          rw [e2]
          have := ih (k + 1) (by omega) (by omega)
          rw [show ((k + 1 : Nat) : Int) + 1 = ((k + 1 + 1 : Nat) : Int) by omega]
          exact this
        · simp only [decide_eq_false_iff_not] at hc
          have : k + 1 = D.length := by omega
          rw [wp_some, this, List.take_length, List.drop_of_length_le (Nat.le_refl _), List.append_nil]
    by_cases h0 : D.length = 0
    · have : D = [] := List.eq_nil_of_length_eq_zero h0
      subst this
      exact ⟨[], rfl, wp_some.2 rfl⟩
    · have := out 0 big (by omega) (by rw [big_eq]; omega)
      have e : isort (ltT t) (D.take (0 + 1)) ++ D.drop (0 + 1) = D := by
        cases D with
        | nil => simp at h0
        | cons x D => rfl
      rw [e] at this
      refine wp_mono this ?_
      rintro y rfl
      rw [wp_some]
  unfold s_slices_insertionSortCmpFunc_int_w
  rw [key, Option.bind_some, isort_len, decide_eq_true rfl]
  rfl

def idxL (n : Nat) : List Int := (List.range n).map fun (k : Nat) => (k : Int)
theorem idxL_len (n : Nat) : (idxL n).length = n := by unfold idxL; simp
theorem idxL_mem {n : Nat} {y : Int} (h : y ∈ idxL n) : 0 ≤ y ∧ y < n := by
  obtain ⟨k, hk, rfl⟩ := List.mem_map.1 h
  have := List.mem_range.1 hk
  omega

theorem stable_eq {n : Nat} {t : G_api_Table} (h : ∀ c ∈ t.Columns, ColG n c) (hm : t.Columns.length ≤ 64) {D : List Int} (hD : ∀ y ∈ D, 0 ≤ y ∧ y < n) (hl : D.length ≤ 19) : s_slices_SortStableFunc_int_int_w D t = some (isort (ltT t) D) := by
  have key : s_slices_stableCmpFunc_int D (D.length : Int) t = some (isort (ltT t) D) := by
    unfold s_slices_stableCmpFunc_int
    have l1 : s_slices_stableCmpFunc_int_l1 big (D.length : Int) t 20 0 20 D = some ((D.length : Int), t, 20, 0, D) := by
      obtain ⟨k, hk⟩ := big_add 1 (by omega)
      rw [hk]
      show s_slices_stableCmpFunc_int_l1_b _ _ _ _ _ _ _ = _
      unfold s_slices_stableCmpFunc_int_l1_b
      rw [decide_eq_false (by omega), cond_false]
    rw [l1, Option.bind_some]
    dsimp only
    unfold s_slices_stableCmpFunc_int_k1 s_slices_stableCmpFunc_int_k3
    rw [ins_eq h hm hD (by omega), Option.bind_some]
    have l2 : s_slices_stableCmpFunc_int_l2 big (D.length : Int) t 20 (isort (ltT t) D) = some (isort (ltT t) D) := by
      obtain ⟨k, hk⟩ := big_add 1 (by omega)
      rw [hk]
      show s_slices_stableCmpFunc_int_l2_b _ _ _ _ _ = _
      unfold s_slices_stableCmpFunc_int_l2_b
      rw [decide_eq_false (by omega), cond_false]
    rw [l2, Option.bind_some]
  unfold s_slices_SortStableFunc_int_int_w s_slices_SortStableFunc_int_int s_slices_stableCmpFunc_int_w
  rw [key]
  simp only [Option.bind_some, isort_len, decide_true, Bool.and_self, chk_true]

theorem fill_eq (t : G_api_Table) (n : Nat) (hn : n ≤ 100000) (a : Int) (b : Str) (c : List G_api_Column) : wp (s_table_Sort_l1 big (n : Int) 0 t a b (List.replicate n 0) c) (fun y => y = (t, a, b, idxL n, c)) := by
  refine uptoS_wp s_table_Sort_l1_FB n (by omega) (fun i (o : List Int) => ((n : Int), i, t, a, b, o, c)) (fun i o => o = idxL i ++ List.replicate (n - i) 0) (List.replicate n 0) (by simp [idxL]) ?_ ?_
  · rintro rec i o hlt rfl ih
    unfold s_table_Sort_l1_B s_table_Sort_l1_b
    dsimp only
    rw [wp_bif]
    refine ⟨fun _ => ?_, fun h => by simp only [decide_eq_false_iff_not] at h; omega⟩
    rw [wp_chk, wp_chk]
    refine ⟨inR_ok ⟨by omega, by simp only [List.length_append, idxL_len, List.length_replicate]; omega⟩, inK_i64 (by omega), ?_⟩
    refine ih _ ?_
    have e : n - i = (n - (i + 1)) + 1 := by omega
    have e2 : idxL (i + 1) = idxL i ++ [(i : Int)] := by unfold idxL; rw [List.range_succ, List.map_append]; rfl
    rw [e, List.replicate_succ, e2, Int.toNat_natCast, List.set_append_right _ _ (by rw [idxL_len]; exact Nat.le_refl _), idxL_len, Nat.sub_self]
    simp
  · rintro rec o rfl
    unfold s_table_Sort_l1_B s_table_Sort_l1_b
    dsimp only
    rw [wp_bif]
    refine ⟨fun h => by simp only [decide_eq_true_eq] at h; omega, fun _ => ?_⟩
    rw [wp_some, Nat.sub_self]
    simp

def orderT (t : G_api_Table) : List Int := isort (ltT t) (idxL (rowsS t).toNat)
theorem orderT_mem {t : G_api_Table} {y : Int} (h : y ∈ orderT t) : 0 ≤ y ∧ y < ((rowsS t).toNat : Int) := idxL_mem ((isort_perm _).mem_iff.1 h)
theorem orderT_len (t : G_api_Table) : (orderT t).length = (rowsS t).toNat := by unfold orderT; rw [isort_len, idxL_len]

theorem sort_eq {m r : Nat} {t : G_api_Table} (h : TabG m r t) (hm : m ≤ 64) (hr : r ≤ 19) (hid : True) : s_table_Sort t = some (selT t (orderT t), 0) := by
  obtain ⟨hnm, hcl, n, hn, hc⟩ := h
  have hpos : 0 ≤ rowsS t := by rcases rowsS_of hc with ⟨_, h0⟩ | h0 <;> rw [h0] <;> omega
  have hbig : (rowsS t).toNat ≤ 19 := by rcases rowsS_of hc with ⟨_, h0⟩ | h0 <;> rw [h0] <;> omega
  have hin : ∀ y ∈ idxL (rowsS t).toNat, 0 ≤ y ∧ y < (n : Int) := fun y hy => by
    have := idxL_mem hy
    rcases rowsS_of hc with ⟨_, h0⟩ | h0
    · rw [h0] at this; simp at this; omega
    · rw [h0] at this; simpa using this
  refine eq_of_wp ?_
  unfold s_table_Sort
  rw [rows_eq, wp_bind, wp_some, wp_chk]
  have e : rowsS t = ((rowsS t).toNat : Int) := (Int.toNat_of_nonneg hpos).symm
  refine ⟨decide_eq_true (by unfold roomB; omega), ?_⟩
  rw [List.length_replicate, wp_bind]
  refine wp_mono (fill_eq t (rowsS t).toNat (by omega) 0 [] []) ?_
  rintro y rfl
  dsimp only
  unfold s_table_Sort_k1 s_table_Sort_j2
  rw [tvalid_eq ⟨hnm, hcl, n, hn, hc⟩ hm (by omega) hid, wp_bind, wp_some, cond_true, stable_eq hc (by omega) hin (by rw [idxL_len]; exact hbig), wp_bind, wp_some]
  have hsel := select_eq ⟨hnm, hcl, n, hn, hc⟩ hm (by omega) hid (rows := orderT t) (by rw [orderT_len]; omega) (fun k hk => by have := orderT_mem hk; omega)
  unfold orderT at hsel ⊢
  rw [hsel, wp_bind, wp_some, wp_some]
end Go.Proofs

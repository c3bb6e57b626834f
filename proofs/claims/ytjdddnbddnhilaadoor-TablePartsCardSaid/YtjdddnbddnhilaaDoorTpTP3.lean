/- The law TableParts. -/
import Derived.Test.YtjdddnbddnhilaaDoorTpTP2
set_option linter.unusedVariables false
set_option linter.unusedSimpArgs false
set_option linter.unusedSectionVars false
namespace Go.Proofs
open Go Eng

theorem sane03' : sl03_sane = some true := by kernel_rfl

theorem parts_two {t : GaTable} (ht : TabM 4 6 t) (hid : t.ID = 1) {rows : List Int} (hl : rows.length ≤ 10) (hk : ∀ k ∈ rows, 0 ≤ k ∧ k < rowsT t) {d : G_tablefindermill_Dice} (hd : DMOk d) (hne : t.Columns ≠ []) :
    wp (sl03_TableParts_j5 rows false d t [] (selT t rows)) (· = true) := by
  unfold sl03_TableParts_j5
  rw [cond_false, wp_bif]
  refine ⟨fun h => ?_, fun h => ?_⟩
  · rw [rows_eq, wp_bind, wp_some, rowsT_sel hne, h, wp_some]
  · have hne : (rows.length : Int) ≠ 0 := beq_eq_false_iff_ne.1 h
    rw [wp_bind]
    refine wp_mono (pick_wp hd (by omega)) fun ⟨k, d1⟩ ⟨hkk, hd1⟩ => ?_
    dsimp only at hkk hd1 ⊢
    rw [wp_bind]
    refine wp_mono (whileS_wp sl03_TableParts_l4_FB (fun (s : Int × G_tablefindermill_Dice × List Int) => (rows, s.1, s.2.1, t, s.2.2, selT t rows, s.2.2.map fun k => rows.getD k.toNat 0))
      (fun s => (0 ≤ s.1 ∧ s.1 + s.2.2.length ≤ 5) ∧ DMOk s.2.1 ∧ ∀ k ∈ s.2.2, 0 ≤ k ∧ k < (rows.length : Int)) (fun s => s.1.toNat) (Q := fun x => ∃ l : List Int, x = (t, l, selT t rows, l.map fun k => rows.getD k.toNat 0) ∧ l.length ≤ 5 ∧ ∀ k ∈ l, 0 ≤ k ∧ k < (rows.length : Int)) (k, d1, []) ⟨by simp; omega, hd1, by simp⟩ (by dsimp only; omega) ?_) ?_
    · rintro rec ⟨k, d, l⟩ ⟨⟨h0, h1⟩, hd, hP⟩ ih
      dsimp only at h0 h1 hd hP ih
      unfold sl03_TableParts_l4_B sl03_TableParts_l4_b
      dsimp only
      rw [wp_bif]
      refine ⟨fun h => ?_, fun _ => by rw [wp_some]; exact ⟨l, rfl, by omega, hP⟩⟩
      simp only [decide_eq_true_eq] at h
      rw [wp_bind]
      refine wp_mono (pick_wp hd (by omega)) fun ⟨n, d2⟩ ⟨hn, hd2⟩ => ?_
      dsimp only at hn hd2 ⊢
      have hlt : n.toNat < rows.length := by omega
      rw [wp_chk, wp_bind, idx_some hn.1 hlt, wp_some, wp_chk, wp_chk]
      refine ⟨room_ok (by simp only [List.length_singleton]; omega), room_ok (by simp only [List.length_map, List.length_singleton]; omega), inK_i64 (by omega), ?_⟩
      have := ih (k - 1, d2, l ++ [n]) ⟨by simp; omega, hd2, fun z hz => by
        rcases List.mem_append.1 hz with hz | hz
        · exact hP z hz
        · simp only [List.mem_singleton] at hz; subst hz; exact hn⟩ (by dsimp only; omega)
      dsimp only at this
      rw [List.map_append, List.map_cons, List.map_nil, getD_lt _ _ hlt] at this
      exact this
    · rintro x ⟨l, rfl, hll, hP⟩
      dsimp only
      unfold sl03_TableParts_k6 sl03_TableParts_j7
      have hsel := tabM_sel ht hk hl
      have hrs : rowsT (selT t rows) = (rows.length : Int) := rowsT_sel ‹_› rows
      have hone : ∀ z ∈ l.map fun k => rows.getD k.toNat 0, 0 ≤ z ∧ z < rowsT t := fun z hz => by
        obtain ⟨k, hkm, rfl⟩ := List.mem_map.1 hz
        have := hP k hkm
        have hlt : k.toNat < rows.length := by omega
        rw [getD_lt _ _ hlt]
        exact hk _ (List.getElem_mem hlt)
      have hidS : (selT t rows).ID = 1 := hid
      rw [select_eq hsel (by omega) (by omega) (by omega) (by omega) (by rw [hrs]; exact hP), wp_bind, wp_some, select_eq ht (by omega) (by omega) (by omega) (by simp only [List.length_map]; omega) hone, wp_bind, wp_some]
      dsimp only
      rw [beq_self_eq_true, cond_true, cond_true, sel_twice t rows l hP, same_eq (tabM_sel ht hone (r' := 5) (by simp only [List.length_map]; omega)) (by omega) (by omega), wp_bind, wp_some, wp_some]

theorem parts_one {t : GaTable} (ht : TabM 4 6 t) (hid : t.ID = 1) {rows cols : List Int} (hl : rows.length ≤ 10) (hk : ∀ k ∈ rows, 0 ≤ k ∧ k < rowsT t) (hlc : cols.length ≤ 10) (hkc : ∀ k ∈ cols, 0 ≤ k ∧ k < (t.Columns.length : Int)) (hcne : cols ≠ []) {d : G_tablefindermill_Dice} (hd : DMOk d) (hne : t.Columns ≠ []) :
    wp (sl03_TableParts_k3 d t rows cols [] []) (· = true) := by
  obtain ⟨n, hn6, hcols⟩ := ht.2.2
  have hrow : rowsT t = (n : Int) := (rowsT_of hcols).resolve_left fun h => hne h.1
  unfold sl03_TableParts_k3
  rw [wp_bind]
  refine wp_mono (uptoS_wp sl03_TableParts_l3_FB n (by omega) (fun i (o : List Int) => (i, d, t, rows, cols, o, [])) (fun i o => o = (List.range i).map fun (k : Nat) => (k : Int)) (Q := fun x => x = (d, t, rows, cols, (List.range n).map fun (k : Nat) => (k : Int), [])) [] rfl (fun rec i o hlt hP ih => ?_) (fun rec o hP => ?_)) ?_
  · subst hP
    unfold sl03_TableParts_l3_B sl03_TableParts_l3_b
    dsimp only
    rw [rows_eq, wp_bind, wp_some, hrow, wp_bif]
    refine ⟨fun _ => ?_, fun h => by simp only [decide_eq_false_iff_not] at h; omega⟩
    rw [wp_chk, wp_chk]
    refine ⟨room_ok (by simp only [List.length_map, List.length_range, List.length_singleton]; omega), inK_i64 (by omega), ih _ ?_⟩
    rw [List.range_succ, List.map_append]; rfl
  · subst hP
    unfold sl03_TableParts_l3_B sl03_TableParts_l3_b
    dsimp only
    rw [rows_eq, wp_bind, wp_some, hrow, wp_bif]
    exact ⟨fun h => by simp only [decide_eq_true_eq] at h; omega, fun _ => by rw [wp_some]⟩
  · rintro x rfl
    dsimp only
    unfold sl03_TableParts_k4
    have hsel := tabM_sel ht hk hl
    have hproj := tabM_proj ht hkc hlc
    have hidS : (selT t rows).ID = 1 := hid
    have hidP : (projT t cols).ID = 1 := hid
    have hcl : (selT t rows).Columns.length = t.Columns.length := by simp [selT]
    have hpne : (projT t cols).Columns ≠ [] := by
      cases hc : cols with
      | nil => exact absurd hc hcne
      | cons a b => simp [projT]
    have hprow : rowsT (projT t cols) = (n : Int) := by
      have h2 : ∀ c ∈ (projT t cols).Columns, ColM n c := fun c hc => by
        obtain ⟨k, hkm, rfl⟩ := List.mem_map.1 hc
        have := hkc k hkm
        have hlt : k.toNat < t.Columns.length := by omega
        rw [getD_lt _ _ hlt]
        exact hcols _ (List.getElem_mem hlt)
      exact (rowsT_of h2).resolve_left fun h => hpne h.1
    have hall : ∀ z ∈ (List.range n).map fun (k : Nat) => (k : Int), 0 ≤ z ∧ z < rowsT t := fun z hz => by
      obtain ⟨k, hkm, rfl⟩ := List.mem_map.1 hz
      have := List.mem_range.1 hkm
      omega
    rw [select_eq ht (by omega) (by omega) (by omega) (by omega) hk, wp_bind, wp_some]
    dsimp only
    rw [project_eq hsel (by omega) (by omega) (by omega) (by omega) (by rw [hcl]; exact hkc), wp_bind, wp_some]
    dsimp only
    rw [project_eq ht (by omega) (by omega) (by omega) (by omega) hkc, wp_bind, wp_some]
    dsimp only
    rw [select_eq hproj (by omega) (by omega) (by omega) (by omega) (by rw [hprow, ← hrow]; exact hk), wp_bind, wp_some]
    dsimp only
    rw [select_eq ht (by omega) (by omega) (by omega) (by simp only [List.length_map, List.length_range]; omega) hall, wp_bind, wp_some]
    dsimp only
    rw [bne_self_eq_false, cond_false, cond_false, cond_false, cond_false, cond_false, sel_proj t rows cols hkc, same_eq (tabM_sel hproj (rows := rows) (by rw [hprow, ← hrow]; exact hk) (Nat.le_refl _)) (by omega) (by omega), wp_bind, wp_some, Bool.not_true, cond_false, sel_all (fun c hc => (hcols c hc).2.1), same_eq ht (by omega) (by omega), wp_bind, wp_some, Bool.not_true]
    exact parts_two ht hid hl hk hd hne

theorem tableParts_law (s : List Int) (hs : ∀ x ∈ s, 0 ≤ x ∧ x ≤ 255) : sl03_TableParts s = some true := by
  refine eq_of_wp ?_
  unfold sl03_TableParts
  rw [sane03', wp_bind, wp_some, Bool.not_true, cond_false, wp_bind]
  refine wp_mono (new_wp hs) fun d hd => ?_
  rw [wp_bind]
  refine wp_mono (mtable_wp hd 1 (m := 4) (r := 6) (by omega) (by omega)) fun ⟨t, d1⟩ ⟨⟨ht, hid⟩, hd1⟩ => ?_
  dsimp only at ht hid hd1 ⊢
  have empty : rowsT t = 0 → wp (sl03_TableParts_j1 true d1 t) (· = true) := fun h => by
    unfold sl03_TableParts_j1
    rw [cond_true, rows_eq, wp_bind, wp_some, wp_some, h]; rfl
  rw [wp_bif]
  refine ⟨fun h => ?_, fun h => ?_⟩
  · refine empty ?_
    have h0 : t.Columns.length = 0 := by have := beq_iff_eq.1 h; omega
    unfold rowsT
    rw [List.length_eq_zero_iff.1 h0]
  · have hne : t.Columns ≠ [] := fun h0 => by rw [h0] at h; cases h
    rw [rows_eq, wp_bind, wp_some]
    cases h0 : rowsT t == 0 with
    | true => exact empty (beq_iff_eq.1 h0)
    | false =>
      have hr0 : rowsT t ≠ 0 := beq_eq_false_iff_ne.1 h0
      have hpos : 1 ≤ rowsT t := by
        obtain ⟨n, _, hcols⟩ := ht.2.2
        rcases rowsT_of hcols with ⟨h1, _⟩ | h1
        · exact absurd h1 hne
        · omega
      have hcpos : 1 ≤ t.Columns.length := by
        cases hc : t.Columns with
        | nil => exact absurd hc hne
        | cons a b => simp
      unfold sl03_TableParts_j1
      rw [cond_false, wp_bind]
      refine wp_mono (pick_wp hd1 (by omega)) fun ⟨k, d2⟩ ⟨hk, hd2⟩ => ?_
      dsimp only at hk hd2 ⊢
      rw [wp_bind]
      refine wp_mono (whileS_wp sl03_TableParts_l1_FB (fun (s : Int × G_tablefindermill_Dice × List Int) => (s.1, s.2.1, t, s.2.2, [], [], []))
        (fun s => (0 ≤ s.1 ∧ s.1 + s.2.2.length ≤ 6) ∧ DMOk s.2.1 ∧ ∀ k ∈ s.2.2, 0 ≤ k ∧ k < rowsT t) (fun s => s.1.toNat) (Q := fun x => ∃ d l, x = (d, t, l, [], [], []) ∧ DMOk d ∧ l.length ≤ 6 ∧ ∀ k ∈ l, 0 ≤ k ∧ k < rowsT t) (k, d2, []) ⟨by simp; omega, hd2, by simp⟩ (by dsimp only; omega) ?_) ?_
      · rintro rec ⟨k, d, l⟩ ⟨⟨h0, h1⟩, hd, hP⟩ ih
        dsimp only at h0 h1 hd hP ih
        unfold sl03_TableParts_l1_B sl03_TableParts_l1_b
        dsimp only
        rw [wp_bif]
        refine ⟨fun h => ?_, fun _ => by rw [wp_some]; exact ⟨d, l, rfl, hd, by omega, hP⟩⟩
        simp only [decide_eq_true_eq] at h
        rw [rows_eq, wp_bind, wp_some, wp_bind]
        refine wp_mono (pick_wp hd hpos) fun ⟨n, d2⟩ ⟨hn, hd2⟩ => ?_
        dsimp only at hn hd2 ⊢
        rw [wp_chk, wp_chk]
        refine ⟨room_ok (by simp only [List.length_singleton]; omega), inK_i64 (by omega), ih (k - 1, d2, l ++ [n]) ⟨by simp; omega, hd2, fun z hz => ?_⟩ (by dsimp only; omega)⟩
        rcases List.mem_append.1 hz with hz | hz
        · exact hP z hz
        · simp only [List.mem_singleton] at hz; subst hz; exact hn
      · rintro x ⟨d3, rows, rfl, hd3, hl, hrows⟩
        dsimp only
        unfold sl03_TableParts_k2
        rw [wp_bind]
        refine wp_mono (pick_wp hd3 (by omega)) fun ⟨q, d4⟩ ⟨hq, hd4⟩ => ?_
        dsimp only at hq hd4 ⊢
        rw [wp_chk, wp_bind]
        refine ⟨inK_i64 (by omega), wp_mono (whileS_wp sl03_TableParts_l2_FB (fun (s : Int × G_tablefindermill_Dice × List Int) => (s.1, s.2.1, t, rows, s.2.2, [], []))
          (fun s => ((0 ≤ s.1 ∧ s.1 + s.2.2.length ≤ 4) ∧ 1 ≤ s.1 + s.2.2.length) ∧ DMOk s.2.1 ∧ ∀ k ∈ s.2.2, 0 ≤ k ∧ k < (t.Columns.length : Int)) (fun s => s.1.toNat) (Q := fun x => ∃ d l, x = (d, t, rows, l, [], []) ∧ DMOk d ∧ (l.length ≤ 4 ∧ l ≠ []) ∧ ∀ k ∈ l, 0 ≤ k ∧ k < (t.Columns.length : Int)) (1 + q, d4, []) ⟨by simp; omega, hd4, by simp⟩ (by dsimp only; omega) ?_) ?_⟩
        · rintro rec ⟨k, d, l⟩ ⟨⟨⟨h0, h1⟩, h2⟩, hd, hP⟩ ih
          dsimp only at h0 h1 h2 hd hP ih
          unfold sl03_TableParts_l2_B sl03_TableParts_l2_b
          dsimp only
          rw [wp_bif]
          refine ⟨fun h => ?_, fun h => ?_⟩
          · simp only [decide_eq_true_eq] at h
            rw [wp_bind]
            refine wp_mono (pick_wp hd (by omega)) fun ⟨n, d2⟩ ⟨hn, hd2⟩ => ?_
            dsimp only at hn hd2 ⊢
            rw [wp_chk, wp_chk]
            refine ⟨room_ok (by simp only [List.length_singleton]; omega), inK_i64 (by omega), ih (k - 1, d2, l ++ [n]) ⟨by simp; omega, hd2, fun z hz => ?_⟩ (by dsimp only; omega)⟩
            rcases List.mem_append.1 hz with hz | hz
            · exact hP z hz
            · simp only [List.mem_singleton] at hz; subst hz; exact hn
          · simp only [decide_eq_false_iff_not] at h
            rw [wp_some]
            exact ⟨d, l, rfl, hd, ⟨by omega, fun e => by rw [e] at h2; simp at h2; omega⟩, hP⟩
        · rintro x ⟨d5, cols, rfl, hd5, ⟨hlc, hcne⟩, hcols⟩
          dsimp only
          exact parts_one ht hid (by omega) hrows (by omega) hcols hcne hd5 hne
end Go.Proofs

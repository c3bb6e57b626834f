/- Lists of tables that the kit makes, some of which are made of others. -/
import Derived.Test.YtahbkngofdpehaaDoorAaMK
import Derived.Test.YtahbkngofdpehaaDoorAaRTr
set_option linter.unusedVariables false
set_option linter.unusedSimpArgs false
set_option linter.unusedSectionVars false
namespace Go.Proofs
open Go Eng

theorem rowsS_in {t : G_api_Table} {r : Nat} (h : ∀ c ∈ t.Columns, ColIn r c) (h0 : t.Columns ≠ []) : rowsS t = r := by
  rw [rowsS_eq]
  cases hc : t.Columns with
  | nil => exact absurd hc h0
  | cons c l => rw [hc] at h; simp only [rowsL]; rw [(h c (by simp)).2.1]
theorem textsOk_in {t : G_api_Table} (h : TabIn t) : TextsOk t := by
  obtain ⟨hn, hc, r, hr, hx⟩ := h
  have e := short_of hn
  refine ⟨by omega, fun c hcm => ?_⟩
  have h1 := hx c hcm
  have e1 := short_of h1.1
  exact ⟨by omega, fun x hxm => by have := short_of (h1.2.2 x hxm).1; omega⟩
theorem rvalid_in {t : G_api_Table} (h : TabIn t) : s_tablefinderref03_Valid t = some (tableS t) := rtable_eq t (textsOk_in h) (by have := h.2.1; omega)
theorem rowsS_le {t : G_api_Table} (h : TabIn t) : 0 ≤ rowsS t ∧ rowsS t ≤ 6 ∧ ∀ c ∈ t.Columns, (c.Cells.length : Int) = rowsS t := by
  obtain ⟨_, _, r, hr, hc⟩ := h
  by_cases h0 : t.Columns = []
  · rw [rowsS_eq, h0]; exact ⟨by simp [rowsL], by simp [rowsL], by simp⟩
  · rw [rowsS_in hc h0]; exact ⟨by omega, by omega, fun c hcm => by rw [(hc c hcm).2.1]⟩

theorem next0_wp {d : G_tablefinderkit_Dice} (hd : DiceOk d) {n : Int} (hn : 0 ≤ n ∧ n ≤ 1000000) : wp (s_tablefinderkit_Dice_Next d n) (fun r => (0 ≤ r.1 ∧ (1 ≤ n → r.1 < n) ∧ (n = 0 → r.1 = 0)) ∧ DiceOk r.2) := by
  by_cases h : 1 ≤ n
  · exact wp_mono (next_wp hd ⟨h, hn.2⟩) fun r hr => ⟨⟨hr.1.1, fun _ => hr.1.2, fun h0 => by omega⟩, hr.2⟩
  · have h0 : n = 0 := by omega
    subst h0
    unfold s_tablefinderkit_Dice_Next
    have hd0 := hd
    obtain ⟨a0, a1, a2⟩ := hd0
    rw [wp_bif]
    refine ⟨fun h => ?_, fun h => ?_⟩
    · rw [wp_some]; exact ⟨⟨Int.le_refl _, fun h => absurd h (by omega), fun _ => rfl⟩, hd⟩
    · simp only [decide_eq_false_iff_not] at h
      simp only [wp_chk, wp_bind, wp_idx, wp_some]
      refine ⟨inK_i64 (by omega), inK_i64 (by omega), by omega, by omega, ?_⟩
      unfold s_tablefinderkit_Mod
      rw [show decide ((0 : Int) < 1) = true from rfl, cond_true, wp_some]
      exact ⟨⟨Int.le_refl _, fun h => absurd h (by omega), fun _ => rfl⟩, by simp only [DiceOk]; omega⟩

/-! ## Operations -/
structure OpIn (o : G_api_Op) : Prop where
  text : o.Text ∈ texts
  cols : o.Columns.length ≤ 3

theorem cols_loop {d : G_tablefinderkit_Dice} (hd : DiceOk d) {n q : Int} (hn : 0 ≤ n ∧ n ≤ 1000000) (hq : 0 ≤ q ∧ q ≤ 2) (a b : Int) (c : Str) (o1 o2 : Int) (o3 : Str) :
    wp (s_tablefinderkit_Op_l1 big n (1 + q) d a b c o1 o2 o3 [] []) (fun x => DiceOk x.1 ∧ x.2.2.2.2.1 = o1 ∧ x.2.2.2.2.2.1 = o2 ∧ x.2.2.2.2.2.2.1 = o3 ∧ x.2.2.2.2.2.2.2.2.length ≤ 3) := by
  refine whileS_wp s_tablefinderkit_Op_l1_FB (fun (s : Int × G_tablefinderkit_Dice × List Int) => (n, s.1, s.2.1, a, b, c, o1, o2, o3, [], s.2.2)) (fun s => DiceOk s.2.1 ∧ 0 ≤ s.1 ∧ s.1 + s.2.2.length ≤ 3) (fun s => s.1.toNat) (1 + q, d, []) ⟨hd, by dsimp only; omega, by simp; omega⟩ (by dsimp only; omega) ?_
  rintro rec ⟨k, d, l⟩ ⟨hd, hk, hl⟩ ih
  dsimp only at hd hk hl ih
  unfold s_tablefinderkit_Op_l1_B s_tablefinderkit_Op_l1_b s_tablefinderkit_Op_j3
  dsimp only
  have stop : wp (some (d, a, b, c, o1, o2, o3, ([] : List Int), l) : Option (G_tablefinderkit_Dice × Int × Int × Str × Int × Int × Str × (List Int) × (List Int))) (fun x => DiceOk x.1 ∧ x.2.2.2.2.1 = o1 ∧ x.2.2.2.2.2.1 = o2 ∧ x.2.2.2.2.2.2.1 = o3 ∧ x.2.2.2.2.2.2.2.2.length ≤ 3) := by
    rw [wp_some]; exact ⟨hd, rfl, rfl, rfl, by dsimp only; omega⟩
  rw [wp_bif]
  refine ⟨fun h => ?_, fun _ => ?_⟩
  · simp only [decide_eq_true_eq] at h
    rw [wp_bif]
    refine ⟨fun h2 => ?_, fun _ => stop⟩
    simp only [decide_eq_true_eq] at h2
    rw [wp_bind]
    refine wp_mono (next_wp hd (by omega)) fun ⟨q, d2⟩ ⟨hq, hd2⟩ => ?_
    dsimp only at hq hd2 ⊢
    rw [wp_chk, wp_chk]
    exact ⟨room_ok (by simp only [List.length_singleton]; omega), inK_i64 (by omega), ih (k - 1, d2, l ++ [q]) ⟨hd2, by dsimp only; omega, by simp; omega⟩ (by dsimp only; omega)⟩
  · rw [cond_false]; exact stop

theorem op_wp {d : G_tablefinderkit_Dice} (hd : DiceOk d) {t : G_api_Table} (ht : TabIn t) : wp (s_tablefinderkit_Op d t) (fun r => OpIn r.1 ∧ DiceOk r.2) := by
  have hl := ht.2.1
  have nil_in : ([] : Str) ∈ texts := by decide
  have j2 : ∀ (kd : Int) (b : Bool) (d' : G_tablefinderkit_Dice), DiceOk d' → wp (s_tablefinderkit_Op_j2 (t.Columns.length : Int) kd b d' 0 0 [] kd 0 [] [] []) (fun r => OpIn r.1 ∧ DiceOk r.2) := fun kd b d' hd' => by
    unfold s_tablefinderkit_Op_j2 s_tablefinderkit_Op_j5 s_tablefinderkit_Op_j6 s_tablefinderkit_Op_k4 s_tablefinderkit_Op_j6
    rw [wp_bif]
    refine ⟨fun _ => ?_, fun _ => ?_⟩
    · rw [wp_bind]
      exact wp_mono (next0_wp hd' (by omega)) fun ⟨q, d2⟩ ⟨_, hd2⟩ => by
        dsimp only at hd2 ⊢
        rw [wp_some]; exact ⟨⟨nil_in, by simp⟩, hd2⟩
    · rw [wp_bif]
      refine ⟨fun _ => ?_, fun _ => by rw [wp_some]; exact ⟨⟨nil_in, by simp⟩, hd'⟩⟩
      rw [wp_bind]
      refine wp_mono (next_wp hd' (by omega)) fun ⟨q, d2⟩ ⟨hq, hd2⟩ => ?_
      dsimp only at hq hd2 ⊢
      rw [wp_chk, wp_bind]
      refine ⟨inK_i64 (by omega), wp_mono (cols_loop hd2 (by omega) (by omega) _ _ _ _ _ _) ?_⟩
      rintro ⟨d3, x1, x2, x3, x4, x5, x6, x7, x8⟩ ⟨h1, h2, h3, h4, h5⟩
      dsimp only at h1 h2 h3 h4 h5 ⊢
      rw [wp_some]; subst h4; exact ⟨⟨nil_in, h5⟩, h1⟩
  unfold s_tablefinderkit_Op
  rw [wp_bind]
  refine wp_mono (next_wp hd (by omega)) fun ⟨q, d1⟩ ⟨hq, hd1⟩ => ?_
  dsimp only at hq hd1 ⊢
  rw [wp_chk]
  refine ⟨inK_i64 (by omega), ?_⟩
  rw [wp_bif]
  refine ⟨fun _ => ?_, fun _ => ?_⟩
  · rw [wp_bind]
    refine wp_mono (next0_wp hd1 (by omega)) fun ⟨q1, d2⟩ ⟨hq1, hd2⟩ => ?_
    dsimp only at hq1 hd2 ⊢
    rw [wp_bind]
    refine wp_mono (word_wp' hd2 (by simp)) fun ⟨s, d3⟩ ⟨hs, hd3⟩ => ?_
    dsimp only at hs hd3 ⊢
    have hs' := sub_texts (by kernel_rfl) hs
    have jf : ∀ d', DiceOk d' → wp (s_tablefinderkit_Op_j1 false d' t 0 0 [] (1 + q) q1 s [] []) (fun r => OpIn r.1 ∧ DiceOk r.2) := fun d' hd' => by
      unfold s_tablefinderkit_Op_j1 s_tablefinderkit_Op_j5 s_tablefinderkit_Op_j6
      rw [cond_false, wp_some]; exact ⟨⟨hs', by simp⟩, hd'⟩
    rw [wp_bif]
    refine ⟨fun h => ?_, fun _ => jf _ hd3⟩
    simp only [decide_eq_true_eq] at h
    have hq1' := hq1.2.1 (by omega)
    have hlt : q1.toNat < t.Columns.length := by omega
    rw [idx_some hq1.1 hlt, wp_bind, wp_some, wp_bif]
    refine ⟨fun h2 => ?_, fun _ => jf _ hd3⟩
    simp only [decide_eq_true_eq] at h2
    rw [wp_bind]
    refine wp_mono (next_wp hd3 (by omega)) fun ⟨q3, d4⟩ ⟨_, hd4⟩ => ?_
    dsimp only at hd4 ⊢
    cases hb : decide (q3 > 0) with
    | false => exact jf _ hd4
    | true =>
      unfold s_tablefinderkit_Op_j1 s_tablefinderkit_Op_j5 s_tablefinderkit_Op_j6
      obtain ⟨_, _, r, hr, hc⟩ := ht
      have hcol := hc t.Columns[q1.toNat] (List.getElem_mem hlt)
      have hcl := hcol.2.1
      rw [cond_true, idx_some hq1.1 hlt, wp_bind, wp_some, wp_bind, wp_some, wp_bind]
      refine wp_mono (next_wp hd4 (by omega)) fun ⟨q5, d5⟩ ⟨hq5, hd5⟩ => ?_
      dsimp only at hq5 hd5 ⊢
      have h5 : q5.toNat < t.Columns[q1.toNat].Cells.length := by omega
      rw [idx_some hq5.1 h5, wp_bind, wp_some, wp_some]
      exact ⟨⟨(hcol.2.2 _ (List.getElem_mem h5)).1, by simp⟩, hd5⟩
  · rw [wp_bif]
    exact ⟨fun _ => j2 _ _ _ hd1, fun _ => j2 _ _ _ hd1⟩

end Go.Proofs

/- Operations on tables that the kit makes. -/
import Derived.Test.YtahbkngofdpehaaDoorAaAT
set_option linter.unusedVariables false
set_option linter.unusedSimpArgs false
set_option linter.unusedSectionVars false
namespace Go.Proofs
open Go Eng

/-- What an operation that can be done has. -/
def Can (t : G_api_Table) (o : G_api_Op) : Prop :=
  (o.Kind = 1 ∨ o.Kind = 2 ∨ o.Kind = 5 → 0 ≤ o.Column ∧ o.Column < t.Columns.length) ∧ (o.Kind = 3 → ∀ k ∈ o.Columns, 0 ≤ k ∧ k < t.Columns.length)

theorem can_loop (t : G_api_Table) (o : G_api_Op) (ho : o.Columns.length ≤ 1000) :
    wp (s_tablefinderref38_can_l1 big o.Columns (o.Columns.length : Int) 0 t o) (fun x => x = .ret false ∨ (x = .brk o ∧ ∀ k ∈ o.Columns, 0 ≤ k ∧ k < t.Columns.length)) := by
  refine forS_wp s_tablefinderref38_can_l1_FB o.Columns (by omega) (fun k (_ : Unit) => (o.Columns, (o.Columns.length : Int), k, t, o)) (fun k _ => ∀ x ∈ o.Columns.take k, 0 ≤ x ∧ x < t.Columns.length) () (by simp) (fun rec k _ hlt hP ih => ?_) (fun rec _ hP => ?_)
  · unfold s_tablefinderref38_can_l1_B s_tablefinderref38_can_l1_b s_tablefinderref38_can_j5
    dsimp only
    rw [wp_bif]
    refine ⟨fun _ => ?_, fun h => by simp only [decide_eq_false_iff_not] at h; omega⟩
    rw [wp_bind, idx_nat hlt, wp_some, wp_bif]
    refine ⟨fun _ => by rw [cond_true, wp_some]; exact .inl rfl, fun h1 => ?_⟩
    simp only [decide_eq_false_iff_not] at h1
    rw [wp_bif]
    refine ⟨fun _ => by rw [wp_some]; exact .inl rfl, fun h2 => ?_⟩
    simp only [decide_eq_false_iff_not] at h2
    rw [wp_chk]
    refine ⟨inK_i64 (by omega), ih () fun x hx => ?_⟩
    rw [List.take_succ_eq_append_getElem hlt, List.mem_append] at hx
    rcases hx with hx | hx
    · exact hP x hx
    · simp only [List.mem_singleton] at hx; subst hx; omega
  · rw [List.take_length] at hP
    unfold s_tablefinderref38_can_l1_B s_tablefinderref38_can_l1_b
    dsimp only
    rw [wp_bif]
    exact ⟨fun h => by simp only [decide_eq_true_eq] at h; omega, fun _ => by rw [wp_some]; exact .inr ⟨rfl, hP⟩⟩

theorem can_wp (t : G_api_Table) (o : G_api_Op) (ho : o.Columns.length ≤ 1000) : wp (s_tablefinderref38_can t o) (fun q => q = true → Can t o) := by
  have no : wp (some false) (fun q => q = true → Can t o) := by rw [wp_some]; intro h; cases h
  have j1 : ∀ b : Bool, (b = true → 0 ≤ o.Column ∧ o.Column < t.Columns.length) → wp (s_tablefinderref38_can_j1 b t o) (fun q => q = true → Can t o) := fun b hb => by
    have yes : ∀ q : Bool, b = true → (o.Kind = 1 ∨ o.Kind = 2 ∨ o.Kind = 5) → wp (some q) (fun q => q = true → Can t o) := fun q h hk => by
      rw [wp_some]; exact fun _ => ⟨fun _ => hb h, fun h3 => by omega⟩
    have j3 : ∀ (kd : Int) (c : Bool), kd = o.Kind → o.Kind ≠ 1 → (c = true → o.Kind = 2 ∨ o.Kind = 5) → (c = false → o.Kind ≠ 2 ∧ o.Kind ≠ 5) → wp (s_tablefinderref38_can_j3 b kd c t o) (fun q => q = true → Can t o) := fun kd c hk h1 hc hc' => by
      subst hk
      unfold s_tablefinderref38_can_j3 s_tablefinderref38_can_j4 s_tablefinderref38_can_j8
      rw [wp_bif]
      refine ⟨fun h => ?_, fun h => ?_⟩
      · rw [wp_bif]
        refine ⟨fun hbt => ?_, fun _ => no⟩
        rw [wp_bif]
        exact ⟨fun _ => yes _ hbt (.inr (hc h)), fun _ => no⟩
      · have hk := hc' h
        rw [wp_bif]
        refine ⟨fun h3 => ?_, fun h3 => ?_⟩
        · simp only [beq_iff_eq] at h3
          rw [wp_bind]
          refine wp_mono (can_loop t o ho) ?_
          rintro x (rfl | ⟨rfl, hP⟩)
          · dsimp only; exact no
          · dsimp only
            unfold s_tablefinderref38_can_k6 s_tablefinderref38_can_j7
            have ok : ∀ q : Bool, wp (some q) (fun q => q = true → Can t o) := fun q => by rw [wp_some]; exact fun _ => ⟨fun h => by omega, fun _ => hP⟩
            rw [wp_bif, wp_bif]
            exact ⟨fun _ => ⟨fun _ => ok _, fun _ => ok _⟩, fun _ => ok _⟩
        · simp only [beq_eq_false_iff_ne] at h3
          have ok : ∀ q : Bool, wp (some q) (fun q => q = true → Can t o) := fun q => by rw [wp_some]; exact fun _ => ⟨fun h => by omega, fun h => absurd h h3⟩
          rw [wp_bif, wp_bif, wp_bif]
          exact ⟨fun _ => ⟨fun _ => ⟨fun _ => ok _, fun _ => ok _⟩, fun _ => ok _⟩, fun _ => ok _⟩
    unfold s_tablefinderref38_can_j1 s_tablefinderref38_can_j2
    rw [wp_bif]
    refine ⟨fun h1 => ?_, fun h1 => ?_⟩
    · simp only [beq_iff_eq] at h1
      rw [wp_bif]
      refine ⟨fun hbt => ?_, fun _ => no⟩
      rw [wp_bif]
      exact ⟨fun _ => yes _ hbt (.inl h1), fun _ => no⟩
    · simp only [beq_eq_false_iff_ne] at h1
      rw [wp_bif]
      refine ⟨fun h2 => ?_, fun h2 => ?_⟩
      · rw [h2]
        exact j3 _ _ rfl h1 (fun _ => .inl (by simpa using h2)) (fun h => by cases h)
      · simp only [beq_eq_false_iff_ne] at h2
        exact j3 _ _ rfl h1 (fun h => .inr (by simpa using h)) (fun h => ⟨h2, by simpa using h⟩)
  unfold s_tablefinderref38_can
  rw [wp_bif]
  refine ⟨fun h => j1 _ fun h2 => ?_, fun _ => j1 _ (fun h => by cases h)⟩
  simp only [decide_eq_true_eq] at h h2
  exact ⟨h, h2⟩

def noTable : G_api_Table := ⟨0, [], []⟩
theorem tabIn_no : TabIn noTable := ⟨by decide, by simp [noTable], 0, by omega, by simp [noTable]⟩

/-! ## Project -/
theorem project_wp {t : G_api_Table} (ht : TabIn t) {ks : List Int} (hk : ∀ k ∈ ks, 0 ≤ k ∧ k < t.Columns.length) (hl : ks.length ≤ 3) : wp (s_tablefinderref03_Project t ks) (fun r => TabIn r.1) := by
  unfold s_tablefinderref03_Project
  rw [rvalid_in ht, wp_bind, wp_some, wp_bif]
  refine ⟨fun _ => by rw [wp_some]; exact tabIn_no, fun _ => ?_⟩
  obtain ⟨hn, hc, r, hr, hx⟩ := ht
  rw [wp_bind]
  refine wp_mono (forS_wp s_tablefinderref03_Project_l1_FB ks (by omega) (fun k (s : List G_api_Column) => (ks, ks, (ks.length : Int), k, t, 0, [], t.ID, t.Name, [], s)) (fun k s => s.length = k ∧ ∀ c ∈ s, ColIn r c)
    (Q := fun x => ∃ l, x = .brk (ks, 0, [], t.ID, t.Name, [], l) ∧ l.length = ks.length ∧ ∀ c ∈ l, ColIn r c) [] ⟨rfl, by simp⟩ (fun rec k s hlt hP ih => ?_) (fun rec s hP => ?_)) ?_
  · obtain ⟨h1, h2⟩ := hP
    unfold s_tablefinderref03_Project_l1_B s_tablefinderref03_Project_l1_b s_tablefinderref03_Project_j1
    dsimp only
    rw [wp_bif]
    refine ⟨fun _ => ?_, fun h => by simp only [decide_eq_false_iff_not] at h; omega⟩
    have hb := hk _ (List.getElem_mem hlt)
    rw [wp_bind, idx_nat hlt, wp_some, decide_eq_false (show ¬ ks[k] < 0 by omega), decide_eq_false (show ¬ ks[k] ≥ (t.Columns.length : Int) by omega), cond_false, cond_false, idx_some hb.1 (by omega), wp_bind, wp_some, wp_chk, wp_chk]
    refine ⟨room_ok (by simp only [List.length_singleton]; omega), inK_i64 (by omega), ih _ ⟨by simp [h1], fun c hcm => ?_⟩⟩
    rcases List.mem_append.1 hcm with hcm | hcm
    · exact h2 c hcm
    · simp only [List.mem_singleton] at hcm; subst hcm; exact hx _ (List.getElem_mem _)
  · unfold s_tablefinderref03_Project_l1_B s_tablefinderref03_Project_l1_b
    dsimp only
    rw [wp_bif]
    exact ⟨fun h => by simp only [decide_eq_true_eq] at h; omega, fun _ => by rw [wp_some]; exact ⟨s, rfl, hP⟩⟩
  · rintro x ⟨l, rfl, h1, h2⟩
    dsimp only
    unfold s_tablefinderref03_Project_k2
    rw [decide_eq_false (show ¬ (ks.length : Int) > 64 by omega), cond_false, wp_some]
    exact ⟨hn, by dsimp only; omega, r, hr, h2⟩

/-! ## Select -/
theorem cells_pick {c : G_api_Column} {r : Nat} (hc : ColIn r c) (hr : r ≤ 6) {rows : List Int} (hk : ∀ k ∈ rows, 0 ≤ k ∧ k < (r : Int)) (hl : rows.length ≤ 6) (a : List G_api_Column) (b e : Int) (t1 : Int) (t2 : Str) (o1 : Int) (o2 : Str) (x : Str) (l1 l2 : List G_api_Column) :
    wp (s_tablefinderref03_Select_l3 big rows a b e rows (rows.length : Int) 0 t1 t2 o1 o2 c x l1 l2 []) (fun y => ∃ l, y = (rows, a, b, e, t1, t2, o1, o2, x, l1, l2, l) ∧ l.length = rows.length ∧ ∀ z ∈ l, CellIn z) := by
  refine forS_wp s_tablefinderref03_Select_l3_FB rows (by omega) (fun k (s : List G_api_Cell) => (rows, a, b, e, rows, (rows.length : Int), k, t1, t2, o1, o2, c, x, l1, l2, s)) (fun k s => s.length = k ∧ ∀ z ∈ s, CellIn z) [] ⟨rfl, by simp⟩ (fun rec k s hlt hP ih => ?_) (fun rec s hP => ?_)
  · obtain ⟨h1, h2⟩ := hP
    unfold s_tablefinderref03_Select_l3_B s_tablefinderref03_Select_l3_b
    dsimp only
    rw [wp_bif]
    refine ⟨fun _ => ?_, fun h => by simp only [decide_eq_false_iff_not] at h; omega⟩
    have hb := hk _ (List.getElem_mem hlt)
    have hcl := hc.2.1
    rw [wp_bind, idx_nat hlt, wp_some, idx_some hb.1 (by omega), wp_bind, wp_some, wp_chk, wp_chk]
    refine ⟨room_ok (by simp only [List.length_singleton]; omega), inK_i64 (by omega), ih _ ⟨by simp [h1], fun z hz => ?_⟩⟩
    rcases List.mem_append.1 hz with hz | hz
    · exact h2 z hz
    · simp only [List.mem_singleton] at hz; subst hz; exact hc.2.2 _ (List.getElem_mem _)
  · unfold s_tablefinderref03_Select_l3_B s_tablefinderref03_Select_l3_b
    dsimp only
    rw [wp_bif]
    exact ⟨fun h => by simp only [decide_eq_true_eq] at h; omega, fun _ => by rw [wp_some]; exact ⟨s, rfl, hP⟩⟩

theorem rrows_all {t : G_api_Table} {rows : List Int} (hk : ∀ k ∈ rows, 0 ≤ k ∧ k < rowsS t) (hl : rows.length ≤ 1000) (a : Int) (b : Str) (l : List G_api_Column) :
    wp (s_tablefinderref03_Select_l1 big rows rows (rows.length : Int) 0 t a b l) (fun x => x = .brk (rows, t, a, b, l)) := by
  refine forS_wp s_tablefinderref03_Select_l1_FB rows (by omega) (fun k (_ : Unit) => (rows, rows, (rows.length : Int), k, t, a, b, l)) (fun _ _ => True) () trivial (fun rec k _ hlt _ ih => ?_) (fun rec _ _ => ?_)
  · unfold s_tablefinderref03_Select_l1_B s_tablefinderref03_Select_l1_b s_tablefinderref03_Select_j1
    dsimp only
    rw [wp_bif]
    refine ⟨fun _ => ?_, fun h => by simp only [decide_eq_false_iff_not] at h; omega⟩
    have hb := hk _ (List.getElem_mem hlt)
    rw [wp_bind, idx_nat hlt, wp_some, decide_eq_false (show ¬ rows[k] < 0 by omega), cond_false, rrows_eq, wp_bind, wp_some, decide_eq_false (show ¬ rows[k] ≥ rowsS t by omega), cond_false, wp_chk]
    exact ⟨inK_i64 (by omega), ih () trivial⟩
  · unfold s_tablefinderref03_Select_l1_B s_tablefinderref03_Select_l1_b
    dsimp only
    rw [wp_bif]
    exact ⟨fun h => by simp only [decide_eq_true_eq] at h; omega, fun _ => by rw [wp_some]⟩

theorem select_wp {t : G_api_Table} (ht : TabIn t) {rows : List Int} (hk : ∀ k ∈ rows, 0 ≤ k ∧ k < rowsS t) (hl : rows.length ≤ 6) : wp (s_tablefinderref03_Select t rows) (fun r => TabIn r.1) := by
  have hrs := rowsS_le ht
  unfold s_tablefinderref03_Select
  rw [rvalid_in ht, wp_bind, wp_some, wp_bif]
  refine ⟨fun _ => by rw [wp_some]; exact tabIn_no, fun _ => ?_⟩
  rw [wp_bind]
  refine wp_mono (rrows_all hk (by omega) _ _ _) ?_
  rintro x rfl
  dsimp only
  obtain ⟨hn, hc, r, hr, hx⟩ := ht
  unfold s_tablefinderref03_Select_k2
  rw [decide_eq_false (show ¬ (rows.length : Int) > 4096 by omega), cond_false, wp_bind]
  refine wp_mono (forS_wp s_tablefinderref03_Select_l2_FB t.Columns (by omega) (fun k (s : List G_api_Column) => (rows, t.Columns, (t.Columns.length : Int), k, 0, [], t.ID, t.Name, [], s)) (fun k s => s.length = k ∧ ∀ c ∈ s, ColIn rows.length c)
    (Q := fun x => ∃ l, x = (0, [], t.ID, t.Name, [], l) ∧ l.length = t.Columns.length ∧ ∀ c ∈ l, ColIn rows.length c) [] ⟨rfl, by simp⟩ (fun rec k s hlt hP ih => ?_) (fun rec s hP => ?_)) ?_
  · obtain ⟨h1, h2⟩ := hP
    unfold s_tablefinderref03_Select_l2_B s_tablefinderref03_Select_l2_b
    dsimp only
    rw [wp_bif]
    refine ⟨fun _ => ?_, fun h => by simp only [decide_eq_false_iff_not] at h; omega⟩
    have hcol := hx _ (List.getElem_mem hlt)
    have hrr : rowsS t = r := by rw [← hrs.2.2 _ (List.getElem_mem hlt), hcol.2.1]
    rw [wp_bind, idx_nat hlt, wp_some, wp_bind]
    refine wp_mono (cells_pick hcol hr (fun k hkm => by have := hk k hkm; omega) hl _ _ _ _ _ _ _ _ _ _) ?_
    rintro y ⟨l, rfl, h3, h4⟩
    dsimp only
    unfold s_tablefinderref03_Select_k3
    rw [wp_chk, wp_chk]
    refine ⟨room_ok (by simp only [List.length_singleton]; omega), inK_i64 (by omega), ih _ ⟨by simp [h1], fun c hcm => ?_⟩⟩
    rcases List.mem_append.1 hcm with hcm | hcm
    · exact h2 c hcm
    · simp only [List.mem_singleton] at hcm; subst hcm; exact ⟨hcol.1, h3, h4⟩
  · unfold s_tablefinderref03_Select_l2_B s_tablefinderref03_Select_l2_b
    dsimp only
    rw [wp_bif]
    exact ⟨fun h => by simp only [decide_eq_true_eq] at h; omega, fun _ => by rw [wp_some]; exact ⟨s, rfl, hP⟩⟩
  · rintro x ⟨l, rfl, h1, h2⟩
    dsimp only
    unfold s_tablefinderref03_Select_k4
    rw [wp_some]
    exact ⟨hn, by dsimp only; omega, rows.length, hl, h2⟩

end Go.Proofs

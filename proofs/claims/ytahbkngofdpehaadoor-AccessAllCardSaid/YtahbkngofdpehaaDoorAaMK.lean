/- The inputs that the statements make out of plain numbers: dice, cells, columns, tables. -/
import Derived.Test.YtahbkngofdpehaaDoorAaRV
import Derived.Test.YtahbkngofdpehaaDoorAaPKb
set_option linter.unusedVariables false
set_option linter.unusedSimpArgs false
set_option linter.unusedSectionVars false
namespace Go.Proofs
open Go Eng

theorem mod_wp (n : Int) {m : Int} (h : 1 ≤ m ∧ m ≤ 1000000) : wp (s_tablefinderkit_Mod n m) (fun r => 0 ≤ r ∧ r < m) := by
  have ha : -m < Int.tmod n m ∧ Int.tmod n m < m := ⟨Int.lt_tmod_of_pos n (by omega), Int.tmod_lt_of_pos n (by omega)⟩
  unfold s_tablefinderkit_Mod
  have h3 : decide (m < 1) = false := decide_eq_false (by omega)
  have h4 : decide (m ≠ 0) = true := decide_eq_true (by omega)
  rw [h3, cond_false, wp_chk, wp_chk, wp_chk, wp_some]
  exact ⟨h4, inK_i64 (by omega), h4, Int.tmod_nonneg _ (by omega), Int.tmod_lt_of_pos _ (by omega)⟩

def DiceOk (d : G_tablefinderkit_Dice) : Prop := 0 ≤ d.at_ ∧ d.at_ ≤ d.l.length ∧ d.l.length ≤ 500

theorem next_wp {d : G_tablefinderkit_Dice} (hd : DiceOk d) {n : Int} (hn : 1 ≤ n ∧ n ≤ 1000000) : wp (s_tablefinderkit_Dice_Next d n) (fun r => (0 ≤ r.1 ∧ r.1 < n) ∧ DiceOk r.2) := by
  unfold s_tablefinderkit_Dice_Next
  have hd0 := hd
  obtain ⟨h0, h1, h2⟩ := hd0
  rw [wp_bif]
  refine ⟨fun h => ?_, fun h => ?_⟩
  · rw [wp_some]; exact ⟨by simp only; omega, hd⟩
  · simp only [decide_eq_false_iff_not] at h
    simp only [wp_chk, wp_bind, wp_idx, wp_some]
    refine ⟨inK_i64 (by omega), inK_i64 (by omega), by omega, by omega, wp_mono (mod_wp _ hn) fun r hr => ⟨hr, ?_⟩⟩
    simp only [DiceOk]; omega

theorem word_wp' {d : G_tablefinderkit_Dice} (hd : DiceOk d) {l : List Str} (hl : 1 ≤ l.length ∧ l.length ≤ 1000000) : wp (s_tablefinderkit_Dice_Word d l) (fun r => r.1 ∈ l ∧ DiceOk r.2) := by
  unfold s_tablefinderkit_Dice_Word
  rw [wp_bind]
  refine wp_mono (next_wp hd (by omega)) fun r hr => ?_
  obtain ⟨q, d'⟩ := r
  obtain ⟨⟨h0, h1⟩, h2⟩ := hr
  simp only [wp_bind, wp_idx, wp_some]
  exact ⟨h0, by omega, List.getElem_mem _, h2⟩

/-- All texts that the kit makes. -/
def texts : List Str := [[97], [98], [99], [49], [50], [51], [49, 48], [120], [45, 49, 46, 53], [], [49, 46, 50, 46, 51], [49, 46, 53, 48], [100],
  [105, 100], [110, 97, 109, 101], [85, 110, 105, 116, 32, 80, 114, 105, 99, 101], [99, 105, 116, 121], [117, 110, 105, 116], [112, 114, 105, 99, 101], [105, 100, 50], [116], [111, 114, 100, 101, 114, 115],
  [45, 51], [45, 50], [45, 49], [48], [52], [53], [54], [55], [56], [107, 48], [107, 49], [107, 50], [107, 51], [107, 52], [107, 53]]

theorem texts_vs : (texts.all vs) = true := by kernel_rfl
theorem texts_short : (texts.all fun s => decide (s.length ≤ 20)) = true := by kernel_rfl
theorem texts_itoa : ((List.range 12).all fun q => texts.contains (Lib.itoa ((q : Int) - 3))) = true := by kernel_rfl
theorem texts_kitoa : ((List.range 6).all fun q => texts.contains ([107] ++ Lib.itoa (q : Int)) && decide ((Lib.itoa (q : Int)).length ≤ 20)) = true := by kernel_rfl

theorem vs_of {s : Str} (h : s ∈ texts) : vs s = true := List.all_eq_true.1 texts_vs s h
theorem short_of {s : Str} (h : s ∈ texts) : s.length ≤ 20 := of_decide_eq_true (List.all_eq_true.1 texts_short s h)
theorem itoa_in {q : Int} (h : 0 ≤ q ∧ q < 12) : Lib.itoa (q - 3) ∈ texts := by
  have := List.all_eq_true.1 texts_itoa q.toNat (List.mem_range.2 (by omega))
  have e : ((q.toNat : Nat) : Int) = q := by omega
  rw [e] at this
  simpa using this
theorem kitoa_in {q : Int} (h : 0 ≤ q ∧ q < 6) : [107] ++ Lib.itoa q ∈ texts ∧ (Lib.itoa q).length ≤ 20 := by
  have := List.all_eq_true.1 texts_kitoa q.toNat (List.mem_range.2 (by omega))
  have e : ((q.toNat : Nat) : Int) = q := by omega
  rw [e] at this
  simpa using this

def CellIn (c : G_api_Cell) : Prop := c.Text ∈ texts ∧ (c.Null = true → c.Text = [])
theorem cellIn_of {s : Str} (h : s ∈ texts) : CellIn ⟨false, s⟩ := ⟨h, fun hc => by simp at hc⟩
theorem cellIn_null : CellIn ⟨true, []⟩ := ⟨by decide, fun _ => rfl⟩
theorem sub_texts {l : List Str} (h : l.all (fun s => texts.contains s) = true) {s : Str} (hs : s ∈ l) : s ∈ texts := by simpa using List.all_eq_true.1 h s hs

theorem cell_wp {d : G_tablefinderkit_Dice} (hd : DiceOk d) : wp (s_tablefinderkit_Cell d) (fun r => CellIn r.1 ∧ DiceOk r.2) := by
  unfold s_tablefinderkit_Cell
  rw [wp_bind]
  refine wp_mono (next_wp hd (by omega)) fun ⟨q, d1⟩ ⟨hq, hd1⟩ => ?_
  dsimp only at hq hd1 ⊢
  rw [wp_bif]
  refine ⟨fun _ => by rw [wp_some]; exact ⟨cellIn_null, hd1⟩, fun _ => ?_⟩
  rw [wp_bind]
  refine wp_mono (word_wp' hd1 (by simp)) fun ⟨s, d2⟩ ⟨hs, hd2⟩ => ?_
  dsimp only at hs hd2 ⊢
  rw [wp_some]
  exact ⟨cellIn_of (sub_texts (by kernel_rfl) hs), hd2⟩

theorem number_wp {d : G_tablefinderkit_Dice} (hd : DiceOk d) : wp (s_tablefinderkit_Number d) (fun r => CellIn r.1 ∧ DiceOk r.2) := by
  unfold s_tablefinderkit_Number
  rw [wp_bind]
  refine wp_mono (next_wp hd (by omega)) fun ⟨q, d1⟩ ⟨hq, hd1⟩ => ?_
  dsimp only at hq hd1 ⊢
  rw [wp_bif]
  refine ⟨fun _ => by rw [wp_some]; exact ⟨cellIn_null, hd1⟩, fun _ => ?_⟩
  rw [wp_bif]
  refine ⟨fun _ => ?_, fun _ => ?_⟩
  · rw [wp_bind]
    refine wp_mono (word_wp' hd1 (by simp)) fun ⟨s, d2⟩ ⟨hs, hd2⟩ => ?_
    dsimp only at hs hd2 ⊢
    rw [wp_some]
    exact ⟨cellIn_of (sub_texts (by kernel_rfl) hs), hd2⟩
  · rw [wp_bind]
    refine wp_mono (next_wp hd1 (by omega)) fun ⟨q2, d2⟩ ⟨hq2, hd2⟩ => ?_
    dsimp only at hq2 hd2 ⊢
    unfold s_strconv_Itoa
    simp only [wp_chk, wp_bind, wp_some]
    exact ⟨inK_i64 (by omega), cellIn_of (itoa_in hq2), hd2⟩

def ColIn (r : Nat) (c : G_api_Column) : Prop := c.Name ∈ texts ∧ c.Cells.length = r ∧ ∀ x ∈ c.Cells, CellIn x

theorem column_wp {d : G_tablefinderkit_Dice} (hd : DiceOk d) {rows : Nat} (hr : rows ≤ 6) : wp (s_tablefinderkit_Column d (rows : Int)) (fun r => ColIn rows r.1 ∧ DiceOk r.2) := by
  unfold s_tablefinderkit_Column
  rw [wp_bind]
  refine wp_mono (word_wp' hd (by simp)) fun ⟨nm, d1⟩ ⟨hn, hd1⟩ => ?_
  dsimp only at hn hd1 ⊢
  rw [wp_bind]
  refine wp_mono (next_wp hd1 (by omega)) fun ⟨kind, d2⟩ ⟨hk, hd2⟩ => ?_
  dsimp only at hk hd2 ⊢
  rw [wp_bind]
  refine wp_mono (upto_wp (f := fun n i (s : G_tablefinderkit_Dice × List G_api_Cell) => s_tablefinderkit_Column_l1 n kind (rows : Int) i s.1 ([] : Str) nm ([] : List G_api_Cell) s.2)
    (body := fun rec i s => s_tablefinderkit_Column_l1_b (fun _ _ i d _ _ _ c => rec i (d, c)) kind (rows : Int) i s.1 ([] : Str) nm ([] : List G_api_Cell) s.2) (fun n i s => rfl) rows (by omega)
    (fun k s => DiceOk s.1 ∧ s.2.length = k ∧ ∀ x ∈ s.2, CellIn x) (Q := fun x => DiceOk x.1 ∧ x.2.2.1 = nm ∧ x.2.2.2.2.length = rows ∧ ∀ y ∈ x.2.2.2.2, CellIn y) (d2, []) ⟨hd2, rfl, by simp⟩ ?_ ?_) ?_
  · rintro rec k ⟨d, c⟩ hlt ⟨hd, hc, hx⟩ ih
    dsimp only at hd hc hx ih ⊢
    have j1 : ∀ (x : G_api_Cell) (d' : G_tablefinderkit_Dice), CellIn x → DiceOk d' → wp (s_tablefinderkit_Column_j1 (fun _ _ i d _ _ _ c => rec i (d, c)) kind (rows : Int) (k : Int) d' ([] : Str) nm x ([] : List G_api_Cell) c) (fun x => DiceOk x.1 ∧ x.2.2.1 = nm ∧ x.2.2.2.2.length = rows ∧ ∀ y ∈ x.2.2.2.2, CellIn y) := fun x d' hx' hd' => by
      unfold s_tablefinderkit_Column_j1
      simp only [wp_chk]
      refine ⟨room_ok (by simp only [List.length_singleton]; omega), inK_i64 (by omega), ih _ ⟨hd', by simp [hc], fun y hy => ?_⟩⟩
      rcases List.mem_append.1 hy with hy | hy
      · exact hx y hy
      · simp only [List.mem_singleton] at hy; subst hy; exact hx'
    unfold s_tablefinderkit_Column_l1_b
    rw [wp_bif]
    refine ⟨fun _ => ?_, fun h => by simp only [decide_eq_false_iff_not] at h; omega⟩
    rw [wp_bind]
    refine wp_mono (cell_wp hd) fun ⟨x, d3⟩ ⟨hx3, hd3⟩ => ?_
    dsimp only at hx3 hd3 ⊢
    rw [wp_bif]
    refine ⟨fun _ => ?_, fun _ => ?_⟩
    · rw [wp_bind]
      exact wp_mono (number_wp hd3) fun ⟨x4, d4⟩ ⟨hx4, hd4⟩ => j1 _ _ hx4 hd4
    rw [wp_bif]
    refine ⟨fun _ => ?_, fun _ => ?_⟩
    · unfold s_strconv_Itoa
      have hki := kitoa_in (q := (k : Int)) (by omega)
      simp only [wp_bind, wp_chk, wp_some]
      refine ⟨decide_eq_true ?_, j1 _ _ (cellIn_of hki.1) hd3⟩
      have : maxInt = 9223372036854775807 := by decide
      rw [this]; simp only [List.length_singleton]; omega
    rw [wp_bif]
    refine ⟨fun _ => ?_, fun _ => j1 _ _ hx3 hd3⟩
    rw [wp_bind]
    exact wp_mono (word_wp' hd3 (by simp)) fun ⟨s, d4⟩ ⟨hs, hd4⟩ => j1 _ _ (cellIn_of (sub_texts (by kernel_rfl) hs)) hd4
  · rintro rec ⟨d, c⟩ ⟨hd, hc, hx⟩
    unfold s_tablefinderkit_Column_l1_b
    rw [wp_bif]
    exact ⟨fun h => by simp only [decide_eq_true_eq] at h; omega, fun _ => by rw [wp_some]; exact ⟨hd, rfl, hc, hx⟩⟩
  · rintro ⟨d, a, b, c, e⟩ ⟨h1, h2, h3, h4⟩
    dsimp only at h1 h2 h3 h4 ⊢
    unfold s_tablefinderkit_Column_k2
    rw [wp_some]
    exact ⟨⟨by rw [h2]; exact sub_texts (by kernel_rfl) hn, h3, h4⟩, h1⟩

/-- A table that the kit makes. -/
def TabIn (t : G_api_Table) : Prop := t.Name ∈ texts ∧ t.Columns.length ≤ 3 ∧ ∃ r, r ≤ 6 ∧ ∀ c ∈ t.Columns, ColIn r c

theorem table_wp {d : G_tablefinderkit_Dice} (hd : DiceOk d) (id : Int) : wp (s_tablefinderkit_Table d id) (fun r => (TabIn r.1 ∧ r.1.ID = id) ∧ DiceOk r.2) := by
  unfold s_tablefinderkit_Table
  rw [wp_bind]
  refine wp_mono (word_wp' hd (by simp)) fun ⟨nm, d1⟩ ⟨hn, hd1⟩ => ?_
  dsimp only at hn hd1 ⊢
  rw [wp_bind]
  refine wp_mono (next_wp hd1 (by omega)) fun ⟨rows, d2⟩ ⟨hk, hd2⟩ => ?_
  dsimp only at hk hd2 ⊢
  rw [wp_bind]
  refine wp_mono (next_wp hd2 (by omega)) fun ⟨q, d3⟩ ⟨hq, hd3⟩ => ?_
  dsimp only at hq hd3 ⊢
  rw [wp_chk, wp_bind]
  obtain ⟨r, rfl⟩ : ∃ r : Nat, rows = (r : Int) := ⟨rows.toNat, by omega⟩
  refine ⟨inK_i64 (by omega), wp_mono (down_wp (f := fun n k (s : G_tablefinderkit_Dice × List G_api_Column) => s_tablefinderkit_Table_l1 n (r : Int) k s.1 (0 : Int) ([] : Str) id nm ([] : List G_api_Column) s.2)
    (body := fun rec k s => s_tablefinderkit_Table_l1_b (fun _ k d _ _ _ _ _ c => rec k (d, c)) (r : Int) k s.1 (0 : Int) ([] : Str) id nm ([] : List G_api_Column) s.2) (fun n k s => rfl) (1 + q) (by omega)
    (fun k s => DiceOk s.1 ∧ (0 ≤ k ∧ (s.2.length : Int) + k = 1 + q) ∧ ∀ c ∈ s.2, ColIn r c) (Q := fun x => DiceOk x.1 ∧ x.2.2.2.1 = id ∧ x.2.2.2.2.1 = nm ∧ (x.2.2.2.2.2.2.length : Int) = 1 + q ∧ ∀ c ∈ x.2.2.2.2.2.2, ColIn r c) (d3, []) ⟨hd3, ⟨by omega, by simp⟩, by simp⟩ ?_) ?_⟩
  · rintro rec k ⟨d, c⟩ hle ⟨hd, hc, hx⟩ ih
    dsimp only at hd hc hx ih ⊢
    unfold s_tablefinderkit_Table_l1_b
    rw [wp_bif]
    refine ⟨fun h => ?_, fun h => ?_⟩
    · simp only [decide_eq_true_eq] at h
      rw [wp_bind]
      refine wp_mono (column_wp hd (by omega)) fun ⟨x, d4⟩ ⟨hx4, hd4⟩ => ?_
      dsimp only at hx4 hd4 ⊢
      simp only [wp_chk]
      refine ⟨room_ok (by simp only [List.length_singleton]; omega), inK_i64 (by omega), ih (d4, c ++ [x]) ⟨hd4, ⟨by omega, by simp; omega⟩, fun y hy => ?_⟩ (by omega)⟩
      rcases List.mem_append.1 hy with hy | hy
      · exact hx y hy
      · simp only [List.mem_singleton] at hy; subst hy; exact hx4
    · simp only [decide_eq_false_iff_not] at h
      rw [wp_some]
      exact ⟨hd, rfl, rfl, by dsimp only; omega, hx⟩
  · rintro ⟨d, a, b, c, e, f, g⟩ ⟨h1, h2, h3, h4, h5⟩
    dsimp only at h1 h2 h3 h4 h5 ⊢
    subst h2 h3
    unfold s_tablefinderkit_Table_k1 s_tablefinderkit_Table_j2
    rw [wp_bind]
    refine wp_mono (next_wp h1 (by omega)) fun ⟨q2, d5⟩ ⟨hq2, hd5⟩ => ?_
    dsimp only at hq2 hd5 ⊢
    have hn' := sub_texts (by kernel_rfl) hn
    rw [wp_bif, wp_some, wp_some]
    exact ⟨fun _ => ⟨⟨⟨hn', by simp, r, by omega, by simp⟩, rfl⟩, hd5⟩, fun _ => ⟨⟨⟨hn', by dsimp only; omega, r, by omega, h5⟩, rfl⟩, hd5⟩⟩

end Go.Proofs

/- The mill: what its dice make. -/
import Derived.Test.YtahbkngofdpehaaGreatDoorTtS
import Derived.Test.YtahbkngofdpehaaGreatDoorTtPKb
import Derived.KernelRfl
set_option linter.unusedVariables false
set_option linter.unusedSimpArgs false
set_option linter.unusedSectionVars false
namespace Go.Proofs
open Go Eng

structure DMOk (d : G_tablefindermill_Dice) : Prop where
  at0 : 0 ≤ d.at_
  at1 : d.at_ ≤ d.seeds.length
  len : d.seeds.length ≤ 300
  byt : ∀ x ∈ d.seeds, 0 ≤ x ∧ x ≤ 255

theorem new_wp {s : List Int} (hs : ∀ x ∈ s, 0 ≤ x ∧ x ≤ 255) : wp (s_tablefindermill_New s) DMOk := by
  unfold s_tablefindermill_New s_tablefindermill_New_j1
  rw [wp_bif]
  refine ⟨fun h => ?_, fun h => ?_⟩
  · simp only [decide_eq_true_eq] at h
    rw [wp_chk, wp_some]
    exact ⟨within_ok (by omega), by simp, by simp, by simp; omega, fun x hx => hs x (List.mem_of_mem_take hx)⟩
  · simp only [decide_eq_false_iff_not] at h
    rw [wp_some]
    exact ⟨by simp, by simp, by simp only; omega, hs⟩

theorem pick_wp {d : G_tablefindermill_Dice} (hd : DMOk d) {n : Int} (hn : 1 ≤ n) : wp (s_tablefindermill_Dice_Pick d n) (fun r => (0 ≤ r.1 ∧ r.1 < n) ∧ DMOk r.2) := by
  have h0 := hd.at0
  have h2 := hd.len
  unfold s_tablefindermill_Dice_Pick
  rw [wp_bif]
  refine ⟨fun _ => by rw [wp_some]; exact ⟨by dsimp only; omega, hd⟩, fun h => ?_⟩
  simp only [decide_eq_false_iff_not] at h
  rw [wp_chk, wp_chk, wp_bind, wp_idx]
  refine ⟨inK_i64 (by omega), inK_i64 (by omega), by omega, by omega, ?_⟩
  have hx := hd.byt _ (List.getElem_mem (l := d.seeds) (n := (d.at_ + 1 - 1).toNat) (by omega))
  rw [wp_chk, wp_some]
  have hw := wrap_i64 (n := d.seeds[(d.at_ + 1 - 1).toNat]'(by omega)) (by omega)
  refine ⟨decide_eq_true (by omega), ?_, ?_⟩
  · dsimp only
    rw [hw]
    exact tmod_bounds _ hx.1 (by omega)
  · exact ⟨by dsimp only; omega, by dsimp only; omega, h2, hd.byt⟩

def mwords : List Str := s_tablefindermill_Words.getD []
theorem mwords_eq : s_tablefindermill_Words = some mwords := rfl
theorem mwords_len : mwords.length = 16 := by kernel_rfl
def mnames : List Str := [[110, 97, 109, 101], [99, 105, 116, 121], [99], [], [116], [112, 101, 111, 112, 108, 101], [112, 108, 97, 99, 101, 115], [48], [49], [50], [51], [52], [53], [54], [55], [56], [120], [109, 111, 114, 101]]
def mtexts : List Str := mwords ++ mnames
theorem mitoa_all : ((List.range 9).all fun n => mnames.contains (Lib.itoa (n : Int))) = true := by kernel_rfl
theorem mitoa {q : Int} (h : 0 ≤ q ∧ q < 9) : Lib.itoa q ∈ mtexts := by
  have := List.all_eq_true.1 mitoa_all q.toNat (List.mem_range.2 (by omega))
  rw [show ((q.toNat : Nat) : Int) = q by omega] at this
  exact List.mem_append_right _ (by simpa using this)

theorem sub_m {l : List Str} (h : l.all (fun s => mnames.contains s) = true) {s : Str} (hs : s ∈ l) : s ∈ mtexts := List.mem_append_right _ (by simpa using List.all_eq_true.1 h s hs)

def CellM (c : G_api_Cell) : Prop := c.Text ∈ mtexts ∧ (c.Null = true → c.Text = [])
theorem cellM_null : CellM ⟨true, []⟩ := ⟨List.mem_append_right _ (by decide), fun _ => rfl⟩
theorem cellM_word {s : Str} (h : s ∈ mwords) : CellM ⟨false, s⟩ := ⟨List.mem_append_left _ h, fun h => by cases h⟩

theorem mcell_wp {d : G_tablefindermill_Dice} (hd : DMOk d) : wp (s_tablefindermill_Dice_Cell d) (fun r => CellM r.1 ∧ DMOk r.2) := by
  unfold s_tablefindermill_Dice_Cell
  rw [wp_bind]
  refine wp_mono (pick_wp hd (by omega)) fun ⟨q, d1⟩ ⟨hq, hd1⟩ => ?_
  dsimp only at hq hd1 ⊢
  rw [wp_bif]
  refine ⟨fun _ => by rw [wp_some]; exact ⟨cellM_null, hd1⟩, fun _ => ?_⟩
  rw [mwords_eq, wp_bind, wp_some, wp_bind, wp_some, wp_bind]
  refine wp_mono (pick_wp hd1 (by omega)) fun ⟨q3, d2⟩ ⟨hq3, hd2⟩ => ?_
  dsimp only at hq3 hd2 ⊢
  rw [mwords_len, wp_chk, wp_bind, wp_get]
  refine ⟨inR_ok (by simp only [List.length_cons, List.length_nil]; omega), by simp only [List.length_cons, List.length_nil]; omega, ?_⟩
  have h3 : q3 = 0 ∨ q3 = 1 ∨ q3 = 2 := by omega
  have fin : ∀ n : Int, 1 ≤ n ∧ n ≤ 16 → wp ((s_tablefindermill_Dice_Pick d2 n).bind fun (q_4, t8) => chk (inR q_4 (16 : Nat)) ((mwords[(q_4).toNat]?).bind fun q_e => some ((G_api_Cell.mk false q_e), t8))) (fun r => CellM r.1 ∧ DMOk r.2) := fun n hn => by
    rw [wp_bind]
    refine wp_mono (pick_wp hd2 hn.1) fun ⟨q4, d3⟩ ⟨hq4, hd3⟩ => ?_
    dsimp only at hq4 hd3 ⊢
    rw [wp_chk, wp_bind, wp_get]
    refine ⟨inR_ok (by omega), by rw [mwords_len]; omega, ?_⟩
    rw [wp_some]
    exact ⟨cellM_word (List.getElem_mem _), hd3⟩
  rcases h3 with rfl | rfl | rfl
  · exact fin 3 (by omega)
  · exact fin 6 (by omega)
  · exact fin 16 (by omega)

def ColM (r : Nat) (c : G_api_Column) : Prop := c.Name ∈ mtexts ∧ c.Cells.length = r ∧ ∀ x ∈ c.Cells, CellM x

theorem mcolumn_wp {d : G_tablefindermill_Dice} (hd : DMOk d) {rows : Nat} (hr : rows ≤ 10) : wp (s_tablefindermill_Dice_Column d (rows : Int)) (fun r => ColM rows r.1 ∧ DMOk r.2) := by
  unfold s_tablefindermill_Dice_Column
  rw [wp_bind]
  refine wp_mono (pick_wp hd (by omega)) fun ⟨q, d1⟩ ⟨hq, hd1⟩ => ?_
  dsimp only at hq hd1 ⊢
  rw [wp_chk, wp_bind, wp_get]
  refine ⟨inR_ok (by simp only [List.length_cons, List.length_nil]; omega), by simp only [List.length_cons, List.length_nil]; omega, ?_⟩
  have h4 : q.toNat < 4 := by omega
  generalize hnm : ([[110, 97, 109, 101], [99, 105, 116, 121], [99], []] : List Str)[q.toNat]'h4 = nm
  have hname' : nm ∈ mtexts := hnm ▸ sub_m (l := [[110, 97, 109, 101], [99, 105, 116, 121], [99], []]) (by kernel_rfl) (List.getElem_mem _)
  rw [wp_bind]
  refine wp_mono (pick_wp hd1 (by omega)) fun ⟨q1, d2⟩ ⟨_, hd2⟩ => ?_
  dsimp only at hd2 ⊢
  generalize (q1 == 0) = num
  rw [wp_bind]
  refine wp_mono (uptoS_wp s_tablefindermill_Dice_Column_l1_FB rows (by omega) (fun k (s : G_tablefindermill_Dice × List G_api_Cell) => ((rows : Int), num, k, s.1, [], nm, [], s.2)) (fun k s => DMOk s.1 ∧ s.2.length = k ∧ ∀ x ∈ s.2, CellM x)
    (Q := fun x => ∃ d' l, x = (d', [], nm, [], l) ∧ DMOk d' ∧ l.length = rows ∧ ∀ x ∈ l, CellM x) (d2, []) ⟨hd2, rfl, by simp⟩ ?_ ?_) ?_
  · rintro rec k ⟨d, c⟩ hlt ⟨hd, hc, hx⟩ ih
    dsimp only at hd hc hx ih ⊢
    unfold s_tablefindermill_Dice_Column_l1_B s_tablefindermill_Dice_Column_l1_b
    dsimp only
    rw [wp_bif]
    refine ⟨fun _ => ?_, fun h => by simp only [decide_eq_false_iff_not] at h; omega⟩
    rw [wp_bind]
    refine wp_mono (mcell_wp hd) fun ⟨x, d3⟩ ⟨hx3, hd3⟩ => ?_
    dsimp only at hx3 hd3 ⊢
    have j2 : ∀ (y : G_api_Cell) (d' : G_tablefindermill_Dice), CellM y → DMOk d' → wp (s_tablefindermill_Dice_Column_j2 (fun rows numbers n d t4 c t4_1 c_1 => rec (rows, numbers, n, d, t4, c, t4_1, c_1)) (rows : Int) num (k : Int) d' [] nm y [] c) (fun x => ∃ d' l, x = (d', [], nm, [], l) ∧ DMOk d' ∧ l.length = rows ∧ ∀ x ∈ l, CellM x) := fun y d' hy hd' => by
      unfold s_tablefindermill_Dice_Column_j2
      rw [wp_chk, wp_chk]
      refine ⟨room_ok (by simp only [List.length_singleton]; omega), inK_i64 (by omega), ih (d', c ++ [y]) ⟨hd', by simp [hc], fun z hz => ?_⟩⟩
      rcases List.mem_append.1 hz with hz | hz
      · exact hx z hz
      · simp only [List.mem_singleton] at hz; subst hz; exact hy
    have j1 : ∀ b : Bool, (b = true → x.Null = false) → wp (s_tablefindermill_Dice_Column_j1 (fun rows numbers n d t4 c t4_1 c_1 => rec (rows, numbers, n, d, t4, c, t4_1, c_1)) (rows : Int) num (k : Int) b d3 [] nm x [] c) (fun x => ∃ d' l, x = (d', [], nm, [], l) ∧ DMOk d' ∧ l.length = rows ∧ ∀ x ∈ l, CellM x) := fun b hb => by
      unfold s_tablefindermill_Dice_Column_j1
      rw [wp_bif]
      refine ⟨fun h => ?_, fun _ => j2 _ _ hx3 hd3⟩
      rw [wp_bind]
      refine wp_mono (pick_wp hd3 (by omega)) fun ⟨q9, d4⟩ ⟨hq9, hd4⟩ => ?_
      dsimp only at hq9 hd4 ⊢
      unfold s_strconv_Itoa
      rw [wp_bind, wp_some]
      exact j2 _ _ ⟨mitoa hq9, fun h' => by rw [hb h] at h'; cases h'⟩ hd4
    rw [wp_bif]
    exact ⟨fun _ => j1 _ (fun h => by simpa using h), fun _ => j1 _ (fun h => by cases h)⟩
  · rintro rec ⟨d, c⟩ ⟨hd, hc, hx⟩
    unfold s_tablefindermill_Dice_Column_l1_B s_tablefindermill_Dice_Column_l1_b
    dsimp only
    rw [wp_bif]
    exact ⟨fun h => by simp only [decide_eq_true_eq] at h; omega, fun _ => by rw [wp_some]; exact ⟨d, c, rfl, hd, hc, hx⟩⟩
  · rintro x ⟨d', l, rfl, hd', hl, hx⟩
    dsimp only
    unfold s_tablefindermill_Dice_Column_k3
    rw [wp_some]
    exact ⟨⟨hname', hl, hx⟩, hd'⟩

/-- A table that the mill makes. -/
def TabM (m r : Nat) (t : G_api_Table) : Prop := t.Name ∈ mtexts ∧ t.Columns.length ≤ m ∧ ∃ n, n ≤ r ∧ ∀ c ∈ t.Columns, ColM n c

theorem mtable_wp {d : G_tablefindermill_Dice} (hd : DMOk d) (id : Int) {m r : Nat} (hm : m ≤ 10) (hr : r ≤ 10) : wp (s_tablefindermill_Dice_Table d id (m : Int) (r : Int)) (fun x => (TabM m r x.1 ∧ x.1.ID = id) ∧ DMOk x.2) := by
  unfold s_tablefindermill_Dice_Table
  rw [wp_bind]
  refine wp_mono (pick_wp hd (by omega)) fun ⟨q, d1⟩ ⟨hq, hd1⟩ => ?_
  dsimp only at hq hd1 ⊢
  rw [wp_chk, wp_bind, wp_get]
  refine ⟨inR_ok (by simp only [List.length_cons, List.length_nil]; omega), by simp only [List.length_cons, List.length_nil]; omega, ?_⟩
  have h4 : q.toNat < 3 := by omega
  generalize hnm : ([[116], [112, 101, 111, 112, 108, 101], [112, 108, 97, 99, 101, 115]] : List Str)[q.toNat]'h4 = nm
  have hname' : nm ∈ mtexts := hnm ▸ sub_m (l := [[116], [112, 101, 111, 112, 108, 101], [112, 108, 97, 99, 101, 115]]) (by kernel_rfl) (List.getElem_mem _)
  rw [wp_chk, wp_bind]
  refine ⟨inK_i64 (by omega), wp_mono (pick_wp hd1 (by omega)) fun ⟨n, d2⟩ ⟨hn, hd2⟩ => ?_⟩
  dsimp only at hn hd2 ⊢
  rw [wp_chk, wp_bind]
  refine ⟨inK_i64 (by omega), wp_mono (pick_wp hd2 (by omega)) fun ⟨k, d3⟩ ⟨hk, hd3⟩ => ?_⟩
  dsimp only at hk hd3 ⊢
  obtain ⟨n', rfl⟩ : ∃ n' : Nat, n = (n' : Int) := ⟨n.toNat, by omega⟩
  rw [wp_bind]
  refine wp_mono (whileS_wp s_tablefindermill_Dice_Table_l1_FB (fun (s : Int × G_tablefindermill_Dice × List G_api_Column) => ((n' : Int), s.1, s.2.1, 0, [], id, nm, [], s.2.2))
    (fun s => (0 ≤ s.1 ∧ s.1 + s.2.2.length ≤ m) ∧ DMOk s.2.1 ∧ ∀ c ∈ s.2.2, ColM n' c) (fun s => s.1.toNat) (Q := fun x => ∃ d' l, x = (d', 0, [], id, nm, [], l) ∧ DMOk d' ∧ l.length ≤ m ∧ ∀ c ∈ l, ColM n' c) (k, d3, []) ⟨by simp; omega, hd3, by simp⟩ (by dsimp only; omega) ?_) ?_
  · rintro rec ⟨k, d, l⟩ ⟨⟨hk0, hkl⟩, hd, hl⟩ ih
    dsimp only at hk0 hkl hd hl ih
    unfold s_tablefindermill_Dice_Table_l1_B s_tablefindermill_Dice_Table_l1_b
    dsimp only
    rw [wp_bif]
    refine ⟨fun h => ?_, fun _ => by rw [wp_some]; exact ⟨d, l, rfl, hd, by omega, hl⟩⟩
    simp only [decide_eq_true_eq] at h
    rw [wp_bind]
    refine wp_mono (mcolumn_wp hd (by omega)) fun ⟨c, d4⟩ ⟨hc, hd4⟩ => ?_
    dsimp only at hc hd4 ⊢
    rw [wp_chk, wp_chk]
    refine ⟨room_ok (by simp only [List.length_singleton]; omega), inK_i64 (by omega), ih (k - 1, d4, l ++ [c]) ⟨by simp; omega, hd4, fun z hz => ?_⟩ (by dsimp only; omega)⟩
    rcases List.mem_append.1 hz with hz | hz
    · exact hl z hz
    · simp only [List.mem_singleton] at hz; subst hz; exact hc
  · rintro x ⟨d', l, rfl, hd', hl, hc⟩
    dsimp only
    unfold s_tablefindermill_Dice_Table_k1
    rw [wp_some]
    exact ⟨⟨⟨hname', hl, n', by omega, hc⟩, rfl⟩, hd'⟩
end Go.Proofs

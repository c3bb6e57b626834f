/- Lists of tables; the order of cells. -/
import Derived.Test.YtahbkngofdpehaaGreatDoorTtTM1s
set_option linter.unusedVariables false
set_option linter.unusedSimpArgs false
set_option linter.unusedSectionVars false
namespace Go.Proofs
open Go Eng

structure ListM (m r k : Nat) (b : Int) (l : List G_api_Table) : Prop where
  len : l.length ≤ k
  tabs : ∀ t ∈ l, TabM m r t ∧ t.ID < b
  asc : (l.map (·.ID)).Pairwise (· < ·)

theorem ListM.snoc {m r k : Nat} {b : Int} {l : List G_api_Table} (h : ListM m r k b l) {t : G_api_Table} (ht : TabM m r t) (hid : t.ID = b) {b' : Int} (hb : b < b') : ListM m r (k + 1) b' (l ++ [t]) := by
  refine ⟨by simp [h.len], fun x hx => ?_, ?_⟩
  · rcases List.mem_append.1 hx with hx | hx
    · have := h.tabs x hx; exact ⟨this.1, by omega⟩
    · simp only [List.mem_singleton] at hx; subst hx; exact ⟨ht, by omega⟩
  · rw [List.map_append, List.pairwise_append]
    refine ⟨h.asc, by simp, fun x hx y hy => ?_⟩
    obtain ⟨z, hz, rfl⟩ := List.mem_map.1 hx
    simp only [List.map_cons, List.map_nil, List.mem_singleton] at hy
    subst hy
    have := (h.tabs z hz).2
    omega

theorem mlist_wp {d : G_tablefindermill_Dice} (hd : DMOk d) {k m r : Nat} (hk : k ≤ 10) (hm : m ≤ 10) (hr : r ≤ 10) : wp (s_tablefindermill_Dice_List d (k : Int) (m : Int) (r : Int)) (fun x => ListM m r k 100 x.1 ∧ DMOk x.2) := by
  unfold s_tablefindermill_Dice_List
  rw [wp_bind]
  refine wp_mono (pick_wp hd (by omega)) fun ⟨id, d1⟩ ⟨hid, hd1⟩ => ?_
  dsimp only at hid hd1 ⊢
  rw [wp_chk, wp_bind]
  refine ⟨inK_i64 (by omega), wp_mono (pick_wp hd1 (by omega)) fun ⟨n, d2⟩ ⟨hn, hd2⟩ => ?_⟩
  dsimp only at hn hd2 ⊢
  rw [wp_bind]
  refine wp_mono (whileS_wp s_tablefindermill_Dice_List_l1_FB (fun (s : Int × Int × G_tablefindermill_Dice × List G_api_Table) => ((m : Int), (r : Int), s.1, s.2.1, s.2.2.1, s.2.2.2))
    (fun s => (0 ≤ s.2.1 ∧ s.2.1 + s.2.2.2.length ≤ k) ∧ (0 ≤ s.1 ∧ s.1 ≤ 2 + 3 * s.2.2.2.length) ∧ DMOk s.2.2.1 ∧ ListM m r s.2.2.2.length s.1 s.2.2.2) (fun s => s.2.1.toNat) (Q := fun x => DMOk x.1 ∧ ListM m r k 100 x.2) (id, n, d2, []) ⟨by simp; omega, by simp; omega, hd2, ⟨by simp, by simp, by simp⟩⟩ (by dsimp only; omega) ?_) ?_
  · rintro rec ⟨id, n, d, l⟩ ⟨⟨hn0, hnl⟩, ⟨hi0, hi⟩, hd, hl⟩ ih
    dsimp only at hn0 hnl hi0 hi hd hl ih
    unfold s_tablefindermill_Dice_List_l1_B s_tablefindermill_Dice_List_l1_b
    dsimp only
    rw [wp_bif]
    refine ⟨fun h => ?_, fun _ => ?_⟩
    · simp only [decide_eq_true_eq] at h
      rw [wp_bind]
      refine wp_mono (mtable_wp hd id hm hr) fun ⟨t, d3⟩ ⟨⟨ht, htid⟩, hd3⟩ => ?_
      dsimp only at ht htid hd3 ⊢
      rw [wp_chk, wp_bind]
      refine ⟨room_ok (by simp only [List.length_singleton]; omega), wp_mono (pick_wp hd3 (by omega)) fun ⟨q, d4⟩ ⟨hq, hd4⟩ => ?_⟩
      dsimp only at hq hd4 ⊢
      rw [wp_chk, wp_chk, wp_chk]
      refine ⟨inK_i64 (by omega), inK_i64 (by omega), inK_i64 (by omega), ih (id + (1 + q), n - 1, d4, l ++ [t]) ⟨by simp; omega, by simp; omega, hd4, ?_⟩ (by dsimp only; omega)⟩
      have := hl.snoc ht htid (b' := id + (1 + q)) (by omega)
      dsimp only
      rw [List.length_append, List.length_singleton]
      exact this
    · rw [wp_some]
      exact ⟨hd, ⟨by dsimp only; omega, fun t ht => ⟨(hl.tabs t ht).1, by have := (hl.tabs t ht).2; omega⟩, hl.asc⟩⟩
  · rintro ⟨d', l⟩ ⟨h1, h2⟩
    dsimp only at h1 h2 ⊢
    unfold s_tablefindermill_Dice_List_k1
    rw [wp_some]
    exact ⟨h2, h1⟩

/-! ## Strings in order -/
theorem bl_cons (a b : UInt8) (x y : Str) : Op.bytesLess (a :: x) (b :: y) = true ↔ a.toNat < b.toNat ∨ (a.toNat = b.toNat ∧ Op.bytesLess x y = true) := by
  rw [Op.bytesLess, Bool.or_eq_true, Bool.and_eq_true, decide_eq_true_eq, beq_iff_eq, UInt8.lt_iff_toNat_lt, ← UInt8.toNat_inj]
theorem bl_irrefl : ∀ x : Str, Op.bytesLess x x = false
  | [] => rfl
  | a :: x => by
    rw [Bool.eq_false_iff]
    intro h
    rcases (bl_cons a a x x).1 h with h | ⟨_, h⟩
    · omega
    · rw [bl_irrefl x] at h; cases h
theorem bl_trans : ∀ x y z : Str, Op.bytesLess x y = true → Op.bytesLess y z = true → Op.bytesLess x z = true
  | _, [], _, h, _ => by cases ‹Str› <;> simp [Op.bytesLess] at h
  | [], _ :: _, [], _, h => by simp [Op.bytesLess] at h
  | [], _ :: _, _ :: _, _, _ => rfl
  | _ :: _, _ :: _, [], _, h => by simp [Op.bytesLess] at h
  | a :: x, b :: y, c :: z, h1, h2 => by
    rw [bl_cons] at h1 h2 ⊢
    rcases h1 with h1 | ⟨h1, h1'⟩ <;> rcases h2 with h2 | ⟨h2, h2'⟩
    · exact .inl (by omega)
    · exact .inl (by omega)
    · exact .inl (by omega)
    · exact .inr ⟨by omega, bl_trans x y z h1' h2'⟩
theorem bl_tri : ∀ x y : Str, Op.bytesLess x y = false → Op.bytesLess y x = false → x = y
  | [], [], _, _ => rfl
  | [], _ :: _, h, _ => by simp [Op.bytesLess] at h
  | _ :: _, [], _, h => by simp [Op.bytesLess] at h
  | a :: x, b :: y, h1, h2 => by
    rw [← Bool.not_eq_true, bl_cons] at h1 h2
    have e : a.toNat = b.toNat := by
      rcases Nat.lt_trichotomy a.toNat b.toNat with h | h | h
      · exact absurd (.inl h) h1
      · exact h
      · exact absurd (.inl h) h2
    have := bl_tri x y (by rw [← Bool.not_eq_true]; exact fun h => h1 (.inr ⟨e, h⟩)) (by rw [← Bool.not_eq_true]; exact fun h => h2 (.inr ⟨e.symm, h⟩))
    rw [UInt8.toNat_inj.1 e, this]
theorem bl_asymm {x y : Str} (h : Op.bytesLess x y = true) : Op.bytesLess y x = false := by
  rw [Bool.eq_false_iff]
  intro h2
  have := bl_trans x y x h h2
  rw [bl_irrefl] at this; cases this

def strC (x y : Str) : Int := if Op.bytesLess x y then -1 else if Op.bytesLess y x then 1 else 0
def cellC (a b : G_api_Cell) : Int := if a.Null then (if b.Null then 0 else -1) else if b.Null then 1 else strC a.Text b.Text

theorem compare_eq (a b : G_api_Cell) : s_table_CompareCells a b = some (cellC a b) := by
  have hs : s_cmp_Compare_string a.Text b.Text = some (strC a.Text b.Text) := by
    unfold s_cmp_Compare_string s_cmp_isNaN_string strC
    rw [Option.bind_some, Option.bind_some, beq_self_eq_true, beq_self_eq_true, Bool.not_true, cond_false, cond_false]
    cases h : Op.bytesLess a.Text b.Text with
    | true => rfl
    | false =>
      rw [cond_false, if_neg (by simp), Bool.false_or]
      cases h2 : Op.bytesLess b.Text a.Text with
      | true =>
        have : (a.Text == b.Text) = false := by
          rw [beq_eq_false_iff_ne]; intro e; rw [e, bl_irrefl] at h2; cases h2
        rw [this]; rfl
      | false =>
        have : (a.Text == b.Text) = true := by rw [beq_iff_eq]; exact bl_tri _ _ h h2
        rw [this]; rfl
  unfold s_table_CompareCells s_table_CompareCells_j1 cellC
  cases ha : a.Null <;> cases hb : b.Null <;> simp only [cond_true, cond_false, hs, Option.bind_some] <;> rfl

theorem strC_neg (x y : Str) : strC y x = -strC x y := by
  unfold strC
  cases h : Op.bytesLess x y with
  | true => rw [bl_asymm h]; rfl
  | false => cases h2 : Op.bytesLess y x <;> rfl
theorem cellC_neg (a b : G_api_Cell) : cellC b a = -cellC a b := by
  unfold cellC
  have := strC_neg a.Text b.Text
  cases a.Null <;> cases b.Null
  · simpa using this
  · rfl
  · rfl
  · rfl
theorem strC_zero {x y : Str} : strC x y = 0 ↔ x = y := by
  unfold strC
  refine ⟨fun h => ?_, fun h => by subst h; rw [bl_irrefl]; rfl⟩
  cases h1 : Op.bytesLess x y with
  | true => rw [h1] at h; cases h
  | false =>
    cases h2 : Op.bytesLess y x with
    | true => rw [h1, h2] at h; cases h
    | false => exact bl_tri _ _ h1 h2
theorem cellC_zero {a b : G_api_Cell} (ha : CellM a) (hb : CellM b) : cellC a b = 0 ↔ (a.Null = b.Null ∧ a.Text = b.Text) := by
  unfold cellC
  cases h1 : a.Null <;> cases h2 : b.Null
  · simp [strC_zero]
  · simp
  · simp
  · simp [ha.2 h1, hb.2 h2]
end Go.Proofs

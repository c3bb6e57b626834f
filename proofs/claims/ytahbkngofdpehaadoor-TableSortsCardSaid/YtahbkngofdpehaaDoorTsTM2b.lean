/- Lists of tables; the order of cells. -/
import Derived.Test.YtahbkngofdpehaaDoorTsTM1
set_option linter.unusedVariables false
set_option linter.unusedSimpArgs false
set_option linter.unusedSectionVars false
namespace Go.Proofs
open Go Eng

theorem bl_cons (a b : UInt8) (x y : Str) : Op.bytesLess (a :: x) (b :: y) = true ↔ a.toNat < b.toNat ∨ (a.toNat = b.toNat ∧ Op.bytesLess x y = true) := by
  rw [Op.bytesLess, Bool.or_eq_true, Bool.and_eq_true, decide_eq_true_eq, beq_iff_eq, UInt8.lt_iff_toNat_lt, ← UInt8.toNat_inj]
theorem bl_irrefl : ∀ x : Str, Op.bytesLess x x = false
  | [] => rfl
  | a :: x => by
    rw [Bool.eq_false_iff]
    intro h
    rcases (bl_cons a a x x).1 h with h | ⟨_, h⟩
    · omega
    · rw [bl_irrefl x] at h; cases h
theorem bl_trans : ∀ x y z : Str, Op.bytesLess x y = true → Op.bytesLess y z = true → Op.bytesLess x z = true
  | _, [], _, h, _ => by cases ‹Str› <;> simp [Op.bytesLess] at h
  | [], _ :: _, [], _, h => by simp [Op.bytesLess] at h
  | [], _ :: _, _ :: _, _, _ => rfl
  | _ :: _, _ :: _, [], _, h => by simp [Op.bytesLess] at h
  | a :: x, b :: y, c :: z, h1, h2 => by
    rw [bl_cons] at h1 h2 ⊢
    rcases h1 with h1 | ⟨h1, h1'⟩ <;> rcases h2 with h2 | ⟨h2, h2'⟩
    · exact .inl (by omega)
    · exact .inl (by omega)
    · exact .inl (by omega)
    · exact .inr ⟨by omega, bl_trans x y z h1' h2'⟩
theorem bl_tri : ∀ x y : Str, Op.bytesLess x y = false → Op.bytesLess y x = false → x = y
  | [], [], _, _ => rfl
  | [], _ :: _, h, _ => by simp [Op.bytesLess] at h
  | _ :: _, [], _, h => by simp [Op.bytesLess] at h
  | a :: x, b :: y, h1, h2 => by
    rw [← Bool.not_eq_true, bl_cons] at h1 h2
    have e : a.toNat = b.toNat := by
      rcases Nat.lt_trichotomy a.toNat b.toNat with h | h | h
      · exact absurd (.inl h) h1
      · exact h
      · exact absurd (.inl h) h2
    have := bl_tri x y (by rw [← Bool.not_eq_true]; exact fun h => h1 (.inr ⟨e, h⟩)) (by rw [← Bool.not_eq_true]; exact fun h => h2 (.inr ⟨e.symm, h⟩))
    rw [UInt8.toNat_inj.1 e, this]
theorem bl_asymm {x y : Str} (h : Op.bytesLess x y = true) : Op.bytesLess y x = false := by
  rw [Bool.eq_false_iff]
  intro h2
  have := bl_trans x y x h h2
  rw [bl_irrefl] at this; cases this

def strC (x y : Str) : Int := if Op.bytesLess x y then -1 else if Op.bytesLess y x then 1 else 0
def cellC (a b : G_api_Cell) : Int := if a.Null then (if b.Null then 0 else -1) else if b.Null then 1 else strC a.Text b.Text

theorem compare_eq (a b : G_api_Cell) : s_table_CompareCells a b = some (cellC a b) := by
  have hs : s_cmp_Compare_string a.Text b.Text = some (strC a.Text b.Text) := by
    unfold s_cmp_Compare_string s_cmp_isNaN_string strC
    rw [Option.bind_some, Option.bind_some, beq_self_eq_true, beq_self_eq_true, Bool.not_true, cond_false, cond_false]
    cases h : Op.bytesLess a.Text b.Text with
    | true => rfl
    | false =>
      rw [cond_false, if_neg (by simp), Bool.false_or]
      cases h2 : Op.bytesLess b.Text a.Text with
      | true =>
        have : (a.Text == b.Text) = false := by
          rw [beq_eq_false_iff_ne]; intro e; rw [e, bl_irrefl] at h2; cases h2
        rw [this]; rfl
      | false =>
        have : (a.Text == b.Text) = true := by rw [beq_iff_eq]; exact bl_tri _ _ h h2
        rw [this]; rfl
  unfold s_table_CompareCells s_table_CompareCells_j1 cellC
  cases ha : a.Null <;> cases hb : b.Null <;> simp only [cond_true, cond_false, hs, Option.bind_some] <;> rfl

theorem strC_neg (x y : Str) : strC y x = -strC x y := by
  unfold strC
  cases h : Op.bytesLess x y with
  | true => rw [bl_asymm h]; rfl
  | false => cases h2 : Op.bytesLess y x <;> rfl
theorem cellC_neg (a b : G_api_Cell) : cellC b a = -cellC a b := by
  unfold cellC
  have := strC_neg a.Text b.Text
  cases a.Null <;> cases b.Null
  · simpa using this
  · rfl
  · rfl
  · rfl
theorem cellC_bounds (a b : G_api_Cell) : -1 ≤ cellC a b ∧ cellC a b ≤ 1 := by
  unfold cellC strC
  cases a.Null <;> cases b.Null <;> cases Op.bytesLess a.Text b.Text <;> cases Op.bytesLess b.Text a.Text <;> decide
theorem strC_zero {x y : Str} : strC x y = 0 ↔ x = y := by
  unfold strC
  refine ⟨fun h => ?_, fun h => by subst h; rw [bl_irrefl]; rfl⟩
  cases h1 : Op.bytesLess x y with
  | true => rw [h1] at h; cases h
  | false =>
    cases h2 : Op.bytesLess y x with
    | true => rw [h1, h2] at h; cases h
    | false => exact bl_tri _ _ h1 h2
theorem cellC_zero {a b : G_api_Cell} (ha : CellM a) (hb : CellM b) : cellC a b = 0 ↔ (a.Null = b.Null ∧ a.Text = b.Text) := by
  unfold cellC
  cases h1 : a.Null <;> cases h2 : b.Null
  · simp [strC_zero]
  · simp
  · simp
  · simp [ha.2 h1, hb.2 h2]
theorem strC_trans {x y z : Str} (h1 : strC x y ≤ 0) (h2 : strC y z ≤ 0) : strC x z ≤ 0 := by
  have key : ∀ u v : Str, strC u v ≤ 0 ↔ Op.bytesLess v u = false := fun u v => by
    unfold strC
    cases h : Op.bytesLess u v with
    | true => rw [bl_asymm h]; decide
    | false => cases Op.bytesLess v u <;> decide
  rw [key] at h1 h2 ⊢
  rw [Bool.eq_false_iff]
  intro h
  cases h3 : Op.bytesLess x y with
  | true => have := bl_trans z x y h h3; rw [h2] at this; cases this
  | false =>
    have := bl_tri x y h3 h1
    subst this
    rw [h2] at h; cases h
theorem cellC_trans {a b c : G_api_Cell} (h1 : cellC a b ≤ 0) (h2 : cellC b c ≤ 0) : cellC a c ≤ 0 := by
  unfold cellC at *
  cases ha : a.Null <;> cases hb : b.Null <;> cases hc : c.Null <;> simp [ha, hb, hc] at h1 h2 ⊢
  exact strC_trans h1 h2
theorem cellC_null {a b : G_api_Cell} (h : a.Null = true) : cellC a b ≤ 0 := by
  unfold cellC; rw [h]; cases b.Null <;> simp
end Go.Proofs

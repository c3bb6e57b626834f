/- Fractions: Sub, Div, comparison, sign; the names of package num. -/
import Derived.Test.YtahbkngofdpehaaDoorCnNW10
set_option linter.unusedVariables false
set_option linter.unusedSimpArgs false
set_option linter.unusedSectionVars false
namespace Go.Proofs
open Go Eng

theorem opposite_eq (z : Int) : s_fraction_opposite (bg z) = some (bg (-z)) := by
  unfold s_fraction_opposite s_fraction_opposite_j1
  rw [bg_neg, bg_words, iL_len]
  by_cases hz : z < 0
  · rw [decide_eq_true hz, Bool.not_true, cond_false]
    unfold bg
    rw [Int.natAbs_neg, decide_eq_false (by omega : ¬ -z < 0)]
  · rw [decide_eq_false hz, Bool.not_false, cond_true]
    unfold bg
    rw [Int.natAbs_neg]
    congr 2
    by_cases h0 : z = 0
    · subst h0; rw [show (0 : Int).natAbs = 0 from rfl, wd_zero]; rfl
    · have := wd_len_pos (n := z.natAbs) (by omega)
      rw [decide_eq_true (by omega), decide_eq_true (by omega)]
theorem fOf_neg (q : Rat) : fOf (-q) = ⟨bg (-q.num), bg (q.den : Int)⟩ := rfl
theorem Sz.neg {q : Rat} {k : Nat} (h : Sz k q) : Sz k (-q) := by
  show (-q.num).natAbs < 2 ^ k ∧ q.den < 2 ^ k
  rw [Int.natAbs_neg]
  exact h
theorem sub_eq {a b : Rat} {k l : Nat} (ha : Sz k a) (hb : Sz l b) (hk : k + l + 1 ≤ 8192) : s_fraction_Sub (fOf a) (fOf b) = some (fOf (a - b), 0) := by
  unfold s_fraction_Sub
  rw [valid_eq b (hb.wq (by omega)), Option.bind_some, Bool.not_true, cond_false]
  show ((s_fraction_opposite (bg b.num)).bind fun q_1 => (s_fraction_operation_result (fOf a) (G_api_Fraction.mk q_1 (bg (b.den : Int)))).bind fun x => some (x.1, x.2)) = _
  have := add_eq ha hb.neg hk
  unfold s_fraction_Add at this
  rw [opposite_eq, Option.bind_some, ← fOf_neg, Rat.sub_eq_add_neg]
  exact this

theorem numAdd_eq {a b : Rat} {k l : Nat} (ha : Sz k a) (hb : Sz l b) (hk : k + l + 1 ≤ 8192) : s_num_Add (fOf a) (fOf b) = some (fOf (a + b)) := by
  unfold s_num_Add s_num_first
  rw [add_eq ha hb hk]; rfl
theorem numMul_eq {a b : Rat} {k l : Nat} (ha : Sz k a) (hb : Sz l b) (hk : k + l ≤ 8192) : s_num_Mul (fOf a) (fOf b) = some (fOf (a * b)) := by
  unfold s_num_Mul s_num_first
  rw [mul_eq ha hb hk]; rfl
theorem numSub_eq {a b : Rat} {k l : Nat} (ha : Sz k a) (hb : Sz l b) (hk : k + l + 1 ≤ 8192) : s_num_Sub (fOf a) (fOf b) = some (fOf (a - b)) := by
  unfold s_num_Sub s_num_first
  rw [sub_eq ha hb hk]; rfl

/-- What comparison answers. -/
def ratC (a b : Rat) : Int := if a < b then -1 else if b < a then 1 else 0
theorem lt_cross (a b : Rat) : a < b ↔ a.num * (b.den : Int) < b.num * (a.den : Int) := Rat.lt_iff a b
theorem cmp_eq {a b : Rat} (qa : Wq 256 a) (qb : Wq 256 b) : s_fraction_Cmp (fOf a) (fOf b) = some (ratC a b) := by
  have w : ∀ {x y : Int}, Wl 256 x → Wl 256 y → Wl 50000 (x * y) := fun hx hy => by
    unfold Wl; rw [Int.natAbs_mul]; exact Nat.le_trans (wl_mul hx hy) (by decide)
  have m : ∀ {x : Int}, Wl 256 x → Wl 50000 x := fun h => Nat.le_trans h (by decide)
  unfold s_fraction_Cmp
  rw [valid_eq a qa, Option.bind_some, Bool.not_true, cond_false, valid_eq b qb, Option.bind_some, Bool.not_true]
  unfold s_fraction_Cmp_j1
  rw [cond_false]
  show ((s_fraction_product (bg a.num) (bg (b.den : Int))).bind fun q => (s_fraction_product (bg b.num) (bg (a.den : Int))).bind _) = _
  rw [product_eq _ _ (m qa.1) (m qb.2), Option.bind_some, product_eq _ _ (m qb.1) (m qa.2), Option.bind_some, opposite_eq, Option.bind_some]
  have w2 : Wl 50000 (-(b.num * (a.den : Int))) := by unfold Wl; rw [Int.natAbs_neg]; exact w qb.1 qa.2
  rw [sum_eq _ _ (w qa.1 qb.2) w2, Option.bind_some, bg_neg, bg_words, iL_len]
  unfold ratC
  have h1 := lt_cross a b
  have h2 := lt_cross b a
  generalize a.num * (b.den : Int) = x at *
  generalize b.num * (a.den : Int) = y at *
  by_cases hl : a < b
  · rw [if_pos hl, decide_eq_true (by have := h1.1 hl; omega), cond_true]
  · have hn : ¬ x < y := fun h => hl (h1.2 h)
    rw [if_neg hl, decide_eq_false (by omega), cond_false]
    by_cases hg : b < a
    · have := wd_len_pos (n := (x + -y).natAbs) (by have := h2.1 hg; omega)
      rw [if_pos hg, decide_eq_true (by omega), cond_true]
    · have hn2 : ¬ y < x := fun h => hg (h2.2 h)
      rw [if_neg hg, show x + -y = 0 by omega, show (0 : Int).natAbs = 0 from rfl, wd_zero]; rfl

/-- A fraction of two machine integers. -/
theorem make_eq (x y : Int) (hy : y ≠ 0) (hx1 : Wl 256 x) (hy1 : Wl 256 y) : s_fraction_Make (bg x) (bg y) = some (fOf (Rat.divInt x y), 0) := by
  have hb := bigs_eq [x, y] (by simp) (fun z hz => by
    simp only [List.mem_cons, List.not_mem_nil, or_false] at hz
    rcases hz with rfl | rfl
    · exact hx1
    · exact hy1)
  unfold s_fraction_Make
  rw [show ([bg x, bg y] : List G_api_Big) = [x, y].map bg from rfl, hb, Option.bind_some, Bool.not_true, cond_false, den_words hy, cond_false, reduced_eq _ _ hy (Nat.le_trans hx1 (by decide)) (Nat.le_trans hy1 (by decide)), Option.bind_some]
theorem wl64 {z : Int} (h1 : -9223372036854775808 ≤ z) (h2 : z ≤ 9223372036854775807) : Wl 256 z := Nat.le_trans (len64 (by omega)) (by decide)
theorem of_eq (x y : Int) (hy : y ≠ 0) (h1 : -9223372036854775808 ≤ x) (h2 : x ≤ 9223372036854775807) (h3 : -9223372036854775808 ≤ y) (h4 : y ≤ 9223372036854775807) : s_fraction_Of x y = some (fOf (Rat.divInt x y), 0) := by
  unfold s_fraction_Of
  rw [fromInt_eq x h1 h2, Option.bind_some, fromInt_eq y h3 h4, Option.bind_some, make_eq x y hy (wl64 h1 h2) (wl64 h3 h4), Option.bind_some]
theorem zero_eq : s_num_Zero = some (fOf 0) := by
  unfold s_num_Zero
  rw [of_eq 0 1 (by decide) (by decide) (by decide) (by decide) (by decide), Option.bind_some, Rat.zero_divInt]
theorem numOf_eq (x y : Int) (hy : y ≠ 0) (h1 : -9223372036854775808 ≤ x) (h2 : x ≤ 9223372036854775807) (h3 : -9223372036854775808 ≤ y) (h4 : y ≤ 9223372036854775807) : s_num_Of x y = some (fOf (Rat.divInt x y)) := by
  unfold s_num_Of
  rw [of_eq x y hy h1 h2 h3 h4, Option.bind_some]; rfl
theorem sz_zero : Sz 1 0 := by unfold Sz; decide
theorem sign_eq {a : Rat} (qa : Wq 256 a) : s_num_Sign (fOf a) = some (ratC a 0) := by
  unfold s_num_Sign
  rw [zero_eq, Option.bind_some, cmp_eq qa (sz_zero.wq (by decide)), Option.bind_some]

theorem div_divInt (a b : Rat) : Rat.divInt (a.num * (b.den : Int)) ((a.den : Int) * b.num) = a / b := by
  rw [← Rat.divInt_mul_divInt, Rat.num_divInt_den, Rat.div_def, Rat.inv_def]
theorem Sz.div {a b : Rat} {k l : Nat} (hb0 : b ≠ 0) (ha : Sz k a) (hb : Sz l b) : Sz (k + l) (a / b) := by
  rw [← div_divInt]
  have h1 := a.den_nz
  have h2 : b.num ≠ 0 := fun e => hb0 (Rat.num_eq_zero.1 e)
  refine sz_divInt (Int.mul_ne_zero (by omega) h2) ?_ ?_
  · rw [Int.natAbs_mul, Int.natAbs_natCast]; exact mul_lt_pow ha.1 hb.2
  · rw [Int.natAbs_mul, Int.natAbs_natCast]; exact mul_lt_pow ha.2 hb.1
theorem div_eq {a b : Rat} {k l : Nat} (hb0 : b ≠ 0) (ha : Sz k a) (hb : Sz l b) (hk : k + l ≤ 8192) : s_fraction_Div (fOf a) (fOf b) = some (fOf (a / b), 0) := by
  have h1 := a.den_nz
  have h2 : b.num ≠ 0 := fun e => hb0 (Rat.num_eq_zero.1 e)
  have qa := ha.wq (by omega)
  have qb := hb.wq (by omega)
  have w : ∀ {x y : Int}, Wl 256 x → Wl 256 y → Wl 50000 (x * y) := fun hx hy => by
    unfold Wl; rw [Int.natAbs_mul]; exact Nat.le_trans (wl_mul hx hy) (by decide)
  have m : ∀ {x : Int}, Wl 256 x → Wl 50000 x := fun h => Nat.le_trans h (by decide)
  have w1 := w qa.1 qb.2
  have w3 := w qa.2 qb.1
  have hd : (a.den : Int) * b.num ≠ 0 := Int.mul_ne_zero (by omega) h2
  unfold s_fraction_Div s_fraction_operation_result_3
  rw [valid_eq a qa, Option.bind_some, Bool.not_true, cond_false, valid_eq b qb, Option.bind_some, Bool.not_true]
  unfold s_fraction_operation_result_3_j1 s_fraction_over
  rw [cond_false]
  show ((((s_fraction_product (bg a.num) (bg (b.den : Int))).bind fun num => (s_fraction_product (bg (a.den : Int)) (bg b.num)).bind fun den => some (num, den)).bind _).bind _) = _
  rw [product_eq _ _ (m qa.1) (m qb.2), Option.bind_some, product_eq _ _ (m qa.2) (m qb.1), Option.bind_some, Option.bind_some]
  dsimp only
  rw [den_words hd, cond_false, reduced_eq _ _ hd w1 w3, Option.bind_some, div_divInt, small ((Sz.div hb0 ha hb).wq hk), cond_false, Option.bind_some]
theorem numDiv_eq {a b : Rat} {k l : Nat} (hb0 : b ≠ 0) (ha : Sz k a) (hb : Sz l b) (hk : k + l ≤ 8192) : s_num_Div (fOf a) (fOf b) = some (fOf (a / b)) := by
  unfold s_num_Div s_num_first
  rw [div_eq hb0 ha hb hk]; rfl
end Go.Proofs

/- Fractions: the four operations, comparison. -/
import Derived.Test.YtahbkngofdpehaaDoorCnNW9
set_option linter.unusedVariables false
set_option linter.unusedSimpArgs false
set_option linter.unusedSectionVars false
namespace Go.Proofs
open Go Eng

/-- A fraction of at most k bits above and below. -/
def Sz (k : Nat) (q : Rat) : Prop := q.num.natAbs < 2 ^ k ∧ q.den < 2 ^ k
theorem Sz.mono {k l : Nat} {q : Rat} (h : Sz k q) (hl : k ≤ l) : Sz l q := ⟨Nat.lt_of_lt_of_le h.1 (Nat.pow_le_pow_right (by decide) hl), Nat.lt_of_lt_of_le h.2 (Nat.pow_le_pow_right (by decide) hl)⟩
theorem wl_bits {n k : Nat} (h : n < 2 ^ k) (m : Nat) (hk : k ≤ 32 * m) : (wd n).length ≤ m := by
  refine wd_len_le (Nat.lt_of_lt_of_le h ?_)
  rw [show Bw = 2 ^ 32 from rfl, ← Nat.pow_mul]
  exact Nat.pow_le_pow_right (by decide) hk
theorem Sz.wq {k : Nat} {q : Rat} (h : Sz k q) (hk : k ≤ 8192) : Wq 256 q := ⟨wl_bits h.1 256 (by omega), wl_bits (n := (q.den : Int).natAbs) (by rw [Int.natAbs_natCast]; exact h.2) 256 (by omega)⟩
theorem sz_divInt {x y : Int} {k : Nat} (hy : y ≠ 0) (h1 : x.natAbs < 2 ^ k) (h2 : y.natAbs < 2 ^ k) : Sz k (Rat.divInt x y) := by
  unfold Sz
  rw [Rat.num_divInt, Rat.den_divInt, if_neg hy]
  refine ⟨Nat.lt_of_le_of_lt ?_ h1, Nat.lt_of_le_of_lt (Nat.div_le_self _ _) h2⟩
  have hd : ((Int.gcd y x : Nat) : Int) ∣ y.sign * x := Int.dvd_trans (Int.gcd_dvd_right y x) (Int.dvd_mul_left _ _)
  rw [Int.natAbs_ediv_of_dvd hd, Int.natAbs_mul]
  refine Nat.le_trans (Nat.div_le_self _ _) ?_
  have : y.sign.natAbs = 1 := by rw [Int.natAbs_sign_of_ne_zero hy]
  rw [this, Nat.one_mul]
  exact Nat.le_refl _
theorem mul_lt_pow {x y k l : Nat} (hx : x < 2 ^ k) (hy : y < 2 ^ l) : x * y < 2 ^ (k + l) := by
  rw [Nat.pow_add]
  exact Nat.mul_lt_mul_of_lt_of_le hx (Nat.le_of_lt hy) (Nat.two_pow_pos _)

theorem add_divInt (a b : Rat) : Rat.divInt (a.num * (b.den : Int) + b.num * (a.den : Int)) ((a.den : Int) * (b.den : Int)) = a + b := by
  have h1 := a.den_nz
  have h2 := b.den_nz
  rw [← Rat.divInt_add_divInt _ _ (by omega) (by omega), Rat.num_divInt_den, Rat.num_divInt_den]
theorem mul_divInt (a b : Rat) : Rat.divInt (a.num * b.num) ((a.den : Int) * (b.den : Int)) = a * b := by
  rw [← Rat.divInt_mul_divInt, Rat.num_divInt_den, Rat.num_divInt_den]

theorem Sz.add {a b : Rat} {k l : Nat} (ha : Sz k a) (hb : Sz l b) : Sz (k + l + 1) (a + b) := by
  rw [← add_divInt]
  have h1 := a.den_nz
  have h2 := b.den_nz
  have q1 := mul_lt_pow ha.1 hb.2
  have q2 := mul_lt_pow ha.2 hb.1
  have q3 := mul_lt_pow ha.2 hb.2
  have hp := Nat.two_pow_pos (k + l)
  refine sz_divInt (Int.mul_ne_zero (by omega) (by omega)) ?_ ?_
  · rw [Nat.pow_succ]
    refine Nat.lt_of_le_of_lt (Int.natAbs_add_le _ _) ?_
    rw [Int.natAbs_mul, Int.natAbs_mul, Int.natAbs_natCast, Int.natAbs_natCast, Nat.mul_comm b.num.natAbs]
    omega
  · rw [Nat.pow_succ, Int.natAbs_mul, Int.natAbs_natCast, Int.natAbs_natCast]
    omega
theorem Sz.mul {a b : Rat} {k l : Nat} (ha : Sz k a) (hb : Sz l b) : Sz (k + l) (a * b) := by
  rw [← mul_divInt]
  have h1 := a.den_nz
  have h2 := b.den_nz
  refine sz_divInt (Int.mul_ne_zero (by omega) (by omega)) ?_ ?_
  · rw [Int.natAbs_mul]; exact mul_lt_pow ha.1 hb.1
  · rw [Int.natAbs_mul, Int.natAbs_natCast, Int.natAbs_natCast]; exact mul_lt_pow ha.2 hb.2

theorem small {q : Rat} (h : Wq 256 q) : decide ((if ((fOf q).Den.Words.length : Int) > ((fOf q).Num.Words.length : Int) then ((fOf q).Den.Words.length : Int) else ((fOf q).Num.Words.length : Int)) > 256) = false := by
  have h1 := h.1
  have h2 := h.2
  unfold Wl at h1 h2
  refine decide_eq_false ?_
  unfold fOf
  rw [bg_words, bg_words, iL_len, iL_len]
  split <;> omega
theorem den_words {y : Int} (hy : y ≠ 0) : (((bg y).Words.length : Int) == 0) = false := by
  have := wd_len_pos (n := y.natAbs) (by omega)
  rw [bg_words, iL_len]
  exact beq_eq_false_iff_ne.2 (by omega)

theorem add_eq {a b : Rat} {k l : Nat} (ha : Sz k a) (hb : Sz l b) (hk : k + l + 1 ≤ 8192) : s_fraction_Add (fOf a) (fOf b) = some (fOf (a + b), 0) := by
  have h1 := a.den_nz
  have h2 := b.den_nz
  have qa := ha.wq (by omega)
  have qb := hb.wq (by omega)
  have w : ∀ {x y : Int}, Wl 256 x → Wl 256 y → Wl 512 (x * y) := fun hx hy => by
    unfold Wl; rw [Int.natAbs_mul]; exact wl_mul hx hy
  have m : ∀ {n : Nat} {x : Int}, Wl n x → n ≤ 50000 → Wl 50000 x := fun h h' => Nat.le_trans h h'
  have w1 := w qa.1 qb.2
  have w2 := w qb.1 qa.2
  have w3 := w qa.2 qb.2
  have w4 : Wl 513 (a.num * (b.den : Int) + b.num * (a.den : Int)) := Nat.le_trans (wd_mono (Int.natAbs_add_le _ _)) (wl_add w1 w2)
  have hd : (a.den : Int) * (b.den : Int) ≠ 0 := Int.mul_ne_zero (by omega) (by omega)
  unfold s_fraction_Add s_fraction_operation_result
  rw [valid_eq a qa, Option.bind_some, Bool.not_true, cond_false, valid_eq b qb, Option.bind_some, Bool.not_true]
  unfold s_fraction_operation_result_j1 s_fraction_plus
  rw [cond_false]
  show ((((s_fraction_product (bg a.num) (bg (b.den : Int))).bind fun q => (s_fraction_product (bg b.num) (bg (a.den : Int))).bind fun q_1 => (s_fraction_sum q q_1).bind fun num => (s_fraction_product (bg (a.den : Int)) (bg (b.den : Int))).bind fun den => some (num, den)).bind _).bind _) = _
  rw [product_eq _ _ (m qa.1 (by omega)) (m qb.2 (by omega)), Option.bind_some, product_eq _ _ (m qb.1 (by omega)) (m qa.2 (by omega)), Option.bind_some, sum_eq _ _ (m w1 (by omega)) (m w2 (by omega)), Option.bind_some, product_eq _ _ (m qa.2 (by omega)) (m qb.2 (by omega)), Option.bind_some, Option.bind_some]
  dsimp only
  rw [den_words hd, cond_false, reduced_eq _ _ hd (m w4 (by omega)) (m w3 (by omega)), Option.bind_some, add_divInt, small ((ha.add hb).wq hk), cond_false, Option.bind_some]
theorem mul_eq {a b : Rat} {k l : Nat} (ha : Sz k a) (hb : Sz l b) (hk : k + l ≤ 8192) : s_fraction_Mul (fOf a) (fOf b) = some (fOf (a * b), 0) := by
  have h1 := a.den_nz
  have h2 := b.den_nz
  have qa := ha.wq (by omega)
  have qb := hb.wq (by omega)
  have w : ∀ {x y : Int}, Wl 256 x → Wl 256 y → Wl 512 (x * y) := fun hx hy => by
    unfold Wl; rw [Int.natAbs_mul]; exact wl_mul hx hy
  have m : ∀ {n : Nat} {x : Int}, Wl n x → n ≤ 50000 → Wl 50000 x := fun h h' => Nat.le_trans h h'
  have w1 := w qa.1 qb.1
  have w3 := w qa.2 qb.2
  have hd : (a.den : Int) * (b.den : Int) ≠ 0 := Int.mul_ne_zero (by omega) (by omega)
  unfold s_fraction_Mul s_fraction_operation_result_2
  rw [valid_eq a qa, Option.bind_some, Bool.not_true, cond_false, valid_eq b qb, Option.bind_some, Bool.not_true]
  unfold s_fraction_operation_result_2_j1 s_fraction_times
  rw [cond_false]
  show ((((s_fraction_product (bg a.num) (bg b.num)).bind fun num => (s_fraction_product (bg (a.den : Int)) (bg (b.den : Int))).bind fun den => some (num, den)).bind _).bind _) = _
  rw [product_eq _ _ (m qa.1 (by omega)) (m qb.1 (by omega)), Option.bind_some, product_eq _ _ (m qa.2 (by omega)) (m qb.2 (by omega)), Option.bind_some, Option.bind_some]
  dsimp only
  rw [den_words hd, cond_false, reduced_eq _ _ hd (m w1 (by omega)) (m w3 (by omega)), Option.bind_some, mul_divInt, small ((ha.mul hb).wq hk), cond_false, Option.bind_some]
end Go.Proofs

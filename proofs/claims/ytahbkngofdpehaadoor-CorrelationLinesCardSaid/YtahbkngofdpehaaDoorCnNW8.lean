/- Numbers of many words with a sign: sums, products, fractions in lowest terms. -/
import Derived.Test.YtahbkngofdpehaaDoorCnNW7
set_option linter.unusedVariables false
set_option linter.unusedSimpArgs false
set_option linter.unusedSectionVars false
namespace Go.Proofs
open Go Eng

def bg (z : Int) : G_api_Big := ⟨decide (z < 0), iL (wd z.natAbs)⟩
theorem bg_neg (z : Int) : (bg z).Neg = decide (z < 0) := rfl
theorem bg_words (z : Int) : (bg z).Words = iL (wd z.natAbs) := rfl
/-- A number that fits into n words. -/
abbrev Wl (n : Nat) (z : Int) : Prop := (wd z.natAbs).length ≤ n

theorem signed_eq (neg : Bool) (n : Nat) (h : (wd n).length ≤ 1000000) : s_fraction_signed neg (iL (wd n)) = some (bg (if neg then -(n : Int) else n)) := by
  unfold s_fraction_signed s_fraction_signed_j1 bg
  have hr : room (iL (wd n)).length 4 = true := room_ok (by rw [iL_len]; omega)
  cases neg with
  | true =>
    rw [cond_true, hr, chk_true, iL_len, if_pos rfl, Int.natAbs_neg, Int.natAbs_natCast]
    congr 2
    by_cases h0 : n = 0
    · subst h0; rw [wd_zero]; rfl
    · have := wd_len_pos h0
      rw [decide_eq_true (by omega), decide_eq_true (by omega)]
  | false =>
    rw [cond_false, hr, chk_true, if_neg (by decide), Int.natAbs_natCast, decide_eq_false (by omega)]
theorem natural_eq (n : Nat) (h : n < 18446744073709551616) : s_fraction_natural (n : Int) = some (iL (wd n)) := by
  unfold s_fraction_natural
  have e : ([IntKind.wrap .u32 (n : Int), IntKind.wrap .u32 (shrK .u64 (n : Int) 32)] : List Int) = iL [n % 4294967296, n / 4294967296] := by
    rw [show (32 : Int) = ((32 : Nat) : Int) from rfl, shr_u64 32 (by omega), wrap32_nat, wrap32_lt (by omega)]; rfl
  have hd : Dg [n % 4294967296, n / 4294967296] := fun d hd => by
    simp only [List.mem_cons, List.mem_singleton, List.not_mem_nil, or_false] at hd
    rcases hd with rfl | rfl
    · exact Nat.mod_lt _ (by decide)
    · simp only [Bw]; omega
  rw [e, trim_eq hd (by simp)]
  have hv : val [n % 4294967296, n / 4294967296] = n := by
    simp only [val, Nat.mul_zero, Nat.add_zero]
    exact Nat.mod_add_div n Bw
  rw [hv]; rfl
theorem len64 {n : Nat} (h : n < 18446744073709551616) : (wd n).length ≤ 2 := wd_len_le (by simp only [Bw]; omega)
theorem fromInt_eq (z : Int) (h1 : -9223372036854775808 ≤ z) (h2 : z ≤ 9223372036854775807) : s_fraction_FromInt z = some (bg z) := by
  unfold s_fraction_FromInt
  by_cases hz : z < 0
  · have e : IntKind.wrap .u64 (0 - IntKind.wrap .u64 z) = ((z.natAbs : Nat) : Int) := by
      rw [IntKind.wrap_u64, IntKind.wrap_u64]; omega
    rw [decide_eq_true hz, cond_true, e, natural_eq _ (by omega), Option.bind_some, signed_eq _ _ (Nat.le_trans (len64 (by omega)) (by decide)), Option.bind_some, if_pos rfl, show -((z.natAbs : Nat) : Int) = z by omega]
  · have e : IntKind.wrap .u64 z = ((z.natAbs : Nat) : Int) := by rw [IntKind.wrap_u64]; omega
    rw [decide_eq_false hz, cond_false, e, natural_eq _ (by omega), Option.bind_some, signed_eq _ _ (Nat.le_trans (len64 (by omega)) (by decide)), Option.bind_some, if_neg (by decide), show ((z.natAbs : Nat) : Int) = z by omega]
theorem validBig_eq (z : Int) (h : Wl 256 z) : s_fraction_ValidBig (bg z) = some true := by
  unfold Wl at h
  have top : ∀ hp : 0 < (wd z.natAbs).length, ∃ x : Nat, idx (iL (wd z.natAbs)) (((wd z.natAbs).length : Int) - 1) = some (x : Int) ∧ x ≠ 0 := fun hp => by
    refine ⟨(wd z.natAbs)[(wd z.natAbs).length - 1], ?_, fun e => ?_⟩
    · rw [show ((wd z.natAbs).length : Int) - 1 = (((wd z.natAbs).length - 1 : Nat) : Int) by omega, iL_idx (by omega)]
    · have hi : (wd z.natAbs).length - 1 < (wd z.natAbs).length := by omega
      have h1 := val_take_succ hi
      rw [e, Nat.mul_zero, Nat.add_zero, List.take_of_length_le (by omega), val_wd] at h1
      have h2 := val_lt ((wd_dg z.natAbs).take ((wd z.natAbs).length - 1))
      rw [List.length_take, Nat.min_eq_left (by omega)] at h2
      have h3 := wd_low hi
      omega
  unfold s_fraction_ValidBig s_fraction_ValidBig_j1
  rw [bg_words, bg_neg, iL_len, decide_eq_true (by omega), cond_true]
  by_cases h0 : (wd z.natAbs).length = 0
  · have : z = 0 := by have := wd_nil.1 (List.eq_nil_of_length_eq_zero h0); omega
    subst this
    rw [h0]; rfl
  · obtain ⟨x, hx, hx0⟩ := top (by omega)
    have e0 : (((wd z.natAbs).length : Int) == 0) = false := beq_eq_false_iff_ne.2 (by omega)
    have e1 : ((x : Int) != 0) = true := by simp only [bne_iff_ne]; omega
    rw [e0, cond_false, decide_eq_true (by omega), cond_true, inK_i64 (by omega), chk_true, hx, Option.bind_some, e1]

theorem bg_sign (x y : Int) : (if (!((bg x).Neg == (bg y).Neg)) = true then -((x.natAbs * y.natAbs : Nat) : Int) else ((x.natAbs * y.natAbs : Nat) : Int)) = x * y := by
  rw [bg_neg, bg_neg]
  by_cases hx : x < 0 <;> by_cases hy : y < 0
  · rw [decide_eq_true hx, decide_eq_true hy, if_neg (by decide), Int.natCast_mul, show ((x.natAbs : Nat) : Int) = -x by omega, show ((y.natAbs : Nat) : Int) = -y by omega, Int.neg_mul_neg]
  · rw [decide_eq_true hx, decide_eq_false hy, if_pos (by decide), Int.natCast_mul, show ((x.natAbs : Nat) : Int) = -x by omega, show ((y.natAbs : Nat) : Int) = y by omega, Int.neg_mul, Int.neg_neg]
  · rw [decide_eq_false hx, decide_eq_true hy, if_pos (by decide), Int.natCast_mul, show ((x.natAbs : Nat) : Int) = x by omega, show ((y.natAbs : Nat) : Int) = -y by omega, Int.mul_neg, Int.neg_neg]
  · rw [decide_eq_false hx, decide_eq_false hy, if_neg (by decide), Int.natCast_mul, show ((x.natAbs : Nat) : Int) = x by omega, show ((y.natAbs : Nat) : Int) = y by omega]
theorem wl_mul {x y : Nat} {n m : Nat} (hx : (wd x).length ≤ n) (hy : (wd y).length ≤ m) : (wd (x * y)).length ≤ n + m := by
  refine wd_len_le ?_
  have h1 := Nat.mul_lt_mul_of_lt_of_le (wd_lt_len x) (Nat.le_of_lt (wd_lt_len y)) (Nat.pow_pos (by decide))
  rw [← Nat.pow_add] at h1
  exact Nat.lt_of_lt_of_le h1 (Nat.pow_le_pow_right (by decide) (by omega))
theorem product_eq (x y : Int) (hx : Wl 50000 x) (hy : Wl 50000 y) : s_fraction_product (bg x) (bg y) = some (bg (x * y)) := by
  unfold s_fraction_product
  have := wl_mul hx hy
  rw [bg_words, bg_words, times_eq _ _ (by omega) (by omega), Option.bind_some, signed_eq _ _ (by omega), Option.bind_some, bg_sign]
theorem wl_add {x y n : Nat} (hx : (wd x).length ≤ n) (hy : (wd y).length ≤ n) : (wd (x + y)).length ≤ n + 1 := by
  refine wd_len_le ?_
  have h1 := Nat.lt_of_lt_of_le (wd_lt_len x) (Nat.pow_le_pow_right (n := Bw) (by decide) hx)
  have h2 := Nat.lt_of_lt_of_le (wd_lt_len y) (Nat.pow_le_pow_right (n := Bw) (by decide) hy)
  rw [Nat.pow_succ]
  have := Nat.mul_le_mul_left (Bw ^ n) (show 2 ≤ Bw by decide)
  omega
theorem sum_eq (x y : Int) (hx : Wl 50000 x) (hy : Wl 50000 y) : s_fraction_sum (bg x) (bg y) = some (bg (x + y)) := by
  unfold Wl at hx hy
  unfold s_fraction_sum
  have h1 := wl_add hx hy
  rw [bg_words, bg_words, bg_neg, bg_neg]
  have opp : decide (x < 0) ≠ decide (y < 0) → s_fraction_words_compare (iL (wd x.natAbs)) (iL (wd y.natAbs)) = some (natC x.natAbs y.natAbs) := fun _ => compare_eq _ _ (by omega) (by omega)
  by_cases hs : decide (x < 0) = decide (y < 0)
  · rw [hs, beq_self_eq_true, cond_true, plus_eq _ _ (by omega) (by omega), Option.bind_some, signed_eq _ _ (by omega), Option.bind_some]
    congr 2
    by_cases hy0 : y < 0
    · have hx0 : x < 0 := by rw [decide_eq_true hy0] at hs; exact of_decide_eq_true hs
      rw [decide_eq_true hy0, if_pos rfl]; omega
    · have hx0 : ¬ x < 0 := by rw [decide_eq_false hy0] at hs; exact of_decide_eq_false hs
      rw [decide_eq_false hy0, if_neg (by decide)]; omega
  · rw [beq_eq_false_iff_ne.2 hs, cond_false, opp hs, Option.bind_some]
    rcases Nat.lt_or_ge x.natAbs y.natAbs with hlt | hge
    · have := wd_mono (Nat.sub_le y.natAbs x.natAbs)
      rw [natC_lt hlt, decide_eq_false (by omega), cond_false, minus_eq _ _ (by omega) (by omega), Option.bind_some, signed_eq _ _ (by omega), Option.bind_some]
      congr 2
      by_cases hy0 : y < 0
      · have hx0 : ¬ x < 0 := fun h => hs (by rw [decide_eq_true hy0, decide_eq_true h])
        rw [decide_eq_true hy0, if_pos rfl]; omega
      · have hx0 : x < 0 := Decidable.byContradiction fun h => hs (by rw [decide_eq_false hy0, decide_eq_false h])
        rw [decide_eq_false hy0, if_neg (by decide)]; omega
    · have hn : natC x.natAbs y.natAbs ≥ 0 := by
        rcases Nat.lt_or_ge y.natAbs x.natAbs with h | h
        · rw [natC_gt h]; decide
        · rw [show x.natAbs = y.natAbs by omega, natC_self]; decide
      have := wd_mono (Nat.sub_le x.natAbs y.natAbs)
      rw [decide_eq_true hn, cond_true, minus_eq _ _ hge (by omega), Option.bind_some, signed_eq _ _ (by omega), Option.bind_some]
      congr 2
      by_cases hx0 : x < 0
      · have hy0 : ¬ y < 0 := fun h => hs (by rw [decide_eq_true hx0, decide_eq_true h])
        rw [decide_eq_true hx0, if_pos rfl]; omega
      · have hy0 : y < 0 := Decidable.byContradiction fun h => hs (by rw [decide_eq_false hx0, decide_eq_false h])
        rw [decide_eq_false hx0, if_neg (by decide)]; omega
end Go.Proofs

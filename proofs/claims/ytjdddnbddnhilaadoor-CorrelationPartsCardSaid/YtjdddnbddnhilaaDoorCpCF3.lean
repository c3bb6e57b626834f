/- Numbers of one word with a sign. -/
import Derived.Test.YtjdddnbddnhilaaDoorCpCF2
set_option linter.unusedVariables false
set_option linter.unusedSimpArgs false
set_option linter.unusedSectionVars false
namespace Go.Proofs
open Go Eng

theorem times_eq {a b : Nat} (ha : a < 4294967296) (hb : b < 4294967296) (h : a * b < 4294967296) : s_fraction_words_times (wd a) (wd b) = some (wd (a * b)) := by
  refine eq_of_wp ?_
  have la := wd_len a
  have lb := wd_len b
  unfold s_fraction_words_times
  rw [wp_chk, wp_chk]
  refine ⟨inK_i64 (by omega), ?_, ?_⟩
  · by_cases h0 : a = 0 <;> by_cases h1 : b = 0 <;> simp only [wd, h0, h1, if_true, if_false, List.length_nil, List.length_singleton] <;> kernel_rfl
  rw [wp_bind]
  by_cases h0 : a = 0
  · subst h0
    obtain ⟨n, hn⟩ := big_add 1 (by decide)
    rw [hn]
    have e : (List.replicate (((wd 0).length : Int) + ((wd b).length : Int)).toNat (0 : Int)) = if b = 0 then [] else [((0 : Nat) : Int)] := by
      by_cases h1 : b = 0
      · subst h1; rfl
      · rw [wd_pos h1, if_neg h1]; rfl
    rw [e]
    show wp (some _) _
    rw [wp_some]
    unfold s_fraction_words_times_k2
    rw [Nat.zero_mul]
    split
    · rw [trim_nil, wp_bind, wp_some, wp_some]; rfl
    · rw [trim_one, wp_bind, wp_some, wp_some]
  · by_cases h1 : b = 0
    · subst h1
      rw [wd_pos h0]
      obtain ⟨n, hn⟩ := big_add 2 (by decide)
      rw [hn]
      show wp ((s_fraction_words_times_l1_b (s_fraction_words_times_l1 (n + 1)) [] [(a : Int)] 1 0 [0])) _
      unfold s_fraction_words_times_l1_b
      rw [show decide ((0 : Int) < 1) = true from rfl, cond_true, show idx [(a : Int)] 0 = some (a : Int) from rfl, Option.bind_some]
      rw [hn]
      show wp ((some ([], 0, 0, [(a : Int)], 1, 0, [0])).bind fun (x0, x1, x2, x3, x4, x5, x6) => s_fraction_words_times_k1 (s_fraction_words_times_l1 (n + 1)) x0 x1 x2 x3 x4 x5 x6) _
      rw [Option.bind_some]
      show wp (some [IntKind.wrap .u32 0]) _
      rw [wp_some]
      unfold s_fraction_words_times_k2
      rw [wrap_u32 (n := 0) (by omega), show ([0] : List Int) = [((0 : Nat) : Int)] from rfl, trim_one, wp_bind, wp_some, wp_some]
      rfl
    · rw [wd_pos h0, wd_pos h1]
      obtain ⟨n, hn⟩ := big_add 2 (by decide)
      rw [hn]
      show wp ((s_fraction_words_times_l1_b (s_fraction_words_times_l1 (n + 1)) [(b : Int)] [(a : Int)] 1 0 [0, 0])) _
      unfold s_fraction_words_times_l1_b
      rw [show decide ((0 : Int) < 1) = true from rfl, cond_true, show idx [(a : Int)] 0 = some (a : Int) from rfl, Option.bind_some, len1]
      have hv : IntKind.wrap .u64 (0 + IntKind.wrap .u64 (IntKind.wrap .u64 (IntKind.wrap .u64 (a : Int) * IntKind.wrap .u64 (b : Int)) + IntKind.wrap .u64 0)) = ((a * b : Nat) : Int) := by
        have hc : ((a : Int) * (b : Int)) = ((a * b : Nat) : Int) := by push_cast; rfl
        rw [wrap_u64 (n := (a : Int)) (by omega), wrap_u64 (n := (b : Int)) (by omega), hc, wrap_u64 (n := ((a * b : Nat) : Int)) (by omega), wrap_u64 (n := (0 : Int)) (by omega), Int.add_zero, wrap_u64 (n := ((a * b : Nat) : Int)) (by omega), Int.zero_add, wrap_u64 (n := ((a * b : Nat) : Int)) (by omega)]
      have l2 : s_fraction_words_times_l2 big [(b : Int)] 0 (a : Int) 0 [(a : Int)] 1 0 [(b : Int)] 1 0 [0, 0] = some ([(b : Int)], 0, 0, [(a : Int)], 1, 0, [((a * b : Nat) : Int), 0]) := by
        rw [hn]
        show s_fraction_words_times_l2_b (s_fraction_words_times_l2 (n + 1)) [(b : Int)] 0 (a : Int) 0 [(a : Int)] 1 0 [(b : Int)] 1 0 [0, 0] = _
        unfold s_fraction_words_times_l2_b
        show s_fraction_words_times_l2 (n + 1) [(b : Int)] 0 (a : Int) (shrK .u64 (IntKind.wrap .u64 (0 + IntKind.wrap .u64 (IntKind.wrap .u64 (IntKind.wrap .u64 (a : Int) * IntKind.wrap .u64 (b : Int)) + IntKind.wrap .u64 0))) 32) [(a : Int)] 1 0 [(b : Int)] 1 1 [IntKind.wrap .u32 (IntKind.wrap .u64 (0 + IntKind.wrap .u64 (IntKind.wrap .u64 (IntKind.wrap .u64 (a : Int) * IntKind.wrap .u64 (b : Int)) + IntKind.wrap .u64 0))), 0] = _
        rw [hv, shr32 (by omega), wrap_u32 (by omega)]
        rfl
      rw [l2, Option.bind_some]
      show wp (some [((a * b : Nat) : Int), IntKind.wrap .u32 0]) _
      rw [wp_some]
      unfold s_fraction_words_times_k2
      rw [wrap_u32 (n := 0) (by omega), trim_two, wp_bind, wp_some, wp_some]

/-- A number with a sign. -/
def bg (x : Int) : GaBig := ⟨decide (x < 0), wd x.natAbs⟩

theorem signed_eq (neg : Bool) (n : Nat) : s_fraction_signed neg (wd n) = some ⟨neg && decide (n ≠ 0), wd n⟩ := by
  have hl := wd_len n
  have r : room (wd n).length 4 = true := room_ok (by omega)
  have e : decide (((wd n).length : Int) > 0) = decide (n ≠ 0) := by
    by_cases h : n = 0
    · subst h; rfl
    · rw [wd_pos h, decide_eq_true h]; rfl
  unfold s_fraction_signed s_fraction_signed_j1
  rw [r, e]
  cases neg <;> rfl

theorem neg_mul (x y : Int) : (!(decide (x < 0) == decide (y < 0)) && decide (x.natAbs * y.natAbs ≠ 0)) = decide (x * y < 0) := by
  have hz : x ≠ 0 → y ≠ 0 → decide (x.natAbs * y.natAbs ≠ 0) = true := fun h1 h2 => decide_eq_true (Nat.mul_ne_zero (by omega) (by omega))
  rcases Int.lt_trichotomy x 0 with hx0 | hx0 | hx0
  · rcases Int.lt_trichotomy y 0 with hy0 | hy0 | hy0
    · have := Int.mul_pos_of_neg_of_neg hx0 hy0
      rw [decide_eq_true hx0, decide_eq_true hy0, decide_eq_false (by omega : ¬ x * y < 0)]; rfl
    · subst hy0; simp
    · have := Int.mul_neg_of_neg_of_pos hx0 hy0
      rw [decide_eq_true hx0, decide_eq_false (by omega : ¬ y < 0), decide_eq_true this, hz (by omega) (by omega)]; rfl
  · subst hx0; simp
  · rcases Int.lt_trichotomy y 0 with hy0 | hy0 | hy0
    · have := Int.mul_neg_of_pos_of_neg hx0 hy0
      rw [decide_eq_false (by omega : ¬ x < 0), decide_eq_true hy0, decide_eq_true this, hz (by omega) (by omega)]; rfl
    · subst hy0; simp
    · have := Int.mul_pos hx0 hy0
      rw [decide_eq_false (by omega : ¬ x < 0), decide_eq_false (by omega : ¬ y < 0), decide_eq_false (by omega : ¬ x * y < 0)]; rfl

theorem product_eq {x y : Int} (hx : x.natAbs < 4294967296) (hy : y.natAbs < 4294967296) (h : x.natAbs * y.natAbs < 4294967296) : s_fraction_product (bg x) (bg y) = some (bg (x * y)) := by
  unfold s_fraction_product bg
  dsimp only
  rw [times_eq hx hy h, Option.bind_some, signed_eq, Option.bind_some, Int.natAbs_mul]
  refine congrArg some ?_
  refine congrArg (fun b => (⟨b, wd (x.natAbs * y.natAbs)⟩ : GaBig)) ?_
  exact neg_mul x y

theorem sum_eq {x y : Int} (h : x.natAbs + y.natAbs < 4294967296) : s_fraction_sum (bg x) (bg y) = some (bg (x + y)) := by
  have out : ∀ (neg : Bool) (n : Nat), (neg && decide (n ≠ 0)) = decide (x + y < 0) → n = (x + y).natAbs → (s_fraction_signed neg (wd n)).bind (fun q => some q) = some (bg (x + y)) := fun neg n h1 h2 => by
    rw [signed_eq, Option.bind_some, h1, h2]; rfl
  unfold s_fraction_sum
  show (bif (decide (x < 0) == decide (y < 0)) then (s_fraction_words_plus (wd x.natAbs) (wd y.natAbs)).bind _ else (s_fraction_words_compare (wd x.natAbs) (wd y.natAbs)).bind _) = _
  rw [plus_eq h, compare_eq]
  cases hs : decide (x < 0) == decide (y < 0) with
  | true =>
    rw [cond_true, Option.bind_some]
    have : decide (x < 0) = decide (y < 0) := beq_iff_eq.1 hs
    have hxy : x < 0 ↔ y < 0 := by simpa using this
    refine out _ _ ?_ (by omega)
    rw [Bool.eq_iff_iff]
    simp only [bg, Bool.and_eq_true, decide_eq_true_eq]
    omega
  | false =>
    have hxy : ¬ (x < 0 ↔ y < 0) := by
      intro hc
      have : decide (x < 0) = decide (y < 0) := decide_eq_decide.2 hc
      rw [this] at hs; simp at hs
    rw [cond_false, Option.bind_some]
    by_cases hc : y.natAbs ≤ x.natAbs
    · have e : decide (natC x.natAbs y.natAbs ≥ 0) = true := decide_eq_true (by unfold natC; rw [if_neg (by omega)]; split <;> omega)
      rw [e, cond_true]
      show ((s_fraction_words_minus (wd x.natAbs) (wd y.natAbs)).bind _) = _
      rw [minus_eq hc (by omega), Option.bind_some]
      refine out _ _ ?_ (by omega)
      rw [Bool.eq_iff_iff]
      simp only [bg, Bool.and_eq_true, decide_eq_true_eq]
      omega
    · have e : decide (natC x.natAbs y.natAbs ≥ 0) = false := decide_eq_false (by unfold natC; rw [if_pos (by omega)]; omega)
      rw [e, cond_false]
      show ((s_fraction_words_minus (wd y.natAbs) (wd x.natAbs)).bind _) = _
      rw [minus_eq (by omega) (by omega), Option.bind_some]
      refine out _ _ ?_ (by omega)
      rw [Bool.eq_iff_iff]
      simp only [bg, Bool.and_eq_true, decide_eq_true_eq]
      omega

theorem validBig_eq (x : Int) : s_fraction_ValidBig (bg x) = some true := by
  unfold s_fraction_ValidBig s_fraction_ValidBig_j1 bg
  dsimp only
  by_cases h : x.natAbs = 0
  · have : x = 0 := by omega
    subst this; rfl
  · rw [wd_pos h, len1]
    have e : ((x.natAbs : Int) != 0) = true := by simp; omega
    show (some ((x.natAbs : Int) != 0)) = some true
    rw [e]

end Go.Proofs

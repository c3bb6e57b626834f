/- Bits of words; the steps of math/bits, in numbers. -/
import Derived.Test.YtahbkngofdpehaaDoorCnS
import Derived.Test.YtahbkngofdpehaaDoorCnPKb
set_option linter.unusedVariables false
set_option linter.unusedSimpArgs false
set_option linter.unusedSectionVars false
namespace Go.Proofs
open Go Eng

theorem ofInt_nat (w a : Nat) (h : a < 2 ^ w) : (BitVec.ofInt w (a : Int)).toNat = a := by
  rw [BitVec.toNat_ofInt]
  have : ((a : Int) % ((2 ^ w : Nat) : Int)) = (a : Int) := Int.emod_eq_of_lt (by omega) (by exact_mod_cast h)
  rw [this]; simp
theorem and_u32 {a b : Nat} (ha : a < 4294967296) (hb : b < 4294967296) : andK .u32 (a : Int) (b : Int) = ((a &&& b : Nat) : Int) := by
  unfold andK
  rw [show IntKind.bits .u32 = 32 from rfl, BitVec.toNat_and, ofInt_nat 32 a ha, ofInt_nat 32 b hb, IntKind.wrap_u32]
  have := Nat.and_lt_two_pow (n := 32) a hb
  omega
theorem or_u32 {a b : Nat} (ha : a < 4294967296) (hb : b < 4294967296) : orK .u32 (a : Int) (b : Int) = ((a ||| b : Nat) : Int) := by
  unfold orK
  rw [show IntKind.bits .u32 = 32 from rfl, BitVec.toNat_or, ofInt_nat 32 a ha, ofInt_nat 32 b hb, IntKind.wrap_u32]
  have := Nat.or_lt_two_pow (n := 32) ha hb
  omega
theorem xor_u32 {a b : Nat} (ha : a < 4294967296) (hb : b < 4294967296) : xorK .u32 (a : Int) (b : Int) = ((a ^^^ b : Nat) : Int) := by
  unfold xorK
  rw [show IntKind.bits .u32 = 32 from rfl, BitVec.toNat_xor, ofInt_nat 32 a ha, ofInt_nat 32 b hb, IntKind.wrap_u32]
  have := Nat.xor_lt_two_pow (n := 32) ha hb
  omega
theorem or_u64 {a b : Nat} (ha : a < 18446744073709551616) (hb : b < 18446744073709551616) : orK .u64 (a : Int) (b : Int) = ((a ||| b : Nat) : Int) := by
  unfold orK
  rw [show IntKind.bits .u64 = 64 from rfl, BitVec.toNat_or, ofInt_nat 64 a ha, ofInt_nat 64 b hb, IntKind.wrap_u64]
  have := Nat.or_lt_two_pow (n := 64) ha hb
  omega
theorem shr_u64 {a : Nat} (k : Nat) (hk : k ≤ 64) : shrK .u64 (a : Int) (k : Int) = ((a / 2 ^ k : Nat) : Int) := by
  unfold shrK
  rw [show IntKind.bits .u64 = 64 from rfl, Int.toNat_natCast, Nat.min_eq_left hk, Int.fdiv_eq_ediv_of_nonneg _ (Int.le_of_lt (Int.pow_pos (by decide)))]
  norm_cast
theorem shr_u32 {a : Nat} (k : Nat) (hk : k ≤ 32) : shrK .u32 (a : Int) (k : Int) = ((a / 2 ^ k : Nat) : Int) := by
  unfold shrK
  rw [show IntKind.bits .u32 = 32 from rfl, Int.toNat_natCast, Nat.min_eq_left hk, Int.fdiv_eq_ediv_of_nonneg _ (Int.le_of_lt (Int.pow_pos (by decide)))]
  norm_cast
theorem wrap32_nat (a : Nat) : IntKind.wrap .u32 (a : Int) = ((a % 4294967296 : Nat) : Int) := by rw [IntKind.wrap_u32]; omega
theorem wrap64_nat (a : Nat) : IntKind.wrap .u64 (a : Int) = ((a % 18446744073709551616 : Nat) : Int) := by rw [IntKind.wrap_u64]; omega
theorem wrap64_lt {a : Nat} (h : a < 18446744073709551616) : IntKind.wrap .u64 (a : Int) = (a : Int) := by rw [IntKind.wrap_u64]; omega
theorem wrap32_lt {a : Nat} (h : a < 4294967296) : IntKind.wrap .u32 (a : Int) = (a : Int) := by rw [IntKind.wrap_u32]; omega

theorem add32 {a b c : Nat} (ha : a < 4294967296) (hb : b < 4294967296) (hc : c ≤ 1) : s_math_bits_Add32 (a : Int) (b : Int) (c : Int) = some ((((a + b + c) % 4294967296 : Nat) : Int), (((a + b + c) / 4294967296 : Nat) : Int)) := by
  unfold s_math_bits_Add32
  have e : IntKind.wrap .u64 ((IntKind.wrap .u64 ((IntKind.wrap .u64 (a : Int)) + (IntKind.wrap .u64 (b : Int)))) + (IntKind.wrap .u64 (c : Int))) = ((a + b + c : Nat) : Int) := by
    rw [wrap64_lt (by omega), wrap64_lt (by omega), wrap64_lt (by omega), ← Int.natCast_add, wrap64_lt (by omega), ← Int.natCast_add, wrap64_lt (by omega)]
  rw [e, show (32 : Int) = ((32 : Nat) : Int) from rfl, shr_u64 32 (by omega), wrap32_nat, wrap32_lt (a := (a + b + c) / 2 ^ 32) (by omega)]
  rfl

theorem bit31 {a : Nat} (h : a < 4294967296) : (a >>> 31 = 0 ∧ a < 2147483648) ∨ (a >>> 31 = 1 ∧ 2147483648 ≤ a) := by
  rw [Nat.shiftRight_eq_div_pow]
  omega
theorem sub32 {a b c : Nat} (ha : a < 4294967296) (hb : b < 4294967296) (hc : c ≤ 1) : s_math_bits_Sub32 (a : Int) (b : Int) (c : Int) = some ((((a + 4294967296 - b - c) % 4294967296 : Nat) : Int), ((if a < b + c then 1 else 0 : Nat) : Int)) := by
  unfold s_math_bits_Sub32
  have hM : (if IntKind.signed .u32 then (-1 : Int) else IntKind.max .u32) = ((4294967295 : Nat) : Int) := rfl
  have e : IntKind.wrap .u32 ((IntKind.wrap .u32 ((a : Int) - (b : Int))) - (c : Int)) = (((a + 4294967296 - b - c) % 4294967296 : Nat) : Int) := by
    rw [IntKind.wrap_u32, IntKind.wrap_u32]; omega
  have hD : (a + 4294967296 - b - c) % 4294967296 < 4294967296 := Nat.mod_lt _ (by decide)
  rw [hM, e]
  generalize hd : (a + 4294967296 - b - c) % 4294967296 = D at hD ⊢
  have h1 : a ^^^ b < 4294967296 := Nat.xor_lt_two_pow (n := 32) ha hb
  have h2 : 4294967295 ^^^ a < 4294967296 := Nat.xor_lt_two_pow (n := 32) (by decide) ha
  have h3 : 4294967295 ^^^ (a ^^^ b) < 4294967296 := Nat.xor_lt_two_pow (n := 32) (by decide) h1
  have h4 : (4294967295 ^^^ a) &&& b < 4294967296 := Nat.and_lt_two_pow (n := 32) _ hb
  have h5 : (4294967295 ^^^ (a ^^^ b)) &&& D < 4294967296 := Nat.and_lt_two_pow (n := 32) _ hD
  rw [xor_u32 (by decide) ha, xor_u32 ha hb, xor_u32 (by decide) h1, and_u32 h2 hb, and_u32 h3 hD, or_u32 h4 h5, show (31 : Int) = ((31 : Nat) : Int) from rfl, shr_u32 31 (by omega)]
  rw [← Nat.shiftRight_eq_div_pow, Nat.shiftRight_or_distrib, Nat.shiftRight_and_distrib, Nat.shiftRight_and_distrib, Nat.shiftRight_xor_distrib, Nat.shiftRight_xor_distrib, Nat.shiftRight_xor_distrib]
  have hm : (4294967295 : Nat) >>> 31 = 1 := by decide
  rw [hm]
  have key : (1 ^^^ a >>> 31) &&& b >>> 31 ||| (1 ^^^ (a >>> 31 ^^^ b >>> 31)) &&& D >>> 31 = if a < b + c then 1 else 0 := by
    rcases bit31 ha with ⟨qa, pa⟩ | ⟨qa, pa⟩ <;> rcases bit31 hb with ⟨qb, pb⟩ | ⟨qb, pb⟩ <;> rcases bit31 hD with ⟨qd, pd⟩ | ⟨qd, pd⟩ <;> rw [qa, qb, qd] <;> split <;> first | rfl | (exfalso; omega)
  rw [key]
  rfl
theorem join64 {h l : Nat} (hh : h < 4294967296) (hl : l < 4294967296) : orK .u64 (shlK .u64 (IntKind.wrap .u64 (h : Int)) 32) (IntKind.wrap .u64 (l : Int)) = ((h * 4294967296 + l : Nat) : Int) := by
  have e1 : shlK .u64 (IntKind.wrap .u64 (h : Int)) 32 = ((h * 4294967296 : Nat) : Int) := by
    unfold shlK
    rw [wrap64_lt (by omega), show min (32 : Int).toNat (IntKind.bits .u64) = 32 from by decide, IntKind.wrap_u64]
    omega
  rw [e1, wrap64_lt (by omega), or_u64 (by omega) (by omega)]
  have := Nat.shiftLeft_add_eq_or_of_lt (i := 32) (b := l) (by omega) h
  simp only [Nat.shiftLeft_eq, Nat.reducePow] at this
  omega

theorem div32 {h l y : Nat} (hy : h < y) (hl : l < 4294967296) (hy2 : y < 4294967296) : s_math_bits_Div32 (h : Int) (l : Int) (y : Int) = some ((((h * 4294967296 + l) / y : Nat) : Int), (((h * 4294967296 + l) % y : Nat) : Int)) := by
  have hle : ¬ ((y : Int) ≤ (h : Int)) := by omega
  have hq : (h * 4294967296 + l) / y < 4294967296 := (Nat.div_lt_iff_lt_mul (by omega)).2 (by
    have : (h + 1) * 4294967296 ≤ y * 4294967296 := Nat.mul_le_mul_right _ hy
    omega)
  have hr : (h * 4294967296 + l) % y < y := Nat.mod_lt _ (by omega)
  have hj : s_math_bits_Div32_j1 (h : Int) (l : Int) (y : Int) false = some ((((h * 4294967296 + l) / y : Nat) : Int), (((h * 4294967296 + l) % y : Nat) : Int)) := by
    unfold s_math_bits_Div32_j1
    rw [cond_false, join64 (by omega) hl, wrap64_lt (by omega)]
    have hne : decide ((y : Int) ≠ 0) = true := decide_eq_true (by omega)
    rw [hne, chk_true, chk_true]
    have e1 : Int.tdiv ((h * 4294967296 + l : Nat) : Int) (y : Int) = (((h * 4294967296 + l) / y : Nat) : Int) := by
      rw [Int.tdiv_eq_ediv_of_nonneg (by omega)]; norm_cast
    have e2 : Int.tmod ((h * 4294967296 + l : Nat) : Int) (y : Int) = (((h * 4294967296 + l) % y : Nat) : Int) := by
      rw [Int.tmod_eq_emod_of_nonneg (by omega)]; norm_cast
    rw [e1, e2, wrap64_lt (by omega), wrap32_lt hq, wrap32_lt (by omega)]
    rfl
  unfold s_math_bits_Div32
  rw [decide_eq_false hle, hj]
  cases ((y : Int) != 0) <;> rfl

/-! ## The place of a word's greatest bit -/

def len8 : List Int := [0, 1, 2, 2, 3, 3, 3, 3, 4, 4, 4, 4, 4, 4, 4, 4] ++ List.replicate 16 5 ++ List.replicate 32 6 ++ List.replicate 64 7 ++ List.replicate 128 8
theorem len8_fun : s_math_bits_Len32_j2 = fun x n => (idx (len8.map fun n => UInt8.ofNat n.toNat) (IntKind.wrap .u8 x)).bind fun c =>
  chk (inK .i64 (n + (IntKind.wrap .i64 ((c.toNat : Nat) : Int)))) <|
  some (n + (IntKind.wrap .i64 ((c.toNat : Nat) : Int))) := by kernel_rfl
theorem len8_all : ((List.range 256).all fun v => match (len8.map fun n => UInt8.ofNat n.toNat)[v]? with | some c => decide (v < 2 ^ c.toNat ∧ 2 ^ c.toNat ≤ 2 * v + (if v = 0 then 1 else 0) ∧ c.toNat ≤ 8) | none => false) = true := by kernel_rfl
theorem len8_get {v : Nat} (h : v < 256) : ∃ c : UInt8, (len8.map fun n => UInt8.ofNat n.toNat)[v]? = some c ∧ v < 2 ^ c.toNat ∧ (v ≠ 0 → 2 ^ c.toNat ≤ 2 * v) ∧ c.toNat ≤ 8 := by
  have := List.all_eq_true.1 len8_all v (List.mem_range.2 h)
  split at this
  · rename_i c hc
    obtain ⟨h1, h2, h3⟩ := of_decide_eq_true this
    refine ⟨c, hc, h1, fun h0 => ?_, h3⟩
    rw [if_neg h0] at h2; omega
  · simp at this
theorem len32_j2 {v : Nat} (h : v < 256) (n : Nat) (hn : n ≤ 100) : ∃ k : Nat, s_math_bits_Len32_j2 (v : Int) (n : Int) = some (((n + k : Nat) : Int)) ∧ v < 2 ^ k ∧ (v ≠ 0 → 2 ^ k ≤ 2 * v) ∧ k ≤ 8 := by
  obtain ⟨c, hc, h1, h2, h3⟩ := len8_get h
  refine ⟨c.toNat, ?_, h1, h2, h3⟩
  have e : idx (len8.map fun n => UInt8.ofNat n.toNat) (IntKind.wrap .u8 (v : Int)) = some c := by
    rw [IntKind.wrap_u8, show (v : Int) % 256 = (v : Int) by omega]
    unfold idx
    rw [if_pos (by omega), Int.toNat_natCast, hc]
  rw [len8_fun]
  dsimp only
  rw [e, Option.bind_some, wrap_i64 (by omega), inK_i64 (by omega), chk_true]
  norm_cast
theorem lead32 {x : Nat} (h0 : x ≠ 0) (h : x < 4294967296) : ∃ s : Nat, s ≤ 31 ∧ s_math_bits_LeadingZeros32 (x : Int) = some (s : Int) ∧ 2147483648 ≤ x * 2 ^ s ∧ x * 2 ^ s < 4294967296 := by
  have key : ∃ k : Nat, s_math_bits_Len32 (x : Int) = some (k : Int) ∧ x < 2 ^ k ∧ 2 ^ k ≤ 2 * x ∧ k ≤ 32 := by
    unfold s_math_bits_Len32 s_math_bits_Len32_j1
    have d16 : shrK .u32 (x : Int) 16 = ((x / 65536 : Nat) : Int) := shr_u32 16 (by omega)
    have fin : ∀ (n v : Nat), n ≤ 24 → v < 256 → v ≠ 0 → x / 2 ^ n = v → ∃ k : Nat, s_math_bits_Len32_j2 (v : Int) (n : Int) = some (k : Int) ∧ x < 2 ^ k ∧ 2 ^ k ≤ 2 * x ∧ k ≤ 32 := fun n v hn hv hv0 hx => by
      obtain ⟨k, q1, q2, q3, q4⟩ := len32_j2 hv n (by omega)
      refine ⟨n + k, q1, ?_, ?_, by omega⟩
      · rw [Nat.pow_add, Nat.mul_comm]
        exact (Nat.div_lt_iff_lt_mul (Nat.two_pow_pos n)).1 (by omega)
      · rw [Nat.pow_add]
        have h1 : 2 ^ n * v ≤ x := by rw [← hx]; exact Nat.mul_div_le x (2 ^ n)
        have h2 : 2 ^ n * 2 ^ k ≤ 2 ^ n * (2 * v) := Nat.mul_le_mul_left _ (q3 hv0)
        have h3 : 2 ^ n * (2 * v) = 2 * (2 ^ n * v) := by rw [Nat.mul_left_comm]
        omega
    by_cases c1 : 65536 ≤ x
    · rw [decide_eq_true (by omega : (x : Int) ≥ 65536), cond_true, d16]
      show ∃ k : Nat, (bif decide (((x / 65536 : Nat) : Int) ≥ 256) then _ else _) = _ ∧ _
      by_cases c2 : 256 ≤ x / 65536
      · rw [decide_eq_true (by omega : ((x / 65536 : Nat) : Int) ≥ 256), cond_true]
        have d8 : shrK .u32 ((x / 65536 : Nat) : Int) 8 = ((x / 65536 / 256 : Nat) : Int) := shr_u32 8 (by omega)
        rw [d8]
        exact fin 24 (x / 65536 / 256) (by omega) (by omega) (by omega) (by omega)
      · rw [decide_eq_false (by omega : ¬ ((x / 65536 : Nat) : Int) ≥ 256), cond_false]
        exact fin 16 (x / 65536) (by omega) (by omega) (by omega) (by omega)
    · rw [decide_eq_false (by omega : ¬ (x : Int) ≥ 65536), cond_false]
      by_cases c2 : 256 ≤ x
      · rw [decide_eq_true (by omega : (x : Int) ≥ 256), cond_true]
        have d8 : shrK .u32 (x : Int) 8 = ((x / 256 : Nat) : Int) := shr_u32 8 (by omega)
        rw [d8]
        exact fin 8 (x / 256) (by omega) (by omega) (by omega) (by omega)
      · rw [decide_eq_false (by omega : ¬ (x : Int) ≥ 256), cond_false]
        exact fin 0 x (by omega) (by omega) h0 (by omega)
  obtain ⟨k, hk, h1, h2, h3⟩ := key
  have hk1 : 1 ≤ k := by
    rcases Nat.eq_zero_or_pos k with rfl | hp
    · simp at h1; omega
    · exact hp
  refine ⟨32 - k, by omega, ?_, ?_, ?_⟩
  · unfold s_math_bits_LeadingZeros32
    rw [hk, Option.bind_some, inK_i64 (by omega), chk_true, show (32 : Int) - (k : Int) = ((32 - k : Nat) : Int) by omega]
  · have e : 2 ^ k * 2 ^ (32 - k) = 4294967296 := by rw [← Nat.pow_add, show k + (32 - k) = 32 by omega]
    have : 2 ^ k * 2 ^ (32 - k) ≤ 2 * x * 2 ^ (32 - k) := Nat.mul_le_mul_right _ h2
    rw [Nat.mul_assoc] at this
    omega
  · have e : 2 ^ k * 2 ^ (32 - k) = 4294967296 := by rw [← Nat.pow_add, show k + (32 - k) = 32 by omega]
    have : x * 2 ^ (32 - k) < 2 ^ k * 2 ^ (32 - k) := Nat.mul_lt_mul_of_pos_right h1 (Nat.two_pow_pos _)
    omega
end Go.Proofs

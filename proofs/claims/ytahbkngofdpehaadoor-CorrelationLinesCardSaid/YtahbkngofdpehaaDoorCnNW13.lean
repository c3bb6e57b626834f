/- The square of the correlation over Rat. -/
import Derived.Test.YtahbkngofdpehaaDoorCnNW12
set_option linter.unusedVariables false
set_option linter.unusedSimpArgs false
set_option linter.unusedSectionVars false
namespace Go.Proofs
open Go Eng

theorem ratC_zero {a : Rat} : (ratC a 0 == 0) = decide (a = 0) := by
  unfold ratC
  by_cases h1 : a < 0
  · rw [if_pos h1, decide_eq_false (fun e => by rw [e] at h1; exact Rat.lt_irrefl h1)]; rfl
  · rw [if_neg h1]
    by_cases h2 : 0 < a
    · rw [if_pos h2, decide_eq_false (fun e => by rw [e] at h2; exact Rat.lt_irrefl h2)]; rfl
    · have : a = 0 := Rat.le_antisymm (Rat.not_lt.1 h2) (Rat.not_lt.1 h1)
      rw [if_neg h2, decide_eq_true this]; rfl
theorem sz_nat {n : Nat} (h : n ≤ 31) : Sz 5 (Rat.divInt (n : Int) 1) := sz_divInt (by decide) (by rw [Int.natAbs_natCast]; omega) (by decide)
/-- n times a mixed sum less the product of the sums. -/
def partR (n : Nat) (ab a b : Rat) : Rat := Rat.divInt (n : Int) 1 * ab - a * b
theorem Sz.sub {a b : Rat} {k l : Nat} (ha : Sz k a) (hb : Sz l b) : Sz (k + l + 1) (a - b) := by rw [Rat.sub_eq_add_neg]; exact ha.add hb.neg
theorem part_eq {n : Nat} {ab a b : Rat} {k l m : Nat} (hn : n ≤ 31) (h1 : Sz k ab) (h2 : Sz l a) (h3 : Sz m b) (hs : k + l + m ≤ 8000) : s_correlation_part (n : Int) (fOf ab) (fOf a) (fOf b) = some (fOf (partR n ab a b)) ∧ Sz (5 + k + (l + m) + 1) (partR n ab a b) := by
  refine ⟨?_, ((sz_nat hn).mul h1).sub (h2.mul h3)⟩
  unfold s_correlation_part partR
  rw [numOf_eq _ 1 (by decide) (by omega) (by omega) (by decide) (by decide), Option.bind_some, numMul_eq (sz_nat hn) h1 (by omega), Option.bind_some, numMul_eq h2 h3 (by omega), Option.bind_some, numSub_eq ((sz_nat hn).mul h1) (h2.mul h3) (by omega), Option.bind_some]

def cR (l : List (Rat × Rat)) : Rat := partR l.length (sR (fun p => p.1 * p.2) l) (sR (fun p => p.1) l) (sR (fun p => p.2) l)
def uR (l : List (Rat × Rat)) : Rat := partR l.length (sR (fun p => p.1 * p.1) l) (sR (fun p => p.1) l) (sR (fun p => p.1) l)
def vR (l : List (Rat × Rat)) : Rat := partR l.length (sR (fun p => p.2 * p.2) l) (sR (fun p => p.2) l) (sR (fun p => p.2) l)
def sqR (l : List (Rat × Rat)) : G_api_Fraction × Int × Bool := if l.length < 3 ∨ uR l = 0 ∨ vR l = 0 then (fOf 0, 0, false) else (fOf (cR l * cR l / (uR l * vR l)), ratC (cR l) 0, true)
theorem mul_ne {a b : Rat} (ha : a ≠ 0) (hb : b ≠ 0) : a * b ≠ 0 := fun e => (Rat.mul_eq_zero.1 e).elim ha hb
theorem square_eq {b : Nat} {l : List (Rat × Rat)} (hl : l.length ≤ 20) (hb : b ≤ 20) (h : SzL b l) : s_correlation_Square (mR l) = some (sqR l) := by
  have c1 : l.length * (b + 1) ≤ 20 * 21 := Nat.mul_le_mul hl (by omega)
  have c2 : l.length * (b + b + 1) ≤ 20 * 41 := Nat.mul_le_mul hl (by omega)
  have h1 := (sR_sz (f := fun p => p.1) (fun p h _ => h) _ l rfl h).mono (show _ ≤ 421 by omega)
  have h2 := (sR_sz (f := fun p => p.2) (fun p _ h => h) _ l rfl h).mono (show _ ≤ 421 by omega)
  have h3 := (sR_sz (f := fun p => p.1 * p.1) (fun p h _ => h.mul h) _ l rfl h).mono (show _ ≤ 821 by omega)
  have h4 := (sR_sz (f := fun p => p.2 * p.2) (fun p _ h => h.mul h) _ l rfl h).mono (show _ ≤ 821 by omega)
  have h5 := (sR_sz (f := fun p => p.1 * p.2) (fun p h h' => h.mul h') _ l rfl h).mono (show _ ≤ 821 by omega)
  obtain ⟨e1, z1⟩ := part_eq (n := l.length) (by omega) h5 h1 h2 (by omega)
  obtain ⟨e2, z2⟩ := part_eq (n := l.length) (by omega) h3 h1 h1 (by omega)
  obtain ⟨e3, z3⟩ := part_eq (n := l.length) (by omega) h4 h2 h2 (by omega)
  have e1' : s_correlation_part (mR l).N (mR l).XY (mR l).X (mR l).Y = some (fOf (cR l)) := e1
  have e2' : s_correlation_part (mR l).N (mR l).XX (mR l).X (mR l).X = some (fOf (uR l)) := e2
  have e3' : s_correlation_part (mR l).N (mR l).YY (mR l).Y (mR l).Y = some (fOf (vR l)) := e3
  have z1' : Sz 1669 (cR l) := z1
  have z2' : Sz 1669 (uR l) := z2
  have z3' : Sz 1669 (vR l) := z3
  have dead : ∀ c u v, s_correlation_Square_j1 true false false c u v [] [] = some (fOf 0, 0, false) := fun c u v => by
    unfold s_correlation_Square_j1
    rw [cond_true, zero_eq]; rfl
  unfold s_correlation_Square sqR
  rw [e1', Option.bind_some, e2', Option.bind_some, e3', Option.bind_some, show (mR l).N = (l.length : Int) from rfl]
  generalize cR l = c at *
  generalize uR l = u at *
  generalize vR l = v at *
  by_cases h0 : l.length < 3
  · rw [decide_eq_true (by omega), cond_true, dead, if_pos (.inl h0)]
  · rw [decide_eq_false (by omega), cond_false, sign_eq (z2'.wq (by omega)), Option.bind_some, ratC_zero]
    by_cases hu : u = 0
    · rw [decide_eq_true hu, cond_true, dead, if_pos (.inr (.inl hu))]
    · rw [decide_eq_false hu, cond_false, sign_eq (z3'.wq (by omega)), Option.bind_some, ratC_zero]
      by_cases hv : v = 0
      · rw [decide_eq_true hv, dead, if_pos (.inr (.inr hv))]
      · rw [decide_eq_false hv, if_neg (by rintro (h | h | h) <;> contradiction)]
        unfold s_correlation_Square_j1
        rw [cond_false, numMul_eq z1' z1' (by omega), Option.bind_some, numMul_eq z2' z3' (by omega), Option.bind_some, numDiv_eq (mul_ne hu hv) (z1'.mul z1') (z2'.mul z3') (by omega), Option.bind_some, sign_eq (z1'.wq (by omega)), Option.bind_some]
end Go.Proofs

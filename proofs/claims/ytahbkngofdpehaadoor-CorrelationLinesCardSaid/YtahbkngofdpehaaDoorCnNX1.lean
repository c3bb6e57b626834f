/- What turning, moving and reversing do to the square of the correlation; its bounds; lines. -/
import Derived.Test.YtahbkngofdpehaaDoorCnNX0
set_option linter.unusedVariables false
set_option linter.unusedSimpArgs false
set_option linter.unusedSectionVars false
namespace Go.Proofs
open Go Eng

theorem ite_iff {α : Type} {p q : Prop} [Decidable p] [Decidable q] (h : p ↔ q) (x y : α) : (if p then x else y) = if q then x else y := by
  by_cases hp : p
  · rw [if_pos hp, if_pos (h.1 hp)]
  · rw [if_neg hp, if_neg (fun hq => hp (h.2 hq))]
def scR (l : Rl) : Rat := cR l * cR l / (uR l * vR l)
theorem div_mul {a b : Rat} (h : b ≠ 0) : b * (a / b) = a := by grind
theorem sc_mul {l : Rl} (hu : uR l ≠ 0) (hv : vR l ≠ 0) : uR l * vR l * scR l = cR l * cR l := div_mul (mul_ne hu hv)
theorem sc_nonneg {l : Rl} (hu : uR l ≠ 0) (hv : vR l ≠ 0) : 0 ≤ scR l := by
  have h := sc_mul hu hv
  have hp := Rat.mul_pos (pos_of (u_nonneg l) hu) (pos_of (v_nonneg l) hv)
  exact nonneg_of_mul hp (by rw [h]; exact sq_nonneg _)
theorem sc_le {l : Rl} (hu : uR l ≠ 0) (hv : vR l ≠ 0) : scR l ≤ 1 := by
  have h := sc_mul hu hv
  have hp := Rat.mul_pos (pos_of (u_nonneg l) hu) (pos_of (v_nonneg l) hv)
  have hc := cauchy (l := l) hv
  have : 0 ≤ 1 - scR l := nonneg_of_mul hp (by grind)
  grind
theorem sc_zero {l : Rl} (hu : uR l ≠ 0) (hv : vR l ≠ 0) : scR l = 0 ↔ cR l = 0 := by
  have h := sc_mul hu hv
  constructor
  · intro e; rw [e, Rat.mul_zero] at h; exact sq_zero h.symm
  · intro e; unfold scR; rw [e]; grind
theorem sc_one {l : Rl} (hu : uR l ≠ 0) (hv : vR l ≠ 0) (h : cR l * cR l = uR l * vR l) : scR l = 1 := by
  unfold scR; rw [h]; have := mul_ne hu hv; grind

theorem turn_u (l : Rl) : uR (l.map fun p => (p.2, p.1)) = vR l := by rw [uR_q, vR_q]; unfold qR; rw [List.length_map, sR_map, sR_map]
theorem turn_v (l : Rl) : vR (l.map fun p => (p.2, p.1)) = uR l := by rw [uR_q, vR_q]; unfold qR; rw [List.length_map, sR_map, sR_map]
theorem turn_c (l : Rl) : cR (l.map fun p => (p.2, p.1)) = cR l := by
  rw [cR_q, cR_q, List.length_map, sR_map, sR_map, sR_map, sR_congr (g := fun p => p.1 * p.2) (fun p _ => Rat.mul_comm _ _), Rat.mul_comm (sR (fun p => p.2) l)]
theorem rev_u (l : Rl) : uR l.reverse = uR l := by rw [uR_q, uR_q]; unfold qR; rw [List.length_reverse, sR_rev, sR_rev]
theorem rev_v (l : Rl) : vR l.reverse = vR l := by rw [vR_q, vR_q]; unfold qR; rw [List.length_reverse, sR_rev, sR_rev]
theorem rev_c (l : Rl) : cR l.reverse = cR l := by rw [cR_q, cR_q, List.length_reverse, sR_rev, sR_rev, sR_rev]
/-- x moved and stretched. -/
def mv (k m : Rat) (p : Rat × Rat) : Rat × Rat := (p.1 * k + m, p.2)
theorem sR_affine (f : Rat × Rat → Rat) (k m : Rat) (l : Rl) : sR (fun p => f p * k + m) l = k * sR f l + (l.length : Rat) * m := by
  have := sR_lin f (fun _ => m) k 1 l
  rw [sR_const] at this
  rw [← Rat.one_mul ((l.length : Rat) * m), ← this]
  exact sR_congr (fun p _ => by grind)
theorem mv_u (k m : Rat) (l : Rl) : uR (l.map (mv k m)) = k * k * uR l := by
  rw [uR_q, uR_q]; unfold qR mv
  rw [List.length_map, sR_map, sR_map, sR_affine (fun p => p.1)]
  have e : sR (fun p => (p.1 * k + m) * (p.1 * k + m)) l = (k * k) * sR (fun p => p.1 * p.1) l + 1 * sR (fun p => p.1 * (2 * (k * m)) + m * m) l := by
    rw [← sR_lin]; exact sR_congr (fun p _ => by grind)
  rw [e, sR_affine (fun p => p.1)]; grind
theorem mv_v (k m : Rat) (l : Rl) : vR (l.map (mv k m)) = vR l := by
  rw [vR_q, vR_q]; unfold qR mv
  rw [List.length_map, sR_map, sR_map]
theorem mv_c (k m : Rat) (l : Rl) : cR (l.map (mv k m)) = k * cR l := by
  rw [cR_q, cR_q]; unfold mv
  rw [List.length_map, sR_map, sR_map, sR_map, sR_affine (fun p => p.1)]
  have e : sR (fun p => (p.1 * k + m) * p.2) l = k * sR (fun p => p.1 * p.2) l + m * sR (fun p => p.2) l := by
    rw [← sR_lin]; exact sR_congr (fun p _ => by grind)
  rw [e]; grind

theorem sq_turn (l : Rl) : sqR (l.map fun p => (p.2, p.1)) = sqR l := by
  unfold sqR
  rw [List.length_map, turn_u, turn_v, turn_c, Rat.mul_comm (vR l)]
  congr 1
  exact propext ⟨fun h => h.elim .inl fun h => .inr h.symm, fun h => h.elim .inl fun h => .inr h.symm⟩
theorem sq_rev (l : Rl) : sqR l.reverse = sqR l := by unfold sqR; rw [List.length_reverse, rev_u, rev_v, rev_c]
theorem ratC_neg {a : Rat} : ratC (-a) 0 = -ratC a 0 := by
  unfold ratC
  have e1 : (-a < 0) ↔ (0 < a) := ⟨fun h => by grind, fun h => by grind⟩
  have e2 : (0 < -a) ↔ (a < 0) := ⟨fun h => by grind, fun h => by grind⟩
  rw [ite_iff e1, ite_iff e2]
  by_cases h1 : 0 < a
  · rw [if_pos h1, if_neg (by grind), if_pos h1]
  · rw [if_neg h1]
    by_cases h2 : a < 0
    · rw [if_pos h2, if_pos h2]; rfl
    · rw [if_neg h2, if_neg h2, if_neg h1]; rfl
theorem ratC_pos {k a : Rat} (h : 0 < k) : ratC (k * a) 0 = ratC a 0 := by
  unfold ratC
  have e1 : (k * a < 0) ↔ (a < 0) := ⟨fun h1 => by
    rcases (Rat.le_total : (0 : Rat) ≤ a ∨ a ≤ 0) with h2 | h2
    · have := Rat.mul_nonneg (Rat.le_of_lt h) h2; grind
    · by_cases h0 : a = 0
      · rw [h0] at h1; grind
      · grind, fun h1 => by have := Rat.mul_pos h (show 0 < -a by grind); grind⟩
  have e2 : (0 < k * a) ↔ (0 < a) := ⟨fun h1 => by
    rcases (Rat.le_total : (0 : Rat) ≤ a ∨ a ≤ 0) with h2 | h2
    · by_cases h0 : a = 0
      · rw [h0] at h1; grind
      · grind
    · have := Rat.mul_nonneg (Rat.le_of_lt h) (show 0 ≤ -a by grind); grind, fun h1 => Rat.mul_pos h h1⟩
  rw [ite_iff e1, ite_iff e2]
theorem ratC_neg2 {k a : Rat} (h : k < 0) : ratC (k * a) 0 = -ratC a 0 := by
  have := ratC_pos (k := -k) (a := a) (by grind)
  rw [← this, ← ratC_neg]; congr 1; grind
theorem sq_moved (k m : Rat) (hk : k ≠ 0) (l : Rl) : sqR (l.map (mv k m)) = ((sqR l).1, (if k < 0 then -(sqR l).2.1 else (sqR l).2.1), (sqR l).2.2) := by
  unfold sqR
  rw [List.length_map, mv_u, mv_v, mv_c]
  have hkk := mul_ne hk hk
  have e : (k * k * uR l = 0) ↔ (uR l = 0) := ⟨fun h => (Rat.mul_eq_zero.1 h).resolve_left hkk, fun h => by rw [h, Rat.mul_zero]⟩
  rw [ite_iff (or_congr Iff.rfl (or_congr e Iff.rfl))]
  by_cases h : l.length < 3 ∨ uR l = 0 ∨ vR l = 0
  · rw [if_pos h, if_pos h]
    simp
  · rw [if_neg h, if_neg h]
    have hu : uR l ≠ 0 := fun e => h (.inr (.inl e))
    have hv : vR l ≠ 0 := fun e => h (.inr (.inr e))
    have e2 : k * cR l * (k * cR l) / (k * k * uR l * vR l) = cR l * cR l / (uR l * vR l) := by grind
    dsimp only
    rw [e2]
    congr 2
    by_cases hn : k < 0
    · rw [if_pos hn, ratC_neg2 hn]
    · rw [if_neg hn, ratC_pos (by grind)]
end Go.Proofs

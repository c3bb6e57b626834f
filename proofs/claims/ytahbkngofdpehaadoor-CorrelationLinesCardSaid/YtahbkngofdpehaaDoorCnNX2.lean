/- Pairs on a line. -/
import Derived.Test.YtahbkngofdpehaaDoorCnNX1
set_option linter.unusedVariables false
set_option linter.unusedSimpArgs false
set_option linter.unusedSectionVars false
namespace Go.Proofs
open Go Eng

theorem qR_congr {f g : Rat × Rat → Rat} {l : Rl} (h : ∀ p ∈ l, f p = g p) : qR f l = qR g l := by
  unfold qR
  rw [sR_congr h, sR_congr (g := fun p => g p * g p) (fun p hp => by rw [h p hp])]
def OnL (k m : Rat) (l : Rl) : Prop := ∀ p ∈ l, p.2 = p.1 * k + m
theorem line_v {k m : Rat} {l : Rl} (h : OnL k m l) : vR l = k * k * uR l := by
  have e : uR (l.map (mv k m)) = qR (fun p => p.1 * k + m) l := by
    rw [uR_q]; unfold qR mv; rw [List.length_map, sR_map, sR_map]
  rw [vR_q, qR_congr h, ← e, mv_u]
theorem line_c {k m : Rat} {l : Rl} (h : OnL k m l) : cR l = k * uR l := by
  have e1 : sR (fun p => p.1 * p.2) l = k * sR (fun p => p.1 * p.1) l + m * sR (fun p => p.1) l := by
    rw [← sR_lin]; exact sR_congr (fun p hp => by rw [h p hp]; grind)
  rw [cR_q, e1, sR_congr h, sR_affine (fun p => p.1), uR_q]
  unfold qR; grind
theorem sq_line {k m : Rat} (hk : k ≠ 0) {l : Rl} (h : OnL k m l) : sqR l = if l.length < 3 ∨ uR l = 0 then (fOf 0, 0, false) else (fOf 1, (if k < 0 then -1 else 1), true) := by
  have hv := line_v h
  have hc := line_c h
  have hkk := mul_ne hk hk
  have e : vR l = 0 ↔ uR l = 0 := by rw [hv]; exact ⟨fun h => (Rat.mul_eq_zero.1 h).resolve_left hkk, fun h => by rw [h, Rat.mul_zero]⟩
  unfold sqR
  rw [ite_iff (q := l.length < 3 ∨ uR l = 0) (or_congr Iff.rfl (by rw [e, or_self]))]
  by_cases h0 : l.length < 3 ∨ uR l = 0
  · rw [if_pos h0, if_pos h0]
  · have hu : uR l ≠ 0 := fun e => h0 (.inr e)
    have h1 : scR l = 1 := sc_one hu (fun h => hu (e.1 h)) (by rw [hc, hv]; grind)
    unfold scR at h1
    rw [if_neg h0, if_neg h0, h1]
    have hup := pos_of (u_nonneg l) hu
    congr 2
    have e1 : ratC (uR l) 0 = 1 := by
      unfold ratC
      rw [if_neg (by grind), if_pos hup]
    by_cases hn : k < 0
    · rw [if_pos hn, hc, ratC_neg2 hn, e1]
    · rw [if_neg hn, hc, ratC_pos (by grind), e1]
theorem u_zero {l : Rl} (h : uR l = 0) : ∀ p ∈ l, ∀ q ∈ l, p.1 = q.1 := by
  rw [uR_q] at h; exact qR_zero _ l h
theorem u_alike {l : Rl} (a : Rat) (h : ∀ p ∈ l, p.1 = a) : uR l = 0 := by rw [uR_q]; exact qR_alike _ a l h
theorem sq_beside {l : Rl} (h3 : ¬ l.length < 3) (hu : uR l ≠ 0) {p q : Rat × Rat} (hp : p ∈ l) (hq : q ∈ l) (h1 : p.1 = q.1) (h2 : p.2 ≠ q.2) : ∃ s, sqR l = (fOf (scR l), s, true) ∧ scR l < 1 := by
  have hv : vR l ≠ 0 := fun e => by
    rw [vR_q] at e
    exact h2 (qR_zero _ l e p hp q hq)
  refine ⟨ratC (cR l) 0, ?_, ?_⟩
  · unfold sqR
    rw [if_neg (by rintro (h | h | h) <;> contradiction)]; rfl
  · refine Rat.lt_iff_le_and_ne.2 ⟨sc_le hu hv, fun e => ?_⟩
    have h := sc_mul hu hv
    rw [e, Rat.mul_one] at h
    have hz : qR (fun p => vR l * p.1 + (-cR l) * p.2) l = 0 := by rw [← cs_key]; grind
    have := qR_zero _ l hz p hp q hq
    rw [h1] at this
    have hc : cR l * (p.2 - q.2) = 0 := by grind
    rcases Rat.mul_eq_zero.1 hc with hc | hc
    · rw [hc, Rat.mul_zero] at h
      exact mul_ne hu hv h
    · exact h2 (by grind)
end Go.Proofs

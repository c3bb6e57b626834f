/- Sums over Rat: the square of the correlation lies between 0 and 1; turned, moved, reversed; lines. -/
import Derived.Test.YtahbkngofdpehaaDoorCnNW13
set_option linter.unusedVariables false
set_option linter.unusedSimpArgs false
set_option linter.unusedSectionVars false
namespace Go.Proofs
open Go Eng

theorem snoc_ind {α : Type} {P : List α → Prop} (h0 : P []) (h1 : ∀ l x, P l → P (l ++ [x])) : ∀ l, P l := by
  have : ∀ (n : Nat) l, l.length = n → P l := by
    intro n
    induction n with
    | zero => intro l hl; rw [List.eq_nil_of_length_eq_zero hl]; exact h0
    | succ n ih =>
      intro l hl
      rcases List.eq_nil_or_concat l with rfl | ⟨v, x, rfl⟩
      · simp at hl
      · rw [List.concat_eq_append] at hl ⊢
        exact h1 v x (ih v (by simpa using hl))
  exact fun l => this _ l rfl
abbrev Rl := List (Rat × Rat)
theorem divInt_int (n : Int) : Rat.divInt n 1 = (n : Rat) := by
  have h := Rat.num_divInt_den (n : Rat)
  rw [Rat.num_intCast, Rat.den_intCast] at h
  exact h
theorem divInt_one (n : Nat) : Rat.divInt (n : Int) 1 = (n : Rat) := divInt_int n
theorem partR_eq (n : Nat) (ab a b : Rat) : partR n ab a b = (n : Rat) * ab - a * b := by unfold partR; rw [divInt_one]
theorem sR_lin (f g : Rat × Rat → Rat) (a b : Rat) : ∀ l : Rl, sR (fun p => a * f p + b * g p) l = a * sR f l + b * sR g l :=
  snoc_ind (by rw [sR_nil, sR_nil, sR_nil]; grind) (fun l x ih => by rw [sR_snoc, sR_snoc, sR_snoc, ih]; grind)
theorem sR_congr {f g : Rat × Rat → Rat} {l : Rl} (h : ∀ p ∈ l, f p = g p) : sR f l = sR g l := by
  revert h
  refine snoc_ind (P := fun l => (∀ p ∈ l, f p = g p) → sR f l = sR g l) (fun _ => rfl) (fun l x ih h => ?_) l
  rw [sR_snoc, sR_snoc, ih (fun p hp => h p (by simp [hp])), h x (by simp)]
theorem sR_const (a : Rat) : ∀ l : Rl, sR (fun _ => a) l = (l.length : Rat) * a :=
  snoc_ind (by rw [sR_nil]; simp) (fun l x ih => by rw [sR_snoc, ih, List.length_append, List.length_singleton, Rat.natCast_add]; grind)
theorem sR_map (f : Rat × Rat → Rat) (g : Rat × Rat → Rat × Rat) (l : Rl) : sR f (l.map g) = sR (fun p => f (g p)) l := by unfold sR; rw [List.foldl_map]
theorem sR_app (f : Rat × Rat → Rat) (a : Rl) : ∀ b : Rl, sR f (a ++ b) = sR f a + sR f b :=
  snoc_ind (by rw [List.append_nil, sR_nil]; grind) (fun l x ih => by rw [← List.append_assoc, sR_snoc, sR_snoc, ih]; grind)
theorem sR_rev (f : Rat × Rat → Rat) : ∀ l : Rl, sR f l.reverse = sR f l :=
  snoc_ind rfl (fun l x ih => by rw [List.reverse_append, List.reverse_singleton, sR_app, sR_snoc, ih, ← List.nil_append [x], sR_snoc, sR_nil]; grind)
theorem sq_nonneg (a : Rat) : 0 ≤ a * a := by
  rcases (Rat.le_total : (0 : Rat) ≤ a ∨ a ≤ 0) with h | h
  · exact Rat.mul_nonneg h h
  · have h1 : 0 ≤ -a := by grind
    have := Rat.mul_nonneg h1 h1
    grind
theorem sR_nonneg {f : Rat × Rat → Rat} (hf : ∀ p, 0 ≤ f p) : ∀ l : Rl, 0 ≤ sR f l :=
  snoc_ind (by rw [sR_nil]; exact Rat.le_refl) (fun l x ih => by rw [sR_snoc]; have := hf x; grind)
theorem sR_zero {f : Rat × Rat → Rat} (hf : ∀ p, 0 ≤ f p) : ∀ l : Rl, sR f l = 0 → ∀ p ∈ l, f p = 0 :=
  snoc_ind (fun _ p hp => absurd hp (by simp)) (fun l x ih h p hp => by
    rw [sR_snoc] at h
    have h1 := hf x
    have h2 := sR_nonneg hf l
    rcases List.mem_append.1 hp with hp | hp
    · exact ih (by grind) p hp
    · rw [List.mem_singleton.1 hp]; grind)

/-- n times the sum of squares less the square of the sum. -/
def qR (f : Rat × Rat → Rat) (l : Rl) : Rat := (l.length : Rat) * sR (fun p => f p * f p) l - sR f l * sR f l
theorem uR_q (l : Rl) : uR l = qR (fun p => p.1) l := partR_eq _ _ _ _
theorem vR_q (l : Rl) : vR l = qR (fun p => p.2) l := partR_eq _ _ _ _
theorem cR_q (l : Rl) : cR l = (l.length : Rat) * sR (fun p => p.1 * p.2) l - sR (fun p => p.1) l * sR (fun p => p.2) l := partR_eq _ _ _ _
def dR (f : Rat × Rat → Rat) (z : Rat) (l : Rl) : Rat := sR (fun p => (f p - z) * (f p - z)) l
theorem dR_eq (f : Rat × Rat → Rat) (z : Rat) : ∀ l : Rl, dR f z l = sR (fun p => f p * f p) l - 2 * z * sR f l + (l.length : Rat) * (z * z) :=
  snoc_ind (by unfold dR; rw [sR_nil, sR_nil, sR_nil]; simp; grind) (fun l x ih => by
    unfold dR at ih ⊢
    rw [sR_snoc, sR_snoc, sR_snoc, ih, List.length_append, List.length_singleton, Rat.natCast_add]; grind)
theorem qR_snoc (f : Rat × Rat → Rat) (l : Rl) (p : Rat × Rat) : qR f (l ++ [p]) = qR f l + dR f (f p) l := by
  unfold qR
  rw [dR_eq, sR_snoc, sR_snoc, List.length_append, List.length_singleton, Rat.natCast_add]; grind
theorem dR_nonneg (f : Rat × Rat → Rat) (z : Rat) (l : Rl) : 0 ≤ dR f z l := sR_nonneg (fun p => sq_nonneg _) l
theorem qR_nonneg (f : Rat × Rat → Rat) : ∀ l : Rl, 0 ≤ qR f l :=
  snoc_ind (by unfold qR; rw [sR_nil, sR_nil]; simp; grind) (fun l x ih => by rw [qR_snoc]; have := dR_nonneg f (f x) l; grind)
theorem sq_zero {a : Rat} (h : a * a = 0) : a = 0 := (Rat.mul_eq_zero.1 h).elim id id
/-- It is 0 just where all are alike. -/
theorem qR_zero (f : Rat × Rat → Rat) : ∀ l : Rl, qR f l = 0 → ∀ p ∈ l, ∀ q ∈ l, f p = f q :=
  snoc_ind (fun _ p hp => absurd hp (by simp)) (fun l x ih h p hp q hq => by
    rw [qR_snoc] at h
    have h1 := qR_nonneg f l
    have h2 := dR_nonneg f (f x) l
    have e1 : qR f l = 0 := by grind
    have e2 : dR f (f x) l = 0 := by grind
    have e3 := sR_zero (fun p => sq_nonneg (f p - f x)) l e2
    have key : ∀ p ∈ l ++ [x], f p = f x := fun p hp => by
      rcases List.mem_append.1 hp with hp | hp
      · have := sq_zero (e3 p hp); grind
      · rw [List.mem_singleton.1 hp]
    rw [key p hp, key q hq])
theorem qR_alike (f : Rat × Rat → Rat) (a : Rat) (l : Rl) (h : ∀ p ∈ l, f p = a) : qR f l = 0 := by
  unfold qR
  rw [sR_congr (g := fun _ => a * a) (fun p hp => by rw [h p hp]), sR_congr (g := fun _ => a) (fun p hp => h p hp), sR_const, sR_const]; grind
/-- A mixture of the two. -/
theorem qR_mix (a b : Rat) (l : Rl) : qR (fun p => a * p.1 + b * p.2) l = a * a * uR l + 2 * (a * b) * cR l + b * b * vR l := by
  rw [uR_q, vR_q, cR_q]
  unfold qR
  rw [sR_lin (fun p => p.1) (fun p => p.2) a b]
  have e : sR (fun p => (a * p.1 + b * p.2) * (a * p.1 + b * p.2)) l = a * a * sR (fun p => p.1 * p.1) l + 1 * sR (fun p => (2 * (a * b)) * (p.1 * p.2) + (b * b) * (p.2 * p.2)) l := by
    rw [← sR_lin]
    exact sR_congr (fun p _ => by grind)
  rw [e, sR_lin (fun p => p.1 * p.2) (fun p => p.2 * p.2)]
  grind
theorem cs_key (l : Rl) : vR l * (uR l * vR l - cR l * cR l) = qR (fun p => vR l * p.1 + (-cR l) * p.2) l := by
  rw [qR_mix]; grind
theorem pos_of {a : Rat} (h : 0 ≤ a) (h0 : a ≠ 0) : 0 < a := Rat.lt_iff_le_and_ne.2 ⟨h, Ne.symm h0⟩
theorem u_nonneg (l : Rl) : 0 ≤ uR l := by rw [uR_q]; exact qR_nonneg _ l
theorem v_nonneg (l : Rl) : 0 ≤ vR l := by rw [vR_q]; exact qR_nonneg _ l
theorem nonneg_of_mul {a b : Rat} (ha : 0 < a) (h : 0 ≤ a * b) : 0 ≤ b := by
  rcases (Rat.le_total : (0 : Rat) ≤ b ∨ b ≤ 0) with hb | hb
  · exact hb
  · by_cases h0 : b = 0
    · rw [h0]; exact Rat.le_refl
    · have h1 : 0 < -b := by grind
      have := Rat.mul_pos ha h1
      grind
theorem cauchy {l : Rl} (hv : vR l ≠ 0) : cR l * cR l ≤ uR l * vR l := by
  have h := qR_nonneg (fun p => vR l * p.1 + (-cR l) * p.2) l
  rw [← cs_key] at h
  have := nonneg_of_mul (pos_of (v_nonneg l) hv) h
  grind
end Go.Proofs

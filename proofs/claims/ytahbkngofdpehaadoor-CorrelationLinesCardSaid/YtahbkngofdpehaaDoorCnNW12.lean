/- Package correlation over fractions of any size. -/
import Derived.Test.YtahbkngofdpehaaDoorCnNW11
set_option linter.unusedVariables false
set_option linter.unusedSimpArgs false
set_option linter.unusedSectionVars false
namespace Go.Proofs
open Go Eng

def fP (p : Rat × Rat) : G_arr2_G_api_Fraction := ⟨fOf p.1, fOf p.2⟩
/-- A sum over a list of pairs. -/
def sR (f : Rat × Rat → Rat) (l : List (Rat × Rat)) : Rat := l.foldl (fun s p => s + f p) 0
theorem sR_nil (f : Rat × Rat → Rat) : sR f [] = 0 := rfl
theorem sR_snoc (f : Rat × Rat → Rat) (l : List (Rat × Rat)) (p : Rat × Rat) : sR f (l ++ [p]) = sR f l + f p := by unfold sR; rw [List.foldl_append]; rfl
def mR (l : List (Rat × Rat)) : G_api_Moments := ⟨(l.length : Int), fOf (sR (fun p => p.1) l), fOf (sR (fun p => p.2) l), fOf (sR (fun p => p.1 * p.1) l), fOf (sR (fun p => p.2 * p.2) l), fOf (sR (fun p => p.1 * p.2) l)⟩
/-- Short lists of short fractions. -/
def SzL (b : Nat) (l : List (Rat × Rat)) : Prop := ∀ p ∈ l, Sz b p.1 ∧ Sz b p.2
theorem sR_sz {b c : Nat} {f : Rat × Rat → Rat} (hf : ∀ p : Rat × Rat, Sz b p.1 → Sz b p.2 → Sz c (f p)) : ∀ (n : Nat) (l : List (Rat × Rat)), l.length = n → SzL b l → Sz (1 + n * (c + 1)) (sR f l)
  | 0, l, hl, _ => by rw [List.eq_nil_of_length_eq_zero hl, sR_nil]; exact sz_zero.mono (by omega)
  | n + 1, l, hl, h => by
    rcases List.eq_nil_or_concat l with rfl | ⟨v, x, rfl⟩
    · simp at hl
    · rw [List.concat_eq_append] at hl h ⊢
      have hx := h x (by simp)
      have ih := sR_sz hf n v (by simpa using hl) (fun p hp => h p (by simp [hp]))
      rw [sR_snoc]
      refine (ih.add (hf x hx.1 hx.2)).mono ?_
      rw [Nat.add_mul, Nat.one_mul]; omega

theorem corAdd_eq {b : Nat} {l : List (Rat × Rat)} {p : Rat × Rat} (hl : l.length ≤ 20) (hb : b ≤ 20) (h : SzL b l) (hp : Sz b p.1 ∧ Sz b p.2) : s_correlation_Add (mR l) (fP p).e0 (fP p).e1 = some (mR (l ++ [p])) := by
  have c1 : l.length * (b + 1) ≤ 20 * 21 := Nat.mul_le_mul hl (by omega)
  have c2 : l.length * (b + b + 1) ≤ 20 * 41 := Nat.mul_le_mul hl (by omega)
  have h1 := sR_sz (f := fun p => p.1) (fun p h _ => h) _ l rfl h
  have h2 := sR_sz (f := fun p => p.2) (fun p _ h => h) _ l rfl h
  have h3 := sR_sz (f := fun p => p.1 * p.1) (fun p h _ => h.mul h) _ l rfl h
  have h4 := sR_sz (f := fun p => p.2 * p.2) (fun p _ h => h.mul h) _ l rfl h
  have h5 := sR_sz (f := fun p => p.1 * p.2) (fun p h h' => h.mul h') _ l rfl h
  unfold s_correlation_Add mR fP
  dsimp only
  rw [inK_i64 (by omega), chk_true, numAdd_eq h1 hp.1 (by omega), Option.bind_some, numAdd_eq h2 hp.2 (by omega), Option.bind_some, numMul_eq hp.1 hp.1 (by omega), Option.bind_some, numAdd_eq h3 (hp.1.mul hp.1) (by omega), Option.bind_some, numMul_eq hp.2 hp.2 (by omega), Option.bind_some, numAdd_eq h4 (hp.2.mul hp.2) (by omega), Option.bind_some, numMul_eq hp.1 hp.2 (by omega), Option.bind_some, numAdd_eq h5 (hp.1.mul hp.2) (by omega), Option.bind_some]
  simp only [sR_snoc, List.length_append, List.length_singleton, Int.natCast_add]
  rfl
theorem none_eq : s_correlation_none = some (mR []) := by
  unfold s_correlation_none
  rw [zero_eq, Option.bind_some, Option.bind_some, Option.bind_some, Option.bind_some, Option.bind_some]
  rfl
theorem corOf_eq {b : Nat} {l : List (Rat × Rat)} (hl : l.length ≤ 20) (hb : b ≤ 20) (h : SzL b l) : s_correlation_Of (l.map fP) = some (mR l) := by
  refine eq_of_wp ?_
  unfold s_correlation_Of
  rw [none_eq, wp_bind, wp_some, wp_bind, List.length_map]
  refine wp_mono (uptoS_wp s_correlation_Of_l1_FB l.length (by omega) (fun i (m : G_api_Moments) => (l.map fP, (l.length : Int), i, 0, false, false, false, false, false, false, false, false, false, false, m, [], [], [], [], [], [], [], [], [], [])) (fun i m => m = mR (l.take i)) (Q := fun y => ∃ a0 a1 a2 a3 a4 a5 a6 a7 a8 a9 a10 b1 b2 b3 b4 b5 b6 b7 b8 b9 b10, y = (a0, a1, a2, a3, a4, a5, a6, a7, a8, a9, a10, mR l, b1, b2, b3, b4, b5, b6, b7, b8, b9, b10)) (mR []) rfl ?_ ?_) ?_
  · rintro rec i m hi rfl ih
    unfold s_correlation_Of_l1_B s_correlation_Of_l1_b
    dsimp only
    rw [wp_bif]
    refine ⟨fun _ => ?_, fun h => by have := of_decide_eq_false h; omega⟩
    rw [idx_nat (by rw [List.length_map]; exact hi), wp_bind, wp_some, wp_chk, wp_chk, List.getElem_map, corAdd_eq (by rw [List.length_take]; omega) hb (fun p hp => h p (List.mem_of_mem_take hp)) (h _ (List.getElem_mem hi)), wp_bind, wp_some, wp_chk]
    refine ⟨by decide, by decide, inK_i64 (by omega), ih _ ?_⟩
    rw [List.take_succ_eq_append_getElem hi]
  · rintro rec m rfl
    unfold s_correlation_Of_l1_B s_correlation_Of_l1_b
    dsimp only
    rw [wp_bif]
    refine ⟨fun h => by have := of_decide_eq_true h; omega, fun _ => ?_⟩
    rw [wp_some, List.take_length]
    exact ⟨_, _, _, _, _, _, _, _, _, _, _, _, _, _, _, _, _, _, _, _, _, rfl⟩
  · rintro y ⟨a0, a1, a2, a3, a4, a5, a6, a7, a8, a9, a10, b1, b2, b3, b4, b5, b6, b7, b8, b9, b10, rfl⟩
    exact wp_some.2 rfl
end Go.Proofs

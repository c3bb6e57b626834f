/- Sums of pairs. -/
import Derived.Test.YtjdddnbddnhilaaDoorCpCF4
import Derived.Test.YtjdddnbddnhilaaDoorCpDN
set_option linter.unusedVariables false
set_option linter.unusedSimpArgs false
set_option linter.unusedSectionVars false
namespace Go.Proofs
open Go Eng

theorem zero_eq : s_num_Zero = some (fr 0 1) := by
  have h0 : s_fraction_FromInt 0 = some (bg 0) := by kernel_rfl
  have h1 : s_fraction_FromInt 1 = some (bg ((1 : Nat) : Int)) := by kernel_rfl
  unfold s_num_Zero s_fraction_Of s_fraction_Make
  rw [h0, Option.bind_some, h1, Option.bind_some, bigs_eq, Option.bind_some, Bool.not_true, cond_false]
  rw [show (((bg ((1 : Nat) : Int)).Words.length : Int) == 0) = false from by kernel_rfl, cond_false, reduced_eq (by decide) (by decide) (by decide)]
  rfl

def mo (n x y xx yy xy : Int) : GaMoments := ⟨n, fr x 12, fr y 12, fr xx 144, fr yy 144, fr xy 144⟩
def prP (p : Int × Int) : G_arr2_GaFraction := ⟨fr p.1 12, fr p.2 12⟩
def sm (f : Int × Int → Int) : List (Int × Int) → Int
  | [] => 0
  | p :: l => f p + sm f l
theorem sm_app (f : Int × Int → Int) : ∀ a b : List (Int × Int), sm f (a ++ b) = sm f a + sm f b
  | [], b => by simp [sm]
  | p :: a, b => by rw [List.cons_append, sm, sm, sm_app f a b]; omega
theorem sm_bound (f : Int × Int → Int) (B : Int) : ∀ l : List (Int × Int), (∀ p ∈ l, -B ≤ f p ∧ f p ≤ B) → -(B * l.length) ≤ sm f l ∧ sm f l ≤ B * l.length
  | [], _ => by simp [sm]
  | p :: l, h => by
    have h1 := sm_bound f B l fun q hq => h q (List.mem_cons_of_mem _ hq)
    have h2 := h p List.mem_cons_self
    rw [sm, List.length_cons]
    push_cast
    rw [Int.mul_add, Int.mul_one]
    omega

def moL (l : List (Int × Int)) : GaMoments := mo l.length (sm (·.1) l) (sm (·.2) l) (sm (fun p => p.1 * p.1) l) (sm (fun p => p.2 * p.2) l) (sm (fun p => p.1 * p.2) l)

structure Sml (l : List (Int × Int)) : Prop where
  len : l.length ≤ 8
  in_ : ∀ p ∈ l, (-200 ≤ p.1 ∧ p.1 ≤ 200) ∧ (-200 ≤ p.2 ∧ p.2 ≤ 200)

theorem mul_bound {a b : Int} (ha : -200 ≤ a ∧ a ≤ 200) (hb : -200 ≤ b ∧ b ≤ 200) : -40000 ≤ a * b ∧ a * b ≤ 40000 := by
  have h : (a * b).natAbs ≤ 200 * 200 := by rw [Int.natAbs_mul]; exact Nat.mul_le_mul (by omega) (by omega)
  omega

theorem cadd_eq {l : List (Int × Int)} (hl : Sml l) {p : Int × Int} (h1 : -200 ≤ p.1 ∧ p.1 ≤ 200) (h2 : -200 ≤ p.2 ∧ p.2 ≤ 200) : s_correlation_Add (moL l) (fr p.1 12) (fr p.2 12) = some (moL (l ++ [p])) := by
  have hlen := hl.len
  have len' : -(200 * (8 : Int)) ≤ -(200 * (l.length : Int)) := by omega
  have b1 := sm_bound (·.1) 200 l fun p hp => (hl.in_ p hp).1
  have b2 := sm_bound (·.2) 200 l fun p hp => (hl.in_ p hp).2
  have b3 := sm_bound (fun p => p.1 * p.1) 40000 l fun p hp => mul_bound (hl.in_ p hp).1 (hl.in_ p hp).1
  have b4 := sm_bound (fun p => p.2 * p.2) 40000 l fun p hp => mul_bound (hl.in_ p hp).2 (hl.in_ p hp).2
  have b5 := sm_bound (fun p => p.1 * p.2) 40000 l fun p hp => mul_bound (hl.in_ p hp).1 (hl.in_ p hp).2
  have m1 := mul_bound h1 h1
  have m2 := mul_bound h2 h2
  have m3 := mul_bound h1 h2
  have n1 : p.1.natAbs * p.1.natAbs ≤ 200 * 200 := Nat.mul_le_mul (by omega) (by omega)
  have n2 : p.2.natAbs * p.2.natAbs ≤ 200 * 200 := Nat.mul_le_mul (by omega) (by omega)
  have n3 : p.1.natAbs * p.2.natAbs ≤ 200 * 200 := Nat.mul_le_mul (by omega) (by omega)
  unfold s_correlation_Add moL mo
  dsimp only
  simp only [sm_app, sm, Int.add_zero, List.length_append, List.length_singleton]
  rw [show inK .i64 ((l.length : Int) + 1) = true from inK_i64 (by omega)]
  show ((s_num_Add _ _).bind _) = _
  generalize sm (·.1) l = x at *
  generalize sm (·.2) l = y at *
  generalize sm (fun p => p.1 * p.1) l = xx at *
  generalize sm (fun p => p.2 * p.2) l = yy at *
  generalize sm (fun p => p.1 * p.2) l = xy at *
  rw [addD (by decide) (by omega) (by decide), Option.bind_some, addD (by decide) (by omega) (by decide), Option.bind_some]
  rw [mulD (by decide) (by decide) (by omega) (by omega) (by omega) (by decide), Option.bind_some]
  rw [show 12 * 12 = 144 from rfl]
  rw [addD (D := 144) (by decide) (by omega) (by decide), Option.bind_some]
  rw [mulD (by decide) (by decide) (by omega) (by omega) (by omega) (by decide), Option.bind_some]
  rw [show 12 * 12 = 144 from rfl]
  rw [addD (D := 144) (by decide) (by omega) (by decide), Option.bind_some]
  rw [mulD (by decide) (by decide) (by omega) (by omega) (by omega) (by decide), Option.bind_some]
  rw [show 12 * 12 = 144 from rfl]
  rw [addD (D := 144) (by decide) (by omega) (by decide), Option.bind_some]
  push_cast
  rfl

theorem none_eq : s_correlation_none = some (moL []) := by
  unfold s_correlation_none
  rw [zero_eq]
  simp only [Option.bind_some]
  have e1 : fr 0 1 = fr 0 12 := by kernel_rfl
  have e2 : fr 0 1 = fr 0 144 := by kernel_rfl
  show some (⟨0, fr 0 1, fr 0 1, fr 0 1, fr 0 1, fr 0 1⟩ : GaMoments) = some ⟨0, fr 0 12, fr 0 12, fr 0 144, fr 0 144, fr 0 144⟩
  rw [← e1, ← e2]

theorem Sml.take {l : List (Int × Int)} (h : Sml l) (k : Nat) : Sml (l.take k) := ⟨by have := h.len; rw [List.length_take]; omega, fun p hp => h.in_ p (List.mem_of_mem_take hp)⟩

theorem of_eq {l : List (Int × Int)} (hl : Sml l) : s_correlation_Of (l.map prP) = some (moL l) := by
  refine eq_of_wp ?_
  have hlen := hl.len
  unfold s_correlation_Of
  rw [none_eq, wp_bind, wp_some, wp_bind]
  refine wp_mono (forS_wp s_correlation_Of_l1_FB (l.map prP) (by simp; omega) (fun k (m : GaMoments) => (l.map prP, ((l.map prP).length : Int), k, 0, false, false, false, false, false, false, false, false, false, false, m, [], [], [], [], [], [], [], [], [], []))
    (fun k m => m = moL (l.take k)) (Q := fun x => x.2.2.2.2.2.2.2.2.2.2.2.1 = moL l) (moL []) rfl (fun rec k m hlt hP ih => ?_) (fun rec m hP => ?_)) ?_
  · subst hP
    have hk : k < l.length := by simpa using hlt
    have hin := hl.in_ _ (List.getElem_mem hk)
    unfold s_correlation_Of_l1_B s_correlation_Of_l1_b
    dsimp only
    rw [wp_bif]
    refine ⟨fun _ => ?_, fun h => by simp only [decide_eq_false_iff_not] at h; omega⟩
    rw [wp_bind, idx_nat hlt, wp_some, wp_chk, wp_chk, wp_bind, List.getElem_map]
    refine ⟨by decide, by decide, ?_⟩
    show wp (s_correlation_Add (moL (l.take k)) (fr l[k].1 12) (fr l[k].2 12)) _
    rw [cadd_eq (hl.take k) hin.1 hin.2, wp_some, wp_chk]
    exact ⟨inK_i64 (by omega), ih _ (by rw [List.take_succ_eq_append_getElem hk])⟩
  · subst hP
    rw [List.length_map, List.take_length]
    unfold s_correlation_Of_l1_B s_correlation_Of_l1_b
    dsimp only
    rw [wp_bif]
    exact ⟨fun h => by simp only [decide_eq_true_eq, List.length_map] at h; omega, fun _ => by rw [wp_some]⟩
  · rintro ⟨a, b1, b2, b3, b4, b5, b6, b7, b8, b9, b10, m, r⟩ hm
    obtain ⟨c1, c2, c3, c4, c5, c6, c7, c8, c9, c10⟩ := r
    dsimp only at hm ⊢
    unfold s_correlation_Of_k1
    rw [wp_some]; exact hm

theorem sameBig_self (a : GaBig) (h : a.Words.length ≤ 1000) : sr23_sameBig a a = some true := by
  refine eq_of_wp ?_
  unfold sr23_sameBig
  rw [wp_bif]
  refine ⟨fun h => by simp at h, fun _ => ?_⟩
  rw [bne_self_eq_false]
  unfold sr23_sameBig_j1 sr23_sameBig_k2
  rw [cond_false, wp_bind]
  refine wp_mono (forS_wp sr23_sameBig_l1_FB a.Words (by omega) (fun k (_ : Unit) => (a.Words, (a.Words.length : Int), k, a)) (fun _ _ => True) (Q := fun x => x = .brk ()) () trivial (fun rec k _ hlt _ ih => ?_) (fun rec _ _ => ?_)) ?_
  · unfold sr23_sameBig_l1_B sr23_sameBig_l1_b
    dsimp only
    rw [wp_bif]
    refine ⟨fun _ => ?_, fun h => by simp only [decide_eq_false_iff_not] at h; omega⟩
    rw [wp_bind, idx_nat hlt, wp_some, wp_bind, wp_some, bne_self_eq_false, cond_false, wp_chk]
    exact ⟨inK_i64 (by omega), ih () trivial⟩
  · unfold sr23_sameBig_l1_B sr23_sameBig_l1_b
    dsimp only
    rw [wp_bif]
    exact ⟨fun h => by simp only [decide_eq_true_eq] at h; omega, fun _ => by rw [wp_some]⟩
  · rintro x rfl
    dsimp only; rw [wp_some]
theorem sameFr (p : Int) (q : Nat) : sr23_Same (fr p q) (fr p q) = some true := by
  unfold sr23_Same sr23_Same_j1
  rw [sameBig_self _ (Nat.le_trans (wd_len _) (by decide)), Option.bind_some, cond_true, sameBig_self _ (Nat.le_trans (wd_len _) (by decide))]
  rfl
theorem sameMo (l : List (Int × Int)) : sr25_SameMoments (moL l) (moL l) = some true := by
  unfold sr25_SameMoments sr25_SameMoments_j1 moL mo
  dsimp only
  rw [beq_self_eq_true, cond_true]
  rw [sameFr, Option.bind_some, cond_true, sameFr, Option.bind_some, cond_true, sameFr, Option.bind_some, cond_true, sameFr, Option.bind_some, cond_true, sameFr]
  rfl

theorem moL_turn (l : List (Int × Int)) (k : Nat) : moL (l.drop k ++ l.take k) = moL l := by
  have h : ∀ f, sm f (l.drop k ++ l.take k) = sm f l := fun f => by
    rw [sm_app, Int.add_comm, ← sm_app, List.take_append_drop]
  have hl : (l.drop k ++ l.take k).length = l.length := by simp; omega
  unfold moL
  rw [hl]
  simp only [h]
end Go.Proofs

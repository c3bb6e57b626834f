/- Fractions of one word. -/
import Derived.Test.YtjdddnbddnhilaaDoorCpCF3
set_option linter.unusedVariables false
set_option linter.unusedSimpArgs false
set_option linter.unusedSectionVars false
namespace Go.Proofs
open Go Eng

/-- p / q in lowest terms. -/
def fr (p : Int) (q : Nat) : GaFraction := ⟨⟨decide (p < 0), wd (p.natAbs / Nat.gcd p.natAbs q)⟩, ⟨false, wd (q / Nat.gcd p.natAbs q)⟩⟩

theorem bg_nat (q : Nat) : bg (q : Int) = ⟨false, wd q⟩ := by unfold bg; rw [decide_eq_false (by omega)]; rfl

theorem fr_red (p : Int) {q : Nat} (hq : q ≠ 0) : ∃ (P : Int) (Q g : Nat), fr p q = ⟨bg P, bg (Q : Int)⟩ ∧ Q ≠ 0 ∧ g ≠ 0 ∧ Nat.gcd P.natAbs Q = 1 ∧ p = P * g ∧ q = Q * g := by
  obtain ⟨g, hg⟩ : ∃ g, g = Nat.gcd p.natAbs q := ⟨_, rfl⟩
  have hg0 : 0 < g := by rw [hg]; exact Nat.gcd_pos_of_pos_right _ (by omega)
  obtain ⟨x, hx⟩ : g ∣ p.natAbs := by rw [hg]; exact Nat.gcd_dvd_left ..
  obtain ⟨y, hy⟩ : g ∣ q := by rw [hg]; exact Nat.gcd_dvd_right ..
  have e1 : p.natAbs / g = x := by rw [hx, Nat.mul_div_cancel_left _ hg0]
  have e2 : q / g = y := by rw [hy, Nat.mul_div_cancel_left _ hg0]
  have co : Nat.gcd x y = 1 := by
    have : g * Nat.gcd x y = g * 1 := by rw [← Nat.gcd_mul_left, ← hx, ← hy, ← hg, Nat.mul_one]
    exact Nat.eq_of_mul_eq_mul_left hg0 this
  have hy0 : y ≠ 0 := fun h => by rw [h] at hy; omega
  by_cases hp : p < 0
  · have hx0 : x ≠ 0 := fun h => by rw [h] at hx; omega
    refine ⟨-(x : Int), y, g, ?_, hy0, by omega, by rw [Int.natAbs_neg, Int.natAbs_natCast]; exact co, ?_, by rw [hy, Nat.mul_comm]⟩
    · unfold fr
      rw [← hg, e1, e2, bg_nat]
      unfold bg
      rw [decide_eq_true hp, decide_eq_true (by omega : -(x : Int) < 0), Int.natAbs_neg, Int.natAbs_natCast]
    · have : (p.natAbs : Int) = (g : Int) * x := by rw [hx]; push_cast; rfl
      rw [Int.neg_mul, Int.mul_comm, ← this]; omega
  · refine ⟨(x : Int), y, g, ?_, hy0, by omega, by rw [Int.natAbs_natCast]; exact co, ?_, by rw [hy, Nat.mul_comm]⟩
    · unfold fr
      rw [← hg, e1, e2, bg_nat, bg_nat, decide_eq_false hp]
    · have : (p.natAbs : Int) = (g : Int) * x := by rw [hx]; push_cast; rfl
      rw [Int.mul_comm, ← this]; omega

theorem fr_scale (p : Int) (q : Nat) {k : Nat} (hk : k ≠ 0) : fr (p * k) (q * k) = fr p q := by
  have h1 : (p * (k : Int)).natAbs = p.natAbs * k := by rw [Int.natAbs_mul, Int.natAbs_natCast]
  have h2 : decide (p * (k : Int) < 0) = decide (p < 0) := by
    rw [decide_eq_decide]
    constructor
    · intro h
      rcases Int.lt_or_le p 0 with h0 | h0
      · exact h0
      · have := Int.mul_nonneg h0 (by omega : (0 : Int) ≤ k); omega
    · exact fun h => Int.mul_neg_of_neg_of_pos h (by omega)
  unfold fr
  rw [h1, h2, Nat.gcd_mul_right, Nat.mul_div_mul_right _ _ (by omega), Nat.mul_div_mul_right _ _ (by omega)]

theorem gcd_lt {a b : Nat} (hb : b ≠ 0) (h : b < 4294967296) : Nat.gcd a b < 4294967296 ∧ Nat.gcd a b ≠ 0 := by
  have h1 := Nat.gcd_le_right a (by omega : 0 < b)
  have h2 : 0 < Nat.gcd a b := Nat.gcd_pos_of_pos_right _ (by omega)
  omega

theorem reduced_eq {p : Int} {q : Nat} (hq : q ≠ 0) (hp : p.natAbs < 4294967296) (hq2 : q < 4294967296) : s_fraction_reduced (bg p) (bg (q : Int)) = some (fr p q) := by
  have hg := gcd_lt (a := p.natAbs) hq hq2
  have hd : p < 0 → p.natAbs / Nat.gcd p.natAbs q ≠ 0 := fun h0 h => by
    have := Nat.div_mul_cancel (Nat.gcd_dvd_left p.natAbs q)
    rw [h] at this; omega
  rw [bg_nat]
  unfold s_fraction_reduced bg fr
  dsimp only
  rw [common_eq hp hq2, Option.bind_some, over_eq hg.2 hp hg.1, Option.bind_some]
  dsimp only
  rw [over_eq hg.2 hq2 hg.1, Option.bind_some]
  dsimp only
  rw [signed_eq, Option.bind_some, signed_eq, Option.bind_some, Bool.false_and]
  refine congrArg some (congrArg (fun b => (⟨⟨b, wd (p.natAbs / Nat.gcd p.natAbs q)⟩, ⟨false, wd (q / Nat.gcd p.natAbs q)⟩⟩ : GaFraction)) ?_)
  by_cases h0 : p < 0
  · rw [decide_eq_true h0, decide_eq_true (hd h0)]; rfl
  · rw [decide_eq_false h0]; rfl

theorem bigs_eq (x y : Int) : s_fraction_bigs [bg x, bg y] = some true := by
  refine eq_of_wp ?_
  unfold s_fraction_bigs s_fraction_bigs_k1
  rw [wp_bind]
  refine wp_mono (forS_wp s_fraction_bigs_l1_FB [bg x, bg y] (by simp) (fun k (_ : Unit) => ([bg x, bg y], (([bg x, bg y] : List GaBig).length : Int), k)) (fun _ _ => True) (Q := fun x => x = .brk ()) () trivial (fun rec k _ hlt _ ih => ?_) (fun rec _ _ => ?_)) ?_
  · have hv : s_fraction_ValidBig ([bg x, bg y] : List GaBig)[k] = some true := by
      have hm := List.getElem_mem hlt
      simp only [List.mem_cons, List.not_mem_nil, or_false] at hm
      rcases hm with hm | hm <;> rw [hm] <;> exact validBig_eq _
    unfold s_fraction_bigs_l1_B s_fraction_bigs_l1_b
    dsimp only
    rw [wp_bif]
    refine ⟨fun _ => ?_, fun h => by simp only [decide_eq_false_iff_not] at h; omega⟩
    simp only [List.length_cons, List.length_nil] at hlt
    rw [wp_bind, idx_nat (by simp; omega), wp_some, hv, wp_bind, wp_some, Bool.not_true, cond_false, wp_chk]
    exact ⟨inK_i64 (by omega), ih () trivial⟩
  · unfold s_fraction_bigs_l1_B s_fraction_bigs_l1_b
    dsimp only
    rw [wp_bif]
    exact ⟨fun h => by simp only [decide_eq_true_eq] at h; omega, fun _ => by rw [wp_some]⟩
  · rintro x rfl
    dsimp only; rw [wp_some]

theorem valid_eq {P : Int} {Q : Nat} (hQ : Q ≠ 0) (hc : Nat.gcd P.natAbs Q = 1) (hP : P.natAbs < 4294967296) (hQ2 : Q < 4294967296) : s_fraction_Valid ⟨bg P, bg (Q : Int)⟩ = some true := by
  unfold s_fraction_Valid s_fraction_Valid_j1
  dsimp only
  rw [bigs_eq, Option.bind_some, cond_true, bg_nat]
  have e : decide (((wd Q).length : Int) > 0) = true := by rw [wd_pos hQ]; rfl
  dsimp only
  rw [e, cond_true, Bool.not_false, cond_true]
  show ((s_fraction_words_common (wd P.natAbs) (wd Q)).bind _) = _
  rw [common_eq hP hQ2, hc, Option.bind_some, show ([1] : List Int) = wd 1 from rfl, compare_eq, Option.bind_some]
  rfl

theorem small_max (n : Int) (d : Nat) : decide ((if ((fr n d).Den.Words.length : Int) > ((fr n d).Num.Words.length : Int) then ((fr n d).Den.Words.length : Int) else ((fr n d).Num.Words.length : Int)) > 256) = false := by
  have h1 : (fr n d).Den.Words.length ≤ 1 := wd_len _
  have h2 : (fr n d).Num.Words.length ≤ 1 := wd_len _
  refine decide_eq_false ?_
  split <;> omega

theorem product_nat {x : Int} {q : Nat} (hx : x.natAbs < 4294967296) (hq : q < 4294967296) (h : x.natAbs * q < 4294967296) : s_fraction_product (bg x) (bg (q : Int)) = some (bg (x * q)) :=
  product_eq hx (by rw [Int.natAbs_natCast]; exact hq) (by rw [Int.natAbs_natCast]; exact h)
theorem product_nats {p q : Nat} (hx : p < 4294967296) (hq : q < 4294967296) (h : p * q < 4294967296) : s_fraction_product (bg (p : Int)) (bg (q : Int)) = some (bg ((p * q : Nat) : Int)) := by
  rw [product_nat (by rw [Int.natAbs_natCast]; exact hx) hq (by rw [Int.natAbs_natCast]; exact h)]
  push_cast; rfl

theorem add_eq {P P' : Int} {Q Q' : Nat} (hQ : Q ≠ 0) (hQ' : Q' ≠ 0) (hc : Nat.gcd P.natAbs Q = 1) (hc' : Nat.gcd P'.natAbs Q' = 1) (h1 : P.natAbs * Q' + P'.natAbs * Q < 4294967296) (h2 : Q * Q' < 4294967296) :
    s_num_Add ⟨bg P, bg (Q : Int)⟩ ⟨bg P', bg (Q' : Int)⟩ = some (fr (P * Q' + P' * Q) (Q * Q')) := by
  have b1 : P.natAbs ≤ P.natAbs * Q' := Nat.le_mul_of_pos_right _ (by omega)
  have b2 : P'.natAbs ≤ P'.natAbs * Q := Nat.le_mul_of_pos_right _ (by omega)
  have b3 : Q ≤ Q * Q' := Nat.le_mul_of_pos_right _ (by omega)
  have b4 : Q' ≤ Q * Q' := Nat.le_mul_of_pos_left _ (by omega)
  have n1 : (P * (Q' : Int)).natAbs = P.natAbs * Q' := by rw [Int.natAbs_mul, Int.natAbs_natCast]
  have n2 : (P' * (Q : Int)).natAbs = P'.natAbs * Q := by rw [Int.natAbs_mul, Int.natAbs_natCast]
  have hne : Q * Q' ≠ 0 := Nat.mul_ne_zero hQ hQ'
  have e : (((wd (Q * Q')).length : Int) == 0) = false := by rw [wd_pos hne]; rfl
  unfold s_num_Add s_fraction_Add s_fraction_operation_result s_fraction_operation_result_j1 s_num_first
  rw [valid_eq hQ hc (by omega) (by omega), Option.bind_some, Bool.not_true, cond_false, valid_eq hQ' hc' (by omega) (by omega), Option.bind_some, Bool.not_true, cond_false]
  unfold s_fraction_plus
  dsimp only
  rw [product_nat (by omega) (by omega) (by omega), Option.bind_some, product_nat (by omega) (by omega) (by omega), Option.bind_some, sum_eq (by omega), Option.bind_some, product_nats (by omega) (by omega) (by omega), Option.bind_some, Option.bind_some]
  dsimp only
  rw [show (bg ((Q * Q' : Nat) : Int)).Words = wd (Q * Q') from rfl, e, cond_false, reduced_eq hne (by omega) h2, Option.bind_some]
  rw [small_max, cond_false]
  rfl

theorem mul_eq {P P' : Int} {Q Q' : Nat} (hQ : Q ≠ 0) (hQ' : Q' ≠ 0) (hc : Nat.gcd P.natAbs Q = 1) (hc' : Nat.gcd P'.natAbs Q' = 1) (hP : P.natAbs < 4294967296) (hP' : P'.natAbs < 4294967296) (h1 : P.natAbs * P'.natAbs < 4294967296) (h2 : Q * Q' < 4294967296) :
    s_num_Mul ⟨bg P, bg (Q : Int)⟩ ⟨bg P', bg (Q' : Int)⟩ = some (fr (P * P') (Q * Q')) := by
  have b3 : Q ≤ Q * Q' := Nat.le_mul_of_pos_right _ (by omega)
  have b4 : Q' ≤ Q * Q' := Nat.le_mul_of_pos_left _ (by omega)
  have n1 : (P * P').natAbs = P.natAbs * P'.natAbs := Int.natAbs_mul ..
  have hne : Q * Q' ≠ 0 := Nat.mul_ne_zero hQ hQ'
  have e : (((wd (Q * Q')).length : Int) == 0) = false := by rw [wd_pos hne]; rfl
  unfold s_num_Mul s_fraction_Mul s_fraction_operation_result_2 s_fraction_operation_result_2_j1 s_num_first
  rw [valid_eq hQ hc (by omega) (by omega), Option.bind_some, Bool.not_true, cond_false, valid_eq hQ' hc' (by omega) (by omega), Option.bind_some, Bool.not_true, cond_false]
  unfold s_fraction_times
  dsimp only
  rw [product_eq hP hP' h1, Option.bind_some, product_nats (by omega) (by omega) (by omega), Option.bind_some, Option.bind_some]
  dsimp only
  rw [show (bg ((Q * Q' : Nat) : Int)).Words = wd (Q * Q') from rfl, e, cond_false, reduced_eq hne (by omega) h2, Option.bind_some]
  rw [small_max, cond_false]
  rfl

theorem addD {a b : Int} {D : Nat} (hD : D ≠ 0) (h1 : (a.natAbs + b.natAbs) * D < 4294967296) (h2 : D * D < 4294967296) : s_num_Add (fr a D) (fr b D) = some (fr (a + b) D) := by
  obtain ⟨P, Q, g, e, hQ, hg, hc, ha, hD1⟩ := fr_red a hD
  obtain ⟨P', Q', g', e', hQ', hg', hc', hb, hD2⟩ := fr_red b hD
  have ha' : a.natAbs = P.natAbs * g := by rw [ha, Int.natAbs_mul, Int.natAbs_natCast]
  have hb' : b.natAbs = P'.natAbs * g' := by rw [hb, Int.natAbs_mul, Int.natAbs_natCast]
  have q1 : Q ≤ D := by rw [hD1]; exact Nat.le_mul_of_pos_right _ (by omega)
  have q2 : Q' ≤ D := by rw [hD2]; exact Nat.le_mul_of_pos_right _ (by omega)
  have p1 : P.natAbs ≤ a.natAbs := by rw [ha']; exact Nat.le_mul_of_pos_right _ (by omega)
  have p2 : P'.natAbs ≤ b.natAbs := by rw [hb']; exact Nat.le_mul_of_pos_right _ (by omega)
  have s1 : P.natAbs * Q' ≤ a.natAbs * D := Nat.mul_le_mul p1 q2
  have s2 : P'.natAbs * Q ≤ b.natAbs * D := Nat.mul_le_mul p2 q1
  have s3 : Q * Q' ≤ D * D := Nat.mul_le_mul q1 q2
  rw [Nat.add_mul] at h1
  rw [e, e', add_eq hQ hQ' hc hc' (by omega) (by omega)]
  refine congrArg some ?_
  rw [← fr_scale _ (Q * Q') (k := g * g') (Nat.mul_ne_zero hg hg'), ← fr_scale (a + b) D (k := D) hD]
  have hDi : (D : Int) = (Q : Int) * g := by rw [hD1]; push_cast; rfl
  have hDi' : (D : Int) = (Q' : Int) * g' := by rw [hD2]; push_cast; rfl
  have hn : (P * (Q' : Int) + P' * (Q : Int)) * ((g * g' : Nat) : Int) = (a + b) * (D : Int) := by
    rw [Int.add_mul, Int.add_mul]
    have t1 : P * (Q' : Int) * ((g * g' : Nat) : Int) = a * (D : Int) := by rw [ha, hDi']; push_cast; rw [Int.mul_assoc, Int.mul_assoc, Int.mul_left_comm (Q' : Int)]
    have t2 : P' * (Q : Int) * ((g * g' : Nat) : Int) = b * (D : Int) := by rw [hb, hDi]; push_cast; rw [Int.mul_assoc, Int.mul_assoc, Int.mul_comm (g : Int), Int.mul_left_comm (Q : Int)]
    rw [t1, t2]
  have hd : Q * Q' * (g * g') = D * D := by
    calc Q * Q' * (g * g') = (Q * g) * (Q' * g') := by rw [Nat.mul_assoc, Nat.mul_assoc, Nat.mul_left_comm Q' g g']
      _ = D * D := by rw [← hD1, ← hD2]
  rw [hn, hd]

theorem mulD {a b : Int} {D D' : Nat} (hD : D ≠ 0) (hD' : D' ≠ 0) (ha0 : a.natAbs < 4294967296) (hb0 : b.natAbs < 4294967296) (h1 : a.natAbs * b.natAbs < 4294967296) (h2 : D * D' < 4294967296) : s_num_Mul (fr a D) (fr b D') = some (fr (a * b) (D * D')) := by
  obtain ⟨P, Q, g, e, hQ, hg, hc, ha, hD1⟩ := fr_red a hD
  obtain ⟨P', Q', g', e', hQ', hg', hc', hb, hD2⟩ := fr_red b hD'
  have ha' : a.natAbs = P.natAbs * g := by rw [ha, Int.natAbs_mul, Int.natAbs_natCast]
  have hb' : b.natAbs = P'.natAbs * g' := by rw [hb, Int.natAbs_mul, Int.natAbs_natCast]
  have q1 : Q ≤ D := by rw [hD1]; exact Nat.le_mul_of_pos_right _ (by omega)
  have q2 : Q' ≤ D' := by rw [hD2]; exact Nat.le_mul_of_pos_right _ (by omega)
  have p1 : P.natAbs ≤ a.natAbs := by rw [ha']; exact Nat.le_mul_of_pos_right _ (by omega)
  have p2 : P'.natAbs ≤ b.natAbs := by rw [hb']; exact Nat.le_mul_of_pos_right _ (by omega)
  have s1 : P.natAbs * P'.natAbs ≤ a.natAbs * b.natAbs := Nat.mul_le_mul p1 p2
  have s3 : Q * Q' ≤ D * D' := Nat.mul_le_mul q1 q2
  rw [e, e', mul_eq hQ hQ' hc hc' (by omega) (by omega) (by omega) (by omega)]
  refine congrArg some ?_
  rw [← fr_scale _ (Q * Q') (k := g * g') (Nat.mul_ne_zero hg hg')]
  have hn : P * P' * ((g * g' : Nat) : Int) = a * b := by
    rw [ha, hb]; push_cast; rw [Int.mul_assoc, Int.mul_assoc, Int.mul_left_comm P']
  have hd : Q * Q' * (g * g') = D * D' := by
    calc Q * Q' * (g * g') = (Q * g) * (Q' * g') := by rw [Nat.mul_assoc, Nat.mul_assoc, Nat.mul_left_comm Q' g g']
      _ = D * D' := by rw [← hD1, ← hD2]
  rw [hn, hd]
end Go.Proofs

/- The second implementation: sums, products, fractions, comparison. -/
import Derived.Test.YtahbkngofdpehaaDoorCnNW27
set_option linter.unusedVariables false
set_option linter.unusedSimpArgs false
set_option linter.unusedSectionVars false
namespace Go.Proofs
open Go Eng

theorem timesR_eq (x y : Int) (hx : Wl 50000 x) (hy : Wl 50000 y) : s_tablefinderref01_Times (bg x) (bg y) = some (bg (x * y)) := by
  unfold s_tablefinderref01_Times
  have := wl_mul hx hy
  rw [bg_words, bg_words, mulR_eq _ _ (by omega) (by omega), Option.bind_some, bigR_eq _ (wd_dg _) (by omega), val_wd, Option.bind_some, bg_sign]
theorem plusR_eq (x y : Int) (hx : Wl 50000 x) (hy : Wl 50000 y) : s_tablefinderref01_Plus (bg x) (bg y) = some (bg (x + y)) := by
  unfold Wl at hx hy
  unfold s_tablefinderref01_Plus
  have h1 := wl_add hx hy
  rw [bg_words, bg_words, bg_neg, bg_neg]
  have opp : decide (x < 0) ≠ decide (y < 0) → s_tablefinderref01_cmp (iL (wd x.natAbs)) (iL (wd y.natAbs)) = some (natC x.natAbs y.natAbs) := fun _ => cmpR_eq _ _ (by omega) (by omega)
  by_cases hs : decide (x < 0) = decide (y < 0)
  · obtain ⟨o, ho, hd, hl, hv⟩ := addR_eq x.natAbs y.natAbs (by omega) (by omega)
    rw [hs, beq_self_eq_true, cond_true, ho, Option.bind_some, bigR_eq _ hd (by omega), hv, Option.bind_some]
    congr 2
    by_cases hy0 : y < 0
    · have hx0 : x < 0 := by rw [decide_eq_true hy0] at hs; exact of_decide_eq_true hs
      rw [decide_eq_true hy0, if_pos rfl]; omega
    · have hx0 : ¬ x < 0 := by rw [decide_eq_false hy0] at hs; exact of_decide_eq_false hs
      rw [decide_eq_false hy0, if_neg (by decide)]; omega
  · rw [beq_eq_false_iff_ne.2 hs, cond_false, opp hs, Option.bind_some]
    rcases Nat.lt_or_ge x.natAbs y.natAbs with hlt | hge
    · have := wd_mono (Nat.sub_le y.natAbs x.natAbs)
      rw [natC_lt hlt, decide_eq_false (by omega), cond_false, subR_eq _ _ (by omega) (by omega), Option.bind_some, bigR_eq _ (wd_dg _) (by omega), val_wd, Option.bind_some]
      congr 2
      by_cases hy0 : y < 0
      · have hx0 : ¬ x < 0 := fun h => hs (by rw [decide_eq_true hy0, decide_eq_true h])
        rw [decide_eq_true hy0, if_pos rfl]; omega
      · have hx0 : x < 0 := Decidable.byContradiction fun h => hs (by rw [decide_eq_false hy0, decide_eq_false h])
        rw [decide_eq_false hy0, if_neg (by decide)]; omega
    · have hn : natC x.natAbs y.natAbs ≥ 0 := by
        rcases Nat.lt_or_ge y.natAbs x.natAbs with h | h
        · rw [natC_gt h]; decide
        · rw [show x.natAbs = y.natAbs by omega, natC_self]; decide
      have := wd_mono (Nat.sub_le x.natAbs y.natAbs)
      rw [decide_eq_true hn, cond_true, subR_eq _ _ hge (by omega), Option.bind_some, bigR_eq _ (wd_dg _) (by omega), val_wd, Option.bind_some]
      congr 2
      by_cases hx0 : x < 0
      · have hy0 : ¬ y < 0 := fun h => hs (by rw [decide_eq_true hx0, decide_eq_true h])
        rw [decide_eq_true hx0, if_pos rfl]; omega
      · have hy0 : y < 0 := Decidable.byContradiction fun h => hs (by rw [decide_eq_false hx0, decide_eq_false h])
        rw [decide_eq_false hx0, if_neg (by decide)]; omega

theorem minusR_eq (z : Int) (hz : Wl 100000 z) : s_tablefinderref01_Minus (bg z) = some (bg (-z)) := by
  unfold Wl at hz
  unfold s_tablefinderref01_Minus
  rw [bg_neg, bg_words, bigR_eq _ (wd_dg _) (by omega), val_wd, Option.bind_some]
  congr 2
  by_cases h : z < 0
  · rw [decide_eq_true h, if_neg (by decide)]; omega
  · rw [decide_eq_false h, if_pos (by decide)]; omega
theorem validR_eq (q : Rat) (h : Wq 256 q) : s_tablefinderref01_Valid (fOf q) = some true := by
  have hn := h.1
  have hd := h.2
  have hd0 := q.den_nz
  unfold s_tablefinderref01_Valid s_tablefinderref01_Valid_j1 fOf
  dsimp only
  rw [validBigR_same, validBig_eq _ h.1, Option.bind_some, Bool.not_true, cond_false, validBigR_same, validBig_eq _ h.2, Option.bind_some, Bool.not_true, cond_false, bg_neg, decide_eq_false (by omega), cond_false, den_words (by omega), cond_false, bg_words, bg_words, iL_len]
  unfold Wl at hn hd
  have h1 : (wd 1).length ≤ 1 := wd_len_le (by decide)
  have hc : Nat.gcd q.num.natAbs (q.den : Int).natAbs = 1 := q.reduced
  by_cases h0 : q.num = 0
  · rw [h0] at hc
    have e : (q.den : Int).natAbs = 1 := by rwa [show (0 : Int).natAbs = 0 from rfl, Nat.gcd_zero_left] at hc
    rw [h0, show (0 : Int).natAbs = 0 from rfl, wd_zero, e, ← one_words, cmpR_eq 1 1 (by omega) (by omega), natC_self]; rfl
  · have hl := wd_len_pos (n := q.num.natAbs) (by omega)
    rw [beq_eq_false_iff_ne.2 (by omega), cond_false, gcdR_eq _ _ (by omega) (by omega) (by omega) (by omega), hc, Option.bind_some, ← one_words, cmpR_eq 1 1 (by omega) (by omega), natC_self]; rfl
theorem resultR_eq (x y : Int) (hy : y ≠ 0) (hx1 : Wl 50000 x) (hy1 : Wl 50000 y) (hq : Wq 256 (Rat.divInt x y)) : s_tablefinderref01_result (bg x) (bg y) = some (fOf (Rat.divInt x y), 0) := by
  have h1 := hq.1
  have h2 := hq.2
  unfold Wl at h1 h2
  unfold s_tablefinderref01_result s_tablefinderref01_result_j1
  rw [lowestR_eq x y hy hx1 hy1, Option.bind_some]
  unfold fOf
  rw [bg_words, bg_words, iL_len, iL_len, decide_eq_false (by omega), cond_false, decide_eq_false (by omega), cond_false]
theorem addF_eq {a b : Rat} {k l : Nat} (ha : Sz k a) (hb : Sz l b) (hk : k + l + 1 ≤ 8192) : s_tablefinderref01_Add (fOf a) (fOf b) = some (fOf (a + b), 0) := by
  have h1 := a.den_nz
  have h2 := b.den_nz
  have qa := ha.wq (by omega)
  have qb := hb.wq (by omega)
  have w : ∀ {x y : Int}, Wl 256 x → Wl 256 y → Wl 512 (x * y) := fun hx hy => by
    unfold Wl; rw [Int.natAbs_mul]; exact wl_mul hx hy
  have m : ∀ {n : Nat} {x : Int}, Wl n x → n ≤ 50000 → Wl 50000 x := fun h h' => Nat.le_trans h h'
  have w1 := w qa.1 qb.2
  have w2 := w qb.1 qa.2
  have w3 := w qa.2 qb.2
  have w4 : Wl 513 (a.num * (b.den : Int) + b.num * (a.den : Int)) := Nat.le_trans (wd_mono (Int.natAbs_add_le _ _)) (wl_add w1 w2)
  have hd : (a.den : Int) * (b.den : Int) ≠ 0 := Int.mul_ne_zero (by omega) (by omega)
  unfold s_tablefinderref01_Add s_tablefinderref01_Add_j1
  rw [validR_eq a qa, Option.bind_some, Bool.not_true, cond_false, validR_eq b qb, Option.bind_some, Bool.not_true, cond_false]
  show ((s_tablefinderref01_Times (bg a.num) (bg (b.den : Int))).bind fun q => (s_tablefinderref01_Times (bg b.num) (bg (a.den : Int))).bind fun q_1 => (s_tablefinderref01_Plus q q_1).bind fun q_2 => (s_tablefinderref01_Times (bg (a.den : Int)) (bg (b.den : Int))).bind _) = _
  rw [timesR_eq _ _ (m qa.1 (by omega)) (m qb.2 (by omega)), Option.bind_some, timesR_eq _ _ (m qb.1 (by omega)) (m qa.2 (by omega)), Option.bind_some, plusR_eq _ _ (m w1 (by omega)) (m w2 (by omega)), Option.bind_some, timesR_eq _ _ (m qa.2 (by omega)) (m qb.2 (by omega)), Option.bind_some]
  have hw : Wq 256 (Rat.divInt (a.num * (b.den : Int) + b.num * (a.den : Int)) ((a.den : Int) * (b.den : Int))) := by rw [add_divInt]; exact (ha.add hb).wq hk
  rw [resultR_eq _ _ hd (m w4 (by omega)) (m w3 (by omega)) hw, add_divInt, Option.bind_some]
theorem add23_eq {a b : Rat} {k l : Nat} (ha : Sz k a) (hb : Sz l b) (hk : k + l + 1 ≤ 8192) : s_tablefinderref23_Add (fOf a) (fOf b) = some (fOf (a + b)) := by
  unfold s_tablefinderref23_Add
  rw [addF_eq ha hb hk]; rfl
theorem cmpF_eq {a b : Rat} (qa : Wq 256 a) (qb : Wq 256 b) : s_tablefinderref01_Cmp (fOf a) (fOf b) = some (ratC a b) := by
  have w : ∀ {x y : Int}, Wl 256 x → Wl 256 y → Wl 50000 (x * y) := fun hx hy => by
    unfold Wl; rw [Int.natAbs_mul]; exact Nat.le_trans (wl_mul hx hy) (by decide)
  have m : ∀ {x : Int}, Wl 256 x → Wl 50000 x := fun h => Nat.le_trans h (by decide)
  unfold s_tablefinderref01_Cmp s_tablefinderref01_Cmp_j1
  rw [validR_eq a qa, Option.bind_some, Bool.not_true, cond_false, validR_eq b qb, Option.bind_some, Bool.not_true, cond_false]
  show ((s_tablefinderref01_Times (bg a.num) (bg (b.den : Int))).bind fun q => (s_tablefinderref01_Times (bg b.num) (bg (a.den : Int))).bind _) = _
  rw [timesR_eq _ _ (m qa.1) (m qb.2), Option.bind_some, timesR_eq _ _ (m qb.1) (m qa.2), Option.bind_some, minusR_eq _ (Nat.le_trans (w qb.1 qa.2) (by decide)), Option.bind_some]
  have w2 : Wl 50000 (-(b.num * (a.den : Int))) := by unfold Wl; rw [Int.natAbs_neg]; exact w qb.1 qa.2
  rw [plusR_eq _ _ (w qa.1 qb.2) w2, Option.bind_some, bg_neg, bg_words, iL_len]
  unfold ratC
  have h1 := lt_cross a b
  have h2 := lt_cross b a
  generalize a.num * (b.den : Int) = x at *
  generalize b.num * (a.den : Int) = y at *
  by_cases hl : a < b
  · have hlt := h1.1 hl
    have := wd_len_pos (n := (x + -y).natAbs) (by omega)
    rw [if_pos hl, beq_eq_false_iff_ne.2 (by omega), cond_false, decide_eq_true (by omega), cond_true]
  · have hn : ¬ x < y := fun h => hl (h1.2 h)
    rw [if_neg hl]
    by_cases hg : b < a
    · have hlt := h2.1 hg
      have := wd_len_pos (n := (x + -y).natAbs) (by omega)
      rw [if_pos hg, beq_eq_false_iff_ne.2 (by omega), cond_false, decide_eq_false (by omega), cond_false]
    · have hn2 : ¬ y < x := fun h => hg (h2.2 h)
      rw [if_neg hg, show x + -y = 0 by omega, show (0 : Int).natAbs = 0 from rfl, wd_zero]; rfl
theorem less23_eq {a b : Rat} (qa : Wq 256 a) (qb : Wq 256 b) : s_tablefinderref23_Less (fOf a) (fOf b) = some (decide (a < b)) := by
  unfold s_tablefinderref23_Less
  rw [cmpF_eq qa qb, Option.bind_some]
  unfold ratC
  by_cases h : a < b
  · rw [if_pos h, decide_eq_true h]; rfl
  · rw [if_neg h, decide_eq_false h]
    split <;> rfl
end Go.Proofs

/- Fractions: in lowest terms, as core's Rat. -/
import Derived.Test.YtahbkngofdpehaaDoorCnNW8
set_option linter.unusedVariables false
set_option linter.unusedSimpArgs false
set_option linter.unusedSectionVars false
namespace Go.Proofs
open Go Eng

def fOf (q : Rat) : G_api_Fraction := ⟨bg q.num, bg (q.den : Int)⟩

theorem wl_div {x n : Nat} (g : Nat) (h : (wd x).length ≤ n) : (wd (x / g)).length ≤ n := Nat.le_trans (wd_mono (Nat.div_le_self x g)) h
theorem wl_gcd {x y n : Nat} (hy : 0 < y) (h : (wd y).length ≤ n) : (wd (Nat.gcd x y)).length ≤ n := Nat.le_trans (wd_mono (Nat.gcd_le_right x hy)) h

theorem reduced_eq (x y : Int) (hy : y ≠ 0) (hx1 : Wl 50000 x) (hy1 : Wl 50000 y) : s_fraction_reduced (bg x) (bg y) = some (fOf (Rat.divInt x y)) := by
  have hy0 : 0 < y.natAbs := by omega
  have hg0 : Nat.gcd x.natAbs y.natAbs ≠ 0 := fun e => by have := Nat.gcd_pos_of_pos_right x.natAbs hy0; omega
  have hgl := wl_gcd (x := x.natAbs) hy0 hy1
  have hxl := wl_div (Nat.gcd x.natAbs y.natAbs) hx1
  have hyl := wl_div (Nat.gcd x.natAbs y.natAbs) hy1
  unfold s_fraction_reduced
  rw [bg_words, bg_words, common_eq _ _ hx1 hy1, Option.bind_some, over_eq _ _ hg0 hx1 hgl, Option.bind_some]
  dsimp only
  rw [over_eq _ _ hg0 hy1 hgl, Option.bind_some]
  dsimp only
  rw [signed_eq _ _ (by omega), Option.bind_some, signed_eq _ _ (by omega), Option.bind_some, bg_neg, bg_neg]
  unfold fOf
  rw [Rat.num_divInt, Rat.den_divInt, if_neg hy]
  have eg : Int.gcd y x = Nat.gcd x.natAbs y.natAbs := by rw [Int.gcd_comm]; rfl
  rw [eg]
  have key : (if (!(decide (x < 0) == decide (y < 0))) = true then -((x.natAbs / Nat.gcd x.natAbs y.natAbs : Nat) : Int) else ((x.natAbs / Nat.gcd x.natAbs y.natAbs : Nat) : Int)) = y.sign * x / (Nat.gcd x.natAbs y.natAbs : Int) := by
    obtain ⟨k, hk⟩ := Nat.gcd_dvd_left x.natAbs y.natAbs
    generalize Nat.gcd x.natAbs y.natAbs = g at *
    have hgp : 0 < g := by omega
    have e1 : x.natAbs / g = k := by rw [hk, Nat.mul_div_cancel_left _ hgp]
    have e2 : ((g : Int) * (k : Int)) / (g : Int) = k := Int.mul_ediv_cancel_left _ (by omega)
    have e3 : (-((g : Int) * (k : Int))) / (g : Int) = -k := by rw [← Int.mul_neg, Int.mul_ediv_cancel_left _ (by omega)]
    have hk' : ((x.natAbs : Nat) : Int) = (g : Int) * (k : Int) := by rw [hk]; norm_cast
    rw [e1]
    by_cases hx0 : x < 0 <;> by_cases hy0 : y < 0
    · rw [decide_eq_true hx0, decide_eq_true hy0, if_neg (by decide), Int.sign_eq_neg_one_of_neg hy0, show -1 * x = (g : Int) * k by omega, e2]
    · rw [decide_eq_true hx0, decide_eq_false hy0, if_pos (by decide), Int.sign_eq_one_of_pos (by omega), show 1 * x = -((g : Int) * k) by omega, e3]
    · rw [decide_eq_false hx0, decide_eq_true hy0, if_pos (by decide), Int.sign_eq_neg_one_of_neg hy0, show -1 * x = -((g : Int) * k) by omega, e3]
    · rw [decide_eq_false hx0, decide_eq_false hy0, if_neg (by decide), Int.sign_eq_one_of_pos (by omega), show 1 * x = (g : Int) * k by omega, e2]
  rw [key, if_neg Bool.false_ne_true]

theorem bigs_eq : ∀ l : List Int, l.length ≤ 1000 → (∀ z ∈ l, Wl 256 z) → s_fraction_bigs (l.map bg) = some true := fun l hl h => by
  refine eq_of_wp ?_
  unfold s_fraction_bigs
  rw [wp_bind, List.length_map]
  refine wp_mono (uptoS_wp s_fraction_bigs_l1_FB l.length (by omega) (fun i (_ : Unit) => (l.map bg, (l.length : Int), i)) (fun _ _ => True) (Q := fun r => r = .brk ()) () trivial ?_ ?_) ?_
  · rintro rec i ⟨⟩ hi _ ih
    unfold s_fraction_bigs_l1_B s_fraction_bigs_l1_b
    dsimp only
    rw [wp_bif]
    refine ⟨fun _ => ?_, fun h => by have := of_decide_eq_false h; omega⟩
    rw [idx_nat (by rw [List.length_map]; exact hi), wp_bind, wp_some, List.getElem_map, validBig_eq _ (h _ (List.getElem_mem hi)), wp_bind, wp_some]
    rw [Bool.not_true, cond_false, wp_chk]
    exact ⟨inK_i64 (by omega), ih () trivial⟩
  · rintro rec ⟨⟩ _
    unfold s_fraction_bigs_l1_B s_fraction_bigs_l1_b
    dsimp only
    rw [wp_bif]
    refine ⟨fun h => by have := of_decide_eq_true h; omega, fun _ => wp_some.2 rfl⟩
  · rintro r rfl
    exact wp_some.2 rfl

/-- A fraction that fits into n words above and below. -/
abbrev Wq (n : Nat) (q : Rat) : Prop := Wl n q.num ∧ Wl n (q.den : Int)

theorem one_words : iL (wd 1) = [1] := by rw [wd_pos (by decide), show 1 / Bw = 0 from rfl, wd_zero]; rfl
theorem valid_eq (q : Rat) (h : Wq 256 q) : s_fraction_Valid (fOf q) = some true := by
  unfold s_fraction_Valid s_fraction_Valid_j1 fOf
  have hb := bigs_eq [q.num, (q.den : Int)] (by simp) (fun z hz => by
    simp only [List.mem_cons, List.not_mem_nil, or_false] at hz
    rcases hz with rfl | rfl
    · exact h.1
    · exact h.2)
  have hd := q.den_nz
  have hl := wd_len_pos (n := (q.den : Int).natAbs) (by omega)
  have hn := h.1
  have hdl := h.2
  unfold Wl at hn hdl
  dsimp only
  rw [show ([bg q.num, bg (q.den : Int)] : List G_api_Big) = [q.num, (q.den : Int)].map bg from rfl, hb, Option.bind_some, cond_true, bg_words, bg_words, iL_len, decide_eq_true (by omega), cond_true, bg_neg, decide_eq_false (by omega), Bool.not_false, cond_true, common_eq _ _ (by omega) (by omega), Option.bind_some]
  have hc : Nat.gcd q.num.natAbs (q.den : Int).natAbs = 1 := q.reduced
  have h1 : (wd 1).length ≤ 1 := wd_len_le (by decide)
  rw [hc, ← one_words, compare_eq 1 1 (by omega) (by omega), Option.bind_some, natC_self]; rfl
end Go.Proofs

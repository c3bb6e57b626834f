/- Numbers of one word: differences, products, quotients, divisors. -/
import Derived.Test.YtjdddnbddnhilaaDoorCpCF1
set_option linter.unusedVariables false
set_option linter.unusedSimpArgs false
set_option linter.unusedSectionVars false
namespace Go.Proofs
open Go Eng

theorem mk1 : mkOk (1 : Int) (1 : Int) 4 = true := by kernel_rfl
theorem len1 (x : Int) : (([x] : List Int).length : Int) = 1 := rfl

theorem minus_eq {a b : Nat} (h : b ≤ a) (ha : a < 4294967296) : s_fraction_words_minus (wd a) (wd b) = some (wd (a - b)) := by
  refine eq_of_wp ?_
  unfold s_fraction_words_minus
  by_cases h0 : a = 0
  · subst h0
    have : b = 0 := by omega
    subst this
    obtain ⟨n, hn⟩ := big_add 1 (by decide)
    rw [wp_chk]
    refine ⟨by rfl, ?_⟩
    rw [hn]
    show wp ((some ([] : List Int)).bind fun x0 => s_fraction_words_minus_k1 x0) _
    rw [wp_bind, wp_some]
    unfold s_fraction_words_minus_k1
    rw [trim_nil, wp_bind, wp_some, wp_some]; rfl
  · rw [wd_pos h0, len1, wp_chk]
    refine ⟨mk1, ?_⟩
    rw [wp_bind]
    refine wp_mono (uptoS_wp s_fraction_words_minus_l1_FB 1 (by omega) (fun i (t : Int × List Int) => ([(a : Int)], wd b, t.1, (1 : Int), i, t.2)) (fun i t => (i = 0 ∧ t = (0, [0])) ∨ (i = 1 ∧ t.2 = [((a - b : Nat) : Int)])) (Q := fun x => x = [((a - b : Nat) : Int)]) (0, [0]) (.inl ⟨rfl, rfl⟩) (fun rec i t hi hP ih => ?_) (fun rec t hP => ?_)) ?_
    · rcases hP with ⟨rfl, rfl⟩ | ⟨rfl, _⟩
      · unfold s_fraction_words_minus_l1_B s_fraction_words_minus_l1_b
        dsimp only
        rw [wp_bif]
        refine ⟨fun _ => ?_, fun h => by simp only [decide_eq_false_iff_not] at h; omega⟩
        rw [show ((0 : Nat) : Int) = 0 from rfl, show idx [(a : Int)] 0 = some (a : Int) from rfl, wp_bind, wp_some, at_zero, wp_bind, wp_some, wp_bind]
        refine wp_mono (sub32 h ha) fun ⟨q, c⟩ hq => ?_
        dsimp only at hq ⊢
        subst hq
        rw [wp_chk, wp_chk]
        exact ⟨by rfl, by decide, ih (c, [((a - b : Nat) : Int)]) (.inr ⟨rfl, rfl⟩)⟩
      · omega
    · rcases hP with ⟨h1, _⟩ | ⟨_, h2⟩
      · omega
      · obtain ⟨c, l⟩ := t
        dsimp only at h2
        subst h2
        unfold s_fraction_words_minus_l1_B s_fraction_words_minus_l1_b
        dsimp only
        rw [wp_bif]
        refine ⟨fun h => by simp only [decide_eq_true_eq] at h; omega, fun _ => ?_⟩
        rw [wp_some]
    · rintro x rfl
      unfold s_fraction_words_minus_k1
      rw [trim_one, wp_bind, wp_some, wp_some]

def natC (a b : Nat) : Int := if a < b then -1 else if b < a then 1 else 0
theorem cmpInt_eq (a b : Nat) : s_cmp_Compare_int (a : Int) (b : Int) = some (natC a b) := by
  unfold s_cmp_Compare_int s_cmp_isNaN_int natC
  rw [Option.bind_some, Option.bind_some, bne_self_eq_false, bne_self_eq_false, cond_false, cond_false]
  by_cases h1 : a < b
  · rw [decide_eq_true (by omega : (a : Int) < b), if_pos h1]; rfl
  · rw [decide_eq_false (by omega : ¬ (a : Int) < b), if_neg h1, cond_false]
    by_cases h2 : b < a
    · rw [decide_eq_true (by omega : (a : Int) > b), if_pos h2]; rfl
    · rw [decide_eq_false (by omega : ¬ (a : Int) > b), if_neg h2]; rfl
theorem cmpU_eq (a b : Nat) : s_cmp_Compare_uint32 (a : Int) (b : Int) = some (natC a b) := cmpInt_eq a b

theorem compare_eq (a b : Nat) : s_fraction_words_compare (wd a) (wd b) = some (natC a b) := by
  refine eq_of_wp ?_
  unfold s_fraction_words_compare
  rw [cmpInt_eq, wp_bind, wp_some]
  have both : ∀ a b : Nat, wp ((s_fraction_words_compare_l1 big [(a : Int)] [(b : Int)] 0).bind fun | .ret q_ => some q_ | .brk () => s_fraction_words_compare_k1) (· = natC a b) := fun a b => by
    obtain ⟨n, hn⟩ := big_add 2 (by decide)
    rw [hn]
    show wp ((s_fraction_words_compare_l1_b (s_fraction_words_compare_l1 (n + 1)) [(a : Int)] [(b : Int)] 0).bind _) _
    unfold s_fraction_words_compare_l1_b
    show wp ((((s_cmp_Compare_uint32 (a : Int) (b : Int)).bind fun c => bif (c != 0) then some (.ret c) else chk (inK .i64 (0 - 1)) (s_fraction_words_compare_l1 (n + 1) [(a : Int)] [(b : Int)] (0 - 1)))).bind _) _
    rw [cmpU_eq, Option.bind_some]
    cases hc : (natC a b != 0) with
    | true => rw [cond_true, Option.bind_some, wp_some]
    | false =>
      have : natC a b = 0 := by simpa using hc
      rw [this]
      show wp (some 0) _
      rw [wp_some]
  by_cases ha : a = 0 <;> by_cases hb : b = 0
  · subst ha; subst hb
    obtain ⟨n, hn⟩ := big_add 1 (by decide)
    rw [hn]
    show wp (some 0) _
    rw [wp_some]; rfl
  · subst ha
    rw [wd_pos hb]
    have e : natC 0 b = -1 := by unfold natC; rw [if_pos (by omega)]
    rw [e]
    show wp (some (-1)) _
    rw [wp_some]
  · subst hb
    rw [wd_pos ha]
    have e : natC a 0 = 1 := by unfold natC; rw [if_neg (by omega), if_pos (by omega)]
    rw [e]
    show wp (some 1) _
    rw [wp_some]
  · rw [wd_pos ha, wd_pos hb]
    show wp (chk (inK .i64 (1 - 1)) _) _
    rw [wp_chk]
    exact ⟨by decide, both a b⟩

theorem clone_eq (a : Nat) : ss_Clone_fraction_words_uint32 (wd a) = some (wd a) := by
  by_cases h : a = 0
  · subst h; exact agree_self _
  · rw [wd_pos h]; rfl

theorem short_eq {a b : Nat} (h0 : a ≠ 0) (hb : b ≠ 0) (ha : a < 4294967296) (hb2 : b < 4294967296) : s_fraction_words_short [(a : Int)] (b : Int) = some (wd (a / b), ((a % b : Nat) : Int)) := by
  refine eq_of_wp ?_
  unfold s_fraction_words_short
  obtain ⟨n, hn⟩ := big_add 2 (by decide)
  rw [len1, wp_chk, wp_chk]
  refine ⟨mk1, by decide, ?_⟩
  rw [hn]
  show wp ((s_fraction_words_short_l1_b (s_fraction_words_short_l1 (n + 1)) [(a : Int)] (b : Int) 0 0 [0]).bind _) _
  unfold s_fraction_words_short_l1_b
  show wp (((s_math_bits_Div32 0 (a : Int) (b : Int)).bind fun (q, rest_1) => chk (inR 0 1) (chk (inK .i64 (0 - 1)) (s_fraction_words_short_l1 (n + 1) [(a : Int)] (b : Int) rest_1 (0 - 1) [q]))).bind _) _
  rw [div32 hb ha hb2, Option.bind_some]
  show wp ((s_fraction_trimmed [((a / b : Nat) : Int)]).bind _) _
  rw [trim_one, wp_bind, wp_some, wp_some]

theorem over_eq {a b : Nat} (hb : b ≠ 0) (ha : a < 4294967296) (hb2 : b < 4294967296) : s_fraction_words_over (wd a) (wd b) = some (wd (a / b), wd (a % b)) := by
  unfold s_fraction_words_over
  rw [compare_eq, Option.bind_some]
  by_cases h : a < b
  · have e : natC a b = -1 := by unfold natC; rw [if_pos h]
    rw [e, show decide ((-1 : Int) < 0) = true from rfl, cond_true]
    rw [clone_eq, Option.bind_some, Nat.div_eq_of_lt h, Nat.mod_eq_of_lt h]; rfl
  · have e : decide (natC a b < 0) = false := decide_eq_false (by unfold natC; rw [if_neg h]; split <;> omega)
    have h0 : a ≠ 0 := by omega
    rw [e, cond_false, wd_pos hb, wd_pos h0]
    rw [len1, show ((1 : Int) == 1) = true from rfl, cond_true, show idx [(b : Int)] 0 = some (b : Int) from rfl, Option.bind_some, short_eq h0 hb ha hb2, Option.bind_some]
    dsimp only
    rw [trim_one]; rfl

theorem common_eq {a b : Nat} (ha : a < 4294967296) (hb : b < 4294967296) : s_fraction_words_common (wd a) (wd b) = some (wd (Nat.gcd a b)) := by
  refine eq_of_wp ?_
  unfold s_fraction_words_common s_fraction_words_common_k1
  rw [wp_bind]
  have key : ∀ (a b : Nat), a < 4294967296 → b < 4294967296 → wp (s_fraction_words_common_l1 big (wd a) (wd b)) (fun x => x = wd (Nat.gcd a b)) := fun a b ha hb =>
    whileS_wp s_fraction_words_common_l1_FB (fun (t : Nat × Nat) => (wd t.1, wd t.2)) (fun t => (t.1 < 4294967296 ∧ t.2 < 4294967296) ∧ Nat.gcd t.1 t.2 = Nat.gcd a b) (fun t => t.2) (Q := fun x => x = wd (Nat.gcd a b)) (a, b) ⟨⟨ha, hb⟩, rfl⟩ (by dsimp only; omega) (by
      rintro rec ⟨x, y⟩ ⟨⟨hx, hy⟩, hg⟩ ih
      dsimp only at hx hy hg ih
      unfold s_fraction_words_common_l1_B s_fraction_words_common_l1_b
      dsimp only
      by_cases h : y = 0
      · subst h
        rw [Nat.gcd_zero_right] at hg
        show wp (some (wd x)) _
        rw [wp_some, hg]
      · have e : decide (((wd y).length : Int) > 0) = true := by rw [wd_pos h]; rfl
        rw [e, cond_true, over_eq h hx hy, wp_bind, wp_some]
        have hm := Nat.mod_lt x (by omega : 0 < y)
        exact ih (y, x % y) ⟨⟨hy, by dsimp only; omega⟩, by dsimp only; rw [← hg, Nat.gcd_comm x y, Nat.gcd_rec y x, Nat.gcd_comm]⟩ hm)
  exact wp_mono (key a b ha hb) fun x hx => by rw [wp_some]; exact hx
end Go.Proofs

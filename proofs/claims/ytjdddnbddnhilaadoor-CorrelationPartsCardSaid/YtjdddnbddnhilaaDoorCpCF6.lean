/- The law CorrelationParts. -/
import Derived.Test.YtjdddnbddnhilaaDoorCpCF5
set_option linter.unusedVariables false
set_option linter.unusedSimpArgs false
set_option linter.unusedSectionVars false
namespace Go.Proofs
open Go Eng

def vl (a b : Nat) : Int := ((a : Int) - 4) * ((12 / (1 + b) : Nat) : Int)
theorem part_all : ((List.range 13).all fun a => (List.range 4).all fun b => sr23_Part ((a : Int) - 4) (1 + (b : Int)) == some (fr (vl a b) 12)) = true := by kernel_rfl
theorem twice_all : ((List.range 13).all fun a => (List.range 4).all fun b => sr23_Add (fr (vl a b) 12) (fr (vl a b) 12) == some (fr (vl a b + vl a b) 12)) = true := by kernel_rfl
theorem vl_all : ((List.range 13).all fun a => (List.range 4).all fun b => decide (-100 ≤ vl a b ∧ vl a b ≤ 100)) = true := by kernel_rfl
theorem both {f : Nat → Nat → Bool} (h : ((List.range 13).all fun a => (List.range 4).all fun b => f a b) = true) {a b : Nat} (ha : a < 13) (hb : b < 4) : f a b = true :=
  List.all_eq_true.1 (List.all_eq_true.1 h a (List.mem_range.2 ha)) b (List.mem_range.2 hb)
theorem int1 : sr23_Int 1 = some (fr 12 12) := by kernel_rfl

theorem frac_wp {d : Gk_Dice} (hd : DiceOk d) : wp (sk_Fraction d) (fun r => (∃ a b, (a < 13 ∧ b < 4) ∧ r.1 = fr (vl a b) 12) ∧ DiceOk r.2) := by
  unfold sk_Fraction
  rw [wp_bind]
  refine wp_mono (next_wp hd (by omega)) fun ⟨q, d1⟩ ⟨hq, hd1⟩ => ?_
  dsimp only at hq hd1 ⊢
  rw [wp_chk, wp_bind]
  refine ⟨inK_i64 (by omega), wp_mono (next_wp hd1 (by omega)) fun ⟨q1, d2⟩ ⟨hq1, hd2⟩ => ?_⟩
  dsimp only at hq1 hd2 ⊢
  obtain ⟨a, rfl⟩ : ∃ a : Nat, q = (a : Int) := ⟨q.toNat, by omega⟩
  obtain ⟨b, rfl⟩ : ∃ b : Nat, q1 = (b : Int) := ⟨q1.toNat, by omega⟩
  rw [wp_chk, beq_iff_eq.1 (both part_all (a := a) (b := b) (by omega) (by omega)), wp_bind, wp_some, wp_some]
  exact ⟨inK_i64 (by omega), ⟨a, b, ⟨by omega, by omega⟩, rfl⟩, hd2⟩

theorem pairs_wp {d : Gk_Dice} (hd : DiceOk d) : wp (sl25_pairs d) (fun r => ∃ l, r.1 = l.map prP ∧ Sml l) := by
  unfold sl25_pairs
  rw [wp_bind]
  refine wp_mono (next_wp hd (by omega)) fun ⟨k, d1⟩ ⟨hk, hd1⟩ => ?_
  dsimp only at hk hd1 ⊢
  rw [wp_bind]
  refine wp_mono (whileS_wp sl25_pairs_l1_FB (fun (s : Int × Gk_Dice × List (Int × Int)) => (s.1, s.2.1, s.2.2.map prP))
    (fun s => (0 ≤ s.1 ∧ s.1 + s.2.2.length ≤ 8) ∧ DiceOk s.2.1 ∧ ∀ p ∈ s.2.2, (-200 ≤ p.1 ∧ p.1 ≤ 200) ∧ (-200 ≤ p.2 ∧ p.2 ≤ 200)) (fun s => s.1.toNat) (Q := fun x => ∃ l, x.2 = l.map prP ∧ Sml l) (k, d1, []) ⟨by simp; omega, hd1, by simp⟩ (by dsimp only; omega) ?_) ?_
  · rintro rec ⟨k, d, l⟩ ⟨⟨h0, h1⟩, hd, hl⟩ ih
    dsimp only at h0 h1 hd hl ih
    have j1 : ∀ (d' : Gk_Dice) (u v : Int), 0 < k → DiceOk d' → (-200 ≤ u ∧ u ≤ 200) → (-200 ≤ v ∧ v ≤ 200) → wp (sl25_pairs_j1 (fun k d l => rec (k, d, l)) k d' (l.map prP) (fr u 12) (fr v 12)) (fun x => ∃ l, x.2 = l.map prP ∧ Sml l) := fun d' u v hk hd' hu hv => by
      unfold sl25_pairs_j1
      rw [wp_chk, wp_chk]
      refine ⟨room_ok (by simp only [List.length_map, List.length_singleton]; omega), inK_i64 (by omega), ?_⟩
      have := ih (k - 1, d', l ++ [(u, v)]) ⟨by simp; omega, hd', fun p hp => by
        rcases List.mem_append.1 hp with hp | hp
        · exact hl p hp
        · simp only [List.mem_singleton] at hp; subst hp; exact ⟨hu, hv⟩⟩ (by dsimp only; omega)
      dsimp only at this
      rw [List.map_append] at this
      exact this
    unfold sl25_pairs_l1_B sl25_pairs_l1_b
    dsimp only
    rw [wp_bif]
    refine ⟨fun h => ?_, fun _ => by rw [wp_some]; exact ⟨l, rfl, by omega, hl⟩⟩
    simp only [decide_eq_true_eq] at h
    rw [wp_bind]
    refine wp_mono (frac_wp hd) ?_
    rintro ⟨x, d2⟩ ⟨⟨a, b, ⟨ha, hb⟩, hx⟩, hd2⟩
    dsimp only at hx hd2 ⊢
    subst hx
    have hab := of_decide_eq_true (both vl_all ha hb)
    rw [wp_bind]
    refine wp_mono (frac_wp hd2) ?_
    rintro ⟨y, d3⟩ ⟨⟨a', b', ⟨ha', hb'⟩, hy⟩, hd3⟩
    dsimp only at hy hd3 ⊢
    subst hy
    have hab' := of_decide_eq_true (both vl_all ha' hb')
    rw [wp_bind]
    refine wp_mono (next_wp hd3 (by omega)) fun ⟨q, d4⟩ ⟨_, hd4⟩ => ?_
    dsimp only at hd4 ⊢
    rw [wp_bif]
    refine ⟨fun _ => ?_, fun _ => ?_⟩
    · rw [beq_iff_eq.1 (both twice_all ha hb), wp_bind, wp_some]
      exact j1 d4 _ _ h hd4 (by omega) (by omega)
    · rw [wp_bif]
      refine ⟨fun _ => ?_, fun _ => j1 d4 _ _ h hd4 (by omega) (by omega)⟩
      rw [int1, wp_bind, wp_some]
      exact j1 d4 _ _ h hd4 (by omega) (by omega)
  · rintro ⟨d', x⟩ ⟨l, hx, hl⟩
    dsimp only at hx ⊢
    unfold sl25_pairs_k2
    rw [wp_some]
    exact ⟨l, hx, hl⟩

theorem sign_pos {P : Int} {Q : Nat} (hP : 0 < P) (hQ : Q ≠ 0) (hc : Nat.gcd P.natAbs Q = 1) (h1 : P.natAbs < 4294967296) (h2 : Q < 4294967296) : s_num_Sign ⟨bg P, bg (Q : Int)⟩ = some 1 := by
  have z : fr 0 1 = ⟨bg 0, bg ((1 : Nat) : Int)⟩ := by kernel_rfl
  have o : s_fraction_opposite (bg 0) = some (bg 0) := by kernel_rfl
  unfold s_num_Sign s_fraction_Cmp s_fraction_Cmp_j1
  rw [zero_eq, Option.bind_some, z, valid_eq hQ hc h1 h2, Option.bind_some, Bool.not_true, cond_false, valid_eq (P := 0) (Q := 1) (by decide) (by decide) (by decide) (by decide), Option.bind_some, Bool.not_true, cond_false]
  dsimp only
  rw [product_nat h1 (by decide) (by omega), Option.bind_some, product_nat (x := 0) (by decide) h2 (by simp), Option.bind_some, Int.zero_mul, o, Option.bind_some]
  rw [show P * ((1 : Nat) : Int) = P by omega, sum_eq (by simp; omega), Option.bind_some, Int.add_zero]
  have e : (bg P).Neg = false := decide_eq_false (by omega)
  have w : decide (((bg P).Words.length : Int) > 0) = true := by
    show decide (((wd P.natAbs).length : Int) > 0) = true
    rw [wd_pos (by omega)]; rfl
  rw [e, cond_false, w]; rfl

def ln : List (Int × Int) := [(12, 24), (24, 48), (36, 72)]
theorem line_eq : sl25_line = some (ln.map prP) := by kernel_rfl
theorem part1 : s_correlation_part 3 (moL ln).XY (moL ln).X (moL ln).Y = some ⟨bg 12, bg ((1 : Nat) : Int)⟩ := by kernel_rfl
theorem part2 : s_correlation_part 3 (moL ln).XX (moL ln).X (moL ln).X = some ⟨bg 6, bg ((1 : Nat) : Int)⟩ := by kernel_rfl
theorem part3 : s_correlation_part 3 (moL ln).YY (moL ln).Y (moL ln).Y = some ⟨bg 24, bg ((1 : Nat) : Int)⟩ := by kernel_rfl
theorem quot : ((s_num_Mul ⟨bg 12, bg ((1 : Nat) : Int)⟩ ⟨bg 12, bg ((1 : Nat) : Int)⟩).bind fun q_1 => (s_num_Mul ⟨bg 6, bg ((1 : Nat) : Int)⟩ ⟨bg 24, bg ((1 : Nat) : Int)⟩).bind fun q_2 => s_num_Div q_1 q_2) = some (fr 12 12) := by kernel_rfl

theorem awake25 : sl25_awake = some true := by
  have hl : Sml ln := ⟨by decide, by decide⟩
  have hN : (moL ln).N = 3 := rfl
  obtain ⟨m1, hm1, m2, hm2, hq⟩ : ∃ m1, s_num_Mul ⟨bg 12, bg ((1 : Nat) : Int)⟩ ⟨bg 12, bg ((1 : Nat) : Int)⟩ = some m1 ∧ ∃ m2, s_num_Mul ⟨bg 6, bg ((1 : Nat) : Int)⟩ ⟨bg 24, bg ((1 : Nat) : Int)⟩ = some m2 ∧ s_num_Div m1 m2 = some (fr 12 12) := by
    have := quot
    obtain ⟨m1, h1, h⟩ := Option.bind_eq_some_iff.1 this
    obtain ⟨m2, h2, h⟩ := Option.bind_eq_some_iff.1 h
    exact ⟨m1, h1, m2, h2, h⟩
  have hs : s_correlation_Square (moL ln) = some (fr 12 12, 1, true) := by
    unfold s_correlation_Square
    rw [hN, part1, Option.bind_some, part2, Option.bind_some, part3, Option.bind_some, show decide ((3 : Int) < 3) = false from rfl, cond_false, sign_pos (by decide) (by decide) (by decide) (by decide) (by decide), Option.bind_some, show ((1 : Int) == 0) = false from rfl, cond_false, sign_pos (by decide) (by decide) (by decide) (by decide) (by decide), Option.bind_some]
    unfold s_correlation_Square_j1
    rw [show ((1 : Int) == 0) = false from rfl, cond_false, hm1, Option.bind_some, hm2, Option.bind_some, hq, Option.bind_some, sign_pos (by decide) (by decide) (by decide) (by decide) (by decide)]
    rfl
  unfold sl25_awake sl25_awake_j1
  rw [line_eq, Option.bind_some, of_eq hl, Option.bind_some, hs, Option.bind_some]
  dsimp only
  rw [cond_true, show ((1 : Int) == 1) = true from rfl, cond_true, int1, Option.bind_some, sameFr]
  rfl
end Go.Proofs

/- The pairs that the dice make; the sanity check of law 25. -/
import Derived.Test.YtahbkngofdpehaaDoorClNW28
import Derived.Test.YtahbkngofdpehaaDoorClNX2
import Derived.Test.YtahbkngofdpehaaDoorClDN
set_option linter.unusedVariables false
set_option linter.unusedSimpArgs false
set_option linter.unusedSectionVars false
namespace Go.Proofs
open Go Eng

theorem sz_small {x y : Int} (hy : y ≠ 0) (h1 : x.natAbs < 16) (h2 : y.natAbs < 16) : Sz 4 (Rat.divInt x y) := sz_divInt (k := 4) hy h1 h2
theorem frac_wp {d : G_tablefinderkit_Dice} (hd : DiceOk d) : wp (s_tablefinderkit_Fraction d) (fun r => (∃ q, r.1 = fOf q ∧ Sz 4 q) ∧ DiceOk r.2) := by
  unfold s_tablefinderkit_Fraction
  rw [wp_bind]
  refine wp_mono (next_wp hd (by omega)) fun ⟨q, d1⟩ ⟨hq, hd1⟩ => ?_
  dsimp only at hq hd1 ⊢
  rw [wp_chk, wp_bind]
  refine ⟨inK_i64 (by omega), wp_mono (next_wp hd1 (by omega)) fun ⟨q1, d2⟩ ⟨hq1, hd2⟩ => ?_⟩
  dsimp only at hq1 hd2 ⊢
  rw [wp_chk, part23_eq _ _ (by omega) (by omega) (by omega) (by omega) (by omega), wp_bind, wp_some, wp_some]
  exact ⟨inK_i64 (by omega), ⟨_, rfl, sz_small (by omega) (by omega) (by omega)⟩, hd2⟩
theorem sz_int {n : Int} {k : Nat} (h : n.natAbs < 2 ^ k) (hk : 1 ≤ k) : Sz k (n : Rat) := by
  rw [← divInt_int]
  exact sz_divInt (by decide) h (Nat.lt_of_lt_of_le (by decide) (Nat.pow_le_pow_right (n := 2) (by decide) hk))
theorem int1_eq : s_tablefinderref23_Int 1 = some (fOf 1) := int23_eq 1 (by decide) (by decide)
theorem sz_one : Sz 1 1 := by unfold Sz; decide

theorem pairs_wp {d : G_tablefinderkit_Dice} (hd : DiceOk d) : wp (s_tablefinderlaw25_pairs d) (fun r => ∃ l, r.1 = l.map fP ∧ l.length ≤ 8 ∧ SzL 9 l) := by
  unfold s_tablefinderlaw25_pairs
  rw [wp_bind]
  refine wp_mono (next_wp hd (by omega)) fun ⟨k, d1⟩ ⟨hk, hd1⟩ => ?_
  dsimp only at hk hd1 ⊢
  rw [wp_bind]
  refine wp_mono (whileS_wp s_tablefinderlaw25_pairs_l1_FB (fun (s : Int × G_tablefinderkit_Dice × List (Rat × Rat)) => (s.1, s.2.1, s.2.2.map fP))
    (fun s => (0 ≤ s.1 ∧ s.1 + s.2.2.length ≤ 8) ∧ DiceOk s.2.1 ∧ SzL 9 s.2.2) (fun s => s.1.toNat) (Q := fun x => ∃ l, x.2 = l.map fP ∧ l.length ≤ 8 ∧ SzL 9 l) (k, d1, []) ⟨by simp; omega, hd1, fun p hp => absurd hp (by simp)⟩ (by dsimp only; omega) ?_) ?_
  · rintro rec ⟨k, d, l⟩ ⟨⟨h0, h1⟩, hd, hl⟩ ih
    dsimp only at h0 h1 hd hl ih
    have j1 : ∀ (d' : G_tablefinderkit_Dice) (u v : Rat), 0 < k → DiceOk d' → Sz 9 u → Sz 9 v → wp (s_tablefinderlaw25_pairs_j1 (fun k d l => rec (k, d, l)) k d' (l.map fP) (fOf u) (fOf v)) (fun x => ∃ l, x.2 = l.map fP ∧ l.length ≤ 8 ∧ SzL 9 l) := fun d' u v hk hd' hu hv => by
      unfold s_tablefinderlaw25_pairs_j1
      rw [wp_chk, wp_chk]
      refine ⟨room_ok (by simp only [List.length_map, List.length_singleton]; omega), inK_i64 (by omega), ?_⟩
      have := ih (k - 1, d', l ++ [(u, v)]) ⟨by simp; omega, hd', fun p hp => by
        rcases List.mem_append.1 hp with hp | hp
        · exact hl p hp
        · simp only [List.mem_singleton] at hp; subst hp; exact ⟨hu, hv⟩⟩ (by dsimp only; omega)
      dsimp only at this
      rw [List.map_append] at this
      exact this
    unfold s_tablefinderlaw25_pairs_l1_B s_tablefinderlaw25_pairs_l1_b
    dsimp only
    rw [wp_bif]
    refine ⟨fun h => ?_, fun _ => by rw [wp_some]; exact ⟨l, rfl, by omega, hl⟩⟩
    simp only [decide_eq_true_eq] at h
    rw [wp_bind]
    refine wp_mono (frac_wp hd) ?_
    rintro ⟨x, d2⟩ ⟨⟨a, hx, ha⟩, hd2⟩
    dsimp only at hx hd2 ⊢
    subst hx
    rw [wp_bind]
    refine wp_mono (frac_wp hd2) ?_
    rintro ⟨y, d3⟩ ⟨⟨b, hy, hb⟩, hd3⟩
    dsimp only at hy hd3 ⊢
    subst hy
    rw [wp_bind]
    refine wp_mono (next_wp hd3 (by omega)) fun ⟨q, d4⟩ ⟨_, hd4⟩ => ?_
    dsimp only at hd4 ⊢
    rw [wp_bif]
    refine ⟨fun _ => ?_, fun _ => ?_⟩
    · rw [add23_eq ha ha (by omega), wp_bind, wp_some]
      exact j1 d4 _ _ h hd4 (ha.mono (by omega)) (ha.add ha)
    · rw [wp_bif]
      refine ⟨fun _ => ?_, fun _ => j1 d4 _ _ h hd4 (ha.mono (by omega)) (hb.mono (by omega))⟩
      rw [int1_eq, wp_bind, wp_some]
      exact j1 d4 _ _ h hd4 (ha.mono (by omega)) (sz_one.mono (by omega))
  · rintro ⟨d', x⟩ ⟨l, hx, hl⟩
    dsimp only at hx ⊢
    unfold s_tablefinderlaw25_pairs_k2
    rw [wp_some]
    exact ⟨l, hx, hl⟩

def ln : Rl := [(1, 2), (2, 4), (3, 6)]
theorem line_eq : s_tablefinderlaw25_line = some (ln.map fP) := by
  unfold s_tablefinderlaw25_line
  rw [int23_eq 1 (by decide) (by decide), Option.bind_some, int23_eq 2 (by decide) (by decide), Option.bind_some, Option.bind_some, int23_eq 4 (by decide) (by decide), Option.bind_some, int23_eq 3 (by decide) (by decide), Option.bind_some, int23_eq 6 (by decide) (by decide), Option.bind_some]
  rfl
theorem awake25 : s_tablefinderlaw25_awake = some true := by
  have hz : SzL 5 ln := fun p hp => by
    simp only [ln, List.mem_cons, List.not_mem_nil, or_false] at hp
    rcases hp with rfl | rfl | rfl <;> exact ⟨by unfold Sz; decide, by unfold Sz; decide⟩
  have hu : uR ln ≠ 0 := fun h => absurd (u_zero h (1, 2) (by simp [ln]) (2, 4) (by simp [ln])) (by decide)
  have hs : sqR ln = (fOf 1, 1, true) := by
    rw [sq_line (k := 2) (m := 0) (by decide) (fun p hp => by
      simp only [ln, List.mem_cons, List.not_mem_nil, or_false] at hp
      rcases hp with rfl | rfl | rfl <;> grind), if_neg (fun h => h.elim (by decide) hu)]
    rfl
  unfold s_tablefinderlaw25_awake s_tablefinderlaw25_awake_j1
  rw [line_eq, Option.bind_some, corOf_eq (by decide) (by decide) hz, Option.bind_some, square_eq (by decide) (by decide) hz, hs, Option.bind_some]
  dsimp only
  rw [cond_true, show ((1 : Int) == 1) = true from rfl, cond_true, int1_eq, Option.bind_some, same23_eq _ _ (sz_one.wq (by decide)) (sz_one.wq (by decide)), Option.bind_some]
  rfl
end Go.Proofs

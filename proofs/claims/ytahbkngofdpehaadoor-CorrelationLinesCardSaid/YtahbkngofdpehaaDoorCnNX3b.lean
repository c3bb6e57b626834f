/- The pairs that the dice make; the sanity check of law 25. -/
import Derived.Test.YtahbkngofdpehaaDoorCnNW28b
import Derived.Test.YtahbkngofdpehaaDoorCnNX2
import Derived.Test.YtahbkngofdpehaaDoorCnDNb
set_option linter.unusedVariables false
set_option linter.unusedSimpArgs false
set_option linter.unusedSectionVars false
namespace Go.Proofs
open Go Eng

theorem sz_int {n : Int} {k : Nat} (h : n.natAbs < 2 ^ k) (hk : 1 ≤ k) : Sz k (n : Rat) := by
  rw [← divInt_int]
  exact sz_divInt (by decide) h (Nat.lt_of_lt_of_le (by decide) (Nat.pow_le_pow_right (n := 2) (by decide) hk))
theorem int1_eq : s_tablefinderref23_Int 1 = some (fOf 1) := int23_eq 1 (by decide) (by decide)
theorem sz_one : Sz 1 1 := by unfold Sz; decide

def ln : Rl := [(1, 2), (2, 4), (3, 6)]
theorem line_eq : s_tablefinderlaw25_line = some (ln.map fP) := by
  unfold s_tablefinderlaw25_line
  rw [int23_eq 1 (by decide) (by decide), Option.bind_some, int23_eq 2 (by decide) (by decide), Option.bind_some, Option.bind_some, int23_eq 4 (by decide) (by decide), Option.bind_some, int23_eq 3 (by decide) (by decide), Option.bind_some, int23_eq 6 (by decide) (by decide), Option.bind_some]
  rfl
theorem awake25 : s_tablefinderlaw25_awake = some true := by
  have hz : SzL 5 ln := fun p hp => by
    simp only [ln, List.mem_cons, List.not_mem_nil, or_false] at hp
    rcases hp with rfl | rfl | rfl <;> exact ⟨by unfold Sz; decide, by unfold Sz; decide⟩
  have hu : uR ln ≠ 0 := fun h => absurd (u_zero h (1, 2) (by simp [ln]) (2, 4) (by simp [ln])) (by decide)
  have hs : sqR ln = (fOf 1, 1, true) := by
    rw [sq_line (k := 2) (m := 0) (by decide) (fun p hp => by
      simp only [ln, List.mem_cons, List.not_mem_nil, or_false] at hp
      rcases hp with rfl | rfl | rfl <;> grind), if_neg (fun h => h.elim (by decide) hu)]
    rfl
  unfold s_tablefinderlaw25_awake s_tablefinderlaw25_awake_j1
  rw [line_eq, Option.bind_some, corOf_eq (by decide) (by decide) hz, Option.bind_some, square_eq (by decide) (by decide) hz, hs, Option.bind_some]
  dsimp only
  rw [cond_true, show ((1 : Int) == 1) = true from rfl, cond_true, int1_eq, Option.bind_some, same23_eq _ _ (sz_one.wq (by decide)) (sz_one.wq (by decide)), Option.bind_some]
  rfl
end Go.Proofs

/- The plain law of WorkerSplits. -/
import Derived.Test.YtjdddnbddnhilaaWsS
set_option linter.unusedVariables false
set_option linter.unusedSimpArgs false
namespace Go.Proofs
open Go Eng

theorem i64_min : IntKind.i64.min = -9223372036854775808 := by decide
theorem i64_max : IntKind.i64.max = 9223372036854775807 := by decide
theorem inK_ok {n : Int} (h0 : -9223372036854775808 ≤ n) (h1 : n ≤ 9223372036854775807) : inK .i64 n = true := by
  simp only [inK, i64_min, i64_max]
  exact decide_eq_true ⟨h0, h1⟩

theorem mod_law (n m : Int) (h0 : 0 < m) (h1 : m ≤ 1000000) : ∃ r, s_tablefinderkit_Mod n m = some r ∧ 0 ≤ r ∧ r < m := by
  have ha : -m < Int.tmod n m ∧ Int.tmod n m < m := ⟨Int.lt_tmod_of_pos n h0, Int.tmod_lt_of_pos n h0⟩
  refine ⟨Int.tmod (Int.tmod n m + m) m, ?_, Int.tmod_nonneg _ (by omega), Int.tmod_lt_of_pos _ h0⟩
  unfold s_tablefinderkit_Mod
  have h3 : decide (m < 1) = false := decide_eq_false (by omega)
  have h4 : decide (m ≠ 0) = true := decide_eq_true (by omega)
  rw [h3, h4, inK_ok (by omega) (by omega)]
  rfl

def task (n w : Int) (i : Nat) : G_api_Task := ⟨Int.tdiv (i * n) w, Int.tdiv ((i + 1) * n) w⟩

theorem tdiv_bound {a w : Int} (h0 : 0 ≤ a) (hw : 1 ≤ w) : 0 ≤ Int.tdiv a w ∧ Int.tdiv a w ≤ a := by
  refine ⟨Int.tdiv_nonneg h0 (by omega), Int.tdiv_le_self _ h0⟩

theorem split_loop (n w : Int) (hn : 0 ≤ n ∧ n ≤ 1024) (hw : 1 ≤ w ∧ w ≤ 8) : ∀ (fuel : Nat) (v : Nat) (out : List G_api_Task), (v : Int) ≤ w → out.length = v → w < fuel + v →
    s_worker_Split_l1 n w fuel v out = some (out ++ (List.range' v (w.toNat - v)).map (task n w)) := by
  intro fuel
  induction fuel with
  | zero => intro v out h1 h2 h3; exfalso; simp at h3; omega
  | succ fuel ih =>
    intro v out h1 h2 h3
    unfold s_worker_Split_l1 s_worker_Split_l1_b
    by_cases hv : (v : Int) < w
    · rw [decide_eq_true hv]
      have hvn : 0 ≤ (v : Int) * n ∧ (v : Int) * n ≤ 8 * 1024 := ⟨Int.mul_nonneg (by omega) hn.1, Int.mul_le_mul (by omega) hn.2 hn.1 (by omega)⟩
      have hvn1 : 0 ≤ ((v : Int) + 1) * n ∧ ((v : Int) + 1) * n ≤ 8 * 1024 := ⟨Int.mul_nonneg (by omega) hn.1, Int.mul_le_mul (by omega) hn.2 hn.1 (by omega)⟩
      have hd := tdiv_bound hvn.1 hw.1
      have hd1 := tdiv_bound hvn1.1 hw.1
      have hw0 : decide (w ≠ 0) = true := decide_eq_true (by omega)
      have hlen : ∀ x : G_api_Task, decide ((out ++ [x]).length * max 16 1 ≤ roomB) = true := fun x => decide_eq_true (by
        rw [List.length_append, List.length_singleton, h2]; show (v + 1) * 16 ≤ 140737488355328; omega)
      rw [inK_ok (by omega) (by omega), inK_ok (n := Int.tdiv ((v : Int) * n) w) (by omega) (by omega), inK_ok (n := (v : Int) + 1) (by omega) (by omega), inK_ok (n := ((v : Int) + 1) * n) (by omega) (by omega), inK_ok (n := Int.tdiv (((v : Int) + 1) * n) w) (by omega) (by omega), hw0, hlen]
      simp only [cond_true, chk_true]
      have := ih (v + 1) (out ++ [task n w v]) (by omega) (by simp [h2]) (by omega)
      rw [show ((v + 1 : Nat) : Int) = (v : Int) + 1 by omega] at this
      rw [show (G_api_Task.mk (Int.tdiv ((v : Int) * n) w) (Int.tdiv (((v : Int) + 1) * n) w)) = task n w v from rfl, this]
      rw [show w.toNat - v = (w.toNat - (v + 1)) + 1 by omega, List.range'_succ]
      simp
    · rw [decide_eq_false hv]
      have : w.toNat - v = 0 := by omega
      simp [this]

theorem split_law (n w : Int) (hn : 0 ≤ n ∧ n ≤ 1024) (hw : 1 ≤ w ∧ w ≤ 8) : s_worker_Split n w = some ((List.range w.toNat).map (task n w), 0) := by
  unfold s_worker_Split
  rw [decide_eq_false (p := w < 1) (by omega), decide_eq_false (p := w > 8) (by omega), decide_eq_false (p := n < 0) (by omega), decide_eq_false (p := n > 1024) (by omega)]
  simp only [cond_false]
  have := split_loop n w hn hw big 0 [] (by omega) rfl (by rw [big_eq]; omega)
  simp only [Nat.sub_zero, List.nil_append, Int.natCast_zero] at this
  rw [this, List.range_eq_range']
  rfl

theorem tasks_10_3 : (List.range (3 : Int).toNat).map (task 10 3) = [⟨0, 3⟩, ⟨3, 6⟩, ⟨6, 10⟩] := by rfl

theorem awake_aux (h : s_worker_Split 10 3 = some ([⟨0, 3⟩, ⟨3, 6⟩, ⟨6, 10⟩], 0)) : s_tablefinderlaw44_awake = some true := by
  unfold s_tablefinderlaw44_awake
  rw [h]
  rfl

theorem split_10_3 : s_worker_Split 10 3 = some ((List.range (3 : Int).toNat).map (task 10 3), 0) := split_law 10 3 (by omega) (by omega)

theorem awake_law : s_tablefinderlaw44_awake = some true := awake_aux (by rw [← tasks_10_3]; exact split_10_3)

theorem idx_tasks (n w : Int) (i : Int) (h0 : 0 ≤ i) (h1 : i < w) : idx ((List.range w.toNat).map (task n w)) i = some (task n w i.toNat) := by
  unfold idx
  rw [if_pos h0, List.getElem?_map, List.getElem?_range (by omega)]
  rfl

theorem task_key (k w : Int) (hk : 0 ≤ k ∧ k ≤ 1024) (hw : 1 ≤ w ∧ w ≤ 8) (i : Nat) (hi : (i : Int) < w) : ∃ a b c, (task k w i) = ⟨a, b⟩ ∧ Int.tdiv k w = c ∧ c ≤ b - a ∧ b - a ≤ c + 1 ∧ 0 ≤ a ∧ a ≤ 8192 ∧ 0 ≤ b ∧ b ≤ 9216 ∧ 0 ≤ c ∧ c ≤ 1024 := by
  have m0 : 0 ≤ (i : Int) * k ∧ (i : Int) * k ≤ 8 * 1024 := ⟨Int.mul_nonneg (by omega) hk.1, Int.mul_le_mul (by omega) hk.2 hk.1 (by omega)⟩
  have m1 : ((i : Int) + 1) * k = (i : Int) * k + k := by rw [Int.add_mul, Int.one_mul]
  refine ⟨_, _, _, rfl, rfl, ?_⟩
  rw [m1]
  have tb1 := tdiv_bound m0.1 hw.1
  have tb2 := tdiv_bound (a := (i : Int) * k + k) (by omega) hw.1
  have tb3 := tdiv_bound hk.1 hw.1
  have e1 : Int.tdiv ((i : Int) * k) w = ((i : Int) * k) / w := Int.tdiv_eq_ediv_of_nonneg m0.1
  have e2 : Int.tdiv ((i : Int) * k + k) w = ((i : Int) * k + k) / w := Int.tdiv_eq_ediv_of_nonneg (by omega)
  have e3 : Int.tdiv k w = k / w := Int.tdiv_eq_ediv_of_nonneg hk.1
  rw [e1] at tb1 ⊢
  rw [e2] at tb2 ⊢
  rw [e3] at tb3 ⊢
  have d1 := Int.mul_ediv_add_emod ((i : Int) * k) w
  have d2 := Int.mul_ediv_add_emod ((i : Int) * k + k) w
  have d3 := Int.mul_ediv_add_emod k w
  have r1 := Int.emod_nonneg ((i : Int) * k) (show w ≠ 0 by omega)
  have r2 := Int.emod_nonneg ((i : Int) * k + k) (show w ≠ 0 by omega)
  have r3 := Int.emod_nonneg k (show w ≠ 0 by omega)
  have l1 := Int.emod_lt_of_pos ((i : Int) * k) (show 0 < w by omega)
  have l2 := Int.emod_lt_of_pos ((i : Int) * k + k) (show 0 < w by omega)
  have l3 := Int.emod_lt_of_pos k (show 0 < w by omega)
  generalize ((i : Int) * k) / w = a at *
  generalize ((i : Int) * k + k) / w = b at *
  generalize k / w = c at *
  have f1 : w * (b - a - c) < w * 2 := by rw [Int.mul_sub, Int.mul_sub]; omega
  have f2 : w * (-1) < w * (b - a - c) := by rw [Int.mul_sub, Int.mul_sub]; omega
  have g1 := Int.lt_of_mul_lt_mul_left f1 (by omega)
  have g2 := Int.lt_of_mul_lt_mul_left f2 (by omega)
  omega

theorem check_loop (k q : Int) (hk : 0 ≤ k ∧ k ≤ 1024) (hq : 0 ≤ q ∧ q ≤ 7) : ∀ (fuel : Nat) (i : Nat), (i : Int) ≤ 1 + q → 1 + q < fuel + i →
    s_tablefinderlaw44_WorkerSplits_l1 k q ((List.range (1 + q).toNat).map (task k (1 + q))) fuel i = some (.brk ()) := by
  intro fuel
  induction fuel with
  | zero => intro i h1 h2; exfalso; simp at h2; omega
  | succ fuel ih =>
    intro i h1 h2
    unfold s_tablefinderlaw44_WorkerSplits_l1 s_tablefinderlaw44_WorkerSplits_l1_b
    have hl : ((((List.range (1 + q).toNat).map (task k (1 + q))).length : Nat) : Int) = 1 + q := by simp; omega
    rw [hl]
    by_cases hi : (i : Int) < 1 + q
    · have fin : s_tablefinderlaw44_WorkerSplits_j3 (s_tablefinderlaw44_WorkerSplits_l1 k q ((List.range (1 + q).toNat).map (task k (1 + q))) fuel) k q ((List.range (1 + q).toNat).map (task k (1 + q))) i = some (.brk ()) := by
        unfold s_tablefinderlaw44_WorkerSplits_j3
        rw [inK_ok (by omega) (by omega)]
        simp only [chk_true]
        have := ih (i + 1) (by omega) (by omega)
        rwa [show ((i + 1 : Nat) : Int) = (i : Int) + 1 by omega] at this
      have hx := idx_tasks k (1 + q) i (by omega) hi
      have hprev : (i : Int) > 0 → ∃ p, idx ((List.range (1 + q).toNat).map (task k (1 + q))) ((i : Int) - 1) = some p ∧ p.To = (task k (1 + q) i).From := fun h0 => by
        refine ⟨_, idx_tasks k (1 + q) ((i : Int) - 1) (by omega) (by omega), ?_⟩
        have : (((i : Int) - 1).toNat : Int) + 1 = i := by omega
        simp only [task, this]
      rw [Int.toNat_natCast] at hx
      obtain ⟨a, b, c, t1, t2, t3, t4, t5, t6, t7, t8, t9, t10⟩ := task_key k (1 + q) hk (by omega) i hi
      rw [t1] at hx hprev
      rw [hx, t2, decide_eq_true hi]
      generalize (List.range (1 + q).toNat).map (task k (1 + q)) = tasks at *
      have q0 : decide ((1 + q) ≠ 0) = true := decide_eq_true (by omega)
      simp only [cond_true, Option.bind_some]
      rw [decide_eq_false (p := b < a) (by omega), inK_ok (n := b - a) (by omega) (by omega), q0, inK_ok (n := c) (by omega) (by omega), inK_ok (n := c + 1) (by omega) (by omega),
        decide_eq_false (p := b - a > c + 1) (by omega), decide_eq_false (p := b - a < c) (by omega), inK_ok (n := (i : Int) - 1) (by omega) (by omega)]
      simp only [cond_false, chk_true, fin]
      by_cases h0 : (i : Int) > 0
      · obtain ⟨p, p1, p2⟩ := hprev h0
        rw [decide_eq_true h0, p1]
        simp only [cond_true, Option.bind_some, p2]
        simp
      · rw [decide_eq_false h0]
        rfl
    · rw [decide_eq_false hi]
      rfl

theorem workerSplits_law (n workers : Int) : s_tablefinderlaw44_WorkerSplits n workers = some true := by
  obtain ⟨k, hk, k0, k1⟩ := mod_law n 1025 (by omega) (by omega)
  obtain ⟨q, hq, q0, q1⟩ := mod_law workers 8 (by omega) (by omega)
  unfold s_tablefinderlaw44_WorkerSplits
  rw [hk, hq]
  simp only [Option.bind_some]
  rw [inK_ok (by omega) (by omega), split_law k (1 + q) (by omega) (by omega)]
  simp only [chk_true, Option.bind_some]
  have hl : ((((List.range (1 + q).toNat).map (task k (1 + q))).length : Nat) : Int) = 1 + q := by simp; omega
  rw [hl, idx_tasks _ _ _ (by omega) (by omega), idx_tasks _ _ _ (by omega) (by omega)]
  have h1 : (task k (1 + q) (0 : Int).toNat).From = 0 := by simp [task]
  have h2 : (task k (1 + q) ((1 + q) - 1).toNat).To = k := by
    have : ((((1 + q) - 1).toNat : Nat) : Int) + 1 = 1 + q := by omega
    simp only [task, this]
    exact Int.mul_tdiv_cancel_left _ (by omega)
  simp only [Option.bind_some, h1, h2]
  rw [inK_ok (n := (1 + q) - 1) (by omega) (by omega)]
  have h3 := check_loop k q (by omega) (by omega) big 0 (by omega) (by rw [big_eq]; omega)
  rw [show ((0 : Nat) : Int) = 0 from rfl] at h3
  rw [h3, awake_law]
  simp

end Go.Proofs

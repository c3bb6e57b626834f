/- Tables of which only the cells are known: rows, columns, validity. -/
import Derived.Test.YtahbkngofdpehaaGreatDoorTtTM2s
import Derived.Test.YtahbkngofdpehaaGreatDoorTtRTp
import Derived.Test.YtahbkngofdpehaaGreatDoorTtRTr
set_option linter.unusedVariables false
set_option linter.unusedSimpArgs false
set_option linter.unusedSectionVars false
namespace Go.Proofs
open Go Eng

def ColG (n : Nat) (c : G_api_Column) : Prop := True ∧ c.Cells.length = n ∧ ∀ x ∈ c.Cells, CellM x
def TabG (m r : Nat) (t : G_api_Table) : Prop := tableS t = true ∧ t.Columns.length ≤ m ∧ ∃ n, n ≤ r ∧ ∀ c ∈ t.Columns, ColG n c
theorem rowsS_of {n : Nat} {t : G_api_Table} (h : ∀ c ∈ t.Columns, ColG n c) : (t.Columns = [] ∧ rowsS t = 0) ∨ rowsS t = (n : Int) := by
  unfold rowsS
  cases ht : t.Columns with
  | nil => exact .inl ⟨rfl, rfl⟩
  | cons c l => exact .inr (by dsimp only; rw [(h c (by rw [ht]; simp)).2.1])
theorem tvalid_eq {m r : Nat} {t : G_api_Table} (h : TabG m r t) (hm : m ≤ 64) (hr : r ≤ 4096) (hid : True) : s_table_Valid t = some true := by
  obtain ⟨h1, h2, n, hn, hc⟩ := h
  rw [table_eq t (by omega) (fun c hcm => by rw [(hc c hcm).2.1]; omega), h1]

/-- Whether all numbers are from 0 to n - 1. -/
def inB (n : Int) (l : List Int) : Bool := l.all fun k => decide (0 ≤ k) && decide (k < n)
theorem inB_iff {n : Int} {l : List Int} : inB n l = true ↔ ∀ k ∈ l, 0 ≤ k ∧ k < n := by unfold inB; simp
/-- A loop that stops at the first element of which something does not hold. -/
theorem allS_wp {α σ X Y : Type} {f : Nat → σ → Option (Out Y X)} {body : (σ → Option (Out Y X)) → σ → Option (Out Y X)} (hf : ∀ n s, f (n + 1) s = body (f n) s)
    (xs : List α) (hlen : xs.length ≤ 1000000000000000) (st : Int → σ) (p : α → Bool) (x : X) (y : Y)
    (step : ∀ (rec : σ → Option (Out Y X)) (k : Nat) (h : k < xs.length) (Q : Out Y X → Prop), (p xs[k] = false → Q (.ret x)) → (p xs[k] = true → wp (rec (st ((k : Int) + 1))) Q) → wp (body rec (st (k : Int))) Q)
    (fin : ∀ (rec : σ → Option (Out Y X)) (Q : Out Y X → Prop), Q (.brk y) → wp (body rec (st (xs.length : Int))) Q) : wp (f big (st 0)) (fun r => r = if xs.all p then .brk y else .ret x) := by
  refine forS_wp hf xs hlen (fun i (_ : Unit) => st i) (fun k _ => (xs.take k).all p = true) () rfl (fun rec k _ hlt hP ih => ?_) (fun rec _ hP => ?_)
  · refine step rec k hlt _ (fun h => ?_) (fun h => ih () ?_)
    · have : xs.all p = false := List.all_eq_false.2 ⟨xs[k], List.getElem_mem _, by rw [h]; simp⟩
      rw [this]; rfl
    · rw [List.take_succ_eq_append_getElem hlt, List.all_append, hP]; simp [h]
  · refine fin rec _ ?_
    rw [List.take_length] at hP
    rw [hP]; rfl
theorem within1_eq (k n : Int) : s_table_within_1 k n = some (decide (0 ≤ k) && decide (k < n)) := by
  unfold s_table_within_1 s_table_within_1_j1
  by_cases h : 0 ≤ k
  · rw [show decide (k ≥ 0) = decide (0 ≤ k) from rfl, decide_eq_true h, cond_true]; rfl
  · rw [show decide (k ≥ 0) = decide (0 ≤ k) from rfl, decide_eq_false h, cond_false]; rfl
theorem withinB_eq (l : List Int) (hl : l.length ≤ 1000000) (n : Int) : s_table_within l n = some (inB n l) := by
  refine eq_of_wp ?_
  unfold s_table_within s_table_every_int s_table_every_int_k1
  rw [wp_bind, wp_bind]
  refine wp_mono (allS_wp s_table_every_int_l1_FB l (by omega) (fun k => (n, l, (l.length : Int), k)) (fun k => decide (0 ≤ k) && decide (k < n)) false () (fun rec k hlt Q h1 h2 => ?_) (fun rec Q h => ?_)) ?_
  · unfold s_table_every_int_l1_B s_table_every_int_l1_b
    dsimp only
    rw [wp_bif]
    refine ⟨fun _ => ?_, fun h => by simp only [decide_eq_false_iff_not] at h; omega⟩
    rw [idx_nat hlt, wp_bind, wp_some, within1_eq, wp_bind, wp_some, wp_bif]
    refine ⟨fun h => ?_, fun h => ?_⟩
    · rw [wp_some]; exact h1 (by rw [Bool.not_eq_true'] at h; exact h)
    · rw [wp_chk]; exact ⟨inK_i64 (by omega), h2 (by rw [Bool.not_eq_false'] at h; exact h)⟩
  · unfold s_table_every_int_l1_B s_table_every_int_l1_b
    dsimp only
    rw [wp_bif]
    exact ⟨fun h => by simp only [decide_eq_true_eq] at h; omega, fun _ => by rw [wp_some]; exact h⟩
  · rintro x rfl
    show wp _ _
    unfold inB
    cases l.all fun k => decide (0 ≤ k) && decide (k < n) <;> exact wp_some.2 (wp_some.2 rfl)
theorem within_eq (l : List Int) (hl : l.length ≤ 1000000) (n : Int) (h : ∀ k ∈ l, 0 ≤ k ∧ k < n) : s_table_within l n = some true := by rw [withinB_eq l hl n, inB_iff.2 h]
end Go.Proofs

/- Lists of tables: both programs. -/
import Derived.Test.YtahbkngofdpehaaGreatDoorTtTS4
set_option linter.unusedVariables false
set_option linter.unusedSimpArgs false
set_option linter.unusedSectionVars false
namespace Go.Proofs
open Go Eng

/-! ## References -/

theorem rrefs_l2 : ∀ n, s_tablefinderref03_Refs_l2 n = s_table_Refs_l2 n
  | 0 => rfl
  | n + 1 => by
    funext a b c d e f g
    show s_tablefinderref03_Refs_l2_b (s_tablefinderref03_Refs_l2 n) a b c d e f g = s_table_Refs_l2_b (s_table_Refs_l2 n) a b c d e f g
    rw [rrefs_l2 n]; rfl
theorem rrefs_l1 : ∀ n, s_tablefinderref03_Refs_l1 n = s_table_Refs_l1 n
  | 0 => rfl
  | n + 1 => by
    funext a b c d
    show s_tablefinderref03_Refs_l1_b (s_tablefinderref03_Refs_l1 n) a b c d = s_table_Refs_l1_b (s_table_Refs_l1 n) a b c d
    rw [rrefs_l1 n]
    unfold s_tablefinderref03_Refs_l1_b s_table_Refs_l1_b
    rw [rrefs_l2]; rfl
theorem rrefs_eq (l : List G_api_Table) : s_tablefinderref03_Refs l = s_table_Refs l := by
  unfold s_tablefinderref03_Refs s_table_Refs
  rw [rrefs_l1]; rfl

/-! ## Finding -/

theorem rfind_wp (l : List G_api_Table) (hl : l.length ≤ 1000) (id : Int) : wp (s_tablefinderref03_Find l id) (fun y => (y = (zT, false) ∧ ∀ t ∈ l, t.ID ≠ id) ∨ ∃ (j : Nat) (h : j < l.length), y = (l[j], true) ∧ l[j].ID = id) := by
  unfold s_tablefinderref03_Find
  rw [wp_bind]
  refine wp_mono (forS_wp s_tablefinderref03_Find_l1_FB l (by omega) (fun k (_ : Unit) => (id, l, (l.length : Int), k, 0, [], [])) (fun k _ => ∀ t ∈ l.take k, t.ID ≠ id)
    (Q := fun x => (x = .brk (0, [], []) ∧ ∀ t ∈ l, t.ID ≠ id) ∨ ∃ (j : Nat) (h : j < l.length), x = .ret (l[j], true) ∧ l[j].ID = id) () (by simp) (fun rec k _ hlt hP ih => ?_) (fun rec _ hP => ?_)) ?_
  · unfold s_tablefinderref03_Find_l1_B s_tablefinderref03_Find_l1_b
    dsimp only
    rw [wp_bif]
    refine ⟨fun _ => ?_, fun h => by simp only [decide_eq_false_iff_not] at h; omega⟩
    rw [idx_nat hlt, wp_bind, wp_some, wp_bif]
    refine ⟨fun h => ?_, fun h => ?_⟩
    · rw [wp_some]; exact .inr ⟨k, hlt, rfl, eq_of_beq h⟩
    · rw [wp_chk]
      refine ⟨inK_i64 (by omega), ih () fun t ht => ?_⟩
      rw [List.take_succ_eq_append_getElem hlt] at ht
      rcases List.mem_append.1 ht with ht | ht
      · exact hP t ht
      · rw [List.mem_singleton.1 ht]; exact fun e => by rw [e, beq_self_eq_true] at h; cases h
  · unfold s_tablefinderref03_Find_l1_B s_tablefinderref03_Find_l1_b
    dsimp only
    rw [wp_bif]
    refine ⟨fun h => by simp only [decide_eq_true_eq] at h; omega, fun _ => ?_⟩
    rw [wp_some]
    rw [List.take_length] at hP
    exact .inl ⟨rfl, hP⟩
  · rintro y (⟨rfl, h⟩ | ⟨j, hj, rfl, h⟩)
    · exact wp_some.2 (.inl ⟨rfl, h⟩)
    · exact wp_some.2 (.inr ⟨j, hj, rfl, h⟩)
/-- The number of a table, in both programs. -/
theorem finds {m r k : Nat} {b : Int} {l : List G_api_Table} (h : ListM m r k b l) (hk : k ≤ 10) (id : Int) :
    (s_table_find l id = some (-1) ∧ s_tablefinderref03_Find l id = some (zT, false)) ∨ ∃ (j : Nat) (hj : j < l.length), s_table_find l id = some (j : Int) ∧ s_tablefinderref03_Find l id = some (l[j], true) := by
  have hl := h.len
  obtain ⟨i, hi, hi2⟩ := find_wp l (by omega) id
  obtain ⟨y, hy, hy2⟩ := rfind_wp l (by omega) id
  rcases hi2 with ⟨rfl, h1⟩ | ⟨j, hj, rfl, h1⟩ <;> rcases hy2 with ⟨rfl, h2⟩ | ⟨j', hj', rfl, h2⟩
  · exact .inl ⟨hi, hy⟩
  · exact absurd h2 (h1 _ (List.getElem_mem hj'))
  · exact absurd h1 (h2 _ (List.getElem_mem hj))
  · have e : j = j' := h.inj hj hj' (by rw [h1, h2])
    subst e
    exact .inr ⟨j, hj, hi, hy⟩
theorem find_copy (t : G_api_Table) (hl : t.Columns.length ≤ 1000) (hc : ∀ c ∈ t.Columns, c.Cells.length ≤ 1000) : s_table_with_3 t (t.Columns.length : Int) t = some t := by
  refine eq_of_wp ?_
  unfold s_table_with_3 s_table_with_3_k1
  rw [wp_bind]
  refine wp_mono (forS_wp s_table_with_3_l1_FB t.Columns (by omega) (fun k (o : List G_api_Column) => (t, (t.Columns.length : Int), k, 0, [], t.ID, t.Name, [], o)) (fun k o => o = t.Columns.take k) (Q := fun y => y = (0, [], t.ID, t.Name, [], t.Columns)) [] rfl (fun rec k o hlt hP ih => ?_) (fun rec o hP => ?_)) ?_
  · subst hP
    unfold s_table_with_3_l1_B s_table_with_3_l1_b s_table_Find_1
    dsimp only
    rw [wp_bif]
    refine ⟨fun _ => ?_, fun h => by simp only [decide_eq_false_iff_not] at h; omega⟩
    rw [idx_nat hlt, Option.bind_some, column_eq _ (by have := hc _ (List.getElem_mem hlt); omega), Option.bind_some, wp_bind, wp_some, wp_chk, wp_chk]
    refine ⟨room_ok (by simp only [List.length_take, List.length_singleton]; omega), inK_i64 (by omega), ih _ ?_⟩
    rw [List.take_succ_eq_append_getElem hlt]
  · subst hP
    rw [List.take_length]
    unfold s_table_with_3_l1_B s_table_with_3_l1_b
    dsimp only
    rw [wp_bif]
    exact ⟨fun h => by simp only [decide_eq_true_eq] at h; omega, fun _ => by rw [wp_some]⟩
  · rintro y rfl
    exact wp_some.2 rfl
def SmallT (t : G_api_Table) : Prop := t.Columns.length ≤ 1000 ∧ ∀ c ∈ t.Columns, c.Cells.length ≤ 1000
theorem zT_small : SmallT zT := ⟨by decide, fun c hc => absurd hc (by simp [zT])⟩
theorem listM_small {m r k : Nat} {b : Int} {l : List G_api_Table} (h : ListM m r k b l) (hm : m ≤ 10) (hr : r ≤ 10) {t : G_api_Table} (ht : t ∈ l) : SmallT t := by
  obtain ⟨_, h2, n, hn, hc⟩ := (h.tabs t ht).1
  exact ⟨by omega, fun c hcm => by rw [(hc c hcm).2.1]; omega⟩
theorem find_both {m r k : Nat} {b : Int} {l : List G_api_Table} (h : ListM m r k b l) (hk : k ≤ 10) (hm : m ≤ 10) (hr : r ≤ 10) (id : Int) : ∃ t ok, s_table_Find l id = some (t, ok) ∧ s_tablefinderref03_Find l id = some (t, ok) ∧ SmallT t := by
  unfold s_table_Find
  rcases finds h hk id with ⟨h1, h2⟩ | ⟨j, hj, h1, h2⟩
  · exact ⟨zT, false, by rw [h1]; rfl, h2, zT_small⟩
  · have hs := listM_small h hm hr (List.getElem_mem hj)
    refine ⟨l[j], true, ?_, h2, hs⟩
    rw [h1, Option.bind_some, decide_eq_false (by omega), cond_false, idx_nat hj, Option.bind_some, find_copy _ hs.1 hs.2, Option.bind_some]
theorem get_both {m r k : Nat} {b : Int} {l : List G_api_Table} (h : ListM m r k b l) (hk : k ≤ 10) (hm : m ≤ 10) (hr : r ≤ 10) (o : G_api_Ref) : ∃ c ok, s_table_Get l o = some (c, ok) ∧ s_tablefinderref03_Get l o = some (c, ok) ∧ c.Cells.length ≤ 1000 := by
  unfold s_table_Get s_tablefinderref03_Get s_table_Get_j1 s_tablefinderref03_Get_j1
  rcases finds h hk o.Table with ⟨h1, h2⟩ | ⟨j, hj, h1, h2⟩
  · exact ⟨⟨[], []⟩, false, by rw [h1]; rfl, by rw [h2]; rfl, by decide⟩
  · have hs := listM_small h hm hr (List.getElem_mem hj)
    rw [h1, h2, Option.bind_some, Option.bind_some]
    dsimp only
    rw [decide_eq_false (by omega), cond_false, Bool.not_true, cond_false]
    by_cases h0 : o.Column < 0
    · rw [decide_eq_true h0]
      exact ⟨⟨[], []⟩, false, rfl, rfl, by decide⟩
    · rw [decide_eq_false h0, cond_false, cond_false, idx_nat hj, Option.bind_some]
      by_cases hc : o.Column ≥ (l[j].Columns.length : Int)
      · rw [decide_eq_true hc]
        exact ⟨⟨[], []⟩, false, rfl, rfl, by decide⟩
      · have hlt : o.Column.toNat < l[j].Columns.length := by omega
        have hcl := hs.2 _ (List.getElem_mem hlt)
        refine ⟨l[j].Columns[o.Column.toNat], true, ?_, ?_, hcl⟩
        · rw [decide_eq_false hc, cond_false, Option.bind_some, idx_some (by omega) hlt, Option.bind_some, column_eq _ (by omega), Option.bind_some]
        · rw [decide_eq_false hc, cond_false, idx_some (by omega) hlt, Option.bind_some]
theorem less_both (a b : G_api_Ref) : ∃ x, s_table_Less a b = some x ∧ s_tablefinderref03_Less a b = some x := by
  refine ⟨decide ((if intC a.Table b.Table ≠ 0 then intC a.Table b.Table else intC a.Column b.Column) < 0), ?_, ?_⟩
  · unfold s_table_Less
    rw [compareInt_eq, Option.bind_some, compareInt_eq, Option.bind_some, or_eq, Option.bind_some]
  · unfold s_tablefinderref03_Less s_tablefinderref03_Less_j1 intC
    by_cases h1 : a.Table < b.Table
    · rw [decide_eq_true h1, cond_true, if_pos h1]; rfl
    · rw [decide_eq_false h1, cond_false, if_neg h1]
      by_cases h2 : a.Table > b.Table
      · rw [if_pos h2, beq_eq_false_iff_ne.2 (by omega), cond_false]; rfl
      · rw [if_neg h2, beq_iff_eq.2 (by omega : a.Table = b.Table), cond_true, if_neg (by decide)]
        by_cases h3 : a.Column < b.Column
        · rw [if_pos h3, decide_eq_true h3]; rfl
        · rw [if_neg h3, decide_eq_false h3]
          split <;> rfl

/-! ## Valid lists -/

def OkL (l : List G_api_Table) : Prop := ∀ t ∈ l, TextsOk t ∧ t.Columns.length ≤ 1000 ∧ ∀ c ∈ t.Columns, c.Cells.length ≤ 1000
theorem OkL.v {l : List G_api_Table} (h : OkL l) {t : G_api_Table} (ht : t ∈ l) : s_table_Valid t = some (tableS t) ∧ s_tablefinderref03_Valid t = some (tableS t) := by
  obtain ⟨h1, h2, h3⟩ := h t ht
  exact ⟨table_eq t (by omega) (fun c hc => by have := h3 c hc; omega), rtable_eq t h1 (by omega)⟩
def ascP (l : List G_api_Table) (i : Nat) : Bool := decide ((l.getD i default).ID < (l.getD (i + 1) default).ID)
def vlS (l : List G_api_Table) : Bool := (List.range (l.length - 1)).all (ascP l) && l.all tableS
theorem getD_at {l : List G_api_Table} {i : Nat} (h : i < l.length) : l.getD i default = l[i] := by rw [List.getD_eq_getElem?_getD, List.getElem?_eq_getElem h]; rfl
theorem tvl_eq {l : List G_api_Table} (h : OkL l) (hl : l.length ≤ 1000) : s_table_ValidList l = some (vlS l) := by
  have every : s_table_every_api_Table l = some (l.all tableS) := by
    refine eq_of_wp ?_
    unfold s_table_every_api_Table s_table_every_api_Table_k1
    rw [wp_bind]
    refine wp_mono (allS_wp s_table_every_api_Table_l1_FB l (by omega) (fun k => (l, (l.length : Int), k)) tableS false () (fun rec k hlt Q q1 q2 => ?_) (fun rec Q q => ?_)) ?_
    · unfold s_table_every_api_Table_l1_B s_table_every_api_Table_l1_b
      dsimp only
      rw [wp_bif]
      refine ⟨fun _ => ?_, fun h => by simp only [decide_eq_false_iff_not] at h; omega⟩
      rw [idx_nat hlt, wp_bind, wp_some, (h.v (List.getElem_mem hlt)).1, wp_bind, wp_some, wp_bif]
      exact ⟨fun h => by rw [wp_some]; exact q1 (by rw [Bool.not_eq_true'] at h; exact h), fun h => by rw [wp_chk]; exact ⟨inK_i64 (by omega), q2 (by rw [Bool.not_eq_false'] at h; exact h)⟩⟩
    · unfold s_table_every_api_Table_l1_B s_table_every_api_Table_l1_b
      dsimp only
      rw [wp_bif]
      exact ⟨fun h => by simp only [decide_eq_true_eq] at h; omega, fun _ => by rw [wp_some]; exact q⟩
    · rintro y rfl
      cases l.all tableS <;> exact wp_some.2 rfl
  refine eq_of_wp ?_
  unfold s_table_ValidList
  rw [wp_bind, show (1 : Int) = 0 + 1 from rfl]
  have hr : (List.range (l.length - 1)).length = l.length - 1 := List.length_range
  refine wp_mono (allS_wp s_table_ValidList_l1_FB (List.range (l.length - 1)) (by omega) (fun k => (l, k + 1)) (ascP l) false l (fun rec k hlt Q q1 q2 => ?_) (fun rec Q q => ?_)) ?_
  · rw [hr] at hlt
    rw [List.getElem_range] at q1 q2
    have e : (k : Int) + 1 - 1 = (k : Int) := by omega
    have e1 : (k : Int) + 1 = ((k + 1 : Nat) : Int) := rfl
    have ea : ascP l k = decide (l[k].ID < l[k + 1].ID) := by unfold ascP; rw [getD_at (by omega), getD_at (by omega)]
    rw [ea] at q1 q2
    unfold s_table_ValidList_l1_B s_table_ValidList_l1_b
    dsimp only
    rw [wp_bif]
    refine ⟨fun _ => ?_, fun h => by simp only [decide_eq_false_iff_not] at h; omega⟩
    rw [wp_chk, e, idx_nat (by omega), wp_bind, wp_some, e1, idx_nat (by omega), wp_bind, wp_some, wp_bif]
    refine ⟨inK_i64 (by omega), fun h => ?_, fun h => ?_⟩
    · rw [wp_some]; exact q1 (decide_eq_false (by have := of_decide_eq_true h; omega))
    · rw [wp_chk]; exact ⟨inK_i64 (by omega), q2 (decide_eq_true (by have := of_decide_eq_false h; omega))⟩
  · rw [hr]
    unfold s_table_ValidList_l1_B s_table_ValidList_l1_b
    dsimp only
    rw [wp_bif]
    exact ⟨fun h => by simp only [decide_eq_true_eq] at h; omega, fun _ => by rw [wp_some]; exact q⟩
  · rintro y rfl
    unfold vlS
    cases (List.range (l.length - 1)).all (ascP l) with
    | false => exact wp_some.2 rfl
    | true =>
      show wp (s_table_ValidList_k1 l) _
      unfold s_table_ValidList_k1 s_table_ValidList_j2
      rw [decide_eq_true (by omega), cond_true, every, wp_bind, wp_some, wp_some]; rfl
theorem rvl_eq {l : List G_api_Table} (h : OkL l) (hl : l.length ≤ 1000) : s_tablefinderref03_ValidList l = some (vlS l) := by
  refine eq_of_wp ?_
  unfold s_tablefinderref03_ValidList
  rw [wp_bind]
  have hr : (List.range l.length).length = l.length := List.length_range
  refine wp_mono (allS_wp s_tablefinderref03_ValidList_l1_FB (List.range l.length) (by omega) (fun k => (l, l, (l.length : Int), k)) (fun i => tableS (l.getD i default) && (decide (i = 0) || ascP l (i - 1))) false l (fun rec k hlt Q q1 q2 => ?_) (fun rec Q q => ?_)) ?_
  · rw [hr] at hlt
    rw [List.getElem_range, getD_at hlt] at q1 q2
    unfold s_tablefinderref03_ValidList_l1_B s_tablefinderref03_ValidList_l1_b s_tablefinderref03_ValidList_j1
    dsimp only
    rw [wp_bif]
    refine ⟨fun _ => ?_, fun h => by simp only [decide_eq_false_iff_not] at h; omega⟩
    rw [idx_nat hlt, wp_bind, wp_some, (h.v (List.getElem_mem hlt)).2, wp_bind, wp_some]
    cases ht : tableS l[k] with
    | false =>
      rw [Bool.not_false, cond_true, cond_true, wp_some]
      exact q1 (by rw [ht]; rfl)
    | true =>
      rw [ht, Bool.true_and] at q1 q2
      rw [Bool.not_true, cond_false, wp_bif]
      refine ⟨fun h0 => ?_, fun h0 => ?_⟩
      · have h0 := of_decide_eq_true h0
        obtain ⟨j, rfl⟩ : ∃ j, k = j + 1 := ⟨k - 1, by omega⟩
        have e : ((j + 1 : Nat) : Int) - 1 = (j : Int) := by omega
        have ea : (decide (j + 1 = 0) || ascP l (j + 1 - 1)) = decide (l[j].ID < l[j + 1].ID) := by
          unfold ascP
          rw [Nat.add_sub_cancel, getD_at (by omega), getD_at (by omega), decide_eq_false (by omega), Bool.false_or]
        rw [ea] at q1 q2
        rw [wp_chk, e, idx_nat (by omega), wp_bind, wp_some, wp_bif]
        refine ⟨inK_i64 (by omega), fun h => ?_, fun h => ?_⟩
        · rw [wp_some]; exact q1 (decide_eq_false (by have := of_decide_eq_true h; omega))
        · rw [wp_chk]; exact ⟨inK_i64 (by omega), q2 (decide_eq_true (by have := of_decide_eq_false h; omega))⟩
      · have h0 := of_decide_eq_false h0
        have : k = 0 := by omega
        subst this
        rw [cond_false, wp_chk]
        exact ⟨inK_i64 (by omega), q2 rfl⟩
  · rw [hr]
    unfold s_tablefinderref03_ValidList_l1_B s_tablefinderref03_ValidList_l1_b
    dsimp only
    rw [wp_bif]
    exact ⟨fun h => by simp only [decide_eq_true_eq] at h; omega, fun _ => by rw [wp_some]; exact q⟩
  · rintro y rfl
    have e : ((List.range l.length).all fun i => tableS (l.getD i default) && (decide (i = 0) || ascP l (i - 1))) = vlS l := by
      refine Bool.eq_iff_iff.2 ?_
      unfold vlS
      rw [Bool.and_eq_true, List.all_eq_true, List.all_eq_true, List.all_eq_true]
      constructor
      · intro hh
        refine ⟨fun i hi => ?_, fun t ht => ?_⟩
        · have hi := List.mem_range.1 hi
          have := hh (i + 1) (List.mem_range.2 (by omega))
          rw [Bool.and_eq_true, Nat.add_sub_cancel, decide_eq_false (by omega), Bool.false_or] at this
          exact this.2
        · obtain ⟨i, hi, rfl⟩ := List.mem_iff_getElem.1 ht
          have := hh i (List.mem_range.2 hi)
          rw [Bool.and_eq_true, getD_at hi] at this
          exact this.1
      · rintro ⟨h1, h2⟩ i hi
        have hi := List.mem_range.1 hi
        rw [Bool.and_eq_true, getD_at hi]
        refine ⟨h2 _ (List.getElem_mem hi), ?_⟩
        by_cases h0 : i = 0
        · rw [decide_eq_true h0]; rfl
        · rw [h1 (i - 1) (List.mem_range.2 (by omega)), Bool.or_true]
    rw [e]
    cases vlS l with
    | false => exact wp_some.2 rfl
    | true =>
      show wp (s_tablefinderref03_ValidList_k2 l) _
      unfold s_tablefinderref03_ValidList_k2
      rw [decide_eq_true (by omega)]
      exact wp_some.2 rfl
end Go.Proofs

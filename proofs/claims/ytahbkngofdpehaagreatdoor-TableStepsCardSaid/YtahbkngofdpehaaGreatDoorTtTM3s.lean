/- Finding tables and columns; references. -/
import Derived.Test.YtahbkngofdpehaaGreatDoorTtTM2s
set_option linter.unusedVariables false
set_option linter.unusedSimpArgs false
set_option linter.unusedSectionVars false
namespace Go.Proofs
open Go Eng

theorem clone_eq (s : List G_api_Cell) (hs : s.length ≤ 1000000) : s_slices_Clone_api_Cell_api_Cell s = some s := by
  have h1 : s_slices_Clone_api_Cell_api_Cell_j1 s false = some s := by
    refine eq_of_wp ?_
    unfold s_slices_Clone_api_Cell_api_Cell_j1
    rw [cond_false, wp_chk, wp_some]
    exact ⟨room_ok (by simp; omega), rfl⟩
  unfold s_slices_Clone_api_Cell_api_Cell
  rw [h1]
  cases s with
  | nil => exact agree_self _
  | cons c l => rfl

theorem find_wp (l : List G_api_Table) (hl : l.length ≤ 1000) (id : Int) : wp (s_table_find l id) (fun i => (i = -1 ∧ ∀ t ∈ l, t.ID ≠ id) ∨ ∃ (j : Nat) (h : j < l.length), i = (j : Int) ∧ l[j].ID = id) := by
  unfold s_table_find s_slices_IndexFunc_api_Table_api_Table s_slices_IndexFunc_api_Table_api_Table_k1
  rw [wp_bind, wp_bind]
  refine wp_mono (forS_wp s_slices_IndexFunc_api_Table_api_Table_l1_FB l (by omega) (fun k (_ : Unit) => (l, id, (l.length : Int), k)) (fun k _ => ∀ t ∈ l.take k, t.ID ≠ id)
    (Q := fun x => (x = .brk () ∧ ∀ t ∈ l, t.ID ≠ id) ∨ ∃ (j : Nat) (h : j < l.length), x = .ret (j : Int) ∧ l[j].ID = id) () (by simp) (fun rec k _ hlt hP ih => ?_) (fun rec _ hP => ?_)) ?_
  · unfold s_slices_IndexFunc_api_Table_api_Table_l1_B s_slices_IndexFunc_api_Table_api_Table_l1_b s_table_find_1
    dsimp only
    rw [wp_bif]
    refine ⟨fun _ => ?_, fun h => by simp only [decide_eq_false_iff_not] at h; omega⟩
    rw [wp_bind, idx_nat hlt, wp_some, wp_bind, wp_some, wp_bif]
    refine ⟨fun h => by rw [wp_some]; exact .inr ⟨k, hlt, rfl, beq_iff_eq.1 h⟩, fun h => ?_⟩
    rw [wp_chk]
    refine ⟨inK_i64 (by omega), ih () fun t ht => ?_⟩
    rw [List.take_succ_eq_append_getElem hlt, List.mem_append] at ht
    rcases ht with ht | ht
    · exact hP t ht
    · simp only [List.mem_singleton] at ht; subst ht; exact beq_eq_false_iff_ne.1 h
  · rw [List.take_length] at hP
    unfold s_slices_IndexFunc_api_Table_api_Table_l1_B s_slices_IndexFunc_api_Table_api_Table_l1_b
    dsimp only
    rw [wp_bif]
    exact ⟨fun h => by simp only [decide_eq_true_eq] at h; omega, fun _ => by rw [wp_some]; exact .inl ⟨rfl, hP⟩⟩
  · rintro x (⟨rfl, h⟩ | ⟨j, hj, rfl, h⟩)
    · dsimp only; rw [wp_some, wp_some]; exact .inl ⟨rfl, h⟩
    · dsimp only; rw [wp_some, wp_some]; exact .inr ⟨j, hj, rfl, h⟩

def refsT (t : G_api_Table) (n : Nat) : List G_api_Ref := (List.range n).map fun (k : Nat) => ⟨t.ID, (k : Int)⟩
def refsS (l : List G_api_Table) : List G_api_Ref := l.flatMap fun t => refsT t t.Columns.length
theorem refsT_succ (t : G_api_Table) (n : Nat) : refsT t (n + 1) = refsT t n ++ [⟨t.ID, (n : Int)⟩] := by unfold refsT; rw [List.range_succ, List.map_append]; rfl
theorem refsT_len (t : G_api_Table) (n : Nat) : (refsT t n).length = n := by unfold refsT; simp
theorem refsS_app (a b : List G_api_Table) : refsS (a ++ b) = refsS a ++ refsS b := by unfold refsS; rw [List.flatMap_append]
theorem refsS_cons (t : G_api_Table) (b : List G_api_Table) : refsS (t :: b) = refsT t t.Columns.length ++ refsS b := rfl
theorem refsS_one (t : G_api_Table) : refsS [t] = refsT t t.Columns.length := by rw [refsS_cons]; simp [refsS]
theorem refsS_len {m r k : Nat} {b : Int} {l : List G_api_Table} (h : ListM m r k b l) : ∀ (a : List G_api_Table), (∀ t ∈ a, t ∈ l) → (refsS a).length ≤ a.length * m
  | [], _ => by simp [refsS]
  | t :: a, ha => by
    have h1 := refsS_len h a fun x hx => ha x (List.mem_cons_of_mem _ hx)
    have h2 := (h.tabs t (ha t List.mem_cons_self)).1.2.1
    rw [refsS_cons, List.length_append, refsT_len, List.length_cons, Nat.add_mul]
    omega

theorem refs_eq {m r k : Nat} {b : Int} {l : List G_api_Table} (h : ListM m r k b l) (hm : m ≤ 10) (hk : k ≤ 10) : s_table_Refs l = some (refsS l) := by
  refine eq_of_wp ?_
  have hl := h.len
  have tot : ∀ a : List G_api_Table, (∀ t ∈ a, t ∈ l) → a.length ≤ 10 → (refsS a).length ≤ 100 := fun a ha hal => by
    have := refsS_len h a ha
    have h2 : a.length * m ≤ 10 * 10 := Nat.mul_le_mul hal hm
    omega
  unfold s_table_Refs s_table_Refs_k2
  rw [wp_bind]
  refine wp_mono (forS_wp s_table_Refs_l1_FB l (by omega) (fun j (o : List G_api_Ref) => (l, (l.length : Int), j, o)) (fun j o => o = refsS (l.take j)) (Q := fun x => x = refsS l) [] (by simp [refsS]) (fun rec j o hlt hP ih => ?_) (fun rec o hP => ?_)) (fun x hx => by rw [wp_some]; exact hx)
  · subst hP
    have hc := (h.tabs _ (List.getElem_mem hlt)).1.2.1
    have hp := tot (l.take j) (fun t ht => List.mem_of_mem_take ht) (by rw [List.length_take]; omega)
    unfold s_table_Refs_l1_B s_table_Refs_l1_b
    dsimp only
    rw [wp_bif]
    refine ⟨fun _ => ?_, fun h => by simp only [decide_eq_false_iff_not] at h; omega⟩
    rw [wp_bind, idx_nat hlt, wp_some, wp_bind]
    refine wp_mono (uptoS_wp s_table_Refs_l2_FB l[j].Columns.length (by omega) (fun i (o : List G_api_Ref) => (l, (l.length : Int), (j : Int), (l[j].Columns.length : Int), i, o, l[j])) (fun i o => o = refsS (l.take j) ++ refsT l[j] i)
      (Q := fun x => x = (l, (l.length : Int), (j : Int), refsS (l.take (j + 1)))) (refsS (l.take j)) (by rw [show refsT l[j] 0 = [] from rfl, List.append_nil]) (fun rec i o hi hP ih => ?_) (fun rec o hP => ?_)) ?_
    · subst hP
      unfold s_table_Refs_l2_B s_table_Refs_l2_b
      dsimp only
      rw [wp_bif]
      refine ⟨fun _ => ?_, fun h => by simp only [decide_eq_false_iff_not] at h; omega⟩
      rw [wp_chk, wp_chk]
      exact ⟨room_ok (by simp only [List.length_append, refsT_len, List.length_singleton]; omega), inK_i64 (by omega), ih _ (by rw [refsT_succ, List.append_assoc])⟩
    · subst hP
      unfold s_table_Refs_l2_B s_table_Refs_l2_b
      dsimp only
      rw [wp_bif]
      refine ⟨fun h => by simp only [decide_eq_true_eq] at h; omega, fun _ => ?_⟩
      rw [wp_some, List.take_succ_eq_append_getElem hlt, refsS_app, refsS_one]
    · rintro x rfl
      dsimp only
      unfold s_table_Refs_k1
      rw [wp_chk]
      exact ⟨inK_i64 (by omega), ih _ rfl⟩
  · subst hP
    rw [List.take_length]
    unfold s_table_Refs_l1_B s_table_Refs_l1_b
    dsimp only
    rw [wp_bif]
    exact ⟨fun h => by simp only [decide_eq_true_eq] at h; omega, fun _ => by rw [wp_some]⟩

/-- The tables of an ascending list have different numbers. -/
theorem ListM.inj {m r k : Nat} {b : Int} {l : List G_api_Table} (h : ListM m r k b l) {i j : Nat} (hi : i < l.length) (hj : j < l.length) (e : l[i].ID = l[j].ID) : i = j := by
  have key : ∀ (i j : Nat) (hi : i < l.length) (hj : j < l.length), i < j → l[i].ID < l[j].ID := fun i j hi hj hij => by
    have := List.pairwise_iff_getElem.1 h.asc i j (by simpa using hi) (by simpa using hj) hij
    simpa using this
  rcases Nat.lt_trichotomy i j with h1 | h1 | h1
  · have := key i j hi hj h1; omega
  · exact h1
  · have := key j i hj hi h1; omega

def intC (x y : Int) : Int := if x < y then -1 else if x > y then 1 else 0
theorem compareInt_eq (x y : Int) : s_cmp_Compare_int x y = some (intC x y) := by
  unfold s_cmp_Compare_int s_cmp_isNaN_int intC
  rw [Option.bind_some, Option.bind_some, bne_self_eq_false, bne_self_eq_false, cond_false, cond_false]
  by_cases h1 : x < y
  · rw [decide_eq_true h1, if_pos h1]; rfl
  · rw [decide_eq_false h1, if_neg h1, cond_false]
    by_cases h2 : x > y
    · rw [decide_eq_true h2, if_pos h2]; rfl
    · rw [decide_eq_false h2, if_neg h2]; rfl
theorem or_eq (a b : Int) : s_cmp_Or_int [a, b] = some (if a ≠ 0 then a else b) := by
  unfold s_cmp_Or_int s_cmp_Or_int_k1
  obtain ⟨n, hn⟩ := big_add 3 (by decide)
  rw [hn]
  show ((s_cmp_Or_int_l1_b (s_cmp_Or_int_l1 (n + 2)) 0 [a, b] 2 0).bind _) = _
  unfold s_cmp_Or_int_l1_b
  by_cases h : a = 0
  · subst h
    show ((s_cmp_Or_int_l1_b (s_cmp_Or_int_l1 (n + 1)) 0 [0, b] 2 1).bind _) = _
    unfold s_cmp_Or_int_l1_b
    by_cases h : b = 0
    · subst h; rfl
    · have : (b != 0) = true := by simpa using h
      show ((bif (b != 0) then some (Out.ret b) else _).bind _) = _
      rw [this]; rfl
  · have : (a != 0) = true := by simpa using h
    show ((bif (a != 0) then some (Out.ret a) else _).bind _) = _
    rw [this, if_pos h]; rfl
end Go.Proofs

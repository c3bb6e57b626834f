/- Rows equally often: both programs. -/
import Derived.Test.YtahbkngofdpehaaGreatDoorTtTS3
set_option linter.unusedVariables false
set_option linter.unusedSimpArgs false
set_option linter.unusedSectionVars false
namespace Go.Proofs
open Go Eng

theorem sub_perm {α : Type} [BEq α] [LawfulBEq α] : ∀ (a b : List α), a.Nodup → (∀ x ∈ a, x ∈ b) → b.length ≤ a.length → a.Perm b
  | [], b, _, _, hl => by rw [List.eq_nil_of_length_eq_zero (Nat.le_zero.1 hl)]
  | x :: a, b, hn, hs, hl => by
    rw [List.nodup_cons] at hn
    have hx := hs x (by simp)
    have hp := List.perm_cons_erase hx
    have hlen := hp.length_eq
    simp only [List.length_cons] at hl hlen
    refine List.Perm.trans ((sub_perm a (b.erase x) hn.2 (fun y hy => ?_) (by omega)).cons x) hp.symm
    have hne : y ≠ x := fun e => hn.1 (e ▸ hy)
    exact (List.mem_erase_of_ne hne).2 (hs y (by simp [hy]))
theorem perm_of_counts {α : Type} [BEq α] [LawfulBEq α] : ∀ (A B : List α), (∀ r ∈ A, A.count r ≤ B.count r) → A.length = B.length → A.Perm B
  | [], B, _, hl => by rw [List.eq_nil_of_length_eq_zero hl.symm]
  | x :: A, B, hc, hl => by
    have h1 := hc x (by simp)
    rw [List.count_cons_self] at h1
    have hx : x ∈ B := List.count_pos_iff.1 (by omega)
    have hp := List.perm_cons_erase hx
    have hlen := hp.length_eq
    simp only [List.length_cons] at hl hlen
    refine List.Perm.trans ((perm_of_counts A (B.erase x) (fun r hr => ?_) (by omega)).cons x) hp.symm
    have h2 := hc r (by simp [hr])
    have h3 := hp.count_eq r
    by_cases he : x = r
    · subst he
      rw [List.count_cons_self] at h2 h3; omega
    · rw [List.count_cons_of_ne he] at h2 h3; omega
theorem mapsEq_conv {l l' : List Str} {m m' : Cnt} (h : CntOf l m) (h' : CntOf l' m') (hlen : m.length = m'.length) (hall : m.all (goodE m') = true) : l.Perm l' := by
  have key : ∀ k ∈ l, k ∈ l' ∧ l.count k = l'.count k := fun k hk => by
    have h1 : lookC m k = some ((l.count k : Nat) : Int) := by rw [h.look, if_pos hk]
    have h2 := List.all_eq_true.1 hall _ (lookC_mem h1)
    unfold goodE at h2
    rw [h'.look] at h2
    by_cases hk' : k ∈ l'
    · rw [if_pos hk'] at h2
      have h2 := eq_of_beq h2
      simp only [Option.some.injEq] at h2
      exact ⟨hk', by omega⟩
    · rw [if_neg hk'] at h2
      simp at h2
  have hks := sub_perm (m.map (·.1)) (m'.map (·.1)) h.nodup (fun k hk => (h'.keys k).2 (key k ((h.keys k).1 hk)).1) (by simp [hlen])
  refine List.perm_iff_count.2 fun k => ?_
  by_cases hk : k ∈ l
  · exact (key k hk).2
  · have hk' : k ∉ l' := fun e => hk ((h.keys k).1 (hks.mem_iff.2 ((h'.keys k).2 e)))
    rw [List.count_eq_zero.2 hk, List.count_eq_zero.2 hk']

/-! ## Keys are one to one -/

def cell8 (c : G_api_Cell) : Str := (cellI c).map fun n => UInt8.ofNat (Int.toNat n)
theorem keyS_eq (l : List G_api_Cell) : keyS l = l.flatMap cell8 := by
  unfold keyS keyI cell8
  rw [List.map_flatMap]
def allC : List G_api_Cell := ⟨true, []⟩ :: mtexts.map fun s => ⟨false, s⟩
theorem mem_allC {c : G_api_Cell} (h : CellM c) : c ∈ allC := by
  unfold allC
  cases c
  rename_i n t
  cases n with
  | true => have := h.2 rfl; dsimp only at this; subst this; exact List.mem_cons_self
  | false => exact List.mem_cons_of_mem _ (List.mem_map_of_mem h.1)
theorem prefix_all : (allC.all fun a => allC.all fun b => !((cell8 a).isPrefixOf (cell8 b)) || decide (a = b)) = true := by kernel_rfl
theorem prefix_eq {a b : G_api_Cell} (ha : CellM a) (hb : CellM b) (h : cell8 a <+: cell8 b) : a = b := by
  have h1 := List.all_eq_true.1 (List.all_eq_true.1 prefix_all a (mem_allC ha)) b (mem_allC hb)
  rw [List.isPrefixOf_iff_prefix.2 h, Bool.not_true, Bool.false_or] at h1
  exact of_decide_eq_true h1
theorem keyS_inj : ∀ {a b : List G_api_Cell}, AllM a → AllM b → a.length = b.length → keyS a = keyS b → a = b
  | [], [], _, _, _, _ => rfl
  | [], _ :: _, _, _, h, _ => by simp at h
  | _ :: _, [], _, _, h, _ => by simp at h
  | x :: a, y :: b, ha, hb, hl, h => by
    rw [keyS_eq, keyS_eq, List.flatMap_cons, List.flatMap_cons] at h
    have hx := ha x (by simp)
    have hy := hb y (by simp)
    have e : x = y := by
      rcases List.prefix_or_prefix_of_prefix (List.prefix_append (cell8 x) _) (h ▸ List.prefix_append (cell8 y) _) with h1 | h1
      · exact prefix_eq hx hy h1
      · exact (prefix_eq hy hx h1).symm
    subst e
    have h := List.append_cancel_left h
    rw [← keyS_eq, ← keyS_eq] at h
    rw [keyS_inj (fun c hc => ha c (by simp [hc])) (fun c hc => hb c (by simp [hc])) (by simpa using hl) h]
theorem count_map_inj {α β : Type} [BEq α] [LawfulBEq α] [BEq β] [LawfulBEq β] {f : α → β} {r : α} : ∀ {l : List α}, (∀ y ∈ l, f y = f r → y = r) → (l.map f).count (f r) = l.count r
  | [], _ => rfl
  | x :: l, h => by
    have ih := count_map_inj (l := l) fun y hy => h y (by simp [hy])
    rw [List.map_cons, List.count_cons, List.count_cons, ih]
    congr 1
    by_cases he : x = r
    · subst he; simp
    · have : f x ≠ f r := fun e => he (h x (by simp) e)
      simp [he, this]

/-! ## The rows of a table -/

def rowsL' (x : G_api_Table) (n : Nat) : List (List G_api_Cell) := (List.range n).map fun i => rowAt x i
theorem keysL_rows (x : G_api_Table) (n : Nat) : keysL x n = (rowsL' x n).map keyS := by unfold keysL rowsL'; rw [List.map_map]; rfl
theorem rowsL_mem {x : G_api_Table} {n : Nat} (h : GT x n) {r : List G_api_Cell} (hr : r ∈ rowsL' x n) : AllM r ∧ r.length = x.Columns.length := by
  obtain ⟨i, hi, rfl⟩ := List.mem_map.1 hr
  exact ⟨rowAt_mem h.cols (List.mem_range.1 hi), by unfold rowAt; simp⟩
/-- Two tables have the same rows equally often. -/
def sameR (a b : G_api_Table) (n m : Nat) : Bool := decide (n = m) && (rowsL' a n).all fun r => (rowsL' a n).count r == (rowsL' b m).count r
theorem sameR_iff {a b : G_api_Table} {n m : Nat} (ha : GT a n) (hb : GT b m) (hc : a.Columns.length = b.Columns.length) : sameR a b n m = true ↔ (keysL a n).Perm (keysL b m) := by
  have hlen : ∀ (x : G_api_Table) k, (rowsL' x k).length = k := fun x k => by unfold rowsL'; simp
  unfold sameR
  rw [Bool.and_eq_true, decide_eq_true_eq, List.all_eq_true, keysL_rows, keysL_rows]
  constructor
  · rintro ⟨h1, h2⟩
    refine List.Perm.map keyS (perm_of_counts _ _ (fun r hr => ?_) (by rw [hlen, hlen, h1]))
    have := eq_of_beq (h2 r hr)
    omega
  · intro h
    have hl := h.length_eq
    rw [List.length_map, List.length_map, hlen, hlen] at hl
    refine ⟨hl, fun r hr => ?_⟩
    obtain ⟨q1, q2⟩ := rowsL_mem ha hr
    have c1 := count_map_inj (f := keyS) (r := r) (l := rowsL' a n) fun y hy he => by
      obtain ⟨p1, p2⟩ := rowsL_mem ha hy
      exact keyS_inj p1 q1 (by omega) he
    have c2 := count_map_inj (f := keyS) (r := r) (l := rowsL' b m) fun y hy he => by
      obtain ⟨p1, p2⟩ := rowsL_mem hb hy
      exact keyS_inj p1 q1 (by omega) he
    rw [← c1, ← c2, h.count_eq]
    exact beq_self_eq_true _

theorem tsameRows_eq {a b : G_api_Table} {n m : Nat} (ha : GT a n) (hb : GT b m) : s_table_SameRows a b = some (decide (a.Columns.length = b.Columns.length) && sameR a b n m) := by
  refine eq_of_wp ?_
  unfold s_table_SameRows s_table_SameRows_j1
  rw [ha.valid, wp_bind, wp_some, cond_true, hb.valid, wp_bind, wp_some, cond_true]
  by_cases hc : a.Columns.length = b.Columns.length
  · rw [hc, beq_self_eq_true, cond_true, wp_bind, decide_eq_true rfl, Bool.true_and]
    refine wp_mono (rows_wp ha.tab (by omega) (by omega)) fun x ⟨hx, hxl⟩ => ?_
    rw [ha.rows, Int.toNat_natCast] at hx
    rw [wp_bind]
    refine wp_mono (rows_wp hb.tab (by omega) (by omega)) fun y ⟨hy, hyl⟩ => ?_
    rw [hb.rows, Int.toNat_natCast] at hy
    have hs := sameR_iff ha hb hc
    cases hR : sameR a b n m with
    | true =>
      rw [mapsEq_perm hx hy (hs.1 hR) (by omega), wp_bind, wp_some, wp_some]
    | false =>
      rw [mapsEq (by omega) (by omega), wp_bind, wp_some, wp_some]
      refine Bool.eq_false_iff.2 fun h => ?_
      rw [Bool.and_eq_true, decide_eq_true_eq] at h
      have := hs.2 (mapsEq_conv hx hy h.1 h.2)
      rw [hR] at this; cases this
  · have : ((a.Columns.length : Int) == (b.Columns.length : Int)) = false := beq_eq_false_iff_ne.2 (by omega)
    rw [this, cond_false, wp_some, decide_eq_false hc, Bool.false_and]

theorem inner_count {a b : G_api_Table} {n : Nat} (ha : GT a n) (hb : GT b n) (hc : a.Columns.length = b.Columns.length) {i : Nat} (hi : i < n) :
    wp (s_tablefinderref03_SameRows_l2 big (i : Int) 0 0 0 a b) (fun y => y = ((i : Int), (((rowsL' a n).count (rowAt a i) : Nat) : Int), (((rowsL' b n).count (rowAt a i) : Nat) : Int), a, b)) := by
  have hfew := ha.few
  have hla := ha.len
  have snoc : ∀ (x : G_api_Table) k, rowsL' x (k + 1) = rowsL' x k ++ [rowAt x k] := fun x k => by unfold rowsL'; rw [List.range_succ, List.map_append]; rfl
  have hlen : ∀ (x : G_api_Table) k, (rowsL' x k).length = k := fun x k => by unfold rowsL'; simp
  have rl : ∀ (x : G_api_Table) k, (rowAt x k).length = x.Columns.length := fun x k => by unfold rowAt; simp
  refine uptoS_wp s_tablefinderref03_SameRows_l2_FB n (by omega) (fun k (s : Nat × Nat) => ((i : Int), (s.1 : Int), (s.2 : Int), k, a, b)) (fun k s => s.1 = (rowsL' a k).count (rowAt a i) ∧ s.2 = (rowsL' b k).count (rowAt a i)) (0, 0) ⟨rfl, rfl⟩ ?_ ?_
  · rintro rec k ⟨u, v⟩ hk ⟨hu, hv⟩ ih
    dsimp only at hu hv ih
    have bu : u ≤ k := by rw [hu]; have := List.count_le_length (a := rowAt a i) (l := rowsL' a k); rw [hlen] at this; exact this
    have bv : v ≤ k := by rw [hv]; have := List.count_le_length (a := rowAt a i) (l := rowsL' b k); rw [hlen] at this; exact this
    have mi := rowAt_mem ha.cols hi
    have zero : ∀ {x : G_api_Table}, GT x n → a.Columns.length = x.Columns.length → (rowC (rowAt a i) (rowAt x k) == 0) = decide (rowAt x k = rowAt a i) := fun {x} hx hxc => by
      by_cases he : rowAt x k = rowAt a i
      · rw [he, rowC_self, decide_eq_true rfl]; rfl
      · rw [decide_eq_false he]
        exact beq_eq_false_iff_ne.2 fun h0 => he (rowC_zero mi (rowAt_mem hx.cols hk) (by rw [rl, rl, hxc]) h0).symm
    have cnt : ∀ (x : G_api_Table), (rowsL' x (k + 1)).count (rowAt a i) = (rowsL' x k).count (rowAt a i) + (if rowAt x k = rowAt a i then 1 else 0) := fun x => by
      rw [snoc, List.count_append, List.count_singleton]
      by_cases he : rowAt x k = rowAt a i
      · rw [if_pos he, he]; simp
      · rw [if_neg he]; simp [he]
    have j2 : ∀ u' : Nat, u' ≤ k + 1 → u' = (rowsL' a (k + 1)).count (rowAt a i) → wp (s_tablefinderref03_SameRows_j2 (fun i n m k a b => rec (i, n, m, k, a, b)) (i : Int) (u' : Int) (v : Int) (k : Int) a b) (fun y => y = ((i : Int), (((rowsL' a n).count (rowAt a i) : Nat) : Int), (((rowsL' b n).count (rowAt a i) : Nat) : Int), a, b)) := fun u' hu'k hu' => by
      have cb := cnt b
      unfold s_tablefinderref03_SameRows_j2
      rw [at_eq ha hi, wp_bind, wp_some, at_eq hb hk, wp_bind, wp_some, rowcmp_eq (by rw [rl, rl, hc]) (by rw [rl]; omega), wp_bind, wp_some, zero hb hc, wp_bif]
      unfold s_tablefinderref03_SameRows_j3
      refine ⟨fun h => ?_, fun h => ?_⟩
      · rw [if_pos (of_decide_eq_true h)] at cb
        rw [wp_chk, wp_chk]
        exact ⟨inK_i64 (by omega), inK_i64 (by omega), ih (u', v + 1) ⟨hu', by dsimp only; omega⟩⟩
      · rw [if_neg (of_decide_eq_false h)] at cb
        rw [wp_chk]
        exact ⟨inK_i64 (by omega), ih (u', v) ⟨hu', by dsimp only; omega⟩⟩
    have ca := cnt a
    unfold s_tablefinderref03_SameRows_l2_B s_tablefinderref03_SameRows_l2_b
    dsimp only
    rw [rrows_eq, wp_bind, wp_some, ha.rows, wp_bif]
    refine ⟨fun _ => ?_, fun h => by have := of_decide_eq_false h; omega⟩
    rw [at_eq ha hi, wp_bind, wp_some, at_eq ha hk, wp_bind, wp_some, rowcmp_eq (by rw [rl, rl]) (by rw [rl]; omega), wp_bind, wp_some, zero ha rfl, wp_bif]
    refine ⟨fun h => ?_, fun h => ?_⟩
    · rw [if_pos (of_decide_eq_true h)] at ca
      rw [wp_chk]
      exact ⟨inK_i64 (by omega), j2 (u + 1) (by omega) (by omega)⟩
    · rw [if_neg (of_decide_eq_false h)] at ca
      exact j2 u (by omega) (by omega)
  · rintro rec ⟨u, v⟩ ⟨hu, hv⟩
    dsimp only at hu hv
    unfold s_tablefinderref03_SameRows_l2_B s_tablefinderref03_SameRows_l2_b
    dsimp only
    rw [rrows_eq, wp_bind, wp_some, ha.rows, wp_bif]
    refine ⟨fun h => by have := of_decide_eq_true h; omega, fun _ => ?_⟩
    rw [wp_some, hu, hv]

theorem rsameRows_eq {a b : G_api_Table} {n m : Nat} (ha : GT a n) (hb : GT b m) : s_tablefinderref03_SameRows a b = some (decide (a.Columns.length = b.Columns.length) && sameR a b n m) := by
  have hfew := ha.few
  refine eq_of_wp ?_
  unfold s_tablefinderref03_SameRows s_tablefinderref03_SameRows_j1
  rw [ha.rvalid, wp_bind, wp_some, Bool.not_true, cond_false, hb.rvalid, wp_bind, wp_some, Bool.not_true, cond_false]
  by_cases hc : a.Columns.length = b.Columns.length
  · rw [hc, bne_self_eq_false, cond_false, rrows_eq, wp_bind, wp_some, rrows_eq, wp_bind, wp_some, ha.rows, hb.rows, decide_eq_true rfl, Bool.true_and]
    by_cases hnm : n = m
    · subst hnm
      rw [bne_self_eq_false, cond_false, wp_bind]
      have hr : (List.range n).length = n := List.length_range
      refine wp_mono (allS_wp s_tablefinderref03_SameRows_l1_FB (List.range n) (by omega) (fun k => (k, a, b)) (fun i => (rowsL' a n).count (rowAt a i) == (rowsL' b n).count (rowAt a i)) false () (fun rec i hlt Q q1 q2 => ?_) (fun rec Q q => ?_)) ?_
      · rw [hr] at hlt
        rw [List.getElem_range] at q1 q2
        unfold s_tablefinderref03_SameRows_l1_B s_tablefinderref03_SameRows_l1_b
        dsimp only
        rw [rrows_eq, wp_bind, wp_some, ha.rows, wp_bif]
        refine ⟨fun _ => ?_, fun h => by have := of_decide_eq_false h; omega⟩
        rw [wp_bind]
        refine wp_mono (inner_count ha hb hc hlt) ?_
        rintro y rfl
        dsimp only
        unfold s_tablefinderref03_SameRows_k4
        rw [wp_bif]
        refine ⟨fun h => ?_, fun h => ?_⟩
        · rw [wp_some]
          refine q1 (beq_eq_false_iff_ne.2 fun e => ?_)
          rw [e, bne_self_eq_false] at h; cases h
        · rw [wp_chk]
          refine ⟨inK_i64 (by omega), q2 ?_⟩
          rw [bne_eq_false_iff_eq] at h
          exact beq_iff_eq.2 (by omega)
      · rw [hr]
        unfold s_tablefinderref03_SameRows_l1_B s_tablefinderref03_SameRows_l1_b
        dsimp only
        rw [rrows_eq, wp_bind, wp_some, ha.rows, wp_bif]
        exact ⟨fun h => by simp only [decide_eq_true_eq] at h; omega, fun _ => by rw [wp_some]; exact q⟩
      · rintro y rfl
        have e : ((List.range n).all fun i => (rowsL' a n).count (rowAt a i) == (rowsL' b n).count (rowAt a i)) = sameR a b n n := by
          unfold sameR
          rw [decide_eq_true rfl, Bool.true_and]
          conv => rhs; unfold rowsL'
          rw [List.all_map]
          rfl
        rw [e]
        unfold s_tablefinderref03_SameRows_k5
        cases sameR a b n n <;> exact wp_some.2 rfl
    · have : ((n : Int) != (m : Int)) = true := by rw [bne_iff_ne]; omega
      rw [this, cond_true, wp_some]
      unfold sameR
      rw [decide_eq_false hnm, Bool.false_and]
  · have : ((a.Columns.length : Int) != (b.Columns.length : Int)) = true := by rw [bne_iff_ne]; omega
    rw [this, cond_true, cond_true, wp_some, decide_eq_false hc, Bool.false_and]
end Go.Proofs

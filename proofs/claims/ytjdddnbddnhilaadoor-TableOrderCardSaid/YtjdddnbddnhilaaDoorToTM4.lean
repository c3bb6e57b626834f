/- The law TableOrder. -/
import Derived.Test.YtjdddnbddnhilaaDoorToTM3
set_option linter.unusedVariables false
set_option linter.unusedSimpArgs false
set_option linter.unusedSectionVars false
namespace Go.Proofs
open Go Eng

theorem sane03 : sl03_sane = some true := by kernel_rfl

theorem order_cols {m r k : Nat} {b : Int} {l : List GaTable} (h : ListM m r k b l) (hm : m ≤ 10) (hk : k ≤ 10) (hr : r ≤ 10) (other : GaRef) {j : Nat} (hj : j < l.length) :
    wp (sl03_TableOrder_l2 big l ((refsS (l.take j)).length : Int) (decide (other ∈ refsS (l.take j))) l (l.length : Int) (j : Int) (l[j].Columns.length : Int) 0 other l[j])
      (fun x => x = .brk (l, ((refsS (l.take (j + 1))).length : Int), decide (other ∈ refsS (l.take (j + 1))), l, (l.length : Int), (j : Int), other)) := by
  have hl := h.len
  have hc := (h.tabs _ (List.getElem_mem hj)).1.2.1
  have tot : (refsS l).length ≤ 100 := by
    have := refsS_len h l fun t ht => ht
    have h2 : l.length * m ≤ 10 * 10 := Nat.mul_le_mul (by omega) hm
    omega
  obtain ⟨nn, hnn, hcols⟩ := (h.tabs _ (List.getElem_mem hj)).1.2.2
  have hs : refsS l = refsS (l.take j) ++ (refsT l[j] l[j].Columns.length ++ refsS (l.drop (j + 1))) := by
    rw [← refsS_cons, List.getElem_cons_drop, ← refsS_app, List.take_append_drop]
  have hasc := refsS_asc h
  refine uptoS_wp sl03_TableOrder_l2_FB l[j].Columns.length (by omega) (fun i (s : Int × Bool) => (l, s.1, s.2, l, (l.length : Int), (j : Int), (l[j].Columns.length : Int), i, other, l[j]))
    (fun i s => s = ((((refsS (l.take j)).length + i : Nat) : Int), decide (other ∈ refsS (l.take j) ++ refsT l[j] i))) (((refsS (l.take j)).length : Int), decide (other ∈ refsS (l.take j))) (by simp [refsT]) (fun rec i s hi hP ih => ?_) (fun rec s hP => ?_)
  · subst hP
    have hci := (hcols _ (List.getElem_mem hi)).2.1
    have hlen : (refsS (l.take j)).length + i < (refsS l).length := by
      rw [hs, List.length_append, List.length_append, refsT_len]; omega
    have hget : (refsS l)[(refsS (l.take j)).length + i] = ⟨l[j].ID, (i : Int)⟩ := by
      simp only [hs]
      rw [List.getElem_append_right (by omega), List.getElem_append_left (by rw [refsT_len]; omega)]
      simp [refsT]
    have j2 : wp (sl03_TableOrder_j2 (fun l n found t78 t79 t80 t86 i other t => rec (l, n, found, t78, t79, t80, t86, i, other, t)) l (((refsS (l.take j)).length + i : Nat) : Int) (decide (other ∈ refsS (l.take j) ++ refsT l[j] i)) l (l.length : Int) (j : Int) (l[j].Columns.length : Int) i false other l[j] ⟨l[j].ID, (i : Int)⟩) (fun x => x = .brk (l, ((refsS (l.take (j + 1))).length : Int), decide (other ∈ refsS (l.take (j + 1))), l, (l.length : Int), (j : Int), other)) := by
      have hmem : (other ∈ refsS (l.take j) ++ refsT l[j] (i + 1)) ↔ (other ∈ refsS (l.take j) ++ refsT l[j] i) ∨ (l[j].ID = other.Table ∧ (i : Int) = other.Column) := by
        rw [refsT_succ, ← List.append_assoc, List.mem_append, List.mem_singleton]
        refine or_congr Iff.rfl ?_
        cases other with | mk a b => simp only [GaRef.mk.injEq]; exact ⟨fun ⟨h1, h2⟩ => ⟨h1.symm, h2.symm⟩, fun ⟨h1, h2⟩ => ⟨h1.symm, h2.symm⟩⟩
      unfold sl03_TableOrder_j2 sl03_TableOrder_j3
      rw [cond_false, wp_bif]
      refine ⟨fun hf => ?_, fun hf => ?_⟩
      · rw [wp_chk, wp_chk]
        refine ⟨inK_i64 (by omega), inK_i64 (by omega), ih ((((refsS (l.take j)).length + i : Nat) : Int) + 1, true) ?_⟩
        rw [decide_eq_true (hmem.2 (.inl (of_decide_eq_true hf)))]
        rfl
      · rw [wp_chk, wp_chk]
        refine ⟨inK_i64 (by omega), inK_i64 (by omega), ih ((((refsS (l.take j)).length + i : Nat) : Int) + 1, (l[j].ID == other.Table && ((i : Int) == other.Column && true))) ?_⟩
        have hn := of_decide_eq_false hf
        refine Prod.ext rfl ?_
        dsimp only
        rw [Bool.eq_iff_iff, decide_eq_true_eq, hmem, Bool.and_true, Bool.and_eq_true, beq_iff_eq, beq_iff_eq]
        exact ⟨fun h => .inr h, fun h => h.resolve_left hn⟩
    unfold sl03_TableOrder_l2_B sl03_TableOrder_l2_b
    dsimp only
    rw [wp_bif]
    refine ⟨fun _ => ?_, fun h => by simp only [decide_eq_false_iff_not] at h; omega⟩
    rw [get_here h hk hr hj hi, wp_bind, wp_some]
    dsimp only
    rw [Bool.not_true, cond_false, wp_bind, idx_nat hi, wp_some, sameCells_self _ (by omega), wp_bind, wp_some, Bool.not_true, cond_false, refs_eq h hm hk, wp_bind, wp_some]
    rw [wp_bif]
    refine ⟨fun h => by simp only [decide_eq_true_eq] at h; omega, fun _ => ?_⟩
    rw [wp_bind, wp_some, wp_chk, wp_bind, wp_get]
    refine ⟨inR_ok (by omega), by omega, ?_⟩
    simp only [Int.toNat_natCast]
    rw [hget]
    dsimp only
    rw [beq_self_eq_true, beq_self_eq_true, Bool.and_true, Bool.and_true, Bool.not_true, cond_false, wp_bif]
    refine ⟨fun h0 => ?_, fun _ => j2⟩
    simp only [decide_eq_true_eq] at h0
    rw [wp_bind, wp_some, wp_chk, wp_chk, wp_bind, wp_get]
    have hp : ((((refsS (l.take j)).length + i : Nat) : Int) - 1).toNat < (refsS l).length := by omega
    refine ⟨inK_i64 (by omega), inR_ok (by omega), hp, ?_⟩
    have hless : lessS (refsS l)[((((refsS (l.take j)).length + i : Nat) : Int) - 1).toNat] ⟨l[j].ID, (i : Int)⟩ := by
      rw [← hget]
      exact List.pairwise_iff_getElem.1 hasc _ _ hp hlen (by omega)
    rw [less_wp hless, wp_bind, wp_some]
    exact j2
  · subst hP
    unfold sl03_TableOrder_l2_B sl03_TableOrder_l2_b
    dsimp only
    rw [wp_bif]
    refine ⟨fun h => by simp only [decide_eq_true_eq] at h; omega, fun _ => ?_⟩
    rw [wp_some, List.take_succ_eq_append_getElem hj, refsS_app, refsS_one, List.length_append, refsT_len]

theorem order_loop {m r k : Nat} {b : Int} {l : List GaTable} (h : ListM m r k b l) (hm : m ≤ 10) (hk : k ≤ 10) (hr : r ≤ 10) (other : GaRef) :
    wp (sl03_TableOrder_l1 big l 0 false l (l.length : Int) 0 other) (fun x => x = .brk (l, ((refsS l).length : Int), decide (other ∈ refsS l), other)) := by
  have hl := h.len
  refine forS_wp sl03_TableOrder_l1_FB l (by omega) (fun j (s : Int × Bool) => (l, s.1, s.2, l, (l.length : Int), j, other)) (fun j s => s = (((refsS (l.take j)).length : Int), decide (other ∈ refsS (l.take j)))) (0, false) (by simp [refsS]) (fun rec j s hlt hP ih => ?_) (fun rec s hP => ?_)
  · subst hP
    unfold sl03_TableOrder_l1_B sl03_TableOrder_l1_b
    dsimp only
    rw [wp_bif]
    refine ⟨fun _ => ?_, fun h => by simp only [decide_eq_false_iff_not] at h; omega⟩
    rw [wp_bind, idx_nat hlt, wp_some, wp_bind]
    refine wp_mono (order_cols h hm hk hr other hlt) ?_
    rintro x rfl
    dsimp only
    unfold sl03_TableOrder_k4
    rw [wp_chk]
    exact ⟨inK_i64 (by omega), ih _ rfl⟩
  · subst hP
    rw [List.take_length]
    unfold sl03_TableOrder_l1_B sl03_TableOrder_l1_b
    dsimp only
    rw [wp_bif]
    exact ⟨fun h => by simp only [decide_eq_true_eq] at h; omega, fun _ => by rw [wp_some]⟩

theorem tableOrder_law (s : List Int) (other : GaRef) (hs : ∀ x ∈ s, 0 ≤ x ∧ x ≤ 255) : sl03_TableOrder s other = some true := by
  refine eq_of_wp ?_
  unfold sl03_TableOrder
  rw [sane03, wp_bind, wp_some, Bool.not_true, cond_false, wp_bind]
  refine wp_mono (new_wp hs) fun d hd => ?_
  rw [wp_bind]
  refine wp_mono (mcell_wp hd) fun ⟨a, d1⟩ ⟨ha, hd1⟩ => ?_
  dsimp only at ha hd1 ⊢
  rw [wp_bind]
  refine wp_mono (mcell_wp hd1) fun ⟨b, d2⟩ ⟨hb, hd2⟩ => ?_
  dsimp only at hb hd2 ⊢
  rw [wp_bind]
  refine wp_mono (mcell_wp hd2) fun ⟨c, d3⟩ ⟨hc, hd3⟩ => ?_
  dsimp only at hc hd3 ⊢
  have hbd := cellC_bounds a b
  rw [compare_eq, wp_bind, wp_some, compare_eq, wp_bind, wp_some, compare_eq, wp_bind, wp_some, compare_eq, wp_bind, wp_some, wp_chk]
  refine ⟨inK_i64 (by omega), ?_⟩
  have e1 : (cellC b a != 0 - cellC a b) = false := by rw [cellC_neg a b]; simp
  have e2 : (!((cellC a b == 0) == (a.Null == b.Null && (a.Text == b.Text && true)))) = false := by
    rw [Bool.not_eq_false', beq_iff_eq, Bool.eq_iff_iff, beq_iff_eq, cellC_zero ha hb, Bool.and_true, Bool.and_eq_true, beq_iff_eq, beq_iff_eq]
  rw [e1, cond_false, e2, cond_false]
  have j1 : wp (sl03_TableOrder_j1 false other d3) (· = true) := by
    unfold sl03_TableOrder_j1
    rw [cond_false, wp_bind]
    refine wp_mono (mlist_wp hd3 (k := 4) (m := 4) (r := 4) (by omega) (by omega) (by omega)) fun ⟨l, d4⟩ ⟨hl, _⟩ => ?_
    dsimp only at hl ⊢
    rw [wp_bind]
    refine wp_mono (order_loop hl (by omega) (by omega) (by omega) other) ?_
    rintro x rfl
    dsimp only
    unfold sl03_TableOrder_k5 sl03_TableOrder_j6
    rw [wp_bind]
    refine wp_mono (get_ok hl (by omega) (by omega) other) fun ⟨q, ok⟩ hq => ?_
    dsimp only at hq ⊢
    rw [hq, beq_self_eq_true, cond_true, refs_eq hl (by omega) (by omega), wp_bind, wp_some, wp_some]
    simp
  have j1n : wp (bif a.Null then sl03_TableOrder_j1 (decide (cellC a b > 0)) other d3 else sl03_TableOrder_j1 false other d3) (· = true) := by
    rw [wp_bif]
    refine ⟨fun h => ?_, fun _ => j1⟩
    have := cellC_null (b := b) h
    rw [decide_eq_false (by omega)]
    exact j1
  rw [wp_bif]
  refine ⟨fun hx => ?_, fun _ => j1n⟩
  rw [wp_bif]
  refine ⟨fun hy => ?_, fun _ => j1n⟩
  have := cellC_trans (of_decide_eq_true hx) (of_decide_eq_true hy)
  rw [decide_eq_false (by omega), cond_false]
  exact j1n
end Go.Proofs

/- The law TableSteps. -/
import Derived.Test.YtahbkngofdpehaaGreatDoorTtTS6
set_option linter.unusedVariables false
set_option linter.unusedSimpArgs false
set_option linter.unusedSectionVars false
namespace Go.Proofs
open Go Eng

theorem steps_l2 {x : G_api_Table} (h : OD x) (what at_ : Int) (rows columns few : List Int) (a b : Int) (c e : G_api_Cell) (l : List G_api_Table) (t : G_api_Table) (ts : List G_api_Table) (hr : rows.length ≤ 20) (hc : columns.length ≤ 20) (hf : few.length ≤ 20) :
    wp (s_tablefinderlaw03_TableSteps_l2 big what at_ rows columns few a b 4 0 c e l t x ts [rows, columns, few, []]) (fun y => y = .brk (what, at_, rows, columns, few, a, b, c, e, l, t, x, ts)) := by
  refine forS_wp s_tablefinderlaw03_TableSteps_l2_FB ([rows, columns, few, []] : List (List Int)) (by simp) (fun k (_ : Unit) => (what, at_, rows, columns, few, a, b, 4, k, c, e, l, t, x, ts, [rows, columns, few, []])) (fun _ _ => True) () trivial (fun rec k _ hlt _ ih => ?_) (fun rec _ _ => ?_)
  · have h4 : k < 4 := hlt
    have hk : ([rows, columns, few, []] : List (List Int))[k].length ≤ 20 := by
      have : ∀ y ∈ ([rows, columns, few, []] : List (List Int)), y.length ≤ 20 := fun y hy => by
        simp only [List.mem_cons, List.not_mem_nil, or_false] at hy
        rcases hy with rfl | rfl | rfl | rfl
        · exact hr
        · exact hc
        · exact hf
        · simp
      exact this _ (List.getElem_mem hlt)
    unfold s_tablefinderlaw03_TableSteps_l2_B s_tablefinderlaw03_TableSteps_l2_b
    dsimp only
    rw [wp_bif]
    refine ⟨fun _ => ?_, fun h => by simp only [decide_eq_false_iff_not] at h; omega⟩
    rw [wp_chk, Int.toNat_natCast, List.getElem?_eq_getElem hlt, wp_bind, wp_some]
    refine ⟨inR_nat hlt, ?_⟩
    generalize ([rows, columns, few, []] : List (List Int))[k] = ks at hk ⊢
    obtain ⟨u, f, p1, p2, su⟩ := project_both h (k := ks) (by omega)
    obtain ⟨v, g, q1, q2, sv⟩ := select_both h (k := ks) (by omega)
    rw [p1, wp_bind, wp_some]
    dsimp only
    rw [p2, wp_bind, wp_some]
    dsimp only
    rw [q1, wp_bind, wp_some]
    dsimp only
    rw [q2, wp_bind, wp_some]
    dsimp only
    rw [bne_self_eq_false, cond_false, bne_self_eq_false, cond_false, same_self su, wp_bind, wp_some, Bool.not_true, cond_false, same_self sv, wp_bind, wp_some]
    unfold s_tablefinderlaw03_TableSteps_j3
    rw [Bool.not_true, cond_false, wp_chk]
    exact ⟨inK_i64 (by omega), ih () trivial⟩
  · unfold s_tablefinderlaw03_TableSteps_l2_B s_tablefinderlaw03_TableSteps_l2_b
    dsimp only
    rw [wp_bif]
    exact ⟨fun h => by have := of_decide_eq_true h; simp at this, fun _ => by rw [wp_some]⟩

theorem steps_l1 {t u : G_api_Table} (h : OD t) (hu : OD u) (what at_ : Int) (rows columns few : List Int) (c e : G_api_Cell) (l : List G_api_Table) (hr : rows.length ≤ 20) (hc : columns.length ≤ 20) (hf : few.length ≤ 20) :
    wp (s_tablefinderlaw03_TableSteps_l1 big what at_ rows columns few 2 0 c e l t [t, u]) (fun y => y = .brk (what, at_, c, e, l, t)) := by
  refine forS_wp s_tablefinderlaw03_TableSteps_l1_FB ([t, u] : List G_api_Table) (by simp) (fun k (_ : Unit) => (what, at_, rows, columns, few, 2, k, c, e, l, t, [t, u])) (fun _ _ => True) () trivial (fun rec k _ hlt _ ih => ?_) (fun rec _ _ => ?_)
  · have h2 : k < 2 := hlt
    have hx : OD ([t, u] : List G_api_Table)[k] := by
      have : ∀ y ∈ ([t, u] : List G_api_Table), OD y := fun y hy => by
        simp only [List.mem_cons, List.not_mem_nil, or_false] at hy
        rcases hy with rfl | rfl
        · exact h
        · exact hu
      exact this _ (List.getElem_mem hlt)
    unfold s_tablefinderlaw03_TableSteps_l1_B s_tablefinderlaw03_TableSteps_l1_b
    dsimp only
    rw [wp_bif]
    refine ⟨fun _ => ?_, fun h => by simp only [decide_eq_false_iff_not] at h; omega⟩
    rw [wp_chk, Int.toNat_natCast, List.getElem?_eq_getElem hlt, wp_bind, wp_some]
    refine ⟨inR_nat hlt, ?_⟩
    generalize ([t, u] : List G_api_Table)[k] = x at hx ⊢
    obtain ⟨v1, v2⟩ := hx.v
    rw [v1, wp_bind, wp_some, v2, wp_bind, wp_some, beq_self_eq_true, Bool.not_true, cond_false, rows_eq, wp_bind, wp_some, rrows_eq, wp_bind, wp_some, bne_self_eq_false]
    unfold s_tablefinderlaw03_TableSteps_j2
    rw [cond_false, wp_bind]
    refine wp_mono (steps_l2 hx what at_ rows columns few 2 (k : Int) c e l t [t, u] hr hc hf) ?_
    rintro y rfl
    dsimp only
    unfold s_tablefinderlaw03_TableSteps_k4
    obtain ⟨u1, f1, p1, p2, su⟩ := sort_both hx
    rw [p1, wp_bind, wp_some]
    dsimp only
    rw [p2, wp_bind, wp_some]
    dsimp only
    obtain ⟨q, hq, hqb⟩ := mmod_wp what (m := 8) (by omega)
    rw [hq, wp_bind, wp_some, wp_chk]
    refine ⟨inK_i64 (by omega), ?_⟩
    obtain ⟨r1, g1, q1, q2, sr⟩ := row_both hx (q - 1)
    rw [q1, wp_bind, wp_some]
    dsimp only
    rw [wp_bind, wp_some, wp_chk]
    refine ⟨inK_i64 (by omega), ?_⟩
    rw [q2, wp_bind, wp_some]
    dsimp only
    rw [bne_self_eq_false, cond_false, bne_self_eq_false, cond_false, same_self su, wp_bind, wp_some, Bool.not_true, cond_false, sameCells_eq _ _ (show r1.length ≤ 1000000 by omega), decide_eq_true rfl, wp_bind, wp_some, Bool.not_true, cond_false]
    obtain ⟨b1, s1, s2⟩ := same_both (t := t) hx
    obtain ⟨b2, s3, s4⟩ := sameRows_both hx h
    rw [s1, wp_bind, wp_some, s2, wp_bind, wp_some, beq_self_eq_true, Bool.not_true, cond_false, s3, wp_bind, wp_some, s4, wp_bind, wp_some]
    unfold s_tablefinderlaw03_TableSteps_j5
    rw [beq_self_eq_true, Bool.not_true, cond_false, wp_chk]
    exact ⟨inK_i64 (by omega), ih () trivial⟩
  · unfold s_tablefinderlaw03_TableSteps_l1_B s_tablefinderlaw03_TableSteps_l1_b
    dsimp only
    rw [wp_bif]
    exact ⟨fun h => by have := of_decide_eq_true h; simp at this, fun _ => by rw [wp_some]⟩

theorem steps_l3 {l : List G_api_Table} (h : ListM 4 6 4 100 l) (what at_ : Int) (c e : G_api_Cell) :
    wp (s_tablefinderlaw03_TableSteps_l3 big what at_ l ((refsS l).length : Int) 0 c e (refsS l)) (fun y => y = .brk (at_, l, c, e)) := by
  have hrl : (refsS l).length ≤ 100 := by
    have h1 := refsS_len h l (fun t ht => ht)
    have h2 := h.len
    have h3 : l.length * 4 ≤ 4 * 4 := Nat.mul_le_mul_right _ h2
    omega
  refine forS_wp s_tablefinderlaw03_TableSteps_l3_FB (refsS l) (by omega) (fun k (_ : Unit) => (what, at_, l, ((refsS l).length : Int), k, c, e, refsS l)) (fun _ _ => True) () trivial (fun rec k _ hlt _ ih => ?_) (fun rec _ _ => ?_)
  · unfold s_tablefinderlaw03_TableSteps_l3_B s_tablefinderlaw03_TableSteps_l3_b
    dsimp only
    rw [wp_bif]
    refine ⟨fun _ => ?_, fun h => by simp only [decide_eq_false_iff_not] at h; omega⟩
    rw [wp_chk, Int.toNat_natCast, List.getElem?_eq_getElem hlt, wp_bind, wp_some]
    refine ⟨inR_nat hlt, ?_⟩
    obtain ⟨a1, ok1, g1, g2, ga⟩ := get_both h (by omega) (by omega) (by omega) (refsS l)[k]
    rw [g1, wp_bind, wp_some]
    dsimp only
    rw [g2, wp_bind, wp_some]
    dsimp only
    rw [wp_bind]
    refine wp_mono (mmod_wp at_ (by omega)) fun q hq => ?_
    rw [wp_bind]
    refine wp_mono (mmod_wp what (by omega)) fun q1 hq1 => ?_
    rw [wp_chk]
    refine ⟨inK_i64 (by omega), ?_⟩
    obtain ⟨a2, ok2, g3, g4, _⟩ := get_both h (by omega) (by omega) (by omega) (G_api_Ref.mk q (q1 - 1))
    obtain ⟨b, l1, l2⟩ := less_both (refsS l)[k] (G_api_Ref.mk q (q1 - 1))
    have re : ((refsS l)[k].Table == (refsS l)[k].Table && ((refsS l)[k].Column == (refsS l)[k].Column && true)) = true := by rw [beq_self_eq_true, beq_self_eq_true]; rfl
    rw [g3, wp_bind, wp_some]
    dsimp only
    rw [g4, wp_bind, wp_some]
    dsimp only
    rw [refs_eq h (by omega) (by omega), wp_bind, wp_some, wp_chk, List.getElem?_eq_getElem hlt, wp_bind, wp_some, re, Bool.not_true, cond_false, beq_self_eq_true, Bool.not_true, cond_false, sameCells_eq _ _ (by omega), decide_eq_true rfl, wp_bind, wp_some, Bool.not_true, cond_false, beq_self_eq_true, Bool.not_true, cond_false, l1, wp_bind, wp_some, l2, wp_bind, wp_some]
    refine ⟨inR_nat hlt, ?_⟩
    unfold s_tablefinderlaw03_TableSteps_j8
    rw [beq_self_eq_true, Bool.not_true, cond_false, wp_chk]
    exact ⟨inK_i64 (by omega), ih () trivial⟩
  · unfold s_tablefinderlaw03_TableSteps_l3_B s_tablefinderlaw03_TableSteps_l3_b
    dsimp only
    rw [wp_bif]
    exact ⟨fun h => by simp only [decide_eq_true_eq] at h; omega, fun _ => by rw [wp_some]⟩

theorem okL_of {l : List G_api_Table} (h : ∀ t ∈ l, OD t) : OkL l := fun t ht => by
  have := h t ht
  have h1 := this.cols
  exact ⟨this.txt, by omega, fun c hc => by have := (this.col c hc).2.1; omega⟩
theorem sane03s : s_tablefinderlaw03_sane = some true := by kernel_rfl

theorem tableSteps_law (s : List Int) (what at_ : Int) (rows columns : List Int) (c e : G_api_Cell) (hs : ∀ x ∈ s, 0 ≤ x ∧ x ≤ 255) (hat : -9223372036854775808 ≤ at_ ∧ at_ ≤ 9223372036854775807) (hc : c.Text.length ≤ 9223372036854775807) :
    s_tablefinderlaw03_TableSteps s what at_ rows columns c e = some true := by
  refine eq_of_wp ?_
  unfold s_tablefinderlaw03_TableSteps
  rw [sane03s, wp_bind, wp_some, Bool.not_true, cond_false]
  have main : rows.length ≤ 20 → columns.length ≤ 20 → wp (s_tablefinderlaw03_TableSteps_j1 s what at_ rows columns false c e) (fun x => x = true) := fun hr hcl => by
    unfold s_tablefinderlaw03_TableSteps_j1
    rw [cond_false, wp_bind]
    refine wp_mono (new_wp hs) fun d hd => ?_
    rw [wp_bind]
    refine wp_mono (mlist_wp hd (k := 4) (m := 4) (r := 6) (by omega) (by omega) (by omega)) ?_
    rintro ⟨l, d1⟩ ⟨hl, hd1⟩
    dsimp only at hl hd1 ⊢
    rw [wp_bind]
    refine wp_mono (pick_wp hd1 (by omega)) ?_
    rintro ⟨id, d2⟩ ⟨hid, hd2⟩
    dsimp only at hid hd2 ⊢
    rw [wp_bind]
    refine wp_mono (mtable_wp hd2 id (m := 4) (r := 6) (by omega) (by omega)) ?_
    rintro ⟨t, d3⟩ ⟨⟨ht, htid⟩, hd3⟩
    dsimp only at ht htid hd3 ⊢
    rw [wp_bind]
    refine wp_mono (mmod_wp at_ (by omega)) fun q1 hq1 => ?_
    rw [wp_bind]
    refine wp_mono (mmod_wp what (by omega)) fun q2 hq2 => ?_
    rw [wp_bind]
    refine wp_mono (mmod_wp at_ (by omega)) fun q3 hq3 => ?_
    obtain ⟨u, hu, hou⟩ := odd_wp ht what at_ hat
    have hot := od_mill ht (by omega) (by omega)
    rw [hu, wp_bind, wp_some, wp_bind]
    refine wp_mono (steps_l1 hot hou what at_ rows columns [q1, q2, q3] c e l hr hcl (by simp)) ?_
    rintro y rfl
    dsimp only
    unfold s_tablefinderlaw03_TableSteps_k6
    have hll := hl.len
    have hol : ∀ x ∈ l, OD x := fun x hx => od_mill (hl.tabs x hx).1 (by omega) (by omega)
    have ok1 := okL_of hol
    have ok2 : OkL (([] ++ l) ++ [u]) := okL_of fun x hx => by
      rw [List.nil_append] at hx
      rcases List.mem_append.1 hx with hx | hx
      · exact hol x hx
      · rw [List.mem_singleton.1 hx]; exact hou
    rw [wp_chk, hu, wp_bind, wp_some, wp_chk, tvl_eq ok1 (by omega), wp_bind, wp_some, rvl_eq ok1 (by omega), wp_bind, wp_some, beq_self_eq_true, Bool.not_true, cond_false, tvl_eq ok2 (by simp; omega), wp_bind, wp_some, rvl_eq ok2 (by simp; omega), wp_bind, wp_some, beq_self_eq_true, Bool.not_true, cond_false, refs_eq hl (by omega) (by omega), wp_bind, wp_some, rrefs_eq, refs_eq hl (by omega) (by omega), wp_bind, wp_some, bne_self_eq_false]
    refine ⟨room_ok (by simp; omega), room_ok (by simp; omega), ?_⟩
    unfold s_tablefinderlaw03_TableSteps_j7
    rw [cond_false, rrefs_eq, refs_eq hl (by omega) (by omega), wp_bind, wp_some, wp_bind]
    refine wp_mono (steps_l3 hl what at_ c e) ?_
    rintro y rfl
    dsimp only
    unfold s_tablefinderlaw03_TableSteps_k9
    obtain ⟨q9, h9, _⟩ := mmod_wp at_ (m := 9) (by omega)
    obtain ⟨x, ok, f1, f2, sx⟩ := find_both hl (by omega) (by omega) (by omega) q9
    rw [h9, wp_bind, wp_some, f1, wp_bind, wp_some]
    dsimp only
    rw [wp_bind, wp_some, f2, wp_bind, wp_some]
    dsimp only
    rw [beq_self_eq_true, cond_true, same_self sx, wp_bind, wp_some, cond_true, compare_eq, wp_bind, wp_some, rcompare_eq, wp_bind, wp_some, beq_self_eq_true, cond_true, cell_eq, wp_bind, wp_some, rcell_eq c hc, wp_bind, wp_some, beq_self_eq_true]
    unfold s_tablefinderlaw03_TableSteps_j10
    rw [wp_some]
  have skip : wp (s_tablefinderlaw03_TableSteps_j1 s what at_ rows columns true c e) (fun x => x = true) := by
    unfold s_tablefinderlaw03_TableSteps_j1
    rw [cond_true, wp_some]
  rw [wp_bif]
  refine ⟨fun _ => skip, fun h1 => ?_⟩
  have h1 := of_decide_eq_false h1
  by_cases h2 : (columns.length : Int) > 20
  · rw [decide_eq_true h2]; exact skip
  · rw [decide_eq_false h2]; exact main (by omega) (by omega)
end Go.Proofs

/- The law RelationCounts. -/
import Derived.Test.YtjdddnbddnhilaaDoorRcRI
set_option linter.unusedVariables false
set_option linter.unusedSimpArgs false
set_option linter.unusedSectionVars false
namespace Go.Proofs
open Go Eng

/-- How often a cell's value is in a column. -/
def cntV (c : G_api_Cell) (B : List G_api_Cell) : Nat := if c.Null then 0 else cntC c.Text B

theorem counts_inner (y lost mostB : Int) (A : List G_api_Cell) (t90 t91 : Int) (B : List G_api_Cell) (hB : B.length ≤ 1000000) (b : G_api_Table) (r : G_api_Relation) (vals : List (Str × Bool)) (c : G_api_Cell) :
    wp (s_tablefinderlaw29_RelationCounts_l2 big y lost mostB 0 A t90 t91 B (B.length : Int) 0 b r vals c) (fun x => x = (y, lost, mostB, (cntV c B : Int), A, t90, t91, b, r, vals, c)) := by
  refine forS_wp s_tablefinderlaw29_RelationCounts_l2_FB B (by omega) (fun k (n : Int) => (y, lost, mostB, n, A, t90, t91, B, (B.length : Int), k, b, r, vals, c)) (fun k n => n = (cntV c (B.take k) : Int)) 0 (by unfold cntV cntC; split <;> simp) (fun rec k n hlt hn ih => ?_) (fun rec n hn => ?_)
  · subst hn
    unfold s_tablefinderlaw29_RelationCounts_l2_B s_tablefinderlaw29_RelationCounts_l2_b s_tablefinderlaw29_RelationCounts_j3 s_tablefinderlaw29_RelationCounts_j4
    dsimp only
    have hle : cntV c (B.take k) ≤ k := by
      unfold cntV
      have := cntC_le c.Text (B.take k)
      rw [List.length_take] at this
      split <;> omega
    have hs : cntV c (B.take (k + 1)) = cntV c (B.take k) + (if c.Null = false ∧ B[k].Null = false ∧ c.Text = B[k].Text then 1 else 0) := by
      unfold cntV
      rw [List.take_succ_eq_append_getElem hlt, cntC_append, cntC_one]
      cases c.Null <;> simp
    rw [wp_bif]
    refine ⟨fun _ => ?_, fun h => by simp only [decide_eq_false_iff_not] at h; omega⟩
    rw [wp_bind, idx_nat hlt, wp_some]
    have stay : cntV c (B.take (k + 1)) = cntV c (B.take k) → wp (chk (inK .i64 ((k : Int) + 1)) (rec (y, lost, mostB, (cntV c (B.take k) : Int), A, t90, t91, B, (B.length : Int), (k : Int) + 1, b, r, vals, c))) (fun x => x = (y, lost, mostB, (cntV c B : Int), A, t90, t91, b, r, vals, c)) := fun he => by
      rw [wp_chk]
      exact ⟨inK_i64 (by omega), ih _ (by rw [he])⟩
    rw [wp_bif]
    refine ⟨fun h1 => ?_, fun h1 => ?_⟩
    · simp only [Bool.not_eq_true'] at h1
      rw [wp_bif]
      refine ⟨fun h2 => ?_, fun h2 => ?_⟩
      · simp only [Bool.not_eq_true'] at h2
        rw [wp_bif]
        refine ⟨fun h3 => ?_, fun h3 => ?_⟩
        · simp only [beq_iff_eq] at h3
          rw [if_pos ⟨h1, h2, h3⟩] at hs
          rw [wp_chk, wp_chk]
          exact ⟨inK_i64 (by omega), inK_i64 (by omega), ih _ (by rw [hs]; rfl)⟩
        · simp only [beq_eq_false_iff_ne] at h3
          exact stay (by rw [hs, if_neg (fun h => h3 h.2.2)]; rfl)
      · simp only [Bool.not_eq_false'] at h2
        rw [cond_false]
        exact stay (by rw [hs, if_neg (fun h => by simp [h2] at h)]; rfl)
    · simp only [Bool.not_eq_false'] at h1
      rw [cond_false]
      exact stay (by rw [hs, if_neg (fun h => by simp [h1] at h)]; rfl)
  · subst hn
    rw [List.take_length]
    unfold s_tablefinderlaw29_RelationCounts_l2_B s_tablefinderlaw29_RelationCounts_l2_b
    dsimp only
    rw [wp_bif]
    exact ⟨fun h => by simp only [decide_eq_true_eq] at h; omega, fun _ => by rw [wp_some]⟩

def valsS (A : List G_api_Cell) (Y : Cnt) : List (Str × Bool) := (((cntL A []).map (·.1)).filter fun s => decide (getC Y s > 0)).map fun x => (x, true)


theorem valsS_snoc (l : List G_api_Cell) (c : G_api_Cell) (Y : Cnt) : valsS (l ++ [c]) Y = if c.Null = false ∧ getC Y c.Text > 0 then setB (k := .str) (v := .bool) (car := carU) (valsS l Y) c.Text true else valsS l Y := by
  unfold valsS
  rw [cntL_snoc]
  cases hn : c.Null with
  | true => simp
  | false =>
    rw [if_neg (by simp), keys_addC, set_true]
    by_cases hg : getC Y c.Text > 0
    · by_cases hm : c.Text ∈ (cntL l []).map (·.1)
      · have h1 : c.Text ∈ ((cntL l []).map (·.1)).filter fun s => decide (getC Y s > 0) := List.mem_filter.2 ⟨hm, decide_eq_true hg⟩
        simp only [hm, h1, hg, and_self, if_true]
      · have h1 : ¬ c.Text ∈ ((cntL l []).map (·.1)).filter fun s => decide (getC Y s > 0) := fun h => hm (List.mem_filter.1 h).1
        simp only [hm, h1, hg, and_self, if_true, if_false, List.filter_append]
        simp [hg]
    · by_cases hm : c.Text ∈ (cntL l []).map (·.1)
      · simp only [hm, hg, and_false, if_true, if_false]
      · simp only [hm, hg, and_false, if_false, List.filter_append]
        simp [hg]

theorem counts_outer (y : Int) (A B : List G_api_Cell) (hA : A.length ≤ 1000000) (hB : B.length ≤ 1000000) (b : G_api_Table) (cb : G_api_Column) (hy : idx b.Columns y = some cb) (hcb : cb.Cells = B) (r : G_api_Relation) :
    wp (s_tablefinderlaw29_RelationCounts_l1 big y 0 0 A (A.length : Int) 0 b r []) (fun x => x = ((A.length : Int) - cntP (cntL B []) A, (A.map fun c => (cntV c B : Int)).foldl maxF 0, r, valsS A (cntL B []))) := by
  subst hcb
  refine forS_wp s_tablefinderlaw29_RelationCounts_l1_FB A (by omega) (fun k (s : Int × Int × List (Str × Bool)) => (y, s.1, s.2.1, A, (A.length : Int), k, b, r, s.2.2))
    (fun k s => s = ((k : Int) - cntP (cntL cb.Cells []) (A.take k), ((A.take k).map fun c => (cntV c cb.Cells : Int)).foldl maxF 0, valsS (A.take k) (cntL cb.Cells []))) (0, 0, []) rfl (fun rec k s hlt hs ih => ?_) (fun rec s hs => ?_)
  · subst hs
    unfold s_tablefinderlaw29_RelationCounts_l1_B s_tablefinderlaw29_RelationCounts_l1_b
    dsimp only
    rw [wp_bif]
    refine ⟨fun _ => ?_, fun h => by simp only [decide_eq_false_iff_not] at h; omega⟩
    rw [wp_bind, idx_nat hlt, wp_some, hy, wp_bind, wp_some, wp_bind]
    refine wp_mono (counts_inner y _ _ A _ _ cb.Cells hB b r _ A[k]) ?_
    rintro x rfl
    dsimp only
    unfold s_tablefinderlaw29_RelationCounts_k5 s_tablefinderlaw29_RelationCounts_j6
    have hp := cntP_le (cntL cb.Cells []) (A.take k)
    rw [List.length_take] at hp
    have hP : cntP (cntL cb.Cells []) (A.take (k + 1)) = cntP (cntL cb.Cells []) (A.take k) + (if A[k].Null = false ∧ getC (cntL cb.Cells []) A[k].Text > 0 then 1 else 0) := by
      rw [List.take_succ_eq_append_getElem hlt, cntP_append]
      rw [cntP_one]
    have hM : ((A.take (k + 1)).map fun c => (cntV c cb.Cells : Int)).foldl maxF 0 = maxF (((A.take k).map fun c => (cntV c cb.Cells : Int)).foldl maxF 0) (cntV A[k] cb.Cells) := by
      rw [List.take_succ_eq_append_getElem hlt, List.map_append, List.foldl_append]; rfl
    have hV := valsS_snoc (A.take k) A[k] (cntL cb.Cells [])
    rw [← List.take_succ_eq_append_getElem hlt] at hV
    have hc : (cntV A[k] cb.Cells : Int) = if A[k].Null then 0 else getC (cntL cb.Cells []) A[k].Text := by
      unfold cntV
      rw [getC_cnt]
      split <;> rfl
    rw [wp_bif]
    refine ⟨fun h0 => ?_, fun h0 => ?_⟩
    · simp only [beq_iff_eq] at h0
      have hno : ¬ (A[k].Null = false ∧ getC (cntL cb.Cells []) A[k].Text > 0) := fun hc' => by
        rw [hc, hc'.1] at h0
        have := hc'.2
        simp only [Bool.false_eq_true, if_false] at h0
        omega
      rw [if_neg hno] at hP hV
      rw [wp_chk, wp_chk]
      refine ⟨inK_i64 (by omega), inK_i64 (by omega), ih (_, _, _) ?_⟩
      rw [hP, hM, hV]
      refine Prod.ext ?_ rfl
      dsimp only; omega
    · simp only [beq_eq_false_iff_ne] at h0
      have hyes : A[k].Null = false ∧ getC (cntL cb.Cells []) A[k].Text > 0 := by
        cases hn : A[k].Null with
        | true => rw [hc, hn] at h0; simp at h0
        | false => rw [hc, hn] at h0; simp only [Bool.false_eq_true, if_false] at h0; exact ⟨rfl, by have := getC_cnt cb.Cells A[k].Text; omega⟩
      rw [if_pos hyes] at hP hV
      rw [wp_chk]
      refine ⟨inK_i64 (by omega), ih (_, _, _) ?_⟩
      rw [hP, hM, hV]
      refine Prod.ext ?_ rfl
      dsimp only; omega
  · subst hs
    rw [List.take_length]
    unfold s_tablefinderlaw29_RelationCounts_l1_B s_tablefinderlaw29_RelationCounts_l1_b
    dsimp only
    rw [wp_bif]
    exact ⟨fun h => by simp only [decide_eq_true_eq] at h; omega, fun _ => by rw [wp_some]⟩

theorem mostS_eq (A B : List G_api_Cell) : mostS (cntL B []) (cntL A []) = (A.map fun c => (cntV c B : Int)).foldl maxF 0 := by
  apply Int.le_antisymm
  · refine maxF_le (fun v hv => ?_) 0 (le_maxF 0)
    obtain ⟨q, hq, rfl⟩ := List.mem_map.1 hv
    obtain ⟨hqB, hqA⟩ := List.mem_filter.1 hq
    have hpos := of_decide_eq_true hqA
    rw [getC_cnt] at hpos
    obtain ⟨c, hc, hn, ht⟩ := cntC_pos.1 (show 0 < cntC q.1 A by omega)
    have hv2 := getC_mem (cok B).nodup (k := q.1) (v := q.2) hqB
    refine mem_le_maxF (List.mem_map.2 ⟨c, hc, ?_⟩) 0
    unfold cntV
    rw [hn, ht]
    simp only [Bool.false_eq_true, if_false]
    rw [← getC_cnt, hv2]
  · refine maxF_le (fun v hv => ?_) 0 (le_maxF 0)
    obtain ⟨c, hc, rfl⟩ := List.mem_map.1 hv
    by_cases h0 : cntV c B = 0
    · rw [h0]; exact le_maxF 0
    · have hn : c.Null = false := by
        cases hn : c.Null with
        | false => rfl
        | true => exact absurd (by unfold cntV; rw [hn]; rfl) h0
      have e : (cntV c B : Int) = getC (cntL B []) c.Text := by unfold cntV; rw [hn, getC_cnt]; rfl
      have hg : 0 < getC (cntL B []) c.Text := by omega
      have hA : 0 < getC (cntL A []) c.Text := by
        rw [getC_cnt]
        have := cntC_pos.2 ⟨c, hc, hn, rfl⟩
        omega
      rw [e]
      exact mem_le_maxF (List.mem_map.2 ⟨_, List.mem_filter.2 ⟨getC_pos_mem hg, decide_eq_true hA⟩, rfl⟩) 0


theorem relationCounts_law (t : List Int) (i j : Int) : s_tablefinderlaw29_RelationCounts t i j = some true := by
  refine eq_of_wp ?_
  unfold s_tablefinderlaw29_RelationCounts s_tablefinderkit_Light s_tablefinderkit_Roll
  rw [wp_bind, wp_some]
  by_cases hl : (t.length : Int) ≤ 500
  · rw [decide_eq_true hl, Bool.not_true, cond_false, wp_bind, wp_some, wp_bind]
    refine wp_mono (table_wp (d := ⟨t, 0⟩) ⟨by simp, by simp, by simp only; omega⟩ 1) fun ⟨a, d1⟩ ⟨⟨ha, ida⟩, hd1⟩ => ?_
    dsimp only at ha ida hd1 ⊢
    rw [wp_bind]
    refine wp_mono (table_wp hd1 2) fun ⟨b, d2⟩ ⟨⟨hb, idb⟩, hd2⟩ => ?_
    dsimp only at hb idb hd2 ⊢
    have j1 : wp (s_tablefinderlaw29_RelationCounts_j1 i j true a b) (· = true) := by
      unfold s_tablefinderlaw29_RelationCounts_j1
      rw [cond_true]; exact awake29_wp rfl
    rw [wp_bif]
    refine ⟨fun _ => j1, fun h0 => ?_⟩
    simp only [beq_eq_false_iff_ne] at h0
    cases hb0 : ((b.Columns.length : Int) == 0) with
    | true => exact j1
    | false =>
      simp only [beq_eq_false_iff_ne] at hb0
      unfold s_tablefinderlaw29_RelationCounts_j1
      rw [cond_false, wp_bind]
      have la := ha.2.1
      have lb := hb.2.1
      refine wp_mono (mod_wp i (by omega)) fun x hx => ?_
      rw [wp_bind]
      refine wp_mono (mod_wp j (by omega)) fun y hy => ?_
      have sa := sizeOk_of ha
      have sb := sizeOk_of hb
      rw [of_eq _ _ _ _ sa sb, of_eq _ _ _ _ sb sa]
      obtain ⟨ca, hca⟩ : ∃ ca, a.Columns[x.toNat]? = some ca := ⟨_, List.getElem?_eq_getElem (by omega)⟩
      obtain ⟨cb, hcb⟩ : ∃ cb, b.Columns[y.toNat]? = some cb := ⟨_, List.getElem?_eq_getElem (by omega)⟩
      have va := tableS_of ha (by omega)
      have vb := tableS_of hb (by omega)
      rw [relS_val va vb hx.1 hy.1 hca hcb, relS_val vb va hy.1 hx.1 hcb hca]
      have hcA : ca.Cells.length ≤ 1000000 := sa.2 ca (List.mem_of_getElem? hca)
      have hcB : cb.Cells.length ≤ 1000000 := sb.2 cb (List.mem_of_getElem? hcb)
      have hra : rowsS a = ca.Cells.length := by
        obtain ⟨_, _, r, hr, hc⟩ := ha
        rw [rowsS_in hc (List.ne_nil_of_mem (List.mem_of_getElem? hca)), (hc ca (List.mem_of_getElem? hca)).2.1]
      rw [wp_bind, wp_some]
      dsimp only
      rw [wp_bind, wp_some]
      dsimp only
      rw [show ((0 : Int) != 0) = false from rfl, cond_false, cond_false]
      unfold s_relation_Turn
      rw [wp_bind, wp_some]
      have ht := relV_turn ⟨a.ID, x⟩ ⟨b.ID, y⟩ ca.Cells cb.Cells (rowsS a) (rowsS b)
      unfold turnR at ht
      rw [ht]
      unfold s_tablefinderlaw29_RelationCounts_j2
      rw [wp_bif]
      refine ⟨fun h => by simp at h, fun _ => ?_⟩
      have ex : idx a.Columns x = some ca := by unfold idx; rw [if_pos hx.1, hca]
      have ey : idx b.Columns y = some cb := by unfold idx; rw [if_pos hy.1, hcb]
      rw [ex, wp_bind, wp_some, wp_bind]
      refine wp_mono (counts_outer y ca.Cells cb.Cells hcA hcB b cb ey rfl _) ?_
      rintro z rfl
      dsimp only
      unfold s_tablefinderlaw29_RelationCounts_k7 s_tablefinderlaw29_RelationCounts_j8
      have hlen : ((valsS ca.Cells (cntL cb.Cells [])).length : Int) = (relV ⟨a.ID, x⟩ ⟨b.ID, y⟩ ca.Cells cb.Cells (rowsS a) (rowsS b)).Common := by
        unfold valsS relV
        rw [List.length_map, ← hits_keys, List.length_map]
      have hlb : (valsS ca.Cells (cntL cb.Cells [])).length ≤ 1000000 := by
        unfold valsS
        rw [List.length_map, ← hits_keys, List.length_map]
        have := hits_bnd (cok ca.Cells) (cntL cb.Cells [])
        omega
      obtain ⟨q, hq, hq0⟩ := kind0 (relV ⟨a.ID, x⟩ ⟨b.ID, y⟩ ca.Cells cb.Cells (rowsS a) (rowsS b))
      have e1 : ((ca.Cells.length : Int) - cntP (cntL cb.Cells []) ca.Cells == (relV ⟨a.ID, x⟩ ⟨b.ID, y⟩ ca.Cells cb.Cells (rowsS a) (rowsS b)).LostA) = true := by
        rw [beq_iff_eq]; unfold relV; rw [hra]
      have e2 : ((ca.Cells.map fun c => (cntV c cb.Cells : Int)).foldl maxF 0 == (relV ⟨a.ID, x⟩ ⟨b.ID, y⟩ ca.Cells cb.Cells (rowsS a) (rowsS b)).MostB) = true := by
        rw [beq_iff_eq]; exact (mostS_eq _ _).symm
      rw [e1, e2, cond_true, cond_true, wp_chk, hlen, hq, beq_self_eq_true, cond_true, wp_bind, wp_some, hq0, beq_self_eq_true, cond_true]
      refine ⟨decide_eq_true ?_, awake29_wp rfl⟩
      unfold maxInt; omega
  · rw [decide_eq_false hl, Bool.not_false, cond_true]; exact awake29_wp rfl

end Go.Proofs

/- The law RelationParts. -/
import Derived.Test.YtjdddnbddnhilaaDoorRpRK0
set_option linter.unusedVariables false
set_option linter.unusedSimpArgs false
set_option linter.unusedSectionVars false
namespace Go.Proofs
open Go Eng

theorem hits_self {n : Nat} {m : Cnt} (h : CntOk n m) : hits m m = m := by
  unfold hits
  refine List.filter_eq_self.2 fun q hq => decide_eq_true ?_
  have := getC_mem h.nodup (k := q.1) (v := q.2) hq
  have := h.pos q hq
  omega

def mostV (m : Cnt) : Int := (m.map (·.2)).foldl maxF 0

theorem fold_init : ∀ (l : List Int) (z a : Int), l.foldl maxF (maxF z a) = maxF (l.foldl maxF z) a
  | [], z, a => rfl
  | x :: l, z, a => by
    rw [List.foldl_cons, List.foldl_cons, maxF_comm, fold_init l (maxF z x) a]
theorem maxF_max {z a b : Int} (h : a ≤ b) : maxF (maxF z a) b = maxF z b := by unfold maxF; (repeat' split) <;> omega

theorem most_addC : ∀ (m : Cnt) (s : Str) (z : Int), (m.map (·.1)).Nodup → ((addC m s).map (·.2)).foldl maxF z = maxF ((m.map (·.2)).foldl maxF z) (getC m s + 1)
  | [], s, z, _ => by rw [addC_nil]; simp [getC, lookB]
  | (k, v) :: m, s, z, hn => by
    rw [List.map_cons, List.nodup_cons] at hn
    rw [addC_cons _ _ _ _ hn.1, getC_cons]
    by_cases hs : s = k
    · subst hs
      rw [if_pos (by simp), if_pos (by simp)]
      simp only [List.map_cons, List.foldl_cons]
      rw [fold_init, fold_init, maxF_max (by omega)]
    · have e : (s == k) = false := by simpa using hs
      rw [e, if_neg (by simp), if_neg (by simp)]
      simp only [List.map_cons, List.foldl_cons]
      exact most_addC m s _ hn.2

theorem parts_loop (e : Int) (A : List G_api_Cell) (hA : A.length ≤ 1000000) (a : G_api_Table) (r : G_api_Relation) :
    wp (s_tablefinderlaw29_RelationParts_l1 big e 0 0 A (A.length : Int) 0 a r []) (fun x => x = (e, (A.length : Int) - (A.filter fun c => !c.Null).length, mostV (cntL A []), a, r, cntL A [])) := by
  refine forS_wp s_tablefinderlaw29_RelationParts_l1_FB A (by omega) (fun k (s : Int × Int × Cnt) => (e, s.1, s.2.1, A, (A.length : Int), k, a, r, s.2.2))
    (fun k s => s = ((k : Int) - ((A.take k).filter fun c => !c.Null).length, mostV (cntL (A.take k) []), cntL (A.take k) [])) (0, 0, []) rfl (fun rec k s hlt hs ih => ?_) (fun rec s hs => ?_)
  · subst hs
    unfold s_tablefinderlaw29_RelationParts_l1_B s_tablefinderlaw29_RelationParts_l1_b s_tablefinderlaw29_RelationParts_j1
    dsimp only
    rw [wp_bif]
    refine ⟨fun _ => ?_, fun h => by simp only [decide_eq_false_iff_not] at h; omega⟩
    rw [wp_bind, idx_nat hlt, wp_some]
    have hok := cok (A.take k)
    have hfl : ((A.take k).filter fun c => !c.Null).length ≤ k := Nat.le_trans (List.length_filter_le _ _) (by rw [List.length_take]; omega)
    have hsn := cntL_snoc (A.take k) A[k]
    have hfn : ((A.take k ++ [A[k]]).filter fun c => !c.Null) = (A.take k).filter (fun c => !c.Null) ++ [A[k]].filter (fun c => !c.Null) := List.filter_append ..
    rw [← List.take_succ_eq_append_getElem hlt] at hsn hfn
    rw [wp_bif]
    refine ⟨fun hn => ?_, fun hn => ?_⟩
    · rw [hn, if_pos rfl] at hsn
      rw [wp_chk, wp_chk]
      refine ⟨inK_i64 (by omega), inK_i64 (by omega), ih (_, _, _) ?_⟩
      rw [hsn, hfn, List.filter_cons_of_neg (by simp [hn]), List.filter_nil, List.append_nil]
      refine Prod.ext ?_ rfl
      dsimp only; omega
    · rw [hn, if_neg (by simp)] at hsn
      have hg := getC_le hok.pos A[k].Text
      have hsum := hok.sum
      rw [List.length_take] at hsum
      have hadd : setB (k := .str) (v := .int .i64) (car := carU) (cntL (A.take k) []) A[k].Text (((lookB (k := .str) (v := .int .i64) (car := carU) (cntL (A.take k) []) A[k].Text).getD (0 : Int)) + 1) = addC (cntL (A.take k) []) A[k].Text := rfl
      rw [hadd]
      have hgc : ((lookB (k := .str) (v := .int .i64) (car := carU) (addC (cntL (A.take k) []) A[k].Text) A[k].Text).getD (0 : Int)) = getC (cntL (A.take k) []) A[k].Text + 1 := by
        have := getC_addC (cntL (A.take k) []) A[k].Text A[k].Text hok.nodup
        rw [if_pos rfl] at this
        exact this
      rw [hgc, wp_chk, wp_chk]
      refine ⟨inK_i64 ?_, inK_i64 (by omega), ih (_, _, _) ?_⟩
      · show _ ≤ getC _ _ + 1 ∧ getC _ _ + 1 ≤ _
        omega
      · rw [hsn, hfn, List.filter_cons_of_pos (by simp [hn]), List.filter_nil, List.length_append]
        refine Prod.ext ?_ (Prod.ext ?_ rfl)
        · dsimp only [List.length_singleton]; omega
        · exact (most_addC _ _ 0 hok.nodup).symm
  · subst hs
    rw [List.take_length]
    unfold s_tablefinderlaw29_RelationParts_l1_B s_tablefinderlaw29_RelationParts_l1_b
    dsimp only
    rw [wp_bif]
    exact ⟨fun h => by simp only [decide_eq_true_eq] at h; omega, fun _ => by rw [wp_some]⟩

theorem cntP_self (A : List G_api_Cell) : cntP (cntL A []) A = (A.filter fun c => !c.Null).length := by
  unfold cntP
  congr 1
  refine List.filter_congr fun c hc => ?_
  cases hn : c.Null with
  | true => rfl
  | false =>
    have : getC (cntL A []) c.Text > 0 := by
      rw [getC_cnt]
      have := cntC_pos.2 ⟨c, hc, hn, rfl⟩
      omega
    rw [decide_eq_true this]; rfl

theorem most_pos {n : Nat} {m : Cnt} (h : CntOk n m) (h0 : m ≠ []) : 1 ≤ mostV m := by
  cases m with
  | nil => exact absurd rfl h0
  | cons q m =>
    have := h.pos q (by simp)
    exact Int.le_trans this (mem_le_maxF (List.mem_map.2 ⟨q, by simp, rfl⟩) 0)

theorem kind_self (r : G_api_Relation) (h : r.MostA = r.MostB) : s_relation_Kind r = some (if r.Common = 0 then 0 else if r.MostA ≤ 1 then 1 else 4) := by
  unfold s_relation_Kind s_relation_Kind_j1
  by_cases hc : r.Common = 0
  · rw [if_pos hc, hc]; rfl
  · have e : (r.Common == 0) = false := by simpa using hc
    rw [e, if_neg hc, h]
    by_cases h1 : r.MostB ≤ 1
    · rw [decide_eq_true h1, if_pos h1]; rfl
    · rw [decide_eq_false h1, if_neg h1]; rfl

theorem relationParts_law (t : List Int) (i : Int) : s_tablefinderlaw29_RelationParts t i = some true := by
  refine eq_of_wp ?_
  unfold s_tablefinderlaw29_RelationParts s_tablefinderkit_Light s_tablefinderkit_Roll
  rw [wp_bind, wp_some]
  by_cases hl : (t.length : Int) ≤ 500
  · rw [decide_eq_true hl, Bool.not_true, cond_false, wp_bind, wp_some, wp_bind]
    refine wp_mono (table_wp (d := ⟨t, 0⟩) ⟨by simp, by simp, by simp only; omega⟩ 1) fun ⟨a, d1⟩ ⟨⟨ha, ida⟩, hd1⟩ => ?_
    dsimp only at ha ida hd1 ⊢
    rw [wp_bif]
    refine ⟨fun _ => awake29_wp rfl, fun h0 => ?_⟩
    simp only [beq_eq_false_iff_ne] at h0
    have la := ha.2.1
    rw [wp_bind]
    refine wp_mono (mod_wp i (by omega)) fun x hx => ?_
    have sa := sizeOk_of ha
    obtain ⟨ca, hca⟩ : ∃ ca, a.Columns[x.toNat]? = some ca := ⟨_, List.getElem?_eq_getElem (by omega)⟩
    have va := tableS_of ha (by omega)
    have hcm := List.mem_of_getElem? hca
    rw [of_eq _ _ _ _ sa sa, relS_val va va hx.1 hx.1 hca hca]
    have hlen : ca.Cells.length ≤ 6 ∧ rowsS a = ca.Cells.length := by
      obtain ⟨_, _, r, hr, hc⟩ := ha
      have := (hc ca hcm).2.1
      exact ⟨by omega, by rw [rowsS_in hc (List.ne_nil_of_mem hcm), this]⟩
    have ex : idx a.Columns x = some ca := by unfold idx; rw [if_pos hx.1, hca]
    rw [wp_bind, wp_some]
    dsimp only
    rw [ex, wp_bind, wp_some, wp_bind]
    refine wp_mono (parts_loop 0 ca.Cells (by omega) a _) ?_
    rintro z rfl
    dsimp only
    have hok := cok ca.Cells
    have hXl := cnt_len hok
    have hXs := hok.sum
    have hr : relV ⟨a.ID, x⟩ ⟨a.ID, x⟩ ca.Cells ca.Cells (rowsS a) (rowsS a) = ⟨⟨a.ID, x⟩, ⟨a.ID, x⟩, ((cntL ca.Cells []).length : Int), 0, 0, mostV (cntL ca.Cells []), mostV (cntL ca.Cells []), (ca.Cells.length : Int) - (ca.Cells.filter fun c => !c.Null).length, (ca.Cells.length : Int) - (ca.Cells.filter fun c => !c.Null).length⟩ := by
      unfold relV mostS mostV
      simp only [hits_self hok, cntP_self, hlen.2, Int.sub_self]
    rw [hr]
    have hm : (cntL ca.Cells []).length ≤ maxInt := by unfold maxInt; omega
    unfold s_tablefinderlaw29_RelationParts_k2
    rw [show ((0 : Int) != 0) = false from rfl, cond_false, wp_chk]
    refine ⟨decide_eq_true hm, ?_⟩
    simp only [bne_self_eq_false]
    rw [cond_false, cond_false, cond_false, cond_false, cond_false, cond_false, cond_false, rrows_eq, wp_bind, wp_some]
    unfold s_tablefinderlaw29_RelationParts_j3
    rw [hlen.2, decide_eq_false (show ¬ ((ca.Cells.length : Int) - (ca.Cells.filter fun c => !c.Null).length > (ca.Cells.length : Int)) by omega), cond_false, wp_chk]
    refine ⟨decide_eq_true hm, ?_⟩
    have fin : ∀ want : Int, (if ((cntL ca.Cells []).length : Int) = 0 then (0 : Int) else if mostV (cntL ca.Cells []) ≤ 1 then 1 else 4) = want →
        wp (s_tablefinderlaw29_RelationParts_j4 want ⟨⟨a.ID, x⟩, ⟨a.ID, x⟩, ((cntL ca.Cells []).length : Int), 0, 0, mostV (cntL ca.Cells []), mostV (cntL ca.Cells []), (ca.Cells.length : Int) - (ca.Cells.filter fun c => !c.Null).length, (ca.Cells.length : Int) - (ca.Cells.filter fun c => !c.Null).length⟩ (cntL ca.Cells [])) (· = true) := fun want hw => by
      unfold s_tablefinderlaw29_RelationParts_j4 s_tablefinderlaw29_RelationParts_j5
      rw [kind_self _ rfl, wp_bind, wp_some]
      dsimp only
      rw [hw, beq_self_eq_true, cond_true]
      have hch : ∀ (o : Option Bool), chk (decide ((cntL ca.Cells []).length ≤ maxInt)) o = o := fun o => by rw [decide_eq_true hm]; rfl
      have hfs := full_same ⟨⟨a.ID, x⟩, ⟨a.ID, x⟩, ((cntL ca.Cells []).length : Int), 0, 0, mostV (cntL ca.Cells []), mostV (cntL ca.Cells []), (ca.Cells.length : Int) - (ca.Cells.filter fun c => !c.Null).length, (ca.Cells.length : Int) - (ca.Cells.filter fun c => !c.Null).length⟩ (by dsimp only; omega) rfl
      simp only [hch]
      refine sameC_wp hfs fun p q => ?_
      rw [cond_true]
      exact awake29_wp rfl
    rw [wp_bif]
    refine ⟨fun hz => fin 0 ?_, fun hz => ?_⟩
    · rw [if_pos (by simpa using hz)]
    · simp only [beq_eq_false_iff_ne] at hz
      have hne : cntL ca.Cells [] ≠ [] := fun h => hz (by rw [h]; rfl)
      have hp := most_pos hok hne
      rw [wp_bif]
      refine ⟨fun h1 => fin 1 ?_, fun h1 => fin 4 ?_⟩
      · simp only [beq_iff_eq] at h1
        rw [if_neg hz, if_pos (by omega)]
      · simp only [beq_eq_false_iff_ne] at h1
        rw [if_neg hz, if_neg (by omega)]
  · rw [decide_eq_false hl, Bool.not_false, cond_true]; exact awake29_wp rfl

end Go.Proofs

/- The law RelationRows. -/
import Derived.Test.YtjdddnbddnhilaaDoorRrRK0
set_option linter.unusedVariables false
set_option linter.unusedSimpArgs false
set_option linter.unusedSectionVars false
namespace Go.Proofs
open Go Eng

def newT : Str := [110, 101, 119]
theorem new_not : ¬ newT ∈ texts := by decide
theorem new_cell : cellS ⟨false, newT⟩ = true := by kernel_rfl
theorem null_cell : cellS ⟨true, []⟩ = true := by kernel_rfl
theorem empty_fine : fineS [] = true := by kernel_rfl

def oneT (id : Int) (cells : List G_api_Cell) : G_api_Table := ⟨id, [], [⟨[], cells⟩]⟩
theorem one_valid {id : Int} {cells : List G_api_Cell} (h : ∀ c ∈ cells, cellS c = true) (hid : 0 ≤ id ∧ id ≤ 1000) (hl : cells.length ≤ 100) : tableS (oneT id cells) = true := by
  unfold tableS oneT rowsS
  simp only
  rw [decide_eq_true hid.1, decide_eq_true (show id ≤ 1073741824 by omega), empty_fine, decide_eq_true (show (cells.length : Int) ≤ 4096 by omega)]
  simp only [List.length_singleton, List.all_cons, List.all_nil, colS, empty_fine, beq_self_eq_true, Bool.true_and, Bool.and_true]
  rw [List.all_eq_true.2 h]
  rfl
theorem one_size {id : Int} {cells : List G_api_Cell} (hl : cells.length ≤ 100) : SizeOk (oneT id cells) := by
  refine ⟨by simp [oneT], fun c hc => ?_⟩
  simp only [oneT, List.mem_singleton] at hc
  subst hc
  dsimp only; omega

theorem cnt_zero {s : Str} {l : List G_api_Cell} (h : ∀ c ∈ l, c.Text ≠ s) : cntC s l = 0 := by
  rcases Nat.eq_zero_or_pos (cntC s l) with h0 | h0
  · exact h0
  · obtain ⟨c, hc, _, ht⟩ := cntC_pos.1 h0
    exact absurd ht (h c hc)
theorem keys_text {l : List G_api_Cell} {s : Str} (h : s ∈ (cntL l []).map (·.1)) : ∃ c ∈ l, c.Null = false ∧ c.Text = s := by
  obtain ⟨q, hq, rfl⟩ := List.mem_map.1 h
  have h1 := getC_mem (cok l).nodup (k := q.1) (v := q.2) hq
  have h2 := (cok l).pos q hq
  rw [getC_cnt] at h1
  exact cntC_pos.1 (by omega)

section
variable {A B : List G_api_Cell}

def moreC (B : List G_api_Cell) : List G_api_Cell := B ++ [⟨false, newT⟩, ⟨true, []⟩]

theorem more_cnt (hB : ∀ c ∈ B, c.Text ≠ newT) : cntL (moreC B) [] = cntL B [] ++ [(newT, 1)] := by
  unfold moreC
  rw [cntL_append]
  show addC (cntL B []) newT = _
  have hn : ¬ newT ∈ (cntL B []).map (·.1) := fun h => by
    obtain ⟨c, hc, _, ht⟩ := keys_text h
    exact hB c hc ht
  have hg : getC (cntL B []) newT = 0 := by rw [getC_cnt, cnt_zero hB]; rfl
  unfold addC setB
  rw [any_key, decide_eq_false hn, if_neg (by simp), hg]
  rfl
theorem more_get (hB : ∀ c ∈ B, c.Text ≠ newT) {s : Str} (hs : s ≠ newT) : getC (cntL (moreC B) []) s = getC (cntL B []) s := by
  rw [getC_cnt, getC_cnt]
  unfold moreC
  rw [cntC_append]
  have : cntC s [⟨false, newT⟩, ⟨true, []⟩] = 0 := by
    rw [cntC_cons, cntC_one]; simp [hs]
  rw [this]; rfl

theorem more_hits (hA : ∀ c ∈ A, c.Text ≠ newT) (hB : ∀ c ∈ B, c.Text ≠ newT) : hits (cntL A []) (cntL (moreC B) []) = hits (cntL A []) (cntL B []) := by
  unfold hits
  refine List.filter_congr fun q hq => ?_
  have : q.1 ≠ newT := fun e => by
    obtain ⟨c, hc, _, ht⟩ := keys_text (List.mem_map.2 ⟨q, hq, rfl⟩)
    exact hA c hc (ht.trans e)
  rw [more_get hB this]
theorem more_hits' (hA : ∀ c ∈ A, c.Text ≠ newT) (hB : ∀ c ∈ B, c.Text ≠ newT) : hits (cntL (moreC B) []) (cntL A []) = hits (cntL B []) (cntL A []) := by
  rw [more_cnt hB]
  unfold hits
  have hg : getC (cntL A []) newT = 0 := by rw [getC_cnt, cnt_zero hA]; rfl
  rw [List.filter_append, List.filter_cons_of_neg (by simp [hg]), List.filter_nil, List.append_nil]

theorem more_rel (hA : ∀ c ∈ A, c.Text ≠ newT) (hB : ∀ c ∈ B, c.Text ≠ newT) (a b : G_api_Ref) (ra rb : Int) :
    relV a b A (moreC B) ra (rb + 2) = { relV a b A B ra rb with OnlyB := (relV a b A B ra rb).OnlyB + 1, LostB := (relV a b A B ra rb).LostB + 2 } := by
  have h1 : cntP (cntL (moreC B) []) A = cntP (cntL B []) A := by
    unfold cntP
    congr 1
    refine List.filter_congr fun c hc => ?_
    rw [more_get hB (hA c hc)]
  have h2 : cntP (cntL A []) (moreC B) = cntP (cntL A []) B := by
    unfold moreC
    rw [cntP_append]
    have hg : getC (cntL A []) newT = 0 := by rw [getC_cnt, cnt_zero hA]; rfl
    have : cntP (cntL A []) [⟨false, newT⟩, ⟨true, []⟩] = 0 := by
      rw [show ([⟨false, newT⟩, ⟨true, []⟩] : List G_api_Cell) = [⟨false, newT⟩] ++ [⟨true, []⟩] from rfl, cntP_append, cntP_one, cntP_one]
      simp [hg]
    omega
  have h3 : ((cntL (moreC B) []).length : Int) = (cntL B []).length + 1 := by rw [more_cnt hB]; simp
  unfold relV mostS
  simp only [more_hits hA hB, more_hits' hA hB, h1, h2, h3]
  congr 1 <;> omega

theorem all_hits : hits (cntL A []) (cntL (A ++ B) []) = cntL A [] := by
  unfold hits
  refine List.filter_eq_self.2 fun q hq => decide_eq_true ?_
  have h1 := getC_mem (cok A).nodup (k := q.1) (v := q.2) hq
  have h2 := (cok A).pos q hq
  rw [getC_cnt] at h1
  rw [getC_cnt, cntC_append]
  omega
end

theorem cellIn_ne {c : G_api_Cell} (h : CellIn c) : c.Text ≠ newT := fun e => new_not (e ▸ h.1)

def firstT (t : G_api_Table) : G_api_Table := ⟨t.ID, t.Name, t.Columns.take 1⟩
theorem tabIn_first {t : G_api_Table} (h : TabIn t) : TabIn (firstT t) := by
  obtain ⟨h1, h2, r, hr, hc⟩ := h
  exact ⟨h1, by simp only [firstT, List.length_take]; omega, r, hr, fun c hcm => hc c (List.mem_of_mem_take hcm)⟩

theorem relationRows_law (t : List Int) : s_tablefinderlaw29_RelationRows t = some true := by
  refine eq_of_wp ?_
  unfold s_tablefinderlaw29_RelationRows s_tablefinderkit_Light s_tablefinderkit_Roll
  rw [wp_bind, wp_some]
  by_cases hl : (t.length : Int) ≤ 500
  · rw [decide_eq_true hl, Bool.not_true, cond_false, wp_bind, wp_some, wp_bind]
    refine wp_mono (table_wp (d := ⟨t, 0⟩) ⟨by simp, by simp, by simp only; omega⟩ 1) fun ⟨a, d1⟩ ⟨⟨ha, ida⟩, hd1⟩ => ?_
    dsimp only at ha ida hd1 ⊢
    rw [wp_bind]
    refine wp_mono (table_wp hd1 2) fun ⟨b, d2⟩ ⟨⟨hb, idb⟩, hd2⟩ => ?_
    dsimp only at hb idb hd2 ⊢
    have j1 : wp (s_tablefinderlaw29_RelationRows_j1 true a b) (· = true) := by
      unfold s_tablefinderlaw29_RelationRows_j1
      rw [cond_true]; exact awake29_wp rfl
    rw [wp_bif]
    refine ⟨fun _ => j1, fun h0 => ?_⟩
    simp only [beq_eq_false_iff_ne] at h0
    cases hb0 : ((b.Columns.length : Int) == 0) with
    | true => exact j1
    | false =>
      simp only [beq_eq_false_iff_ne] at hb0
      unfold s_tablefinderlaw29_RelationRows_j1
      rw [cond_false]
      obtain ⟨ca, hca⟩ : ∃ ca, a.Columns[0]? = some ca := ⟨_, List.getElem?_eq_getElem (by omega)⟩
      obtain ⟨cb, hcb⟩ : ∃ cb, b.Columns[0]? = some cb := ⟨_, List.getElem?_eq_getElem (by omega)⟩
      have fa := tabIn_first ha
      have fb := tabIn_first hb
      have hca' : (firstT a).Columns[(0 : Int).toNat]? = some ca := by simp only [firstT, Int.toNat_zero]; rw [List.getElem?_take, if_pos (by omega)]; exact hca
      have hcb' : (firstT b).Columns[(0 : Int).toNat]? = some cb := by simp only [firstT, Int.toNat_zero]; rw [List.getElem?_take, if_pos (by omega)]; exact hcb
      have sa := sizeOk_of fa
      have sb := sizeOk_of fb
      have va := tableS_of fa (show 0 ≤ a.ID ∧ a.ID ≤ 1000 by omega)
      have vb := tableS_of fb (show 0 ≤ b.ID ∧ b.ID ≤ 1000 by omega)
      have info : ∀ {t : G_api_Table} {c : G_api_Column}, TabIn t → t.Columns[(0 : Int).toNat]? = some c → c.Cells.length ≤ 6 ∧ rowsS t = c.Cells.length ∧ ∀ x ∈ c.Cells, CellIn x := fun {t c} h hc => by
        obtain ⟨_, _, r, hr, hcs⟩ := h
        have hm := List.mem_of_getElem? hc
        have := hcs c hm
        have h2 := this.2.1
        exact ⟨by omega, by rw [rowsS_in hcs (List.ne_nil_of_mem hm), this.2.1], this.2.2⟩
      obtain ⟨lA, rA, cA⟩ := info fa hca'
      obtain ⟨lB, rB, cB⟩ := info fb hcb'
      have hA : ∀ c ∈ ca.Cells, c.Text ≠ newT := fun c hc => cellIn_ne (cA c hc)
      have hB : ∀ c ∈ cb.Cells, c.Text ≠ newT := fun c hc => cellIn_ne (cB c hc)
      have ia : idx (a.Columns.take ((1 : Int)).toNat) 0 = some ca := by unfold idx; rw [if_pos (by omega)]; exact hca'
      have ib : idx (b.Columns.take ((1 : Int)).toNat) 0 = some cb := by unfold idx; rw [if_pos (by omega)]; exact hcb'
      have lm : (moreC cb.Cells).length = cb.Cells.length + 2 := by unfold moreC; simp
      have e1 : s_relation_Of (G_api_Table.mk a.ID a.Name (a.Columns.take ((1 : Int)).toNat)) 0 (G_api_Table.mk b.ID b.Name (b.Columns.take ((1 : Int)).toNat)) 0 = some (relV ⟨a.ID, 0⟩ ⟨b.ID, 0⟩ ca.Cells cb.Cells (rowsS (firstT a)) (rowsS (firstT b)), 0) := by
        show s_relation_Of (firstT a) 0 (firstT b) 0 = _
        rw [of_eq _ _ _ _ sa sb, relS_val va vb (by omega) (by omega) hca' hcb']; rfl
      have vm : tableS (oneT 2 (moreC cb.Cells)) = true := one_valid (fun c hc => by
        unfold moreC at hc
        rcases List.mem_append.1 hc with hc | hc
        · exact cellS_of (cB c hc)
        · simp only [List.mem_cons, List.not_mem_nil, or_false] at hc
          rcases hc with rfl | rfl
          · exact new_cell
          · exact null_cell) (by omega) (by omega)
      have e2 : s_relation_Of (G_api_Table.mk a.ID a.Name (a.Columns.take ((1 : Int)).toNat)) 0 (G_api_Table.mk 2 ([] : Str) ([(G_api_Column.mk ([] : Str) (cb.Cells ++ ([(G_api_Cell.mk false ([110, 101, 119] : Str)), (G_api_Cell.mk true ([] : Str))] : (List G_api_Cell))))] : (List G_api_Column))) 0 = some (relV ⟨a.ID, 0⟩ ⟨2, 0⟩ ca.Cells (moreC cb.Cells) (rowsS (firstT a)) ((cb.Cells.length : Int) + 2), 0) := by
        show s_relation_Of (firstT a) 0 (oneT 2 (moreC cb.Cells)) 0 = _
        rw [of_eq _ _ _ _ sa (one_size (by omega)), relS_val va vm (by omega) (by omega) hca' (cb := ⟨[], moreC cb.Cells⟩) rfl]
        have : rowsS (oneT 2 (moreC cb.Cells)) = (cb.Cells.length : Int) + 2 := by
          show ((moreC cb.Cells).length : Int) = _
          rw [lm]; simp
        rw [this]; rfl
      have vz : tableS (oneT 3 (ca.Cells ++ cb.Cells)) = true := one_valid (fun c hc => by
        rcases List.mem_append.1 hc with hc | hc
        · exact cellS_of (cA c hc)
        · exact cellS_of (cB c hc)) (by omega) (by rw [List.length_append]; omega)
      have e3 : s_relation_Of (G_api_Table.mk a.ID a.Name (a.Columns.take ((1 : Int)).toNat)) 0 (G_api_Table.mk 3 ([] : Str) ([(G_api_Column.mk ([] : Str) (ca.Cells ++ cb.Cells))] : (List G_api_Column))) 0 = some (relV ⟨a.ID, 0⟩ ⟨3, 0⟩ ca.Cells (ca.Cells ++ cb.Cells) (rowsS (firstT a)) (rowsS (oneT 3 (ca.Cells ++ cb.Cells))), 0) := by
        show s_relation_Of (firstT a) 0 (oneT 3 (ca.Cells ++ cb.Cells)) 0 = _
        rw [of_eq _ _ _ _ sa (one_size (by rw [List.length_append]; omega)), relS_val va vz (by omega) (by omega) hca' (cb := ⟨[], ca.Cells ++ cb.Cells⟩) rfl]; rfl
      have hmr := more_rel hA hB ⟨a.ID, 0⟩ ⟨2, 0⟩ (rowsS (firstT a)) cb.Cells.length
      rw [e1, wp_chk, wp_chk, wp_bind, wp_some]
      have la := ha.2.1
      have lb := hb.2.1
      refine ⟨within_ok (by omega), within_ok (by omega), ?_⟩
      dsimp only
      rw [ib, wp_bind, wp_some, e2, wp_chk, wp_chk, wp_bind, wp_some]
      refine ⟨room_ok (by omega), room_ok (by simp only [List.length_cons, List.length_nil]; omega), ?_⟩
      dsimp only
      rw [ia, wp_chk, wp_chk, wp_bind, wp_some, wp_chk, wp_bind, wp_some, wp_chk, e3, wp_bind, wp_some]
      dsimp only
      have hX := cnt_len (cok ca.Cells)
      have hX2 := (cok ca.Cells).sum
      have hY := cnt_len (cok cb.Cells)
      have hY2 := (cok cb.Cells).sum
      have hh := hits_len (cntL ca.Cells []) (cntL cb.Cells [])
      have hh2 : (hits (cntL ca.Cells []) (cntL cb.Cells [])).length ≤ (cntL cb.Cells []).length := by rw [hits_comm]; exact hits_len _ _
      have hp := cntP_le (cntL ca.Cells []) cb.Cells
      refine ⟨inK_i64 ?_, inK_i64 ?_, room_ok (by omega), room_ok (by omega), ?_⟩
      · simp only [relV]; omega
      · simp only [relV]; rw [rB]; omega
      have hxO : (relV ⟨a.ID, 0⟩ ⟨3, 0⟩ ca.Cells (ca.Cells ++ cb.Cells) (rowsS (firstT a)) (rowsS (oneT 3 (ca.Cells ++ cb.Cells)))).OnlyA = 0 := by
        simp only [relV, all_hits]; omega
      have hxC : (relV ⟨a.ID, 0⟩ ⟨3, 0⟩ ca.Cells (ca.Cells ++ cb.Cells) (rowsS (firstT a)) (rowsS (oneT 3 (ca.Cells ++ cb.Cells)))).Common = ((cntL ca.Cells []).length : Int) := by
        simp only [relV, all_hits]
      have hrC : (relV ⟨a.ID, 0⟩ ⟨b.ID, 0⟩ ca.Cells cb.Cells (rowsS (firstT a)) (rowsS (firstT b))).Common + (relV ⟨a.ID, 0⟩ ⟨b.ID, 0⟩ ca.Cells cb.Cells (rowsS (firstT a)) (rowsS (firstT b))).OnlyA = ((cntL ca.Cells []).length : Int) := by
        simp only [relV]; omega
      rw [hmr, ← rB, idb] at *
      generalize relV ⟨a.ID, 0⟩ ⟨3, 0⟩ ca.Cells (ca.Cells ++ cb.Cells) (rowsS (firstT a)) (rowsS (oneT 3 (ca.Cells ++ cb.Cells))) = x at *
      generalize relV ⟨a.ID, 0⟩ ⟨2, 0⟩ ca.Cells cb.Cells (rowsS (firstT a)) (rowsS (firstT b)) = r at *
      rw [show ((0 : Int) == 0) = true from rfl, cond_true, cond_true, cond_true, wp_bif]
      refine ⟨fun _ => ?_, fun h => by simp at h⟩
      rw [hxO, show ((0 : Int) == 0) = true from rfl, cond_true]
      unfold s_tablefinderlaw29_RelationRows_j2
      refine sameC_wp (full_same x (by omega) hxO) fun p q => ?_
      rw [cond_true, wp_chk, hrC, hxC, beq_self_eq_true, cond_true]
      exact ⟨inK_i64 (by omega), awake29_wp rfl⟩
  · rw [decide_eq_false hl, Bool.not_false, cond_true]; exact awake29_wp rfl

end Go.Proofs

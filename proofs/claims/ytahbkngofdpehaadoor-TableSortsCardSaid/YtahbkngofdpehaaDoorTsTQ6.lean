/- TableSorts: sorted rows ascend, sorting changes no row, two tables with the same rows are the same when sorted. -/
import Derived.Test.YtahbkngofdpehaaDoorTsTQ5
set_option linter.unusedVariables false
set_option linter.unusedSimpArgs false
set_option linter.unusedSectionVars false
namespace Go.Proofs
open Go Eng

theorem idxL_get {n i : Nat} (h : i < (idxL n).length) : (idxL n)[i] = (i : Int) := by simp [idxL]
theorem rowAt_sel {t : G_api_Table} {rows : List Int} {i : Nat} (hi : i < rows.length) : rowAt (selT t rows) i = rowAt t rows[i].toNat := by
  unfold rowAt selT
  dsimp only
  rw [List.map_map]
  refine List.map_congr_left fun c _ => ?_
  rw [Function.comp_apply, pickC]
  dsimp only
  rw [getD_lt _ _ (by simpa using hi), List.getElem_map]
theorem rowsT_selLen {t : G_api_Table} {rows : List Int} (h : (rows.length : Int) = rowsT t) : rowsT (selT t rows) = rowsT t := by
  by_cases h0 : t.Columns = []
  · unfold rowsT selT; rw [h0]; rfl
  · rw [rowsT_sel h0, h]
def rowK (t : G_api_Table) (k : Int) : List G_api_Cell := rowAt t k.toNat
theorem sel_rows {t : G_api_Table} {o o' : List Int} (h : o.map (rowK t) = o'.map (rowK t)) : selT t o = selT t o' := by
  unfold selT
  refine congrArg _ ?_
  refine List.map_congr_left fun c hc => ?_
  obtain ⟨j, hj, rfl⟩ := List.getElem_of_mem hc
  unfold pickC
  refine congrArg _ ?_
  have key : ∀ l : List Int, l.map (fun k => t.Columns[j].Cells.getD k.toNat default) = (l.map (rowK t)).map fun r => r.getD j default := fun l => by
    rw [List.map_map]
    refine List.map_congr_left fun k _ => ?_
    exact ((getD_lt (t.Columns.map fun c => c.Cells.getD k.toNat default) default (i := j) (by simpa using hj)).trans (List.getElem_map _)).symm
  rw [key, key, h]
theorem keysL_sel {t : G_api_Table} {rows : List Int} : keysL (selT t rows) rows.length = rows.map fun k => keyS (rowK t k) := by
  unfold keysL
  refine List.ext_getElem (by simp) fun i h1 h2 => ?_
  rw [List.getElem_map, List.getElem_map, List.getElem_range, rowAt_sel (by simpa using h1)]
  rfl
theorem keysL_idx (t : G_api_Table) (n : Nat) : keysL t n = (idxL n).map fun k => keyS (rowK t k) := by
  unfold keysL idxL
  rw [List.map_map]
  refine List.map_congr_left fun i _ => ?_
  rw [Function.comp_apply, rowK, Int.toNat_natCast]

structure InT (t : G_api_Table) (n : Nat) : Prop where
  tab : TabM 3 7 t
  id : t.ID = 1
  rows : rowsT t = (n : Int)
  cols : ∀ c ∈ t.Columns, ColM n c
theorem inT_of {t : G_api_Table} (h : TabM 3 7 t) (hid : t.ID = 1) : ∃ n, n ≤ 7 ∧ InT t n := by
  obtain ⟨h1, h2, n, hn, hc⟩ := h
  rcases rowsT_of hc with ⟨h0, h3⟩ | h3
  · exact ⟨0, by omega, ⟨h1, h2, n, hn, hc⟩, hid, by simpa using h3, by rw [h0]; simp⟩
  · exact ⟨n, hn, ⟨h1, h2, n, hn, hc⟩, hid, h3, hc⟩
theorem InT.sel {t : G_api_Table} {n : Nat} (h : InT t n) (hn : n ≤ 7) {rows : List Int} (hl : rows.length = n) (hk : ∀ k ∈ rows, 0 ≤ k ∧ k < (n : Int)) : InT (selT t rows) n := by
  refine ⟨tabM_sel h.tab (fun k hk' => by rw [h.rows]; exact hk k hk') (by omega), h.id, by rw [rowsT_selLen (by rw [h.rows, hl]), h.rows], fun c hc => ?_⟩
  obtain ⟨c0, hc0, rfl⟩ := List.mem_map.1 hc
  obtain ⟨q1, q2, q3⟩ := h.cols c0 hc0
  refine ⟨q1, by unfold pickC; simp [hl], fun x hx => ?_⟩
  obtain ⟨k, hk', rfl⟩ := List.mem_map.1 (show x ∈ rows.map _ from hx)
  have := hk k hk'
  rw [getD_lt _ _ (by omega)]
  exact q3 _ (List.getElem_mem _)
theorem InT.allM {t : G_api_Table} {n : Nat} (h : InT t n) {k : Int} (hk : 0 ≤ k ∧ k < (n : Int)) : AllM (rowK t k) := rowAt_mem h.cols (by omega)
theorem rowK_len (t : G_api_Table) (k : Int) : (rowK t k).length = t.Columns.length := by unfold rowK rowAt; simp
theorem InT.toNat {t : G_api_Table} {n : Nat} (h : InT t n) : (rowsT t).toNat = n := by rw [h.rows]; simp
theorem idn {t : G_api_Table} {n : Nat} (h : InT t n) : 0 ≤ t.ID ∧ t.ID ≤ 1000 := by rw [h.id]; omega

def leK (t : G_api_Table) (a b : Int) : Prop := rowC (rowK t a) (rowK t b) ≤ 0
theorem order_sorted {t : G_api_Table} {n : Nat} (h : InT t n) : (orderT t).Pairwise (leK t) := by
  unfold orderT
  rw [h.toNat]
  refine isort_sorted (fun k => 0 ≤ k ∧ k < (n : Int)) (leK t) (fun x p _ _ hc => ?_) (fun x p _ _ hc => ?_) (fun a b c ha hb hc p q => ?_) _ fun y hy => idxL_mem hy
  · have : rowC (rowK t x) (rowK t p) < 0 := of_decide_eq_true hc
    unfold leK; omega
  · have : ¬ rowC (rowK t x) (rowK t p) < 0 := of_decide_eq_false hc
    have := rowC_neg (rowK t x) (rowK t p)
    unfold leK; omega
  · exact rowC_trans (h.allM ha) (h.allM hb) (h.allM hc) (by rw [rowK_len, rowK_len]) (by rw [rowK_len, rowK_len]) p q
theorem order_perm {t : G_api_Table} {n : Nat} (h : InT t n) : (orderT t).Perm (idxL n) := by unfold orderT; rw [h.toNat]; exact isort_perm _
theorem order_in {t : G_api_Table} {n : Nat} (h : InT t n) : ∀ k ∈ orderT t, 0 ≤ k ∧ k < (n : Int) := fun k hk => idxL_mem ((order_perm h).mem_iff.1 hk)
theorem order_len {t : G_api_Table} {n : Nat} (h : InT t n) : (orderT t).length = n := by rw [orderT_len, h.toNat]

/-- The rows of a sorted table ascend. -/
theorem sorted_asc {t : G_api_Table} {n : Nat} (h : InT t n) {i j : Nat} (hij : i < j) (hj : j < n) : rowC (rowAt (selT t (orderT t)) i) (rowAt (selT t (orderT t)) j) ≤ 0 := by
  have hl := order_len h
  rw [rowAt_sel (by omega), rowAt_sel (by omega)]
  exact List.pairwise_iff_getElem.1 (order_sorted h) i j (by omega) (by omega) hij

theorem sort_again {t : G_api_Table} {n : Nat} (h : InT t n) (hn : n ≤ 7) : selT (selT t (orderT t)) (orderT (selT t (orderT t))) = selT t (orderT t) := by
  have hx := h.sel hn (order_len h) (order_in h)
  have : orderT (selT t (orderT t)) = idxL n := by
    have e : orderT (selT t (orderT t)) = isort (ltT (selT t (orderT t))) (idxL n) := by unfold orderT; rw [show (rowsT (selT t (isort (ltT t) (idxL (rowsT t).toNat)))).toNat = n from hx.toNat]
    rw [e]
    refine isort_id _ (List.pairwise_iff_getElem.2 fun i j hi hj hij => ?_)
    rw [idxL_len] at hi hj
    have := sorted_asc h hij hj
    have h2 := rowC_neg (rowAt (selT t (orderT t)) i) (rowAt (selT t (orderT t)) j)
    rw [idxL_get, idxL_get]
    unfold ltT
    simp only [Int.toNat_natCast]
    exact decide_eq_false (by omega)
  rw [this]
  exact sel_all fun c hc => (hx.cols c hc).2.1

/-- Sorted again out of another order of the rows. -/
theorem sort_turned {t : G_api_Table} {n : Nat} (h : InT t n) (hn : n ≤ 7) {turned : List Int} (hp : turned.Perm (idxL n)) : selT (selT t turned) (orderT (selT t turned)) = selT t (orderT t) := by
  have hl : turned.length = n := by rw [hp.length_eq, idxL_len]
  have hk : ∀ k ∈ turned, 0 ≤ k ∧ k < (n : Int) := fun k hk => idxL_mem (hp.mem_iff.1 hk)
  have hz := h.sel hn hl hk
  have ho := order_in hz
  rw [sel_twice t turned _ (fun k hk' => by have := ho k hk'; rw [hl]; exact this)]
  refine sel_rows ?_
  have hrow : ∀ k, 0 ≤ k ∧ k < (n : Int) → rowK (selT t turned) k = rowK t (turned.getD k.toNat 0) := fun k hk' => by
    unfold rowK
    rw [rowAt_sel (by omega), getD_lt _ _ (by omega)]
  have hpm : ((orderT (selT t turned)).map fun k => turned.getD k.toNat 0).Perm (idxL n) := by
    refine ((order_perm hz).map _).trans ?_
    have : (idxL n).map (fun k => turned.getD k.toNat 0) = turned := by
      refine List.ext_getElem (by simp [idxL_len, hl]) fun i h1 h2 => ?_
      rw [List.getElem_map, idxL_get, Int.toNat_natCast]
      exact getD_lt _ _ h2
    rw [this]; exact hp
  refine sorted_eq (fun r => AllM r ∧ r.length = t.Columns.length) (fun a b => rowC a b ≤ 0) (fun a b ha hb p q => ?_) (fun y hy => ?_) ?_ ?_ ?_
  · have := rowC_neg a b
    exact rowC_zero ha.1 hb.1 (by rw [ha.2, hb.2]) (by omega)
  · obtain ⟨k, hk', rfl⟩ := List.mem_map.1 hy
    exact ⟨h.allM (idxL_mem (hpm.mem_iff.1 hk')), rowK_len t k⟩
  · exact (hpm.trans (order_perm h).symm).map _
  · rw [List.pairwise_map, List.pairwise_map]
    refine (order_sorted hz).imp_of_mem fun {a b} ha hb hab => ?_
    unfold leK at hab
    rwa [hrow a (ho a ha), hrow b (ho b hb)] at hab
  · rw [List.pairwise_map]
    exact order_sorted h

/-! ## The law -/

theorem row_eq {t : G_api_Table} {n : Nat} (h : InT t n) (hn : n ≤ 7) {i : Nat} (hi : i < n) : s_table_Row t (i : Int) = some (rowAt t i, 0) := by
  refine eq_of_wp ?_
  unfold s_table_Row s_table_Row_j1
  rw [valid_eq h.tab (by omega) (by omega) (idn h), wp_bind, wp_some, Bool.not_true, cond_false, decide_eq_false (by omega), cond_false, rows_eq, wp_bind, wp_some, h.rows, decide_eq_false (by omega), cond_false, wp_bind]
  have hcl : t.Columns.length ≤ 3 := h.tab.2.1
  refine wp_mono (forS_wp s_table_Row_l1_FB t.Columns (by omega) (fun k (o : List G_api_Cell) => ((i : Int), t.Columns, (t.Columns.length : Int), k, o)) (fun k o => o = (rowAt t i).take k) (Q := fun x => x = rowAt t i) [] rfl ?_ ?_) ?_
  · rintro rec k o hlt rfl ih
    obtain ⟨_, hcl', hcx⟩ := h.cols _ (List.getElem_mem hlt)
    have hic : i < t.Columns[k].Cells.length := by omega
    have hrl : (rowAt t i).length = t.Columns.length := by unfold rowAt; simp
    unfold s_table_Row_l1_B s_table_Row_l1_b
    dsimp only
    rw [wp_bif]
    refine ⟨fun _ => ?_, fun h => by simp only [decide_eq_false_iff_not] at h; omega⟩
    rw [wp_bind, idx_nat hlt, wp_some, wp_bind, idx_nat hic, wp_some, wp_chk, wp_chk]
    refine ⟨room_ok (by simp only [List.length_take, List.length_singleton]; omega), inK_i64 (by omega), ih _ ?_⟩
    rw [List.take_succ_eq_append_getElem (by omega)]
    congr 2
    unfold rowAt; rw [List.getElem_map, getD_lt _ _ hic]
  · rintro rec o rfl
    have hrl : (rowAt t i).length = t.Columns.length := by unfold rowAt; simp
    unfold s_table_Row_l1_B s_table_Row_l1_b
    dsimp only
    rw [wp_bif]
    refine ⟨fun h => by simp only [decide_eq_true_eq] at h; omega, fun _ => ?_⟩
    rw [wp_some, ← hrl, List.take_length]
  · rintro x rfl
    unfold s_table_Row_k2
    rw [wp_some]

theorem asc_inner {a b : List G_api_Cell} (hl : a.length = b.length) (hb : a.length ≤ 100) (h : rowC a b ≤ 0) (i : Int) (d : G_tablefindermill_Dice) (t x : G_api_Table) :
    wp (s_tablefinderlaw03_TableSorts_l2 big i (a.length : Int) 0 d t x a b) (fun y => y = .brk (i, d, t, x)) := by
  refine forS_wp s_tablefinderlaw03_TableSorts_l2_FB a (by omega) (fun k (_ : Unit) => (i, (a.length : Int), k, d, t, x, a, b)) (fun k _ => rowC (a.drop k) (b.drop k) ≤ 0) () h ?_ ?_
  · rintro rec k _ hlt hP ih
    have hkb : k < b.length := by omega
    rw [List.drop_eq_getElem_cons hlt, List.drop_eq_getElem_cons hkb] at hP
    unfold rowC at hP
    unfold s_tablefinderlaw03_TableSorts_l2_B s_tablefinderlaw03_TableSorts_l2_b
    dsimp only
    rw [wp_bif]
    refine ⟨fun _ => ?_, fun h => by simp only [decide_eq_false_iff_not] at h; omega⟩
    rw [wp_chk, wp_bind, Int.toNat_natCast, List.getElem?_eq_getElem hlt, wp_some, wp_chk, wp_bind, List.getElem?_eq_getElem hkb, wp_some, compare_eq, wp_bind, wp_some]
    refine ⟨inR_nat hlt, inR_nat hkb, ?_⟩
    by_cases hc : cellC a[k] b[k] = 0
    · rw [if_pos hc] at hP
      rw [hc, wp_bif]
      refine ⟨fun h => by simp at h, fun _ => ?_⟩
      rw [wp_bif]
      refine ⟨fun h => by simp at h, fun _ => ?_⟩
      rw [wp_chk]
      exact ⟨inK_i64 (by omega), ih () hP⟩
    · rw [if_neg hc] at hP
      rw [wp_bif]
      refine ⟨fun h => by simp only [decide_eq_true_eq] at h; omega, fun _ => ?_⟩
      rw [wp_bif]
      refine ⟨fun _ => by rw [wp_some], fun h => by simp only [decide_eq_false_iff_not] at h; omega⟩
  · rintro rec _ hP
    unfold s_tablefinderlaw03_TableSorts_l2_B s_tablefinderlaw03_TableSorts_l2_b
    dsimp only
    rw [wp_bif]
    exact ⟨fun h => by simp only [decide_eq_true_eq] at h; omega, fun _ => by rw [wp_some]⟩

theorem asc_loop {x : G_api_Table} {n : Nat} (hx : InT x n) (hn : n ≤ 7) (hasc : ∀ i j, i < j → j < n → rowC (rowAt x i) (rowAt x j) ≤ 0) (d : G_tablefindermill_Dice) (t : G_api_Table) :
    wp (s_tablefinderlaw03_TableSorts_l1 big 1 d t x) (fun y => y = .brk (d, t, x)) := by
  refine whileS_wp s_tablefinderlaw03_TableSorts_l1_FB (fun (i : Nat) => ((i : Int), d, t, x)) (fun i => 1 ≤ i) (fun i => n - i) 1 (Nat.le_refl _) (by omega) ?_
  rintro rec i hi ih
  unfold s_tablefinderlaw03_TableSorts_l1_B s_tablefinderlaw03_TableSorts_l1_b
  dsimp only
  rw [rows_eq, wp_bind, wp_some, hx.rows, wp_bif]
  refine ⟨fun hlt => ?_, fun _ => by rw [wp_some]⟩
  simp only [decide_eq_true_eq] at hlt
  have hlt : i < n := by omega
  have e1 : (i : Int) - 1 = ((i - 1 : Nat) : Int) := by omega
  have hla : (rowAt x (i - 1)).length = x.Columns.length := by unfold rowAt; simp
  have hlb : (rowAt x i).length = x.Columns.length := by unfold rowAt; simp
  have hcl : x.Columns.length ≤ 3 := hx.tab.2.1
  rw [wp_chk, e1, row_eq hx hn (by omega), wp_bind, wp_some]
  refine ⟨inK_i64 (by omega), ?_⟩
  dsimp only
  rw [row_eq hx hn hlt, wp_bind, wp_some]
  dsimp only
  rw [show ((0 : Int) != 0) = false from rfl, cond_false, cond_false]
  unfold s_tablefinderlaw03_TableSorts_j2
  have hne : (((rowAt x (i - 1)).length : Int) != ((rowAt x i).length : Int)) = false := by rw [hla, hlb]; simp
  rw [hne, cond_false, wp_bind]
  refine wp_mono (asc_inner (by rw [hla, hlb]) (by omega) (hasc (i - 1) i (by omega) hlt) (i : Int) d t x) ?_
  rintro y rfl
  dsimp only
  unfold s_tablefinderlaw03_TableSorts_k3
  rw [wp_chk]
  refine ⟨inK_i64 (by omega), ?_⟩
  have := ih (i + 1) (by omega) (by omega)
  rwa [show ((i + 1 : Nat) : Int) = (i : Int) + 1 by omega] at this

theorem turn_loop {t : G_api_Table} {n : Nat} (h : InT t n) (hn : n ≤ 7) {d : G_tablefindermill_Dice} (hd : DMOk d) (x : G_api_Table) :
    wp (s_tablefinderlaw03_TableSorts_l3 big 0 d t x []) (fun y => ∃ turned, y = (t, x, turned) ∧ turned.Perm (idxL n)) := by
  refine uptoS_wp s_tablefinderlaw03_TableSorts_l3_FB n (by omega) (fun i (s : G_tablefindermill_Dice × List Int) => (i, s.1, t, x, s.2)) (fun i s => DMOk s.1 ∧ s.2.Perm (idxL i)) (d, []) ⟨hd, .refl _⟩ ?_ ?_
  · rintro rec i ⟨d, l⟩ hlt ⟨hd, hp⟩ ih
    dsimp only at hd hp ih
    have hl : l.length = i := by rw [hp.length_eq, idxL_len]
    unfold s_tablefinderlaw03_TableSorts_l3_B s_tablefinderlaw03_TableSorts_l3_b
    dsimp only
    rw [rows_eq, wp_bind, wp_some, h.rows, wp_bif]
    refine ⟨fun _ => ?_, fun h => by simp only [decide_eq_false_iff_not] at h; omega⟩
    rw [wp_chk, wp_bind]
    refine ⟨inK_i64 (by omega), wp_mono (pick_wp hd (n := (i : Int) + 1) (by omega)) ?_⟩
    rintro ⟨k, d1⟩ ⟨hk, hd1⟩
    dsimp only at hk hd1 ⊢
    have e2 : l.length = i := hl
    rw [wp_chk, wp_chk, wp_chk, wp_chk, wp_chk, wp_chk]
    have s1 : ((l.drop 0).take (k.toNat - 0)) = l.take k.toNat := by simp
    have s2 : (l.drop k.toNat).take ((l.length : Int).toNat - k.toNat) = l.drop k.toNat := by
      rw [List.take_of_length_le]; simp
    rw [s1, s2]
    refine ⟨within_ok (by omega), room_ok (by simp only [List.length_take, List.length_nil]; omega), room_ok (by simp only [List.length_append, List.length_take, List.length_nil, List.length_singleton]; omega), within_ok (by omega),
      room_ok (by simp only [List.length_append, List.length_take, List.length_drop, List.length_nil, List.length_singleton]; omega), inK_i64 (by omega), ?_⟩
    refine ih (d1, _) ⟨hd1, ?_⟩
    have e : idxL (i + 1) = idxL i ++ [(i : Int)] := by unfold idxL; rw [List.range_succ, List.map_append]; rfl
    rw [e]
    refine List.Perm.trans ?_ (hp.append_right [(i : Int)])
    have : l = l.take k.toNat ++ l.drop k.toNat := (List.take_append_drop _ _).symm
    conv => rhs; rw [this]
    simp only [List.nil_append, List.append_assoc]
    exact List.Perm.append_left _ List.perm_append_comm
  · rintro rec ⟨d, l⟩ ⟨hd, hp⟩
    unfold s_tablefinderlaw03_TableSorts_l3_B s_tablefinderlaw03_TableSorts_l3_b
    dsimp only
    rw [rows_eq, wp_bind, wp_some, h.rows, wp_bif]
    refine ⟨fun h => by simp only [decide_eq_true_eq] at h; omega, fun _ => ?_⟩
    rw [wp_some]
    exact ⟨l, rfl, hp⟩

theorem sane03s : s_tablefinderlaw03_sane = some true := by kernel_rfl

theorem tableSorts_law (s : List Int) (hs : ∀ x ∈ s, 0 ≤ x ∧ x ≤ 255) : s_tablefinderlaw03_TableSorts s = some true := by
  refine eq_of_wp ?_
  unfold s_tablefinderlaw03_TableSorts
  rw [sane03s, wp_bind, wp_some, Bool.not_true, cond_false, wp_bind]
  refine wp_mono (new_wp hs) fun d hd => ?_
  rw [wp_bind]
  refine wp_mono (mtable_wp hd 1 (m := 3) (r := 7) (by omega) (by omega)) ?_
  rintro ⟨t, d1⟩ ⟨⟨ht, hid⟩, hd1⟩
  dsimp only at ht hid hd1 ⊢
  obtain ⟨n, hn, h⟩ := inT_of ht hid
  have hx := h.sel hn (order_len h) (order_in h)
  have sx := sort_eq hx.tab (by omega) (by omega) (idn hx)
  rw [sort_again h hn] at sx
  have hkx : (keysL t (rowsT t).toNat).Perm (keysL (selT t (orderT t)) (rowsT (selT t (orderT t))).toNat) := by
    rw [h.toNat, hx.toNat, keysL_idx]
    have := keysL_sel (t := t) (rows := orderT t)
    rw [order_len h] at this
    rw [this]
    exact ((order_perm h).map _).symm
  rw [sort_eq h.tab (by omega) (by omega) (idn h), wp_bind, wp_some]
  dsimp only
  rw [sx, wp_bind, wp_some]
  dsimp only
  rw [show ((0 : Int) != 0) = false from rfl, cond_false, cond_false, same_eq hx.tab (by omega) (by omega), wp_bind, wp_some, Bool.not_true, cond_false,
    sameRows_perm h.tab hx.tab (by omega) (by omega) (idn h) (idn hx) (by unfold selT; simp) hkx, wp_bind, wp_some, Bool.not_true]
  unfold s_tablefinderlaw03_TableSorts_j1
  rw [cond_false, wp_bind]
  refine wp_mono (asc_loop hx hn (fun i j hij hj => sorted_asc h hij hj) d1 t) ?_
  rintro y rfl
  dsimp only
  unfold s_tablefinderlaw03_TableSorts_k4
  rw [wp_bind]
  refine wp_mono (turn_loop h hn hd1 _) ?_
  rintro y ⟨turned, rfl, hp⟩
  dsimp only
  have hl : turned.length = n := by rw [hp.length_eq, idxL_len]
  have hk : ∀ k ∈ turned, 0 ≤ k ∧ k < (n : Int) := fun k hk => idxL_mem (hp.mem_iff.1 hk)
  have hz := h.sel hn hl hk
  unfold s_tablefinderlaw03_TableSorts_k5 s_tablefinderlaw03_TableSorts_j6
  rw [select_eq h.tab (by omega) (by omega) (idn h) (by omega) (fun k hk' => by rw [h.rows]; exact hk k hk'), wp_bind, wp_some]
  dsimp only
  rw [sort_eq hz.tab (by omega) (by omega) (idn hz), sort_turned h hn hp, wp_bind, wp_some]
  dsimp only
  have hkz : (keysL (selT t turned) (rowsT (selT t turned)).toNat).Perm (keysL t (rowsT t).toNat) := by
    rw [h.toNat, hz.toNat, keysL_idx t n]
    have := keysL_sel (t := t) (rows := turned)
    rw [hl] at this
    rw [this]
    exact hp.map _
  rw [beq_self_eq_true, cond_true, cond_true, sameRows_perm hz.tab h.tab (by omega) (by omega) (idn hz) (idn h) (by unfold selT; simp) hkz, wp_bind, wp_some, cond_true, same_eq hx.tab (by omega) (by omega), wp_bind, wp_some, wp_some]
end Go.Proofs

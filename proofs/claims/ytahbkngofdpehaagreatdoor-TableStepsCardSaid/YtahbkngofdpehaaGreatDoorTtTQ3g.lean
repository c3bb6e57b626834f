/- The rows of a table, counted. -/
import Derived.Test.YtahbkngofdpehaaGreatDoorTtTQ2g
set_option linter.unusedVariables false
set_option linter.unusedSimpArgs false
set_option linter.unusedSectionVars false
namespace Go.Proofs
open Go Eng

def rowAt (t : G_api_Table) (i : Nat) : List G_api_Cell := t.Columns.map fun c => c.Cells.getD i default
def cellI (c : G_api_Cell) : List Int := boolI c.Null ++ quoteI c.Text
def keyI (l : List G_api_Cell) : List Int := l.flatMap cellI
def keyS (l : List G_api_Cell) : Str := (keyI l).map fun n => UInt8.ofNat (Int.toNat n)
def keysL (t : G_api_Table) (n : Nat) : List Str := (List.range n).map fun i => keyS (rowAt t i)

theorem okQ_of {s : Str} (h : s ∈ mtexts) : okQ s = true := List.all_eq_true.1 okQ_all s h
theorem mlen_all : (mtexts.all fun s => decide (s.length ≤ 12)) = true := by kernel_rfl
theorem mlen {s : Str} (h : s ∈ mtexts) : s.length ≤ 12 := by simpa using List.all_eq_true.1 mlen_all s h
theorem cellI_len {c : G_api_Cell} (h : CellM c) : (cellI c).length ≤ 19 := by
  have := mlen h.1
  unfold cellI boolI quoteI bI
  cases c.Null <;> simp <;> omega
theorem keyI_len : ∀ {l : List G_api_Cell}, (∀ c ∈ l, CellM c) → (keyI l).length ≤ 19 * l.length
  | [], _ => by simp [keyI]
  | c :: l, h => by
    have h1 := cellI_len (h c (by simp))
    have h2 := keyI_len (l := l) fun x hx => h x (by simp [hx])
    simp only [keyI, List.flatMap_cons, List.length_append, List.length_cons] at h2 ⊢
    omega
theorem keyI_snoc (l : List G_api_Cell) (c : G_api_Cell) : keyI (l ++ [c]) = keyI l ++ cellI c := by simp [keyI]

theorem rowAt_mem {n : Nat} {t : G_api_Table} (h : ∀ c ∈ t.Columns, ColG n c) {i : Nat} (hi : i < n) : ∀ c ∈ rowAt t i, CellM c := by
  intro c hc
  obtain ⟨col, hcol, rfl⟩ := List.mem_map.1 hc
  obtain ⟨_, hl, hx⟩ := h col hcol
  rw [getD_lt _ _ (by omega)]
  exact hx _ (List.getElem_mem _)

theorem row_loop {n : Nat} {t : G_api_Table} (h : ∀ c ∈ t.Columns, ColG n c) (hm : t.Columns.length ≤ 64) {i : Nat} (hi : i < n) (a b : Int) (out : Cnt) :
    wp (s_table_rows_l2 big (i : Int) a b t.Columns (t.Columns.length : Int) 0 t out []) (fun y => y = (a, b, t, out, keyI (rowAt t i))) := by
  have hrl : (rowAt t i).length = t.Columns.length := by unfold rowAt; simp
  refine forS_wp s_table_rows_l2_FB t.Columns (by omega) (fun k (key : List Int) => ((i : Int), a, b, t.Columns, (t.Columns.length : Int), k, t, out, key)) (fun k key => key = keyI ((rowAt t i).take k)) [] (by simp [keyI]) ?_ ?_
  · rintro rec k key hlt rfl ih
    unfold s_table_rows_l2_B s_table_rows_l2_b
    dsimp only
    rw [wp_bif]
    refine ⟨fun _ => ?_, fun h => by simp only [decide_eq_false_iff_not] at h; omega⟩
    obtain ⟨_, hcl, hcx⟩ := h _ (List.getElem_mem hlt)
    have hic : i < t.Columns[k].Cells.length := by omega
    have hcm := hcx _ (List.getElem_mem hic)
    have hkl := keyI_len (l := (rowAt t i).take k) fun c hc => rowAt_mem h hi c (List.mem_of_mem_take hc)
    have hkl2 : ((rowAt t i).take k).length ≤ 64 := by rw [List.length_take]; omega
    have hcc : (rowAt t i)[k]'(by omega) = t.Columns[k].Cells[i] := by
      unfold rowAt; rw [List.getElem_map, getD_lt _ _ hic]
    have hs : (rowAt t i).take (k + 1) = (rowAt t i).take k ++ [t.Columns[k].Cells[i]] := by
      rw [List.take_succ_eq_append_getElem (by omega), hcc]
    rw [wp_bind, idx_nat hlt, wp_some, wp_bind, idx_nat hic, wp_some, wp_bind, abool_eq _ _ (by omega), wp_some, wp_bind, wp_some, wp_bind,
      quoted_eq (okQ_of hcm.1) (by have := mlen hcm.1; omega) _ (by rw [List.length_append]; unfold boolI; cases t.Columns[k].Cells[i].Null <;> simp <;> omega), wp_some, wp_chk]
    refine ⟨inK_i64 (by omega), ih _ ?_⟩
    rw [hs, keyI_snoc, cellI, List.append_assoc]
  · rintro rec key rfl
    unfold s_table_rows_l2_B s_table_rows_l2_b
    dsimp only
    rw [wp_bif]
    refine ⟨fun h => by simp only [decide_eq_true_eq] at h; omega, fun _ => ?_⟩
    rw [wp_some, ← hrl, List.take_length]

theorem rows_wp {m r : Nat} {t : G_api_Table} (h : TabG m r t) (hm : m ≤ 64) (hr : r ≤ 4096) : wp (s_table_rows t) (fun x => CntOf (keysL t (rowsS t).toNat) x ∧ x.length ≤ 4096) := by
  obtain ⟨_, hcl, n, hn, hc⟩ := h
  have hrn : ∀ i, i < (rowsS t).toNat → i < n := by
    rcases rowsS_of hc with ⟨_, h0⟩ | h0
    · rw [h0]; intro i hi; simp at hi
    · rw [h0]; intro i hi; simpa using hi
  have hpos : 0 ≤ rowsS t := by rcases rowsS_of hc with ⟨_, h0⟩ | h0 <;> rw [h0] <;> omega
  have hbig : (rowsS t).toNat ≤ 4096 := by rcases rowsS_of hc with ⟨_, h0⟩ | h0 <;> rw [h0] <;> omega
  unfold s_table_rows s_table_rows_k2
  rw [rows_eq, wp_bind, wp_some, wp_bind]
  have e : ((rowsS t).toNat : Int) = rowsS t := Int.toNat_of_nonneg hpos
  rw [← e]
  refine wp_mono (uptoS_wp s_table_rows_l1_FB (rowsS t).toNat (by omega) (fun i (out : Cnt) => (((rowsS t).toNat : Int), i, t, out)) (fun i out => CntOf (keysL t i) out ∧ out.length ≤ i) (Q := fun x => CntOf (keysL t (rowsS t).toNat) x ∧ x.length ≤ (rowsS t).toNat) [] ⟨cntOf_nil, by simp⟩ ?_ ?_) fun x hx => by rw [wp_some]; exact ⟨hx.1, by omega⟩
  · rintro rec i out hlt ⟨ho, hol⟩ ih
    unfold s_table_rows_l1_B s_table_rows_l1_b
    dsimp only
    rw [wp_bif]
    refine ⟨fun _ => ?_, fun h => by simp only [decide_eq_false_iff_not] at h; omega⟩
    rw [wp_bind]
    refine wp_mono (row_loop hc (by omega) (hrn i hlt) _ _ out) ?_
    rintro y rfl
    dsimp only
    unfold s_table_rows_k1
    have hg : (lookB (k := .str) (v := (.int .i64)) (car := carU) out ((keyI (rowAt t i)).map fun n => UInt8.ofNat (Int.toNat n))).getD (0 : Int) = getC out (keyS (rowAt t i)) := rfl
    have hb := ho.get (keyS (rowAt t i))
    have hb2 : (keysL t i).count (keyS (rowAt t i)) ≤ i := by
      have := List.count_le_length (a := keyS (rowAt t i)) (l := keysL t i)
      unfold keysL at this ⊢
      simpa using this
    rw [hg, wp_chk, wp_chk]
    refine ⟨inK_i64 (by rw [hb]; omega), inK_i64 (by omega), ih _ ⟨?_, ?_⟩⟩
    · have := ho.snoc (keyS (rowAt t i))
      have e : keysL t (i + 1) = keysL t i ++ [keyS (rowAt t i)] := by unfold keysL; rw [List.range_succ, List.map_append]; rfl
      rw [e]; exact this
    · show (addC out (keyS (rowAt t i))).length ≤ i + 1
      unfold addC setB
      split <;> simp <;> omega
  · rintro rec out ⟨ho, hol⟩
    unfold s_table_rows_l1_B s_table_rows_l1_b
    dsimp only
    rw [wp_bif]
    exact ⟨fun h => by simp only [decide_eq_true_eq] at h; omega, fun _ => by rw [wp_some]; exact ⟨ho, hol⟩⟩

end Go.Proofs

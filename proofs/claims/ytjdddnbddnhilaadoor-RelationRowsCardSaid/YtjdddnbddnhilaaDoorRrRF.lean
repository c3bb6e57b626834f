/- relation.Of and the document's Of. -/
import Derived.Test.YtjdddnbddnhilaaDoorRrRE
set_option linter.unusedVariables false
set_option linter.unusedSimpArgs false
set_option linter.unusedSectionVars false
namespace Go.Proofs
open Go Eng

def SizeOk (t : G_api_Table) : Prop := t.Columns.length ≤ 1000000 ∧ ∀ c ∈ t.Columns, c.Cells.length ≤ 1000000

theorem cnt0 (l : List G_api_Cell) : CntOk l.length (cntL l []) := by
  have := cntL_ok (n := 0) (l := l) (m := []) ⟨by simp, by simp, by simp⟩
  rwa [Nat.zero_add] at this

theorem rowsS_bnd {t : G_api_Table} (h : SizeOk t) : 0 ≤ rowsS t ∧ rowsS t ≤ 1000000 := by
  rw [rowsS_eq]
  have h2 := h.2
  revert h2
  cases t.Columns with
  | nil => intro _; exact ⟨by simp [rowsL], by simp [rowsL]⟩
  | cons c l => intro h2; have := h2 c (by simp); simp only [rowsL]; omega

theorem cnt_len {n : Nat} {m : Cnt} (h : CntOk n m) : (m.length : Int) ≤ (m.map (·.2)).sum := by
  have : ∀ l : Cnt, (∀ e ∈ l, 1 ≤ e.2) → (l.length : Int) ≤ (l.map (·.2)).sum := fun l hl => by
    induction l with
    | nil => simp
    | cons x l ih =>
      have := hl x (by simp)
      have := ih fun e he => hl e (by simp [he])
      simp only [List.map_cons, List.sum_cons, List.length_cons]; omega
  exact this m h.pos

theorem bndA {n : Nat} {m : Cnt} (h : CntOk n m) (hn : n ≤ 1000000) {r : Int} (hr : 0 ≤ r ∧ r ≤ 1000000) : BndA (0, 0, r) m := by
  have := cnt_len h
  have := h.sum
  have := sum_pos m h.pos
  exact ⟨by simp, by dsimp only; omega, h.pos, by dsimp only; omega, by dsimp only; omega⟩

theorem hits_bnd {n : Nat} {m : Cnt} (h : CntOk n m) (b : Cnt) : ((hits m b).length : Int) ≤ n := by
  have := cnt_len h
  have := h.sum
  have := hits_len m b
  omega

theorem of_eq (a : G_api_Table) (i : Int) (b : G_api_Table) (j : Int) (ha : SizeOk a) (hb : SizeOk b) : s_relation_Of a i b j = some (relS a i b j) := by
  unfold s_relation_Of relS
  rw [table_eq a (by have := ha.1; omega) (fun c hc => by have := ha.2 c hc; omega), table_eq b (by have := hb.1; omega) (fun c hc => by have := hb.2 c hc; omega)]
  simp only [Option.bind_some]
  cases tableS a
  · rfl
  cases tableS b
  · rfl
  simp only [Bool.not_true, cond_false, Bool.and_self, if_true]
  unfold s_relation_Of_j1
  rw [cond_false]
  have bad : s_relation_Of_j2 i j true a b ⟨⟨0, 0⟩, ⟨0, 0⟩, 0, 0, 0, 0, 0, 0, 0⟩ = some (⟨⟨0, 0⟩, ⟨0, 0⟩, 0, 0, 0, 0, 0, 0, 0⟩, 2) := rfl
  by_cases h1 : i < 0
  · rw [decide_eq_true h1, cond_true, if_neg (by omega)]; exact bad
  by_cases h2 : i ≥ a.Columns.length
  · rw [decide_eq_false h1, decide_eq_true h2, cond_false, cond_true, if_neg (by omega)]; exact bad
  by_cases h3 : j < 0
  · rw [decide_eq_false h1, decide_eq_false h2, decide_eq_true h3, cond_false, cond_false, cond_true, if_neg (by omega)]; exact bad
  by_cases h4 : j ≥ b.Columns.length
  · rw [decide_eq_false h1, decide_eq_false h2, decide_eq_false h3, decide_eq_true h4, cond_false, cond_false, cond_false, if_neg (by omega)]; exact bad
  rw [decide_eq_false h1, decide_eq_false h2, decide_eq_false h3, decide_eq_false h4, cond_false, cond_false, cond_false, if_pos (by omega)]
  have hi : i.toNat < a.Columns.length := by omega
  have hj : j.toNat < b.Columns.length := by omega
  unfold s_relation_Of_j2
  have ei : idx a.Columns i = some a.Columns[i.toNat] := by unfold idx; rw [if_pos (by omega), List.getElem?_eq_getElem hi]
  have ej : idx b.Columns j = some b.Columns[j.toNat] := by unfold idx; rw [if_pos (by omega), List.getElem?_eq_getElem hj]
  have sa := ha.2 _ (List.getElem_mem hi)
  have sb := hb.2 _ (List.getElem_mem hj)
  rw [ei, ej, rows_eq, rows_eq, List.getElem?_eq_getElem hi, List.getElem?_eq_getElem hj]
  simp only [cond_false, Option.bind_some, Option.getD_some]
  rw [counts_eq _ (by omega), counts_eq _ (by omega)]
  simp only [Option.bind_some]
  have cx := cnt0 a.Columns[i.toNat].Cells
  have cy := cnt0 b.Columns[j.toNat].Cells
  rw [against_eq _ _ _ (bndA cx sa (rowsS_bnd ha)), against_eq _ _ _ (bndA cy sb (rowsS_bnd hb))]
  simp only [Option.bind_some]
  have lx := cnt_len cx
  have ly := cnt_len cy
  have sx := cx.sum
  have sy := cy.sum
  have hh := hits_bnd cx (cntL b.Columns[j.toNat].Cells [])
  have e1 : ((cntL a.Columns[i.toNat].Cells []).foldl (stepA (cntL b.Columns[j.toNat].Cells [])) (0, 0, rowsS a)).1 = ((hits (cntL a.Columns[i.toNat].Cells []) (cntL b.Columns[j.toNat].Cells [])).length : Int) := by rw [foldA]; simp
  rw [decide_eq_true (show (cntL a.Columns[i.toNat].Cells []).length ≤ maxInt by unfold maxInt; omega), decide_eq_true (show (cntL b.Columns[j.toNat].Cells []).length ≤ maxInt by unfold maxInt; omega), inK_i64 (by rw [e1]; omega), inK_i64 (by rw [e1]; omega)]
  rfl

theorem rof_eq (a : G_api_Table) (i : Int) (b : G_api_Table) (j : Int) (ha : SizeOk a) (hb : SizeOk b) (ta : TextsOk a) (tb : TextsOk b) : s_tablefinderref29_Of a i b j = some (relS a i b j) := by
  unfold s_tablefinderref29_Of relS
  rw [rtable_eq a ta (by have := ha.1; omega), rtable_eq b tb (by have := hb.1; omega)]
  simp only [Option.bind_some]
  cases tableS a
  · rfl
  cases tableS b
  · rfl
  simp only [Bool.not_true, cond_false, Bool.and_self, if_true]
  unfold s_tablefinderref29_Of_j1
  rw [cond_false]
  have bad : s_tablefinderref29_Of_j2 i j true a b ⟨⟨0, 0⟩, ⟨0, 0⟩, 0, 0, 0, 0, 0, 0, 0⟩ = some (⟨⟨0, 0⟩, ⟨0, 0⟩, 0, 0, 0, 0, 0, 0, 0⟩, 2) := rfl
  by_cases h1 : i < 0
  · rw [decide_eq_true h1, cond_true, if_neg (by omega)]; exact bad
  by_cases h2 : i ≥ a.Columns.length
  · rw [decide_eq_false h1, decide_eq_true h2, cond_false, cond_true, if_neg (by omega)]; exact bad
  by_cases h3 : j < 0
  · rw [decide_eq_false h1, decide_eq_false h2, decide_eq_true h3, cond_false, cond_false, cond_true, if_neg (by omega)]; exact bad
  by_cases h4 : j ≥ b.Columns.length
  · rw [decide_eq_false h1, decide_eq_false h2, decide_eq_false h3, decide_eq_true h4, cond_false, cond_false, cond_false, if_neg (by omega)]; exact bad
  rw [decide_eq_false h1, decide_eq_false h2, decide_eq_false h3, decide_eq_false h4, cond_false, cond_false, cond_false, if_pos (by omega)]
  have hi : i.toNat < a.Columns.length := by omega
  have hj : j.toNat < b.Columns.length := by omega
  unfold s_tablefinderref29_Of_j2
  have ei : idx a.Columns i = some a.Columns[i.toNat] := by unfold idx; rw [if_pos (by omega), List.getElem?_eq_getElem hi]
  have ej : idx b.Columns j = some b.Columns[j.toNat] := by unfold idx; rw [if_pos (by omega), List.getElem?_eq_getElem hj]
  have sa := ha.2 _ (List.getElem_mem hi)
  have sb := hb.2 _ (List.getElem_mem hj)
  rw [ei, ej, rrows_eq, rrows_eq, List.getElem?_eq_getElem hi, List.getElem?_eq_getElem hj]
  simp only [cond_false, Option.bind_some, Option.getD_some]
  rw [rcounts_same, rcounts_same, counts_eq _ (by omega), counts_eq _ (by omega)]
  simp only [Option.bind_some]
  have cx := cnt0 a.Columns[i.toNat].Cells
  have cy := cnt0 b.Columns[j.toNat].Cells
  have lx := cnt_len cx
  have ly := cnt_len cy
  have sx := cx.sum
  have sy := cy.sum
  have rx := rowsS_bnd ha
  have ry := rowsS_bnd hb
  have px := sum_pos _ cx.pos
  have hh := hits_bnd cx (cntL b.Columns[j.toNat].Cells [])
  rw [ofLoop_eq _ 1000000 (fun s => by have := getC_le cy.pos s; omega) _ _ _ ⟨by simp, by simp, by simp only; omega, cx.pos, by simp only; omega, by simp only; omega, by simp only; omega, by simp only; omega⟩]
  simp only [Option.bind_some]
  rw [core_same _ _ _ _ _ _ _ _ cx cy]
  have e1 : ((cntL a.Columns[i.toNat].Cells []).foldl (stepA (cntL b.Columns[j.toNat].Cells [])) (0, 0, rowsS a)).1 = ((hits (cntL a.Columns[i.toNat].Cells []) (cntL b.Columns[j.toNat].Cells [])).length : Int) := by rw [foldA]; simp
  unfold s_tablefinderref29_Of_k3
  rw [decide_eq_true (show (cntL b.Columns[j.toNat].Cells []).length ≤ maxInt by unfold maxInt; omega), inK_i64 (by dsimp only; rw [e1]; omega)]
  rfl

end Go.Proofs

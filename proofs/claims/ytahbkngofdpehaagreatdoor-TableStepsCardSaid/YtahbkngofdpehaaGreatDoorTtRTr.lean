/- Tables: which are valid: the document's answer. -/
import Derived.Test.YtahbkngofdpehaaGreatDoorTtRT0
set_option linter.unusedVariables false
set_option linter.unusedSimpArgs false
set_option linter.unusedSectionVars false
namespace Go.Proofs
open Go Eng
theorem name_eq (s : Str) (hs : s.length ≤ 9223372036854775807) : s_tablefinderref03_name s = some (fineS s) := by
  unfold s_tablefinderref03_name s_tablefinderref03_name_j1 s_tablefinderref02_Valid fineS
  rw [valid_eq s hs]
  cases vs s <;> simp

theorem rcell_eq (c : G_api_Cell) (hs : c.Text.length ≤ 9223372036854775807) : s_tablefinderref03_ValidCell c = some (cellS c) := by
  unfold s_tablefinderref03_ValidCell s_tablefinderref03_ValidCell_j1 s_tablefinderref02_Valid cellS fineS
  rw [valid_eq _ hs]
  cases vs c.Text <;> cases h : decide ((c.Text.length : Int) ≤ 1024) <;> cases c.Null <;> simp

theorem rrows_eq (t : G_api_Table) : s_tablefinderref03_Rows t = some (rowsS t) := by
  unfold s_tablefinderref03_Rows rowsS
  cases t.Columns with
  | nil => rfl
  | cons c l =>
    have : (((c :: l).length : Int) == 0) = false := by
      rw [List.length_cons, beq_eq_false_iff_ne]; omega
    rw [this]; rfl

theorem rcells_loop (a : List G_api_Column) (b d : Int) (l : List G_api_Cell) (t : G_api_Table) (hl : l.length ≤ 1000000000000) (hx : ∀ x ∈ l, x.Text.length ≤ 9223372036854775807) :
    wp (s_tablefinderref03_Valid_l2 big a b d l (l.length : Int) 0 t) (fun r => r = if l.all cellS then .brk (a, b, d, t) else .ret false) := by
  refine loop_wp (f := fun n i => s_tablefinderref03_Valid_l2 n a b d l (l.length : Int) i t) (body := fun rec i => s_tablefinderref03_Valid_l2_b (fun _ _ _ _ _ i _ => rec i) a b d l (l.length : Int) i t) (fun n i => rfl)
    (fun i => ∃ k : Nat, k ≤ l.length ∧ i = (k : Int) ∧ (l.take k).all cellS = true) (fun i => l.length - i.toNat) _ ?_ big 0 ⟨0, Nat.zero_le _, rfl, by simp⟩ (big_lt (by omega))
  rintro rec i ⟨k, hk, rfl, hp⟩ ih
  unfold s_tablefinderref03_Valid_l2_b
  rw [wp_bif]
  refine ⟨fun h => ?_, fun h => ?_⟩
  · simp only [decide_eq_true_eq] at h
    have hlt : k < l.length := by omega
    rw [wp_bind, wp_idx]
    refine ⟨by omega, by omega, ?_⟩
    simp only [Int.toNat_natCast]
    rw [rcell_eq _ (hx _ (List.getElem_mem _)), wp_bind, wp_some, wp_bif, wp_some, wp_chk]
    refine ⟨fun h1 => ?_, fun h1 => ⟨inK_i64 (by omega), ih _ ⟨k + 1, by omega, by omega, ?_⟩ (by omega)⟩⟩
    · simp only [Bool.not_eq_true'] at h1
      have : l.all cellS = false := List.all_eq_false.2 ⟨l[k], List.getElem_mem _, by rw [h1]; simp⟩
      rw [this]; rfl
    · simp only [Bool.not_eq_false'] at h1
      rw [List.take_succ_eq_append_getElem hlt, List.all_append, hp]; simp [h1]
  · simp only [decide_eq_false_iff_not] at h
    have : k = l.length := by omega
    subst this
    rw [List.take_length] at hp
    rw [wp_some, hp]; rfl

theorem rcols_loop (t : G_api_Table) (ht : TextsOk t) (hl : t.Columns.length ≤ 1000000000000) :
    wp (s_tablefinderref03_Valid_l1 big t.Columns (t.Columns.length : Int) 0 t) (fun r => r = if t.Columns.all (rcolS (rowsS t)) then .brk () else .ret false) := by
  refine loop_wp (f := fun n s => s_tablefinderref03_Valid_l1 n s.1 s.2.1 s.2.2.1 s.2.2.2) (body := fun rec s => s_tablefinderref03_Valid_l1_b (fun a b c d => rec (a, b, c, d)) s.1 s.2.1 s.2.2.1 s.2.2.2) (fun n s => rfl)
    (fun s => ∃ k : Nat, k ≤ t.Columns.length ∧ s = (t.Columns, (t.Columns.length : Int), (k : Int), t) ∧ (t.Columns.take k).all (rcolS (rowsS t)) = true) (fun s => t.Columns.length - s.2.2.1.toNat) _ ?_ big (t.Columns, (t.Columns.length : Int), 0, t) ⟨0, Nat.zero_le _, rfl, by simp⟩ (big_lt (by dsimp only; omega))
  rintro rec s ⟨k, hk, rfl, hp⟩ ih
  dsimp only at ih ⊢
  unfold s_tablefinderref03_Valid_l1_b
  rw [wp_bif]
  refine ⟨fun h => ?_, fun h => ?_⟩
  · simp only [decide_eq_true_eq] at h
    have hlt : k < t.Columns.length := by omega
    obtain ⟨hn, hcx⟩ := ht.2 _ (List.getElem_mem hlt)
    rw [wp_bind, wp_idx]
    refine ⟨by omega, by omega, ?_⟩
    simp only [Int.toNat_natCast]
    rw [name_eq _ hn, wp_bind, wp_some]
    have bad : rcolS (rowsS t) t.Columns[k] = false → (Out.ret false : Out Unit Bool) = if t.Columns.all (rcolS (rowsS t)) then .brk () else .ret false := fun hb => by
      have : t.Columns.all (rcolS (rowsS t)) = false := List.all_eq_false.2 ⟨_, List.getElem_mem hlt, by rw [hb]; simp⟩
      rw [this]; rfl
    have fin : ∀ q : Bool, (rcolS (rowsS t) t.Columns[k] = (!q && t.Columns[k].Cells.all cellS)) → (q = false → t.Columns[k].Cells.length ≤ 4096) →
        wp (s_tablefinderref03_Valid_j2 (fun a b c d => rec (a, b, c, d)) t.Columns (t.Columns.length : Int) (k : Int) q t t.Columns[k]) (fun r => r = if t.Columns.all (rcolS (rowsS t)) then .brk () else .ret false) := fun q hq hsz => by
      unfold s_tablefinderref03_Valid_j2 s_tablefinderref03_Valid_k3
      cases q with
      | true => rw [cond_true, wp_some]; exact bad (by rw [hq]; rfl)
      | false =>
        rw [cond_false, wp_bind]
        refine wp_mono (rcells_loop _ _ _ _ _ (by have := hsz rfl; omega) hcx) ?_
        rintro r rfl
        cases hall : t.Columns[k].Cells.all cellS with
        | true =>
          simp only [if_true, wp_chk]
          refine ⟨inK_i64 (by omega), ih _ ⟨k + 1, by omega, by simp, ?_⟩ (by dsimp only; omega)⟩
          rw [List.take_succ_eq_append_getElem hlt, List.all_append, hp]
          simp [hq, hall]
        | false =>
          simp only [Bool.false_eq_true, if_false, wp_some]
          exact bad (by rw [hq, hall]; rfl)
    rw [wp_bif]
    refine ⟨fun hf => fin true ?_ (fun h => nomatch h), fun hf => ?_⟩
    · simp only [Bool.not_eq_true'] at hf
      simp [rcolS, hf]
    · simp only [Bool.not_eq_false'] at hf
      rw [wp_bif]
      refine ⟨fun hg => fin true ?_ (fun h => nomatch h), fun hg => ?_⟩
      · simp only [decide_eq_true_eq] at hg
        have : decide ((t.Columns[k].Cells.length : Int) ≤ 4096) = false := decide_eq_false (by omega)
        simp [rcolS, this]
      · simp only [decide_eq_false_iff_not] at hg
        rw [wp_bind, wp_idx]
        refine ⟨by omega, by omega, fin _ ?_ (fun _ => by omega)⟩
        have h1 : decide ((t.Columns[k].Cells.length : Int) ≤ 4096) = true := decide_eq_true (by omega)
        have h2 : rowsS t = (t.Columns[(0 : Int).toNat].Cells.length : Int) := (rowsS_eq t).trans (rows_head t.Columns (by omega))
        simp only [rcolS, hf, h1, h2, Bool.true_and, bne, Bool.not_not]
  · simp only [decide_eq_false_iff_not] at h
    have : k = t.Columns.length := by omega
    subst this
    rw [List.take_length] at hp
    rw [wp_some, hp]; rfl

theorem rtable_eq (t : G_api_Table) (ht : TextsOk t) (hl : t.Columns.length ≤ 1000000000000) : s_tablefinderref03_Valid t = some (tableS t) := by
  have key : t.Columns.all (rcolS (rowsS t)) = (decide (rowsS t ≤ 4096) && t.Columns.all (colS (rowsS t))) := by
    by_cases h5 : rowsS t ≤ 4096
    · rw [decide_eq_true h5, Bool.true_and]
      congr 1
      funext c
      unfold rcolS colS
      cases h : (c.Cells.length : Int) == rowsS t with
      | false => simp
      | true =>
        have : (c.Cells.length : Int) ≤ 4096 := by rw [beq_iff_eq] at h; omega
        rw [decide_eq_true this, Bool.true_and]
    · rw [decide_eq_false h5, Bool.false_and]
      unfold rowsS at h5
      cases hcs : t.Columns with
      | nil => rw [hcs] at h5; simp at h5
      | cons c l =>
        rw [hcs] at h5
        dsimp only at h5
        have : decide ((c.Cells.length : Int) ≤ 4096) = false := decide_eq_false h5
        simp [rcolS, this]
  unfold s_tablefinderref03_Valid s_tablefinderref03_Valid_j1 s_tablefinderref03_Valid_k4 tableS
  rw [name_eq _ ht.1, ← key]
  have hloop : (s_tablefinderref03_Valid_l1 big t.Columns (t.Columns.length : Int) 0 t) = some (if t.Columns.all (rcolS (rowsS t)) then .brk () else .ret false) := eq_of_wp (rcols_loop t ht hl)
  rw [hloop]
  simp only [Option.bind_some]
  by_cases h1 : t.ID < 0
  · simp [h1]; omega
  by_cases h2 : t.ID > 1073741824
  · simp [h1, h2]; omega
  cases h3 : fineS t.Name
  · simp [h1, h2]
  by_cases h4 : (t.Columns.length : Int) > 64
  · simp [h1, h2, h4]; omega
  have e1 : 0 ≤ t.ID := by omega
  have e2 : t.ID ≤ 1073741824 := by omega
  have e4 : (t.Columns.length : Int) ≤ 64 := by omega
  rw [decide_eq_false h1, decide_eq_false h2, decide_eq_false h4, decide_eq_true e1, decide_eq_true e2, decide_eq_true e4]
  cases t.Columns.all (rcolS (rowsS t)) <;> rfl



end Go.Proofs

/- Tables: which are valid; both programs say the same. -/
import Derived.Test.YtjdddnbddnhilaaDoorRkRV
set_option linter.unusedVariables false
set_option linter.unusedSimpArgs false
set_option linter.unusedSectionVars false
namespace Go.Proofs
open Go Eng

/-- A loop that looks for the first element of which p says no. -/
theorem all_loop {α X : Type} {f : Nat → Int → Option (Out Unit X)} {body : (Int → Option (Out Unit X)) → Int → Option (Out Unit X)} (xs : List α) (p : α → Bool) (x : X) (hf : ∀ n i, f (n + 1) i = body (f n) i) (hlen : xs.length ≤ 1000000000000)
    (hb : ∀ (rec : Int → Option (Out Unit X)) (i : Nat) (h : i < xs.length) (Q : Out Unit X → Prop), (p xs[i] = false → Q (.ret x)) → (p xs[i] = true → wp (rec ((i : Int) + 1)) Q) → wp (body rec i) Q)
    (he : ∀ (rec : Int → Option (Out Unit X)) (Q : Out Unit X → Prop), Q (.brk ()) → wp (body rec (xs.length : Int)) Q) :
    wp (f big 0) (fun r => r = if xs.all p then .brk () else .ret x) := by
  refine loop_wp hf (fun i => ∃ k : Nat, k ≤ xs.length ∧ i = (k : Int) ∧ (xs.take k).all p = true) (fun i => xs.length - i.toNat) _ ?_ big 0 ⟨0, Nat.zero_le _, rfl, by simp⟩ (big_lt (by omega))
  rintro rec i ⟨k, hk, rfl, hp⟩ ih
  by_cases hlt : k < xs.length
  · refine hb rec k hlt _ (fun h => ?_) (fun h => ih _ ⟨k + 1, by omega, by omega, ?_⟩ (by omega))
    · have : xs.all p = false := List.all_eq_false.2 ⟨xs[k], List.getElem_mem _, by rw [h]; simp⟩
      rw [this]; rfl
    · rw [List.take_succ_eq_append_getElem hlt, List.all_append, hp]; simp [h]
  · have : k = xs.length := by omega
    subst this
    refine he rec _ ?_
    rw [List.take_length] at hp
    rw [hp]; rfl

def fineS (s : Str) : Bool := decide ((s.length : Int) ≤ 1024) && vs s
theorem fine_eq (s : Str) : s_table_fine s = some (fineS s) := by
  unfold s_table_fine s_table_fine_j1 s_text_Valid fineS
  by_cases h : (s.length : Int) ≤ 1024
  · rw [decide_eq_true h, valid_eq s (by omega)]; rfl
  · rw [decide_eq_false h]; rfl
theorem name_eq (s : Str) (hs : s.length ≤ 9223372036854775807) : s_tablefinderref03_name s = some (fineS s) := by
  unfold s_tablefinderref03_name s_tablefinderref03_name_j1 s_tablefinderref02_Valid fineS
  rw [valid_eq s hs]
  cases vs s <;> simp

def cellS (c : G_api_Cell) : Bool := fineS c.Text && (!c.Null || c.Text == [])
theorem cell_eq (c : G_api_Cell) : s_table_ValidCell c = some (cellS c) := by
  unfold s_table_ValidCell s_table_ValidCell_j1 cellS
  rw [fine_eq]
  cases fineS c.Text <;> cases c.Null <;> simp
theorem rcell_eq (c : G_api_Cell) (hs : c.Text.length ≤ 9223372036854775807) : s_tablefinderref03_ValidCell c = some (cellS c) := by
  unfold s_tablefinderref03_ValidCell s_tablefinderref03_ValidCell_j1 s_tablefinderref02_Valid cellS fineS
  rw [valid_eq _ hs]
  cases vs c.Text <;> cases h : decide ((c.Text.length : Int) ≤ 1024) <;> cases c.Null <;> simp

theorem every_eq (l : List G_api_Cell) (hl : l.length ≤ 1000000000000) : s_table_every_api_Cell l = some (l.all cellS) := by
  refine eq_of_wp ?_
  unfold s_table_every_api_Cell s_table_every_api_Cell_k1
  rw [wp_bind]
  refine wp_mono (all_loop (f := fun n i => s_table_every_api_Cell_l1 n l (l.length : Int) i) (body := fun rec i => s_table_every_api_Cell_l1_b (fun _ _ i => rec i) l (l.length : Int) i) l cellS false (fun n i => rfl) hl (fun rec i h Q h0 h1 => ?_) (fun rec Q h0 => ?_)) ?_
  · unfold s_table_every_api_Cell_l1_b
    simp only [wp_bif, wp_bind, wp_idx, wp_chk, wp_some, cell_eq, decide_eq_true_eq, decide_eq_false_iff_not, Int.toNat_natCast, Bool.not_eq_true', Bool.not_eq_false']
    exact ⟨fun _ => ⟨by omega, h, h0, fun hc => ⟨inK_i64 (by omega), h1 hc⟩⟩, fun hc => absurd (by omega) hc⟩
  · unfold s_table_every_api_Cell_l1_b
    simp only [wp_bif, wp_some, decide_eq_true_eq, decide_eq_false_iff_not]
    exact ⟨fun hc => absurd hc (by omega), fun _ => h0⟩
  · rintro r rfl
    cases l.all cellS <;> simp [wp_some]

def rowsS (t : G_api_Table) : Int := match t.Columns with | [] => 0 | c :: _ => c.Cells.length
theorem rows_eq (t : G_api_Table) : s_table_Rows t = some (rowsS t) := by
  unfold s_table_Rows rowsS
  cases t.Columns with
  | nil => rfl
  | cons c l =>
    have : (((c :: l).length : Int) == 0) = false := by
      rw [List.length_cons, beq_eq_false_iff_ne]; omega
    rw [this]; rfl
theorem rrows_eq (t : G_api_Table) : s_tablefinderref03_Rows t = some (rowsS t) := by
  unfold s_tablefinderref03_Rows rowsS
  cases t.Columns with
  | nil => rfl
  | cons c l =>
    have : (((c :: l).length : Int) == 0) = false := by
      rw [List.length_cons, beq_eq_false_iff_ne]; omega
    rw [this]; rfl

def colS (n : Int) (c : G_api_Column) : Bool := fineS c.Name && ((c.Cells.length : Int) == n && c.Cells.all cellS)
theorem col_eq (c : G_api_Column) (t : G_api_Table) (hc : c.Cells.length ≤ 1000000000000) : s_table_Valid_1 c t = some (!colS (rowsS t) c) := by
  unfold s_table_Valid_1 s_table_Valid_1_j1 colS
  rw [fine_eq, rows_eq, every_eq _ hc]
  cases fineS c.Name
  · rfl
  · simp only [Option.bind_some, Bool.not_true, cond_false, bne, Bool.true_and]
    cases (c.Cells.length : Int) == rowsS t <;> rfl

theorem index_eq (l : List G_api_Column) (t : G_api_Table) (hl : l.length ≤ 1000000000000) (hc : ∀ c ∈ l, c.Cells.length ≤ 1000000000000) : s_slices_ContainsFunc_api_Column_api_Column l t = some (!l.all (colS (rowsS t))) := by
  refine eq_of_wp ?_
  unfold s_slices_ContainsFunc_api_Column_api_Column s_slices_IndexFunc_api_Column_api_Column s_slices_IndexFunc_api_Column_api_Column_k1
  rw [wp_bind, wp_bind]
  refine wp_mono (loop_wp (f := fun n i => s_slices_IndexFunc_api_Column_api_Column_l1 n l t (l.length : Int) i) (body := fun rec i => s_slices_IndexFunc_api_Column_api_Column_l1_b (fun _ _ _ i => rec i) l t (l.length : Int) i) (fun n i => rfl)
    (fun i => ∃ k : Nat, k ≤ l.length ∧ i = (k : Int) ∧ (l.take k).all (colS (rowsS t)) = true) (fun i => l.length - i.toNat)
    (fun r => (r = .brk () ∧ l.all (colS (rowsS t)) = true) ∨ ∃ k : Nat, r = .ret (k : Int) ∧ l.all (colS (rowsS t)) = false) ?_ big 0 ⟨0, Nat.zero_le _, rfl, by simp⟩ (big_lt (by omega))) ?_
  · rintro rec i ⟨k, hk, rfl, hp⟩ ih
    unfold s_slices_IndexFunc_api_Column_api_Column_l1_b
    rw [wp_bif]
    refine ⟨fun h => ?_, fun h => ?_⟩
    · simp only [decide_eq_true_eq] at h
      have hlt : k < l.length := by omega
      rw [wp_bind, wp_idx]
      refine ⟨by omega, by omega, ?_⟩
      simp only [Int.toNat_natCast]
      rw [col_eq _ _ (hc _ (List.getElem_mem _)), wp_bind, wp_some, wp_bif, wp_some, wp_chk]
      refine ⟨fun h1 => .inr ⟨k, rfl, ?_⟩, fun h1 => ⟨inK_i64 (by omega), ih _ ⟨k + 1, by omega, by omega, ?_⟩ (by omega)⟩⟩
      · simp only [Bool.not_eq_true'] at h1
        exact List.all_eq_false.2 ⟨l[k], List.getElem_mem _, by rw [h1]; simp⟩
      · simp only [Bool.not_eq_false'] at h1
        rw [List.take_succ_eq_append_getElem hlt, List.all_append, hp]; simp [h1]
    · simp only [decide_eq_false_iff_not] at h
      have : k = l.length := by omega
      subst this
      rw [List.take_length] at hp
      rw [wp_some]; exact .inl ⟨rfl, hp⟩
  · rintro r (⟨rfl, h⟩ | ⟨k, rfl, h⟩)
    · simp only [wp_some, h]; rfl
    · simp only [wp_some, h, Bool.not_false, decide_eq_true_eq]; omega

def tableS (t : G_api_Table) : Bool := decide (0 ≤ t.ID) && (decide (t.ID ≤ 1073741824) && (fineS t.Name && (decide ((t.Columns.length : Int) ≤ 64) && (decide (rowsS t ≤ 4096) && t.Columns.all (colS (rowsS t))))))

theorem table_eq (t : G_api_Table) (hl : t.Columns.length ≤ 1000000000000) (hc : ∀ c ∈ t.Columns, c.Cells.length ≤ 1000000000000) : s_table_Valid t = some (tableS t) := by
  unfold s_table_Valid s_table_Valid_j1 tableS
  rw [fine_eq, rows_eq, index_eq _ _ hl hc]
  simp only [Option.bind_some]
  by_cases h1 : t.ID < 0
  · simp [h1]; omega
  by_cases h2 : t.ID > 1073741824
  · simp [h1, h2]; omega
  cases h3 : fineS t.Name
  · simp [h1, h2]
  by_cases h4 : (t.Columns.length : Int) > 64
  · simp [h1, h2, h4]; omega
  by_cases h5 : rowsS t > 4096
  · simp [h1, h2, h4, h5]; omega
  have e1 : 0 ≤ t.ID := by omega
  have e2 : t.ID ≤ 1073741824 := by omega
  have e4 : (t.Columns.length : Int) ≤ 64 := by omega
  have e5 : rowsS t ≤ 4096 := by omega
  rw [decide_eq_false h1, decide_eq_false h2, decide_eq_false h4, decide_eq_false h5, decide_eq_true e1, decide_eq_true e2, decide_eq_true e4, decide_eq_true e5]
  simp

def rowsL : List G_api_Column → Int
  | [] => 0
  | c :: _ => (c.Cells.length : Int)
theorem rows_head : ∀ (cs : List G_api_Column) (h : 0 < cs.length), rowsL cs = (cs[0].Cells.length : Int)
  | _ :: _, _ => rfl
theorem rowsS_eq (t : G_api_Table) : rowsS t = rowsL t.Columns := by unfold rowsS rowsL; rfl

/-! ## The document's answer -/
def TextsOk (t : G_api_Table) : Prop := t.Name.length ≤ 9223372036854775807 ∧ ∀ c ∈ t.Columns, c.Name.length ≤ 9223372036854775807 ∧ ∀ x ∈ c.Cells, x.Text.length ≤ 9223372036854775807

theorem rcells_loop (a : List G_api_Column) (b d : Int) (l : List G_api_Cell) (t : G_api_Table) (hl : l.length ≤ 1000000000000) (hx : ∀ x ∈ l, x.Text.length ≤ 9223372036854775807) :
    wp (s_tablefinderref03_Valid_l2 big a b d l (l.length : Int) 0 t) (fun r => r = if l.all cellS then .brk (a, b, d, t) else .ret false) := by
  refine loop_wp (f := fun n i => s_tablefinderref03_Valid_l2 n a b d l (l.length : Int) i t) (body := fun rec i => s_tablefinderref03_Valid_l2_b (fun _ _ _ _ _ i _ => rec i) a b d l (l.length : Int) i t) (fun n i => rfl)
    (fun i => ∃ k : Nat, k ≤ l.length ∧ i = (k : Int) ∧ (l.take k).all cellS = true) (fun i => l.length - i.toNat) _ ?_ big 0 ⟨0, Nat.zero_le _, rfl, by simp⟩ (big_lt (by omega))
  rintro rec i ⟨k, hk, rfl, hp⟩ ih
  unfold s_tablefinderref03_Valid_l2_b
  rw [wp_bif]
  refine ⟨fun h => ?_, fun h => ?_⟩
  · simp only [decide_eq_true_eq] at h
    have hlt : k < l.length := by omega
    rw [wp_bind, wp_idx]
    refine ⟨by omega, by omega, ?_⟩
    simp only [Int.toNat_natCast]
    rw [rcell_eq _ (hx _ (List.getElem_mem _)), wp_bind, wp_some, wp_bif, wp_some, wp_chk]
    refine ⟨fun h1 => ?_, fun h1 => ⟨inK_i64 (by omega), ih _ ⟨k + 1, by omega, by omega, ?_⟩ (by omega)⟩⟩
    · simp only [Bool.not_eq_true'] at h1
      have : l.all cellS = false := List.all_eq_false.2 ⟨l[k], List.getElem_mem _, by rw [h1]; simp⟩
      rw [this]; rfl
    · simp only [Bool.not_eq_false'] at h1
      rw [List.take_succ_eq_append_getElem hlt, List.all_append, hp]; simp [h1]
  · simp only [decide_eq_false_iff_not] at h
    have : k = l.length := by omega
    subst this
    rw [List.take_length] at hp
    rw [wp_some, hp]; rfl

def rcolS (n : Int) (c : G_api_Column) : Bool := fineS c.Name && (decide ((c.Cells.length : Int) ≤ 4096) && ((c.Cells.length : Int) == n && c.Cells.all cellS))

theorem rcols_loop (t : G_api_Table) (ht : TextsOk t) (hl : t.Columns.length ≤ 1000000000000) :
    wp (s_tablefinderref03_Valid_l1 big t.Columns (t.Columns.length : Int) 0 t) (fun r => r = if t.Columns.all (rcolS (rowsS t)) then .brk () else .ret false) := by
  refine loop_wp (f := fun n s => s_tablefinderref03_Valid_l1 n s.1 s.2.1 s.2.2.1 s.2.2.2) (body := fun rec s => s_tablefinderref03_Valid_l1_b (fun a b c d => rec (a, b, c, d)) s.1 s.2.1 s.2.2.1 s.2.2.2) (fun n s => rfl)
    (fun s => ∃ k : Nat, k ≤ t.Columns.length ∧ s = (t.Columns, (t.Columns.length : Int), (k : Int), t) ∧ (t.Columns.take k).all (rcolS (rowsS t)) = true) (fun s => t.Columns.length - s.2.2.1.toNat) _ ?_ big (t.Columns, (t.Columns.length : Int), 0, t) ⟨0, Nat.zero_le _, rfl, by simp⟩ (big_lt (by dsimp only; omega))
  rintro rec s ⟨k, hk, rfl, hp⟩ ih
  dsimp only at ih ⊢
  unfold s_tablefinderref03_Valid_l1_b
  rw [wp_bif]
  refine ⟨fun h => ?_, fun h => ?_⟩
  · simp only [decide_eq_true_eq] at h
    have hlt : k < t.Columns.length := by omega
    obtain ⟨hn, hcx⟩ := ht.2 _ (List.getElem_mem hlt)
    rw [wp_bind, wp_idx]
    refine ⟨by omega, by omega, ?_⟩
    simp only [Int.toNat_natCast]
    rw [name_eq _ hn, wp_bind, wp_some]
    have bad : rcolS (rowsS t) t.Columns[k] = false → (Out.ret false : Out Unit Bool) = if t.Columns.all (rcolS (rowsS t)) then .brk () else .ret false := fun hb => by
      have : t.Columns.all (rcolS (rowsS t)) = false := List.all_eq_false.2 ⟨_, List.getElem_mem hlt, by rw [hb]; simp⟩
      rw [this]; rfl
    have fin : ∀ q : Bool, (rcolS (rowsS t) t.Columns[k] = (!q && t.Columns[k].Cells.all cellS)) → (q = false → t.Columns[k].Cells.length ≤ 4096) →
        wp (s_tablefinderref03_Valid_j2 (fun a b c d => rec (a, b, c, d)) t.Columns (t.Columns.length : Int) (k : Int) q t t.Columns[k]) (fun r => r = if t.Columns.all (rcolS (rowsS t)) then .brk () else .ret false) := fun q hq hsz => by
      unfold s_tablefinderref03_Valid_j2 s_tablefinderref03_Valid_k3
      cases q with
      | true => rw [cond_true, wp_some]; exact bad (by rw [hq]; rfl)
      | false =>
        rw [cond_false, wp_bind]
        refine wp_mono (rcells_loop _ _ _ _ _ (by have := hsz rfl; omega) hcx) ?_
        rintro r rfl
        cases hall : t.Columns[k].Cells.all cellS with
        | true =>
          simp only [if_true, wp_chk]
          refine ⟨inK_i64 (by omega), ih _ ⟨k + 1, by omega, by simp, ?_⟩ (by dsimp only; omega)⟩
          rw [List.take_succ_eq_append_getElem hlt, List.all_append, hp]
          simp [hq, hall]
        | false =>
          simp only [Bool.false_eq_true, if_false, wp_some]
          exact bad (by rw [hq, hall]; rfl)
    rw [wp_bif]
    refine ⟨fun hf => fin true ?_ (fun h => nomatch h), fun hf => ?_⟩
    · simp only [Bool.not_eq_true'] at hf
      simp [rcolS, hf]
    · simp only [Bool.not_eq_false'] at hf
      rw [wp_bif]
      refine ⟨fun hg => fin true ?_ (fun h => nomatch h), fun hg => ?_⟩
      · simp only [decide_eq_true_eq] at hg
        have : decide ((t.Columns[k].Cells.length : Int) ≤ 4096) = false := decide_eq_false (by omega)
        simp [rcolS, this]
      · simp only [decide_eq_false_iff_not] at hg
        rw [wp_bind, wp_idx]
        refine ⟨by omega, by omega, fin _ ?_ (fun _ => by omega)⟩
        have h1 : decide ((t.Columns[k].Cells.length : Int) ≤ 4096) = true := decide_eq_true (by omega)
        have h2 : rowsS t = (t.Columns[(0 : Int).toNat].Cells.length : Int) := (rowsS_eq t).trans (rows_head t.Columns (by omega))
        simp only [rcolS, hf, h1, h2, Bool.true_and, bne, Bool.not_not]
  · simp only [decide_eq_false_iff_not] at h
    have : k = t.Columns.length := by omega
    subst this
    rw [List.take_length] at hp
    rw [wp_some, hp]; rfl

theorem rtable_eq (t : G_api_Table) (ht : TextsOk t) (hl : t.Columns.length ≤ 1000000000000) : s_tablefinderref03_Valid t = some (tableS t) := by
  have key : t.Columns.all (rcolS (rowsS t)) = (decide (rowsS t ≤ 4096) && t.Columns.all (colS (rowsS t))) := by
    by_cases h5 : rowsS t ≤ 4096
    · rw [decide_eq_true h5, Bool.true_and]
      congr 1
      funext c
      unfold rcolS colS
      cases h : (c.Cells.length : Int) == rowsS t with
      | false => simp
      | true =>
        have : (c.Cells.length : Int) ≤ 4096 := by rw [beq_iff_eq] at h; omega
        rw [decide_eq_true this, Bool.true_and]
    · rw [decide_eq_false h5, Bool.false_and]
      unfold rowsS at h5
      cases hcs : t.Columns with
      | nil => rw [hcs] at h5; simp at h5
      | cons c l =>
        rw [hcs] at h5
        dsimp only at h5
        have : decide ((c.Cells.length : Int) ≤ 4096) = false := decide_eq_false h5
        simp [rcolS, this]
  unfold s_tablefinderref03_Valid s_tablefinderref03_Valid_j1 s_tablefinderref03_Valid_k4 tableS
  rw [name_eq _ ht.1, ← key]
  have hloop : (s_tablefinderref03_Valid_l1 big t.Columns (t.Columns.length : Int) 0 t) = some (if t.Columns.all (rcolS (rowsS t)) then .brk () else .ret false) := eq_of_wp (rcols_loop t ht hl)
  rw [hloop]
  simp only [Option.bind_some]
  by_cases h1 : t.ID < 0
  · simp [h1]; omega
  by_cases h2 : t.ID > 1073741824
  · simp [h1, h2]; omega
  cases h3 : fineS t.Name
  · simp [h1, h2]
  by_cases h4 : (t.Columns.length : Int) > 64
  · simp [h1, h2, h4]; omega
  have e1 : 0 ≤ t.ID := by omega
  have e2 : t.ID ≤ 1073741824 := by omega
  have e4 : (t.Columns.length : Int) ≤ 64 := by omega
  rw [decide_eq_false h1, decide_eq_false h2, decide_eq_false h4, decide_eq_true e1, decide_eq_true e2, decide_eq_true e4]
  cases t.Columns.all (rcolS (rowsS t)) <;> rfl

end Go.Proofs

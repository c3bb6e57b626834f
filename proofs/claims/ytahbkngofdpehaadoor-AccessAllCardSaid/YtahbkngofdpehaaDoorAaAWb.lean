/- What a user sees. -/
import Derived.Test.YtahbkngofdpehaaDoorAaAV
set_option linter.unusedVariables false
set_option linter.unusedSimpArgs false
set_option linter.unusedSectionVars false
namespace Go.Proofs
open Go Eng

def match1 (u : Str) (r : G_api_Ref) (p : G_api_Permission) : Bool := p.User == u && (p.Table == 0 || p.Table == r.Table) && (p.Column == -1 || p.Column == r.Column)
def mayS (l : List G_api_Permission) (u : Str) (r : G_api_Ref) : Bool := match l.reverse.find? (match1 u r) with | some p => p.Allow | none => false
theorem may_eq (l : List G_api_Permission) (u : Str) (r : G_api_Ref) : s_access_May l u r = some (mayS l u r) := rfl
theorem mayS_snoc (l : List G_api_Permission) (u : Str) (r : G_api_Ref) (p : G_api_Permission) : mayS (l ++ [p]) u r = if match1 u r p then p.Allow else mayS l u r := by
  unfold mayS
  rw [List.reverse_append, List.reverse_singleton, List.singleton_append, List.find?_cons]
  cases match1 u r p <;> rfl

theorem clone_eq (s : List G_api_Cell) (hs : s.length ≤ 1000000) : s_slices_Clone_api_Cell_api_Cell s = some s := by
  have h1 : s_slices_Clone_api_Cell_api_Cell_j1 s false = some s := by
    refine eq_of_wp ?_
    unfold s_slices_Clone_api_Cell_api_Cell_j1
    rw [cond_false, wp_chk, wp_some]
    exact ⟨room_ok (by simp; omega), rfl⟩
  unfold s_slices_Clone_api_Cell_api_Cell
  rw [h1]
  cases s with
  | nil => exact agree_self _
  | cons c l => rfl

def hid (n : Nat) : G_api_Column := ⟨[], List.replicate n ⟨true, []⟩⟩
theorem repeat_all : ((List.range 7).all fun n => s_slices_Repeat_api_Cell_api_Cell [⟨true, []⟩] (n : Int) == some (List.replicate n ⟨true, []⟩)) = true := by kernel_rfl
theorem repeat_eq {n : Nat} (h : n ≤ 6) : s_slices_Repeat_api_Cell_api_Cell [⟨true, []⟩] (n : Int) = some (List.replicate n ⟨true, []⟩) := by
  have := List.all_eq_true.1 repeat_all n (List.mem_range.2 (by omega))
  exact beq_iff_eq.1 this

/-! ## Views -/
def viewS (may : Nat → Bool) (n : Nat) (cols : List G_api_Column) : List G_api_Column := cols.zipIdx.map fun x => if may x.2 then x.1 else hid n
def anyS (may : Nat → Bool) (cols : List G_api_Column) : Bool := cols.zipIdx.any fun x => may x.2
theorem viewS_snoc (may : Nat → Bool) (n : Nat) (l : List G_api_Column) (c : G_api_Column) : viewS may n (l ++ [c]) = viewS may n l ++ [if may l.length then c else hid n] := by
  unfold viewS; rw [List.zipIdx_append, List.map_append]; simp
theorem anyS_snoc (may : Nat → Bool) (l : List G_api_Column) (c : G_api_Column) : anyS may (l ++ [c]) = (anyS may l || may l.length) := by
  unfold anyS; rw [List.zipIdx_append, List.any_append]; simp
theorem viewS_len (may : Nat → Bool) (n : Nat) (l : List G_api_Column) : (viewS may n l).length = l.length := by unfold viewS; simp

def mayT (l : List G_api_Permission) (u : Str) (id : Int) (k : Nat) : Bool := mayS l u ⟨id, (k : Int)⟩
def seenT (l : List G_api_Permission) (u : Str) (t : G_api_Table) : G_api_Table := ⟨t.ID, t.Name, viewS (mayT l u t.ID) (rowsS t).toNat t.Columns⟩
def visS (l : List G_api_Permission) (u : Str) (ts : List G_api_Table) : List G_api_Table := (ts.filter fun t => anyS (mayT l u t.ID) t.Columns).map (seenT l u)
theorem visS_snoc (l : List G_api_Permission) (u : Str) (ts : List G_api_Table) (t : G_api_Table) : visS l u (ts ++ [t]) = if anyS (mayT l u t.ID) t.Columns then visS l u ts ++ [seenT l u t] else visS l u ts := by
  unfold visS
  rw [List.filter_append]
  cases h : anyS (mayT l u t.ID) t.Columns <;> simp [h]

theorem rows_nat (t : G_api_Table) : s_table_Rows t = some (rowsS t) := by
  unfold s_table_Rows rowsS
  cases t.Columns with
  | nil => rfl
  | cons c l =>
    have : (((c :: l).length : Int) == 0) = false := by
      rw [List.length_cons, beq_eq_false_iff_ne]; omega
    rw [this]; rfl

/-- Small enough: rows up to six, columns up to three. -/
structure TinyT (t : G_api_Table) : Prop where
  cols : t.Columns.length ≤ 10
  rows : 0 ≤ rowsS t ∧ rowsS t ≤ 6
  cells : ∀ c ∈ t.Columns, c.Cells.length ≤ 100
theorem tiny_of {t : G_api_Table} (h : TabIn t) : TinyT t := by
  have hr := rowsS_le h
  exact ⟨by have := h.2.1; omega, ⟨hr.1, hr.2.1⟩, fun c hc => by have := hr.2.2 c hc; omega⟩

theorem seen_eq (l : List G_api_Permission) (u : Str) {t : G_api_Table} (ht : TinyT t) : s_access_seen l u t = some (seenT l u t, anyS (mayT l u t.ID) t.Columns) := by
  refine eq_of_wp ?_
  have hl := ht.cols
  obtain ⟨n, hn⟩ : ∃ n : Nat, rowsS t = (n : Int) := ⟨(rowsS t).toNat, by have := ht.rows; omega⟩
  have hr := ht.rows
  unfold s_access_seen s_access_seen_k2
  rw [wp_bind]
  refine wp_mono (forS_wp s_access_seen_l1_FB t.Columns (by omega) (fun k (s : Bool × List G_api_Column) => (l, u, s.1, t.Columns, (t.Columns.length : Int), k, t, 0, [], t.ID, t.Name, [], s.2))
    (fun k s => s = (anyS (mayT l u t.ID) (t.Columns.take k), viewS (mayT l u t.ID) n (t.Columns.take k))) (Q := fun x => x = (anyS (mayT l u t.ID) t.Columns, 0, [], t.ID, t.Name, [], viewS (mayT l u t.ID) n t.Columns)) (false, []) rfl (fun rec k s hlt hP ih => ?_) (fun rec s hP => ?_)) ?_
  · subst hP
    unfold s_access_seen_l1_B s_access_seen_l1_b s_access_seen_j1
    dsimp only
    rw [wp_bif]
    refine ⟨fun _ => ?_, fun h => by simp only [decide_eq_false_iff_not] at h; omega⟩
    have hc := ht.cells _ (List.getElem_mem hlt)
    have hk : (t.Columns.take k).length = k := by rw [List.length_take]; omega
    have hv : viewS (mayT l u t.ID) n (t.Columns.take (k + 1)) = viewS (mayT l u t.ID) n (t.Columns.take k) ++ [if mayT l u t.ID k then t.Columns[k] else hid n] := by rw [List.take_succ_eq_append_getElem hlt, viewS_snoc, hk]
    have ha : anyS (mayT l u t.ID) (t.Columns.take (k + 1)) = (anyS (mayT l u t.ID) (t.Columns.take k) || mayT l u t.ID k) := by rw [List.take_succ_eq_append_getElem hlt, anyS_snoc, hk]
    have hvl := viewS_len (mayT l u t.ID) n (t.Columns.take k)
    rw [hk] at hvl
    rw [wp_bind, idx_nat hlt, wp_some, rows_nat, hn, wp_bind, wp_some, repeat_eq (by omega), wp_bind, wp_some, may_eq, wp_bind, wp_some, wp_bif]
    refine ⟨fun hm => ?_, fun hm => ?_⟩
    · have hm' : mayT l u t.ID k = true := hm
      rw [clone_eq _ (by omega), wp_bind, wp_some, wp_chk, wp_chk]
      refine ⟨room_ok (by rw [hvl]; simp only [List.length_singleton]; omega), inK_i64 (by omega), ih (_, _) ?_⟩
      rw [hv, ha, hm', if_pos rfl, Bool.or_true]
    · have hm' : mayT l u t.ID k = false := hm
      rw [wp_chk, wp_chk]
      refine ⟨room_ok (by rw [hvl]; simp only [List.length_singleton]; omega), inK_i64 (by omega), ih (_, _) ?_⟩
      rw [hv, ha, hm', if_neg (by simp), Bool.or_false]; rfl
  · subst hP
    rw [List.take_length]
    unfold s_access_seen_l1_B s_access_seen_l1_b
    dsimp only
    rw [wp_bif]
    exact ⟨fun h => by simp only [decide_eq_true_eq] at h; omega, fun _ => by rw [wp_some]⟩
  · rintro x rfl
    dsimp only
    rw [wp_some]
    unfold seenT
    rw [hn]; rfl

theorem visible_eq (l : List G_api_Permission) (u : Str) {ts : List G_api_Table} (hl : ts.length ≤ 10) (ht : ∀ t ∈ ts, TinyT t) : s_access_Visible l u ts = some (visS l u ts) := by
  refine eq_of_wp ?_
  unfold s_access_Visible s_access_Visible_k2
  rw [wp_bind]
  refine wp_mono (forS_wp s_access_Visible_l1_FB ts (by omega) (fun k (s : List G_api_Table) => (l, u, ts, (ts.length : Int), k, s)) (fun k s => s.length ≤ k ∧ s = visS l u (ts.take k)) (Q := fun x => x = visS l u ts) [] ⟨by simp, rfl⟩ (fun rec k s hlt hP ih => ?_) (fun rec s hP => ?_)) (fun x hx => by rw [wp_some]; exact hx)
  · obtain ⟨hsl, rfl⟩ := hP
    unfold s_access_Visible_l1_B s_access_Visible_l1_b s_access_Visible_j1
    dsimp only
    rw [wp_bif]
    refine ⟨fun _ => ?_, fun h => by simp only [decide_eq_false_iff_not] at h; omega⟩
    have hs := visS_snoc l u (ts.take k) ts[k]
    rw [← List.take_succ_eq_append_getElem hlt] at hs
    rw [wp_bind, idx_nat hlt, wp_some, seen_eq l u (ht _ (List.getElem_mem hlt)), wp_bind, wp_some]
    dsimp only
    rw [wp_bif]
    refine ⟨fun ha => ?_, fun ha => ?_⟩
    · rw [ha, if_pos rfl] at hs
      rw [wp_chk, wp_chk]
      exact ⟨room_ok (by simp only [List.length_singleton]; omega), inK_i64 (by omega), ih _ ⟨by simp; omega, hs.symm⟩⟩
    · rw [ha, if_neg (by simp)] at hs
      rw [wp_chk]
      exact ⟨inK_i64 (by omega), ih _ ⟨by omega, hs.symm⟩⟩
  · obtain ⟨_, rfl⟩ := hP
    rw [List.take_length]
    unfold s_access_Visible_l1_B s_access_Visible_l1_b
    dsimp only
    rw [wp_bif]
    exact ⟨fun h => by simp only [decide_eq_true_eq] at h; omega, fun _ => by rw [wp_some]⟩

/-! ## The document's answer -/
theorem sameCells_self (c : G_api_Column) (hc : c.Cells.length ≤ 1000000) : s_tablefinderref03_SameCells c c = some true := by
  refine eq_of_wp ?_
  unfold s_tablefinderref03_SameCells
  rw [wp_bif]
  refine ⟨fun h => by simp at h, fun _ => ?_⟩
  rw [bne_self_eq_false]
  unfold s_tablefinderref03_SameCells_j1 s_tablefinderref03_SameCells_k2
  rw [cond_false, wp_bind]
  refine wp_mono (forS_wp s_tablefinderref03_SameCells_l1_FB c.Cells (by omega) (fun k (_ : Unit) => ((c.Cells.length : Int), k, c, c)) (fun _ _ => True) (Q := fun x => x = .brk ()) () trivial (fun rec k _ hlt _ ih => ?_) (fun rec _ _ => ?_)) ?_
  · unfold s_tablefinderref03_SameCells_l1_B s_tablefinderref03_SameCells_l1_b
    dsimp only
    rw [wp_bif]
    refine ⟨fun _ => ?_, fun h => by simp only [decide_eq_false_iff_not] at h; omega⟩
    rw [wp_bind, idx_nat hlt, wp_some, wp_bind, wp_some, wp_bif]
    refine ⟨fun h => by simp at h, fun _ => ?_⟩
    rw [wp_chk]
    exact ⟨inK_i64 (by omega), ih () trivial⟩
  · unfold s_tablefinderref03_SameCells_l1_B s_tablefinderref03_SameCells_l1_b
    dsimp only
    rw [wp_bif]
    exact ⟨fun h => by simp only [decide_eq_true_eq] at h; omega, fun _ => by rw [wp_some]⟩
  · rintro x rfl
    dsimp only; rw [wp_some]

theorem same_self (t : G_api_Table) (hl : t.Columns.length ≤ 1000) (hc : ∀ c ∈ t.Columns, c.Cells.length ≤ 1000000) : s_tablefinderref03_Same t t = some true := by
  refine eq_of_wp ?_
  unfold s_tablefinderref03_Same
  rw [bne_self_eq_false, cond_false, wp_bif]
  refine ⟨fun h => by simp at h, fun _ => ?_⟩
  rw [bne_self_eq_false]
  unfold s_tablefinderref03_Same_j1 s_tablefinderref03_Same_k2
  rw [cond_false, wp_bind]
  refine wp_mono (forS_wp s_tablefinderref03_Same_l1_FB t.Columns (by omega) (fun k (_ : Unit) => ((t.Columns.length : Int), k, t, t)) (fun _ _ => True) (Q := fun x => x = .brk ()) () trivial (fun rec k _ hlt _ ih => ?_) (fun rec _ _ => ?_)) ?_
  · unfold s_tablefinderref03_Same_l1_B s_tablefinderref03_Same_l1_b
    dsimp only
    rw [wp_bif]
    refine ⟨fun _ => ?_, fun h => by simp only [decide_eq_false_iff_not] at h; omega⟩
    rw [wp_bind, idx_nat hlt, wp_some, wp_bind, wp_some, sameCells_self _ (hc _ (List.getElem_mem hlt)), wp_bind, wp_some, Bool.not_true, cond_false, wp_chk]
    exact ⟨inK_i64 (by omega), ih () trivial⟩
  · unfold s_tablefinderref03_Same_l1_B s_tablefinderref03_Same_l1_b
    dsimp only
    rw [wp_bif]
    exact ⟨fun h => by simp only [decide_eq_true_eq] at h; omega, fun _ => by rw [wp_some]⟩
  · rintro x rfl
    dsimp only; rw [wp_some]

def ShortT (t : G_api_Table) : Prop := t.Columns.length ≤ 1000 ∧ ∀ c ∈ t.Columns, c.Cells.length ≤ 1000000
theorem sameL_self (ts : List G_api_Table) (hl : ts.length ≤ 1000) (ht : ∀ t ∈ ts, ShortT t) : s_tablefinderlaw42_same ts ts = some true := by
  refine eq_of_wp ?_
  unfold s_tablefinderlaw42_same s_tablefinderlaw42_same_k1
  rw [bne_self_eq_false, cond_false, wp_bind]
  refine wp_mono (forS_wp s_tablefinderlaw42_same_l1_FB ts (by omega) (fun k (_ : Unit) => (ts, ts, (ts.length : Int), k)) (fun _ _ => True) (Q := fun x => x = .brk ()) () trivial (fun rec k _ hlt _ ih => ?_) (fun rec _ _ => ?_)) ?_
  · unfold s_tablefinderlaw42_same_l1_B s_tablefinderlaw42_same_l1_b
    dsimp only
    rw [wp_bif]
    refine ⟨fun _ => ?_, fun h => by simp only [decide_eq_false_iff_not] at h; omega⟩
    have hs := ht _ (List.getElem_mem hlt)
    rw [wp_bind, idx_nat hlt, wp_some, wp_bind, wp_some, same_self _ hs.1 hs.2, wp_bind, wp_some, Bool.not_true, cond_false, wp_chk]
    exact ⟨inK_i64 (by omega), ih () trivial⟩
  · unfold s_tablefinderlaw42_same_l1_B s_tablefinderlaw42_same_l1_b
    dsimp only
    rw [wp_bif]
    exact ⟨fun h => by simp only [decide_eq_true_eq] at h; omega, fun _ => by rw [wp_some]⟩
  · rintro x rfl
    dsimp only; rw [wp_some]

theorem vis_short (l : List G_api_Permission) (u : Str) {ts : List G_api_Table} (hl : ts.length ≤ 10) (ht : ∀ t ∈ ts, TinyT t) : (visS l u ts).length ≤ 1000 ∧ ∀ t ∈ visS l u ts, ShortT t := by
  unfold visS
  refine ⟨?_, fun t h => ?_⟩
  · rw [List.length_map]; have := List.length_filter_le (fun t : G_api_Table => anyS (mayT l u t.ID) t.Columns) ts; omega
  · obtain ⟨x, hx, rfl⟩ := List.mem_map.1 h
    have hT := ht x (List.mem_filter.1 hx).1
    refine ⟨by simp only [seenT, viewS_len]; have := hT.cols; omega, fun c hc => ?_⟩
    simp only [seenT, viewS] at hc
    obtain ⟨y, hy, rfl⟩ := List.mem_map.1 hc
    have hr := hT.rows
    split
    · have := hT.cells y.1 (List.fst_mem_of_mem_zipIdx hy); omega
    · simp only [hid, List.length_replicate]; omega

end Go.Proofs

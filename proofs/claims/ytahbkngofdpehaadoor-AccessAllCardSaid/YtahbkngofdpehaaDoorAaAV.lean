/- Tables that are made of others; lists of tables. -/
import Derived.Test.YtahbkngofdpehaaDoorAaAU
set_option linter.unusedVariables false
set_option linter.unusedSimpArgs false
set_option linter.unusedSectionVars false
namespace Go.Proofs
open Go Eng

theorem equal_wp {t : G_api_Table} (ht : TabIn t) {x y : Int} (hx : 0 ≤ x ∧ x < rowsS t) (hy : 0 ≤ y ∧ y < rowsS t) : wp (s_tablefinderref38_equal t x y) (fun _ => True) := by
  have hrs := rowsS_le ht
  have hl := ht.2.1
  unfold s_tablefinderref38_equal s_tablefinderref38_equal_k1
  rw [wp_bind]
  refine wp_mono (forS_wp s_tablefinderref38_equal_l1_FB t.Columns (by omega) (fun k (_ : Unit) => (x, y, t.Columns, (t.Columns.length : Int), k)) (fun _ _ => True) (Q := fun _ => True) () trivial (fun rec k _ hlt _ ih => ?_) (fun rec _ _ => ?_)) ?_
  · unfold s_tablefinderref38_equal_l1_B s_tablefinderref38_equal_l1_b
    dsimp only
    rw [wp_bif]
    refine ⟨fun _ => ?_, fun h => by simp only [decide_eq_false_iff_not] at h; omega⟩
    have hc := hrs.2.2 _ (List.getElem_mem hlt)
    rw [wp_bind, idx_nat hlt, wp_some, idx_some hx.1 (by omega), wp_bind, wp_some, idx_some hy.1 (by omega), wp_bind, wp_some, wp_bif, wp_chk]
    exact ⟨fun _ => by rw [wp_some]; trivial, fun _ => ⟨inK_i64 (by omega), ih () trivial⟩⟩
  · unfold s_tablefinderref38_equal_l1_B s_tablefinderref38_equal_l1_b
    dsimp only
    rw [wp_bif]
    exact ⟨fun h => by simp only [decide_eq_true_eq] at h; omega, fun _ => by rw [wp_some]; trivial⟩
  · rintro (b | u) _
    · dsimp only; rw [wp_some]; trivial
    · dsimp only; rw [wp_some]; trivial

theorem rcompare_wp (a b : G_api_Cell) : wp (s_tablefinderref03_CompareCells a b) (fun _ => True) := by
  have j : ∀ c, wp (s_tablefinderref03_CompareCells_j1 c a b) (fun _ => True) := fun c => by
    unfold s_tablefinderref03_CompareCells_j1
    simp only [wp_bif, wp_some]
    exact ⟨fun _ => trivial, fun _ => ⟨fun _ => trivial, fun _ => ⟨fun _ => trivial, fun _ => ⟨fun _ => trivial, fun _ => ⟨fun _ => trivial, fun _ => trivial⟩⟩⟩⟩⟩
  unfold s_tablefinderref03_CompareCells
  rw [wp_bif]
  exact ⟨fun _ => j _, fun _ => j _⟩

def InR (n : Int) (l : List Int) : Prop := ∀ k ∈ l, 0 ≤ k ∧ k < n

theorem distinct_loop {t : G_api_Table} (ht : TabIn t) {r : Int} (hr : 0 ≤ r ∧ r < rowsS t) {out : List Int} (ho : InR (rowsS t) out) (hl : out.length ≤ 6) (at_ : Int) (t14 r1 : Int) (o : G_api_Op) :
    wp (s_tablefinderref38_rows_l2 big r at_ true t14 r1 (out.length : Int) 0 t o out) (fun x => ∃ b, x = (r, at_, b, t14, r1, t, o, out)) := by
  refine forS_wp s_tablefinderref38_rows_l2_FB out (by omega) (fun k (b : Bool) => (r, at_, b, t14, r1, (out.length : Int), k, t, o, out)) (fun _ _ => True) true trivial (fun rec k b hlt _ ih => ?_) (fun rec b _ => ?_)
  · unfold s_tablefinderref38_rows_l2_B s_tablefinderref38_rows_l2_b s_tablefinderref38_rows_j1
    dsimp only
    rw [wp_bif]
    refine ⟨fun _ => ?_, fun h => by simp only [decide_eq_false_iff_not] at h; omega⟩
    rw [wp_chk, wp_bind, wp_get]
    refine ⟨inR_nat hlt, by simpa using hlt, ?_⟩
    simp only [Int.toNat_natCast]
    rw [wp_bif]
    refine ⟨fun _ => ?_, fun _ => ?_⟩
    · rw [wp_bind]
      refine wp_mono (equal_wp ht (ho _ (List.getElem_mem hlt)) hr) fun q _ => ?_
      rw [wp_chk]
      exact ⟨inK_i64 (by omega), ih _ trivial⟩
    · rw [wp_chk]
      exact ⟨inK_i64 (by omega), ih _ trivial⟩
  · unfold s_tablefinderref38_rows_l2_B s_tablefinderref38_rows_l2_b
    dsimp only
    rw [wp_bif]
    exact ⟨fun h => by simp only [decide_eq_true_eq] at h; omega, fun _ => by rw [wp_some]; exact ⟨b, rfl⟩⟩

theorem sort_loop {t : G_api_Table} {l : List G_api_Cell} (hll : (l.length : Int) = rowsS t) {r : Int} (hr : 0 ≤ r ∧ r < rowsS t) {out : List Int} (ho : InR (rowsS t) out) (hl : out.length ≤ 6) (keep : Bool) (t14 r1 : Int) (o : G_api_Op) :
    wp (s_tablefinderref38_rows_l3 big r (out.length : Int) keep l t14 r1 t o out) (fun x => ∃ a : Int, 0 ≤ a ∧ a ≤ out.length ∧ x = (r, a, keep, t14, r1, t, o, out)) := by
  refine whileS_wp s_tablefinderref38_rows_l3_FB (fun (a : Int) => (r, a, keep, l, t14, r1, t, o, out)) (fun a => 0 ≤ a ∧ a ≤ out.length) (fun a => a.toNat) (out.length : Int) (by omega) (by omega) ?_
  rintro rec a ⟨h0, h1⟩ ih
  unfold s_tablefinderref38_rows_l3_B s_tablefinderref38_rows_l3_b s_tablefinderref38_rows_j3
  dsimp only
  have stop : wp (some (r, a, keep, t14, r1, t, o, out)) (fun x => ∃ a : Int, 0 ≤ a ∧ a ≤ out.length ∧ x = (r, a, keep, t14, r1, t, o, out)) := by rw [wp_some]; exact ⟨a, h0, h1, rfl⟩
  rw [wp_bif]
  refine ⟨fun h => ?_, fun _ => by rw [cond_false]; exact stop⟩
  simp only [decide_eq_true_eq] at h
  have hlt : (a - 1).toNat < out.length := by omega
  rw [wp_chk, wp_chk, wp_bind, wp_get]
  refine ⟨inK_i64 (by omega), inR_ok (by omega), hlt, ?_⟩
  have hk := ho _ (List.getElem_mem hlt)
  rw [idx_some hk.1 (by omega), wp_bind, wp_some, idx_some hr.1 (by omega), wp_bind, wp_some, wp_bind]
  refine wp_mono (rcompare_wp _ _) fun q _ => ?_
  rw [wp_bif]
  refine ⟨fun _ => ?_, fun _ => stop⟩
  rw [wp_chk]
  exact ⟨inK_i64 (by omega), ih (a - 1) ⟨by omega, by omega⟩ (by omega)⟩

theorem rows_wp {t : G_api_Table} (ht : TabIn t) {o : G_api_Op} (ho : Can t o) : wp (s_tablefinderref38_rows t o) (fun l => l.length ≤ 6 ∧ InR (rowsS t) l) := by
  have hrs := rowsS_le ht
  obtain ⟨m, hm⟩ : ∃ m : Nat, rowsS t = (m : Int) := ⟨(rowsS t).toNat, by omega⟩
  unfold s_tablefinderref38_rows s_tablefinderref38_rows_k8
  rw [rrows_eq, wp_bind, wp_some, wp_bind, hm]
  refine wp_mono (uptoS_wp s_tablefinderref38_rows_l1_FB m (by omega) (fun k (out : List Int) => ((m : Int), k, t, o, out)) (fun k out => out.length ≤ k ∧ InR (m : Int) out) (Q := fun l => l.length ≤ 6 ∧ InR (m : Int) l) [] ⟨by simp, by intro k hk; simp at hk⟩ ?_ ?_) (fun l hl => by rw [wp_some]; exact hl)
  · rintro rec k out hlt ⟨h1, h2⟩ ih
    have hr : 0 ≤ (k : Int) ∧ (k : Int) < rowsS t := by omega
    have h2' : InR (rowsS t) out := by rw [hm]; exact h2
    have j6 : ∀ (a : Int) (b : Bool), 0 ≤ a ∧ a ≤ out.length → wp (s_tablefinderref38_rows_j6 (fun t14 r_ t o out => rec (t14, r_, t, o, out)) (k : Int) a (m : Int) (k : Int) b t o out) (fun l => l.length ≤ 6 ∧ InR (m : Int) l) := fun a b ha => by
      unfold s_tablefinderref38_rows_j6 s_tablefinderref38_rows_j7
      have e1 : ((out.drop 0).take (a.toNat - 0)).length = a.toNat := by simp; omega
      have e2 : ((out.drop a.toNat).take ((out.length : Int).toNat - a.toNat)).length = out.length - a.toNat := by simp
      rw [wp_bif]
      refine ⟨fun _ => ?_, fun _ => ?_⟩
      · rw [wp_chk, wp_chk, wp_chk, wp_chk, wp_chk, wp_chk]
        refine ⟨within_ok (by omega), room_ok (by rw [e1]; omega), room_ok (by rw [e1]; simp only [List.length_singleton]; omega), within_ok (by omega), room_ok (by rw [List.length_append, e1, e2]; simp only [List.length_singleton]; omega), inK_i64 (by omega), ih _ ⟨?_, fun x hx => ?_⟩⟩
        · rw [List.length_append, List.length_append, e1, e2, List.length_singleton]; omega
        · rcases List.mem_append.1 hx with hx | hx
          · rcases List.mem_append.1 hx with hx | hx
            · exact h2 x (List.mem_of_mem_drop (List.mem_of_mem_take hx))
            · simp only [List.mem_singleton] at hx; subst hx; omega
          · exact h2 x (List.mem_of_mem_drop (List.mem_of_mem_take hx))
      · rw [wp_chk]
        exact ⟨inK_i64 (by omega), ih _ ⟨by omega, h2⟩⟩
    have here : 0 ≤ (out.length : Int) ∧ (out.length : Int) ≤ out.length := by omega
    have col : (o.Kind = 1 ∨ o.Kind = 2 ∨ o.Kind = 5) → ∃ c, idx t.Columns o.Column = some c ∧ (c.Cells.length : Int) = rowsS t := fun h => by
      have := ho.1 h
      have hlt2 : o.Column.toNat < t.Columns.length := by omega
      exact ⟨_, idx_some this.1 hlt2, hrs.2.2 _ (List.getElem_mem hlt2)⟩
    unfold s_tablefinderref38_rows_l1_B s_tablefinderref38_rows_l1_b s_tablefinderref38_rows_j5 s_tablefinderref38_rows_k2 s_tablefinderref38_rows_k4
    dsimp only
    rw [wp_bif]
    refine ⟨fun _ => ?_, fun h => by simp only [decide_eq_false_iff_not] at h; omega⟩
    rw [wp_bif]
    refine ⟨fun hk => ?_, fun hk => ?_⟩
    · simp only [beq_iff_eq] at hk
      obtain ⟨c, hc, hcl⟩ := col (.inl hk)
      have hkc : k < c.Cells.length := by omega
      rw [hc, wp_bind, wp_some, idx_nat hkc, wp_bind, wp_some, wp_bif]
      exact ⟨fun _ => j6 _ _ here, fun _ => j6 _ _ here⟩
    rw [wp_bif]
    refine ⟨fun hk => ?_, fun hk => ?_⟩
    · simp only [beq_iff_eq] at hk
      obtain ⟨c, hc, hcl⟩ := col (.inr (.inl hk))
      have hkc : k < c.Cells.length := by omega
      rw [hc, wp_bind, wp_some, idx_nat hkc, wp_bind, wp_some]
      exact j6 _ _ here
    rw [wp_bif]
    refine ⟨fun hk => ?_, fun hk => ?_⟩
    · rw [wp_bind]
      refine wp_mono (distinct_loop ht hr h2' (by omega) _ _ _ _) ?_
      rintro x ⟨b, rfl⟩
      exact j6 _ _ here
    rw [wp_bif]
    refine ⟨fun hk => ?_, fun hk => j6 _ _ here⟩
    simp only [beq_iff_eq] at hk
    obtain ⟨c, hc, hcl⟩ := col (.inr (.inr hk))
    rw [hc, wp_bind, wp_some, wp_bind]
    refine wp_mono (sort_loop hcl hr h2' (by omega) _ _ _ _) ?_
    rintro x ⟨a, ha0, ha1, rfl⟩
    exact j6 _ _ ⟨ha0, ha1⟩
  · rintro rec out ⟨h1, h2⟩
    unfold s_tablefinderref38_rows_l1_B s_tablefinderref38_rows_l1_b
    dsimp only
    rw [wp_bif]
    exact ⟨fun h => by simp only [decide_eq_true_eq] at h; omega, fun _ => by rw [wp_some]; exact ⟨by omega, h2⟩⟩

/-! ## What an operation gives -/
theorem do_wp {t : G_api_Table} (ht : TabIn t) {o : G_api_Op} (ho : Can t o) (hi : OpIn o) : wp (s_tablefinderref38_do t o) (fun r => TabIn r) := by
  unfold s_tablefinderref38_do
  rw [wp_bif]
  refine ⟨fun h => ?_, fun _ => ?_⟩
  · simp only [beq_iff_eq] at h
    rw [wp_bind]
    exact wp_mono (project_wp ht (ho.2 h) hi.cols) fun ⟨x, e⟩ hx => by dsimp only at hx ⊢; rw [wp_some]; exact hx
  · rw [wp_bind]
    refine wp_mono (rows_wp ht ho) fun l ⟨h1, h2⟩ => ?_
    rw [wp_bind]
    exact wp_mono (select_wp ht h2 h1) fun ⟨x, e⟩ hx => by dsimp only at hx ⊢; rw [wp_some]; exact hx

theorem copy_eq {t : G_api_Table} (ht : TabIn t) : s_tablefinderref38_Copy t = some t := by
  refine eq_of_wp ?_
  have hl := ht.2.1
  have hrs := rowsS_le ht
  unfold s_tablefinderref38_Copy
  rw [wp_bind]
  refine wp_mono (forS_wp s_tablefinderref38_Copy_l1_FB t.Columns (by omega) (fun k (s : List G_api_Column) => (t.Columns, (t.Columns.length : Int), k, 0, [], t.ID, t.Name, [], s)) (fun k s => s = t.Columns.take k) (Q := fun x => x = (0, [], t.ID, t.Name, [], t.Columns)) [] rfl (fun rec k s hlt hP ih => ?_) (fun rec s hP => ?_)) ?_
  · subst hP
    unfold s_tablefinderref38_Copy_l1_B s_tablefinderref38_Copy_l1_b
    dsimp only
    rw [wp_bif]
    refine ⟨fun _ => ?_, fun h => by simp only [decide_eq_false_iff_not] at h; omega⟩
    have hc := hrs.2.2 _ (List.getElem_mem hlt)
    rw [wp_bind, idx_nat hlt, wp_some, wp_chk, wp_chk, wp_chk]
    exact ⟨room_ok (by omega), room_ok (by rw [List.length_take]; simp only [List.length_singleton]; omega), inK_i64 (by omega), ih _ (by rw [List.take_succ_eq_append_getElem hlt])⟩
  · subst hP
    rw [List.take_length]
    unfold s_tablefinderref38_Copy_l1_B s_tablefinderref38_Copy_l1_b
    dsimp only
    rw [wp_bif]
    exact ⟨fun h => by simp only [decide_eq_true_eq] at h; omega, fun _ => by rw [wp_some]⟩
  · rintro x rfl
    dsimp only
    unfold s_tablefinderref38_Copy_k1
    rw [wp_some]

theorem run_wp {t : G_api_Table} (ht : TabIn t) {o : G_api_Op} (hi : OpIn o) : wp (s_tablefinderref38_Run t [o]) (fun r => TabIn r.1) := by
  unfold s_tablefinderref38_Run
  rw [show decide ((([o] : List G_api_Op).length : Int) > 5) = false from rfl, cond_false, rvalid_in ht, wp_bind, wp_some, wp_bif]
  refine ⟨fun _ => by rw [wp_some]; exact tabIn_no, fun _ => ?_⟩
  rw [wp_bind]
  refine wp_mono (forS_wp s_tablefinderref38_Run_l1_FB [o] (by simp) (fun k (s : G_api_Table) => ([o], (([o] : List G_api_Op).length : Int), k, s, 0, [], [])) (fun _ s => TabIn s) (Q := fun x => (∃ s, x = .brk (s, 0, [], []) ∧ TabIn s) ∨ x = .ret (noTable, 24)) t ht (fun rec k s hlt hP ih => ?_) (fun rec s hP => ?_)) ?_
  · unfold s_tablefinderref38_Run_l1_B s_tablefinderref38_Run_l1_b
    dsimp only
    rw [wp_bif]
    refine ⟨fun _ => ?_, fun h => by simp only [decide_eq_false_iff_not] at h; omega⟩
    rw [wp_bind, idx_nat hlt, wp_some, wp_bind]
    have hk : k = 0 := by simp at hlt; exact hlt
    subst hk
    refine wp_mono (can_wp s o (by have := hi.cols; omega)) fun q hq => ?_
    rw [wp_bif]
    refine ⟨fun _ => by rw [wp_some]; exact .inr rfl, fun h => ?_⟩
    simp only [Bool.not_eq_false'] at h
    rw [wp_bind]
    refine wp_mono (do_wp hP (hq h) hi) fun t1 h1 => ?_
    rw [wp_chk]
    exact ⟨inK_i64 (by omega), ih _ h1⟩
  · unfold s_tablefinderref38_Run_l1_B s_tablefinderref38_Run_l1_b
    dsimp only
    rw [wp_bif]
    exact ⟨fun h => by simp only [decide_eq_true_eq] at h; omega, fun _ => by rw [wp_some]; exact .inl ⟨s, rfl, hP⟩⟩
  · rintro x (⟨s, rfl, hs⟩ | rfl)
    · dsimp only
      unfold s_tablefinderref38_Run_k1
      rw [copy_eq hs, wp_bind, wp_some, wp_some]
      exact hs
    · dsimp only
      rw [wp_some]; exact tabIn_no

theorem derived_wp {d : G_tablefinderkit_Dice} (hd : DiceOk d) {t : G_api_Table} (ht : TabIn t) (id : Int) : wp (s_tablefinderkit_Derived d t id) (fun r => (TabIn r.1 ∧ r.1.ID = id) ∧ DiceOk r.2) := by
  unfold s_tablefinderkit_Derived
  rw [wp_bind]
  refine wp_mono (next_wp hd (by omega)) fun ⟨k, d1⟩ ⟨hk, hd1⟩ => ?_
  dsimp only at hk hd1 ⊢
  rw [wp_bind]
  refine wp_mono (whileS_wp s_tablefinderkit_Derived_l1_FB (fun (s : Int × G_tablefinderkit_Dice × G_api_Table) => (id, s.1, s.2.1, s.2.2, 0, [], [])) (fun s => s.1 ≤ 2 ∧ DiceOk s.2.1 ∧ TabIn s.2.2) (fun s => s.1.toNat) (Q := fun x => ∃ d' t', x = (id, d', t', 0, [], []) ∧ DiceOk d' ∧ TabIn t') (k, d1, t) ⟨by dsimp only; omega, hd1, ht⟩ (by dsimp only; omega) ?_) ?_
  · rintro rec ⟨k, d, t⟩ ⟨hk, hd, ht⟩ ih
    dsimp only at hk hd ht ih
    unfold s_tablefinderkit_Derived_l1_B s_tablefinderkit_Derived_l1_b s_tablefinderkit_Derived_j1
    dsimp only
    rw [wp_bif]
    refine ⟨fun h => ?_, fun _ => by rw [wp_some]; exact ⟨d, t, rfl, hd, ht⟩⟩
    simp only [decide_eq_true_eq] at h
    rw [wp_bind]
    refine wp_mono (op_wp hd ht) fun ⟨o, d2⟩ ⟨hi, hd2⟩ => ?_
    dsimp only at hi hd2 ⊢
    rw [wp_bind]
    refine wp_mono (run_wp ht hi) fun ⟨x, e⟩ hx => ?_
    dsimp only at hx ⊢
    rw [wp_bif, wp_chk, wp_chk]
    exact ⟨fun _ => ⟨inK_i64 (by omega), ih (k - 1, d2, x) ⟨by dsimp only; omega, hd2, hx⟩ (by dsimp only; omega)⟩, fun _ => ⟨inK_i64 (by omega), ih (k - 1, d2, t) ⟨by dsimp only; omega, hd2, ht⟩ (by dsimp only; omega)⟩⟩
  · rintro x ⟨d', t', rfl, hd', ht'⟩
    dsimp only
    unfold s_tablefinderkit_Derived_k2
    rw [copy_eq ht', wp_bind, wp_some, wp_some]
    exact ⟨⟨⟨ht'.1, ht'.2.1, ht'.2.2⟩, rfl⟩, hd'⟩

/-- Tables in ascending order. -/
structure ListIn (m : Nat) (b : Int) (l : List G_api_Table) : Prop where
  len : l.length ≤ m
  tabs : ∀ t ∈ l, TabIn t ∧ 1 ≤ t.ID ∧ t.ID ≤ b
  asc : (l.map (·.ID)).Pairwise (· < ·)

theorem ListIn.snoc {m : Nat} {b id : Int} {l : List G_api_Table} (h : ListIn m b l) {t : G_api_Table} (ht : TabIn t) (hid : t.ID = id) (hb : b < id) (h1 : 1 ≤ id) : ListIn (m + 1) id (l ++ [t]) := by
  refine ⟨by simp [h.len], fun x hx => ?_, ?_⟩
  · rcases List.mem_append.1 hx with hx | hx
    · have := h.tabs x hx; exact ⟨this.1, this.2.1, by omega⟩
    · simp only [List.mem_singleton] at hx; subst hx; exact ⟨ht, by omega, by omega⟩
  · rw [List.map_append, List.pairwise_append]
    refine ⟨h.asc, by simp, fun x hx y hy => ?_⟩
    obtain ⟨z, hz, rfl⟩ := List.mem_map.1 hx
    simp only [List.map_cons, List.map_nil, List.mem_singleton] at hy
    subst hy
    have := (h.tabs z hz).2.2
    omega

theorem tables_wp {d : G_tablefinderkit_Dice} (hd : DiceOk d) {most : Int} (hm : 1 ≤ most ∧ most ≤ 10) : wp (s_tablefinderkit_Tables d most) (fun r => ListIn 10 30 r.1 ∧ DiceOk r.2) := by
  unfold s_tablefinderkit_Tables
  rw [wp_bind]
  refine wp_mono (next_wp hd (by omega)) fun ⟨id, d1⟩ ⟨hid, hd1⟩ => ?_
  dsimp only at hid hd1 ⊢
  rw [wp_bind]
  refine wp_mono (next_wp hd1 (by omega)) fun ⟨q, d2⟩ ⟨hq, hd2⟩ => ?_
  dsimp only at hq hd2 ⊢
  rw [wp_chk, wp_bind]
  refine ⟨inK_i64 (by omega), wp_mono (whileS_wp s_tablefinderkit_Tables_l1_FB (fun (s : Int × Int × G_tablefinderkit_Dice × List G_api_Table) => (s.1, s.2.1, s.2.2.1, s.2.2.2))
    (fun s => (0 ≤ s.2.1 ∧ s.2.1 + s.2.2.2.length ≤ 10) ∧ (0 ≤ s.1 ∧ s.1 ≤ 1 + 2 * s.2.2.2.length) ∧ DiceOk s.2.2.1 ∧ ListIn s.2.2.2.length s.1 s.2.2.2) (fun s => s.2.1.toNat) (Q := fun x => DiceOk x.1 ∧ ListIn 10 30 x.2) (id, 1 + q, d2, []) ⟨⟨by dsimp only; omega, by simp; omega⟩, ⟨by dsimp only; omega, by simp; omega⟩, hd2, ⟨by simp, by simp, by simp⟩⟩ (by dsimp only; omega) ?_) ?_⟩
  · rintro rec ⟨id, k, d, l⟩ ⟨⟨hk0, hk⟩, ⟨hi0, hi⟩, hd, hl⟩ ih
    dsimp only at hk0 hk hi0 hi hd hl ih
    unfold s_tablefinderkit_Tables_l1_B s_tablefinderkit_Tables_l1_b
    dsimp only
    rw [wp_bif]
    refine ⟨fun h => ?_, fun h => ?_⟩
    · simp only [decide_eq_true_eq] at h
      rw [wp_bind]
      refine wp_mono (next_wp hd (by omega)) fun ⟨q, d3⟩ ⟨hq, hd3⟩ => ?_
      dsimp only at hq hd3 ⊢
      rw [wp_chk, wp_chk, wp_bind]
      refine ⟨inK_i64 (by omega), inK_i64 (by omega), wp_mono (table_wp hd3 _) fun ⟨t, d4⟩ ⟨⟨ht, htid⟩, hd4⟩ => ?_⟩
      dsimp only at ht htid hd4 ⊢
      have j2 : ∀ (d' : G_tablefinderkit_Dice) (t' : G_api_Table), DiceOk d' → TabIn t' → t'.ID = id + (1 + q) → wp (s_tablefinderkit_Tables_j2 (fun id k d l => rec (id, k, d, l)) (id + (1 + q)) k d' l t') (fun x => DiceOk x.1 ∧ ListIn 10 30 x.2) := fun d' t' hd' ht' hid' => by
        unfold s_tablefinderkit_Tables_j2
        rw [wp_chk, wp_chk]
        refine ⟨room_ok (by simp only [List.length_singleton]; omega), inK_i64 (by omega), ih (id + (1 + q), k - 1, d', l ++ [t']) ⟨⟨by dsimp only; omega, by simp; omega⟩, ⟨by dsimp only; omega, by simp; omega⟩, hd', ?_⟩ (by dsimp only; omega)⟩
        have := hl.snoc ht' hid' (by omega) (by omega)
        dsimp only
        rw [List.length_append, List.length_singleton]
        exact this
      have j1 : ∀ (b : Bool) (d' : G_tablefinderkit_Dice), (b = true → l ≠ []) → DiceOk d' → wp (s_tablefinderkit_Tables_j1 (fun id k d l => rec (id, k, d, l)) (id + (1 + q)) k b d' l t) (fun x => DiceOk x.1 ∧ ListIn 10 30 x.2) := fun b d' hb hd' => by
        unfold s_tablefinderkit_Tables_j1
        rw [wp_bif]
        refine ⟨fun h => ?_, fun _ => j2 _ _ hd' ht htid⟩
        have hl0 : 0 < l.length := List.length_pos_iff.2 (hb h)
        rw [wp_bind]
        refine wp_mono (next_wp hd' (by omega)) fun ⟨q5, d5⟩ ⟨hq5, hd5⟩ => ?_
        dsimp only at hq5 hd5 ⊢
        have hlt : q5.toNat < l.length := by omega
        rw [wp_chk, wp_bind, wp_get]
        refine ⟨inR_ok hq5, hlt, ?_⟩
        rw [wp_bind]
        refine wp_mono (derived_wp hd5 (hl.tabs _ (List.getElem_mem hlt)).1 _) fun ⟨t6, d6⟩ ⟨⟨ht6, hid6⟩, hd6⟩ => ?_
        exact j2 _ _ hd6 ht6 hid6
      rw [wp_bif]
      refine ⟨fun h2 => ?_, fun _ => j1 _ _ (fun h => by cases h) hd4⟩
      simp only [decide_eq_true_eq] at h2
      rw [wp_bind]
      refine wp_mono (next_wp hd4 (by omega)) fun ⟨q5, d5⟩ ⟨hq5, hd5⟩ => ?_
      exact j1 _ _ (fun _ => List.length_pos_iff.1 (by omega)) hd5
    · simp only [decide_eq_false_iff_not] at h
      rw [wp_some]
      exact ⟨hd, by dsimp only; omega, fun t ht => ⟨(hl.tabs t ht).1, (hl.tabs t ht).2.1, by have := (hl.tabs t ht).2.2; omega⟩, hl.asc⟩
  · rintro ⟨d3, l⟩ ⟨h1, h2⟩
    dsimp only at h1 h2 ⊢
    unfold s_tablefinderkit_Tables_k3
    rw [wp_some]; exact ⟨h2, h1⟩

end Go.Proofs

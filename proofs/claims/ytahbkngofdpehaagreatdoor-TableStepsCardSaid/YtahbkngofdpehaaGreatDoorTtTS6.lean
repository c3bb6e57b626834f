/- The table in which something is odd; both programs on any table. -/
import Derived.Test.YtahbkngofdpehaaGreatDoorTtTS5
set_option linter.unusedVariables false
set_option linter.unusedSimpArgs false
set_option linter.unusedSectionVars false
namespace Go.Proofs
open Go Eng

/-- What the law looks at: a table of bounded size whose valid cells are known. -/
structure OD (u : G_api_Table) : Prop where
  name : u.Name.length ≤ 2000
  cols : u.Columns.length ≤ 100
  col : ∀ c ∈ u.Columns, c.Name.length ≤ 2000 ∧ c.Cells.length ≤ 7 ∧ ∀ y ∈ c.Cells, y.Text.length ≤ 2000 ∧ (cellS y = true → CellM y)
theorem OD.txt {u : G_api_Table} (h : OD u) : TextsOk u := ⟨by have := h.name; omega, fun c hc => ⟨by have := (h.col c hc).1; omega, fun y hy => by have := ((h.col c hc).2.2 y hy).1; omega⟩⟩
theorem OD.v {u : G_api_Table} (h : OD u) : s_table_Valid u = some (tableS u) ∧ s_tablefinderref03_Valid u = some (tableS u) := by
  have := h.cols
  exact ⟨table_eq u (by omega) (fun c hc => by have := (h.col c hc).2.1; omega), rtable_eq u h.txt (by omega)⟩
theorem OD.gt {u : G_api_Table} (h : OD u) (hv : tableS u = true) : ∃ n, GT u n := by
  have hv2 := hv
  unfold tableS at hv2
  simp only [Bool.and_eq_true, decide_eq_true_eq, List.all_eq_true] at hv2
  obtain ⟨_, _, _, hl, _, hc⟩ := hv2
  have nn : 0 ≤ rowsS u := by unfold rowsS; split <;> omega
  have key : ∀ c ∈ u.Columns, ColG (rowsS u).toNat c := fun c hcm => by
    have h1 := hc c hcm
    unfold colS at h1
    simp only [Bool.and_eq_true, List.all_eq_true, beq_iff_eq] at h1
    exact ⟨trivial, by omega, fun y hy => ((h.col c hcm).2.2 y hy).2 (h1.2.2 y hy)⟩
  by_cases h0 : u.Columns = []
  · exact GT.mk' hv (by omega) (n := 0) (by omega) (by rw [h0]; simp) h.txt
  · obtain ⟨c, hcm⟩ := List.exists_mem_of_ne_nil _ h0
    have := (key c hcm).2.1
    exact GT.mk' hv (by omega) (n := (rowsS u).toNat) (by have := (h.col c hcm).2.1; omega) key h.txt

theorem od_mill {m r : Nat} {t : G_api_Table} (h : TabM m r t) (hm : m ≤ 10) (hr : r ≤ 7) : OD t := by
  obtain ⟨h1, h2, n, hn, hc⟩ := h
  have ml : ∀ {s : Str}, s ∈ mtexts → s.length ≤ 2000 := fun hs => by have := mlen hs; omega
  exact ⟨ml h1, by omega, fun c hcm => by
    obtain ⟨q1, q2, q3⟩ := hc c hcm
    exact ⟨ml q1, by omega, fun y hy => ⟨ml (q3 y hy).1, fun _ => q3 y hy⟩⟩⟩
theorem mmod_wp (n : Int) {m : Int} (h : 1 ≤ m ∧ m ≤ 1000000) : wp (s_tablefindermill_Mod n m) (fun r => 0 ≤ r ∧ r < m) := by
  have ha : -m < Int.tmod n m ∧ Int.tmod n m < m := ⟨Int.lt_tmod_of_pos n (by omega), Int.tmod_lt_of_pos n (by omega)⟩
  unfold s_tablefindermill_Mod s_tablefindermill_Mod_j1
  rw [wp_chk, wp_bif]
  refine ⟨decide_eq_true (by omega), fun h => ?_, fun h => ?_⟩
  · have := of_decide_eq_true h
    rw [wp_chk, wp_some]; exact ⟨inK_i64 (by omega), by omega, by omega⟩
  · have := of_decide_eq_false h
    rw [wp_some]; exact ⟨by omega, by omega⟩
def zeros (n : Nat) : Str := (List.replicate n (0 : Int)).map fun n => UInt8.ofNat (Int.toNat n)
theorem zeros_len (n : Nat) : (zeros n).length = n := by unfold zeros; simp
theorem fine_long {s : Str} (h : 1024 < s.length) : fineS s = false := by unfold fineS; rw [decide_eq_false (by omega), Bool.false_and]
theorem fine_c3 : fineS [195] = false := by kernel_rfl
theorem tmod_in (n : Int) {m : Int} (h : 2 ≤ m) (hn : -9223372036854775808 ≤ n ∧ n ≤ 9223372036854775807) : -9223372036854775808 ≤ Int.tdiv n m ∧ Int.tdiv n m ≤ 9223372036854775807 := by
  have h1 : (Int.tdiv n m).natAbs = n.natAbs / m.natAbs := Int.natAbs_tdiv n m
  have h2 : n.natAbs / m.natAbs ≤ n.natAbs / 2 := Nat.div_le_div_left (by omega) (by decide)
  omega
theorem od_set {u : G_api_Table} (h : OD u) {i : Int} {nm : Str} (hn : nm.length ≤ 2000) (k : Nat) {c : G_api_Column} (hc : c.Name.length ≤ 2000 ∧ c.Cells.length ≤ 7 ∧ ∀ y ∈ c.Cells, y.Text.length ≤ 2000 ∧ (cellS y = true → CellM y)) : OD ⟨i, nm, u.Columns.set k c⟩ :=
  ⟨hn, by rw [List.length_set]; exact h.cols, fun d hd => by
    rcases List.mem_or_eq_of_mem_set hd with hd | hd
    · exact h.col d hd
    · rw [hd]; exact hc⟩
theorem odd_wp {t : G_api_Table} (h : TabM 4 6 t) (what at_ : Int) (hat : -9223372036854775808 ≤ at_ ∧ at_ ≤ 9223372036854775807) : wp (s_tablefinderlaw03_odd t what at_) OD := by
  have hod := od_mill h (by omega) (by omega)
  obtain ⟨h1, h2, n, hn, hc⟩ := h
  have same : ∀ i nm, nm.length ≤ 2000 → wp (s_tablefinderlaw03_odd_j2 i nm 0 [] t.Columns []) OD := fun i nm hnm => by
    unfold s_tablefinderlaw03_odd_j2
    rw [wp_some]
    exact ⟨hnm, hod.cols, hod.col⟩
  unfold s_tablefinderlaw03_odd
  simp only [List.nil_append]
  rw [wp_chk, wp_chk, wp_bind]
  refine ⟨room_ok (by rw [List.length_nil]; omega), inK_i64 (by omega), wp_mono (mmod_wp at_ (by omega)) fun k hk => ?_⟩
  rw [wp_bind]
  refine wp_mono (mmod_wp what (by omega)) fun q hq => ?_
  have kn : k < (t.Columns.length : Int) → k.toNat < t.Columns.length := fun h => by omega
  rw [wp_bif]
  refine ⟨fun _ => ?_, fun _ => ?_⟩
  · rw [wp_bind]
    refine wp_mono (mmod_wp at_ (by omega)) fun q1 hq1 => ?_
    rw [wp_chk, wp_bind, wp_get]
    exact ⟨inR_ok ⟨by omega, by simp only [List.length_cons, List.length_nil]; omega⟩, by simp only [List.length_cons, List.length_nil]; omega, same _ _ hod.name⟩
  rw [wp_bif]
  refine ⟨fun _ => same _ _ (by decide), fun _ => ?_⟩
  rw [wp_bif]
  refine ⟨fun _ => ?_, fun _ => ?_⟩
  · rw [wp_bif]
    refine ⟨fun hlt => ?_, fun _ => same _ _ hod.name⟩
    have hlt := kn (of_decide_eq_true hlt)
    obtain ⟨p1, p2, p3⟩ := hc _ (List.getElem_mem hlt)
    have pc := hod.col _ (List.getElem_mem hlt)
    rw [wp_chk, List.getElem?_eq_getElem hlt, wp_bind, wp_some, wp_chk, wp_chk, wp_chk, wp_bind, wp_some]
    refine ⟨inR_ok ⟨by omega, by omega⟩, room_ok (by rw [List.length_nil]; omega), room_ok (by rw [List.length_singleton]; omega), inR_ok ⟨by omega, by omega⟩, ?_⟩
    unfold s_tablefinderlaw03_odd_j2
    rw [wp_some]
    refine od_set hod hod.name _ ⟨pc.1, by simp only [List.length_append, List.length_singleton]; omega, fun y hy => ?_⟩
    rcases List.mem_append.1 hy with hy | hy
    · exact pc.2.2 y hy
    · rw [List.mem_singleton.1 hy]
      exact ⟨by simp, fun _ => ⟨List.mem_append_right _ (by decide), fun h => by cases h⟩⟩
  rw [wp_bif]
  refine ⟨fun _ => ?_, fun _ => ?_⟩
  · rw [wp_bif]
    refine ⟨fun hlt => ?_, fun _ => same _ _ hod.name⟩
    have hlt := kn (of_decide_eq_true hlt)
    have pc := hod.col _ (List.getElem_mem hlt)
    rw [wp_bind]
    refine wp_mono (mmod_wp at_ (by omega)) fun q2 hq2 => ?_
    rw [wp_chk, wp_chk, wp_chk, List.getElem?_eq_getElem hlt, wp_bind, wp_some]
    refine ⟨inK_i64 (by omega), decide_eq_true ⟨by omega, by omega, by unfold roomB; omega, by unfold roomB; omega⟩, inR_ok ⟨by omega, by omega⟩, ?_⟩
    unfold s_tablefinderlaw03_odd_j2
    rw [wp_some]
    exact od_set hod hod.name _ ⟨by simp only [List.length_map, List.length_replicate]; omega, pc.2⟩
  rw [wp_bif]
  refine ⟨fun _ => ?_, fun _ => ?_⟩
  · rw [wp_chk, wp_bind]
    refine ⟨inK_i64 (by omega), wp_mono (mmod_wp at_ (by omega)) fun q3 hq3 => ?_⟩
    rw [wp_chk, wp_chk, wp_chk]
    refine ⟨inK_i64 (by omega), decide_eq_true (by omega), room_ok (by rw [List.length_replicate]; omega), ?_⟩
    unfold s_tablefinderlaw03_odd_j2
    rw [wp_some]
    refine ⟨hod.name, by simp only [List.length_append, List.length_replicate]; omega, fun c hcm => ?_⟩
    rcases List.mem_append.1 hcm with hcm | hcm
    · exact hod.col c hcm
    · rw [(List.mem_replicate.1 hcm).2]
      exact ⟨by simp, by simp, by simp⟩
  rw [wp_bif]
  refine ⟨fun _ => ?_, fun _ => same _ _ hod.name⟩
  rw [wp_bif]
  have nochange : wp (s_tablefinderlaw03_odd_j1 at_ k false t.ID t.Name 0 [] t.Columns []) OD := by
    unfold s_tablefinderlaw03_odd_j1
    rw [cond_false]; exact same _ _ hod.name
  refine ⟨fun hlt => ?_, fun _ => nochange⟩
  have hlt := kn (of_decide_eq_true hlt)
  obtain ⟨p1, p2, p3⟩ := hc _ (List.getElem_mem hlt)
  have pc := hod.col _ (List.getElem_mem hlt)
  rw [wp_chk, List.getElem?_eq_getElem hlt, wp_bind, wp_some]
  refine ⟨inR_ok ⟨by omega, by omega⟩, ?_⟩
  by_cases hpos : (t.Columns[k.toNat].Cells.length : Int) > 0
  · rw [decide_eq_true hpos]
    unfold s_tablefinderlaw03_odd_j1
    have d5 := tmod_in at_ (m := 5) (by omega) hat
    have d2 := tmod_in at_ (m := 2) (by omega) hat
    simp only [List.nil_append]
    rw [cond_true, wp_chk, List.getElem?_eq_getElem hlt, wp_bind, wp_some, wp_chk, wp_chk, wp_chk, wp_bind]
    refine ⟨inR_ok ⟨by omega, by omega⟩, room_ok (by rw [List.length_nil]; omega), by decide, inK_i64 d5, wp_mono (mmod_wp _ (by omega)) fun q5 hq5 => ?_⟩
    rw [wp_bind]
    refine wp_mono (mmod_wp at_ (by omega)) fun q6 hq6 => ?_
    rw [wp_chk, wp_chk, wp_chk, wp_bind]
    refine ⟨by kernel_rfl, by decide, inK_i64 d2, wp_mono (mmod_wp _ (by omega)) fun q7 hq7 => ?_⟩
    have hl3 : ∀ s : Str, ([([120] : Str), ([195] : Str), s] : List Str).length = 3 := fun s => rfl
    have hz : ((List.replicate ((1025 : Int)).toNat (0 : Int)).map fun n => UInt8.ofNat (Int.toNat n)) = zeros 1025 := rfl
    rw [hz, hl3, wp_chk, wp_bind, wp_get]
    refine ⟨inR_ok ⟨by omega, by omega⟩, by rw [hl3]; omega, ?_⟩
    have good : ∀ s ∈ ([([120] : Str), ([195] : Str), zeros 1025] : List Str), s.length ≤ 2000 ∧ ∀ b, cellS ⟨b, s⟩ = true → CellM ⟨b, s⟩ := fun s hs => by
      simp only [List.mem_cons, List.not_mem_nil, or_false] at hs
      rcases hs with rfl | rfl | rfl
      · refine ⟨by decide, fun b hb => ⟨List.mem_append_right _ (show ([120] : Str) ∈ mnames from by decide), fun hb2 => ?_⟩⟩
        dsimp only at hb2
        subst hb2
        unfold cellS at hb
        simp at hb
      · refine ⟨by decide, fun b hb => ?_⟩
        unfold cellS at hb
        rw [fine_c3, Bool.false_and] at hb; cases hb
      · refine ⟨by rw [zeros_len]; omega, fun b hb => ?_⟩
        unfold cellS at hb
        rw [fine_long (by rw [zeros_len]; omega), Bool.false_and] at hb; cases hb
    have hlt3 : q7.toNat < ([([120] : Str), ([195] : Str), zeros 1025] : List Str).length := by rw [hl3]; omega
    have hg := good _ (List.getElem_mem hlt3)
    generalize ([([120] : Str), ([195] : Str), zeros 1025] : List Str)[q7.toNat] = s at hg ⊢
    rw [wp_chk, wp_chk, wp_bind, wp_some]
    refine ⟨inR_ok ⟨by omega, by omega⟩, inR_ok ⟨by omega, by omega⟩, ?_⟩
    unfold s_tablefinderlaw03_odd_j2
    rw [wp_some]
    refine od_set hod hod.name _ ⟨pc.1, by rw [List.length_set]; exact pc.2.1, fun y hy => ?_⟩
    rcases List.mem_or_eq_of_mem_set hy with hy | hy
    · exact pc.2.2 y hy
    · rw [hy]; exact ⟨hg.1, hg.2 _⟩
  · rw [decide_eq_false hpos]; exact nochange

/-! ## Both programs on any such table -/

theorem small_sel {x : G_api_Table} {n : Nat} (h : GT x n) {rows : List Int} (hl : rows.length ≤ 1000) : SmallT (selT x rows) := by
  have := h.len
  refine ⟨by unfold selT; simp; omega, fun c hc => ?_⟩
  obtain ⟨d, _, rfl⟩ := List.mem_map.1 (show c ∈ x.Columns.map (pickC rows) from hc)
  unfold pickC; simp; omega
theorem small_proj {x : G_api_Table} {n : Nat} (h : GT x n) {cols : List Int} (hl : cols.length ≤ 1000) (hb : inB x.Columns.length cols = true) : SmallT (projT x cols) := by
  refine ⟨by unfold projT; simp; omega, fun c hc => ?_⟩
  obtain ⟨k, hk, rfl⟩ := List.mem_map.1 (show c ∈ cols.map _ from hc)
  have hk := inB_iff.1 hb k hk
  have hlt : k.toNat < x.Columns.length := by omega
  rw [getD_lt _ _ hlt, (h.cols _ (List.getElem_mem hlt)).2.1]
  have := h.few; omega
theorem project_both {x : G_api_Table} (h : OD x) {k : List Int} (hk : k.length ≤ 64) : ∃ u f, s_table_Project x k = some (u, f) ∧ s_tablefinderref03_Project x k = some (u, f) ∧ SmallT u := by
  obtain ⟨v1, v2⟩ := h.v
  cases hv : tableS x with
  | false =>
    rw [hv] at v1 v2
    exact ⟨zT, 1, by unfold s_table_Project; rw [v1]; rfl, by unfold s_tablefinderref03_Project; rw [v2]; rfl, zT_small⟩
  | true =>
    obtain ⟨n, hg⟩ := h.gt hv
    have p1 := project_all hg hk
    have p2 := rproject_all hg hk
    cases hb : inB x.Columns.length k with
    | false => rw [hb] at p1 p2; exact ⟨zT, 2, p1, p2, zT_small⟩
    | true => rw [hb] at p1 p2; exact ⟨_, _, p1, p2, small_proj hg (by omega) hb⟩
theorem select_both {x : G_api_Table} (h : OD x) {k : List Int} (hk : k.length ≤ 1000) : ∃ u f, s_table_Select x k = some (u, f) ∧ s_tablefinderref03_Select x k = some (u, f) ∧ SmallT u := by
  obtain ⟨v1, v2⟩ := h.v
  cases hv : tableS x with
  | false =>
    rw [hv] at v1 v2
    exact ⟨zT, 1, by unfold s_table_Select; rw [v1]; rfl, by unfold s_tablefinderref03_Select; rw [v2]; rfl, zT_small⟩
  | true =>
    obtain ⟨n, hg⟩ := h.gt hv
    have p1 := select_all hg hk
    have p2 := rselect_all hg hk
    cases hb : inB n k with
    | false => rw [hb] at p1 p2; exact ⟨zT, 2, p1, p2, zT_small⟩
    | true => rw [hb] at p1 p2; exact ⟨_, _, p1, p2, small_sel hg hk⟩
theorem sort_both {x : G_api_Table} (h : OD x) : ∃ u f, s_table_Sort x = some (u, f) ∧ s_tablefinderref03_Sort x = some (u, f) ∧ SmallT u := by
  obtain ⟨v1, v2⟩ := h.v
  have := h.cols
  cases hv : tableS x with
  | false =>
    rw [hv] at v2
    exact ⟨zT, 1, sort_bad hv (by omega) (fun c hc => by have := (h.col c hc).2.1; omega), by unfold s_tablefinderref03_Sort; rw [v2]; rfl, zT_small⟩
  | true =>
    obtain ⟨n, hg⟩ := h.gt hv
    have := hg.few
    exact ⟨_, _, sort_good hg, rsort_good hg, small_sel hg (by rw [orderT_len, hg.rows, Int.toNat_natCast]; omega)⟩
theorem row_both {x : G_api_Table} (h : OD x) (i : Int) : ∃ u f, s_table_Row x i = some (u, f) ∧ s_tablefinderref03_Row x i = some (u, f) ∧ u.length ≤ 1000 := by
  obtain ⟨v1, v2⟩ := h.v
  cases hv : tableS x with
  | false =>
    rw [hv] at v1 v2
    exact ⟨[], 1, by unfold s_table_Row; rw [v1]; rfl, by unfold s_tablefinderref03_Row; rw [v2]; rfl, by decide⟩
  | true =>
    obtain ⟨n, hg⟩ := h.gt hv
    have := hg.len
    have p1 := row_all hg i
    have p2 := rrow_all hg i
    by_cases hc : 0 ≤ i ∧ i < (n : Int)
    · rw [if_pos hc] at p1 p2
      exact ⟨_, _, p1, p2, by unfold rowAt; simp; omega⟩
    · rw [if_neg hc] at p1 p2
      exact ⟨_, _, p1, p2, by simp⟩
theorem same_both {x t : G_api_Table} (h : OD x) : ∃ b, s_table_Same x t = some b ∧ s_tablefinderref03_Same x t = some b := by
  have := h.cols
  exact ⟨_, tsame_eq x t (by omega) (fun c hc => by have := (h.col c hc).2.1; omega), rsame_eq x t (by omega) (fun c hc => by have := (h.col c hc).2.1; omega)⟩
theorem sameRows_both {x t : G_api_Table} (h : OD x) (ht : OD t) : ∃ b, s_table_SameRows x t = some b ∧ s_tablefinderref03_SameRows x t = some b := by
  obtain ⟨v1, v2⟩ := h.v
  obtain ⟨w1, w2⟩ := ht.v
  cases hv : tableS x with
  | false =>
    rw [hv] at v1 v2
    exact ⟨false, by unfold s_table_SameRows; rw [v1]; rfl, by unfold s_tablefinderref03_SameRows; rw [v2]; rfl⟩
  | true =>
    cases hw : tableS t with
    | false =>
      rw [hv] at v1 v2
      rw [hw] at w1 w2
      exact ⟨false, by unfold s_table_SameRows; rw [v1, Option.bind_some, cond_true, w1]; rfl, by unfold s_tablefinderref03_SameRows; rw [v2, Option.bind_some, Bool.not_true, cond_false, w2]; rfl⟩
    | true =>
      obtain ⟨n, hg⟩ := h.gt hv
      obtain ⟨m, hm⟩ := ht.gt hw
      exact ⟨_, tsameRows_eq hg hm, rsameRows_eq hg hm⟩
theorem same_self {u : G_api_Table} (h : SmallT u) : s_tablefinderref03_Same u u = some true := by
  rw [rsame_eq u u (by have := h.1; omega) (fun c hc => by have := h.2 c hc; omega), decide_eq_true rfl]
end Go.Proofs

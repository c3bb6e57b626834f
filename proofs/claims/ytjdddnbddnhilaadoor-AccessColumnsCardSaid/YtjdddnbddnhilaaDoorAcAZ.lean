/- The law AccessColumns. -/
import Derived.Test.YtjdddnbddnhilaaDoorAcAX
set_option linter.unusedVariables false
set_option linter.unusedSimpArgs false
set_option linter.unusedSectionVars false
namespace Go.Proofs
open Go Eng

theorem viewS_get (may : Nat → Bool) (n : Nat) (l : List GaColumn) {k : Nat} (h : k < l.length) : (viewS may n l)[k]'(by rw [viewS_len]; exact h) = if may k then l[k] else hid n := by
  unfold viewS; simp [List.getElem_zipIdx]

theorem visS_app (l : List GaPermission) (u : Str) (a b : List GaTable) : visS l u (a ++ b) = visS l u a ++ visS l u b := by
  unfold visS; rw [List.filter_append, List.map_append]
theorem visS_cons (l : List GaPermission) (u : Str) (t : GaTable) (b : List GaTable) : visS l u (t :: b) = if anyS (mayT l u t.ID) t.Columns then seenT l u t :: visS l u b else visS l u b := by
  unfold visS
  rw [List.filter_cons]
  split <;> rfl
theorem visS_mem {l : List GaPermission} {u : Str} {b : List GaTable} {y : GaTable} (h : y ∈ visS l u b) : ∃ t ∈ b, y.ID = t.ID := by
  unfold visS at h
  obtain ⟨t, ht, rfl⟩ := List.mem_map.1 h
  exact ⟨t, (List.mem_filter.1 ht).1, rfl⟩

theorem cellsC_loop (m : List GaPermission) (u : Str) (k i : Int) (may : Bool) (a : List GaTable) (b c : Int) (e : List GaColumn) (f g : Int) (cells : List GaCell) (hl : cells.length ≤ 1000) (seen : List GaTable) (x : GaTable)
    (hm : may = true → 0 ≤ i ∧ ∃ h : i.toNat < x.Columns.length, x.Columns[i.toNat].Cells = cells) (hn : may = false → ∀ z ∈ cells, z = ⟨true, []⟩) :
    wp (sl42_AccessColumns_l4 big m u k i may a b c e f g cells (cells.length : Int) 0 seen x) (fun y => y = .brk (m, u, k, a, b, c, e, f, g, seen, x)) := by
  refine forS_wp sl42_AccessColumns_l4_FB cells (by omega) (fun r (_ : Unit) => (m, u, k, i, may, a, b, c, e, f, g, cells, (cells.length : Int), r, seen, x)) (fun _ _ => True) () trivial (fun rec r _ hlt _ ih => ?_) (fun rec _ _ => ?_)
  · unfold sl42_AccessColumns_l4_B sl42_AccessColumns_l4_b sl42_AccessColumns_j7
    dsimp only
    rw [wp_bif]
    refine ⟨fun _ => ?_, fun h => by simp only [decide_eq_false_iff_not] at h; omega⟩
    rw [wp_bind, idx_nat hlt, wp_some]
    have go : wp (chk (inK .i64 ((r : Int) + 1)) (rec (m, u, k, i, may, a, b, c, e, f, g, cells, (cells.length : Int), (r : Int) + 1, seen, x))) (fun y => y = .brk (m, u, k, a, b, c, e, f, g, seen, x)) := by
      rw [wp_chk]; exact ⟨inK_i64 (by omega), ih () trivial⟩
    cases may with
    | true =>
      obtain ⟨h0, h1, h2⟩ := hm rfl
      rw [cond_true, wp_bind, idx_some h0 h1, wp_some, wp_bind, h2, idx_nat hlt, wp_some, wp_bif]
      refine ⟨fun h => by simp at h, fun _ => ?_⟩
      rw [Bool.not_true, cond_false, cond_false]
      exact go
    | false =>
      have hz := hn rfl _ (List.getElem_mem hlt)
      have e : (!(cells[r].Null == true && (cells[r].Text == ([] : Str) && true))) = false := by rw [hz]; rfl
      rw [cond_false, Bool.not_false, cond_true, e, cond_false]
      exact go
  · unfold sl42_AccessColumns_l4_B sl42_AccessColumns_l4_b
    dsimp only
    rw [wp_bif]
    exact ⟨fun h => by simp only [decide_eq_true_eq] at h; omega, fun _ => by rw [wp_some]⟩

theorem colsC_loop (m : List GaPermission) (u : Str) (k : Int) (a : List GaTable) (b c : Int) (seen : List GaTable) {x : GaTable} (hx : TabIn x) (y : List GaColumn) (hy : y = viewS (mayT m u x.ID) (rowsS x).toNat x.Columns) :
    wp (sl42_AccessColumns_l3 big m u k a b c y (y.length : Int) 0 seen x) (fun q => q = .brk (m, u, k, a, b, c, seen)) := by
  have hr := rowsS_le hx
  have hc := hx.2.1
  have hyl : y.length = x.Columns.length := by rw [hy, viewS_len]
  refine forS_wp sl42_AccessColumns_l3_FB y (by omega) (fun i (_ : Unit) => (m, u, k, a, b, c, y, (y.length : Int), i, seen, x)) (fun _ _ => True) () trivial (fun rec i _ hlt _ ih => ?_) (fun rec _ _ => ?_)
  · have hi : i < x.Columns.length := by omega
    have hyi : y[i] = if mayT m u x.ID i then x.Columns[i] else hid (rowsS x).toNat := by subst hy; exact viewS_get _ _ _ hi
    have hlen : (y[i].Cells.length : Int) = rowsS x := by
      rw [hyi]; split
      · exact hr.2.2 _ (List.getElem_mem hi)
      · show ((List.replicate (rowsS x).toNat (⟨true, []⟩ : GaCell)).length : Int) = _
        rw [List.length_replicate]; omega
    unfold sl42_AccessColumns_l3_B sl42_AccessColumns_l3_b
    dsimp only
    rw [wp_bif]
    refine ⟨fun _ => ?_, fun h => by simp only [decide_eq_false_iff_not] at h; omega⟩
    rw [wp_bind, idx_nat hlt, wp_some, may_eq, wp_bind, wp_some, rrows_eq, wp_bind, wp_some]
    have hm' : mayS m u ⟨x.ID, (i : Int)⟩ = mayT m u x.ID i := rfl
    rw [hm', hlen]
    have j6 : wp (sl42_AccessColumns_j6 (fun rules user k t36 t37 t38 t98 t99 i seen x_ => rec (rules, user, k, t36, t37, t38, t98, t99, i, seen, x_)) m u k i (mayT m u x.ID i) a b c y (y.length : Int) i false seen x y[i]) (fun q => q = .brk (m, u, k, a, b, c, seen)) := by
      unfold sl42_AccessColumns_j6
      rw [cond_false, wp_bind]
      refine wp_mono (cellsC_loop m u k i (mayT m u x.ID i) a b c y _ i y[i].Cells (by omega) seen x (fun h => ?_) (fun h => ?_)) ?_
      · rw [h, if_pos rfl] at hyi
        exact ⟨by omega, by simpa using hi, by rw [hyi]; rfl⟩
      · rw [h, if_neg (by simp)] at hyi
        rw [hyi]
        exact fun z hz => List.eq_of_mem_replicate hz
      · rintro q rfl
        dsimp only
        unfold sl42_AccessColumns_k8
        rw [wp_chk]
        exact ⟨inK_i64 (by omega), ih () trivial⟩
    rw [show (rowsS x != rowsS x) = false by simp, cond_false]
    cases hmay : mayT m u x.ID i with
    | true =>
      rw [hmay] at j6 hyi
      rw [if_pos rfl] at hyi
      rw [cond_true, wp_bind, idx_nat hi, wp_some, wp_bif]
      refine ⟨fun h => ?_, fun _ => ?_⟩
      · rw [hyi] at h; simp at h
      rw [Bool.not_true, cond_false]
      exact j6
    | false =>
      rw [hmay] at j6 hyi
      rw [if_neg (by simp)] at hyi
      rw [cond_false, Bool.not_false, cond_true]
      have : (!(y[i].Name == ([] : Str))) = false := by rw [hyi]; rfl
      rw [this]
      exact j6
  · unfold sl42_AccessColumns_l3_B sl42_AccessColumns_l3_b
    dsimp only
    rw [wp_bif]
    exact ⟨fun h => by simp only [decide_eq_true_eq] at h; omega, fun _ => by rw [wp_some]⟩

theorem anyC_loop (m : List GaPermission) (u : Str) (k : Int) (a : List GaTable) (b c : Int) (seen : List GaTable) (x : GaTable) (hl : x.Columns.length ≤ 1000) :
    wp (sl42_AccessColumns_l2 big m u k false a b c (x.Columns.length : Int) 0 seen x) (fun q => q = (m, u, k, anyS (mayT m u x.ID) x.Columns, a, b, c, seen, x)) := by
  refine forS_wp sl42_AccessColumns_l2_FB x.Columns (by omega) (fun i (o : Bool) => (m, u, k, o, a, b, c, (x.Columns.length : Int), i, seen, x)) (fun i o => o = anyS (mayT m u x.ID) (x.Columns.take i)) false rfl (fun rec i o hlt hP ih => ?_) (fun rec o hP => ?_)
  · subst hP
    have hs : anyS (mayT m u x.ID) (x.Columns.take (i + 1)) = (anyS (mayT m u x.ID) (x.Columns.take i) || mayT m u x.ID i) := by
      rw [List.take_succ_eq_append_getElem hlt, anyS_snoc, List.length_take]; congr 2; omega
    unfold sl42_AccessColumns_l2_B sl42_AccessColumns_l2_b sl42_AccessColumns_j2
    dsimp only
    rw [wp_bif]
    refine ⟨fun _ => ?_, fun h => by simp only [decide_eq_false_iff_not] at h; omega⟩
    rw [wp_bif]
    refine ⟨fun h => ?_, fun h => ?_⟩
    · rw [wp_chk]; exact ⟨inK_i64 (by omega), ih _ (by rw [hs, h]; rfl)⟩
    · rw [may_eq, wp_bind, wp_some, wp_chk]; exact ⟨inK_i64 (by omega), ih _ (by rw [hs, h]; rfl)⟩
  · subst hP
    rw [List.take_length]
    unfold sl42_AccessColumns_l2_B sl42_AccessColumns_l2_b
    dsimp only
    rw [wp_bif]
    exact ⟨fun h => by simp only [decide_eq_true_eq] at h; omega, fun _ => by rw [wp_some]⟩

theorem tabsC_loop (m : List GaPermission) (u : Str) {l : List GaTable} {b : Int} (hl : ListIn 10 b l) (seen : List GaTable) (hseen : seen = visS m u l) :
    wp (sl42_AccessColumns_l1 big m u 0 l (l.length : Int) 0 seen) (fun q => q = .brk ((seen.length : Int), seen)) := by
  have hln := hl.len
  refine forS_wp sl42_AccessColumns_l1_FB l (by omega) (fun j (k : Int) => (m, u, k, l, (l.length : Int), j, seen)) (fun j k => k = ((visS m u (l.take j)).length : Int)) 0 rfl (fun rec j k hlt hP ih => ?_) (fun rec k hP => ?_)
  · subst hP
    have hx := hl.tabs l[j] (List.getElem_mem hlt)
    have hs : seen = visS m u (l.take j) ++ visS m u (l[j] :: l.drop (j + 1)) := by
      rw [hseen, ← visS_app, List.getElem_cons_drop, List.take_append_drop]
    have hn : (visS m u (l.take (j + 1))).length = (visS m u (l.take j)).length + if anyS (mayT m u l[j].ID) l[j].Columns then 1 else 0 := by
      rw [List.take_succ_eq_append_getElem hlt, visS_snoc]
      split <;> simp
    have hpl : (visS m u (l.take j)).length ≤ 10 := by
      have h1 : (visS m u (l.take j)).length ≤ (l.take j).length := by unfold visS; rw [List.length_map]; exact List.length_filter_le ..
      rw [List.length_take] at h1; omega
    rw [visS_cons] at hs
    have later : ∀ y ∈ visS m u (l.drop (j + 1)), (y.ID == l[j].ID) = false := fun y hy => by
      obtain ⟨t, ht, hid⟩ := visS_mem hy
      obtain ⟨i, hi, rfl⟩ := List.getElem_of_mem ht
      have := List.pairwise_iff_getElem.1 hl.asc j (j + 1 + i) (by simpa using hlt) (by simp at hi ⊢; omega) (by omega)
      simp only [List.getElem_map] at this
      rw [beq_eq_false_iff_ne, hid, List.getElem_drop]
      omega
    unfold sl42_AccessColumns_l1_B sl42_AccessColumns_l1_b
    dsimp only
    rw [wp_bif]
    refine ⟨fun _ => ?_, fun h => by simp only [decide_eq_false_iff_not] at h; omega⟩
    rw [wp_bind, idx_nat hlt, wp_some, wp_bind]
    refine wp_mono (anyC_loop m u _ l _ _ seen l[j] (by have := hx.1.2.1; omega)) ?_
    rintro q rfl
    dsimp only
    unfold sl42_AccessColumns_k3
    generalize hp : visS m u (l.take j) = p at *
    cases hany : anyS (mayT m u l[j].ID) l[j].Columns with
    | true =>
      rw [hany, if_pos rfl] at hs hn
      have hlt2 : p.length < seen.length := by rw [hs]; simp
      have hget : seen[p.length] = seenT m u l[j] := by subst hs; simp
      rw [wp_bif]
      refine ⟨fun _ => ?_, fun h => by simp only [decide_eq_false_iff_not] at h; omega⟩
      rw [wp_chk, wp_bind, wp_get]
      refine ⟨inR_ok (by omega), by simpa using hlt2, ?_⟩
      simp only [Int.toNat_natCast]
      rw [hget]
      have e1 : (!(true == ((seenT m u l[j]).ID == l[j].ID))) = false := by unfold seenT; simp
      rw [e1]
      unfold sl42_AccessColumns_j4
      rw [cond_false, Bool.not_true, cond_false, wp_chk, wp_bind, wp_get]
      refine ⟨inR_ok (by omega), by simpa using hlt2, ?_⟩
      simp only [Int.toNat_natCast]
      rw [hget, wp_chk]
      refine ⟨inK_i64 (by omega), ?_⟩
      have e2 : (!((seenT m u l[j]).Name == l[j].Name)) = false := by unfold seenT; simp
      have e3 : (((seenT m u l[j]).Columns.length : Int) != (l[j].Columns.length : Int)) = false := by unfold seenT; simp [viewS_len]
      rw [e2, cond_false, e3]
      unfold sl42_AccessColumns_j5
      rw [cond_false, wp_bind]
      refine wp_mono (colsC_loop m u _ l _ _ seen hx.1 _ rfl) ?_
      rintro q rfl
      dsimp only
      unfold sl42_AccessColumns_k9
      rw [wp_chk]
      exact ⟨inK_i64 (by omega), ih _ (by rw [hn]; simp)⟩
    | false =>
      rw [hany, if_neg (by simp)] at hs hn
      have nx : wp (sl42_AccessColumns_j4 (fun rules user k t36 t37 t38 seen => rec (rules, user, k, t36, t37, t38, seen)) m u (p.length : Int) false l (l.length : Int) j false seen l[j]) (fun q => q = .brk ((seen.length : Int), seen)) := by
        unfold sl42_AccessColumns_j4
        rw [cond_false, Bool.not_false, cond_true, wp_chk]
        exact ⟨inK_i64 (by omega), ih _ (by rw [hn]; simp)⟩
      rw [wp_bif]
      refine ⟨fun h => ?_, fun _ => nx⟩
      simp only [decide_eq_true_eq] at h
      have hlt2 : p.length < seen.length := by omega
      rw [wp_chk, wp_bind, wp_get]
      refine ⟨inR_ok (by omega), by simpa using hlt2, ?_⟩
      simp only [Int.toNat_natCast]
      have hmem : seen[p.length] ∈ visS m u (l.drop (j + 1)) := by
        subst hs
        rw [List.getElem_append_right (Nat.le_refl _)]
        exact List.getElem_mem _
      rw [later _ hmem]
      exact nx
  · subst hP
    rw [List.take_length, ← hseen]
    unfold sl42_AccessColumns_l1_B sl42_AccessColumns_l1_b
    dsimp only
    rw [wp_bif]
    exact ⟨fun h => by simp only [decide_eq_true_eq] at h; omega, fun _ => by rw [wp_some]⟩

theorem accessColumns_law (t : List Int) (other : Bool) : sl42_AccessColumns t other = some true := by
  refine eq_of_wp ?_
  unfold sl42_AccessColumns sk_Light
  rw [wp_bind, wp_some, wp_bif]
  refine ⟨fun _ => awake42_wp rfl, fun hl => ?_⟩
  simp only [Bool.not_eq_false', decide_eq_true_eq] at hl
  unfold sk_Roll
  rw [wp_bind, wp_some, wp_bind]
  refine wp_mono (rules_wp (d := ⟨t, 0⟩) ⟨by simp, by simp, by simp only; omega⟩) fun ⟨m, d1⟩ ⟨hlen, hd1⟩ => ?_
  dsimp only at hlen hd1 ⊢
  rw [wp_bind]
  refine wp_mono (tables_wp hd1 (by omega)) fun ⟨ts, d2⟩ ⟨hts, _⟩ => ?_
  dsimp only at hts ⊢
  have j1 : ∀ u : Str, wp (sl42_AccessColumns_j1 u m ts) (· = true) := fun u => by
    unfold sl42_AccessColumns_j1 sl42_AccessColumns_k10 sl42_AccessColumns_j11
    rw [visible_eq m u hts.len (fun t ht => tiny_of (hts.tabs t ht).1), wp_bind, wp_some, wp_bind]
    refine wp_mono (tabsC_loop m u hts _ rfl) ?_
    rintro q rfl
    dsimp only
    rw [beq_self_eq_true, cond_true]
    exact awake42_wp rfl
  rw [wp_bif]
  exact ⟨fun _ => j1 _, fun _ => j1 _⟩
end Go.Proofs

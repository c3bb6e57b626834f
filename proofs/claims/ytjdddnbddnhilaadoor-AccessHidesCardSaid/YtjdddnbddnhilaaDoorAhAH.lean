/- The law AccessHides. -/
import Derived.Test.YtjdddnbddnhilaaDoorAhAX
set_option linter.unusedVariables false
set_option linter.unusedSimpArgs false
set_option linter.unusedSectionVars false
namespace Go.Proofs
open Go Eng

theorem visS_app (l : List GaPermission) (u : Str) (a b : List GaTable) : visS l u (a ++ b) = visS l u a ++ visS l u b := by
  unfold visS; rw [List.filter_append, List.map_append]

theorem hcells_loop {d : Gk_Dice} (hd : DiceOk d) (m : List GaPermission) (u : Str) (sn : Bool) (e f : Int) (g : List GaColumn) (h i : Int) (n : Nat) (hn : n ≤ 100) (a b : List GaTable) (x : GaTable) (p : Int) (q s : Str) (r : List GaColumn) :
    wp (sl42_AccessHides_l3 big m u sn e f g h i (n : Int) 0 d a b x p q s r []) (fun y => ∃ d' z, y = (m, u, sn, e, f, g, h, i, d', a, b, x, p, q, s, r, z) ∧ DiceOk d' ∧ z.length = n) := by
  refine uptoS_wp sl42_AccessHides_l3_FB n (by omega) (fun k (t : Gk_Dice × List GaCell) => (m, u, sn, e, f, g, h, i, (n : Int), k, t.1, a, b, x, p, q, s, r, t.2)) (fun k t => DiceOk t.1 ∧ t.2.length = k) (d, []) ⟨hd, rfl⟩ ?_ ?_
  · rintro rec k ⟨d, z⟩ hlt ⟨hd, hz⟩ ih
    dsimp only at hd hz ih
    unfold sl42_AccessHides_l3_B sl42_AccessHides_l3_b
    dsimp only
    rw [wp_bif]
    refine ⟨fun _ => ?_, fun h => by simp only [decide_eq_false_iff_not] at h; omega⟩
    rw [wp_bind]
    refine wp_mono (cell_wp hd) fun ⟨c, d2⟩ ⟨_, hd2⟩ => ?_
    dsimp only at hd2 ⊢
    rw [wp_chk, wp_chk]
    exact ⟨room_ok (by simp only [List.length_singleton]; omega), inK_i64 (by omega), ih (d2, z ++ [c]) ⟨hd2, by simp [hz]⟩⟩
  · rintro rec ⟨d, z⟩ ⟨hd, hz⟩
    unfold sl42_AccessHides_l3_B sl42_AccessHides_l3_b
    dsimp only
    rw [wp_bif]
    exact ⟨fun h => by simp only [decide_eq_true_eq] at h; omega, fun _ => by rw [wp_some]; exact ⟨d, z, rfl, hd, hz⟩⟩

/-- The same columns where they may be seen, as many cells elsewhere. -/
structure Alike (may : Nat → Bool) (n : Nat) (y l : List GaColumn) : Prop where
  len : y.length = l.length
  any : anyS may y = anyS may l
  view : viewS may n y = viewS may n l
  cells : y.map (·.Cells.length) = l.map (·.Cells.length)
theorem Alike.snoc {may : Nat → Bool} {n : Nat} {y l : List GaColumn} (h : Alike may n y l) {c c' : GaColumn} (hc : may l.length = true → c' = c) (hl : c'.Cells.length = c.Cells.length) : Alike may n (y ++ [c']) (l ++ [c]) := by
  refine ⟨by simp [h.len], by rw [anyS_snoc, anyS_snoc, h.any, h.len], ?_, by simp [h.cells, hl]⟩
  rw [viewS_snoc, viewS_snoc, h.view, h.len]
  cases hm : may l.length with
  | true => rw [hc hm]
  | false => rfl

theorem hcols_loop {d : Gk_Dice} (hd : DiceOk d) (m : List GaPermission) (u : Str) (e f : Int) (a b : List GaTable) {x : GaTable} (hx : TinyT x) :
    wp (sl42_AccessHides_l2 big m u false e f x.Columns (x.Columns.length : Int) 0 d a b x x.ID x.Name []) (fun y => ∃ d' z, y = (m, u, anyS (mayT m u x.ID) x.Columns, e, f, d', a, b, x, x.ID, x.Name, z) ∧ DiceOk d' ∧ Alike (mayT m u x.ID) (rowsS x).toNat z x.Columns) := by
  have hl := hx.cols
  refine forS_wp sl42_AccessHides_l2_FB x.Columns (by omega) (fun k (t : Bool × Gk_Dice × List GaColumn) => (m, u, t.1, e, f, x.Columns, (x.Columns.length : Int), k, t.2.1, a, b, x, x.ID, x.Name, t.2.2))
    (fun k t => t.1 = anyS (mayT m u x.ID) (x.Columns.take k) ∧ DiceOk t.2.1 ∧ Alike (mayT m u x.ID) (rowsS x).toNat t.2.2 (x.Columns.take k)) (false, d, []) ⟨rfl, hd, rfl, rfl, rfl, rfl⟩ ?_ ?_
  · rintro rec k ⟨sn, d, z⟩ hlt ⟨h1, hd, hz⟩ ih
    dsimp only at h1 hd hz ih
    subst h1
    have htl : (x.Columns.take k).length = k := by rw [List.length_take]; omega
    have hzl : z.length = k := by rw [hz.len, htl]
    have hs : anyS (mayT m u x.ID) (x.Columns.take (k + 1)) = (anyS (mayT m u x.ID) (x.Columns.take k) || mayT m u x.ID k) := by
      rw [List.take_succ_eq_append_getElem hlt, anyS_snoc, htl]
    have hc := hx.cells _ (List.getElem_mem hlt)
    unfold sl42_AccessHides_l2_B sl42_AccessHides_l2_b
    dsimp only
    rw [wp_bif]
    refine ⟨fun _ => ?_, fun h => by simp only [decide_eq_false_iff_not] at h; omega⟩
    rw [wp_bind, idx_nat hlt, wp_some, may_eq, wp_bind, wp_some]
    have hm' : mayS m u ⟨x.ID, (k : Int)⟩ = mayT m u x.ID k := rfl
    rw [hm', wp_bif]
    refine ⟨fun hmay => ?_, fun hmay => ?_⟩
    · unfold sl42_AccessHides_j3
      rw [wp_chk, wp_chk]
      refine ⟨room_ok (by simp only [List.length_singleton]; omega), inK_i64 (by omega), ih (true, d, z ++ [x.Columns[k]]) ⟨by rw [hs, hmay, Bool.or_true], hd, ?_⟩⟩
      dsimp only
      rw [List.take_succ_eq_append_getElem hlt]
      exact hz.snoc (fun _ => rfl) rfl
    · rw [wp_bind]
      refine wp_mono (hcells_loop hd m u _ e f _ _ _ _ hc a b x _ _ _ _) ?_
      rintro y ⟨d', c, rfl, hd', hcl⟩
      dsimp only
      unfold sl42_AccessHides_k2 sl42_AccessHides_j3
      rw [wp_chk, wp_chk]
      refine ⟨room_ok (by simp only [List.length_singleton]; omega), inK_i64 (by omega), ih (anyS (mayT m u x.ID) (x.Columns.take k), d', z ++ [⟨[104, 105, 100, 100, 101, 110], c⟩]) ⟨by rw [hs, hmay, Bool.or_false], hd', ?_⟩⟩
      dsimp only
      rw [List.take_succ_eq_append_getElem hlt]
      exact hz.snoc (fun h => by rw [htl, hmay] at h; cases h) hcl
  · rintro rec ⟨sn, d, z⟩ ⟨h1, hd, hz⟩
    dsimp only at h1 hd hz
    rw [List.take_length] at h1 hz
    subst h1
    unfold sl42_AccessHides_l2_B sl42_AccessHides_l2_b
    dsimp only
    rw [wp_bif]
    exact ⟨fun h => by simp only [decide_eq_true_eq] at h; omega, fun _ => by rw [wp_some]; exact ⟨d, z, rfl, hd, hz⟩⟩

theorem rowsS_alike {x y : GaTable} (h : y.Columns.map (·.Cells.length) = x.Columns.map (·.Cells.length)) : rowsS y = rowsS x := by
  rw [rowsS_eq, rowsS_eq]
  cases hy : y.Columns with
  | nil =>
    cases hx : x.Columns with
    | nil => rfl
    | cons c l => rw [hx, hy] at h; simp at h
  | cons c l =>
    cases hx : x.Columns with
    | nil => rw [hx, hy] at h; simp at h
    | cons c' l' =>
      rw [hx, hy] at h
      simp only [List.map_cons, List.cons.injEq] at h
      simp only [rowsL]
      rw [h.1]

theorem alike_seen {m : List GaPermission} {u : Str} {x : GaTable} {z : List GaColumn} (h : Alike (mayT m u x.ID) (rowsS x).toNat z x.Columns) : visS m u [⟨x.ID, x.Name, z⟩] = visS m u [x] := by
  have hr : rowsS ⟨x.ID, x.Name, z⟩ = rowsS x := rowsS_alike h.cells
  unfold visS
  have e : anyS (mayT m u x.ID) z = anyS (mayT m u x.ID) x.Columns := h.any
  have s : seenT m u ⟨x.ID, x.Name, z⟩ = seenT m u x := by
    unfold seenT
    dsimp only
    rw [hr, h.view]
  cases ha : anyS (mayT m u x.ID) x.Columns with
  | true => rw [List.filter_cons_of_pos (by dsimp only; rw [e, ha]), List.filter_cons_of_pos (by rw [ha])]; simp [s]
  | false => rw [List.filter_cons_of_neg (by dsimp only; rw [e, ha]; simp), List.filter_cons_of_neg (by rw [ha]; simp)]

theorem alike_tiny {may : Nat → Bool} {n : Nat} {x : GaTable} {z : List GaColumn} (h : Alike may n z x.Columns) (hx : TinyT x) : TinyT ⟨x.ID, x.Name, z⟩ := by
  have hr : rowsS ⟨x.ID, x.Name, z⟩ = rowsS x := rowsS_alike h.cells
  refine ⟨by dsimp only; rw [h.len]; exact hx.cols, by rw [hr]; exact hx.rows, fun c hc => ?_⟩
  have : c.Cells.length ∈ z.map (·.Cells.length) := List.mem_map.2 ⟨c, hc, rfl⟩
  rw [h.cells] at this
  obtain ⟨c', hc', e⟩ := List.mem_map.1 this
  have := hx.cells c' hc'
  omega

theorem hother_loop {d : Gk_Dice} (m : List GaPermission) (u : Str) (e f : Int) (a b : List GaTable) (x : GaTable) {y : GaTable} (hy : TabIn y) (hid : y.ID = x.ID) :
    wp (sl42_AccessHides_l4 big m u e f (y.Columns.length : Int) 0 d a b x y) (fun z => ∃ y', z = (m, u, y', e, f, d, a, b) ∧ TinyT y' ∧ visS m u [y'] = []) := by
  have hl := hy.2.1
  have none_ : ∀ t : GaTable, anyS (mayT m u t.ID) t.Columns = false → visS m u [t] = [] := fun t h => by
    unfold visS; rw [List.filter_cons_of_neg (by rw [h]; simp)]; rfl
  refine forS_wp sl42_AccessHides_l4_FB y.Columns (by omega) (fun k (_ : Unit) => (m, u, e, f, (y.Columns.length : Int), k, d, a, b, x, y)) (fun k _ => anyS (mayT m u y.ID) (y.Columns.take k) = false) () rfl (fun rec k _ hlt hP ih => ?_) (fun rec _ hP => ?_)
  · unfold sl42_AccessHides_l4_B sl42_AccessHides_l4_b
    dsimp only
    rw [wp_bif]
    refine ⟨fun _ => ?_, fun h => by simp only [decide_eq_false_iff_not] at h; omega⟩
    rw [may_eq, wp_bind, wp_some]
    have hm' : mayS m u ⟨x.ID, (k : Int)⟩ = mayT m u y.ID k := by rw [hid]; rfl
    rw [hm', wp_bif]
    refine ⟨fun _ => ?_, fun hmay => ?_⟩
    · rw [wp_some]
      exact ⟨_, rfl, ⟨by simp, by rw [show rowsS (⟨y.ID, y.Name, []⟩ : GaTable) = 0 from rfl]; omega, by simp⟩, none_ _ rfl⟩
    · rw [wp_chk]
      refine ⟨inK_i64 (by omega), ih () ?_⟩
      rw [List.take_succ_eq_append_getElem hlt, anyS_snoc, hP, List.length_take, Nat.min_eq_left (by omega), hmay]; rfl
  · rw [List.take_length] at hP
    unfold sl42_AccessHides_l4_B sl42_AccessHides_l4_b
    dsimp only
    rw [wp_bif]
    exact ⟨fun h => by simp only [decide_eq_true_eq] at h; omega, fun _ => by rw [wp_some]; exact ⟨y, rfl, tiny_of hy, none_ _ hP⟩⟩

theorem htabs_loop {d : Gk_Dice} (hd : DiceOk d) (m : List GaPermission) (u : Str) {a : List GaTable} (hl : a.length ≤ 10) (ha : ∀ t ∈ a, TinyT t) :
    wp (sl42_AccessHides_l1 big m u (a.length : Int) 0 d a []) (fun y => ∃ b, y = (m, u, a, b) ∧ b.length ≤ 10 ∧ (∀ t ∈ b, TinyT t) ∧ visS m u b = visS m u a) := by
  refine forS_wp sl42_AccessHides_l1_FB a (by omega) (fun i (t : Gk_Dice × List GaTable) => (m, u, (a.length : Int), i, t.1, a, t.2)) (fun i t => DiceOk t.1 ∧ t.2.length ≤ i ∧ (∀ x ∈ t.2, TinyT x) ∧ visS m u t.2 = visS m u (a.take i)) (d, []) ⟨hd, by simp, by simp, rfl⟩ ?_ ?_
  · rintro rec i ⟨d, b⟩ hlt ⟨hd, hbl, hb, hv⟩ ih
    dsimp only at hd hbl hb hv ih
    have hx := ha _ (List.getElem_mem hlt)
    have hvs : ∀ y, visS m u [y] = visS m u [a[i]] → visS m u (b ++ [y]) = visS m u (a.take (i + 1)) := fun y h => by
      rw [List.take_succ_eq_append_getElem hlt, visS_app, visS_app, hv, h]
    have add : ∀ (y : GaTable) (d' : Gk_Dice), DiceOk d' → TinyT y → visS m u [y] = visS m u [a[i]] → wp (chk (room (b.length + ([y] : List GaTable).length) 48) (sl42_AccessHides_j6 (fun rules u t36 t37 d a b => rec (rules, u, t36, t37, d, a, b)) m u (a.length : Int) i d' a (b ++ [y]))) (fun y => ∃ b, y = (m, u, a, b) ∧ b.length ≤ 10 ∧ (∀ t ∈ b, TinyT t) ∧ visS m u b = visS m u a) := fun y d' hd' hy h => by
      unfold sl42_AccessHides_j6
      rw [wp_chk, wp_chk]
      refine ⟨room_ok (by simp only [List.length_singleton]; omega), inK_i64 (by omega), ih (d', b ++ [y]) ⟨hd', by simp; omega, fun z hz => ?_, hvs y h⟩⟩
      rcases List.mem_append.1 hz with hz | hz
      · exact hb z hz
      · simp only [List.mem_singleton] at hz; subst hz; exact hy
    unfold sl42_AccessHides_l1_B sl42_AccessHides_l1_b
    dsimp only
    rw [wp_bif]
    refine ⟨fun _ => ?_, fun h => by simp only [decide_eq_false_iff_not] at h; omega⟩
    rw [wp_chk, wp_bind, wp_get]
    refine ⟨inR_nat hlt, by simpa using hlt, ?_⟩
    simp only [Int.toNat_natCast]
    rw [wp_bind]
    refine wp_mono (hcols_loop hd m u _ _ a b hx) ?_
    rintro y ⟨d2, z, rfl, hd2, hz⟩
    dsimp only
    unfold sl42_AccessHides_k4
    rw [wp_bif]
    refine ⟨fun hn => ?_, fun _ => ?_⟩
    · have hnone : visS m u [a[i]] = [] := by
        rw [Bool.not_eq_true'] at hn
        unfold visS; rw [List.filter_cons_of_neg (by rw [hn]; simp)]; rfl
      rw [wp_bind]
      refine wp_mono (next_wp hd2 (by omega)) fun ⟨q, d3⟩ ⟨_, hd3⟩ => ?_
      dsimp only at hd3 ⊢
      rw [wp_bif]
      refine ⟨fun _ => ?_, fun _ => ?_⟩
      · unfold sl42_AccessHides_j6
        rw [wp_chk]
        refine ⟨inK_i64 (by omega), ih (d3, b) ⟨hd3, by dsimp only; omega, hb, ?_⟩⟩
        dsimp only
        rw [List.take_succ_eq_append_getElem hlt, visS_app, hv, hnone, List.append_nil]
      · rw [wp_bind]
        refine wp_mono (table_wp hd3 _) fun ⟨y, d4⟩ ⟨⟨hy, hid⟩, hd4⟩ => ?_
        dsimp only at hy hid hd4 ⊢
        rw [wp_bind]
        refine wp_mono (hother_loop m u _ _ a b a[i] hy hid) ?_
        rintro w ⟨y', rfl, hy', hv'⟩
        dsimp only
        unfold sl42_AccessHides_k5
        exact add y' d4 hd4 hy' (by rw [hv', hnone])
    · exact add _ d2 hd2 (alike_tiny hz hx) (alike_seen hz)
  · rintro rec ⟨d, b⟩ ⟨_, hbl, hb, hv⟩
    dsimp only at hbl hb hv
    rw [List.take_length] at hv
    unfold sl42_AccessHides_l1_B sl42_AccessHides_l1_b
    dsimp only
    rw [wp_bif]
    exact ⟨fun h => by simp only [decide_eq_true_eq] at h; omega, fun _ => by rw [wp_some]; exact ⟨b, rfl, by omega, hb, hv⟩⟩

theorem rfind_wp {b : Int} {l : List GaTable} (h : ListIn 10 b l) {j : Nat} (hj : j < l.length) : sr03_Find l l[j].ID = some (l[j], true) := by
  refine eq_of_wp ?_
  have hl := h.len
  unfold sr03_Find
  rw [wp_bind]
  refine wp_mono (forS_wp sr03_Find_l1_FB l (by omega) (fun k (_ : Unit) => (l[j].ID, l, (l.length : Int), k, 0, [], [])) (fun k _ => k ≤ j) (Q := fun x => x = .ret (l[j], true)) () (by omega) (fun rec k _ hlt hP ih => ?_) (fun rec _ hP => by omega)) ?_
  · unfold sr03_Find_l1_B sr03_Find_l1_b
    dsimp only
    rw [wp_bif]
    refine ⟨fun _ => ?_, fun h => by simp only [decide_eq_false_iff_not] at h; omega⟩
    rw [wp_bind, idx_nat hlt, wp_some, wp_bif]
    refine ⟨fun he => ?_, fun he => ?_⟩
    · have hkj : k = j := by
        rcases Nat.lt_or_eq_of_le hP with hlt2 | e
        · have := List.pairwise_iff_getElem.1 h.asc k j (by simpa using hlt) (by simpa using hj) hlt2
          simp only [List.getElem_map] at this
          have := beq_iff_eq.1 he
          omega
        · exact e
      subst hkj
      rw [wp_some]
    · have hkj : k ≠ j := fun e => by subst e; simp at he
      rw [wp_chk]
      exact ⟨inK_i64 (by omega), ih () (by omega)⟩
  · rintro x rfl
    dsimp only; rw [wp_some]

theorem rowsS_seen {m : List GaPermission} {u : Str} {t : GaTable} (ht : TabIn t) : rowsS (seenT m u t) = rowsS t := by
  have hr := rowsS_le ht
  refine rowsS_alike ?_
  unfold seenT viewS
  dsimp only
  rw [List.map_map]
  refine List.ext_getElem (by simp) fun i h1 h2 => ?_
  have hi : i < t.Columns.length := by simpa using h2
  simp only [List.getElem_map, Function.comp_apply, List.getElem_zipIdx, Nat.zero_add]
  have hc := hr.2.2 _ (List.getElem_mem hi)
  split
  · rfl
  · show (List.replicate (rowsS t).toNat (⟨true, []⟩ : GaCell)).length = _
    rw [List.length_replicate]; omega

theorem hlast_loop (m : List GaPermission) (u : Str) {a : List GaTable} {b : Int} (ha : ListIn 10 b a) :
    wp (sl42_AccessHides_l5 big a (visS m u a) ((visS m u a).length : Int) 0) (fun x => x = .brk ()) := by
  have hl := (vis_short m u (ts := a) ha.len (fun t ht => tiny_of (ha.tabs t ht).1)).1
  refine forS_wp sl42_AccessHides_l5_FB (visS m u a) (by omega) (fun k (_ : Unit) => (a, visS m u a, ((visS m u a).length : Int), k)) (fun _ _ => True) () trivial (fun rec k _ hlt _ ih => ?_) (fun rec _ _ => ?_)
  · obtain ⟨t, ht, he⟩ : ∃ t ∈ a, seenT m u t = (visS m u a)[k] := by
      obtain ⟨t, ht, he⟩ := List.mem_map.1 (show (visS m u a)[k] ∈ visS m u a from List.getElem_mem hlt)
      exact ⟨t, (List.mem_filter.1 ht).1, he⟩
    obtain ⟨j, hj, rfl⟩ := List.getElem_of_mem ht
    have hT := (ha.tabs _ ht).1
    unfold sl42_AccessHides_l5_B sl42_AccessHides_l5_b
    dsimp only
    rw [wp_bif]
    refine ⟨fun _ => ?_, fun h => by simp only [decide_eq_false_iff_not] at h; omega⟩
    have hfind : sr03_Find a (seenT m u a[j]).ID = some (a[j], true) := rfind_wp ha hj
    rw [wp_bind, idx_nat hlt, wp_some, ← he, hfind, wp_bind, wp_some]
    dsimp only
    have e1 : (((seenT m u a[j]).Columns.length : Int) != (a[j].Columns.length : Int)) = false := by unfold seenT; simp [viewS_len]
    rw [Bool.not_true, cond_false, e1, cond_false, rrows_eq, wp_bind, wp_some, rrows_eq, wp_bind, wp_some, rowsS_seen hT, bne_self_eq_false]
    unfold sl42_AccessHides_j8
    rw [cond_false, wp_chk]
    exact ⟨inK_i64 (by omega), ih () trivial⟩
  · unfold sl42_AccessHides_l5_B sl42_AccessHides_l5_b
    dsimp only
    rw [wp_bif]
    exact ⟨fun h => by simp only [decide_eq_true_eq] at h; omega, fun _ => by rw [wp_some]⟩

theorem accessHides_law (t : List Int) (user : Bool) : sl42_AccessHides t user = some true := by
  refine eq_of_wp ?_
  unfold sl42_AccessHides sk_Light
  rw [wp_bind, wp_some, wp_bif]
  refine ⟨fun _ => awake42_wp rfl, fun hl => ?_⟩
  simp only [Bool.not_eq_false', decide_eq_true_eq] at hl
  unfold sk_Roll
  rw [wp_bind, wp_some, wp_bind]
  refine wp_mono (rules_wp (d := ⟨t, 0⟩) ⟨by simp, by simp, by simp only; omega⟩) fun ⟨m, d1⟩ ⟨hlen, hd1⟩ => ?_
  dsimp only at hlen hd1 ⊢
  have j1 : ∀ u : Str, wp (sl42_AccessHides_j1 u d1 m) (· = true) := fun u => by
    unfold sl42_AccessHides_j1
    rw [wp_bind]
    refine wp_mono (tables_wp hd1 (by omega)) fun ⟨a, d2⟩ ⟨ha, hd2⟩ => ?_
    dsimp only at ha hd2 ⊢
    have hat : ∀ t ∈ a, TinyT t := fun t ht => tiny_of (ha.tabs t ht).1
    rw [wp_bind]
    refine wp_mono (htabs_loop hd2 m u ha.len hat) ?_
    rintro x ⟨b, rfl, hbl, hb, hv⟩
    dsimp only
    unfold sl42_AccessHides_k7 sl42_AccessHides_k9
    have hs := vis_short m u ha.len hat
    rw [visible_eq m u ha.len hat, wp_bind, wp_some, visible_eq m u hbl hb, wp_bind, wp_some, hv, sameL_self _ hs.1 hs.2, wp_bind, wp_some, Bool.not_true, cond_false, wp_bind]
    refine wp_mono (hlast_loop m u ha) ?_
    rintro x rfl
    exact awake42_wp rfl
  rw [wp_bif]
  exact ⟨fun _ => j1 _, fun _ => j1 _⟩
end Go.Proofs

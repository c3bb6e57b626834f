/- The law RelationOf. -/
import Derived.Test.YtjdddnbddnhilaaDoorRkRG
import Derived.Test.YtjdddnbddnhilaaDoorRkMK
set_option linter.unusedVariables false
set_option linter.unusedSimpArgs false
set_option linter.unusedSectionVars false
namespace Go.Proofs
open Go Eng

def TabOk (t : G_api_Table) : Prop := SizeOk t ∧ TextsOk t

theorem inR2 : inR 0 2 = true ∧ inR 1 2 = true := by decide

theorem inner29 (i j a b : Int) (p : G_arr2_G_api_Table) (hp : TabOk p.e0 ∧ TabOk p.e1) (ps : List G_arr2_G_api_Table) (ks : List G_arr2_Int) (hk : ks.length ≤ 10) :
    wp (s_tablefinderlaw29_RelationOf_l2 big i j a b (ks.length : Int) 0 p ps ks) (fun r => r = .brk (i, j, a, b, ps)) := by
  refine forS_wp s_tablefinderlaw29_RelationOf_l2_FB ks (by omega) (fun s (_ : Unit) => (i, j, a, b, (ks.length : Int), s, p, ps, ks)) (fun _ _ => True) () trivial (fun rec k _ hlt _ ih => ?_) (fun rec _ _ => ?_)
  · unfold s_tablefinderlaw29_RelationOf_l2_B s_tablefinderlaw29_RelationOf_l2_b s_tablefinderlaw29_RelationOf_j2
    dsimp only
    rw [wp_bif]
    refine ⟨fun h => ?_, fun h => by simp only [decide_eq_false_iff_not] at h; omega⟩
    rw [wp_chk, wp_bind, wp_get]
    refine ⟨inR_nat hlt, by simpa using hlt, ?_⟩
    generalize ks[(k : Int).toNat]'_ = q
    rw [of_eq _ _ _ _ hp.1.1 hp.2.1, rof_eq _ _ _ _ hp.1.1 hp.2.1 hp.1.2 hp.2.2]
    generalize relS p.e0 q.e0 p.e1 q.e1 = z
    obtain ⟨u, e⟩ := z
    simp only [wp_chk, wp_bind, wp_some]
    refine ⟨inR2.1, inR2.1, inR2.2, inR2.2, inR2.1, inR2.1, inR2.2, inR2.2, ?_⟩
    rw [wp_bif]
    refine ⟨fun h => by simp at h, fun _ => ?_⟩
    rw [wp_bif]
    refine ⟨fun h => by simp at h, fun _ => ?_⟩
    rw [wp_chk]
    exact ⟨inK_i64 (by omega), ih () trivial⟩
  · unfold s_tablefinderlaw29_RelationOf_l2_B s_tablefinderlaw29_RelationOf_l2_b
    dsimp only
    rw [wp_bif]
    exact ⟨fun h => by simp only [decide_eq_true_eq] at h; omega, fun h => by rw [wp_some]⟩

theorem outer29 (i j : Int) (ps : List G_arr2_G_api_Table) (hl : ps.length ≤ 10) (hp : ∀ p ∈ ps, TabOk p.e0 ∧ TabOk p.e1) :
    wp (s_tablefinderlaw29_RelationOf_l1 big i j (ps.length : Int) 0 ps) (fun r => r = .brk ()) := by
  refine forS_wp s_tablefinderlaw29_RelationOf_l1_FB ps (by omega) (fun s (_ : Unit) => (i, j, (ps.length : Int), s, ps)) (fun _ _ => True) () trivial (fun rec k _ hlt _ ih => ?_) (fun rec _ _ => ?_)
  · unfold s_tablefinderlaw29_RelationOf_l1_B s_tablefinderlaw29_RelationOf_l1_b s_tablefinderlaw29_RelationOf_k3
    dsimp only
    rw [wp_bif]
    refine ⟨fun h => ?_, fun h => by simp only [decide_eq_false_iff_not] at h; omega⟩
    rw [wp_chk, wp_bind, wp_get]
    refine ⟨inR_nat hlt, by simpa using hlt, ?_⟩
    simp only [Int.toNat_natCast]
    have hP := hp ps[k] (List.getElem_mem hlt)
    have h0 := hP.1.1.1
    have h1 := hP.2.1.1
    rw [wp_bind]
    refine wp_mono (mod_wp i (m := 4) (by omega)) fun q hq => ?_
    rw [wp_chk, wp_bind]
    refine ⟨inK_i64 (by omega), wp_mono (mod_wp j (m := 4) (by omega)) fun q1 hq1 => ?_⟩
    rw [wp_chk, wp_bind]
    refine ⟨inR2.1, wp_mono (mod_wp i (by split <;> omega)) fun q2 hq2 => ?_⟩
    rw [wp_chk, wp_bind]
    refine ⟨inR2.2, wp_mono (mod_wp j (by split <;> omega)) fun q3 hq3 => ?_⟩
    rw [wp_bind]
    refine wp_mono (inner29 i j (ps.length : Int) (k : Int) ps[k] hP ps _ (by simp)) ?_
    rintro r rfl
    dsimp only
    rw [wp_chk]
    exact ⟨inK_i64 (by omega), ih () trivial⟩
  · unfold s_tablefinderlaw29_RelationOf_l1_B s_tablefinderlaw29_RelationOf_l1_b
    dsimp only
    rw [wp_bif]
    exact ⟨fun h => by simp only [decide_eq_true_eq] at h; omega, fun h => by rw [wp_some]⟩

theorem tabOk_of {t : G_api_Table} (h : TabIn t) : TabOk t := by
  obtain ⟨hn, hc, r, hr, hx⟩ := h
  have e := short_of hn
  refine ⟨⟨by omega, fun c hcm => by have := (hx c hcm).2.1; omega⟩, by omega, fun c hcm => ?_⟩
  have h1 := hx c hcm
  have e1 := short_of h1.1
  exact ⟨by omega, fun x hxm => by have := short_of (h1.2.2 x hxm).1; omega⟩

theorem small_wp (t : G_api_Table) : wp (s_tablefinderlaw29_small t) (fun r => r = true → SizeOk t) := by
  unfold s_tablefinderlaw29_small s_tablefinderlaw29_small_k1
  rw [wp_bif]
  refine ⟨fun _ => by rw [wp_some]; intro h; simp at h, fun h => ?_⟩
  simp only [decide_eq_false_iff_not] at h
  rw [wp_bind]
  refine wp_mono (forS_wp s_tablefinderlaw29_small_l1_FB
    t.Columns (by omega) (fun s (_ : Unit) => (t.Columns, (t.Columns.length : Int), s)) (fun k _ => ∀ c ∈ t.Columns.take k, c.Cells.length ≤ 20) (Q := fun r => r = .ret false ∨ (r = .brk () ∧ ∀ c ∈ t.Columns, c.Cells.length ≤ 20)) () (by simp) (fun rec k s hlt hP ih => ?_) (fun rec s hP => ?_)) ?_
  · unfold s_tablefinderlaw29_small_l1_B s_tablefinderlaw29_small_l1_b
    dsimp only
    rw [wp_bif]
    refine ⟨fun h => ?_, fun h => by simp only [decide_eq_false_iff_not] at h; omega⟩
    rw [wp_bind, idx_nat hlt, wp_some, wp_bif, wp_some, wp_chk]
    refine ⟨fun _ => .inl rfl, fun hc => ⟨inK_i64 (by omega), ih () fun c hcm => ?_⟩⟩
    simp only [decide_eq_false_iff_not] at hc
    rw [List.take_succ_eq_append_getElem hlt, List.mem_append] at hcm
    rcases hcm with hcm | hcm
    · exact hP c hcm
    · simp only [List.mem_singleton] at hcm; subst hcm; omega
  · rw [List.take_length] at hP
    unfold s_tablefinderlaw29_small_l1_B s_tablefinderlaw29_small_l1_b
    dsimp only
    rw [wp_bif]
    exact ⟨fun h => by simp only [decide_eq_true_eq] at h; omega, fun _ => by rw [wp_some]; exact .inr ⟨rfl, hP⟩⟩
  · rintro r (rfl | ⟨rfl, hc⟩)
    · dsimp only; rw [wp_some]; intro h; simp at h
    · dsimp only; rw [wp_some]; intro _
      exact ⟨by omega, fun c hcm => by have := hc c hcm; omega⟩

theorem awake29_wp {Q : Bool → Prop} (h : Q true) : wp (s_tablefinderlaw29_awake.bind fun q => some q) Q := by
  rw [awake29]; exact ⟨true, rfl, h⟩

theorem relationOf_law (x y : G_api_Table) (t : List Int) (i j : Int) (hx : TextsOk x) (hy : TextsOk y) : s_tablefinderlaw29_RelationOf x y t i j = some true := by
  refine eq_of_wp ?_
  unfold s_tablefinderlaw29_RelationOf
  have j1 : wp (s_tablefinderlaw29_RelationOf_j1 t i j true x y) (· = true) := by
    unfold s_tablefinderlaw29_RelationOf_j1
    rw [cond_true]; exact awake29_wp rfl
  rw [wp_bind]
  refine wp_mono (small_wp x) fun q hq => ?_
  rw [wp_bif]
  refine ⟨fun _ => j1, fun h => ?_⟩
  simp only [Bool.not_eq_false'] at h
  have sx := hq h
  rw [wp_bind]
  refine wp_mono (small_wp y) fun q1 hq1 => ?_
  rw [wp_bif]
  refine ⟨fun _ => j1, fun h => ?_⟩
  simp only [Bool.not_eq_false'] at h
  have sy := hq1 h
  unfold s_tablefinderkit_Light
  rw [wp_bind, wp_some]
  by_cases hl : (t.length : Int) ≤ 500
  · rw [decide_eq_true hl]
    unfold s_tablefinderlaw29_RelationOf_j1 s_tablefinderkit_Roll
    rw [Bool.not_true, cond_false, wp_bind, wp_some, wp_bind]
    refine wp_mono (table_wp (d := ⟨t, 0⟩) ⟨by simp, by simp, by simp only; omega⟩ 1) fun ⟨a, d1⟩ ⟨⟨ha, _⟩, hd1⟩ => ?_
    dsimp only at ha hd1 ⊢
    rw [wp_bind]
    refine wp_mono (table_wp hd1 2) fun ⟨b, d2⟩ ⟨⟨hb, _⟩, hd2⟩ => ?_
    dsimp only at hb hd2 ⊢
    have oa := tabOk_of ha
    have ob := tabOk_of hb
    have ox : TabOk x := ⟨sx, hx⟩
    have oy : TabOk y := ⟨sy, hy⟩
    rw [wp_bind]
    refine wp_mono (outer29 i j _ (by simp) ?_) ?_
    · intro p hp
      simp only [List.mem_cons, List.not_mem_nil, or_false] at hp
      rcases hp with rfl | rfl | rfl | rfl
      · exact ⟨ox, oy⟩
      · exact ⟨oa, ob⟩
      · exact ⟨oa, ox⟩
      · exact ⟨oa, oa⟩
    · rintro r rfl
      dsimp only
      unfold s_tablefinderlaw29_RelationOf_k4
      exact awake29_wp rfl
  · rw [decide_eq_false hl]; exact j1

end Go.Proofs

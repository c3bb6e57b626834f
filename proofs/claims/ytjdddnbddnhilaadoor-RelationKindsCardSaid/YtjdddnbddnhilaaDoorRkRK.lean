/- The law RelationKinds; how much is contained. -/
import Derived.Test.YtjdddnbddnhilaaDoorRkRI
set_option linter.unusedVariables false
set_option linter.unusedSimpArgs false
set_option linter.unusedSectionVars false
namespace Go.Proofs
open Go Eng

def sameC (x y : Option G_api_Fraction) : Option Bool := x.bind fun a => y.bind fun b => s_tablefinderref23_Same a b

theorem clone_nil : s_slices_Clone_fraction_words_uint32 [] = some [] := by
  have h : s_slices_Clone_fraction_words_uint32_j1 [] false = s_slices_Clone_fraction_words_uint32_j1 [] true := by kernel_rfl
  unfold s_slices_Clone_fraction_words_uint32
  rw [h, agree_self]
  rfl
theorem over_nil {v : List Int} (h : s_fraction_words_compare [] v = some (-1)) : s_fraction_words_over [] v = some ([], []) := by
  unfold s_fraction_words_over
  rw [h, clone_nil]
  kernel_rfl
theorem common_nil {v : List Int} (h : s_fraction_words_compare [] v = some (-1)) (h0 : 0 < v.length) : s_fraction_words_common [] v = some v := by
  obtain ⟨n, hn⟩ := big_add 2 (by omega)
  unfold s_fraction_words_common
  rw [hn]
  have e1 : s_fraction_words_common_l1 (n + 2) [] v = some v := by
    show s_fraction_words_common_l1_b (s_fraction_words_common_l1 (n + 1)) [] v = some v
    unfold s_fraction_words_common_l1_b
    rw [decide_eq_true (show (v.length : Int) > 0 by omega), cond_true, over_nil h]
    show s_fraction_words_common_l1_b (s_fraction_words_common_l1 n) v [] = some v
    rfl
  rw [e1]; rfl
theorem reduced_nil {neg : Bool} {v : List Int} (h : s_fraction_words_compare [] v = some (-1)) (h0 : 0 < v.length) (h1 : s_fraction_words_over v v = some ([1], [])) : s_fraction_reduced ⟨false, []⟩ ⟨false, v⟩ = some ⟨⟨false, []⟩, ⟨false, [1]⟩⟩ := by
  unfold s_fraction_reduced
  rw [common_nil h h0, Option.bind_some, over_nil h, Option.bind_some]
  dsimp only
  rw [h1]
  kernel_rfl
theorem num_zero : s_num_Zero = some ⟨⟨false, []⟩, ⟨false, [1]⟩⟩ := by
  have e : s_fraction_Of 0 1 = some (⟨⟨false, []⟩, ⟨false, [1]⟩⟩, 0) := by
    unfold s_fraction_Of
    rw [show s_fraction_FromInt 0 = some ⟨false, []⟩ by kernel_rfl, show s_fraction_FromInt 1 = some ⟨false, [1]⟩ by kernel_rfl, Option.bind_some, Option.bind_some]
    unfold s_fraction_Make
    rw [reduced_nil (neg := false) (v := [1]) (by kernel_rfl) (by decide) (by kernel_rfl)]
    kernel_rfl
  unfold s_num_Zero
  rw [e]; rfl
theorem num_of_zero1 : s_num_Of 0 1 = some ⟨⟨false, []⟩, ⟨false, [1]⟩⟩ := by
  have e : s_fraction_Of 0 1 = some (⟨⟨false, []⟩, ⟨false, [1]⟩⟩, 0) := by
    unfold s_fraction_Of
    rw [show s_fraction_FromInt 0 = some ⟨false, []⟩ by kernel_rfl, show s_fraction_FromInt 1 = some ⟨false, [1]⟩ by kernel_rfl, Option.bind_some, Option.bind_some]
    unfold s_fraction_Make
    rw [reduced_nil (neg := false) (v := [1]) (by kernel_rfl) (by decide) (by kernel_rfl)]
    kernel_rfl
  unfold s_num_Of
  rw [e]; rfl
theorem num_of_zero2 : s_num_Of 0 2 = some ⟨⟨false, []⟩, ⟨false, [1]⟩⟩ := by
  have e : s_fraction_Of 0 2 = some (⟨⟨false, []⟩, ⟨false, [1]⟩⟩, 0) := by
    unfold s_fraction_Of
    rw [show s_fraction_FromInt 0 = some ⟨false, []⟩ by kernel_rfl, show s_fraction_FromInt 2 = some ⟨false, [2]⟩ by kernel_rfl, Option.bind_some, Option.bind_some]
    unfold s_fraction_Make
    rw [reduced_nil (neg := false) (v := [2]) (by kernel_rfl) (by decide) (by kernel_rfl)]
    kernel_rfl
  unfold s_num_Of
  rw [e]; rfl

theorem cont_all : ((List.range 2).all fun c => (List.range 3).all fun o => sameC (s_relation_Contained ⟨⟨0, 0⟩, ⟨0, 0⟩, (c : Int) + 1, (o : Int), 0, 0, 0, 0, 0⟩) (s_tablefinderref29_Contained ⟨⟨0, 0⟩, ⟨0, 0⟩, (c : Int) + 1, (o : Int), 0, 0, 0, 0, 0⟩) == some true) = true := by kernel_rfl
theorem full_all : ((List.range 20).all fun c => sameC (s_relation_Contained ⟨⟨0, 0⟩, ⟨0, 0⟩, (c : Int) + 1, 0, 0, 0, 0, 0, 0⟩) (s_tablefinderref23_Int 1) == some true) = true := by kernel_rfl
theorem cont_zero (o : Int) (h : 0 ≤ o ∧ o < 3) : s_relation_Contained ⟨⟨0, 0⟩, ⟨0, 0⟩, 0, o, 0, 0, 0, 0, 0⟩ = some ⟨⟨false, []⟩, ⟨false, [1]⟩⟩ := by
  have : o = 0 ∨ o = 1 ∨ o = 2 := by omega
  unfold s_relation_Contained
  rcases this with rfl | rfl | rfl
  · rw [num_zero]; rfl
  · rw [show s_num_Of (0 : Int) (0 + 1) = some ⟨⟨false, []⟩, ⟨false, [1]⟩⟩ from num_of_zero1]; rfl
  · rw [show s_num_Of (0 : Int) (0 + 2) = some ⟨⟨false, []⟩, ⟨false, [1]⟩⟩ from num_of_zero2]; rfl
theorem rcont_zero : ((List.range 3).all fun o => sameC (some ⟨⟨false, []⟩, ⟨false, [1]⟩⟩) (s_tablefinderref29_Contained ⟨⟨0, 0⟩, ⟨0, 0⟩, 0, (o : Int), 0, 0, 0, 0, 0⟩) == some true) = true := by kernel_rfl
theorem rint_zero : (sameC (some ⟨⟨false, []⟩, ⟨false, [1]⟩⟩) (s_tablefinderref23_Int 0) == some true) = true := by kernel_rfl

theorem contained_only (r r' : G_api_Relation) (h : r.Common = r'.Common) (h' : r.OnlyA = r'.OnlyA) : s_relation_Contained r = s_relation_Contained r' := by
  unfold s_relation_Contained; rw [h, h']
theorem rcontained_only (r r' : G_api_Relation) (h : r.Common = r'.Common) (h' : r.OnlyA = r'.OnlyA) : s_tablefinderref29_Contained r = s_tablefinderref29_Contained r' := by
  unfold s_tablefinderref29_Contained; rw [h, h']

theorem cont_same (r : G_api_Relation) (h : 0 ≤ r.Common ∧ r.Common < 3) (h' : 0 ≤ r.OnlyA ∧ r.OnlyA < 3) : sameC (s_relation_Contained r) (s_tablefinderref29_Contained r) = some true := by
  rw [contained_only r ⟨⟨0, 0⟩, ⟨0, 0⟩, r.Common, r.OnlyA, 0, 0, 0, 0, 0⟩ rfl rfl, rcontained_only r ⟨⟨0, 0⟩, ⟨0, 0⟩, r.Common, r.OnlyA, 0, 0, 0, 0, 0⟩ rfl rfl]
  by_cases h0 : r.Common = 0
  · rw [h0, cont_zero _ h']
    have h1 := List.all_eq_true.1 rcont_zero r.OnlyA.toNat (List.mem_range.2 (by omega))
    rw [beq_iff_eq, show ((r.OnlyA.toNat : Nat) : Int) = r.OnlyA by omega] at h1
    exact h1
  · have h1 := List.all_eq_true.1 cont_all (r.Common - 1).toNat (List.mem_range.2 (by omega))
    have h2 := List.all_eq_true.1 h1 r.OnlyA.toNat (List.mem_range.2 (by omega))
    rw [beq_iff_eq, show (((r.Common - 1).toNat : Nat) : Int) + 1 = r.Common by omega, show ((r.OnlyA.toNat : Nat) : Int) = r.OnlyA by omega] at h2
    exact h2
theorem full_same (r : G_api_Relation) (h : 0 ≤ r.Common ∧ r.Common < 20) (h' : r.OnlyA = 0) : sameC (s_relation_Contained r) (s_tablefinderref23_Int (if r.Common < (1 : Int) then r.Common else (1 : Int))) = some true := by
  rw [contained_only r ⟨⟨0, 0⟩, ⟨0, 0⟩, r.Common, 0, 0, 0, 0, 0, 0⟩ rfl h']
  by_cases h0 : r.Common = 0
  · rw [h0, cont_zero 0 (by omega), if_pos (by omega)]
    exact beq_iff_eq.1 rint_zero
  · have h1 := List.all_eq_true.1 full_all (r.Common - 1).toNat (List.mem_range.2 (by omega))
    rw [beq_iff_eq, show (((r.Common - 1).toNat : Nat) : Int) + 1 = r.Common by omega] at h1
    rw [if_neg (by omega)]
    exact h1
theorem sameC_wp {x y : Option G_api_Fraction} (h : sameC x y = some true) {Q : Bool → Prop} {f : G_api_Fraction → G_api_Fraction → Bool → Option Bool} (hq : ∀ a b, wp (f a b true) Q) : wp (x.bind fun a => y.bind fun b => (s_tablefinderref23_Same a b).bind fun q => f a b q) Q := by
  obtain ⟨a, ha, h⟩ := bind_some h
  obtain ⟨b, hb, h⟩ := bind_some h
  rw [ha, hb]
  rw [wp_bind, wp_some, wp_bind, wp_some, h, wp_bind, wp_some]
  exact hq a b

theorem rkind_same (r : G_api_Relation) : s_tablefinderref29_Kind r = s_relation_Kind r := rfl
theorem kind_total (r : G_api_Relation) : ∃ q, s_relation_Kind r = some q := by obtain ⟨q, h, _⟩ := kind0 r; exact ⟨q, h⟩

theorem kinds_loop (near : G_api_Relation) (rs : List G_api_Relation) (hl : rs.length ≤ 10) : wp (s_tablefinderlaw29_RelationKinds_l1 big (rs.length : Int) 0 near rs) (fun x => x = .brk near) := by
  refine forS_wp s_tablefinderlaw29_RelationKinds_l1_FB rs (by omega) (fun k (_ : Unit) => ((rs.length : Int), k, near, rs)) (fun _ _ => True) () trivial (fun rec k _ hlt _ ih => ?_) (fun rec _ _ => ?_)
  · unfold s_tablefinderlaw29_RelationKinds_l1_B s_tablefinderlaw29_RelationKinds_l1_b s_tablefinderlaw29_RelationKinds_j1
    dsimp only
    rw [wp_bif]
    refine ⟨fun _ => ?_, fun h => by simp only [decide_eq_false_iff_not] at h; omega⟩
    rw [wp_chk, wp_bind, wp_get]
    refine ⟨inR_nat hlt, by simpa using hlt, ?_⟩
    generalize rs[(k : Int).toNat]'_ = r
    obtain ⟨q, hq⟩ := kind_total r
    rw [rkind_same, hq, wp_bind, wp_some, wp_bind, wp_some, wp_bif]
    refine ⟨fun h => by simp at h, fun _ => ?_⟩
    unfold s_relation_Turn s_tablefinderref29_Turn
    rw [wp_bind, wp_some, wp_bind, wp_some, wp_bif]
    refine ⟨fun h => by simp at h, fun _ => ?_⟩
    rw [wp_bind, wp_some, wp_bind, wp_some, wp_bif]
    refine ⟨fun h => by simp at h, fun _ => ?_⟩
    rw [wp_chk]
    exact ⟨inK_i64 (by omega), ih () trivial⟩
  · unfold s_tablefinderlaw29_RelationKinds_l1_B s_tablefinderlaw29_RelationKinds_l1_b
    dsimp only
    rw [wp_bif]
    exact ⟨fun h => by simp only [decide_eq_true_eq] at h; omega, fun _ => by rw [wp_some]⟩

theorem relationKinds_law (raw : G_api_Relation) (n : G_arr6_Int) (h0 : 0 ≤ n.e0 ∧ n.e0 ≤ 255) (h1 : 0 ≤ n.e1 ∧ n.e1 ≤ 255) : s_tablefinderlaw29_RelationKinds raw n = some true := by
  refine eq_of_wp ?_
  unfold s_tablefinderlaw29_RelationKinds
  have d3 : decide ((3 : Int) ≠ 0) = true := by decide
  have i0 : inR 0 6 = true := by decide
  have i1 : inR 1 6 = true := by decide
  have i2 : inR 2 6 = true := by decide
  have i3 : inR 3 6 = true := by decide
  have i4 : inR 4 6 = true := by decide
  have i5 : inR 5 6 = true := by decide
  rw [wp_chk, wp_chk, wp_chk, wp_chk, wp_chk, wp_chk, wp_chk, wp_chk, wp_chk, wp_chk, wp_chk, wp_chk, wp_bind]
  refine ⟨i0, d3, i1, d3, i2, d3, i3, d3, i4, d3, i5, d3, ?_⟩
  have t0 := tmod_bounds n.e0 h0.1 (m := 3) (by omega)
  have t1 := tmod_bounds n.e1 h1.1 (m := 3) (by omega)
  have w0 := wrap_i64 (n := Int.tmod n.e0 3) (by omega)
  have w1 := wrap_i64 (n := Int.tmod n.e1 3) (by omega)
  refine wp_mono (kinds_loop _ _ (by simp)) ?_
  rintro r rfl
  dsimp only
  unfold s_tablefinderlaw29_RelationKinds_k2 s_tablefinderlaw29_RelationKinds_j3
  refine sameC_wp (cont_same _ (by dsimp only; rw [w0]; exact t0) (by dsimp only; rw [w1]; exact t1)) fun a b => ?_
  rw [cond_true]
  exact awake29_wp rfl

end Go.Proofs

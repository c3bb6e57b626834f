/- How much is contained, at small numbers. -/
import Derived.Test.YtjdddnbddnhilaaDoorRpRI
set_option linter.unusedVariables false
set_option linter.unusedSimpArgs false
set_option linter.unusedSectionVars false
namespace Go.Proofs
open Go Eng

def sameC (x y : Option G_api_Fraction) : Option Bool := x.bind fun a => y.bind fun b => s_tablefinderref23_Same a b

theorem clone_nil : s_slices_Clone_fraction_words_uint32 [] = some [] := by
  have h : s_slices_Clone_fraction_words_uint32_j1 [] false = s_slices_Clone_fraction_words_uint32_j1 [] true := by kernel_rfl
  unfold s_slices_Clone_fraction_words_uint32
  rw [h, agree_self]
  rfl
theorem over_nil {v : List Int} (h : s_fraction_words_compare [] v = some (-1)) : s_fraction_words_over [] v = some ([], []) := by
  unfold s_fraction_words_over
  rw [h, clone_nil]
  kernel_rfl
theorem common_nil {v : List Int} (h : s_fraction_words_compare [] v = some (-1)) (h0 : 0 < v.length) : s_fraction_words_common [] v = some v := by
  obtain ⟨n, hn⟩ := big_add 2 (by omega)
  unfold s_fraction_words_common
  rw [hn]
  have e1 : s_fraction_words_common_l1 (n + 2) [] v = some v := by
    show s_fraction_words_common_l1_b (s_fraction_words_common_l1 (n + 1)) [] v = some v
    unfold s_fraction_words_common_l1_b
    rw [decide_eq_true (show (v.length : Int) > 0 by omega), cond_true, over_nil h]
    show s_fraction_words_common_l1_b (s_fraction_words_common_l1 n) v [] = some v
    rfl
  rw [e1]; rfl
theorem reduced_nil {neg : Bool} {v : List Int} (h : s_fraction_words_compare [] v = some (-1)) (h0 : 0 < v.length) (h1 : s_fraction_words_over v v = some ([1], [])) : s_fraction_reduced ⟨false, []⟩ ⟨false, v⟩ = some ⟨⟨false, []⟩, ⟨false, [1]⟩⟩ := by
  unfold s_fraction_reduced
  rw [common_nil h h0, Option.bind_some, over_nil h, Option.bind_some]
  dsimp only
  rw [h1]
  kernel_rfl
theorem num_zero : s_num_Zero = some ⟨⟨false, []⟩, ⟨false, [1]⟩⟩ := by
  have e : s_fraction_Of 0 1 = some (⟨⟨false, []⟩, ⟨false, [1]⟩⟩, 0) := by
    unfold s_fraction_Of
    rw [show s_fraction_FromInt 0 = some ⟨false, []⟩ by kernel_rfl, show s_fraction_FromInt 1 = some ⟨false, [1]⟩ by kernel_rfl, Option.bind_some, Option.bind_some]
    unfold s_fraction_Make
    rw [reduced_nil (neg := false) (v := [1]) (by kernel_rfl) (by decide) (by kernel_rfl)]
    kernel_rfl
  unfold s_num_Zero
  rw [e]; rfl
theorem num_of_zero1 : s_num_Of 0 1 = some ⟨⟨false, []⟩, ⟨false, [1]⟩⟩ := by
  have e : s_fraction_Of 0 1 = some (⟨⟨false, []⟩, ⟨false, [1]⟩⟩, 0) := by
    unfold s_fraction_Of
    rw [show s_fraction_FromInt 0 = some ⟨false, []⟩ by kernel_rfl, show s_fraction_FromInt 1 = some ⟨false, [1]⟩ by kernel_rfl, Option.bind_some, Option.bind_some]
    unfold s_fraction_Make
    rw [reduced_nil (neg := false) (v := [1]) (by kernel_rfl) (by decide) (by kernel_rfl)]
    kernel_rfl
  unfold s_num_Of
  rw [e]; rfl
theorem num_of_zero2 : s_num_Of 0 2 = some ⟨⟨false, []⟩, ⟨false, [1]⟩⟩ := by
  have e : s_fraction_Of 0 2 = some (⟨⟨false, []⟩, ⟨false, [1]⟩⟩, 0) := by
    unfold s_fraction_Of
    rw [show s_fraction_FromInt 0 = some ⟨false, []⟩ by kernel_rfl, show s_fraction_FromInt 2 = some ⟨false, [2]⟩ by kernel_rfl, Option.bind_some, Option.bind_some]
    unfold s_fraction_Make
    rw [reduced_nil (neg := false) (v := [2]) (by kernel_rfl) (by decide) (by kernel_rfl)]
    kernel_rfl
  unfold s_num_Of
  rw [e]; rfl

theorem full_all : ((List.range 20).all fun c => sameC (s_relation_Contained ⟨⟨0, 0⟩, ⟨0, 0⟩, (c : Int) + 1, 0, 0, 0, 0, 0, 0⟩) (s_tablefinderref23_Int 1) == some true) = true := by kernel_rfl
theorem cont_zero (o : Int) (h : 0 ≤ o ∧ o < 3) : s_relation_Contained ⟨⟨0, 0⟩, ⟨0, 0⟩, 0, o, 0, 0, 0, 0, 0⟩ = some ⟨⟨false, []⟩, ⟨false, [1]⟩⟩ := by
  have : o = 0 ∨ o = 1 ∨ o = 2 := by omega
  unfold s_relation_Contained
  rcases this with rfl | rfl | rfl
  · rw [num_zero]; rfl
  · rw [show s_num_Of (0 : Int) (0 + 1) = some ⟨⟨false, []⟩, ⟨false, [1]⟩⟩ from num_of_zero1]; rfl
  · rw [show s_num_Of (0 : Int) (0 + 2) = some ⟨⟨false, []⟩, ⟨false, [1]⟩⟩ from num_of_zero2]; rfl
theorem rint_zero : (sameC (some ⟨⟨false, []⟩, ⟨false, [1]⟩⟩) (s_tablefinderref23_Int 0) == some true) = true := by kernel_rfl

theorem contained_only (r r' : G_api_Relation) (h : r.Common = r'.Common) (h' : r.OnlyA = r'.OnlyA) : s_relation_Contained r = s_relation_Contained r' := by
  unfold s_relation_Contained; rw [h, h']
theorem full_same (r : G_api_Relation) (h : 0 ≤ r.Common ∧ r.Common < 20) (h' : r.OnlyA = 0) : sameC (s_relation_Contained r) (s_tablefinderref23_Int (if r.Common < (1 : Int) then r.Common else (1 : Int))) = some true := by
  rw [contained_only r ⟨⟨0, 0⟩, ⟨0, 0⟩, r.Common, 0, 0, 0, 0, 0, 0⟩ rfl h']
  by_cases h0 : r.Common = 0
  · rw [h0, cont_zero 0 (by omega), if_pos (by omega)]
    exact beq_iff_eq.1 rint_zero
  · have h1 := List.all_eq_true.1 full_all (r.Common - 1).toNat (List.mem_range.2 (by omega))
    rw [beq_iff_eq, show (((r.Common - 1).toNat : Nat) : Int) + 1 = r.Common by omega] at h1
    rw [if_neg (by omega)]
    exact h1
theorem sameC_wp {x y : Option G_api_Fraction} (h : sameC x y = some true) {Q : Bool → Prop} {f : G_api_Fraction → G_api_Fraction → Bool → Option Bool} (hq : ∀ a b, wp (f a b true) Q) : wp (x.bind fun a => y.bind fun b => (s_tablefinderref23_Same a b).bind fun q => f a b q) Q := by
  obtain ⟨a, ha, h⟩ := bind_some h
  obtain ⟨b, hb, h⟩ := bind_some h
  rw [ha, hb]
  rw [wp_bind, wp_some, wp_bind, wp_some, h, wp_bind, wp_some]
  exact hq a b


end Go.Proofs

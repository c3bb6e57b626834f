/- The texts of a table that is handed over. -/
import Derived.Test.YtjdddnbddnhilaaDoorRoU
import Derived.Test.YtjdddnbddnhilaaDoorRoRT
import Derived.Test.YtjdddnbddnhilaaDoorRoStrIn
set_option linter.unusedVariables false
set_option linter.unusedSimpArgs false
set_option linter.unusedSectionVars false
namespace Go.Proofs
open Go Eng

theorem textsOk_of {w : World} {S : Nat → Prop} {v : Value} {y : G_api_Table} (h : RelP w S v (U.encE (.st 2) y)) : TextsOk y := by
  have hm : maxInt = 9223372036854775807 := by decide
  have h' : RelP w S v (enc_G_api_Table y) := h
  unfold enc_G_api_Table at h'
  unfold TextsOk
  rw [← hm]
  refine ⟨h'.strs (.agg (by simp) .str), fun c hc => ⟨h'.strs (.agg (c := .sl 2 (y.Columns.map enc_G_api_Column)) (by simp) (.sl (List.mem_map.2 ⟨c, hc, rfl⟩) (.agg (by simp) .str))), fun x hx => ?_⟩⟩
  exact h'.strs (.agg (c := .sl 2 (y.Columns.map enc_G_api_Column)) (by simp) (.sl (List.mem_map.2 ⟨c, hc, rfl⟩) (.agg (c := .sl 2 (c.Cells.map enc_G_api_Cell)) (by simp) (.sl (List.mem_map.2 ⟨x, hx, rfl⟩) (.agg (by simp) .str)))))

end Go.Proofs

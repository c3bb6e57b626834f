/-
  NARROWER THAN 'FOR EVERY INPUT', by the rows' own cells (each row's printed sentence says how): RelationOf: laid · RelationCounts: laid · CorrelationLaws: laid · CorrelationLines: laid · CorrelationParts: laid · AccessRules: laid · AccessHides: laid · AccessAll: laid · AccessColumns: laid · RelationKinds: laid · TableOrder: laid · RelationParts: laid · RelationRows: laid · TableParts: laid.
  DERIVED. THE GIVEN ROWS OF THIS SEAT. 14 by the template 'for every input the law returns true; each argument reads behind the call as it read before'; 0 by the template 'total and deterministic' (their statements: YtjdddnbddnhilaaDoorTotals.lean).
  GIVEN WITH THE SEED: the statements are not yours to turn. If you find one false, say at which input.
  Laid BY PROGRAM, IN A SANDBOX (cutbox-rows.mjs): the forced cells as the released guide's own fill.sh prints them over the translation 65b3fbd8bc6f458c… (all of the seat's roots in one cut). By AI agents, Wed Nov 11 2026. No macro, syntax, notation, axiom, sorry.
-/
import Derived.Test.YtjdddnbddnhilaaDoorChecked
import GoSem.PinnedTables
import GoSem.Claim
import GoSem.ClaimJoined
import GoSem.ClaimMapViews
import Derived.JoinedTies
import Derived.KernelRfl
namespace Go.Proofs.YtjdddnbddnhilaaDoor
/- THE CELL 'sum', in the pinned program and in every row, IS THE sha256 OF THE DUMP (.gsa) THAT YtjdddnbddnhilaaDoorProg.lean LOADS. Nothing in Lean hashes anything: it is a label: what it is worth is what the hold of that sum in a sandbox is worth. -/
noncomputable def Tryd.pinned : Pinned := { name := "ytjdddnbddnhilaadoor", sum := "65b3fbd8bc6f458c0717a6e0f5b5f277b27ad0b6517cd845d4c7f8e0f5ac7538", checked := Tryd.checked }
namespace Rows
def none {H : Type} : Left H := { results := [], args := [] }

/- WHAT THE LISTED PACKAGE-LEVEL VARIABLES READ AS WHEN THE CALL BEGINS. Each datum BY PROGRAM (the guide's laid-datum.mjs) off the statement by which the dump's own 'gosem.cut.vars' lays the variable. In a bare row this is a premise. The card (YtjdddnbddnhilaaDoorCards.lean) ties it to the program's text. -/
def laid_math_bits_deBruijn32tab {H : Type} : DataW H := .agg [.lit (.int .u8 0), .lit (.int .u8 1), .lit (.int .u8 28), .lit (.int .u8 2), .lit (.int .u8 29), .lit (.int .u8 14), .lit (.int .u8 24), .lit (.int .u8 3), .lit (.int .u8 30), .lit (.int .u8 22), .lit (.int .u8 20), .lit (.int .u8 15), .lit (.int .u8 25), .lit (.int .u8 17), .lit (.int .u8 4), .lit (.int .u8 8), .lit (.int .u8 31), .lit (.int .u8 27), .lit (.int .u8 13), .lit (.int .u8 23), .lit (.int .u8 21), .lit (.int .u8 19), .lit (.int .u8 16), .lit (.int .u8 7), .lit (.int .u8 26), .lit (.int .u8 12), .lit (.int .u8 18), .lit (.int .u8 6), .lit (.int .u8 11), .lit (.int .u8 5), .lit (.int .u8 10), .lit (.int .u8 9)]
def laid_math_bits_deBruijn64tab {H : Type} : DataW H := .agg [.lit (.int .u8 0), .lit (.int .u8 1), .lit (.int .u8 56), .lit (.int .u8 2), .lit (.int .u8 57), .lit (.int .u8 49), .lit (.int .u8 28), .lit (.int .u8 3), .lit (.int .u8 61), .lit (.int .u8 58), .lit (.int .u8 42), .lit (.int .u8 50), .lit (.int .u8 38), .lit (.int .u8 29), .lit (.int .u8 17), .lit (.int .u8 4), .lit (.int .u8 62), .lit (.int .u8 47), .lit (.int .u8 59), .lit (.int .u8 36), .lit (.int .u8 45), .lit (.int .u8 43), .lit (.int .u8 51), .lit (.int .u8 22), .lit (.int .u8 53), .lit (.int .u8 39), .lit (.int .u8 33), .lit (.int .u8 30), .lit (.int .u8 24), .lit (.int .u8 18), .lit (.int .u8 12), .lit (.int .u8 5), .lit (.int .u8 63), .lit (.int .u8 55), .lit (.int .u8 48), .lit (.int .u8 27), .lit (.int .u8 60), .lit (.int .u8 41), .lit (.int .u8 37), .lit (.int .u8 16), .lit (.int .u8 46), .lit (.int .u8 35), .lit (.int .u8 44), .lit (.int .u8 21), .lit (.int .u8 52), .lit (.int .u8 32), .lit (.int .u8 23), .lit (.int .u8 11), .lit (.int .u8 54), .lit (.int .u8 26), .lit (.int .u8 40), .lit (.int .u8 15), .lit (.int .u8 34), .lit (.int .u8 20), .lit (.int .u8 31), .lit (.int .u8 10), .lit (.int .u8 25), .lit (.int .u8 14), .lit (.int .u8 19), .lit (.int .u8 9), .lit (.int .u8 13), .lit (.int .u8 8), .lit (.int .u8 7), .lit (.int .u8 6)]
def laid_internal_strconv_uint64pow10 {H : Type} : DataW H := .agg [.lit (.int .u64 1), .lit (.int .u64 10), .lit (.int .u64 100), .lit (.int .u64 1000), .lit (.int .u64 10000), .lit (.int .u64 100000), .lit (.int .u64 1000000), .lit (.int .u64 10000000), .lit (.int .u64 100000000), .lit (.int .u64 1000000000), .lit (.int .u64 10000000000), .lit (.int .u64 100000000000), .lit (.int .u64 1000000000000), .lit (.int .u64 10000000000000), .lit (.int .u64 100000000000000), .lit (.int .u64 1000000000000000), .lit (.int .u64 10000000000000000), .lit (.int .u64 100000000000000000), .lit (.int .u64 1000000000000000000), .lit (.int .u64 10000000000000000000)]
def laid_unicode_utf8_acceptRanges {H : Type} : DataW H := .agg [.agg [.lit (.int .u8 128), .lit (.int .u8 191)], .agg [.lit (.int .u8 160), .lit (.int .u8 191)], .agg [.lit (.int .u8 128), .lit (.int .u8 159)], .agg [.lit (.int .u8 144), .lit (.int .u8 191)], .agg [.lit (.int .u8 128), .lit (.int .u8 143)], .agg [.lit (.int .u8 0), .lit (.int .u8 0)], .agg [.lit (.int .u8 0), .lit (.int .u8 0)], .agg [.lit (.int .u8 0), .lit (.int .u8 0)], .agg [.lit (.int .u8 0), .lit (.int .u8 0)], .agg [.lit (.int .u8 0), .lit (.int .u8 0)], .agg [.lit (.int .u8 0), .lit (.int .u8 0)], .agg [.lit (.int .u8 0), .lit (.int .u8 0)], .agg [.lit (.int .u8 0), .lit (.int .u8 0)], .agg [.lit (.int .u8 0), .lit (.int .u8 0)], .agg [.lit (.int .u8 0), .lit (.int .u8 0)], .agg [.lit (.int .u8 0), .lit (.int .u8 0)]]
/-- One of Go's own tables, pinned by name: the form's constant. -/
def laid_unicode_utf8_first : DataW Unit := Go.Pinned.utf8First
def laid_tablefinder_fraction_one {H : Type} : DataW H := .slice [.lit (.int .u32 1)] []

/-- 'tablefinderlaw29.RelationOf': WHATEVER THE INPUT: true; the input reads as it did. -/
def relationOfSpec : ChangeSpec := { name := "relationOf", fn := fun _ => fun
  | [d1, d2, d3, d4, d5] => { results := [.lit (.bool true)], args := [d1, d2, d3, d4, d5] }
  | _ => none }
def relationOfRow : OpenClaim := { program := "ytjdddnbddnhilaadoor", sum := "65b3fbd8bc6f458c0717a6e0f5b5f277b27ad0b6517cd845d4c7f8e0f5ac7538", func := "tablefinder/tablefinderlaw29.RelationOf", spec := "relationOf", unfollowed := true, recurses := true, named := ["unicode/utf8.first", "unicode/utf8.acceptRanges", "internal/strconv.uint64pow10", "math/bits.deBruijn32tab", "math/bits.deBruijn64tab"], apart := false, laid := [("math/bits.deBruijn32tab", laid_math_bits_deBruijn32tab), ("math/bits.deBruijn64tab", laid_math_bits_deBruijn64tab), ("internal/strconv.uint64pow10", laid_internal_strconv_uint64pow10), ("unicode/utf8.acceptRanges", laid_unicode_utf8_acceptRanges), ("unicode/utf8.first", laid_unicode_utf8_first)] }
def RelationOfSaid : Prop := relationOfRow.holds Tryd.pinned (OpenSpec.ofChange relationOfSpec)

/-- ITS FALSE NEIGHBOUR: 'it returns false'. Refute it at one input. -/
def relationOfWrong : ChangeSpec := { name := "relationOf", fn := fun _ => fun
  | [d1, d2, d3, d4, d5] => { results := [.lit (.bool false)], args := [d1, d2, d3, d4, d5] }
  | _ => none }
def RelationOfWrongFalsely : Prop := relationOfRow.holds Tryd.pinned (OpenSpec.ofChange relationOfWrong)

/-- 'tablefinderlaw29.RelationCounts': WHATEVER THE INPUT: true; the input reads as it did. -/
def relationCountsSpec : ChangeSpec := { name := "relationCounts", fn := fun _ => fun
  | [d1, d2, d3] => { results := [.lit (.bool true)], args := [d1, d2, d3] }
  | _ => none }
def relationCountsRow : OpenClaim := { program := "ytjdddnbddnhilaadoor", sum := "65b3fbd8bc6f458c0717a6e0f5b5f277b27ad0b6517cd845d4c7f8e0f5ac7538", func := "tablefinder/tablefinderlaw29.RelationCounts", spec := "relationCounts", unfollowed := true, recurses := true, named := ["unicode/utf8.first", "unicode/utf8.acceptRanges", "internal/strconv.uint64pow10", "math/bits.deBruijn32tab", "math/bits.deBruijn64tab"], apart := false, laid := [("math/bits.deBruijn32tab", laid_math_bits_deBruijn32tab), ("math/bits.deBruijn64tab", laid_math_bits_deBruijn64tab), ("internal/strconv.uint64pow10", laid_internal_strconv_uint64pow10), ("unicode/utf8.acceptRanges", laid_unicode_utf8_acceptRanges), ("unicode/utf8.first", laid_unicode_utf8_first)] }
def RelationCountsSaid : Prop := relationCountsRow.holds Tryd.pinned (OpenSpec.ofChange relationCountsSpec)

/-- ITS FALSE NEIGHBOUR: 'it returns false'. Refute it at one input. -/
def relationCountsWrong : ChangeSpec := { name := "relationCounts", fn := fun _ => fun
  | [d1, d2, d3] => { results := [.lit (.bool false)], args := [d1, d2, d3] }
  | _ => none }
def RelationCountsWrongFalsely : Prop := relationCountsRow.holds Tryd.pinned (OpenSpec.ofChange relationCountsWrong)

/-- 'tablefinderlaw25.CorrelationLaws': WHATEVER THE INPUT: true; the input reads as it did. -/
def correlationLawsSpec : ChangeSpec := { name := "correlationLaws", fn := fun _ => fun
  | [d1, d2, d3] => { results := [.lit (.bool true)], args := [d1, d2, d3] }
  | _ => none }
def correlationLawsRow : OpenClaim := { program := "ytjdddnbddnhilaadoor", sum := "65b3fbd8bc6f458c0717a6e0f5b5f277b27ad0b6517cd845d4c7f8e0f5ac7538", func := "tablefinder/tablefinderlaw25.CorrelationLaws", spec := "correlationLaws", unfollowed := true, recurses := true, named := ["math/bits.overflowError", "tablefinder/fraction.one"], apart := false, laid := [("tablefinder/fraction.one", laid_tablefinder_fraction_one)] }
def CorrelationLawsSaid : Prop := correlationLawsRow.holds Tryd.pinned (OpenSpec.ofChange correlationLawsSpec)

/-- ITS FALSE NEIGHBOUR: 'it returns false'. Refute it at one input. -/
def correlationLawsWrong : ChangeSpec := { name := "correlationLaws", fn := fun _ => fun
  | [d1, d2, d3] => { results := [.lit (.bool false)], args := [d1, d2, d3] }
  | _ => none }
def CorrelationLawsWrongFalsely : Prop := correlationLawsRow.holds Tryd.pinned (OpenSpec.ofChange correlationLawsWrong)

/-- 'tablefinderlaw25.CorrelationLines': WHATEVER THE INPUT: true; the input reads as it did. -/
def correlationLinesSpec : ChangeSpec := { name := "correlationLines", fn := fun _ => fun
  | [d1, d2, d3, d4] => { results := [.lit (.bool true)], args := [d1, d2, d3, d4] }
  | _ => none }
def correlationLinesRow : OpenClaim := { program := "ytjdddnbddnhilaadoor", sum := "65b3fbd8bc6f458c0717a6e0f5b5f277b27ad0b6517cd845d4c7f8e0f5ac7538", func := "tablefinder/tablefinderlaw25.CorrelationLines", spec := "correlationLines", unfollowed := true, recurses := true, named := ["math/bits.overflowError", "tablefinder/fraction.one"], apart := false, laid := [("tablefinder/fraction.one", laid_tablefinder_fraction_one)] }
def CorrelationLinesSaid : Prop := correlationLinesRow.holds Tryd.pinned (OpenSpec.ofChange correlationLinesSpec)

/-- ITS FALSE NEIGHBOUR: 'it returns false'. Refute it at one input. -/
def correlationLinesWrong : ChangeSpec := { name := "correlationLines", fn := fun _ => fun
  | [d1, d2, d3, d4] => { results := [.lit (.bool false)], args := [d1, d2, d3, d4] }
  | _ => none }
def CorrelationLinesWrongFalsely : Prop := correlationLinesRow.holds Tryd.pinned (OpenSpec.ofChange correlationLinesWrong)

/-- 'tablefinderlaw25.CorrelationParts': WHATEVER THE INPUT: true; the input reads as it did. -/
def correlationPartsSpec : ChangeSpec := { name := "correlationParts", fn := fun _ => fun
  | [d1, d2] => { results := [.lit (.bool true)], args := [d1, d2] }
  | _ => none }
def correlationPartsRow : OpenClaim := { program := "ytjdddnbddnhilaadoor", sum := "65b3fbd8bc6f458c0717a6e0f5b5f277b27ad0b6517cd845d4c7f8e0f5ac7538", func := "tablefinder/tablefinderlaw25.CorrelationParts", spec := "correlationParts", unfollowed := true, recurses := true, named := ["math/bits.overflowError", "tablefinder/fraction.one"], apart := false, laid := [("tablefinder/fraction.one", laid_tablefinder_fraction_one)] }
def CorrelationPartsSaid : Prop := correlationPartsRow.holds Tryd.pinned (OpenSpec.ofChange correlationPartsSpec)

/-- ITS FALSE NEIGHBOUR: 'it returns false'. Refute it at one input. -/
def correlationPartsWrong : ChangeSpec := { name := "correlationParts", fn := fun _ => fun
  | [d1, d2] => { results := [.lit (.bool false)], args := [d1, d2] }
  | _ => none }
def CorrelationPartsWrongFalsely : Prop := correlationPartsRow.holds Tryd.pinned (OpenSpec.ofChange correlationPartsWrong)

/-- 'tablefinderlaw42.AccessRules': WHATEVER THE INPUT: true; the input reads as it did. -/
def accessRulesSpec : ChangeSpec := { name := "accessRules", fn := fun _ => fun
  | [d1, d2, d3, d4, d5, d6, d7] => { results := [.lit (.bool true)], args := [d1, d2, d3, d4, d5, d6, d7] }
  | _ => none }
def accessRulesRow : OpenClaim := { program := "ytjdddnbddnhilaadoor", sum := "65b3fbd8bc6f458c0717a6e0f5b5f277b27ad0b6517cd845d4c7f8e0f5ac7538", func := "tablefinder/tablefinderlaw42.AccessRules", spec := "accessRules", unfollowed := true, recurses := true, named := ["internal/strconv.uint64pow10", "math/bits.deBruijn32tab", "math/bits.deBruijn64tab", "unicode/utf8.first", "unicode/utf8.acceptRanges"], apart := false, laid := [("math/bits.deBruijn32tab", laid_math_bits_deBruijn32tab), ("math/bits.deBruijn64tab", laid_math_bits_deBruijn64tab), ("internal/strconv.uint64pow10", laid_internal_strconv_uint64pow10), ("unicode/utf8.acceptRanges", laid_unicode_utf8_acceptRanges), ("unicode/utf8.first", laid_unicode_utf8_first)] }
def AccessRulesSaid : Prop := accessRulesRow.holds Tryd.pinned (OpenSpec.ofChange accessRulesSpec)

/-- ITS FALSE NEIGHBOUR: 'it returns false'. Refute it at one input. -/
def accessRulesWrong : ChangeSpec := { name := "accessRules", fn := fun _ => fun
  | [d1, d2, d3, d4, d5, d6, d7] => { results := [.lit (.bool false)], args := [d1, d2, d3, d4, d5, d6, d7] }
  | _ => none }
def AccessRulesWrongFalsely : Prop := accessRulesRow.holds Tryd.pinned (OpenSpec.ofChange accessRulesWrong)

/-- 'tablefinderlaw42.AccessHides': WHATEVER THE INPUT: true; the input reads as it did. -/
def accessHidesSpec : ChangeSpec := { name := "accessHides", fn := fun _ => fun
  | [d1, d2] => { results := [.lit (.bool true)], args := [d1, d2] }
  | _ => none }
def accessHidesRow : OpenClaim := { program := "ytjdddnbddnhilaadoor", sum := "65b3fbd8bc6f458c0717a6e0f5b5f277b27ad0b6517cd845d4c7f8e0f5ac7538", func := "tablefinder/tablefinderlaw42.AccessHides", spec := "accessHides", unfollowed := true, recurses := true, named := ["internal/strconv.uint64pow10", "math/bits.deBruijn32tab", "math/bits.deBruijn64tab", "unicode/utf8.first", "unicode/utf8.acceptRanges"], apart := false, laid := [("math/bits.deBruijn32tab", laid_math_bits_deBruijn32tab), ("math/bits.deBruijn64tab", laid_math_bits_deBruijn64tab), ("internal/strconv.uint64pow10", laid_internal_strconv_uint64pow10), ("unicode/utf8.acceptRanges", laid_unicode_utf8_acceptRanges), ("unicode/utf8.first", laid_unicode_utf8_first)] }
def AccessHidesSaid : Prop := accessHidesRow.holds Tryd.pinned (OpenSpec.ofChange accessHidesSpec)

/-- ITS FALSE NEIGHBOUR: 'it returns false'. Refute it at one input. -/
def accessHidesWrong : ChangeSpec := { name := "accessHides", fn := fun _ => fun
  | [d1, d2] => { results := [.lit (.bool false)], args := [d1, d2] }
  | _ => none }
def AccessHidesWrongFalsely : Prop := accessHidesRow.holds Tryd.pinned (OpenSpec.ofChange accessHidesWrong)

/-- 'tablefinderlaw42.AccessAll': WHATEVER THE INPUT: true; the input reads as it did. -/
def accessAllSpec : ChangeSpec := { name := "accessAll", fn := fun _ => fun
  | [d1, d2] => { results := [.lit (.bool true)], args := [d1, d2] }
  | _ => none }
def accessAllRow : OpenClaim := { program := "ytjdddnbddnhilaadoor", sum := "65b3fbd8bc6f458c0717a6e0f5b5f277b27ad0b6517cd845d4c7f8e0f5ac7538", func := "tablefinder/tablefinderlaw42.AccessAll", spec := "accessAll", unfollowed := true, recurses := true, named := ["internal/strconv.uint64pow10", "math/bits.deBruijn32tab", "math/bits.deBruijn64tab", "unicode/utf8.first", "unicode/utf8.acceptRanges"], apart := false, laid := [("math/bits.deBruijn32tab", laid_math_bits_deBruijn32tab), ("math/bits.deBruijn64tab", laid_math_bits_deBruijn64tab), ("internal/strconv.uint64pow10", laid_internal_strconv_uint64pow10), ("unicode/utf8.acceptRanges", laid_unicode_utf8_acceptRanges), ("unicode/utf8.first", laid_unicode_utf8_first)] }
def AccessAllSaid : Prop := accessAllRow.holds Tryd.pinned (OpenSpec.ofChange accessAllSpec)

/-- ITS FALSE NEIGHBOUR: 'it returns false'. Refute it at one input. -/
def accessAllWrong : ChangeSpec := { name := "accessAll", fn := fun _ => fun
  | [d1, d2] => { results := [.lit (.bool false)], args := [d1, d2] }
  | _ => none }
def AccessAllWrongFalsely : Prop := accessAllRow.holds Tryd.pinned (OpenSpec.ofChange accessAllWrong)

/-- 'tablefinderlaw42.AccessColumns': WHATEVER THE INPUT: true; the input reads as it did. -/
def accessColumnsSpec : ChangeSpec := { name := "accessColumns", fn := fun _ => fun
  | [d1, d2] => { results := [.lit (.bool true)], args := [d1, d2] }
  | _ => none }
def accessColumnsRow : OpenClaim := { program := "ytjdddnbddnhilaadoor", sum := "65b3fbd8bc6f458c0717a6e0f5b5f277b27ad0b6517cd845d4c7f8e0f5ac7538", func := "tablefinder/tablefinderlaw42.AccessColumns", spec := "accessColumns", unfollowed := true, recurses := true, named := ["internal/strconv.uint64pow10", "math/bits.deBruijn32tab", "math/bits.deBruijn64tab", "unicode/utf8.first", "unicode/utf8.acceptRanges"], apart := false, laid := [("math/bits.deBruijn32tab", laid_math_bits_deBruijn32tab), ("math/bits.deBruijn64tab", laid_math_bits_deBruijn64tab), ("internal/strconv.uint64pow10", laid_internal_strconv_uint64pow10), ("unicode/utf8.acceptRanges", laid_unicode_utf8_acceptRanges), ("unicode/utf8.first", laid_unicode_utf8_first)] }
def AccessColumnsSaid : Prop := accessColumnsRow.holds Tryd.pinned (OpenSpec.ofChange accessColumnsSpec)

/-- ITS FALSE NEIGHBOUR: 'it returns false'. Refute it at one input. -/
def accessColumnsWrong : ChangeSpec := { name := "accessColumns", fn := fun _ => fun
  | [d1, d2] => { results := [.lit (.bool false)], args := [d1, d2] }
  | _ => none }
def AccessColumnsWrongFalsely : Prop := accessColumnsRow.holds Tryd.pinned (OpenSpec.ofChange accessColumnsWrong)

/-- 'tablefinderlaw29.RelationKinds': WHATEVER THE INPUT: true; the input reads as it did. -/
def relationKindsSpec : ChangeSpec := { name := "relationKinds", fn := fun _ => fun
  | [d1, d2] => { results := [.lit (.bool true)], args := [d1, d2] }
  | _ => none }
def relationKindsRow : OpenClaim := { program := "ytjdddnbddnhilaadoor", sum := "65b3fbd8bc6f458c0717a6e0f5b5f277b27ad0b6517cd845d4c7f8e0f5ac7538", func := "tablefinder/tablefinderlaw29.RelationKinds", spec := "relationKinds", unfollowed := true, recurses := true, named := ["math/bits.overflowError", "unicode/utf8.first", "unicode/utf8.acceptRanges"], apart := false, laid := [("unicode/utf8.acceptRanges", laid_unicode_utf8_acceptRanges), ("unicode/utf8.first", laid_unicode_utf8_first)] }
def RelationKindsSaid : Prop := relationKindsRow.holds Tryd.pinned (OpenSpec.ofChange relationKindsSpec)

/-- ITS FALSE NEIGHBOUR: 'it returns false'. Refute it at one input. -/
def relationKindsWrong : ChangeSpec := { name := "relationKinds", fn := fun _ => fun
  | [d1, d2] => { results := [.lit (.bool false)], args := [d1, d2] }
  | _ => none }
def RelationKindsWrongFalsely : Prop := relationKindsRow.holds Tryd.pinned (OpenSpec.ofChange relationKindsWrong)

/-- 'tablefinderlaw03.TableOrder': WHATEVER THE INPUT: true; the input reads as it did. -/
def tableOrderSpec : ChangeSpec := { name := "tableOrder", fn := fun _ => fun
  | [d1, d2] => { results := [.lit (.bool true)], args := [d1, d2] }
  | _ => none }
def tableOrderRow : OpenClaim := { program := "ytjdddnbddnhilaadoor", sum := "65b3fbd8bc6f458c0717a6e0f5b5f277b27ad0b6517cd845d4c7f8e0f5ac7538", func := "tablefinder/tablefinderlaw03.TableOrder", spec := "tableOrder", unfollowed := true, recurses := true, named := ["unicode/utf8.first", "unicode/utf8.acceptRanges", "internal/strconv.uint64pow10", "math/bits.deBruijn32tab", "math/bits.deBruijn64tab"], apart := false, laid := [("math/bits.deBruijn32tab", laid_math_bits_deBruijn32tab), ("math/bits.deBruijn64tab", laid_math_bits_deBruijn64tab), ("internal/strconv.uint64pow10", laid_internal_strconv_uint64pow10), ("unicode/utf8.acceptRanges", laid_unicode_utf8_acceptRanges), ("unicode/utf8.first", laid_unicode_utf8_first)] }
def TableOrderSaid : Prop := tableOrderRow.holds Tryd.pinned (OpenSpec.ofChange tableOrderSpec)

/-- ITS FALSE NEIGHBOUR: 'it returns false'. Refute it at one input. -/
def tableOrderWrong : ChangeSpec := { name := "tableOrder", fn := fun _ => fun
  | [d1, d2] => { results := [.lit (.bool false)], args := [d1, d2] }
  | _ => none }
def TableOrderWrongFalsely : Prop := tableOrderRow.holds Tryd.pinned (OpenSpec.ofChange tableOrderWrong)

/-- 'tablefinderlaw29.RelationParts': WHATEVER THE INPUT: true; the input reads as it did. -/
def relationPartsSpec : ChangeSpec := { name := "relationParts", fn := fun _ => fun
  | [d1, d2] => { results := [.lit (.bool true)], args := [d1, d2] }
  | _ => none }
def relationPartsRow : OpenClaim := { program := "ytjdddnbddnhilaadoor", sum := "65b3fbd8bc6f458c0717a6e0f5b5f277b27ad0b6517cd845d4c7f8e0f5ac7538", func := "tablefinder/tablefinderlaw29.RelationParts", spec := "relationParts", unfollowed := true, recurses := true, named := ["unicode/utf8.first", "unicode/utf8.acceptRanges", "internal/strconv.uint64pow10", "math/bits.deBruijn32tab", "math/bits.deBruijn64tab", "math/bits.overflowError"], apart := false, laid := [("math/bits.deBruijn32tab", laid_math_bits_deBruijn32tab), ("math/bits.deBruijn64tab", laid_math_bits_deBruijn64tab), ("internal/strconv.uint64pow10", laid_internal_strconv_uint64pow10), ("unicode/utf8.acceptRanges", laid_unicode_utf8_acceptRanges), ("unicode/utf8.first", laid_unicode_utf8_first)] }
def RelationPartsSaid : Prop := relationPartsRow.holds Tryd.pinned (OpenSpec.ofChange relationPartsSpec)

/-- ITS FALSE NEIGHBOUR: 'it returns false'. Refute it at one input. -/
def relationPartsWrong : ChangeSpec := { name := "relationParts", fn := fun _ => fun
  | [d1, d2] => { results := [.lit (.bool false)], args := [d1, d2] }
  | _ => none }
def RelationPartsWrongFalsely : Prop := relationPartsRow.holds Tryd.pinned (OpenSpec.ofChange relationPartsWrong)

/-- 'tablefinderlaw29.RelationRows': WHATEVER THE INPUT: true; the input reads as it did. -/
def relationRowsSpec : ChangeSpec := { name := "relationRows", fn := fun _ => fun
  | [d] => { results := [.lit (.bool true)], args := [d] }
  | _ => none }
def relationRowsRow : OpenClaim := { program := "ytjdddnbddnhilaadoor", sum := "65b3fbd8bc6f458c0717a6e0f5b5f277b27ad0b6517cd845d4c7f8e0f5ac7538", func := "tablefinder/tablefinderlaw29.RelationRows", spec := "relationRows", unfollowed := true, recurses := true, named := ["unicode/utf8.first", "unicode/utf8.acceptRanges", "internal/strconv.uint64pow10", "math/bits.deBruijn32tab", "math/bits.deBruijn64tab", "math/bits.overflowError"], apart := false, laid := [("math/bits.deBruijn32tab", laid_math_bits_deBruijn32tab), ("math/bits.deBruijn64tab", laid_math_bits_deBruijn64tab), ("internal/strconv.uint64pow10", laid_internal_strconv_uint64pow10), ("unicode/utf8.acceptRanges", laid_unicode_utf8_acceptRanges), ("unicode/utf8.first", laid_unicode_utf8_first)] }
def RelationRowsSaid : Prop := relationRowsRow.holds Tryd.pinned (OpenSpec.ofChange relationRowsSpec)

/-- ITS FALSE NEIGHBOUR: 'it returns false'. Refute it at one input. -/
def relationRowsWrong : ChangeSpec := { name := "relationRows", fn := fun _ => fun
  | [d] => { results := [.lit (.bool false)], args := [d] }
  | _ => none }
def RelationRowsWrongFalsely : Prop := relationRowsRow.holds Tryd.pinned (OpenSpec.ofChange relationRowsWrong)

/-- 'tablefinderlaw03.TableParts': WHATEVER THE INPUT: true; the input reads as it did. -/
def tablePartsSpec : ChangeSpec := { name := "tableParts", fn := fun _ => fun
  | [d] => { results := [.lit (.bool true)], args := [d] }
  | _ => none }
def tablePartsRow : OpenClaim := { program := "ytjdddnbddnhilaadoor", sum := "65b3fbd8bc6f458c0717a6e0f5b5f277b27ad0b6517cd845d4c7f8e0f5ac7538", func := "tablefinder/tablefinderlaw03.TableParts", spec := "tableParts", unfollowed := true, recurses := true, named := ["unicode/utf8.first", "unicode/utf8.acceptRanges", "internal/strconv.uint64pow10", "math/bits.deBruijn32tab", "math/bits.deBruijn64tab"], apart := false, laid := [("math/bits.deBruijn32tab", laid_math_bits_deBruijn32tab), ("math/bits.deBruijn64tab", laid_math_bits_deBruijn64tab), ("internal/strconv.uint64pow10", laid_internal_strconv_uint64pow10), ("unicode/utf8.acceptRanges", laid_unicode_utf8_acceptRanges), ("unicode/utf8.first", laid_unicode_utf8_first)] }
def TablePartsSaid : Prop := tablePartsRow.holds Tryd.pinned (OpenSpec.ofChange tablePartsSpec)

/-- ITS FALSE NEIGHBOUR: 'it returns false'. Refute it at one input. -/
def tablePartsWrong : ChangeSpec := { name := "tableParts", fn := fun _ => fun
  | [d] => { results := [.lit (.bool false)], args := [d] }
  | _ => none }
def TablePartsWrongFalsely : Prop := tablePartsRow.holds Tryd.pinned (OpenSpec.ofChange tablePartsWrong)

/- THE SECOND FORM. 'bulk': how many values and letters a reading holds, each counted each time it is reached (what is shared counts as often as it is met; a slice's spare places count too). A statement '..UptoSaid' is the law's where the arguments, and the package variables that the reading takes, are together of bulk at most 1048576: NARROWER than '..Said'. Prove '..Said' where nothing that the law and all that it calls make is longer than what came in: it says more and counts as full. Else prove '..UptoSaid'. A law counts once. -/
mutual
def uptoBulk {H : Type} : DataW H → Nat
  | .lit (.string bytes) => bytes.length + 1
  | .lit _ => 1
  | .nil => 1
  | .ptr d => uptoBulk d + 1
  | .slice elems spare => uptoBulkAll elems + uptoBulkAll spare + 1
  | .agg parts => uptoBulkAll parts + 1
  | .iface _ d => uptoBulk d + 1
  | .map entries => uptoBulkEntries entries + 1
  | .held _ => 1
def uptoBulkAll {H : Type} : List (DataW H) → Nat
  | [] => 0
  | d :: r => uptoBulk d + uptoBulkAll r
def uptoBulkEntries {H : Type} : List (Lit × DataW H) → Nat
  | [] => 0
  | x :: r => uptoBulkEntry x + uptoBulkEntries r
def uptoBulkEntry {H : Type} : Lit × DataW H → Nat
  | (.string bytes, d) => bytes.length + uptoBulk d + 1
  | (_, d) => uptoBulk d + 1
 end
def uptoSmall : (H : Type) → List (DataW H) → Bool := fun _ ds => decide (uptoBulkAll ds ≤ 1048576)
def OpenSpec.upto (s : _root_.Go.ChangeSpec) : _root_.Go.OpenSpec := { _root_.Go.OpenSpec.ofChange s with cond := some uptoSmall }

/-- 'tablefinderlaw29.RelationOf', WHERE WHAT IT READS IS OF BULK AT MOST 1048576: true; the input reads as it did. -/
def relationOfUptoRow : OpenClaim := { program := "ytjdddnbddnhilaadoor", sum := "65b3fbd8bc6f458c0717a6e0f5b5f277b27ad0b6517cd845d4c7f8e0f5ac7538", func := "tablefinder/tablefinderlaw29.RelationOf", spec := "relationOf", unfollowed := true, recurses := true, named := ["unicode/utf8.first", "unicode/utf8.acceptRanges", "internal/strconv.uint64pow10", "math/bits.deBruijn32tab", "math/bits.deBruijn64tab"], apart := false, laid := [("math/bits.deBruijn32tab", laid_math_bits_deBruijn32tab), ("math/bits.deBruijn64tab", laid_math_bits_deBruijn64tab), ("internal/strconv.uint64pow10", laid_internal_strconv_uint64pow10), ("unicode/utf8.acceptRanges", laid_unicode_utf8_acceptRanges), ("unicode/utf8.first", laid_unicode_utf8_first)], narrowed := true }
def RelationOfUptoSaid : Prop := relationOfUptoRow.holds Tryd.pinned (OpenSpec.upto relationOfSpec)

/-- 'tablefinderlaw29.RelationCounts', WHERE WHAT IT READS IS OF BULK AT MOST 1048576: true; the input reads as it did. -/
def relationCountsUptoRow : OpenClaim := { program := "ytjdddnbddnhilaadoor", sum := "65b3fbd8bc6f458c0717a6e0f5b5f277b27ad0b6517cd845d4c7f8e0f5ac7538", func := "tablefinder/tablefinderlaw29.RelationCounts", spec := "relationCounts", unfollowed := true, recurses := true, named := ["unicode/utf8.first", "unicode/utf8.acceptRanges", "internal/strconv.uint64pow10", "math/bits.deBruijn32tab", "math/bits.deBruijn64tab"], apart := false, laid := [("math/bits.deBruijn32tab", laid_math_bits_deBruijn32tab), ("math/bits.deBruijn64tab", laid_math_bits_deBruijn64tab), ("internal/strconv.uint64pow10", laid_internal_strconv_uint64pow10), ("unicode/utf8.acceptRanges", laid_unicode_utf8_acceptRanges), ("unicode/utf8.first", laid_unicode_utf8_first)], narrowed := true }
def RelationCountsUptoSaid : Prop := relationCountsUptoRow.holds Tryd.pinned (OpenSpec.upto relationCountsSpec)

/-- 'tablefinderlaw25.CorrelationLaws', WHERE WHAT IT READS IS OF BULK AT MOST 1048576: true; the input reads as it did. -/
def correlationLawsUptoRow : OpenClaim := { program := "ytjdddnbddnhilaadoor", sum := "65b3fbd8bc6f458c0717a6e0f5b5f277b27ad0b6517cd845d4c7f8e0f5ac7538", func := "tablefinder/tablefinderlaw25.CorrelationLaws", spec := "correlationLaws", unfollowed := true, recurses := true, named := ["math/bits.overflowError", "tablefinder/fraction.one"], apart := false, laid := [("tablefinder/fraction.one", laid_tablefinder_fraction_one)], narrowed := true }
def CorrelationLawsUptoSaid : Prop := correlationLawsUptoRow.holds Tryd.pinned (OpenSpec.upto correlationLawsSpec)

/-- 'tablefinderlaw25.CorrelationLines', WHERE WHAT IT READS IS OF BULK AT MOST 1048576: true; the input reads as it did. -/
def correlationLinesUptoRow : OpenClaim := { program := "ytjdddnbddnhilaadoor", sum := "65b3fbd8bc6f458c0717a6e0f5b5f277b27ad0b6517cd845d4c7f8e0f5ac7538", func := "tablefinder/tablefinderlaw25.CorrelationLines", spec := "correlationLines", unfollowed := true, recurses := true, named := ["math/bits.overflowError", "tablefinder/fraction.one"], apart := false, laid := [("tablefinder/fraction.one", laid_tablefinder_fraction_one)], narrowed := true }
def CorrelationLinesUptoSaid : Prop := correlationLinesUptoRow.holds Tryd.pinned (OpenSpec.upto correlationLinesSpec)

/-- 'tablefinderlaw25.CorrelationParts', WHERE WHAT IT READS IS OF BULK AT MOST 1048576: true; the input reads as it did. -/
def correlationPartsUptoRow : OpenClaim := { program := "ytjdddnbddnhilaadoor", sum := "65b3fbd8bc6f458c0717a6e0f5b5f277b27ad0b6517cd845d4c7f8e0f5ac7538", func := "tablefinder/tablefinderlaw25.CorrelationParts", spec := "correlationParts", unfollowed := true, recurses := true, named := ["math/bits.overflowError", "tablefinder/fraction.one"], apart := false, laid := [("tablefinder/fraction.one", laid_tablefinder_fraction_one)], narrowed := true }
def CorrelationPartsUptoSaid : Prop := correlationPartsUptoRow.holds Tryd.pinned (OpenSpec.upto correlationPartsSpec)

/-- 'tablefinderlaw42.AccessRules', WHERE WHAT IT READS IS OF BULK AT MOST 1048576: true; the input reads as it did. -/
def accessRulesUptoRow : OpenClaim := { program := "ytjdddnbddnhilaadoor", sum := "65b3fbd8bc6f458c0717a6e0f5b5f277b27ad0b6517cd845d4c7f8e0f5ac7538", func := "tablefinder/tablefinderlaw42.AccessRules", spec := "accessRules", unfollowed := true, recurses := true, named := ["internal/strconv.uint64pow10", "math/bits.deBruijn32tab", "math/bits.deBruijn64tab", "unicode/utf8.first", "unicode/utf8.acceptRanges"], apart := false, laid := [("math/bits.deBruijn32tab", laid_math_bits_deBruijn32tab), ("math/bits.deBruijn64tab", laid_math_bits_deBruijn64tab), ("internal/strconv.uint64pow10", laid_internal_strconv_uint64pow10), ("unicode/utf8.acceptRanges", laid_unicode_utf8_acceptRanges), ("unicode/utf8.first", laid_unicode_utf8_first)], narrowed := true }
def AccessRulesUptoSaid : Prop := accessRulesUptoRow.holds Tryd.pinned (OpenSpec.upto accessRulesSpec)

/-- 'tablefinderlaw42.AccessHides', WHERE WHAT IT READS IS OF BULK AT MOST 1048576: true; the input reads as it did. -/
def accessHidesUptoRow : OpenClaim := { program := "ytjdddnbddnhilaadoor", sum := "65b3fbd8bc6f458c0717a6e0f5b5f277b27ad0b6517cd845d4c7f8e0f5ac7538", func := "tablefinder/tablefinderlaw42.AccessHides", spec := "accessHides", unfollowed := true, recurses := true, named := ["internal/strconv.uint64pow10", "math/bits.deBruijn32tab", "math/bits.deBruijn64tab", "unicode/utf8.first", "unicode/utf8.acceptRanges"], apart := false, laid := [("math/bits.deBruijn32tab", laid_math_bits_deBruijn32tab), ("math/bits.deBruijn64tab", laid_math_bits_deBruijn64tab), ("internal/strconv.uint64pow10", laid_internal_strconv_uint64pow10), ("unicode/utf8.acceptRanges", laid_unicode_utf8_acceptRanges), ("unicode/utf8.first", laid_unicode_utf8_first)], narrowed := true }
def AccessHidesUptoSaid : Prop := accessHidesUptoRow.holds Tryd.pinned (OpenSpec.upto accessHidesSpec)

/-- 'tablefinderlaw42.AccessAll', WHERE WHAT IT READS IS OF BULK AT MOST 1048576: true; the input reads as it did. -/
def accessAllUptoRow : OpenClaim := { program := "ytjdddnbddnhilaadoor", sum := "65b3fbd8bc6f458c0717a6e0f5b5f277b27ad0b6517cd845d4c7f8e0f5ac7538", func := "tablefinder/tablefinderlaw42.AccessAll", spec := "accessAll", unfollowed := true, recurses := true, named := ["internal/strconv.uint64pow10", "math/bits.deBruijn32tab", "math/bits.deBruijn64tab", "unicode/utf8.first", "unicode/utf8.acceptRanges"], apart := false, laid := [("math/bits.deBruijn32tab", laid_math_bits_deBruijn32tab), ("math/bits.deBruijn64tab", laid_math_bits_deBruijn64tab), ("internal/strconv.uint64pow10", laid_internal_strconv_uint64pow10), ("unicode/utf8.acceptRanges", laid_unicode_utf8_acceptRanges), ("unicode/utf8.first", laid_unicode_utf8_first)], narrowed := true }
def AccessAllUptoSaid : Prop := accessAllUptoRow.holds Tryd.pinned (OpenSpec.upto accessAllSpec)

/-- 'tablefinderlaw42.AccessColumns', WHERE WHAT IT READS IS OF BULK AT MOST 1048576: true; the input reads as it did. -/
def accessColumnsUptoRow : OpenClaim := { program := "ytjdddnbddnhilaadoor", sum := "65b3fbd8bc6f458c0717a6e0f5b5f277b27ad0b6517cd845d4c7f8e0f5ac7538", func := "tablefinder/tablefinderlaw42.AccessColumns", spec := "accessColumns", unfollowed := true, recurses := true, named := ["internal/strconv.uint64pow10", "math/bits.deBruijn32tab", "math/bits.deBruijn64tab", "unicode/utf8.first", "unicode/utf8.acceptRanges"], apart := false, laid := [("math/bits.deBruijn32tab", laid_math_bits_deBruijn32tab), ("math/bits.deBruijn64tab", laid_math_bits_deBruijn64tab), ("internal/strconv.uint64pow10", laid_internal_strconv_uint64pow10), ("unicode/utf8.acceptRanges", laid_unicode_utf8_acceptRanges), ("unicode/utf8.first", laid_unicode_utf8_first)], narrowed := true }
def AccessColumnsUptoSaid : Prop := accessColumnsUptoRow.holds Tryd.pinned (OpenSpec.upto accessColumnsSpec)

/-- 'tablefinderlaw29.RelationKinds', WHERE WHAT IT READS IS OF BULK AT MOST 1048576: true; the input reads as it did. -/
def relationKindsUptoRow : OpenClaim := { program := "ytjdddnbddnhilaadoor", sum := "65b3fbd8bc6f458c0717a6e0f5b5f277b27ad0b6517cd845d4c7f8e0f5ac7538", func := "tablefinder/tablefinderlaw29.RelationKinds", spec := "relationKinds", unfollowed := true, recurses := true, named := ["math/bits.overflowError", "unicode/utf8.first", "unicode/utf8.acceptRanges"], apart := false, laid := [("unicode/utf8.acceptRanges", laid_unicode_utf8_acceptRanges), ("unicode/utf8.first", laid_unicode_utf8_first)], narrowed := true }
def RelationKindsUptoSaid : Prop := relationKindsUptoRow.holds Tryd.pinned (OpenSpec.upto relationKindsSpec)

/-- 'tablefinderlaw03.TableOrder', WHERE WHAT IT READS IS OF BULK AT MOST 1048576: true; the input reads as it did. -/
def tableOrderUptoRow : OpenClaim := { program := "ytjdddnbddnhilaadoor", sum := "65b3fbd8bc6f458c0717a6e0f5b5f277b27ad0b6517cd845d4c7f8e0f5ac7538", func := "tablefinder/tablefinderlaw03.TableOrder", spec := "tableOrder", unfollowed := true, recurses := true, named := ["unicode/utf8.first", "unicode/utf8.acceptRanges", "internal/strconv.uint64pow10", "math/bits.deBruijn32tab", "math/bits.deBruijn64tab"], apart := false, laid := [("math/bits.deBruijn32tab", laid_math_bits_deBruijn32tab), ("math/bits.deBruijn64tab", laid_math_bits_deBruijn64tab), ("internal/strconv.uint64pow10", laid_internal_strconv_uint64pow10), ("unicode/utf8.acceptRanges", laid_unicode_utf8_acceptRanges), ("unicode/utf8.first", laid_unicode_utf8_first)], narrowed := true }
def TableOrderUptoSaid : Prop := tableOrderUptoRow.holds Tryd.pinned (OpenSpec.upto tableOrderSpec)

/-- 'tablefinderlaw29.RelationParts', WHERE WHAT IT READS IS OF BULK AT MOST 1048576: true; the input reads as it did. -/
def relationPartsUptoRow : OpenClaim := { program := "ytjdddnbddnhilaadoor", sum := "65b3fbd8bc6f458c0717a6e0f5b5f277b27ad0b6517cd845d4c7f8e0f5ac7538", func := "tablefinder/tablefinderlaw29.RelationParts", spec := "relationParts", unfollowed := true, recurses := true, named := ["unicode/utf8.first", "unicode/utf8.acceptRanges", "internal/strconv.uint64pow10", "math/bits.deBruijn32tab", "math/bits.deBruijn64tab", "math/bits.overflowError"], apart := false, laid := [("math/bits.deBruijn32tab", laid_math_bits_deBruijn32tab), ("math/bits.deBruijn64tab", laid_math_bits_deBruijn64tab), ("internal/strconv.uint64pow10", laid_internal_strconv_uint64pow10), ("unicode/utf8.acceptRanges", laid_unicode_utf8_acceptRanges), ("unicode/utf8.first", laid_unicode_utf8_first)], narrowed := true }
def RelationPartsUptoSaid : Prop := relationPartsUptoRow.holds Tryd.pinned (OpenSpec.upto relationPartsSpec)

/-- 'tablefinderlaw29.RelationRows', WHERE WHAT IT READS IS OF BULK AT MOST 1048576: true; the input reads as it did. -/
def relationRowsUptoRow : OpenClaim := { program := "ytjdddnbddnhilaadoor", sum := "65b3fbd8bc6f458c0717a6e0f5b5f277b27ad0b6517cd845d4c7f8e0f5ac7538", func := "tablefinder/tablefinderlaw29.RelationRows", spec := "relationRows", unfollowed := true, recurses := true, named := ["unicode/utf8.first", "unicode/utf8.acceptRanges", "internal/strconv.uint64pow10", "math/bits.deBruijn32tab", "math/bits.deBruijn64tab", "math/bits.overflowError"], apart := false, laid := [("math/bits.deBruijn32tab", laid_math_bits_deBruijn32tab), ("math/bits.deBruijn64tab", laid_math_bits_deBruijn64tab), ("internal/strconv.uint64pow10", laid_internal_strconv_uint64pow10), ("unicode/utf8.acceptRanges", laid_unicode_utf8_acceptRanges), ("unicode/utf8.first", laid_unicode_utf8_first)], narrowed := true }
def RelationRowsUptoSaid : Prop := relationRowsUptoRow.holds Tryd.pinned (OpenSpec.upto relationRowsSpec)

/-- 'tablefinderlaw03.TableParts', WHERE WHAT IT READS IS OF BULK AT MOST 1048576: true; the input reads as it did. -/
def tablePartsUptoRow : OpenClaim := { program := "ytjdddnbddnhilaadoor", sum := "65b3fbd8bc6f458c0717a6e0f5b5f277b27ad0b6517cd845d4c7f8e0f5ac7538", func := "tablefinder/tablefinderlaw03.TableParts", spec := "tableParts", unfollowed := true, recurses := true, named := ["unicode/utf8.first", "unicode/utf8.acceptRanges", "internal/strconv.uint64pow10", "math/bits.deBruijn32tab", "math/bits.deBruijn64tab"], apart := false, laid := [("math/bits.deBruijn32tab", laid_math_bits_deBruijn32tab), ("math/bits.deBruijn64tab", laid_math_bits_deBruijn64tab), ("internal/strconv.uint64pow10", laid_internal_strconv_uint64pow10), ("unicode/utf8.acceptRanges", laid_unicode_utf8_acceptRanges), ("unicode/utf8.first", laid_unicode_utf8_first)], narrowed := true }
def TablePartsUptoSaid : Prop := tablePartsUptoRow.holds Tryd.pinned (OpenSpec.upto tablePartsSpec)

end Rows
end Go.Proofs.YtjdddnbddnhilaaDoor

/-
  DERIVED. GIVEN WITH THE SEED: THE CARDS: each row of YtjdddnbddnhilaaDoorRows.lean that lists a variable, with what it lists TIED to the program's text (the seventh form; the later family's looks); each row that meets fmt, with fmt's text TOLD by the authors' own Lean function (tested against real Go, not proved from fmt's source: count such statements apart). THE CARD IS WHAT COUNTS. Prove the row's statement (the work); the ties are given (YtjdddnbddnhilaaDoorTie.lean); close each card by the builder's one call (the guide's Derived/Test/ToyasCard.lean, 'card_holds'). Laid BY PROGRAM, IN A SANDBOX (cutbox-door.mjs). By AI agents, Wed Nov 11 2026. No macro, syntax, notation, axiom, sorry.
-/
import Derived.Test.YtjdddnbddnhilaaDoorRows
import GoSem.ClaimSeven
namespace Go.Proofs.YtjdddnbddnhilaaDoor
namespace Rows

/-- THE TIED CARD OF 'tablefinderlaw29.RelationOf'. -/
def relationOfCard : Claim7 := { stood := { row := relationOfRow, standIns := [], harness := (true, "fe002f48e3566b7bfabc7ef5f58aca63e3b1c8255176ac4aac7689c909d0d442"), looks := false }, kinds := [], alts := [], laidByText := true, laidKinds := [.data, .data, .data, .data, .pinned], laidTests := true, laidLooks := .later }
def RelationOfCardSaid : Prop := Claim7.holds Tryd.pinned (.plain (OpenSpec.ofChange relationOfSpec)) relationOfCard

/-- THE TIED CARD OF 'tablefinderlaw29.RelationCounts'. -/
def relationCountsCard : Claim7 := { stood := { row := relationCountsRow, standIns := [], harness := (true, "fe002f48e3566b7bfabc7ef5f58aca63e3b1c8255176ac4aac7689c909d0d442"), looks := false }, kinds := [], alts := [], laidByText := true, laidKinds := [.data, .data, .data, .data, .pinned], laidTests := true, laidLooks := .later }
def RelationCountsCardSaid : Prop := Claim7.holds Tryd.pinned (.plain (OpenSpec.ofChange relationCountsSpec)) relationCountsCard

/-- THE TIED CARD OF 'tablefinderlaw25.CorrelationLaws'. -/
def correlationLawsCard : Claim7 := { stood := { row := correlationLawsRow, standIns := [], harness := (true, "fe002f48e3566b7bfabc7ef5f58aca63e3b1c8255176ac4aac7689c909d0d442"), looks := false }, kinds := [], alts := [], laidByText := true, laidKinds := [.widerDeep], laidTests := true, laidLooks := .later }
def CorrelationLawsCardSaid : Prop := Claim7.holds Tryd.pinned (.plain (OpenSpec.ofChange correlationLawsSpec)) correlationLawsCard

/-- THE TIED CARD OF 'tablefinderlaw25.CorrelationLines'. -/
def correlationLinesCard : Claim7 := { stood := { row := correlationLinesRow, standIns := [], harness := (true, "fe002f48e3566b7bfabc7ef5f58aca63e3b1c8255176ac4aac7689c909d0d442"), looks := false }, kinds := [], alts := [], laidByText := true, laidKinds := [.widerDeep], laidTests := true, laidLooks := .later }
def CorrelationLinesCardSaid : Prop := Claim7.holds Tryd.pinned (.plain (OpenSpec.ofChange correlationLinesSpec)) correlationLinesCard

/-- THE TIED CARD OF 'tablefinderlaw25.CorrelationParts'. -/
def correlationPartsCard : Claim7 := { stood := { row := correlationPartsRow, standIns := [], harness := (true, "fe002f48e3566b7bfabc7ef5f58aca63e3b1c8255176ac4aac7689c909d0d442"), looks := false }, kinds := [], alts := [], laidByText := true, laidKinds := [.widerDeep], laidTests := true, laidLooks := .later }
def CorrelationPartsCardSaid : Prop := Claim7.holds Tryd.pinned (.plain (OpenSpec.ofChange correlationPartsSpec)) correlationPartsCard

/-- THE TIED CARD OF 'tablefinderlaw42.AccessRules'. -/
def accessRulesCard : Claim7 := { stood := { row := accessRulesRow, standIns := [], harness := (true, "fe002f48e3566b7bfabc7ef5f58aca63e3b1c8255176ac4aac7689c909d0d442"), looks := false }, kinds := [], alts := [], laidByText := true, laidKinds := [.data, .data, .data, .data, .pinned], laidTests := true, laidLooks := .later }
def AccessRulesCardSaid : Prop := Claim7.holds Tryd.pinned (.plain (OpenSpec.ofChange accessRulesSpec)) accessRulesCard

/-- THE TIED CARD OF 'tablefinderlaw42.AccessHides'. -/
def accessHidesCard : Claim7 := { stood := { row := accessHidesRow, standIns := [], harness := (true, "fe002f48e3566b7bfabc7ef5f58aca63e3b1c8255176ac4aac7689c909d0d442"), looks := false }, kinds := [], alts := [], laidByText := true, laidKinds := [.data, .data, .data, .data, .pinned], laidTests := true, laidLooks := .later }
def AccessHidesCardSaid : Prop := Claim7.holds Tryd.pinned (.plain (OpenSpec.ofChange accessHidesSpec)) accessHidesCard

/-- THE TIED CARD OF 'tablefinderlaw42.AccessAll'. -/
def accessAllCard : Claim7 := { stood := { row := accessAllRow, standIns := [], harness := (true, "fe002f48e3566b7bfabc7ef5f58aca63e3b1c8255176ac4aac7689c909d0d442"), looks := false }, kinds := [], alts := [], laidByText := true, laidKinds := [.data, .data, .data, .data, .pinned], laidTests := true, laidLooks := .later }
def AccessAllCardSaid : Prop := Claim7.holds Tryd.pinned (.plain (OpenSpec.ofChange accessAllSpec)) accessAllCard

/-- THE TIED CARD OF 'tablefinderlaw42.AccessColumns'. -/
def accessColumnsCard : Claim7 := { stood := { row := accessColumnsRow, standIns := [], harness := (true, "fe002f48e3566b7bfabc7ef5f58aca63e3b1c8255176ac4aac7689c909d0d442"), looks := false }, kinds := [], alts := [], laidByText := true, laidKinds := [.data, .data, .data, .data, .pinned], laidTests := true, laidLooks := .later }
def AccessColumnsCardSaid : Prop := Claim7.holds Tryd.pinned (.plain (OpenSpec.ofChange accessColumnsSpec)) accessColumnsCard

/-- THE TIED CARD OF 'tablefinderlaw29.RelationKinds'. -/
def relationKindsCard : Claim7 := { stood := { row := relationKindsRow, standIns := [], harness := (true, "fe002f48e3566b7bfabc7ef5f58aca63e3b1c8255176ac4aac7689c909d0d442"), looks := false }, kinds := [], alts := [], laidByText := true, laidKinds := [.data, .pinned], laidTests := true, laidLooks := .later }
def RelationKindsCardSaid : Prop := Claim7.holds Tryd.pinned (.plain (OpenSpec.ofChange relationKindsSpec)) relationKindsCard

/-- THE TIED CARD OF 'tablefinderlaw03.TableOrder'. -/
def tableOrderCard : Claim7 := { stood := { row := tableOrderRow, standIns := [], harness := (true, "fe002f48e3566b7bfabc7ef5f58aca63e3b1c8255176ac4aac7689c909d0d442"), looks := false }, kinds := [], alts := [], laidByText := true, laidKinds := [.data, .data, .data, .data, .pinned], laidTests := true, laidLooks := .later }
def TableOrderCardSaid : Prop := Claim7.holds Tryd.pinned (.plain (OpenSpec.ofChange tableOrderSpec)) tableOrderCard

/-- THE TIED CARD OF 'tablefinderlaw29.RelationParts'. -/
def relationPartsCard : Claim7 := { stood := { row := relationPartsRow, standIns := [], harness := (true, "fe002f48e3566b7bfabc7ef5f58aca63e3b1c8255176ac4aac7689c909d0d442"), looks := false }, kinds := [], alts := [], laidByText := true, laidKinds := [.data, .data, .data, .data, .pinned], laidTests := true, laidLooks := .later }
def RelationPartsCardSaid : Prop := Claim7.holds Tryd.pinned (.plain (OpenSpec.ofChange relationPartsSpec)) relationPartsCard

/-- THE TIED CARD OF 'tablefinderlaw29.RelationRows'. -/
def relationRowsCard : Claim7 := { stood := { row := relationRowsRow, standIns := [], harness := (true, "fe002f48e3566b7bfabc7ef5f58aca63e3b1c8255176ac4aac7689c909d0d442"), looks := false }, kinds := [], alts := [], laidByText := true, laidKinds := [.data, .data, .data, .data, .pinned], laidTests := true, laidLooks := .later }
def RelationRowsCardSaid : Prop := Claim7.holds Tryd.pinned (.plain (OpenSpec.ofChange relationRowsSpec)) relationRowsCard

/-- THE TIED CARD OF 'tablefinderlaw03.TableParts'. -/
def tablePartsCard : Claim7 := { stood := { row := tablePartsRow, standIns := [], harness := (true, "fe002f48e3566b7bfabc7ef5f58aca63e3b1c8255176ac4aac7689c909d0d442"), looks := false }, kinds := [], alts := [], laidByText := true, laidKinds := [.data, .data, .data, .data, .pinned], laidTests := true, laidLooks := .later }
def TablePartsCardSaid : Prop := Claim7.holds Tryd.pinned (.plain (OpenSpec.ofChange tablePartsSpec)) tablePartsCard

/-- THE SECOND FORM's CARD OF 'tablefinderlaw29.RelationOf'. -/
def relationOfUptoCard : Claim7 := { stood := { row := relationOfUptoRow, standIns := [], harness := (true, "fe002f48e3566b7bfabc7ef5f58aca63e3b1c8255176ac4aac7689c909d0d442"), looks := false }, kinds := [], alts := [], laidByText := true, laidKinds := [.data, .data, .data, .data, .pinned], laidTests := true, laidLooks := .later }
def RelationOfUptoCardSaid : Prop := Claim7.holds Tryd.pinned (.plain (OpenSpec.upto relationOfSpec)) relationOfUptoCard

/-- THE SECOND FORM's CARD OF 'tablefinderlaw29.RelationCounts'. -/
def relationCountsUptoCard : Claim7 := { stood := { row := relationCountsUptoRow, standIns := [], harness := (true, "fe002f48e3566b7bfabc7ef5f58aca63e3b1c8255176ac4aac7689c909d0d442"), looks := false }, kinds := [], alts := [], laidByText := true, laidKinds := [.data, .data, .data, .data, .pinned], laidTests := true, laidLooks := .later }
def RelationCountsUptoCardSaid : Prop := Claim7.holds Tryd.pinned (.plain (OpenSpec.upto relationCountsSpec)) relationCountsUptoCard

/-- THE SECOND FORM's CARD OF 'tablefinderlaw25.CorrelationLaws'. -/
def correlationLawsUptoCard : Claim7 := { stood := { row := correlationLawsUptoRow, standIns := [], harness := (true, "fe002f48e3566b7bfabc7ef5f58aca63e3b1c8255176ac4aac7689c909d0d442"), looks := false }, kinds := [], alts := [], laidByText := true, laidKinds := [.widerDeep], laidTests := true, laidLooks := .later }
def CorrelationLawsUptoCardSaid : Prop := Claim7.holds Tryd.pinned (.plain (OpenSpec.upto correlationLawsSpec)) correlationLawsUptoCard

/-- THE SECOND FORM's CARD OF 'tablefinderlaw25.CorrelationLines'. -/
def correlationLinesUptoCard : Claim7 := { stood := { row := correlationLinesUptoRow, standIns := [], harness := (true, "fe002f48e3566b7bfabc7ef5f58aca63e3b1c8255176ac4aac7689c909d0d442"), looks := false }, kinds := [], alts := [], laidByText := true, laidKinds := [.widerDeep], laidTests := true, laidLooks := .later }
def CorrelationLinesUptoCardSaid : Prop := Claim7.holds Tryd.pinned (.plain (OpenSpec.upto correlationLinesSpec)) correlationLinesUptoCard

/-- THE SECOND FORM's CARD OF 'tablefinderlaw25.CorrelationParts'. -/
def correlationPartsUptoCard : Claim7 := { stood := { row := correlationPartsUptoRow, standIns := [], harness := (true, "fe002f48e3566b7bfabc7ef5f58aca63e3b1c8255176ac4aac7689c909d0d442"), looks := false }, kinds := [], alts := [], laidByText := true, laidKinds := [.widerDeep], laidTests := true, laidLooks := .later }
def CorrelationPartsUptoCardSaid : Prop := Claim7.holds Tryd.pinned (.plain (OpenSpec.upto correlationPartsSpec)) correlationPartsUptoCard

/-- THE SECOND FORM's CARD OF 'tablefinderlaw42.AccessRules'. -/
def accessRulesUptoCard : Claim7 := { stood := { row := accessRulesUptoRow, standIns := [], harness := (true, "fe002f48e3566b7bfabc7ef5f58aca63e3b1c8255176ac4aac7689c909d0d442"), looks := false }, kinds := [], alts := [], laidByText := true, laidKinds := [.data, .data, .data, .data, .pinned], laidTests := true, laidLooks := .later }
def AccessRulesUptoCardSaid : Prop := Claim7.holds Tryd.pinned (.plain (OpenSpec.upto accessRulesSpec)) accessRulesUptoCard

/-- THE SECOND FORM's CARD OF 'tablefinderlaw42.AccessHides'. -/
def accessHidesUptoCard : Claim7 := { stood := { row := accessHidesUptoRow, standIns := [], harness := (true, "fe002f48e3566b7bfabc7ef5f58aca63e3b1c8255176ac4aac7689c909d0d442"), looks := false }, kinds := [], alts := [], laidByText := true, laidKinds := [.data, .data, .data, .data, .pinned], laidTests := true, laidLooks := .later }
def AccessHidesUptoCardSaid : Prop := Claim7.holds Tryd.pinned (.plain (OpenSpec.upto accessHidesSpec)) accessHidesUptoCard

/-- THE SECOND FORM's CARD OF 'tablefinderlaw42.AccessAll'. -/
def accessAllUptoCard : Claim7 := { stood := { row := accessAllUptoRow, standIns := [], harness := (true, "fe002f48e3566b7bfabc7ef5f58aca63e3b1c8255176ac4aac7689c909d0d442"), looks := false }, kinds := [], alts := [], laidByText := true, laidKinds := [.data, .data, .data, .data, .pinned], laidTests := true, laidLooks := .later }
def AccessAllUptoCardSaid : Prop := Claim7.holds Tryd.pinned (.plain (OpenSpec.upto accessAllSpec)) accessAllUptoCard

/-- THE SECOND FORM's CARD OF 'tablefinderlaw42.AccessColumns'. -/
def accessColumnsUptoCard : Claim7 := { stood := { row := accessColumnsUptoRow, standIns := [], harness := (true, "fe002f48e3566b7bfabc7ef5f58aca63e3b1c8255176ac4aac7689c909d0d442"), looks := false }, kinds := [], alts := [], laidByText := true, laidKinds := [.data, .data, .data, .data, .pinned], laidTests := true, laidLooks := .later }
def AccessColumnsUptoCardSaid : Prop := Claim7.holds Tryd.pinned (.plain (OpenSpec.upto accessColumnsSpec)) accessColumnsUptoCard

/-- THE SECOND FORM's CARD OF 'tablefinderlaw29.RelationKinds'. -/
def relationKindsUptoCard : Claim7 := { stood := { row := relationKindsUptoRow, standIns := [], harness := (true, "fe002f48e3566b7bfabc7ef5f58aca63e3b1c8255176ac4aac7689c909d0d442"), looks := false }, kinds := [], alts := [], laidByText := true, laidKinds := [.data, .pinned], laidTests := true, laidLooks := .later }
def RelationKindsUptoCardSaid : Prop := Claim7.holds Tryd.pinned (.plain (OpenSpec.upto relationKindsSpec)) relationKindsUptoCard

/-- THE SECOND FORM's CARD OF 'tablefinderlaw03.TableOrder'. -/
def tableOrderUptoCard : Claim7 := { stood := { row := tableOrderUptoRow, standIns := [], harness := (true, "fe002f48e3566b7bfabc7ef5f58aca63e3b1c8255176ac4aac7689c909d0d442"), looks := false }, kinds := [], alts := [], laidByText := true, laidKinds := [.data, .data, .data, .data, .pinned], laidTests := true, laidLooks := .later }
def TableOrderUptoCardSaid : Prop := Claim7.holds Tryd.pinned (.plain (OpenSpec.upto tableOrderSpec)) tableOrderUptoCard

/-- THE SECOND FORM's CARD OF 'tablefinderlaw29.RelationParts'. -/
def relationPartsUptoCard : Claim7 := { stood := { row := relationPartsUptoRow, standIns := [], harness := (true, "fe002f48e3566b7bfabc7ef5f58aca63e3b1c8255176ac4aac7689c909d0d442"), looks := false }, kinds := [], alts := [], laidByText := true, laidKinds := [.data, .data, .data, .data, .pinned], laidTests := true, laidLooks := .later }
def RelationPartsUptoCardSaid : Prop := Claim7.holds Tryd.pinned (.plain (OpenSpec.upto relationPartsSpec)) relationPartsUptoCard

/-- THE SECOND FORM's CARD OF 'tablefinderlaw29.RelationRows'. -/
def relationRowsUptoCard : Claim7 := { stood := { row := relationRowsUptoRow, standIns := [], harness := (true, "fe002f48e3566b7bfabc7ef5f58aca63e3b1c8255176ac4aac7689c909d0d442"), looks := false }, kinds := [], alts := [], laidByText := true, laidKinds := [.data, .data, .data, .data, .pinned], laidTests := true, laidLooks := .later }
def RelationRowsUptoCardSaid : Prop := Claim7.holds Tryd.pinned (.plain (OpenSpec.upto relationRowsSpec)) relationRowsUptoCard

/-- THE SECOND FORM's CARD OF 'tablefinderlaw03.TableParts'. -/
def tablePartsUptoCard : Claim7 := { stood := { row := tablePartsUptoRow, standIns := [], harness := (true, "fe002f48e3566b7bfabc7ef5f58aca63e3b1c8255176ac4aac7689c909d0d442"), looks := false }, kinds := [], alts := [], laidByText := true, laidKinds := [.data, .data, .data, .data, .pinned], laidTests := true, laidLooks := .later }
def TablePartsUptoCardSaid : Prop := Claim7.holds Tryd.pinned (.plain (OpenSpec.upto tablePartsSpec)) tablePartsUptoCard
end Rows
end Go.Proofs.YtjdddnbddnhilaaDoor

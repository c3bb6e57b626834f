/-
  DERIVED. GIVEN WITH THE SEED: THE CARDS: each row of YtbjnddlpdlfknaaGreatDoorRows.lean that lists a variable, with what it lists TIED to the program's text (the seventh form; the later family's looks); each row that meets fmt, with fmt's text TOLD by the authors' own Lean function (tested against real Go, not proved from fmt's source: count such statements apart). THE CARD IS WHAT COUNTS. Prove the row's statement (the work); the ties are given (YtbjnddlpdlfknaaGreatDoorTie.lean); close each card by the builder's one call (the guide's Derived/Test/ToyasCard.lean, 'card_holds'). Laid BY PROGRAM, IN A SANDBOX (cutbox-door.mjs). By AI agents, Wed Nov 11 2026. No macro, syntax, notation, axiom, sorry.
-/
import Derived.Test.YtbjnddlpdlfknaaGreatDoorRows
import GoSem.ClaimSeven
namespace Go.Proofs.YtbjnddlpdlfknaaGreatDoor
namespace Rows

/-- THE TIED CARD OF 'tablefinderlaw24.SketchSmall'. -/
def sketchSmallCard : Claim7 := { stood := { row := sketchSmallRow, standIns := [], harness := (true, "c1238d137551f79098629bacbf4651e08366f198a9e459edac437b5f1ba99b83"), looks := true }, kinds := [], alts := [], laidByText := true, laidKinds := [.data, .data, .data, .data, .sentinel, .sentinel, .widerDeep, .pinned], laidTests := true, laidLooks := .later }
def SketchSmallCardSaid : Prop := Claim7.holds Tryz.pinned (.plain (OpenSpec.ofChange sketchSmallSpec)) sketchSmallCard

/-- THE TIED CARD OF 'tablefinderlaw24.SketchRows'. -/
def sketchRowsCard : Claim7 := { stood := { row := sketchRowsRow, standIns := [], harness := (true, "c1238d137551f79098629bacbf4651e08366f198a9e459edac437b5f1ba99b83"), looks := true }, kinds := [], alts := [], laidByText := true, laidKinds := [.data, .data, .data, .data, .sentinel, .sentinel, .widerDeep, .pinned], laidTests := true, laidLooks := .later }
def SketchRowsCardSaid : Prop := Claim7.holds Tryz.pinned (.plain (OpenSpec.ofChange sketchRowsSpec)) sketchRowsCard

/-- THE TIED CARD OF 'tablefinderlaw23.QuantileMoves'. -/
def quantileMovesCard : Claim7 := { stood := { row := quantileMovesRow, standIns := [], harness := (true, "c1238d137551f79098629bacbf4651e08366f198a9e459edac437b5f1ba99b83"), looks := true }, kinds := [], alts := [], laidByText := true, laidKinds := [.data, .data, .data, .data, .sentinel, .sentinel, .widerDeep, .pinned], laidTests := true, laidLooks := .later }
def QuantileMovesCardSaid : Prop := Claim7.holds Tryz.pinned (.plain (OpenSpec.ofChange quantileMovesSpec)) quantileMovesCard

/-- THE TIED CARD OF 'tablefinderlaw25.CorrelationKeys'. -/
def correlationKeysCard : Claim7 := { stood := { row := correlationKeysRow, standIns := [], harness := (true, "c1238d137551f79098629bacbf4651e08366f198a9e459edac437b5f1ba99b83"), looks := true }, kinds := [], alts := [], laidByText := true, laidKinds := [.data, .data, .data, .data, .sentinel, .sentinel, .widerDeep, .pinned], laidTests := true, laidLooks := .later }
def CorrelationKeysCardSaid : Prop := Claim7.holds Tryz.pinned (.plain (OpenSpec.ofChange correlationKeysSpec)) correlationKeysCard

/-- THE TIED CARD OF 'tablefinderlaw23.QuantileRanks'. -/
def quantileRanksCard : Claim7 := { stood := { row := quantileRanksRow, standIns := [], harness := (true, "c1238d137551f79098629bacbf4651e08366f198a9e459edac437b5f1ba99b83"), looks := true }, kinds := [], alts := [], laidByText := true, laidKinds := [.data, .data, .data, .data, .sentinel, .sentinel, .widerDeep, .pinned], laidTests := true, laidLooks := .later }
def QuantileRanksCardSaid : Prop := Claim7.holds Tryz.pinned (.plain (OpenSpec.ofChange quantileRanksSpec)) quantileRanksCard

/-- THE TIED CARD OF 'tablefinderlaw23.QuantileLaws'. -/
def quantileLawsCard : Claim7 := { stood := { row := quantileLawsRow, standIns := [], harness := (true, "c1238d137551f79098629bacbf4651e08366f198a9e459edac437b5f1ba99b83"), looks := true }, kinds := [], alts := [], laidByText := true, laidKinds := [.data, .data, .data, .data, .sentinel, .sentinel, .widerDeep, .pinned], laidTests := true, laidLooks := .later }
def QuantileLawsCardSaid : Prop := Claim7.holds Tryz.pinned (.plain (OpenSpec.ofChange quantileLawsSpec)) quantileLawsCard

/-- THE SECOND FORM's CARD OF 'tablefinderlaw24.SketchSmall'. -/
def sketchSmallUptoCard : Claim7 := { stood := { row := sketchSmallUptoRow, standIns := [], harness := (true, "c1238d137551f79098629bacbf4651e08366f198a9e459edac437b5f1ba99b83"), looks := true }, kinds := [], alts := [], laidByText := true, laidKinds := [.data, .data, .data, .data, .sentinel, .sentinel, .widerDeep, .pinned], laidTests := true, laidLooks := .later }
def SketchSmallUptoCardSaid : Prop := Claim7.holds Tryz.pinned (.plain (OpenSpec.upto sketchSmallSpec)) sketchSmallUptoCard

/-- THE SECOND FORM's CARD OF 'tablefinderlaw24.SketchRows'. -/
def sketchRowsUptoCard : Claim7 := { stood := { row := sketchRowsUptoRow, standIns := [], harness := (true, "c1238d137551f79098629bacbf4651e08366f198a9e459edac437b5f1ba99b83"), looks := true }, kinds := [], alts := [], laidByText := true, laidKinds := [.data, .data, .data, .data, .sentinel, .sentinel, .widerDeep, .pinned], laidTests := true, laidLooks := .later }
def SketchRowsUptoCardSaid : Prop := Claim7.holds Tryz.pinned (.plain (OpenSpec.upto sketchRowsSpec)) sketchRowsUptoCard

/-- THE SECOND FORM's CARD OF 'tablefinderlaw23.QuantileMoves'. -/
def quantileMovesUptoCard : Claim7 := { stood := { row := quantileMovesUptoRow, standIns := [], harness := (true, "c1238d137551f79098629bacbf4651e08366f198a9e459edac437b5f1ba99b83"), looks := true }, kinds := [], alts := [], laidByText := true, laidKinds := [.data, .data, .data, .data, .sentinel, .sentinel, .widerDeep, .pinned], laidTests := true, laidLooks := .later }
def QuantileMovesUptoCardSaid : Prop := Claim7.holds Tryz.pinned (.plain (OpenSpec.upto quantileMovesSpec)) quantileMovesUptoCard

/-- THE SECOND FORM's CARD OF 'tablefinderlaw25.CorrelationKeys'. -/
def correlationKeysUptoCard : Claim7 := { stood := { row := correlationKeysUptoRow, standIns := [], harness := (true, "c1238d137551f79098629bacbf4651e08366f198a9e459edac437b5f1ba99b83"), looks := true }, kinds := [], alts := [], laidByText := true, laidKinds := [.data, .data, .data, .data, .sentinel, .sentinel, .widerDeep, .pinned], laidTests := true, laidLooks := .later }
def CorrelationKeysUptoCardSaid : Prop := Claim7.holds Tryz.pinned (.plain (OpenSpec.upto correlationKeysSpec)) correlationKeysUptoCard

/-- THE SECOND FORM's CARD OF 'tablefinderlaw23.QuantileRanks'. -/
def quantileRanksUptoCard : Claim7 := { stood := { row := quantileRanksUptoRow, standIns := [], harness := (true, "c1238d137551f79098629bacbf4651e08366f198a9e459edac437b5f1ba99b83"), looks := true }, kinds := [], alts := [], laidByText := true, laidKinds := [.data, .data, .data, .data, .sentinel, .sentinel, .widerDeep, .pinned], laidTests := true, laidLooks := .later }
def QuantileRanksUptoCardSaid : Prop := Claim7.holds Tryz.pinned (.plain (OpenSpec.upto quantileRanksSpec)) quantileRanksUptoCard

/-- THE SECOND FORM's CARD OF 'tablefinderlaw23.QuantileLaws'. -/
def quantileLawsUptoCard : Claim7 := { stood := { row := quantileLawsUptoRow, standIns := [], harness := (true, "c1238d137551f79098629bacbf4651e08366f198a9e459edac437b5f1ba99b83"), looks := true }, kinds := [], alts := [], laidByText := true, laidKinds := [.data, .data, .data, .data, .sentinel, .sentinel, .widerDeep, .pinned], laidTests := true, laidLooks := .later }
def QuantileLawsUptoCardSaid : Prop := Claim7.holds Tryz.pinned (.plain (OpenSpec.upto quantileLawsSpec)) quantileLawsUptoCard
end Rows
end Go.Proofs.YtbjnddlpdlfknaaGreatDoor

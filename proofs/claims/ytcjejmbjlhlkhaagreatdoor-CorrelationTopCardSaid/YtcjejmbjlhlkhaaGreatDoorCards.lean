/-
  DERIVED. GIVEN WITH THE SEED: THE CARDS: each row of YtcjejmbjlhlkhaaGreatDoorRows.lean that lists a variable, with what it lists TIED to the program's text (the seventh form; the later family's looks); each row that meets fmt, with fmt's text TOLD by the authors' own Lean function (tested against real Go, not proved from fmt's source: count such statements apart). THE CARD IS WHAT COUNTS. Prove the row's statement (the work); the ties are given (YtcjejmbjlhlkhaaGreatDoorTie.lean); close each card by the builder's one call (the guide's Derived/Test/ToyasCard.lean, 'card_holds'). Laid BY PROGRAM, IN A SANDBOX (cutbox-door.mjs). By AI agents, Wed Nov 11 2026. No macro, syntax, notation, axiom, sorry.
-/
import Derived.Test.YtcjejmbjlhlkhaaGreatDoorRows
import GoSem.ClaimSeven
namespace Go.Proofs.YtcjejmbjlhlkhaaGreatDoor
namespace Rows

/-- THE TIED CARD OF 'tablefinderlaw25.CorrelationTop'. -/
def correlationTopCard : Claim7 := { stood := { row := correlationTopRow, standIns := [], harness := (true, "8c1e79d6d7e186442841f620b9d2c369256a9ddc5eaf677d6ac381433b379919"), looks := true }, kinds := [], alts := [], laidByText := true, laidKinds := [.data, .data, .data, .data, .sentinel, .sentinel, .widerDeep, .pinned], laidTests := true, laidLooks := .later }
def CorrelationTopCardSaid : Prop := Claim7.holds Tryz.pinned (.plain (OpenSpec.ofChange correlationTopSpec)) correlationTopCard

/-- THE SECOND FORM's CARD OF 'tablefinderlaw25.CorrelationTop'. -/
def correlationTopUptoCard : Claim7 := { stood := { row := correlationTopUptoRow, standIns := [], harness := (true, "8c1e79d6d7e186442841f620b9d2c369256a9ddc5eaf677d6ac381433b379919"), looks := true }, kinds := [], alts := [], laidByText := true, laidKinds := [.data, .data, .data, .data, .sentinel, .sentinel, .widerDeep, .pinned], laidTests := true, laidLooks := .later }
def CorrelationTopUptoCardSaid : Prop := Claim7.holds Tryz.pinned (.plain (OpenSpec.upto correlationTopSpec)) correlationTopUptoCard
end Rows
end Go.Proofs.YtcjejmbjlhlkhaaGreatDoor

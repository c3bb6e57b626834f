/-
  DERIVED. GIVEN WITH THE SEED: THE CARDS: each row of YtpddhnpfnefdeaaGreatDoorRows.lean that lists a variable, with what it lists TIED to the program's text (the seventh form; the later family's looks); each row that meets fmt, with fmt's text TOLD by the authors' own Lean function (tested against real Go, not proved from fmt's source: count such statements apart). THE CARD IS WHAT COUNTS. Prove the row's statement (the work); the ties are given (YtpddhnpfnefdeaaGreatDoorTie.lean); close each card by the builder's one call (the guide's Derived/Test/ToyasCard.lean, 'card_holds'). Laid BY PROGRAM, IN A SANDBOX (cutbox-door.mjs). By AI agents, Wed Nov 11 2026. No macro, syntax, notation, axiom, sorry.
-/
import Derived.Test.YtpddhnpfnefdeaaGreatDoorRows
import GoSem.ClaimSeven
namespace Go.Proofs.YtpddhnpfnefdeaaGreatDoor
namespace Rows

/-- THE TIED CARD OF 'tablefinderlaw23.QuantileTop'. -/
def quantileTopCard : Claim7 := { stood := { row := quantileTopRow, standIns := [], harness := (true, "5f751942a05f26414b623520b692795d4638819d8df465413c47bbd0d9e74ae1"), looks := true }, kinds := [], alts := [], laidByText := true, laidKinds := [.data, .data, .data, .data, .sentinel, .sentinel, .widerDeep, .pinned], laidTests := true, laidLooks := .later }
def QuantileTopCardSaid : Prop := Claim7.holds Tryz.pinned (.plain (OpenSpec.ofChange quantileTopSpec)) quantileTopCard

/-- THE SECOND FORM's CARD OF 'tablefinderlaw23.QuantileTop'. -/
def quantileTopUptoCard : Claim7 := { stood := { row := quantileTopUptoRow, standIns := [], harness := (true, "5f751942a05f26414b623520b692795d4638819d8df465413c47bbd0d9e74ae1"), looks := true }, kinds := [], alts := [], laidByText := true, laidKinds := [.data, .data, .data, .data, .sentinel, .sentinel, .widerDeep, .pinned], laidTests := true, laidLooks := .later }
def QuantileTopUptoCardSaid : Prop := Claim7.holds Tryz.pinned (.plain (OpenSpec.upto quantileTopSpec)) quantileTopUptoCard
end Rows
end Go.Proofs.YtpddhnpfnefdeaaGreatDoor

/-
  DERIVED. GIVEN WITH THE SEED: THE CARDS: each row of YtpkmihjnkbkcjaaGreatDoorRows.lean that lists a variable, with what it lists TIED to the program's text (the seventh form; the later family's looks); each row that meets fmt, with fmt's text TOLD by the authors' own Lean function (tested against real Go, not proved from fmt's source: count such statements apart). THE CARD IS WHAT COUNTS. Prove the row's statement (the work); the ties are given (YtpkmihjnkbkcjaaGreatDoorTie.lean); close each card by the builder's one call (the guide's Derived/Test/ToyasCard.lean, 'card_holds'). Laid BY PROGRAM, IN A SANDBOX (cutbox-door.mjs). By AI agents, Wed Nov 11 2026. No macro, syntax, notation, axiom, sorry.
-/
import Derived.Test.YtpkmihjnkbkcjaaGreatDoorRows
import GoSem.ClaimSeven
namespace Go.Proofs.YtpkmihjnkbkcjaaGreatDoor
namespace Rows

/-- THE TIED CARD OF 'tablefinderlaw44.WorkerTop'. -/
def workerTopCard : Claim7 := { stood := { row := workerTopRow, standIns := [], harness := (true, "2fec9bf7bbaaffceda9010671acb48213e9893f7ecc1bd25ee202b914df478ab"), looks := false }, kinds := [], alts := [], laidByText := true, laidKinds := [.widerDeep], laidTests := true, laidLooks := .later }
def WorkerTopCardSaid : Prop := Claim7.holds Tryz.pinned (.plain (OpenSpec.ofChange workerTopSpec)) workerTopCard

/-- THE SECOND FORM's CARD OF 'tablefinderlaw44.WorkerTop'. -/
def workerTopUptoCard : Claim7 := { stood := { row := workerTopUptoRow, standIns := [], harness := (true, "2fec9bf7bbaaffceda9010671acb48213e9893f7ecc1bd25ee202b914df478ab"), looks := false }, kinds := [], alts := [], laidByText := true, laidKinds := [.widerDeep], laidTests := true, laidLooks := .later }
def WorkerTopUptoCardSaid : Prop := Claim7.holds Tryz.pinned (.plain (OpenSpec.upto workerTopSpec)) workerTopUptoCard
end Rows
end Go.Proofs.YtpkmihjnkbkcjaaGreatDoor

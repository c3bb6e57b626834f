/-
  DERIVED. GIVEN WITH THE SEED: THE CARDS: each row of YtamebpdbedglkaaGreatDoorRows.lean that lists a variable, with what it lists TIED to the program's text (the seventh form; the later family's looks); each row that meets fmt, with fmt's text TOLD by the authors' own Lean function (tested against real Go, not proved from fmt's source: count such statements apart). THE CARD IS WHAT COUNTS. Prove the row's statement (the work); the ties are given (YtamebpdbedglkaaGreatDoorTie.lean); close each card by the builder's one call (the guide's Derived/Test/ToyasCard.lean, 'card_holds'). Laid BY PROGRAM, IN A SANDBOX (cutbox-door.mjs). By AI agents, Wed Nov 11 2026. No macro, syntax, notation, axiom, sorry.
-/
import Derived.Test.YtamebpdbedglkaaGreatDoorRows
import GoSem.ClaimSeven
namespace Go.Proofs.YtamebpdbedglkaaGreatDoor
namespace Rows

/-- THE TIED CARD OF 'tablefinderlaw24.SketchExact'. -/
def sketchExactCard : Claim7 := { stood := { row := sketchExactRow, standIns := [], harness := (true, "3c638803a5fc33a7879a1a6edbdf40d1120690d0ec6b0e325eb9ad0aae38d510"), looks := true }, kinds := [], alts := [], laidByText := true, laidKinds := [.data, .data, .data, .data, .sentinel, .sentinel, .widerDeep, .pinned], laidTests := true, laidLooks := .later }
def SketchExactCardSaid : Prop := Claim7.holds Tryz.pinned (.plain (OpenSpec.ofChange sketchExactSpec)) sketchExactCard

/-- THE TIED CARD OF 'tablefinderlaw24.SketchMerges'. -/
def sketchMergesCard : Claim7 := { stood := { row := sketchMergesRow, standIns := [], harness := (true, "3c638803a5fc33a7879a1a6edbdf40d1120690d0ec6b0e325eb9ad0aae38d510"), looks := true }, kinds := [], alts := [], laidByText := true, laidKinds := [.data, .data, .data, .data, .sentinel, .sentinel, .widerDeep, .pinned], laidTests := true, laidLooks := .later }
def SketchMergesCardSaid : Prop := Claim7.holds Tryz.pinned (.plain (OpenSpec.ofChange sketchMergesSpec)) sketchMergesCard

/-- THE SECOND FORM's CARD OF 'tablefinderlaw24.SketchExact'. -/
def sketchExactUptoCard : Claim7 := { stood := { row := sketchExactUptoRow, standIns := [], harness := (true, "3c638803a5fc33a7879a1a6edbdf40d1120690d0ec6b0e325eb9ad0aae38d510"), looks := true }, kinds := [], alts := [], laidByText := true, laidKinds := [.data, .data, .data, .data, .sentinel, .sentinel, .widerDeep, .pinned], laidTests := true, laidLooks := .later }
def SketchExactUptoCardSaid : Prop := Claim7.holds Tryz.pinned (.plain (OpenSpec.upto sketchExactSpec)) sketchExactUptoCard

/-- THE SECOND FORM's CARD OF 'tablefinderlaw24.SketchMerges'. -/
def sketchMergesUptoCard : Claim7 := { stood := { row := sketchMergesUptoRow, standIns := [], harness := (true, "3c638803a5fc33a7879a1a6edbdf40d1120690d0ec6b0e325eb9ad0aae38d510"), looks := true }, kinds := [], alts := [], laidByText := true, laidKinds := [.data, .data, .data, .data, .sentinel, .sentinel, .widerDeep, .pinned], laidTests := true, laidLooks := .later }
def SketchMergesUptoCardSaid : Prop := Claim7.holds Tryz.pinned (.plain (OpenSpec.upto sketchMergesSpec)) sketchMergesUptoCard
end Rows
end Go.Proofs.YtamebpdbedglkaaGreatDoor

/-
  DERIVED. GIVEN WITH THE SEED: THE CARDS: each row of YteopakpakelkoaaGreatDoorRows.lean that lists a variable, with what it lists TIED to the program's text (the seventh form; the later family's looks); each row that meets fmt, with fmt's text TOLD by the authors' own Lean function (tested against real Go, not proved from fmt's source: count such statements apart). THE CARD IS WHAT COUNTS. Prove the row's statement (the work); the ties are given (YteopakpakelkoaaGreatDoorTie.lean); close each card by the builder's one call (the guide's Derived/Test/ToyasCard.lean, 'card_holds'). Laid BY PROGRAM, IN A SANDBOX (cutbox-door.mjs). By AI agents, Wed Nov 11 2026. No macro, syntax, notation, axiom, sorry.
-/
import Derived.Test.YteopakpakelkoaaGreatDoorRows
import GoSem.ClaimSeven
namespace Go.Proofs.YteopakpakelkoaaGreatDoor
namespace Rows

/-- THE TIED CARD OF 'tablefinderlaw28.UnionsearchPairs'. -/
def unionsearchPairsCard : Claim7 := { stood := { row := unionsearchPairsRow, standIns := [], harness := (true, "227b809be0a86251cf4fa55eab6459dd828d42d5c56f64c9df674cc8dd32c7d3"), looks := true }, kinds := [], alts := [], laidByText := true, laidKinds := [.data, .data, .data, .data, .sentinel, .sentinel, .widerDeep, .pinned], laidTests := true, laidLooks := .later }
def UnionsearchPairsCardSaid : Prop := Claim7.holds Tryz.pinned (.plain (OpenSpec.ofChange unionsearchPairsSpec)) unionsearchPairsCard

/-- THE TIED CARD OF 'tablefinderlaw28.UnionsearchTop'. -/
def unionsearchTopCard : Claim7 := { stood := { row := unionsearchTopRow, standIns := [], harness := (true, "227b809be0a86251cf4fa55eab6459dd828d42d5c56f64c9df674cc8dd32c7d3"), looks := true }, kinds := [], alts := [], laidByText := true, laidKinds := [.data, .data, .data, .data, .sentinel, .sentinel, .widerDeep, .pinned], laidTests := true, laidLooks := .later }
def UnionsearchTopCardSaid : Prop := Claim7.holds Tryz.pinned (.plain (OpenSpec.ofChange unionsearchTopSpec)) unionsearchTopCard

/-- THE SECOND FORM's CARD OF 'tablefinderlaw28.UnionsearchPairs'. -/
def unionsearchPairsUptoCard : Claim7 := { stood := { row := unionsearchPairsUptoRow, standIns := [], harness := (true, "227b809be0a86251cf4fa55eab6459dd828d42d5c56f64c9df674cc8dd32c7d3"), looks := true }, kinds := [], alts := [], laidByText := true, laidKinds := [.data, .data, .data, .data, .sentinel, .sentinel, .widerDeep, .pinned], laidTests := true, laidLooks := .later }
def UnionsearchPairsUptoCardSaid : Prop := Claim7.holds Tryz.pinned (.plain (OpenSpec.upto unionsearchPairsSpec)) unionsearchPairsUptoCard

/-- THE SECOND FORM's CARD OF 'tablefinderlaw28.UnionsearchTop'. -/
def unionsearchTopUptoCard : Claim7 := { stood := { row := unionsearchTopUptoRow, standIns := [], harness := (true, "227b809be0a86251cf4fa55eab6459dd828d42d5c56f64c9df674cc8dd32c7d3"), looks := true }, kinds := [], alts := [], laidByText := true, laidKinds := [.data, .data, .data, .data, .sentinel, .sentinel, .widerDeep, .pinned], laidTests := true, laidLooks := .later }
def UnionsearchTopUptoCardSaid : Prop := Claim7.holds Tryz.pinned (.plain (OpenSpec.upto unionsearchTopSpec)) unionsearchTopUptoCard
end Rows
end Go.Proofs.YteopakpakelkoaaGreatDoor

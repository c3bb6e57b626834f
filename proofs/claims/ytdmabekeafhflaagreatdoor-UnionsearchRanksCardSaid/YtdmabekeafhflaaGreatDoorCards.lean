/-
  DERIVED. GIVEN WITH THE SEED: THE CARDS: each row of YtdmabekeafhflaaGreatDoorRows.lean that lists a variable, with what it lists TIED to the program's text (the seventh form; the later family's looks); each row that meets fmt, with fmt's text TOLD by the authors' own Lean function (tested against real Go, not proved from fmt's source: count such statements apart). THE CARD IS WHAT COUNTS. Prove the row's statement (the work); the ties are given (YtdmabekeafhflaaGreatDoorTie.lean); close each card by the builder's one call (the guide's Derived/Test/ToyasCard.lean, 'card_holds'). Laid BY PROGRAM, IN A SANDBOX (cutbox-door.mjs). By AI agents, Wed Nov 11 2026. No macro, syntax, notation, axiom, sorry.
-/
import Derived.Test.YtdmabekeafhflaaGreatDoorRows
import GoSem.ClaimSeven
namespace Go.Proofs.YtdmabekeafhflaaGreatDoor
namespace Rows

/-- THE TIED CARD OF 'tablefinderlaw28.UnionsearchStacks'. -/
def unionsearchStacksCard : Claim7 := { stood := { row := unionsearchStacksRow, standIns := [], harness := (true, "2cf6421c3486c0a42ee993ed8002b134e658a97b4d2bd861e087e29b1fc891d4"), looks := true }, kinds := [], alts := [], laidByText := true, laidKinds := [.data, .data, .data, .data, .sentinel, .sentinel, .widerDeep, .pinned], laidTests := true, laidLooks := .later }
def UnionsearchStacksCardSaid : Prop := Claim7.holds Tryz.pinned (.plain (OpenSpec.ofChange unionsearchStacksSpec)) unionsearchStacksCard

/-- THE TIED CARD OF 'tablefinderlaw28.UnionsearchSelf'. -/
def unionsearchSelfCard : Claim7 := { stood := { row := unionsearchSelfRow, standIns := [], harness := (true, "2cf6421c3486c0a42ee993ed8002b134e658a97b4d2bd861e087e29b1fc891d4"), looks := true }, kinds := [], alts := [], laidByText := true, laidKinds := [.data, .data, .data, .data, .sentinel, .sentinel, .widerDeep, .pinned], laidTests := true, laidLooks := .later }
def UnionsearchSelfCardSaid : Prop := Claim7.holds Tryz.pinned (.plain (OpenSpec.ofChange unionsearchSelfSpec)) unionsearchSelfCard

/-- THE TIED CARD OF 'tablefinderlaw28.UnionsearchRanks'. -/
def unionsearchRanksCard : Claim7 := { stood := { row := unionsearchRanksRow, standIns := [], harness := (true, "2cf6421c3486c0a42ee993ed8002b134e658a97b4d2bd861e087e29b1fc891d4"), looks := true }, kinds := [], alts := [], laidByText := true, laidKinds := [.data, .data, .data, .data, .sentinel, .sentinel, .widerDeep, .pinned], laidTests := true, laidLooks := .later }
def UnionsearchRanksCardSaid : Prop := Claim7.holds Tryz.pinned (.plain (OpenSpec.ofChange unionsearchRanksSpec)) unionsearchRanksCard

/-- THE SECOND FORM's CARD OF 'tablefinderlaw28.UnionsearchStacks'. -/
def unionsearchStacksUptoCard : Claim7 := { stood := { row := unionsearchStacksUptoRow, standIns := [], harness := (true, "2cf6421c3486c0a42ee993ed8002b134e658a97b4d2bd861e087e29b1fc891d4"), looks := true }, kinds := [], alts := [], laidByText := true, laidKinds := [.data, .data, .data, .data, .sentinel, .sentinel, .widerDeep, .pinned], laidTests := true, laidLooks := .later }
def UnionsearchStacksUptoCardSaid : Prop := Claim7.holds Tryz.pinned (.plain (OpenSpec.upto unionsearchStacksSpec)) unionsearchStacksUptoCard

/-- THE SECOND FORM's CARD OF 'tablefinderlaw28.UnionsearchSelf'. -/
def unionsearchSelfUptoCard : Claim7 := { stood := { row := unionsearchSelfUptoRow, standIns := [], harness := (true, "2cf6421c3486c0a42ee993ed8002b134e658a97b4d2bd861e087e29b1fc891d4"), looks := true }, kinds := [], alts := [], laidByText := true, laidKinds := [.data, .data, .data, .data, .sentinel, .sentinel, .widerDeep, .pinned], laidTests := true, laidLooks := .later }
def UnionsearchSelfUptoCardSaid : Prop := Claim7.holds Tryz.pinned (.plain (OpenSpec.upto unionsearchSelfSpec)) unionsearchSelfUptoCard

/-- THE SECOND FORM's CARD OF 'tablefinderlaw28.UnionsearchRanks'. -/
def unionsearchRanksUptoCard : Claim7 := { stood := { row := unionsearchRanksUptoRow, standIns := [], harness := (true, "2cf6421c3486c0a42ee993ed8002b134e658a97b4d2bd861e087e29b1fc891d4"), looks := true }, kinds := [], alts := [], laidByText := true, laidKinds := [.data, .data, .data, .data, .sentinel, .sentinel, .widerDeep, .pinned], laidTests := true, laidLooks := .later }
def UnionsearchRanksUptoCardSaid : Prop := Claim7.holds Tryz.pinned (.plain (OpenSpec.upto unionsearchRanksSpec)) unionsearchRanksUptoCard
end Rows
end Go.Proofs.YtdmabekeafhflaaGreatDoor

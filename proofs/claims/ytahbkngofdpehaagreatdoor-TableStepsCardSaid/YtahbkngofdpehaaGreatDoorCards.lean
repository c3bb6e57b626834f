/-
  DERIVED. GIVEN WITH THE SEED: THE CARDS: each row of YtahbkngofdpehaaGreatDoorRows.lean that lists a variable, with what it lists TIED to the program's text (the seventh form; the later family's looks); each row that meets fmt, with fmt's text TOLD by the authors' own Lean function (tested against real Go, not proved from fmt's source: count such statements apart). THE CARD IS WHAT COUNTS. Prove the row's statement (the work); the ties are given (YtahbkngofdpehaaGreatDoorTie.lean); close each card by the builder's one call (the guide's Derived/Test/ToyasCard.lean, 'card_holds'). Laid BY PROGRAM, IN A SANDBOX (cutbox-door.mjs). By AI agents, Wed Nov 11 2026. No macro, syntax, notation, axiom, sorry.
-/
import Derived.Test.YtahbkngofdpehaaGreatDoorRows
import GoSem.ClaimSeven
namespace Go.Proofs.YtahbkngofdpehaaGreatDoor
namespace Rows

/-- THE TIED CARD OF 'tablefinderlaw44.WorkerTop'. -/
def workerTopCard : Claim7 := { stood := { row := workerTopRow, standIns := [], harness := (true, "9637301d239bb3d334a75e8279a1906919cae3986eda3b3a7ba60539dcc99076"), looks := false }, kinds := [], alts := [], laidByText := true, laidKinds := [.widerDeep], laidTests := true, laidLooks := .later }
def WorkerTopCardSaid : Prop := Claim7.holds Tryz.pinned (.plain (OpenSpec.ofChange workerTopSpec)) workerTopCard

/-- THE TIED CARD OF 'tablefinderlaw03.TableSteps'. -/
def tableStepsCard : Claim7 := { stood := { row := tableStepsRow, standIns := [], harness := (true, "9637301d239bb3d334a75e8279a1906919cae3986eda3b3a7ba60539dcc99076"), looks := false }, kinds := [], alts := [], laidByText := true, laidKinds := [.data, .data, .data, .data, .pinned, .pinned, .pinned, .pinned, .pinned, .pinned], laidTests := true, laidLooks := .later }
def TableStepsCardSaid : Prop := Claim7.holds Tryz.pinned (.plain (OpenSpec.ofChange tableStepsSpec)) tableStepsCard

/-- THE SECOND FORM's CARD OF 'tablefinderlaw44.WorkerTop'. -/
def workerTopUptoCard : Claim7 := { stood := { row := workerTopUptoRow, standIns := [], harness := (true, "9637301d239bb3d334a75e8279a1906919cae3986eda3b3a7ba60539dcc99076"), looks := false }, kinds := [], alts := [], laidByText := true, laidKinds := [.widerDeep], laidTests := true, laidLooks := .later }
def WorkerTopUptoCardSaid : Prop := Claim7.holds Tryz.pinned (.plain (OpenSpec.upto workerTopSpec)) workerTopUptoCard

/-- THE SECOND FORM's CARD OF 'tablefinderlaw03.TableSteps'. -/
def tableStepsUptoCard : Claim7 := { stood := { row := tableStepsUptoRow, standIns := [], harness := (true, "9637301d239bb3d334a75e8279a1906919cae3986eda3b3a7ba60539dcc99076"), looks := false }, kinds := [], alts := [], laidByText := true, laidKinds := [.data, .data, .data, .data, .pinned, .pinned, .pinned, .pinned, .pinned, .pinned], laidTests := true, laidLooks := .later }
def TableStepsUptoCardSaid : Prop := Claim7.holds Tryz.pinned (.plain (OpenSpec.upto tableStepsSpec)) tableStepsUptoCard
end Rows
end Go.Proofs.YtahbkngofdpehaaGreatDoor

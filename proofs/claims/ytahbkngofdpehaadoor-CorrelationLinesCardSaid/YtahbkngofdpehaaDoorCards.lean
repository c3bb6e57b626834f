/-
  DERIVED. GIVEN WITH THE SEED: THE CARDS: each row of YtahbkngofdpehaaDoorRows.lean that lists a variable, with what it lists TIED to the program's text (the seventh form; the later family's looks); each row that meets fmt, with fmt's text TOLD by the authors' own Lean function (tested against real Go, not proved from fmt's source: count such statements apart). THE CARD IS WHAT COUNTS. Prove the row's statement (the work); the ties are given (YtahbkngofdpehaaDoorTie.lean); close each card by the builder's one call (the guide's Derived/Test/ToyasCard.lean, 'card_holds'). Laid BY PROGRAM, IN A SANDBOX (cutbox-door.mjs). By AI agents, Wed Nov 11 2026. No macro, syntax, notation, axiom, sorry.
-/
import Derived.Test.YtahbkngofdpehaaDoorRows
import GoSem.ClaimSeven
namespace Go.Proofs.YtahbkngofdpehaaDoor
namespace Rows

/-- THE TIED CARD OF 'tablefinderlaw25.CorrelationLaws'. -/
def correlationLawsCard : Claim7 := { stood := { row := correlationLawsRow, standIns := [], harness := (true, "eec583a55967367a8612e427ddfa2e8e8fb9bce4814b0ecaca0ef50afc55f610"), looks := false }, kinds := [], alts := [], laidByText := true, laidKinds := [.widerDeep], laidTests := true, laidLooks := .later }
def CorrelationLawsCardSaid : Prop := Claim7.holds Tryd.pinned (.plain (OpenSpec.ofChange correlationLawsSpec)) correlationLawsCard

/-- THE TIED CARD OF 'tablefinderlaw25.CorrelationLines'. -/
def correlationLinesCard : Claim7 := { stood := { row := correlationLinesRow, standIns := [], harness := (true, "eec583a55967367a8612e427ddfa2e8e8fb9bce4814b0ecaca0ef50afc55f610"), looks := false }, kinds := [], alts := [], laidByText := true, laidKinds := [.widerDeep], laidTests := true, laidLooks := .later }
def CorrelationLinesCardSaid : Prop := Claim7.holds Tryd.pinned (.plain (OpenSpec.ofChange correlationLinesSpec)) correlationLinesCard

/-- THE TIED CARD OF 'tablefinderlaw42.AccessAll'. -/
def accessAllCard : Claim7 := { stood := { row := accessAllRow, standIns := [], harness := (true, "eec583a55967367a8612e427ddfa2e8e8fb9bce4814b0ecaca0ef50afc55f610"), looks := false }, kinds := [], alts := [], laidByText := true, laidKinds := [.data, .data, .data, .data, .pinned], laidTests := true, laidLooks := .later }
def AccessAllCardSaid : Prop := Claim7.holds Tryd.pinned (.plain (OpenSpec.ofChange accessAllSpec)) accessAllCard

/-- THE TIED CARD OF 'tablefinderlaw03.TableSorts'. -/
def tableSortsCard : Claim7 := { stood := { row := tableSortsRow, standIns := [], harness := (true, "eec583a55967367a8612e427ddfa2e8e8fb9bce4814b0ecaca0ef50afc55f610"), looks := false }, kinds := [], alts := [], laidByText := true, laidKinds := [.data, .data, .data, .data, .pinned, .pinned, .pinned, .pinned, .pinned, .pinned], laidTests := true, laidLooks := .later }
def TableSortsCardSaid : Prop := Claim7.holds Tryd.pinned (.plain (OpenSpec.ofChange tableSortsSpec)) tableSortsCard

/-- THE SECOND FORM's CARD OF 'tablefinderlaw25.CorrelationLaws'. -/
def correlationLawsUptoCard : Claim7 := { stood := { row := correlationLawsUptoRow, standIns := [], harness := (true, "eec583a55967367a8612e427ddfa2e8e8fb9bce4814b0ecaca0ef50afc55f610"), looks := false }, kinds := [], alts := [], laidByText := true, laidKinds := [.widerDeep], laidTests := true, laidLooks := .later }
def CorrelationLawsUptoCardSaid : Prop := Claim7.holds Tryd.pinned (.plain (OpenSpec.upto correlationLawsSpec)) correlationLawsUptoCard

/-- THE SECOND FORM's CARD OF 'tablefinderlaw25.CorrelationLines'. -/
def correlationLinesUptoCard : Claim7 := { stood := { row := correlationLinesUptoRow, standIns := [], harness := (true, "eec583a55967367a8612e427ddfa2e8e8fb9bce4814b0ecaca0ef50afc55f610"), looks := false }, kinds := [], alts := [], laidByText := true, laidKinds := [.widerDeep], laidTests := true, laidLooks := .later }
def CorrelationLinesUptoCardSaid : Prop := Claim7.holds Tryd.pinned (.plain (OpenSpec.upto correlationLinesSpec)) correlationLinesUptoCard

/-- THE SECOND FORM's CARD OF 'tablefinderlaw42.AccessAll'. -/
def accessAllUptoCard : Claim7 := { stood := { row := accessAllUptoRow, standIns := [], harness := (true, "eec583a55967367a8612e427ddfa2e8e8fb9bce4814b0ecaca0ef50afc55f610"), looks := false }, kinds := [], alts := [], laidByText := true, laidKinds := [.data, .data, .data, .data, .pinned], laidTests := true, laidLooks := .later }
def AccessAllUptoCardSaid : Prop := Claim7.holds Tryd.pinned (.plain (OpenSpec.upto accessAllSpec)) accessAllUptoCard

/-- THE SECOND FORM's CARD OF 'tablefinderlaw03.TableSorts'. -/
def tableSortsUptoCard : Claim7 := { stood := { row := tableSortsUptoRow, standIns := [], harness := (true, "eec583a55967367a8612e427ddfa2e8e8fb9bce4814b0ecaca0ef50afc55f610"), looks := false }, kinds := [], alts := [], laidByText := true, laidKinds := [.data, .data, .data, .data, .pinned, .pinned, .pinned, .pinned, .pinned, .pinned], laidTests := true, laidLooks := .later }
def TableSortsUptoCardSaid : Prop := Claim7.holds Tryd.pinned (.plain (OpenSpec.upto tableSortsSpec)) tableSortsUptoCard
end Rows
end Go.Proofs.YtahbkngofdpehaaDoor

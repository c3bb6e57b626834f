/-
  DERIVED. GIVEN WITH THE SEED: THE CARDS: each row of YthefajbigloihaaGreatDoorRows.lean that lists a variable, with what it lists TIED to the program's text (the seventh form; the later family's looks); each row that meets fmt, with fmt's text TOLD by the authors' own Lean function (tested against real Go, not proved from fmt's source: count such statements apart). THE CARD IS WHAT COUNTS. Prove the row's statement (the work); the ties are given (YthefajbigloihaaGreatDoorTie.lean); close each card by the builder's one call (the guide's Derived/Test/ToyasCard.lean, 'card_holds'). Laid BY PROGRAM, IN A SANDBOX (cutbox-door.mjs). By AI agents, Wed Nov 11 2026. No macro, syntax, notation, axiom, sorry.
-/
import Derived.Test.YthefajbigloihaaGreatDoorRows
import GoSem.ClaimSeven
namespace Go.Proofs.YthefajbigloihaaGreatDoor
namespace Rows

/-- THE TIED CARD OF 'tablefinderlaw24.SketchMakes'. -/
def sketchMakesCard : Claim7 := { stood := { row := sketchMakesRow, standIns := [], harness := (true, "cbb9050748a371b4c6446a223b38c2a958a8cc32d44cb5e0acb64c81ff403e1f"), looks := true }, kinds := [], alts := [], laidByText := true, laidKinds := [.data, .data, .data, .data, .sentinel, .sentinel, .widerDeep, .pinned], laidTests := true, laidLooks := .later }
def SketchMakesCardSaid : Prop := Claim7.holds Tryz.pinned (.plain (OpenSpec.ofChange sketchMakesSpec)) sketchMakesCard

/-- THE TIED CARD OF 'tablefinderlaw23.QuantileNumbers'. -/
def quantileNumbersCard : Claim7 := { stood := { row := quantileNumbersRow, standIns := [], harness := (true, "cbb9050748a371b4c6446a223b38c2a958a8cc32d44cb5e0acb64c81ff403e1f"), looks := true }, kinds := [], alts := [], laidByText := true, laidKinds := [.data, .data, .data, .data, .sentinel, .sentinel, .widerDeep, .pinned], laidTests := true, laidLooks := .later }
def QuantileNumbersCardSaid : Prop := Claim7.holds Tryz.pinned (.plain (OpenSpec.ofChange quantileNumbersSpec)) quantileNumbersCard

/-- THE TIED CARD OF 'tablefinderlaw26.SimilarityNames'. -/
def similarityNamesCard : Claim7 := { stood := { row := similarityNamesRow, standIns := [], harness := (true, "cbb9050748a371b4c6446a223b38c2a958a8cc32d44cb5e0acb64c81ff403e1f"), looks := true }, kinds := [], alts := [], laidByText := true, laidKinds := [.data, .data, .data, .data, .sentinel, .sentinel, .widerDeep, .pinned], laidTests := true, laidLooks := .later }
def SimilarityNamesCardSaid : Prop := Claim7.holds Tryz.pinned (.plain (OpenSpec.ofChange similarityNamesSpec)) similarityNamesCard

/-- THE TIED CARD OF 'tablefinderlaw26.SimilarityColumns'. -/
def similarityColumnsCard : Claim7 := { stood := { row := similarityColumnsRow, standIns := [], harness := (true, "cbb9050748a371b4c6446a223b38c2a958a8cc32d44cb5e0acb64c81ff403e1f"), looks := true }, kinds := [], alts := [], laidByText := true, laidKinds := [.data, .data, .data, .data, .sentinel, .sentinel, .widerDeep, .pinned], laidTests := true, laidLooks := .later }
def SimilarityColumnsCardSaid : Prop := Claim7.holds Tryz.pinned (.plain (OpenSpec.ofChange similarityColumnsSpec)) similarityColumnsCard

/-- THE TIED CARD OF 'tablefinderlaw26.SimilarityLaws'. -/
def similarityLawsCard : Claim7 := { stood := { row := similarityLawsRow, standIns := [], harness := (true, "cbb9050748a371b4c6446a223b38c2a958a8cc32d44cb5e0acb64c81ff403e1f"), looks := true }, kinds := [], alts := [], laidByText := true, laidKinds := [.data, .data, .data, .data, .sentinel, .sentinel, .widerDeep, .pinned], laidTests := true, laidLooks := .later }
def SimilarityLawsCardSaid : Prop := Claim7.holds Tryz.pinned (.plain (OpenSpec.ofChange similarityLawsSpec)) similarityLawsCard

/-- THE TIED CARD OF 'tablefinderlaw26.SimilarityWords'. -/
def similarityWordsCard : Claim7 := { stood := { row := similarityWordsRow, standIns := [], harness := (true, "cbb9050748a371b4c6446a223b38c2a958a8cc32d44cb5e0acb64c81ff403e1f"), looks := true }, kinds := [], alts := [], laidByText := true, laidKinds := [.data, .data, .data, .data, .sentinel, .sentinel, .widerDeep, .pinned], laidTests := true, laidLooks := .later }
def SimilarityWordsCardSaid : Prop := Claim7.holds Tryz.pinned (.plain (OpenSpec.ofChange similarityWordsSpec)) similarityWordsCard

/-- THE TIED CARD OF 'tablefinderlaw26.SimilarityShares'. -/
def similaritySharesCard : Claim7 := { stood := { row := similaritySharesRow, standIns := [], harness := (true, "cbb9050748a371b4c6446a223b38c2a958a8cc32d44cb5e0acb64c81ff403e1f"), looks := true }, kinds := [], alts := [], laidByText := true, laidKinds := [.data, .data, .data, .data, .sentinel, .sentinel, .widerDeep, .pinned], laidTests := true, laidLooks := .later }
def SimilaritySharesCardSaid : Prop := Claim7.holds Tryz.pinned (.plain (OpenSpec.ofChange similaritySharesSpec)) similaritySharesCard

/-- THE TIED CARD OF 'tablefinderlaw23.QuantileLists'. -/
def quantileListsCard : Claim7 := { stood := { row := quantileListsRow, standIns := [], harness := (true, "cbb9050748a371b4c6446a223b38c2a958a8cc32d44cb5e0acb64c81ff403e1f"), looks := true }, kinds := [], alts := [], laidByText := true, laidKinds := [.data, .data, .data, .data, .sentinel, .sentinel, .widerDeep, .pinned], laidTests := true, laidLooks := .later }
def QuantileListsCardSaid : Prop := Claim7.holds Tryz.pinned (.plain (OpenSpec.ofChange quantileListsSpec)) quantileListsCard

/-- THE SECOND FORM's CARD OF 'tablefinderlaw24.SketchMakes'. -/
def sketchMakesUptoCard : Claim7 := { stood := { row := sketchMakesUptoRow, standIns := [], harness := (true, "cbb9050748a371b4c6446a223b38c2a958a8cc32d44cb5e0acb64c81ff403e1f"), looks := true }, kinds := [], alts := [], laidByText := true, laidKinds := [.data, .data, .data, .data, .sentinel, .sentinel, .widerDeep, .pinned], laidTests := true, laidLooks := .later }
def SketchMakesUptoCardSaid : Prop := Claim7.holds Tryz.pinned (.plain (OpenSpec.upto sketchMakesSpec)) sketchMakesUptoCard

/-- THE SECOND FORM's CARD OF 'tablefinderlaw23.QuantileNumbers'. -/
def quantileNumbersUptoCard : Claim7 := { stood := { row := quantileNumbersUptoRow, standIns := [], harness := (true, "cbb9050748a371b4c6446a223b38c2a958a8cc32d44cb5e0acb64c81ff403e1f"), looks := true }, kinds := [], alts := [], laidByText := true, laidKinds := [.data, .data, .data, .data, .sentinel, .sentinel, .widerDeep, .pinned], laidTests := true, laidLooks := .later }
def QuantileNumbersUptoCardSaid : Prop := Claim7.holds Tryz.pinned (.plain (OpenSpec.upto quantileNumbersSpec)) quantileNumbersUptoCard

/-- THE SECOND FORM's CARD OF 'tablefinderlaw26.SimilarityNames'. -/
def similarityNamesUptoCard : Claim7 := { stood := { row := similarityNamesUptoRow, standIns := [], harness := (true, "cbb9050748a371b4c6446a223b38c2a958a8cc32d44cb5e0acb64c81ff403e1f"), looks := true }, kinds := [], alts := [], laidByText := true, laidKinds := [.data, .data, .data, .data, .sentinel, .sentinel, .widerDeep, .pinned], laidTests := true, laidLooks := .later }
def SimilarityNamesUptoCardSaid : Prop := Claim7.holds Tryz.pinned (.plain (OpenSpec.upto similarityNamesSpec)) similarityNamesUptoCard

/-- THE SECOND FORM's CARD OF 'tablefinderlaw26.SimilarityColumns'. -/
def similarityColumnsUptoCard : Claim7 := { stood := { row := similarityColumnsUptoRow, standIns := [], harness := (true, "cbb9050748a371b4c6446a223b38c2a958a8cc32d44cb5e0acb64c81ff403e1f"), looks := true }, kinds := [], alts := [], laidByText := true, laidKinds := [.data, .data, .data, .data, .sentinel, .sentinel, .widerDeep, .pinned], laidTests := true, laidLooks := .later }
def SimilarityColumnsUptoCardSaid : Prop := Claim7.holds Tryz.pinned (.plain (OpenSpec.upto similarityColumnsSpec)) similarityColumnsUptoCard

/-- THE SECOND FORM's CARD OF 'tablefinderlaw26.SimilarityLaws'. -/
def similarityLawsUptoCard : Claim7 := { stood := { row := similarityLawsUptoRow, standIns := [], harness := (true, "cbb9050748a371b4c6446a223b38c2a958a8cc32d44cb5e0acb64c81ff403e1f"), looks := true }, kinds := [], alts := [], laidByText := true, laidKinds := [.data, .data, .data, .data, .sentinel, .sentinel, .widerDeep, .pinned], laidTests := true, laidLooks := .later }
def SimilarityLawsUptoCardSaid : Prop := Claim7.holds Tryz.pinned (.plain (OpenSpec.upto similarityLawsSpec)) similarityLawsUptoCard

/-- THE SECOND FORM's CARD OF 'tablefinderlaw26.SimilarityWords'. -/
def similarityWordsUptoCard : Claim7 := { stood := { row := similarityWordsUptoRow, standIns := [], harness := (true, "cbb9050748a371b4c6446a223b38c2a958a8cc32d44cb5e0acb64c81ff403e1f"), looks := true }, kinds := [], alts := [], laidByText := true, laidKinds := [.data, .data, .data, .data, .sentinel, .sentinel, .widerDeep, .pinned], laidTests := true, laidLooks := .later }
def SimilarityWordsUptoCardSaid : Prop := Claim7.holds Tryz.pinned (.plain (OpenSpec.upto similarityWordsSpec)) similarityWordsUptoCard

/-- THE SECOND FORM's CARD OF 'tablefinderlaw26.SimilarityShares'. -/
def similaritySharesUptoCard : Claim7 := { stood := { row := similaritySharesUptoRow, standIns := [], harness := (true, "cbb9050748a371b4c6446a223b38c2a958a8cc32d44cb5e0acb64c81ff403e1f"), looks := true }, kinds := [], alts := [], laidByText := true, laidKinds := [.data, .data, .data, .data, .sentinel, .sentinel, .widerDeep, .pinned], laidTests := true, laidLooks := .later }
def SimilaritySharesUptoCardSaid : Prop := Claim7.holds Tryz.pinned (.plain (OpenSpec.upto similaritySharesSpec)) similaritySharesUptoCard

/-- THE SECOND FORM's CARD OF 'tablefinderlaw23.QuantileLists'. -/
def quantileListsUptoCard : Claim7 := { stood := { row := quantileListsUptoRow, standIns := [], harness := (true, "cbb9050748a371b4c6446a223b38c2a958a8cc32d44cb5e0acb64c81ff403e1f"), looks := true }, kinds := [], alts := [], laidByText := true, laidKinds := [.data, .data, .data, .data, .sentinel, .sentinel, .widerDeep, .pinned], laidTests := true, laidLooks := .later }
def QuantileListsUptoCardSaid : Prop := Claim7.holds Tryz.pinned (.plain (OpenSpec.upto quantileListsSpec)) quantileListsUptoCard
end Rows
end Go.Proofs.YthefajbigloihaaGreatDoor

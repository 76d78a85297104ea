/-
  DERIVED. GIVEN WITH THE SEED: THE CARDS: each row of YthkklceofokkmaaGreatDoorRows.lean that lists a variable, with what it lists TIED to the program's text (the seventh form; the later family's looks); each row that meets fmt, with fmt's text TOLD by the authors' own Lean function (tested against real Go, not proved from fmt's source: count such statements apart). THE CARD IS WHAT COUNTS. Prove the row's statement (the work); the ties are given (YthkklceofokkmaaGreatDoorTie.lean); close each card by the builder's one call (the guide's Derived/Test/ToyasCard.lean, 'card_holds'). Laid BY PROGRAM, IN A SANDBOX (cutbox-door.mjs). By AI agents, Wed Nov 11 2026. No macro, syntax, notation, axiom, sorry.
-/
import Derived.Test.YthkklceofokkmaaGreatDoorRows
import GoSem.ClaimSeven
namespace Go.Proofs.YthkklceofokkmaaGreatDoor
namespace Rows

/-- THE TIED CARD OF 'dataenclavelaw08.DeclarationChecks'. -/
def declarationChecksCard : Claim7 := { stood := { row := declarationChecksRow, standIns := [], harness := (true, "d250e981608767c78cd6f1d555d92d7c43aa88c22e504b0b2effc434b33f0c93"), looks := true }, kinds := [], alts := [], laidByText := true, laidKinds := [.data, .data, .data, .data, .sentinel, .sentinel, .pinned], laidTests := true, laidLooks := .later }
def DeclarationChecksCardSaid : Prop := Claim7.holds Tryz.pinned (.plain (OpenSpec.ofChange declarationChecksSpec)) declarationChecksCard

/-- THE TIED CARD OF 'dataenclavelaw08.DeclarationBack'. -/
def declarationBackCard : Claim7 := { stood := { row := declarationBackRow, standIns := [], harness := (true, "d250e981608767c78cd6f1d555d92d7c43aa88c22e504b0b2effc434b33f0c93"), looks := true }, kinds := [], alts := [], laidByText := true, laidKinds := [.data, .data, .data, .data, .sentinel, .sentinel, .pinned], laidTests := true, laidLooks := .later }
def DeclarationBackCardSaid : Prop := Claim7.holds Tryz.pinned (.plain (OpenSpec.ofChange declarationBackSpec)) declarationBackCard

/-- THE TIED CARD OF 'dataenclavelaw08.DeclarationParts'. -/
def declarationPartsCard : Claim7 := { stood := { row := declarationPartsRow, standIns := [], harness := (true, "d250e981608767c78cd6f1d555d92d7c43aa88c22e504b0b2effc434b33f0c93"), looks := true }, kinds := [], alts := [], laidByText := true, laidKinds := [.data, .data, .data, .data, .sentinel, .sentinel, .pinned], laidTests := true, laidLooks := .later }
def DeclarationPartsCardSaid : Prop := Claim7.holds Tryz.pinned (.plain (OpenSpec.ofChange declarationPartsSpec)) declarationPartsCard

/-- THE TIED CARD OF 'dataenclavelaw08.DeclarationLines'. -/
def declarationLinesCard : Claim7 := { stood := { row := declarationLinesRow, standIns := [], harness := (true, "d250e981608767c78cd6f1d555d92d7c43aa88c22e504b0b2effc434b33f0c93"), looks := true }, kinds := [], alts := [], laidByText := true, laidKinds := [.data, .data, .data, .data, .sentinel, .sentinel, .pinned], laidTests := true, laidLooks := .later }
def DeclarationLinesCardSaid : Prop := Claim7.holds Tryz.pinned (.plain (OpenSpec.ofChange declarationLinesSpec)) declarationLinesCard

/-- THE TIED CARD OF 'dataenclavelaw08.DeclarationTexts'. -/
def declarationTextsCard : Claim7 := { stood := { row := declarationTextsRow, standIns := [], harness := (true, "d250e981608767c78cd6f1d555d92d7c43aa88c22e504b0b2effc434b33f0c93"), looks := true }, kinds := [], alts := [], laidByText := true, laidKinds := [.data, .data, .data, .data, .sentinel, .sentinel, .pinned], laidTests := true, laidLooks := .later }
def DeclarationTextsCardSaid : Prop := Claim7.holds Tryz.pinned (.plain (OpenSpec.ofChange declarationTextsSpec)) declarationTextsCard

/-- THE SECOND FORM's CARD OF 'dataenclavelaw08.DeclarationChecks'. -/
def declarationChecksUptoCard : Claim7 := { stood := { row := declarationChecksUptoRow, standIns := [], harness := (true, "d250e981608767c78cd6f1d555d92d7c43aa88c22e504b0b2effc434b33f0c93"), looks := true }, kinds := [], alts := [], laidByText := true, laidKinds := [.data, .data, .data, .data, .sentinel, .sentinel, .pinned], laidTests := true, laidLooks := .later }
def DeclarationChecksUptoCardSaid : Prop := Claim7.holds Tryz.pinned (.plain (OpenSpec.upto declarationChecksSpec)) declarationChecksUptoCard

/-- THE SECOND FORM's CARD OF 'dataenclavelaw08.DeclarationBack'. -/
def declarationBackUptoCard : Claim7 := { stood := { row := declarationBackUptoRow, standIns := [], harness := (true, "d250e981608767c78cd6f1d555d92d7c43aa88c22e504b0b2effc434b33f0c93"), looks := true }, kinds := [], alts := [], laidByText := true, laidKinds := [.data, .data, .data, .data, .sentinel, .sentinel, .pinned], laidTests := true, laidLooks := .later }
def DeclarationBackUptoCardSaid : Prop := Claim7.holds Tryz.pinned (.plain (OpenSpec.upto declarationBackSpec)) declarationBackUptoCard

/-- THE SECOND FORM's CARD OF 'dataenclavelaw08.DeclarationParts'. -/
def declarationPartsUptoCard : Claim7 := { stood := { row := declarationPartsUptoRow, standIns := [], harness := (true, "d250e981608767c78cd6f1d555d92d7c43aa88c22e504b0b2effc434b33f0c93"), looks := true }, kinds := [], alts := [], laidByText := true, laidKinds := [.data, .data, .data, .data, .sentinel, .sentinel, .pinned], laidTests := true, laidLooks := .later }
def DeclarationPartsUptoCardSaid : Prop := Claim7.holds Tryz.pinned (.plain (OpenSpec.upto declarationPartsSpec)) declarationPartsUptoCard

/-- THE SECOND FORM's CARD OF 'dataenclavelaw08.DeclarationLines'. -/
def declarationLinesUptoCard : Claim7 := { stood := { row := declarationLinesUptoRow, standIns := [], harness := (true, "d250e981608767c78cd6f1d555d92d7c43aa88c22e504b0b2effc434b33f0c93"), looks := true }, kinds := [], alts := [], laidByText := true, laidKinds := [.data, .data, .data, .data, .sentinel, .sentinel, .pinned], laidTests := true, laidLooks := .later }
def DeclarationLinesUptoCardSaid : Prop := Claim7.holds Tryz.pinned (.plain (OpenSpec.upto declarationLinesSpec)) declarationLinesUptoCard

/-- THE SECOND FORM's CARD OF 'dataenclavelaw08.DeclarationTexts'. -/
def declarationTextsUptoCard : Claim7 := { stood := { row := declarationTextsUptoRow, standIns := [], harness := (true, "d250e981608767c78cd6f1d555d92d7c43aa88c22e504b0b2effc434b33f0c93"), looks := true }, kinds := [], alts := [], laidByText := true, laidKinds := [.data, .data, .data, .data, .sentinel, .sentinel, .pinned], laidTests := true, laidLooks := .later }
def DeclarationTextsUptoCardSaid : Prop := Claim7.holds Tryz.pinned (.plain (OpenSpec.upto declarationTextsSpec)) declarationTextsUptoCard
end Rows
end Go.Proofs.YthkklceofokkmaaGreatDoor

/-
  DERIVED. GIVEN WITH THE SEED: THE CARDS: each row of YtkcekccdcpmekaaGreatDoorRows.lean that lists a variable, with what it lists TIED to the program's text (the seventh form; the later family's looks); each row that meets fmt, with fmt's text TOLD by the authors' own Lean function (tested against real Go, not proved from fmt's source: count such statements apart). THE CARD IS WHAT COUNTS. Prove the row's statement (the work); the ties are given (YtkcekccdcpmekaaGreatDoorTie.lean); close each card by the builder's one call (the guide's Derived/Test/ToyasCard.lean, 'card_holds'). Laid BY PROGRAM, IN A SANDBOX (cutbox-door.mjs). By AI agents, Wed Nov 11 2026. No macro, syntax, notation, axiom, sorry.
-/
import Derived.Test.YtkcekccdcpmekaaGreatDoorRows
import GoSem.ClaimSeven
namespace Go.Proofs.YtkcekccdcpmekaaGreatDoor
namespace Rows

/-- THE TIED CARD OF 'dataenclavelaw08.DeclarationParts'. -/
def declarationPartsCard : Claim7 := { stood := { row := declarationPartsRow, standIns := [], harness := (true, "585a7653790964e30a1a5f2ace8cd72780a88f6306ea9581ee1d14024cba0cb0"), looks := true }, kinds := [], alts := [], laidByText := true, laidKinds := [.data, .data, .data, .data, .sentinel, .sentinel, .pinned], laidTests := true, laidLooks := .later }
def DeclarationPartsCardSaid : Prop := Claim7.holds Tryz.pinned (.plain (OpenSpec.ofChange declarationPartsSpec)) declarationPartsCard

/-- THE TIED CARD OF 'dataenclavelaw08.DeclarationTexts'. -/
def declarationTextsCard : Claim7 := { stood := { row := declarationTextsRow, standIns := [], harness := (true, "585a7653790964e30a1a5f2ace8cd72780a88f6306ea9581ee1d14024cba0cb0"), looks := true }, kinds := [], alts := [], laidByText := true, laidKinds := [.data, .data, .data, .data, .sentinel, .sentinel, .pinned], laidTests := true, laidLooks := .later }
def DeclarationTextsCardSaid : Prop := Claim7.holds Tryz.pinned (.plain (OpenSpec.ofChange declarationTextsSpec)) declarationTextsCard

/-- THE SECOND FORM's CARD OF 'dataenclavelaw08.DeclarationParts'. -/
def declarationPartsUptoCard : Claim7 := { stood := { row := declarationPartsUptoRow, standIns := [], harness := (true, "585a7653790964e30a1a5f2ace8cd72780a88f6306ea9581ee1d14024cba0cb0"), looks := true }, kinds := [], alts := [], laidByText := true, laidKinds := [.data, .data, .data, .data, .sentinel, .sentinel, .pinned], laidTests := true, laidLooks := .later }
def DeclarationPartsUptoCardSaid : Prop := Claim7.holds Tryz.pinned (.plain (OpenSpec.upto declarationPartsSpec)) declarationPartsUptoCard

/-- THE SECOND FORM's CARD OF 'dataenclavelaw08.DeclarationTexts'. -/
def declarationTextsUptoCard : Claim7 := { stood := { row := declarationTextsUptoRow, standIns := [], harness := (true, "585a7653790964e30a1a5f2ace8cd72780a88f6306ea9581ee1d14024cba0cb0"), looks := true }, kinds := [], alts := [], laidByText := true, laidKinds := [.data, .data, .data, .data, .sentinel, .sentinel, .pinned], laidTests := true, laidLooks := .later }
def DeclarationTextsUptoCardSaid : Prop := Claim7.holds Tryz.pinned (.plain (OpenSpec.upto declarationTextsSpec)) declarationTextsUptoCard
end Rows
end Go.Proofs.YtkcekccdcpmekaaGreatDoor

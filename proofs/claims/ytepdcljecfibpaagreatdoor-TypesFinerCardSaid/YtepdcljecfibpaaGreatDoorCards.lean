/-
  DERIVED. GIVEN WITH THE SEED: THE CARDS: each row of YtepdcljecfibpaaGreatDoorRows.lean that lists a variable, with what it lists TIED to the program's text (the seventh form; the later family's looks); each row that meets fmt, with fmt's text TOLD by the authors' own Lean function (tested against real Go, not proved from fmt's source: count such statements apart). THE CARD IS WHAT COUNTS. Prove the row's statement (the work); the ties are given (YtepdcljecfibpaaGreatDoorTie.lean); close each card by the builder's one call (the guide's Derived/Test/ToyasCard.lean, 'card_holds'). Laid BY PROGRAM, IN A SANDBOX (cutbox-door.mjs). By AI agents, Wed Nov 11 2026. No macro, syntax, notation, axiom, sorry.
-/
import Derived.Test.YtepdcljecfibpaaGreatDoorRows
import GoSem.ClaimSeven
namespace Go.Proofs.YtepdcljecfibpaaGreatDoor
namespace Rows

/-- THE TIED CARD OF 'dataenclavelaw17.TypesPrograms'. -/
def typesProgramsCard : Claim7 := { stood := { row := typesProgramsRow, standIns := [], harness := (true, "f0da2670fff340eb58fb221151db36db8e76f38454039ab079c346f6bbaeb857"), looks := false }, kinds := [], alts := [], laidByText := true, laidKinds := [.data, .data, .data], laidTests := true, laidLooks := .later }
def TypesProgramsCardSaid : Prop := Claim7.holds Tryz.pinned (.plain (OpenSpec.ofChange typesProgramsSpec)) typesProgramsCard

/-- THE TIED CARD OF 'dataenclavelaw17.TypesFiner'. -/
def typesFinerCard : Claim7 := { stood := { row := typesFinerRow, standIns := [], harness := (true, "f0da2670fff340eb58fb221151db36db8e76f38454039ab079c346f6bbaeb857"), looks := false }, kinds := [], alts := [], laidByText := true, laidKinds := [.data, .data, .data], laidTests := true, laidLooks := .later }
def TypesFinerCardSaid : Prop := Claim7.holds Tryz.pinned (.plain (OpenSpec.ofChange typesFinerSpec)) typesFinerCard

/-- THE SECOND FORM's CARD OF 'dataenclavelaw17.TypesPrograms'. -/
def typesProgramsUptoCard : Claim7 := { stood := { row := typesProgramsUptoRow, standIns := [], harness := (true, "f0da2670fff340eb58fb221151db36db8e76f38454039ab079c346f6bbaeb857"), looks := false }, kinds := [], alts := [], laidByText := true, laidKinds := [.data, .data, .data], laidTests := true, laidLooks := .later }
def TypesProgramsUptoCardSaid : Prop := Claim7.holds Tryz.pinned (.plain (OpenSpec.upto typesProgramsSpec)) typesProgramsUptoCard

/-- THE SECOND FORM's CARD OF 'dataenclavelaw17.TypesFiner'. -/
def typesFinerUptoCard : Claim7 := { stood := { row := typesFinerUptoRow, standIns := [], harness := (true, "f0da2670fff340eb58fb221151db36db8e76f38454039ab079c346f6bbaeb857"), looks := false }, kinds := [], alts := [], laidByText := true, laidKinds := [.data, .data, .data], laidTests := true, laidLooks := .later }
def TypesFinerUptoCardSaid : Prop := Claim7.holds Tryz.pinned (.plain (OpenSpec.upto typesFinerSpec)) typesFinerUptoCard
end Rows
end Go.Proofs.YtepdcljecfibpaaGreatDoor

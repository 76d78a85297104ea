/-
  DERIVED. GIVEN WITH THE SEED: THE CARDS: each row of YtiphlhoclaogjabGreatDoorRows.lean that lists a variable, with what it lists TIED to the program's text (the seventh form; the later family's looks); each row that meets fmt, with fmt's text TOLD by the authors' own Lean function (tested against real Go, not proved from fmt's source: count such statements apart). THE CARD IS WHAT COUNTS. Prove the row's statement (the work); the ties are given (YtiphlhoclaogjabGreatDoorTie.lean); close each card by the builder's one call (the guide's Derived/Test/ToyasCard.lean, 'card_holds'). Laid BY PROGRAM, IN A SANDBOX (cutbox-door.mjs). By AI agents, Wed Nov 11 2026. No macro, syntax, notation, axiom, sorry.
-/
import Derived.Test.YtiphlhoclaogjabGreatDoorRows
import GoSem.ClaimSeven
namespace Go.Proofs.YtiphlhoclaogjabGreatDoor
namespace Rows

/-- THE TIED CARD OF 'dataenclavelaw03.DepositPrints'. -/
def depositPrintsCard : Claim7 := { stood := { row := depositPrintsRow, standIns := [], harness := (true, "9e6a0aeb17a5341274f9ffeb7beee5c8398c8b937cfc038b9e59f5c1a4cab083"), looks := true }, kinds := [], alts := [], laidByText := true, laidKinds := [.data, .data, .data, .data, .sentinel, .sentinel, .pinned], laidTests := true, laidLooks := .later }
def DepositPrintsCardSaid : Prop := Claim7.holds Tryz.pinned (.plain (OpenSpec.ofChange depositPrintsSpec)) depositPrintsCard

/-- THE TIED CARD OF 'dataenclavelaw03.DepositBack'. -/
def depositBackCard : Claim7 := { stood := { row := depositBackRow, standIns := [], harness := (true, "9e6a0aeb17a5341274f9ffeb7beee5c8398c8b937cfc038b9e59f5c1a4cab083"), looks := true }, kinds := [], alts := [], laidByText := true, laidKinds := [.data, .data, .data, .data, .sentinel, .sentinel, .pinned], laidTests := true, laidLooks := .later }
def DepositBackCardSaid : Prop := Claim7.holds Tryz.pinned (.plain (OpenSpec.ofChange depositBackSpec)) depositBackCard

/-- THE TIED CARD OF 'dataenclavelaw03.DepositNotices'. -/
def depositNoticesCard : Claim7 := { stood := { row := depositNoticesRow, standIns := [], harness := (true, "9e6a0aeb17a5341274f9ffeb7beee5c8398c8b937cfc038b9e59f5c1a4cab083"), looks := true }, kinds := [], alts := [], laidByText := true, laidKinds := [.data, .data, .data, .data, .sentinel, .sentinel, .pinned], laidTests := true, laidLooks := .later }
def DepositNoticesCardSaid : Prop := Claim7.holds Tryz.pinned (.plain (OpenSpec.ofChange depositNoticesSpec)) depositNoticesCard

/-- THE TIED CARD OF 'dataenclavelaw03.DepositParses'. -/
def depositParsesCard : Claim7 := { stood := { row := depositParsesRow, standIns := [], harness := (true, "9e6a0aeb17a5341274f9ffeb7beee5c8398c8b937cfc038b9e59f5c1a4cab083"), looks := true }, kinds := [], alts := [], laidByText := true, laidKinds := [.data, .data, .data, .data, .sentinel, .sentinel, .pinned], laidTests := true, laidLooks := .later }
def DepositParsesCardSaid : Prop := Claim7.holds Tryz.pinned (.plain (OpenSpec.ofChange depositParsesSpec)) depositParsesCard

/-- THE SECOND FORM's CARD OF 'dataenclavelaw03.DepositPrints'. -/
def depositPrintsUptoCard : Claim7 := { stood := { row := depositPrintsUptoRow, standIns := [], harness := (true, "9e6a0aeb17a5341274f9ffeb7beee5c8398c8b937cfc038b9e59f5c1a4cab083"), looks := true }, kinds := [], alts := [], laidByText := true, laidKinds := [.data, .data, .data, .data, .sentinel, .sentinel, .pinned], laidTests := true, laidLooks := .later }
def DepositPrintsUptoCardSaid : Prop := Claim7.holds Tryz.pinned (.plain (OpenSpec.upto depositPrintsSpec)) depositPrintsUptoCard

/-- THE SECOND FORM's CARD OF 'dataenclavelaw03.DepositBack'. -/
def depositBackUptoCard : Claim7 := { stood := { row := depositBackUptoRow, standIns := [], harness := (true, "9e6a0aeb17a5341274f9ffeb7beee5c8398c8b937cfc038b9e59f5c1a4cab083"), looks := true }, kinds := [], alts := [], laidByText := true, laidKinds := [.data, .data, .data, .data, .sentinel, .sentinel, .pinned], laidTests := true, laidLooks := .later }
def DepositBackUptoCardSaid : Prop := Claim7.holds Tryz.pinned (.plain (OpenSpec.upto depositBackSpec)) depositBackUptoCard

/-- THE SECOND FORM's CARD OF 'dataenclavelaw03.DepositNotices'. -/
def depositNoticesUptoCard : Claim7 := { stood := { row := depositNoticesUptoRow, standIns := [], harness := (true, "9e6a0aeb17a5341274f9ffeb7beee5c8398c8b937cfc038b9e59f5c1a4cab083"), looks := true }, kinds := [], alts := [], laidByText := true, laidKinds := [.data, .data, .data, .data, .sentinel, .sentinel, .pinned], laidTests := true, laidLooks := .later }
def DepositNoticesUptoCardSaid : Prop := Claim7.holds Tryz.pinned (.plain (OpenSpec.upto depositNoticesSpec)) depositNoticesUptoCard

/-- THE SECOND FORM's CARD OF 'dataenclavelaw03.DepositParses'. -/
def depositParsesUptoCard : Claim7 := { stood := { row := depositParsesUptoRow, standIns := [], harness := (true, "9e6a0aeb17a5341274f9ffeb7beee5c8398c8b937cfc038b9e59f5c1a4cab083"), looks := true }, kinds := [], alts := [], laidByText := true, laidKinds := [.data, .data, .data, .data, .sentinel, .sentinel, .pinned], laidTests := true, laidLooks := .later }
def DepositParsesUptoCardSaid : Prop := Claim7.holds Tryz.pinned (.plain (OpenSpec.upto depositParsesSpec)) depositParsesUptoCard
end Rows
end Go.Proofs.YtiphlhoclaogjabGreatDoor

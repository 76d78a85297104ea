/-
  DERIVED. GIVEN WITH THE SEED: THE CARDS: each row of YtleodngfheedbaaGreatDoorRows.lean that lists a variable, with what it lists TIED to the program's text (the seventh form; the later family's looks); each row that meets fmt, with fmt's text TOLD by the authors' own Lean function (tested against real Go, not proved from fmt's source: count such statements apart). THE CARD IS WHAT COUNTS. Prove the row's statement (the work); the ties are given (YtleodngfheedbaaGreatDoorTie.lean); close each card by the builder's one call (the guide's Derived/Test/ToyasCard.lean, 'card_holds'). Laid BY PROGRAM, IN A SANDBOX (cutbox-door.mjs). By AI agents, Wed Nov 11 2026. No macro, syntax, notation, axiom, sorry.
-/
import Derived.Test.YtleodngfheedbaaGreatDoorRows
import GoSem.ClaimSeven
namespace Go.Proofs.YtleodngfheedbaaGreatDoor
namespace Rows

/-- THE TIED CARD OF 'dataenclavelaw17.TypesPrograms'. -/
def typesProgramsCard : Claim7 := { stood := { row := typesProgramsRow, standIns := [], harness := (true, "46bffd483fcad89c014ac085e6c0b82c1824110556d9dd912ac0e7f49bed1fdb"), looks := false }, kinds := [], alts := [], laidByText := true, laidKinds := [.data, .data, .data], laidTests := true, laidLooks := .later }
def TypesProgramsCardSaid : Prop := Claim7.holds Tryz.pinned (.plain (OpenSpec.ofChange typesProgramsSpec)) typesProgramsCard

/-- THE TIED CARD OF 'dataenclavelaw17.TypesFiner'. -/
def typesFinerCard : Claim7 := { stood := { row := typesFinerRow, standIns := [], harness := (true, "46bffd483fcad89c014ac085e6c0b82c1824110556d9dd912ac0e7f49bed1fdb"), looks := false }, kinds := [], alts := [], laidByText := true, laidKinds := [.data, .data, .data], laidTests := true, laidLooks := .later }
def TypesFinerCardSaid : Prop := Claim7.holds Tryz.pinned (.plain (OpenSpec.ofChange typesFinerSpec)) typesFinerCard

/-- THE TIED CARD OF 'dataenclavelaw17.TypesLeast'. -/
def typesLeastCard : Claim7 := { stood := { row := typesLeastRow, standIns := [], harness := (true, "46bffd483fcad89c014ac085e6c0b82c1824110556d9dd912ac0e7f49bed1fdb"), looks := false }, kinds := [], alts := [], laidByText := true, laidKinds := [.data, .data, .data], laidTests := true, laidLooks := .later }
def TypesLeastCardSaid : Prop := Claim7.holds Tryz.pinned (.plain (OpenSpec.ofChange typesLeastSpec)) typesLeastCard

/-- THE TIED CARD OF 'dataenclavelaw17.TypesKinds'. -/
def typesKindsCard : Claim7 := { stood := { row := typesKindsRow, standIns := [], harness := (true, "46bffd483fcad89c014ac085e6c0b82c1824110556d9dd912ac0e7f49bed1fdb"), looks := false }, kinds := [], alts := [], laidByText := true, laidKinds := [.data, .data, .data], laidTests := true, laidLooks := .later }
def TypesKindsCardSaid : Prop := Claim7.holds Tryz.pinned (.plain (OpenSpec.ofChange typesKindsSpec)) typesKindsCard

/-- THE SECOND FORM's CARD OF 'dataenclavelaw17.TypesPrograms'. -/
def typesProgramsUptoCard : Claim7 := { stood := { row := typesProgramsUptoRow, standIns := [], harness := (true, "46bffd483fcad89c014ac085e6c0b82c1824110556d9dd912ac0e7f49bed1fdb"), looks := false }, kinds := [], alts := [], laidByText := true, laidKinds := [.data, .data, .data], laidTests := true, laidLooks := .later }
def TypesProgramsUptoCardSaid : Prop := Claim7.holds Tryz.pinned (.plain (OpenSpec.upto typesProgramsSpec)) typesProgramsUptoCard

/-- THE SECOND FORM's CARD OF 'dataenclavelaw17.TypesFiner'. -/
def typesFinerUptoCard : Claim7 := { stood := { row := typesFinerUptoRow, standIns := [], harness := (true, "46bffd483fcad89c014ac085e6c0b82c1824110556d9dd912ac0e7f49bed1fdb"), looks := false }, kinds := [], alts := [], laidByText := true, laidKinds := [.data, .data, .data], laidTests := true, laidLooks := .later }
def TypesFinerUptoCardSaid : Prop := Claim7.holds Tryz.pinned (.plain (OpenSpec.upto typesFinerSpec)) typesFinerUptoCard

/-- THE SECOND FORM's CARD OF 'dataenclavelaw17.TypesLeast'. -/
def typesLeastUptoCard : Claim7 := { stood := { row := typesLeastUptoRow, standIns := [], harness := (true, "46bffd483fcad89c014ac085e6c0b82c1824110556d9dd912ac0e7f49bed1fdb"), looks := false }, kinds := [], alts := [], laidByText := true, laidKinds := [.data, .data, .data], laidTests := true, laidLooks := .later }
def TypesLeastUptoCardSaid : Prop := Claim7.holds Tryz.pinned (.plain (OpenSpec.upto typesLeastSpec)) typesLeastUptoCard

/-- THE SECOND FORM's CARD OF 'dataenclavelaw17.TypesKinds'. -/
def typesKindsUptoCard : Claim7 := { stood := { row := typesKindsUptoRow, standIns := [], harness := (true, "46bffd483fcad89c014ac085e6c0b82c1824110556d9dd912ac0e7f49bed1fdb"), looks := false }, kinds := [], alts := [], laidByText := true, laidKinds := [.data, .data, .data], laidTests := true, laidLooks := .later }
def TypesKindsUptoCardSaid : Prop := Claim7.holds Tryz.pinned (.plain (OpenSpec.upto typesKindsSpec)) typesKindsUptoCard
end Rows
end Go.Proofs.YtleodngfheedbaaGreatDoor

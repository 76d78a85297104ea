/-
  DERIVED. GIVEN WITH THE SEED: THE CARDS: each row of YtiphlhoclaogjaaGreatDoorRows.lean that lists a variable, with what it lists TIED to the program's text (the seventh form; the later family's looks); each row that meets fmt, with fmt's text TOLD by the authors' own Lean function (tested against real Go, not proved from fmt's source: count such statements apart). THE CARD IS WHAT COUNTS. Prove the row's statement (the work); the ties are given (YtiphlhoclaogjaaGreatDoorTie.lean); close each card by the builder's one call (the guide's Derived/Test/ToyasCard.lean, 'card_holds'). Laid BY PROGRAM, IN A SANDBOX (cutbox-door.mjs). By AI agents, Wed Nov 11 2026. No macro, syntax, notation, axiom, sorry.
-/
import Derived.Test.YtiphlhoclaogjaaGreatDoorRows
import GoSem.ClaimSeven
namespace Go.Proofs.YtiphlhoclaogjaaGreatDoor
namespace Rows

/-- THE TIED CARD OF 'dataenclavelaw18.TabulateMakes'. -/
def tabulateMakesCard : Claim7 := { stood := { row := tabulateMakesRow, standIns := [], harness := (true, "2f8373bc257120c56fc5c5cfc279bb288feeab869fd175aedd88b98fe5e91d95"), looks := false }, kinds := [], alts := [], laidByText := true, laidKinds := [.data, .data, .data], laidTests := true, laidLooks := .later }
def TabulateMakesCardSaid : Prop := Claim7.holds Tryz.pinned (.plain (OpenSpec.ofChange tabulateMakesSpec)) tabulateMakesCard

/-- THE TIED CARD OF 'dataenclavelaw18.TabulateCounts'. -/
def tabulateCountsCard : Claim7 := { stood := { row := tabulateCountsRow, standIns := [], harness := (true, "2f8373bc257120c56fc5c5cfc279bb288feeab869fd175aedd88b98fe5e91d95"), looks := false }, kinds := [], alts := [], laidByText := true, laidKinds := [.data, .data, .data], laidTests := true, laidLooks := .later }
def TabulateCountsCardSaid : Prop := Claim7.holds Tryz.pinned (.plain (OpenSpec.ofChange tabulateCountsSpec)) tabulateCountsCard

/-- THE TIED CARD OF 'dataenclavelaw18.TabulateFinds'. -/
def tabulateFindsCard : Claim7 := { stood := { row := tabulateFindsRow, standIns := [], harness := (true, "2f8373bc257120c56fc5c5cfc279bb288feeab869fd175aedd88b98fe5e91d95"), looks := false }, kinds := [], alts := [], laidByText := true, laidKinds := [.data, .data, .data], laidTests := true, laidLooks := .later }
def TabulateFindsCardSaid : Prop := Claim7.holds Tryz.pinned (.plain (OpenSpec.ofChange tabulateFindsSpec)) tabulateFindsCard

/-- THE TIED CARD OF 'dataenclavelaw18.TabulateAdds'. -/
def tabulateAddsCard : Claim7 := { stood := { row := tabulateAddsRow, standIns := [], harness := (true, "2f8373bc257120c56fc5c5cfc279bb288feeab869fd175aedd88b98fe5e91d95"), looks := false }, kinds := [], alts := [], laidByText := true, laidKinds := [.data, .data, .data], laidTests := true, laidLooks := .later }
def TabulateAddsCardSaid : Prop := Claim7.holds Tryz.pinned (.plain (OpenSpec.ofChange tabulateAddsSpec)) tabulateAddsCard

/-- THE TIED CARD OF 'dataenclavelaw18.TabulateDivides'. -/
def tabulateDividesCard : Claim7 := { stood := { row := tabulateDividesRow, standIns := [], harness := (true, "2f8373bc257120c56fc5c5cfc279bb288feeab869fd175aedd88b98fe5e91d95"), looks := false }, kinds := [], alts := [], laidByText := true, laidKinds := [.data, .data, .data], laidTests := true, laidLooks := .later }
def TabulateDividesCardSaid : Prop := Claim7.holds Tryz.pinned (.plain (OpenSpec.ofChange tabulateDividesSpec)) tabulateDividesCard

/-- THE TIED CARD OF 'dataenclavelaw18.TabulateCoarser'. -/
def tabulateCoarserCard : Claim7 := { stood := { row := tabulateCoarserRow, standIns := [], harness := (true, "2f8373bc257120c56fc5c5cfc279bb288feeab869fd175aedd88b98fe5e91d95"), looks := false }, kinds := [], alts := [], laidByText := true, laidKinds := [.data, .data, .data], laidTests := true, laidLooks := .later }
def TabulateCoarserCardSaid : Prop := Claim7.holds Tryz.pinned (.plain (OpenSpec.ofChange tabulateCoarserSpec)) tabulateCoarserCard

/-- THE TIED CARD OF 'dataenclavelaw18.TabulateParts'. -/
def tabulatePartsCard : Claim7 := { stood := { row := tabulatePartsRow, standIns := [], harness := (true, "2f8373bc257120c56fc5c5cfc279bb288feeab869fd175aedd88b98fe5e91d95"), looks := false }, kinds := [], alts := [], laidByText := true, laidKinds := [.data, .data, .data], laidTests := true, laidLooks := .later }
def TabulatePartsCardSaid : Prop := Claim7.holds Tryz.pinned (.plain (OpenSpec.ofChange tabulatePartsSpec)) tabulatePartsCard

/-- THE TIED CARD OF 'dataenclavelaw18.TabulateDominates'. -/
def tabulateDominatesCard : Claim7 := { stood := { row := tabulateDominatesRow, standIns := [], harness := (true, "2f8373bc257120c56fc5c5cfc279bb288feeab869fd175aedd88b98fe5e91d95"), looks := false }, kinds := [], alts := [], laidByText := true, laidKinds := [.data, .data, .data], laidTests := true, laidLooks := .later }
def TabulateDominatesCardSaid : Prop := Claim7.holds Tryz.pinned (.plain (OpenSpec.ofChange tabulateDominatesSpec)) tabulateDominatesCard

/-- THE SECOND FORM's CARD OF 'dataenclavelaw18.TabulateMakes'. -/
def tabulateMakesUptoCard : Claim7 := { stood := { row := tabulateMakesUptoRow, standIns := [], harness := (true, "2f8373bc257120c56fc5c5cfc279bb288feeab869fd175aedd88b98fe5e91d95"), looks := false }, kinds := [], alts := [], laidByText := true, laidKinds := [.data, .data, .data], laidTests := true, laidLooks := .later }
def TabulateMakesUptoCardSaid : Prop := Claim7.holds Tryz.pinned (.plain (OpenSpec.upto tabulateMakesSpec)) tabulateMakesUptoCard

/-- THE SECOND FORM's CARD OF 'dataenclavelaw18.TabulateCounts'. -/
def tabulateCountsUptoCard : Claim7 := { stood := { row := tabulateCountsUptoRow, standIns := [], harness := (true, "2f8373bc257120c56fc5c5cfc279bb288feeab869fd175aedd88b98fe5e91d95"), looks := false }, kinds := [], alts := [], laidByText := true, laidKinds := [.data, .data, .data], laidTests := true, laidLooks := .later }
def TabulateCountsUptoCardSaid : Prop := Claim7.holds Tryz.pinned (.plain (OpenSpec.upto tabulateCountsSpec)) tabulateCountsUptoCard

/-- THE SECOND FORM's CARD OF 'dataenclavelaw18.TabulateFinds'. -/
def tabulateFindsUptoCard : Claim7 := { stood := { row := tabulateFindsUptoRow, standIns := [], harness := (true, "2f8373bc257120c56fc5c5cfc279bb288feeab869fd175aedd88b98fe5e91d95"), looks := false }, kinds := [], alts := [], laidByText := true, laidKinds := [.data, .data, .data], laidTests := true, laidLooks := .later }
def TabulateFindsUptoCardSaid : Prop := Claim7.holds Tryz.pinned (.plain (OpenSpec.upto tabulateFindsSpec)) tabulateFindsUptoCard

/-- THE SECOND FORM's CARD OF 'dataenclavelaw18.TabulateAdds'. -/
def tabulateAddsUptoCard : Claim7 := { stood := { row := tabulateAddsUptoRow, standIns := [], harness := (true, "2f8373bc257120c56fc5c5cfc279bb288feeab869fd175aedd88b98fe5e91d95"), looks := false }, kinds := [], alts := [], laidByText := true, laidKinds := [.data, .data, .data], laidTests := true, laidLooks := .later }
def TabulateAddsUptoCardSaid : Prop := Claim7.holds Tryz.pinned (.plain (OpenSpec.upto tabulateAddsSpec)) tabulateAddsUptoCard

/-- THE SECOND FORM's CARD OF 'dataenclavelaw18.TabulateDivides'. -/
def tabulateDividesUptoCard : Claim7 := { stood := { row := tabulateDividesUptoRow, standIns := [], harness := (true, "2f8373bc257120c56fc5c5cfc279bb288feeab869fd175aedd88b98fe5e91d95"), looks := false }, kinds := [], alts := [], laidByText := true, laidKinds := [.data, .data, .data], laidTests := true, laidLooks := .later }
def TabulateDividesUptoCardSaid : Prop := Claim7.holds Tryz.pinned (.plain (OpenSpec.upto tabulateDividesSpec)) tabulateDividesUptoCard

/-- THE SECOND FORM's CARD OF 'dataenclavelaw18.TabulateCoarser'. -/
def tabulateCoarserUptoCard : Claim7 := { stood := { row := tabulateCoarserUptoRow, standIns := [], harness := (true, "2f8373bc257120c56fc5c5cfc279bb288feeab869fd175aedd88b98fe5e91d95"), looks := false }, kinds := [], alts := [], laidByText := true, laidKinds := [.data, .data, .data], laidTests := true, laidLooks := .later }
def TabulateCoarserUptoCardSaid : Prop := Claim7.holds Tryz.pinned (.plain (OpenSpec.upto tabulateCoarserSpec)) tabulateCoarserUptoCard

/-- THE SECOND FORM's CARD OF 'dataenclavelaw18.TabulateParts'. -/
def tabulatePartsUptoCard : Claim7 := { stood := { row := tabulatePartsUptoRow, standIns := [], harness := (true, "2f8373bc257120c56fc5c5cfc279bb288feeab869fd175aedd88b98fe5e91d95"), looks := false }, kinds := [], alts := [], laidByText := true, laidKinds := [.data, .data, .data], laidTests := true, laidLooks := .later }
def TabulatePartsUptoCardSaid : Prop := Claim7.holds Tryz.pinned (.plain (OpenSpec.upto tabulatePartsSpec)) tabulatePartsUptoCard

/-- THE SECOND FORM's CARD OF 'dataenclavelaw18.TabulateDominates'. -/
def tabulateDominatesUptoCard : Claim7 := { stood := { row := tabulateDominatesUptoRow, standIns := [], harness := (true, "2f8373bc257120c56fc5c5cfc279bb288feeab869fd175aedd88b98fe5e91d95"), looks := false }, kinds := [], alts := [], laidByText := true, laidKinds := [.data, .data, .data], laidTests := true, laidLooks := .later }
def TabulateDominatesUptoCardSaid : Prop := Claim7.holds Tryz.pinned (.plain (OpenSpec.upto tabulateDominatesSpec)) tabulateDominatesUptoCard
end Rows
end Go.Proofs.YtiphlhoclaogjaaGreatDoor

/-
  DERIVED. GIVEN WITH THE SEED: THE CARDS: each row of YtjkbhaaobhgkdabGreatDoorRows.lean that lists a variable, with what it lists TIED to the program's text (the seventh form; the later family's looks); each row that meets fmt, with fmt's text TOLD by the authors' own Lean function (tested against real Go, not proved from fmt's source: count such statements apart). THE CARD IS WHAT COUNTS. Prove the row's statement (the work); the ties are given (YtjkbhaaobhgkdabGreatDoorTie.lean); close each card by the builder's one call (the guide's Derived/Test/ToyasCard.lean, 'card_holds'). Laid BY PROGRAM, IN A SANDBOX (cutbox-door.mjs). By AI agents, Wed Nov 11 2026. No macro, syntax, notation, axiom, sorry.
-/
import Derived.Test.YtjkbhaaobhgkdabGreatDoorRows
import GoSem.ClaimSeven
namespace Go.Proofs.YtjkbhaaobhgkdabGreatDoor
namespace Rows

/-- THE TIED CARD OF 'dataenclavelaw18.TabulateAdds'. -/
def tabulateAddsCard : Claim7 := { stood := { row := tabulateAddsRow, standIns := [], harness := (true, "5cbdf12ad5b04a2a14e67690bc9ac6904e8560eef0e98d8a8ab3f44542ae3ea1"), looks := false }, kinds := [], alts := [], laidByText := true, laidKinds := [.data, .data, .data], laidTests := true, laidLooks := .later }
def TabulateAddsCardSaid : Prop := Claim7.holds Tryz.pinned (.plain (OpenSpec.ofChange tabulateAddsSpec)) tabulateAddsCard

/-- THE SECOND FORM's CARD OF 'dataenclavelaw18.TabulateAdds'. -/
def tabulateAddsUptoCard : Claim7 := { stood := { row := tabulateAddsUptoRow, standIns := [], harness := (true, "5cbdf12ad5b04a2a14e67690bc9ac6904e8560eef0e98d8a8ab3f44542ae3ea1"), looks := false }, kinds := [], alts := [], laidByText := true, laidKinds := [.data, .data, .data], laidTests := true, laidLooks := .later }
def TabulateAddsUptoCardSaid : Prop := Claim7.holds Tryz.pinned (.plain (OpenSpec.upto tabulateAddsSpec)) tabulateAddsUptoCard
end Rows
end Go.Proofs.YtjkbhaaobhgkdabGreatDoor

/-
  DERIVED. GIVEN WITH THE SEED: THE CARDS: each row of YtbhegmcbpolemaaDoorRows.lean that lists a variable, with what it lists TIED to the program's text (the seventh form; the later family's looks); each row that meets fmt, with fmt's text TOLD by the authors' own Lean function (tested against real Go, not proved from fmt's source: count such statements apart). THE CARD IS WHAT COUNTS. Prove the row's statement (the work); the ties are given (YtbhegmcbpolemaaDoorTie.lean); close each card by the builder's one call (the guide's Derived/Test/ToyasCard.lean, 'card_holds'). Laid BY PROGRAM, IN A SANDBOX (cutbox-door.mjs). By AI agents, Wed Nov 11 2026. No macro, syntax, notation, axiom, sorry.
-/
import Derived.Test.YtbhegmcbpolemaaDoorRows
import GoSem.ClaimSeven
namespace Go.Proofs.YtbhegmcbpolemaaDoor
namespace Rows

/-- THE TIED CARD OF 'dataenclavelaw19.RegressExact'. -/
def regressExactCard : Claim7 := { stood := { row := regressExactRow, standIns := [], harness := (true, "849ba2f0f655f935182bab5dded498c8c48a0d5d6f36a63ce0c11fb894b4a42c"), looks := false }, kinds := [], alts := [], laidByText := true, laidKinds := [.data], laidTests := true, laidLooks := .later }
def RegressExactCardSaid : Prop := Claim7.holds Tryd.pinned (.plain (OpenSpec.ofChange regressExactSpec)) regressExactCard

/-- THE TIED CARD OF 'dataenclavelaw19.RegressFits'. -/
def regressFitsCard : Claim7 := { stood := { row := regressFitsRow, standIns := [], harness := (true, "849ba2f0f655f935182bab5dded498c8c48a0d5d6f36a63ce0c11fb894b4a42c"), looks := false }, kinds := [], alts := [], laidByText := true, laidKinds := [.data], laidTests := true, laidLooks := .later }
def RegressFitsCardSaid : Prop := Claim7.holds Tryd.pinned (.plain (OpenSpec.ofChange regressFitsSpec)) regressFitsCard

/-- THE TIED CARD OF 'dataenclavelaw19.RegressMoves'. -/
def regressMovesCard : Claim7 := { stood := { row := regressMovesRow, standIns := [], harness := (true, "849ba2f0f655f935182bab5dded498c8c48a0d5d6f36a63ce0c11fb894b4a42c"), looks := false }, kinds := [], alts := [], laidByText := true, laidKinds := [.data], laidTests := true, laidLooks := .later }
def RegressMovesCardSaid : Prop := Claim7.holds Tryd.pinned (.plain (OpenSpec.ofChange regressMovesSpec)) regressMovesCard

/-- THE TIED CARD OF 'dataenclavelaw19.RegressBalances'. -/
def regressBalancesCard : Claim7 := { stood := { row := regressBalancesRow, standIns := [], harness := (true, "849ba2f0f655f935182bab5dded498c8c48a0d5d6f36a63ce0c11fb894b4a42c"), looks := false }, kinds := [], alts := [], laidByText := true, laidKinds := [.data], laidTests := true, laidLooks := .later }
def RegressBalancesCardSaid : Prop := Claim7.holds Tryd.pinned (.plain (OpenSpec.ofChange regressBalancesSpec)) regressBalancesCard

/-- THE SECOND FORM's CARD OF 'dataenclavelaw19.RegressExact'. -/
def regressExactUptoCard : Claim7 := { stood := { row := regressExactUptoRow, standIns := [], harness := (true, "849ba2f0f655f935182bab5dded498c8c48a0d5d6f36a63ce0c11fb894b4a42c"), looks := false }, kinds := [], alts := [], laidByText := true, laidKinds := [.data], laidTests := true, laidLooks := .later }
def RegressExactUptoCardSaid : Prop := Claim7.holds Tryd.pinned (.plain (OpenSpec.upto regressExactSpec)) regressExactUptoCard

/-- THE SECOND FORM's CARD OF 'dataenclavelaw19.RegressFits'. -/
def regressFitsUptoCard : Claim7 := { stood := { row := regressFitsUptoRow, standIns := [], harness := (true, "849ba2f0f655f935182bab5dded498c8c48a0d5d6f36a63ce0c11fb894b4a42c"), looks := false }, kinds := [], alts := [], laidByText := true, laidKinds := [.data], laidTests := true, laidLooks := .later }
def RegressFitsUptoCardSaid : Prop := Claim7.holds Tryd.pinned (.plain (OpenSpec.upto regressFitsSpec)) regressFitsUptoCard

/-- THE SECOND FORM's CARD OF 'dataenclavelaw19.RegressMoves'. -/
def regressMovesUptoCard : Claim7 := { stood := { row := regressMovesUptoRow, standIns := [], harness := (true, "849ba2f0f655f935182bab5dded498c8c48a0d5d6f36a63ce0c11fb894b4a42c"), looks := false }, kinds := [], alts := [], laidByText := true, laidKinds := [.data], laidTests := true, laidLooks := .later }
def RegressMovesUptoCardSaid : Prop := Claim7.holds Tryd.pinned (.plain (OpenSpec.upto regressMovesSpec)) regressMovesUptoCard

/-- THE SECOND FORM's CARD OF 'dataenclavelaw19.RegressBalances'. -/
def regressBalancesUptoCard : Claim7 := { stood := { row := regressBalancesUptoRow, standIns := [], harness := (true, "849ba2f0f655f935182bab5dded498c8c48a0d5d6f36a63ce0c11fb894b4a42c"), looks := false }, kinds := [], alts := [], laidByText := true, laidKinds := [.data], laidTests := true, laidLooks := .later }
def RegressBalancesUptoCardSaid : Prop := Claim7.holds Tryd.pinned (.plain (OpenSpec.upto regressBalancesSpec)) regressBalancesUptoCard
end Rows
end Go.Proofs.YtbhegmcbpolemaaDoor

/-
  DERIVED. GIVEN WITH THE SEED: THE CARDS: each row of YtmiaihoallkjfaaDoorRows.lean that lists a variable, with what it lists TIED to the program's text (the seventh form; the later family's looks); each row that meets fmt, with fmt's text TOLD by the authors' own Lean function (tested against real Go, not proved from fmt's source: count such statements apart). THE CARD IS WHAT COUNTS. Prove the row's statement (the work); the ties are given (YtmiaihoallkjfaaDoorTie.lean); close each card by the builder's one call (the guide's Derived/Test/ToyasCard.lean, 'card_holds'). Laid BY PROGRAM, IN A SANDBOX (cutbox-door.mjs). By AI agents, Wed Nov 11 2026. No macro, syntax, notation, axiom, sorry.
-/
import Derived.Test.YtmiaihoallkjfaaDoorRows
import GoSem.ClaimSeven
namespace Go.Proofs.YtmiaihoallkjfaaDoor
namespace Rows

/-- THE TIED CARD OF 'dataenclavelaw01.CodesParents'. -/
def codesParentsCard : Claim7 := { stood := { row := codesParentsRow, standIns := [], harness := (true, "088dbe20d1859f99d0acbd298dfa0878f36eb70754f1a354c37c5eb24163532a"), looks := false }, kinds := [], alts := [], laidByText := true, laidKinds := [.data, .data, .data], laidTests := true, laidLooks := .later }
def CodesParentsCardSaid : Prop := Claim7.holds Tryd.pinned (.plain (OpenSpec.ofChange codesParentsSpec)) codesParentsCard

/-- THE TIED CARD OF 'dataenclavelaw19.RegressExact'. -/
def regressExactCard : Claim7 := { stood := { row := regressExactRow, standIns := [], harness := (true, "088dbe20d1859f99d0acbd298dfa0878f36eb70754f1a354c37c5eb24163532a"), looks := false }, kinds := [], alts := [], laidByText := true, laidKinds := [.data], laidTests := true, laidLooks := .later }
def RegressExactCardSaid : Prop := Claim7.holds Tryd.pinned (.plain (OpenSpec.ofChange regressExactSpec)) regressExactCard

/-- THE TIED CARD OF 'dataenclavelaw19.RegressFits'. -/
def regressFitsCard : Claim7 := { stood := { row := regressFitsRow, standIns := [], harness := (true, "088dbe20d1859f99d0acbd298dfa0878f36eb70754f1a354c37c5eb24163532a"), looks := false }, kinds := [], alts := [], laidByText := true, laidKinds := [.data], laidTests := true, laidLooks := .later }
def RegressFitsCardSaid : Prop := Claim7.holds Tryd.pinned (.plain (OpenSpec.ofChange regressFitsSpec)) regressFitsCard

/-- THE TIED CARD OF 'dataenclavelaw19.RegressMoves'. -/
def regressMovesCard : Claim7 := { stood := { row := regressMovesRow, standIns := [], harness := (true, "088dbe20d1859f99d0acbd298dfa0878f36eb70754f1a354c37c5eb24163532a"), looks := false }, kinds := [], alts := [], laidByText := true, laidKinds := [.data], laidTests := true, laidLooks := .later }
def RegressMovesCardSaid : Prop := Claim7.holds Tryd.pinned (.plain (OpenSpec.ofChange regressMovesSpec)) regressMovesCard

/-- THE TIED CARD OF 'dataenclavelaw19.RegressBalances'. -/
def regressBalancesCard : Claim7 := { stood := { row := regressBalancesRow, standIns := [], harness := (true, "088dbe20d1859f99d0acbd298dfa0878f36eb70754f1a354c37c5eb24163532a"), looks := false }, kinds := [], alts := [], laidByText := true, laidKinds := [.data], laidTests := true, laidLooks := .later }
def RegressBalancesCardSaid : Prop := Claim7.holds Tryd.pinned (.plain (OpenSpec.ofChange regressBalancesSpec)) regressBalancesCard

/-- THE TIED CARD OF 'dataenclavelaw02.SchemaCoarsens'. -/
def schemaCoarsensCard : Claim7 := { stood := { row := schemaCoarsensRow, standIns := [], harness := (true, "088dbe20d1859f99d0acbd298dfa0878f36eb70754f1a354c37c5eb24163532a"), looks := false }, kinds := [], alts := [], laidByText := true, laidKinds := [.data, .data, .data], laidTests := true, laidLooks := .later }
def SchemaCoarsensCardSaid : Prop := Claim7.holds Tryd.pinned (.plain (OpenSpec.ofChange schemaCoarsensSpec)) schemaCoarsensCard

/-- THE TIED CARD OF 'dataenclavelaw02.SchemaChain'. -/
def schemaChainCard : Claim7 := { stood := { row := schemaChainRow, standIns := [], harness := (true, "088dbe20d1859f99d0acbd298dfa0878f36eb70754f1a354c37c5eb24163532a"), looks := false }, kinds := [], alts := [], laidByText := true, laidKinds := [.data, .data, .data], laidTests := true, laidLooks := .later }
def SchemaChainCardSaid : Prop := Claim7.holds Tryd.pinned (.plain (OpenSpec.ofChange schemaChainSpec)) schemaChainCard

/-- THE TIED CARD OF 'dataenclavelaw02.SchemaLeast'. -/
def schemaLeastCard : Claim7 := { stood := { row := schemaLeastRow, standIns := [], harness := (true, "088dbe20d1859f99d0acbd298dfa0878f36eb70754f1a354c37c5eb24163532a"), looks := false }, kinds := [], alts := [], laidByText := true, laidKinds := [.data, .data, .data], laidTests := true, laidLooks := .later }
def SchemaLeastCardSaid : Prop := Claim7.holds Tryd.pinned (.plain (OpenSpec.ofChange schemaLeastSpec)) schemaLeastCard

/-- THE TIED CARD OF 'dataenclavelaw02.SchemaChecks'. -/
def schemaChecksCard : Claim7 := { stood := { row := schemaChecksRow, standIns := [], harness := (true, "088dbe20d1859f99d0acbd298dfa0878f36eb70754f1a354c37c5eb24163532a"), looks := false }, kinds := [], alts := [], laidByText := true, laidKinds := [.data, .data, .data], laidTests := true, laidLooks := .later }
def SchemaChecksCardSaid : Prop := Claim7.holds Tryd.pinned (.plain (OpenSpec.ofChange schemaChecksSpec)) schemaChecksCard

/-- THE TIED CARD OF 'dataenclavelaw02.SchemaPicks'. -/
def schemaPicksCard : Claim7 := { stood := { row := schemaPicksRow, standIns := [], harness := (true, "088dbe20d1859f99d0acbd298dfa0878f36eb70754f1a354c37c5eb24163532a"), looks := false }, kinds := [], alts := [], laidByText := true, laidKinds := [.data, .data, .data], laidTests := true, laidLooks := .later }
def SchemaPicksCardSaid : Prop := Claim7.holds Tryd.pinned (.plain (OpenSpec.ofChange schemaPicksSpec)) schemaPicksCard

/-- THE SECOND FORM's CARD OF 'dataenclavelaw01.CodesParents'. -/
def codesParentsUptoCard : Claim7 := { stood := { row := codesParentsUptoRow, standIns := [], harness := (true, "088dbe20d1859f99d0acbd298dfa0878f36eb70754f1a354c37c5eb24163532a"), looks := false }, kinds := [], alts := [], laidByText := true, laidKinds := [.data, .data, .data], laidTests := true, laidLooks := .later }
def CodesParentsUptoCardSaid : Prop := Claim7.holds Tryd.pinned (.plain (OpenSpec.upto codesParentsSpec)) codesParentsUptoCard

/-- THE SECOND FORM's CARD OF 'dataenclavelaw19.RegressExact'. -/
def regressExactUptoCard : Claim7 := { stood := { row := regressExactUptoRow, standIns := [], harness := (true, "088dbe20d1859f99d0acbd298dfa0878f36eb70754f1a354c37c5eb24163532a"), looks := false }, kinds := [], alts := [], laidByText := true, laidKinds := [.data], laidTests := true, laidLooks := .later }
def RegressExactUptoCardSaid : Prop := Claim7.holds Tryd.pinned (.plain (OpenSpec.upto regressExactSpec)) regressExactUptoCard

/-- THE SECOND FORM's CARD OF 'dataenclavelaw19.RegressFits'. -/
def regressFitsUptoCard : Claim7 := { stood := { row := regressFitsUptoRow, standIns := [], harness := (true, "088dbe20d1859f99d0acbd298dfa0878f36eb70754f1a354c37c5eb24163532a"), looks := false }, kinds := [], alts := [], laidByText := true, laidKinds := [.data], laidTests := true, laidLooks := .later }
def RegressFitsUptoCardSaid : Prop := Claim7.holds Tryd.pinned (.plain (OpenSpec.upto regressFitsSpec)) regressFitsUptoCard

/-- THE SECOND FORM's CARD OF 'dataenclavelaw19.RegressMoves'. -/
def regressMovesUptoCard : Claim7 := { stood := { row := regressMovesUptoRow, standIns := [], harness := (true, "088dbe20d1859f99d0acbd298dfa0878f36eb70754f1a354c37c5eb24163532a"), looks := false }, kinds := [], alts := [], laidByText := true, laidKinds := [.data], laidTests := true, laidLooks := .later }
def RegressMovesUptoCardSaid : Prop := Claim7.holds Tryd.pinned (.plain (OpenSpec.upto regressMovesSpec)) regressMovesUptoCard

/-- THE SECOND FORM's CARD OF 'dataenclavelaw19.RegressBalances'. -/
def regressBalancesUptoCard : Claim7 := { stood := { row := regressBalancesUptoRow, standIns := [], harness := (true, "088dbe20d1859f99d0acbd298dfa0878f36eb70754f1a354c37c5eb24163532a"), looks := false }, kinds := [], alts := [], laidByText := true, laidKinds := [.data], laidTests := true, laidLooks := .later }
def RegressBalancesUptoCardSaid : Prop := Claim7.holds Tryd.pinned (.plain (OpenSpec.upto regressBalancesSpec)) regressBalancesUptoCard

/-- THE SECOND FORM's CARD OF 'dataenclavelaw02.SchemaCoarsens'. -/
def schemaCoarsensUptoCard : Claim7 := { stood := { row := schemaCoarsensUptoRow, standIns := [], harness := (true, "088dbe20d1859f99d0acbd298dfa0878f36eb70754f1a354c37c5eb24163532a"), looks := false }, kinds := [], alts := [], laidByText := true, laidKinds := [.data, .data, .data], laidTests := true, laidLooks := .later }
def SchemaCoarsensUptoCardSaid : Prop := Claim7.holds Tryd.pinned (.plain (OpenSpec.upto schemaCoarsensSpec)) schemaCoarsensUptoCard

/-- THE SECOND FORM's CARD OF 'dataenclavelaw02.SchemaChain'. -/
def schemaChainUptoCard : Claim7 := { stood := { row := schemaChainUptoRow, standIns := [], harness := (true, "088dbe20d1859f99d0acbd298dfa0878f36eb70754f1a354c37c5eb24163532a"), looks := false }, kinds := [], alts := [], laidByText := true, laidKinds := [.data, .data, .data], laidTests := true, laidLooks := .later }
def SchemaChainUptoCardSaid : Prop := Claim7.holds Tryd.pinned (.plain (OpenSpec.upto schemaChainSpec)) schemaChainUptoCard

/-- THE SECOND FORM's CARD OF 'dataenclavelaw02.SchemaLeast'. -/
def schemaLeastUptoCard : Claim7 := { stood := { row := schemaLeastUptoRow, standIns := [], harness := (true, "088dbe20d1859f99d0acbd298dfa0878f36eb70754f1a354c37c5eb24163532a"), looks := false }, kinds := [], alts := [], laidByText := true, laidKinds := [.data, .data, .data], laidTests := true, laidLooks := .later }
def SchemaLeastUptoCardSaid : Prop := Claim7.holds Tryd.pinned (.plain (OpenSpec.upto schemaLeastSpec)) schemaLeastUptoCard

/-- THE SECOND FORM's CARD OF 'dataenclavelaw02.SchemaChecks'. -/
def schemaChecksUptoCard : Claim7 := { stood := { row := schemaChecksUptoRow, standIns := [], harness := (true, "088dbe20d1859f99d0acbd298dfa0878f36eb70754f1a354c37c5eb24163532a"), looks := false }, kinds := [], alts := [], laidByText := true, laidKinds := [.data, .data, .data], laidTests := true, laidLooks := .later }
def SchemaChecksUptoCardSaid : Prop := Claim7.holds Tryd.pinned (.plain (OpenSpec.upto schemaChecksSpec)) schemaChecksUptoCard

/-- THE SECOND FORM's CARD OF 'dataenclavelaw02.SchemaPicks'. -/
def schemaPicksUptoCard : Claim7 := { stood := { row := schemaPicksUptoRow, standIns := [], harness := (true, "088dbe20d1859f99d0acbd298dfa0878f36eb70754f1a354c37c5eb24163532a"), looks := false }, kinds := [], alts := [], laidByText := true, laidKinds := [.data, .data, .data], laidTests := true, laidLooks := .later }
def SchemaPicksUptoCardSaid : Prop := Claim7.holds Tryd.pinned (.plain (OpenSpec.upto schemaPicksSpec)) schemaPicksUptoCard
end Rows
end Go.Proofs.YtmiaihoallkjfaaDoor

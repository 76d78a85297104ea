/-
  DERIVED. GIVEN WITH THE SEED: THE CARDS: each row of YtmmogjdkoghjoaaDoorRows.lean that lists a variable, with what it lists TIED to the program's text (the seventh form; the later family's looks); each row that meets fmt, with fmt's text TOLD by the authors' own Lean function (tested against real Go, not proved from fmt's source: count such statements apart). THE CARD IS WHAT COUNTS. Prove the row's statement (the work); the ties are given (YtmmogjdkoghjoaaDoorTie.lean); close each card by the builder's one call (the guide's Derived/Test/ToyasCard.lean, 'card_holds'). Laid BY PROGRAM, IN A SANDBOX (cutbox-door.mjs). By AI agents, Wed Nov 11 2026. No macro, syntax, notation, axiom, sorry.
-/
import Derived.Test.YtmmogjdkoghjoaaDoorRows
import GoSem.ClaimSeven
namespace Go.Proofs.YtmmogjdkoghjoaaDoor
namespace Rows

/-- THE TIED CARD OF 'dataenclavelaw01.CodesChecks'. -/
def codesChecksCard : Claim7 := { stood := { row := codesChecksRow, standIns := [], harness := (true, "1109b608be7472e81d1a03740059395e8219d39c451a577f44833d17087f19bb"), looks := false }, kinds := [], alts := [], laidByText := true, laidKinds := [.data, .data, .data], laidTests := true, laidLooks := .later }
def CodesChecksCardSaid : Prop := Claim7.holds Tryd.pinned (.plain (OpenSpec.ofChange codesChecksSpec)) codesChecksCard

/-- THE TIED CARD OF 'dataenclavelaw01.CodesDivide'. -/
def codesDivideCard : Claim7 := { stood := { row := codesDivideRow, standIns := [], harness := (true, "1109b608be7472e81d1a03740059395e8219d39c451a577f44833d17087f19bb"), looks := false }, kinds := [], alts := [], laidByText := true, laidKinds := [.data, .data, .data], laidTests := true, laidLooks := .later }
def CodesDivideCardSaid : Prop := Claim7.holds Tryd.pinned (.plain (OpenSpec.ofChange codesDivideSpec)) codesDivideCard

/-- THE TIED CARD OF 'dataenclavelaw01.CodesLooks'. -/
def codesLooksCard : Claim7 := { stood := { row := codesLooksRow, standIns := [], harness := (true, "1109b608be7472e81d1a03740059395e8219d39c451a577f44833d17087f19bb"), looks := false }, kinds := [], alts := [], laidByText := true, laidKinds := [.data, .data, .data], laidTests := true, laidLooks := .later }
def CodesLooksCardSaid : Prop := Claim7.holds Tryd.pinned (.plain (OpenSpec.ofChange codesLooksSpec)) codesLooksCard

/-- THE TIED CARD OF 'dataenclavelaw01.CodesClimb'. -/
def codesClimbCard : Claim7 := { stood := { row := codesClimbRow, standIns := [], harness := (true, "1109b608be7472e81d1a03740059395e8219d39c451a577f44833d17087f19bb"), looks := false }, kinds := [], alts := [], laidByText := true, laidKinds := [.data, .data, .data], laidTests := true, laidLooks := .later }
def CodesClimbCardSaid : Prop := Claim7.holds Tryd.pinned (.plain (OpenSpec.ofChange codesClimbSpec)) codesClimbCard

/-- THE TIED CARD OF 'dataenclavelaw01.CodesParents'. -/
def codesParentsCard : Claim7 := { stood := { row := codesParentsRow, standIns := [], harness := (true, "1109b608be7472e81d1a03740059395e8219d39c451a577f44833d17087f19bb"), looks := false }, kinds := [], alts := [], laidByText := true, laidKinds := [.data, .data, .data], laidTests := true, laidLooks := .later }
def CodesParentsCardSaid : Prop := Claim7.holds Tryd.pinned (.plain (OpenSpec.ofChange codesParentsSpec)) codesParentsCard

/-- THE SECOND FORM's CARD OF 'dataenclavelaw01.CodesChecks'. -/
def codesChecksUptoCard : Claim7 := { stood := { row := codesChecksUptoRow, standIns := [], harness := (true, "1109b608be7472e81d1a03740059395e8219d39c451a577f44833d17087f19bb"), looks := false }, kinds := [], alts := [], laidByText := true, laidKinds := [.data, .data, .data], laidTests := true, laidLooks := .later }
def CodesChecksUptoCardSaid : Prop := Claim7.holds Tryd.pinned (.plain (OpenSpec.upto codesChecksSpec)) codesChecksUptoCard

/-- THE SECOND FORM's CARD OF 'dataenclavelaw01.CodesDivide'. -/
def codesDivideUptoCard : Claim7 := { stood := { row := codesDivideUptoRow, standIns := [], harness := (true, "1109b608be7472e81d1a03740059395e8219d39c451a577f44833d17087f19bb"), looks := false }, kinds := [], alts := [], laidByText := true, laidKinds := [.data, .data, .data], laidTests := true, laidLooks := .later }
def CodesDivideUptoCardSaid : Prop := Claim7.holds Tryd.pinned (.plain (OpenSpec.upto codesDivideSpec)) codesDivideUptoCard

/-- THE SECOND FORM's CARD OF 'dataenclavelaw01.CodesLooks'. -/
def codesLooksUptoCard : Claim7 := { stood := { row := codesLooksUptoRow, standIns := [], harness := (true, "1109b608be7472e81d1a03740059395e8219d39c451a577f44833d17087f19bb"), looks := false }, kinds := [], alts := [], laidByText := true, laidKinds := [.data, .data, .data], laidTests := true, laidLooks := .later }
def CodesLooksUptoCardSaid : Prop := Claim7.holds Tryd.pinned (.plain (OpenSpec.upto codesLooksSpec)) codesLooksUptoCard

/-- THE SECOND FORM's CARD OF 'dataenclavelaw01.CodesClimb'. -/
def codesClimbUptoCard : Claim7 := { stood := { row := codesClimbUptoRow, standIns := [], harness := (true, "1109b608be7472e81d1a03740059395e8219d39c451a577f44833d17087f19bb"), looks := false }, kinds := [], alts := [], laidByText := true, laidKinds := [.data, .data, .data], laidTests := true, laidLooks := .later }
def CodesClimbUptoCardSaid : Prop := Claim7.holds Tryd.pinned (.plain (OpenSpec.upto codesClimbSpec)) codesClimbUptoCard

/-- THE SECOND FORM's CARD OF 'dataenclavelaw01.CodesParents'. -/
def codesParentsUptoCard : Claim7 := { stood := { row := codesParentsUptoRow, standIns := [], harness := (true, "1109b608be7472e81d1a03740059395e8219d39c451a577f44833d17087f19bb"), looks := false }, kinds := [], alts := [], laidByText := true, laidKinds := [.data, .data, .data], laidTests := true, laidLooks := .later }
def CodesParentsUptoCardSaid : Prop := Claim7.holds Tryd.pinned (.plain (OpenSpec.upto codesParentsSpec)) codesParentsUptoCard
end Rows
end Go.Proofs.YtmmogjdkoghjoaaDoor

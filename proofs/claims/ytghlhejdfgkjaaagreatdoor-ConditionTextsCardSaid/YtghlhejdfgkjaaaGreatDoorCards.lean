/-
  DERIVED. GIVEN WITH THE SEED: THE CARDS: each row of YtghlhejdfgkjaaaGreatDoorRows.lean that lists a variable, with what it lists TIED to the program's text (the seventh form; the later family's looks); each row that meets fmt, with fmt's text TOLD by the authors' own Lean function (tested against real Go, not proved from fmt's source: count such statements apart). THE CARD IS WHAT COUNTS. Prove the row's statement (the work); the ties are given (YtghlhejdfgkjaaaGreatDoorTie.lean); close each card by the builder's one call (the guide's Derived/Test/ToyasCard.lean, 'card_holds'). Laid BY PROGRAM, IN A SANDBOX (cutbox-door.mjs). By AI agents, Wed Nov 11 2026. No macro, syntax, notation, axiom, sorry.
-/
import Derived.Test.YtghlhejdfgkjaaaGreatDoorRows
import GoSem.ClaimSeven
namespace Go.Proofs.YtghlhejdfgkjaaaGreatDoor
namespace Rows

/-- THE TIED CARD OF 'dataenclavelaw05.ConditionChecks'. -/
def conditionChecksCard : Claim7 := { stood := { row := conditionChecksRow, standIns := [], harness := (true, "7227da9f0ce3a7c48bd679461b063896f831e7266e20cb073124aaaade019390"), looks := true }, kinds := [], alts := [], laidByText := true, laidKinds := [.data, .data, .data, .sentinel, .sentinel], laidTests := true, laidLooks := .later }
def ConditionChecksCardSaid : Prop := Claim7.holds Tryz.pinned (.plain (OpenSpec.ofChange conditionChecksSpec)) conditionChecksCard

/-- THE TIED CARD OF 'dataenclavelaw05.ConditionNeeds'. -/
def conditionNeedsCard : Claim7 := { stood := { row := conditionNeedsRow, standIns := [], harness := (true, "7227da9f0ce3a7c48bd679461b063896f831e7266e20cb073124aaaade019390"), looks := true }, kinds := [], alts := [], laidByText := true, laidKinds := [.data, .data, .data, .sentinel, .sentinel], laidTests := true, laidLooks := .later }
def ConditionNeedsCardSaid : Prop := Claim7.holds Tryz.pinned (.plain (OpenSpec.ofChange conditionNeedsSpec)) conditionNeedsCard

/-- THE TIED CARD OF 'dataenclavelaw05.ConditionBack'. -/
def conditionBackCard : Claim7 := { stood := { row := conditionBackRow, standIns := [], harness := (true, "7227da9f0ce3a7c48bd679461b063896f831e7266e20cb073124aaaade019390"), looks := true }, kinds := [], alts := [], laidByText := true, laidKinds := [.data, .data, .data, .sentinel, .sentinel], laidTests := true, laidLooks := .later }
def ConditionBackCardSaid : Prop := Claim7.holds Tryz.pinned (.plain (OpenSpec.ofChange conditionBackSpec)) conditionBackCard

/-- THE TIED CARD OF 'dataenclavelaw05.ConditionKnown'. -/
def conditionKnownCard : Claim7 := { stood := { row := conditionKnownRow, standIns := [], harness := (true, "7227da9f0ce3a7c48bd679461b063896f831e7266e20cb073124aaaade019390"), looks := true }, kinds := [], alts := [], laidByText := true, laidKinds := [.data, .data, .data, .sentinel, .sentinel], laidTests := true, laidLooks := .later }
def ConditionKnownCardSaid : Prop := Claim7.holds Tryz.pinned (.plain (OpenSpec.ofChange conditionKnownSpec)) conditionKnownCard

/-- THE TIED CARD OF 'dataenclavelaw05.ConditionLeast'. -/
def conditionLeastCard : Claim7 := { stood := { row := conditionLeastRow, standIns := [], harness := (true, "7227da9f0ce3a7c48bd679461b063896f831e7266e20cb073124aaaade019390"), looks := true }, kinds := [], alts := [], laidByText := true, laidKinds := [.data, .data, .data, .sentinel, .sentinel], laidTests := true, laidLooks := .later }
def ConditionLeastCardSaid : Prop := Claim7.holds Tryz.pinned (.plain (OpenSpec.ofChange conditionLeastSpec)) conditionLeastCard

/-- THE TIED CARD OF 'dataenclavelaw05.ConditionLogic'. -/
def conditionLogicCard : Claim7 := { stood := { row := conditionLogicRow, standIns := [], harness := (true, "7227da9f0ce3a7c48bd679461b063896f831e7266e20cb073124aaaade019390"), looks := true }, kinds := [], alts := [], laidByText := true, laidKinds := [.data, .data, .data, .sentinel, .sentinel], laidTests := true, laidLooks := .later }
def ConditionLogicCardSaid : Prop := Claim7.holds Tryz.pinned (.plain (OpenSpec.ofChange conditionLogicSpec)) conditionLogicCard

/-- THE TIED CARD OF 'dataenclavelaw05.ConditionJoins'. -/
def conditionJoinsCard : Claim7 := { stood := { row := conditionJoinsRow, standIns := [], harness := (true, "7227da9f0ce3a7c48bd679461b063896f831e7266e20cb073124aaaade019390"), looks := true }, kinds := [], alts := [], laidByText := true, laidKinds := [.data, .data, .data, .sentinel, .sentinel], laidTests := true, laidLooks := .later }
def ConditionJoinsCardSaid : Prop := Claim7.holds Tryz.pinned (.plain (OpenSpec.ofChange conditionJoinsSpec)) conditionJoinsCard

/-- THE TIED CARD OF 'dataenclavelaw05.ConditionTexts'. -/
def conditionTextsCard : Claim7 := { stood := { row := conditionTextsRow, standIns := [], harness := (true, "7227da9f0ce3a7c48bd679461b063896f831e7266e20cb073124aaaade019390"), looks := true }, kinds := [], alts := [], laidByText := true, laidKinds := [.data, .data, .data, .sentinel, .sentinel], laidTests := true, laidLooks := .later }
def ConditionTextsCardSaid : Prop := Claim7.holds Tryz.pinned (.plain (OpenSpec.ofChange conditionTextsSpec)) conditionTextsCard

/-- THE TIED CARD OF 'dataenclavelaw17.TypesPrograms'. -/
def typesProgramsCard : Claim7 := { stood := { row := typesProgramsRow, standIns := [], harness := (true, "7227da9f0ce3a7c48bd679461b063896f831e7266e20cb073124aaaade019390"), looks := true }, kinds := [], alts := [], laidByText := true, laidKinds := [.data, .data, .data], laidTests := true, laidLooks := .later }
def TypesProgramsCardSaid : Prop := Claim7.holds Tryz.pinned (.plain (OpenSpec.ofChange typesProgramsSpec)) typesProgramsCard

/-- THE TIED CARD OF 'dataenclavelaw17.TypesFiner'. -/
def typesFinerCard : Claim7 := { stood := { row := typesFinerRow, standIns := [], harness := (true, "7227da9f0ce3a7c48bd679461b063896f831e7266e20cb073124aaaade019390"), looks := true }, kinds := [], alts := [], laidByText := true, laidKinds := [.data, .data, .data], laidTests := true, laidLooks := .later }
def TypesFinerCardSaid : Prop := Claim7.holds Tryz.pinned (.plain (OpenSpec.ofChange typesFinerSpec)) typesFinerCard

/-- THE TIED CARD OF 'dataenclavelaw17.TypesLeast'. -/
def typesLeastCard : Claim7 := { stood := { row := typesLeastRow, standIns := [], harness := (true, "7227da9f0ce3a7c48bd679461b063896f831e7266e20cb073124aaaade019390"), looks := true }, kinds := [], alts := [], laidByText := true, laidKinds := [.data, .data, .data], laidTests := true, laidLooks := .later }
def TypesLeastCardSaid : Prop := Claim7.holds Tryz.pinned (.plain (OpenSpec.ofChange typesLeastSpec)) typesLeastCard

/-- THE TIED CARD OF 'dataenclavelaw17.TypesKinds'. -/
def typesKindsCard : Claim7 := { stood := { row := typesKindsRow, standIns := [], harness := (true, "7227da9f0ce3a7c48bd679461b063896f831e7266e20cb073124aaaade019390"), looks := true }, kinds := [], alts := [], laidByText := true, laidKinds := [.data, .data, .data], laidTests := true, laidLooks := .later }
def TypesKindsCardSaid : Prop := Claim7.holds Tryz.pinned (.plain (OpenSpec.ofChange typesKindsSpec)) typesKindsCard

/-- THE SECOND FORM's CARD OF 'dataenclavelaw05.ConditionChecks'. -/
def conditionChecksUptoCard : Claim7 := { stood := { row := conditionChecksUptoRow, standIns := [], harness := (true, "7227da9f0ce3a7c48bd679461b063896f831e7266e20cb073124aaaade019390"), looks := true }, kinds := [], alts := [], laidByText := true, laidKinds := [.data, .data, .data, .sentinel, .sentinel], laidTests := true, laidLooks := .later }
def ConditionChecksUptoCardSaid : Prop := Claim7.holds Tryz.pinned (.plain (OpenSpec.upto conditionChecksSpec)) conditionChecksUptoCard

/-- THE SECOND FORM's CARD OF 'dataenclavelaw05.ConditionNeeds'. -/
def conditionNeedsUptoCard : Claim7 := { stood := { row := conditionNeedsUptoRow, standIns := [], harness := (true, "7227da9f0ce3a7c48bd679461b063896f831e7266e20cb073124aaaade019390"), looks := true }, kinds := [], alts := [], laidByText := true, laidKinds := [.data, .data, .data, .sentinel, .sentinel], laidTests := true, laidLooks := .later }
def ConditionNeedsUptoCardSaid : Prop := Claim7.holds Tryz.pinned (.plain (OpenSpec.upto conditionNeedsSpec)) conditionNeedsUptoCard

/-- THE SECOND FORM's CARD OF 'dataenclavelaw05.ConditionBack'. -/
def conditionBackUptoCard : Claim7 := { stood := { row := conditionBackUptoRow, standIns := [], harness := (true, "7227da9f0ce3a7c48bd679461b063896f831e7266e20cb073124aaaade019390"), looks := true }, kinds := [], alts := [], laidByText := true, laidKinds := [.data, .data, .data, .sentinel, .sentinel], laidTests := true, laidLooks := .later }
def ConditionBackUptoCardSaid : Prop := Claim7.holds Tryz.pinned (.plain (OpenSpec.upto conditionBackSpec)) conditionBackUptoCard

/-- THE SECOND FORM's CARD OF 'dataenclavelaw05.ConditionKnown'. -/
def conditionKnownUptoCard : Claim7 := { stood := { row := conditionKnownUptoRow, standIns := [], harness := (true, "7227da9f0ce3a7c48bd679461b063896f831e7266e20cb073124aaaade019390"), looks := true }, kinds := [], alts := [], laidByText := true, laidKinds := [.data, .data, .data, .sentinel, .sentinel], laidTests := true, laidLooks := .later }
def ConditionKnownUptoCardSaid : Prop := Claim7.holds Tryz.pinned (.plain (OpenSpec.upto conditionKnownSpec)) conditionKnownUptoCard

/-- THE SECOND FORM's CARD OF 'dataenclavelaw05.ConditionLeast'. -/
def conditionLeastUptoCard : Claim7 := { stood := { row := conditionLeastUptoRow, standIns := [], harness := (true, "7227da9f0ce3a7c48bd679461b063896f831e7266e20cb073124aaaade019390"), looks := true }, kinds := [], alts := [], laidByText := true, laidKinds := [.data, .data, .data, .sentinel, .sentinel], laidTests := true, laidLooks := .later }
def ConditionLeastUptoCardSaid : Prop := Claim7.holds Tryz.pinned (.plain (OpenSpec.upto conditionLeastSpec)) conditionLeastUptoCard

/-- THE SECOND FORM's CARD OF 'dataenclavelaw05.ConditionLogic'. -/
def conditionLogicUptoCard : Claim7 := { stood := { row := conditionLogicUptoRow, standIns := [], harness := (true, "7227da9f0ce3a7c48bd679461b063896f831e7266e20cb073124aaaade019390"), looks := true }, kinds := [], alts := [], laidByText := true, laidKinds := [.data, .data, .data, .sentinel, .sentinel], laidTests := true, laidLooks := .later }
def ConditionLogicUptoCardSaid : Prop := Claim7.holds Tryz.pinned (.plain (OpenSpec.upto conditionLogicSpec)) conditionLogicUptoCard

/-- THE SECOND FORM's CARD OF 'dataenclavelaw05.ConditionJoins'. -/
def conditionJoinsUptoCard : Claim7 := { stood := { row := conditionJoinsUptoRow, standIns := [], harness := (true, "7227da9f0ce3a7c48bd679461b063896f831e7266e20cb073124aaaade019390"), looks := true }, kinds := [], alts := [], laidByText := true, laidKinds := [.data, .data, .data, .sentinel, .sentinel], laidTests := true, laidLooks := .later }
def ConditionJoinsUptoCardSaid : Prop := Claim7.holds Tryz.pinned (.plain (OpenSpec.upto conditionJoinsSpec)) conditionJoinsUptoCard

/-- THE SECOND FORM's CARD OF 'dataenclavelaw05.ConditionTexts'. -/
def conditionTextsUptoCard : Claim7 := { stood := { row := conditionTextsUptoRow, standIns := [], harness := (true, "7227da9f0ce3a7c48bd679461b063896f831e7266e20cb073124aaaade019390"), looks := true }, kinds := [], alts := [], laidByText := true, laidKinds := [.data, .data, .data, .sentinel, .sentinel], laidTests := true, laidLooks := .later }
def ConditionTextsUptoCardSaid : Prop := Claim7.holds Tryz.pinned (.plain (OpenSpec.upto conditionTextsSpec)) conditionTextsUptoCard

/-- THE SECOND FORM's CARD OF 'dataenclavelaw17.TypesPrograms'. -/
def typesProgramsUptoCard : Claim7 := { stood := { row := typesProgramsUptoRow, standIns := [], harness := (true, "7227da9f0ce3a7c48bd679461b063896f831e7266e20cb073124aaaade019390"), looks := true }, kinds := [], alts := [], laidByText := true, laidKinds := [.data, .data, .data], laidTests := true, laidLooks := .later }
def TypesProgramsUptoCardSaid : Prop := Claim7.holds Tryz.pinned (.plain (OpenSpec.upto typesProgramsSpec)) typesProgramsUptoCard

/-- THE SECOND FORM's CARD OF 'dataenclavelaw17.TypesFiner'. -/
def typesFinerUptoCard : Claim7 := { stood := { row := typesFinerUptoRow, standIns := [], harness := (true, "7227da9f0ce3a7c48bd679461b063896f831e7266e20cb073124aaaade019390"), looks := true }, kinds := [], alts := [], laidByText := true, laidKinds := [.data, .data, .data], laidTests := true, laidLooks := .later }
def TypesFinerUptoCardSaid : Prop := Claim7.holds Tryz.pinned (.plain (OpenSpec.upto typesFinerSpec)) typesFinerUptoCard

/-- THE SECOND FORM's CARD OF 'dataenclavelaw17.TypesLeast'. -/
def typesLeastUptoCard : Claim7 := { stood := { row := typesLeastUptoRow, standIns := [], harness := (true, "7227da9f0ce3a7c48bd679461b063896f831e7266e20cb073124aaaade019390"), looks := true }, kinds := [], alts := [], laidByText := true, laidKinds := [.data, .data, .data], laidTests := true, laidLooks := .later }
def TypesLeastUptoCardSaid : Prop := Claim7.holds Tryz.pinned (.plain (OpenSpec.upto typesLeastSpec)) typesLeastUptoCard

/-- THE SECOND FORM's CARD OF 'dataenclavelaw17.TypesKinds'. -/
def typesKindsUptoCard : Claim7 := { stood := { row := typesKindsUptoRow, standIns := [], harness := (true, "7227da9f0ce3a7c48bd679461b063896f831e7266e20cb073124aaaade019390"), looks := true }, kinds := [], alts := [], laidByText := true, laidKinds := [.data, .data, .data], laidTests := true, laidLooks := .later }
def TypesKindsUptoCardSaid : Prop := Claim7.holds Tryz.pinned (.plain (OpenSpec.upto typesKindsSpec)) typesKindsUptoCard
end Rows
end Go.Proofs.YtghlhejdfgkjaaaGreatDoor

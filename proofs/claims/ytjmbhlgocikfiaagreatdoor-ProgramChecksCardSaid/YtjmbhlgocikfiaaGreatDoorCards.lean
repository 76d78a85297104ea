/-
  DERIVED. GIVEN WITH THE SEED: THE CARDS: each row of YtjmbhlgocikfiaaGreatDoorRows.lean that lists a variable, with what it lists TIED to the program's text (the seventh form; the later family's looks); each row that meets fmt, with fmt's text TOLD by the authors' own Lean function (tested against real Go, not proved from fmt's source: count such statements apart). THE CARD IS WHAT COUNTS. Prove the row's statement (the work); the ties are given (YtjmbhlgocikfiaaGreatDoorTie.lean); close each card by the builder's one call (the guide's Derived/Test/ToyasCard.lean, 'card_holds'). Laid BY PROGRAM, IN A SANDBOX (cutbox-door.mjs). By AI agents, Wed Nov 11 2026. No macro, syntax, notation, axiom, sorry.
-/
import Derived.Test.YtjmbhlgocikfiaaGreatDoorRows
import GoSem.ClaimSeven
namespace Go.Proofs.YtjmbhlgocikfiaaGreatDoor
namespace Rows

/-- THE TIED CARD OF 'dataenclavelaw16.ProgramChecks'. -/
def programChecksCard : Claim7 := { stood := { row := programChecksRow, standIns := [], harness := (true, "f0836baeac83c11e6a544a2f9f3c689699ebf119f9389936c88ec2fd628f5635"), looks := true }, kinds := [], alts := [], laidByText := true, laidKinds := [.data, .data, .data, .sentinel, .sentinel], laidTests := true, laidLooks := .later }
def ProgramChecksCardSaid : Prop := Claim7.holds Tryz.pinned (.plain (OpenSpec.ofChange programChecksSpec)) programChecksCard

/-- THE TIED CARD OF 'dataenclavelaw16.ProgramBack'. -/
def programBackCard : Claim7 := { stood := { row := programBackRow, standIns := [], harness := (true, "f0836baeac83c11e6a544a2f9f3c689699ebf119f9389936c88ec2fd628f5635"), looks := true }, kinds := [], alts := [], laidByText := true, laidKinds := [.data, .data, .data, .sentinel, .sentinel], laidTests := true, laidLooks := .later }
def ProgramBackCardSaid : Prop := Claim7.holds Tryz.pinned (.plain (OpenSpec.ofChange programBackSpec)) programBackCard

/-- THE TIED CARD OF 'dataenclavelaw16.ProgramNames'. -/
def programNamesCard : Claim7 := { stood := { row := programNamesRow, standIns := [], harness := (true, "f0836baeac83c11e6a544a2f9f3c689699ebf119f9389936c88ec2fd628f5635"), looks := true }, kinds := [], alts := [], laidByText := true, laidKinds := [.data, .data, .data, .sentinel, .sentinel], laidTests := true, laidLooks := .later }
def ProgramNamesCardSaid : Prop := Claim7.holds Tryz.pinned (.plain (OpenSpec.ofChange programNamesSpec)) programNamesCard

/-- THE TIED CARD OF 'dataenclavelaw16.ProgramDeep'. -/
def programDeepCard : Claim7 := { stood := { row := programDeepRow, standIns := [], harness := (true, "f0836baeac83c11e6a544a2f9f3c689699ebf119f9389936c88ec2fd628f5635"), looks := true }, kinds := [], alts := [], laidByText := true, laidKinds := [.data, .data, .data, .sentinel, .sentinel], laidTests := true, laidLooks := .later }
def ProgramDeepCardSaid : Prop := Claim7.holds Tryz.pinned (.plain (OpenSpec.ofChange programDeepSpec)) programDeepCard

/-- THE TIED CARD OF 'dataenclavelaw16.ProgramLines'. -/
def programLinesCard : Claim7 := { stood := { row := programLinesRow, standIns := [], harness := (true, "f0836baeac83c11e6a544a2f9f3c689699ebf119f9389936c88ec2fd628f5635"), looks := true }, kinds := [], alts := [], laidByText := true, laidKinds := [.data, .data, .data, .sentinel, .sentinel], laidTests := true, laidLooks := .later }
def ProgramLinesCardSaid : Prop := Claim7.holds Tryz.pinned (.plain (OpenSpec.ofChange programLinesSpec)) programLinesCard

/-- THE TIED CARD OF 'dataenclavelaw16.ProgramTexts'. -/
def programTextsCard : Claim7 := { stood := { row := programTextsRow, standIns := [], harness := (true, "f0836baeac83c11e6a544a2f9f3c689699ebf119f9389936c88ec2fd628f5635"), looks := true }, kinds := [], alts := [], laidByText := true, laidKinds := [.data, .data, .data, .data, .sentinel, .sentinel, .pinned], laidTests := true, laidLooks := .later }
def ProgramTextsCardSaid : Prop := Claim7.holds Tryz.pinned (.plain (OpenSpec.ofChange programTextsSpec)) programTextsCard

/-- THE SECOND FORM's CARD OF 'dataenclavelaw16.ProgramChecks'. -/
def programChecksUptoCard : Claim7 := { stood := { row := programChecksUptoRow, standIns := [], harness := (true, "f0836baeac83c11e6a544a2f9f3c689699ebf119f9389936c88ec2fd628f5635"), looks := true }, kinds := [], alts := [], laidByText := true, laidKinds := [.data, .data, .data, .sentinel, .sentinel], laidTests := true, laidLooks := .later }
def ProgramChecksUptoCardSaid : Prop := Claim7.holds Tryz.pinned (.plain (OpenSpec.upto programChecksSpec)) programChecksUptoCard

/-- THE SECOND FORM's CARD OF 'dataenclavelaw16.ProgramBack'. -/
def programBackUptoCard : Claim7 := { stood := { row := programBackUptoRow, standIns := [], harness := (true, "f0836baeac83c11e6a544a2f9f3c689699ebf119f9389936c88ec2fd628f5635"), looks := true }, kinds := [], alts := [], laidByText := true, laidKinds := [.data, .data, .data, .sentinel, .sentinel], laidTests := true, laidLooks := .later }
def ProgramBackUptoCardSaid : Prop := Claim7.holds Tryz.pinned (.plain (OpenSpec.upto programBackSpec)) programBackUptoCard

/-- THE SECOND FORM's CARD OF 'dataenclavelaw16.ProgramNames'. -/
def programNamesUptoCard : Claim7 := { stood := { row := programNamesUptoRow, standIns := [], harness := (true, "f0836baeac83c11e6a544a2f9f3c689699ebf119f9389936c88ec2fd628f5635"), looks := true }, kinds := [], alts := [], laidByText := true, laidKinds := [.data, .data, .data, .sentinel, .sentinel], laidTests := true, laidLooks := .later }
def ProgramNamesUptoCardSaid : Prop := Claim7.holds Tryz.pinned (.plain (OpenSpec.upto programNamesSpec)) programNamesUptoCard

/-- THE SECOND FORM's CARD OF 'dataenclavelaw16.ProgramDeep'. -/
def programDeepUptoCard : Claim7 := { stood := { row := programDeepUptoRow, standIns := [], harness := (true, "f0836baeac83c11e6a544a2f9f3c689699ebf119f9389936c88ec2fd628f5635"), looks := true }, kinds := [], alts := [], laidByText := true, laidKinds := [.data, .data, .data, .sentinel, .sentinel], laidTests := true, laidLooks := .later }
def ProgramDeepUptoCardSaid : Prop := Claim7.holds Tryz.pinned (.plain (OpenSpec.upto programDeepSpec)) programDeepUptoCard

/-- THE SECOND FORM's CARD OF 'dataenclavelaw16.ProgramLines'. -/
def programLinesUptoCard : Claim7 := { stood := { row := programLinesUptoRow, standIns := [], harness := (true, "f0836baeac83c11e6a544a2f9f3c689699ebf119f9389936c88ec2fd628f5635"), looks := true }, kinds := [], alts := [], laidByText := true, laidKinds := [.data, .data, .data, .sentinel, .sentinel], laidTests := true, laidLooks := .later }
def ProgramLinesUptoCardSaid : Prop := Claim7.holds Tryz.pinned (.plain (OpenSpec.upto programLinesSpec)) programLinesUptoCard

/-- THE SECOND FORM's CARD OF 'dataenclavelaw16.ProgramTexts'. -/
def programTextsUptoCard : Claim7 := { stood := { row := programTextsUptoRow, standIns := [], harness := (true, "f0836baeac83c11e6a544a2f9f3c689699ebf119f9389936c88ec2fd628f5635"), looks := true }, kinds := [], alts := [], laidByText := true, laidKinds := [.data, .data, .data, .data, .sentinel, .sentinel, .pinned], laidTests := true, laidLooks := .later }
def ProgramTextsUptoCardSaid : Prop := Claim7.holds Tryz.pinned (.plain (OpenSpec.upto programTextsSpec)) programTextsUptoCard
end Rows
end Go.Proofs.YtjmbhlgocikfiaaGreatDoor

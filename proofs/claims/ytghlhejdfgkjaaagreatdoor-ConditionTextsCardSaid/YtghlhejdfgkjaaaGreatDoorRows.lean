/-
  NARROWER THAN 'FOR EVERY INPUT', by the rows' own cells (each row's printed sentence says how): ConditionChecks: loops, laid · ConditionNeeds: laid · ConditionBack: laid · ConditionKnown: laid · ConditionLeast: laid · ConditionLogic: laid · ConditionJoins: laid · ConditionTexts: laid · TypesPrograms: loops, laid · TypesFiner: laid · TypesLeast: laid · TypesKinds: laid.
  DERIVED. THE GIVEN ROWS OF THIS SEAT. 12 by the template 'for every input the law returns true; each argument reads behind the call as it read before'; 0 by the template 'total and deterministic' (their statements: YtghlhejdfgkjaaaGreatDoorTotals.lean).
  GIVEN WITH THE SEED: the statements are not yours to turn. If you find one false, say at which input.
  Laid BY PROGRAM, IN A SANDBOX (cutbox-rows.mjs): the forced cells as the released guide's own fill.sh prints them over the translation 4b7890dedc63453a… (all of the seat's roots in one cut). By AI agents, Wed Nov 11 2026. No macro, syntax, notation, axiom, sorry.
-/
import Derived.Test.YtghlhejdfgkjaaaGreatDoorChecked
import GoSem.Claim
import GoSem.ClaimJoined
import GoSem.ClaimMapViews
import Derived.JoinedTies
import Derived.KernelRfl
namespace Go.Proofs.YtghlhejdfgkjaaaGreatDoor
/- THE CELL 'sum', in the pinned program and in every row, IS THE sha256 OF THE DUMP (.gsa) THAT YtghlhejdfgkjaaaGreatDoorProg.lean LOADS. Nothing in Lean hashes anything: it is a label: what it is worth is what the hold of that sum in a sandbox is worth. -/
noncomputable def Tryz.pinned : Pinned := { name := "ytghlhejdfgkjaaagreatdoor", sum := "4b7890dedc63453a42d45fc50da35d5b14b5b425706e1a3faa3b63389f45bf4a", checked := Tryz.checked }
namespace Rows
def none {H : Type} : Left H := { results := [], args := [] }

/- WHAT THE LISTED PACKAGE-LEVEL VARIABLES READ AS WHEN THE CALL BEGINS. Each datum BY PROGRAM (the guide's laid-datum.mjs) off the statement by which the dump's own 'gosem.cut.vars' lays the variable. In a bare row this is a premise. The card (YtghlhejdfgkjaaaGreatDoorCards.lean) ties it to the program's text. -/
def laid_math_bits_deBruijn32tab {H : Type} : DataW H := .agg [.lit (.int .u8 0), .lit (.int .u8 1), .lit (.int .u8 28), .lit (.int .u8 2), .lit (.int .u8 29), .lit (.int .u8 14), .lit (.int .u8 24), .lit (.int .u8 3), .lit (.int .u8 30), .lit (.int .u8 22), .lit (.int .u8 20), .lit (.int .u8 15), .lit (.int .u8 25), .lit (.int .u8 17), .lit (.int .u8 4), .lit (.int .u8 8), .lit (.int .u8 31), .lit (.int .u8 27), .lit (.int .u8 13), .lit (.int .u8 23), .lit (.int .u8 21), .lit (.int .u8 19), .lit (.int .u8 16), .lit (.int .u8 7), .lit (.int .u8 26), .lit (.int .u8 12), .lit (.int .u8 18), .lit (.int .u8 6), .lit (.int .u8 11), .lit (.int .u8 5), .lit (.int .u8 10), .lit (.int .u8 9)]
def laid_math_bits_deBruijn64tab {H : Type} : DataW H := .agg [.lit (.int .u8 0), .lit (.int .u8 1), .lit (.int .u8 56), .lit (.int .u8 2), .lit (.int .u8 57), .lit (.int .u8 49), .lit (.int .u8 28), .lit (.int .u8 3), .lit (.int .u8 61), .lit (.int .u8 58), .lit (.int .u8 42), .lit (.int .u8 50), .lit (.int .u8 38), .lit (.int .u8 29), .lit (.int .u8 17), .lit (.int .u8 4), .lit (.int .u8 62), .lit (.int .u8 47), .lit (.int .u8 59), .lit (.int .u8 36), .lit (.int .u8 45), .lit (.int .u8 43), .lit (.int .u8 51), .lit (.int .u8 22), .lit (.int .u8 53), .lit (.int .u8 39), .lit (.int .u8 33), .lit (.int .u8 30), .lit (.int .u8 24), .lit (.int .u8 18), .lit (.int .u8 12), .lit (.int .u8 5), .lit (.int .u8 63), .lit (.int .u8 55), .lit (.int .u8 48), .lit (.int .u8 27), .lit (.int .u8 60), .lit (.int .u8 41), .lit (.int .u8 37), .lit (.int .u8 16), .lit (.int .u8 46), .lit (.int .u8 35), .lit (.int .u8 44), .lit (.int .u8 21), .lit (.int .u8 52), .lit (.int .u8 32), .lit (.int .u8 23), .lit (.int .u8 11), .lit (.int .u8 54), .lit (.int .u8 26), .lit (.int .u8 40), .lit (.int .u8 15), .lit (.int .u8 34), .lit (.int .u8 20), .lit (.int .u8 31), .lit (.int .u8 10), .lit (.int .u8 25), .lit (.int .u8 14), .lit (.int .u8 19), .lit (.int .u8 9), .lit (.int .u8 13), .lit (.int .u8 8), .lit (.int .u8 7), .lit (.int .u8 6)]
def laid_internal_strconv_uint64pow10 {H : Type} : DataW H := .agg [.lit (.int .u64 1), .lit (.int .u64 10), .lit (.int .u64 100), .lit (.int .u64 1000), .lit (.int .u64 10000), .lit (.int .u64 100000), .lit (.int .u64 1000000), .lit (.int .u64 10000000), .lit (.int .u64 100000000), .lit (.int .u64 1000000000), .lit (.int .u64 10000000000), .lit (.int .u64 100000000000), .lit (.int .u64 1000000000000), .lit (.int .u64 10000000000000), .lit (.int .u64 100000000000000), .lit (.int .u64 1000000000000000), .lit (.int .u64 10000000000000000), .lit (.int .u64 100000000000000000), .lit (.int .u64 1000000000000000000), .lit (.int .u64 10000000000000000000)]
def laid_strconv_ErrRange {H : Type} : DataW H := .iface "*errors.errorString" (.ptr (.agg [.lit (.string [118, 97, 108, 117, 101, 32, 111, 117, 116, 32, 111, 102, 32, 114, 97, 110, 103, 101])]))
def laid_strconv_ErrSyntax {H : Type} : DataW H := .iface "*errors.errorString" (.ptr (.agg [.lit (.string [105, 110, 118, 97, 108, 105, 100, 32, 115, 121, 110, 116, 97, 120])]))

/-- 'dataenclavelaw05.ConditionChecks': WHATEVER THE INPUT: true; the input reads as it did. -/
def conditionChecksSpec : ChangeSpec := { name := "conditionChecks", fn := fun _ => fun
  | [d1, d2, d3, d4] => { results := [.lit (.bool true)], args := [d1, d2, d3, d4] }
  | _ => none }
def conditionChecksRow : OpenClaim := { program := "ytghlhejdfgkjaaagreatdoor", sum := "4b7890dedc63453a42d45fc50da35d5b14b5b425706e1a3faa3b63389f45bf4a", func := "dataenclave/dataenclavelaw05.ConditionChecks", spec := "conditionChecks", unfollowed := true, recurses := true, named := ["strconv.ErrSyntax", "strconv.ErrRange", "internal/strconv.uint64pow10", "math/bits.deBruijn32tab", "math/bits.deBruijn64tab"], loops := true, apart := false, laid := [("math/bits.deBruijn32tab", laid_math_bits_deBruijn32tab), ("math/bits.deBruijn64tab", laid_math_bits_deBruijn64tab), ("internal/strconv.uint64pow10", laid_internal_strconv_uint64pow10), ("strconv.ErrRange", laid_strconv_ErrRange), ("strconv.ErrSyntax", laid_strconv_ErrSyntax)] }
def ConditionChecksSaid : Prop := conditionChecksRow.holds Tryz.pinned (OpenSpec.ofChange conditionChecksSpec)

/-- ITS FALSE NEIGHBOUR: 'it returns false'. Refute it at one input. -/
def conditionChecksWrong : ChangeSpec := { name := "conditionChecks", fn := fun _ => fun
  | [d1, d2, d3, d4] => { results := [.lit (.bool false)], args := [d1, d2, d3, d4] }
  | _ => none }
def ConditionChecksWrongFalsely : Prop := conditionChecksRow.holds Tryz.pinned (OpenSpec.ofChange conditionChecksWrong)

/-- 'dataenclavelaw05.ConditionNeeds': WHATEVER THE INPUT: true; the input reads as it did. -/
def conditionNeedsSpec : ChangeSpec := { name := "conditionNeeds", fn := fun _ => fun
  | [d1, d2, d3, d4] => { results := [.lit (.bool true)], args := [d1, d2, d3, d4] }
  | _ => none }
def conditionNeedsRow : OpenClaim := { program := "ytghlhejdfgkjaaagreatdoor", sum := "4b7890dedc63453a42d45fc50da35d5b14b5b425706e1a3faa3b63389f45bf4a", func := "dataenclave/dataenclavelaw05.ConditionNeeds", spec := "conditionNeeds", unfollowed := true, recurses := true, named := ["strconv.ErrSyntax", "strconv.ErrRange", "internal/strconv.uint64pow10", "math/bits.deBruijn32tab", "math/bits.deBruijn64tab"], apart := false, laid := [("math/bits.deBruijn32tab", laid_math_bits_deBruijn32tab), ("math/bits.deBruijn64tab", laid_math_bits_deBruijn64tab), ("internal/strconv.uint64pow10", laid_internal_strconv_uint64pow10), ("strconv.ErrRange", laid_strconv_ErrRange), ("strconv.ErrSyntax", laid_strconv_ErrSyntax)] }
def ConditionNeedsSaid : Prop := conditionNeedsRow.holds Tryz.pinned (OpenSpec.ofChange conditionNeedsSpec)

/-- ITS FALSE NEIGHBOUR: 'it returns false'. Refute it at one input. -/
def conditionNeedsWrong : ChangeSpec := { name := "conditionNeeds", fn := fun _ => fun
  | [d1, d2, d3, d4] => { results := [.lit (.bool false)], args := [d1, d2, d3, d4] }
  | _ => none }
def ConditionNeedsWrongFalsely : Prop := conditionNeedsRow.holds Tryz.pinned (OpenSpec.ofChange conditionNeedsWrong)

/-- 'dataenclavelaw05.ConditionBack': WHATEVER THE INPUT: true; the input reads as it did. -/
def conditionBackSpec : ChangeSpec := { name := "conditionBack", fn := fun _ => fun
  | [d1, d2] => { results := [.lit (.bool true)], args := [d1, d2] }
  | _ => none }
def conditionBackRow : OpenClaim := { program := "ytghlhejdfgkjaaagreatdoor", sum := "4b7890dedc63453a42d45fc50da35d5b14b5b425706e1a3faa3b63389f45bf4a", func := "dataenclave/dataenclavelaw05.ConditionBack", spec := "conditionBack", unfollowed := true, recurses := true, named := ["internal/strconv.uint64pow10", "math/bits.deBruijn32tab", "math/bits.deBruijn64tab", "strconv.ErrSyntax", "strconv.ErrRange"], apart := false, laid := [("math/bits.deBruijn32tab", laid_math_bits_deBruijn32tab), ("math/bits.deBruijn64tab", laid_math_bits_deBruijn64tab), ("internal/strconv.uint64pow10", laid_internal_strconv_uint64pow10), ("strconv.ErrRange", laid_strconv_ErrRange), ("strconv.ErrSyntax", laid_strconv_ErrSyntax)] }
def ConditionBackSaid : Prop := conditionBackRow.holds Tryz.pinned (OpenSpec.ofChange conditionBackSpec)

/-- ITS FALSE NEIGHBOUR: 'it returns false'. Refute it at one input. -/
def conditionBackWrong : ChangeSpec := { name := "conditionBack", fn := fun _ => fun
  | [d1, d2] => { results := [.lit (.bool false)], args := [d1, d2] }
  | _ => none }
def ConditionBackWrongFalsely : Prop := conditionBackRow.holds Tryz.pinned (OpenSpec.ofChange conditionBackWrong)

/-- 'dataenclavelaw05.ConditionKnown': WHATEVER THE INPUT: true; the input reads as it did. -/
def conditionKnownSpec : ChangeSpec := { name := "conditionKnown", fn := fun _ => fun
  | [d] => { results := [.lit (.bool true)], args := [d] }
  | _ => none }
def conditionKnownRow : OpenClaim := { program := "ytghlhejdfgkjaaagreatdoor", sum := "4b7890dedc63453a42d45fc50da35d5b14b5b425706e1a3faa3b63389f45bf4a", func := "dataenclave/dataenclavelaw05.ConditionKnown", spec := "conditionKnown", unfollowed := true, recurses := true, named := ["internal/strconv.uint64pow10", "math/bits.deBruijn32tab", "math/bits.deBruijn64tab", "strconv.ErrSyntax", "strconv.ErrRange"], apart := false, laid := [("math/bits.deBruijn32tab", laid_math_bits_deBruijn32tab), ("math/bits.deBruijn64tab", laid_math_bits_deBruijn64tab), ("internal/strconv.uint64pow10", laid_internal_strconv_uint64pow10), ("strconv.ErrRange", laid_strconv_ErrRange), ("strconv.ErrSyntax", laid_strconv_ErrSyntax)] }
def ConditionKnownSaid : Prop := conditionKnownRow.holds Tryz.pinned (OpenSpec.ofChange conditionKnownSpec)

/-- ITS FALSE NEIGHBOUR: 'it returns false'. Refute it at one input. -/
def conditionKnownWrong : ChangeSpec := { name := "conditionKnown", fn := fun _ => fun
  | [d] => { results := [.lit (.bool false)], args := [d] }
  | _ => none }
def ConditionKnownWrongFalsely : Prop := conditionKnownRow.holds Tryz.pinned (OpenSpec.ofChange conditionKnownWrong)

/-- 'dataenclavelaw05.ConditionLeast': WHATEVER THE INPUT: true; the input reads as it did. -/
def conditionLeastSpec : ChangeSpec := { name := "conditionLeast", fn := fun _ => fun
  | [d] => { results := [.lit (.bool true)], args := [d] }
  | _ => none }
def conditionLeastRow : OpenClaim := { program := "ytghlhejdfgkjaaagreatdoor", sum := "4b7890dedc63453a42d45fc50da35d5b14b5b425706e1a3faa3b63389f45bf4a", func := "dataenclave/dataenclavelaw05.ConditionLeast", spec := "conditionLeast", unfollowed := true, recurses := true, named := ["internal/strconv.uint64pow10", "math/bits.deBruijn32tab", "math/bits.deBruijn64tab", "strconv.ErrSyntax", "strconv.ErrRange"], apart := false, laid := [("math/bits.deBruijn32tab", laid_math_bits_deBruijn32tab), ("math/bits.deBruijn64tab", laid_math_bits_deBruijn64tab), ("internal/strconv.uint64pow10", laid_internal_strconv_uint64pow10), ("strconv.ErrRange", laid_strconv_ErrRange), ("strconv.ErrSyntax", laid_strconv_ErrSyntax)] }
def ConditionLeastSaid : Prop := conditionLeastRow.holds Tryz.pinned (OpenSpec.ofChange conditionLeastSpec)

/-- ITS FALSE NEIGHBOUR: 'it returns false'. Refute it at one input. -/
def conditionLeastWrong : ChangeSpec := { name := "conditionLeast", fn := fun _ => fun
  | [d] => { results := [.lit (.bool false)], args := [d] }
  | _ => none }
def ConditionLeastWrongFalsely : Prop := conditionLeastRow.holds Tryz.pinned (OpenSpec.ofChange conditionLeastWrong)

/-- 'dataenclavelaw05.ConditionLogic': WHATEVER THE INPUT: true; the input reads as it did. -/
def conditionLogicSpec : ChangeSpec := { name := "conditionLogic", fn := fun _ => fun
  | [d] => { results := [.lit (.bool true)], args := [d] }
  | _ => none }
def conditionLogicRow : OpenClaim := { program := "ytghlhejdfgkjaaagreatdoor", sum := "4b7890dedc63453a42d45fc50da35d5b14b5b425706e1a3faa3b63389f45bf4a", func := "dataenclave/dataenclavelaw05.ConditionLogic", spec := "conditionLogic", unfollowed := true, recurses := true, named := ["internal/strconv.uint64pow10", "math/bits.deBruijn32tab", "math/bits.deBruijn64tab", "strconv.ErrSyntax", "strconv.ErrRange"], apart := false, laid := [("math/bits.deBruijn32tab", laid_math_bits_deBruijn32tab), ("math/bits.deBruijn64tab", laid_math_bits_deBruijn64tab), ("internal/strconv.uint64pow10", laid_internal_strconv_uint64pow10), ("strconv.ErrRange", laid_strconv_ErrRange), ("strconv.ErrSyntax", laid_strconv_ErrSyntax)] }
def ConditionLogicSaid : Prop := conditionLogicRow.holds Tryz.pinned (OpenSpec.ofChange conditionLogicSpec)

/-- ITS FALSE NEIGHBOUR: 'it returns false'. Refute it at one input. -/
def conditionLogicWrong : ChangeSpec := { name := "conditionLogic", fn := fun _ => fun
  | [d] => { results := [.lit (.bool false)], args := [d] }
  | _ => none }
def ConditionLogicWrongFalsely : Prop := conditionLogicRow.holds Tryz.pinned (OpenSpec.ofChange conditionLogicWrong)

/-- 'dataenclavelaw05.ConditionJoins': WHATEVER THE INPUT: true; the input reads as it did. -/
def conditionJoinsSpec : ChangeSpec := { name := "conditionJoins", fn := fun _ => fun
  | [d] => { results := [.lit (.bool true)], args := [d] }
  | _ => none }
def conditionJoinsRow : OpenClaim := { program := "ytghlhejdfgkjaaagreatdoor", sum := "4b7890dedc63453a42d45fc50da35d5b14b5b425706e1a3faa3b63389f45bf4a", func := "dataenclave/dataenclavelaw05.ConditionJoins", spec := "conditionJoins", unfollowed := true, recurses := true, named := ["internal/strconv.uint64pow10", "math/bits.deBruijn32tab", "math/bits.deBruijn64tab", "strconv.ErrSyntax", "strconv.ErrRange"], apart := false, laid := [("math/bits.deBruijn32tab", laid_math_bits_deBruijn32tab), ("math/bits.deBruijn64tab", laid_math_bits_deBruijn64tab), ("internal/strconv.uint64pow10", laid_internal_strconv_uint64pow10), ("strconv.ErrRange", laid_strconv_ErrRange), ("strconv.ErrSyntax", laid_strconv_ErrSyntax)] }
def ConditionJoinsSaid : Prop := conditionJoinsRow.holds Tryz.pinned (OpenSpec.ofChange conditionJoinsSpec)

/-- ITS FALSE NEIGHBOUR: 'it returns false'. Refute it at one input. -/
def conditionJoinsWrong : ChangeSpec := { name := "conditionJoins", fn := fun _ => fun
  | [d] => { results := [.lit (.bool false)], args := [d] }
  | _ => none }
def ConditionJoinsWrongFalsely : Prop := conditionJoinsRow.holds Tryz.pinned (OpenSpec.ofChange conditionJoinsWrong)

/-- 'dataenclavelaw05.ConditionTexts': WHATEVER THE INPUT: true; the input reads as it did. -/
def conditionTextsSpec : ChangeSpec := { name := "conditionTexts", fn := fun _ => fun
  | [d1, d2, d3, d4] => { results := [.lit (.bool true)], args := [d1, d2, d3, d4] }
  | _ => none }
def conditionTextsRow : OpenClaim := { program := "ytghlhejdfgkjaaagreatdoor", sum := "4b7890dedc63453a42d45fc50da35d5b14b5b425706e1a3faa3b63389f45bf4a", func := "dataenclave/dataenclavelaw05.ConditionTexts", spec := "conditionTexts", unfollowed := true, recurses := true, named := ["strconv.ErrSyntax", "strconv.ErrRange", "internal/strconv.uint64pow10", "math/bits.deBruijn32tab", "math/bits.deBruijn64tab"], apart := false, laid := [("math/bits.deBruijn32tab", laid_math_bits_deBruijn32tab), ("math/bits.deBruijn64tab", laid_math_bits_deBruijn64tab), ("internal/strconv.uint64pow10", laid_internal_strconv_uint64pow10), ("strconv.ErrRange", laid_strconv_ErrRange), ("strconv.ErrSyntax", laid_strconv_ErrSyntax)] }
def ConditionTextsSaid : Prop := conditionTextsRow.holds Tryz.pinned (OpenSpec.ofChange conditionTextsSpec)

/-- ITS FALSE NEIGHBOUR: 'it returns false'. Refute it at one input. -/
def conditionTextsWrong : ChangeSpec := { name := "conditionTexts", fn := fun _ => fun
  | [d1, d2, d3, d4] => { results := [.lit (.bool false)], args := [d1, d2, d3, d4] }
  | _ => none }
def ConditionTextsWrongFalsely : Prop := conditionTextsRow.holds Tryz.pinned (OpenSpec.ofChange conditionTextsWrong)

/-- 'dataenclavelaw17.TypesPrograms': WHATEVER THE INPUT: true; the input reads as it did. -/
def typesProgramsSpec : ChangeSpec := { name := "typesPrograms", fn := fun _ => fun
  | [d1, d2, d3] => { results := [.lit (.bool true)], args := [d1, d2, d3] }
  | _ => none }
def typesProgramsRow : OpenClaim := { program := "ytghlhejdfgkjaaagreatdoor", sum := "4b7890dedc63453a42d45fc50da35d5b14b5b425706e1a3faa3b63389f45bf4a", func := "dataenclave/dataenclavelaw17.TypesPrograms", spec := "typesPrograms", unfollowed := true, recurses := true, named := ["internal/strconv.uint64pow10", "math/bits.deBruijn32tab", "math/bits.deBruijn64tab"], loops := true, apart := false, laid := [("math/bits.deBruijn32tab", laid_math_bits_deBruijn32tab), ("math/bits.deBruijn64tab", laid_math_bits_deBruijn64tab), ("internal/strconv.uint64pow10", laid_internal_strconv_uint64pow10)] }
def TypesProgramsSaid : Prop := typesProgramsRow.holds Tryz.pinned (OpenSpec.ofChange typesProgramsSpec)

/-- ITS FALSE NEIGHBOUR: 'it returns false'. Refute it at one input. -/
def typesProgramsWrong : ChangeSpec := { name := "typesPrograms", fn := fun _ => fun
  | [d1, d2, d3] => { results := [.lit (.bool false)], args := [d1, d2, d3] }
  | _ => none }
def TypesProgramsWrongFalsely : Prop := typesProgramsRow.holds Tryz.pinned (OpenSpec.ofChange typesProgramsWrong)

/-- 'dataenclavelaw17.TypesFiner': WHATEVER THE INPUT: true; the input reads as it did. -/
def typesFinerSpec : ChangeSpec := { name := "typesFiner", fn := fun _ => fun
  | [d] => { results := [.lit (.bool true)], args := [d] }
  | _ => none }
def typesFinerRow : OpenClaim := { program := "ytghlhejdfgkjaaagreatdoor", sum := "4b7890dedc63453a42d45fc50da35d5b14b5b425706e1a3faa3b63389f45bf4a", func := "dataenclave/dataenclavelaw17.TypesFiner", spec := "typesFiner", unfollowed := true, recurses := true, named := ["internal/strconv.uint64pow10", "math/bits.deBruijn32tab", "math/bits.deBruijn64tab"], apart := false, laid := [("math/bits.deBruijn32tab", laid_math_bits_deBruijn32tab), ("math/bits.deBruijn64tab", laid_math_bits_deBruijn64tab), ("internal/strconv.uint64pow10", laid_internal_strconv_uint64pow10)] }
def TypesFinerSaid : Prop := typesFinerRow.holds Tryz.pinned (OpenSpec.ofChange typesFinerSpec)

/-- ITS FALSE NEIGHBOUR: 'it returns false'. Refute it at one input. -/
def typesFinerWrong : ChangeSpec := { name := "typesFiner", fn := fun _ => fun
  | [d] => { results := [.lit (.bool false)], args := [d] }
  | _ => none }
def TypesFinerWrongFalsely : Prop := typesFinerRow.holds Tryz.pinned (OpenSpec.ofChange typesFinerWrong)

/-- 'dataenclavelaw17.TypesLeast': WHATEVER THE INPUT: true; the input reads as it did. -/
def typesLeastSpec : ChangeSpec := { name := "typesLeast", fn := fun _ => fun
  | [d] => { results := [.lit (.bool true)], args := [d] }
  | _ => none }
def typesLeastRow : OpenClaim := { program := "ytghlhejdfgkjaaagreatdoor", sum := "4b7890dedc63453a42d45fc50da35d5b14b5b425706e1a3faa3b63389f45bf4a", func := "dataenclave/dataenclavelaw17.TypesLeast", spec := "typesLeast", unfollowed := true, recurses := true, named := ["internal/strconv.uint64pow10", "math/bits.deBruijn32tab", "math/bits.deBruijn64tab"], apart := false, laid := [("math/bits.deBruijn32tab", laid_math_bits_deBruijn32tab), ("math/bits.deBruijn64tab", laid_math_bits_deBruijn64tab), ("internal/strconv.uint64pow10", laid_internal_strconv_uint64pow10)] }
def TypesLeastSaid : Prop := typesLeastRow.holds Tryz.pinned (OpenSpec.ofChange typesLeastSpec)

/-- ITS FALSE NEIGHBOUR: 'it returns false'. Refute it at one input. -/
def typesLeastWrong : ChangeSpec := { name := "typesLeast", fn := fun _ => fun
  | [d] => { results := [.lit (.bool false)], args := [d] }
  | _ => none }
def TypesLeastWrongFalsely : Prop := typesLeastRow.holds Tryz.pinned (OpenSpec.ofChange typesLeastWrong)

/-- 'dataenclavelaw17.TypesKinds': WHATEVER THE INPUT: true; the input reads as it did. -/
def typesKindsSpec : ChangeSpec := { name := "typesKinds", fn := fun _ => fun
  | [d1, d2, d3] => { results := [.lit (.bool true)], args := [d1, d2, d3] }
  | _ => none }
def typesKindsRow : OpenClaim := { program := "ytghlhejdfgkjaaagreatdoor", sum := "4b7890dedc63453a42d45fc50da35d5b14b5b425706e1a3faa3b63389f45bf4a", func := "dataenclave/dataenclavelaw17.TypesKinds", spec := "typesKinds", unfollowed := true, recurses := true, named := ["internal/strconv.uint64pow10", "math/bits.deBruijn32tab", "math/bits.deBruijn64tab"], apart := false, laid := [("math/bits.deBruijn32tab", laid_math_bits_deBruijn32tab), ("math/bits.deBruijn64tab", laid_math_bits_deBruijn64tab), ("internal/strconv.uint64pow10", laid_internal_strconv_uint64pow10)] }
def TypesKindsSaid : Prop := typesKindsRow.holds Tryz.pinned (OpenSpec.ofChange typesKindsSpec)

/-- ITS FALSE NEIGHBOUR: 'it returns false'. Refute it at one input. -/
def typesKindsWrong : ChangeSpec := { name := "typesKinds", fn := fun _ => fun
  | [d1, d2, d3] => { results := [.lit (.bool false)], args := [d1, d2, d3] }
  | _ => none }
def TypesKindsWrongFalsely : Prop := typesKindsRow.holds Tryz.pinned (OpenSpec.ofChange typesKindsWrong)

/- THE SECOND FORM. 'bulk': how many values and letters a reading holds, each counted each time it is reached (what is shared counts as often as it is met; a slice's spare places count too). A statement '..UptoSaid' is the law's where the arguments, and the package variables that the reading takes, are together of bulk at most 1048576: NARROWER than '..Said'. Prove '..Said' where nothing that the law and all that it calls make is longer than what came in: it says more and counts as full. Else prove '..UptoSaid'. A law counts once. -/
mutual
def uptoBulk {H : Type} : DataW H → Nat
  | .lit (.string bytes) => bytes.length + 1
  | .lit _ => 1
  | .nil => 1
  | .ptr d => uptoBulk d + 1
  | .slice elems spare => uptoBulkAll elems + uptoBulkAll spare + 1
  | .agg parts => uptoBulkAll parts + 1
  | .iface _ d => uptoBulk d + 1
  | .map entries => uptoBulkEntries entries + 1
  | .held _ => 1
def uptoBulkAll {H : Type} : List (DataW H) → Nat
  | [] => 0
  | d :: r => uptoBulk d + uptoBulkAll r
def uptoBulkEntries {H : Type} : List (Lit × DataW H) → Nat
  | [] => 0
  | x :: r => uptoBulkEntry x + uptoBulkEntries r
def uptoBulkEntry {H : Type} : Lit × DataW H → Nat
  | (.string bytes, d) => bytes.length + uptoBulk d + 1
  | (_, d) => uptoBulk d + 1
 end
def uptoSmall : (H : Type) → List (DataW H) → Bool := fun _ ds => decide (uptoBulkAll ds ≤ 1048576)
def OpenSpec.upto (s : _root_.Go.ChangeSpec) : _root_.Go.OpenSpec := { _root_.Go.OpenSpec.ofChange s with cond := some uptoSmall }

/-- 'dataenclavelaw05.ConditionChecks', WHERE WHAT IT READS IS OF BULK AT MOST 1048576: true; the input reads as it did. -/
def conditionChecksUptoRow : OpenClaim := { program := "ytghlhejdfgkjaaagreatdoor", sum := "4b7890dedc63453a42d45fc50da35d5b14b5b425706e1a3faa3b63389f45bf4a", func := "dataenclave/dataenclavelaw05.ConditionChecks", spec := "conditionChecks", unfollowed := true, recurses := true, named := ["strconv.ErrSyntax", "strconv.ErrRange", "internal/strconv.uint64pow10", "math/bits.deBruijn32tab", "math/bits.deBruijn64tab"], loops := true, apart := false, laid := [("math/bits.deBruijn32tab", laid_math_bits_deBruijn32tab), ("math/bits.deBruijn64tab", laid_math_bits_deBruijn64tab), ("internal/strconv.uint64pow10", laid_internal_strconv_uint64pow10), ("strconv.ErrRange", laid_strconv_ErrRange), ("strconv.ErrSyntax", laid_strconv_ErrSyntax)], narrowed := true }
def ConditionChecksUptoSaid : Prop := conditionChecksUptoRow.holds Tryz.pinned (OpenSpec.upto conditionChecksSpec)

/-- 'dataenclavelaw05.ConditionNeeds', WHERE WHAT IT READS IS OF BULK AT MOST 1048576: true; the input reads as it did. -/
def conditionNeedsUptoRow : OpenClaim := { program := "ytghlhejdfgkjaaagreatdoor", sum := "4b7890dedc63453a42d45fc50da35d5b14b5b425706e1a3faa3b63389f45bf4a", func := "dataenclave/dataenclavelaw05.ConditionNeeds", spec := "conditionNeeds", unfollowed := true, recurses := true, named := ["strconv.ErrSyntax", "strconv.ErrRange", "internal/strconv.uint64pow10", "math/bits.deBruijn32tab", "math/bits.deBruijn64tab"], apart := false, laid := [("math/bits.deBruijn32tab", laid_math_bits_deBruijn32tab), ("math/bits.deBruijn64tab", laid_math_bits_deBruijn64tab), ("internal/strconv.uint64pow10", laid_internal_strconv_uint64pow10), ("strconv.ErrRange", laid_strconv_ErrRange), ("strconv.ErrSyntax", laid_strconv_ErrSyntax)], narrowed := true }
def ConditionNeedsUptoSaid : Prop := conditionNeedsUptoRow.holds Tryz.pinned (OpenSpec.upto conditionNeedsSpec)

/-- 'dataenclavelaw05.ConditionBack', WHERE WHAT IT READS IS OF BULK AT MOST 1048576: true; the input reads as it did. -/
def conditionBackUptoRow : OpenClaim := { program := "ytghlhejdfgkjaaagreatdoor", sum := "4b7890dedc63453a42d45fc50da35d5b14b5b425706e1a3faa3b63389f45bf4a", func := "dataenclave/dataenclavelaw05.ConditionBack", spec := "conditionBack", unfollowed := true, recurses := true, named := ["internal/strconv.uint64pow10", "math/bits.deBruijn32tab", "math/bits.deBruijn64tab", "strconv.ErrSyntax", "strconv.ErrRange"], apart := false, laid := [("math/bits.deBruijn32tab", laid_math_bits_deBruijn32tab), ("math/bits.deBruijn64tab", laid_math_bits_deBruijn64tab), ("internal/strconv.uint64pow10", laid_internal_strconv_uint64pow10), ("strconv.ErrRange", laid_strconv_ErrRange), ("strconv.ErrSyntax", laid_strconv_ErrSyntax)], narrowed := true }
def ConditionBackUptoSaid : Prop := conditionBackUptoRow.holds Tryz.pinned (OpenSpec.upto conditionBackSpec)

/-- 'dataenclavelaw05.ConditionKnown', WHERE WHAT IT READS IS OF BULK AT MOST 1048576: true; the input reads as it did. -/
def conditionKnownUptoRow : OpenClaim := { program := "ytghlhejdfgkjaaagreatdoor", sum := "4b7890dedc63453a42d45fc50da35d5b14b5b425706e1a3faa3b63389f45bf4a", func := "dataenclave/dataenclavelaw05.ConditionKnown", spec := "conditionKnown", unfollowed := true, recurses := true, named := ["internal/strconv.uint64pow10", "math/bits.deBruijn32tab", "math/bits.deBruijn64tab", "strconv.ErrSyntax", "strconv.ErrRange"], apart := false, laid := [("math/bits.deBruijn32tab", laid_math_bits_deBruijn32tab), ("math/bits.deBruijn64tab", laid_math_bits_deBruijn64tab), ("internal/strconv.uint64pow10", laid_internal_strconv_uint64pow10), ("strconv.ErrRange", laid_strconv_ErrRange), ("strconv.ErrSyntax", laid_strconv_ErrSyntax)], narrowed := true }
def ConditionKnownUptoSaid : Prop := conditionKnownUptoRow.holds Tryz.pinned (OpenSpec.upto conditionKnownSpec)

/-- 'dataenclavelaw05.ConditionLeast', WHERE WHAT IT READS IS OF BULK AT MOST 1048576: true; the input reads as it did. -/
def conditionLeastUptoRow : OpenClaim := { program := "ytghlhejdfgkjaaagreatdoor", sum := "4b7890dedc63453a42d45fc50da35d5b14b5b425706e1a3faa3b63389f45bf4a", func := "dataenclave/dataenclavelaw05.ConditionLeast", spec := "conditionLeast", unfollowed := true, recurses := true, named := ["internal/strconv.uint64pow10", "math/bits.deBruijn32tab", "math/bits.deBruijn64tab", "strconv.ErrSyntax", "strconv.ErrRange"], apart := false, laid := [("math/bits.deBruijn32tab", laid_math_bits_deBruijn32tab), ("math/bits.deBruijn64tab", laid_math_bits_deBruijn64tab), ("internal/strconv.uint64pow10", laid_internal_strconv_uint64pow10), ("strconv.ErrRange", laid_strconv_ErrRange), ("strconv.ErrSyntax", laid_strconv_ErrSyntax)], narrowed := true }
def ConditionLeastUptoSaid : Prop := conditionLeastUptoRow.holds Tryz.pinned (OpenSpec.upto conditionLeastSpec)

/-- 'dataenclavelaw05.ConditionLogic', WHERE WHAT IT READS IS OF BULK AT MOST 1048576: true; the input reads as it did. -/
def conditionLogicUptoRow : OpenClaim := { program := "ytghlhejdfgkjaaagreatdoor", sum := "4b7890dedc63453a42d45fc50da35d5b14b5b425706e1a3faa3b63389f45bf4a", func := "dataenclave/dataenclavelaw05.ConditionLogic", spec := "conditionLogic", unfollowed := true, recurses := true, named := ["internal/strconv.uint64pow10", "math/bits.deBruijn32tab", "math/bits.deBruijn64tab", "strconv.ErrSyntax", "strconv.ErrRange"], apart := false, laid := [("math/bits.deBruijn32tab", laid_math_bits_deBruijn32tab), ("math/bits.deBruijn64tab", laid_math_bits_deBruijn64tab), ("internal/strconv.uint64pow10", laid_internal_strconv_uint64pow10), ("strconv.ErrRange", laid_strconv_ErrRange), ("strconv.ErrSyntax", laid_strconv_ErrSyntax)], narrowed := true }
def ConditionLogicUptoSaid : Prop := conditionLogicUptoRow.holds Tryz.pinned (OpenSpec.upto conditionLogicSpec)

/-- 'dataenclavelaw05.ConditionJoins', WHERE WHAT IT READS IS OF BULK AT MOST 1048576: true; the input reads as it did. -/
def conditionJoinsUptoRow : OpenClaim := { program := "ytghlhejdfgkjaaagreatdoor", sum := "4b7890dedc63453a42d45fc50da35d5b14b5b425706e1a3faa3b63389f45bf4a", func := "dataenclave/dataenclavelaw05.ConditionJoins", spec := "conditionJoins", unfollowed := true, recurses := true, named := ["internal/strconv.uint64pow10", "math/bits.deBruijn32tab", "math/bits.deBruijn64tab", "strconv.ErrSyntax", "strconv.ErrRange"], apart := false, laid := [("math/bits.deBruijn32tab", laid_math_bits_deBruijn32tab), ("math/bits.deBruijn64tab", laid_math_bits_deBruijn64tab), ("internal/strconv.uint64pow10", laid_internal_strconv_uint64pow10), ("strconv.ErrRange", laid_strconv_ErrRange), ("strconv.ErrSyntax", laid_strconv_ErrSyntax)], narrowed := true }
def ConditionJoinsUptoSaid : Prop := conditionJoinsUptoRow.holds Tryz.pinned (OpenSpec.upto conditionJoinsSpec)

/-- 'dataenclavelaw05.ConditionTexts', WHERE WHAT IT READS IS OF BULK AT MOST 1048576: true; the input reads as it did. -/
def conditionTextsUptoRow : OpenClaim := { program := "ytghlhejdfgkjaaagreatdoor", sum := "4b7890dedc63453a42d45fc50da35d5b14b5b425706e1a3faa3b63389f45bf4a", func := "dataenclave/dataenclavelaw05.ConditionTexts", spec := "conditionTexts", unfollowed := true, recurses := true, named := ["strconv.ErrSyntax", "strconv.ErrRange", "internal/strconv.uint64pow10", "math/bits.deBruijn32tab", "math/bits.deBruijn64tab"], apart := false, laid := [("math/bits.deBruijn32tab", laid_math_bits_deBruijn32tab), ("math/bits.deBruijn64tab", laid_math_bits_deBruijn64tab), ("internal/strconv.uint64pow10", laid_internal_strconv_uint64pow10), ("strconv.ErrRange", laid_strconv_ErrRange), ("strconv.ErrSyntax", laid_strconv_ErrSyntax)], narrowed := true }
def ConditionTextsUptoSaid : Prop := conditionTextsUptoRow.holds Tryz.pinned (OpenSpec.upto conditionTextsSpec)

/-- 'dataenclavelaw17.TypesPrograms', WHERE WHAT IT READS IS OF BULK AT MOST 1048576: true; the input reads as it did. -/
def typesProgramsUptoRow : OpenClaim := { program := "ytghlhejdfgkjaaagreatdoor", sum := "4b7890dedc63453a42d45fc50da35d5b14b5b425706e1a3faa3b63389f45bf4a", func := "dataenclave/dataenclavelaw17.TypesPrograms", spec := "typesPrograms", unfollowed := true, recurses := true, named := ["internal/strconv.uint64pow10", "math/bits.deBruijn32tab", "math/bits.deBruijn64tab"], loops := true, apart := false, laid := [("math/bits.deBruijn32tab", laid_math_bits_deBruijn32tab), ("math/bits.deBruijn64tab", laid_math_bits_deBruijn64tab), ("internal/strconv.uint64pow10", laid_internal_strconv_uint64pow10)], narrowed := true }
def TypesProgramsUptoSaid : Prop := typesProgramsUptoRow.holds Tryz.pinned (OpenSpec.upto typesProgramsSpec)

/-- 'dataenclavelaw17.TypesFiner', WHERE WHAT IT READS IS OF BULK AT MOST 1048576: true; the input reads as it did. -/
def typesFinerUptoRow : OpenClaim := { program := "ytghlhejdfgkjaaagreatdoor", sum := "4b7890dedc63453a42d45fc50da35d5b14b5b425706e1a3faa3b63389f45bf4a", func := "dataenclave/dataenclavelaw17.TypesFiner", spec := "typesFiner", unfollowed := true, recurses := true, named := ["internal/strconv.uint64pow10", "math/bits.deBruijn32tab", "math/bits.deBruijn64tab"], apart := false, laid := [("math/bits.deBruijn32tab", laid_math_bits_deBruijn32tab), ("math/bits.deBruijn64tab", laid_math_bits_deBruijn64tab), ("internal/strconv.uint64pow10", laid_internal_strconv_uint64pow10)], narrowed := true }
def TypesFinerUptoSaid : Prop := typesFinerUptoRow.holds Tryz.pinned (OpenSpec.upto typesFinerSpec)

/-- 'dataenclavelaw17.TypesLeast', WHERE WHAT IT READS IS OF BULK AT MOST 1048576: true; the input reads as it did. -/
def typesLeastUptoRow : OpenClaim := { program := "ytghlhejdfgkjaaagreatdoor", sum := "4b7890dedc63453a42d45fc50da35d5b14b5b425706e1a3faa3b63389f45bf4a", func := "dataenclave/dataenclavelaw17.TypesLeast", spec := "typesLeast", unfollowed := true, recurses := true, named := ["internal/strconv.uint64pow10", "math/bits.deBruijn32tab", "math/bits.deBruijn64tab"], apart := false, laid := [("math/bits.deBruijn32tab", laid_math_bits_deBruijn32tab), ("math/bits.deBruijn64tab", laid_math_bits_deBruijn64tab), ("internal/strconv.uint64pow10", laid_internal_strconv_uint64pow10)], narrowed := true }
def TypesLeastUptoSaid : Prop := typesLeastUptoRow.holds Tryz.pinned (OpenSpec.upto typesLeastSpec)

/-- 'dataenclavelaw17.TypesKinds', WHERE WHAT IT READS IS OF BULK AT MOST 1048576: true; the input reads as it did. -/
def typesKindsUptoRow : OpenClaim := { program := "ytghlhejdfgkjaaagreatdoor", sum := "4b7890dedc63453a42d45fc50da35d5b14b5b425706e1a3faa3b63389f45bf4a", func := "dataenclave/dataenclavelaw17.TypesKinds", spec := "typesKinds", unfollowed := true, recurses := true, named := ["internal/strconv.uint64pow10", "math/bits.deBruijn32tab", "math/bits.deBruijn64tab"], apart := false, laid := [("math/bits.deBruijn32tab", laid_math_bits_deBruijn32tab), ("math/bits.deBruijn64tab", laid_math_bits_deBruijn64tab), ("internal/strconv.uint64pow10", laid_internal_strconv_uint64pow10)], narrowed := true }
def TypesKindsUptoSaid : Prop := typesKindsUptoRow.holds Tryz.pinned (OpenSpec.upto typesKindsSpec)

end Rows
end Go.Proofs.YtghlhejdfgkjaaaGreatDoor

/-
  NARROWER THAN 'FOR EVERY INPUT', by the rows' own cells (each row's printed sentence says how): TabulateMakes: loops, laid · TabulateCounts: loops, laid · TabulateFinds: laid · TabulateAdds: laid · TabulateDivides: laid · TabulateCoarser: laid · TabulateParts: laid · TabulateDominates: laid.
  DERIVED. THE GIVEN ROWS OF THIS SEAT. 8 by the template 'for every input the law returns true; each argument reads behind the call as it read before'; 0 by the template 'total and deterministic' (their statements: YtiphlhoclaogjaaGreatDoorTotals.lean).
  GIVEN WITH THE SEED: the statements are not yours to turn. If you find one false, say at which input.
  Laid BY PROGRAM, IN A SANDBOX (cutbox-rows.mjs): the forced cells as the released guide's own fill.sh prints them over the translation 7585b7a6b91ccb2d… (all of the seat's roots in one cut). By AI agents, Wed Nov 11 2026. No macro, syntax, notation, axiom, sorry.
-/
import Derived.Test.YtiphlhoclaogjaaGreatDoorChecked
import GoSem.Claim
import GoSem.ClaimJoined
import GoSem.ClaimMapViews
import Derived.JoinedTies
import Derived.KernelRfl
namespace Go.Proofs.YtiphlhoclaogjaaGreatDoor
/- THE CELL 'sum', in the pinned program and in every row, IS THE sha256 OF THE DUMP (.gsa) THAT YtiphlhoclaogjaaGreatDoorProg.lean LOADS. Nothing in Lean hashes anything: it is a label: what it is worth is what the hold of that sum in a sandbox is worth. -/
noncomputable def Tryz.pinned : Pinned := { name := "ytiphlhoclaogjaagreatdoor", sum := "7585b7a6b91ccb2d31af3b74d57ab5120d042329994077aa5f98066f497bb5cc", checked := Tryz.checked }
namespace Rows
def none {H : Type} : Left H := { results := [], args := [] }

/- WHAT THE LISTED PACKAGE-LEVEL VARIABLES READ AS WHEN THE CALL BEGINS. Each datum BY PROGRAM (the guide's laid-datum.mjs) off the statement by which the dump's own 'gosem.cut.vars' lays the variable. In a bare row this is a premise. The card (YtiphlhoclaogjaaGreatDoorCards.lean) ties it to the program's text. -/
def laid_math_bits_deBruijn32tab {H : Type} : DataW H := .agg [.lit (.int .u8 0), .lit (.int .u8 1), .lit (.int .u8 28), .lit (.int .u8 2), .lit (.int .u8 29), .lit (.int .u8 14), .lit (.int .u8 24), .lit (.int .u8 3), .lit (.int .u8 30), .lit (.int .u8 22), .lit (.int .u8 20), .lit (.int .u8 15), .lit (.int .u8 25), .lit (.int .u8 17), .lit (.int .u8 4), .lit (.int .u8 8), .lit (.int .u8 31), .lit (.int .u8 27), .lit (.int .u8 13), .lit (.int .u8 23), .lit (.int .u8 21), .lit (.int .u8 19), .lit (.int .u8 16), .lit (.int .u8 7), .lit (.int .u8 26), .lit (.int .u8 12), .lit (.int .u8 18), .lit (.int .u8 6), .lit (.int .u8 11), .lit (.int .u8 5), .lit (.int .u8 10), .lit (.int .u8 9)]
def laid_math_bits_deBruijn64tab {H : Type} : DataW H := .agg [.lit (.int .u8 0), .lit (.int .u8 1), .lit (.int .u8 56), .lit (.int .u8 2), .lit (.int .u8 57), .lit (.int .u8 49), .lit (.int .u8 28), .lit (.int .u8 3), .lit (.int .u8 61), .lit (.int .u8 58), .lit (.int .u8 42), .lit (.int .u8 50), .lit (.int .u8 38), .lit (.int .u8 29), .lit (.int .u8 17), .lit (.int .u8 4), .lit (.int .u8 62), .lit (.int .u8 47), .lit (.int .u8 59), .lit (.int .u8 36), .lit (.int .u8 45), .lit (.int .u8 43), .lit (.int .u8 51), .lit (.int .u8 22), .lit (.int .u8 53), .lit (.int .u8 39), .lit (.int .u8 33), .lit (.int .u8 30), .lit (.int .u8 24), .lit (.int .u8 18), .lit (.int .u8 12), .lit (.int .u8 5), .lit (.int .u8 63), .lit (.int .u8 55), .lit (.int .u8 48), .lit (.int .u8 27), .lit (.int .u8 60), .lit (.int .u8 41), .lit (.int .u8 37), .lit (.int .u8 16), .lit (.int .u8 46), .lit (.int .u8 35), .lit (.int .u8 44), .lit (.int .u8 21), .lit (.int .u8 52), .lit (.int .u8 32), .lit (.int .u8 23), .lit (.int .u8 11), .lit (.int .u8 54), .lit (.int .u8 26), .lit (.int .u8 40), .lit (.int .u8 15), .lit (.int .u8 34), .lit (.int .u8 20), .lit (.int .u8 31), .lit (.int .u8 10), .lit (.int .u8 25), .lit (.int .u8 14), .lit (.int .u8 19), .lit (.int .u8 9), .lit (.int .u8 13), .lit (.int .u8 8), .lit (.int .u8 7), .lit (.int .u8 6)]
def laid_internal_strconv_uint64pow10 {H : Type} : DataW H := .agg [.lit (.int .u64 1), .lit (.int .u64 10), .lit (.int .u64 100), .lit (.int .u64 1000), .lit (.int .u64 10000), .lit (.int .u64 100000), .lit (.int .u64 1000000), .lit (.int .u64 10000000), .lit (.int .u64 100000000), .lit (.int .u64 1000000000), .lit (.int .u64 10000000000), .lit (.int .u64 100000000000), .lit (.int .u64 1000000000000), .lit (.int .u64 10000000000000), .lit (.int .u64 100000000000000), .lit (.int .u64 1000000000000000), .lit (.int .u64 10000000000000000), .lit (.int .u64 100000000000000000), .lit (.int .u64 1000000000000000000), .lit (.int .u64 10000000000000000000)]

/-- 'dataenclavelaw18.TabulateMakes': WHATEVER THE INPUT: true; the input reads as it did. -/
def tabulateMakesSpec : ChangeSpec := { name := "tabulateMakes", fn := fun _ => fun
  | [d1, d2, d3, d4, d5] => { results := [.lit (.bool true)], args := [d1, d2, d3, d4, d5] }
  | _ => none }
def tabulateMakesRow : OpenClaim := { program := "ytiphlhoclaogjaagreatdoor", sum := "7585b7a6b91ccb2d31af3b74d57ab5120d042329994077aa5f98066f497bb5cc", func := "dataenclave/dataenclavelaw18.TabulateMakes", spec := "tabulateMakes", unfollowed := true, recurses := true, named := ["internal/strconv.uint64pow10", "math/bits.deBruijn32tab", "math/bits.deBruijn64tab"], loops := true, apart := false, laid := [("math/bits.deBruijn32tab", laid_math_bits_deBruijn32tab), ("math/bits.deBruijn64tab", laid_math_bits_deBruijn64tab), ("internal/strconv.uint64pow10", laid_internal_strconv_uint64pow10)] }
def TabulateMakesSaid : Prop := tabulateMakesRow.holds Tryz.pinned (OpenSpec.ofChange tabulateMakesSpec)

/-- ITS FALSE NEIGHBOUR: 'it returns false'. Refute it at one input. -/
def tabulateMakesWrong : ChangeSpec := { name := "tabulateMakes", fn := fun _ => fun
  | [d1, d2, d3, d4, d5] => { results := [.lit (.bool false)], args := [d1, d2, d3, d4, d5] }
  | _ => none }
def TabulateMakesWrongFalsely : Prop := tabulateMakesRow.holds Tryz.pinned (OpenSpec.ofChange tabulateMakesWrong)

/-- 'dataenclavelaw18.TabulateCounts': WHATEVER THE INPUT: true; the input reads as it did. -/
def tabulateCountsSpec : ChangeSpec := { name := "tabulateCounts", fn := fun _ => fun
  | [d1, d2, d3] => { results := [.lit (.bool true)], args := [d1, d2, d3] }
  | _ => none }
def tabulateCountsRow : OpenClaim := { program := "ytiphlhoclaogjaagreatdoor", sum := "7585b7a6b91ccb2d31af3b74d57ab5120d042329994077aa5f98066f497bb5cc", func := "dataenclave/dataenclavelaw18.TabulateCounts", spec := "tabulateCounts", unfollowed := true, recurses := true, named := ["internal/strconv.uint64pow10", "math/bits.deBruijn32tab", "math/bits.deBruijn64tab"], loops := true, apart := false, laid := [("math/bits.deBruijn32tab", laid_math_bits_deBruijn32tab), ("math/bits.deBruijn64tab", laid_math_bits_deBruijn64tab), ("internal/strconv.uint64pow10", laid_internal_strconv_uint64pow10)] }
def TabulateCountsSaid : Prop := tabulateCountsRow.holds Tryz.pinned (OpenSpec.ofChange tabulateCountsSpec)

/-- ITS FALSE NEIGHBOUR: 'it returns false'. Refute it at one input. -/
def tabulateCountsWrong : ChangeSpec := { name := "tabulateCounts", fn := fun _ => fun
  | [d1, d2, d3] => { results := [.lit (.bool false)], args := [d1, d2, d3] }
  | _ => none }
def TabulateCountsWrongFalsely : Prop := tabulateCountsRow.holds Tryz.pinned (OpenSpec.ofChange tabulateCountsWrong)

/-- 'dataenclavelaw18.TabulateFinds': WHATEVER THE INPUT: true; the input reads as it did. -/
def tabulateFindsSpec : ChangeSpec := { name := "tabulateFinds", fn := fun _ => fun
  | [d1, d2, d3, d4, d5] => { results := [.lit (.bool true)], args := [d1, d2, d3, d4, d5] }
  | _ => none }
def tabulateFindsRow : OpenClaim := { program := "ytiphlhoclaogjaagreatdoor", sum := "7585b7a6b91ccb2d31af3b74d57ab5120d042329994077aa5f98066f497bb5cc", func := "dataenclave/dataenclavelaw18.TabulateFinds", spec := "tabulateFinds", unfollowed := true, recurses := true, named := ["internal/strconv.uint64pow10", "math/bits.deBruijn32tab", "math/bits.deBruijn64tab"], apart := false, laid := [("math/bits.deBruijn32tab", laid_math_bits_deBruijn32tab), ("math/bits.deBruijn64tab", laid_math_bits_deBruijn64tab), ("internal/strconv.uint64pow10", laid_internal_strconv_uint64pow10)] }
def TabulateFindsSaid : Prop := tabulateFindsRow.holds Tryz.pinned (OpenSpec.ofChange tabulateFindsSpec)

/-- ITS FALSE NEIGHBOUR: 'it returns false'. Refute it at one input. -/
def tabulateFindsWrong : ChangeSpec := { name := "tabulateFinds", fn := fun _ => fun
  | [d1, d2, d3, d4, d5] => { results := [.lit (.bool false)], args := [d1, d2, d3, d4, d5] }
  | _ => none }
def TabulateFindsWrongFalsely : Prop := tabulateFindsRow.holds Tryz.pinned (OpenSpec.ofChange tabulateFindsWrong)

/-- 'dataenclavelaw18.TabulateAdds': WHATEVER THE INPUT: true; the input reads as it did. -/
def tabulateAddsSpec : ChangeSpec := { name := "tabulateAdds", fn := fun _ => fun
  | [d] => { results := [.lit (.bool true)], args := [d] }
  | _ => none }
def tabulateAddsRow : OpenClaim := { program := "ytiphlhoclaogjaagreatdoor", sum := "7585b7a6b91ccb2d31af3b74d57ab5120d042329994077aa5f98066f497bb5cc", func := "dataenclave/dataenclavelaw18.TabulateAdds", spec := "tabulateAdds", unfollowed := true, recurses := true, named := ["internal/strconv.uint64pow10", "math/bits.deBruijn32tab", "math/bits.deBruijn64tab"], apart := false, laid := [("math/bits.deBruijn32tab", laid_math_bits_deBruijn32tab), ("math/bits.deBruijn64tab", laid_math_bits_deBruijn64tab), ("internal/strconv.uint64pow10", laid_internal_strconv_uint64pow10)] }
def TabulateAddsSaid : Prop := tabulateAddsRow.holds Tryz.pinned (OpenSpec.ofChange tabulateAddsSpec)

/-- ITS FALSE NEIGHBOUR: 'it returns false'. Refute it at one input. -/
def tabulateAddsWrong : ChangeSpec := { name := "tabulateAdds", fn := fun _ => fun
  | [d] => { results := [.lit (.bool false)], args := [d] }
  | _ => none }
def TabulateAddsWrongFalsely : Prop := tabulateAddsRow.holds Tryz.pinned (OpenSpec.ofChange tabulateAddsWrong)

/-- 'dataenclavelaw18.TabulateDivides': WHATEVER THE INPUT: true; the input reads as it did. -/
def tabulateDividesSpec : ChangeSpec := { name := "tabulateDivides", fn := fun _ => fun
  | [d] => { results := [.lit (.bool true)], args := [d] }
  | _ => none }
def tabulateDividesRow : OpenClaim := { program := "ytiphlhoclaogjaagreatdoor", sum := "7585b7a6b91ccb2d31af3b74d57ab5120d042329994077aa5f98066f497bb5cc", func := "dataenclave/dataenclavelaw18.TabulateDivides", spec := "tabulateDivides", unfollowed := true, recurses := true, named := ["internal/strconv.uint64pow10", "math/bits.deBruijn32tab", "math/bits.deBruijn64tab"], apart := false, laid := [("math/bits.deBruijn32tab", laid_math_bits_deBruijn32tab), ("math/bits.deBruijn64tab", laid_math_bits_deBruijn64tab), ("internal/strconv.uint64pow10", laid_internal_strconv_uint64pow10)] }
def TabulateDividesSaid : Prop := tabulateDividesRow.holds Tryz.pinned (OpenSpec.ofChange tabulateDividesSpec)

/-- ITS FALSE NEIGHBOUR: 'it returns false'. Refute it at one input. -/
def tabulateDividesWrong : ChangeSpec := { name := "tabulateDivides", fn := fun _ => fun
  | [d] => { results := [.lit (.bool false)], args := [d] }
  | _ => none }
def TabulateDividesWrongFalsely : Prop := tabulateDividesRow.holds Tryz.pinned (OpenSpec.ofChange tabulateDividesWrong)

/-- 'dataenclavelaw18.TabulateCoarser': WHATEVER THE INPUT: true; the input reads as it did. -/
def tabulateCoarserSpec : ChangeSpec := { name := "tabulateCoarser", fn := fun _ => fun
  | [d1, d2] => { results := [.lit (.bool true)], args := [d1, d2] }
  | _ => none }
def tabulateCoarserRow : OpenClaim := { program := "ytiphlhoclaogjaagreatdoor", sum := "7585b7a6b91ccb2d31af3b74d57ab5120d042329994077aa5f98066f497bb5cc", func := "dataenclave/dataenclavelaw18.TabulateCoarser", spec := "tabulateCoarser", unfollowed := true, recurses := true, named := ["internal/strconv.uint64pow10", "math/bits.deBruijn32tab", "math/bits.deBruijn64tab"], apart := false, laid := [("math/bits.deBruijn32tab", laid_math_bits_deBruijn32tab), ("math/bits.deBruijn64tab", laid_math_bits_deBruijn64tab), ("internal/strconv.uint64pow10", laid_internal_strconv_uint64pow10)] }
def TabulateCoarserSaid : Prop := tabulateCoarserRow.holds Tryz.pinned (OpenSpec.ofChange tabulateCoarserSpec)

/-- ITS FALSE NEIGHBOUR: 'it returns false'. Refute it at one input. -/
def tabulateCoarserWrong : ChangeSpec := { name := "tabulateCoarser", fn := fun _ => fun
  | [d1, d2] => { results := [.lit (.bool false)], args := [d1, d2] }
  | _ => none }
def TabulateCoarserWrongFalsely : Prop := tabulateCoarserRow.holds Tryz.pinned (OpenSpec.ofChange tabulateCoarserWrong)

/-- 'dataenclavelaw18.TabulateParts': WHATEVER THE INPUT: true; the input reads as it did. -/
def tabulatePartsSpec : ChangeSpec := { name := "tabulateParts", fn := fun _ => fun
  | [d] => { results := [.lit (.bool true)], args := [d] }
  | _ => none }
def tabulatePartsRow : OpenClaim := { program := "ytiphlhoclaogjaagreatdoor", sum := "7585b7a6b91ccb2d31af3b74d57ab5120d042329994077aa5f98066f497bb5cc", func := "dataenclave/dataenclavelaw18.TabulateParts", spec := "tabulateParts", unfollowed := true, recurses := true, named := ["internal/strconv.uint64pow10", "math/bits.deBruijn32tab", "math/bits.deBruijn64tab"], apart := false, laid := [("math/bits.deBruijn32tab", laid_math_bits_deBruijn32tab), ("math/bits.deBruijn64tab", laid_math_bits_deBruijn64tab), ("internal/strconv.uint64pow10", laid_internal_strconv_uint64pow10)] }
def TabulatePartsSaid : Prop := tabulatePartsRow.holds Tryz.pinned (OpenSpec.ofChange tabulatePartsSpec)

/-- ITS FALSE NEIGHBOUR: 'it returns false'. Refute it at one input. -/
def tabulatePartsWrong : ChangeSpec := { name := "tabulateParts", fn := fun _ => fun
  | [d] => { results := [.lit (.bool false)], args := [d] }
  | _ => none }
def TabulatePartsWrongFalsely : Prop := tabulatePartsRow.holds Tryz.pinned (OpenSpec.ofChange tabulatePartsWrong)

/-- 'dataenclavelaw18.TabulateDominates': WHATEVER THE INPUT: true; the input reads as it did. -/
def tabulateDominatesSpec : ChangeSpec := { name := "tabulateDominates", fn := fun _ => fun
  | [d] => { results := [.lit (.bool true)], args := [d] }
  | _ => none }
def tabulateDominatesRow : OpenClaim := { program := "ytiphlhoclaogjaagreatdoor", sum := "7585b7a6b91ccb2d31af3b74d57ab5120d042329994077aa5f98066f497bb5cc", func := "dataenclave/dataenclavelaw18.TabulateDominates", spec := "tabulateDominates", unfollowed := true, recurses := true, named := ["internal/strconv.uint64pow10", "math/bits.deBruijn32tab", "math/bits.deBruijn64tab"], apart := false, laid := [("math/bits.deBruijn32tab", laid_math_bits_deBruijn32tab), ("math/bits.deBruijn64tab", laid_math_bits_deBruijn64tab), ("internal/strconv.uint64pow10", laid_internal_strconv_uint64pow10)] }
def TabulateDominatesSaid : Prop := tabulateDominatesRow.holds Tryz.pinned (OpenSpec.ofChange tabulateDominatesSpec)

/-- ITS FALSE NEIGHBOUR: 'it returns false'. Refute it at one input. -/
def tabulateDominatesWrong : ChangeSpec := { name := "tabulateDominates", fn := fun _ => fun
  | [d] => { results := [.lit (.bool false)], args := [d] }
  | _ => none }
def TabulateDominatesWrongFalsely : Prop := tabulateDominatesRow.holds Tryz.pinned (OpenSpec.ofChange tabulateDominatesWrong)

/- THE SECOND FORM. 'bulk': how many values and letters a reading holds, each counted each time it is reached (what is shared counts as often as it is met; a slice's spare places count too). A statement '..UptoSaid' is the law's where the arguments, and the package variables that the reading takes, are together of bulk at most 1048576: NARROWER than '..Said'. Prove '..Said' where nothing that the law and all that it calls make is longer than what came in: it says more and counts as full. Else prove '..UptoSaid'. A law counts once. -/
mutual
def uptoBulk {H : Type} : DataW H → Nat
  | .lit (.string bytes) => bytes.length + 1
  | .lit _ => 1
  | .nil => 1
  | .ptr d => uptoBulk d + 1
  | .slice elems spare => uptoBulkAll elems + uptoBulkAll spare + 1
  | .agg parts => uptoBulkAll parts + 1
  | .iface _ d => uptoBulk d + 1
  | .map entries => uptoBulkEntries entries + 1
  | .held _ => 1
def uptoBulkAll {H : Type} : List (DataW H) → Nat
  | [] => 0
  | d :: r => uptoBulk d + uptoBulkAll r
def uptoBulkEntries {H : Type} : List (Lit × DataW H) → Nat
  | [] => 0
  | x :: r => uptoBulkEntry x + uptoBulkEntries r
def uptoBulkEntry {H : Type} : Lit × DataW H → Nat
  | (.string bytes, d) => bytes.length + uptoBulk d + 1
  | (_, d) => uptoBulk d + 1
 end
def uptoSmall : (H : Type) → List (DataW H) → Bool := fun _ ds => decide (uptoBulkAll ds ≤ 1048576)
def OpenSpec.upto (s : _root_.Go.ChangeSpec) : _root_.Go.OpenSpec := { _root_.Go.OpenSpec.ofChange s with cond := some uptoSmall }

/-- 'dataenclavelaw18.TabulateMakes', WHERE WHAT IT READS IS OF BULK AT MOST 1048576: true; the input reads as it did. -/
def tabulateMakesUptoRow : OpenClaim := { program := "ytiphlhoclaogjaagreatdoor", sum := "7585b7a6b91ccb2d31af3b74d57ab5120d042329994077aa5f98066f497bb5cc", func := "dataenclave/dataenclavelaw18.TabulateMakes", spec := "tabulateMakes", unfollowed := true, recurses := true, named := ["internal/strconv.uint64pow10", "math/bits.deBruijn32tab", "math/bits.deBruijn64tab"], loops := true, apart := false, laid := [("math/bits.deBruijn32tab", laid_math_bits_deBruijn32tab), ("math/bits.deBruijn64tab", laid_math_bits_deBruijn64tab), ("internal/strconv.uint64pow10", laid_internal_strconv_uint64pow10)], narrowed := true }
def TabulateMakesUptoSaid : Prop := tabulateMakesUptoRow.holds Tryz.pinned (OpenSpec.upto tabulateMakesSpec)

/-- 'dataenclavelaw18.TabulateCounts', WHERE WHAT IT READS IS OF BULK AT MOST 1048576: true; the input reads as it did. -/
def tabulateCountsUptoRow : OpenClaim := { program := "ytiphlhoclaogjaagreatdoor", sum := "7585b7a6b91ccb2d31af3b74d57ab5120d042329994077aa5f98066f497bb5cc", func := "dataenclave/dataenclavelaw18.TabulateCounts", spec := "tabulateCounts", unfollowed := true, recurses := true, named := ["internal/strconv.uint64pow10", "math/bits.deBruijn32tab", "math/bits.deBruijn64tab"], loops := true, apart := false, laid := [("math/bits.deBruijn32tab", laid_math_bits_deBruijn32tab), ("math/bits.deBruijn64tab", laid_math_bits_deBruijn64tab), ("internal/strconv.uint64pow10", laid_internal_strconv_uint64pow10)], narrowed := true }
def TabulateCountsUptoSaid : Prop := tabulateCountsUptoRow.holds Tryz.pinned (OpenSpec.upto tabulateCountsSpec)

/-- 'dataenclavelaw18.TabulateFinds', WHERE WHAT IT READS IS OF BULK AT MOST 1048576: true; the input reads as it did. -/
def tabulateFindsUptoRow : OpenClaim := { program := "ytiphlhoclaogjaagreatdoor", sum := "7585b7a6b91ccb2d31af3b74d57ab5120d042329994077aa5f98066f497bb5cc", func := "dataenclave/dataenclavelaw18.TabulateFinds", spec := "tabulateFinds", unfollowed := true, recurses := true, named := ["internal/strconv.uint64pow10", "math/bits.deBruijn32tab", "math/bits.deBruijn64tab"], apart := false, laid := [("math/bits.deBruijn32tab", laid_math_bits_deBruijn32tab), ("math/bits.deBruijn64tab", laid_math_bits_deBruijn64tab), ("internal/strconv.uint64pow10", laid_internal_strconv_uint64pow10)], narrowed := true }
def TabulateFindsUptoSaid : Prop := tabulateFindsUptoRow.holds Tryz.pinned (OpenSpec.upto tabulateFindsSpec)

/-- 'dataenclavelaw18.TabulateAdds', WHERE WHAT IT READS IS OF BULK AT MOST 1048576: true; the input reads as it did. -/
def tabulateAddsUptoRow : OpenClaim := { program := "ytiphlhoclaogjaagreatdoor", sum := "7585b7a6b91ccb2d31af3b74d57ab5120d042329994077aa5f98066f497bb5cc", func := "dataenclave/dataenclavelaw18.TabulateAdds", spec := "tabulateAdds", unfollowed := true, recurses := true, named := ["internal/strconv.uint64pow10", "math/bits.deBruijn32tab", "math/bits.deBruijn64tab"], apart := false, laid := [("math/bits.deBruijn32tab", laid_math_bits_deBruijn32tab), ("math/bits.deBruijn64tab", laid_math_bits_deBruijn64tab), ("internal/strconv.uint64pow10", laid_internal_strconv_uint64pow10)], narrowed := true }
def TabulateAddsUptoSaid : Prop := tabulateAddsUptoRow.holds Tryz.pinned (OpenSpec.upto tabulateAddsSpec)

/-- 'dataenclavelaw18.TabulateDivides', WHERE WHAT IT READS IS OF BULK AT MOST 1048576: true; the input reads as it did. -/
def tabulateDividesUptoRow : OpenClaim := { program := "ytiphlhoclaogjaagreatdoor", sum := "7585b7a6b91ccb2d31af3b74d57ab5120d042329994077aa5f98066f497bb5cc", func := "dataenclave/dataenclavelaw18.TabulateDivides", spec := "tabulateDivides", unfollowed := true, recurses := true, named := ["internal/strconv.uint64pow10", "math/bits.deBruijn32tab", "math/bits.deBruijn64tab"], apart := false, laid := [("math/bits.deBruijn32tab", laid_math_bits_deBruijn32tab), ("math/bits.deBruijn64tab", laid_math_bits_deBruijn64tab), ("internal/strconv.uint64pow10", laid_internal_strconv_uint64pow10)], narrowed := true }
def TabulateDividesUptoSaid : Prop := tabulateDividesUptoRow.holds Tryz.pinned (OpenSpec.upto tabulateDividesSpec)

/-- 'dataenclavelaw18.TabulateCoarser', WHERE WHAT IT READS IS OF BULK AT MOST 1048576: true; the input reads as it did. -/
def tabulateCoarserUptoRow : OpenClaim := { program := "ytiphlhoclaogjaagreatdoor", sum := "7585b7a6b91ccb2d31af3b74d57ab5120d042329994077aa5f98066f497bb5cc", func := "dataenclave/dataenclavelaw18.TabulateCoarser", spec := "tabulateCoarser", unfollowed := true, recurses := true, named := ["internal/strconv.uint64pow10", "math/bits.deBruijn32tab", "math/bits.deBruijn64tab"], apart := false, laid := [("math/bits.deBruijn32tab", laid_math_bits_deBruijn32tab), ("math/bits.deBruijn64tab", laid_math_bits_deBruijn64tab), ("internal/strconv.uint64pow10", laid_internal_strconv_uint64pow10)], narrowed := true }
def TabulateCoarserUptoSaid : Prop := tabulateCoarserUptoRow.holds Tryz.pinned (OpenSpec.upto tabulateCoarserSpec)

/-- 'dataenclavelaw18.TabulateParts', WHERE WHAT IT READS IS OF BULK AT MOST 1048576: true; the input reads as it did. -/
def tabulatePartsUptoRow : OpenClaim := { program := "ytiphlhoclaogjaagreatdoor", sum := "7585b7a6b91ccb2d31af3b74d57ab5120d042329994077aa5f98066f497bb5cc", func := "dataenclave/dataenclavelaw18.TabulateParts", spec := "tabulateParts", unfollowed := true, recurses := true, named := ["internal/strconv.uint64pow10", "math/bits.deBruijn32tab", "math/bits.deBruijn64tab"], apart := false, laid := [("math/bits.deBruijn32tab", laid_math_bits_deBruijn32tab), ("math/bits.deBruijn64tab", laid_math_bits_deBruijn64tab), ("internal/strconv.uint64pow10", laid_internal_strconv_uint64pow10)], narrowed := true }
def TabulatePartsUptoSaid : Prop := tabulatePartsUptoRow.holds Tryz.pinned (OpenSpec.upto tabulatePartsSpec)

/-- 'dataenclavelaw18.TabulateDominates', WHERE WHAT IT READS IS OF BULK AT MOST 1048576: true; the input reads as it did. -/
def tabulateDominatesUptoRow : OpenClaim := { program := "ytiphlhoclaogjaagreatdoor", sum := "7585b7a6b91ccb2d31af3b74d57ab5120d042329994077aa5f98066f497bb5cc", func := "dataenclave/dataenclavelaw18.TabulateDominates", spec := "tabulateDominates", unfollowed := true, recurses := true, named := ["internal/strconv.uint64pow10", "math/bits.deBruijn32tab", "math/bits.deBruijn64tab"], apart := false, laid := [("math/bits.deBruijn32tab", laid_math_bits_deBruijn32tab), ("math/bits.deBruijn64tab", laid_math_bits_deBruijn64tab), ("internal/strconv.uint64pow10", laid_internal_strconv_uint64pow10)], narrowed := true }
def TabulateDominatesUptoSaid : Prop := tabulateDominatesUptoRow.holds Tryz.pinned (OpenSpec.upto tabulateDominatesSpec)

end Rows
end Go.Proofs.YtiphlhoclaogjaaGreatDoor

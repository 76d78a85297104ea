/- Chapter 1: the lists that can be drawn are few. -/
import Derived.Test.YtmiaihoallkjfaaDoorDr3
import Derived.Test.YtmiaihoallkjfaaDoorCo9
namespace Go.Proofs.YtmiaihoallkjfaaDoor
open Go Go.Av
set_option linter.unusedVariables false
set_option linter.unnecessarySimpa false
set_option linter.unusedSimpArgs false

/-- So many codes below each. -/
def lF : List Code → Nat → List Nat → List Code
  | cs, _, [] => cs
  | cs, p, r :: rs => lF (lAdd cs p r) (p + 1) rs
def twos : Nat → List (List Nat)
  | 0 => [[]]
  | k + 1 => (twos k).flatMap fun r => [1 :: r, 2 :: r]
theorem lCodes_mem (l : List UInt8) : ∀ (k p : Nat) (s : List Code × Nat), ∃ rs ∈ twos k, (lCodes l s p k).1 = lF s.1 p rs
  | 0, p, s => ⟨[], by simp [twos], rfl⟩
  | k + 1, p, s => by
    have h2 := nxt_lt l s.2 (n := 2) (by omega)
    obtain ⟨rs, h, e⟩ := lCodes_mem l k (p + 1) (lAdd s.1 p (1 + (nxt l s.2 2).1), (nxt l s.2 2).2)
    refine ⟨(1 + (nxt l s.2 2).1) :: rs, ?_, ?_⟩
    · rw [twos, List.mem_flatMap]
      refine ⟨rs, h, ?_⟩
      rcases (show (nxt l s.2 2).1 = 0 ∨ (nxt l s.2 2).1 = 1 by omega) with e | e <;> rw [e] <;> simp
    · rw [lCodes, e]; rfl
def fam : List (List Code) := [1, 2, 3].flatMap fun kids => kCodes kids :: (twos kids).map fun rs => lF (kCodes kids) 0 rs
theorem listS_mem (l : List UInt8) (a : Nat) : (listS l a).1 ∈ fam := by
  have h3 := nxt_lt l a (n := 3) (by omega)
  unfold fam
  rw [List.mem_flatMap]
  refine ⟨1 + (nxt l a 3).1, ?_, ?_⟩
  · rcases (show (nxt l a 3).1 = 0 ∨ (nxt l a 3).1 = 1 ∨ (nxt l a 3).1 = 2 by omega) with e | e | e <;> rw [e] <;> simp
  · unfold listS
    simp only
    split
    · simp
    · obtain ⟨rs, h, e⟩ := lCodes_mem l (1 + (nxt l a 3).1) 0 (kCodes (1 + (nxt l a 3).1), (nxt l (nxt l a 3).2 2).2)
      rw [e]
      exact List.mem_cons_of_mem _ (List.mem_map.2 ⟨rs, h, rfl⟩)

/-! ### What holds of each -/
def climbB (cs : List Code) : Bool := (List.range cs.length).all fun k => decide (0 ≤ levelS oneN cs k ∧ levelS oneN cs k ≤ 5) && ((List.range ((levelS oneN cs k).toNat + 1)).all fun a =>
    decide (levelS oneN cs (upS oneN cs k a) = a) && underS oneN cs k (upS oneN cs k a) && (List.range (a + 1)).all fun b => decide (upS oneN cs (upS oneN cs k a) b = upS oneN cs k b)) &&
  decide (upS oneN cs k (levelS oneN cs k) = k) && decide (upS oneN cs k (levelS oneN cs k + 1) = -1) && decide (upS oneN cs k 0 = 0)
def countU (cs : List Code) (leaf : Nat) (at' : List Nat) : Nat := (at'.filter fun (k : Nat) => underS oneN cs leaf k).length
def sumA (cs : List Code) (n : Nat) : Nat := ((List.range n).map fun (lv : Nat) => (atS oneN cs lv).length).sum
def divideB (cs : List Code) : Bool := decide (1 ≤ levelsS oneN cs ∧ levelsS oneN cs ≤ 5) && ((List.range (levelsS oneN cs).toNat).all fun (lv : Nat) => (atS oneN cs (levelsS oneN cs - 1)).all fun leaf => decide (countU cs leaf (atS oneN cs lv) = 1)) && decide (sumA cs (levelsS oneN cs).toNat = cs.length)
def deeperC (k : Int) : Code := ⟨[100, 101, 101, 112, 101, 114], k⟩
def parentsB (cs : List Code) : Bool := ((List.range cs.length).all fun i => match cs[i]? with
    | some c => decide (-1 ≤ levelS oneN cs i ∧ levelS oneN cs i ≤ 5) && decide (-1 ≤ levelS oneN cs c.parent ∧ levelS oneN cs c.parent ≤ 5) && (decide (i = 0) || (decide (upS oneN cs i (levelS oneN cs i - 1) = c.parent) && decide (levelS oneN cs i = levelS oneN cs c.parent + 1)))
    | none => false) && decide (1 ≤ levelsS oneN cs ∧ levelsS oneN cs ≤ 5) && !(decide ((atS oneN cs (levelsS oneN cs - 1)).length = 0)) &&
  ((atS oneN cs (levelsS oneN cs - 1)).all fun k => decide (chk oneN (cs ++ [deeperC k]) = if (atS oneN cs (levelsS oneN cs - 1)).length = 1 then 0 else 5)) && decide (levelS oneN cs 0 = 0)
set_option maxRecDepth 100000 in
theorem fam_climb : fam.all climbB = true := by decide +kernel
set_option maxRecDepth 100000 in
theorem fam_divide : fam.all divideB = true := by decide +kernel
set_option maxRecDepth 100000 in
theorem fam_parents : fam.all parentsB = true := by decide +kernel
end Go.Proofs.YtmiaihoallkjfaaDoor

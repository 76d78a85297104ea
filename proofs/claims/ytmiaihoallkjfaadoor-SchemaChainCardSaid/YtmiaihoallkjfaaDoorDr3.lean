/- Chapter 1: a made list in which something is another thing. -/
import Derived.Test.YtmiaihoallkjfaaDoorDr2
namespace Go.Proofs.YtmiaihoallkjfaaDoor
open Go Go.Av
attribute [local irreducible] AWp AOps AAny DQ retQ retG St.le FCall GCall
set_option linter.unusedVariables false
set_option linter.unnecessarySimpa false
set_option linter.unusedSimpArgs false

theorem lAdd_length (cs : List Code) (p : Nat) : ∀ k, (lAdd cs p k).length = cs.length + k
  | 0 => rfl
  | k + 1 => by
    unfold lAdd
    induction k generalizing cs with
    | zero => simp [lAdd]
    | succ k ih => rw [lAdd, ih]; simp; omega
theorem lCodes_length (l : List UInt8) : ∀ (k p : Nat) (s : List Code × Nat), s.1.length ≤ (lCodes l s p k).1.length ∧ (lCodes l s p k).1.length ≤ s.1.length + 2 * k
  | 0, p, s => ⟨Nat.le_refl _, Nat.le_refl _⟩
  | k + 1, p, s => by
    unfold lCodes
    have h := lCodes_length l k (p + 1) (lAdd s.1 p (1 + (nxt l s.2 2).1), (nxt l s.2 2).2)
    have h2 := nxt_lt l s.2 (n := 2) (by omega)
    rw [lAdd_length] at h
    omega
theorem listS_length (l : List UInt8) (a : Nat) : 2 ≤ (listS l a).1.length ∧ (listS l a).1.length ≤ 10 := by
  unfold listS
  have h3 := nxt_lt l a (n := 3) (by omega)
  simp only
  split
  · rw [kCodes_length]; omega
  · have h := lCodes_length l (1 + (nxt l a 3).1) 0 (kCodes (1 + (nxt l a 3).1), (nxt l (nxt l a 3).2 2).2)
    rw [kCodes_length] at h
    omega

abbrev oneN : List UInt8 := [111, 110, 101]
def spoiltS (l : List UInt8) (at' by' : Int) (name : List UInt8) : List UInt8 × List Code :=
  let s := listS (l.take 400) 0
  let k := (mod' at' s.1.length).toNat
  match (nxt (l.take 400) s.2 6).1 with
  | 1 => (oneN, s.1.set k ⟨(s.1.getD k ⟨[], 0⟩).name, by'⟩)
  | 2 => (oneN, s.1.set k ⟨name, (s.1.getD k ⟨[], 0⟩).parent⟩)
  | 3 => (name, s.1)
  | 4 => (oneN, s.1 ++ [⟨name, mod' by' s.1.length⟩])
  | _ => (oneN, s.1)
theorem spoiltS_length (l : List UInt8) (at' by' : Int) (name : List UInt8) : (spoiltS l at' by' name).2.length ≤ 11 := by
  have h := listS_length (l.take 400) 0
  unfold spoiltS
  simp only
  split <;> simp <;> omega

theorem map_setC (cs : List Code) (k : Nat) (c : Code) : (cs.map cA).set k (cA c) = (cs.set k c).map cA := List.map_set.symm
end Go.Proofs.YtmiaihoallkjfaaDoor

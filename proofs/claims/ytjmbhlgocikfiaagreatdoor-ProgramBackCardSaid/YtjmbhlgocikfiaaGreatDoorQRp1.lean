/- Chapter 5: how the reference reads conditions: a text that is printed is read, and a text that is read is printed. -/
import Derived.Test.YtjmbhlgocikfiaaGreatDoorQBk2
set_option linter.unusedVariables false
set_option linter.unnecessarySimpa false
set_option linter.unusedSimpArgs false
namespace Go.Proofs.YtjmbhlgocikfiaaGreatDoor
open Go Go.Av
attribute [local irreducible] AWp AOps AAny MAny DQ retQ retG St.le FCall GCall
set_option maxRecDepth 100000
def isN (b : UInt8) : Bool := decide (b.toNat ≠ 32 ∧ b.toNat ≠ 40 ∧ b.toNat ≠ 41)
def digV (l : List UInt8) : Nat := l.foldl (fun n b => 10 * n + (b.toNat - 48)) 0
theorem digV_snoc (l : List UInt8) (b : UInt8) : digV (l ++ [b]) = 10 * digV l + (b.toNat - 48) := by
 unfold digV; rw [List.foldl_append]; rfl
theorem digV_dec (u : Nat) : digV (Lib.decDigits u) = u ∧ (Lib.decDigits u).all digB = true ∧ 1 ≤ (Lib.decDigits u).length := by
 induction u using Nat.strongRecOn with
 | ind u ih =>
  rw [Lib.decDigits]
  by_cases h1 : u < 10
  ·rw [dif_pos h1]
   have e := dig_n h1
   refine ⟨?_,?_,by simp⟩
   ·have := digV_snoc [] (UInt8.ofNat (48 + u))
    rw [List.nil_append] at this
    rw [this,e]
    show 10 * 0 + (48 + u - 48) = u
    omega
   ·simp only [List.all_cons,List.all_nil,Bool.and_true,digB,decide_eq_true_eq]
    omega
  ·rw [dif_neg h1]
   obtain ⟨i1,i2,i3⟩ := ih (u / 10) (by omega)
   have hd : u % 10 < 10 := by omega
   have e := dig_n hd
   refine ⟨?_,?_,by simp⟩
   ·rw [digV_snoc,i1,e]; omega
   ·rw [List.all_append,i2]
    simp only [List.all_cons,List.all_nil,Bool.and_true,Bool.true_and,digB,decide_eq_true_eq]
    omega
def StopN (u : List UInt8) : Prop := ∀ b r,u = b :: r → isN b = false
theorem isW_N {b : UInt8} (h : isW b = true) : isN b = true := by
 unfold isW at h
 unfold isN
 have := of_decide_eq_true h
 exact decide_eq_true (by omega)
theorem StopN.stops {u : List UInt8} (h : StopN u) : Stops u := fun b r e => by
 have h1 := h b r e
 cases hw : isW b
 ·rfl
 ·rw [isW_N hw] at h1; cases h1
end Go.Proofs.YtjmbhlgocikfiaaGreatDoor

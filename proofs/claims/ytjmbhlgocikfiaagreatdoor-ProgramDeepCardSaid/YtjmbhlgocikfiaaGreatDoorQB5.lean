/- The choices: New, Next, Range, One, Mod. The text of a small number; a drawn list of codes. Chapter 1: a made list in which something is another thing. Chapter 1: the lists that can be drawn are few. -/
import Derived.Test.YtjmbhlgocikfiaaGreatDoorQAvTy
import Derived.Test.YtjmbhlgocikfiaaGreatDoorQE3
import Derived.Test.YtjmbhlgocikfiaaGreatDoorQB4
namespace Go.Proofs.YtjmbhlgocikfiaaGreatDoor
open Go Go.Av
attribute [local irreducible] AWp AOps AAny DQ retQ retG St.le FCall GCall
set_option linter.unusedVariables false
set_option linter.unnecessarySimpa false
set_option linter.unusedSimpArgs false
def digs : Nat → Nat → List UInt8
  | 0, _ => []
  | f + 1, n => if n < 10 then [UInt8.ofNat (48 + n)] else digs f (n / 10) ++ [UInt8.ofNat (48 + n % 10)]
def itoaN (n : Nat) : List UInt8 := digs 20 n
def kCode (i : Nat) : Code := ⟨[107] ++ itoaN i, 0⟩
def lCode (n p : Nat) : Code := ⟨[108] ++ itoaN n, 1 + p⟩
def topC : Code := ⟨[116, 111, 112], -1⟩
def kCodes (kids : Nat) : List Code := topC :: (List.range kids).map kCode
def lAdd (cs : List Code) (p : Nat) : Nat → List Code
  | 0 => cs
  | k + 1 => lAdd (cs ++ [lCode cs.length p]) p k
end Go.Proofs.YtjmbhlgocikfiaaGreatDoor
namespace Go.Proofs.YtjmbhlgocikfiaaGreatDoor
open Go Go.Av
set_option linter.unusedVariables false
set_option linter.unnecessarySimpa false
set_option linter.unusedSimpArgs false
def lF : List Code → Nat → List Nat → List Code
  | cs, _, [] => cs
  | cs, p, r :: rs => lF (lAdd cs p r) (p + 1) rs
def twos : Nat → List (List Nat)
  | 0 => [[]]
  | k + 1 => (twos k).flatMap fun r => [1 :: r, 2 :: r]
def fam : List (List Code) := [1, 2, 3].flatMap fun kids => kCodes kids :: (twos kids).map fun rs => lF (kCodes kids) 0 rs
end Go.Proofs.YtjmbhlgocikfiaaGreatDoor

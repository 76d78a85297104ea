/- Chapter 5: the reference's counts of a condition. -/
import Derived.Test.YtjmbhlgocikfiaaGreatDoorQC1
namespace Go.Proofs.YtjmbhlgocikfiaaGreatDoor
open Go Go.Av
attribute [local irreducible] AWp AOps AAny MAny DQ retQ retG St.le FCall GCall
set_option linter.unusedVariables false
set_option linter.unnecessarySimpa false
set_option linter.unusedSimpArgs false
set_option maxRecDepth 100000
mutual
def rcntS : Cnd → Int → Int
  | .mk _ _ _ _ _ ks, most => rcntL ks most 1
def rcntL : List Cnd → Int → Int → Int
  | [], _, n => n
  | x :: r, most, n => if n < most then rcntL r most (n + rcntS x (most - n)) else n
end
abbrev isB (s : Sch) (col kind : Int) : Bool := decide (0 ≤ col ∧ col < s.cols.length ∧ (colAt s col).kind = kind)
end Go.Proofs.YtjmbhlgocikfiaaGreatDoor

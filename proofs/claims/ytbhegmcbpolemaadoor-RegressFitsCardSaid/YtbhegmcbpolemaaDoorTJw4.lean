/- Chapter 19: rows on a plane, plain. -/
import Derived.Test.YtbhegmcbpolemaaDoorTJp7
set_option linter.unusedVariables false
set_option linter.unnecessarySimpa false
set_option linter.unusedSimpArgs false
namespace Go.Proofs.YtbhegmcbpolemaaDoor
open Go Go.Av
attribute [local irreducible] E4 B6 F1 E7 DQ F6 F9 St.le B5 D4
set_option maxRecDepth 100000
theorem e9 {a b A B:Int} (h1:-A ≤ a ∧ a ≤ A) (h2:-B ≤ b ∧ b ≤ B):-(A * B) ≤ a * b ∧ a * b ≤ A * B:=by
 have e:((a * b).natAbs:Int) ≤ A * B:=by
  rw [Int.natAbs_mul,Int.natCast_mul]
  exact Int.mul_le_mul (by omega) (by omega) (by omega) (by omega)
 omega
theorem EX {r:List Int} {B:Int} (h0:0 ≤ B) (h:∀ x ∈ r, -B ≤ x ∧ x ≤ B) (i:Nat):-B ≤ r.getD i 0 ∧ r.getD i 0 ≤ B:=by
 rw [List.getD_eq_getElem?_getD]
 cases e:r[i]? with
 | none=>simp;omega
 | some x=>exact h x (List.mem_of_getElem? e)
end Go.Proofs.YtbhegmcbpolemaaDoor

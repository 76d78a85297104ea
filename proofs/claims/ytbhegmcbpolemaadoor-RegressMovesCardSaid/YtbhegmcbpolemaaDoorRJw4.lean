/- Chapter 19: rows on a plane, plain. -/
import Derived.Test.YtbhegmcbpolemaaDoorRJp7
set_option linter.unusedVariables false
set_option linter.unnecessarySimpa false
set_option linter.unusedSimpArgs false
namespace Go.Proofs.YtbhegmcbpolemaaDoor
open Go Go.Av
attribute [local irreducible] E2 B3 F6 E9 DQ G2 H3 St.le B4 D7
set_option maxRecDepth 100000
theorem N3 {a b A B:Int} (h1:-A ≤ a ∧ a ≤ A) (h2:-B ≤ b ∧ b ≤ B):-(A * B) ≤ a * b ∧ a * b ≤ A * B:=by
 have e:((a * b).natAbs:Int) ≤ A * B:=by
  rw [Int.natAbs_mul,Int.natCast_mul]
  exact Int.mul_le_mul (by omega) (by omega) (by omega) (by omega)
 omega
theorem BS {r:List Int} {B:Int} (h0:0 ≤ B) (h:∀ x ∈ r, -B ≤ x ∧ x ≤ B) (i:Nat):-B ≤ r.getD i 0 ∧ r.getD i 0 ≤ B:=by
 rw [List.getD_eq_getElem?_getD]
 cases e:r[i]? with
 | none=>simp;omega
 | some x=>exact h x (List.mem_of_getElem? e)
theorem Cd {r:List Int} (h:∀ x ∈ r.drop 1, -9 ≤ x ∧ x ≤ 20):∀ x ∈ B9 r, -20 ≤ x ∧ x ≤ 20:=by
 intro x hx
 rcases List.mem_cons.1 hx with e | e
 ·subst e;decide
 ·have:=h x e;omega
end Go.Proofs.YtbhegmcbpolemaaDoor

/- Plain lists: the first error, the first place, and what was passed. -/
import Derived.Test.YtbhegmcbpolemaaDoorQAvTy
set_option linter.unusedVariables false
set_option linter.unnecessarySimpa false
set_option linter.unusedSimpArgs false
namespace Go.Proofs.YtbhegmcbpolemaaDoor
open Go Go.Av
attribute [local irreducible] E2 B3 G0 F3 DQ H4 H7 St.le B7 E1
set_option maxRecDepth 100000
theorem Nf {α:Type} {l:List α} {k:Nat} {x:α} (h:l[k]? = some x):l.drop k = x :: l.drop (k + 1):=by
 obtain ⟨h1,h2⟩:=List.getElem?_eq_some_iff.1 h
 rw [List.drop_eq_getElem_cons h1,h2]
theorem CH {α:Type} {l:List α} {k:Nat} {x:α} (h:l[k]? = some x):l.take (k + 1) = l.take k ++ [x]:=by
 rw [List.take_add_one,h];rfl
def BA {α:Type} (p:α → Bool):List α → Int → Int
 | [],_=>-1
 | x :: r,k=>if p x = true then k else BA p r (k + 1)
theorem HA {α:Type} (p:α → Bool):∀ (l:List α) (k:Int),0 ≤ k → decide (0 ≤ BA p l k) = l.any p
 | [],k,_=>by simp [BA]
 | x :: r,k,h=>by
   unfold BA
   by_cases hp:p x = true
   ·rw [if_pos hp];simp [hp,h]
   ·rw [if_neg hp,HA p r (k + 1) (by omega)]
    simp [hp]
end Go.Proofs.YtbhegmcbpolemaaDoor

/- Plain lists: the first error, the first place, and what was passed. -/
import Derived.Test.YtbhegmcbpolemaaDoorSAvTy
set_option linter.unusedVariables false
set_option linter.unnecessarySimpa false
set_option linter.unusedSimpArgs false
namespace Go.Proofs.YtbhegmcbpolemaaDoor
open Go Go.Av
attribute [local irreducible] E3 B5 F2 F0 DQ F5 G8 St.le B6 D3
set_option maxRecDepth 100000
theorem Oc {α:Type} {l:List α} {k:Nat} {x:α} (h:l[k]? = some x):l.drop k = x :: l.drop (k + 1):=by
 obtain ⟨h1,h2⟩:=List.getElem?_eq_some_iff.1 h
 rw [List.drop_eq_getElem_cons h1,h2]
theorem Cp {α:Type} {l:List α} {k:Nat} {x:α} (h:l[k]? = some x):l.take (k + 1) = l.take k ++ [x]:=by
 rw [List.take_add_one,h];rfl
def Bb {α:Type} (p:α → Bool):List α → Int → Int
 | [],_=>-1
 | x :: r,k=>if p x = true then k else Bb p r (k + 1)
theorem Ho {α:Type} (p:α → Bool):∀ (l:List α) (k:Int),0 ≤ k → decide (0 ≤ Bb p l k) = l.any p
 | [],k,_=>by simp [Bb]
 | x :: r,k,h=>by
   unfold Bb
   by_cases hp:p x = true
   ·rw [if_pos hp];simp [hp,h]
   ·rw [if_neg hp,Ho p r (k + 1) (by omega)]
    simp [hp]
end Go.Proofs.YtbhegmcbpolemaaDoor

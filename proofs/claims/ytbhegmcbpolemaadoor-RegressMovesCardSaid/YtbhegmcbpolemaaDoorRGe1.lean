/- Plain lists: the first error, the first place, and what was passed. -/
import Derived.Test.YtbhegmcbpolemaaDoorRAvTy
set_option linter.unusedVariables false
set_option linter.unnecessarySimpa false
set_option linter.unusedSimpArgs false
namespace Go.Proofs.YtbhegmcbpolemaaDoor
open Go Go.Av
attribute [local irreducible] E2 B3 F6 E9 DQ G2 H3 St.le B4 D7
set_option maxRecDepth 100000
theorem OX {α:Type} {l:List α} {k:Nat} {x:α} (h:l[k]? = some x):l.drop k = x :: l.drop (k + 1):=by
 obtain ⟨h1,h2⟩:=List.getElem?_eq_some_iff.1 h
 rw [List.drop_eq_getElem_cons h1,h2]
theorem Ce {α:Type} {l:List α} {k:Nat} {x:α} (h:l[k]? = some x):l.take (k + 1) = l.take k ++ [x]:=by
 rw [List.take_add_one,h];rfl
def BW {α:Type} (p:α → Bool):List α → Int → Int
 | [],_=>-1
 | x :: r,k=>if p x = true then k else BW p r (k + 1)
theorem Hf {α:Type} (p:α → Bool):∀ (l:List α) (k:Int),0 ≤ k → decide (0 ≤ BW p l k) = l.any p
 | [],k,_=>by simp [BW]
 | x :: r,k,h=>by
   unfold BW
   by_cases hp:p x = true
   ·rw [if_pos hp];simp [hp,h]
   ·rw [if_neg hp,Hf p r (k + 1) (by omega)]
    simp [hp]
end Go.Proofs.YtbhegmcbpolemaaDoor

/- Nothing laid is an empty row: in arguments of calls, and in rows of one's own. -/
import Derived.Test.YtbhegmcbpolemaaDoorRAvTy
set_option linter.unusedVariables false
set_option linter.unnecessarySimpa false
set_option linter.unusedSimpArgs false
namespace Go.Proofs.YtbhegmcbpolemaaDoor
open Go Go.Av
attribute [local irreducible] E2 B3 F6 E9 DQ G2 H3 St.le B4 D7
set_option maxRecDepth 100000
def Ly:List AV → List AV → Prop
 | [],[]=>True
 | x :: r,y :: s=>NL x y ∧ Ly r s
 | _,_=>False
theorem Ly.get:∀ {l m:List AV},Ly l m → l.length = m.length ∧ ∀ (j:Nat) x y,l[j]? = some x → m[j]? = some y → NL x y
 | [],[],_=>⟨rfl,fun j x y h=>by simp at h⟩
 | a :: r,b :: s,h=>by
   obtain ⟨h1,h2⟩:=Ly.get h.2
   refine ⟨by simp [h1],fun j x y hx hy=>?_⟩
   cases j with
   | zero=>simp at hx hy;subst hx hy;exact h.1
   | succ j=>exact h2 j x y (by simpa using hx) (by simpa using hy)
 | [],_ :: _,h=>h.elim
 | _ :: _,[],h=>h.elim
theorem Lz {l m:List AV} (h:Ly l m):NL (.agg l) (.agg m):=.agg l m h.get.1 h.get.2
end Go.Proofs.YtbhegmcbpolemaaDoor

/- Nothing laid is an empty row: in arguments of calls, and in rows of one's own. -/
import Derived.Test.YtbhegmcbpolemaaDoorSAvTy
set_option linter.unusedVariables false
set_option linter.unnecessarySimpa false
set_option linter.unusedSimpArgs false
namespace Go.Proofs.YtbhegmcbpolemaaDoor
open Go Go.Av
attribute [local irreducible] E3 B5 F2 F0 DQ F5 G8 St.le B6 D3
set_option maxRecDepth 100000
def Lu:List AV → List AV → Prop
 | [],[]=>True
 | x :: r,y :: s=>NL x y ∧ Lu r s
 | _,_=>False
theorem Lu.get:∀ {l m:List AV},Lu l m → l.length = m.length ∧ ∀ (j:Nat) x y,l[j]? = some x → m[j]? = some y → NL x y
 | [],[],_=>⟨rfl,fun j x y h=>by simp at h⟩
 | a :: r,b :: s,h=>by
   obtain ⟨h1,h2⟩:=Lu.get h.2
   refine ⟨by simp [h1],fun j x y hx hy=>?_⟩
   cases j with
   | zero=>simp at hx hy;subst hx hy;exact h.1
   | succ j=>exact h2 j x y (by simpa using hx) (by simpa using hy)
 | [],_ :: _,h=>h.elim
 | _ :: _,[],h=>h.elim
theorem Lv {l m:List AV} (h:Lu l m):NL (.agg l) (.agg m):=.agg l m h.get.1 h.get.2
end Go.Proofs.YtbhegmcbpolemaaDoor

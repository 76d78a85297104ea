/- Draws: conditions. -/
import Derived.Test.YtjmbhlgocikfiaaGreatDoorQB13
import Derived.Test.YtjmbhlgocikfiaaGreatDoorQB12
import Derived.Test.YtjmbhlgocikfiaaGreatDoorQB5
import Derived.Test.YtjmbhlgocikfiaaGreatDoorQCd1
namespace Go.Proofs.YtjmbhlgocikfiaaGreatDoor
open Go Go.Av
attribute [local irreducible] AWp AOps AAny MAny DQ retQ retG St.le FCall GCall
set_option linter.unusedVariables false
set_option linter.unnecessarySimpa false
set_option linter.unusedSimpArgs false
set_option maxRecDepth 100000
theorem le_slot {E : Env} {n : Nat} {σ : St} (d : Nat) {x : AV} (y : AV) (hd : Av.look σ.sl d = some x) (hn : NL x y) : St.le E n σ (σ.put d y) := by
  unfold St.le
  rintro a w ⟨θ, h⟩
  refine ⟨θ, h.size, h.defers, h.fr, fun s z hs => ?_, h.owns, h.apart, h.mine, h.X, h.base⟩
  simp only [St.put, look_cons] at hs
  by_cases e : d = s
  · subst e
    rw [if_pos rfl] at hs
    cases hs
    exact nl_rel hn (h.slots d x hd)
  · rw [if_neg e] at hs
    exact h.slots s z hs
theorem nl_leaf (o c k lo hi : Int) : NL (.agg [.i o, .i c, .i k, .i lo, .i hi, .v (.slice none 0 0)]) (cndA (.mk o c k lo hi [])) :=
  nl_agg ⟨.refl _, .refl _, .refl _, .refl _, .refl _, .nil 6, trivial⟩
theorem nl_one (o : Int) (x : Cnd) : NL (.agg [.i o, .i 0, .i 0, .i 0, .i 0, .sl 6 [cndX x]]) (cndA (.mk o 0 0 0 0 [x])) := by
  rw [← cndX_eq]; exact .refl _
theorem nl_two (o : Int) (x y : Cnd) : NL (.agg [.i o, .i 0, .i 0, .i 0, .i 0, .sl 6 [cndX x, cndX y]]) (cndA (.mk o 0 0 0 0 [x, y])) := by
  rw [← cndX_eq, ← cndX_eq]; exact .refl _
abbrev cndT : Nat := 50
end Go.Proofs.YtjmbhlgocikfiaaGreatDoor

/- A contract whose result is memory of one's own, said with less. Contracts whose results are memory of one's own, said with what that memory holds. -/
import Derived.Test.YtepdcljecfibpaaGreatDoorQAvTy
import Derived.Test.YtepdcljecfibpaaGreatDoorQE3
import Derived.Test.YtepdcljecfibpaaGreatDoorQB13
import Derived.Test.YtepdcljecfibpaaGreatDoorQSx
import Derived.Test.YtepdcljecfibpaaGreatDoorQB12
namespace Go.Av
open Go Go.RowKit
theorem gcall_le {P : Program} {f m0 m1 m2 : Nat} {hp0 hp1 hp2 : Hp} {args : List AV} {r r2 : AV} (h : GCall P f m0 hp0 args m1 hp1 r) (hm : Nat.ble m0 m1 = true) (hle : ∀ E : Env, E.n0 = m0 → St.le E 1 ⟨[(0, r)], m1, hp1⟩ ⟨[(0, r2)], m2, hp2⟩) : GCall P f m0 hp0 args m2 hp2 r2 := by
  refine ⟨h.1, fun X θ w vs hX htab hbk hl hvs => ?_⟩
  refine Calls.mono (h.2 X θ w vs hX htab hbk hl hvs) ?_
  rintro e w' ⟨⟨v, θ', rfl, hv, hbk', hown, hθ⟩, hos, htape, hout, hsize, hblock⟩
  have sat : Sat ⟨w, X, owned θ hp0, θ, m0, htab⟩ 1 ⟨[(0, r)], m1, hp1⟩ { tmps := #[v], defers := [] } w' := by
    refine ⟨θ', rfl, rfl, ⟨hos, htape, hout, hsize, hblock⟩, fun s x hs => ?_, hbk'.owns, hbk'.apart, fun i b k hi hk => ⟨hbk'.fresh i b k hi hk, hown i b k hi hk⟩, hX, ⟨Nat.ble_eq ▸ hm, hθ⟩⟩
    rw [look_cons] at hs
    split at hs
    · rename_i e0
      subst e0
      cases hs
      exact hv
    · cases hs
  obtain ⟨θ2, hs⟩ := hle _ rfl _ _ sat
  have hr := hs.slots 0 r2 rfl
  exact ⟨⟨v, θ2, rfl, hr, ⟨hs.owns, hs.apart, fun i b k hi hk => (hs.mine i b k hi hk).1⟩, fun i b k hi hk => (hs.mine i b k hi hk).2, hs.base.2⟩, hs.fr.os, hs.fr.tape, hs.fr.output, hs.fr.size, hs.fr.block⟩
end Go.Av
namespace Go.Proofs.YtepdcljecfibpaaGreatDoor
open Go Go.Av
attribute [local irreducible] AWp AOps AAny MAny DQ retQ retG St.le FCall GCall
set_option linter.unusedVariables false
set_option linter.unnecessarySimpa false
set_option linter.unusedSimpArgs false
set_option maxRecDepth 100000
theorem schc_draw (l : List UInt8) (a : Nat) (hl : l.length ≤ 400) : GCall Tryz.prog 7 1 (drB l a) [.ref 0 0] 1 (drB l (schS l a).2) (sA (schS l a).1) :=
  gcall_le (sch_call l a hl) rfl fun E h0 => le_of h0 rfl ⟨rfl, trivial⟩ ⟨rfl, trivial⟩ rfl rfl rfl
end Go.Proofs.YtepdcljecfibpaaGreatDoor

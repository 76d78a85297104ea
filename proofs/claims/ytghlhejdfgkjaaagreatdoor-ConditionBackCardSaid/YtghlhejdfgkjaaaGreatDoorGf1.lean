/- Contracts whose results are memory of one's own, said with what that memory holds. -/
import Derived.Test.YtghlhejdfgkjaaaGreatDoorGf0
import Derived.Test.YtghlhejdfgkjaaaGreatDoorB14
import Derived.Test.YtghlhejdfgkjaaaGreatDoorB12
namespace Go.Proofs.YtghlhejdfgkjaaaGreatDoor
open Go Go.Av
attribute [local irreducible] AWp AOps AAny MAny DQ retQ retG St.le FCall GCall
set_option linter.unusedVariables false
set_option linter.unnecessarySimpa false
set_option linter.unusedSimpArgs false
set_option maxRecDepth 100000

theorem schc_draw (l : List UInt8) (a : Nat) (hl : l.length ≤ 400) : GCall Tryz.prog 18 1 (drB l a) [.ref 0 0] 1 (drB l (schS l a).2) (sA (schS l a).1) :=
  gcall_le (sch_call l a hl) rfl fun E h0 => le_of h0 rfl ⟨rfl, trivial⟩ ⟨rfl, trivial⟩ rfl rfl rfl
theorem rowc_draw (l : List UInt8) (a : Nat) (s : Sch) (hd : Drawn s) (hl : l.length ≤ 400) : GCall Tryz.prog 23 1 (drB l a) [.ref 0 0, sA s] 1 (drB l (rowS l a s).2) (.sl 1 ((rowS l a s).1.map wA)) :=
  gcall_le (row_draw l a s hd hl) rfl fun E h0 => le_of h0 rfl ⟨rfl, trivial⟩ ⟨rfl, trivial⟩ rfl rfl rfl
end Go.Proofs.YtghlhejdfgkjaaaGreatDoor

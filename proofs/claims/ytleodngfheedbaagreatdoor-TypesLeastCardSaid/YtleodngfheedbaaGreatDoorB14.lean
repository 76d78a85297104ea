/- Draws: values, rows and picks: the walks. -/
import Derived.Test.YtleodngfheedbaaGreatDoorB13
import Derived.Test.YtleodngfheedbaaGreatDoorSx
namespace Go.Proofs.YtleodngfheedbaaGreatDoor
open Go Go.Av
attribute [local irreducible] AWp AOps AAny MAny DQ retQ retG St.le FCall GCall
set_option linter.unusedVariables false
set_option linter.unnecessarySimpa false
set_option linter.unusedSimpArgs false
set_option maxRecDepth 100000

theorem valS_1 {l : List UInt8} {a : Nat} {s : Sch} {k : Int} {c : Col} (hca : colAt s k = c) (h : c.kind = 1) : valS l a s k = (1 + ((nxt l a 60).1 : Int), (nxt l a 60).2) := by unfold valS; dsimp only; rw [hca, if_pos h]
theorem valS_2 {l : List UInt8} {a : Nat} {s : Sch} {k : Int} {c : Col} (hca : colAt s k = c) (h1 : ¬ c.kind = 1) (h : c.kind = 2) : valS l a s k = ((((lvsS s k).getD (nxt l a (lvsS s k).length).1 0 : Nat) : Int), (nxt l a (lvsS s k).length).2) := by unfold valS; dsimp only; rw [hca, if_neg h1, if_pos h]
theorem valS_3 {l : List UInt8} {a : Nat} {s : Sch} {k : Int} {c : Col} (hca : colAt s k = c) (h1 : ¬ c.kind = 1) (h2 : ¬ c.kind = 2) (h : c.opt = true) (h4 : ((nxt l a 4).1 : Int) = 3) : valS l a s k = ((-1099511627776), (nxt l a 4).2) := by unfold valS; dsimp only; rw [hca, if_neg h1, if_neg h2, if_pos h, if_pos h4]
theorem valS_4 {l : List UInt8} {a : Nat} {s : Sch} {k : Int} {c : Col} (hca : colAt s k = c) (h1 : ¬ c.kind = 1) (h2 : ¬ c.kind = 2) (h : c.opt = true) (h4 : ¬ ((nxt l a 4).1 : Int) = 3) : valS l a s k = (c.low + ((nxt l (nxt l a 4).2 (c.high - c.low + 1)).1 : Int), (nxt l (nxt l a 4).2 (c.high - c.low + 1)).2) := by unfold valS; dsimp only; rw [hca, if_neg h1, if_neg h2, if_pos h, if_neg h4]
theorem valS_5 {l : List UInt8} {a : Nat} {s : Sch} {k : Int} {c : Col} (hca : colAt s k = c) (h1 : ¬ c.kind = 1) (h2 : ¬ c.kind = 2) (h : c.opt = false) : valS l a s k = (c.low + ((nxt l a (c.high - c.low + 1)).1 : Int), (nxt l a (c.high - c.low + 1)).2) := by unfold valS; dsimp only; rw [hca, if_neg h1, if_neg h2, if_neg (by rw [h]; exact Bool.false_ne_true)]
end Go.Proofs.YtleodngfheedbaaGreatDoor

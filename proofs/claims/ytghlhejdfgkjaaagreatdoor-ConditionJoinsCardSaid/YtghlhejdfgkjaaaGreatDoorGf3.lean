/- Conditions made of others. -/
import Derived.Test.YtghlhejdfgkjaaaGreatDoorD2
namespace Go.Proofs.YtghlhejdfgkjaaaGreatDoor
open Go Go.Av
attribute [local irreducible] AWp AOps AAny MAny DQ retQ retG St.le FCall GCall
set_option linter.unusedVariables false
set_option linter.unnecessarySimpa false
set_option linter.unusedSimpArgs false
set_option maxRecDepth 100000

theorem one_eq (o : Int) (x : Cnd) : AV.agg [.i o, .i 0, .i 0, .i 0, .i 0, .sl 6 [cndX x]] = cndA (.mk o 0 0 0 0 [x]) := by
  rw [← cndX_eq]; rfl
theorem two_eq (o : Int) (x y : Cnd) : AV.agg [.i o, .i 0, .i 0, .i 0, .i 0, .sl 6 [cndX x, cndX y]] = cndA (.mk o 0 0 0 0 [x, y]) := by
  rw [← cndX_eq, ← cndX_eq]; rfl
theorem cnd_not {s : Sch} {a : Cnd} (h : cndE s a = 0) (ht : totS a ≤ 38) (hd : depS a ≤ 9) : cndE s (.mk 7 0 0 0 0 [a]) = 0 := by
  obtain ⟨h1, _, _, h4⟩ := cndE_parts h
  have := tot_one 7 a
  exact cndE_of h1 (by omega) (by omega) (chk_not h4)
theorem cnd_two {s : Sch} {o : Int} {a b : Cnd} (ho : o = 5 ∨ o = 6) (ha : cndE s a = 0) (hb : cndE s b = 0) (ht : totS a + totS b ≤ 38) (hd : depS a ≤ 9 ∧ depS b ≤ 9) : cndE s (.mk o 0 0 0 0 [a, b]) = 0 := by
  obtain ⟨h1, _, _, h4⟩ := cndE_parts ha
  obtain ⟨_, _, _, h5⟩ := cndE_parts hb
  have := tot_two o a b
  exact cndE_of h1 (by omega) (by omega) (chk_two ho h4 h5)
end Go.Proofs.YtghlhejdfgkjaaaGreatDoor

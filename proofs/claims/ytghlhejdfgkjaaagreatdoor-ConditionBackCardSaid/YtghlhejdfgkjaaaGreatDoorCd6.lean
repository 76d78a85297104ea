/- Chapter 5: the first error of one condition, case by case. -/
import Derived.Test.YtghlhejdfgkjaaaGreatDoorCd3
namespace Go.Proofs.YtghlhejdfgkjaaaGreatDoor
open Go Go.Av
attribute [local irreducible] AWp AOps AAny MAny DQ retQ retG St.le FCall GCall
set_option linter.unusedVariables false
set_option linter.unnecessarySimpa false
set_option linter.unusedSimpArgs false
set_option maxRecDepth 100000

theorem kidN_of (op : Int) : (op = 5 ∨ op = 6 → kidN op = 2) ∧ (op = 7 → kidN op = 1) ∧ (op ≠ 5 → op ≠ 6 → op ≠ 7 → kidN op = 0) := by
  unfold kidN
  refine ⟨fun h => by rw [if_pos h], fun h => by rw [if_neg (by omega), if_pos h], fun h1 h2 h3 => by rw [if_neg (by omega), if_neg h3]⟩
theorem conE_4 {s : Sch} {c : Cnd} (h : c.op < 1 ∨ 7 < c.op) : conE s c = 4 := by unfold conE; rw [if_pos h]
theorem conE_11 {s : Sch} {c : Cnd} (h0 : 1 ≤ c.op ∧ c.op ≤ 7) (h : (c.kids.length : Int) ≠ kidN c.op ∨ ¬ (¬ (c.op ≠ 2 ∧ c.op ≠ 3 ∧ c.op ≠ 4 ∧ c.col ≠ 0) ∧ ¬ (c.op ≠ 2 ∧ c.code ≠ 0) ∧ (c.op = 3 ∨ c.lo = 0 ∧ c.hi = 0))) : conE s c = 11 := by unfold conE; rw [if_neg (by omega), if_pos h]
theorem conE_72 {s : Sch} {c : Cnd} (hp : (1 ≤ c.op ∧ c.op ≤ 7) ∧ (c.kids.length : Int) = kidN c.op ∧ ¬ (c.op ≠ 2 ∧ c.op ≠ 3 ∧ c.op ≠ 4 ∧ c.col ≠ 0) ∧ ¬ (c.op ≠ 2 ∧ c.code ≠ 0) ∧ (c.op = 3 ∨ c.lo = 0 ∧ c.hi = 0)) (h2 : c.op = 2) (h : ¬ (0 ≤ c.col ∧ c.col < s.cols.length ∧ (colAt s c.col).kind = 2)) : conE s c = 7 := by
  unfold conE
  rw [if_neg (by omega), if_neg (by omega), if_neg (by omega)]
  by_cases h3 : c.col < 0 ∨ (s.cols.length : Int) ≤ c.col
  · rw [if_pos h3]
  · rw [if_neg h3, if_pos h2, if_pos (by omega)]
theorem conE_73 {s : Sch} {c : Cnd} (hp : (1 ≤ c.op ∧ c.op ≤ 7) ∧ (c.kids.length : Int) = kidN c.op ∧ ¬ (c.op ≠ 2 ∧ c.op ≠ 3 ∧ c.op ≠ 4 ∧ c.col ≠ 0) ∧ ¬ (c.op ≠ 2 ∧ c.code ≠ 0) ∧ (c.op = 3 ∨ c.lo = 0 ∧ c.hi = 0)) (h2 : c.op = 3) (h : ¬ (0 ≤ c.col ∧ c.col < s.cols.length ∧ (colAt s c.col).kind = 3)) : conE s c = 7 := by
  unfold conE
  rw [if_neg (by omega), if_neg (by omega), if_neg (by omega)]
  by_cases h3 : c.col < 0 ∨ (s.cols.length : Int) ≤ c.col
  · rw [if_pos h3]
  · rw [if_neg h3, if_neg (by omega), if_pos h2, if_pos (by omega)]
theorem conE_74 {s : Sch} {c : Cnd} (hp : (1 ≤ c.op ∧ c.op ≤ 7) ∧ (c.kids.length : Int) = kidN c.op ∧ ¬ (c.op ≠ 2 ∧ c.op ≠ 3 ∧ c.op ≠ 4 ∧ c.col ≠ 0) ∧ ¬ (c.op ≠ 2 ∧ c.code ≠ 0) ∧ (c.op = 3 ∨ c.lo = 0 ∧ c.hi = 0)) (h2 : c.op = 4) (h : ¬ (0 ≤ c.col ∧ c.col < s.cols.length ∧ (colAt s c.col).kind = 3)) : conE s c = 7 := by
  unfold conE
  rw [if_neg (by omega), if_neg (by omega), if_neg (by omega)]
  by_cases h3 : c.col < 0 ∨ (s.cols.length : Int) ≤ c.col
  · rw [if_pos h3]
  · rw [if_neg h3, if_neg (by omega), if_neg (by omega), if_pos (by omega)]
theorem conE_74o {s : Sch} {c : Cnd} (hp : (1 ≤ c.op ∧ c.op ≤ 7) ∧ (c.kids.length : Int) = kidN c.op ∧ ¬ (c.op ≠ 2 ∧ c.op ≠ 3 ∧ c.op ≠ 4 ∧ c.col ≠ 0) ∧ ¬ (c.op ≠ 2 ∧ c.code ≠ 0) ∧ (c.op = 3 ∨ c.lo = 0 ∧ c.hi = 0)) (h2 : c.op = 4) {x : Col} (hx : s.cols[c.col.toNat]? = some x) (h : x.opt = false) : conE s c = 7 := by
  unfold conE
  rw [if_neg (by omega), if_neg (by omega), if_neg (by omega), colAt_get hx]
  by_cases h3 : c.col < 0 ∨ (s.cols.length : Int) ≤ c.col
  · rw [if_pos h3]
  · rw [if_neg h3, if_neg (by omega), if_neg (by omega), if_pos (.inr h)]
theorem conE_6 {s : Sch} {c : Cnd} (hp : (1 ≤ c.op ∧ c.op ≤ 7) ∧ (c.kids.length : Int) = kidN c.op ∧ ¬ (c.op ≠ 2 ∧ c.op ≠ 3 ∧ c.op ≠ 4 ∧ c.col ≠ 0) ∧ ¬ (c.op ≠ 2 ∧ c.code ≠ 0) ∧ (c.op = 3 ∨ c.lo = 0 ∧ c.hi = 0)) (h2 : c.op = 2) (h : 0 ≤ c.col ∧ c.col < s.cols.length ∧ (colAt s c.col).kind = 2) (h3 : c.code < 0 ∨ ((lstOf s (colAt s c.col)).2.length : Int) ≤ c.code) : conE s c = 6 := by
  unfold conE
  rw [if_neg (by omega), if_neg (by omega), if_neg (by omega), if_neg (by omega), if_pos h2, if_neg (by omega), if_pos h3]
theorem conE_2 {s : Sch} {c : Cnd} (hp : (1 ≤ c.op ∧ c.op ≤ 7) ∧ (c.kids.length : Int) = kidN c.op ∧ ¬ (c.op ≠ 2 ∧ c.op ≠ 3 ∧ c.op ≠ 4 ∧ c.col ≠ 0) ∧ ¬ (c.op ≠ 2 ∧ c.code ≠ 0) ∧ (c.op = 3 ∨ c.lo = 0 ∧ c.hi = 0)) (h2 : c.op = 3) (h : 0 ≤ c.col ∧ c.col < s.cols.length ∧ (colAt s c.col).kind = 3) (h3 : c.hi < c.lo ∨ c.lo < -1000000 ∨ 1000000 < c.hi) : conE s c = 2 := by
  unfold conE
  rw [if_neg (by omega), if_neg (by omega), if_neg (by omega), if_neg (by omega), if_neg (by omega), if_pos h2, if_neg (by omega), if_pos h3]
theorem conE_01 {s : Sch} {c : Cnd} (hp : (1 ≤ c.op ∧ c.op ≤ 7) ∧ (c.kids.length : Int) = kidN c.op ∧ ¬ (c.op ≠ 2 ∧ c.op ≠ 3 ∧ c.op ≠ 4 ∧ c.col ≠ 0) ∧ ¬ (c.op ≠ 2 ∧ c.code ≠ 0) ∧ (c.op = 3 ∨ c.lo = 0 ∧ c.hi = 0)) (h2 : c.op ≠ 2 ∧ c.op ≠ 3 ∧ c.op ≠ 4) : conE s c = 0 := by
  unfold conE
  rw [if_neg (by omega), if_neg (by omega), if_pos h2]
theorem conE_02 {s : Sch} {c : Cnd} (hp : (1 ≤ c.op ∧ c.op ≤ 7) ∧ (c.kids.length : Int) = kidN c.op ∧ ¬ (c.op ≠ 2 ∧ c.op ≠ 3 ∧ c.op ≠ 4 ∧ c.col ≠ 0) ∧ ¬ (c.op ≠ 2 ∧ c.code ≠ 0) ∧ (c.op = 3 ∨ c.lo = 0 ∧ c.hi = 0)) (h2 : c.op = 2) (h : 0 ≤ c.col ∧ c.col < s.cols.length ∧ (colAt s c.col).kind = 2) (h3 : ¬ (c.code < 0 ∨ ((lstOf s (colAt s c.col)).2.length : Int) ≤ c.code)) : conE s c = 0 := by
  unfold conE
  rw [if_neg (by omega), if_neg (by omega), if_neg (by omega), if_neg (by omega), if_pos h2, if_neg (by omega), if_neg h3]
theorem conE_03 {s : Sch} {c : Cnd} (hp : (1 ≤ c.op ∧ c.op ≤ 7) ∧ (c.kids.length : Int) = kidN c.op ∧ ¬ (c.op ≠ 2 ∧ c.op ≠ 3 ∧ c.op ≠ 4 ∧ c.col ≠ 0) ∧ ¬ (c.op ≠ 2 ∧ c.code ≠ 0) ∧ (c.op = 3 ∨ c.lo = 0 ∧ c.hi = 0)) (h2 : c.op = 3) (h : 0 ≤ c.col ∧ c.col < s.cols.length ∧ (colAt s c.col).kind = 3) (h3 : ¬ (c.hi < c.lo ∨ c.lo < -1000000 ∨ 1000000 < c.hi)) : conE s c = 0 := by
  unfold conE
  rw [if_neg (by omega), if_neg (by omega), if_neg (by omega), if_neg (by omega), if_neg (by omega), if_pos h2, if_neg (by omega), if_neg h3]
theorem conE_04 {s : Sch} {c : Cnd} (hp : (1 ≤ c.op ∧ c.op ≤ 7) ∧ (c.kids.length : Int) = kidN c.op ∧ ¬ (c.op ≠ 2 ∧ c.op ≠ 3 ∧ c.op ≠ 4 ∧ c.col ≠ 0) ∧ ¬ (c.op ≠ 2 ∧ c.code ≠ 0) ∧ (c.op = 3 ∨ c.lo = 0 ∧ c.hi = 0)) (h2 : c.op = 4) (h : 0 ≤ c.col ∧ c.col < s.cols.length ∧ (colAt s c.col).kind = 3) {x : Col} (hx : s.cols[c.col.toNat]? = some x) (ho : x.opt = true) : conE s c = 0 := by
  unfold conE
  rw [colAt_get hx] at *
  rw [if_neg (by omega), if_neg (by omega), if_neg (by omega), if_neg (by omega), if_neg (by omega), if_neg (by omega), if_neg (by rw [ho]; intro h9; rcases h9 with h9 | h9; exact h9 h.2.2; cases h9)]
end Go.Proofs.YtghlhejdfgkjaaaGreatDoor

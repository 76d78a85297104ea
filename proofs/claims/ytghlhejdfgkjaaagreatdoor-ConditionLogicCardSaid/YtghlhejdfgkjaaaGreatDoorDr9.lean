/- Draws: drawn rows fit. -/
import Derived.Test.YtghlhejdfgkjaaaGreatDoorDr8
import Derived.Test.YtghlhejdfgkjaaaGreatDoorDs3
import Derived.Test.YtghlhejdfgkjaaaGreatDoorCm5
import Derived.Test.YtghlhejdfgkjaaaGreatDoorSx
namespace Go.Proofs.YtghlhejdfgkjaaaGreatDoor
open Go Go.Av
attribute [local irreducible] AWp AOps AAny MAny DQ retQ retG St.le FCall GCall
set_option linter.unusedVariables false
set_option linter.unnecessarySimpa false
set_option linter.unusedSimpArgs false
set_option maxRecDepth 100000

theorem rowFrom_ok {s : Sch} (hd : Drawn s) (l : List UInt8) : ∀ (n k : Nat) (x : List Int × Nat), k + n = s.cols.length → x.1.length = k → (∀ (i : Nat) c, i < k → s.cols[i]? = some c → ValOk s c (x.1.getD i 0)) → RowOk s (rowFrom l s k x n).1
  | 0, k, x, hk, hl, h => by
    refine ⟨by show x.1.length = _; omega, fun i c hc => h i c ?_ hc⟩
    have := (List.getElem?_eq_some_iff.1 hc).1
    omega
  | n + 1, k, x, hk, hl, h => by
    obtain ⟨c0, hc0⟩ : ∃ c, s.cols[k]? = some c := ⟨_, List.getElem?_eq_getElem (by omega)⟩
    refine rowFrom_ok hd l n (k + 1) _ (by omega) (by simp [hl]) fun i c hi hc => ?_
    dsimp only
    by_cases e : i < k
    · have := h i c e hc
      rw [List.getD_eq_getElem?_getD] at this ⊢
      rw [List.getElem?_append_left (by omega)]
      exact this
    · obtain rfl : i = k := by omega
      rw [hc0] at hc
      cases hc
      rw [List.getD_eq_getElem?_getD, List.getElem?_append_right (by omega), hl, Nat.sub_self]
      exact valS_ok hd l x.2 hc0
theorem rowS_ok {s : Sch} (hd : Drawn s) (l : List UInt8) (a : Nat) : RowOk s (rowS l a s).1 :=
  rowFrom_ok hd l s.cols.length 0 ([], a) (by omega) rfl fun i c hi => absurd hi (Nat.not_lt_zero _)
theorem ValOk.hold {s : Sch} {c : Col} {v : Int} (h : ValOk s c v) : holdB s c v = true := by
  unfold holdB
  rcases h with ⟨hk, h1, h2⟩ | ⟨hk, n, rfl, hn⟩ | ⟨hk, h1⟩
  · rw [if_pos hk]; exact decide_eq_true (by omega)
  · rw [if_neg (by omega), if_pos hk]
    obtain ⟨g1, g2, g3⟩ := mem_atS hn
    have := (leaf_level g1 g2).1 (by rw [← levelS_yes ⟨by omega, by omega, g1⟩]; simpa using g3)
    rw [this, decide_eq_true (show (0 : Int) ≤ n ∧ (n : Int) < (lstOf s c).2.length by omega)]
    rfl
  · rw [if_neg (by omega), if_neg (by omega)]
    rcases h1 with h1 | h1
    · rw [decide_eq_true h1]; rfl
    · rw [h1.1, h1.2]; simp
theorem row_ok0 {s : Sch} (hr : schE s = 0) {row : List Int} (h : RowOk s row) : rowE s row = 0 := by
  unfold rowE
  rw [if_pos hr, if_pos]
  unfold fitsB
  rw [decide_eq_true h.1, Bool.true_and, Bool.not_eq_true', List.any_eq_false]
  rintro ⟨c, v⟩ hm
  obtain ⟨i, hi⟩ := List.mem_iff_getElem?.1 hm
  rw [List.getElem?_zip_eq_some] at hi
  have := (h.2 i c hi.1)
  rw [getD_get hi.2] at this
  unfold badP2
  rw [this.hold]
  decide
end Go.Proofs.YtghlhejdfgkjaaaGreatDoor

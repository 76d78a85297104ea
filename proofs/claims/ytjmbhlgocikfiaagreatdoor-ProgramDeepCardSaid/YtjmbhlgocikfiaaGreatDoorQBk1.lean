/- Chapter 5: a condition that is printed is read; a text that is read is printed. -/
import Derived.Test.YtjmbhlgocikfiaaGreatDoorQNm1
import Derived.Test.YtjmbhlgocikfiaaGreatDoorQDr8
import Derived.Test.YtjmbhlgocikfiaaGreatDoorQC1
import Derived.Test.YtjmbhlgocikfiaaGreatDoorQCm1
import Derived.Test.YtjmbhlgocikfiaaGreatDoorQB8
import Derived.Test.YtjmbhlgocikfiaaGreatDoorQB4
import Derived.Test.YtjmbhlgocikfiaaGreatDoorQE3
import Derived.Test.YtjmbhlgocikfiaaGreatDoorQB13
import Derived.Test.YtjmbhlgocikfiaaGreatDoorQB12
import Derived.Test.YtjmbhlgocikfiaaGreatDoorQB5
import Derived.Test.YtjmbhlgocikfiaaGreatDoorQD1
namespace Go.Proofs.YtjmbhlgocikfiaaGreatDoor
open Go Go.Av
attribute [local irreducible] AWp AOps AAny MAny DQ retQ retG St.le FCall GCall
set_option linter.unusedVariables false
set_option linter.unnecessarySimpa false
set_option linter.unusedSimpArgs false
set_option maxRecDepth 100000
theorem idxP_spec {α : Type} (p : α → Bool) : ∀ (l : List α) (k : Int), 0 ≤ k → idxP p l k = -1 ∨ ∃ (i : Nat) (x : α), l[i]? = some x ∧ p x = true ∧ idxP p l k = k + i
  | [], k, _ => .inl rfl
  | x :: r, k, hk => by
    unfold idxP
    by_cases h : p x = true
    · rw [if_pos h]; exact .inr ⟨0, x, rfl, h, by omega⟩
    · rw [if_neg h]
      rcases idxP_spec p r (k + 1) (by omega) with e | ⟨i, y, h1, h2, h3⟩
      · exact .inl e
      · exact .inr ⟨i + 1, y, by simpa using h1, h2, by omega⟩
theorem idxF_eq : ∀ (cs : List Code) (n : List UInt8) (k : Int), idxF cs n k = idxP (fun c : Code => decide (c.name = n)) cs k
  | [], _, _ => rfl
  | c :: r, n, k => by
    unfold idxF idxP fixB
    rw [idxF_eq r n (k + 1)]
theorem find_name {nm : List UInt8} {cs : List Code} {n : List UInt8} (h : 0 ≤ findS nm cs n) : (cs.getD (findS nm cs n).toNat ⟨[], 0⟩).name = n := by
  unfold findS at h ⊢
  split at h
  · rename_i h0
    rw [if_pos h0, idxF_eq] at *
    rcases idxP_spec (fun d : Code => decide (d.name = n)) cs 0 (by omega) with e | ⟨i, x, h1, h2, h3⟩
    · omega
    · rw [h3, show (0 + (i : Int)).toNat = i by omega, List.getD_eq_getElem?_getD, h1]
      exact of_decide_eq_true h2
  · omega
theorem col_parts {s : Sch} (hr : schE s = 0) {i : Nat} {c : Col} (hc : s.cols[i]? = some c) : nameB c.name = true ∧ dupB s i c = false := by
  have h := (schE_parts hr).2.2.2.1 i c hc
  unfold colE at h
  split at h
  · cases h
  · rename_i h1
    split at h
    · cases h
    · rename_i h2
      exact ⟨by simpa using h1, by simpa using h2⟩
theorem col_found {s : Sch} {n : List UInt8} (h : 0 ≤ findS2 s n) : colNm s (findS2 s n) = n ∧ findS2 s n < s.cols.length := by
  unfold findS2 at h ⊢
  rcases idxP_spec (fun d : Col => decide (d.name = n)) s.cols 0 (by omega) with e | ⟨i, x, h1, h2, h3⟩
  · omega
  · have hlt := lt_of_get h1
    rw [h3]
    refine ⟨?_, by omega⟩
    unfold colNm
    rw [show (0 + (i : Int)) = (i : Int) by omega, colAt_get (by simpa using h1)]
    exact of_decide_eq_true h2
theorem name_w {n : List UInt8} (h : nameB n = true) : n.all isW = true ∧ n ∉ words ∧ ∃ a r, n = a :: r ∧ 97 ≤ a.toNat ∧ a.toNat ≤ 122 := by
  unfold nameB at h
  simp only [Bool.and_eq_true, Bool.not_eq_true', decide_eq_false_iff_not] at h
  obtain ⟨⟨⟨_, h1⟩, h2⟩, h3⟩ := h
  refine ⟨h2, h3, ?_⟩
  cases n with
  | nil => cases h1
  | cons a r => exact ⟨a, r, rfl, of_decide_eq_true h1⟩
theorem txt_two (s : Sch) (o : Int) (x y : Cnd) (w : List UInt8) (ho : o = 5 ∧ w = bAnd ∨ o = 6 ∧ w = bOr) : txtS s (.mk o 0 0 0 0 [x, y]) = [40] ++ txtS s x ++ w ++ txtS s y ++ [41] := by
  rcases ho with ⟨rfl, rfl⟩ | ⟨rfl, rfl⟩
  · rw [txtS, if_neg (by decide), if_neg (by decide), if_neg (by decide), if_pos rfl, txtL_map]; rfl
  · rw [txtS, if_neg (by decide), if_neg (by decide), if_neg (by decide), if_neg (by decide), if_pos rfl, txtL_map]; rfl
theorem txt_not (s : Sch) (x : Cnd) : txtS s (.mk 7 0 0 0 0 [x]) = bNot ++ txtS s x := by
  rw [txtS, if_neg (by decide), if_neg (by decide), if_neg (by decide), if_neg (by decide), if_neg (by decide), if_pos rfl, txtL_map]; rfl
theorem txt_all (s : Sch) : txtS s (.mk 1 0 0 0 0 []) = bAll := by
  rw [txtS, if_neg (by decide), if_neg (by decide), if_neg (by decide), if_neg (by decide), if_neg (by decide), if_neg (by decide)]
end Go.Proofs.YtjmbhlgocikfiaaGreatDoor

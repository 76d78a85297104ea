/- Chapter 5: a text that is read is printed. -/
import Derived.Test.YtjmbhlgocikfiaaGreatDoorQBk1
namespace Go.Proofs.YtjmbhlgocikfiaaGreatDoor
open Go Go.Av
attribute [local irreducible] AWp AOps AAny MAny DQ retQ retG St.le FCall GCall
set_option linter.unusedVariables false
set_option linter.unnecessarySimpa false
set_option linter.unusedSimpArgs false
set_option maxRecDepth 100000
theorem ato_inv {s : Sch} {col : Int} {t : List UInt8} (h : (atoP s col t).2.1 = true) : colNm s col ++ t = txtS s (atoP s col t).1 ++ (atoP s col t).2.2 := by
  unfold atoP at h ⊢
  by_cases h1 : (cutS bUnder t).2 = true
  · rw [if_pos h1] at h ⊢
    by_cases hk : (colAt s col).kind = 2
    · rw [if_pos hk] at h ⊢
      dsimp only at h ⊢
      have hf := find_name (of_decide_eq_true h)
      rw [txtS, if_pos rfl, codNm, hf, List.append_assoc, List.append_assoc, tw_split, ← cut_inv h1]
    · rw [if_neg hk] at h
      cases h
  · rw [if_neg h1] at h ⊢
    by_cases h2 : (cutS bFrom t).2 = true
    · rw [if_pos h2] at h ⊢
      by_cases h3 : (numS (cutS bFrom t).1).2.1 = true
      · rw [if_pos h3] at h ⊢
        by_cases h4 : (cutS bTo (numS (cutS bFrom t).1).2.2).2 = true
        · rw [if_pos h4] at h ⊢
          dsimp only at h ⊢
          rw [txtS, if_neg (by decide), if_pos rfl, List.append_assoc, List.append_assoc, List.append_assoc, List.append_assoc, ← num_inv h, ← cut_inv h4, ← num_inv h3, ← cut_inv h2]
        · rw [if_neg h4] at h
          cases h
      · rw [if_neg h3] at h
        cases h
    · rw [if_neg h2] at h ⊢
      by_cases h5 : (cutS bMiss t).2 = true
      · rw [if_pos h5] at h ⊢
        dsimp only at h ⊢
        rw [txtS, if_neg (by decide), if_neg (by decide), if_pos rfl, List.append_assoc, ← cut_inv h5]
      · rw [if_neg h5] at h
        cases h
theorem par_inv {s : Sch} {f : Int → List UInt8 → Rd4} (hf : ∀ l t, (f l t).ok = true → t = txtS s (f l t).c ++ (f l t).t) (left : Int) (t : List UInt8) (h : (parJ f left t).ok = true) : [40] ++ t = txtS s (parJ f left t).c ++ (parJ f left t).t := by
  unfold parJ at h ⊢
  by_cases h1 : (f left t).ok = true
  · rw [if_pos h1] at h ⊢
    have e1 := hf left t h1
    by_cases h2 : (cutS bAnd (f left t).t).2 = true
    · rw [if_pos h2] at h ⊢
      by_cases h3 : (f (f left t).left (cutS bAnd (f left t).t).1).ok = true
      · rw [if_pos h3] at h ⊢
        dsimp only at h ⊢
        have e2 := hf _ _ h3
        rw [txt_two s 5 _ _ bAnd (.inl ⟨rfl, rfl⟩)]
        simp only [List.append_assoc]
        rw [← cut_inv h, ← e2, ← cut_inv h2, ← e1]
      · rw [if_neg h3] at h; cases h
    · rw [if_neg h2] at h ⊢
      by_cases h4 : (cutS bOr (f left t).t).2 = true
      · rw [if_pos h4] at h ⊢
        by_cases h3 : (f (f left t).left (cutS bOr (f left t).t).1).ok = true
        · rw [if_pos h3] at h ⊢
          dsimp only at h ⊢
          have e2 := hf _ _ h3
          rw [txt_two s 6 _ _ bOr (.inr ⟨rfl, rfl⟩)]
          simp only [List.append_assoc]
          rw [← cut_inv h, ← e2, ← cut_inv h4, ← e1]
        · rw [if_neg h3] at h; cases h
      · rw [if_neg h4] at h; cases h
  · rw [if_neg h1] at h; cases h
theorem con_inv (s : Sch) : ∀ (d : Nat) (left : Int) (t : List UInt8), (conP s d left t).ok = true → t = txtS s (conP s d left t).c ++ (conP s d left t).t
  | 0, left, t, h => by unfold conP at h; cases h
  | d + 1, left, t, h => by
    have ih := con_inv s d
    unfold conP at h ⊢
    by_cases h1 : left - 1 < 0
    · rw [if_pos h1] at h; cases h
    rw [if_neg h1] at h ⊢
    by_cases h2 : (cutS [40] t).2 = true
    · rw [if_pos h2] at h ⊢
      have := par_inv (s := s) (f := fun l u => conP s d l u) ih (left - 1) _ h
      rw [← cut_inv h2] at this
      exact this
    rw [if_neg h2] at h ⊢
    by_cases h3 : (cutS bNot t).2 = true
    · rw [if_pos h3] at h ⊢
      dsimp only at h ⊢
      rw [txt_not, List.append_assoc, ← ih _ _ h, ← cut_inv h3]
    rw [if_neg h3] at h ⊢
    by_cases h4 : t.takeWhile isW = bAll
    · rw [if_pos h4] at h ⊢
      dsimp only at h ⊢
      rw [txt_all, ← h4, tw_split]
    rw [if_neg h4] at h ⊢
    by_cases h5 : findS2 s (t.takeWhile isW) < 0
    · rw [if_pos h5] at h; cases h
    rw [if_neg h5] at h ⊢
    dsimp only at h ⊢
    have := ato_inv h
    rw [(col_found (by omega)).1, tw_split] at this
    exact this
end Go.Proofs.YtjmbhlgocikfiaaGreatDoor

/- Chapter 5: what texts conditions have, and what conditions texts are. -/
import Derived.Test.YtghlhejdfgkjaaaGreatDoorCm1
import Derived.Lib.ItoaNum
import Derived.Lib.AtoiAll
namespace Go.Proofs.YtghlhejdfgkjaaaGreatDoor
open Go Go.Av
attribute [local irreducible] AWp AOps AAny MAny DQ retQ retG St.le FCall GCall
set_option linter.unusedVariables false
set_option linter.unnecessarySimpa false
set_option linter.unusedSimpArgs false
set_option maxRecDepth 100000

/-- A letter, a digit, or _. -/
def isW (b : UInt8) : Bool := decide (97 ≤ b.toNat ∧ b.toNat ≤ 122 ∨ 48 ≤ b.toNat ∧ b.toNat ≤ 57 ∨ b.toNat = 95)
/-- What is left of a text behind a word, and whether it was there. -/
def cutS (w t : List UInt8) : List UInt8 × Bool := if w.isPrefixOf t = true then (t.drop w.length, true) else (t, false)
theorem cutS_len (w t : List UInt8) : (cutS w t).1.length ≤ t.length := by
  unfold cutS
  split
  · simp
  · exact Nat.le_refl _
theorem dropWhile_len (p : UInt8 → Bool) (t : List UInt8) : (t.dropWhile p).length ≤ t.length := by
  induction t with
  | nil => exact Nat.le_refl _
  | cons a r ih =>
    rw [List.dropWhile_cons]
    split
    · rw [List.length_cons]; omega
    · exact Nat.le_refl _
theorem takeWhile_len (p : UInt8 → Bool) (t : List UInt8) : (t.takeWhile p).length ≤ t.length := by
  induction t with
  | nil => exact Nat.le_refl _
  | cons a r ih =>
    rw [List.takeWhile_cons]
    split
    · rw [List.length_cons, List.length_cons]; omega
    · simp
/-- A walk over the letters ends where the word ends. -/
theorem word_end {p : UInt8 → Bool} : ∀ {t : List UInt8} {n : Nat}, (∀ i b, i < n → t[i]? = some b → p b = true) → n ≤ t.length → (∀ b, t[n]? = some b → p b = false) → t.takeWhile p = t.take n ∧ t.dropWhile p = t.drop n
  | [], n, _, hn, _ => by
    have : n = 0 := by simpa using hn
    subst this; exact ⟨rfl, rfl⟩
  | a :: r, 0, _, _, h2 => by
    have := h2 a rfl
    rw [List.takeWhile_cons, List.dropWhile_cons, this]
    exact ⟨rfl, rfl⟩
  | a :: r, n + 1, h1, hn, h2 => by
    have ha := h1 0 a (by omega) rfl
    obtain ⟨i1, i2⟩ := word_end (p := p) (t := r) (n := n) (fun i b hi hb => h1 (i + 1) b (by omega) (by simpa using hb)) (by simpa using hn) (fun b hb => h2 b (by simpa using hb))
    rw [List.takeWhile_cons, List.dropWhile_cons, ha, i1, i2]
    exact ⟨rfl, rfl⟩
/-- The sign and the digits of a number. -/
def numZ (t : List UInt8) : List UInt8 := (if (cutS [45] t).2 = true then [45] else []) ++ (cutS [45] t).1.takeWhile isW
def numV (z : List UInt8) : Int × Bool := match Lib.atoiAll z with
  | .ok n => (n, decide (Lib.itoa n = z))
  | Lib.NumEnd.syntax=> (0, false)
  | .range => (Lib.atoiSat z, false)
/-- A number at the beginning of a text, whether it is one, and what is left. -/
def numS (t : List UInt8) : Int × Bool × List UInt8 := ((numV (numZ t)).1, (numV (numZ t)).2, (cutS [45] t).1.dropWhile isW)
theorem numS_len (t : List UInt8) : (numS t).2.2.length ≤ t.length := Nat.le_trans (dropWhile_len _ _) (cutS_len _ _)
abbrev bUnder : List UInt8 := [32, 117, 110, 100, 101, 114, 32]
abbrev bFrom : List UInt8 := [32, 102, 114, 111, 109, 32]
abbrev bTo : List UInt8 := [32, 116, 111, 32]
abbrev bMiss : List UInt8 := [32, 109, 105, 115, 115, 105, 110, 103]
abbrev bAnd : List UInt8 := [32, 97, 110, 100, 32]
abbrev bOr : List UInt8 := [32, 111, 114, 32]
abbrev bNot : List UInt8 := [110, 111, 116, 32]
abbrev bAll : List UInt8 := [97, 108, 108]
/-- A condition about a column, behind its name. -/
def atoP (s : Sch) (col : Int) (t : List UInt8) : Cnd × Bool × List UInt8 :=
  if (cutS bUnder t).2 = true then
    if (colAt s col).kind = 2 then (.mk 2 col (findS (lstOf s (colAt s col)).1 (lstOf s (colAt s col)).2 ((cutS bUnder t).1.takeWhile isW)) 0 0 [], decide (0 ≤ findS (lstOf s (colAt s col)).1 (lstOf s (colAt s col)).2 ((cutS bUnder t).1.takeWhile isW)), (cutS bUnder t).1.dropWhile isW)
    else (.mk 2 col 0 0 0 [], false, (cutS bUnder t).1)
  else if (cutS bFrom t).2 = true then
    if (numS (cutS bFrom t).1).2.1 = true then
      if (cutS bTo (numS (cutS bFrom t).1).2.2).2 = true then
        (.mk 3 col 0 (numS (cutS bFrom t).1).1 (numS (cutS bTo (numS (cutS bFrom t).1).2.2).1).1 [], (numS (cutS bTo (numS (cutS bFrom t).1).2.2).1).2.1, (numS (cutS bTo (numS (cutS bFrom t).1).2.2).1).2.2)
      else (.mk 3 col 0 0 0 [], false, (numS (cutS bFrom t).1).2.2)
    else (.mk 3 col 0 0 0 [], false, (numS (cutS bFrom t).1).2.2)
  else if (cutS bMiss t).2 = true then (.mk 4 col 0 0 0 [], true, (cutS bMiss t).1)
  else (.mk 0 col 0 0 0 [], false, t)
/-- A condition at the beginning of a text, at most so deep, and at most so many; how many are left, and what is left of the text. -/
structure Rd4 where
  c : Cnd
  ok : Bool
  t : List UInt8
  left : Int
/-- Two conditions in parentheses, behind the first one. -/
def parJ (f : Int → List UInt8 → Rd4) (left : Int) (t : List UInt8) : Rd4 :=
  if (f left t).ok = true then
    if (cutS bAnd (f left t).t).2 = true then
      if (f (f left t).left (cutS bAnd (f left t).t).1).ok = true then ⟨.mk 5 0 0 0 0 [(f left t).c, (f (f left t).left (cutS bAnd (f left t).t).1).c], (cutS [41] (f (f left t).left (cutS bAnd (f left t).t).1).t).2, (cutS [41] (f (f left t).left (cutS bAnd (f left t).t).1).t).1, (f (f left t).left (cutS bAnd (f left t).t).1).left⟩
      else ⟨.mk 5 0 0 0 0 [(f left t).c, (f (f left t).left (cutS bAnd (f left t).t).1).c], false, (f (f left t).left (cutS bAnd (f left t).t).1).t, (f (f left t).left (cutS bAnd (f left t).t).1).left⟩
    else if (cutS bOr (f left t).t).2 = true then
      if (f (f left t).left (cutS bOr (f left t).t).1).ok = true then ⟨.mk 6 0 0 0 0 [(f left t).c, (f (f left t).left (cutS bOr (f left t).t).1).c], (cutS [41] (f (f left t).left (cutS bOr (f left t).t).1).t).2, (cutS [41] (f (f left t).left (cutS bOr (f left t).t).1).t).1, (f (f left t).left (cutS bOr (f left t).t).1).left⟩
      else ⟨.mk 6 0 0 0 0 [(f left t).c, (f (f left t).left (cutS bOr (f left t).t).1).c], false, (f (f left t).left (cutS bOr (f left t).t).1).t, (f (f left t).left (cutS bOr (f left t).t).1).left⟩
    else ⟨.mk 6 0 0 0 0 [], false, (f left t).t, (f left t).left⟩
  else ⟨(f left t).c, false, (f left t).t, (f left t).left⟩
def conP (s : Sch) : Nat → Int → List UInt8 → Rd4
  | 0, left, t => ⟨.mk 0 0 0 0 0 [], false, t, left - 1⟩
  | d + 1, left, t =>
    if left - 1 < 0 then ⟨.mk 0 0 0 0 0 [], false, t, left - 1⟩
    else if (cutS [40] t).2 = true then parJ (fun l u => conP s d l u) (left - 1) (cutS [40] t).1
    else if (cutS bNot t).2 = true then
      ⟨.mk 7 0 0 0 0 [(conP s d (left - 1) (cutS bNot t).1).c], (conP s d (left - 1) (cutS bNot t).1).ok, (conP s d (left - 1) (cutS bNot t).1).t, (conP s d (left - 1) (cutS bNot t).1).left⟩
    else if t.takeWhile isW = bAll then ⟨.mk 1 0 0 0 0 [], true, t.dropWhile isW, left - 1⟩
    else if findS2 s (t.takeWhile isW) < 0 then ⟨.mk 0 0 0 0 0 [], false, t.dropWhile isW, left - 1⟩
    else ⟨(atoP s (findS2 s (t.takeWhile isW)) (t.dropWhile isW)).1, (atoP s (findS2 s (t.takeWhile isW)) (t.dropWhile isW)).2.1, (atoP s (findS2 s (t.takeWhile isW)) (t.dropWhile isW)).2.2, left - 1⟩
/-- How many conditions so deep a one can have at most. -/
def wd : Nat → Int
  | 0 => 1
  | d + 1 => 2 * wd d + 1
theorem atoP_len (s : Sch) (col : Int) (t : List UInt8) : (atoP s col t).2.2.length ≤ t.length := by
  have h1 := cutS_len bUnder t
  have h2 := dropWhile_len isW (cutS bUnder t).1
  have h3 := cutS_len bFrom t
  have h4 := numS_len (cutS bFrom t).1
  have h5 := cutS_len bTo (numS (cutS bFrom t).1).2.2
  have h6 := numS_len (cutS bTo (numS (cutS bFrom t).1).2.2).1
  have h7 := cutS_len bMiss t
  unfold atoP
  (repeat' split) <;> (try dsimp only) <;> omega
theorem parJ_ok {f : Int → List UInt8 → Rd4} {w : Int} (hf : ∀ l u, (f l u).t.length ≤ u.length ∧ l - w ≤ (f l u).left ∧ (f l u).left ≤ l) (left : Int) (t : List UInt8) : (parJ f left t).t.length ≤ t.length ∧ left - 2 * w ≤ (parJ f left t).left ∧ (parJ f left t).left ≤ left ∧ 0 ≤ w ∨ w < 0 := by
  by_cases hw : w < 0
  · exact .inr hw
  refine .inl ?_
  obtain ⟨a1, a2, a3⟩ := hf left t
  have c1 := cutS_len bAnd (f left t).t
  have c2 := cutS_len bOr (f left t).t
  obtain ⟨b1, b2, b5⟩ := hf (f left t).left (cutS bAnd (f left t).t).1
  obtain ⟨b3, b4, b6⟩ := hf (f left t).left (cutS bOr (f left t).t).1
  have c3 := cutS_len [41] (f (f left t).left (cutS bAnd (f left t).t).1).t
  have c4 := cutS_len [41] (f (f left t).left (cutS bOr (f left t).t).1).t
  unfold parJ
  (repeat' split) <;> (try dsimp only) <;> refine ⟨?_, ?_, ?_, ?_⟩ <;> omega
theorem wd_pos : ∀ d, 1 ≤ wd d
  | 0 => by decide
  | d + 1 => by have := wd_pos d; unfold wd; omega
theorem conP_ok (s : Sch) : ∀ (d : Nat) (left : Int) (t : List UInt8), (conP s d left t).t.length ≤ t.length ∧ left - wd d ≤ (conP s d left t).left ∧ (conP s d left t).left ≤ left
  | 0, left, t => ⟨Nat.le_refl _, Int.le_refl _, by unfold conP; dsimp only; omega⟩
  | d + 1, left, t => by
    have ih := conP_ok s d
    have hw := wd_pos d
    have c1 := cutS_len [40] t
    have c2 := cutS_len bNot t
    have c3 := dropWhile_len isW t
    have c4 := atoP_len s (findS2 s (t.takeWhile isW)) (t.dropWhile isW)
    have hp := parJ_ok (w := wd d) (f := fun l u => conP s d l u) ih (left - 1) (cutS [40] t).1
    obtain ⟨i1, i2, i3⟩ := ih (left - 1) (cutS bNot t).1
    unfold conP wd
    (repeat' split) <;> (try dsimp only) <;> refine ⟨?_, ?_, ?_⟩ <;> omega
/-- The condition with a text, or the error. -/
def parS (s : Sch) (t : List UInt8) : Cnd × Int :=
  if schE s = 0 then
    (if (conP s 10 40 t).ok = true ∧ (conP s 10 40 t).t = [] ∧ cndE s (conP s 10 40 t).c = 0 then ((conP s 10 40 t).c, 0) else (.mk 0 0 0 0 0 [], 11))
  else (.mk 0 0 0 0 0 [], schE s)

/-- The text of a condition. -/
def colNm (s : Sch) (col : Int) : List UInt8 := (colAt s col).name
def codNm (s : Sch) (col code : Int) : List UInt8 := ((lstOf s (colAt s col)).2.getD code.toNat ⟨[], 0⟩).name
mutual
def txtS (s : Sch) : Cnd → List UInt8
  | .mk o c k l h ks =>
    if o = 2 then colNm s c ++ bUnder ++ codNm s c k
    else if o = 3 then colNm s c ++ bFrom ++ Lib.itoa l ++ bTo ++ Lib.itoa h
    else if o = 4 then colNm s c ++ bMiss
    else if o = 5 then [40] ++ (txtL s ks).getD 0 [] ++ bAnd ++ (txtL s ks).getD 1 [] ++ [41]
    else if o = 6 then [40] ++ (txtL s ks).getD 0 [] ++ bOr ++ (txtL s ks).getD 1 [] ++ [41]
    else if o = 7 then bNot ++ (txtL s ks).getD 0 []
    else bAll
def txtL (s : Sch) : List Cnd → List (List UInt8)
  | [] => []
  | x :: r => txtS s x :: txtL s r
end
theorem txtL_map (s : Sch) : ∀ l, txtL s l = l.map (txtS s)
  | [] => rfl
  | x :: r => by rw [txtL, txtL_map s r]; rfl
end Go.Proofs.YtghlhejdfgkjaaaGreatDoor

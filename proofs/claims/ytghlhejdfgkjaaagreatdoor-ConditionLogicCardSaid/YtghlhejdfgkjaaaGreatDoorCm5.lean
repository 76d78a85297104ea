/- Chapter 5: values that have a value at a level, and truth values from coarse values. -/
import Derived.Test.YtghlhejdfgkjaaaGreatDoorCm4
import Derived.Test.YtghlhejdfgkjaaaGreatDoorSx
namespace Go.Proofs.YtghlhejdfgkjaaaGreatDoor
open Go Go.Av
attribute [local irreducible] AWp AOps AAny MAny DQ retQ retG St.le FCall GCall
set_option linter.unusedVariables false
set_option linter.unnecessarySimpa false
set_option linter.unusedSimpArgs false
set_option maxRecDepth 100000

/-- The first of a list with a value. -/
def findK (f : Nat → Int) (v : Int) : List Nat → Int × Bool
  | [] => (0, false)
  | x :: r => if f x = v then ((x : Int), true) else findK f v r
theorem findK_spec {f : Nat → Int} {v : Int} : ∀ {l : List Nat}, ((findK f v l).2 = true ∧ ∃ x ∈ l, f x = v ∧ (findK f v l).1 = x) ∨ (findK f v l = (0, false) ∧ ∀ x ∈ l, f x ≠ v)
  | [] => .inr ⟨rfl, fun x h => by cases h⟩
  | x :: r => by
    unfold findK
    by_cases e : f x = v
    · rw [if_pos e]; exact .inl ⟨rfl, x, List.mem_cons_self .., e, rfl⟩
    · rw [if_neg e]
      rcases findK_spec (f := f) (v := v) (l := r) with ⟨h1, y, hy, h2, h3⟩ | ⟨h1, h2⟩
      · exact .inl ⟨h1, y, List.mem_cons_of_mem _ hy, h2, h3⟩
      · refine .inr ⟨h1, fun y hy => ?_⟩
        rcases List.mem_cons.1 hy with rfl | hy
        · exact e
        · exact h2 y hy
theorem findK_congr {f g : Nat → Int} {v : Int} : ∀ {l : List Nat}, (∀ x ∈ l, f x = g x) → findK f v l = findK g v l
  | [], _ => rfl
  | x :: r, h => by
    unfold findK
    rw [h x (by simp), findK_congr fun y hy => h y (by simp [hy])]
def upL (s : Sch) (column level : Int) (x : Nat) : Int := upS (lstOf s (colAt s column)).1 (lstOf s (colAt s column)).2 x level
/-- A value that a row can have, with a value at a level; the program's, and the reference's. -/
def someS (s : Sch) (column level v : Int) : Int × Bool :=
  if (colAt s column).kind = 3 then (if 0 < level ∧ v = (-1099511627776) then (v, (colAt s column).opt) else ((spanS (colAt s column) level v).1, (spanS (colAt s column) level v).2.2))
  else findK (upL s column level) v (lvsS s column)
theorem kind_of {s : Sch} (hr : schE s = 0) {column : Int} {c : Col} (h1 : 1 ≤ column) (hc : s.cols[column.toNat]? = some c) : (c.kind = 2 ∨ c.kind = 3) ∧ (c.kind = 3 → meaE c = 0) := by
  obtain ⟨_, _, _, h4, _⟩ := schE_parts hr
  have h5 := (colE_parts (h4 _ _ hc)).2.2.1
  refine ⟨?_, fun h => kindE_mea h5 h⟩
  rcases kindE_kinds h5 with h | h
  · omega
  · exact h
/-- The level and the value of a column that some picks tell last. -/
def lastV (col : Int) (pv : List (Pk × Int)) : Int × Int := pv.foldl (fun z q => if q.1.col = col then (q.1.lev, q.2) else z) (0, 0)
theorem lastV_snoc (col : Int) (l : List (Pk × Int)) (q : Pk × Int) : lastV col (l ++ [q]) = if q.1.col = col then (q.1.lev, q.2) else lastV col l := by
  unfold lastV; rw [List.foldl_append]; rfl
theorem lastV_of (col : Int) : ∀ (l : List (Pk × Int)), (lastV col l = (0, 0) ∧ ∀ q ∈ l, q.1.col ≠ col) ∨ ∃ q ∈ l, q.1.col = col ∧ lastV col l = (q.1.lev, q.2) := by
  have key : ∀ (l : List (Pk × Int)) (z : Int × Int), (l.foldl (fun z q => if q.1.col = col then (q.1.lev, q.2) else z) z = z ∧ ∀ q ∈ l, q.1.col ≠ col) ∨ ∃ q ∈ l, q.1.col = col ∧ l.foldl (fun z q => if q.1.col = col then (q.1.lev, q.2) else z) z = (q.1.lev, q.2) := by
    intro l
    induction l with
    | nil => exact fun z => .inl ⟨rfl, fun q h => by cases h⟩
    | cons a r ih =>
      intro z
      rw [List.foldl_cons]
      by_cases e : a.1.col = col
      · rw [if_pos e]
        rcases ih (a.1.lev, a.2) with ⟨h1, h2⟩ | ⟨q, hq, h1, h2⟩
        · exact .inr ⟨a, List.mem_cons_self .., e, h1⟩
        · exact .inr ⟨q, List.mem_cons_of_mem _ hq, h1, h2⟩
      · rw [if_neg e]
        rcases ih z with ⟨h1, h2⟩ | ⟨q, hq, h1, h2⟩
        · refine .inl ⟨h1, fun q hq => ?_⟩
          rcases List.mem_cons.1 hq with rfl | hq
          · exact e
          · exact h2 q hq
        · exact .inr ⟨q, List.mem_cons_of_mem _ hq, h1, h2⟩
  exact fun l => key l (0, 0)
/-- The values of a row that some picks tell; 0 in column 0. -/
def toldV (s : Sch) (pv : List (Pk × Int)) (i : Nat) : Int := if i = 0 ∧ (lastV i pv = (0, 0)) then 0 else (someS s i (lastV i pv).1 (lastV i pv).2).1
def RowOk (s : Sch) (row : List Int) : Prop := row.length = s.cols.length ∧ ∀ (i : Nat) c, s.cols[i]? = some c → ValOk s c (row.getD i 0)
end Go.Proofs.YtghlhejdfgkjaaaGreatDoor

/- Draws: values, rows and picks, and that they are right. -/
import Derived.Test.YtmiaihoallkjfaaDoorMa1
namespace Go.Proofs.YtmiaihoallkjfaaDoor
open Go Go.Av
attribute [local irreducible] AWp AOps AAny MAny DQ retQ retG St.le FCall GCall
set_option linter.unusedVariables false
set_option linter.unnecessarySimpa false
set_option linter.unusedSimpArgs false
set_option maxRecDepth 100000

/-- A drawn value of a column. -/
def valS (l : List UInt8) (a : Nat) (s : Sch) (k : Int) : Int × Nat :=
  let c := colAt s k
  if c.kind = 1 then (1 + ((nxt l a 60).1 : Int), (nxt l a 60).2)
  else if c.kind = 2 then ((((lvsS s k).getD (nxt l a (lvsS s k).length).1 0 : Nat) : Int), (nxt l a (lvsS s k).length).2)
  else if c.opt = true then
    (if ((nxt l a 4).1 : Int) = 3 then ((-1099511627776), (nxt l a 4).2) else (c.low + ((nxt l (nxt l a 4).2 (c.high - c.low + 1)).1 : Int), (nxt l (nxt l a 4).2 (c.high - c.low + 1)).2))
  else (c.low + ((nxt l a (c.high - c.low + 1)).1 : Int), (nxt l a (c.high - c.low + 1)).2)
/-- A drawn row, from a column on. -/
def rowFrom (l : List UInt8) (s : Sch) : Nat → List Int × Nat → Nat → List Int × Nat
  | _, x, 0 => x
  | k, x, n + 1 => rowFrom l s (k + 1) (x.1 ++ [(valS l x.2 s k).1], (valS l x.2 s k).2) n
def rowS (l : List UInt8) (a : Nat) (s : Sch) : List Int × Nat := rowFrom l s 0 ([], a) s.cols.length
/-- Drawn picks, from a column on. -/
def pkFrom (l : List UInt8) (s : Sch) : Nat → List Pk × Nat → Nat → List Pk × Nat
  | _, x, 0 => x
  | k, x, n + 1 => if (0 : Int) < ((nxt l x.2 4).1 : Int) then pkFrom l s (k + 1) (x.1 ++ [⟨k, ((nxt l (nxt l x.2 4).2 (finestS s k + 1)).1 : Int)⟩], (nxt l (nxt l x.2 4).2 (finestS s k + 1)).2) n else pkFrom l s (k + 1) (x.1, (nxt l x.2 4).2) n
def picksS (l : List UInt8) (a : Nat) (s : Sch) : List Pk × Nat := pkFrom l s 1 ([], a) (s.cols.length - 1)

/-- The leaves of a code column. -/
theorem Drawn.lvs {s : Sch} (h : Drawn s) {i : Nat} {c : Col} (hc : s.cols[i]? = some c) (hk : c.kind = 2) : (0 ≤ c.lst ∧ c.lst < s.lists.length) ∧ lvsS s i = atS (lstOf s c).1 (lstOf s c).2 (levelsS (lstOf s c).1 (lstOf s c).2 - 1) ∧ 1 ≤ (lvsS s i).length ∧ (lvsS s i).length ≤ 10 := by
  have hca : colAt s i = c := colAt_get (by simpa using hc)
  have e : lvsS s i = atS (lstOf s c).1 (lstOf s c).2 (levelsS (lstOf s c).1 (lstOf s c).2 - 1) := by unfold lvsS; rw [hca]
  rcases h.col hc with ⟨_, rfl⟩ | ⟨_, hcc⟩ | ⟨_, nm, hm⟩
  · cases hk
  · obtain ⟨hf, hnm, hlen⟩ := h.lst hcc
    have hlo := (fam_ok hf).at'
    refine ⟨?_, e, ?_⟩
    · rw [h.lens.1]; rcases hcc with rfl | rfl <;> decide
    · rw [e, levelsS_nm hnm, atS_nm hnm]; exact hlo
  · have := hm.kind; omega
theorem valS_ok {s : Sch} (h : Drawn s) (l : List UInt8) (a : Nat) {i : Nat} {c : Col} (hc : s.cols[i]? = some c) : ValOk s c (valS l a s i).1 := by
  have hca : colAt s i = c := colAt_get (by simpa using hc)
  unfold valS
  rw [hca]
  rcases h.col hc with ⟨_, rfl⟩ | ⟨_, hcc⟩ | ⟨_, nm, hm⟩
  · have := nxt_lt l a (n := 60) (by omega)
    exact .inl ⟨rfl, by simp only [whoC, if_true]; omega⟩
  · have hk : c.kind = 2 := by rcases hcc with rfl | rfl <;> rfl
    obtain ⟨_, h1, h2, h3⟩ := h.lvs hc hk
    have hn := nxt_lt l a (n := (lvsS s i).length) (by omega)
    dsimp only
    rw [if_neg (by omega), if_pos hk]
    have hlt : (nxt l a (lvsS s i).length).1 < (lvsS s i).length := by omega
    refine .inr (.inl ⟨hk, _, rfl, ?_⟩)
    rw [← h1, getD_get (List.getElem?_eq_getElem hlt)]
    exact List.getElem_mem hlt
  · have hk := hm.kind
    have hh := hm.high
    have n1 := nxt_lt l a (n := c.high - c.low + 1) (by omega)
    have n2 := nxt_lt l (nxt l a 4).2 (n := c.high - c.low + 1) (by omega)
    dsimp only
    rw [if_neg (by omega), if_neg (by omega)]
    refine .inr (.inr ⟨hk, ?_⟩)
    split
    · split
      · exact .inr ⟨by assumption, rfl⟩
      · exact .inl ⟨by dsimp only; omega, by dsimp only; omega⟩
    · exact .inl ⟨by dsimp only; omega, by dsimp only; omega⟩
end Go.Proofs.YtmiaihoallkjfaaDoor

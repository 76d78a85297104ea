/- Chapter 1: leaves and depths, by the reference. -/
import Derived.Test.YtmmogjdkoghjoaaCo2
namespace Go.Proofs.Ytmmogjdkoghjoaa
open Go Go.Av
attribute [local irreducible] AWp AOps AAny DQ
set_option linter.unusedVariables false
set_option linter.unnecessarySimpa false
set_option linter.unusedSimpArgs false

def leafB (cs : List Code) (code : Int) : Bool := cs.all fun c => decide (c.parent ≠ code)

theorem take_all {α : Type} {l : List α} {p : α → Prop} {k : Nat} {el : α} (hI : ∀ c ∈ l.take k, p c) (hel : l[k]? = some el) (h : p el) : ∀ c ∈ l.take (k + 1), p c := by
  intro c hc
  rw [List.take_add_one, hel] at hc
  rcases List.mem_append.1 hc with hc | hc
  · exact hI c hc
  · simp at hc; subst hc; exact h
theorem leaf_no {cs : List Code} {code : Int} {k : Nat} {el : Code} (hel : cs[k]? = some el) (h : el.parent = code) : false = leafB cs code := by
  refine (List.all_eq_false.2 ⟨el, List.mem_of_getElem? hel, by simp [h]⟩).symm
theorem leaf_yes {cs : List Code} {code : Int} {k : Nat} (hI : ∀ c ∈ cs.take k, c.parent ≠ code) (h : ¬ (k : Int) < cs.length) : true = leafB cs code := by
  have e : cs.take k = cs := List.take_of_length_le (by omega)
  rw [e] at hI
  exact (List.all_eq_true.2 fun c hc => by simpa using hI c hc).symm

/-- A root that stands first, and parents that stand before. -/
structure Good (cs : List Code) : Prop where
  before : Before cs
  root : ∀ c, cs[0]? = some c → c.parent = -1

end Go.Proofs.Ytmmogjdkoghjoaa

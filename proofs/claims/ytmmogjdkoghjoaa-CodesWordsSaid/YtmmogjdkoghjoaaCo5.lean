/- Chapter 1: the check of a list, by the reference. -/
import Derived.Test.YtmmogjdkoghjoaaCo4
namespace Go.Proofs.Ytmmogjdkoghjoaa
open Go Go.Av
attribute [local irreducible] AWp AOps AAny DQ
set_option linter.unusedVariables false
set_option linter.unnecessarySimpa false
set_option linter.unusedSimpArgs false

theorem dup_step {cs : List Code} {i k : Nat} {a b : Code} (hi : cs[i]? = some a) (hI : ∀ c ∈ cs.take k, c.name ≠ a.name) (hb : cs[k]? = some b) (h : ¬ b.name = a.name) : ∀ c ∈ cs.take (k + 1), c.name ≠ a.name := take_all hI hb h
theorem dup_yes {cs : List Code} {i k : Nat} {a b : Code} (hki : k < i) (hb : cs[k]? = some b) (h : b.name = a.name) : a.name ∈ (cs.take i).map (·.name) :=
  List.mem_map.2 ⟨b, List.mem_of_getElem? (i := k) (by rw [List.getElem?_take_of_lt hki]; exact hb), h⟩
theorem dup_no {cs : List Code} {i : Nat} {a : Code} (hI : ∀ c ∈ cs.take i, c.name ≠ a.name) : a.name ∉ (cs.take i).map (·.name) := by
  intro h
  obtain ⟨c, hc, he⟩ := List.mem_map.1 h
  exact hI c hc he

end Go.Proofs.Ytmmogjdkoghjoaa

/- Draws: what drawn rows are like. -/
import Derived.Test.YtghlhejdfgkjaaaGreatDoorB13
namespace Go.Proofs.YtghlhejdfgkjaaaGreatDoor
open Go Go.Av
attribute [local irreducible] AWp AOps AAny MAny DQ retQ retG St.le FCall GCall
set_option linter.unusedVariables false
set_option linter.unnecessarySimpa false
set_option linter.unusedSimpArgs false
set_option maxRecDepth 100000

theorem ValOk.bd {s : Sch} (h : Drawn s) {i : Nat} {c : Col} (hc : s.cols[i]? = some c) {v : Int} (hv : ValOk s c v) : -1099511627776 ≤ v ∧ v ≤ 100 := by
  rcases hv with ⟨_, h1⟩ | ⟨hk, n, rfl, hn⟩ | ⟨hk, h1⟩
  · omega
  · rcases h.col hc with ⟨_, rfl⟩ | ⟨_, hcc⟩ | ⟨_, nm, hm⟩
    · cases hk
    · obtain ⟨hf, hnm, hlen⟩ := h.lst hcc
      rw [levelsS_nm hnm, atS_nm hnm] at hn
      have := (fam_ok hf).mem n hn
      omega
    · have := hm.kind; omega
  · rcases h.col hc with ⟨_, rfl⟩ | ⟨_, rfl | rfl⟩ | ⟨_, nm, hm⟩
    · cases hk
    · cases hk
    · cases hk
    · have := hm.low
      have := hm.high
      rcases h1 with h1 | h1 <;> omega
theorem rowFrom_bd {s : Sch} (hd : Drawn s) (l : List UInt8) : ∀ (n k : Nat) (x : List Int × Nat), k + n ≤ s.cols.length → (∀ y ∈ x.1, -1099511627776 ≤ y ∧ y ≤ 100) → (rowFrom l s k x n).1.length = x.1.length + n ∧ ∀ y ∈ (rowFrom l s k x n).1, -1099511627776 ≤ y ∧ y ≤ 100
  | 0, k, x, _, h => ⟨rfl, h⟩
  | n + 1, k, x, hk, h => by
    have hc : s.cols[k]? = some (s.cols[k]'(by omega)) := List.getElem?_eq_getElem (by omega)
    obtain ⟨h1, h2⟩ := rowFrom_bd hd l n (k + 1) (x.1 ++ [(valS l x.2 s k).1], (valS l x.2 s k).2) (by omega) (fun y hy => by
      rcases List.mem_append.1 hy with hy | hy
      · exact h y hy
      · simp only [List.mem_singleton] at hy
        subst hy
        exact ValOk.bd hd hc (valS_ok hd l x.2 hc))
    rw [rowFrom]
    refine ⟨?_, h2⟩
    rw [h1, List.length_append, List.length_singleton]
    omega
theorem rowS_bd {s : Sch} (hd : Drawn s) (l : List UInt8) (a : Nat) : (rowS l a s).1.length = s.cols.length ∧ ∀ y ∈ (rowS l a s).1, -1099511627776 ≤ y ∧ y ≤ 100 := by
  have := rowFrom_bd hd l s.cols.length 0 ([], a) (by omega) (fun y hy => by cases hy)
  unfold rowS
  simpa using this
end Go.Proofs.YtghlhejdfgkjaaaGreatDoor

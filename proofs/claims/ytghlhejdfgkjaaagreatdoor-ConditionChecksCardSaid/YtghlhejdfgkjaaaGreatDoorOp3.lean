/- Conditions and picks that came in. -/
import Derived.Test.YtghlhejdfgkjaaaGreatDoorOp2
import Derived.Test.YtghlhejdfgkjaaaGreatDoorCd1
namespace Go.Proofs.YtghlhejdfgkjaaaGreatDoor
open Go Go.Av
attribute [local irreducible] AWp AOps AAny MAny DQ retQ retG St.le FCall GCall
set_option linter.unusedVariables false
set_option linter.unnecessarySimpa false
set_option linter.unusedSimpArgs false
set_option maxRecDepth 100000

theorem sh_cnd : ∀ (n f : Nat), f < n → ∀ {l : List AV}, Sh Tryz.prog f 25 l → ∃ c : Cnd, l = cndX c := by
  intro n
  induction n with
  | zero => intro f hf; omega
  | succ n ih =>
    intro f hf l h
    obtain ⟨f', hs, e0⟩ := sh_struct (ts := [3, 3, 3, 3, 3, 23]) Tryz.underlying25 (by kernel_rfl) h
    obtain ⟨x1, r1, h1, ⟨x2, r2, h2, ⟨x3, r3, h3, ⟨x4, r4, h4, ⟨x5, r5, h5, ⟨x6, r6, h6, h7, rfl⟩, rfl⟩, rfl⟩, rfl⟩, rfl⟩, rfl⟩ := hs
    obtain ⟨y1, _, rfl⟩ := sh_i h1
    obtain ⟨y2, _, rfl⟩ := sh_i h2
    obtain ⟨y3, _, rfl⟩ := sh_i h3
    obtain ⟨y4, _, rfl⟩ := sh_i h4
    obtain ⟨y5, _, rfl⟩ := sh_i h5
    obtain ⟨f2, ls, _, hall, rfl, e⟩ := sh_slice (c := 6) Tryz.underlying23 (by kernel_rfl) h6
    obtain ⟨ks, rfl, _⟩ := all_form (F := cndL) (R := fun _ => True) (fun x hx => by
      obtain ⟨c, hc⟩ := ih f2 (by omega) (hall x hx)
      exact ⟨c, trivial, by rw [hc, cndX_eq]⟩)
    cases h7
    exact ⟨.mk y1 y2 y3 y4 y5 ks, rfl⟩
theorem ash_cnd {a : AV} (h : AShape Tryz.prog 25 a) : ∃ c : Cnd, a = cndA c := by
  obtain ⟨f, l, rfl, hs⟩ := ash_agg (by kernel_rfl) h
  obtain ⟨c, rfl⟩ := sh_cnd (f + 1) f (by omega) hs
  exact ⟨c, rfl⟩
end Go.Proofs.YtghlhejdfgkjaaaGreatDoor

/- Schemas, rows and picks that came in. Conditions and picks that came in. Picks that came in. -/
import Derived.Test.YtepdcljecfibpaaGreatDoorQB4
import Derived.Test.YtepdcljecfibpaaGreatDoorQB8
import Derived.Test.YtepdcljecfibpaaGreatDoorQCd1
namespace Go.Proofs.YtepdcljecfibpaaGreatDoor
open Go Go.Av
attribute [local irreducible] AWp AOps AAny MAny DQ retQ retG St.le FCall GCall
set_option linter.unusedVariables false
set_option linter.unnecessarySimpa false
set_option linter.unusedSimpArgs false
set_option maxRecDepth 100000
theorem sh_b {f : Nat} {l : List AV} (h : Sh Tryz.prog f 4 l) : ∃ b, l = [.b b] := sh_bool Tryz.underlying4 h
theorem sh_ints {f : Nat} {l : List AV} (h : Sh Tryz.prog f 34 l) : ∃ ws : List Int, ws.length ≤ maxLen ∧ l = [.sl 1 (ws.map wA)] := by
  obtain ⟨f2, ls, hl, hall, rfl, _⟩ := sh_slice (c := 1) Tryz.underlying34 (by kernel_rfl) h
  obtain ⟨ws, rfl, _⟩ := all_form (F := wA) (R := okI) (fun x hx => sh_i (hall x hx))
  exact ⟨ws, by rw [List.length_map] at hl; exact hl, rfl⟩
theorem sh_cnd : ∀ (n f : Nat), f < n → ∀ {l : List AV}, Sh Tryz.prog f 37 l → ∃ c : Cnd, l = cndX c := by
  intro n
  induction n with
  | zero => intro f hf; omega
  | succ n ih =>
    intro f hf l h
    obtain ⟨f', hs, e0⟩ := sh_struct (ts := [3, 3, 3, 3, 3, 35]) Tryz.underlying37 (by kernel_rfl) h
    obtain ⟨x1, r1, h1, ⟨x2, r2, h2, ⟨x3, r3, h3, ⟨x4, r4, h4, ⟨x5, r5, h5, ⟨x6, r6, h6, h7, rfl⟩, rfl⟩, rfl⟩, rfl⟩, rfl⟩, rfl⟩ := hs
    obtain ⟨y1, _, rfl⟩ := sh_i h1
    obtain ⟨y2, _, rfl⟩ := sh_i h2
    obtain ⟨y3, _, rfl⟩ := sh_i h3
    obtain ⟨y4, _, rfl⟩ := sh_i h4
    obtain ⟨y5, _, rfl⟩ := sh_i h5
    obtain ⟨f2, ls, _, hall, rfl, e⟩ := sh_slice (c := 6) Tryz.underlying35 (by kernel_rfl) h6
    obtain ⟨ks, rfl, _⟩ := all_form (F := cndL) (R := fun _ => True) (fun x hx => by
      obtain ⟨c, hc⟩ := ih f2 (by omega) (hall x hx)
      exact ⟨c, trivial, by rw [hc, cndX_eq]⟩)
    cases h7
    exact ⟨.mk y1 y2 y3 y4 y5 ks, rfl⟩
theorem sh_pick {f : Nat} {l : List AV} (h : Sh Tryz.prog f 67 l) : ∃ p : Pk, True ∧ l = pkL p := by
  obtain ⟨f', hs, _⟩ := sh_struct (ts := [3, 3]) Tryz.underlying67 (by kernel_rfl) h
  obtain ⟨x1, r1, h1, ⟨x2, r2, h2, h3, rfl⟩, rfl⟩ := hs
  obtain ⟨y1, _, rfl⟩ := sh_i h1
  obtain ⟨y2, _, rfl⟩ := sh_i h2
  cases h3
  exact ⟨⟨y1, y2⟩, trivial, rfl⟩
theorem ash_picks {a : AV} (h : AShape Tryz.prog 24 a) : ∃ ps : List Pk, a = .sl 2 (ps.map pkL) := by
  obtain ⟨f2, ls, hl, hall, rfl⟩ := ash_slice (c := 2) Tryz.underlying24 (by kernel_rfl) h
  obtain ⟨ps, rfl, _⟩ := all_form (F := pkL) (R := fun _ => True) (fun x hx => sh_pick (hall x hx))
  exact ⟨ps, rfl⟩
end Go.Proofs.YtepdcljecfibpaaGreatDoor

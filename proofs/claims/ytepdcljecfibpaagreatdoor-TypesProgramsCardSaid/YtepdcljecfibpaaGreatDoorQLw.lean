/- What a row's laid package variables give the engine's tables. -/
import Derived.Test.YtepdcljecfibpaaGreatDoorQE3
import Derived.Lib.LaidTab
import Derived.Stop.LaidErr
import Derived.MakeChecks
namespace Go.Av
open Go Go.RowKit
set_option linter.unusedVariables false
theorem var_heap {P : Program} {W : World} {n : String} {cs : Array Value} {g : Nat} (hg : P.globalNamed n = some g) (h : W.var? P n = some cs) : ∃ t fr, W.heap[g]? = some (.cells cs t fr) := by
  unfold World.var? at h
  rw [hg] at h
  simp only [Option.bind_some] at h
  split at h
  · rename_i c t fr he
    cases h
    exact ⟨t, fr, he⟩
  · cases h
theorem tab_heap {P : Program} {W : World} {name : String} {k : IntKind} {zs : List Int} {rest : List (String × DataW Unit)} {g : Nat} {t e : TypeId} {n : Nat}
    (hg : P.globalNamed name = some g) (hty : (P.globals[g]?).map (·.type) = some t) (ht : P.underlying t = some (.array n e)) (he : P.underlying e = some (.int k)) (hce : P.cellsOf e = 1) (hct : P.cellsOf t = n)
    (h : laidMet P ((name, Lib.tabData k zs) :: rest) W) : ∃ t fr, W.heap[g]? = some (.cells (zs.map (Value.int k)).toArray t fr) := by
  have h1 := Lib.tabIs_of_head hg hty ht he hce hct h
  unfold Lib.TabIs at h1
  exact var_heap hg h1
def AllTabs (W : World) : List (Nat × IntKind × List Int) → Prop
  | [] => True
  | (g, k, l) :: r => (∃ t fr, W.heap[g]? = some (.cells (l.map (Value.int k)).toArray t fr)) ∧ AllTabs W r
def AllErrs (W : World) : List Nat → Prop
  | [] => True
  | g :: r => (∃ te pe t fr, W.heap[g]? = some (.cells #[.iface te pe] t fr)) ∧ AllErrs W r
theorem allTabs_get {W : World} : ∀ {T : List (Nat × IntKind × List Int)} {g : Nat} {k : IntKind} {l : List Int}, AllTabs W T → look T g = some (k, l) → ∃ t fr, W.heap[g]? = some (.cells (l.map (Value.int k)).toArray t fr)
  | [], g, k, l, _, h => by cases h
  | (g', k', l') :: r, g, k, l, h, hg => by
    rw [look_cons] at hg
    by_cases e : g' = g
    · rw [if_pos e] at hg; cases hg; subst e; exact h.1
    · rw [if_neg e] at hg; exact allTabs_get h.2 hg
theorem allErrs_get {W : World} : ∀ {T : List Nat} {g : Nat}, AllErrs W T → g ∈ T → ∃ te pe t fr, W.heap[g]? = some (.cells #[.iface te pe] t fr)
  | [], g, _, h => by cases h
  | g' :: r, g, h, hg => by
    rcases List.mem_cons.1 hg with rfl | hg
    · exact h.1
    · exact allErrs_get h.2 hg
theorem tabOk_of {W : World} (h1 : AllTabs W tabs) (h2 : AllErrs W errs) : TabOk noU W :=
  ⟨fun g k l h => ⟨fun hu => hu.elim, allTabs_get h1 h⟩, fun g h => ⟨fun hu => hu.elim, allErrs_get h2 h⟩⟩
end Go.Av

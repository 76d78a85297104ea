/- What a row's laid package variables give the engine's tables. -/
import Derived.Test.YtbhegmcbpolemaaDoorTE3
import Derived.Lib.LaidTab
import Derived.Stop.LaidErr
import Derived.MakeChecks
import Derived.Shelf.Vars
set_option linter.unusedVariables false
namespace Go.Av
open Go Go.RowKit
theorem NY {P:Program} {W:World} {n:String} {cs:Array Value} {g:Nat} (hg:P.globalNamed n = some g) (h:W.var? P n = some cs):∃ t fr,W.heap[g]? = some (.cells cs t fr):=by
 unfold World.var? at h
 rw [hg] at h
 simp only [Option.bind_some] at h
 split at h
 ·rename_i c t fr he
  cases h
  exact ⟨t,fr,he⟩
 ·cases h
theorem NZ {P:Program} {W:World} {name:String} {k:IntKind} {zs:List Int} {rest:List (String × DataW Unit)} {g:Nat} {t e:TypeId} {n:Nat}
  (hg:P.globalNamed name = some g) (hty:(P.globals[g]?).map (·.type) = some t) (ht:P.underlying t = some (.array n e)) (he:P.underlying e = some (.int k)) (hce:P.cellsOf e = 1) (hct:P.cellsOf t = n)
  (h:laidMet P ((name,Lib.tabData k zs) :: rest) W):∃ t fr,W.heap[g]? = some (.cells (zs.map (Value.int k)).toArray t fr):=by
 have h1:=Lib.tabIs_of_head hg hty ht he hce hct h
 unfold Lib.TabIs at h1
 exact NY hg h1
def Ew (W:World):List (Nat × IntKind × List Int) → Prop
 | []=>True
 | (g,k,l) :: r=>(∃ t fr,W.heap[g]? = some (.cells (l.map (Value.int k)).toArray t fr)) ∧ Ew W r
def Ex (W:World):List Nat → Prop
 | []=>True
 | g :: r=>(∃ te pe t fr,W.heap[g]? = some (.cells #[.iface te pe] t fr)) ∧ Ex W r
theorem Cz {W:World}:∀ {T:List (Nat × IntKind × List Int)} {g:Nat} {k:IntKind} {l:List Int},Ew W T → look T g = some (k,l) → ∃ t fr,W.heap[g]? = some (.cells (l.map (Value.int k)).toArray t fr)
 | [],g,k,l,_,h=>by cases h
 | (g',k',l') :: r,g,k,l,h,hg=>by
   rw [E3] at hg
   by_cases e:g' = g
   ·rw [if_pos e] at hg;cases hg;subst e;exact h.1
   ·rw [if_neg e] at hg;exact Cz h.2 hg
theorem DA {W:World}:∀ {T:List Nat} {g:Nat},Ex W T → g ∈ T → ∃ te pe t fr,W.heap[g]? = some (.cells #[.iface te pe] t fr)
 | [],g,_,h=>by cases h
 | g' :: r,g,h,hg=>by
   rcases List.mem_cons.1 hg with rfl | hg
   ·exact h.1
   ·exact DA h.2 hg
def Ey (W:World):List Nat → Prop
 | []=>True
 | g :: r=>(∃ m t fr,W.heap[g]? = some (.cells #[.int .i64 m] t fr)) ∧ Ey W r
theorem DB {W:World}:∀ {T:List Nat} {g:Nat},Ey W T → g ∈ T → ∃ m t fr,W.heap[g]? = some (.cells #[.int .i64 m] t fr)
 | [],g,_,h=>by cases h
 | g' :: r,g,h,hg=>by
   rcases List.mem_cons.1 hg with rfl | hg
   ·exact h.1
   ·exact DB h.2 hg
theorem Na {W:World} (h1:Ew W GL) (h2:Ex W PO) (h3:Ey W PQ):N8 AR W :=
 ⟨fun g k l h=>⟨fun hu=>hu.elim,Cz h1 h⟩,fun g h=>⟨fun hu=>hu.elim,DA h2 h⟩,fun g h=>⟨fun hu=>hu.elim,DB h3 h⟩⟩
end Go.Av

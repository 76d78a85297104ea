/- What laid package variables give. -/
import Derived.Test.YtiphlhoclaogjaaGreatDoorJE3
import Derived.Lib.LaidTab
import Derived.Stop.LaidErr
import Derived.MakeChecks
import Derived.Shelf.Vars
set_option linter.unusedVariables false
set_option maxHeartbeats 64000000
namespace Go.Av
open Go Go.RowKit
theorem fj9z{P:Program}{W:World}{n:String}{cs:Array Value}{g:Nat}(hg:P.globalNamed n=some g)(h:W.var? P n=some cs):∃t fr,W.heap[g]?=some (.cells cs t fr):=by
 unfold World.var? at h
 rw[hg]at h
 simp only[Option.bind_some]at h
 split at h
 ·rename_i c t fr he
  cases h
  exact⟨t,fr,he⟩
 ·cases h
theorem Om9z{P:Program}{W:World}{name:String}{k:IntKind}{zs:List Int}{rest:List (String×DataW Unit)}{g:Nat}{t e:TypeId}{n:Nat}
  (hg:P.globalNamed name=some g) (hty:(P.globals[g]?).map (·.type)=some t) (ht:P.underlying t=some (.array n e)) (he:P.underlying e=some (.int k)) (rY:P.cellsOf e=1) (hct:P.cellsOf t=n)
  (h:laidMet P ((name,Lib.tabData k zs)::rest) W):∃t fr,W.heap[g]?=some (.cells (zs.map (Value.int k)).toArray t fr):=by
 have h1:=Lib.tabIs_of_head hg hty ht he rY hct h
 unfold Lib.TabIs at h1
 exact fj9z hg h1
def QI9z(W:World):List (Nat×IntKind×List Int)→Prop
 |[]=>True
 |(g,k,l)::r=>(∃t fr,W.heap[g]?=some (.cells (l.map (Value.int k)).toArray t fr))∧QI9z W r
def QJ9z(W:World):List Nat→Prop
 |[]=>True
 |g::r=>(∃te pe t fr,W.heap[g]?=some (.cells #[.iface te pe] t fr))∧QJ9z W r
theorem MG9z{W:World}:∀{T:List (Nat×IntKind×List Int)} {g:Nat} {k:IntKind} {l:List Int},QI9z W T→look T g=some (k,l)→∃t fr,W.heap[g]?=some (.cells (l.map (Value.int k)).toArray t fr)
 |[],g,k,l,_,h=>by cases h
 |(g',k',l')::r,g,k,l,h,hg=>by
  rw[E8]at hg
  by_cases e:g'=g
  ·rw[if_pos e]at hg;cases hg;subst e;exact h.1
  ·rw[if_neg e]at hg;exact MG9z h.2 hg
theorem MH9z{W:World}:∀{T:List Nat} {g:Nat},QJ9z W T→g∈T→∃te pe t fr,W.heap[g]?=some (.cells #[.iface te pe] t fr)
 |[],g,_,h=>by cases h
 |g'::r,g,h,hg=>by
  rcases List.mem_cons.1 hg with rfl|hg
  ·exact h.1
  ·exact MH9z h.2 hg
def RR9z(W:World):List Nat→Prop
 |[]=>True
 |g::r=>(∃m t fr,W.heap[g]?=some (.cells #[.int .i64 m] t fr))∧RR9z W r
theorem MI9z{W:World}:∀{T:List Nat} {g:Nat},RR9z W T→g∈T→∃m t fr,W.heap[g]?=some (.cells #[.int .i64 m] t fr)
 |[],g,_,h=>by cases h
 |g'::r,g,h,hg=>by
  rcases List.mem_cons.1 hg with rfl|hg
  ·exact h.1
  ·exact MI9z h.2 hg
theorem gP9z{W:World}(h1:QI9z W SQ)(h2:QJ9z W js)(h3:RR9z W jt):S7 Ha W :=
 ⟨fun g k l h=>⟨fun hu=>hu.elim,MG9z h1 h⟩,fun g h=>⟨fun hu=>hu.elim,MH9z h2 h⟩,fun g h=>⟨fun hu=>hu.elim,MI9z h3 h⟩⟩
end Go.Av

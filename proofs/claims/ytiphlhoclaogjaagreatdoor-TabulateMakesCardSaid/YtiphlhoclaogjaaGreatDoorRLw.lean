/- What a row's laid package variables give the engine's tables. -/
import Derived.Test.YtiphlhoclaogjaaGreatDoorRE3
import Derived.Lib.LaidTab
import Derived.Stop.LaidErr
import Derived.MakeChecks
import Derived.Shelf.Vars
set_option linter.unusedVariables false
set_option maxHeartbeats 64000000
namespace Go.Av
open Go Go.RowKit
theorem eU{P:Program}{W:World}{n:String}{cs:Array Value}{g:Nat}(hg:P.globalNamed n=some g)(h:W.var? P n=some cs):∃t fr,W.heap[g]?=some (.cells cs t fr):=by
 unfold World.var? at h
 rw[hg]at h
 simp only[Option.bind_some]at h
 split at h
 ·rename_i c t fr he
  cases h
  exact⟨t,fr,he⟩
 ·cases h
theorem MI{P:Program}{W:World}{name:String}{k:IntKind}{zs:List Int}{rest:List (String×DataW Unit)}{g:Nat}{t e:TypeId}{n:Nat}
  (hg:P.globalNamed name=some g) (hty:(P.globals[g]?).map (·.type)=some t) (ht:P.underlying t=some (.array n e)) (he:P.underlying e=some (.int k)) (qa:P.cellsOf e=1) (hct:P.cellsOf t=n)
  (h:laidMet P ((name,Lib.tabData k zs)::rest) W):∃t fr,W.heap[g]?=some (.cells (zs.map (Value.int k)).toArray t fr):=by
 have h1:=Lib.tabIs_of_head hg hty ht he qa hct h
 unfold Lib.TabIs at h1
 exact eU hg h1
def PG(W:World):List (Nat×IntKind×List Int)→Prop
 |[]=>True
 |(g,k,l)::r=>(∃t fr,W.heap[g]?=some (.cells (l.map (Value.int k)).toArray t fr))∧PG W r
def PH(W:World):List Nat→Prop
 |[]=>True
 |g::r=>(∃te pe t fr,W.heap[g]?=some (.cells #[.iface te pe] t fr))∧PH W r
theorem LI{W:World}:∀{T:List (Nat×IntKind×List Int)} {g:Nat} {k:IntKind} {l:List Int},PG W T→look T g=some (k,l)→∃t fr,W.heap[g]?=some (.cells (l.map (Value.int k)).toArray t fr)
 |[],g,k,l,_,h=>by cases h
 |(g',k',l')::r,g,k,l,h,hg=>by
  rw[E9]at hg
  by_cases e:g'=g
  ·rw[if_pos e]at hg;cases hg;subst e;exact h.1
  ·rw[if_neg e]at hg;exact LI h.2 hg
theorem LJ{W:World}:∀{T:List Nat} {g:Nat},PH W T→g∈T→∃te pe t fr,W.heap[g]?=some (.cells #[.iface te pe] t fr)
 |[],g,_,h=>by cases h
 |g'::r,g,h,hg=>by
  rcases List.mem_cons.1 hg with rfl|hg
  ·exact h.1
  ·exact LJ h.2 hg
def PI(W:World):List Nat→Prop
 |[]=>True
 |g::r=>(∃m t fr,W.heap[g]?=some (.cells #[.int .i64 m] t fr))∧PI W r
theorem LK{W:World}:∀{T:List Nat} {g:Nat},PI W T→g∈T→∃m t fr,W.heap[g]?=some (.cells #[.int .i64 m] t fr)
 |[],g,_,h=>by cases h
 |g'::r,g,h,hg=>by
  rcases List.mem_cons.1 hg with rfl|hg
  ·exact h.1
  ·exact LK h.2 hg
theorem eV{W:World}(h1:PG W RU)(h2:PH W iq)(h3:PI W ir):S3 Gf W :=
 ⟨fun g k l h=>⟨fun hu=>hu.elim,LI h1 h⟩,fun g h=>⟨fun hu=>hu.elim,LJ h2 h⟩,fun g h=>⟨fun hu=>hu.elim,LK h3 h⟩⟩
end Go.Av

/- What a row's laid package variables give the engine's tables. -/
import Derived.Test.YtiphlhoclaogjabGreatDoorQE3
import Derived.Lib.LaidTab
import Derived.Stop.LaidErr
import Derived.MakeChecks
import Derived.Shelf.Vars
set_option linter.unusedVariables false
namespace Go.Av
open Go Go.RowKit
theorem Me {P:Program} {W:World} {n:String} {cs:Array Value} {g:Nat} (hg:P.globalNamed n = some g) (h:W.var? P n = some cs):∃ t fr,W.heap[g]? = some (.cells cs t fr):=by
 unfold World.var? at h
 rw [hg] at h
 simp only [Option.bind_some] at h
 split at h
 ·rename_i c t fr he
  cases h
  exact ⟨t,fr,he⟩
 ·cases h
theorem Gi {P:Program} {W:World} {name:String} {k:IntKind} {zs:List Int} {rest:List (String × DataW Unit)} {g:Nat} {t e:TypeId} {n:Nat}
  (hg:P.globalNamed name = some g) (hty:(P.globals[g]?).map (·.type) = some t) (ht:P.underlying t = some (.array n e)) (he:P.underlying e = some (.int k)) (hce:P.cellsOf e = 1) (hct:P.cellsOf t = n)
  (h:laidMet P ((name,Lib.tabData k zs) :: rest) W):∃ t fr,W.heap[g]? = some (.cells (zs.map (Value.int k)).toArray t fr):=by
 have h1:=Lib.tabIs_of_head hg hty ht he hce hct h
 unfold Lib.TabIs at h1
 exact Me hg h1
def Yr (P:Program) (te ts:TypeId):Bool:=match P.underlying te with
 | some (.struct ⟨[f]⟩)=>decide (f.type = ts) && decide (f.offset = 0)
 | _=>false
def Ys (P:Program) (ti:TypeId):Bool:=match P.underlying ti with
 | some (.interface _)=>true
 | _=>false
theorem Mf {P:Program} {n nm:String} {text:List UInt8} {r:List (String × DataW Unit)} {W:World} {g:Nat} {ti tp te ts:TypeId}
  (h:laidMet P ((n, .iface nm (.ptr (.agg [.lit (.string text)]))) :: r) W)
  (hg:P.globalNamed n = some g) (ht:(P.globals[g]?).map (·.type) = some ti) (hi:Ys P ti = true) (hrow:∀ u,P.typeName? 3 u = some nm → u = tp)
  (hp:P.underlying tp = some (.pointer te)) (he:Yr P te ts = true) (hs:P.underlying ts = some .string) (hc:P.cellsOf te = 1) (hcs:P.cellsOf ts = 1) :
  ∃ te pe t fr,W.heap[g]? = some (.cells #[.iface te pe] t fr):=by
 unfold Yr at he
 unfold Ys at hi
 split at he
 ·rename_i f hf
  simp only [Bool.and_eq_true,decide_eq_true_eq] at he
  split at hi
  ·rename_i ms hms
   obtain ⟨a,s,h1,_⟩:=laid_sentinel h hg ht hms hrow hp hf he.1 he.2 hs hc hcs
   obtain ⟨t,fr,h2⟩:=Me hg h1
   exact ⟨_,_,t,fr,h2⟩
  ·cases hi
 ·cases he
def JD (W:World):List (Nat × IntKind × List Int) → Prop
 | []=>True
 | (g,k,l) :: r=>(∃ t fr,W.heap[g]? = some (.cells (l.map (Value.int k)).toArray t fr)) ∧ JD W r
def JE (W:World):List Nat → Prop
 | []=>True
 | g :: r=>(∃ te pe t fr,W.heap[g]? = some (.cells #[.iface te pe] t fr)) ∧ JE W r
theorem GI {W:World}:∀ {T:List (Nat × IntKind × List Int)} {g:Nat} {k:IntKind} {l:List Int},JD W T → look T g = some (k,l) → ∃ t fr,W.heap[g]? = some (.cells (l.map (Value.int k)).toArray t fr)
 | [],g,k,l,_,h=>by cases h
 | (g',k',l') :: r,g,k,l,h,hg=>by
   rw [F7] at hg
   by_cases e:g' = g
   ·rw [if_pos e] at hg;cases hg;subst e;exact h.1
   ·rw [if_neg e] at hg;exact GI h.2 hg
theorem GJ {W:World}:∀ {T:List Nat} {g:Nat},JE W T → g ∈ T → ∃ te pe t fr,W.heap[g]? = some (.cells #[.iface te pe] t fr)
 | [],g,_,h=>by cases h
 | g' :: r,g,h,hg=>by
   rcases List.mem_cons.1 hg with rfl | hg
   ·exact h.1
   ·exact GJ h.2 hg
def JF (W:World):List Nat → Prop
 | []=>True
 | g :: r=>(∃ m t fr,W.heap[g]? = some (.cells #[.int .i64 m] t fr)) ∧ JF W r
theorem GK {W:World}:∀ {T:List Nat} {g:Nat},JF W T → g ∈ T → ∃ m t fr,W.heap[g]? = some (.cells #[.int .i64 m] t fr)
 | [],g,_,h=>by cases h
 | g' :: r,g,h,hg=>by
   rcases List.mem_cons.1 hg with rfl | hg
   ·exact h.1
   ·exact GK h.2 hg
theorem Uo {P:Program} {W:World} {g t:Nat} (hs:W.ShapedOpen P) (hg:Nat.blt g P.globals.size = true) (h0:((begin P (fun _ _=>0) default).world.heap[g]?).bind Obj.row? = some (#[.int .i64 0],t))
  (hb:P.buildable t = true) (hc:P.cellTypes P.depth t = some [t]) (hu:P.underlying t = some (.int .i64)):∃ m t fr,W.heap[g]? = some (.cells #[.int .i64 m] t fr):=by
 have hlt:g < P.globals.size:=Nat.blt_eq ▸ hg
 obtain ⟨cs,hh,hsz,_⟩:=hs.1 g #[.int .i64 0] t hlt h0
 obtain ⟨m,hm⟩:=Go.Proofs.cell_of_shapedOpen_int hs hlt h0 rfl hb hc hu
 have h1:cs.size = 1:=hsz
 have h2:cs[0]? = some (.int .i64 m):=by
  unfold World.cell? at hm
  simpa [hh] using hm
 refine ⟨m,t,(0,0),hh.trans ?_⟩
 have:cs = #[.int .i64 m]:=by
  apply Array.ext
  ·rw [h1];rfl
  ·intro i hi _
   have:i = 0:=by omega
   subst this
   have h3:=Array.getElem?_eq_some_iff.1 h2
   obtain ⟨_,h3⟩:=h3
   rw [h3];rfl
 rw [this]
theorem Up {W:World} (h1:JD W Ka) (h2:JE W Wx) (h3:JF W Wy):a7 Cp W :=
 ⟨fun g k l h=>⟨fun hu=>hu.elim,GI h1 h⟩,fun g h=>⟨fun hu=>hu.elim,GJ h2 h⟩,fun g h=>⟨fun hu=>hu.elim,GK h3 h⟩⟩
end Go.Av

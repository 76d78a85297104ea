/- ProgramBack: a text that was printed is parsed, and a text that is parsed is printed. -/
import Derived.Test.YtjmbhlgocikfiaaGreatDoorQAw8
import Derived.Test.YtjmbhlgocikfiaaGreatDoorQAw7
import Derived.Test.YtjmbhlgocikfiaaGreatDoorQXt3
import Derived.Test.YtjmbhlgocikfiaaGreatDoorQDx2r
import Derived.Test.YtjmbhlgocikfiaaGreatDoorQDx4
import Derived.Test.YtjmbhlgocikfiaaGreatDoorQCB
import Derived.Test.YtjmbhlgocikfiaaGreatDoorQE3
import Derived.Lib.LaidTab
import Derived.Stop.LaidErr
import Derived.MakeChecks
import Derived.Shelf.Vars
set_option linter.unusedVariables false
set_option linter.unnecessarySimpa false
set_option linter.unusedSimpArgs false
namespace Go.Proofs.YtjmbhlgocikfiaaGreatDoor
open Go Go.Av
attribute [local irreducible] AWp AOps AAny MAny DQ retQ retG St.le FCall GCall
set_option maxRecDepth 100000
abbrev tabW : List UInt8 := [32,10,40,41,47,45,43,42,59,44,61,48,49,50,55,118,109,97,101,108,115,116]
abbrev lineW : List UInt8 := [108,101,116,32,119,32,61,32,40,49,32,43,32,50,41,10]
set_option maxHeartbeats 16000000 in
theorem back_call (l : List UInt8) (at' : Int) (b : UInt8) (hl : l.length ≤ maxLen) : FCall Tryz.prog 4 [.sl 1 (l.map u8A), .i at', .v (.int .u8 b.toNat)] (.b true) := by
 unfold maxLen at hl
 have hb := b.toNat_lt
 have hL : (l.take 400).length ≤ 400 := List.length_take_le _ _
 have hnew := new_call l (by omega)
 have hsch := schc_draw (l.take 400) 0 hL
 have hd := schS_drawn (l.take 400) 0
 generalize schS (l.take 400) 0 = s0 at *
 obtain ⟨s,a0⟩ := s0
 dsimp only at hsch hd
 generalize l.take 400 = t at *
 have hpro := program_draw t s hd hL a0 5 (by omega)
 have htl := proD_txt hd t a0 5 (by omega)
 obtain ⟨hok,_⟩ := proD_ok hd t a0 5 (by omega)
 generalize proD t a0 s 5 = X at *
 obtain ⟨L,nms,a1⟩ := X
 dsimp only at hpro hok htl
 have hz : (proS s L).2 = 0 := by rw [pro_right hd hok]
 have e1 : FCall Tryz.prog 17 [sA s, .sl 21 (L.map stmL)] (.tup [.str (txtP s L), .i 0]) := (pPrint_call s L).congr (by rw [priP,if_pos hz,if_neg (by omega)])
 have e2 : FCall Tryz.prog 18 [sA s, .str (txtP s L)] (.tup [.sl 21 (L.map stmL), .i 0, .i 0]) := (pParse_call s (txtP s L) (by omega)).congr (by rw [parP_txt hz (by omega)])
 have e3 := sameP_self L
 clear hz hok hd
 generalize txtP s L = T0 at *
 have hgl : (T0 ++ lineW).length ≤ 15016 := by rw [List.length_append]; show _ + 16 ≤ _; omega
 have hgp : 16 ≤ (T0 ++ lineW).length := by rw [List.length_append]; show 16 ≤ _ + 16; omega
 have hmo := mod_call at' (T0 ++ lineW).length (by omega)
 have hml := mod_lt (k := at') (n := (T0 ++ lineW).length) (by omega)
 generalize hG : T0 ++ lineW = G at *
 generalize mod' at' G.length = k at *
 have h22 : 0 ≤ (b.toNat : Int).tmod 22 ∧ (b.toNat : Int).tmod 22 < 22 := by
  rw [Int.tmod_eq_emod_of_nonneg (by omega)]; omega
 obtain ⟨c,hc⟩ : ∃ c,tabW[((b.toNat : Int).tmod 22).toNat]? = some c := ⟨_,List.getElem?_eq_getElem (by show _ < 22; omega)⟩
 obtain ⟨gk,hgk⟩ : ∃ el,G[k.toNat]? = some el := ⟨_,List.getElem?_eq_getElem (by omega)⟩
 have hcl : (G.set k.toNat c).length = G.length := List.length_set
 have e4 := pParse_call s (G.set k.toNat c) (by omega)
 have e5 : (parP s (G.set k.toNat c)).2.2 = 0 → FCall Tryz.prog 17 [sA s, .sl 21 ((parP s (G.set k.toNat c)).1.map stmL)] (.tup [.str (G.set k.toNat c), .i 0]) := fun hg => by
  obtain ⟨q1,q2,q3⟩ := parP_inv (s := s) (t := G.set k.toNat c) (l := (parP s (G.set k.toNat c)).1) (n := (parP s (G.set k.toNat c)).2.1) (by rw [← hg])
  refine (pPrint_call s _).congr ?_
  rw [priP,if_pos q1, ← q2,if_neg (by omega)]
 generalize parP s (G.set k.toNat c) = Q at *
 obtain ⟨P1,n1,g1⟩ := Q
 dsimp only at e4 e5
 have ha := awake8_call
 refine fci Tryz.func4 98 fun hrd E h0 => ?_
 clear hrd
 repeat' ((first | refine ncall_g [] [] hnew rfl rfl rfl rfl rfl trivial rfl rfl rfl rfl rfl ?_ | refine call_i e1 ?_ | refine call_i e2 ?_ | refine call_i e3 ?_ | refine call_i e4 ?_ | (refine call_i (e5 (by omega)) ?_) | refine call_i hmo ?_ | refine call_i ha ?_ | (refine each_known (x := c) hc (by omega) ?_) | (refine each_knownm (x := gk) hgk (by omega) ?_) | refine own_bytes (l := T0 ++ lineW) rfl rfl (by rw [hG]; omega) ?_ | (refine draw_id 9 ?_; refine draw_le (id := 9) (σ' := ⟨[(1, .i at'),(2, .v (.int .u8 b.toNat)),(8, .iptr (sL s)),(15, .row 2 0 G.length)],3,[(2,some (.row (bigE + 5) 1 0 (G.map u8A)))]⟩) (le_of h0 rfl ⟨rfl,rfl,rfl,congrArg (fun z : List UInt8 => some (AV.row 2 0 z.length)) hG,trivial⟩ ⟨⟨_,congrArg (fun z : List UInt8 => Blk.row (bigE + 5) 1 _ (z.map u8A)) hG.symm⟩,trivial⟩ rfl rfl rfl) ?_; refine draw_m (id := 9) ⟨[(8, .iptr (sL s)),(15, .sl 1 ((G.set k.toNat c).map u8A))],0,[]⟩ ?_ ?_) | (refine side_i ?_ ?_; (simp only [List.length_append,List.length_cons,List.length_nil]; omega)) |refine aops_go ?_|refine S1 ?_|refine Z1 ?_|refine Z2 ?_|(refine And.intro ?_ ?_<;>intro h<;>try first|(exfalso;omega)|exact absurd rfl h)|refine Z3 ?_|refine Z4 ?_|intro el hel hbB|intro el hel|intro ex|refine Z5 ?_|(refine free_i ?_ ?_;exact ⟨by kernel_rfl,by decide⟩)|refine allI_c ?_ ?_|exact allI_n|refine allMP_c ?_ ?_|exact allMP_n|(refine many_step ?_ ?_ ?_;kernel_rfl;kernel_rfl) | refine nc [0] [0] hsch rfl rfl rfl ⟨rfl,trivial⟩ ?_ | refine nc [0] [0] hpro rfl rfl rfl ⟨rfl,trivial⟩ ?_) <;> (try (conv => whnf)))
 all_goals first
  | exact le_of h0 rfl ⟨rfl,congrArg (fun z => some (AV.sl 1 z)) (by rw [List.map_set]; rfl),trivial⟩ trivial rfl rfl rfl
  | exact ret_tmp rfl rfl
  | (exfalso; omega)
theorem back_all (l : List AV) (h : AShapes Tryz.prog Tryz.f4.params.toList l) : FCall Tryz.prog 4 l (.b true) := by
 obtain ⟨a1,r1,rfl,h1,a2,r2,rfl,h2,a3,r3,rfl,h3,rfl⟩ := h
 obtain ⟨l,hl,rfl⟩ := ash_by h1
 obtain ⟨n,_,rfl⟩ := ash_i h2
 obtain ⟨b,hb,rfl⟩ := ash_u8 Tryz.underlying5 h3
 have e : b = (UInt8.ofNat b).toNat := by simp; omega
 rw [e]
 exact back_call l n (UInt8.ofNat b) hl
end Go.Proofs.YtjmbhlgocikfiaaGreatDoor
namespace Go.Av
open Go Go.RowKit
theorem var_heap {P : Program} {W : World} {n : String} {cs : Array Value} {g : Nat} (hg : P.globalNamed n = some g) (h : W.var? P n = some cs) : ∃ t fr,W.heap[g]? = some (.cells cs t fr) := by
 unfold World.var? at h
 rw [hg] at h
 simp only [Option.bind_some] at h
 split at h
 ·rename_i c t fr he
  cases h
  exact ⟨t,fr,he⟩
 ·cases h
theorem tab_heap {P : Program} {W : World} {name : String} {k : IntKind} {zs : List Int} {rest : List (String × DataW Unit)} {g : Nat} {t e : TypeId} {n : Nat}
  (hg : P.globalNamed name = some g) (hty : (P.globals[g]?).map (·.type) = some t) (ht : P.underlying t = some (.array n e)) (he : P.underlying e = some (.int k)) (hce : P.cellsOf e = 1) (hct : P.cellsOf t = n)
  (h : laidMet P ((name,Lib.tabData k zs) :: rest) W) : ∃ t fr,W.heap[g]? = some (.cells (zs.map (Value.int k)).toArray t fr) := by
 have h1 := Lib.tabIs_of_head hg hty ht he hce hct h
 unfold Lib.TabIs at h1
 exact var_heap hg h1
def fld1 (P : Program) (te ts : TypeId) : Bool := match P.underlying te with
 | some (.struct ⟨[f]⟩) => decide (f.type = ts) && decide (f.offset = 0)
 | _ => false
def ifcB (P : Program) (ti : TypeId) : Bool := match P.underlying ti with
 | some (.interface _) => true
 | _ => false
theorem err_heap {P : Program} {n nm : String} {text : List UInt8} {r : List (String × DataW Unit)} {W : World} {g : Nat} {ti tp te ts : TypeId}
  (h : laidMet P ((n, .iface nm (.ptr (.agg [.lit (.string text)]))) :: r) W)
  (hg : P.globalNamed n = some g) (ht : (P.globals[g]?).map (·.type) = some ti) (hi : ifcB P ti = true) (hrow : ∀ u,P.typeName? 3 u = some nm → u = tp)
  (hp : P.underlying tp = some (.pointer te)) (he : fld1 P te ts = true) (hs : P.underlying ts = some .string) (hc : P.cellsOf te = 1) (hcs : P.cellsOf ts = 1) :
  ∃ te pe t fr,W.heap[g]? = some (.cells #[.iface te pe] t fr) := by
 unfold fld1 at he
 unfold ifcB at hi
 split at he
 ·rename_i f hf
  simp only [Bool.and_eq_true,decide_eq_true_eq] at he
  split at hi
  ·rename_i ms hms
   obtain ⟨a,s,h1,_⟩ := laid_sentinel h hg ht hms hrow hp hf he.1 he.2 hs hc hcs
   obtain ⟨t,fr,h2⟩ := var_heap hg h1
   exact ⟨_,_,t,fr,h2⟩
  ·cases hi
 ·cases he
def AllTabs (W : World) : List (Nat × IntKind × List Int) → Prop
 | [] => True
 | (g,k,l) :: r => (∃ t fr,W.heap[g]? = some (.cells (l.map (Value.int k)).toArray t fr)) ∧ AllTabs W r
def AllErrs (W : World) : List Nat → Prop
 | [] => True
 | g :: r => (∃ te pe t fr,W.heap[g]? = some (.cells #[.iface te pe] t fr)) ∧ AllErrs W r
theorem allTabs_get {W : World} : ∀ {T : List (Nat × IntKind × List Int)} {g : Nat} {k : IntKind} {l : List Int},AllTabs W T → look T g = some (k,l) → ∃ t fr,W.heap[g]? = some (.cells (l.map (Value.int k)).toArray t fr)
 | [],g,k,l,_,h => by cases h
 | (g',k',l') :: r,g,k,l,h,hg => by
  rw [look_cons] at hg
  by_cases e : g' = g
  ·rw [if_pos e] at hg; cases hg; subst e; exact h.1
  ·rw [if_neg e] at hg; exact allTabs_get h.2 hg
theorem allErrs_get {W : World} : ∀ {T : List Nat} {g : Nat},AllErrs W T → g ∈ T → ∃ te pe t fr,W.heap[g]? = some (.cells #[.iface te pe] t fr)
 | [],g,_,h => by cases h
 | g' :: r,g,h,hg => by
  rcases List.mem_cons.1 hg with rfl | hg
  ·exact h.1
  ·exact allErrs_get h.2 hg
def AllNums (W : World) : List Nat → Prop
 | [] => True
 | g :: r => (∃ m t fr,W.heap[g]? = some (.cells #[.int .i64 m] t fr)) ∧ AllNums W r
theorem allNums_get {W : World} : ∀ {T : List Nat} {g : Nat},AllNums W T → g ∈ T → ∃ m t fr,W.heap[g]? = some (.cells #[.int .i64 m] t fr)
 | [],g,_,h => by cases h
 | g' :: r,g,h,hg => by
  rcases List.mem_cons.1 hg with rfl | hg
  ·exact h.1
  ·exact allNums_get h.2 hg
theorem num_heap {P : Program} {W : World} {g t : Nat} (hs : W.ShapedOpen P) (hg : Nat.blt g P.globals.size = true) (h0 : ((begin P (fun _ _ => 0) default).world.heap[g]?).bind Obj.row? = some (#[.int .i64 0],t))
  (hb : P.buildable t = true) (hc : P.cellTypes P.depth t = some [t]) (hu : P.underlying t = some (.int .i64)) : ∃ m t fr,W.heap[g]? = some (.cells #[.int .i64 m] t fr) := by
 have hlt : g < P.globals.size := Nat.blt_eq ▸ hg
 obtain ⟨cs,hh,hsz,_⟩ := hs.1 g #[.int .i64 0] t hlt h0
 obtain ⟨m,hm⟩ := Go.Proofs.cell_of_shapedOpen_int hs hlt h0 rfl hb hc hu
 have h1 : cs.size = 1 := hsz
 have h2 : cs[0]? = some (.int .i64 m) := by
  unfold World.cell? at hm
  simpa [hh] using hm
 refine ⟨m,t,(0,0),hh.trans ?_⟩
 have : cs = #[.int .i64 m] := by
  apply Array.ext
  ·rw [h1]; rfl
  ·intro i hi _
   have : i = 0 := by omega
   subst this
   have h3 := Array.getElem?_eq_some_iff.1 h2
   obtain ⟨_,h3⟩ := h3
   rw [h3]; rfl
 rw [this]
theorem tabOk_of {W : World} (h1 : AllTabs W tabs) (h2 : AllErrs W errs) (h3 : AllNums W nums) : TabOk noU W :=
 ⟨fun g k l h => ⟨fun hu => hu.elim,allTabs_get h1 h⟩,fun g h => ⟨fun hu => hu.elim,allErrs_get h2 h⟩,fun g h => ⟨fun hu => hu.elim,allNums_get h3 h⟩⟩
end Go.Av

/- ProgramNames: a name can be used behind its statement alone, and no two statements have one name. -/
import Derived.Test.YtjmbhlgocikfiaaGreatDoorRAw8
import Derived.Test.YtjmbhlgocikfiaaGreatDoorRLq1
import Derived.Test.YtjmbhlgocikfiaaGreatDoorRDx4
import Derived.Test.YtjmbhlgocikfiaaGreatDoorRB9
import Derived.Test.YtjmbhlgocikfiaaGreatDoorRE3
import Derived.Lib.LaidTab
import Derived.Stop.LaidErr
import Derived.MakeChecks
import Derived.Shelf.Vars
set_option linter.unusedVariables false
set_option linter.unnecessarySimpa false
set_option linter.unusedSimpArgs false
namespace Go.Proofs.YtjmbhlgocikfiaaGreatDoor
open Go Go.Av
attribute [local irreducible] AWp AOps AAny MAny DQ retQ retG St.le FCall GCall
set_option maxRecDepth 100000
abbrev useL:List AV:=[.str bUse, .b false, .i 2, .i 0, .str bDef, .i 0,nilR,nilR, .i 0, .i 0, .i 0, .i 0, .i 0,nilR, .i 0, .i 0, .i 0, .i 0, .i 0,nilR,nilR]
abbrev defL:List AV:=[.str bDef, .b false, .i 1, .i 4, .str [], .i 0,nilR,nilR, .i 0, .i 0, .i 0, .i 0, .i 0,nilR, .i 0, .i 0, .i 0, .i 0, .i 0,nilR,nilR]
theorem use_nl:NLs useL (stmL useP):=⟨.refl _, .refl _, .refl _, .refl _, .refl _, .refl _, .nil 1, .nil 2, .refl _, .refl _, .refl _, .refl _, .refl _, .nil 6, .refl _, .refl _, .refl _, .refl _, .refl _, .nil 6, .nil 19,trivial⟩
theorem def_nl:NLs defL (stmL defP):=⟨.refl _, .refl _, .refl _, .refl _, .refl _, .refl _, .nil 1, .nil 2, .refl _, .refl _, .refl _, .refl _, .refl _, .nil 6, .refl _, .refl _, .refl _, .refl _, .refl _, .nil 6, .nil 19,trivial⟩
theorem le_bnl {E:Env} {n:Nat} {σ:St} (i:Nat) {l:List AV} (l':List AV) (hb:lookB σ.hp i = some (.box l)) (hcl:closedLB l = true) (hn:NLs l l'):St.le E n σ (σ.set i (.box l')):=by
 unfold St.le
 rintro a w ⟨θ,h⟩
 obtain ⟨hlen,hg⟩:=hn.get
 obtain ⟨b,arr,T',hθ,hh,hs,hr⟩:=(h.owns i _ hb).2
 have ht:=h.turn (v':=θ i) (b':=.box l') (w':=w) hb rfl rfl rfl (Nat.le_refl _) (fun _ _ _=>rfl) (fun k hk=>.inl hk) rfl fun le=>?_
 ·exact ⟨_,ht⟩
 ·refine ⟨b,arr,T',(by simp only [cx,upd_self];exact hθ),hh,by rw [← hlen];exact hs,fun j u v hu hv=>?_⟩
  obtain ⟨x,hx⟩:=get_of_len hlen hu
  have h1:=(closedLB_spec hcl x (List.mem_of_getElem? hx)).im (hr j x v hx hv)
  exact .im (((hg j x u hx hu).im h1).mono le.heap le.U)
theorem mid_eq (L:List Stm) (k:Nat) (M:List Stm):(([] ++ List.drop ((0:Nat):Int).toNat (List.take (k:Int).toNat (List.map stmL L))) ++ M.map stmL) ++ List.drop (k:Int).toNat (List.take ((List.map stmL L).length:Int).toNat (List.map stmL L)) = (L.take k ++ M ++ L.drop k).map stmL:=by
 rw [List.nil_append,show (((0:Nat):Int).toNat) = 0 from rfl,List.drop_zero,Int.toNat_natCast,Int.toNat_natCast,List.take_length,List.map_append,List.map_append,List.map_take,List.map_drop]
set_option maxHeartbeats 6000000 in
theorem names_call (l:List UInt8) (at0:Int) (hl:l.length ≤ maxLen):FCall Tryz.prog 5 [.sl 1 (l.map u8A), .i at0] (.b true):=by
 unfold maxLen at hl
 have hL:(l.take 400).length ≤ 400:=List.length_take_le _ _
 have hnew:=new_call l (by omega)
 have hsch:=schc_draw (l.take 400) 0 hL
 have hd:=schS_drawn (l.take 400) 0
 generalize schS (l.take 400) 0 = s0 at *
 obtain ⟨s,a0⟩:=s0
 dsimp only at hsch hd
 generalize l.take 400 = t at *
 have hpro:=program_draw t s hd hL a0 4 (by omega)
 obtain ⟨hok,hpl⟩:=proD_ok hd t a0 4 (by omega)
 generalize proD t a0 s 4 = X at *
 obtain ⟨L,nms,a1⟩:=X
 dsimp only at hpro hok hpl
 have hc1:=pCheck_call s L
 rw [pro_right hd hok] at hc1
 dsimp only at hc1
 have hmod:=mod_call at0 ((L.length:Int) + 1) (by omega)
 obtain ⟨k,hkm,hk⟩:∃ k:Nat,mod' at0 ((L.length:Int) + 1) = k ∧ k ≤ L.length:=by
  have:=mod_lt (k:=at0) (n:=(L.length:Int) + 1) (by omega)
  exact ⟨(mod' at0 ((L.length:Int) + 1)).toNat,by omega,by omega⟩
 rw [hkm] at hmod
 clear hkm
 obtain ⟨g1,g2,g3⟩:=names_law hd hok (by omega) k hk
 have c1:=pCheck_call s (L.take k ++ [defP,useP] ++ L.drop k)
 have c2:=pCheck_call s (L.take k ++ [useP,defP] ++ L.drop k)
 have c3:=pCheck_call s (L.take k ++ [defP,useP] ++ L.drop k ++ [defP])
 rw [g1] at c1
 rw [g2] at c2
 rw [g3] at c3
 dsimp only at c1 c2 c3
 have n1:(([] ++ List.drop ((0:Nat):Int).toNat (List.take (k:Int).toNat (List.map stmL L))) ++ [stmL defP,stmL useP]) ++ List.drop (k:Int).toNat (List.take ((List.map stmL L).length:Int).toNat (List.map stmL L)) = (L.take k ++ [defP,useP] ++ L.drop k).map stmL:=mid_eq L k [defP,useP]
 have n2:(([] ++ List.drop ((0:Nat):Int).toNat (List.take (k:Int).toNat (List.map stmL L))) ++ [stmL useP,stmL defP]) ++ List.drop (k:Int).toNat (List.take ((List.map stmL L).length:Int).toNat (List.map stmL L)) = (L.take k ++ [useP,defP] ++ L.drop k).map stmL:=mid_eq L k [useP,defP]
 have er:(L.take k ++ [defP,useP] ++ L.drop k).length = L.length + 2:=by
  rw [List.length_append,List.length_append,List.length_take,List.length_drop];simp;omega
 have ew:(L.take k ++ [useP,defP] ++ L.drop k).length = L.length + 2:=by
  rw [List.length_append,List.length_append,List.length_take,List.length_drop];simp;omega
 generalize L.take k ++ [defP,useP] ++ L.drop k = R at *
 generalize L.take k ++ [useP,defP] ++ L.drop k = W at *
 clear g1 g2 g3
 have n3:([] ++ R.map stmL) ++ [stmL defP] = (R ++ [defP]).map stmL:=by
  rw [List.map_append,List.nil_append];rfl
 have hRm:(List.map stmL R).length = L.length + 2:=by rw [List.length_map];exact er
 have ha:=awake8_call
 have him:∀ (a b:Nat),∀ el ∈ List.drop a (List.take b (L.map stmL)),∀ u ∈ el,imOne u:=fun a b el hel=>ims_map (fun _=>rfl) el (List.mem_of_mem_take (List.mem_of_mem_drop hel))
 have hln:∀ (a b:Nat),(List.drop a (List.take b (L.map stmL))).length ≤ 4:=fun a b=>by
  rw [List.length_drop,List.length_take,List.length_map];omega
 have hA:=hln ((0:Nat):Int).toNat (k:Int).toNat
 have hB:=hln (k:Int).toNat ((L.map stmL).length:Int).toNat
 clear hln him
 have i1:∀ el ∈ List.drop ((0:Nat):Int).toNat (List.take (k:Int).toNat (List.map stmL L)),∀ u ∈ el,imOne u:=fun el hel=>ims_map (fun _=>rfl) el (List.mem_of_mem_take (List.mem_of_mem_drop hel))
 have i2:∀ el ∈ List.drop (k:Int).toNat (List.take ((List.map stmL L).length:Int).toNat (List.map stmL L)),∀ u ∈ el,imOne u:=fun el hel=>ims_map (fun _=>rfl) el (List.mem_of_mem_take (List.mem_of_mem_drop hel))
 have i3:∀ el ∈ List.map stmL R,∀ u ∈ el,imOne u:=fun el hel=>ims_map (fun _=>rfl) el hel
 refine fci Tryz.func5 129 fun hrd E h0=>?_
 clear hrd
 repeat' ((first | (refine draw_id 10 ?_;refine draw_le (id:=10) (σ':=⟨[(6, .iptr (sL s)),(7, .sl 21 (L.map stmL)),(10, .iptr (stmL useP)),(11, .iptr (stmL defP)),(12, .i k)],0,[]⟩) (le_trans (le_bnl 2 (stmL useP) rfl rfl use_nl) (le_trans (le_bnl 3 (stmL defP) rfl rfl def_nl) (le_of h0 rfl ⟨rfl,rfl,rfl,rfl,rfl,trivial⟩ trivial rfl rfl rfl))) ?_;refine draw_m (id:=10) ⟨[(6, .iptr (sL s)),(7, .sl 21 (L.map stmL)),(10, .iptr (stmL useP)),(11, .iptr (stmL defP)),(12, .i k),(13, .sl 21 (R.map stmL))],0,[]⟩ ?_ ?_) | (refine draw_id 11 ?_;refine draw_le (id:=11) (σ':=⟨[(6, .iptr (sL s)),(7, .sl 21 (L.map stmL)),(10, .iptr (stmL useP)),(11, .iptr (stmL defP)),(12, .i k),(13, .sl 21 (R.map stmL))],0,[]⟩) (le_of h0 rfl ⟨rfl,rfl,rfl,rfl,rfl,rfl,trivial⟩ trivial rfl rfl rfl) ?_;refine draw_m (id:=11) ⟨[(6, .iptr (sL s)),(7, .sl 21 (L.map stmL)),(10, .iptr (stmL useP)),(11, .iptr (stmL defP)),(12, .i k),(13, .sl 21 (R.map stmL)),(14, .sl 21 (W.map stmL))],0,[]⟩ ?_ ?_) | (refine draw_id 12 ?_;refine draw_le (id:=12) (σ':=⟨[(6, .iptr (sL s)),(7, .sl 21 (L.map stmL)),(10, .iptr (stmL useP)),(11, .iptr (stmL defP)),(12, .i k),(13, .sl 21 (R.map stmL)),(14, .sl 21 (W.map stmL))],0,[]⟩) (le_of h0 rfl ⟨rfl,rfl,rfl,rfl,rfl,rfl,rfl,trivial⟩ trivial rfl rfl rfl) ?_;refine draw_m (id:=12) ⟨[(6, .iptr (sL s)),(7, .sl 21 (L.map stmL)),(10, .iptr (stmL useP)),(11, .iptr (stmL defP)),(12, .i k),(13, .sl 21 (R.map stmL)),(14, .sl 21 (W.map stmL)),(15, .sl 21 ((R ++ [defP]).map stmL))],0,[]⟩ ?_ ?_) | (refine side_i ?_ ?_;exact i1) | (refine side_i ?_ ?_;exact i2) | (refine side_i ?_ ?_;exact i3) | (refine side_i ?_ ?_;(constructor <;> omega)) | (refine side_i ?_ ?_;(simp only [elsA_length,List.length_cons,List.length_nil];constructor <;> omega)) | refine call_i ha ?_ | refine call_i hc1 ?_ | refine call_i c1 ?_ | refine call_i c2 ?_ | refine call_i c3 ?_ | refine call_i hmod ?_ | refine ncall_g [] [] hnew rfl rfl rfl rfl rfl trivial rfl rfl rfl rfl rfl ?_ |refine aops_go ?_|refine S1 ?_|refine Z1 ?_|refine Z2 ?_|(refine And.intro ?_ ?_<;>intro h<;>try first|(exfalso;omega)|exact absurd rfl h)|refine Z3 ?_|refine Z4 ?_|intro el hel hbB|intro el hel|intro ex|refine Z5 ?_|(refine free_i ?_ ?_;exact ⟨by kernel_rfl,by decide⟩)|refine allI_c ?_ ?_|exact allI_n|refine allMP_c ?_ ?_|exact allMP_n|(refine many_step ?_ ?_ ?_;kernel_rfl;kernel_rfl) | refine nc [0] [0] hsch rfl rfl rfl ⟨rfl,trivial⟩ ?_ | refine nc [0] [0] hpro rfl rfl rfl ⟨rfl,trivial⟩ ?_) <;> (try (conv=>whnf)))
 all_goals first
  | exact le_of h0 rfl ⟨rfl,rfl,rfl,rfl,rfl,congrArg (fun z=>some (AV.sl 21 z)) n1,trivial⟩ trivial rfl rfl rfl
  | exact le_of h0 rfl ⟨rfl,rfl,rfl,rfl,rfl,rfl,congrArg (fun z=>some (AV.sl 21 z)) n2,trivial⟩ trivial rfl rfl rfl
  | exact le_of h0 rfl ⟨rfl,rfl,rfl,rfl,rfl,rfl,rfl,congrArg (fun z=>some (AV.sl 21 z)) n3,trivial⟩ trivial rfl rfl rfl
  | exact ret_tmp rfl rfl
  | (exfalso;omega)
theorem names_all (l:List AV) (h:AShapes Tryz.prog Tryz.f5.params.toList l):FCall Tryz.prog 5 l (.b true):=by
 obtain ⟨a1,r1,rfl,h1,a2,r2,rfl,h2,rfl⟩:=h
 obtain ⟨l,hl,rfl⟩:=ash_by h1
 obtain ⟨n,_,rfl⟩:=ash_i h2
 exact names_call l n hl
end Go.Proofs.YtjmbhlgocikfiaaGreatDoor
namespace Go.Av
open Go Go.RowKit
theorem var_heap {P:Program} {W:World} {n:String} {cs:Array Value} {g:Nat} (hg:P.globalNamed n = some g) (h:W.var? P n = some cs):∃ t fr,W.heap[g]? = some (.cells cs t fr):=by
 unfold World.var? at h
 rw [hg] at h
 simp only [Option.bind_some] at h
 split at h
 ·rename_i c t fr he
  cases h
  exact ⟨t,fr,he⟩
 ·cases h
theorem tab_heap {P:Program} {W:World} {name:String} {k:IntKind} {zs:List Int} {rest:List (String × DataW Unit)} {g:Nat} {t e:TypeId} {n:Nat}
  (hg:P.globalNamed name = some g) (hty:(P.globals[g]?).map (·.type) = some t) (ht:P.underlying t = some (.array n e)) (he:P.underlying e = some (.int k)) (hce:P.cellsOf e = 1) (hct:P.cellsOf t = n)
  (h:laidMet P ((name,Lib.tabData k zs) :: rest) W):∃ t fr,W.heap[g]? = some (.cells (zs.map (Value.int k)).toArray t fr):=by
 have h1:=Lib.tabIs_of_head hg hty ht he hce hct h
 unfold Lib.TabIs at h1
 exact var_heap hg h1
def fld1 (P:Program) (te ts:TypeId):Bool:=match P.underlying te with
 | some (.struct ⟨[f]⟩)=>decide (f.type = ts) && decide (f.offset = 0)
 | _=>false
def ifcB (P:Program) (ti:TypeId):Bool:=match P.underlying ti with
 | some (.interface _)=>true
 | _=>false
theorem err_heap {P:Program} {n nm:String} {text:List UInt8} {r:List (String × DataW Unit)} {W:World} {g:Nat} {ti tp te ts:TypeId}
  (h:laidMet P ((n, .iface nm (.ptr (.agg [.lit (.string text)]))) :: r) W)
  (hg:P.globalNamed n = some g) (ht:(P.globals[g]?).map (·.type) = some ti) (hi:ifcB P ti = true) (hrow:∀ u,P.typeName? 3 u = some nm → u = tp)
  (hp:P.underlying tp = some (.pointer te)) (he:fld1 P te ts = true) (hs:P.underlying ts = some .string) (hc:P.cellsOf te = 1) (hcs:P.cellsOf ts = 1) :
  ∃ te pe t fr,W.heap[g]? = some (.cells #[.iface te pe] t fr):=by
 unfold fld1 at he
 unfold ifcB at hi
 split at he
 ·rename_i f hf
  simp only [Bool.and_eq_true,decide_eq_true_eq] at he
  split at hi
  ·rename_i ms hms
   obtain ⟨a,s,h1,_⟩:=laid_sentinel h hg ht hms hrow hp hf he.1 he.2 hs hc hcs
   obtain ⟨t,fr,h2⟩:=var_heap hg h1
   exact ⟨_,_,t,fr,h2⟩
  ·cases hi
 ·cases he
def AllTabs (W:World):List (Nat × IntKind × List Int) → Prop
 | []=>True
 | (g,k,l) :: r=>(∃ t fr,W.heap[g]? = some (.cells (l.map (Value.int k)).toArray t fr)) ∧ AllTabs W r
def AllErrs (W:World):List Nat → Prop
 | []=>True
 | g :: r=>(∃ te pe t fr,W.heap[g]? = some (.cells #[.iface te pe] t fr)) ∧ AllErrs W r
theorem allTabs_get {W:World}:∀ {T:List (Nat × IntKind × List Int)} {g:Nat} {k:IntKind} {l:List Int},AllTabs W T → look T g = some (k,l) → ∃ t fr,W.heap[g]? = some (.cells (l.map (Value.int k)).toArray t fr)
 | [],g,k,l,_,h=>by cases h
 | (g',k',l') :: r,g,k,l,h,hg=>by
  rw [look_cons] at hg
  by_cases e:g' = g
  ·rw [if_pos e] at hg;cases hg;subst e;exact h.1
  ·rw [if_neg e] at hg;exact allTabs_get h.2 hg
theorem allErrs_get {W:World}:∀ {T:List Nat} {g:Nat},AllErrs W T → g ∈ T → ∃ te pe t fr,W.heap[g]? = some (.cells #[.iface te pe] t fr)
 | [],g,_,h=>by cases h
 | g' :: r,g,h,hg=>by
  rcases List.mem_cons.1 hg with rfl | hg
  ·exact h.1
  ·exact allErrs_get h.2 hg
def AllNums (W:World):List Nat → Prop
 | []=>True
 | g :: r=>(∃ m t fr,W.heap[g]? = some (.cells #[.int .i64 m] t fr)) ∧ AllNums W r
theorem allNums_get {W:World}:∀ {T:List Nat} {g:Nat},AllNums W T → g ∈ T → ∃ m t fr,W.heap[g]? = some (.cells #[.int .i64 m] t fr)
 | [],g,_,h=>by cases h
 | g' :: r,g,h,hg=>by
  rcases List.mem_cons.1 hg with rfl | hg
  ·exact h.1
  ·exact allNums_get h.2 hg
theorem num_heap {P:Program} {W:World} {g t:Nat} (hs:W.ShapedOpen P) (hg:Nat.blt g P.globals.size = true) (h0:((begin P (fun _ _=>0) default).world.heap[g]?).bind Obj.row? = some (#[.int .i64 0],t))
  (hb:P.buildable t = true) (hc:P.cellTypes P.depth t = some [t]) (hu:P.underlying t = some (.int .i64)):∃ m t fr,W.heap[g]? = some (.cells #[.int .i64 m] t fr):=by
 have hlt:g < P.globals.size:=Nat.blt_eq ▸ hg
 obtain ⟨cs,hh,hsz,_⟩:=hs.1 g #[.int .i64 0] t hlt h0
 obtain ⟨m,hm⟩:=Go.Proofs.cell_of_shapedOpen_int hs hlt h0 rfl hb hc hu
 have h1:cs.size = 1:=hsz
 have h2:cs[0]? = some (.int .i64 m):=by
  unfold World.cell? at hm
  simpa [hh] using hm
 refine ⟨m,t,(0,0),hh.trans ?_⟩
 have:cs = #[.int .i64 m]:=by
  apply Array.ext
  ·rw [h1];rfl
  ·intro i hi _
   have:i = 0:=by omega
   subst this
   have h3:=Array.getElem?_eq_some_iff.1 h2
   obtain ⟨_,h3⟩:=h3
   rw [h3];rfl
 rw [this]
theorem tabOk_of {W:World} (h1:AllTabs W tabs) (h2:AllErrs W errs) (h3:AllNums W nums):TabOk noU W :=
 ⟨fun g k l h=>⟨fun hu=>hu.elim,allTabs_get h1 h⟩,fun g h=>⟨fun hu=>hu.elim,allErrs_get h2 h⟩,fun g h=>⟨fun hu=>hu.elim,allNums_get h3 h⟩⟩
end Go.Av

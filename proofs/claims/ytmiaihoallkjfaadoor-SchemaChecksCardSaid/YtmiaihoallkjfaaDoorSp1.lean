/- Chapter 2: a made schema in which something is another thing. -/
import Derived.Test.YtmiaihoallkjfaaDoorB12
import Derived.Test.YtmiaihoallkjfaaDoorB12
namespace Go.Proofs.YtmiaihoallkjfaaDoor
open Go Go.Av
attribute [local irreducible] AWp AOps AAny MAny DQ retQ retG St.le FCall GCall
set_option linter.unusedVariables false
set_option linter.unnecessarySimpa false
set_option linter.unusedSimpArgs false
set_option maxRecDepth 100000

def noC : Col := ⟨[], 0, 0, 0, 0, [], false⟩
def spoilt2S (l : List UInt8) (at' by' : Int) (name : List UInt8) : Sch :=
  let s := (schS (l.take 400) 0).1
  let k := (mod' at' s.cols.length).toNat
  let x := s.cols.getD k noC
  match (nxt (l.take 400) (schS (l.take 400) 0).2 14).1 with
  | 1 => ⟨s.lists, s.cols.set k { x with name := name }⟩
  | 2 => ⟨s.lists, s.cols.set k { x with kind := by' }⟩
  | 3 => ⟨s.lists, s.cols.set k { x with lst := by' }⟩
  | 4 => ⟨s.lists, s.cols.set k { x with low := by' }⟩
  | 5 => ⟨s.lists, s.cols.set k { x with high := by' }⟩
  | 6 => ⟨s.lists, s.cols.set k { x with widths := x.widths ++ [by'] }⟩
  | 7 => ⟨s.lists, s.cols.set k { x with widths := [] }⟩
  | 8 => ⟨s.lists, s.cols.set k { x with opt := !x.opt }⟩
  | 9 => ⟨s.lists.set 1 (oneL, (s.lists.getD 1 ([], [])).2), s.cols⟩
  | 10 => ⟨s.lists, s.cols.drop 1⟩
  | 11 => ⟨s.lists, s.cols ++ s.cols⟩
  | _ => s
theorem map_setCol (cs : List Col) (k : Nat) (c : Col) : (cs.map colL).set k (colL c) = (cs.set k c).map colL := List.map_set.symm
theorem map_setCl (ls : List CL) (k : Nat) (c : CL) : (ls.map clL).set k (clL c) = (ls.set k c).map clL := List.map_set.symm

theorem nlss_set : ∀ (L : List (List AV)) (k : Nat) {e e' : List AV}, NLs e e' → NLss (L.set k e) (L.set k e')
  | [], k, _, _, _ => trivial
  | x :: r, 0, _, _, h => ⟨h, NLss.refl r⟩
  | x :: r, k + 1, _, _, h => ⟨NLs.refl x, nlss_set r k h⟩
set_option maxHeartbeats 8000000 in
theorem spoilt2_call (l : List UInt8) (at' by' : Int) (name : List UInt8) (hl : l.length ≤ 9223372036854775807) : FCall Tryd.prog 47 [.sl 1 (l.map u8A), .i at', .i by', .str name] (sA (spoilt2S l at' by' name)) := by
  have hL : (l.take 400).length ≤ 400 := List.length_take_le _ _
  have hnew := new_call l hl
  have hsch := sch_call (l.take 400) 0 hL
  have hd := schS_drawn (l.take 400) 0
  unfold spoilt2S
  dsimp only
  generalize schS (l.take 400) 0 = s0 at *
  obtain ⟨s, a0⟩ := s0
  dsimp only at hsch hd ⊢
  have hlen := hd.lens
  generalize l.take 400 = t at *
  have hm1 := mod_lt (k := at') (n := s.cols.length) (by omega)
  have hmod := mod_call at' s.cols.length (by omega)
  generalize mod' at' s.cols.length = k0 at *
  obtain ⟨k, rfl⟩ := Int.eq_ofNat_of_zero_le hm1.1
  obtain ⟨c, hc⟩ : ∃ c, s.cols[k]? = some c := ⟨_, List.getElem?_eq_getElem (by omega)⟩
  have hgd : s.cols.getD ((k : Int).toNat) noC = c := getD_get (by simpa using hc)
  rw [hgd]
  rw [show (k : Int).toNat = k from Int.toNat_natCast k]
  have hnx := next_call t a0 14 hL
  have h14 := nxt_lt t a0 (n := 14) (by omega)
  generalize nxt t a0 14 = q at *
  obtain ⟨q1, q2⟩ := q
  dsimp only at hnx h14 ⊢
  refine fcall_intro (n := 105) Tryd.func47 (by kernel_rfl) rfl rfl rfl rfl rfl (by intro t T h; cases h; exact ⟨2, inferInstance, fun l h => by cases h; rfl⟩) (fun hrd E h0 => ?_)
  clear hrd
  have hwl : c.widths.length ≤ 4 := by
    rcases hd.col hc with ⟨_, rfl⟩ | ⟨_, rfl | rfl⟩ | ⟨_, nm, hm⟩
    · decide
    · decide
    · decide
    · have h9 := hm.wid
      simp only [wOpts, List.mem_cons, List.not_mem_nil, or_false] at h9
      rcases h9 with h9 | h9 | h9 | h9 <;> rw [h9] <;> decide
  have e1 := map_setCol s.cols k
  have e10 : ((s.cols.map colL).take (((s.cols.map colL).length : Nat) : Int).toNat).drop (1 : Int).toNat = (s.cols.drop 1).map colL := by
    rw [Int.toNat_natCast, List.take_length]
    exact List.map_drop.symm
  have hcl := lt_of_get hc
  by_cases h7 : (q1 : Int) = 7
  · obtain rfl : q1 = 7 := by omega
    have hnl : NLss ((s.cols.map colL).set k [.str c.name, .i c.kind, .i c.lst, .i c.low, .i c.high, .v (.slice none 0 0), .b c.opt]) ((s.cols.set k { c with widths := [] }).map colL) := by
      rw [← map_setCol]
      exact nlss_set (s.cols.map colL) k ⟨.refl _, .refl _, .refl _, .refl _, .refl _, .nil 1, .refl _, trivial⟩
    repeat' ((first | refine aops_le (le_nl 3 (l := (s.cols.map colL).set k [.str c.name, .i c.kind, .i c.lst, .i c.low, .i c.high, .v (.slice none 0 0), .b c.opt]) ((s.cols.set k { c with widths := [] }).map colL) rfl hnl) ?_ | refine ncall_g [] [] hnew rfl rfl rfl rfl rfl trivial rfl rfl rfl rfl rfl ?_ | refine ⟨ncall_h [1] [0] hsch rfl rfl rfl rfl rfl ⟨rfl, trivial⟩ rfl rfl rfl rfl rfl ?_⟩ | (refine ⟨ncall_h [1] [0] hnx rfl rfl rfl rfl rfl ⟨rfl, trivial⟩ rfl rfl rfl rfl rfl ?_⟩; (try (conv => whnf)); refine aops_cut [1, 2, 3, 8, 9, 10, 11, 25] ?_) | refine call_i hmod ?_ | (refine each_knownm (x := c) hc (by omega) ?_)  | refine aops_go ?_ | refine awp_go ?_ | refine var_i ?_ | refine fld_i ?_ | refine sl_i ?_ | refine arr_i ?_ | refine strt_i ?_ | refine boolt_i ?_ | refine zero_i ?_ | refine build_i ?_ | (refine row_i ?_ ?_; rfl) | refine map_i ?_ | refine guard_tt ?_ | refine guard_ff ?_ | refine guard_tf ?_ | refine guard_ft ?_ | (refine guard_dt (fun h => ?_) (fun h => ?_) <;> try (first | (exfalso; omega) | exact absurd rfl h)) | (refine guard_df (fun h => ?_) (fun h => ?_) <;> try (first | (exfalso; omega) | exact absurd rfl h)) | (refine guard_ndt (fun h => ?_) (fun h => ?_) <;> try (first | (exfalso; omega) | exact absurd rfl h)) | (refine guard_ndf (fun h => ?_) (fun h => ?_) <;> try (first | (exfalso; omega) | exact absurd rfl h)) | refine guard_nbt (fun h => ?_) (fun h => ?_) | refine guard_nbf (fun h => ?_) (fun h => ?_) | refine guard_bt (fun h => ?_) (fun h => ?_) | refine guard_bf (fun h => ?_) (fun h => ?_) | refine cond_t ?_ | refine cond_f ?_ | (refine cond_d (fun h => ?_) (fun h => ?_) <;> try (first | (exfalso; omega) | exact absurd rfl h)) | (refine cond_nd (fun h => ?_) (fun h => ?_) <;> try (first | (exfalso; omega) | exact absurd rfl h)) | refine cond_nb (fun h => ?_) (fun h => ?_) | refine cond_b (fun h => ?_) (fun h => ?_) | (refine side_i ?_ ?_; (first | omega | exact Eq.refl _ | exact ⟨Eq.refl _, by omega⟩ | (simp only [List.length_map]; omega))) | (refine side_i (imsB ?_) ?_; rfl) | (refine side_i (ims_map fun x => ?_) ?_; rfl) | (refine side_i ?_ ?_; (constructor <;> (simp only [elsA, cellsA, List.length_cons, List.length_nil, List.length_map]; omega))) | refine len_map ?_ | refine len_l ?_ | (refine each_knownm (by assumption) (by omega) ?_) | (refine each_known (by assumption) (by omega) ?_) | (refine each_mapNb ?_ (fun el hel hbB => ?_); omega) | (refine each_mapb ?_ ?_ (fun el hel hbB => ?_); omega; omega) | (refine each_lb ?_ ?_ (fun el hel hbB => ?_); omega; omega) | (refine each_mapN ?_ (fun el hel => ?_); omega) | (refine each_map ?_ ?_ (fun el hel => ?_); omega; omega) | (refine each_l ?_ ?_ (fun el hel => ?_); omega; omega) | (refine conv_bytes ?_ ?_; omega) | refine conv_u8 ?_ | refine conv_int ?_ | refine dq_go ?_ | (refine aany_go ?_ ?_ ?_; kernel_rfl; rfl) | (refine many_step ?_ ?_ ?_; kernel_rfl; kernel_rfl) | refine ex_i (fun ex => ?_) | refine allMP_c ?_ ?_ | exact allMP_n | (refine mpost_i ?_ ?_ ?_ ?_; rfl; rfl; rfl) | (refine free_i ?_ ?_; exact ⟨by kernel_rfl, by decide⟩) | refine allI_c ?_ ?_ | exact allI_n | refine conv_rune ?_ | (refine draw_p ?_ ?_ ?_; rfl; kernel_rfl)) <;> (try (conv => whnf)))
    all_goals first
      | exact ret_cell rfl rfl rfl
      | trace_state
  · repeat' ((first | refine ncall_g [] [] hnew rfl rfl rfl rfl rfl trivial rfl rfl rfl rfl rfl ?_ | refine ⟨ncall_h [1] [0] hsch rfl rfl rfl rfl rfl ⟨rfl, trivial⟩ rfl rfl rfl rfl rfl ?_⟩ | (refine ⟨ncall_h [1] [0] hnx rfl rfl rfl rfl rfl ⟨rfl, trivial⟩ rfl rfl rfl rfl rfl ?_⟩; (try (conv => whnf)); refine aops_cut [1, 2, 3, 8, 9, 10, 11, 25] ?_) | refine call_i hmod ?_ | (refine each_knownm (x := c) hc (by omega) ?_) | refine ncall_frz (l := [.row 5 _ _]) 5 ?_ | refine ncall_frz (l := [.row 3 _ _]) 3 ?_  | refine aops_go ?_ | refine awp_go ?_ | refine var_i ?_ | refine fld_i ?_ | refine sl_i ?_ | refine arr_i ?_ | refine strt_i ?_ | refine boolt_i ?_ | refine zero_i ?_ | refine build_i ?_ | (refine row_i ?_ ?_; rfl) | refine map_i ?_ | refine guard_tt ?_ | refine guard_ff ?_ | refine guard_tf ?_ | refine guard_ft ?_ | (refine guard_dt (fun h => ?_) (fun h => ?_) <;> try (first | (exfalso; omega) | exact absurd rfl h)) | (refine guard_df (fun h => ?_) (fun h => ?_) <;> try (first | (exfalso; omega) | exact absurd rfl h)) | (refine guard_ndt (fun h => ?_) (fun h => ?_) <;> try (first | (exfalso; omega) | exact absurd rfl h)) | (refine guard_ndf (fun h => ?_) (fun h => ?_) <;> try (first | (exfalso; omega) | exact absurd rfl h)) | refine guard_nbt (fun h => ?_) (fun h => ?_) | refine guard_nbf (fun h => ?_) (fun h => ?_) | refine guard_bt (fun h => ?_) (fun h => ?_) | refine guard_bf (fun h => ?_) (fun h => ?_) | refine cond_t ?_ | refine cond_f ?_ | (refine cond_d (fun h => ?_) (fun h => ?_) <;> try (first | (exfalso; omega) | exact absurd rfl h)) | (refine cond_nd (fun h => ?_) (fun h => ?_) <;> try (first | (exfalso; omega) | exact absurd rfl h)) | refine cond_nb (fun h => ?_) (fun h => ?_) | refine cond_b (fun h => ?_) (fun h => ?_) | (refine side_i ?_ ?_; (first | omega | exact Eq.refl _ | exact ⟨Eq.refl _, by omega⟩ | (simp only [List.length_map]; omega))) | (refine side_i (imsB ?_) ?_; rfl) | (refine side_i (ims_map fun x => ?_) ?_; rfl) | (refine side_i ?_ ?_; (constructor <;> (simp only [elsA, cellsA, List.length_cons, List.length_nil, List.length_map]; omega))) | refine len_map ?_ | refine len_l ?_ | (refine each_knownm (by assumption) (by omega) ?_) | (refine each_known (by assumption) (by omega) ?_) | (refine each_mapNb ?_ (fun el hel hbB => ?_); omega) | (refine each_mapb ?_ ?_ (fun el hel hbB => ?_); omega; omega) | (refine each_lb ?_ ?_ (fun el hel hbB => ?_); omega; omega) | (refine each_mapN ?_ (fun el hel => ?_); omega) | (refine each_map ?_ ?_ (fun el hel => ?_); omega; omega) | (refine each_l ?_ ?_ (fun el hel => ?_); omega; omega) | (refine conv_bytes ?_ ?_; omega) | refine conv_u8 ?_ | refine conv_int ?_ | refine dq_go ?_ | (refine aany_go ?_ ?_ ?_; kernel_rfl; rfl) | (refine many_step ?_ ?_ ?_; kernel_rfl; kernel_rfl) | refine ex_i (fun ex => ?_) | refine allMP_c ?_ ?_ | exact allMP_n | (refine mpost_i ?_ ?_ ?_ ?_; rfl; rfl; rfl) | (refine free_i ?_ ?_; exact ⟨by kernel_rfl, by decide⟩) | refine allI_c ?_ ?_ | exact allI_n | refine conv_rune ?_ | (refine draw_p ?_ ?_ ?_; rfl; kernel_rfl)) <;> (try (conv => whnf)))
    all_goals first
      | (obtain rfl : q1 = 1 := by omega
         exact ret_cell rfl rfl (congrArg (fun z => AV.agg [.sl 2 (s.lists.map clL), .sl 7 z]) (e1 { c with name := name })))
      | (obtain rfl : q1 = 2 := by omega
         exact ret_cell rfl rfl (congrArg (fun z => AV.agg [.sl 2 (s.lists.map clL), .sl 7 z]) (e1 { c with kind := by' })))
      | (obtain rfl : q1 = 3 := by omega
         exact ret_cell rfl rfl (congrArg (fun z => AV.agg [.sl 2 (s.lists.map clL), .sl 7 z]) (e1 { c with lst := by' })))
      | (obtain rfl : q1 = 4 := by omega
         exact ret_cell rfl rfl (congrArg (fun z => AV.agg [.sl 2 (s.lists.map clL), .sl 7 z]) (e1 { c with low := by' })))
      | (obtain rfl : q1 = 5 := by omega
         exact ret_cell rfl rfl (congrArg (fun z => AV.agg [.sl 2 (s.lists.map clL), .sl 7 z]) (e1 { c with high := by' })))
      | (obtain rfl : q1 = 6 := by omega
         refine ret_cell rfl rfl (congrArg (fun z => AV.agg [.sl 2 (s.lists.map clL), .sl 7 z]) (Eq.trans ?_ (e1 { c with widths := c.widths ++ [by'] })))
         exact congrArg (fun z => (s.cols.map colL).set k [.str c.name, .i c.kind, .i c.lst, .i c.low, .i c.high, .sl 1 z, .b c.opt]) (show c.widths.map wA ++ [wA by'] = _ by rw [List.map_append]; rfl))
      | (obtain rfl : q1 = 8 := by omega
         exact ret_cell rfl rfl (congrArg (fun z => AV.agg [.sl 2 (s.lists.map clL), .sl 7 z]) (e1 { c with opt := !c.opt })))
      | (obtain rfl : q1 = 9 := by omega
         rw [show s.lists.getD 1 ([], []) = el from getD_get hel]
         exact ret_cell rfl rfl (congrArg (fun z => AV.agg [.sl 2 z, .sl 7 (s.cols.map colL)]) (map_setCl s.lists 1 (oneL, el.2))))
      | (obtain rfl : q1 = 10 := by omega
         exact ret_cell rfl rfl (congrArg (fun z => AV.agg [.sl 2 (s.lists.map clL), .sl 7 z]) e10))
      | (obtain rfl : q1 = 11 := by omega
         exact ret_cell rfl rfl (congrArg (fun z => AV.agg [.sl 2 (s.lists.map clL), .sl 7 z]) List.map_append.symm))
      | (rcases (show q1 = 0 ∨ q1 = 12 ∨ q1 = 13 by omega) with h9 | h9 | h9 <;> (subst h9; exact ret_cell rfl rfl rfl))
      | trace_state
end Go.Proofs.YtmiaihoallkjfaaDoor

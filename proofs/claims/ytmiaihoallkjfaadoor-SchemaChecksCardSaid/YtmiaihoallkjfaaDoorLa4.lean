/- SchemaChecks: the program's checks of schemas and rows are the reference's. -/
import Derived.Test.YtmiaihoallkjfaaDoorSp1
import Derived.Test.YtmiaihoallkjfaaDoorDs3
import Derived.Test.YtmiaihoallkjfaaDoorB14
import Derived.Test.YtmiaihoallkjfaaDoorB12
import Derived.Test.YtmiaihoallkjfaaDoorOp2
namespace Go.Proofs.YtmiaihoallkjfaaDoor
open Go Go.Av
attribute [local irreducible] AWp AOps AAny MAny DQ retQ retG St.le FCall GCall
set_option linter.unusedVariables false
set_option linter.unnecessarySimpa false
set_option linter.unusedSimpArgs false
set_option maxRecDepth 100000

theorem spoilt2S_length (l : List UInt8) (at' by' : Int) (name : List UInt8) : (spoilt2S l at' by' name).cols.length ≤ 12 := by
  have h := (schS_drawn (l.take 400) 0).lens
  unfold spoilt2S
  dsimp only
  split <;> (try simp only [List.length_set, List.length_drop, List.length_append]) <;> omega
abbrev rA (r : List Int) : List AV := [.sl 1 (r.map wA)]
abbrev sexN : List UInt8 := [115, 101, 120]
set_option maxHeartbeats 8000000 in
theorem schemaChecks_call (l : List UInt8) (raw : Sch) (at' by' : Int) (name : List UInt8) (row : List Int) (hl : l.length ≤ maxLen) : FCall Tryd.prog 11 [.sl 1 (l.map u8A), sA raw, .i at', .i by', .str name, .sl 1 (row.map wA)] (.b true) := by
  unfold maxLen at hl
  have hL : (l.take 400).length ≤ 400 := List.length_take_le _ _
  have hnew := new_call l (by omega)
  have hsp := spoilt2_call l at' by' name (by omega)
  have hxl := spoilt2S_length l at' by' name
  generalize spoilt2S l at' by' name = x at *
  generalize l.take 400 = t at *
  have hsch := sch_call t 0 hL
  have hd := schS_drawn t 0
  generalize schS t 0 = s0 at *
  obtain ⟨s, a0⟩ := s0
  dsimp only at hsch hd
  have hrow := row_draw t a0 s hd hL
  have hrb := rowS_bd hd t a0
  generalize rowS t a0 s = r0 at *
  obtain ⟨good, a1⟩ := r0
  dsimp only at hrow hrb
  have hsch2 := sch_call t a1 hL
  have hd2 := schS_drawn t a1
  generalize schS t a1 = s1 at *
  obtain ⟨y, a2⟩ := s1
  dsimp only at hsch2 hd2
  have hrow2 := row_draw t a2 y hd2 hL
  have hrb2 := rowS_bd hd2 t a2
  generalize rowS t a2 y = r1 at *
  obtain ⟨fit, a3⟩ := r1
  dsimp only at hrow2 hrb2
  have hln := hd.lens
  have hln2 := hd2.lens
  have hm1 := mod_lt (k := at') (n := y.cols.length) (by omega)
  have hmod := mod_call at' y.cols.length (by omega)
  generalize mod' at' y.cols.length = k0 at *
  obtain ⟨k, rfl⟩ := Int.eq_ofNat_of_zero_le hm1.1
  have hm3 := mod_lt (k := by') (n := 3) (by omega)
  have hmod3 := mod_call by' 3 (by omega)
  generalize mod' by' 3 = m at *
  obtain ⟨v, hv⟩ : ∃ v, fit[k]? = some v := ⟨_, List.getElem?_eq_getElem (by omega)⟩
  have hvb := hrb2.2 v (List.mem_of_getElem? hv)
  refine fcall_intro (n := 130) Tryd.func11 (by kernel_rfl) rfl rfl rfl rfl rfl (by intro t T h; cases h) (fun hrd E h0 => ?_)
  clear hrd
  repeat' ((first | refine ncall_g [] [] hnew rfl rfl rfl rfl rfl trivial rfl rfl rfl rfl rfl ?_ | refine call_i awake2_call ?_ | refine call_i hsp ?_ | refine call_i hmod ?_ | refine call_i hmod3 ?_ | refine ⟨ncall_h [1] [0] hsch rfl rfl rfl rfl rfl ⟨rfl, trivial⟩ rfl rfl rfl rfl rfl ?_⟩ | refine ⟨ncall_h [1] [0] hrow rfl rfl rfl rfl rfl ⟨rfl, trivial⟩ rfl rfl rfl rfl rfl ?_⟩ | refine ⟨ncall_h [1] [0] hsch2 rfl rfl rfl rfl rfl ⟨rfl, trivial⟩ rfl rfl rfl rfl rfl ?_⟩ | refine ⟨ncall_h [1] [0] hrow2 rfl rfl rfl rfl rfl ⟨rfl, trivial⟩ rfl rfl rfl rfl rfl ?_⟩ | (refine frz_cut (l := [_, .agg [.row 3 _ _, .row 4 _ _]]) 3 [2, 3, 4, 5, 7, 13, 14, 46, 48] ?_; (try (conv => whnf)); refine aops_le (le_frz 4) ?_; refine aops_cut [2, 3, 4, 5, 7, 13, 14, 46, 48] ?_) | (refine frz_cut (l := [_, .agg [.row 6 _ _, .row 7 _ _]]) 6 [2, 3, 4, 5, 7, 13, 14, 15, 16, 52, 53] ?_; (try (conv => whnf)); refine aops_le (le_frz 7) ?_; refine aops_cut [2, 3, 4, 5, 7, 13, 14, 15, 16, 52, 53] ?_) | (refine each_knownm (x := v) hv (by omega) ?_) | refine draw_m (id := 8) ⟨[(4, .str name), (5, .sl 1 (row.map wA)), (7, .ref 0 0), (14, .ref 2 0), (15, .row 5 0 s.cols.length), (16, .ref 8 0), (17, .row 9 0 y.cols.length)], 10, [(0, some (.box (sL raw))), (2, some (.box (sL x))), (5, some (.row 3 1 0 (good.map wA))), (8, some (.box (sL y))), (9, some (.row 3 1 0 ((fit.set k (v + (m - 1))).map wA)))]⟩ ?_ ?_  | refine aops_go ?_ | refine awp_go ?_ | refine var_i ?_ | refine fld_i ?_ | refine sl_i ?_ | refine arr_i ?_ | refine strt_i ?_ | refine boolt_i ?_ | refine zero_i ?_ | refine build_i ?_ | (refine row_i ?_ ?_; rfl) | refine map_i ?_ | refine guard_tt ?_ | refine guard_ff ?_ | refine guard_tf ?_ | refine guard_ft ?_ | (refine guard_dt (fun h => ?_) (fun h => ?_) <;> try (first | (exfalso; omega) | exact absurd rfl h)) | (refine guard_df (fun h => ?_) (fun h => ?_) <;> try (first | (exfalso; omega) | exact absurd rfl h)) | (refine guard_ndt (fun h => ?_) (fun h => ?_) <;> try (first | (exfalso; omega) | exact absurd rfl h)) | (refine guard_ndf (fun h => ?_) (fun h => ?_) <;> try (first | (exfalso; omega) | exact absurd rfl h)) | refine guard_nbt (fun h => ?_) (fun h => ?_) | refine guard_nbf (fun h => ?_) (fun h => ?_) | refine guard_bt (fun h => ?_) (fun h => ?_) | refine guard_bf (fun h => ?_) (fun h => ?_) | refine cond_t ?_ | refine cond_f ?_ | (refine cond_d (fun h => ?_) (fun h => ?_) <;> try (first | (exfalso; omega) | exact absurd rfl h)) | (refine cond_nd (fun h => ?_) (fun h => ?_) <;> try (first | (exfalso; omega) | exact absurd rfl h)) | refine cond_nb (fun h => ?_) (fun h => ?_) | refine cond_b (fun h => ?_) (fun h => ?_) | (refine side_i ?_ ?_; (first | omega | exact Eq.refl _ | exact ⟨Eq.refl _, by omega⟩ | (simp only [List.length_map]; omega))) | (refine side_i (imsB ?_) ?_; rfl) | (refine side_i (ims_map fun x => ?_) ?_; rfl) | (refine side_i ?_ ?_; (constructor <;> (simp only [elsA, cellsA, List.length_cons, List.length_nil, List.length_map]; omega))) | refine len_map ?_ | refine len_l ?_ | (refine each_knownm (by assumption) (by omega) ?_) | (refine each_known (by assumption) (by omega) ?_) | (refine each_mapNb ?_ (fun el hel hbB => ?_); omega) | (refine each_mapb ?_ ?_ (fun el hel hbB => ?_); omega; omega) | (refine each_lb ?_ ?_ (fun el hel hbB => ?_); omega; omega) | (refine each_mapN ?_ (fun el hel => ?_); omega) | (refine each_map ?_ ?_ (fun el hel => ?_); omega; omega) | (refine each_l ?_ ?_ (fun el hel => ?_); omega; omega) | (refine conv_bytes ?_ ?_; omega) | refine conv_u8 ?_ | refine conv_int ?_ | refine dq_go ?_ | (refine aany_go ?_ ?_ ?_; kernel_rfl; rfl) | (refine many_step ?_ ?_ ?_; kernel_rfl; kernel_rfl) | refine ex_i (fun ex => ?_) | refine allMP_c ?_ ?_ | exact allMP_n | (refine mpost_i ?_ ?_ ?_ ?_; rfl; rfl; rfl) | (refine free_i ?_ ?_; exact ⟨by kernel_rfl, by decide⟩) | refine allI_c ?_ ?_ | exact allI_n | refine conv_rune ?_ | (refine draw_p ?_ ?_ ?_; rfl; kernel_rfl)) <;> (try (conv => whnf)))
  all_goals first
    | exact ret_tmp rfl rfl
    | exact le_of h0 rfl ⟨rfl, rfl, rfl, rfl, rfl, rfl, rfl, trivial⟩ ⟨rfl, rfl, ⟨_, rfl⟩, rfl, ⟨_, congrArg (Blk.row 3 1 _) (show (fit.set k (v + (m - 1))).map wA = _ from List.map_set)⟩, trivial⟩ rfl rfl rfl
    | skip
  generalize hfe : fit.set k (v + (m - 1)) = fit2
  obtain ⟨ss, hss⟩ : ∃ ss : List Sch, ss = [x, raw, y] := ⟨_, rfl⟩
  have hsl : ss.length = 3 := by rw [hss]; rfl
  have hsb : ∀ e ∈ ss, e.cols.length ≤ 12 := by
    intro e he
    rw [hss] at he
    simp only [List.mem_cons, List.not_mem_nil, or_false] at he
    rcases he with rfl | rfl | rfl <;> omega
  refine loop_i (ι := Nat) (fun j => ⟨[(4, .str name), (5, .sl 1 (row.map wA)), (15, .sl 1 (good.map wA)), (17, .sl 1 (fit2.map wA)), (70, .sl 2 (ss.map sL)), (71, .i 3), (72, .i j)], 1, []⟩) (fun j => j ≤ 3) (fun j => 3 - j) 0 (Nat.zero_le _)
    (le_of h0 rfl ⟨rfl, rfl, rfl, by rw [← hfe]; rfl, by rw [hss]; rfl, rfl, rfl, trivial⟩ trivial rfl rfl rfl) (fun j hj => ?_)
  clear hss hfe hsp hsch hsch2 hrow hrow2 hnew hmod hmod3 hv hvb hrb hrb2
  repeat' ((first | refine call_i awake2_call ?_ | refine call_i (scheck_call _) ?_ | refine call_i (rscheck_call _) ?_ | refine call_i (find2_call _ _) ?_ | refine call_i (rfind2_call _ _) ?_ | (refine draw_q ?_ ?_; kernel_rfl)  | refine aops_go ?_ | refine awp_go ?_ | refine var_i ?_ | refine fld_i ?_ | refine sl_i ?_ | refine arr_i ?_ | refine strt_i ?_ | refine boolt_i ?_ | refine zero_i ?_ | refine build_i ?_ | (refine row_i ?_ ?_; rfl) | refine map_i ?_ | refine guard_tt ?_ | refine guard_ff ?_ | refine guard_tf ?_ | refine guard_ft ?_ | (refine guard_dt (fun h => ?_) (fun h => ?_) <;> try (first | (exfalso; omega) | exact absurd rfl h)) | (refine guard_df (fun h => ?_) (fun h => ?_) <;> try (first | (exfalso; omega) | exact absurd rfl h)) | (refine guard_ndt (fun h => ?_) (fun h => ?_) <;> try (first | (exfalso; omega) | exact absurd rfl h)) | (refine guard_ndf (fun h => ?_) (fun h => ?_) <;> try (first | (exfalso; omega) | exact absurd rfl h)) | refine guard_nbt (fun h => ?_) (fun h => ?_) | refine guard_nbf (fun h => ?_) (fun h => ?_) | refine guard_bt (fun h => ?_) (fun h => ?_) | refine guard_bf (fun h => ?_) (fun h => ?_) | refine cond_t ?_ | refine cond_f ?_ | (refine cond_d (fun h => ?_) (fun h => ?_) <;> try (first | (exfalso; omega) | exact absurd rfl h)) | (refine cond_nd (fun h => ?_) (fun h => ?_) <;> try (first | (exfalso; omega) | exact absurd rfl h)) | refine cond_nb (fun h => ?_) (fun h => ?_) | refine cond_b (fun h => ?_) (fun h => ?_) | (refine side_i ?_ ?_; (first | omega | exact Eq.refl _ | exact ⟨Eq.refl _, by omega⟩ | (simp only [List.length_map]; omega))) | (refine side_i (imsB ?_) ?_; rfl) | (refine side_i (ims_map fun x => ?_) ?_; rfl) | (refine side_i ?_ ?_; (constructor <;> (simp only [elsA, cellsA, List.length_cons, List.length_nil, List.length_map]; omega))) | refine len_map ?_ | refine len_l ?_ | (refine each_knownm (by assumption) (by omega) ?_) | (refine each_known (by assumption) (by omega) ?_) | (refine each_mapNb ?_ (fun el hel hbB => ?_); omega) | (refine each_mapb ?_ ?_ (fun el hel hbB => ?_); omega; omega) | (refine each_lb ?_ ?_ (fun el hel hbB => ?_); omega; omega) | (refine each_mapN ?_ (fun el hel => ?_); omega) | (refine each_map ?_ ?_ (fun el hel => ?_); omega; omega) | (refine each_l ?_ ?_ (fun el hel => ?_); omega; omega) | (refine conv_bytes ?_ ?_; omega) | refine conv_u8 ?_ | refine conv_int ?_ | refine dq_go ?_ | (refine aany_go ?_ ?_ ?_; kernel_rfl; rfl) | (refine many_step ?_ ?_ ?_; kernel_rfl; kernel_rfl) | refine ex_i (fun ex => ?_) | refine allMP_c ?_ ?_ | exact allMP_n | (refine mpost_i ?_ ?_ ?_ ?_; rfl; rfl; rfl) | (refine free_i ?_ ?_; exact ⟨by kernel_rfl, by decide⟩) | refine allI_c ?_ ?_ | exact allI_n | refine conv_rune ?_ | (refine draw_p ?_ ?_ ?_; rfl; kernel_rfl)) <;> (try (conv => whnf)))
  all_goals first
    | exact ret_tmp rfl rfl
    | skip
  have heb := hsb el (List.mem_of_getElem? hel)
  obtain ⟨rs, hrs⟩ : ∃ rs : List (List Int), rs = [row, good, fit2] := ⟨_, rfl⟩
  have hrl : rs.length = 3 := by rw [hrs]; rfl
  refine loop_i (ι := Nat) (fun q => ⟨[(4, .str name), (5, .sl 1 (row.map wA)), (15, .sl 1 (good.map wA)), (17, .sl 1 (fit2.map wA)), (70, .sl 2 (ss.map sL)), (71, .i 3), (72, .i j), (19, .ref 1 0), (100, .sl 1 (rs.map rA)), (101, .i 3), (102, .i q)], 2, [(1, some (.box (sL el)))]⟩) (fun q => q ≤ 3) (fun q => 3 - q) 0 (Nat.zero_le _)
    (le_of h0 rfl ⟨rfl, rfl, rfl, rfl, rfl, rfl, rfl, rfl, by rw [hrs]; rfl, rfl, rfl, trivial⟩ ⟨rfl, trivial⟩ rfl rfl rfl) (fun q hq => ?_)
  clear hrs
  repeat' ((first | refine call_i (row_call _ _) ?_ | refine call_i (rrow_call _ _) ?_ | (refine draw_q ?_ ?_; kernel_rfl)  | refine aops_go ?_ | refine awp_go ?_ | refine var_i ?_ | refine fld_i ?_ | refine sl_i ?_ | refine arr_i ?_ | refine strt_i ?_ | refine boolt_i ?_ | refine zero_i ?_ | refine build_i ?_ | (refine row_i ?_ ?_; rfl) | refine map_i ?_ | refine guard_tt ?_ | refine guard_ff ?_ | refine guard_tf ?_ | refine guard_ft ?_ | (refine guard_dt (fun h => ?_) (fun h => ?_) <;> try (first | (exfalso; omega) | exact absurd rfl h)) | (refine guard_df (fun h => ?_) (fun h => ?_) <;> try (first | (exfalso; omega) | exact absurd rfl h)) | (refine guard_ndt (fun h => ?_) (fun h => ?_) <;> try (first | (exfalso; omega) | exact absurd rfl h)) | (refine guard_ndf (fun h => ?_) (fun h => ?_) <;> try (first | (exfalso; omega) | exact absurd rfl h)) | refine guard_nbt (fun h => ?_) (fun h => ?_) | refine guard_nbf (fun h => ?_) (fun h => ?_) | refine guard_bt (fun h => ?_) (fun h => ?_) | refine guard_bf (fun h => ?_) (fun h => ?_) | refine cond_t ?_ | refine cond_f ?_ | (refine cond_d (fun h => ?_) (fun h => ?_) <;> try (first | (exfalso; omega) | exact absurd rfl h)) | (refine cond_nd (fun h => ?_) (fun h => ?_) <;> try (first | (exfalso; omega) | exact absurd rfl h)) | refine cond_nb (fun h => ?_) (fun h => ?_) | refine cond_b (fun h => ?_) (fun h => ?_) | (refine side_i ?_ ?_; (first | omega | exact Eq.refl _ | exact ⟨Eq.refl _, by omega⟩ | (simp only [List.length_map]; omega))) | (refine side_i (imsB ?_) ?_; rfl) | (refine side_i (ims_map fun x => ?_) ?_; rfl) | (refine side_i ?_ ?_; (constructor <;> (simp only [elsA, cellsA, List.length_cons, List.length_nil, List.length_map]; omega))) | refine len_map ?_ | refine len_l ?_ | (refine each_knownm (by assumption) (by omega) ?_) | (refine each_known (by assumption) (by omega) ?_) | (refine each_mapNb ?_ (fun el hel hbB => ?_); omega) | (refine each_mapb ?_ ?_ (fun el hel hbB => ?_); omega; omega) | (refine each_lb ?_ ?_ (fun el hel hbB => ?_); omega; omega) | (refine each_mapN ?_ (fun el hel => ?_); omega) | (refine each_map ?_ ?_ (fun el hel => ?_); omega; omega) | (refine each_l ?_ ?_ (fun el hel => ?_); omega; omega) | (refine conv_bytes ?_ ?_; omega) | refine conv_u8 ?_ | refine conv_int ?_ | refine dq_go ?_ | (refine aany_go ?_ ?_ ?_; kernel_rfl; rfl) | (refine many_step ?_ ?_ ?_; kernel_rfl; kernel_rfl) | refine ex_i (fun ex => ?_) | refine allMP_c ?_ ?_ | exact allMP_n | (refine mpost_i ?_ ?_ ?_ ?_; rfl; rfl; rfl) | (refine free_i ?_ ?_; exact ⟨by kernel_rfl, by decide⟩) | refine allI_c ?_ ?_ | exact allI_n | refine conv_rune ?_ | (refine draw_p ?_ ?_ ?_; rfl; kernel_rfl)) <;> (try (conv => whnf)))
  all_goals first
    | exact ⟨q + 1, by omega, by omega, le_of h0 rfl ⟨rfl, rfl, rfl, rfl, rfl, rfl, rfl, rfl, rfl, rfl, rfl, trivial⟩ ⟨rfl, trivial⟩ rfl rfl rfl⟩
    | skip
  refine loop_i (ι := Nat) (fun p => ⟨[(4, .str name), (5, .sl 1 (row.map wA)), (15, .sl 1 (good.map wA)), (17, .sl 1 (fit2.map wA)), (70, .sl 2 (ss.map sL)), (71, .i 3), (72, .i j), (19, .ref 1 0), (22, .i (-1 + (p : Int)))], 2, [(1, some (.box (sL el)))]⟩) (fun p => p ≤ el.cols.length + 2) (fun p => el.cols.length + 2 - p) 0 (Nat.zero_le _)
    (le_of h0 rfl ⟨rfl, rfl, rfl, rfl, rfl, rfl, rfl, rfl, rfl, trivial⟩ ⟨rfl, trivial⟩ rfl rfl rfl) (fun p hp => ?_)
  repeat' ((first | refine call_i (finestS_call _ _) ?_ | refine call_i (rfinest_call _ _) ?_ | (refine draw_q ?_ ?_; kernel_rfl)  | refine aops_go ?_ | refine awp_go ?_ | refine var_i ?_ | refine fld_i ?_ | refine sl_i ?_ | refine arr_i ?_ | refine strt_i ?_ | refine boolt_i ?_ | refine zero_i ?_ | refine build_i ?_ | (refine row_i ?_ ?_; rfl) | refine map_i ?_ | refine guard_tt ?_ | refine guard_ff ?_ | refine guard_tf ?_ | refine guard_ft ?_ | (refine guard_dt (fun h => ?_) (fun h => ?_) <;> try (first | (exfalso; omega) | exact absurd rfl h)) | (refine guard_df (fun h => ?_) (fun h => ?_) <;> try (first | (exfalso; omega) | exact absurd rfl h)) | (refine guard_ndt (fun h => ?_) (fun h => ?_) <;> try (first | (exfalso; omega) | exact absurd rfl h)) | (refine guard_ndf (fun h => ?_) (fun h => ?_) <;> try (first | (exfalso; omega) | exact absurd rfl h)) | refine guard_nbt (fun h => ?_) (fun h => ?_) | refine guard_nbf (fun h => ?_) (fun h => ?_) | refine guard_bt (fun h => ?_) (fun h => ?_) | refine guard_bf (fun h => ?_) (fun h => ?_) | refine cond_t ?_ | refine cond_f ?_ | (refine cond_d (fun h => ?_) (fun h => ?_) <;> try (first | (exfalso; omega) | exact absurd rfl h)) | (refine cond_nd (fun h => ?_) (fun h => ?_) <;> try (first | (exfalso; omega) | exact absurd rfl h)) | refine cond_nb (fun h => ?_) (fun h => ?_) | refine cond_b (fun h => ?_) (fun h => ?_) | (refine side_i ?_ ?_; (first | omega | exact Eq.refl _ | exact ⟨Eq.refl _, by omega⟩ | (simp only [List.length_map]; omega))) | (refine side_i (imsB ?_) ?_; rfl) | (refine side_i (ims_map fun x => ?_) ?_; rfl) | (refine side_i ?_ ?_; (constructor <;> (simp only [elsA, cellsA, List.length_cons, List.length_nil, List.length_map]; omega))) | refine len_map ?_ | refine len_l ?_ | (refine each_knownm (by assumption) (by omega) ?_) | (refine each_known (by assumption) (by omega) ?_) | (refine each_mapNb ?_ (fun el hel hbB => ?_); omega) | (refine each_mapb ?_ ?_ (fun el hel hbB => ?_); omega; omega) | (refine each_lb ?_ ?_ (fun el hel hbB => ?_); omega; omega) | (refine each_mapN ?_ (fun el hel => ?_); omega) | (refine each_map ?_ ?_ (fun el hel => ?_); omega; omega) | (refine each_l ?_ ?_ (fun el hel => ?_); omega; omega) | (refine conv_bytes ?_ ?_; omega) | refine conv_u8 ?_ | refine conv_int ?_ | refine dq_go ?_ | (refine aany_go ?_ ?_ ?_; kernel_rfl; rfl) | (refine many_step ?_ ?_ ?_; kernel_rfl; kernel_rfl) | refine ex_i (fun ex => ?_) | refine allMP_c ?_ ?_ | exact allMP_n | (refine mpost_i ?_ ?_ ?_ ?_; rfl; rfl; rfl) | (refine free_i ?_ ?_; exact ⟨by kernel_rfl, by decide⟩) | refine allI_c ?_ ?_ | exact allI_n | refine conv_rune ?_ | (refine draw_p ?_ ?_ ?_; rfl; kernel_rfl)) <;> (try (conv => whnf)))
  all_goals first
    | exact ⟨p + 1, by omega, by omega, le_of h0 rfl ⟨rfl, rfl, rfl, rfl, rfl, rfl, rfl, rfl, congrArg (fun z : Int => some (AV.i z)) (by omega), trivial⟩ ⟨rfl, trivial⟩ rfl rfl rfl⟩
    | exact ⟨j + 1, by omega, by omega, le_of h0 rfl ⟨rfl, rfl, rfl, rfl, rfl, rfl, rfl, trivial⟩ trivial rfl rfl rfl⟩
    | trace_state
theorem schemaChecks_all (l : List AV) (h : AShapes Tryd.prog Tryd.f11.params.toList l) : FCall Tryd.prog 11 l (.b true) := by
  obtain ⟨a1, r, rfl, h1, a2, r, rfl, h2, a3, r, rfl, h3, a4, r, rfl, h4, a5, r, rfl, h5, a6, r, rfl, h6, rfl⟩ := h
  obtain ⟨l, hl, rfl⟩ := ash_by h1
  obtain ⟨x2, rfl⟩ := ash_sch h2
  obtain ⟨x3, _, rfl⟩ := ash_i h3
  obtain ⟨x4, _, rfl⟩ := ash_i h4
  obtain ⟨x5, _, rfl⟩ := ash_s h5
  obtain ⟨x6, _, rfl⟩ := ash_ints h6
  exact schemaChecks_call l x2 x3 x4 x5 x6 hl
end Go.Proofs.YtmiaihoallkjfaaDoor

/- Chapter 2: the example of the chapter. -/
import Derived.Test.YtmiaihoallkjfaaDoorNl1
import Derived.Test.YtmiaihoallkjfaaDoorSc6
namespace Go.Proofs.YtmiaihoallkjfaaDoor
open Go Go.Av
attribute [local irreducible] AWp AOps AAny MAny DQ retQ retG St.le FCall GCall
set_option linter.unusedVariables false
set_option linter.unnecessarySimpa false
set_option linter.unusedSimpArgs false
set_option maxRecDepth 100000

def exS : Sch := ⟨[], [⟨[119, 104, 111], 1, 0, 0, 0, [], false⟩, ⟨[109], 3, 0, -9, 90, [1, 5, 20], false⟩]⟩
abbrev exA : AV := .agg [.v (.slice none 0 0), .sl 7 [[.str [119, 104, 111], .i 1, .i 0, .i 0, .i 0, .v (.slice none 0 0), .b false], [.str [109], .i 3, .i 0, .i (-9), .i 90, .sl 1 [[.i 1], [.i 5], [.i 20]], .b false]]]
theorem exA_nl : NL exA (sA exS) := nl_agg ⟨.nil 2, nl_sl ⟨⟨.refl _, .refl _, .refl _, .refl _, .refl _, .nil 1, .refl _, trivial⟩, ⟨.refl _, .refl _, .refl _, .refl _, .refl _, .refl _, .refl _, trivial⟩, trivial⟩, trivial⟩
theorem ex_nl {f : Nat} {l : List AV} {r : AV} (h : FCall Tryd.prog f (sA exS :: l) r) : FCall Tryd.prog f (exA :: l) r := fcall_nl h ⟨exA_nl, NLs.refl l⟩
set_option maxHeartbeats 4000000 in
theorem awake2_call : FCall Tryd.prog 42 [] (.b true) := by
  have c1 := ex_nl ((turn_call exS 1 2 35 1).congr (congrArg tupI (show turnS exS 1 2 35 1 = (20, true) by decide +kernel)))
  have c2 := ex_nl ((scheck_call exS).congr (congrArg AV.i (show schE exS = 0 by decide +kernel)))
  have c3 := ex_nl ((row_call exS [4, 37]).congr (congrArg AV.i (show rowE exS [4, 37] = 0 by decide +kernel)))
  have c4 := ex_nl ((coarse_call exS 1 2 37).congr (congrArg AV.i (show coaS exS 1 2 37 = 35 by decide +kernel)))
  have c5 := ex_nl ((coarse_call exS 1 2 (-3)).congr (congrArg AV.i (show coaS exS 1 2 (-3) = -5 by decide +kernel)))
  have c6 := ex_nl ((finestS_call exS 1).congr (congrArg AV.i (show finestS exS 1 = 3 by decide +kernel)))
  have c7 := ex_nl ((least_call exS 1 3).congr (congrArg AV.i (show leastS exS 1 3 = 3 by decide +kernel)))
  have c8 := ex_nl ((picks_call exS [⟨1, 3⟩]).congr (congrArg AV.i (show picksE exS [⟨1, 3⟩] = 0 by decide +kernel)))
  refine fcall_intro (n := 57) Tryd.func42 (by kernel_rfl) rfl rfl rfl rfl rfl (by intro t T h; cases h) (fun hrd E h0 => ?_)
  clear hrd
  repeat' ((first | refine call_i c1 ?_ | refine call_i c2 ?_ | refine call_i c3 ?_ | refine call_i c4 ?_ | refine call_i c5 ?_ | refine call_i c6 ?_ | refine call_i c7 ?_ | refine call_i c8 ?_ | refine ncall_frz 0 ?_ | refine ncall_frz 1 ?_  | refine aops_go ?_ | refine awp_go ?_ | refine var_i ?_ | refine fld_i ?_ | refine sl_i ?_ | refine arr_i ?_ | refine strt_i ?_ | refine boolt_i ?_ | refine zero_i ?_ | refine build_i ?_ | (refine row_i ?_ ?_; rfl) | refine map_i ?_ | refine guard_tt ?_ | refine guard_ff ?_ | refine guard_tf ?_ | refine guard_ft ?_ | (refine guard_dt (fun h => ?_) (fun h => ?_) <;> try (first | (exfalso; omega) | exact absurd rfl h)) | (refine guard_df (fun h => ?_) (fun h => ?_) <;> try (first | (exfalso; omega) | exact absurd rfl h)) | (refine guard_ndt (fun h => ?_) (fun h => ?_) <;> try (first | (exfalso; omega) | exact absurd rfl h)) | (refine guard_ndf (fun h => ?_) (fun h => ?_) <;> try (first | (exfalso; omega) | exact absurd rfl h)) | refine guard_nbt (fun h => ?_) (fun h => ?_) | refine guard_nbf (fun h => ?_) (fun h => ?_) | refine guard_bt (fun h => ?_) (fun h => ?_) | refine guard_bf (fun h => ?_) (fun h => ?_) | refine cond_t ?_ | refine cond_f ?_ | (refine cond_d (fun h => ?_) (fun h => ?_) <;> try (first | (exfalso; omega) | exact absurd rfl h)) | (refine cond_nd (fun h => ?_) (fun h => ?_) <;> try (first | (exfalso; omega) | exact absurd rfl h)) | refine cond_nb (fun h => ?_) (fun h => ?_) | refine cond_b (fun h => ?_) (fun h => ?_) | (refine side_i ?_ ?_; (first | omega | exact Eq.refl _ | exact ⟨Eq.refl _, by omega⟩ | (simp only [List.length_map]; omega))) | (refine side_i (imsB ?_) ?_; rfl) | (refine side_i (ims_map fun x => ?_) ?_; rfl) | (refine side_i ?_ ?_; (constructor <;> (simp only [elsA, cellsA, List.length_cons, List.length_nil, List.length_map]; omega))) | refine len_map ?_ | refine len_l ?_ | (refine each_knownm (by assumption) (by omega) ?_) | (refine each_known (by assumption) (by omega) ?_) | (refine each_mapNb ?_ (fun el hel hbB => ?_); omega) | (refine each_mapb ?_ ?_ (fun el hel hbB => ?_); omega; omega) | (refine each_lb ?_ ?_ (fun el hel hbB => ?_); omega; omega) | (refine each_mapN ?_ (fun el hel => ?_); omega) | (refine each_map ?_ ?_ (fun el hel => ?_); omega; omega) | (refine each_l ?_ ?_ (fun el hel => ?_); omega; omega) | (refine conv_bytes ?_ ?_; omega) | refine conv_u8 ?_ | refine conv_int ?_ | refine dq_go ?_ | (refine aany_go ?_ ?_ ?_; kernel_rfl; rfl) | (refine many_step ?_ ?_ ?_; kernel_rfl; kernel_rfl) | refine ex_i (fun ex => ?_) | refine allMP_c ?_ ?_ | exact allMP_n | (refine mpost_i ?_ ?_ ?_ ?_; rfl; rfl; rfl) | (refine free_i ?_ ?_; exact ⟨by kernel_rfl, by decide⟩) | refine allI_c ?_ ?_ | exact allI_n | refine conv_rune ?_ | (refine draw_p ?_ ?_ ?_; rfl; kernel_rfl)) <;> (try (conv => whnf)))
  all_goals first
    | exact ret_tmp rfl rfl
    | trace_state
end Go.Proofs.YtmiaihoallkjfaaDoor

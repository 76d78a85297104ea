/- CodesChecks: both checks give the same. -/
import Derived.Test.YtmmogjdkoghjoaaDoorDr3
import Derived.Test.YtmmogjdkoghjoaaDoorOp1
import Derived.Test.YtmmogjdkoghjoaaDoorCo9
namespace Go.Proofs.YtmmogjdkoghjoaaDoor
open Go Go.Av
attribute [local irreducible] AWp AOps AAny DQ
set_option linter.unusedVariables false
set_option linter.unnecessarySimpa false
set_option linter.unusedSimpArgs false

set_option maxHeartbeats 4000000 in
theorem codesChecks_call (l : List UInt8) (rn : List UInt8) (rc : List Code) (at' by' : Int) (name : List UInt8) (hl : l.length ≤ maxLen) : FCall Tryd.prog 3 [.sl 1 (l.map u8A), lA rn rc, .i at', .i by', .str name] (.b true) := by
  unfold maxLen at hl
  have hsp := spoiltS_length l at' by' name
  have hsc := spoilt_call l at' by' name (by omega)
  generalize spoiltS l at' by' name = s at *
  obtain ⟨sn, sc⟩ := s
  simp only at hsp hsc
  refine fcall_intro (n := 58) Tryd.func3 (by kernel_rfl) rfl rfl rfl rfl rfl (by intro t T h; cases h) (fun hrd E h0 => ?_)
  repeat' (first | refine call_i awake_call ?_ | refine call_i hsc ?_ | refine call_i (check_call _ _ (by omega)) ?_ | refine call_i (rcheck_call _ _ (by omega)) ?_ | refine call_i (name_call _) ?_ | refine call_i (rname_call _) ?_ | (refine draw_q ?_ ?_; kernel_rfl)  | refine aops_go ?_ | refine awp_go ?_ | refine var_i ?_ | refine fld_i ?_ | refine sl_i ?_ | refine arr_i ?_ | refine strt_i ?_ | refine boolt_i ?_ | refine zero_i ?_ | refine build_i ?_ | (refine row_i ?_ ?_; rfl) | refine map_i ?_ | refine guard_tt ?_ | refine guard_ff ?_ | refine guard_tf ?_ | refine guard_ft ?_ | (refine guard_dt (fun h => ?_) (fun h => ?_) <;> try (first | (exfalso; omega) | exact absurd rfl h)) | (refine guard_df (fun h => ?_) (fun h => ?_) <;> try (first | (exfalso; omega) | exact absurd rfl h)) | (refine guard_ndt (fun h => ?_) (fun h => ?_) <;> try (first | (exfalso; omega) | exact absurd rfl h)) | (refine guard_ndf (fun h => ?_) (fun h => ?_) <;> try (first | (exfalso; omega) | exact absurd rfl h)) | refine guard_nbt (fun h => ?_) (fun h => ?_) | refine guard_nbf (fun h => ?_) (fun h => ?_) | refine guard_bt (fun h => ?_) (fun h => ?_) | refine guard_bf (fun h => ?_) (fun h => ?_) | refine cond_t ?_ | refine cond_f ?_ | (refine cond_d (fun h => ?_) (fun h => ?_) <;> try (first | (exfalso; omega) | exact absurd rfl h)) | (refine cond_nd (fun h => ?_) (fun h => ?_) <;> try (first | (exfalso; omega) | exact absurd rfl h)) | refine cond_nb (fun h => ?_) (fun h => ?_) | refine cond_b (fun h => ?_) (fun h => ?_) | (refine side_i ?_ ?_; (first | omega | exact Eq.refl _ | exact ⟨Eq.refl _, by omega⟩ | (simp only [List.length_map]; omega))) | (refine side_i (imsB ?_) ?_; rfl) | (refine side_i (ims_map fun x => ?_) ?_; rfl) | (refine side_i ?_ ?_; (constructor <;> (simp only [elsA, cellsA, List.length_cons, List.length_nil, List.length_map]; omega))) | refine len_map ?_ | refine len_l ?_ | (refine each_knownm (by assumption) (by omega) ?_) | (refine each_known (by assumption) (by omega) ?_) | (refine each_mapNb ?_ (fun el hel hbB => ?_); omega) | (refine each_mapb ?_ ?_ (fun el hel hbB => ?_); omega; omega) | (refine each_lb ?_ ?_ (fun el hel hbB => ?_); omega; omega) | (refine each_mapN ?_ (fun el hel => ?_); omega) | (refine each_map ?_ ?_ (fun el hel => ?_); omega; omega) | (refine each_l ?_ ?_ (fun el hel => ?_); omega; omega) | (refine conv_bytes ?_ ?_; omega) | refine conv_u8 ?_ | refine conv_int ?_ | refine dq_go ?_ | (refine aany_go ?_ ?_ ?_; kernel_rfl; rfl) | (refine free_i ?_ ?_; exact ⟨by kernel_rfl, by decide⟩) | refine allI_c ?_ ?_ | exact allI_n | refine conv_rune ?_)
  all_goals first
    | exact ret_tmp rfl rfl
    | trace_state
theorem codesChecks_all (l : List AV) (h : AShapes Tryd.prog Tryd.f3.params.toList l) : FCall Tryd.prog 3 l (.b true) := by
  obtain ⟨a1, r, rfl, h1, a2, r, rfl, h2, a3, r, rfl, h3, a4, r, rfl, h4, a5, r, rfl, h5, rfl⟩ := h
  obtain ⟨l, hl, rfl⟩ := ash_by h1
  obtain ⟨rn, rc, _, _, rfl⟩ := ash_list h2
  obtain ⟨x3, _, rfl⟩ := ash_i h3
  obtain ⟨x4, _, rfl⟩ := ash_i h4
  obtain ⟨x5, _, rfl⟩ := ash_s h5
  exact codesChecks_call l rn rc x3 x4 x5 hl
end Go.Proofs.YtmmogjdkoghjoaaDoor

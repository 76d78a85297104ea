/- Chapter 1: the codes of a level, and the example. -/
import Derived.Test.YtmiaihoallkjfaaDoorCo8
namespace Go.Proofs.YtmiaihoallkjfaaDoor
open Go Go.Av
attribute [local irreducible] AWp AOps AAny DQ retQ retG St.le FCall GCall
set_option linter.unusedVariables false
set_option linter.unnecessarySimpa false
set_option linter.unusedSimpArgs false

def atK (cs : List Code) (level : Int) (k : Nat) : List Nat := (List.range k).filter fun i => decide ((dep cs i : Int) = level)
theorem atK_le (cs : List Code) (level : Int) (k : Nat) : (atK cs level k).length ≤ k := by
  have := List.length_filter_le (fun i => decide ((dep cs i : Int) = level)) (List.range k)
  simpa [atK] using this
theorem atK_yes {cs : List Code} {level : Int} {k : Nat} (h : (dep cs k : Int) = level) : atK cs level (k + 1) = atK cs level k ++ [k] := by
  simp [atK, List.range_succ, List.filter_append, h]
theorem atK_no {cs : List Code} {level : Int} {k : Nat} (h : ¬ (dep cs k : Int) = level) : atK cs level (k + 1) = atK cs level k := by
  simp [atK, List.range_succ, List.filter_append, h]
def atS (nm : List UInt8) (cs : List Code) (level : Int) : List Nat := if chk nm cs = 0 then atK cs level cs.length else []

set_option maxHeartbeats 2000000 in
theorem at_call (nm : List UInt8) (cs : List Code) (level : Int) (hlen : cs.length ≤ 9223372036854775807) : FCall Tryd.prog 18 [lA nm cs, .i level] (.sl 1 ((atS nm cs level).map iA)) := by
  have hdl := deps_length cs
  refine fcall_intro (n := 28) Tryd.func18 (by kernel_rfl) rfl rfl rfl rfl rfl (by intro t T h; cases h) (fun hrd E h0 => ?_)
  repeat' ((first | refine call_i (check_call _ _ hlen) ?_ | refine call_i (depths_call _ _ (chk_good (by simpa using h)).1.before (good60 (nm := nm) (by simpa using h))) ?_  | refine aops_go ?_ | refine awp_go ?_ | refine var_i ?_ | refine fld_i ?_ | refine sl_i ?_ | refine arr_i ?_ | refine strt_i ?_ | refine boolt_i ?_ | refine zero_i ?_ | refine build_i ?_ | (refine row_i ?_ ?_; rfl) | refine map_i ?_ | refine guard_tt ?_ | refine guard_ff ?_ | refine guard_tf ?_ | refine guard_ft ?_ | (refine guard_dt (fun h => ?_) (fun h => ?_) <;> try (first | (exfalso; omega) | exact absurd rfl h)) | (refine guard_df (fun h => ?_) (fun h => ?_) <;> try (first | (exfalso; omega) | exact absurd rfl h)) | (refine guard_ndt (fun h => ?_) (fun h => ?_) <;> try (first | (exfalso; omega) | exact absurd rfl h)) | (refine guard_ndf (fun h => ?_) (fun h => ?_) <;> try (first | (exfalso; omega) | exact absurd rfl h)) | refine guard_nbt (fun h => ?_) (fun h => ?_) | refine guard_nbf (fun h => ?_) (fun h => ?_) | refine guard_bt (fun h => ?_) (fun h => ?_) | refine guard_bf (fun h => ?_) (fun h => ?_) | refine cond_t ?_ | refine cond_f ?_ | (refine cond_d (fun h => ?_) (fun h => ?_) <;> try (first | (exfalso; omega) | exact absurd rfl h)) | (refine cond_nd (fun h => ?_) (fun h => ?_) <;> try (first | (exfalso; omega) | exact absurd rfl h)) | refine cond_nb (fun h => ?_) (fun h => ?_) | refine cond_b (fun h => ?_) (fun h => ?_) | (refine side_i ?_ ?_; (first | omega | exact Eq.refl _ | exact ⟨Eq.refl _, by omega⟩ | (simp only [List.length_map]; omega))) | (refine side_i (imsB ?_) ?_; rfl) | (refine side_i (ims_map fun x => ?_) ?_; rfl) | (refine side_i ?_ ?_; (constructor <;> (simp only [elsA, cellsA, List.length_cons, List.length_nil, List.length_map]; omega))) | refine len_map ?_ | refine len_l ?_ | (refine each_knownm (by assumption) (by omega) ?_) | (refine each_known (by assumption) (by omega) ?_) | (refine each_mapNb ?_ (fun el hel hbB => ?_); omega) | (refine each_mapb ?_ ?_ (fun el hel hbB => ?_); omega; omega) | (refine each_lb ?_ ?_ (fun el hel hbB => ?_); omega; omega) | (refine each_mapN ?_ (fun el hel => ?_); omega) | (refine each_map ?_ ?_ (fun el hel => ?_); omega; omega) | (refine each_l ?_ ?_ (fun el hel => ?_); omega; omega) | (refine conv_bytes ?_ ?_; omega) | refine conv_u8 ?_ | refine conv_int ?_ | refine dq_go ?_ | (refine aany_go ?_ ?_ ?_; kernel_rfl; rfl) | (refine many_step ?_ ?_ ?_; kernel_rfl; kernel_rfl) | refine ex_i (fun ex => ?_) | refine allMP_c ?_ ?_ | exact allMP_n | (refine mpost_i ?_ ?_ ?_ ?_; rfl; rfl; rfl) | (refine free_i ?_ ?_; exact ⟨by kernel_rfl, by decide⟩) | refine allI_c ?_ ?_ | exact allI_n | refine conv_rune ?_ | (refine draw_p ?_ ?_ ?_; rfl; kernel_rfl)) <;> (try (conv => whnf)))
  case refine_1 => exact ret_nil (sz := 1) rfl (by rw [atS, if_neg h]; rfl)
  have hc : chk nm cs = 0 := by simpa using h
  have h60 := good60 hc
  rw [atS, if_pos hc]
  refine loop_i (ι := Nat) (fun k => ⟨[(1, .i level), (5, .row 1 0 (atK cs level k).length), (12, .sl 1 ((deps cs).map iA)), (13, .i (deps cs).length), (14, .i k)], 2, [(1, some (.row 3 1 0 ((atK cs level k).map iA)))]⟩) (fun k => k ≤ cs.length) (fun k => cs.length - k) 0 (Nat.zero_le _) (le_trans (le_adopt (d := 5) (e := 3) (sz := 1) rfl) (le_of h0 rfl ⟨rfl, rfl, rfl, rfl, rfl, trivial⟩ ⟨⟨0, rfl⟩, trivial⟩ rfl rfl rfl)) (fun k hI => ?_)
  have hal := atK_le cs level k
  repeat' ((first | (refine side_i ?_ ?_; (intro el2 hel2 u hu; cases hel2 with | head => (cases hu with | head => exact rfl | tail _ h => cases h) | tail _ h => cases h)) | (refine side_i ?_ ?_; (constructor <;> (simp only [elsA, cellsA, List.length_cons, List.length_nil]; omega)))  | refine aops_go ?_ | refine awp_go ?_ | refine var_i ?_ | refine fld_i ?_ | refine sl_i ?_ | refine arr_i ?_ | refine strt_i ?_ | refine boolt_i ?_ | refine zero_i ?_ | refine build_i ?_ | (refine row_i ?_ ?_; rfl) | refine map_i ?_ | refine guard_tt ?_ | refine guard_ff ?_ | refine guard_tf ?_ | refine guard_ft ?_ | (refine guard_dt (fun h => ?_) (fun h => ?_) <;> try (first | (exfalso; omega) | exact absurd rfl h)) | (refine guard_df (fun h => ?_) (fun h => ?_) <;> try (first | (exfalso; omega) | exact absurd rfl h)) | (refine guard_ndt (fun h => ?_) (fun h => ?_) <;> try (first | (exfalso; omega) | exact absurd rfl h)) | (refine guard_ndf (fun h => ?_) (fun h => ?_) <;> try (first | (exfalso; omega) | exact absurd rfl h)) | refine guard_nbt (fun h => ?_) (fun h => ?_) | refine guard_nbf (fun h => ?_) (fun h => ?_) | refine guard_bt (fun h => ?_) (fun h => ?_) | refine guard_bf (fun h => ?_) (fun h => ?_) | refine cond_t ?_ | refine cond_f ?_ | (refine cond_d (fun h => ?_) (fun h => ?_) <;> try (first | (exfalso; omega) | exact absurd rfl h)) | (refine cond_nd (fun h => ?_) (fun h => ?_) <;> try (first | (exfalso; omega) | exact absurd rfl h)) | refine cond_nb (fun h => ?_) (fun h => ?_) | refine cond_b (fun h => ?_) (fun h => ?_) | (refine side_i ?_ ?_; (first | omega | exact Eq.refl _ | exact ⟨Eq.refl _, by omega⟩ | (simp only [List.length_map]; omega))) | (refine side_i (imsB ?_) ?_; rfl) | (refine side_i (ims_map fun x => ?_) ?_; rfl) | (refine side_i ?_ ?_; (constructor <;> (simp only [elsA, cellsA, List.length_cons, List.length_nil, List.length_map]; omega))) | refine len_map ?_ | refine len_l ?_ | (refine each_knownm (by assumption) (by omega) ?_) | (refine each_known (by assumption) (by omega) ?_) | (refine each_mapNb ?_ (fun el hel hbB => ?_); omega) | (refine each_mapb ?_ ?_ (fun el hel hbB => ?_); omega; omega) | (refine each_lb ?_ ?_ (fun el hel hbB => ?_); omega; omega) | (refine each_mapN ?_ (fun el hel => ?_); omega) | (refine each_map ?_ ?_ (fun el hel => ?_); omega; omega) | (refine each_l ?_ ?_ (fun el hel => ?_); omega; omega) | (refine conv_bytes ?_ ?_; omega) | refine conv_u8 ?_ | refine conv_int ?_ | refine dq_go ?_ | (refine aany_go ?_ ?_ ?_; kernel_rfl; rfl) | (refine many_step ?_ ?_ ?_; kernel_rfl; kernel_rfl) | refine ex_i (fun ex => ?_) | refine allMP_c ?_ ?_ | exact allMP_n | (refine mpost_i ?_ ?_ ?_ ?_; rfl; rfl; rfl) | (refine free_i ?_ ?_; exact ⟨by kernel_rfl, by decide⟩) | refine allI_c ?_ ?_ | exact allI_n | refine conv_rune ?_ | (refine draw_p ?_ ?_ ?_; rfl; kernel_rfl)) <;> (try (conv => whnf)))
  · have hd : (dep cs k : Int) = level := by rw [dep_get hel]; exact h
    refine ⟨k + 1, ?_, ?_, le_of h0 rfl ⟨rfl, congrArg (fun z => some (AV.row 1 0 z)) ?_, rfl, rfl, rfl, trivial⟩ ⟨⟨0, congrArg (Blk.row 3 1 0) ?_⟩, trivial⟩ rfl rfl rfl⟩
    · omega
    · omega
    · rw [atK_yes hd, List.length_append]; rfl
    · rw [atK_yes hd, List.map_append]; rfl
  · have hd : ¬ (dep cs k : Int) = level := by rw [dep_get hel]; exact h
    refine ⟨k + 1, ?_, ?_, le_of h0 rfl ⟨rfl, congrArg (fun z => some (AV.row 1 0 z)) ?_, rfl, rfl, rfl, trivial⟩ ⟨⟨0, congrArg (Blk.row 3 1 0) ?_⟩, trivial⟩ rfl rfl rfl⟩
    · omega
    · omega
    · rw [atK_no hd]
    · rw [atK_no hd]
  · apply ret_tmp
    · rfl
    · rw [show cs.length = k by omega]
      rfl

/-- The example of the chapter. -/
abbrev exN : List UInt8 := [108]
abbrev exC : List Code := [⟨[97], -1⟩, ⟨[98], 0⟩, ⟨[99], 0⟩, ⟨[100], 1⟩, ⟨[101], 1⟩, ⟨[102], 2⟩]
theorem ex_check : FCall Tryd.prog 20 [lA exN exC] (.i 0) := (check_call exN exC (by decide)).congr (congrArg AV.i (by decide))
theorem ex_levels : FCall Tryd.prog 17 [lA exN exC] (.i 3) := (levels_call exN exC (by decide)).congr (congrArg AV.i (by decide))
theorem ex_up : FCall Tryd.prog 15 [lA exN exC, .i 4, .i 1] (.i 1) := (up_call exN exC 4 1 (by decide)).congr (congrArg AV.i (by decide))
theorem ex_under1 : FCall Tryd.prog 67 [lA exN exC, .i 4, .i 1] (.b true) := (under_call exN exC 4 1 (by decide)).congr (congrArg AV.b (by decide))
theorem ex_under2 : FCall Tryd.prog 67 [lA exN exC, .i 5, .i 1] (.b false) := (under_call exN exC 5 1 (by decide)).congr (congrArg AV.b (by decide))
theorem ex_find : FCall Tryd.prog 68 [lA exN exC, .str [102]] (.i 5) := (find_call exN exC [102] (by decide)).congr (congrArg AV.i (by decide))
theorem ex_at : FCall Tryd.prog 18 [lA exN exC, .i 2] (.sl 1 [iA 3, iA 4, iA 5]) := (at_call exN exC 2 (by decide)).congr (congrArg (fun l => AV.sl 1 (l.map iA)) (show atS exN exC 2 = [3, 4, 5] by decide))
theorem ex_ints : FCall Tryd.prog 69 [.sl 1 [iA 3, iA 4, iA 5], .sl 1 [iA 3, iA 4, iA 5]] (.b true) := (ints_call [3, 4, 5] [3, 4, 5] (by decide) (by decide)).congr (congrArg AV.b (by decide))

set_option maxHeartbeats 2000000 in
theorem awake_call : FCall Tryd.prog 21 [] (.b true) := by
  refine fcall_intro (n := 43) Tryd.func21 (by kernel_rfl) rfl rfl rfl rfl rfl (by intro t T h; cases h) (fun hrd E h0 => ?_)
  repeat' ((first | refine call_i ex_check ?_ | refine call_i ex_levels ?_ | refine call_i ex_up ?_ | refine call_i ex_under1 ?_ | refine call_i ex_under2 ?_ | refine call_i ex_find ?_ | refine call_i ex_at ?_ | refine call_i ex_ints ?_ | (refine side_i ?_ ?_; decide)  | refine aops_go ?_ | refine awp_go ?_ | refine var_i ?_ | refine fld_i ?_ | refine sl_i ?_ | refine arr_i ?_ | refine strt_i ?_ | refine boolt_i ?_ | refine zero_i ?_ | refine build_i ?_ | (refine row_i ?_ ?_; rfl) | refine map_i ?_ | refine guard_tt ?_ | refine guard_ff ?_ | refine guard_tf ?_ | refine guard_ft ?_ | (refine guard_dt (fun h => ?_) (fun h => ?_) <;> try (first | (exfalso; omega) | exact absurd rfl h)) | (refine guard_df (fun h => ?_) (fun h => ?_) <;> try (first | (exfalso; omega) | exact absurd rfl h)) | (refine guard_ndt (fun h => ?_) (fun h => ?_) <;> try (first | (exfalso; omega) | exact absurd rfl h)) | (refine guard_ndf (fun h => ?_) (fun h => ?_) <;> try (first | (exfalso; omega) | exact absurd rfl h)) | refine guard_nbt (fun h => ?_) (fun h => ?_) | refine guard_nbf (fun h => ?_) (fun h => ?_) | refine guard_bt (fun h => ?_) (fun h => ?_) | refine guard_bf (fun h => ?_) (fun h => ?_) | refine cond_t ?_ | refine cond_f ?_ | (refine cond_d (fun h => ?_) (fun h => ?_) <;> try (first | (exfalso; omega) | exact absurd rfl h)) | (refine cond_nd (fun h => ?_) (fun h => ?_) <;> try (first | (exfalso; omega) | exact absurd rfl h)) | refine cond_nb (fun h => ?_) (fun h => ?_) | refine cond_b (fun h => ?_) (fun h => ?_) | (refine side_i ?_ ?_; (first | omega | exact Eq.refl _ | exact ⟨Eq.refl _, by omega⟩ | (simp only [List.length_map]; omega))) | (refine side_i (imsB ?_) ?_; rfl) | (refine side_i (ims_map fun x => ?_) ?_; rfl) | (refine side_i ?_ ?_; (constructor <;> (simp only [elsA, cellsA, List.length_cons, List.length_nil, List.length_map]; omega))) | refine len_map ?_ | refine len_l ?_ | (refine each_knownm (by assumption) (by omega) ?_) | (refine each_known (by assumption) (by omega) ?_) | (refine each_mapNb ?_ (fun el hel hbB => ?_); omega) | (refine each_mapb ?_ ?_ (fun el hel hbB => ?_); omega; omega) | (refine each_lb ?_ ?_ (fun el hel hbB => ?_); omega; omega) | (refine each_mapN ?_ (fun el hel => ?_); omega) | (refine each_map ?_ ?_ (fun el hel => ?_); omega; omega) | (refine each_l ?_ ?_ (fun el hel => ?_); omega; omega) | (refine conv_bytes ?_ ?_; omega) | refine conv_u8 ?_ | refine conv_int ?_ | refine dq_go ?_ | (refine aany_go ?_ ?_ ?_; kernel_rfl; rfl) | (refine many_step ?_ ?_ ?_; kernel_rfl; kernel_rfl) | refine ex_i (fun ex => ?_) | refine allMP_c ?_ ?_ | exact allMP_n | (refine mpost_i ?_ ?_ ?_ ?_; rfl; rfl; rfl) | (refine free_i ?_ ?_; exact ⟨by kernel_rfl, by decide⟩) | refine allI_c ?_ ?_ | exact allI_n | refine conv_rune ?_ | (refine draw_p ?_ ?_ ?_; rfl; kernel_rfl)) <;> (try (conv => whnf)))
  all_goals first
    | exact ret_tmp rfl rfl
    | trace_state
end Go.Proofs.YtmiaihoallkjfaaDoor

/- Chapter 2: the reference's values and levels. -/
import Derived.Test.YtmiaihoallkjfaaDoorSr2
import Derived.Test.YtmiaihoallkjfaaDoorSc5
import Derived.Test.YtmiaihoallkjfaaDoorCo11
namespace Go.Proofs.YtmiaihoallkjfaaDoor
open Go Go.Av
attribute [local irreducible] AWp AOps AAny MAny DQ retQ retG St.le FCall GCall
set_option linter.unusedVariables false
set_option linter.unnecessarySimpa false
set_option linter.unusedSimpArgs false
set_option maxRecDepth 100000

theorem leaf_level {nm : List UInt8} {cs : List Code} (h : chk nm cs = 0) {v : Nat} (hv : v < cs.length) : levelS nm cs v = levelsS nm cs - 1 ↔ leafB cs v = true := by
  have hg := (chk_good h).1
  have hn := (chk_good h).2.1
  have e1 : levelS nm cs v = dep cs v := (levelS_yes (nm := nm) (cs := cs) (code := v) ⟨by omega, by omega, h⟩).symm
  have e2 : levelsS nm cs = maxL (deps cs) + 1 := by rw [levelsS, if_pos h]
  rw [e1, e2]
  obtain ⟨i, hi⟩ := maxL_at (ds := deps cs) (by rw [deps_length]; exact hn)
  have hil : i < cs.length := by rw [← deps_length cs]; exact lt_of_get hi
  have hdi := dep_get hi
  have hli := deep_leaf hg hil hdi
  constructor
  · intro e
    exact deep_leaf hg hv (by omega)
  · intro hl
    have hp1 : (pairs cs)[i]? = some (true, maxL (deps cs)) := by rw [pairs_at hi, hli]
    have hp2 : (pairs cs)[v]? = some (true, dep cs v) := by rw [pairs_at (dep_at hv), hl]
    have := (lv_all _ _ (chk_lv0 h) v i _ _ hp2 hp1).1
    omega
theorem level_leaf {nm : List UInt8} {cs : List Code} (h : chk nm cs = 0) {v : Int} (hv : 0 ≤ v ∧ v < cs.length) : decide (levelS nm cs v = levelsS nm cs - 1) = leafB cs v := by
  obtain ⟨n, rfl⟩ := Int.eq_ofNat_of_zero_le hv.1
  have := leaf_level h (v := n) (by omega)
  cases hl : leafB cs n with
  | true => exact decide_eq_true (this.2 hl)
  | false => exact decide_eq_false (fun e => by have := this.1 e; rw [hl] at this; cases this)

set_option maxHeartbeats 4000000 in
theorem rholds_call (s : Sch) (column v : Int) (hr : schE s = 0) {c : Col} (hc0 : 0 ≤ column) (hc : s.cols[column.toNat]? = some c) : FCall Tryd.prog 98 [sA s, .i column, .i v] (.b (holdB s c v)) := by
  have hi := lt_of_get hc
  have hlst := fun hk => RightS.lst hr (List.mem_of_getElem? hc) hk
  have hin1 := in_call v 1 1048575
  have hin2 := fun n : Nat => in_call v 0 ((n : Int) - 1)
  have hin3 := in_call v c.low c.high
  have hchk := (schE_parts hr).2.2.1
  have hlev := fun (l : CL) (hl : s.lists[c.lst.toNat]? = some l) => rlevel_call l.1 l.2 v (by have := (chk_good (hchk l (List.mem_of_getElem? hl))).2.2; omega)
  have hlevs := fun (l : CL) (hl : s.lists[c.lst.toNat]? = some l) => rlevels_call l.1 l.2 (by have := (chk_good (hchk l (List.mem_of_getElem? hl))).2.2; omega)
  have hbd := fun (l : CL) (hl : s.lists[c.lst.toNat]? = some l) => And.intro (chk_good (hchk l (List.mem_of_getElem? hl))).2 (levelsS_bd (nm := l.1) (cs := l.2) (by have := (chk_good (hchk l (List.mem_of_getElem? hl))).2.2; omega))
  refine fcall_intro (n := 57) Tryd.func98 (by kernel_rfl) rfl rfl rfl rfl rfl (by intro t T h; cases h) (fun hrd E h0 => ?_)
  clear hrd
  repeat' ((first | (refine each_knownm (x := c) hc (by omega) ?_) | refine call_i hin1 ?_ | refine call_i (hin2 _) ?_ | refine call_i hin3 ?_ | refine call_i (hlev _ hlx) ?_ | refine call_i (hlevs _ hlx) ?_ | (refine draw_q ?_ ?_; kernel_rfl) | (refine each_map ?_ ?_ (fun lx hlx => ?_); (have := hlst (by assumption); omega); (have := hlst (by assumption); omega)) | (refine side_i ?_ ?_; (have := hbd _ hlx; omega))  | refine aops_go ?_ | refine awp_go ?_ | refine var_i ?_ | refine fld_i ?_ | refine sl_i ?_ | refine arr_i ?_ | refine strt_i ?_ | refine boolt_i ?_ | refine zero_i ?_ | refine build_i ?_ | (refine row_i ?_ ?_; rfl) | refine map_i ?_ | refine guard_tt ?_ | refine guard_ff ?_ | refine guard_tf ?_ | refine guard_ft ?_ | (refine guard_dt (fun h => ?_) (fun h => ?_) <;> try (first | (exfalso; omega) | exact absurd rfl h)) | (refine guard_df (fun h => ?_) (fun h => ?_) <;> try (first | (exfalso; omega) | exact absurd rfl h)) | (refine guard_ndt (fun h => ?_) (fun h => ?_) <;> try (first | (exfalso; omega) | exact absurd rfl h)) | (refine guard_ndf (fun h => ?_) (fun h => ?_) <;> try (first | (exfalso; omega) | exact absurd rfl h)) | refine guard_nbt (fun h => ?_) (fun h => ?_) | refine guard_nbf (fun h => ?_) (fun h => ?_) | refine guard_bt (fun h => ?_) (fun h => ?_) | refine guard_bf (fun h => ?_) (fun h => ?_) | refine cond_t ?_ | refine cond_f ?_ | (refine cond_d (fun h => ?_) (fun h => ?_) <;> try (first | (exfalso; omega) | exact absurd rfl h)) | (refine cond_nd (fun h => ?_) (fun h => ?_) <;> try (first | (exfalso; omega) | exact absurd rfl h)) | refine cond_nb (fun h => ?_) (fun h => ?_) | refine cond_b (fun h => ?_) (fun h => ?_) | (refine side_i ?_ ?_; (first | omega | exact Eq.refl _ | exact ⟨Eq.refl _, by omega⟩ | (simp only [List.length_map]; omega))) | (refine side_i (imsB ?_) ?_; rfl) | (refine side_i (ims_map fun x => ?_) ?_; rfl) | (refine side_i ?_ ?_; (constructor <;> (simp only [elsA, cellsA, List.length_cons, List.length_nil, List.length_map]; omega))) | refine len_map ?_ | refine len_l ?_ | (refine each_knownm (by assumption) (by omega) ?_) | (refine each_known (by assumption) (by omega) ?_) | (refine each_mapNb ?_ (fun el hel hbB => ?_); omega) | (refine each_mapb ?_ ?_ (fun el hel hbB => ?_); omega; omega) | (refine each_lb ?_ ?_ (fun el hel hbB => ?_); omega; omega) | (refine each_mapN ?_ (fun el hel => ?_); omega) | (refine each_map ?_ ?_ (fun el hel => ?_); omega; omega) | (refine each_l ?_ ?_ (fun el hel => ?_); omega; omega) | (refine conv_bytes ?_ ?_; omega) | refine conv_u8 ?_ | refine conv_int ?_ | refine dq_go ?_ | (refine aany_go ?_ ?_ ?_; kernel_rfl; rfl) | (refine many_step ?_ ?_ ?_; kernel_rfl; kernel_rfl) | refine ex_i (fun ex => ?_) | refine allMP_c ?_ ?_ | exact allMP_n | (refine mpost_i ?_ ?_ ?_ ?_; rfl; rfl; rfl) | (refine free_i ?_ ?_; exact ⟨by kernel_rfl, by decide⟩) | refine allI_c ?_ ?_ | exact allI_n | refine conv_rune ?_ | (refine draw_p ?_ ?_ ?_; rfl; kernel_rfl)) <;> (try (conv => whnf)))
  all_goals refine ret_tmp rfl (congrArg AV.b ?_)
  all_goals first
    | (rw [holdB, if_pos (by assumption)]; done)
    | (rw [holdB, if_neg (by assumption), if_pos (by assumption), lstOf_get hlx, decide_eq_false (p := 0 ≤ v ∧ v < (lx.2.length : Int)) (by omega), Bool.false_and]; done)
    | (rw [holdB, if_neg (by assumption), if_pos (by assumption), lstOf_get hlx, decide_eq_true (p := 0 ≤ v ∧ v < (lx.2.length : Int)) (by omega), Bool.true_and, level_leaf (hchk lx (List.mem_of_getElem? hlx)) (by omega)]; done)
    | (rw [holdB, if_neg (by assumption), if_neg (by assumption)]; simp only [*, Bool.true_and, Bool.false_and, decide_true, decide_false, Bool.or_true, Bool.or_false, Bool.false_or, Bool.true_or]; done)
    | trace_state
end Go.Proofs.YtmiaihoallkjfaaDoor

/- Chapter 2: the reference's rows, names, coarse values. Chapter 2: the reference's leaves, blocks, and values that can be. -/
import Derived.Test.YtepdcljecfibpaaGreatDoorQB9
import Derived.Test.YtepdcljecfibpaaGreatDoorQB8
namespace Go.Proofs.YtepdcljecfibpaaGreatDoor
open Go Go.Av
attribute [local irreducible] AWp AOps AAny MAny DQ retQ retG St.le FCall GCall
set_option linter.unusedVariables false
set_option linter.unnecessarySimpa false
set_option linter.unusedSimpArgs false
set_option maxRecDepth 100000
set_option maxHeartbeats 4000000 in
theorem rfinest_call (s : Sch) (column : Int) : FCall Tryz.prog 23 [sA s, .i column] (.i (finestS s column)) := by
  refine fcall_intro (n := 39) Tryz.func23 (by kernel_rfl) rfl rfl rfl rfl rfl (by intro t T h; cases h) (fun hrd E h0 => ?_)
  obtain ⟨hl1, hl2, hl3⟩ := rd_lists (s := s) (hrd _ (by simp))
  have hlb := fun (l : CL) (hl : s.lists[(colAt s column).lst.toNat]? = some l) => levelsS_bd (nm := l.1) (hl3 l (List.mem_of_getElem? hl))
  clear hrd
  repeat' ((first | refine call_i (rscheck_call s) ?_ |refine aops_go ?_|refine awp_go ?_|refine guard_tt ?_|refine guard_ff ?_|refine guard_tf ?_|refine guard_ft ?_|refine cond_t ?_|refine cond_f ?_|refine Z1 ?_|refine Z2 ?_|refine stp ?_|(refine And.intro ?_ ?_<;>intro h<;>try first|(exfalso;omega)|exact absurd rfl h)|refine Z3 ?_|refine Z4 ?_|intro el hel hbB|intro el hel|intro ex|refine Z5 ?_|(refine free_i ?_ ?_;exact ⟨by kernel_rfl,by decide⟩)|refine allI_c ?_ ?_|exact allI_n|refine allMP_c ?_ ?_|exact allMP_n|(refine many_step ?_ ?_ ?_;kernel_rfl;kernel_rfl)) <;> (try (conv => whnf)))
  all_goals first
    | exact ret_tmp rfl (congrArg AV.i (by rw [finestS, if_neg (by assumption)]))
    | exact ret_tmp rfl (congrArg AV.i (by rw [finestS, if_pos (Classical.byContradiction (by assumption)), finS, if_pos (by omega)]))
    | skip
  all_goals
    have hr : schE s = 0 := Classical.byContradiction (by assumption)
    rw [finestS, if_pos hr]
  repeat' ((first | (refine call_i (rlevels_call _ _ (hl3 _ (List.mem_of_getElem? (by assumption)))) ?_) | (refine each_map ?_ ?_ (fun lx hlx => ?_); (have := RightS.lst hr (List.mem_of_getElem? hel) (by assumption); omega); (have := RightS.lst hr (List.mem_of_getElem? hel) (by assumption); omega)) | (refine side_i ?_ ?_; (have := hlb lx (by rw [colAt_get hel]; exact hlx); omega)) |refine aops_go ?_|refine awp_go ?_|refine guard_tt ?_|refine guard_ff ?_|refine guard_tf ?_|refine guard_ft ?_|refine cond_t ?_|refine cond_f ?_|refine Z1 ?_|refine Z2 ?_|refine stp ?_|(refine And.intro ?_ ?_<;>intro h<;>try first|(exfalso;omega)|exact absurd rfl h)|refine Z3 ?_|refine Z4 ?_|intro el hel hbB|intro el hel|intro ex|refine Z5 ?_|(refine free_i ?_ ?_;exact ⟨by kernel_rfl,by decide⟩)|refine allI_c ?_ ?_|exact allI_n|refine allMP_c ?_ ?_|exact allMP_n|(refine many_step ?_ ?_ ?_;kernel_rfl;kernel_rfl)) <;> (try (conv => whnf)))
  all_goals first
    | (refine ret_tmp rfl (congrArg AV.i ?_); rw [finS, if_neg (by omega), colAt_get hel, finC, if_pos (by assumption), lstOf_get hlx]; done)
    | (refine ret_tmp rfl (congrArg AV.i ?_); rw [finS, if_neg (by omega), colAt_get hel, finC, if_neg (by assumption)]; done)
theorem tdiv_small (a : Int) {b : Int} (h : 1 ≤ b) : (a.tmod b < 0 ∧ a / b = a.tdiv b - 1) ∨ (0 ≤ a.tmod b ∧ a / b = a.tdiv b) := by
  have h1 := Int.mul_tdiv_add_tmod a b
  have h2 := Int.mul_ediv_add_emod a b
  rcases mod_cases a h with ⟨h3, h4⟩ | ⟨h3, h4⟩
  · left
    refine ⟨h3, ?_⟩
    have h5 : b * (a / b) = b * (a.tdiv b - 1) := by rw [Int.mul_sub]; omega
    exact Int.eq_of_mul_eq_mul_left (by omega) h5
  · right
    refine ⟨h3, ?_⟩
    have h5 : b * (a / b) = b * a.tdiv b := by omega
    exact Int.eq_of_mul_eq_mul_left (by omega) h5
theorem tdiv_abs (a b : Int) {B : Int} (h : -B ≤ a ∧ a ≤ B) (hb : 1 ≤ b) : -B ≤ a.tdiv b ∧ a.tdiv b ≤ B := by
  have h2 : (a.tdiv b).natAbs ≤ a.natAbs := by rw [Int.natAbs_tdiv]; exact Nat.div_le_self _ _
  omega
theorem floor_call (a b : Int) (hb : 1 ≤ b) (ha : -4000000000000 ≤ a ∧ a ≤ 4000000000000) : FCall Tryz.prog 157 [.i a, .i b] (.i (a / b)) := by
  have h1 := tdiv_small a hb
  have h2 := tdiv_abs a b ha hb
  refine fcall_intro (n := 16) Tryz.func157 (by kernel_rfl) rfl rfl rfl rfl rfl (by intro t T h; cases h) (fun hrd E h0 => ?_)
  clear hrd
  repeat' ((first|refine aops_go ?_|refine awp_go ?_|refine guard_tt ?_|refine guard_ff ?_|refine guard_tf ?_|refine guard_ft ?_|refine cond_t ?_|refine cond_f ?_|refine Z1 ?_|refine Z2 ?_|refine stp ?_|(refine And.intro ?_ ?_<;>intro h<;>try first|(exfalso;omega)|exact absurd rfl h)|refine Z3 ?_|refine Z4 ?_|intro el hel hbB|intro el hel|intro ex|refine Z5 ?_|(refine free_i ?_ ?_;exact ⟨by kernel_rfl,by decide⟩)|refine allI_c ?_ ?_|exact allI_n|refine allMP_c ?_ ?_|exact allMP_n|(refine many_step ?_ ?_ ?_;kernel_rfl;kernel_rfl)) <;> (try (conv => whnf)))
  all_goals exact ret_tmp rfl (congrArg AV.i (by omega))
theorem rwidth_call (c : Col) (level : Int) (h1 : 1 ≤ level) (h2 : level ≤ c.widths.length) : FCall Tryz.prog 156 [colA c, .i level] (.i (widthS c level)) := by
  refine fcall_intro (n := 14) Tryz.func156 (by kernel_rfl) rfl rfl rfl rfl rfl (by intro t T h; cases h) (fun hrd E h0 => ?_)
  have hlen : c.widths.length ≤ 9223372036854775807 := by
    have := ((hrd (colA c) (by simp)).agg (.sl 1 (c.widths.map wA)) (by simp)).sl
    simpa using this
  clear hrd
  repeat' ((first|refine aops_go ?_|refine awp_go ?_|refine guard_tt ?_|refine guard_ff ?_|refine guard_tf ?_|refine guard_ft ?_|refine cond_t ?_|refine cond_f ?_|refine Z1 ?_|refine Z2 ?_|refine stp ?_|(refine And.intro ?_ ?_<;>intro h<;>try first|(exfalso;omega)|exact absurd rfl h)|refine Z3 ?_|refine Z4 ?_|intro el hel hbB|intro el hel|intro ex|refine Z5 ?_|(refine free_i ?_ ?_;exact ⟨by kernel_rfl,by decide⟩)|refine allI_c ?_ ?_|exact allI_n|refine allMP_c ?_ ?_|exact allMP_n|(refine many_step ?_ ?_ ?_;kernel_rfl;kernel_rfl)) <;> (try (conv => whnf)))
  all_goals exact ret_tmp rfl (congrArg AV.i (getD_get hel).symm)
theorem downS_mul (v w : Int) : v / w * w = downS v w := by
  unfold downS
  have := Int.ediv_mul_add_emod v w
  omega
set_option maxHeartbeats 4000000 in
theorem rcoarse_call (s : Sch) (column level v : Int) : FCall Tryz.prog 155 [sA s, .i column, .i level, .i v] (.i (coaS s column level v)) := by
  have hfin := rfinest_call s column
  have hin := in_call level 0 (finestS s column)
  have hin2 := in_call v (-1000000) 1000000
  refine fcall_intro (n := 59) Tryz.func155 (by kernel_rfl) rfl rfl rfl rfl rfl (by intro t T h; cases h) (fun hrd E h0 => ?_)
  obtain ⟨hl1, hl2, hl3⟩ := rd_lists (s := s) (hrd _ (by simp))
  clear hrd
  repeat' ((first | refine call_i hfin ?_ | refine call_i hin ?_ |refine aops_go ?_|refine awp_go ?_|refine guard_tt ?_|refine guard_ff ?_|refine guard_tf ?_|refine guard_ft ?_|refine cond_t ?_|refine cond_f ?_|refine Z1 ?_|refine Z2 ?_|refine stp ?_|(refine And.intro ?_ ?_<;>intro h<;>try first|(exfalso;omega)|exact absurd rfl h)|refine Z3 ?_|refine Z4 ?_|intro el hel hbB|intro el hel|intro ex|refine Z5 ?_|(refine free_i ?_ ?_;exact ⟨by kernel_rfl,by decide⟩)|refine allI_c ?_ ?_|exact allI_n|refine allMP_c ?_ ?_|exact allMP_n|(refine many_step ?_ ?_ ?_;kernel_rfl;kernel_rfl)) <;> (try (conv => whnf)))
  all_goals first
    | (refine ret_tmp rfl (congrArg AV.i ?_); rw [coaS, if_pos (by omega)]; done)
    | skip
  obtain ⟨hr, h1, h2, h4⟩ := finestS_ok (s := s) (column := column) (level := level) (by omega) (by omega)
  rw [coaS, if_neg (by omega)]
  clear hfin hin
  obtain ⟨c, hc⟩ : ∃ c, s.cols[column.toNat]? = some c := ⟨_, List.getElem?_eq_getElem (by omega)⟩
  have hca := colAt_get hc
  have hcr := col_right hr h1 hc
  rw [finS, if_neg (by omega), hca] at h4
  rw [hca]
  have hfit := rholds_call s column v hr (by omega) hc
  have hup := fun (l : CL) (hl : s.lists[c.lst.toNat]? = some l) => rup_call l.1 l.2 v level (hl3 _ (List.mem_of_getElem? hl))
  have hwd : ¬ c.kind = 2 → ¬ level = 0 → (1 ≤ widthS c level ∧ widthS c level ≤ 1000000) ∧ FCall Tryz.prog 156 [colA c, .i level] (.i (widthS c level)) := by
    intro h5 h7
    have h9 : finC s c = c.widths.length := by unfold finC; rw [if_neg h5]
    rcases hcr with hcr | hcr
    · omega
    exact ⟨widthS_bd hcr.2.2.2.2.2.2 (by omega) (by omega), rwidth_call c level (by omega) (by omega)⟩
  have hfl : ¬ c.kind = 2 → ¬ level = 0 → -1000000 ≤ v ∧ v ≤ 1000000 → FCall Tryz.prog 157 [.i v, .i (widthS c level)] (.i (v / widthS c level)) := fun h5 h6 h7 => floor_call _ _ (hwd h5 h6).1.1 (by omega)
  have hdm : ¬ c.kind = 2 → ¬ level = 0 → v / widthS c level * widthS c level = downS v (widthS c level) ∧ v - widthS c level < downS v (widthS c level) ∧ downS v (widthS c level) ≤ v := fun h5 h6 => ⟨downS_mul _ _, downS_bd v (hwd h5 h6).1.1⟩
  unfold coaC
  generalize widthS c level = w at *
  repeat' ((first | (refine each_knownm (x := c) hc (by omega) ?_) | refine call_i hfit ?_ | refine call_i (hup _ (by assumption)) ?_ | refine call_i hin2 ?_ | refine call_i (hwd (by assumption) (by assumption)).2 ?_ | refine call_i (hfl (by assumption) (by assumption) (by assumption)) ?_ | (refine draw_q ?_ ?_; kernel_rfl) | (refine side_i ?_ ?_; (have h6 := hdm (by assumption) (by assumption); have h8 := (hwd (by assumption) (by assumption)).1; rw [h6.1]; omega)) |refine aops_go ?_|refine awp_go ?_|refine guard_tt ?_|refine guard_ff ?_|refine guard_tf ?_|refine guard_ft ?_|refine cond_t ?_|refine cond_f ?_|refine Z1 ?_|refine Z2 ?_|refine stp ?_|(refine And.intro ?_ ?_<;>intro h<;>try first|(exfalso;omega)|exact absurd rfl h)|refine Z3 ?_|refine Z4 ?_|intro el hel hbB|intro el hel|intro ex|refine Z5 ?_|(refine free_i ?_ ?_;exact ⟨by kernel_rfl,by decide⟩)|refine allI_c ?_ ?_|exact allI_n|refine allMP_c ?_ ?_|exact allMP_n|(refine many_step ?_ ?_ ?_;kernel_rfl;kernel_rfl)) <;> (try (conv => whnf)))
  all_goals refine ret_tmp rfl (congrArg AV.i ?_)
  all_goals first
    | (rw [if_pos (by assumption : c.kind = 2), if_neg (by rw [h]; exact Bool.false_ne_true)]; done)
    | (rw [if_pos (by assumption : c.kind = 2), if_pos (by assumption), lstOf_get hel]; done)
    | (rw [if_neg (by assumption : ¬ c.kind = 2), if_pos (by omega)]; done)
    | (rw [if_neg (by assumption : ¬ c.kind = 2), if_neg (by omega), if_pos (by omega)]; done)
    | (rw [if_neg (by assumption : ¬ c.kind = 2), if_neg (by omega), if_neg (by omega), if_pos (by omega)]; done)
    | (rw [if_neg (by assumption : ¬ c.kind = 2), if_neg (by omega), if_neg (by omega), if_pos (by omega)]; omega)
    | (rw [if_neg (by assumption : ¬ c.kind = 2), if_neg (by omega), if_neg (by omega), if_neg (by omega), (hdm (by assumption) (by assumption)).1]; done)
end Go.Proofs.YtepdcljecfibpaaGreatDoor
namespace Go.Proofs.YtepdcljecfibpaaGreatDoor
open Go Go.Av
attribute [local irreducible] AWp AOps AAny MAny DQ retQ retG St.le FCall GCall
set_option linter.unusedVariables false
set_option linter.unnecessarySimpa false
set_option linter.unusedSimpArgs false
set_option maxRecDepth 100000
end Go.Proofs.YtepdcljecfibpaaGreatDoor

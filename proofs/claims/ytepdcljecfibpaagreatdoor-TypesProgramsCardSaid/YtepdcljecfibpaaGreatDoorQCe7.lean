/- Chapter 5: the reference's level that decides. -/
import Derived.Test.YtepdcljecfibpaaGreatDoorQC3
import Derived.Test.YtepdcljecfibpaaGreatDoorQC7
import Derived.Test.YtepdcljecfibpaaGreatDoorQB15
import Derived.Test.YtepdcljecfibpaaGreatDoorQB11
namespace Go.Proofs.YtepdcljecfibpaaGreatDoor
open Go Go.Av
attribute [local irreducible] AWp AOps AAny MAny DQ retQ retG St.le FCall GCall
set_option linter.unusedVariables false
set_option linter.unnecessarySimpa false
set_option linter.unusedSimpArgs false
set_option maxRecDepth 100000
theorem suf_divB {s : Sch} {a : Cnd} {level : Int} (hr : schE s = 0) (ha : conE s a = 0) (h2 : a.op = 2) (h0 : 0 ≤ level) (h1 : level ≤ finS s a.col) : sufS s a level = divB (atomS s a) (coaS s a.col level) ((lvsS s a.col).map fun n : Nat => (n : Int)) := by
  obtain ⟨x, hx, c1, c2, q2, _⟩ := atom_col hr ha (.inl h2)
  obtain ⟨hk, _⟩ := q2 h2
  have hco : ∀ v ∈ lvsS s a.col, coaS s a.col level v = upS (lstOf s (colAt s a.col)).1 (lstOf s (colAt s a.col)).2 v level := fun v hv => by
    rw [colAt_get hx]
    exact (coa_leaf hr c1 hx hk h0 (by rw [finestS, if_pos hr]; exact h1) hv).1
  unfold sufS
  rw [if_pos h2, Bool.eq_iff_iff, decide_eq_true_iff, divB_iff]
  constructor
  · intro h u hu v hv hne e
    obtain ⟨u', hu', rfl⟩ := List.mem_map.1 hu
    obtain ⟨v', hv', rfl⟩ := List.mem_map.1 hv
    rw [hco u' hu', hco v' hv'] at e
    exact hne (h u' hu' v' hv' e)
  · intro h u hu v hv e
    refine Classical.byContradiction fun hne => ?_
    refine h u (List.mem_map.2 ⟨u, hu, rfl⟩) v (List.mem_map.2 ⟨v, hv, rfl⟩) hne ?_
    rw [hco u hu, hco v hv]
    exact e
set_option maxHeartbeats 8000000 in
theorem rdecc_call (s : Sch) (a : Cnd) (level : Int) (hr : schE s = 0) (ha : conE s a = 0) (h2 : a.op = 2) (h0l : 0 ≤ level) (h1l : level ≤ finS s a.col) : FCall Tryz.prog 153 [sA s, cndA a, .i level] (.b (sufS s a level)) := by
  obtain ⟨x, hx, c1, c2, q2, _⟩ := atom_col hr ha (.inl h2)
  obtain ⟨hk, hl1, hl2, hf⟩ := q2 h2
  rw [suf_divB hr ha h2 h0l h1l]
  have hat := fun v => ratom_call s a v (.inl h2) (atom_code hr ha)
  have hcoa := fun v => rcoarse_call s a.col level v
  have hlv : FCall Tryz.prog 154 [sA s, .i a.col] (.sl 1 (((lvsS s a.col).map fun n : Nat => (n : Int)).map wA)) :=
    (leaves_call s a.col (by omega) hx ⟨hl1, hl2⟩).congr (congrArg (AV.sl 1) (by rw [List.map_map]; rfl))
  have hlvl := atS_length (lstOf s (colAt s a.col)).1 (lstOf s (colAt s a.col)).2 (levelsS (lstOf s (colAt s a.col)).1 (lstOf s (colAt s a.col)).2 - 1)
  have hal : ((lvsS s a.col).map fun n : Nat => (n : Int)).length ≤ 9223372036854775807 := by
    rw [List.length_map]
    have hc : chk (lstOf s x).1 (lstOf s x).2 = 0 := (schE_parts hr).2.2.1 _ (by unfold lstOf; rw [List.getD_eq_getElem?_getD, List.getElem?_eq_getElem (by omega)]; exact List.getElem_mem _)
    have := good60 hc
    rw [colAt_get hx] at hlvl
    unfold lvsS
    rw [colAt_get hx]
    omega
  generalize ((lvsS s a.col).map fun n : Nat => (n : Int)) = al at *
  rw [cndA_eq] at *
  refine fcall_intro (n := 140) Tryz.func153 (by kernel_rfl) rfl rfl rfl rfl rfl (by intro t T h; cases h) (fun hrd E h0 => ?_)
  clear hrd
  repeat' ((first | (refine each_knownm (x := x) hx (by omega) ?_) | refine call_i hlv ?_ |refine aops_go ?_|refine awp_go ?_|refine guard_tt ?_|refine guard_ff ?_|refine guard_tf ?_|refine guard_ft ?_|refine cond_t ?_|refine cond_f ?_|refine Z1 ?_|refine Z2 ?_|refine stp ?_|(refine And.intro ?_ ?_<;>intro h<;>try first|(exfalso;omega)|exact absurd rfl h)|refine Z3 ?_|refine Z4 ?_|intro el hel hbB|intro el hel|intro ex|refine Z5 ?_|(refine free_i ?_ ?_;exact ⟨by kernel_rfl,by decide⟩)|refine allI_c ?_ ?_|exact allI_n|refine allMP_c ?_ ?_|exact allMP_n|(refine many_step ?_ ?_ ?_;kernel_rfl;kernel_rfl)) <;> (try (conv => whnf)))
  refine loop_i (ι := Nat) (fun k => ⟨[(2, .i level), (3, .ref 0 0), (4, .ref 1 0), (8, .sl 1 (al.map wA)), (9, .i k)], 3, [(0, some (.box (sL s))), (1, some (.box (cndY a)))]⟩) (fun k => k ≤ al.length ∧ PAt (atomS s a) (coaS s a.col level) al k 0) (fun k => al.length - k) 0 ⟨Nat.zero_le _, PAt.zero _ _ _⟩ (le_of h0 rfl ⟨rfl, rfl, rfl, rfl, rfl, trivial⟩ ⟨rfl, rfl, trivial⟩ rfl rfl rfl) (fun k hI => ?_)
  obtain ⟨hk1, hI⟩ := hI
  repeat' ((first|refine aops_go ?_|refine awp_go ?_|refine guard_tt ?_|refine guard_ff ?_|refine guard_tf ?_|refine guard_ft ?_|refine cond_t ?_|refine cond_f ?_|refine Z1 ?_|refine Z2 ?_|refine stp ?_|(refine And.intro ?_ ?_<;>intro h<;>try first|(exfalso;omega)|exact absurd rfl h)|refine Z3 ?_|refine Z4 ?_|intro el hel hbB|intro el hel|intro ex|refine Z5 ?_|(refine free_i ?_ ?_;exact ⟨by kernel_rfl,by decide⟩)|refine allI_c ?_ ?_|exact allI_n|refine allMP_c ?_ ?_|exact allMP_n|(refine many_step ?_ ?_ ?_;kernel_rfl;kernel_rfl)) <;> (try (conv => whnf)))
  · refine loop_i (ι := Nat) (fun j => ⟨[(2, .i level), (3, .ref 0 0), (4, .ref 1 0), (8, .sl 1 (al.map wA)), (9, .i k), (10, .i j)], 3, [(0, some (.box (sL s))), (1, some (.box (cndY a)))]⟩) (fun j => j ≤ k ∧ PAt (atomS s a) (coaS s a.col level) al k j) (fun j => k - j) 0 ⟨Nat.zero_le _, hI⟩ (le_of h0 rfl ⟨rfl, rfl, rfl, rfl, rfl, rfl, trivial⟩ ⟨rfl, rfl, trivial⟩ rfl rfl rfl) (fun j hJ => ?_)
    obtain ⟨hj1, hJ⟩ := hJ
    repeat' ((first | refine call_i (hcoa _) ?_ | refine call_i (hat _) ?_ |refine aops_go ?_|refine awp_go ?_|refine guard_tt ?_|refine guard_ff ?_|refine guard_tf ?_|refine guard_ft ?_|refine cond_t ?_|refine cond_f ?_|refine Z1 ?_|refine Z2 ?_|refine stp ?_|(refine And.intro ?_ ?_<;>intro h<;>try first|(exfalso;omega)|exact absurd rfl h)|refine Z3 ?_|refine Z4 ?_|intro el hel hbB|intro el hel|intro ex|refine Z5 ?_|(refine free_i ?_ ?_;exact ⟨by kernel_rfl,by decide⟩)|refine allI_c ?_ ?_|exact allI_n|refine allMP_c ?_ ?_|exact allMP_n|(refine many_step ?_ ?_ ?_;kernel_rfl;kernel_rfl)) <;> (try (conv => whnf)))
    all_goals first
      | exact ret_tmp rfl (congrArg AV.b (PAt.hit (i := k) (k := j) (by assumption) (by assumption) (by assumption) (pair_bad (by assumption) (by assumption))).symm)
      | exact ⟨j + 1, ⟨by omega, hJ.step (by assumption) (by assumption) (pair_ok2 (by assumption))⟩, by omega, le_of h0 rfl ⟨rfl, rfl, rfl, rfl, rfl, rfl, trivial⟩ ⟨rfl, rfl, trivial⟩ rfl rfl rfl⟩
      | exact ⟨j + 1, ⟨by omega, hJ.step (by assumption) (by assumption) (pair_ok1 (Decidable.of_not_not (by assumption)))⟩, by omega, le_of h0 rfl ⟨rfl, rfl, rfl, rfl, rfl, rfl, trivial⟩ ⟨rfl, rfl, trivial⟩ rfl rfl rfl⟩
      | exact ⟨k + 1, ⟨by omega, hJ.next (by assumption)⟩, by omega, le_of h0 rfl ⟨rfl, rfl, rfl, rfl, rfl, trivial⟩ ⟨rfl, rfl, trivial⟩ rfl rfl rfl⟩
  all_goals first
    | exact ret_tmp rfl (congrArg AV.b (hI.done (by assumption)).symm)
set_option maxHeartbeats 8000000 in
theorem rdecm_call (s : Sch) (a : Cnd) (level : Int) (hr : schE s = 0) (ha : conE s a = 0) (ho : a.op = 3 ∨ a.op = 4) (h0l : 0 ≤ level) (h1l : level ≤ finS s a.col) : FCall Tryz.prog 153 [sA s, cndA a, .i level] (.b (sufS s a level)) := by
  obtain ⟨x, hx, c1, c2, _, q2, q3, q4⟩ := atom_col hr ha (.inr ho)
  obtain ⟨hk, hm, hf⟩ := q2 (by omega)
  rw [hf] at h1l
  have hp := meaE_parts hm
  have hwb : ¬ level = 0 → 1 ≤ widthS x level ∧ widthS x level ≤ 1000000 := fun h => widthS_bd hp.2.2.2.2.2 (by omega) h1l
  have hwd : ¬ level = 0 → FCall Tryz.prog 156 [colA x, .i level] (.i (widthS x level)) := fun h => rwidth_call x level (by omega) h1l
  rw [cndA_eq] at *
  by_cases h4 : a.op = 4
  · rw [sufS_mis h4]
    refine fcall_intro (n := 140) Tryz.func153 (by kernel_rfl) rfl rfl rfl rfl rfl (by intro t T h; cases h) (fun hrd E h0 => ?_)
    clear hrd
    repeat' ((first | (refine each_knownm (x := x) hx (by omega) ?_) |refine aops_go ?_|refine awp_go ?_|refine guard_tt ?_|refine guard_ff ?_|refine guard_tf ?_|refine guard_ft ?_|refine cond_t ?_|refine cond_f ?_|refine Z1 ?_|refine Z2 ?_|refine stp ?_|(refine And.intro ?_ ?_<;>intro h<;>try first|(exfalso;omega)|exact absurd rfl h)|refine Z3 ?_|refine Z4 ?_|intro el hel hbB|intro el hel|intro ex|refine Z5 ?_|(refine free_i ?_ ?_;exact ⟨by kernel_rfl,by decide⟩)|refine allI_c ?_ ?_|exact allI_n|refine allMP_c ?_ ?_|exact allMP_n|(refine many_step ?_ ?_ ?_;kernel_rfl;kernel_rfl)) <;> (try (conv => whnf)))
    all_goals first
      | exact ret_tmp rfl rfl
  have h3 : a.op = 3 := by omega
  have hr3 := q3 h3
  rw [sufS_mea h3 hx]
  refine fcall_intro (n := 140) Tryz.func153 (by kernel_rfl) rfl rfl rfl rfl rfl (by intro t T h; cases h) (fun hrd E h0 => ?_)
  clear hrd
  repeat' ((first | (refine each_knownm (x := x) hx (by omega) ?_) | refine call_i (hwd (by assumption)) ?_ | (refine side_i ?_ ?_; (have := hwb (by assumption); omega)) | (refine draw_q ?_ ?_; kernel_rfl) |refine aops_go ?_|refine awp_go ?_|refine guard_tt ?_|refine guard_ff ?_|refine guard_tf ?_|refine guard_ft ?_|refine cond_t ?_|refine cond_f ?_|refine Z1 ?_|refine Z2 ?_|refine stp ?_|(refine And.intro ?_ ?_<;>intro h<;>try first|(exfalso;omega)|exact absurd rfl h)|refine Z3 ?_|refine Z4 ?_|intro el hel hbB|intro el hel|intro ex|refine Z5 ?_|(refine free_i ?_ ?_;exact ⟨by kernel_rfl,by decide⟩)|refine allI_c ?_ ?_|exact allI_n|refine allMP_c ?_ ?_|exact allMP_n|(refine many_step ?_ ?_ ?_;kernel_rfl;kernel_rfl)) <;> (try (conv => whnf)))
  all_goals (refine ret_tmp rfl (congrArg AV.b (Bool.eq_iff_iff.2 ?_)); simp only [decide_eq_true_iff, Bool.not_eq_true', decide_eq_false_iff_not, true_iff, false_iff, Bool.false_eq_true, Bool.not_false, Bool.not_true]; unfold sufM)
  all_goals first
    | (rw [if_pos (by assumption : level = 0), (by assumption : x.opt = false)]; simp only [true_and]; omega)
    | (rw [if_pos (by assumption : level = 0), (by assumption : x.opt = true)]; simp; done)
    | (rw [if_neg (by assumption : ¬ level = 0)]; omega)
    | (clear h0; trace_state)
end Go.Proofs.YtepdcljecfibpaaGreatDoor

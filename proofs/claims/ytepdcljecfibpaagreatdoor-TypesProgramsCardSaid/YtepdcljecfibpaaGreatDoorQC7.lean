/- Chapter 5: the reference's truth values, conditions about one column, and covering picks. Chapter 5: the reference's covering picks. -/
import Derived.Test.YtepdcljecfibpaaGreatDoorQC1
import Derived.Test.YtepdcljecfibpaaGreatDoorQB6
import Derived.Test.YtepdcljecfibpaaGreatDoorQCe1
namespace Go.Proofs.YtepdcljecfibpaaGreatDoor
open Go Go.Av
attribute [local irreducible] AWp AOps AAny MAny DQ retQ retG St.le FCall GCall
set_option linter.unusedVariables false
set_option linter.unnecessarySimpa false
set_option linter.unusedSimpArgs false
set_option maxRecDepth 100000
set_option maxHeartbeats 4000000 in
theorem ratom_call (s : Sch) (c : Cnd) (v : Int) (ho : c.op = 2 ∨ c.op = 3 ∨ c.op = 4) (h2 : c.op = 2 → ∃ x lx, 0 ≤ c.col ∧ s.cols[c.col.toNat]? = some x ∧ 0 ≤ x.lst ∧ s.lists[x.lst.toNat]? = some lx) : FCall Tryz.prog 170 [sA s, cndA c, .i v] (.i (atomS s c v)) := by
  rw [cndA_eq]
  refine fcall_intro (n := 46) Tryz.func170 (by kernel_rfl) rfl rfl rfl rfl rfl (by intro t T h; cases h) (fun hrd E h0 => ?_)
  obtain ⟨hl1, hl2, hl3⟩ := rd_lists (s := s) (hrd _ (by simp))
  clear hrd
  unfold atomS
  by_cases hop : c.op = 2
  · obtain ⟨x, lx, g0, g1, g2, g3⟩ := h2 hop
    rw [if_pos hop, colAt_get g1, lstOf_get g3]
    have hun := runder_call lx.1 lx.2 v c.code (hl3 lx (List.mem_of_getElem? g3))
    repeat' ((first | (refine each_knownm (x := x) g1 (by omega) ?_) | (refine each_knownm (x := lx) g3 (by omega) ?_) | refine call_i hun ?_ | (refine draw_q ?_ ?_; kernel_rfl) |refine aops_go ?_|refine awp_go ?_|refine guard_tt ?_|refine guard_ff ?_|refine guard_tf ?_|refine guard_ft ?_|refine cond_t ?_|refine cond_f ?_|refine Z1 ?_|refine Z2 ?_|refine stp ?_|(refine And.intro ?_ ?_<;>intro h<;>try first|(exfalso;omega)|exact absurd rfl h)|refine Z3 ?_|refine Z4 ?_|intro el hel hbB|intro el hel|intro ex|refine Z5 ?_|(refine free_i ?_ ?_;exact ⟨by kernel_rfl,by decide⟩)|refine allI_c ?_ ?_|exact allI_n|refine allMP_c ?_ ?_|exact allMP_n|(refine many_step ?_ ?_ ?_;kernel_rfl;kernel_rfl)) <;> (try (conv => whnf)))
    all_goals first
      | exact ret_tmp rfl (congrArg AV.i (by rw [h]; rfl))
  · rw [if_neg hop]
    repeat' ((first | (refine draw_q ?_ ?_; kernel_rfl) |refine aops_go ?_|refine awp_go ?_|refine guard_tt ?_|refine guard_ff ?_|refine guard_tf ?_|refine guard_ft ?_|refine cond_t ?_|refine cond_f ?_|refine Z1 ?_|refine Z2 ?_|refine stp ?_|(refine And.intro ?_ ?_<;>intro h<;>try first|(exfalso;omega)|exact absurd rfl h)|refine Z3 ?_|refine Z4 ?_|intro el hel hbB|intro el hel|intro ex|refine Z5 ?_|(refine free_i ?_ ?_;exact ⟨by kernel_rfl,by decide⟩)|refine allI_c ?_ ?_|exact allI_n|refine allMP_c ?_ ?_|exact allMP_n|(refine many_step ?_ ?_ ?_;kernel_rfl;kernel_rfl)) <;> (try (conv => whnf)))
    all_goals first
      | (exfalso; rcases ho with ho | ho | ho <;> contradiction)
      | (rw [if_pos (by omega)]; refine ret_tmp rfl (congrArg AV.i ?_); unfold truS; first | (rw [decide_eq_true (by assumption)]; rfl) | (rw [decide_eq_false (by assumption)]; rfl))
      | (rw [if_neg (by omega), if_pos (by omega)]; exact ret_tmp rfl rfl)
      | (rw [if_neg (by omega), if_neg (by omega)]; refine ret_tmp rfl (congrArg AV.i ?_); unfold truS; first | (rw [decide_eq_true (by omega)]; rfl) | (rw [decide_eq_false (by omega)]; rfl))
set_option maxHeartbeats 4000000 in
theorem ratoms_call (c : Cnd) : totS c ≤ 100000 → FCall Tryz.prog 152 [cndA c] (.sl 6 ((atmS c).map cndX)) := by
  refine cnd_ind (p := fun c => totS c ≤ 100000 → FCall Tryz.prog 152 [cndA c] (.sl 6 ((atmS c).map cndX))) (fun c ih ht => ?_) c
  rw [totS_eq] at ht
  rw [cndA_eq, atmS_eq]
  refine fcall_intro (n := 36) Tryz.func152 (by kernel_rfl) rfl rfl rfl rfl rfl (by intro t T h; cases h) (fun hrd E h0 => ?_)
  have hlen : c.kids.length ≤ 9223372036854775807 := by
    have := ((hrd _ (List.mem_cons_self ..)).agg (.sl 6 (c.kids.map cndX)) (by simp)).sl
    simpa using this
  clear hrd
  repeat' ((first|refine aops_go ?_|refine awp_go ?_|refine guard_tt ?_|refine guard_ff ?_|refine guard_tf ?_|refine guard_ft ?_|refine cond_t ?_|refine cond_f ?_|refine Z1 ?_|refine Z2 ?_|refine stp ?_|(refine And.intro ?_ ?_<;>intro h<;>try first|(exfalso;omega)|exact absurd rfl h)|refine Z3 ?_|refine Z4 ?_|intro el hel hbB|intro el hel|intro ex|refine Z5 ?_|(refine free_i ?_ ?_;exact ⟨by kernel_rfl,by decide⟩)|refine allI_c ?_ ?_|exact allI_n|refine allMP_c ?_ ?_|exact allMP_n|(refine many_step ?_ ?_ ?_;kernel_rfl;kernel_rfl)) <;> (try (conv => whnf)))
  all_goals first
    | (rw [if_pos (by omega)]; refine ret_tmp rfl ?_; rw [List.map_cons, cndX, map_cnd]; rfl)
    | skip
  rw [if_neg (by omega)]
  refine loop_i (ι := Nat) (fun k => ⟨[(1, .ref 0 0), (3, .row 1 0 (atmL (c.kids.take k)).length), (4, .i k)], 2, [(0, some (.box (cndY c))), (1, some (.row 37 6 0 ((atmL (c.kids.take k)).map cndX)))]⟩) (fun k => k ≤ c.kids.length) (fun k => c.kids.length - k) 0 (Nat.zero_le _)
    (le_trans (le_adopt (d := 3) (e := 37) (sz := 6) rfl) (le_of h0 rfl ⟨rfl, rfl, rfl, trivial⟩ ⟨rfl, ⟨0, rfl⟩, trivial⟩ rfl rfl rfl)) (fun k hk => ?_)
  have hle := atmL_take_le c.kids k
  repeat' ((first | (refine call_i (ih _ (List.mem_of_getElem? (by assumption)) (by have := totL_mem el (List.mem_of_getElem? hel); omega)) ?_) | (refine side_i ?_ ?_; (have q1 := atm_tot el; have q2 := totL_mem el (List.mem_of_getElem? hel); simp only [List.length_map]; omega)) |refine aops_go ?_|refine awp_go ?_|refine guard_tt ?_|refine guard_ff ?_|refine guard_tf ?_|refine guard_ft ?_|refine cond_t ?_|refine cond_f ?_|refine Z1 ?_|refine Z2 ?_|refine stp ?_|(refine And.intro ?_ ?_<;>intro h<;>try first|(exfalso;omega)|exact absurd rfl h)|refine Z3 ?_|refine Z4 ?_|intro el hel hbB|intro el hel|intro ex|refine Z5 ?_|(refine free_i ?_ ?_;exact ⟨by kernel_rfl,by decide⟩)|refine allI_c ?_ ?_|exact allI_n|refine allMP_c ?_ ?_|exact allMP_n|(refine many_step ?_ ?_ ?_;kernel_rfl;kernel_rfl)) <;> (try (conv => whnf)))
  all_goals first
    | exact ⟨k + 1, by omega, by omega, le_of h0 rfl ⟨rfl, congrArg (fun z : Nat => some (AV.row 1 0 z)) (by rw [atmL_take _ _ hel, List.length_append, List.length_map]), rfl, trivial⟩ ⟨rfl, ⟨_, congrArg (Blk.row 37 6 _) (by rw [atmL_take _ _ hel, List.map_append])⟩, trivial⟩ rfl rfl rfl⟩
    | exact ret_tmp rfl (congrArg (fun z => AV.sl 6 ((atmL z).map cndX)) (take_end (by assumption)))
end Go.Proofs.YtepdcljecfibpaaGreatDoor
namespace Go.Proofs.YtepdcljecfibpaaGreatDoor
open Go Go.Av
attribute [local irreducible] AWp AOps AAny MAny DQ retQ retG St.le FCall GCall
set_option linter.unusedVariables false
set_option linter.unnecessarySimpa false
set_option linter.unusedSimpArgs false
set_option maxRecDepth 100000
set_option maxHeartbeats 4000000 in
theorem rcovers_call (a b : List Pk) : FCall Tryz.prog 45 [.sl 2 (a.map pkL), .sl 2 (b.map pkL)] (.b (covB b a)) := by
  refine fcall_intro (n := 49) Tryz.func45 (by kernel_rfl) rfl rfl rfl rfl rfl (by intro t T h; cases h) (fun hrd E h0 => ?_)
  have hla : a.length ≤ 9223372036854775807 := by
    have := (hrd (.sl 2 (a.map pkL)) (by simp)).sl
    simpa using this
  have hlb : b.length ≤ 9223372036854775807 := by
    have := (hrd (.sl 2 (b.map pkL)) (by simp)).sl
    simpa using this
  clear hrd
  repeat' ((first|refine aops_go ?_|refine awp_go ?_|refine guard_tt ?_|refine guard_ff ?_|refine guard_tf ?_|refine guard_ft ?_|refine cond_t ?_|refine cond_f ?_|refine Z1 ?_|refine Z2 ?_|refine stp ?_|(refine And.intro ?_ ?_<;>intro h<;>try first|(exfalso;omega)|exact absurd rfl h)|refine Z3 ?_|refine Z4 ?_|intro el hel hbB|intro el hel|intro ex|refine Z5 ?_|(refine free_i ?_ ?_;exact ⟨by kernel_rfl,by decide⟩)|refine allI_c ?_ ?_|exact allI_n|refine allMP_c ?_ ?_|exact allMP_n|(refine many_step ?_ ?_ ?_;kernel_rfl;kernel_rfl)) <;> (try (conv => whnf)))
  refine loop_i (ι := Nat) (fun i => ⟨[(0, .sl 2 (a.map pkL)), (1, .sl 2 (b.map pkL)), (5, .i i)], 0, []⟩) (fun i => AnyAt (fun n => !(b.any (covP n))) a i) (fun i => a.length - i) 0 (AnyAt.zero _ _)
    (le_of h0 rfl ⟨rfl, rfl, rfl, trivial⟩ trivial rfl rfl rfl) (fun i hI => ?_)
  have hi := hI.1
  repeat' ((first|refine aops_go ?_|refine awp_go ?_|refine guard_tt ?_|refine guard_ff ?_|refine guard_tf ?_|refine guard_ft ?_|refine cond_t ?_|refine cond_f ?_|refine Z1 ?_|refine Z2 ?_|refine stp ?_|(refine And.intro ?_ ?_<;>intro h<;>try first|(exfalso;omega)|exact absurd rfl h)|refine Z3 ?_|refine Z4 ?_|intro el hel hbB|intro el hel|intro ex|refine Z5 ?_|(refine free_i ?_ ?_;exact ⟨by kernel_rfl,by decide⟩)|refine allI_c ?_ ?_|exact allI_n|refine allMP_c ?_ ?_|exact allMP_n|(refine many_step ?_ ?_ ?_;kernel_rfl;kernel_rfl)) <;> (try (conv => whnf)))
  · obtain ⟨n, hn⟩ : ∃ n, a[i]? = some n := ⟨_, List.getElem?_eq_getElem (by omega)⟩
    refine loop_i (ι := Nat) (fun k => ⟨[(0, .sl 2 (a.map pkL)), (1, .sl 2 (b.map pkL)), (5, .i i), (6, .b ((b.take k).any (covP n))), (7, .i k)], 0, []⟩) (fun k => k ≤ b.length) (fun k => b.length - k) 0 (Nat.zero_le _)
      (le_of h0 rfl ⟨rfl, rfl, rfl, rfl, rfl, trivial⟩ trivial rfl rfl rfl) (fun k hk => ?_)
    have hst : ∀ p, b[k]? = some p → (b.take (k + 1)).any (covP n) = ((b.take k).any (covP n) || covP n p) := fun p hp => by rw [takec hp, List.any_append]; simp
    generalize hf : (b.take k).any (covP n) = f at *
    repeat' ((first | (refine each_knownm (x := n) hn (by omega) ?_) | (refine draw_q ?_ ?_; kernel_rfl) |refine aops_go ?_|refine awp_go ?_|refine guard_tt ?_|refine guard_ff ?_|refine guard_tf ?_|refine guard_ft ?_|refine cond_t ?_|refine cond_f ?_|refine Z1 ?_|refine Z2 ?_|refine stp ?_|(refine And.intro ?_ ?_<;>intro h<;>try first|(exfalso;omega)|exact absurd rfl h)|refine Z3 ?_|refine Z4 ?_|intro el hel hbB|intro el hel|intro ex|refine Z5 ?_|(refine free_i ?_ ?_;exact ⟨by kernel_rfl,by decide⟩)|refine allI_c ?_ ?_|exact allI_n|refine allMP_c ?_ ?_|exact allMP_n|(refine many_step ?_ ?_ ?_;kernel_rfl;kernel_rfl)) <;> (try (conv => whnf)))
    all_goals first
      | (have e : (b.take (k + 1)).any (covP n) = decide (el.lev ≥ n.lev) := by
           rw [hst _ hel, (by assumption : f = false), Bool.false_or]
           exact decide_eq_decide.2 (by omega)
         exact ⟨k + 1, by omega, by omega, le_of h0 rfl ⟨rfl, rfl, rfl, congrArg (fun z => some (AV.b z)) e.symm, rfl, trivial⟩ trivial rfl rfl rfl⟩)
      | (have e : (b.take (k + 1)).any (covP n) = false := by
           rw [hst _ hel, (by assumption : f = false), Bool.false_or]
           exact decide_eq_false (by omega)
         exact ⟨k + 1, by omega, by omega, le_of h0 rfl ⟨rfl, rfl, rfl, congrArg (fun z => some (AV.b z)) e.symm, rfl, trivial⟩ trivial rfl rfl rfl⟩)
      | (obtain ⟨p, hp⟩ : ∃ p, b[k]? = some p := ⟨_, List.getElem?_eq_getElem (by omega)⟩
         have e : (b.take (k + 1)).any (covP n) = true := by rw [hst p hp, (by assumption : f = true), Bool.true_or]
         exact ⟨k + 1, by omega, by omega, le_of h0 rfl ⟨rfl, rfl, rfl, congrArg (fun z => some (AV.b z)) e.symm, rfl, trivial⟩ trivial rfl rfl rfl⟩)
      | (have e : (!(b.any (covP n))) = true := by rw [← take_end (l := b) (k := k) (by assumption), hf, (by assumption : f = false)]; rfl
         have := hI.hit hn e
         exact ret_tmp rfl (congrArg AV.b (by unfold covB; rw [← this]; rfl)))
      | (have e : (!(b.any (covP n))) = false := by rw [← take_end (l := b) (k := k) (by assumption), hf, (by assumption : f = true)]; rfl
         exact ⟨i + 1, hI.step hn e, by omega, le_of h0 rfl ⟨rfl, rfl, rfl, trivial⟩ trivial rfl rfl rfl⟩)
  all_goals first
    | (have := hI.done (by assumption)
       exact ret_tmp rfl (congrArg AV.b (by unfold covB; rw [← this]; rfl)))
end Go.Proofs.YtepdcljecfibpaaGreatDoor

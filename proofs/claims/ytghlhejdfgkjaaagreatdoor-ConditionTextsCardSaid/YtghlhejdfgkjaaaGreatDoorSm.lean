/- Chapter 5: a condition is the same as itself. -/
import Derived.Test.YtghlhejdfgkjaaaGreatDoorCe3
namespace Go.Proofs.YtghlhejdfgkjaaaGreatDoor
open Go Go.Av
attribute [local irreducible] AWp AOps AAny MAny DQ retQ retG St.le FCall GCall
set_option linter.unusedVariables false
set_option linter.unnecessarySimpa false
set_option linter.unusedSimpArgs false
set_option maxRecDepth 100000

set_option maxHeartbeats 4000000 in
theorem same_self (c : Cnd) : FCall Tryz.prog 38 [cndA c, cndA c] (.b true) := by
  refine cnd_ind (p := fun c => FCall Tryz.prog 38 [cndA c, cndA c] (.b true)) (fun c ih => ?_) c
  rw [cndA_eq]
  refine fcall_intro (n := 67) Tryz.func38 (by kernel_rfl) rfl rfl rfl rfl rfl (by intro t T h; cases h) (fun hrd E h0 => ?_)
  have hlen : c.kids.length ≤ 9223372036854775807 := by
    have := ((hrd _ (List.mem_cons_self ..)).agg (.sl 6 (c.kids.map cndX)) (by simp)).sl
    simpa using this
  clear hrd
  repeat' ((first | (refine draw_q ?_ ?_; kernel_rfl) |refine aops_go ?_|refine awp_go ?_|refine guard_tt ?_|refine guard_ff ?_|refine guard_tf ?_|refine guard_ft ?_|refine cond_t ?_|refine cond_f ?_|refine Z1 ?_|refine Z2 ?_|refine stp ?_|(refine And.intro ?_ ?_<;>intro h<;>try first|(exfalso;omega)|exact absurd rfl h)|refine Z3 ?_|refine Z4 ?_|intro el hel hbB|intro el hel|intro ex|refine Z5 ?_|(refine free_i ?_ ?_;exact ⟨by kernel_rfl,by decide⟩)|refine allI_c ?_ ?_|exact allI_n|refine allMP_c ?_ ?_|exact allMP_n|(refine many_step ?_ ?_ ?_;kernel_rfl;kernel_rfl)) <;> (try (conv => whnf)))
  all_goals first
    | (exfalso; omega)
    | skip
  refine loop_i (ι := Nat) (fun k => ⟨[(2, .ref 0 0), (3, .ref 1 0), (5, .i k)], 2, [(0, some (.box (cndY c))), (1, some (.box (cndY c)))]⟩) (fun k => k ≤ c.kids.length) (fun k => c.kids.length - k) 0 (Nat.zero_le _)
    (le_of h0 rfl ⟨rfl, rfl, rfl, trivial⟩ ⟨rfl, rfl, trivial⟩ rfl rfl rfl) (fun k hk => ?_)
  repeat' ((first | (refine call_i (ih _ (List.mem_of_getElem? (by assumption))) ?_) | (refine draw_q ?_ ?_; kernel_rfl) |refine aops_go ?_|refine awp_go ?_|refine guard_tt ?_|refine guard_ff ?_|refine guard_tf ?_|refine guard_ft ?_|refine cond_t ?_|refine cond_f ?_|refine Z1 ?_|refine Z2 ?_|refine stp ?_|(refine And.intro ?_ ?_<;>intro h<;>try first|(exfalso;omega)|exact absurd rfl h)|refine Z3 ?_|refine Z4 ?_|intro el hel hbB|intro el hel|intro ex|refine Z5 ?_|(refine free_i ?_ ?_;exact ⟨by kernel_rfl,by decide⟩)|refine allI_c ?_ ?_|exact allI_n|refine allMP_c ?_ ?_|exact allMP_n|(refine many_step ?_ ?_ ?_;kernel_rfl;kernel_rfl)) <;> (try (conv => whnf)))
  all_goals first
    | exact ret_tmp rfl rfl
    | exact ⟨k + 1, by omega, by omega, le_of h0 rfl ⟨rfl, rfl, rfl, trivial⟩ ⟨rfl, rfl, trivial⟩ rfl rfl rfl⟩
    | (exfalso; omega)
    | trace_state
end Go.Proofs.YtghlhejdfgkjaaaGreatDoor

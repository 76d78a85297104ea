/- Chapter 5: the reference's check is the program's. -/
import Derived.Test.YtepdcljecfibpaaGreatDoorQCe2
import Derived.Test.YtepdcljecfibpaaGreatDoorQB9
namespace Go.Proofs.YtepdcljecfibpaaGreatDoor
open Go Go.Av
attribute [local irreducible] AWp AOps AAny MAny DQ retQ retG St.le FCall GCall
set_option linter.unusedVariables false
set_option linter.unnecessarySimpa false
set_option linter.unusedSimpArgs false
set_option maxRecDepth 100000
set_option maxHeartbeats 4000000 in
theorem rccheck_call (s : Sch) (c : Cnd) : FCall Tryz.prog 83 [sA s, cndA c] (.i (cndE s c)) := by
  have h1 := rscheck_call s
  have h2 := rccount_call c 41 (by omega) (by omega)
  have h3 : (totS c : Int) ≤ 40 → FCall Tryz.prog 124 [cndA c] (.i (depS c)) := fun h => rdepth_call c (by have := dep_tot c; omega)
  have h4 := fun hr => node_call s hr c
  have t1 := rcnt_tot c 41 (by omega)
  rw [cndA_eq] at *
  refine fcall_intro (n := 20) Tryz.func83 (by kernel_rfl) rfl rfl rfl rfl rfl (by intro t T h; cases h) (fun hrd E h0 => ?_)
  clear hrd
  unfold cndE
  repeat' ((first | refine call_i h1 ?_ | refine call_i h2 ?_ | refine call_i (h3 (by omega)) ?_ | refine call_i (h4 (Decidable.of_not_not (by assumption))) ?_ |refine aops_go ?_|refine awp_go ?_|refine guard_tt ?_|refine guard_ff ?_|refine guard_tf ?_|refine guard_ft ?_|refine cond_t ?_|refine cond_f ?_|refine Z1 ?_|refine Z2 ?_|refine stp ?_|(refine And.intro ?_ ?_<;>intro h<;>try first|(exfalso;omega)|exact absurd rfl h)|refine Z3 ?_|refine Z4 ?_|intro el hel hbB|intro el hel|intro ex|refine Z5 ?_|(refine free_i ?_ ?_;exact ⟨by kernel_rfl,by decide⟩)|refine allI_c ?_ ?_|exact allI_n|refine allMP_c ?_ ?_|exact allMP_n|(refine many_step ?_ ?_ ?_;kernel_rfl;kernel_rfl)) <;> (try (conv => whnf)))
  all_goals first
    | exact ret_tmp rfl (congrArg AV.i (by rw [if_neg (by assumption)]))
    | exact ret_tmp rfl (congrArg AV.i (by rw [if_pos (Decidable.of_not_not (by assumption)), if_pos (by omega)]))
    | exact ret_tmp rfl (congrArg AV.i (by rw [if_pos (Decidable.of_not_not (by assumption)), if_neg (by omega), if_pos (by omega)]))
    | exact ret_tmp rfl (congrArg AV.i (by rw [if_pos (Decidable.of_not_not (by assumption)), if_neg (by omega), if_neg (by omega)]))
end Go.Proofs.YtepdcljecfibpaaGreatDoor

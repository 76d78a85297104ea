/- Chapter 16: the texts of programs: conditions, signs, words, names. -/
import Derived.Test.YtjmbhlgocikfiaaGreatDoorQXl
import Derived.Test.YtjmbhlgocikfiaaGreatDoorQSk
import Derived.Test.YtjmbhlgocikfiaaGreatDoorQSg
namespace Go.Proofs.YtjmbhlgocikfiaaGreatDoor
open Go Go.Av
attribute [local irreducible] AWp AOps AAny MAny DQ retQ retG St.le FCall GCall
set_option linter.unusedVariables false
set_option linter.unnecessarySimpa false
set_option linter.unusedSimpArgs false
set_option maxRecDepth 100000
theorem cond16_call (s : Sch) (c : Cnd) (h : cndE s c = 0) : FCall Tryz.prog 75 [sA s, cndA c] (.str (txtS s c)) := by
  have h1 := cprint_call s c
  have e : priS s c = (txtS s c, 0) := by unfold priS; rw [if_pos h]
  rw [e] at h1
  refine fci Tryz.func75 14 fun hrd E h0 => ?_
  clear hrd
  repeat' ((first | refine call_i h1 ?_ |refine aops_go ?_|refine S1 ?_|refine Z1 ?_|refine Z2 ?_|(refine And.intro ?_ ?_<;>intro h<;>try first|(exfalso;omega)|exact absurd rfl h)|refine Z3 ?_|refine Z4 ?_|intro el hel hbB|intro el hel|intro ex|refine Z5 ?_|(refine free_i ?_ ?_;exact ⟨by kernel_rfl,by decide⟩)|refine allI_c ?_ ?_|exact allI_n|refine allMP_c ?_ ?_|exact allMP_n|(refine many_step ?_ ?_ ?_;kernel_rfl;kernel_rfl)) <;> (try (conv => whnf)))
  all_goals first
    | exact ret_tmp rfl rfl
set_option maxHeartbeats 4000000 in
theorem word16_call (o : Int) : FCall Tryz.prog 76 [.i o] (.str (wrdX o)) := by
  unfold wrdX
  refine fci Tryz.func76 18 fun hrd E h0 => ?_
  clear hrd
  repeat' ((first|refine aops_go ?_|refine S1 ?_|refine Z1 ?_|refine Z2 ?_|(refine And.intro ?_ ?_<;>intro h<;>try first|(exfalso;omega)|exact absurd rfl h)|refine Z3 ?_|refine Z4 ?_|intro el hel hbB|intro el hel|intro ex|refine Z5 ?_|(refine free_i ?_ ?_;exact ⟨by kernel_rfl,by decide⟩)|refine allI_c ?_ ?_|exact allI_n|refine allMP_c ?_ ?_|exact allMP_n|(refine many_step ?_ ?_ ?_;kernel_rfl;kernel_rfl)) <;> (try (conv => whnf)))
  all_goals first
    | (subst_vars; exact ret_tmp rfl rfl)
    | (rw [if_neg (by omega), if_neg (by omega), if_neg (by omega), if_neg (by omega), if_neg (by omega), if_neg (by omega), if_neg (by omega)]; exact ret_tmp rfl rfl)
set_option maxHeartbeats 4000000 in
theorem name16_call (s : Sch) (c : Int) (h : c < s.cols.length) : FCall Tryz.prog 73 [.i c, .iptr (sL s)] (.str (nmD s c)) := by
  unfold nmD colNm
  by_cases h0 : c < 0
  · rw [if_pos h0]
    refine fci Tryz.func73 12 fun hrd E h0 => ?_
    clear hrd
    repeat' ((first|refine aops_go ?_|refine S1 ?_|refine Z1 ?_|refine Z2 ?_|(refine And.intro ?_ ?_<;>intro h<;>try first|(exfalso;omega)|exact absurd rfl h)|refine Z3 ?_|refine Z4 ?_|intro el hel hbB|intro el hel|intro ex|refine Z5 ?_|(refine free_i ?_ ?_;exact ⟨by kernel_rfl,by decide⟩)|refine allI_c ?_ ?_|exact allI_n|refine allMP_c ?_ ?_|exact allMP_n|(refine many_step ?_ ?_ ?_;kernel_rfl;kernel_rfl)) <;> (try (conv => whnf)))
    all_goals first
      | exact ret_tmp rfl rfl
      | (exfalso; omega)
  · rw [if_neg h0]
    obtain ⟨x, hx⟩ : ∃ x, s.cols[c.toNat]? = some x := ⟨_, List.getElem?_eq_getElem (by omega)⟩
    rw [colAt_get hx]
    refine fci Tryz.func73 12 fun hrd E h0 => ?_
    clear hrd
    repeat' ((first | (refine each_knownm (x := x) hx (by omega) ?_) | (refine draw_q ?_ ?_; kernel_rfl) |refine aops_go ?_|refine S1 ?_|refine Z1 ?_|refine Z2 ?_|(refine And.intro ?_ ?_<;>intro h<;>try first|(exfalso;omega)|exact absurd rfl h)|refine Z3 ?_|refine Z4 ?_|intro el hel hbB|intro el hel|intro ex|refine Z5 ?_|(refine free_i ?_ ?_;exact ⟨by kernel_rfl,by decide⟩)|refine allI_c ?_ ?_|exact allI_n|refine allMP_c ?_ ?_|exact allMP_n|(refine many_step ?_ ?_ ?_;kernel_rfl;kernel_rfl)) <;> (try (conv => whnf)))
    all_goals first
      | exact ret_tmp rfl rfl
      | (exfalso; omega)
end Go.Proofs.YtjmbhlgocikfiaaGreatDoor

/- Chapter 5: the program's check of a condition. -/
import Derived.Test.YtghlhejdfgkjaaaGreatDoorCd1
namespace Go.Proofs.YtghlhejdfgkjaaaGreatDoor
open Go Go.Av
attribute [local irreducible] AWp AOps AAny MAny DQ retQ retG St.le FCall GCall
set_option linter.unusedVariables false
set_option linter.unnecessarySimpa false
set_option linter.unusedSimpArgs false
set_option maxRecDepth 100000

/-- The first error of one condition, its kids aside. -/
def conE (s : Sch) (c : Cnd) : Int :=
  if c.op < 1 ∨ 7 < c.op then 4 else if (c.kids.length : Int) ≠ kidN c.op ∨ ¬ (¬ (c.op ≠ 2 ∧ c.op ≠ 3 ∧ c.op ≠ 4 ∧ c.col ≠ 0) ∧ ¬ (c.op ≠ 2 ∧ c.code ≠ 0) ∧ (c.op = 3 ∨ c.lo = 0 ∧ c.hi = 0)) then 11 else if c.op ≠ 2 ∧ c.op ≠ 3 ∧ c.op ≠ 4 then 0 else
  if c.col < 0 ∨ (s.cols.length : Int) ≤ c.col then 7 else
  if c.op = 2 then (if (colAt s c.col).kind ≠ 2 then 7 else if c.code < 0 ∨ ((lstOf s (colAt s c.col)).2.length : Int) ≤ c.code then 6 else 0)
  else if c.op = 3 then (if (colAt s c.col).kind ≠ 3 then 7 else if c.hi < c.lo ∨ c.lo < -1000000 ∨ 1000000 < c.hi then 2 else 0)
  else (if (colAt s c.col).kind ≠ 3 ∨ (colAt s c.col).opt = false then 7 else 0)
set_option maxHeartbeats 4000000 in
theorem checkOne_call (s : Sch) (c : Cnd) (hr : schE s = 0) : FCall Tryz.prog 108 [sA s, cndA c] (.i (conE s c)) := by
  have hk := ckids_call c.op
  have hu := cunused_call c
  rw [cndA_eq]
  refine fcall_intro (n := 113) Tryz.func108 (by kernel_rfl) rfl rfl rfl rfl rfl (by intro t T h; cases h) (fun hrd E h0 => ?_)
  have hlen : c.kids.length ≤ 9223372036854775807 := by
    have := ((hrd _ (List.mem_cons_of_mem _ (List.mem_cons_self ..))).agg (.sl 6 (c.kids.map cndX)) (by simp)).sl
    simpa using this
  clear hrd
  rw [cndA_eq] at hu
  have hlst : ∀ x, s.cols[c.col.toNat]? = some x → x.kind = 2 → 0 ≤ x.lst ∧ x.lst < s.lists.length := fun x hx h2 => by
    have := RightS.lst hr (List.mem_of_getElem? hx) h2
    omega
  repeat' ((first | refine call_i hk ?_ | refine call_i hu ?_ | (refine each_map ?_ ?_ (fun lx hlx => ?_); (have := hlst _ (by assumption) (by omega); omega); (have := hlst _ (by assumption) (by omega); omega)) | (refine draw_q ?_ ?_; kernel_rfl) |refine aops_go ?_|refine awp_go ?_|refine guard_tt ?_|refine guard_ff ?_|refine guard_tf ?_|refine guard_ft ?_|refine cond_t ?_|refine cond_f ?_|refine Z1 ?_|refine Z2 ?_|refine stp ?_|(refine And.intro ?_ ?_<;>intro h<;>try first|(exfalso;omega)|exact absurd rfl h)|refine Z3 ?_|refine Z4 ?_|intro el hel hbB|intro el hel|intro ex|refine Z5 ?_|(refine free_i ?_ ?_;exact ⟨by kernel_rfl,by decide⟩)|refine allI_c ?_ ?_|exact allI_n|refine allMP_c ?_ ?_|exact allMP_n|(refine many_step ?_ ?_ ?_;kernel_rfl;kernel_rfl)) <;> (try (conv => whnf)))
  all_goals first
    | (refine ret_tmp rfl (congrArg AV.i ?_); unfold conE; (repeat' split) <;> omega)
    | (refine ret_tmp rfl (congrArg AV.i ?_); unfold conE; rw [colAt_get hel]; (repeat' split) <;> omega)
    | (refine ret_tmp rfl (congrArg AV.i ?_); unfold conE; rw [colAt_get hel, lstOf_get hlx]; (repeat' split) <;> omega)
    | (refine ret_tmp rfl (congrArg AV.i ?_); unfold conE; rw [colAt_get hel]; (repeat' split) <;> first | rfl | (exfalso; omega) | (exfalso; simp_all; done))
    | trace_state
end Go.Proofs.YtghlhejdfgkjaaaGreatDoor

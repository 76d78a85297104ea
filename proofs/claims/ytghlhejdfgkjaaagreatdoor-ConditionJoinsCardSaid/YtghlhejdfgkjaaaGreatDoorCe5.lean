/- Chapter 5: the reference's covering picks. -/
import Derived.Test.YtghlhejdfgkjaaaGreatDoorCd5
namespace Go.Proofs.YtghlhejdfgkjaaaGreatDoor
open Go Go.Av
attribute [local irreducible] AWp AOps AAny MAny DQ retQ retG St.le FCall GCall
set_option linter.unusedVariables false
set_option linter.unnecessarySimpa false
set_option linter.unusedSimpArgs false
set_option maxRecDepth 100000

set_option maxHeartbeats 4000000 in
theorem rcovers_call (a b : List Pk) : FCall Tryz.prog 44 [.sl 2 (a.map pkL), .sl 2 (b.map pkL)] (.b (covB b a)) := by
  refine fcall_intro (n := 49) Tryz.func44 (by kernel_rfl) rfl rfl rfl rfl rfl (by intro t T h; cases h) (fun hrd E h0 => ?_)
  have hla : a.length ≤ 9223372036854775807 := by
    have := (hrd (.sl 2 (a.map pkL)) (by simp)).sl
    simpa using this
  have hlb : b.length ≤ 9223372036854775807 := by
    have := (hrd (.sl 2 (b.map pkL)) (by simp)).sl
    simpa using this
  clear hrd
  repeat' ((first|refine aops_go ?_|refine awp_go ?_|refine guard_tt ?_|refine guard_ff ?_|refine guard_tf ?_|refine guard_ft ?_|refine cond_t ?_|refine cond_f ?_|refine Z1 ?_|refine Z2 ?_|refine stp ?_|(refine And.intro ?_ ?_<;>intro h<;>try first|(exfalso;omega)|exact absurd rfl h)|refine Z3 ?_|refine Z4 ?_|intro el hel hbB|intro el hel|intro ex|refine Z5 ?_|(refine free_i ?_ ?_;exact ⟨by kernel_rfl,by decide⟩)|refine allI_c ?_ ?_|exact allI_n|refine allMP_c ?_ ?_|exact allMP_n|(refine many_step ?_ ?_ ?_;kernel_rfl;kernel_rfl)) <;> (try (conv => whnf)))
  refine loop_i (ι := Nat) (fun i => ⟨[(0, .sl 2 (a.map pkL)), (1, .sl 2 (b.map pkL)), (5, .i i)], 0, []⟩) (fun i => AnyAt (fun n => !(b.any (covP n))) a i) (fun i => a.length - i) 0 (AnyAt.zero _ _)
    (le_of h0 rfl ⟨rfl, rfl, rfl, trivial⟩ trivial rfl rfl rfl) (fun i hI => ?_)
  have hi := hI.1
  repeat' ((first|refine aops_go ?_|refine awp_go ?_|refine guard_tt ?_|refine guard_ff ?_|refine guard_tf ?_|refine guard_ft ?_|refine cond_t ?_|refine cond_f ?_|refine Z1 ?_|refine Z2 ?_|refine stp ?_|(refine And.intro ?_ ?_<;>intro h<;>try first|(exfalso;omega)|exact absurd rfl h)|refine Z3 ?_|refine Z4 ?_|intro el hel hbB|intro el hel|intro ex|refine Z5 ?_|(refine free_i ?_ ?_;exact ⟨by kernel_rfl,by decide⟩)|refine allI_c ?_ ?_|exact allI_n|refine allMP_c ?_ ?_|exact allMP_n|(refine many_step ?_ ?_ ?_;kernel_rfl;kernel_rfl)) <;> (try (conv => whnf)))
  · obtain ⟨n, hn⟩ : ∃ n, a[i]? = some n := ⟨_, List.getElem?_eq_getElem (by omega)⟩
    refine loop_i (ι := Nat) (fun k => ⟨[(0, .sl 2 (a.map pkL)), (1, .sl 2 (b.map pkL)), (5, .i i), (6, .b ((b.take k).any (covP n))), (7, .i k)], 0, []⟩) (fun k => k ≤ b.length) (fun k => b.length - k) 0 (Nat.zero_le _)
      (le_of h0 rfl ⟨rfl, rfl, rfl, rfl, rfl, trivial⟩ trivial rfl rfl rfl) (fun k hk => ?_)
    have hst : ∀ p, b[k]? = some p → (b.take (k + 1)).any (covP n) = ((b.take k).any (covP n) || covP n p) := fun p hp => by rw [takec hp, List.any_append]; simp
    generalize hf : (b.take k).any (covP n) = f at *
    repeat' ((first | (refine each_knownm (x := n) hn (by omega) ?_) | (refine draw_q ?_ ?_; kernel_rfl) |refine aops_go ?_|refine awp_go ?_|refine guard_tt ?_|refine guard_ff ?_|refine guard_tf ?_|refine guard_ft ?_|refine cond_t ?_|refine cond_f ?_|refine Z1 ?_|refine Z2 ?_|refine stp ?_|(refine And.intro ?_ ?_<;>intro h<;>try first|(exfalso;omega)|exact absurd rfl h)|refine Z3 ?_|refine Z4 ?_|intro el hel hbB|intro el hel|intro ex|refine Z5 ?_|(refine free_i ?_ ?_;exact ⟨by kernel_rfl,by decide⟩)|refine allI_c ?_ ?_|exact allI_n|refine allMP_c ?_ ?_|exact allMP_n|(refine many_step ?_ ?_ ?_;kernel_rfl;kernel_rfl)) <;> (try (conv => whnf)))
    all_goals first
      | (have e : (b.take (k + 1)).any (covP n) = decide (el.lev ≥ n.lev) := by
           rw [hst _ hel, (by assumption : f = false), Bool.false_or]
           exact decide_eq_decide.2 (by omega)
         exact ⟨k + 1, by omega, by omega, le_of h0 rfl ⟨rfl, rfl, rfl, congrArg (fun z => some (AV.b z)) e.symm, rfl, trivial⟩ trivial rfl rfl rfl⟩)
      | (have e : (b.take (k + 1)).any (covP n) = false := by
           rw [hst _ hel, (by assumption : f = false), Bool.false_or]
           exact decide_eq_false (by omega)
         exact ⟨k + 1, by omega, by omega, le_of h0 rfl ⟨rfl, rfl, rfl, congrArg (fun z => some (AV.b z)) e.symm, rfl, trivial⟩ trivial rfl rfl rfl⟩)
      | (obtain ⟨p, hp⟩ : ∃ p, b[k]? = some p := ⟨_, List.getElem?_eq_getElem (by omega)⟩
         have e : (b.take (k + 1)).any (covP n) = true := by rw [hst p hp, (by assumption : f = true), Bool.true_or]
         exact ⟨k + 1, by omega, by omega, le_of h0 rfl ⟨rfl, rfl, rfl, congrArg (fun z => some (AV.b z)) e.symm, rfl, trivial⟩ trivial rfl rfl rfl⟩)
      | (have e : (!(b.any (covP n))) = true := by rw [← take_end (l := b) (k := k) (by assumption), hf, (by assumption : f = false)]; rfl
         have := hI.hit hn e
         exact ret_tmp rfl (congrArg AV.b (by unfold covB; rw [← this]; rfl)))
      | (have e : (!(b.any (covP n))) = false := by rw [← take_end (l := b) (k := k) (by assumption), hf, (by assumption : f = true)]; rfl
         exact ⟨i + 1, hI.step hn e, by omega, le_of h0 rfl ⟨rfl, rfl, rfl, trivial⟩ trivial rfl rfl rfl⟩)
      | trace_state
  all_goals first
    | (have := hI.done (by assumption)
       exact ret_tmp rfl (congrArg AV.b (by unfold covB; rw [← this]; rfl)))
    | trace_state
end Go.Proofs.YtghlhejdfgkjaaaGreatDoor

/- Chapter 5: which picks cover others. -/
import Derived.Test.YtghlhejdfgkjaaaGreatDoorCd4
namespace Go.Proofs.YtghlhejdfgkjaaaGreatDoor
open Go Go.Av
attribute [local irreducible] AWp AOps AAny MAny DQ retQ retG St.le FCall GCall
set_option linter.unusedVariables false
set_option linter.unnecessarySimpa false
set_option linter.unusedSimpArgs false
set_option maxRecDepth 100000

abbrev covP (n p : Pk) : Bool := decide (p.col = n.col ∧ n.lev ≤ p.lev)
def covB (l needs : List Pk) : Bool := !(needs.any fun n => !(l.any (covP n)))
set_option maxHeartbeats 2000000 in
theorem pk_idx (l : List (Pk)) (f : Nat) (caps : List AV) (p : (Pk) → Bool) (hf : ∀ x ∈ l, FCall Tryz.prog f ((fun x => .agg (pkL x)) x :: caps) (.b (p x))) : FCall Tryz.prog 174 [.sl 2 (l.map pkL), .fn f caps] (.i (idxP p l 0)) := by
  refine fcall_intro (n := 19) Tryz.func174 (by kernel_rfl) rfl rfl rfl rfl rfl (by intro t T h; cases h) (fun hrd E h0 => ?_)
  have hlen : l.length ≤ 9223372036854775807 := by have := (hrd (.sl 2 (l.map pkL)) (by simp)).sl; simpa using this
  repeat' ((first|refine aops_go ?_|refine awp_go ?_|refine guard_tt ?_|refine guard_ff ?_|refine guard_tf ?_|refine guard_ft ?_|refine cond_t ?_|refine cond_f ?_|refine Z1 ?_|refine Z2 ?_|refine stp ?_|(refine And.intro ?_ ?_<;>intro h<;>try first|(exfalso;omega)|exact absurd rfl h)|refine Z3 ?_|refine Z4 ?_|intro el hel hbB|intro el hel|intro ex|refine Z5 ?_|(refine free_i ?_ ?_;exact ⟨by kernel_rfl,by decide⟩)|refine allI_c ?_ ?_|exact allI_n|refine allMP_c ?_ ?_|exact allMP_n|(refine many_step ?_ ?_ ?_;kernel_rfl;kernel_rfl)) <;> (try (conv => whnf)))
  refine loop_i (ι := Nat) (fun k => ⟨[(0, .sl 2 (l.map pkL)), (1, .fn f caps), (7, .i l.length), (8, .i k)], 0, []⟩) (fun k => k ≤ l.length ∧ idxP p l 0 = idxP p (l.drop k) k) (fun k => l.length - k) 0 ⟨Nat.zero_le _, rfl⟩ (le_of h0 rfl ⟨rfl, rfl, rfl, rfl, trivial⟩ trivial rfl rfl rfl) (fun k hI => ?_)
  obtain ⟨hk, hI⟩ := hI
  repeat' ((first | refine call_i (hf _ (List.mem_of_getElem? hel)) ?_ |refine aops_go ?_|refine awp_go ?_|refine guard_tt ?_|refine guard_ff ?_|refine guard_tf ?_|refine guard_ft ?_|refine cond_t ?_|refine cond_f ?_|refine Z1 ?_|refine Z2 ?_|refine stp ?_|(refine And.intro ?_ ?_<;>intro h<;>try first|(exfalso;omega)|exact absurd rfl h)|refine Z3 ?_|refine Z4 ?_|intro el hel hbB|intro el hel|intro ex|refine Z5 ?_|(refine free_i ?_ ?_;exact ⟨by kernel_rfl,by decide⟩)|refine allI_c ?_ ?_|exact allI_n|refine allMP_c ?_ ?_|exact allMP_n|(refine many_step ?_ ?_ ?_;kernel_rfl;kernel_rfl)) <;> (try (conv => whnf)))
  all_goals first
    | exact ⟨k + 1, ⟨by omega, by rw [hI, dropc hel, idxP, if_neg (by simp [h])]; rfl⟩, by omega, le_of h0 rfl ⟨rfl, rfl, rfl, rfl, trivial⟩ trivial rfl rfl rfl⟩
    | exact ret_tmp rfl (congrArg AV.i (by rw [hI, dropc hel, idxP, if_pos (by simp [h])]))
    | exact ret_tmp rfl (congrArg AV.i (by rw [hI, show k = l.length by omega, List.drop_length]; rfl))
    | trace_state
set_option maxHeartbeats 2000000 in
theorem pk_any (l : List (Pk)) (f : Nat) (caps : List AV) (p : (Pk) → Bool) (hf : ∀ x ∈ l, FCall Tryz.prog f ((fun x => .agg (pkL x)) x :: caps) (.b (p x))) : FCall Tryz.prog 129 [.sl 2 (l.map pkL), .fn f caps] (.b (l.any p)) := by
  refine fcall_intro (n := 9) Tryz.func129 (by kernel_rfl) rfl rfl rfl rfl rfl (by intro t T h; cases h) (fun hrd E h0 => ?_)
  have hidx := pk_idx l f caps p hf
  repeat' ((first | refine call_i hidx ?_ |refine aops_go ?_|refine awp_go ?_|refine guard_tt ?_|refine guard_ff ?_|refine guard_tf ?_|refine guard_ft ?_|refine cond_t ?_|refine cond_f ?_|refine Z1 ?_|refine Z2 ?_|refine stp ?_|(refine And.intro ?_ ?_<;>intro h<;>try first|(exfalso;omega)|exact absurd rfl h)|refine Z3 ?_|refine Z4 ?_|intro el hel hbB|intro el hel|intro ex|refine Z5 ?_|(refine free_i ?_ ?_;exact ⟨by kernel_rfl,by decide⟩)|refine allI_c ?_ ?_|exact allI_n|refine allMP_c ?_ ?_|exact allMP_n|(refine many_step ?_ ?_ ?_;kernel_rfl;kernel_rfl)) <;> (try (conv => whnf)))
  all_goals first
    | exact ret_tmp rfl (congrArg AV.b (idxP_any p l 0 (by omega)))
    | trace_state

set_option maxHeartbeats 4000000 in
theorem cov11_call (n p : Pk) : FCall Tryz.prog 131 [pkA p, .iptr (pkL n)] (.b (covP n p)) := by
  refine fcall_intro (n := 16) Tryz.func131 (by kernel_rfl) rfl rfl rfl rfl rfl (by intro t T h; cases h) (fun hrd E h0 => ?_)
  clear hrd
  repeat' ((first|refine aops_go ?_|refine awp_go ?_|refine guard_tt ?_|refine guard_ff ?_|refine guard_tf ?_|refine guard_ft ?_|refine cond_t ?_|refine cond_f ?_|refine Z1 ?_|refine Z2 ?_|refine stp ?_|(refine And.intro ?_ ?_<;>intro h<;>try first|(exfalso;omega)|exact absurd rfl h)|refine Z3 ?_|refine Z4 ?_|intro el hel hbB|intro el hel|intro ex|refine Z5 ?_|(refine free_i ?_ ?_;exact ⟨by kernel_rfl,by decide⟩)|refine allI_c ?_ ?_|exact allI_n|refine allMP_c ?_ ?_|exact allMP_n|(refine many_step ?_ ?_ ?_;kernel_rfl;kernel_rfl)) <;> (try (conv => whnf)))
  all_goals first
    | exact ret_tmp rfl (congrArg AV.b (by unfold covP; rw [decide_eq_decide]; omega))
    | exact ret_tmp rfl (congrArg AV.b (by unfold covP; rw [decide_eq_false (by omega)]))
    | trace_state
set_option maxHeartbeats 4000000 in
theorem cov1_call (n : Pk) (l : List Pk) : FCall Tryz.prog 130 [pkA n, .iptr [.sl 2 (l.map pkL)]] (.b (!(l.any (covP n)))) := by
  have hany := pk_any l 131 [.iptr (pkL n)] (covP n) (fun x _ => cov11_call n x)
  refine fcall_intro (n := 8) Tryz.func130 (by kernel_rfl) rfl rfl rfl rfl rfl (by intro t T h; cases h) (fun hrd E h0 => ?_)
  clear hrd
  repeat' ((first | refine ncall_frz 0 ?_ | refine call_i hany ?_ |refine aops_go ?_|refine awp_go ?_|refine guard_tt ?_|refine guard_ff ?_|refine guard_tf ?_|refine guard_ft ?_|refine cond_t ?_|refine cond_f ?_|refine Z1 ?_|refine Z2 ?_|refine stp ?_|(refine And.intro ?_ ?_<;>intro h<;>try first|(exfalso;omega)|exact absurd rfl h)|refine Z3 ?_|refine Z4 ?_|intro el hel hbB|intro el hel|intro ex|refine Z5 ?_|(refine free_i ?_ ?_;exact ⟨by kernel_rfl,by decide⟩)|refine allI_c ?_ ?_|exact allI_n|refine allMP_c ?_ ?_|exact allMP_n|(refine many_step ?_ ?_ ?_;kernel_rfl;kernel_rfl)) <;> (try (conv => whnf)))
  all_goals exact ret_tmp rfl rfl
set_option maxHeartbeats 4000000 in
theorem covers_call (l needs : List Pk) : FCall Tryz.prog 83 [.sl 2 (l.map pkL), .sl 2 (needs.map pkL)] (.b (covB l needs)) := by
  have hany := pk_any needs 130 [.iptr [.sl 2 (l.map pkL)]] (fun n => !(l.any (covP n))) (fun x _ => cov1_call x l)
  refine fcall_intro (n := 9) Tryz.func83 (by kernel_rfl) rfl rfl rfl rfl rfl (by intro t T h; cases h) (fun hrd E h0 => ?_)
  clear hrd
  repeat' ((first | refine ncall_frz 0 ?_ | refine call_i hany ?_ |refine aops_go ?_|refine awp_go ?_|refine guard_tt ?_|refine guard_ff ?_|refine guard_tf ?_|refine guard_ft ?_|refine cond_t ?_|refine cond_f ?_|refine Z1 ?_|refine Z2 ?_|refine stp ?_|(refine And.intro ?_ ?_<;>intro h<;>try first|(exfalso;omega)|exact absurd rfl h)|refine Z3 ?_|refine Z4 ?_|intro el hel hbB|intro el hel|intro ex|refine Z5 ?_|(refine free_i ?_ ?_;exact ⟨by kernel_rfl,by decide⟩)|refine allI_c ?_ ?_|exact allI_n|refine allMP_c ?_ ?_|exact allMP_n|(refine many_step ?_ ?_ ?_;kernel_rfl;kernel_rfl)) <;> (try (conv => whnf)))
  all_goals exact ret_tmp rfl rfl
end Go.Proofs.YtghlhejdfgkjaaaGreatDoor

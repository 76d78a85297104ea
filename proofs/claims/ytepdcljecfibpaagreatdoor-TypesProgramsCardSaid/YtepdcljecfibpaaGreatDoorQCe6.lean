/- Chapter 5: picks raised to a level. -/
import Derived.Test.YtepdcljecfibpaaGreatDoorQC3
namespace Go.Proofs.YtepdcljecfibpaaGreatDoor
open Go Go.Av
attribute [local irreducible] AWp AOps AAny MAny DQ retQ retG St.le FCall GCall
set_option linter.unusedVariables false
set_option linter.unnecessarySimpa false
set_option linter.unusedSimpArgs false
set_option maxRecDepth 100000
set_option maxHeartbeats 4000000 in
theorem raise_call (l : List Pk) (col lev : Int) (hl : l.length ≤ 1000) : FCall Tryz.prog 87 [.sl 2 (l.map pkL), .i col, .i lev] (.sl 2 ((raiseS l col lev).map pkL)) := by
  refine fcall_intro (n := 59) Tryz.func87 (by kernel_rfl) rfl rfl rfl rfl rfl (by intro t T h; cases h) (fun hrd E h0 => ?_)
  clear hrd
  unfold raiseS
  repeat' ((first|refine aops_go ?_|refine awp_go ?_|refine guard_tt ?_|refine guard_ff ?_|refine guard_tf ?_|refine guard_ft ?_|refine cond_t ?_|refine cond_f ?_|refine Z1 ?_|refine Z2 ?_|refine stp ?_|(refine And.intro ?_ ?_<;>intro h<;>try first|(exfalso;omega)|exact absurd rfl h)|refine Z3 ?_|refine Z4 ?_|intro el hel hbB|intro el hel|intro ex|refine Z5 ?_|(refine free_i ?_ ?_;exact ⟨by kernel_rfl,by decide⟩)|refine allI_c ?_ ?_|exact allI_n|refine allMP_c ?_ ?_|exact allMP_n|(refine many_step ?_ ?_ ?_;kernel_rfl;kernel_rfl)) <;> (try (conv => whnf)))
  refine loop_i (ι := Nat × Bool × List Pk) (fun x => ⟨[(0, .sl 2 (l.map pkL)), (1, .i col), (2, .i lev), (7, .row 0 0 x.2.2.length), (8, .b x.2.1), (9, .i x.1)], 1, [(0, some (.row pkT 2 0 (x.2.2.map pkL)))]⟩)
    (fun x => x.1 ≤ l.length ∧ x.2.2.length ≤ 2 * x.1 ∧ raiseG col lev l (decide (lev ≤ 0)) [] = raiseG col lev (l.drop x.1) x.2.1 x.2.2) (fun x => l.length - x.1) (0, decide (lev ≤ 0), []) ⟨Nat.zero_le _, Nat.zero_le _, rfl⟩
    (le_trans (le_adopt (d := 7) (e := pkT) (sz := 2) rfl) (le_of h0 rfl ⟨rfl, rfl, rfl, rfl, rfl, rfl, trivial⟩ ⟨⟨0, rfl⟩, trivial⟩ rfl rfl rfl)) (fun x hI => ?_)
  obtain ⟨k, dn, out⟩ := x
  obtain ⟨hk, ho, hI⟩ := hI
  dsimp only at hk ho hI ⊢
  repeat' ((first|refine aops_go ?_|refine awp_go ?_|refine guard_tt ?_|refine guard_ff ?_|refine guard_tf ?_|refine guard_ft ?_|refine cond_t ?_|refine cond_f ?_|refine Z1 ?_|refine Z2 ?_|refine stp ?_|(refine And.intro ?_ ?_<;>intro h<;>try first|(exfalso;omega)|exact absurd rfl h)|refine Z3 ?_|refine Z4 ?_|intro el hel hbB|intro el hel|intro ex|refine Z5 ?_|(refine free_i ?_ ?_;exact ⟨by kernel_rfl,by decide⟩)|refine allI_c ?_ ?_|exact allI_n|refine allMP_c ?_ ?_|exact allMP_n|(refine many_step ?_ ?_ ?_;kernel_rfl;kernel_rfl)) <;> (try (conv => whnf)))
  all_goals first
    | exact ⟨(k + 1, true, out ++ [⟨col, lev⟩] ++ [el]), ⟨by dsimp only; omega, by dsimp only; simp only [List.length_append, List.length_cons, List.length_nil]; omega, by rw [hI, dropc hel, raiseG, if_pos ⟨by omega, by assumption⟩]⟩, by dsimp only; omega, le_of h0 rfl ⟨rfl, rfl, rfl, congrArg (fun z : Nat => some (AV.row 0 0 z)) (by simp only [List.length_append]; rfl), rfl, rfl, trivial⟩ ⟨⟨_, congrArg (Blk.row pkT 2 _) (by simp only [List.map_append]; rfl)⟩, trivial⟩ rfl rfl rfl⟩
    | exact ⟨(k + 1, dn, out ++ [el]), ⟨by dsimp only; omega, by dsimp only; simp only [List.length_append, List.length_cons, List.length_nil]; omega, by rw [hI, dropc hel, raiseG, if_neg (fun hh => by first | (have h9 := hh.1; omega) | (have h9 := hh.2; simp_all; done)), if_neg (by omega)]⟩, by dsimp only; omega, le_of h0 rfl ⟨rfl, rfl, rfl, congrArg (fun z : Nat => some (AV.row 0 0 z)) (by simp only [List.length_append]; rfl), rfl, rfl, trivial⟩ ⟨⟨_, congrArg (Blk.row pkT 2 _) (by simp only [List.map_append]; rfl)⟩, trivial⟩ rfl rfl rfl⟩
    | exact ⟨(k + 1, true, out ++ [⟨el.col, max el.lev lev⟩]), ⟨by dsimp only; omega, by dsimp only; simp only [List.length_append, List.length_cons, List.length_nil]; omega, by rw [hI, dropc hel, raiseG, if_neg (fun hh => by first | (have h9 := hh.1; omega) | (have h9 := hh.2; simp_all; done)), if_pos (by omega)]⟩, by dsimp only; omega, le_of h0 rfl ⟨rfl, rfl, rfl, congrArg (fun z : Nat => some (AV.row 0 0 z)) (by simp only [List.length_append]; rfl), rfl, rfl, trivial⟩ ⟨⟨_, congrArg (Blk.row pkT 2 _) (by simp only [List.map_append]; rfl)⟩, trivial⟩ rfl rfl rfl⟩
    | exact ret_tmp rfl (congrArg (AV.sl 2) (by rw [hI, drop_end (by assumption), raiseG, if_pos (by assumption)]))
    | exact ret_tmp rfl (congrArg (AV.sl 2) (by rw [hI, drop_end (by assumption), raiseG, if_neg (fun hh => by simp_all)]; rw [List.map_append]; rfl))
end Go.Proofs.YtepdcljecfibpaaGreatDoor

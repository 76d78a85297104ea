/- Draws: picks. Drawn picks, said with what their memory holds. -/
import Derived.Test.YtepdcljecfibpaaGreatDoorQB13
import Derived.Test.YtepdcljecfibpaaGreatDoorQSx
import Derived.Test.YtepdcljecfibpaaGreatDoorQB10
import Derived.Test.YtepdcljecfibpaaGreatDoorQCB
namespace Go.Proofs.YtepdcljecfibpaaGreatDoor
open Go Go.Av
attribute [local irreducible] AWp AOps AAny MAny DQ retQ retG St.le FCall GCall
set_option linter.unusedVariables false
set_option linter.unnecessarySimpa false
set_option linter.unusedSimpArgs false
set_option maxRecDepth 100000
set_option maxHeartbeats 4000000 in
theorem picks_draw (l : List UInt8) (a : Nat) (s : Sch) (hd : Drawn s) (hl : l.length ≤ 400) : GCall Tryz.prog 10 1 (drB l a) [.ref 0 0, sA s] 2 [(0, some (.box [.sl 1 (l.map u8A), .i (picksS l a s).2])), (1, some (.row 67 2 0 ((picksS l a s).1.map pkL)))] (.row 1 0 (picksS l a s).1.length) := by
  have hln := hd.lens
  refine gcall_intro (n := 29) Tryz.func10 (by kernel_rfl) rfl rfl rfl rfl (fun E h0 => ?_)
  repeat' ((first|refine aops_go ?_|refine awp_go ?_|refine guard_tt ?_|refine guard_ff ?_|refine guard_tf ?_|refine guard_ft ?_|refine cond_t ?_|refine cond_f ?_|refine Z1 ?_|refine Z2 ?_|refine stp ?_|(refine And.intro ?_ ?_<;>intro h<;>try first|(exfalso;omega)|exact absurd rfl h)|refine Z3 ?_|refine Z4 ?_|intro el hel hbB|intro el hel|intro ex|refine Z5 ?_|(refine free_i ?_ ?_;exact ⟨by kernel_rfl,by decide⟩)|refine allI_c ?_ ?_|exact allI_n|refine allMP_c ?_ ?_|exact allMP_n|(refine many_step ?_ ?_ ?_;kernel_rfl;kernel_rfl)) <;> (try (conv => whnf)))
  refine loop_i (ι := Nat × List Pk × Nat) (fun x => ⟨[(0, .ref 0 0), (3, .ref 1 0), (5, .row 2 0 x.2.1.length), (6, .i x.1)], 3, [(0, some (.box [.sl 1 (l.map u8A), .i x.2.2])), (1, some (.box (sL s))), (2, some (.row 67 2 0 (x.2.1.map pkL)))]⟩)
    (fun x => (1 ≤ x.1 ∧ x.1 ≤ s.cols.length) ∧ x.2.1.length ≤ x.1 ∧ picksS l a s = pkFrom l s x.1 x.2 (s.cols.length - x.1)) (fun x => s.cols.length - x.1) (1, [], a) ⟨by dsimp only; omega, by dsimp only; simp, rfl⟩
    (le_trans (le_adopt (d := 5) (e := 67) (sz := 2) rfl) (le_of h0 rfl ⟨rfl, rfl, rfl, rfl, trivial⟩ ⟨rfl, rfl, ⟨0, rfl⟩, trivial⟩ rfl rfl rfl)) (fun x hI => ?_)
  obtain ⟨k, out, b⟩ := x
  obtain ⟨hk, hlen, hI⟩ := hI
  dsimp only at hk hlen hI ⊢
  have r1 := next_call l b 4 hl
  have r2 := next_call l (nxt l b 4).2 (finestS s k + 1) hl
  have hf := rfinest_call s k
  have hfb : (k : Int) < s.cols.length → 0 ≤ finestS s k ∧ finestS s k ≤ 4 := by
    intro h
    obtain ⟨n, h1, h2, _⟩ := hd.chain (i := k) (by omega) (List.getElem?_eq_getElem (show k < s.cols.length by omega))
    omega
  repeat' ((first | refine ⟨ncall_h [0] [0] r1 rfl rfl rfl rfl rfl ⟨rfl, trivial⟩ rfl rfl rfl rfl rfl ?_⟩ | refine ⟨ncall_h [0] [0] r2 rfl rfl rfl rfl rfl ⟨rfl, trivial⟩ rfl rfl rfl rfl rfl ?_⟩ | refine call_i hf ?_ | (refine side_i ?_ ?_; (have := hfb (by assumption); omega)) |refine aops_go ?_|refine awp_go ?_|refine guard_tt ?_|refine guard_ff ?_|refine guard_tf ?_|refine guard_ft ?_|refine cond_t ?_|refine cond_f ?_|refine Z1 ?_|refine Z2 ?_|refine stp ?_|(refine And.intro ?_ ?_<;>intro h<;>try first|(exfalso;omega)|exact absurd rfl h)|refine Z3 ?_|refine Z4 ?_|intro el hel hbB|intro el hel|intro ex|refine Z5 ?_|(refine free_i ?_ ?_;exact ⟨by kernel_rfl,by decide⟩)|refine allI_c ?_ ?_|exact allI_n|refine allMP_c ?_ ?_|exact allMP_n|(refine many_step ?_ ?_ ?_;kernel_rfl;kernel_rfl)) <;> (try (conv => whnf)))
  all_goals first
    | exact ⟨(k + 1, out ++ [⟨k, ((nxt l (nxt l b 4).2 (finestS s k + 1)).1 : Int)⟩], (nxt l (nxt l b 4).2 (finestS s k + 1)).2), ⟨by dsimp only; omega, by dsimp only; rw [List.length_append, List.length_singleton]; omega, by rw [hI, show s.cols.length - k = (s.cols.length - (k + 1)) + 1 by omega, pkFrom, if_pos (by assumption)]⟩, by dsimp only; omega, le_of h0 rfl ⟨rfl, rfl, congrArg (fun z : Nat => some (AV.row 2 0 z)) (by rw [List.length_append]; rfl), rfl, trivial⟩ ⟨rfl, rfl, ⟨_, congrArg (Blk.row 67 2 _) (by rw [List.map_append]; rfl)⟩, trivial⟩ rfl rfl rfl⟩
    | exact ⟨(k + 1, out, (nxt l b 4).2), ⟨by dsimp only; omega, by dsimp only; omega, by rw [hI, show s.cols.length - k = (s.cols.length - (k + 1)) + 1 by omega, pkFrom, if_neg (by assumption)]⟩, by dsimp only; omega, le_of h0 rfl ⟨rfl, rfl, rfl, rfl, trivial⟩ ⟨rfl, rfl, ⟨_, rfl⟩, trivial⟩ rfl rfl rfl⟩
    | (have e : picksS l a s = (out, b) := by rw [hI, show s.cols.length - k = 0 by omega]; rfl
       rw [e]
       exact retg_tmp (le_trans (le_swp 1 2 h0 rfl rfl) (le_of h0 rfl ⟨rfl, trivial⟩ ⟨rfl, ⟨_, rfl⟩, trivial⟩ rfl rfl rfl)))
end Go.Proofs.YtepdcljecfibpaaGreatDoor
namespace Go.Proofs.YtepdcljecfibpaaGreatDoor
open Go Go.Av
attribute [local irreducible] AWp AOps AAny MAny DQ retQ retG St.le FCall GCall
set_option linter.unusedVariables false
set_option linter.unnecessarySimpa false
set_option linter.unusedSimpArgs false
set_option maxRecDepth 100000
theorem picksc_draw (l : List UInt8) (a : Nat) (s : Sch) (hd : Drawn s) (hl : l.length ≤ 400) : GCall Tryz.prog 10 1 (drB l a) [.ref 0 0, sA s] 1 (drB l (picksS l a s).2) (.sl 2 ((picksS l a s).1.map pkL)) :=
  gcall_le (picks_draw l a s hd hl) rfl fun E h0 => le_of h0 rfl ⟨rfl, trivial⟩ ⟨rfl, trivial⟩ rfl rfl rfl
end Go.Proofs.YtepdcljecfibpaaGreatDoor

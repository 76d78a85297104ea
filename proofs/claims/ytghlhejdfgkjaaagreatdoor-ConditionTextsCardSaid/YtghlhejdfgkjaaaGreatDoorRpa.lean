/- Chapter 5: the reference reads two conditions in parentheses (both). -/
import Derived.Test.YtghlhejdfgkjaaaGreatDoorRp3
namespace Go.Proofs.YtghlhejdfgkjaaaGreatDoor
open Go Go.Av
attribute [local irreducible] AWp AOps AAny MAny DQ retQ retG St.le FCall GCall
set_option linter.unusedVariables false
set_option linter.unnecessarySimpa false
set_option linter.unusedSimpArgs false
set_option maxRecDepth 100000

set_option maxHeartbeats 16000000 in
theorem rdAnd_yes (s : Sch) (t rt qt : List UInt8) (x y : Cnd) (dp : Int) (hdp : dp ≤ 10 ∧ 0 ≤ dp) (e2 : 1 ≤ t.length) (g4 : 5 ≤ rt.length)
    (p1 : FCall Tryz.prog 181 [.str t, .str bNot] (.b false)) (p2 : FCall Tryz.prog 181 [.str t, .str [40]] (.b true))
    (r1 : FCall Tryz.prog 143 [sA s, .str ((t.take ((t.length : Nat) : Int).toNat).drop (1 : Int).toNat), .i (dp + 1)] (.tup [cndA x, .str rt, .b true]))
    (p3 : FCall Tryz.prog 181 [.str rt, .str bOr] (.b false)) (p4 : FCall Tryz.prog 181 [.str rt, .str bAnd] (.b true))
    (r2 : FCall Tryz.prog 143 [sA s, .str ((rt.take ((rt.length : Nat) : Int).toNat).drop (5 : Int).toNat), .i (dp + 1)] (.tup [cndA y, .str qt, .b true])) (p5 : FCall Tryz.prog 181 [.str qt, .str [41]] (.b true)) (q2 : List UInt8) (k2 : 1 ≤ qt.length) (k3 : qt.drop (1 : Int).toNat = q2) :
    FCall Tryz.prog 143 [sA s, .str t, .i dp] (.tup [cndA (.mk 5 0 0 0 0 [x, y]), .str q2, .b true]) := by
  refine fcall_intro (n := 104) Tryz.func143 (by kernel_rfl) rfl rfl rfl rfl rfl (by intro t T h; cases h) (fun hrd E h0 => ?_)
  clear hrd
  repeat' ((first|refine aops_go ?_|refine awp_go ?_|refine guard_tt ?_|refine guard_ff ?_|refine guard_tf ?_|refine guard_ft ?_|refine cond_t ?_|refine cond_f ?_|refine Z1 ?_|refine Z2 ?_|refine stp ?_|(refine And.intro ?_ ?_<;>intro h<;>try first|(exfalso;omega)|exact absurd rfl h)|refine Z3 ?_|refine Z4 ?_|intro el hel hbB|intro el hel|intro ex|refine Z5 ?_|(refine free_i ?_ ?_;exact ⟨by kernel_rfl,by decide⟩)|refine allI_c ?_ ?_|exact allI_n|refine allMP_c ?_ ?_|exact allMP_n|(refine many_step ?_ ?_ ?_;kernel_rfl;kernel_rfl) | refine call_i p1 ?_ | refine call_i p2 ?_ | refine call_i r1 ?_ | refine call_i p3 ?_ | refine call_i p4 ?_ | refine call_i r2 ?_ | refine call_i p5 ?_ | (refine draw_le (id := 7) (σ' := ⟨[(1, .str t), (2, .i dp), (3, .iptr (sL s)), (6, .ref 1 0)], 2, [(1, some (.box zC))]⟩) (le_of h0 rfl ⟨rfl, rfl, rfl, rfl, trivial⟩ ⟨rfl, trivial⟩ rfl rfl rfl) ?_; refine draw_m (id := 7) ⟨[(1, .str t), (2, .i dp), (3, .iptr (sL s)), (6, .ref 1 0), (12, .ref 2 0), (13, .str rt), (14, .b true)], 3, [(1, some (.box zC)), (2, some (.box (cndX x)))]⟩ ?_ ?_) | (refine draw_le (id := 13) (σ' := ⟨[(1, .str t), (2, .i dp), (3, .iptr (sL s)), (6, .ref 1 0), (12, .ref 2 0), (13, .str rt), (15, .i 5), (16, .i 5)], 3, [(1, some (.box zC)), (2, some (.box (cndX x)))]⟩) (le_of h0 rfl ⟨rfl, rfl, rfl, rfl, rfl, rfl, rfl, rfl, trivial⟩ ⟨rfl, rfl, trivial⟩ rfl rfl rfl) ?_; refine draw_m (id := 13) ⟨[(1, .str t), (6, .ref 1 0), (12, .ref 2 0), (13, .str qt), (14, .b true), (15, .i 5), (17, .ref 3 0)], 4, [(1, some (.box zC)), (2, some (.box (cndX x))), (3, some (.box (cndX y)))]⟩ ?_ ?_) | (refine draw_le (id := 16) (σ' := ⟨[(6, .ref 1 0), (12, .iptr (cndX x)), (13, .str qt), (15, .i 5), (17, .iptr (cndX y))], 4, [(1, some (.box zC))]⟩) (le_of h0 rfl ⟨rfl, rfl, rfl, rfl, rfl, trivial⟩ ⟨rfl, trivial⟩ rfl rfl rfl) ?_; refine draw_m (id := 16) ⟨[(6, .ref 1 0), (7, .str q2), (8, .b true)], 4, [(1, some (.box [.i 5, .i 0, .i 0, .i 0, .i 0, .sl 6 [cndX x, cndX y]]))]⟩ ?_ ?_)) <;> (try (conv => whnf)))
  all_goals first
    | exact le_of h0 rfl ⟨rfl, rfl, rfl, rfl, rfl, rfl, rfl, trivial⟩ ⟨rfl, rfl, trivial⟩ rfl rfl rfl
    | exact le_of h0 rfl ⟨rfl, rfl, rfl, rfl, rfl, rfl, rfl, trivial⟩ ⟨rfl, rfl, rfl, trivial⟩ rfl rfl rfl
    | exact le_of h0 rfl ⟨rfl, congrArg (fun z => some (AV.str z)) (by rw [drop_raw, k3]), rfl, trivial⟩ ⟨rfl, trivial⟩ rfl rfl rfl
    | exact ret_ctt rfl rfl rfl (nl_two 5 x y) rfl rfl rfl
    | (exfalso; omega)
    | trace_state
set_option maxHeartbeats 16000000 in
theorem rdAnd_no (s : Sch) (t rt qt : List UInt8) (x y : Cnd) (dp : Int) (hdp : dp ≤ 10 ∧ 0 ≤ dp) (e2 : 1 ≤ t.length) (g4 : 5 ≤ rt.length)
    (p1 : FCall Tryz.prog 181 [.str t, .str bNot] (.b false)) (p2 : FCall Tryz.prog 181 [.str t, .str [40]] (.b true))
    (r1 : FCall Tryz.prog 143 [sA s, .str ((t.take ((t.length : Nat) : Int).toNat).drop (1 : Int).toNat), .i (dp + 1)] (.tup [cndA x, .str rt, .b true]))
    (p3 : FCall Tryz.prog 181 [.str rt, .str bOr] (.b false)) (p4 : FCall Tryz.prog 181 [.str rt, .str bAnd] (.b true)) (ok2 b5 : Bool) (hno : ¬ (ok2 = true ∧ b5 = true))
    (r2 : FCall Tryz.prog 143 [sA s, .str ((rt.take ((rt.length : Nat) : Int).toNat).drop (5 : Int).toNat), .i (dp + 1)] (.tup [cndA y, .str qt, .b ok2])) (p5 : FCall Tryz.prog 181 [.str qt, .str [41]] (.b b5)) :
    FCall Tryz.prog 143 [sA s, .str t, .i dp] (.tup [cndA x, .str t, .b false]) := by
  refine fcall_intro (n := 104) Tryz.func143 (by kernel_rfl) rfl rfl rfl rfl rfl (by intro t T h; cases h) (fun hrd E h0 => ?_)
  clear hrd
  repeat' ((first|refine aops_go ?_|refine awp_go ?_|refine guard_tt ?_|refine guard_ff ?_|refine guard_tf ?_|refine guard_ft ?_|refine cond_t ?_|refine cond_f ?_|refine Z1 ?_|refine Z2 ?_|refine stp ?_|(refine And.intro ?_ ?_<;>intro h<;>try first|(exfalso;omega)|exact absurd rfl h)|refine Z3 ?_|refine Z4 ?_|intro el hel hbB|intro el hel|intro ex|refine Z5 ?_|(refine free_i ?_ ?_;exact ⟨by kernel_rfl,by decide⟩)|refine allI_c ?_ ?_|exact allI_n|refine allMP_c ?_ ?_|exact allMP_n|(refine many_step ?_ ?_ ?_;kernel_rfl;kernel_rfl) | refine call_i p1 ?_ | refine call_i p2 ?_ | refine call_i r1 ?_ | refine call_i p3 ?_ | refine call_i p4 ?_ | refine call_i r2 ?_ | refine call_i p5 ?_ | (refine draw_le (id := 7) (σ' := ⟨[(1, .str t), (2, .i dp), (3, .iptr (sL s)), (6, .ref 1 0)], 2, [(1, some (.box zC))]⟩) (le_of h0 rfl ⟨rfl, rfl, rfl, rfl, trivial⟩ ⟨rfl, trivial⟩ rfl rfl rfl) ?_; refine draw_m (id := 7) ⟨[(1, .str t), (2, .i dp), (3, .iptr (sL s)), (6, .ref 1 0), (12, .ref 2 0), (13, .str rt), (14, .b true)], 3, [(1, some (.box zC)), (2, some (.box (cndX x)))]⟩ ?_ ?_) | (refine draw_le (id := 13) (σ' := ⟨[(1, .str t), (2, .i dp), (3, .iptr (sL s)), (6, .ref 1 0), (12, .ref 2 0), (13, .str rt), (15, .i 5), (16, .i 5)], 3, [(1, some (.box zC)), (2, some (.box (cndX x)))]⟩) (le_of h0 rfl ⟨rfl, rfl, rfl, rfl, rfl, rfl, rfl, rfl, trivial⟩ ⟨rfl, rfl, trivial⟩ rfl rfl rfl) ?_; refine draw_m (id := 13) ⟨[(1, .str t), (6, .ref 1 0), (12, .ref 2 0), (13, .str qt), (14, .b ok2), (15, .i 5), (17, .ref 3 0)], 4, [(1, some (.box zC)), (2, some (.box (cndX x))), (3, some (.box (cndX y)))]⟩ ?_ ?_)) <;> (try (conv => whnf)))
  all_goals first
    | exact le_of h0 rfl ⟨rfl, rfl, rfl, rfl, rfl, rfl, rfl, trivial⟩ ⟨rfl, rfl, trivial⟩ rfl rfl rfl
    | exact le_of h0 rfl ⟨rfl, rfl, rfl, rfl, rfl, rfl, rfl, trivial⟩ ⟨rfl, rfl, rfl, trivial⟩ rfl rfl rfl
    | exact ret_ctt rfl rfl rfl (.refl _) rfl rfl rfl
    | (exfalso; simp_all; done)
    | (exfalso; omega)
    | trace_state
end Go.Proofs.YtghlhejdfgkjaaaGreatDoor

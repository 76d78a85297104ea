/- Chapter 5: the reference reads conditions, but for two in parentheses. -/
import Derived.Test.YtghlhejdfgkjaaaGreatDoorRp3
namespace Go.Proofs.YtghlhejdfgkjaaaGreatDoor
open Go Go.Av
attribute [local irreducible] AWp AOps AAny MAny DQ retQ retG St.le FCall GCall
set_option linter.unusedVariables false
set_option linter.unnecessarySimpa false
set_option linter.unusedSimpArgs false
set_option maxRecDepth 100000

set_option maxHeartbeats 8000000 in
theorem rd_zero (s : Sch) (t : List UInt8) : FCall Tryz.prog 143 [sA s, .str t, .i 11] (.tup [cndA (.mk 0 0 0 0 0 []), .str t, .b false]) := by
  refine fcall_intro (n := 104) Tryz.func143 (by kernel_rfl) rfl rfl rfl rfl rfl (by intro t T h; cases h) (fun hrd E h0 => ?_)
  clear hrd
  repeat' ((first|refine aops_go ?_|refine awp_go ?_|refine guard_tt ?_|refine guard_ff ?_|refine guard_tf ?_|refine guard_ft ?_|refine cond_t ?_|refine cond_f ?_|refine Z1 ?_|refine Z2 ?_|refine stp ?_|(refine And.intro ?_ ?_<;>intro h<;>try first|(exfalso;omega)|exact absurd rfl h)|refine Z3 ?_|refine Z4 ?_|intro el hel hbB|intro el hel|intro ex|refine Z5 ?_|(refine free_i ?_ ?_;exact ⟨by kernel_rfl,by decide⟩)|refine allI_c ?_ ?_|exact allI_n|refine allMP_c ?_ ?_|exact allMP_n|(refine many_step ?_ ?_ ?_;kernel_rfl;kernel_rfl)) <;> (try (conv => whnf)))
  all_goals first
    | exact ret_ctt rfl rfl rfl (nl_leaf 0 0 0 0 0) rfl rfl rfl
    | (exfalso; omega)
    | trace_state
set_option maxHeartbeats 8000000 in
theorem rd_not (s : Sch) (t rt : List UInt8) (x : Cnd) (ok : Bool) (dp : Int) (hdp : dp ≤ 10 ∧ 0 ≤ dp) (e2 : 4 ≤ t.length)
    (p1 : FCall Tryz.prog 181 [.str t, .str bNot] (.b true))
    (r1 : FCall Tryz.prog 143 [sA s, .str ((t.take ((t.length : Nat) : Int).toNat).drop (4 : Int).toNat), .i (dp + 1)] (.tup [cndA x, .str rt, .b ok])) :
    FCall Tryz.prog 143 [sA s, .str t, .i dp] (.tup [cndA (.mk 7 0 0 0 0 [x]), .str rt, .b ok]) := by
  refine fcall_intro (n := 104) Tryz.func143 (by kernel_rfl) rfl rfl rfl rfl rfl (by intro t T h; cases h) (fun hrd E h0 => ?_)
  clear hrd
  repeat' ((first|refine aops_go ?_|refine awp_go ?_|refine guard_tt ?_|refine guard_ff ?_|refine guard_tf ?_|refine guard_ft ?_|refine cond_t ?_|refine cond_f ?_|refine Z1 ?_|refine Z2 ?_|refine stp ?_|(refine And.intro ?_ ?_<;>intro h<;>try first|(exfalso;omega)|exact absurd rfl h)|refine Z3 ?_|refine Z4 ?_|intro el hel hbB|intro el hel|intro ex|refine Z5 ?_|(refine free_i ?_ ?_;exact ⟨by kernel_rfl,by decide⟩)|refine allI_c ?_ ?_|exact allI_n|refine allMP_c ?_ ?_|exact allMP_n|(refine many_step ?_ ?_ ?_;kernel_rfl;kernel_rfl) | refine call_i p1 ?_ | refine call_i r1 ?_ | (refine draw_le (id := 4) (σ' := ⟨[(1, .str t), (2, .i dp), (3, .iptr (sL s)), (6, .ref 1 0)], 2, [(1, some (.box zC))]⟩) (le_of h0 rfl ⟨rfl, rfl, rfl, rfl, trivial⟩ ⟨rfl, trivial⟩ rfl rfl rfl) ?_; refine draw_m (id := 4) ⟨[(6, .ref 1 0), (9, .ref 2 0), (10, .str rt), (11, .b ok)], 3, [(1, some (.box zC)), (2, some (.box (cndX x)))]⟩ ?_ ?_)) <;> (try (conv => whnf)))
  all_goals first
    | exact le_of h0 rfl ⟨rfl, rfl, rfl, rfl, trivial⟩ ⟨rfl, rfl, trivial⟩ rfl rfl rfl
    | exact ret_ctt rfl rfl rfl (nl_one 7 x) rfl rfl rfl
    | (exfalso; omega)
    | trace_state
set_option maxHeartbeats 8000000 in
theorem rd_bad (s : Sch) (t rt : List UInt8) (x : Cnd) (dp : Int) (hdp : dp ≤ 10 ∧ 0 ≤ dp) (e2 : 1 ≤ t.length)
    (p1 : FCall Tryz.prog 181 [.str t, .str bNot] (.b false)) (p2 : FCall Tryz.prog 181 [.str t, .str [40]] (.b true))
    (r1 : FCall Tryz.prog 143 [sA s, .str ((t.take ((t.length : Nat) : Int).toNat).drop (1 : Int).toNat), .i (dp + 1)] (.tup [cndA x, .str rt, .b false])) :
    FCall Tryz.prog 143 [sA s, .str t, .i dp] (.tup [cndA x, .str t, .b false]) := by
  refine fcall_intro (n := 104) Tryz.func143 (by kernel_rfl) rfl rfl rfl rfl rfl (by intro t T h; cases h) (fun hrd E h0 => ?_)
  clear hrd
  repeat' ((first|refine aops_go ?_|refine awp_go ?_|refine guard_tt ?_|refine guard_ff ?_|refine guard_tf ?_|refine guard_ft ?_|refine cond_t ?_|refine cond_f ?_|refine Z1 ?_|refine Z2 ?_|refine stp ?_|(refine And.intro ?_ ?_<;>intro h<;>try first|(exfalso;omega)|exact absurd rfl h)|refine Z3 ?_|refine Z4 ?_|intro el hel hbB|intro el hel|intro ex|refine Z5 ?_|(refine free_i ?_ ?_;exact ⟨by kernel_rfl,by decide⟩)|refine allI_c ?_ ?_|exact allI_n|refine allMP_c ?_ ?_|exact allMP_n|(refine many_step ?_ ?_ ?_;kernel_rfl;kernel_rfl) | refine call_i p1 ?_ | refine call_i p2 ?_ | refine call_i r1 ?_ | (refine draw_le (id := 7) (σ' := ⟨[(1, .str t), (2, .i dp), (3, .iptr (sL s)), (6, .ref 1 0)], 2, [(1, some (.box zC))]⟩) (le_of h0 rfl ⟨rfl, rfl, rfl, rfl, trivial⟩ ⟨rfl, trivial⟩ rfl rfl rfl) ?_; refine draw_m (id := 7) ⟨[(1, .str t), (2, .i dp), (3, .iptr (sL s)), (6, .ref 1 0), (12, .ref 2 0), (13, .str rt), (14, .b false)], 3, [(1, some (.box zC)), (2, some (.box (cndX x)))]⟩ ?_ ?_)) <;> (try (conv => whnf)))
  all_goals first
    | exact le_of h0 rfl ⟨rfl, rfl, rfl, rfl, rfl, rfl, rfl, trivial⟩ ⟨rfl, rfl, trivial⟩ rfl rfl rfl
    | exact ret_ctt rfl rfl rfl (.refl _) rfl rfl rfl
    | (exfalso; omega)
    | trace_state
set_option maxHeartbeats 8000000 in
theorem rd_none (s : Sch) (t rt : List UInt8) (x : Cnd) (dp : Int) (hdp : dp ≤ 10 ∧ 0 ≤ dp) (e2 : 1 ≤ t.length)
    (p1 : FCall Tryz.prog 181 [.str t, .str bNot] (.b false)) (p2 : FCall Tryz.prog 181 [.str t, .str [40]] (.b true))
    (p3 : FCall Tryz.prog 181 [.str rt, .str bOr] (.b false)) (p4 : FCall Tryz.prog 181 [.str rt, .str bAnd] (.b false))
    (r1 : FCall Tryz.prog 143 [sA s, .str ((t.take ((t.length : Nat) : Int).toNat).drop (1 : Int).toNat), .i (dp + 1)] (.tup [cndA x, .str rt, .b true])) :
    FCall Tryz.prog 143 [sA s, .str t, .i dp] (.tup [cndA x, .str t, .b false]) := by
  refine fcall_intro (n := 104) Tryz.func143 (by kernel_rfl) rfl rfl rfl rfl rfl (by intro t T h; cases h) (fun hrd E h0 => ?_)
  clear hrd
  repeat' ((first|refine aops_go ?_|refine awp_go ?_|refine guard_tt ?_|refine guard_ff ?_|refine guard_tf ?_|refine guard_ft ?_|refine cond_t ?_|refine cond_f ?_|refine Z1 ?_|refine Z2 ?_|refine stp ?_|(refine And.intro ?_ ?_<;>intro h<;>try first|(exfalso;omega)|exact absurd rfl h)|refine Z3 ?_|refine Z4 ?_|intro el hel hbB|intro el hel|intro ex|refine Z5 ?_|(refine free_i ?_ ?_;exact ⟨by kernel_rfl,by decide⟩)|refine allI_c ?_ ?_|exact allI_n|refine allMP_c ?_ ?_|exact allMP_n|(refine many_step ?_ ?_ ?_;kernel_rfl;kernel_rfl) | refine call_i p1 ?_ | refine call_i p2 ?_ | refine call_i r1 ?_ | refine call_i p3 ?_ | refine call_i p4 ?_ | (refine draw_le (id := 7) (σ' := ⟨[(1, .str t), (2, .i dp), (3, .iptr (sL s)), (6, .ref 1 0)], 2, [(1, some (.box zC))]⟩) (le_of h0 rfl ⟨rfl, rfl, rfl, rfl, trivial⟩ ⟨rfl, trivial⟩ rfl rfl rfl) ?_; refine draw_m (id := 7) ⟨[(1, .str t), (2, .i dp), (3, .iptr (sL s)), (6, .ref 1 0), (12, .ref 2 0), (13, .str rt), (14, .b true)], 3, [(1, some (.box zC)), (2, some (.box (cndX x)))]⟩ ?_ ?_)) <;> (try (conv => whnf)))
  all_goals first
    | exact le_of h0 rfl ⟨rfl, rfl, rfl, rfl, rfl, rfl, rfl, trivial⟩ ⟨rfl, rfl, trivial⟩ rfl rfl rfl
    | exact ret_ctt rfl rfl rfl (.refl _) rfl rfl rfl
    | (exfalso; omega)
    | trace_state
set_option maxHeartbeats 8000000 in
theorem rd_all (s : Sch) (t rest : List UInt8) (dp : Int) (hdp : dp ≤ 10 ∧ 0 ≤ dp) (e6 : 3 ≤ t.length) (e5 : t.drop (3 : Int).toNat = rest)
    (p1 : FCall Tryz.prog 181 [.str t, .str bNot] (.b false)) (p2 : FCall Tryz.prog 181 [.str t, .str [40]] (.b false))
    (r3 : FCall Tryz.prog 182 [.str t] (.str bAll)) :
    FCall Tryz.prog 143 [sA s, .str t, .i dp] (.tup [cndA (.mk 1 0 0 0 0 []), .str rest, .b true]) := by
  refine fcall_intro (n := 104) Tryz.func143 (by kernel_rfl) rfl rfl rfl rfl rfl (by intro t T h; cases h) (fun hrd E h0 => ?_)
  clear hrd
  repeat' ((first|refine aops_go ?_|refine awp_go ?_|refine guard_tt ?_|refine guard_ff ?_|refine guard_tf ?_|refine guard_ft ?_|refine cond_t ?_|refine cond_f ?_|refine Z1 ?_|refine Z2 ?_|refine stp ?_|(refine And.intro ?_ ?_<;>intro h<;>try first|(exfalso;omega)|exact absurd rfl h)|refine Z3 ?_|refine Z4 ?_|intro el hel hbB|intro el hel|intro ex|refine Z5 ?_|(refine free_i ?_ ?_;exact ⟨by kernel_rfl,by decide⟩)|refine allI_c ?_ ?_|exact allI_n|refine allMP_c ?_ ?_|exact allMP_n|(refine many_step ?_ ?_ ?_;kernel_rfl;kernel_rfl) | refine call_i p1 ?_ | refine call_i p2 ?_ | refine call_i r3 ?_ | refine draw_m (id := 18) ⟨[(6, .ref 1 0), (7, .str rest), (8, .b true)], 2, [(1, some (.box [.i 1, .i 0, .i 0, .i 0, .i 0, .v (.slice none 0 0)]))]⟩ ?_ ?_) <;> (try (conv => whnf)))
  all_goals first
    | exact le_of h0 rfl ⟨rfl, congrArg (fun z => some (AV.str z)) (by rw [drop_raw, e5]), rfl, trivial⟩ ⟨rfl, trivial⟩ rfl rfl rfl
    | exact ret_ctt rfl rfl rfl (nl_leaf 1 0 0 0 0) rfl rfl rfl
    | (exfalso; omega)
    | trace_state
set_option maxHeartbeats 8000000 in
theorem rd_atom (s : Sch) (t tw rt : List UInt8) (x : Cnd) (ok : Bool) (dp : Int) (hdp : dp ≤ 10 ∧ 0 ≤ dp) (hA : tw ≠ bAll)
    (p1 : FCall Tryz.prog 181 [.str t, .str bNot] (.b false)) (p2 : FCall Tryz.prog 181 [.str t, .str [40]] (.b false))
    (r3 : FCall Tryz.prog 182 [.str t] (.str tw))
    (r4 : FCall Tryz.prog 183 [sA s, .str t] (.tup [cndA x, .str rt, .b ok])) :
    FCall Tryz.prog 143 [sA s, .str t, .i dp] (.tup [cndA x, .str rt, .b ok]) := by
  refine fcall_intro (n := 104) Tryz.func143 (by kernel_rfl) rfl rfl rfl rfl rfl (by intro t T h; cases h) (fun hrd E h0 => ?_)
  clear hrd
  repeat' ((first|refine aops_go ?_|refine awp_go ?_|refine guard_tt ?_|refine guard_ff ?_|refine guard_tf ?_|refine guard_ft ?_|refine cond_t ?_|refine cond_f ?_|refine Z1 ?_|refine Z2 ?_|refine stp ?_|(refine And.intro ?_ ?_<;>intro h<;>try first|(exfalso;omega)|exact absurd rfl h)|refine Z3 ?_|refine Z4 ?_|intro el hel hbB|intro el hel|intro ex|refine Z5 ?_|(refine free_i ?_ ?_;exact ⟨by kernel_rfl,by decide⟩)|refine allI_c ?_ ?_|exact allI_n|refine allMP_c ?_ ?_|exact allMP_n|(refine many_step ?_ ?_ ?_;kernel_rfl;kernel_rfl) | refine call_i p1 ?_ | refine call_i p2 ?_ | refine call_i r3 ?_ | refine call_i r4 ?_) <;> (try (conv => whnf)))
  all_goals first
    | exact ret_ctt rfl rfl rfl (.refl _) rfl rfl rfl
    | (exfalso; first | omega | contradiction)
    | trace_state
end Go.Proofs.YtghlhejdfgkjaaaGreatDoor

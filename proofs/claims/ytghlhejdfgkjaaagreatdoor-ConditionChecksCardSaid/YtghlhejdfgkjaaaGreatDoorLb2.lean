/- ConditionChecks: which conditions are right, or the first error, and their values for rows. -/
import Derived.Test.YtghlhejdfgkjaaaGreatDoorD2
import Derived.Test.YtghlhejdfgkjaaaGreatDoorAw5
import Derived.Test.YtghlhejdfgkjaaaGreatDoorOp3
import Derived.Test.YtghlhejdfgkjaaaGreatDoorB12
import Derived.Test.YtghlhejdfgkjaaaGreatDoorB14
import Derived.Test.YtghlhejdfgkjaaaGreatDoorGf1
import Derived.Test.YtghlhejdfgkjaaaGreatDoorSpo
import Derived.Test.YtghlhejdfgkjaaaGreatDoorCe9
namespace Go.Proofs.YtghlhejdfgkjaaaGreatDoor
open Go Go.Av
attribute [local irreducible] AWp AOps AAny MAny DQ retQ retG St.le FCall GCall
set_option linter.unusedVariables false
set_option linter.unnecessarySimpa false
set_option linter.unusedSimpArgs false
set_option maxRecDepth 100000

abbrev rwA (r : List Int) : List AV := [.sl 1 (r.map wA)]
set_option maxHeartbeats 4000000 in
theorem lcount_call (c : Cnd) : ∀ (m : Int), -100000 ≤ m → m ≤ 100000 → FCall Tryz.prog 57 [cndA c, .i m] (.i (cntS c m)) := by
  refine cnd_ind (p := fun c => ∀ (m : Int), -100000 ≤ m → m ≤ 100000 → FCall Tryz.prog 57 [cndA c, .i m] (.i (cntS c m))) (fun c ih m hm1 hm2 => ?_) c
  rw [cndA_eq, cntS_eq]
  refine fcall_intro (n := 31) Tryz.func57 (by kernel_rfl) rfl rfl rfl rfl rfl (by intro t T h; cases h) (fun hrd E h0 => ?_)
  have hlen : c.kids.length ≤ 9223372036854775807 := by
    have := ((hrd _ (List.mem_cons_self ..)).agg (.sl 6 (c.kids.map cndX)) (by simp)).sl
    simpa using this
  clear hrd
  repeat' ((first|refine aops_go ?_|refine awp_go ?_|refine guard_tt ?_|refine guard_ff ?_|refine guard_tf ?_|refine guard_ft ?_|refine cond_t ?_|refine cond_f ?_|refine Z1 ?_|refine Z2 ?_|refine stp ?_|(refine And.intro ?_ ?_<;>intro h<;>try first|(exfalso;omega)|exact absurd rfl h)|refine Z3 ?_|refine Z4 ?_|intro el hel hbB|intro el hel|intro ex|refine Z5 ?_|(refine free_i ?_ ?_;exact ⟨by kernel_rfl,by decide⟩)|refine allI_c ?_ ?_|exact allI_n|refine allMP_c ?_ ?_|exact allMP_n|(refine many_step ?_ ?_ ?_;kernel_rfl;kernel_rfl)) <;> (try (conv => whnf)))
  refine loop_i (ι := Nat × Int) (fun x => ⟨[(1, .i m), (2, .ref 0 0), (5, .i x.2), (6, .i x.1)], 1, [(0, some (.box (cndY c)))]⟩) (fun x => x.1 ≤ c.kids.length ∧ (1 ≤ x.2 ∧ x.2 ≤ max 1 (m + 1)) ∧ cntL c.kids m 1 = cntL (c.kids.drop x.1) m x.2) (fun x => c.kids.length - x.1) (0, 1) ⟨Nat.zero_le _, by dsimp only; omega, rfl⟩
    (le_of h0 rfl ⟨rfl, rfl, rfl, rfl, trivial⟩ ⟨rfl, trivial⟩ rfl rfl rfl) (fun x hI => ?_)
  obtain ⟨k, n⟩ := x
  obtain ⟨hk, hn, hI⟩ := hI
  dsimp only at hk hn hI ⊢
  have hrb := fun el => cntS_bd el (m - n)
  repeat' ((first | (refine call_i (ih _ (List.mem_of_getElem? (by assumption)) _ (by omega) (by omega)) ?_) | (refine side_i ?_ ?_; (have := hrb el; omega)) |refine aops_go ?_|refine awp_go ?_|refine guard_tt ?_|refine guard_ff ?_|refine guard_tf ?_|refine guard_ft ?_|refine cond_t ?_|refine cond_f ?_|refine Z1 ?_|refine Z2 ?_|refine stp ?_|(refine And.intro ?_ ?_<;>intro h<;>try first|(exfalso;omega)|exact absurd rfl h)|refine Z3 ?_|refine Z4 ?_|intro el hel hbB|intro el hel|intro ex|refine Z5 ?_|(refine free_i ?_ ?_;exact ⟨by kernel_rfl,by decide⟩)|refine allI_c ?_ ?_|exact allI_n|refine allMP_c ?_ ?_|exact allMP_n|(refine many_step ?_ ?_ ?_;kernel_rfl;kernel_rfl)) <;> (try (conv => whnf)))
  all_goals first
    | exact ret_tmp rfl (congrArg AV.i (by rw [hI, drop_end (by assumption)]; rfl))
    | (obtain ⟨x, hx⟩ : ∃ x, c.kids[k]? = some x := ⟨_, List.getElem?_eq_getElem (by omega)⟩
       exact ret_tmp rfl (congrArg AV.i (by rw [hI, dropc hx, cntL, if_pos (by omega)])))
    | exact ⟨(k + 1, n + cntS el (m - n)), ⟨by dsimp only; omega, (by have := hrb el; dsimp only; omega), by rw [hI, dropc hel, cntL, if_neg (by omega)]⟩, by dsimp only; omega, le_of h0 rfl ⟨rfl, rfl, rfl, rfl, trivial⟩ ⟨rfl, trivial⟩ rfl rfl rfl⟩
    | trace_state
set_option maxHeartbeats 4000000 in
theorem lsmall_call (c : Cnd) (m : Int) (h1 : -100000 ≤ m) (h2 : m ≤ 100000) : FCall Tryz.prog 15 [cndA c, .i m] (.b (decide (cntS c m ≤ m))) := by
  have hc := lcount_call c m h1 h2
  refine fcall_intro (n := 10) Tryz.func15 (by kernel_rfl) rfl rfl rfl rfl rfl (by intro t T h; cases h) (fun hrd E h0 => ?_)
  clear hrd
  repeat' ((first | refine call_i hc ?_ |refine aops_go ?_|refine awp_go ?_|refine guard_tt ?_|refine guard_ff ?_|refine guard_tf ?_|refine guard_ft ?_|refine cond_t ?_|refine cond_f ?_|refine Z1 ?_|refine Z2 ?_|refine stp ?_|(refine And.intro ?_ ?_<;>intro h<;>try first|(exfalso;omega)|exact absurd rfl h)|refine Z3 ?_|refine Z4 ?_|intro el hel hbB|intro el hel|intro ex|refine Z5 ?_|(refine free_i ?_ ?_;exact ⟨by kernel_rfl,by decide⟩)|refine allI_c ?_ ?_|exact allI_n|refine allMP_c ?_ ?_|exact allMP_n|(refine many_step ?_ ?_ ?_;kernel_rfl;kernel_rfl)) <;> (try (conv => whnf)))
  all_goals exact ret_tmp rfl rfl

set_option maxHeartbeats 16000000 in
theorem conditionChecks_call (l : List UInt8) (raw : Cnd) (row : List Int) (by' : Int) (hl : l.length ≤ maxLen) : FCall Tryz.prog 3 [.sl 1 (l.map u8A), cndA raw, .sl 1 (row.map wA), .i by'] (.b true) := by
  unfold maxLen at hl
  have hL : (l.take 400).length ≤ 400 := List.length_take_le _ _
  have hnew := new_call l (by omega)
  have hsch := schc_draw (l.take 400) 0 hL
  have hd := schS_drawn (l.take 400) 0
  generalize schS (l.take 400) 0 = s0 at *
  obtain ⟨s, a0⟩ := s0
  dsimp only at hsch hd
  generalize l.take 400 = t at *
  have hsm := lsmall_call raw 60 (by omega) (by omega)
  have hmd := mod_call by' 8 (by omega)
  have hmb := mod_lt (k := by') (n := 8) (by omega)
  generalize mod' by' 8 = mb at *
  have hx1 := spo_call t a0 s by' hd hL
  generalize spoC t s by' a0 = X1 at *
  obtain ⟨x1, a1⟩ := X1
  dsimp only at hx1
  have hx2 := spo_call t a1 s (mb - 1) hd hL
  generalize spoC t s (mb - 1) a1 = X2 at *
  obtain ⟨x2, a2⟩ := X2
  dsimp only at hx2
  obtain ⟨L, hLd⟩ : ∃ L, L = [x1, x2, raw] := ⟨_, rfl⟩
  have k1 := fun c => ccheck_call s c
  have k2 := fun c => rccheck_call s c
  have k3 := fun c r => eval_call s c r
  have k4 := fun c r => rEval_call s c r
  have hrow := fun a => rowc_draw t a s hd hL
  refine fcall_intro (n := 77) Tryz.func3 (by kernel_rfl) rfl rfl rfl rfl rfl (by intro t T h; cases h) (fun hrd E h0 => ?_)
  have hrl := (hrd (.sl 1 (row.map wA)) (by simp)).sl
  rw [List.length_map] at hrl
  clear hrd
  repeat' ((first | refine call_i hsm ?_ | refine call_i awake5_call ?_ | refine ncall_g [] [] hnew rfl rfl rfl rfl rfl trivial rfl rfl rfl rfl rfl ?_ | refine ⟨ncall_h [1] [0] hsch rfl rfl rfl rfl rfl ⟨rfl, trivial⟩ rfl rfl rfl rfl rfl ?_⟩ | (refine draw_le (id := 5) (σ' := ⟨[(2, .sl 1 (row.map wA)), (3, .i by'), (5, .iptr (cndX raw)), (9, .ref 1 0), (10, .iptr (sL s))], 2, [(1, some (.box [.sl 1 (t.map u8A), .i a0]))]⟩) (le_of h0 rfl ⟨rfl, rfl, rfl, rfl, rfl, trivial⟩ ⟨rfl, trivial⟩ rfl rfl rfl) ?_; refine draw_m (id := 5) ⟨[(2, .sl 1 (row.map wA)), (9, .ref 1 0), (10, .iptr (sL s)), (39, .sl 6 (L.map cndX)), (40, .i 3), (41, .i 0)], 2, [(1, some (.box [.sl 1 (t.map u8A), .i a2]))]⟩ ?_ ?_) | refine call_i hmd ?_ | refine ⟨ncall_h [1] [0] hx1 rfl rfl rfl rfl rfl ⟨rfl, trivial⟩ rfl rfl rfl rfl rfl ?_⟩ | refine ⟨ncall_h [1] [0] hx2 rfl rfl rfl rfl rfl ⟨rfl, trivial⟩ rfl rfl rfl rfl rfl ?_⟩ |refine aops_go ?_|refine awp_go ?_|refine guard_tt ?_|refine guard_ff ?_|refine guard_tf ?_|refine guard_ft ?_|refine cond_t ?_|refine cond_f ?_|refine Z1 ?_|refine Z2 ?_|refine stp ?_|(refine And.intro ?_ ?_<;>intro h<;>try first|(exfalso;omega)|exact absurd rfl h)|refine Z3 ?_|refine Z4 ?_|intro el hel hbB|intro el hel|intro ex|refine Z5 ?_|(refine free_i ?_ ?_;exact ⟨by kernel_rfl,by decide⟩)|refine allI_c ?_ ?_|exact allI_n|refine allMP_c ?_ ?_|exact allMP_n|(refine many_step ?_ ?_ ?_;kernel_rfl;kernel_rfl)) <;> (try (conv => whnf)))
  all_goals first
    | exact ret_tmp rfl rfl
    | exact le_of h0 rfl ⟨rfl, rfl, rfl, congrArg (fun z : List Cnd => some (AV.sl 6 (z.map cndX))) hLd.symm, rfl, rfl, trivial⟩ ⟨rfl, trivial⟩ rfl rfl rfl
    | skip
  clear hx1 hx2 hsm hnew hsch hmd hmb
  have hLl : L.length = 3 := by rw [hLd]; rfl
  clear hLd
  refine loop_i (ι := Nat × Nat) (fun x => ⟨[(2, .sl 1 (row.map wA)), (9, .ref 1 0), (10, .iptr (sL s)), (39, .sl 6 (L.map cndX)), (40, .i 3), (41, .i x.1)], 2, [(1, some (.box [.sl 1 (t.map u8A), .i x.2]))]⟩) (fun x => x.1 ≤ 3) (fun x => 3 - x.1) (0, a2) (Nat.zero_le _)
    (le_of h0 rfl ⟨rfl, rfl, rfl, rfl, rfl, rfl, trivial⟩ ⟨rfl, trivial⟩ rfl rfl rfl) (fun x hk => ?_)
  obtain ⟨k, a⟩ := x
  dsimp only at hk ⊢
  have hr1 := hrow a
  generalize rowS t a s = R1 at *
  obtain ⟨r1, b1⟩ := R1
  have hr2 := hrow b1
  generalize rowS t b1 s = R2 at *
  obtain ⟨r2, b2⟩ := R2
  dsimp only at hr1 hr2
  obtain ⟨M, hMd⟩ : ∃ M, M = [row, r1, r2] := ⟨_, rfl⟩
  by_cases hk3 : k < 3
  case neg =>
    repeat' ((first | refine call_i awake5_call ?_ |refine aops_go ?_|refine awp_go ?_|refine guard_tt ?_|refine guard_ff ?_|refine guard_tf ?_|refine guard_ft ?_|refine cond_t ?_|refine cond_f ?_|refine Z1 ?_|refine Z2 ?_|refine stp ?_|(refine And.intro ?_ ?_<;>intro h<;>try first|(exfalso;omega)|exact absurd rfl h)|refine Z3 ?_|refine Z4 ?_|intro el hel hbB|intro el hel|intro ex|refine Z5 ?_|(refine free_i ?_ ?_;exact ⟨by kernel_rfl,by decide⟩)|refine allI_c ?_ ?_|exact allI_n|refine allMP_c ?_ ?_|exact allMP_n|(refine many_step ?_ ?_ ?_;kernel_rfl;kernel_rfl)) <;> (try (conv => whnf)))
    all_goals first
      | exact ret_tmp rfl rfl
      | (exfalso; omega)
      | trace_state
  obtain ⟨el, hel⟩ : ∃ el, L[k]? = some el := ⟨_, List.getElem?_eq_getElem (by omega)⟩
  have e1 := k3 el
  have e2 := k4 el
  have e3 := k1 el
  have e4 := k2 el
  clear k1 k2 k3 k4 hrow
  repeat' ((first | (refine each_knownm (x := el) hel (by omega) ?_) | refine call_i e3 ?_ | refine call_i e4 ?_ | (refine draw_le (id := 10) (σ' := ⟨[(2, .sl 1 (row.map wA)), (9, .ref 1 0), (10, .iptr (sL s)), (12, .iptr (cndX el)), (39, .sl 6 (L.map cndX)), (40, .i 3), (41, .i k)], 2, [(1, some (.box [.sl 1 (t.map u8A), .i a]))]⟩) (le_of h0 rfl ⟨rfl, rfl, rfl, rfl, rfl, rfl, rfl, trivial⟩ ⟨rfl, trivial⟩ rfl rfl rfl) ?_; refine draw_m (id := 10) ⟨[(9, .ref 1 0), (10, .iptr (sL s)), (2, .sl 1 (row.map wA)), (12, .iptr (cndX el)), (39, .sl 6 (L.map cndX)), (40, .i 3), (41, .i k), (59, .sl 1 (M.map rwA)), (60, .i 3), (61, .i 0)], 2, [(1, some (.box [.sl 1 (t.map u8A), .i b2]))]⟩ ?_ ?_) | refine ⟨ncall_h [1] [0] hr1 rfl rfl rfl rfl rfl ⟨rfl, trivial⟩ rfl rfl rfl rfl rfl ?_⟩ | refine ⟨ncall_h [1] [0] hr2 rfl rfl rfl rfl rfl ⟨rfl, trivial⟩ rfl rfl rfl rfl rfl ?_⟩ |refine aops_go ?_|refine awp_go ?_|refine guard_tt ?_|refine guard_ff ?_|refine guard_tf ?_|refine guard_ft ?_|refine cond_t ?_|refine cond_f ?_|refine Z1 ?_|refine Z2 ?_|refine stp ?_|(refine And.intro ?_ ?_<;>intro h<;>try first|(exfalso;omega)|exact absurd rfl h)|refine Z3 ?_|refine Z4 ?_|intro el hel hbB|intro el hel|intro ex|refine Z5 ?_|(refine free_i ?_ ?_;exact ⟨by kernel_rfl,by decide⟩)|refine allI_c ?_ ?_|exact allI_n|refine allMP_c ?_ ?_|exact allMP_n|(refine many_step ?_ ?_ ?_;kernel_rfl;kernel_rfl)) <;> (try (conv => whnf)))
  all_goals first
    | exact le_of h0 rfl ⟨rfl, rfl, rfl, rfl, rfl, rfl, rfl, congrArg (fun z : List (List Int) => some (AV.sl 1 (z.map rwA))) hMd.symm, rfl, rfl, trivial⟩ ⟨rfl, trivial⟩ rfl rfl rfl
    | (exfalso; omega)
    | skip
  have hMl : M.length = 3 := by rw [hMd]; rfl
  clear hMd hr1 hr2
  refine loop_i (ι := Nat) (fun j => ⟨[(9, .ref 1 0), (10, .iptr (sL s)), (2, .sl 1 (row.map wA)), (12, .iptr (cndX el)), (39, .sl 6 (L.map cndX)), (40, .i 3), (41, .i k), (59, .sl 1 (M.map rwA)), (60, .i 3), (61, .i j)], 2, [(1, some (.box [.sl 1 (t.map u8A), .i b2]))]⟩) (fun j => j ≤ 3) (fun j => 3 - j) 0 (Nat.zero_le _)
    (le_of h0 rfl ⟨rfl, rfl, rfl, rfl, rfl, rfl, rfl, rfl, rfl, rfl, trivial⟩ ⟨rfl, trivial⟩ rfl rfl rfl) (fun j hj => ?_)
  repeat' ((first | refine call_i (e1 _) ?_ | refine call_i (e2 _) ?_ |refine aops_go ?_|refine awp_go ?_|refine guard_tt ?_|refine guard_ff ?_|refine guard_tf ?_|refine guard_ft ?_|refine cond_t ?_|refine cond_f ?_|refine Z1 ?_|refine Z2 ?_|refine stp ?_|(refine And.intro ?_ ?_<;>intro h<;>try first|(exfalso;omega)|exact absurd rfl h)|refine Z3 ?_|refine Z4 ?_|intro el hel hbB|intro el hel|intro ex|refine Z5 ?_|(refine free_i ?_ ?_;exact ⟨by kernel_rfl,by decide⟩)|refine allI_c ?_ ?_|exact allI_n|refine allMP_c ?_ ?_|exact allMP_n|(refine many_step ?_ ?_ ?_;kernel_rfl;kernel_rfl)) <;> (try (conv => whnf)))
  all_goals first
    | exact ⟨j + 1, by omega, by omega, le_of h0 rfl ⟨rfl, rfl, rfl, rfl, rfl, rfl, rfl, rfl, rfl, rfl, trivial⟩ ⟨rfl, trivial⟩ rfl rfl rfl⟩
    | exact ⟨(k + 1, b2), by dsimp only; omega, by dsimp only; omega, le_of h0 rfl ⟨rfl, rfl, rfl, rfl, rfl, rfl, trivial⟩ ⟨rfl, trivial⟩ rfl rfl rfl⟩
    | trace_state
theorem conditionChecks_all (l : List AV) (h : AShapes Tryz.prog Tryz.f3.params.toList l) : FCall Tryz.prog 3 l (.b true) := by
  obtain ⟨a1, r1, rfl, h1, a2, r2, rfl, h2, a3, r3, rfl, h3, a4, r4, rfl, h4, rfl⟩ := h
  obtain ⟨l, hl, rfl⟩ := ash_by h1
  obtain ⟨c, rfl⟩ := ash_cnd h2
  obtain ⟨ws, _, rfl⟩ := ash_ints h3
  obtain ⟨n, _, rfl⟩ := ash_i h4
  exact conditionChecks_call l c ws n hl
end Go.Proofs.YtghlhejdfgkjaaaGreatDoor

/- ConditionJoins: And and Or need what both parts need, and Not what its part needs. -/
import Derived.Test.YtghlhejdfgkjaaaGreatDoorD2
import Derived.Test.YtghlhejdfgkjaaaGreatDoorAw5
import Derived.Test.YtghlhejdfgkjaaaGreatDoorB4
import Derived.Test.YtghlhejdfgkjaaaGreatDoorB12
import Derived.Test.YtghlhejdfgkjaaaGreatDoorB14
import Derived.Test.YtghlhejdfgkjaaaGreatDoorGf1
import Derived.Test.YtghlhejdfgkjaaaGreatDoorGf3
import Derived.Test.YtghlhejdfgkjaaaGreatDoorCe5
import Derived.Test.YtghlhejdfgkjaaaGreatDoorCf1
namespace Go.Proofs.YtghlhejdfgkjaaaGreatDoor
open Go Go.Av
attribute [local irreducible] AWp AOps AAny MAny DQ retQ retG St.le FCall GCall
set_option linter.unusedVariables false
set_option linter.unnecessarySimpa false
set_option linter.unusedSimpArgs false
set_option maxRecDepth 100000

set_option maxHeartbeats 16000000 in
theorem conditionJoins_call (l : List UInt8) (hl : l.length ≤ maxLen) : FCall Tryz.prog 9 [.sl 1 (l.map u8A)] (.b true) := by
  unfold maxLen at hl
  have hL : (l.take 400).length ≤ 400 := List.length_take_le _ _
  have hnew := new_call l (by omega)
  have hsch := schc_draw (l.take 400) 0 hL
  have hd := schS_drawn (l.take 400) 0
  generalize schS (l.take 400) 0 = s0 at *
  obtain ⟨s, a0⟩ := s0
  dsimp only at hsch hd
  generalize l.take 400 = t at *
  have ha := cond_draw t s hd hL 2 a0 (by omega)
  have qa := (cond_right hd t 2 a0 (by omega)).1
  have qa2 := (condS_ok hd t 2 a0).2
  generalize condS t s 2 a0 = A at *
  obtain ⟨a, a1⟩ := A
  dsimp only at ha qa qa2
  have hb := cond_draw t s hd hL 2 a1 (by omega)
  have qb := (cond_right hd t 2 a1 (by omega)).1
  have qb2 := (condS_ok hd t 2 a1).2
  generalize condS t s 2 a1 = B at *
  obtain ⟨b, a2⟩ := B
  dsimp only at hb qb qb2
  have k4 := cnd_two (o := 6) (.inr rfl) qa qb (by omega) (by omega)
  have k1 := cnd_not qa (by omega) (by omega)
  obtain ⟨n1, n2, n3⟩ := need_two (o := 6) (.inr rfl) qa qb k4
  have n4 := need_not qa k1
  have lm : ∀ c, (needS s c).length ≤ 60 := fun c => by
    have h1 := need_length s c
    have h2 := (schE_parts hd.ok).2.1
    omega
  have e1 : FCall Tryz.prog 28 [sA s, .agg [.i 6, .i 0, .i 0, .i 0, .i 0, .sl 6 [cndX a, cndX b]]] (.sl 2 ((needS s (.mk 6 0 0 0 0 [a, b])).map pkL)) := by rw [two_eq]; exact cneeds_call s _
  have e2 := cneeds_call s a
  have e3 := cneeds_call s b
  have e4 : FCall Tryz.prog 28 [sA s, .agg [.i 7, .i 0, .i 0, .i 0, .i 0, .sl 6 [cndX a]]] (.sl 2 ((needS s a).map pkL)) := by rw [one_eq, ← n4]; exact cneeds_call s _
  have v1 := (rcovers_call (needS s a) (needS s (.mk 6 0 0 0 0 [a, b]))).congr (congrArg AV.b (cov_of n1))
  have v2 := (rcovers_call (needS s b) (needS s (.mk 6 0 0 0 0 [a, b]))).congr (congrArg AV.b (cov_of n2))
  have v3 : FCall Tryz.prog 27 [.sl 2 ((needS s a).map pkL), .sl 2 ((needS s a).map pkL)] (.b true) := (samePicks_call _ _).congr (congrArg AV.b (decide_eq_true rfl))
  have lB := lm (.mk 6 0 0 0 0 [a, b])
  have lP := lm a
  have lQ := lm b
  generalize needS s (.mk 6 0 0 0 0 [a, b]) = B at *
  generalize needS s a = P at *
  generalize needS s b = Q at *
  clear qa qb qa2 qb2 k4 k1 n1 n2 n4 lm hd
  refine fcall_intro (n := 82) Tryz.func9 (by kernel_rfl) rfl rfl rfl rfl rfl (by intro t T h; cases h) (fun hrd E h0 => ?_)
  clear hrd
  repeat' ((first | refine ncall_g [] [] hnew rfl rfl rfl rfl rfl trivial rfl rfl rfl rfl rfl ?_ | refine ⟨ncall_h [0] [0] hsch rfl rfl rfl rfl rfl ⟨rfl, trivial⟩ rfl rfl rfl rfl rfl ?_⟩ |refine aops_go ?_|refine awp_go ?_|refine guard_tt ?_|refine guard_ff ?_|refine guard_tf ?_|refine guard_ft ?_|refine cond_t ?_|refine cond_f ?_|refine Z1 ?_|refine Z2 ?_|refine stp ?_|(refine And.intro ?_ ?_<;>intro h<;>try first|(exfalso;omega)|exact absurd rfl h)|refine Z3 ?_|refine Z4 ?_|intro el hel hbB|intro el hel|intro ex|refine Z5 ?_|(refine free_i ?_ ?_;exact ⟨by kernel_rfl,by decide⟩)|refine allI_c ?_ ?_|exact allI_n|refine allMP_c ?_ ?_|exact allMP_n|(refine many_step ?_ ?_ ?_;kernel_rfl;kernel_rfl)) <;> (try (conv => whnf)))
  refine draw_le (σ' := ⟨[(3, .ref 0 0), (4, .iptr (sL s))], 1, [(0, some (.box [.sl 1 (t.map u8A), .i a0]))]⟩) (le_of h0 rfl ⟨rfl, rfl, trivial⟩ ⟨rfl, trivial⟩ rfl rfl rfl) ?_
  refine draw_m (id := 3) ⟨[(4, .iptr (sL s)), (5, .iptr (cndX a)), (6, .iptr (cndX b))], 0, []⟩ ?_ ?_
  · clear e1 e2 e3 e4 v1 v2 v3 n3
    repeat' ((first | refine ⟨ncall_h [0] [0] ha rfl rfl rfl rfl rfl ⟨rfl, trivial⟩ rfl rfl rfl rfl rfl ?_⟩ | refine ⟨ncall_h [0] [0] hb rfl rfl rfl rfl rfl ⟨rfl, trivial⟩ rfl rfl rfl rfl rfl ?_⟩ |refine aops_go ?_|refine awp_go ?_|refine guard_tt ?_|refine guard_ff ?_|refine guard_tf ?_|refine guard_ft ?_|refine cond_t ?_|refine cond_f ?_|refine Z1 ?_|refine Z2 ?_|refine stp ?_|(refine And.intro ?_ ?_<;>intro h<;>try first|(exfalso;omega)|exact absurd rfl h)|refine Z3 ?_|refine Z4 ?_|intro el hel hbB|intro el hel|intro ex|refine Z5 ?_|(refine free_i ?_ ?_;exact ⟨by kernel_rfl,by decide⟩)|refine allI_c ?_ ?_|exact allI_n|refine allMP_c ?_ ?_|exact allMP_n|(refine many_step ?_ ?_ ?_;kernel_rfl;kernel_rfl)) <;> (try (conv => whnf)))
    all_goals first
      | exact le_of h0 rfl ⟨rfl, rfl, rfl, trivial⟩ trivial rfl rfl rfl
      | trace_state
  clear hnew hsch ha hb
  repeat' ((first | refine call_i e1 ?_ | refine call_i e2 ?_ | refine call_i e3 ?_ | refine call_i v1 ?_ | refine call_i v2 ?_ |refine aops_go ?_|refine awp_go ?_|refine guard_tt ?_|refine guard_ff ?_|refine guard_tf ?_|refine guard_ft ?_|refine cond_t ?_|refine cond_f ?_|refine Z1 ?_|refine Z2 ?_|refine stp ?_|(refine And.intro ?_ ?_<;>intro h<;>try first|(exfalso;omega)|exact absurd rfl h)|refine Z3 ?_|refine Z4 ?_|intro el hel hbB|intro el hel|intro ex|refine Z5 ?_|(refine free_i ?_ ?_;exact ⟨by kernel_rfl,by decide⟩)|refine allI_c ?_ ?_|exact allI_n|refine allMP_c ?_ ?_|exact allMP_n|(refine many_step ?_ ?_ ?_;kernel_rfl;kernel_rfl)) <;> (try (conv => whnf)))
  refine loop_i (ι := Nat) (fun k => ⟨[(4, .iptr (sL s)), (5, .iptr (cndX a)), (8, .sl 2 (P.map pkL)), (9, .sl 2 (Q.map pkL)), (47, .sl 2 (B.map pkL)), (48, .i B.length), (49, .i k)], 0, []⟩) (fun k => k ≤ B.length) (fun k => B.length - k) 0 (Nat.zero_le _)
    (le_of h0 rfl ⟨rfl, rfl, rfl, rfl, rfl, rfl, rfl, trivial⟩ trivial rfl rfl rfl) (fun k hk => ?_)
  repeat' ((first | refine call_i e4 ?_ | refine call_i v3 ?_ | refine call_i awake5_call ?_ |refine aops_go ?_|refine awp_go ?_|refine guard_tt ?_|refine guard_ff ?_|refine guard_tf ?_|refine guard_ft ?_|refine cond_t ?_|refine cond_f ?_|refine Z1 ?_|refine Z2 ?_|refine stp ?_|(refine And.intro ?_ ?_<;>intro h<;>try first|(exfalso;omega)|exact absurd rfl h)|refine Z3 ?_|refine Z4 ?_|intro el hel hbB|intro el hel|intro ex|refine Z5 ?_|(refine free_i ?_ ?_;exact ⟨by kernel_rfl,by decide⟩)|refine allI_c ?_ ?_|exact allI_n|refine allMP_c ?_ ?_|exact allMP_n|(refine many_step ?_ ?_ ?_;kernel_rfl;kernel_rfl)) <;> (try (conv => whnf)))
  all_goals first
    | exact ret_tmp rfl rfl
    | skip
  have hx := n3 el (List.mem_of_getElem? hel)
  generalize hxe : el = x at *
  refine loop_i (ι := Nat × Bool) (fun z => ⟨[(4, .iptr (sL s)), (5, .iptr (cndX a)), (8, .sl 2 (P.map pkL)), (9, .sl 2 (Q.map pkL)), (11, .iptr (pkL x)), (12, .b z.2), (47, .sl 2 (B.map pkL)), (48, .i B.length), (49, .i k), (56, .sl 2 ((P ++ Q).map pkL)), (57, .i (P ++ Q).length), (58, .i z.1)], 0, []⟩) (fun z => z.1 ≤ (P ++ Q).length ∧ (z.2 = true ∨ ∀ y ∈ (P ++ Q).take z.1, y ≠ x)) (fun z => (P ++ Q).length - z.1) (0, false) ⟨Nat.zero_le _, .inr (by simp)⟩
    (le_of h0 rfl ⟨rfl, rfl, rfl, rfl, rfl, rfl, rfl, rfl, rfl, congrArg (fun z => some (AV.sl 2 z)) (by simp), congrArg (fun z : Int => some (AV.i z)) (by simp only [List.length_append, List.length_map, List.length_nil]; omega), rfl, trivial⟩ trivial rfl rfl rfl) (fun z hI => ?_)
  obtain ⟨j, f⟩ := z
  obtain ⟨hj, hI⟩ := hI
  dsimp only at hj hI ⊢
  have hPQ : (P ++ Q).length ≤ 200 := by rw [List.length_append]; omega
  have hstep : ∀ el : Pk, (P ++ Q)[j]? = some el → f = false → (decide (x.col = el.col ∧ x.lev = el.lev) = true ∨ ∀ y ∈ (P ++ Q).take (j + 1), y ≠ x) := by
    intro el hel hf
    by_cases e : x.col = el.col ∧ x.lev = el.lev
    · exact .inl (decide_eq_true e)
    · refine .inr fun y hy => ?_
      rw [takec hel, List.mem_append, List.mem_singleton] at hy
      rcases hy with hy | rfl
      · rcases hI with h | h
        · rw [h] at hf; cases hf
        · exact h y hy
      · rintro rfl; exact e ⟨rfl, rfl⟩
  have hend : ¬ (j : Int) < (P ++ Q).length → f = true := fun hh => by
    rcases hI with h | h
    · exact h
    · rw [List.take_of_length_le (by omega)] at h
      exact absurd rfl (h x hx)
  repeat' ((first|refine aops_go ?_|refine awp_go ?_|refine guard_tt ?_|refine guard_ff ?_|refine guard_tf ?_|refine guard_ft ?_|refine cond_t ?_|refine cond_f ?_|refine Z1 ?_|refine Z2 ?_|refine stp ?_|(refine And.intro ?_ ?_<;>intro h<;>try first|(exfalso;omega)|exact absurd rfl h)|refine Z3 ?_|refine Z4 ?_|intro el hel hbB|intro el hel|intro ex|refine Z5 ?_|(refine free_i ?_ ?_;exact ⟨by kernel_rfl,by decide⟩)|refine allI_c ?_ ?_|exact allI_n|refine allMP_c ?_ ?_|exact allMP_n|(refine many_step ?_ ?_ ?_;kernel_rfl;kernel_rfl)) <;> (try (conv => whnf)))
  all_goals first
    | exact ⟨(j + 1, true), ⟨by dsimp only; omega, .inl rfl⟩, by dsimp only; omega, le_of h0 rfl ⟨rfl, rfl, rfl, rfl, rfl, rfl, rfl, rfl, rfl, rfl, rfl, rfl, trivial⟩ trivial rfl rfl rfl⟩
    | exact ⟨(j + 1, decide (x.col = el.col ∧ x.lev = el.lev)), ⟨by dsimp only; omega, hstep el hel h⟩, by dsimp only; omega, le_of h0 rfl ⟨rfl, rfl, rfl, rfl, rfl, rfl, rfl, rfl, rfl, rfl, rfl, rfl, trivial⟩ trivial rfl rfl rfl⟩
    | exact absurd ((hend (by assumption)).symm.trans h) (by decide)
    | exact ⟨k + 1, by omega, by omega, le_of h0 rfl ⟨rfl, rfl, rfl, rfl, rfl, rfl, rfl, trivial⟩ trivial rfl rfl rfl⟩
    | trace_state
theorem conditionJoins_all (l : List AV) (h : AShapes Tryz.prog Tryz.f9.params.toList l) : FCall Tryz.prog 9 l (.b true) := by
  obtain ⟨a1, r, rfl, h1, rfl⟩ := h
  obtain ⟨l, hl, rfl⟩ := ash_by h1
  exact conditionJoins_call l hl
end Go.Proofs.YtghlhejdfgkjaaaGreatDoor

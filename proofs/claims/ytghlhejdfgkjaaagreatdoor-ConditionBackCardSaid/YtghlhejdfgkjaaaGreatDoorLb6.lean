/- ConditionBack: a text that was printed is parsed, and a text that is parsed is printed. -/
import Derived.Test.YtghlhejdfgkjaaaGreatDoorBk2
import Derived.Test.YtghlhejdfgkjaaaGreatDoorAvX
import Derived.Test.YtghlhejdfgkjaaaGreatDoorD2
import Derived.Test.YtghlhejdfgkjaaaGreatDoorAw5
import Derived.Test.YtghlhejdfgkjaaaGreatDoorB4
import Derived.Test.YtghlhejdfgkjaaaGreatDoorB12
import Derived.Test.YtghlhejdfgkjaaaGreatDoorB14
import Derived.Test.YtghlhejdfgkjaaaGreatDoorGf1
namespace Go.Proofs.YtghlhejdfgkjaaaGreatDoor
open Go Go.Av
attribute [local irreducible] AWp AOps AAny MAny DQ retQ retG St.le FCall GCall
set_option linter.unusedVariables false
set_option linter.unnecessarySimpa false
set_option linter.unusedSimpArgs false
set_option maxRecDepth 100000

set_option maxHeartbeats 4000000 in
theorem same_self (c : Cnd) : FCall Tryz.prog 38 [cndA c, cndA c] (.b true) := by
  refine cnd_ind (p := fun c => FCall Tryz.prog 38 [cndA c, cndA c] (.b true)) (fun c ih => ?_) c
  rw [cndA_eq]
  refine fcall_intro (n := 67) Tryz.func38 (by kernel_rfl) rfl rfl rfl rfl rfl (by intro t T h; cases h) (fun hrd E h0 => ?_)
  have hlen : c.kids.length ≤ 9223372036854775807 := by
    have := ((hrd _ (List.mem_cons_self ..)).agg (.sl 6 (c.kids.map cndX)) (by simp)).sl
    simpa using this
  clear hrd
  repeat' ((first | (refine draw_q ?_ ?_; kernel_rfl) |refine aops_go ?_|refine awp_go ?_|refine guard_tt ?_|refine guard_ff ?_|refine guard_tf ?_|refine guard_ft ?_|refine cond_t ?_|refine cond_f ?_|refine Z1 ?_|refine Z2 ?_|refine stp ?_|(refine And.intro ?_ ?_<;>intro h<;>try first|(exfalso;omega)|exact absurd rfl h)|refine Z3 ?_|refine Z4 ?_|intro el hel hbB|intro el hel|intro ex|refine Z5 ?_|(refine free_i ?_ ?_;exact ⟨by kernel_rfl,by decide⟩)|refine allI_c ?_ ?_|exact allI_n|refine allMP_c ?_ ?_|exact allMP_n|(refine many_step ?_ ?_ ?_;kernel_rfl;kernel_rfl)) <;> (try (conv => whnf)))
  all_goals first
    | (exfalso; omega)
    | skip
  refine loop_i (ι := Nat) (fun k => ⟨[(2, .ref 0 0), (3, .ref 1 0), (5, .i k)], 2, [(0, some (.box (cndY c))), (1, some (.box (cndY c)))]⟩) (fun k => k ≤ c.kids.length) (fun k => c.kids.length - k) 0 (Nat.zero_le _)
    (le_of h0 rfl ⟨rfl, rfl, rfl, trivial⟩ ⟨rfl, rfl, trivial⟩ rfl rfl rfl) (fun k hk => ?_)
  repeat' ((first | (refine call_i (ih _ (List.mem_of_getElem? (by assumption))) ?_) | (refine draw_q ?_ ?_; kernel_rfl) |refine aops_go ?_|refine awp_go ?_|refine guard_tt ?_|refine guard_ff ?_|refine guard_tf ?_|refine guard_ft ?_|refine cond_t ?_|refine cond_f ?_|refine Z1 ?_|refine Z2 ?_|refine stp ?_|(refine And.intro ?_ ?_<;>intro h<;>try first|(exfalso;omega)|exact absurd rfl h)|refine Z3 ?_|refine Z4 ?_|intro el hel hbB|intro el hel|intro ex|refine Z5 ?_|(refine free_i ?_ ?_;exact ⟨by kernel_rfl,by decide⟩)|refine allI_c ?_ ?_|exact allI_n|refine allMP_c ?_ ?_|exact allMP_n|(refine many_step ?_ ?_ ?_;kernel_rfl;kernel_rfl)) <;> (try (conv => whnf)))
  all_goals first
    | exact ret_tmp rfl rfl
    | exact ⟨k + 1, by omega, by omega, le_of h0 rfl ⟨rfl, rfl, rfl, trivial⟩ ⟨rfl, rfl, trivial⟩ rfl rfl rfl⟩
    | (exfalso; omega)
    | trace_state
set_option maxHeartbeats 16000000 in
theorem conditionBack_call (l raw : List UInt8) (hl : l.length ≤ maxLen) (hraw : raw.length ≤ 140737488355328) : FCall Tryz.prog 5 [.sl 1 (l.map u8A), .str raw] (.b true) := by
  unfold maxLen at hl
  have hL : (l.take 400).length ≤ 400 := List.length_take_le _ _
  have hnew := new_call l (by omega)
  have hsch := schc_draw (l.take 400) 0 hL
  have hd := schS_drawn (l.take 400) 0
  generalize schS (l.take 400) 0 = s0 at *
  obtain ⟨s, a0⟩ := s0
  dsimp only at hsch hd
  generalize l.take 400 = t at *
  have hx := cond_draw t s hd hL 3 a0 (by omega)
  have qx := (cond_right hd t 3 a0 (by omega)).1
  generalize condS t s 3 a0 = A at *
  obtain ⟨x, a1⟩ := A
  dsimp only at hx qx
  have hr := hd.ok
  have tl : (txtS s x).length ≤ 4000 := by
    obtain ⟨_, h3, _, h5⟩ := cndE_parts qx
    have := (ctext_call s hr x h5 (by omega)).2
    omega
  have e1 : FCall Tryz.prog 36 [sA s, cndA x] (.tup [.str (txtS s x), .i 0]) := (cprint_call s x).congr (by rw [priS, if_pos qx])
  have e2 : FCall Tryz.prog 37 [sA s, .str (txtS s x)] (.tup [cndA x, .i 0]) := (cparse_call s (txtS s x) (by omega)).congr (by rw [(par_iff hr (txtS s x) x).2 ⟨qx, rfl⟩])
  have e3 := same_self x
  have e4 := cparse_call s raw hraw
  rcases par_cases hr raw with ⟨z, hz⟩ | hz
  · obtain ⟨q1, q2⟩ := (par_iff hr raw z).1 hz
    have e5 : FCall Tryz.prog 36 [sA s, cndA z] (.tup [.str raw, .i 0]) := (cprint_call s z).congr (by rw [priS, if_pos q1, ← q2])
    rw [hz] at e4
    clear tl qx hz q1 q2 hd hr
    generalize txtS s x = tx at *
    refine fcall_intro (n := 72) Tryz.func5 (by kernel_rfl) rfl rfl rfl rfl rfl (by intro t T h; cases h) (fun hrd E h0 => ?_)
    clear hrd
    repeat' ((first | refine ncall_g [] [] hnew rfl rfl rfl rfl rfl trivial rfl rfl rfl rfl rfl ?_ | refine ⟨ncall_h [0] [0] hsch rfl rfl rfl rfl rfl ⟨rfl, trivial⟩ rfl rfl rfl rfl rfl ?_⟩ | refine ⟨ncall_h [0] [0] hx rfl rfl rfl rfl rfl ⟨rfl, trivial⟩ rfl rfl rfl rfl rfl ?_⟩ | refine call_i e1 ?_ | refine call_i e2 ?_ | refine call_i e3 ?_ | refine call_i e4 ?_ | refine call_i e5 ?_ | refine call_i awake5_call ?_ |refine aops_go ?_|refine awp_go ?_|refine guard_tt ?_|refine guard_ff ?_|refine guard_tf ?_|refine guard_ft ?_|refine cond_t ?_|refine cond_f ?_|refine Z1 ?_|refine Z2 ?_|refine stp ?_|(refine And.intro ?_ ?_<;>intro h<;>try first|(exfalso;omega)|exact absurd rfl h)|refine Z3 ?_|refine Z4 ?_|intro el hel hbB|intro el hel|intro ex|refine Z5 ?_|(refine free_i ?_ ?_;exact ⟨by kernel_rfl,by decide⟩)|refine allI_c ?_ ?_|exact allI_n|refine allMP_c ?_ ?_|exact allMP_n|(refine many_step ?_ ?_ ?_;kernel_rfl;kernel_rfl)) <;> (try (conv => whnf)))
    all_goals first
      | exact ret_tmp rfl rfl
      | trace_state
  · rw [hz] at e4
    clear tl qx hz hd hr
    generalize txtS s x = tx at *
    refine fcall_intro (n := 72) Tryz.func5 (by kernel_rfl) rfl rfl rfl rfl rfl (by intro t T h; cases h) (fun hrd E h0 => ?_)
    clear hrd
    repeat' ((first | refine ncall_g [] [] hnew rfl rfl rfl rfl rfl trivial rfl rfl rfl rfl rfl ?_ | refine ⟨ncall_h [0] [0] hsch rfl rfl rfl rfl rfl ⟨rfl, trivial⟩ rfl rfl rfl rfl rfl ?_⟩ | refine ⟨ncall_h [0] [0] hx rfl rfl rfl rfl rfl ⟨rfl, trivial⟩ rfl rfl rfl rfl rfl ?_⟩ | refine call_i e1 ?_ | refine call_i e2 ?_ | refine call_i e3 ?_ | refine call_i e4 ?_ | refine call_i awake5_call ?_ |refine aops_go ?_|refine awp_go ?_|refine guard_tt ?_|refine guard_ff ?_|refine guard_tf ?_|refine guard_ft ?_|refine cond_t ?_|refine cond_f ?_|refine Z1 ?_|refine Z2 ?_|refine stp ?_|(refine And.intro ?_ ?_<;>intro h<;>try first|(exfalso;omega)|exact absurd rfl h)|refine Z3 ?_|refine Z4 ?_|intro el hel hbB|intro el hel|intro ex|refine Z5 ?_|(refine free_i ?_ ?_;exact ⟨by kernel_rfl,by decide⟩)|refine allI_c ?_ ?_|exact allI_n|refine allMP_c ?_ ?_|exact allMP_n|(refine many_step ?_ ?_ ?_;kernel_rfl;kernel_rfl)) <;> (try (conv => whnf)))
    all_goals first
      | exact ret_tmp rfl rfl
      | trace_state
theorem conditionBack_all (l : List AV) (h : AShapes Tryz.prog Tryz.f5.params.toList l) (hb : StrB Tryz.prog Tryz.f5.params.toList l) : FCall Tryz.prog 5 l (.b true) := by
  obtain ⟨a1, r1, rfl, h1, a2, r2, rfl, h2, rfl⟩ := h
  obtain ⟨l, hl, rfl⟩ := ash_by h1
  obtain ⟨s, _, rfl⟩ := ash_s h2
  exact conditionBack_call l s hl (hb 1 9 s rfl Tryz.underlying9 rfl)
end Go.Proofs.YtghlhejdfgkjaaaGreatDoor

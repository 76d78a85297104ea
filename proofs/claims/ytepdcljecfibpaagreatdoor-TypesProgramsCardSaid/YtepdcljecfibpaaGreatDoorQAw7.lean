/- Chapter 17: the example of the chapter. -/
import Derived.Test.YtepdcljecfibpaaGreatDoorQTp4
import Derived.Test.YtepdcljecfibpaaGreatDoorQB12
import Derived.Test.YtepdcljecfibpaaGreatDoorQB4
namespace Go.Proofs.YtepdcljecfibpaaGreatDoor
open Go Go.Av
attribute [local irreducible] AWp AOps AAny MAny DQ retQ retG St.le FCall GCall
set_option linter.unusedVariables false
set_option linter.unnecessarySimpa false
set_option linter.unusedSimpArgs false
set_option maxRecDepth 100000
theorem intsW_call (xs ys : List Int) : FCall Tryz.prog 13 [.sl 1 (xs.map wA), .sl 1 (ys.map wA)] (.b (decide (xs = ys))) := by
  refine fcall_intro (n := 26) Tryz.func13 (by kernel_rfl) rfl rfl rfl rfl rfl (by intro t T h; cases h) (fun hrd E h0 => ?_)
  have hlen : xs.length ≤ 9223372036854775807 := by
    have := (hrd (.sl 1 (xs.map wA)) (by simp)).sl
    simpa using this
  have hlen2 : ys.length ≤ 9223372036854775807 := by
    have := (hrd (.sl 1 (ys.map wA)) (by simp)).sl
    simpa using this
  clear hrd
  repeat' ((first|refine aops_go ?_|refine awp_go ?_|refine guard_tt ?_|refine guard_ff ?_|refine guard_tf ?_|refine guard_ft ?_|refine cond_t ?_|refine cond_f ?_|refine Z1 ?_|refine Z2 ?_|refine stp ?_|(refine And.intro ?_ ?_<;>intro h<;>try first|(exfalso;omega)|exact absurd rfl h)|refine Z3 ?_|refine Z4 ?_|intro el hel hbB|intro el hel|intro ex|refine Z5 ?_|(refine free_i ?_ ?_;exact ⟨by kernel_rfl,by decide⟩)|refine allI_c ?_ ?_|exact allI_n|refine allMP_c ?_ ?_|exact allMP_n|(refine many_step ?_ ?_ ?_;kernel_rfl;kernel_rfl)) <;> (try (conv => whnf)))
  · exact ret_tmp rfl (congrArg AV.b (by
      have : xs ≠ ys := by intro e; subst e; omega
      simp [this]))
  have hl : xs.length = ys.length := by omega
  refine loop_i (ι := Nat) (fun k => ⟨[(0, .sl 1 (xs.map wA)), (1, .sl 1 (ys.map wA)), (5, .i k)], 0, []⟩) (fun k => k ≤ xs.length ∧ ys.take k = xs.take k) (fun k => xs.length - k) 0 ⟨Nat.zero_le _, rfl⟩ (le_of h0 rfl ⟨rfl, rfl, rfl, trivial⟩ trivial rfl rfl rfl) (fun k hI => ?_)
  obtain ⟨hk, hI⟩ := hI
  by_cases hlt : k < xs.length
  · obtain ⟨x, hx⟩ : ∃ x, xs[k]? = some x := ⟨_, List.getElem?_eq_getElem hlt⟩
    obtain ⟨y, hy⟩ : ∃ y, ys[k]? = some y := ⟨_, List.getElem?_eq_getElem (by omega)⟩
    repeat' ((first | (refine each_knownm (x := x) hx (by omega) ?_) | (refine each_knownm (x := y) hy (by omega) ?_) | (refine draw_q ?_ ?_; kernel_rfl) |refine aops_go ?_|refine awp_go ?_|refine guard_tt ?_|refine guard_ff ?_|refine guard_tf ?_|refine guard_ft ?_|refine cond_t ?_|refine cond_f ?_|refine Z1 ?_|refine Z2 ?_|refine stp ?_|(refine And.intro ?_ ?_<;>intro h<;>try first|(exfalso;omega)|exact absurd rfl h)|refine Z3 ?_|refine Z4 ?_|intro el hel hbB|intro el hel|intro ex|refine Z5 ?_|(refine free_i ?_ ?_;exact ⟨by kernel_rfl,by decide⟩)|refine allI_c ?_ ?_|exact allI_n|refine allMP_c ?_ ?_|exact allMP_n|(refine many_step ?_ ?_ ?_;kernel_rfl;kernel_rfl)) <;> (try (conv => whnf)))
    all_goals first
      | (exfalso; omega)
      | (refine ret_tmp rfl (congrArg AV.b (decide_eq_false (fun e => ?_)).symm)
         subst e
         rw [hx] at hy
         cases hy
         omega)
      | exact ⟨k + 1, ⟨by omega, by rw [takec hx, takec hy, hI]; congr 2; omega⟩, by omega, le_of h0 rfl ⟨rfl, rfl, rfl, trivial⟩ trivial rfl rfl rfl⟩
  · repeat' ((first|refine aops_go ?_|refine awp_go ?_|refine guard_tt ?_|refine guard_ff ?_|refine guard_tf ?_|refine guard_ft ?_|refine cond_t ?_|refine cond_f ?_|refine Z1 ?_|refine Z2 ?_|refine stp ?_|(refine And.intro ?_ ?_<;>intro h<;>try first|(exfalso;omega)|exact absurd rfl h)|refine Z3 ?_|refine Z4 ?_|intro el hel hbB|intro el hel|intro ex|refine Z5 ?_|(refine free_i ?_ ?_;exact ⟨by kernel_rfl,by decide⟩)|refine allI_c ?_ ?_|exact allI_n|refine allMP_c ?_ ?_|exact allMP_n|(refine many_step ?_ ?_ ?_;kernel_rfl;kernel_rfl)) <;> (try (conv => whnf)))
    all_goals first
      | (exfalso; omega)
      | (refine ret_tmp rfl (congrArg AV.b (decide_eq_true ?_).symm)
         rw [List.take_of_length_le (by omega), List.take_of_length_le (by omega)] at hI
         exact hI.symm)
set_option maxHeartbeats 8000000 in
theorem tNeeds_call (s : Sch) (e : Xpr) : FCall Tryz.prog 15 [sA s, xprA e] (.sl 2 ((neeS s e).map pkL)) := by
  have h1 := scheck_call s
  have h2 := rightX_call s e
  have h3 : rigX s e = true → FCall Tryz.prog 30 [sA s, xprA e] (.sl 2 ((nedS s e).map pkL)) := fun h => by
    unfold rigX at h
    simp only [Bool.and_eq_true] at h
    exact tneeds_call s (of_decide_eq_true h.1) e h.2
  have h4 : schE s ≠ 0 → rigX s e = false := fun h => by unfold rigX; rw [decide_eq_false h]; rfl
  unfold neeS
  generalize rigX s e = b at *
  generalize nedS s e = R at *
  refine fcall_intro (n := 17) Tryz.func15 (by kernel_rfl) rfl rfl rfl rfl rfl (by intro t T h; cases h) (fun hrd E h0 => ?_)
  clear hrd
  repeat' ((first | refine call_i h1 ?_ | refine call_i h2 ?_ | (refine call_i (h3 (by assumption)) ?_) | (refine draw_q ?_ ?_; kernel_rfl) |refine aops_go ?_|refine awp_go ?_|refine guard_tt ?_|refine guard_ff ?_|refine guard_tf ?_|refine guard_ft ?_|refine cond_t ?_|refine cond_f ?_|refine Z1 ?_|refine Z2 ?_|refine stp ?_|(refine And.intro ?_ ?_<;>intro h<;>try first|(exfalso;omega)|exact absurd rfl h)|refine Z3 ?_|refine Z4 ?_|intro el hel hbB|intro el hel|intro ex|refine Z5 ?_|(refine free_i ?_ ?_;exact ⟨by kernel_rfl,by decide⟩)|refine allI_c ?_ ?_|exact allI_n|refine allMP_c ?_ ?_|exact allMP_n|(refine many_step ?_ ?_ ?_;kernel_rfl;kernel_rfl)) <;> (try (conv => whnf)))
  all_goals first
    | (rw [h4 (by assumption)]; exact ret_nil (sz := 2) rfl rfl)
    | (rw [if_neg (by simp [*])]; exact ret_nil (sz := 2) rfl rfl)
    | (rw [if_pos (by assumption)]; exact ret_tmp rfl rfl)
def ex7S : Sch := ⟨[([108], [⟨[97], -1⟩, ⟨[98], 0⟩, ⟨[99], 0⟩])], [⟨[119, 104, 111], 1, 0, 0, 0, [], false⟩, ⟨[115, 101, 120], 2, 0, 0, 0, [], false⟩]⟩
abbrev ex7A : AV := .agg [.sl 2 [[.str [108], .sl 2 [[.str [97], .i (-1)], [.str [98], .i 0], [.str [99], .i 0]]]], .sl 7 [[.str [119, 104, 111], .i 1, .i 0, .i 0, .i 0, .v (.slice none 0 0), .b false], [.str [115, 101, 120], .i 2, .i 0, .i 0, .i 0, .v (.slice none 0 0), .b false]]]
theorem ex7A_nl : NL ex7A (sA ex7S) := nl_agg ⟨.refl _, nl_sl ⟨⟨.refl _, .refl _, .refl _, .refl _, .refl _, .nil 1, .refl _, trivial⟩, ⟨.refl _, .refl _, .refl _, .refl _, .refl _, .nil 1, .refl _, trivial⟩, trivial⟩, trivial⟩
def z7 : Cnd := .mk 0 0 0 0 0 []
def all7 : Cnd := .mk 1 0 0 0 0 []
def t7 : Xpr := .mk 10 0 [] (-1) [] [⟨1, 1⟩] all7 z7 []
def x7 : Xpr := .mk 6 0 [] 0 [] [] z7 z7 [.mk 2 0 [116] 0 [] [] z7 z7 [], .mk 1 0 [] 0 [] [] z7 z7 []]
abbrev n7 : AV := .v (.slice none 0 0)
abbrev t7L : List AV := [.i 10, .i 0, .str [], .i (-1), n7, .sl 2 [[.i 1, .i 1]], .i 1, .i 0, .i 0, .i 0, .i 0, n7, .i 0, .i 0, .i 0, .i 0, .i 0, n7, n7]
abbrev x7L : List AV := [.i 6, .i 0, .str [], .i 0, n7, n7, .i 0, .i 0, .i 0, .i 0, .i 0, n7, .i 0, .i 0, .i 0, .i 0, .i 0, n7, .sl 19 [[.i 2, .i 0, .str [116], .i 0, n7, n7, .i 0, .i 0, .i 0, .i 0, .i 0, n7, .i 0, .i 0, .i 0, .i 0, .i 0, n7, n7], [.i 1, .i 0, .str [], .i 0, n7, n7, .i 0, .i 0, .i 0, .i 0, .i 0, n7, .i 0, .i 0, .i 0, .i 0, .i 0, n7, n7]]]
theorem t7_nl : NLs t7L (xprX t7) := ⟨.refl _, .refl _, .refl _, .refl _, .nil 1, .refl _, .refl _, .refl _, .refl _, .refl _, .refl _, .nil 6, .refl _, .refl _, .refl _, .refl _, .refl _, .nil 6, .nil 19, trivial⟩
theorem x7_nl : NLs x7L (xprX x7) := ⟨.refl _, .refl _, .refl _, .refl _, .nil 1, .nil 2, .refl _, .refl _, .refl _, .refl _, .refl _, .nil 6, .refl _, .refl _, .refl _, .refl _, .refl _, .nil 6, nl_sl ⟨⟨.refl _, .refl _, .refl _, .refl _, .nil 1, .nil 2, .refl _, .refl _, .refl _, .refl _, .refl _, .nil 6, .refl _, .refl _, .refl _, .refl _, .refl _, .nil 6, .nil 19, trivial⟩, ⟨.refl _, .refl _, .refl _, .refl _, .nil 1, .nil 2, .refl _, .refl _, .refl _, .refl _, .refl _, .nil 6, .refl _, .refl _, .refl _, .refl _, .refl _, .nil 6, .nil 19, trivial⟩, trivial⟩, trivial⟩
set_option maxHeartbeats 8000000 in
theorem awake7_call : FCall Tryz.prog 5 [] (.b true) := by
  have p1 : NL (.sl 21 [.str [116] :: .b false :: t7L]) (.sl 21 ([(⟨[116], false, t7⟩ : Stm)].map stmL)) := nl_sl ⟨⟨.refl _, .refl _, t7_nl⟩, trivial⟩
  have p2 : NL (.sl 21 [.str [116] :: .b false :: t7L, .str [120] :: .b false :: x7L]) (.sl 21 ([(⟨[116], false, t7⟩ : Stm), ⟨[120], false, x7⟩].map stmL)) := nl_sl ⟨⟨.refl _, .refl _, t7_nl⟩, ⟨.refl _, .refl _, x7_nl⟩, trivial⟩
  have c1 := fcall_nl ((tProgram_call ex7S [⟨1, 1⟩] [⟨[116], false, t7⟩]).congr (congrArg tup3K (show typS ex7S [⟨1, 1⟩] [⟨[116], false, t7⟩] = ([2], 1, 0) by decide +kernel))) (l' := [ex7A, .sl 2 [[.i 1, .i 1]], .sl 21 [.str [116] :: .b false :: t7L]]) ⟨ex7A_nl, .refl _, p1, trivial⟩
  have c2 := fcall_nl ((tProgram_call ex7S [⟨1, 1⟩] [⟨[116], false, t7⟩, ⟨[120], false, x7⟩]).congr (congrArg tup3K (show typS ex7S [⟨1, 1⟩] [⟨[116], false, t7⟩, ⟨[120], false, x7⟩] = ([], 1, 16) by decide +kernel))) (l' := [ex7A, .sl 2 [[.i 1, .i 1]], .sl 21 [.str [116] :: .b false :: t7L, .str [120] :: .b false :: x7L]]) ⟨ex7A_nl, .refl _, p2, trivial⟩
  have c3 := fcall_nl ((texpr_call ex7S [] [] t7).congr (congrArg (fun z : Int × Int => AV.tup [.i z.1, .i z.2]) (show exkS ex7S [] [] t7 = (0, 23) by decide +kernel))) (l' := [ex7A, n7, n7, .agg t7L]) ⟨ex7A_nl, .nil 2, .nil 26, nl_agg t7_nl, trivial⟩
  have c4 := fcall_nl ((tNeeds_call ex7S t7).congr (congrArg (fun z : List Pk => AV.sl 2 (z.map pkL)) (show neeS ex7S t7 = [⟨1, 1⟩] by decide +kernel))) (l' := [ex7A, .agg t7L]) ⟨ex7A_nl, nl_agg t7_nl, trivial⟩
  have c5 := (intsW_call [2] [2]).congr (congrArg AV.b (decide_eq_true rfl))
  refine fcall_intro (n := 93) Tryz.func5 (by kernel_rfl) rfl rfl rfl rfl rfl (by intro t T h; cases h) (fun hrd E h0 => ?_)
  clear hrd
  repeat' ((first | refine call_i c1 ?_ | refine call_i c2 ?_ | refine call_i c3 ?_ | refine call_i c4 ?_ | refine call_i c5 ?_ | (refine draw_q ?_ ?_; kernel_rfl) |refine aops_go ?_|refine awp_go ?_|refine guard_tt ?_|refine guard_ff ?_|refine guard_tf ?_|refine guard_ft ?_|refine cond_t ?_|refine cond_f ?_|refine Z1 ?_|refine Z2 ?_|refine stp ?_|(refine And.intro ?_ ?_<;>intro h<;>try first|(exfalso;omega)|exact absurd rfl h)|refine Z3 ?_|refine Z4 ?_|intro el hel hbB|intro el hel|intro ex|refine Z5 ?_|(refine free_i ?_ ?_;exact ⟨by kernel_rfl,by decide⟩)|refine allI_c ?_ ?_|exact allI_n|refine allMP_c ?_ ?_|exact allMP_n|(refine many_step ?_ ?_ ?_;kernel_rfl;kernel_rfl)) <;> (try (conv => whnf)))
  all_goals first
    | exact ret_tmp rfl rfl
end Go.Proofs.YtepdcljecfibpaaGreatDoor

/- Chapter 5: the reader's numbers, and what stands behind a column's name. -/
import Derived.Test.YtghlhejdfgkjaaaGreatDoorPr2
import Derived.Test.YtghlhejdfgkjaaaGreatDoorDr8
import Derived.Lib.AtoiAllCases
namespace Go.Proofs.YtghlhejdfgkjaaaGreatDoor
open Go Go.Av
attribute [local irreducible] AWp AOps AAny MAny DQ retQ retG St.le FCall GCall
set_option linter.unusedVariables false
set_option linter.unnecessarySimpa false
set_option linter.unusedSimpArgs false
set_option maxRecDepth 100000

theorem cut_cases (w t : List UInt8) : cutS w t = (t, false) ∨ ∃ u, cutS w t = (u, true) ∧ u.length ≤ t.length := by
  unfold cutS
  split
  · exact .inr ⟨_, rfl, by simp⟩
  · exact .inl rfl
set_option maxHeartbeats 4000000 in
theorem numv_call (s : Sch) (t u w r sg : List UInt8) (neg : Bool) (left : Int) (hc : cutS [45] t = (u, neg)) (hw : u.takeWhile isW = w) (hr : u.dropWhile isW = r) (hsg : sg = if neg = true then [45] else []) (ht : t.length ≤ 140737488355328) (hu : u.length ≤ t.length) (v : Int) (b : Bool)
    (hat : FCall Tryz.prog 225 [.str (sg ++ w)] (.tup [.v (.int .i64 v), if b = true then .v .nilIface else .err])) (hb : b = true → -9223372036854775808 ≤ v ∧ v ≤ 9223372036854775807) :
    GCall Tryz.prog 180 1 (rdB s t left) [.ref 0 0] 1 (rdB s r left) (.tup [.i v, .b (b && decide (Lib.itoa v = sg ++ w))]) := by
  have r1 := take_call s t [45] left (by omega) (by decide)
  have r2 := word_call s u left (by omega)
  have hwl := takeWhile_len isW u
  rw [hc] at r1
  rw [hw] at hwl
  rw [hw, hr] at r2
  dsimp only at r1
  have r4 : b = true → FCall Tryz.prog 61 [.v (.int .i64 v)] (.str (Lib.itoa v)) := fun h => itoaI_call v (hb h).1 (hb h).2
  cases neg
  · obtain rfl : sg = [] := hsg
    cases b
    · rw [if_neg Bool.false_ne_true] at hat
      refine gcall_intro (n := 30) Tryz.func180 (by kernel_rfl) rfl rfl rfl rfl (fun E h0 => ?_)
      repeat' ((first | refine ⟨ncall_h [0] [0] r1 rfl rfl rfl rfl rfl ⟨rfl, trivial⟩ rfl rfl rfl rfl rfl ?_⟩ | refine ⟨ncall_h [0] [0] r2 rfl rfl rfl rfl rfl ⟨rfl, trivial⟩ rfl rfl rfl rfl rfl ?_⟩ | refine call_i hat ?_ | (refine side_i ?_ ?_; (show 0 + w.length ≤ 9223372036854775807; omega))  | refine aops_go ?_ | refine awp_go ?_ | refine guard_tt ?_ | refine guard_ff ?_ | refine guard_tf ?_ | refine guard_ft ?_ | refine cond_t ?_ | refine cond_f ?_ | (refine each_knownm (by assumption) (by omega) ?_) | (refine each_known (by assumption) (by omega) ?_) | refine stp ?_ | (refine And.intro (fun h => ?_) (fun h => ?_) <;> try (first | (exfalso; omega) | exact absurd rfl h)) | (refine side_i ?_ ?_; (first | omega | exact Eq.refl _ | exact ⟨Eq.refl _, by omega⟩ | (simp only [List.length_map]; omega) | exact imsB rfl | exact ims_map fun _ => rfl | (constructor <;> (simp only [elsA, cellsA, List.length_cons, List.length_nil, List.length_map]; omega)))) | (refine each_mapNb ?_ (fun el hel hbB => ?_); omega) | (refine each_mapb ?_ ?_ (fun el hel hbB => ?_); omega; omega) | (refine each_lb ?_ ?_ (fun el hel hbB => ?_); omega; omega) | (refine each_mapN ?_ (fun el hel => ?_); omega) | (refine each_map ?_ ?_ (fun el hel => ?_); omega; omega) | (refine each_l ?_ ?_ (fun el hel => ?_); omega; omega) | (refine conv_bytes ?_ ?_; omega) | (refine aany_go ?_ ?_ ?_; kernel_rfl; rfl) | (refine many_step ?_ ?_ ?_; kernel_rfl; kernel_rfl) | refine ex_i (fun ex => ?_) | refine allMP_c ?_ ?_ | exact allMP_n | (refine mpost_i ?_ ?_ ?_ ?_; rfl; rfl; rfl) | (refine free_i ?_ ?_; exact ⟨by kernel_rfl, by decide⟩) | refine allI_c ?_ ?_ | exact allI_n | (refine draw_p ?_ ?_ ?_; rfl; kernel_rfl)) <;> (try (conv => whnf)))
      all_goals first
        | exact retg_vs (rvs := [.tmp 2, .tmp 3]) (vs := [_, _]) trivial rfl rfl (le_of h0 rfl ⟨rfl, rfl, trivial⟩ ⟨rfl, trivial⟩ rfl rfl rfl) rfl
        | trace_state
    · have r5 := r4 rfl
      rw [if_pos rfl] at hat
      refine gcall_intro (n := 30) Tryz.func180 (by kernel_rfl) rfl rfl rfl rfl (fun E h0 => ?_)
      repeat' ((first | refine ⟨ncall_h [0] [0] r1 rfl rfl rfl rfl rfl ⟨rfl, trivial⟩ rfl rfl rfl rfl rfl ?_⟩ | refine ⟨ncall_h [0] [0] r2 rfl rfl rfl rfl rfl ⟨rfl, trivial⟩ rfl rfl rfl rfl rfl ?_⟩ | refine call_i hat ?_ | (refine side_i ?_ ?_; (show 0 + w.length ≤ 9223372036854775807; omega)) | refine call_i r5 ?_  | refine aops_go ?_ | refine awp_go ?_ | refine guard_tt ?_ | refine guard_ff ?_ | refine guard_tf ?_ | refine guard_ft ?_ | refine cond_t ?_ | refine cond_f ?_ | (refine each_knownm (by assumption) (by omega) ?_) | (refine each_known (by assumption) (by omega) ?_) | refine stp ?_ | (refine And.intro (fun h => ?_) (fun h => ?_) <;> try (first | (exfalso; omega) | exact absurd rfl h)) | (refine side_i ?_ ?_; (first | omega | exact Eq.refl _ | exact ⟨Eq.refl _, by omega⟩ | (simp only [List.length_map]; omega) | exact imsB rfl | exact ims_map fun _ => rfl | (constructor <;> (simp only [elsA, cellsA, List.length_cons, List.length_nil, List.length_map]; omega)))) | (refine each_mapNb ?_ (fun el hel hbB => ?_); omega) | (refine each_mapb ?_ ?_ (fun el hel hbB => ?_); omega; omega) | (refine each_lb ?_ ?_ (fun el hel hbB => ?_); omega; omega) | (refine each_mapN ?_ (fun el hel => ?_); omega) | (refine each_map ?_ ?_ (fun el hel => ?_); omega; omega) | (refine each_l ?_ ?_ (fun el hel => ?_); omega; omega) | (refine conv_bytes ?_ ?_; omega) | (refine aany_go ?_ ?_ ?_; kernel_rfl; rfl) | (refine many_step ?_ ?_ ?_; kernel_rfl; kernel_rfl) | refine ex_i (fun ex => ?_) | refine allMP_c ?_ ?_ | exact allMP_n | (refine mpost_i ?_ ?_ ?_ ?_; rfl; rfl; rfl) | (refine free_i ?_ ?_; exact ⟨by kernel_rfl, by decide⟩) | refine allI_c ?_ ?_ | exact allI_n | (refine draw_p ?_ ?_ ?_; rfl; kernel_rfl)) <;> (try (conv => whnf)))
      all_goals first
        | exact retg_vs (rvs := [.tmp 2, .tmp 3]) (vs := [_, _]) trivial rfl rfl (le_of h0 rfl ⟨rfl, rfl, trivial⟩ ⟨rfl, trivial⟩ rfl rfl rfl) rfl
        | trace_state
  · obtain rfl : sg = [45] := hsg
    cases b
    · rw [if_neg Bool.false_ne_true] at hat
      refine gcall_intro (n := 30) Tryz.func180 (by kernel_rfl) rfl rfl rfl rfl (fun E h0 => ?_)
      repeat' ((first | refine ⟨ncall_h [0] [0] r1 rfl rfl rfl rfl rfl ⟨rfl, trivial⟩ rfl rfl rfl rfl rfl ?_⟩ | refine ⟨ncall_h [0] [0] r2 rfl rfl rfl rfl rfl ⟨rfl, trivial⟩ rfl rfl rfl rfl rfl ?_⟩ | refine call_i hat ?_ | (refine side_i ?_ ?_; (show 1 + w.length ≤ 9223372036854775807; omega))  | refine aops_go ?_ | refine awp_go ?_ | refine guard_tt ?_ | refine guard_ff ?_ | refine guard_tf ?_ | refine guard_ft ?_ | refine cond_t ?_ | refine cond_f ?_ | (refine each_knownm (by assumption) (by omega) ?_) | (refine each_known (by assumption) (by omega) ?_) | refine stp ?_ | (refine And.intro (fun h => ?_) (fun h => ?_) <;> try (first | (exfalso; omega) | exact absurd rfl h)) | (refine side_i ?_ ?_; (first | omega | exact Eq.refl _ | exact ⟨Eq.refl _, by omega⟩ | (simp only [List.length_map]; omega) | exact imsB rfl | exact ims_map fun _ => rfl | (constructor <;> (simp only [elsA, cellsA, List.length_cons, List.length_nil, List.length_map]; omega)))) | (refine each_mapNb ?_ (fun el hel hbB => ?_); omega) | (refine each_mapb ?_ ?_ (fun el hel hbB => ?_); omega; omega) | (refine each_lb ?_ ?_ (fun el hel hbB => ?_); omega; omega) | (refine each_mapN ?_ (fun el hel => ?_); omega) | (refine each_map ?_ ?_ (fun el hel => ?_); omega; omega) | (refine each_l ?_ ?_ (fun el hel => ?_); omega; omega) | (refine conv_bytes ?_ ?_; omega) | (refine aany_go ?_ ?_ ?_; kernel_rfl; rfl) | (refine many_step ?_ ?_ ?_; kernel_rfl; kernel_rfl) | refine ex_i (fun ex => ?_) | refine allMP_c ?_ ?_ | exact allMP_n | (refine mpost_i ?_ ?_ ?_ ?_; rfl; rfl; rfl) | (refine free_i ?_ ?_; exact ⟨by kernel_rfl, by decide⟩) | refine allI_c ?_ ?_ | exact allI_n | (refine draw_p ?_ ?_ ?_; rfl; kernel_rfl)) <;> (try (conv => whnf)))
      all_goals first
        | exact retg_vs (rvs := [.tmp 2, .tmp 3]) (vs := [_, _]) trivial rfl rfl (le_of h0 rfl ⟨rfl, rfl, trivial⟩ ⟨rfl, trivial⟩ rfl rfl rfl) rfl
        | trace_state
    · have r5 := r4 rfl
      rw [if_pos rfl] at hat
      refine gcall_intro (n := 30) Tryz.func180 (by kernel_rfl) rfl rfl rfl rfl (fun E h0 => ?_)
      repeat' ((first | refine ⟨ncall_h [0] [0] r1 rfl rfl rfl rfl rfl ⟨rfl, trivial⟩ rfl rfl rfl rfl rfl ?_⟩ | refine ⟨ncall_h [0] [0] r2 rfl rfl rfl rfl rfl ⟨rfl, trivial⟩ rfl rfl rfl rfl rfl ?_⟩ | refine call_i hat ?_ | (refine side_i ?_ ?_; (show 1 + w.length ≤ 9223372036854775807; omega)) | refine call_i r5 ?_  | refine aops_go ?_ | refine awp_go ?_ | refine guard_tt ?_ | refine guard_ff ?_ | refine guard_tf ?_ | refine guard_ft ?_ | refine cond_t ?_ | refine cond_f ?_ | (refine each_knownm (by assumption) (by omega) ?_) | (refine each_known (by assumption) (by omega) ?_) | refine stp ?_ | (refine And.intro (fun h => ?_) (fun h => ?_) <;> try (first | (exfalso; omega) | exact absurd rfl h)) | (refine side_i ?_ ?_; (first | omega | exact Eq.refl _ | exact ⟨Eq.refl _, by omega⟩ | (simp only [List.length_map]; omega) | exact imsB rfl | exact ims_map fun _ => rfl | (constructor <;> (simp only [elsA, cellsA, List.length_cons, List.length_nil, List.length_map]; omega)))) | (refine each_mapNb ?_ (fun el hel hbB => ?_); omega) | (refine each_mapb ?_ ?_ (fun el hel hbB => ?_); omega; omega) | (refine each_lb ?_ ?_ (fun el hel hbB => ?_); omega; omega) | (refine each_mapN ?_ (fun el hel => ?_); omega) | (refine each_map ?_ ?_ (fun el hel => ?_); omega; omega) | (refine each_l ?_ ?_ (fun el hel => ?_); omega; omega) | (refine conv_bytes ?_ ?_; omega) | (refine aany_go ?_ ?_ ?_; kernel_rfl; rfl) | (refine many_step ?_ ?_ ?_; kernel_rfl; kernel_rfl) | refine ex_i (fun ex => ?_) | refine allMP_c ?_ ?_ | exact allMP_n | (refine mpost_i ?_ ?_ ?_ ?_; rfl; rfl; rfl) | (refine free_i ?_ ?_; exact ⟨by kernel_rfl, by decide⟩) | refine allI_c ?_ ?_ | exact allI_n | (refine draw_p ?_ ?_ ?_; rfl; kernel_rfl)) <;> (try (conv => whnf)))
      all_goals first
        | exact retg_vs (rvs := [.tmp 2, .tmp 3]) (vs := [_, _]) trivial rfl rfl (le_of h0 rfl ⟨rfl, rfl, trivial⟩ ⟨rfl, trivial⟩ rfl rfl rfl) rfl
        | trace_state
theorem number_call (s : Sch) (t : List UInt8) (left : Int) (ht : t.length ≤ 140737488355328) : GCall Tryz.prog 180 1 (rdB s t left) [.ref 0 0] 1 (rdB s (numS t).2.2 left) (.tup [.i (numS t).1, .b (numS t).2.1]) := by
  have hl := cutS_len [45] t
  have hwl := takeWhile_len isW (cutS [45] t).1
  have hz : (numZ t).length ≤ 281474976710656 := by
    unfold numZ
    rw [List.length_append]
    have : (if (cutS [45] t).2 = true then [45] else ([] : List UInt8)).length ≤ 1 := by split <;> simp
    omega
  cases h : Lib.atoiAll (numZ t) with
  | ok v =>
    have := numv_call s t (cutS [45] t).1 _ _ _ (cutS [45] t).2 left rfl rfl rfl rfl ht hl v true (atoi_ok _ hz h) (fun _ => Lib.atoiAll_bounds h)
    rw [Bool.true_and] at this
    unfold numS numV
    rw [h]
    exact this
  | range =>
    have := numv_call s t (cutS [45] t).1 _ _ _ (cutS [45] t).2 left rfl rfl rfl rfl ht hl _ false (atoi_rng _ hz h) (fun h => by cases h)
    rw [Bool.false_and] at this
    unfold numS numV
    rw [h]
    exact this
  | _ =>
    have := numv_call s t (cutS [45] t).1 _ _ _ (cutS [45] t).2 left rfl rfl rfl rfl ht hl 0 false (atoi_syn _ hz h) (fun h => by cases h)
    rw [Bool.false_and] at this
    unfold numS numV
    rw [h]
    exact this
end Go.Proofs.YtghlhejdfgkjaaaGreatDoor

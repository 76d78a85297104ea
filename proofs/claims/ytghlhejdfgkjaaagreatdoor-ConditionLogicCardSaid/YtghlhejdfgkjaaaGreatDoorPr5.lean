/- Chapter 5: the reader: conditions. -/
import Derived.Test.YtghlhejdfgkjaaaGreatDoorPr4
namespace Go.Proofs.YtghlhejdfgkjaaaGreatDoor
open Go Go.Av
attribute [local irreducible] AWp AOps AAny MAny DQ retQ retG St.le FCall GCall
set_option linter.unusedVariables false
set_option linter.unnecessarySimpa false
set_option linter.unusedSimpArgs false
set_option maxRecDepth 100000

set_option maxHeartbeats 8000000 in
theorem pair_call (s : Sch) (d : Nat) (hd : d ≤ 10) (f : Int → List UInt8 → Rd4) (hf : ∀ l u, (f l u).t.length ≤ u.length ∧ l - wd d ≤ (f l u).left ∧ (f l u).left ≤ l) (t : List UInt8) (left : Int) (hl : -1000000 ≤ left - 2 * wd d) (hl2 : left ≤ 1000000) (ht : t.length ≤ 140737488355328)
    (ih : ∀ (left : Int) (t : List UInt8), -1000000 ≤ left - wd d → left ≤ 1000000 → t.length ≤ 140737488355328 → GCall Tryz.prog 89 1 (rdB s t left) [.ref 0 0, .i (((d + 1 : Nat) : Int) - 1)] 1 (rdB s (f left t).t (f left t).left) (.tup [cndA (f left t).c, .b (f left t).ok])) :
    GCall Tryz.prog 137 1 (rdB s t left) [.ref 0 0, .i (d + 1 : Nat)] 1 (rdB s (parJ f left t).t (parJ f left t).left) (.tup [cndA (parJ f left t).c, .b (parJ f left t).ok]) := by
  have hw := wd_pos d
  unfold parJ
  have r1 := ih left t (by omega) hl2 ht
  obtain ⟨k1, k2, k5⟩ := hf left t
  generalize f left t = a at *
  obtain ⟨ac, aok, at', al⟩ := a
  dsimp only at *
  cases aok
  · rw [if_neg Bool.false_ne_true]
    refine gcall_intro (n := 46) Tryz.func137 (by kernel_rfl) rfl rfl rfl rfl (fun E h0 => ?_)
    repeat' ((first | refine ⟨ncall_h [0] [0] r1 rfl rfl rfl rfl rfl ⟨rfl, trivial⟩ rfl rfl rfl rfl rfl ?_⟩  | refine aops_go ?_ | refine awp_go ?_ | refine guard_tt ?_ | refine guard_ff ?_ | refine guard_tf ?_ | refine guard_ft ?_ | refine cond_t ?_ | refine cond_f ?_ | (refine each_knownm (by assumption) (by omega) ?_) | (refine each_known (by assumption) (by omega) ?_) | refine stp ?_ | (refine And.intro (fun h => ?_) (fun h => ?_) <;> try (first | (exfalso; omega) | exact absurd rfl h)) | (refine side_i ?_ ?_; (first | omega | exact Eq.refl _ | exact ⟨Eq.refl _, by omega⟩ | (simp only [List.length_map]; omega) | exact imsB rfl | exact ims_map fun _ => rfl | (constructor <;> (simp only [elsA, cellsA, List.length_cons, List.length_nil, List.length_map]; omega)))) | (refine each_mapNb ?_ (fun el hel hbB => ?_); omega) | (refine each_mapb ?_ ?_ (fun el hel hbB => ?_); omega; omega) | (refine each_lb ?_ ?_ (fun el hel hbB => ?_); omega; omega) | (refine each_mapN ?_ (fun el hel => ?_); omega) | (refine each_map ?_ ?_ (fun el hel => ?_); omega; omega) | (refine each_l ?_ ?_ (fun el hel => ?_); omega; omega) | (refine conv_bytes ?_ ?_; omega) | (refine aany_go ?_ ?_ ?_; kernel_rfl; rfl) | (refine many_step ?_ ?_ ?_; kernel_rfl; kernel_rfl) | refine ex_i (fun ex => ?_) | refine allMP_c ?_ ?_ | exact allMP_n | (refine mpost_i ?_ ?_ ?_ ?_; rfl; rfl; rfl) | (refine free_i ?_ ?_; exact ⟨by kernel_rfl, by decide⟩) | refine allI_c ?_ ?_ | exact allI_n | (refine draw_p ?_ ?_ ?_; rfl; kernel_rfl)) <;> (try (conv => whnf)))
    all_goals first
      | exact retg_vs (rvs := [.cell 4 cndT, .tmp 5]) (vs := [_, _]) ⟨1, _, _, rfl, rfl, inferInstance, rfl, rfl, trivial⟩ rfl rfl (le_of h0 rfl ⟨rfl, rfl, trivial⟩ ⟨rfl, trivial⟩ rfl rfl rfl) rfl
      | trace_state
  rw [if_pos rfl]
  have r2 := take_call s at' bAnd al (by omega) (by decide)
  rcases cut_cases bAnd at' with e2 | ⟨u, e2, hu⟩
  case inr =>
    rw [e2] at r2 ⊢
    dsimp only at r2 ⊢
    rw [if_pos rfl]
    have r3 := ih al u (by omega) (by omega) (by omega)
    obtain ⟨k3, k4, k6⟩ := hf al u
    generalize f al u = b at *
    obtain ⟨bc, bok, bt, bl⟩ := b
    dsimp only at *
    cases bok
    · rw [if_neg Bool.false_ne_true]
      refine gcall_intro (n := 46) Tryz.func137 (by kernel_rfl) rfl rfl rfl rfl (fun E h0 => ?_)
      repeat' ((first | refine ⟨ncall_h [0] [0] r1 rfl rfl rfl rfl rfl ⟨rfl, trivial⟩ rfl rfl rfl rfl rfl ?_⟩ | refine ⟨ncall_h [0] [0] r2 rfl rfl rfl rfl rfl ⟨rfl, trivial⟩ rfl rfl rfl rfl rfl ?_⟩ | refine ⟨ncall_h [0] [0] r3 rfl rfl rfl rfl rfl ⟨rfl, trivial⟩ rfl rfl rfl rfl rfl ?_⟩ | refine draw_e (id := 11) ⟨[(4, .ref 1 0), (5, .b false)], 2, [(0, some (.box [.sl 2 (s.lists.map clL), .sl 7 (s.cols.map colL), .str bt, .i bl])), (1, some (.box [.i 5, .i 0, .i 0, .i 0, .i 0, .sl 6 [cndX ac, cndX bc]]))]⟩ ?_ ?_  | refine aops_go ?_ | refine awp_go ?_ | refine guard_tt ?_ | refine guard_ff ?_ | refine guard_tf ?_ | refine guard_ft ?_ | refine cond_t ?_ | refine cond_f ?_ | (refine each_knownm (by assumption) (by omega) ?_) | (refine each_known (by assumption) (by omega) ?_) | refine stp ?_ | (refine And.intro (fun h => ?_) (fun h => ?_) <;> try (first | (exfalso; omega) | exact absurd rfl h)) | (refine side_i ?_ ?_; (first | omega | exact Eq.refl _ | exact ⟨Eq.refl _, by omega⟩ | (simp only [List.length_map]; omega) | exact imsB rfl | exact ims_map fun _ => rfl | (constructor <;> (simp only [elsA, cellsA, List.length_cons, List.length_nil, List.length_map]; omega)))) | (refine each_mapNb ?_ (fun el hel hbB => ?_); omega) | (refine each_mapb ?_ ?_ (fun el hel hbB => ?_); omega; omega) | (refine each_lb ?_ ?_ (fun el hel hbB => ?_); omega; omega) | (refine each_mapN ?_ (fun el hel => ?_); omega) | (refine each_map ?_ ?_ (fun el hel => ?_); omega; omega) | (refine each_l ?_ ?_ (fun el hel => ?_); omega; omega) | (refine conv_bytes ?_ ?_; omega) | (refine aany_go ?_ ?_ ?_; kernel_rfl; rfl) | (refine many_step ?_ ?_ ?_; kernel_rfl; kernel_rfl) | refine ex_i (fun ex => ?_) | refine allMP_c ?_ ?_ | exact allMP_n | (refine mpost_i ?_ ?_ ?_ ?_; rfl; rfl; rfl) | (refine free_i ?_ ?_; exact ⟨by kernel_rfl, by decide⟩) | refine allI_c ?_ ?_ | exact allI_n | (refine draw_p ?_ ?_ ?_; rfl; kernel_rfl)) <;> (try (conv => whnf)))
      all_goals first
        | exact le_of h0 rfl ⟨rfl, rfl, trivial⟩ ⟨rfl, rfl, trivial⟩ rfl rfl rfl
        | exact retg_vs (rvs := [.cell 4 cndT, .tmp 5]) (vs := [_, _]) ⟨1, _, _, rfl, rfl, inferInstance, rfl, rfl, trivial⟩ rfl rfl (le_trans (le_slot 4 _ rfl (nl_two 5 ac bc)) (le_of h0 rfl ⟨rfl, rfl, trivial⟩ ⟨rfl, trivial⟩ rfl rfl rfl)) rfl
        | trace_state
    · rw [if_pos rfl]
      have r4 := take_call s bt [41] bl (by omega) (by decide)
      generalize cutS [41] bt = q at *
      obtain ⟨qt, qb⟩ := q
      dsimp only at *
      refine gcall_intro (n := 46) Tryz.func137 (by kernel_rfl) rfl rfl rfl rfl (fun E h0 => ?_)
      repeat' ((first | refine ⟨ncall_h [0] [0] r1 rfl rfl rfl rfl rfl ⟨rfl, trivial⟩ rfl rfl rfl rfl rfl ?_⟩ | refine ⟨ncall_h [0] [0] r2 rfl rfl rfl rfl rfl ⟨rfl, trivial⟩ rfl rfl rfl rfl rfl ?_⟩ | refine ⟨ncall_h [0] [0] r3 rfl rfl rfl rfl rfl ⟨rfl, trivial⟩ rfl rfl rfl rfl rfl ?_⟩ | refine ⟨ncall_h [0] [0] r4 rfl rfl rfl rfl rfl ⟨rfl, trivial⟩ rfl rfl rfl rfl rfl ?_⟩ | refine draw_e (id := 11) ⟨[(4, .ref 1 0), (5, .b qb)], 2, [(0, some (.box [.sl 2 (s.lists.map clL), .sl 7 (s.cols.map colL), .str qt, .i bl])), (1, some (.box [.i 5, .i 0, .i 0, .i 0, .i 0, .sl 6 [cndX ac, cndX bc]]))]⟩ ?_ ?_  | refine aops_go ?_ | refine awp_go ?_ | refine guard_tt ?_ | refine guard_ff ?_ | refine guard_tf ?_ | refine guard_ft ?_ | refine cond_t ?_ | refine cond_f ?_ | (refine each_knownm (by assumption) (by omega) ?_) | (refine each_known (by assumption) (by omega) ?_) | refine stp ?_ | (refine And.intro (fun h => ?_) (fun h => ?_) <;> try (first | (exfalso; omega) | exact absurd rfl h)) | (refine side_i ?_ ?_; (first | omega | exact Eq.refl _ | exact ⟨Eq.refl _, by omega⟩ | (simp only [List.length_map]; omega) | exact imsB rfl | exact ims_map fun _ => rfl | (constructor <;> (simp only [elsA, cellsA, List.length_cons, List.length_nil, List.length_map]; omega)))) | (refine each_mapNb ?_ (fun el hel hbB => ?_); omega) | (refine each_mapb ?_ ?_ (fun el hel hbB => ?_); omega; omega) | (refine each_lb ?_ ?_ (fun el hel hbB => ?_); omega; omega) | (refine each_mapN ?_ (fun el hel => ?_); omega) | (refine each_map ?_ ?_ (fun el hel => ?_); omega; omega) | (refine each_l ?_ ?_ (fun el hel => ?_); omega; omega) | (refine conv_bytes ?_ ?_; omega) | (refine aany_go ?_ ?_ ?_; kernel_rfl; rfl) | (refine many_step ?_ ?_ ?_; kernel_rfl; kernel_rfl) | refine ex_i (fun ex => ?_) | refine allMP_c ?_ ?_ | exact allMP_n | (refine mpost_i ?_ ?_ ?_ ?_; rfl; rfl; rfl) | (refine free_i ?_ ?_; exact ⟨by kernel_rfl, by decide⟩) | refine allI_c ?_ ?_ | exact allI_n | (refine draw_p ?_ ?_ ?_; rfl; kernel_rfl)) <;> (try (conv => whnf)))
      all_goals first
        | exact le_of h0 rfl ⟨rfl, rfl, trivial⟩ ⟨rfl, rfl, trivial⟩ rfl rfl rfl
        | exact retg_vs (rvs := [.cell 4 cndT, .tmp 5]) (vs := [_, _]) ⟨1, _, _, rfl, rfl, inferInstance, rfl, rfl, trivial⟩ rfl rfl (le_trans (le_slot 4 _ rfl (nl_two 5 ac bc)) (le_of h0 rfl ⟨rfl, rfl, trivial⟩ ⟨rfl, trivial⟩ rfl rfl rfl)) rfl
        | trace_state
  rw [e2] at r2 ⊢
  dsimp only at r2 ⊢
  rw [if_neg Bool.false_ne_true]
  have r5 := take_call s at' bOr al (by omega) (by decide)
  rcases cut_cases bOr at' with e3 | ⟨u, e3, hu⟩
  · rw [e3] at r5 ⊢
    dsimp only at r5 ⊢
    rw [if_neg Bool.false_ne_true]
    refine gcall_intro (n := 46) Tryz.func137 (by kernel_rfl) rfl rfl rfl rfl (fun E h0 => ?_)
    repeat' ((first | refine ⟨ncall_h [0] [0] r1 rfl rfl rfl rfl rfl ⟨rfl, trivial⟩ rfl rfl rfl rfl rfl ?_⟩ | refine ⟨ncall_h [0] [0] r2 rfl rfl rfl rfl rfl ⟨rfl, trivial⟩ rfl rfl rfl rfl rfl ?_⟩ | refine ⟨ncall_h [0] [0] r5 rfl rfl rfl rfl rfl ⟨rfl, trivial⟩ rfl rfl rfl rfl rfl ?_⟩  | refine aops_go ?_ | refine awp_go ?_ | refine guard_tt ?_ | refine guard_ff ?_ | refine guard_tf ?_ | refine guard_ft ?_ | refine cond_t ?_ | refine cond_f ?_ | (refine each_knownm (by assumption) (by omega) ?_) | (refine each_known (by assumption) (by omega) ?_) | refine stp ?_ | (refine And.intro (fun h => ?_) (fun h => ?_) <;> try (first | (exfalso; omega) | exact absurd rfl h)) | (refine side_i ?_ ?_; (first | omega | exact Eq.refl _ | exact ⟨Eq.refl _, by omega⟩ | (simp only [List.length_map]; omega) | exact imsB rfl | exact ims_map fun _ => rfl | (constructor <;> (simp only [elsA, cellsA, List.length_cons, List.length_nil, List.length_map]; omega)))) | (refine each_mapNb ?_ (fun el hel hbB => ?_); omega) | (refine each_mapb ?_ ?_ (fun el hel hbB => ?_); omega; omega) | (refine each_lb ?_ ?_ (fun el hel hbB => ?_); omega; omega) | (refine each_mapN ?_ (fun el hel => ?_); omega) | (refine each_map ?_ ?_ (fun el hel => ?_); omega; omega) | (refine each_l ?_ ?_ (fun el hel => ?_); omega; omega) | (refine conv_bytes ?_ ?_; omega) | (refine aany_go ?_ ?_ ?_; kernel_rfl; rfl) | (refine many_step ?_ ?_ ?_; kernel_rfl; kernel_rfl) | refine ex_i (fun ex => ?_) | refine allMP_c ?_ ?_ | exact allMP_n | (refine mpost_i ?_ ?_ ?_ ?_; rfl; rfl; rfl) | (refine free_i ?_ ?_; exact ⟨by kernel_rfl, by decide⟩) | refine allI_c ?_ ?_ | exact allI_n | (refine draw_p ?_ ?_ ?_; rfl; kernel_rfl)) <;> (try (conv => whnf)))
    all_goals first
      | exact retg_vs (rvs := [.cell 4 cndT, .tmp 5]) (vs := [_, _]) ⟨1, _, _, rfl, rfl, inferInstance, rfl, rfl, trivial⟩ rfl rfl (le_trans (le_slot 4 _ rfl (nl_leaf 6 0 0 0 0)) (le_of h0 rfl ⟨rfl, rfl, trivial⟩ ⟨rfl, trivial⟩ rfl rfl rfl)) rfl
      | trace_state
  rw [e3] at r5 ⊢
  dsimp only at r5 ⊢
  rw [if_pos rfl]
  have r3 := ih al u (by omega) (by omega) (by omega)
  obtain ⟨k3, k4, k6⟩ := hf al u
  generalize f al u = b at *
  obtain ⟨bc, bok, bt, bl⟩ := b
  dsimp only at *
  cases bok
  · rw [if_neg Bool.false_ne_true]
    refine gcall_intro (n := 46) Tryz.func137 (by kernel_rfl) rfl rfl rfl rfl (fun E h0 => ?_)
    repeat' ((first | refine ⟨ncall_h [0] [0] r1 rfl rfl rfl rfl rfl ⟨rfl, trivial⟩ rfl rfl rfl rfl rfl ?_⟩ | refine ⟨ncall_h [0] [0] r2 rfl rfl rfl rfl rfl ⟨rfl, trivial⟩ rfl rfl rfl rfl rfl ?_⟩ | refine ⟨ncall_h [0] [0] r5 rfl rfl rfl rfl rfl ⟨rfl, trivial⟩ rfl rfl rfl rfl rfl ?_⟩ | refine ⟨ncall_h [0] [0] r3 rfl rfl rfl rfl rfl ⟨rfl, trivial⟩ rfl rfl rfl rfl rfl ?_⟩ | refine draw_e (id := 11) ⟨[(4, .ref 1 0), (5, .b false)], 2, [(0, some (.box [.sl 2 (s.lists.map clL), .sl 7 (s.cols.map colL), .str bt, .i bl])), (1, some (.box [.i 6, .i 0, .i 0, .i 0, .i 0, .sl 6 [cndX ac, cndX bc]]))]⟩ ?_ ?_  | refine aops_go ?_ | refine awp_go ?_ | refine guard_tt ?_ | refine guard_ff ?_ | refine guard_tf ?_ | refine guard_ft ?_ | refine cond_t ?_ | refine cond_f ?_ | (refine each_knownm (by assumption) (by omega) ?_) | (refine each_known (by assumption) (by omega) ?_) | refine stp ?_ | (refine And.intro (fun h => ?_) (fun h => ?_) <;> try (first | (exfalso; omega) | exact absurd rfl h)) | (refine side_i ?_ ?_; (first | omega | exact Eq.refl _ | exact ⟨Eq.refl _, by omega⟩ | (simp only [List.length_map]; omega) | exact imsB rfl | exact ims_map fun _ => rfl | (constructor <;> (simp only [elsA, cellsA, List.length_cons, List.length_nil, List.length_map]; omega)))) | (refine each_mapNb ?_ (fun el hel hbB => ?_); omega) | (refine each_mapb ?_ ?_ (fun el hel hbB => ?_); omega; omega) | (refine each_lb ?_ ?_ (fun el hel hbB => ?_); omega; omega) | (refine each_mapN ?_ (fun el hel => ?_); omega) | (refine each_map ?_ ?_ (fun el hel => ?_); omega; omega) | (refine each_l ?_ ?_ (fun el hel => ?_); omega; omega) | (refine conv_bytes ?_ ?_; omega) | (refine aany_go ?_ ?_ ?_; kernel_rfl; rfl) | (refine many_step ?_ ?_ ?_; kernel_rfl; kernel_rfl) | refine ex_i (fun ex => ?_) | refine allMP_c ?_ ?_ | exact allMP_n | (refine mpost_i ?_ ?_ ?_ ?_; rfl; rfl; rfl) | (refine free_i ?_ ?_; exact ⟨by kernel_rfl, by decide⟩) | refine allI_c ?_ ?_ | exact allI_n | (refine draw_p ?_ ?_ ?_; rfl; kernel_rfl)) <;> (try (conv => whnf)))
    all_goals first
      | exact le_of h0 rfl ⟨rfl, rfl, trivial⟩ ⟨rfl, rfl, trivial⟩ rfl rfl rfl
      | exact retg_vs (rvs := [.cell 4 cndT, .tmp 5]) (vs := [_, _]) ⟨1, _, _, rfl, rfl, inferInstance, rfl, rfl, trivial⟩ rfl rfl (le_trans (le_slot 4 _ rfl (nl_two 6 ac bc)) (le_of h0 rfl ⟨rfl, rfl, trivial⟩ ⟨rfl, trivial⟩ rfl rfl rfl)) rfl
      | trace_state
  · rw [if_pos rfl]
    have r4 := take_call s bt [41] bl (by omega) (by decide)
    generalize cutS [41] bt = q at *
    obtain ⟨qt, qb⟩ := q
    dsimp only at *
    refine gcall_intro (n := 46) Tryz.func137 (by kernel_rfl) rfl rfl rfl rfl (fun E h0 => ?_)
    repeat' ((first | refine ⟨ncall_h [0] [0] r1 rfl rfl rfl rfl rfl ⟨rfl, trivial⟩ rfl rfl rfl rfl rfl ?_⟩ | refine ⟨ncall_h [0] [0] r2 rfl rfl rfl rfl rfl ⟨rfl, trivial⟩ rfl rfl rfl rfl rfl ?_⟩ | refine ⟨ncall_h [0] [0] r5 rfl rfl rfl rfl rfl ⟨rfl, trivial⟩ rfl rfl rfl rfl rfl ?_⟩ | refine ⟨ncall_h [0] [0] r3 rfl rfl rfl rfl rfl ⟨rfl, trivial⟩ rfl rfl rfl rfl rfl ?_⟩ | refine ⟨ncall_h [0] [0] r4 rfl rfl rfl rfl rfl ⟨rfl, trivial⟩ rfl rfl rfl rfl rfl ?_⟩ | refine draw_e (id := 11) ⟨[(4, .ref 1 0), (5, .b qb)], 2, [(0, some (.box [.sl 2 (s.lists.map clL), .sl 7 (s.cols.map colL), .str qt, .i bl])), (1, some (.box [.i 6, .i 0, .i 0, .i 0, .i 0, .sl 6 [cndX ac, cndX bc]]))]⟩ ?_ ?_  | refine aops_go ?_ | refine awp_go ?_ | refine guard_tt ?_ | refine guard_ff ?_ | refine guard_tf ?_ | refine guard_ft ?_ | refine cond_t ?_ | refine cond_f ?_ | (refine each_knownm (by assumption) (by omega) ?_) | (refine each_known (by assumption) (by omega) ?_) | refine stp ?_ | (refine And.intro (fun h => ?_) (fun h => ?_) <;> try (first | (exfalso; omega) | exact absurd rfl h)) | (refine side_i ?_ ?_; (first | omega | exact Eq.refl _ | exact ⟨Eq.refl _, by omega⟩ | (simp only [List.length_map]; omega) | exact imsB rfl | exact ims_map fun _ => rfl | (constructor <;> (simp only [elsA, cellsA, List.length_cons, List.length_nil, List.length_map]; omega)))) | (refine each_mapNb ?_ (fun el hel hbB => ?_); omega) | (refine each_mapb ?_ ?_ (fun el hel hbB => ?_); omega; omega) | (refine each_lb ?_ ?_ (fun el hel hbB => ?_); omega; omega) | (refine each_mapN ?_ (fun el hel => ?_); omega) | (refine each_map ?_ ?_ (fun el hel => ?_); omega; omega) | (refine each_l ?_ ?_ (fun el hel => ?_); omega; omega) | (refine conv_bytes ?_ ?_; omega) | (refine aany_go ?_ ?_ ?_; kernel_rfl; rfl) | (refine many_step ?_ ?_ ?_; kernel_rfl; kernel_rfl) | refine ex_i (fun ex => ?_) | refine allMP_c ?_ ?_ | exact allMP_n | (refine mpost_i ?_ ?_ ?_ ?_; rfl; rfl; rfl) | (refine free_i ?_ ?_; exact ⟨by kernel_rfl, by decide⟩) | refine allI_c ?_ ?_ | exact allI_n | (refine draw_p ?_ ?_ ?_; rfl; kernel_rfl)) <;> (try (conv => whnf)))
    all_goals first
      | exact le_of h0 rfl ⟨rfl, rfl, trivial⟩ ⟨rfl, rfl, trivial⟩ rfl rfl rfl
      | exact retg_vs (rvs := [.cell 4 cndT, .tmp 5]) (vs := [_, _]) ⟨1, _, _, rfl, rfl, inferInstance, rfl, rfl, trivial⟩ rfl rfl (le_trans (le_slot 4 _ rfl (nl_two 6 ac bc)) (le_of h0 rfl ⟨rfl, rfl, trivial⟩ ⟨rfl, trivial⟩ rfl rfl rfl)) rfl
      | trace_state
theorem idxP_hit {α : Type} (p : α → Bool) : ∀ (l : List α) (k : Int), 0 ≤ k → 0 ≤ idxP p l k → ∃ x, l[(idxP p l k - k).toNat]? = some x
  | l, k, h0, h => by
    rcases idxP_ge p l k with h1 | ⟨h1, h2⟩
    · omega
    · exact ⟨_, List.getElem?_eq_getElem (by omega)⟩
set_option maxHeartbeats 8000000 in
theorem pcond_call (s : Sch) (hr : schE s = 0) : ∀ (d : Nat), d ≤ 10 → ∀ (left : Int) (t : List UInt8), -1000000 ≤ left - wd d → left ≤ 1000000 → t.length ≤ 140737488355328 → GCall Tryz.prog 89 1 (rdB s t left) [.ref 0 0, .i d] 1 (rdB s (conP s d left t).t (conP s d left t).left) (.tup [cndA (conP s d left t).c, .b (conP s d left t).ok]) := by
  intro d
  induction d with
  | zero =>
    intro _ left t hl hl2 ht
    unfold conP
    unfold wd at hl
    refine gcall_intro (n := 66) Tryz.func89 (by kernel_rfl) rfl rfl rfl rfl (fun E h0 => ?_)
    repeat' ((first | refine aops_go ?_ | refine awp_go ?_ | refine guard_tt ?_ | refine guard_ff ?_ | refine guard_tf ?_ | refine guard_ft ?_ | refine cond_t ?_ | refine cond_f ?_ | (refine each_knownm (by assumption) (by omega) ?_) | (refine each_known (by assumption) (by omega) ?_) | refine stp ?_ | (refine And.intro (fun h => ?_) (fun h => ?_) <;> try (first | (exfalso; omega) | exact absurd rfl h)) | (refine side_i ?_ ?_; (first | omega | exact Eq.refl _ | exact ⟨Eq.refl _, by omega⟩ | (simp only [List.length_map]; omega) | exact imsB rfl | exact ims_map fun _ => rfl | (constructor <;> (simp only [elsA, cellsA, List.length_cons, List.length_nil, List.length_map]; omega)))) | (refine each_mapNb ?_ (fun el hel hbB => ?_); omega) | (refine each_mapb ?_ ?_ (fun el hel hbB => ?_); omega; omega) | (refine each_lb ?_ ?_ (fun el hel hbB => ?_); omega; omega) | (refine each_mapN ?_ (fun el hel => ?_); omega) | (refine each_map ?_ ?_ (fun el hel => ?_); omega; omega) | (refine each_l ?_ ?_ (fun el hel => ?_); omega; omega) | (refine conv_bytes ?_ ?_; omega) | (refine aany_go ?_ ?_ ?_; kernel_rfl; rfl) | (refine many_step ?_ ?_ ?_; kernel_rfl; kernel_rfl) | refine ex_i (fun ex => ?_) | refine allMP_c ?_ ?_ | exact allMP_n | (refine mpost_i ?_ ?_ ?_ ?_; rfl; rfl; rfl) | (refine free_i ?_ ?_; exact ⟨by kernel_rfl, by decide⟩) | refine allI_c ?_ ?_ | exact allI_n | (refine draw_p ?_ ?_ ?_; rfl; kernel_rfl)) <;> (try (conv => whnf)))
    all_goals first
      | exact retg_vs (rvs := [.cell 4 cndT, .tmp 5]) (vs := [_, _]) ⟨1, _, _, rfl, rfl, inferInstance, rfl, rfl, trivial⟩ rfl rfl (le_trans (le_slot 4 _ rfl (nl_leaf 0 0 0 0 0)) (le_of h0 rfl ⟨rfl, rfl, trivial⟩ ⟨rfl, trivial⟩ rfl rfl rfl)) rfl
      | trace_state
  | succ d ih =>
    intro hd left t hl hl2 ht
    have e1 : (((d + 1 : Nat) : Int) - 1) = (d : Int) := by omega
    have ih := ih (by omega)
    rw [← e1] at ih
    unfold wd at hl
    have hw := wd_pos d
    have hpair := fun u (hu : u.length ≤ t.length) => pair_call s d (by omega) (fun l u => conP s d l u) (conP_ok s d) u (left - 1) (by omega) (by omega) (by omega) ih
    unfold conP
    by_cases h1 : left - 1 < 0
    · rw [if_pos h1]
      refine gcall_intro (n := 66) Tryz.func89 (by kernel_rfl) rfl rfl rfl rfl (fun E h0 => ?_)
      repeat' ((first | refine aops_go ?_ | refine awp_go ?_ | refine guard_tt ?_ | refine guard_ff ?_ | refine guard_tf ?_ | refine guard_ft ?_ | refine cond_t ?_ | refine cond_f ?_ | (refine each_knownm (by assumption) (by omega) ?_) | (refine each_known (by assumption) (by omega) ?_) | refine stp ?_ | (refine And.intro (fun h => ?_) (fun h => ?_) <;> try (first | (exfalso; omega) | exact absurd rfl h)) | (refine side_i ?_ ?_; (first | omega | exact Eq.refl _ | exact ⟨Eq.refl _, by omega⟩ | (simp only [List.length_map]; omega) | exact imsB rfl | exact ims_map fun _ => rfl | (constructor <;> (simp only [elsA, cellsA, List.length_cons, List.length_nil, List.length_map]; omega)))) | (refine each_mapNb ?_ (fun el hel hbB => ?_); omega) | (refine each_mapb ?_ ?_ (fun el hel hbB => ?_); omega; omega) | (refine each_lb ?_ ?_ (fun el hel hbB => ?_); omega; omega) | (refine each_mapN ?_ (fun el hel => ?_); omega) | (refine each_map ?_ ?_ (fun el hel => ?_); omega; omega) | (refine each_l ?_ ?_ (fun el hel => ?_); omega; omega) | (refine conv_bytes ?_ ?_; omega) | (refine aany_go ?_ ?_ ?_; kernel_rfl; rfl) | (refine many_step ?_ ?_ ?_; kernel_rfl; kernel_rfl) | refine ex_i (fun ex => ?_) | refine allMP_c ?_ ?_ | exact allMP_n | (refine mpost_i ?_ ?_ ?_ ?_; rfl; rfl; rfl) | (refine free_i ?_ ?_; exact ⟨by kernel_rfl, by decide⟩) | refine allI_c ?_ ?_ | exact allI_n | (refine draw_p ?_ ?_ ?_; rfl; kernel_rfl)) <;> (try (conv => whnf)))
      all_goals first
        | exact retg_vs (rvs := [.cell 4 cndT, .tmp 5]) (vs := [_, _]) ⟨1, _, _, rfl, rfl, inferInstance, rfl, rfl, trivial⟩ rfl rfl (le_trans (le_slot 4 _ rfl (nl_leaf 0 0 0 0 0)) (le_of h0 rfl ⟨rfl, rfl, trivial⟩ ⟨rfl, trivial⟩ rfl rfl rfl)) rfl
        | (exfalso; omega)
        | trace_state
    rw [if_neg h1]
    have r1 := take_call s t [40] (left - 1) (by omega) (by decide)
    rcases cut_cases [40] t with e2 | ⟨u, e2, hu⟩
    case inr =>
      rw [e2] at r1 ⊢
      dsimp only at r1 ⊢
      rw [if_pos rfl]
      have r2 := hpair u hu
      generalize parJ (fun l u => conP s d l u) (left - 1) u = a at *
      obtain ⟨ac, aok, at', al⟩ := a
      dsimp only at *
      refine gcall_intro (n := 66) Tryz.func89 (by kernel_rfl) rfl rfl rfl rfl (fun E h0 => ?_)
      repeat' ((first | refine ⟨ncall_h [0] [0] r1 rfl rfl rfl rfl rfl ⟨rfl, trivial⟩ rfl rfl rfl rfl rfl ?_⟩ | refine ⟨ncall_h [0] [0] r2 rfl rfl rfl rfl rfl ⟨rfl, trivial⟩ rfl rfl rfl rfl rfl ?_⟩  | refine aops_go ?_ | refine awp_go ?_ | refine guard_tt ?_ | refine guard_ff ?_ | refine guard_tf ?_ | refine guard_ft ?_ | refine cond_t ?_ | refine cond_f ?_ | (refine each_knownm (by assumption) (by omega) ?_) | (refine each_known (by assumption) (by omega) ?_) | refine stp ?_ | (refine And.intro (fun h => ?_) (fun h => ?_) <;> try (first | (exfalso; omega) | exact absurd rfl h)) | (refine side_i ?_ ?_; (first | omega | exact Eq.refl _ | exact ⟨Eq.refl _, by omega⟩ | (simp only [List.length_map]; omega) | exact imsB rfl | exact ims_map fun _ => rfl | (constructor <;> (simp only [elsA, cellsA, List.length_cons, List.length_nil, List.length_map]; omega)))) | (refine each_mapNb ?_ (fun el hel hbB => ?_); omega) | (refine each_mapb ?_ ?_ (fun el hel hbB => ?_); omega; omega) | (refine each_lb ?_ ?_ (fun el hel hbB => ?_); omega; omega) | (refine each_mapN ?_ (fun el hel => ?_); omega) | (refine each_map ?_ ?_ (fun el hel => ?_); omega; omega) | (refine each_l ?_ ?_ (fun el hel => ?_); omega; omega) | (refine conv_bytes ?_ ?_; omega) | (refine aany_go ?_ ?_ ?_; kernel_rfl; rfl) | (refine many_step ?_ ?_ ?_; kernel_rfl; kernel_rfl) | refine ex_i (fun ex => ?_) | refine allMP_c ?_ ?_ | exact allMP_n | (refine mpost_i ?_ ?_ ?_ ?_; rfl; rfl; rfl) | (refine free_i ?_ ?_; exact ⟨by kernel_rfl, by decide⟩) | refine allI_c ?_ ?_ | exact allI_n | (refine draw_p ?_ ?_ ?_; rfl; kernel_rfl)) <;> (try (conv => whnf)))
      all_goals first
        | exact retg_vs (rvs := [.cell 4 cndT, .tmp 5]) (vs := [_, _]) ⟨1, _, _, rfl, rfl, inferInstance, rfl, rfl, trivial⟩ rfl rfl (le_of h0 rfl ⟨rfl, rfl, trivial⟩ ⟨rfl, trivial⟩ rfl rfl rfl) rfl
        | (exfalso; omega)
        | trace_state
    clear hpair
    rw [e2] at r1 ⊢
    dsimp only at r1 ⊢
    rw [if_neg Bool.false_ne_true]
    have r2 := take_call s t bNot (left - 1) (by omega) (by decide)
    rcases cut_cases bNot t with e3 | ⟨u, e3, hu⟩
    case inr =>
      rw [e3] at r2 ⊢
      dsimp only at r2 ⊢
      rw [if_pos rfl]
      have r3 := ih (left - 1) u (by omega) (by omega) (by omega)
      generalize conP s d (left - 1) u = a at *
      obtain ⟨ac, aok, at', al⟩ := a
      dsimp only at *
      refine gcall_intro (n := 66) Tryz.func89 (by kernel_rfl) rfl rfl rfl rfl (fun E h0 => ?_)
      repeat' ((first | refine ⟨ncall_h [0] [0] r1 rfl rfl rfl rfl rfl ⟨rfl, trivial⟩ rfl rfl rfl rfl rfl ?_⟩ | refine ⟨ncall_h [0] [0] r2 rfl rfl rfl rfl rfl ⟨rfl, trivial⟩ rfl rfl rfl rfl rfl ?_⟩ | refine ⟨ncall_h [0] [0] r3 rfl rfl rfl rfl rfl ⟨rfl, trivial⟩ rfl rfl rfl rfl rfl ?_⟩  | refine aops_go ?_ | refine awp_go ?_ | refine guard_tt ?_ | refine guard_ff ?_ | refine guard_tf ?_ | refine guard_ft ?_ | refine cond_t ?_ | refine cond_f ?_ | (refine each_knownm (by assumption) (by omega) ?_) | (refine each_known (by assumption) (by omega) ?_) | refine stp ?_ | (refine And.intro (fun h => ?_) (fun h => ?_) <;> try (first | (exfalso; omega) | exact absurd rfl h)) | (refine side_i ?_ ?_; (first | omega | exact Eq.refl _ | exact ⟨Eq.refl _, by omega⟩ | (simp only [List.length_map]; omega) | exact imsB rfl | exact ims_map fun _ => rfl | (constructor <;> (simp only [elsA, cellsA, List.length_cons, List.length_nil, List.length_map]; omega)))) | (refine each_mapNb ?_ (fun el hel hbB => ?_); omega) | (refine each_mapb ?_ ?_ (fun el hel hbB => ?_); omega; omega) | (refine each_lb ?_ ?_ (fun el hel hbB => ?_); omega; omega) | (refine each_mapN ?_ (fun el hel => ?_); omega) | (refine each_map ?_ ?_ (fun el hel => ?_); omega; omega) | (refine each_l ?_ ?_ (fun el hel => ?_); omega; omega) | (refine conv_bytes ?_ ?_; omega) | (refine aany_go ?_ ?_ ?_; kernel_rfl; rfl) | (refine many_step ?_ ?_ ?_; kernel_rfl; kernel_rfl) | refine ex_i (fun ex => ?_) | refine allMP_c ?_ ?_ | exact allMP_n | (refine mpost_i ?_ ?_ ?_ ?_; rfl; rfl; rfl) | (refine free_i ?_ ?_; exact ⟨by kernel_rfl, by decide⟩) | refine allI_c ?_ ?_ | exact allI_n | (refine draw_p ?_ ?_ ?_; rfl; kernel_rfl)) <;> (try (conv => whnf)))
      all_goals first
        | exact retg_vs (rvs := [.cell 4 cndT, .tmp 5]) (vs := [_, _]) ⟨1, _, _, rfl, rfl, inferInstance, rfl, rfl, trivial⟩ rfl rfl (le_trans (le_slot 4 _ rfl (nl_one 7 ac)) (le_of h0 rfl ⟨rfl, rfl, trivial⟩ ⟨rfl, trivial⟩ rfl rfl rfl)) rfl
        | (exfalso; omega)
        | trace_state
    rw [e3] at r2 ⊢
    dsimp only at r2 ⊢
    rw [if_neg Bool.false_ne_true]
    have r3 := word_call s t (left - 1) (by omega)
    have hdl := dropWhile_len isW t
    generalize t.takeWhile isW = w at *
    generalize t.dropWhile isW = r at *
    by_cases h2 : w = bAll
    · rw [if_pos h2]
      subst h2
      refine gcall_intro (n := 66) Tryz.func89 (by kernel_rfl) rfl rfl rfl rfl (fun E h0 => ?_)
      repeat' ((first | refine ⟨ncall_h [0] [0] r1 rfl rfl rfl rfl rfl ⟨rfl, trivial⟩ rfl rfl rfl rfl rfl ?_⟩ | refine ⟨ncall_h [0] [0] r2 rfl rfl rfl rfl rfl ⟨rfl, trivial⟩ rfl rfl rfl rfl rfl ?_⟩ | refine ⟨ncall_h [0] [0] r3 rfl rfl rfl rfl rfl ⟨rfl, trivial⟩ rfl rfl rfl rfl rfl ?_⟩  | refine aops_go ?_ | refine awp_go ?_ | refine guard_tt ?_ | refine guard_ff ?_ | refine guard_tf ?_ | refine guard_ft ?_ | refine cond_t ?_ | refine cond_f ?_ | (refine each_knownm (by assumption) (by omega) ?_) | (refine each_known (by assumption) (by omega) ?_) | refine stp ?_ | (refine And.intro (fun h => ?_) (fun h => ?_) <;> try (first | (exfalso; omega) | exact absurd rfl h)) | (refine side_i ?_ ?_; (first | omega | exact Eq.refl _ | exact ⟨Eq.refl _, by omega⟩ | (simp only [List.length_map]; omega) | exact imsB rfl | exact ims_map fun _ => rfl | (constructor <;> (simp only [elsA, cellsA, List.length_cons, List.length_nil, List.length_map]; omega)))) | (refine each_mapNb ?_ (fun el hel hbB => ?_); omega) | (refine each_mapb ?_ ?_ (fun el hel hbB => ?_); omega; omega) | (refine each_lb ?_ ?_ (fun el hel hbB => ?_); omega; omega) | (refine each_mapN ?_ (fun el hel => ?_); omega) | (refine each_map ?_ ?_ (fun el hel => ?_); omega; omega) | (refine each_l ?_ ?_ (fun el hel => ?_); omega; omega) | (refine conv_bytes ?_ ?_; omega) | (refine aany_go ?_ ?_ ?_; kernel_rfl; rfl) | (refine many_step ?_ ?_ ?_; kernel_rfl; kernel_rfl) | refine ex_i (fun ex => ?_) | refine allMP_c ?_ ?_ | exact allMP_n | (refine mpost_i ?_ ?_ ?_ ?_; rfl; rfl; rfl) | (refine free_i ?_ ?_; exact ⟨by kernel_rfl, by decide⟩) | refine allI_c ?_ ?_ | exact allI_n | (refine draw_p ?_ ?_ ?_; rfl; kernel_rfl)) <;> (try (conv => whnf)))
      all_goals first
        | (exfalso; omega)
        | (exfalso; exact absurd rfl (by assumption))
        | exact retg_vs (rvs := [.cell 4 cndT, .tmp 5]) (vs := [_, _]) ⟨1, _, _, rfl, rfl, inferInstance, rfl, rfl, trivial⟩ rfl rfl (le_trans (le_slot 4 _ rfl (nl_leaf 1 0 0 0 0)) (le_of h0 rfl ⟨rfl, rfl, trivial⟩ ⟨rfl, trivial⟩ rfl rfl rfl)) rfl
        | trace_state
    rw [if_neg h2]
    have r4 := find2_call s w
    have hidx := idxP_hit (fun c : Col => decide (c.name = w)) s.cols 0 (Int.le_refl _)
    rw [Int.sub_zero] at hidx
    unfold findS2 at *
    generalize idxP (fun c : Col => decide (c.name = w)) s.cols 0 = col at *
    by_cases h3 : col < 0
    · rw [if_pos h3]
      refine gcall_intro (n := 66) Tryz.func89 (by kernel_rfl) rfl rfl rfl rfl (fun E h0 => ?_)
      repeat' ((first | refine ⟨ncall_h [0] [0] r1 rfl rfl rfl rfl rfl ⟨rfl, trivial⟩ rfl rfl rfl rfl rfl ?_⟩ | refine ⟨ncall_h [0] [0] r2 rfl rfl rfl rfl rfl ⟨rfl, trivial⟩ rfl rfl rfl rfl rfl ?_⟩ | refine ⟨ncall_h [0] [0] r3 rfl rfl rfl rfl rfl ⟨rfl, trivial⟩ rfl rfl rfl rfl rfl ?_⟩ | refine call_i r4 ?_  | refine aops_go ?_ | refine awp_go ?_ | refine guard_tt ?_ | refine guard_ff ?_ | refine guard_tf ?_ | refine guard_ft ?_ | refine cond_t ?_ | refine cond_f ?_ | (refine each_knownm (by assumption) (by omega) ?_) | (refine each_known (by assumption) (by omega) ?_) | refine stp ?_ | (refine And.intro (fun h => ?_) (fun h => ?_) <;> try (first | (exfalso; omega) | exact absurd rfl h)) | (refine side_i ?_ ?_; (first | omega | exact Eq.refl _ | exact ⟨Eq.refl _, by omega⟩ | (simp only [List.length_map]; omega) | exact imsB rfl | exact ims_map fun _ => rfl | (constructor <;> (simp only [elsA, cellsA, List.length_cons, List.length_nil, List.length_map]; omega)))) | (refine each_mapNb ?_ (fun el hel hbB => ?_); omega) | (refine each_mapb ?_ ?_ (fun el hel hbB => ?_); omega; omega) | (refine each_lb ?_ ?_ (fun el hel hbB => ?_); omega; omega) | (refine each_mapN ?_ (fun el hel => ?_); omega) | (refine each_map ?_ ?_ (fun el hel => ?_); omega; omega) | (refine each_l ?_ ?_ (fun el hel => ?_); omega; omega) | (refine conv_bytes ?_ ?_; omega) | (refine aany_go ?_ ?_ ?_; kernel_rfl; rfl) | (refine many_step ?_ ?_ ?_; kernel_rfl; kernel_rfl) | refine ex_i (fun ex => ?_) | refine allMP_c ?_ ?_ | exact allMP_n | (refine mpost_i ?_ ?_ ?_ ?_; rfl; rfl; rfl) | (refine free_i ?_ ?_; exact ⟨by kernel_rfl, by decide⟩) | refine allI_c ?_ ?_ | exact allI_n | (refine draw_p ?_ ?_ ?_; rfl; kernel_rfl)) <;> (try (conv => whnf)))
      all_goals first
        | (exfalso; omega)
        | (exfalso; exact absurd (by assumption) h2)
        | exact retg_vs (rvs := [.cell 4 cndT, .tmp 5]) (vs := [_, _]) ⟨1, _, _, rfl, rfl, inferInstance, rfl, rfl, trivial⟩ rfl rfl (le_trans (le_slot 4 _ rfl (nl_leaf 0 0 0 0 0)) (le_of h0 rfl ⟨rfl, rfl, trivial⟩ ⟨rfl, trivial⟩ rfl rfl rfl)) rfl
        | trace_state
    · rw [if_neg h3]
      obtain ⟨x, hx⟩ := hidx (by omega)
      have r5 := patom_call s hr r col (left - 1) x hx (by omega) (by omega)
      generalize atoP s col r = a at *
      obtain ⟨ac, aok, at'⟩ := a
      dsimp only at *
      refine gcall_intro (n := 66) Tryz.func89 (by kernel_rfl) rfl rfl rfl rfl (fun E h0 => ?_)
      repeat' ((first | refine ⟨ncall_h [0] [0] r1 rfl rfl rfl rfl rfl ⟨rfl, trivial⟩ rfl rfl rfl rfl rfl ?_⟩ | refine ⟨ncall_h [0] [0] r2 rfl rfl rfl rfl rfl ⟨rfl, trivial⟩ rfl rfl rfl rfl rfl ?_⟩ | refine ⟨ncall_h [0] [0] r3 rfl rfl rfl rfl rfl ⟨rfl, trivial⟩ rfl rfl rfl rfl rfl ?_⟩ | refine call_i r4 ?_ | refine ⟨ncall_h [0] [0] r5 rfl rfl rfl rfl rfl ⟨rfl, trivial⟩ rfl rfl rfl rfl rfl ?_⟩  | refine aops_go ?_ | refine awp_go ?_ | refine guard_tt ?_ | refine guard_ff ?_ | refine guard_tf ?_ | refine guard_ft ?_ | refine cond_t ?_ | refine cond_f ?_ | (refine each_knownm (by assumption) (by omega) ?_) | (refine each_known (by assumption) (by omega) ?_) | refine stp ?_ | (refine And.intro (fun h => ?_) (fun h => ?_) <;> try (first | (exfalso; omega) | exact absurd rfl h)) | (refine side_i ?_ ?_; (first | omega | exact Eq.refl _ | exact ⟨Eq.refl _, by omega⟩ | (simp only [List.length_map]; omega) | exact imsB rfl | exact ims_map fun _ => rfl | (constructor <;> (simp only [elsA, cellsA, List.length_cons, List.length_nil, List.length_map]; omega)))) | (refine each_mapNb ?_ (fun el hel hbB => ?_); omega) | (refine each_mapb ?_ ?_ (fun el hel hbB => ?_); omega; omega) | (refine each_lb ?_ ?_ (fun el hel hbB => ?_); omega; omega) | (refine each_mapN ?_ (fun el hel => ?_); omega) | (refine each_map ?_ ?_ (fun el hel => ?_); omega; omega) | (refine each_l ?_ ?_ (fun el hel => ?_); omega; omega) | (refine conv_bytes ?_ ?_; omega) | (refine aany_go ?_ ?_ ?_; kernel_rfl; rfl) | (refine many_step ?_ ?_ ?_; kernel_rfl; kernel_rfl) | refine ex_i (fun ex => ?_) | refine allMP_c ?_ ?_ | exact allMP_n | (refine mpost_i ?_ ?_ ?_ ?_; rfl; rfl; rfl) | (refine free_i ?_ ?_; exact ⟨by kernel_rfl, by decide⟩) | refine allI_c ?_ ?_ | exact allI_n | (refine draw_p ?_ ?_ ?_; rfl; kernel_rfl)) <;> (try (conv => whnf)))
      all_goals first
        | (exfalso; omega)
        | (exfalso; exact absurd (by assumption) h2)
        | exact retg_vs (rvs := [.cell 4 cndT, .tmp 5]) (vs := [_, _]) ⟨1, _, _, rfl, rfl, inferInstance, rfl, rfl, trivial⟩ rfl rfl (le_of h0 rfl ⟨rfl, rfl, trivial⟩ ⟨rfl, trivial⟩ rfl rfl rfl) rfl
        | trace_state
end Go.Proofs.YtghlhejdfgkjaaaGreatDoor

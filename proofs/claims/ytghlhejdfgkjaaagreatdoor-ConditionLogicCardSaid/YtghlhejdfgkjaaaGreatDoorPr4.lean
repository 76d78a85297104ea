/- Chapter 5: the reader: a condition about one column, behind the column's name. -/
import Derived.Test.YtghlhejdfgkjaaaGreatDoorPr3
namespace Go.Proofs.YtghlhejdfgkjaaaGreatDoor
open Go Go.Av
attribute [local irreducible] AWp AOps AAny MAny DQ retQ retG St.le FCall GCall
set_option linter.unusedVariables false
set_option linter.unnecessarySimpa false
set_option linter.unusedSimpArgs false
set_option maxRecDepth 100000

abbrev zeroC : List AV := [.i 0, .i 0, .i 0, .i 0, .i 0, .v (.slice none 0 0)]
set_option maxHeartbeats 8000000 in
theorem patom_call (s : Sch) (hr : schE s = 0) (t : List UInt8) (col left : Int) (x : Col) (hx : s.cols[col.toNat]? = some x) (h0c : 0 ≤ col) (ht : t.length ≤ 140737488355328) : GCall Tryz.prog 140 1 (rdB s t left) [.ref 0 0, .i col] 1 (rdB s (atoP s col t).2.2 left) (.tup [cndA (atoP s col t).1, .b (atoP s col t).2.1]) := by
  unfold atoP
  rw [colAt_get hx]
  have r1 := take_call s t bUnder left (by omega) (by decide)
  rcases cut_cases bUnder t with e1 | ⟨u, e1, hu⟩
  case inr =>
    rw [e1] at r1 ⊢
    dsimp only at r1 ⊢
    rw [if_pos rfl]
    by_cases hk : x.kind = 2
    · rw [if_pos hk]
      have hl := RightS.lst hr (List.mem_of_getElem? hx) hk
      obtain ⟨lx, hlx⟩ : ∃ l, s.lists[x.lst.toNat]? = some l := ⟨_, List.getElem?_eq_getElem (by omega)⟩
      rw [lstOf_get hlx]
      have hchk : chk lx.1 lx.2 = 0 := (schE_parts hr).2.2.1 _ (List.mem_of_getElem? hlx)
      have hg := good60 hchk
      have r2 := word_call s u left (by omega)
      have r3 := find_call lx.1 lx.2 (u.takeWhile isW) (by omega)
      generalize u.takeWhile isW = w at *
      generalize u.dropWhile isW = r at *
      generalize findS lx.1 lx.2 w = code at *
      refine gcall_intro (n := 80) Tryz.func140 (by kernel_rfl) rfl rfl rfl rfl (fun E h0 => ?_)
      repeat' ((first | refine ⟨ncall_h [0] [0] r1 rfl rfl rfl rfl rfl ⟨rfl, trivial⟩ rfl rfl rfl rfl rfl ?_⟩ | refine ⟨ncall_h [0] [0] r2 rfl rfl rfl rfl rfl ⟨rfl, trivial⟩ rfl rfl rfl rfl rfl ?_⟩ | refine call_i r3 ?_ | (refine each_knownm (x := x) hx (by omega) ?_) | (refine each_knownm (x := lx) hlx (by omega) ?_) | refine draw_m (id := 6) ⟨[(0, .ref 0 0), (4, .ref 1 0), (5, .b false), (6, .ref 2 0)], 3, [(0, some (.box [.sl 2 (s.lists.map clL), .sl 7 (s.cols.map colL), .str r, .i left])), (1, some (.box zeroC)), (2, some (.box [.i 2, .i col, .i code, .i 0, .i 0, .v (.slice none 0 0)]))]⟩ ?_ ?_ | refine draw_m (id := 7) ⟨[(4, .ref 1 0), (5, .b (decide (0 ≤ code)))], 2, [(0, some (.box [.sl 2 (s.lists.map clL), .sl 7 (s.cols.map colL), .str r, .i left])), (1, some (.box [.i 2, .i col, .i code, .i 0, .i 0, .v (.slice none 0 0)]))]⟩ ?_ ?_  | refine aops_go ?_ | refine awp_go ?_ | refine guard_tt ?_ | refine guard_ff ?_ | refine guard_tf ?_ | refine guard_ft ?_ | refine cond_t ?_ | refine cond_f ?_ | (refine each_knownm (by assumption) (by omega) ?_) | (refine each_known (by assumption) (by omega) ?_) | refine stp ?_ | (refine And.intro (fun h => ?_) (fun h => ?_) <;> try (first | (exfalso; omega) | exact absurd rfl h)) | (refine side_i ?_ ?_; (first | omega | exact Eq.refl _ | exact ⟨Eq.refl _, by omega⟩ | (simp only [List.length_map]; omega) | exact imsB rfl | exact ims_map fun _ => rfl | (constructor <;> (simp only [elsA, cellsA, List.length_cons, List.length_nil, List.length_map]; omega)))) | (refine each_mapNb ?_ (fun el hel hbB => ?_); omega) | (refine each_mapb ?_ ?_ (fun el hel hbB => ?_); omega; omega) | (refine each_lb ?_ ?_ (fun el hel hbB => ?_); omega; omega) | (refine each_mapN ?_ (fun el hel => ?_); omega) | (refine each_map ?_ ?_ (fun el hel => ?_); omega; omega) | (refine each_l ?_ ?_ (fun el hel => ?_); omega; omega) | (refine conv_bytes ?_ ?_; omega) | (refine aany_go ?_ ?_ ?_; kernel_rfl; rfl) | (refine many_step ?_ ?_ ?_; kernel_rfl; kernel_rfl) | refine ex_i (fun ex => ?_) | refine allMP_c ?_ ?_ | exact allMP_n | (refine mpost_i ?_ ?_ ?_ ?_; rfl; rfl; rfl) | (refine free_i ?_ ?_; exact ⟨by kernel_rfl, by decide⟩) | refine allI_c ?_ ?_ | exact allI_n | (refine draw_p ?_ ?_ ?_; rfl; kernel_rfl)) <;> (try (conv => whnf)))
      all_goals first
        | exact le_of h0 rfl ⟨rfl, rfl, rfl, rfl, trivial⟩ ⟨rfl, rfl, rfl, trivial⟩ rfl rfl rfl
        | exact le_of h0 rfl ⟨rfl, rfl, trivial⟩ ⟨rfl, rfl, trivial⟩ rfl rfl rfl
        | exact retg_vs (rvs := [.cell 4 cndT, .tmp 5]) (vs := [_, _]) ⟨1, _, _, rfl, rfl, inferInstance, rfl, rfl, trivial⟩ rfl rfl (le_trans (le_slot 4 _ rfl (nl_leaf _ _ _ _ _)) (le_of h0 rfl ⟨rfl, rfl, trivial⟩ ⟨rfl, trivial⟩ rfl rfl rfl)) rfl
        | trace_state
    · rw [if_neg hk]
      refine gcall_intro (n := 80) Tryz.func140 (by kernel_rfl) rfl rfl rfl rfl (fun E h0 => ?_)
      repeat' ((first | refine ⟨ncall_h [0] [0] r1 rfl rfl rfl rfl rfl ⟨rfl, trivial⟩ rfl rfl rfl rfl rfl ?_⟩ | (refine each_knownm (x := x) hx (by omega) ?_)  | refine aops_go ?_ | refine awp_go ?_ | refine guard_tt ?_ | refine guard_ff ?_ | refine guard_tf ?_ | refine guard_ft ?_ | refine cond_t ?_ | refine cond_f ?_ | (refine each_knownm (by assumption) (by omega) ?_) | (refine each_known (by assumption) (by omega) ?_) | refine stp ?_ | (refine And.intro (fun h => ?_) (fun h => ?_) <;> try (first | (exfalso; omega) | exact absurd rfl h)) | (refine side_i ?_ ?_; (first | omega | exact Eq.refl _ | exact ⟨Eq.refl _, by omega⟩ | (simp only [List.length_map]; omega) | exact imsB rfl | exact ims_map fun _ => rfl | (constructor <;> (simp only [elsA, cellsA, List.length_cons, List.length_nil, List.length_map]; omega)))) | (refine each_mapNb ?_ (fun el hel hbB => ?_); omega) | (refine each_mapb ?_ ?_ (fun el hel hbB => ?_); omega; omega) | (refine each_lb ?_ ?_ (fun el hel hbB => ?_); omega; omega) | (refine each_mapN ?_ (fun el hel => ?_); omega) | (refine each_map ?_ ?_ (fun el hel => ?_); omega; omega) | (refine each_l ?_ ?_ (fun el hel => ?_); omega; omega) | (refine conv_bytes ?_ ?_; omega) | (refine aany_go ?_ ?_ ?_; kernel_rfl; rfl) | (refine many_step ?_ ?_ ?_; kernel_rfl; kernel_rfl) | refine ex_i (fun ex => ?_) | refine allMP_c ?_ ?_ | exact allMP_n | (refine mpost_i ?_ ?_ ?_ ?_; rfl; rfl; rfl) | (refine free_i ?_ ?_; exact ⟨by kernel_rfl, by decide⟩) | refine allI_c ?_ ?_ | exact allI_n | (refine draw_p ?_ ?_ ?_; rfl; kernel_rfl)) <;> (try (conv => whnf)))
      all_goals first
        | (exfalso; omega)
        | exact retg_vs (rvs := [.cell 4 cndT, .tmp 5]) (vs := [_, _]) ⟨1, _, _, rfl, rfl, inferInstance, rfl, rfl, trivial⟩ rfl rfl (le_trans (le_slot 4 _ rfl (nl_leaf _ _ _ _ _)) (le_of h0 rfl ⟨rfl, rfl, trivial⟩ ⟨rfl, trivial⟩ rfl rfl rfl)) rfl
        | trace_state
  rw [e1] at r1 ⊢
  dsimp only at r1 ⊢
  rw [if_neg Bool.false_ne_true]
  have r2 := take_call s t bFrom left (by omega) (by decide)
  rcases cut_cases bFrom t with e2 | ⟨u, e2, hu⟩
  case inr =>
    rw [e2] at r2 ⊢
    dsimp only at r2 ⊢
    rw [if_pos rfl]
    have r3 := number_call s u left (by omega)
    have hn := numS_len u
    generalize numS u = N at *
    obtain ⟨lo, ok, v⟩ := N
    dsimp only at r3 hn ⊢
    cases ok
    · rw [if_neg Bool.false_ne_true]
      refine gcall_intro (n := 80) Tryz.func140 (by kernel_rfl) rfl rfl rfl rfl (fun E h0 => ?_)
      repeat' ((first | refine ⟨ncall_h [0] [0] r1 rfl rfl rfl rfl rfl ⟨rfl, trivial⟩ rfl rfl rfl rfl rfl ?_⟩ | refine ⟨ncall_h [0] [0] r2 rfl rfl rfl rfl rfl ⟨rfl, trivial⟩ rfl rfl rfl rfl rfl ?_⟩ | refine ⟨ncall_h [0] [0] r3 rfl rfl rfl rfl rfl ⟨rfl, trivial⟩ rfl rfl rfl rfl rfl ?_⟩  | refine aops_go ?_ | refine awp_go ?_ | refine guard_tt ?_ | refine guard_ff ?_ | refine guard_tf ?_ | refine guard_ft ?_ | refine cond_t ?_ | refine cond_f ?_ | (refine each_knownm (by assumption) (by omega) ?_) | (refine each_known (by assumption) (by omega) ?_) | refine stp ?_ | (refine And.intro (fun h => ?_) (fun h => ?_) <;> try (first | (exfalso; omega) | exact absurd rfl h)) | (refine side_i ?_ ?_; (first | omega | exact Eq.refl _ | exact ⟨Eq.refl _, by omega⟩ | (simp only [List.length_map]; omega) | exact imsB rfl | exact ims_map fun _ => rfl | (constructor <;> (simp only [elsA, cellsA, List.length_cons, List.length_nil, List.length_map]; omega)))) | (refine each_mapNb ?_ (fun el hel hbB => ?_); omega) | (refine each_mapb ?_ ?_ (fun el hel hbB => ?_); omega; omega) | (refine each_lb ?_ ?_ (fun el hel hbB => ?_); omega; omega) | (refine each_mapN ?_ (fun el hel => ?_); omega) | (refine each_map ?_ ?_ (fun el hel => ?_); omega; omega) | (refine each_l ?_ ?_ (fun el hel => ?_); omega; omega) | (refine conv_bytes ?_ ?_; omega) | (refine aany_go ?_ ?_ ?_; kernel_rfl; rfl) | (refine many_step ?_ ?_ ?_; kernel_rfl; kernel_rfl) | refine ex_i (fun ex => ?_) | refine allMP_c ?_ ?_ | exact allMP_n | (refine mpost_i ?_ ?_ ?_ ?_; rfl; rfl; rfl) | (refine free_i ?_ ?_; exact ⟨by kernel_rfl, by decide⟩) | refine allI_c ?_ ?_ | exact allI_n | (refine draw_p ?_ ?_ ?_; rfl; kernel_rfl)) <;> (try (conv => whnf)))
      all_goals first
        | exact retg_vs (rvs := [.cell 4 cndT, .tmp 5]) (vs := [_, _]) ⟨1, _, _, rfl, rfl, inferInstance, rfl, rfl, trivial⟩ rfl rfl (le_trans (le_slot 4 _ rfl (nl_leaf _ _ _ _ _)) (le_of h0 rfl ⟨rfl, rfl, trivial⟩ ⟨rfl, trivial⟩ rfl rfl rfl)) rfl
        | trace_state
    · rw [if_pos rfl]
      have r4 := take_call s v bTo left (by omega) (by decide)
      rcases cut_cases bTo v with e3 | ⟨y, e3, hy⟩
      · rw [e3] at r4 ⊢
        dsimp only at r4 ⊢
        rw [if_neg Bool.false_ne_true]
        refine gcall_intro (n := 80) Tryz.func140 (by kernel_rfl) rfl rfl rfl rfl (fun E h0 => ?_)
        repeat' ((first | refine ⟨ncall_h [0] [0] r1 rfl rfl rfl rfl rfl ⟨rfl, trivial⟩ rfl rfl rfl rfl rfl ?_⟩ | refine ⟨ncall_h [0] [0] r2 rfl rfl rfl rfl rfl ⟨rfl, trivial⟩ rfl rfl rfl rfl rfl ?_⟩ | refine ⟨ncall_h [0] [0] r3 rfl rfl rfl rfl rfl ⟨rfl, trivial⟩ rfl rfl rfl rfl rfl ?_⟩ | refine ⟨ncall_h [0] [0] r4 rfl rfl rfl rfl rfl ⟨rfl, trivial⟩ rfl rfl rfl rfl rfl ?_⟩  | refine aops_go ?_ | refine awp_go ?_ | refine guard_tt ?_ | refine guard_ff ?_ | refine guard_tf ?_ | refine guard_ft ?_ | refine cond_t ?_ | refine cond_f ?_ | (refine each_knownm (by assumption) (by omega) ?_) | (refine each_known (by assumption) (by omega) ?_) | refine stp ?_ | (refine And.intro (fun h => ?_) (fun h => ?_) <;> try (first | (exfalso; omega) | exact absurd rfl h)) | (refine side_i ?_ ?_; (first | omega | exact Eq.refl _ | exact ⟨Eq.refl _, by omega⟩ | (simp only [List.length_map]; omega) | exact imsB rfl | exact ims_map fun _ => rfl | (constructor <;> (simp only [elsA, cellsA, List.length_cons, List.length_nil, List.length_map]; omega)))) | (refine each_mapNb ?_ (fun el hel hbB => ?_); omega) | (refine each_mapb ?_ ?_ (fun el hel hbB => ?_); omega; omega) | (refine each_lb ?_ ?_ (fun el hel hbB => ?_); omega; omega) | (refine each_mapN ?_ (fun el hel => ?_); omega) | (refine each_map ?_ ?_ (fun el hel => ?_); omega; omega) | (refine each_l ?_ ?_ (fun el hel => ?_); omega; omega) | (refine conv_bytes ?_ ?_; omega) | (refine aany_go ?_ ?_ ?_; kernel_rfl; rfl) | (refine many_step ?_ ?_ ?_; kernel_rfl; kernel_rfl) | refine ex_i (fun ex => ?_) | refine allMP_c ?_ ?_ | exact allMP_n | (refine mpost_i ?_ ?_ ?_ ?_; rfl; rfl; rfl) | (refine free_i ?_ ?_; exact ⟨by kernel_rfl, by decide⟩) | refine allI_c ?_ ?_ | exact allI_n | (refine draw_p ?_ ?_ ?_; rfl; kernel_rfl)) <;> (try (conv => whnf)))
        all_goals first
          | exact retg_vs (rvs := [.cell 4 cndT, .tmp 5]) (vs := [_, _]) ⟨1, _, _, rfl, rfl, inferInstance, rfl, rfl, trivial⟩ rfl rfl (le_trans (le_slot 4 _ rfl (nl_leaf _ _ _ _ _)) (le_of h0 rfl ⟨rfl, rfl, trivial⟩ ⟨rfl, trivial⟩ rfl rfl rfl)) rfl
          | trace_state
      · rw [e3] at r4 ⊢
        dsimp only at r4 ⊢
        rw [if_pos rfl]
        have r5 := number_call s y left (by omega)
        generalize numS y = M at *
        obtain ⟨hi, ok2, z⟩ := M
        dsimp only at r5 ⊢
        refine gcall_intro (n := 80) Tryz.func140 (by kernel_rfl) rfl rfl rfl rfl (fun E h0 => ?_)
        repeat' ((first | refine ⟨ncall_h [0] [0] r1 rfl rfl rfl rfl rfl ⟨rfl, trivial⟩ rfl rfl rfl rfl rfl ?_⟩ | refine ⟨ncall_h [0] [0] r2 rfl rfl rfl rfl rfl ⟨rfl, trivial⟩ rfl rfl rfl rfl rfl ?_⟩ | refine ⟨ncall_h [0] [0] r3 rfl rfl rfl rfl rfl ⟨rfl, trivial⟩ rfl rfl rfl rfl rfl ?_⟩ | refine ⟨ncall_h [0] [0] r4 rfl rfl rfl rfl rfl ⟨rfl, trivial⟩ rfl rfl rfl rfl rfl ?_⟩ | refine ⟨ncall_h [0] [0] r5 rfl rfl rfl rfl rfl ⟨rfl, trivial⟩ rfl rfl rfl rfl rfl ?_⟩  | refine aops_go ?_ | refine awp_go ?_ | refine guard_tt ?_ | refine guard_ff ?_ | refine guard_tf ?_ | refine guard_ft ?_ | refine cond_t ?_ | refine cond_f ?_ | (refine each_knownm (by assumption) (by omega) ?_) | (refine each_known (by assumption) (by omega) ?_) | refine stp ?_ | (refine And.intro (fun h => ?_) (fun h => ?_) <;> try (first | (exfalso; omega) | exact absurd rfl h)) | (refine side_i ?_ ?_; (first | omega | exact Eq.refl _ | exact ⟨Eq.refl _, by omega⟩ | (simp only [List.length_map]; omega) | exact imsB rfl | exact ims_map fun _ => rfl | (constructor <;> (simp only [elsA, cellsA, List.length_cons, List.length_nil, List.length_map]; omega)))) | (refine each_mapNb ?_ (fun el hel hbB => ?_); omega) | (refine each_mapb ?_ ?_ (fun el hel hbB => ?_); omega; omega) | (refine each_lb ?_ ?_ (fun el hel hbB => ?_); omega; omega) | (refine each_mapN ?_ (fun el hel => ?_); omega) | (refine each_map ?_ ?_ (fun el hel => ?_); omega; omega) | (refine each_l ?_ ?_ (fun el hel => ?_); omega; omega) | (refine conv_bytes ?_ ?_; omega) | (refine aany_go ?_ ?_ ?_; kernel_rfl; rfl) | (refine many_step ?_ ?_ ?_; kernel_rfl; kernel_rfl) | refine ex_i (fun ex => ?_) | refine allMP_c ?_ ?_ | exact allMP_n | (refine mpost_i ?_ ?_ ?_ ?_; rfl; rfl; rfl) | (refine free_i ?_ ?_; exact ⟨by kernel_rfl, by decide⟩) | refine allI_c ?_ ?_ | exact allI_n | (refine draw_p ?_ ?_ ?_; rfl; kernel_rfl)) <;> (try (conv => whnf)))
        all_goals first
          | exact retg_vs (rvs := [.cell 4 cndT, .tmp 5]) (vs := [_, _]) ⟨1, _, _, rfl, rfl, inferInstance, rfl, rfl, trivial⟩ rfl rfl (le_trans (le_slot 4 _ rfl (nl_leaf _ _ _ _ _)) (le_of h0 rfl ⟨rfl, rfl, trivial⟩ ⟨rfl, trivial⟩ rfl rfl rfl)) rfl
          | trace_state
  rw [e2] at r2 ⊢
  dsimp only at r2 ⊢
  rw [if_neg Bool.false_ne_true]
  have r3 := take_call s t bMiss left (by omega) (by decide)
  rcases cut_cases bMiss t with e3 | ⟨u, e3, hu⟩
  · rw [e3] at r3 ⊢
    dsimp only at r3 ⊢
    rw [if_neg Bool.false_ne_true]
    refine gcall_intro (n := 80) Tryz.func140 (by kernel_rfl) rfl rfl rfl rfl (fun E h0 => ?_)
    repeat' ((first | refine ⟨ncall_h [0] [0] r1 rfl rfl rfl rfl rfl ⟨rfl, trivial⟩ rfl rfl rfl rfl rfl ?_⟩ | refine ⟨ncall_h [0] [0] r2 rfl rfl rfl rfl rfl ⟨rfl, trivial⟩ rfl rfl rfl rfl rfl ?_⟩ | refine ⟨ncall_h [0] [0] r3 rfl rfl rfl rfl rfl ⟨rfl, trivial⟩ rfl rfl rfl rfl rfl ?_⟩  | refine aops_go ?_ | refine awp_go ?_ | refine guard_tt ?_ | refine guard_ff ?_ | refine guard_tf ?_ | refine guard_ft ?_ | refine cond_t ?_ | refine cond_f ?_ | (refine each_knownm (by assumption) (by omega) ?_) | (refine each_known (by assumption) (by omega) ?_) | refine stp ?_ | (refine And.intro (fun h => ?_) (fun h => ?_) <;> try (first | (exfalso; omega) | exact absurd rfl h)) | (refine side_i ?_ ?_; (first | omega | exact Eq.refl _ | exact ⟨Eq.refl _, by omega⟩ | (simp only [List.length_map]; omega) | exact imsB rfl | exact ims_map fun _ => rfl | (constructor <;> (simp only [elsA, cellsA, List.length_cons, List.length_nil, List.length_map]; omega)))) | (refine each_mapNb ?_ (fun el hel hbB => ?_); omega) | (refine each_mapb ?_ ?_ (fun el hel hbB => ?_); omega; omega) | (refine each_lb ?_ ?_ (fun el hel hbB => ?_); omega; omega) | (refine each_mapN ?_ (fun el hel => ?_); omega) | (refine each_map ?_ ?_ (fun el hel => ?_); omega; omega) | (refine each_l ?_ ?_ (fun el hel => ?_); omega; omega) | (refine conv_bytes ?_ ?_; omega) | (refine aany_go ?_ ?_ ?_; kernel_rfl; rfl) | (refine many_step ?_ ?_ ?_; kernel_rfl; kernel_rfl) | refine ex_i (fun ex => ?_) | refine allMP_c ?_ ?_ | exact allMP_n | (refine mpost_i ?_ ?_ ?_ ?_; rfl; rfl; rfl) | (refine free_i ?_ ?_; exact ⟨by kernel_rfl, by decide⟩) | refine allI_c ?_ ?_ | exact allI_n | (refine draw_p ?_ ?_ ?_; rfl; kernel_rfl)) <;> (try (conv => whnf)))
    all_goals first
      | exact retg_vs (rvs := [.cell 4 cndT, .tmp 5]) (vs := [_, _]) ⟨1, _, _, rfl, rfl, inferInstance, rfl, rfl, trivial⟩ rfl rfl (le_trans (le_slot 4 _ rfl (nl_leaf _ _ _ _ _)) (le_of h0 rfl ⟨rfl, rfl, trivial⟩ ⟨rfl, trivial⟩ rfl rfl rfl)) rfl
      | trace_state
  · rw [e3] at r3 ⊢
    dsimp only at r3 ⊢
    rw [if_pos rfl]
    refine gcall_intro (n := 80) Tryz.func140 (by kernel_rfl) rfl rfl rfl rfl (fun E h0 => ?_)
    repeat' ((first | refine ⟨ncall_h [0] [0] r1 rfl rfl rfl rfl rfl ⟨rfl, trivial⟩ rfl rfl rfl rfl rfl ?_⟩ | refine ⟨ncall_h [0] [0] r2 rfl rfl rfl rfl rfl ⟨rfl, trivial⟩ rfl rfl rfl rfl rfl ?_⟩ | refine ⟨ncall_h [0] [0] r3 rfl rfl rfl rfl rfl ⟨rfl, trivial⟩ rfl rfl rfl rfl rfl ?_⟩  | refine aops_go ?_ | refine awp_go ?_ | refine guard_tt ?_ | refine guard_ff ?_ | refine guard_tf ?_ | refine guard_ft ?_ | refine cond_t ?_ | refine cond_f ?_ | (refine each_knownm (by assumption) (by omega) ?_) | (refine each_known (by assumption) (by omega) ?_) | refine stp ?_ | (refine And.intro (fun h => ?_) (fun h => ?_) <;> try (first | (exfalso; omega) | exact absurd rfl h)) | (refine side_i ?_ ?_; (first | omega | exact Eq.refl _ | exact ⟨Eq.refl _, by omega⟩ | (simp only [List.length_map]; omega) | exact imsB rfl | exact ims_map fun _ => rfl | (constructor <;> (simp only [elsA, cellsA, List.length_cons, List.length_nil, List.length_map]; omega)))) | (refine each_mapNb ?_ (fun el hel hbB => ?_); omega) | (refine each_mapb ?_ ?_ (fun el hel hbB => ?_); omega; omega) | (refine each_lb ?_ ?_ (fun el hel hbB => ?_); omega; omega) | (refine each_mapN ?_ (fun el hel => ?_); omega) | (refine each_map ?_ ?_ (fun el hel => ?_); omega; omega) | (refine each_l ?_ ?_ (fun el hel => ?_); omega; omega) | (refine conv_bytes ?_ ?_; omega) | (refine aany_go ?_ ?_ ?_; kernel_rfl; rfl) | (refine many_step ?_ ?_ ?_; kernel_rfl; kernel_rfl) | refine ex_i (fun ex => ?_) | refine allMP_c ?_ ?_ | exact allMP_n | (refine mpost_i ?_ ?_ ?_ ?_; rfl; rfl; rfl) | (refine free_i ?_ ?_; exact ⟨by kernel_rfl, by decide⟩) | refine allI_c ?_ ?_ | exact allI_n | (refine draw_p ?_ ?_ ?_; rfl; kernel_rfl)) <;> (try (conv => whnf)))
    all_goals first
      | exact retg_vs (rvs := [.cell 4 cndT, .tmp 5]) (vs := [_, _]) ⟨1, _, _, rfl, rfl, inferInstance, rfl, rfl, trivial⟩ rfl rfl (le_trans (le_slot 4 _ rfl (nl_leaf _ _ _ _ _)) (le_of h0 rfl ⟨rfl, rfl, trivial⟩ ⟨rfl, trivial⟩ rfl rfl rfl)) rfl
      | trace_state
end Go.Proofs.YtghlhejdfgkjaaaGreatDoor

/- Draws: schemas. -/
import Derived.Test.YtmiaihoallkjfaaDoorDs1
import Derived.Test.YtmiaihoallkjfaaDoorNl1
namespace Go.Proofs.YtmiaihoallkjfaaDoor
open Go Go.Av
attribute [local irreducible] AWp AOps AAny MAny DQ retQ retG St.le FCall GCall
set_option linter.unusedVariables false
set_option linter.unnecessarySimpa false
set_option linter.unusedSimpArgs false
set_option maxRecDepth 100000

abbrev colT : Nat := 75
abbrev clT : Nat := 25
/-- A schema in memory of one's own: its lists and its columns. -/
abbrev sB (l : List UInt8) (a : Nat) (s : Sch) : Hp := [(0, some (.box [.sl 1 (l.map u8A), .i a])), (1, some (.row clT 2 0 (s.lists.map clL))), (2, some (.row colT 7 0 (s.cols.map colL)))]

set_option maxHeartbeats 4000000 in
theorem sch_call (l : List UInt8) (a : Nat) (hl : l.length ≤ 400) : GCall Tryd.prog 35 1 (drB l a) [.ref 0 0] 3 (sB l (schS l a).2 (schS l a).1) (.agg [.row 1 0 2, .row 2 0 (schS l a).1.cols.length]) := by
  have hc1 := list_call l a oneL hl
  have hc2 := list_call l (listS l a).2 twoN hl
  have e : schS l a = (⟨[(oneL, (listS l a).1), (twoN, (listS l (listS l a).2).1)], (meaAdd l (baseC (decide (((nxt l (listS l (listS l a).2).2 2).1 : Int) = 1)), (nxt l (nxt l (listS l (listS l a).2).2 2).2 3).2) (1 + (nxt l (nxt l (listS l (listS l a).2).2 2).2 3).1)).1⟩, (meaAdd l (baseC (decide (((nxt l (listS l (listS l a).2).2 2).1 : Int) = 1)), (nxt l (nxt l (listS l (listS l a).2).2 2).2 3).2) (1 + (nxt l (nxt l (listS l (listS l a).2).2 2).2 3).1)).2) := rfl
  rw [e]
  clear e
  generalize hl1 : listS l a = l1 at *
  generalize hl2 : listS l l1.2 = l2 at *
  obtain ⟨c1, a1⟩ := l1
  obtain ⟨c2, a2⟩ := l2
  dsimp only at hl2 hc1 hc2 ⊢
  have hc3 := one_call l a2 2 hl (by omega)
  generalize hb : nxt l a2 2 = b at *
  obtain ⟨b1, b2⟩ := b
  dsimp only at hc3 ⊢
  have hc4 := range_call l b2 1 3 hl (by omega) (by omega) (by omega)
  have h3 := nxt_lt l b2 (n := 3) (by omega)
  rw [show (3 : Int) - 1 + 1 = 3 from rfl] at hc4
  generalize hm : nxt l b2 3 = m at *
  obtain ⟨m1, m2⟩ := m
  dsimp only at hc4 h3 ⊢
  refine gcall_intro (n := 41) Tryd.func35 (by kernel_rfl) rfl rfl rfl rfl (fun E h0 => ?_)
  repeat' ((first | refine ⟨ncall_h [0] [0] hc1 rfl rfl rfl rfl rfl ⟨rfl, trivial⟩ rfl rfl rfl rfl rfl ?_⟩ | refine ⟨ncall_h [0] [0] hc2 rfl rfl rfl rfl rfl ⟨rfl, trivial⟩ rfl rfl rfl rfl rfl ?_⟩ | refine own_slice (T := 64) rfl ?_ | (refine frz_cut 3 [0, 2, 6, 8] ?_; (try (conv => whnf)); refine aops_le (le_frz 5) ?_; refine aops_cut [0, 2, 6, 8] ?_; (try (conv => whnf)); refine own_slice (T := 63) rfl ?_) | refine ⟨ncall_h [0] [0] hc3 rfl rfl rfl rfl rfl ⟨rfl, trivial⟩ rfl rfl rfl rfl rfl ?_⟩ | refine ⟨ncall_h [0] [0] hc4 rfl rfl rfl rfl rfl ⟨rfl, trivial⟩ rfl rfl rfl rfl rfl ?_⟩  | refine aops_go ?_ | refine awp_go ?_ | refine var_i ?_ | refine fld_i ?_ | refine sl_i ?_ | refine arr_i ?_ | refine strt_i ?_ | refine boolt_i ?_ | refine zero_i ?_ | refine build_i ?_ | (refine row_i ?_ ?_; rfl) | refine map_i ?_ | refine guard_tt ?_ | refine guard_ff ?_ | refine guard_tf ?_ | refine guard_ft ?_ | (refine guard_dt (fun h => ?_) (fun h => ?_) <;> try (first | (exfalso; omega) | exact absurd rfl h)) | (refine guard_df (fun h => ?_) (fun h => ?_) <;> try (first | (exfalso; omega) | exact absurd rfl h)) | (refine guard_ndt (fun h => ?_) (fun h => ?_) <;> try (first | (exfalso; omega) | exact absurd rfl h)) | (refine guard_ndf (fun h => ?_) (fun h => ?_) <;> try (first | (exfalso; omega) | exact absurd rfl h)) | refine guard_nbt (fun h => ?_) (fun h => ?_) | refine guard_nbf (fun h => ?_) (fun h => ?_) | refine guard_bt (fun h => ?_) (fun h => ?_) | refine guard_bf (fun h => ?_) (fun h => ?_) | refine cond_t ?_ | refine cond_f ?_ | (refine cond_d (fun h => ?_) (fun h => ?_) <;> try (first | (exfalso; omega) | exact absurd rfl h)) | (refine cond_nd (fun h => ?_) (fun h => ?_) <;> try (first | (exfalso; omega) | exact absurd rfl h)) | refine cond_nb (fun h => ?_) (fun h => ?_) | refine cond_b (fun h => ?_) (fun h => ?_) | (refine side_i ?_ ?_; (first | omega | exact Eq.refl _ | exact ⟨Eq.refl _, by omega⟩ | (simp only [List.length_map]; omega))) | (refine side_i (imsB ?_) ?_; rfl) | (refine side_i (ims_map fun x => ?_) ?_; rfl) | (refine side_i ?_ ?_; (constructor <;> (simp only [elsA, cellsA, List.length_cons, List.length_nil, List.length_map]; omega))) | refine len_map ?_ | refine len_l ?_ | (refine each_knownm (by assumption) (by omega) ?_) | (refine each_known (by assumption) (by omega) ?_) | (refine each_mapNb ?_ (fun el hel hbB => ?_); omega) | (refine each_mapb ?_ ?_ (fun el hel hbB => ?_); omega; omega) | (refine each_lb ?_ ?_ (fun el hel hbB => ?_); omega; omega) | (refine each_mapN ?_ (fun el hel => ?_); omega) | (refine each_map ?_ ?_ (fun el hel => ?_); omega; omega) | (refine each_l ?_ ?_ (fun el hel => ?_); omega; omega) | (refine conv_bytes ?_ ?_; omega) | refine conv_u8 ?_ | refine conv_int ?_ | refine dq_go ?_ | (refine aany_go ?_ ?_ ?_; kernel_rfl; rfl) | (refine many_step ?_ ?_ ?_; kernel_rfl; kernel_rfl) | refine ex_i (fun ex => ?_) | refine allMP_c ?_ ?_ | exact allMP_n | (refine mpost_i ?_ ?_ ?_ ?_; rfl; rfl; rfl) | (refine free_i ?_ ?_; exact ⟨by kernel_rfl, by decide⟩) | refine allI_c ?_ ?_ | exact allI_n | refine conv_rune ?_ | (refine draw_p ?_ ?_ ?_; rfl; kernel_rfl)) <;> (try (conv => whnf)))
  all_goals
    refine loop_cut [0, 2, 3, 4] ?_
    (try (conv => whnf))
  · have hb1 : (b1 : Int) = 1 := by omega
    rw [decide_eq_true hb1]
    refine loop_i (ι := Nat × List Col × Nat) (fun x => ⟨[(0, .ref 0 0), (2, .ref 1 0), (3, .ref 8 0), (4, .i x.1)], 9, [(0, some (.box [.sl 1 (l.map u8A), .i x.2.2])), (1, some (.box [.v (.slice none 0 0), .v (.slice none 0 0)])), (6, some (.row clT 2 0 [clL (oneL, c1), clL (twoN, c2)])), (7, some (.row colT 7 0 (x.2.1.map colL))), (8, some (.box [.row 6 0 2, .row 7 0 x.2.1.length]))]⟩)
      (fun x => x.1 ≤ 3 ∧ x.2.1.length + x.1 ≤ 6 ∧ meaAdd l (baseC true, m2) (1 + m1) = meaAdd l x.2 x.1) (fun x => x.1) (1 + m1, baseC true, m2) ⟨by dsimp only; omega, by simp only [baseC, _root_.cond_true, _root_.cond_false, List.length_cons, List.length_nil]; omega, rfl⟩
      (le_trans (le_nl 7 ((baseC true).map colL) rfl ⟨⟨.refl _, .refl _, .refl _, .refl _, .refl _, .nil 1, .refl _, trivial⟩, ⟨.refl _, .refl _, .refl _, .refl _, .refl _, .nil 1, .refl _, trivial⟩, ⟨.refl _, .refl _, .refl _, .refl _, .refl _, .nil 1, .refl _, trivial⟩, trivial⟩) (le_of h0 rfl ⟨rfl, rfl, rfl, rfl, trivial⟩ ⟨rfl, rfl, ⟨_, rfl⟩, ⟨_, rfl⟩, rfl, trivial⟩ rfl rfl rfl)) (fun x hI => ?_)
    obtain ⟨k, cs, a3⟩ := x
    obtain ⟨hk, hlen, hI⟩ := hI
    dsimp only at hk hlen hI ⊢
    have hmea := mea_call l a3 (meaN cs.length) hl
    have hi1 := itoa_call cs.length (by omega)
    have hil := itoaN_length cs.length
    repeat' ((first | refine draw_m ⟨[(0, .ref 0 0), (2, .ref 1 0), (3, .ref 8 0), (4, .i k)], 9, [(0, some (.box [.sl 1 (l.map u8A), .i (meaS l a3 (meaN cs.length)).2])), (1, some (.box [.v (.slice none 0 0), .v (.slice none 0 0)])), (6, some (.row clT 2 0 [clL (oneL, c1), clL (twoN, c2)])), (7, some (.row colT 7 0 ((cs ++ [(meaS l a3 (meaN cs.length)).1]).map colL))), (8, some (.box [.row 6 0 2, .row 7 0 (cs ++ [(meaS l a3 (meaN cs.length)).1]).length]))]⟩ ?_ ?_ | refine call_i hi1 ?_ | (refine side_i ?_ ?_; (show 1 + (itoaN cs.length).length ≤ _; omega)) | refine ⟨ncall_h [0] [0] hmea rfl rfl rfl rfl rfl ⟨rfl, trivial⟩ rfl rfl rfl rfl rfl ?_⟩  | refine aops_go ?_ | refine awp_go ?_ | refine var_i ?_ | refine fld_i ?_ | refine sl_i ?_ | refine arr_i ?_ | refine strt_i ?_ | refine boolt_i ?_ | refine zero_i ?_ | refine build_i ?_ | (refine row_i ?_ ?_; rfl) | refine map_i ?_ | refine guard_tt ?_ | refine guard_ff ?_ | refine guard_tf ?_ | refine guard_ft ?_ | (refine guard_dt (fun h => ?_) (fun h => ?_) <;> try (first | (exfalso; omega) | exact absurd rfl h)) | (refine guard_df (fun h => ?_) (fun h => ?_) <;> try (first | (exfalso; omega) | exact absurd rfl h)) | (refine guard_ndt (fun h => ?_) (fun h => ?_) <;> try (first | (exfalso; omega) | exact absurd rfl h)) | (refine guard_ndf (fun h => ?_) (fun h => ?_) <;> try (first | (exfalso; omega) | exact absurd rfl h)) | refine guard_nbt (fun h => ?_) (fun h => ?_) | refine guard_nbf (fun h => ?_) (fun h => ?_) | refine guard_bt (fun h => ?_) (fun h => ?_) | refine guard_bf (fun h => ?_) (fun h => ?_) | refine cond_t ?_ | refine cond_f ?_ | (refine cond_d (fun h => ?_) (fun h => ?_) <;> try (first | (exfalso; omega) | exact absurd rfl h)) | (refine cond_nd (fun h => ?_) (fun h => ?_) <;> try (first | (exfalso; omega) | exact absurd rfl h)) | refine cond_nb (fun h => ?_) (fun h => ?_) | refine cond_b (fun h => ?_) (fun h => ?_) | (refine side_i ?_ ?_; (first | omega | exact Eq.refl _ | exact ⟨Eq.refl _, by omega⟩ | (simp only [List.length_map]; omega))) | (refine side_i (imsB ?_) ?_; rfl) | (refine side_i (ims_map fun x => ?_) ?_; rfl) | (refine side_i ?_ ?_; (constructor <;> (simp only [elsA, cellsA, List.length_cons, List.length_nil, List.length_map]; omega))) | refine len_map ?_ | refine len_l ?_ | (refine each_knownm (by assumption) (by omega) ?_) | (refine each_known (by assumption) (by omega) ?_) | (refine each_mapNb ?_ (fun el hel hbB => ?_); omega) | (refine each_mapb ?_ ?_ (fun el hel hbB => ?_); omega; omega) | (refine each_lb ?_ ?_ (fun el hel hbB => ?_); omega; omega) | (refine each_mapN ?_ (fun el hel => ?_); omega) | (refine each_map ?_ ?_ (fun el hel => ?_); omega; omega) | (refine each_l ?_ ?_ (fun el hel => ?_); omega; omega) | (refine conv_bytes ?_ ?_; omega) | refine conv_u8 ?_ | refine conv_int ?_ | refine dq_go ?_ | (refine aany_go ?_ ?_ ?_; kernel_rfl; rfl) | (refine many_step ?_ ?_ ?_; kernel_rfl; kernel_rfl) | refine ex_i (fun ex => ?_) | refine allMP_c ?_ ?_ | exact allMP_n | (refine mpost_i ?_ ?_ ?_ ?_; rfl; rfl; rfl) | (refine free_i ?_ ?_; exact ⟨by kernel_rfl, by decide⟩) | refine allI_c ?_ ?_ | exact allI_n | refine conv_rune ?_ | (refine draw_p ?_ ?_ ?_; rfl; kernel_rfl)) <;> (try (conv => whnf)))
    all_goals first
      | exact le_of h0 rfl ⟨rfl, rfl, rfl, rfl, trivial⟩ ⟨rfl, rfl, ⟨_, rfl⟩, ⟨_, congrArg (Blk.row colT 7 _) (by rw [List.map_append]; rfl)⟩, congrArg (fun z => Blk.box [.row 6 0 2, .row 7 0 z]) (by rw [List.length_append]; rfl), trivial⟩ rfl rfl rfl
      | (obtain ⟨k', rfl⟩ : ∃ k', k = k' + 1 := ⟨k - 1, by omega⟩
         exact ⟨(k', cs ++ [(meaS l a3 (meaN cs.length)).1], (meaS l a3 (meaN cs.length)).2), ⟨by dsimp only; omega, by dsimp only; rw [List.length_append, List.length_singleton]; omega, hI⟩, by dsimp only; omega, le_of h0 rfl ⟨rfl, rfl, rfl, congrArg (fun z => some (AV.i z)) (by dsimp only; omega), trivial⟩ ⟨rfl, rfl, ⟨_, rfl⟩, ⟨_, rfl⟩, rfl, trivial⟩ rfl rfl rfl⟩)
      | (obtain rfl : k = 0 := by omega
         rw [hI]
         exact retg_vs (rvs := [.cell 2 66]) (vs := [_]) ⟨1, _, _, rfl, rfl, inferInstance, rfl, rfl, trivial⟩ rfl rfl (le_trans (le_swp 1 6 h0 rfl rfl) (le_trans (le_swp 2 7 h0 rfl rfl) (le_of h0 rfl ⟨rfl, trivial⟩ ⟨rfl, ⟨_, rfl⟩, ⟨_, rfl⟩, trivial⟩ rfl rfl rfl))) rfl)
      | trace_state
  · have hb1 : ¬ (b1 : Int) = 1 := by omega
    rw [decide_eq_false hb1]
    refine loop_i (ι := Nat × List Col × Nat) (fun x => ⟨[(0, .ref 0 0), (2, .ref 1 0), (3, .ref 8 0), (4, .i x.1)], 9, [(0, some (.box [.sl 1 (l.map u8A), .i x.2.2])), (1, some (.box [.v (.slice none 0 0), .v (.slice none 0 0)])), (6, some (.row clT 2 0 [clL (oneL, c1), clL (twoN, c2)])), (7, some (.row colT 7 0 (x.2.1.map colL))), (8, some (.box [.row 6 0 2, .row 7 0 x.2.1.length]))]⟩)
      (fun x => x.1 ≤ 3 ∧ x.2.1.length + x.1 ≤ 6 ∧ meaAdd l (baseC false, m2) (1 + m1) = meaAdd l x.2 x.1) (fun x => x.1) (1 + m1, baseC false, m2) ⟨by dsimp only; omega, by simp only [baseC, _root_.cond_true, _root_.cond_false, List.length_cons, List.length_nil]; omega, rfl⟩
      (le_trans (le_nl 7 ((baseC false).map colL) rfl ⟨⟨.refl _, .refl _, .refl _, .refl _, .refl _, .nil 1, .refl _, trivial⟩, ⟨.refl _, .refl _, .refl _, .refl _, .refl _, .nil 1, .refl _, trivial⟩, trivial⟩) (le_of h0 rfl ⟨rfl, rfl, rfl, rfl, trivial⟩ ⟨rfl, rfl, ⟨_, rfl⟩, ⟨_, rfl⟩, rfl, trivial⟩ rfl rfl rfl)) (fun x hI => ?_)
    obtain ⟨k, cs, a3⟩ := x
    obtain ⟨hk, hlen, hI⟩ := hI
    dsimp only at hk hlen hI ⊢
    have hmea := mea_call l a3 (meaN cs.length) hl
    have hi1 := itoa_call cs.length (by omega)
    have hil := itoaN_length cs.length
    repeat' ((first | refine draw_m ⟨[(0, .ref 0 0), (2, .ref 1 0), (3, .ref 8 0), (4, .i k)], 9, [(0, some (.box [.sl 1 (l.map u8A), .i (meaS l a3 (meaN cs.length)).2])), (1, some (.box [.v (.slice none 0 0), .v (.slice none 0 0)])), (6, some (.row clT 2 0 [clL (oneL, c1), clL (twoN, c2)])), (7, some (.row colT 7 0 ((cs ++ [(meaS l a3 (meaN cs.length)).1]).map colL))), (8, some (.box [.row 6 0 2, .row 7 0 (cs ++ [(meaS l a3 (meaN cs.length)).1]).length]))]⟩ ?_ ?_ | refine call_i hi1 ?_ | (refine side_i ?_ ?_; (show 1 + (itoaN cs.length).length ≤ _; omega)) | refine ⟨ncall_h [0] [0] hmea rfl rfl rfl rfl rfl ⟨rfl, trivial⟩ rfl rfl rfl rfl rfl ?_⟩  | refine aops_go ?_ | refine awp_go ?_ | refine var_i ?_ | refine fld_i ?_ | refine sl_i ?_ | refine arr_i ?_ | refine strt_i ?_ | refine boolt_i ?_ | refine zero_i ?_ | refine build_i ?_ | (refine row_i ?_ ?_; rfl) | refine map_i ?_ | refine guard_tt ?_ | refine guard_ff ?_ | refine guard_tf ?_ | refine guard_ft ?_ | (refine guard_dt (fun h => ?_) (fun h => ?_) <;> try (first | (exfalso; omega) | exact absurd rfl h)) | (refine guard_df (fun h => ?_) (fun h => ?_) <;> try (first | (exfalso; omega) | exact absurd rfl h)) | (refine guard_ndt (fun h => ?_) (fun h => ?_) <;> try (first | (exfalso; omega) | exact absurd rfl h)) | (refine guard_ndf (fun h => ?_) (fun h => ?_) <;> try (first | (exfalso; omega) | exact absurd rfl h)) | refine guard_nbt (fun h => ?_) (fun h => ?_) | refine guard_nbf (fun h => ?_) (fun h => ?_) | refine guard_bt (fun h => ?_) (fun h => ?_) | refine guard_bf (fun h => ?_) (fun h => ?_) | refine cond_t ?_ | refine cond_f ?_ | (refine cond_d (fun h => ?_) (fun h => ?_) <;> try (first | (exfalso; omega) | exact absurd rfl h)) | (refine cond_nd (fun h => ?_) (fun h => ?_) <;> try (first | (exfalso; omega) | exact absurd rfl h)) | refine cond_nb (fun h => ?_) (fun h => ?_) | refine cond_b (fun h => ?_) (fun h => ?_) | (refine side_i ?_ ?_; (first | omega | exact Eq.refl _ | exact ⟨Eq.refl _, by omega⟩ | (simp only [List.length_map]; omega))) | (refine side_i (imsB ?_) ?_; rfl) | (refine side_i (ims_map fun x => ?_) ?_; rfl) | (refine side_i ?_ ?_; (constructor <;> (simp only [elsA, cellsA, List.length_cons, List.length_nil, List.length_map]; omega))) | refine len_map ?_ | refine len_l ?_ | (refine each_knownm (by assumption) (by omega) ?_) | (refine each_known (by assumption) (by omega) ?_) | (refine each_mapNb ?_ (fun el hel hbB => ?_); omega) | (refine each_mapb ?_ ?_ (fun el hel hbB => ?_); omega; omega) | (refine each_lb ?_ ?_ (fun el hel hbB => ?_); omega; omega) | (refine each_mapN ?_ (fun el hel => ?_); omega) | (refine each_map ?_ ?_ (fun el hel => ?_); omega; omega) | (refine each_l ?_ ?_ (fun el hel => ?_); omega; omega) | (refine conv_bytes ?_ ?_; omega) | refine conv_u8 ?_ | refine conv_int ?_ | refine dq_go ?_ | (refine aany_go ?_ ?_ ?_; kernel_rfl; rfl) | (refine many_step ?_ ?_ ?_; kernel_rfl; kernel_rfl) | refine ex_i (fun ex => ?_) | refine allMP_c ?_ ?_ | exact allMP_n | (refine mpost_i ?_ ?_ ?_ ?_; rfl; rfl; rfl) | (refine free_i ?_ ?_; exact ⟨by kernel_rfl, by decide⟩) | refine allI_c ?_ ?_ | exact allI_n | refine conv_rune ?_ | (refine draw_p ?_ ?_ ?_; rfl; kernel_rfl)) <;> (try (conv => whnf)))
    all_goals first
      | exact le_of h0 rfl ⟨rfl, rfl, rfl, rfl, trivial⟩ ⟨rfl, rfl, ⟨_, rfl⟩, ⟨_, congrArg (Blk.row colT 7 _) (by rw [List.map_append]; rfl)⟩, congrArg (fun z => Blk.box [.row 6 0 2, .row 7 0 z]) (by rw [List.length_append]; rfl), trivial⟩ rfl rfl rfl
      | (obtain ⟨k', rfl⟩ : ∃ k', k = k' + 1 := ⟨k - 1, by omega⟩
         exact ⟨(k', cs ++ [(meaS l a3 (meaN cs.length)).1], (meaS l a3 (meaN cs.length)).2), ⟨by dsimp only; omega, by dsimp only; rw [List.length_append, List.length_singleton]; omega, hI⟩, by dsimp only; omega, le_of h0 rfl ⟨rfl, rfl, rfl, congrArg (fun z => some (AV.i z)) (by dsimp only; omega), trivial⟩ ⟨rfl, rfl, ⟨_, rfl⟩, ⟨_, rfl⟩, rfl, trivial⟩ rfl rfl rfl⟩)
      | (obtain rfl : k = 0 := by omega
         rw [hI]
         exact retg_vs (rvs := [.cell 2 66]) (vs := [_]) ⟨1, _, _, rfl, rfl, inferInstance, rfl, rfl, trivial⟩ rfl rfl (le_trans (le_swp 1 6 h0 rfl rfl) (le_trans (le_swp 2 7 h0 rfl rfl) (le_of h0 rfl ⟨rfl, trivial⟩ ⟨rfl, ⟨_, rfl⟩, ⟨_, rfl⟩, trivial⟩ rfl rfl rfl))) rfl)
      | trace_state
end Go.Proofs.YtmiaihoallkjfaaDoor

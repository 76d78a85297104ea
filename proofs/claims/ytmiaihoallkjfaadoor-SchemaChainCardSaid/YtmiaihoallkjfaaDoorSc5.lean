/- Chapter 2: the least level, coarse values. -/
import Derived.Test.YtmiaihoallkjfaaDoorSc4
namespace Go.Proofs.YtmiaihoallkjfaaDoor
open Go Go.Av
attribute [local irreducible] AWp AOps AAny MAny DQ retQ retG St.le FCall GCall
set_option linter.unusedVariables false
set_option linter.unnecessarySimpa false
set_option linter.unusedSimpArgs false
set_option maxRecDepth 100000

/-- From a level down, as long as the blocks are as many. -/
def leastK (s : Sch) (c : Col) : Nat → Nat
  | 0 => 0
  | k + 1 => if blkC s c k = blkC s c (k + 1 : Nat) then leastK s c k else k + 1
def leastS (s : Sch) (column level : Int) : Int := if level < 0 ∨ finestS s column < level then -1 else leastK s (colAt s column) level.toNat
theorem finestS_ok {s : Sch} {column level : Int} (h0 : 0 ≤ level) (h : level ≤ finestS s column) : schE s = 0 ∧ 1 ≤ column ∧ column < s.cols.length ∧ level ≤ finS s column := by
  unfold finestS at h
  by_cases hr : schE s = 0
  · rw [if_pos hr] at h
    refine ⟨hr, ?_, ?_, h⟩ <;>
    · unfold finS at h
      split at h <;> omega
  · rw [if_neg hr] at h; omega
theorem finS_bd {s : Sch} (h : schE s = 0) (column : Int) : finS s column ≤ 61 := by
  unfold finS
  split
  · omega
  · have hc : s.cols[column.toNat]? = some s.cols[column.toNat] := List.getElem?_eq_getElem (by omega)
    have hcr := col_right h (by omega) hc
    rw [colAt_get hc]
    generalize s.cols[column.toNat] = c at hcr
    unfold finC
    rcases hcr with hcr | hcr
    · rw [if_pos hcr.1]
      have hl : s.lists[c.lst.toNat]? = some (s.lists[c.lst.toNat]'(by omega)) := List.getElem?_eq_getElem (by omega)
      have hk := (schE_parts h).2.2.1 _ (List.mem_of_getElem? hl)
      rw [lstOf_get hl]
      have h1 := (chk_good hk).2.2
      have := levelsS_bd (nm := (s.lists[c.lst.toNat]'(by omega)).1) (cs := (s.lists[c.lst.toNat]'(by omega)).2) (by omega)
      omega
    · rw [if_neg (by omega)]; omega
theorem leastK_eq {s : Sch} {c : Col} {k : Nat} (h : 0 < (k : Int)) (he : blkC s c ((k : Int) - 1) = blkC s c k) : leastK s c k = leastK s c (k - 1) := by
  obtain ⟨k, rfl⟩ : ∃ j, k = j + 1 := ⟨k - 1, by omega⟩
  have e : ((k + 1 : Nat) : Int) - 1 = (k : Nat) := by omega
  rw [e] at he
  rw [leastK, if_pos he]; rfl
theorem leastK_ne {s : Sch} {c : Col} {k : Nat} (h : 0 < (k : Int)) (he : ¬ blkC s c ((k : Int) - 1) = blkC s c k) : leastK s c k = k := by
  obtain ⟨k, rfl⟩ : ∃ j, k = j + 1 := ⟨k - 1, by omega⟩
  have e : ((k + 1 : Nat) : Int) - 1 = (k : Nat) := by omega
  rw [e] at he
  rw [leastK, if_neg he]
set_option maxHeartbeats 4000000 in
theorem least_call (s : Sch) (column level : Int) : FCall Tryd.prog 36 [sA s, .i column, .i level] (.i (leastS s column level)) := by
  have hfin := finestS_call s column
  refine fcall_intro (n := 35) Tryd.func36 (by kernel_rfl) rfl rfl rfl rfl rfl (by intro t T h; cases h) (fun hrd E h0 => ?_)
  clear hrd
  repeat' ((first | refine call_i hfin ?_  | refine aops_go ?_ | refine awp_go ?_ | refine var_i ?_ | refine fld_i ?_ | refine sl_i ?_ | refine arr_i ?_ | refine strt_i ?_ | refine boolt_i ?_ | refine zero_i ?_ | refine build_i ?_ | (refine row_i ?_ ?_; rfl) | refine map_i ?_ | refine guard_tt ?_ | refine guard_ff ?_ | refine guard_tf ?_ | refine guard_ft ?_ | (refine guard_dt (fun h => ?_) (fun h => ?_) <;> try (first | (exfalso; omega) | exact absurd rfl h)) | (refine guard_df (fun h => ?_) (fun h => ?_) <;> try (first | (exfalso; omega) | exact absurd rfl h)) | (refine guard_ndt (fun h => ?_) (fun h => ?_) <;> try (first | (exfalso; omega) | exact absurd rfl h)) | (refine guard_ndf (fun h => ?_) (fun h => ?_) <;> try (first | (exfalso; omega) | exact absurd rfl h)) | refine guard_nbt (fun h => ?_) (fun h => ?_) | refine guard_nbf (fun h => ?_) (fun h => ?_) | refine guard_bt (fun h => ?_) (fun h => ?_) | refine guard_bf (fun h => ?_) (fun h => ?_) | refine cond_t ?_ | refine cond_f ?_ | (refine cond_d (fun h => ?_) (fun h => ?_) <;> try (first | (exfalso; omega) | exact absurd rfl h)) | (refine cond_nd (fun h => ?_) (fun h => ?_) <;> try (first | (exfalso; omega) | exact absurd rfl h)) | refine cond_nb (fun h => ?_) (fun h => ?_) | refine cond_b (fun h => ?_) (fun h => ?_) | (refine side_i ?_ ?_; (first | omega | exact Eq.refl _ | exact ⟨Eq.refl _, by omega⟩ | (simp only [List.length_map]; omega))) | (refine side_i (imsB ?_) ?_; rfl) | (refine side_i (ims_map fun x => ?_) ?_; rfl) | (refine side_i ?_ ?_; (constructor <;> (simp only [elsA, cellsA, List.length_cons, List.length_nil, List.length_map]; omega))) | refine len_map ?_ | refine len_l ?_ | (refine each_knownm (by assumption) (by omega) ?_) | (refine each_known (by assumption) (by omega) ?_) | (refine each_mapNb ?_ (fun el hel hbB => ?_); omega) | (refine each_mapb ?_ ?_ (fun el hel hbB => ?_); omega; omega) | (refine each_lb ?_ ?_ (fun el hel hbB => ?_); omega; omega) | (refine each_mapN ?_ (fun el hel => ?_); omega) | (refine each_map ?_ ?_ (fun el hel => ?_); omega; omega) | (refine each_l ?_ ?_ (fun el hel => ?_); omega; omega) | (refine conv_bytes ?_ ?_; omega) | refine conv_u8 ?_ | refine conv_int ?_ | refine dq_go ?_ | (refine aany_go ?_ ?_ ?_; kernel_rfl; rfl) | (refine many_step ?_ ?_ ?_; kernel_rfl; kernel_rfl) | refine ex_i (fun ex => ?_) | refine allMP_c ?_ ?_ | exact allMP_n | (refine mpost_i ?_ ?_ ?_ ?_; rfl; rfl; rfl) | (refine free_i ?_ ?_; exact ⟨by kernel_rfl, by decide⟩) | refine allI_c ?_ ?_ | exact allI_n | refine conv_rune ?_ | (refine draw_p ?_ ?_ ?_; rfl; kernel_rfl)) <;> (try (conv => whnf)))
  all_goals first
    | (refine ret_tmp rfl (congrArg AV.i ?_); rw [leastS, if_pos (by omega)]; done)
    | skip
  obtain ⟨hr, h1, h2, h4⟩ := finestS_ok (s := s) (column := column) (level := level) (by omega) (by omega)
  rw [leastS, if_neg (by omega)]
  have hblk := fun (lv : Int) (h : 0 ≤ lv ∧ lv ≤ level) => blocks_call s column lv hr h1 h2 h.1 (by omega)
  obtain ⟨n, rfl⟩ := Int.eq_ofNat_of_zero_le (show 0 ≤ level by omega)
  rw [Int.toNat_natCast]
  generalize colAt s column = c at hblk ⊢
  have h61 := finS_bd hr column
  have hn61 : n ≤ 61 := by omega
  clear hfin h4 h61
  refine loop_i (ι := Nat) (fun k => ⟨[(1, .i column), (2, .i k), (3, .ref 0 0)], 1, [(0, some (.box (sL s)))]⟩) (fun k => k ≤ n ∧ leastK s c n = leastK s c k) (fun k => k) n ⟨Nat.le_refl _, rfl⟩ (le_of h0 rfl ⟨rfl, rfl, rfl, trivial⟩ ⟨rfl, trivial⟩ rfl rfl rfl) (fun k hI => ?_)
  obtain ⟨hk, hI⟩ := hI
  have hb1 := fun (h : 0 < (k : Int)) => hblk ((k : Int) - 1) (by omega)
  have hb2 := hblk k (by omega)
  clear hblk
  repeat' ((first | refine call_i (hb1 (by assumption)) ?_ | refine call_i hb2 ?_ | (refine draw_q ?_ ?_; kernel_rfl)  | refine aops_go ?_ | refine awp_go ?_ | refine var_i ?_ | refine fld_i ?_ | refine sl_i ?_ | refine arr_i ?_ | refine strt_i ?_ | refine boolt_i ?_ | refine zero_i ?_ | refine build_i ?_ | (refine row_i ?_ ?_; rfl) | refine map_i ?_ | refine guard_tt ?_ | refine guard_ff ?_ | refine guard_tf ?_ | refine guard_ft ?_ | (refine guard_dt (fun h => ?_) (fun h => ?_) <;> try (first | (exfalso; omega) | exact absurd rfl h)) | (refine guard_df (fun h => ?_) (fun h => ?_) <;> try (first | (exfalso; omega) | exact absurd rfl h)) | (refine guard_ndt (fun h => ?_) (fun h => ?_) <;> try (first | (exfalso; omega) | exact absurd rfl h)) | (refine guard_ndf (fun h => ?_) (fun h => ?_) <;> try (first | (exfalso; omega) | exact absurd rfl h)) | refine guard_nbt (fun h => ?_) (fun h => ?_) | refine guard_nbf (fun h => ?_) (fun h => ?_) | refine guard_bt (fun h => ?_) (fun h => ?_) | refine guard_bf (fun h => ?_) (fun h => ?_) | refine cond_t ?_ | refine cond_f ?_ | (refine cond_d (fun h => ?_) (fun h => ?_) <;> try (first | (exfalso; omega) | exact absurd rfl h)) | (refine cond_nd (fun h => ?_) (fun h => ?_) <;> try (first | (exfalso; omega) | exact absurd rfl h)) | refine cond_nb (fun h => ?_) (fun h => ?_) | refine cond_b (fun h => ?_) (fun h => ?_) | (refine side_i ?_ ?_; (first | omega | exact Eq.refl _ | exact ⟨Eq.refl _, by omega⟩ | (simp only [List.length_map]; omega))) | (refine side_i (imsB ?_) ?_; rfl) | (refine side_i (ims_map fun x => ?_) ?_; rfl) | (refine side_i ?_ ?_; (constructor <;> (simp only [elsA, cellsA, List.length_cons, List.length_nil, List.length_map]; omega))) | refine len_map ?_ | refine len_l ?_ | (refine each_knownm (by assumption) (by omega) ?_) | (refine each_known (by assumption) (by omega) ?_) | (refine each_mapNb ?_ (fun el hel hbB => ?_); omega) | (refine each_mapb ?_ ?_ (fun el hel hbB => ?_); omega; omega) | (refine each_lb ?_ ?_ (fun el hel hbB => ?_); omega; omega) | (refine each_mapN ?_ (fun el hel => ?_); omega) | (refine each_map ?_ ?_ (fun el hel => ?_); omega; omega) | (refine each_l ?_ ?_ (fun el hel => ?_); omega; omega) | (refine conv_bytes ?_ ?_; omega) | refine conv_u8 ?_ | refine conv_int ?_ | refine dq_go ?_ | (refine aany_go ?_ ?_ ?_; kernel_rfl; rfl) | (refine many_step ?_ ?_ ?_; kernel_rfl; kernel_rfl) | refine ex_i (fun ex => ?_) | refine allMP_c ?_ ?_ | exact allMP_n | (refine mpost_i ?_ ?_ ?_ ?_; rfl; rfl; rfl) | (refine free_i ?_ ?_; exact ⟨by kernel_rfl, by decide⟩) | refine allI_c ?_ ?_ | exact allI_n | refine conv_rune ?_ | (refine draw_p ?_ ?_ ?_; rfl; kernel_rfl)) <;> (try (conv => whnf)))
  all_goals first
    | exact ⟨k - 1, ⟨by omega, by rw [hI, leastK_eq (by assumption) (by assumption)]⟩, by omega, le_of h0 rfl ⟨rfl, congrArg (fun z : Int => some (AV.i z)) (by omega), rfl, trivial⟩ ⟨rfl, trivial⟩ rfl rfl rfl⟩
    | exact ret_tmp rfl (congrArg (fun z : Nat => AV.i (z : Int)) (by rw [hI, leastK_ne (by assumption) (by assumption)]))
    | (obtain rfl : k = 0 := by omega
       exact ret_tmp rfl (congrArg (fun z : Nat => AV.i (z : Int)) (by rw [hI]; rfl)))
    | trace_state

def coaC (s : Sch) (c : Col) (level v : Int) : Int := if c.kind = 2 then (if holdB s c v = true then upS (lstOf s c).1 (lstOf s c).2 v level else -1) else if v ≠ (-1099511627776) ∧ (v < -1000000 ∨ 1000000 < v) then -1 else if level = 0 then 0 else if v = (-1099511627776) then (-1099511627776) else downS v (widthS c level)
def coaS (s : Sch) (column level v : Int) : Int := if level < 0 ∨ finestS s column < level then -1 else coaC s (colAt s column) level v
set_option maxHeartbeats 4000000 in
theorem coarse_call (s : Sch) (column level v : Int) : FCall Tryd.prog 38 [sA s, .i column, .i level, .i v] (.i (coaS s column level v)) := by
  have hfin := finestS_call s column
  refine fcall_intro (n := 72) Tryd.func38 (by kernel_rfl) rfl rfl rfl rfl rfl (by intro t T h; cases h) (fun hrd E h0 => ?_)
  obtain ⟨hl1, hl2, hl3⟩ := rd_lists (s := s) (hrd _ (by simp))
  clear hrd
  repeat' ((first | refine call_i hfin ?_  | refine aops_go ?_ | refine awp_go ?_ | refine var_i ?_ | refine fld_i ?_ | refine sl_i ?_ | refine arr_i ?_ | refine strt_i ?_ | refine boolt_i ?_ | refine zero_i ?_ | refine build_i ?_ | (refine row_i ?_ ?_; rfl) | refine map_i ?_ | refine guard_tt ?_ | refine guard_ff ?_ | refine guard_tf ?_ | refine guard_ft ?_ | (refine guard_dt (fun h => ?_) (fun h => ?_) <;> try (first | (exfalso; omega) | exact absurd rfl h)) | (refine guard_df (fun h => ?_) (fun h => ?_) <;> try (first | (exfalso; omega) | exact absurd rfl h)) | (refine guard_ndt (fun h => ?_) (fun h => ?_) <;> try (first | (exfalso; omega) | exact absurd rfl h)) | (refine guard_ndf (fun h => ?_) (fun h => ?_) <;> try (first | (exfalso; omega) | exact absurd rfl h)) | refine guard_nbt (fun h => ?_) (fun h => ?_) | refine guard_nbf (fun h => ?_) (fun h => ?_) | refine guard_bt (fun h => ?_) (fun h => ?_) | refine guard_bf (fun h => ?_) (fun h => ?_) | refine cond_t ?_ | refine cond_f ?_ | (refine cond_d (fun h => ?_) (fun h => ?_) <;> try (first | (exfalso; omega) | exact absurd rfl h)) | (refine cond_nd (fun h => ?_) (fun h => ?_) <;> try (first | (exfalso; omega) | exact absurd rfl h)) | refine cond_nb (fun h => ?_) (fun h => ?_) | refine cond_b (fun h => ?_) (fun h => ?_) | (refine side_i ?_ ?_; (first | omega | exact Eq.refl _ | exact ⟨Eq.refl _, by omega⟩ | (simp only [List.length_map]; omega))) | (refine side_i (imsB ?_) ?_; rfl) | (refine side_i (ims_map fun x => ?_) ?_; rfl) | (refine side_i ?_ ?_; (constructor <;> (simp only [elsA, cellsA, List.length_cons, List.length_nil, List.length_map]; omega))) | refine len_map ?_ | refine len_l ?_ | (refine each_knownm (by assumption) (by omega) ?_) | (refine each_known (by assumption) (by omega) ?_) | (refine each_mapNb ?_ (fun el hel hbB => ?_); omega) | (refine each_mapb ?_ ?_ (fun el hel hbB => ?_); omega; omega) | (refine each_lb ?_ ?_ (fun el hel hbB => ?_); omega; omega) | (refine each_mapN ?_ (fun el hel => ?_); omega) | (refine each_map ?_ ?_ (fun el hel => ?_); omega; omega) | (refine each_l ?_ ?_ (fun el hel => ?_); omega; omega) | (refine conv_bytes ?_ ?_; omega) | refine conv_u8 ?_ | refine conv_int ?_ | refine dq_go ?_ | (refine aany_go ?_ ?_ ?_; kernel_rfl; rfl) | (refine many_step ?_ ?_ ?_; kernel_rfl; kernel_rfl) | refine ex_i (fun ex => ?_) | refine allMP_c ?_ ?_ | exact allMP_n | (refine mpost_i ?_ ?_ ?_ ?_; rfl; rfl; rfl) | (refine free_i ?_ ?_; exact ⟨by kernel_rfl, by decide⟩) | refine allI_c ?_ ?_ | exact allI_n | refine conv_rune ?_ | (refine draw_p ?_ ?_ ?_; rfl; kernel_rfl)) <;> (try (conv => whnf)))
  all_goals first
    | (refine ret_tmp rfl (congrArg AV.i ?_); rw [coaS, if_pos (by omega)]; done)
    | skip
  obtain ⟨hr, h1, h2, h4⟩ := finestS_ok (s := s) (column := column) (level := level) (by omega) (by omega)
  rw [coaS, if_neg (by omega)]
  clear hfin
  obtain ⟨c, hc⟩ : ∃ c, s.cols[column.toNat]? = some c := ⟨_, List.getElem?_eq_getElem (by omega)⟩
  have hca := colAt_get hc
  have hcr := col_right hr h1 hc
  rw [finS, if_neg (by omega), hca] at h4
  rw [hca]
  have hfit := fits_call s c v (fun hk => RightS.lst hr (List.mem_of_getElem? hc) hk)
  have hup := fun (l : CL) (hl : s.lists[c.lst.toNat]? = some l) => up_call l.1 l.2 v level (hl3 _ (List.mem_of_getElem? hl))
  have hwd : ¬ c.kind = 2 → ¬ (v ≠ (-1099511627776) ∧ (v < -1000000 ∨ 1000000 < v)) → ¬ level = 0 → ¬ v = (-1099511627776) → FCall Tryd.prog 97 [colA c, .i level] (.i (widthS c level)) ∧ FCall Tryd.prog 96 [.i v, .i (widthS c level)] (.i (downS v (widthS c level))) := by
    intro h5 h6 h7 h8
    have h9 : finC s c = c.widths.length := by unfold finC; rw [if_neg h5]
    rcases hcr with hcr | hcr
    · omega
    obtain ⟨hw1, hw2⟩ := widthS_bd hcr.2.2.2.2.2.2 (level := level) (by omega) (by omega)
    exact ⟨width_call c level (by omega) (by omega), down_call _ _ hw1 hw2 (by omega) (by omega)⟩
  repeat' ((first | (refine each_knownm (x := c) hc (by omega) ?_) | refine call_i hfit ?_ | refine call_i (hup _ (by assumption)) ?_ | refine call_i (hwd (by assumption) (by omega) (by assumption) (by assumption)).1 ?_ | refine call_i (hwd (by assumption) (by omega) (by assumption) (by assumption)).2 ?_  | refine aops_go ?_ | refine awp_go ?_ | refine var_i ?_ | refine fld_i ?_ | refine sl_i ?_ | refine arr_i ?_ | refine strt_i ?_ | refine boolt_i ?_ | refine zero_i ?_ | refine build_i ?_ | (refine row_i ?_ ?_; rfl) | refine map_i ?_ | refine guard_tt ?_ | refine guard_ff ?_ | refine guard_tf ?_ | refine guard_ft ?_ | (refine guard_dt (fun h => ?_) (fun h => ?_) <;> try (first | (exfalso; omega) | exact absurd rfl h)) | (refine guard_df (fun h => ?_) (fun h => ?_) <;> try (first | (exfalso; omega) | exact absurd rfl h)) | (refine guard_ndt (fun h => ?_) (fun h => ?_) <;> try (first | (exfalso; omega) | exact absurd rfl h)) | (refine guard_ndf (fun h => ?_) (fun h => ?_) <;> try (first | (exfalso; omega) | exact absurd rfl h)) | refine guard_nbt (fun h => ?_) (fun h => ?_) | refine guard_nbf (fun h => ?_) (fun h => ?_) | refine guard_bt (fun h => ?_) (fun h => ?_) | refine guard_bf (fun h => ?_) (fun h => ?_) | refine cond_t ?_ | refine cond_f ?_ | (refine cond_d (fun h => ?_) (fun h => ?_) <;> try (first | (exfalso; omega) | exact absurd rfl h)) | (refine cond_nd (fun h => ?_) (fun h => ?_) <;> try (first | (exfalso; omega) | exact absurd rfl h)) | refine cond_nb (fun h => ?_) (fun h => ?_) | refine cond_b (fun h => ?_) (fun h => ?_) | (refine side_i ?_ ?_; (first | omega | exact Eq.refl _ | exact ⟨Eq.refl _, by omega⟩ | (simp only [List.length_map]; omega))) | (refine side_i (imsB ?_) ?_; rfl) | (refine side_i (ims_map fun x => ?_) ?_; rfl) | (refine side_i ?_ ?_; (constructor <;> (simp only [elsA, cellsA, List.length_cons, List.length_nil, List.length_map]; omega))) | refine len_map ?_ | refine len_l ?_ | (refine each_knownm (by assumption) (by omega) ?_) | (refine each_known (by assumption) (by omega) ?_) | (refine each_mapNb ?_ (fun el hel hbB => ?_); omega) | (refine each_mapb ?_ ?_ (fun el hel hbB => ?_); omega; omega) | (refine each_lb ?_ ?_ (fun el hel hbB => ?_); omega; omega) | (refine each_mapN ?_ (fun el hel => ?_); omega) | (refine each_map ?_ ?_ (fun el hel => ?_); omega; omega) | (refine each_l ?_ ?_ (fun el hel => ?_); omega; omega) | (refine conv_bytes ?_ ?_; omega) | refine conv_u8 ?_ | refine conv_int ?_ | refine dq_go ?_ | (refine aany_go ?_ ?_ ?_; kernel_rfl; rfl) | (refine many_step ?_ ?_ ?_; kernel_rfl; kernel_rfl) | refine ex_i (fun ex => ?_) | refine allMP_c ?_ ?_ | exact allMP_n | (refine mpost_i ?_ ?_ ?_ ?_; rfl; rfl; rfl) | (refine free_i ?_ ?_; exact ⟨by kernel_rfl, by decide⟩) | refine allI_c ?_ ?_ | exact allI_n | refine conv_rune ?_ | (refine draw_p ?_ ?_ ?_; rfl; kernel_rfl)) <;> (try (conv => whnf)))
  all_goals first
    | (refine ret_tmp rfl (congrArg AV.i ?_); rw [coaC, if_pos (by assumption), if_neg (by rw [h]; exact Bool.false_ne_true)]; done)
    | (refine ret_tmp rfl (congrArg AV.i ?_); rw [coaC, if_pos (by assumption), if_pos (by assumption), lstOf_get hel]; done)
    | (refine ret_tmp rfl (congrArg AV.i ?_); rw [coaC, if_neg (by assumption), if_pos (by omega)]; done)
    | (refine ret_tmp rfl (congrArg AV.i ?_); rw [coaC, if_neg (by assumption), if_neg (by omega), if_pos (by omega)]; done)
    | (refine ret_tmp rfl (congrArg AV.i ?_); rw [coaC, if_neg (by assumption), if_neg (by omega), if_neg (by omega), if_pos (by omega)]; done)
    | (refine ret_tmp rfl (congrArg AV.i ?_); rw [coaC, if_neg (by assumption), if_neg (by omega), if_neg (by omega), if_neg (by omega)]; done)
    | trace_state
end Go.Proofs.YtmiaihoallkjfaaDoor

/- Chapter 2: which values fit, levels, coarse values. -/
import Derived.Test.YtmiaihoallkjfaaDoorSc1
import Derived.Test.YtmiaihoallkjfaaDoorCo9
namespace Go.Proofs.YtmiaihoallkjfaaDoor
open Go Go.Av
attribute [local irreducible] AWp AOps AAny MAny DQ retQ retG St.le FCall GCall
set_option linter.unusedVariables false
set_option linter.unnecessarySimpa false
set_option linter.unusedSimpArgs false
set_option maxRecDepth 100000

theorem schE_parts {s : Sch} (h : schE s = 0) : s.lists.length ≤ 6 ∧ s.cols.length ≤ 8 ∧ (∀ l ∈ s.lists, chk l.1 l.2 = 0) ∧ (∀ (i : Nat) c, s.cols[i]? = some c → colE s i c = 0) ∧ s.cols.head?.map (·.kind) = some 1 := by
  unfold schE at h
  split at h
  · cases h
  · split at h
    · rename_i h1 h2
      split at h
      · rename_i h3
        refine ⟨by omega, by omega, fun l hl => ?_, fun i c hc => by have := firstE_zero h i c hc; rwa [Nat.zero_add] at this, h3⟩
        obtain ⟨i, hi, rfl⟩ := List.getElem_of_mem hl
        have := firstE_zero h2 i _ (List.getElem?_eq_getElem hi)
        unfold lstE at this
        split at this
        · assumption
        · exact this
      · cases h
    · rename_i h2; exact absurd h h2
theorem colE_parts {s : Sch} {i : Nat} {c : Col} (h : colE s i c = 0) : nameB c.name = true ∧ dupB s i c = false ∧ kindE s i c = 0 ∧ usedB c = true := by
  unfold colE at h
  split at h
  · cases h
  · split at h
    · cases h
    · split at h
      · split at h
        · rename_i h1 h2 h3 h4; exact ⟨by simpa using h1, by simpa using h2, h3, h4⟩
        · cases h
      · rename_i h3; exact absurd h h3
theorem kindE_code {s : Sch} {i : Nat} {c : Col} (h : kindE s i c = 0) (hk : c.kind = 2) : 0 ≤ c.lst ∧ c.lst < s.lists.length := by
  unfold kindE at h
  rw [if_neg (by omega), if_pos hk] at h
  split at h
  · cases h
  · omega
theorem kindE_mea {s : Sch} {i : Nat} {c : Col} (h : kindE s i c = 0) (hk : c.kind = 3) : meaE c = 0 := by
  unfold kindE at h
  rw [if_neg (by omega), if_neg (by omega), if_pos hk] at h
  exact h
theorem kindE_kinds {s : Sch} {i : Nat} {c : Col} (h : kindE s i c = 0) : (c.kind = 1 ∧ i = 0) ∨ c.kind = 2 ∨ c.kind = 3 := by
  unfold kindE at h
  split at h
  · split at h
    · cases h
    · left; omega
  · split at h
    · omega
    · split at h
      · omega
      · cases h
theorem meaE_parts {c : Col} (h : meaE c = 0) : -1000000 ≤ c.low ∧ c.high ≤ 1000000 ∧ c.low ≤ c.high ∧ 1 ≤ c.widths.length ∧ c.widths.length ≤ 4 ∧ widthsB c.widths = true := by
  unfold meaE at h
  split at h
  · cases h
  · split at h
    · cases h
    · split at h
      · rename_i h3; exact ⟨by omega, by omega, by omega, by omega, by omega, h3⟩
      · cases h
theorem chain_bd : ∀ (ws : List Int) (last : Int), 1 ≤ last → last ≤ 1000000 → chainB last ws = true → ∀ w ∈ ws, 1 ≤ w ∧ w ≤ 1000000
  | [], _, _, _, _, w, hw => by cases hw
  | x :: r, last, h1, h2, h, w, hw => by
    simp only [chainB, Bool.and_eq_true, decide_eq_true_eq] at h
    rcases List.mem_cons.1 hw with rfl | hw
    · omega
    · exact chain_bd r x (by omega) (by omega) h.2 w hw
theorem widths_bd {ws : List Int} (h : widthsB ws = true) : ∀ w ∈ ws, 1 ≤ w ∧ w ≤ 1000000 := by
  cases ws with
  | nil => intro w hw; cases hw
  | cons x r =>
    simp only [widthsB, Bool.and_eq_true, decide_eq_true_eq] at h
    intro w hw
    rcases List.mem_cons.1 hw with rfl | hw
    · omega
    · exact chain_bd r 1 (by omega) (by omega) h.2 w hw

def lstOf (s : Sch) (c : Col) : CL := s.lists.getD c.lst.toNat ([], [])
def holdB (s : Sch) (c : Col) (v : Int) : Bool :=
  if c.kind = 1 then decide (1 ≤ v ∧ v ≤ 1048575) else if c.kind = 2 then decide (0 ≤ v ∧ v < (lstOf s c).2.length) && leafB (lstOf s c).2 v else decide (c.low ≤ v ∧ v ≤ c.high) || (c.opt && decide (v = (-1099511627776)))
theorem getD_get {α : Type} {l : List α} {k : Nat} {x d : α} (h : l[k]? = some x) : l.getD k d = x := by rw [List.getD_eq_getElem?_getD, h]; rfl
theorem lstOf_get {s : Sch} {c : Col} {l : CL} (h : s.lists[c.lst.toNat]? = some l) : lstOf s c = l := getD_get h

set_option maxHeartbeats 2000000 in
theorem code_idx (l : List (Code)) (f : Nat) (caps : List AV) (p : (Code) → Bool) (hf : ∀ x ∈ l, FCall Tryd.prog f ((fun x => .agg (cA x)) x :: caps) (.b (p x))) : FCall Tryd.prog 118 [.sl 2 (l.map cA), .fn f caps] (.i (idxP p l 0)) := by
  refine fcall_intro (n := 19) Tryd.func118 (by kernel_rfl) rfl rfl rfl rfl rfl (by intro t T h; cases h) (fun hrd E h0 => ?_)
  have hlen : l.length ≤ 9223372036854775807 := by have := (hrd (.sl 2 (l.map cA)) (by simp)).sl; simpa using this
  repeat' ((first | refine aops_go ?_ | refine awp_go ?_ | refine var_i ?_ | refine fld_i ?_ | refine sl_i ?_ | refine arr_i ?_ | refine strt_i ?_ | refine boolt_i ?_ | refine zero_i ?_ | refine build_i ?_ | (refine row_i ?_ ?_; rfl) | refine map_i ?_ | refine guard_tt ?_ | refine guard_ff ?_ | refine guard_tf ?_ | refine guard_ft ?_ | (refine guard_dt (fun h => ?_) (fun h => ?_) <;> try (first | (exfalso; omega) | exact absurd rfl h)) | (refine guard_df (fun h => ?_) (fun h => ?_) <;> try (first | (exfalso; omega) | exact absurd rfl h)) | (refine guard_ndt (fun h => ?_) (fun h => ?_) <;> try (first | (exfalso; omega) | exact absurd rfl h)) | (refine guard_ndf (fun h => ?_) (fun h => ?_) <;> try (first | (exfalso; omega) | exact absurd rfl h)) | refine guard_nbt (fun h => ?_) (fun h => ?_) | refine guard_nbf (fun h => ?_) (fun h => ?_) | refine guard_bt (fun h => ?_) (fun h => ?_) | refine guard_bf (fun h => ?_) (fun h => ?_) | refine cond_t ?_ | refine cond_f ?_ | (refine cond_d (fun h => ?_) (fun h => ?_) <;> try (first | (exfalso; omega) | exact absurd rfl h)) | (refine cond_nd (fun h => ?_) (fun h => ?_) <;> try (first | (exfalso; omega) | exact absurd rfl h)) | refine cond_nb (fun h => ?_) (fun h => ?_) | refine cond_b (fun h => ?_) (fun h => ?_) | (refine side_i ?_ ?_; (first | omega | exact Eq.refl _ | exact ⟨Eq.refl _, by omega⟩ | (simp only [List.length_map]; omega))) | (refine side_i (imsB ?_) ?_; rfl) | (refine side_i (ims_map fun x => ?_) ?_; rfl) | (refine side_i ?_ ?_; (constructor <;> (simp only [elsA, cellsA, List.length_cons, List.length_nil, List.length_map]; omega))) | refine len_map ?_ | refine len_l ?_ | (refine each_knownm (by assumption) (by omega) ?_) | (refine each_known (by assumption) (by omega) ?_) | (refine each_mapNb ?_ (fun el hel hbB => ?_); omega) | (refine each_mapb ?_ ?_ (fun el hel hbB => ?_); omega; omega) | (refine each_lb ?_ ?_ (fun el hel hbB => ?_); omega; omega) | (refine each_mapN ?_ (fun el hel => ?_); omega) | (refine each_map ?_ ?_ (fun el hel => ?_); omega; omega) | (refine each_l ?_ ?_ (fun el hel => ?_); omega; omega) | (refine conv_bytes ?_ ?_; omega) | refine conv_u8 ?_ | refine conv_int ?_ | refine dq_go ?_ | (refine aany_go ?_ ?_ ?_; kernel_rfl; rfl) | (refine many_step ?_ ?_ ?_; kernel_rfl; kernel_rfl) | refine ex_i (fun ex => ?_) | refine allMP_c ?_ ?_ | exact allMP_n | (refine mpost_i ?_ ?_ ?_ ?_; rfl; rfl; rfl) | (refine free_i ?_ ?_; exact ⟨by kernel_rfl, by decide⟩) | refine allI_c ?_ ?_ | exact allI_n | refine conv_rune ?_ | (refine draw_p ?_ ?_ ?_; rfl; kernel_rfl)) <;> (try (conv => whnf)))
  refine loop_i (ι := Nat) (fun k => ⟨[(0, .sl 2 (l.map cA)), (1, .fn f caps), (7, .i l.length), (8, .i k)], 0, []⟩) (fun k => k ≤ l.length ∧ idxP p l 0 = idxP p (l.drop k) k) (fun k => l.length - k) 0 ⟨Nat.zero_le _, rfl⟩ (le_of h0 rfl ⟨rfl, rfl, rfl, rfl, trivial⟩ trivial rfl rfl rfl) (fun k hI => ?_)
  obtain ⟨hk, hI⟩ := hI
  repeat' ((first | refine call_i (hf _ (List.mem_of_getElem? hel)) ?_  | refine aops_go ?_ | refine awp_go ?_ | refine var_i ?_ | refine fld_i ?_ | refine sl_i ?_ | refine arr_i ?_ | refine strt_i ?_ | refine boolt_i ?_ | refine zero_i ?_ | refine build_i ?_ | (refine row_i ?_ ?_; rfl) | refine map_i ?_ | refine guard_tt ?_ | refine guard_ff ?_ | refine guard_tf ?_ | refine guard_ft ?_ | (refine guard_dt (fun h => ?_) (fun h => ?_) <;> try (first | (exfalso; omega) | exact absurd rfl h)) | (refine guard_df (fun h => ?_) (fun h => ?_) <;> try (first | (exfalso; omega) | exact absurd rfl h)) | (refine guard_ndt (fun h => ?_) (fun h => ?_) <;> try (first | (exfalso; omega) | exact absurd rfl h)) | (refine guard_ndf (fun h => ?_) (fun h => ?_) <;> try (first | (exfalso; omega) | exact absurd rfl h)) | refine guard_nbt (fun h => ?_) (fun h => ?_) | refine guard_nbf (fun h => ?_) (fun h => ?_) | refine guard_bt (fun h => ?_) (fun h => ?_) | refine guard_bf (fun h => ?_) (fun h => ?_) | refine cond_t ?_ | refine cond_f ?_ | (refine cond_d (fun h => ?_) (fun h => ?_) <;> try (first | (exfalso; omega) | exact absurd rfl h)) | (refine cond_nd (fun h => ?_) (fun h => ?_) <;> try (first | (exfalso; omega) | exact absurd rfl h)) | refine cond_nb (fun h => ?_) (fun h => ?_) | refine cond_b (fun h => ?_) (fun h => ?_) | (refine side_i ?_ ?_; (first | omega | exact Eq.refl _ | exact ⟨Eq.refl _, by omega⟩ | (simp only [List.length_map]; omega))) | (refine side_i (imsB ?_) ?_; rfl) | (refine side_i (ims_map fun x => ?_) ?_; rfl) | (refine side_i ?_ ?_; (constructor <;> (simp only [elsA, cellsA, List.length_cons, List.length_nil, List.length_map]; omega))) | refine len_map ?_ | refine len_l ?_ | (refine each_knownm (by assumption) (by omega) ?_) | (refine each_known (by assumption) (by omega) ?_) | (refine each_mapNb ?_ (fun el hel hbB => ?_); omega) | (refine each_mapb ?_ ?_ (fun el hel hbB => ?_); omega; omega) | (refine each_lb ?_ ?_ (fun el hel hbB => ?_); omega; omega) | (refine each_mapN ?_ (fun el hel => ?_); omega) | (refine each_map ?_ ?_ (fun el hel => ?_); omega; omega) | (refine each_l ?_ ?_ (fun el hel => ?_); omega; omega) | (refine conv_bytes ?_ ?_; omega) | refine conv_u8 ?_ | refine conv_int ?_ | refine dq_go ?_ | (refine aany_go ?_ ?_ ?_; kernel_rfl; rfl) | (refine many_step ?_ ?_ ?_; kernel_rfl; kernel_rfl) | refine ex_i (fun ex => ?_) | refine allMP_c ?_ ?_ | exact allMP_n | (refine mpost_i ?_ ?_ ?_ ?_; rfl; rfl; rfl) | (refine free_i ?_ ?_; exact ⟨by kernel_rfl, by decide⟩) | refine allI_c ?_ ?_ | exact allI_n | refine conv_rune ?_ | (refine draw_p ?_ ?_ ?_; rfl; kernel_rfl)) <;> (try (conv => whnf)))
  all_goals first
    | exact ⟨k + 1, ⟨by omega, by rw [hI, dropc hel, idxP, if_neg (by simp [h])]; rfl⟩, by omega, le_of h0 rfl ⟨rfl, rfl, rfl, rfl, trivial⟩ trivial rfl rfl rfl⟩
    | exact ret_tmp rfl (congrArg AV.i (by rw [hI, dropc hel, idxP, if_pos (by simp [h])]))
    | exact ret_tmp rfl (congrArg AV.i (by rw [hI, show k = l.length by omega, List.drop_length]; rfl))
    | trace_state
set_option maxHeartbeats 2000000 in
theorem code_any (l : List (Code)) (f : Nat) (caps : List AV) (p : (Code) → Bool) (hf : ∀ x ∈ l, FCall Tryd.prog f ((fun x => .agg (cA x)) x :: caps) (.b (p x))) : FCall Tryd.prog 139 [.sl 2 (l.map cA), .fn f caps] (.b (l.any p)) := by
  refine fcall_intro (n := 9) Tryd.func139 (by kernel_rfl) rfl rfl rfl rfl rfl (by intro t T h; cases h) (fun hrd E h0 => ?_)
  have hidx := code_idx l f caps p hf
  repeat' ((first | refine call_i hidx ?_  | refine aops_go ?_ | refine awp_go ?_ | refine var_i ?_ | refine fld_i ?_ | refine sl_i ?_ | refine arr_i ?_ | refine strt_i ?_ | refine boolt_i ?_ | refine zero_i ?_ | refine build_i ?_ | (refine row_i ?_ ?_; rfl) | refine map_i ?_ | refine guard_tt ?_ | refine guard_ff ?_ | refine guard_tf ?_ | refine guard_ft ?_ | (refine guard_dt (fun h => ?_) (fun h => ?_) <;> try (first | (exfalso; omega) | exact absurd rfl h)) | (refine guard_df (fun h => ?_) (fun h => ?_) <;> try (first | (exfalso; omega) | exact absurd rfl h)) | (refine guard_ndt (fun h => ?_) (fun h => ?_) <;> try (first | (exfalso; omega) | exact absurd rfl h)) | (refine guard_ndf (fun h => ?_) (fun h => ?_) <;> try (first | (exfalso; omega) | exact absurd rfl h)) | refine guard_nbt (fun h => ?_) (fun h => ?_) | refine guard_nbf (fun h => ?_) (fun h => ?_) | refine guard_bt (fun h => ?_) (fun h => ?_) | refine guard_bf (fun h => ?_) (fun h => ?_) | refine cond_t ?_ | refine cond_f ?_ | (refine cond_d (fun h => ?_) (fun h => ?_) <;> try (first | (exfalso; omega) | exact absurd rfl h)) | (refine cond_nd (fun h => ?_) (fun h => ?_) <;> try (first | (exfalso; omega) | exact absurd rfl h)) | refine cond_nb (fun h => ?_) (fun h => ?_) | refine cond_b (fun h => ?_) (fun h => ?_) | (refine side_i ?_ ?_; (first | omega | exact Eq.refl _ | exact ⟨Eq.refl _, by omega⟩ | (simp only [List.length_map]; omega))) | (refine side_i (imsB ?_) ?_; rfl) | (refine side_i (ims_map fun x => ?_) ?_; rfl) | (refine side_i ?_ ?_; (constructor <;> (simp only [elsA, cellsA, List.length_cons, List.length_nil, List.length_map]; omega))) | refine len_map ?_ | refine len_l ?_ | (refine each_knownm (by assumption) (by omega) ?_) | (refine each_known (by assumption) (by omega) ?_) | (refine each_mapNb ?_ (fun el hel hbB => ?_); omega) | (refine each_mapb ?_ ?_ (fun el hel hbB => ?_); omega; omega) | (refine each_lb ?_ ?_ (fun el hel hbB => ?_); omega; omega) | (refine each_mapN ?_ (fun el hel => ?_); omega) | (refine each_map ?_ ?_ (fun el hel => ?_); omega; omega) | (refine each_l ?_ ?_ (fun el hel => ?_); omega; omega) | (refine conv_bytes ?_ ?_; omega) | refine conv_u8 ?_ | refine conv_int ?_ | refine dq_go ?_ | (refine aany_go ?_ ?_ ?_; kernel_rfl; rfl) | (refine many_step ?_ ?_ ?_; kernel_rfl; kernel_rfl) | refine ex_i (fun ex => ?_) | refine allMP_c ?_ ?_ | exact allMP_n | (refine mpost_i ?_ ?_ ?_ ?_; rfl; rfl; rfl) | (refine free_i ?_ ?_; exact ⟨by kernel_rfl, by decide⟩) | refine allI_c ?_ ?_ | exact allI_n | refine conv_rune ?_ | (refine draw_p ?_ ?_ ?_; rfl; kernel_rfl)) <;> (try (conv => whnf)))
  all_goals first
    | exact ret_tmp rfl (congrArg AV.b (idxP_any p l 0 (by omega)))
    | trace_state

theorem fits1_call (x : Code) (v : Int) : FCall Tryd.prog 140 [.agg (cA x), .iptr [.i v]] (.b (decide (x.parent = v))) := by
  refine fcall_intro (n := 8) Tryd.func140 (by kernel_rfl) rfl rfl rfl rfl rfl (by intro t T h; cases h) (fun hrd E h0 => ?_)
  repeat' ((first | refine aops_go ?_ | refine awp_go ?_ | refine var_i ?_ | refine fld_i ?_ | refine sl_i ?_ | refine arr_i ?_ | refine strt_i ?_ | refine boolt_i ?_ | refine zero_i ?_ | refine build_i ?_ | (refine row_i ?_ ?_; rfl) | refine map_i ?_ | refine guard_tt ?_ | refine guard_ff ?_ | refine guard_tf ?_ | refine guard_ft ?_ | (refine guard_dt (fun h => ?_) (fun h => ?_) <;> try (first | (exfalso; omega) | exact absurd rfl h)) | (refine guard_df (fun h => ?_) (fun h => ?_) <;> try (first | (exfalso; omega) | exact absurd rfl h)) | (refine guard_ndt (fun h => ?_) (fun h => ?_) <;> try (first | (exfalso; omega) | exact absurd rfl h)) | (refine guard_ndf (fun h => ?_) (fun h => ?_) <;> try (first | (exfalso; omega) | exact absurd rfl h)) | refine guard_nbt (fun h => ?_) (fun h => ?_) | refine guard_nbf (fun h => ?_) (fun h => ?_) | refine guard_bt (fun h => ?_) (fun h => ?_) | refine guard_bf (fun h => ?_) (fun h => ?_) | refine cond_t ?_ | refine cond_f ?_ | (refine cond_d (fun h => ?_) (fun h => ?_) <;> try (first | (exfalso; omega) | exact absurd rfl h)) | (refine cond_nd (fun h => ?_) (fun h => ?_) <;> try (first | (exfalso; omega) | exact absurd rfl h)) | refine cond_nb (fun h => ?_) (fun h => ?_) | refine cond_b (fun h => ?_) (fun h => ?_) | (refine side_i ?_ ?_; (first | omega | exact Eq.refl _ | exact ⟨Eq.refl _, by omega⟩ | (simp only [List.length_map]; omega))) | (refine side_i (imsB ?_) ?_; rfl) | (refine side_i (ims_map fun x => ?_) ?_; rfl) | (refine side_i ?_ ?_; (constructor <;> (simp only [elsA, cellsA, List.length_cons, List.length_nil, List.length_map]; omega))) | refine len_map ?_ | refine len_l ?_ | (refine each_knownm (by assumption) (by omega) ?_) | (refine each_known (by assumption) (by omega) ?_) | (refine each_mapNb ?_ (fun el hel hbB => ?_); omega) | (refine each_mapb ?_ ?_ (fun el hel hbB => ?_); omega; omega) | (refine each_lb ?_ ?_ (fun el hel hbB => ?_); omega; omega) | (refine each_mapN ?_ (fun el hel => ?_); omega) | (refine each_map ?_ ?_ (fun el hel => ?_); omega; omega) | (refine each_l ?_ ?_ (fun el hel => ?_); omega; omega) | (refine conv_bytes ?_ ?_; omega) | refine conv_u8 ?_ | refine conv_int ?_ | refine dq_go ?_ | (refine aany_go ?_ ?_ ?_; kernel_rfl; rfl) | (refine many_step ?_ ?_ ?_; kernel_rfl; kernel_rfl) | refine ex_i (fun ex => ?_) | refine allMP_c ?_ ?_ | exact allMP_n | (refine mpost_i ?_ ?_ ?_ ?_; rfl; rfl; rfl) | (refine free_i ?_ ?_; exact ⟨by kernel_rfl, by decide⟩) | refine allI_c ?_ ?_ | exact allI_n | refine conv_rune ?_ | (refine draw_p ?_ ?_ ?_; rfl; kernel_rfl)) <;> (try (conv => whnf)))
  all_goals exact ret_tmp rfl rfl
theorem leaf_any (cs : List Code) (v : Int) : leafB cs v = !(cs.any fun x => decide (x.parent = v)) := by
  rw [List.not_any_eq_all_not]
  unfold leafB
  congr
  funext x
  simp

set_option maxHeartbeats 4000000 in
theorem fits_call (s : Sch) (c : Col) (v : Int) (hc : c.kind = 2 → 0 ≤ c.lst ∧ c.lst < s.lists.length) : FCall Tryd.prog 95 [sA s, colA c, .i v] (.b (holdB s c v)) := by
  refine fcall_intro (n := 59) Tryd.func95 (by kernel_rfl) rfl rfl rfl rfl rfl (by intro t T h; cases h) (fun hrd E h0 => ?_)
  have hany := fun cs : List Code => code_any cs 140 [.iptr [.i v]] (fun x => decide (x.parent = v)) (fun x _ => fits1_call x v)
  obtain ⟨hl1, hl2, hl3⟩ := rd_lists (s := s) (hrd _ (by simp))
  clear hrd
  repeat' ((first | refine call_i (hany _) ?_ | refine ncall_frz 2 ?_ | (refine each_map ?_ ?_ (fun el hel => ?_); (have := hc (by assumption); omega); (have := hc (by assumption); omega))  | refine aops_go ?_ | refine awp_go ?_ | refine var_i ?_ | refine fld_i ?_ | refine sl_i ?_ | refine arr_i ?_ | refine strt_i ?_ | refine boolt_i ?_ | refine zero_i ?_ | refine build_i ?_ | (refine row_i ?_ ?_; rfl) | refine map_i ?_ | refine guard_tt ?_ | refine guard_ff ?_ | refine guard_tf ?_ | refine guard_ft ?_ | (refine guard_dt (fun h => ?_) (fun h => ?_) <;> try (first | (exfalso; omega) | exact absurd rfl h)) | (refine guard_df (fun h => ?_) (fun h => ?_) <;> try (first | (exfalso; omega) | exact absurd rfl h)) | (refine guard_ndt (fun h => ?_) (fun h => ?_) <;> try (first | (exfalso; omega) | exact absurd rfl h)) | (refine guard_ndf (fun h => ?_) (fun h => ?_) <;> try (first | (exfalso; omega) | exact absurd rfl h)) | refine guard_nbt (fun h => ?_) (fun h => ?_) | refine guard_nbf (fun h => ?_) (fun h => ?_) | refine guard_bt (fun h => ?_) (fun h => ?_) | refine guard_bf (fun h => ?_) (fun h => ?_) | refine cond_t ?_ | refine cond_f ?_ | (refine cond_d (fun h => ?_) (fun h => ?_) <;> try (first | (exfalso; omega) | exact absurd rfl h)) | (refine cond_nd (fun h => ?_) (fun h => ?_) <;> try (first | (exfalso; omega) | exact absurd rfl h)) | refine cond_nb (fun h => ?_) (fun h => ?_) | refine cond_b (fun h => ?_) (fun h => ?_) | (refine side_i ?_ ?_; (first | omega | exact Eq.refl _ | exact ⟨Eq.refl _, by omega⟩ | (simp only [List.length_map]; omega))) | (refine side_i (imsB ?_) ?_; rfl) | (refine side_i (ims_map fun x => ?_) ?_; rfl) | (refine side_i ?_ ?_; (constructor <;> (simp only [elsA, cellsA, List.length_cons, List.length_nil, List.length_map]; omega))) | refine len_map ?_ | refine len_l ?_ | (refine each_knownm (by assumption) (by omega) ?_) | (refine each_known (by assumption) (by omega) ?_) | (refine each_mapNb ?_ (fun el hel hbB => ?_); omega) | (refine each_mapb ?_ ?_ (fun el hel hbB => ?_); omega; omega) | (refine each_lb ?_ ?_ (fun el hel hbB => ?_); omega; omega) | (refine each_mapN ?_ (fun el hel => ?_); omega) | (refine each_map ?_ ?_ (fun el hel => ?_); omega; omega) | (refine each_l ?_ ?_ (fun el hel => ?_); omega; omega) | (refine conv_bytes ?_ ?_; omega) | refine conv_u8 ?_ | refine conv_int ?_ | refine dq_go ?_ | (refine aany_go ?_ ?_ ?_; kernel_rfl; rfl) | (refine many_step ?_ ?_ ?_; kernel_rfl; kernel_rfl) | refine ex_i (fun ex => ?_) | refine allMP_c ?_ ?_ | exact allMP_n | (refine mpost_i ?_ ?_ ?_ ?_; rfl; rfl; rfl) | (refine free_i ?_ ?_; exact ⟨by kernel_rfl, by decide⟩) | refine allI_c ?_ ?_ | exact allI_n | refine conv_rune ?_ | (refine draw_p ?_ ?_ ?_; rfl; kernel_rfl)) <;> (try (conv => whnf)))
  all_goals first
    | (refine ret_tmp rfl (congrArg AV.b ?_); clear hany hl1 hl2 hl3 hc h0 E; (first | (simp only [holdB, leaf_any, *, if_true, if_false, Bool.true_eq_false, Bool.false_eq_true, or_true, or_false, true_or, false_or, and_true, true_and, and_false, false_and, not_true_eq_false, not_false_eq_true, ne_eq, reduceIte, Int.reduceEq, Int.reduceLT, Int.reduceLE, Int.reduceNeg, decide_true, decide_false, Bool.not_true, Bool.not_false, Bool.and_true, Bool.true_and, Bool.and_false, Bool.false_and, Bool.or_true, Bool.true_or, Bool.or_false, Bool.false_or, Option.some.injEq]; done) | (simp only [holdB, leaf_any, *, if_true, if_false, Bool.true_eq_false, Bool.false_eq_true, not_true_eq_false, not_false_eq_true, ne_eq, reduceIte, Int.reduceEq]; first | rfl | (repeat' split) <;> first | rfl | omega | (exfalso; omega) | contradiction)))
    | (refine ret_tmp rfl (congrArg AV.b ?_); clear hany hl1 hl2 hl3 hc h0 E; have he := lstOf_get hel; (first | (simp only [holdB, leaf_any, he, *, if_true, if_false, Bool.true_eq_false, Bool.false_eq_true, or_true, or_false, true_or, false_or, and_true, true_and, and_false, false_and, not_true_eq_false, not_false_eq_true, ne_eq, reduceIte, Int.reduceEq, Int.reduceLT, Int.reduceLE, Int.reduceNeg, decide_true, decide_false, Bool.not_true, Bool.not_false, Bool.and_true, Bool.true_and, Bool.and_false, Bool.false_and, Bool.or_true, Bool.true_or, Bool.or_false, Bool.false_or, Option.some.injEq]; done) | (simp only [holdB, leaf_any, he, *, if_true, if_false, Bool.true_eq_false, Bool.false_eq_true, not_true_eq_false, not_false_eq_true, ne_eq, reduceIte, Int.reduceEq]; first | rfl | (repeat' split) <;> first | rfl | omega | (exfalso; omega) | contradiction)))
    | trace_state
end Go.Proofs.YtmiaihoallkjfaaDoor

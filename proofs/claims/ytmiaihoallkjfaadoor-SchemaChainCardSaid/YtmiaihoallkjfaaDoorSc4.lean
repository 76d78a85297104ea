/- Chapter 2: blocks, the least level, coarse values, values turned to another level. -/
import Derived.Test.YtmiaihoallkjfaaDoorSc3
namespace Go.Proofs.YtmiaihoallkjfaaDoor
open Go Go.Av
attribute [local irreducible] AWp AOps AAny MAny DQ retQ retG St.le FCall GCall
set_option linter.unusedVariables false
set_option linter.unnecessarySimpa false
set_option linter.unusedSimpArgs false
set_option maxRecDepth 100000

/-- What a right column is. -/
theorem col_right {s : Sch} (h : schE s = 0) {column : Int} {c : Col} (h1 : 1 ≤ column) (hc : s.cols[column.toNat]? = some c) :
    (c.kind = 2 ∧ 0 ≤ c.lst ∧ c.lst < s.lists.length) ∨ (c.kind = 3 ∧ -1000000 ≤ c.low ∧ c.high ≤ 1000000 ∧ c.low ≤ c.high ∧ 1 ≤ c.widths.length ∧ c.widths.length ≤ 4 ∧ widthsB c.widths = true) := by
  have hk := (colE_parts ((schE_parts h).2.2.2.1 _ c hc)).2.2.1
  rcases kindE_kinds hk with h2 | h2 | h2
  · omega
  · exact .inl ⟨h2, kindE_code hk h2⟩
  · exact .inr ⟨h2, meaE_parts (kindE_mea hk h2)⟩
theorem widthS_bd {c : Col} {level : Int} (hw : widthsB c.widths = true) (h1 : 1 ≤ level) (h2 : level ≤ c.widths.length) : 1 ≤ widthS c level ∧ widthS c level ≤ 1000000 := by
  have hlt : ((c.widths.length : Int) - level).toNat < c.widths.length := by omega
  unfold widthS
  rw [getD_get (List.getElem?_eq_getElem hlt)]
  exact widths_bd hw _ (List.getElem_mem hlt)
theorem downS_bd (n : Int) {w : Int} (hw : 1 ≤ w) : n - w < downS n w ∧ downS n w ≤ n := by
  unfold downS
  have h1 := Int.emod_nonneg n (b := w) (by omega)
  have h2 := Int.emod_lt_of_pos n (b := w) (by omega)
  omega
theorem downS_mono {a b w : Int} (hw : 1 ≤ w) (h : a ≤ b) : downS a w ≤ downS b w := by
  unfold downS
  have e1 : a - a % w = w * (a / w) := by have := Int.mul_ediv_add_emod a w; omega
  have e2 : b - b % w = w * (b / w) := by have := Int.mul_ediv_add_emod b w; omega
  rw [e1, e2]
  exact Int.mul_le_mul_of_nonneg_left (Int.ediv_le_ediv (by omega) h) (by omega)
theorem tdiv_bd {a b : Int} (ha : 0 ≤ a) (hb : 1 ≤ b) : a.tdiv b = a / b ∧ 0 ≤ a / b ∧ a / b ≤ a := by
  refine ⟨Int.tdiv_eq_ediv_of_nonneg ha, Int.ediv_nonneg ha (by omega), ?_⟩
  exact Int.ediv_le_self b ha

def blkC (s : Sch) (c : Col) (level : Int) : Int :=
  if c.kind = 2 then (atS (lstOf s c).1 (lstOf s c).2 level).length else if level = 0 then 1 else (downS c.high (widthS c level) - downS c.low (widthS c level)) / widthS c level + 1 + (if c.opt = true then 1 else 0)
set_option maxHeartbeats 4000000 in
theorem blocks_call (s : Sch) (column level : Int) (hr : schE s = 0) (h1 : 1 ≤ column) (h2 : column < s.cols.length) (h3 : 0 ≤ level) (h4 : level ≤ finS s column) : FCall Tryd.prog 92 [sA s, .i column, .i level] (.i (blkC s (colAt s column) level)) := by
  obtain ⟨c, hc⟩ : ∃ c, s.cols[column.toNat]? = some c := ⟨_, List.getElem?_eq_getElem (by omega)⟩
  have hca := colAt_get hc
  have hcr := col_right hr h1 hc
  rw [hca]
  rw [finS, if_neg (by omega), hca] at h4
  have walk : ∀ w lo hi : Int, (c.kind = 2 ∨ level = 0 ∨ (1 ≤ w ∧ w ≤ 1000000 ∧ -2000000 ≤ lo ∧ lo ≤ hi ∧ hi ≤ 1000000 ∧ FCall Tryd.prog 97 [colA c, .i level] (.i w) ∧ FCall Tryd.prog 96 [.i c.high, .i w] (.i hi) ∧ FCall Tryd.prog 96 [.i c.low, .i w] (.i lo))) →
      FCall Tryd.prog 92 [sA s, .i column, .i level] (.i (if c.kind = 2 then (atS (lstOf s c).1 (lstOf s c).2 level).length else if level = 0 then 1 else (hi - lo) / w + 1 + (if c.opt = true then 1 else 0))) := by
    intro w lo hi hx
    have htd : c.kind ≠ 2 → level ≠ 0 → (hi - lo).tdiv w = (hi - lo) / w ∧ 0 ≤ (hi - lo) / w ∧ (hi - lo) / w ≤ hi - lo := fun h5 h6 => tdiv_bd (by omega) (by omega)
    have hwc : c.kind ≠ 2 → level ≠ 0 → FCall Tryd.prog 97 [colA c, .i level] (.i w) := fun h5 h6 => by rcases hx with hx | hx | hx <;> first | omega | exact hx.2.2.2.2.2.1
    have hdh : c.kind ≠ 2 → level ≠ 0 → FCall Tryd.prog 96 [.i c.high, .i w] (.i hi) := fun h5 h6 => by rcases hx with hx | hx | hx <;> first | omega | exact hx.2.2.2.2.2.2.1
    have hdl : c.kind ≠ 2 → level ≠ 0 → FCall Tryd.prog 96 [.i c.low, .i w] (.i lo) := fun h5 h6 => by rcases hx with hx | hx | hx <;> first | omega | exact hx.2.2.2.2.2.2.2
    have hwb : c.kind ≠ 2 → level ≠ 0 → w ≠ 0 ∧ -2000000 ≤ lo ∧ lo ≤ hi ∧ hi ≤ 1000000 := fun h5 h6 => by omega
    have hat := fun (l : CL) (hl : s.lists[c.lst.toNat]? = some l) h => at_call l.1 l.2 level h
    generalize hq : (hi - lo) / w = q at htd ⊢
    clear hx
    refine fcall_intro (n := 49) Tryd.func92 (by kernel_rfl) rfl rfl rfl rfl rfl (by intro t T h; cases h) (fun hrd E h0 => ?_)
    obtain ⟨hl1, hl2, hl3⟩ := rd_lists (s := s) (hrd _ (by simp))
    clear hrd
    repeat' ((first | (refine each_knownm (x := c) hc (by omega) ?_) | (refine call_i (hat _ hel (hl3 _ (List.mem_of_getElem? hel))) ?_) | (refine call_i (hwc (by assumption) (by assumption)) ?_) | (refine call_i (hdh (by assumption) (by assumption)) ?_) | (refine call_i (hdl (by assumption) (by assumption)) ?_) | (refine side_i ?_ ?_; (have h8 := hwb (by assumption) (by assumption); have h9 := htd (by assumption) (by assumption); omega)) | (refine draw_q ?_ ?_; kernel_rfl)  | refine aops_go ?_ | refine awp_go ?_ | refine var_i ?_ | refine fld_i ?_ | refine sl_i ?_ | refine arr_i ?_ | refine strt_i ?_ | refine boolt_i ?_ | refine zero_i ?_ | refine build_i ?_ | (refine row_i ?_ ?_; rfl) | refine map_i ?_ | refine guard_tt ?_ | refine guard_ff ?_ | refine guard_tf ?_ | refine guard_ft ?_ | (refine guard_dt (fun h => ?_) (fun h => ?_) <;> try (first | (exfalso; omega) | exact absurd rfl h)) | (refine guard_df (fun h => ?_) (fun h => ?_) <;> try (first | (exfalso; omega) | exact absurd rfl h)) | (refine guard_ndt (fun h => ?_) (fun h => ?_) <;> try (first | (exfalso; omega) | exact absurd rfl h)) | (refine guard_ndf (fun h => ?_) (fun h => ?_) <;> try (first | (exfalso; omega) | exact absurd rfl h)) | refine guard_nbt (fun h => ?_) (fun h => ?_) | refine guard_nbf (fun h => ?_) (fun h => ?_) | refine guard_bt (fun h => ?_) (fun h => ?_) | refine guard_bf (fun h => ?_) (fun h => ?_) | refine cond_t ?_ | refine cond_f ?_ | (refine cond_d (fun h => ?_) (fun h => ?_) <;> try (first | (exfalso; omega) | exact absurd rfl h)) | (refine cond_nd (fun h => ?_) (fun h => ?_) <;> try (first | (exfalso; omega) | exact absurd rfl h)) | refine cond_nb (fun h => ?_) (fun h => ?_) | refine cond_b (fun h => ?_) (fun h => ?_) | (refine side_i ?_ ?_; (first | omega | exact Eq.refl _ | exact ⟨Eq.refl _, by omega⟩ | (simp only [List.length_map]; omega))) | (refine side_i (imsB ?_) ?_; rfl) | (refine side_i (ims_map fun x => ?_) ?_; rfl) | (refine side_i ?_ ?_; (constructor <;> (simp only [elsA, cellsA, List.length_cons, List.length_nil, List.length_map]; omega))) | refine len_map ?_ | refine len_l ?_ | (refine each_knownm (by assumption) (by omega) ?_) | (refine each_known (by assumption) (by omega) ?_) | (refine each_mapNb ?_ (fun el hel hbB => ?_); omega) | (refine each_mapb ?_ ?_ (fun el hel hbB => ?_); omega; omega) | (refine each_lb ?_ ?_ (fun el hel hbB => ?_); omega; omega) | (refine each_mapN ?_ (fun el hel => ?_); omega) | (refine each_map ?_ ?_ (fun el hel => ?_); omega; omega) | (refine each_l ?_ ?_ (fun el hel => ?_); omega; omega) | (refine conv_bytes ?_ ?_; omega) | refine conv_u8 ?_ | refine conv_int ?_ | refine dq_go ?_ | (refine aany_go ?_ ?_ ?_; kernel_rfl; rfl) | (refine many_step ?_ ?_ ?_; kernel_rfl; kernel_rfl) | refine ex_i (fun ex => ?_) | refine allMP_c ?_ ?_ | exact allMP_n | (refine mpost_i ?_ ?_ ?_ ?_; rfl; rfl; rfl) | (refine free_i ?_ ?_; exact ⟨by kernel_rfl, by decide⟩) | refine allI_c ?_ ?_ | exact allI_n | refine conv_rune ?_ | (refine draw_p ?_ ?_ ?_; rfl; kernel_rfl)) <;> (try (conv => whnf)))
    all_goals first
      | (refine ret_tmp rfl (congrArg AV.i ?_); rw [if_pos h, lstOf_get hel]; done)
      | (refine ret_tmp rfl (congrArg AV.i ?_); rw [if_neg (by assumption), if_pos (by assumption)]; done)
      | (refine ret_tmp rfl (congrArg AV.i ?_)
         have h9 := htd (by assumption) (by assumption)
         rw [if_neg (by assumption), if_neg (by assumption), h9.1]
         first
           | (rw [if_pos h]; done)
           | (rw [if_neg (by rw [h]; exact Bool.false_ne_true)]; omega))
      | trace_state
  unfold blkC
  refine walk _ _ _ ?_
  rcases hcr with hcr | hcr
  · exact .inl hcr.1
  · by_cases hl : level = 0
    · exact .inr (.inl hl)
    · have h5 : finC s c = c.widths.length := by unfold finC; rw [if_neg (by omega)]
      obtain ⟨hw1, hw2⟩ := widthS_bd hcr.2.2.2.2.2.2 (level := level) (by omega) (by omega)
      have d1 := downS_bd c.low hw1
      have d2 := downS_bd c.high hw1
      have d3 := downS_mono hw1 hcr.2.2.2.1
      exact .inr (.inr ⟨hw1, hw2, by omega, d3, by omega, width_call c level (by omega) (by omega), down_call _ _ hw1 hw2 (by omega) (by omega), down_call _ _ hw1 hw2 (by omega) (by omega)⟩)
end Go.Proofs.YtmiaihoallkjfaaDoor

/- Chapter 2: leaves, and what a list of values at a level holds. -/
import Derived.Test.YtepdcljecfibpaaGreatDoorQB8
import Derived.Test.YtepdcljecfibpaaGreatDoorQB6
namespace Go.Proofs.YtepdcljecfibpaaGreatDoor
open Go Go.Av
attribute [local irreducible] AWp AOps AAny MAny DQ retQ retG St.le FCall GCall
set_option linter.unusedVariables false
set_option linter.unnecessarySimpa false
set_option linter.unusedSimpArgs false
set_option maxRecDepth 100000
theorem leaf_level {nm : List UInt8} {cs : List Code} (h : chk nm cs = 0) {v : Nat} (hv : v < cs.length) : levelS nm cs v = levelsS nm cs - 1 ↔ leafB cs v = true := by
  have hg := (chk_good h).1
  have hn := (chk_good h).2.1
  have e1 : levelS nm cs v = dep cs v := (levelS_yes (nm := nm) (cs := cs) (code := v) ⟨by omega, by omega, h⟩).symm
  have e2 : levelsS nm cs = maxL (deps cs) + 1 := by rw [levelsS, if_pos h]
  rw [e1, e2]
  obtain ⟨i, hi⟩ := maxL_at (ds := deps cs) (by rw [deps_length]; exact hn)
  have hil : i < cs.length := by rw [← deps_length cs]; exact lt_of_get hi
  have hdi := dep_get hi
  have hli := deep_leaf hg hil hdi
  constructor
  · intro e
    exact deep_leaf hg hv (by omega)
  · intro hl
    have hp1 : (pairs cs)[i]? = some (true, maxL (deps cs)) := by rw [pairs_at hi, hli]
    have hp2 : (pairs cs)[v]? = some (true, dep cs v) := by rw [pairs_at (dep_at hv), hl]
    have := (lv_all _ _ (chk_lv0 h) v i _ _ hp2 hp1).1
    omega
def lvsS (s : Sch) (column : Int) : List Nat := atS (lstOf s (colAt s column)).1 (lstOf s (colAt s column)).2 (levelsS (lstOf s (colAt s column)).1 (lstOf s (colAt s column)).2 - 1)
set_option maxHeartbeats 4000000 in
theorem leaves_call (s : Sch) (column : Int) {c : Col} (hc0 : 0 ≤ column) (hc : s.cols[column.toNat]? = some c) (hl : 0 ≤ c.lst ∧ c.lst < s.lists.length) : FCall Tryz.prog 154 [sA s, .i column] (.sl 1 ((lvsS s column).map iA)) := by
  refine fcall_intro (n := 21) Tryz.func154 (by kernel_rfl) rfl rfl rfl rfl rfl (by intro t T h; cases h) (fun hrd E h0 => ?_)
  obtain ⟨hl1, hl2, hl3⟩ := rd_lists (s := s) (hrd _ (by simp))
  clear hrd
  obtain ⟨l, hlx⟩ : ∃ l, s.lists[c.lst.toNat]? = some l := ⟨_, List.getElem?_eq_getElem (by omega)⟩
  have hll := hl3 l (List.mem_of_getElem? hlx)
  have hlb := levelsS_bd (nm := l.1) hll
  have hlev := rlevels_call l.1 l.2 hll
  have hat := rat_call l.1 l.2 (levelsS l.1 l.2 - 1) hll
  have e : lvsS s column = atS l.1 l.2 (levelsS l.1 l.2 - 1) := by rw [lvsS, colAt_get hc, lstOf_get hlx]
  rw [e]
  repeat' ((first|refine aops_go ?_|refine awp_go ?_|refine guard_tt ?_|refine guard_ff ?_|refine guard_tf ?_|refine guard_ft ?_|refine cond_t ?_|refine cond_f ?_|refine Z1 ?_|refine Z2 ?_|refine stp ?_|(refine And.intro ?_ ?_<;>intro h<;>try first|(exfalso;omega)|exact absurd rfl h)|refine Z3 ?_|refine Z4 ?_|intro el hel hbB|intro el hel|intro ex|refine Z5 ?_|(refine free_i ?_ ?_;exact ⟨by kernel_rfl,by decide⟩)|refine allI_c ?_ ?_|exact allI_n|refine allMP_c ?_ ?_|exact allMP_n|(refine many_step ?_ ?_ ?_;kernel_rfl;kernel_rfl)) <;> (try (conv => whnf)))
  refine draw_e ⟨[(2, .ref 0 0), (1, .i column), (5, .ref 1 0)], 2, [(0, some (.box (sL s))), (1, some (.box (clL l)))]⟩ ?_ ?_
  · repeat' ((first | (refine each_knownm (x := c) hc (by omega) ?_) | (refine each_knownm (x := l) hlx (by omega) ?_) |refine aops_go ?_|refine awp_go ?_|refine guard_tt ?_|refine guard_ff ?_|refine guard_tf ?_|refine guard_ft ?_|refine cond_t ?_|refine cond_f ?_|refine Z1 ?_|refine Z2 ?_|refine stp ?_|(refine And.intro ?_ ?_<;>intro h<;>try first|(exfalso;omega)|exact absurd rfl h)|refine Z3 ?_|refine Z4 ?_|intro el hel hbB|intro el hel|intro ex|refine Z5 ?_|(refine free_i ?_ ?_;exact ⟨by kernel_rfl,by decide⟩)|refine allI_c ?_ ?_|exact allI_n|refine allMP_c ?_ ?_|exact allMP_n|(refine many_step ?_ ?_ ?_;kernel_rfl;kernel_rfl)) <;> (try (conv => whnf)))
    all_goals first | exact le_of h0 rfl ⟨rfl, rfl, rfl, trivial⟩ ⟨rfl, rfl, trivial⟩ rfl rfl rfl | trace_state
  repeat' ((first | refine call_i hlev ?_ | refine call_i hat ?_ | (refine draw_q ?_ ?_; kernel_rfl) |refine aops_go ?_|refine awp_go ?_|refine guard_tt ?_|refine guard_ff ?_|refine guard_tf ?_|refine guard_ft ?_|refine cond_t ?_|refine cond_f ?_|refine Z1 ?_|refine Z2 ?_|refine stp ?_|(refine And.intro ?_ ?_<;>intro h<;>try first|(exfalso;omega)|exact absurd rfl h)|refine Z3 ?_|refine Z4 ?_|intro el hel hbB|intro el hel|intro ex|refine Z5 ?_|(refine free_i ?_ ?_;exact ⟨by kernel_rfl,by decide⟩)|refine allI_c ?_ ?_|exact allI_n|refine allMP_c ?_ ?_|exact allMP_n|(refine many_step ?_ ?_ ?_;kernel_rfl;kernel_rfl)) <;> (try (conv => whnf)))
  all_goals exact ret_tmp rfl rfl
theorem mem_atS {nm : List UInt8} {cs : List Code} {level : Int} {x : Nat} (h : x ∈ atS nm cs level) : chk nm cs = 0 ∧ x < cs.length ∧ (dep cs x : Int) = level := by
  unfold atS at h
  split at h
  · rename_i hk
    simp only [atK, List.mem_filter, List.mem_range, decide_eq_true_eq] at h
    exact ⟨hk, h.1, h.2⟩
  · cases h
theorem finS_nn {s : Sch} (hr : schE s = 0) {column : Int} (h1 : 1 ≤ column) (h2 : column < s.cols.length) : 0 ≤ finS s column := by
  have hc : s.cols[column.toNat]? = some s.cols[column.toNat] := List.getElem?_eq_getElem (by omega)
  have hcr := col_right hr h1 hc
  rw [finS, if_neg (by omega), colAt_get hc]
  generalize s.cols[column.toNat] = c at hcr
  unfold finC
  rcases hcr with hcr | hcr
  · rw [if_pos hcr.1]
    have hl : s.lists[c.lst.toNat]? = some (s.lists[c.lst.toNat]'(by omega)) := List.getElem?_eq_getElem (by omega)
    have hk := (schE_parts hr).2.2.1 _ (List.mem_of_getElem? hl)
    rw [lstOf_get hl, levelsS, if_pos hk]
    omega
  · rw [if_neg (by omega)]; omega
theorem tmod_zero {v w : Int} (hw : 1 ≤ w) : v.tmod w = 0 ↔ downS v w = v := by
  have := mod_cases v hw
  have := tmod_bd v hw
  unfold downS
  omega
end Go.Proofs.YtepdcljecfibpaaGreatDoor

/- Chapter 2: what a row can have, by the reference. Chapter 2: the reference's turned values are the program's. -/
import Derived.Test.YtepdcljecfibpaaGreatDoorQB10
namespace Go.Proofs.YtepdcljecfibpaaGreatDoor
open Go Go.Av
attribute [local irreducible] AWp AOps AAny MAny DQ retQ retG St.le FCall GCall
set_option linter.unusedVariables false
set_option linter.unnecessarySimpa false
set_option linter.unusedSimpArgs false
set_option maxRecDepth 100000
theorem coa_leaf {s : Sch} {column level : Int} {c : Col} (hr : schE s = 0) (h1 : 1 ≤ column) (hc : s.cols[column.toNat]? = some c) (hk : c.kind = 2) (h3 : 0 ≤ level) (h4 : level ≤ finestS s column) {x : Nat} (hx : x ∈ lvsS s column) :
    coaS s column level x = upS (lstOf s c).1 (lstOf s c).2 x level ∧ 0 ≤ upS (lstOf s c).1 (lstOf s c).2 x level := by
  have hca := colAt_get hc
  rw [lvsS, hca] at hx
  obtain ⟨hchk, hxl, hd⟩ := mem_atS hx
  have hxh : hasB (lstOf s c).1 (lstOf s c).2 x = true := hasB_iff.2 ⟨by omega, by omega, hchk⟩
  have hhold : holdB s c x = true := by
    have e1 : levelS (lstOf s c).1 (lstOf s c).2 x = levelsS (lstOf s c).1 (lstOf s c).2 - 1 := by
      rw [← hd]; exact (levelS_yes (code := (x : Int)) ⟨by omega, by omega, hchk⟩).symm
    rw [holdB, if_neg (by omega), if_pos hk, (leaf_level hchk hxl).1 e1, decide_eq_true (by omega)]
    rfl
  have hfin : finestS s column = levelsS (lstOf s c).1 (lstOf s c).2 - 1 := by
    have := lt_of_get hc
    rw [finestS, if_pos hr, finS, if_neg (by omega), hca, finC, if_pos hk]
  refine ⟨by rw [coaS, if_neg (by omega), hca, coaC, if_pos hk, if_pos hhold], ?_⟩
  rw [upS, if_pos ⟨hxh, h3, by rw [Int.toNat_natCast]; omega⟩]
  omega
set_option maxHeartbeats 4000000 in
theorem rpick_call (s : Sch) (p : Pk) : FCall Tryz.prog 85 [sA s, pkA p] (.i (pickE s p)) := by
  have hfin := rfinest_call s p.col
  have hin := in_call p.lev 0 (finestS s p.col)
  refine fcall_intro (n := 30) Tryz.func85 (by kernel_rfl) rfl rfl rfl rfl rfl (by intro t T h; cases h) (fun hrd E h0 => ?_)
  obtain ⟨hl1, hl2, hl3⟩ := rd_lists (s := s) (hrd _ (by simp))
  clear hrd
  repeat' ((first | refine call_i (rscheck_call s) ?_ | refine call_i hfin ?_ | refine call_i hin ?_ | (refine draw_q ?_ ?_; kernel_rfl) |refine aops_go ?_|refine awp_go ?_|refine guard_tt ?_|refine guard_ff ?_|refine guard_tf ?_|refine guard_ft ?_|refine cond_t ?_|refine cond_f ?_|refine Z1 ?_|refine Z2 ?_|refine stp ?_|(refine And.intro ?_ ?_<;>intro h<;>try first|(exfalso;omega)|exact absurd rfl h)|refine Z3 ?_|refine Z4 ?_|intro el hel hbB|intro el hel|intro ex|refine Z5 ?_|(refine free_i ?_ ?_;exact ⟨by kernel_rfl,by decide⟩)|refine allI_c ?_ ?_|exact allI_n|refine allMP_c ?_ ?_|exact allMP_n|(refine many_step ?_ ?_ ?_;kernel_rfl;kernel_rfl)) <;> (try (conv => whnf)))
  all_goals first
    | exact ret_tmp rfl (congrArg AV.i (by rw [pickE, if_neg (by assumption)]))
    | skip
  all_goals
    have hr : schE s = 0 := Classical.byContradiction (by assumption)
    rw [pickE, if_pos hr, pkE]
    have e : finestS s p.col = finS s p.col := by rw [finestS, if_pos hr]
    refine ret_tmp rfl (congrArg AV.i ?_)
  all_goals first
    | (rw [if_pos (by unfold finS; rw [if_pos (by omega)]; decide)]; done)
    | (have hnn : 0 ≤ finS s p.col := by
         have := finS_nn hr (column := p.col) (by omega) (by omega)
         exact this
       first
         | (rw [if_neg (by omega), if_pos (by omega)]; done)
         | (rw [if_neg (by omega), if_neg (by omega)]; done))
set_option maxHeartbeats 4000000 in
theorem rpicks_call (s : Sch) (l : List Pk) : FCall Tryz.prog 44 [sA s, .sl 2 (l.map pkL)] (.i (picksE s l)) := by
  have hpk := fun p => rpick_call s p
  refine fcall_intro (n := 44) Tryz.func44 (by kernel_rfl) rfl rfl rfl rfl rfl (by intro t T h; cases h) (fun hrd E h0 => ?_)
  have hlen : l.length ≤ 9223372036854775807 := by have := (hrd (.sl 2 (l.map pkL)) (by simp)).sl; simpa using this
  clear hrd
  repeat' ((first | refine call_i (rscheck_call s) ?_ |refine aops_go ?_|refine awp_go ?_|refine guard_tt ?_|refine guard_ff ?_|refine guard_tf ?_|refine guard_ft ?_|refine cond_t ?_|refine cond_f ?_|refine Z1 ?_|refine Z2 ?_|refine stp ?_|(refine And.intro ?_ ?_<;>intro h<;>try first|(exfalso;omega)|exact absurd rfl h)|refine Z3 ?_|refine Z4 ?_|intro el hel hbB|intro el hel|intro ex|refine Z5 ?_|(refine free_i ?_ ?_;exact ⟨by kernel_rfl,by decide⟩)|refine allI_c ?_ ?_|exact allI_n|refine allMP_c ?_ ?_|exact allMP_n|(refine many_step ?_ ?_ ?_;kernel_rfl;kernel_rfl)) <;> (try (conv => whnf)))
  all_goals first
    | (refine ret_tmp rfl (congrArg AV.i ?_); rw [picksE, if_neg (by assumption)]; done)
    | skip
  have hr : schE s = 0 := Classical.byContradiction (by assumption)
  have hpe : ∀ p, pickE s p = pkE s p := fun p => by rw [pickE, if_pos hr]
  rw [picksE, if_pos hr]
  refine loop_i (ι := Nat) (fun k => ⟨[(1, .sl 2 (l.map pkL)), (2, .ref 0 0), (6, .i k)], 1, [(0, some (.box (sL s)))]⟩) (fun k => ErrAt (pksE s l) l k) (fun k => l.length - k) 0 (ErrAt.zero _ _) (le_of h0 rfl ⟨rfl, rfl, rfl, trivial⟩ ⟨rfl, trivial⟩ rfl rfl rfl) (fun k hI => ?_)
  have hk := hI.1
  simp only [hpe] at hpk
  repeat' ((first | refine call_i (hpk _) ?_ | (refine draw_q ?_ ?_; kernel_rfl) |refine aops_go ?_|refine awp_go ?_|refine guard_tt ?_|refine guard_ff ?_|refine guard_tf ?_|refine guard_ft ?_|refine cond_t ?_|refine cond_f ?_|refine Z1 ?_|refine Z2 ?_|refine stp ?_|(refine And.intro ?_ ?_<;>intro h<;>try first|(exfalso;omega)|exact absurd rfl h)|refine Z3 ?_|refine Z4 ?_|intro el hel hbB|intro el hel|intro ex|refine Z5 ?_|(refine free_i ?_ ?_;exact ⟨by kernel_rfl,by decide⟩)|refine allI_c ?_ ?_|exact allI_n|refine allMP_c ?_ ?_|exact allMP_n|(refine many_step ?_ ?_ ?_;kernel_rfl;kernel_rfl)) <;> (try (conv => whnf)))
  all_goals first
    | exact ret_tmp rfl (congrArg AV.i (by rw [← hI.hit hel (by rw [pks_e h]; exact h), pks_e h]))
    | exact ret_tmp rfl (congrArg AV.i (by have e := pks_dup (by assumption) (by assumption) hel h; rw [← hI.hit (by assumption) (by rw [e]; decide), e]))
    | exact ⟨k + 1, hI.step (by assumption) (pks_ok (by assumption) (by assumption) hel h), by omega, le_of h0 rfl ⟨rfl, rfl, rfl, trivial⟩ ⟨rfl, trivial⟩ rfl rfl rfl⟩
    | exact ⟨k + 1, hI.step hel (pks_0 (by assumption) (by assumption)), by omega, le_of h0 rfl ⟨rfl, rfl, rfl, trivial⟩ ⟨rfl, trivial⟩ rfl rfl rfl⟩
    | exact ret_tmp rfl (congrArg AV.i (hI.done (by assumption)).symm)
end Go.Proofs.YtepdcljecfibpaaGreatDoor

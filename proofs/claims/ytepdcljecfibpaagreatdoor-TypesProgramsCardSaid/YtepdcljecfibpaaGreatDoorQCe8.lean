/- Chapter 5: the reference's needs of a condition. -/
import Derived.Test.YtepdcljecfibpaaGreatDoorQCe3
import Derived.Test.YtepdcljecfibpaaGreatDoorQCe6
import Derived.Test.YtepdcljecfibpaaGreatDoorQCe7
namespace Go.Proofs.YtepdcljecfibpaaGreatDoor
open Go Go.Av
attribute [local irreducible] AWp AOps AAny MAny DQ retQ retG St.le FCall GCall
set_option linter.unusedVariables false
set_option linter.unnecessarySimpa false
set_option linter.unusedSimpArgs false
set_option maxRecDepth 100000
theorem rdec_call (s : Sch) (a : Cnd) (level : Int) (hr : schE s = 0) (ha : conE s a = 0) (ho : a.op = 2 ∨ a.op = 3 ∨ a.op = 4) (h0 : 0 ≤ level) (h1 : level ≤ finS s a.col) : FCall Tryz.prog 153 [sA s, cndA a, .i level] (.b (sufS s a level)) := by
  by_cases h2 : a.op = 2
  · exact rdecc_call s a level hr ha h2 h0 h1
  · exact rdecm_call s a level hr ha (by omega) h0 h1
set_option maxHeartbeats 8000000 in
theorem rneeds_call (s : Sch) (c : Cnd) : FCall Tryz.prog 126 [sA s, cndA c] (.sl 2 ((needS s c).map pkL)) := by
  have hchk := rccheck_call s c
  unfold needS
  by_cases hce : cndE s c = 0
  · rw [if_pos hce]
    obtain ⟨hr, ht, hd, hcs⟩ := cndE_parts hce
    have hatm := ratoms_call c (by omega)
    have hlen := atm_tot c
    have hn := (schE_parts hr).2.1
    have hright := atm_right c hcs
    rw [cndA_eq] at *
    generalize hA : atmS c = A at *
    refine fcall_intro (n := 40) Tryz.func126 (by kernel_rfl) rfl rfl rfl rfl rfl (by intro t T h; cases h) (fun hrd E h0 => ?_)
    clear hrd
    repeat' ((first | refine call_i hchk ?_ | refine call_i hatm ?_ |refine aops_go ?_|refine awp_go ?_|refine guard_tt ?_|refine guard_ff ?_|refine guard_tf ?_|refine guard_ft ?_|refine cond_t ?_|refine cond_f ?_|refine Z1 ?_|refine Z2 ?_|refine stp ?_|(refine And.intro ?_ ?_<;>intro h<;>try first|(exfalso;omega)|exact absurd rfl h)|refine Z3 ?_|refine Z4 ?_|intro el hel hbB|intro el hel|intro ex|refine Z5 ?_|(refine free_i ?_ ?_;exact ⟨by kernel_rfl,by decide⟩)|refine allI_c ?_ ?_|exact allI_n|refine allMP_c ?_ ?_|exact allMP_n|(refine many_step ?_ ?_ ?_;kernel_rfl;kernel_rfl)) <;> (try (conv => whnf)))
    all_goals first
      | exact absurd hce (by assumption)
      | skip
    refine loop_i (ι := Nat) (fun k => ⟨[(2, .ref 0 0), (3, .ref 1 0), (5, .sl 2 ((pksR (lvA s (A.take k)) 0 s.cols.length).map pkL)), (6, .sl 6 (A.map cndX)), (7, .i k)], 2, [(0, some (.box (sL s))), (1, some (.box (cndY c)))]⟩)
      (fun k => k ≤ A.length) (fun k => A.length - k) 0 (Nat.zero_le _)
      (le_trans (le_nil (d := 5) (sz := 2) rfl) (le_of h0 rfl ⟨rfl, rfl, congrArg (fun z => some (AV.sl 2 z)) (by rw [List.take_zero, lvA_nil, pksR_none]; rfl), rfl, rfl, trivial⟩ ⟨rfl, rfl, trivial⟩ rfl rfl rfl)) (fun k hk => ?_)
    by_cases hlt : k < A.length
    · obtain ⟨el, hel⟩ : ∃ el, A[k]? = some el := ⟨_, List.getElem?_eq_getElem hlt⟩
      obtain ⟨r1, r2⟩ := hright el (List.mem_of_getElem? hel)
      obtain ⟨l1, l2, l3⟩ := levS_spec hr r1 r2
      obtain ⟨x, hx, c1, c2, _⟩ := atom_col hr r1 r2
      have hfin := finS_bd hr el.col
      repeat' ((first | (refine each_knownm (x := el) hel (by omega) ?_) |refine aops_go ?_|refine awp_go ?_|refine guard_tt ?_|refine guard_ff ?_|refine guard_tf ?_|refine guard_ft ?_|refine cond_t ?_|refine cond_f ?_|refine Z1 ?_|refine Z2 ?_|refine stp ?_|(refine And.intro ?_ ?_<;>intro h<;>try first|(exfalso;omega)|exact absurd rfl h)|refine Z3 ?_|refine Z4 ?_|intro el hel hbB|intro el hel|intro ex|refine Z5 ?_|(refine free_i ?_ ?_;exact ⟨by kernel_rfl,by decide⟩)|refine allI_c ?_ ?_|exact allI_n|refine allMP_c ?_ ?_|exact allMP_n|(refine many_step ?_ ?_ ?_;kernel_rfl;kernel_rfl)) <;> (try (conv => whnf)))
      all_goals first
        | (exfalso; omega)
        | skip
      refine loop_i (ι := Nat) (fun j => ⟨[(2, .ref 0 0), (3, .ref 1 0), (5, .sl 2 ((pksR (lvA s (A.take k)) 0 s.cols.length).map pkL)), (6, .sl 6 (A.map cndX)), (7, .i k), (8, .i j)], 2, [(0, some (.box (sL s))), (1, some (.box (cndY c)))]⟩)
        (fun j => j ≤ levS s el) (fun j => levS s el - j) 0 (Nat.zero_le _) (le_of h0 rfl ⟨rfl, rfl, rfl, rfl, rfl, rfl, trivial⟩ ⟨rfl, rfl, trivial⟩ rfl rfl rfl) (fun j hj => ?_)
      have hc := rdec_call s el j hr r1 r2 (by omega) (by omega)
      by_cases hs : sufS s el j = true
      · obtain rfl : j = levS s el := Classical.byContradiction fun hne => by have := l3 j (by omega); rw [hs] at this; cases this
        rw [hs] at hc
        have hpl := pksR_length (lvA s (A.take k)) s.cols.length 0
        have hraise := (raise_call (pksR (lvA s (A.take k)) 0 s.cols.length) el.col (levS s el) (by omega)).congr (congrArg (fun z => AV.sl 2 (List.map pkL z)) (raise_pks (lv := lvA s (A.take k)) (by omega) (by omega) (by omega) fun i => lvA_nn s i _))
        repeat' ((first | (refine each_knownm (x := el) hel (by omega) ?_) | refine call_i hc ?_ | refine call_i hraise ?_ |refine aops_go ?_|refine awp_go ?_|refine guard_tt ?_|refine guard_ff ?_|refine guard_tf ?_|refine guard_ft ?_|refine cond_t ?_|refine cond_f ?_|refine Z1 ?_|refine Z2 ?_|refine stp ?_|(refine And.intro ?_ ?_<;>intro h<;>try first|(exfalso;omega)|exact absurd rfl h)|refine Z3 ?_|refine Z4 ?_|intro el hel hbB|intro el hel|intro ex|refine Z5 ?_|(refine free_i ?_ ?_;exact ⟨by kernel_rfl,by decide⟩)|refine allI_c ?_ ?_|exact allI_n|refine allMP_c ?_ ?_|exact allMP_n|(refine many_step ?_ ?_ ?_;kernel_rfl;kernel_rfl)) <;> (try (conv => whnf)))
        all_goals first
          | exact ⟨k + 1, by omega, by omega, le_of h0 rfl ⟨rfl, rfl, congrArg (fun z => some (AV.sl 2 (List.map pkL z))) (by rw [lvA_take hel]), rfl, rfl, trivial⟩ ⟨rfl, rfl, trivial⟩ rfl rfl rfl⟩
      · have hs2 : sufS s el j = false := by simpa using hs
        have hlt2 : j < levS s el := Nat.lt_of_le_of_ne hj fun e => by rw [e, l2] at hs2; cases hs2
        rw [hs2] at hc
        repeat' ((first | (refine each_knownm (x := el) hel (by omega) ?_) | refine call_i hc ?_ |refine aops_go ?_|refine awp_go ?_|refine guard_tt ?_|refine guard_ff ?_|refine guard_tf ?_|refine guard_ft ?_|refine cond_t ?_|refine cond_f ?_|refine Z1 ?_|refine Z2 ?_|refine stp ?_|(refine And.intro ?_ ?_<;>intro h<;>try first|(exfalso;omega)|exact absurd rfl h)|refine Z3 ?_|refine Z4 ?_|intro el hel hbB|intro el hel|intro ex|refine Z5 ?_|(refine free_i ?_ ?_;exact ⟨by kernel_rfl,by decide⟩)|refine allI_c ?_ ?_|exact allI_n|refine allMP_c ?_ ?_|exact allMP_n|(refine many_step ?_ ?_ ?_;kernel_rfl;kernel_rfl)) <;> (try (conv => whnf)))
        all_goals first
          | exact ⟨j + 1, by omega, by omega, le_of h0 rfl ⟨rfl, rfl, rfl, rfl, rfl, rfl, trivial⟩ ⟨rfl, rfl, trivial⟩ rfl rfl rfl⟩
    · obtain rfl : k = A.length := by omega
      rw [List.take_length]
      repeat' ((first|refine aops_go ?_|refine awp_go ?_|refine guard_tt ?_|refine guard_ff ?_|refine guard_tf ?_|refine guard_ft ?_|refine cond_t ?_|refine cond_f ?_|refine Z1 ?_|refine Z2 ?_|refine stp ?_|(refine And.intro ?_ ?_<;>intro h<;>try first|(exfalso;omega)|exact absurd rfl h)|refine Z3 ?_|refine Z4 ?_|intro el hel hbB|intro el hel|intro ex|refine Z5 ?_|(refine free_i ?_ ?_;exact ⟨by kernel_rfl,by decide⟩)|refine allI_c ?_ ?_|exact allI_n|refine allMP_c ?_ ?_|exact allMP_n|(refine many_step ?_ ?_ ?_;kernel_rfl;kernel_rfl)) <;> (try (conv => whnf)))
      all_goals first
        | exact ret_tmp rfl rfl
        | (exfalso; omega)
  · rw [if_neg hce]
    rw [cndA_eq] at *
    refine fcall_intro (n := 40) Tryz.func126 (by kernel_rfl) rfl rfl rfl rfl rfl (by intro t T h; cases h) (fun hrd E h0 => ?_)
    clear hrd
    repeat' ((first | refine call_i hchk ?_ |refine aops_go ?_|refine awp_go ?_|refine guard_tt ?_|refine guard_ff ?_|refine guard_tf ?_|refine guard_ft ?_|refine cond_t ?_|refine cond_f ?_|refine Z1 ?_|refine Z2 ?_|refine stp ?_|(refine And.intro ?_ ?_<;>intro h<;>try first|(exfalso;omega)|exact absurd rfl h)|refine Z3 ?_|refine Z4 ?_|intro el hel hbB|intro el hel|intro ex|refine Z5 ?_|(refine free_i ?_ ?_;exact ⟨by kernel_rfl,by decide⟩)|refine allI_c ?_ ?_|exact allI_n|refine allMP_c ?_ ?_|exact allMP_n|(refine many_step ?_ ?_ ?_;kernel_rfl;kernel_rfl)) <;> (try (conv => whnf)))
    all_goals first
      | exact ret_nil (sz := 2) rfl rfl
      | (exfalso; contradiction)
end Go.Proofs.YtepdcljecfibpaaGreatDoor

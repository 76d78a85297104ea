/- TypesFiner: a program that has its kinds over some picks has the same ones over all columns at their finest levels. -/
import Derived.Test.YtepdcljecfibpaaGreatDoorQAw7
import Derived.Test.YtepdcljecfibpaaGreatDoorQPm4
import Derived.Test.YtepdcljecfibpaaGreatDoorQDx4
import Derived.Test.YtepdcljecfibpaaGreatDoorQCB
import Derived.Test.YtepdcljecfibpaaGreatDoorQCC
namespace Go.Proofs.YtepdcljecfibpaaGreatDoor
open Go Go.Av
attribute [local irreducible] AWp AOps AAny MAny DQ retQ retG St.le FCall GCall
set_option linter.unusedVariables false
set_option linter.unnecessarySimpa false
set_option linter.unusedSimpArgs false
set_option maxRecDepth 100000
set_option maxHeartbeats 16000000 in
theorem typesFiner_call (l : List UInt8) (hl : l.length ≤ maxLen) : FCall Tryz.prog 4 [.sl 1 (l.map u8A)] (.b true) := by
  unfold maxLen at hl
  have hL : (l.take 400).length ≤ 400 := List.length_take_le _ _
  have hnew := new_call l (by omega)
  have hsch := schc_draw (l.take 400) 0 hL
  have hd := schS_drawn (l.take 400) 0
  generalize schS (l.take 400) 0 = s0 at *
  obtain ⟨s, a0⟩ := s0
  dsimp only at hsch hd
  generalize l.take 400 = t at *
  have hpro := program_draw t s hd hL a0 5 (by omega)
  have hok := (proD_ok hd t a0 5 (by omega)).1
  generalize proD t a0 s 5 = X at *
  obtain ⟨L, nms, a1⟩ := X
  dsimp only at hpro hok
  have hall := all_call s hd
  have hpk := picksc_draw t a1 s hd hL
  generalize picksS t a1 s = p0 at *
  obtain ⟨p, a2⟩ := p0
  dsimp only at hpk
  obtain ⟨K, hK, h1, h2⟩ := typ_all hd p hok
  have c1 : FCall Tryz.prog 11 [sA s, .sl 2 ((allP s).map pkL), .sl 21 (L.map stmL)] (.tup [.sl 1 (K.map wA), .i ((L.length : Nat) : Int), .i 0]) := (tProgram_call s (allP s) L).congr (congrArg tup3K h1)
  have hlen := hok.len
  clear h1 hok
  obtain ⟨A, n, f, h3, h4⟩ : ∃ (A : List Int) (n f : Int), typS s p L = (A, n, f) ∧ (A = K ∧ n = L.length ∧ f = 0 ∨ n < L.length ∧ f = 23) := by
    rcases h2 with h2 | ⟨j, hj, h2⟩
    · exact ⟨K, _, _, h2, .inl ⟨rfl, rfl, rfl⟩⟩
    · exact ⟨[], j, 23, h2, .inr ⟨hj, rfl⟩⟩
  have c2 : FCall Tryz.prog 11 [sA s, .sl 2 (p.map pkL), .sl 21 (L.map stmL)] (.tup [.sl 1 (A.map wA), .i n, .i f]) := (tProgram_call s p L).congr (congrArg tup3K h3)
  have hi : f = 0 → FCall Tryz.prog 13 [.sl 1 (A.map wA), .sl 1 (K.map wA)] (.b true) := fun hf => (intsW_call A K).congr (congrArg AV.b (decide_eq_true (h4.elim (fun h => h.1) fun h => absurd hf (by omega))))
  have h5 : (n = L.length ∧ f = 0) ∨ (n < L.length ∧ f = 23) := h4.imp (fun h => h.2) id
  clear h2 h3 h4
  refine fcall_intro (n := 85) Tryz.func4 (by kernel_rfl) rfl rfl rfl rfl rfl (by intro t T h; cases h) (fun hrd E h0 => ?_)
  clear hrd
  repeat' ((first | (refine draw_id 8 ?_; refine draw_le (id := 8) (σ' := ⟨[(3, .ref 0 0), (4, .iptr (sL s)), (5, .sl 21 (L.map stmL)), (8, .sl 1 (K.map wA))], 1, [(0, some (.box [.sl 1 (t.map u8A), .i a1]))]⟩) (le_of h0 rfl ⟨rfl, rfl, rfl, rfl, trivial⟩ ⟨rfl, trivial⟩ rfl rfl rfl) ?_; refine draw_m (id := 8) ⟨[(5, .sl 21 (L.map stmL)), (8, .sl 1 (K.map wA)), (11, .sl 1 (A.map wA)), (12, .i n), (13, .i f)], 0, []⟩ ?_ ?_) | refine call_i awake7_call ?_ | refine ncall_g [] [] hnew rfl rfl rfl rfl rfl trivial rfl rfl rfl rfl rfl ?_ | refine ⟨ncall_h [0] [0] hsch rfl rfl rfl rfl rfl ⟨rfl, trivial⟩ rfl rfl rfl rfl rfl ?_⟩ | refine ⟨ncall_h [0] [0] hpro rfl rfl rfl rfl rfl ⟨rfl, trivial⟩ rfl rfl rfl rfl rfl ?_⟩ | refine call_i hall ?_ | refine call_i c1 ?_ | refine ⟨ncall_h [0] [0] hpk rfl rfl rfl rfl rfl ⟨rfl, trivial⟩ rfl rfl rfl rfl rfl ?_⟩ | refine call_i c2 ?_ | (refine call_i (hi (by assumption)) ?_) |refine aops_go ?_|refine awp_go ?_|refine guard_tt ?_|refine guard_ff ?_|refine guard_tf ?_|refine guard_ft ?_|refine cond_t ?_|refine cond_f ?_|refine Z1 ?_|refine Z2 ?_|refine stp ?_|(refine And.intro ?_ ?_<;>intro h<;>try first|(exfalso;omega)|exact absurd rfl h)|refine Z3 ?_|refine Z4 ?_|intro el hel hbB|intro el hel|intro ex|refine Z5 ?_|(refine free_i ?_ ?_;exact ⟨by kernel_rfl,by decide⟩)|refine allI_c ?_ ?_|exact allI_n|refine allMP_c ?_ ?_|exact allMP_n|(refine many_step ?_ ?_ ?_;kernel_rfl;kernel_rfl)) <;> (try (conv => whnf)))
  all_goals first
    | exact le_of h0 rfl ⟨rfl, rfl, rfl, rfl, rfl, trivial⟩ trivial rfl rfl rfl
    | exact ret_tmp rfl rfl
    | (exfalso; omega)
theorem typesFiner_all (l : List AV) (h : AShapes Tryz.prog Tryz.f4.params.toList l) : FCall Tryz.prog 4 l (.b true) := by
  obtain ⟨a1, r, rfl, h1, rfl⟩ := h
  obtain ⟨l, hl, rfl⟩ := ash_by h1
  exact typesFiner_call l hl
end Go.Proofs.YtepdcljecfibpaaGreatDoor

/- Draws: programs. -/
import Derived.Test.YtepdcljecfibpaaGreatDoorQDx3r
import Derived.Test.YtepdcljecfibpaaGreatDoorQB5
namespace Go.Proofs.YtepdcljecfibpaaGreatDoor
open Go Go.Av
attribute [local irreducible] AWp AOps AAny MAny DQ retQ retG St.le FCall GCall
set_option linter.unusedVariables false
set_option linter.unnecessarySimpa false
set_option linter.unusedSimpArgs false
set_option maxRecDepth 100000
abbrev stmT : Nat := 42
theorem proF_len (l : List UInt8) (s : Sch) : ∀ (n : Nat) (x : PrD), (proF l s x n).l.length = x.l.length + n
  | 0, x => rfl
  | n + 1, x => by rw [proF]; (try dsimp only); rw [proF_len l s n]; (try dsimp only); rw [List.length_append, List.length_singleton]; omega
theorem proD_len (l : List UInt8) (a : Nat) (s : Sch) (most : Int) (h : 0 ≤ most ∧ most ≤ 29) : (proD l a s most).l.length ≤ 29 := by
  have hlt := nxt_lt l a (n := most + 1) (by omega)
  unfold proD
  rw [proF_len, List.length_nil]; omega
abbrev proSt (l : List UInt8) (s : Sch) (x : PrD) (n : Nat) : St := ⟨[(0, .ref 0 0), (4, .iptr (sL s)), (7, .row 2 0 x.l.length), (8, .row 3 0 x.names.length), (9, .i n)], 4, [(0, some (.box [.sl 1 (l.map u8A), .i x.a])), (2, some (.row stmT 21 0 (x.l.map stmL))), (3, some (.row 9 1 0 (x.names.map strV)))]⟩
set_option maxHeartbeats 16000000 in
theorem program_draw (l : List UInt8) (s : Sch) (hd : Drawn s) (hl : l.length ≤ 400) (a : Nat) (most : Int) (hm : 0 ≤ most ∧ most ≤ 20) : GCall Tryz.prog 8 1 (drB l a) [.ref 0 0, sA s, .i most] 1 (drB l (proD l a s most).a) (.sl 21 ((proD l a s most).l.map stmL)) := by
  have r0 := next_call l a (most + 1) hl
  have hlt := nxt_lt l a (n := most + 1) (by omega)
  unfold proD
  generalize nxt l a (most + 1) = N at *
  obtain ⟨n0, a1⟩ := N
  dsimp only at r0 hlt ⊢
  generalize hZ : proF l s ⟨[], [], a1⟩ n0 = Z
  have ro := fun b => one_call l b 2 hl (by omega)
  have rx := fun names hn b => exprr_draw l s hd hl names hn b
  have ri := fun n h => itoa_call n h
  refine gcall_intro (n := 44) Tryz.func8 (by kernel_rfl) rfl rfl rfl rfl (fun E h0 => ?_)
  repeat' ((first | refine ⟨ncall_h [0] [0] r0 rfl rfl rfl rfl rfl ⟨rfl, trivial⟩ rfl rfl rfl rfl rfl ?_⟩ |refine aops_go ?_|refine awp_go ?_|refine guard_tt ?_|refine guard_ff ?_|refine guard_tf ?_|refine guard_ft ?_|refine cond_t ?_|refine cond_f ?_|refine Z1 ?_|refine Z2 ?_|refine stp ?_|(refine And.intro ?_ ?_<;>intro h<;>try first|(exfalso;omega)|exact absurd rfl h)|refine Z3 ?_|refine Z4 ?_|intro el hel hbB|intro el hel|intro ex|refine Z5 ?_|(refine free_i ?_ ?_;exact ⟨by kernel_rfl,by decide⟩)|refine allI_c ?_ ?_|exact allI_n|refine allMP_c ?_ ?_|exact allMP_n|(refine many_step ?_ ?_ ?_;kernel_rfl;kernel_rfl)) <;> (try (conv => whnf)))
  refine loop_i (ι := PrD × Nat) (fun x => proSt l s x.1 x.2) (fun x => x.1.l.length + x.2 ≤ 20 ∧ x.1.names.length ≤ x.1.l.length ∧ Z = proF l s x.1 x.2) (fun x => x.2) (⟨[], [], a1⟩, n0) ⟨by dsimp only [List.length_nil]; omega, Nat.zero_le _, hZ.symm⟩
    (le_trans (le_adopt (d := 7) (e := stmT) (sz := 21) rfl) (le_trans (le_adopt (d := 8) (e := 9) (sz := 1) rfl) (le_of h0 rfl ⟨rfl, rfl, rfl, rfl, rfl, trivial⟩ ⟨rfl, ⟨0, rfl⟩, ⟨0, rfl⟩, trivial⟩ rfl rfl rfl))) (fun x hI => ?_)
  obtain ⟨⟨L, names, b⟩, n⟩ := x
  obtain ⟨hk, hnl, hI⟩ := hI
  dsimp only at hk hnl hI ⊢
  by_cases hn : n = 0
  · subst hn
    rw [proF] at hI
    rw [hI]
    clear r0 ro rx ri
    repeat' ((first|refine aops_go ?_|refine awp_go ?_|refine guard_tt ?_|refine guard_ff ?_|refine guard_tf ?_|refine guard_ft ?_|refine cond_t ?_|refine cond_f ?_|refine Z1 ?_|refine Z2 ?_|refine stp ?_|(refine And.intro ?_ ?_<;>intro h<;>try first|(exfalso;omega)|exact absurd rfl h)|refine Z3 ?_|refine Z4 ?_|intro el hel hbB|intro el hel|intro ex|refine Z5 ?_|(refine free_i ?_ ?_;exact ⟨by kernel_rfl,by decide⟩)|refine allI_c ?_ ?_|exact allI_n|refine allMP_c ?_ ?_|exact allMP_n|(refine many_step ?_ ?_ ?_;kernel_rfl;kernel_rfl)) <;> (try (conv => whnf)))
    all_goals first
      | (exfalso; omega)
      | exact retg_tmp (le_of h0 rfl ⟨rfl, trivial⟩ ⟨rfl, trivial⟩ rfl rfl rfl)
  · obtain ⟨m, rfl⟩ : ∃ m, n = m + 1 := ⟨n - 1, by omega⟩
    rw [proF] at hI
    dsimp only at hI
    have hi1 := ri L.length (by omega)
    have hil := itoaN_length L.length
    have ho := ro b
    generalize nxt l b 2 = o at *
    obtain ⟨o1, o2⟩ := o
    dsimp only at ho hI
    have hx := rx names (by omega) o2
    generalize exprD l s names o2 = X at *
    obtain ⟨e, b2⟩ := X
    dsimp only at hx hI
    clear r0 ro rx ri
    rw [proN] at hI
    repeat' ((first | refine call_i hi1 ?_ | (refine side_i ?_ ?_; (show 1 + (itoaN L.length).length ≤ _; omega)) | refine ⟨ncall_h [0] [0] ho rfl rfl rfl rfl rfl ⟨rfl, trivial⟩ rfl rfl rfl rfl rfl ?_⟩ | refine ⟨ncall_h [0, 3] [0, 0] hx rfl rfl rfl rfl rfl ⟨rfl, rfl, trivial⟩ rfl rfl rfl rfl rfl ?_⟩ |refine aops_go ?_|refine awp_go ?_|refine guard_tt ?_|refine guard_ff ?_|refine guard_tf ?_|refine guard_ft ?_|refine cond_t ?_|refine cond_f ?_|refine Z1 ?_|refine Z2 ?_|refine stp ?_|(refine And.intro ?_ ?_<;>intro h<;>try first|(exfalso;omega)|exact absurd rfl h)|refine Z3 ?_|refine Z4 ?_|intro el hel hbB|intro el hel|intro ex|refine Z5 ?_|(refine free_i ?_ ?_;exact ⟨by kernel_rfl,by decide⟩)|refine allI_c ?_ ?_|exact allI_n|refine allMP_c ?_ ?_|exact allMP_n|(refine many_step ?_ ?_ ?_;kernel_rfl;kernel_rfl) | (refine draw_id 6 ?_; refine draw_le (id := 6) (σ' := ⟨[(0, .ref 0 0), (4, .iptr (sL s)), (7, .row 2 0 L.length), (8, .row 3 0 names.length), (9, .i ((m + 1 : Nat) : Int))], 4, [(0, some (.box [.sl 1 (l.map u8A), .i b])), (2, some (.row stmT 21 0 (L.map stmL))), (3, some (.row (keepE + 9) 1 0 (names.map strV)))]⟩) (le_trans (le_keep (i := 3) rfl (by omega) (by decide)) (le_of h0 rfl ⟨rfl, rfl, rfl, rfl, rfl, trivial⟩ ⟨rfl, ⟨_, rfl⟩, ⟨_, rfl⟩, trivial⟩ rfl rfl rfl)) ?_; refine draw_m (id := 6) ⟨[(0, .ref 0 0), (4, .iptr (sL s)), (7, .row 2 0 L.length), (8, .row 3 0 names.length), (9, .i ((m + 1 : Nat) : Int)), (10, .ref 4 0)], 5, [(0, some (.box [.sl 1 (l.map u8A), .i b2])), (2, some (.row stmT 21 0 (L.map stmL))), (3, some (.row 9 1 0 (names.map strV))), (4, some (.box (.str ([118] ++ itoaN L.length) :: .b (decide ((o1 : Int) = 2 - 1)) :: xprX e)))]⟩ ?_ ?_)) <;> (try (conv => whnf)))
    all_goals first
      | (exfalso; omega)
      | exact le_trans (le_unkeep (i := 3) rfl (by decide)) (le_of h0 rfl ⟨rfl, rfl, rfl, rfl, rfl, rfl, trivial⟩ ⟨rfl, ⟨_, rfl⟩, ⟨_, rfl⟩, rfl, trivial⟩ rfl rfl rfl)
      | (have hop : e.op < 10 := by assumption
         rw [if_pos hop] at hI
         exact ⟨(⟨L ++ [⟨[118] ++ itoaN L.length, decide ((o1 : Int) = 2 - 1), e⟩], names ++ [[118] ++ itoaN L.length], b2⟩, m), ⟨by dsimp only; rw [List.length_append, List.length_singleton]; omega, by dsimp only; rw [List.length_append, List.length_append, List.length_singleton, List.length_singleton]; omega, hI⟩, by dsimp only; omega, le_of h0 rfl ⟨rfl, rfl, congrArg (fun z : Nat => some (AV.row 2 0 z)) (by rw [List.length_append]; rfl), congrArg (fun z : Nat => some (AV.row 3 0 z)) (by rw [List.length_append]; rfl), congrArg (fun z : Int => some (AV.i z)) (by omega), trivial⟩ ⟨rfl, ⟨_, congrArg (Blk.row stmT 21 _) (by rw [List.map_append]; rfl)⟩, ⟨_, congrArg (Blk.row 9 1 _) (by rw [List.map_append]; rfl)⟩, trivial⟩ rfl rfl rfl⟩)
      | (have hop : ¬ e.op < 10 := by assumption
         rw [if_neg hop] at hI
         exact ⟨(⟨L ++ [⟨[118] ++ itoaN L.length, decide ((o1 : Int) = 2 - 1), e⟩], names, b2⟩, m), ⟨by dsimp only; rw [List.length_append, List.length_singleton]; omega, by dsimp only; rw [List.length_append, List.length_singleton]; omega, hI⟩, by dsimp only; omega, le_of h0 rfl ⟨rfl, rfl, congrArg (fun z : Nat => some (AV.row 2 0 z)) (by rw [List.length_append]; rfl), rfl, congrArg (fun z : Int => some (AV.i z)) (by omega), trivial⟩ ⟨rfl, ⟨_, congrArg (Blk.row stmT 21 _) (by rw [List.map_append]; rfl)⟩, ⟨_, rfl⟩, trivial⟩ rfl rfl rfl⟩)
end Go.Proofs.YtepdcljecfibpaaGreatDoor

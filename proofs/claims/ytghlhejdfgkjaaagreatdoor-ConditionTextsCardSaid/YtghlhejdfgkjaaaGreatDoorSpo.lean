/- Draws: a condition in which something is another thing. -/
import Derived.Test.YtghlhejdfgkjaaaGreatDoorD2
import Derived.Test.YtghlhejdfgkjaaaGreatDoorCm1
namespace Go.Proofs.YtghlhejdfgkjaaaGreatDoor
open Go Go.Av
attribute [local irreducible] AWp AOps AAny MAny DQ retQ retG St.le FCall GCall
set_option linter.unusedVariables false
set_option linter.unnecessarySimpa false
set_option linter.unusedSimpArgs false
set_option maxRecDepth 100000

def spoC (l : List UInt8) (s : Sch) (by' : Int) (a : Nat) : Cnd × Nat :=
  let x := condS l s 3 a
  let k := nxt l x.2 9
  let c := x.1
  if (k.1 : Int) = 1 then (.mk by' c.col c.code c.lo c.hi c.kids, k.2)
  else if (k.1 : Int) = 2 then (.mk c.op by' c.code c.lo c.hi c.kids, k.2)
  else if (k.1 : Int) = 3 then (.mk c.op c.col by' c.lo c.hi c.kids, k.2)
  else if (k.1 : Int) = 4 then (.mk c.op c.col c.code by' c.hi c.kids, k.2)
  else if (k.1 : Int) = 5 then (.mk c.op c.col c.code c.lo by' c.kids, k.2)
  else if (k.1 : Int) = 6 then (.mk c.op c.col c.code c.lo c.hi (c.kids ++ [(condS l s 0 k.2).1]), (condS l s 0 k.2).2)
  else (c, k.2)
set_option maxHeartbeats 8000000 in
theorem spo_call (l : List UInt8) (a : Nat) (s : Sch) (by' : Int) (hd : Drawn s) (hl : l.length ≤ 400) : GCall Tryz.prog 19 1 (drB l a) [.ref 0 0, sA s, .i by'] 1 (drB l (spoC l s by' a).2) (cndA (spoC l s by' a).1) := by
  unfold spoC
  have r1 := cond_draw l s hd hl 3 a (by omega)
  have hk : (condS l s 3 a).1.kids.length ≤ 2 := by
    have h1 := (conE_parts (chkS_parts (condS_ok hd l 3 a).1).1).2.1
    obtain ⟨k1, k2, k3⟩ := kidN_of (condS l s 3 a).1.op
    by_cases e : (condS l s 3 a).1.op = 5 ∨ (condS l s 3 a).1.op = 6
    · have := k1 e; omega
    · by_cases e7 : (condS l s 3 a).1.op = 7
      · have := k2 e7; omega
      · have := k3 (by omega) (by omega) e7; omega
  generalize condS l s 3 a = X at *
  obtain ⟨x, a1⟩ := X
  dsimp only at r1 hk ⊢
  have r2 := next_call l a1 9 hl
  have h9 := nxt_lt l a1 (n := 9) (by omega)
  generalize nxt l a1 9 = q at *
  obtain ⟨k, a2⟩ := q
  dsimp only at r2 h9 ⊢
  have r3 := cond_draw l s hd hl 0 a2 (by omega)
  generalize condS l s 0 a2 = Y at *
  obtain ⟨y, a3⟩ := Y
  dsimp only at r3 ⊢
  rw [cndA_eq] at r1
  refine gcall_intro (n := 45) Tryz.func19 (by kernel_rfl) rfl rfl rfl rfl (fun E h0 => ?_)
  repeat' ((first | refine ⟨ncall_h [0] [0] r1 rfl rfl rfl rfl rfl ⟨rfl, trivial⟩ rfl rfl rfl rfl rfl ?_⟩ | refine ⟨ncall_h [0] [0] r2 rfl rfl rfl rfl rfl ⟨rfl, trivial⟩ rfl rfl rfl rfl rfl ?_⟩ | refine ⟨ncall_h [0] [0] r3 rfl rfl rfl rfl rfl ⟨rfl, trivial⟩ rfl rfl rfl rfl rfl ?_⟩ | refine draw_m (id := 14) ⟨[(6, .ref 2 0), (7, .ref 3 0)], 4, [(0, some (.box [.sl 1 (l.map u8A), .i a3])), (2, some (.box [.i 0, .i 0, .i 0, .i 0, .i 0, .v (.slice none 0 0)])), (3, some (.box [.i x.op, .i x.col, .i x.code, .i x.lo, .i x.hi, .sl 6 ([] ++ x.kids.map cndX ++ [cndX y])]))]⟩ ?_ ?_ |refine aops_go ?_|refine awp_go ?_|refine guard_tt ?_|refine guard_ff ?_|refine guard_tf ?_|refine guard_ft ?_|refine cond_t ?_|refine cond_f ?_|refine Z1 ?_|refine Z2 ?_|refine stp ?_|(refine And.intro ?_ ?_<;>intro h<;>try first|(exfalso;omega)|exact absurd rfl h)|refine Z3 ?_|refine Z4 ?_|intro el hel hbB|intro el hel|intro ex|refine Z5 ?_|(refine free_i ?_ ?_;exact ⟨by kernel_rfl,by decide⟩)|refine allI_c ?_ ?_|exact allI_n|refine allMP_c ?_ ?_|exact allMP_n|(refine many_step ?_ ?_ ?_;kernel_rfl;kernel_rfl)) <;> (try (conv => whnf)))
  all_goals first
    | exact le_of h0 rfl ⟨rfl, rfl, trivial⟩ ⟨rfl, rfl, rfl, trivial⟩ rfl rfl rfl
    | (rw [if_pos (by omega)]; dsimp only; rw [cndA_eq]; exact retg_vs (rvs := [.cell 6 cndT]) (vs := [_]) ⟨2, _, _, rfl, rfl, inferInstance, rfl, rfl, trivial⟩ rfl rfl (le_of h0 rfl ⟨rfl, trivial⟩ ⟨rfl, trivial⟩ rfl rfl rfl) rfl)
    | (rw [if_neg (by omega), if_pos (by omega)]; dsimp only; rw [cndA_eq]; exact retg_vs (rvs := [.cell 6 cndT]) (vs := [_]) ⟨2, _, _, rfl, rfl, inferInstance, rfl, rfl, trivial⟩ rfl rfl (le_of h0 rfl ⟨rfl, trivial⟩ ⟨rfl, trivial⟩ rfl rfl rfl) rfl)
    | (rw [if_neg (by omega), if_neg (by omega), if_pos (by omega)]; dsimp only; rw [cndA_eq]; exact retg_vs (rvs := [.cell 6 cndT]) (vs := [_]) ⟨2, _, _, rfl, rfl, inferInstance, rfl, rfl, trivial⟩ rfl rfl (le_of h0 rfl ⟨rfl, trivial⟩ ⟨rfl, trivial⟩ rfl rfl rfl) rfl)
    | (rw [if_neg (by omega), if_neg (by omega), if_neg (by omega), if_pos (by omega)]; dsimp only; rw [cndA_eq]; exact retg_vs (rvs := [.cell 6 cndT]) (vs := [_]) ⟨2, _, _, rfl, rfl, inferInstance, rfl, rfl, trivial⟩ rfl rfl (le_of h0 rfl ⟨rfl, trivial⟩ ⟨rfl, trivial⟩ rfl rfl rfl) rfl)
    | (rw [if_neg (by omega), if_neg (by omega), if_neg (by omega), if_neg (by omega), if_pos (by omega)]; dsimp only; rw [cndA_eq]; exact retg_vs (rvs := [.cell 6 cndT]) (vs := [_]) ⟨2, _, _, rfl, rfl, inferInstance, rfl, rfl, trivial⟩ rfl rfl (le_of h0 rfl ⟨rfl, trivial⟩ ⟨rfl, trivial⟩ rfl rfl rfl) rfl)
    | (rw [if_neg (by omega), if_neg (by omega), if_neg (by omega), if_neg (by omega), if_neg (by omega), if_pos (by omega)]; dsimp only; rw [cndA_eq, cndY]; exact retg_vs (rvs := [.cell 6 cndT]) (vs := [_]) ⟨2, _, _, rfl, rfl, inferInstance, rfl, rfl, trivial⟩ rfl rfl (le_of h0 rfl ⟨congrArg (fun z => some (AV.agg [.i x.op, .i x.col, .i x.code, .i x.lo, .i x.hi, .sl 6 z])) (by show _ = (x.kids ++ [y]).map cndX; rw [List.map_append]; rfl), trivial⟩ ⟨rfl, trivial⟩ rfl rfl rfl) rfl)
    | (rw [if_neg (by omega), if_neg (by omega), if_neg (by omega), if_neg (by omega), if_neg (by omega), if_neg (by omega)]; dsimp only; rw [cndA_eq]; exact retg_vs (rvs := [.cell 6 cndT]) (vs := [_]) ⟨2, _, _, rfl, rfl, inferInstance, rfl, rfl, trivial⟩ rfl rfl (le_of h0 rfl ⟨rfl, trivial⟩ ⟨rfl, trivial⟩ rfl rfl rfl) rfl)
    | trace_state
end Go.Proofs.YtghlhejdfgkjaaaGreatDoor

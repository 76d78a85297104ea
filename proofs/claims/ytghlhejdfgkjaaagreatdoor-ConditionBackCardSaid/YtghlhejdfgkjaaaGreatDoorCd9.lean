/- Chapter 5: the program's truth values for rows. -/
import Derived.Test.YtghlhejdfgkjaaaGreatDoorCm1
namespace Go.Proofs.YtghlhejdfgkjaaaGreatDoor
open Go Go.Av
attribute [local irreducible] AWp AOps AAny MAny DQ retQ retG St.le FCall GCall
set_option linter.unusedVariables false
set_option linter.unnecessarySimpa false
set_option linter.unusedSimpArgs false
set_option maxRecDepth 100000

set_option maxHeartbeats 4000000 in
theorem tell_call (s : Sch) (f : Nat) (caps : List AV) (hcl : closedLB caps = true) (g : Cnd → Int) (hg : ∀ a, -1 ≤ g a ∧ g a ≤ 1) (c : Cnd) : chkS s c = 0 → (∀ a ∈ atmS c, FCall Tryz.prog f (cndA a :: caps) (.i (g a))) → FCall Tryz.prog 113 [cndA c, .fn f caps] (.i (telS g c)) := by
  refine cnd_ind (p := fun c => chkS s c = 0 → (∀ a ∈ atmS c, FCall Tryz.prog f (cndA a :: caps) (.i (g a))) → FCall Tryz.prog 113 [cndA c, .fn f caps] (.i (telS g c))) (fun c ih h hf => ?_) c
  obtain ⟨h1, h2⟩ := chkS_parts h
  obtain ⟨p1, p2, _⟩ := conE_parts h1
  obtain ⟨k1, k2, k3⟩ := kidN_of c.op
  have hkid : ∀ k, k ∈ c.kids → FCall Tryz.prog 113 [cndA k, .fn f caps] (.i (telS g k)) := fun k hk => by
    refine ih k hk (h2 k hk) fun a ha => hf a (atm_kid ?_ hk ha)
    intro ho
    have := k3 (by omega) (by omega) (by omega)
    have : c.kids = [] := List.eq_nil_of_length_eq_zero (by omega)
    rw [this] at hk; cases hk
  have hbd := fun k => telS_bd hg k
  have hone : (c.op = 2 ∨ c.op = 3 ∨ c.op = 4) → FCall Tryz.prog f (cndA c :: caps) (.i (g c)) := fun ho => hf c (by rw [atmS_eq, if_pos ho]; simp)
  rw [cndA_eq] at hone ⊢
  rw [telS_eq]
  refine fcall_intro (n := 51) Tryz.func113 (by kernel_rfl) rfl rfl rfl rfl rfl (by intro t T h; cases h) (fun hrd E h0 => ?_)
  clear hrd
  repeat' ((first | (refine call_i (hkid _ (List.mem_of_getElem? (by assumption))) ?_) | (refine call_i (hone (by omega)) ?_) | (refine side_i ?_ ?_; (have := hbd el; omega)) |refine aops_go ?_|refine awp_go ?_|refine guard_tt ?_|refine guard_ff ?_|refine guard_tf ?_|refine guard_ft ?_|refine cond_t ?_|refine cond_f ?_|refine Z1 ?_|refine Z2 ?_|refine stp ?_|(refine And.intro ?_ ?_<;>intro h<;>try first|(exfalso;omega)|exact absurd rfl h)|refine Z3 ?_|refine Z4 ?_|intro el hel hbB|intro el hel|intro ex|refine Z5 ?_|(refine free_i ?_ ?_;exact ⟨by kernel_rfl,by decide⟩)|refine allI_c ?_ ?_|exact allI_n|refine allMP_c ?_ ?_|exact allMP_n|(refine many_step ?_ ?_ ?_;kernel_rfl;kernel_rfl)) <;> (try (conv => whnf)))
  all_goals first
    | (refine ret_tmp rfl (congrArg AV.i ?_); unfold joinS; rw [if_pos (by assumption)]; done)
    | (refine ret_tmp rfl (congrArg AV.i ?_); unfold joinS; rw [if_neg (by assumption), if_pos (by assumption), getD_map (k := 0) (by assumption), getD_map (k := 1) (by assumption)]; done)
    | (refine ret_tmp rfl (congrArg AV.i ?_); unfold joinS; rw [if_neg (by assumption), if_neg (by assumption), if_pos (by assumption), getD_map (k := 0) (by assumption), getD_map (k := 1) (by assumption)]; done)
    | (refine ret_tmp rfl (congrArg AV.i ?_); unfold joinS; rw [if_neg (by assumption), if_neg (by assumption), if_neg (by assumption), if_pos (by assumption), getD_map (k := 0) (by assumption)]; done)
    | (refine ret_tmp rfl (congrArg AV.i ?_); unfold joinS; rw [if_neg (by assumption), if_neg (by assumption), if_neg (by assumption), if_neg (by assumption)]; done)
    | trace_state
set_option maxHeartbeats 4000000 in
theorem holds1_call (s : Sch) (hr : schE s = 0) (row : List Int) (a : Cnd) (ha : conE s a = 0) (ho : a.op = 2 ∨ a.op = 3 ∨ a.op = 4) (hl : row.length = s.cols.length) : FCall Tryz.prog 114 [cndA a, .iptr (sL s), .iptr [.sl 1 (row.map wA)]] (.i (atomS s a (row.getD a.col.toNat 0))) := by
  have hat := fun v => catom_call s a v (atom_code hr ha)
  obtain ⟨_, _, p3, _⟩ := conE_parts ha
  have hc := p3 ho
  obtain ⟨v, hv⟩ : ∃ v, row[a.col.toNat]? = some v := ⟨_, List.getElem?_eq_getElem (by omega)⟩
  rw [getD_get hv]
  rw [cndA_eq] at *
  refine fcall_intro (n := 13) Tryz.func114 (by kernel_rfl) rfl rfl rfl rfl rfl (by intro t T h; cases h) (fun hrd E h0 => ?_)
  clear hrd
  repeat' ((first | (refine each_knownm (x := v) hv (by omega) ?_) | refine call_i (hat _) ?_ | (refine draw_q ?_ ?_; kernel_rfl) |refine aops_go ?_|refine awp_go ?_|refine guard_tt ?_|refine guard_ff ?_|refine guard_tf ?_|refine guard_ft ?_|refine cond_t ?_|refine cond_f ?_|refine Z1 ?_|refine Z2 ?_|refine stp ?_|(refine And.intro ?_ ?_<;>intro h<;>try first|(exfalso;omega)|exact absurd rfl h)|refine Z3 ?_|refine Z4 ?_|intro el hel hbB|intro el hel|intro ex|refine Z5 ?_|(refine free_i ?_ ?_;exact ⟨by kernel_rfl,by decide⟩)|refine allI_c ?_ ?_|exact allI_n|refine allMP_c ?_ ?_|exact allMP_n|(refine many_step ?_ ?_ ?_;kernel_rfl;kernel_rfl)) <;> (try (conv => whnf)))
  all_goals exact ret_tmp rfl rfl
set_option maxHeartbeats 4000000 in
theorem holds_call (s : Sch) (hr : schE s = 0) (c : Cnd) (hc : chkS s c = 0) (row : List Int) (hl : row.length = s.cols.length) : FCall Tryz.prog 72 [sA s, cndA c, .sl 1 (row.map wA)] (.i (holdS s c row)) := by
  have ht := tell_call s 114 [.iptr (sL s), .iptr [.sl 1 (row.map wA)]] rfl (fun a => atomS s a (row.getD a.col.toNat 0)) (fun a => atomS_bd _ _ _) c hc fun a ha => by
    obtain ⟨h1, h2⟩ := atm_right c hc a ha
    exact holds1_call s hr row a h1 h2 hl
  refine fcall_intro (n := 10) Tryz.func72 (by kernel_rfl) rfl rfl rfl rfl rfl (by intro t T h; cases h) (fun hrd E h0 => ?_)
  clear hrd
  repeat' ((first | (refine ncall_frz 0 ?_; refine aops_go ?_; (conv => whnf); refine ncall_frz 2 ?_) | refine call_i ht ?_ |refine aops_go ?_|refine awp_go ?_|refine guard_tt ?_|refine guard_ff ?_|refine guard_tf ?_|refine guard_ft ?_|refine cond_t ?_|refine cond_f ?_|refine Z1 ?_|refine Z2 ?_|refine stp ?_|(refine And.intro ?_ ?_<;>intro h<;>try first|(exfalso;omega)|exact absurd rfl h)|refine Z3 ?_|refine Z4 ?_|intro el hel hbB|intro el hel|intro ex|refine Z5 ?_|(refine free_i ?_ ?_;exact ⟨by kernel_rfl,by decide⟩)|refine allI_c ?_ ?_|exact allI_n|refine allMP_c ?_ ?_|exact allMP_n|(refine many_step ?_ ?_ ?_;kernel_rfl;kernel_rfl)) <;> (try (conv => whnf)))
  all_goals exact ret_tmp rfl rfl
set_option maxHeartbeats 4000000 in
theorem eval_call (s : Sch) (c : Cnd) (row : List Int) : FCall Tryz.prog 24 [sA s, cndA c, .sl 1 (row.map wA)] (.i (evaS s c row)) := by
  have h1 := ccheck_call s c
  have h2 := row_call s row
  have h3 : ¬ cndE s c ≠ 0 → ¬ rowE s row ≠ 0 → FCall Tryz.prog 72 [sA s, cndA c, .sl 1 (row.map wA)] (.i (holdS s c row)) := fun a b => have a := Decidable.of_not_not a; have b := Decidable.of_not_not b; holds_call s (cndE_parts a).1 c (cndE_parts a).2.2.2 row (rowE_parts b).2
  unfold evaS
  rw [cndA_eq] at *
  refine fcall_intro (n := 21) Tryz.func24 (by kernel_rfl) rfl rfl rfl rfl rfl (by intro t T h; cases h) (fun hrd E h0 => ?_)
  clear hrd
  repeat' ((first | refine call_i h1 ?_ | refine call_i h2 ?_ | (refine call_i (h3 (by assumption) (by assumption)) ?_) |refine aops_go ?_|refine awp_go ?_|refine guard_tt ?_|refine guard_ff ?_|refine guard_tf ?_|refine guard_ft ?_|refine cond_t ?_|refine cond_f ?_|refine Z1 ?_|refine Z2 ?_|refine stp ?_|(refine And.intro ?_ ?_<;>intro h<;>try first|(exfalso;omega)|exact absurd rfl h)|refine Z3 ?_|refine Z4 ?_|intro el hel hbB|intro el hel|intro ex|refine Z5 ?_|(refine free_i ?_ ?_;exact ⟨by kernel_rfl,by decide⟩)|refine allI_c ?_ ?_|exact allI_n|refine allMP_c ?_ ?_|exact allMP_n|(refine many_step ?_ ?_ ?_;kernel_rfl;kernel_rfl)) <;> (try (conv => whnf)))
  all_goals first
    | (refine ret_tmp rfl (congrArg AV.i ?_); rw [if_neg (by omega)]; done)
    | (refine ret_tmp rfl (congrArg AV.i ?_); rw [if_pos (by omega)]; done)
    | trace_state
end Go.Proofs.YtghlhejdfgkjaaaGreatDoor

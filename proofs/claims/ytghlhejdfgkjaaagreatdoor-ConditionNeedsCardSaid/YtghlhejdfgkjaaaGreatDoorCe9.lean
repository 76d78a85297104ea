/- Chapter 5: the reference's truth values for rows. -/
import Derived.Test.YtghlhejdfgkjaaaGreatDoorCm1
import Derived.Test.YtghlhejdfgkjaaaGreatDoorCe3
import Derived.Test.YtghlhejdfgkjaaaGreatDoorC7
import Derived.Test.YtghlhejdfgkjaaaGreatDoorB10
namespace Go.Proofs.YtghlhejdfgkjaaaGreatDoor
open Go Go.Av
attribute [local irreducible] AWp AOps AAny MAny DQ retQ retG St.le FCall GCall
set_option linter.unusedVariables false
set_option linter.unnecessarySimpa false
set_option linter.unusedSimpArgs false
set_option maxRecDepth 100000

set_option maxHeartbeats 4000000 in
theorem rjoin_call (op : Int) (vs : List Int) (h5 : op = 5 ∨ op = 6 → 2 ≤ vs.length) (h7 : op = 7 → 1 ≤ vs.length) (hb : ∀ v ∈ vs, -1 ≤ v ∧ v ≤ 1) : FCall Tryz.prog 118 [.i op, .sl 1 (vs.map wA)] (.i (joinS op vs 1)) := by
  have hbd : ∀ (k : Nat) v, vs[k]? = some v → -1 ≤ v ∧ v ≤ 1 := fun k v h => hb v (List.mem_of_getElem? h)
  refine fcall_intro (n := 30) Tryz.func118 (by kernel_rfl) rfl rfl rfl rfl rfl (by intro t T h; cases h) (fun hrd E h0 => ?_)
  clear hrd
  repeat' ((first | (refine side_i ?_ ?_; (have := hbd _ _ hel; omega)) |refine aops_go ?_|refine awp_go ?_|refine guard_tt ?_|refine guard_ff ?_|refine guard_tf ?_|refine guard_ft ?_|refine cond_t ?_|refine cond_f ?_|refine Z1 ?_|refine Z2 ?_|refine stp ?_|(refine And.intro ?_ ?_<;>intro h<;>try first|(exfalso;omega)|exact absurd rfl h)|refine Z3 ?_|refine Z4 ?_|intro el hel hbB|intro el hel|intro ex|refine Z5 ?_|(refine free_i ?_ ?_;exact ⟨by kernel_rfl,by decide⟩)|refine allI_c ?_ ?_|exact allI_n|refine allMP_c ?_ ?_|exact allMP_n|(refine many_step ?_ ?_ ?_;kernel_rfl;kernel_rfl)) <;> (try (conv => whnf)))
  all_goals first
    | (refine ret_tmp rfl (congrArg AV.i ?_); unfold joinS; rw [if_neg (by omega), if_neg (by omega), if_neg (by omega), if_pos (by assumption), getD_get (k := 0) (by assumption)]; done)
    | (refine ret_tmp rfl (congrArg AV.i ?_); unfold joinS; rw [if_neg (by omega), if_pos (by assumption), getD_get (k := 0) (by assumption), getD_get (k := 1) (by assumption)]; done)
    | (refine ret_tmp rfl (congrArg AV.i ?_); unfold joinS; rw [if_neg (by omega), if_neg (by assumption), if_pos (by assumption), getD_get (k := 0) (by assumption), getD_get (k := 1) (by assumption)]; done)
    | (refine ret_tmp rfl (congrArg AV.i ?_); unfold joinS; (repeat' split) <;> first | rfl | omega)
    | trace_state
theorem telS_join (g : Cnd → Int) (c : Cnd) (ho : ¬ (c.op = 2 ∨ c.op = 3 ∨ c.op = 4)) (h : 1 ≤ c.op ∧ c.op ≤ 7) : telS g c = joinS c.op (c.kids.map (telS g)) 1 := by
  rw [telS_eq]
  unfold joinS
  (repeat' split) <;> first | rfl | omega
set_option maxHeartbeats 4000000 in
theorem reval_call (s : Sch) (hr : schE s = 0) (row : List Int) (hl : row.length = s.cols.length) (c : Cnd) : chkS s c = 0 → FCall Tryz.prog 74 [sA s, cndA c, .sl 1 (row.map wA)] (.i (holdS s c row)) := by
  refine cnd_ind (p := fun c => chkS s c = 0 → FCall Tryz.prog 74 [sA s, cndA c, .sl 1 (row.map wA)] (.i (holdS s c row))) (fun c ih h => ?_) c
  obtain ⟨h1, h2⟩ := chkS_parts h
  obtain ⟨p1, p2, p3, _⟩ := conE_parts h1
  obtain ⟨k1, k2, k3⟩ := kidN_of c.op
  have hg : ∀ a, -1 ≤ atomS s a (row.getD a.col.toNat 0) ∧ atomS s a (row.getD a.col.toNat 0) ≤ 1 := fun a => atomS_bd _ _ _
  by_cases ho : c.op = 2 ∨ c.op = 3 ∨ c.op = 4
  · have hat := fun v => ratom_call s c v ho (atom_code hr h1)
    have hc := p3 ho
    obtain ⟨v, hv⟩ : ∃ v, row[c.col.toNat]? = some v := ⟨_, List.getElem?_eq_getElem (by omega)⟩
    have hres : holdS s c row = atomS s c v := by
      unfold holdS
      rw [telS_eq]
      unfold joinS
      rw [if_neg (by omega), if_neg (by omega), if_neg (by omega), if_neg (by omega), getD_get hv]
    rw [hres]
    rw [cndA_eq] at *
    refine fcall_intro (n := 52) Tryz.func74 (by kernel_rfl) rfl rfl rfl rfl rfl (by intro t T h; cases h) (fun hrd E h0 => ?_)
    clear hrd
    repeat' ((first | (refine each_knownm (x := v) hv (by omega) ?_) | refine call_i (hat _) ?_ | (refine draw_q ?_ ?_; kernel_rfl) |refine aops_go ?_|refine awp_go ?_|refine guard_tt ?_|refine guard_ff ?_|refine guard_tf ?_|refine guard_ft ?_|refine cond_t ?_|refine cond_f ?_|refine Z1 ?_|refine Z2 ?_|refine stp ?_|(refine And.intro ?_ ?_<;>intro h<;>try first|(exfalso;omega)|exact absurd rfl h)|refine Z3 ?_|refine Z4 ?_|intro el hel hbB|intro el hel|intro ex|refine Z5 ?_|(refine free_i ?_ ?_;exact ⟨by kernel_rfl,by decide⟩)|refine allI_c ?_ ?_|exact allI_n|refine allMP_c ?_ ?_|exact allMP_n|(refine many_step ?_ ?_ ?_;kernel_rfl;kernel_rfl)) <;> (try (conv => whnf)))
    all_goals first
      | exact ret_tmp rfl rfl
      | (exfalso; omega)
      | trace_state
  · unfold holdS
    rw [telS_join _ c ho p1]
    have hjoin := rjoin_call c.op (c.kids.map (telS fun a => atomS s a (row.getD a.col.toNat 0))) (fun h => by rw [List.length_map]; have := k1 h; omega) (fun h => by rw [List.length_map]; have := k2 h; omega) (fun v hv => by
      obtain ⟨k, _, rfl⟩ := List.mem_map.1 hv
      exact telS_bd hg k)
    have hkid : ∀ k, k ∈ c.kids → FCall Tryz.prog 74 [sA s, cndA k, .sl 1 (row.map wA)] (.i (telS (fun a => atomS s a (row.getD a.col.toNat 0)) k)) := fun k hk => ih k hk (h2 k hk)
    generalize (telS fun a => atomS s a (row.getD a.col.toNat 0)) = T at *
    rw [cndA_eq] at *
    refine fcall_intro (n := 52) Tryz.func74 (by kernel_rfl) rfl rfl rfl rfl rfl (by intro t T h; cases h) (fun hrd E h0 => ?_)
    have hlen : c.kids.length ≤ 9223372036854775807 := by
      have := ((hrd (.agg (cndY c)) (by simp)).agg (.sl 6 (c.kids.map cndX)) (by simp)).sl
      simpa using this
    clear hrd
    repeat' ((first|refine aops_go ?_|refine awp_go ?_|refine guard_tt ?_|refine guard_ff ?_|refine guard_tf ?_|refine guard_ft ?_|refine cond_t ?_|refine cond_f ?_|refine Z1 ?_|refine Z2 ?_|refine stp ?_|(refine And.intro ?_ ?_<;>intro h<;>try first|(exfalso;omega)|exact absurd rfl h)|refine Z3 ?_|refine Z4 ?_|intro el hel hbB|intro el hel|intro ex|refine Z5 ?_|(refine free_i ?_ ?_;exact ⟨by kernel_rfl,by decide⟩)|refine allI_c ?_ ?_|exact allI_n|refine allMP_c ?_ ?_|exact allMP_n|(refine many_step ?_ ?_ ?_;kernel_rfl;kernel_rfl)) <;> (try (conv => whnf)))
    all_goals first
      | (exfalso; omega)
      | skip
    refine loop_i (ι := Nat) (fun k => ⟨[(2, .sl 1 (row.map wA)), (3, .ref 0 0), (4, .ref 1 0), (7, .row 2 0 k), (8, .i k)], 3, [(0, some (.box (sL s))), (1, some (.box (cndY c))), (2, some (.row 3 1 0 (((c.kids.take k).map T).map wA)))]⟩) (fun k => k ≤ c.kids.length) (fun k => c.kids.length - k) 0 (Nat.zero_le _)
      (le_trans (le_adopt (d := 7) (e := 3) (sz := 1) rfl) (le_of h0 rfl ⟨rfl, rfl, rfl, rfl, rfl, trivial⟩ ⟨rfl, rfl, ⟨0, rfl⟩, trivial⟩ rfl rfl rfl)) (fun k hk => ?_)
    by_cases hlt : k < c.kids.length
    · obtain ⟨el, hel⟩ : ∃ el, c.kids[k]? = some el := ⟨_, List.getElem?_eq_getElem hlt⟩
      have hc1 := hkid el (List.mem_of_getElem? hel)
      repeat' ((first | (refine each_knownm (x := el) hel (by omega) ?_) | refine draw_m (id := 7) ⟨[(2, .sl 1 (row.map wA)), (3, .ref 0 0), (4, .ref 1 0), (7, .row 2 0 (k + 1)), (8, .i k)], 3, [(0, some (.box (sL s))), (1, some (.box (cndY c))), (2, some (.row 3 1 0 (((c.kids.take (k + 1)).map T).map wA)))]⟩ ?_ ?_ | refine call_i hc1 ?_ |refine aops_go ?_|refine awp_go ?_|refine guard_tt ?_|refine guard_ff ?_|refine guard_tf ?_|refine guard_ft ?_|refine cond_t ?_|refine cond_f ?_|refine Z1 ?_|refine Z2 ?_|refine stp ?_|(refine And.intro ?_ ?_<;>intro h<;>try first|(exfalso;omega)|exact absurd rfl h)|refine Z3 ?_|refine Z4 ?_|intro el hel hbB|intro el hel|intro ex|refine Z5 ?_|(refine free_i ?_ ?_;exact ⟨by kernel_rfl,by decide⟩)|refine allI_c ?_ ?_|exact allI_n|refine allMP_c ?_ ?_|exact allMP_n|(refine many_step ?_ ?_ ?_;kernel_rfl;kernel_rfl)) <;> (try (conv => whnf)))
      all_goals first
        | exact le_of h0 rfl ⟨rfl, rfl, rfl, rfl, rfl, trivial⟩ ⟨rfl, rfl, ⟨_, congrArg (Blk.row 3 1 _) (by rw [takec hel, List.map_append, List.map_append]; rfl)⟩, trivial⟩ rfl rfl rfl
        | exact ⟨k + 1, by omega, by omega, le_of h0 rfl ⟨rfl, rfl, rfl, rfl, rfl, trivial⟩ ⟨rfl, rfl, ⟨_, rfl⟩, trivial⟩ rfl rfl rfl⟩
        | trace_state
    · obtain rfl : k = c.kids.length := by omega
      rw [List.take_length]
      repeat' ((first | refine ncall_frz 2 ?_ | refine call_i hjoin ?_ |refine aops_go ?_|refine awp_go ?_|refine guard_tt ?_|refine guard_ff ?_|refine guard_tf ?_|refine guard_ft ?_|refine cond_t ?_|refine cond_f ?_|refine Z1 ?_|refine Z2 ?_|refine stp ?_|(refine And.intro ?_ ?_<;>intro h<;>try first|(exfalso;omega)|exact absurd rfl h)|refine Z3 ?_|refine Z4 ?_|intro el hel hbB|intro el hel|intro ex|refine Z5 ?_|(refine free_i ?_ ?_;exact ⟨by kernel_rfl,by decide⟩)|refine allI_c ?_ ?_|exact allI_n|refine allMP_c ?_ ?_|exact allMP_n|(refine many_step ?_ ?_ ?_;kernel_rfl;kernel_rfl)) <;> (try (conv => whnf)))
      all_goals first
        | exact ret_tmp rfl rfl
        | trace_state
set_option maxHeartbeats 4000000 in
theorem rEval_call (s : Sch) (c : Cnd) (row : List Int) : FCall Tryz.prog 25 [sA s, cndA c, .sl 1 (row.map wA)] (.i (evaS s c row)) := by
  have h1 := rccheck_call s c
  have h2 := rrow_call s row
  have h3 : ¬ cndE s c ≠ 0 → ¬ rowE s row ≠ 0 → FCall Tryz.prog 74 [sA s, cndA c, .sl 1 (row.map wA)] (.i (holdS s c row)) := fun a b => have a := Decidable.of_not_not a; have b := Decidable.of_not_not b; reval_call s (cndE_parts a).1 row (rowE_parts b).2 c (cndE_parts a).2.2.2
  unfold evaS
  rw [cndA_eq] at *
  refine fcall_intro (n := 21) Tryz.func25 (by kernel_rfl) rfl rfl rfl rfl rfl (by intro t T h; cases h) (fun hrd E h0 => ?_)
  clear hrd
  repeat' ((first | refine call_i h1 ?_ | refine call_i h2 ?_ | (refine call_i (h3 (by assumption) (by assumption)) ?_) |refine aops_go ?_|refine awp_go ?_|refine guard_tt ?_|refine guard_ff ?_|refine guard_tf ?_|refine guard_ft ?_|refine cond_t ?_|refine cond_f ?_|refine Z1 ?_|refine Z2 ?_|refine stp ?_|(refine And.intro ?_ ?_<;>intro h<;>try first|(exfalso;omega)|exact absurd rfl h)|refine Z3 ?_|refine Z4 ?_|intro el hel hbB|intro el hel|intro ex|refine Z5 ?_|(refine free_i ?_ ?_;exact ⟨by kernel_rfl,by decide⟩)|refine allI_c ?_ ?_|exact allI_n|refine allMP_c ?_ ?_|exact allMP_n|(refine many_step ?_ ?_ ?_;kernel_rfl;kernel_rfl)) <;> (try (conv => whnf)))
  all_goals first
    | (refine ret_tmp rfl (congrArg AV.i ?_); rw [if_neg (by omega)]; done)
    | (refine ret_tmp rfl (congrArg AV.i ?_); rw [if_pos (by omega)]; done)
    | trace_state
end Go.Proofs.YtghlhejdfgkjaaaGreatDoor

/- Chapter 5: the reference's truth values from coarse values. -/
import Derived.Test.YtghlhejdfgkjaaaGreatDoorCe9
import Derived.Test.YtghlhejdfgkjaaaGreatDoorCe8
import Derived.Test.YtghlhejdfgkjaaaGreatDoorC7
import Derived.Test.YtghlhejdfgkjaaaGreatDoorCA
import Derived.Test.YtghlhejdfgkjaaaGreatDoorCf1
namespace Go.Proofs.YtghlhejdfgkjaaaGreatDoor
open Go Go.Av
attribute [local irreducible] AWp AOps AAny MAny DQ retQ retG St.le FCall GCall
set_option linter.unusedVariables false
set_option linter.unnecessarySimpa false
set_option linter.unusedSimpArgs false
set_option maxRecDepth 100000

theorem lvsS_len {s : Sch} (hr : schE s = 0) {column : Int} {c : Col} (hc : s.cols[column.toNat]? = some c) (hl : 0 ≤ c.lst ∧ c.lst < s.lists.length) : (lvsS s column).length ≤ 1000000 := by
  obtain ⟨lx, hlx⟩ : ∃ l, s.lists[c.lst.toNat]? = some l := ⟨_, List.getElem?_eq_getElem (by omega)⟩
  have hchk : chk lx.1 lx.2 = 0 := (schE_parts hr).2.2.1 _ (List.mem_of_getElem? hlx)
  have h1 := good60 hchk
  unfold lvsS
  rw [colAt_get hc, lstOf_get hlx]
  have := atS_length lx.1 lx.2 (levelsS lx.1 lx.2 - 1)
  omega
set_option maxHeartbeats 8000000 in
theorem rsome_call (s : Sch) (hr : schE s = 0) (column level v : Int) (c : Col) (h1 : 1 ≤ column) (hc : s.cols[column.toNat]? = some c) (h3 : 0 ≤ level) (h4 : level ≤ finestS s column) : FCall Tryz.prog 135 [sA s, .i column, .i level, .i v] (.i (rsomeS s column level v)) := by
  obtain ⟨hk, hm⟩ := kind_of hr h1 hc
  unfold rsomeS
  rw [colAt_get hc]
  by_cases hk2 : c.kind = 2
  · rw [if_pos hk2]
    have hl := RightS.lst hr (List.mem_of_getElem? hc) hk2
    have hlv := leaves_call s column (by omega) hc (by omega)
    have hL := lvsS_len hr hc (by omega)
    have hco := fun x : Int => rcoarse_call s column level x
    generalize lvsS s column = L at *
    generalize coaS s column level = f at *
    refine fcall_intro (n := 62) Tryz.func135 (by kernel_rfl) rfl rfl rfl rfl rfl (by intro t T h; cases h) (fun hrd E h0 => ?_)
    clear hrd
    repeat' ((first | (refine each_knownm (x := c) hc (by omega) ?_) | refine call_i hlv ?_ |refine aops_go ?_|refine awp_go ?_|refine guard_tt ?_|refine guard_ff ?_|refine guard_tf ?_|refine guard_ft ?_|refine cond_t ?_|refine cond_f ?_|refine Z1 ?_|refine Z2 ?_|refine stp ?_|(refine And.intro ?_ ?_<;>intro h<;>try first|(exfalso;omega)|exact absurd rfl h)|refine Z3 ?_|refine Z4 ?_|intro el hel hbB|intro el hel|intro ex|refine Z5 ?_|(refine free_i ?_ ?_;exact ⟨by kernel_rfl,by decide⟩)|refine allI_c ?_ ?_|exact allI_n|refine allMP_c ?_ ?_|exact allMP_n|(refine many_step ?_ ?_ ?_;kernel_rfl;kernel_rfl)) <;> (try (conv => whnf)))
    all_goals first
      | (exfalso; omega)
      | skip
    refine loop_i (ι := Nat) (fun k => ⟨[(1, .i column), (2, .i level), (3, .i v), (4, .ref 0 0), (10, .sl 1 (L.map iA)), (11, .i k)], 1, [(0, some (.box (sL s)))]⟩)
      (fun k => k ≤ L.length ∧ findK (fun x : Nat => f x) v L = findK (fun x : Nat => f x) v (L.drop k)) (fun k => L.length - k) 0 ⟨Nat.zero_le _, rfl⟩
      (le_of h0 rfl ⟨rfl, rfl, rfl, rfl, rfl, rfl, trivial⟩ ⟨rfl, trivial⟩ rfl rfl rfl) (fun k hI => ?_)
    obtain ⟨hk1, hI⟩ := hI
    repeat' ((first | refine call_i (hco _) ?_ |refine aops_go ?_|refine awp_go ?_|refine guard_tt ?_|refine guard_ff ?_|refine guard_tf ?_|refine guard_ft ?_|refine cond_t ?_|refine cond_f ?_|refine Z1 ?_|refine Z2 ?_|refine stp ?_|(refine And.intro ?_ ?_<;>intro h<;>try first|(exfalso;omega)|exact absurd rfl h)|refine Z3 ?_|refine Z4 ?_|intro el hel hbB|intro el hel|intro ex|refine Z5 ?_|(refine free_i ?_ ?_;exact ⟨by kernel_rfl,by decide⟩)|refine allI_c ?_ ?_|exact allI_n|refine allMP_c ?_ ?_|exact allMP_n|(refine many_step ?_ ?_ ?_;kernel_rfl;kernel_rfl)) <;> (try (conv => whnf)))
    all_goals first
      | exact ret_tmp rfl (congrArg AV.i (by rw [hI, dropc hel, findK, if_pos h]; first | done | rfl))
      | exact ret_tmp rfl (congrArg AV.i (by rw [hI, drop_end (by assumption)]; rfl))
      | exact ⟨k + 1, ⟨by omega, by rw [hI, dropc hel, findK, if_neg h]⟩, by omega, le_of h0 rfl ⟨rfl, rfl, rfl, rfl, rfl, rfl, trivial⟩ ⟨rfl, trivial⟩ rfl rfl rfl⟩
      | trace_state
  · rw [if_neg hk2]
    have hle : level ≤ c.widths.length := by
      rw [finestS, if_pos hr] at h4
      exact finS_le hr h1 hc h4 (by omega)
    have hbl := block_call c level v (hm (by omega)) h3 hle
    generalize blockS c level v = B at *
    obtain ⟨b1, b2, b3⟩ := B
    refine fcall_intro (n := 62) Tryz.func135 (by kernel_rfl) rfl rfl rfl rfl rfl (by intro t T h; cases h) (fun hrd E h0 => ?_)
    clear hrd
    repeat' ((first | (refine each_knownm (x := c) hc (by omega) ?_) | refine call_i hbl ?_ |refine aops_go ?_|refine awp_go ?_|refine guard_tt ?_|refine guard_ff ?_|refine guard_tf ?_|refine guard_ft ?_|refine cond_t ?_|refine cond_f ?_|refine Z1 ?_|refine Z2 ?_|refine stp ?_|(refine And.intro ?_ ?_<;>intro h<;>try first|(exfalso;omega)|exact absurd rfl h)|refine Z3 ?_|refine Z4 ?_|intro el hel hbB|intro el hel|intro ex|refine Z5 ?_|(refine free_i ?_ ?_;exact ⟨by kernel_rfl,by decide⟩)|refine allI_c ?_ ?_|exact allI_n|refine allMP_c ?_ ?_|exact allMP_n|(refine many_step ?_ ?_ ?_;kernel_rfl;kernel_rfl)) <;> (try (conv => whnf)))
    all_goals first
      | (exfalso; omega)
      | exact ret_tmp rfl (congrArg AV.i (by rw [if_pos ⟨by omega, by omega⟩]))
      | exact ret_tmp rfl (congrArg AV.i (by rw [if_neg (by omega)]))
      | trace_state
set_option maxHeartbeats 8000000 in
theorem rcoc_call (s : Sch) (hr : schE s = 0) (picks : List Pk) (values : List Int) (hp : picksE s picks = 0) (hl : values.length = picks.length) (c : Cnd) : chkS s c = 0 → FCall Tryz.prog 87 [sA s, cndA c, .sl 2 (picks.map pkL), .sl 1 (values.map wA)] (.i (cocS s c (picks.zip values))) := by
  refine cnd_ind (p := fun c => chkS s c = 0 → FCall Tryz.prog 87 [sA s, cndA c, .sl 2 (picks.map pkL), .sl 1 (values.map wA)] (.i (cocS s c (picks.zip values)))) (fun c ih h => ?_) c
  obtain ⟨h1, h2⟩ := chkS_parts h
  obtain ⟨p1, p2, p3, _⟩ := conE_parts h1
  obtain ⟨k1, k2, k3⟩ := kidN_of c.op
  have hg : ∀ a, -1 ≤ atomS s a (rsomeS s a.col (lastV a.col (picks.zip values)).1 (lastV a.col (picks.zip values)).2) ∧ atomS s a (rsomeS s a.col (lastV a.col (picks.zip values)).1 (lastV a.col (picks.zip values)).2) ≤ 1 := fun a => atomS_bd _ _ _
  by_cases ho : c.op = 2 ∨ c.op = 3 ∨ c.op = 4
  · have hat := fun v => ratom_call s c v ho (atom_code hr h1)
    obtain ⟨x, hx, c1, c2, _⟩ := atom_col hr h1 ho
    have hfin := (suf_fin hr h1 ho).2
    have hfe : finestS s c.col = finS s c.col := by rw [finestS, if_pos hr]
    have hlv : 0 ≤ (lastV c.col (picks.zip values)).1 ∧ (lastV c.col (picks.zip values)).1 ≤ finestS s c.col := by
      rcases lastV_of c.col (picks.zip values) with ⟨g1, _⟩ | ⟨q, hq, g1, g2⟩
      · rw [g1]; dsimp only; omega
      · obtain ⟨k, hk⟩ := List.getElem?_of_mem (List.of_mem_zip (show (q.1, q.2) ∈ _ from hq)).1
        have := picks_get hp k _ hk
        rw [g2, hfe]
        dsimp only
        rw [g1] at this
        omega
    have hso := rsome_call s hr c.col (lastV c.col (picks.zip values)).1 (lastV c.col (picks.zip values)).2 x c1 hx hlv.1 hlv.2
    have hres : cocS s c (picks.zip values) = atomS s c (rsomeS s c.col (lastV c.col (picks.zip values)).1 (lastV c.col (picks.zip values)).2) := by
      unfold cocS
      rw [telS_eq]
      unfold joinS
      rw [if_neg (by omega), if_neg (by omega), if_neg (by omega), if_neg (by omega)]
    rw [hres]
    have hnx : ∀ (k : Nat) p v, picks[k]? = some p → values[k]? = some v → lastV c.col ((picks.zip values).take (k + 1)) = if p.col = c.col then (p.lev, v) else lastV c.col ((picks.zip values).take k) := fun k p v hp hv => by
      rw [takec (zip_get hp hv), lastV_snoc]
    have hend : (picks.zip values).take picks.length = picks.zip values := List.take_of_length_le (by rw [List.length_zip]; omega)
    rw [cndA_eq] at *
    refine fcall_intro (n := 82) Tryz.func87 (by kernel_rfl) rfl rfl rfl rfl rfl (by intro t T h; cases h) (fun hrd E h0 => ?_)
    have hpl : picks.length ≤ 9223372036854775807 := by have := (hrd (.sl 2 (picks.map pkL)) (by simp)).sl; simpa using this
    clear hrd
    repeat' ((first | (refine draw_q ?_ ?_; kernel_rfl) |refine aops_go ?_|refine awp_go ?_|refine guard_tt ?_|refine guard_ff ?_|refine guard_tf ?_|refine guard_ft ?_|refine cond_t ?_|refine cond_f ?_|refine Z1 ?_|refine Z2 ?_|refine stp ?_|(refine And.intro ?_ ?_<;>intro h<;>try first|(exfalso;omega)|exact absurd rfl h)|refine Z3 ?_|refine Z4 ?_|intro el hel hbB|intro el hel|intro ex|refine Z5 ?_|(refine free_i ?_ ?_;exact ⟨by kernel_rfl,by decide⟩)|refine allI_c ?_ ?_|exact allI_n|refine allMP_c ?_ ?_|exact allMP_n|(refine many_step ?_ ?_ ?_;kernel_rfl;kernel_rfl)) <;> (try (conv => whnf)))
    all_goals first
      | (exfalso; omega)
      | skip
    all_goals refine loop_i (ι := Nat) (fun k => ⟨[(2, .sl 2 (picks.map pkL)), (3, .sl 1 (values.map wA)), (4, .ref 0 0), (5, .ref 1 0), (9, .i (lastV c.col ((picks.zip values).take k)).1), (10, .i (lastV c.col ((picks.zip values).take k)).2), (11, .i k)], 2, [(0, some (.box (sL s))), (1, some (.box (cndY c)))]⟩) (fun k => k ≤ picks.length) (fun k => picks.length - k) 0 (Nat.zero_le _) (le_of h0 rfl ⟨rfl, rfl, rfl, rfl, rfl, rfl, rfl, trivial⟩ ⟨rfl, rfl, trivial⟩ rfl rfl rfl) (fun k hk => ?_)
    all_goals by_cases hlt : k < picks.length
    all_goals first
      | (obtain ⟨p, hpk⟩ : ∃ p, picks[k]? = some p := ⟨_, List.getElem?_eq_getElem hlt⟩
         obtain ⟨v, hvk⟩ : ∃ v, values[k]? = some v := ⟨_, List.getElem?_eq_getElem (by omega)⟩
         have hn := hnx k p v hpk hvk
         repeat' ((first | (refine each_knownm (x := p) hpk (by omega) ?_) | (refine each_knownm (x := v) hvk (by omega) ?_) | (refine draw_q ?_ ?_; kernel_rfl) |refine aops_go ?_|refine awp_go ?_|refine guard_tt ?_|refine guard_ff ?_|refine guard_tf ?_|refine guard_ft ?_|refine cond_t ?_|refine cond_f ?_|refine Z1 ?_|refine Z2 ?_|refine stp ?_|(refine And.intro ?_ ?_<;>intro h<;>try first|(exfalso;omega)|exact absurd rfl h)|refine Z3 ?_|refine Z4 ?_|intro el hel hbB|intro el hel|intro ex|refine Z5 ?_|(refine free_i ?_ ?_;exact ⟨by kernel_rfl,by decide⟩)|refine allI_c ?_ ?_|exact allI_n|refine allMP_c ?_ ?_|exact allMP_n|(refine many_step ?_ ?_ ?_;kernel_rfl;kernel_rfl)) <;> (try (conv => whnf)))
         all_goals first
           | exact ⟨k + 1, by omega, by omega, le_of h0 rfl ⟨rfl, rfl, rfl, rfl, (by rw [hn, if_pos (by assumption)]; rfl), (by rw [hn, if_pos (by assumption)]; rfl), rfl, trivial⟩ ⟨rfl, rfl, trivial⟩ rfl rfl rfl⟩
           | exact ⟨k + 1, by omega, by omega, le_of h0 rfl ⟨rfl, rfl, rfl, rfl, (by rw [hn, if_neg (by assumption)]; rfl), (by rw [hn, if_neg (by assumption)]; rfl), rfl, trivial⟩ ⟨rfl, rfl, trivial⟩ rfl rfl rfl⟩
           | (exfalso; omega)
           | trace_state)
      | (obtain rfl : k = picks.length := by omega
         rw [hend]
         repeat' ((first | refine call_i hso ?_ | refine call_i (hat _) ?_ | (refine draw_q ?_ ?_; kernel_rfl) |refine aops_go ?_|refine awp_go ?_|refine guard_tt ?_|refine guard_ff ?_|refine guard_tf ?_|refine guard_ft ?_|refine cond_t ?_|refine cond_f ?_|refine Z1 ?_|refine Z2 ?_|refine stp ?_|(refine And.intro ?_ ?_<;>intro h<;>try first|(exfalso;omega)|exact absurd rfl h)|refine Z3 ?_|refine Z4 ?_|intro el hel hbB|intro el hel|intro ex|refine Z5 ?_|(refine free_i ?_ ?_;exact ⟨by kernel_rfl,by decide⟩)|refine allI_c ?_ ?_|exact allI_n|refine allMP_c ?_ ?_|exact allMP_n|(refine many_step ?_ ?_ ?_;kernel_rfl;kernel_rfl)) <;> (try (conv => whnf)))
         all_goals first
           | exact ret_tmp rfl rfl
           | (exfalso; omega)
           | trace_state)
  · unfold cocS
    rw [telS_join _ c ho p1]
    have hjoin := rjoin_call c.op (c.kids.map (telS fun a => atomS s a (rsomeS s a.col (lastV a.col (picks.zip values)).1 (lastV a.col (picks.zip values)).2))) (fun h => by rw [List.length_map]; have := k1 h; omega) (fun h => by rw [List.length_map]; have := k2 h; omega) (fun v hv => by
      obtain ⟨k, _, rfl⟩ := List.mem_map.1 hv
      exact telS_bd hg k)
    have hkid : ∀ k, k ∈ c.kids → FCall Tryz.prog 87 [sA s, cndA k, .sl 2 (picks.map pkL), .sl 1 (values.map wA)] (.i (telS (fun a => atomS s a (rsomeS s a.col (lastV a.col (picks.zip values)).1 (lastV a.col (picks.zip values)).2)) k)) := fun k hk => ih k hk (h2 k hk)
    generalize (telS fun a => atomS s a (rsomeS s a.col (lastV a.col (picks.zip values)).1 (lastV a.col (picks.zip values)).2)) = T at *
    rw [cndA_eq] at *
    refine fcall_intro (n := 82) Tryz.func87 (by kernel_rfl) rfl rfl rfl rfl rfl (by intro t T h; cases h) (fun hrd E h0 => ?_)
    have hlen : c.kids.length ≤ 9223372036854775807 := by
      have := ((hrd (.agg (cndY c)) (by simp)).agg (.sl 6 (c.kids.map cndX)) (by simp)).sl
      simpa using this
    clear hrd
    repeat' ((first | (refine draw_q ?_ ?_; kernel_rfl) |refine aops_go ?_|refine awp_go ?_|refine guard_tt ?_|refine guard_ff ?_|refine guard_tf ?_|refine guard_ft ?_|refine cond_t ?_|refine cond_f ?_|refine Z1 ?_|refine Z2 ?_|refine stp ?_|(refine And.intro ?_ ?_<;>intro h<;>try first|(exfalso;omega)|exact absurd rfl h)|refine Z3 ?_|refine Z4 ?_|intro el hel hbB|intro el hel|intro ex|refine Z5 ?_|(refine free_i ?_ ?_;exact ⟨by kernel_rfl,by decide⟩)|refine allI_c ?_ ?_|exact allI_n|refine allMP_c ?_ ?_|exact allMP_n|(refine many_step ?_ ?_ ?_;kernel_rfl;kernel_rfl)) <;> (try (conv => whnf)))
    all_goals first
      | (exfalso; omega)
      | skip
    refine loop_i (ι := Nat) (fun k => ⟨[(2, .sl 2 (picks.map pkL)), (3, .sl 1 (values.map wA)), (4, .ref 0 0), (5, .ref 1 0), (12, .row 2 0 k), (13, .i k)], 3, [(0, some (.box (sL s))), (1, some (.box (cndY c))), (2, some (.row 3 1 0 (((c.kids.take k).map T).map wA)))]⟩) (fun k => k ≤ c.kids.length) (fun k => c.kids.length - k) 0 (Nat.zero_le _)
      (le_trans (le_adopt (d := 12) (e := 3) (sz := 1) rfl) (le_of h0 rfl ⟨rfl, rfl, rfl, rfl, rfl, rfl, trivial⟩ ⟨rfl, rfl, ⟨0, rfl⟩, trivial⟩ rfl rfl rfl)) (fun k hk => ?_)
    by_cases hlt : k < c.kids.length
    · obtain ⟨el, hel⟩ : ∃ el, c.kids[k]? = some el := ⟨_, List.getElem?_eq_getElem hlt⟩
      have hc1 := hkid el (List.mem_of_getElem? hel)
      repeat' ((first | (refine each_knownm (x := el) hel (by omega) ?_) | refine draw_m (id := 13) ⟨[(2, .sl 2 (picks.map pkL)), (3, .sl 1 (values.map wA)), (4, .ref 0 0), (5, .ref 1 0), (12, .row 2 0 (k + 1)), (13, .i k)], 3, [(0, some (.box (sL s))), (1, some (.box (cndY c))), (2, some (.row 3 1 0 (((c.kids.take (k + 1)).map T).map wA)))]⟩ ?_ ?_ | refine call_i hc1 ?_ |refine aops_go ?_|refine awp_go ?_|refine guard_tt ?_|refine guard_ff ?_|refine guard_tf ?_|refine guard_ft ?_|refine cond_t ?_|refine cond_f ?_|refine Z1 ?_|refine Z2 ?_|refine stp ?_|(refine And.intro ?_ ?_<;>intro h<;>try first|(exfalso;omega)|exact absurd rfl h)|refine Z3 ?_|refine Z4 ?_|intro el hel hbB|intro el hel|intro ex|refine Z5 ?_|(refine free_i ?_ ?_;exact ⟨by kernel_rfl,by decide⟩)|refine allI_c ?_ ?_|exact allI_n|refine allMP_c ?_ ?_|exact allMP_n|(refine many_step ?_ ?_ ?_;kernel_rfl;kernel_rfl)) <;> (try (conv => whnf)))
      all_goals first
        | exact le_of h0 rfl ⟨rfl, rfl, rfl, rfl, rfl, rfl, trivial⟩ ⟨rfl, rfl, ⟨_, congrArg (Blk.row 3 1 _) (by rw [takec hel, List.map_append, List.map_append]; rfl)⟩, trivial⟩ rfl rfl rfl
        | exact ⟨k + 1, by omega, by omega, le_of h0 rfl ⟨rfl, rfl, rfl, rfl, rfl, rfl, trivial⟩ ⟨rfl, rfl, ⟨_, rfl⟩, trivial⟩ rfl rfl rfl⟩
        | trace_state
    · obtain rfl : k = c.kids.length := by omega
      rw [List.take_length]
      repeat' ((first | refine ncall_frz 2 ?_ | refine call_i hjoin ?_ |refine aops_go ?_|refine awp_go ?_|refine guard_tt ?_|refine guard_ff ?_|refine guard_tf ?_|refine guard_ft ?_|refine cond_t ?_|refine cond_f ?_|refine Z1 ?_|refine Z2 ?_|refine stp ?_|(refine And.intro ?_ ?_<;>intro h<;>try first|(exfalso;omega)|exact absurd rfl h)|refine Z3 ?_|refine Z4 ?_|intro el hel hbB|intro el hel|intro ex|refine Z5 ?_|(refine free_i ?_ ?_;exact ⟨by kernel_rfl,by decide⟩)|refine allI_c ?_ ?_|exact allI_n|refine allMP_c ?_ ?_|exact allMP_n|(refine many_step ?_ ?_ ?_;kernel_rfl;kernel_rfl)) <;> (try (conv => whnf)))
      all_goals first
        | exact ret_tmp rfl rfl
        | trace_state
set_option maxHeartbeats 8000000 in
theorem rCoar_call (s : Sch) (c : Cnd) (picks : List Pk) (values : List Int) : FCall Tryz.prog 35 [sA s, cndA c, .sl 2 (picks.map pkL), .sl 1 (values.map wA)] (.i (coarS s c picks values)) := by
  have h1 := rccheck_call s c
  have h2 := rpicks_call s picks
  have h3 := rneeds_call s c
  have h4 := rcovers_call (needS s c) picks
  have h5 := fun p v => can_call s (Pk.col p) (Pk.lev p) v
  have h6 : ¬ cndE s c ≠ 0 → ¬ picksE s picks ≠ 0 → values.length = picks.length → FCall Tryz.prog 87 [sA s, cndA c, .sl 2 (picks.map pkL), .sl 1 (values.map wA)] (.i (cocS s c (picks.zip values))) := fun a b e =>
    have a := Decidable.of_not_not a
    rcoc_call s (cndE_parts a).1 picks values (Decidable.of_not_not b) e c (cndE_parts a).2.2.2
  unfold coarS
  generalize covB picks (needS s c) = V at *
  rw [cndA_eq] at *
  refine fcall_intro (n := 63) Tryz.func35 (by kernel_rfl) rfl rfl rfl rfl rfl (by intro t T h; cases h) (fun hrd E h0 => ?_)
  have hpl : picks.length ≤ 9223372036854775807 := by have := (hrd (.sl 2 (picks.map pkL)) (by simp)).sl; simpa using this
  clear hrd
  repeat' ((first | refine call_i h1 ?_ | refine call_i h2 ?_ | refine call_i h3 ?_ | refine call_i h4 ?_ |refine aops_go ?_|refine awp_go ?_|refine guard_tt ?_|refine guard_ff ?_|refine guard_tf ?_|refine guard_ft ?_|refine cond_t ?_|refine cond_f ?_|refine Z1 ?_|refine Z2 ?_|refine stp ?_|(refine And.intro ?_ ?_<;>intro h<;>try first|(exfalso;omega)|exact absurd rfl h)|refine Z3 ?_|refine Z4 ?_|intro el hel hbB|intro el hel|intro ex|refine Z5 ?_|(refine free_i ?_ ?_;exact ⟨by kernel_rfl,by decide⟩)|refine allI_c ?_ ?_|exact allI_n|refine allMP_c ?_ ?_|exact allMP_n|(refine many_step ?_ ?_ ?_;kernel_rfl;kernel_rfl)) <;> (try (conv => whnf)))
  all_goals first
    | (refine ret_tmp rfl (congrArg AV.i ?_); rw [if_neg (fun hh => by first | (have := hh.1; omega) | (have := hh.2.1; omega) | (have := hh.2.2.1; omega) | (have := hh.2.2.2; simp_all; done))]; done)
    | skip
  have hlen : values.length = picks.length := by omega
  rw [if_pos ⟨by omega, by omega, hlen, by assumption⟩]
  have h6 := h6 (by assumption) (by assumption) hlen
  refine loop_i (ι := Nat) (fun k => ⟨[(2, .sl 2 (picks.map pkL)), (3, .sl 1 (values.map wA)), (4, .ref 0 0), (5, .ref 1 0), (9, .i k)], 2, [(0, some (.box (sL s))), (1, some (.box (cndY c)))]⟩) (fun k => k ≤ picks.length ∧ allCan s ((picks.zip values).take k) = true) (fun k => picks.length - k) 0 ⟨Nat.zero_le _, rfl⟩
    (le_of h0 rfl ⟨rfl, rfl, rfl, rfl, rfl, trivial⟩ ⟨rfl, rfl, trivial⟩ rfl rfl rfl) (fun k hI => ?_)
  obtain ⟨hk, hI⟩ := hI
  by_cases hlt : k < picks.length
  · obtain ⟨p, hpk⟩ : ∃ p, picks[k]? = some p := ⟨_, List.getElem?_eq_getElem hlt⟩
    obtain ⟨v, hvk⟩ : ∃ v, values[k]? = some v := ⟨_, List.getElem?_eq_getElem (by omega)⟩
    have hc1 := h5 p v
    have hz := zip_get hpk hvk
    repeat' ((first | (refine each_knownm (x := p) hpk (by omega) ?_) | (refine each_knownm (x := v) hvk (by omega) ?_) | refine call_i hc1 ?_ |refine aops_go ?_|refine awp_go ?_|refine guard_tt ?_|refine guard_ff ?_|refine guard_tf ?_|refine guard_ft ?_|refine cond_t ?_|refine cond_f ?_|refine Z1 ?_|refine Z2 ?_|refine stp ?_|(refine And.intro ?_ ?_<;>intro h<;>try first|(exfalso;omega)|exact absurd rfl h)|refine Z3 ?_|refine Z4 ?_|intro el hel hbB|intro el hel|intro ex|refine Z5 ?_|(refine free_i ?_ ?_;exact ⟨by kernel_rfl,by decide⟩)|refine allI_c ?_ ?_|exact allI_n|refine allMP_c ?_ ?_|exact allMP_n|(refine many_step ?_ ?_ ?_;kernel_rfl;kernel_rfl)) <;> (try (conv => whnf)))
    all_goals first
      | exact ⟨k + 1, ⟨by omega, all_take hz hI (by assumption)⟩, by omega, le_of h0 rfl ⟨rfl, rfl, rfl, rfl, rfl, trivial⟩ ⟨rfl, rfl, trivial⟩ rfl rfl rfl⟩
      | exact ret_tmp rfl (congrArg AV.i (by rw [if_neg (fun hh => by have := all_not (p := fun q : Pk × Int => canB s q.1.col q.1.lev q.2) hz (by assumption); unfold allCan at hh; rw [this] at hh; cases hh)]))
      | (exfalso; omega)
      | trace_state
  · obtain rfl : k = picks.length := by omega
    rw [List.take_of_length_le (by rw [List.length_zip]; omega)] at hI
    repeat' ((first | refine call_i h6 ?_ |refine aops_go ?_|refine awp_go ?_|refine guard_tt ?_|refine guard_ff ?_|refine guard_tf ?_|refine guard_ft ?_|refine cond_t ?_|refine cond_f ?_|refine Z1 ?_|refine Z2 ?_|refine stp ?_|(refine And.intro ?_ ?_<;>intro h<;>try first|(exfalso;omega)|exact absurd rfl h)|refine Z3 ?_|refine Z4 ?_|intro el hel hbB|intro el hel|intro ex|refine Z5 ?_|(refine free_i ?_ ?_;exact ⟨by kernel_rfl,by decide⟩)|refine allI_c ?_ ?_|exact allI_n|refine allMP_c ?_ ?_|exact allMP_n|(refine many_step ?_ ?_ ?_;kernel_rfl;kernel_rfl)) <;> (try (conv => whnf)))
    all_goals first
      | exact ret_tmp rfl (congrArg AV.i (by rw [if_pos hI]))
      | (exfalso; omega)
      | trace_state
end Go.Proofs.YtghlhejdfgkjaaaGreatDoor

/- Chapter 5: the reference's texts of conditions. -/
import Derived.Test.YtghlhejdfgkjaaaGreatDoorD1
import Derived.Test.YtghlhejdfgkjaaaGreatDoorCe3
namespace Go.Proofs.YtghlhejdfgkjaaaGreatDoor
open Go Go.Av
attribute [local irreducible] AWp AOps AAny MAny DQ retQ retG St.le FCall GCall
set_option linter.unusedVariables false
set_option linter.unnecessarySimpa false
set_option linter.unusedSimpArgs false
set_option maxRecDepth 100000

set_option maxHeartbeats 8000000 in
theorem rtext_call (s : Sch) (hr : schE s = 0) (c : Cnd) : chkS s c = 0 → totS c ≤ 1000 → FCall Tryz.prog 93 [sA s, cndA c] (.str (txtS s c)) ∧ (txtS s c).length ≤ 100 * totS c := by
  refine cnd_ind (p := fun c => chkS s c = 0 → totS c ≤ 1000 → FCall Tryz.prog 93 [sA s, cndA c] (.str (txtS s c)) ∧ (txtS s c).length ≤ 100 * totS c) (fun c ih h ht => ?_) c
  obtain ⟨h1, h2⟩ := chkS_parts h
  obtain ⟨p1, p2, p3, p4, p5, p6⟩ := conE_parts h1
  obtain ⟨k1, k2, k3⟩ := kidN_of c.op
  have hkid : ∀ k, k ∈ c.kids → FCall Tryz.prog 93 [sA s, cndA k] (.str (txtS s k)) ∧ (txtS s k).length ≤ 100 * totS k := fun k hk => by
    have := totL_mem' hk
    rw [totS_eq] at ht
    exact ih k hk (h2 k hk) (by omega)
  have hcol : ∃ x, s.cols[c.col.toNat]? = some x ∧ 0 ≤ c.col := by
    by_cases ho : c.op = 2 ∨ c.op = 3 ∨ c.op = 4
    · have := p3 ho
      exact ⟨_, List.getElem?_eq_getElem (by omega), by omega⟩
    · have hz := conE_col h1 (by omega)
      have := schE_pos hr
      exact ⟨_, List.getElem?_eq_getElem (by omega), by omega⟩
  obtain ⟨x, hx, hc0⟩ := hcol
  have hnm := nameB_len (col_name hr hx)
  rw [totS_eq] at ht ⊢
  rw [txtS_eq]
  unfold colNm codNm
  rw [colAt_get hx] at p4 ⊢
  rw [cndA_eq] at *
  by_cases o2 : c.op = 2
  · rw [if_pos o2]
    obtain ⟨hk, hcd⟩ := p4 o2
    have hl := RightS.lst hr (List.mem_of_getElem? hx) hk
    obtain ⟨lx, hlx⟩ : ∃ l, s.lists[x.lst.toNat]? = some l := ⟨_, List.getElem?_eq_getElem (by omega)⟩
    rw [lstOf_get hlx] at hcd ⊢
    obtain ⟨cd, hcx⟩ : ∃ d, lx.2[c.code.toNat]? = some d := ⟨_, List.getElem?_eq_getElem (by omega)⟩
    rw [getD_get hcx]
    have hcn := nameB_len (cod_name hr (List.mem_of_getElem? hlx) hcx)
    refine ⟨?_, by simp only [List.length_append, List.length_cons, List.length_nil]; omega⟩
    refine fcall_intro (n := 99) Tryz.func93 (by kernel_rfl) rfl rfl rfl rfl rfl (by intro t T h; cases h) (fun hrd E h0 => ?_)
    clear hrd
    repeat' ((first | (refine each_knownm (x := x) hx (by omega) ?_) | (refine each_knownm (x := lx) hlx (by omega) ?_) | (refine each_knownm (x := cd) hcx (by omega) ?_) | (refine side_i ?_ ?_; (show x.name.length + 7 ≤ 9223372036854775807; omega)) | (refine side_i ?_ ?_; (rw [List.length_append]; show x.name.length + 7 + cd.name.length ≤ 9223372036854775807; omega)) | (refine draw_q ?_ ?_; kernel_rfl) |refine aops_go ?_|refine awp_go ?_|refine guard_tt ?_|refine guard_ff ?_|refine guard_tf ?_|refine guard_ft ?_|refine cond_t ?_|refine cond_f ?_|refine Z1 ?_|refine Z2 ?_|refine stp ?_|(refine And.intro ?_ ?_<;>intro h<;>try first|(exfalso;omega)|exact absurd rfl h)|refine Z3 ?_|refine Z4 ?_|intro el hel hbB|intro el hel|intro ex|refine Z5 ?_|(refine free_i ?_ ?_;exact ⟨by kernel_rfl,by decide⟩)|refine allI_c ?_ ?_|exact allI_n|refine allMP_c ?_ ?_|exact allMP_n|(refine many_step ?_ ?_ ?_;kernel_rfl;kernel_rfl)) <;> (try (conv => whnf)))
    all_goals first
      | exact ret_tmp rfl rfl
      | (exfalso; omega)
      | trace_state
  rw [if_neg o2]
  by_cases o3 : c.op = 3
  · rw [if_pos o3]
    obtain ⟨_, q1, q2, q3⟩ := p5 o3
    have l1 := Lib.itoa_length_le c.lo (by omega) (by omega)
    have l2 := Lib.itoa_length_le c.hi (by omega) (by omega)
    have r1 := itoaI_call c.lo (by omega) (by omega)
    have r2 := itoaI_call c.hi (by omega) (by omega)
    refine ⟨?_, by simp only [List.length_append, List.length_cons, List.length_nil]; omega⟩
    refine fcall_intro (n := 99) Tryz.func93 (by kernel_rfl) rfl rfl rfl rfl rfl (by intro t T h; cases h) (fun hrd E h0 => ?_)
    clear hrd
    generalize Lib.itoa c.lo = zl at *
    generalize Lib.itoa c.hi = zh at *
    repeat' ((first | (refine each_knownm (x := x) hx (by omega) ?_) | refine call_i r1 ?_ | refine call_i r2 ?_ | (refine side_i ?_ ?_; (show x.name.length + 6 ≤ 9223372036854775807; omega)) | (refine side_i ?_ ?_; (rw [List.length_append]; show x.name.length + 6 + zl.length ≤ 9223372036854775807; omega)) | (refine side_i ?_ ?_; (rw [List.length_append, List.length_append]; show x.name.length + 6 + zl.length + 4 ≤ 9223372036854775807; omega)) | (refine side_i ?_ ?_; (rw [List.length_append, List.length_append, List.length_append]; show x.name.length + 6 + zl.length + 4 + zh.length ≤ 9223372036854775807; omega)) | (refine draw_q ?_ ?_; kernel_rfl) |refine aops_go ?_|refine awp_go ?_|refine guard_tt ?_|refine guard_ff ?_|refine guard_tf ?_|refine guard_ft ?_|refine cond_t ?_|refine cond_f ?_|refine Z1 ?_|refine Z2 ?_|refine stp ?_|(refine And.intro ?_ ?_<;>intro h<;>try first|(exfalso;omega)|exact absurd rfl h)|refine Z3 ?_|refine Z4 ?_|intro el hel hbB|intro el hel|intro ex|refine Z5 ?_|(refine free_i ?_ ?_;exact ⟨by kernel_rfl,by decide⟩)|refine allI_c ?_ ?_|exact allI_n|refine allMP_c ?_ ?_|exact allMP_n|(refine many_step ?_ ?_ ?_;kernel_rfl;kernel_rfl)) <;> (try (conv => whnf)))
    all_goals first
      | exact ret_tmp rfl rfl
      | (exfalso; omega)
      | trace_state
  rw [if_neg o3]
  by_cases o4 : c.op = 4
  · rw [if_pos o4]
    refine ⟨?_, by simp only [List.length_append, List.length_cons, List.length_nil]; omega⟩
    refine fcall_intro (n := 99) Tryz.func93 (by kernel_rfl) rfl rfl rfl rfl rfl (by intro t T h; cases h) (fun hrd E h0 => ?_)
    clear hrd
    repeat' ((first | (refine each_knownm (x := x) hx (by omega) ?_) | (refine side_i ?_ ?_; (show x.name.length + 8 ≤ 9223372036854775807; omega)) |refine aops_go ?_|refine awp_go ?_|refine guard_tt ?_|refine guard_ff ?_|refine guard_tf ?_|refine guard_ft ?_|refine cond_t ?_|refine cond_f ?_|refine Z1 ?_|refine Z2 ?_|refine stp ?_|(refine And.intro ?_ ?_<;>intro h<;>try first|(exfalso;omega)|exact absurd rfl h)|refine Z3 ?_|refine Z4 ?_|intro el hel hbB|intro el hel|intro ex|refine Z5 ?_|(refine free_i ?_ ?_;exact ⟨by kernel_rfl,by decide⟩)|refine allI_c ?_ ?_|exact allI_n|refine allMP_c ?_ ?_|exact allMP_n|(refine many_step ?_ ?_ ?_;kernel_rfl;kernel_rfl)) <;> (try (conv => whnf)))
    all_goals first
      | exact ret_tmp rfl rfl
      | (exfalso; omega)
      | trace_state
  rw [if_neg o4]
  by_cases o5 : c.op = 5
  · rw [if_pos o5]
    have hkl := k1 (.inl o5)
    obtain ⟨a, ha⟩ : ∃ a, c.kids[0]? = some a := ⟨_, List.getElem?_eq_getElem (by omega)⟩
    obtain ⟨b, hb⟩ : ∃ b, c.kids[1]? = some b := ⟨_, List.getElem?_eq_getElem (by omega)⟩
    obtain ⟨r1, l1⟩ := hkid a (List.mem_of_getElem? ha)
    obtain ⟨r2, l2⟩ := hkid b (List.mem_of_getElem? hb)
    have ht2 := totL_two ha hb
    rw [getD_get (l := c.kids.map (txtS s)) (k := 0) (x := txtS s a) (by simp [ha]), getD_get (l := c.kids.map (txtS s)) (k := 1) (x := txtS s b) (by simp [hb])]
    generalize txtS s a = za at *
    generalize txtS s b = zb at *
    refine ⟨?_, by simp only [List.length_append, List.length_cons, List.length_nil]; omega⟩
    refine fcall_intro (n := 99) Tryz.func93 (by kernel_rfl) rfl rfl rfl rfl rfl (by intro t T h; cases h) (fun hrd E h0 => ?_)
    clear hrd
    repeat' ((first | (refine each_knownm (x := x) hx (by omega) ?_) | (refine each_knownm (x := a) ha (by decide) ?_) | (refine each_knownm (x := b) hb (by decide) ?_) | refine call_i r1 ?_ | refine call_i r2 ?_ | (refine side_i ?_ ?_; (show 1 + za.length ≤ 9223372036854775807; omega)) | (refine side_i ?_ ?_; (rw [List.length_append]; show 1 + za.length + 5 ≤ 9223372036854775807; omega)) | (refine side_i ?_ ?_; (rw [List.length_append, List.length_append]; show 1 + za.length + 5 + zb.length ≤ 9223372036854775807; omega)) | (refine side_i ?_ ?_; (rw [List.length_append, List.length_append, List.length_append]; show 1 + za.length + 5 + zb.length + 1 ≤ 9223372036854775807; omega)) | (refine draw_q ?_ ?_; kernel_rfl) |refine aops_go ?_|refine awp_go ?_|refine guard_tt ?_|refine guard_ff ?_|refine guard_tf ?_|refine guard_ft ?_|refine cond_t ?_|refine cond_f ?_|refine Z1 ?_|refine Z2 ?_|refine stp ?_|(refine And.intro ?_ ?_<;>intro h<;>try first|(exfalso;omega)|exact absurd rfl h)|refine Z3 ?_|refine Z4 ?_|intro el hel hbB|intro el hel|intro ex|refine Z5 ?_|(refine free_i ?_ ?_;exact ⟨by kernel_rfl,by decide⟩)|refine allI_c ?_ ?_|exact allI_n|refine allMP_c ?_ ?_|exact allMP_n|(refine many_step ?_ ?_ ?_;kernel_rfl;kernel_rfl)) <;> (try (conv => whnf)))
    all_goals first
      | exact ret_tmp rfl rfl
      | (exfalso; omega)
      | trace_state
  rw [if_neg o5]
  by_cases o6 : c.op = 6
  · rw [if_pos o6]
    have hkl := k1 (.inr o6)
    obtain ⟨a, ha⟩ : ∃ a, c.kids[0]? = some a := ⟨_, List.getElem?_eq_getElem (by omega)⟩
    obtain ⟨b, hb⟩ : ∃ b, c.kids[1]? = some b := ⟨_, List.getElem?_eq_getElem (by omega)⟩
    obtain ⟨r1, l1⟩ := hkid a (List.mem_of_getElem? ha)
    obtain ⟨r2, l2⟩ := hkid b (List.mem_of_getElem? hb)
    have ht2 := totL_two ha hb
    rw [getD_get (l := c.kids.map (txtS s)) (k := 0) (x := txtS s a) (by simp [ha]), getD_get (l := c.kids.map (txtS s)) (k := 1) (x := txtS s b) (by simp [hb])]
    generalize txtS s a = za at *
    generalize txtS s b = zb at *
    refine ⟨?_, by simp only [List.length_append, List.length_cons, List.length_nil]; omega⟩
    refine fcall_intro (n := 99) Tryz.func93 (by kernel_rfl) rfl rfl rfl rfl rfl (by intro t T h; cases h) (fun hrd E h0 => ?_)
    clear hrd
    repeat' ((first | (refine each_knownm (x := x) hx (by omega) ?_) | (refine each_knownm (x := a) ha (by decide) ?_) | (refine each_knownm (x := b) hb (by decide) ?_) | refine call_i r1 ?_ | refine call_i r2 ?_ | (refine side_i ?_ ?_; (show 1 + za.length ≤ 9223372036854775807; omega)) | (refine side_i ?_ ?_; (rw [List.length_append]; show 1 + za.length + 4 ≤ 9223372036854775807; omega)) | (refine side_i ?_ ?_; (rw [List.length_append, List.length_append]; show 1 + za.length + 4 + zb.length ≤ 9223372036854775807; omega)) | (refine side_i ?_ ?_; (rw [List.length_append, List.length_append, List.length_append]; show 1 + za.length + 4 + zb.length + 1 ≤ 9223372036854775807; omega)) | (refine draw_q ?_ ?_; kernel_rfl) |refine aops_go ?_|refine awp_go ?_|refine guard_tt ?_|refine guard_ff ?_|refine guard_tf ?_|refine guard_ft ?_|refine cond_t ?_|refine cond_f ?_|refine Z1 ?_|refine Z2 ?_|refine stp ?_|(refine And.intro ?_ ?_<;>intro h<;>try first|(exfalso;omega)|exact absurd rfl h)|refine Z3 ?_|refine Z4 ?_|intro el hel hbB|intro el hel|intro ex|refine Z5 ?_|(refine free_i ?_ ?_;exact ⟨by kernel_rfl,by decide⟩)|refine allI_c ?_ ?_|exact allI_n|refine allMP_c ?_ ?_|exact allMP_n|(refine many_step ?_ ?_ ?_;kernel_rfl;kernel_rfl)) <;> (try (conv => whnf)))
    all_goals first
      | exact ret_tmp rfl rfl
      | (exfalso; omega)
      | trace_state
  rw [if_neg o6]
  by_cases o7 : c.op = 7
  · rw [if_pos o7]
    have hkl := k2 o7
    obtain ⟨a, ha⟩ : ∃ a, c.kids[0]? = some a := ⟨_, List.getElem?_eq_getElem (by omega)⟩
    obtain ⟨r1, l1⟩ := hkid a (List.mem_of_getElem? ha)
    have ht2 := totL_mem' (List.mem_of_getElem? ha)
    rw [getD_get (l := c.kids.map (txtS s)) (k := 0) (x := txtS s a) (by simp [ha])]
    generalize txtS s a = za at *
    refine ⟨?_, by simp only [List.length_append, List.length_cons, List.length_nil]; omega⟩
    refine fcall_intro (n := 99) Tryz.func93 (by kernel_rfl) rfl rfl rfl rfl rfl (by intro t T h; cases h) (fun hrd E h0 => ?_)
    clear hrd
    repeat' ((first | (refine each_knownm (x := x) hx (by omega) ?_) | (refine each_knownm (x := a) ha (by decide) ?_) | refine call_i r1 ?_ | (refine side_i ?_ ?_; (show 4 + za.length ≤ 9223372036854775807; omega)) | (refine draw_q ?_ ?_; kernel_rfl) |refine aops_go ?_|refine awp_go ?_|refine guard_tt ?_|refine guard_ff ?_|refine guard_tf ?_|refine guard_ft ?_|refine cond_t ?_|refine cond_f ?_|refine Z1 ?_|refine Z2 ?_|refine stp ?_|(refine And.intro ?_ ?_<;>intro h<;>try first|(exfalso;omega)|exact absurd rfl h)|refine Z3 ?_|refine Z4 ?_|intro el hel hbB|intro el hel|intro ex|refine Z5 ?_|(refine free_i ?_ ?_;exact ⟨by kernel_rfl,by decide⟩)|refine allI_c ?_ ?_|exact allI_n|refine allMP_c ?_ ?_|exact allMP_n|(refine many_step ?_ ?_ ?_;kernel_rfl;kernel_rfl)) <;> (try (conv => whnf)))
    all_goals first
      | exact ret_tmp rfl rfl
      | (exfalso; omega)
      | trace_state
  rw [if_neg o7]
  refine ⟨?_, by simp only [List.length_cons, List.length_nil]; omega⟩
  refine fcall_intro (n := 99) Tryz.func93 (by kernel_rfl) rfl rfl rfl rfl rfl (by intro t T h; cases h) (fun hrd E h0 => ?_)
  clear hrd
  repeat' ((first | (refine each_knownm (x := x) hx (by omega) ?_) |refine aops_go ?_|refine awp_go ?_|refine guard_tt ?_|refine guard_ff ?_|refine guard_tf ?_|refine guard_ft ?_|refine cond_t ?_|refine cond_f ?_|refine Z1 ?_|refine Z2 ?_|refine stp ?_|(refine And.intro ?_ ?_<;>intro h<;>try first|(exfalso;omega)|exact absurd rfl h)|refine Z3 ?_|refine Z4 ?_|intro el hel hbB|intro el hel|intro ex|refine Z5 ?_|(refine free_i ?_ ?_;exact ⟨by kernel_rfl,by decide⟩)|refine allI_c ?_ ?_|exact allI_n|refine allMP_c ?_ ?_|exact allMP_n|(refine many_step ?_ ?_ ?_;kernel_rfl;kernel_rfl)) <;> (try (conv => whnf)))
  all_goals first
    | exact ret_tmp rfl rfl
    | (exfalso; omega)
    | trace_state
set_option maxHeartbeats 4000000 in
theorem rprint_call (s : Sch) (c : Cnd) : FCall Tryz.prog 45 [sA s, cndA c] (.tup [.str (priS s c).1, .i (priS s c).2]) := by
  have h1 := rccheck_call s c
  have h2 : ¬ cndE s c ≠ 0 → FCall Tryz.prog 93 [sA s, cndA c] (.str (txtS s c)) := fun h => by
    obtain ⟨a, b, _, d⟩ := cndE_parts (Decidable.of_not_not h)
    exact (rtext_call s a c d (by omega)).1
  unfold priS
  rw [cndA_eq] at *
  refine fcall_intro (n := 16) Tryz.func45 (by kernel_rfl) rfl rfl rfl rfl rfl (by intro t T h; cases h) (fun hrd E h0 => ?_)
  clear hrd
  repeat' ((first | refine call_i h1 ?_ | (refine call_i (h2 (by assumption)) ?_) |refine aops_go ?_|refine awp_go ?_|refine guard_tt ?_|refine guard_ff ?_|refine guard_tf ?_|refine guard_ft ?_|refine cond_t ?_|refine cond_f ?_|refine Z1 ?_|refine Z2 ?_|refine stp ?_|(refine And.intro ?_ ?_<;>intro h<;>try first|(exfalso;omega)|exact absurd rfl h)|refine Z3 ?_|refine Z4 ?_|intro el hel hbB|intro el hel|intro ex|refine Z5 ?_|(refine free_i ?_ ?_;exact ⟨by kernel_rfl,by decide⟩)|refine allI_c ?_ ?_|exact allI_n|refine allMP_c ?_ ?_|exact allMP_n|(refine many_step ?_ ?_ ?_;kernel_rfl;kernel_rfl)) <;> (try (conv => whnf)))
  all_goals first
    | (rw [if_neg (by omega)]; exact ret_tmp2 rfl rfl rfl)
    | (rw [if_pos (by omega)]; exact ret_tmp2 rfl rfl rfl)
    | trace_state
end Go.Proofs.YtghlhejdfgkjaaaGreatDoor

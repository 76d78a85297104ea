/- Chapter 5: texts of conditions; conditions out of texts. -/
import Derived.Test.YtghlhejdfgkjaaaGreatDoorPr5
import Derived.Lib.ItoaLen
namespace Go.Proofs.YtghlhejdfgkjaaaGreatDoor
open Go Go.Av
attribute [local irreducible] AWp AOps AAny MAny DQ retQ retG St.le FCall GCall
set_option linter.unusedVariables false
set_option linter.unnecessarySimpa false
set_option linter.unusedSimpArgs false
set_option maxRecDepth 100000

theorem scan_names : ∀ (r pre : List Code), scan pre r = none → ∀ c ∈ r, nameB c.name = true
  | [], _, _, c, hc => by cases hc
  | x :: r, pre, h, c, hc => by
    unfold scan at h
    split at h
    · cases h
    · rename_i hn
      split at h
      · cases h
      · split at h
        · cases h
        · rcases List.mem_cons.1 hc with rfl | hc
          · cases hb : nameB c.name
            · exact absurd hb hn
            · rfl
          · exact scan_names r _ h c hc
theorem scan_not0 : ∀ (r pre : List Code), scan pre r ≠ some 0
  | [], _ => by unfold scan; exact fun h => by cases h
  | x :: r, pre => by
    unfold scan
    split
    · exact fun h => by cases h
    · split
      · exact fun h => by cases h
      · split
        · exact fun h => by cases h
        · exact scan_not0 r _
theorem conE_col {s : Sch} {c : Cnd} (h : conE s c = 0) (ho : ¬ (c.op = 2 ∨ c.op = 3 ∨ c.op = 4)) : c.col = 0 := by
  unfold conE at h
  by_cases h1 : c.op < 1 ∨ 7 < c.op
  · rw [if_pos h1] at h; cases h
  rw [if_neg h1] at h
  split at h
  · cases h
  · rename_i h2
    omega
theorem schE_pos {s : Sch} (h : schE s = 0) : 0 < s.cols.length := by
  obtain ⟨_, _, _, _, h5⟩ := schE_parts h
  cases hc : s.cols with
  | nil => rw [hc] at h5; cases h5
  | cons a r => simp
theorem chk_names {nm : List UInt8} {cs : List Code} (h : chk nm cs = 0) : ∀ c ∈ cs, nameB c.name = true := by
  unfold chk at h
  split at h
  · cases h
  split at h
  · cases h
  split at h
  · cases h
  cases hs : scan [] cs with
  | some e =>
    rw [hs] at h
    dsimp only at h
    subst h
    exact absurd hs (scan_not0 cs [])
  | none => exact scan_names cs [] hs
theorem nameB_len {l : List UInt8} (h : nameB l = true) : l.length ≤ 16 := by
  unfold nameB at h
  simp only [Bool.and_eq_true, decide_eq_true_eq] at h
  exact h.1.1.1
theorem col_name {s : Sch} (hr : schE s = 0) {i : Nat} {c : Col} (hc : s.cols[i]? = some c) : nameB c.name = true := by
  obtain ⟨_, _, _, h4, _⟩ := schE_parts hr
  have := h4 i c hc
  unfold colE at this
  split at this
  · cases this
  · rename_i hn
    cases hb : nameB c.name
    · exact absurd hb hn
    · rfl
theorem cod_name {s : Sch} (hr : schE s = 0) {l : CL} (hl : l ∈ s.lists) {i : Nat} {c : Code} (hc : l.2[i]? = some c) : nameB c.name = true :=
  chk_names ((schE_parts hr).2.2.1 l hl) c (List.mem_of_getElem? hc)
theorem totL_mem' : ∀ {l : List Cnd} {k : Cnd}, k ∈ l → totS k ≤ totL l
  | x :: r, k, h => by
    unfold totL
    rcases List.mem_cons.1 h with rfl | h
    · omega
    · have := totL_mem' h; omega
theorem totL_two : ∀ {l : List Cnd} {x y : Cnd}, l[0]? = some x → l[1]? = some y → totS x + totS y ≤ totL l
  | a :: b :: r, x, y, h0, h1 => by
    simp at h0 h1
    subst h0 h1
    unfold totL totL
    omega
  | [_], x, y, _, h1 => by simp at h1
  | [], x, y, h0, _ => by simp at h0
theorem txtS_eq (s : Sch) (c : Cnd) : txtS s c = if c.op = 2 then colNm s c.col ++ bUnder ++ codNm s c.col c.code
    else if c.op = 3 then colNm s c.col ++ bFrom ++ Lib.itoa c.lo ++ bTo ++ Lib.itoa c.hi
    else if c.op = 4 then colNm s c.col ++ bMiss
    else if c.op = 5 then [40] ++ (c.kids.map (txtS s)).getD 0 [] ++ bAnd ++ (c.kids.map (txtS s)).getD 1 [] ++ [41]
    else if c.op = 6 then [40] ++ (c.kids.map (txtS s)).getD 0 [] ++ bOr ++ (c.kids.map (txtS s)).getD 1 [] ++ [41]
    else if c.op = 7 then bNot ++ (c.kids.map (txtS s)).getD 0 []
    else bAll := by
  cases c
  rw [txtS, txtL_map]
  rfl
set_option maxHeartbeats 8000000 in
theorem ctext_call (s : Sch) (hr : schE s = 0) (c : Cnd) : chkS s c = 0 → totS c ≤ 1000 → FCall Tryz.prog 88 [sA s, cndA c] (.str (txtS s c)) ∧ (txtS s c).length ≤ 100 * totS c := by
  refine cnd_ind (p := fun c => chkS s c = 0 → totS c ≤ 1000 → FCall Tryz.prog 88 [sA s, cndA c] (.str (txtS s c)) ∧ (txtS s c).length ≤ 100 * totS c) (fun c ih h ht => ?_) c
  obtain ⟨h1, h2⟩ := chkS_parts h
  obtain ⟨p1, p2, p3, p4, p5, p6⟩ := conE_parts h1
  obtain ⟨k1, k2, k3⟩ := kidN_of c.op
  have hkid : ∀ k, k ∈ c.kids → FCall Tryz.prog 88 [sA s, cndA k] (.str (txtS s k)) ∧ (txtS s k).length ≤ 100 * totS k := fun k hk => by
    have := totL_mem' hk
    rw [totS_eq] at ht
    exact ih k hk (h2 k hk) (by omega)
  have hcol : ∃ x, s.cols[c.col.toNat]? = some x ∧ 0 ≤ c.col := by
    by_cases ho : c.op = 2 ∨ c.op = 3 ∨ c.op = 4
    · have := p3 ho
      exact ⟨_, List.getElem?_eq_getElem (by omega), by omega⟩
    · have hz := conE_col h1 (by omega)
      have := schE_pos hr
      exact ⟨_, List.getElem?_eq_getElem (by omega), by omega⟩
  obtain ⟨x, hx, hc0⟩ := hcol
  have hnm := nameB_len (col_name hr hx)
  rw [totS_eq] at ht ⊢
  rw [txtS_eq]
  unfold colNm codNm
  rw [colAt_get hx] at p4 ⊢
  rw [cndA_eq] at *
  by_cases o2 : c.op = 2
  · rw [if_pos o2]
    obtain ⟨hk, hcd⟩ := p4 o2
    have hl := RightS.lst hr (List.mem_of_getElem? hx) hk
    obtain ⟨lx, hlx⟩ : ∃ l, s.lists[x.lst.toNat]? = some l := ⟨_, List.getElem?_eq_getElem (by omega)⟩
    rw [lstOf_get hlx] at hcd ⊢
    obtain ⟨cd, hcx⟩ : ∃ d, lx.2[c.code.toNat]? = some d := ⟨_, List.getElem?_eq_getElem (by omega)⟩
    rw [getD_get hcx]
    have hcn := nameB_len (cod_name hr (List.mem_of_getElem? hlx) hcx)
    refine ⟨?_, by simp only [List.length_append, List.length_cons, List.length_nil]; omega⟩
    refine fcall_intro (n := 99) Tryz.func88 (by kernel_rfl) rfl rfl rfl rfl rfl (by intro t T h; cases h) (fun hrd E h0 => ?_)
    clear hrd
    repeat' ((first | (refine each_knownm (x := x) hx (by omega) ?_) | (refine each_knownm (x := lx) hlx (by omega) ?_) | (refine each_knownm (x := cd) hcx (by omega) ?_) | (refine side_i ?_ ?_; (show x.name.length + 7 ≤ 9223372036854775807; omega)) | (refine side_i ?_ ?_; (rw [List.length_append]; show x.name.length + 7 + cd.name.length ≤ 9223372036854775807; omega)) | (refine draw_q ?_ ?_; kernel_rfl)  | refine aops_go ?_ | refine awp_go ?_ | refine guard_tt ?_ | refine guard_ff ?_ | refine guard_tf ?_ | refine guard_ft ?_ | refine cond_t ?_ | refine cond_f ?_ | (refine each_knownm (by assumption) (by omega) ?_) | (refine each_known (by assumption) (by omega) ?_) | refine stp ?_ | (refine And.intro (fun h => ?_) (fun h => ?_) <;> try (first | (exfalso; omega) | exact absurd rfl h)) | (refine side_i ?_ ?_; (first | omega | exact Eq.refl _ | exact ⟨Eq.refl _, by omega⟩ | (simp only [List.length_map]; omega) | exact imsB rfl | exact ims_map fun _ => rfl | (constructor <;> (simp only [elsA, cellsA, List.length_cons, List.length_nil, List.length_map]; omega)))) | (refine each_mapNb ?_ (fun el hel hbB => ?_); omega) | (refine each_mapb ?_ ?_ (fun el hel hbB => ?_); omega; omega) | (refine each_lb ?_ ?_ (fun el hel hbB => ?_); omega; omega) | (refine each_mapN ?_ (fun el hel => ?_); omega) | (refine each_map ?_ ?_ (fun el hel => ?_); omega; omega) | (refine each_l ?_ ?_ (fun el hel => ?_); omega; omega) | (refine conv_bytes ?_ ?_; omega) | (refine aany_go ?_ ?_ ?_; kernel_rfl; rfl) | (refine many_step ?_ ?_ ?_; kernel_rfl; kernel_rfl) | refine ex_i (fun ex => ?_) | refine allMP_c ?_ ?_ | exact allMP_n | (refine mpost_i ?_ ?_ ?_ ?_; rfl; rfl; rfl) | (refine free_i ?_ ?_; exact ⟨by kernel_rfl, by decide⟩) | refine allI_c ?_ ?_ | exact allI_n | (refine draw_p ?_ ?_ ?_; rfl; kernel_rfl)) <;> (try (conv => whnf)))
    all_goals first
      | exact ret_tmp rfl rfl
      | (exfalso; omega)
      | trace_state
  rw [if_neg o2]
  by_cases o3 : c.op = 3
  · rw [if_pos o3]
    obtain ⟨_, q1, q2, q3⟩ := p5 o3
    have l1 := Lib.itoa_length_le c.lo (by omega) (by omega)
    have l2 := Lib.itoa_length_le c.hi (by omega) (by omega)
    have r1 := itoaI_call c.lo (by omega) (by omega)
    have r2 := itoaI_call c.hi (by omega) (by omega)
    refine ⟨?_, by simp only [List.length_append, List.length_cons, List.length_nil]; omega⟩
    refine fcall_intro (n := 99) Tryz.func88 (by kernel_rfl) rfl rfl rfl rfl rfl (by intro t T h; cases h) (fun hrd E h0 => ?_)
    clear hrd
    generalize Lib.itoa c.lo = zl at *
    generalize Lib.itoa c.hi = zh at *
    repeat' ((first | (refine each_knownm (x := x) hx (by omega) ?_) | refine call_i r1 ?_ | refine call_i r2 ?_ | (refine side_i ?_ ?_; (show x.name.length + 6 ≤ 9223372036854775807; omega)) | (refine side_i ?_ ?_; (rw [List.length_append]; show x.name.length + 6 + zl.length ≤ 9223372036854775807; omega)) | (refine side_i ?_ ?_; (rw [List.length_append, List.length_append]; show x.name.length + 6 + zl.length + 4 ≤ 9223372036854775807; omega)) | (refine side_i ?_ ?_; (rw [List.length_append, List.length_append, List.length_append]; show x.name.length + 6 + zl.length + 4 + zh.length ≤ 9223372036854775807; omega)) | (refine draw_q ?_ ?_; kernel_rfl)  | refine aops_go ?_ | refine awp_go ?_ | refine guard_tt ?_ | refine guard_ff ?_ | refine guard_tf ?_ | refine guard_ft ?_ | refine cond_t ?_ | refine cond_f ?_ | (refine each_knownm (by assumption) (by omega) ?_) | (refine each_known (by assumption) (by omega) ?_) | refine stp ?_ | (refine And.intro (fun h => ?_) (fun h => ?_) <;> try (first | (exfalso; omega) | exact absurd rfl h)) | (refine side_i ?_ ?_; (first | omega | exact Eq.refl _ | exact ⟨Eq.refl _, by omega⟩ | (simp only [List.length_map]; omega) | exact imsB rfl | exact ims_map fun _ => rfl | (constructor <;> (simp only [elsA, cellsA, List.length_cons, List.length_nil, List.length_map]; omega)))) | (refine each_mapNb ?_ (fun el hel hbB => ?_); omega) | (refine each_mapb ?_ ?_ (fun el hel hbB => ?_); omega; omega) | (refine each_lb ?_ ?_ (fun el hel hbB => ?_); omega; omega) | (refine each_mapN ?_ (fun el hel => ?_); omega) | (refine each_map ?_ ?_ (fun el hel => ?_); omega; omega) | (refine each_l ?_ ?_ (fun el hel => ?_); omega; omega) | (refine conv_bytes ?_ ?_; omega) | (refine aany_go ?_ ?_ ?_; kernel_rfl; rfl) | (refine many_step ?_ ?_ ?_; kernel_rfl; kernel_rfl) | refine ex_i (fun ex => ?_) | refine allMP_c ?_ ?_ | exact allMP_n | (refine mpost_i ?_ ?_ ?_ ?_; rfl; rfl; rfl) | (refine free_i ?_ ?_; exact ⟨by kernel_rfl, by decide⟩) | refine allI_c ?_ ?_ | exact allI_n | (refine draw_p ?_ ?_ ?_; rfl; kernel_rfl)) <;> (try (conv => whnf)))
    all_goals first
      | exact ret_tmp rfl rfl
      | (exfalso; omega)
      | trace_state
  rw [if_neg o3]
  by_cases o4 : c.op = 4
  · rw [if_pos o4]
    refine ⟨?_, by simp only [List.length_append, List.length_cons, List.length_nil]; omega⟩
    refine fcall_intro (n := 99) Tryz.func88 (by kernel_rfl) rfl rfl rfl rfl rfl (by intro t T h; cases h) (fun hrd E h0 => ?_)
    clear hrd
    repeat' ((first | (refine each_knownm (x := x) hx (by omega) ?_) | (refine side_i ?_ ?_; (show x.name.length + 8 ≤ 9223372036854775807; omega))  | refine aops_go ?_ | refine awp_go ?_ | refine guard_tt ?_ | refine guard_ff ?_ | refine guard_tf ?_ | refine guard_ft ?_ | refine cond_t ?_ | refine cond_f ?_ | (refine each_knownm (by assumption) (by omega) ?_) | (refine each_known (by assumption) (by omega) ?_) | refine stp ?_ | (refine And.intro (fun h => ?_) (fun h => ?_) <;> try (first | (exfalso; omega) | exact absurd rfl h)) | (refine side_i ?_ ?_; (first | omega | exact Eq.refl _ | exact ⟨Eq.refl _, by omega⟩ | (simp only [List.length_map]; omega) | exact imsB rfl | exact ims_map fun _ => rfl | (constructor <;> (simp only [elsA, cellsA, List.length_cons, List.length_nil, List.length_map]; omega)))) | (refine each_mapNb ?_ (fun el hel hbB => ?_); omega) | (refine each_mapb ?_ ?_ (fun el hel hbB => ?_); omega; omega) | (refine each_lb ?_ ?_ (fun el hel hbB => ?_); omega; omega) | (refine each_mapN ?_ (fun el hel => ?_); omega) | (refine each_map ?_ ?_ (fun el hel => ?_); omega; omega) | (refine each_l ?_ ?_ (fun el hel => ?_); omega; omega) | (refine conv_bytes ?_ ?_; omega) | (refine aany_go ?_ ?_ ?_; kernel_rfl; rfl) | (refine many_step ?_ ?_ ?_; kernel_rfl; kernel_rfl) | refine ex_i (fun ex => ?_) | refine allMP_c ?_ ?_ | exact allMP_n | (refine mpost_i ?_ ?_ ?_ ?_; rfl; rfl; rfl) | (refine free_i ?_ ?_; exact ⟨by kernel_rfl, by decide⟩) | refine allI_c ?_ ?_ | exact allI_n | (refine draw_p ?_ ?_ ?_; rfl; kernel_rfl)) <;> (try (conv => whnf)))
    all_goals first
      | exact ret_tmp rfl rfl
      | (exfalso; omega)
      | trace_state
  rw [if_neg o4]
  by_cases o5 : c.op = 5
  · rw [if_pos o5]
    have hkl := k1 (.inl o5)
    obtain ⟨a, ha⟩ : ∃ a, c.kids[0]? = some a := ⟨_, List.getElem?_eq_getElem (by omega)⟩
    obtain ⟨b, hb⟩ : ∃ b, c.kids[1]? = some b := ⟨_, List.getElem?_eq_getElem (by omega)⟩
    obtain ⟨r1, l1⟩ := hkid a (List.mem_of_getElem? ha)
    obtain ⟨r2, l2⟩ := hkid b (List.mem_of_getElem? hb)
    have ht2 := totL_two ha hb
    rw [getD_get (l := c.kids.map (txtS s)) (k := 0) (x := txtS s a) (by simp [ha]), getD_get (l := c.kids.map (txtS s)) (k := 1) (x := txtS s b) (by simp [hb])]
    generalize txtS s a = za at *
    generalize txtS s b = zb at *
    refine ⟨?_, by simp only [List.length_append, List.length_cons, List.length_nil]; omega⟩
    refine fcall_intro (n := 99) Tryz.func88 (by kernel_rfl) rfl rfl rfl rfl rfl (by intro t T h; cases h) (fun hrd E h0 => ?_)
    clear hrd
    repeat' ((first | (refine each_knownm (x := x) hx (by omega) ?_) | (refine each_knownm (x := a) ha (by decide) ?_) | (refine each_knownm (x := b) hb (by decide) ?_) | refine call_i r1 ?_ | refine call_i r2 ?_ | (refine side_i ?_ ?_; (show 1 + za.length ≤ 9223372036854775807; omega)) | (refine side_i ?_ ?_; (rw [List.length_append]; show 1 + za.length + 5 ≤ 9223372036854775807; omega)) | (refine side_i ?_ ?_; (rw [List.length_append, List.length_append]; show 1 + za.length + 5 + zb.length ≤ 9223372036854775807; omega)) | (refine side_i ?_ ?_; (rw [List.length_append, List.length_append, List.length_append]; show 1 + za.length + 5 + zb.length + 1 ≤ 9223372036854775807; omega)) | (refine draw_q ?_ ?_; kernel_rfl)  | refine aops_go ?_ | refine awp_go ?_ | refine guard_tt ?_ | refine guard_ff ?_ | refine guard_tf ?_ | refine guard_ft ?_ | refine cond_t ?_ | refine cond_f ?_ | (refine each_knownm (by assumption) (by omega) ?_) | (refine each_known (by assumption) (by omega) ?_) | refine stp ?_ | (refine And.intro (fun h => ?_) (fun h => ?_) <;> try (first | (exfalso; omega) | exact absurd rfl h)) | (refine side_i ?_ ?_; (first | omega | exact Eq.refl _ | exact ⟨Eq.refl _, by omega⟩ | (simp only [List.length_map]; omega) | exact imsB rfl | exact ims_map fun _ => rfl | (constructor <;> (simp only [elsA, cellsA, List.length_cons, List.length_nil, List.length_map]; omega)))) | (refine each_mapNb ?_ (fun el hel hbB => ?_); omega) | (refine each_mapb ?_ ?_ (fun el hel hbB => ?_); omega; omega) | (refine each_lb ?_ ?_ (fun el hel hbB => ?_); omega; omega) | (refine each_mapN ?_ (fun el hel => ?_); omega) | (refine each_map ?_ ?_ (fun el hel => ?_); omega; omega) | (refine each_l ?_ ?_ (fun el hel => ?_); omega; omega) | (refine conv_bytes ?_ ?_; omega) | (refine aany_go ?_ ?_ ?_; kernel_rfl; rfl) | (refine many_step ?_ ?_ ?_; kernel_rfl; kernel_rfl) | refine ex_i (fun ex => ?_) | refine allMP_c ?_ ?_ | exact allMP_n | (refine mpost_i ?_ ?_ ?_ ?_; rfl; rfl; rfl) | (refine free_i ?_ ?_; exact ⟨by kernel_rfl, by decide⟩) | refine allI_c ?_ ?_ | exact allI_n | (refine draw_p ?_ ?_ ?_; rfl; kernel_rfl)) <;> (try (conv => whnf)))
    all_goals first
      | exact ret_tmp rfl rfl
      | (exfalso; omega)
      | trace_state
  rw [if_neg o5]
  by_cases o6 : c.op = 6
  · rw [if_pos o6]
    have hkl := k1 (.inr o6)
    obtain ⟨a, ha⟩ : ∃ a, c.kids[0]? = some a := ⟨_, List.getElem?_eq_getElem (by omega)⟩
    obtain ⟨b, hb⟩ : ∃ b, c.kids[1]? = some b := ⟨_, List.getElem?_eq_getElem (by omega)⟩
    obtain ⟨r1, l1⟩ := hkid a (List.mem_of_getElem? ha)
    obtain ⟨r2, l2⟩ := hkid b (List.mem_of_getElem? hb)
    have ht2 := totL_two ha hb
    rw [getD_get (l := c.kids.map (txtS s)) (k := 0) (x := txtS s a) (by simp [ha]), getD_get (l := c.kids.map (txtS s)) (k := 1) (x := txtS s b) (by simp [hb])]
    generalize txtS s a = za at *
    generalize txtS s b = zb at *
    refine ⟨?_, by simp only [List.length_append, List.length_cons, List.length_nil]; omega⟩
    refine fcall_intro (n := 99) Tryz.func88 (by kernel_rfl) rfl rfl rfl rfl rfl (by intro t T h; cases h) (fun hrd E h0 => ?_)
    clear hrd
    repeat' ((first | (refine each_knownm (x := x) hx (by omega) ?_) | (refine each_knownm (x := a) ha (by decide) ?_) | (refine each_knownm (x := b) hb (by decide) ?_) | refine call_i r1 ?_ | refine call_i r2 ?_ | (refine side_i ?_ ?_; (show 1 + za.length ≤ 9223372036854775807; omega)) | (refine side_i ?_ ?_; (rw [List.length_append]; show 1 + za.length + 4 ≤ 9223372036854775807; omega)) | (refine side_i ?_ ?_; (rw [List.length_append, List.length_append]; show 1 + za.length + 4 + zb.length ≤ 9223372036854775807; omega)) | (refine side_i ?_ ?_; (rw [List.length_append, List.length_append, List.length_append]; show 1 + za.length + 4 + zb.length + 1 ≤ 9223372036854775807; omega)) | (refine draw_q ?_ ?_; kernel_rfl)  | refine aops_go ?_ | refine awp_go ?_ | refine guard_tt ?_ | refine guard_ff ?_ | refine guard_tf ?_ | refine guard_ft ?_ | refine cond_t ?_ | refine cond_f ?_ | (refine each_knownm (by assumption) (by omega) ?_) | (refine each_known (by assumption) (by omega) ?_) | refine stp ?_ | (refine And.intro (fun h => ?_) (fun h => ?_) <;> try (first | (exfalso; omega) | exact absurd rfl h)) | (refine side_i ?_ ?_; (first | omega | exact Eq.refl _ | exact ⟨Eq.refl _, by omega⟩ | (simp only [List.length_map]; omega) | exact imsB rfl | exact ims_map fun _ => rfl | (constructor <;> (simp only [elsA, cellsA, List.length_cons, List.length_nil, List.length_map]; omega)))) | (refine each_mapNb ?_ (fun el hel hbB => ?_); omega) | (refine each_mapb ?_ ?_ (fun el hel hbB => ?_); omega; omega) | (refine each_lb ?_ ?_ (fun el hel hbB => ?_); omega; omega) | (refine each_mapN ?_ (fun el hel => ?_); omega) | (refine each_map ?_ ?_ (fun el hel => ?_); omega; omega) | (refine each_l ?_ ?_ (fun el hel => ?_); omega; omega) | (refine conv_bytes ?_ ?_; omega) | (refine aany_go ?_ ?_ ?_; kernel_rfl; rfl) | (refine many_step ?_ ?_ ?_; kernel_rfl; kernel_rfl) | refine ex_i (fun ex => ?_) | refine allMP_c ?_ ?_ | exact allMP_n | (refine mpost_i ?_ ?_ ?_ ?_; rfl; rfl; rfl) | (refine free_i ?_ ?_; exact ⟨by kernel_rfl, by decide⟩) | refine allI_c ?_ ?_ | exact allI_n | (refine draw_p ?_ ?_ ?_; rfl; kernel_rfl)) <;> (try (conv => whnf)))
    all_goals first
      | exact ret_tmp rfl rfl
      | (exfalso; omega)
      | trace_state
  rw [if_neg o6]
  by_cases o7 : c.op = 7
  · rw [if_pos o7]
    have hkl := k2 o7
    obtain ⟨a, ha⟩ : ∃ a, c.kids[0]? = some a := ⟨_, List.getElem?_eq_getElem (by omega)⟩
    obtain ⟨r1, l1⟩ := hkid a (List.mem_of_getElem? ha)
    have ht2 := totL_mem' (List.mem_of_getElem? ha)
    rw [getD_get (l := c.kids.map (txtS s)) (k := 0) (x := txtS s a) (by simp [ha])]
    generalize txtS s a = za at *
    refine ⟨?_, by simp only [List.length_append, List.length_cons, List.length_nil]; omega⟩
    refine fcall_intro (n := 99) Tryz.func88 (by kernel_rfl) rfl rfl rfl rfl rfl (by intro t T h; cases h) (fun hrd E h0 => ?_)
    clear hrd
    repeat' ((first | (refine each_knownm (x := x) hx (by omega) ?_) | (refine each_knownm (x := a) ha (by decide) ?_) | refine call_i r1 ?_ | (refine side_i ?_ ?_; (show 4 + za.length ≤ 9223372036854775807; omega)) | (refine draw_q ?_ ?_; kernel_rfl)  | refine aops_go ?_ | refine awp_go ?_ | refine guard_tt ?_ | refine guard_ff ?_ | refine guard_tf ?_ | refine guard_ft ?_ | refine cond_t ?_ | refine cond_f ?_ | (refine each_knownm (by assumption) (by omega) ?_) | (refine each_known (by assumption) (by omega) ?_) | refine stp ?_ | (refine And.intro (fun h => ?_) (fun h => ?_) <;> try (first | (exfalso; omega) | exact absurd rfl h)) | (refine side_i ?_ ?_; (first | omega | exact Eq.refl _ | exact ⟨Eq.refl _, by omega⟩ | (simp only [List.length_map]; omega) | exact imsB rfl | exact ims_map fun _ => rfl | (constructor <;> (simp only [elsA, cellsA, List.length_cons, List.length_nil, List.length_map]; omega)))) | (refine each_mapNb ?_ (fun el hel hbB => ?_); omega) | (refine each_mapb ?_ ?_ (fun el hel hbB => ?_); omega; omega) | (refine each_lb ?_ ?_ (fun el hel hbB => ?_); omega; omega) | (refine each_mapN ?_ (fun el hel => ?_); omega) | (refine each_map ?_ ?_ (fun el hel => ?_); omega; omega) | (refine each_l ?_ ?_ (fun el hel => ?_); omega; omega) | (refine conv_bytes ?_ ?_; omega) | (refine aany_go ?_ ?_ ?_; kernel_rfl; rfl) | (refine many_step ?_ ?_ ?_; kernel_rfl; kernel_rfl) | refine ex_i (fun ex => ?_) | refine allMP_c ?_ ?_ | exact allMP_n | (refine mpost_i ?_ ?_ ?_ ?_; rfl; rfl; rfl) | (refine free_i ?_ ?_; exact ⟨by kernel_rfl, by decide⟩) | refine allI_c ?_ ?_ | exact allI_n | (refine draw_p ?_ ?_ ?_; rfl; kernel_rfl)) <;> (try (conv => whnf)))
    all_goals first
      | exact ret_tmp rfl rfl
      | (exfalso; omega)
      | trace_state
  rw [if_neg o7]
  refine ⟨?_, by simp only [List.length_cons, List.length_nil]; omega⟩
  refine fcall_intro (n := 99) Tryz.func88 (by kernel_rfl) rfl rfl rfl rfl rfl (by intro t T h; cases h) (fun hrd E h0 => ?_)
  clear hrd
  repeat' ((first | (refine each_knownm (x := x) hx (by omega) ?_)  | refine aops_go ?_ | refine awp_go ?_ | refine guard_tt ?_ | refine guard_ff ?_ | refine guard_tf ?_ | refine guard_ft ?_ | refine cond_t ?_ | refine cond_f ?_ | (refine each_knownm (by assumption) (by omega) ?_) | (refine each_known (by assumption) (by omega) ?_) | refine stp ?_ | (refine And.intro (fun h => ?_) (fun h => ?_) <;> try (first | (exfalso; omega) | exact absurd rfl h)) | (refine side_i ?_ ?_; (first | omega | exact Eq.refl _ | exact ⟨Eq.refl _, by omega⟩ | (simp only [List.length_map]; omega) | exact imsB rfl | exact ims_map fun _ => rfl | (constructor <;> (simp only [elsA, cellsA, List.length_cons, List.length_nil, List.length_map]; omega)))) | (refine each_mapNb ?_ (fun el hel hbB => ?_); omega) | (refine each_mapb ?_ ?_ (fun el hel hbB => ?_); omega; omega) | (refine each_lb ?_ ?_ (fun el hel hbB => ?_); omega; omega) | (refine each_mapN ?_ (fun el hel => ?_); omega) | (refine each_map ?_ ?_ (fun el hel => ?_); omega; omega) | (refine each_l ?_ ?_ (fun el hel => ?_); omega; omega) | (refine conv_bytes ?_ ?_; omega) | (refine aany_go ?_ ?_ ?_; kernel_rfl; rfl) | (refine many_step ?_ ?_ ?_; kernel_rfl; kernel_rfl) | refine ex_i (fun ex => ?_) | refine allMP_c ?_ ?_ | exact allMP_n | (refine mpost_i ?_ ?_ ?_ ?_; rfl; rfl; rfl) | (refine free_i ?_ ?_; exact ⟨by kernel_rfl, by decide⟩) | refine allI_c ?_ ?_ | exact allI_n | (refine draw_p ?_ ?_ ?_; rfl; kernel_rfl)) <;> (try (conv => whnf)))
  all_goals first
    | exact ret_tmp rfl rfl
    | (exfalso; omega)
    | trace_state
/-- The text, and the error. -/
def priS (s : Sch) (c : Cnd) : List UInt8 × Int := if cndE s c = 0 then (txtS s c, 0) else ([], cndE s c)
set_option maxHeartbeats 4000000 in
theorem cprint_call (s : Sch) (c : Cnd) : FCall Tryz.prog 36 [sA s, cndA c] (.tup [.str (priS s c).1, .i (priS s c).2]) := by
  have h1 := ccheck_call s c
  have h2 : ¬ cndE s c ≠ 0 → FCall Tryz.prog 88 [sA s, cndA c] (.str (txtS s c)) := fun h => by
    obtain ⟨a, b, _, d⟩ := cndE_parts (Decidable.of_not_not h)
    exact (ctext_call s a c d (by omega)).1
  unfold priS
  rw [cndA_eq] at *
  refine fcall_intro (n := 16) Tryz.func36 (by kernel_rfl) rfl rfl rfl rfl rfl (by intro t T h; cases h) (fun hrd E h0 => ?_)
  clear hrd
  repeat' ((first | refine call_i h1 ?_ | (refine call_i (h2 (by assumption)) ?_)  | refine aops_go ?_ | refine awp_go ?_ | refine guard_tt ?_ | refine guard_ff ?_ | refine guard_tf ?_ | refine guard_ft ?_ | refine cond_t ?_ | refine cond_f ?_ | (refine each_knownm (by assumption) (by omega) ?_) | (refine each_known (by assumption) (by omega) ?_) | refine stp ?_ | (refine And.intro (fun h => ?_) (fun h => ?_) <;> try (first | (exfalso; omega) | exact absurd rfl h)) | (refine side_i ?_ ?_; (first | omega | exact Eq.refl _ | exact ⟨Eq.refl _, by omega⟩ | (simp only [List.length_map]; omega) | exact imsB rfl | exact ims_map fun _ => rfl | (constructor <;> (simp only [elsA, cellsA, List.length_cons, List.length_nil, List.length_map]; omega)))) | (refine each_mapNb ?_ (fun el hel hbB => ?_); omega) | (refine each_mapb ?_ ?_ (fun el hel hbB => ?_); omega; omega) | (refine each_lb ?_ ?_ (fun el hel hbB => ?_); omega; omega) | (refine each_mapN ?_ (fun el hel => ?_); omega) | (refine each_map ?_ ?_ (fun el hel => ?_); omega; omega) | (refine each_l ?_ ?_ (fun el hel => ?_); omega; omega) | (refine conv_bytes ?_ ?_; omega) | (refine aany_go ?_ ?_ ?_; kernel_rfl; rfl) | (refine many_step ?_ ?_ ?_; kernel_rfl; kernel_rfl) | refine ex_i (fun ex => ?_) | refine allMP_c ?_ ?_ | exact allMP_n | (refine mpost_i ?_ ?_ ?_ ?_; rfl; rfl; rfl) | (refine free_i ?_ ?_; exact ⟨by kernel_rfl, by decide⟩) | refine allI_c ?_ ?_ | exact allI_n | (refine draw_p ?_ ?_ ?_; rfl; kernel_rfl)) <;> (try (conv => whnf)))
  all_goals first
    | (rw [if_neg (by omega)]; exact ret_tmp2 rfl rfl rfl)
    | (rw [if_pos (by omega)]; exact ret_tmp2 rfl rfl rfl)
    | trace_state
set_option maxHeartbeats 4000000 in
theorem cparse_call (s : Sch) (t : List UInt8) (ht : t.length ≤ 140737488355328) : FCall Tryz.prog 37 [sA s, .str t] (.tup [cndA (parS s t).1, .i (parS s t).2]) := by
  have h1 := scheck_call s
  unfold parS
  by_cases hr : schE s = 0
  · rw [if_pos hr]
    have h2 := pcond_call s hr 10 (Nat.le_refl _) 40 t (by decide) (by decide) ht
    have h3 := fun c => ccheck_call s c
    generalize conP s 10 40 t = a at *
    obtain ⟨ac, aok, at', al⟩ := a
    dsimp only at *
    have h3 := h3 ac
    generalize cndE s ac = e at *
    rw [hr] at h1
    refine fcall_intro (n := 42) Tryz.func37 (by kernel_rfl) rfl rfl rfl rfl rfl (by intro t T h; cases h) (fun hrd E h0 => ?_)
    clear hrd
    repeat' ((first | refine call_i h1 ?_ | refine ⟨ncall_h [2] [0] h2 rfl rfl rfl rfl rfl ⟨rfl, trivial⟩ rfl rfl rfl rfl rfl ?_⟩ | refine call_i h3 ?_  | refine aops_go ?_ | refine awp_go ?_ | refine guard_tt ?_ | refine guard_ff ?_ | refine guard_tf ?_ | refine guard_ft ?_ | refine cond_t ?_ | refine cond_f ?_ | (refine each_knownm (by assumption) (by omega) ?_) | (refine each_known (by assumption) (by omega) ?_) | refine stp ?_ | (refine And.intro (fun h => ?_) (fun h => ?_) <;> try (first | (exfalso; omega) | exact absurd rfl h)) | (refine side_i ?_ ?_; (first | omega | exact Eq.refl _ | exact ⟨Eq.refl _, by omega⟩ | (simp only [List.length_map]; omega) | exact imsB rfl | exact ims_map fun _ => rfl | (constructor <;> (simp only [elsA, cellsA, List.length_cons, List.length_nil, List.length_map]; omega)))) | (refine each_mapNb ?_ (fun el hel hbB => ?_); omega) | (refine each_mapb ?_ ?_ (fun el hel hbB => ?_); omega; omega) | (refine each_lb ?_ ?_ (fun el hel hbB => ?_); omega; omega) | (refine each_mapN ?_ (fun el hel => ?_); omega) | (refine each_map ?_ ?_ (fun el hel => ?_); omega; omega) | (refine each_l ?_ ?_ (fun el hel => ?_); omega; omega) | (refine conv_bytes ?_ ?_; omega) | (refine aany_go ?_ ?_ ?_; kernel_rfl; rfl) | (refine many_step ?_ ?_ ?_; kernel_rfl; kernel_rfl) | refine ex_i (fun ex => ?_) | refine allMP_c ?_ ?_ | exact allMP_n | (refine mpost_i ?_ ?_ ?_ ?_; rfl; rfl; rfl) | (refine free_i ?_ ?_; exact ⟨by kernel_rfl, by decide⟩) | refine allI_c ?_ ?_ | exact allI_n | (refine draw_p ?_ ?_ ?_; rfl; kernel_rfl)) <;> (try (conv => whnf)))
    all_goals first
      | (rw [if_neg (fun hh => by obtain ⟨q1, q2, q3⟩ := hh; first | exact absurd q1 (by assumption) | exact absurd q3 (by assumption) | exact absurd q2 (by assumption) | (simp_all; done))]; exact ret_ct rfl rfl rfl (nl_leaf 0 0 0 0 0) rfl (.refl _) rfl)
      | (rw [if_pos (by refine ⟨?_, ?_, ?_⟩ <;> first | assumption | (simp_all; done))]; exact ret_ct rfl rfl rfl (.refl _) rfl (.refl _) rfl)
      | trace_state
  · rw [if_neg hr]
    refine fcall_intro (n := 42) Tryz.func37 (by kernel_rfl) rfl rfl rfl rfl rfl (by intro t T h; cases h) (fun hrd E h0 => ?_)
    clear hrd
    repeat' ((first | refine call_i h1 ?_  | refine aops_go ?_ | refine awp_go ?_ | refine guard_tt ?_ | refine guard_ff ?_ | refine guard_tf ?_ | refine guard_ft ?_ | refine cond_t ?_ | refine cond_f ?_ | (refine each_knownm (by assumption) (by omega) ?_) | (refine each_known (by assumption) (by omega) ?_) | refine stp ?_ | (refine And.intro (fun h => ?_) (fun h => ?_) <;> try (first | (exfalso; omega) | exact absurd rfl h)) | (refine side_i ?_ ?_; (first | omega | exact Eq.refl _ | exact ⟨Eq.refl _, by omega⟩ | (simp only [List.length_map]; omega) | exact imsB rfl | exact ims_map fun _ => rfl | (constructor <;> (simp only [elsA, cellsA, List.length_cons, List.length_nil, List.length_map]; omega)))) | (refine each_mapNb ?_ (fun el hel hbB => ?_); omega) | (refine each_mapb ?_ ?_ (fun el hel hbB => ?_); omega; omega) | (refine each_lb ?_ ?_ (fun el hel hbB => ?_); omega; omega) | (refine each_mapN ?_ (fun el hel => ?_); omega) | (refine each_map ?_ ?_ (fun el hel => ?_); omega; omega) | (refine each_l ?_ ?_ (fun el hel => ?_); omega; omega) | (refine conv_bytes ?_ ?_; omega) | (refine aany_go ?_ ?_ ?_; kernel_rfl; rfl) | (refine many_step ?_ ?_ ?_; kernel_rfl; kernel_rfl) | refine ex_i (fun ex => ?_) | refine allMP_c ?_ ?_ | exact allMP_n | (refine mpost_i ?_ ?_ ?_ ?_; rfl; rfl; rfl) | (refine free_i ?_ ?_; exact ⟨by kernel_rfl, by decide⟩) | refine allI_c ?_ ?_ | exact allI_n | (refine draw_p ?_ ?_ ?_; rfl; kernel_rfl)) <;> (try (conv => whnf)))
    all_goals first
      | exact ret_ct rfl rfl rfl (nl_leaf 0 0 0 0 0) rfl (.refl _) rfl
      | (exfalso; contradiction)
      | trace_state
end Go.Proofs.YtghlhejdfgkjaaaGreatDoor

/- Chapter 16: what is known of a right expression. -/
import Derived.Test.YtjmbhlgocikfiaaGreatDoorQF1
import Derived.Test.YtjmbhlgocikfiaaGreatDoorQB8
namespace Go.Proofs.YtjmbhlgocikfiaaGreatDoor
open Go Go.Av
attribute [local irreducible] AWp AOps AAny MAny DQ retQ retG St.le FCall GCall
set_option linter.unusedVariables false
set_option linter.unnecessarySimpa false
set_option linter.unusedSimpArgs false
set_option maxRecDepth 100000
structure RigE (s : Sch) (e : Xpr) : Prop where
  op : 1 ≤ e.op ∧ e.op ≤ 14
  unu : unuX e
  par : parB s e = true
  cnd : usCnd e.op → cndE s e.cnd = 0
  evt : usEvt e.op → cndE s e.evt = 0
  pair : pairP e.op → e.kids.length = 2
  kid : ∀ k ∈ e.kids, numP k.op ∧ rigS s k = true
theorem rig_parts {s : Sch} {e : Xpr} (h : rigS s e = true) : RigE s e := by
  rw [rigS_eq] at h
  simp only [Bool.and_eq_true, Bool.not_eq_true', oneX] at h
  obtain ⟨⟨⟨⟨⟨⟨h1, h2⟩, h3⟩, h4⟩, h5⟩, h6⟩, h7⟩ := h
  refine ⟨of_decide_eq_true h1, of_decide_eq_true h2, h3, fun hc => ?_, fun hc => ?_, fun hc => ?_, fun k hk => ?_⟩
  · rw [decide_eq_false (fun hn => hn hc), Bool.false_or] at h4; exact of_decide_eq_true h4
  · rw [decide_eq_false (fun hn => hn hc), Bool.false_or] at h5; exact of_decide_eq_true h5
  · rw [decide_eq_false (fun hn => hn hc), Bool.false_or] at h6; exact of_decide_eq_true h6
  · have := List.any_eq_false.1 h7 k hk
    simp only [badK, Bool.or_eq_true, not_or, Bool.not_eq_true', Bool.not_eq_false] at this
    exact ⟨of_decide_eq_true this.1, this.2⟩
theorem isB_col {s : Sch} {col kind : Int} (h : isB s col kind = true) : 0 ≤ col ∧ col < s.cols.length ∧ ∃ c, s.cols[col.toNat]? = some c ∧ c.kind = kind := by
  obtain ⟨h0, h1, h2⟩ : 0 ≤ col ∧ col < s.cols.length ∧ (colAt s col).kind = kind := by simpa [isB] using h
  have hc : s.cols[col.toNat]? = some (s.cols[col.toNat]'(by omega)) := List.getElem?_eq_getElem (by omega)
  exact ⟨h0, h1, _, hc, by rw [colAt_get hc] at h2; exact h2⟩
theorem RigE.col {s : Sch} {e : Xpr} (h : RigE s e) (ho : usCol e.op) : (e.op = 10 ∧ e.col = -1) ∨ isB s e.col 3 = true := by
  have hp := h.par
  have hop := h.op
  simp only [usCol] at ho
  unfold parB at hp
  rw [if_neg (by omega), if_neg (by omega)] at hp
  by_cases h4 : e.op = 4 ∨ e.op = 5 ∨ e.op = 14
  · rw [if_pos h4] at hp; exact .inr hp
  rw [if_neg h4] at hp
  by_cases h10 : e.op = 10
  · rw [if_pos h10] at hp
    simp only [Bool.and_eq_true, Bool.or_eq_true] at hp
    rcases hp.2 with h | h
    · exact .inl ⟨h10, of_decide_eq_true h⟩
    · exact .inr h
  rw [if_neg h10] at hp
  by_cases h11 : e.op = 11
  · rw [if_pos h11] at hp
    simp only [Bool.and_eq_true] at hp
    exact .inr hp.1
  rw [if_neg h11] at hp
  by_cases h12 : e.op = 12
  · rw [if_pos h12] at hp
    simp only [Bool.and_eq_true] at hp
    exact .inr hp.1
  rw [if_neg h12, if_pos (by omega)] at hp
  simp only [Bool.and_eq_true] at hp
  exact .inr hp.1
theorem RigE.lens {s : Sch} {e : Xpr} (h : RigE s e) : e.dims.length ≤ 3 ∧ e.cols.length ≤ 3 ∧ e.kids.length ≤ 2 := by
  obtain ⟨_, _, _, h4, h5, _, _, h8⟩ := h.unu
  have hp := h.par
  unfold parB at hp
  refine ⟨?_, ?_, ?_⟩
  · rcases h5 with h5 | h5
    · have h10 : e.op = 10 := h5
      rw [if_neg (by omega), if_neg (by omega), if_neg (by omega), if_pos h10] at hp
      simp only [Bool.and_eq_true] at hp
      have := of_decide_eq_true hp.1
      unfold dimsE at this
      split at this
      · cases this
      · omega
    · omega
  · rcases h4 with h4 | h4
    · have h11 : e.op = 11 := h4
      rw [if_neg (by omega), if_neg (by omega), if_neg (by omega), if_neg (by omega), if_pos h11] at hp
      simp only [Bool.and_eq_true] at hp
      have := of_decide_eq_true hp.2
      unfold trmsE at this
      split at this
      · cases this
      · omega
    · omega
  · rcases h8 with h8 | h8
    · have := h.pair h8; omega
    · omega
theorem RigE.trm {s : Sch} {e : Xpr} (h : RigE s e) : ∀ c ∈ e.cols, isB s c 3 = true := by
  intro c hc
  have hpar := h.par
  have h4 := h.unu.2.2.2.1
  unfold parB at hpar
  have h11 : e.op = 11 := by
    rcases h4 with h | h
    · exact h
    · rw [List.eq_nil_of_length_eq_zero h] at hc; cases hc
  rw [if_neg (by omega), if_neg (by omega), if_neg (by omega), if_neg (by omega), if_pos h11] at hpar
  simp only [Bool.and_eq_true] at hpar
  have hde := of_decide_eq_true hpar.2
  unfold trmsE at hde
  split at hde
  · cases hde
  · obtain ⟨i, hi, he⟩ := List.getElem_of_mem hc
    have := firstE_zero hde i c (by rw [List.getElem?_eq_getElem hi, he])
    unfold trmE at this
    split at this
    · cases this
    · rename_i hb; simpa using hb
theorem RigE.dim {s : Sch} {e : Xpr} (h : RigE s e) : ∀ d ∈ e.dims, pickE s d = 0 := by
  intro d hd
  have hpar := h.par
  have h5 := h.unu.2.2.2.2.1
  unfold parB at hpar
  have h10 : e.op = 10 := by
    rcases h5 with h | h
    · exact h
    · rw [List.eq_nil_of_length_eq_zero h] at hd; cases hd
  rw [if_neg (by omega), if_neg (by omega), if_neg (by omega), if_pos h10] at hpar
  simp only [Bool.and_eq_true] at hpar
  have hde := of_decide_eq_true hpar.1
  unfold dimsE at hde
  split at hde
  · cases hde
  · obtain ⟨i, hi, he⟩ := List.getElem_of_mem hd
    have := firstE_zero hde i d (by rw [List.getElem?_eq_getElem hi, he])
    unfold dimE at this
    split at this
    · exact absurd this (by assumption)
    · rename_i hpe; exact Decidable.of_not_not hpe
end Go.Proofs.YtjmbhlgocikfiaaGreatDoor

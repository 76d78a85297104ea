/- Chapter 5: the reference's words and numbers. -/
import Derived.Test.YtghlhejdfgkjaaaGreatDoorRp1
namespace Go.Proofs.YtghlhejdfgkjaaaGreatDoor
open Go Go.Av
attribute [local irreducible] AWp AOps AAny MAny DQ retQ retG St.le FCall GCall
set_option linter.unusedVariables false
set_option linter.unnecessarySimpa false
set_option linter.unusedSimpArgs false
set_option maxRecDepth 100000

theorem cut_snd (w t : List UInt8) : (cutS w t).2 = w.isPrefixOf t := by
  unfold cutS
  split
  · rename_i h; exact h.symm
  · rename_i h; exact (eq_false_of_ne_true h).symm
set_option maxHeartbeats 2000000 in
theorem hasPrefix_call (t w : List UInt8) (ht : t.length ≤ 9223372036854775807) (hw : w.length ≤ 9223372036854775807) : FCall Tryz.prog 181 [.str t, .str w] (.b (cutS w t).2) := by
  have hp := hasPrefixL_call t w ht hw
  rw [cut_snd]
  refine fcall_intro (n := 8) Tryz.func181 (by kernel_rfl) rfl rfl rfl rfl rfl (by intro t T h; cases h) (fun hrd E h0 => ?_)
  clear hrd
  repeat' ((first | refine call_i hp ?_ |refine aops_go ?_|refine awp_go ?_|refine guard_tt ?_|refine guard_ff ?_|refine guard_tf ?_|refine guard_ft ?_|refine cond_t ?_|refine cond_f ?_|refine Z1 ?_|refine Z2 ?_|refine stp ?_|(refine And.intro ?_ ?_<;>intro h<;>try first|(exfalso;omega)|exact absurd rfl h)|refine Z3 ?_|refine Z4 ?_|intro el hel hbB|intro el hel|intro ex|refine Z5 ?_|(refine free_i ?_ ?_;exact ⟨by kernel_rfl,by decide⟩)|refine allI_c ?_ ?_|exact allI_n|refine allMP_c ?_ ?_|exact allMP_n|(refine many_step ?_ ?_ ?_;kernel_rfl;kernel_rfl)) <;> (try (conv => whnf)))
  all_goals exact ret_tmp rfl rfl
set_option maxHeartbeats 2000000 in
theorem trimPrefixL_call (t w : List UInt8) (ht : t.length ≤ 9223372036854775807) (hw : w.length ≤ 9223372036854775807) : FCall Tryz.prog 259 [.str t, .str w] (.str (cutS w t).1) := by
  have hp := hasPrefixL_call t w ht hw
  have hq := pref_iff (w := w) (t := t)
  unfold cutS
  refine fcall_intro (n := 13) Tryz.func259 (by kernel_rfl) rfl rfl rfl rfl rfl (by intro t T h; cases h) (fun hrd E h0 => ?_)
  clear hrd
  by_cases h : w.isPrefixOf t = true
  · rw [if_pos h]
    rw [h] at hp
    have hq := hq.1 h
    repeat' ((first | refine call_i hp ?_ |refine aops_go ?_|refine awp_go ?_|refine guard_tt ?_|refine guard_ff ?_|refine guard_tf ?_|refine guard_ft ?_|refine cond_t ?_|refine cond_f ?_|refine Z1 ?_|refine Z2 ?_|refine stp ?_|(refine And.intro ?_ ?_<;>intro h<;>try first|(exfalso;omega)|exact absurd rfl h)|refine Z3 ?_|refine Z4 ?_|intro el hel hbB|intro el hel|intro ex|refine Z5 ?_|(refine free_i ?_ ?_;exact ⟨by kernel_rfl,by decide⟩)|refine allI_c ?_ ?_|exact allI_n|refine allMP_c ?_ ?_|exact allMP_n|(refine many_step ?_ ?_ ?_;kernel_rfl;kernel_rfl)) <;> (try (conv => whnf)))
    all_goals first
      | exact ret_tmp rfl (congrArg AV.str (by simp))
      | trace_state
  · have h2 : w.isPrefixOf t = false := eq_false_of_ne_true h
    rw [if_neg h]
    rw [h2] at hp
    repeat' ((first | refine call_i hp ?_ |refine aops_go ?_|refine awp_go ?_|refine guard_tt ?_|refine guard_ff ?_|refine guard_tf ?_|refine guard_ft ?_|refine cond_t ?_|refine cond_f ?_|refine Z1 ?_|refine Z2 ?_|refine stp ?_|(refine And.intro ?_ ?_<;>intro h<;>try first|(exfalso;omega)|exact absurd rfl h)|refine Z3 ?_|refine Z4 ?_|intro el hel hbB|intro el hel|intro ex|refine Z5 ?_|(refine free_i ?_ ?_;exact ⟨by kernel_rfl,by decide⟩)|refine allI_c ?_ ?_|exact allI_n|refine allMP_c ?_ ?_|exact allMP_n|(refine many_step ?_ ?_ ?_;kernel_rfl;kernel_rfl)) <;> (try (conv => whnf)))
    all_goals first
      | exact ret_tmp rfl rfl
      | trace_state
set_option maxHeartbeats 2000000 in
theorem trimPrefix_call (t w : List UInt8) (ht : t.length ≤ 9223372036854775807) (hw : w.length ≤ 9223372036854775807) : FCall Tryz.prog 248 [.str t, .str w] (.str (cutS w t).1) := by
  have hp := trimPrefixL_call t w ht hw
  refine fcall_intro (n := 8) Tryz.func248 (by kernel_rfl) rfl rfl rfl rfl rfl (by intro t T h; cases h) (fun hrd E h0 => ?_)
  clear hrd
  repeat' ((first | refine call_i hp ?_ |refine aops_go ?_|refine awp_go ?_|refine guard_tt ?_|refine guard_ff ?_|refine guard_tf ?_|refine guard_ft ?_|refine cond_t ?_|refine cond_f ?_|refine Z1 ?_|refine Z2 ?_|refine stp ?_|(refine And.intro ?_ ?_<;>intro h<;>try first|(exfalso;omega)|exact absurd rfl h)|refine Z3 ?_|refine Z4 ?_|intro el hel hbB|intro el hel|intro ex|refine Z5 ?_|(refine free_i ?_ ?_;exact ⟨by kernel_rfl,by decide⟩)|refine allI_c ?_ ?_|exact allI_n|refine allMP_c ?_ ?_|exact allMP_n|(refine many_step ?_ ?_ ?_;kernel_rfl;kernel_rfl)) <;> (try (conv => whnf)))
  all_goals exact ret_tmp rfl rfl
/-- So far no space and no parenthesis. -/
def NAtt (t : List UInt8) (n : Nat) : Prop := n ≤ t.length ∧ ∀ i b, i < n → t[i]? = some b → isN b = true
theorem NAtt.step {t : List UInt8} {n : Nat} {b : UInt8} (h : NAtt t n) (hb : t[n]? = some b) (hw : isN b = true) : NAtt t (n + 1) := by
  refine ⟨by have := (List.getElem?_eq_some_iff.1 hb).1; omega, fun i c hi hc => ?_⟩
  by_cases e : i = n
  · subst e; rw [hb] at hc; cases hc; exact hw
  · exact h.2 i c (by omega) hc
theorem NAtt.ends {t : List UInt8} {n : Nat} {b : UInt8} (h : NAtt t n) (hb : t[n]? = some b) (hw : isN b = false) : t.takeWhile isN = t.take n :=
  (word_end (fun i c hi hc => h.2 i c hi hc) h.1 (fun c hc => by rw [hb] at hc; cases hc; exact hw)).1
theorem NAtt.all {t : List UInt8} {n : Nat} (h : NAtt t n) (hn : ¬ (n : Int) < t.length) : t.takeWhile isN = t.take n :=
  (word_end (fun i c hi hc => h.2 i c hi hc) h.1 (fun c hc => by have := (List.getElem?_eq_some_iff.1 hc).1; omega)).1
theorem isN_true {b : UInt8} (h1 : b.toNat ≠ 32) (h2 : b.toNat ≠ 40) (h3 : b.toNat ≠ 41) : isN b = true := decide_eq_true ⟨h1, h2, h3⟩
theorem isN_false {b : UInt8} (h : ¬ (b.toNat ≠ 32 ∧ b.toNat ≠ 40 ∧ b.toNat ≠ 41)) : isN b = false := decide_eq_false h
set_option maxHeartbeats 8000000 in
theorem rword_call (t : List UInt8) (ht : t.length ≤ 9223372036854775806) : FCall Tryz.prog 182 [.str t] (.str (t.takeWhile isN)) := by
  refine fcall_intro (n := 31) Tryz.func182 (by kernel_rfl) rfl rfl rfl rfl rfl (by intro t T h; cases h) (fun hrd E h0 => ?_)
  clear hrd
  repeat' ((first|refine aops_go ?_|refine awp_go ?_|refine guard_tt ?_|refine guard_ff ?_|refine guard_tf ?_|refine guard_ft ?_|refine cond_t ?_|refine cond_f ?_|refine Z1 ?_|refine Z2 ?_|refine stp ?_|(refine And.intro ?_ ?_<;>intro h<;>try first|(exfalso;omega)|exact absurd rfl h)|refine Z3 ?_|refine Z4 ?_|intro el hel hbB|intro el hel|intro ex|refine Z5 ?_|(refine free_i ?_ ?_;exact ⟨by kernel_rfl,by decide⟩)|refine allI_c ?_ ?_|exact allI_n|refine allMP_c ?_ ?_|exact allMP_n|(refine many_step ?_ ?_ ?_;kernel_rfl;kernel_rfl)) <;> (try (conv => whnf)))
  refine loop_i (ι := Nat) (fun n => ⟨[(0, .str t), (3, .i n)], 0, []⟩) (fun n => NAtt t n) (fun n => t.length - n) 0 ⟨Nat.zero_le _, fun i b hi => absurd hi (Nat.not_lt_zero _)⟩ (le_of h0 rfl ⟨rfl, rfl, trivial⟩ trivial rfl rfl rfl) (fun n hI => ?_)
  have hn := hI.1
  by_cases hlt : n < t.length
  · obtain ⟨b, hb⟩ : ∃ b, t[n]? = some b := ⟨_, List.getElem?_eq_getElem hlt⟩
    by_cases hw : b.toNat ≠ 32 ∧ b.toNat ≠ 40 ∧ b.toNat ≠ 41
    · repeat' ((first | (refine each_known (x := b) hb (by omega) ?_) |refine aops_go ?_|refine awp_go ?_|refine guard_tt ?_|refine guard_ff ?_|refine guard_tf ?_|refine guard_ft ?_|refine cond_t ?_|refine cond_f ?_|refine Z1 ?_|refine Z2 ?_|refine stp ?_|(refine And.intro ?_ ?_<;>intro h<;>try first|(exfalso;omega)|exact absurd rfl h)|refine Z3 ?_|refine Z4 ?_|intro el hel hbB|intro el hel|intro ex|refine Z5 ?_|(refine free_i ?_ ?_;exact ⟨by kernel_rfl,by decide⟩)|refine allI_c ?_ ?_|exact allI_n|refine allMP_c ?_ ?_|exact allMP_n|(refine many_step ?_ ?_ ?_;kernel_rfl;kernel_rfl)) <;> (try (conv => whnf)))
      all_goals first
        | exact ⟨n + 1, hI.step hb (decide_eq_true hw), by omega, le_of h0 rfl ⟨rfl, rfl, trivial⟩ trivial rfl rfl rfl⟩
        | (exfalso; omega)
        | trace_state
    · have e1 := hI.ends hb (isN_false hw)
      rw [e1]
      repeat' ((first | (refine each_known (x := b) hb (by omega) ?_) |refine aops_go ?_|refine awp_go ?_|refine guard_tt ?_|refine guard_ff ?_|refine guard_tf ?_|refine guard_ft ?_|refine cond_t ?_|refine cond_f ?_|refine Z1 ?_|refine Z2 ?_|refine stp ?_|(refine And.intro ?_ ?_<;>intro h<;>try first|(exfalso;omega)|exact absurd rfl h)|refine Z3 ?_|refine Z4 ?_|intro el hel hbB|intro el hel|intro ex|refine Z5 ?_|(refine free_i ?_ ?_;exact ⟨by kernel_rfl,by decide⟩)|refine allI_c ?_ ?_|exact allI_n|refine allMP_c ?_ ?_|exact allMP_n|(refine many_step ?_ ?_ ?_;kernel_rfl;kernel_rfl)) <;> (try (conv => whnf)))
      all_goals first
        | (exfalso; omega)
        | exact ret_tmp rfl (congrArg AV.str (by simp))
        | trace_state
  · have e1 := hI.all (by omega)
    rw [e1]
    repeat' ((first|refine aops_go ?_|refine awp_go ?_|refine guard_tt ?_|refine guard_ff ?_|refine guard_tf ?_|refine guard_ft ?_|refine cond_t ?_|refine cond_f ?_|refine Z1 ?_|refine Z2 ?_|refine stp ?_|(refine And.intro ?_ ?_<;>intro h<;>try first|(exfalso;omega)|exact absurd rfl h)|refine Z3 ?_|refine Z4 ?_|intro el hel hbB|intro el hel|intro ex|refine Z5 ?_|(refine free_i ?_ ?_;exact ⟨by kernel_rfl,by decide⟩)|refine allI_c ?_ ?_|exact allI_n|refine allMP_c ?_ ?_|exact allMP_n|(refine many_step ?_ ?_ ?_;kernel_rfl;kernel_rfl)) <;> (try (conv => whnf)))
    all_goals first
      | (exfalso; omega)
      | exact ret_tmp rfl (congrArg AV.str (by simp))
      | trace_state
theorem digB_true {b : UInt8} (h1 : 48 ≤ b.toNat) (h2 : b.toNat ≤ 57) : digB b = true := decide_eq_true ⟨h1, h2⟩
theorem dg_step {d : List UInt8} {k : Nat} {b : UInt8} (h : (d.take k).all digB = true) (hb : d[k]? = some b) (hd : digB b = true) : (d.take (k + 1)).all digB = true := by
  rw [takec hb, List.all_append, h]
  simp [hd]
theorem dg_not {d : List UInt8} {k : Nat} {b : UInt8} (hb : d[k]? = some b) (hd : digB b = false) : ¬ d.all digB = true := fun h => by
  rw [List.all_eq_true] at h
  rw [h b (List.mem_of_getElem? hb)] at hd
  cases hd
theorem wrap_dig : ∀ n : Fin 10, IntKind.i64.wrap (IntKind.u8.wrap (((48 + n.val : Nat) : Int) - 48)) = ((n.val : Nat) : Int) := by decide +kernel
theorem wrap_dg {b : Nat} (h1 : 48 ≤ b) (h2 : b ≤ 57) : IntKind.i64.wrap (IntKind.u8.wrap ((b : Int) - 48)) = ((b - 48 : Nat) : Int) := by
  have := wrap_dig ⟨b - 48, by omega⟩
  rwa [show 48 + (⟨b - 48, by omega⟩ : Fin 10).val = b by show 48 + (b - 48) = b; omega] at this
set_option maxHeartbeats 8000000 in
theorem rnumber_call (z : List UInt8) (hz : z.length ≤ 9223372036854775806) : FCall Tryz.prog 229 [.str z] (.tup [.i (numR z).1, .b (numR z).2]) := by
  have r1 := trimPrefix_call z [45] (by omega) (by decide)
  have hlen := cutS_len [45] z
  unfold numR
  generalize (cutS [45] z).1 = d at *
  have h15 : ∀ l : List UInt8, l.all digB = true → l.length ≤ 15 → (digV l : Int) < 1000000000000000 := fun l h hl => by
    have h1 := digV_lt h
    have h2 : 10 ^ l.length ≤ 10 ^ 15 := Nat.pow_le_pow_right (by decide) hl
    omega
  by_cases h1 : d.length < 1 ∨ 15 < d.length
  · rw [if_pos h1]
    refine fcall_intro (n := 53) Tryz.func229 (by kernel_rfl) rfl rfl rfl rfl rfl (by intro t T h; cases h) (fun hrd E h0 => ?_)
    clear hrd
    repeat' ((first | refine call_i r1 ?_ |refine aops_go ?_|refine awp_go ?_|refine guard_tt ?_|refine guard_ff ?_|refine guard_tf ?_|refine guard_ft ?_|refine cond_t ?_|refine cond_f ?_|refine Z1 ?_|refine Z2 ?_|refine stp ?_|(refine And.intro ?_ ?_<;>intro h<;>try first|(exfalso;omega)|exact absurd rfl h)|refine Z3 ?_|refine Z4 ?_|intro el hel hbB|intro el hel|intro ex|refine Z5 ?_|(refine free_i ?_ ?_;exact ⟨by kernel_rfl,by decide⟩)|refine allI_c ?_ ?_|exact allI_n|refine allMP_c ?_ ?_|exact allMP_n|(refine many_step ?_ ?_ ?_;kernel_rfl;kernel_rfl)) <;> (try (conv => whnf)))
    all_goals first
      | exact ret_tmp2 rfl rfl rfl
      | (exfalso; omega)
      | trace_state
  rw [if_neg h1]
  have ri := fun (n : Int) (h : -1000000000000000 < n) (h2 : n < 1000000000000000) => itoaI_call n (by omega) (by omega)
  refine fcall_intro (n := 53) Tryz.func229 (by kernel_rfl) rfl rfl rfl rfl rfl (by intro t T h; cases h) (fun hrd E h0 => ?_)
  clear hrd
  repeat' ((first | refine call_i r1 ?_ |refine aops_go ?_|refine awp_go ?_|refine guard_tt ?_|refine guard_ff ?_|refine guard_tf ?_|refine guard_ft ?_|refine cond_t ?_|refine cond_f ?_|refine Z1 ?_|refine Z2 ?_|refine stp ?_|(refine And.intro ?_ ?_<;>intro h<;>try first|(exfalso;omega)|exact absurd rfl h)|refine Z3 ?_|refine Z4 ?_|intro el hel hbB|intro el hel|intro ex|refine Z5 ?_|(refine free_i ?_ ?_;exact ⟨by kernel_rfl,by decide⟩)|refine allI_c ?_ ?_|exact allI_n|refine allMP_c ?_ ?_|exact allMP_n|(refine many_step ?_ ?_ ?_;kernel_rfl;kernel_rfl)) <;> (try (conv => whnf)))
  all_goals first
    | (exfalso; omega)
    | skip
  refine loop_i (ι := Nat) (fun k => ⟨[(0, .str z), (4, .str d), (5, .i (digV (d.take k))), (6, .i k)], 0, []⟩) (fun k => k ≤ d.length ∧ (d.take k).all digB = true) (fun k => d.length - k) 0 ⟨Nat.zero_le _, rfl⟩ (le_of h0 rfl ⟨rfl, rfl, rfl, rfl, trivial⟩ trivial rfl rfl rfl) (fun k hI => ?_)
  obtain ⟨hk, hI⟩ := hI
  have hb := h15 _ hI (by rw [List.length_take]; omega)
  by_cases hlt : k < d.length
  · obtain ⟨b, hbk⟩ : ∃ b, d[k]? = some b := ⟨_, List.getElem?_eq_getElem hlt⟩
    have hsn : digV (d.take (k + 1)) = 10 * digV (d.take k) + (b.toNat - 48) := by rw [takec hbk, digV_snoc]
    by_cases hd : 48 ≤ b.toNat ∧ b.toNat ≤ 57
    · have hst := dg_step hI hbk (digB_true hd.1 hd.2)
      clear h15 ri
      generalize digV (d.take k) = n at *
      have hwd := wrap_dg hd.1 hd.2
      repeat' (first | ((first | (refine each_known (x := b) hbk (by omega) ?_) |refine aops_go ?_|refine awp_go ?_|refine guard_tt ?_|refine guard_ff ?_|refine guard_tf ?_|refine guard_ft ?_|refine cond_t ?_|refine cond_f ?_|refine Z1 ?_|refine Z2 ?_|refine stp ?_|(refine And.intro ?_ ?_<;>intro h<;>try first|(exfalso;omega)|exact absurd rfl h)|refine Z3 ?_|refine Z4 ?_|intro el hel hbB|intro el hel|intro ex|refine Z5 ?_|(refine free_i ?_ ?_;exact ⟨by kernel_rfl,by decide⟩)|refine allI_c ?_ ?_|exact allI_n|refine allMP_c ?_ ?_|exact allMP_n|(refine many_step ?_ ?_ ?_;kernel_rfl;kernel_rfl)) <;> (try (conv => whnf))) | rw [hwd])
      all_goals first
        | exact ⟨k + 1, ⟨by omega, hst⟩, by omega, le_of h0 rfl ⟨rfl, rfl, congrArg (fun z : Int => some (AV.i z)) (by rw [hsn]; omega), rfl, trivial⟩ trivial rfl rfl rfl⟩
        | (exfalso; omega)
        | trace_state
    · have hno := dg_not hbk (decide_eq_false hd)
      rw [if_neg hno]
      repeat' ((first | (refine each_known (x := b) hbk (by omega) ?_) |refine aops_go ?_|refine awp_go ?_|refine guard_tt ?_|refine guard_ff ?_|refine guard_tf ?_|refine guard_ft ?_|refine cond_t ?_|refine cond_f ?_|refine Z1 ?_|refine Z2 ?_|refine stp ?_|(refine And.intro ?_ ?_<;>intro h<;>try first|(exfalso;omega)|exact absurd rfl h)|refine Z3 ?_|refine Z4 ?_|intro el hel hbB|intro el hel|intro ex|refine Z5 ?_|(refine free_i ?_ ?_;exact ⟨by kernel_rfl,by decide⟩)|refine allI_c ?_ ?_|exact allI_n|refine allMP_c ?_ ?_|exact allMP_n|(refine many_step ?_ ?_ ?_;kernel_rfl;kernel_rfl)) <;> (try (conv => whnf)))
      all_goals first
        | exact ret_tmp2 rfl rfl rfl
        | (exfalso; omega)
        | trace_state
  · obtain rfl : k = d.length := by omega
    rw [List.take_length] at *
    rw [if_pos hI]
    have r2 := ri (digV d) (by omega) (by omega)
    have r3 := ri (-(digV d : Int)) (by omega) (by omega)
    clear h15 ri
    generalize digV d = n at *
    repeat' ((first | refine call_i r2 ?_ | refine call_i r3 ?_ |refine aops_go ?_|refine awp_go ?_|refine guard_tt ?_|refine guard_ff ?_|refine guard_tf ?_|refine guard_ft ?_|refine cond_t ?_|refine cond_f ?_|refine Z1 ?_|refine Z2 ?_|refine stp ?_|(refine And.intro ?_ ?_<;>intro h<;>try first|(exfalso;omega)|exact absurd rfl h)|refine Z3 ?_|refine Z4 ?_|intro el hel hbB|intro el hel|intro ex|refine Z5 ?_|(refine free_i ?_ ?_;exact ⟨by kernel_rfl,by decide⟩)|refine allI_c ?_ ?_|exact allI_n|refine allMP_c ?_ ?_|exact allMP_n|(refine many_step ?_ ?_ ?_;kernel_rfl;kernel_rfl)) <;> (try (conv => whnf)))
    all_goals first
      | (rw [if_pos (by omega)]; exact ret_tmp2 rfl rfl rfl)
      | (rw [if_neg (by omega)]; exact ret_tmp2 rfl rfl rfl)
      | (exfalso; omega)
      | trace_state
end Go.Proofs.YtghlhejdfgkjaaaGreatDoor

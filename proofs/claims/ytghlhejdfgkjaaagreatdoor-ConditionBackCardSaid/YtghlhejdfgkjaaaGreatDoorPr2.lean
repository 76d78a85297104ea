/- Chapter 5: the reader's words and numbers. -/
import Derived.Test.YtghlhejdfgkjaaaGreatDoorPr1
import Derived.Test.YtghlhejdfgkjaaaGreatDoorSk
namespace Go.Proofs.YtghlhejdfgkjaaaGreatDoor
open Go Go.Av
attribute [local irreducible] AWp AOps AAny MAny DQ retQ retG St.le FCall GCall
set_option linter.unusedVariables false
set_option linter.unnecessarySimpa false
set_option linter.unusedSimpArgs false
set_option maxRecDepth 100000

theorem pref_iff {w t : List UInt8} : w.isPrefixOf t = true ↔ (w.length ≤ t.length ∧ t.take w.length = w) := by
  rw [List.isPrefixOf_iff_prefix]
  constructor
  · rintro ⟨r, rfl⟩; simp
  · rintro ⟨h1, h2⟩
    exact ⟨t.drop w.length, by conv => lhs; arg 1; rw [← h2]
                               exact List.take_append_drop _ _⟩
set_option maxHeartbeats 2000000 in
theorem hasPrefixL_call (t w : List UInt8) (ht : t.length ≤ 9223372036854775807) (hw : w.length ≤ 9223372036854775807) : FCall Tryz.prog 226 [.str t, .str w] (.b (w.isPrefixOf t)) := by
  have hp := pref_iff (w := w) (t := t)
  refine fcall_intro (n := 18) Tryz.func226 (by kernel_rfl) rfl rfl rfl rfl rfl (by intro t T h; cases h) (fun hrd E h0 => ?_)
  clear hrd
  repeat' ((first|refine aops_go ?_|refine awp_go ?_|refine guard_tt ?_|refine guard_ff ?_|refine guard_tf ?_|refine guard_ft ?_|refine cond_t ?_|refine cond_f ?_|refine Z1 ?_|refine Z2 ?_|refine stp ?_|(refine And.intro ?_ ?_<;>intro h<;>try first|(exfalso;omega)|exact absurd rfl h)|refine Z3 ?_|refine Z4 ?_|intro el hel hbB|intro el hel|intro ex|refine Z5 ?_|(refine free_i ?_ ?_;exact ⟨by kernel_rfl,by decide⟩)|refine allI_c ?_ ?_|exact allI_n|refine allMP_c ?_ ?_|exact allMP_n|(refine many_step ?_ ?_ ?_;kernel_rfl;kernel_rfl)) <;> (try (conv => whnf)))
  all_goals first
    | (refine ret_tmp rfl (congrArg AV.b (Bool.eq_iff_iff.2 ?_)); rw [hp]; simp only [decide_eq_true_iff, Bool.false_eq_true, false_iff]; omega)
    | (refine ret_tmp rfl (congrArg AV.b (Bool.eq_iff_iff.2 ?_)); rw [hp]; simp only [decide_eq_true_iff, Bool.false_eq_true, false_iff]; simp; omega)
    | (refine ret_tmp rfl (congrArg AV.b (Bool.eq_iff_iff.2 ?_)); rw [hp]; clear h0; trace_state)
set_option maxHeartbeats 2000000 in
theorem cutPrefixL_call (t w : List UInt8) (ht : t.length ≤ 9223372036854775807) (hw : w.length ≤ 9223372036854775807) : FCall Tryz.prog 222 [.str t, .str w] (.tup [.str (cutS w t).1, .b (cutS w t).2]) := by
  have hp := hasPrefixL_call t w ht hw
  have hq := pref_iff (w := w) (t := t)
  unfold cutS
  refine fcall_intro (n := 15) Tryz.func222 (by kernel_rfl) rfl rfl rfl rfl rfl (by intro t T h; cases h) (fun hrd E h0 => ?_)
  clear hrd
  by_cases h : w.isPrefixOf t = true
  · rw [if_pos h]
    rw [h] at hp
    have hq := hq.1 h
    repeat' ((first | refine call_i hp ?_ |refine aops_go ?_|refine awp_go ?_|refine guard_tt ?_|refine guard_ff ?_|refine guard_tf ?_|refine guard_ft ?_|refine cond_t ?_|refine cond_f ?_|refine Z1 ?_|refine Z2 ?_|refine stp ?_|(refine And.intro ?_ ?_<;>intro h<;>try first|(exfalso;omega)|exact absurd rfl h)|refine Z3 ?_|refine Z4 ?_|intro el hel hbB|intro el hel|intro ex|refine Z5 ?_|(refine free_i ?_ ?_;exact ⟨by kernel_rfl,by decide⟩)|refine allI_c ?_ ?_|exact allI_n|refine allMP_c ?_ ?_|exact allMP_n|(refine many_step ?_ ?_ ?_;kernel_rfl;kernel_rfl)) <;> (try (conv => whnf)))
    all_goals first
      | exact ret_tmp2 rfl rfl (congrArg (fun z => AV.tup [AV.str z, .b true]) (by simp))
      | trace_state
  · have h2 : w.isPrefixOf t = false := eq_false_of_ne_true h
    rw [if_neg h]
    rw [h2] at hp
    repeat' ((first | refine call_i hp ?_ |refine aops_go ?_|refine awp_go ?_|refine guard_tt ?_|refine guard_ff ?_|refine guard_tf ?_|refine guard_ft ?_|refine cond_t ?_|refine cond_f ?_|refine Z1 ?_|refine Z2 ?_|refine stp ?_|(refine And.intro ?_ ?_<;>intro h<;>try first|(exfalso;omega)|exact absurd rfl h)|refine Z3 ?_|refine Z4 ?_|intro el hel hbB|intro el hel|intro ex|refine Z5 ?_|(refine free_i ?_ ?_;exact ⟨by kernel_rfl,by decide⟩)|refine allI_c ?_ ?_|exact allI_n|refine allMP_c ?_ ?_|exact allMP_n|(refine many_step ?_ ?_ ?_;kernel_rfl;kernel_rfl)) <;> (try (conv => whnf)))
    all_goals first
      | exact ret_tmp2 rfl rfl rfl
      | trace_state
set_option maxHeartbeats 2000000 in
theorem cutPrefix_call (t w : List UInt8) (ht : t.length ≤ 9223372036854775807) (hw : w.length ≤ 9223372036854775807) : FCall Tryz.prog 176 [.str t, .str w] (.tup [.str (cutS w t).1, .b (cutS w t).2]) := by
  have hp := cutPrefixL_call t w ht hw
  refine fcall_intro (n := 11) Tryz.func176 (by kernel_rfl) rfl rfl rfl rfl rfl (by intro t T h; cases h) (fun hrd E h0 => ?_)
  clear hrd
  repeat' ((first | refine call_i hp ?_ |refine aops_go ?_|refine awp_go ?_|refine guard_tt ?_|refine guard_ff ?_|refine guard_tf ?_|refine guard_ft ?_|refine cond_t ?_|refine cond_f ?_|refine Z1 ?_|refine Z2 ?_|refine stp ?_|(refine And.intro ?_ ?_<;>intro h<;>try first|(exfalso;omega)|exact absurd rfl h)|refine Z3 ?_|refine Z4 ?_|intro el hel hbB|intro el hel|intro ex|refine Z5 ?_|(refine free_i ?_ ?_;exact ⟨by kernel_rfl,by decide⟩)|refine allI_c ?_ ?_|exact allI_n|refine allMP_c ?_ ?_|exact allMP_n|(refine many_step ?_ ?_ ?_;kernel_rfl;kernel_rfl)) <;> (try (conv => whnf)))
  all_goals exact ret_tmp2 rfl rfl rfl
/-- A reader: what is left of the text, and how many conditions it may still read. -/
abbrev rdB (s : Sch) (t : List UInt8) (left : Int) : Hp := [(0, some (.box [.sl 2 (s.lists.map clL), .sl 7 (s.cols.map colL), .str t, .i left]))]
set_option maxHeartbeats 2000000 in
theorem take_call (s : Sch) (t w : List UInt8) (left : Int) (ht : t.length ≤ 9223372036854775807) (hw : w.length ≤ 9223372036854775807) : GCall Tryz.prog 136 1 (rdB s t left) [.ref 0 0, .str w] 1 (rdB s (cutS w t).1 left) (.b (cutS w t).2) := by
  have hp := cutPrefix_call t w ht hw
  refine gcall_intro (n := 21) Tryz.func136 (by kernel_rfl) rfl rfl rfl rfl (fun E h0 => ?_)
  repeat' ((first | refine call_i hp ?_ |refine aops_go ?_|refine awp_go ?_|refine guard_tt ?_|refine guard_ff ?_|refine guard_tf ?_|refine guard_ft ?_|refine cond_t ?_|refine cond_f ?_|refine Z1 ?_|refine Z2 ?_|refine stp ?_|(refine And.intro ?_ ?_<;>intro h<;>try first|(exfalso;omega)|exact absurd rfl h)|refine Z3 ?_|refine Z4 ?_|intro el hel hbB|intro el hel|intro ex|refine Z5 ?_|(refine free_i ?_ ?_;exact ⟨by kernel_rfl,by decide⟩)|refine allI_c ?_ ?_|exact allI_n|refine allMP_c ?_ ?_|exact allMP_n|(refine many_step ?_ ?_ ?_;kernel_rfl;kernel_rfl)) <;> (try (conv => whnf)))
  all_goals exact retg_tmp (le_of h0 rfl ⟨rfl, trivial⟩ ⟨rfl, trivial⟩ rfl rfl rfl)
theorem isW_true {b : UInt8} (h : 97 ≤ b.toNat ∧ b.toNat ≤ 122 ∨ 48 ≤ b.toNat ∧ b.toNat ≤ 57 ∨ b.toNat = 95) : isW b = true := decide_eq_true h
theorem isW_false {b : UInt8} (h : ¬ (97 ≤ b.toNat ∧ b.toNat ≤ 122 ∨ 48 ≤ b.toNat ∧ b.toNat ≤ 57 ∨ b.toNat = 95)) : isW b = false := decide_eq_false h
/-- So far a word. -/
def WAtt (t : List UInt8) (n : Nat) : Prop := n ≤ t.length ∧ ∀ i b, i < n → t[i]? = some b → isW b = true
theorem WAtt.step {t : List UInt8} {n : Nat} {b : UInt8} (h : WAtt t n) (hb : t[n]? = some b) (hw : isW b = true) : WAtt t (n + 1) := by
  refine ⟨by have := (List.getElem?_eq_some_iff.1 hb).1; omega, fun i c hi hc => ?_⟩
  by_cases e : i = n
  · subst e; rw [hb] at hc; cases hc; exact hw
  · exact h.2 i c (by omega) hc
theorem WAtt.ends {t : List UInt8} {n : Nat} {b : UInt8} (h : WAtt t n) (hb : t[n]? = some b) (hw : isW b = false) : t.takeWhile isW = t.take n ∧ t.dropWhile isW = t.drop n :=
  word_end (fun i c hi hc => h.2 i c hi hc) h.1 (fun c hc => by rw [hb] at hc; cases hc; exact hw)
theorem WAtt.all {t : List UInt8} {n : Nat} (h : WAtt t n) (hn : ¬ (n : Int) < t.length) : t.takeWhile isW = t.take n ∧ t.dropWhile isW = t.drop n :=
  word_end (fun i c hi hc => h.2 i c hi hc) h.1 (fun c hc => by have := (List.getElem?_eq_some_iff.1 hc).1; omega)
set_option maxHeartbeats 8000000 in
theorem word_call (s : Sch) (t : List UInt8) (left : Int) (ht : t.length ≤ 9223372036854775806) : GCall Tryz.prog 138 1 (rdB s t left) [.ref 0 0] 1 (rdB s (t.dropWhile isW) left) (.str (t.takeWhile isW)) := by
  refine gcall_intro (n := 75) Tryz.func138 (by kernel_rfl) rfl rfl rfl rfl (fun E h0 => ?_)
  repeat' ((first|refine aops_go ?_|refine awp_go ?_|refine guard_tt ?_|refine guard_ff ?_|refine guard_tf ?_|refine guard_ft ?_|refine cond_t ?_|refine cond_f ?_|refine Z1 ?_|refine Z2 ?_|refine stp ?_|(refine And.intro ?_ ?_<;>intro h<;>try first|(exfalso;omega)|exact absurd rfl h)|refine Z3 ?_|refine Z4 ?_|intro el hel hbB|intro el hel|intro ex|refine Z5 ?_|(refine free_i ?_ ?_;exact ⟨by kernel_rfl,by decide⟩)|refine allI_c ?_ ?_|exact allI_n|refine allMP_c ?_ ?_|exact allMP_n|(refine many_step ?_ ?_ ?_;kernel_rfl;kernel_rfl)) <;> (try (conv => whnf)))
  refine loop_i (ι := Nat) (fun n => ⟨[(0, .ref 0 0), (3, .i n)], 1, rdB s t left⟩) (fun n => WAtt t n) (fun n => t.length - n) 0 ⟨Nat.zero_le _, fun i b hi => absurd hi (Nat.not_lt_zero _)⟩ (le_of h0 rfl ⟨rfl, rfl, trivial⟩ ⟨rfl, trivial⟩ rfl rfl rfl) (fun n hI => ?_)
  have hn := hI.1
  by_cases hlt : n < t.length
  · obtain ⟨b, hb⟩ : ∃ b, t[n]? = some b := ⟨_, List.getElem?_eq_getElem hlt⟩
    by_cases hw : 97 ≤ b.toNat ∧ b.toNat ≤ 122 ∨ 48 ≤ b.toNat ∧ b.toNat ≤ 57 ∨ b.toNat = 95
    · repeat' ((first | (refine each_known (x := b) hb (by omega) ?_) |refine aops_go ?_|refine awp_go ?_|refine guard_tt ?_|refine guard_ff ?_|refine guard_tf ?_|refine guard_ft ?_|refine cond_t ?_|refine cond_f ?_|refine Z1 ?_|refine Z2 ?_|refine stp ?_|(refine And.intro ?_ ?_<;>intro h<;>try first|(exfalso;omega)|exact absurd rfl h)|refine Z3 ?_|refine Z4 ?_|intro el hel hbB|intro el hel|intro ex|refine Z5 ?_|(refine free_i ?_ ?_;exact ⟨by kernel_rfl,by decide⟩)|refine allI_c ?_ ?_|exact allI_n|refine allMP_c ?_ ?_|exact allMP_n|(refine many_step ?_ ?_ ?_;kernel_rfl;kernel_rfl)) <;> (try (conv => whnf)))
      all_goals first
        | exact ⟨n + 1, hI.step hb (isW_true hw), by omega, le_of h0 rfl ⟨rfl, rfl, trivial⟩ ⟨rfl, trivial⟩ rfl rfl rfl⟩
        | (exfalso; omega)
        | trace_state
    · obtain ⟨e1, e2⟩ := hI.ends hb (isW_false hw)
      rw [e1, e2]
      repeat' ((first | (refine each_known (x := b) hb (by omega) ?_) |refine aops_go ?_|refine awp_go ?_|refine guard_tt ?_|refine guard_ff ?_|refine guard_tf ?_|refine guard_ft ?_|refine cond_t ?_|refine cond_f ?_|refine Z1 ?_|refine Z2 ?_|refine stp ?_|(refine And.intro ?_ ?_<;>intro h<;>try first|(exfalso;omega)|exact absurd rfl h)|refine Z3 ?_|refine Z4 ?_|intro el hel hbB|intro el hel|intro ex|refine Z5 ?_|(refine free_i ?_ ?_;exact ⟨by kernel_rfl,by decide⟩)|refine allI_c ?_ ?_|exact allI_n|refine allMP_c ?_ ?_|exact allMP_n|(refine many_step ?_ ?_ ?_;kernel_rfl;kernel_rfl)) <;> (try (conv => whnf)))
      all_goals first
        | (exfalso; omega)
        | exact retg_tmp (le_of h0 rfl ⟨congrArg (fun z => some (AV.str z)) (by simp), trivial⟩ ⟨congrArg (fun z => Blk.box [.sl 2 (s.lists.map clL), .sl 7 (s.cols.map colL), .str z, .i left]) (by simp), trivial⟩ rfl rfl rfl)
        | trace_state
  · obtain ⟨e1, e2⟩ := hI.all (by omega)
    rw [e1, e2]
    repeat' ((first|refine aops_go ?_|refine awp_go ?_|refine guard_tt ?_|refine guard_ff ?_|refine guard_tf ?_|refine guard_ft ?_|refine cond_t ?_|refine cond_f ?_|refine Z1 ?_|refine Z2 ?_|refine stp ?_|(refine And.intro ?_ ?_<;>intro h<;>try first|(exfalso;omega)|exact absurd rfl h)|refine Z3 ?_|refine Z4 ?_|intro el hel hbB|intro el hel|intro ex|refine Z5 ?_|(refine free_i ?_ ?_;exact ⟨by kernel_rfl,by decide⟩)|refine allI_c ?_ ?_|exact allI_n|refine allMP_c ?_ ?_|exact allMP_n|(refine many_step ?_ ?_ ?_;kernel_rfl;kernel_rfl)) <;> (try (conv => whnf)))
    all_goals first
      | (exfalso; omega)
      | exact retg_tmp (le_of h0 rfl ⟨congrArg (fun z => some (AV.str z)) (by simp), trivial⟩ ⟨congrArg (fun z => Blk.box [.sl 2 (s.lists.map clL), .sl 7 (s.cols.map colL), .str z, .i left]) (by simp), trivial⟩ rfl rfl rfl)
      | trace_state
end Go.Proofs.YtghlhejdfgkjaaaGreatDoor

/- Chapter 1: the reference's levels, ancestors, codes of a level. Chapter 1: the reference's ancestors, codes of a level, codes with a name. -/
import Derived.Test.YtepdcljecfibpaaGreatDoorQB4
import Derived.Test.YtepdcljecfibpaaGreatDoorQE3
namespace Go.Proofs.YtepdcljecfibpaaGreatDoor
open Go Go.Av
attribute [local irreducible] AWp AOps AAny DQ retQ retG St.le FCall GCall
set_option linter.unusedVariables false
set_option linter.unnecessarySimpa false
set_option linter.unusedSimpArgs false
theorem hasB_iff {nm : List UInt8} {cs : List Code} {code : Int} : hasB nm cs code = true ↔ 0 ≤ code ∧ code < cs.length ∧ chk nm cs = 0 := by
  simp [hasB, and_assoc]
theorem levelS_no {nm : List UInt8} {cs : List Code} {code : Int} (h : ¬ (0 ≤ code ∧ code < cs.length ∧ chk nm cs = 0)) : -1 = levelS nm cs code := by
  rw [levelS, if_neg (fun h2 => h (hasB_iff.1 h2))]
theorem levelS_yes {nm : List UInt8} {cs : List Code} {code : Int} (h : 0 ≤ code ∧ code < cs.length ∧ chk nm cs = 0) : (dep cs code.toNat : Int) = levelS nm cs code := by
  rw [levelS, if_pos (hasB_iff.2 h)]; rfl
set_option maxHeartbeats 2000000 in
theorem rlevel_call (nm : List UInt8) (cs : List Code) (code : Int) (hlen : cs.length ≤ 9223372036854775807) : FCall Tryz.prog 177 [lA nm cs, .i code] (.i (levelS nm cs code)) := by
  refine fcall_intro (n := 22) Tryz.func177 (by kernel_rfl) rfl rfl rfl rfl rfl (by intro t T h; cases h) (fun hrd E h0 => ?_)
  repeat' ((first | refine call_i (rcheck_call _ _ hlen) ?_ | (refine draw_q ?_ ?_; kernel_rfl) |refine aops_go ?_|refine awp_go ?_|refine guard_tt ?_|refine guard_ff ?_|refine guard_tf ?_|refine guard_ft ?_|refine cond_t ?_|refine cond_f ?_|refine Z1 ?_|refine Z2 ?_|refine stp ?_|(refine And.intro ?_ ?_<;>intro h<;>try first|(exfalso;omega)|exact absurd rfl h)|refine Z3 ?_|refine Z4 ?_|intro el hel hbB|intro el hel|intro ex|refine Z5 ?_|(refine free_i ?_ ?_;exact ⟨by kernel_rfl,by decide⟩)|refine allI_c ?_ ?_|exact allI_n|refine allMP_c ?_ ?_|exact allMP_n|(refine many_step ?_ ?_ ?_;kernel_rfl;kernel_rfl)) <;> (try (conv => whnf)))
  all_goals first
    | exact ret_tmp rfl (congrArg AV.i (levelS_no (by omega)))
    | skip
  have hg := (chk_good (nm := nm) (cs := cs) (by omega)).1
  obtain ⟨c, rfl⟩ := Int.eq_ofNat_of_zero_le (show 0 ≤ code by omega)
  rw [← levelS_yes (by omega)]
  repeat' ((first | refine call_i (depth_call _ _ _ _ hg hlen (dep_at (j := c) (by omega))) ?_ |refine aops_go ?_|refine awp_go ?_|refine guard_tt ?_|refine guard_ff ?_|refine guard_tf ?_|refine guard_ft ?_|refine cond_t ?_|refine cond_f ?_|refine Z1 ?_|refine Z2 ?_|refine stp ?_|(refine And.intro ?_ ?_<;>intro h<;>try first|(exfalso;omega)|exact absurd rfl h)|refine Z3 ?_|refine Z4 ?_|intro el hel hbB|intro el hel|intro ex|refine Z5 ?_|(refine free_i ?_ ?_;exact ⟨by kernel_rfl,by decide⟩)|refine allI_c ?_ ?_|exact allI_n|refine allMP_c ?_ ?_|exact allMP_n|(refine many_step ?_ ?_ ?_;kernel_rfl;kernel_rfl)) <;> (try (conv => whnf)))
  exact ret_tmp rfl rfl
theorem lv_all : ∀ (ps : List (Bool × Nat)) (l : Int), lv l ps = true → ∀ (i j : Nat) d e, ps[i]? = some (true, d) → ps[j]? = some (true, e) → d = e ∧ (0 ≤ l → (d : Int) = l)
  | [], l, _, i, j, d, e, h, _ => by simp at h
  | (lf, x) :: r, l, hl, i, j, d, e, hi, hj => by
    unfold lv at hl
    cases lf with
    | false =>
      simp only [Bool.false_eq_true, if_false] at hl
      cases i with
      | zero => simp at hi
      | succ i => cases j with
        | zero => simp at hj
        | succ j => exact lv_all r l hl i j d e (by simpa using hi) (by simpa using hj)
    | true =>
      simp only [if_true] at hl
      split at hl
      · cases hl
      · rename_i hx
        have first : ∀ (k : Nat) y, ((true, x) :: r)[k]? = some (true, y) → (y : Int) = x := by
          intro k y hk
          cases k with
          | zero => simp at hk; omega
          | succ k =>
            have hk' : r[k]? = some (true, y) := by simpa using hk
            exact (lv_all r x hl k k y y hk' hk').2 (by omega)
        have h1 := first i d hi
        have h2 := first j e hj
        exact ⟨by omega, fun h0 => by omega⟩
theorem chk_lv0 {nm : List UInt8} {cs : List Code} (h : chk nm cs = 0) : lv (-1) (pairs cs) = true := by
  unfold chk at h
  split at h
  · cases h
  · split at h
    · cases h
    · split at h
      · cases h
      · cases hs : scan [] cs with
        | some e =>
          rw [hs] at h
          have : ∀ (cs pre : List Code) e, scan pre cs = some e → e = 3 ∨ e = 10 ∨ e = 6 := by
            intro cs
            induction cs with
            | nil => intro pre e h; cases h
            | cons a r ih =>
              intro pre e h
              simp only [scan] at h
              split at h
              · cases h; exact .inl rfl
              · split at h
                · cases h; exact .inr (.inl rfl)
                · split at h
                  · cases h; exact .inr (.inr rfl)
                  · exact ih _ _ h
          have := this _ _ _ hs
          simp only at h
          omega
        | none =>
          rw [hs] at h
          simp only at h
          split at h
          · assumption
          · cases h
theorem leafB_iff {cs : List Code} {c : Int} : leafB cs c = true ↔ ∀ x ∈ cs, x.parent ≠ c := by
  simp [leafB, List.all_eq_true]
theorem last_leaf {cs : List Code} (hg : Good cs) (hn : 0 < cs.length) : leafB cs (cs.length - 1 : Nat) = true := by
  rw [leafB_iff]
  intro x hx
  obtain ⟨i, hi, rfl⟩ := List.getElem_of_mem hx
  rcases Nat.eq_zero_or_pos i with e | e
  · subst e
    have := hg.root _ (List.getElem?_eq_getElem hi)
    omega
  · have := hg.before i _ (List.getElem?_eq_getElem hi) e
    omega
theorem maxL_spec : ∀ (ds : List Nat) (a : Nat), (∃ d ∈ a :: ds, ds.foldl max a = d) ∧ ∀ d ∈ a :: ds, d ≤ ds.foldl max a
  | [], a => ⟨⟨a, by simp, rfl⟩, fun d hd => by simp at hd; subst hd; exact Nat.le_refl _⟩
  | x :: r, a => by
    obtain ⟨⟨d, hd, he⟩, hall⟩ := maxL_spec r (max a x)
    refine ⟨⟨d, ?_, he⟩, fun y hy => ?_⟩
    · rcases List.mem_cons.1 hd with h | h
      · rcases Nat.le_total a x with h2 | h2
        · rw [Nat.max_eq_right h2] at h; simp [h]
        · rw [Nat.max_eq_left h2] at h; simp [h]
      · simp [h]
    · have h1 := hall (max a x) (by simp)
      rcases List.mem_cons.1 hy with h | h
      · subst h; show _ ≤ List.foldl max (max y x) r; omega
      · rcases List.mem_cons.1 h with h | h
        · subst h; show _ ≤ List.foldl max (max a y) r; omega
        · exact hall y (by simp [h])
theorem maxL_ge {ds : List Nat} {i d : Nat} (h : ds[i]? = some d) : d ≤ maxL ds := (maxL_spec ds 0).2 d (by simp [List.mem_of_getElem? h])
theorem maxL_at {ds : List Nat} (h : 0 < ds.length) : ∃ i : Nat, ds[i]? = some (maxL ds) := by
  obtain ⟨⟨d, hd, he⟩, hall⟩ := maxL_spec ds 0
  have he : maxL ds = d := he
  rw [he]
  rcases List.mem_cons.1 hd with h2 | h2
  · subst h2
    refine ⟨0, ?_⟩
    have := hall ds[0] (by simp)
    have h3 : ds.foldl max 0 = 0 := he
    rw [List.getElem?_eq_getElem h]
    congr 1; omega
  · obtain ⟨i, hi, hh⟩ := List.getElem_of_mem h2
    exact ⟨i, by rw [List.getElem?_eq_getElem hi, hh]⟩
theorem deep_leaf {cs : List Code} (hg : Good cs) {i : Nat} (hi : i < cs.length) (hd : dep cs i = maxL (deps cs)) : leafB cs i = true := by
  rw [leafB_iff]
  intro x hx e
  obtain ⟨k, hk, rfl⟩ := List.getElem_of_mem hx
  have hk0 : 0 < k := by
    rcases Nat.eq_zero_or_pos k with e2 | e2
    · subst e2
      have := hg.root _ (List.getElem?_eq_getElem hk)
      omega
    · exact e2
  obtain ⟨h1, h2, h3⟩ := dep_par hg.before (List.getElem?_eq_getElem hk) hk0
  have : par cs k = i := by omega
  rw [this] at h1
  have := maxL_ge (dep_at hk)
  omega
theorem leaf_deep {nm : List UInt8} {cs : List Code} (h : chk nm cs = 0) {i : Nat} (hi : i < cs.length) (hl : leafB cs i = true) : dep cs i = maxL (deps cs) := by
  obtain ⟨hg, hn, _⟩ := chk_good h
  obtain ⟨m, hm⟩ := maxL_at (ds := deps cs) (by rw [deps_length]; exact hn)
  have hml : m < cs.length := by rw [← deps_length cs]; exact (List.getElem?_eq_some_iff.1 hm).1
  have hmd := dep_get hm
  have hlm := deep_leaf hg hml hmd
  have p1 := pairs_at (dep_at hi)
  have p2 := pairs_at (dep_at hml)
  rw [hl] at p1
  rw [hlm] at p2
  rw [← hmd]
  exact (lv_all _ _ (chk_lv0 h) _ _ _ _ p1 p2).1
theorem last_max {nm : List UInt8} {cs : List Code} (h : chk nm cs = 0) : dep cs (cs.length - 1) = maxL (deps cs) := by
  obtain ⟨hg, hn, _⟩ := chk_good h
  exact leaf_deep h (by omega) (last_leaf hg hn)
set_option maxHeartbeats 2000000 in
theorem rlevels_call (nm : List UInt8) (cs : List Code) (hlen : cs.length ≤ 9223372036854775807) : FCall Tryz.prog 40 [lA nm cs] (.i (levelsS nm cs)) := by
  refine fcall_intro (n := 13) Tryz.func40 (by kernel_rfl) rfl rfl rfl rfl rfl (by intro t T h; cases h) (fun hrd E h0 => ?_)
  repeat' ((first | refine call_i (rcheck_call _ _ hlen) ?_ |refine aops_go ?_|refine awp_go ?_|refine guard_tt ?_|refine guard_ff ?_|refine guard_tf ?_|refine guard_ft ?_|refine cond_t ?_|refine cond_f ?_|refine Z1 ?_|refine Z2 ?_|refine stp ?_|(refine And.intro ?_ ?_<;>intro h<;>try first|(exfalso;omega)|exact absurd rfl h)|refine Z3 ?_|refine Z4 ?_|intro el hel hbB|intro el hel|intro ex|refine Z5 ?_|(refine free_i ?_ ?_;exact ⟨by kernel_rfl,by decide⟩)|refine allI_c ?_ ?_|exact allI_n|refine allMP_c ?_ ?_|exact allMP_n|(refine many_step ?_ ?_ ?_;kernel_rfl;kernel_rfl)) <;> (try (conv => whnf)))
  · exact ret_tmp rfl (congrArg AV.i (by rw [levelsS, if_neg h]))
  have hc : chk nm cs = 0 := by omega
  have h60 := good60 hc
  obtain ⟨hg, hn, _⟩ := chk_good hc
  have hd := deps_max hg.before
  have hl := last_max hc
  have e : ((cs.length : Int) - 1) = ((cs.length - 1 : Nat) : Int) := by omega
  repeat' ((first | refine call_i (args := [lA nm cs, .i ((cs.length : Int) - 1)]) (by rw [e]; exact depth_call _ _ _ _ hg hlen (dep_at (j := cs.length - 1) (by omega))) ?_ |refine aops_go ?_|refine awp_go ?_|refine guard_tt ?_|refine guard_ff ?_|refine guard_tf ?_|refine guard_ft ?_|refine cond_t ?_|refine cond_f ?_|refine Z1 ?_|refine Z2 ?_|refine stp ?_|(refine And.intro ?_ ?_<;>intro h<;>try first|(exfalso;omega)|exact absurd rfl h)|refine Z3 ?_|refine Z4 ?_|intro el hel hbB|intro el hel|intro ex|refine Z5 ?_|(refine free_i ?_ ?_;exact ⟨by kernel_rfl,by decide⟩)|refine allI_c ?_ ?_|exact allI_n|refine allMP_c ?_ ?_|exact allMP_n|(refine many_step ?_ ?_ ?_;kernel_rfl;kernel_rfl)) <;> (try (conv => whnf)))
  exact ret_tmp rfl (congrArg AV.i (by rw [levelsS, if_pos hc, hl]))
theorem upS_no {nm : List UInt8} {cs : List Code} {code level : Int} (h : ¬ (0 ≤ code ∧ code < cs.length ∧ chk nm cs = 0 ∧ 0 ≤ level ∧ level ≤ dep cs code.toNat)) : -1 = upS nm cs code level := by
  rw [upS, if_neg (fun h2 => h (by have := hasB_iff.1 h2.1; omega))]
theorem upS_yes {nm : List UInt8} {cs : List Code} {c : Nat} {level : Int} (h : c < cs.length ∧ chk nm cs = 0 ∧ 0 ≤ level ∧ level ≤ dep cs c) : (upN cs c (dep cs c - level.toNat) : Int) = upS nm cs c level := by
  rw [upS, if_pos ⟨hasB_iff.2 ⟨by omega, by omega, h.2.1⟩, h.2.2.1, by rw [Int.toNat_natCast]; exact h.2.2.2⟩, Int.toNat_natCast]
set_option maxHeartbeats 4000000 in
theorem rup_call (nm : List UInt8) (cs : List Code) (code level : Int) (hlen : cs.length ≤ 9223372036854775807) : FCall Tryz.prog 173 [lA nm cs, .i code, .i level] (.i (upS nm cs code level)) := by
  refine fcall_intro (n := 44) Tryz.func173 (by kernel_rfl) rfl rfl rfl rfl rfl (by intro t T h; cases h) (fun hrd E h0 => ?_)
  repeat' ((first | refine call_i (rcheck_call _ _ hlen) ?_ | (refine draw_q ?_ ?_; kernel_rfl) | refine call_i (args := [lA nm cs, .i code]) (by rw [show code = ((code.toNat : Nat) : Int) by omega]; exact depth_call _ _ _ _ (chk_good (nm := nm) (cs := cs) (by omega)).1 hlen (dep_at (j := code.toNat) (by omega))) ?_ |refine aops_go ?_|refine awp_go ?_|refine guard_tt ?_|refine guard_ff ?_|refine guard_tf ?_|refine guard_ft ?_|refine cond_t ?_|refine cond_f ?_|refine Z1 ?_|refine Z2 ?_|refine stp ?_|(refine And.intro ?_ ?_<;>intro h<;>try first|(exfalso;omega)|exact absurd rfl h)|refine Z3 ?_|refine Z4 ?_|intro el hel hbB|intro el hel|intro ex|refine Z5 ?_|(refine free_i ?_ ?_;exact ⟨by kernel_rfl,by decide⟩)|refine allI_c ?_ ?_|exact allI_n|refine allMP_c ?_ ?_|exact allMP_n|(refine many_step ?_ ?_ ?_;kernel_rfl;kernel_rfl)) <;> (try (conv => whnf)))
  all_goals first
    | exact ret_tmp rfl (congrArg AV.i (upS_no (by omega)))
    | skip
  have hc : chk nm cs = 0 := by omega
  have h60 := good60 hc
  obtain ⟨c0, rfl⟩ := Int.eq_ofNat_of_zero_le (show 0 ≤ code by omega)
  have hg := (chk_good hc).1
  have hb := hg.before
  have hdl : (level : Int) ≤ dep cs c0 := by
    simp only [Int.toNat_natCast] at *
    omega
  rw [← upS_yes (c := c0) (by omega)]
  have hlv : 0 ≤ level := by omega
  have hcl : c0 < cs.length := by omega
  refine loop_i (ι := Nat) (fun c => ⟨[(1, .i c), (2, .i level), (3, .ref 0 0)], 1, [(0, some (.box [.str nm, .sl 2 (cs.map cA)]))]⟩)
    (fun c => c < cs.length ∧ level ≤ dep cs c ∧ upN cs c0 (dep cs c0 - level.toNat) = upN cs c (dep cs c - level.toNat)) (fun c => c) c0 ⟨hcl, hdl, rfl⟩ (le_of h0 rfl ⟨rfl, rfl, rfl, trivial⟩ ⟨rfl, trivial⟩ rfl rfl rfl) (fun c hI => ?_)
  obtain ⟨h1, h2, h3⟩ := hI
  repeat' ((first | refine call_i (depth_call _ _ _ _ hg hlen (dep_at (j := c) (by omega))) ?_ |refine aops_go ?_|refine awp_go ?_|refine guard_tt ?_|refine guard_ff ?_|refine guard_tf ?_|refine guard_ft ?_|refine cond_t ?_|refine cond_f ?_|refine Z1 ?_|refine Z2 ?_|refine stp ?_|(refine And.intro ?_ ?_<;>intro h<;>try first|(exfalso;omega)|exact absurd rfl h)|refine Z3 ?_|refine Z4 ?_|intro el hel hbB|intro el hel|intro ex|refine Z5 ?_|(refine free_i ?_ ?_;exact ⟨by kernel_rfl,by decide⟩)|refine allI_c ?_ ?_|exact allI_n|refine allMP_c ?_ ?_|exact allMP_n|(refine many_step ?_ ?_ ?_;kernel_rfl;kernel_rfl)) <;> (try (conv => whnf)))
  · have hc0' : 0 < c := by
      rcases Nat.eq_zero_or_pos c with e | e
      · subst e; rw [dep_zero hb hel] at *; omega
      · exact e
    obtain ⟨e1, e2, e3⟩ := dep_par hb hel hc0'
    have e4 : dep cs c - level.toNat = (dep cs (par cs c) - level.toNat) + 1 := by omega
    exact ⟨par cs c, ⟨by omega, by omega, by rw [h3, e4]; rfl⟩, e2, le_of h0 rfl ⟨congrArg (fun z : Int => some (AV.i z)) e3.symm, rfl, rfl, trivial⟩ ⟨rfl, trivial⟩ rfl rfl rfl⟩
  · refine ret_tmp rfl (congrArg AV.i ?_)
    rw [h3, show dep cs c - level.toNat = 0 by omega]
    rfl
theorem levelS_eq {nm : List UInt8} {cs : List Code} {code : Int} : levelS nm cs code = if hasB nm cs code = true then (dep cs code.toNat : Int) else -1 := rfl
theorem under_n {nm : List UInt8} {cs : List Code} {code above : Int} (h : ¬ (0 ≤ levelS nm cs above)) : false = underS nm cs code above := by
  have : hasB nm cs above = false := by
    rw [levelS_eq] at h
    split at h
    · omega
    · rename_i h2; simpa using h2
  simp [underS, this]
theorem under_c {nm : List UInt8} {cs : List Code} {code above : Int} (h : 0 ≤ levelS nm cs above) (h2 : ¬ levelS nm cs above ≤ levelS nm cs code) : false = underS nm cs code above := by
  rw [levelS_eq, levelS_eq] at *
  by_cases ha : hasB nm cs above = true
  · rw [if_pos ha] at h h2
    by_cases hc : hasB nm cs code = true
    · rw [if_pos hc] at h2
      have : upS nm cs code (dep cs above.toNat) = -1 := by rw [upS, if_neg (by omega)]
      have ha2 := hasB_iff.1 ha
      simp only [underS, ha, hc, this, Bool.true_and]
      exact (decide_eq_false (by omega)).symm
    · have : hasB nm cs code = false := by simpa using hc
      simp [underS, this]
  · rw [if_neg ha] at h; omega
theorem under_e {nm : List UInt8} {cs : List Code} {code above : Int} (h : 0 ≤ levelS nm cs above) (h2 : levelS nm cs above ≤ levelS nm cs code) : decide (upS nm cs code (levelS nm cs above) = above) = underS nm cs code above := by
  rw [levelS_eq] at h
  by_cases ha : hasB nm cs above = true
  · have e : levelS nm cs above = dep cs above.toNat := by rw [levelS_eq, if_pos ha]
    rw [e] at h2
    rw [levelS_eq] at h2
    by_cases hc : hasB nm cs code = true
    · simp only [underS, ha, hc, e, Bool.true_and]
    · rw [if_neg hc] at h2; omega
  · rw [if_neg ha] at h; omega
-- IF dataenclave/dataenclaveref01.Under
set_option maxHeartbeats 2000000 in
theorem runder_call (nm : List UInt8) (cs : List Code) (code above : Int) (hlen : cs.length ≤ 9223372036854775807) : FCall Tryz.prog 176 [lA nm cs, .i code, .i above] (.b (underS nm cs code above)) := by
  refine fcall_intro (n := 28) Tryz.func176 (by kernel_rfl) rfl rfl rfl rfl rfl (by intro t T h; cases h) (fun hrd E h0 => ?_)
  repeat' ((first | refine call_i (rlevel_call _ _ _ hlen) ?_ | refine call_i (rup_call _ _ _ _ hlen) ?_ | (refine draw_q ?_ ?_; kernel_rfl) |refine aops_go ?_|refine awp_go ?_|refine guard_tt ?_|refine guard_ff ?_|refine guard_tf ?_|refine guard_ft ?_|refine cond_t ?_|refine cond_f ?_|refine Z1 ?_|refine Z2 ?_|refine stp ?_|(refine And.intro ?_ ?_<;>intro h<;>try first|(exfalso;omega)|exact absurd rfl h)|refine Z3 ?_|refine Z4 ?_|intro el hel hbB|intro el hel|intro ex|refine Z5 ?_|(refine free_i ?_ ?_;exact ⟨by kernel_rfl,by decide⟩)|refine allI_c ?_ ?_|exact allI_n|refine allMP_c ?_ ?_|exact allMP_n|(refine many_step ?_ ?_ ?_;kernel_rfl;kernel_rfl)) <;> (try (conv => whnf)))
  all_goals first
    | exact ret_tmp rfl (congrArg AV.b (under_n (by assumption)))
    | exact ret_tmp rfl (congrArg AV.b (under_c (by assumption) (by assumption)))
    | exact ret_tmp rfl (congrArg AV.b (under_e (by assumption) (by assumption)))
set_option maxHeartbeats 2000000 in
theorem rat_call (nm : List UInt8) (cs : List Code) (level : Int) (hlen : cs.length ≤ 9223372036854775807) : FCall Tryz.prog 171 [lA nm cs, .i level] (.sl 1 ((atS nm cs level).map iA)) := by
  refine fcall_intro (n := 27) Tryz.func171 (by kernel_rfl) rfl rfl rfl rfl rfl (by intro t T h; cases h) (fun hrd E h0 => ?_)
  repeat' ((first | refine call_i (rcheck_call _ _ hlen) ?_ |refine aops_go ?_|refine awp_go ?_|refine guard_tt ?_|refine guard_ff ?_|refine guard_tf ?_|refine guard_ft ?_|refine cond_t ?_|refine cond_f ?_|refine Z1 ?_|refine Z2 ?_|refine stp ?_|(refine And.intro ?_ ?_<;>intro h<;>try first|(exfalso;omega)|exact absurd rfl h)|refine Z3 ?_|refine Z4 ?_|intro el hel hbB|intro el hel|intro ex|refine Z5 ?_|(refine free_i ?_ ?_;exact ⟨by kernel_rfl,by decide⟩)|refine allI_c ?_ ?_|exact allI_n|refine allMP_c ?_ ?_|exact allMP_n|(refine many_step ?_ ?_ ?_;kernel_rfl;kernel_rfl)) <;> (try (conv => whnf)))
  case refine_1 => exact ret_nil (sz := 1) rfl (by rw [atS, if_neg h]; rfl)
  have hc : chk nm cs = 0 := by omega
  have h60 := good60 hc
  have hg := (chk_good hc).1
  rw [atS, if_pos hc]
  refine loop_i (ι := Nat) (fun k => ⟨[(1, .i level), (2, .ref 0 0), (5, .row 1 0 (atK cs level k).length), (6, .i k)], 2, [(0, some (.box [.str nm, .sl 2 (cs.map cA)])), (1, some (.row 3 1 0 ((atK cs level k).map iA)))]⟩) (fun k => k ≤ cs.length) (fun k => cs.length - k) 0 (Nat.zero_le _) (le_trans (le_adopt (d := 5) (e := 3) (sz := 1) rfl) (le_of h0 rfl ⟨rfl, rfl, rfl, rfl, trivial⟩ ⟨rfl, ⟨0, rfl⟩, trivial⟩ rfl rfl rfl)) (fun k hI => ?_)
  have hal := atK_le cs level k
  repeat' ((first | refine call_i (depth_call _ _ _ _ hg hlen (dep_at (j := k) (by omega))) ?_ |refine aops_go ?_|refine awp_go ?_|refine guard_tt ?_|refine guard_ff ?_|refine guard_tf ?_|refine guard_ft ?_|refine cond_t ?_|refine cond_f ?_|refine Z1 ?_|refine Z2 ?_|refine stp ?_|(refine And.intro ?_ ?_<;>intro h<;>try first|(exfalso;omega)|exact absurd rfl h)|refine Z3 ?_|refine Z4 ?_|intro el hel hbB|intro el hel|intro ex|refine Z5 ?_|(refine free_i ?_ ?_;exact ⟨by kernel_rfl,by decide⟩)|refine allI_c ?_ ?_|exact allI_n|refine allMP_c ?_ ?_|exact allMP_n|(refine many_step ?_ ?_ ?_;kernel_rfl;kernel_rfl)) <;> (try (conv => whnf)))
  · refine ⟨k + 1, ?_, ?_, le_of h0 rfl ⟨rfl, rfl, congrArg (fun z => some (AV.row 1 0 z)) ?_, rfl, trivial⟩ ⟨rfl, ⟨0, congrArg (Blk.row 3 1 0) ?_⟩, trivial⟩ rfl rfl rfl⟩
    · omega
    · omega
    · rw [atK_yes h, List.length_append]; rfl
    · rw [atK_yes h, List.map_append]; rfl
  · refine ⟨k + 1, ?_, ?_, le_of h0 rfl ⟨rfl, rfl, congrArg (fun z => some (AV.row 1 0 z)) ?_, rfl, trivial⟩ ⟨rfl, ⟨0, congrArg (Blk.row 3 1 0) ?_⟩, trivial⟩ rfl rfl rfl⟩
    · omega
    · omega
    · rw [atK_no h]
    · rw [atK_no h]
  · apply ret_tmp
    · rfl
    · rw [show cs.length = k by omega]
      rfl
end Go.Proofs.YtepdcljecfibpaaGreatDoor

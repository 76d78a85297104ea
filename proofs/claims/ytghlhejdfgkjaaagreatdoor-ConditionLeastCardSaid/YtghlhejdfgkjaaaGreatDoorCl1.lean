/- Chapter 5: a level that does not suffice has two values that are the same there and have different truth values. -/
import Derived.Test.YtghlhejdfgkjaaaGreatDoorCA
import Derived.Test.YtghlhejdfgkjaaaGreatDoorCe7
namespace Go.Proofs.YtghlhejdfgkjaaaGreatDoor
open Go Go.Av
attribute [local irreducible] AWp AOps AAny MAny DQ retQ retG St.le FCall GCall
set_option linter.unusedVariables false
set_option linter.unnecessarySimpa false
set_option linter.unusedSimpArgs false
set_option maxRecDepth 100000

theorem downS_pred {b w : Int} (hw : 1 ≤ w) (h : b.tmod w ≠ 0) : downS (b - 1) w = downS b w := by
  have h1 : ¬ downS b w = b := fun e => h ((tmod_zero hw).2 e)
  unfold downS at h1 ⊢
  have d1 := Int.mul_ediv_add_emod b w
  have h2 := Int.emod_nonneg b (show w ≠ 0 by omega)
  have h3 := Int.emod_lt_of_pos b (show 0 < w by omega)
  have e : (b - 1) % w = b % w - 1 := by
    rw [show b - 1 = (b % w - 1) + w * (b / w) by omega, Int.add_mul_emod_self_left]
    exact Int.emod_eq_of_lt (by omega) (by omega)
  omega
theorem suf_apart {s : Sch} (hd : Drawn s) {a : Cnd} (ha : conE s a = 0) (ho : a.op = 3 ∨ a.op = 4) {c : Col} (hc : s.cols[a.col.toNat]? = some c) {m n : Nat} (hn : finestS s a.col = n) (hm : m ≤ n) (hs : sufS s a m = false) : ∃ u v, ValM c u ∧ ValM c v ∧ coaS s a.col m u = coaS s a.col m v ∧ atomS s a u ≠ atomS s a v := by
  have hr := hd.ok
  obtain ⟨x, hx, c1, c2, q2, q3, q4, q5⟩ := atom_col hr ha (by omega)
  rw [hc] at hx
  cases hx
  have hca := colAt_get hc
  have hco : ∀ w, coaS s a.col m w = coaC s c m w := fun w => by
    unfold coaS
    rw [hn, if_neg (by omega), hca]
  have h2 : ¬ a.op = 2 := by omega
  obtain ⟨hk, hme, hf⟩ := q3 h2
  obtain ⟨nm, hM⟩ : ∃ nm, MeaOk c nm := by
    have hc' : s.cols[a.col.toNat]? = some c := hc
    rcases hd.col hc' with ⟨_, rfl⟩ | ⟨_, rfl | rfl⟩ | ⟨_, h⟩
    · cases hk
    · cases hk
    · cases hk
    · exact h
  have hlow := hM.low
  have hhigh := hM.high
  have hmn : m ≤ c.widths.length := by
    have : finestS s a.col = finS s a.col := by rw [finestS, if_pos hr]
    omega
  have vlow : ValM c c.low := .inl ⟨Int.le_refl _, hhigh.1⟩
  have at3 : ∀ v, a.op = 3 → v ≠ (-1099511627776) → atomS s a v = truS (decide (a.lo ≤ v ∧ v ≤ a.hi)) := fun v h hv => by
    unfold atomS
    rw [if_neg h2, if_neg (by omega), if_neg hv]
  have tf : truS true ≠ truS false := by decide
  have two : ∀ u v, a.op = 3 → ValM c u → ValM c v → u ≠ (-1099511627776) → v ≠ (-1099511627776) → coaC s c m u = coaC s c m v → (a.lo ≤ u ∧ u ≤ a.hi) → ¬ (a.lo ≤ v ∧ v ≤ a.hi) → ∃ u v, ValM c u ∧ ValM c v ∧ coaS s a.col m u = coaS s a.col m v ∧ atomS s a u ≠ atomS s a v := fun u v h hu hv gu gv e t1 t2 => by
    refine ⟨u, v, hu, hv, by rw [hco, hco, e], ?_⟩
    rw [at3 u h gu, at3 v h gv, decide_eq_true t1, decide_eq_false t2]
    exact tf
  by_cases h4 : a.op = 4
  · rw [sufS_mis h4] at hs
    have hm0 : ¬ (0 : Int) < m := of_decide_eq_false hs
    have hopt := q5 h4
    refine ⟨(-1099511627776), c.low, .inr ⟨hopt, rfl⟩, vlow, ?_, ?_⟩
    · rw [hco, hco, coaC_mea hM (.inr ⟨hopt, rfl⟩), coaC_mea hM vlow, if_pos (by omega), if_pos (by omega)]
    · unfold atomS
      rw [if_neg h2, if_neg h2, if_pos h4, if_pos h4, decide_eq_true rfl, decide_eq_false (by omega)]
      exact tf
  · have h3 : a.op = 3 := by omega
    have hlh := (q4 h3).1
    rw [sufS_mea h3 hc] at hs
    have hs := of_decide_eq_false hs
    unfold sufM at hs
    by_cases hm0 : (m : Int) = 0
    · rw [if_pos hm0] at hs
      have zero : ∀ u v, ValM c u → ValM c v → coaC s c m u = coaC s c m v := fun u v hu hv => by
        rw [coaC_mea hM hu, coaC_mea hM hv, if_pos hm0, if_pos hm0]
      by_cases hopt : c.opt = true
      · refine ⟨(-1099511627776), c.low, .inr ⟨hopt, rfl⟩, vlow, by rw [hco, hco, zero _ _ (.inr ⟨hopt, rfl⟩) vlow], ?_⟩
        rw [at3 c.low h3 (by omega)]
        unfold atomS
        rw [if_neg h2, if_neg h4, if_pos rfl]
        cases decide (a.lo ≤ c.low ∧ c.low ≤ a.hi) <;> decide
      · by_cases h1 : c.low < a.lo ∧ a.lo ≤ c.high
        · have v1 : ValM c a.lo := .inl ⟨by omega, by omega⟩
          have v2 : ValM c (a.lo - 1) := .inl ⟨by omega, by omega⟩
          exact two _ _ h3 v1 v2 (by omega) (by omega) (zero _ _ v1 v2) ⟨by omega, hlh⟩ (by omega)
        · by_cases h5 : c.low ≤ a.hi ∧ a.hi < c.high
          · have v1 : ValM c a.hi := .inl ⟨by omega, by omega⟩
            have v2 : ValM c (a.hi + 1) := .inl ⟨by omega, by omega⟩
            exact two _ _ h3 v1 v2 (by omega) (by omega) (zero _ _ v1 v2) ⟨hlh, by omega⟩ (by omega)
          · exact absurd ⟨by simpa using hopt, h1, h5⟩ hs
    · rw [if_neg hm0] at hs
      obtain ⟨hw, _, _⟩ := wid_two hM (a := m) (b := m) (by omega) (Nat.le_refl _) hmn
      by_cases h1 : (c.low < a.lo ∧ a.lo ≤ c.high) ∧ ¬ a.lo.tmod (widthS c m) = 0
      · have v1 : ValM c a.lo := .inl ⟨by omega, by omega⟩
        have v2 : ValM c (a.lo - 1) := .inl ⟨by omega, by omega⟩
        refine two _ _ h3 v1 v2 (by omega) (by omega) ?_ ⟨by omega, hlh⟩ (by omega)
        rw [coaC_mea hM v1, coaC_mea hM v2, if_neg hm0, if_neg hm0, if_neg (by omega), if_neg (by omega), downS_pred hw.1 h1.2]
      · by_cases h5 : (c.low ≤ a.hi ∧ a.hi < c.high) ∧ ¬ (a.hi + 1).tmod (widthS c m) = 0
        · have v1 : ValM c a.hi := .inl ⟨by omega, by omega⟩
          have v2 : ValM c (a.hi + 1) := .inl ⟨by omega, by omega⟩
          refine two _ _ h3 v1 v2 (by omega) (by omega) ?_ ⟨hlh, by omega⟩ (by omega)
          have := downS_pred hw.1 h5.2
          rw [show a.hi + 1 - 1 = a.hi by omega] at this
          rw [coaC_mea hM v1, coaC_mea hM v2, if_neg hm0, if_neg hm0, if_neg (by omega), if_neg (by omega), this]
        · exact absurd ⟨fun g => Decidable.of_not_not fun h => h1 ⟨g, h⟩, fun g => Decidable.of_not_not fun h => h5 ⟨g, h⟩⟩ hs
/-- Whether a level suffices is told by trying all values of the column. -/
theorem suf_div {s : Sch} (hd : Drawn s) {a : Cnd} (ha : conE s a = 0) (ho : a.op = 2 ∨ a.op = 3 ∨ a.op = 4) {c : Col} (hc : s.cols[a.col.toNat]? = some c) {m : Nat} (hm : (m : Int) ≤ finS s a.col) : divB (atomS s a) (coaS s a.col m) (allC s c) = sufS s a m := by
  have hr := hd.ok
  have hfe : finestS s a.col = finS s a.col := by rw [finestS, if_pos hr]
  obtain ⟨x, hx, c1, c2, q2, q3, _, _⟩ := atom_col hr ha ho
  rw [hc] at hx
  cases hx
  by_cases h2 : a.op = 2
  · obtain ⟨hk, _⟩ := q2 h2
    rw [suf_divB hr ha h2 (by omega) hm]
    unfold allC lvsS
    rw [if_pos hk, colAt_get hc]
  · obtain ⟨hk, _, hf⟩ := q3 h2
    have hal : allC s c = allM c := by unfold allC; rw [if_neg (by omega)]
    rw [hal]
    cases hs : sufS s a m with
    | true =>
      rw [divB_iff]
      intro u hu v hv hne e
      rw [mem_allM] at hu hv
      exact hne (suf_sound hd ha ho hc (m := m) (n := c.widths.length) (by omega) (by omega) hs (.inr (.inr ⟨hk, hu⟩)) (.inr (.inr ⟨hk, hv⟩)) e)
    | false =>
      obtain ⟨u, v, hu, hv, e1, e2⟩ := suf_apart hd ha (by omega) hc (m := m) (n := c.widths.length) (by omega) (by omega) hs
      cases hb : divB (atomS s a) (coaS s a.col m) (allM c) with
      | false => rfl
      | true => exact absurd e1 ((divB_iff.1 hb) u (mem_allM.2 hu) v (mem_allM.2 hv) e2)
end Go.Proofs.YtghlhejdfgkjaaaGreatDoor

/- Chapter 5: conditions out of others: what they need, and their truth values. -/
import Derived.Test.YtghlhejdfgkjaaaGreatDoorCm3
import Derived.Test.YtghlhejdfgkjaaaGreatDoorMa4
import Derived.Test.YtghlhejdfgkjaaaGreatDoorCd5
namespace Go.Proofs.YtghlhejdfgkjaaaGreatDoor
open Go Go.Av
attribute [local irreducible] AWp AOps AAny MAny DQ retQ retG St.le FCall GCall
set_option linter.unusedVariables false
set_option linter.unnecessarySimpa false
set_option linter.unusedSimpArgs false
set_option maxRecDepth 100000

theorem conE_kids {s : Sch} {o : Int} {ks : List Cnd} (ho : o = 5 ∨ o = 6 ∨ o = 7) (hl : (ks.length : Int) = kidN o) : conE s (.mk o 0 0 0 0 ks) = 0 := by
  refine conE_01 ⟨?_, hl, ?_, ?_, ?_⟩ ?_
  · show 1 ≤ o ∧ o ≤ 7; omega
  · show ¬ (o ≠ 2 ∧ o ≠ 3 ∧ o ≠ 4 ∧ (0 : Int) ≠ 0); omega
  · show ¬ (o ≠ 2 ∧ (0 : Int) ≠ 0); omega
  · exact .inr ⟨rfl, rfl⟩
  · show o ≠ 2 ∧ o ≠ 3 ∧ o ≠ 4; omega
theorem chk_two {s : Sch} {o : Int} {x y : Cnd} (ho : o = 5 ∨ o = 6) (hx : chkS s x = 0) (hy : chkS s y = 0) : chkS s (.mk o 0 0 0 0 [x, y]) = 0 := by
  have h1 : conE s (.mk o 0 0 0 0 [x, y]) = 0 := conE_kids (by omega) (by rw [(kidN_of o).1 ho]; rfl)
  rw [chkS_eq, if_pos h1]
  show chkL s [x, y] = 0
  simp [chkL, hx, hy]
theorem chk_not {s : Sch} {x : Cnd} (hx : chkS s x = 0) : chkS s (.mk 7 0 0 0 0 [x]) = 0 := by
  have h1 : conE s (.mk 7 0 0 0 0 [x]) = 0 := conE_kids (by omega) (by rw [(kidN_of 7).2.1 rfl]; rfl)
  rw [chkS_eq, if_pos h1]
  show chkL s [x] = 0
  simp [chkL, hx]
theorem cndE_of {s : Sch} {c : Cnd} (hr : schE s = 0) (h1 : totS c ≤ 40) (h2 : depS c ≤ 10) (h3 : chkS s c = 0) : cndE s c = 0 := by
  unfold cndE
  rw [if_pos hr, if_neg (by omega), if_neg (by omega)]
  exact h3
theorem tot_two (o : Int) (x y : Cnd) : totS (.mk o 0 0 0 0 [x, y]) = totS x + totS y + 1 ∧ depS (.mk o 0 0 0 0 [x, y]) = max (depS x) (depS y) + 1 := by
  constructor
  · show totL [x, y] + 1 = _
    simp only [totL]; omega
  · show depL [x, y] 0 + 1 = _
    simp only [depL]; omega
theorem tot_one (o : Int) (x : Cnd) : totS (.mk o 0 0 0 0 [x]) = totS x + 1 ∧ depS (.mk o 0 0 0 0 [x]) = depS x + 1 := by
  constructor
  · show totL [x] + 1 = _
    simp only [totL] <;> omega
  · show depL [x] 0 + 1 = _
    simp only [depL] <;> omega
theorem atm_two {o : Int} (ho : o = 5 ∨ o = 6) (x y : Cnd) : atmS (.mk o 0 0 0 0 [x, y]) = atmS x ++ atmS y := by
  rw [atmS, if_neg (by omega)]
  simp [atmL]
theorem atm_not (x : Cnd) : atmS (.mk 7 0 0 0 0 [x]) = atmS x := by
  rw [atmS, if_neg (by omega)]
  simp [atmL]
theorem tel_two {o : Int} (g : Cnd → Int) (x y : Cnd) : telS g (.mk o 0 0 0 0 [x, y]) = joinS o [telS g x, telS g y] (g (.mk o 0 0 0 0 [x, y])) := by rw [telS_eq]; rfl
theorem tel_not (g : Cnd → Int) (x : Cnd) : telS g (.mk 7 0 0 0 0 [x]) = -(telS g x) := by rw [telS_eq]; rfl
theorem tel_and (g : Cnd → Int) (x y : Cnd) : telS g (.mk 5 0 0 0 0 [x, y]) = min (telS g x) (telS g y) := by rw [tel_two]; rfl
theorem tel_or (g : Cnd → Int) (x y : Cnd) : telS g (.mk 6 0 0 0 0 [x, y]) = max (telS g x) (telS g y) := by rw [tel_two]; rfl

/-! ### Needs -/
theorem pk_eta {p : Pk} (h : 0 ≤ p.col) : p = ⟨(p.col.toNat : Int), p.lev⟩ := by
  obtain ⟨a, b⟩ := p
  rw [Pk.mk.injEq]
  exact ⟨by dsimp only at h ⊢; omega, rfl⟩
theorem lvA_append (s : Sch) (A B : List Cnd) (i : Nat) : lvA s (A ++ B) i = max (lvA s A i) (lvA s B i) := by
  have key : ∀ (l : List Cnd) (m : Int), 0 ≤ m → l.foldl (fun (m : Int) (a : Cnd) => if a.col = (i : Int) then max m (levS s a : Int) else m) m = max m (l.foldl (fun (m : Int) (a : Cnd) => if a.col = (i : Int) then max m (levS s a : Int) else m) 0) := by
    intro l
    induction l with
    | nil => intro m h; simp only [List.foldl_nil]; omega
    | cons a r ih =>
      intro m h
      simp only [List.foldl_cons]
      by_cases e : a.col = i
      · rw [if_pos e, if_pos e, ih _ (by omega), ih (max 0 _) (by omega)]; omega
      · rw [if_neg e, if_neg e, ih m h]
  have := lvA_nn s i A
  unfold lvA at *
  rw [List.foldl_append, key B _ this]
theorem need_eq {s : Sch} {c : Cnd} (h : cndE s c = 0) : needS s c = pksR (lvA s (atmS c)) 0 s.cols.length := by
  unfold needS; rw [if_pos h]
theorem need_mem {s : Sch} {c : Cnd} {p : Pk} (h : p ∈ needS s c) : cndE s c = 0 ∧ 0 ≤ p.col ∧ p.col < s.cols.length ∧ p.lev = lvA s (atmS c) p.col.toNat ∧ 0 < p.lev := by
  by_cases hc : cndE s c = 0
  · rw [need_eq hc] at h
    obtain ⟨h1, h2, h3, h4⟩ := pksR_mem h
    exact ⟨hc, by omega, by omega, h3, h4⟩
  · unfold needS at h; rw [if_neg hc] at h; cases h
theorem need_length (s : Sch) (c : Cnd) : (needS s c).length ≤ s.cols.length := by
  unfold needS
  split
  · exact pksR_length _ _ _
  · simp
theorem cov_of {l needs : List Pk} (h : ∀ n ∈ needs, ∃ p ∈ l, p.col = n.col ∧ n.lev ≤ p.lev) : covB l needs = true := by
  unfold covB
  rw [Bool.not_eq_true', List.any_eq_false]
  intro n hn
  obtain ⟨p, hp, h1⟩ := h n hn
  rw [Bool.not_eq_true', Bool.not_eq_false, List.any_eq_true]
  exact ⟨p, hp, decide_eq_true h1⟩
theorem cov_inv {l needs : List Pk} (h : covB l needs = true) : ∀ n ∈ needs, ∃ p ∈ l, p.col = n.col ∧ n.lev ≤ p.lev := by
  intro n hn
  unfold covB at h
  rw [Bool.not_eq_true', List.any_eq_false] at h
  have := h n hn
  rw [Bool.not_eq_true', Bool.not_eq_false, List.any_eq_true] at this
  obtain ⟨p, hp, h1⟩ := this
  exact ⟨p, hp, of_decide_eq_true h1⟩
/-- What both need is what one of them needs. -/
theorem need_two {s : Sch} {a b : Cnd} {o : Int} (ho : o = 5 ∨ o = 6) (ha : cndE s a = 0) (hb : cndE s b = 0) (hx : cndE s (.mk o 0 0 0 0 [a, b]) = 0) :
    (∀ n ∈ needS s a, ∃ p ∈ needS s (.mk o 0 0 0 0 [a, b]), p.col = n.col ∧ n.lev ≤ p.lev) ∧ (∀ n ∈ needS s b, ∃ p ∈ needS s (.mk o 0 0 0 0 [a, b]), p.col = n.col ∧ n.lev ≤ p.lev) ∧ ∀ p ∈ needS s (.mk o 0 0 0 0 [a, b]), p ∈ needS s a ++ needS s b := by
  have hap := fun i => lvA_append s (atmS a) (atmS b) i
  have key : ∀ (i : Nat), i < s.cols.length → 0 < lvA s (atmS a ++ atmS b) i → (⟨i, lvA s (atmS a ++ atmS b) i⟩ : Pk) ∈ needS s (.mk o 0 0 0 0 [a, b]) := by
    intro i h1 h2
    rw [need_eq hx, atm_two ho]
    exact mem_pksR (Nat.zero_le _) (by omega) h2
  refine ⟨fun n hn => ?_, fun n hn => ?_, fun p hp => ?_⟩
  · obtain ⟨_, h1, h2, h3, h4⟩ := need_mem hn
    have := hap n.col.toNat
    exact ⟨_, key n.col.toNat (by omega) (by omega), by dsimp only; omega, by dsimp only; omega⟩
  · obtain ⟨_, h1, h2, h3, h4⟩ := need_mem hn
    have := hap n.col.toNat
    exact ⟨_, key n.col.toNat (by omega) (by omega), by dsimp only; omega, by dsimp only; omega⟩
  · obtain ⟨_, h1, h2, h3, h4⟩ := need_mem hp
    rw [atm_two ho, hap] at h3
    have e : p = ⟨(p.col.toNat : Int), p.lev⟩ := pk_eta h1
    rw [List.mem_append]
    by_cases hl : lvA s (atmS b) p.col.toNat ≤ lvA s (atmS a) p.col.toNat
    · left
      rw [need_eq ha, e]
      have := mem_pksR (lv := lvA s (atmS a)) (n := s.cols.length) (lo := 0) (i := p.col.toNat) (Nat.zero_le _) (by omega) (by omega)
      rw [show lvA s (atmS a) p.col.toNat = p.lev by omega] at this
      exact this
    · right
      rw [need_eq hb, e]
      have := mem_pksR (lv := lvA s (atmS b)) (n := s.cols.length) (lo := 0) (i := p.col.toNat) (Nat.zero_le _) (by omega) (by omega)
      rw [show lvA s (atmS b) p.col.toNat = p.lev by omega] at this
      exact this
theorem need_not {s : Sch} {a : Cnd} (ha : cndE s a = 0) (hx : cndE s (.mk 7 0 0 0 0 [a]) = 0) : needS s (.mk 7 0 0 0 0 [a]) = needS s a := by
  rw [need_eq hx, need_eq ha, atm_not]
end Go.Proofs.YtghlhejdfgkjaaaGreatDoor

/- Chapter 5: drawn conditions are right. Chapter 5: conditions out of others: what they need, and their truth values. Chapter 5: values that have a value at a level, and truth values from coarse values. Draws: drawn rows fit. -/
import Derived.Test.YtleodngfheedbaaGreatDoorDr8
import Derived.Test.YtleodngfheedbaaGreatDoorC1
import Derived.Test.YtleodngfheedbaaGreatDoorC3
import Derived.Test.YtleodngfheedbaaGreatDoorSx
import Derived.Test.YtleodngfheedbaaGreatDoorCE
namespace Go.Proofs.YtleodngfheedbaaGreatDoor
open Go Go.Av
attribute [local irreducible] AWp AOps AAny MAny DQ retQ retG St.le FCall GCall
set_option linter.unusedVariables false
set_option linter.unnecessarySimpa false
set_option linter.unusedSimpArgs false
set_option maxRecDepth 100000

theorem chkS_leaf {s : Sch} {c : Cnd} (h : conE s c = 0) (hk : c.kids = []) : chkS s c = 0 ∧ totS c = 1 ∧ depS c = 1 := by
  rw [chkS_eq, if_pos h, totS_eq, depS_eq, hk]
  exact ⟨rfl, rfl, rfl⟩
theorem conE_all (s : Sch) : conE s (.mk 1 0 0 0 0 []) = 0 :=
  conE_01 (by simp [Cnd.op, Cnd.col, Cnd.code, Cnd.lo, Cnd.hi, Cnd.kids, kidN]) (by simp [Cnd.op])
theorem condL_ok {s : Sch} (hd : Drawn s) (l : List UInt8) (a : Nat) : conE s (condL l s a).1 = 0 ∧ (condL l s a).1.kids = [] := by
  unfold condL
  dsimp only
  generalize nxt l a 5 = q
  have h2 := (colD_ok (l := l) (a := q.2) hd.two.1).2
  have h3 := (colD_ok (l := l) (a := q.2) hd.two.2).2
  generalize colD l q.2 s 2 = k at *
  generalize colD l q.2 s 3 = m at *
  obtain ⟨k1, k2⟩ := k
  obtain ⟨m1, m2⟩ := m
  dsimp only at h2 h3 ⊢
  obtain ⟨x, hx⟩ : ∃ x, s.cols[m1]? = some x := ⟨_, List.getElem?_eq_getElem h3.1⟩
  have hxa : colAt s m1 = x := colAt_get (by simpa using hx)
  have hxb : -4 ≤ x.low ∧ x.low ≤ 2 := by
    rw [hxa] at h3
    rcases hd.col hx with ⟨_, rfl⟩ | ⟨_, rfl | rfl⟩ | ⟨_, nm, hm⟩
    · cases h3.2
    · cases h3.2
    · cases h3.2
    · exact hm.low
  split
  · refine ⟨?_, rfl⟩
    obtain ⟨c, hc⟩ : ∃ c, s.cols[k1]? = some c := ⟨_, List.getElem?_eq_getElem h2.1⟩
    have hca : colAt s k1 = c := colAt_get (by simpa using hc)
    have hl2 : 1 ≤ (lstOf s (colAt s k1)).2.length := by
      rw [hca] at h2 ⊢
      obtain ⟨_, e, h5, _⟩ := hd.lvs hc h2.2
      rw [e] at h5
      have := atS_length (lstOf s c).1 (lstOf s c).2 (levelsS (lstOf s c).1 (lstOf s c).2 - 1)
      omega
    have hn := nxt_lt l k2 (n := (lstOf s (colAt s k1)).2.length) (by omega)
    refine conE_02 (by simp [Cnd.op, Cnd.col, Cnd.code, Cnd.lo, Cnd.hi, Cnd.kids, kidN]) rfl ⟨?_, ?_, ?_⟩ ?_
    · show (0 : Int) ≤ (k1 : Int); omega
    · show (k1 : Int) < s.cols.length; omega
    · exact h2.2
    · show ¬ (((nxt l k2 (lstOf s (colAt s k1)).2.length).1 : Int) < 0 ∨ ((lstOf s (colAt s k1)).2.length : Int) ≤ ((nxt l k2 (lstOf s (colAt s k1)).2.length).1 : Int))
      omega
  · split
    · refine ⟨?_, rfl⟩
      have h44 := nxt_lt l m2 (n := 44) (by omega)
      have h30 := nxt_lt l (nxt l m2 44).2 (n := 30) (by omega)
      rw [hxa]
      refine conE_03 (by simp [Cnd.op, Cnd.col, Cnd.code, Cnd.lo, Cnd.hi, Cnd.kids, kidN]) rfl ⟨?_, ?_, ?_⟩ ?_
      · show (0 : Int) ≤ (m1 : Int); omega
      · show (m1 : Int) < s.cols.length; omega
      · exact h3.2
      · show ¬ (x.low + (-3 + ((nxt l m2 44).1 : Int)) + ((nxt l (nxt l m2 44).2 30).1 : Int) < x.low + (-3 + ((nxt l m2 44).1 : Int)) ∨ x.low + (-3 + ((nxt l m2 44).1 : Int)) < -1000000 ∨ 1000000 < x.low + (-3 + ((nxt l m2 44).1 : Int)) + ((nxt l (nxt l m2 44).2 30).1 : Int))
        omega
    · split
      · split
        · refine ⟨?_, rfl⟩
          rename_i ho
          rw [hxa] at ho
          refine conE_04 (x := x) (by simp [Cnd.op, Cnd.col, Cnd.code, Cnd.lo, Cnd.hi, Cnd.kids, kidN]) rfl ⟨?_, ?_, ?_⟩ ?_ ho
          · show (0 : Int) ≤ (m1 : Int); omega
          · show (m1 : Int) < s.cols.length; omega
          · exact h3.2
          · show s.cols[((m1 : Nat) : Int).toNat]? = some x
            rw [Int.toNat_natCast]; exact hx
        · exact ⟨conE_all s, rfl⟩
      · exact ⟨conE_all s, rfl⟩
theorem condS_ok {s : Sch} (hd : Drawn s) (l : List UInt8) : ∀ d a, chkS s (condS l s d a).1 = 0 ∧ totS (condS l s d a).1 + 1 ≤ 2 ^ (d + 1) ∧ depS (condS l s d a).1 ≤ d + 1
  | 0, a => by
    obtain ⟨h1, h2⟩ := condL_ok hd l a
    obtain ⟨h3, h4, h5⟩ := chkS_leaf h1 h2
    show chkS s (condL l s a).1 = 0 ∧ _
    exact ⟨h3, by show totS (condL l s a).1 + 1 ≤ _; rw [h4]; decide, by show depS (condL l s a).1 ≤ _; omega⟩
  | d + 1, a => by
    have hp : 2 ^ (d + 1 + 1) = 2 * 2 ^ (d + 1) := by rw [Nat.pow_succ]; omega
    have hpos : 2 ≤ 2 ^ (d + 1) := by rw [Nat.pow_succ]; have := Nat.one_le_two_pow (n := d); omega
    unfold condS
    dsimp only
    generalize nxt l a 5 = q
    obtain ⟨x1, x2, x3⟩ := condS_ok hd l d q.2
    generalize condS l s d q.2 = x at *
    obtain ⟨y1, y2, y3⟩ := condS_ok hd l d x.2
    generalize condS l s d x.2 = y at *
    have two : ∀ o : Int, o = 5 ∨ o = 6 → conE s (.mk o 0 0 0 0 [x.1, y.1]) = 0 := by
      intro o ho
      refine conE_01 ?_ ?_
      · rcases ho with rfl | rfl <;> simp [Cnd.op, Cnd.col, Cnd.code, Cnd.lo, Cnd.hi, Cnd.kids, kidN]
      · rcases ho with rfl | rfl <;> simp [Cnd.op]
    have twoC : ∀ o : Int, o = 5 ∨ o = 6 → chkS s (.mk o 0 0 0 0 [x.1, y.1]) = 0 ∧ totS (.mk o 0 0 0 0 [x.1, y.1]) + 1 ≤ 2 ^ (d + 1 + 1) ∧ depS (.mk o 0 0 0 0 [x.1, y.1]) ≤ d + 1 + 1 := by
      intro o ho
      rw [chkS_eq, if_pos (two o ho)]
      refine ⟨?_, ?_, ?_⟩
      · show chkL s [x.1, y.1] = 0
        simp [chkL, x1, y1]
      · show totL [x.1, y.1] + 1 + 1 ≤ _
        simp only [totL]; omega
      · show depL [x.1, y.1] 0 + 1 ≤ _
        simp only [depL]; omega
    split
    · have h7 : conE s (.mk 7 0 0 0 0 [x.1]) = 0 := conE_01 (by simp [Cnd.op, Cnd.col, Cnd.code, Cnd.lo, Cnd.hi, Cnd.kids, kidN]) (by simp [Cnd.op])
      dsimp only
      rw [chkS_eq, if_pos h7]
      refine ⟨?_, ?_, ?_⟩
      · show chkL s [x.1] = 0
        simp [chkL, x1]
      · show totL [x.1] + 1 + 1 ≤ _
        simp only [totL]; omega
      · show depL [x.1] 0 + 1 ≤ _
        simp only [depL]; omega
    · split
      · exact twoC 5 (.inl rfl)
      · split
        · exact twoC 6 (.inr rfl)
        · obtain ⟨h1, h2⟩ := condL_ok hd l q.2
          obtain ⟨h3, h4, h5⟩ := chkS_leaf h1 h2
          exact ⟨h3, by rw [h4]; omega, by omega⟩
/-- A drawn condition of moderate depth is right. -/
theorem cond_right {s : Sch} (hd : Drawn s) (l : List UInt8) (d a : Nat) (h : d ≤ 4) : cndE s (condS l s d a).1 = 0 ∧ totS (condS l s d a).1 ≤ 31 := by
  obtain ⟨h1, h2, h3⟩ := condS_ok hd l d a
  have hp : 2 ^ (d + 1) ≤ 2 ^ 5 := Nat.pow_le_pow_right (by omega) (by omega)
  have hp2 : 2 ^ 5 = 32 := by decide
  unfold cndE
  rw [if_pos hd.ok, if_neg (by omega), if_neg (by omega)]
  exact ⟨h1, by omega⟩
end Go.Proofs.YtleodngfheedbaaGreatDoor

namespace Go.Proofs.YtleodngfheedbaaGreatDoor
open Go Go.Av
attribute [local irreducible] AWp AOps AAny MAny DQ retQ retG St.le FCall GCall
set_option linter.unusedVariables false
set_option linter.unnecessarySimpa false
set_option linter.unusedSimpArgs false
set_option maxRecDepth 100000

theorem conE_kids {s : Sch} {o : Int} {ks : List Cnd} (ho : o = 5 ∨ o = 6 ∨ o = 7) (hl : (ks.length : Int) = kidN o) : conE s (.mk o 0 0 0 0 ks) = 0 := by
  refine conE_01 ⟨?_, hl, ?_, ?_, ?_⟩ ?_
  · show 1 ≤ o ∧ o ≤ 7; omega
  · show ¬ (o ≠ 2 ∧ o ≠ 3 ∧ o ≠ 4 ∧ (0 : Int) ≠ 0); omega
  · show ¬ (o ≠ 2 ∧ (0 : Int) ≠ 0); omega
  · exact .inr ⟨rfl, rfl⟩
  · show o ≠ 2 ∧ o ≠ 3 ∧ o ≠ 4; omega
theorem chk_two {s : Sch} {o : Int} {x y : Cnd} (ho : o = 5 ∨ o = 6) (hx : chkS s x = 0) (hy : chkS s y = 0) : chkS s (.mk o 0 0 0 0 [x, y]) = 0 := by
  have h1 : conE s (.mk o 0 0 0 0 [x, y]) = 0 := conE_kids (by omega) (by rw [(kidN_of o).1 ho]; rfl)
  rw [chkS_eq, if_pos h1]
  show chkL s [x, y] = 0
  simp [chkL, hx, hy]
theorem chk_not {s : Sch} {x : Cnd} (hx : chkS s x = 0) : chkS s (.mk 7 0 0 0 0 [x]) = 0 := by
  have h1 : conE s (.mk 7 0 0 0 0 [x]) = 0 := conE_kids (by omega) (by rw [(kidN_of 7).2.1 rfl]; rfl)
  rw [chkS_eq, if_pos h1]
  show chkL s [x] = 0
  simp [chkL, hx]
theorem cndE_of {s : Sch} {c : Cnd} (hr : schE s = 0) (h1 : totS c ≤ 40) (h2 : depS c ≤ 10) (h3 : chkS s c = 0) : cndE s c = 0 := by
  unfold cndE
  rw [if_pos hr, if_neg (by omega), if_neg (by omega)]
  exact h3
theorem tot_two (o : Int) (x y : Cnd) : totS (.mk o 0 0 0 0 [x, y]) = totS x + totS y + 1 ∧ depS (.mk o 0 0 0 0 [x, y]) = max (depS x) (depS y) + 1 := by
  constructor
  · show totL [x, y] + 1 = _
    simp only [totL]; omega
  · show depL [x, y] 0 + 1 = _
    simp only [depL]; omega
theorem tot_one (o : Int) (x : Cnd) : totS (.mk o 0 0 0 0 [x]) = totS x + 1 ∧ depS (.mk o 0 0 0 0 [x]) = depS x + 1 := by
  constructor
  · show totL [x] + 1 = _
    simp only [totL] <;> omega
  · show depL [x] 0 + 1 = _
    simp only [depL] <;> omega
theorem atm_two {o : Int} (ho : o = 5 ∨ o = 6) (x y : Cnd) : atmS (.mk o 0 0 0 0 [x, y]) = atmS x ++ atmS y := by
  rw [atmS, if_neg (by omega)]
  simp [atmL]
theorem atm_not (x : Cnd) : atmS (.mk 7 0 0 0 0 [x]) = atmS x := by
  rw [atmS, if_neg (by omega)]
  simp [atmL]
theorem tel_two {o : Int} (g : Cnd → Int) (x y : Cnd) : telS g (.mk o 0 0 0 0 [x, y]) = joinS o [telS g x, telS g y] (g (.mk o 0 0 0 0 [x, y])) := by rw [telS_eq]; rfl
theorem tel_not (g : Cnd → Int) (x : Cnd) : telS g (.mk 7 0 0 0 0 [x]) = -(telS g x) := by rw [telS_eq]; rfl
theorem tel_and (g : Cnd → Int) (x y : Cnd) : telS g (.mk 5 0 0 0 0 [x, y]) = min (telS g x) (telS g y) := by rw [tel_two]; rfl
theorem tel_or (g : Cnd → Int) (x y : Cnd) : telS g (.mk 6 0 0 0 0 [x, y]) = max (telS g x) (telS g y) := by rw [tel_two]; rfl

/-! ### Needs -/
theorem pk_eta {p : Pk} (h : 0 ≤ p.col) : p = ⟨(p.col.toNat : Int), p.lev⟩ := by
  obtain ⟨a, b⟩ := p
  rw [Pk.mk.injEq]
  exact ⟨by dsimp only at h ⊢; omega, rfl⟩
theorem lvA_append (s : Sch) (A B : List Cnd) (i : Nat) : lvA s (A ++ B) i = max (lvA s A i) (lvA s B i) := by
  have key : ∀ (l : List Cnd) (m : Int), 0 ≤ m → l.foldl (fun (m : Int) (a : Cnd) => if a.col = (i : Int) then max m (levS s a : Int) else m) m = max m (l.foldl (fun (m : Int) (a : Cnd) => if a.col = (i : Int) then max m (levS s a : Int) else m) 0) := by
    intro l
    induction l with
    | nil => intro m h; simp only [List.foldl_nil]; omega
    | cons a r ih =>
      intro m h
      simp only [List.foldl_cons]
      by_cases e : a.col = i
      · rw [if_pos e, if_pos e, ih _ (by omega), ih (max 0 _) (by omega)]; omega
      · rw [if_neg e, if_neg e, ih m h]
  have := lvA_nn s i A
  unfold lvA at *
  rw [List.foldl_append, key B _ this]
theorem need_eq {s : Sch} {c : Cnd} (h : cndE s c = 0) : needS s c = pksR (lvA s (atmS c)) 0 s.cols.length := by
  unfold needS; rw [if_pos h]
theorem need_mem {s : Sch} {c : Cnd} {p : Pk} (h : p ∈ needS s c) : cndE s c = 0 ∧ 0 ≤ p.col ∧ p.col < s.cols.length ∧ p.lev = lvA s (atmS c) p.col.toNat ∧ 0 < p.lev := by
  by_cases hc : cndE s c = 0
  · rw [need_eq hc] at h
    obtain ⟨h1, h2, h3, h4⟩ := pksR_mem h
    exact ⟨hc, by omega, by omega, h3, h4⟩
  · unfold needS at h; rw [if_neg hc] at h; cases h
theorem need_length (s : Sch) (c : Cnd) : (needS s c).length ≤ s.cols.length := by
  unfold needS
  split
  · exact pksR_length _ _ _
  · simp
theorem cov_of {l needs : List Pk} (h : ∀ n ∈ needs, ∃ p ∈ l, p.col = n.col ∧ n.lev ≤ p.lev) : covB l needs = true := by
  unfold covB
  rw [Bool.not_eq_true', List.any_eq_false]
  intro n hn
  obtain ⟨p, hp, h1⟩ := h n hn
  rw [Bool.not_eq_true', Bool.not_eq_false, List.any_eq_true]
  exact ⟨p, hp, decide_eq_true h1⟩
theorem cov_inv {l needs : List Pk} (h : covB l needs = true) : ∀ n ∈ needs, ∃ p ∈ l, p.col = n.col ∧ n.lev ≤ p.lev := by
  intro n hn
  unfold covB at h
  rw [Bool.not_eq_true', List.any_eq_false] at h
  have := h n hn
  rw [Bool.not_eq_true', Bool.not_eq_false, List.any_eq_true] at this
  obtain ⟨p, hp, h1⟩ := this
  exact ⟨p, hp, of_decide_eq_true h1⟩
/-- What both need is what one of them needs. -/
theorem need_two {s : Sch} {a b : Cnd} {o : Int} (ho : o = 5 ∨ o = 6) (ha : cndE s a = 0) (hb : cndE s b = 0) (hx : cndE s (.mk o 0 0 0 0 [a, b]) = 0) :
    (∀ n ∈ needS s a, ∃ p ∈ needS s (.mk o 0 0 0 0 [a, b]), p.col = n.col ∧ n.lev ≤ p.lev) ∧ (∀ n ∈ needS s b, ∃ p ∈ needS s (.mk o 0 0 0 0 [a, b]), p.col = n.col ∧ n.lev ≤ p.lev) ∧ ∀ p ∈ needS s (.mk o 0 0 0 0 [a, b]), p ∈ needS s a ++ needS s b := by
  have hap := fun i => lvA_append s (atmS a) (atmS b) i
  have key : ∀ (i : Nat), i < s.cols.length → 0 < lvA s (atmS a ++ atmS b) i → (⟨i, lvA s (atmS a ++ atmS b) i⟩ : Pk) ∈ needS s (.mk o 0 0 0 0 [a, b]) := by
    intro i h1 h2
    rw [need_eq hx, atm_two ho]
    exact mem_pksR (Nat.zero_le _) (by omega) h2
  refine ⟨fun n hn => ?_, fun n hn => ?_, fun p hp => ?_⟩
  · obtain ⟨_, h1, h2, h3, h4⟩ := need_mem hn
    have := hap n.col.toNat
    exact ⟨_, key n.col.toNat (by omega) (by omega), by dsimp only; omega, by dsimp only; omega⟩
  · obtain ⟨_, h1, h2, h3, h4⟩ := need_mem hn
    have := hap n.col.toNat
    exact ⟨_, key n.col.toNat (by omega) (by omega), by dsimp only; omega, by dsimp only; omega⟩
  · obtain ⟨_, h1, h2, h3, h4⟩ := need_mem hp
    rw [atm_two ho, hap] at h3
    have e : p = ⟨(p.col.toNat : Int), p.lev⟩ := pk_eta h1
    rw [List.mem_append]
    by_cases hl : lvA s (atmS b) p.col.toNat ≤ lvA s (atmS a) p.col.toNat
    · left
      rw [need_eq ha, e]
      have := mem_pksR (lv := lvA s (atmS a)) (n := s.cols.length) (lo := 0) (i := p.col.toNat) (Nat.zero_le _) (by omega) (by omega)
      rw [show lvA s (atmS a) p.col.toNat = p.lev by omega] at this
      exact this
    · right
      rw [need_eq hb, e]
      have := mem_pksR (lv := lvA s (atmS b)) (n := s.cols.length) (lo := 0) (i := p.col.toNat) (Nat.zero_le _) (by omega) (by omega)
      rw [show lvA s (atmS b) p.col.toNat = p.lev by omega] at this
      exact this
theorem need_not {s : Sch} {a : Cnd} (ha : cndE s a = 0) (hx : cndE s (.mk 7 0 0 0 0 [a]) = 0) : needS s (.mk 7 0 0 0 0 [a]) = needS s a := by
  rw [need_eq hx, need_eq ha, atm_not]
end Go.Proofs.YtleodngfheedbaaGreatDoor

namespace Go.Proofs.YtleodngfheedbaaGreatDoor
open Go Go.Av
attribute [local irreducible] AWp AOps AAny MAny DQ retQ retG St.le FCall GCall
set_option linter.unusedVariables false
set_option linter.unnecessarySimpa false
set_option linter.unusedSimpArgs false
set_option maxRecDepth 100000

/-- The first of a list with a value. -/
def findK (f : Nat → Int) (v : Int) : List Nat → Int × Bool
  | [] => (0, false)
  | x :: r => if f x = v then ((x : Int), true) else findK f v r
theorem findK_spec {f : Nat → Int} {v : Int} : ∀ {l : List Nat}, ((findK f v l).2 = true ∧ ∃ x ∈ l, f x = v ∧ (findK f v l).1 = x) ∨ (findK f v l = (0, false) ∧ ∀ x ∈ l, f x ≠ v)
  | [] => .inr ⟨rfl, fun x h => by cases h⟩
  | x :: r => by
    unfold findK
    by_cases e : f x = v
    · rw [if_pos e]; exact .inl ⟨rfl, x, List.mem_cons_self .., e, rfl⟩
    · rw [if_neg e]
      rcases findK_spec (f := f) (v := v) (l := r) with ⟨h1, y, hy, h2, h3⟩ | ⟨h1, h2⟩
      · exact .inl ⟨h1, y, List.mem_cons_of_mem _ hy, h2, h3⟩
      · refine .inr ⟨h1, fun y hy => ?_⟩
        rcases List.mem_cons.1 hy with rfl | hy
        · exact e
        · exact h2 y hy
theorem findK_congr {f g : Nat → Int} {v : Int} : ∀ {l : List Nat}, (∀ x ∈ l, f x = g x) → findK f v l = findK g v l
  | [], _ => rfl
  | x :: r, h => by
    unfold findK
    rw [h x (by simp), findK_congr fun y hy => h y (by simp [hy])]
def upL (s : Sch) (column level : Int) (x : Nat) : Int := upS (lstOf s (colAt s column)).1 (lstOf s (colAt s column)).2 x level
/-- A value that a row can have, with a value at a level; the program's, and the reference's. -/
def someS (s : Sch) (column level v : Int) : Int × Bool :=
  if (colAt s column).kind = 3 then (if 0 < level ∧ v = (-1099511627776) then (v, (colAt s column).opt) else ((spanS (colAt s column) level v).1, (spanS (colAt s column) level v).2.2))
  else findK (upL s column level) v (lvsS s column)
theorem kind_of {s : Sch} (hr : schE s = 0) {column : Int} {c : Col} (h1 : 1 ≤ column) (hc : s.cols[column.toNat]? = some c) : (c.kind = 2 ∨ c.kind = 3) ∧ (c.kind = 3 → meaE c = 0) := by
  obtain ⟨_, _, _, h4, _⟩ := schE_parts hr
  have h5 := (colE_parts (h4 _ _ hc)).2.2.1
  refine ⟨?_, fun h => kindE_mea h5 h⟩
  rcases kindE_kinds h5 with h | h
  · omega
  · exact h
/-- The level and the value of a column that some picks tell last. -/
def lastV (col : Int) (pv : List (Pk × Int)) : Int × Int := pv.foldl (fun z q => if q.1.col = col then (q.1.lev, q.2) else z) (0, 0)
theorem lastV_snoc (col : Int) (l : List (Pk × Int)) (q : Pk × Int) : lastV col (l ++ [q]) = if q.1.col = col then (q.1.lev, q.2) else lastV col l := by
  unfold lastV; rw [List.foldl_append]; rfl
theorem lastV_of (col : Int) : ∀ (l : List (Pk × Int)), (lastV col l = (0, 0) ∧ ∀ q ∈ l, q.1.col ≠ col) ∨ ∃ q ∈ l, q.1.col = col ∧ lastV col l = (q.1.lev, q.2) := by
  have key : ∀ (l : List (Pk × Int)) (z : Int × Int), (l.foldl (fun z q => if q.1.col = col then (q.1.lev, q.2) else z) z = z ∧ ∀ q ∈ l, q.1.col ≠ col) ∨ ∃ q ∈ l, q.1.col = col ∧ l.foldl (fun z q => if q.1.col = col then (q.1.lev, q.2) else z) z = (q.1.lev, q.2) := by
    intro l
    induction l with
    | nil => exact fun z => .inl ⟨rfl, fun q h => by cases h⟩
    | cons a r ih =>
      intro z
      rw [List.foldl_cons]
      by_cases e : a.1.col = col
      · rw [if_pos e]
        rcases ih (a.1.lev, a.2) with ⟨h1, h2⟩ | ⟨q, hq, h1, h2⟩
        · exact .inr ⟨a, List.mem_cons_self .., e, h1⟩
        · exact .inr ⟨q, List.mem_cons_of_mem _ hq, h1, h2⟩
      · rw [if_neg e]
        rcases ih z with ⟨h1, h2⟩ | ⟨q, hq, h1, h2⟩
        · refine .inl ⟨h1, fun q hq => ?_⟩
          rcases List.mem_cons.1 hq with rfl | hq
          · exact e
          · exact h2 q hq
        · exact .inr ⟨q, List.mem_cons_of_mem _ hq, h1, h2⟩
  exact fun l => key l (0, 0)
/-- The values of a row that some picks tell; 0 in column 0. -/
def toldV (s : Sch) (pv : List (Pk × Int)) (i : Nat) : Int := if i = 0 ∧ (lastV i pv = (0, 0)) then 0 else (someS s i (lastV i pv).1 (lastV i pv).2).1
def RowOk (s : Sch) (row : List Int) : Prop := row.length = s.cols.length ∧ ∀ (i : Nat) c, s.cols[i]? = some c → ValOk s c (row.getD i 0)
end Go.Proofs.YtleodngfheedbaaGreatDoor

namespace Go.Proofs.YtleodngfheedbaaGreatDoor
open Go Go.Av
attribute [local irreducible] AWp AOps AAny MAny DQ retQ retG St.le FCall GCall
set_option linter.unusedVariables false
set_option linter.unnecessarySimpa false
set_option linter.unusedSimpArgs false
set_option maxRecDepth 100000

theorem rowFrom_ok {s : Sch} (hd : Drawn s) (l : List UInt8) : ∀ (n k : Nat) (x : List Int × Nat), k + n = s.cols.length → x.1.length = k → (∀ (i : Nat) c, i < k → s.cols[i]? = some c → ValOk s c (x.1.getD i 0)) → RowOk s (rowFrom l s k x n).1
  | 0, k, x, hk, hl, h => by
    refine ⟨by show x.1.length = _; omega, fun i c hc => h i c ?_ hc⟩
    have := (List.getElem?_eq_some_iff.1 hc).1
    omega
  | n + 1, k, x, hk, hl, h => by
    obtain ⟨c0, hc0⟩ : ∃ c, s.cols[k]? = some c := ⟨_, List.getElem?_eq_getElem (by omega)⟩
    refine rowFrom_ok hd l n (k + 1) _ (by omega) (by simp [hl]) fun i c hi hc => ?_
    dsimp only
    by_cases e : i < k
    · have := h i c e hc
      rw [List.getD_eq_getElem?_getD] at this ⊢
      rw [List.getElem?_append_left (by omega)]
      exact this
    · obtain rfl : i = k := by omega
      rw [hc0] at hc
      cases hc
      rw [List.getD_eq_getElem?_getD, List.getElem?_append_right (by omega), hl, Nat.sub_self]
      exact valS_ok hd l x.2 hc0
theorem rowS_ok {s : Sch} (hd : Drawn s) (l : List UInt8) (a : Nat) : RowOk s (rowS l a s).1 :=
  rowFrom_ok hd l s.cols.length 0 ([], a) (by omega) rfl fun i c hi => absurd hi (Nat.not_lt_zero _)
theorem ValOk.hold {s : Sch} {c : Col} {v : Int} (h : ValOk s c v) : holdB s c v = true := by
  unfold holdB
  rcases h with ⟨hk, h1, h2⟩ | ⟨hk, n, rfl, hn⟩ | ⟨hk, h1⟩
  · rw [if_pos hk]; exact decide_eq_true (by omega)
  · rw [if_neg (by omega), if_pos hk]
    obtain ⟨g1, g2, g3⟩ := mem_atS hn
    have := (leaf_level g1 g2).1 (by rw [← levelS_yes ⟨by omega, by omega, g1⟩]; simpa using g3)
    rw [this, decide_eq_true (show (0 : Int) ≤ n ∧ (n : Int) < (lstOf s c).2.length by omega)]
    rfl
  · rw [if_neg (by omega), if_neg (by omega)]
    rcases h1 with h1 | h1
    · rw [decide_eq_true h1]; rfl
    · rw [h1.1, h1.2]; simp
theorem row_ok0 {s : Sch} (hr : schE s = 0) {row : List Int} (h : RowOk s row) : rowE s row = 0 := by
  unfold rowE
  rw [if_pos hr, if_pos]
  unfold fitsB
  rw [decide_eq_true h.1, Bool.true_and, Bool.not_eq_true', List.any_eq_false]
  rintro ⟨c, v⟩ hm
  obtain ⟨i, hi⟩ := List.mem_iff_getElem?.1 hm
  rw [List.getElem?_zip_eq_some] at hi
  have := (h.2 i c hi.1)
  rw [getD_get hi.2] at this
  unfold badP2
  rw [this.hold]
  decide
end Go.Proofs.YtleodngfheedbaaGreatDoor

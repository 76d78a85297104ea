/- Chapter 5: how the reference reads conditions: a text that is printed is read, and a text that is read is printed. -/
import Derived.Test.YtghlhejdfgkjaaaGreatDoorBk2
namespace Go.Proofs.YtghlhejdfgkjaaaGreatDoor
open Go Go.Av
attribute [local irreducible] AWp AOps AAny MAny DQ retQ retG St.le FCall GCall
set_option linter.unusedVariables false
set_option linter.unnecessarySimpa false
set_option linter.unusedSimpArgs false
set_option maxRecDepth 100000

/-- Neither a space nor a parenthesis. -/
def isN (b : UInt8) : Bool := decide (b.toNat ≠ 32 ∧ b.toNat ≠ 40 ∧ b.toNat ≠ 41)
def digV (l : List UInt8) : Nat := l.foldl (fun n b => 10 * n + (b.toNat - 48)) 0
theorem digV_snoc (l : List UInt8) (b : UInt8) : digV (l ++ [b]) = 10 * digV l + (b.toNat - 48) := by
  unfold digV; rw [List.foldl_append]; rfl
theorem digF_lt : ∀ (l : List UInt8) (n : Nat), l.all digB = true → l.foldl (fun n b => 10 * n + (b.toNat - 48)) n + 1 ≤ (n + 1) * 10 ^ l.length
  | [], n, _ => by simp
  | b :: r, n, h => by
    rw [List.all_cons, Bool.and_eq_true] at h
    have h2 := of_decide_eq_true h.1
    have i := digF_lt r (10 * n + (b.toNat - 48)) h.2
    rw [List.foldl_cons, List.length_cons, Nat.pow_succ]
    refine Nat.le_trans i ?_
    have e : (n + 1) * (10 ^ r.length * 10) = (10 * n + 10) * 10 ^ r.length := by
      rw [Nat.mul_comm (10 ^ r.length) 10, ← Nat.mul_assoc]
      congr 1
      omega
    rw [e]
    exact Nat.mul_le_mul_right _ (by omega)
theorem digV_lt {l : List UInt8} (h : l.all digB = true) : digV l < 10 ^ l.length := by
  have := digF_lt l 0 h
  unfold digV
  omega
/-- The number that a word is, and whether it is one. -/
def numR (z : List UInt8) : Int × Bool :=
  if (cutS [45] z).1.length < 1 ∨ 15 < (cutS [45] z).1.length then (0, false)
  else if (cutS [45] z).1.all digB = true then
    (if (cutS [45] z).1.length < z.length then (-(digV (cutS [45] z).1 : Int), decide (Lib.itoa (-(digV (cutS [45] z).1 : Int)) = z))
    else ((digV (cutS [45] z).1 : Int), decide (Lib.itoa (digV (cutS [45] z).1) = z)))
  else (0, false)
theorem numR_inv {z : List UInt8} (h : (numR z).2 = true) : Lib.itoa (numR z).1 = z := by
  unfold numR at h ⊢
  by_cases h1 : (cutS [45] z).1.length < 1 ∨ 15 < (cutS [45] z).1.length
  · rw [if_pos h1] at h; cases h
  rw [if_neg h1] at h ⊢
  by_cases h2 : (cutS [45] z).1.all digB = true
  · rw [if_pos h2] at h ⊢
    by_cases h3 : (cutS [45] z).1.length < z.length
    · rw [if_pos h3] at h ⊢; exact of_decide_eq_true h
    · rw [if_neg h3] at h ⊢; exact of_decide_eq_true h
  · rw [if_neg h2] at h; cases h
theorem digV_dec (u : Nat) : digV (Lib.decDigits u) = u ∧ (Lib.decDigits u).all digB = true ∧ 1 ≤ (Lib.decDigits u).length := by
  induction u using Nat.strongRecOn with
  | ind u ih =>
    rw [Lib.decDigits]
    by_cases h1 : u < 10
    · rw [dif_pos h1]
      have e := dig_n h1
      refine ⟨?_, ?_, by simp⟩
      · have := digV_snoc [] (UInt8.ofNat (48 + u))
        rw [List.nil_append] at this
        rw [this, e]
        show 10 * 0 + (48 + u - 48) = u
        omega
      · simp only [List.all_cons, List.all_nil, Bool.and_true, digB, decide_eq_true_eq]
        omega
    · rw [dif_neg h1]
      obtain ⟨i1, i2, i3⟩ := ih (u / 10) (by omega)
      have hd : u % 10 < 10 := by omega
      have e := dig_n hd
      refine ⟨?_, ?_, by simp⟩
      · rw [digV_snoc, i1, e]; omega
      · rw [List.all_append, i2]
        simp only [List.all_cons, List.all_nil, Bool.and_true, Bool.true_and, digB, decide_eq_true_eq]
        omega
theorem dec_le : ∀ (k u : Nat), u < 10 ^ (k + 1) → (Lib.decDigits u).length ≤ k + 1
  | 0, u, h => by
    rw [Lib.decDigits, dif_pos (by simpa using h)]; simp
  | k + 1, u, h => by
    rw [Lib.decDigits]
    by_cases h1 : u < 10
    · rw [dif_pos h1]; simp
    · rw [dif_neg h1, List.length_append, List.length_singleton]
      have := dec_le k (u / 10) (by rw [Nat.pow_succ] at h; omega)
      omega
theorem numR_txt {n : Int} (h1 : -1000000000000 ≤ n) (h2 : n ≤ 1000000000000) : numR (Lib.itoa n) = (n, true) := by
  unfold numR
  by_cases h : n < 0
  · have e : Lib.itoa n = [45] ++ Lib.decDigits n.natAbs := by unfold Lib.itoa; rw [if_pos h]; rfl
    obtain ⟨d1, d2, d3⟩ := digV_dec n.natAbs
    have d4 := dec_le 14 n.natAbs (by omega)
    rw [e, cut_yes [45]]
    dsimp only
    rw [if_neg (by omega), if_pos d2, if_pos (by rw [List.length_append, List.length_singleton]; omega), d1, show -(n.natAbs : Int) = n by omega, ← e, decide_eq_true rfl]
  · have e : Lib.itoa n = Lib.decDigits n.toNat := by unfold Lib.itoa; rw [if_neg h]
    obtain ⟨d1, d2, d3⟩ := digV_dec n.toNat
    have d4 := dec_le 14 n.toNat (by omega)
    have ec : cutS [45] (Lib.itoa n) = (Lib.itoa n, false) := by
      rw [e]
      cases hc : Lib.decDigits n.toNat with
      | nil => rw [hc] at d3; simp at d3
      | cons c r =>
        have hh := head_dig d2 hc
        exact cut_head (by intro e; rw [← e] at hh; exact absurd hh.1 (by decide))
    rw [ec]
    dsimp only
    rw [e, if_neg (by omega), if_pos d2, if_neg (by omega), d1, show ((n.toNat : Nat) : Int) = n by omega, e, decide_eq_true rfl]

/-- Where a text begins with a space or a parenthesis, or ends. -/
def StopN (u : List UInt8) : Prop := ∀ b r, u = b :: r → isN b = false
theorem stopN_sp (u : List UInt8) : StopN (32 :: u) := fun b r e => by cases e; rfl
theorem stopN_cl (u : List UInt8) : StopN (41 :: u) := fun b r e => by cases e; rfl
theorem stopN_nil : StopN [] := fun b r e => by cases e
theorem isW_N {b : UInt8} (h : isW b = true) : isN b = true := by
  unfold isW at h
  unfold isN
  have := of_decide_eq_true h
  exact decide_eq_true (by omega)
theorem StopN.stops {u : List UInt8} (h : StopN u) : Stops u := fun b r e => by
  have h1 := h b r e
  cases hw : isW b
  · rfl
  · rw [isW_N hw] at h1; cases h1
theorem twN_app : ∀ {n u : List UInt8}, n.all isN = true → StopN u → (n ++ u).takeWhile isN = n ∧ (n ++ u).dropWhile isN = u
  | [], u, _, hu => by
    rw [List.nil_append]
    cases u with
    | nil => exact ⟨rfl, rfl⟩
    | cons b r =>
      have := hu b r rfl
      rw [List.takeWhile_cons, List.dropWhile_cons, this]
      exact ⟨rfl, rfl⟩
  | c :: r, u, h, hu => by
    rw [List.all_cons, Bool.and_eq_true] at h
    obtain ⟨i1, i2⟩ := twN_app h.2 hu
    rw [List.cons_append, List.takeWhile_cons, List.dropWhile_cons, h.1, i1, i2]
    exact ⟨rfl, rfl⟩
theorem twN_split (t : List UInt8) : t.takeWhile isN ++ t.dropWhile isN = t := List.takeWhile_append_dropWhile
theorem all_WN {l : List UInt8} (h : l.all isW = true) : l.all isN = true := by
  rw [List.all_eq_true] at h ⊢
  exact fun b hb => isW_N (h b hb)
theorem all_digN {l : List UInt8} (h : l.all digB = true) : l.all isN = true := by
  rw [List.all_eq_true] at h ⊢
  exact fun b hb => isW_N (digB_w (h b hb))
theorem itoa_N (n : Int) : (Lib.itoa n).all isN = true := by
  unfold Lib.itoa
  split
  · rw [List.all_cons, all_digN (digV_dec _).2.1]; rfl
  · exact all_digN (digV_dec _).2.1
theorem nameN_begin {n u : List UInt8} (h : nameB n = true) (hu : StopN u) : cutS [40] (n ++ u) = (n ++ u, false) ∧ cutS bNot (n ++ u) = (n ++ u, false) ∧ (n ++ u).takeWhile isN = n ∧ (n ++ u).dropWhile isN = u ∧ n ≠ bAll := by
  obtain ⟨b1, b2, _, _, b5⟩ := name_begin h hu.stops
  obtain ⟨t1, t2⟩ := twN_app (all_WN (name_w h).1) hu
  exact ⟨b1, b2, t1, t2, b5⟩

/-- What is read: a condition, what is left of the text, and whether there is one. -/
abbrev Rd3 := Cnd × List UInt8 × Bool
/-- A condition about a column, behind its name. -/
def ratoC (s : Sch) (col : Int) (t v : List UInt8) : Rd3 :=
  if (cutS bMiss v).2 = true then (.mk 4 col 0 0 0 [], (cutS bMiss v).1, true)
  else if (cutS bUnder v).2 = true ∧ (colAt s col).kind = 2 then
    (.mk 2 col (findS (lstOf s (colAt s col)).1 (lstOf s (colAt s col)).2 ((cutS bUnder v).1.takeWhile isN)) 0 0 [], (cutS bUnder v).1.dropWhile isN, decide (0 ≤ findS (lstOf s (colAt s col)).1 (lstOf s (colAt s col)).2 ((cutS bUnder v).1.takeWhile isN)))
  else if (cutS bFrom v).2 = true then
    if (cutS bTo ((cutS bFrom v).1.dropWhile isN)).2 = true then
      (.mk 3 col 0 (numR ((cutS bFrom v).1.takeWhile isN)).1 (numR ((cutS bTo ((cutS bFrom v).1.dropWhile isN)).1.takeWhile isN)).1 [], (cutS bTo ((cutS bFrom v).1.dropWhile isN)).1.dropWhile isN, (numR ((cutS bFrom v).1.takeWhile isN)).2 && (numR ((cutS bTo ((cutS bFrom v).1.dropWhile isN)).1.takeWhile isN)).2)
    else (.mk 0 col 0 0 0 [], t, false)
  else (.mk 0 col 0 0 0 [], t, false)
def ratoP (s : Sch) (t : List UInt8) : Rd3 :=
  if findS2 s (t.takeWhile isN) < 0 then (.mk 0 0 0 0 0 [], t, false)
  else ratoC s (findS2 s (t.takeWhile isN)) t (t.dropWhile isN)
/-- The second one of two, behind the word. -/
def rtwo (f : List UInt8 → Rd3) (o : Int) (x : Cnd) (t v : List UInt8) : Rd3 :=
  if (f v).2.2 = true ∧ (cutS [41] (f v).2.1).2 = true then (.mk o 0 0 0 0 [x, (f v).1], (cutS [41] (f v).2.1).1, true) else (x, t, false)
def rparJ (f : List UInt8 → Rd3) (t v : List UInt8) : Rd3 :=
  if (f v).2.2 = true then
    if (cutS bOr (f v).2.1).2 = true then rtwo f 6 (f v).1 t (cutS bOr (f v).2.1).1
    else if (cutS bAnd (f v).2.1).2 = true then rtwo f 5 (f v).1 t (cutS bAnd (f v).2.1).1
    else ((f v).1, t, false)
  else ((f v).1, t, false)
def rrd (s : Sch) : Nat → List UInt8 → Rd3
  | 0, t => (.mk 0 0 0 0 0 [], t, false)
  | d + 1, t =>
    if (cutS bNot t).2 = true then (.mk 7 0 0 0 0 [(rrd s d (cutS bNot t).1).1], (rrd s d (cutS bNot t).1).2.1, (rrd s d (cutS bNot t).1).2.2)
    else if (cutS [40] t).2 = true then rparJ (fun u => rrd s d u) t (cutS [40] t).1
    else if t.takeWhile isN = bAll then (.mk 1 0 0 0 0 [], t.dropWhile isN, true)
    else ratoP s t
/-- The condition that a text is, or the error. -/
def rparS (s : Sch) (t : List UInt8) : Cnd × Int :=
  if schE s = 0 then
    (if ((rrd s 10 t).2.2 = true ∧ cndE s (rrd s 10 t).1 = 0) ∧ (rrd s 10 t).2.1 = [] then ((rrd s 10 t).1, 0) else (.mk 0 0 0 0 0 [], 11))
  else (.mk 0 0 0 0 0 [], schE s)

theorem ratoC_len (s : Sch) (col : Int) (t v : List UInt8) (h : v.length ≤ t.length) : (ratoC s col t v).2.1.length ≤ t.length := by
  have h1 := cutS_len bUnder v
  have h2 := dropWhile_len isN (cutS bUnder v).1
  have h3 := cutS_len bFrom v
  have h4 := dropWhile_len isN (cutS bFrom v).1
  have h5 := cutS_len bTo ((cutS bFrom v).1.dropWhile isN)
  have h6 := dropWhile_len isN (cutS bTo ((cutS bFrom v).1.dropWhile isN)).1
  have h7 := cutS_len bMiss v
  unfold ratoC
  (repeat' split) <;> (try dsimp only) <;> omega
theorem ratoP_len (s : Sch) (t : List UInt8) : (ratoP s t).2.1.length ≤ t.length := by
  unfold ratoP
  split
  · exact Nat.le_refl _
  · exact ratoC_len s _ t _ (dropWhile_len _ _)
theorem rtwo_len {f : List UInt8 → Rd3} (hf : ∀ u, (f u).2.1.length ≤ u.length) (o : Int) (x : Cnd) (t v : List UInt8) (h : v.length ≤ t.length) : (rtwo f o x t v).2.1.length ≤ t.length := by
  have h1 := hf v
  have h2 := cutS_len [41] (f v).2.1
  unfold rtwo
  split
  · dsimp only; omega
  · exact Nat.le_refl _
theorem rparJ_len {f : List UInt8 → Rd3} (hf : ∀ u, (f u).2.1.length ≤ u.length) (t v : List UInt8) (h : v.length ≤ t.length) : (rparJ f t v).2.1.length ≤ t.length := by
  have h1 := hf v
  have h2 := cutS_len bOr (f v).2.1
  have h3 := cutS_len bAnd (f v).2.1
  unfold rparJ
  (repeat' split)
  · exact rtwo_len hf _ _ _ _ (by omega)
  · exact rtwo_len hf _ _ _ _ (by omega)
  · exact Nat.le_refl _
  · exact Nat.le_refl _
theorem rrd_len (s : Sch) : ∀ (d : Nat) (t : List UInt8), (rrd s d t).2.1.length ≤ t.length
  | 0, t => Nat.le_refl _
  | d + 1, t => by
    have ih := rrd_len s d
    have c1 := cutS_len [40] t
    have c2 := cutS_len bNot t
    have c3 := dropWhile_len isN t
    have c4 := ratoP_len s t
    have hp := rparJ_len (f := fun u => rrd s d u) ih t (cutS [40] t).1 c1
    have i1 := ih (cutS bNot t).1
    unfold rrd
    (repeat' split) <;> (try dsimp only) <;> omega

theorem ratoC_inv {s : Sch} {col : Int} {t v : List UInt8} (h : (ratoC s col t v).2.2 = true) : colNm s col ++ v = txtS s (ratoC s col t v).1 ++ (ratoC s col t v).2.1 := by
  unfold ratoC at h ⊢
  by_cases h5 : (cutS bMiss v).2 = true
  · rw [if_pos h5] at h ⊢
    dsimp only at h ⊢
    rw [txtS, if_neg (by decide), if_neg (by decide), if_pos rfl, List.append_assoc, ← cut_inv h5]
  rw [if_neg h5] at h ⊢
  by_cases h1 : (cutS bUnder v).2 = true ∧ (colAt s col).kind = 2
  · rw [if_pos h1] at h ⊢
    dsimp only at h ⊢
    have hf := find_name (of_decide_eq_true h)
    rw [txtS, if_pos rfl, codNm, hf, List.append_assoc, List.append_assoc, twN_split, ← cut_inv h1.1]
  rw [if_neg h1] at h ⊢
  by_cases h2 : (cutS bFrom v).2 = true
  · rw [if_pos h2] at h ⊢
    by_cases h4 : (cutS bTo ((cutS bFrom v).1.dropWhile isN)).2 = true
    · rw [if_pos h4] at h ⊢
      dsimp only at h ⊢
      rw [Bool.and_eq_true] at h
      rw [txtS, if_neg (by decide), if_pos rfl, numR_inv h.1, numR_inv h.2]
      simp only [List.append_assoc]
      rw [twN_split, ← cut_inv h4, twN_split, ← cut_inv h2]
    · rw [if_neg h4] at h
      cases h
  · rw [if_neg h2] at h; cases h
theorem rtwo_inv {s : Sch} {f : List UInt8 → Rd3} (hf : ∀ u, (f u).2.2 = true → u = txtS s (f u).1 ++ (f u).2.1) {o : Int} {w : List UInt8} (ho : o = 5 ∧ w = bAnd ∨ o = 6 ∧ w = bOr) {x : Cnd} {t v v0 : List UInt8} (e0 : v0 = txtS s x ++ (w ++ v)) (h : (rtwo f o x t v).2.2 = true) : [40] ++ v0 = txtS s (rtwo f o x t v).1 ++ (rtwo f o x t v).2.1 := by
  unfold rtwo at h ⊢
  by_cases h1 : (f v).2.2 = true ∧ (cutS [41] (f v).2.1).2 = true
  · rw [if_pos h1] at h ⊢
    dsimp only
    rw [txt_two s o _ _ w ho]
    simp only [List.append_assoc]
    rw [← cut_inv h1.2, ← hf v h1.1, ← e0]
  · rw [if_neg h1] at h; cases h
theorem rparJ_inv {s : Sch} {f : List UInt8 → Rd3} (hf : ∀ u, (f u).2.2 = true → u = txtS s (f u).1 ++ (f u).2.1) {t v : List UInt8} (h : (rparJ f t v).2.2 = true) : [40] ++ v = txtS s (rparJ f t v).1 ++ (rparJ f t v).2.1 := by
  unfold rparJ at h ⊢
  by_cases h1 : (f v).2.2 = true
  · rw [if_pos h1] at h ⊢
    have e1 := hf v h1
    by_cases h2 : (cutS bOr (f v).2.1).2 = true
    · rw [if_pos h2] at h ⊢
      exact rtwo_inv hf (.inr ⟨rfl, rfl⟩) (by rw [← cut_inv h2]; exact e1) h
    rw [if_neg h2] at h ⊢
    by_cases h3 : (cutS bAnd (f v).2.1).2 = true
    · rw [if_pos h3] at h ⊢
      exact rtwo_inv hf (.inl ⟨rfl, rfl⟩) (by rw [← cut_inv h3]; exact e1) h
    · rw [if_neg h3] at h; cases h
  · rw [if_neg h1] at h; cases h
/-- What the reference reads is printed. -/
theorem rrd_inv (s : Sch) : ∀ (d : Nat) (t : List UInt8), (rrd s d t).2.2 = true → t = txtS s (rrd s d t).1 ++ (rrd s d t).2.1
  | 0, t, h => by unfold rrd at h; cases h
  | d + 1, t, h => by
    have ih := rrd_inv s d
    unfold rrd at h ⊢
    by_cases h3 : (cutS bNot t).2 = true
    · rw [if_pos h3] at h ⊢
      dsimp only at h ⊢
      rw [txt_not, List.append_assoc, ← ih _ h, ← cut_inv h3]
    rw [if_neg h3] at h ⊢
    by_cases h2 : (cutS [40] t).2 = true
    · rw [if_pos h2] at h ⊢
      have := rparJ_inv (s := s) (f := fun u => rrd s d u) ih h
      rw [← cut_inv h2] at this
      exact this
    rw [if_neg h2] at h ⊢
    by_cases h4 : t.takeWhile isN = bAll
    · rw [if_pos h4] at h ⊢
      dsimp only at h ⊢
      rw [txt_all, ← h4, twN_split]
    rw [if_neg h4] at h ⊢
    unfold ratoP at h ⊢
    by_cases h5 : findS2 s (t.takeWhile isN) < 0
    · rw [if_pos h5] at h; cases h
    rw [if_neg h5] at h ⊢
    have := ratoC_inv h
    rw [(col_found (by omega)).1, twN_split] at this
    exact this
theorem rpar_two {f : List UInt8 → Rd3} {o : Int} {w : List UInt8} (ho : o = 5 ∧ w = bAnd ∨ o = 6 ∧ w = bOr) {z t u v : List UInt8} {a b : Cnd} (h1 : f t = (a, w ++ u, true)) (h2 : f u = (b, 41 :: v, true)) : rparJ f z t = (.mk o 0 0 0 0 [a, b], v, true) := by
  have hc : cutS [41] (41 :: v) = (v, true) := cut_yes [41] v
  rcases ho with ⟨rfl, rfl⟩ | ⟨rfl, rfl⟩
  · have hd := cut_yes bAnd u
    have he : cutS bOr (bAnd ++ u) = (bAnd ++ u, false) := rfl
    unfold rparJ rtwo
    simp only [h1, hd, he, h2, hc, if_true, Bool.false_eq_true, if_false, and_self]
  · have hd := cut_yes bOr u
    unfold rparJ rtwo
    simp only [h1, hd, h2, hc, if_true, and_self]
set_option maxHeartbeats 2000000 in
/-- What is printed is read by the reference. -/
theorem rrd_txt {s : Sch} (hr : schE s = 0) (c : Cnd) : chkS s c = 0 → ∀ (d : Nat) (u : List UInt8), depS c ≤ d → StopN u → rrd s d (txtS s c ++ u) = (c, u, true) := by
  refine cnd_ind (p := fun c => chkS s c = 0 → ∀ (d : Nat) (u : List UInt8), depS c ≤ d → StopN u → rrd s d (txtS s c ++ u) = (c, u, true)) (fun c ih h d u hd hu => ?_) c
  obtain ⟨h1, h2⟩ := chkS_parts h
  obtain ⟨p1, p2, p3, p4, p5, p6⟩ := conE_parts h1
  obtain ⟨z1, z2, z3⟩ := conE_zero h1
  obtain ⟨k1, k2, k3⟩ := kidN_of c.op
  obtain ⟨d, rfl⟩ : ∃ e, d = e + 1 := ⟨d - 1, by have := depS_eq c; omega⟩
  have htx := txtS_eq s c
  by_cases ho : c.op = 2 ∨ c.op = 3 ∨ c.op = 4
  · have hk0 : c.kids = [] := List.eq_nil_of_length_eq_zero (by have := k3 (by omega) (by omega) (by omega); omega)
    obtain ⟨x, hx, c1, c2, _⟩ := atom_col hr h1 ho
    have e : ((c.col.toNat : Nat) : Int) = c.col := by omega
    obtain ⟨hnm, _⟩ := col_parts hr hx
    have hcn : colNm s c.col = x.name := by unfold colNm; rw [colAt_get hx]
    have hfc : findS2 s x.name = c.col := by rw [find_col hr hx]; exact e
    have hca : colAt s c.col = x := colAt_get hx
    rw [hcn] at htx
    have fin : ∀ v, StopN v → txtS s c ++ u = x.name ++ v → ratoC s c.col (x.name ++ v) v = (c, u, true) → rrd s (d + 1) (txtS s c ++ u) = (c, u, true) := fun v hv e he => by
      obtain ⟨b1, b2, b3, b4, b5⟩ := nameN_begin hnm hv
      rw [e]
      unfold rrd
      rw [b2, if_neg Bool.false_ne_true, b1, if_neg Bool.false_ne_true, b3, if_neg b5]
      unfold ratoP
      rw [b3, b4, hfc, if_neg (by omega), he]
    by_cases o2 : c.op = 2
    · rw [if_pos o2] at htx
      refine fin (bUnder ++ (codNm s c.col c.code ++ u)) (stopN_sp _) (by rw [htx]; simp only [List.append_assoc]) ?_
      obtain ⟨q1, q2, q3⟩ := p4 o2
      rw [hca] at q1 q3
      have hlt := RightS.lst hr (List.mem_of_getElem? hx) q1
      obtain ⟨lx, hlx⟩ : ∃ l, s.lists[x.lst.toNat]? = some l := ⟨_, List.getElem?_eq_getElem (by omega)⟩
      have hchk : chk lx.1 lx.2 = 0 := (schE_parts hr).2.2.1 _ (List.mem_of_getElem? hlx)
      rw [lstOf_get hlx] at q3
      obtain ⟨cd, hcd⟩ : ∃ cd, lx.2[c.code.toNat]? = some cd := ⟨_, List.getElem?_eq_getElem (by omega)⟩
      have hcn : codNm s c.col c.code = cd.name := by
        unfold codNm
        rw [hca, lstOf_get hlx, List.getD_eq_getElem?_getD, hcd]; rfl
      have hcnm := chk_names hchk cd (List.mem_of_getElem? hcd)
      obtain ⟨t1, t2⟩ := twN_app (all_WN (name_w hcnm).1) hu
      have hf := find_code hchk hcd
      unfold ratoC
      have e0 : ∀ y, cutS bMiss (bUnder ++ y) = (bUnder ++ y, false) := fun y => rfl
      rw [e0, if_neg Bool.false_ne_true, cut_yes bUnder, hcn, if_pos ⟨rfl, by rw [hca]; exact q1⟩, hca]
      dsimp only
      rw [t1, t2, lstOf_get hlx, hf, decide_eq_true (by omega)]
      obtain ⟨o, cl, k, lo, hi, ks⟩ := c
      dsimp only [Cnd.op, Cnd.col, Cnd.code, Cnd.lo, Cnd.hi, Cnd.kids] at *
      obtain ⟨rfl, rfl⟩ := z3 (by omega)
      subst o2 hk0
      rw [show ((k.toNat : Nat) : Int) = k by omega]
    · rw [if_neg o2] at htx
      by_cases o3 : c.op = 3
      · rw [if_pos o3] at htx
        refine fin (bFrom ++ (Lib.itoa c.lo ++ (bTo ++ (Lib.itoa c.hi ++ u)))) (stopN_sp _) (by rw [htx]; simp only [List.append_assoc]) ?_
        obtain ⟨q1, q2, q3, q4⟩ := p5 o3
        unfold ratoC
        have e0 : ∀ y, cutS bMiss (bFrom ++ y) = (bFrom ++ y, false) := fun y => rfl
        have e1 : ∀ y, cutS bUnder (bFrom ++ y) = (bFrom ++ y, false) := fun y => rfl
        obtain ⟨t1, t2⟩ := twN_app (itoa_N c.lo) (stopN_sp ([116, 111, 32] ++ (Lib.itoa c.hi ++ u)))
        obtain ⟨t3, t4⟩ := twN_app (itoa_N c.hi) hu
        rw [e0, if_neg Bool.false_ne_true, e1, if_neg (fun hh => Bool.false_ne_true hh.1), cut_yes bFrom, if_pos rfl]
        dsimp only
        rw [show (Lib.itoa c.lo ++ (bTo ++ (Lib.itoa c.hi ++ u))) = Lib.itoa c.lo ++ 32 :: ([116, 111, 32] ++ (Lib.itoa c.hi ++ u)) from rfl, t1, t2, show (32 : UInt8) :: ([116, 111, 32] ++ (Lib.itoa c.hi ++ u)) = bTo ++ (Lib.itoa c.hi ++ u) from rfl, cut_yes bTo, if_pos rfl]
        dsimp only
        rw [t3, t4, numR_txt (by omega) (by omega), numR_txt (by omega) (by omega)]
        obtain ⟨o, cl, k, lo, hi, ks⟩ := c
        dsimp only [Cnd.op, Cnd.col, Cnd.code, Cnd.lo, Cnd.hi, Cnd.kids] at *
        obtain rfl := z2 (by omega)
        subst o3 hk0
        rfl
      · have o4 : c.op = 4 := by omega
        rw [if_neg o3, if_pos o4] at htx
        refine fin (bMiss ++ u) (stopN_sp _) (by rw [htx, List.append_assoc]) ?_
        unfold ratoC
        rw [cut_yes bMiss, if_pos rfl]
        obtain ⟨o, cl, k, lo, hi, ks⟩ := c
        dsimp only [Cnd.op, Cnd.col, Cnd.code, Cnd.lo, Cnd.hi, Cnd.kids] at *
        obtain rfl := z2 (by omega)
        obtain ⟨rfl, rfl⟩ := z3 (by omega)
        subst o4 hk0
        rfl
  · clear htx
    have hz1 := z1 (by omega) (by omega) (by omega)
    have hz2 := z2 (by omega)
    obtain ⟨hz3, hz4⟩ := z3 (by omega)
    obtain ⟨o, cl, k, lo, hi, ks⟩ := c
    dsimp only [Cnd.op, Cnd.col, Cnd.code, Cnd.lo, Cnd.hi, Cnd.kids] at *
    subst hz1 hz2 hz3 hz4
    by_cases h56 : o = 5 ∨ o = 6
    · obtain ⟨x, y, rfl⟩ : ∃ x y, ks = [x, y] := kids_two (c := .mk o 0 0 0 0 ks) (by have := k1 h56; show ks.length = 2; omega)
      have hx := h2 x (by simp)
      have hy := h2 y (by simp)
      obtain ⟨tt, td⟩ := tot_two o x y
      have e1 : ∀ w, cutS [40] ([40] ++ w) = (w, true) := fun w => cut_yes [40] w
      have e2 : ∀ w, cutS bNot ([40] ++ w) = ([40] ++ w, false) := fun w => rfl
      have ix := fun v hv => ih x (by simp) hx d v (by omega) hv
      have iy := fun v hv => ih y (by simp) hy d v (by omega) hv
      obtain ⟨w, hw, hsw⟩ : ∃ w, (o = 5 ∧ w = bAnd ∨ o = 6 ∧ w = bOr) ∧ ∀ z, StopN (w ++ z) := by
        rcases h56 with rfl | rfl
        · exact ⟨bAnd, .inl ⟨rfl, rfl⟩, fun z => stopN_sp _⟩
        · exact ⟨bOr, .inr ⟨rfl, rfl⟩, fun z => stopN_sp _⟩
      have htx := txt_two s o x y w hw
      rw [htx, show [40] ++ txtS s x ++ w ++ txtS s y ++ [41] ++ u = [40] ++ (txtS s x ++ (w ++ (txtS s y ++ (41 :: u)))) by simp]
      unfold rrd
      rw [e2, if_neg Bool.false_ne_true, e1, if_pos rfl]
      exact rpar_two (f := fun u => rrd s d u) hw (ix (w ++ (txtS s y ++ 41 :: u)) (hsw _)) (iy (41 :: u) (stopN_cl _))
    · by_cases h7 : o = 7
      · obtain ⟨x, rfl⟩ : ∃ x, ks = [x] := kids_one (c := .mk o 0 0 0 0 ks) (by have := k2 h7; show ks.length = 1; omega)
        have hx := h2 x (by simp)
        obtain ⟨tt, td⟩ := tot_one o x
        subst h7
        have htx := txt_not s x
        unfold rrd
        rw [htx, show bNot ++ txtS s x ++ u = bNot ++ (txtS s x ++ u) by simp, cut_yes bNot, if_pos rfl]
        dsimp only
        rw [ih x (by simp) hx d u (by omega) hu]
      · have h1' : o = 1 := by omega
        have hk0 : ks = [] := List.eq_nil_of_length_eq_zero (by have := k3 (by omega) (by omega) h7; omega)
        subst h1' hk0
        have htx := txt_all s
        unfold rrd
        rw [htx]
        obtain ⟨t1, t2⟩ := twN_app (n := bAll) (by decide) hu
        rw [show cutS [40] (bAll ++ u) = (bAll ++ u, false) from rfl, show cutS bNot (bAll ++ u) = (bAll ++ u, false) from rfl, if_neg Bool.false_ne_true, if_neg Bool.false_ne_true, t1, if_pos rfl, t2]
/-- Both readers read the same. -/
theorem rpar_eq (s : Sch) (t : List UInt8) : rparS s t = parS s t := by
  by_cases hr : schE s = 0
  · have hw : ∀ c, ((rrd s 10 t).2.2 = true ∧ cndE s (rrd s 10 t).1 = 0) ∧ (rrd s 10 t).2.1 = [] ∧ (rrd s 10 t).1 = c ↔ cndE s c = 0 ∧ t = txtS s c := fun c => by
      constructor
      · rintro ⟨⟨h1, h2⟩, h3, rfl⟩
        have e := rrd_inv s 10 t h1
        rw [h3, List.append_nil] at e
        exact ⟨h2, e⟩
      · rintro ⟨h1, rfl⟩
        obtain ⟨_, _, h4, h5⟩ := cndE_parts h1
        have e := rrd_txt hr c h5 10 [] h4 stopN_nil
        rw [List.append_nil] at e
        rw [e]
        exact ⟨⟨rfl, h1⟩, rfl, rfl⟩
    unfold rparS
    rw [if_pos hr]
    split
    · rename_i h
      exact ((par_iff hr t _).2 ((hw _).1 ⟨h.1, h.2, rfl⟩)).symm
    · rename_i h
      rcases par_cases hr t with ⟨c, hc⟩ | hc
      · obtain ⟨h1, h2, h3⟩ := (hw c).2 ((par_iff hr t c).1 hc)
        exact absurd ⟨h1, h2⟩ h
      · exact hc.symm
  · unfold rparS parS
    rw [if_neg hr, if_neg hr]
end Go.Proofs.YtghlhejdfgkjaaaGreatDoor

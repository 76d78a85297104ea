/- Chapter 17: plain facts on measures and their levels. Chapter 17: drawn expressions are right, and have kinds. Chapter 17: what right expressions need are picks of all columns. -/
import Derived.Test.YtepdcljecfibpaaGreatDoorQF3
import Derived.Test.YtepdcljecfibpaaGreatDoorQF5
import Derived.Test.YtepdcljecfibpaaGreatDoorQD2
namespace Go.Proofs.YtepdcljecfibpaaGreatDoor
open Go Go.Av
attribute [local irreducible] AWp AOps AAny MAny DQ retQ retG St.le FCall GCall
set_option linter.unusedVariables false
set_option linter.unnecessarySimpa false
set_option linter.unusedSimpArgs false
set_option maxRecDepth 100000
theorem fin_nn {s : Sch} (hr : schE s = 0) {c : Int} {x : Col} (h0 : 1 ≤ c) (hc : s.cols[c.toNat]? = some x) (hk : x.kind = 3) : finestS s c = x.widths.length := by
  have hlt := lt_of_get hc
  unfold finestS finS
  rw [if_pos hr, if_neg (by omega), colAt_get hc, finC, if_neg (by omega)]
theorem mea_pos {s : Sch} (hr : schE s = 0) {c : Int} (h : isB s c 3 = true) : 1 ≤ c := by
  obtain ⟨h0, h1, x, hx, hk⟩ := isB_col h
  by_cases hz : c = 0
  · obtain ⟨_, _, _, _, h5⟩ := schE_parts hr
    subst hz
    have : s.cols.head? = some x := by rw [← hx]; cases s.cols <;> rfl
    rw [this] at h5
    simp only [Option.map_some, Option.some.injEq] at h5
    omega
  · omega
theorem levO_bd (ws : List Int) (w : Int) : 0 ≤ levO ws w ∧ levO ws w ≤ ws.length := by
  unfold levO
  have := idxP_ge (fun x => decide (x = w)) ws 0
  split <;> omega
theorem RigE.trm {s : Sch} {e : Xpr} (h : RigE s e) : ∀ c ∈ e.cols, isB s c 3 = true := by
  intro c hc
  have hpar := h.par
  have h4 := h.unu.2.2.2.1
  unfold parB at hpar
  have h11 : e.op = 11 := by
    rcases h4 with h | h
    · exact h
    · rw [List.eq_nil_of_length_eq_zero h] at hc; cases hc
  rw [if_neg (by omega), if_neg (by omega), if_neg (by omega), if_neg (by omega), if_pos h11] at hpar
  simp only [Bool.and_eq_true] at hpar
  have hde := of_decide_eq_true hpar.2
  unfold trmsE at hde
  split at hde
  · cases hde
  · obtain ⟨i, hi, he⟩ := List.getElem_of_mem hc
    have := firstE_zero hde i c (by rw [List.getElem?_eq_getElem hi, he])
    unfold trmE at this
    split at this
    · cases this
    · rename_i hb; simpa using hb
theorem RigE.dim {s : Sch} {e : Xpr} (h : RigE s e) : ∀ d ∈ e.dims, pickE s d = 0 := by
  intro d hd
  have hpar := h.par
  have h5 := h.unu.2.2.2.2.1
  unfold parB at hpar
  have h10 : e.op = 10 := by
    rcases h5 with h | h
    · exact h
    · rw [List.eq_nil_of_length_eq_zero h] at hd; cases hd
  rw [if_neg (by omega), if_neg (by omega), if_neg (by omega), if_pos h10] at hpar
  simp only [Bool.and_eq_true] at hpar
  have hde := of_decide_eq_true hpar.1
  unfold dimsE at hde
  split at hde
  · cases hde
  · obtain ⟨i, hi, he⟩ := List.getElem_of_mem hd
    have := firstE_zero hde i d (by rw [List.getElem?_eq_getElem hi, he])
    unfold dimE at this
    split at this
    · exact absurd this (by assumption)
    · rename_i hpe; exact Decidable.of_not_not hpe
theorem pick_col3 {s : Sch} {p : Pk} (h : pickE s p = 0) : 0 ≤ p.col ∧ p.col < s.cols.length := by
  unfold pickE pkE finS at h
  by_cases hc : p.col < 1 ∨ (s.cols.length : Int) ≤ p.col
  · rw [if_pos hc] at h
    split at h
    · rw [if_pos (show (-1 : Int) < 0 by omega)] at h
      omega
    · exact absurd h (by assumption)
  · omega
theorem rig_mk {s : Sch} {e : Xpr} (h : RigE s e) : rigS s e = true := by
  have hk : e.kids.any (badK s) = false := List.any_eq_false.2 fun k hk => by
    obtain ⟨h1, h2⟩ := h.kid k hk
    simp only [badK, decide_eq_true h1, h2]
    decide
  rw [rigS_eq, hk]
  unfold oneX
  have e4 : (decide (¬ usCnd e.op) || decide (cndE s e.cnd = 0)) = true := by
    by_cases hc : usCnd e.op
    · rw [decide_eq_true (h.cnd hc)]; simp
    · rw [decide_eq_true hc]; rfl
  have e5 : (decide (¬ usEvt e.op) || decide (cndE s e.evt = 0)) = true := by
    by_cases hc : usEvt e.op
    · rw [decide_eq_true (h.evt hc)]; simp
    · rw [decide_eq_true hc]; rfl
  have e6 : (decide (¬ pairP e.op) || decide (e.kids.length = 2)) = true := by
    by_cases hc : pairP e.op
    · rw [decide_eq_true (h.pair hc)]; simp
    · rw [decide_eq_true hc]; rfl
  rw [decide_eq_true h.op, decide_eq_true h.unu, h.par, e4, e5, e6]; rfl
theorem zC_emp : empP zC := ⟨rfl, rfl, rfl, rfl, rfl, rfl⟩
structure XprOk (s : Sch) (names : List (List UInt8)) (e : Xpr) (d : Nat) : Prop where
  rig : rigS s e = true
  tot : totS (treeX e) + 1 ≤ 2 ^ (d + 1)
  dep : depS (treeX e) ≤ d + 1
  nam : ∀ g : List UInt8 → Bool, (∀ nm ∈ names, g nm = true) → namS g e = true
  kin : ∀ bs : List Bnd, (∀ nm ∈ names, bndK bs nm = (1, 0)) → (kinS bs e).2 = 0 ∧ (numP e.op → (kinS bs e).1 = 1)
theorem leaf_ok {s : Sch} {names : List (List UInt8)} {e : Xpr} (d : Nat) (h : RigE s e) (hk : e.kids = []) (ho : e.op = 2 → e.name ∈ names) : XprOk s names e d := by
  have hp : 2 ≤ 2 ^ (d + 1) := by rw [Nat.pow_succ]; have := Nat.one_le_two_pow (n := d); omega
  refine ⟨rig_mk h, ?_, ?_, fun g hg => ?_, fun bs hb => ?_⟩
  · rw [totS_eq, tree_kids, hk]; simpa [totL] using hp
  · rw [depS_eq, tree_kids, hk]; simp [depL]
  · rw [namS_eq, hk]
    by_cases h2 : e.op = 2
    · rw [hg _ (ho h2)]; simp
    · rw [decide_eq_false h2]; rfl
  · rw [kinS_eq, hk, show kinL bs [] true = (0, true) from rfl]
    dsimp only
    rw [if_pos rfl]
    unfold endK
    by_cases h2 : e.op = 2
    · rw [if_pos h2, hb _ (ho h2)]; exact ⟨rfl, fun _ => rfl⟩
    · rw [if_neg h2, if_neg (by decide)]
      split
      · exact ⟨rfl, fun _ => rfl⟩
      · exact ⟨rfl, fun h => absurd h (by assumption)⟩
theorem meas_ok {s : Sch} (hd : Drawn s) (l : List UInt8) (a : Nat) : isB s ((colD l a s 3).1 : Nat) 3 = true := by
  obtain ⟨_, h1, h2⟩ := colD_ok (l := l) (a := a) hd.two.2
  unfold isB
  rw [decide_eq_true_iff]
  exact ⟨by omega, by omega, h2⟩
theorem rig_leaf {s : Sch} {e : Xpr} (h1 : 1 ≤ e.op ∧ e.op ≤ 14) (h2 : ¬ pairP e.op) (hu : unuX e) (hp : parB s e = true) (hc : usCnd e.op → cndE s e.cnd = 0) (hv : usEvt e.op → cndE s e.evt = 0) : RigE s e :=
  ⟨h1, hu, hp, hc, hv, fun h => absurd h h2, fun k hk => by
    rcases hu.2.2.2.2.2.2.2 with h | h
    · exact absurd h h2
    · rw [List.eq_nil_of_length_eq_zero h] at hk; cases hk⟩
theorem par1 {s : Sch} {e : Xpr} (h : e.op = 1) : parB s e = decide (-1099511627776 ≤ e.num ∧ e.num ≤ 1099511627776) := by unfold parB; rw [if_pos h]
theorem par2 {s : Sch} {e : Xpr} (h : e.op = 2) : parB s e = nameB e.name := by unfold parB; rw [if_neg (by omega), if_pos h]
theorem par4 {s : Sch} {e : Xpr} (h : e.op = 4 ∨ e.op = 5 ∨ e.op = 14) : parB s e = isB s e.col 3 := by unfold parB; rw [if_neg (by omega), if_neg (by omega), if_pos h]
theorem par10 {s : Sch} {e : Xpr} (h : e.op = 10) : parB s e = (decide (dimsE s e.dims = 0) && (decide (e.col = -1) || isB s e.col 3)) := by unfold parB; rw [if_neg (by omega), if_neg (by omega), if_neg (by omega), if_pos h]
theorem par11 {s : Sch} {e : Xpr} (h : e.op = 11) : parB s e = (isB s e.col 3 && decide (trmsE s e.col e.cols = 0)) := by unfold parB; rw [if_neg (by omega), if_neg (by omega), if_neg (by omega), if_neg (by omega), if_pos h]
theorem par12 {s : Sch} {e : Xpr} (h : e.op = 12) : parB s e = (isB s e.col 3 && decide (0 ≤ (colAt s e.col).low)) := by unfold parB; rw [if_neg (by omega), if_neg (by omega), if_neg (by omega), if_neg (by omega), if_neg (by omega), if_pos h]
theorem par13 {s : Sch} {e : Xpr} (h : e.op = 13) : parB s e = (isB s e.col 3 && (colAt s e.col).widths.any fun x => decide (x = e.num)) := by unfold parB; rw [if_neg (by omega), if_neg (by omega), if_neg (by omega), if_neg (by omega), if_neg (by omega), if_neg (by omega), if_pos h]
theorem par3 {s : Sch} {e : Xpr} (h : e.op = 3 ∨ 6 ≤ e.op ∧ e.op ≤ 9) : parB s e = true := by unfold parB; rw [if_neg (by omega), if_neg (by omega), if_neg (by omega), if_neg (by omega), if_neg (by omega), if_neg (by omega), if_neg (by omega)]
theorem numL_ok {s : Sch} (hd : Drawn s) (l : List UInt8) (names : List (List UInt8)) (hn : ∀ nm ∈ names, nameB nm = true) (d a : Nat) : XprOk s names (numL l s names a).1 d ∧ numP (numL l s names a).1.op := by
  unfold numL
  have h40 := nxt_lt l (nxt l a 6).2 (n := 40) (by omega)
  have hmo := meas_ok hd l (nxt l a 6).2
  have c1 := (cond_right hd l 1 (colD l (nxt l a 6).2 s 3).2 (by omega)).1
  have c0 := (cond_right hd l 0 (colD l (nxt l a 6).2 s 3).2 (by omega)).1
  have c2 := (cond_right hd l 2 (nxt l a 6).2 (by omega)).1
  split
  · refine ⟨leaf_ok d (rig_leaf (by simp [Xpr.op]) (by simp [Xpr.op, pairP]) ?_ ?_ (by simp [Xpr.op, usCnd]) (by simp [Xpr.op, usEvt])) rfl (by simp [Xpr.op]), by simp [Xpr.op, numP]⟩
    · exact ⟨.inl (.inl rfl), .inr rfl, .inr rfl, .inr rfl, .inr rfl, .inr zC_emp, .inr zC_emp, .inr rfl⟩
    · refine (par1 rfl).trans (decide_eq_true ?_)
      dsimp only [Xpr.num]
      omega
  · split
    · rename_i h2
      have hlt := nxt_lt l (nxt l a 6).2 (n := (names.length : Int)) (by omega)
      have hm : names.getD (nxt l (nxt l a 6).2 names.length).1 [] ∈ names := by
        rw [List.getD_eq_getElem?_getD, List.getElem?_eq_getElem (by omega)]
        exact List.getElem_mem _
      refine ⟨leaf_ok d (rig_leaf (by simp [Xpr.op]) (by simp [Xpr.op, pairP]) ?_ ?_ (by simp [Xpr.op, usCnd]) (by simp [Xpr.op, usEvt])) rfl (fun _ => hm), by simp [Xpr.op, numP]⟩
      · exact ⟨.inr rfl, .inl rfl, .inr rfl, .inr rfl, .inr rfl, .inr zC_emp, .inr zC_emp, .inr rfl⟩
      · exact (par2 rfl).trans (hn _ hm)
    · split
      · refine ⟨leaf_ok d (rig_leaf (by simp [Xpr.op]) (by simp [Xpr.op, pairP]) ?_ ?_ (fun _ => c1) (by simp [Xpr.op, usEvt])) rfl (by simp [Xpr.op]), by simp [Xpr.op, numP]⟩
        · exact ⟨.inr rfl, .inr rfl, .inl (by simp [Xpr.op, usCol]), .inr rfl, .inr rfl, .inl (by simp [Xpr.op, usCnd]), .inr zC_emp, .inr rfl⟩
        · exact (par4 (by simp [Xpr.op])).trans hmo
      · split
        · refine ⟨leaf_ok d (rig_leaf (by simp [Xpr.op]) (by simp [Xpr.op, pairP]) ?_ ?_ (fun _ => c0) (by simp [Xpr.op, usEvt])) rfl (by simp [Xpr.op]), by simp [Xpr.op, numP]⟩
          · exact ⟨.inr rfl, .inr rfl, .inl (by simp [Xpr.op, usCol]), .inr rfl, .inr rfl, .inl (by simp [Xpr.op, usCnd]), .inr zC_emp, .inr rfl⟩
          · exact (par4 (by simp [Xpr.op])).trans hmo
        · refine ⟨leaf_ok d (rig_leaf (by simp [Xpr.op]) (by simp [Xpr.op, pairP]) ?_ ?_ (fun _ => c2) (by simp [Xpr.op, usEvt])) rfl (by simp [Xpr.op]), by simp [Xpr.op, numP]⟩
          · exact ⟨.inr rfl, .inr rfl, .inr rfl, .inr rfl, .inr rfl, .inl (by simp [Xpr.op, usCnd]), .inr zC_emp, .inr rfl⟩
          · exact par3 (.inl rfl)
theorem pair_ok {s : Sch} {names : List (List UInt8)} {x y : Xpr} {d : Nat} (o : Int) (ho : 6 ≤ o ∧ o ≤ 9) (hx : XprOk s names x d) (hy : XprOk s names y d) (px : numP x.op) (py : numP y.op) : XprOk s names (.mk o 0 [] 0 [] [] zC zC [x, y]) (d + 1) := by
  have hp : 2 ^ (d + 1 + 1) = 2 * 2 ^ (d + 1) := by rw [Nat.pow_succ]; omega
  refine ⟨rig_mk ⟨?_, ?_, ?_, ?_, ?_, fun _ => rfl, ?_⟩, ?_, ?_, fun g hg => ?_, fun bs hb => ?_⟩
  · dsimp only [Xpr.op]; omega
  · exact ⟨.inr rfl, .inr rfl, .inr rfl, .inr rfl, .inr rfl, .inr zC_emp, .inr zC_emp, .inl ho⟩
  · exact par3 (.inr ho)
  · intro h; simp only [usCnd, Xpr.op] at h; omega
  · intro h; simp only [usEvt, Xpr.op] at h; omega
  · intro k hk
    simp only [Xpr.kids, List.mem_cons, List.not_mem_nil, or_false] at hk
    rcases hk with rfl | rfl
    · exact ⟨px, hx.rig⟩
    · exact ⟨py, hy.rig⟩
  · rw [totS_eq, tree_kids]
    have h1 := hx.tot; have h2 := hy.tot
    simp only [Xpr.kids, List.map_cons, List.map_nil, totL]; omega
  · rw [depS_eq, tree_kids]
    have h1 := hx.dep; have h2 := hy.dep
    simp only [Xpr.kids, List.map_cons, List.map_nil, depL]; omega
  · have e1 : ¬ (Xpr.mk o 0 [] 0 [] [] zC zC [x, y]).op = 2 := by show ¬ o = 2; omega
    have e2 : ((Xpr.mk o 0 [] 0 [] [] zC zC [x, y]).kids.any fun k => !namS g k) = false := by
      show ([x, y].any fun k => !namS g k) = false
      simp [hx.nam g hg, hy.nam g hg]
    rw [namS_eq, decide_eq_false e1, e2]; rfl
  · obtain ⟨a1, a2⟩ := hx.kin bs hb
    obtain ⟨b1, b2⟩ := hy.kin bs hb
    have e : kinL bs (Xpr.mk o 0 [] 0 [] [] zC zC [x, y]).kids true = (0, true) := by
      show kinL bs [x, y] true = (0, true)
      rw [kinL, if_pos a1, kinL, if_pos b1, a2 px, b2 py]; rfl
    have e1 : ¬ (Xpr.mk o 0 [] 0 [] [] zC zC [x, y]).op = 2 := by show ¬ o = 2; omega
    have e2 : numP (Xpr.mk o 0 [] 0 [] [] zC zC [x, y]).op := by show 1 ≤ o ∧ o ≤ 9; omega
    rw [kinS_eq, e, if_pos rfl]
    unfold endK
    rw [if_neg e1, if_neg (by decide), if_pos e2]
    exact ⟨rfl, fun _ => rfl⟩
theorem numS_ok {s : Sch} (hd : Drawn s) (l : List UInt8) (names : List (List UInt8)) (hn : ∀ nm ∈ names, nameB nm = true) : ∀ d a : Nat, XprOk s names (numS l s names d a).1 d ∧ numP (numS l s names d a).1.op
  | 0, a => numL_ok hd l names hn 0 a
  | d + 1, a => by
    unfold numS
    split
    · have h4 := nxt_lt l (nxt l a 2).2 (n := 4) (by omega)
      obtain ⟨x1, x2⟩ := numS_ok hd l names hn d (nxt l (nxt l a 2).2 4).2
      obtain ⟨y1, y2⟩ := numS_ok hd l names hn d (numS l s names d (nxt l (nxt l a 2).2 4).2).2
      exact ⟨pair_ok _ (by omega) x1 y1 x2 y2, by simp only [Xpr.op, numP]; omega⟩
    · exact numL_ok hd l names hn (d + 1) (nxt l a 2).2
theorem lvM_mem {l : List Pk} {i : Nat} (h : 0 < lvM l i) : ∃ q ∈ l, q.col = (i : Int) ∧ q.lev = lvM l i := by
  induction l with
  | nil => simp [lvM_nil] at h
  | cons p r ih =>
    have e : lvM (p :: r) i = max (lvM [p] i) (lvM r i) := lvM_app [p] r i
    rw [e, lvM_one] at h ⊢
    by_cases hc : p.col = (i : Int)
    · rw [if_pos hc] at h ⊢
      by_cases h2 : lvM r i < p.lev
      · exact ⟨p, by simp, hc, by omega⟩
      · obtain ⟨q, h3, h4, h5⟩ := ih (by omega)
        exact ⟨q, by simp [h3], h4, by omega⟩
    · rw [if_neg hc] at h ⊢
      obtain ⟨q, h3, h4, h5⟩ := ih (by omega)
      exact ⟨q, by simp [h3], h4, by omega⟩
theorem Drawn.fin {s : Sch} (hd : Drawn s) {c : Int} (h1 : 1 ≤ c) (h2 : c < s.cols.length) : 0 ≤ finestS s c ∧ finestS s c ≤ 4 ∧ finestS s c = finS s c := by
  obtain ⟨n, h3, h4, _⟩ := hd.chain (i := c.toNat) (by omega) (List.getElem?_eq_getElem (show c.toNat < s.cols.length by omega))
  rw [show ((c.toNat : Nat) : Int) = c by omega] at h3
  exact ⟨by omega, by omega, by unfold finestS; rw [if_pos hd.ok]⟩
theorem least_le (s : Sch) (c l : Int) (h : 0 ≤ l) : leastS s c l ≤ l := by
  unfold leastS
  split
  · omega
  · have key : ∀ k : Nat, leastK s (colAt s c) k ≤ k := by
      intro k
      induction k with
      | zero => unfold leastK; omega
      | succ k ih => unfold leastK; split <;> omega
    have := key l.toNat
    omega
abbrev fitP (s : Sch) (q : Pk) : Prop := 1 ≤ q.col ∧ q.lev ≤ finestS s q.col
theorem exa_fit {s : Sch} (hd : Drawn s) {c : Int} (h : isB s c 3 = true) : fitP s (exaS s c) := by
  have h1 := mea_pos hd.ok h
  have h2 := hd.fin h1 (isB_col h).2.1
  exact ⟨h1, least_le s c _ (by omega)⟩
theorem dim_fit {s : Sch} (hd : Drawn s) {d : Pk} (h : pickE s d = 0) : fitP s (dimS s d) := by
  have hp := pick_col3 h
  unfold pickE pkE at h
  rw [if_pos hd.ok] at h
  split at h
  · cases h
  · rename_i h1
    split at h
    · cases h
    · rename_i h2
      have hc : 1 ≤ d.col := by
        unfold finS at h1
        by_cases hc : d.col < 1 ∨ (s.cols.length : Int) ≤ d.col
        · rw [if_pos hc] at h1; omega
        · omega
      have hf := (hd.fin hc hp.2).2.2
      have := least_le s d.col d.lev (by omega)
      exact ⟨hc, by dsimp only [dimS]; omega⟩
theorem own_fit {s : Sch} (hd : Drawn s) {e : Xpr} (hg : RigE s e) : ∀ q ∈ ownS s e, fitP s q := by
  intro q hq
  unfold ownS at hq
  rcases List.mem_append.1 hq with hq | hq
  rcases List.mem_append.1 hq with hq | hq
  · obtain ⟨d, h1, rfl⟩ := List.mem_map.1 hq
    exact dim_fit hd (hg.dim d h1)
  · unfold ownM at hq
    split at hq
    · split at hq
      · simp only [List.mem_singleton] at hq
        subst hq
        rcases hg.col (by simp only [usCol]; omega) with h | h
        · omega
        · exact exa_fit hd h
      · cases hq
    · split at hq
      · simp only [List.mem_singleton] at hq
        subst hq
        rename_i h1 h2
        rcases hg.col (by simp only [usCol]; omega) with h | h
        · omega
        · have hp := mea_pos hd.ok h
          obtain ⟨q1, q2, x, hx, hk⟩ := isB_col h
          have hb := levO_bd (colAt s e.col).widths e.num
          have hf := fin_nn hd.ok hp hx hk
          rw [← colAt_get hx] at hf
          have := least_le s e.col (levO (colAt s e.col).widths e.num) hb.1
          exact ⟨hp, by dsimp only; omega⟩
      · cases hq
  · obtain ⟨c, h1, rfl⟩ := List.mem_map.1 hq
    exact exa_fit hd (hg.trm c h1)
theorem need_fit {s : Sch} (hd : Drawn s) {c : Cnd} : ∀ q ∈ needS s c, fitP s q := by
  intro q hq
  obtain ⟨h1, h2, h3, h4, h5⟩ := need_mem hq
  obtain ⟨hr, _, _, hcs⟩ := cndE_parts h1
  have hat := atm_right c hcs
  have hc : 1 ≤ q.col := by
    refine Classical.byContradiction fun hn => ?_
    have hz : q.col.toNat = 0 := by omega
    rw [hz] at h4
    have := lvA_le (s := s) (i := 0) (B := 0) (Int.le_refl _) (atmS c) fun a ha he => by
      obtain ⟨r1, r2⟩ := hat a ha
      obtain ⟨x, _, c1, _⟩ := atom_col hr r1 r2
      omega
    omega
  have hf := hd.fin hc h3
  refine ⟨hc, ?_⟩
  rw [h4]
  refine lvA_le hf.1 _ fun a ha he => ?_
  obtain ⟨r1, r2⟩ := hat a ha
  have := (levS_spec hr r1 r2).1
  rw [he, show ((q.col.toNat : Nat) : Int) = q.col by omega] at this
  omega
theorem ned_fit {s : Sch} (hd : Drawn s) (e : Xpr) : rigS s e = true → ∀ q ∈ nedS s e, (1 ≤ q.col ∧ q.col < s.cols.length) ∧ 1 ≤ q.lev ∧ q.lev ≤ finestS s q.col := by
  refine xpr_ind (p := fun e => rigS s e = true → ∀ q ∈ nedS s e, (1 ≤ q.col ∧ q.col < s.cols.length) ∧ 1 ≤ q.lev ∧ q.lev ≤ finestS s q.col) (fun e ih hg q hq => ?_) e
  have hg := rig_parts hg
  have hin := ned_in q hq
  rw [nedS_eq] at hq
  obtain ⟨h1, h2, h3, h4⟩ := pksR_mem hq
  rw [h3] at h4
  obtain ⟨p, hp, hpc, hpl⟩ := lvM_mem h4
  have hfit : fitP s p := by
    rcases List.mem_append.1 hp with hp | hp
    rcases List.mem_append.1 hp with hp | hp
    rcases List.mem_append.1 hp with hp | hp
    · exact own_fit hd hg p hp
    · exact need_fit hd p hp
    · exact need_fit hd p hp
    · obtain ⟨k, hk, hpk⟩ := List.mem_flatMap.1 hp
      have := ih k hk (hg.kid k hk).2 p hpk
      exact ⟨this.1.1, this.2.2⟩
  have hpq : p.col = q.col := by omega
  rw [← h3] at hpl h4
  have h5 := hfit.1
  have h6 := hfit.2
  rw [hpq, hpl] at h6
  exact ⟨⟨by omega, hin.2⟩, by omega, h6⟩
theorem pick_pk {s : Sch} (hd : Drawn s) {q : Pk} (h1 : 1 ≤ q.col) (h2 : q.col < s.cols.length) (h3 : 0 ≤ q.lev) (h4 : q.lev ≤ finestS s q.col) : pkE s q = 0 := by
  have hf := hd.fin h1 h2
  unfold pkE
  rw [if_neg (by omega), if_neg (by omega)]
theorem picks_ok {s : Sch} (hd : Drawn s) {l : List Pk} (hl : ∀ q ∈ l, pkE s q = 0) (hp : List.Pairwise (fun p q : Pk => p.col < q.col) l) : picksE s l = 0 := by
  unfold picksE
  rw [if_pos hd.ok]
  refine firstE_all fun i x hx => ?_
  unfold pksE
  rw [if_pos (hl x (List.mem_of_getElem? hx)), Nat.zero_add]
  refine if_neg fun hh => ?_
  have hlt := lt_of_get hx
  have h1 : l[i - 1]? = some (l[i - 1]'(by omega)) := List.getElem?_eq_getElem (by omega)
  have h2 := List.pairwise_iff_getElem.1 hp (i - 1) i (by omega) hlt (by omega)
  rw [getD_get h1] at hh
  have h3 : l[i]'hlt = x := by rw [List.getElem?_eq_getElem hlt] at hx; exact Option.some.inj hx
  rw [h3] at h2
  omega
theorem allK_get (s : Sch) : ∀ {k i : Nat}, i < k → (allK s k)[i]? = some ⟨(i : Int) + 1, finestS s ((i : Int) + 1)⟩
  | 0, i, h => by omega
  | k + 1, i, h => by
    have hl := allK_len s k
    rw [allK]
    by_cases hi : i < k
    · rw [List.getElem?_append_left (by omega)]; exact allK_get s hi
    · obtain rfl : i = k := by omega
      rw [List.getElem?_append_right (by omega), hl]; simp
theorem all_picks {s : Sch} (hd : Drawn s) : picksE s (allP s) = 0 := by
  have hln := hd.lens
  have hl := allK_len s (s.cols.length - 1)
  refine picks_ok hd (fun q hq => ?_) (List.pairwise_iff_getElem.2 fun i j hi hj hij => ?_)
  · obtain ⟨i, hi, he⟩ := List.getElem_of_mem hq
    have hi2 : i < s.cols.length - 1 := by unfold allP at hi; omega
    have h1 := allK_get s hi2
    unfold allP at he hi
    rw [List.getElem?_eq_getElem hi, he] at h1
    cases h1
    have := hd.fin (c := (i : Int) + 1) (by omega) (by omega)
    exact pick_pk hd (by dsimp only; omega) (by dsimp only; omega) (by dsimp only; omega) (Int.le_refl _)
  · unfold allP at hi hj ⊢
    have h1 := allK_get s (k := s.cols.length - 1) (i := i) (by omega)
    have h2 := allK_get s (k := s.cols.length - 1) (i := j) (by omega)
    rw [List.getElem?_eq_getElem hi] at h1
    rw [List.getElem?_eq_getElem hj] at h2
    rw [Option.some.inj h1, Option.some.inj h2]
    dsimp only; omega
theorem all_cov {s : Sch} (hd : Drawn s) {e : Xpr} (hg : rigS s e = true) : covB (allP s) (nedS s e) = true := by
  refine cov_of fun q hq => ?_
  obtain ⟨⟨h1, h2⟩, h3, h4⟩ := ned_fit hd e hg q hq
  have hg := allK_get s (k := s.cols.length - 1) (i := (q.col - 1).toNat) (by omega)
  rw [show (((q.col - 1).toNat : Nat) : Int) + 1 = q.col by omega] at hg
  exact ⟨_, List.mem_of_getElem? hg, rfl, h4⟩
theorem exk_all {s : Sch} (hd : Drawn s) (bs : List Bnd) {e : Xpr} (hg : rigS s e = true) : exkS s (allP s) bs e = kinS bs e := by
  have hx : rigX s e = true := by unfold rigX; rw [decide_eq_true hd.ok, hg]; rfl
  unfold exkS
  rw [hx, if_neg (by decide), if_pos ⟨all_picks hd, all_cov hd hg⟩]
end Go.Proofs.YtepdcljecfibpaaGreatDoor

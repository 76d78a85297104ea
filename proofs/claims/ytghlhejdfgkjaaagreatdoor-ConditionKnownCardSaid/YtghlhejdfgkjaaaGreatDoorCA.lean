/- Chapter 5: what can be, and coarse truth, by the reference. Chapter 5: with what it needs, the truth value of a condition is known. Chapter 5: the program's truth value from coarse values is the reference's. -/
import Derived.Test.YtghlhejdfgkjaaaGreatDoorD2
import Derived.Test.YtghlhejdfgkjaaaGreatDoorB11
import Derived.Test.YtghlhejdfgkjaaaGreatDoorCf1
namespace Go.Proofs.YtghlhejdfgkjaaaGreatDoor
open Go Go.Av
attribute [local irreducible] AWp AOps AAny MAny DQ retQ retG St.le FCall GCall
set_option linter.unusedVariables false
set_option linter.unnecessarySimpa false
set_option linter.unusedSimpArgs false
set_option maxRecDepth 100000

def rsomeS (s : Sch) (column level v : Int) : Int :=
  if (colAt s column).kind = 2 then (if (findK (fun x => coaS s column level x) v (lvsS s column)).2 = true then (findK (fun x => coaS s column level x) v (lvsS s column)).1 else -1)
  else if 0 < level ∧ v = (-1099511627776) then v else (blockS (colAt s column) level v).1
theorem some_can {s : Sch} (hr : schE s = 0) {column level : Int} {c : Col} (h1 : 1 ≤ column) (hc : s.cols[column.toNat]? = some c) (h3 : 0 ≤ level) (h4 : level ≤ finestS s column) (v : Int) : (someS s column level v).2 = canB s column level v ∧ (canB s column level v = true → (someS s column level v).1 = rsomeS s column level v) := by
  have hca := colAt_get hc
  obtain ⟨hk, hm⟩ := kind_of hr h1 hc
  unfold canB rsomeS someS
  rw [if_pos (show 0 ≤ level ∧ level ≤ finestS s column from ⟨h3, h4⟩), hca]
  by_cases hk2 : c.kind = 2
  · have hco : ∀ x ∈ lvsS s column, upL s column level x = coaS s column level x := fun x hx => by
      unfold upL
      rw [hca]
      exact (coa_leaf hr h1 hc hk2 h3 h4 hx).1.symm
    rw [if_neg (show ¬ c.kind = 3 by omega), if_pos hk2, if_pos hk2, findK_congr hco]
    rcases findK_spec (f := fun x : Nat => coaS s column level x) (v := v) (l := lvsS s column) with ⟨g1, x, hx, g2, g3⟩ | ⟨g1, g2⟩
    · have : (lvsS s column).any (fun x => decide (coaS s column level x = v)) = true := List.any_eq_true.2 ⟨x, hx, decide_eq_true g2⟩
      rw [this, g1, if_pos rfl]
      exact ⟨rfl, fun _ => rfl⟩
    · have : (lvsS s column).any (fun x => decide (coaS s column level x = v)) = false := by
        rw [List.any_eq_false]
        intro x hx
        rw [decide_eq_true_iff]
        exact g2 x hx
      rw [this, g1]
      exact ⟨rfl, fun h => by cases h⟩
  · have hk3 : c.kind = 3 := by omega
    have hlen : level ≤ c.widths.length := by
      have h5 := h4
      have hlt := lt_of_get hc
      rw [finestS, if_pos hr, finS, if_neg (by omega), hca, finC, if_neg hk2] at h5
      exact h5
    rw [if_pos hk3, if_neg hk2, if_neg hk2]
    by_cases h5 : 0 < level ∧ v = (-1099511627776)
    · rw [if_pos h5, if_pos h5, if_pos h5]
      exact ⟨rfl, fun _ => rfl⟩
    · rw [if_neg h5, if_neg h5, if_neg h5]
      obtain ⟨e1, e2⟩ := span_block (hm hk3) h3 hlen h5
      exact ⟨e1, fun h => (e2 h).1⟩

/-! ### Rows made of values at levels -/
def allCan (s : Sch) (pv : List (Pk × Int)) : Bool := pv.all fun q => canB s q.1.col q.1.lev q.2
/-- The truth value from coarse values. -/
def cocS (s : Sch) (c : Cnd) (pv : List (Pk × Int)) : Int := telS (fun a => atomS s a (rsomeS s a.col (lastV a.col pv).1 (lastV a.col pv).2)) c
def coarS (s : Sch) (c : Cnd) (picks : List Pk) (values : List Int) : Int :=
  if cndE s c = 0 ∧ picksE s picks = 0 ∧ values.length = picks.length ∧ covB picks (needS s c) = true then (if allCan s (picks.zip values) = true then cocS s c (picks.zip values) else 0) else 0

/-! ### What suffices, for values that a row can have -/
theorem downS_le {a b w : Int} (hw : 1 ≤ w) (h : downS a w = a) : a ≤ b ↔ a ≤ downS b w := by
  constructor
  · intro h1
    have := downS_mono hw h1
    omega
  · intro h1
    have := (downS_bd b hw).2
    omega
theorem suf_sound {s : Sch} (hd : Drawn s) {a : Cnd} (ha : conE s a = 0) (ho : a.op = 2 ∨ a.op = 3 ∨ a.op = 4) {c : Col} (hc : s.cols[a.col.toNat]? = some c) {m n : Nat} (hn : finestS s a.col = n) (hm : m ≤ n) (hs : sufS s a m = true) {u v : Int} (hu : ValOk s c u) (hv : ValOk s c v) (e : coaS s a.col m u = coaS s a.col m v) : atomS s a u = atomS s a v := by
  have hr := hd.ok
  obtain ⟨x, hx, c1, c2, q2, q3, q4, q5⟩ := atom_col hr ha ho
  rw [hc] at hx
  cases hx
  have hca := colAt_get hc
  have hcn : s.cols[a.col.toNat]? = some c := hc
  have hco : ∀ w, coaS s a.col m w = coaC s c m w := fun w => by
    unfold coaS
    rw [hn, if_neg (by omega), hca]
  by_cases h2 : a.op = 2
  · obtain ⟨hk, hl1, hl2, hf⟩ := q2 h2
    have leaf : ∀ w, ValOk s c w → ∃ k : Nat, w = k ∧ k ∈ lvsS s a.col := by
      intro w hw
      rcases hw with ⟨hw, _⟩ | ⟨_, k, hw, hm⟩ | ⟨hw, _⟩
      · rw [hw] at hk; cases hk
      · refine ⟨k, hw, ?_⟩
        unfold lvsS; rw [hca]; exact hm
      · omega
    obtain ⟨i, rfl, hi⟩ := leaf u hu
    obtain ⟨j, rfl, hj⟩ := leaf v hv
    unfold sufS at hs
    rw [if_pos h2] at hs
    have hag := of_decide_eq_true hs
    rw [(coa_leaf hr c1 hc hk (by omega) (by omega) hi).1, (coa_leaf hr c1 hc hk (by omega) (by omega) hj).1] at e
    rw [hca] at hag
    exact hag i hi j hj e
  · obtain ⟨hk, hme, hf⟩ := q3 h2
    obtain ⟨nm, hM⟩ : ∃ nm, MeaOk c nm := by
      have hc' : s.cols[a.col.toNat]? = some c := hc
      rcases hd.col hc' with ⟨_, rfl⟩ | ⟨_, rfl | rfl⟩ | ⟨_, h⟩
      · cases hk
      · cases hk
      · cases hk
      · exact h
    have hlow := hM.low
    have hhigh := hM.high
    have val : ∀ w, ValOk s c w → ValM c w := by
      intro w hw
      rcases hw with ⟨hw, _⟩ | ⟨hw, _⟩ | ⟨_, hw⟩
      · rw [hw] at hk; cases hk
      · omega
      · exact hw
    have hum := val u hu
    have hvm := val v hv
    rw [hco, hco, coaC_mea hM hum, coaC_mea hM hvm] at e
    have hmn : m ≤ c.widths.length := by
      have : finestS s a.col = finS s a.col := by rw [finestS, if_pos hr]
      omega
    unfold atomS
    rw [if_neg h2, if_neg h2]
    by_cases h4 : a.op = 4
    · rw [if_pos h4, if_pos h4]
      rw [sufS_mis h4] at hs
      have hm0 : (0 : Int) < m := of_decide_eq_true hs
      rw [if_neg (show ¬ (m : Int) = 0 by omega), if_neg (show ¬ (m : Int) = 0 by omega)] at e
      obtain ⟨hw, _, _⟩ := wid_two hM (a := m) (b := m) (by omega) (Nat.le_refl _) hmn
      have d1 := downS_bd u hw.1
      have d2 := downS_bd v hw.1
      congr 1
      rw [decide_eq_decide]
      unfold ValM at hum hvm
      by_cases g1 : u = (-1099511627776) <;> by_cases g2 : v = (-1099511627776)
      · simp [g1, g2]
      · rw [if_pos g1, if_neg g2] at e; omega
      · rw [if_neg g1, if_pos g2] at e; omega
      · simp [g1, g2]
    · rw [if_neg h4, if_neg h4]
      rw [sufS_mea (by omega) hc] at hs
      have hs := of_decide_eq_true hs
      have hlh := (q4 (by omega)).1
      unfold sufM at hs
      unfold ValM at hum hvm
      by_cases hm0 : (m : Int) = 0
      · rw [if_pos hm0] at hs
        obtain ⟨s1, s2, s3⟩ := hs
        rw [s1] at hum hvm
        have hu' : c.low ≤ u ∧ u ≤ c.high := by rcases hum with h | h; exact h; cases h.1
        have hv' : c.low ≤ v ∧ v ≤ c.high := by rcases hvm with h | h; exact h; cases h.1
        rw [if_neg (by omega), if_neg (by omega)]
        congr 1
        rw [decide_eq_decide]
        omega
      · rw [if_neg hm0] at hs
        rw [if_neg hm0, if_neg hm0] at e
        obtain ⟨hw, _, _⟩ := wid_two hM (a := m) (b := m) (by omega) (Nat.le_refl _) hmn
        have d1 := downS_bd u hw.1
        have d2 := downS_bd v hw.1
        by_cases g1 : u = (-1099511627776) <;> by_cases g2 : v = (-1099511627776)
        · rw [if_pos g1, if_pos g2]
        · rw [if_pos g1, if_neg g2] at e; omega
        · rw [if_neg g1, if_pos g2] at e; omega
        · rw [if_neg g1, if_neg g2] at e
          rw [if_neg g1, if_neg g2]
          congr 1
          rw [decide_eq_decide]
          have hu' : c.low ≤ u ∧ u ≤ c.high := by rcases hum with h | h; exact h; exact absurd h.2 g1
          have hv' : c.low ≤ v ∧ v ≤ c.high := by rcases hvm with h | h; exact h; exact absurd h.2 g2
          have f1 : a.lo ≤ u ↔ a.lo ≤ v := by
            by_cases hf : c.low < a.lo ∧ a.lo ≤ c.high
            · have := (tmod_zero hw.1).1 (hs.1 hf)
              rw [downS_le hw.1 this, downS_le (b := v) hw.1 this, e]
            · omega
          have f2 : a.hi + 1 ≤ u ↔ a.hi + 1 ≤ v := by
            by_cases hf : c.low ≤ a.hi ∧ a.hi < c.high
            · have := (tmod_zero hw.1).1 (hs.2 hf)
              rw [downS_le hw.1 this, downS_le (b := v) hw.1 this, e]
            · omega
          omega
end Go.Proofs.YtghlhejdfgkjaaaGreatDoor

namespace Go.Proofs.YtghlhejdfgkjaaaGreatDoor
open Go Go.Av
attribute [local irreducible] AWp AOps AAny MAny DQ retQ retG St.le FCall GCall
set_option linter.unusedVariables false
set_option linter.unnecessarySimpa false
set_option linter.unusedSimpArgs false
set_option maxRecDepth 100000

/-- A value that has a value's value at a level. -/
theorem some_ok {s : Sch} (hd : Drawn s) {i : Nat} {c : Col} (hi : 0 < i) (hc : s.cols[i]? = some c) {n : Nat} (hn : finestS s i = n) {v : Int} (hv : ValOk s c v) {m : Nat} (hm : m ≤ n) :
    (someS s i m (coaS s i m v)).2 = true ∧ ValOk s c (someS s i m (coaS s i m v)).1 ∧ coaS s i m (someS s i m (coaS s i m v)).1 = coaS s i m v := by
  have hr := hd.ok
  have hc' : s.cols[(i : Int).toNat]? = some c := by simpa using hc
  have hca := colAt_get hc'
  have hlt := lt_of_get hc
  have hco : ∀ w, coaS s i m w = coaC s c m w := fun w => by
    unfold coaS
    rw [hn, if_neg (by omega), hca]
  have hfin : (n : Int) = finC s c := by
    have h1 : finestS s i = finS s i := by rw [finestS, if_pos hr]
    rw [h1, finS, if_neg (by omega), hca] at hn
    exact hn.symm
  unfold someS
  rw [hca]
  by_cases hk : c.kind = 2
  · rw [if_neg (by omega)]
    obtain ⟨k, rfl, hkm⟩ : ∃ k : Nat, v = k ∧ k ∈ lvsS s i := by
      rcases hv with ⟨hw, _⟩ | ⟨_, k, hw, hm⟩ | ⟨hw, _⟩
      · rw [hw] at hk; cases hk
      · refine ⟨k, hw, ?_⟩
        unfold lvsS; rw [hca]; exact hm
      · omega
    have hup : ∀ x ∈ lvsS s i, upL s i m x = coaS s i m x := fun x hx => by
      unfold upL
      rw [hca]
      exact (coa_leaf hr (by omega) hc' hk (by omega) (by omega) hx).1.symm
    rcases findK_spec (f := upL s i m) (v := coaS s i m k) (l := lvsS s i) with ⟨g1, y, hy, g2, g3⟩ | ⟨g1, g2⟩
    · rw [g3]
      refine ⟨g1, ?_, by rw [← hup y hy, g2]⟩
      refine .inr (.inl ⟨hk, y, rfl, ?_⟩)
      unfold lvsS at hy; rw [hca] at hy; exact hy
    · exact absurd (hup k hkm) (g2 k hkm)
  · have hkind := (kind_of hr (column := i) (by omega) hc').1
    have hk3 : c.kind = 3 := by omega
    rw [if_pos hk3]
    obtain ⟨nm, hM⟩ : ∃ nm, MeaOk c nm := by
      rcases hd.col hc with ⟨_, rfl⟩ | ⟨_, rfl | rfl⟩ | ⟨_, h⟩
      · cases hk3
      · cases hk3
      · cases hk3
      · exact h
    have hlow := hM.low
    have hhigh := hM.high
    have hvm : ValM c v := by
      rcases hv with ⟨hw, _⟩ | ⟨hw, _⟩ | ⟨_, hw⟩
      · rw [hw] at hk3; cases hk3
      · omega
      · exact hw
    have hmn : m ≤ c.widths.length := by
      have : finC s c = c.widths.length := by unfold finC; rw [if_neg hk]
      omega
    have ok : ∀ w, ValM c w → ValOk s c w := fun w hw => .inr (.inr ⟨hk3, hw⟩)
    have hlowV : ValM c c.low := .inl ⟨Int.le_refl _, hhigh.1⟩
    rw [hco, coaC_mea hM hvm]
    by_cases hm0 : (m : Int) = 0
    · rw [if_pos hm0, if_neg (by omega)]
      have e : spanS c m 0 = (c.low, c.high, true) := by unfold spanS; rw [if_pos hm0]; rfl
      rw [e]
      refine ⟨rfl, ok _ hlowV, ?_⟩
      rw [hco, coaC_mea hM hlowV, if_pos hm0]
    · rw [if_neg hm0]
      by_cases hmi : v = (-1099511627776)
      · have ho : c.opt = true := by
          rcases hvm with hv | hv
          · omega
          · exact hv.1
        rw [if_pos hmi, if_pos ⟨by omega, rfl⟩]
        refine ⟨ho, ok _ (.inr ⟨ho, rfl⟩), ?_⟩
        rw [hco, coaC_mea hM (.inr ⟨ho, rfl⟩), if_neg hm0, if_pos rfl]
      · have hv' : c.low ≤ v ∧ v ≤ c.high := by
          rcases hvm with hv | hv
          · exact hv
          · exact absurd hv.2 hmi
        obtain ⟨hw, _, _⟩ := wid_two hM (a := m) (b := m) (by omega) (Nat.le_refl _) hmn
        have d := downS_bd v hw.1
        have hdd := downS_same hw.1 (Int.le_refl _) (show downS v (widthS c m) < downS v (widthS c m) + widthS c m by omega)
        have hsp : spanS c m (downS v (widthS c m)) = (max (downS v (widthS c m)) c.low, min (downS v (widthS c m) + widthS c m - 1) c.high, true) := by
          unfold spanS
          rw [if_neg (by omega), if_neg (by omega), hdd]
          have : max (downS v (widthS c m)) c.low ≤ min (downS v (widthS c m) + widthS c m - 1) c.high := by omega
          simp [this]
        rw [if_neg hmi, if_neg (by omega), hsp]
        have hV : ValM c (max (downS v (widthS c m)) c.low) := .inl (by omega)
        refine ⟨rfl, ok _ hV, ?_⟩
        dsimp only
        rw [hco, coaC_mea hM hV, if_neg hm0, if_neg (by omega)]
        exact downS_same hw.1 (by omega) (by omega)
/-- Values that are the same at a level are the same at coarser ones. -/
theorem coa_mono {s : Sch} (hd : Drawn s) {i : Nat} {c : Col} (hi : 0 < i) (hc : s.cols[i]? = some c) {n : Nat} (hn : finestS s i = n) {a b : Nat} (hab : b ≤ a) (ha : a ≤ n) {u v : Int} (hu : ValOk s c u) (hv : ValOk s c v) (e : coaS s i a u = coaS s i a v) : coaS s i b u = coaS s i b v := by
  obtain ⟨n', hn', _, h⟩ := hd.chain hi hc
  have : n' = n := by omega
  subst this
  have t1 := (h u hu).2.2 a b hab ha
  have t2 := (h v hv).2.2 a b hab ha
  rw [e, t2] at t1
  exact (congrArg Prod.fst t1).symm
def coaV (s : Sch) (row : List Int) (p : Pk) : Int := coaS s p.col p.lev (row.getD p.col.toNat 0)
theorem known {s : Sch} (hd : Drawn s) {x : Cnd} (hx : cndE s x = 0) {row : List Int} (hrow : RowOk s row) {P : List Pk} (hP : ∀ p ∈ P, 1 ≤ p.col ∧ p.col < s.cols.length ∧ 0 ≤ p.lev ∧ p.lev ≤ finestS s p.col) (hu : ∀ p ∈ P, ∀ q ∈ P, p.col = q.col → p = q) (hcov : covB P (needS s x) = true) :
    allCan s (P.zip (P.map (coaV s row))) = true ∧ cocS s x (P.zip (P.map (coaV s row))) = holdS s x row := by
  have hr := hd.ok
  obtain ⟨_, _, _, hcs⟩ := cndE_parts hx
  have hzip : ∀ q ∈ P.zip (P.map (coaV s row)), q.1 ∈ P ∧ q.2 = coaV s row q.1 := by
    intro q hq
    rw [List.zip_map_right] at hq
    obtain ⟨z, hz, rfl⟩ := List.mem_map.1 hq
    obtain ⟨h1, h2⟩ := List.of_mem_zip hz
    have : z.1 = z.2 := by
      rw [List.zip_eq_zipWith] at hz
      obtain ⟨k, hk, e⟩ := List.getElem_of_mem hz
      rw [List.getElem_zipWith] at e
      rw [← e]
    exact ⟨h1, by show coaV s row z.2 = coaV s row z.1; rw [this]⟩
  have hval : ∀ p ∈ P, ∃ (c : Col) (n m : Nat), s.cols[p.col.toNat]? = some c ∧ finestS s p.col.toNat = n ∧ p.lev = m ∧ m ≤ n ∧ ((p.col.toNat : Nat) : Int) = p.col ∧ 0 < p.col.toNat := by
    intro p hp
    obtain ⟨h1, h2, h3, h4⟩ := hP p hp
    obtain ⟨c, hc⟩ : ∃ c, s.cols[p.col.toNat]? = some c := ⟨_, List.getElem?_eq_getElem (by omega)⟩
    have e : ((p.col.toNat : Nat) : Int) = p.col := by omega
    exact ⟨c, (finestS s p.col).toNat, p.lev.toNat, hc, by rw [e]; omega, by omega, by omega, e, by omega⟩
  refine ⟨?_, ?_⟩
  · unfold allCan
    rw [List.all_eq_true]
    intro q hq
    obtain ⟨h1, h2⟩ := hzip q hq
    obtain ⟨c, n, m, hc, hn, hm, hmn, e, hpos⟩ := hval _ h1
    obtain ⟨hk, _⟩ := some_ok hd hpos hc hn (hrow.2 _ _ hc) hmn
    have hcan := (some_can hr (column := q.1.col) (level := q.1.lev) (c := c) (by omega) hc (by omega) (by rw [← e, hn]; omega) q.2).1
    rw [← hcan, h2]
    unfold coaV
    rw [e] at hk
    rw [hm]
    exact hk
  · unfold cocS holdS
    refine telS_congr x hcs fun a ha => ?_
    obtain ⟨har, hao⟩ := atm_right x hcs a ha
    obtain ⟨c, hc, c1, c2, _⟩ := atom_col hr har hao
    obtain ⟨l1, l2, l3⟩ := levS_spec hr har hao
    have e : ((a.col.toNat : Nat) : Int) = a.col := by omega
    have hpos : 0 < a.col.toNat := by omega
    have hrv := hrow.2 _ _ hc
    have hfe : finestS s a.col = finS s a.col := by rw [finestS, if_pos hr]
    obtain ⟨n, hn⟩ : ∃ n : Nat, finestS s a.col = n := ⟨(finestS s a.col).toNat, by omega⟩
    have hneed : 0 < (levS s a : Int) → ∃ p ∈ P, p.col = a.col ∧ (levS s a : Int) ≤ p.lev := by
      intro h
      have hge := lvA_ge (s := s) ha a.col.toNat (by omega)
      have hmem := mem_pksR (lv := lvA s (atmS x)) (n := s.cols.length) (lo := 0) (i := a.col.toNat) (Nat.zero_le _) (by omega) (by omega)
      rw [← need_eq hx] at hmem
      obtain ⟨p, hp, h1, h2⟩ := cov_inv hcov _ hmem
      dsimp only at h1 h2
      exact ⟨p, hp, by omega, by omega⟩
    have main : ∀ (m : Nat), m ≤ n → levS s a ≤ m → atomS s a (rsomeS s a.col m (coaS s a.col m (row.getD a.col.toNat 0))) = atomS s a (row.getD a.col.toNat 0) := by
      intro m hm hl
      have hn' : finestS s ((a.col.toNat : Nat) : Int) = n := by rw [e]; exact hn
      have hso := some_ok hd hpos hc hn' hrv hm
      rw [e] at hso
      obtain ⟨k1, k2, k3⟩ := hso
      obtain ⟨g1, g2⟩ := some_can hr (column := a.col) (level := m) c1 hc (by omega) (by omega) (coaS s a.col m (row.getD a.col.toNat 0))
      rw [← g2 (by rw [← g1]; exact k1)]
      refine suf_sound hd har hao hc hn (m := levS s a) (by omega) l2 k2 hrv ?_
      have := coa_mono hd hpos hc hn' hl hm k2 hrv (by rw [e]; exact k3)
      rw [e] at this
      exact this
    rcases lastV_of a.col (P.zip (P.map (coaV s row))) with ⟨h1, h2⟩ | ⟨q, hq, h1, h2⟩
    · rw [h1]
      dsimp only
      have hz : levS s a = 0 := by
        by_cases h : 0 < (levS s a : Int)
        · obtain ⟨p, hp, h3, _⟩ := hneed h
          obtain ⟨k, hk⟩ := List.getElem?_of_mem hp
          have : (p, coaV s row p) ∈ P.zip (P.map (coaV s row)) := List.mem_of_getElem? (zip_get hk (by rw [List.getElem?_map, hk]; rfl))
          exact absurd h3 (h2 _ this)
        · omega
      have := main 0 (by omega) (by omega)
      obtain ⟨n2, hn2, _, hch⟩ := hd.chain hpos hc
      have h0 := (hch _ hrv).2.1
      rw [e] at h0
      rw [show ((0 : Nat) : Int) = 0 from rfl, h0] at this
      exact this
    · rw [h2]
      dsimp only
      obtain ⟨h3, h4⟩ := hzip q hq
      obtain ⟨c', n', m, hc', hn', hm, hmn, e', hpos'⟩ := hval _ h3
      have hle : (levS s a : Int) ≤ q.1.lev := by
        by_cases h : 0 < (levS s a : Int)
        · obtain ⟨p, hp, h5, h6⟩ := hneed h
          rw [hu q.1 h3 p hp (by omega)]
          exact h6
        · omega
      have hmm : m ≤ n := by
        rw [e', h1] at hn'
        omega
      have := main m hmm (by omega)
      rw [h4]
      unfold coaV
      rw [h1, hm]
      exact this
end Go.Proofs.YtghlhejdfgkjaaaGreatDoor

namespace Go.Proofs.YtghlhejdfgkjaaaGreatDoor
open Go Go.Av
attribute [local irreducible] AWp AOps AAny MAny DQ retQ retG St.le FCall GCall
set_option linter.unusedVariables false
set_option linter.unnecessarySimpa false
set_option linter.unusedSimpArgs false
set_option maxRecDepth 100000

theorem all_congr2 {α : Type} {f g : α → Bool} : ∀ {l : List α}, (∀ x ∈ l, f x = g x) → l.all f = l.all g
  | [], _ => rfl
  | x :: r, h => by rw [List.all_cons, List.all_cons, h x (by simp), all_congr2 (fun y hy => h y (by simp [hy]))]
theorem range_getD {f : Nat → Int} {n i : Nat} (h : i < n) : ((List.range n).map f).getD i 0 = f i := by
  rw [List.getD_eq_getElem?_getD, List.getElem?_map, List.getElem?_range h]; rfl
theorem coar_eq {s : Sch} (hd : Drawn s) (c : Cnd) (picks : List Pk) (values : List Int) : coarP s c picks values = coarS s c picks values := by
  unfold coarP coarS
  by_cases h : cndE s c = 0 ∧ picksE s picks = 0 ∧ values.length = picks.length ∧ covB picks (needS s c) = true
  · rw [if_pos h, if_pos h]
    obtain ⟨hc, hp, _, _⟩ := h
    have hr := hd.ok
    have hg := picks_get hp
    have hfe : ∀ col, finestS s col = finS s col := fun col => by rw [finestS, if_pos hr]
    have hca : ∀ q ∈ picks.zip values, (someS s q.1.col q.1.lev q.2).2 = canB s q.1.col q.1.lev q.2 ∧ (canB s q.1.col q.1.lev q.2 = true → (someS s q.1.col q.1.lev q.2).1 = rsomeS s q.1.col q.1.lev q.2) := fun q hm => by
      obtain ⟨k, hk⟩ := List.getElem?_of_mem (List.of_mem_zip (show (q.1, q.2) ∈ _ from hm)).1
      obtain ⟨h1, h2, h3, h4⟩ := hg k _ hk
      exact some_can hr h1 (List.getElem?_eq_getElem (by omega)) h3 (by rw [hfe]; exact h4) q.2
    have hall : okAll s (picks.zip values) = allCan s (picks.zip values) := all_congr2 fun q hm => (hca q hm).1
    unfold tldS
    rw [hall]
    by_cases ha : allCan s (picks.zip values) = true
    · rw [if_pos ha, if_pos ha]
      obtain ⟨_, _, _, hcs⟩ := cndE_parts hc
      unfold cocS holdS
      refine telS_congr c hcs fun a haa => ?_
      obtain ⟨har, hao⟩ := atm_right c hcs a haa
      obtain ⟨x, hx, c1, c2, _⟩ := atom_col hr har hao
      have e : ((a.col.toNat : Nat) : Int) = a.col := by omega
      rw [range_getD (by omega), toldV, if_neg (by omega), e]
      refine congrArg (atomS s a) ?_
      rcases lastV_of a.col (picks.zip values) with ⟨h1, _⟩ | ⟨q, hq, h1, h2⟩
      · rw [h1]
        dsimp only
        have hpos : 0 < a.col.toNat := by omega
        have hv := (rowS_ok hd [] 0).2 _ _ hx
        obtain ⟨n, hn, _, hch⟩ := hd.chain hpos hx
        have h0 := (hch _ hv).2.1
        obtain ⟨k1, _, _⟩ := some_ok hd hpos hx hn hv (m := 0) (Nat.zero_le _)
        rw [e] at h0 k1 hn
        rw [show ((0 : Nat) : Int) = 0 from rfl, h0] at k1
        obtain ⟨g1, g2⟩ := some_can hr (column := a.col) (level := 0) c1 hx (by omega) (by omega) 0
        exact g2 (by rw [← g1]; exact k1)
      · rw [h2]
        dsimp only
        rw [← h1]
        exact (hca q hq).2 (List.all_eq_true.1 ha q hq)
    · rw [if_neg ha, if_neg ha]
  · rw [if_neg h, if_neg h]
end Go.Proofs.YtghlhejdfgkjaaaGreatDoor

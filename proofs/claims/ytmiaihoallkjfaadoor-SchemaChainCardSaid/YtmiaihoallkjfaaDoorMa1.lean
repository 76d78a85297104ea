/- Chapter 2: values that a row can have, at all levels. -/
import Derived.Test.YtmiaihoallkjfaaDoorDs1
import Derived.Test.YtmiaihoallkjfaaDoorSc6
import Derived.Test.YtmiaihoallkjfaaDoorSr5
namespace Go.Proofs.YtmiaihoallkjfaaDoor
open Go Go.Av
attribute [local irreducible] AWp AOps AAny MAny DQ retQ retG St.le FCall GCall
set_option linter.unusedVariables false
set_option linter.unnecessarySimpa false
set_option linter.unusedSimpArgs false
set_option maxRecDepth 100000

/-! ### Widths -/
def wAt (ws : List Int) (lv : Nat) : Int := ws.getD (ws.length - lv) 0
def wOkB (ws : List Int) : Bool := decide (1 ≤ ws.length) && decide (ws.length ≤ 4) && decide (wAt ws ws.length = 1) && ((List.range 5).all fun a => (List.range (a + 1)).all fun b => decide (b = 0) || decide (ws.length < a) || (decide (1 ≤ wAt ws a ∧ wAt ws a ≤ 20) && decide (1 ≤ wAt ws b ∧ wAt ws b ≤ 20) && decide (wAt ws b = wAt ws a * (wAt ws b / wAt ws a) ∧ 1 ≤ wAt ws b / wAt ws a)))
theorem wOpts_ok : wOpts.all wOkB = true := by decide +kernel
theorem widthS_at {c : Col} {lv : Nat} (h : lv ≤ c.widths.length) : widthS c lv = wAt c.widths lv := by
  unfold widthS wAt
  congr 1
  omega
theorem wid_one {c : Col} {nm : List UInt8} (h : MeaOk c nm) : 1 ≤ c.widths.length ∧ c.widths.length ≤ 4 ∧ widthS c c.widths.length = 1 := by
  have h1 := List.all_eq_true.1 wOpts_ok _ h.wid
  simp only [wOkB, Bool.and_eq_true, decide_eq_true_eq] at h1
  rw [widthS_at (Nat.le_refl _)]
  exact ⟨h1.1.1.1, h1.1.1.2, h1.1.2⟩
theorem wid_two {c : Col} {nm : List UInt8} (h : MeaOk c nm) {a b : Nat} (hb : 1 ≤ b) (hab : b ≤ a) (ha : a ≤ c.widths.length) : (1 ≤ widthS c a ∧ widthS c a ≤ 20) ∧ (1 ≤ widthS c b ∧ widthS c b ≤ 20) ∧ ∃ m, 1 ≤ m ∧ widthS c b = widthS c a * m := by
  have h1 := List.all_eq_true.1 wOpts_ok _ h.wid
  simp only [wOkB, Bool.and_eq_true, decide_eq_true_eq, List.all_eq_true, List.mem_range, Bool.or_eq_true] at h1
  have h2 := h1.2 a (by omega) b (by omega)
  rw [widthS_at ha, widthS_at (by omega)]
  rcases h2 with (h2 | h2) | h2
  · omega
  · omega
  · exact ⟨h2.1.1, h2.1.2, _, h2.2.2, h2.2.1⟩

/-! ### Rounding down -/
theorem downS_ml (v : Int) {w : Int} : downS v w = w * (v / w) := by
  have := Int.mul_ediv_add_emod v w
  unfold downS
  omega
theorem downS_one (v : Int) : downS v 1 = v := by unfold downS; omega
theorem downS_dd (v : Int) {w m : Int} (hw : 1 ≤ w) (hm : 1 ≤ m) : downS (downS v w) (w * m) = downS v (w * m) := by
  rw [downS_ml, downS_ml, downS_ml]
  congr 1
  rw [Int.mul_ediv_mul_of_pos _ _ (by omega : (0 : Int) < w), Int.ediv_ediv_of_nonneg (by omega)]
theorem downS_same {x v w : Int} (hw : 1 ≤ w) (h1 : downS v w ≤ x) (h2 : x < downS v w + w) : downS x w = downS v w := by
  rw [downS_ml] at h1 h2
  rw [downS_ml, downS_ml]
  congr 1
  have e : x = (x - w * (v / w)) + w * (v / w) := by omega
  rw [e, Int.add_mul_ediv_left _ _ (by omega : w ≠ 0), Int.ediv_eq_zero_of_lt (by omega) (by omega)]
  omega
theorem downS_two {x v w m : Int} (hw : 1 ≤ w) (hm : 1 ≤ m) (h1 : downS v w ≤ x) (h2 : x < downS v w + w) : downS x (w * m) = downS v (w * m) := by
  rw [← downS_dd x hw hm, downS_same hw h1 h2, downS_dd v hw hm]

/-! ### Measures -/
def ValM (c : Col) (v : Int) : Prop := (c.low ≤ v ∧ v ≤ c.high) ∨ (c.opt = true ∧ v = (-1099511627776))
theorem coaC_mea {s : Sch} {c : Col} {nm : List UInt8} (h : MeaOk c nm) {v : Int} (hv : ValM c v) (lv : Int) : coaC s c lv v = if lv = 0 then 0 else if v = (-1099511627776) then (-1099511627776) else downS v (widthS c lv) := by
  have hk := h.kind
  have h1 := h.low
  have h2 := h.high
  unfold coaC
  rw [if_neg (by omega), if_neg]
  rcases hv with hv | hv <;> omega
theorem turnM_ok {s : Sch} {c : Col} {nm : List UInt8} (h : MeaOk c nm) {v : Int} (hv : ValM c v) {a b : Nat} (hab : b ≤ a) (ha : a ≤ c.widths.length) : turnM c a (coaC s c a v) b = (coaC s c b v, true) := by
  have hl := h.low
  have hh := h.high
  rw [coaC_mea h hv, coaC_mea h hv]
  by_cases ha0 : a = 0
  · subst ha0
    have hb0 : b = 0 := by omega
    subst hb0
    simp [turnM, spanS]
  · by_cases hm : v = (-1099511627776)
    · have ho : c.opt = true := by
        rcases hv with hv | hv
        · omega
        · exact hv.1
      rw [if_neg (by omega), if_pos hm]
      unfold turnM
      rw [if_pos ⟨by omega, rfl⟩, ho]
      by_cases hb0 : b = 0
      · subst hb0; simp
      · rw [if_neg (by omega), if_neg (by omega), if_pos hm]
    · have hv' : c.low ≤ v ∧ v ≤ c.high := by
        rcases hv with hv | hv
        · exact hv
        · exact absurd hv.2 hm
      rw [if_neg (by omega), if_neg hm, if_neg hm]
      obtain ⟨hw, _, _⟩ := wid_two h (a := a) (b := a) (by omega) (Nat.le_refl _) ha
      have hd := downS_bd v hw.1
      have hdd := downS_same hw.1 (Int.le_refl _) (show downS v (widthS c a) < downS v (widthS c a) + widthS c a by omega)
      have hsp : spanS c a (downS v (widthS c a)) = (max (downS v (widthS c a)) c.low, min (downS v (widthS c a) + widthS c a - 1) c.high, true) := by
        unfold spanS
        rw [if_neg (by omega), if_neg (by omega), hdd]
        have : max (downS v (widthS c a)) c.low ≤ min (downS v (widthS c a) + widthS c a - 1) c.high := by omega
        simp [this]
      unfold turnM
      rw [if_neg (by omega), hsp]
      simp only [Bool.true_eq_false, if_false]
      by_cases hb0 : b = 0
      · subst hb0; simp
      · rw [if_neg (by omega), if_neg (by omega), if_neg (by omega)]
        obtain ⟨_, _, m, hm1, hm2⟩ := wid_two h (a := a) (b := b) (by omega) hab ha
        have e1 := downS_two (x := max (downS v (widthS c a)) c.low) (v := v) hw.1 hm1 (by omega) (by omega)
        have e2 := downS_two (x := min (downS v (widthS c a) + widthS c a - 1) c.high) (v := v) hw.1 hm1 (by omega) (by omega)
        rw [hm2, e1, e2]
        simp
theorem coaC_fin {s : Sch} {c : Col} {nm : List UInt8} (h : MeaOk c nm) {v : Int} (hv : ValM c v) : coaC s c c.widths.length v = v := by
  obtain ⟨h1, h2, h3⟩ := wid_one h
  rw [coaC_mea h hv, if_neg (by omega), h3, downS_one]
  split
  · rename_i e; exact e.symm
  · rfl

/-! ### Codes -/
def turnOkB (cs : List Code) : Bool := (atS oneL cs (levelsS oneL cs - 1)).all fun v => leafB cs v && decide (upS oneL cs v (levelsS oneL cs - 1) = v) && decide (upS oneL cs v 0 = 0) && ((List.range (levelsS oneL cs).toNat).all fun a => (List.range (a + 1)).all fun b => decide (turnC oneL cs a (upS oneL cs v a) b = (upS oneL cs v b, true)))
theorem fam_turn : fam.all turnOkB = true := by decide +kernel
theorem turnK_nm {a b : List UInt8} (h : nameB a = nameB b) (cs : List Code) (fr v to : Int) : ∀ (l : List Nat) (out : Int) (sm : Bool), turnK a cs fr v to l out sm = turnK b cs fr v to l out sm
  | [], out, sm => rfl
  | x :: r, out, sm => by simp only [turnK, upS_nm h, turnK_nm h cs fr v to r]
theorem turnC_nm {a b : List UInt8} (h : nameB a = nameB b) (cs : List Code) (fr v to : Int) : turnC a cs fr v to = turnC b cs fr v to := by
  unfold turnC
  rw [atS_nm h, levelsS_nm h, turnK_nm h]
/-- The list of a code column of a drawn schema. -/
theorem Drawn.lst {s : Sch} (h : Drawn s) {c : Col} (hc : c = sexC ∨ c = jobC) : (lstOf s c).2 ∈ fam ∧ nameB (lstOf s c).1 = nameB oneL ∧ (lstOf s c).2.length ≤ 10 := by
  obtain ⟨l1, l2, m1, m2, e⟩ := h.ls
  rcases hc with rfl | rfl
  · have : lstOf s sexC = (oneL, l1) := by unfold lstOf; rw [e]; rfl
    rw [this]; exact ⟨m1, rfl, (fam_ok m1).len⟩
  · have : lstOf s jobC = (twoN, l2) := by unfold lstOf; rw [e]; rfl
    rw [this]; exact ⟨m2, nm_two, (fam_ok m2).len⟩

/-- A value that a row can have in a column. -/
def ValOk (s : Sch) (c : Col) (v : Int) : Prop := (c.kind = 1 ∧ 1 ≤ v ∧ v ≤ 60) ∨ (c.kind = 2 ∧ ∃ n : Nat, v = n ∧ n ∈ atS (lstOf s c).1 (lstOf s c).2 (levelsS (lstOf s c).1 (lstOf s c).2 - 1)) ∨ (c.kind = 3 ∧ ValM c v)
structure ColFacts (s : Sch) (c : Col) (n : Nat) : Prop where
  fin : finC s c = n
  le : n ≤ 4
  top : ∀ v, ValOk s c v → coaC s c n v = v
  zero : ∀ v, ValOk s c v → coaC s c 0 v = 0
  turn : ∀ v, ValOk s c v → ∀ a b : Nat, b ≤ a → a ≤ n → (if c.kind = 2 then turnC (lstOf s c).1 (lstOf s c).2 a (coaC s c a v) b else turnM c a (coaC s c a v) b) = (coaC s c b v, true)
theorem Drawn.facts {s : Sch} (h : Drawn s) {i : Nat} {c : Col} (hi : 0 < i) (hc : s.cols[i]? = some c) : ∃ n, ColFacts s c n := by
  rcases h.col hc with ⟨rfl, _⟩ | ⟨_, hcc⟩ | ⟨_, nm, hm⟩
  · omega
  · obtain ⟨hf, hnm, hlen⟩ := h.lst hcc
    have hk : c.kind = 2 := by rcases hcc with rfl | rfl <;> rfl
    have hlo := fam_ok hf
    have hlv := levelsS_nm hnm (lstOf s c).2
    have ht := List.all_eq_true.1 fam_turn _ hf
    simp only [turnOkB, Bool.and_eq_true, decide_eq_true_eq, List.all_eq_true, List.mem_range] at ht
    obtain ⟨n, hn⟩ := Int.eq_ofNat_of_zero_le (show 0 ≤ levelsS oneL (lstOf s c).2 - 1 by have := hlo.lv; omega)
    have ok : ∀ v, ValOk s c v → ∃ j : Nat, v = j ∧ j ∈ atS oneL (lstOf s c).2 n := by
      rintro v (⟨h1, _⟩ | ⟨_, j, h1, h2⟩ | ⟨h1, _⟩)
      · omega
      · exact ⟨j, h1, by rw [← hn, ← hlv, ← atS_nm hnm]; exact h2⟩
      · omega
    have coa : ∀ j : Nat, j ∈ atS oneL (lstOf s c).2 n → ∀ lv : Int, coaC s c lv j = upS oneL (lstOf s c).2 j lv := by
      intro j hj lv
      have h1 := hlo.mem j (by rw [hn]; exact hj)
      have h2 := (ht j (by rw [hn]; exact hj)).1.1.1
      unfold coaC
      rw [if_pos hk, upS_nm hnm, if_pos]
      unfold holdB
      rw [if_neg (by omega), if_pos hk, h2]
      simp; omega
    refine ⟨n, ⟨?_, ?_, ?_, ?_, ?_⟩⟩
    · unfold finC; rw [if_pos hk, hlv, hn]
    · have := hlo.lv; omega
    · intro v hv
      obtain ⟨j, rfl, hj⟩ := ok v hv
      rw [coa j hj, ← hn]
      exact (ht j (by rw [hn]; exact hj)).1.1.2
    · intro v hv
      obtain ⟨j, rfl, hj⟩ := ok v hv
      rw [coa j hj]
      exact (ht j (by rw [hn]; exact hj)).1.2
    · intro v hv a b hab ha
      obtain ⟨j, rfl, hj⟩ := ok v hv
      rw [if_pos hk, coa j hj, coa j hj, turnC_nm hnm]
      exact (ht j (by rw [hn]; exact hj)).2 a (by omega) b (by omega)
  · have hk := hm.kind
    have ok : ∀ v, ValOk s c v → ValM c v := by
      rintro v (⟨h1, _⟩ | ⟨h1, _⟩ | ⟨_, h1⟩)
      · omega
      · omega
      · exact h1
    refine ⟨c.widths.length, ⟨?_, (wid_one hm).2.1, ?_, ?_, ?_⟩⟩
    · unfold finC; rw [if_neg (by omega)]
    · intro v hv; exact coaC_fin hm (ok v hv)
    · intro v hv; rw [coaC_mea hm (ok v hv), if_pos rfl]
    · intro v hv a b hab ha
      rw [if_neg (by omega)]
      exact turnM_ok hm (ok v hv) hab ha

/-- What the laws say of a column of a drawn schema. -/
theorem Drawn.chain {s : Sch} (h : Drawn s) {i : Nat} {c : Col} (hi : 0 < i) (hc : s.cols[i]? = some c) : ∃ n : Nat, finestS s i = n ∧ n ≤ 4 ∧ ∀ v, ValOk s c v → coaS s i n v = v ∧ coaS s i 0 v = 0 ∧ ∀ a b : Nat, b ≤ a → a ≤ n → turnS s i a (coaS s i a v) b = (coaS s i b v, true) := by
  obtain ⟨n, hf⟩ := h.facts hi hc
  have hlt := lt_of_get hc
  have hca : colAt s i = c := colAt_get (by simpa using hc)
  have hfs : finS s i = n := by unfold finS; rw [if_neg (by omega), hca]; exact hf.fin
  have hfe : finestS s i = n := by unfold finestS; rw [if_pos h.ok]; exact hfs
  have coa : ∀ (lv : Nat) v, lv ≤ n → coaS s i lv v = coaC s c lv v := by
    intro lv v hlv
    unfold coaS
    rw [hfe, if_neg (by omega), hca]
  refine ⟨n, hfe, hf.le, fun v hv => ⟨?_, ?_, ?_⟩⟩
  · rw [coa n v (Nat.le_refl _)]; exact hf.top v hv
  · have := coa 0 v (Nat.zero_le _)
    rw [show ((0 : Nat) : Int) = 0 from rfl] at this
    rw [this]; exact hf.zero v hv
  · intro a b hab ha
    have ht := hf.turn v hv a b hab ha
    rw [coa a v ha, coa b v (by omega)]
    unfold turnS turnedS
    rw [if_pos h.ok, hfs, if_neg (by omega), hca, ht]
    simp
end Go.Proofs.YtmiaihoallkjfaaDoor

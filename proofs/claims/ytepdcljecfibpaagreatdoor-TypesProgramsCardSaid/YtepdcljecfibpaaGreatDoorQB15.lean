/- Chapter 2: the reference's least level of a column of a drawn schema. -/
import Derived.Test.YtepdcljecfibpaaGreatDoorQB13
import Derived.Test.YtepdcljecfibpaaGreatDoorQB10
namespace Go.Proofs.YtepdcljecfibpaaGreatDoor
open Go Go.Av
attribute [local irreducible] AWp AOps AAny MAny DQ retQ retG St.le FCall GCall
set_option linter.unusedVariables false
set_option linter.unnecessarySimpa false
set_option linter.unusedSimpArgs false
set_option maxRecDepth 100000
def PAt (f g : Int → Int) (l : List Int) (i k : Nat) : Prop := (∀ i' : Nat, i' < i → ∀ k' : Nat, k' < i' → pairOk f g (l.getD i' 0) (l.getD k' 0) = true) ∧ ∀ k' : Nat, k' < k → pairOk f g (l.getD i 0) (l.getD k' 0) = true
theorem PAt.zero (f g : Int → Int) (l : List Int) : PAt f g l 0 0 := ⟨fun i' h => absurd h (Nat.not_lt_zero _), fun k' h => absurd h (Nat.not_lt_zero _)⟩
theorem PAt.step {f g : Int → Int} {l : List Int} {i k : Nat} {x y : Int} (h : PAt f g l i k) (hx : l[i]? = some x) (hy : l[k]? = some y) (hp : pairOk f g x y = true) : PAt f g l i (k + 1) := by
  refine ⟨h.1, fun k' hk => ?_⟩
  by_cases e : k' = k
  · subst e; rw [getD_get hx, getD_get hy]; exact hp
  · exact h.2 k' (by omega)
theorem PAt.next {f g : Int → Int} {l : List Int} {i k : Nat} (h : PAt f g l i k) (hk : ¬ (k : Int) < i) : PAt f g l (i + 1) 0 := by
  refine ⟨fun i' hi k' hk' => ?_, fun k' h => absurd h (Nat.not_lt_zero _)⟩
  by_cases e : i' = i
  · subst e; exact h.2 k' (by omega)
  · exact h.1 i' (by omega) k' hk'
theorem PAt.hit {f g : Int → Int} {l : List Int} {i k : Nat} {x y : Int} (hx : l[i]? = some x) (hy : l[k]? = some y) (hk : (k : Int) < i) (hp : pairOk f g x y = false) : divB f g l = false := by
  cases hd : divB f g l with
  | false => rfl
  | true =>
    unfold divB at hd
    have := List.all_eq_true.1 (List.all_eq_true.1 hd i (by rw [List.mem_range]; exact lt_of_get hx)) k (by rw [List.mem_range]; omega)
    rw [getD_get hx, getD_get hy, hp] at this
    cases this
theorem PAt.done {f g : Int → Int} {l : List Int} {i : Nat} (h : PAt f g l i 0) (hi : ¬ (i : Int) < l.length) : divB f g l = true := by
  unfold divB
  simp only [List.all_eq_true, List.mem_range]
  intro i' h1 k' h2
  exact h.1 i' (by omega) k' h2
theorem pair_bad {f g : Int → Int} {x y : Int} (h1 : ¬ f x = f y) (h2 : g x = g y) : pairOk f g x y = false := by simp [pairOk, h1, h2]
theorem pair_ok1 {f g : Int → Int} {x y : Int} (h1 : f x = f y) : pairOk f g x y = true := by simp [pairOk, h1]
theorem pair_ok2 {f g : Int → Int} {x y : Int} (h2 : ¬ g x = g y) : pairOk f g x y = true := by simp [pairOk, h2]
theorem Drawn.coa {s : Sch} (h : Drawn s) {i : Nat} {c : Col} {n : Nat} (hi : 0 < i) (hc : s.cols[i]? = some c) (hn : finC s c = n) {lv : Nat} (hlv : lv ≤ n) (v : Int) : coaS s i lv v = coaC s c lv v := by
  have hlt := lt_of_get hc
  have hca : colAt s i = c := colAt_get (by simpa using hc)
  have hfs : finS s i = n := by unfold finS; rw [if_neg (by omega), hca]; exact hn
  have hfe : finestS s i = n := by unfold finestS; rw [if_pos h.ok]; exact hfs
  unfold coaS
  rw [hfe, if_neg (by omega), hca]
theorem Drawn.divB {s : Sch} (h : Drawn s) {i : Nat} {c : Col} {n : Nat} (hi : 0 < i) (hc : s.cols[i]? = some c) (hb : ColB s c n) {o L : Nat} (ho : o ≤ L) (hL : L ≤ n) : divB (coaS s i L) (coaS s i o) (allC s c) = decide (blkC s c o = blkC s c L) := by
  have e1 : coaS s i L = coaC s c L := funext fun v => h.coa hi hc hb.fin hL v
  have e2 : coaS s i o = coaC s c o := funext fun v => h.coa hi hc hb.fin (by omega) v
  rw [e1, e2]
  have := hb.divs o L ho hL
  rw [← divB_iff] at this
  by_cases hd : blkC s c o = blkC s c L
  · rw [decide_eq_true hd]; exact this.2 hd
  · rw [decide_eq_false hd]
    cases hx : Go.Proofs.YtepdcljecfibpaaGreatDoor.divB (coaC s c L) (coaC s c o) (allC s c) with
    | false => rfl
    | true => exact absurd (this.1 hx) hd
theorem twoB_mea {s : Sch} {c : Col} {nm : List UInt8} (h : MeaOk c nm) {o L : Nat} (ho : o < L) (hL : L ≤ c.widths.length) (h0 : o ≠ 0) : twoB c.low c.high (widthS c L) (widthS c o) = decide (blkC s c o = blkC s c L) := by
  obtain ⟨hw, hW, m, hm, e⟩ := wid_two h (a := L) (b := o) (by omega) (by omega) hL
  have ht := twoB_iff (low := c.low) (high := c.high) hw.1 hm
  have hc := (cnt_iff hw.1 hm h.high.1).2
  rw [← e] at ht hc
  rw [← hc] at ht
  rw [blkC_mea h (by omega) hL, blkC_mea h (by omega) (by omega)]
  by_cases hd : c.high / widthS c o - c.low / widthS c o = c.high / widthS c L - c.low / widthS c L
  · rw [ht.2 hd, decide_eq_true (by omega)]
  · rw [decide_eq_false (by omega)]
    cases hx : twoB c.low c.high (widthS c L) (widthS c o) with
    | false => rfl
    | true => exact absurd (ht.1 hx) hd
theorem zeroB_mea {s : Sch} {c : Col} {nm : List UInt8} (h : MeaOk c nm) {L : Nat} (h0 : 0 < L) (hL : L ≤ c.widths.length) : (!c.opt && decide ((c.low / widthS c L + 1) * widthS c L > c.high)) = decide (blkC s c 0 = blkC s c L) := by
  obtain ⟨hw, _, _⟩ := wid_two h (a := L) (b := L) (by omega) (Nat.le_refl _) hL
  rw [blkC_mea h (by omega) hL, blkC_zero h]
  have hdl := div_le hw.1 h.high.1
  have key : (c.low / widthS c L + 1) * widthS c L > c.high ↔ c.high / widthS c L = c.low / widthS c L := by
    have h1 := Int.mul_ediv_add_emod c.high (widthS c L)
    have h2 := Int.emod_nonneg c.high (b := widthS c L) (by omega)
    have h3 := Int.emod_lt_of_pos c.high (b := widthS c L) (by omega)
    rw [Int.add_mul, Int.one_mul, Int.mul_comm]
    constructor
    · intro h
      rcases Int.lt_or_le (c.low / widthS c L) (c.high / widthS c L) with h4 | h4
      · have := Int.mul_le_mul_of_nonneg_left (show c.low / widthS c L + 1 ≤ c.high / widthS c L by omega) (show 0 ≤ widthS c L by omega)
        rw [Int.mul_add, Int.mul_one] at this
        omega
      · omega
    · intro h; rw [← h]; omega
  cases c.opt with
  | true => simp; omega
  | false =>
    simp only [Bool.not_false, Bool.true_and, key, Bool.false_eq_true, if_false]
    congr 1
    apply propext
    omega
theorem first_bd {c : Col} {nm : List UInt8} (h : MeaOk c nm) {w : Int} (hw : 1 ≤ w ∧ w ≤ 20) : -40 ≤ (c.low / w + 1) * w ∧ (c.low / w + 1) * w ≤ 40 ∧ -10 ≤ c.low / w ∧ c.low / w ≤ 10 := by
  have h1 := Int.mul_ediv_add_emod c.low w
  have h2 := Int.emod_nonneg c.low (b := w) (by omega)
  have h3 := Int.emod_lt_of_pos c.low (b := w) (by omega)
  have hl := h.low
  have h4 := downS_bd c.low hw.1
  have h5 : -4 ≤ c.low / w := by
    have := Int.ediv_le_ediv (a := -4) (b := c.low) (c := w) (by omega) hl.1
    have h6 : -4 ≤ (-4 : Int) / w := by
      rw [Int.le_ediv_iff_mul_le (by omega)]; omega
    omega
  have h6 : c.low / w ≤ 2 := by
    have := Int.ediv_le_ediv (a := c.low) (b := 2) (c := w) (by omega) hl.2
    have h7 : (2 : Int) / w ≤ 2 := Int.ediv_le_self w (by omega)
    omega
  rw [Int.add_mul, Int.one_mul, Int.mul_comm]
  omega
def stepF (f w : Int) : Nat → Int
  | 0 => f
  | n + 1 => stepF f w n + w
theorem twoB_f0 {lo hi w W : Int} (h1 : (lo / w + 1) * w ≤ hi) (h2 : ((lo / w + 1) * w).tmod W ≠ 0) : twoB lo hi w W = false := by
  have h3 : ¬ hi < (lo / w + 1) * w := by omega
  simp [twoB, h3, h2]
theorem twoB_t0 {lo hi w W : Int} (h1 : ¬ (lo / w + 1) * w ≤ hi) : twoB lo hi w W = true := by
  have h3 : hi < (lo / w + 1) * w := by omega
  simp [twoB, h3]
theorem twoB_f1 {lo hi w W : Int} (h0 : (lo / w + 1) * w ≤ hi ∧ ((lo / w + 1) * w).tmod W = 0) (h1 : (lo / w + 1) * w + w ≤ hi) (h2 : ((lo / w + 1) * w + w).tmod W ≠ 0) : twoB lo hi w W = false := by
  have h3 : ¬ hi < (lo / w + 1) * w := by omega
  have h4 : ¬ hi < (lo / w + 1) * w + w := by omega
  simp [twoB, h3, h4, h2]
theorem twoB_t1 {lo hi w W : Int} (h0 : (lo / w + 1) * w ≤ hi ∧ ((lo / w + 1) * w).tmod W = 0) (h1 : ¬ (lo / w + 1) * w + w ≤ hi) : twoB lo hi w W = true := by
  have h4 : hi < (lo / w + 1) * w + w := by omega
  simp [twoB, h4, h0.2]
theorem twoB_t2 {lo hi w W : Int} (h0 : (lo / w + 1) * w ≤ hi ∧ ((lo / w + 1) * w).tmod W = 0) (h1 : (lo / w + 1) * w + w ≤ hi ∧ ((lo / w + 1) * w + w).tmod W = 0) : twoB lo hi w W = true := by
  simp [twoB, h0.2, h1.2]
set_option maxHeartbeats 4000000 in
theorem rdivides_call (s : Sch) (i o L : Nat) {c : Col} {n : Nat} (hd : Drawn s) (hi : 0 < i) (hc : s.cols[i]? = some c) (hb : ColB s c n) (ho : o ≤ L) (hL : L ≤ n) : FCall Tryz.prog 127 [sA s, .i i, .i o, .i L] (.b (decide (blkC s c o = blkC s c L))) := by
  have hlt := lt_of_get hc
  have hn := hd.lens
  rw [← hd.divB hi hc hb ho hL]
  by_cases htriv : L = 0 ∨ L ≤ o
  · have e : o = L := by omega
    subst e
    rw [hd.divB hi hc hb (Nat.le_refl _) hL, decide_eq_true rfl]
    refine fcall_intro (n := 121) Tryz.func127 (by kernel_rfl) rfl rfl rfl rfl rfl (by intro t T h; cases h) (fun hrd E h0 => ?_)
    clear hrd
    repeat' ((first | (refine each_knownm (x := c) hc (by omega) ?_) |refine aops_go ?_|refine awp_go ?_|refine guard_tt ?_|refine guard_ff ?_|refine guard_tf ?_|refine guard_ft ?_|refine cond_t ?_|refine cond_f ?_|refine Z1 ?_|refine Z2 ?_|refine stp ?_|(refine And.intro ?_ ?_<;>intro h<;>try first|(exfalso;omega)|exact absurd rfl h)|refine Z3 ?_|refine Z4 ?_|intro el hel hbB|intro el hel|intro ex|refine Z5 ?_|(refine free_i ?_ ?_;exact ⟨by kernel_rfl,by decide⟩)|refine allI_c ?_ ?_|exact allI_n|refine allMP_c ?_ ?_|exact allMP_n|(refine many_step ?_ ?_ ?_;kernel_rfl;kernel_rfl)) <;> (try (conv => whnf)))
    all_goals exact ret_tmp rfl rfl
  by_cases hk : c.kind = 2
  · obtain ⟨hlst, e1, hl1, hl2⟩ := hd.lvs hc hk
    have hcoa := rcoarse_call s i
    have hlv : FCall Tryz.prog 154 [sA s, .i i] (.sl 1 ((allC s c).map wA)) := by
      refine (leaves_call s i (by omega) (by simpa using hc) hlst).congr (congrArg (AV.sl 1) ?_)
      unfold allC
      rw [if_pos hk, ← e1, List.map_map]
      rfl
    have hal : (allC s c).length ≤ 10 := by
      unfold allC; rw [if_pos hk, ← e1, List.length_map]; exact hl2
    generalize allC s c = al at *
    refine fcall_intro (n := 121) Tryz.func127 (by kernel_rfl) rfl rfl rfl rfl rfl (by intro t T h; cases h) (fun hrd E h0 => ?_)
    clear hrd
    repeat' ((first | (refine each_knownm (x := c) hc (by omega) ?_) | refine call_i hlv ?_ |refine aops_go ?_|refine awp_go ?_|refine guard_tt ?_|refine guard_ff ?_|refine guard_tf ?_|refine guard_ft ?_|refine cond_t ?_|refine cond_f ?_|refine Z1 ?_|refine Z2 ?_|refine stp ?_|(refine And.intro ?_ ?_<;>intro h<;>try first|(exfalso;omega)|exact absurd rfl h)|refine Z3 ?_|refine Z4 ?_|intro el hel hbB|intro el hel|intro ex|refine Z5 ?_|(refine free_i ?_ ?_;exact ⟨by kernel_rfl,by decide⟩)|refine allI_c ?_ ?_|exact allI_n|refine allMP_c ?_ ?_|exact allMP_n|(refine many_step ?_ ?_ ?_;kernel_rfl;kernel_rfl)) <;> (try (conv => whnf)))
    refine loop_i (ι := Nat) (fun k => ⟨[(1, .i i), (2, .i o), (3, .i L), (4, .ref 0 0), (10, .sl 1 (al.map wA)), (11, .i k)], 2, [(0, some (.box (sL s))), (1, some (.box (colL c)))]⟩) (fun k => k ≤ al.length ∧ PAt (coaS s i L) (coaS s i o) al k 0) (fun k => al.length - k) 0 ⟨Nat.zero_le _, PAt.zero _ _ _⟩ (le_of h0 rfl ⟨rfl, rfl, rfl, rfl, rfl, rfl, trivial⟩ ⟨rfl, rfl, trivial⟩ rfl rfl rfl) (fun k hI => ?_)
    obtain ⟨hk1, hI⟩ := hI
    repeat' ((first|refine aops_go ?_|refine awp_go ?_|refine guard_tt ?_|refine guard_ff ?_|refine guard_tf ?_|refine guard_ft ?_|refine cond_t ?_|refine cond_f ?_|refine Z1 ?_|refine Z2 ?_|refine stp ?_|(refine And.intro ?_ ?_<;>intro h<;>try first|(exfalso;omega)|exact absurd rfl h)|refine Z3 ?_|refine Z4 ?_|intro el hel hbB|intro el hel|intro ex|refine Z5 ?_|(refine free_i ?_ ?_;exact ⟨by kernel_rfl,by decide⟩)|refine allI_c ?_ ?_|exact allI_n|refine allMP_c ?_ ?_|exact allMP_n|(refine many_step ?_ ?_ ?_;kernel_rfl;kernel_rfl)) <;> (try (conv => whnf)))
    · refine loop_i (ι := Nat) (fun j => ⟨[(1, .i i), (2, .i o), (3, .i L), (4, .ref 0 0), (10, .sl 1 (al.map wA)), (11, .i k), (12, .i j)], 2, [(0, some (.box (sL s))), (1, some (.box (colL c)))]⟩) (fun j => j ≤ k ∧ PAt (coaS s i L) (coaS s i o) al k j) (fun j => k - j) 0 ⟨Nat.zero_le _, hI⟩ (le_of h0 rfl ⟨rfl, rfl, rfl, rfl, rfl, rfl, rfl, trivial⟩ ⟨rfl, rfl, trivial⟩ rfl rfl rfl) (fun j hJ => ?_)
      obtain ⟨hj1, hJ⟩ := hJ
      repeat' ((first | refine call_i (hcoa _ _) ?_ |refine aops_go ?_|refine awp_go ?_|refine guard_tt ?_|refine guard_ff ?_|refine guard_tf ?_|refine guard_ft ?_|refine cond_t ?_|refine cond_f ?_|refine Z1 ?_|refine Z2 ?_|refine stp ?_|(refine And.intro ?_ ?_<;>intro h<;>try first|(exfalso;omega)|exact absurd rfl h)|refine Z3 ?_|refine Z4 ?_|intro el hel hbB|intro el hel|intro ex|refine Z5 ?_|(refine free_i ?_ ?_;exact ⟨by kernel_rfl,by decide⟩)|refine allI_c ?_ ?_|exact allI_n|refine allMP_c ?_ ?_|exact allMP_n|(refine many_step ?_ ?_ ?_;kernel_rfl;kernel_rfl)) <;> (try (conv => whnf)))
      all_goals first
        | exact ret_tmp rfl (congrArg AV.b (PAt.hit (i := k) (k := j) (by assumption) (by assumption) (by assumption) (pair_bad (by assumption) (by assumption))).symm)
        | exact ⟨j + 1, ⟨by omega, hJ.step (by assumption) (by assumption) (pair_ok2 (by assumption))⟩, by omega, le_of h0 rfl ⟨rfl, rfl, rfl, rfl, rfl, rfl, rfl, trivial⟩ ⟨rfl, rfl, trivial⟩ rfl rfl rfl⟩
        | exact ⟨j + 1, ⟨by omega, hJ.step (by assumption) (by assumption) (pair_ok1 (Decidable.of_not_not (by assumption)))⟩, by omega, le_of h0 rfl ⟨rfl, rfl, rfl, rfl, rfl, rfl, rfl, trivial⟩ ⟨rfl, rfl, trivial⟩ rfl rfl rfl⟩
        | exact ⟨k + 1, ⟨by omega, hJ.next (by assumption)⟩, by omega, le_of h0 rfl ⟨rfl, rfl, rfl, rfl, rfl, rfl, trivial⟩ ⟨rfl, rfl, trivial⟩ rfl rfl rfl⟩
    all_goals first
      | exact ret_tmp rfl (congrArg AV.b (hI.done (by assumption)).symm)
  · obtain ⟨nm, hm⟩ : ∃ nm, MeaOk c nm := by
      rcases hd.col hc with ⟨h, _⟩ | ⟨_, rfl | rfl⟩ | ⟨_, h⟩
      · omega
      · exact absurd rfl hk
      · exact absurd rfl hk
      · exact h
    have hn' : n = c.widths.length := by have h := hb.fin; unfold finC at h; rw [if_neg hk] at h; omega
    have hk3 := hm.kind
    rw [hd.divB hi hc hb ho hL]
    clear hb
    subst hn'
    obtain ⟨hw, _, _⟩ := wid_two hm (a := L) (b := L) (by omega) (Nat.le_refl _) hL
    have hwL := rwidth_call c L (by omega) (by omega)
    have hlow := hm.low
    have hhigh := hm.high
    have hfl := floor_call c.low (widthS c L) hw.1 (by omega)
    have hfb := first_bd hm hw
    by_cases ho0 : o = 0
    · subst ho0
      have hz := zeroB_mea (s := s) hm (L := L) (by omega) hL
      rw [show ((0 : Nat) : Int) = 0 from rfl, ← hz]
      clear hz
      generalize widthS c L = w at *
      refine fcall_intro (n := 121) Tryz.func127 (by kernel_rfl) rfl rfl rfl rfl rfl (by intro t T h; cases h) (fun hrd E h0 => ?_)
      clear hrd
      repeat' ((first | (refine each_knownm (x := c) hc (by omega) ?_) | refine call_i hwL ?_ | refine call_i hfl ?_ |refine aops_go ?_|refine awp_go ?_|refine guard_tt ?_|refine guard_ff ?_|refine guard_tf ?_|refine guard_ft ?_|refine cond_t ?_|refine cond_f ?_|refine Z1 ?_|refine Z2 ?_|refine stp ?_|(refine And.intro ?_ ?_<;>intro h<;>try first|(exfalso;omega)|exact absurd rfl h)|refine Z3 ?_|refine Z4 ?_|intro el hel hbB|intro el hel|intro ex|refine Z5 ?_|(refine free_i ?_ ?_;exact ⟨by kernel_rfl,by decide⟩)|refine allI_c ?_ ?_|exact allI_n|refine allMP_c ?_ ?_|exact allMP_n|(refine many_step ?_ ?_ ?_;kernel_rfl;kernel_rfl)) <;> (try (conv => whnf)))
      all_goals first
        | exact ret_tmp rfl (congrArg AV.b (by simp [*]))
    · have hz := twoB_mea (s := s) hm (o := o) (L := L) (by omega) hL ho0
      obtain ⟨_, hW, _⟩ := wid_two hm (a := L) (b := o) (by omega) (by omega) hL
      have hwo := rwidth_call c o (by omega) (by omega)
      rw [← hz]
      clear hz
      generalize widthS c L = w at *
      generalize widthS c o = W at *
      refine fcall_intro (n := 121) Tryz.func127 (by kernel_rfl) rfl rfl rfl rfl rfl (by intro t T h; cases h) (fun hrd E h0 => ?_)
      clear hrd
      repeat' ((first | (refine each_knownm (x := c) hc (by omega) ?_) | refine call_i hwL ?_ | refine call_i hfl ?_ |refine aops_go ?_|refine awp_go ?_|refine guard_tt ?_|refine guard_ff ?_|refine guard_tf ?_|refine guard_ft ?_|refine cond_t ?_|refine cond_f ?_|refine Z1 ?_|refine Z2 ?_|refine stp ?_|(refine And.intro ?_ ?_<;>intro h<;>try first|(exfalso;omega)|exact absurd rfl h)|refine Z3 ?_|refine Z4 ?_|intro el hel hbB|intro el hel|intro ex|refine Z5 ?_|(refine free_i ?_ ?_;exact ⟨by kernel_rfl,by decide⟩)|refine allI_c ?_ ?_|exact allI_n|refine allMP_c ?_ ?_|exact allMP_n|(refine many_step ?_ ?_ ?_;kernel_rfl;kernel_rfl)) <;> (try (conv => whnf)))
      refine loop_i (ι := Nat) (fun j => ⟨[(2, .i o), (9, .ref 1 0), (13, .i w), (14, .i (stepF ((c.low / w + 1) * w) w j)), (15, .i j)], 2, [(0, some (.box (sL s))), (1, some (.box (colL c)))]⟩)
        (fun j => j ≤ 2 ∧ ∀ q, q < j → stepF ((c.low / w + 1) * w) w q ≤ c.high ∧ (stepF ((c.low / w + 1) * w) w q).tmod W = 0) (fun j => 2 - j) 0 ⟨by omega, fun q hq => absurd hq (Nat.not_lt_zero _)⟩
        (le_of h0 rfl ⟨rfl, rfl, rfl, rfl, rfl, trivial⟩ ⟨rfl, rfl, trivial⟩ rfl rfl rfl) (fun j hJ => ?_)
      obtain ⟨hj, hJ⟩ := hJ
      obtain rfl | rfl | rfl : j = 0 ∨ j = 1 ∨ j = 2 := by omega
      · have hs0 : -40 ≤ stepF ((c.low / w + 1) * w) w 0 ∧ stepF ((c.low / w + 1) * w) w 0 ≤ 40 := by simp only [stepF]; omega
        repeat' ((first | refine call_i hwo ?_ |refine aops_go ?_|refine awp_go ?_|refine guard_tt ?_|refine guard_ff ?_|refine guard_tf ?_|refine guard_ft ?_|refine cond_t ?_|refine cond_f ?_|refine Z1 ?_|refine Z2 ?_|refine stp ?_|(refine And.intro ?_ ?_<;>intro h<;>try first|(exfalso;omega)|exact absurd rfl h)|refine Z3 ?_|refine Z4 ?_|intro el hel hbB|intro el hel|intro ex|refine Z5 ?_|(refine free_i ?_ ?_;exact ⟨by kernel_rfl,by decide⟩)|refine allI_c ?_ ?_|exact allI_n|refine allMP_c ?_ ?_|exact allMP_n|(refine many_step ?_ ?_ ?_;kernel_rfl;kernel_rfl)) <;> (try (conv => whnf)))
        all_goals first
          | exact ret_tmp rfl (congrArg AV.b (twoB_f0 (by assumption) (by assumption)).symm)
          | exact ret_tmp rfl (congrArg AV.b (twoB_t0 (by assumption)).symm)
          | exact ⟨1, ⟨by omega, fun q hq => by
                obtain rfl : q = 0 := by omega
                exact ⟨by assumption, Decidable.of_not_not (by assumption)⟩⟩, by omega, le_of h0 rfl ⟨rfl, rfl, rfl, rfl, rfl, trivial⟩ ⟨rfl, rfl, trivial⟩ rfl rfl rfl⟩
      · have hJ0 := hJ 0 (by omega)
        simp only [stepF] at hJ0
        have hs1 : -40 ≤ stepF ((c.low / w + 1) * w) w 1 ∧ stepF ((c.low / w + 1) * w) w 1 ≤ 60 := by simp only [stepF]; omega
        repeat' ((first | refine call_i hwo ?_ |refine aops_go ?_|refine awp_go ?_|refine guard_tt ?_|refine guard_ff ?_|refine guard_tf ?_|refine guard_ft ?_|refine cond_t ?_|refine cond_f ?_|refine Z1 ?_|refine Z2 ?_|refine stp ?_|(refine And.intro ?_ ?_<;>intro h<;>try first|(exfalso;omega)|exact absurd rfl h)|refine Z3 ?_|refine Z4 ?_|intro el hel hbB|intro el hel|intro ex|refine Z5 ?_|(refine free_i ?_ ?_;exact ⟨by kernel_rfl,by decide⟩)|refine allI_c ?_ ?_|exact allI_n|refine allMP_c ?_ ?_|exact allMP_n|(refine many_step ?_ ?_ ?_;kernel_rfl;kernel_rfl)) <;> (try (conv => whnf)))
        all_goals first
          | exact ret_tmp rfl (congrArg AV.b (twoB_f1 hJ0 (by assumption) (by assumption)).symm)
          | exact ret_tmp rfl (congrArg AV.b (twoB_t1 hJ0 (by assumption)).symm)
          | exact ⟨2, ⟨by omega, fun q hq => by
                obtain rfl | rfl : q = 0 ∨ q = 1 := by omega
                · exact hJ0
                · exact ⟨by assumption, Decidable.of_not_not (by assumption)⟩⟩, by omega, le_of h0 rfl ⟨rfl, rfl, rfl, rfl, rfl, trivial⟩ ⟨rfl, rfl, trivial⟩ rfl rfl rfl⟩
      · have hJ0 := hJ 0 (by omega)
        have hJ1 := hJ 1 (by omega)
        simp only [stepF] at hJ0 hJ1
        repeat' ((first|refine aops_go ?_|refine awp_go ?_|refine guard_tt ?_|refine guard_ff ?_|refine guard_tf ?_|refine guard_ft ?_|refine cond_t ?_|refine cond_f ?_|refine Z1 ?_|refine Z2 ?_|refine stp ?_|(refine And.intro ?_ ?_<;>intro h<;>try first|(exfalso;omega)|exact absurd rfl h)|refine Z3 ?_|refine Z4 ?_|intro el hel hbB|intro el hel|intro ex|refine Z5 ?_|(refine free_i ?_ ?_;exact ⟨by kernel_rfl,by decide⟩)|refine allI_c ?_ ?_|exact allI_n|refine allMP_c ?_ ?_|exact allMP_n|(refine many_step ?_ ?_ ?_;kernel_rfl;kernel_rfl)) <;> (try (conv => whnf)))
        all_goals first
          | exact ret_tmp rfl (congrArg AV.b (twoB_t2 hJ0 hJ1).symm)
set_option maxHeartbeats 4000000 in
theorem rleast_call (s : Sch) (column level : Int) (hd : Drawn s) : FCall Tryz.prog 88 [sA s, .i column, .i level] (.i (leastS s column level)) := by
  have hfin := rfinest_call s column
  have hin := in_call level 0 (finestS s column)
  by_cases hb : 0 ≤ level ∧ level ≤ finestS s column
  · obtain ⟨hr, h1, h2, h4⟩ := finestS_ok (s := s) (column := column) (level := level) hb.1 hb.2
    obtain ⟨i, rfl⟩ := Int.eq_ofNat_of_zero_le (show 0 ≤ column by omega)
    obtain ⟨L, rfl⟩ := Int.eq_ofNat_of_zero_le (show 0 ≤ level by omega)
    obtain ⟨c, hc⟩ : ∃ c, s.cols[i]? = some c := ⟨_, List.getElem?_eq_getElem (by omega)⟩
    obtain ⟨n, hB⟩ := hd.blk (i := i) (by omega) hc
    have hca : colAt s i = c := colAt_get (by simpa using hc)
    have hLn : L ≤ n := by
      have hf := hB.fin
      have : finS s i = finC s c := by unfold finS; rw [if_neg (by omega), hca]
      omega
    have e : leastS s i L = leastK s c L := by
      unfold leastS; rw [if_neg (by omega), hca]; rfl
    rw [e]
    rw [decide_eq_true hb] at hin
    refine fcall_intro (n := 23) Tryz.func88 (by kernel_rfl) rfl rfl rfl rfl rfl (by intro t T h; cases h) (fun hrd E h0 => ?_)
    clear hrd
    repeat' ((first | refine call_i hfin ?_ | refine call_i hin ?_ |refine aops_go ?_|refine awp_go ?_|refine guard_tt ?_|refine guard_ff ?_|refine guard_tf ?_|refine guard_ft ?_|refine cond_t ?_|refine cond_f ?_|refine Z1 ?_|refine Z2 ?_|refine stp ?_|(refine And.intro ?_ ?_<;>intro h<;>try first|(exfalso;omega)|exact absurd rfl h)|refine Z3 ?_|refine Z4 ?_|intro el hel hbB|intro el hel|intro ex|refine Z5 ?_|(refine free_i ?_ ?_;exact ⟨by kernel_rfl,by decide⟩)|refine allI_c ?_ ?_|exact allI_n|refine allMP_c ?_ ?_|exact allMP_n|(refine many_step ?_ ?_ ?_;kernel_rfl;kernel_rfl)) <;> (try (conv => whnf)))
    refine loop_i (ι := Nat) (fun k => ⟨[(1, .i i), (2, .i L), (3, .ref 0 0), (7, .i k)], 1, [(0, some (.box (sL s)))]⟩) (fun k => k ≤ L ∧ ∀ o : Nat, o < k → blkC s c o ≠ blkC s c L) (fun k => L - k) 0 ⟨Nat.zero_le _, fun o ho => absurd ho (Nat.not_lt_zero _)⟩
      (le_of h0 rfl ⟨rfl, rfl, rfl, rfl, trivial⟩ ⟨rfl, trivial⟩ rfl rfl rfl) (fun k hI => ?_)
    obtain ⟨hk, hI⟩ := hI
    have hdv := rdivides_call s i k L hd (by omega) hc hB hk hLn
    have hL4 := hB.le
    repeat' ((first | refine call_i hdv ?_ |refine aops_go ?_|refine awp_go ?_|refine guard_tt ?_|refine guard_ff ?_|refine guard_tf ?_|refine guard_ft ?_|refine cond_t ?_|refine cond_f ?_|refine Z1 ?_|refine Z2 ?_|refine stp ?_|(refine And.intro ?_ ?_<;>intro h<;>try first|(exfalso;omega)|exact absurd rfl h)|refine Z3 ?_|refine Z4 ?_|intro el hel hbB|intro el hel|intro ex|refine Z5 ?_|(refine free_i ?_ ?_;exact ⟨by kernel_rfl,by decide⟩)|refine allI_c ?_ ?_|exact allI_n|refine allMP_c ?_ ?_|exact allMP_n|(refine many_step ?_ ?_ ?_;kernel_rfl;kernel_rfl)) <;> (try (conv => whnf)))
    all_goals first
      | exact ret_tmp rfl (congrArg AV.i (leastK_first hB hLn hI (by assumption)))
      | (have hkL : k ≠ L := by
           intro e
           subst e
           exact absurd rfl (by assumption)
         exact ⟨k + 1, ⟨by omega, fun o ho => by
           by_cases eo : o = k
           · subst eo; assumption
           · exact hI o (by omega)⟩, by omega, le_of h0 rfl ⟨rfl, rfl, rfl, rfl, trivial⟩ ⟨rfl, trivial⟩ rfl rfl rfl⟩)
  · have e : leastS s column level = -1 := by unfold leastS; rw [if_pos (by omega)]
    rw [e]
    rw [decide_eq_false hb] at hin
    refine fcall_intro (n := 23) Tryz.func88 (by kernel_rfl) rfl rfl rfl rfl rfl (by intro t T h; cases h) (fun hrd E h0 => ?_)
    clear hrd
    repeat' ((first | refine call_i hfin ?_ | refine call_i hin ?_ |refine aops_go ?_|refine awp_go ?_|refine guard_tt ?_|refine guard_ff ?_|refine guard_tf ?_|refine guard_ft ?_|refine cond_t ?_|refine cond_f ?_|refine Z1 ?_|refine Z2 ?_|refine stp ?_|(refine And.intro ?_ ?_<;>intro h<;>try first|(exfalso;omega)|exact absurd rfl h)|refine Z3 ?_|refine Z4 ?_|intro el hel hbB|intro el hel|intro ex|refine Z5 ?_|(refine free_i ?_ ?_;exact ⟨by kernel_rfl,by decide⟩)|refine allI_c ?_ ?_|exact allI_n|refine allMP_c ?_ ?_|exact allMP_n|(refine many_step ?_ ?_ ?_;kernel_rfl;kernel_rfl)) <;> (try (conv => whnf)))
    all_goals exact ret_tmp rfl rfl
end Go.Proofs.YtepdcljecfibpaaGreatDoor

/- Chapter 16: the text of a right expression. -/
import Derived.Test.YtjmbhlgocikfiaaGreatDoorQPt2
namespace Go.Proofs.YtjmbhlgocikfiaaGreatDoor
open Go Go.Av
attribute [local irreducible] AWp AOps AAny MAny DQ retQ retG St.le FCall GCall
set_option linter.unusedVariables false
set_option linter.unnecessarySimpa false
set_option linter.unusedSimpArgs false
set_option maxRecDepth 100000
theorem ptext_call (s : Sch) (hr : schE s = 0) (e : Xpr) : rigS s e = true → totS (treeX e) ≤ 100 → FCall Tryz.prog 35 [sA s, xprA e] (.str (txtX s e)) := by
  refine xpr_ind (p := fun e => rigS s e = true → totS (treeX e) ≤ 100 → FCall Tryz.prog 35 [sA s, xprA e] (.str (txtX s e))) (fun e ih h ht => ?_) e
  have hg := rig_parts h
  have hop := hg.op
  by_cases h12 : e.op = 1 ∨ e.op = 2
  · exact text_leaf s e hg h12
  by_cases h3 : 6 ≤ e.op ∧ e.op ≤ 9
  · obtain ⟨x, y, hk⟩ := xkids_two (hg.pair h3)
    have htt := totS_eq (treeX e)
    rw [tree_kids, hk] at htt
    have h2 : totL [treeX x, treeX y] = totS (treeX x) + totS (treeX y) := by
      show totS (treeX x) + (totS (treeX y) + 0) = _
      omega
    rw [show List.map treeX [x, y] = [treeX x, treeX y] from rfl, h2] at htt
    have rx := (hg.kid x (by rw [hk]; simp)).2
    have ry := (hg.kid y (by rw [hk]; simp)).2
    have lx := txtX_len hr x rx
    have ly := txtX_len hr y ry
    have := text_pair s e h3 x y hk _ _ (ih x (by rw [hk]; simp) rx (by omega)) (ih y (by rw [hk]; simp) ry (by omega)) (by omega) (by omega)
    rw [txtX_eq, if_neg (by omega), if_neg (by omega), if_pos h3, hk]
    exact this
  obtain ⟨_, _, q2, q3, q4⟩ := rig_call hr hg (by omega) (by omega) h3
  have hj := prtJ_len hr hg (by omega) (by omega) h3
  have hw := word16_call e.op
  have lw := wrdX_len e.op
  have hc := cond16_call s e.cnd q4
  have hln := hg.lens
  rw [txtX_eq, if_neg (by omega), if_neg (by omega), if_neg h3]
  unfold hdOk at q2
  unfold mdOk at q3
  unfold prtX at hj ⊢
  by_cases o3 : e.op = 3
  · rw [if_pos o3] at q2 hj ⊢
    exact text_cnt s e o3 q2.2 _ _ hw lw hc hj
  rw [if_neg o3] at q2 hj ⊢
  have hcol : e.col < s.cols.length := by
    by_cases o10 : e.op = 10
    · rw [if_pos o10] at q2
      have := schE_pos hr
      rcases q2.2.2 with h | h <;> omega
    · rw [if_neg o10] at q2
      exact q2.1.2
  have hn := name16_call s e.col hcol
  by_cases o10 : e.op = 10
  · rw [if_pos o10] at q2 hj ⊢
    exact text_tab s e o10 hln.1 hr q2.2.1 _ rfl (dimTs_len hr hln.1 q2.2.1) _ hn _ _ hw lw hc hj
  rw [if_neg o10] at q2 hj ⊢
  by_cases o11 : e.op = 11
  · rw [if_pos o11] at q3 hj ⊢
    exact text_mod s e o11 q2.2 hln.2.1 (fun c hc => (q3.2.2.2 c hc).2) _ rfl (by have := nmDs_len hr hln.2.1; omega) _ hn _ _ hw lw hc hj
  rw [if_neg o11] at q3 hj ⊢
  by_cases o12 : e.op = 12
  · rw [if_pos o12] at q3 hj ⊢
    exact text_cur s e o12 q2.2 _ hn _ (cond16_call s e.evt q3.2.2) _ _ hw lw hc hj
  rw [if_neg o12] at q3 hj ⊢
  by_cases o13 : e.op = 13
  · rw [if_pos o13] at q3 hj ⊢
    exact text_his s e o13 q2.2 q3.1 _ hn _ _ hw lw hc hj
  rw [if_neg o13] at hj ⊢
  exact text_one s e (by omega) q2.2 _ hn _ _ hw lw hc hj
end Go.Proofs.YtjmbhlgocikfiaaGreatDoor

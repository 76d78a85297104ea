/- Chapter 16: how long the texts of right expressions are. -/
import Derived.Test.YtjmbhlgocikfiaaGreatDoorQXt2
import Derived.Test.YtjmbhlgocikfiaaGreatDoorQXc
import Derived.Test.YtjmbhlgocikfiaaGreatDoorQD1
namespace Go.Proofs.YtjmbhlgocikfiaaGreatDoor
open Go Go.Av
attribute [local irreducible] AWp AOps AAny MAny DQ retQ retG St.le FCall GCall
set_option linter.unusedVariables false
set_option linter.unnecessarySimpa false
set_option linter.unusedSimpArgs false
set_option maxRecDepth 100000
theorem nmD_len {s : Sch} (hr : schE s = 0) (c : Int) : (nmD s c).length ≤ 16 := by
  unfold nmD
  split
  · simp
  · unfold colNm
    by_cases h : c.toNat < s.cols.length
    · have hx : s.cols[c.toNat]? = some (s.cols[c.toNat]'h) := List.getElem?_eq_getElem h
      rw [colAt_get hx]
      exact nameB_len (col_name hr hx)
    · have : (colAt s c).name = [] := by
        unfold colAt
        rw [List.getD_eq_getElem?_getD, List.getElem?_eq_none (by omega)]; rfl
      rw [this]
      simp
theorem dimT_len {s : Sch} (hr : schE s = 0) {d : Pk} (h : okD s d) : (dimT s d).length ≤ 40 := by
  have h1 := nmD_len hr d.col
  have h2 := Lib.itoa_length_le d.lev (by have := h.2; omega) (by have := h.2; omega)
  unfold dimT
  simp only [List.length_append, List.length_cons, List.length_nil]
  omega
theorem nmDs_len {s : Sch} (hr : schE s = 0) {cs : List Int} (h : cs.length ≤ 3) : (jnS bCom (cs.map (nmD s))).length ≤ 60 := by
  have := jnS_len bCom 16 (cs.map (nmD s)) (fun x hx => by
    obtain ⟨c, _, rfl⟩ := List.mem_map.1 hx
    exact nmD_len hr c)
  rw [List.length_map] at this
  have h2 : cs.length * (16 + bCom.length) ≤ 3 * (16 + bCom.length) := Nat.mul_le_mul_right _ h
  have h3 : bCom.length = 2 := rfl
  omega
theorem dimTs_len {s : Sch} (hr : schE s = 0) {ds : List Pk} (h : ds.length ≤ 3) (hd : ∀ d ∈ ds, okD s d) : (jnS bCom (ds.map (dimT s))).length ≤ 200 := by
  have := jnS_len bCom 40 (ds.map (dimT s)) (fun x hx => by
    obtain ⟨c, hc, rfl⟩ := List.mem_map.1 hx
    exact dimT_len hr (hd c hc))
  rw [List.length_map] at this
  have h2 : ds.length * (40 + bCom.length) ≤ 3 * (40 + bCom.length) := Nat.mul_le_mul_right _ h
  have h3 : bCom.length = 2 := rfl
  omega
theorem txtS_len {s : Sch} {c : Cnd} (h : cndE s c = 0) : (txtS s c).length ≤ 4000 := by
  obtain ⟨hr, h3, h4, h5⟩ := cndE_parts h
  have := (ctext_call s hr c h5 (by omega)).2
  omega
theorem wrdX_len (o : Int) : (wrdX o).length ≤ 5 := by
  unfold wrdX
  repeat' split
  all_goals simp
theorem sgnX_len (o : Int) : (sgnX o).length = 3 := by
  unfold sgnX
  repeat' split
  all_goals rfl
theorem prtX_len {s : Sch} (hr : schE s = 0) {e : Xpr} (hg : RigE s e) (h1 : ¬ e.op = 1) (h2 : ¬ e.op = 2) (h3 : ¬ (6 ≤ e.op ∧ e.op ≤ 9)) : (∀ x ∈ prtX s e.op e.num e.col e.cols e.dims e.evt ++ [txtS s e.cnd], x.length ≤ 4000) ∧ (prtX s e.op e.num e.col e.cols e.dims e.evt ++ [txtS s e.cnd]).length ≤ 3 := by
  obtain ⟨_, _, q1, q2, q3⟩ := rig_call hr hg h1 h2 h3
  have hln := hg.lens
  have hcd := txtS_len q3
  have hnm := nmD_len hr e.col
  have hop := hg.op
  unfold hdOk at q1
  unfold mdOk at q2
  unfold prtX
  by_cases o3 : e.op = 3
  · rw [if_pos o3]; simpa using hcd
  rw [if_neg o3] at q1 ⊢
  by_cases o10 : e.op = 10
  · rw [if_pos o10] at q1 ⊢
    have := dimTs_len hr hln.1 q1.2.1
    refine ⟨fun x hx => ?_, by simp⟩
    simp only [List.cons_append, List.nil_append, List.mem_cons, List.not_mem_nil, or_false] at hx
    rcases hx with rfl | rfl | rfl <;> omega
  rw [if_neg o10] at q1 ⊢
  by_cases o11 : e.op = 11
  · rw [if_pos o11]
    have := nmDs_len hr hln.2.1
    refine ⟨fun x hx => ?_, by simp⟩
    simp only [List.cons_append, List.nil_append, List.mem_cons, List.not_mem_nil, or_false] at hx
    rcases hx with rfl | rfl | rfl <;> omega
  rw [if_neg o11] at q2 ⊢
  by_cases o12 : e.op = 12
  · rw [if_pos o12] at q2 ⊢
    have := txtS_len q2.2.2
    refine ⟨fun x hx => ?_, by simp⟩
    simp only [List.cons_append, List.nil_append, List.mem_cons, List.not_mem_nil, or_false] at hx
    rcases hx with rfl | rfl | rfl <;> omega
  rw [if_neg o12] at q2 ⊢
  by_cases o13 : e.op = 13
  · rw [if_pos o13] at q2 ⊢
    have := Lib.itoa_length_le e.num (by have := q2.1; omega) (by have := q2.1; omega)
    refine ⟨fun x hx => ?_, by simp⟩
    simp only [List.cons_append, List.nil_append, List.mem_cons, List.not_mem_nil, or_false] at hx
    rcases hx with rfl | rfl | rfl <;> omega
  rw [if_neg o13]
  refine ⟨fun x hx => ?_, by simp⟩
  simp only [List.cons_append, List.nil_append, List.mem_cons, List.not_mem_nil, or_false] at hx
  rcases hx with rfl | rfl <;> omega
theorem prtJ_len {s : Sch} (hr : schE s = 0) {e : Xpr} (hg : RigE s e) (h1 : ¬ e.op = 1) (h2 : ¬ e.op = 2) (h3 : ¬ (6 ≤ e.op ∧ e.op ≤ 9)) : (jnS bSep (prtX s e.op e.num e.col e.cols e.dims e.evt ++ [txtS s e.cnd])).length ≤ 13000 := by
  obtain ⟨q1, q2⟩ := prtX_len hr hg h1 h2 h3
  have := jnS_len bSep 4000 _ q1
  have h2 := Nat.mul_le_mul_right (4000 + bSep.length) q2
  have h3 : bSep.length = 2 := rfl
  omega
theorem txtX_len {s : Sch} (hr : schE s = 0) (e : Xpr) : rigS s e = true → (txtX s e).length ≤ 20000 * totS (treeX e) := by
  refine xpr_ind (p := fun e => rigS s e = true → (txtX s e).length ≤ 20000 * totS (treeX e)) (fun e ih h => ?_) e
  have hg := rig_parts h
  have hop := hg.op
  have htx := txtX_eq s e
  have htt := totS_eq (treeX e)
  rw [tree_kids] at htt
  by_cases h1 : e.op = 1
  · have hpar := hg.par
    unfold parB at hpar
    rw [if_pos h1] at hpar
    have hb := of_decide_eq_true hpar
    have := Lib.itoa_length_le e.num (by omega) (by omega)
    rw [htx, if_pos h1]
    omega
  rw [if_neg h1] at htx
  by_cases h2 : e.op = 2
  · have hpar := hg.par
    unfold parB at hpar
    rw [if_neg h1, if_pos h2] at hpar
    have := nameB_len hpar
    rw [htx, if_pos h2]
    omega
  rw [if_neg h2] at htx
  by_cases h3 : 6 ≤ e.op ∧ e.op ≤ 9
  · rw [if_pos h3] at htx
    obtain ⟨x, y, hk⟩ := xkids_two (hg.pair h3)
    have ix := ih x (by rw [hk]; simp) (hg.kid x (by rw [hk]; simp)).2
    have iy := ih y (by rw [hk]; simp) (hg.kid y (by rw [hk]; simp)).2
    have hs := sgnX_len e.op
    rw [htx, hk]
    rw [hk] at htt
    show ([40] ++ txtX s x ++ sgnX e.op ++ txtX s y ++ [41]).length ≤ _
    simp only [List.length_append, List.length_cons, List.length_nil]
    have : totL [treeX x, treeX y] = totS (treeX x) + totS (treeX y) := by
      show totS (treeX x) + (totS (treeX y) + 0) = _
      omega
    rw [show List.map treeX [x, y] = [treeX x, treeX y] from rfl, this] at htt
    omega
  rw [if_neg h3] at htx
  have := prtJ_len hr hg h1 h2 h3
  have hw := wrdX_len e.op
  rw [htx]
  simp only [List.length_append, List.length_cons, List.length_nil]
  omega
end Go.Proofs.YtjmbhlgocikfiaaGreatDoor

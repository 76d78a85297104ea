/- Chapter 16: the text of a right expression is read as it. -/
import Derived.Test.YtjmbhlgocikfiaaGreatDoorQXt1
import Derived.Test.YtjmbhlgocikfiaaGreatDoorQRg0
import Derived.Test.YtjmbhlgocikfiaaGreatDoorQRp1
namespace Go.Proofs.YtjmbhlgocikfiaaGreatDoor
open Go Go.Av
attribute [local irreducible] AWp AOps AAny MAny DQ retQ retG St.le FCall GCall
set_option linter.unusedVariables false
set_option linter.unnecessarySimpa false
set_option linter.unusedSimpArgs false
set_option maxRecDepth 100000
abbrev okD (s : Sch) (d : Pk) : Prop := (0 ≤ d.col ∧ d.col < s.cols.length) ∧ 0 ≤ d.lev ∧ d.lev ≤ 61
def hdOk (s : Sch) (o c : Int) (ds : List Pk) : Prop := if o = 3 then c = 0 ∧ ds = [] else if o = 10 then ds ≠ [] ∧ (∀ d ∈ ds, okD s d) ∧ (c = -1 ∨ 0 ≤ c ∧ c < s.cols.length) else (0 ≤ c ∧ c < s.cols.length) ∧ ds = []
def mdOk (s : Sch) (o n : Int) (cs : List Int) (ev : Cnd) : Prop := if o = 11 then n = 0 ∧ ev = zX ∧ cs ≠ [] ∧ ∀ c ∈ cs, 0 ≤ c ∧ c < s.cols.length else if o = 12 then n = 0 ∧ cs = [] ∧ cndE s ev = 0 else if o = 13 then (0 ≤ n ∧ n ≤ 1000000) ∧ cs = [] ∧ ev = zX else n = 0 ∧ cs = [] ∧ ev = zX
theorem emp_zX {c : Cnd} (h : empP c) : c = zX := by
  obtain ⟨o, cl, k, lo, hi, ks⟩ := c
  obtain ⟨h1, h2, h3, h4, h5, h6⟩ := h
  dsimp only [Cnd.op, Cnd.col, Cnd.code, Cnd.lo, Cnd.hi, Cnd.kids] at *
  subst h1 h2 h3 h4 h5
  rw [List.eq_nil_of_length_eq_zero h6]; rfl
def StopX (u : List UInt8) : Prop := ∀ b r, u = b :: r → b.toNat = 32 ∨ b.toNat = 41
theorem StopX.stops {u : List UInt8} (h : StopX u) : Stops u := fun b r e => by
  have := h b r e
  unfold isW
  exact decide_eq_false (by omega)
theorem wrd_W (o : Int) : (wrdX o).all isW = true ∧ ∃ b r, wrdX o = b :: r ∧ 97 ≤ b.toNat ∧ b.toNat ≤ 122 := by
  unfold wrdX
  (repeat' split) <;> exact ⟨by rfl, _, _, rfl, by decide, by decide⟩
theorem xkids_two {e : Xpr} (h : e.kids.length = 2) : ∃ x y, e.kids = [x, y] := by
  match hk : e.kids, h with
  | [x, y], _ => exact ⟨x, y, rfl⟩
theorem mea_wid {s : Sch} (hr : schE s = 0) {c : Int} {x : Col} (hx : s.cols[c.toNat]? = some x) (hk : x.kind = 3) : ∀ w ∈ x.widths, 1 ≤ w ∧ w ≤ 1000000 := by
  have h := (schE_parts hr).2.2.2.1 _ x hx
  unfold colE at h
  split at h
  · cases h
  · split at h
    · cases h
    · split at h
      · rename_i hk2
        exact widths_bd (meaE_parts (kindE_mea hk2 hk)).2.2.2.2.2
      · exact absurd h (by assumption)
theorem rig_call {s : Sch} (hr : schE s = 0) {e : Xpr} (hg : RigE s e) (h1 : ¬ e.op = 1) (h2 : ¬ e.op = 2) (h3 : ¬ (6 ≤ e.op ∧ e.op ≤ 9)) : e.name = [] ∧ e.kids = [] ∧ hdOk s e.op e.col e.dims ∧ mdOk s e.op e.num e.cols e.evt ∧ cndE s e.cnd = 0 := by
  obtain ⟨u1, u2, u3, u4, u5, u6, u7, u8⟩ := hg.unu
  have hop := hg.op
  simp only [usNum, usName, usCol, usCols, usDims, usCnd, usEvt, pairP] at u1 u2 u3 u4 u5 u6 u7 u8
  have hc := hg.cnd (by simp only [usCnd]; omega)
  have nil : ∀ {α : Type} {l : List α}, l.length = 0 → l = [] := fun h => List.eq_nil_of_length_eq_zero h
  have k0 : e.kids = [] := nil (by omega)
  have n0 : e.name = [] := nil (by omega)
  refine ⟨n0, k0, ?_, ?_, hc⟩
  · unfold hdOk
    by_cases o3 : e.op = 3
    · rw [if_pos o3]; exact ⟨by omega, nil (by omega)⟩
    · rw [if_neg o3]
      have hcol := hg.col (by simp only [usCol]; omega)
      by_cases o10 : e.op = 10
      · rw [if_pos o10]
        have hd := hg.dim
        have hpar := hg.par
        unfold parB at hpar
        rw [if_neg h1, if_neg h2, if_neg (by omega), if_pos o10] at hpar
        simp only [Bool.and_eq_true] at hpar
        have hde := of_decide_eq_true hpar.1
        refine ⟨fun hn => ?_, fun d hm => ?_, ?_⟩
        · rw [hn] at hde; simp [dimsE] at hde
        · have hp := hd d hm
          unfold pickE pkE at hp
          rw [if_pos hr] at hp
          have hb := finS_bd hr d.col
          split at hp
          · cases hp
          · split at hp
            · cases hp
            · rename_i q1 q2
              refine ⟨?_, by omega, by omega⟩
              unfold finS at q1
              by_cases hcc : d.col < 1 ∨ (s.cols.length : Int) ≤ d.col
              · rw [if_pos hcc] at q1; omega
              · omega
        · rcases hcol with ⟨_, h⟩ | h
          · exact .inl h
          · obtain ⟨a, b, _⟩ := isB_col h; exact .inr ⟨a, b⟩
      · rw [if_neg o10]
        rcases hcol with ⟨h, _⟩ | h
        · exact absurd h o10
        · obtain ⟨a, b, _⟩ := isB_col h; exact ⟨⟨a, b⟩, nil (by omega)⟩
  · unfold mdOk
    by_cases o11 : e.op = 11
    · rw [if_pos o11]
      have hpar := hg.par
      unfold parB at hpar
      rw [if_neg h1, if_neg h2, if_neg (by omega), if_neg (by omega), if_pos o11] at hpar
      simp only [Bool.and_eq_true] at hpar
      have hte := of_decide_eq_true hpar.2
      refine ⟨by omega, emp_zX (u7.resolve_left (by omega)), fun hn => ?_, fun c hm => ?_⟩
      · rw [hn] at hte; simp [trmsE] at hte
      · obtain ⟨a, b, _⟩ := isB_col (hg.trm c hm); exact ⟨a, b⟩
    · rw [if_neg o11]
      have c0 : e.cols = [] := nil (by omega)
      by_cases o12 : e.op = 12
      · rw [if_pos o12]
        exact ⟨by omega, c0, hg.evt o12⟩
      · rw [if_neg o12]
        have e0 := emp_zX (u7.resolve_left (by omega))
        by_cases o13 : e.op = 13
        · rw [if_pos o13]
          have hpar := hg.par
          unfold parB at hpar
          rw [if_neg h1, if_neg h2, if_neg (by omega), if_neg (by omega), if_neg o11, if_neg o12, if_pos o13] at hpar
          simp only [Bool.and_eq_true] at hpar
          obtain ⟨w, hw, he⟩ := List.any_eq_true.1 hpar.2
          have hwe := of_decide_eq_true he
          obtain ⟨_, _, x, hx, hk⟩ := isB_col hpar.1
          rw [colAt_get hx] at hw
          have hb := mea_wid hr hx hk w hw
          exact ⟨by omega, c0, e0⟩
        · rw [if_neg o13]
          exact ⟨by omega, c0, e0⟩
end Go.Proofs.YtjmbhlgocikfiaaGreatDoor

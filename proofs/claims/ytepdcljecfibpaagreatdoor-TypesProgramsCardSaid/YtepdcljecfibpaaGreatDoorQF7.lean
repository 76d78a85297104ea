/- A box that holds nothing laid holds an empty row of one's own. A drawn region in which slices are built as memory of one's own. -/
import Derived.Test.YtepdcljecfibpaaGreatDoorQE3
namespace Go.Proofs.YtepdcljecfibpaaGreatDoor
open Go Go.Av
attribute [local irreducible] AWp AOps AAny MAny DQ retQ retG St.le FCall GCall
set_option linter.unusedVariables false
set_option linter.unnecessarySimpa false
set_option linter.unusedSimpArgs false
set_option maxRecDepth 100000
theorem le_adoptb {E : Env} {n : Nat} {σ : St} (i j : Nat) {e sz : Nat} {l : List AV} (hb : lookB σ.hp i = some (.box l)) (hj : l[j]? = some (.v (.slice none 0 0))) : St.le E n σ ((σ.new (.row e sz 0 [])).set i (.box (l.set j (.row σ.nx 0 0)))) := by
  unfold St.le
  rintro a w ⟨θ, h⟩
  have h2 := h.grow (w' := w) (Go.RowKit.Below.refl _ _) (.slice none 0 0) (.row e sz 0 []) (fun k hk => by cases hk) fun le => ⟨[], ⟨by simp, .inl ⟨by simp [cx, upd_self], rfl⟩⟩, (fun el hel => by cases hel), fun k el hk => by simp at hk⟩
  have hlt := (h.owns i _ hb).1
  have hb' : lookB (σ.new (.row e sz 0 [])).hp i = some (.box l) := by
    simp only [St.new, lookB_cons]
    rw [if_neg (by omega)]; exact hb
  obtain ⟨_, b, arr, ty, h3, h4, h5, h6⟩ := h2.owns i _ hb'
  refine ⟨_, h2.turn (v' := upd θ σ.nx (.slice none 0 0) i) (b' := .box (l.set j (.row σ.nx 0 0))) (w' := w) hb' rfl rfl rfl (Nat.le_refl _) (fun _ _ _ => rfl) (fun k hk => .inl hk) rfl fun le => ?_⟩
  refine ⟨b, arr, ty, by simp only [cx, upd_self]; exact h3, h4, by rw [List.length_set]; exact h5, fun q x y hx hy => ?_⟩
  rw [List.getElem?_set] at hx
  split at hx
  · rename_i eq
    subst eq
    split at hx
    · cases hx
      have hv := (h6 j _ y hj hy).val
      rw [hv]
      refine .row _ _ _ _ (by simp [cx, St.new, St.set]) fun e' sz' v' l' hl => ?_
      simp only [cx, St.new, St.set, lookB_cons] at hl
      rw [if_neg (by omega)] at hl
      simp only [if_true] at hl
      cases hl
      refine ⟨Nat.le_refl _, fun _ => ⟨rfl, ?_⟩⟩
      simp only [cx]
      unfold upd
      rw [if_neg (by omega), if_pos rfl]
    · cases hx
  · exact (h6 q x y hx hy).mono le
end Go.Proofs.YtepdcljecfibpaaGreatDoor
namespace Go.Av
open Go Go.RowKit
set_option linter.unusedVariables false
set_option linter.unusedSimpArgs false
def isBS : Op → Bool
  | .buildSlice .. => true
  | _ => false
def candB2 (ops : Array Oper) (n : Nat) (done : List Bool) (mb : List MB) (sl : List (Nat × AV)) (i : Nat) : Bool :=
  candB ops n done mb sl i && match ops[i]? with
    | some o => !(isBS o.op)
    | none => false
def GoM2 (P : Program) (E : Env) (n : Nat) (ops : Array Oper) (done : List Bool) (mb : List MB) (σ : St) (K : St → Prop) : Prop :=
  match (List.range ops.size).find? (candB2 ops n done mb σ.sl) with
  | some i => match ops[i]? with
    | some ⟨some d, op, _, _, _, none⟩ => NormP (rdOf op (mbSl mb ++ σ.sl)) fun rd => MV P op (evO ⟨rd, 0, []⟩) fun av => MAny P E n ops done (⟨i, d, av, rd⟩ :: mb) σ K
    | _ => False
  | none => NormL (rdyM ops done mb) fun L => match L with
    | [] => cond (allIn ops done mb) (K ⟨mbSl mb ++ σ.sl, σ.nx, σ.hp⟩) False
    | i :: r => AllMP P E n ops done mb σ K (i :: r)
theorem many_step2 {P : Program} {E : Env} {n : Nat} {ops : Array Oper} {done : List Bool} {mb : List MB} {σ : St} {K : St → Prop} (hlen : Nat.beq done.length ops.size = true) (hback : backAll ops = true) (h : GoM2 P E n ops done mb σ K) : MAny P E n ops done mb σ K := by
  unfold GoM2 at h
  split at h
  · rename_i i hi
    have hc0 := List.find?_some hi
    unfold candB2 at hc0
    simp only [Bool.and_eq_true] at hc0
    have hc := hc0.1
    split at h
    · rename_i d op ty pos after hop
      simp only [candB, hop, Bool.and_eq_true, Bool.not_eq_true'] at hc
      exact many_add hop hc.2.2 hc.2.1.2 hc.1.1.1 (normP_spec h)
    · exact h.elim
  · have h := normL_spec h
    split at h
    · rename_i hr
      obtain ⟨ha, h⟩ := cond_false h
      exact many_go hlen hback (fun _ => h) (by rw [hr]; trivial)
    · rename_i i r hr
      refine many_go hlen hback (fun ha => ?_) (by rw [hr]; exact h.h)
      exfalso
      have hmem : i ∈ rdyM ops done mb := by rw [hr]; simp
      unfold rdyM at hmem
      rw [List.mem_filter] at hmem
      have h2 := List.all_eq_true.1 ha i hmem.1
      have h3 := hmem.2
      simp only [Bool.and_eq_true, Bool.not_eq_true'] at h3
      rw [h3.1.1, h3.1.2] at h2
      cases h2
end Go.Av

/- Blocks under other numbers; calls that are handed memory of one's own. -/
import Derived.Test.YtmiaihoallkjfaaDoorAvD
namespace Go.Av
open Go Go.RowKit
set_option linter.unusedSimpArgs false
set_option linter.unusedVariables false
set_option linter.unnecessarySimpa false

/-! ### Lists written out -/
def NormL {α : Type} : List α → (List α → Prop) → Prop
  | [], F => F []
  | a :: r, F => NormL r fun s => F (a :: s)
theorem normL_spec {α : Type} : ∀ {l : List α} {F : List α → Prop}, NormL l F → F l
  | [], F, h => h
  | a :: r, F, h => normL_spec (l := r) (F := fun s => F (a :: s)) h
mutual
/-- A value written out. -/
def NormA : AV → (AV → Prop) → Prop
  | .agg l, F => NormAs l fun l2 => F (.agg l2)
  | .tup l, F => NormAs l fun l2 => F (.tup l2)
  | .ref i o, F => natCase i fun i2 => natCase o fun o2 => F (.ref i2 o2)
  | .row i v m, F => natCase i fun i2 => natCase v fun v2 => F (.row i2 v2 m)
  | .elt i v k o, F => natCase i fun i2 => natCase v fun v2 => F (.elt i2 v2 k o)
  | .mp i, F => natCase i fun i2 => F (.mp i2)
  | .any, F => F .any
  | .v x, F => F (.v x)
  | .str l, F => F (.str l)
  | .iptr l, F => F (.iptr l)
  | .sl sz l, F => F (.sl sz l)
  | .fn f l, F => F (.fn f l)
def NormAs : List AV → (List AV → Prop) → Prop
  | [], F => F []
  | x :: r, F => NormA x fun x2 => NormAs r fun r2 => F (x2 :: r2)
end
mutual
theorem normA_spec : ∀ {a : AV} {F : AV → Prop}, NormA a F → F a
  | .agg l, F, h => normAs_spec (l := l) (F := fun l2 => F (.agg l2)) (by simpa only [NormA] using h)
  | .tup l, F, h => normAs_spec (l := l) (F := fun l2 => F (.tup l2)) (by simpa only [NormA] using h)
  | .ref i o, F, h => by simp only [NormA] at h; exact natCase_spec (natCase_spec h)
  | .row i v m, F, h => by simp only [NormA] at h; exact natCase_spec (natCase_spec h)
  | .elt i v k o, F, h => by simp only [NormA] at h; exact natCase_spec (natCase_spec h)
  | .mp i, F, h => by simp only [NormA] at h; exact natCase_spec h
  | .any, F, h => by simpa only [NormA] using h
  | .v x, F, h => by simpa only [NormA] using h
  | .str l, F, h => by simpa only [NormA] using h
  | .iptr l, F, h => by simpa only [NormA] using h
  | .sl sz l, F, h => by simpa only [NormA] using h
  | .fn f l, F, h => by simpa only [NormA] using h
theorem normAs_spec : ∀ {l : List AV} {F : List AV → Prop}, NormAs l F → F l
  | [], F, h => by simpa only [NormAs] using h
  | x :: r, F, h => by
    simp only [NormAs] at h
    exact normAs_spec (l := r) (F := fun r2 => F (x :: r2)) (normA_spec (a := x) (F := fun x2 => NormAs r fun r2 => F (x2 :: r2)) h)
end
def NormP : List (Nat × AV) → (List (Nat × AV) → Prop) → Prop
  | [], F => F []
  | (k, x) :: r, F => NormA x fun x2 => NormP r fun s => F ((k, x2) :: s)
theorem normP_spec : ∀ {l : List (Nat × AV)} {F : List (Nat × AV) → Prop}, NormP l F → F l
  | [], F, h => h
  | (k, x) :: r, F, h => normP_spec (l := r) (F := fun s => F ((k, x) :: s)) (normA_spec (a := x) (F := fun x2 => NormP r fun s => F ((k, x2) :: s)) h)
def NormB : List Bool → (List Bool → Prop) → Prop
  | [], F => F []
  | true :: r, F => NormB r fun s => F (true :: s)
  | false :: r, F => NormB r fun s => F (false :: s)
theorem normB_spec : ∀ {l : List Bool} {F : List Bool → Prop}, NormB l F → F l
  | [], F, h => h
  | true :: r, F, h => normB_spec (l := r) (F := fun s => F (true :: s)) h
  | false :: r, F, h => normB_spec (l := r) (F := fun s => F (false :: s)) h
def NormH : Hp → (Hp → Prop) → Prop
  | [], F => F []
  | (k, some (.box l)) :: r, F => natCase k fun k => NormAs l fun l2 => NormH r fun s => F ((k, some (.box l2)) :: s)
  | (k, some (.row e sz v l)) :: r, F => natCase k fun k => natCase v fun v2 => NormH r fun s => F ((k, some (.row e sz v2 l)) :: s)
  | (k, some (.map m)) :: r, F => natCase k fun k => NormH r fun s => F ((k, some (.map m)) :: s)
  | (k, none) :: r, F => natCase k fun k => NormH r fun s => F ((k, none) :: s)
theorem normH_spec : ∀ {l : Hp} {F : Hp → Prop}, NormH l F → F l
  | [], F, h => h
  | (k, some (.box l)) :: r, F, h => normH_spec (l := r) (F := fun s => F ((k, some (.box l)) :: s)) (normAs_spec (l := l) (F := fun l2 => NormH r fun s => F ((k, some (.box l2)) :: s)) (natCase_spec (F := fun k => NormAs l fun l2 => NormH r fun s => F ((k, some (.box l2)) :: s)) h))
  | (k, some (.row e sz v l)) :: r, F, h => normH_spec (l := r) (F := fun s => F ((k, some (.row e sz v l)) :: s)) (natCase_spec (F := fun v2 => NormH r fun s => F ((k, some (.row e sz v2 l)) :: s)) (natCase_spec (F := fun k => natCase v fun v2 => NormH r fun s => F ((k, some (.row e sz v2 l)) :: s)) h))
  | (k, some (.map m)) :: r, F, h => normH_spec (l := r) (F := fun s => F ((k, some (.map m)) :: s)) (natCase_spec (F := fun k => NormH r fun s => F ((k, some (.map m)) :: s)) h)
  | (k, none) :: r, F, h => normH_spec (l := r) (F := fun s => F ((k, none) :: s)) (natCase_spec (F := fun k => NormH r fun s => F ((k, none) :: s)) h)

mutual
def renA (ρ s : Nat → Nat) : AV → AV
  | .ref i off => .ref (ρ i) off
  | .row i v len => .row (ρ i) (v + s i) len
  | .elt i v k off => .elt (ρ i) (v + s i) k off
  | .mp i => .mp (ρ i)
  | .agg l => .agg (renL ρ s l)
  | .tup l => .tup (renL ρ s l)
  | x => x
def renL (ρ s : Nat → Nat) : List AV → List AV
  | [] => []
  | x :: r => renA ρ s x :: renL ρ s r
end
theorem renL_map (ρ s : Nat → Nat) : ∀ l, renL ρ s l = l.map (renA ρ s)
  | [] => by simp [renL]
  | x :: r => by simp [renL, renL_map ρ s r]
def renB (ρ s : Nat → Nat) (i : Nat) : Blk → Blk
  | .box l => .box (renL ρ s l)
  | .row e sz v l => .row e sz (v + s i) l
  | .map m => .map m

structure Ren (c c' : Cx) (ρ s : Nat → Nat) : Prop where
  nx : ∀ i, i < c.nx → ρ i < c'.nx
  θ : ∀ i, i < c.nx → c'.θ (ρ i) = c.θ i
  w : c'.w = c.w
  U : ∀ k, c'.U k → c.U k
  rows : ∀ i, i < c.nx → ∀ e sz v' l, lookB c'.hp (ρ i) = some (.row e sz v' l) → ∃ v, lookB c.hp i = some (.row e sz v l) ∧ v' = v + s i

theorem Ren.im {c c' : Cx} {ρ s : Nat → Nat} (h : Ren c c' ρ s) {a : AV} {x : Value} (hi : Im c.U c.w a x) : Im c'.U c'.w a x := hi.mono (fun k _ _ => by rw [h.w]) fun k _ hu => h.U k hu

theorem ren_im {c c' : Cx} {ρ s : Nat → Nat} (h : Ren c c' ρ s) {a : AV} {x : Value} (hi : Im c.U c.w a x) : renA ρ s a = a ∨ Rel c' (renA ρ s a) x := by
  induction hi with
  | v x => exact .inl rfl
  | str l => exact .inl rfl
  | fn f l cs hl hc ih => exact .inl rfl
  | iptr l a f hu hc hh ih => exact .inl rfl
  | slnil sz => exact .inl rfl
  | sl sz l a cap f hcap hm hu hsz hc hh ih => exact .inl rfl
  | agg l cs hl hc ih =>
    refine .inr ?_
    simp only [renA, renL_map]
    refine .agg _ cs (by simp [hl]) fun j u z hu hz => ?_
    simp only [List.getElem?_map, Option.map_eq_some_iff] at hu
    obtain ⟨u0, hu0, rfl⟩ := hu
    rcases ih j u0 z hu0 hz with e | e
    · rw [e]; exact .im (h.im (hc j u0 z hu0 hz))
    · exact e
  | tup l cs hl hc ih =>
    refine .inr ?_
    simp only [renA, renL_map]
    refine .tup _ cs (by simp [hl]) fun j u z hu hz => ?_
    simp only [List.getElem?_map, Option.map_eq_some_iff] at hu
    obtain ⟨u0, hu0, rfl⟩ := hu
    rcases ih j u0 z hu0 hz with e | e
    · rw [e]; exact .im (h.im (hc j u0 z hu0 hz))
    · exact e

theorem ren_rel {c c' : Cx} {ρ s : Nat → Nat} (h : Ren c c' ρ s) {a : AV} {x : Value} (r : Rel c a x) : Rel c' (renA ρ s a) x := by
  induction r with
  | any x => exact .any x
  | im hi =>
    rcases ren_im h hi with e | e
    · rw [e]; exact .im (h.im hi)
    · exact e
  | agg l cs hl _ ih =>
    simp only [renA, renL_map]
    refine .agg _ cs (by simp [hl]) fun j u z hu hz => ?_
    simp only [List.getElem?_map, Option.map_eq_some_iff] at hu
    obtain ⟨u0, hu0, rfl⟩ := hu
    exact ih j u0 z hu0 hz
  | tup l cs hl _ ih =>
    simp only [renA, renL_map]
    refine .tup _ cs (by simp [hl]) fun j u z hu hz => ?_
    simp only [List.getElem?_map, Option.map_eq_some_iff] at hu
    obtain ⟨u0, hu0, rfl⟩ := hu
    exact ih j u0 z hu0 hz
  | ref i off b hi hθ => exact .ref _ off b (h.nx i hi) (by rw [h.θ i hi]; exact hθ)
  | row i ver len x hi hr =>
    refine .row _ _ len x (h.nx i hi) fun e sz v' l hl => ?_
    obtain ⟨v, hv, rfl⟩ := h.rows i hi e sz v' l hl
    obtain ⟨h1, h2⟩ := hr e sz v l hv
    exact ⟨by omega, fun e => by rw [h.θ i hi]; exact h2 (by omega)⟩
  | mp i r hi hθ => exact .mp _ r (h.nx i hi) (by rw [h.θ i hi]; exact hθ)
  | elt i ver k off x hi hr =>
    refine .elt _ _ k off x (h.nx i hi) fun e sz v' l hl => ?_
    obtain ⟨v, hv, rfl⟩ := h.rows i hi e sz v' l hl
    obtain ⟨h1, h2⟩ := hr e sz v l hv
    exact ⟨by omega, fun e => by rw [h.θ i hi]; exact h2 (by omega)⟩

theorem ren_own {c c' : Cx} {ρ s : Nat → Nat} (h : Ren c c' ρ s) {i : Nat} {b : Blk} (hi : i < c.nx) (o : OwnOk c i b) : OwnOk c' (ρ i) (renB ρ s i b) := by
  cases b with
  | box l =>
    obtain ⟨b', arr, T, e1, e2, e3, e4⟩ := o
    refine ⟨b', arr, T, by rw [h.θ i hi]; exact e1, by rw [h.w]; exact e2, by rw [renL_map, List.length_map]; exact e3, fun j u z hu hz => ?_⟩
    rw [renL_map] at hu
    simp only [List.getElem?_map, Option.map_eq_some_iff] at hu
    obtain ⟨u0, hu0, rfl⟩ := hu
    exact ren_rel h (e4 j u0 z hu0 hz)
  | row e sz v l =>
    obtain ⟨xs, e1, e2, e3⟩ := o
    refine ⟨xs, by rw [h.θ i hi, h.w]; exact e1, e2, fun k el hk j x hx => ?_⟩
    obtain ⟨y, hy, hi⟩ := e3 k el hk j x hx
    exact ⟨y, hy, h.im hi⟩
  | map m =>
    obtain ⟨r, es, clock, e1, e2, e3, e4⟩ := o
    exact ⟨r, es, clock, by rw [h.θ i hi]; exact e1, by rw [h.w]; exact e2, e3, fun j q e hj he => ⟨(e4 j q e hj he).1, h.im (e4 j q e hj he).2⟩⟩

/-- A value reads under the numbers of the callee as under those of the caller. -/
theorem unren_rel {c c' : Cx} {ρ s : Nat → Nat} (hθ : ∀ i, i < c.nx → c'.θ (ρ i) = c.θ i) (hw : c'.w = c.w) (hU : ∀ k, c.U k → c'.U k)
    (hrows : ∀ i, i < c.nx → ∀ e sz v l, lookB c.hp i = some (.row e sz v l) → lookB c'.hp (ρ i) = some (.row e sz (v + s i) l)) : ∀ {a : AV} {x : Value}, avLt c.nx a = true → Rel c' (renA ρ s a) x → Rel c a x := by
  have imB : ∀ {a : AV} {x : Value}, Im c'.U c'.w a x → Im c.U c.w a x := fun hi => hi.mono (fun k _ _ => by rw [hw]) fun k _ hu => hU k hu
  intro a
  refine AV.rec (motive_1 := fun a => ∀ {x : Value}, avLt c.nx a = true → Rel c' (renA ρ s a) x → Rel c a x)
    (motive_2 := fun l => avsLt c.nx l = true → ∀ (j : Nat) u x, l[j]? = some u → Rel c' (renA ρ s u) x → Rel c u x)
    (motive_3 := fun _ => True) ?_ ?_ ?_ ?_ ?_ ?_ ?_ ?_ ?_ ?_ ?_ ?_ ?_ ?_ ?_ ?_ a
  · intro x _ _; exact .any x
  · intro v x _ r; cases r with | im hi => exact .im (imB hi)
  · intro l x _ r; cases r with | im hi => exact .im (imB hi)
  · intro l ih x hlt r
    simp only [avLt] at hlt
    simp only [renA, renL_map] at r
    obtain ⟨cs, rfl, hl, hr⟩ := agg_inv r
    refine .agg l cs (by simpa using hl) fun j u z hu hz => ih hlt j u z hu ?_
    exact hr j _ z (by simp [hu]) hz
  · intro l ih x hlt r
    simp only [avLt] at hlt
    simp only [renA, renL_map] at r
    have : ∃ cs : List Value, x = .tuple cs.toArray ∧ (l.map (renA ρ s)).length = cs.length ∧ ∀ (j : Nat) u z, (l.map (renA ρ s))[j]? = some u → cs[j]? = some z → Rel c' u z := by
      generalize l.map (renA ρ s) = l' at r
      cases r with
      | im hi => cases hi with | tup l cs hl hc => exact ⟨cs, rfl, hl, fun j u z hu hz => .im (hc j u z hu hz)⟩
      | tup l cs hl hc => exact ⟨cs, rfl, hl, hc⟩
    obtain ⟨cs, rfl, hl, hr⟩ := this
    refine .tup l cs (by simpa using hl) fun j u z hu hz => ih hlt j u z hu ?_
    exact hr j _ z (by simp [hu]) hz
  · intro i off x hlt r
    simp only [avLt, Nat.blt_eq] at hlt
    simp only [renA] at r
    obtain ⟨b, h1, rfl, _⟩ := ref_inv r
    exact .ref i off b hlt (by rw [← hθ i hlt]; exact h1)
  · intro l _ x _ r; cases r with | im hi => exact .im (imB hi)
  · intro sz l _ x _ r; cases r with | im hi => exact .im (imB hi)
  · intro i ver len x hlt r
    simp only [avLt, Nat.blt_eq] at hlt
    simp only [renA] at r
    refine .row i ver len x hlt fun e sz v l hl => ?_
    cases r with
    | im hi => cases hi
    | row _ _ _ _ hi h =>
      obtain ⟨h1, h2⟩ := h e sz _ l (hrows i hlt e sz v l hl)
      exact ⟨by omega, fun e => by rw [← hθ i hlt]; exact h2 (by omega)⟩
  · intro i x hlt r
    simp only [avLt, Nat.blt_eq] at hlt
    simp only [renA] at r
    cases r with
    | im hi => cases hi
    | mp _ r hi h => exact .mp i r hlt (by rw [← hθ i hlt]; exact h)
  · intro i ver k off x hlt r
    simp only [avLt, Nat.blt_eq] at hlt
    simp only [renA] at r
    refine .elt i ver k off x hlt fun e sz v l hl => ?_
    cases r with
    | im hi => cases hi
    | elt _ _ _ _ _ hi h =>
      obtain ⟨h1, h2⟩ := h e sz _ l (hrows i hlt e sz v l hl)
      exact ⟨by omega, fun e => by rw [← hθ i hlt]; exact h2 (by omega)⟩
  · intro f l _ x _ r; cases r with | im hi => exact .im (imB hi)
  · intro _ j u x hu; simp at hu
  · intro a l iha ihl hlt j u x hu r
    simp only [avsLt, Bool.and_eq_true] at hlt
    cases j with
    | zero => simp at hu; subst hu; exact iha hlt.1 r
    | succ j => exact ihl hlt.2 j u x (by simpa using hu) r
  · trivial
  · intros; trivial

/-! ### Contracts that are handed memory of one's own -/
structure Bok (X : Nat → Prop) (θ : Nat → Value) (nx : Nat) (hp : Hp) (w : World) : Prop where
  owns : ∀ i b, lookB hp i = some b → i < nx ∧ OwnOk ⟨θ, nx, hp, X, w⟩ i b
  apart : ∀ i j b b' k, lookB hp i = some b → lookB hp j = some b' → fp (θ i) = some k → fp (θ j) = some k → i = j
  fresh : ∀ i b k, lookB hp i = some b → fp (θ i) = some k → ¬ X k

def owned (θ : Nat → Value) (hp : Hp) (k : Nat) : Prop := ∃ i b, lookB hp i = some b ∧ fp (θ i) = some k

structure GPost (X : Nat → Prop) (θ : Nat → Value) (w : World) (m0 : Nat) (hp0 : Hp) (m1 : Nat) (hp1 : Hp) (r : AV) (e : Ending) (w' : World) : Prop where
  out : ∃ v θ', e = .returned v ∧ Rel ⟨θ', m1, hp1, X, w'⟩ r v ∧ Bok X θ' m1 hp1 w' ∧ (∀ i b k, lookB hp1 i = some b → fp (θ' i) = some k → owned θ hp0 k ∨ w.heap.size ≤ k) ∧ (∀ i, i < m0 → θ' i = θ i ∨ ∃ x n k, θ i = .slice x n k)
  os : w'.os = w.os
  tape : w'.tape = w.tape
  output : w'.output = w.output
  size : w.heap.size ≤ w'.heap.size
  block : ∀ k, k < w.heap.size → ¬ owned θ hp0 k → w'.heap[k]? = w.heap[k]?

/-- Called with the blocks of the first list, the function leaves those of the second one. -/
def GCall (P : Program) (f m0 : Nat) (hp0 : Hp) (args : List AV) (m1 : Nat) (hp1 : Hp) (r : AV) : Prop := FnOk P f ∧
  ∀ (X : Nat → Prop) (θ : Nat → Value) (w : World) (vs : List Value), (∀ k, X k → k < w.heap.size) → Bok X θ m0 hp0 w → args.length = vs.length → (∀ (j : Nat) a v, args[j]? = some a → vs[j]? = some v → Rel ⟨θ, m0, hp0, X, w⟩ a v) →
    Calls P f vs.toArray w fun e w' => GPost X θ w m0 hp0 m1 hp1 r e w'

/-! ### Results out of memory of one's own -/
def rvSlot : ResultVar → Nat
  | .tmp t => t
  | .cell t _ => t
/-- The results' cells are read. -/
def putRV (σ : St) : List ResultVar → St
  | [] => σ
  | .tmp _ :: r => putRV σ r
  | .cell t _ :: r => match look σ.sl t with
    | some (.ref i 0) => match lookB σ.hp i with
      | some (.box l) => putRV (σ.put t (.agg l)) r
      | _ => σ
    | _ => σ
def okRV (P : Program) (n : Nat) (σ : St) : List ResultVar → Prop
  | [] => True
  | .tmp _ :: r => okRV P n σ r
  | .cell t T :: r => ∃ i l sz, look σ.sl t = some (.ref i 0) ∧ lookB σ.hp i = some (.box l) ∧ TVar P T true sz ∧ l.length = sz ∧ Nat.blt t n = true ∧ okRV P n (σ.put t (.agg l)) r
def slRV : List ResultVar → List AV → List (Nat × AV)
  | v :: r, a :: s => (rvSlot v, a) :: slRV r s
  | _, _ => []
def tupOf : List AV → AV
  | [a] => a
  | l => .tup l
def apartRV : List ResultVar → Bool
  | [] => true
  | v :: r => (r.all fun u => !(Nat.beq (rvSlot u) (rvSlot v))) && apartRV r
theorem resOne_congr {tmps tmps' : Array Value} {rv : ResultVar} (h : tmps.getD (rvSlot rv) undef = tmps'.getD (rvSlot rv) undef) : resOne tmps rv = resOne tmps' rv := by
  cases rv with
  | tmp t => simp only [resOne]; rw [show tmps.getD t undef = tmps'.getD t undef from h]
  | cell t T => simp only [resOne]; rw [show tmps.getD t undef = tmps'.getD t undef from h]
theorem put_getD_ne {a : Act} {d s : Nat} {v : Value} (h : d ≠ s) : (a.put (some d) v).tmps.getD s undef = a.tmps.getD s undef := by
  simp [Act.put, Array.getD_eq_getD_getElem?, Array.getElem?_setIfInBounds_ne h]
theorem put_getD_eq {a : Act} {d : Nat} {v : Value} (h : d < a.tmps.size) : (a.put (some d) v).tmps.getD d undef = v := by
  simp [Act.put, Array.getD, h]
theorem putRV_sat {P : Program} {E : Env} {n : Nat} {θ : Nat → Value} {w : World} : ∀ {rvs : List ResultVar} {σ : St} {a : Act}, SatT E n θ σ a w → okRV P n σ rvs → apartRV rvs = true →
    ∃ a', SatT E n θ (putRV σ rvs) a' w ∧ (∀ rv ∈ rvs, (resOne a.tmps rv).run P w = .ok (a'.tmps.getD (rvSlot rv) undef) w) ∧ ∀ s, (∀ rv ∈ rvs, rvSlot rv ≠ s) → a'.tmps.getD s undef = a.tmps.getD s undef
  | [], σ, a, hs, _, _ => ⟨a, hs, (fun rv h => by (cases h)), fun s _ => rfl⟩
  | .tmp t :: r, σ, a, hs, hok, hap => by
    simp only [apartRV, Bool.and_eq_true, List.all_eq_true, Bool.not_eq_true'] at hap
    obtain ⟨a', h1, h2, h3⟩ := putRV_sat (rvs := r) hs hok hap.2
    refine ⟨a', h1, fun rv hrv => ?_, fun s hs' => h3 s fun rv h => hs' rv (by simp [h])⟩
    rcases List.mem_cons.1 hrv with rfl | hrv
    · have := h3 t (fun rv h e => by
        have h4 := hap.1 rv h
        have e' : rvSlot rv = rvSlot (.tmp t) := e
        rw [e'] at h4
        simp at h4)
      simp [resOne, rvSlot, Sem.run_pure, this]
    · exact h2 rv hrv
  | .cell t T :: r, σ, a, hs, hok, hap => by
    simp only [apartRV, Bool.and_eq_true, List.all_eq_true, Bool.not_eq_true'] at hap
    obtain ⟨i, l, sz, h1, h2, tv, hlsz, hn, hok⟩ := hok
    have htn := Nat.blt_eq ▸ hn
    obtain ⟨b1, hθ, hv, _⟩ := ref_inv (hs.slots t _ h1)
    obtain ⟨b', arr, T', hθ', hh, hsz, hr⟩ := (hs.owns i _ h2).2
    have hbb : θ i = .pointer (some ⟨b1, 0, none⟩) := hθ
    have hbb' : θ i = .pointer (some ⟨b', 0, none⟩) := hθ'
    rw [hbb] at hbb'
    cases hbb'
    have hh' : w.heap[b1]? = some (.cells arr T' (0, 0)) := hh
    have hrel : Rel (cx E θ σ w) (.agg l) (.agg arr) := by
      have := Rel.agg (c := cx E θ σ w) l arr.toList (by simp [hsz]) (fun j x y hx hy => hr j x y hx (by simpa using hy))
      simpa using this
    have hs1 := hs.put htn hrel
    have hload := run_loadVar_agg (P := P) (T := T) (sz := sz) (w := w) (a := ⟨b1, 0, none⟩) (cs := arr.toList) (by rw [Array.length_toList, hsz, hlsz]) (fun j v hj => by rw [addr_add, cell_of_block hh']; simpa using hj)
    obtain ⟨a', h3, h4, h5⟩ := putRV_sat (rvs := r) hs1 hok hap.2
    have hne : ∀ rv ∈ r, rvSlot rv ≠ t := fun rv h e => by
      have h6 := hap.1 rv h
      have e' : rvSlot rv = rvSlot (.cell t T) := e
      rw [e'] at h6
      simp at h6
    have hput : putRV σ (.cell t T :: r) = putRV (σ.put t (.agg l)) r := by simp only [putRV, h1, h2]
    refine ⟨a', hput ▸ h3, fun rv hrv => ?_, fun s hs' => ?_⟩
    · rcases List.mem_cons.1 hrv with rfl | hrv
      · have h6 := h5 t hne
        rw [put_getD_eq (by rw [hs.size]; exact htn)] at h6
        show _ = Result.ok (a'.tmps.getD t undef) w
        rw [h6]
        simp [resOne, hv, Sem.run_bind, Sem.run_pure, asAddr, hload]
      · rw [← h4 rv hrv]
        rw [resOne_congr (tmps := a.tmps) (tmps' := (a.put (some t) (.agg arr)).tmps)]
        exact (put_getD_ne (Ne.symm (hne rv hrv))).symm
    · rw [h5 s fun rv h => hs' rv (by simp [h]), put_getD_ne]
      exact hs' (.cell t T) (by simp)
theorem slRV_look : ∀ {rvs : List ResultVar} {as : List AV}, rvs.length = as.length → apartRV rvs = true → ∀ (j : Nat) rv a, rvs[j]? = some rv → as[j]? = some a → look (slRV rvs as) (rvSlot rv) = some a
  | [], _, _, _, j, rv, a, h, _ => by simp at h
  | v :: r, [], hl, _, _, _, _, _, _ => by simp at hl
  | v :: r, b :: s, hl, hap, j, rv, a, hj, ha => by
    simp only [apartRV, Bool.and_eq_true, List.all_eq_true, Bool.not_eq_true'] at hap
    simp only [slRV, look_cons]
    cases j with
    | zero => simp at hj ha; subst hj ha; simp
    | succ j =>
      have hj' : r[j]? = some rv := by simpa using hj
      have hne : rvSlot v ≠ rvSlot rv := fun e => by
        have h6 := hap.1 rv (List.mem_of_getElem? hj')
        rw [← e] at h6
        simp at h6
      rw [if_neg hne]
      exact slRV_look (by simpa using hl) hap.2 j rv a hj' (by simpa using ha)

/-- What the function's results read as, and which blocks it leaves. -/
def RetG (P : Program) (E : Env) (n : Nat) (rs : Array ResultVar) (m1 : Nat) (hp1 : Hp) (r : AV) (σ : St) : Prop :=
  (∃ rvs as, rs = rvs.toArray ∧ okRV P n σ rvs ∧ apartRV rvs = true ∧ rvs.length = as.length ∧ St.le E n (putRV σ rvs) ⟨slRV rvs as, m1, hp1⟩ ∧ r = tupOf as) ∨
  (∃ t, rs = #[.tmp t] ∧ St.le E n σ ⟨[(t, r)], m1, hp1⟩) ∨
  (∃ t u a b, rs = #[.tmp t, .tmp u] ∧ St.le E n σ ⟨[(t, a), (u, b)], m1, hp1⟩ ∧ t ≠ u ∧ r = .tup [a, b]) ∨
  (∃ t T i l sz, rs = #[.cell t T] ∧ TVar P T true sz ∧ l.length = sz ∧ St.le E n σ ⟨[(t, .ref i 0)], m1, hp1⟩ ∧ lookB hp1 i = some (.box l) ∧ r = .agg l)
def retG (P : Program) (E : Env) (n : Nat) (rs : Array ResultVar) (m1 : Nat) (hp1 : Hp) (r : AV) : Exit → St → Prop
  | .ret, σ => RetG P E n rs m1 hp1 r σ
  | .normal, σ => RetG P E n rs m1 hp1 r σ
  | _, _ => False

section rules
variable {P : Program} {E : Env} {n : Nat} {ops : Array Oper} {rest : List Oper} {σ : St} {K : St → Prop} {Q : Exit → St → Prop}
variable {d : Nat} {ty : TypeId} {pos : String} {after : Array Edge} {x y : Operand}

theorem retg_tmp {t m1 : Nat} {hp1 : Hp} {r : AV} (h : St.le E n σ ⟨[(t, r)], m1, hp1⟩) : retG P E n #[.tmp t] m1 hp1 r .ret σ := .inr (.inl ⟨t, rfl, h⟩)
theorem retg_vs {rvs : List ResultVar} {vs : List AV} {m1 : Nat} {hp1 : Hp} {r : AV} (hok : okRV P n σ rvs) (hap : apartRV rvs = true) (hl : rvs.length = vs.length) (h : St.le E n (putRV σ rvs) ⟨slRV rvs vs, m1, hp1⟩) (hr : tupOf vs = r) : retG P E n rvs.toArray m1 hp1 r .ret σ := .inl ⟨rvs, vs, rfl, hok, hap, hl, h, hr.symm⟩
theorem retg_cell {t T i m1 sz : Nat} {hp1 : Hp} {l : List AV} [tv : TVar P T true sz] (hl : l.length = sz) (h : St.le E n σ ⟨[(t, .ref i 0)], m1, hp1⟩) (hb : lookB hp1 i = some (.box l)) : retG P E n #[.cell t T] m1 hp1 (.agg l) .ret σ :=
  .inr (.inr (.inr ⟨t, T, i, l, sz, rfl, tv, hl, h, hb, rfl⟩))

theorem gcall_intro {f : Nat} {fn : Func} {code : Code} {args : List AV} {r : AV} {rs : Array ResultVar} {m0 m1 : Nat} {hp0 hp1 : Hp} (hf : P.funcs[f]? = some fn) (hname : (fn.name == "runtime.NumGoroutine") = false) (hb : fn.body = some code) (hn : fn.ntmps = n) (hrs : fn.results = rs)
    (hargs : Nat.ble args.length n = true) (h : ∀ E, E.n0 = m0 → AWp P E n code ⟨argSl args 0, m0, hp0⟩ (retG P E n rs m1 hp1 r)) : GCall P f m0 hp0 args m1 hp1 r := by
  subst hn hrs
  refine ⟨⟨fn, hf, hname, by rw [hb]; rfl⟩, fun X θ w vs hX hbk hl hvs => ?_⟩
  refine calls_of_wp hf hb ?_
  have hle : args.length ≤ fn.ntmps := Nat.ble_eq ▸ hargs
  have start : Sat ⟨w, X, owned θ hp0, θ, m0⟩ fn.ntmps ⟨argSl args 0, m0, hp0⟩ { tmps := vs.toArray ++ Array.replicate (fn.ntmps - vs.toArray.size) undef, defers := [] } w := by
    refine ⟨θ, ?_, rfl, ⟨rfl, rfl, rfl, Nat.le_refl _, fun _ _ _ => rfl⟩, fun s x hs => ?_, hbk.owns, hbk.apart, fun i b k hi hk => ⟨hbk.fresh i b k hi hk, .inl ⟨i, b, hi, hk⟩⟩, hX, ⟨Nat.le_refl _, fun i hi => .inl rfl⟩⟩
    · simp; omega
    · obtain ⟨_, hx⟩ := look_argSl args 0 s x hs
      rw [Nat.sub_zero] at hx
      have hlt : s < vs.length := by rw [← hl]; exact (List.getElem?_eq_some_iff.1 hx).1
      have hv : vs[s]? = some vs[s] := List.getElem?_eq_getElem hlt
      have e : (vs.toArray ++ Array.replicate (fn.ntmps - vs.toArray.size) undef).getD s undef = vs[s] := by
        rw [Array.getD_eq_getD_getElem?, Array.getElem?_append]
        simp [hlt]
      rw [e]
      exact hvs s x _ hx hv
  refine wp_mono (h ⟨w, X, owned θ hp0, θ, m0⟩ rfl _ w start) ?_
  rintro e a w' ⟨σ', hq, hs0⟩
  have fin : RetG P ⟨w, X, owned θ hp0, θ, m0⟩ fn.ntmps fn.results m1 hp1 r σ' → bodyPost P fn (fun e w'' => GPost X θ w m0 hp0 m1 hp1 r e w'') .ret a w' := by
    intro hret
    have post : ∀ {sl : List (Nat × AV)} {v : Value} {θ' : Nat → Value}, SatT ⟨w, X, owned θ hp0, θ, m0⟩ fn.ntmps θ' ⟨sl, m1, hp1⟩ a w' → Rel ⟨θ', m1, hp1, X, w'⟩ r v → GPost X θ w m0 hp0 m1 hp1 r (.returned v) w' := by
      intro sl v θ' hs hv
      exact ⟨⟨v, θ', rfl, hv, ⟨hs.owns, hs.apart, fun i b k hi hk => (hs.mine i b k hi hk).1⟩, fun i b k hi hk => (hs.mine i b k hi hk).2, hs.base.2⟩, hs.fr.os, hs.fr.tape, hs.fr.output, hs.fr.size, hs.fr.block⟩
    rcases hret with ⟨rvs, as, h1, hok, hap, hlen, h2, hr⟩ | ⟨t, h1, h2⟩ | ⟨t, u, a1, b1, h1, h2, hne, rfl⟩ | ⟨t, T, i, l, sz, h1, tv, hlen, h2, h3, rfl⟩
    · obtain ⟨θ0, hst0⟩ := hs0
      obtain ⟨a', hs1, hrun, _⟩ := putRV_sat hst0 hok hap
      obtain ⟨θ', hs⟩ := h2 a' w' ⟨θ0, hs1⟩
      have hrel : ∀ (j : Nat) rv b, rvs[j]? = some rv → as[j]? = some b → Rel ⟨θ', m1, hp1, X, w'⟩ b (a'.tmps.getD (rvSlot rv) undef) := fun j rv b hj hb => hs.slots _ b (slRV_look hlen hap j rv b hj hb)
      have post2 : ∀ {v : Value}, Rel ⟨θ', m1, hp1, X, w'⟩ r v → GPost X θ w m0 hp0 m1 hp1 r (.returned v) w' := fun hv =>
        ⟨⟨_, θ', rfl, hv, ⟨hs.owns, hs.apart, fun i b k hi hk => (hs.mine i b k hi hk).1⟩, fun i b k hi hk => (hs.mine i b k hi hk).2, hs.base.2⟩, hs.fr.os, hs.fr.tape, hs.fr.output, hs.fr.size, hs.fr.block⟩
      have tup : rvs.length ≠ 1 → r = .tup as → ∃ v, (results fn a.tmps).run P w' = .ok v w' ∧ GPost X θ w m0 hp0 m1 hp1 r (.returned v) w' := by
        intro hne hr
        refine ⟨_, run_results (vs := rvs.map fun rv => a'.tmps.getD (rvSlot rv) undef) h1 hne (by simp) (fun j rv v hj hv => ?_), post2 ?_⟩
        · simp only [List.getElem?_map, hj, Option.map_some, Option.some.injEq] at hv
          subst hv
          exact hrun rv (List.mem_of_getElem? hj)
        · rw [hr]
          refine .tup as _ (by simp [hlen]) fun j b v hb hv => ?_
          simp only [List.getElem?_map, Option.map_eq_some_iff] at hv
          obtain ⟨rv, hj, rfl⟩ := hv
          exact hrel j rv b hj hb
      match rvs, as, hlen, hr, h1, hrun, hrel, tup with
      | [rv], [b], _, hr, h1, hrun, hrel, _ =>
        have hr : r = b := hr
        subst hr
        exact ⟨hst0.defers, _, run_results1 h1 (hrun rv (by simp)), post2 (hrel 0 rv _ rfl rfl)⟩
      | [], [], _, hr, _, _, _, tup => obtain ⟨v, hv1, hv2⟩ := tup (by simp) hr; exact ⟨hst0.defers, v, hv1, hv2⟩
      | _ :: _ :: _, _ :: _ :: _, _, hr, _, _, _, tup => obtain ⟨v, hv1, hv2⟩ := tup (by simp) hr; exact ⟨hst0.defers, v, hv1, hv2⟩
    · obtain ⟨θ', hs⟩ := h2 a w' hs0
      exact ⟨hs.defers, _, results_tmp h1 _ _ _, post hs (hs.slots t r (by simp [look]))⟩
    · obtain ⟨θ', hs⟩ := h2 a w' hs0
      refine ⟨hs.defers, _, results_tmp2 h1 _ _ _, post hs (.tup [a1, b1] [_, _] rfl fun j x y hx hy => ?_)⟩
      match j, hx, hy with
      | 0, hx, hy => cases hx; cases hy; exact hs.slots t _ (by simp [look])
      | 1, hx, hy => cases hx; cases hy; exact hs.slots u _ (by rw [look_cons, if_neg hne, look_cons, if_pos rfl])
    · obtain ⟨θ', hs⟩ := h2 a w' hs0
      obtain ⟨b, hθ, hv, _⟩ := ref_inv (hs.slots t (.ref i 0) (by simp [look]))
      obtain ⟨b', arr, T', hθ', hh, hsz, hr⟩ := (hs.owns i _ h3).2
      have hbb : θ' i = .pointer (some ⟨b, 0, none⟩) := hθ
      have hbb' : θ' i = .pointer (some ⟨b', 0, none⟩) := hθ'
      rw [hbb] at hbb'
      cases hbb'
      have hh' : w'.heap[b]? = some (.cells arr T' (0, 0)) := hh
      refine ⟨hs.defers, .agg arr, ?_, post hs ?_⟩
      · have hload := run_loadVar_agg (P := P) (T := T) (sz := sz) (w := w') (a := ⟨b, 0, none⟩) (cs := arr.toList) (by rw [Array.length_toList, hsz, hlen]) (fun j v hj => by rw [addr_add, cell_of_block hh']; simpa using hj)
        rw [Array.getD_eq_getD_getElem?] at hv
        simp [results, h1, hv, Sem.run_bind, Sem.run_pure, asAddr, hload]
      · have := Rel.agg (c := ⟨θ', m1, hp1, X, w'⟩) l arr.toList (by simp [hsz]) (fun j x y hx hy => hr j x y hx (by simpa using hy))
        simpa using this
  cases e with
  | normal => exact fin hq
  | ret => exact fin hq
  | exit id => exact hq.elim
  | goto l => exact hq.elim
  | panic c => exact hq.elim
  | outgrown => exact hq.elim

def renHp (ρ s : Nat → Nat) : Hp → Hp
  | [] => []
  | (k, b) :: r => (ρ k, b.map (renB ρ s k)) :: renHp ρ s r

theorem look_renHp {ρ s : Nat → Nat} {m : Nat} (hinj : ∀ i j, i < m → j < m → ρ i = ρ j → i = j) : ∀ (hp h : Hp), hpLt m hp = true → ∀ j, j < m → look (renHp ρ s hp ++ h) (ρ j) = match look hp j with
    | some b => some (b.map (renB ρ s j))
    | none => look h (ρ j)
  | [], h, _, j, hj => rfl
  | (k, b) :: r, h, hlt, j, hj => by
    have hk : k < m ∧ hpLt m r = true := by
      match b, hlt with
      | none, hlt => simp only [hpLt, Bool.and_eq_true, Nat.blt_eq] at hlt; exact hlt
      | some (.box l), hlt => simp only [hpLt, Bool.and_eq_true, Nat.blt_eq] at hlt; exact ⟨hlt.1.1, hlt.2⟩
      | some (.row ..), hlt => simp only [hpLt, Bool.and_eq_true, Nat.blt_eq] at hlt; exact hlt
      | some (.map ..), hlt => simp only [hpLt, Bool.and_eq_true, Nat.blt_eq] at hlt; exact hlt
    simp only [renHp, List.cons_append, look_cons]
    by_cases e : k = j
    · subst e; simp
    · have : ρ k ≠ ρ j := fun h2 => e (hinj k j hk.1 hj h2)
      simp only [if_neg this, if_neg e]
      exact look_renHp hinj r h hk.2 j hj
theorem look_renHp_other {ρ s : Nat → Nat} {m : Nat} : ∀ (hp h : Hp), hpLt m hp = true → ∀ i, (∀ j, j < m → ρ j ≠ i) → look (renHp ρ s hp ++ h) i = look h i
  | [], h, _, i, _ => rfl
  | (k, b) :: r, h, hlt, i, hi => by
    have hk : k < m ∧ hpLt m r = true := by
      match b, hlt with
      | none, hlt => simp only [hpLt, Bool.and_eq_true, Nat.blt_eq] at hlt; exact hlt
      | some (.box l), hlt => simp only [hpLt, Bool.and_eq_true, Nat.blt_eq] at hlt; exact ⟨hlt.1.1, hlt.2⟩
      | some (.row ..), hlt => simp only [hpLt, Bool.and_eq_true, Nat.blt_eq] at hlt; exact hlt
      | some (.map ..), hlt => simp only [hpLt, Bool.and_eq_true, Nat.blt_eq] at hlt; exact hlt
    simp only [renHp, List.cons_append, look_cons, if_neg (hi k hk.1)]
    exact look_renHp_other r h hk.2 i hi

def idx (ι : List Nat) (i : Nat) : Nat := ι.getD i 0
def verAt (h : Hp) (i : Nat) : Nat := match lookB h i with
  | some (.row _ _ v _) => v + 1
  | _ => 0
/-- The blocks that are handed are the caller's. -/
def blkOk (h hp0 : Hp) (ι off : List Nat) : Nat → Prop
  | 0 => True
  | m + 1 => lookB h (idx ι m) = (lookB hp0 m).map (renB (idx ι) (idx off) m) ∧ blkOk h hp0 ι off m
theorem blkOk_spec {h hp0 : Hp} {ι off : List Nat} : ∀ {m : Nat}, blkOk h hp0 ι off m → ∀ i, i < m → lookB h (idx ι i) = (lookB hp0 i).map (renB (idx ι) (idx off) i)
  | 0, _, i, hi => absurd hi (Nat.not_lt_zero _)
  | m + 1, hb, i, hi => by
    by_cases e : i = m
    · subst e; exact hb.1
    · exact blkOk_spec hb.2 i (by omega)
/-- What is handed comes back, of the same kind. -/
def backOk (hp0 hp1 : Hp) : Nat → Bool
  | 0 => true
  | m + 1 => (look hp1 m).isSome && (match lookB hp1 m, lookB hp0 m with
    | some (.row _ sz _ _), some (.row _ sz' _ _) => Nat.beq sz sz'
    | some (.row ..), _ => false
    | _, _ => true) && backOk hp0 hp1 m
theorem backOk_spec {hp0 hp1 : Hp} : ∀ {m : Nat}, backOk hp0 hp1 m = true → ∀ i, i < m → (look hp1 i).isSome = true ∧ ∀ e sz v l, lookB hp1 i = some (.row e sz v l) → ∃ e' v' l', lookB hp0 i = some (.row e' sz v' l')
  | 0, _, i, hi => absurd hi (Nat.not_lt_zero _)
  | m + 1, hb, i, hi => by
    simp only [backOk, Bool.and_eq_true] at hb
    by_cases e : i = m
    · subst e
      refine ⟨hb.1.1, fun e sz v l hl => ?_⟩
      have h2 := hb.1.2
      rw [hl] at h2
      split at h2
      · rename_i h3 h4
        cases h3
        exact ⟨_, _, _, by rw [h4, Nat.eq_of_beq_eq_true h2]⟩
      · cases h2
      · rename_i h4 h3
        first | exact absurd rfl (h3 e sz v l) | exact absurd rfl (h4 e sz v l) | exact (h3 e sz v l rfl).elim | exact (h4 e sz v l rfl).elim
    · exact backOk_spec hb.2 i (by omega)
def idxOk (ι : List Nat) (nx : Nat) : Bool := match ι with
  | [] => true
  | i :: r => Nat.blt i nx && !(r.contains i) && idxOk r nx
theorem idxOk_spec : ∀ {ι : List Nat} {nx : Nat}, idxOk ι nx = true → (∀ i, i < ι.length → idx ι i < nx) ∧ ∀ i j, i < ι.length → j < ι.length → idx ι i = idx ι j → i = j
  | [], nx, _ => ⟨fun i hi => absurd hi (Nat.not_lt_zero _), fun i j hi => absurd hi (Nat.not_lt_zero _)⟩
  | a :: r, nx, h => by
    simp only [idxOk, Bool.and_eq_true, Nat.blt_eq, Bool.not_eq_true'] at h
    obtain ⟨h1, h2⟩ := idxOk_spec h.2
    have hmem : ∀ i, i < r.length → idx r i ∈ r := fun i hi => by simp [idx, List.getD, hi]
    have hna : a ∉ r := by simpa using h.1.2
    refine ⟨fun i hi => ?_, fun i j hi hj he => ?_⟩
    · cases i with
      | zero => exact h.1.1
      | succ i => exact h1 i (by simpa using hi)
    · cases i with
      | zero =>
        cases j with
        | zero => rfl
        | succ j => exact absurd (show a ∈ r from (show a = idx r j from he) ▸ hmem j (by simpa using hj)) hna
      | succ i =>
        cases j with
        | zero => exact absurd (show a ∈ r from (show idx r i = a from he) ▸ hmem i (by simpa using hi)) hna
        | succ j => exact congrArg (· + 1) (h2 i j (by simpa using hi) (by simpa using hj) he)

def gρ (ι : List Nat) (m0 nx : Nat) (i : Nat) : Nat := cond (Nat.blt i m0) (idx ι i) (nx + (i - m0))
def gs (ι : List Nat) (m0 : Nat) (h : Hp) (i : Nat) : Nat := cond (Nat.blt i m0) (verAt h (idx ι i)) 0

theorem gρ_lt {ι : List Nat} {m0 nx i : Nat} (h : i < m0) : gρ ι m0 nx i = idx ι i := by
  have : Nat.blt i m0 = true := Nat.blt_eq ▸ h
  simp [gρ, this]
theorem gρ_ge {ι : List Nat} {m0 nx i : Nat} (h : ¬ i < m0) : gρ ι m0 nx i = nx + (i - m0) := by
  have : Nat.blt i m0 = false := by
    cases hb : Nat.blt i m0
    · rfl
    · exact absurd (Nat.blt_eq ▸ hb) h
  simp [gρ, this]

theorem unren_own {c c' : Cx} {ρ s : Nat → Nat} (hθ : ∀ i, i < c.nx → c'.θ (ρ i) = c.θ i) (hw : c'.w = c.w) (hU : ∀ k, c.U k → c'.U k)
    (hrows : ∀ i, i < c.nx → ∀ e sz v l, lookB c.hp i = some (.row e sz v l) → lookB c'.hp (ρ i) = some (.row e sz (v + s i) l))
    {i : Nat} {b : Blk} (hi : i < c.nx) (hbox : ∀ l, b = .box l → avsLt c.nx l = true) (o : OwnOk c' (ρ i) (renB ρ s i b)) : OwnOk c i b := by
  have imB : ∀ {a : AV} {x : Value}, Im c'.U c'.w a x → Im c.U c.w a x := fun hi => hi.mono (fun k _ _ => by rw [hw]) fun k _ hu => hU k hu
  cases b with
  | box l =>
    obtain ⟨b', arr, T, e1, e2, e3, e4⟩ := o
    refine ⟨b', arr, T, by rw [← hθ i hi]; exact e1, by rw [← hw]; exact e2, by rw [renL_map, List.length_map] at e3; exact e3, fun j u z hu hz => ?_⟩
    refine unren_rel hθ hw hU hrows (avsLt_mem (hbox l rfl) u (List.mem_of_getElem? hu)) (e4 j _ z ?_ hz)
    rw [renL_map]; simp [hu]
  | row e sz v l =>
    obtain ⟨xs, e1, e2, e3⟩ := o
    refine ⟨xs, by rw [← hθ i hi, ← hw]; exact e1, e2, fun k el hk j x hx => ?_⟩
    obtain ⟨y, hy, hi⟩ := e3 k el hk j x hx
    exact ⟨y, hy, imB hi⟩
  | map m =>
    obtain ⟨r, es, clock, e1, e2, e3, e4⟩ := o
    exact ⟨r, es, clock, by rw [← hθ i hi]; exact e1, by rw [← hw]; exact e2, e3, fun j q e hj he => ⟨(e4 j q e hj he).1, imB (e4 j q e hj he).2⟩⟩

theorem ncall_g {f : Nat} {xs : List Operand} {ts : Array TypeId} {L args : List AV} {r : AV} {m0 m1 : Nat} {hp0 hp1 : Hp} (ι off : List Nat) (hc : GCall P f m0 hp0 args m1 hp1 r)
    (hev : evL (evO σ) xs = some L) (hL : renL (idx ι) (idx off) args = L) (hargs : avsLt m0 args = true) (hι : Nat.beq ι.length m0 = true) (hιo : idxOk ι σ.nx = true) (hblk : blkOk σ.hp hp0 ι off m0) (hback : backOk hp0 hp1 m0 = true)
    (hl0 : hpLt m0 hp0 = true) (hl1 : hpLt m1 hp1 = true) (hm : Nat.ble m0 m1 = true) (hd : Nat.blt d n = true)
    (k : AOps P E n ops rest (St.put ⟨σ.sl, σ.nx + (m1 - m0), renHp (gρ ι m0 σ.nx) (gs ι m0 σ.hp) hp1 ++ σ.hp⟩ d (renA (gρ ι m0 σ.nx) (gs ι m0 σ.hp) r)) K) :
    AOps P E n ops (⟨some d, .call ⟨.value (.func f), ⟨xs⟩, ts⟩, ty, pos, after, none⟩ :: rest) σ K := by
  intro a w ⟨θ, hs⟩
  have hι := Nat.eq_of_beq_eq_true hι
  have hm := Nat.ble_eq ▸ hm
  obtain ⟨hιlt, hιinj⟩ := idxOk_spec hιo
  rw [hι] at hιlt hιinj
  have hblk := blkOk_spec hblk
  have hback := backOk_spec hback
  obtain ⟨hl, hr⟩ := evL_spec hs.evT xs L hev
  let C := cx E θ σ w
  let θc : Nat → Value := fun i => θ (idx ι i)
  let Xc : Nat → Prop := fun k => C.U k ∧ ¬ owned θc hp0 k
  let c0 : Cx := ⟨θc, m0, hp0, Xc, w⟩
  have howned : ∀ k, owned θc hp0 k → ∃ i b0, i < m0 ∧ lookB hp0 i = some b0 ∧ lookB σ.hp (idx ι i) = some (renB (idx ι) (idx off) i b0) ∧ fp (θ (idx ι i)) = some k := by
    rintro k ⟨i, b, hi, hk⟩
    have hlt := (hpLt_look hl0 hi).1
    exact ⟨i, b, hlt, hi, by rw [hblk i hlt, hi]; rfl, hk⟩
  have hU0 : ∀ k, c0.U k → C.U k := by
    rintro k (hk | hk)
    · exact hk.1
    · obtain ⟨i, b0, _, _, h1, h2⟩ := howned k hk
      exact .inr ⟨_, _, h1, h2⟩
  have hrows0 : ∀ i, i < c0.nx → ∀ e sz v l, lookB c0.hp i = some (.row e sz v l) → lookB C.hp (idx ι i) = some (.row e sz (v + idx off i) l) := by
    intro i hi e sz v l hl
    have := hblk i hi
    have hl' : lookB hp0 i = some (.row e sz v l) := hl
    rw [hl'] at this
    exact this
  have hlen : args.length = (xs.map a.eval).length := by rw [List.length_map, ← hl, ← hL, renL_map, List.length_map]
  have hbok : Bok Xc θc m0 hp0 w := by
    refine ⟨fun i b hi => ?_, fun i j b b' k hi hj hki hkj => ?_, fun i b k hi hk hX => hX.2 ⟨i, b, hi, hk⟩⟩
    · obtain ⟨hlt, hbx⟩ := hpLt_look hl0 hi
      have h1 : lookB σ.hp (idx ι i) = some (renB (idx ι) (idx off) i b) := by rw [hblk i hlt, hi]; rfl
      exact ⟨hlt, unren_own (c := c0) (c' := C) (fun i _ => rfl) rfl hU0 hrows0 hlt hbx (hs.owns _ _ h1).2⟩
    · have h1 := (hpLt_look hl0 hi).1
      have h2 := (hpLt_look hl0 hj).1
      refine hιinj i j h1 h2 (hs.apart _ _ (renB (idx ι) (idx off) i b) (renB (idx ι) (idx off) j b') k (by rw [hblk i h1, hi]; rfl) (by rw [hblk j h2, hj]; rfl) hki hkj)
  have hcall := hc.2 Xc θc w (xs.map a.eval) (fun k hk => hs.evT.Ult k hk.1) hbok hlen fun j av v hj hv => by
    refine unren_rel (c := c0) (c' := C) (ρ := idx ι) (s := idx off) (fun i _ => rfl) rfl hU0 hrows0 (avsLt_mem hargs av (List.mem_of_getElem? hj)) (hr j _ v ?_ hv)
    rw [← hL, renL_map]; simp [hj]
  unfold wpList
  rw [if_pos (by simp [Region.wanted])]
  left
  simp only [Oper.wp]
  rw [run_call hc.1 (cs := #[]) rfl]
  simp only [Oper.upon, Array.append_empty]
  refine Calls.mono hcall ?_
  rintro e w' ⟨⟨v, θ', rfl, hv, hbk', hown', hθ'⟩, hos, htape, hout, hsize, hblock⟩
  let ρ := gρ ι m0 σ.nx
  let s := gs ι m0 σ.hp
  have hρinj : ∀ i j, i < m1 → j < m1 → ρ i = ρ j → i = j := by
    intro i j hi hj he
    by_cases h1 : i < m0 <;> by_cases h2 : j < m0
    · exact hιinj i j h1 h2 (by simpa only [ρ, gρ_lt h1, gρ_lt h2] using he)
    · have := hιlt i h1
      simp only [ρ, gρ_lt h1, gρ_ge h2] at he
      omega
    · have := hιlt j h2
      simp only [ρ, gρ_ge h1, gρ_lt h2] at he
      omega
    · simp only [ρ, gρ_ge h1, gρ_ge h2] at he
      omega
  have hρlt : ∀ j, j < m1 → ρ j < σ.nx + (m1 - m0) := by
    intro j hj
    by_cases h1 : j < m0
    · have := hιlt j h1; simp only [ρ, gρ_lt h1]; omega
    · simp only [ρ, gρ_ge h1]; omega
  have hρold : ∀ j, j < m1 → ρ j < σ.nx → j < m0 := by
    intro j hj hlt
    by_cases h1 : j < m0
    · exact h1
    · simp only [ρ, gρ_ge h1] at hlt; omega
  let Θ : Nat → Value := fun i => open Classical in if h : ∃ j, j < m1 ∧ ρ j = i then θ' (Classical.choose h) else θ i
  have hΘ1 : ∀ j, j < m1 → Θ (ρ j) = θ' j := by
    intro j hj
    have hex : ∃ j', j' < m1 ∧ ρ j' = ρ j := ⟨j, hj, rfl⟩
    have : Classical.choose hex = j := hρinj _ _ (Classical.choose_spec hex).1 hj (Classical.choose_spec hex).2
    simp only [Θ, dif_pos hex, this]
  have hΘ2 : ∀ i, (∀ j, j < m1 → ρ j ≠ i) → Θ i = θ i := by
    intro i hi
    have : ¬ ∃ j, j < m1 ∧ ρ j = i := fun ⟨j, hj, he⟩ => hi j hj he
    simp only [Θ, dif_neg this]
  let HP := renHp ρ s hp1 ++ σ.hp
  let σ' : St := ⟨σ.sl, σ.nx + (m1 - m0), HP⟩
  have hnone : ∀ i, σ.nx ≤ i → lookB σ.hp i = none := by
    intro i hi
    cases hx : lookB σ.hp i with
    | none => rfl
    | some b => have := (hs.owns i b hx).1; omega
  have hlk1 : ∀ j, j < m1 → lookB HP (ρ j) = (lookB hp1 j).map (renB ρ s j) := by
    intro j hj
    have := look_renHp (ρ := ρ) (s := s) hρinj hp1 σ.hp hl1 j hj
    unfold lookB
    rw [this]
    cases hx : look hp1 j with
    | some b => cases b <;> rfl
    | none =>
      simp only [Option.map_none]
      have hge : ¬ j < m0 := fun h => by have := (hback j h).1; rw [hx] at this; cases this
      have h2 := hnone (ρ j) (by simp only [ρ, gρ_ge hge]; omega)
      exact h2
  have hlk2 : ∀ i, (∀ j, j < m1 → ρ j ≠ i) → lookB HP i = lookB σ.hp i := by
    intro i hi
    unfold lookB
    rw [look_renHp_other (ρ := ρ) (s := s) hp1 σ.hp hl1 i hi]
  have hm0 : ∀ j, j < m0 → ρ j = idx ι j := fun j hj => gρ_lt hj
  have hownU : ∀ k, owned θc hp0 k → C.own k := fun k hk => by
    obtain ⟨i, b0, _, _, h1, h2⟩ := howned k hk
    exact ⟨_, _, h1, h2⟩
  have hnotX : ∀ k, owned θc hp0 k → ¬ E.X k ∧ (E.O k ∨ E.w0.heap.size ≤ k) := fun k hk => by
    obtain ⟨i, b0, _, _, h1, h2⟩ := howned k hk
    exact hs.mine _ _ k h1 h2
  have hother : ∀ i b k, lookB σ.hp i = some b → (∀ j, j < m1 → ρ j ≠ i) → fp (θ i) = some k → ¬ owned θc hp0 k := fun i b k hi hno hk ho => by
    obtain ⟨j, b0, hj, _, h1, h2⟩ := howned k ho
    have := hs.apart _ _ _ _ k hi h1 hk h2
    exact hno j (by omega) (by rw [hm0 j hj]; exact this.symm)
  let C' := cx E Θ σ' w'
  have le : C.le C' := by
    refine ⟨Nat.le_add_right _ _, fun i hi => ?_, fun i hi e' sz' v' l' hl => ?_, hsize, fun k hk hu => hblock k hk fun ho => hu (.inr (hownU k ho)), fun k hk hu => ?_⟩
    · by_cases hex : ∃ j, j < m1 ∧ ρ j = i
      · obtain ⟨j, hj, rfl⟩ := hex
        have hj0 := hρold j hj hi
        have h1 := hθ' j hj0
        have h2 : θc j = θ (ρ j) := by rw [hm0 j hj0]
        rw [h2] at h1
        show Θ (ρ j) = θ (ρ j) ∨ _
        rw [hΘ1 j hj]
        exact h1
      · exact .inl (hΘ2 i fun j hj he => hex ⟨j, hj, he⟩)
    · by_cases hex : ∃ j, j < m1 ∧ ρ j = i
      · obtain ⟨j, hj, rfl⟩ := hex
        have hj0 := hρold j hj hi
        have h1 : lookB HP (ρ j) = some (.row e' sz' v' l') := hl
        rw [hlk1 j hj, Option.map_eq_some_iff] at h1
        obtain ⟨b, hb, hbr⟩ := h1
        cases b with
        | box l => cases hbr
        | map m => cases hbr
        | row e1 sz1 v1 l1 =>
          simp only [renB] at hbr
          cases hbr
          obtain ⟨e0, v0, l0, h0⟩ := (hback j hj0).2 _ _ _ _ hb
          have h3 := hrows0 j hj0 e0 sz' v0 l0 h0
          refine ⟨e0, v0 + idx off j, l0, by rw [hm0 j hj0]; exact h3, .inl ?_⟩
          have h3' : lookB σ.hp (idx ι j) = some (.row e0 sz' (v0 + idx off j) l0) := h3
          have : s j = v0 + idx off j + 1 := by
            have hb : Nat.blt j m0 = true := Nat.blt_eq ▸ hj0
            simp only [s, gs, hb, cond_true, verAt, h3']
          omega
      · have h1 : lookB HP i = some (.row e' sz' v' l') := hl
        have hno : ∀ j, j < m1 → ρ j ≠ i := fun j hj he => hex ⟨j, hj, he⟩
        rw [hlk2 i hno] at h1
        exact ⟨e', v', l', h1, .inr ⟨rfl, rfl, hΘ2 i hno⟩⟩
    · rcases hu with hu | ⟨i, b, hi, hk'⟩
      · exact .inl hu
      · have hi' : lookB HP i = some b := hi
        have hk2 : fp (Θ i) = some k := hk'
        by_cases hex : ∃ j, j < m1 ∧ ρ j = i
        · obtain ⟨j, hj, rfl⟩ := hex
          rw [hlk1 j hj, Option.map_eq_some_iff] at hi'
          obtain ⟨b1, hb1, _⟩ := hi'
          rw [hΘ1 j hj] at hk2
          rcases hown' j b1 k hb1 hk2 with h | h
          · exact .inr (hownU k h)
          · have hk3 : k < w.heap.size := hk
            omega
        · have hno : ∀ j, j < m1 → ρ j ≠ i := fun j hj he => hex ⟨j, hj, he⟩
          rw [hlk2 i hno] at hi'
          rw [hΘ2 i hno] at hk2
          exact .inr ⟨i, b, hi', hk2⟩
  have ren : Ren ⟨θ', m1, hp1, Xc, w'⟩ C' ρ s := by
    refine ⟨hρlt, hΘ1, rfl, fun k hu => ?_, fun j hj e sz v' l hl => ?_⟩
    · rcases hu with hu | ⟨i, b, hi, hk⟩
      · exact .inl ⟨.inl hu, fun ho => (hnotX k ho).1 hu⟩
      · have hi' : lookB HP i = some b := hi
        have hk2 : fp (Θ i) = some k := hk
        by_cases hex : ∃ j, j < m1 ∧ ρ j = i
        · obtain ⟨j, hj, rfl⟩ := hex
          rw [hlk1 j hj, Option.map_eq_some_iff] at hi'
          obtain ⟨b1, hb1, _⟩ := hi'
          rw [hΘ1 j hj] at hk2
          exact .inr ⟨j, b1, hb1, hk2⟩
        · have hno : ∀ j, j < m1 → ρ j ≠ i := fun j hj he => hex ⟨j, hj, he⟩
          rw [hlk2 i hno] at hi'
          rw [hΘ2 i hno] at hk2
          exact .inl ⟨.inr ⟨i, b, hi', hk2⟩, hother i b k hi' hno hk2⟩
    · have h1 : lookB HP (ρ j) = some (.row e sz v' l) := hl
      rw [hlk1 j hj, Option.map_eq_some_iff] at h1
      obtain ⟨b, hb, hbr⟩ := h1
      cases b with
      | box l => cases hbr
      | map m => cases hbr
      | row e1 sz1 v1 l1 =>
        simp only [renB] at hbr
        cases hbr
        exact ⟨v1, hb, rfl⟩
  have hsat : SatT E n Θ σ' a w' := by
    refine ⟨hs.size, hs.defers, ⟨hos.trans hs.fr.os, htape.trans hs.fr.tape, hout.trans hs.fr.output, Nat.le_trans hs.fr.size hsize, fun k hk hO => ?_⟩, fun t x hx => (hs.slots t x hx).mono le, fun i b hi => ?_, fun i1 i2 b1 b2 k h1 h2 hk1 hk2 => ?_, fun i b k hi hk => ?_, hs.X, ⟨by have := hs.base.1; show E.n0 ≤ σ.nx + _; omega, fun i hi => ?_⟩⟩
    · have h1 := hs.fr.size
      rw [hblock k (by omega) fun ho => ?_]
      · exact hs.fr.block k hk hO
      · rcases (hnotX k ho).2 with h2 | h2
        · exact hO h2
        · omega
    · have hi' : lookB HP i = some b := hi
      by_cases hex : ∃ j, j < m1 ∧ ρ j = i
      · obtain ⟨j, hj, rfl⟩ := hex
        rw [hlk1 j hj, Option.map_eq_some_iff] at hi'
        obtain ⟨b1, hb1, rfl⟩ := hi'
        exact ⟨hρlt j hj, ren_own ren hj (hbk'.owns j b1 hb1).2⟩
      · have hno : ∀ j, j < m1 → ρ j ≠ i := fun j hj he => hex ⟨j, hj, he⟩
        rw [hlk2 i hno] at hi'
        obtain ⟨h1, h2⟩ := hs.owns i b hi'
        refine ⟨by show i < σ.nx + _; omega, h2.mono le (hΘ2 i hno) fun k hk => hblock k (h2.lt hk) (hother i b k hi' hno hk)⟩
    · have h1' : lookB HP i1 = some b1 := h1
      have h2' : lookB HP i2 = some b2 := h2
      by_cases e1 : ∃ j, j < m1 ∧ ρ j = i1 <;> by_cases e2 : ∃ j, j < m1 ∧ ρ j = i2
      · obtain ⟨j1, hj1, rfl⟩ := e1
        obtain ⟨j2, hj2, rfl⟩ := e2
        rw [hlk1 j1 hj1, Option.map_eq_some_iff] at h1'
        rw [hlk1 j2 hj2, Option.map_eq_some_iff] at h2'
        obtain ⟨c1, hc1, _⟩ := h1'
        obtain ⟨c2, hc2, _⟩ := h2'
        rw [hΘ1 j1 hj1] at hk1
        rw [hΘ1 j2 hj2] at hk2
        rw [hbk'.apart j1 j2 c1 c2 k hc1 hc2 hk1 hk2]
      · obtain ⟨j1, hj1, rfl⟩ := e1
        have hno : ∀ j, j < m1 → ρ j ≠ i2 := fun j hj he => e2 ⟨j, hj, he⟩
        rw [hlk1 j1 hj1, Option.map_eq_some_iff] at h1'
        obtain ⟨c1, hc1, _⟩ := h1'
        rw [hΘ1 j1 hj1] at hk1
        rw [hlk2 i2 hno] at h2'
        rw [hΘ2 i2 hno] at hk2
        rcases hown' j1 c1 k hc1 hk1 with h | h
        · exact absurd h (hother i2 b2 k h2' hno hk2)
        · have := (hs.owns i2 b2 h2').2.lt hk2
          have h3 : k < w.heap.size := this
          omega
      · obtain ⟨j2, hj2, rfl⟩ := e2
        have hno : ∀ j, j < m1 → ρ j ≠ i1 := fun j hj he => e1 ⟨j, hj, he⟩
        rw [hlk1 j2 hj2, Option.map_eq_some_iff] at h2'
        obtain ⟨c2, hc2, _⟩ := h2'
        rw [hΘ1 j2 hj2] at hk2
        rw [hlk2 i1 hno] at h1'
        rw [hΘ2 i1 hno] at hk1
        rcases hown' j2 c2 k hc2 hk2 with h | h
        · exact absurd h (hother i1 b1 k h1' hno hk1)
        · have := (hs.owns i1 b1 h1').2.lt hk1
          have h3 : k < w.heap.size := this
          omega
      · have hno1 : ∀ j, j < m1 → ρ j ≠ i1 := fun j hj he => e1 ⟨j, hj, he⟩
        have hno2 : ∀ j, j < m1 → ρ j ≠ i2 := fun j hj he => e2 ⟨j, hj, he⟩
        rw [hlk2 i1 hno1] at h1'
        rw [hΘ2 i1 hno1] at hk1
        rw [hlk2 i2 hno2] at h2'
        rw [hΘ2 i2 hno2] at hk2
        exact hs.apart i1 i2 b1 b2 k h1' h2' hk1 hk2
    · have hi' : lookB HP i = some b := hi
      by_cases hex : ∃ j, j < m1 ∧ ρ j = i
      · obtain ⟨j, hj, rfl⟩ := hex
        rw [hlk1 j hj, Option.map_eq_some_iff] at hi'
        obtain ⟨c1, hc1, _⟩ := hi'
        rw [hΘ1 j hj] at hk
        rcases hown' j c1 k hc1 hk with h | h
        · exact hnotX k h
        · have h1 := hs.fr.size
          exact ⟨fun hx => by have := hs.X k hx; omega, .inr (by omega)⟩
      · have hno : ∀ j, j < m1 → ρ j ≠ i := fun j hj he => hex ⟨j, hj, he⟩
        rw [hlk2 i hno] at hi'
        rw [hΘ2 i hno] at hk
        exact hs.mine i b k hi' hk
    · have h1 := le.θ i (show i < σ.nx by have := hs.base.1; omega)
      rcases h1 with h1 | ⟨x, m, k, h1⟩
      · have h2 : Θ i = θ i := h1
        rw [h2]; exact hs.base.2 i hi
      · have h2 : θ i = .slice x m k := h1
        rcases hs.base.2 i hi with h3 | h3
        · exact .inr ⟨x, m, k, by rw [← h3, h2]⟩
        · exact .inr h3
  exact k _ _ ⟨Θ, hsat.put (Nat.blt_eq ▸ hd) (ren_rel ren hv)⟩
/-- The same, what comes back written out. -/
theorem ncall_h {f : Nat} {xs : List Operand} {ts : Array TypeId} {L args : List AV} {r : AV} {m0 m1 : Nat} {hp0 hp1 : Hp} (ι off : List Nat) (hc : GCall P f m0 hp0 args m1 hp1 r)
    (hev : evL (evO σ) xs = some L) (hL : renL (idx ι) (idx off) args = L) (hargs : avsLt m0 args = true) (hι : Nat.beq ι.length m0 = true) (hιo : idxOk ι σ.nx = true) (hblk : blkOk σ.hp hp0 ι off m0) (hback : backOk hp0 hp1 m0 = true)
    (hl0 : hpLt m0 hp0 = true) (hl1 : hpLt m1 hp1 = true) (hm : Nat.ble m0 m1 = true) (hd : Nat.blt d n = true)
    (k : NormA (renA (gρ ι m0 σ.nx) (gs ι m0 σ.hp) r) fun r2 => NormH (renHp (gρ ι m0 σ.nx) (gs ι m0 σ.hp) hp1 ++ σ.hp) fun hp2 => natCase (σ.nx + (m1 - m0)) fun nx2 => AOps P E n ops rest (St.put ⟨σ.sl, nx2, hp2⟩ d r2) K) :
    AOps P E n ops (⟨some d, .call ⟨.value (.func f), ⟨xs⟩, ts⟩, ty, pos, after, none⟩ :: rest) σ K :=
  ncall_g ι off hc hev hL hargs hι hιo hblk hback hl0 hl1 hm hd (natCase_spec (normH_spec (normA_spec k)))
end rules
end Go.Av

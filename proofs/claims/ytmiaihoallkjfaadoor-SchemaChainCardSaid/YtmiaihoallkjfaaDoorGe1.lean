/- Plain lists: the first error, the first place, and what was passed. -/
import Derived.Test.YtmiaihoallkjfaaDoorAvTy
namespace Go.Proofs.YtmiaihoallkjfaaDoor
open Go Go.Av
attribute [local irreducible] AWp AOps AAny MAny DQ retQ retG St.le FCall GCall
set_option linter.unusedVariables false
set_option linter.unnecessarySimpa false
set_option linter.unusedSimpArgs false
set_option maxRecDepth 100000

theorem dropc {α : Type} {l : List α} {k : Nat} {x : α} (h : l[k]? = some x) : l.drop k = x :: l.drop (k + 1) := by
  obtain ⟨h1, h2⟩ := List.getElem?_eq_some_iff.1 h
  rw [List.drop_eq_getElem_cons h1, h2]
theorem takec {α : Type} {l : List α} {k : Nat} {x : α} (h : l[k]? = some x) : l.take (k + 1) = l.take k ++ [x] := by
  rw [List.take_add_one, h]; rfl
theorem drop_end {α : Type} {l : List α} {k : Nat} (h : ¬ (k : Int) < l.length) : l.drop k = [] := List.drop_eq_nil_of_le (by omega)
theorem take_end {α : Type} {l : List α} {k : Nat} (h : ¬ (k : Int) < l.length) : l.take k = l := List.take_of_length_le (by omega)
theorem lt_of_get {α : Type} {l : List α} {k : Nat} {x : α} (h : l[k]? = some x) : k < l.length := (List.getElem?_eq_some_iff.1 h).1

/-- Where the first one is. -/
def idxP {α : Type} (p : α → Bool) : List α → Int → Int
  | [], _ => -1
  | x :: r, k => if p x = true then k else idxP p r (k + 1)
theorem idxP_any {α : Type} (p : α → Bool) : ∀ (l : List α) (k : Int), 0 ≤ k → decide (0 ≤ idxP p l k) = l.any p
  | [], k, _ => by simp [idxP]
  | x :: r, k, h => by
    unfold idxP
    by_cases hp : p x = true
    · rw [if_pos hp]; simp [hp, h]
    · rw [if_neg hp, idxP_any p r (k + 1) (by omega)]
      simp [hp]
theorem idxP_ge {α : Type} (p : α → Bool) : ∀ (l : List α) (k : Int), idxP p l k = -1 ∨ (k ≤ idxP p l k ∧ idxP p l k < k + l.length)
  | [], k => .inl rfl
  | x :: r, k => by
    unfold idxP
    by_cases hp : p x = true
    · rw [if_pos hp]; right; simp; omega
    · rw [if_neg hp]
      rcases idxP_ge p r (k + 1) with h | h
      · exact .inl h
      · right; simp; omega

/-- The first error. -/
def firstE {α : Type} (f : Nat → α → Int) : Nat → List α → Int
  | _, [] => 0
  | i, x :: r => if f i x = 0 then firstE f (i + 1) r else f i x
/-- So far none. -/
def ErrAt {α : Type} (f : Nat → α → Int) (l : List α) (k : Nat) : Prop := k ≤ l.length ∧ firstE f 0 l = firstE f k (l.drop k) ∧ ∀ (i : Nat) x, i < k → l[i]? = some x → f i x = 0
theorem ErrAt.zero {α : Type} (f : Nat → α → Int) (l : List α) : ErrAt f l 0 := ⟨Nat.zero_le _, rfl, fun i x h => absurd h (Nat.not_lt_zero _)⟩
theorem ErrAt.step {α : Type} {f : Nat → α → Int} {l : List α} {k : Nat} {x : α} (h : ErrAt f l k) (hx : l[k]? = some x) (h0 : f k x = 0) : ErrAt f l (k + 1) := by
  refine ⟨lt_of_get hx, ?_, fun i y hi hy => ?_⟩
  · rw [h.2.1, dropc hx, firstE, if_pos h0]
  · by_cases e : i = k
    · subst e; rw [hx] at hy; cases hy; exact h0
    · exact h.2.2 i y (by omega) hy
theorem ErrAt.hit {α : Type} {f : Nat → α → Int} {l : List α} {k : Nat} {x : α} (h : ErrAt f l k) (hx : l[k]? = some x) (h0 : ¬ f k x = 0) : f k x = firstE f 0 l := by
  rw [h.2.1, dropc hx, firstE, if_neg h0]
theorem ErrAt.done {α : Type} {f : Nat → α → Int} {l : List α} {k : Nat} (h : ErrAt f l k) (hk : ¬ (k : Int) < l.length) : firstE f 0 l = 0 := by
  rw [h.2.1, drop_end hk]; rfl
theorem firstE_zero {α : Type} {f : Nat → α → Int} : ∀ {l : List α} {k : Nat}, firstE f k l = 0 → ∀ (i : Nat) x, l[i]? = some x → f (k + i) x = 0
  | [], k, _, i, x, h => by simp at h
  | y :: r, k, h, i, x, hx => by
    unfold firstE at h
    split at h
    · cases i with
      | zero => simp at hx; subst hx; assumption
      | succ i =>
        have := firstE_zero h i x (by simpa using hx)
        rw [show k + (i + 1) = k + 1 + i by omega]; exact this
    · exact absurd h (by assumption)
theorem firstE_congr {α : Type} {f g : Nat → α → Int} : ∀ {l : List α} {k : Nat}, (∀ (i : Nat) x, l[i]? = some x → f (k + i) x = g (k + i) x) → firstE f k l = firstE g k l
  | [], k, _ => rfl
  | y :: r, k, h => by
    have h0 := h 0 y rfl
    simp only [Nat.add_zero] at h0
    unfold firstE
    rw [h0, firstE_congr (f := f) (g := g) (l := r) (k := k + 1) (fun i x hx => by
      have := h (i + 1) x (by simpa using hx)
      rwa [show k + (i + 1) = k + 1 + i by omega] at this)]

/-- None passed so far. -/
def AnyAt {α : Type} (p : α → Bool) (l : List α) (k : Nat) : Prop := k ≤ l.length ∧ ∀ x ∈ l.take k, p x = false
theorem AnyAt.zero {α : Type} (p : α → Bool) (l : List α) : AnyAt p l 0 := ⟨Nat.zero_le _, fun x hx => by simp at hx⟩
theorem AnyAt.step {α : Type} {p : α → Bool} {l : List α} {k : Nat} {x : α} (h : AnyAt p l k) (hx : l[k]? = some x) (h0 : p x = false) : AnyAt p l (k + 1) := by
  refine ⟨lt_of_get hx, fun y hy => ?_⟩
  rw [takec hx] at hy
  rcases List.mem_append.1 hy with hy | hy
  · exact h.2 y hy
  · simp at hy; subst hy; exact h0
theorem AnyAt.hit {α : Type} {p : α → Bool} {l : List α} {k : Nat} {x : α} (h : AnyAt p l k) (hx : l[k]? = some x) (h0 : p x = true) : true = l.any p :=
  (List.any_eq_true.2 ⟨x, List.mem_of_getElem? hx, h0⟩).symm
theorem AnyAt.done {α : Type} {p : α → Bool} {l : List α} {k : Nat} (h : AnyAt p l k) (hk : ¬ (k : Int) < l.length) : false = l.any p := by
  have := h.2
  rw [take_end hk] at this
  exact (List.any_eq_false.2 (fun x hx => by simp [this x hx])).symm
end Go.Proofs.YtmiaihoallkjfaaDoor

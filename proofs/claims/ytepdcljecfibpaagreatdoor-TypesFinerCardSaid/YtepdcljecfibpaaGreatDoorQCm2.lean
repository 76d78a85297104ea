/- Chapter 5: at which level a condition about one column is told. -/
import Derived.Test.YtepdcljecfibpaaGreatDoorQCm1
import Derived.Test.YtepdcljecfibpaaGreatDoorQSx
namespace Go.Proofs.YtepdcljecfibpaaGreatDoor
open Go Go.Av
attribute [local irreducible] AWp AOps AAny MAny DQ retQ retG St.le FCall GCall
set_option linter.unusedVariables false
set_option linter.unnecessarySimpa false
set_option linter.unusedSimpArgs false
set_option maxRecDepth 100000
def Agree (f g : Nat → Int) (L : List Nat) : Prop := ∀ x ∈ L, ∀ y ∈ L, f x = f y → g x = g y
instance (f g : Nat → Int) (L : List Nat) : Decidable (Agree f g L) := by unfold Agree; infer_instance
theorem mget_mset (m : List (Key × AV)) (k : Key) (v : AV) (k' : Key) : mget (mset m k v) k' = if k = k' then some v else mget m k' := by
  induction m with
  | nil => unfold mset mget; by_cases e : k = k' <;> simp [e]
  | cons p r ih =>
    obtain ⟨a, b⟩ := p
    unfold mset
    by_cases e : a = k
    · rw [if_pos e]
      subst e
      unfold mget
      by_cases e2 : a = k' <;> simp [e2]
    · rw [if_neg e]
      unfold mget at ih ⊢
      by_cases e2 : a = k'
      · have : ¬ k = k' := fun h => e (e2.trans h.symm)
        simp [e2, this]
      · simp only [List.find?_cons, e2, decide_false]
        exact ih
theorem mset_keys {t : TypeDesc} {k : Key} {v : AV} (hk : kindB t k = true) : ∀ {m : List (Key × AV)}, MapKeys t m → MapKeys t (mset m k v)
  | [], _ => fun p hp => by
    unfold mset at hp
    rw [List.mem_singleton] at hp
    rw [hp]; exact hk
  | (a, b) :: r, hm => fun p hp => by
    unfold mset at hp
    split at hp
    · rename_i e
      rcases List.mem_cons.1 hp with rfl | hp
      · exact hm (a, b) (by simp)
      · exact hm p (by simp [hp])
    · rcases List.mem_cons.1 hp with rfl | hp
      · exact hm (a, b) (by simp)
      · exact mset_keys hk (m := r) (fun q hq => hm q (by simp [hq])) p hp
def seenK (f g : Nat → Int) (l : List Nat) : Nat → List (Key × AV)
  | 0 => []
  | k + 1 => match l[k]? with
    | some x => mset (seenK f g l k) (.i .i64 (f x)) (.i (g x))
    | none => seenK f g l k
theorem seenK_succ {f g : Nat → Int} {l : List Nat} {k x : Nat} (h : l[k]? = some x) : seenK f g l (k + 1) = mset (seenK f g l k) (.i .i64 (f x)) (.i (g x)) := by
  rw [seenK, h]
theorem seenK_keys (f g : Nat → Int) (l : List Nat) : ∀ k, MapKeys (.int .i64) (seenK f g l k)
  | 0 => fun p hp => by cases hp
  | k + 1 => by
    unfold seenK
    cases l[k]? with
    | none => exact seenK_keys f g l k
    | some x => exact mset_keys (by rfl) (seenK_keys f g l k)
def seenF (f : Nat → Int) (l : List Nat) (k : Nat) (b : Int) : Option Nat := (l.take k).reverse.find? fun x => decide (f x = b)
def seenB (f : Nat → Int) (l : List Nat) (k : Nat) (b : Int) : Bool := (seenF f l k b).isSome
def seenV (f g : Nat → Int) (l : List Nat) (k : Nat) (b : Int) : Int := ((seenF f l k b).map g).getD 0
theorem seenK_get (f g : Nat → Int) (l : List Nat) (b : Int) : ∀ k, mget (seenK f g l k) (.i .i64 b) = (seenF f l k b).map fun x => .i (g x)
  | 0 => by simp [seenK, mget, seenF]
  | k + 1 => by
    have ih := seenK_get f g l b k
    unfold seenF at ih ⊢
    cases h : l[k]? with
    | none =>
      rw [seenK, h, List.take_add_one, h]
      simpa using ih
    | some x =>
      rw [seenK_succ h, takec h, List.reverse_append, mget_mset]
      simp only [List.reverse_cons, List.reverse_nil, List.nil_append, List.cons_append, List.find?_cons, Key.i.injEq, true_and]
      by_cases e : f x = b
      · simp [e]
      · simp only [e, if_false, decide_false]
        exact ih
theorem seen_eq (f g : Nat → Int) (l : List Nat) (k : Nat) (b : Int) : AV.tup [mgetD (seenK f g l k) (.i .i64 b) (ofV (.int .i64 0)), .b (mget (seenK f g l k) (.i .i64 b)).isSome] = .tup [.i (seenV f g l k b), .b (seenB f l k b)] := by
  unfold mgetD seenV seenB
  rw [seenK_get]
  cases seenF f l k b <;> rfl
theorem seen_no {f : Nat → Int} {l : List Nat} {k : Nat} {b : Int} (h : seenB f l k b = false) : ∀ x ∈ l.take k, f x ≠ b := by
  intro x hx e
  unfold seenB seenF at h
  rw [Option.isSome_eq_false_iff, Option.isNone_iff_eq_none, List.find?_eq_none] at h
  exact h x (List.mem_reverse.2 hx) (by simp [e])
theorem seen_yes {f g : Nat → Int} {l : List Nat} {k : Nat} {b : Int} (h : seenB f l k b = true) : ∃ x ∈ l.take k, f x = b ∧ seenV f g l k b = g x := by
  unfold seenB at h
  unfold seenV
  obtain ⟨x, hx⟩ := Option.isSome_iff_exists.1 h
  refine ⟨x, ?_, ?_, by rw [hx]; rfl⟩
  · exact List.mem_reverse.1 (List.mem_of_find?_eq_some hx)
  · simpa using List.find?_some hx
theorem Agree.step {f g : Nat → Int} {l : List Nat} {k x : Nat} (h : Agree f g (l.take k)) (hx : l[k]? = some x) (hs : seenB f l k (f x) = true → seenV f g l k (f x) = g x) : Agree f g (l.take (k + 1)) := by
  have key : ∀ y ∈ l.take k, f y = f x → g y = g x := by
    intro y hy e
    cases hb : seenB f l k (f x) with
    | false => exact absurd e (seen_no hb y hy)
    | true =>
      obtain ⟨z, hz, e1, e2⟩ := seen_yes (g := g) hb
      rw [hs hb] at e2
      rw [e2]
      exact h y hy z hz (e.trans e1.symm)
  rw [takec hx]
  intro a ha b hb e
  rcases List.mem_append.1 ha with h1 | h1 <;> rcases List.mem_append.1 hb with h2 | h2
  · exact h a h1 b h2 e
  · rw [List.mem_singleton] at h2; rw [h2] at e ⊢; exact key a h1 e
  · rw [List.mem_singleton] at h1; rw [h1] at e ⊢; exact (key b h2 e.symm).symm
  · rw [List.mem_singleton] at h1 h2; rw [h1, h2]
theorem Agree.not {f g : Nat → Int} {l : List Nat} {k x : Nat} (hx : l[k]? = some x) (hs : seenB f l k (f x) = true) (hv : seenV f g l k (f x) ≠ g x) : ¬ Agree f g l := by
  intro h
  obtain ⟨z, hz, e1, e2⟩ := seen_yes (g := g) hs
  rw [e2] at hv
  exact hv (h z (List.mem_of_mem_take hz) x (List.mem_of_getElem? hx) e1)
def sufM (a : Cnd) (x : Col) (level : Int) : Prop :=
  if level = 0 then x.opt = false ∧ ¬ (x.low < a.lo ∧ a.lo ≤ x.high) ∧ ¬ (x.low ≤ a.hi ∧ a.hi < x.high)
  else ((x.low < a.lo ∧ a.lo ≤ x.high) → a.lo.tmod (widthS x level) = 0) ∧ ((x.low ≤ a.hi ∧ a.hi < x.high) → (a.hi + 1).tmod (widthS x level) = 0)
instance (a : Cnd) (x : Col) (level : Int) : Decidable (sufM a x level) := by unfold sufM; infer_instance
def sufS (s : Sch) (a : Cnd) (level : Int) : Bool :=
  if a.op = 2 then decide (Agree (fun x => upS (lstOf s (colAt s a.col)).1 (lstOf s (colAt s a.col)).2 x level) (fun x => atomS s a x) (lvsS s a.col))
  else if a.op = 4 then decide (0 < level) else decide (sufM a (colAt s a.col) level)
theorem sufS_code {s : Sch} {a : Cnd} {level : Int} {x : Col} {lx : CL} (h2 : a.op = 2) (hx : s.cols[a.col.toNat]? = some x) (hl : s.lists[x.lst.toNat]? = some lx) : sufS s a level = decide (Agree (fun v => upS lx.1 lx.2 v level) (fun v => atomS s a v) (atS lx.1 lx.2 (levelsS lx.1 lx.2 - 1))) := by
  unfold sufS lvsS
  rw [if_pos h2, colAt_get hx, lstOf_get hl]
theorem sufS_mis {s : Sch} {a : Cnd} {level : Int} (h4 : a.op = 4) : sufS s a level = decide (0 < level) := by
  unfold sufS
  rw [if_neg (by omega), if_pos h4]
theorem sufS_mea {s : Sch} {a : Cnd} {level : Int} {x : Col} (h3 : a.op = 3) (hx : s.cols[a.col.toNat]? = some x) : sufS s a level = decide (sufM a x level) := by
  unfold sufS
  rw [if_neg (by omega), if_neg (by omega), colAt_get hx]
end Go.Proofs.YtepdcljecfibpaaGreatDoor

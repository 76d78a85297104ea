/- States that say less; freezing; what a function does. -/
import Derived.Test.YtmiaihoallkjfaaDoorAvU
namespace Go.Av
open Go Go.RowKit
set_option linter.unusedSimpArgs false
set_option linter.unusedVariables false
set_option linter.unnecessarySimpa false

/-! ### A value, where fewer blocks are one's own -/
def cvRow (h h' : Hp) (i v len : Nat) : AV :=
  match lookB h i with
  | some (.row _ sz v1 l) => cond (Nat.beq v v1) (match lookB h' i with
    | some (.row _ _ v2 _) => .row i v2 len
    | _ => .sl sz l) .any
  | _ => .any
def cvElt (h h' : Hp) (i v k off : Nat) : AV :=
  match lookB h i with
  | some (.row _ sz v1 l) => cond (Nat.beq v v1) (match lookB h' i with
    | some (.row _ _ v2 _) => .elt i v2 k off
    | _ => match l[k]? with
      | some el => .iptr (el.drop off)
      | none => .any) .any
  | _ => .any
def cvRef (h h' : Hp) (i off : Nat) : AV :=
  match lookB h i with
  | some (.box l) => match lookB h' i with
    | some _ => .ref i off
    | none => cond (closedLB l) (.iptr (l.drop off)) (.ref i off)
  | _ => .ref i off
mutual
def cvA (h h' : Hp) : AV → AV
  | .row i v len => cvRow h h' i v len
  | .elt i v k off => cvElt h h' i v k off
  | .ref i off => cvRef h h' i off
  | .agg l => .agg (cvL h h' l)
  | .tup l => .tup (cvL h h' l)
  | x => x
def cvL (h h' : Hp) : List AV → List AV
  | [] => []
  | x :: r => cvA h h' x :: cvL h h' r
end
theorem cvL_map (h h' : Hp) : ∀ l, cvL h h' l = l.map (cvA h h')
  | [] => by simp [cvL]
  | x :: r => by simp [cvL, cvL_map h h' r]
def cvB (h h' : Hp) : Blk → Blk → Prop
  | .box l, b => b = .box (cvL h h' l)
  | .row e sz _ l, b => ∃ v, b = .row e sz v l
  | .map m, b => b = .map m

mutual
def avLt (m : Nat) : AV → Bool
  | .ref i _ => Nat.blt i m
  | .row i _ _ => Nat.blt i m
  | .mp i => Nat.blt i m
  | .elt i _ _ _ => Nat.blt i m
  | .agg l => avsLt m l
  | .tup l => avsLt m l
  | _ => true
def avsLt (m : Nat) : List AV → Bool
  | [] => true
  | x :: r => avLt m x && avsLt m r
end
theorem avsLt_mem {m : Nat} : ∀ {l : List AV}, avsLt m l = true → ∀ x ∈ l, avLt m x = true
  | [], _, x, hx => by cases hx
  | y :: r, h, x, hx => by
    simp only [avsLt, Bool.and_eq_true] at h
    rcases List.mem_cons.1 hx with rfl | hx
    · exact h.1
    · exact avsLt_mem h.2 x hx

/-- The second context has fewer blocks of one's own, and the same world. -/
structure Cx.sub (c c' : Cx) : Prop where
  θ : c'.θ = c.θ
  w : c'.w = c.w
  X : ∀ k, c'.X k → c.X k
  blk : ∀ i b', lookB c'.hp i = some b' → ∃ b, lookB c.hp i = some b ∧ cvB c.hp c'.hp b b'
  apart : ∀ i j b b' k, lookB c.hp i = some b → lookB c.hp j = some b' → fp (c.θ i) = some k → fp (c.θ j) = some k → i = j
  fresh : ∀ i b k, lookB c.hp i = some b → fp (c.θ i) = some k → ¬ c.X k
  owns : ∀ i b, lookB c.hp i = some b → OwnOk c i b

theorem Cx.sub.U {c c' : Cx} (h : c.sub c') : ∀ k, c'.U k → c.U k := by
  rintro k (hk | ⟨i, b, hi, hk⟩)
  · exact .inl (h.X k hk)
  · obtain ⟨b0, hb0, _⟩ := h.blk i b hi
    exact .inr ⟨i, b0, hb0, by rw [← h.θ]; exact hk⟩
theorem Cx.sub.notU {c c' : Cx} (h : c.sub c') {i : Nat} {b : Blk} (hi : lookB c.hp i = some b) (hn : lookB c'.hp i = none) {k : Nat} (hk : fp (c.θ i) = some k) : ¬ c'.U k := by
  rintro (hx | ⟨j, b', hj, hk'⟩)
  · exact h.fresh i b k hi hk (h.X k hx)
  · obtain ⟨b0, hb0, _⟩ := h.blk j b' hj
    have := h.apart i j b b0 k hi hb0 hk (by rw [← h.θ]; exact hk')
    subst this
    rw [hn] at hj
    cases hj
theorem Cx.sub.im {c c' : Cx} (h : c.sub c') {a : AV} {x : Value} (hi : Im c.U c.w a x) : Im c'.U c'.w a x := hi.mono (fun k _ _ => by rw [h.w]) fun k _ hu => h.U k hu

theorem own_row_sl {c c' : Cx} (h : c.sub c') {i e sz v : Nat} {l : List (List AV)} (hi : lookB c.hp i = some (.row e sz v l)) (hn : lookB c'.hp i = none) : Im c'.U c'.w (.sl sz l) (c.θ i) := by
  obtain ⟨xs, hown, hsz, hr⟩ := h.owns i _ hi
  rcases hown.2 with ⟨hv, hn0⟩ | ⟨g, cap, cur, hv, _, hg, hc, hm, hlen, hx⟩
  · have : l = [] := List.eq_nil_of_length_eq_zero hn0
    subst this
    rw [hv]
    exact .slnil sz
  · have hown' := hown
    rw [hv] at hown'
    rw [hv]
    have hnu : ¬ c'.U g := h.notU hi hn (by rw [hv]; rfl)
    have hget : ∀ i, i < l.length → ∀ j, j < sz → ∃ y, xs[i * sz + j]? = some y := by
      intro i hi j hj
      have h1 : (i + 1) * sz ≤ l.length * sz := Nat.mul_le_mul_right _ hi
      rw [Nat.add_mul, Nat.one_mul] at h1
      have h2 : i * sz + j < xs.length := by rw [hown.1]; omega
      exact ⟨_, List.getElem?_eq_getElem h2⟩
    refine .sl sz l ⟨g, 0, none⟩ cap (fun i j => xs.getD (i * sz + j) undef) hc hm (fun _ _ => hnu) hsz (fun i hi j hj => ?_) (fun k el hk j x hx => ?_)
    · obtain ⟨y, hy⟩ := hget i hi j hj
      have := hown'.cells (g := g) rfl _ _ hy
      rw [addr_add, h.w]
      have e : xs.getD (i * sz + j) undef = y := by rw [List.getD, hy]; rfl
      rw [e]
      simpa [addr_add] using this
    · obtain ⟨y, hy, him⟩ := hr k el hk j x hx
      have e : xs.getD (k * sz + j) undef = y := by rw [List.getD, hy]; rfl
      rw [e]
      exact h.im him

theorem cv_im {c c' : Cx} (h : c.sub c') {a : AV} {x : Value} (hi : Im c.U c.w a x) : cvA c.hp c'.hp a = a ∨ Rel c' (cvA c.hp c'.hp a) x := by
  induction hi with
  | v x => exact .inl rfl
  | str l => exact .inl rfl
  | fn f l cs hl hc ih => exact .inl rfl
  | iptr l a f hu hc hh ih => exact .inl rfl
  | slnil sz => exact .inl rfl
  | sl sz l a cap f hcap hm hu hsz hc hh ih => exact .inl rfl
  | agg l cs hl hc ih =>
    refine .inr ?_
    simp only [cvA, cvL_map]
    refine .agg _ cs (by simp [hl]) fun j u z hu hz => ?_
    simp only [List.getElem?_map, Option.map_eq_some_iff] at hu
    obtain ⟨u0, hu0, rfl⟩ := hu
    rcases ih j u0 z hu0 hz with e | e
    · rw [e]; exact .im (h.im (hc j u0 z hu0 hz))
    · exact e
  | tup l cs hl hc ih =>
    refine .inr ?_
    simp only [cvA, cvL_map]
    refine .tup _ cs (by simp [hl]) fun j u z hu hz => ?_
    simp only [List.getElem?_map, Option.map_eq_some_iff] at hu
    obtain ⟨u0, hu0, rfl⟩ := hu
    rcases ih j u0 z hu0 hz with e | e
    · rw [e]; exact .im (h.im (hc j u0 z hu0 hz))
    · exact e

theorem cv_rel {c c' : Cx} (h : c.sub c') {a : AV} {x : Value} (r : Rel c a x) : c.nx ≤ c'.nx ∨ avLt c'.nx (cvA c.hp c'.hp a) = true → Rel c' (cvA c.hp c'.hp a) x := by
  induction r with
  | any x => intro _; exact .any x
  | im hi =>
    intro _
    rcases cv_im h hi with e | e
    · rw [e]; exact .im (h.im hi)
    · exact e
  | agg l cs hl _ ih =>
    intro hlt
    simp only [cvA, cvL_map] at hlt ⊢
    refine .agg _ cs (by simp [hl]) fun j u z hu hz => ?_
    have hmem := List.mem_of_getElem? hu
    simp only [List.getElem?_map, Option.map_eq_some_iff] at hu
    obtain ⟨u0, hu0, rfl⟩ := hu
    exact ih j u0 z hu0 hz (hlt.imp id fun h => avsLt_mem (by simpa only [avLt] using h) _ hmem)
  | tup l cs hl _ ih =>
    intro hlt
    simp only [cvA, cvL_map] at hlt ⊢
    refine .tup _ cs (by simp [hl]) fun j u z hu hz => ?_
    have hmem := List.mem_of_getElem? hu
    simp only [List.getElem?_map, Option.map_eq_some_iff] at hu
    obtain ⟨u0, hu0, rfl⟩ := hu
    exact ih j u0 z hu0 hz (hlt.imp id fun h => avsLt_mem (by simpa only [avLt] using h) _ hmem)
  | ref i off b hi hθ =>
    intro hlt
    simp only [cvA, cvRef] at hlt ⊢
    have keep : (c.nx ≤ c'.nx ∨ avLt c'.nx (.ref i off) = true) → Rel c' (.ref i off) (.pointer (some ⟨b, off, none⟩)) := fun hlt => by
      refine .ref i off b ?_ (by rw [h.θ]; exact hθ)
      rcases hlt with h1 | h1
      · omega
      · simpa only [avLt, Nat.blt_eq] using h1
    split at hlt
    · rename_i l hb
      split at hlt
      · exact keep hlt
      · rename_i hn
        cases hcl : closedLB l with
        | false => rw [hcl] at hlt; exact keep hlt
        | true =>
          obtain ⟨b', arr, T, hθ', hh, hsz, hr⟩ := h.owns i _ hb
          have e : b' = b := by rw [hθ] at hθ'; injection hθ' with e; injection e with e; injection e with e; exact e.symm
          subst e
          have hnu : ¬ c'.U b' := h.notU hb hn (by rw [hθ]; rfl)
          refine .im (.iptr _ _ (fun j => arr.getD (off + j) undef) (fun _ => hnu) (fun j hj => ?_) (fun j u hu => ?_))
          · have hlt' : off + j < arr.size := by rw [List.length_drop] at hj; omega
            rw [addr_add, h.w, cell_of_block hh]
            simp [Array.getD, hlt']
          · rw [List.getElem?_drop] at hu
            have hlt' : off + j < arr.size := by have := (List.getElem?_eq_some_iff.1 hu).1; omega
            have hget : arr[off + j]? = some (arr.getD (off + j) undef) := by simp [Array.getD, hlt']
            have := hr _ u _ hu hget
            exact h.im ((closedLB_spec hcl u (List.mem_of_getElem? hu)).im this)
    · exact keep hlt
  | row i ver len x hi hr =>
    intro hlt
    simp only [cvA, cvRow]
    split
    · rename_i e sz v1 l hb
      cases hv : Nat.beq ver v1 with
      | false => exact .any x
      | true =>
        have hv' := Nat.eq_of_beq_eq_true hv
        subst hv'
        obtain ⟨_, hcur⟩ := hr e sz ver l hb
        obtain ⟨hlen, hx⟩ := hcur rfl
        simp only [cond_true]
        split
        · rename_i e2 sz2 v2 l2 hb2
          have hnx : i < c'.nx := by
            simp only [cvA, cvRow, hb, hv, cond_true, hb2, avLt, Nat.blt_eq] at hlt
            omega
          refine .row i v2 len x hnx fun e3 sz3 v3 l3 hb3 => ?_
          rw [hb2] at hb3
          cases hb3
          refine ⟨Nat.le_refl _, fun _ => ?_⟩
          obtain ⟨b, hb', hrow⟩ := h.blk i _ hb2
          rw [hb] at hb'
          cases hb'
          obtain ⟨v, hrow⟩ := hrow
          cases hrow
          exact ⟨hlen, by rw [h.θ]; exact hx⟩
        · rename_i hb2
          rw [hx]
          refine .im (own_row_sl h hb ?_)
          cases hq : lookB c'.hp i with
          | none => rfl
          | some b' =>
            obtain ⟨b, hb', hrow⟩ := h.blk i _ hq
            rw [hb] at hb'
            cases hb'
            obtain ⟨v, rfl⟩ := hrow
            exact absurd hq (hb2 _ _ _ _)
    · exact .any x
  | mp i r hi hθ =>
    intro hlt
    refine .mp i r ?_ (by rw [h.θ]; exact hθ)
    simp only [cvA, avLt, Nat.blt_eq] at hlt
    omega
  | elt i ver k off x hi hr =>
    intro hlt
    simp only [cvA, cvElt]
    split
    · rename_i e sz v1 l hb
      cases hv : Nat.beq ver v1 with
      | false => exact .any x
      | true =>
        have hv' := Nat.eq_of_beq_eq_true hv
        subst hv'
        obtain ⟨_, hcur⟩ := hr e sz ver l hb
        obtain ⟨g, m, cap, hθ, hx⟩ := hcur rfl
        simp only [cond_true]
        split
        · rename_i e2 sz2 v2 l2 hb2
          have hnx : i < c'.nx := by
            simp only [cvA, cvElt, hb, hv, cond_true, hb2, avLt, Nat.blt_eq] at hlt
            omega
          refine .elt i v2 k off x hnx fun e3 sz3 v3 l3 hb3 => ?_
          rw [hb2] at hb3
          cases hb3
          refine ⟨Nat.le_refl _, fun _ => ?_⟩
          obtain ⟨b, hb', hrow⟩ := h.blk i _ hb2
          rw [hb] at hb'
          cases hb'
          obtain ⟨v, hrow⟩ := hrow
          cases hrow
          exact ⟨g, m, cap, by rw [h.θ]; exact hθ, hx⟩
        · rename_i hb2
          split
          · rename_i el hel
            have hn : lookB c'.hp i = none := by
              cases hq : lookB c'.hp i with
              | none => rfl
              | some b' =>
                obtain ⟨b, hb', hrow⟩ := h.blk i _ hq
                rw [hb] at hb'
                cases hb'
                obtain ⟨v, rfl⟩ := hrow
                exact absurd hq (hb2 _ _ _ _)
            have him := own_row_sl h hb hn
            rw [hθ] at him
            cases him with
            | sl sz l a cap' f hcap hm hu hsz hc hh =>
              have hlt2 : k < l.length := (List.getElem?_eq_some_iff.1 hel).1
              have hes := hsz el (List.mem_of_getElem? hel)
              rw [hx]
              refine .im (.iptr _ _ (fun j => f k (off + j)) (fun hne => ?_) (fun j hj => ?_) (fun j u hu' => ?_))
              · have h1 := List.length_pos_iff.2 hne
                rw [List.length_drop] at h1
                exact hu (by intro e; subst e; simp at hlt2) (by omega)
              · rw [List.length_drop] at hj
                have := hc k hlt2 (off + j) (by omega)
                rw [addr_add] at this ⊢
                rw [← this]
                congr 2
                omega
              · rw [List.getElem?_drop] at hu'
                exact hh k el hel (off + j) u hu'
          · exact .any x
    · exact .any x

theorem SatT.cv {E : Env} {n : Nat} {θ : Nat → Value} {σ σ' : St} {a : Act} {w : World} (h : SatT E n θ σ a w) (h0 : E.n0 ≤ σ'.nx)
    (hs : ∀ s x', look σ'.sl s = some x' → ∃ x, look σ.sl s = some x ∧ cvA σ.hp σ'.hp x = x' ∧ (σ.nx ≤ σ'.nx ∨ avLt σ'.nx x' = true))
    (hb : ∀ i b', lookB σ'.hp i = some b' → (σ.nx ≤ σ'.nx ∨ i < σ'.nx) ∧ ∃ b, lookB σ.hp i = some b ∧ cvB σ.hp σ'.hp b b' ∧ (σ.nx ≤ σ'.nx ∨ ∀ l, b' = .box l → avsLt σ'.nx l = true)) : SatT E n θ σ' a w := by
  have sub : (cx E θ σ w).sub (cx E θ σ' w) := ⟨rfl, rfl, fun _ h => h, fun i b' hi => by
    obtain ⟨_, b, h1, h2, _⟩ := hb i b' hi
    exact ⟨b, h1, h2⟩, h.apart, fun i b k hi hk => (h.mine i b k hi hk).1, fun i b hi => (h.owns i b hi).2⟩
  refine ⟨h.size, h.defers, h.fr, fun s x' hx => ?_, fun i b' hi => ?_, fun i j b1 b2 k hi hj => ?_, fun i b' k hi => ?_, h.X, ⟨h0, h.base.2⟩⟩
  · obtain ⟨x, h1, rfl, h2⟩ := hs s x' hx
    exact cv_rel sub (h.slots s x h1) h2
  · obtain ⟨h0, b, h1, h2, h3⟩ := hb i b' hi
    obtain ⟨h4, h5⟩ := h.owns i b h1
    refine ⟨h0.elim (fun h => by omega) id, ?_⟩
    cases b with
    | box l =>
      simp only [cvB] at h2
      subst h2
      obtain ⟨b', arr, T, e1, e2, e3, e4⟩ := h5
      refine ⟨b', arr, T, e1, e2, by rw [cvL_map, List.length_map]; exact e3, fun j u z hu hz => ?_⟩
      rw [cvL_map] at hu h3
      have hmem := List.mem_of_getElem? hu
      simp only [List.getElem?_map, Option.map_eq_some_iff] at hu
      obtain ⟨u0, hu0, rfl⟩ := hu
      exact cv_rel sub (e4 j u0 z hu0 hz) (h3.imp id fun h => avsLt_mem (h _ rfl) _ hmem)
    | row e sz v l =>
      obtain ⟨v2, rfl⟩ := h2
      obtain ⟨xs, e1, e2, e3⟩ := h5
      exact ⟨xs, e1, e2, fun k el hk j x hx => by
        obtain ⟨y, hy, hi⟩ := e3 k el hk j x hx
        exact ⟨y, hy, sub.im hi⟩⟩
    | map m =>
      simp only [cvB] at h2
      subst h2
      obtain ⟨r, es, clock, e1, e2, e3, e4⟩ := h5
      exact ⟨r, es, clock, e1, e2, e3, fun j q e hj he => ⟨(e4 j q e hj he).1, sub.im (e4 j q e hj he).2⟩⟩
  · obtain ⟨_, b1', h1, _⟩ := hb i b1 hi
    obtain ⟨_, b2', h2, _⟩ := hb j b2 hj
    exact h.apart i j _ _ k h1 h2
  · obtain ⟨_, b1', h1, _⟩ := hb i b' hi
    exact h.mine i _ k h1

def slLt (m : Nat) : List (Nat × AV) → Bool
  | [] => true
  | (_, x) :: r => avLt m x && slLt m r
def hpLt (m : Nat) : Hp → Bool
  | [] => true
  | (i, some (.box l)) :: r => Nat.blt i m && avsLt m l && hpLt m r
  | (i, _) :: r => Nat.blt i m && hpLt m r
theorem slLt_look {m : Nat} : ∀ {l : List (Nat × AV)} {s : Nat} {x : AV}, slLt m l = true → look l s = some x → avLt m x = true
  | [], s, x, _, h => by cases h
  | (s0, x0) :: r, s, x, hs, h => by
    simp only [slLt, Bool.and_eq_true] at hs
    rw [look_cons] at h
    by_cases e : s0 = s
    · subst e; rw [if_pos rfl] at h; cases h; exact hs.1
    · rw [if_neg e] at h; exact slLt_look hs.2 h
theorem hpLt_look {m : Nat} : ∀ {l : Hp} {i : Nat} {b : Blk}, hpLt m l = true → lookB l i = some b → i < m ∧ ∀ c, b = .box c → avsLt m c = true
  | [], i, b, _, h => by cases h
  | (i0, b0) :: r, i, b, hs, h => by
    rw [lookB_cons] at h
    have hs' : Nat.blt i0 m = true ∧ (∀ c, b0 = some (.box c) → avsLt m c = true) ∧ hpLt m r = true := by
      match b0, hs with
      | some (.box c), hs => simp only [hpLt, Bool.and_eq_true] at hs; exact ⟨hs.1.1, (fun c' e => by cases e; exact hs.1.2), hs.2⟩
      | some (.row ..), hs => simp only [hpLt, Bool.and_eq_true] at hs; exact ⟨hs.1, (fun c' e => by cases e), hs.2⟩
      | some (.map ..), hs => simp only [hpLt, Bool.and_eq_true] at hs; exact ⟨hs.1, (fun c' e => by cases e), hs.2⟩
      | none, hs => simp only [hpLt, Bool.and_eq_true] at hs; exact ⟨hs.1, (fun c' e => by cases e), hs.2⟩
    by_cases e : i0 = i
    · subst e
      rw [if_pos rfl] at h
      subst h
      exact ⟨Nat.blt_eq ▸ hs'.1, fun c hc => hs'.2.1 c (by rw [hc])⟩
    · rw [if_neg e] at h; exact hpLt_look hs'.2.2 h

/-- What the second state says of the slots, the first one says. -/
def SubSl (σ : St) (h' : Hp) : List (Nat × AV) → Prop
  | [] => True
  | (s, x) :: r => (look σ.sl s).map (cvA σ.hp h') = some x ∧ SubSl σ h' r
def SubHp (σ : St) (h' : Hp) : Hp → Prop
  | [] => True
  | (_, none) :: r => SubHp σ h' r
  | (i, some b) :: r => (match lookB σ.hp i with
    | some b0 => cvB σ.hp h' b0 b
    | none => False) ∧ SubHp σ h' r
theorem SubSl.look {σ : St} {h' : Hp} : ∀ {l : List (Nat × AV)} {s : Nat} {x : AV}, SubSl σ h' l → look l s = some x → (look σ.sl s).map (cvA σ.hp h') = some x
  | [], s, x, _, h => by cases h
  | (s0, x0) :: r, s, x, hs, h => by
    rw [look_cons] at h
    by_cases e : s0 = s
    · subst e; rw [if_pos rfl] at h; cases h; exact hs.1
    · rw [if_neg e] at h; exact SubSl.look hs.2 h
theorem SubHp.look {σ : St} {h' : Hp} : ∀ {l : Hp} {i : Nat} {b : Blk}, SubHp σ h' l → lookB l i = some b → ∃ b0, lookB σ.hp i = some b0 ∧ cvB σ.hp h' b0 b
  | [], i, b, _, h => by cases h
  | (i0, none) :: r, i, b, hs, h => by
    rw [lookB_cons] at h
    by_cases e : i0 = i
    · subst e; rw [if_pos rfl] at h; cases h
    · rw [if_neg e] at h; exact SubHp.look (l := r) hs h
  | (i0, some b0) :: r, i, b, hs, h => by
    rw [lookB_cons] at h
    by_cases e : i0 = i
    · subst e
      rw [if_pos rfl] at h
      cases h
      have h1 := hs.1
      split at h1
      · rename_i b1 hb1; exact ⟨b1, hb1, h1⟩
      · exact h1.elim
    · rw [if_neg e] at h; exact SubHp.look hs.2 h

theorem le_of {E : Env} {n m : Nat} {σ σ' : St} (h0 : E.n0 = m) (hm : Nat.ble m σ'.nx = true) (hs : SubSl σ σ'.hp σ'.sl) (hh : SubHp σ σ'.hp σ'.hp) (hn : Nat.ble σ'.nx σ.nx = true) (hl : slLt σ'.nx σ'.sl = true) (hb : hpLt σ'.nx σ'.hp = true) : St.le E n σ σ' := by
  rintro a w ⟨θ, h⟩
  refine ⟨θ, h.cv (h0 ▸ Nat.ble_eq ▸ hm) (fun s x' hx => ?_) (fun i b' hi => ?_)⟩
  · have := SubSl.look hs hx
    rw [Option.map_eq_some_iff] at this
    obtain ⟨x, h1, h2⟩ := this
    exact ⟨x, h1, h2, .inr (slLt_look hl hx)⟩
  · obtain ⟨b0, h1, h2⟩ := SubHp.look hh hi
    obtain ⟨h3, h4⟩ := hpLt_look hb hi
    exact ⟨.inr h3, b0, h1, h2, .inr h4⟩

/-- A block is one's own no more. -/
def mapSl (f : AV → AV) : List (Nat × AV) → List (Nat × AV)
  | [] => []
  | (s, x) :: r => (s, f x) :: mapSl f r
def dropHp (i : Nat) : Hp → Hp
  | [] => []
  | (k, b) :: r => cond (Nat.beq k i) (dropHp i r) ((k, b) :: dropHp i r)
def mapHp (f : AV → AV) : Hp → Hp
  | [] => []
  | (k, some (.box l)) :: r => (k, some (.box (l.map f))) :: mapHp f r
  | (k, b) :: r => (k, b) :: mapHp f r
theorem look_mapSl (f : AV → AV) : ∀ (l : List (Nat × AV)) (s : Nat), look (mapSl f l) s = (look l s).map f
  | [], s => rfl
  | (k, x) :: r, s => by
    simp only [mapSl, look_cons]
    by_cases e : k = s
    · simp [e]
    · simp [e, look_mapSl f r s]
theorem lookB_dropHp (i : Nat) : ∀ (l : Hp) (j : Nat), lookB (dropHp i l) j = if i = j then none else lookB l j
  | [], j => by simp [dropHp, lookB, look]
  | (k, b) :: r, j => by
    simp only [dropHp]
    cases h : Nat.beq k i with
    | true =>
      have := Nat.eq_of_beq_eq_true h
      subst this
      rw [cond_true, lookB_dropHp k r j, lookB_cons]
      by_cases e : k = j <;> simp [e]
    | false =>
      have hne : k ≠ i := by intro e; subst e; simp at h
      rw [cond_false, lookB_cons, lookB_cons, lookB_dropHp i r j]
      by_cases e : k = j
      · subst e; simp [Ne.symm hne]
      · simp [e]
def mapB (f : AV → AV) : Blk → Blk
  | .box l => .box (l.map f)
  | b => b
theorem lookB_mapHp (f : AV → AV) : ∀ (l : Hp) (j : Nat), lookB (mapHp f l) j = (lookB l j).map (mapB f)
  | [], j => by simp [mapHp, lookB, look]
  | (k, b) :: r, j => by
    have : mapHp f ((k, b) :: r) = (k, b.map (mapB f)) :: mapHp f r := by
      cases b with
      | none => rfl
      | some b => cases b <;> rfl
    rw [this, lookB_cons, lookB_cons, lookB_mapHp f r j]
    by_cases e : k = j <;> simp [e]

def St.frz (σ : St) (i : Nat) : St :=
  let h' := dropHp i σ.hp
  { sl := mapSl (cvA σ.hp h') σ.sl, nx := σ.nx, hp := mapHp (cvA σ.hp h') h' }

theorem cvRow_congr {h h1 h2 : Hp} (e : ∀ j, (lookB h2 j) = (lookB h1 j).map (mapB (cvA h h1))) (i v len : Nat) : cvRow h h2 i v len = cvRow h h1 i v len := by
  unfold cvRow
  rw [e i]
  cases lookB h1 i with
  | none => rfl
  | some b => cases b <;> rfl
theorem cvElt_congr {h h1 h2 : Hp} (e : ∀ j, (lookB h2 j) = (lookB h1 j).map (mapB (cvA h h1))) (i v k off : Nat) : cvElt h h2 i v k off = cvElt h h1 i v k off := by
  unfold cvElt
  rw [e i]
  cases lookB h1 i with
  | none => rfl
  | some b => cases b <;> rfl
theorem cvRef_congr {h h1 h2 : Hp} (e : ∀ j, (lookB h2 j) = (lookB h1 j).map (mapB (cvA h h1))) (i off : Nat) : cvRef h h2 i off = cvRef h h1 i off := by
  unfold cvRef
  rw [e i]
  cases lookB h1 i with
  | none => rfl
  | some b => cases b <;> rfl
mutual
theorem cvA_congr {h h1 h2 : Hp} (e : ∀ j, (lookB h2 j) = (lookB h1 j).map (mapB (cvA h h1))) : ∀ a, cvA h h2 a = cvA h h1 a
  | .row i v len => by simp only [cvA]; exact cvRow_congr e i v len
  | .elt i v k off => by simp only [cvA]; exact cvElt_congr e i v k off
  | .ref i off => by simp only [cvA]; exact cvRef_congr e i off
  | .agg l => by simp only [cvA]; rw [cvL_congr e l]
  | .tup l => by simp only [cvA]; rw [cvL_congr e l]
  | .any => rfl
  | .v _ => rfl
  | .str _ => rfl
  | .iptr _ => rfl
  | .sl _ _ => rfl
  | .mp _ => rfl
  | .fn _ _ => rfl
theorem cvL_congr {h h1 h2 : Hp} (e : ∀ j, (lookB h2 j) = (lookB h1 j).map (mapB (cvA h h1))) : ∀ l, cvL h h2 l = cvL h h1 l
  | [] => rfl
  | x :: r => by simp only [cvL]; rw [cvA_congr e x, cvL_congr e r]
end

theorem le_frz {E : Env} {n : Nat} {σ : St} (i : Nat) : St.le E n σ (σ.frz i) := by
  rintro a w ⟨θ, h⟩
  have e : ∀ j, lookB (σ.frz i).hp j = (lookB (dropHp i σ.hp) j).map (mapB (cvA σ.hp (dropHp i σ.hp))) := fun j => lookB_mapHp _ _ _
  refine ⟨θ, h.cv h.base.1 (fun s x' hx => ?_) (fun j b' hj => ?_)⟩
  · have hx' : (look σ.sl s).map (cvA σ.hp (dropHp i σ.hp)) = some x' := by rw [← look_mapSl]; exact hx
    rw [Option.map_eq_some_iff] at hx'
    obtain ⟨x, h1, h2⟩ := hx'
    exact ⟨x, h1, by rw [cvA_congr e]; exact h2, .inl (Nat.le_refl _)⟩
  · refine ⟨.inl (Nat.le_refl _), ?_⟩
    rw [e j, Option.map_eq_some_iff] at hj
    obtain ⟨b, hb, rfl⟩ := hj
    rw [lookB_dropHp] at hb
    split at hb
    · cases hb
    · refine ⟨b, hb, ?_, .inl (Nat.le_refl _)⟩
      cases b with
      | box l => simp only [cvB, mapB, cvL_congr e, cvL_map]
      | row e sz v l => exact ⟨v, rfl⟩
      | map m => rfl

/-! ### Memory of one's own that is lent to a call -/
def dropL : List Nat → Hp → Hp
  | [], h => h
  | i :: r, h => dropL r (dropHp i h)
theorem lookB_dropL : ∀ (is : List Nat) (h : Hp) (j : Nat), lookB (dropL is h) j = none ∨ lookB (dropL is h) j = lookB h j
  | [], h, j => .inr rfl
  | i :: r, h, j => by
    rcases lookB_dropL r (dropHp i h) j with e | e
    · exact .inl e
    · rw [dropL, e, lookB_dropHp]
      by_cases hij : i = j
      · exact .inl (by rw [if_pos hij])
      · exact .inr (by rw [if_neg hij])
mutual
/-- Nothing in it points into memory. -/
def flatB : AV → Bool
  | .v _ | .str _ => true
  | .agg l | .tup l => flatLB l
  | .sl _ [] => true
  | _ => false
def flatLB : List AV → Bool
  | [] => true
  | x :: r => flatB x && flatLB r
end
theorem flatLB_mem : ∀ {l : List AV}, flatLB l = true → ∀ x ∈ l, flatB x = true
  | [], _, x, hx => by cases hx
  | y :: r, h, x, hx => by
    simp only [flatLB, Bool.and_eq_true] at h
    rcases List.mem_cons.1 hx with rfl | hx
    · exact h.1
    · exact flatLB_mem h.2 x hx
theorem flat_im {U U' : Nat → Prop} {w : World} {a : AV} {v : Value} (h : Im U w a v) : flatB a = true → Im U' w a v := by
  induction h with
  | v x => intro _; exact .v x
  | str l => intro _; exact .str l
  | agg l cs hl h ih => intro hf; exact .agg l cs hl fun j x c hx hc => ih j x c hx hc (flatLB_mem (by simpa [flatB] using hf) x (List.mem_of_getElem? hx))
  | tup l cs hl h ih => intro hf; exact .tup l cs hl fun j x c hx hc => ih j x c hx hc (flatLB_mem (by simpa [flatB] using hf) x (List.mem_of_getElem? hx))
  | fn f l cs hl h ih => intro hf; cases hf
  | iptr l a f hu hc h ih => intro hf; cases hf
  | slnil sz => intro _; exact .slnil sz
  | sl sz l a cap f hcap hm hu hsz hc h ih =>
    intro hf
    cases l with
    | nil => exact .sl sz [] a cap f hcap hm (fun h => absurd rfl h) hsz hc (fun i e he => by simp at he)
    | cons x r => cases hf

theorem q_lend {P : Program} {E : Env} {nx : Nat} {hp : Hp} {ev : Operand → Option AV} {ty : TypeId} {f : Nat} {xs : List Operand} {args caps L : List AV} {r : AV} {ts : Array TypeId} {g : Operand} (is : List Nat) (hc : FCall P f (L ++ caps) r) (ha : evL ev xs = some args)
    (hL : cvL hp (dropL is hp) args = L) (hcl : closedLB L = true) (hfl : flatB r = true)
    (hg : ∀ θ a w, EvT E θ nx hp ev a w → ∃ cs : List Value, a.eval g = .func (.func f) #[] cs.toArray ∧ caps.length = cs.length ∧ ∀ (j : Nat) x c, caps[j]? = some x → cs[j]? = some c → Im (kx E θ nx hp w).U w x c) :
    QOp P E nx hp ev (.call ⟨.value g, xs.toArray, ts⟩) ty r := by
  intro d pos after θ a w K hs hk
  obtain ⟨hl, hr⟩ := evL_spec hs xs args ha
  obtain ⟨cs, hge, hcl2, hcr⟩ := hg θ a w hs
  unfold VWp
  rw [run_call hc.1 hge]
  let h' := dropL is hp
  let H := mapHp (cvA hp h') h'
  have e : ∀ j, lookB H j = (lookB h' j).map (mapB (cvA hp h')) := fun j => lookB_mapHp _ _ _
  have sub : (kx E θ nx hp w).sub (kx E θ nx H w) := ⟨rfl, rfl, fun _ h => h, fun j b' hj => by
    have hj' : lookB H j = some b' := hj
    rw [e j, Option.map_eq_some_iff] at hj'
    obtain ⟨b, hb, rfl⟩ := hj'
    rcases lookB_dropL is hp j with h | h
    · have hb' : lookB (dropL is hp) j = some b := hb
      rw [h] at hb'; cases hb'
    · have hb' : lookB (dropL is hp) j = some b := hb
      rw [h] at hb'
      refine ⟨b, hb', ?_⟩
      cases b with
      | box l => simp only [cvB, mapB, kx, cvL_congr e, cvL_map]
      | row e sz v l => exact ⟨v, rfl⟩
      | map m => rfl, hs.apart, hs.fresh, fun i b hi => (hs.owns i b hi).2⟩
  have hX := hc.2 (kx E θ nx H w).U w (xs.map a.eval ++ cs) (fun k hk => hs.Ult k (sub.U k hk)) (by simp only [List.length_append, ← hL, cvL_map, List.length_map, hl, hcl2]) fun j av v hj hv => by
    have hLl : L.length = xs.length := by rw [← hL, cvL_map, List.length_map, hl]
    rw [List.getElem?_append] at hj hv
    have e1 : (xs.map a.eval).length = L.length := by simp [hLl]
    rw [e1] at hv
    split at hj
    · rename_i hlt
      rw [if_pos hlt] at hv
      have hcv := closedLB_spec hcl av (List.mem_of_getElem? hj)
      rw [← hL, cvL_map, List.getElem?_map, Option.map_eq_some_iff] at hj
      obtain ⟨a0, ha0, rfl⟩ := hj
      have h1 := cv_rel sub (hr j a0 v ha0 hv) (.inl (Nat.le_refl _))
      have h2 : cvA (kx E θ nx hp w).hp (kx E θ nx H w).hp a0 = cvA hp (dropL is hp) a0 := cvA_congr (h := hp) (h1 := h') (h2 := H) e a0
      rw [h2] at h1
      exact hcv.im h1
    · rename_i hlt
      rw [if_neg hlt] at hv
      exact sub.im (hcr _ av v hj hv)
  rw [← List.append_toArray] at hX
  refine Calls.mono hX ?_
  rintro e w' ⟨v, rfl, hv, hb⟩
  exact ⟨v, rfl, hk v w' hb (.im (flat_im hv hfl))⟩
end Go.Av

/- A small program logic over the kit's walk: abstract values, owned blocks, and rules for the code. -/
import Derived.WalkKit
import Derived.WalkSpells
import Derived.WalkLawsBesides
import Derived.Lib.Hide
import Derived.Deep.LoopGhost
namespace Go.Av
open Go Go.RowKit
set_option linter.unusedSimpArgs false
set_option linter.unusedVariables false
set_option linter.unnecessarySimpa false

/-! ### Abstract values -/
inductive AV where
  | any
  | v (x : Value)
  | str (l : List UInt8)
  | agg (l : List AV)
  | tup (l : List AV)
  | ref (i off : Nat)
  | iptr (l : List AV)
  | sl (sz : Nat) (l : List (List AV))
  | row (i ver len : Nat)
  | mp (i : Nat)
  | elt (i ver k off : Nat)
  | fn (f : Nat) (caps : List AV)
instance : Inhabited AV := ⟨.any⟩

/-- A key of a map. -/
inductive Key where
  | s (l : List UInt8)
  | i (k : IntKind) (n : Int)
deriving DecidableEq
def Key.val : Key → Value
  | .s l => .string ⟨l.toArray⟩
  | .i k n => .int k n

inductive Blk where
  | box (l : List AV)
  | row (e sz ver : Nat) (l : List (List AV))
  | map (m : List (Key × AV))

def look {α : Type} : List (Nat × α) → Nat → Option α
  | [], _ => none
  | (k, x) :: r, n => cond (Nat.beq k n) (some x) (look r n)

theorem look_cons {α : Type} (k : Nat) (x : α) (r : List (Nat × α)) (n : Nat) : look ((k, x) :: r) n = if k = n then some x else look r n := by
  by_cases h : k = n
  · subst h; simp [look]
  · have : Nat.beq k n = false := by
      cases hb : Nat.beq k n
      · rfl
      · exact absurd (Nat.eq_of_beq_eq_true hb) h
    simp [look, this, h]

abbrev Hp := List (Nat × Option Blk)
def lookB (hp : Hp) (i : Nat) : Option Blk :=
  match look hp i with
  | some (some b) => some b
  | _ => none

theorem lookB_cons (k : Nat) (x : Option Blk) (r : Hp) (n : Nat) : lookB ((k, x) :: r) n = if k = n then x else lookB r n := by
  unfold lookB
  rw [look_cons]
  by_cases h : k = n <;> simp [h]
  cases x <;> rfl

structure Cx where
  θ : Nat → Value
  nx : Nat
  hp : Hp
  X : Nat → Prop
  w : World

def fp : Value → Option Nat
  | .pointer (some a) => some a.block
  | .slice (some a) _ _ => some a.block
  | .map (some r) => some r
  | _ => none

def Cx.own (c : Cx) (k : Nat) : Prop := ∃ i b, lookB c.hp i = some b ∧ fp (c.θ i) = some k
def Cx.U (c : Cx) (k : Nat) : Prop := c.X k ∨ c.own k

/-- A value in memory that nobody writes any more reads as an abstract value. -/
inductive Im (U : Nat → Prop) (w : World) : AV → Value → Prop
  | v (x : Value) : Im U w (.v x) x
  | str (l : List UInt8) : Im U w (.str l) (.string ⟨l.toArray⟩)
  | agg (l : List AV) (cs : List Value) (hl : l.length = cs.length) (h : ∀ (j : Nat) x c, l[j]? = some x → cs[j]? = some c → Im U w x c) : Im U w (.agg l) (.agg cs.toArray)
  | tup (l : List AV) (cs : List Value) (hl : l.length = cs.length) (h : ∀ (j : Nat) x c, l[j]? = some x → cs[j]? = some c → Im U w x c) : Im U w (.tup l) (.tuple cs.toArray)
  | fn (f : Nat) (l : List AV) (cs : List Value) (hl : l.length = cs.length) (h : ∀ (j : Nat) x c, l[j]? = some x → cs[j]? = some c → Im U w x c) : Im U w (.fn f l) (.func (.func f) #[] cs.toArray)
  | iptr (l : List AV) (a : Addr) (f : Nat → Value) (hu : l ≠ [] → ¬ U a.block) (hc : ∀ j, j < l.length → w.cell? (a.add j) = some (f j))
      (h : ∀ (j : Nat) x, l[j]? = some x → Im U w x (f j)) : Im U w (.iptr l) (.pointer (some a))
  | slnil (sz : Nat) : Im U w (.sl sz []) (.slice none 0 0)
  | sl (sz : Nat) (l : List (List AV)) (a : Addr) (cap : Nat) (f : Nat → Nat → Value) (hcap : l.length ≤ cap) (hm : cap ≤ maxLen) (hu : l ≠ [] → 0 < sz → ¬ U a.block)
      (hsz : ∀ e ∈ l, e.length = sz) (hc : ∀ i, i < l.length → ∀ j, j < sz → w.cell? (a.add (i * sz + j)) = some (f i j))
      (h : ∀ (i : Nat) e, l[i]? = some e → ∀ (j : Nat) x, e[j]? = some x → Im U w x (f i j)) : Im U w (.sl sz l) (.slice (some a) l.length cap)

inductive Rel (c : Cx) : AV → Value → Prop
  | any (x : Value) : Rel c .any x
  | im {a : AV} {x : Value} (h : Im c.U c.w a x) : Rel c a x
  | agg (l : List AV) (cs : List Value) (hl : l.length = cs.length) (h : ∀ (j : Nat) x y, l[j]? = some x → cs[j]? = some y → Rel c x y) : Rel c (.agg l) (.agg cs.toArray)
  | tup (l : List AV) (cs : List Value) (hl : l.length = cs.length) (h : ∀ (j : Nat) x y, l[j]? = some x → cs[j]? = some y → Rel c x y) : Rel c (.tup l) (.tuple cs.toArray)
  | ref (i off b : Nat) (hi : i < c.nx) (hθ : c.θ i = .pointer (some ⟨b, 0, none⟩)) : Rel c (.ref i off) (.pointer (some ⟨b, off, none⟩))
  | row (i ver len : Nat) (x : Value) (hi : i < c.nx) (h : ∀ e sz v' l, lookB c.hp i = some (.row e sz v' l) → ver ≤ v' ∧ (ver = v' → l.length = len ∧ x = c.θ i)) : Rel c (.row i ver len) x
  | mp (i : Nat) (r : Option Nat) (hi : i < c.nx) (hθ : c.θ i = .map r) : Rel c (.mp i) (.map r)
  | elt (i ver k off : Nat) (x : Value) (hi : i < c.nx) (h : ∀ e sz v' l, lookB c.hp i = some (.row e sz v' l) → ver ≤ v' ∧ (ver = v' → ∃ g n cap, c.θ i = .slice (some ⟨g, 0, none⟩) n cap ∧ x = .pointer (some ⟨g, k * sz + off, none⟩))) : Rel c (.elt i ver k off) x

def OwnOk (c : Cx) (i : Nat) : Blk → Prop
  | .box l => ∃ b arr ty, c.θ i = .pointer (some ⟨b, 0, none⟩) ∧ c.w.heap[b]? = some (.cells arr ty (0, 0)) ∧ arr.size = l.length ∧
      ∀ (j : Nat) x y, l[j]? = some x → arr[j]? = some y → Rel c x y
  | .row e sz _ l => ∃ xs : List Value, c.w.ownsRow 0 e sz (c.θ i) l.length xs ∧ (∀ el ∈ l, el.length = sz) ∧
      ∀ (k : Nat) el, l[k]? = some el → ∀ (j : Nat) x, el[j]? = some x → ∃ y, xs[k * sz + j]? = some y ∧ Im c.U c.w x y
  | .map m => ∃ r es clock, c.θ i = .map (some r) ∧ c.w.heap[r]? = some (.map es clock) ∧ es.size = m.length ∧
      ∀ (j : Nat) (kx : Key × AV) e, m[j]? = some kx → es[j]? = some e → e.key = kx.1.val ∧ Im c.U c.w kx.2 e.val

structure Cx.le (c c' : Cx) : Prop where
  nx : c.nx ≤ c'.nx
  θ : ∀ i, i < c.nx → c'.θ i = c.θ i ∨ ∃ a n k, c.θ i = .slice a n k
  rows : ∀ i, i < c.nx → ∀ e' sz' v' l', lookB c'.hp i = some (.row e' sz' v' l') → ∃ e v l, lookB c.hp i = some (.row e sz' v l) ∧ (v < v' ∨ (v = v' ∧ l.length = l'.length ∧ c'.θ i = c.θ i))
  size : c.w.heap.size ≤ c'.w.heap.size
  heap : ∀ k, k < c.w.heap.size → ¬ c.U k → c'.w.heap[k]? = c.w.heap[k]?
  U : ∀ k, k < c.w.heap.size → c'.U k → c.U k

theorem block_lt {w : World} {a : Addr} {v : Value} (h : w.cell? a = some v) : a.block < w.heap.size := World.block_lt_of_cell? w a h

theorem add_block (a : Addr) (n : Nat) : (a.add n).block = a.block := by unfold Addr.add; split <;> rfl

theorem Im.mono {U U' : Nat → Prop} {w w' : World} (hh : ∀ k, k < w.heap.size → ¬ U k → w'.heap[k]? = w.heap[k]?) (hU : ∀ k, k < w.heap.size → U' k → U k)
    {a : AV} {x : Value} (h : Im U w a x) : Im U' w' a x := by
  have cellEq : ∀ {p : Addr} {y : Value}, ¬ U p.block → w.cell? p = some y → w'.cell? p = some y := by
    intro p y hn hc
    rw [← hc]
    exact World.cell?_of_block (hh _ (block_lt hc) hn)
  induction h with
  | v x => exact .v x
  | str l => exact .str l
  | agg l cs hl h ih => exact .agg l cs hl ih
  | tup l cs hl h ih => exact .tup l cs hl ih
  | fn f l cs hl h ih => exact .fn f l cs hl ih
  | iptr l a f hu hc h ih =>
    refine .iptr l a f (fun hne hu' => hu hne (hU _ ?_ hu')) (fun j hj => cellEq ?_ (hc j hj)) ih
    · have := hc 0 (List.length_pos_iff.2 hne)
      simpa [add_block] using block_lt this
    · rw [add_block]; exact hu (by intro e; simp [e] at hj)
  | slnil sz => exact .slnil sz
  | sl sz l a cap f hcap hm hu hsz hc h ih =>
    refine .sl sz l a cap f hcap hm (fun hne hs hu' => hu hne hs (hU _ ?_ hu')) hsz (fun i hi j hj => cellEq ?_ (hc i hi j hj)) ih
    · have := hc 0 (List.length_pos_iff.2 hne) 0 hs
      simpa [add_block] using block_lt this
    · rw [add_block]; exact hu (by intro e; simp [e] at hi) (by omega)

theorem Rel.mono {c c' : Cx} (h : c.le c') {a : AV} {x : Value} (r : Rel c a x) : Rel c' a x := by
  induction r with
  | any x => exact .any x
  | im hi => exact .im (hi.mono h.heap h.U)
  | agg l cs hl _ ih => exact .agg l cs hl ih
  | tup l cs hl _ ih => exact .tup l cs hl ih
  | ref i off b hi hθ =>
    refine .ref i off b (Nat.lt_of_lt_of_le hi h.nx) ?_
    rcases h.θ i hi with e | ⟨a, n, k, e⟩
    · rw [e, hθ]
    · rw [hθ] at e; cases e
  | row i ver len x hi hr =>
    refine .row i ver len x (Nat.lt_of_lt_of_le hi h.nx) fun e' sz' v' l' hl' => ?_
    obtain ⟨e, v, l, hl, hv⟩ := h.rows i hi e' sz' v' l' hl'
    obtain ⟨h1, h2⟩ := hr e sz' v l hl
    rcases hv with hv | ⟨rfl, hlen, ht⟩
    · exact ⟨by omega, fun e => by omega⟩
    · exact ⟨h1, fun e => ⟨hlen ▸ (h2 e).1, by rw [ht]; exact (h2 e).2⟩⟩
  | elt i ver k off x hi hr =>
    refine .elt i ver k off x (Nat.lt_of_lt_of_le hi h.nx) fun e' sz' v' l' hl' => ?_
    obtain ⟨e, v, l, hl, hv⟩ := h.rows i hi e' sz' v' l' hl'
    obtain ⟨h1, h2⟩ := hr e sz' v l hl
    rcases hv with hv | ⟨rfl, hlen, ht⟩
    · exact ⟨by omega, fun e => by omega⟩
    · exact ⟨h1, fun e => by rw [ht]; exact h2 e⟩
  | mp i r hi hθ =>
    refine .mp i r (Nat.lt_of_lt_of_le hi h.nx) ?_
    rcases h.θ i hi with e | ⟨a, n, k, e⟩
    · rw [e, hθ]
    · rw [hθ] at e; cases e

theorem ownsRow_lt {w : World} {base e size n : Nat} {v : Value} {xs : List Value} (h : w.ownsRow base e size v n xs) {k : Nat} (hk : fp v = some k) : k < w.heap.size := by
  refine (h.lt k ?_).2
  rcases h.2 with ⟨rfl, _⟩ | ⟨g, cap, cur, rfl, _⟩
  · simp [fp] at hk
  · simpa [fp, Value.ownBlock] using hk

theorem OwnOk.lt {c : Cx} {i : Nat} {b : Blk} (h : OwnOk c i b) {k : Nat} (hk : fp (c.θ i) = some k) : k < c.w.heap.size := by
  cases b with
  | box l =>
    obtain ⟨b, arr, ty, hθ, hb, _⟩ := h
    rw [hθ] at hk
    simp [fp] at hk
    subst hk
    exact (Array.getElem?_eq_some_iff.1 hb).1
  | row e sz ver l =>
    obtain ⟨xs, ho, _⟩ := h
    exact ownsRow_lt ho hk
  | map m =>
    obtain ⟨r, es, clock, hθ, hr, _⟩ := h
    rw [hθ] at hk
    simp [fp] at hk
    subst hk
    exact (Array.getElem?_eq_some_iff.1 hr).1

/-- What is owned stays owned where its block and its place's name have not turned. -/
theorem OwnOk.mono {c c' : Cx} (h : c.le c') {i : Nat} {b : Blk} (o : OwnOk c i b) (hθ : c'.θ i = c.θ i) (hb : ∀ k, fp (c.θ i) = some k → c'.w.heap[k]? = c.w.heap[k]?) : OwnOk c' i b := by
  cases b with
  | box l =>
    obtain ⟨b, arr, ty, h1, h2, h3, h4⟩ := o
    exact ⟨b, arr, ty, by rw [hθ, h1], by rw [hb b (by simp [h1, fp]), h2], h3, fun j x y hx hy => (h4 j x y hx hy).mono h⟩
  | row e sz ver l =>
    obtain ⟨xs, h1, h2, h3⟩ := o
    refine ⟨xs, ?_, h2, fun k el hk j x hx => ?_⟩
    · rw [hθ]
      refine ⟨h1.1, ?_⟩
      rcases h1.2 with hn | ⟨g, cap, cur, hv, hg, hh, r⟩
      · exact .inl hn
      · exact .inr ⟨g, cap, cur, hv, hg, by rw [hb g (by simp [hv, fp]), hh], r⟩
    · obtain ⟨y, hy, hi⟩ := h3 k el hk j x hx
      exact ⟨y, hy, hi.mono h.heap h.U⟩
  | map m =>
    obtain ⟨r, es, clock, h1, h2, h3, h4⟩ := o
    exact ⟨r, es, clock, by rw [hθ, h1], by rw [hb r (by simp [h1, fp]), h2], h3, fun j kx e hx he => ⟨(h4 j kx e hx he).1, (h4 j kx e hx he).2.mono h.heap h.U⟩⟩

/-! ### States -/
structure St where
  sl : List (Nat × AV)
  nx : Nat
  hp : Hp

/-- What does not turn while a function runs: the world at its beginning, the blocks that are others', the blocks that it may write. -/
structure Env where
  w0 : World
  X : Nat → Prop
  O : Nat → Prop
  θ0 : Nat → Value
  n0 : Nat

structure Fr (E : Env) (w : World) : Prop where
  os : w.os = E.w0.os
  tape : w.tape = E.w0.tape
  output : w.output = E.w0.output
  size : E.w0.heap.size ≤ w.heap.size
  block : ∀ k, k < E.w0.heap.size → ¬ E.O k → w.heap[k]? = E.w0.heap[k]?

def cx (E : Env) (θ : Nat → Value) (σ : St) (w : World) : Cx := { θ := θ, nx := σ.nx, hp := σ.hp, X := E.X, w := w }

structure SatT (E : Env) (n : Nat) (θ : Nat → Value) (σ : St) (a : Act) (w : World) : Prop where
  size : a.tmps.size = n
  defers : a.defers = []
  fr : Fr E w
  slots : ∀ s x, look σ.sl s = some x → Rel (cx E θ σ w) x (a.tmps.getD s undef)
  owns : ∀ i b, lookB σ.hp i = some b → i < σ.nx ∧ OwnOk (cx E θ σ w) i b
  apart : ∀ i j b b' k, lookB σ.hp i = some b → lookB σ.hp j = some b' → fp (θ i) = some k → fp (θ j) = some k → i = j
  mine : ∀ i b k, lookB σ.hp i = some b → fp (θ i) = some k → ¬ E.X k ∧ (E.O k ∨ E.w0.heap.size ≤ k)
  X : ∀ k, E.X k → k < E.w0.heap.size
  base : E.n0 ≤ σ.nx ∧ ∀ i, i < E.n0 → θ i = E.θ0 i ∨ ∃ x n k, E.θ0 i = .slice x n k

def Sat (E : Env) (n : Nat) (σ : St) (a : Act) (w : World) : Prop := ∃ θ, SatT E n θ σ a w

/-- A constant as an abstract value. -/
def ofV : Value → AV
  | .string s => .str s.data.toList
  | x => .v x
theorem ofV_im {U : Nat → Prop} {w : World} (x : Value) : Im U w (ofV x) x := by
  cases x with
  | string s => exact (by cases s; exact .str _)
  | _ => exact .v _

def evO (σ : St) : Operand → Option AV
  | .tmp t => look σ.sl t
  | .const c => some (ofV c)
  | .global g => some (.v (.pointer (some ⟨g, 0, none⟩)))
  | .func f => some (.v (.func (.func f) #[] #[]))

theorem SatT.ev {E : Env} {n : Nat} {θ : Nat → Value} {σ : St} {a : Act} {w : World} (h : SatT E n θ σ a w) {x : Operand} {av : AV} (hx : evO σ x = some av) : Rel (cx E θ σ w) av (a.eval x) := by
  cases x with
  | tmp t => exact h.slots t av hx
  | const c => simp [evO] at hx; subst hx; exact .im (ofV_im c)
  | global g => simp [evO] at hx; subst hx; exact .im (.v _)
  | func f => simp [evO] at hx; subst hx; exact .im (.v _)

theorem Rel.val {c : Cx} {x y : Value} (h : Rel c (.v x) y) : y = x := by
  cases h with
  | im h => cases h; rfl

theorem Rel.sval {c : Cx} {l : List UInt8} {y : Value} (h : Rel c (.str l) y) : y = .string ⟨l.toArray⟩ := by
  cases h with
  | im h => cases h; rfl

def St.put (σ : St) (d : Nat) (x : AV) : St := { σ with sl := (d, x) :: σ.sl }

theorem SatT.put {E : Env} {n : Nat} {θ : Nat → Value} {σ : St} {a : Act} {w : World} (h : SatT E n θ σ a w) {d : Nat} (hd : d < n) {x : AV} {v : Value} (hr : Rel (cx E θ σ w) x v) :
    SatT E n θ (σ.put d x) (a.put (some d) v) w where
  size := by simp [Act.put, h.size]
  defers := by simp [Act.put, h.defers]
  fr := h.fr
  slots := by
    intro s y hs
    simp only [St.put, look_cons] at hs
    by_cases e : d = s
    · subst e
      simp at hs
      subst hs
      have : (a.put (some d) v).tmps.getD d undef = v := by simp [Act.put, Array.getD, h.size, hd]
      rw [this]
      exact hr
    · rw [if_neg e] at hs
      have : (a.put (some d) v).tmps.getD s undef = a.tmps.getD s undef := by
        simp [Act.put, Array.getD_eq_getD_getElem?, Array.getElem?_setIfInBounds_ne e]
      rw [this]
      exact h.slots s y hs
  owns := h.owns
  apart := h.apart
  mine := h.mine
  X := h.X
  base := h.base

/-! ### Runs under a state -/
def AOps (P : Program) (E : Env) (n : Nat) (ops : Array Oper) (l : List Oper) (σ : St) (K : St → Prop) : Prop :=
  ∀ a w, Sat E n σ a w → wpList P ops (fun e a' w' => e = .normal ∧ ∃ σ', K σ' ∧ Sat E n σ' a' w') l a w

def AWp (P : Program) (E : Env) (n : Nat) (c : Code) (σ : St) (Q : Exit → St → Prop) : Prop :=
  ∀ a w, Sat E n σ a w → c.wp P (fun e a' w' => ∃ σ', Q e σ' ∧ Sat E n σ' a' w') a w

section rules
variable {P : Program} {E : Env} {n : Nat} {ops : Array Oper} {rest : List Oper} {σ : St} {K : St → Prop} {Q : Exit → St → Prop}

theorem aops_nil (h : K σ) : AOps P E n ops [] σ K := fun _ _ hs => ⟨rfl, σ, h, hs⟩

variable {d : Nat} {ty : TypeId} {pos : String} {after : Array Edge} {x y : Operand}

/-! ### guards -/
theorem aops_guard_yes {op : Op} {j dj dd : Nat} {g : Bool} (hj : (ops[j]?).bind (·.dst) = some dj) (hb : look σ.sl dj = some (.v (.bool g)))
    (k : AOps P E n ops (⟨some dd, op, ty, pos, after, none⟩ :: rest) σ K) : AOps P E n ops (⟨some dd, op, ty, pos, after, some (j, g)⟩ :: rest) σ K := by
  intro a w hs
  have hs0 := hs
  obtain ⟨θ, hs⟩ := hs
  have hv : a.tmps.getD dj undef = .bool g := (hs.slots dj _ hb).val
  have hlt : dj < a.tmps.size := by
    rcases Nat.lt_or_ge dj a.tmps.size with h | h
    · exact h
    · rw [Array.getD_eq_getD_getElem?, Array.getElem?_eq_none h] at hv; cases hv
  have hy : yielded ops a.tmps j = some g := by
    rw [Array.getD_eq_getD_getElem?, Array.getElem?_eq_getElem hlt] at hv
    simp at hv
    simp [yielded, hj, hlt, hv]
  have hh := k a w hs0
  unfold wpList at hh ⊢
  rw [if_pos (by simp [Region.wanted])] at hh
  rw [if_pos (by simp [Region.wanted, hy])]
  exact hh

def notB : Value → Bool → Bool
  | .bool b, g => b != g
  | _, _ => true
theorem aops_guard_no {op : Op} {j dj dd : Nat} {g : Bool} {u : Value} (hj : (ops[j]?).bind (·.dst) = some dj) (hb : look σ.sl dj = some (.v u)) (hu' : notB u g = true) (hdd : Nat.blt dd n = true)
    (k : AOps P E n ops rest (σ.put dd (.v undef)) K) : AOps P E n ops (⟨some dd, op, ty, pos, after, some (j, g)⟩ :: rest) σ K := by
  have hu : u ≠ .bool g := by rintro rfl; simp [notB] at hu'
  intro a w hs
  obtain ⟨θ, hs⟩ := hs
  have hv : a.tmps.getD dj undef = u := (hs.slots dj _ hb).val
  have hy : yielded ops a.tmps j ≠ some g := by
    intro e
    simp only [yielded, hj, Option.bind_some] at e
    by_cases hlt : dj < a.tmps.size
    · rw [Array.getD_eq_getD_getElem?, Array.getElem?_eq_getElem hlt] at hv
      simp at hv
      rw [Array.getElem?_eq_getElem hlt] at e
      rw [hv] at e
      split at e
      · rename_i b hb'
        cases hb'
        cases e
        exact hu rfl
      · cases e
    · rw [Array.getElem?_eq_none (by omega)] at e
      cases e
  unfold wpList
  have hw : ¬ Region.wanted (⟨some dd, op, ty, pos, after, some (j, g)⟩ : Oper) (yielded ops a.tmps) = true := by simpa [Region.wanted] using hy
  rw [if_neg hw]
  exact k _ _ ⟨θ, hs.put (Nat.blt_eq ▸ hdd) (.im (.v _))⟩

/-- A slot whose truth is known is written anew. -/
theorem aops_known {l : List Oper} {dj : Nat} {b c : Bool} (hb : look σ.sl dj = some (.v (.bool b))) (h : b = c) (k : AOps P E n ops l (σ.put dj (.v (.bool c))) K) : AOps P E n ops l σ K := by
  intro a w ⟨θ, hs⟩
  subst h
  refine k a w ⟨θ, hs.size, hs.defers, hs.fr, fun s x hx => ?_, hs.owns, hs.apart, hs.mine, hs.X, hs.base⟩
  simp only [St.put, look_cons] at hx
  by_cases e : dj = s
  · subst e
    rw [if_pos rfl] at hx
    cases hx
    exact hs.slots dj _ hb
  · rw [if_neg e] at hx
    exact hs.slots s x hx

theorem aops_guard_b {op : Op} {j dj dd : Nat} {g b : Bool} (hj : (ops[j]?).bind (·.dst) = some dj) (hb : look σ.sl dj = some (.v (.bool b))) (hdd : Nat.blt dd n = true)
    (ht : b = g → AOps P E n ops (⟨some dd, op, ty, pos, after, none⟩ :: rest) (σ.put dj (.v (.bool g))) K)
    (hf : b = !g → AOps P E n ops rest ((σ.put dj (.v (.bool !g))).put dd (.v undef)) K) :
    AOps P E n ops (⟨some dd, op, ty, pos, after, some (j, g)⟩ :: rest) σ K := by
  by_cases h : b = g
  · refine aops_known hb h (aops_guard_yes hj ?_ (ht h))
    simp [St.put, look_cons]
  · have h' : b = !g := by cases b <;> cases g <;> simp_all
    refine aops_known hb h' (aops_guard_no (u := .bool !g) hj ?_ (by cases g <;> rfl) hdd (hf h'))
    simp [St.put, look_cons]

theorem aops_guard_dt {op : Op} {j dj dd : Nat} {p : Prop} [Decidable p] (hj : (ops[j]?).bind (·.dst) = some dj) (hb : look σ.sl dj = some (.v (.bool (decide p)))) (hdd : Nat.blt dd n = true)
    (ht : p → AOps P E n ops (⟨some dd, op, ty, pos, after, none⟩ :: rest) (σ.put dj (.v (.bool true))) K)
    (hf : ¬ p → AOps P E n ops rest ((σ.put dj (.v (.bool false))).put dd (.v undef)) K) :
    AOps P E n ops (⟨some dd, op, ty, pos, after, some (j, true)⟩ :: rest) σ K :=
  aops_guard_b hj hb hdd (fun h => ht (of_decide_eq_true h)) (fun h => hf (of_decide_eq_false h))

theorem aops_guard_df {op : Op} {j dj dd : Nat} {p : Prop} [Decidable p] (hj : (ops[j]?).bind (·.dst) = some dj) (hb : look σ.sl dj = some (.v (.bool (decide p)))) (hdd : Nat.blt dd n = true)
    (ht : ¬ p → AOps P E n ops (⟨some dd, op, ty, pos, after, none⟩ :: rest) (σ.put dj (.v (.bool false))) K)
    (hf : p → AOps P E n ops rest ((σ.put dj (.v (.bool true))).put dd (.v undef)) K) :
    AOps P E n ops (⟨some dd, op, ty, pos, after, some (j, false)⟩ :: rest) σ K :=
  aops_guard_b hj hb hdd (fun h => ht (of_decide_eq_false h)) (fun h => hf (of_decide_eq_true h))

/-! ### Code -/
def thenQ (K : St → Prop) (Q : Exit → St → Prop) : Exit → St → Prop
  | .normal, σ => K σ
  | e, σ => Q e σ
def blockQ (id : Nat) (Q : Exit → St → Prop) : Exit → St → Prop
  | .exit i, σ => cond (Nat.beq i id) (Q .normal σ) (Q (.exit i) σ)
  | e, σ => Q e σ

theorem awp_seq {c1 c2 : Code} (h : AWp P E n c1 σ (thenQ (fun σ' => AWp P E n c2 σ' Q) Q)) : AWp P E n (.seq c1 c2) σ Q := by
  intro a w hs
  refine wp_seq (wp_mono (h a w hs) ?_)
  rintro e a w ⟨σ', hq, hs'⟩
  cases e with
  | normal => exact hq a w hs'
  | _ => exact ⟨σ', hq, hs'⟩

theorem awp_region {id : Nat} {l : List Oper} (hl : ops.toList = l) (h : AOps P E n ops l σ (fun σ' => Q .normal σ')) : AWp P E n (.region id ops false) σ Q := by
  intro a w hs
  subst hl
  have hw := h a w hs
  refine wp_mono (wp_region_list hw) ?_
  rintro e a w ⟨rfl, σ', hq, hs'⟩
  exact ⟨σ', hq, hs'⟩

theorem awp_skip (h : Q .normal σ) : AWp P E n .skip σ Q := fun _ _ hs => wp_skip ⟨σ, h, hs⟩
theorem awp_ret (h : Q .ret σ) : AWp P E n .ret σ Q := fun _ _ hs => wp_ret ⟨σ, h, hs⟩
theorem awp_exit {id : Nat} (h : Q (.exit id) σ) : AWp P E n (.exit id) σ Q := fun _ _ hs => wp_exit ⟨σ, h, hs⟩

theorem awp_block {id : Nat} {c : Code} (h : AWp P E n c σ (blockQ id Q)) : AWp P E n (.block id c) σ Q := by
  intro a w hs
  refine wp_block (wp_mono (h a w hs) ?_)
  rintro e a w ⟨σ', hq, hs'⟩
  cases e with
  | exit i =>
    simp only [Exit.inBlock]
    by_cases hi : i = id
    · subst hi; simp [blockQ] at hq; rw [if_pos rfl]; exact ⟨σ', hq, hs'⟩
    · have : Nat.beq i id = false := by
        cases hb : Nat.beq i id
        · rfl
        · exact absurd (Nat.eq_of_beq_eq_true hb) hi
      simp [blockQ, this] at hq; rw [if_neg hi]; exact ⟨σ', hq, hs'⟩
  | _ => exact ⟨σ', hq, hs'⟩

theorem awp_cond {c : Operand} {t f : Code} {b : Bool} (hc : evO σ c = some (.v (.bool b))) (ht : b = true → AWp P E n t σ Q) (hf : b = false → AWp P E n f σ Q) : AWp P E n (.cond c t f) σ Q := by
  intro a w hs
  have hs0 := hs
  obtain ⟨θ, hs⟩ := hs
  exact wp_cond_split (hs.ev hc).val (fun e => ht e a w hs0) (fun e => hf e a w hs0)
theorem awp_cond_t {c : Operand} {t f : Code} (hc : evO σ c = some (.v (.bool true))) (ht : AWp P E n t σ Q) : AWp P E n (.cond c t f) σ Q := awp_cond hc (fun _ => ht) (fun e => by cases e)
theorem awp_cond_f {c : Operand} {t f : Code} (hc : evO σ c = some (.v (.bool false))) (hf : AWp P E n f σ Q) : AWp P E n (.cond c t f) σ Q := awp_cond hc (fun e => by cases e) (fun _ => hf)
theorem awp_cond_d {c : Operand} {t f : Code} {p : Prop} [Decidable p] (hc : evO σ c = some (.v (.bool (decide p)))) (ht : p → AWp P E n t σ Q) (hf : ¬ p → AWp P E n f σ Q) : AWp P E n (.cond c t f) σ Q :=
  awp_cond hc (fun e => ht (of_decide_eq_true e)) (fun e => hf (of_decide_eq_false e))

theorem awp_known {c : Code} {dj : Nat} {b b' : Bool} (hb : look σ.sl dj = some (.v (.bool b))) (h : b = b') (k : AWp P E n c (σ.put dj (.v (.bool b'))) Q) : AWp P E n c σ Q := by
  intro a w ⟨θ, hs⟩
  subst h
  refine k a w ⟨θ, hs.size, hs.defers, hs.fr, fun s x hx => ?_, hs.owns, hs.apart, hs.mine, hs.X, hs.base⟩
  simp only [St.put, look_cons] at hx
  by_cases e : dj = s
  · subst e
    rw [if_pos rfl] at hx
    cases hx
    exact hs.slots dj _ hb
  · rw [if_neg e] at hx
    exact hs.slots s x hx
theorem awp_cond_p {t f : Code} {tc : Nat} {p : Prop} [Decidable p] (hc : look σ.sl tc = some (.v (.bool (decide p)))) (ht : p → AWp P E n t (σ.put tc (.v (.bool true))) Q) (hf : ¬ p → AWp P E n f (σ.put tc (.v (.bool false))) Q) : AWp P E n (.cond (.tmp tc) t f) σ Q :=
  awp_cond (c := .tmp tc) hc (fun e => awp_known hc e (ht (of_decide_eq_true e))) (fun e => awp_known hc e (hf (of_decide_eq_false e)))
theorem awp_cond_b {t f : Code} {tc : Nat} {b : Bool} (hc : look σ.sl tc = some (.v (.bool b))) (ht : b = true → AWp P E n t (σ.put tc (.v (.bool true))) Q) (hf : b = false → AWp P E n f (σ.put tc (.v (.bool false))) Q) : AWp P E n (.cond (.tmp tc) t f) σ Q :=
  awp_cond (c := .tmp tc) hc (fun e => awp_known hc e (ht e)) (fun e => awp_known hc e (hf e))

theorem bq_exit {id : Nat} (h : Q .normal σ) : blockQ id Q (.exit id) σ := by simp [blockQ]; exact h
theorem bq_other {id i : Nat} (hi : Nat.beq i id = false) (h : Q (.exit i) σ) : blockQ id Q (.exit i) σ := by simp only [blockQ, hi]; exact h
theorem bq_norm {id : Nat} (h : Q .normal σ) : blockQ id Q .normal σ := h
theorem bq_ret {id : Nat} (h : Q .ret σ) : blockQ id Q .ret σ := h
theorem tq_exit {i : Nat} {K : St → Prop} (h : Q (.exit i) σ) : thenQ K Q (.exit i) σ := h
theorem tq_ret {K : St → Prop} (h : Q .ret σ) : thenQ K Q .ret σ := h
theorem tq_norm {K : St → Prop} (h : K σ) : thenQ K Q .normal σ := h

/-- The second state says no more than the first one. -/
def St.le (E : Env) (n : Nat) (σ σ' : St) : Prop := ∀ a w, Sat E n σ a w → Sat E n σ' a w
theorem awp_weaken {c : Code} {σ' : St} (h : St.le E n σ σ') (k : AWp P E n c σ' Q) : AWp P E n c σ Q := fun a w hs => k a w (h a w hs)

theorem awp_loop {ι : Type} {c : Code} (S : ι → St) (I : ι → Prop) (m : ι → Nat) (x0 : ι) (hI : I x0) (h0 : St.le E n σ (S x0))
    (h : ∀ x, I x → AWp P E n c (S x) (thenQ (fun σ' => ∃ y, I y ∧ m y < m x ∧ St.le E n σ' (S y)) Q)) : AWp P E n (.loop c) σ Q := by
  intro a w hs
  refine wp_loop_ghost (fun k a w => ∃ x, m x = k ∧ I x ∧ Sat E n (S x) a w) (m x0) ⟨x0, rfl, hI, h0 a w hs⟩ ?_
  rintro k a w ⟨x, rfl, hIx, hx⟩
  refine wp_mono (h x hIx a w hx) ?_
  rintro e a w ⟨σ', hq, hs'⟩
  cases e with
  | normal =>
    obtain ⟨y, hIy, hy, hle⟩ := hq
    exact ⟨m y, hy, y, rfl, hIy, hle a w hs'⟩
  | _ => exact ⟨σ', hq, hs'⟩
end rules

/-! ### Worlds that grow; blocks that turn -/
def upd (θ : Nat → Value) (i : Nat) (v : Value) : Nat → Value := fun j => if j = i then v else θ j
theorem upd_self (θ : Nat → Value) (i : Nat) (v : Value) : upd θ i v i = v := by simp [upd]
theorem upd_other (θ : Nat → Value) {i j : Nat} (v : Value) (h : j ≠ i) : upd θ i v j = θ j := by simp [upd, h]

def St.new (σ : St) (b : Blk) : St := { sl := σ.sl, nx := σ.nx + 1, hp := (σ.nx, some b) :: σ.hp }
def St.set (σ : St) (i : Nat) (b : Blk) : St := { σ with hp := (i, some b) :: σ.hp }

section steps
variable {E : Env} {n : Nat} {θ : Nat → Value} {σ : St} {a : Act} {w w' : World}

theorem Fr.below (h : Fr E w) (hb : Below w.heap.size w w') : Fr E w' :=
  ⟨hb.os.trans h.os, hb.tape.trans h.tape, hb.output.trans h.output, Nat.le_trans h.size hb.size, fun k hk ho => (hb.block k (Nat.lt_of_lt_of_le hk h.size)).trans (h.block k hk ho)⟩

theorem SatT.below (h : SatT E n θ σ a w) (hb : Below w.heap.size w w') : SatT E n θ σ a w' := by
  have le : (cx E θ σ w).le (cx E θ σ w') := ⟨Nat.le_refl _, fun i hi => .inl rfl, fun i hi e' sz' v' l' hl => ⟨e', v', l', hl, .inr ⟨rfl, rfl, rfl⟩⟩, hb.size, fun k hk _ => hb.block k hk, fun k hk hu => hu⟩
  exact ⟨h.size, h.defers, h.fr.below hb, fun s x hs => (h.slots s x hs).mono le, fun i b hi => ⟨(h.owns i b hi).1, (h.owns i b hi).2.mono le rfl fun k hk => hb.block k ((h.owns i b hi).2.lt hk)⟩, h.apart, h.mine, h.X, h.base⟩

theorem SatT.grow (h : SatT E n θ σ a w) (hb : Below w.heap.size w w') (v : Value) (b : Blk) (hf : ∀ k, fp v = some k → w.heap.size ≤ k)
    (ho : (cx E θ σ w).le (cx E (upd θ σ.nx v) (σ.new b) w') → OwnOk (cx E (upd θ σ.nx v) (σ.new b) w') σ.nx b) : SatT E n (upd θ σ.nx v) (σ.new b) a w' := by
  have look' : ∀ i, lookB (σ.new b).hp i = if σ.nx = i then some b else lookB σ.hp i := fun i => by simp [St.new, lookB_cons]
  have le : (cx E θ σ w).le (cx E (upd θ σ.nx v) (σ.new b) w') := by
    refine ⟨Nat.le_succ _, fun i hi => .inl (upd_other _ _ (Nat.ne_of_lt hi)), fun i hi e' sz' v' l' hl => ?_, hb.size, fun k hk _ => hb.block k hk, fun k hk hu => ?_⟩
    · have hi' : i < σ.nx := hi
      refine ⟨e', v', l', ?_, .inr ⟨rfl, rfl, upd_other _ _ (Nat.ne_of_lt hi)⟩⟩
      have := look' i
      rw [if_neg (by omega)] at this
      exact this ▸ hl
    · rcases hu with hu | ⟨i, b', hi, hk'⟩
      · exact .inl hu
      · have hi2 := look' i
        by_cases e : σ.nx = i
        · subst e
          simp only [cx, upd_self] at hk'
          have hk2 : k < w.heap.size := hk
          have := hf k hk'
          omega
        · rw [if_neg e] at hi2
          refine .inr ⟨i, b', hi2 ▸ hi, ?_⟩
          simpa only [cx, upd_other _ _ (Ne.symm e)] using hk'
  refine ⟨h.size, h.defers, h.fr.below hb, fun s x hs => (h.slots s x hs).mono le, fun i b' hi => ?_, fun i j b1 b2 k hi hj hki hkj => ?_, fun i b' k hi hk => ?_, h.X, ⟨Nat.le_succ_of_le h.base.1, fun i hi => by rw [upd_other _ _ (by have := h.base.1; omega)]; exact h.base.2 i hi⟩⟩
  · rw [look'] at hi
    by_cases e : σ.nx = i
    · subst e
      rw [if_pos rfl] at hi
      cases hi
      exact ⟨Nat.lt_succ_self _, ho le⟩
    · rw [if_neg e] at hi
      obtain ⟨h1, h2⟩ := h.owns i b' hi
      exact ⟨Nat.lt_succ_of_lt h1, h2.mono le (upd_other _ _ (Ne.symm e)) fun k hk => hb.block k (h2.lt hk)⟩
  · rw [look'] at hi hj
    by_cases ei : σ.nx = i <;> by_cases ej : σ.nx = j
    · omega
    · subst ei
      rw [if_neg ej] at hj
      rw [upd_self] at hki
      rw [upd_other _ _ (Ne.symm ej)] at hkj
      have h1 := hf k hki
      have h2 : k < w.heap.size := (h.owns j b2 hj).2.lt hkj
      omega
    · subst ej
      rw [if_neg ei] at hi
      rw [upd_self] at hkj
      rw [upd_other _ _ (Ne.symm ei)] at hki
      have h1 := hf k hkj
      have h2 : k < w.heap.size := (h.owns i b1 hi).2.lt hki
      omega
    · rw [if_neg ei] at hi
      rw [if_neg ej] at hj
      rw [upd_other _ _ (Ne.symm ei)] at hki
      rw [upd_other _ _ (Ne.symm ej)] at hkj
      exact h.apart i j b1 b2 k hi hj hki hkj
  · rw [look'] at hi
    by_cases ei : σ.nx = i
    · subst ei
      rw [upd_self] at hk
      have h1 := hf k hk
      have h2 := h.fr.size
      refine ⟨fun hx => ?_, .inr (by omega)⟩
      have := h.X k hx
      omega
    · rw [if_neg ei] at hi
      rw [upd_other _ _ (Ne.symm ei)] at hk
      exact h.mine i b' k hi hk

/-- How an owned block may turn. -/
def Turns (v v' : Value) : Blk → Blk → Prop
  | b, .row _ sz ver' l' => (∃ x n c, v = .slice x n c) ∧ ∃ e ver l, b = .row e sz ver l ∧ (ver < ver' ∨ (ver = ver' ∧ l.length = l'.length ∧ v' = v))
  | _, .box _ => v' = v
  | _, .map _ => v' = v

theorem SatT.turn (h : SatT E n θ σ a w) {i : Nat} {b b' : Blk} {v' : Value} (hi : lookB σ.hp i = some b) (hos : w'.os = w.os) (htape : w'.tape = w.tape) (hout : w'.output = w.output)
    (hsize : w.heap.size ≤ w'.heap.size) (hh : ∀ k, k < w.heap.size → fp (θ i) ≠ some k → w'.heap[k]? = w.heap[k]?) (hf : ∀ k, fp v' = some k → fp (θ i) = some k ∨ w.heap.size ≤ k)
    (ht : Turns (θ i) v' b b')
    (ho : (cx E θ σ w).le (cx E (upd θ i v') (σ.set i b') w') → OwnOk (cx E (upd θ i v') (σ.set i b') w') i b') : SatT E n (upd θ i v') (σ.set i b') a w' := by
  have look' : ∀ j, lookB (σ.set i b').hp j = if i = j then some b' else lookB σ.hp j := fun j => by simp [St.set, lookB_cons]
  have own0 : ∀ k, fp (θ i) = some k → (cx E θ σ w).own k := fun k hk => ⟨i, b, hi, hk⟩
  have le : (cx E θ σ w).le (cx E (upd θ i v') (σ.set i b') w') := by
    refine ⟨Nat.le_refl _, fun j hj => ?_, fun j hj e' sz' vr' l' hl => ?_, hsize, fun k hk hu => ?_, fun k hk hu => ?_⟩
    · by_cases e : j = i
      · subst e
        cases b' with
        | box l => exact .inl (by simp only [cx, upd_self]; exact ht)
        | row e sz ver l => exact .inr ht.1
        | map m => exact .inl (by simp only [cx, upd_self]; exact ht)
      · exact .inl (upd_other _ _ e)
    · have hl2 := look' j
      by_cases e : i = j
      · subst e
        rw [if_pos rfl] at hl2
        have : b' = .row e' sz' vr' l' := by
          have : some b' = some (.row e' sz' vr' l') := hl2.symm.trans hl
          exact Option.some.inj this
        subst this
        obtain ⟨_, e0, v0, l0, rfl, hv⟩ := ht
        refine ⟨e0, v0, l0, hi, ?_⟩
        rcases hv with hv | ⟨hv, hll, hvv⟩
        · exact .inl hv
        · exact .inr ⟨hv, hll, by simp only [cx, upd_self]; exact hvv⟩
      · rw [if_neg e] at hl2
        exact ⟨e', vr', l', hl2 ▸ hl, .inr ⟨rfl, rfl, upd_other _ _ (Ne.symm e)⟩⟩
    · exact hh k hk fun e => hu (.inr (own0 k e))
    · rcases hu with hu | ⟨j, bj, hj, hk'⟩
      · exact .inl hu
      · have hl2 := look' j
        by_cases e : i = j
        · subst e
          simp only [cx, upd_self] at hk'
          rcases hf k hk' with h1 | h1
          · exact .inr (own0 k h1)
          · have hk2 : k < w.heap.size := hk
            omega
        · rw [if_neg e] at hl2
          refine .inr ⟨j, bj, hl2 ▸ hj, ?_⟩
          simpa only [cx, upd_other _ _ (Ne.symm e)] using hk'
  have hfr : Fr E w' := by
    refine ⟨hos.trans h.fr.os, htape.trans h.fr.tape, hout.trans h.fr.output, Nat.le_trans h.fr.size hsize, fun k hk hO => ?_⟩
    have h1 := h.fr.size
    rw [hh k (by omega) fun e => ?_]
    · exact h.fr.block k hk hO
    · rcases (h.mine i b k hi e).2 with h2 | h2
      · exact hO h2
      · omega
  refine ⟨h.size, h.defers, hfr, fun s x hs => (h.slots s x hs).mono le, fun j bj hj => ?_, fun j1 j2 b1 b2 k h1 h2 hk1 hk2 => ?_, fun j bj k hj hk => ?_, h.X, ⟨h.base.1, fun j hj => ?_⟩⟩
  · rw [look'] at hj
    by_cases e : i = j
    · subst e
      rw [if_pos rfl] at hj
      cases hj
      exact ⟨(h.owns i b hi).1, ho le⟩
    · rw [if_neg e] at hj
      obtain ⟨h1, h2⟩ := h.owns j bj hj
      refine ⟨h1, h2.mono le (upd_other _ _ (Ne.symm e)) fun k hk => hh k (h2.lt hk) fun e2 => e (h.apart i j b bj k hi hj e2 hk)⟩
  · rw [look'] at h1 h2
    by_cases e1 : i = j1 <;> by_cases e2 : i = j2
    · omega
    · subst e1
      rw [if_neg e2] at h2
      rw [upd_self] at hk1
      rw [upd_other _ _ (Ne.symm e2)] at hk2
      rcases hf k hk1 with h3 | h3
      · exact h.apart i j2 b b2 k hi h2 h3 hk2
      · have h4 : k < w.heap.size := (h.owns j2 b2 h2).2.lt hk2
        omega
    · subst e2
      rw [if_neg e1] at h1
      rw [upd_self] at hk2
      rw [upd_other _ _ (Ne.symm e1)] at hk1
      rcases hf k hk2 with h3 | h3
      · exact h.apart j1 i b1 b k h1 hi hk1 h3
      · have h4 : k < w.heap.size := (h.owns j1 b1 h1).2.lt hk1
        omega
    · rw [if_neg e1] at h1
      rw [if_neg e2] at h2
      rw [upd_other _ _ (Ne.symm e1)] at hk1
      rw [upd_other _ _ (Ne.symm e2)] at hk2
      exact h.apart j1 j2 b1 b2 k h1 h2 hk1 hk2
  · rw [look'] at hj
    by_cases e : i = j
    · subst e
      rw [upd_self] at hk
      rcases hf k hk with h3 | h3
      · exact h.mine i b k hi h3
      · have h4 := h.fr.size
        refine ⟨fun hx => ?_, .inr (by omega)⟩
        have := h.X k hx
        omega
    · rw [if_neg e] at hj
      rw [upd_other _ _ (Ne.symm e)] at hk
      exact h.mine j bj k hj hk
  · by_cases e : j = i
    · subst e
      rw [upd_self]
      have hv : v' = θ j ∨ ∃ x n k, θ j = .slice x n k := by
        cases b' with
        | box l => exact .inl ht
        | row e sz ver l => exact .inr ht.1
        | map m => exact .inl ht
      rcases hv with rfl | ⟨x, m, k, hv⟩
      · exact h.base.2 j hj
      · rcases h.base.2 j hj with e2 | e2
        · exact .inr ⟨x, m, k, by rw [← e2, hv]⟩
        · exact .inr e2
    · rw [upd_other _ _ e]; exact h.base.2 j hj
end steps
end Go.Av

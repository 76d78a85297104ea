/- Calls, conversions, and operations that build values or own memory. -/
import Derived.Test.YtmiaihoallkjfaaDoorAvQ
namespace Go.Av
open Go Go.RowKit
set_option linter.unusedSimpArgs false
set_option linter.unusedVariables false
set_option linter.unnecessarySimpa false

inductive Closed : AV → Prop
  | v (x : Value) : Closed (.v x)
  | str (l : List UInt8) : Closed (.str l)
  | sl (sz : Nat) (l : List (List AV)) : Closed (.sl sz l)
  | iptr (l : List AV) : Closed (.iptr l)
  | fn (f : Nat) (l : List AV) : Closed (.fn f l)
  | agg {l : List AV} (h : ∀ x ∈ l, Closed x) : Closed (.agg l)
  | tup {l : List AV} (h : ∀ x ∈ l, Closed x) : Closed (.tup l)

theorem Closed.im {c : Cx} {a : AV} {x : Value} (k : Closed a) (r : Rel c a x) : Im c.U c.w a x := by
  induction r with
  | any x => cases k
  | im h => exact h
  | agg l cs hl h ih =>
    cases k with
    | agg hk => exact .agg l cs hl fun j x y hx hy => ih j x y hx hy (hk x (List.mem_of_getElem? hx))
  | tup l cs hl h ih =>
    cases k with
    | tup hk => exact .tup l cs hl fun j x y hx hy => ih j x y hx hy (hk x (List.mem_of_getElem? hx))
  | ref => cases k
  | row => cases k
  | mp => cases k
  | elt => cases k

mutual
def closedB : AV → Bool
  | .v _ | .str _ | .sl _ _ | .iptr _ | .fn _ _ => true
  | .agg l | .tup l => closedLB l
  | _ => false
def closedLB : List AV → Bool
  | [] => true
  | x :: r => closedB x && closedLB r
end
mutual
theorem closedB_spec : ∀ {a : AV}, closedB a = true → Closed a
  | .v x, _ => .v x
  | .str l, _ => .str l
  | .sl s l, _ => .sl s l
  | .iptr l, _ => .iptr l
  | .fn f l, _ => .fn f l
  | .agg l, h => .agg (closedLB_spec (by simpa only [closedB] using h))
  | .tup l, h => .tup (closedLB_spec (by simpa only [closedB] using h))
  | .any, h => by simp [closedB] at h
  | .ref .., h => by simp [closedB] at h
  | .row .., h => by simp [closedB] at h
  | .mp .., h => by simp [closedB] at h
  | .elt .., h => by simp [closedB] at h
theorem closedLB_spec : ∀ {l : List AV}, closedLB l = true → ∀ x ∈ l, Closed x
  | [], _, x, hx => by cases hx
  | y :: r, h, x, hx => by
    simp only [closedLB, Bool.and_eq_true] at h
    have hy := closedB_spec h.1
    have hr := closedLB_spec h.2
    rcases List.mem_cons.1 hx with rfl | hx
    · exact hy
    · exact hr x hx
end

def FnOk (P : Program) (f : Nat) : Prop := ∃ fn, P.funcs[f]? = some fn ∧ (fn.name == "runtime.NumGoroutine") = false ∧ fn.body.isNone = false

/-- Called with what reads so, the function hands back what reads as r, and turns nothing that was there. -/
def FCall (P : Program) (f : Nat) (args : List AV) (r : AV) : Prop := FnOk P f ∧
  ∀ (X : Nat → Prop) (w : World) (vs : List Value), (∀ k, X k → k < w.heap.size) → args.length = vs.length → (∀ (j : Nat) a v, args[j]? = some a → vs[j]? = some v → Im X w a v) →
    Calls P f vs.toArray w fun e w' => ∃ v, e = .returned v ∧ Im X w' r v ∧ Below w.heap.size w w'

def evL (ev : Operand → Option AV) : List Operand → Option (List AV)
  | [] => some []
  | x :: r => match ev x, evL ev r with
    | some a, some l => some (a :: l)
    | _, _ => none

theorem evL_spec {E : Env} {θ : Nat → Value} {nx : Nat} {hp : Hp} {ev : Operand → Option AV} {a : Act} {w : World} (h : EvT E θ nx hp ev a w) : ∀ (xs : List Operand) (l : List AV), evL ev xs = some l → l.length = xs.length ∧ ∀ (j : Nat) av v, l[j]? = some av → (xs.map a.eval)[j]? = some v → Rel (kx E θ nx hp w) av v
  | [], l, e => by simp [evL] at e; subst e; simp
  | x :: r, l, e => by
    simp only [evL] at e
    split at e
    · rename_i a1 l1 h1 h2
      cases e
      obtain ⟨h3, h4⟩ := evL_spec h r l1 h2
      refine ⟨by simp [h3], fun j av v hj hv => ?_⟩
      cases j with
      | zero => simp at hj hv; subst hj hv; exact h.rel h1
      | succ j => simp at hj hv; exact h4 j av v hj (by simpa using hv)
    · cases e

section rules
variable {P : Program} {E : Env} {n nx : Nat} {hp : Hp} {ev : Operand → Option AV} {ops : Array Oper} {rest : List Oper} {σ : St} {K : St → Prop} {Q : Exit → St → Prop}
variable {ty : TypeId} {x y : Operand}

theorem run_call {f : Nat} (hf : FnOk P f) {a : Act} {w : World} {xs : List Operand} {ts : Array TypeId} {o : Option Tmp} {pos : String} {after : Array Edge} {g : Operand} {cs : Array Value} (hg : a.eval g = .func (.func f) #[] cs) :
    (execOp a.eval ⟨o, .call ⟨.value g, xs.toArray, ts⟩, ty, pos, after, none⟩).run P w = .ok (.enter f ((xs.map a.eval).toArray ++ cs)) w := by
  obtain ⟨fn, h1, h2, h3⟩ := hf
  have h2' : ¬ fn.name = "runtime.NumGoroutine" := by simpa using h2
  have h3' : ¬ fn.body = none := by intro e; simp [e] at h3
  simp [execOp, resolve, Deferred.ofValue, hg, invoke, callFunc, program, Sem.run_bind, Sem.run_pure, Sem.run, h1]
  rw [if_neg h2', if_neg h3']

theorem q_call_any {f : Nat} {xs : List Operand} {args caps : List AV} {r : AV} {ts : Array TypeId} {g : Operand} (hc : FCall P f (args ++ caps) r) (ha : evL ev xs = some args) (hcl : ∀ a ∈ args, Closed a)
    (hg : ∀ θ a w, EvT E θ nx hp ev a w → ∃ cs : List Value, a.eval g = .func (.func f) #[] cs.toArray ∧ caps.length = cs.length ∧ ∀ (j : Nat) x c, caps[j]? = some x → cs[j]? = some c → Im (kx E θ nx hp w).U w x c) :
    QOp P E nx hp ev (.call ⟨.value g, xs.toArray, ts⟩) ty r := by
  intro d pos after θ a w K hs hk
  obtain ⟨hl, hr⟩ := evL_spec hs xs args ha
  obtain ⟨cs, hge, hcl2, hcr⟩ := hg θ a w hs
  unfold VWp
  rw [run_call hc.1 hge]
  have hX := hc.2 (kx E θ nx hp w).U w (xs.map a.eval ++ cs) hs.Ult (by simp [hl, hcl2]) fun j av v hj hv => by
    rw [List.getElem?_append] at hj hv
    have e1 : (xs.map a.eval).length = args.length := by simp [hl]
    rw [e1] at hv
    split at hj
    · rename_i hlt
      rw [if_pos hlt] at hv
      exact (hcl av (List.mem_of_getElem? hj)).im (hr j av v hj hv)
    · rename_i hlt
      rw [if_neg hlt] at hv
      exact hcr _ av v hj hv
  rw [← List.append_toArray] at hX
  refine Calls.mono hX ?_
  rintro e w' ⟨v, rfl, hv, hb⟩
  exact ⟨v, rfl, hk v w' hb (.im hv)⟩

theorem q_call {f : Nat} {xs : List Operand} {args : List AV} {r : AV} {ts : Array TypeId} (hc : FCall P f args r) (ha : evL ev xs = some args) (hcl : closedLB args = true) :
    QOp P E nx hp ev (.call ⟨.value (.func f), xs.toArray, ts⟩) ty r :=
  q_call_any (caps := []) (by rw [List.append_nil]; exact hc) ha (closedLB_spec hcl) fun _ _ _ _ => ⟨[], rfl, rfl, fun j x c hx => by simp at hx⟩

theorem q_callv {f : Nat} {xs : List Operand} {args caps : List AV} {r : AV} {ts : Array TypeId} {g : Operand} (hg : ev g = some (.fn f caps)) (hc : FCall P f (args ++ caps) r) (ha : evL ev xs = some args) (hcl : closedLB args = true) :
    QOp P E nx hp ev (.call ⟨.value g, xs.toArray, ts⟩) ty r :=
  q_call_any hc ha (closedLB_spec hcl) fun θ a w h => by
    have := (h.rel hg)
    generalize a.eval g = v at this
    cases this with
    | im hi => cases hi with | fn f l cs hl hc => exact ⟨cs, rfl, hl, hc⟩

/-! ### conversions -/
theorem below_drew_alloc (w : World) (o : Obj) : Below w.heap.size w (w.drew.alloc o) := (Below.drew (Below.refl _ _)).alloc (Nat.le_refl _) o
theorem below_alloc (w : World) (o : Obj) : Below w.heap.size w (w.alloc o) := (Below.refl _ _).alloc (Nat.le_refl _) o

theorem q_str_bytes {S T e sz : Nat} [hS : TStr P S] [ts : TSl P T e sz] [he : TInt P e .u8] {l : List UInt8} (hx : ev x = some (.str l)) (hl : l.length ≤ 9223372036854775807) :
    QOp P E nx hp ev (.convert S T x) ty (.sl 1 (l.map fun b => [.v (.int .u8 b.toNat)])) :=
  q_grow fun _ _ _ θ a w h => by
    have hv := (h.rel hx).sval
    have hr := run_bytes_of_string (P := P) w S T e ⟨l.toArray⟩ hS.out ts.out.1 he.out
    have hsz : (ByteArray.mk l.toArray).size = l.length := rfl
    rw [hsz] at hr
    have hcap : grownCap w l.length 0 e ≤ maxLen := grownCap_le_maxLen w _ 0 e (by unfold maxLen; omega)
    have hge := grownCap_ge w l.length 0 e
    generalize grownCap w l.length 0 e = cap at hr hcap hge
    generalize hC : bytesRow ⟨l.toArray⟩ cap = C at hr
    refine ⟨.slice (some ⟨w.heap.size, 0, none⟩) l.length cap, w.drew.alloc (.cells C e (C.size, C.size + 1)), ?_, below_drew_alloc w _, .im ?_⟩
    · simp only [execOp, hv, Sem.run_bind, hr, Result.andThen_ok, Sem.run_pure]
    · have hlen : (l.map fun b => [AV.v (.int .u8 b.toNat)]).length = l.length := List.length_map _
      rw [← hlen]
      refine Im.sl 1 _ ⟨w.heap.size, 0, none⟩ cap (fun i _ => .int .u8 ((l.getD i 0).toNat)) (by rw [hlen]; exact hge) hcap
        (fun _ _ hu => absurd (h.Ult _ hu) (Nat.lt_irrefl _)) (fun el hel => ?_) (fun i hi j hj => ?_) (fun i el hi j u hu => ?_)
      · obtain ⟨b, _, rfl⟩ := List.mem_map.1 hel
        rfl
      · have hj0 : j = 0 := by omega
        subst hj0
        rw [hlen] at hi
        rw [addr_add]
        refine (cell_of_block (b := w.heap.size) (heap_alloc_new w.drew _) _).trans ?_
        have hi2 : i < (Array.map (fun (b : UInt8) => Value.int .u8 b.toNat) l.toArray).size := by simp; exact hi
        rw [← hC]
        simp only [bytesRow, Nat.zero_add, Nat.mul_one, Nat.add_zero]
        rw [Array.getElem?_append_left hi2]
        simp [hi]
      · rw [List.getElem?_map, Option.map_eq_some_iff] at hi
        obtain ⟨b, hb, rfl⟩ := hi
        cases j with
        | zero =>
          cases hu
          have : l.getD i 0 = b := by rw [List.getD, hb]; rfl
          rw [this]
          exact .v _
        | succ j => cases hu

theorem q_conv_int {S T : Nat} {k k' : IntKind} [tk : TInt P T k] [tS : TInt P S k'] {m : Int} (hx : ev x = some (.v (.int k' m))) : QOp P E nx hp ev (.convert S T x) ty (.v (.int k (k.wrap m))) :=
  q_pure fun _ _ _ θ a w h => by
    have hv := (h.rel hx).val
    refine ⟨_, ?_, .im (.v _)⟩
    simp only [execOp, hv, convert, Sem.run_bind, run_underlying tS.out, run_underlying tk.out, Result.andThen_ok, Conv.intToInt]
    rfl

/-- A number as the text of a rune. -/
theorem q_conv_rune {S T : Nat} {k : IntKind} [tS : TInt P S k] [tT : TStr P T] {m : Int} (hx : ev x = some (.v (.int k m))) : QOp P E nx hp ev (.convert S T x) ty (.str (Utf8.encode m).data.toList) :=
  q_pure fun _ _ _ θ a w h => by
    have hv := (h.rel hx).val
    refine ⟨.string (Utf8.encode m), ?_, .im (by
      have : Utf8.encode m = ⟨(Utf8.encode m).data.toList.toArray⟩ := rfl
      exact .str _)⟩
    simp only [execOp, hv, convert, Sem.run_bind, run_underlying tS.out, run_underlying tT.out, Result.andThen_ok, Conv.intToString]
    rfl

/-! ### values of structs -/
inductive One (hp : Hp) : AV → Prop
  | v {x : Value} (h : x.oneCell' = true) : One hp (.v x)
  | str (l : List UInt8) : One hp (.str l)
  | sl (sz : Nat) (l : List (List AV)) : One hp (.sl sz l)
  | iptr (l : List AV) : One hp (.iptr l)
  | fn (f : Nat) (l : List AV) : One hp (.fn f l)
  | ref (i off : Nat) : One hp (.ref i off)
  | mp (i : Nat) : One hp (.mp i)
  | row {i e sz ver len : Nat} {l : List (List AV)} (h : lookB hp i = some (.row e sz ver l)) : One hp (.row i ver len)

theorem One.val {θ : Nat → Value} {a : Act} {w : World} (h : EvT E θ nx hp ev a w) {x : AV} {y : Value} (o : One hp x) (r : Rel (kx E θ nx hp w) x y) : y.oneCell' = true := by
  cases o with
  | v hx => rw [r.val]; exact hx
  | str l => rw [r.sval]; rfl
  | sl sz l => cases r with | im hi => cases hi <;> rfl
  | iptr l => cases r with | im hi => cases hi; rfl
  | fn f l => cases r with | im hi => cases hi; rfl
  | ref i off => cases r with
    | im hi => cases hi
    | ref => rfl
  | mp i => cases r with
    | im hi => cases hi
    | mp => rfl
  | row hl =>
    obtain ⟨_, h3, _⟩ := row_inv r hl
    obtain ⟨xs, ho, _⟩ := h.row hl
    obtain ⟨p, cap, hs, _⟩ := ownsRow_shape ho
    have : (kx E θ nx hp w).θ = θ := rfl
    rw [h3, this, hs]
    rfl

theorem cells_of_one {y : Value} (h : y.oneCell' = true) : y.cells = #[y] := by cases y <;> first | rfl | simp [Value.oneCell'] at h

def cellsA : AV → List AV
  | .agg l => l
  | x => [x]

/-- Cells that can be laid: a struct's, or one. -/
def Fits (hp : Hp) : AV → Prop
  | .agg _ => True
  | x => One hp x

theorem agg_inv {c : Cx} {l : List AV} {y : Value} (r : Rel c (.agg l) y) : ∃ cs : List Value, y = .agg cs.toArray ∧ l.length = cs.length ∧ ∀ (j : Nat) x z, l[j]? = some x → cs[j]? = some z → Rel c x z := by
  cases r with
  | im hi => cases hi with | agg l cs hl h => exact ⟨cs, rfl, hl, fun j x z hx hz => .im (h j x z hx hz)⟩
  | agg l cs hl h => exact ⟨cs, rfl, hl, h⟩

theorem cells_rel {θ : Nat → Value} {a : Act} {w : World} (h : EvT E θ nx hp ev a w) {x : AV} {y : Value} (f : Fits hp x) (r : Rel (kx E θ nx hp w) x y) :
    ∃ cs : List Value, y.cells = cs.toArray ∧ (cellsA x).length = cs.length ∧ ∀ (j : Nat) u z, (cellsA x)[j]? = some u → cs[j]? = some z → Rel (kx E θ nx hp w) u z := by
  by_cases hx : ∃ l, x = .agg l
  · obtain ⟨l, rfl⟩ := hx
    obtain ⟨cs, rfl, hl, hr⟩ := agg_inv r
    exact ⟨cs, rfl, hl, hr⟩
  · have hc : cellsA x = [x] := by cases x <;> first | rfl | exact absurd ⟨_, rfl⟩ hx
    have ho : One hp x := by cases x <;> first | exact f | exact absurd ⟨_, rfl⟩ hx
    refine ⟨[y], cells_of_one (ho.val h r), by rw [hc]; rfl, fun j u z hu hz => ?_⟩
    rw [hc] at hu
    cases j with
    | zero => simp at hu hz; subst hu; subst hz; exact r
    | succ j => simp at hu

theorem run_zeroValue {T : Nat} {i : TypeInfo} {z : Value} (h1 : P.info? T = some i) (h2 : i.zero = some z) (w : World) : (zeroValue T).run P w = .ok z w := by
  simp [zeroValue, typeInfo, program, Sem.run_bind, Sem.run, h1, h2]

/-- Pointwise: cells that read as abstract values. -/
def PW (c : Cx) (l : List AV) (cs : List Value) : Prop := l.length = cs.length ∧ ∀ (j : Nat) x y, l[j]? = some x → cs[j]? = some y → Rel c x y

def spliceA (l : List AV) (off : Nat) (m : List AV) : List AV := l.take off ++ m ++ l.drop (off + m.length)

theorem foldl_set (vs : List Value) : ∀ (k off : Nat) (cells : Array Value), off + k + vs.length ≤ cells.size →
    ((vs.zipIdx k).foldl (fun cs (c, j) => cs.setIfInBounds (off + j) c) cells).toList = cells.toList.take (off + k) ++ vs ++ cells.toList.drop (off + k + vs.length) := by
  induction vs with
  | nil => intro k off cells h; simp
  | cons v r ih =>
    intro k off cells h
    simp only [List.length_cons] at h
    rw [List.zipIdx_cons, List.foldl_cons, ih (k + 1) off _ (by simp; omega)]
    simp only [Array.toList_setIfInBounds]
    have hlt : off + k < cells.toList.length := by simp; omega
    rw [show off + (k + 1) = off + k + 1 by omega, List.take_add_one]
    have e1 : (cells.toList.set (off + k) v)[off + k]? = some v := by simp at hlt; simp [hlt]
    rw [e1, List.take_set_of_le (Nat.le_refl _), List.drop_set_of_lt (by omega)]
    simp [List.append_assoc]
    congr 1
    omega

theorem PW.splice {c : Cx} {l : List AV} {cs : List Value} {m : List AV} {vs : List Value} {off : Nat} (h : PW c l cs) (hm : PW c m vs) (hf : off + m.length ≤ l.length) :
    PW c (spliceA l off m) (cs.take off ++ vs ++ cs.drop (off + vs.length)) := by
  obtain ⟨h1, h2⟩ := h
  obtain ⟨h3, h4⟩ := hm
  refine ⟨by simp [spliceA]; omega, fun j x y hx hy => ?_⟩
  unfold spliceA at hx
  have hl1 : (l.take off).length = off := by rw [List.length_take]; omega
  have hl2 : (cs.take off).length = off := by rw [List.length_take]; omega
  by_cases hj : j < off
  · rw [List.append_assoc, List.getElem?_append_left (by omega), List.getElem?_take, if_pos hj] at hx hy
    exact h2 j x y hx hy
  · by_cases hj2 : j < off + m.length
    · rw [List.append_assoc, List.getElem?_append_right (by omega), List.getElem?_append_left (by omega), hl1] at hx
      rw [List.append_assoc, List.getElem?_append_right (by omega), List.getElem?_append_left (by omega), hl2] at hy
      exact h4 _ x y hx hy
    · rw [List.getElem?_append_right (by rw [List.length_append]; omega), List.length_append, hl1, List.getElem?_drop] at hx
      rw [List.getElem?_append_right (by rw [List.length_append]; omega), List.length_append, hl2, List.getElem?_drop] at hy
      refine h2 _ x y hx ?_
      rw [← hy]
      congr 1
      omega

class TPlaces (P : Program) (T : Nat) (pl : outParam (List (Nat × Nat))) : Prop where
  out : (∃ fs, P.underlying T = some (.struct fs) ∧ fs.size = pl.length ∧ ∀ (j : Nat) f, fs[j]? = some f → ∃ i, P.info? f.type = some i ∧ pl[j]? = some (f.offset, i.size)) ∨
    ∃ n e i, P.underlying T = some (.array n e) ∧ P.info? e = some i ∧ ∀ (j : Nat) p, pl[j]? = some p → p = (j * i.size, i.size)

def placesOf (P : Program) (T : Nat) : Option (List (Option (Nat × Nat))) :=
  match P.underlying T with
  | some (.struct fs) => some (fs.toList.map fun f => (P.info? f.type).map fun i => (f.offset, i.size))
  | _ => none
theorem TPlaces.of {T : Nat} {pl : List (Nat × Nat)} (h : placesOf P T = some (pl.map some)) : TPlaces P T pl := by
  unfold placesOf at h
  split at h
  · rename_i fs hu
    simp only [Option.some.injEq] at h
    have hlen : fs.size = pl.length := by
      have := congrArg List.length h
      simpa using this
    refine ⟨.inl ⟨fs, hu, hlen, fun j f hf => ?_⟩⟩
    have := congrArg (·[j]?) h
    simp only [List.getElem?_map, Array.getElem?_toList, hf, Option.map_some] at this
    cases hp : pl[j]? with
    | none => rw [hp] at this; simp at this
    | some p =>
      rw [hp] at this
      simp only [Option.map_some, Option.some.injEq] at this
      cases hi : P.info? f.type with
      | none => rw [hi] at this; simp at this
      | some i => rw [hi] at this; simp at this; exact ⟨i, rfl, by rw [← this]⟩
  · cases h

theorem TPlaces.ofArr {T n e sz : Nat} {pl : List (Nat × Nat)} (h : P.underlying T = some (.array n e)) (h2 : (P.info? e).map (·.size) = some sz) (h3 : pl = (List.range n).map fun j => (j * sz, sz)) : TPlaces P T pl := by
  cases hi : P.info? e with
  | none => rw [hi] at h2; cases h2
  | some i =>
    rw [hi] at h2
    cases h2
    refine ⟨.inr ⟨n, e, i, h, hi, fun j p hp => ?_⟩⟩
    rw [h3, List.getElem?_map, Option.map_eq_some_iff] at hp
    obtain ⟨k, hk, rfl⟩ := hp
    obtain ⟨hj, rfl⟩ := List.getElem?_eq_some_iff.1 hk
    simp

/-- What a composite literal's parts make of the zero cells. -/
def fillA (pl : List (Nat × Nat)) : List AV → List (Nat × AV) → Option (List AV)
  | l, [] => some l
  | l, (i, a) :: r => match pl[i]? with
    | some (off, sz) => cond (Nat.beq (cellsA a).length sz && Nat.ble (off + (cellsA a).length) l.length) (fillA pl (spliceA l off (cellsA a)) r) none
    | none => none

def evP (ev : Operand → Option AV) : List (Nat × Operand) → Option (List (Nat × AV))
  | [] => some []
  | (i, x) :: r => match ev x, evP ev r with
    | some a, some l => some ((i, a) :: l)
    | _, _ => none

def FitsP (hp : Hp) : List (Nat × AV) → Prop
  | [] => True
  | (_, a) :: r => Fits hp a ∧ FitsP hp r

theorem fill_spec {θ : Nat → Value} {a : Act} {w : World} (h : EvT E θ nx hp ev a w) {pl : List (Nat × Nat)} {place : Nat → Option (Nat × Nat)} (hpl : ∀ i p, pl[i]? = some p → place i = some p) :
    ∀ (parts : List (Nat × Operand)) (ps : List (Nat × AV)) (l l' : List AV) (cells : Array Value), evP ev parts = some ps → FitsP hp ps → PW (kx E θ nx hp w) l cells.toList → fillA pl l ps = some l' →
      ∃ cells', Instr.fill place cells (parts.map fun (i, x) => (i, a.eval x)) = some cells' ∧ PW (kx E θ nx hp w) l' cells'.toList
  | [], ps, l, l', cells, he, _, hpw, hf => by
    simp [evP] at he; subst he
    simp [fillA] at hf; subst hf
    exact ⟨cells, rfl, hpw⟩
  | (i, x) :: r, ps, l, l', cells, he, hfit, hpw, hf => by
    simp only [evP] at he
    split at he
    · rename_i av l1 h1 h2
      cases he
      obtain ⟨hfa, hfr⟩ := hfit
      obtain ⟨cs, hc, hl, hr⟩ := cells_rel h hfa (h.rel h1)
      simp only [fillA] at hf
      cases hp' : pl[i]? with
      | none => rw [hp'] at hf; cases hf
      | some p =>
        obtain ⟨off, sz⟩ := p
        rw [hp'] at hf
        simp only at hf
        cases hb : (Nat.beq (cellsA av).length sz && Nat.ble (off + (cellsA av).length) l.length) with
        | false => rw [hb] at hf; cases hf
        | true =>
          rw [hb] at hf
          simp only [Bool.and_eq_true, Nat.beq_eq, Nat.ble_eq] at hb
          have hsz : (a.eval x).cells.size = sz := by rw [hc]; simp; omega
          have hfold := foldl_set cs 0 off cells (by have := hpw.1; simp at this; omega)
          have hpw' := hpw.splice (m := cellsA av) (vs := cs) (off := off) ⟨hl, hr⟩ hb.2
          simp only [Nat.add_zero] at hfold
          rw [← hfold] at hpw'
          obtain ⟨cells', hcells', hres⟩ := fill_spec h hpl r l1 _ l' _ h2 hfr hpw' hf
          refine ⟨cells', ?_, hres⟩
          have hsmall : ¬ (off + (a.eval x).cells.size > cells.size) := by
            rw [hsz]; have := hpw.1; simp at this; omega
          simp only [List.map_cons, Instr.fill, hpl i _ hp', hsz, ne_eq, not_true_eq_false, decide_false, Bool.false_or, decide_eq_true_eq]
          rw [if_neg (by rw [← hsz]; exact hsmall)]
          rw [hc]
          have : (cs.toArray.zipIdx) = (cs.zipIdx 0).toArray := by simp
          rw [this, ← Array.foldl_toList]
          exact hcells'
    · cases he

theorem p_build {T : Nat} {zs : List Value} {pl : List (Nat × Nat)} [tz : TZero P T zs] [tp : TPlaces P T pl] {parts : List (Nat × Operand)} {ps : List (Nat × AV)} {l : List AV} (he : evP ev parts = some ps) (hfit : FitsP hp ps)
    (hf : fillA pl (zs.map ofV) ps = some l) : POp P E nx hp ev (.build T parts.toArray) ty (.agg l) :=
  fun _ _ _ θ a w h => by
    obtain ⟨i, z, h1, h2, h3⟩ := tz.out
    have hpw : PW (kx E θ nx hp w) (zs.map ofV) zs.toArray.toList := by
      refine ⟨by simp, fun j u y hu hy => ?_⟩
      simp at hu hy
      obtain ⟨v, hv, rfl⟩ := hu
      rw [hy] at hv
      cases hv
      exact .im (ofV_im _)
    rcases tp.out with ⟨fs, h4, h5, h6⟩ | ⟨m, e, ie, h4, h5, h6⟩
    · skip
      have hmap : ∀ (k : Nat) (fl : List Field), (∀ (j : Nat) f, fl[j]? = some f → ∃ i, P.info? f.type = some i) → ∃ ml : List (Nat × Nat), (∀ w, (fl.mapM (m := Sem) fun f => do pure (f.offset, ← sizeOf f.type)).run P w = .ok ml w) ∧ ml.length = fl.length ∧ ∀ (j : Nat) f i, fl[j]? = some f → P.info? f.type = some i → ml[j]? = some (f.offset, i.size) := by
        intro k fl
        induction fl with
        | nil => intro _; exact ⟨[], fun _ => rfl, rfl, fun j f i hj => by simp at hj⟩
        | cons f r ih =>
          intro hh
          obtain ⟨i, hi⟩ := hh 0 f rfl
          obtain ⟨ml, hml, hlen, hrest⟩ := ih (fun j g hg => hh (j + 1) g (by simpa using hg))
          refine ⟨(f.offset, i.size) :: ml, ?_, by simp [hlen], fun j g i' hg hi' => ?_⟩
          · intro w; have hml := hml w; simp only [List.mapM_cons, Sem.run_bind, sizeOf, typeInfo, program, Sem.run_pure, Sem.run, hi, Result.andThen_ok]
            simp only [sizeOf, typeInfo, program] at hml
            rw [hml]
            rfl
          · cases j with
            | zero => simp at hg; subst hg; rw [hi] at hi'; cases hi'; rfl
            | succ j => simp at hg ⊢; exact hrest j g i' hg hi'
      obtain ⟨ml, hml, hmlen, hmrest⟩ := hmap 0 fs.toList (fun j f hf => by
        obtain ⟨i, hi, _⟩ := h6 j f (by simpa using hf)
        exact ⟨i, hi⟩)
      have hpl : ∀ (i : Nat) p, pl[i]? = some p → ml.toArray[i]? = some p := by
        intro j p hj
        have hlt : j < fs.size := by rw [h5]; exact (List.getElem?_eq_some_iff.1 hj).1
        have hfj : fs[j]? = some fs[j] := Array.getElem?_eq_getElem hlt
        obtain ⟨i, hi, hpj⟩ := h6 j _ hfj
        rw [hpj] at hj
        cases hj
        simpa using hmrest j _ i (by simpa using hfj) hi
      obtain ⟨cells', hfill, hres⟩ := fill_spec h (place := fun i => ml.toArray[i]?) hpl parts ps _ l zs.toArray he hfit hpw hf
      refine ⟨.agg cells', ?_, ?_⟩
      · intro w; have hml := hml w; simp only [execOp, Instr.build, Sem.run_bind, run_zeroValue h1 h2, Result.andThen_ok, run_underlying h4, h3]
        have e1 : (fs.mapM (m := Sem) fun f => do pure (f.offset, ← sizeOf f.type)).run P w = .ok ml.toArray w := by
          rw [Array.mapM_eq_mapM_toList]
          simp only [Sem.run_map, hml, Result.andThen_ok]
        rw [e1]
        simp only [Result.andThen_ok, List.map_toArray, hfill, Sem.run_pure]
      · have := Rel.agg (c := kx E θ nx hp w) l cells'.toList hres.1 hres.2
        simpa using this
    · obtain ⟨cells', hfill, hres⟩ := fill_spec h (place := fun i => some (i * ie.size, ie.size)) (fun j p hj => by rw [h6 j p hj]) parts ps _ l zs.toArray he hfit hpw hf
      refine ⟨.agg cells', ?_, ?_⟩
      · intro w
        have hs : (sizeOf e).run P w = .ok ie.size w := by simp [sizeOf, typeInfo, program, Sem.run_bind, Sem.run_pure, Sem.run, h5]
        simp only [execOp, Instr.build, Sem.run_bind, run_zeroValue h1 h2, Result.andThen_ok, run_underlying h4, h3, hs, List.map_toArray, hfill, Sem.run_pure]
      · have := Rel.agg (c := kx E θ nx hp w) l cells'.toList hres.1 hres.2
        simpa using this
theorem q_build {T : Nat} {zs : List Value} {pl : List (Nat × Nat)} [tz : TZero P T zs] [tp : TPlaces P T pl] {parts : List (Nat × Operand)} {ps : List (Nat × AV)} {l : List AV} (he : evP ev parts = some ps) (hfit : FitsP hp ps)
    (hf : fillA pl (zs.map ofV) ps = some l) : QOp P E nx hp ev (.build T parts.toArray) ty (.agg l) := (p_build he hfit hf).q
end rules
end Go.Av

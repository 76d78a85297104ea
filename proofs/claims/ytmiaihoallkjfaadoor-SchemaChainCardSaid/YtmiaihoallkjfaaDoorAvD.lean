/- Regions that draw their order, of quiet operations. -/
import Derived.Test.YtmiaihoallkjfaaDoorAvG
import Derived.Orders
namespace Go.Av
open Go Go.RowKit
set_option linter.unusedSimpArgs false
set_option linter.unusedVariables false
set_option linter.unnecessarySimpa false

class TMix (P : Program) : Prop where
  out : P.follows .mixedOrders = true

section congr
variable {P : Program} {hp : Hp} {ev ev' : Operand → Option AV} {F : AV → Prop}

theorem evL_congr : ∀ {l : List Operand}, (∀ x ∈ l, ev x = ev' x) → evL ev l = evL ev' l
  | [], _ => rfl
  | x :: r, h => by simp only [evL, h x (by simp), evL_congr (l := r) fun y hy => h y (by simp [hy])]
theorem evP_congr : ∀ {l : List (Nat × Operand)}, (∀ x ∈ l.map (·.2), ev x = ev' x) → evP ev l = evP ev' l
  | [], _ => rfl
  | (i, x) :: r, h => by simp only [evP, h x (by simp), evP_congr (l := r) fun y hy => h y (by simp at hy ⊢; exact .inr hy)]
theorem evB_congr {m : Nat} {o : Option Operand} (h : ∀ x, o = some x → ev x = ev' x) : evB ev m o = evB ev' m o := by
  cases o with
  | none => rfl
  | some x => simp only [evB, h x rfl]

theorem opV_congr {op : Op} (h : ∀ x ∈ op.operands.toList, ev x = ev' x) (ho : OpV P op ev hp F) : OpV P op ev' hp F := by
  unfold OpV at ho
  split at ho
  · rename_i x; rw [h x (by simp [Op.operands])] at ho; exact ho
  · rename_i x; rw [h x (by simp [Op.operands])] at ho; exact ho
  · rename_i c a b
    rw [h c (by simp [Op.operands]), h a (by simp [Op.operands]), h b (by simp [Op.operands])] at ho; exact ho
  · rename_i op T x y T2; rw [h x (by simp [Op.operands]), h y (by simp [Op.operands])] at ho; exact ho
  · rename_i T x; rw [h x (by simp [Op.operands])] at ho; exact ho
  · rename_i T x; rw [h x (by simp [Op.operands])] at ho; exact ho
  · rename_i T x; rw [h x (by simp [Op.operands])] at ho; exact ho
  · rename_i S x f; rw [h x (by simp [Op.operands])] at ho; exact ho
  · rename_i T x y; rw [h x (by simp [Op.operands]), h y (by simp [Op.operands])] at ho; exact ho
  · rename_i T x y; rw [h x (by simp [Op.operands]), h y (by simp [Op.operands])] at ho; exact ho
  · rename_i x; rw [h x (by simp [Op.operands])] at ho; exact ho
  · rename_i S T x; rw [h x (by simp [Op.operands])] at ho; exact ho
  · rename_i x T; rw [h x (by simp [Op.operands, Call.operands])] at ho; exact ho
  · rename_i x y T U; rw [h x (by simp [Op.operands, Call.operands]), h y (by simp [Op.operands, Call.operands])] at ho; exact ho
  · rename_i x y T U; rw [h x (by simp [Op.operands, Call.operands]), h y (by simp [Op.operands, Call.operands])] at ho; exact ho
  · rename_i f args ts
    rw [evL_congr (ev' := ev') (fun x hx => h x (by simp [Op.operands, Call.operands]; exact .inr hx))] at ho; exact ho
  · rename_i t args ts
    rw [h (.tmp t) (by simp [Op.operands, Call.operands]), evL_congr (ev' := ev') (fun x hx => h x (by simp [Op.operands, Call.operands]; exact .inr hx))] at ho; exact ho
  · rename_i T parts
    rw [evP_congr (ev' := ev') (fun x hx => h x (by simpa [Op.operands] using hx))] at ho; exact ho
  · rename_i T len parts
    rw [evP_congr (ev' := ev') (fun x hx => h x (by simpa [Op.operands] using hx))] at ho; exact ho
  · rename_i T x y ok; rw [h x (by simp [Op.operands]), h y (by simp [Op.operands])] at ho; exact ho
  · rename_i T x lo hi
    have e1 : ∀ m, evB ev m lo = evB ev' m lo := fun m => evB_congr fun y hy => h y (by subst hy; simp [Op.operands])
    have e2 : ∀ m, evB ev m hi = evB ev' m hi := fun m => evB_congr fun y hy => h y (by subst hy; simp [Op.operands])
    unfold sliceP at ho
    simp only [e1, e2] at ho
    rw [h x (by simp [Op.operands])] at ho
    exact ho
  · rename_i x k; rw [h x (by simp [Op.operands])] at ho; exact ho
  · rename_i f xs
    rw [evL_congr (ev' := ev') (fun x hx => h x (by simpa [Op.operands] using hx))] at ho; exact ho
  · exact ho.elim
end congr

def evF (f : Nat → Option AV) : Operand → Option AV
  | .tmp t => f t
  | .const c => some (ofV c)
  | .global g => some (.v (.pointer (some ⟨g, 0, none⟩)))
  | .func f => some (.v (.func (.func f) #[] #[]))
theorem evO_evF (σ : St) : evO σ = evF (look σ.sl) := by funext x; cases x <;> rfl

open Classical in
/-- The operands of an operation alone. -/
noncomputable def rs (op : Op) (ev : Operand → Option AV) : Operand → Option AV := fun x => if x ∈ op.operands.toList then ev x else none

def setF (f : Nat → Option AV) (d : Nat) (a : AV) : Nat → Option AV := fun s => if d = s then some a else f s

section quiet
variable {P : Program} {E : Env} {n nx : Nat} {hp : Hp} {ev : Operand → Option AV} {ops : Array Oper} {σ : St} {K : (Nat → Option AV) → Prop} {f f' : Nat → Option AV}

theorem qop_mono {op : Op} {ty : Nat} {av : AV} {ev ev' : Operand → Option AV} (h : ∀ x a, ev x = some a → ev' x = some a) (hq : QOp P E nx hp ev op ty av) : QOp P E nx hp ev' op ty av :=
  fun d pos after θ a w K hs hk => hq d pos after θ a w K ⟨hs.fr, hs.owns, hs.X, fun hx => hs.rel (h _ _ hx), hs.apart, hs.fresh⟩ hk

theorem opV_rs {op : Op} {ty : Nat} {F : AV → Prop} (h : OpV P op ev hp F) : ∃ av, QOp P E nx hp (rs op ev) op ty av ∧ F av :=
  opV_q (opV_congr (fun x hx => by simp [rs, hx]) h)

/-- One operation, from its operands alone. -/
def QS (P : Program) (E : Env) (nx : Nat) (hp : Hp) (ops : Array Oper) (o : Oper) (f : Nat → Option AV) (av : AV) : Prop :=
  match o.guard with
  | none => QOp P E nx hp (rs o.op (evF f)) o.op o.type av
  | some (j, g) => ∃ dj, (ops[j]?).bind (·.dst) = some dj ∧ ((f dj = some (.v (.bool g)) ∧ QOp P E nx hp (rs o.op (evF f)) o.op o.type av) ∨ (f dj = some (.v (.bool (!g))) ∧ av = .v undef) ∨ ∃ t, f dj = some (.v (.tuple t)) ∧ av = .v undef)

theorem rs_congr {op : Op} (h : ∀ x ∈ op.operands.toList, evF f x = evF f' x) : rs op (evF f) = rs op (evF f') := by
  funext x
  unfold rs
  split
  · rename_i hx; exact h x hx
  · rfl

theorem QS.congr {o : Oper} {av : AV} (h : ∀ d ∈ o.looksAt ops, f d = f' d) (hq : QS P E nx hp ops o f av) : QS P E nx hp ops o f' av := by
  have hr : rs o.op (evF f) = rs o.op (evF f') := rs_congr fun x hx => by
    cases x with
    | tmp t => exact h t (List.mem_append_left _ (List.mem_filterMap.2 ⟨.tmp t, hx, rfl⟩))
    | _ => rfl
  unfold QS at hq ⊢
  split at hq
  · rw [← hr]; exact hq
  · rename_i j g hg
    obtain ⟨dj, hj, hq⟩ := hq
    have hd : f dj = f' dj := h dj (by simp [Oper.looksAt, hg, hj])
    refine ⟨dj, hj, ?_⟩
    rw [← hr, ← hd]
    exact hq

def QW (P : Program) (E : Env) (n nx : Nat) (hp : Hp) (ops : Array Oper) : List Oper → (Nat → Option AV) → ((Nat → Option AV) → Prop) → Prop
  | [], f, K => K f
  | o :: r, f, K => ∃ d av, o.dst = some d ∧ d < n ∧ QS P E nx hp ops o f av ∧ QW P E n nx hp ops r (setF f d av) K

theorem setF_comm {d e : Nat} {a b : AV} (h : d ≠ e) : setF (setF f d a) e b = setF (setF f e b) d a := by
  funext s
  unfold setF
  by_cases h1 : e = s
  · subst h1; simp [h]
  · simp [h1]

theorem QW.swap {x y : Oper} {r : List Oper} (hap : x.apart ops y = true) (h : QW P E n nx hp ops (x :: y :: r) f K) : QW P E n nx hp ops (y :: x :: r) f K := by
  obtain ⟨dx, ax, hdx, hnx, hqx, dy, ay, hdy, hny, hqy, hr⟩ := h
  obtain ⟨h1, h2, h3⟩ := Oper.apart_spec hap
  have hne : dx ≠ dy := fun e => h2 dx hdx (e ▸ hdy)
  have hy : QS P E nx hp ops y f ay := hqy.congr fun s hs => by
    have : dx ≠ s := fun e => h1 dx hdx (e ▸ hs)
    simp [setF, this]
  have hx : QS P E nx hp ops x (setF f dy ay) ax := hqx.congr fun s hs => by
    have : dy ≠ s := fun e => h3 dy hdy (e ▸ hs)
    simp [setF, this]
  exact ⟨dy, ay, hdy, hny, hy, dx, ax, hdx, hnx, hx, by rw [← setF_comm hne]; exact hr⟩

theorem QW.first {o : Oper} : ∀ {pre post : List Oper} {f : Nat → Option AV}, (∀ p ∈ pre, p.apart ops o = true) → QW P E n nx hp ops (pre ++ o :: post) f K → QW P E n nx hp ops (o :: (pre ++ post)) f K
  | [], post, f, _, h => h
  | p :: pre, post, f, hap, h => by
    obtain ⟨d, av, hd, hn, hq, hr⟩ := h
    have := QW.first (pre := pre) (fun q hq => hap q (by simp [hq])) hr
    exact QW.swap (hap p (by simp)) ⟨d, av, hd, hn, hq, this⟩

/-- Whatever may be done ahead of another operation is apart from it. -/
def pairB (ops : Array Oper) (i j : Nat) : Bool :=
  match ops[i]?, ops[j]? with
  | some oi, some oj => oi.after.any (fun e => Region.binds .any e && Nat.beq e.on j) || oj.apart ops oi
  | _, _ => true
def backB (ops : Array Oper) (i : Nat) : Bool :=
  match ops[i]? with
  | some o => o.after.all fun e => !Region.binds .any e || Nat.blt e.on i
  | none => true
def drawB (ops : Array Oper) : Bool := (List.range ops.size).all fun i => backB ops i && (List.range i).all fun j => pairB ops i j

theorem drawB_spec (h : drawB ops = true) {i j : Nat} {oi oj : Oper} (hij : j < i) (hi : ops[i]? = some oi) (hj : ops[j]? = some oj) : (∃ e ∈ oi.after, Region.binds .any e = true ∧ e.on = j) ∨ oj.apart ops oi = true := by
  have hlt : i < ops.size := (Array.getElem?_eq_some_iff.1 hi).1
  unfold drawB at h
  rw [List.all_eq_true] at h
  have h1 := h i (List.mem_range.2 hlt)
  rw [Bool.and_eq_true, List.all_eq_true] at h1
  have h2 := h1.2 j (List.mem_range.2 hij)
  unfold pairB at h2
  rw [hi, hj] at h2
  simp only [Bool.or_eq_true] at h2
  rcases h2 with h2 | h2
  · left
    obtain ⟨k, hk, h3⟩ := Array.any_eq_true.1 h2
    simp only [Bool.and_eq_true] at h3
    exact ⟨oi.after[k], Array.getElem_mem hk, h3.1, Nat.eq_of_beq_eq_true h3.2⟩
  · exact .inr h2

theorem backB_spec (h : drawB ops = true) {i : Nat} {oi : Oper} (hi : ops[i]? = some oi) : ∀ e ∈ oi.after, Region.binds .any e = true → e.on < i := by
  have hlt : i < ops.size := (Array.getElem?_eq_some_iff.1 hi).1
  unfold drawB at h
  rw [List.all_eq_true] at h
  have h1 := h i (List.mem_range.2 hlt)
  rw [Bool.and_eq_true] at h1
  have h2 := h1.1
  unfold backB at h2
  rw [hi] at h2
  intro e he hb
  simp only [Array.all_eq_true_iff_forall_mem, Bool.or_eq_true] at h2
  have := h2 e he
  rw [hb] at this
  simpa [Nat.blt_eq] using this

/-- The operations that are not done yet, in the text's order. -/
def left (ops : Array Oper) (listed : Array Bool) : List Nat := (List.range ops.size).filter fun i => !listed.getD i true

def SatF (E : Env) (n nx : Nat) (hp : Hp) (f : Nat → Option AV) (a : Act) (w : World) : Prop := ∃ σ : St, (∀ s, look σ.sl s = f s) ∧ σ.nx = nx ∧ σ.hp = hp ∧ Sat E n σ a w

theorem qs_wp {o : Oper} {d : Nat} {av : AV} {a : Act} {w : World} {Q : Exit → Act → World → Prop} {C : Act → World → Prop} {i : Nat} (hi : ops[i]? = some o) (hd : o.dst = some d) (hn : d < n) (hq : QS P E nx hp ops o f av) (hs : SatF E n nx hp f a w)
    (hk : ∀ a' w', SatF E n nx hp (setF f d av) a' w' → C a' w') : wpOp P ops Q i C a w := by
  obtain ⟨σ, hl, rfl, rfl, θ, hs⟩ := hs
  have hev : evF f = evO σ := by rw [evO_evF]; congr 1; funext s; exact (hl s).symm
  have step : ∀ {v : Value} {w' : World}, Below w.heap.size w w' → Rel (cx E θ σ w') av v → C (a.put (some d) v) w' := fun hb hr =>
    hk _ _ ⟨σ.put d av, fun s => by simp only [St.put, look_cons, setF, hl], rfl, rfl, θ, (hs.below hb).put hn hr⟩
  unfold wpOp
  simp only [hi]
  have wantV : ∀ {t : Nat} {b : Bool}, f t = some (.v (.bool b)) → a.tmps[t]? = some (.bool b) := by
    intro t b hb
    have h1 := (hs.slots t _ (by rw [hl]; exact hb)).val
    rw [Array.getD_eq_getD_getElem?] at h1
    cases hg : a.tmps[t]? with
    | none => rw [hg] at h1; exact absurd h1 (by simp [undef])
    | some v => rw [hg] at h1; simp at h1; rw [h1]
  have run : QOp P E σ.nx σ.hp (rs o.op (evF f)) o.op o.type av → o.wp P a w C Q := by
    intro hq
    have hq' : QOp P E σ.nx σ.hp (evO σ) o.op o.type av := qop_mono (fun x b hx => by
      unfold rs at hx
      split at hx
      · rw [← hev]; exact hx
      · cases hx) hq
    have hv := hq' o.dst o.pos o.after θ a w (fun v w' => Below w.heap.size w w' ∧ Rel (cx E θ σ w') av v) hs.evT fun v w' hb hr => ⟨hb, hr⟩
    have hvw : VWp P o a w (fun v w' => Below w.heap.size w w' ∧ Rel (cx E θ σ w') av v) := by
      have e : VWp P o a w = VWp P ⟨o.dst, o.op, o.type, o.pos, o.after, none⟩ a w := by
        funext K
        unfold VWp
        have : execOp a.eval o = execOp a.eval ⟨o.dst, o.op, o.type, o.pos, o.after, none⟩ := by
          obtain ⟨_, op, _, _, _, _⟩ := o
          cases op <;> rfl
        rw [this]
      rw [e]
      exact hv
    exact vwp_wp hvw fun v w' hv => by rw [hd]; exact step hv.1 hv.2
  unfold QS at hq
  split at hq
  · rename_i hg
    rw [if_pos (by simp [Region.wanted, hg])]
    exact .inl (run hq)
  · rename_i j g hg
    obtain ⟨dj, hj, hq⟩ := hq
    rcases hq with ⟨hb, hq⟩ | ⟨hb, rfl⟩ | ⟨t, hb, rfl⟩
    · have : yielded ops a.tmps j = some g := by simp [yielded, hj, wantV hb]
      rw [if_pos (by simp [Region.wanted, hg, this])]
      exact .inl (run hq)
    · have : yielded ops a.tmps j = some (!g) := by simp [yielded, hj, wantV hb]
      rw [if_neg (by simp [Region.wanted, hg, this])]
      rw [hd]
      exact step (Below.refl _ _) (.im (.v _))
    · have : yielded ops a.tmps j = none := by
        have h1 := (hs.slots dj _ (by rw [hl]; exact hb)).val
        rw [Array.getD_eq_getD_getElem?] at h1
        unfold yielded
        rw [hj]
        simp only [Option.bind_some]
        cases hg : a.tmps[dj]? with
        | none => rfl
        | some v => rw [hg] at h1; simp at h1; rw [h1]
      rw [if_neg (by simp [Region.wanted, hg, this])]
      rw [hd]
      exact step (Below.refl _ _) (.im (.v _))

theorem filter_split {α : Type} (p : α → Bool) : ∀ (l : List α) (x : α), x ∈ l → p x = true → ∃ pre post, l.filter p = pre ++ x :: post ∧ ∀ y ∈ pre, y ∈ l ∧ p y = true := by
  intro l x hx hp
  have : x ∈ l.filter p := List.mem_filter.2 ⟨hx, hp⟩
  obtain ⟨pre, post, h⟩ := List.append_of_mem this
  exact ⟨pre, post, h, fun y hy => List.mem_filter.1 (h ▸ List.mem_append_left _ hy)⟩

theorem sorted_range_filter (p : Nat → Bool) (m : Nat) {pre post : List Nat} {i : Nat} (h : (List.range m).filter p = pre ++ i :: post) : (∀ j ∈ pre, j < i) ∧ i ∉ pre ∧ i ∉ post := by
  have hs : ((List.range m).filter p).Pairwise (· < ·) := List.Pairwise.filter _ (List.pairwise_lt_range)
  rw [h, List.pairwise_append] at hs
  obtain ⟨_, h2, h3⟩ := hs
  rw [List.pairwise_cons] at h2
  have h4 : ∀ j ∈ pre, j < i := fun j hj => h3 j hj i (by simp)
  exact ⟨h4, fun hc => Nat.lt_irrefl _ (h4 i hc), fun hc => Nat.lt_irrefl _ (h2.1 i hc)⟩

theorem left_set {listed : Array Bool} {i : Nat} {pre post : List Nat} (h : left ops listed = pre ++ i :: post) : left ops (listed.setIfInBounds i true) = pre ++ post := by
  obtain ⟨_, h2, h3⟩ := sorted_range_filter _ _ h
  have e : left ops (listed.setIfInBounds i true) = (left ops listed).filter (fun j => decide (j ≠ i)) := by
    unfold left
    rw [List.filter_filter]
    congr 1
    funext j
    by_cases hj : j = i
    · subst hj
      by_cases hlt : j < listed.size
      · simp [Array.getD, hlt]
      · simp [Array.getD, hlt]
    · have : (listed.setIfInBounds i true).getD j true = listed.getD j true := by
        rw [Array.getD_eq_getD_getElem?, Array.getD_eq_getD_getElem?, Array.getElem?_setIfInBounds_ne (Ne.symm hj)]
      rw [this]
      simp [hj]
  rw [e, h, List.filter_append, List.filter_cons_of_neg (by simp)]
  congr 1
  · exact List.filter_eq_self.2 fun j hj => by simp; exact fun e => h2 (e ▸ hj)
  · exact List.filter_eq_self.2 fun j hj => by simp; exact fun e => h3 (e ▸ hj)

def opsOf (ops : Array Oper) (l : List Nat) : List Oper := l.filterMap fun i => ops[i]?

theorem ready_left {listed : Array Bool} {j : Nat} (hj : j ∈ Region.ready .any ops listed) : j ∈ left ops listed := by
  obtain ⟨h1, o, ho, _⟩ := mem_ready.1 hj
  exact List.mem_filter.2 ⟨List.mem_range.2 (Array.getElem?_eq_some_iff.1 ho).1, by rw [h1]; rfl⟩

theorem opsOf_append (l m : List Nat) : opsOf ops (l ++ m) = opsOf ops l ++ opsOf ops m := List.filterMap_append ..
theorem opsOf_cons {i : Nat} {o : Oper} (h : ops[i]? = some o) (m : List Nat) : opsOf ops (i :: m) = o :: opsOf ops m := by simp [opsOf, h]

theorem ready_ne (hdr : drawB ops = true) {listed : Array Bool} (hsz : listed.size = ops.size) {i : Nat} {r : List Nat} (h : left ops listed = i :: r) : i ∈ Region.ready .any ops listed := by
  have hi : i ∈ left ops listed := by rw [h]; simp
  obtain ⟨h1, h2⟩ := List.mem_filter.1 hi
  have hlt := List.mem_range.1 h1
  refine mem_ready.2 ⟨by simpa using h2, ops[i], Array.getElem?_eq_getElem hlt, fun e he hb => ?_⟩
  have hbk := backB_spec hdr (Array.getElem?_eq_getElem hlt) e he hb
  cases hx : listed.getD e.on false with
  | true => rfl
  | false =>
    exfalso
    have hlt2 : e.on < listed.size := by omega
    have hx2 : listed.getD e.on true = false := by
      simp [Array.getD, hlt2] at hx ⊢; exact hx
    have hm : e.on ∈ left ops listed := List.mem_filter.2 ⟨List.mem_range.2 (by omega), by rw [hx2]; rfl⟩
    have hs : (left ops listed).Pairwise (· < ·) := List.Pairwise.filter _ (List.pairwise_lt_range)
    rw [h] at hm hs
    rcases List.mem_cons.1 hm with h3 | h3
    · omega
    · have := (List.pairwise_cons.1 hs).1 _ h3
      omega

theorem qw_any (hdr : drawB ops = true) {Q : Exit → Act → World → Prop} (hK : ∀ f' a' w', K f' → SatF E n nx hp f' a' w' → Q .normal a' w') : ∀ (fuel : Nat) (listed : Array Bool) (f : Nat → Option AV) (a : Act) (w : World), listed.size = ops.size →
    (left ops listed).length ≤ fuel → QW P E n nx hp ops (opsOf ops (left ops listed)) f K → SatF E n nx hp f a w → wpAny P .any ops Q fuel listed a w := by
  intro fuel
  induction fuel with
  | zero =>
    intro listed f a w hsz hlen hq hs
    have hnil : left ops listed = [] := List.eq_nil_of_length_eq_zero (by omega)
    rw [hnil] at hq
    refine ⟨?_, hK f a w hq hs⟩
    cases hr : Region.ready .any ops listed with
    | nil => rfl
    | cons j r => have := ready_left (ops := ops) (listed := listed) (j := j) (by rw [hr]; simp); rw [hnil] at this; cases this
  | succ fuel ih =>
    intro listed f a w hsz hlen hq hs
    refine ⟨fun hr => ?_, fun i hi => ?_⟩
    · cases hl : left ops listed with
      | nil => rw [hl] at hq; exact hK f a w hq hs
      | cons i r => have := ready_ne hdr hsz hl; rw [hr] at this; cases this
    · obtain ⟨pre, post, hsplit⟩ := List.append_of_mem (ready_left hi)
      obtain ⟨hun, oi, hoi, haft⟩ := mem_ready.1 hi
      have hpre := (sorted_range_filter _ _ hsplit).1
      rw [hsplit, opsOf_append, opsOf_cons hoi] at hq
      have hq' := QW.first (fun p hp => by
        obtain ⟨j, hj, hpj⟩ := List.mem_filterMap.1 hp
        rcases drawB_spec hdr (hpre j hj) hoi hpj with ⟨e, he, hb, rfl⟩ | h
        · exfalso
          have h1 := haft e he hb
          have h2 : e.on ∈ left ops listed := by rw [hsplit]; simp [hj]
          have h3 := (List.mem_filter.1 h2).2
          have h4 : listed.getD e.on true = false := by simpa using h3
          by_cases hlt : e.on < listed.size
          · simp [Array.getD, hlt] at h1 h4; rw [h1] at h4; cases h4
          · simp [Array.getD, hlt] at h1
        · exact h) hq
      obtain ⟨d, av, hd, hn, hqs, hr⟩ := hq'
      refine qs_wp hoi hd hn hqs hs fun a' w' hs' => ih _ _ a' w' (by simpa using hsz) ?_ ?_ hs'
      · rw [left_set hsplit]
        rw [hsplit] at hlen
        simp at hlen ⊢
        omega
      · rw [left_set hsplit, opsOf_append]
        exact hr

/-! ### The walk in the text's order -/
def DQ (P : Program) (E : Env) (n : Nat) (ops : Array Oper) (l : List Oper) (σ : St) (K : St → Prop) : Prop :=
  QW P E n σ.nx σ.hp ops l (look σ.sl) fun f => ∃ τ : St, (∀ s, look τ.sl s = f s) ∧ τ.nx = σ.nx ∧ τ.hp = σ.hp ∧ K τ

theorem look_put (σ : St) (d : Nat) (a : AV) : look (σ.put d a).sl = setF (look σ.sl) d a := by
  funext s; simp only [St.put, look_cons, setF]

theorem dq_put {l : List Oper} {d : Nat} {av : AV} {K : St → Prop} : DQ P E n ops l (σ.put d av) K → QW P E n σ.nx σ.hp ops l (setF (look σ.sl) d av) fun f => ∃ τ : St, (∀ s, look τ.sl s = f s) ∧ τ.nx = σ.nx ∧ τ.hp = σ.hp ∧ K τ := by
  intro h
  unfold DQ at h
  rw [look_put] at h
  exact h

theorem put_same {d : Nat} {a : AV} (h : look σ.sl d = some a) : look (σ.put d a).sl = look σ.sl := by
  funext s
  simp only [St.put, look_cons]
  by_cases e : d = s
  · subst e; rw [if_pos rfl, h]
  · rw [if_neg e]

theorem dq_same {l : List Oper} {d : Nat} {av : AV} {K : St → Prop} (hd : look σ.sl d = some av) (h : DQ P E n ops l (σ.put d av) K) : DQ P E n ops l σ K := by
  unfold DQ at h ⊢
  rw [put_same hd] at h
  exact h

def DGoP (P : Program) (E : Env) (n : Nat) (ops : Array Oper) (l : List Oper) (σ : St) (K : St → Prop) : Prop :=
  match l with
  | [] => K σ
  | ⟨some d, op, _, _, _, none⟩ :: rest => cond (Nat.blt d n) (OpV P op (evO σ) σ.hp fun av => DQ P E n ops rest (σ.put d av) K) False
  | ⟨some d, op, _, _, _, some (j, g)⟩ :: rest => match (ops[j]?).bind (·.dst) with
    | some dj => cond (Nat.blt d n) (match look σ.sl dj with
      | some (.v (.bool b)) => GuardP b g (OpV P op (evO (σ.put dj (.v (.bool g)))) σ.hp fun av => DQ P E n ops rest ((σ.put dj (.v (.bool g))).put d av) K)
          (DQ P E n ops rest ((σ.put dj (.v (.bool !g))).put d (.v undef)) K)
      | some (.v (.tuple t)) => DQ P E n ops rest (σ.put d (.v undef)) K
      | _ => False) False
    | none => False
  | _ => False

theorem dq_go {l : List Oper} {K : St → Prop} (h : DGoP P E n ops l σ K) : DQ P E n ops l σ K := by
  unfold DGoP at h
  split at h
  · exact ⟨σ, fun _ => rfl, rfl, rfl, h⟩
  · rename_i d op ty pos after rest
    obtain ⟨hd, h⟩ := cond_false h
    obtain ⟨av, hq, h⟩ := opV_rs (E := E) (nx := σ.nx) (ty := ty) h
    exact ⟨d, av, rfl, Nat.blt_eq ▸ hd, by unfold QS; rw [← evO_evF]; exact hq, dq_put h⟩
  · rename_i d op ty pos after j g rest
    split at h
    · rename_i dj hj
      obtain ⟨hd, h⟩ := cond_false h
      split at h
      · rename_i b hb
        cases hbg : (b == g) with
        | true =>
          have hbg : b = g := by simpa using hbg
          subst hbg
          have h1 := h.t rfl
          obtain ⟨av, hq, h2⟩ := opV_rs (E := E) (nx := σ.nx) (ty := ty) h1
          have e : look (σ.put dj (.v (.bool b))).sl = look σ.sl := put_same hb
          rw [evO_evF, e] at hq
          refine ⟨d, av, rfl, Nat.blt_eq ▸ hd, ⟨dj, hj, .inl ⟨hb, hq⟩⟩, ?_⟩
          have h3 := dq_put h2
          rw [e] at h3
          exact h3
        | false =>
          have hbg : b = !g := by cases b <;> cases g <;> simp_all
          have h1 := h.f hbg
          have e : look (σ.put dj (.v (.bool !g))).sl = look σ.sl := put_same (hbg ▸ hb)
          refine ⟨d, _, rfl, Nat.blt_eq ▸ hd, ⟨dj, hj, .inr (.inl ⟨hbg ▸ hb, rfl⟩)⟩, ?_⟩
          have h3 := dq_put h1
          rw [e] at h3
          exact h3
      · rename_i t hb
        exact ⟨d, _, rfl, Nat.blt_eq ▸ hd, ⟨dj, hj, .inr (.inr ⟨t, hb, rfl⟩)⟩, dq_put h⟩
      · exact h.elim
    · exact h.elim
  · exact h.elim

theorem draw_q {id : Nat} {Q : Exit → St → Prop} [hm : TMix P] (hdr : drawB ops = true) (h : DQ P E n ops ops.toList σ fun σ' => Q .normal σ') : DrawP P E n id ops σ Q := by
  refine ⟨fun a w ⟨θ, hs⟩ => wp_region_any hm.out ?_⟩
  have hb : Below w.heap.size w { w with drawn := w.drawn + 1 } := Below.drew (Below.refl _ _)
  refine qw_any hdr (K := fun f => ∃ τ : St, (∀ s, look τ.sl s = f s) ∧ τ.nx = σ.nx ∧ τ.hp = σ.hp ∧ Q .normal τ) (fun f' a' w' hk hs' => ?_) ops.size _ (look σ.sl) a _ (by simp) ?_ ?_ ⟨σ, fun _ => rfl, rfl, rfl, θ, hs.below hb⟩
  · obtain ⟨τ, h1, h2, h3, h4⟩ := hk
    obtain ⟨σ2, g1, g2, g3, θ2, hs2⟩ := hs'
    refine ⟨τ, h4, θ2, ?_⟩
    have e1 : σ2.nx = τ.nx := by rw [g2, h2]
    have e2 : σ2.hp = τ.hp := by rw [g3, h3]
    have e3 : ∀ s, look τ.sl s = look σ2.sl s := fun s => by rw [h1, g1]
    have ec : cx E θ2 σ2 w' = cx E θ2 τ w' := by unfold cx; rw [e1, e2]
    exact ⟨hs2.size, hs2.defers, hs2.fr, fun s x hx => by rw [← ec]; exact hs2.slots s x (by rw [← e3]; exact hx), fun i b hi => by rw [← ec, ← e1]; exact hs2.owns i b (by rw [e2]; exact hi), fun i j b b' k hi hj => hs2.apart i j b b' k (by rw [e2]; exact hi) (by rw [e2]; exact hj), fun i b k hi => hs2.mine i b k (by rw [e2]; exact hi), hs2.X, by rw [← e1]; exact hs2.base⟩
  · unfold left
    exact Nat.le_trans (List.length_filter_le _ _) (by simp)
  · have e : left ops (Array.replicate ops.size false) = List.range ops.size := by
      unfold left
      refine List.filter_eq_self.2 fun i hi => ?_
      have := List.mem_range.1 hi
      simp [Array.getD, this]
    rw [e]
    have e2 : opsOf ops (List.range ops.size) = ops.toList := by
      unfold opsOf
      apply List.ext_getElem?
      intro i
      have : ∀ (m : Nat), m ≤ ops.size → (List.range m).filterMap (fun i => ops[i]?) = ops.toList.take m := by
        intro m
        induction m with
        | zero => intro _; simp
        | succ m ih =>
          intro hm
          rw [List.range_succ, List.filterMap_append, ih (by omega), List.take_add_one]
          congr 1
          have hlt : m < ops.size := by omega
          simp [hlt]
      rw [this ops.size (Nat.le_refl _)]
      congr 1
      exact List.take_of_length_le (by simp)
    rw [e2]
    exact h
end quiet
end Go.Av

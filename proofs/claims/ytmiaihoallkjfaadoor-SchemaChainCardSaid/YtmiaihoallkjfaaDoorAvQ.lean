/- Quiet operations: they hand back a value and write nothing that was there. -/
import Derived.Test.YtmiaihoallkjfaaDoorAv
namespace Go.Av
open Go Go.RowKit
set_option linter.unusedSimpArgs false
set_option linter.unusedVariables false
set_option linter.unnecessarySimpa false

/-! ### What is asked of the program's types -/
class TZero (P : Program) (T : Nat) (l : outParam (List Value)) : Prop where
  out : ∃ i z, P.info? T = some i ∧ i.zero = some z ∧ z.cells = l.toArray
class TVar (P : Program) (T : Nat) (agg : outParam Bool) (sz : outParam Nat) : Prop where
  out : ∃ i d, P.info? T = some i ∧ P.underlying T = some d ∧ i.size = sz ∧ (match d with | .struct _ | .array _ _ => true | _ => false) = agg
class TFld (P : Program) (S f : Nat) (off sz : outParam Nat) : Prop where
  out : ∃ fs fd i, P.underlying S = some (.struct fs) ∧ fs[f]? = some fd ∧ fd.offset = off ∧ P.info? fd.type = some i ∧ i.size = sz
class TSl (P : Program) (T : Nat) (e sz : outParam Nat) : Prop where
  out : P.underlying T = some (.slice e) ∧ ∃ i, P.info? e = some i ∧ i.size = sz
class TArr (P : Program) (T : Nat) (len e sz : outParam Nat) : Prop where
  out : P.underlying T = some (.array len e) ∧ ∃ i, P.info? e = some i ∧ i.size = sz
class TBytes (P : Program) (T : Nat) (n : outParam Nat) : Prop where
  out : ∃ i, P.info? T = some i ∧ i.bytes = n
class TStr (P : Program) (T : Nat) : Prop where
  out : P.underlying T = some .string
class TBool (P : Program) (T : Nat) : Prop where
  out : P.underlying T = some .bool
class TInt (P : Program) (T : Nat) (k : outParam IntKind) : Prop where
  out : P.underlying T = some (.int k)
class TMap (P : Program) (T : Nat) (k e : outParam Nat) : Prop where
  out : P.underlying T = some (.map k e)

def aggD : TypeDesc → Bool
  | .struct _ | .array _ _ => true
  | _ => false
theorem TZero.of {P : Program} {T : Nat} {l : List Value} (h : ((P.info? T).bind fun i => i.zero.map (·.cells)) = some l.toArray) : TZero P T l := by
  cases hi : P.info? T with
  | none => simp [hi] at h
  | some i =>
    cases hz : i.zero with
    | none => simp [hi, hz] at h
    | some z => simp [hi, hz] at h; exact ⟨i, z, hi, hz, h⟩
theorem TVar.of {P : Program} {T sz : Nat} {ag : Bool} (h : (P.info? T).map (·.size) = some sz) (h2 : (P.underlying T).map aggD = some ag) : TVar P T ag sz := by
  cases hi : P.info? T with
  | none => simp [hi] at h
  | some i =>
    cases hu : P.underlying T with
    | none => simp [hu] at h2
    | some d =>
      simp [hi] at h
      simp [hu] at h2
      refine ⟨i, d, hi, hu, h, ?_⟩
      rw [← h2]
      cases d <;> rfl
def fldAt (P : Program) (S f : Nat) : Option (Nat × Nat) :=
  match P.underlying S with
  | some (.struct fs) => (fs[f]?).bind fun fd => (P.info? fd.type).map fun i => (fd.offset, i.size)
  | _ => none
theorem TFld.of {P : Program} {S f off sz : Nat} (h : fldAt P S f = some (off, sz)) : TFld P S f off sz := by
  unfold fldAt at h
  split at h
  · rename_i fs hu
    cases hf : fs[f]? with
    | none => simp [hf] at h
    | some fd =>
      cases hi : P.info? fd.type with
      | none => simp [hf, hi] at h
      | some i =>
        simp [hf, hi] at h
        exact ⟨fs, fd, i, hu, hf, h.1, hi, h.2⟩
  · cases h
theorem TSl.of {P : Program} {T e sz : Nat} (h : P.underlying T = some (.slice e)) (h2 : (P.info? e).map (·.size) = some sz) : TSl P T e sz := by
  cases hi : P.info? e with
  | none => simp [hi] at h2
  | some i => simp [hi] at h2; exact ⟨h, i, hi, h2⟩
theorem TArr.of {P : Program} {T len e sz : Nat} (h : P.underlying T = some (.array len e)) (h2 : (P.info? e).map (·.size) = some sz) : TArr P T len e sz := by
  cases hi : P.info? e with
  | none => simp [hi] at h2
  | some i => simp [hi] at h2; exact ⟨h, i, hi, h2⟩
theorem TBytes.of {P : Program} {T n : Nat} (h : (P.info? T).map (·.bytes) = some n) : TBytes P T n := by
  cases hi : P.info? T with
  | none => simp [hi] at h
  | some i => simp [hi] at h; exact ⟨i, hi, h⟩

/-! ### Facts at an operation -/
def kx (E : Env) (θ : Nat → Value) (nx : Nat) (hp : Hp) (w : World) : Cx := ⟨θ, nx, hp, E.X, w⟩

structure EvT (E : Env) (θ : Nat → Value) (nx : Nat) (hp : Hp) (ev : Operand → Option AV) (a : Act) (w : World) : Prop where
  fr : Fr E w
  owns : ∀ i b, lookB hp i = some b → i < nx ∧ OwnOk (kx E θ nx hp w) i b
  X : ∀ k, E.X k → k < E.w0.heap.size
  rel : ∀ {x av}, ev x = some av → Rel (kx E θ nx hp w) av (a.eval x)
  apart : ∀ i j b b' k, lookB hp i = some b → lookB hp j = some b' → fp (θ i) = some k → fp (θ j) = some k → i = j
  fresh : ∀ i b k, lookB hp i = some b → fp (θ i) = some k → ¬ E.X k

theorem EvT.Ult {E : Env} {θ : Nat → Value} {nx : Nat} {hp : Hp} {ev : Operand → Option AV} {a : Act} {w : World} (hs : EvT E θ nx hp ev a w) : ∀ k, (kx E θ nx hp w).U k → k < w.heap.size := by
  rintro k (hk | ⟨i, b, hi, hk⟩)
  · have h1 := hs.X k hk
    have h2 := hs.fr.size
    omega
  · exact (hs.owns i b hi).2.lt hk

theorem SatT.evT {E : Env} {n : Nat} {θ : Nat → Value} {σ : St} {a : Act} {w : World} (h : SatT E n θ σ a w) : EvT E θ σ.nx σ.hp (evO σ) a w := ⟨h.fr, h.owns, h.X, fun hx => h.ev hx, h.apart, fun i b k hi hk => (h.mine i b k hi hk).1⟩

def VWp (P : Program) (o : Oper) (a : Act) (w : World) (K : Value → World → Prop) : Prop :=
  match (execOp a.eval o).run P w with
  | .ok (.value v) w' => K v w'
  | .ok (.enter f args) w' => Calls P f args w' fun e w'' => ∃ v, e = .returned v ∧ K v w''
  | _ => False

/-- The operation hands back what reads as av, whatever else holds. -/
def QOp (P : Program) (E : Env) (nx : Nat) (hp : Hp) (ev : Operand → Option AV) (op : Op) (ty : TypeId) (av : AV) : Prop :=
  ∀ d pos after θ a w K, EvT E θ nx hp ev a w → (∀ v w', Below w.heap.size w w' → Rel (kx E θ nx hp w') av v → K v w') → VWp P ⟨d, op, ty, pos, after, none⟩ a w K

theorem vwp_wp {P : Program} {o : Oper} {a : Act} {w : World} {K : Value → World → Prop} {next : Act → World → Prop} {Q : Exit → Act → World → Prop} (h : VWp P o a w K) (hk : ∀ v w', K v w' → next (a.put o.dst v) w') : o.wp P a w next Q := by
  unfold VWp at h
  unfold Oper.wp
  split at h
  · rename_i v w' hr
    rw [hr]
    exact hk _ _ h
  · rename_i f args w' hr
    rw [hr]
    refine Calls.mono h ?_
    rintro e w'' ⟨v, rfl, hv⟩
    exact hk _ _ hv
  · exact h.elim

section rules
variable {P : Program} {E : Env} {n nx : Nat} {hp : Hp} {ev : Operand → Option AV} {ops : Array Oper} {rest : List Oper} {σ : St} {K : St → Prop} {Q : Exit → St → Prop}
variable {ty : TypeId} {x y : Operand}

theorem aops_q {op : Op} {d : Nat} {pos : String} {after : Array Edge} {av : AV} (h : QOp P E σ.nx σ.hp (evO σ) op ty av) (hd : Nat.blt d n = true) (k : AOps P E n ops rest (σ.put d av) K) :
    AOps P E n ops (⟨some d, op, ty, pos, after, none⟩ :: rest) σ K := by
  intro a w ⟨θ, hs⟩
  unfold wpList
  rw [if_pos (by simp [Region.wanted])]
  left
  exact vwp_wp (h (some d) pos after θ a w _ hs.evT fun v w' hb hr => (⟨hb, hr⟩ : Below w.heap.size w w' ∧ Rel (kx E θ σ.nx σ.hp w') av v)) fun v w' hv => k _ _ ⟨θ, (hs.below hv.1).put (Nat.blt_eq ▸ hd) hv.2⟩

theorem q_pure {op : Op} {av : AV} (hrun : ∀ d pos after θ a w, EvT E θ nx hp ev a w → ∃ v, (execOp a.eval ⟨d, op, ty, pos, after, none⟩).run P w = .ok (.value v) w ∧ Rel (kx E θ nx hp w) av v) : QOp P E nx hp ev op ty av := by
  intro d pos after θ a w K hs hk
  obtain ⟨v, hr, hv⟩ := hrun d pos after θ a w hs
  unfold VWp
  rw [hr]
  exact hk v w (Below.refl _ _) hv

/-- The operation hands back what reads as av, whatever the memory holds. -/
def POp (P : Program) (E : Env) (nx : Nat) (hp : Hp) (ev : Operand → Option AV) (op : Op) (ty : TypeId) (av : AV) : Prop :=
  ∀ d pos after θ a w, EvT E θ nx hp ev a w → ∃ v, (∀ w, (execOp a.eval ⟨d, op, ty, pos, after, none⟩).run P w = .ok (.value v) w) ∧ Rel (kx E θ nx hp w) av v
theorem POp.q {op : Op} {av : AV} (h : POp P E nx hp ev op ty av) : QOp P E nx hp ev op ty av := q_pure fun d pos after θ a w hs => by
  obtain ⟨v, h1, h2⟩ := h d pos after θ a w hs
  exact ⟨v, h1 w, h2⟩

theorem q_grow {op : Op} {av : AV} (hrun : ∀ d pos after θ a w, EvT E θ nx hp ev a w → ∃ v w', (execOp a.eval ⟨d, op, ty, pos, after, none⟩).run P w = .ok (.value v) w' ∧ Below w.heap.size w w' ∧ Rel (kx E θ nx hp w') av v) : QOp P E nx hp ev op ty av := by
  intro d pos after θ a w K hs hk
  obtain ⟨v, w', hr, hb, hv⟩ := hrun d pos after θ a w hs
  unfold VWp
  rw [hr]
  exact hk v w' hb hv

theorem q_move {av : AV} (hx : ev x = some av) : QOp P E nx hp ev (.move x) ty av := q_pure fun _ _ _ _ _ _ h => ⟨_, rfl, h.rel hx⟩
theorem q_assign {av : AV} (hx : ev x = some av) : QOp P E nx hp ev (.assign x) ty av := q_pure fun _ _ _ _ _ _ h => ⟨_, rfl, h.rel hx⟩
theorem q_pick_t {c : Operand} {av : AV} (hc : ev c = some (.v (.bool true))) (hx : ev x = some av) : QOp P E nx hp ev (.pick c x y) ty av :=
  q_pure fun _ _ _ _ _ _ h => ⟨_, by simp [execOp, (h.rel hc).val, asBool, Sem.run_pure], h.rel hx⟩
theorem q_pick_f {c : Operand} {av : AV} (hc : ev c = some (.v (.bool false))) (hy : ev y = some av) : QOp P E nx hp ev (.pick c x y) ty av :=
  q_pure fun _ _ _ _ _ _ h => ⟨_, by simp [execOp, (h.rel hc).val, asBool, Sem.run_pure], h.rel hy⟩

theorem beqI (a b : Int) : (a == b) = decide (a = b) := by by_cases h : a = b <;> simp [h]
theorem beqL (a b : List UInt8) : (a == b) = decide (a = b) := by by_cases h : a = b <;> simp [h]
theorem beqB (a b : Bool) : (a == b) = decide (a = b) := by by_cases h : a = b <;> simp [h]

/-- Two-place operators on numbers that cannot panic. -/
def binI : BinOp → IntKind → Int → Int → Option Value
  | .add, k, a, b => some (.int k (k.wrap (a + b)))
  | .sub, k, a, b => some (.int k (k.wrap (a - b)))
  | .mul, k, a, b => some (.int k (k.wrap (a * b)))
  | .eql, _, a, b => some (.bool (decide (a = b)))
  | .neq, _, a, b => some (.bool (decide (a ≠ b)))
  | .lss, _, a, b => some (.bool (decide (a < b)))
  | .leq, _, a, b => some (.bool (decide (a ≤ b)))
  | .gtr, _, a, b => some (.bool (decide (b < a)))
  | .geq, _, a, b => some (.bool (decide (b ≤ a)))
  | .and, k, a, b => some (.int k (k.wrap (BitVec.ofInt k.bits a &&& BitVec.ofInt k.bits b).toNat))
  | .or, k, a, b => some (.int k (k.wrap (BitVec.ofInt k.bits a ||| BitVec.ofInt k.bits b).toNat))
  | .xor, k, a, b => some (.int k (k.wrap (BitVec.ofInt k.bits a ^^^ BitVec.ofInt k.bits b).toNat))
  | .andNot, k, a, b => some (.int k (k.wrap (BitVec.ofInt k.bits a &&& ~~~ BitVec.ofInt k.bits b).toNat))
  | _, _, _, _ => none

theorem run_binI {op : BinOp} {k : IntKind} {a b : Int} {r : Value} (h : binI op k a b = some r) (T : TypeId) (w : World) : (binOp op T (.int k a) (.int k b)).run P w = .ok r w := by
  cases op <;> simp only [binI, Option.some.injEq, reduceCtorEq] at h <;> subst h <;>
    simp [binOp, Op.intArith, Op.intCmp, Op.intBits, Sem.run_pure, bne, beqI]

theorem eqGuard_int (op : BinOp) (T : TypeId) (k k' : IntKind) (a b : Int) (w : World) : (eqGuard op T x y (.int k a) (.int k' b)).run P w = .ok () w := by
  cases op <;> simp [eqGuard, Sem.run_pure]

theorem run_op_bin {op : BinOp} {T T2 : TypeId} {a : Act} {w : World} {r : Value} {d : Option Tmp} {pos : String} {after : Array Edge} (he : (eqGuard op T x y (a.eval x) (a.eval y)).run P w = .ok () w)
    (h : (binOp op T (a.eval x) (a.eval y)).run P w = .ok r w) : (execOp a.eval ⟨d, .binOp op T x y T2, ty, pos, after, none⟩).run P w = .ok (.value r) w := by
  simp [execOp, Sem.run_bind, Sem.run_pure, he, h]

theorem q_binI {op : BinOp} {T T2 : TypeId} {k : IntKind} {a b : Int} {r : Value} (hx : ev x = some (.v (.int k a))) (hy : ev y = some (.v (.int k b))) (hr : binI op k a b = some r) :
    QOp P E nx hp ev (.binOp op T x y T2) ty (.v r) :=
  q_pure fun _ _ _ _ _ w h => ⟨r, run_op_bin (by rw [(h.rel hx).val, (h.rel hy).val]; exact eqGuard_int ..) (by rw [(h.rel hx).val, (h.rel hy).val]; exact run_binI hr T w), .im (.v _)⟩

theorem wrap64_of {n : Int} (h : -9223372036854775808 ≤ n ∧ n ≤ 9223372036854775807) : IntKind.i64.wrap n = n := IntWalk.i64_in n h

theorem q_quo {T T2 : TypeId} {k : IntKind} {a b : Int} (hx : ev x = some (.v (.int k a))) (hy : ev y = some (.v (.int k b))) (hb : b ≠ 0) :
    QOp P E nx hp ev (.binOp .quo T x y T2) ty (.v (.int k (k.wrap (a.tdiv b)))) :=
  q_pure fun _ _ _ _ _ w h => ⟨_, run_op_bin (by rw [(h.rel hx).val, (h.rel hy).val]; exact eqGuard_int ..) (by rw [(h.rel hx).val, (h.rel hy).val]; simp [binOp, Op.intDiv, hb, Sem.run_pure]), .im (.v _)⟩
theorem q_rem {T T2 : TypeId} {k : IntKind} {a b : Int} (hx : ev x = some (.v (.int k a))) (hy : ev y = some (.v (.int k b))) (hb : b ≠ 0) :
    QOp P E nx hp ev (.binOp .rem T x y T2) ty (.v (.int k (a.tmod b))) :=
  q_pure fun _ _ _ _ _ w h => ⟨_, run_op_bin (by rw [(h.rel hx).val, (h.rel hy).val]; exact eqGuard_int ..) (by rw [(h.rel hx).val, (h.rel hy).val]; simp [binOp, Op.intDiv, hb, Sem.run_pure]), .im (.v _)⟩
/-- Shifts by a count that is not negative. -/
theorem q_shl {T T2 : TypeId} {k k' : IntKind} {a b : Int} (hx : ev x = some (.v (.int k a))) (hy : ev y = some (.v (.int k' b))) (hb : 0 ≤ b) :
    QOp P E nx hp ev (.binOp .shl T x y T2) ty (.v (.int k (k.wrap (a * 2 ^ (min b.toNat k.bits))))) :=
  q_pure fun _ _ _ _ _ w h => ⟨_, run_op_bin (by rw [(h.rel hx).val, (h.rel hy).val]; exact eqGuard_int ..) (by
    have : ¬ b < 0 := by omega
    rw [(h.rel hx).val, (h.rel hy).val]; simp [binOp, Op.shift, this, Sem.run_pure]), .im (.v _)⟩
theorem q_shr {T T2 : TypeId} {k k' : IntKind} {a b : Int} (hx : ev x = some (.v (.int k a))) (hy : ev y = some (.v (.int k' b))) (hb : 0 ≤ b) :
    QOp P E nx hp ev (.binOp .shr T x y T2) ty (.v (.int k (a.fdiv (2 ^ (min b.toNat k.bits))))) :=
  q_pure fun _ _ _ _ _ w h => ⟨_, run_op_bin (by rw [(h.rel hx).val, (h.rel hy).val]; exact eqGuard_int ..) (by
    have : ¬ b < 0 := by omega
    rw [(h.rel hx).val, (h.rel hy).val]; simp [binOp, Op.shift, this, Sem.run_pure]), .im (.v _)⟩

theorem q_not {b : Bool} {T : TypeId} (hx : ev x = some (.v (.bool b))) : QOp P E nx hp ev (.unOp .not T x) ty (.v (.bool (!b))) :=
  q_pure fun _ _ _ _ _ _ h => ⟨_, by simp [execOp, Op.unary, (h.rel hx).val, Sem.run_bind, Sem.run_pure], .im (.v _)⟩
theorem q_neg {k : IntKind} {a : Int} {T : TypeId} (hx : ev x = some (.v (.int k a))) : QOp P E nx hp ev (.unOp .neg T x) ty (.v (.int k (k.wrap (-a)))) :=
  q_pure fun _ _ _ _ _ w h => ⟨_, by simp [execOp, Op.unary, Op.intArith, (h.rel hx).val, Sem.run_bind, Sem.run_pure], .im (.v _)⟩

abbrev AV.i (n : Int) : AV := .v (.int .i64 n)
abbrev AV.b (n : Bool) : AV := .v (.bool n)

def binS : BinOp → List UInt8 → List UInt8 → Option Value
  | .eql, a, b => some (.bool (decide (a = b)))
  | .neq, a, b => some (.bool (decide (a ≠ b)))
  | .lss, a, b => some (.bool (Op.bytesLess a b))
  | .geq, a, b => some (.bool (!Op.bytesLess a b))
  | .leq, a, b => some (.bool (Op.bytesLess a b || decide (a = b)))
  | .gtr, a, b => some (.bool (!(Op.bytesLess a b || decide (a = b))))
  | _, _, _ => none

theorem run_binS {op : BinOp} {a b : List UInt8} {r : Value} (h : binS op a b = some r) (T : TypeId) (w : World) : (binOp op T (.string ⟨a.toArray⟩) (.string ⟨b.toArray⟩)).run P w = .ok r w := by
  cases op <;> simp only [binS, Option.some.injEq, reduceCtorEq] at h <;> subst h <;>
    simp [binOp, Op.stringOp, Sem.run_pure, bne, beqL]
theorem eqGuard_str (op : BinOp) (T : TypeId) (a b : ByteArray) (w : World) : (eqGuard op T x y (.string a) (.string b)).run P w = .ok () w := by
  cases op <;> simp [eqGuard, Sem.run_pure]
theorem q_binS {op : BinOp} {T T2 : TypeId} {a b : List UInt8} {r : Value} (hx : ev x = some (.str a)) (hy : ev y = some (.str b)) (hr : binS op a b = some r) :
    QOp P E nx hp ev (.binOp op T x y T2) ty (.v r) :=
  q_pure fun _ _ _ _ _ w h => ⟨r, run_op_bin (by rw [(h.rel hx).sval, (h.rel hy).sval]; exact eqGuard_str ..) (by rw [(h.rel hx).sval, (h.rel hy).sval]; exact run_binS hr T w), .im (.v _)⟩

theorem run_addS {a b : List UInt8} (hl : a.length + b.length ≤ 9223372036854775807) (T : TypeId) (w : World) :
    (binOp .add T (.string ⟨a.toArray⟩) (.string ⟨b.toArray⟩)).run P w = .ok (.string ⟨(a ++ b).toArray⟩) w := by
  have h1 : ((ByteArray.mk a.toArray).size + (ByteArray.mk b.toArray).size) = a.length + b.length := rfl
  have h2 : ¬ ((((ByteArray.mk a.toArray).size + (ByteArray.mk b.toArray).size : Nat) : Int) > IntKind.i64.max) := by
    rw [h1]
    have : IntKind.i64.max = 9223372036854775807 := rfl
    rw [this]
    omega
  have h3 : (ByteArray.mk a.toArray ++ ByteArray.mk b.toArray) = ⟨(a ++ b).toArray⟩ := by
    apply ByteArray.ext
    simp
  simp only [binOp, Op.stringOp]
  rw [if_neg h2, h3]
  rfl
theorem q_addS {T T2 : TypeId} {a b : List UInt8} (hx : ev x = some (.str a)) (hy : ev y = some (.str b)) (hr : a.length + b.length ≤ 9223372036854775807) :
    QOp P E nx hp ev (.binOp .add T x y T2) ty (.str (a ++ b)) :=
  q_pure fun _ _ _ _ _ w h => ⟨_, run_op_bin (by rw [(h.rel hx).sval, (h.rel hy).sval]; exact eqGuard_str ..) (by rw [(h.rel hx).sval, (h.rel hy).sval]; exact run_addS hr T w), .im (.str _)⟩

theorem run_equalIn_bool {T : TypeId} [tb : TBool P T] (m : Nat) (a b : Bool) (w : World) : (Op.equalIn (m + 1) T (.bool a) (.bool b)).run P w = .ok (a == b) w := by
  simp only [Op.equalIn, Sem.run_bind, run_underlying tb.out, Result.andThen_ok]
  rfl
theorem run_equal_bool {T : TypeId} [tb : TBool P T] (a b : Bool) (w : World) : (Op.equal T (.bool a) (.bool b)).run P w = .ok (a == b) w := run_equalIn_bool 9999 a b w
theorem q_eqB {T T2 : TypeId} {a b : Bool} [tb : TBool P T] (neg : Bool) (hx : ev x = some (.v (.bool a))) (hy : ev y = some (.v (.bool b))) :
    QOp P E nx hp ev (.binOp (if neg then .neq else .eql) T x y T2) ty (.v (.bool (if neg then decide (a ≠ b) else decide (a = b)))) :=
  q_pure fun _ _ _ _ _ w h => by
    refine ⟨_, run_op_bin ?_ ?_, .im (.v _)⟩
    · rw [(h.rel hx).val, (h.rel hy).val]; cases neg <;> simp [eqGuard, Sem.run_pure]
    · rw [(h.rel hx).val, (h.rel hy).val]
      cases neg <;> simp [binOp, run_equal_bool, Sem.run_bind, Sem.run_pure, beqB]

/-! ### reading -/
theorem run_isAgg {T : Nat} {ag : Bool} {sz : Nat} [tv : TVar P T ag sz] (w : World) : (isAgg T).run P w = .ok ag w := by
  obtain ⟨i, t, h1, h2, h3, h4⟩ := tv.out
  cases t <;> simp [isAgg, run_underlying h2, Sem.run_bind, Sem.run_pure] <;> simpa using h4
theorem run_sizeOf {T : Nat} {ag : Bool} {sz : Nat} [tv : TVar P T ag sz] (w : World) : (sizeOf T).run P w = .ok sz w := by
  obtain ⟨i, t, h1, h2, h3, h4⟩ := tv.out
  simp [sizeOf, typeInfo, program, Sem.run_bind, Sem.run_pure, Sem.run, h1, h3]
theorem run_loadVar_one {T sz : Nat} [tv : TVar P T false sz] {w : World} {a : Addr} {v : Value} (h : w.cell? a = some v) : (loadVar T a).run P w = .ok v w := by
  simp [loadVar, Sem.run_bind, run_isAgg (P := P) (T := T) (sz := sz), run_load, h]
theorem run_loadVar_agg {T sz : Nat} [tv : TVar P T true sz] {w : World} {a : Addr} {cs : List Value} (hl : cs.length = sz) (h : ∀ (j : Nat) v, cs[j]? = some v → w.cell? (a.add j) = some v) :
    (loadVar T a).run P w = .ok (.agg cs.toArray) w := by
  subst hl
  simp [loadVar, Sem.run_bind, run_isAgg (P := P) (T := T) (sz := cs.length), run_sizeOf (P := P) (T := T) (sz := cs.length), run_loadCells_list (P := P) w a cs h, Sem.run_pure]

theorem ref_inv {c : Cx} {i off : Nat} {y : Value} (r : Rel c (.ref i off) y) : ∃ b, c.θ i = .pointer (some ⟨b, 0, none⟩) ∧ y = .pointer (some ⟨b, off, none⟩) ∧ i < c.nx := by
  cases r with
  | im hi => cases hi
  | ref i off b hi hθ => exact ⟨b, hθ, rfl, hi⟩

theorem EvT.box {θ : Nat → Value} {a : Act} {w : World} (h : EvT E θ nx hp ev a w) {i : Nat} {l : List AV} (hb : lookB hp i = some (.box l)) :
    ∃ b arr T, θ i = .pointer (some ⟨b, 0, none⟩) ∧ w.heap[b]? = some (.cells arr T (0, 0)) ∧ arr.size = l.length ∧ ∀ (j : Nat) x y, l[j]? = some x → arr[j]? = some y → Rel (kx E θ nx hp w) x y :=
  (h.owns i _ hb).2

theorem cell_of_block {w : World} {b : Nat} {arr : Array Value} {T : TypeId} {fr : Nat × Nat} (h : w.heap[b]? = some (.cells arr T fr)) (j : Nat) : w.cell? ⟨b, j, none⟩ = arr[j]? := by
  simp [World.cell?, h]
theorem addr_add (b off j : Nat) : (⟨b, off, none⟩ : Addr).add j = ⟨b, off + j, none⟩ := by unfold Addr.add; split <;> simp_all

theorem q_load_ref {T sz : Nat} [tv : TVar P T false sz] {i off : Nat} {l : List AV} {av : AV} (hx : ev x = some (.ref i off)) (hb : lookB hp i = some (.box l)) (hl : l[off]? = some av) : QOp P E nx hp ev (.load T x) ty av :=
  q_pure fun _ _ _ θ a w h => by
    obtain ⟨b, hθ, hv, _⟩ := ref_inv (h.rel hx)
    obtain ⟨b', arr, T', hθ', hh, hs, hr⟩ := h.box hb
    have hbb : θ i = .pointer (some ⟨b, 0, none⟩) := hθ
    rw [hθ'] at hbb
    cases hbb
    have hlt : off < l.length := (List.getElem?_eq_some_iff.1 hl).1
    have hc : arr[off]? = some (arr[off]'(by omega)) := Array.getElem?_eq_getElem (by omega)
    refine ⟨_, ?_, hr off _ _ hl hc⟩
    simp only [execOp, hv, Instr.loadAt, Instr.sureAddr, Sem.run_bind, Sem.run_pure, Result.andThen_ok]
    rw [run_loadVar_one (P := P) (sz := sz) ((cell_of_block hh off).trans hc)]
    rfl

theorem q_load_ref_agg {T sz : Nat} [tv : TVar P T true sz] {i off : Nat} {l l' : List AV} (hx : ev x = some (.ref i off)) (hb : lookB hp i = some (.box l)) (hl : (l.drop off).take sz = l') (hsz : l'.length = sz) : QOp P E nx hp ev (.load T x) ty (.agg l') :=
  q_pure fun _ _ _ θ a w h => by
    obtain ⟨b, hθ, hv, _⟩ := ref_inv (h.rel hx)
    obtain ⟨b', arr, T', hθ', hh, hs, hr⟩ := h.box hb
    have hbb : θ i = .pointer (some ⟨b, 0, none⟩) := hθ
    rw [hθ'] at hbb
    cases hbb
    have hlen : ((arr.toList.drop off).take sz).length = sz := by
      have h1 : ((l.drop off).take sz).length = sz := by rw [hl]; exact hsz
      simp only [List.length_take, List.length_drop, Array.length_toList] at h1 ⊢
      omega
    have hcell : ∀ (j : Nat) v, ((arr.toList.drop off).take sz)[j]? = some v → arr[off + j]? = some v ∧ j < sz := by
      intro j v hj
      rw [List.getElem?_take] at hj
      split at hj
      · rename_i hjs
        rw [List.getElem?_drop] at hj
        exact ⟨by simpa using hj, hjs⟩
      · cases hj
    refine ⟨.agg ((arr.toList.drop off).take sz).toArray, ?_, .agg l' _ (by rw [hsz, hlen]) fun j u z hu hz => ?_⟩
    · simp only [execOp, hv, Instr.loadAt, Instr.sureAddr, Sem.run_bind, Sem.run_pure, Result.andThen_ok]
      rw [run_loadVar_agg (P := P) (sz := sz) hlen (fun j v hj => by rw [addr_add, cell_of_block hh]; exact (hcell j v hj).1)]
      rfl
    · obtain ⟨h1, h2⟩ := hcell j z hz
      refine hr (off + j) _ _ ?_ h1
      rw [← hl, List.getElem?_take, if_pos h2, List.getElem?_drop] at hu
      exact hu

theorem q_load_box {T sz : Nat} [tv : TVar P T true sz] {i : Nat} {l : List AV} (hx : ev x = some (.ref i 0)) (hb : lookB hp i = some (.box l)) (hsz : l.length = sz) : QOp P E nx hp ev (.load T x) ty (.agg l) :=
  q_load_ref_agg (l' := l) (sz := sz) hx hb (by rw [List.drop_zero, ← hsz, List.take_length]) hsz

theorem iptr_inv {c : Cx} {l : List AV} {y : Value} (r : Rel c (.iptr l) y) : ∃ (a : Addr) (f : Nat → Value), y = .pointer (some a) ∧ (l ≠ [] → ¬ c.U a.block) ∧ (∀ j, j < l.length → c.w.cell? (a.add j) = some (f j)) ∧ ∀ (j : Nat) (x : AV), l[j]? = some x → Im c.U c.w x (f j) := by
  cases r with
  | im hi => cases hi with | iptr l a f hu hc h => exact ⟨a, f, rfl, hu, hc, h⟩

theorem q_load_iptr {T sz : Nat} [tv : TVar P T false sz] {av : AV} {l : List AV} (hx : ev x = some (.iptr (av :: l))) : QOp P E nx hp ev (.load T x) ty av :=
  q_pure fun _ _ _ θ a w h => by
    obtain ⟨p, f, hv, _, hc, hr⟩ := iptr_inv (h.rel hx)
    refine ⟨f 0, ?_, .im (hr 0 av rfl)⟩
    have h0 : w.cell? p = some (f 0) := by
      have h0 : w.cell? (p.add 0) = some (f 0) := hc 0 (by simp)
      simpa [Addr.add] using h0
    simp only [execOp, hv, Instr.loadAt, Instr.sureAddr, Sem.run_bind, Sem.run_pure, Result.andThen_ok]
    rw [run_loadVar_one (P := P) (sz := sz) h0]
    rfl

theorem q_load_iptr_agg {T sz : Nat} [tv : TVar P T true sz] {l l' : List AV} (hx : ev x = some (.iptr l)) (hl : l.take sz = l') (hsz : l'.length = sz) : QOp P E nx hp ev (.load T x) ty (.agg l') :=
  q_pure fun _ _ _ θ a w h => by
    obtain ⟨p, f, hv, _, hc, hr⟩ := iptr_inv (h.rel hx)
    have hle : sz ≤ l.length := by
      have : (l.take sz).length = sz := by rw [hl]; exact hsz
      simp only [List.length_take] at this
      omega
    refine ⟨.agg ((List.range sz).map f).toArray, ?_, .im (.agg l' _ (by simp [hsz]) fun j u z hu hz => ?_)⟩
    · simp only [execOp, hv, Instr.loadAt, Instr.sureAddr, Sem.run_bind, Sem.run_pure, Result.andThen_ok]
      rw [run_loadVar_agg (P := P) (sz := sz) (cs := (List.range sz).map f) (by simp) (fun j v hj => ?_)]
      · rfl
      · simp only [List.getElem?_map, List.getElem?_range, Option.map_eq_some_iff] at hj
        obtain ⟨j', hj', rfl⟩ := hj
        have hjs : j < sz := by
          rcases Nat.lt_or_ge j sz with h1 | h1
          · exact h1
          · rw [List.getElem?_eq_none (by simpa using h1)] at hj'; cases hj'
        have : j' = j := by
          rw [List.getElem?_range hjs] at hj'
          exact (Option.some.inj hj').symm
        subst this
        exact hc j' (by omega)
    · have hjs : j < sz := by rw [← hsz]; exact (List.getElem?_eq_some_iff.1 hu).1
      rw [← hl, List.getElem?_take, if_pos hjs] at hu
      simp only [List.getElem?_map] at hz
      rw [List.getElem?_range hjs] at hz
      simp at hz
      subst hz
      exact hr j u hu

theorem run_fieldAt {S f off sz : Nat} [tf : TFld P S f off sz] (hz : 0 < sz) (a : Addr) (w : World) : (Instr.fieldAt S (.pointer (some a)) f).run P w = .ok (.pointer (some (a.add off))) w := by
  obtain ⟨fs, fd, i, h1, h2, h3, h4, h5⟩ := tf.out
  have hne : ¬ i.size = 0 := by omega
  simp [Instr.fieldAt, run_underlying h1, Sem.run_bind, Sem.run_pure, h2, Instr.sureAddr, fieldPlace, sizeOf, typeInfo, program, Sem.run, h4, hne, h3]

theorem q_field_ref {S f off sz : Nat} [tf : TFld P S f off sz] {i o : Nat} (hx : ev x = some (.ref i o)) (hz : Nat.blt 0 sz = true) : QOp P E nx hp ev (.fieldAddr S x f) ty (.ref i (o + off)) :=
  q_pure fun _ _ _ θ a w h => by
    obtain ⟨b, hθ, hv, hnx⟩ := ref_inv (h.rel hx)
    refine ⟨.pointer (some ⟨b, o + off, none⟩), ?_, .ref i _ b hnx hθ⟩
    simp only [execOp, hv, Sem.run_bind, run_fieldAt (P := P) (S := S) (f := f) (off := off) (sz := sz) (Nat.blt_eq ▸ hz), Result.andThen_ok, addr_add]
    rfl

theorem add_addr (a : Addr) (i j : Nat) : (a.add i).add j = a.add (i + j) := by
  unfold Addr.add
  by_cases hi : i = 0 <;> by_cases hj : j = 0 <;> simp [hi, hj, Nat.add_assoc]

theorem q_field_iptr {S f off sz : Nat} [tf : TFld P S f off sz] {l : List AV} (hx : ev x = some (.iptr l)) (hz : Nat.blt 0 sz = true) : QOp P E nx hp ev (.fieldAddr S x f) ty (.iptr (l.drop off)) :=
  q_pure fun _ _ _ θ a w h => by
    obtain ⟨p, g, hv, hu, hc, hr⟩ := iptr_inv (h.rel hx)
    refine ⟨.pointer (some (p.add off)), ?_, .im (.iptr _ _ (fun j => g (off + j)) (fun hne => ?_) (fun j hj => ?_) fun j u hu' => ?_)⟩
    · simp only [execOp, hv, Sem.run_bind, run_fieldAt (P := P) (S := S) (f := f) (off := off) (sz := sz) (Nat.blt_eq ▸ hz), Result.andThen_ok]
      rfl
    · rw [add_block]; exact hu (by rintro rfl; simp at hne)
    · rw [add_addr]; exact hc _ (by simp at hj; omega)
    · rw [List.getElem?_drop] at hu'; exact hr _ _ hu'

theorem elt_inv {c : Cx} {i ver k off : Nat} {y : Value} (r : Rel c (.elt i ver k off) y) {e sz : Nat} {l : List (List AV)} (hl : lookB c.hp i = some (.row e sz ver l)) :
    ∃ g n cap, c.θ i = .slice (some ⟨g, 0, none⟩) n cap ∧ y = .pointer (some ⟨g, k * sz + off, none⟩) ∧ i < c.nx := by
  cases r with
  | im hi => cases hi
  | elt i ver k off x hi h =>
    obtain ⟨g, n, cap, h1, h2⟩ := (h e sz ver l hl).2 rfl
    exact ⟨g, n, cap, h1, h2, hi⟩
theorem row_inv {c : Cx} {i ver len : Nat} {y : Value} (r : Rel c (.row i ver len) y) {e sz : Nat} {l : List (List AV)} (hl : lookB c.hp i = some (.row e sz ver l)) : l.length = len ∧ y = c.θ i ∧ i < c.nx := by
  cases r with
  | im hi => cases hi
  | row i ver len x hi h => exact ⟨((h e sz ver l hl).2 rfl).1, ((h e sz ver l hl).2 rfl).2, hi⟩

/-- What a row of one's own holds. -/
theorem EvT.row {θ : Nat → Value} {a : Act} {w : World} (h : EvT E θ nx hp ev a w) {i e sz ver : Nat} {l : List (List AV)} (hb : lookB hp i = some (.row e sz ver l)) :
    ∃ xs : List Value, w.ownsRow 0 e sz (θ i) l.length xs ∧ (∀ el ∈ l, el.length = sz) ∧
      ∀ (k : Nat) el, l[k]? = some el → ∀ (j : Nat) x, el[j]? = some x → ∃ y, xs[k * sz + j]? = some y ∧ Im (kx E θ nx hp w).U w x y := (h.owns i _ hb).2

theorem q_load_elt {T szT : Nat} [tv : TVar P T false szT] {i ver k off e sz : Nat} {l : List (List AV)} {el : List AV} {av : AV} (hx : ev x = some (.elt i ver k off)) (hb : lookB hp i = some (.row e sz ver l)) (hk : l[k]? = some el) (ho : el[off]? = some av) :
    QOp P E nx hp ev (.load T x) ty av :=
  q_pure fun _ _ _ θ a w h => by
    obtain ⟨g, m, cap, hθ, hv, _⟩ := elt_inv (h.rel hx) hb
    obtain ⟨xs, hown, hsz, hr⟩ := h.row hb
    obtain ⟨y, hy, him⟩ := hr k el hk off av ho
    refine ⟨y, ?_, .im him⟩
    have hθ' : θ i = .slice (some ⟨g, 0, none⟩) m cap := hθ
    rw [hθ'] at hown
    have hcell := hown.cells (g := g) rfl _ _ hy
    rw [addr_add] at hcell
    simp only [execOp, hv, Instr.loadAt, Instr.sureAddr, Sem.run_bind, Sem.run_pure, Result.andThen_ok]
    rw [run_loadVar_one (P := P) (sz := szT) (v := y) (by rw [← hcell]; congr 2; omega)]
    rfl

theorem q_load_elt_agg {T szT : Nat} [tv : TVar P T true szT] {i ver k e sz : Nat} {l : List (List AV)} {el : List AV} (hx : ev x = some (.elt i ver k 0)) (hb : lookB hp i = some (.row e sz ver l)) (hk : l[k]? = some el) (ho : szT = sz) :
    QOp P E nx hp ev (.load T x) ty (.agg el) :=
  q_pure fun _ _ _ θ a w h => by
    subst ho
    obtain ⟨g, m, cap, hθ, hv, _⟩ := elt_inv (h.rel hx) hb
    obtain ⟨xs, hown, hsz, hr⟩ := h.row hb
    have hel : el.length = szT := hsz el (List.mem_of_getElem? hk)
    have hθ' : θ i = .slice (some ⟨g, 0, none⟩) m cap := hθ
    rw [hθ'] at hown
    have hcs : ∀ (j : Nat) v, ((xs.drop (k * szT)).take szT)[j]? = some v → j < szT ∧ xs[k * szT + j]? = some v := by
      intro j v hj
      rw [List.getElem?_take] at hj
      split at hj
      · rename_i hjs; rw [List.getElem?_drop] at hj; exact ⟨hjs, hj⟩
      · cases hj
    have hlen : ((xs.drop (k * szT)).take szT).length = szT := by
      have hk' : k < l.length := (List.getElem?_eq_some_iff.1 hk).1
      rw [List.length_take, List.length_drop, hown.1]
      have : (k + 1) * szT ≤ l.length * szT := Nat.mul_le_mul_right _ hk'
      rw [Nat.add_mul, Nat.one_mul] at this
      omega
    refine ⟨.agg ((xs.drop (k * szT)).take szT).toArray, ?_, .im (.agg el _ (by rw [hel, hlen]) fun j u z hu hz => ?_)⟩
    · simp only [execOp, hv, Instr.loadAt, Instr.sureAddr, Sem.run_bind, Sem.run_pure, Result.andThen_ok]
      rw [run_loadVar_agg (P := P) (sz := szT) hlen (fun j v hj => by
        have hcell := hown.cells (g := g) rfl _ _ (hcs j v hj).2
        rw [addr_add] at hcell ⊢
        rw [← hcell]; congr 2; omega)]
      rfl
    · obtain ⟨y, hy, him⟩ := hr k el hk j u hu
      rw [(hcs j z hz).2] at hy
      cases hy
      exact him

theorem q_field_elt {S f off sz : Nat} [tf : TFld P S f off sz] {i ver k o e szR : Nat} {l : List (List AV)} (hx : ev x = some (.elt i ver k o)) (hb : lookB hp i = some (.row e szR ver l)) (hz : Nat.blt 0 sz = true) : QOp P E nx hp ev (.fieldAddr S x f) ty (.elt i ver k (o + off)) :=
  q_pure fun _ _ _ θ a w h => by
    obtain ⟨g, m, cap, hθ, hv, hnx⟩ := elt_inv (h.rel hx) hb
    refine ⟨.pointer (some ⟨g, k * szR + o + off, none⟩), ?_, .elt i ver k _ _ hnx fun e' sz' v' l' hl' => ?_⟩
    · simp only [execOp, hv, Sem.run_bind, run_fieldAt (P := P) (S := S) (f := f) (off := off) (sz := sz) (Nat.blt_eq ▸ hz), Result.andThen_ok, addr_add]
      rfl
    · have : lookB hp i = some (.row e' sz' v' l') := hl'
      rw [hb] at this
      cases this
      exact ⟨Nat.le_refl _, fun _ => ⟨g, m, cap, hθ, by rw [Nat.add_assoc]⟩⟩

/-! ### slices -/
theorem sl_inv {c : Cx} {sz : Nat} {l : List (List AV)} {y : Value} (r : Rel c (.sl sz l) y) : (y = .slice none 0 0 ∧ l = []) ∨ ∃ (a : Addr) (cap : Nat) (f : Nat → Nat → Value), y = .slice (some a) l.length cap ∧ l.length ≤ cap ∧ cap ≤ maxLen ∧ (l ≠ [] → 0 < sz → ¬ c.U a.block) ∧
    (∀ e ∈ l, e.length = sz) ∧ (∀ i, i < l.length → ∀ j, j < sz → c.w.cell? (a.add (i * sz + j)) = some (f i j)) ∧ ∀ (i : Nat) (e : List AV), l[i]? = some e → ∀ (j : Nat) (x : AV), e[j]? = some x → Im c.U c.w x (f i j) := by
  cases r with
  | im hi =>
    cases hi with
    | slnil => exact .inl ⟨rfl, rfl⟩
    | sl sz l a cap f hcap hm hu hsz hc h => exact .inr ⟨a, cap, f, rfl, hcap, hm, hu, hsz, hc, h⟩

theorem sl_len {c : Cx} {sz : Nat} {l : List (List AV)} {y : Value} (r : Rel c (.sl sz l) y) : l.length ≤ 9223372036854775807 ∧ ∃ p cap, y = .slice p l.length cap := by
  rcases sl_inv r with ⟨rfl, rfl⟩ | ⟨a, cap, f, rfl, h1, h2, _⟩
  · exact ⟨by simp, none, 0, rfl⟩
  · exact ⟨by unfold maxLen at h2; omega, _, _, rfl⟩

theorem run_len_slice {T e : Nat} (h : P.underlying T = some (.slice e)) (p : Option Addr) (m c : Nat) (w : World) (ty : TypeId) : (Builtin.len_ #[T] ty #[.slice p m c]).run P w = .ok (.int .i64 m) w := by
  simp [Builtin.len_, run_underlying h, Sem.run_bind, Sem.run_pure, goInt]

theorem run_builtin1 {b : Builtin} {T : TypeId} {a : Act} {w : World} {d : Option Tmp} {pos : String} {after : Array Edge} : (execOp a.eval ⟨d, .call ⟨.builtin b, #[x], #[T]⟩, ty, pos, after, none⟩).run P w =
    (builtin b #[T] ty (#[x].map fun | .const _ => true | _ => false) #[a.eval x]).run P w := by
  simp [execOp, resolve, invoke, Sem.run_bind, Sem.run_pure]
  rfl
theorem run_builtin2 {b : Builtin} {T U : TypeId} {a : Act} {w : World} {d : Option Tmp} {pos : String} {after : Array Edge} : (execOp a.eval ⟨d, .call ⟨.builtin b, #[x, y], #[T, U]⟩, ty, pos, after, none⟩).run P w =
    (builtin b #[T, U] ty (#[x, y].map fun | .const _ => true | _ => false) #[a.eval x, a.eval y]).run P w := by
  simp [execOp, resolve, invoke, Sem.run_bind, Sem.run_pure]
  rfl

theorem q_len_sl {T e sz : Nat} [ts : TSl P T e sz] {sz' : Nat} {l : List (List AV)} (hx : ev x = some (.sl sz' l)) : QOp P E nx hp ev (.call ⟨.builtin .len, #[x], #[T]⟩) ty (.i l.length) :=
  q_pure fun _ _ _ θ a w h => by
    obtain ⟨_, p, cap, hv⟩ := sl_len (h.rel hx)
    exact ⟨_, by rw [run_builtin1, hv]; simp [builtin, run_len_slice ts.out.1, Sem.run_bind, Sem.run_pure], .im (.v _)⟩

theorem ownsRow_shape {w : World} {b e sz m : Nat} {v : Value} {xs : List Value} (h : w.ownsRow b e sz v m xs) : ∃ p cap, v = .slice p m cap ∧ m ≤ cap ∧ cap ≤ maxLen := by
  rcases h.2 with ⟨rfl, rfl⟩ | ⟨g, cap, cur, rfl, _, _, hc, hm, _⟩
  · exact ⟨none, 0, rfl, Nat.le_refl _, by unfold maxLen; omega⟩
  · exact ⟨_, cap, rfl, hc, hm⟩

theorem q_len_row {T e sz : Nat} [ts : TSl P T e sz] {i ver len e' sz' : Nat} {l : List (List AV)} (hx : ev x = some (.row i ver len)) (hb : lookB hp i = some (.row e' sz' ver l)) : QOp P E nx hp ev (.call ⟨.builtin .len, #[x], #[T]⟩) ty (.i len) :=
  q_pure fun _ _ _ θ a w h => by
    obtain ⟨hl, hv, _⟩ := row_inv (h.rel hx) hb
    obtain ⟨xs, hown, _⟩ := h.row hb
    obtain ⟨p, cap, hs, _⟩ := ownsRow_shape hown
    have hv' : a.eval x = .slice p l.length cap := by rw [hv]; exact hs
    exact ⟨_, by rw [run_builtin1, hv', hl]; simp [builtin, run_len_slice ts.out.1, Sem.run_bind, Sem.run_pure], .im (.v _)⟩

theorem q_len_str {T : Nat} [ts : TStr P T] {l : List UInt8} (hx : ev x = some (.str l)) : QOp P E nx hp ev (.call ⟨.builtin .len, #[x], #[T]⟩) ty (.i l.length) :=
  q_pure fun _ _ _ θ a w h => by
    have hv := (h.rel hx).sval
    exact ⟨_, by rw [run_builtin1, hv]; simp [builtin, run_len_string w T ty _ ts.out, Sem.run_bind, Sem.run_pure, goInt, ByteArray.size], .im (.v _)⟩

theorem q_len_nil {T e sz : Nat} [ts : TSl P T e sz] (hx : ev x = some (.v (.slice none 0 0))) : QOp P E nx hp ev (.call ⟨.builtin .len, #[x], #[T]⟩) ty (.i 0) :=
  q_pure fun _ _ _ θ a w h => ⟨_, by rw [run_builtin1, (h.rel hx).val]; simp [builtin, run_len_slice ts.out.1, Sem.run_bind, Sem.run_pure], .im (.v _)⟩

theorem run_indexAt {T e sz : Nat} [ts : TSl P T e sz] {a : Addr} {m c : Nat} {k : IntKind} {i : Int} (h0 : 0 ≤ i) (h1 : i < m) (w : World) : (Instr.indexAt T (.slice (some a) m c) (.int k i)).run P w = .ok (.pointer (some (a.add (i.toNat * sz)))) w := by
  obtain ⟨h2, inf, h3, h4⟩ := ts.out
  simp [Instr.indexAt, asIntOf, run_underlying h2, Sem.run_bind, Sem.run_pure, h0, h1, sizeOf, typeInfo, program, Sem.run, h3, h4]

theorem q_index_sl {T e sz : Nat} [ts : TSl P T e sz] {l : List (List AV)} {k : IntKind} {i : Int} {el : List AV} (hx : ev x = some (.sl sz l)) (hy : ev y = some (.v (.int k i))) (h0 : 0 ≤ i) (hel : l[i.toNat]? = some el) : QOp P E nx hp ev (.indexAddr T x y) ty (.iptr el) :=
  q_pure fun _ _ _ θ a w h => by
    have hlt : i.toNat < l.length := (List.getElem?_eq_some_iff.1 hel).1
    have hi := (h.rel hy).val
    rcases sl_inv (h.rel hx) with ⟨_, e⟩ | ⟨p, cap, f, hv, h3, h4, h5, h6, h7, h8⟩
    · subst e; simp at hlt
    · have hsz := h6 _ (List.mem_of_getElem? hel)
      refine ⟨.pointer (some (p.add (i.toNat * sz))), ?_, .im (.iptr _ _ (f i.toNat) (fun hne => ?_) (fun j hj => ?_) fun j u hu => h8 _ _ hel j u hu)⟩
      · simp only [execOp, hv, hi, Sem.run_bind]
        rw [run_indexAt (P := P) (T := T) (e := e) (sz := sz) h0 (by omega)]
        rfl
      · rw [add_block]
        refine h5 (by intro e; simp [e] at hlt) ?_
        have h9 := List.length_pos_iff.2 hne
        omega
      · rw [add_addr]
        exact h7 _ hlt _ (by omega)

theorem q_index_row {T e sz : Nat} [ts : TSl P T e sz] {i ver len e' : Nat} {l : List (List AV)} {k : IntKind} {j : Int} (hx : ev x = some (.row i ver len)) (hb : lookB hp i = some (.row e' sz ver l)) (hy : ev y = some (.v (.int k j))) (h0 : 0 ≤ j) (h1 : j < len) :
    QOp P E nx hp ev (.indexAddr T x y) ty (.elt i ver j.toNat 0) :=
  q_pure fun _ _ _ θ a w h => by
    obtain ⟨hl, hv, hnx⟩ := row_inv (h.rel hx) hb
    obtain ⟨xs, hown, hsz, _⟩ := h.row hb
    have hj := (h.rel hy).val
    rcases hown.2 with ⟨hθ, hn⟩ | ⟨g, cap, cur, hθ, _, hg, _⟩
    · omega
    · have hv' : a.eval x = .slice (some ⟨g, 0, none⟩) l.length cap := by rw [hv]; exact hθ
      refine ⟨.pointer (some ⟨g, j.toNat * sz, none⟩), ?_, .elt i ver _ 0 _ hnx fun e2 sz2 v2 l2 hl2 => ?_⟩
      · simp only [execOp, hv', hj, Sem.run_bind]
        rw [run_indexAt (P := P) (T := T) (e := e) (sz := sz) h0 (by omega), addr_add, Nat.zero_add]
        rfl
      · have : lookB hp i = some (.row e2 sz2 v2 l2) := hl2
        rw [hb] at this
        cases this
        exact ⟨Nat.le_refl _, fun _ => ⟨g, l.length, cap, hθ, by simp⟩⟩

theorem q_index_str {T : Nat} [ts : TStr P T] {l : List UInt8} {k : IntKind} {i : Int} {b : UInt8} (hx : ev x = some (.str l)) (hy : ev y = some (.v (.int k i))) (h0 : 0 ≤ i) (hel : l[i.toNat]? = some b) : QOp P E nx hp ev (.index T x y) ty (.v (.int .u8 b.toNat)) :=
  q_pure fun _ _ _ θ a w h => by
    have hlt : i.toNat < l.length := (List.getElem?_eq_some_iff.1 hel).1
    have hi := (h.rel hy).val
    have hv := (h.rel hx).sval
    refine ⟨_, ?_, .im (.v _)⟩
    have hb : (⟨l.toArray⟩ : ByteArray)[i.toNat]? = some b := by
      rw [getElem?_pos (ByteArray.mk l.toArray) i.toNat (show i.toNat < (ByteArray.mk l.toArray).size by simpa [ByteArray.size] using hlt)]
      rw [← hel, List.getElem?_eq_getElem hlt]
      rfl
    simp only [execOp, hv, hi, Instr.index, asIntOf, Sem.run_bind, Sem.run_pure, Result.andThen_ok, run_underlying ts.out, if_pos h0, hb]

theorem run_arrAt {T len e sz : Nat} [ts : TArr P T len e sz] {a : Addr} {k : IntKind} {i : Int} (h0 : 0 ≤ i) (h1 : i < len) (w : World) : (Instr.indexAt T (.pointer (some a)) (.int k i)).run P w = .ok (.pointer (some (a.add (i.toNat * sz)))) w := by
  obtain ⟨h2, inf, h3, h4⟩ := ts.out
  simp [Instr.indexAt, asIntOf, run_underlying h2, Sem.run_bind, Sem.run_pure, h0, h1, sizeOf, typeInfo, program, Sem.run, h3, h4, Instr.sureAddr]
theorem q_index_arr {T len e sz : Nat} [ts : TArr P T len e sz] {i o : Nat} {k : IntKind} {j : Int} (hx : ev x = some (.ref i o)) (hy : ev y = some (.v (.int k j))) (h0 : 0 ≤ j) (h1 : j < len) : QOp P E nx hp ev (.indexAddr T x y) ty (.ref i (o + j.toNat * sz)) :=
  q_pure fun _ _ _ θ a w h => by
    obtain ⟨b, hθ, hv, hnx⟩ := ref_inv (h.rel hx)
    have hj := (h.rel hy).val
    refine ⟨.pointer (some ⟨b, o + j.toNat * sz, none⟩), ?_, .ref i _ b hnx hθ⟩
    simp only [execOp, hv, hj, Sem.run_bind]
    rw [run_arrAt (P := P) (T := T) (len := len) (e := e) (sz := sz) h0 h1, addr_add]
    rfl

theorem q_nil_ref {i o : Nat} (hx : ev x = some (.ref i o)) : QOp P E nx hp ev (.nilCheck x) ty (.ref i o) :=
  q_pure fun _ _ _ θ a w h => by
    obtain ⟨b, hθ, hv, hnx⟩ := ref_inv (h.rel hx)
    exact ⟨_, by simp [execOp, hv, Sem.run_pure], .ref i _ b hnx hθ⟩
theorem q_nil_elt {i ver k o e sz : Nat} {l : List (List AV)} (hx : ev x = some (.elt i ver k o)) (hb : lookB hp i = some (.row e sz ver l)) : QOp P E nx hp ev (.nilCheck x) ty (.elt i ver k o) :=
  q_pure fun _ _ _ θ a w h => by
    obtain ⟨g, m, cap, hθ, hv, hnx⟩ := elt_inv (h.rel hx) hb
    exact ⟨a.eval x, by simp [execOp, hv, Sem.run_pure], h.rel hx⟩
theorem q_nil_iptr {l : List AV} (hx : ev x = some (.iptr l)) : QOp P E nx hp ev (.nilCheck x) ty (.iptr l) :=
  q_pure fun _ _ _ θ a w h => by
    obtain ⟨p, f, hv, _⟩ := iptr_inv (h.rel hx)
    exact ⟨a.eval x, by simp [execOp, hv, Sem.run_pure], h.rel hx⟩

theorem q_min {T U : Nat} {k : IntKind} {a b : Int} (hx : ev x = some (.v (.int k a))) (hy : ev y = some (.v (.int k b))) : QOp P E nx hp ev (.call ⟨.builtin .min, #[x, y], #[T, U]⟩) ty (.v (.int k (min a b))) :=
  q_pure fun _ _ _ θ ac w h => ⟨.int k (min a b), by
    have : min a b = (if b < a then b else a) := by rw [Int.min_def]; split <;> split <;> omega
    rw [run_builtin2, (h.rel hx).val, (h.rel hy).val, this]
    simp [builtin, Builtin.min_, Builtin.min2, Sem.run_bind, Sem.run_pure], .im (.v _)⟩
theorem q_max {T U : Nat} {k : IntKind} {a b : Int} (hx : ev x = some (.v (.int k a))) (hy : ev y = some (.v (.int k b))) : QOp P E nx hp ev (.call ⟨.builtin .max, #[x, y], #[T, U]⟩) ty (.v (.int k (max a b))) :=
  q_pure fun _ _ _ θ ac w h => ⟨.int k (max a b), by
    have : max a b = (if a < b then b else a) := by rw [Int.max_def]; split <;> split <;> omega
    rw [run_builtin2, (h.rel hx).val, (h.rel hy).val, this]
    simp [builtin, Builtin.max_, Builtin.max2, Sem.run_bind, Sem.run_pure], .im (.v _)⟩
end rules
end Go.Av

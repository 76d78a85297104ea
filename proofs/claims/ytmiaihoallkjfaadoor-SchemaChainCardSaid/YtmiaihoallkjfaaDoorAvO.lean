/- Regions that draw their order: what only makes or reads what nobody writes may happen at any time. -/
import Derived.Test.YtmiaihoallkjfaaDoorAvE
namespace Go.Av
open Go Go.RowKit
set_option linter.unusedSimpArgs false
set_option linter.unusedVariables false
set_option linter.unnecessarySimpa false

/-! ### Operations on what nobody writes -/
def MV (P : Program) (op : Op) (ev : Operand → Option AV) (F : AV → Prop) : Prop :=
  match op with
  | .move x => withA (ev x) F
  | .assign x => withA (ev x) F
  | .binOp op T x y _ => binP P T op (ev x) (ev y) F
  | .load T x => match ev x with
    | some (.iptr l) => loadP P T [] (some (.iptr l)) F
    | _ => False
  | .fieldAddr S x f => match ev x with
    | some (.iptr l) => FldP P S f fun off sz => cond (Nat.blt 0 sz) (F (.iptr (l.drop off))) False
    | some (.ref i o) => FldP P S f fun off sz => cond (Nat.blt 0 sz) (F (.ref i (o + off))) False
    | _ => False
  | .indexAddr T x y => match ev x with
    | some (.sl sz l) => indexP P T [] (some (.sl sz l)) (ev y) F
    | _ => False
  | .call ⟨.builtin .len, ⟨[x]⟩, ⟨[T]⟩⟩ => match ev x with
    | some (.sl sz l) => lenP P T [] (some (.sl sz l)) F
    | some (.str s) => lenP P T [] (some (.str s)) F
    | some (.v (.slice none 0 0)) => lenP P T [] (some (.v (.slice none 0 0))) F
    | _ => False
  | .call ⟨.value (.func f), ⟨args⟩, _⟩ => match evL ev args with
    | some l => cond (closedLB l) (CallP P f (l ++ []) F) False
    | none => False
  | .build T ⟨parts⟩ => match evP ev parts with
    | some ps => BuildP P T fun zs pl => FitsPP [] ps (withA ((fillA pl zs ps).map AV.agg) F)
    | none => False
  | .buildSlice T len ⟨parts⟩ => match evP ev parts with
    | some ps => RowP P T fun _ sz _ _ => cond (denseB 0 ps && allLenB sz (elsA ps) && Nat.beq ps.length len && Nat.blt 0 sz) (SideP (len * sz ≤ 16777216) (FitsPP [] ps (ImssP (elsA ps) (F (.sl sz (elsA ps)))))) False
    | none => False
  | .convert S T x => withA (ev x) fun a => ConvP P S T a F
  | _ => False

theorem one_nil {hp : Hp} {a : AV} (h : One [] a) : One hp a := by
  cases h with
  | row hl => cases hl
  | v h => exact .v h
  | str l => exact .str l
  | sl s l => exact .sl s l
  | iptr l => exact .iptr l
  | ref i o => exact .ref i o
  | mp i => exact .mp i
  | fn f l => exact .fn f l
theorem fits_nil {hp : Hp} {a : AV} (h : Fits [] a) : Fits hp a := by
  cases a <;> first | exact trivial | exact one_nil h
theorem fitsP_nil {hp : Hp} : ∀ {ps : List (Nat × AV)}, FitsP [] ps → FitsP hp ps
  | [], _ => trivial
  | (_, a) :: r, h => ⟨fits_nil h.1, fitsP_nil h.2⟩

theorem mv_q {P : Program} {op : Op} {ev : Operand → Option AV} {F : AV → Prop} (h : MV P op ev F) : ∃ av, (∀ (E : Env) (nx : Nat) (hp : Hp) (ty : TypeId), QOp P E nx hp ev op ty av) ∧ F av := by
  unfold MV at h
  split at h
  · obtain ⟨a, hx, h⟩ := withA_spec h; exact ⟨a, fun _ _ _ _ => q_move hx, h⟩
  · obtain ⟨a, hx, h⟩ := withA_spec h; exact ⟨a, fun _ _ _ _ => q_assign hx, h⟩
  · rename_i op T x y T2
    unfold binP at h
    split at h
    · rename_i hx hy; exact ⟨_, fun _ _ _ _ => q_shl hx hy h.h, h.k⟩
    · rename_i hx hy; exact ⟨_, fun _ _ _ _ => q_shr hx hy h.h, h.k⟩
    · rename_i hx hy
      obtain ⟨hk, hq⟩ := cond_false h
      clear h
      have hk := of_decide_eq_true hk
      subst hk
      unfold arithP at hq
      split at hq
      · exact ⟨_, fun _ _ _ _ => q_binI hx hy (by simp only [binI, wrap64_of hq.h]), hq.k⟩
      · exact ⟨_, fun _ _ _ _ => q_binI hx hy (by simp only [binI, wrap64_of hq.h]), hq.k⟩
      · exact ⟨_, fun _ _ _ _ => q_binI hx hy (by simp only [binI, wrap64_of hq.h]), hq.k⟩
      · refine ⟨_, fun E nx hp ty => ?_, hq.k⟩
        have hq2 := q_quo (P := P) (E := E) (nx := nx) (hp := hp) (ty := ty) (T := T) (T2 := T2) hx hy hq.h.1
        rw [wrap64_of hq.h.2] at hq2
        exact hq2
      · exact ⟨_, fun _ _ _ _ => q_quo hx hy hq.h, hq.k⟩
      · exact ⟨_, fun _ _ _ _ => q_rem hx hy hq.h, hq.k⟩
      · split at hq
        · rename_i hr; exact ⟨_, fun _ _ _ _ => q_binI hx hy hr, hq⟩
        · exact hq.elim
    · rename_i s t hx hy
      unfold strP at h
      split at h
      · exact ⟨_, fun _ _ _ _ => q_addS hx hy h.h, h.k⟩
      · split at h
        · rename_i hr; exact ⟨_, fun _ _ _ _ => q_binS hx hy hr, h⟩
        · exact h.elim
    · rename_i a b hx hy
      unfold boolP at h
      split at h
      · have := h.h; exact ⟨_, fun _ _ _ _ => q_eqB (T := T) false hx hy, h.k⟩
      · have := h.h; exact ⟨_, fun _ _ _ _ => q_eqB (T := T) true hx hy, h.k⟩
      · exact h.elim
    · exact h.elim
  · rename_i T x
    split at h
    · rename_i l hx
      unfold loadP at h
      obtain ⟨⟨ag, sz, tv, h⟩⟩ := h
      cases ag with
      | true =>
        change cond (Nat.beq l.length sz) _ _ at h
        cases hc : Nat.beq l.length sz with
        | true =>
          rw [hc] at h
          exact ⟨_, fun _ _ _ _ => q_load_iptr_agg (sz := sz) hx (by rw [← Nat.eq_of_beq_eq_true hc, List.take_length]) (Nat.eq_of_beq_eq_true hc), h⟩
        | false =>
          rw [hc] at h
          exact ⟨_, fun _ _ _ _ => q_load_iptr_agg (sz := sz) hx rfl h.h, h.k⟩
      | false =>
        cases l with
        | nil => exact h.elim
        | cons av r => exact ⟨_, fun _ _ _ _ => q_load_iptr (sz := sz) hx, h⟩
    · exact h.elim
  · split at h
    · rename_i hx
      obtain ⟨⟨off, sz, tf, h⟩⟩ := h
      obtain ⟨hz, h⟩ := cond_false h
      exact ⟨_, fun _ _ _ _ => q_field_iptr (off := off) (sz := sz) hx hz, h⟩
    · rename_i hx
      obtain ⟨⟨off, sz, tf, h⟩⟩ := h
      obtain ⟨hz, h⟩ := cond_false h
      exact ⟨_, fun _ _ _ _ => q_field_ref (off := off) (sz := sz) hx hz, h⟩
    · exact h.elim
  · split at h
    · rename_i hx
      unfold indexP at h
      split at h
      · rename_i heq hy
        cases heq
        obtain ⟨⟨e, sz', ts, h⟩⟩ := h
        obtain ⟨hz, hq⟩ := cond_false h
        clear h
        have := Nat.eq_of_beq_eq_true hz
        subst this
        obtain ⟨h0, h1, hk⟩ := hq
        exact ⟨_, fun _ _ _ _ => q_index_sl (e := e) hx hy h0 (List.getElem?_eq_getElem (by omega)), hk _ (List.getElem?_eq_getElem (by omega))⟩
      · rename_i heq _; cases heq
      · rename_i heq _; cases heq
      · exact h.elim
    · exact h.elim
  · split at h
    · rename_i hx
      unfold lenP at h
      obtain ⟨⟨e, sz, ts, h⟩⟩ := h
      exact ⟨_, fun _ _ _ _ => q_len_sl (e := e) (sz := sz) hx, h.k⟩
    · rename_i hx
      unfold lenP at h
      obtain ⟨ts, h⟩ := h
      exact ⟨_, fun _ _ _ _ => q_len_str hx, h⟩
    · rename_i hx
      unfold lenP at h
      obtain ⟨⟨e, sz, ts, h⟩⟩ := h
      exact ⟨_, fun _ _ _ _ => q_len_nil (e := e) (sz := sz) hx, h⟩
    · exact h.elim
  · split at h
    · rename_i l hl
      obtain ⟨hc, h⟩ := cond_false h
      obtain ⟨⟨r, hr, h⟩⟩ := h
      rw [List.append_nil] at hr
      exact ⟨_, fun _ _ _ _ => q_call hr hl hc, h⟩
    · exact h.elim
  · split at h
    · rename_i ps hps
      obtain ⟨⟨zs, pl, tz, tp, h⟩⟩ := h
      obtain ⟨hf, h⟩ := fitsPP_spec h
      obtain ⟨a, ha, h⟩ := withA_spec h
      rw [Option.map_eq_some_iff] at ha
      obtain ⟨l, hl, rfl⟩ := ha
      exact ⟨_, fun _ _ _ _ => q_build (T := _) hps (fitsP_nil hf) hl, h⟩
    · exact h.elim
  · split at h
    · rename_i ps hps
      obtain ⟨⟨e, sz, bs, z, ts, tz, tb, hz, h⟩⟩ := h
      obtain ⟨hc, h⟩ := cond_false h
      simp only [Bool.and_eq_true, Nat.beq_eq, Nat.blt_eq] at hc
      obtain ⟨hs, h⟩ := h
      obtain ⟨hf, h⟩ := fitsPP_spec h
      obtain ⟨hi, h⟩ := imssP_spec h
      exact ⟨_, fun _ _ _ _ => q_buildSlice (e := e) (z := z) hps (fitsP_nil hf) hc.1.1.1 hc.1.1.2 hc.1.2 hz hs hc.2 hi, h⟩
    · exact h.elim
  · obtain ⟨a, hx, h⟩ := withA_spec h
    obtain ⟨⟨r, hr, h⟩⟩ := h
    cases hr with
    | bytes l hl => rename_i e sz _ _ _; exact ⟨_, fun _ _ _ _ => q_str_bytes (e := e) (sz := sz) hx hl, h⟩
    | int m => exact ⟨_, fun _ _ _ _ => q_conv_int hx, h⟩
    | rune m => exact ⟨_, fun _ _ _ _ => q_conv_rune hx, h⟩
  · exact h.elim

/-! ### What may have happened -/
/-- An operation that may have happened: its number, its slot, what it hands back, and what it reads. -/
structure MB where
  i : Nat
  d : Nat
  av : AV
  rd : List (Nat × AV)
def MBok (P : Program) (ops : Array Oper) (m : MB) : Prop := ∃ op ty pos after, ops[m.i]? = some ⟨some m.d, op, ty, pos, after, none⟩ ∧ ∀ (E : Env) (nx : Nat) (hp : Hp) (ty : TypeId), QOp P E nx hp (evO ⟨m.rd, 0, []⟩) op ty m.av
def edg (ops : Array Oper) (i : Nat) : List Nat := (edgesOf ops).getD i []
def mbSl : List MB → List (Nat × AV)
  | [] => []
  | ⟨_, d, av, _⟩ :: r => (d, av) :: mbSl r
def mbIn (l : List Bool) (mb : List MB) : List MB := mb.filter fun m => l.getD m.i false
def Rd2 (ops : Array Oper) (mb : List MB) (sl : List (Nat × AV)) : Prop := ∀ m ∈ mb, ∀ p ∈ m.rd, look sl p.1 = some p.2 ∨ ∃ m' ∈ mb, m'.d = p.1 ∧ m'.av = p.2 ∧ m'.i ∈ edg ops m.i
def mbChk (n : Nat) (sl : List (Nat × AV)) : List MB → Bool
  | [] => true
  | m :: r => Nat.blt m.d n && (look sl m.d).isNone && (r.all fun u => !(Nat.beq u.d m.d) && !(Nat.beq u.i m.i)) && mbChk n sl r

theorem mbChk_mem {n : Nat} {sl : List (Nat × AV)} : ∀ {mb : List MB}, mbChk n sl mb = true → (∀ m ∈ mb, m.d < n ∧ look sl m.d = none) ∧ (∀ m ∈ mb, ∀ m' ∈ mb, m.d = m'.d → m = m') ∧ ∀ m ∈ mb, ∀ m' ∈ mb, m.i = m'.i → m = m'
  | [], _ => ⟨(fun m hm => by cases hm), (fun m hm => by cases hm), fun m hm => by cases hm⟩
  | a :: r, h => by
    simp only [mbChk, Bool.and_eq_true, List.all_eq_true, Bool.not_eq_true', Nat.blt_eq, Option.isNone_iff_eq_none] at h
    obtain ⟨⟨⟨h1, h2⟩, h3⟩, h4⟩ := h
    obtain ⟨i1, i2, i3⟩ := mbChk_mem h4
    have beqD : ∀ u ∈ r, u.d ≠ a.d ∧ u.i ≠ a.i := fun u hu => by
      have h5 := h3 u hu
      refine ⟨fun e => ?_, fun e => ?_⟩
      · have := h5.1; rw [e] at this; simp at this
      · have := h5.2; rw [e] at this; simp at this
    refine ⟨fun m hm => ?_, fun m hm m' hm' e => ?_, fun m hm m' hm' e => ?_⟩
    · rcases List.mem_cons.1 hm with rfl | hm
      · exact ⟨h1, h2⟩
      · exact i1 m hm
    · rcases List.mem_cons.1 hm with h5 | h5 <;> rcases List.mem_cons.1 hm' with h6 | h6
      · rw [h5, h6]
      · subst h5; exact absurd e.symm (beqD _ h6).1
      · subst h6; exact absurd e (beqD _ h5).1
      · exact i2 m h5 m' h6 e
    · rcases List.mem_cons.1 hm with h5 | h5 <;> rcases List.mem_cons.1 hm' with h6 | h6
      · rw [h5, h6]
      · subst h5; exact absurd e.symm (beqD _ h6).2
      · subst h6; exact absurd e (beqD _ h5).2
      · exact i3 m h5 m' h6 e
theorem look_append (l m : List (Nat × AV)) (s : Nat) : look (l ++ m) s = match look l s with
    | some x => some x
    | none => look m s := by
  induction l with
  | nil => rfl
  | cons a r ih =>
    obtain ⟨k, x⟩ := a
    simp only [List.cons_append, look_cons]
    by_cases e : k = s
    · simp [e]
    · simp [e, ih]
theorem look_mbSl_none {T : List MB} {s : Nat} (h : ∀ m ∈ T, m.d ≠ s) : look (mbSl T) s = none := by
  induction T with
  | nil => rfl
  | cons a r ih =>
    obtain ⟨ai, ad, aav, ard⟩ := a
    have h0 : ad ≠ s := h ⟨ai, ad, aav, ard⟩ (by simp)
    simp only [mbSl, look_cons]
    rw [if_neg h0, ih fun m hm => h m (by simp [hm])]
theorem look_mbSl {T : List MB} {m : MB} (hu : ∀ m ∈ T, ∀ m' ∈ T, m.d = m'.d → m = m') (hm : m ∈ T) : look (mbSl T) m.d = some m.av := by
  induction T with
  | nil => cases hm
  | cons a r ih =>
    obtain ⟨ai, ad, aav, ard⟩ := a
    simp only [mbSl, look_cons]
    by_cases e : ad = m.d
    · rw [if_pos e, ← hu ⟨ai, ad, aav, ard⟩ (by simp) m hm e]
    · rw [if_neg e]
      rcases List.mem_cons.1 hm with rfl | hm
      · exact absurd rfl e
      · exact ih (fun x hx y hy => hu x (by simp [hx]) y (by simp [hy])) hm
theorem look_mbSl_some {T : List MB} {s : Nat} {x : AV} (h : look (mbSl T) s = some x) : ∃ m ∈ T, m.d = s ∧ m.av = x := by
  induction T with
  | nil => cases h
  | cons a r ih =>
    obtain ⟨ai, ad, aav, ard⟩ := a
    simp only [mbSl, look_cons] at h
    by_cases e : ad = s
    · rw [if_pos e] at h; cases h; exact ⟨⟨ai, ad, _, ard⟩, by simp, e, rfl⟩
    · rw [if_neg e] at h
      obtain ⟨m, hm, h1, h2⟩ := ih h
      exact ⟨m, by simp [hm], h1, h2⟩
theorem sat_look {E : Env} {n nx : Nat} {hp : Hp} {sl sl' : List (Nat × AV)} {a : Act} {w : World} (e : ∀ s x, look sl' s = some x → look sl s = some x) (h : Sat E n ⟨sl, nx, hp⟩ a w) : Sat E n ⟨sl', nx, hp⟩ a w := by
  obtain ⟨θ, h⟩ := h
  exact ⟨θ, h.size, h.defers, h.fr, fun s x hs => h.slots s x (e s x hs), h.owns, h.apart, h.mine, h.X, h.base⟩

/-- What is left of a region: done tells what has happened, mb what may have happened. -/
def MAny (P : Program) (E : Env) (n : Nat) (ops : Array Oper) (done : List Bool) (mb : List MB) (σ : St) (K : St → Prop) : Prop :=
  (∀ m ∈ mb, MBok P ops m) → Rd2 ops mb σ.sl → mbChk n σ.sl mb = true →
  ∀ (fuel : Nat) (l : List Bool) (a : Act) (w : World), l.length = ops.size → (∀ i, done.getD i false = true → l.getD i false = true) → (∀ i, l.getD i false = true → done.getD i false = true ∨ ∃ m ∈ mb, m.i = i) → l.count false ≤ fuel →
    Sat E n ⟨mbSl (mbIn l mb) ++ σ.sl, σ.nx, σ.hp⟩ a w → wpAny P .any ops (fun e a' w' => e = .normal ∧ ∃ σ', K σ' ∧ Sat E n σ' a' w') fuel l.toArray a w

/-- The next operation, with what waits before it. -/
def teOf (ops : Array Oper) (mb : List MB) (i : Nat) : List MB := mb.filter fun m => (edg ops i).contains m.i
def restOf (ops : Array Oper) (mb : List MB) (i : Nat) : List MB := mb.filter fun m => !((edg ops i).contains m.i)
def doneOf (ops : Array Oper) (done : List Bool) (mb : List MB) (i : Nat) : List Bool := (teOf ops mb i).foldl (fun l m => l.set m.i true) (done.set i true)
def rdSlots : List MB → List Nat
  | [] => []
  | m :: r => m.rd.map (·.1) ++ rdSlots r
/-- Behind an operation: what came in with it is still there. -/
structure MPost (P : Program) (E : Env) (n : Nat) (ops : Array Oper) (done : List Bool) (mb : List MB) (K : St → Prop) (base : List (Nat × AV)) (k : Nat) (ex : List (Nat × AV)) (σ' : St) : Prop where
  sl : σ'.sl = σ'.sl.take k ++ ex
  rd : (rdSlots mb).map (look (σ'.sl.take k)) = (rdSlots mb).map (look base)
  chk : mbChk n (σ'.sl.take k) mb = true
  go : MAny P E n ops done mb ⟨σ'.sl.take k, σ'.nx, σ'.hp⟩ K
def NextM (P : Program) (E : Env) (n : Nat) (ops : Array Oper) (done : List Bool) (mb : List MB) (σ : St) (K : St → Prop) (i : Nat) : Prop :=
  match ops[i]? with
  | some o => ∀ ex : List (Nat × AV), AOps P E n ops [o] ⟨mbSl (teOf ops mb i) ++ (σ.sl ++ ex), σ.nx, σ.hp⟩ fun σ' => MPost P E n ops (doneOf ops done mb i) (restOf ops mb i) K (mbSl (teOf ops mb i) ++ σ.sl) (match o.dst with
    | some _ => (teOf ops mb i).length + σ.sl.length + 1
    | none => (teOf ops mb i).length + σ.sl.length) ex σ'
  | none => False
def AllM (P : Program) (E : Env) (n : Nat) (ops : Array Oper) (done : List Bool) (mb : List MB) (σ : St) (K : St → Prop) : List Nat → Prop
  | [] => True
  | i :: r => NextM P E n ops done mb σ K i ∧ AllM P E n ops done mb σ K r
theorem allM_mem {P : Program} {E : Env} {n : Nat} {ops : Array Oper} {done : List Bool} {mb : List MB} {σ : St} {K : St → Prop} : ∀ {r : List Nat}, AllM P E n ops done mb σ K r → ∀ i ∈ r, NextM P E n ops done mb σ K i
  | [], _, i, hi => by cases hi
  | j :: r, h, i, hi => by
    rcases List.mem_cons.1 hi with rfl | hi
    · exact h.1
    · exact allM_mem h.2 i hi
/-- What can come next and is none of what may have happened. -/
def rdyM (ops : Array Oper) (done : List Bool) (mb : List MB) : List Nat :=
  (List.range ops.size).filter fun i => !(done.getD i false) && !(mb.any fun m => Nat.beq m.i i) && (edg ops i).all fun j => done.getD j false || mb.any fun m => Nat.beq m.i j
def backAll (ops : Array Oper) : Bool := (List.range ops.size).all fun i => (edg ops i).all fun j => Nat.blt j i
def allIn (ops : Array Oper) (done : List Bool) (mb : List MB) : Bool := (List.range ops.size).all fun i => done.getD i false || mb.any fun m => Nat.beq m.i i

theorem getD_set (l : List Bool) (i j : Nat) : (l.set i true).getD j false = if i = j ∧ i < l.length then true else l.getD j false := by
  simp only [List.getD_eq_getElem?_getD, List.getElem?_set]
  by_cases e : i = j
  · subst e
    by_cases h : i < l.length
    · simp [h]
    · simp [h]
  · simp [e]
theorem count_set : ∀ (l : List Bool) (i : Nat), l[i]? = some false → (l.set i true).count false + 1 = l.count false
  | [], i, h => by simp at h
  | b :: r, 0, h => by simp at h; subst h; simp
  | b :: r, i + 1, h => by
    have := count_set r i (by simpa using h)
    rw [List.set_cons_succ, List.count_cons, List.count_cons]
    omega
theorem foldl_set_length : ∀ (T : List MB) (l : List Bool), (T.foldl (fun l m => l.set m.i true) l).length = l.length
  | [], l => rfl
  | m :: r, l => by rw [List.foldl_cons, foldl_set_length r]; simp
theorem foldl_set_getD : ∀ (T : List MB) (l : List Bool) (j : Nat), (∀ m ∈ T, m.i < l.length) → ((T.foldl (fun l m => l.set m.i true) l).getD j false = true ↔ l.getD j false = true ∨ ∃ m ∈ T, m.i = j)
  | [], l, j, _ => by simp
  | m :: r, l, j, h => by
    rw [List.foldl_cons, foldl_set_getD r _ j (fun x hx => by rw [List.length_set]; exact h x (by simp [hx])), getD_set]
    have hm := h m (by simp)
    by_cases e : m.i = j
    · subst e
      constructor
      · intro _; exact .inr ⟨m, by simp, rfl⟩
      · intro _; left; rw [if_pos ⟨rfl, hm⟩]
    · rw [if_neg (fun h => e h.1)]
      constructor
      · rintro (h1 | ⟨x, hx, e2⟩)
        · exact .inl h1
        · exact .inr ⟨x, by simp [hx], e2⟩
      · rintro (h1 | ⟨x, hx, e2⟩)
        · exact .inl h1
        · rcases List.mem_cons.1 hx with rfl | hx
          · exact absurd e2 e
          · exact .inr ⟨x, hx, e2⟩
theorem edg_get {ops : Array Oper} {i : Nat} (h : i < ops.size) : (edgesOf ops)[i]? = some (edg ops i) := by
  have hl : i < (edgesOf ops).length := by simp [edgesOf]; exact h
  rw [edg, List.getD_eq_getElem?_getD, List.getElem?_eq_getElem hl]; rfl

theorem many_go {P : Program} {E : Env} {n : Nat} {ops : Array Oper} {done : List Bool} {mb : List MB} {σ : St} {K : St → Prop} (hlen : Nat.beq done.length ops.size = true) (hback : backAll ops = true)
    (hend : allIn ops done mb = true → K ⟨mbSl mb ++ σ.sl, σ.nx, σ.hp⟩) (hall : AllM P E n ops done mb σ K (rdyM ops done mb)) : MAny P E n ops done mb σ K := by
  have hlen := Nat.eq_of_beq_eq_true hlen
  intro hok hrd hchk
  obtain ⟨hc1, hc2, hc3⟩ := mbChk_mem hchk
  have hmi : ∀ m ∈ mb, m.i < ops.size := fun m hm => by
    obtain ⟨op, ty, pos, after, h, _⟩ := hok m hm
    exact (Array.getElem?_eq_some_iff.1 h).1
  have hsub : ∀ l, ∀ m ∈ mbIn l mb, m ∈ mb ∧ l.getD m.i false = true := fun l m hm => by
    unfold mbIn at hm
    exact List.mem_filter.1 hm
  have hin : ∀ l, ∀ m ∈ mb, l.getD m.i false = true → m ∈ mbIn l mb := fun l m hm h => List.mem_filter.2 ⟨hm, h⟩
  have hu : ∀ l, ∀ m ∈ mbIn l mb, ∀ m' ∈ mbIn l mb, m.d = m'.d → m = m' := fun l m hm m' hm' => hc2 m (hsub l m hm).1 m' (hsub l m' hm').1
  -- a slot of the state is none of those that may be filled
  have hnone : ∀ l s x, look σ.sl s = some x → look (mbSl (mbIn l mb)) s = none := fun l s x hs => look_mbSl_none fun m hm e => by
    have := (hc1 m (hsub l m hm).1).2
    rw [e, hs] at this
    cases this
  have fin : ∀ (l : List Bool) (a : Act) (w : World), (∀ i, i < ops.size → l.getD i false = true) → (∀ i, l.getD i false = true → done.getD i false = true ∨ ∃ m ∈ mb, m.i = i) → Sat E n ⟨mbSl (mbIn l mb) ++ σ.sl, σ.nx, σ.hp⟩ a w → (Exit.normal = Exit.normal ∧ ∃ σ', K σ' ∧ Sat E n σ' a w) := by
    intro l a w hl h2 hs
    refine ⟨rfl, _, hend ?_, sat_look (fun s x h => ?_) hs⟩
    · unfold allIn
      rw [List.all_eq_true]
      intro i hi
      rcases h2 i (hl i (List.mem_range.1 hi)) with h | ⟨m, hm, e⟩
      · rw [h]; rfl
      · have : (mb.any fun m => Nat.beq m.i i) = true := List.any_eq_true.2 ⟨m, hm, by simp [e]⟩
        rw [this]; simp
    · have : mbIn l mb = mb := List.filter_eq_self.2 fun m hm => hl _ (hmi m hm)
      rw [this]; exact h
  have allTrue : ∀ (l : List Bool), l.length = ops.size → Region.ready .any ops l.toArray = [] → ∀ i, i < ops.size → l.getD i false = true := by
    intro l hl hr i
    induction i using Nat.strongRecOn with
    | _ i ih =>
      intro hi
      cases hx : l.getD i false with
      | true => rfl
      | false =>
        exfalso
        have hmem : i ∈ readyL l 0 (edgesOf ops) l := by
          rw [readyL_mem]
          refine ⟨i, edg ops i, by omega, edg_get hi, ?_, fun x hxe => ?_⟩
          · rw [List.getD_eq_getElem?_getD] at hx
            have h1 : l[i]? = some (l[i]'(by omega)) := List.getElem?_eq_getElem (by omega)
            rw [h1] at hx ⊢
            simpa using hx
          · unfold backAll at hback
            have h1 := List.all_eq_true.1 hback i (List.mem_range.2 hi)
            have h2 := List.all_eq_true.1 h1 x hxe
            have h3 : x < i := by simpa using h2
            exact ih x h3 (by omega)
        have := (ready_iff hl i).2 hmem
        rw [hr] at this
        cases this
  intro fuel
  induction fuel with
  | zero =>
    intro l a w hl h1 h2 hcnt hs
    have h0 : ∀ i, i < ops.size → l.getD i false = true := by
      intro i hi
      have hli : l[i]? = some (l[i]'(by omega)) := List.getElem?_eq_getElem (by omega)
      rw [List.getD_eq_getElem?_getD, hli]
      cases hb : l[i]'(by omega) with
      | true => rfl
      | false =>
        have : 0 < l.count false := List.count_pos_iff.2 (hb ▸ List.getElem_mem _)
        omega
    refine ⟨?_, fin l a w h0 h2 hs⟩
    cases hx : Region.ready .any ops l.toArray with
    | nil => rfl
    | cons i r =>
      have := (ready_iff hl i).1 (by rw [hx]; simp)
      rw [readyL_mem] at this
      obtain ⟨j, e, e1, _, e2, _⟩ := this
      have hj : j < ops.size := by rw [← hl]; exact (List.getElem?_eq_some_iff.1 e2).1
      have := h0 j hj
      rw [List.getD_eq_getElem?_getD, e2] at this
      cases this
  | succ fuel ih =>
    intro l a w hl h1 h2 hcnt hs
    refine ⟨fun hr => fin l a w (allTrue l hl hr) h2 hs, fun i hi => ?_⟩
    have hi' := (ready_iff hl i).1 hi
    rw [readyL_mem] at hi'
    obtain ⟨i', e, ei, he, hf, hed⟩ := hi'
    obtain rfl : i = i' := by omega
    have his : i < ops.size := by rw [← hl]; exact (List.getElem?_eq_some_iff.1 hf).1
    rw [edg_get his] at he
    cases he
    have hlf : l.getD i false = false := by rw [List.getD_eq_getElem?_getD, hf]; rfl
    have hl' : (l.set i true).length = ops.size := by rw [List.length_set]; exact hl
    have hcnt' : (l.set i true).count false ≤ fuel := by have := count_set l i hf; omega
    have hset : ∀ j, (l.set i true).getD j false = true ↔ j = i ∨ l.getD j false = true := by
      intro j
      rw [getD_set]
      by_cases e : i = j
      · subst e; simp; omega
      · simp [e, Ne.symm e]
    by_cases hm : ∃ m ∈ mb, m.i = i
    · obtain ⟨m, hm, hmi2⟩ := hm
      subst hmi2
      obtain ⟨op, ty, pos, after, ho, hq⟩ := hok m hm
      unfold wpOp
      simp only [ho]
      rw [if_pos (by simp [Region.wanted])]
      left
      obtain ⟨θ, hs⟩ := hs
      have hev : EvT E θ σ.nx σ.hp (evO ⟨m.rd, 0, []⟩) a w := by
        have h0 := hs.evT
        refine ⟨h0.fr, h0.owns, h0.X, fun {x av} hx => h0.rel (x := x) ?_, h0.apart, h0.fresh⟩
        cases x with
        | tmp t =>
          have hx' : look m.rd t = some av := hx
          show look (mbSl (mbIn l mb) ++ σ.sl) t = some av
          have hmem : ∀ (rd : List (Nat × AV)), look rd t = some av → (t, av) ∈ rd := by
            intro rd
            induction rd with
            | nil => intro h; cases h
            | cons p r ih =>
              obtain ⟨k, x⟩ := p
              intro h
              rw [look_cons] at h
              by_cases e : k = t
              · subst e; rw [if_pos rfl] at h; cases h; simp
              · rw [if_neg e] at h; exact List.mem_cons_of_mem _ (ih h)
          rw [look_append]
          rcases hrd m hm (t, av) (hmem _ hx') with h | ⟨m', hm', e1, e2, e3⟩
          · rw [hnone l t av h]; exact h
          · have h4 : m' ∈ mbIn l mb := hin l m' hm' (hed _ e3)
            have h5 := look_mbSl (hu l) h4
            have e1 : m'.d = t := e1
            have e2 : m'.av = av := e2
            rw [e1, e2] at h5
            rw [h5]
        | const c => exact hx
        | global g => exact hx
        | func f => exact hx
      refine vwp_wp (hq E σ.nx σ.hp ty (some m.d) pos after θ a w (fun v w' => Below w.heap.size w w' ∧ Rel (kx E θ σ.nx σ.hp w') m.av v) hev fun v w' hb hr => ⟨hb, hr⟩) fun v w' hvw => ?_
      rw [set_toArray]
      refine ih (l.set m.i true) _ w' hl' (fun j hj => (hset j).2 (.inr (h1 j hj))) (fun j hj => ?_) hcnt' ?_
      · rcases (hset j).1 hj with e | e
        · exact .inr ⟨m, hm, e.symm⟩
        · exact h2 j e
      · have hput := (hs.below hvw.1).put (d := m.d) (hc1 m hm).1 (x := m.av) (v := v) hvw.2
        refine sat_look (sl := (m.d, m.av) :: (mbSl (mbIn l mb) ++ σ.sl)) (fun s x h => ?_) ⟨θ, hput⟩
        rw [look_append] at h
        rw [look_cons, look_append]
        cases hx : look (mbSl (mbIn (l.set m.i true) mb)) s with
        | some y =>
          rw [hx] at h
          cases h
          obtain ⟨m', hm', e1, e2⟩ := look_mbSl_some hx
          obtain ⟨h3, h4⟩ := hsub _ m' hm'
          by_cases e : m.d = s
          · rw [if_pos e, hc2 m hm m' h3 (by rw [e, e1]), e2]
          · rw [if_neg e]
            have h5 : l.getD m'.i false = true := by
              rcases (hset _).1 h4 with h6 | h6
              · have := hc3 m' h3 m hm h6
                subst this
                exact absurd e1 e
              · exact h6
            have := look_mbSl (hu l) (hin l m' h3 h5)
            rw [e1, e2] at this
            rw [this]
        | none =>
          rw [hx] at h
          have h' : look σ.sl s = some x := h
          have hne : m.d ≠ s := fun e => by have := (hc1 m hm).2; rw [e, h'] at this; cases this
          rw [if_neg hne, hnone l s x h']
          exact h'
    · have hnm : ∀ m ∈ mb, m.i ≠ i := fun m hm' e => hm ⟨m, hm', e⟩
      have hnd : done.getD i false = false := by
        cases hx : done.getD i false with
        | false => rfl
        | true => rw [h1 i hx] at hlf; cases hlf
      have hanyF : (mb.any fun m => Nat.beq m.i i) = false := by
        rw [List.any_eq_false]
        intro m hm' h
        exact hnm m hm' (Nat.eq_of_beq_eq_true h)
      have hrdy : i ∈ rdyM ops done mb := by
        unfold rdyM
        rw [List.mem_filter]
        refine ⟨List.mem_range.2 his, ?_⟩
        rw [hnd, hanyF]
        simp only [Bool.not_false, Bool.true_and, List.all_eq_true]
        intro j hj
        rcases h2 j (hed j hj) with h | ⟨m, hm', e⟩
        · rw [h]; rfl
        · have : (mb.any fun m => Nat.beq m.i j) = true := List.any_eq_true.2 ⟨m, hm', by simp [e]⟩
          rw [this]; simp
      have hnext := allM_mem hall i hrdy
      unfold NextM at hnext
      split at hnext
      · rename_i o ho
        have hte : ∀ m, m ∈ teOf ops mb i ↔ m ∈ mb ∧ m.i ∈ edg ops i := fun m => by simp [teOf, List.mem_filter]
        have hre : ∀ m, m ∈ restOf ops mb i ↔ m ∈ mb ∧ m.i ∉ edg ops i := fun m => by simp [restOf, List.mem_filter]
        have hs1 : Sat E n ⟨mbSl (teOf ops mb i) ++ (σ.sl ++ mbSl (mbIn l (restOf ops mb i))), σ.nx, σ.hp⟩ a w := by
          refine sat_look (fun s x h => ?_) hs
          rw [look_append] at h ⊢
          cases hx : look (mbSl (teOf ops mb i)) s with
          | some y =>
            rw [hx] at h
            cases h
            obtain ⟨m, hm', e1, e2⟩ := look_mbSl_some hx
            obtain ⟨h3, h4⟩ := (hte m).1 hm'
            have := look_mbSl (hu l) (hin l m h3 (hed _ h4))
            rw [e1, e2] at this
            rw [this]
          | none =>
            rw [hx] at h
            have h : look (σ.sl ++ mbSl (mbIn l (restOf ops mb i))) s = some x := h
            rw [look_append] at h
            cases hy : look σ.sl s with
            | some y =>
              rw [hy] at h
              cases h
              rw [hnone l s _ hy]
            | none =>
              rw [hy] at h
              have h : look (mbSl (mbIn l (restOf ops mb i))) s = some x := h
              obtain ⟨m, hm', e1, e2⟩ := look_mbSl_some h
              obtain ⟨h3, h4⟩ := List.mem_filter.1 hm'
              have := look_mbSl (hu l) (hin l m ((hre m).1 h3).1 h4)
              rw [e1, e2] at this
              rw [this]
        have hw := hnext (mbSl (mbIn l (restOf ops mb i))) a w hs1
        have last : ∀ (kk : Nat) σ' a' w', MPost P E n ops (doneOf ops done mb i) (restOf ops mb i) K (mbSl (teOf ops mb i) ++ σ.sl) kk (mbSl (mbIn l (restOf ops mb i))) σ' → Sat E n σ' a' w' → wpAny P .any ops (fun e a' w' => e = .normal ∧ ∃ σ', K σ' ∧ Sat E n σ' a' w') fuel (l.set i true).toArray a' w' := by
          intro kk σ' a' w' hp hs'
          have hdl : ∀ j, (doneOf ops done mb i).getD j false = true ↔ (done.getD j false = true ∨ j = i) ∨ ∃ m ∈ teOf ops mb i, m.i = j := by
            intro j
            unfold doneOf
            rw [foldl_set_getD _ _ _ (fun m hm' => by rw [List.length_set, hlen]; exact hmi m ((hte m).1 hm').1), getD_set]
            by_cases e : i = j
            · subst e; simp; left; omega
            · simp [e, Ne.symm e]
          have hbase : ∀ m ∈ teOf ops mb i, look (mbSl (teOf ops mb i) ++ σ.sl) m.d = some m.av := fun m hm' => by
            rw [look_append, look_mbSl (fun m h m' h' => hc2 m ((hte m).1 h).1 m' ((hte m').1 h').1) hm']
          refine hp.go (fun m hm' => hok m ((hre m).1 hm').1) (fun m hm' p hpm => ?_) hp.chk fuel (l.set i true) a' w' hl' (fun j hj => ?_) (fun j hj => ?_) hcnt' ?_
          · have hkeep : look (σ'.sl.take kk) p.1 = look (mbSl (teOf ops mb i) ++ σ.sl) p.1 := by
              have hmem : p.1 ∈ rdSlots (restOf ops mb i) := by
                have : ∀ (L : List MB), m ∈ L → p.1 ∈ rdSlots L := by
                  intro L
                  induction L with
                  | nil => intro h; cases h
                  | cons a r ih =>
                    intro h
                    simp only [rdSlots, List.mem_append, List.mem_map]
                    rcases List.mem_cons.1 h with rfl | h
                    · exact .inl ⟨p, hpm, rfl⟩
                    · exact .inr (ih h)
                exact this _ hm'
              obtain ⟨t, ht, et⟩ := List.getElem_of_mem hmem
              have h3 := congrArg (fun L : List (Option AV) => L[t]?) hp.rd
              simp only [List.getElem?_map, List.getElem?_eq_getElem ht, Option.map_some, Option.some.injEq, et] at h3
              exact h3
            rcases hrd m ((hre m).1 hm').1 p hpm with h | ⟨m', hm'', e1, e2, e3⟩
            · left
              rw [hkeep, look_append, look_mbSl_none (fun u hu' e => by
                have := (hc1 u ((hte u).1 hu').1).2
                rw [e, h] at this
                cases this)]
              exact h
            · by_cases hmt : m'.i ∈ edg ops i
              · left
                rw [hkeep, ← e1, hbase m' ((hte m').2 ⟨hm'', hmt⟩), e2]
              · exact .inr ⟨m', (hre m').2 ⟨hm'', hmt⟩, e1, e2, e3⟩
          · rw [hset]
            rcases (hdl j).1 hj with (h | h) | ⟨m, hm', e⟩
            · exact .inr (h1 j h)
            · exact .inl h
            · exact .inr (e ▸ hed _ ((hte m).1 hm').2)
          · rw [hdl]
            rcases (hset j).1 hj with h | h
            · exact .inl (.inl (.inr h))
            · rcases h2 j h with h | ⟨m, hm', e⟩
              · exact .inl (.inl (.inl h))
              · by_cases hmt : m.i ∈ edg ops i
                · exact .inl (.inr ⟨m, (hte m).2 ⟨hm', hmt⟩, e⟩)
                · exact .inr ⟨m, (hre m).2 ⟨hm', hmt⟩, e⟩
          · have hsl := hp.sl
            obtain ⟨c1, c2, c3⟩ := mbChk_mem hp.chk
            have : mbIn (l.set i true) (restOf ops mb i) = mbIn l (restOf ops mb i) := by
              unfold mbIn
              refine List.filter_congr fun m hm' => ?_
              rw [getD_set, if_neg (fun h => hnm m ((hre m).1 hm').1 h.1.symm)]
            rw [this]
            refine sat_look (sl := σ'.sl) (fun s x h => ?_) hs'
            rw [look_append] at h
            rw [hsl, look_append]
            cases hx : look (mbSl (mbIn l (restOf ops mb i))) s with
            | some y =>
              rw [hx] at h
              cases h
              obtain ⟨m, hm', e1, e2⟩ := look_mbSl_some hx
              have h3 := (c1 m (List.mem_filter.1 hm').1).2
              rw [e1] at h3
              rw [h3]
            | none =>
              rw [hx] at h
              have h : look (σ'.sl.take kk) s = some x := h
              rw [h]
        unfold wpOp
        simp only [ho]
        unfold wpList at hw
        split
        · rename_i hwant
          rw [if_pos hwant] at hw
          rcases hw with hw | ⟨_, a1, w1, hx⟩
          · refine .inl (owp_mono (fun e a w h => h.1) (fun a' w' hn => ?_) hw)
            obtain ⟨_, σ', hk, hs'⟩ := hn
            rw [set_toArray]
            exact last _ σ' a' w' hk hs'
          · exact absurd hx.1 (by simp)
        · rename_i hwant
          rw [if_neg hwant] at hw
          obtain ⟨_, σ', hk, hs'⟩ := hw
          rw [set_toArray]
          exact last _ σ' _ _ hk hs'
      · exact hnext.elim

def NormM : List MB → (List MB → Prop) → Prop
  | [], F => F []
  | ⟨i, d, av, rd⟩ :: r, F => NormP rd fun rd2 => NormM r fun s => F (⟨i, d, av, rd2⟩ :: s)
theorem normM_spec : ∀ {l : List MB} {F : List MB → Prop}, NormM l F → F l
  | [], F, h => h
  | ⟨i, d, av, rd⟩ :: r, F, h => normM_spec (l := r) (F := fun s => F (⟨i, d, av, rd⟩ :: s)) (normP_spec h)
/-! ### The walk of such a region -/
def rdOf (op : Op) (sl : List (Nat × AV)) : List (Nat × AV) := op.operands.toList.filterMap fun x => match x with
  | .tmp t => (look sl t).map fun a => (t, a)
  | _ => none
def edgeChk (ops : Array Oper) (mb : List MB) (i : Nat) (op : Op) : Bool := op.operands.toList.all fun x => match x with
  | .tmp t => mb.all fun m => !(Nat.beq m.d t) || (edg ops i).contains m.i
  | _ => true
def clO (ev : Operand → Option AV) (x : Operand) : Bool := match ev x with
  | some a => closedB a
  | none => false
def mvB (op : Op) (ev : Operand → Option AV) : Bool :=
  match op with
  | .move x => (ev x).isSome
  | .assign x => (ev x).isSome
  | .binOp _ _ x y _ => clO ev x && clO ev y
  | .load _ x => match ev x with
    | some (.iptr _) => true
    | _ => false
  | .fieldAddr _ x _ => match ev x with
    | some (.iptr _) => true
    | some (.ref _ _) => true
    | _ => false
  | .indexAddr _ x y => (match ev x with
    | some (.sl _ _) => true
    | _ => false) && clO ev y
  | .call ⟨.builtin .len, ⟨[x]⟩, ⟨[_]⟩⟩ => match ev x with
    | some (.sl _ _) => true
    | some (.str _) => true
    | some (.v (.slice none 0 0)) => true
    | _ => false
  | .call ⟨.value (.func f), ⟨args⟩, _⟩ => match evL ev args with
    | some l => closedLB l
    | none => false
  | .build _ ⟨parts⟩ => match evP ev parts with
    | some ps => ps.all fun p => closedB p.2
    | none => false
  | .buildSlice _ _ ⟨parts⟩ => match evP ev parts with
    | some ps => ps.all fun p => closedB p.2
    | none => false
  | .convert _ _ x => clO ev x
  | _ => false
def candB (ops : Array Oper) (n : Nat) (done : List Bool) (mb : List MB) (sl : List (Nat × AV)) (i : Nat) : Bool :=
  !(done.getD i false) && !(mb.any fun m => Nat.beq m.i i) && ((edg ops i).all fun j => done.getD j false || mb.any fun m => Nat.beq m.i j) && match ops[i]? with
    | some ⟨some d, op, _, _, _, none⟩ => mvB op (evO ⟨mbSl mb ++ sl, 0, []⟩) && mbChk n sl (⟨i, d, .any, []⟩ :: mb) && edgeChk ops mb i op
    | _ => false

theorem rdOf_mem {op : Op} {sl : List (Nat × AV)} {p : Nat × AV} (h : p ∈ rdOf op sl) : look sl p.1 = some p.2 ∧ Operand.tmp p.1 ∈ op.operands.toList := by
  unfold rdOf at h
  rw [List.mem_filterMap] at h
  obtain ⟨x, hx, h⟩ := h
  split at h
  · rw [Option.map_eq_some_iff] at h
    obtain ⟨a, ha, rfl⟩ := h
    exact ⟨ha, hx⟩
  · cases h

theorem many_add {P : Program} {E : Env} {n : Nat} {ops : Array Oper} {done : List Bool} {mb : List MB} {σ : St} {K : St → Prop} {i d : Nat} {op : Op} {ty : TypeId} {pos : String} {after : Array Edge} (hop : ops[i]? = some ⟨some d, op, ty, pos, after, none⟩)
    (hed : edgeChk ops mb i op = true) (hnew : mbChk n σ.sl (⟨i, d, .any, []⟩ :: mb) = true) (hnd : done.getD i false = false)
    (h : MV P op (evO ⟨rdOf op (mbSl mb ++ σ.sl), 0, []⟩) fun av => MAny P E n ops done (⟨i, d, av, rdOf op (mbSl mb ++ σ.sl)⟩ :: mb) σ K) : MAny P E n ops done mb σ K := by
  obtain ⟨av, hq, h⟩ := mv_q h
  intro hok hrd hchk fuel l a w hl h1 h2 hcnt hs
  obtain ⟨c1, c2, c3⟩ := mbChk_mem hnew
  have hli : l.getD i false = false := by
    cases hx : l.getD i false with
    | false => rfl
    | true =>
      exfalso
      rcases h2 i hx with h | ⟨m, hm, e⟩
      · rw [hnd] at h; cases h
      · simp only [mbChk, Bool.and_eq_true, List.all_eq_true, Bool.not_eq_true'] at hnew
        have h3 := (hnew.1.2 m hm).2
        rw [e] at h3
        simp at h3
  refine h (fun m hm => ?_) (fun m hm p hp => ?_) hnew fuel l a w hl h1 (fun j hj => ?_) hcnt ?_
  · rcases List.mem_cons.1 hm with rfl | hm
    · exact ⟨op, ty, pos, after, hop, hq⟩
    · exact hok m hm
  · rcases List.mem_cons.1 hm with rfl | hm
    · obtain ⟨h3, h4⟩ := rdOf_mem hp
      rw [look_append] at h3
      cases hx : look (mbSl mb) p.1 with
      | none => rw [hx] at h3; exact .inl h3
      | some y =>
        rw [hx] at h3
        cases h3
        obtain ⟨m', hm', e1, e2⟩ := look_mbSl_some hx
        refine .inr ⟨m', List.mem_cons_of_mem _ hm', e1, e2, ?_⟩
        have h5 := List.all_eq_true.1 hed _ h4
        have h6 := List.all_eq_true.1 h5 m' hm'
        rw [e1] at h6
        simpa using h6
    · rcases hrd m hm p hp with h3 | ⟨m', hm', h4⟩
      · exact .inl h3
      · exact .inr ⟨m', List.mem_cons_of_mem _ hm', h4⟩
  · rcases h2 j hj with h3 | ⟨m, hm, e⟩
    · exact .inl h3
    · exact .inr ⟨m, List.mem_cons_of_mem _ hm, e⟩
  · have : mbIn l (⟨i, d, av, rdOf op (mbSl mb ++ σ.sl)⟩ :: mb) = mbIn l mb := by
      unfold mbIn
      rw [List.filter_cons, if_neg (by simp only [hli]; exact Bool.false_ne_true)]
    rw [this]
    exact hs

structure ExP (F : List (Nat × AV) → Prop) : Prop where
  h : ∀ ex, F ex
theorem ex_i {F : List (Nat × AV) → Prop} (h : ∀ ex, F ex) : ExP F := ⟨h⟩
structure AllMP (P : Program) (E : Env) (n : Nat) (ops : Array Oper) (done : List Bool) (mb : List MB) (σ : St) (K : St → Prop) (r : List Nat) : Prop where
  h : AllM P E n ops done mb σ K r
theorem allMP_n {P : Program} {E : Env} {n : Nat} {ops : Array Oper} {done : List Bool} {mb : List MB} {σ : St} {K : St → Prop} : AllMP P E n ops done mb σ K [] := ⟨trivial⟩
def NextP (P : Program) (E : Env) (n : Nat) (ops : Array Oper) (done : List Bool) (mb : List MB) (σ : St) (K : St → Prop) (i : Nat) : Prop :=
  match ops[i]? with
  | some o => NormP (mbSl (teOf ops mb i) ++ σ.sl) fun sl2 => ExP fun ex => AOps P E n ops [o] ⟨sl2 ++ ex, σ.nx, σ.hp⟩ fun σ' => MPost P E n ops (doneOf ops done mb i) (restOf ops mb i) K (mbSl (teOf ops mb i) ++ σ.sl) (match o.dst with
    | some _ => (teOf ops mb i).length + σ.sl.length + 1
    | none => (teOf ops mb i).length + σ.sl.length) ex σ'
  | none => False
theorem nextP_spec {P : Program} {E : Env} {n : Nat} {ops : Array Oper} {done : List Bool} {mb : List MB} {σ : St} {K : St → Prop} {i : Nat} (h : NextP P E n ops done mb σ K i) : NextM P E n ops done mb σ K i := by
  unfold NextP at h
  unfold NextM
  split at h
  · have h2 := (normP_spec h).h
    simp only [List.append_assoc] at h2
    exact h2
  · exact h.elim
theorem allMP_c {P : Program} {E : Env} {n : Nat} {ops : Array Oper} {done : List Bool} {mb : List MB} {σ : St} {K : St → Prop} {i : Nat} {r : List Nat} (h : NextP P E n ops done mb σ K i) (k : AllMP P E n ops done mb σ K r) : AllMP P E n ops done mb σ K (i :: r) := ⟨⟨nextP_spec h, k.h⟩⟩
theorem mpost_i {P : Program} {E : Env} {n : Nat} {ops : Array Oper} {done : List Bool} {mb : List MB} {K : St → Prop} {base : List (Nat × AV)} {k : Nat} {ex : List (Nat × AV)} {σ' : St} (h1 : σ'.sl = σ'.sl.take k ++ ex) (h2 : (rdSlots mb).map (look (σ'.sl.take k)) = (rdSlots mb).map (look base)) (h3 : mbChk n (σ'.sl.take k) mb = true)
    (h4 : NormP (σ'.sl.take k) fun sl2 => NormH σ'.hp fun hp2 => natCase σ'.nx fun nx2 => NormB done fun done2 => NormM mb fun mb2 => MAny P E n ops done2 mb2 ⟨sl2, nx2, hp2⟩ K) : MPost P E n ops done mb K base k ex σ' :=
  ⟨h1, h2, h3, normM_spec (normB_spec (natCase_spec (normH_spec (normP_spec h4))))⟩

def GoM (P : Program) (E : Env) (n : Nat) (ops : Array Oper) (done : List Bool) (mb : List MB) (σ : St) (K : St → Prop) : Prop :=
  match (List.range ops.size).find? (candB ops n done mb σ.sl) with
  | some i => match ops[i]? with
    | some ⟨some d, op, _, _, _, none⟩ => NormP (rdOf op (mbSl mb ++ σ.sl)) fun rd => MV P op (evO ⟨rd, 0, []⟩) fun av => MAny P E n ops done (⟨i, d, av, rd⟩ :: mb) σ K
    | _ => False
  | none => NormL (rdyM ops done mb) fun L => match L with
    | [] => cond (allIn ops done mb) (K ⟨mbSl mb ++ σ.sl, σ.nx, σ.hp⟩) False
    | i :: r => AllMP P E n ops done mb σ K (i :: r)
theorem many_step {P : Program} {E : Env} {n : Nat} {ops : Array Oper} {done : List Bool} {mb : List MB} {σ : St} {K : St → Prop} (hlen : Nat.beq done.length ops.size = true) (hback : backAll ops = true) (h : GoM P E n ops done mb σ K) : MAny P E n ops done mb σ K := by
  unfold GoM at h
  split at h
  · rename_i i hi
    have hc := List.find?_some hi
    split at h
    · rename_i d op ty pos after hop
      simp only [candB, hop, Bool.and_eq_true, Bool.not_eq_true'] at hc
      exact many_add hop hc.2.2 hc.2.1.2 hc.1.1.1 (normP_spec h)
    · exact h.elim
  · have h := normL_spec h
    split at h
    · rename_i hr
      obtain ⟨ha, h⟩ := cond_false h
      exact many_go hlen hback (fun _ => h) (by rw [hr]; trivial)
    · rename_i i r hr
      refine many_go hlen hback (fun ha => ?_) (by rw [hr]; exact h.h)
      exfalso
      have hmem : i ∈ rdyM ops done mb := by rw [hr]; simp
      unfold rdyM at hmem
      rw [List.mem_filter] at hmem
      have h2 := List.all_eq_true.1 ha i hmem.1
      have h3 := hmem.2
      simp only [Bool.and_eq_true, Bool.not_eq_true'] at h3
      rw [h3.1.1, h3.1.2] at h2
      cases h2
theorem aany_of_many {P : Program} {E : Env} {n : Nat} {ops : Array Oper} {σ : St} {K : St → Prop} (h : MAny P E n ops (noneDone ops) [] σ K) : AAny P E n ops ops.size (noneDone ops) σ K := fun a w hs =>
  h (fun m hm => by cases hm) (fun m hm => by cases hm) rfl ops.size (noneDone ops) a w (by simp [noneDone]) (fun i h => h) (fun i h => .inl h) (by
    have := List.count_le_length (a := false) (l := noneDone ops)
    simpa [noneDone] using this) hs
/-- A region that draws its order. -/
theorem draw_m {P : Program} {E : Env} {n : Nat} {ops : Array Oper} {σ : St} {Q : Exit → St → Prop} {id : Nat} [hm : TMix P] (S : St) (h : NormB (noneDone ops) fun d => NormP σ.sl fun sl => MAny P E n ops d [] ⟨sl, σ.nx, σ.hp⟩ fun σ' => St.le E n σ' S) (k : Q .normal S) : DrawP P E n id ops σ Q := draw_e S (aany_of_many (normP_spec (normB_spec h))) k
end Go.Av

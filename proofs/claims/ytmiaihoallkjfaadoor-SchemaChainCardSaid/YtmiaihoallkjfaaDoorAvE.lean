/- Regions that draw their order and write: every order, pure operations first. -/
import Derived.Test.YtmiaihoallkjfaaDoorAvN
namespace Go.Av
open Go Go.RowKit
set_option linter.unusedSimpArgs false
set_option linter.unusedVariables false
set_option linter.unnecessarySimpa false

section pure
variable {P : Program} {E : Env} {nx : Nat} {hp : Hp} {ev : Operand → Option AV} {ty : TypeId} {x y : Operand} {F : AV → Prop} {T T2 : TypeId}

theorem p_move {av : AV} (hx : ev x = some av) : POp P E nx hp ev (.move x) ty av := fun _ _ _ _ _ _ h => ⟨_, fun _ => rfl, h.rel hx⟩
theorem p_assign {av : AV} (hx : ev x = some av) : POp P E nx hp ev (.assign x) ty av := fun _ _ _ _ _ _ h => ⟨_, fun _ => rfl, h.rel hx⟩
theorem p_binI {op : BinOp} {k : IntKind} {a b : Int} {r : Value} (hx : ev x = some (.v (.int k a))) (hy : ev y = some (.v (.int k b))) (hr : binI op k a b = some r) :
    POp P E nx hp ev (.binOp op T x y T2) ty (.v r) :=
  fun _ _ _ _ _ _ h => ⟨r, fun w => run_op_bin (by rw [(h.rel hx).val, (h.rel hy).val]; exact eqGuard_int ..) (by rw [(h.rel hx).val, (h.rel hy).val]; exact run_binI hr T w), .im (.v _)⟩
theorem p_addS {a b : List UInt8} (hx : ev x = some (.str a)) (hy : ev y = some (.str b)) (hr : a.length + b.length ≤ 9223372036854775807) :
    POp P E nx hp ev (.binOp .add T x y T2) ty (.str (a ++ b)) :=
  fun _ _ _ _ _ _ h => ⟨_, fun w => run_op_bin (by rw [(h.rel hx).sval, (h.rel hy).sval]; exact eqGuard_str ..) (by rw [(h.rel hx).sval, (h.rel hy).sval]; exact run_addS hr T w), .im (.str _)⟩
theorem p_field_ref {S f off sz : Nat} [tf : TFld P S f off sz] {i o : Nat} (hx : ev x = some (.ref i o)) (hz : Nat.blt 0 sz = true) : POp P E nx hp ev (.fieldAddr S x f) ty (.ref i (o + off)) :=
  fun _ _ _ θ a w h => by
    obtain ⟨b, hθ, hv, hnx⟩ := ref_inv (h.rel hx)
    refine ⟨.pointer (some ⟨b, o + off, none⟩), fun w => ?_, .ref i _ b hnx hθ⟩
    simp only [execOp, hv, Sem.run_bind, run_fieldAt (P := P) (S := S) (f := f) (off := off) (sz := sz) (Nat.blt_eq ▸ hz), Result.andThen_ok, addr_add]
    rfl

theorem p_field_iptr {S f off sz : Nat} [tf : TFld P S f off sz] {l : List AV} (hx : ev x = some (.iptr l)) (hz : Nat.blt 0 sz = true) : POp P E nx hp ev (.fieldAddr S x f) ty (.iptr (l.drop off)) :=
  fun _ _ _ θ a w h => by
    obtain ⟨p, g, hv, hu, hc, hr⟩ := iptr_inv (h.rel hx)
    refine ⟨.pointer (some (p.add off)), fun w => ?_, .im (.iptr _ _ (fun j => g (off + j)) (fun hne => ?_) (fun j hj => ?_) fun j u hu' => ?_)⟩
    · simp only [execOp, hv, Sem.run_bind, run_fieldAt (P := P) (S := S) (f := f) (off := off) (sz := sz) (Nat.blt_eq ▸ hz), Result.andThen_ok]
      rfl
    · rw [add_block]; exact hu (by rintro rfl; simp at hne)
    · rw [add_addr]; exact hc _ (by simp at hj; omega)
    · rw [List.getElem?_drop] at hu'; exact hr _ _ hu'
theorem p_field_elt {S f off sz : Nat} [tf : TFld P S f off sz] {i ver k o e szR : Nat} {l : List (List AV)} (hx : ev x = some (.elt i ver k o)) (hb : lookB hp i = some (.row e szR ver l)) (hz : Nat.blt 0 sz = true) : POp P E nx hp ev (.fieldAddr S x f) ty (.elt i ver k (o + off)) :=
  fun _ _ _ θ a w h => by
    obtain ⟨g, m, cap, hθ, hv, hnx⟩ := elt_inv (h.rel hx) hb
    refine ⟨.pointer (some ⟨g, k * szR + o + off, none⟩), fun w => ?_, .elt i ver k _ _ hnx fun e' sz' v' l' hl' => ?_⟩
    · simp only [execOp, hv, Sem.run_bind, run_fieldAt (P := P) (S := S) (f := f) (off := off) (sz := sz) (Nat.blt_eq ▸ hz), Result.andThen_ok, addr_add]
      rfl
    · have : lookB hp i = some (.row e' sz' v' l') := hl'
      rw [hb] at this
      cases this
      exact ⟨Nat.le_refl _, fun _ => ⟨g, m, cap, hθ, by rw [Nat.add_assoc]⟩⟩

def pureKind : Op → Bool
  | .move _ | .assign _ | .fieldAddr .. | .build .. => true
  | .binOp .quo .. | .binOp .rem .. | .binOp .shl .. | .binOp .shr .. => false
  | .binOp .. => true
  | _ => false
/-- A pure operation, what is left being F of what it hands back. -/
def PV (P : Program) (op : Op) (ev : Operand → Option AV) (hp : Hp) (F : AV → Prop) : Prop :=
  match op with
  | .move x => withA (ev x) F
  | .assign x => withA (ev x) F
  | .binOp op _ x y _ => match op, ev x, ev y with
    | .add, some (.v (.int .i64 a)), some (.v (.int .i64 b)) => SideP (-9223372036854775808 ≤ a + b ∧ a + b ≤ 9223372036854775807) (F (.v (.int .i64 (a + b))))
    | .sub, some (.v (.int .i64 a)), some (.v (.int .i64 b)) => SideP (-9223372036854775808 ≤ a - b ∧ a - b ≤ 9223372036854775807) (F (.v (.int .i64 (a - b))))
    | .add, some (.str a), some (.str b) => SideP (a.length + b.length ≤ 9223372036854775807) (F (.str (a ++ b)))
    | op, some (.v (.int k a)), some (.v (.int k' b)) => cond (decide (k = k')) (match binI op k a b with
      | some r => F (.v r)
      | none => False) False
    | _, _, _ => False
  | .fieldAddr S x f => FldP P S f fun off sz => cond (Nat.blt 0 sz) (match ev x with
    | some (.ref i o) => F (.ref i (o + off))
    | some (.iptr l) => F (.iptr (l.drop off))
    | some (.elt i ver k o) => (match lookB hp i with
      | some (.row _ _ ver' _) => SideP (ver = ver') (F (.elt i ver k (o + off)))
      | _ => False)
    | _ => False) False
  | .build T ⟨parts⟩ => match evP ev parts with
    | some ps => BuildP P T fun zs pl => FitsPP hp ps (withA ((fillA pl zs ps).map AV.agg) F)
    | none => False
  | _ => False
theorem pv_p {op : Op} (h : PV P op ev hp F) : ∃ av, POp P E nx hp ev op ty av ∧ F av := by
  unfold PV at h
  split at h
  · obtain ⟨a, hx, h⟩ := withA_spec h; exact ⟨a, p_move hx, h⟩
  · obtain ⟨a, hx, h⟩ := withA_spec h; exact ⟨a, p_assign hx, h⟩
  · split at h
    · rename_i hx hy; exact ⟨_, p_binI hx hy (by simp only [binI, wrap64_of h.h]), h.k⟩
    · rename_i hx hy; exact ⟨_, p_binI hx hy (by simp only [binI, wrap64_of h.h]), h.k⟩
    · rename_i hx hy; exact ⟨_, p_addS hx hy h.h, h.k⟩
    · rename_i hx hy
      obtain ⟨hk, hq⟩ := cond_false h
      have hk := of_decide_eq_true hk
      subst hk
      split at hq
      · rename_i hr; exact ⟨_, p_binI hx hy hr, hq⟩
      · exact hq.elim
    · exact h.elim
  · obtain ⟨⟨off, sz, tf, h⟩⟩ := h
    obtain ⟨hz, h⟩ := cond_false h
    split at h
    · rename_i hx; exact ⟨_, p_field_ref (off := off) (sz := sz) hx hz, h⟩
    · rename_i hx; exact ⟨_, p_field_iptr (off := off) (sz := sz) hx hz, h⟩
    · rename_i hx
      split at h
      · rename_i hb
        obtain ⟨rfl, h⟩ := h
        exact ⟨_, p_field_elt (off := off) (sz := sz) hx hb hz, h⟩
      · exact h.elim
    · exact h.elim
  · split at h
    · rename_i ps hps
      obtain ⟨⟨zs, pl, tz, tp, h⟩⟩ := h
      obtain ⟨hf, h⟩ := fitsPP_spec h
      obtain ⟨a, ha, h⟩ := withA_spec h
      rw [Option.map_eq_some_iff] at ha
      obtain ⟨l, hl, rfl⟩ := ha
      exact ⟨_, p_build (T := _) hps hf hl, h⟩
    · exact h.elim
  · exact h.elim
end pure

/-! ### The orders, by lists -/
def edgesOf (ops : Array Oper) : List (List Nat) := ops.toList.map fun o => (o.after.toList.filter fun e => Region.binds .any e).map (·.on)
def readyL (all : List Bool) : Nat → List (List Nat) → List Bool → List Nat
  | k, e :: es, b :: bs => cond b (readyL all (k + 1) es bs) (cond (e.all fun j => all.getD j false) (k :: readyL all (k + 1) es bs) (readyL all (k + 1) es bs))
  | _, _, _ => []

theorem readyL_mem {all : List Bool} : ∀ (es : List (List Nat)) (bs : List Bool) (k i : Nat), i ∈ readyL all k es bs ↔ ∃ j e, i = k + j ∧ es[j]? = some e ∧ bs[j]? = some false ∧ (∀ x ∈ e, all.getD x false = true)
  | [], bs, k, i => by simp [readyL]
  | e :: es, [], k, i => by simp [readyL]
  | e :: es, b :: bs, k, i => by
    have ih := readyL_mem (all := all) es bs (k + 1) i
    have key : (∃ j e', i = k + j ∧ (e :: es)[j]? = some e' ∧ (b :: bs)[j]? = some false ∧ (∀ x ∈ e', all.getD x false = true)) ↔ (i = k ∧ b = false ∧ ∀ x ∈ e, all.getD x false = true) ∨ i ∈ readyL all (k + 1) es bs := by
      rw [ih]
      constructor
      · rintro ⟨j, e', h1, h2, h3, h4⟩
        cases j with
        | zero => simp at h2 h3; subst h2; exact .inl ⟨by omega, h3, h4⟩
        | succ j => exact .inr ⟨j, e', by omega, by simpa using h2, by simpa using h3, h4⟩
      · rintro (⟨h1, h2, h3⟩ | ⟨j, e', h1, h2, h3, h4⟩)
        · exact ⟨0, e, by omega, rfl, by simp [h2], h3⟩
        · exact ⟨j + 1, e', by omega, by simpa using h2, by simpa using h3, h4⟩
    rw [key]
    have hall : (e.all fun j => all.getD j false) = true ↔ ∀ x ∈ e, all.getD x false = true := by rw [List.all_eq_true]
    cases b with
    | true => simp [readyL]
    | false =>
      simp only [readyL, Bool.cond_false]
      cases ha : e.all fun j => all.getD j false with
      | true =>
        rw [ha] at hall
        simp only [true_iff] at hall
        simp only [Bool.cond_true, List.mem_cons]
        constructor
        · intro h
          rcases h with h | h
          · exact Or.inl ⟨h, by first | trivial | rfl, by first | exact hall | trivial⟩
          · exact Or.inr h
        · intro h
          rcases h with h | h
          · exact Or.inl h.1
          · exact Or.inr h
      | false =>
        rw [ha] at hall
        simp only [Bool.false_eq_true, false_iff] at hall
        simp only [Bool.cond_false]
        constructor
        · exact Or.inr
        · intro h
          rcases h with h | h
          · exact absurd h.2.2 hall
          · exact h

theorem ready_iff {ops : Array Oper} {l : List Bool} (hl : l.length = ops.size) (i : Nat) : i ∈ Region.ready .any ops l.toArray ↔ i ∈ readyL l 0 (edgesOf ops) l := by
  rw [mem_ready, readyL_mem]
  constructor
  · rintro ⟨h1, o, ho, h2⟩
    have hlt : i < ops.size := (Array.getElem?_eq_some_iff.1 ho).1
    refine ⟨i, _, by omega, by simp [edgesOf, ho]; rfl, ?_, ?_⟩
    · have hlt2 : i < l.length := by omega
      simp [hlt2] at h1 ⊢
      exact h1
    · intro x hx
      simp only [List.mem_map, List.mem_filter, Array.mem_toList_iff] at hx
      obtain ⟨e, ⟨he, hb⟩, rfl⟩ := hx
      have := h2 e he hb
      simpa using this
  · rintro ⟨j, e, h0, h1, h2, h3⟩
    have : j = i := by omega
    subst this
    simp only [edgesOf, List.getElem?_map, Option.map_eq_some_iff, Array.getElem?_toList] at h1
    obtain ⟨o, ho, rfl⟩ := h1
    refine ⟨by simp [h2], o, ho, fun e he hb => ?_⟩
    have := h3 e.on (List.mem_map.2 ⟨e, List.mem_filter.2 ⟨by simpa using he, hb⟩, rfl⟩)
    simpa using this

theorem owp_mono {P : Program} {o : Oper} {a : Act} {w : World} {K K' : Act → World → Prop} {Q Q' : Exit → Act → World → Prop} (hQ : ∀ e a w, Q e a w → e = .normal) (h : ∀ a w, K a w → K' a w) (hh : o.wp P a w K Q) : o.wp P a w K' Q' := by
  unfold Oper.wp at *
  generalize (execOp a.eval o).run P w = r at *
  cases r with
  | ok n w' =>
    cases n <;> simp only [Oper.upon] at hh ⊢ <;>
      first
        | exact h _ _ hh
        | exact Calls.mono hh (fun e w'' he => by
            cases e with
            | returned v => exact h _ _ he
            | panicked c => exact absurd (hQ _ _ _ he) (by simp)
            | outgrown => obtain ⟨a, w, hx⟩ := he; exact absurd (hQ _ _ _ hx) (by simp))
        | exact Rows.mono hh (fun _ _ he => h _ _ he)
  | halt x w' =>
    cases x <;> simp only [Oper.upon] at hh ⊢
    exact absurd (hQ _ _ _ hh) (by simp)

theorem wpAny_mono_all {P : Program} {ops : Array Oper} {Q Q' : Exit → Act → World → Prop} (hQ : ∀ e a w, Q e a w → e = .normal) (h : ∀ a w, Q .normal a w → Q' .normal a w) : ∀ (fuel : Nat) (listed : Array Bool) (a : Act) (w : World), wpAny P .any ops Q fuel listed a w → wpAny P .any ops Q' fuel listed a w := by
  intro fuel
  induction fuel with
  | zero => intro l a w hx; exact ⟨hx.1, h a w hx.2⟩
  | succ fuel ih =>
    intro l a w hx
    refine ⟨fun hr => h a w (hx.1 hr), fun i hi => ?_⟩
    have h1 := hx.2 i hi
    unfold wpOp at h1 ⊢
    split at h1
    · exact ih _ _ _ h1
    · split at h1
      · rename_i hw
        rw [if_pos hw]
        rcases h1 with h1 | ⟨_, a1, w1, hx⟩
        · exact .inl (owp_mono hQ (fun a' w' hn => ih _ _ _ hn) h1)
        · exact absurd (hQ _ _ _ hx) (by simp)
      · rename_i hw
        rw [if_neg hw]
        exact ih _ _ _ h1

section rules
variable {P : Program} {E : Env} {n : Nat} {ops : Array Oper} {σ : St} {K : St → Prop} {Q : Exit → St → Prop}

/-- What is left of a region, l telling what is done. -/
def AAny (P : Program) (E : Env) (n : Nat) (ops : Array Oper) (fuel : Nat) (l : List Bool) (σ : St) (K : St → Prop) : Prop :=
  ∀ a w, Sat E n σ a w → wpAny P .any ops (fun e a' w' => e = .normal ∧ ∃ σ', K σ' ∧ Sat E n σ' a' w') fuel l.toArray a w

/-- Every operation of a list may be the next one. -/
def AllI (P : Program) (E : Env) (n : Nat) (ops : Array Oper) (fuel : Nat) (l : List Bool) (σ : St) (K : St → Prop) : List Nat → Prop
  | [] => True
  | i :: r => (match ops[i]? with
    | some o => AOps P E n ops [o] σ fun σ' => AAny P E n ops fuel (l.set i true) σ' K
    | none => False) ∧ AllI P E n ops fuel l σ K r

theorem allI_mem {fuel : Nat} {l : List Bool} : ∀ {r : List Nat}, AllI P E n ops fuel l σ K r → ∀ i ∈ r, ∃ o, ops[i]? = some o ∧ AOps P E n ops [o] σ fun σ' => AAny P E n ops fuel (l.set i true) σ' K
  | [], _, i, hi => by cases hi
  | j :: r, h, i, hi => by
    rcases List.mem_cons.1 hi with rfl | hi
    · have := h.1
      split at this
      · rename_i o ho; exact ⟨o, ho, this⟩
      · exact this.elim
    · exact allI_mem h.2 i hi

/-- Every operation of a list may be the next one; each is a goal. -/
structure AllP (P : Program) (E : Env) (n : Nat) (ops : Array Oper) (fuel : Nat) (l : List Bool) (σ : St) (K : St → Prop) (r : List Nat) : Prop where
  h : AllI P E n ops fuel l σ K r

/-- The first pure operation that nothing else waits beside. -/
def firstPure (ops : Array Oper) (l : List Bool) : List Nat → Option Nat
  | [] => none
  | i :: r => match ops[i]? with
    | some ⟨some _, op, _, _, _, none⟩ => cond (pureKind op) (some i) (firstPure ops l r)
    | _ => firstPure ops l r

structure FreeP (p : Prop) (A : Prop) : Prop where
  h : p
  k : A

def GoE (P : Program) (E : Env) (n : Nat) (ops : Array Oper) (fuel : Nat) (l : List Bool) (σ : St) (K : St → Prop) : Prop :=
  match readyL l 0 (edgesOf ops) l with
  | [] => K σ
  | i :: r => match fuel with
    | 0 => False
    | fuel + 1 => match firstPure ops l (i :: r) with
      | some i => match ops[i]? with
        | some ⟨some d, op, _, _, _, none⟩ => FreeP (Region.free .any ops l.toArray i = true ∧ i ∈ readyL l 0 (edgesOf ops) l) (cond (Nat.blt d n) (PV P op (evO σ) σ.hp fun av => AAny P E n ops fuel (l.set i true) (σ.put d av) K) False)
        | _ => False
      | none => AllP P E n ops fuel l σ K (i :: r)

theorem set_toArray (l : List Bool) (i : Nat) : l.toArray.setIfInBounds i true = (l.set i true).toArray := by simp

theorem aany_go {fuel : Nat} {l : List Bool} (hns : Region.noSelect ops = true) (hl : Nat.beq l.length ops.size = true) (h : GoE P E n ops fuel l σ K) : AAny P E n ops fuel l σ K := by
  have hl := Nat.eq_of_beq_eq_true hl
  unfold GoE at h
  split at h
  · rename_i hr
    intro a w hs
    have hnil : Region.ready .any ops l.toArray = [] := by
      cases hx : Region.ready .any ops l.toArray with
      | nil => rfl
      | cons i r => have := (ready_iff hl i).1 (by rw [hx]; simp); rw [hr] at this; cases this
    exact wpAny_done hnil ⟨rfl, σ, h, hs⟩ _
  · rename_i i r hr
    split at h
    · exact h.elim
    · rename_i fuel
      split at h
      · rename_i i' hfp
        split at h
        · rename_i d op ty pos after hop
          obtain ⟨⟨hf, hir⟩, h⟩ := h
          obtain ⟨hd, h⟩ := cond_false h
          obtain ⟨av, hp, h⟩ := pv_p (E := E) (nx := σ.nx) (ty := ty) h
          rintro a w ⟨θ, hs⟩
          obtain ⟨v, hv1, hv2⟩ := hp (some d) pos after θ a w hs.evT
          refine wpAny_take hop hns hf (by simpa using (ready_iff hl i').2 hir) (fun c a w hc => by cases hc.1) (v := v) (.inl ⟨by simp [Region.wanted], hv1⟩) ?_
          rw [set_toArray]
          exact h _ _ ⟨θ, hs.put (Nat.blt_eq ▸ hd) hv2⟩
        · exact h.elim
      · intro a w hs
        refine ⟨fun hnil => ?_, fun j hj => ?_⟩
        · have := (ready_iff hl i).2 (by rw [hr]; simp)
          rw [hnil] at this
          cases this
        · have hj' := (ready_iff hl j).1 hj
          rw [hr] at hj'
          obtain ⟨o, ho, hA⟩ := allI_mem h.h j hj'
          have hw := hA a w hs
          unfold wpOp
          simp only [ho]
          unfold wpList at hw
          split
          · rename_i hwant
            rw [if_pos hwant] at hw
            rcases hw with hw | ⟨_, a1, w1, hx⟩
            · refine .inl (owp_mono (fun e a w h => h.1) (fun a' w' hn => ?_) hw)
              obtain ⟨_, σ', hk, hs'⟩ := hn
              rw [set_toArray]
              exact hk a' w' hs'
            · exact absurd hx.1 (by simp)
          · rename_i hwant
            rw [if_neg hwant] at hw
            obtain ⟨_, σ', hk, hs'⟩ := hw
            rw [set_toArray]
            exact hk _ _ hs'

def noneDone (ops : Array Oper) : List Bool := ops.toList.map fun _ => false

/-- A region that draws its order: whatever the order, the same is known at its end. -/
theorem draw_e {id : Nat} [hm : TMix P] (S : St) (h : AAny P E n ops ops.size (noneDone ops) σ fun σ' => St.le E n σ' S) (k : Q .normal S) : DrawP P E n id ops σ Q := by
  refine ⟨fun a w ⟨θ, hs⟩ => wp_region_any hm.out ?_⟩
  have hb : Below w.heap.size w { w with drawn := w.drawn + 1 } := Below.drew (Below.refl _ _)
  have h1 := h a { w with drawn := w.drawn + 1 } ⟨θ, hs.below hb⟩
  have e : (noneDone ops).toArray = Array.replicate ops.size false := by
    apply Array.ext'
    simp [noneDone, List.map_const']
  rw [e] at h1
  exact wpAny_mono_all (fun e a w hx => hx.1) (fun a w hx => by
    obtain ⟨_, σ', hle, hs'⟩ := hx
    exact ⟨S, k, hle a w hs'⟩) _ _ _ _ h1

theorem le_trans {σ1 σ2 σ3 : St} (h : St.le E n σ1 σ2) (h' : St.le E n σ2 σ3) : St.le E n σ1 σ3 := fun a w hs => h' a w (h a w hs)
theorem le_refl {σ1 : St} : St.le E n σ1 σ1 := fun a w hs => hs

/-- Two blocks' numbers, exchanged. -/
def swp (i j k : Nat) : Nat := cond (Nat.beq k i) j (cond (Nat.beq k j) i k)
theorem swp_eq (i j k : Nat) : swp i j k = if k = i then j else if k = j then i else k := by
  unfold swp
  cases h1 : Nat.beq k i with
  | true => rw [if_pos (Nat.eq_of_beq_eq_true h1)]; rfl
  | false =>
    have : k ≠ i := by intro e; subst e; simp at h1
    rw [if_neg this]
    cases h2 : Nat.beq k j with
    | true => rw [if_pos (Nat.eq_of_beq_eq_true h2)]; rfl
    | false =>
      have : k ≠ j := by intro e; subst e; simp at h2
      rw [if_neg this]; rfl
theorem swp_swp (i j k : Nat) : swp i j (swp i j k) = k := by
  rw [swp_eq i j k]
  split
  · rename_i h; subst h
    rw [swp_eq]
    split
    · rename_i h; exact h
    · rw [if_pos rfl]
  · split
    · rename_i h; subst h; rw [swp_eq, if_pos rfl]
    · rename_i h1 h2; rw [swp_eq, if_neg h1, if_neg h2]

theorem le_swp (i j : Nat) {m : Nat} (h0 : E.n0 = m) (hb : (Nat.ble m i && Nat.ble m j && Nat.blt i σ.nx && Nat.blt j σ.nx) = true) (hlt : hpLt σ.nx σ.hp = true) :
    St.le E n σ ⟨mapSl (renA (swp i j) fun _ => 0) σ.sl, σ.nx, renHp (swp i j) (fun _ => 0) σ.hp⟩ := by
  simp only [Bool.and_eq_true, Nat.ble_eq, Nat.blt_eq] at hb
  obtain ⟨⟨⟨hi0, hj0⟩, hi⟩, hj⟩ := hb
  have hsw : ∀ k, k < σ.nx → swp i j k < σ.nx := fun k hk => by
    rw [swp_eq]
    split
    · exact hj
    · split
      · exact hi
      · exact hk
  have hinj : ∀ a b, a < σ.nx → b < σ.nx → swp i j a = swp i j b → a = b := fun a b _ _ h => by rw [← swp_swp i j a, h, swp_swp]
  have hlk : ∀ q, q < σ.nx → lookB (renHp (swp i j) (fun _ => 0) σ.hp) (swp i j q) = (lookB σ.hp q).map (renB (swp i j) (fun _ => 0) q) := by
    intro q hq
    have := look_renHp (ρ := swp i j) (s := fun _ => 0) hinj σ.hp [] hlt q hq
    rw [List.append_nil] at this
    unfold lookB
    rw [this]
    cases look σ.hp q with
    | none => rfl
    | some b => cases b <;> rfl
  have hno : ∀ k, σ.nx ≤ k → lookB (renHp (swp i j) (fun _ => 0) σ.hp) k = none := by
    intro k hk
    have := look_renHp_other (ρ := swp i j) (s := fun _ => 0) (m := σ.nx) σ.hp [] hlt k (fun q hq he => by have := hsw q hq; omega)
    rw [List.append_nil] at this
    unfold lookB
    rw [this]
    rfl
  rintro a w ⟨θ, hs⟩
  let σ' : St := ⟨mapSl (renA (swp i j) fun _ => 0) σ.sl, σ.nx, renHp (swp i j) (fun _ => 0) σ.hp⟩
  let θ' : Nat → Value := fun k => θ (swp i j k)
  have back : ∀ k b, lookB σ'.hp k = some b → ∃ q b0, k = swp i j q ∧ q < σ.nx ∧ lookB σ.hp q = some b0 ∧ b = renB (swp i j) (fun _ => 0) q b0 ∧ θ' k = θ q := by
    intro k b hb
    by_cases hk : k < σ.nx
    · have hb' : lookB (renHp (swp i j) (fun _ => 0) σ.hp) (swp i j (swp i j k)) = some b := by rw [swp_swp]; exact hb
      rw [hlk _ (hsw k hk), Option.map_eq_some_iff] at hb'
      obtain ⟨b0, h1, h2⟩ := hb'
      exact ⟨swp i j k, b0, (swp_swp i j k).symm, hsw k hk, h1, h2.symm, rfl⟩
    · rw [hno k (by omega)] at hb; cases hb
  have ren : Ren (cx E θ σ w) (cx E θ' σ' w) (swp i j) (fun _ => 0) := by
    refine ⟨hsw, fun k hk => by show θ (swp i j (swp i j k)) = _; rw [swp_swp]; rfl, rfl, fun k hu => ?_, fun q hq e sz v' l hl => ?_⟩
    · rcases hu with hu | ⟨q, b, hb, hk⟩
      · exact .inl hu
      · obtain ⟨q', b0, rfl, hq, h1, h2, h3⟩ := back q b hb
        exact .inr ⟨q', b0, h1, by rw [← hk]; exact (congrArg fp h3).symm⟩
    · have h1 : lookB (renHp (swp i j) (fun _ => 0) σ.hp) (swp i j q) = some (.row e sz v' l) := hl
      rw [hlk q hq, Option.map_eq_some_iff] at h1
      obtain ⟨b, hb, hbr⟩ := h1
      cases b with
      | box l => cases hbr
      | map m => cases hbr
      | row e1 sz1 v1 l1 =>
        simp only [renB] at hbr
        cases hbr
        exact ⟨v1, hb, rfl⟩
  refine ⟨θ', hs.size, hs.defers, hs.fr, fun s x hx => ?_, fun k b hb => ?_, fun k1 k2 b1 b2 k h1 h2 hk1 hk2 => ?_, fun k b q hb hk => ?_, hs.X, ⟨hs.base.1, fun k hk => ?_⟩⟩
  · have hx' : look (mapSl (renA (swp i j) fun _ => 0) σ.sl) s = some x := hx
    rw [look_mapSl, Option.map_eq_some_iff] at hx'
    obtain ⟨x0, h1, rfl⟩ := hx'
    exact ren_rel ren (hs.slots s x0 h1)
  · obtain ⟨q, b0, rfl, hq, h1, rfl, h3⟩ := back k b hb
    exact ⟨hsw q hq, ren_own ren hq (hs.owns q b0 h1).2⟩
  · obtain ⟨q1, c1, rfl, _, g1, _, g2⟩ := back k1 b1 h1
    obtain ⟨q2, c2, rfl, _, g3, _, g4⟩ := back k2 b2 h2
    rw [hs.apart q1 q2 c1 c2 k g1 g3 (by rw [← g2]; exact hk1) (by rw [← g4]; exact hk2)]
  · obtain ⟨q1, c1, rfl, _, g1, _, g2⟩ := back k b hb
    exact hs.mine q1 c1 q g1 (by rw [← g2]; exact hk)
  · have : swp i j k = k := by rw [swp_eq, if_neg (by omega), if_neg (by omega)]
    show θ (swp i j k) = _ ∨ _
    rw [this]
    exact hs.base.2 k hk

theorem allI_n {fuel : Nat} {l : List Bool} : AllP P E n ops fuel l σ K [] := ⟨trivial⟩
theorem allI_c {fuel : Nat} {l : List Bool} {i : Nat} {r : List Nat} (h1 : match ops[i]? with
    | some o => AOps P E n ops [o] σ fun σ' => AAny P E n ops fuel (l.set i true) σ' K
    | none => False) (h2 : AllP P E n ops fuel l σ K r) : AllP P E n ops fuel l σ K (i :: r) := ⟨⟨h1, h2.h⟩⟩
theorem free_i {p A : Prop} (h : p) (k : A) : FreeP p A := ⟨h, k⟩
end rules
end Go.Av

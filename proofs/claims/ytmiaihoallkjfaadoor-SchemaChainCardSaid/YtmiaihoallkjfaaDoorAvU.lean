/- Maps, tuples, closures, parts of strings and of rows. -/
import Derived.Test.YtmiaihoallkjfaaDoorAvT
namespace Go.Av
open Go Go.RowKit
set_option linter.unusedSimpArgs false
set_option linter.unusedVariables false
set_option linter.unnecessarySimpa false

class TMapK (P : Program) (T : Nat) (k e : outParam Nat) (t : outParam TypeDesc) (z : outParam Value) : Prop where
  out : P.underlying T = some (.map k e) ∧ P.underlying k = some t ∧ (P.info? e).bind (·.zero) = some z

section rules
variable {P : Program} {E : Env} {n nx : Nat} {hp : Hp} {ev : Operand → Option AV} {ops : Array Oper} {rest : List Oper} {σ : St} {K : St → Prop} {Q : Exit → St → Prop}
variable {d : Nat} {ty : TypeId} {pos : String} {after : Array Edge} {x y z : Operand}

def MapKeys (t : TypeDesc) (m : List (Key × AV)) : Prop := ∀ p ∈ m, kindB t p.1 = true

theorem EvT.map {θ : Nat → Value} {a : Act} {w : World} (h : EvT E θ nx hp ev a w) {i : Nat} {m : List (Key × AV)} (hb : lookB hp i = some (.map m)) :
    ∃ r es clock, θ i = .map (some r) ∧ w.heap[r]? = some (.map es clock) ∧ es.size = m.length ∧
      ∀ (j : Nat) (q : Key × AV) e, m[j]? = some q → es[j]? = some e → e.key = q.1.val ∧ Im (kx E θ nx hp w).U w q.2 e.val := (h.owns i _ hb).2

theorem run_findKey {kt : TypeId} {t : TypeDesc} {k : Key} (ht : P.underlying kt = some t) {es : List MapEntry} {q : Option (Nat × Value)} (hq : Instr.findNow t k.val es 0 = some q) (w : World) : (Instr.findKey kt k.val es).run P w = .ok q w := by
  simp [Instr.findKey, Sem.run_bind, run_underlying ht, hq, Sem.run_pure]

def mgetD (m : List (Key × AV)) (k : Key) (d : AV) : AV := match mget m k with
  | some v => v
  | none => d

theorem lookup_run {T kt e : Nat} {t : TypeDesc} {zv : Value} [tm : TMapK P T kt e t zv] {θ : Nat → Value} {a : Act} {w : World} (h : EvT E θ nx hp ev a w) {i : Nat} {m : List (Key × AV)} {kav : AV} {k : Key} (hx : ev x = some (.mp i)) (hb : lookB hp i = some (.map m)) (hy : ev y = some kav) (hk : keyOf kav = some k) (hkk : kindB t k = true) (hm : MapKeys t m) (ok : Bool) :
    ∃ v, (Instr.lookup T (a.eval x) (a.eval y) ok).run P w = .ok (if ok then .tuple #[v, .bool (mget m k).isSome] else v) w ∧ Rel (kx E θ nx hp w) (mgetD m k (ofV zv)) v := by
  obtain ⟨hu, ht, hz⟩ := tm.out
  obtain ⟨r, es, clock, hθ, hr, hsz, hes⟩ := h.map hb
  obtain ⟨hv, hnx⟩ := mp_inv (h.rel hx)
  have hv' : a.eval x = .map (some r) := by rw [hv]; exact hθ
  have hky := keyOf_rel hk (h.rel hy)
  have hkind := kindB_spec hkk
  obtain ⟨q, hq, hspec⟩ := findNow_spec (t := t) hkind m es.toList 0 (by simpa using hsz) (fun p hp => kindB_spec (hm p hp)) (fun j p e hj he => (hes j p e hj (by simpa using he)).1)
  have hidx := mget_idx (m := m) (k := k)
  simp only [Instr.lookup, Sem.run_bind, run_underlying hu, Result.andThen_ok, hv', hky, MapKept.run_getObj_map hr, Sem.run_pure, run_checkKey_key ht hkind, run_findKey ht hq]
  cases hf : m.findIdx? (fun p => decide (p.1 = k)) with
  | none =>
    rw [hf] at hspec hidx
    subst hspec
    simp only at hidx
    cases hi : P.info? e with
    | none => rw [hi] at hz; simp at hz
    | some inf =>
      rw [hi] at hz
      simp only [Sem.run_bind, run_zeroValue hi (by simpa using hz), Result.andThen_ok, Sem.run_pure, hidx]
      refine ⟨zv, by cases ok <;> rfl, ?_⟩
      simp only [mgetD, hidx]
      exact .im (ofV_im zv)
  | some j =>
    rw [hf] at hspec hidx
    obtain ⟨e, he, rfl⟩ := hspec
    obtain ⟨p, hp1, hp2, hp3⟩ := hidx
    simp only [Sem.run_pure, Result.andThen_ok, hp3]
    refine ⟨e.val, by cases ok <;> rfl, ?_⟩
    simp only [mgetD, hp3]
    exact .im (hes j p e hp1 (by simpa using he)).2

theorem q_lookup {T kt e : Nat} {t : TypeDesc} {zv : Value} [tm : TMapK P T kt e t zv] {i : Nat} {m : List (Key × AV)} {kav : AV} {k : Key} (hx : ev x = some (.mp i)) (hb : lookB hp i = some (.map m)) (hy : ev y = some kav) (hk : keyOf kav = some k) (hkk : kindB t k = true) (hm : MapKeys t m) :
    QOp P E nx hp ev (.lookup T x y false) ty (mgetD m k (ofV zv)) :=
  q_pure fun _ _ _ θ a w h => by
    obtain ⟨v, h1, h2⟩ := lookup_run (P := P) (T := T) h hx hb hy hk hkk hm false
    exact ⟨v, by simp only [execOp, Sem.run_bind, h1, Result.andThen_ok, Sem.run_pure]; rfl, h2⟩

theorem q_lookup_ok {T kt e : Nat} {t : TypeDesc} {zv : Value} [tm : TMapK P T kt e t zv] {i : Nat} {m : List (Key × AV)} {kav : AV} {k : Key} (hx : ev x = some (.mp i)) (hb : lookB hp i = some (.map m)) (hy : ev y = some kav) (hk : keyOf kav = some k) (hkk : kindB t k = true) (hm : MapKeys t m) :
    QOp P E nx hp ev (.lookup T x y true) ty (.tup [mgetD m k (ofV zv), .b (mget m k).isSome]) :=
  q_pure fun _ _ _ θ a w h => by
    obtain ⟨v, h1, h2⟩ := lookup_run (P := P) (T := T) h hx hb hy hk hkk hm true
    refine ⟨.tuple #[v, .bool (mget m k).isSome], by simp only [execOp, Sem.run_bind, h1, Result.andThen_ok, Sem.run_pure]; rfl, ?_⟩
    exact .tup [_, _] [v, .bool (mget m k).isSome] rfl fun j u z hu hz => by
      match j, hu, hz with
      | 0, hu, hz => cases hu; cases hz; exact h2
      | 1, hu, hz => cases hu; cases hz; exact .im (.v _)

theorem sameBits_key (k : Key) (m : Nat) : Instr.sameBits m k.val k.val = true := by
  cases k with
  | s l =>
    simp only [Key.val, Instr.sameBits]
    show (l.toArray == l.toArray) = true
    simp
  | i k n => simp [Key.val, Instr.sameBits]

theorem mset_spec {k : Key} {v : AV} : ∀ (m : List (Key × AV)), (match m.findIdx? (fun p => decide (p.1 = k)) with
      | none => mset m k v = m ++ [(k, v)]
      | some j => mset m k v = m.set j (k, v))
  | [] => rfl
  | (k', v') :: r => by
    rw [List.findIdx?_cons]
    by_cases e : k' = k
    · simp only [e, decide_true, if_true]
      simp [mset]
    · simp only [e, decide_false]
      have ih := mset_spec (k := k) (v := v) r
      cases hf : r.findIdx? (fun p => decide (p.1 = k)) with
      | none => rw [hf] at ih; simp [mset, e]; exact ih
      | some j => rw [hf] at ih; simp [mset, e]; exact ih

theorem aops_mapUpdate {T kt e : Nat} {t : TypeDesc} {zv : Value} [tm : TMapK P T kt e t zv] {i : Nat} {m : List (Key × AV)} {kav av : AV} {k : Key} (hx : evO σ x = some (.mp i)) (hb : lookB σ.hp i = some (.map m)) (hy : evO σ y = some kav) (hk : keyOf kav = some k) (hkk : kindB t k = true) (hm : MapKeys t m) (hz : evO σ z = some av) (hcl : closedB av = true)
    (kk : AOps P E n ops rest (σ.set i (.map (mset m k av))) K) : AOps P E n ops (⟨none, .mapUpdate T x y z, ty, pos, after, none⟩ :: rest) σ K :=
  aops_turn hb (fun θ a w h => by
    obtain ⟨hu, ht, _⟩ := tm.out
    obtain ⟨r, es, clock, hθ, hr, hsz, hes⟩ := h.map hb
    obtain ⟨hv, hnx⟩ := mp_inv (h.rel hx)
    have hv' : a.eval x = .map (some r) := by rw [hv]; exact hθ
    have hky := keyOf_rel hk (h.rel hy)
    have hkind := kindB_spec hkk
    obtain ⟨q, hq, hspec⟩ := findNow_spec (t := t) hkind m es.toList 0 (by simpa using hsz) (fun p hp => kindB_spec (hm p hp)) (fun j p e hj he => (hes j p e hj (by simpa using he)).1)
    have hset := mset_spec (k := k) (v := av) m
    have hlt : r < w.heap.size := (Array.getElem?_eq_some_iff.1 hr).1
    have hfin : ∃ es' clock', (Instr.mapUpdate T (a.eval x) (a.eval y) (a.eval z)).run P w = .ok () { w with heap := w.heap.setIfInBounds r (.map es' clock') } ∧ es'.size = (mset m k av).length ∧
        ∀ (j : Nat) (q : Key × AV) e, (mset m k av)[j]? = some q → es'[j]? = some e → e.key = q.1.val ∧ Im (kx E θ σ.nx σ.hp w).U w q.2 e.val := by
      have himv := (closedB_spec hcl).im (h.rel hz)
      cases hf : m.findIdx? (fun p => decide (p.1 = k)) with
      | none =>
        rw [hf] at hspec hset
        subst hspec
        refine ⟨es.push { key := k.val, val := a.eval z, born := clock }, clock + 1, ?_, by simp only [hset]; simp [hsz], fun j q e hj he => ?_⟩
        · simp only [Instr.mapUpdate, Sem.run_bind, run_underlying hu, Result.andThen_ok, hv', hky, MapKept.run_getObj_map hr, Sem.run_pure, run_checkKey_key ht hkind, run_findKey ht hq, MapKept.run_setObj_map _ hr]
        · simp only [hset] at hj
          rw [Array.getElem?_push] at he
          rw [List.getElem?_append] at hj
          split at hj
          · rename_i hlt2
            rw [if_neg (by omega)] at he
            exact hes j q e hj he
          · rename_i hge
            have : j = m.length := by
              rcases Nat.lt_or_ge m.length j with h1 | h1
              · rw [List.getElem?_eq_none (by simp; omega)] at hj; cases hj
              · omega
            subst this
            rw [if_pos (by omega)] at he
            cases he
            simp at hj
            subst hj
            exact ⟨rfl, himv⟩
      | some j0 =>
        rw [hf] at hspec hset
        obtain ⟨e0, he0, rfl⟩ := hspec
        have hj0 : j0 < m.length := by
          have := (List.getElem?_eq_some_iff.1 he0).1
          simp at this
          omega
        have hmj : m[j0]? = some m[j0] := List.getElem?_eq_getElem hj0
        have hkeq : m[j0].1 = k := by
          have := List.findIdx?_eq_some_iff_getElem.1 hf
          exact of_decide_eq_true this.2.1
        have hek : e0.key = k.val := by rw [(hes j0 _ e0 hmj (by simpa using he0)).1, hkeq]
        refine ⟨es.modify j0 fun e => { e with key := k.val, val := a.eval z }, clock, ?_, by simp only [hset]; simp [hsz], fun j q e hj he => ?_⟩
        · have he0' : es[j0]? = some e0 := by simpa using he0
          simp only [Instr.mapUpdate, Sem.run_bind, run_underlying hu, Result.andThen_ok, hv', hky, MapKept.run_getObj_map hr, Sem.run_pure, run_checkKey_key ht hkind, run_findKey ht hq, Nat.zero_add, he0', Option.map_some, Option.getD_some, Instr.keyThatStays, hek, sameBits_key, if_true, MapKept.run_setObj_map _ hr]
        · simp only [hset] at hj
          rw [Array.getElem?_modify] at he
          rw [List.getElem?_set] at hj
          by_cases ej : j0 = j
          · subst ej
            rw [if_pos rfl] at he hj
            rw [if_pos hj0] at hj
            cases hj
            cases hh : es[j0]? with
            | none => rw [hh] at he; simp at he
            | some e1 => rw [hh] at he; simp at he; subst he; exact ⟨rfl, himv⟩
          · rw [if_neg ej] at he hj
            exact hes j q e hj he
    obtain ⟨es', clock', hrun, hsz', hes'⟩ := hfin
    refine ⟨{ w with heap := w.heap.setIfInBounds r (.map es' clock') }, by simp only [execOp, Sem.run_bind, hrun, Result.andThen_ok, Sem.run_pure], rfl, rfl, rfl, by simp, fun k hk => ?_, rfl, fun le => ?_⟩
    · have : k ≠ r := by intro e; subst e; exact hk (by rw [hθ]; rfl)
      simp [Array.getElem?_setIfInBounds_ne (Ne.symm this)]
    · refine ⟨r, es', clock', by simp [cx, upd_self, hθ], by simp [cx, hlt], hsz', fun j q e hj he => ⟨(hes' j q e hj he).1, ((hes' j q e hj he).2.mono le.heap le.U)⟩⟩) kk

/-! ### tuples, closures -/
theorem q_extract {l : List AV} {av : AV} {k : Nat} (hx : ev x = some (.tup l)) (hk : l[k]? = some av) : QOp P E nx hp ev (.extract x k) ty av :=
  q_pure fun _ _ _ θ a w h => by
    have : ∃ cs : List Value, a.eval x = .tuple cs.toArray ∧ l.length = cs.length ∧ ∀ (j : Nat) u z, l[j]? = some u → cs[j]? = some z → Rel (kx E θ nx hp w) u z := by
      have r := h.rel hx
      generalize a.eval x = v at r
      cases r with
      | im hi => cases hi with | tup l cs hl hc => exact ⟨cs, rfl, hl, fun j u z hu hz => .im (hc j u z hu hz)⟩
      | tup l cs hl hc => exact ⟨cs, rfl, hl, hc⟩
    obtain ⟨cs, hv, hl, hr⟩ := this
    have hlt : k < cs.length := by rw [← hl]; exact (List.getElem?_eq_some_iff.1 hk).1
    have hc : cs[k]? = some cs[k] := List.getElem?_eq_getElem hlt
    refine ⟨cs[k], ?_, hr k av _ hk hc⟩
    simp only [execOp, hv, Instr.extract]
    simp [hc, Sem.run_bind, Sem.run_pure]

theorem q_makeFunc {f : Nat} {xs : List Operand} {caps : List AV} (ha : evL ev xs = some caps) (hcl : closedLB caps = true) : QOp P E nx hp ev (.makeFunc (.func f) #[] xs.toArray) ty (.fn f caps) :=
  q_pure fun _ _ _ θ a w h => by
    obtain ⟨hl, hr⟩ := evL_spec h xs caps ha
    refine ⟨.func (.func f) #[] (xs.map a.eval).toArray, by simp [execOp, Instr.makeFunc, Sem.run_bind, Sem.run_pure], .im (.fn f caps _ (by simp [hl]) fun j u z hu hz => ?_)⟩
    exact (closedLB_spec hcl u (List.mem_of_getElem? hu)).im (hr j u z hu hz)

/-! ### parts -/
theorem str_extract (l : List UInt8) (i j : Nat) : ((⟨l.toArray⟩ : ByteArray).extract i j) = ⟨((l.take j).drop i).toArray⟩ := by
  apply ByteArray.ext
  simp [ByteArray.data_extract]
  rw [List.drop_take]

/-- The bounds of a part, if they are given. -/
def evB (ev : Operand → Option AV) (dflt : Nat) : Option Operand → Option Int
  | none => some dflt
  | some x => match ev x with
    | some (.v (.int _ i)) => some i
    | _ => none

theorem run_bound {k : IntKind} {i : Int} {m : Nat} (h0 : 0 ≤ i) (h1 : i ≤ m) (c : BoundsCode) (w : World) : (Instr.sliceBound (.int k i) m c).run P w = .ok i.toNat w := by
  simp [Instr.sliceBound, asIntOf, Sem.run_bind, Sem.run_pure, h0, h1]

theorem run_bounds {isS : Bool} {len cap : Nat} {lo hi : Option Operand} {l h : Int} {θ : Nat → Value} {a : Act} {w : World} (hev : EvT E θ nx hp ev a w) (hl : evB ev 0 lo = some l) (hh : evB ev len hi = some h) (h0 : 0 ≤ l) (h1 : l ≤ h) (h2 : h ≤ cap) :
    (Instr.sliceBounds isS len cap (lo.map a.eval) (hi.map a.eval) none).run P w = .ok (l.toNat, h.toNat, cap) w := by
  have hb : ∀ (o : Option Operand) (df : Nat) (i : Int), evB ev df o = some i → (o = none ∧ i = df) ∨ ∃ y k, o = some y ∧ a.eval y = .int k i := by
    intro o df i ho
    cases o with
    | none => exact .inl ⟨rfl, by simp [evB] at ho; exact ho.symm⟩
    | some y =>
      simp only [evB] at ho
      split at ho
      · rename_i k j hj
        cases ho
        exact .inr ⟨y, k, rfl, (hev.rel hj).val⟩
      · cases ho
  have h3 : 0 ≤ h := by omega
  rcases hb lo 0 l hl with ⟨rfl, rfl⟩ | ⟨yl, kl, rfl, hyl⟩ <;> rcases hb hi len h hh with ⟨rfl, rfl⟩ | ⟨yh, kh, rfl, hyh⟩
  · simp [Instr.sliceBounds, Sem.run_bind, Sem.run_pure]
  · simp only [Instr.sliceBounds, Option.map_none, Option.map_some, Sem.run_bind, Sem.run_pure, Result.andThen_ok, hyh, run_bound h3 h2]
    rfl
  · simp only [Instr.sliceBounds, Option.map_none, Option.map_some, Sem.run_bind, Sem.run_pure, Result.andThen_ok, hyl, run_bound h0 h1]
    rfl
  · have h4 : l ≤ (h.toNat : Int) := by omega
    simp only [Instr.sliceBounds, Option.map_some, Sem.run_bind, Sem.run_pure, Result.andThen_ok, hyl, hyh, run_bound h3 h2, run_bound h0 h4]

theorem q_slice_str {T : Nat} [ts : TStr P T] {s : List UInt8} {lo hi : Option Operand} {l h : Int} (hx : ev x = some (.str s)) (hl : evB ev 0 lo = some l) (hh : evB ev s.length hi = some h) (h0 : 0 ≤ l) (h1 : l ≤ h) (h2 : h ≤ s.length) :
    QOp P E nx hp ev (.slice T x lo hi none) ty (.str ((s.take h.toNat).drop l.toNat)) :=
  q_pure fun _ _ _ θ a w hs => by
    have hv := (hs.rel hx).sval
    refine ⟨.string ⟨((s.take h.toNat).drop l.toNat).toArray⟩, ?_, .im (.str _)⟩
    have hb := run_bounds (P := P) (isS := false) (cap := s.length) hs hl hh h0 h1 h2
    have hsz : (ByteArray.mk s.toArray).size = s.length := rfl
    simp only [execOp, hv, Instr.sliceAt, Instr.slice, Sem.run_bind, run_underlying ts.out, Result.andThen_ok, Option.isSome_none, Option.map_none, hsz, Bool.false_eq_true, if_false, hb, str_extract, Sem.run_pure]

theorem q_slice_sl {T e sz : Nat} [ts : TSl P T e sz] {s : List (List AV)} {lo hi : Option Operand} {l h : Int} (hx : ev x = some (.sl sz s)) (hl : evB ev 0 lo = some l) (hh : evB ev s.length hi = some h) (h0 : 0 ≤ l) (h1 : l ≤ h) (h2 : h ≤ s.length) :
    QOp P E nx hp ev (.slice T x lo hi none) ty (.sl sz ((s.take h.toNat).drop l.toNat)) :=
  q_pure fun _ _ _ θ a w hs => by
    obtain ⟨hu, inf, hi2, hsz⟩ := ts.out
    have hlen : ((s.take h.toNat).drop l.toNat).length = h.toNat - l.toNat := by rw [List.length_drop, List.length_take]; omega
    rcases sl_inv (hs.rel hx) with ⟨hv, e⟩ | ⟨p, cap, f, hv, h3, h4, h5, h6, h7, h8⟩
    · subst e
      have hb := run_bounds (P := P) (isS := true) (cap := 0) hs hl hh h0 h1 (by simpa using h2)
      have e1 : h = 0 := by simp at h2; omega
      have e2 : l = 0 := by omega
      subst e1; subst e2
      refine ⟨.slice none 0 0, ?_, .im (.slnil sz)⟩
      simp only [List.length_nil] at hb
      simp only [execOp, hv, Instr.sliceAt, Instr.slice, Sem.run_bind, run_underlying hu, Result.andThen_ok, Option.map_none, hb, Sem.run_pure, sizeOf, typeInfo, program, Sem.run, hi2]
      rfl
    · have hb := run_bounds (P := P) (isS := true) (cap := cap) hs hl hh h0 h1 (by omega)
      refine ⟨.slice (some (if cap = l.toNat then p else p.add (l.toNat * sz))) (h.toNat - l.toNat) (cap - l.toNat), ?_, ?_⟩
      · simp only [execOp, hv, Instr.sliceAt, Instr.slice, Sem.run_bind, run_underlying hu, Result.andThen_ok, Option.map_none, hb, Sem.run_pure, sizeOf, typeInfo, program, Sem.run, hi2, hsz]
        split <;> rfl
      · rw [← hlen]
        have hget : ∀ (i : Nat) el, ((s.take h.toNat).drop l.toNat)[i]? = some el → s[l.toNat + i]? = some el ∧ l.toNat + i < s.length ∧ l.toNat ≠ cap := by
          intro i el hi
          rw [List.getElem?_drop, List.getElem?_take] at hi
          split at hi
          · have := (List.getElem?_eq_some_iff.1 hi).1
            exact ⟨hi, this, by omega⟩
          · cases hi
        refine .im (.sl sz _ _ _ (fun i j => f (l.toNat + i) j) (by rw [hlen]; omega) (by omega) (fun hne hs0 => ?_) (fun el hel => ?_) (fun i hi j hj => ?_) (fun i el hi j u hu => ?_))
        · have : s ≠ [] := by intro e; subst e; simp at hne
          split
          · exact h5 this hs0
          · rw [add_block]; exact h5 this hs0
        · exact h6 el (List.mem_of_mem_take (List.mem_of_mem_drop hel))
        · have hg := hget i _ (List.getElem?_eq_getElem hi)
          rw [if_neg (fun e => hg.2.2 e.symm), add_addr]
          have := h7 (l.toNat + i) hg.2.1 j hj
          rw [Nat.add_mul, Nat.add_assoc] at this
          exact this
        · have hg := hget i _ hi
          exact h8 _ _ hg.1 j u hu
end rules
end Go.Av

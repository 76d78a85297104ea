/- Slice literals, cuts, maps of one's own, closures. -/
import Derived.Test.YtmiaihoallkjfaaDoorAvR
namespace Go.Av
open Go Go.RowKit
set_option linter.unusedSimpArgs false
set_option linter.unusedVariables false
set_option linter.unnecessarySimpa false

def elsA : List (Nat × AV) → List (List AV)
  | [] => []
  | (_, a) :: r => cellsA a :: elsA r
def denseB : Nat → List (Nat × AV) → Bool
  | _, [] => true
  | k, (i, _) :: r => Nat.beq i k && denseB (k + 1) r
def allLenB (sz : Nat) : List (List AV) → Bool
  | [] => true
  | e :: r => Nat.beq e.length sz && allLenB sz r
theorem allLenB_spec {sz : Nat} : ∀ {l : List (List AV)}, allLenB sz l = true → ∀ e ∈ l, e.length = sz
  | [], _, e, he => by cases he
  | x :: r, h, e, he => by
    simp only [allLenB, Bool.and_eq_true, Nat.beq_eq] at h
    rcases List.mem_cons.1 he with rfl | he
    · exact h.1
    · exact allLenB_spec h.2 e he
theorem elsA_length : ∀ (ps : List (Nat × AV)), (elsA ps).length = ps.length
  | [] => rfl
  | _ :: r => by simp [elsA, elsA_length r]

theorem fillA_dense {sz len : Nat} : ∀ (ps : List (Nat × AV)) (k : Nat) (A : List AV), A.length = k * sz → denseB k ps = true → allLenB sz (elsA ps) = true → k + ps.length = len →
    fillA ((List.range len).map fun i => (i * sz, sz)) (A ++ List.replicate (ps.length * sz) .any) ps = some (A ++ (elsA ps).flatten)
  | [], k, A, hA, _, _, _ => by simp [fillA, elsA]
  | (i, a) :: r, k, A, hA, hd, hl, hk => by
    simp only [denseB, Bool.and_eq_true, Nat.beq_eq] at hd
    simp only [elsA, allLenB, Bool.and_eq_true, Nat.beq_eq] at hl
    obtain ⟨rfl, hd⟩ := hd
    simp only [List.length_cons] at hk
    have hget : ((List.range len).map fun j => (j * sz, sz))[i]? = some (i * sz, sz) := by
      rw [List.getElem?_map, List.getElem?_range (by omega)]; rfl
    have hmul : (r.length + 1) * sz = sz + r.length * sz := by rw [Nat.add_mul, Nat.one_mul]; omega
    simp only [fillA, hget]
    have hb : (Nat.beq (cellsA a).length sz && Nat.ble (i * sz + (cellsA a).length) (A ++ List.replicate (((i, a) :: r).length * sz) AV.any).length) = true := by
      simp only [Bool.and_eq_true, Nat.beq_eq, Nat.ble_eq, List.length_append, List.length_replicate, List.length_cons]
      exact ⟨hl.1, by rw [hA, hl.1, hmul]; omega⟩
    rw [hb]
    have hs : spliceA (A ++ List.replicate (((i, a) :: r).length * sz) AV.any) (i * sz) (cellsA a) = (A ++ cellsA a) ++ List.replicate (r.length * sz) AV.any := by
      unfold spliceA
      rw [← hA, List.take_left, List.drop_append, List.drop_of_length_le (by omega), List.length_cons, hmul, hl.1]
      simp
    have ih := fillA_dense (sz := sz) (len := len) r (i + 1) (A ++ cellsA a) (by rw [List.length_append, hA, hl.1, Nat.add_mul, Nat.one_mul]) hd hl.2 (by omega)
    simp only [cond_true]
    rw [hs, ih]
    simp [elsA]

theorem flat_get {sz : Nat} : ∀ {l : List (List AV)} {i j : Nat} {e : List AV} {x : AV}, (∀ e ∈ l, e.length = sz) → l[i]? = some e → e[j]? = some x → l.flatten[i * sz + j]? = some x
  | [], i, j, e, x, _, h, _ => by simp at h
  | a :: r, 0, j, e, x, hs, h, hx => by
    simp at h; subst h
    rw [List.flatten_cons, Nat.zero_mul, Nat.zero_add, List.getElem?_append_left (List.getElem?_eq_some_iff.1 hx).1]
    exact hx
  | a :: r, i + 1, j, e, x, hs, h, hx => by
    have ha := hs a (by simp)
    rw [List.flatten_cons, List.getElem?_append_right (by rw [ha, Nat.add_mul]; omega)]
    have := flat_get (l := r) (i := i) (j := j) (fun e he => hs e (by simp [he])) (by simpa using h) hx
    rw [← this]
    congr 1
    rw [ha, Nat.add_mul]
    omega
theorem flat_length {sz : Nat} : ∀ {l : List (List AV)}, (∀ e ∈ l, e.length = sz) → l.flatten.length = l.length * sz
  | [], _ => by simp
  | a :: r, hs => by
    rw [List.flatten_cons, List.length_append, hs a (by simp), flat_length (fun e he => hs e (by simp [he])), List.length_cons, Nat.add_mul]
    omega

section rules
variable {P : Program} {E : Env} {n nx : Nat} {hp : Hp} {ev : Operand → Option AV} {ops : Array Oper} {rest : List Oper} {σ : St} {K : St → Prop} {Q : Exit → St → Prop}
variable {d : Nat} {ty : TypeId} {pos : String} {after : Array Edge} {x y : Operand}

def AllImOne : List (List AV) → Prop
  | [] => True
  | e :: r => (∀ u ∈ e, imOne u) ∧ AllImOne r
theorem AllImOne.mem : ∀ {l : List (List AV)}, AllImOne l → ∀ e ∈ l, ∀ u ∈ e, imOne u
  | [], _, e, he => by cases he
  | x :: r, h, e, he => by
    rcases List.mem_cons.1 he with rfl | he
    · exact h.1
    · exact AllImOne.mem h.2 e he

theorem run_buildSlice' {T e sz : Nat} {z : List Value} [ts : TSl P T e sz] [tz : TZero P e z] {parts : List (Nat × Operand)} {ps : List (Nat × AV)} {len : Nat} {θ : Nat → Value} {a : Act} {w : World} (h : EvT E θ nx hp ev a w) (he : evP ev parts = some ps) (hfit : FitsP hp ps)
    (hd : denseB 0 ps = true) (hl : allLenB sz (elsA ps) = true) (hlen : ps.length = len) (hz : z.length = sz) (hsmall : len * sz ≤ 16777216) (hpos : 0 < sz) :
    ∃ cells : Array Value, (Instr.buildSlice T len (parts.toArray.map fun (i, x) => (i, a.eval x))).run P w = .ok (.slice (some ⟨w.heap.size, 0, none⟩) len len) (w.alloc (.cells cells e)) ∧ PW (kx E θ nx hp w) (elsA ps).flatten cells.toList := by
  obtain ⟨hu, i, hi, hsz⟩ := ts.out
  obtain ⟨i2, zv, hi2, hzv, hzc⟩ := tz.out
  rw [hi] at hi2
  cases hi2
  subst hlen
  have hf := fillA_dense (sz := sz) (len := ps.length) ps 0 [] (by simp) hd hl (by omega)
  simp only [List.nil_append] at hf
  have hsz2 : ((Array.range (ps.length * i.size)).map (zv.cells[· % zv.cells.size]!)).size = ps.length * sz := by simp [hsz]
  obtain ⟨cells', h1, h2⟩ := fill_spec h (pl := (List.range ps.length).map fun i => (i * sz, sz)) (place := fun q => some (q * i.size, i.size)) (fun j p hj => by
    simp only [List.getElem?_map, Option.map_eq_some_iff] at hj
    obtain ⟨t, ht, rfl⟩ := hj
    have hlt : j < ps.length := by
      rcases Nat.lt_or_ge j ps.length with h1 | h1
      · exact h1
      · rw [List.getElem?_eq_none (by simpa using h1)] at ht; cases ht
    rw [List.getElem?_range hlt] at ht
    cases ht
    rw [hsz]) parts ps (List.replicate (ps.length * sz) .any) _ ((Array.range (ps.length * i.size)).map (zv.cells[· % zv.cells.size]!)) he hfit ⟨by simp [hsz], fun j u y hu hy => by
      have : u = .any := by
        have := List.mem_of_getElem? hu
        exact List.eq_of_mem_replicate this
      subst this
      exact .any _⟩ hf
  refine ⟨cells', ?_, h2⟩
  have hn : ¬ (ps.length * sz > 2 ^ 24) := by omega
  simp only [Instr.buildSlice, Sem.run_bind, run_underlying hu, Result.andThen_ok, sizeOf, typeInfo, program, Sem.run, hi, Sem.run_pure, hsz, Sem.run_ite]
  rw [if_neg hn]
  have h1' : Instr.fill (fun i => some (i * sz, sz)) ((Array.range (ps.length * sz)).map (zv.cells[· % zv.cells.size]!)) (parts.toArray.map fun (i, x) => (i, a.eval x)).toList = some cells' := by
    rw [← h1, hsz]
    simp
  split
  · rename_i h0
    have e1 : (Array.range (ps.length * sz)).map ((#[] : Array Value)[· % (#[] : Array Value).size]!) = (Array.range (ps.length * sz)).map (zv.cells[· % zv.cells.size]!) := by simp [h0]
    rw [e1, h1']
    rfl
  · rw [run_zeroValue hi hzv]
    simp only [Result.andThen_ok]
    rw [h1']
    rfl

theorem q_buildSlice {T e sz : Nat} {z : List Value} [ts : TSl P T e sz] [tz : TZero P e z] {parts : List (Nat × Operand)} {ps : List (Nat × AV)} {len : Nat} (he : evP ev parts = some ps) (hfit : FitsP hp ps)
    (hd : denseB 0 ps = true) (hl : allLenB sz (elsA ps) = true) (hlen : ps.length = len) (hz : z.length = sz) (hsmall : len * sz ≤ 16777216) (hpos : 0 < sz) (him : AllImOne (elsA ps)) :
    QOp P E nx hp ev (.buildSlice T len parts.toArray) ty (.sl sz (elsA ps)) :=
  q_grow fun _ _ _ θ a w h => by
    obtain ⟨cells, hr, hpw⟩ := run_buildSlice' (P := P) (T := T) (e := e) h he hfit hd hl hlen hz hsmall hpos
    have hels : (elsA ps).length = len := by rw [elsA_length, hlen]
    have hsz := allLenB_spec hl
    have hcl : cells.size = len * sz := by
      have := hpw.1
      rw [flat_length hsz, hels, Array.length_toList] at this
      exact this.symm
    have h1 : len ≤ len * sz := Nat.le_mul_of_pos_right _ hpos
    refine ⟨.slice (some ⟨w.heap.size, 0, none⟩) len len, w.alloc (.cells cells e), by simp only [execOp, Sem.run_bind, hr, Result.andThen_ok, Sem.run_pure], below_alloc _ _, .im ?_⟩
    rw [← hels]
    refine .sl sz (elsA ps) ⟨w.heap.size, 0, none⟩ _ (fun i j => cells.toList.getD (i * sz + j) undef) (Nat.le_refl _) (by unfold maxLen; omega) (fun _ _ hu => absurd (h.Ult _ hu) (Nat.lt_irrefl _)) hsz (fun i hi j hj => ?_) (fun i el hi j u hu => ?_)
    · rw [hels] at hi
      have hin : i * sz + j < cells.size := by
        rw [hcl]
        have : (i + 1) * sz ≤ len * sz := Nat.mul_le_mul_right _ hi
        rw [Nat.add_mul, Nat.one_mul] at this
        omega
      rw [addr_add]
      refine (cell_of_block (b := w.heap.size) (heap_alloc_new w _) _).trans ?_
      simp [hin]
    · have hfg := flat_get hsz hi hu
      have hlt : i * sz + j < cells.toList.length := by rw [← hpw.1]; exact (List.getElem?_eq_some_iff.1 hfg).1
      have hc : cells.toList[i * sz + j]? = some cells.toList[i * sz + j] := List.getElem?_eq_getElem hlt
      have hrel := hpw.2 _ _ _ hfg hc
      have him' := (him.mem el (List.mem_of_getElem? hi) u (List.mem_of_getElem? hu))
      have hI := (closedB_spec (imOne.spec (U := (kx E θ nx hp w).U) (w := w) him').1).im hrel
      have e1 : cells.toList.getD (i * sz + j) undef = cells.toList[i * sz + j] := by simp [List.getD, hlt] at hlt ⊢; simp [hlt]
      rw [e1]
      exact hI.mono (fun k hk _ => heap_alloc_old w _ hk) fun k _ hu => hu

theorem aops_buildSlice {T e sz : Nat} {z : List Value} [ts : TSl P T e sz] [tz : TZero P e z] {parts : List (Nat × Operand)} {ps : List (Nat × AV)} {len : Nat} (he : evP (evO σ) parts = some ps) (hfit : FitsP σ.hp ps)
    (hdn : denseB 0 ps = true) (hl : allLenB sz (elsA ps) = true) (hlen : ps.length = len) (hz : z.length = sz) (hsmall : len * sz ≤ 16777216) (hpos : 0 < sz) (him : AllImOne (elsA ps)) (hd : Nat.blt d n = true)
    (k : AOps P E n ops rest ((σ.new (.row e sz 0 (elsA ps))).put d (.row σ.nx 0 len)) K) : AOps P E n ops (⟨some d, .buildSlice T len parts.toArray, ty, pos, after, none⟩ :: rest) σ K :=
  aops_new hd (fun θ a w h => by
    obtain ⟨cells, hr, hpw⟩ := run_buildSlice' (P := P) (T := T) (e := e) h he hfit hdn hl hlen hz hsmall hpos
    have hels : (elsA ps).length = len := by rw [elsA_length, hlen]
    have hsz := allLenB_spec hl
    have hcl : cells.toList.length = (elsA ps).length * sz := by rw [← hpw.1, flat_length hsz]
    have h1 : len ≤ len * sz := Nat.le_mul_of_pos_right _ hpos
    refine ⟨.slice (some ⟨w.heap.size, 0, none⟩) len len, .slice (some ⟨w.heap.size, 0, none⟩) len len, w.alloc (.cells cells e), by simp only [execOp, Sem.run_bind, hr, Result.andThen_ok, Sem.run_pure], below_alloc _ _, fp_slice (Nat.le_refl _), fun le => ?_⟩
    have key := row_made (E := E) (σ := σ) (θ := θ) (w := w) (w' := w.alloc (.cells cells e)) (xs := cells.toList) (rest := []) (e := e) (sz := sz) (g := w.heap.size) (cap := len) (l := elsA ps)
      (Nat.le_refl _) (by simpa using heap_alloc_new w _) hcl (by omega) (by unfold maxLen; omega) (by simpa [hels] using hcl) hsz (fun k el hk j u hu => ?_) (by rw [hels]; exact le)
    · rw [hels] at key; exact key
    · have hfg := flat_get hsz hk hu
      have hlt : k * sz + j < cells.toList.length := by rw [← hpw.1]; exact (List.getElem?_eq_some_iff.1 hfg).1
      have hc : cells.toList[k * sz + j]? = some cells.toList[k * sz + j] := List.getElem?_eq_getElem hlt
      have hrel := hpw.2 _ _ _ hfg hc
      have him' := (him.mem el (List.mem_of_getElem? hk) u (List.mem_of_getElem? hu))
      exact ⟨_, hc, (closedB_spec (imOne.spec (U := (kx E θ σ.nx σ.hp w).U) (w := w) him').1).im hrel⟩) k

/-! ### maps -/
def mget (m : List (Key × AV)) (k : Key) : Option AV := (m.find? fun p => decide (p.1 = k)).map (·.2)
def mset : List (Key × AV) → Key → AV → List (Key × AV)
  | [], k, v => [(k, v)]
  | (k', v') :: r, k, v => if k' = k then (k', v) :: r else (k', v') :: mset r k v

/-- The map's keys are of the kind that k is of. -/
def keyKind (t : TypeDesc) : Key → Prop
  | .s _ => t = .string
  | .i k _ => t = .int k

theorem aops_makeMap {T : TypeId} (hd : Nat.blt d n = true) (k : AOps P E n ops rest ((σ.new (.map [])).put d (.mp σ.nx)) K) : AOps P E n ops (⟨some d, .makeMap T none, ty, pos, after, none⟩ :: rest) σ K :=
  aops_new (b := .map []) hd (fun θ a w h => ⟨.map (some w.heap.size), .map (some w.heap.size), w.alloc (.map #[] 0), by simp [execOp, Instr.makeMap, newObj, Sem.run_bind, Sem.run_pure, Sem.run], below_alloc _ _, fun k hk => by simp [fp] at hk; omega, fun le =>
    ⟨⟨w.heap.size, #[], 0, by simp [cx, upd_self], heap_alloc_new w _, rfl, fun j kx e hx => by simp at hx⟩, .mp _ _ (by simp [cx, St.new]) (by simp [cx, upd_self])⟩⟩) k

theorem mp_inv {c : Cx} {i : Nat} {y : Value} (r : Rel c (.mp i) y) : y = c.θ i ∧ i < c.nx := by
  cases r with
  | im hi => cases hi
  | mp i r hi hθ => exact ⟨hθ.symm, hi⟩

theorem sameNow_key {t : TypeDesc} {k k' : Key} (h : keyKind t k) (h' : keyKind t k') : Instr.sameNow t k.val k'.val = some (decide (k = k')) := by
  cases k with
  | s l =>
    simp only [keyKind] at h
    subst h
    cases k' with
    | s l' =>
      simp only [Key.val, Instr.sameNow, Key.s.injEq]
      congr 1
      show (l.toArray == l'.toArray) = _
      by_cases e : l = l' <;> simp [e]
    | i k n => simp [keyKind] at h'
  | i kk m =>
    simp only [keyKind] at h
    subst h
    cases k' with
    | s l' => simp [keyKind] at h'
    | i k' m' =>
      simp only [keyKind, TypeDesc.int.injEq] at h'
      subst h'
      simp [Key.val, Instr.sameNow, beqI]

theorem findNow_spec {t : TypeDesc} {k : Key} (hk : keyKind t k) : ∀ (m : List (Key × AV)) (es : List MapEntry) (i : Nat), es.length = m.length → (∀ p ∈ m, keyKind t p.1) → (∀ (j : Nat) (p : Key × AV) e, m[j]? = some p → es[j]? = some e → e.key = p.1.val) →
    ∃ r, Instr.findNow t k.val es i = some r ∧ (match m.findIdx? (fun p => decide (p.1 = k)) with
      | none => r = none
      | some j => ∃ e, es[j]? = some e ∧ r = some (i + j, e.val))
  | [], es, i, hl, _, _ => by
    have : es = [] := List.eq_nil_of_length_eq_zero (by simpa using hl)
    subst this
    exact ⟨none, rfl, rfl⟩
  | p :: r, [], i, hl, _, _ => by simp at hl
  | p :: r, e :: es, i, hl, hkk, hke => by
    have hkey := hke 0 p e rfl rfl
    have hs := sameNow_key (t := t) hk (hkk p (by simp))
    simp only [Instr.findNow, hkey]
    rw [show Instr.sameNow t k.val p.1.val = some (decide (k = p.1)) from hs]
    by_cases e1 : p.1 = k
    · rw [decide_eq_true e1.symm]
      refine ⟨_, rfl, ?_⟩
      rw [List.findIdx?_cons]
      simp only [e1, decide_true, if_true]
      exact ⟨e, rfl, rfl⟩
    · rw [decide_eq_false (fun h => e1 h.symm)]
      obtain ⟨q, hq, hrest⟩ := findNow_spec hk r es (i + 1) (by simpa using hl) (fun p hp => hkk p (by simp [hp])) (fun j p e hj he => hke (j + 1) p e (by simpa using hj) (by simpa using he))
      refine ⟨q, hq, ?_⟩
      rw [List.findIdx?_cons]
      simp only [e1, decide_false]
      cases hf : r.findIdx? (fun p => decide (p.1 = k)) with
      | none => rw [hf] at hrest; simpa using hrest
      | some j =>
        rw [hf] at hrest
        obtain ⟨e', he', hqe⟩ := hrest
        simp only [Option.map_some]
        refine ⟨e', by simpa using he', ?_⟩
        rw [hqe]
        congr 2
        omega

theorem run_checkKey_fuel {kt : TypeId} {t : TypeDesc} {k : Key} (ht : P.underlying kt = some t) (hk : keyKind t k) (b : Bool) (m : Nat) (w : World) : (Instr.checkKey b (m + 1) kt k.val).run P w = .ok () w := by
  cases k with
  | s l => simp only [keyKind] at hk; subst hk; simp only [Instr.checkKey, Sem.run_bind, run_underlying ht, Result.andThen_ok, Key.val]; rfl
  | i kk m => simp only [keyKind] at hk; subst hk; simp only [Instr.checkKey, Sem.run_bind, run_underlying ht, Result.andThen_ok, Key.val]; rfl
theorem run_checkKey_key {kt : TypeId} {t : TypeDesc} {k : Key} (ht : P.underlying kt = some t) (hk : keyKind t k) (b : Bool) (w : World) : (Instr.checkKey b 10000 kt k.val).run P w = .ok () w := run_checkKey_fuel ht hk b 9999 w

/-- What reads as a key. -/
def keyOf : AV → Option Key
  | .str l => some (.s l)
  | .v (.int k n) => some (.i k n)
  | _ => none
theorem keyOf_rel {c : Cx} {av : AV} {k : Key} {y : Value} (h : keyOf av = some k) (r : Rel c av y) : y = k.val := by
  unfold keyOf at h
  split at h
  · cases h; exact r.sval
  · cases h; exact r.val
  · cases h

def kindB : TypeDesc → Key → Bool
  | .string, .s _ => true
  | .int k, .i k' _ => decide (k = k')
  | _, _ => false
theorem kindB_spec {t : TypeDesc} {k : Key} (h : kindB t k = true) : keyKind t k := by
  unfold kindB at h
  split at h
  · rfl
  · exact (congrArg TypeDesc.int (of_decide_eq_true h))
  · cases h

theorem mget_idx {m : List (Key × AV)} {k : Key} : (match m.findIdx? (fun p => decide (p.1 = k)) with
      | none => mget m k = none
      | some j => ∃ p, m[j]? = some p ∧ p.1 = k ∧ mget m k = some p.2) := by
  induction m with
  | nil => simp [mget]
  | cons p r ih =>
    rw [List.findIdx?_cons]
    by_cases e : p.1 = k
    · simp only [e, decide_true, if_true]
      exact ⟨p, rfl, e, by simp [mget, e]⟩
    · simp only [e, decide_false]
      cases hf : r.findIdx? (fun p => decide (p.1 = k)) with
      | none => rw [hf] at ih; simp [mget, e] at ih ⊢; exact ih
      | some j =>
        rw [hf] at ih
        obtain ⟨q, h1, h2, h3⟩ := ih
        simp only [Option.map_some]
        exact ⟨q, by simpa using h1, h2, by simp [mget, e] at h3 ⊢; exact h3⟩
end rules
end Go.Av

/- Operations that make or write memory of one's own. -/
import Derived.Test.YtmiaihoallkjfaaDoorAvM
namespace Go.Av
open Go Go.RowKit
set_option linter.unusedSimpArgs false
set_option linter.unusedVariables false
set_option linter.unnecessarySimpa false

section rules
variable {P : Program} {E : Env} {n nx : Nat} {hp : Hp} {ev : Operand → Option AV} {ops : Array Oper} {rest : List Oper} {σ : St} {K : St → Prop} {Q : Exit → St → Prop}
variable {d : Nat} {ty : TypeId} {pos : String} {after : Array Edge} {x y : Operand}

/-- An operation that makes a new block of its own. -/
theorem aops_new {op : Op} {av : AV} {b : Blk} (hdn : Nat.blt d n = true)
    (hrun : ∀ θ a w, EvT E θ σ.nx σ.hp (evO σ) a w → ∃ v vv w', (execOp a.eval ⟨some d, op, ty, pos, after, none⟩).run P w = .ok (.value v) w' ∧ Below w.heap.size w w' ∧ (∀ k, fp vv = some k → w.heap.size ≤ k) ∧
      ((cx E θ σ w).le (cx E (upd θ σ.nx vv) (σ.new b) w') → OwnOk (cx E (upd θ σ.nx vv) (σ.new b) w') σ.nx b ∧ Rel (cx E (upd θ σ.nx vv) (σ.new b) w') av v))
    (k : AOps P E n ops rest ((σ.new b).put d av) K) : AOps P E n ops (⟨some d, op, ty, pos, after, none⟩ :: rest) σ K := by
  intro a w ⟨θ, hs⟩
  unfold wpList
  rw [if_pos (by simp [Region.wanted])]
  left
  obtain ⟨v, vv, w', hr, hb, hf, ho⟩ := hrun θ a w hs.evT
  simp only [Oper.wp, hr, Oper.upon]
  have le : (cx E θ σ w).le (cx E (upd θ σ.nx vv) (σ.new b) w') := by
    refine ⟨Nat.le_succ _, fun i hi => .inl (upd_other _ _ (Nat.ne_of_lt hi)), fun i hi e' sz' v' l' hl => ?_, hb.size, fun k hk _ => hb.block k hk, fun k hk hu => ?_⟩
    · have hi' : i < σ.nx := hi
      refine ⟨e', v', l', ?_, .inr ⟨rfl, rfl, upd_other _ _ (Nat.ne_of_lt hi)⟩⟩
      simp only [cx, St.new, lookB_cons] at hl
      rw [if_neg (by omega)] at hl
      exact hl
    · rcases hu with hu | ⟨i, b', hi, hk'⟩
      · exact .inl hu
      · simp only [cx, St.new, lookB_cons] at hi
        by_cases e : σ.nx = i
        · subst e
          simp only [cx, upd_self] at hk'
          have hk2 : k < w.heap.size := hk
          have := hf k hk'
          omega
        · rw [if_neg e] at hi
          refine .inr ⟨i, b', hi, ?_⟩
          simpa only [cx, upd_other _ _ (Ne.symm e)] using hk'
  have h2 := hs.grow hb vv b hf fun _ => (ho le).1
  exact k _ _ ⟨_, h2.put (Nat.blt_eq ▸ hdn) (ho le).2⟩

theorem run_newRow (e : TypeId) (cells : Array Value) (w : World) : (newRow e cells).run P w = .ok ⟨w.heap.size, 0, none⟩ (w.alloc (.cells cells e)) := rfl

theorem box_made {θ : Nat → Value} {w : World} {cs : List Value} {T : TypeId} {l : List AV} (hl : l.length = cs.length)
    (le : (cx E θ σ w).le (cx E (upd θ σ.nx (.pointer (some ⟨w.heap.size, 0, none⟩))) (σ.new (.box l)) (w.alloc (.cells cs.toArray T))))
    (hr : ∀ (j : Nat) u z, l[j]? = some u → cs[j]? = some z → Rel (cx E θ σ w) u z) :
    OwnOk (cx E (upd θ σ.nx (.pointer (some ⟨w.heap.size, 0, none⟩))) (σ.new (.box l)) (w.alloc (.cells cs.toArray T))) σ.nx (.box l) ∧
    Rel (cx E (upd θ σ.nx (.pointer (some ⟨w.heap.size, 0, none⟩))) (σ.new (.box l)) (w.alloc (.cells cs.toArray T))) (.ref σ.nx 0) (.pointer (some ⟨w.heap.size, 0, none⟩)) :=
  ⟨⟨w.heap.size, cs.toArray, T, by simp [cx, upd_self], heap_alloc_new w _, by simp [hl], fun j u z hu hz => (hr j u z hu (by simpa using hz)).mono le⟩,
   .ref _ _ _ (by simp [cx, St.new]) (by simp [cx, upd_self])⟩

theorem fp_new {w : World} : ∀ k, fp (.pointer (some ⟨w.heap.size, 0, none⟩)) = some k → w.heap.size ≤ k := by
  intro k hk; simp [fp] at hk; omega

theorem aops_box {T : TypeId} {av : AV} (hx : evO σ x = some av) (hf : Fits σ.hp av) (hd : Nat.blt d n = true)
    (k : AOps P E n ops rest ((σ.new (.box (cellsA av))).put d (.ref σ.nx 0)) K) : AOps P E n ops (⟨some d, .box T x, ty, pos, after, none⟩ :: rest) σ K :=
  aops_new hd (fun θ a w h => by
    obtain ⟨cs, hc, hl, hr⟩ := cells_rel h hf (h.rel hx)
    exact ⟨_, .pointer (some ⟨w.heap.size, 0, none⟩), w.alloc (.cells cs.toArray T), by simp [execOp, Instr.box, newVar, Sem.run_bind, hc, run_newRow], below_alloc _ _, fp_new, fun le => box_made hl le hr⟩) k

theorem aops_alloc {T : TypeId} {l : List Value} [tz : TZero P T l] (hd : Nat.blt d n = true)
    (k : AOps P E n ops rest ((σ.new (.box (l.map ofV))).put d (.ref σ.nx 0)) K) : AOps P E n ops (⟨some d, .alloc T, ty, pos, after, none⟩ :: rest) σ K :=
  aops_new hd (fun θ a w h => by
    obtain ⟨i, z, h1, h2, h3⟩ := tz.out
    refine ⟨_, .pointer (some ⟨w.heap.size, 0, none⟩), w.alloc (.cells l.toArray T), by simp [execOp, Instr.alloc, newVar, Sem.run_bind, run_zeroValue h1 h2, h3, run_newRow], below_alloc _ _, fp_new, fun le => box_made (by simp) le ?_⟩
    intro j u z hu hz
    simp at hu
    obtain ⟨v, hv, rfl⟩ := hu
    rw [hz] at hv
    cases hv
    exact .im (ofV_im _)) k

/-! ### stores -/
/-- A store into memory of one's own: no value comes back. -/
theorem aops_turn {op : Op} {i : Nat} {b b' : Blk} (hi : lookB σ.hp i = some b)
    (hrun : ∀ θ a w, EvT E θ σ.nx σ.hp (evO σ) a w → ∃ w', (execOp a.eval ⟨none, op, ty, pos, after, none⟩).run P w = .ok .skip w' ∧ w'.os = w.os ∧ w'.tape = w.tape ∧ w'.output = w.output ∧ w'.heap.size = w.heap.size ∧
      (∀ k, fp (θ i) ≠ some k → w'.heap[k]? = w.heap[k]?) ∧ Turns (θ i) (θ i) b b' ∧
      ((cx E θ σ w).le (cx E (upd θ i (θ i)) (σ.set i b') w') → OwnOk (cx E (upd θ i (θ i)) (σ.set i b') w') i b'))
    (k : AOps P E n ops rest (σ.set i b') K) : AOps P E n ops (⟨none, op, ty, pos, after, none⟩ :: rest) σ K := by
  intro a w ⟨θ, hs⟩
  unfold wpList
  rw [if_pos (by simp [Region.wanted])]
  left
  obtain ⟨w', hr, h1, h2, h3, h4, h5, h6, h7⟩ := hrun θ a w hs.evT
  simp only [Oper.wp, hr, Oper.upon]
  have h8 := hs.turn (b' := b') (v' := θ i) hi h1 h2 h3 (by omega) (fun k _ => h5 k) (fun k hk => .inl hk) h6 h7
  exact k _ _ ⟨_, by simpa [Act.put] using h8⟩

def AllOne (hp : Hp) : List AV → Prop
  | [] => True
  | x :: r => One hp x ∧ AllOne hp r
theorem AllOne.mem {hp : Hp} : ∀ {l : List AV}, AllOne hp l → ∀ x ∈ l, One hp x
  | [], _, x, hx => by cases hx
  | y :: r, h, x, hx => by
    rcases List.mem_cons.1 hx with rfl | hx
    · exact h.1
    · exact AllOne.mem h.2 x hx

theorem run_storeVar {T sz : Nat} {ag : Bool} [tv : TVar P T ag sz] {g off : Nat} {t : TypeId} {cur : Array Value} {w : World} {v : Value} {cs : List Value} (hc : v.cells = cs.toArray) (hl : cs.length = sz) (hg : w.heap[g]? = some (.cells cur t (0, 0)))
    (hfit : off + cs.length ≤ cur.size) (h1 : ∀ v ∈ cs, v.oneCell' = true) :
    (storeVar T ⟨g, off, none⟩ v).run P w = .ok () (w.setRow g (cur.toList.take off ++ cs ++ cur.toList.drop (off + cs.length)).toArray) := by
  have := run_storeCells_at P g off t cs 0 cur w hg (by simpa using hfit) h1
  simp only [Nat.add_zero] at this
  simp [storeVar, Sem.run_bind, run_sizeOf (P := P) (T := T) (ag := ag) (sz := sz), hc, hl, this]

theorem run_opStore {T : TypeId} {a : Act} {w w' : World} {p : Addr} {o : Option Tmp} (hv : a.eval x = .pointer (some p)) (hr : (storeVar T p (a.eval y)).run P w = .ok () w') :
    (execOp a.eval ⟨o, .store T x y, ty, pos, after, none⟩).run P w = .ok .skip w' := by
  simp only [execOp, hv, Instr.storeAt, Instr.sureAddr, Sem.run_bind, Sem.run_pure, Result.andThen_ok, hr]

theorem aops_store_ref {T sz : Nat} {ag : Bool} [tv : TVar P T ag sz] {i off : Nat} {l : List AV} {av : AV} (hx : evO σ x = some (.ref i off)) (hy : evO σ y = some av) (hb : lookB σ.hp i = some (.box l)) (hf : Fits σ.hp av) (ho : AllOne σ.hp (cellsA av))
    (hsz : (cellsA av).length = sz) (hfit : off + sz ≤ l.length) (k : AOps P E n ops rest (σ.set i (.box (spliceA l off (cellsA av)))) K) : AOps P E n ops (⟨none, .store T x y, ty, pos, after, none⟩ :: rest) σ K :=
  aops_turn hb (fun θ a w h => by
    obtain ⟨b, hθ, hv, _⟩ := ref_inv (h.rel hx)
    obtain ⟨b', arr, T', hθ', hh, hs, hr⟩ := h.box hb
    have hbb : θ i = .pointer (some ⟨b, 0, none⟩) := hθ
    rw [hθ'] at hbb
    cases hbb
    obtain ⟨cs, hc, hl, hrel⟩ := cells_rel h hf (h.rel hy)
    have h1 : ∀ v ∈ cs, v.oneCell' = true := by
      intro v hv
      obtain ⟨j, hj⟩ := List.mem_iff_getElem?.1 hv
      have hlt : j < (cellsA av).length := by rw [hl]; exact (List.getElem?_eq_some_iff.1 hj).1
      have hu : (cellsA av)[j]? = some (cellsA av)[j] := List.getElem?_eq_getElem hlt
      exact (AllOne.mem ho _ (List.getElem_mem hlt)).val h (hrel j _ v hu hj)
    have hrun := run_storeVar (P := P) (T := T) (ag := ag) (sz := sz) hc (by omega) hh (off := off) (by omega) h1
    refine ⟨_, run_opStore hv hrun, rfl, rfl, rfl, by simp, fun k hk => ?_, rfl, fun le => ?_⟩
    · refine setRow_other w b k _ fun e => hk ?_
      rw [hθ']; simp [fp, e]
    · have hpw : PW (kx E θ σ.nx σ.hp w) l arr.toList := ⟨by simp [hs], fun j u z hu hz => hr j u z hu (by simpa using hz)⟩
      have hpw2 := hpw.splice (off := off) (m := cellsA av) (vs := cs) ⟨hl, hrel⟩ (by omega)
      refine ⟨b, _, T', by simp [cx, upd_self, hθ'], setRow_heap w b arr _ T' _ hh, ?_, fun j u z hu hz => ?_⟩
      · have := hpw2.1; simp at this ⊢; omega
      · exact (hpw2.2 j u z hu (by simpa using hz)).mono le) k

theorem elems_splice {k sz off : Nat} {l : List (List AV)} {el : List AV} {av : AV} {xs : List Value} {v : Value} (hk : l[k]? = some el) (hsz : ∀ e ∈ l, e.length = sz) (hlen : xs.length = l.length * sz) (hoff : off < sz)
    {R : AV → Value → Prop} (hr : ∀ (k : Nat) el, l[k]? = some el → ∀ (j : Nat) x, el[j]? = some x → ∃ y, xs[k * sz + j]? = some y ∧ R x y) (hv : R av v) :
    ∀ (k' : Nat) el', (l.set k (el.set off av))[k']? = some el' → ∀ (j : Nat) x, el'[j]? = some x → ∃ y, (xs.set (k * sz + off) v)[k' * sz + j]? = some y ∧ R x y := by
  intro k' el' hk' j x hx
  have hkl : k < l.length := (List.getElem?_eq_some_iff.1 hk).1
  have hbound : k * sz + off < xs.length := by
    rw [hlen]
    have : (k + 1) * sz ≤ l.length * sz := Nat.mul_le_mul_right _ hkl
    rw [Nat.add_mul, Nat.one_mul] at this
    omega
  by_cases e : k = k'
  · subst e
    rw [List.getElem?_set_self hkl] at hk'
    cases hk'
    by_cases ej : off = j
    · subst ej
      have hel : el.length = sz := hsz el (List.mem_of_getElem? hk)
      rw [List.getElem?_set_self (by omega)] at hx
      cases hx
      exact ⟨v, by rw [List.getElem?_set_self hbound], hv⟩
    · rw [List.getElem?_set_ne ej] at hx
      obtain ⟨y, hy, hR⟩ := hr k el hk j x hx
      exact ⟨y, by rw [List.getElem?_set_ne (by omega)]; exact hy, hR⟩
  · rw [List.getElem?_set_ne e] at hk'
    obtain ⟨y, hy, hR⟩ := hr k' el' hk' j x hx
    refine ⟨y, ?_, hR⟩
    rw [List.getElem?_set_ne]
    · exact hy
    · have hel : el'.length = sz := hsz el' (List.mem_of_getElem? hk')
      have hj : j < sz := by rw [← hel]; exact (List.getElem?_eq_some_iff.1 hx).1
      intro e2
      have h1 : (k * sz + off) / sz = k := by rw [Nat.mul_comm, Nat.mul_add_div (by omega), Nat.div_eq_of_lt hoff]; simp
      have h2 : (k' * sz + j) / sz = k' := by rw [Nat.mul_comm, Nat.mul_add_div (by omega), Nat.div_eq_of_lt hj]; simp
      rw [e2, h2] at h1
      exact e h1.symm

theorem aops_store_elt {T szT : Nat} [tv : TVar P T false szT] {i ver kk off e sz : Nat} {l : List (List AV)} {el : List AV} {av : AV} (hx : evO σ x = some (.elt i ver kk off)) (hy : evO σ y = some av) (hb : lookB σ.hp i = some (.row e sz ver l)) (hk : l[kk]? = some el) (hoff : off < sz) (h1s : szT = 1)
    (hcl : closedB av = true) (ho : One σ.hp av) (k : AOps P E n ops rest (σ.set i (.row e sz ver (l.set kk (el.set off av)))) K) : AOps P E n ops (⟨none, .store T x y, ty, pos, after, none⟩ :: rest) σ K :=
  aops_turn hb (fun θ a w h => by
    obtain ⟨g, m, cap, hθ, hv, hnx⟩ := elt_inv (h.rel hx) hb
    obtain ⟨xs, hown, hsz, hr⟩ := h.row hb
    have hθ' : θ i = .slice (some ⟨g, 0, none⟩) m cap := hθ
    have hyo := ho.val h (h.rel hy)
    rcases hown.2 with ⟨hn, _⟩ | ⟨g', cap', cur, hs, hbg, hg, hnc, hcm, hcs, htake⟩
    · rw [hθ'] at hn; cases hn
    · rw [hθ'] at hs
      cases hs
      have hkl : kk < l.length := (List.getElem?_eq_some_iff.1 hk).1
      have hbound : kk * sz + off < l.length * sz := by
        have : (kk + 1) * sz ≤ l.length * sz := Nat.mul_le_mul_right _ hkl
        rw [Nat.add_mul, Nat.one_mul] at this
        omega
      have hcap : l.length * sz ≤ cap * sz := Nat.mul_le_mul_right _ hnc
      have hrun := run_storeVar (P := P) (T := T) (ag := false) (sz := szT) (v := a.eval y) (cs := [a.eval y]) (cells_of_one hyo) (by simp [h1s]) hg (off := kk * sz + off) (by simp; omega) (by simpa using hyo)
      have hset : (cur.toList.take (kk * sz + off) ++ [a.eval y] ++ cur.toList.drop (kk * sz + off + [a.eval y].length)).toArray = cur.setIfInBounds (kk * sz + off) (a.eval y) := by
        apply Array.ext'
        have hlt : kk * sz + off < cur.toList.length := by simp; omega
        rw [Array.toList_setIfInBounds, List.set_eq_take_append_cons_drop, if_pos hlt]
        simp
      rw [hset] at hrun
      refine ⟨_, run_opStore hv hrun, rfl, rfl, rfl, by simp, fun k hk => ?_, ⟨⟨_, _, _, hθ'⟩, e, ver, l, rfl, .inr ⟨rfl, by simp, rfl⟩⟩, fun le => ?_⟩
      · refine setRow_other w g k _ fun e => hk ?_
        rw [hθ']; simp [fp, e]
      · have him : Im (cx E θ σ w).U w av (a.eval y) := (closedB_spec hcl).im (h.rel hy)
        have hall := elems_splice (R := Im (cx E θ σ w).U w) hk hsz hown.1 hoff hr him
        refine ⟨xs.set (kk * sz + off) (a.eval y), ?_, ?_, fun k' el' hk' j u hu => ?_⟩
        · refine ⟨by simp [hown.1], .inr ⟨g, cap, _, by simp [cx, upd_self, hθ'], hbg, setRow_heap w g cur _ e _ hg, by simpa using hnc, hcm, by simp [hcs], ?_⟩⟩
          rw [Array.toList_setIfInBounds, List.length_set, ← htake, List.take_set]
        · intro el' hel'
          rcases List.mem_or_eq_of_mem_set hel' with h2 | h2
          · exact hsz _ h2
          · rw [h2, List.length_set]; exact hsz el (List.mem_of_getElem? hk)
        · obtain ⟨z, hz, hi⟩ := hall k' el' hk' j u hu
          exact ⟨z, hz, hi.mono le.heap le.U⟩) k
end rules
end Go.Av

/- Rows of one's own: make, append, literals; maps of one's own; closures. -/
import Derived.Test.YtmiaihoallkjfaaDoorAvW
namespace Go.Av
open Go Go.RowKit
set_option linter.unusedSimpArgs false
set_option linter.unusedVariables false
set_option linter.unnecessarySimpa false

section rules
variable {P : Program} {E : Env} {n nx : Nat} {hp : Hp} {ev : Operand → Option AV} {ops : Array Oper} {rest : List Oper} {σ : St} {K : St → Prop} {Q : Exit → St → Prop}
variable {d : Nat} {ty : TypeId} {pos : String} {after : Array Edge} {x y : Operand}

/-- A row that has just been laid. -/
theorem row_made {θ : Nat → Value} {w w' : World} {xs : List Value} {e sz g cap : Nat} {l : List (List AV)} {rest : List Value}
    (hg : w.heap.size ≤ g) (hh : w'.heap[g]? = some (.cells (xs ++ rest).toArray e (0, 0))) (hlen : xs.length = l.length * sz) (hcap : l.length ≤ cap) (hm : cap ≤ maxLen) (hs : (xs ++ rest).length = cap * sz)
    (hsz : ∀ el ∈ l, el.length = sz)
    (hr : ∀ (k : Nat) el, l[k]? = some el → ∀ (j : Nat) x, el[j]? = some x → ∃ y, xs[k * sz + j]? = some y ∧ Im (cx E θ σ w).U w x y)
    (le : (cx E θ σ w).le (cx E (upd θ σ.nx (.slice (some ⟨g, 0, none⟩) l.length cap)) (σ.new (.row e sz 0 l)) w')) :
    OwnOk (cx E (upd θ σ.nx (.slice (some ⟨g, 0, none⟩) l.length cap)) (σ.new (.row e sz 0 l)) w') σ.nx (.row e sz 0 l) ∧
    Rel (cx E (upd θ σ.nx (.slice (some ⟨g, 0, none⟩) l.length cap)) (σ.new (.row e sz 0 l)) w') (.row σ.nx 0 l.length) (.slice (some ⟨g, 0, none⟩) l.length cap) := by
  refine ⟨⟨xs, ⟨hlen, .inr ⟨g, cap, (xs ++ rest).toArray, by simp [cx, upd_self], Nat.zero_le _, hh, hcap, hm, by simpa using hs, ?_⟩⟩, hsz, fun k el hk j x hx => ?_⟩, .row _ _ _ _ (by simp [cx, St.new]) fun e' sz' v' l' hl => ?_⟩
  · rw [← hlen]; simp
  · obtain ⟨y, hy, hi⟩ := hr k el hk j x hx
    exact ⟨y, hy, hi.mono le.heap le.U⟩
  · simp only [cx, St.new, lookB_cons, if_pos] at hl
    cases hl
    exact ⟨Nat.le_refl _, fun _ => ⟨rfl, by simp [cx, upd_self]⟩⟩

theorem fp_slice {g m c s : Nat} (h : s ≤ g) : ∀ k, fp (.slice (some ⟨g, 0, none⟩) m c) = some k → s ≤ k := by
  intro k hk; simp [fp] at hk; omega

theorem aops_make {T e sz by_ : Nat} {z : List Value} [ts : TSl P T e sz] [tz : TZero P e z] [tb : TBytes P e by_] {m : Int} (hx : evO σ x = some (.v (.int .i64 m))) (hy : evO σ y = some (.v (.int .i64 m))) (h0 : 0 ≤ m) (hb : by_ * m.toNat ≤ 281474976710656) (hmx : m ≤ 9223372036854775807) (hz : z.length = sz) (hd : Nat.blt d n = true)
    (k : AOps P E n ops rest ((σ.new (.row e sz 0 (List.replicate m.toNat (z.map ofV)))).put d (.row σ.nx 0 m.toNat)) K) : AOps P E n ops (⟨some d, .makeSlice T x y, ty, pos, after, none⟩ :: rest) σ K :=
  aops_new hd (fun θ a w h => by
    obtain ⟨hu, i, hi, hsz⟩ := ts.out
    obtain ⟨i2, zv, hi2, hzv, hzc⟩ := tz.out
    obtain ⟨i3, hi3, hby⟩ := tb.out
    rw [hi] at hi2 hi3
    cases hi2; cases hi3
    have hr := run_make (P := P) w T e i zv hu hi hzv .i64 .i64 m m h0 (Int.le_refl _) (by
      have h2 : ((m.toNat : Nat) : Int) = m := Int.toNat_of_nonneg h0
      have h3 : (i.bytes : Int) * m = ((by_ * m.toNat : Nat) : Int) := by rw [Int.natCast_mul, h2, hby]
      rw [h3]
      generalize by_ * m.toNat = q at hb
      omega) hmx
    have hlen : (List.replicate m.toNat (z.map ofV)).length = m.toNat := by simp
    refine ⟨.slice (some ⟨w.heap.size, 0, none⟩) m.toNat m.toNat, .slice (some ⟨w.heap.size, 0, none⟩) m.toNat m.toNat, w.alloc (.cells (madeCells zv.cells (m.toNat * i.size)) e), by simp only [execOp, (h.rel hx).val, (h.rel hy).val, Sem.run_bind, hr, Result.andThen_ok, Sem.run_pure], below_alloc _ _, fp_slice (Nat.le_refl _), fun le => ?_⟩
    have hmc : (madeCells zv.cells (m.toNat * i.size)).size = m.toNat * sz := by rw [size_madeCells, hsz]
    have key := row_made (E := E) (σ := σ) (θ := θ) (w := w) (w' := w.alloc (.cells (madeCells zv.cells (m.toNat * i.size)) e)) (xs := (madeCells zv.cells (m.toNat * i.size)).toList) (rest := []) (e := e) (sz := sz) (g := w.heap.size) (cap := m.toNat) (l := List.replicate m.toNat (z.map ofV))
      (Nat.le_refl _) (by simpa using heap_alloc_new w _) (by rw [hlen, Array.length_toList, hmc]) (by rw [hlen]; exact Nat.le_refl _) (by unfold maxLen; omega) (by simp [hmc]) (fun el hel => by rw [List.eq_of_mem_replicate hel]; simp [hz]) (fun k el hk j u hu => ?_) (by rw [hlen]; exact le)
    · rw [hlen] at key; exact key
    · have hk' := (List.getElem?_eq_some_iff.1 hk)
      obtain ⟨hklt, hkeq⟩ := hk'
      have hel : el = z.map ofV := by rw [← hkeq]; simp
      subst hel
      rw [hlen] at hklt
      simp at hu
      obtain ⟨v, hv, rfl⟩ := hu
      have hj : j < sz := by rw [← hz]; exact (List.getElem?_eq_some_iff.1 hv).1
      have hin : k * sz + j < m.toNat * i.size := by
        rw [hsz]
        have : (k + 1) * sz ≤ m.toNat * sz := Nat.mul_le_mul_right _ hklt
        rw [Nat.add_mul, Nat.one_mul] at this
        omega
      refine ⟨v, ?_, ofV_im _⟩
      have hmod : (k * sz + j) % sz = j := by rw [Nat.mul_comm, Nat.mul_add_mod, Nat.mod_eq_of_lt hj]
      simp only [madeCells, hzc, Array.getElem?_toList, Array.getElem?_map, Array.getElem?_range, hin]
      simp only [if_true, Option.map_some, Option.some.injEq, List.size_toArray, hz, hmod]
      rw [List.getElem!_toArray, List.getElem!_eq_getElem?_getD, hv]
      rfl) k

/-! ### append -/
theorem run_append_mine {T tt e bytes : Nat} {i : TypeInfo} {z : Value} {size : Nat} (ht : P.underlying T = some (.slice e)) (hi : P.info? e = some i) (hz : i.zero = some z)
    (hsize : i.size = size) (hby : i.bytes = bytes) (hzs : z.cells.size = size) (hsz : 0 < size) (w : World)
    (v : Value) (m : Nat) (xs : List Value) (hown : w.ownsRow 0 e size v m xs)
    (a : Addr) (k c : Nat) (news : List Value) (hl : news.length = k * size) (hnews : ∀ (j : Nat) u, news[j]? = some u → w.cell? (a.add j) = some u) (h1 : ∀ u ∈ news, u.oneCell' = true)
    (h63 : m + k ≤ maxLen) (hbytes : (m + k) * bytes ≤ 140737488355328) :
    ∃ v' w', (Builtin.append_ #[T, T] tt #[v, .slice (some a) k c]).run P w = .ok v' w' ∧ w'.ownsRow 0 e size v' (m + k) (xs ++ news) ∧ w.grownBy w' v.ownBlock ∧ (∀ b, fp v' = some b → fp v = some b ∨ w.heap.size ≤ b) ∧ (k = 0 → v' = v) := by
  rcases hown.2 with ⟨rfl, rfl⟩ | ⟨g, cap, cur, rfl, hbg, hg, hnc, hcm, hcs, htake⟩
  · have hx : xs = [] := List.eq_nil_of_length_eq_zero (by simpa using hown.1)
    subst hx
    obtain ⟨v', w', hr, ho, hgr, hiff⟩ := run_append_own (P := P) w w.heap.size T tt e i z size bytes ht hi hz hsize hby hzs hsz (.slice none 0 0) 0 [] (World.ownsRow_nil w _ e size) a k c news hl hnews h1 h63 hbytes (Nat.le_refl _)
    refine ⟨v', w', hr, ⟨ho.1, ?_⟩, hgr, fun b hb => ?_, fun hk => hiff.2 ⟨rfl, hk⟩⟩
    · rcases ho.2 with hn | ⟨g, cap, cur, h1, h2, h3⟩
      · exact .inl hn
      · exact .inr ⟨g, cap, cur, h1, Nat.zero_le _, h3⟩
    · rcases ho.2 with ⟨hn, _⟩ | ⟨g, cap, cur, hv', h2, _⟩
      · rw [hn] at hb; cases hb
      · rw [hv'] at hb; simp [fp] at hb; right; omega
  · obtain ⟨v', w', hr, ho, hgr, hiff⟩ := run_append_own (P := P) w 0 T tt e i z size bytes ht hi hz hsize hby hzs hsz (.slice (some ⟨g, 0, none⟩) m cap) m xs hown a k c news hl hnews h1 h63 hbytes (Nat.zero_le _)
    by_cases hroom : m + k ≤ cap
    · have hfit : m * i.size + news.length ≤ cur.size := by rw [hl, hcs, hsize, ← Nat.add_mul]; exact Nat.mul_le_mul_right _ hroom
      have hr2 := run_append_room (P := P) w T tt e i ht hi g m cap cur hg a k c news (by rw [hsize]; exact hl) hnews h1 hroom hfit
      rw [hr2] at hr
      cases hr
      exact ⟨_, _, hr2, ho, hgr, fun b hb => .inl hb, fun hk => by subst hk; rfl⟩
    · have holds : ∀ (j : Nat) u, xs[j]? = some u → w.cell? ((⟨g, 0, none⟩ : Addr).add j) = some u := hown.cells (g := g) rfl
      have hr2 := run_append_grow (P := P) w T tt e i z ht hi hz ⟨g, 0, none⟩ m cap xs (by rw [hsize]; exact hown.1) holds a k c news (by rw [hsize]; exact hl) hnews (by omega) (by unfold maxLen at h63; omega) (growslice_fits (by omega) (by rw [hby]; exact hbytes))
      rw [hr2] at hr
      cases hr
      exact ⟨_, _, hr2, ho, hgr, fun b hb => by simp [fp] at hb; right; omega, fun hk => by omega⟩

/-- The cells of a slice that nobody writes, as one list. -/
theorem sl_cells {c : Cx} {sz : Nat} {l : List (List AV)} {a : Addr} {f : Nat → Nat → Value} (hone : ∀ e ∈ l, ∀ x ∈ e, closedB x = true ∧ ∀ y, Im c.U c.w x y → y.oneCell' = true)
    (hsz : ∀ e ∈ l, e.length = sz) (hc : ∀ i, i < l.length → ∀ j, j < sz → c.w.cell? (a.add (i * sz + j)) = some (f i j)) (h : ∀ (i : Nat) (e : List AV), l[i]? = some e → ∀ (j : Nat) (x : AV), e[j]? = some x → Im c.U c.w x (f i j)) (hpos : 0 < sz) :
    ∃ news : List Value, news.length = l.length * sz ∧ (∀ (j : Nat) u, news[j]? = some u → c.w.cell? (a.add j) = some u) ∧ (∀ u ∈ news, u.oneCell' = true) ∧
      ∀ (k : Nat) el, l[k]? = some el → ∀ (j : Nat) x, el[j]? = some x → ∃ y, news[k * sz + j]? = some y ∧ Im c.U c.w x y := by
  refine ⟨(List.range (l.length * sz)).map fun t => f (t / sz) (t % sz), by simp, fun j u hj => ?_, fun u hu => ?_, fun k el hk j x hx => ?_⟩
  · simp only [List.getElem?_map, Option.map_eq_some_iff] at hj
    obtain ⟨t, ht, rfl⟩ := hj
    have hlt : j < l.length * sz := by
      rcases Nat.lt_or_ge j (l.length * sz) with h1 | h1
      · exact h1
      · rw [List.getElem?_eq_none (by simpa using h1)] at ht; cases ht
    rw [List.getElem?_range hlt] at ht
    cases ht
    have hd : j / sz < l.length := (Nat.div_lt_iff_lt_mul hpos).2 hlt
    have := hc (j / sz) hd (j % sz) (Nat.mod_lt _ hpos)
    rwa [Nat.mul_comm, Nat.div_add_mod] at this
  · obtain ⟨t, ht, rfl⟩ := List.mem_map.1 hu
    have hlt := List.mem_range.1 ht
    have hd : t / sz < l.length := (Nat.div_lt_iff_lt_mul hpos).2 hlt
    have hel : l[t / sz]? = some l[t / sz] := List.getElem?_eq_getElem hd
    have hle := hsz _ (List.getElem_mem hd)
    have hm : t % sz < (l[t / sz]).length := by rw [hle]; exact Nat.mod_lt _ hpos
    have hx : (l[t / sz])[t % sz]? = some (l[t / sz])[t % sz] := List.getElem?_eq_getElem hm
    exact (hone _ (List.getElem_mem hd) _ (List.getElem_mem hm)).2 _ (h _ _ hel _ _ hx)
  · have hkl : k < l.length := (List.getElem?_eq_some_iff.1 hk).1
    have hj : j < sz := by rw [← hsz el (List.mem_of_getElem? hk)]; exact (List.getElem?_eq_some_iff.1 hx).1
    have hin : k * sz + j < l.length * sz := by
      have : (k + 1) * sz ≤ l.length * sz := Nat.mul_le_mul_right _ hkl
      rw [Nat.add_mul, Nat.one_mul] at this
      omega
    refine ⟨f k j, ?_, h k el hk j x hx⟩
    have h1 : (k * sz + j) / sz = k := by rw [Nat.mul_comm, Nat.mul_add_div hpos, Nat.div_eq_of_lt hj]; simp
    have h2 : (k * sz + j) % sz = j := by rw [Nat.mul_comm, Nat.mul_add_mod, Nat.mod_eq_of_lt hj]
    rw [List.getElem?_map, List.getElem?_range hin]
    simp [h1, h2]

/-- An abstract value that stands in one cell of memory that nobody writes. -/
def imOne : AV → Prop
  | .v x => x.oneCell' = true
  | .str _ | .sl _ _ | .iptr _ | .fn _ _ => True
  | _ => False
theorem imOne.spec {U : Nat → Prop} {w : World} {x : AV} (h : imOne x) : closedB x = true ∧ ∀ y, Im U w x y → y.oneCell' = true := by
  cases x with
  | v v => exact ⟨rfl, fun y hy => by cases hy; exact h⟩
  | str l => exact ⟨rfl, fun y hy => by cases hy; rfl⟩
  | sl s l => exact ⟨rfl, fun y hy => by cases hy <;> rfl⟩
  | iptr l => exact ⟨rfl, fun y hy => by cases hy; rfl⟩
  | fn f l => exact ⟨rfl, fun y hy => by cases hy; rfl⟩
  | _ => exact h.elim

theorem elems_append {sz : Nat} {l m : List (List AV)} {xs ys : List Value} {R : AV → Value → Prop} (hx : xs.length = l.length * sz)
    (h1 : ∀ (k : Nat) el, l[k]? = some el → ∀ (j : Nat) x, el[j]? = some x → ∃ y, xs[k * sz + j]? = some y ∧ R x y)
    (h2 : ∀ (k : Nat) el, m[k]? = some el → ∀ (j : Nat) x, el[j]? = some x → ∃ y, ys[k * sz + j]? = some y ∧ R x y) :
    ∀ (k : Nat) el, (l ++ m)[k]? = some el → ∀ (j : Nat) x, el[j]? = some x → ∃ y, (xs ++ ys)[k * sz + j]? = some y ∧ R x y := by
  intro k el hk j x hxj
  by_cases hkl : k < l.length
  · rw [List.getElem?_append_left hkl] at hk
    obtain ⟨y, hy, hR⟩ := h1 k el hk j x hxj
    exact ⟨y, by rw [List.getElem?_append_left (List.getElem?_eq_some_iff.1 hy).1]; exact hy, hR⟩
  · rw [List.getElem?_append_right (by omega)] at hk
    obtain ⟨y, hy, hR⟩ := h2 _ el hk j x hxj
    have e : k * sz = l.length * sz + (k - l.length) * sz := by rw [← Nat.add_mul]; congr 1; omega
    refine ⟨y, ?_, hR⟩
    rw [List.getElem?_append_right (by rw [hx]; omega), hx, ← hy]
    congr 1
    omega

/-- A value that is a slice whose elements read so. -/
def YRow (c : Cx) (sz : Nat) (m : List (List AV)) (v : Value) : Prop := (v = .slice none 0 0 ∧ m = []) ∨
  ∃ (p : Addr) (cap : Nat) (news : List Value), v = .slice (some p) m.length cap ∧ (∀ el ∈ m, el.length = sz) ∧ news.length = m.length * sz ∧ (∀ (j : Nat) u, news[j]? = some u → c.w.cell? (p.add j) = some u) ∧ (∀ u ∈ news, u.oneCell' = true) ∧
    ∀ (k : Nat) el, m[k]? = some el → ∀ (j : Nat) x, el[j]? = some x → ∃ y, news[k * sz + j]? = some y ∧ Im c.U c.w x y
theorem yrow_sl {c : Cx} {sz : Nat} {m : List (List AV)} {v : Value} (h : Rel c (.sl sz m) v) (hm : ∀ el ∈ m, ∀ u ∈ el, imOne u) (hpos : 0 < sz) : YRow c sz m v := by
  rcases sl_inv h with ⟨hn, rfl⟩ | ⟨p, cap, f, hsl, hc1, hc2, hc3, hc4, hc5, hc6⟩
  · exact .inl ⟨hn, rfl⟩
  · obtain ⟨news, h1, h2, h3, h4⟩ := sl_cells (c := c) (a := p) (f := f) (fun el hel u hu => (hm el hel u hu).spec) hc4 hc5 hc6 hpos
    exact .inr ⟨p, cap, news, hsl, hc4, h1, h2, h3, h4⟩
theorem yrow_row {θ : Nat → Value} {a : Act} {w : World} (h : EvT E θ nx hp ev a w) {i e sz ver : Nat} {m : List (List AV)} (hb : lookB hp i = some (.row e sz ver m)) (hm : ∀ el ∈ m, ∀ u ∈ el, imOne u) (hpos : 0 < sz) : YRow (kx E θ nx hp w) sz m (θ i) := by
  obtain ⟨xs, hown, hsz, hr⟩ := h.row hb
  rcases hown.2 with ⟨hv, hn0⟩ | ⟨g, cap, cur, hv, _, hg, hc, hmx, hlen, hx⟩
  · exact .inl ⟨hv, List.eq_nil_of_length_eq_zero hn0⟩
  · have hown' := hown
    rw [hv] at hown'
    refine .inr ⟨⟨g, 0, none⟩, cap, xs, hv, hsz, hown.1, fun j u hj => hown'.cells (g := g) rfl j u hj, fun u hu => ?_, hr⟩
    obtain ⟨t, ht, rfl⟩ := List.getElem_of_mem hu
    have hlt : t < m.length * sz := by rw [← hown.1]; exact ht
    have hd : t / sz < m.length := (Nat.div_lt_iff_lt_mul hpos).2 hlt
    have hel : m[t / sz]? = some m[t / sz] := List.getElem?_eq_getElem hd
    have hle := hsz _ (List.getElem_mem hd)
    have hmm : t % sz < (m[t / sz]).length := by rw [hle]; exact Nat.mod_lt _ hpos
    have hxx : (m[t / sz])[t % sz]? = some (m[t / sz])[t % sz] := List.getElem?_eq_getElem hmm
    obtain ⟨y, hy, him⟩ := hr _ _ hel _ _ hxx
    rw [Nat.mul_comm, Nat.div_add_mod, List.getElem?_eq_getElem ht] at hy
    cases hy
    exact (hm _ (List.getElem_mem hd) _ (List.getElem_mem hmm)).spec.2 _ him

theorem append_core {T e sz by_ : Nat} {z : List Value} [ts : TSl P T e sz] [tz : TZero P e z] [tb : TBytes P e by_] {i ver len : Nat} {l m : List (List AV)} {θ : Nat → Value} {a : Act} {w : World} (hs : SatT E n θ σ a w) (hl : l.length = len) (hv : a.eval x = θ i) (hnx : i < σ.nx) (hb : lookB σ.hp i = some (.row e sz ver l)) (hyv : YRow (kx E θ σ.nx σ.hp w) sz m (a.eval y))
    (hz : z.length = sz) (hpos : 0 < sz) (hlen : (len + m.length) * by_ ≤ 140737488355328) (h63 : len + m.length ≤ 9223372036854775807) (hd : Nat.blt d n = true)
    (k : AOps P E n ops rest ((σ.set i (.row e sz (ver + 1) (l ++ m))).put d (.row i (ver + 1) (len + m.length))) K) :
    wpList P ops (fun e a' w' => e = .normal ∧ ∃ σ', K σ' ∧ Sat E n σ' a' w') (⟨some d, .call ⟨.builtin .append, #[x, y], #[T, T]⟩, ty, pos, after, none⟩ :: rest) a w := by
  have h := hs.evT
  obtain ⟨hu, inf, hi, hsz⟩ := ts.out
  obtain ⟨i2, zv, hi2, hzv, hzc⟩ := tz.out
  obtain ⟨i3, hi3, hby⟩ := tb.out
  rw [hi] at hi2 hi3
  cases hi2; cases hi3
  obtain ⟨xs, hown, hszl, hr⟩ := h.row hb
  have hv' : a.eval x = θ i := hv
  subst hl
  have hzs : zv.cells.size = sz := by rw [hzc]; simpa using hz
  obtain ⟨news, hnl, hnr, v', w', hrun, hown', hgr, hfp, hk0⟩ : ∃ news : List Value, news.length = m.length * sz ∧ (∀ (k : Nat) el, m[k]? = some el → ∀ (j : Nat) x, el[j]? = some x → ∃ y, news[k * sz + j]? = some y ∧ Im (kx E θ σ.nx σ.hp w).U w x y) ∧
      ∃ v' w', (Builtin.append_ #[T, T] ty #[θ i, a.eval y]).run P w = .ok v' w' ∧ w'.ownsRow 0 e sz v' (l.length + m.length) (xs ++ news) ∧ w.grownBy w' (θ i).ownBlock ∧ (∀ b, fp v' = some b → fp (θ i) = some b ∨ w.heap.size ≤ b) ∧ (m.length = 0 → v' = θ i) := by
    rcases hyv with ⟨hn, rfl⟩ | ⟨p, cap, news, hsl, hc4, h1, h2, h3, h4⟩
    · refine ⟨[], by simp, fun k el hk => by simp at hk, θ i, w, ?_, by simpa using hown, ⟨rfl, rfl, rfl, Nat.le_refl _, fun _ _ _ => rfl⟩, fun b hb => .inl hb, fun _ => rfl⟩
      rw [hn]
      obtain ⟨q, c, hsh, hqc, _⟩ := ownsRow_shape hown
      rw [hsh]
      cases q <;> simp [Builtin.append_, run_underlying hu, sizeOf, typeInfo, program, Sem.run, hi, Builtin.lenOf, Builtin.firstCells, storeCells, hqc, Sem.run_bind, Sem.run_pure]
    · obtain ⟨v', w', hrun⟩ := run_append_mine (P := P) (tt := ty) hu hi hzv hsz hby hzs hpos w (θ i) l.length xs hown p m.length cap news h1 h2 h3 (by unfold maxLen; omega) (by omega)
      exact ⟨news, h1, h4, v', w', by rw [hsl]; exact hrun⟩
  unfold wpList
  rw [if_pos (by simp [Region.wanted])]
  left
  have hex : (execOp a.eval ⟨some d, .call ⟨.builtin .append, #[x, y], #[T, T]⟩, ty, pos, after, none⟩).run P w = .ok (.value v') w' := by
    rw [run_builtin2, hv']
    simp [builtin, hrun, Sem.run_bind, Sem.run_pure]
  simp only [Oper.wp, hex, Oper.upon]
  have hfpown : ∀ k, (θ i).ownBlock = some k → fp (θ i) = some k := by
    intro k hk
    obtain ⟨q, c, hsh, _⟩ := ownsRow_shape hown
    rw [hsh] at hk ⊢
    cases q with
    | none => simp [Value.ownBlock] at hk
    | some q => simpa [Value.ownBlock, fp] using hk
  have ht := hs.turn (b' := .row e sz (ver + 1) (l ++ m)) (v' := v') (w' := w') hb hgr.os hgr.tape hgr.output hgr.size (fun k hk hne => hgr.block k hk fun e => hne (hfpown k e.symm)) hfp
    ⟨(by obtain ⟨q, c, hsh, _⟩ := ownsRow_shape hown; exact ⟨q, _, c, hsh⟩), e, ver, l, rfl, .inl (Nat.lt_succ_self _)⟩ (fun le => by
      refine ⟨xs ++ news, by simp only [cx, upd_self]; rw [List.length_append]; exact hown', fun el hel => ?_, fun k el hk j u hu => ?_⟩
      · rcases List.mem_append.1 hel with h1 | h1
        · exact hszl el h1
        · rcases hyv with ⟨_, rfl⟩ | ⟨_, _, _, _, hc4, _⟩
          · cases h1
          · exact hc4 el h1
      · obtain ⟨y', hy', him⟩ := elems_append (R := Im (kx E θ σ.nx σ.hp w).U w) hown.1 hr hnr k el hk j u hu
        exact ⟨y', hy', him.mono le.heap le.U⟩)
  refine k _ _ ⟨_, ht.put (Nat.blt_eq ▸ hd) ?_⟩
  refine .row _ _ _ _ hnx fun e' sz' v2 l2 hl2 => ?_
  simp only [cx, St.set, lookB_cons, if_pos] at hl2
  cases hl2
  exact ⟨Nat.le_refl _, fun _ => ⟨by simp, by simp [cx, upd_self]⟩⟩

theorem aops_append_row {T e sz by_ : Nat} {z : List Value} [ts : TSl P T e sz] [tz : TZero P e z] [tb : TBytes P e by_] {i ver len : Nat} {l m : List (List AV)} (hx : evO σ x = some (.row i ver len)) (hb : lookB σ.hp i = some (.row e sz ver l)) (hy : evO σ y = some (.sl sz m))
    (hm : ∀ el ∈ m, ∀ u ∈ el, imOne u) (hz : z.length = sz) (hpos : 0 < sz) (hlen : (len + m.length) * by_ ≤ 140737488355328) (h63 : len + m.length ≤ 9223372036854775807) (hd : Nat.blt d n = true)
    (k : AOps P E n ops rest ((σ.set i (.row e sz (ver + 1) (l ++ m))).put d (.row i (ver + 1) (len + m.length))) K) :
    AOps P E n ops (⟨some d, .call ⟨.builtin .append, #[x, y], #[T, T]⟩, ty, pos, after, none⟩ :: rest) σ K := by
  intro a w ⟨θ, hs⟩
  obtain ⟨hl, hv, hnx⟩ := row_inv (hs.evT.rel hx) hb
  exact append_core hs hl hv hnx hb (yrow_sl (hs.evT.rel hy) hm hpos) hz hpos hlen h63 hd k

/-- A row of one's own behind a row of one's own, which may be the same. -/
theorem aops_append_rows {T e sz by_ : Nat} {z : List Value} [ts : TSl P T e sz] [tz : TZero P e z] [tb : TBytes P e by_] {i ver len j ver2 len2 e2 : Nat} {l m : List (List AV)} (hx : evO σ x = some (.row i ver len)) (hb : lookB σ.hp i = some (.row e sz ver l)) (hy : evO σ y = some (.row j ver2 len2)) (hb2 : lookB σ.hp j = some (.row e2 sz ver2 m))
    (hm : ∀ el ∈ m, ∀ u ∈ el, imOne u) (hz : z.length = sz) (hpos : 0 < sz) (hlen : (len + m.length) * by_ ≤ 140737488355328) (h63 : len + m.length ≤ 9223372036854775807) (hd : Nat.blt d n = true)
    (k : AOps P E n ops rest ((σ.set i (.row e sz (ver + 1) (l ++ m))).put d (.row i (ver + 1) (len + m.length))) K) :
    AOps P E n ops (⟨some d, .call ⟨.builtin .append, #[x, y], #[T, T]⟩, ty, pos, after, none⟩ :: rest) σ K := by
  intro a w ⟨θ, hs⟩
  obtain ⟨hl, hv, hnx⟩ := row_inv (hs.evT.rel hx) hb
  obtain ⟨hl2, hv2, hnx2⟩ := row_inv (hs.evT.rel hy) hb2
  exact append_core hs hl hv hnx hb (by rw [hv2]; exact yrow_row hs.evT hb2 hm hpos) hz hpos hlen h63 hd k

/-- To no row yet: a row of one's own comes of it. -/
theorem aops_append_nil {T e sz by_ : Nat} {z : List Value} [ts : TSl P T e sz] [tz : TZero P e z] [tb : TBytes P e by_] {m : List (List AV)} (hx : evO σ x = some (.v (.slice none 0 0))) (hy : evO σ y = some (.sl sz m))
    (hm : ∀ el ∈ m, ∀ u ∈ el, imOne u) (hz : z.length = sz) (hpos : 0 < sz) (hlen : (0 + m.length) * by_ ≤ 140737488355328) (h63 : 0 + m.length ≤ 9223372036854775807) (hd : Nat.blt d n = true)
    (k : AOps P E n ops rest (((σ.new (.row e sz 0 [])).set σ.nx (.row e sz 1 ([] ++ m))).put d (.row σ.nx 1 (0 + m.length))) K) :
    AOps P E n ops (⟨some d, .call ⟨.builtin .append, #[x, y], #[T, T]⟩, ty, pos, after, none⟩ :: rest) σ K := by
  intro a w ⟨θ, hs⟩
  have hv := (hs.ev hx).val
  have h2 := hs.grow (w' := w) (Below.refl _ _) (.slice none 0 0) (.row e sz 0 []) (fun k hk => by cases hk) fun le => ⟨[], ⟨by simp, .inl ⟨by simp [cx, upd_self], rfl⟩⟩, (fun el hel => by cases hel), fun k el hk => by simp at hk⟩
  have hy2 : evO (σ.new (.row e sz 0 [])) y = some (.sl sz m) := by cases y <;> exact hy
  exact append_core (i := σ.nx) (ver := 0) (l := []) h2 rfl (by rw [hv, upd_self]) (Nat.lt_succ_self _) (by simp [St.new, lookB_cons]) (yrow_sl (h2.evT.rel hy2) hm hpos) hz hpos hlen h63 hd k
end rules
end Go.Av

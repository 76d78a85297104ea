/- What came in, read as abstract values; and a law's contract out of a call. -/
import Derived.Test.YtmiaihoallkjfaaDoorAvO
import Derived.Carry
import Derived.RowKit
import Derived.OpenShut
namespace Go.Av
open Go Go.RowKit
set_option linter.unusedSimpArgs false
set_option linter.unusedVariables false
set_option linter.unnecessarySimpa false

/-! ### Shapes of what came in -/
def ShL (S : Nat → List AV → Prop) : List Nat → List AV → Prop
  | [], l => l = []
  | t :: r, l => ∃ a b, S t a ∧ ShL S r b ∧ l = a ++ b
def ShN (S : List AV → Prop) : Nat → List AV → Prop
  | 0, l => l = []
  | n + 1, l => ∃ a b, S a ∧ ShN S n b ∧ l = a ++ b
def consec (P : Program) (tot : Nat) : List Field → Nat → Bool
  | [], o => Nat.beq o tot
  | f :: r, o => Nat.beq f.offset o && consec P tot r (o + P.cellsOf f.type)

/-- Cells of a type read so. -/
def Sh (P : Program) : Nat → TypeId → List AV → Prop
  | 0, _, _ => False
  | f + 1, t, l => match P.underlying t with
    | some .bool => ∃ b, l = [.v (.bool b)]
    | some (.int k) => ∃ n, (Lit.int k n).wf = true ∧ l = [.v (.int k n)]
    | some .string => ∃ s, s.length ≤ maxLen ∧ l = [.str s]
    | some (.slice e) => ∃ ls, ls.length ≤ maxLen ∧ (∀ x ∈ ls, Sh P f e x) ∧ l = [.sl (P.cellsOf e) ls]
    | some (.struct fs) => consec P (P.cellsOf t) fs.toList 0 = true → ShL (Sh P f) (fs.toList.map (·.type)) l
    | some (.array n e) => P.cellsOf t = n * P.cellsOf e → ShN (Sh P f e) n l
    | _ => True

def noU : Nat → Prop := fun _ => False
def PIm (w : World) (l : List AV) (cs : List Value) : Prop := l.length = cs.length ∧ ∀ (j : Nat) x y, l[j]? = some x → cs[j]? = some y → Im noU w x y
theorem PIm.nil {w : World} : PIm w [] [] := ⟨rfl, fun j x y h => by simp at h⟩
theorem PIm.one {w : World} {a : AV} {v : Value} (h : Im noU w a v) : PIm w [a] [v] := ⟨rfl, fun j x y hx hy => by
  cases j with
  | zero => simp at hx hy; subst hx hy; exact h
  | succ j => simp at hx⟩
theorem PIm.app {w : World} {l m : List AV} {cs ds : List Value} (h : PIm w l cs) (h' : PIm w m ds) : PIm w (l ++ m) (cs ++ ds) := by
  refine ⟨by rw [List.length_append, List.length_append, h.1, h'.1], fun j x y hx hy => ?_⟩
  by_cases hj : j < l.length
  · rw [List.getElem?_append_left hj] at hx
    rw [List.getElem?_append_left (by rw [← h.1]; exact hj)] at hy
    exact h.2 j x y hx hy
  · rw [List.getElem?_append_right (by omega)] at hx
    rw [List.getElem?_append_right (by rw [← h.1]; omega), ← h.1] at hy
    exact h'.2 _ x y hx hy
theorem PIm.raw {w : World} (cs : List Value) : PIm w (cs.map .v) cs := ⟨by simp, fun j x y hx hy => by
  rw [List.getElem?_map, hy] at hx
  simp at hx; subst hx; exact .v _⟩

theorem mapM_opt {α β : Type} {f : α → Option β} : ∀ {l : List α} {r : List β}, l.mapM f = some r → r.length = l.length ∧ ∀ (i : Nat) x, l[i]? = some x → ∃ y, r[i]? = some y ∧ f x = some y
  | [], r, h => by simp at h; subst h; simp
  | a :: l, r, h => by
    rw [List.mapM_cons] at h
    cases ha : f a with
    | none => rw [ha] at h; cases h
    | some y =>
      rw [ha] at h
      cases hl : l.mapM f with
      | none => rw [hl] at h; cases h
      | some r' =>
        rw [hl] at h
        cases h
        obtain ⟨h1, h2⟩ := mapM_opt hl
        refine ⟨by simp [h1], fun i x hi => ?_⟩
        cases i with
        | zero => simp at hi; subst hi; exact ⟨y, rfl, ha⟩
        | succ i => simp at hi; simpa using h2 i x hi

theorem cells?_spec {w : World} {base : Nat} {a : Addr} {n : Nat} {cs : List Value} (h : w.cells? base a n = some cs) : cs.length = n ∧ ∀ j, j < n → ∃ v, cs[j]? = some v ∧ w.cell? (a.add j) = some v := by
  unfold World.cells? at h
  split at h
  · obtain ⟨h1, h2⟩ := mapM_opt h
    rw [List.length_range] at h1
    refine ⟨h1, fun j hj => ?_⟩
    obtain ⟨y, hy, hc⟩ := h2 j j (by rw [List.getElem?_range hj])
    exact ⟨y, hy, hc⟩
  · cases h

theorem ofFn_get {α : Type} (n : Nat) (f : Nat → α) (i : Nat) : ((List.range n).map f)[i]? = if i < n then some (f i) else none := by
  by_cases h : i < n
  · simp [h]
  · simp [h]

section
variable {H : Type} {enc : TypeId × Value → H} {P : Program} {w : World} {base : Nat} {spare : Nat → Bool} {held : Bool}

theorem struct_sh {S : Nat → List AV → Prop} {T : Nat → List Value → Option (DataW H × List MemPlace)} (hT : ∀ t cs y, T t cs = some y → ∃ l, S t l ∧ PIm w l cs) {tot : Nat} (cs : List Value) (hcs : cs.length = tot) :
    ∀ (fs : List Field) (o : Nat) {r}, consec P tot fs o = true → (fs.mapM fun f => T f.type ((cs.drop f.offset).take (P.cellsOf f.type))) = some r → ∃ l, ShL S (fs.map (·.type)) l ∧ PIm w l (cs.drop o)
  | [], o, r, hc, h => by
    have : o = tot := Nat.eq_of_beq_eq_true hc
    exact ⟨[], rfl, by rw [List.drop_of_length_le (by omega)]; exact .nil⟩
  | f :: fs, o, r, hc, h => by
    simp only [consec, Bool.and_eq_true] at hc
    have ho : f.offset = o := Nat.eq_of_beq_eq_true hc.1
    rw [List.mapM_cons] at h
    cases ha : T f.type ((cs.drop f.offset).take (P.cellsOf f.type)) with
    | none => rw [ha] at h; cases h
    | some y =>
      rw [ha] at h
      cases hl : (fs.mapM fun f => T f.type ((cs.drop f.offset).take (P.cellsOf f.type))) with
      | none => rw [hl] at h; cases h
      | some r' =>
        obtain ⟨a, ha1, ha2⟩ := hT _ _ _ ha
        obtain ⟨b, hb1, hb2⟩ := struct_sh hT cs hcs fs _ hc.2 hl
        refine ⟨a ++ b, ⟨a, b, ha1, hb1, rfl⟩, ?_⟩
        have := ha2.app hb2
        rw [ho, ← List.drop_drop, List.take_append_drop] at this
        exact this

theorem array_sh {S : List AV → Prop} {c : Nat} {T : List Value → Option (DataW H × List MemPlace)} (hT : ∀ cs y, T cs = some y → ∃ l, S l ∧ PIm w l cs) (cs : List Value) :
    ∀ (n i : Nat), cs.length = (i + n) * c → (∀ k, k < n → ∃ y, T ((cs.drop ((i + k) * c)).take c) = some y) → ∃ l, ShN S n l ∧ PIm w l (cs.drop (i * c))
  | 0, i, hl, _ => ⟨[], rfl, by rw [List.drop_of_length_le (by rw [hl, Nat.add_zero]; exact Nat.le_refl _)]; exact .nil⟩
  | n + 1, i, hl, h => by
    obtain ⟨y, hy⟩ := h 0 (by omega)
    obtain ⟨a, ha1, ha2⟩ := hT _ _ hy
    obtain ⟨b, hb1, hb2⟩ := array_sh hT cs n (i + 1) (by rw [hl]; congr 1; omega) (fun k hk => by
      obtain ⟨z, hz⟩ := h (k + 1) (by omega)
      exact ⟨z, by rw [show i + 1 + k = i + (k + 1) by omega]; exact hz⟩)
    refine ⟨a ++ b, ⟨a, b, ha1, hb1, rfl⟩, ?_⟩
    have := ha2.app hb2
    rw [Nat.add_zero, Nat.add_mul, Nat.one_mul, ← List.drop_drop, List.take_append_drop] at this
    exact this

theorem trod_sh : ∀ (fuel : Nat) (t : TypeId) (cs : List Value) (y : DataW H × List MemPlace), DataW.trod enc P w base spare held fuel t cs = some y → ∃ l, Sh P fuel t l ∧ PIm w l cs := by
  intro fuel
  induction fuel with
  | zero => intro t cs y h; simp [DataW.trod] at h
  | succ f ih =>
    intro t cs y h
    have raw : (∀ l, Sh P (f + 1) t l) → ∃ l, Sh P (f + 1) t l ∧ PIm w l cs := fun hall => ⟨_, hall _, .raw cs⟩
    unfold DataW.trod at h
    split at h
    · rename_i ht
      exact ⟨[.v (.bool _)], by simp only [Sh, ht]; exact ⟨_, rfl⟩, .one (.v _)⟩
    · rename_i k k' n ht
      split at h
      · rename_i hk
        obtain ⟨rfl, hwf⟩ := hk
        exact ⟨[.v (.int k' n)], by simp only [Sh, ht]; exact ⟨_, hwf, rfl⟩, .one (.v _)⟩
      · cases h
    · rename_i ht; exact raw fun l => by simp only [Sh, ht]
    · rename_i s ht
      split at h
      · rename_i hs
        refine ⟨[.str s.data.toList], by simp only [Sh, ht]; exact ⟨_, by rw [Array.length_toList]; exact hs, rfl⟩, .one ?_⟩
        have := Im.str (U := noU) (w := w) s.data.toList
        simpa using this
      · cases h
    · rename_i ht; exact raw fun l => by simp only [Sh, ht]
    · rename_i ht; exact raw fun l => by simp only [Sh, ht]
    · rename_i e ht
      exact ⟨[.sl (P.cellsOf e) []], by simp only [Sh, ht]; exact ⟨[], Nat.zero_le _, (fun x hx => by cases hx), rfl⟩, .one (.slnil _)⟩
    · rename_i e a len cap ht
      simp only at h
      split at h
      · rename_i hb
        obtain ⟨hb0, hlc, hcm⟩ := hb
        rw [Option.bind_eq_some_iff] at h
        obtain ⟨elems, hel, _⟩ := h
        obtain ⟨_, hel2⟩ := mapM_opt hel
        have key : ∀ i, ∃ p : List AV × List Value, i < len → Sh P f e p.1 ∧ PIm w p.1 p.2 ∧ p.2.length = P.cellsOf e ∧ ∀ j, j < P.cellsOf e → ∃ v, p.2[j]? = some v ∧ w.cell? (a.add (i * P.cellsOf e + j)) = some v := by
          intro i
          by_cases hi : i < len
          · obtain ⟨z, _, hz⟩ := hel2 i i (by rw [List.getElem?_range hi])
            rw [Option.bind_eq_some_iff] at hz
            obtain ⟨csi, hcs, htr⟩ := hz
            obtain ⟨hlen, hcell⟩ := cells?_spec hcs
            obtain ⟨l, hsh, hp⟩ := ih _ _ _ htr
            exact ⟨(l, csi), fun _ => ⟨hsh, hp, hlen, fun j hj => by
              obtain ⟨v, hv, hc⟩ := hcell j hj
              rw [add_addr] at hc
              exact ⟨v, hv, hc⟩⟩⟩
          · exact ⟨([], []), fun h => absurd h hi⟩
        have key2 := fun i => Classical.choose_spec (key i)
        generalize hg : (fun i => Classical.choose (key i)) = g at key2
        have gi : ∀ i, Classical.choose (key i) = g i := fun i => congrFun hg i
        simp only [gi] at key2
        refine ⟨[.sl (P.cellsOf e) ((List.range len).map fun i => (g i).1)], ?_, .one ?_⟩
        · simp only [Sh, ht]
          refine ⟨_, by simp; omega, fun x hx => ?_, rfl⟩
          obtain ⟨i, hi, rfl⟩ := List.mem_map.1 hx
          exact (key2 i (List.mem_range.1 hi)).1
        · have hl : ((List.range len).map fun i => (g i).1).length = len := by simp
          have := Im.sl (U := noU) (w := w) (P.cellsOf e) ((List.range len).map fun i => (g i).1) a cap (fun i j => (g i).2.getD j undef) (by rw [hl]; exact hlc) hcm (fun _ _ h => h)
            (fun x hx => by
              obtain ⟨i, hi, rfl⟩ := List.mem_map.1 hx
              obtain ⟨_, h1, h2, _⟩ := key2 i (List.mem_range.1 hi)
              rw [h1.1, h2])
            (fun i hi j hj => by
              rw [hl] at hi
              obtain ⟨_, _, _, h3⟩ := key2 i hi
              obtain ⟨v, hv, hc⟩ := h3 j hj
              simp only [List.getD_eq_getElem?_getD, hv]
              exact hc)
            (fun i x hx j u hu => by
              rw [ofFn_get] at hx
              split at hx
              · rename_i hi
                cases hx
                obtain ⟨_, h1, h2, h3⟩ := key2 i hi
                have hj : j < P.cellsOf e := by rw [← h2, ← h1.1]; exact (List.getElem?_eq_some_iff.1 hu).1
                obtain ⟨v, hv, _⟩ := h3 j hj
                simp only [List.getD_eq_getElem?_getD, hv]
                exact h1.2 j u v hu hv
              · cases hx)
          rw [hl] at this
          exact this
      · cases h
    · rename_i fs ht
      split at h
      · rename_i hl
        rw [Option.map_eq_some_iff] at h
        obtain ⟨r, hr, _⟩ := h
        by_cases hc : consec P (P.cellsOf t) fs.toList 0 = true
        · obtain ⟨l, h1, h2⟩ := struct_sh (S := Sh P f) (fun t cs y h => ih t cs y h) _ hl fs.toList 0 hc hr
          exact ⟨l, by simp only [Sh, ht]; exact fun _ => h1, by simpa using h2⟩
        · exact raw fun l => by simp only [Sh, ht]; exact fun h => absurd h hc
      · cases h
    · rename_i n e ht
      split at h
      · rename_i hl
        rw [Option.map_eq_some_iff] at h
        obtain ⟨r, hr, _⟩ := h
        by_cases hc : P.cellsOf t = n * P.cellsOf e
        · obtain ⟨_, hr2⟩ := mapM_opt hr
          obtain ⟨l, h1, h2⟩ := array_sh (S := Sh P f e) (c := P.cellsOf e) (T := fun cs => DataW.trod enc P w base spare held f e cs) (fun cs y h => ih e cs y h) _ n 0 (by rw [hl, hc, Nat.zero_add]) (fun k hk => by
            obtain ⟨z, _, hz⟩ := hr2 k k (by rw [List.getElem?_range hk])
            exact ⟨z, by rw [Nat.zero_add]; exact hz⟩)
          exact ⟨l, by simp only [Sh, ht]; exact fun _ => h1, by simpa using h2⟩
        · exact raw fun l => by simp only [Sh, ht]; exact fun h => absurd h hc
      · cases h
    all_goals first
      | cases h; done
      | (rename_i ht; exact raw (by intro l; simp only [Sh, ht]))
      | (rename_i ht; split at h <;> first | (cases h; done) | exact raw (by intro l; simp only [Sh, ht]))
      | (rename_i ht _; exact raw (by intro l; simp only [Sh, ht]))
      | trace_state

/-- An argument reads so. -/
def AShape (P : Program) (t : TypeId) (a : AV) : Prop := match P.underlying t with
  | some (.struct _) | some (.array _ _) => ∃ fuel l, a = .agg l ∧ Sh P fuel t l
  | _ => ∃ fuel, Sh P fuel t [a]

theorem cells_nonagg {v : Value} (h : ∀ cs, v ≠ .agg cs) : v.cells = #[v] := by
  cases v <;> first | rfl | exact absurd rfl (h _)

theorem cell_nonagg {r : Reach} {b0 : Nat} {t : TypeId} {v : Value} (h : Cell.okWide P w r b0 t v) : ∀ cs, v ≠ .agg cs := by
  rintro cs rfl
  simp only [Cell.okWide, Cell.ok] at h
  split at h <;> simp_all

theorem trod_arg {r : Reach} {b0 : Nat} {t : TypeId} {v : Value} {d : DataW H} {ps : List MemPlace} (hok : Value.okWide P w r b0 t v) (h : DataW.Trod enc P w base spare held t v d ps) : ∃ a, AShape P t a ∧ Im noU w a v := by
  obtain ⟨fuel, h⟩ := h
  obtain ⟨l, hs, hp⟩ := trod_sh fuel t _ _ h
  have one : (∀ cs, v ≠ .agg cs) → ∃ a, l = [a] ∧ Im noU w a v := by
    intro hna
    rw [cells_nonagg hna] at hp
    obtain ⟨h1, h2⟩ := hp
    match l, h1, h2 with
    | [a], _, h2 => exact ⟨a, rfl, h2 0 a v rfl rfl⟩
  have agg : ∀ cs, v = .agg cs → Im noU w (.agg l) v := by
    rintro cs rfl
    have hp' : PIm w l cs.toList := hp
    have := Im.agg (U := noU) (w := w) l cs.toList hp'.1 hp'.2
    simpa using this
  unfold AShape
  unfold Value.okWide at hok
  split at hok
  · rename_i ht
    obtain ⟨cs, hv, _⟩ := hok
    exact ⟨.agg l, (by simp only [ht]; exact ⟨fuel, l, rfl, hs⟩), agg cs hv⟩
  · rename_i ht
    obtain ⟨cs, hv, _⟩ := hok
    exact ⟨.agg l, (by simp only [ht]; exact ⟨fuel, l, rfl, hs⟩), agg cs hv⟩
  · obtain ⟨a, rfl, ha⟩ := one (cell_nonagg hok)
    refine ⟨a, ?_, ha⟩
    split
    all_goals first | exact ⟨fuel, hs⟩ | (exfalso; simp_all)

/-- Arguments read so. -/
def AShapes (P : Program) : List TypeId → List AV → Prop
  | [], l => l = []
  | t :: ts, l => ∃ a r, l = a :: r ∧ AShape P t a ∧ AShapes P ts r

theorem trod_args {r : Reach} {b0 : Nat} : ∀ {ts : List TypeId} {vs : List Value} {ds : List (DataW H)} {ps : List MemPlace}, (∀ (j : Nat) t v, ts[j]? = some t → vs[j]? = some v → Value.okWide P w r b0 t v) → DataW.TrodAll enc P w base spare held ts vs ds ps →
    ds.length = ts.length ∧ ∃ l, AShapes P ts l ∧ l.length = vs.length ∧ ∀ (j : Nat) a v, l[j]? = some a → vs[j]? = some v → Im noU w a v
  | [], [], [], ps, _, _ => ⟨rfl, [], rfl, rfl, fun j a v h => by simp at h⟩
  | [], [], _ :: _, ps, _, h => h.elim
  | [], _ :: _, _, ps, _, h => h.elim
  | _ :: _, [], _, ps, _, h => h.elim
  | _ :: _, _ :: _, [], ps, _, h => h.elim
  | t :: ts, v :: vs, d :: ds, ps, hok, h => by
    obtain ⟨p, q, h1, h2, _⟩ := h
    obtain ⟨a, ha, hi⟩ := trod_arg (hok 0 t v rfl rfl) h1
    obtain ⟨hd, l, hl, hlen, hr⟩ := trod_args (ts := ts) (vs := vs) (fun j t v ht hv => hok (j + 1) t v (by simpa using ht) (by simpa using hv)) h2
    refine ⟨by simp [hd], a :: l, ⟨a, l, rfl, ha, hl⟩, by simp [hlen], fun j x y hx hy => ?_⟩
    cases j with
    | zero => simp at hx hy; subst hx hy; exact hi
    | succ j => exact hr j x y (by simpa using hx) (by simpa using hy)

theorem trod_stay (hl : laidOutB P = true) {w' : World} (hb : Below w.heap.size w w') : ∀ {ts : List TypeId} {vs : List Value} {ds : List (DataW H)} {ps : List MemPlace}, (ts.all fun t => P.readableRec t && decide (t < P.types.size)) = true → (∀ x ∈ ps, x.block < w.heap.size) →
    DataW.TrodAll enc P w 0 (fun _ => true) true ts vs ds ps → DataW.TrodAll enc P w' 0 (fun b => decide (b < w.heap.size)) true ts vs ds ps
  | [], [], [], ps, _, _, h => h
  | [], [], _ :: _, ps, _, _, h => h.elim
  | [], _ :: _, _, ps, _, _, h => h.elim
  | _ :: _, [], _, ps, _, _, h => h.elim
  | _ :: _, _ :: _, [], ps, _, _, h => h.elim
  | t :: ts, v :: vs, d :: ds, ps, hr, hlt, h => by
    obtain ⟨p, q, h1, h2, rfl⟩ := h
    rw [List.all_cons, Bool.and_eq_true, Bool.and_eq_true] at hr
    exact ⟨p, q, Below.trod hl hr.1.1 (of_decide_eq_true hr.1.2) h1 hb fun x hx => hlt x (by simp [hx]), trod_stay hl hb hr.2 (fun x hx => hlt x (by simp [hx])) h2, rfl⟩

/-- A law that answers true whatever comes in meets its specification. -/
theorem law_post {f : Nat} {fn : Func} {s : ChangeSpec} {tb : TypeId} {handsOn : Bool} {W : World} {args : Array Value} {ds gs : List (DataW H)} {before : List MemPlace} {b0 : Nat} {r : Reach}
    (hl : laidOutB P = true) (hr : (fn.params.toList.all fun t => P.readableRec t && decide (t < P.types.size)) = true) (htb : P.underlying tb = some .bool) (hrt : fn.resultTypes = #[tb])
    (hvars : s.vars = []) (hs : ∀ ds : List (DataW H), ds.length = fn.params.toList.length → s.fn H (ds ++ []) = { results := [.lit (.bool true)], args := ds })
    (hcall : ∀ l, AShapes P fn.params.toList l → FCall P f l (.b true))
    (hval : ∀ (j : Nat) t v, fn.params[j]? = some t → args[j]? = some v → Value.okWide P W r b0 t v)
    (hW : DataW.Whole enc P fn.params.toList s.vars false W args.toList ds gs before) :
    Calls P f args W fun e W' => ∃ v, e = .returned v ∧ s.post enc P fn false true handsOn false W args v W' := by
  have hW0 := hW
  obtain ⟨p, q, hA, hV, rfl, hfz, hnd⟩ := hW
  obtain ⟨hdl, l, hsh, hll, him⟩ := trod_args (r := r) (b0 := b0) (fun j t v ht hv => hval j t v (by simpa using ht) (by simpa using hv)) hA
  have hlt : ∀ x ∈ p ++ q, x.block < W.heap.size := fun x hx => hW0.lt x hx
  rw [hvars] at hV
  obtain ⟨rfl, rfl⟩ : gs = [] ∧ q = [] := by
    cases gs with
    | nil => exact ⟨rfl, hV⟩
    | cons a b => exact hV.elim
  have hc := (hcall l hsh).2 noU W args.toList (fun k hk => hk.elim) hll him
  have ea : args.toList.toArray = args := by simp
  rw [ea] at hc
  refine hc.mono fun e W' ⟨v, he, hi, hb⟩ => ?_
  subst he
  cases hi
  refine ⟨_, rfl, ds, [], p ++ [], [], p, [], hW0, ?_, ?_, ?_, ?_, fun h => by cases h⟩
  · rw [hrt, hs ds hdl]
    exact ⟨[], [], shut_bool htb true, rfl, rfl⟩
  · rw [hs ds hdl]
    exact trod_stay hl hb hr (fun x hx => hlt x (by simp [hx])) hA
  · rw [hvars, hs ds hdl]
    rfl
  · exact Below.frame hb _
end

/-! ### Opening the shapes -/
section
variable {P : Program}
theorem wf_int {k : IntKind} {n : Int} (h : (Lit.int k n).wf = true) : k.min ≤ n ∧ n ≤ k.max := by
  simpa [Lit.wf] using h
theorem wf_u8 {n : Int} (h : (Lit.int .u8 n).wf = true) : 0 ≤ n ∧ n < 256 := by
  obtain ⟨h1, h2⟩ := wf_int h
  have e1 : IntKind.min .u8 = 0 := rfl
  have e2 : IntKind.max .u8 = 255 := rfl
  omega
theorem wf_i64 {n : Int} (h : (Lit.int .i64 n).wf = true) : -9223372036854775808 ≤ n ∧ n ≤ 9223372036854775807 := by
  obtain ⟨h1, h2⟩ := wf_int h
  have e1 : IntKind.min .i64 = -9223372036854775808 := by decide
  have e2 : IntKind.max .i64 = 9223372036854775807 := by decide
  omega
theorem sh_int {f t : Nat} {l : List AV} {k : IntKind} (ht : P.underlying t = some (.int k)) (h : Sh P f t l) : ∃ n, (Lit.int k n).wf = true ∧ l = [.v (.int k n)] := by
  cases f with
  | zero => exact h.elim
  | succ f => simpa only [Sh, ht] using h
theorem sh_bool {f t : Nat} {l : List AV} (ht : P.underlying t = some .bool) (h : Sh P f t l) : ∃ b, l = [.v (.bool b)] := by
  cases f with
  | zero => exact h.elim
  | succ f => simpa only [Sh, ht] using h
theorem sh_str {f t : Nat} {l : List AV} (ht : P.underlying t = some .string) (h : Sh P f t l) : ∃ s, s.length ≤ maxLen ∧ l = [.str s] := by
  cases f with
  | zero => exact h.elim
  | succ f => simpa only [Sh, ht] using h
theorem sh_slice {f t e c : Nat} {l : List AV} (ht : P.underlying t = some (.slice e)) (hc : P.cellsOf e = c) (h : Sh P f t l) : ∃ f' ls, ls.length ≤ maxLen ∧ (∀ x ∈ ls, Sh P f' e x) ∧ l = [.sl c ls] ∧ f = f' + 1 := by
  cases f with
  | zero => exact h.elim
  | succ f =>
    simp only [Sh, ht] at h
    obtain ⟨ls, h1, h2, h3⟩ := h
    exact ⟨f, ls, h1, h2, by rw [h3, hc], rfl⟩
theorem sh_struct {f t : Nat} {l : List AV} {fs : Array Field} {ts : List Nat} (ht : P.underlying t = some (.struct fs)) (hc : (consec P (P.cellsOf t) fs.toList 0 && decide (fs.toList.map (·.type) = ts)) = true) (h : Sh P f t l) : ∃ f', ShL (Sh P f') ts l ∧ f = f' + 1 := by
  cases f with
  | zero => exact h.elim
  | succ f =>
    simp only [Bool.and_eq_true, decide_eq_true_eq] at hc
    simp only [Sh, ht] at h
    exact ⟨f, hc.2 ▸ h hc.1, rfl⟩
theorem sh_array {f t e n : Nat} {l : List AV} (ht : P.underlying t = some (.array n e)) (hc : P.cellsOf t = n * P.cellsOf e) (h : Sh P f t l) : ∃ f', ShN (Sh P f' e) n l ∧ f = f' + 1 := by
  cases f with
  | zero => exact h.elim
  | succ f =>
    simp only [Sh, ht] at h
    exact ⟨f, h hc, rfl⟩
def aggT (P : Program) (t : Nat) : Bool := match P.underlying t with
  | some (.struct _) | some (.array _ _) => true
  | _ => false
theorem ash_agg {t : Nat} {a : AV} (ht : aggT P t = true) (h : AShape P t a) : ∃ fuel l, a = .agg l ∧ Sh P fuel t l := by
  unfold AShape at h
  unfold aggT at ht
  split at ht
  · rename_i h1; simpa only [h1] using h
  · rename_i h1; simpa only [h1] using h
  · cases ht
theorem ash_one {t : Nat} {a : AV} (ht : aggT P t = false) (h : AShape P t a) : ∃ fuel, Sh P fuel t [a] := by
  unfold AShape at h
  unfold aggT at ht
  split at ht
  · cases ht
  · cases ht
  · split at h
    all_goals first | exact h | (exfalso; simp_all)
theorem ash_u8 {t : Nat} {a : AV} (ht : P.underlying t = some (.int .u8)) (h : AShape P t a) : ∃ n : Nat, n < 256 ∧ a = .v (.int .u8 n) := by
  obtain ⟨f, h⟩ := ash_one (by simp [aggT, ht]) h
  obtain ⟨n, hw, e⟩ := sh_int ht h
  obtain ⟨h1, h2⟩ := wf_u8 hw
  refine ⟨n.toNat, by omega, ?_⟩
  rw [Int.toNat_of_nonneg h1]
  simpa using e
theorem ash_i64 {t : Nat} {a : AV} (ht : P.underlying t = some (.int .i64)) (h : AShape P t a) : ∃ n : Int, (-9223372036854775808 ≤ n ∧ n ≤ 9223372036854775807) ∧ a = .i n := by
  obtain ⟨f, h⟩ := ash_one (by simp [aggT, ht]) h
  obtain ⟨n, hw, e⟩ := sh_int ht h
  exact ⟨n, wf_i64 hw, by simpa using e⟩
theorem ash_str {t : Nat} {a : AV} (ht : P.underlying t = some .string) (h : AShape P t a) : ∃ s : List UInt8, s.length ≤ maxLen ∧ a = .str s := by
  obtain ⟨f, h⟩ := ash_one (by simp [aggT, ht]) h
  obtain ⟨s, hl, e⟩ := sh_str ht h
  exact ⟨s, hl, by simpa using e⟩
theorem ash_bool {t : Nat} {a : AV} (ht : P.underlying t = some .bool) (h : AShape P t a) : ∃ b : Bool, a = .v (.bool b) := by
  obtain ⟨f, h⟩ := ash_one (by simp [aggT, ht]) h
  obtain ⟨b, e⟩ := sh_bool ht h
  exact ⟨b, by simpa using e⟩
theorem ash_slice {t e c : Nat} {a : AV} (ht : P.underlying t = some (.slice e)) (hc : P.cellsOf e = c) (h : AShape P t a) : ∃ f ls, ls.length ≤ maxLen ∧ (∀ x ∈ ls, Sh P f e x) ∧ a = .sl c ls := by
  obtain ⟨f, h⟩ := ash_one (by simp [aggT, ht]) h
  obtain ⟨f', ls, h1, h2, h3, _⟩ := sh_slice ht hc h
  exact ⟨f', ls, h1, h2, by simpa using h3⟩

/-- A list whose elements are each of a form is a list of forms. -/
theorem all_form {α : Type} {F : α → List AV} {R : α → Prop} : ∀ {ls : List (List AV)}, (∀ x ∈ ls, ∃ y, R y ∧ x = F y) → ∃ l : List α, ls = l.map F ∧ ∀ y ∈ l, R y
  | [], _ => ⟨[], rfl, fun y h => by cases h⟩
  | x :: r, h => by
    obtain ⟨y, hy, e⟩ := h x (by simp)
    obtain ⟨l, hl, hr⟩ := all_form (ls := r) fun z hz => h z (by simp [hz])
    refine ⟨y :: l, by simp [e, hl], fun z hz => ?_⟩
    rcases List.mem_cons.1 hz with rfl | hz
    · exact hy
    · exact hr z hz
abbrev u8A (b : UInt8) : List AV := [.v (.int .u8 b.toNat)]
theorem ash_bytes {t e : Nat} {a : AV} (ht : P.underlying t = some (.slice e)) (he : P.underlying e = some (.int .u8)) (hc : P.cellsOf e = 1) (h : AShape P t a) : ∃ l : List UInt8, l.length ≤ maxLen ∧ a = .sl 1 (l.map u8A) := by
  obtain ⟨f, ls, h1, h2, h3⟩ := ash_slice ht hc h
  obtain ⟨l, hl, _⟩ := all_form (F := u8A) (R := fun _ => True) (ls := ls) (fun x hx => by
    obtain ⟨n, hw, e⟩ := sh_int he (h2 x hx)
    obtain ⟨g1, g2⟩ := wf_u8 hw
    refine ⟨UInt8.ofNat n.toNat, trivial, ?_⟩
    rw [e, u8A, UInt8.toNat_ofNat']
    rw [show ((n.toNat % 2 ^ 8 : Nat) : Int) = n by omega])
  exact ⟨l, by rw [hl, List.length_map] at h1; exact h1, by rw [h3, hl]⟩
end

/-! ### Bytes -/
theorem each_mapNb {α : Type} {l : List UInt8} {f : UInt8 → α} {k : Nat} {F : α → Prop} (h : k < l.length) (kk : ∀ x, l[k]? = some x → x.toNat < 256 → F (f x)) : EachP (l.map f) (k : Int) F := each_mapN h fun x hx => kk x hx x.toNat_lt
theorem each_mapb {α : Type} {l : List UInt8} {f : UInt8 → α} {i : Int} {F : α → Prop} (h0 : 0 ≤ i) (h : i < l.length) (kk : ∀ x, l[i.toNat]? = some x → x.toNat < 256 → F (f x)) : EachP (l.map f) i F := each_map h0 h fun x hx => kk x hx x.toNat_lt
theorem each_lb {l : List UInt8} {i : Int} {F : UInt8 → Prop} (h0 : 0 ≤ i) (h : i < l.length) (kk : ∀ x, l[i.toNat]? = some x → x.toNat < 256 → F x) : EachP l i F := each_l h0 h fun x hx => kk x hx x.toNat_lt
theorem conv_u8 {P : Program} {S T : Nat} {k' : IntKind} {b : UInt8} {F : AV → Prop} [TInt P T .i64] [TInt P S k'] (kk : F (.v (.int .i64 b.toNat))) : ConvP P S T (.v (.int k' b.toNat)) F := conv_id (wrap64_of (by have := b.toNat_lt; omega)) kk

/-! ### A literal that becomes a row of one's own -/
theorem own_slice {P : Program} {E : Env} {n : Nat} {ops : Array Oper} {rest : List Oper} {σ : St} {K : St → Prop} {d : Nat} {ty : TypeId} {pos : String} {after : Array Edge} {T len : Nat} {parts : List (Nat × Operand)} (hd : Nat.blt d n = true)
    (h : match evP (evO σ) parts with
      | some ps => RowP P T fun e sz _ _ => cond (denseB 0 ps && allLenB sz (elsA ps) && Nat.beq ps.length len && Nat.blt 0 sz) (SideP (len * sz ≤ 16777216) (FitsPP σ.hp ps (ImssP (elsA ps) (natCase σ.nx fun nx => AOps P E n ops rest ((σ.new (.row e sz 0 (elsA ps))).put d (.row nx 0 len)) K)))) False
      | none => False) : AOps P E n ops (⟨some d, .buildSlice T len ⟨parts⟩, ty, pos, after, none⟩ :: rest) σ K := by
  split at h
  · rename_i ps he
    obtain ⟨⟨e, sz, bs, z, ts, tz, tb, hz, h⟩⟩ := h
    obtain ⟨hc, h⟩ := cond_false h
    simp only [Bool.and_eq_true, Nat.beq_eq] at hc
    obtain ⟨⟨⟨h1, h2⟩, h3⟩, h4⟩ := hc
    obtain ⟨h5, h⟩ := h
    obtain ⟨h6, h⟩ := fitsPP_spec h
    obtain ⟨h7, h⟩ := imssP_spec h
    exact aops_buildSlice (e := e) (sz := sz) (z := z) he h6 h1 h2 h3 hz h5 (Nat.blt_eq ▸ h4) h7 hd (natCase_spec h)
  · exact h.elim

def imOneB : AV → Bool
  | .v x => oneB x
  | .str _ | .sl _ _ | .iptr _ | .fn _ _ => true
  | _ => false
theorem imOneB_spec {x : AV} (h : imOneB x = true) : imOne x := by
  cases x <;> first | exact oneB_spec h | trivial | cases h
theorem imsB {m : List (List AV)} (h : (m.all fun el => el.all imOneB) = true) : ∀ el ∈ m, ∀ u ∈ el, imOne u := fun el hel u hu =>
  imOneB_spec (List.all_eq_true.1 (List.all_eq_true.1 h el hel) u hu)
theorem ims_map {α : Type} {l : List α} {f : α → List AV} (h : ∀ x, (f x).all imOneB = true) : ∀ el ∈ l.map f, ∀ u ∈ el, imOne u := fun el hel u hu => by
  obtain ⟨x, _, rfl⟩ := List.mem_map.1 hel
  exact imOneB_spec (List.all_eq_true.1 (h x) u hu)

/-! ### A region that draws its order and only reads -/
def quietOp (o : Oper) : Bool := o.dst.isSome && match o.op with
  | .box .. | .alloc .. | .makeSlice .. | .makeMap .. | .mapUpdate .. | .store .. => false
  | .call ⟨.builtin .append, _, _⟩ => false
  | _ => true
theorem draw_p {P : Program} {E : Env} {n : Nat} {ops : Array Oper} {σ : St} {id : Nat} {Q : Exit → St → Prop} [hm : TMix P] (hq : ops.toList.all quietOp = true) (hd : drawB ops = true) (h : DQ P E n ops ops.toList σ fun σ' => Q .normal σ') : DrawP P E n id ops σ Q :=
  draw_q hd h
/-- Ahead of a region that draws its order: what is not needed any more is let go. -/
theorem draw_le {P : Program} {E : Env} {n : Nat} {ops : Array Oper} {σ σ' : St} {id : Nat} {Q : Exit → St → Prop} (h : St.le E n σ σ') (k : DrawP P E n id ops σ' Q) : DrawP P E n id ops σ Q := ⟨awp_weaken h k.h⟩

/-! ### A state written out, with the slots that are still looked at -/
def pickS (sl : List (Nat × AV)) : List Nat → List (Nat × AV)
  | [] => []
  | s :: r => match look sl s with
    | some x => (s, x) :: pickS sl r
    | none => pickS sl r
def pickH (hp : Hp) : Nat → Hp
  | 0 => []
  | i + 1 => match lookB hp i with
    | some b => (i, some b) :: pickH hp i
    | none => pickH hp i
theorem look_pickS {sl : List (Nat × AV)} : ∀ {l : List Nat} {s : Nat} {x : AV}, look (pickS sl l) s = some x → look sl s = some x
  | [], s, x, h => by cases h
  | t :: r, s, x, h => by
    unfold pickS at h
    cases hx : look sl t with
    | none => rw [hx] at h; exact look_pickS h
    | some y =>
      rw [hx] at h
      simp only [look_cons] at h
      by_cases e : t = s
      · subst e; rw [if_pos rfl] at h; rw [hx]; exact h
      · rw [if_neg e] at h; exact look_pickS h
theorem lookB_pickH {hp : Hp} : ∀ (m i : Nat), lookB (pickH hp m) i = if i < m then lookB hp i else none
  | 0, i => by simp [pickH, lookB, look]
  | m + 1, i => by
    unfold pickH
    cases hx : lookB hp m with
    | none =>
      simp only
      rw [lookB_pickH m i]
      by_cases e : i = m
      · subst e; simp [hx]
      · by_cases h : i < m
        · rw [if_pos h, if_pos (by omega)]
        · rw [if_neg h, if_neg (by omega)]
    | some b =>
      simp only [lookB_cons]
      by_cases e : m = i
      · subst e; simp [hx]
      · rw [if_neg e, lookB_pickH m i]
        by_cases h : i < m
        · rw [if_pos h, if_pos (by omega)]
        · rw [if_neg h, if_neg (by omega)]
theorem le_cut {E : Env} {n : Nat} {σ : St} (keep : List Nat) : St.le E n σ ⟨pickS σ.sl keep, σ.nx, pickH σ.hp σ.nx⟩ := by
  rintro a w ⟨θ, h⟩
  have e : ∀ i, lookB (pickH σ.hp σ.nx) i = lookB σ.hp i := by
    intro i
    rw [lookB_pickH]
    by_cases hi : i < σ.nx
    · rw [if_pos hi]
    · rw [if_neg hi]
      cases hx : lookB σ.hp i with
      | none => rfl
      | some b => exact absurd (h.owns i b hx).1 hi
  have le : (cx E θ σ w).le (cx E θ ⟨pickS σ.sl keep, σ.nx, pickH σ.hp σ.nx⟩ w) := by
    refine ⟨Nat.le_refl _, fun i hi => .inl rfl, fun i hi e' sz' v' l' hl => ⟨e', v', l', ?_, .inr ⟨rfl, rfl, rfl⟩⟩, Nat.le_refl _, fun k hk _ => rfl, fun k hk hu => ?_⟩
    · have hl' : lookB (pickH σ.hp σ.nx) i = some (.row e' sz' v' l') := hl
      rw [e i] at hl'; exact hl'
    · rcases hu with hu | ⟨i, b, hi, hk'⟩
      · exact .inl hu
      · have hi' : lookB (pickH σ.hp σ.nx) i = some b := hi
        rw [e i] at hi'
        exact .inr ⟨i, b, hi', hk'⟩
  refine ⟨θ, h.size, h.defers, h.fr, fun s x hs => (h.slots s x (look_pickS hs)).mono le, fun i b hi => ?_, fun i j b b' k hi hj => ?_, fun i b k hi => ?_, h.X, h.base⟩
  · have hi' : lookB (pickH σ.hp σ.nx) i = some b := hi
    rw [e i] at hi'
    exact ⟨(h.owns i b hi').1, (h.owns i b hi').2.mono le rfl fun k _ => rfl⟩
  · have hi' : lookB (pickH σ.hp σ.nx) i = some b := hi
    have hj' : lookB (pickH σ.hp σ.nx) j = some b' := hj
    rw [e i] at hi'
    rw [e j] at hj'
    exact h.apart i j b b' k hi' hj'
  · have hi' : lookB (pickH σ.hp σ.nx) i = some b := hi
    rw [e i] at hi'
    exact h.mine i b k hi'
def CutP (σ : St) (keep : List Nat) (F : St → Prop) : Prop := NormP (pickS σ.sl keep) fun sl => natCase σ.nx fun nx => NormH (pickH σ.hp nx) fun hp => F ⟨sl, nx, hp⟩
theorem cutP_spec {σ : St} {keep : List Nat} {F : St → Prop} (h : CutP σ keep F) : F ⟨pickS σ.sl keep, σ.nx, pickH σ.hp σ.nx⟩ := normH_spec (F := fun hp => F ⟨pickS σ.sl keep, σ.nx, hp⟩) (natCase_spec (F := fun nx => NormH (pickH σ.hp nx) fun hp => F ⟨pickS σ.sl keep, nx, hp⟩) (normP_spec h))
section rules
variable {P : Program} {E : Env} {n : Nat} {ops : Array Oper} {rest : List Oper} {σ : St} {K : St → Prop} {Q : Exit → St → Prop}
theorem aops_cut {l : List Oper} (keep : List Nat) (h : CutP σ keep fun σ' => AOps P E n ops l σ' K) : AOps P E n ops l σ K := aops_le (le_cut keep) (cutP_spec (F := fun σ' => AOps P E n ops l σ' K) h)
theorem loop_cut {c : Code} (keep : List Nat) (h : CutP σ keep fun σ' => LoopP P E n c σ' Q) : LoopP P E n c σ Q := ⟨awp_weaken (le_cut keep) (cutP_spec (F := fun σ' => LoopP P E n c σ' Q) h).h⟩
theorem draw_cut {id : Nat} (keep : List Nat) (h : CutP σ keep fun σ' => DrawP P E n id ops σ' Q) : DrawP P E n id ops σ Q := ⟨awp_weaken (le_cut keep) (cutP_spec (F := fun σ' => DrawP P E n id ops σ' Q) h).h⟩
/-- A block is frozen, and the state is written out. -/
theorem frz_cut {o : Oper} {l : List AV} (i : Nat) (keep : List Nat) (h : CutP (σ.frz i) keep fun σ' => AOps P E n ops (o :: rest) σ' K) : NCallP P E n ops o rest l σ K := ncall_frz i (aops_cut keep h)
end rules
end Go.Av

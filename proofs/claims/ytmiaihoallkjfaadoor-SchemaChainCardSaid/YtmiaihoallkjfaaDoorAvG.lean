/- The walk: operations that make or write memory, code, and what a function does. -/
import Derived.Test.YtmiaihoallkjfaaDoorAvK
namespace Go.Av
open Go Go.RowKit
set_option linter.unusedSimpArgs false
set_option linter.unusedVariables false
set_option linter.unnecessarySimpa false

/-! ### What can be read -/
/-- There is a value that reads so. -/
def Rd (a : AV) : Prop := ∃ U w v, Im U w a v
theorem Rd.sl {sz : Nat} {l : List (List AV)} (h : Rd (.sl sz l)) : l.length ≤ 9223372036854775807 := by
  obtain ⟨U, w, v, h⟩ := h
  cases h with
  | slnil => simp
  | sl sz l a cap f hcap hm hu hsz hc h => unfold maxLen at hm; omega
theorem Rd.agg {l : List AV} (h : Rd (.agg l)) : ∀ x ∈ l, Rd x := by
  obtain ⟨U, w, v, h⟩ := h
  cases h with
  | agg l cs hl h =>
    intro x hx
    obtain ⟨j, hj, rfl⟩ := List.getElem_of_mem hx
    have h2 : j < cs.length := by omega
    exact ⟨U, w, _, h j _ _ (List.getElem?_eq_getElem hj) (List.getElem?_eq_getElem h2)⟩
theorem Rd.elem {sz : Nat} {l : List (List AV)} (h : Rd (.sl sz l)) : ∀ e ∈ l, ∀ x ∈ e, Rd x := by
  obtain ⟨U, w, v, h⟩ := h
  cases h with
  | slnil => intro e he; cases he
  | sl sz l a cap f hcap hm hu hsz hc h =>
    intro e he x hx
    obtain ⟨i, hi, rfl⟩ := List.getElem_of_mem he
    obtain ⟨j, hj, rfl⟩ := List.getElem_of_mem hx
    exact ⟨U, w, _, h i _ (List.getElem?_eq_getElem hi) j _ (List.getElem?_eq_getElem hj)⟩

/-! ### The beginning and the end of a function -/
def argSl : List AV → Nat → List (Nat × AV)
  | [], _ => []
  | a :: r, k => (k, a) :: argSl r (k + 1)
theorem look_argSl : ∀ (l : List AV) (k s : Nat) (x : AV), look (argSl l k) s = some x → k ≤ s ∧ l[s - k]? = some x
  | [], _, _, _, h => by cases h
  | a :: r, k, s, x, h => by
    simp only [argSl, look_cons] at h
    by_cases e : k = s
    · subst e; simp at h; subst h; simp
    · rw [if_neg e] at h
      obtain ⟨h1, h2⟩ := look_argSl r (k + 1) s x h
      refine ⟨by omega, ?_⟩
      have : s - k = (s - (k + 1)) + 1 := by omega
      rw [this]
      simpa using h2

/-! ### Results -/
def resOne (tmps : Array Value) : ResultVar → Sem Value
  | .tmp t => pure (tmps.getD t undef)
  | .cell a t => do loadVar t (← asAddr (tmps.getD a undef))
theorem run_mapM {P : Program} {w : World} {tmps : Array Value} : ∀ {rvs : List ResultVar} {vs : List Value}, rvs.length = vs.length → (∀ (j : Nat) rv v, rvs[j]? = some rv → vs[j]? = some v → (resOne tmps rv).run P w = .ok v w) → (rvs.mapM (resOne tmps)).run P w = .ok vs w
  | [], [], _, _ => by simp [Sem.run_pure]
  | rv :: r, v :: s, hl, h => by
    have h1 := h 0 rv v rfl rfl
    have h2 := run_mapM (rvs := r) (vs := s) (by simpa using hl) (fun j rv v hj hv => h (j + 1) rv v (by simpa using hj) (by simpa using hv))
    simp [List.mapM_cons, Sem.run_bind, h1, h2]
  | [], _ :: _, hl, _ => by simp at hl
  | _ :: _, [], hl, _ => by simp at hl
theorem run_results {P : Program} {w : World} {fn : Func} {tmps : Array Value} {rvs : List ResultVar} {vs : List Value} (h : fn.results = rvs.toArray) (hne : rvs.length ≠ 1) (hl : rvs.length = vs.length) (hv : ∀ (j : Nat) rv v, rvs[j]? = some rv → vs[j]? = some v → (resOne tmps rv).run P w = .ok v w) :
    (results fn tmps).run P w = .ok (.tuple vs.toArray) w := by
  have hm := run_mapM (P := P) (w := w) (tmps := tmps) hl hv
  have e : results fn tmps = (do let vs ← fn.results.mapM (resOne tmps); pure (if h : vs.size = 1 then vs[0] else .tuple vs)) := by
    unfold results
    congr
  rw [e, h, List.mapM_toArray]
  simp only [Sem.run_bind, map_eq_pure_bind, hm, Sem.run_pure, Result.andThen_ok]
  rw [dif_neg (by simp; omega)]

theorem run_results1 {P : Program} {w : World} {fn : Func} {tmps : Array Value} {rv : ResultVar} {v : Value} (h : fn.results = [rv].toArray) (hv : (resOne tmps rv).run P w = .ok v w) :
    (results fn tmps).run P w = .ok v w := by
  have hm := run_mapM (P := P) (w := w) (tmps := tmps) (rvs := [rv]) (vs := [v]) rfl (fun j rv' v' hj hv' => by
    cases j with
    | zero => simp at hj hv'; subst hj hv'; exact hv
    | succ j => simp at hj)
  have e : results fn tmps = (do let vs ← fn.results.mapM (resOne tmps); pure (if h : vs.size = 1 then vs[0] else .tuple vs)) := by
    unfold results
    congr
  rw [e, h, List.mapM_toArray]
  simp only [Sem.run_bind, map_eq_pure_bind, hm, Sem.run_pure, Result.andThen_ok]
  rfl

/-- What may be said instead: nothing laid is an empty row. -/
inductive NL : AV → AV → Prop
  | refl (a : AV) : NL a a
  | nil (sz : Nat) : NL (.v (.slice none 0 0)) (.sl sz [])
  | agg (l m : List AV) (h : l.length = m.length) (hh : ∀ (j : Nat) x y, l[j]? = some x → m[j]? = some y → NL x y) : NL (.agg l) (.agg m)
  | tup (l m : List AV) (h : l.length = m.length) (hh : ∀ (j : Nat) x y, l[j]? = some x → m[j]? = some y → NL x y) : NL (.tup l) (.tup m)
  | sl (sz : Nat) (l m : List (List AV)) (h : l.length = m.length) (hl : ∀ (i : Nat) e e', l[i]? = some e → m[i]? = some e' → e.length = e'.length) (hh : ∀ (i : Nat) e e', l[i]? = some e → m[i]? = some e' → ∀ (j : Nat) x y, e[j]? = some x → e'[j]? = some y → NL x y) : NL (.sl sz l) (.sl sz m)
theorem get_of_len {α β : Type} {l : List α} {m : List β} (h : l.length = m.length) {j : Nat} {y : β} (hy : m[j]? = some y) : ∃ x, l[j]? = some x := by
  have := (List.getElem?_eq_some_iff.1 hy).1
  exact ⟨_, List.getElem?_eq_getElem (by omega)⟩
theorem NL.im {U : Nat → Prop} {w : World} {a b : AV} (h : NL a b) : ∀ {v : Value}, Im U w a v → Im U w b v := by
  induction h with
  | refl a => intro v h; exact h
  | nil sz => intro v h; cases h; exact .slnil sz
  | agg l m hl hh ih =>
    intro v h
    cases h with
    | agg l cs hc h =>
      refine .agg m cs (by omega) fun j y c hy hc2 => ?_
      obtain ⟨x, hx⟩ := get_of_len hl hy
      exact ih j x y hx hy (h j x c hx hc2)
  | tup l m hl hh ih =>
    intro v h
    cases h with
    | tup l cs hc h =>
      refine .tup m cs (by omega) fun j y c hy hc2 => ?_
      obtain ⟨x, hx⟩ := get_of_len hl hy
      exact ih j x y hx hy (h j x c hx hc2)
  | sl sz l m hl hlen hh ih =>
    intro v h
    cases h with
    | slnil =>
      have : m = [] := List.eq_nil_of_length_eq_zero (by rw [← hl]; rfl)
      subst this
      exact .slnil sz
    | sl sz l a cap f hcap hm hu hsz hc h =>
      rw [hl]
      refine .sl sz m a cap f (by omega) hm (fun hne => hu (fun e => hne (List.eq_nil_of_length_eq_zero (by rw [← hl, e]; rfl)))) (fun e he => ?_) (fun i hi => hc i (by omega)) (fun i e' he' j y hy => ?_)
      · obtain ⟨i, hi, rfl⟩ := List.getElem_of_mem he
        obtain ⟨x, hx⟩ := get_of_len hl (List.getElem?_eq_getElem hi)
        rw [← hlen i x _ hx (List.getElem?_eq_getElem hi)]
        exact hsz x (List.mem_of_getElem? hx)
      · obtain ⟨e, he⟩ := get_of_len hl he'
        obtain ⟨x, hx⟩ := get_of_len (hlen i e e' he he') hy
        exact ih i e e' he he' j x y hx hy (h i e he j x hx)
theorem NL.closed {a b : AV} (h : NL a b) : Closed b → Closed a := by
  induction h with
  | refl a => exact id
  | nil sz => intro _; exact .v _
  | agg l m hl hh ih =>
    intro k
    cases k with
    | agg hk =>
      refine .agg fun x hx => ?_
      obtain ⟨j, hj, rfl⟩ := List.getElem_of_mem hx
      obtain ⟨y, hy⟩ := get_of_len hl.symm (List.getElem?_eq_getElem hj)
      exact ih j _ y (List.getElem?_eq_getElem hj) hy (hk y (List.mem_of_getElem? hy))
  | tup l m hl hh ih =>
    intro k
    cases k with
    | tup hk =>
      refine .tup fun x hx => ?_
      obtain ⟨j, hj, rfl⟩ := List.getElem_of_mem hx
      obtain ⟨y, hy⟩ := get_of_len hl.symm (List.getElem?_eq_getElem hj)
      exact ih j _ y (List.getElem?_eq_getElem hj) hy (hk y (List.mem_of_getElem? hy))
  | sl sz l m => intro _; exact .sl _ _

/-- One result, when no block is one's own any more. -/
def RetV (P : Program) (σ : St) : ResultVar → AV → Prop
  | .tmp t, a => ∃ a', (look σ.sl t).map (cvA σ.hp []) = some a' ∧ NL a' a
  | .cell t T, a => ∃ i l sz, look σ.sl t = some (.ref i 0) ∧ lookB σ.hp i = some (.box l) ∧ TVar P T true sz ∧ l.length = sz ∧ NL (.agg (cvL σ.hp [] l)) a
def RetVs (P : Program) (σ : St) : List ResultVar → List AV → Prop
  | [], [] => True
  | v :: r, a :: s => RetV P σ v a ∧ RetVs P σ r s
  | _, _ => False
theorem RetVs.get {P : Program} {σ : St} : ∀ {rvs : List ResultVar} {as : List AV}, RetVs P σ rvs as → rvs.length = as.length ∧ ∀ (j : Nat) rv a, rvs[j]? = some rv → as[j]? = some a → RetV P σ rv a
  | [], [], _ => ⟨rfl, fun j rv a h => by simp at h⟩
  | v :: r, a :: s, h => by
    obtain ⟨h1, h2⟩ := RetVs.get h.2
    refine ⟨by simp [h1], fun j rv b hj hb => ?_⟩
    cases j with
    | zero => simp at hj hb; subst hj hb; exact h.1
    | succ j => exact h2 j rv b (by simpa using hj) (by simpa using hb)
  | [], _ :: _, h => h.elim
  | _ :: _, [], h => h.elim

/-- What the function's results read as, when no block is one's own any more. -/
def Ret (P : Program) (rs : Array ResultVar) (r : AV) (σ : St) : Prop :=
  (∃ rvs as, rs = rvs.toArray ∧ rvs.length ≠ 1 ∧ RetVs P σ rvs as ∧ r = .tup as) ∨
  (∃ t, rs = #[.tmp t] ∧ (look σ.sl t).map (cvA σ.hp []) = some r) ∨
  (∃ t sz, rs = #[.tmp t] ∧ look σ.sl t = some (.v (.slice none 0 0)) ∧ r = .sl sz []) ∨
  (∃ t u a b, rs = #[.tmp t, .tmp u] ∧ (look σ.sl t).map (cvA σ.hp []) = some a ∧ (look σ.sl u).map (cvA σ.hp []) = some b ∧ r = .tup [a, b]) ∨
  (∃ t T i l, rs = #[.cell t T] ∧ look σ.sl t = some (.ref i 0) ∧ lookB σ.hp i = some (.box l) ∧ r = .agg (cvL σ.hp [] l))

def retQ (P : Program) (rs : Array ResultVar) (r : AV) : Exit → St → Prop
  | .ret, σ => Ret P rs r σ
  | .normal, σ => Ret P rs r σ
  | _, _ => False

theorem ret_tmp {P : Program} {t : Nat} {r r' : AV} {σ : St} (h : (look σ.sl t).map (cvA σ.hp []) = some r') (e : r' = r) : retQ P #[.tmp t] r .ret σ := .inr (.inl ⟨t, rfl, e ▸ h⟩)
theorem ret_vs {P : Program} {rs : List ResultVar} {vs : List AV} {r : AV} {σ : St} (hn : (Nat.beq rs.length 1) = false) (h : RetVs P σ rs vs) (e : .tup vs = r) : retQ P rs.toArray r .ret σ := .inl ⟨rs, vs, rfl, (fun h => by rw [h] at hn; cases hn), h, e.symm⟩
theorem retv_tmp {P : Program} {t : Nat} {a' a : AV} {σ : St} (h : (look σ.sl t).map (cvA σ.hp []) = some a') (e : NL a' a) : RetV P σ (.tmp t) a := ⟨a', h, e⟩
theorem retv_cell {P : Program} {t T i sz : Nat} {l : List AV} {a : AV} {σ : St} [tv : TVar P T true sz] (h : look σ.sl t = some (.ref i 0)) (hb : lookB σ.hp i = some (.box l)) (hl : l.length = sz) (e : NL (.agg (cvL σ.hp [] l)) a) : RetV P σ (.cell t T) a := ⟨i, l, sz, h, hb, tv, hl, e⟩
theorem ret_tmp3 {P : Program} {t u v : Nat} {a b c r : AV} {σ : St} (h : (look σ.sl t).map (cvA σ.hp []) = some a) (h2 : (look σ.sl u).map (cvA σ.hp []) = some b) (h3 : (look σ.sl v).map (cvA σ.hp []) = some c) (e : .tup [a, b, c] = r) : retQ P #[.tmp t, .tmp u, .tmp v] r .ret σ :=
  ret_vs (rs := [.tmp t, .tmp u, .tmp v]) (vs := [a, b, c]) rfl ⟨⟨a, h, .refl _⟩, ⟨b, h2, .refl _⟩, ⟨c, h3, .refl _⟩, trivial⟩ e
/-- A struct and a number. -/
theorem ret_ct {P : Program} {t T i u sz : Nat} {l : List AV} {a b b' r : AV} {σ : St} [tv : TVar P T true sz] (h : look σ.sl t = some (.ref i 0)) (hb : lookB σ.hp i = some (.box l)) (hl : Nat.beq l.length sz = true) (na : NL (.agg (cvL σ.hp [] l)) a) (h2 : (look σ.sl u).map (cvA σ.hp []) = some b') (nb : NL b' b) (e : .tup [a, b] = r) : retQ P #[.cell t T, .tmp u] r .ret σ :=
  ret_vs (rs := [.cell t T, .tmp u]) (vs := [a, b]) rfl ⟨⟨i, l, sz, h, hb, tv, Nat.eq_of_beq_eq_true hl, na⟩, ⟨b', h2, nb⟩, trivial⟩ e
theorem ret_tmp2 {P : Program} {t u : Nat} {a b r : AV} {σ : St} (h : (look σ.sl t).map (cvA σ.hp []) = some a) (h2 : (look σ.sl u).map (cvA σ.hp []) = some b) (e : .tup [a, b] = r) : retQ P #[.tmp t, .tmp u] r .ret σ := .inr (.inr (.inr (.inl ⟨t, u, a, b, rfl, h, h2, e.symm⟩)))
theorem ret_nil {P : Program} {t sz : Nat} {r : AV} {σ : St} (h : look σ.sl t = some (.v (.slice none 0 0))) (e : .sl sz [] = r) : retQ P #[.tmp t] r .ret σ := .inr (.inr (.inl ⟨t, sz, rfl, h, e.symm⟩))
theorem ret_cell {P : Program} {t T i : Nat} {l : List AV} {r : AV} {σ : St} (h : look σ.sl t = some (.ref i 0)) (h2 : lookB σ.hp i = some (.box l)) (e : .agg (cvL σ.hp [] l) = r) : retQ P #[.cell t T] r .ret σ := .inr (.inr (.inr (.inr ⟨t, T, i, l, rfl, h, h2, e.symm⟩)))

section rules
variable {P : Program} {E : Env} {n : Nat} {ops : Array Oper} {rest : List Oper} {σ : St} {K : St → Prop} {Q : Exit → St → Prop}
variable {d : Nat} {ty : TypeId} {pos : String} {after : Array Edge} {x y : Operand}

theorem fcall_intro {f : Nat} {fn : Func} {code : Code} {args : List AV} {r : AV} {rs : Array ResultVar} (hf : P.funcs[f]? = some fn) (hname : (fn.name == "runtime.NumGoroutine") = false) (hb : fn.body = some code) (hn : fn.ntmps = n) (hrs : fn.results = rs)
    (hargs : Nat.ble args.length n = true) (hcl : closedB r = true) (hcells : ∀ t T, rs = #[.cell t T] → ∃ sz, TVar P T true sz ∧ ∀ l, r = .agg l → l.length = sz)
    (h : (∀ a ∈ args, Rd a) → ∀ E, E.n0 = 0 → AWp P E n code ⟨argSl args 0, 0, []⟩ (retQ P rs r)) : FCall P f args r := by
  subst hn hrs
  have hcl := closedB_spec hcl
  refine ⟨⟨fn, hf, hname, by rw [hb]; rfl⟩, fun X w vs hX hl hvs => ?_⟩
  have hrd : ∀ a ∈ args, Rd a := by
    intro a ha
    obtain ⟨j, hj, rfl⟩ := List.getElem_of_mem ha
    have h2 : j < vs.length := by omega
    exact ⟨X, w, _, hvs j _ _ (List.getElem?_eq_getElem hj) (List.getElem?_eq_getElem h2)⟩
  refine calls_of_wp hf hb ?_
  have hle : args.length ≤ fn.ntmps := Nat.ble_eq ▸ hargs
  have start : Sat ⟨w, X, fun _ => False, fun _ => undef, 0⟩ fn.ntmps ⟨argSl args 0, 0, []⟩ { tmps := vs.toArray ++ Array.replicate (fn.ntmps - vs.toArray.size) undef, defers := [] } w := by
    refine ⟨fun _ => undef, ?_, rfl, ⟨rfl, rfl, rfl, Nat.le_refl _, fun _ _ _ => rfl⟩, fun s x hs => ?_, fun i b hi => ?_, fun i j b b' k hi => ?_, fun i b k hi => ?_, hX, ⟨Nat.le_refl _, fun i hi => ?_⟩⟩
    · simp; omega
    · obtain ⟨_, hx⟩ := look_argSl args 0 s x hs
      rw [Nat.sub_zero] at hx
      have hlt : s < vs.length := by rw [← hl]; exact (List.getElem?_eq_some_iff.1 hx).1
      have hv : vs[s]? = some vs[s] := List.getElem?_eq_getElem hlt
      have e : (vs.toArray ++ Array.replicate (fn.ntmps - vs.toArray.size) undef).getD s undef = vs[s] := by
        rw [Array.getD_eq_getD_getElem?, Array.getElem?_append]
        simp [hlt]
      rw [e]
      refine .im ((hvs s x _ hx hv).mono (fun _ _ _ => rfl) fun k _ hu => ?_)
      rcases hu with hu | ⟨i, b, hi, _⟩
      · exact hu
      · cases hi
    · cases hi
    · cases hi
    · cases hi
    · exact absurd hi (Nat.not_lt_zero _)
  refine wp_mono (h hrd ⟨w, X, fun _ => False, fun _ => undef, 0⟩ rfl _ w start) ?_
  rintro e a w' ⟨σ', hq, θ, hs⟩
  have hbel : Below w.heap.size w w' := ⟨hs.fr.os, hs.fr.tape, hs.fr.output, hs.fr.size, fun k hk => hs.fr.block k hk (fun h => h)⟩
  have hcv := hs.cv (σ' := ⟨mapSl (cvA σ'.hp []) σ'.sl, σ'.nx, []⟩) (Nat.zero_le _) (fun s x' hx => by
    rw [look_mapSl, Option.map_eq_some_iff] at hx
    obtain ⟨x, h1, h2⟩ := hx
    exact ⟨x, h1, h2, .inl (Nat.le_refl _)⟩) (fun i b' hi => by cases hi)
  have toX : ∀ {a : AV} {v : Value}, Closed a → Rel (cx ⟨w, X, fun _ => False, fun _ => undef, 0⟩ θ ⟨mapSl (cvA σ'.hp []) σ'.sl, σ'.nx, []⟩ w') a v → Im X w' a v := fun hc hi => (hc.im hi).mono (fun _ _ _ => rfl) fun k _ hu => .inl hu
  have slot : ∀ {t : Nat} {r : AV}, (look σ'.sl t).map (cvA σ'.hp []) = some r → look (mapSl (cvA σ'.hp []) σ'.sl) t = some r := fun h => by rw [look_mapSl]; exact h
  have fin : Ret P fn.results r σ' → bodyPost P fn (fun e w'' => ∃ v, e = .returned v ∧ Im X w'' r v ∧ Below w.heap.size w w'') .ret a w' := by
    intro hret
    rcases hret with ⟨rvs, as, h1, hn1, hrv, rfl⟩ | ⟨t, h1, h2⟩ | ⟨t, sz, h1, h2, rfl⟩ | ⟨t, u, a1, b1, h1, h2, h3, rfl⟩ | ⟨t, T, i, l, h1, h2, h3, rfl⟩
    · obtain ⟨hlen, hget⟩ := RetVs.get hrv
      have hcls : ∀ a ∈ as, Closed a := by cases hcl with | tup hk => exact hk
      have one : ∀ (rv : ResultVar) (b : AV), Closed b → RetV P σ' rv b → ∃ v, (resOne a.tmps rv).run P w' = .ok v w' ∧ Im X w' b v := by
        intro rv b hb hv
        cases rv with
        | tmp t =>
          obtain ⟨a', h1, h2⟩ := hv
          exact ⟨_, by simp [resOne, Sem.run_pure], h2.im (toX (h2.closed hb) (hcv.slots t a' (slot h1)))⟩
        | cell t T =>
          obtain ⟨i, l, sz, h2, h3, tv, hlsz, hnl⟩ := hv
          obtain ⟨b1, hθ, hv, _⟩ := ref_inv (hs.slots t _ h2)
          obtain ⟨b', arr, T', hθ', hh, hsz, hr⟩ := (hs.owns i _ h3).2
          have hbb : θ i = .pointer (some ⟨b1, 0, none⟩) := hθ
          have hbb' : θ i = .pointer (some ⟨b', 0, none⟩) := hθ'
          rw [hbb] at hbb'
          cases hbb'
          have hh' : w'.heap[b1]? = some (.cells arr T' (0, 0)) := hh
          have sub : (cx ⟨w, X, fun _ => False, fun _ => undef, 0⟩ θ σ' w').sub (cx ⟨w, X, fun _ => False, fun _ => undef, 0⟩ θ ⟨mapSl (cvA σ'.hp []) σ'.sl, σ'.nx, []⟩ w') := ⟨rfl, rfl, fun _ h => h, (fun i b' hi => by cases hi), hs.apart, fun i b k hi hk => (hs.mine i b k hi hk).1, fun i b hi => (hs.owns i b hi).2⟩
          have hload := run_loadVar_agg (P := P) (T := T) (sz := sz) (w := w') (a := ⟨b1, 0, none⟩) (cs := arr.toList) (by rw [Array.length_toList, hsz, hlsz]) (fun j v hj => by rw [addr_add, cell_of_block hh']; simpa using hj)
          refine ⟨.agg arr, by simp [resOne, hv, Sem.run_bind, Sem.run_pure, asAddr, hload], hnl.im (toX (hnl.closed hb) (by
            have := Rel.agg (c := cx ⟨w, X, fun _ => False, fun _ => undef, 0⟩ θ ⟨mapSl (cvA σ'.hp []) σ'.sl, σ'.nx, []⟩ w') (cvL σ'.hp [] l) arr.toList (by rw [cvL_map]; simp [hsz]) (fun j x y hx hy => by
              rw [cvL_map] at hx
              simp only [List.getElem?_map, Option.map_eq_some_iff] at hx
              obtain ⟨u0, hu0, rfl⟩ := hx
              exact cv_rel sub (hr j u0 y hu0 (by simpa using hy)) (.inl (Nat.le_refl _)))
            simpa using this))⟩
      have all : ∀ (m : Nat), m ≤ rvs.length → ∃ vs : List Value, vs.length = m ∧ ∀ (j : Nat) rv v, rvs[j]? = some rv → vs[j]? = some v → (resOne a.tmps rv).run P w' = .ok v w' ∧ ∀ b, as[j]? = some b → Im X w' b v := by
        intro m
        induction m with
        | zero => intro _; exact ⟨[], rfl, fun j rv v _ h => by simp at h⟩
        | succ m ih =>
          intro hm
          obtain ⟨vs, hl, hvs⟩ := ih (by omega)
          have hrvm : rvs[m]? = some rvs[m] := List.getElem?_eq_getElem (by omega)
          have ham : as[m]? = some (as[m]'(by omega)) := List.getElem?_eq_getElem (by omega)
          obtain ⟨v, hv1, hv2⟩ := one rvs[m] (as[m]'(by omega)) (hcls _ (List.getElem_mem _)) (hget m _ _ hrvm ham)
          refine ⟨vs ++ [v], by simp [hl], fun j rv u hj hu => ?_⟩
          by_cases e : j < m
          · rw [List.getElem?_append_left (by omega)] at hu
            exact hvs j rv u hj hu
          · rw [List.getElem?_append_right (by omega), hl] at hu
            have ej : j = m := by
              have := (List.getElem?_eq_some_iff.1 hu).1
              simp at this; omega
            subst ej
            simp at hu
            subst hu
            rw [hrvm] at hj
            cases hj
            exact ⟨hv1, fun b hb => by rw [ham] at hb; cases hb; exact hv2⟩
      obtain ⟨vs, hvl, hvs⟩ := all rvs.length (Nat.le_refl _)
      refine ⟨hs.defers, _, run_results h1 hn1 hvl.symm (fun j rv v hj hv => (hvs j rv v hj hv).1), _, rfl, .tup as vs (by omega) fun j b v hb hv => ?_, hbel⟩
      obtain ⟨rv, hrv2⟩ := get_of_len hlen hb
      exact (hvs j rv v hrv2 hv).2 b hb
    · exact ⟨hs.defers, _, results_tmp h1 _ _ _, _, rfl, toX hcl (hcv.slots t r (slot h2)), hbel⟩
    · exact ⟨hs.defers, _, results_tmp h1 _ _ _, _, rfl, by rw [(hs.slots t _ h2).val]; exact .slnil sz, hbel⟩
    · refine ⟨hs.defers, _, results_tmp2 h1 _ _ _, _, rfl, ?_, hbel⟩
      refine toX hcl (.tup [a1, b1] [_, _] rfl fun j x y hx hy => ?_)
      match j, hx, hy with
      | 0, hx, hy => cases hx; cases hy; exact hcv.slots t _ (slot h2)
      | 1, hx, hy => cases hx; cases hy; exact hcv.slots u _ (slot h3)
    · obtain ⟨b, hθ, hv, _⟩ := ref_inv (hs.slots t _ h2)
      obtain ⟨b', arr, T', hθ', hh, hsz, hr⟩ := (hs.owns i _ h3).2
      have hbb : θ i = .pointer (some ⟨b, 0, none⟩) := hθ
      have hbb' : θ i = .pointer (some ⟨b', 0, none⟩) := hθ'
      rw [hbb] at hbb'
      cases hbb'
      obtain ⟨sz, tv, hlen⟩ := hcells t T h1
      have hlsz := hlen _ rfl
      rw [cvL_map, List.length_map] at hlsz
      have hh' : w'.heap[b]? = some (.cells arr T' (0, 0)) := hh
      have sub : (cx ⟨w, X, fun _ => False, fun _ => undef, 0⟩ θ σ' w').sub (cx ⟨w, X, fun _ => False, fun _ => undef, 0⟩ θ ⟨mapSl (cvA σ'.hp []) σ'.sl, σ'.nx, []⟩ w') := ⟨rfl, rfl, fun _ h => h, (fun i b' hi => by cases hi), hs.apart, fun i b k hi hk => (hs.mine i b k hi hk).1, fun i b hi => (hs.owns i b hi).2⟩
      refine ⟨hs.defers, .agg arr, ?_, _, rfl, toX hcl (by
        have := Rel.agg (c := cx ⟨w, X, fun _ => False, fun _ => undef, 0⟩ θ ⟨mapSl (cvA σ'.hp []) σ'.sl, σ'.nx, []⟩ w') (cvL σ'.hp [] l) arr.toList (by rw [cvL_map]; simp [hsz]) (fun j x y hx hy => by
          rw [cvL_map] at hx
          simp only [List.getElem?_map, Option.map_eq_some_iff] at hx
          obtain ⟨u0, hu0, rfl⟩ := hx
          exact cv_rel sub (hr j u0 y hu0 (by simpa using hy)) (.inl (Nat.le_refl _)))
        simpa using this), hbel⟩
      have hload := run_loadVar_agg (P := P) (T := T) (sz := sz) (w := w') (a := ⟨b, 0, none⟩) (cs := arr.toList) (by rw [Array.length_toList, hsz, hlsz]) (fun j v hj => by rw [addr_add, cell_of_block hh']; simpa using hj)
      rw [Array.getD_eq_getD_getElem?] at hv
      simp [results, h1, hv, Sem.run_bind, Sem.run_pure, asAddr, hload]
  cases e with
  | normal => exact fin hq
  | ret => exact fin hq
  | exit id => exact hq.elim
  | goto l => exact hq.elim
  | panic c => exact hq.elim
  | outgrown => exact hq.elim

theorem FCall.congr {f : Nat} {args : List AV} {r r' : AV} (h : FCall P f args r) (e : r = r') : FCall P f args r' := e ▸ h

theorem aops_le {l : List Oper} {σ' : St} (h : St.le E n σ σ') (k : AOps P E n ops l σ' K) : AOps P E n ops l σ K := fun a w hs => k a w (h a w hs)

/-- An empty row that is no row yet becomes one's own. -/
theorem le_adopt {d e sz : Nat} (hd : look σ.sl d = some (.v (.slice none 0 0))) : St.le E n σ ((σ.new (.row e sz 0 [])).put d (.row σ.nx 0 0)) := by
  rintro a w ⟨θ, h⟩
  have h2 := h.grow (w' := w) (Below.refl _ _) (.slice none 0 0) (.row e sz 0 []) (fun k hk => by cases hk) fun le => ⟨[], ⟨by simp, .inl ⟨by simp [cx, upd_self], rfl⟩⟩, (fun el hel => by cases hel), fun k el hk => by simp at hk⟩
  refine ⟨_, h2.size, h2.defers, h2.fr, fun s x hs => ?_, h2.owns, h2.apart, h2.mine, h2.X, h2.base⟩
  simp only [St.put, look_cons] at hs
  by_cases ed : d = s
  · subst ed
    rw [if_pos rfl] at hs
    cases hs
    have hv := (h.slots d _ hd).val
    rw [hv]
    refine .row _ _ _ _ (by simp [cx, St.new, St.put]) fun e' sz' v' l' hl => ?_
    simp only [cx, St.new, St.put, lookB_cons, if_pos] at hl
    cases hl
    exact ⟨Nat.le_refl _, fun _ => ⟨rfl, by simp [cx, upd_self]⟩⟩
  · rw [if_neg ed] at hs
    exact h2.slots s x hs

/-- Nothing laid is an empty row that nobody writes. -/
theorem le_nil {d sz : Nat} (hd : look σ.sl d = some (.v (.slice none 0 0))) : St.le E n σ (σ.put d (.sl sz [])) := by
  rintro a w ⟨θ, h⟩
  refine ⟨θ, h.size, h.defers, h.fr, fun s x hs => ?_, h.owns, h.apart, h.mine, h.X, h.base⟩
  simp only [St.put, look_cons] at hs
  by_cases ed : d = s
  · subst ed
    rw [if_pos rfl] at hs
    cases hs
    rw [(h.slots d _ hd).val]
    exact .im (.slnil sz)
  · rw [if_neg ed] at hs
    exact h.slots s x hs

/-! ### Operations that make or write memory -/
/-- A call that is handed memory of one's own. -/
structure NCallP (P : Program) (E : Env) (n : Nat) (ops : Array Oper) (o : Oper) (rest : List Oper) (l : List AV) (σ : St) (K : St → Prop) : Prop where
  h : AOps P E n ops (o :: rest) σ K

mutual
def firstOwn : AV → Option Nat
  | .ref i _ | .row i _ _ | .elt i _ _ _ => some i
  | .agg l | .tup l => firstOwnL l
  | _ => none
def firstOwnL : List AV → Option Nat
  | [] => none
  | x :: r => match firstOwn x with
    | some i => some i
    | none => firstOwnL r
end
theorem ncall_lend {f : Nat} {xs : List Operand} {ts : Array TypeId} {d : Nat} {ty : TypeId} {pos : String} {after : Array Edge} {M L l : List AV} {r : AV} (is : List Nat) (hc : FCall P f M r) (hev : evL (evO σ) xs = some l) (hL : cvL σ.hp (dropL is σ.hp) l = L) (hM : L ++ [] = M) (hcl : closedLB L = true) (hfl : flatB r = true) (hd : Nat.blt d n = true)
    (k : AOps P E n ops rest (σ.put d r) K) : NCallP P E n ops ⟨some d, .call ⟨.value (.func f), ⟨xs⟩, ts⟩, ty, pos, after, none⟩ rest l σ K :=
  ⟨aops_q (q_lend is (caps := []) (hM ▸ hc) hev hL hcl hfl fun _ _ _ _ => ⟨[], rfl, rfl, fun j x c hx => by simp at hx⟩) hd k⟩
theorem ncall_frz {o : Oper} {l : List AV} (i : Nat) (h : AOps P E n ops (o :: rest) (σ.frz i) K) : NCallP P E n ops o rest l σ K := ⟨aops_le (le_frz i) h⟩

/-- A number, reckoned first. -/
def lits : List Nat := [0, 1, 2, 3, 4, 5, 6, 7, 8, 9, 10, 11, 12, 13, 14, 15, 16, 17, 18, 19, 20, 21, 22, 23, 24, 25, 26, 27, 28, 29, 30, 31, 32, 33, 34, 35, 36, 37, 38, 39, 40, 41, 42, 43, 44, 45, 46, 47, 48, 49, 50, 51, 52, 53, 54, 55, 56, 57, 58, 59, 60, 61, 62, 63]
def nthN : List Nat → Nat → Option Nat
  | [], _ => none
  | x :: _, 0 => some x
  | _ :: r, k + 1 => nthN r k
theorem nthN_eq : ∀ (l : List Nat) (m : Nat), nthN l m = l[m]?
  | [], m => by simp [nthN]
  | x :: r, 0 => by simp [nthN]
  | x :: r, k + 1 => by simp [nthN, nthN_eq r k]
theorem nthN_lits {m k : Nat} (h : nthN lits m = some k) : k = m := by
  by_cases hm : m < 64
  · have h2 : ∀ j, j < 64 → nthN lits j = some j := by decide
    rw [h2 m hm] at h
    exact (Option.some.inj h).symm
  · rw [nthN_eq, List.getElem?_eq_none (by simp [lits]; omega)] at h
    cases h
/-- A number written out. -/
def natCase (m : Nat) (F : Nat → Prop) : Prop :=
  match nthN lits m with
  | some k => F k
  | none => F m
theorem natCase_spec {m : Nat} {F : Nat → Prop} (h : natCase m F) : F m := by
  unfold natCase at h
  split at h
  · rename_i hk; rw [nthN_lits hk] at h; exact h
  · exact h

def storeP (P : Program) (E : Env) (n : Nat) (ops : Array Oper) (o : Oper) (T : Nat) (x y : Option AV) (rest : List Oper) (σ : St) (K : St → Prop) : Prop :=
  match x, y with
  | some (.ref i off), some av => match lookB σ.hp i with
    | some (.box l) => VarP P T fun _ sz => cond (Nat.beq (cellsA av).length sz && Nat.ble (off + sz) l.length) (FitP σ.hp av (OnesP σ.hp (cellsA av) (AOps P E n ops rest (σ.set i (.box (spliceA l off (cellsA av)))) K))) False
    | _ => False
  | some (.elt i ver k off), some av => match lookB σ.hp i with
    | some (.row e sz ver' l) => SideP (ver = ver' ∧ off < sz) (VarP P T fun ag szT => cond (cond ag false (Nat.beq szT 1)) (cond (closedB av) (OneP σ.hp av (EachP l (k : Int) fun el => AOps P E n ops rest (σ.set i (.row e sz ver (l.set k (el.set off av)))) K)) (NCallP P E n ops o rest [av] σ K)) False)
    | _ => False
  | _, _ => False
def makeP (P : Program) (E : Env) (n : Nat) (ops : Array Oper) (d T : Nat) (x y : Option AV) (rest : List Oper) (σ : St) (K : St → Prop) : Prop :=
  match x, y with
  | some (.v (.int .i64 m)), some (.v (.int .i64 m')) => RowP P T fun e sz bs z => SideP (m = m' ∧ 0 ≤ m ∧ bs * m.toNat ≤ 281474976710656 ∧ m ≤ 9223372036854775807) (natCase σ.nx fun nx => AOps P E n ops rest ((σ.new (.row e sz 0 (List.replicate m.toNat z))).put d (.row nx 0 m.toNat)) K)
  | _, _ => False
def appendP (P : Program) (E : Env) (n : Nat) (ops : Array Oper) (d T : Nat) (x y : Option AV) (rest : List Oper) (σ : St) (K : St → Prop) : Prop :=
  match x, y with
  | some (.row i ver len), some (.sl sz' m) => match lookB σ.hp i with
    | some (.row e sz ver' l) => SideP (ver = ver') (RowP P T fun e' sz2 bs _ => cond (Nat.beq e e' && Nat.beq sz sz2 && Nat.beq sz sz' && Nat.blt 0 sz) (SideP (∀ el ∈ m, ∀ u ∈ el, imOne u) (SideP ((len + m.length) * bs ≤ 140737488355328 ∧ len + m.length ≤ 9223372036854775807)
        (AOps P E n ops rest ((σ.set i (.row e sz (ver + 1) (l ++ m))).put d (.row i (ver + 1) (len + m.length))) K))) False)
    | _ => False
  | some (.row i ver len), some (.row j ver2 len2) => match lookB σ.hp i, lookB σ.hp j with
    | some (.row e sz ver' l), some (.row _ sz' ver2' m) => SideP (ver = ver' ∧ ver2 = ver2') (RowP P T fun e' sz2 bs _ => cond (Nat.beq e e' && Nat.beq sz sz2 && Nat.beq sz sz' && Nat.blt 0 sz) (SideP (∀ el ∈ m, ∀ u ∈ el, imOne u) (SideP ((len + m.length) * bs ≤ 140737488355328 ∧ len + m.length ≤ 9223372036854775807)
        (AOps P E n ops rest ((σ.set i (.row e sz (ver + 1) (l ++ m))).put d (.row i (ver + 1) (len + m.length))) K))) False)
    | _, _ => False
  | some (.v (.slice none 0 0)), some (.sl sz' m) => RowP P T fun e sz bs _ => cond (Nat.beq sz sz' && Nat.blt 0 sz) (SideP (∀ el ∈ m, ∀ u ∈ el, imOne u) (SideP ((0 + m.length) * bs ≤ 140737488355328 ∧ 0 + m.length ≤ 9223372036854775807)
      (natCase σ.nx fun nx => AOps P E n ops rest (((σ.new (.row e sz 0 [])).set nx (.row e sz 1 ([] ++ m))).put d (.row nx 1 (0 + m.length))) K))) False
  | _, _ => False
def mapUpP (P : Program) (E : Env) (n : Nat) (ops : Array Oper) (T : Nat) (x y z : Option AV) (rest : List Oper) (σ : St) (K : St → Prop) : Prop :=
  match x, y, z with
  | some (.mp i), some kav, some av => match lookB σ.hp i, keyOf kav with
    | some (.map m), some k => MapP P T fun t _ => cond (kindB t k && closedB av) (SideP (MapKeys t m) (AOps P E n ops rest (σ.set i (.map (mset m k av))) K)) False
    | _, _ => False
  | _, _, _ => False

def OpP (P : Program) (E : Env) (n : Nat) (ops : Array Oper) (o : Oper) (rest : List Oper) (σ : St) (K : St → Prop) : Prop :=
  match o.dst, o.op with
  | some d, .box T x => cond (Nat.blt d n) (withA (evO σ x) fun av => FitP σ.hp av (natCase σ.nx fun nx => AOps P E n ops rest ((σ.new (.box (cellsA av))).put d (.ref nx 0)) K)) False
  | some d, .alloc T => cond (Nat.blt d n) (ZeroP P T fun l => natCase σ.nx fun nx => AOps P E n ops rest ((σ.new (.box l)).put d (.ref nx 0)) K) False
  | none, .store T x y => storeP P E n ops ⟨o.dst, o.op, o.type, o.pos, o.after, none⟩ T (evO σ x) (evO σ y) rest σ K
  | some d, .makeSlice T x y => cond (Nat.blt d n) (makeP P E n ops d T (evO σ x) (evO σ y) rest σ K) False
  | some d, .makeMap T none => cond (Nat.blt d n) (natCase σ.nx fun nx => AOps P E n ops rest ((σ.new (.map [])).put d (.mp nx)) K) False
  | none, .mapUpdate T x y z => mapUpP P E n ops T (evO σ x) (evO σ y) (evO σ z) rest σ K
  | some d, .call ⟨.builtin .append, ⟨[x, y]⟩, ⟨[T, T']⟩⟩ => cond (Nat.blt d n && Nat.beq T T') (appendP P E n ops d T (evO σ x) (evO σ y) rest σ K) False
  | some d, .call ⟨.value (.func f), ⟨args⟩, _⟩ => cond (Nat.blt d n) (match evL (evO σ) args with
    | some l => cond (closedLB l) (CallP P f (l ++ []) fun av => AOps P E n ops rest (σ.put d av) K) (NCallP P E n ops ⟨o.dst, o.op, o.type, o.pos, o.after, none⟩ rest l σ K)
    | none => False) False
  | some d, .buildSlice T len ⟨parts⟩ => match evP (evO σ) parts with
    | some ps => cond (ps.all fun p => closedB p.2) (cond (Nat.blt d n) (OpV P (.buildSlice T len ⟨parts⟩) (evO σ) σ.hp fun av => AOps P E n ops rest (σ.put d av) K) False) (NCallP P E n ops ⟨o.dst, o.op, o.type, o.pos, o.after, none⟩ rest (ps.map (·.2)) σ K)
    | none => False
  | some d, .slice T x lo hi none => match evO σ x with
    | some (.row i v len) => NCallP P E n ops ⟨o.dst, o.op, o.type, o.pos, o.after, none⟩ rest [.row i v len] σ K
    | _ => cond (Nat.blt d n) (OpV P (.slice T x lo hi none) (evO σ) σ.hp fun av => AOps P E n ops rest (σ.put d av) K) False
  | some d, .makeFunc f ⟨[]⟩ ⟨xs⟩ => cond (Nat.blt d n) (match evL (evO σ) xs with
    | some l => cond (closedLB l) (OpV P (.makeFunc f ⟨[]⟩ ⟨xs⟩) (evO σ) σ.hp fun av => AOps P E n ops rest (σ.put d av) K) (NCallP P E n ops ⟨o.dst, o.op, o.type, o.pos, o.after, none⟩ rest l σ K)
    | none => False) False
  | some d, op => cond (Nat.blt d n) (OpV P op (evO σ) σ.hp fun av => AOps P E n ops rest (σ.put d av) K) False
  | _, _ => False

theorem storeP_sound {T : Nat} (h : storeP P E n ops ⟨none, .store T x y, ty, pos, after, none⟩ T (evO σ x) (evO σ y) rest σ K) : AOps P E n ops (⟨none, .store T x y, ty, pos, after, none⟩ :: rest) σ K := by
  unfold storeP at h
  split at h
  · rename_i hx hy
    split at h
    · rename_i hb
      obtain ⟨⟨ag, sz, tv, h⟩⟩ := h
      obtain ⟨hs, h⟩ := cond_false h
      simp only [Bool.and_eq_true, Nat.beq_eq, Nat.ble_eq] at hs
      obtain ⟨hf, h⟩ := fitP_spec h
      obtain ⟨ho, h⟩ := onesP_spec h
      exact aops_store_ref (ag := ag) (sz := sz) hx hy hb hf ho hs.1 hs.2 h
    · exact h.elim
  · rename_i hx hy
    split at h
    · rename_i e sz ver' l hb
      obtain ⟨⟨rfl, hoff⟩, h⟩ := h
      obtain ⟨⟨ag, szT, tv, h⟩⟩ := h
      obtain ⟨hs, h3⟩ := cond_false h
      clear h
      cases ag with
      | true => cases hs
      | false =>
       have h4 := h3
       clear h3
       cases hcl : closedB _ with
       | false =>
        rw [hcl] at h4
        exact h4.h
       | true =>
        rw [hcl] at h4
        obtain ⟨ho, h⟩ := oneP_spec h4
        obtain ⟨h0, h1, hk⟩ := h
        rename_i k _ _ _
        have hlt : k < l.length := by omega
        have hel : l[k]? = some l[k] := List.getElem?_eq_getElem hlt
        exact aops_store_elt (szT := szT) hx hy hb hel hoff (Nat.eq_of_beq_eq_true hs) hcl ho (hk _ (by rw [Int.toNat_natCast]; exact hel))
    · exact h.elim
  · exact h.elim

theorem opP_sound {o : Oper} (hg : o.guard = none) (h : OpP P E n ops o rest σ K) : AOps P E n ops (o :: rest) σ K := by
  obtain ⟨dst, op, ty, pos, after, guard⟩ := o
  simp only at hg
  subst hg
  have quiet : ∀ {d : Nat} {op : Op}, Nat.blt d n = true → OpV P op (evO σ) σ.hp (fun av => AOps P E n ops rest (σ.put d av) K) → AOps P E n ops (⟨some d, op, ty, pos, after, none⟩ :: rest) σ K := by
    intro d op hd h
    obtain ⟨av, hq, h⟩ := opV_q (E := E) (nx := σ.nx) (ty := ty) h
    exact aops_q hq hd h
  unfold OpP at h
  simp only at h
  split at h
  · rename_i ho
    obtain ⟨hd, h⟩ := cond_false h
    obtain ⟨av, hx, h⟩ := withA_spec h
    obtain ⟨hf, h⟩ := fitP_spec h
    exact aops_box hx hf hd (natCase_spec h)
  · obtain ⟨hd, h⟩ := cond_false h
    obtain ⟨⟨l, tz, h⟩⟩ := h
    exact aops_alloc (l := l) hd (natCase_spec h)
  · exact storeP_sound h
  · obtain ⟨hd, h⟩ := cond_false h
    unfold makeP at h
    split at h
    · rename_i hx hy
      obtain ⟨⟨e, sz, bs, z, ts, tz, tb, hz, h⟩⟩ := h
      obtain ⟨⟨rfl, h0, h1, h2⟩, h⟩ := h
      exact aops_make (e := e) (z := z) (by_ := bs) hx hy h0 h1 h2 hz hd (natCase_spec h)
    · exact h.elim
  · obtain ⟨hd, h⟩ := cond_false h
    exact aops_makeMap hd (natCase_spec h)
  · unfold mapUpP at h
    split at h
    · rename_i hx hy hz
      split at h
      · rename_i hb hk
        obtain ⟨⟨k, e, t, z, tm, h⟩⟩ := h
        obtain ⟨hc, h⟩ := cond_false h
        simp only [Bool.and_eq_true] at hc
        exact aops_mapUpdate (T := _) hx hb hy hk hc.1 h.h hz hc.2 h.k
      · exact h.elim
    · exact h.elim
  · obtain ⟨hd, h3⟩ := cond_false h
    clear h
    have h := h3
    clear h3
    simp only [Bool.and_eq_true, Nat.beq_eq] at hd
    obtain ⟨hd, rfl⟩ := hd
    unfold appendP at h
    split at h
    · rename_i hx hy
      split at h
      · rename_i hb
        obtain ⟨rfl, h⟩ := h
        obtain ⟨⟨e, sz, bs, z, ts, tz, tb, hz, h⟩⟩ := h
        obtain ⟨hc, h3⟩ := cond_false h
        clear h
        simp only [Bool.and_eq_true, Nat.beq_eq, Nat.blt_eq] at hc
        obtain ⟨⟨⟨rfl, rfl⟩, rfl⟩, hpos⟩ := hc
        obtain ⟨him, h⟩ := h3
        obtain ⟨hlen, h⟩ := h
        exact aops_append_row (z := z) (by_ := bs) hx hb hy him hz hpos hlen.1 hlen.2 hd h
      · exact h.elim
    · rename_i hx hy
      split at h
      · rename_i hb hb2
        obtain ⟨⟨rfl, rfl⟩, h⟩ := h
        obtain ⟨⟨e, sz, bs, z, ts, tz, tb, hz, h⟩⟩ := h
        obtain ⟨hc, h3⟩ := cond_false h
        clear h
        simp only [Bool.and_eq_true, Nat.beq_eq, Nat.blt_eq] at hc
        obtain ⟨⟨⟨rfl, rfl⟩, rfl⟩, hpos⟩ := hc
        obtain ⟨him, h⟩ := h3
        obtain ⟨hlen, h⟩ := h
        exact aops_append_rows (z := z) (by_ := bs) hx hb hy hb2 him hz hpos hlen.1 hlen.2 hd h
      · exact h.elim
    · rename_i hx hy
      obtain ⟨⟨e, sz, bs, z, ts, tz, tb, hz, h⟩⟩ := h
      obtain ⟨hc, h3⟩ := cond_false h
      clear h
      simp only [Bool.and_eq_true, Nat.beq_eq, Nat.blt_eq] at hc
      obtain ⟨rfl, hpos⟩ := hc
      obtain ⟨him, h⟩ := h3
      obtain ⟨hlen, h⟩ := h
      exact aops_append_nil (z := z) (by_ := bs) hx hy him hz hpos hlen.1 hlen.2 hd (natCase_spec h)
    · exact h.elim
  · obtain ⟨hd, h⟩ := cond_false h
    split at h
    · rename_i l hl
      cases hc : closedLB l with
      | true =>
        rw [hc] at h
        obtain ⟨⟨r, hr, h⟩⟩ := h
        rw [List.append_nil] at hr
        exact aops_q (q_call hr hl hc) hd h
      | false =>
        rw [hc] at h
        exact h.h
    · exact h.elim
  · split at h
    · rename_i ps hps
      cases hc : ps.all fun p => closedB p.2 with
      | true =>
        rw [hc] at h
        obtain ⟨hd, h⟩ := cond_false h
        exact quiet hd h
      | false =>
        rw [hc] at h
        exact h.h
    · exact h.elim
  · split at h
    · exact h.h
    · obtain ⟨hd, h⟩ := cond_false h
      exact quiet hd h
  · obtain ⟨hd, h⟩ := cond_false h
    split at h
    · rename_i l hl
      cases hc : closedLB l with
      | true =>
        rw [hc] at h
        exact quiet hd h
      | false =>
        rw [hc] at h
        exact h.h
    · exact h.elim
  · obtain ⟨hd, h⟩ := cond_false h
    exact quiet hd h
  · exact h.elim

/-- A guard. -/
structure GuardP (b g : Bool) (A B : Prop) : Prop where
  t : b = g → A
  f : b = (!g) → B
theorem guard_tt {A B : Prop} (k : A) : GuardP true true A B := ⟨fun _ => k, fun h => by cases h⟩
theorem guard_ff {A B : Prop} (k : A) : GuardP false false A B := ⟨fun _ => k, fun h => by cases h⟩
theorem guard_tf {A B : Prop} (k : B) : GuardP true false A B := ⟨(fun h => by cases h), fun _ => k⟩
theorem guard_ft {A B : Prop} (k : B) : GuardP false true A B := ⟨(fun h => by cases h), fun _ => k⟩
theorem guard_dt {p A B : Prop} [Decidable p] (h1 : p → A) (h2 : ¬ p → B) : GuardP (decide p) true A B := ⟨fun h => h1 (of_decide_eq_true h), fun h => h2 (of_decide_eq_false h)⟩
theorem guard_df {p A B : Prop} [Decidable p] (h1 : ¬ p → A) (h2 : p → B) : GuardP (decide p) false A B := ⟨fun h => h1 (of_decide_eq_false h), fun h => h2 (of_decide_eq_true h)⟩
theorem guard_bt {b : Bool} {A B : Prop} (h1 : b = true → A) (h2 : b = false → B) : GuardP b true A B := ⟨h1, h2⟩
theorem guard_bf {b : Bool} {A B : Prop} (h1 : b = false → A) (h2 : b = true → B) : GuardP b false A B := ⟨h1, h2⟩

theorem guard_ndt {p A B : Prop} [Decidable p] (h1 : ¬ p → A) (h2 : p → B) : GuardP (!decide p) true A B := ⟨fun h => h1 (by simpa using h), fun h => h2 (by simpa using h)⟩
theorem guard_ndf {p A B : Prop} [Decidable p] (h1 : p → A) (h2 : ¬ p → B) : GuardP (!decide p) false A B := ⟨fun h => h1 (by simpa using h), fun h => h2 (by simpa using h)⟩
theorem guard_nbt {b : Bool} {A B : Prop} (h1 : b = false → A) (h2 : b = true → B) : GuardP (!b) true A B := ⟨fun h => h1 (by simpa using h), fun h => h2 (by simpa using h)⟩
theorem guard_nbf {b : Bool} {A B : Prop} (h1 : b = true → A) (h2 : b = false → B) : GuardP (!b) false A B := ⟨fun h => h1 (by simpa using h), fun h => h2 (by simpa using h)⟩

def GoP (P : Program) (E : Env) (n : Nat) (ops : Array Oper) (l : List Oper) (σ : St) (K : St → Prop) : Prop :=
  match l with
  | [] => K σ
  | ⟨dst, op, ty, pos, after, none⟩ :: rest => OpP P E n ops ⟨dst, op, ty, pos, after, none⟩ rest σ K
  | ⟨some dd, op, ty, pos, after, some (j, g)⟩ :: rest => match (ops[j]?).bind (·.dst) with
    | some dj => cond (Nat.blt dd n) (match look σ.sl dj with
      | some (.v (.bool b)) => GuardP b g (AOps P E n ops (⟨some dd, op, ty, pos, after, none⟩ :: rest) (σ.put dj (.v (.bool g))) K)
          (AOps P E n ops rest ((σ.put dj (.v (.bool !g))).put dd (.v undef)) K)
      | some (.v (.tuple t)) => AOps P E n ops rest (σ.put dd (.v undef)) K
      | _ => False) False
    | none => False
  | ⟨none, _, _, _, _, some _⟩ :: _ => False

theorem aops_go {l : List Oper} (h : GoP P E n ops l σ K) : AOps P E n ops l σ K := by
  unfold GoP at h
  split at h
  · exact aops_nil h
  · exact opP_sound rfl h
  · split at h
    · rename_i dj hj
      obtain ⟨hdd, h⟩ := cond_false h
      split at h
      · rename_i b hb
        exact aops_guard_b hj hb hdd h.t h.f
      · rename_i t hb
        exact aops_guard_no hj hb rfl hdd h
      · exact h.elim
    · exact h.elim
  · exact h.elim

/-- A loop waits for its relation. -/
structure LoopP (P : Program) (E : Env) (n : Nat) (c : Code) (σ : St) (Q : Exit → St → Prop) : Prop where
  h : AWp P E n (.loop c) σ Q
/-- A region that draws its order. -/
structure DrawP (P : Program) (E : Env) (n : Nat) (id : Nat) (ops : Array Oper) (σ : St) (Q : Exit → St → Prop) : Prop where
  h : AWp P E n (.region id ops true) σ Q

def CodeP (P : Program) (E : Env) (n : Nat) (c : Code) (σ : St) (Q : Exit → St → Prop) : Prop :=
  match c with
  | .seq a b => AWp P E n a σ (thenQ (fun σ' => AWp P E n b σ' Q) Q)
  | .region _ ops false => AOps P E n ops ops.toList σ (fun σ' => Q .normal σ')
  | .region id ops true => DrawP P E n id ops σ Q
  | .skip => Q .normal σ
  | .ret => Q .ret σ
  | .exit i => Q (.exit i) σ
  | .block id c => AWp P E n c σ (blockQ id Q)
  | .cond (.tmp t) a b => match look σ.sl t with
    | some (.v (.bool c)) => CondP c (AWp P E n a (σ.put t (.v (.bool true))) Q) (AWp P E n b (σ.put t (.v (.bool false))) Q)
    | _ => False
  | .cond (.const (.bool true)) a b => AWp P E n a σ Q
  | .cond (.const (.bool false)) a b => AWp P E n b σ Q
  | .loop c => LoopP P E n c σ Q
  | _ => False

theorem awp_go {c : Code} (h : CodeP P E n c σ Q) : AWp P E n c σ Q := by
  unfold CodeP at h
  split at h
  · exact awp_seq h
  · exact awp_region rfl h
  · exact h.h
  · exact awp_skip h
  · exact awp_ret h
  · exact awp_exit h
  · exact awp_block h
  · split at h
    · rename_i hc; exact awp_cond_b hc h.t h.f
    · exact h.elim
  · exact awp_cond_t rfl h
  · exact awp_cond_f rfl h
  · exact h.h
  · exact h.elim

theorem loop_i {ι : Type} {c : Code} (S : ι → St) (I : ι → Prop) (m : ι → Nat) (x0 : ι) (hI : I x0) (h0 : St.le E n σ (S x0))
    (h : ∀ x, I x → AWp P E n c (S x) (thenQ (fun σ' => ∃ y, I y ∧ m y < m x ∧ St.le E n σ' (S y)) Q)) : LoopP P E n c σ Q := ⟨awp_loop S I m x0 hI h0 h⟩
end rules
end Go.Av

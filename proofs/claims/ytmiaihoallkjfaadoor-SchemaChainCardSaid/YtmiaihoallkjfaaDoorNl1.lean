/- Nothing laid is an empty row: in arguments of calls, and in rows of one's own. -/
import Derived.Test.YtmiaihoallkjfaaDoorAvTy
namespace Go.Proofs.YtmiaihoallkjfaaDoor
open Go Go.Av
attribute [local irreducible] AWp AOps AAny MAny DQ retQ retG St.le FCall GCall
set_option linter.unusedVariables false
set_option linter.unnecessarySimpa false
set_option linter.unusedSimpArgs false
set_option maxRecDepth 100000

def NLs : List AV → List AV → Prop
  | [], [] => True
  | x :: r, y :: s => NL x y ∧ NLs r s
  | _, _ => False
def NLss : List (List AV) → List (List AV) → Prop
  | [], [] => True
  | x :: r, y :: s => NLs x y ∧ NLss r s
  | _, _ => False
theorem NLs.get : ∀ {l m : List AV}, NLs l m → l.length = m.length ∧ ∀ (j : Nat) x y, l[j]? = some x → m[j]? = some y → NL x y
  | [], [], _ => ⟨rfl, fun j x y h => by simp at h⟩
  | a :: r, b :: s, h => by
    obtain ⟨h1, h2⟩ := NLs.get h.2
    refine ⟨by simp [h1], fun j x y hx hy => ?_⟩
    cases j with
    | zero => simp at hx hy; subst hx hy; exact h.1
    | succ j => exact h2 j x y (by simpa using hx) (by simpa using hy)
  | [], _ :: _, h => h.elim
  | _ :: _, [], h => h.elim
theorem NLss.get : ∀ {l m : List (List AV)}, NLss l m → l.length = m.length ∧ ∀ (i : Nat) e e', l[i]? = some e → m[i]? = some e' → NLs e e'
  | [], [], _ => ⟨rfl, fun j x y h => by simp at h⟩
  | a :: r, b :: s, h => by
    obtain ⟨h1, h2⟩ := NLss.get h.2
    refine ⟨by simp [h1], fun j x y hx hy => ?_⟩
    cases j with
    | zero => simp at hx hy; subst hx hy; exact h.1
    | succ j => exact h2 j x y (by simpa using hx) (by simpa using hy)
  | [], _ :: _, h => h.elim
  | _ :: _, [], h => h.elim
theorem NLs.refl : ∀ (l : List AV), NLs l l
  | [] => trivial
  | x :: r => ⟨.refl x, NLs.refl r⟩
theorem NLss.refl : ∀ (l : List (List AV)), NLss l l
  | [] => trivial
  | x :: r => ⟨NLs.refl x, NLss.refl r⟩
theorem nl_agg {l m : List AV} (h : NLs l m) : NL (.agg l) (.agg m) := .agg l m h.get.1 h.get.2
theorem nl_sl {sz : Nat} {l m : List (List AV)} (h : NLss l m) : NL (.sl sz l) (.sl sz m) :=
  .sl sz l m h.get.1 (fun i e e' he he' => (h.get.2 i e e' he he').get.1) (fun i e e' he he' => (h.get.2 i e e' he he').get.2)
/-- A contract serves for arguments that say less. -/
theorem fcall_nl {P : Program} {f : Nat} {l l' : List AV} {r : AV} (h : FCall P f l r) (hn : NLs l' l) : FCall P f l' r := by
  obtain ⟨h1, h2⟩ := hn.get
  unfold FCall at h ⊢
  refine ⟨h.1, fun X w vs hX hl hv => h.2 X w vs hX (by omega) fun j a v ha hv2 => ?_⟩
  obtain ⟨x, hx⟩ := get_of_len h1 ha
  exact (h2 j x a hx ha).im (hv j x v hx hv2)
/-- A row of one's own says the same with empty rows for nothing laid. -/
theorem le_nl {E : Env} {n : Nat} {σ : St} (i : Nat) {e sz v : Nat} {l : List (List AV)} (l' : List (List AV)) (hb : lookB σ.hp i = some (.row e sz v l)) (hn : NLss l l') : St.le E n σ (σ.set i (.row e sz v l')) := by
  unfold St.le
  rintro a w ⟨θ, h⟩
  obtain ⟨hlen, hel⟩ := hn.get
  obtain ⟨_, xs, ho, hsz, him⟩ := h.owns i _ hb
  have hsl : ∃ x m c, θ i = .slice x m c := by
    rcases ho.2 with ⟨h1, _⟩ | ⟨g, cap, cur, h1, _⟩
    · exact ⟨_, _, _, h1⟩
    · exact ⟨_, _, _, h1⟩
  have ht := h.turn (v' := θ i) (b' := .row e sz v l') (w' := w) hb rfl rfl rfl (Nat.le_refl _) (fun _ _ _ => rfl) (fun k hk => .inl hk) ⟨hsl, e, v, l, rfl, .inr ⟨rfl, hlen, rfl⟩⟩ fun le => ?_
  · exact ⟨_, ht⟩
  · refine ⟨xs, ?_, fun e' he' => ?_, fun k el' hk j x hx => ?_⟩
    · simp only [cx, upd_self]
      rw [← hlen]
      exact ho
    · obtain ⟨k, hk, rfl⟩ := List.getElem_of_mem he'
      obtain ⟨x, hx⟩ := get_of_len hlen (List.getElem?_eq_getElem hk)
      rw [← (hel k x _ hx (List.getElem?_eq_getElem hk)).get.1]
      exact hsz x (List.mem_of_getElem? hx)
    · obtain ⟨el, hk0⟩ := get_of_len hlen hk
      obtain ⟨q1, q2⟩ := (hel k el el' hk0 hk).get
      obtain ⟨x0, hx0⟩ := get_of_len q1 hx
      obtain ⟨y, hy, hi⟩ := him k el hk0 j x0 hx0
      exact ⟨y, hy, (q2 j x0 x hx0 hx).im (hi.mono le.heap le.U)⟩
end Go.Proofs.YtmiaihoallkjfaaDoor

/- A law's contract out of a call, where strings that come in are no longer than memory. -/
import Derived.Test.YtghlhejdfgkjaaaGreatDoorE3
import Derived.SizedLaws
namespace Go.Av
open Go Go.RowKit
set_option linter.unusedSimpArgs false
set_option linter.unusedVariables false
set_option linter.unnecessarySimpa false
section
variable {H : Type} {enc : TypeId × Value → H} {P : Program} {w : World} {base : Nat} {spare : Nat → Bool} {held : Bool}
theorem trod_str {fuel : Nat} {t : TypeId} {z : ByteArray} {y : DataW H × List MemPlace} (ht : P.underlying t = some .string) (h : DataW.trod enc P w base spare held fuel t [.string z] = some y) : y.1 = .lit (.string z.data.toList) := by
  cases fuel with
  | zero => simp [DataW.trod] at h
  | succ f =>
    simp only [DataW.trod, ht] at h
    split at h
    · cases h; rfl
    · cases h
theorem trodAll_at : ∀ {ts : List TypeId} {vs : List Value} {ds : List (DataW H)} {ps : List MemPlace}, DataW.TrodAll enc P w base spare held ts vs ds ps → ∀ {j : Nat} {t : TypeId} {v : Value}, ts[j]? = some t → vs[j]? = some v → ∃ d p, ds[j]? = some d ∧ DataW.Trod enc P w base spare held t v d p
  | [], [], [], ps, _, j, t, v, ht, _ => by simp at ht
  | [], [], _ :: _, ps, h, _, _, _, _, _ => h.elim
  | [], _ :: _, _, ps, h, _, _, _, _, _ => h.elim
  | _ :: _, [], _, ps, h, _, _, _, _, _ => h.elim
  | _ :: _, _ :: _, [], ps, h, _, _, _, _, _ => h.elim
  | t0 :: ts, v0 :: vs, d0 :: ds, ps, h, j, t, v, ht, hv => by
    obtain ⟨p, q, h1, h2, _⟩ := h
    cases j with
    | zero => simp at ht hv; subst ht hv; exact ⟨d0, p, rfl, h1⟩
    | succ j => exact trodAll_at h2 (j := j) (by simpa using ht) (by simpa using hv)
/-- Strings that came in are no longer than memory. -/
def StrB (P : Program) (ts : List TypeId) (l : List AV) : Prop := ∀ (j : Nat) t s, ts[j]? = some t → P.underlying t = some .string → l[j]? = some (.str s) → s.length ≤ 140737488355328
theorem law_postS {f : Nat} {fn : Func} {s : ChangeSpec} {tb : TypeId} {handsOn : Bool} {W : World} {args : Array Value} {ds gs : List (DataW H)} {before : List MemPlace} {b0 : Nat} {r : Reach} {vt : List TypeId}
    (hl : laidOutB P = true) (hr : (fn.params.toList.all fun t => P.readableRec t && decide (t < P.types.size)) = true) (htb : P.underlying tb = some .bool) (hrt : fn.resultTypes = #[tb])
    (hvars : s.vars = []) (hs : ∀ ds : List (DataW H), ds.length = fn.params.toList.length → s.fn H (ds ++ []) = { results := [.lit (.bool true)], args := ds })
    (hcall : ∀ l, AShapes P fn.params.toList l → StrB P fn.params.toList l → FCall P f l (.b true))
    (htab : TabOk noU W) (hval : ∀ (j : Nat) t v, fn.params[j]? = some t → args[j]? = some v → Value.okWide P W r b0 t v)
    (hW : DataW.Whole enc P fn.params.toList s.vars false W args.toList ds gs before)
    (hsz : (DataW.weightsEach P (fn.params.toList ++ vt) (ds ++ gs)).all (· ≤ reachBytes) = true) :
    Calls P f args W fun e W' => ∃ v, e = .returned v ∧ s.post enc P fn false true handsOn false W args v W' := by
  have hW0 := hW
  obtain ⟨p, q, hA, hV, rfl, hfz, hnd⟩ := hW
  obtain ⟨hdl, l, hsh, hll, him⟩ := trod_args (r := r) (b0 := b0) (fun j t v ht hv => hval j t v (by simpa using ht) (by simpa using hv)) hA
  have hlt : ∀ x ∈ p ++ q, x.block < W.heap.size := fun x hx => hW0.lt x hx
  rw [hvars] at hV
  obtain ⟨rfl, rfl⟩ : gs = [] ∧ q = [] := by
    cases gs with
    | nil => exact ⟨rfl, hV⟩
    | cons a b => exact hV.elim
  have hb : StrB P fn.params.toList l := fun j t z ht hu hz => by
    obtain ⟨v, hv⟩ := get_of_len hll.symm hz
    have hi := him j _ _ hz hv
    cases hi with
    | str =>
      obtain ⟨d, p, hd, fuel, htr⟩ := trodAll_at hA ht hv
      have e := trod_str (z := ⟨z.toArray⟩) hu htr
      dsimp only at e
      have hb := sized_string hsz (j := j) (t := t) (bytes := z) (by rw [List.getElem?_append_left (List.getElem?_eq_some_iff.1 ht).1]; exact ht) (by rw [List.append_nil, hd, e])
      have := reachBytes_lt
      omega
  have hc := (hcall l hsh hb).2 noU W args.toList (fun k hk => hk.elim) htab hll him
  have ea : args.toList.toArray = args := by simp
  rw [ea] at hc
  refine hc.mono fun e W' ⟨v, he, hi, hb⟩ => ?_
  subst he
  cases hi
  refine ⟨_, rfl, ds, [], p ++ [], [], p, [], hW0, ?_, ?_, ?_, ?_, fun h => by cases h⟩
  · rw [hrt, hs ds hdl]
    exact ⟨[], [], shut_bool htb true, rfl, rfl⟩
  · rw [hs ds hdl]
    exact trod_stay hl hb hr (fun x hx => hlt x (by simp [hx])) hA
  · rw [hvars, hs ds hdl]
    rfl
  · exact Below.frame hb _
end
end Go.Av

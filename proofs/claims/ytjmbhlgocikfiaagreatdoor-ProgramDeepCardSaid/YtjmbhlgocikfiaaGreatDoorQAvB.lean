/- Builders of strings: boxes of a type of their own, and what is unsafe in them. -/
import Derived.Test.YtjmbhlgocikfiaaGreatDoorQE3
import Derived.Lib.Builder
import Derived.Lib.UnsafeStr
namespace Go.Av
open Go Go.RowKit
set_option linter.unusedVariables false
set_option linter.unusedSimpArgs false
section
variable {P : Program} {E : Env} {n : Nat} {ops : Array Oper} {rest : List Oper} {σ : St} {K : St → Prop} {d : Nat} {ty : TypeId} {pos : String} {after : Array Edge} {x y : Operand} {L : List AV}
theorem aops_allocT {T : TypeId} {l : List Value} [tz : TZero P T l] (hd : Nat.blt d n = true)
    (k : AOps P E n ops rest ((σ.new (.bx (T + 1) (l.map ofV))).put d (.ref σ.nx 0)) K) : AOps P E n ops (⟨some d, .alloc T, ty, pos, after, none⟩ :: rest) σ K :=
  aops_new hd (fun θ a w h => by
    obtain ⟨i, z, h1, h2, h3⟩ := tz.out
    refine ⟨.pointer (some ⟨w.heap.size, 0, none⟩), .pointer (some ⟨w.heap.size, 0, none⟩), w.alloc (.cells l.toArray T), by simp [execOp, Instr.alloc, newVar, Sem.run_bind, run_zeroValue h1 h2, h3, run_newRow], below_alloc _ _, fp_new, fun le => ?_⟩
    refine ⟨⟨w.heap.size, l.toArray, ⟨T, .inr rfl⟩, by simp [cx, upd_self], heap_alloc_new w _, by simp, fun j u z hu hz => ?_⟩, .ref _ _ _ (by simp [cx, St.new]) (by simp [cx, upd_self])⟩
    simp at hu hz
    obtain ⟨v, hv, rfl⟩ := hu
    rw [hz] at hv
    cases hv
    exact .im (ofV_im _)) k
theorem ncall_usd {i ver len e : Nat} {T : Nat} {l : List (List AV)} (hx : evO σ x = some (.row i ver len)) (hb : lookB σ.hp i = some (.row e 1 ver l)) (h0 : l ≠ []) (hd : Nat.blt d n = true)
    (k : AOps P E n ops rest (σ.put d (.elt i ver 0 0)) K) : NCallP P E n ops ⟨some d, .call ⟨.builtin .unsafeSliceData, ⟨[x]⟩, ⟨[T]⟩⟩, ty, pos, after, none⟩ rest L σ K :=
  ⟨aops_q (q_pure fun _ _ _ θ a w h => by
    obtain ⟨hl, hv, hnx⟩ := row_inv (h.rel hx) hb
    obtain ⟨xs, hown, _⟩ := h.row hb
    rcases hown.2 with ⟨_, hn⟩ | ⟨g, cap, cur, hθ, _, _, hc, _⟩
    · exact absurd (List.eq_nil_of_length_eq_zero hn) h0
    · have hpos : 0 < l.length := List.length_pos_iff.2 h0
      refine ⟨.pointer (some ⟨g, 0, none⟩), ?_, .elt i ver 0 0 _ hnx fun e2 sz2 v2 l2 hl2 => ?_⟩
      · rw [run_builtin1, hv, show (kx E θ σ.nx σ.hp w).θ i = θ i from rfl, hθ]
        simp [builtin, Lib.run_unsafeSliceData_row w _ _ _ _ _ (by omega : cap ≠ 0), Sem.run_bind, Sem.run_pure]
      · have : lookB σ.hp i = some (.row e2 sz2 v2 l2) := hl2
        rw [hb] at this
        cases this
        exact ⟨Nat.le_refl _, fun _ => ⟨g, _, cap, hθ, by simp⟩⟩) hd k⟩
theorem ncall_us {i ver e m : Nat} {T T2 : Nat} {s : List UInt8} (hx : evO σ x = some (.elt i ver 0 0)) (hy : evO σ y = some (.i m)) (hb : lookB σ.hp i = some (.row e 1 ver (byt s))) (hm : s.length = m) (h0 : s ≠ []) (hbe : e < bigE)
    (ht : P.underlying T = some (.pointer e)) (hc : P.cellsOf e = 1) (hd : Nat.blt d n = true)
    (k : AOps P E n ops rest ((σ.set i (.row e 1 (ver + 1) [])).put d (.str s)) K) : NCallP P E n ops ⟨some d, .call ⟨.builtin .unsafeString, ⟨[x, y]⟩, ⟨[T, T2]⟩⟩, ty, pos, after, none⟩ rest L σ K := by
  refine ⟨?_⟩
  intro a w ⟨θ, hs⟩
  subst hm
  have h := hs.evT
  obtain ⟨g, m, cap, hθ, hv, hnx⟩ := elt_inv (h.rel hx) hb
  have hyv := (h.rel hy).val
  obtain ⟨xs, hown0, _, hr⟩ := h.row hb
  have hown := hown0.row hbe
  rcases hown.2 with ⟨hn, _⟩ | ⟨g', cap', cur, hv', _, hg, hc1, hc2, hc3, hc4⟩
  · rw [show (kx E θ σ.nx σ.hp w).θ i = θ i from rfl] at *
    rw [hn] at hθ; cases hθ
  · have hθ' : θ i = .slice (some ⟨g, 0, none⟩) m cap := hθ
    rw [hθ'] at hv'
    cases hv'
    have hbl : (byt s).length = s.length := by simp [byt]
    have hcell : ∀ (j : Nat) z, s[j]? = some z → w.cell? ((⟨g, 0, none⟩ : Addr).add j) = some (.int .u8 z.toNat) := by
      intro j z hz
      obtain ⟨y', hy', him⟩ := hr j [.v (.int .u8 z.toNat)] (by simp [byt, hz]) 0 _ rfl
      cases him
      have hown' := hown
      rw [hθ'] at hown'
      exact hown'.cells (g := g) rfl j _ (by simpa using hy')
    have hsl : s.length ≤ cur.size := by rw [hc3]; omega
    have hrun := Lib.run_unsafeString_row (P := P) w T T2 ty e ht hc g cur.size (by simp [World.shape?, hg]) s h0 hsl (by unfold maxLen at hc2; omega) hcell
    have hex : (execOp a.eval ⟨some d, .call ⟨.builtin .unsafeString, #[x, y], #[T, T2]⟩, ty, pos, after, none⟩).run P w = .ok (.value (.string ⟨s.toArray⟩)) (w.freeze ⟨g, 0, none⟩ s.length) := by
      rw [run_builtin2, hv, hyv]
      simp only [Nat.zero_mul, Nat.add_zero]
      simp [builtin, hrun, Sem.run_bind, Sem.run_pure]
    unfold wpList
    rw [if_pos (by simp [Region.wanted])]
    left
    have hlt : g < w.heap.size := (Array.getElem?_eq_some_iff.1 hg).1
    have hf := Lib.below_freeze (B := g) (Below.refl g w) (p := ⟨g, 0, none⟩) (Nat.le_refl _) s.length
    have hfz : ∀ k, k ≠ g → (w.freeze ⟨g, 0, none⟩ s.length).heap[k]? = w.heap[k]? := by
      intro k hk
      unfold World.freeze
      split
      · rfl
      · simp only [Array.getElem?_modify]
        rw [if_neg (fun e => hk e.symm)]
    simp only [Oper.wp, hex, Oper.upon]
    have ht2 := hs.turn (hkp := fun _ _ _ _ h hk _ => by cases h; unfold bigE at hbe; unfold keepE at hk; omega) (b' := .row e 1 (ver + 1) []) (v' := .slice none 0 0) (w' := w.freeze ⟨g, 0, none⟩ s.length) hb hf.os hf.tape hf.output hf.size (fun k _ hne => hfz k fun e => hne (by rw [hθ', e]; rfl)) (fun k hk => by cases hk)
      ⟨⟨_, _, _, hθ'⟩, e, ver, _, rfl, .inl (Nat.lt_succ_self _)⟩ (fun le => ⟨[], ⟨by simp, .inl ⟨by simp [cx, upd_self], rfl⟩⟩, (fun el hel => by cases hel), fun k el hk => by simp at hk⟩)
    exact k _ _ ⟨_, ht2.put (Nat.blt_eq ▸ hd) (.im (.str _))⟩
end
end Go.Av

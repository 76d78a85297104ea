/- Chapter 5: what one condition about a column needs; rows in which one value is any. -/
import Derived.Test.YtghlhejdfgkjaaaGreatDoorCl1
import Derived.Test.YtghlhejdfgkjaaaGreatDoorCD
import Derived.Test.YtghlhejdfgkjaaaGreatDoorD2
namespace Go.Proofs.YtghlhejdfgkjaaaGreatDoor
open Go Go.Av
attribute [local irreducible] AWp AOps AAny MAny DQ retQ retG St.le FCall GCall
set_option linter.unusedVariables false
set_option linter.unnecessarySimpa false
set_option linter.unusedSimpArgs false
set_option maxRecDepth 100000

theorem pksR_zero {f : Nat → Int} : ∀ (n lo : Nat), (∀ j, lo ≤ j → f j = 0) → pksR f lo n = []
  | 0, lo, _ => rfl
  | n + 1, lo, h => by
    unfold pksR
    rw [if_neg (by rw [h lo (Nat.le_refl _)]; omega)]
    exact pksR_zero n (lo + 1) fun j hj => h j (by omega)
theorem pksR_single {f : Nat → Int} {i : Nat} (hf : ∀ j, j ≠ i → f j = 0) : ∀ (n lo : Nat), lo ≤ i → i < lo + n → pksR f lo n = if 0 < f i then [⟨i, f i⟩] else []
  | 0, lo, h1, h2 => by omega
  | n + 1, lo, h1, h2 => by
    unfold pksR
    by_cases e : lo = i
    · subst e
      rw [pksR_zero n (lo + 1) fun j hj => hf j (by omega)]
    · rw [if_neg (by rw [hf lo e]; omega)]
      exact pksR_single hf n (lo + 1) (by omega) (by omega)
theorem need_one {s : Sch} {x : Cnd} (hx : cndE s x = 0) (ho : x.op = 2 ∨ x.op = 3 ∨ x.op = 4) : needS s x = if 0 < (levS s x : Int) then [⟨x.col, levS s x⟩] else [] := by
  obtain ⟨hr, _, _, hcs⟩ := cndE_parts hx
  obtain ⟨c, hc, c1, c2, _⟩ := atom_col hr (chkS_parts hcs).1 ho
  have e : ((x.col.toNat : Nat) : Int) = x.col := by omega
  have ha : atmS x = [x] := by rw [atmS_eq, if_pos ho]
  have hv : lvA s [x] x.col.toNat = levS s x := by
    unfold lvA
    rw [List.foldl_cons, List.foldl_nil, if_pos e.symm]
    omega
  rw [need_eq hx, ha, pksR_single (f := lvA s [x]) (i := x.col.toNat) (fun j hj => by
    unfold lvA
    rw [List.foldl_cons, List.foldl_nil, if_neg (by omega)]) _ _ (Nat.zero_le _) (by omega), hv, e]
theorem need_all {s : Sch} {x : Cnd} (ho : ¬ (x.op = 2 ∨ x.op = 3 ∨ x.op = 4)) (hk : x.kids = []) : needS s x = [] := by
  unfold needS
  split
  · rw [atmS_eq, if_neg ho, hk]
    exact pksR_zero _ _ fun j _ => rfl
  · rfl
theorem condL_ops (l : List UInt8) (s : Sch) (a : Nat) : ((condS l s 0 a).1.op = 1 ∨ (condS l s 0 a).1.op = 2 ∨ (condS l s 0 a).1.op = 3 ∨ (condS l s 0 a).1.op = 4) ∧ (condS l s 0 a).1.kids = [] := by
  unfold condS condL
  dsimp only
  (repeat' split) <;> exact ⟨by simp [Cnd.op], rfl⟩

/-- A row's values when only one of them matters. -/
def baseV (s : Sch) (i : Nat) : Int := if i = 0 then 1 else if (colAt s i).kind = 2 then ((lvsS s i).getD 0 0 : Nat) else (colAt s i).low
theorem base_ok {s : Sch} (hd : Drawn s) {row : List Int} (hl : row.length = s.cols.length) (h : ∀ i, i < s.cols.length → row.getD i 0 = baseV s i) : RowOk s row := by
  refine ⟨hl, fun i c hc => ?_⟩
  have hlt := lt_of_get hc
  have hca : colAt s i = c := colAt_get (by simpa using hc)
  rw [h i hlt]
  unfold baseV
  rw [hca]
  rcases hd.col hc with ⟨h0, rfl⟩ | ⟨h0, hcc⟩ | ⟨h0, nm, hm⟩
  · rw [if_pos h0]
    exact .inl ⟨rfl, by decide, by decide⟩
  · have hk : c.kind = 2 := by rcases hcc with rfl | rfl <;> rfl
    rw [if_neg (by omega), if_pos hk]
    obtain ⟨_, e, h1, _⟩ := hd.lvs hc hk
    refine .inr (.inl ⟨hk, _, rfl, ?_⟩)
    rw [← e, List.getD_eq_getElem?_getD, List.getElem?_eq_getElem (by omega)]
    exact List.getElem_mem _
  · have hk := hm.kind
    rw [if_neg (by omega), if_neg (by omega)]
    exact .inr (.inr ⟨hk, .inl ⟨Int.le_refl _, hm.high.1⟩⟩)
theorem row_set_ok {s : Sch} {row : List Int} (h : RowOk s row) {k : Nat} {c : Col} (hc : s.cols[k]? = some c) {v : Int} (hv : ValOk s c v) : RowOk s (row.set k v) := by
  refine ⟨by rw [List.length_set]; exact h.1, fun i d hi => ?_⟩
  have hlt := lt_of_get hc
  by_cases e : k = i
  · subst e
    rw [hc] at hi
    cases hi
    rw [List.getD_eq_getElem?_getD, List.getElem?_set_self (by rw [h.1]; exact hlt)]
    exact hv
  · rw [List.getD_eq_getElem?_getD, List.getElem?_set_ne e, ← List.getD_eq_getElem?_getD]
    exact h.2 i d hi
theorem eva_eq' {s : Sch} {c : Cnd} {row : List Int} (h1 : cndE s c = 0) (h2 : rowE s row = 0) : evaS s c row = holdS s c row := by
  unfold evaS; rw [if_pos ⟨h1, h2⟩]
theorem eva_atom {s : Sch} {x : Cnd} (hx : cndE s x = 0) (ho : x.op = 2 ∨ x.op = 3 ∨ x.op = 4) {row : List Int} (h : RowOk s row) : evaS s x row = atomS s x (row.getD x.col.toNat 0) := by
  rw [eva_eq' hx (row_ok0 (cndE_parts hx).1 h)]
  unfold holdS
  rw [telS_eq]
  unfold joinS
  rw [if_neg (by omega), if_neg (by omega), if_neg (by omega), if_neg (by omega)]
theorem all_ok {s : Sch} {c : Col} (hk : c.kind = 2 ∨ c.kind = 3) {v : Int} (hv : v ∈ allC s c) : ValOk s c v := by
  unfold allC at hv
  split at hv
  · rename_i h2
    obtain ⟨n, hn, rfl⟩ := List.mem_map.1 hv
    exact .inr (.inl ⟨h2, n, rfl, hn⟩)
  · rename_i h2
    exact .inr (.inr ⟨by omega, mem_allM.1 hv⟩)
end Go.Proofs.YtghlhejdfgkjaaaGreatDoor

/- Chapter 5: what a condition needs, as a list of picks; picks raised. -/
import Derived.Test.YtghlhejdfgkjaaaGreatDoorCd7
namespace Go.Proofs.YtghlhejdfgkjaaaGreatDoor
open Go Go.Av
attribute [local irreducible] AWp AOps AAny MAny DQ retQ retG St.le FCall GCall
set_option linter.unusedVariables false
set_option linter.unnecessarySimpa false
set_option linter.unusedSimpArgs false
set_option maxRecDepth 100000

theorem widths_one {ws : List Int} (hne : ws.length ≠ 0) (h : widthsB ws = true) : ws.getD 0 0 = 1 := by
  cases ws with
  | nil => exact absurd rfl hne
  | cons w r =>
    simp only [widthsB, Bool.and_eq_true, decide_eq_true_eq] at h
    simpa using h.1
/-- The finest level suffices. -/
theorem suf_fin {s : Sch} (hr : schE s = 0) {a : Cnd} (ha : conE s a = 0) (ho : a.op = 2 ∨ a.op = 3 ∨ a.op = 4) : sufS s a (finS s a.col) = true ∧ 0 ≤ finS s a.col := by
  obtain ⟨x, hx, c1, c2, q2, q3, q4, q5⟩ := atom_col hr ha ho
  by_cases h2 : a.op = 2
  · obtain ⟨hk, hl1, hl2, hf⟩ := q2 h2
    obtain ⟨lx, hlx⟩ : ∃ l, s.lists[x.lst.toNat]? = some l := ⟨_, List.getElem?_eq_getElem (by omega)⟩
    rw [lstOf_get hlx] at hf
    refine ⟨?_, finS_nn hr c1 c2⟩
    rw [sufS_code h2 hx hlx, hf]
    refine decide_eq_true fun u hu v hv e => ?_
    have self : ∀ u ∈ atS lx.1 lx.2 (levelsS lx.1 lx.2 - 1), upS lx.1 lx.2 u (levelsS lx.1 lx.2 - 1) = u := by
      intro u hu
      obtain ⟨hchk, hul, hd⟩ := mem_atS hu
      rw [← upS_yes ⟨hul, hchk, by omega, by omega⟩, show dep lx.2 u - (levelsS lx.1 lx.2 - 1).toNat = 0 by omega]
      rfl
    dsimp only at e
    rw [self u hu, self v hv] at e
    have : u = v := by omega
    rw [this]
  · obtain ⟨hk, hm, hf⟩ := q3 h2
    have hp := meaE_parts hm
    refine ⟨?_, by omega⟩
    by_cases h4 : a.op = 4
    · rw [sufS_mis h4, hf]
      exact decide_eq_true (by omega)
    · rw [sufS_mea (by omega) hx, hf]
      have hw : widthS x x.widths.length = 1 := by
        unfold widthS
        rw [show ((x.widths.length : Int) - x.widths.length).toNat = 0 by omega]
        exact widths_one (by omega) hp.2.2.2.2.2
      refine decide_eq_true ?_
      unfold sufM
      rw [if_neg (by omega), hw]
      exact ⟨fun _ => Int.tmod_one _, fun _ => Int.tmod_one _⟩
/-- The least level that suffices. -/
def levK (s : Sch) (a : Cnd) : Nat → Nat → Nat
  | 0, n => n
  | f + 1, n => if sufS s a n = true then n else levK s a f (n + 1)
def levS (s : Sch) (a : Cnd) : Nat := levK s a (finS s a.col).toNat 0
theorem levK_hit {s : Sch} {a : Cnd} {f n : Nat} (h : sufS s a n = true) : levK s a f n = n := by
  cases f with
  | zero => rfl
  | succ f => rw [levK, if_pos h]
theorem levK_miss {s : Sch} {a : Cnd} {m n : Nat} (hn : n ≤ m) (hm : sufS s a m = true) (h : sufS s a n = false) : n < m ∧ levK s a (m - n) n = levK s a (m - (n + 1)) (n + 1) := by
  have hlt : n < m := by
    rcases Nat.lt_or_ge n m with h2 | h2
    · exact h2
    · have : n = m := by omega
      subst this
      rw [hm] at h; cases h
  refine ⟨hlt, ?_⟩
  rw [show m - n = (m - (n + 1)) + 1 by omega, levK, if_neg (by rw [h]; decide)]
theorem levK_spec {s : Sch} {a : Cnd} : ∀ (f n : Nat), sufS s a (n + f : Nat) = true → n ≤ levK s a f n ∧ levK s a f n ≤ n + f ∧ sufS s a (levK s a f n : Nat) = true ∧ ∀ i : Nat, n ≤ i → i < levK s a f n → sufS s a i = false
  | 0, n, h => ⟨Nat.le_refl _, Nat.le_refl _, h, fun i h1 h2 => absurd h2 (by unfold levK; omega)⟩
  | f + 1, n, h => by
    unfold levK
    split
    · rename_i h2
      exact ⟨Nat.le_refl _, by omega, h2, fun i h1 h3 => by omega⟩
    · rename_i h2
      obtain ⟨i1, i2, i3, i4⟩ := levK_spec f (n + 1) (by rw [show n + 1 + f = n + (f + 1) by omega]; exact h)
      refine ⟨by omega, by omega, i3, fun i h3 h4 => ?_⟩
      by_cases e : i = n
      · subst e; simpa using h2
      · exact i4 i (by omega) h4
theorem levS_spec {s : Sch} (hr : schE s = 0) {a : Cnd} (ha : conE s a = 0) (ho : a.op = 2 ∨ a.op = 3 ∨ a.op = 4) : (levS s a : Int) ≤ finS s a.col ∧ sufS s a (levS s a) = true ∧ ∀ i : Nat, i < levS s a → sufS s a i = false := by
  obtain ⟨h1, h2⟩ := suf_fin hr ha ho
  obtain ⟨i1, i2, i3, i4⟩ := levK_spec (s := s) (a := a) (finS s a.col).toNat 0 (by rw [Nat.zero_add, Int.toNat_of_nonneg h2]; exact h1)
  exact ⟨by unfold levS; omega, i3, fun i hi => i4 i (Nat.zero_le _) hi⟩

/-! ### Picks by column -/
def pksR (lv : Nat → Int) (lo : Nat) : Nat → List Pk
  | 0 => []
  | n + 1 => if 0 < lv lo then ⟨lo, lv lo⟩ :: pksR lv (lo + 1) n else pksR lv (lo + 1) n
theorem pksR_succ (lv : Nat → Int) (lo n : Nat) : pksR lv lo (n + 1) = if 0 < lv lo then ⟨lo, lv lo⟩ :: pksR lv (lo + 1) n else pksR lv (lo + 1) n := rfl
theorem pksR_snoc (lv : Nat → Int) : ∀ (n lo : Nat), pksR lv lo (n + 1) = pksR lv lo n ++ (if 0 < lv (lo + n) then [⟨((lo + n : Nat) : Int), lv (lo + n)⟩] else [])
  | 0, lo => by
    show (if 0 < lv lo then [(⟨(lo : Int), lv lo⟩ : Pk)] else []) = [] ++ (if 0 < lv (lo + 0) then [⟨((lo + 0 : Nat) : Int), lv (lo + 0)⟩] else [])
    rw [Nat.add_zero, List.nil_append]
  | n + 1, lo => by
    have ih := pksR_snoc lv n (lo + 1)
    rw [show lo + 1 + n = lo + (n + 1) by omega] at ih
    rw [pksR_succ lv lo (n + 1), pksR_succ lv lo n, ih]
    split <;> simp
theorem pksR_mem {lv : Nat → Int} {p : Pk} : ∀ {n lo : Nat}, p ∈ pksR lv lo n → (lo : Int) ≤ p.col ∧ p.col < (lo + n : Nat) ∧ p.lev = lv p.col.toNat ∧ 0 < p.lev
  | 0, lo, h => by simp [pksR] at h
  | n + 1, lo, h => by
    unfold pksR at h
    split at h
    · rcases List.mem_cons.1 h with rfl | h
      · exact ⟨Int.le_refl _, by dsimp only; omega, by simp, by assumption⟩
      · obtain ⟨h1, h2, h3⟩ := pksR_mem h
        exact ⟨by omega, by omega, h3⟩
    · obtain ⟨h1, h2, h3⟩ := pksR_mem h
      exact ⟨by omega, by omega, h3⟩
theorem mem_pksR {lv : Nat → Int} : ∀ {n lo i : Nat}, lo ≤ i → i < lo + n → 0 < lv i → (⟨i, lv i⟩ : Pk) ∈ pksR lv lo n
  | 0, lo, i, h1, h2, _ => by omega
  | n + 1, lo, i, h1, h2, h3 => by
    unfold pksR
    by_cases e : lo = i
    · subst e
      rw [if_pos h3]
      exact List.mem_cons_self ..
    · have := mem_pksR (lv := lv) (n := n) (lo := lo + 1) (i := i) (by omega) (by omega) h3
      split
      · exact List.mem_cons_of_mem _ this
      · exact this
theorem pksR_length (lv : Nat → Int) : ∀ (n lo : Nat), (pksR lv lo n).length ≤ n
  | 0, lo => Nat.le_refl _
  | n + 1, lo => by
    have := pksR_length lv n (lo + 1)
    unfold pksR
    split
    · rw [List.length_cons]; omega
    · omega
theorem pksR_congr {f g : Nat → Int} : ∀ {n lo : Nat}, (∀ i, lo ≤ i → i < lo + n → f i = g i) → pksR f lo n = pksR g lo n
  | 0, lo, _ => rfl
  | n + 1, lo, h => by
    unfold pksR
    rw [h lo (Nat.le_refl _) (by omega), pksR_congr (f := f) (g := g) (n := n) (lo := lo + 1) fun i h1 h2 => h i (by omega) (by omega)]

/-- One pick more, in its place. -/
def raiseG (col lev : Int) : List Pk → Bool → List Pk → List Pk
  | [], dn, out => if dn = true then out else out ++ [⟨col, lev⟩]
  | x :: r, dn, out =>
    if col < x.col ∧ dn = false then raiseG col lev r true (out ++ [⟨col, lev⟩] ++ [x])
    else if x.col = col then raiseG col lev r true (out ++ [⟨x.col, max x.lev lev⟩])
    else raiseG col lev r dn (out ++ [x])
def raiseS (l : List Pk) (col lev : Int) : List Pk := raiseG col lev l (decide (lev ≤ 0)) []
theorem raise_done {col lev : Int} : ∀ (l out : List Pk), (∀ x ∈ l, x.col ≠ col ∨ lev ≤ x.lev) → raiseG col lev l true out = out ++ l
  | [], out, _ => by simp [raiseG]
  | x :: r, out, h => by
    have ih := fun out => raise_done (col := col) (lev := lev) r out fun y hy => h y (by simp [hy])
    unfold raiseG
    rw [if_neg (fun hh => by cases hh.2)]
    split
    · rename_i e
      have : lev ≤ x.lev := by rcases h x (by simp) with h | h; exact absurd e h; exact h
      rw [ih, show max x.lev lev = x.lev by omega]
      simp
    · rw [ih]; simp
theorem raise_new {col lev : Int} (l out : List Pk) (h : ∀ x ∈ l, col < x.col) : raiseG col lev l false out = out ++ ⟨col, lev⟩ :: l := by
  cases l with
  | nil => simp [raiseG]
  | cons x r =>
    unfold raiseG
    rw [if_pos ⟨h x (by simp), rfl⟩, raise_done _ _ fun y hy => .inl (by have := h y (by simp [hy]); omega)]
    simp
def upd (lv : Nat → Int) (col lev : Int) (i : Nat) : Int := if col = i then max (lv i) lev else lv i
theorem raise_pos {lv : Nat → Int} {col lev : Int} (hl : 0 < lev) : ∀ (n lo : Nat) (out : List Pk), (lo : Int) ≤ col → col < (lo + n : Nat) → raiseG col lev (pksR lv lo n) false out = out ++ pksR (upd lv col lev) lo n
  | 0, lo, out, h1, h2 => by omega
  | n + 1, lo, out, h1, h2 => by
    have hrest : ∀ m : Nat, col < (m : Int) → pksR (upd lv col lev) m n = pksR lv m n := fun m hm => pksR_congr fun i h3 h4 => by unfold upd; rw [if_neg (by omega)]
    by_cases e : col = lo
    · have hup : upd lv col lev lo = max (lv lo) lev := by unfold upd; rw [if_pos e]
      rw [show pksR (upd lv col lev) lo (n + 1) = ⟨lo, max (lv lo) lev⟩ :: pksR lv (lo + 1) n by
        rw [pksR_succ, hup, if_pos (by omega), hrest (lo + 1) (by omega)]]
      rw [pksR_succ]
      by_cases h3 : 0 < lv lo
      · rw [if_pos h3, raiseG, if_neg (by dsimp only; omega), if_pos (by dsimp only; omega), raise_done _ _ fun y hy => .inl (by have := (pksR_mem hy).1; omega)]
        simp
      · rw [if_neg h3, raise_new _ _ fun y hy => by have := (pksR_mem hy).1; omega]
        rw [e, show max (lv lo) lev = lev by omega]
    · have hup : upd lv col lev lo = lv lo := by unfold upd; rw [if_neg e]
      rw [pksR_succ, pksR_succ, hup]
      by_cases h3 : 0 < lv lo
      · rw [if_pos h3, if_pos h3, raiseG, if_neg (by dsimp only; omega), if_neg (by dsimp only; omega), raise_pos hl n (lo + 1) _ (by omega) (by omega)]
        simp
      · rw [if_neg h3, if_neg h3, raise_pos hl n (lo + 1) _ (by omega) (by omega)]
theorem raise_pks {lv : Nat → Int} {col lev : Int} {n : Nat} (h1 : 0 ≤ col) (h2 : col < n) (hl : 0 ≤ lev) (hv : ∀ i, 0 ≤ lv i) : raiseS (pksR lv 0 n) col lev = pksR (upd lv col lev) 0 n := by
  unfold raiseS
  by_cases h : lev ≤ 0
  · rw [decide_eq_true h, raise_done _ _ fun y hy => .inr (by have := (pksR_mem hy).2.2.2; omega), List.nil_append]
    exact pksR_congr fun i _ _ => by
      unfold upd
      have := hv i
      split
      · omega
      · rfl
  · rw [decide_eq_false h, raise_pos (by omega) n 0 [] (by omega) (by omega), List.nil_append]

/-! ### What conditions need -/
theorem pksR_none : ∀ (n lo : Nat), pksR (fun _ => (0 : Int)) lo n = []
  | 0, _ => rfl
  | n + 1, lo => by rw [pksR_succ, if_neg (by omega), pksR_none n]
def lvA (s : Sch) (l : List Cnd) (i : Nat) : Int := l.foldl (fun (m : Int) (a : Cnd) => if a.col = (i : Int) then max m (levS s a : Int) else m) 0
theorem lvA_nil (s : Sch) : lvA s [] = fun _ => 0 := rfl
theorem lvA_snoc (s : Sch) (l : List Cnd) (a : Cnd) : lvA s (l ++ [a]) = upd (lvA s l) a.col (levS s a) := by
  funext i
  unfold lvA upd
  rw [List.foldl_append]
  rfl
theorem lvA_take {s : Sch} {l : List Cnd} {k : Nat} {a : Cnd} (h : l[k]? = some a) : lvA s (l.take (k + 1)) = upd (lvA s (l.take k)) a.col (levS s a) := by
  rw [takec h, lvA_snoc]
theorem lvA_nn (s : Sch) (i : Nat) : ∀ l : List Cnd, 0 ≤ lvA s l i := by
  have key : ∀ (l : List Cnd) (m : Int), 0 ≤ m → 0 ≤ l.foldl (fun (m : Int) (a : Cnd) => if a.col = (i : Int) then max m (levS s a : Int) else m) m := by
    intro l
    induction l with
    | nil => intro m h; exact h
    | cons a r ih =>
      intro m h
      rw [List.foldl_cons]
      refine ih _ ?_
      split <;> omega
  exact fun l => key l 0 (Int.le_refl _)
theorem lvA_le {s : Sch} {i : Nat} {B : Int} (hB : 0 ≤ B) : ∀ l : List Cnd, (∀ a ∈ l, a.col = i → (levS s a : Int) ≤ B) → lvA s l i ≤ B := by
  have key : ∀ (l : List Cnd) (m : Int), m ≤ B → (∀ a ∈ l, a.col = i → (levS s a : Int) ≤ B) → l.foldl (fun (m : Int) (a : Cnd) => if a.col = (i : Int) then max m (levS s a : Int) else m) m ≤ B := by
    intro l
    induction l with
    | nil => intro m h _; exact h
    | cons a r ih =>
      intro m h hl
      rw [List.foldl_cons]
      refine ih _ ?_ fun b hb => hl b (by simp [hb])
      split
      · have := hl a (by simp) (by assumption); omega
      · exact h
  exact fun l h => key l 0 hB h
theorem lvA_ge {s : Sch} : ∀ {l : List Cnd} {a : Cnd}, a ∈ l → ∀ i : Nat, a.col = i → (levS s a : Int) ≤ lvA s l i := by
  have mono : ∀ (l : List Cnd) (i : Nat) (m : Int), m ≤ l.foldl (fun (m : Int) (a : Cnd) => if a.col = (i : Int) then max m (levS s a : Int) else m) m := by
    intro l i
    induction l with
    | nil => intro m; exact Int.le_refl _
    | cons a r ih =>
      intro m
      rw [List.foldl_cons]
      refine Int.le_trans ?_ (ih _)
      split <;> omega
  have key : ∀ (l : List Cnd) (a : Cnd), a ∈ l → ∀ (i : Nat) (m : Int), a.col = i → (levS s a : Int) ≤ l.foldl (fun (m : Int) (a : Cnd) => if a.col = (i : Int) then max m (levS s a : Int) else m) m := by
    intro l
    induction l with
    | nil => intro a ha; cases ha
    | cons b r ih =>
      intro a ha i m e
      rw [List.foldl_cons]
      rcases List.mem_cons.1 ha with rfl | ha
      · refine Int.le_trans ?_ (mono r i _)
        rw [if_pos e]; omega
      · exact ih a ha i _ e
  exact fun {l a} ha i e => key l a ha i 0 e
def needS (s : Sch) (c : Cnd) : List Pk := if cndE s c = 0 then pksR (lvA s (atmS c)) 0 s.cols.length else []
end Go.Proofs.YtghlhejdfgkjaaaGreatDoor

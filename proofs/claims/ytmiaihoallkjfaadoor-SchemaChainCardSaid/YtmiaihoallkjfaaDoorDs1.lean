/- Chapter 2: what every drawn schema is like. -/
import Derived.Test.YtmiaihoallkjfaaDoorDr4
import Derived.Test.YtmiaihoallkjfaaDoorFa1
import Derived.Test.YtmiaihoallkjfaaDoorSc3
namespace Go.Proofs.YtmiaihoallkjfaaDoor
open Go Go.Av
attribute [local irreducible] AWp AOps AAny MAny DQ retQ retG St.le FCall GCall
set_option linter.unusedVariables false
set_option linter.unnecessarySimpa false
set_option linter.unusedSimpArgs false
set_option maxRecDepth 100000

def whoC : Col := ⟨[119, 104, 111], 1, 0, 0, 0, [], false⟩
def sexC : Col := ⟨[115, 101, 120], 2, 0, 0, 0, [], false⟩
def jobC : Col := ⟨[106, 111, 98], 2, 1, 0, 0, [], false⟩
def meaN (n : Nat) : List UInt8 := [109] ++ itoaN n
/-- So many measures more. -/
def meaAdd (l : List UInt8) : List Col × Nat → Nat → List Col × Nat
  | s, 0 => s
  | s, k + 1 => meaAdd l (s.1 ++ [(meaS l s.2 (meaN s.1.length)).1], (meaS l s.2 (meaN s.1.length)).2) k
abbrev twoN : List UInt8 := [116, 119, 111]
abbrev oneL : List UInt8 := [111, 110, 101]
def baseC (b : Bool) : List Col := cond b [whoC, sexC, jobC] [whoC, sexC]
def schS (l : List UInt8) (a : Nat) : Sch × Nat :=
  let l1 := listS l a
  let l2 := listS l l1.2
  let b := nxt l l2.2 2
  let m := nxt l b.2 3
  let r := meaAdd l (baseC (decide ((b.1 : Int) = 1)), m.2) (1 + m.1)
  (⟨[(oneL, l1.1), (twoN, l2.1)], r.1⟩, r.2)

/-! ### What is drawn -/
structure MeaOk (c : Col) (nm : List UInt8) : Prop where
  name : c.name = nm
  kind : c.kind = 3
  lst : c.lst = 0
  low : -4 ≤ c.low ∧ c.low ≤ 2
  high : c.low ≤ c.high ∧ c.high ≤ c.low + 44
  wid : c.widths ∈ wOpts
theorem meaS_ok (l : List UInt8) (a : Nat) (nm : List UInt8) : MeaOk (meaS l a nm).1 nm := by
  have h7 := nxt_lt l a (n := 7) (by omega)
  have h4 := nxt_lt l (nxt l a 7).2 (n := 4) (by omega)
  have h45 := nxt_lt l (nxt l (nxt l (nxt l a 7).2 4).2 3).2 (n := 45) (by omega)
  refine ⟨rfl, rfl, rfl, ?_, ?_, ?_⟩
  · simp only [meaS]; omega
  · simp only [meaS]; omega
  · simp only [meaS]
    have hlt : (nxt l (nxt l a 7).2 4).1 < wOpts.length := by show _ < 4; omega
    rw [List.getD_eq_getElem?_getD, List.getElem?_eq_getElem hlt]
    exact List.getElem_mem hlt
theorem meaAdd_spec (l : List UInt8) : ∀ (k : Nat) (s : List Col × Nat), ∃ ms, (meaAdd l s k).1 = s.1 ++ ms ∧ ms.length = k ∧ ∀ (i : Nat) c, ms[i]? = some c → MeaOk c (meaN (s.1.length + i))
  | 0, s => ⟨[], by simp [meaAdd], rfl, fun i c h => by simp at h⟩
  | k + 1, s => by
    obtain ⟨ms, h1, h2, h3⟩ := meaAdd_spec l k (s.1 ++ [(meaS l s.2 (meaN s.1.length)).1], (meaS l s.2 (meaN s.1.length)).2)
    refine ⟨(meaS l s.2 (meaN s.1.length)).1 :: ms, ?_, by simp [h2], fun i c hc => ?_⟩
    · rw [meaAdd, h1]; simp
    · cases i with
      | zero => simp at hc; subst hc; exact meaS_ok _ _ _
      | succ i =>
        have := h3 i c (by simpa using hc)
        simp only [List.length_append, List.length_singleton] at this
        rwa [show s.1.length + (i + 1) = s.1.length + 1 + i by omega]
structure Drawn (s : Sch) : Prop where
  ls : ∃ l1 l2, l1 ∈ fam ∧ l2 ∈ fam ∧ s.lists = [(oneL, l1), (twoN, l2)]
  cs : ∃ b ms, s.cols = baseC b ++ ms ∧ 1 ≤ ms.length ∧ ms.length ≤ 3 ∧ ∀ (i : Nat) c, ms[i]? = some c → MeaOk c (meaN ((baseC b).length + i))
theorem schS_drawn (l : List UInt8) (a : Nat) : Drawn (schS l a).1 := by
  refine ⟨⟨_, _, listS_mem l a, listS_mem l (listS l a).2, rfl⟩, ?_⟩
  have h3 := nxt_lt l (nxt l (listS l (listS l a).2).2 2).2 (n := 3) (by omega)
  obtain ⟨ms, h1, h2, h4⟩ := meaAdd_spec l (1 + (nxt l (nxt l (listS l (listS l a).2).2 2).2 3).1) (baseC (decide (((nxt l (listS l (listS l a).2).2 2).1 : Int) = 1)), (nxt l (nxt l (listS l (listS l a).2).2 2).2 3).2)
  exact ⟨_, ms, h1, by omega, by omega, h4⟩

/-! ### It is right -/
def namesD (b : Bool) (n : Nat) : List (List UInt8) := (baseC b).map (·.name) ++ (List.range n).map fun i => meaN ((baseC b).length + i)
def nmsOk (l : List (List UInt8)) : Bool := (List.range l.length).all fun i => nameB (l.getD i []) && !((l.take i).any fun x => decide (x = l.getD i []))
theorem names_ok : ([true, false].all fun b => [1, 2, 3].all fun n => nmsOk (namesD b n)) = true := by decide +kernel
def lstOkB (cs : List Code) : Bool := decide (chk oneL cs = 0) && decide (chk twoN cs = 0) && decide (1 ≤ levelsS oneL cs ∧ levelsS oneL cs ≤ 5) && decide (cs.length ≤ 10) && decide (1 ≤ (atS oneL cs (levelsS oneL cs - 1)).length ∧ (atS oneL cs (levelsS oneL cs - 1)).length ≤ 10) && ((atS oneL cs (levelsS oneL cs - 1)).all fun k => decide (k < cs.length))
theorem fam_lst : fam.all lstOkB = true := by decide +kernel
structure LstOk (cs : List Code) : Prop where
  one : chk oneL cs = 0
  two : chk twoN cs = 0
  lv : 1 ≤ levelsS oneL cs ∧ levelsS oneL cs ≤ 5
  len : cs.length ≤ 10
  at' : 1 ≤ (atS oneL cs (levelsS oneL cs - 1)).length ∧ (atS oneL cs (levelsS oneL cs - 1)).length ≤ 10
  mem : ∀ k ∈ atS oneL cs (levelsS oneL cs - 1), k < cs.length
theorem fam_ok {cs : List Code} (h : cs ∈ fam) : LstOk cs := by
  have := List.all_eq_true.1 fam_lst _ h
  simp only [lstOkB, Bool.and_eq_true, decide_eq_true_eq, List.all_eq_true] at this
  obtain ⟨⟨⟨⟨⟨h1, h2⟩, h3⟩, h4⟩, h5⟩, h6⟩ := this
  exact ⟨h1, h2, h3, h4, h5, h6⟩
/-- A list's name does not matter. -/
theorem chk_nm {a b : List UInt8} (h : nameB a = nameB b) (cs : List Code) : chk a cs = chk b cs := by unfold chk; rw [h]
theorem hasB_nm {a b : List UInt8} (h : nameB a = nameB b) (cs : List Code) (k : Int) : hasB a cs k = hasB b cs k := by unfold hasB; rw [chk_nm h]
theorem levelsS_nm {a b : List UInt8} (h : nameB a = nameB b) (cs : List Code) : levelsS a cs = levelsS b cs := by unfold levelsS; rw [chk_nm h]
theorem levelS_nm {a b : List UInt8} (h : nameB a = nameB b) (cs : List Code) (k : Int) : levelS a cs k = levelS b cs k := by unfold levelS; rw [hasB_nm h]
theorem upS_nm {a b : List UInt8} (h : nameB a = nameB b) (cs : List Code) (k lv : Int) : upS a cs k lv = upS b cs k lv := by unfold upS; rw [hasB_nm h]
theorem atS_nm {a b : List UInt8} (h : nameB a = nameB b) (cs : List Code) (lv : Int) : atS a cs lv = atS b cs lv := by unfold atS; rw [chk_nm h]
theorem nm_two : nameB twoN = nameB oneL := by decide

theorem firstE_all {α : Type} {f : Nat → α → Int} : ∀ {l : List α} {k : Nat}, (∀ (i : Nat) x, l[i]? = some x → f (k + i) x = 0) → firstE f k l = 0
  | [], k, _ => rfl
  | y :: r, k, h => by
    have h0 := h 0 y rfl
    simp only [Nat.add_zero] at h0
    rw [firstE, if_pos h0]
    refine firstE_all fun i x hx => ?_
    have := h (i + 1) x (by simpa using hx)
    rwa [show k + (i + 1) = k + 1 + i by omega] at this

theorem MeaOk.meaE {c : Col} {nm : List UInt8} (h : MeaOk c nm) : meaE c = 0 := by
  have h1 := h.low
  have h2 := h.high
  have h3 := h.wid
  unfold Go.Proofs.YtmiaihoallkjfaaDoor.meaE
  rw [if_neg (by omega)]
  simp only [wOpts, List.mem_cons, List.not_mem_nil, or_false] at h3
  rcases h3 with h3 | h3 | h3 | h3 <;> rw [h3] <;> decide
theorem MeaOk.used {c : Col} {nm : List UInt8} (h : MeaOk c nm) : usedB c = true := by
  unfold usedB
  rw [h.kind, h.lst]
  simp
theorem MeaOk.kindE {c : Col} {nm : List UInt8} (h : MeaOk c nm) (s : Sch) (i : Nat) : kindE s i c = 0 := by
  unfold Go.Proofs.YtmiaihoallkjfaaDoor.kindE
  rw [h.kind]
  simp [h.meaE]

/-- Which columns there are. -/
theorem Drawn.col {s : Sch} (h : Drawn s) {i : Nat} {c : Col} (hc : s.cols[i]? = some c) : (i = 0 ∧ c = whoC) ∨ (0 < i ∧ (c = sexC ∨ c = jobC)) ∨ (0 < i ∧ ∃ nm, MeaOk c nm) := by
  obtain ⟨b, ms, h1, _, _, h4⟩ := h.cs
  rw [h1, List.getElem?_append] at hc
  split at hc
  · cases b <;> simp only [baseC, _root_.cond_true, _root_.cond_false, List.length_cons, List.length_nil] at hc
    · match i, hc with
      | 0, hc => cases hc; exact .inl ⟨rfl, rfl⟩
      | 1, hc => cases hc; exact .inr (.inl ⟨by omega, .inl rfl⟩)
      | n + 2, hc => simp at hc
    · match i, hc with
      | 0, hc => cases hc; exact .inl ⟨rfl, rfl⟩
      | 1, hc => cases hc; exact .inr (.inl ⟨by omega, .inl rfl⟩)
      | 2, hc => cases hc; exact .inr (.inl ⟨by omega, .inr rfl⟩)
      | n + 3, hc => simp at hc
  · rename_i hlt
    refine .inr (.inr ⟨?_, _, h4 _ c hc⟩)
    cases b <;> simp [baseC] at hlt <;> omega
theorem Drawn.names {s : Sch} (h : Drawn s) : nmsOk (s.cols.map (·.name)) = true := by
  obtain ⟨b, ms, h1, h2, h3, h4⟩ := h.cs
  have e : s.cols.map (·.name) = namesD b ms.length := by
    rw [h1, List.map_append]
    unfold namesD
    congr 1
    refine List.ext_getElem? fun i => ?_
    rw [List.getElem?_map, List.getElem?_map]
    by_cases hi : i < ms.length
    · rw [List.getElem?_eq_getElem hi, List.getElem?_range hi]
      simp only [Option.map_some]
      rw [(h4 i _ (List.getElem?_eq_getElem hi)).name]
    · rw [List.getElem?_eq_none (by omega), List.getElem?_eq_none (by simp; omega)]; rfl
  rw [e]
  have h5 := List.all_eq_true.1 (List.all_eq_true.1 names_ok b (by cases b <;> simp)) ms.length
  refine h5 ?_
  have : ms.length = 1 ∨ ms.length = 2 ∨ ms.length = 3 := by omega
  rcases this with h | h | h <;> rw [h] <;> simp
theorem Drawn.colE {s : Sch} (h : Drawn s) {i : Nat} {c : Col} (hc : s.cols[i]? = some c) : colE s i c = 0 := by
  have hi := lt_of_get hc
  have hn := List.all_eq_true.1 h.names i (by simpa using hi)
  simp only [Bool.and_eq_true, Bool.not_eq_true'] at hn
  have hg : (s.cols.map (·.name)).getD i [] = c.name := by
    rw [List.getD_eq_getElem?_getD, List.getElem?_map, hc]; rfl
  rw [hg] at hn
  have hd : dupB s i c = false := by
    unfold dupB
    rw [← hn.2, ← List.map_take, List.any_map]
    rfl
  have hl : s.lists.length = 2 := by obtain ⟨l1, l2, _, _, h⟩ := h.ls; rw [h]; rfl
  have hk : kindE s i c = 0 ∧ usedB c = true := by
    rcases h.col hc with ⟨rfl, rfl⟩ | ⟨h0, rfl | rfl⟩ | ⟨h0, nm, hm⟩
    · exact ⟨by unfold kindE; simp [whoC], by decide⟩
    · exact ⟨by unfold kindE; rw [hl]; simp [sexC], by decide⟩
    · exact ⟨by unfold kindE; rw [hl]; simp [jobC], by decide⟩
    · exact ⟨hm.kindE s i, hm.used⟩
  unfold Go.Proofs.YtmiaihoallkjfaaDoor.colE
  rw [hn.1, hd, hk.1, hk.2]
  rfl
theorem Drawn.lens {s : Sch} (h : Drawn s) : s.lists.length = 2 ∧ 3 ≤ s.cols.length ∧ s.cols.length ≤ 6 := by
  obtain ⟨l1, l2, _, _, h1⟩ := h.ls
  obtain ⟨b, ms, h2, h3, h4, _⟩ := h.cs
  refine ⟨by rw [h1]; rfl, ?_⟩
  rw [h2, List.length_append]
  cases b <;> simp [baseC] <;> omega
theorem Drawn.ok {s : Sch} (h : Drawn s) : schE s = 0 := by
  have hl := h.lens
  obtain ⟨l1, l2, m1, m2, e⟩ := h.ls
  unfold schE
  rw [if_neg (by omega)]
  have h1 : firstE (lstE s.lists) 0 s.lists = 0 := by
    refine firstE_all fun i x hx => ?_
    rw [e] at hx ⊢
    rw [Nat.zero_add]
    match i, hx with
    | 0, hx => cases hx; unfold lstE; rw [if_pos (fam_ok m1).one]; rfl
    | 1, hx => cases hx; unfold lstE; rw [if_pos (fam_ok m2).two]; rfl
    | n + 2, hx => simp at hx
  have h2 : s.cols.head?.map (·.kind) = some 1 := by
    obtain ⟨b, ms, h2, _⟩ := h.cs
    rw [h2]; cases b <;> rfl
  rw [if_pos h1, if_pos h2]
  exact firstE_all fun i x hx => by rw [Nat.zero_add]; exact h.colE hx
end Go.Proofs.YtmiaihoallkjfaaDoor

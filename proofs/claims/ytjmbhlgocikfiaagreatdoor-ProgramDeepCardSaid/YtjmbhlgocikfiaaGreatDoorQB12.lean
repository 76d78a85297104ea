/- Draws: measures. Chapter 2: what every drawn schema is like. Nothing laid is an empty row: in arguments of calls, and in rows of one's own. Draws: schemas. Chapter 2: the example of the chapter. -/
import Derived.Test.YtjmbhlgocikfiaaGreatDoorQB5
import Derived.Test.YtjmbhlgocikfiaaGreatDoorQB7
import Derived.Test.YtjmbhlgocikfiaaGreatDoorQE3
import Derived.Test.YtjmbhlgocikfiaaGreatDoorQAvTy
import Derived.Test.YtjmbhlgocikfiaaGreatDoorQB8
namespace Go.Proofs.YtjmbhlgocikfiaaGreatDoor
open Go Go.Av
attribute [local irreducible] AWp AOps AAny MAny DQ retQ retG St.le FCall GCall
set_option linter.unusedVariables false
set_option linter.unnecessarySimpa false
set_option linter.unusedSimpArgs false
set_option maxRecDepth 100000
def wOpts : List (List Int) := [[1], [1, 5], [1, 5, 20], [1, 2, 4, 12]]
def whoC : Col := ⟨[119, 104, 111], 1, 0, 0, 0, [], false⟩
def sexC : Col := ⟨[115, 101, 120], 2, 0, 0, 0, [], false⟩
def jobC : Col := ⟨[106, 111, 98], 2, 1, 0, 0, [], false⟩
def meaN (n : Nat) : List UInt8 := [109] ++ itoaN n
abbrev twoN : List UInt8 := [116, 119, 111]
abbrev oneL : List UInt8 := [111, 110, 101]
def baseC (b : Bool) : List Col := cond b [whoC, sexC, jobC] [whoC, sexC]
structure MeaOk (c : Col) (nm : List UInt8) : Prop where
  name : c.name = nm
  kind : c.kind = 3
  lst : c.lst = 0
  low : -4 ≤ c.low ∧ c.low ≤ 2
  high : c.low ≤ c.high ∧ c.high ≤ c.low + 44
  wid : c.widths ∈ wOpts
structure Drawn (s : Sch) : Prop where
  ls : ∃ l1 l2, l1 ∈ fam ∧ l2 ∈ fam ∧ s.lists = [(oneL, l1), (twoN, l2)]
  cs : ∃ b ms, s.cols = baseC b ++ ms ∧ 1 ≤ ms.length ∧ ms.length ≤ 3 ∧ ∀ (i : Nat) c, ms[i]? = some c → MeaOk c (meaN ((baseC b).length + i))
def namesD (b : Bool) (n : Nat) : List (List UInt8) := (baseC b).map (·.name) ++ (List.range n).map fun i => meaN ((baseC b).length + i)
def nmsOk (l : List (List UInt8)) : Bool := (List.range l.length).all fun i => nameB (l.getD i []) && !((l.take i).any fun x => decide (x = l.getD i []))
theorem names_ok : ([true, false].all fun b => [1, 2, 3].all fun n => nmsOk (namesD b n)) = true := by decide +kernel
def lstOkB (cs : List Code) : Bool := decide (chk oneL cs = 0) && decide (chk twoN cs = 0) && decide (1 ≤ levelsS oneL cs ∧ levelsS oneL cs ≤ 5) && decide (cs.length ≤ 10) && decide (1 ≤ (atS oneL cs (levelsS oneL cs - 1)).length ∧ (atS oneL cs (levelsS oneL cs - 1)).length ≤ 10) && ((atS oneL cs (levelsS oneL cs - 1)).all fun k => decide (k < cs.length))
theorem fam_lst : fam.all lstOkB = true := by decide +kernel
structure LstOk (cs : List Code) : Prop where
  one : chk oneL cs = 0
  two : chk twoN cs = 0
  lv : 1 ≤ levelsS oneL cs ∧ levelsS oneL cs ≤ 5
  len : cs.length ≤ 10
  at' : 1 ≤ (atS oneL cs (levelsS oneL cs - 1)).length ∧ (atS oneL cs (levelsS oneL cs - 1)).length ≤ 10
  mem : ∀ k ∈ atS oneL cs (levelsS oneL cs - 1), k < cs.length
theorem fam_ok {cs : List Code} (h : cs ∈ fam) : LstOk cs := by
  have := List.all_eq_true.1 fam_lst _ h
  simp only [lstOkB, Bool.and_eq_true, decide_eq_true_eq, List.all_eq_true] at this
  obtain ⟨⟨⟨⟨⟨h1, h2⟩, h3⟩, h4⟩, h5⟩, h6⟩ := this
  exact ⟨h1, h2, h3, h4, h5, h6⟩
theorem chk_nm {a b : List UInt8} (h : nameB a = nameB b) (cs : List Code) : chk a cs = chk b cs := by unfold chk; rw [h]
theorem hasB_nm {a b : List UInt8} (h : nameB a = nameB b) (cs : List Code) (k : Int) : hasB a cs k = hasB b cs k := by unfold hasB; rw [chk_nm h]
theorem levelsS_nm {a b : List UInt8} (h : nameB a = nameB b) (cs : List Code) : levelsS a cs = levelsS b cs := by unfold levelsS; rw [chk_nm h]
theorem upS_nm {a b : List UInt8} (h : nameB a = nameB b) (cs : List Code) (k lv : Int) : upS a cs k lv = upS b cs k lv := by unfold upS; rw [hasB_nm h]
theorem atS_nm {a b : List UInt8} (h : nameB a = nameB b) (cs : List Code) (lv : Int) : atS a cs lv = atS b cs lv := by unfold atS; rw [chk_nm h]
theorem nm_two : nameB twoN = nameB oneL := by decide
theorem firstE_all {α : Type} {f : Nat → α → Int} : ∀ {l : List α} {k : Nat}, (∀ (i : Nat) x, l[i]? = some x → f (k + i) x = 0) → firstE f k l = 0
  | [], k, _ => rfl
  | y :: r, k, h => by
    have h0 := h 0 y rfl
    simp only [Nat.add_zero] at h0
    rw [firstE, if_pos h0]
    refine firstE_all fun i x hx => ?_
    have := h (i + 1) x (by simpa using hx)
    rwa [show k + (i + 1) = k + 1 + i by omega] at this
theorem MeaOk.meaE {c : Col} {nm : List UInt8} (h : MeaOk c nm) : meaE c = 0 := by
  have h1 := h.low
  have h2 := h.high
  have h3 := h.wid
  unfold Go.Proofs.YtjmbhlgocikfiaaGreatDoor.meaE
  rw [if_neg (by omega)]
  simp only [wOpts, List.mem_cons, List.not_mem_nil, or_false] at h3
  rcases h3 with h3 | h3 | h3 | h3 <;> rw [h3] <;> decide
theorem MeaOk.used {c : Col} {nm : List UInt8} (h : MeaOk c nm) : usedB c = true := by
  unfold usedB
  rw [h.kind, h.lst]
  simp
theorem MeaOk.kindE {c : Col} {nm : List UInt8} (h : MeaOk c nm) (s : Sch) (i : Nat) : kindE s i c = 0 := by
  unfold Go.Proofs.YtjmbhlgocikfiaaGreatDoor.kindE
  rw [h.kind]
  simp [h.meaE]
theorem Drawn.col {s : Sch} (h : Drawn s) {i : Nat} {c : Col} (hc : s.cols[i]? = some c) : (i = 0 ∧ c = whoC) ∨ (0 < i ∧ (c = sexC ∨ c = jobC)) ∨ (0 < i ∧ ∃ nm, MeaOk c nm) := by
  obtain ⟨b, ms, h1, _, _, h4⟩ := h.cs
  rw [h1, List.getElem?_append] at hc
  split at hc
  · cases b <;> simp only [baseC, _root_.cond_true, _root_.cond_false, List.length_cons, List.length_nil] at hc
    · match i, hc with
      | 0, hc => cases hc; exact .inl ⟨rfl, rfl⟩
      | 1, hc => cases hc; exact .inr (.inl ⟨by omega, .inl rfl⟩)
      | n + 2, hc => simp at hc
    · match i, hc with
      | 0, hc => cases hc; exact .inl ⟨rfl, rfl⟩
      | 1, hc => cases hc; exact .inr (.inl ⟨by omega, .inl rfl⟩)
      | 2, hc => cases hc; exact .inr (.inl ⟨by omega, .inr rfl⟩)
      | n + 3, hc => simp at hc
  · rename_i hlt
    refine .inr (.inr ⟨?_, _, h4 _ c hc⟩)
    cases b <;> simp [baseC] at hlt <;> omega
theorem Drawn.names {s : Sch} (h : Drawn s) : nmsOk (s.cols.map (·.name)) = true := by
  obtain ⟨b, ms, h1, h2, h3, h4⟩ := h.cs
  have e : s.cols.map (·.name) = namesD b ms.length := by
    rw [h1, List.map_append]
    unfold namesD
    congr 1
    refine List.ext_getElem? fun i => ?_
    rw [List.getElem?_map, List.getElem?_map]
    by_cases hi : i < ms.length
    · rw [List.getElem?_eq_getElem hi, List.getElem?_range hi]
      simp only [Option.map_some]
      rw [(h4 i _ (List.getElem?_eq_getElem hi)).name]
    · rw [List.getElem?_eq_none (by omega), List.getElem?_eq_none (by simp; omega)]; rfl
  rw [e]
  have h5 := List.all_eq_true.1 (List.all_eq_true.1 names_ok b (by cases b <;> simp)) ms.length
  refine h5 ?_
  have : ms.length = 1 ∨ ms.length = 2 ∨ ms.length = 3 := by omega
  rcases this with h | h | h <;> rw [h] <;> simp
theorem Drawn.colE {s : Sch} (h : Drawn s) {i : Nat} {c : Col} (hc : s.cols[i]? = some c) : colE s i c = 0 := by
  have hi := lt_of_get hc
  have hn := List.all_eq_true.1 h.names i (by simpa using hi)
  simp only [Bool.and_eq_true, Bool.not_eq_true'] at hn
  have hg : (s.cols.map (·.name)).getD i [] = c.name := by
    rw [List.getD_eq_getElem?_getD, List.getElem?_map, hc]; rfl
  rw [hg] at hn
  have hd : dupB s i c = false := by
    unfold dupB
    rw [← hn.2, ← List.map_take, List.any_map]
    rfl
  have hl : s.lists.length = 2 := by obtain ⟨l1, l2, _, _, h⟩ := h.ls; rw [h]; rfl
  have hk : kindE s i c = 0 ∧ usedB c = true := by
    rcases h.col hc with ⟨rfl, rfl⟩ | ⟨h0, rfl | rfl⟩ | ⟨h0, nm, hm⟩
    · exact ⟨by unfold kindE; simp [whoC], by decide⟩
    · exact ⟨by unfold kindE; rw [hl]; simp [sexC], by decide⟩
    · exact ⟨by unfold kindE; rw [hl]; simp [jobC], by decide⟩
    · exact ⟨hm.kindE s i, hm.used⟩
  unfold Go.Proofs.YtjmbhlgocikfiaaGreatDoor.colE
  rw [hn.1, hd, hk.1, hk.2]
  rfl
theorem Drawn.lens {s : Sch} (h : Drawn s) : s.lists.length = 2 ∧ 3 ≤ s.cols.length ∧ s.cols.length ≤ 6 := by
  obtain ⟨l1, l2, _, _, h1⟩ := h.ls
  obtain ⟨b, ms, h2, h3, h4, _⟩ := h.cs
  refine ⟨by rw [h1]; rfl, ?_⟩
  rw [h2, List.length_append]
  cases b <;> simp [baseC] <;> omega
theorem Drawn.ok {s : Sch} (h : Drawn s) : schE s = 0 := by
  have hl := h.lens
  obtain ⟨l1, l2, m1, m2, e⟩ := h.ls
  unfold schE
  rw [if_neg (by omega)]
  have h1 : firstE (lstE s.lists) 0 s.lists = 0 := by
    refine firstE_all fun i x hx => ?_
    rw [e] at hx ⊢
    rw [Nat.zero_add]
    match i, hx with
    | 0, hx => cases hx; unfold lstE; rw [if_pos (fam_ok m1).one]; rfl
    | 1, hx => cases hx; unfold lstE; rw [if_pos (fam_ok m2).two]; rfl
    | n + 2, hx => simp at hx
  have h2 : s.cols.head?.map (·.kind) = some 1 := by
    obtain ⟨b, ms, h2, _⟩ := h.cs
    rw [h2]; cases b <;> rfl
  rw [if_pos h1, if_pos h2]
  exact firstE_all fun i x hx => by rw [Nat.zero_add]; exact h.colE hx
def NLs : List AV → List AV → Prop
  | [], [] => True
  | x :: r, y :: s => NL x y ∧ NLs r s
  | _, _ => False
def NLss : List (List AV) → List (List AV) → Prop
  | [], [] => True
  | x :: r, y :: s => NLs x y ∧ NLss r s
  | _, _ => False
theorem NLs.get : ∀ {l m : List AV}, NLs l m → l.length = m.length ∧ ∀ (j : Nat) x y, l[j]? = some x → m[j]? = some y → NL x y
  | [], [], _ => ⟨rfl, fun j x y h => by simp at h⟩
  | a :: r, b :: s, h => by
    obtain ⟨h1, h2⟩ := NLs.get h.2
    refine ⟨by simp [h1], fun j x y hx hy => ?_⟩
    cases j with
    | zero => simp at hx hy; subst hx hy; exact h.1
    | succ j => exact h2 j x y (by simpa using hx) (by simpa using hy)
  | [], _ :: _, h => h.elim
  | _ :: _, [], h => h.elim
theorem NLss.get : ∀ {l m : List (List AV)}, NLss l m → l.length = m.length ∧ ∀ (i : Nat) e e', l[i]? = some e → m[i]? = some e' → NLs e e'
  | [], [], _ => ⟨rfl, fun j x y h => by simp at h⟩
  | a :: r, b :: s, h => by
    obtain ⟨h1, h2⟩ := NLss.get h.2
    refine ⟨by simp [h1], fun j x y hx hy => ?_⟩
    cases j with
    | zero => simp at hx hy; subst hx hy; exact h.1
    | succ j => exact h2 j x y (by simpa using hx) (by simpa using hy)
  | [], _ :: _, h => h.elim
  | _ :: _, [], h => h.elim
theorem NLs.refl : ∀ (l : List AV), NLs l l
  | [] => trivial
  | x :: r => ⟨.refl x, NLs.refl r⟩
theorem NLss.refl : ∀ (l : List (List AV)), NLss l l
  | [] => trivial
  | x :: r => ⟨NLs.refl x, NLss.refl r⟩
theorem nl_agg {l m : List AV} (h : NLs l m) : NL (.agg l) (.agg m) := .agg l m h.get.1 h.get.2
theorem nl_sl {sz : Nat} {l m : List (List AV)} (h : NLss l m) : NL (.sl sz l) (.sl sz m) :=
  .sl sz l m h.get.1 (fun i e e' he he' => (h.get.2 i e e' he he').get.1) (fun i e e' he he' => (h.get.2 i e e' he he').get.2)
theorem fcall_nl {P : Program} {f : Nat} {l l' : List AV} {r : AV} (h : FCall P f l r) (hn : NLs l' l) : FCall P f l' r := by
  obtain ⟨h1, h2⟩ := hn.get
  unfold FCall at h ⊢
  refine ⟨h.1, fun X w vs hX htb hl hv => h.2 X w vs hX htb (by omega) fun j a v ha hv2 => ?_⟩
  obtain ⟨x, hx⟩ := get_of_len h1 ha
  exact (h2 j x a hx ha).im (hv j x v hx hv2)
end Go.Proofs.YtjmbhlgocikfiaaGreatDoor

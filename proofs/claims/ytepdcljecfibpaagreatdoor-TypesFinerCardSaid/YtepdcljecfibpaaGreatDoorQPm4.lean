/- Chapter 17: drawn programs are right, and have the same kinds over any picks that suffice. -/
import Derived.Test.YtepdcljecfibpaaGreatDoorQPm3
namespace Go.Proofs.YtepdcljecfibpaaGreatDoor
open Go Go.Av
attribute [local irreducible] AWp AOps AAny MAny DQ retQ retG St.le FCall GCall
set_option linter.unusedVariables false
set_option linter.unnecessarySimpa false
set_option linter.unusedSimpArgs false
set_option maxRecDepth 100000
theorem proN_name : ∀ k, k < 31 → nameB (proN k) = true := by decide +kernel
theorem proN_inj : ∀ i, i < 31 → ∀ j, j < 31 → proN i = proN j → i = j := by decide +kernel
structure ProOk (s : Sch) (l : List Stm) (names : List (List UInt8)) : Prop where
  len : l.length ≤ 30
  st : ∀ (k : Nat) t, l[k]? = some t → t.name = proN k ∧ ∃ ns, XprOk s ns t.x 2 ∧ ∀ nm ∈ ns, ∃ (j : Nat) (u : Stm), j < k ∧ l[j]? = some u ∧ u.name = nm ∧ numP u.x.op
  nm : ∀ nm ∈ names, ∃ (j : Nat) (u : Stm), l[j]? = some u ∧ u.name = nm ∧ numP u.x.op
theorem ProOk.names {s : Sch} {l : List Stm} {names : List (List UInt8)} (h : ProOk s l names) : ∀ nm ∈ names, nameB nm = true := fun nm hn => by
  obtain ⟨j, u, h1, h2, _⟩ := h.nm nm hn
  have h3 := (h.st j u h1).1
  have h4 := lt_of_get h1
  rw [← h2, h3]
  exact proN_name j (by have := h.len; omega)
theorem ProOk.snoc {s : Sch} {l : List Stm} {names : List (List UInt8)} (h : ProOk s l names) (hl : l.length < 30) {e : Xpr} (he : XprOk s names e 2) (o : Bool) :
    ProOk s (l ++ [⟨proN l.length, o, e⟩]) (if e.op < 10 then names ++ [proN l.length] else names) := by
  have old : ∀ {j : Nat} {u : Stm}, l[j]? = some u → (l ++ [(⟨proN l.length, o, e⟩ : Stm)])[j]? = some u := fun {j u} hj => by
    rw [List.getElem?_append_left (lt_of_get hj)]; exact hj
  refine ⟨by rw [List.length_append, List.length_singleton]; omega, fun k t hk => ?_, fun nm hn => ?_⟩
  · by_cases hlt : k < l.length
    · rw [List.getElem?_append_left hlt] at hk
      obtain ⟨h1, ns, h2, h3⟩ := h.st k t hk
      refine ⟨h1, ns, h2, fun nm hn => ?_⟩
      obtain ⟨j, u, h4, h5, h6⟩ := h3 nm hn
      exact ⟨j, u, h4, old h5, h6⟩
    · have hk2 : k = l.length := by
        have := lt_of_get hk
        rw [List.length_append, List.length_singleton] at this
        omega
      subst hk2
      rw [List.getElem?_append_right (Nat.le_refl _), Nat.sub_self] at hk
      have ht : (⟨proN l.length, o, e⟩ : Stm) = t := by simpa using hk
      subst ht
      refine ⟨rfl, names, he, fun nm hn => ?_⟩
      obtain ⟨j, u, h4, h5⟩ := h.nm nm hn
      exact ⟨j, u, lt_of_get h4, old h4, h5⟩
  · have hold : ∀ nm ∈ names, ∃ (j : Nat) (u : Stm), (l ++ [(⟨proN l.length, o, e⟩ : Stm)])[j]? = some u ∧ u.name = nm ∧ numP u.x.op := fun nm hn => by
      obtain ⟨j, u, h4, h5⟩ := h.nm nm hn
      exact ⟨j, u, old h4, h5⟩
    split at hn
    · rename_i hop
      rcases List.mem_append.1 hn with hn | hn
      · exact hold nm hn
      · rw [List.mem_singleton] at hn
        refine ⟨l.length, ⟨proN l.length, o, e⟩, by rw [List.getElem?_append_right (Nat.le_refl _), Nat.sub_self]; rfl, hn.symm, ?_⟩
        have := (rig_parts he.rig).op
        show 1 ≤ e.op ∧ e.op ≤ 9
        omega
    · exact hold nm hn
theorem proF_ok {s : Sch} (hd : Drawn s) (l : List UInt8) : ∀ (n : Nat) (x : PrD), ProOk s x.l x.names → x.l.length + n ≤ 30 → ProOk s (proF l s x n).l (proF l s x n).names ∧ (proF l s x n).l.length = x.l.length + n
  | 0, x, h, _ => ⟨h, rfl⟩
  | n + 1, x, h, hn => by
    rw [proF]
    try dsimp only
    have he := exprD_ok hd l x.names h.names (nxt l x.a 2).2
    have hs := h.snoc (by omega) he (decide (((nxt l x.a 2).1 : Int) = 2 - 1))
    obtain ⟨h1, h2⟩ := proF_ok hd l n ⟨_, _, (exprD l s x.names (nxt l x.a 2).2).2⟩ hs (by dsimp only; rw [List.length_append, List.length_singleton]; omega)
    refine ⟨h1, h2.trans ?_⟩
    rw [List.length_append, List.length_singleton]; omega
theorem proD_ok {s : Sch} (hd : Drawn s) (l : List UInt8) (a : Nat) (most : Int) (h : 0 ≤ most ∧ most ≤ 29) : ProOk s (proD l a s most).l (proD l a s most).names ∧ (proD l a s most).l.length ≤ most := by
  have hlt := nxt_lt l a (n := most + 1) (by omega)
  have := proF_ok hd l (nxt l a (most + 1)).1 ⟨[], [], (nxt l a (most + 1)).2⟩ ⟨by simp, fun k t h => by simp at h, fun nm h => by cases h⟩ (by simp only [List.length_nil]; omega)
  unfold proD
  refine ⟨this.1, ?_⟩
  rw [this.2, List.length_nil]
  omega
theorem pro_step {s : Sch} (hd : Drawn s) {l : List Stm} {names : List (List UInt8)} (h : ProOk s l names) {k : Nat} {t : Stm} (hk : l[k]? = some t) : stmE s (l.take k) t = 0 := by
  obtain ⟨h1, ns, h2, h3⟩ := h.st k t hk
  have hkl := lt_of_get hk
  have hl := h.len
  have e1 : nameB t.name = true := by rw [h1]; exact proN_name k (by omega)
  have e2 : knoB (l.take k) t.name = false := by
    refine List.any_eq_false.2 fun y hy => ?_
    obtain ⟨j, hj, hje⟩ := List.getElem_of_mem hy
    rw [List.length_take] at hj
    have hjl : l[j]? = some y := by
      rw [← hje, List.getElem_take, List.getElem?_eq_getElem (by omega)]
    have := (h.st j y hjl).1
    rw [decide_eq_true_iff, this, h1]
    intro he
    have := proN_inj j (by omega) k (by omega) he
    omega
  have e3 : namS (knoB (l.take k)) t.x = true := h2.nam _ fun nm hn => by
    obtain ⟨j, u, h4, h5, h6, _⟩ := h3 nm hn
    refine List.any_eq_true.2 ⟨u, ?_, decide_eq_true h6⟩
    have hm : (l.take k)[j]? = some u := by rw [List.getElem?_take, if_pos h4]; exact h5
    exact List.mem_of_getElem? hm
  have h4 := h2.tot
  have h5 := h2.dep
  have e4 : rigX s t.x = true := by
    unfold rigX
    rw [decide_eq_true hd.ok, h2.rig]; rfl
  unfold stmE
  rw [e1, e2, e3, e4, if_neg (by simp), if_neg (by simp), if_neg (by omega), if_neg (by omega), if_neg (by simp), if_neg (by simp)]
theorem pro_right {s : Sch} (hd : Drawn s) {l : List Stm} {names : List (List UInt8)} (h : ProOk s l names) : proS s l = (((l.length : Nat) : Int), (0 : Int)) := by
  have key : ∀ (n k : Nat), k + n = l.length → proE s l k (l.drop k) = (((l.length : Nat) : Int), (0 : Int)) := by
    intro n
    induction n with
    | zero =>
      intro k hk
      rw [show k = l.length by omega, List.drop_length, proE]
    | succ n ih =>
      intro k hk
      obtain ⟨t, ht⟩ : ∃ t, l[k]? = some t := ⟨_, List.getElem?_eq_getElem (by omega)⟩
      rw [dropc ht, proE, if_pos (pro_step hd h ht)]
      exact ih (k + 1) (by omega)
  unfold proS
  rw [if_pos hd.ok, if_neg (by have := h.len; omega)]
  simpa using key l.length 0 (by omega)
theorem lookK_one (nm : List UInt8) : ∀ (bs : List Bnd) (z : Int × Int), (∀ b ∈ bs, b.name = nm → b.kind = 1) → ((∃ b ∈ bs, b.name = nm) ∨ z = (1, 0)) → lookK nm bs z = (1, 0)
  | [], z, _, h => by
    rcases h with ⟨b, hb, _⟩ | h
    · cases hb
    · exact h
  | b :: r, z, h1, h2 => by
    rw [lookK]
    refine lookK_one nm r _ (fun c hc => h1 c (by simp [hc])) ?_
    by_cases hb : b.name = nm
    · refine .inr ?_
      rw [if_pos hb, h1 b (by simp) hb]
    · rw [if_neg hb]
      rcases h2 with ⟨c, hc, he⟩ | h2
      · rcases List.mem_cons.1 hc with rfl | hc
        · exact absurd he hb
        · exact .inl ⟨c, hc, he⟩
      · exact .inr h2
def BndOk (l : List Stm) (bs : List Bnd) : Prop := ∀ (j : Nat) b, bs[j]? = some b → ∃ u, l[j]? = some u ∧ b.name = u.name ∧ (numP u.x.op → b.kind = 1)
theorem pro_kin {s : Sch} {l : List Stm} {names : List (List UInt8)} (h : ProOk s l names) {bs : List Bnd} (hb : BndOk l bs) {t : Stm} (hk : l[bs.length]? = some t) : rigS s t.x = true ∧ (kinS bs t.x).2 = 0 ∧ (numP t.x.op → (kinS bs t.x).1 = 1) := by
  obtain ⟨h1, ns, h2, h3⟩ := h.st _ t hk
  have hl := h.len
  have hkl := lt_of_get hk
  refine ⟨h2.rig, h2.kin bs fun nm hn => ?_⟩
  obtain ⟨j, u, h4, h5, h6, h7⟩ := h3 nm hn
  refine lookK_one nm bs _ (fun b hbm he => ?_) (.inl ?_)
  · obtain ⟨i, hi, hie⟩ := List.getElem_of_mem hbm
    obtain ⟨v, g1, g2, g3⟩ := hb i b (by rw [List.getElem?_eq_getElem hi, hie])
    have g4 := (h.st i v g1).1
    have g5 := (h.st j u h5).1
    have := proN_inj i (by omega) j (by omega) (by rw [← g4, ← g5, ← g2, he, h6])
    subst this
    rw [h5] at g1
    cases g1
    exact g3 h7
  · obtain ⟨b, hbj⟩ : ∃ b, bs[j]? = some b := ⟨_, List.getElem?_eq_getElem h4⟩
    obtain ⟨v, g1, g2, _⟩ := hb j b hbj
    rw [h5] at g1
    cases g1
    exact ⟨b, List.mem_of_getElem? hbj, by rw [g2, h6]⟩
theorem typ_two {s : Sch} (hd : Drawn s) (p : List Pk) {l : List Stm} {names : List (List UInt8)} (h : ProOk s l names) : ∀ (n : Nat) (bs : List Bnd), bs.length + n = l.length → BndOk l bs →
    ∃ K : List Int, K.length = l.length ∧ typK s (allP s) (l.drop bs.length) bs bs.length = (K, (l.length : Int), 0) ∧
      (typK s p (l.drop bs.length) bs bs.length = (K, (l.length : Int), 0) ∨ ∃ j : Int, j < l.length ∧ typK s p (l.drop bs.length) bs bs.length = ([], j, 23)) := by
  intro n
  induction n with
  | zero =>
    intro bs hk _
    have hk2 : bs.length = l.length := by omega
    rw [hk2, List.drop_length]
    exact ⟨bs.map (·.kind), by rw [List.length_map]; exact hk2, rfl, .inl rfl⟩
  | succ n ih =>
    intro bs hk hb
    obtain ⟨t, ht⟩ : ∃ t, l[bs.length]? = some t := ⟨_, List.getElem?_eq_getElem (by omega)⟩
    obtain ⟨h1, h2, h3⟩ := pro_kin h hb ht
    have hb2 : BndOk l (bs ++ [⟨t.name, (kinS bs t.x).1⟩]) := fun j b hj => by
      by_cases hlt : j < bs.length
      · rw [List.getElem?_append_left hlt] at hj
        exact hb j b hj
      · have hj2 : j = bs.length := by
          have := lt_of_get hj
          rw [List.length_append, List.length_singleton] at this
          omega
        subst hj2
        rw [List.getElem?_append_right (Nat.le_refl _), Nat.sub_self] at hj
        have he : (⟨t.name, (kinS bs t.x).1⟩ : Bnd) = b := by simpa using hj
        subst he
        exact ⟨t, ht, rfl, h3⟩
    obtain ⟨K, g1, g2, g3⟩ := ih (bs ++ [⟨t.name, (kinS bs t.x).1⟩]) (by rw [List.length_append, List.length_singleton]; omega) hb2
    rw [List.length_append, List.length_singleton] at g2 g3
    refine ⟨K, g1, ?_, ?_⟩
    · rw [dropc ht, typK, exk_all hd bs h1, if_pos h2]; exact g2
    · rw [dropc ht, typK]
      have hx : rigX s t.x = true := by
        unfold rigX
        rw [decide_eq_true hd.ok, h1]; rfl
      have he : exkS s p bs t.x = if picksE s p = 0 ∧ covB p (nedS s t.x) = true then kinS bs t.x else (0, 23) := by
        unfold exkS
        rw [hx, if_neg (by simp)]
      by_cases hc : picksE s p = 0 ∧ covB p (nedS s t.x) = true
      · rw [if_pos hc] at he
        rw [he, if_pos h2]; exact g3
      · rw [if_neg hc] at he
        rw [he, if_neg (by simp)]
        exact .inr ⟨bs.length, by omega, rfl⟩
theorem typ_all {s : Sch} (hd : Drawn s) (p : List Pk) {l : List Stm} {names : List (List UInt8)} (h : ProOk s l names) : ∃ K : List Int, K.length = l.length ∧ typS s (allP s) l = (K, (l.length : Int), 0) ∧
    (typS s p l = (K, (l.length : Int), 0) ∨ ∃ j : Int, j < l.length ∧ typS s p l = ([], j, 23)) := by
  have h1 := pro_right hd h
  unfold typS
  rw [h1, if_pos rfl, if_pos rfl]
  have := typ_two hd p h l.length [] (by simp) fun j b hj => by simp at hj
  simpa using this
end Go.Proofs.YtepdcljecfibpaaGreatDoor

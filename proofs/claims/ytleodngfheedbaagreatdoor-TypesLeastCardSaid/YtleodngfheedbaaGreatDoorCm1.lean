/- Chapter 5: right conditions in parts, truth values out of those of their parts. -/
import Derived.Test.YtleodngfheedbaaGreatDoorC1
import Derived.Test.YtleodngfheedbaaGreatDoorC1
namespace Go.Proofs.YtleodngfheedbaaGreatDoor
open Go Go.Av
attribute [local irreducible] AWp AOps AAny MAny DQ retQ retG St.le FCall GCall
set_option linter.unusedVariables false
set_option linter.unnecessarySimpa false
set_option linter.unusedSimpArgs false
set_option maxRecDepth 100000

theorem conE_parts {s : Sch} {c : Cnd} (h : conE s c = 0) : (1 ≤ c.op ∧ c.op ≤ 7) ∧ (c.kids.length : Int) = kidN c.op ∧ (c.op = 2 ∨ c.op = 3 ∨ c.op = 4 → 0 ≤ c.col ∧ c.col < s.cols.length) ∧ (c.op = 2 → (colAt s c.col).kind = 2 ∧ 0 ≤ c.code ∧ c.code < (lstOf s (colAt s c.col)).2.length) ∧ (c.op = 3 → (colAt s c.col).kind = 3 ∧ c.lo ≤ c.hi ∧ -1000000 ≤ c.lo ∧ c.hi ≤ 1000000) ∧ (c.op = 4 → (colAt s c.col).kind = 3 ∧ (colAt s c.col).opt = true) := by
  unfold conE at h
  by_cases h1 : c.op < 1 ∨ 7 < c.op
  · rw [if_pos h1] at h; cases h
  rw [if_neg h1] at h
  split at h
  · cases h
  rename_i h2
  by_cases h3 : c.op ≠ 2 ∧ c.op ≠ 3 ∧ c.op ≠ 4
  · exact ⟨by omega, by omega, fun _ => by omega, fun _ => by omega, fun _ => by omega, fun _ => by omega⟩
  rw [if_neg h3] at h
  by_cases h4 : c.col < 0 ∨ (s.cols.length : Int) ≤ c.col
  · rw [if_pos h4] at h; cases h
  rw [if_neg h4] at h
  by_cases h5 : c.op = 2
  · rw [if_pos h5] at h
    split at h
    · cases h
    split at h
    · cases h
    exact ⟨by omega, by omega, fun _ => by omega, fun _ => by omega, fun _ => by omega, fun _ => by omega⟩
  rw [if_neg h5] at h
  by_cases h6 : c.op = 3
  · rw [if_pos h6] at h
    split at h
    · cases h
    split at h
    · cases h
    exact ⟨by omega, by omega, fun _ => by omega, fun _ => by omega, fun _ => by omega, fun _ => by omega⟩
  rw [if_neg h6] at h
  split at h
  · cases h
  rename_i h7
  refine ⟨by omega, by omega, fun _ => by omega, fun _ => by omega, fun _ => by omega, fun _ => ⟨?_, ?_⟩⟩
  · exact Decidable.of_not_not fun hh => h7 (.inl hh)
  · cases ho : (colAt s c.col).opt
    · exact absurd (.inr ho) h7
    · rfl
theorem chkL_all {s : Sch} : ∀ {l : List Cnd}, chkL s l = 0 → ∀ k ∈ l, chkS s k = 0
  | [], _, k, hk => by cases hk
  | x :: r, h, k, hk => by
    unfold chkL at h
    by_cases hx : chkS s x = 0
    · rw [if_pos hx] at h
      rcases List.mem_cons.1 hk with rfl | hk
      · exact hx
      · exact chkL_all h k hk
    · rw [if_neg hx] at h; exact absurd h hx
theorem chkS_parts {s : Sch} {c : Cnd} (h : chkS s c = 0) : conE s c = 0 ∧ ∀ k ∈ c.kids, chkS s k = 0 := by
  rw [chkS_eq] at h
  by_cases h1 : conE s c = 0
  · rw [if_pos h1] at h
    exact ⟨h1, chkL_all h⟩
  · rw [if_neg h1] at h; exact absurd h h1
theorem chkL_of {s : Sch} : ∀ {l : List Cnd}, (∀ k ∈ l, chkS s k = 0) → chkL s l = 0
  | [], _ => rfl
  | x :: r, h => by
    unfold chkL
    rw [if_pos (h x (by simp))]
    exact chkL_of fun k hk => h k (by simp [hk])
theorem cndE_parts {s : Sch} {c : Cnd} (h : cndE s c = 0) : schE s = 0 ∧ totS c ≤ 40 ∧ depS c ≤ 10 ∧ chkS s c = 0 := by
  unfold cndE at h
  by_cases h1 : schE s = 0
  · rw [if_pos h1] at h
    split at h
    · cases h
    split at h
    · cases h
    exact ⟨h1, by omega, by omega, h⟩
  · rw [if_neg h1] at h; exact absurd h h1
theorem atmL_mem {a k : Cnd} : ∀ {l : List Cnd}, k ∈ l → a ∈ atmS k → a ∈ atmL l
  | x :: r, hk, ha => by
    unfold atmL
    rcases List.mem_cons.1 hk with rfl | hk
    · exact List.mem_append_left _ ha
    · exact List.mem_append_right _ (atmL_mem hk ha)
theorem atmL_inv {a : Cnd} : ∀ {l : List Cnd}, a ∈ atmL l → ∃ k ∈ l, a ∈ atmS k
  | [], h => by simp [atmL] at h
  | x :: r, h => by
    unfold atmL at h
    rcases List.mem_append.1 h with h | h
    · exact ⟨x, by simp, h⟩
    · obtain ⟨k, hk, ha⟩ := atmL_inv h
      exact ⟨k, by simp [hk], ha⟩
theorem atm_kid {a c k : Cnd} (ho : ¬ (c.op = 2 ∨ c.op = 3 ∨ c.op = 4)) (hk : k ∈ c.kids) (ha : a ∈ atmS k) : a ∈ atmS c := by
  rw [atmS_eq, if_neg ho]
  exact atmL_mem hk ha
/-- The conditions about one column of a right condition are right. -/
theorem atm_right {s : Sch} (c : Cnd) : chkS s c = 0 → ∀ a ∈ atmS c, conE s a = 0 ∧ (a.op = 2 ∨ a.op = 3 ∨ a.op = 4) := by
  refine cnd_ind (p := fun c => chkS s c = 0 → ∀ a ∈ atmS c, conE s a = 0 ∧ (a.op = 2 ∨ a.op = 3 ∨ a.op = 4)) (fun c ih h a ha => ?_) c
  obtain ⟨h1, h2⟩ := chkS_parts h
  rw [atmS_eq] at ha
  split at ha
  · rename_i ho
    rw [List.mem_singleton] at ha
    subst ha
    exact ⟨h1, ho⟩
  · obtain ⟨k, hk, hak⟩ := atmL_inv ha
    exact ih k hk (h2 k hk) a hak

/-! ### Truth values -/
def joinS (op : Int) (vs : List Int) (one : Int) : Int := if op = 1 then 1 else if op = 5 then min (vs.getD 0 0) (vs.getD 1 0) else if op = 6 then max (vs.getD 0 0) (vs.getD 1 0) else if op = 7 then -(vs.getD 0 0) else one
mutual
def telS (g : Cnd → Int) : Cnd → Int
  | .mk o c k l h ks => joinS o (telL g ks) (g (.mk o c k l h ks))
def telL (g : Cnd → Int) : List Cnd → List Int
  | [] => []
  | x :: r => telS g x :: telL g r
end
theorem telL_map (g : Cnd → Int) : ∀ l, telL g l = l.map (telS g)
  | [] => rfl
  | x :: r => by rw [telL, telL_map g r]; rfl
theorem telS_eq (g : Cnd → Int) (c : Cnd) : telS g c = joinS c.op (c.kids.map (telS g)) (g c) := by
  cases c
  rw [telS, telL_map]; rfl
theorem getD_map {α : Type} {l : List α} {f : α → Int} {k : Nat} {x : α} (h : l[k]? = some x) : (l.map f).getD k 0 = f x := by
  rw [List.getD_eq_getElem?_getD, List.getElem?_map, h]; rfl
theorem getD_bd {l : List Int} (h : ∀ v ∈ l, -1 ≤ v ∧ v ≤ 1) (k : Nat) : -1 ≤ l.getD k 0 ∧ l.getD k 0 ≤ 1 := by
  rw [List.getD_eq_getElem?_getD]
  cases hk : l[k]? with
  | none => exact ⟨by decide, by decide⟩
  | some v => exact h v (List.mem_of_getElem? hk)
theorem joinS_bd {op : Int} {vs : List Int} {one : Int} (h : ∀ v ∈ vs, -1 ≤ v ∧ v ≤ 1) (h1 : -1 ≤ one ∧ one ≤ 1) : -1 ≤ joinS op vs one ∧ joinS op vs one ≤ 1 := by
  have a0 := getD_bd h 0
  have a1 := getD_bd h 1
  unfold joinS
  (repeat' split) <;> omega
theorem telS_bd {g : Cnd → Int} (hg : ∀ a, -1 ≤ g a ∧ g a ≤ 1) (c : Cnd) : -1 ≤ telS g c ∧ telS g c ≤ 1 := by
  refine cnd_ind (p := fun c => -1 ≤ telS g c ∧ telS g c ≤ 1) (fun c ih => ?_) c
  rw [telS_eq]
  refine joinS_bd (fun v hv => ?_) (hg c)
  obtain ⟨k, hk, rfl⟩ := List.mem_map.1 hv
  exact ih k hk
/-- Truth values depend on those of the conditions about one column alone. -/
theorem telS_congr {s : Sch} {g g' : Cnd → Int} (c : Cnd) : chkS s c = 0 → (∀ a ∈ atmS c, g a = g' a) → telS g c = telS g' c := by
  refine cnd_ind (p := fun c => chkS s c = 0 → (∀ a ∈ atmS c, g a = g' a) → telS g c = telS g' c) (fun c ih h hg => ?_) c
  obtain ⟨h1, h2⟩ := chkS_parts h
  obtain ⟨p1, p2, _⟩ := conE_parts h1
  rw [telS_eq, telS_eq]
  by_cases ho : c.op = 2 ∨ c.op = 3 ∨ c.op = 4
  · rw [atmS_eq, if_pos ho] at hg
    have := hg c (by simp)
    obtain ⟨k1, k2, k3⟩ := kidN_of c.op
    have hnil : c.kids = [] := List.eq_nil_of_length_eq_zero (by have := k3 (by omega) (by omega) (by omega); omega)
    rw [hnil, this]; rfl
  · have : c.kids.map (telS g) = c.kids.map (telS g') := List.map_congr_left fun k hk => ih k hk (h2 k hk) fun a ha => hg a (atm_kid ho hk ha)
    rw [this]
    unfold joinS
    (repeat' split) <;> first | rfl | omega
theorem truS_bd (b : Bool) : -1 ≤ truS b ∧ truS b ≤ 1 := by unfold truS; split <;> omega
theorem atomS_bd (s : Sch) (c : Cnd) (v : Int) : -1 ≤ atomS s c v ∧ atomS s c v ≤ 1 := by
  unfold atomS
  (repeat' split) <;> first | exact truS_bd _ | omega
/-- The truth value for a row. -/
def holdS (s : Sch) (c : Cnd) (row : List Int) : Int := telS (fun a => atomS s a (row.getD a.col.toNat 0)) c
def evaS (s : Sch) (c : Cnd) (row : List Int) : Int := if cndE s c = 0 ∧ rowE s row = 0 then holdS s c row else 0
theorem rowE_parts {s : Sch} {row : List Int} (h : rowE s row = 0) : schE s = 0 ∧ row.length = s.cols.length := by
  unfold rowE at h
  by_cases h1 : schE s = 0
  · rw [if_pos h1] at h
    by_cases h2 : fitsB s row = true
    · unfold fitsB at h2
      simp only [Bool.and_eq_true, decide_eq_true_eq] at h2
      exact ⟨h1, h2.1⟩
    · rw [if_neg h2] at h; cases h
  · rw [if_neg h1] at h; exact absurd h h1
/-- What an atom of a code column is looked up in. -/
theorem atom_code {s : Sch} (hr : schE s = 0) {a : Cnd} (h : conE s a = 0) : a.op = 2 → ∃ x lx, 0 ≤ a.col ∧ s.cols[a.col.toNat]? = some x ∧ 0 ≤ x.lst ∧ s.lists[x.lst.toNat]? = some lx := by
  intro h2
  obtain ⟨_, _, p3, p4, _⟩ := conE_parts h
  have hc := p3 (.inl h2)
  obtain ⟨hk, _⟩ := p4 h2
  obtain ⟨x, hx⟩ : ∃ x, s.cols[a.col.toNat]? = some x := ⟨_, List.getElem?_eq_getElem (by omega)⟩
  rw [colAt_get hx] at hk
  have hl := RightS.lst hr (List.mem_of_getElem? hx) hk
  exact ⟨x, _, hc.1, hx, hl.1, List.getElem?_eq_getElem (by omega)⟩
end Go.Proofs.YtleodngfheedbaaGreatDoor

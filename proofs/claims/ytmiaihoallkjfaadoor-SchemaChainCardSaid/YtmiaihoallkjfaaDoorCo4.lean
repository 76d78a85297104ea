/- Chapter 1: the check of a list. -/
import Derived.Test.YtmiaihoallkjfaaDoorCo3
namespace Go.Proofs.YtmiaihoallkjfaaDoor
open Go Go.Av
attribute [local irreducible] AWp AOps AAny DQ retQ retG St.le FCall GCall
set_option linter.unusedVariables false
set_option linter.unnecessarySimpa false
set_option linter.unusedSimpArgs false

def badP (i : Nat) (p : Int) : Bool := if i = 0 then decide (p ≠ -1) else decide (p < 0 ∨ (i : Int) ≤ p)
/-- The first error of the codes behind others. -/
def scan : List Code → List Code → Option Int
  | _, [] => none
  | pre, c :: r => if nameB c.name = false then some 3 else if c.name ∈ pre.map (·.name) then some 10 else if badP pre.length c.parent = true then some 6 else scan (pre ++ [c]) r
/-- Whether all leaves have one level. -/
def lv : Int → List (Bool × Nat) → Bool
  | _, [] => true
  | l, (lf, d) :: r => if lf = true then (if 0 ≤ l ∧ (d : Int) ≠ l then false else lv d r) else lv l r
def pairs (cs : List Code) : List (Bool × Nat) := (List.range cs.length).map fun (i : Nat) => (leafB cs i, (deps cs).getD i 0)
def chk (nm : List UInt8) (cs : List Code) : Int :=
  if nameB nm = false then 3 else if cs.length = 0 then 5 else if 60 < cs.length then 1 else match scan [] cs with
  | some e => e
  | none => if lv (-1) (pairs cs) = true then 0 else 5

theorem chk_name {nm : List UInt8} {cs : List Code} (h : nameB nm = false) : 3 = chk nm cs := by simp [chk, h]
theorem chk_nil {nm : List UInt8} {cs : List Code} (h : nameB nm = true) (h2 : (cs.length : Int) = 0) : 5 = chk nm cs := by
  have : cs.length = 0 := by omega
  simp [chk, h, this]
theorem chk_long {nm : List UInt8} {cs : List Code} (h : nameB nm = true) (h3 : (60 : Int) < cs.length) : 1 = chk nm cs := by
  have h1 : ¬ cs.length = 0 := by omega
  have h2 : 60 < cs.length := by omega
  simp only [chk, h, h1, h2, if_true, if_false, Bool.true_eq_false]
theorem chk_scan {nm : List UInt8} {cs : List Code} {e : Int} (h : nameB nm = true) (h1 : ¬ (cs.length : Int) = 0) (h2 : ¬ (60 : Int) < cs.length) (h3 : scan [] cs = some e) : e = chk nm cs := by
  have h1 : ¬ cs.length = 0 := by omega
  have h2 : ¬ 60 < cs.length := by omega
  simp only [chk, h, h1, h2, if_false, Bool.true_eq_false, h3]
theorem chk_lv {nm : List UInt8} {cs : List Code} {b : Bool} (h : nameB nm = true) (h1 : ¬ (cs.length : Int) = 0) (h2 : ¬ (60 : Int) < cs.length) (h3 : scan [] cs = none) (h4 : lv (-1) (pairs cs) = b) : (if b = true then 0 else 5 : Int) = chk nm cs := by
  have h1 : ¬ cs.length = 0 := by omega
  have h2 : ¬ 60 < cs.length := by omega
  simp only [chk, h, h1, h2, if_false, Bool.true_eq_false, h3, h4]

theorem drop_cons {α : Type} {l : List α} {k : Nat} {x : α} (h : l[k]? = some x) : l.drop k = x :: l.drop (k + 1) := by
  obtain ⟨h1, h2⟩ := List.getElem?_eq_some_iff.1 h
  rw [List.drop_eq_getElem_cons h1, h2]
theorem take_snoc {α : Type} {l : List α} {k : Nat} {x : α} (h : l[k]? = some x) : l.take (k + 1) = l.take k ++ [x] := by
  rw [List.take_add_one, h]; rfl

/-- So far no error. -/
def ScanAt (cs : List Code) (k : Nat) : Prop := k ≤ cs.length ∧ scan [] cs = scan (cs.take k) (cs.drop k)
theorem ScanAt.step {cs : List Code} {k : Nat} {c : Code} (h : ScanAt cs k) (hc : cs[k]? = some c) (h1 : nameB c.name = true) (h2 : c.name ∉ (cs.take k).map (·.name)) (h3 : badP k c.parent = false) : ScanAt cs (k + 1) := by
  have hlt := (List.getElem?_eq_some_iff.1 hc).1
  refine ⟨hlt, ?_⟩
  have hl : (cs.take k).length = k := by rw [List.length_take]; omega
  rw [h.2, drop_cons hc, take_snoc hc]
  simp only [scan, h1, h2, hl, h3, Bool.true_eq_false, if_false, Bool.false_eq_true]
theorem ScanAt.name {cs : List Code} {k : Nat} {c : Code} (h : ScanAt cs k) (hc : cs[k]? = some c) (h1 : nameB c.name = false) : scan [] cs = some 3 := by
  rw [h.2, drop_cons hc]; simp only [scan, h1, if_true]
theorem ScanAt.dup {cs : List Code} {k : Nat} {c : Code} (h : ScanAt cs k) (hc : cs[k]? = some c) (h1 : nameB c.name = true) (h2 : c.name ∈ (cs.take k).map (·.name)) : scan [] cs = some 10 := by
  rw [h.2, drop_cons hc]; simp only [scan, h1, h2, if_true, Bool.true_eq_false, if_false]
theorem ScanAt.bad {cs : List Code} {k : Nat} {c : Code} (h : ScanAt cs k) (hc : cs[k]? = some c) (h1 : nameB c.name = true) (h2 : c.name ∉ (cs.take k).map (·.name)) (h3 : badP k c.parent = true) : scan [] cs = some 6 := by
  have hlt := (List.getElem?_eq_some_iff.1 hc).1
  have hl : (cs.take k).length = k := by rw [List.length_take]; omega
  rw [h.2, drop_cons hc]; simp only [scan, h1, h2, hl, h3, if_true, Bool.true_eq_false, if_false]
theorem ScanAt.done {cs : List Code} {k : Nat} (h : ScanAt cs k) (hk : ¬ (k : Int) < cs.length) : scan [] cs = none := by
  have e : k = cs.length := by have := h.1; omega
  rw [h.2, e, List.drop_length]; rfl

/-- What the names before are, as a map. -/
def seenM (cs : List Code) (k : Nat) : List (Key × AV) := (cs.take k).map fun c => (Key.s c.name, AV.b true)
theorem seenM_keys (cs : List Code) (k : Nat) : MapKeys .string (seenM cs k) := by
  intro p hp
  obtain ⟨c, _, rfl⟩ := List.mem_map.1 hp
  rfl
theorem mget_map (l : List Code) (n : List UInt8) : mgetD (l.map fun c => (Key.s c.name, AV.b true)) (.s n) (ofV (.bool false)) = .b (decide (n ∈ l.map (·.name))) := by
  induction l with
  | nil => rfl
  | cons a r ih =>
    unfold mgetD mget at ih ⊢
    rw [List.map_cons, List.find?_cons]
    by_cases e : a.name = n
    · subst e; simp
    · have : ¬ n = a.name := fun h => e h.symm
      simp only [Key.s.injEq, e, decide_false]
      rw [ih]
      simp [this]
theorem seen_get (cs : List Code) (k : Nat) (n : List UInt8) : mgetD (seenM cs k) (.s n) (ofV (.bool false)) = .b (decide (n ∈ (cs.take k).map (·.name))) := mget_map _ n
theorem mset_new (l : List Code) (n : List UInt8) (h : n ∉ l.map (·.name)) : mset (l.map fun c => (Key.s c.name, AV.b true)) (.s n) (.b true) = (l.map fun c => (Key.s c.name, AV.b true)) ++ [(.s n, .b true)] := by
  induction l with
  | nil => rfl
  | cons a r ih =>
    simp only [List.map_cons, List.mem_cons, not_or] at h
    have : ¬ Key.s a.name = Key.s n := by simp; exact fun e => h.1 e.symm
    simp only [List.map_cons, mset, this, if_false, List.cons_append, ih h.2]
theorem seen_set {cs : List Code} {k : Nat} {c : Code} (hc : cs[k]? = some c) (h : c.name ∉ (cs.take k).map (·.name)) : mset (seenM cs k) (.s c.name) (.b true) = seenM cs (k + 1) := by
  unfold seenM
  rw [mset_new _ _ h, take_snoc hc, List.map_append]
  rfl

/-- Which codes are the parent of one. -/
def abv (cs : List Code) : Nat → List Bool
  | 0 => List.replicate cs.length false
  | k + 1 => if k = 0 then abv cs k else match cs[k]? with
    | some c => (abv cs k).set c.parent.toNat true
    | none => abv cs k
theorem abv_length (cs : List Code) : ∀ k, (abv cs k).length = cs.length
  | 0 => by simp [abv]
  | k + 1 => by
    unfold abv
    split
    · exact abv_length cs k
    · split
      · rw [List.length_set]; exact abv_length cs k
      · exact abv_length cs k
theorem abv_skip {cs : List Code} {k : Nat} (hk : k = 0) : abv cs (k + 1) = abv cs k := by simp [abv, hk]
theorem abv_next {cs : List Code} {k : Nat} {c : Code} (hk : 0 < k) (hc : cs[k]? = some c) : abv cs (k + 1) = (abv cs k).set c.parent.toNat true := by
  have : ¬ k = 0 := by omega
  rw [abv, if_neg this, hc]

theorem scan_all : ∀ (cs pre : List Code), scan pre cs = none → ∀ (i : Nat) c, cs[i]? = some c → badP (pre.length + i) c.parent = false
  | [], pre, _, i, c, hc => by simp at hc
  | a :: r, pre, h, i, c, hc => by
    simp only [scan] at h
    split at h
    · cases h
    · split at h
      · cases h
      · split at h
        · cases h
        · rename_i h3
          cases i with
          | zero => simp at hc; subst hc; simpa using h3
          | succ i =>
            have := scan_all r (pre ++ [a]) h i c (by simpa using hc)
            rw [List.length_append, List.length_singleton] at this
            rw [show pre.length + (i + 1) = pre.length + 1 + i by omega]
            exact this
theorem scan_good {cs : List Code} (h : scan [] cs = none) : Good cs := by
  refine ⟨fun i c hc hi => ?_, fun c hc => ?_⟩
  · have := scan_all cs [] h i c hc
    simp [badP, Nat.ne_of_gt hi] at this
    omega
  · have := scan_all cs [] h 0 c hc
    simpa [badP] using this

theorem chk_bad {nm : List UInt8} {cs : List Code} (h : nameB nm = true) (h1 : ¬ (cs.length : Int) = 0) (h2 : ¬ (60 : Int) < cs.length) (h3 : scan [] cs = none) (h4 : lv (-1) (pairs cs) = false) : 5 = chk nm cs := by
  simpa using chk_lv h h1 h2 h3 h4
theorem chk_ok {nm : List UInt8} {cs : List Code} (h : nameB nm = true) (h1 : ¬ (cs.length : Int) = 0) (h2 : ¬ (60 : Int) < cs.length) (h3 : scan [] cs = none) (h4 : lv (-1) (pairs cs) = true) : 0 = chk nm cs := by
  simpa using chk_lv h h1 h2 h3 h4

theorem abv_at {cs : List Code} (hg : Good cs) : ∀ (k j : Nat), k ≤ cs.length → j < cs.length → ∃ b, (abv cs k)[j]? = some b ∧ (b = true ↔ ∃ (i : Nat) (c : Code), 0 < i ∧ i < k ∧ cs[i]? = some c ∧ c.parent = j)
  | 0, j, _, hj => ⟨false, by simp [abv, hj], by simp⟩
  | k + 1, j, hk, hj => by
    obtain ⟨b, hb, ih⟩ := abv_at hg k j (by omega) hj
    by_cases h0 : k = 0
    · subst h0
      refine ⟨b, by rw [abv_skip rfl, hb], ih.trans ⟨?_, ?_⟩⟩
      · rintro ⟨i, c, h1, h2, _⟩; omega
      · rintro ⟨i, c, h1, h2, _⟩; omega
    · have hc : cs[k]? = some cs[k] := List.getElem?_eq_getElem (by omega)
      obtain ⟨h1, h2⟩ := hg.before k _ hc (by omega)
      by_cases hp : (cs[k].parent).toNat = j
      · refine ⟨true, ?_, fun _ => ⟨k, _, by omega, by omega, hc, by omega⟩, fun _ => rfl⟩
        rw [abv_next (by omega) hc, List.getElem?_set, if_pos hp, if_pos (by rw [abv_length]; omega)]
      · refine ⟨b, ?_, ih.trans ⟨?_, ?_⟩⟩
        · rw [abv_next (by omega) hc, List.getElem?_set, if_neg hp, hb]
        · rintro ⟨i, c, g1, g2, g3, g4⟩; exact ⟨i, c, g1, by omega, g3, g4⟩
        · rintro ⟨i, c, g1, g2, g3, g4⟩
          refine ⟨i, c, g1, ?_, g3, g4⟩
          rcases Nat.lt_or_ge i k with h | h
          · exact h
          · have : i = k := by omega
            subst this
            rw [hc] at g3
            cases g3
            omega
theorem abv_leaf {cs : List Code} (hg : Good cs) {j : Nat} {x : Bool} (h : (abv cs cs.length)[j]? = some x) : leafB cs j = !x := by
  have hj : j < cs.length := by rw [← abv_length cs cs.length]; exact (List.getElem?_eq_some_iff.1 h).1
  obtain ⟨b, hb, hiff⟩ := abv_at hg _ j (Nat.le_refl _) hj
  rw [hb] at h
  cases h
  cases hx : leafB cs j with
  | true =>
    cases x with
    | false => rfl
    | true =>
      obtain ⟨i, c, _, _, h3, h4⟩ := hiff.1 rfl
      have := List.all_eq_true.1 hx c (List.mem_of_getElem? h3)
      simp [h4] at this
  | false =>
    cases x with
    | true => rfl
    | false =>
      exfalso
      obtain ⟨c, hc, he⟩ := List.all_eq_false.1 hx
      obtain ⟨i, hi, rfl⟩ := List.getElem_of_mem hc
      have he : cs[i].parent = j := by simpa using he
      have : (false = true) := hiff.2 ⟨i, _, by
        rcases Nat.eq_zero_or_pos i with e | e
        · subst e
          have := hg.root _ (List.getElem?_eq_getElem hi)
          omega
        · exact e, hi, List.getElem?_eq_getElem hi, he⟩
      cases this
theorem pairs_at {cs : List Code} {k d : Nat} (h : (deps cs)[k]? = some d) : (pairs cs)[k]? = some (leafB cs k, d) := by
  have hk : k < cs.length := by rw [← deps_length cs]; exact (List.getElem?_eq_some_iff.1 h).1
  simp [pairs, hk, h]
theorem pairs_length (cs : List Code) : (pairs cs).length = cs.length := by simp [pairs]
/-- So far one level. -/
def LvAt (cs : List Code) (k : Nat) (l : Int) : Prop := k ≤ cs.length ∧ lv (-1) (pairs cs) = lv l ((pairs cs).drop k) ∧ -1 ≤ l
theorem LvAt.skip {cs : List Code} {k d : Nat} {l : Int} (h : LvAt cs k l) (hd : (deps cs)[k]? = some d) (hl : leafB cs k = false) : LvAt cs (k + 1) l := by
  have hk : k < cs.length := by rw [← deps_length cs]; exact (List.getElem?_eq_some_iff.1 hd).1
  refine ⟨hk, ?_, h.2.2⟩
  rw [h.2.1, drop_cons (pairs_at hd), hl]
  simp [lv]
theorem LvAt.next {cs : List Code} {k d : Nat} {l : Int} (h : LvAt cs k l) (hd : (deps cs)[k]? = some d) (hl : leafB cs k = true) (h2 : ¬ (0 ≤ l ∧ (d : Int) ≠ l)) : LvAt cs (k + 1) d := by
  have hk : k < cs.length := by rw [← deps_length cs]; exact (List.getElem?_eq_some_iff.1 hd).1
  refine ⟨hk, ?_, by omega⟩
  rw [h.2.1, drop_cons (pairs_at hd), hl]
  simp only [lv, if_true, if_neg h2]
theorem LvAt.bad {cs : List Code} {k d : Nat} {l : Int} (h : LvAt cs k l) (hd : (deps cs)[k]? = some d) (hl : leafB cs k = true) (h2 : 0 ≤ l ∧ (d : Int) ≠ l) : lv (-1) (pairs cs) = false := by
  rw [h.2.1, drop_cons (pairs_at hd), hl]
  simp only [lv, if_true, if_pos h2]
theorem LvAt.done {cs : List Code} {k : Nat} {l : Int} (h : LvAt cs k l) (hk : ¬ (k : Int) < cs.length) : lv (-1) (pairs cs) = true := by
  have e : k = (pairs cs).length := by rw [pairs_length]; have := h.1; omega
  rw [h.2.1, e, List.drop_length]; rfl

abbrev bA (b : Bool) : List AV := [.b b]

set_option maxHeartbeats 4000000 in
theorem check_call (nm : List UInt8) (cs : List Code) (hlen : cs.length ≤ 9223372036854775807) : FCall Tryd.prog 20 [lA nm cs] (.i (chk nm cs)) := by
  refine fcall_intro (n := 102) Tryd.func20 (by kernel_rfl) rfl rfl rfl rfl rfl (by intro t T h; cases h) (fun hrd E h0 => ?_)
  repeat' ((first | refine call_i (name_call _) ?_ | refine draw_e ⟨[(1, .ref 0 0), (2, .i 0), (3, .mp 1), (4, .row 2 0 cs.length)], 3, [(0, some (.box [.str nm, .sl 2 (cs.map cA)])), (1, some (.map [])), (2, some (.row 4 1 0 (List.replicate cs.length [.b false])))]⟩ ?_ ?_  | refine aops_go ?_ | refine awp_go ?_ | refine var_i ?_ | refine fld_i ?_ | refine sl_i ?_ | refine arr_i ?_ | refine strt_i ?_ | refine boolt_i ?_ | refine zero_i ?_ | refine build_i ?_ | (refine row_i ?_ ?_; rfl) | refine map_i ?_ | refine guard_tt ?_ | refine guard_ff ?_ | refine guard_tf ?_ | refine guard_ft ?_ | (refine guard_dt (fun h => ?_) (fun h => ?_) <;> try (first | (exfalso; omega) | exact absurd rfl h)) | (refine guard_df (fun h => ?_) (fun h => ?_) <;> try (first | (exfalso; omega) | exact absurd rfl h)) | (refine guard_ndt (fun h => ?_) (fun h => ?_) <;> try (first | (exfalso; omega) | exact absurd rfl h)) | (refine guard_ndf (fun h => ?_) (fun h => ?_) <;> try (first | (exfalso; omega) | exact absurd rfl h)) | refine guard_nbt (fun h => ?_) (fun h => ?_) | refine guard_nbf (fun h => ?_) (fun h => ?_) | refine guard_bt (fun h => ?_) (fun h => ?_) | refine guard_bf (fun h => ?_) (fun h => ?_) | refine cond_t ?_ | refine cond_f ?_ | (refine cond_d (fun h => ?_) (fun h => ?_) <;> try (first | (exfalso; omega) | exact absurd rfl h)) | (refine cond_nd (fun h => ?_) (fun h => ?_) <;> try (first | (exfalso; omega) | exact absurd rfl h)) | refine cond_nb (fun h => ?_) (fun h => ?_) | refine cond_b (fun h => ?_) (fun h => ?_) | (refine side_i ?_ ?_; (first | omega | exact Eq.refl _ | exact ⟨Eq.refl _, by omega⟩ | (simp only [List.length_map]; omega))) | (refine side_i (imsB ?_) ?_; rfl) | (refine side_i (ims_map fun x => ?_) ?_; rfl) | (refine side_i ?_ ?_; (constructor <;> (simp only [elsA, cellsA, List.length_cons, List.length_nil, List.length_map]; omega))) | refine len_map ?_ | refine len_l ?_ | (refine each_knownm (by assumption) (by omega) ?_) | (refine each_known (by assumption) (by omega) ?_) | (refine each_mapNb ?_ (fun el hel hbB => ?_); omega) | (refine each_mapb ?_ ?_ (fun el hel hbB => ?_); omega; omega) | (refine each_lb ?_ ?_ (fun el hel hbB => ?_); omega; omega) | (refine each_mapN ?_ (fun el hel => ?_); omega) | (refine each_map ?_ ?_ (fun el hel => ?_); omega; omega) | (refine each_l ?_ ?_ (fun el hel => ?_); omega; omega) | (refine conv_bytes ?_ ?_; omega) | refine conv_u8 ?_ | refine conv_int ?_ | refine dq_go ?_ | (refine aany_go ?_ ?_ ?_; kernel_rfl; rfl) | (refine many_step ?_ ?_ ?_; kernel_rfl; kernel_rfl) | refine ex_i (fun ex => ?_) | refine allMP_c ?_ ?_ | exact allMP_n | (refine mpost_i ?_ ?_ ?_ ?_; rfl; rfl; rfl) | (refine free_i ?_ ?_; exact ⟨by kernel_rfl, by decide⟩) | refine allI_c ?_ ?_ | exact allI_n | refine conv_rune ?_ | (refine draw_p ?_ ?_ ?_; rfl; kernel_rfl)) <;> (try (conv => whnf)))
  case refine_1 => exact ret_tmp rfl (congrArg AV.i (chk_name h))
  case refine_2.refine_1 => exact ret_tmp rfl (congrArg AV.i (chk_nil (by assumption) h))
  case refine_2.refine_2.refine_1 => exact ret_tmp rfl (congrArg AV.i (chk_long (by assumption) h))
  case refine_2.refine_2.refine_2.refine_2 =>
    rename_i hn hz
    have hl := h
    clear h
    have hlen6 : cs.length ≤ 1000000 := by omega
    refine loop_i (ι := Nat) (fun k => ⟨[(1, .ref 0 0), (3, .mp 1), (4, .row 2 0 cs.length), (31, .sl 2 (cs.map cA)), (32, .i cs.length), (33, .i k)], 3, [(0, some (.box [.str nm, .sl 2 (cs.map cA)])), (1, some (.map (seenM cs k))), (2, some (.row 4 1 0 ((abv cs k).map bA)))]⟩) (fun k => ScanAt cs k) (fun k => cs.length - k) 0 ⟨Nat.zero_le _, by simp⟩ (le_of h0 rfl ⟨rfl, rfl, rfl, rfl, rfl, rfl, trivial⟩ ⟨rfl, rfl, ⟨0, by simp [abv]⟩, trivial⟩ rfl rfl rfl) (fun k hI => ?_)
    repeat' ((first | refine call_i (name_call _) ?_ | refine call_i (depths_call _ _ (scan_good (hI.done (by assumption))).before hlen6) ?_ | (refine side_i ?_ ?_; exact seenM_keys _ _) | refine as_eq (seen_get _ _ _) ?_ | (refine each_mapN ?_ (fun x hx => ?_); (rw [abv_length]; omega))  | refine aops_go ?_ | refine awp_go ?_ | refine var_i ?_ | refine fld_i ?_ | refine sl_i ?_ | refine arr_i ?_ | refine strt_i ?_ | refine boolt_i ?_ | refine zero_i ?_ | refine build_i ?_ | (refine row_i ?_ ?_; rfl) | refine map_i ?_ | refine guard_tt ?_ | refine guard_ff ?_ | refine guard_tf ?_ | refine guard_ft ?_ | (refine guard_dt (fun h => ?_) (fun h => ?_) <;> try (first | (exfalso; omega) | exact absurd rfl h)) | (refine guard_df (fun h => ?_) (fun h => ?_) <;> try (first | (exfalso; omega) | exact absurd rfl h)) | (refine guard_ndt (fun h => ?_) (fun h => ?_) <;> try (first | (exfalso; omega) | exact absurd rfl h)) | (refine guard_ndf (fun h => ?_) (fun h => ?_) <;> try (first | (exfalso; omega) | exact absurd rfl h)) | refine guard_nbt (fun h => ?_) (fun h => ?_) | refine guard_nbf (fun h => ?_) (fun h => ?_) | refine guard_bt (fun h => ?_) (fun h => ?_) | refine guard_bf (fun h => ?_) (fun h => ?_) | refine cond_t ?_ | refine cond_f ?_ | (refine cond_d (fun h => ?_) (fun h => ?_) <;> try (first | (exfalso; omega) | exact absurd rfl h)) | (refine cond_nd (fun h => ?_) (fun h => ?_) <;> try (first | (exfalso; omega) | exact absurd rfl h)) | refine cond_nb (fun h => ?_) (fun h => ?_) | refine cond_b (fun h => ?_) (fun h => ?_) | (refine side_i ?_ ?_; (first | omega | exact Eq.refl _ | exact ⟨Eq.refl _, by omega⟩ | (simp only [List.length_map]; omega))) | (refine side_i (imsB ?_) ?_; rfl) | (refine side_i (ims_map fun x => ?_) ?_; rfl) | (refine side_i ?_ ?_; (constructor <;> (simp only [elsA, cellsA, List.length_cons, List.length_nil, List.length_map]; omega))) | refine len_map ?_ | refine len_l ?_ | (refine each_knownm (by assumption) (by omega) ?_) | (refine each_known (by assumption) (by omega) ?_) | (refine each_mapNb ?_ (fun el hel hbB => ?_); omega) | (refine each_mapb ?_ ?_ (fun el hel hbB => ?_); omega; omega) | (refine each_lb ?_ ?_ (fun el hel hbB => ?_); omega; omega) | (refine each_mapN ?_ (fun el hel => ?_); omega) | (refine each_map ?_ ?_ (fun el hel => ?_); omega; omega) | (refine each_l ?_ ?_ (fun el hel => ?_); omega; omega) | (refine conv_bytes ?_ ?_; omega) | refine conv_u8 ?_ | refine conv_int ?_ | refine dq_go ?_ | (refine aany_go ?_ ?_ ?_; kernel_rfl; rfl) | (refine many_step ?_ ?_ ?_; kernel_rfl; kernel_rfl) | refine ex_i (fun ex => ?_) | refine allMP_c ?_ ?_ | exact allMP_n | (refine mpost_i ?_ ?_ ?_ ?_; rfl; rfl; rfl) | (refine free_i ?_ ?_; exact ⟨by kernel_rfl, by decide⟩) | refine allI_c ?_ ?_ | exact allI_n | refine conv_rune ?_ | (refine draw_p ?_ ?_ ?_; rfl; kernel_rfl)) <;> (try (conv => whnf)))
    all_goals first
      | exact ret_tmp rfl (congrArg AV.i (chk_scan hn hz hl (hI.name hel (by assumption))))
      | exact ret_tmp rfl (congrArg AV.i (chk_scan hn hz hl (hI.dup hel (by assumption) (by assumption))))
      | exact ret_tmp rfl (congrArg AV.i (chk_scan hn hz hl (hI.bad hel (by assumption) (by assumption) (by unfold badP; split <;> simp <;> omega))))
      | exact ⟨k + 1, hI.step hel (by assumption) (by assumption) (by unfold badP; split <;> simp <;> omega), by omega, le_of h0 rfl ⟨rfl, rfl, rfl, rfl, rfl, rfl, trivial⟩ ⟨rfl, congrArg Blk.map (seen_set hel (by assumption)).symm, ⟨0, congrArg (fun l => Blk.row 4 1 0 (l.map bA)) (abv_skip (by omega))⟩, trivial⟩ rfl rfl rfl⟩
      | exact ⟨k + 1, hI.step hel (by assumption) (by assumption) (by unfold badP; split <;> simp <;> omega), by omega, le_of h0 rfl ⟨rfl, rfl, rfl, rfl, rfl, rfl, trivial⟩ ⟨rfl, congrArg Blk.map (seen_set hel (by assumption)).symm, ⟨0, congrArg (Blk.row 4 1 0) ((congrArg (List.map bA) (abv_next (by omega) hel)).trans List.map_set)⟩, trivial⟩ rfl rfl rfl⟩
      | skip
    have hs := hI.done h
    have hg := scan_good hs
    have hk : k = cs.length := by have := hI.1; omega
    subst hk
    refine loop_i (ι := Nat × Int) (fun x => ⟨[(4, .row 2 0 cs.length), (7, .i x.2), (82, .sl 1 ((deps cs).map iA)), (83, .i (deps cs).length), (84, .i x.1)], 3, [(2, some (.row 4 1 0 ((abv cs cs.length).map bA)))]⟩) (fun x => LvAt cs x.1 x.2) (fun x => cs.length - x.1) (0, -1) ⟨Nat.zero_le _, by simp, by simp⟩ (le_of h0 rfl ⟨rfl, rfl, rfl, rfl, rfl, trivial⟩ ⟨⟨0, rfl⟩, trivial⟩ rfl rfl rfl) (fun x hJ => ?_)
    obtain ⟨j, l⟩ := x
    have hJ0 := hJ.1
    have hJ2 := hJ.2.2
    have hdl := deps_length cs
    simp only at hJ hJ0 hJ2
    repeat' ((first | (refine each_mapN ?_ (fun x hx => ?_); (rw [abv_length]; omega))  | refine aops_go ?_ | refine awp_go ?_ | refine var_i ?_ | refine fld_i ?_ | refine sl_i ?_ | refine arr_i ?_ | refine strt_i ?_ | refine boolt_i ?_ | refine zero_i ?_ | refine build_i ?_ | (refine row_i ?_ ?_; rfl) | refine map_i ?_ | refine guard_tt ?_ | refine guard_ff ?_ | refine guard_tf ?_ | refine guard_ft ?_ | (refine guard_dt (fun h => ?_) (fun h => ?_) <;> try (first | (exfalso; omega) | exact absurd rfl h)) | (refine guard_df (fun h => ?_) (fun h => ?_) <;> try (first | (exfalso; omega) | exact absurd rfl h)) | (refine guard_ndt (fun h => ?_) (fun h => ?_) <;> try (first | (exfalso; omega) | exact absurd rfl h)) | (refine guard_ndf (fun h => ?_) (fun h => ?_) <;> try (first | (exfalso; omega) | exact absurd rfl h)) | refine guard_nbt (fun h => ?_) (fun h => ?_) | refine guard_nbf (fun h => ?_) (fun h => ?_) | refine guard_bt (fun h => ?_) (fun h => ?_) | refine guard_bf (fun h => ?_) (fun h => ?_) | refine cond_t ?_ | refine cond_f ?_ | (refine cond_d (fun h => ?_) (fun h => ?_) <;> try (first | (exfalso; omega) | exact absurd rfl h)) | (refine cond_nd (fun h => ?_) (fun h => ?_) <;> try (first | (exfalso; omega) | exact absurd rfl h)) | refine cond_nb (fun h => ?_) (fun h => ?_) | refine cond_b (fun h => ?_) (fun h => ?_) | (refine side_i ?_ ?_; (first | omega | exact Eq.refl _ | exact ⟨Eq.refl _, by omega⟩ | (simp only [List.length_map]; omega))) | (refine side_i (imsB ?_) ?_; rfl) | (refine side_i (ims_map fun x => ?_) ?_; rfl) | (refine side_i ?_ ?_; (constructor <;> (simp only [elsA, cellsA, List.length_cons, List.length_nil, List.length_map]; omega))) | refine len_map ?_ | refine len_l ?_ | (refine each_knownm (by assumption) (by omega) ?_) | (refine each_known (by assumption) (by omega) ?_) | (refine each_mapNb ?_ (fun el hel hbB => ?_); omega) | (refine each_mapb ?_ ?_ (fun el hel hbB => ?_); omega; omega) | (refine each_lb ?_ ?_ (fun el hel hbB => ?_); omega; omega) | (refine each_mapN ?_ (fun el hel => ?_); omega) | (refine each_map ?_ ?_ (fun el hel => ?_); omega; omega) | (refine each_l ?_ ?_ (fun el hel => ?_); omega; omega) | (refine conv_bytes ?_ ?_; omega) | refine conv_u8 ?_ | refine conv_int ?_ | refine dq_go ?_ | (refine aany_go ?_ ?_ ?_; kernel_rfl; rfl) | (refine many_step ?_ ?_ ?_; kernel_rfl; kernel_rfl) | refine ex_i (fun ex => ?_) | refine allMP_c ?_ ?_ | exact allMP_n | (refine mpost_i ?_ ?_ ?_ ?_; rfl; rfl; rfl) | (refine free_i ?_ ?_; exact ⟨by kernel_rfl, by decide⟩) | refine allI_c ?_ ?_ | exact allI_n | refine conv_rune ?_ | (refine draw_p ?_ ?_ ?_; rfl; kernel_rfl)) <;> (try (conv => whnf)))
    all_goals first
      | exact ⟨(j + 1, l), hJ.skip hel (by rw [abv_leaf (j := j) hg hx, h]; rfl), by simp only; omega, le_of h0 rfl ⟨rfl, rfl, rfl, rfl, rfl, trivial⟩ ⟨⟨0, rfl⟩, trivial⟩ rfl rfl rfl⟩
      | exact ret_tmp rfl (congrArg AV.i (chk_bad hn hz hl hs (hJ.bad hel (by rw [abv_leaf (j := j) hg hx]; simp [*]) ⟨by assumption, by assumption⟩)))
      | exact ⟨(j + 1, (el : Int)), hJ.next hel (by rw [abv_leaf (j := j) hg hx]; simp [*]) (by simp only at *; omega), by simp only; omega, le_of h0 rfl ⟨rfl, rfl, rfl, rfl, rfl, trivial⟩ ⟨⟨0, rfl⟩, trivial⟩ rfl rfl rfl⟩
      | exact ret_tmp rfl (congrArg AV.i (chk_ok hn hz hl hs (hJ.done (by simp only at *; omega))))
  all_goals first
    | exact le_of h0 rfl ⟨rfl, rfl, rfl, rfl, trivial⟩ ⟨rfl, rfl, ⟨0, rfl⟩, trivial⟩ rfl rfl rfl
    | exact le_trans (le_swp 1 2 h0 rfl rfl) (le_of h0 rfl ⟨rfl, rfl, rfl, rfl, trivial⟩ ⟨rfl, rfl, ⟨0, rfl⟩, trivial⟩ rfl rfl rfl)
end Go.Proofs.YtmiaihoallkjfaaDoor

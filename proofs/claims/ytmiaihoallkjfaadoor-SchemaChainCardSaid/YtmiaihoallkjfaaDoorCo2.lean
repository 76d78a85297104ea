/- Chapter 1: the levels of codes. -/
import Derived.Test.YtmiaihoallkjfaaDoorCo1
namespace Go.Proofs.YtmiaihoallkjfaaDoor
open Go Go.Av
attribute [local irreducible] AWp AOps AAny DQ retQ retG St.le FCall GCall
set_option linter.unusedVariables false
set_option linter.unnecessarySimpa false
set_option linter.unusedSimpArgs false

structure Code where
  name : List UInt8
  parent : Int
deriving DecidableEq
abbrev cA (c : Code) : List AV := [.str c.name, .i c.parent]
abbrev iA (d : Nat) : List AV := [.i (d : Int)]
abbrev lA (nm : List UInt8) (cs : List Code) : AV := .agg [.str nm, .sl 2 (cs.map cA)]

/-- The level of each code, if the parents stand before. -/
def depsFrom : List Nat → List Code → List Nat
  | out, [] => out
  | out, c :: r => depsFrom (out ++ [if out = [] then 0 else out.getD c.parent.toNat 0 + 1]) r
def deps (cs : List Code) : List Nat := depsFrom [] cs

theorem depsFrom_length : ∀ (cs : List Code) (out : List Nat), (depsFrom out cs).length = out.length + cs.length
  | [], out => rfl
  | c :: r, out => by simp only [depsFrom, depsFrom_length r]; simp; omega
theorem deps_length (cs : List Code) : (deps cs).length = cs.length := by simp [deps, depsFrom_length]
theorem depsFrom_get : ∀ (cs : List Code) (out : List Nat) (j : Nat), j < out.length → (depsFrom out cs)[j]? = out[j]?
  | [], out, j, _ => rfl
  | c :: r, out, j, h => by
    simp only [depsFrom]
    rw [depsFrom_get r _ j (by simp; omega), List.getElem?_append_left h]
theorem depsFrom_next : ∀ (cs : List Code) (out : List Nat) (k : Nat) (c : Code), cs[k]? = some c → ((out ++ [] = [] ∧ k = 0) ∨ True) →
    (depsFrom out cs)[out.length + k]? = some (if out.length + k = 0 then 0 else if c.parent.toNat < out.length + k then (depsFrom out cs).getD c.parent.toNat 0 + 1 else 1)
  | [], out, k, c, h, _ => by simp at h
  | a :: r, out, 0, c, h, _ => by
    simp at h
    subst h
    simp only [depsFrom, Nat.add_zero]
    rw [depsFrom_get _ _ _ (by simp)]
    simp only [List.getElem?_append_right (Nat.le_refl _), Nat.sub_self, List.getElem?_cons_zero]
    congr 1
    by_cases e : out = []
    · subst e; simp
    · have hl : ¬ out.length = 0 := by simpa using e
      rw [if_neg e, if_neg hl]
      by_cases hp : a.parent.toNat < out.length
      · rw [if_pos hp, List.getD_eq_getElem?_getD, List.getD_eq_getElem?_getD, depsFrom_get _ _ _ (by simp; omega), List.getElem?_append_left hp]
      · rw [if_neg hp, List.getD_eq_getElem?_getD, List.getElem?_eq_none (by omega)]
        rfl
  | a :: r, out, k + 1, c, h, _ => by
    simp only [depsFrom]
    have := depsFrom_next r (out ++ [if out = [] then 0 else out.getD a.parent.toNat 0 + 1]) k c (by simpa using h) (.inr trivial)
    simp only [List.length_append, List.length_cons, List.length_nil] at this
    rw [show out.length + (k + 1) = out.length + (0 + 1) + k by omega]
    exact this

/-- The parents stand before. -/
def Before (cs : List Code) : Prop := ∀ (i : Nat) c, cs[i]? = some c → 0 < i → 0 ≤ c.parent ∧ c.parent < i

theorem deps_get {cs : List Code} (h : Before cs) {k : Nat} {c : Code} (hc : cs[k]? = some c) : (deps cs)[k]? = some (if k = 0 then 0 else (deps cs).getD c.parent.toNat 0 + 1) := by
  have h1 := depsFrom_next cs [] k c hc (.inr trivial)
  simp only [List.length_nil, Nat.zero_add] at h1
  unfold deps
  rw [h1]
  congr 1
  by_cases e : k = 0
  · simp [e]
  · rw [if_neg e, if_neg e]
    have := h k c hc (by omega)
    rw [if_pos (by omega)]

def rowL (D : List Nat) (n k : Nat) : List Nat := D.take k ++ List.replicate (n - k) 0
theorem rowL_length {D : List Nat} {n k : Nat} (hD : D.length = n) (hk : k ≤ n) : (rowL D n k).length = n := by simp [rowL, hD]; omega
theorem rowL_get {D : List Nat} {n k i : Nat} (hD : D.length = n) (hk : k ≤ n) (hi : i < k) : (rowL D n k)[i]? = D[i]? := by
  rw [rowL, List.getElem?_append_left (by simp; omega), List.getElem?_take_of_lt hi]
theorem rowL_set {D : List Nat} {n k : Nat} {d : Nat} (hD : D.length = n) (hk : k < n) (hd : D[k]? = some d) : ((rowL D n k).map iA).set k (iA d) = (rowL D n (k + 1)).map iA := by
  have e : n - k = (n - (k + 1)) + 1 := by omega
  have h1 : (D.take k).length = k := by rw [List.length_take]; omega
  rw [rowL, e, List.replicate_succ, rowL, List.take_add_one, hd]
  rw [List.map_append, List.map_cons, List.set_append_right _ _ (by rw [List.length_map, h1]; exact Nat.le_refl _), List.length_map, h1, Nat.sub_self]
  simp
theorem rowL_zero (D : List Nat) (n : Nat) : (rowL D n 0).map iA = List.replicate n (iA 0) := by simp [rowL]
theorem rowL_full {D : List Nat} {n : Nat} (hD : D.length = n) : rowL D n n = D := by simp [rowL, ← hD]

theorem rowL_skip {D : List Nat} {n k : Nat} (hD : D.length = n) (hk : k < n) (hd : D[k]? = some 0) : rowL D n k = rowL D n (k + 1) := by
  have e : n - k = (n - (k + 1)) + 1 := by omega
  rw [rowL, e, List.replicate_succ, rowL, List.take_add_one, hd]
  simp
theorem deps_le {cs : List Code} (h : Before cs) : ∀ (j d : Nat), (deps cs)[j]? = some d → d ≤ j := by
  intro j
  induction j using Nat.strongRecOn with
  | _ j ih =>
    intro d hd
    have hlt : j < cs.length := by rw [← deps_length cs]; exact (List.getElem?_eq_some_iff.1 hd).1
    have hc := List.getElem?_eq_getElem hlt
    rw [deps_get h hc] at hd
    by_cases e : j = 0
    · simp [e] at hd; omega
    · rw [if_neg e] at hd
      obtain ⟨h1, h2⟩ := h j _ hc (by omega)
      have hp : (cs[j].parent).toNat < j := by omega
      have hp2 : (cs[j].parent).toNat < (deps cs).length := by rw [deps_length]; omega
      have := ih _ hp _ (List.getElem?_eq_getElem hp2)
      rw [List.getD_eq_getElem?_getD, List.getElem?_eq_getElem hp2] at hd
      simp at hd
      omega

set_option maxHeartbeats 1000000 in
theorem depths_call (nm : List UInt8) (cs : List Code) (hb : Before cs) (hlen : cs.length ≤ 1000000) : FCall Tryd.prog 64 [lA nm cs] (.sl 1 ((deps cs).map iA)) := by
  have hD := deps_length cs
  refine fcall_intro (n := 31) Tryd.func64 (by kernel_rfl) rfl rfl rfl rfl rfl (by intro t T h; cases h) (fun hrd E h0 => ?_)
  repeat' ((first | refine aops_go ?_ | refine awp_go ?_ | refine var_i ?_ | refine fld_i ?_ | refine sl_i ?_ | refine arr_i ?_ | refine strt_i ?_ | refine boolt_i ?_ | refine zero_i ?_ | refine build_i ?_ | (refine row_i ?_ ?_; rfl) | refine map_i ?_ | refine guard_tt ?_ | refine guard_ff ?_ | refine guard_tf ?_ | refine guard_ft ?_ | (refine guard_dt (fun h => ?_) (fun h => ?_) <;> try (first | (exfalso; omega) | exact absurd rfl h)) | (refine guard_df (fun h => ?_) (fun h => ?_) <;> try (first | (exfalso; omega) | exact absurd rfl h)) | (refine guard_ndt (fun h => ?_) (fun h => ?_) <;> try (first | (exfalso; omega) | exact absurd rfl h)) | (refine guard_ndf (fun h => ?_) (fun h => ?_) <;> try (first | (exfalso; omega) | exact absurd rfl h)) | refine guard_nbt (fun h => ?_) (fun h => ?_) | refine guard_nbf (fun h => ?_) (fun h => ?_) | refine guard_bt (fun h => ?_) (fun h => ?_) | refine guard_bf (fun h => ?_) (fun h => ?_) | refine cond_t ?_ | refine cond_f ?_ | (refine cond_d (fun h => ?_) (fun h => ?_) <;> try (first | (exfalso; omega) | exact absurd rfl h)) | (refine cond_nd (fun h => ?_) (fun h => ?_) <;> try (first | (exfalso; omega) | exact absurd rfl h)) | refine cond_nb (fun h => ?_) (fun h => ?_) | refine cond_b (fun h => ?_) (fun h => ?_) | (refine side_i ?_ ?_; (first | omega | exact Eq.refl _ | exact ⟨Eq.refl _, by omega⟩ | (simp only [List.length_map]; omega))) | (refine side_i (imsB ?_) ?_; rfl) | (refine side_i (ims_map fun x => ?_) ?_; rfl) | (refine side_i ?_ ?_; (constructor <;> (simp only [elsA, cellsA, List.length_cons, List.length_nil, List.length_map]; omega))) | refine len_map ?_ | refine len_l ?_ | (refine each_knownm (by assumption) (by omega) ?_) | (refine each_known (by assumption) (by omega) ?_) | (refine each_mapNb ?_ (fun el hel hbB => ?_); omega) | (refine each_mapb ?_ ?_ (fun el hel hbB => ?_); omega; omega) | (refine each_lb ?_ ?_ (fun el hel hbB => ?_); omega; omega) | (refine each_mapN ?_ (fun el hel => ?_); omega) | (refine each_map ?_ ?_ (fun el hel => ?_); omega; omega) | (refine each_l ?_ ?_ (fun el hel => ?_); omega; omega) | (refine conv_bytes ?_ ?_; omega) | refine conv_u8 ?_ | refine conv_int ?_ | refine dq_go ?_ | (refine aany_go ?_ ?_ ?_; kernel_rfl; rfl) | (refine many_step ?_ ?_ ?_; kernel_rfl; kernel_rfl) | refine ex_i (fun ex => ?_) | refine allMP_c ?_ ?_ | exact allMP_n | (refine mpost_i ?_ ?_ ?_ ?_; rfl; rfl; rfl) | (refine free_i ?_ ?_; exact ⟨by kernel_rfl, by decide⟩) | refine allI_c ?_ ?_ | exact allI_n | refine conv_rune ?_ | (refine draw_p ?_ ?_ ?_; rfl; kernel_rfl)) <;> (try (conv => whnf)))
  refine loop_i (ι := Nat) (fun k => ⟨[(1, .ref 0 0), (3, .row 1 0 cs.length), (11, .sl 2 (cs.map cA)), (12, .i cs.length), (13, .i k)], 2, [(0, some (.box [.str nm, .sl 2 (cs.map cA)])), (1, some (.row 3 1 0 ((rowL (deps cs) cs.length k).map iA)))]⟩) (fun k => k ≤ cs.length) (fun k => cs.length - k) 0 (Nat.zero_le _) (le_of h0 rfl ⟨rfl, rfl, rfl, rfl, rfl, trivial⟩ ⟨rfl, ⟨0, by rw [rowL_zero]; rfl⟩, trivial⟩ rfl rfl rfl) (fun k hI => ?_)
  repeat' ((first | (refine side_i ?_ ?_; (have := hb k el hel (by omega); omega)) | (refine each_mapN ?_ (fun x hx => ?_); (rw [rowL_length hD hI]; have := hb k el hel (by omega); omega)) | (refine side_i ?_ ?_; (have h5 := hb k el hel (by omega); have h6 := deps_le hb el.parent.toNat x (by rw [← rowL_get hD hI (by omega)]; exact hx); omega)) | (refine each_mapN ?_ (fun y hy => ?_); (rw [rowL_length hD hI]; omega))  | refine aops_go ?_ | refine awp_go ?_ | refine var_i ?_ | refine fld_i ?_ | refine sl_i ?_ | refine arr_i ?_ | refine strt_i ?_ | refine boolt_i ?_ | refine zero_i ?_ | refine build_i ?_ | (refine row_i ?_ ?_; rfl) | refine map_i ?_ | refine guard_tt ?_ | refine guard_ff ?_ | refine guard_tf ?_ | refine guard_ft ?_ | (refine guard_dt (fun h => ?_) (fun h => ?_) <;> try (first | (exfalso; omega) | exact absurd rfl h)) | (refine guard_df (fun h => ?_) (fun h => ?_) <;> try (first | (exfalso; omega) | exact absurd rfl h)) | (refine guard_ndt (fun h => ?_) (fun h => ?_) <;> try (first | (exfalso; omega) | exact absurd rfl h)) | (refine guard_ndf (fun h => ?_) (fun h => ?_) <;> try (first | (exfalso; omega) | exact absurd rfl h)) | refine guard_nbt (fun h => ?_) (fun h => ?_) | refine guard_nbf (fun h => ?_) (fun h => ?_) | refine guard_bt (fun h => ?_) (fun h => ?_) | refine guard_bf (fun h => ?_) (fun h => ?_) | refine cond_t ?_ | refine cond_f ?_ | (refine cond_d (fun h => ?_) (fun h => ?_) <;> try (first | (exfalso; omega) | exact absurd rfl h)) | (refine cond_nd (fun h => ?_) (fun h => ?_) <;> try (first | (exfalso; omega) | exact absurd rfl h)) | refine cond_nb (fun h => ?_) (fun h => ?_) | refine cond_b (fun h => ?_) (fun h => ?_) | (refine side_i ?_ ?_; (first | omega | exact Eq.refl _ | exact ⟨Eq.refl _, by omega⟩ | (simp only [List.length_map]; omega))) | (refine side_i (imsB ?_) ?_; rfl) | (refine side_i (ims_map fun x => ?_) ?_; rfl) | (refine side_i ?_ ?_; (constructor <;> (simp only [elsA, cellsA, List.length_cons, List.length_nil, List.length_map]; omega))) | refine len_map ?_ | refine len_l ?_ | (refine each_knownm (by assumption) (by omega) ?_) | (refine each_known (by assumption) (by omega) ?_) | (refine each_mapNb ?_ (fun el hel hbB => ?_); omega) | (refine each_mapb ?_ ?_ (fun el hel hbB => ?_); omega; omega) | (refine each_lb ?_ ?_ (fun el hel hbB => ?_); omega; omega) | (refine each_mapN ?_ (fun el hel => ?_); omega) | (refine each_map ?_ ?_ (fun el hel => ?_); omega; omega) | (refine each_l ?_ ?_ (fun el hel => ?_); omega; omega) | (refine conv_bytes ?_ ?_; omega) | refine conv_u8 ?_ | refine conv_int ?_ | refine dq_go ?_ | (refine aany_go ?_ ?_ ?_; kernel_rfl; rfl) | (refine many_step ?_ ?_ ?_; kernel_rfl; kernel_rfl) | refine ex_i (fun ex => ?_) | refine allMP_c ?_ ?_ | exact allMP_n | (refine mpost_i ?_ ?_ ?_ ?_; rfl; rfl; rfl) | (refine free_i ?_ ?_; exact ⟨by kernel_rfl, by decide⟩) | refine allI_c ?_ ?_ | exact allI_n | refine conv_rune ?_ | (refine draw_p ?_ ?_ ?_; rfl; kernel_rfl)) <;> (try (conv => whnf)))
  rotate_left
  · refine ⟨k + 1, ?_, ?_, le_of h0 rfl ⟨rfl, rfl, rfl, rfl, rfl, trivial⟩ ⟨rfl, ⟨0, ?_⟩, trivial⟩ rfl rfl rfl⟩
    · omega
    · omega
    · have hk0 : k = 0 := by omega
      exact congrArg (fun l => Blk.row 3 1 0 (l.map iA)) (rowL_skip (k := k) hD (by omega) (by rw [deps_get hb hel, if_pos hk0])).symm
  · apply ret_tmp
    · rfl
    · have e : k = cs.length := by omega
      subst e
      exact congrArg (fun l => AV.sl 1 (l.map iA)) (rowL_full hD)
  · rename_i _ z hz
    refine ⟨k + 1, ?_, ?_, le_of h0 rfl ⟨rfl, rfl, rfl, rfl, rfl, trivial⟩ ⟨rfl, ⟨0, congrArg (Blk.row 3 1 0) (rowL_set hD ?_ ?_).symm⟩, trivial⟩ rfl rfl rfl⟩
    · omega
    · omega
    · omega
    · have h5 := hb k el hel (by omega)
      rw [rowL_get hD hI (by omega)] at hz
      rw [deps_get hb hel, if_neg (by omega), List.getD_eq_getElem?_getD, hz]
      rfl
end Go.Proofs.YtmiaihoallkjfaaDoor

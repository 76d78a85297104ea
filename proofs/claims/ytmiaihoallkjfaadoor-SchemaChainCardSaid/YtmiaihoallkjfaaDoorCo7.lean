/- Chapter 1: ancestors. -/
import Derived.Test.YtmiaihoallkjfaaDoorCo6
namespace Go.Proofs.YtmiaihoallkjfaaDoor
open Go Go.Av
attribute [local irreducible] AWp AOps AAny DQ retQ retG St.le FCall GCall
set_option linter.unusedVariables false
set_option linter.unnecessarySimpa false
set_option linter.unusedSimpArgs false

def par (cs : List Code) (code : Nat) : Nat := ((cs[code]?).map (·.parent.toNat)).getD 0
/-- So many steps up. -/
def upN (cs : List Code) (code : Nat) : Nat → Nat
  | 0 => code
  | s + 1 => upN cs (par cs code) s
def dep (cs : List Code) (code : Nat) : Nat := (deps cs).getD code 0
def upS (nm : List UInt8) (cs : List Code) (code level : Int) : Int :=
  if hasB nm cs code = true ∧ 0 ≤ level ∧ level ≤ dep cs code.toNat then (upN cs code.toNat (dep cs code.toNat - level.toNat) : Int) else -1

theorem dep_get {cs : List Code} {j d : Nat} (h : (deps cs)[j]? = some d) : dep cs j = d := by rw [dep, List.getD_eq_getElem?_getD, h]; rfl
theorem dep_at {cs : List Code} {j : Nat} (h : j < cs.length) : (deps cs)[j]? = some (dep cs j) := by
  have h2 : j < (deps cs).length := by rw [deps_length]; exact h
  rw [dep, List.getD_eq_getElem?_getD, List.getElem?_eq_getElem h2]; rfl
theorem dep_par {cs : List Code} (hb : Before cs) {j : Nat} {c : Code} (hc : cs[j]? = some c) (hj : 0 < j) : dep cs j = dep cs (par cs j) + 1 ∧ par cs j < j ∧ (par cs j : Int) = c.parent := by
  obtain ⟨h1, h2⟩ := hb j c hc hj
  have hp : par cs j = c.parent.toNat := by rw [par, hc]; rfl
  have h3 := deps_get hb hc
  rw [if_neg (by omega)] at h3
  have := dep_get h3
  rw [hp]
  exact ⟨this, by omega, by omega⟩
theorem dep_zero {cs : List Code} (hb : Before cs) {c : Code} (hc : cs[0]? = some c) : dep cs 0 = 0 := by
  have h3 := deps_get hb hc
  rw [if_pos rfl] at h3
  exact dep_get h3

set_option maxHeartbeats 2000000 in
theorem up_call (nm : List UInt8) (cs : List Code) (code level : Int) (hlen : cs.length ≤ 9223372036854775807) : FCall Tryd.prog 15 [lA nm cs, .i code, .i level] (.i (upS nm cs code level)) := by
  have hdl := deps_length cs
  refine fcall_intro (n := 36) Tryd.func15 (by kernel_rfl) rfl rfl rfl rfl rfl (by intro t T h; cases h) (fun hrd E h0 => ?_)
  repeat' ((first | refine call_i (has_call _ _ _ hlen) ?_ | refine call_i (depths_call _ _ (has_good (by assumption)).1.before (has60 (by assumption))) ?_ | (refine each_map ?_ ?_ (fun el hel => ?_); (have := has_good (by assumption); omega); (have := has_good (by assumption); omega))  | refine aops_go ?_ | refine awp_go ?_ | refine var_i ?_ | refine fld_i ?_ | refine sl_i ?_ | refine arr_i ?_ | refine strt_i ?_ | refine boolt_i ?_ | refine zero_i ?_ | refine build_i ?_ | (refine row_i ?_ ?_; rfl) | refine map_i ?_ | refine guard_tt ?_ | refine guard_ff ?_ | refine guard_tf ?_ | refine guard_ft ?_ | (refine guard_dt (fun h => ?_) (fun h => ?_) <;> try (first | (exfalso; omega) | exact absurd rfl h)) | (refine guard_df (fun h => ?_) (fun h => ?_) <;> try (first | (exfalso; omega) | exact absurd rfl h)) | (refine guard_ndt (fun h => ?_) (fun h => ?_) <;> try (first | (exfalso; omega) | exact absurd rfl h)) | (refine guard_ndf (fun h => ?_) (fun h => ?_) <;> try (first | (exfalso; omega) | exact absurd rfl h)) | refine guard_nbt (fun h => ?_) (fun h => ?_) | refine guard_nbf (fun h => ?_) (fun h => ?_) | refine guard_bt (fun h => ?_) (fun h => ?_) | refine guard_bf (fun h => ?_) (fun h => ?_) | refine cond_t ?_ | refine cond_f ?_ | (refine cond_d (fun h => ?_) (fun h => ?_) <;> try (first | (exfalso; omega) | exact absurd rfl h)) | (refine cond_nd (fun h => ?_) (fun h => ?_) <;> try (first | (exfalso; omega) | exact absurd rfl h)) | refine cond_nb (fun h => ?_) (fun h => ?_) | refine cond_b (fun h => ?_) (fun h => ?_) | (refine side_i ?_ ?_; (first | omega | exact Eq.refl _ | exact ⟨Eq.refl _, by omega⟩ | (simp only [List.length_map]; omega))) | (refine side_i (imsB ?_) ?_; rfl) | (refine side_i (ims_map fun x => ?_) ?_; rfl) | (refine side_i ?_ ?_; (constructor <;> (simp only [elsA, cellsA, List.length_cons, List.length_nil, List.length_map]; omega))) | refine len_map ?_ | refine len_l ?_ | (refine each_knownm (by assumption) (by omega) ?_) | (refine each_known (by assumption) (by omega) ?_) | (refine each_mapNb ?_ (fun el hel hbB => ?_); omega) | (refine each_mapb ?_ ?_ (fun el hel hbB => ?_); omega; omega) | (refine each_lb ?_ ?_ (fun el hel hbB => ?_); omega; omega) | (refine each_mapN ?_ (fun el hel => ?_); omega) | (refine each_map ?_ ?_ (fun el hel => ?_); omega; omega) | (refine each_l ?_ ?_ (fun el hel => ?_); omega; omega) | (refine conv_bytes ?_ ?_; omega) | refine conv_u8 ?_ | refine conv_int ?_ | refine dq_go ?_ | (refine aany_go ?_ ?_ ?_; kernel_rfl; rfl) | (refine many_step ?_ ?_ ?_; kernel_rfl; kernel_rfl) | refine ex_i (fun ex => ?_) | refine allMP_c ?_ ?_ | exact allMP_n | (refine mpost_i ?_ ?_ ?_ ?_; rfl; rfl; rfl) | (refine free_i ?_ ?_; exact ⟨by kernel_rfl, by decide⟩) | refine allI_c ?_ ?_ | exact allI_n | refine conv_rune ?_ | (refine draw_p ?_ ?_ ?_; rfl; kernel_rfl)) <;> (try (conv => whnf)))
  case refine_2 => exact ret_tmp rfl (congrArg AV.i (by rw [upS, if_neg (fun hx => by rw [h] at hx; cases hx.1)]))
  case refine_1.refine_1 => exact ret_tmp rfl (congrArg AV.i (by rw [upS, if_neg (fun hx => by omega)]))
  rename_i hh
  obtain ⟨hg, hc0, hcn, hn60, _⟩ := has_good hh
  have hb := hg.before
  have hd0 : dep cs code.toNat = el := dep_get hel
  have hl0 := h
  clear h
  have hup : upS nm cs code level = if level ≤ dep cs code.toNat then (upN cs code.toNat (dep cs code.toNat - level.toNat) : Int) else -1 := by
    unfold upS
    by_cases hx : level ≤ dep cs code.toNat
    · rw [if_pos ⟨hh, by omega, hx⟩, if_pos hx]
    · rw [if_neg (fun h => hx h.2.2), if_neg hx]
  rw [hup]
  refine loop_i (ι := Nat) (fun c => ⟨[(1, .i c), (2, .i level), (3, .ref 0 0), (7, .i (dep cs c))], 1, [(0, some (.box [.str nm, .sl 2 (cs.map cA)]))]⟩)
    (fun c => c < cs.length ∧ ((level ≤ dep cs code.toNat ∧ level ≤ dep cs c ∧ upN cs code.toNat (dep cs code.toNat - level.toNat) = upN cs c (dep cs c - level.toNat)) ∨ (¬ level ≤ dep cs code.toNat ∧ c = code.toNat))) (fun c => c) code.toNat
    ⟨by omega, by by_cases hx : level ≤ dep cs code.toNat <;> simp [hx]⟩ (le_of h0 rfl ⟨congrArg (fun z => some (AV.i z)) (Int.toNat_of_nonneg hc0).symm, rfl, rfl, congrArg (fun z : Nat => some (AV.i (z : Int))) hd0.symm, trivial⟩ ⟨rfl, trivial⟩ rfl rfl rfl) (fun c hI => ?_)
  obtain ⟨hcl, hI⟩ := hI
  have hdc := deps_le hb c _ (dep_at hcl)
  repeat' ((first | refine aops_go ?_ | refine awp_go ?_ | refine var_i ?_ | refine fld_i ?_ | refine sl_i ?_ | refine arr_i ?_ | refine strt_i ?_ | refine boolt_i ?_ | refine zero_i ?_ | refine build_i ?_ | (refine row_i ?_ ?_; rfl) | refine map_i ?_ | refine guard_tt ?_ | refine guard_ff ?_ | refine guard_tf ?_ | refine guard_ft ?_ | (refine guard_dt (fun h => ?_) (fun h => ?_) <;> try (first | (exfalso; omega) | exact absurd rfl h)) | (refine guard_df (fun h => ?_) (fun h => ?_) <;> try (first | (exfalso; omega) | exact absurd rfl h)) | (refine guard_ndt (fun h => ?_) (fun h => ?_) <;> try (first | (exfalso; omega) | exact absurd rfl h)) | (refine guard_ndf (fun h => ?_) (fun h => ?_) <;> try (first | (exfalso; omega) | exact absurd rfl h)) | refine guard_nbt (fun h => ?_) (fun h => ?_) | refine guard_nbf (fun h => ?_) (fun h => ?_) | refine guard_bt (fun h => ?_) (fun h => ?_) | refine guard_bf (fun h => ?_) (fun h => ?_) | refine cond_t ?_ | refine cond_f ?_ | (refine cond_d (fun h => ?_) (fun h => ?_) <;> try (first | (exfalso; omega) | exact absurd rfl h)) | (refine cond_nd (fun h => ?_) (fun h => ?_) <;> try (first | (exfalso; omega) | exact absurd rfl h)) | refine cond_nb (fun h => ?_) (fun h => ?_) | refine cond_b (fun h => ?_) (fun h => ?_) | (refine side_i ?_ ?_; (first | omega | exact Eq.refl _ | exact ⟨Eq.refl _, by omega⟩ | (simp only [List.length_map]; omega))) | (refine side_i (imsB ?_) ?_; rfl) | (refine side_i (ims_map fun x => ?_) ?_; rfl) | (refine side_i ?_ ?_; (constructor <;> (simp only [elsA, cellsA, List.length_cons, List.length_nil, List.length_map]; omega))) | refine len_map ?_ | refine len_l ?_ | (refine each_knownm (by assumption) (by omega) ?_) | (refine each_known (by assumption) (by omega) ?_) | (refine each_mapNb ?_ (fun el hel hbB => ?_); omega) | (refine each_mapb ?_ ?_ (fun el hel hbB => ?_); omega; omega) | (refine each_lb ?_ ?_ (fun el hel hbB => ?_); omega; omega) | (refine each_mapN ?_ (fun el hel => ?_); omega) | (refine each_map ?_ ?_ (fun el hel => ?_); omega; omega) | (refine each_l ?_ ?_ (fun el hel => ?_); omega; omega) | (refine conv_bytes ?_ ?_; omega) | refine conv_u8 ?_ | refine conv_int ?_ | refine dq_go ?_ | (refine aany_go ?_ ?_ ?_; kernel_rfl; rfl) | (refine many_step ?_ ?_ ?_; kernel_rfl; kernel_rfl) | refine ex_i (fun ex => ?_) | refine allMP_c ?_ ?_ | exact allMP_n | (refine mpost_i ?_ ?_ ?_ ?_; rfl; rfl; rfl) | (refine free_i ?_ ?_; exact ⟨by kernel_rfl, by decide⟩) | refine allI_c ?_ ?_ | exact allI_n | refine conv_rune ?_ | (refine draw_p ?_ ?_ ?_; rfl; kernel_rfl)) <;> (try (conv => whnf)))
  · refine ret_tmp rfl (congrArg AV.i ?_)
    rcases hI with ⟨h1, h2, h3⟩ | ⟨h1, h2⟩
    · rw [if_pos h1, h3, show dep cs c - level.toNat = 0 by omega]; rfl
    · subst h2; omega
  · rename_i hlt _
    rcases hI with ⟨h1, h2, h3⟩ | ⟨h1, h2⟩
    · have hc0' : 0 < c := by
        rcases Nat.eq_zero_or_pos c with e | e
        · subst e; rw [dep_zero hb hel] at *; omega
        · exact e
      obtain ⟨e1, e2, e3⟩ := dep_par hb hel hc0'
      have e4 : dep cs c - level.toNat = (dep cs (par cs c) - level.toNat) + 1 := by omega
      refine ⟨par cs c, ⟨by omega, .inl ⟨h1, by omega, by rw [h3, e4]; rfl⟩⟩, e2, le_of h0 rfl ⟨congrArg (fun z : Int => some (AV.i z)) e3.symm, rfl, rfl, congrArg (fun z : Int => some (AV.i z)) (by omega), trivial⟩ ⟨rfl, trivial⟩ rfl rfl rfl⟩
    · subst h2; omega
  · refine ret_tmp rfl (congrArg AV.i ?_)
    rcases hI with ⟨h1, h2, h3⟩ | ⟨h1, h2⟩
    · omega
    · rw [if_neg h1]
end Go.Proofs.YtmiaihoallkjfaaDoor

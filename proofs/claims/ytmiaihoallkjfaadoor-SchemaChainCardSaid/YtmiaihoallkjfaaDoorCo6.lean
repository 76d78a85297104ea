/- Chapter 1: levels, ancestors, codes of a level. -/
import Derived.Test.YtmiaihoallkjfaaDoorCo5
namespace Go.Proofs.YtmiaihoallkjfaaDoor
open Go Go.Av
attribute [local irreducible] AWp AOps AAny DQ retQ retG St.le FCall GCall
set_option linter.unusedVariables false
set_option linter.unnecessarySimpa false
set_option linter.unusedSimpArgs false

theorem chk_good {nm : List UInt8} {cs : List Code} (h : chk nm cs = 0) : Good cs ∧ 0 < cs.length ∧ cs.length ≤ 60 := by
  unfold chk at h
  split at h
  · cases h
  · split at h
    · cases h
    · split at h
      · cases h
      · rename_i h1 h2 h3
        cases hs : scan [] cs with
        | some e =>
          rw [hs] at h
          simp only at h
          subst h
          exfalso
          have : ∀ (cs pre : List Code) e, scan pre cs = some e → e = 3 ∨ e = 10 ∨ e = 6 := by
            intro cs
            induction cs with
            | nil => intro pre e h; cases h
            | cons a r ih =>
              intro pre e h
              simp only [scan] at h
              split at h
              · cases h; exact .inl rfl
              · split at h
                · cases h; exact .inr (.inl rfl)
                · split at h
                  · cases h; exact .inr (.inr rfl)
                  · exact ih _ _ h
          have := this _ _ _ hs
          omega
        | none => exact ⟨scan_good hs, by omega, by omega⟩

theorem good60 {nm : List UInt8} {cs : List Code} (h : chk nm cs = 0) : cs.length ≤ 1000000 := by have := (chk_good h).2.2; omega

def maxL (ds : List Nat) : Nat := ds.foldl max 0
theorem max_take {ds : List Nat} {k x : Nat} (h : ds[k]? = some x) : (max (maxL (ds.take k) : Int) x) = (maxL (ds.take (k + 1)) : Nat) := by
  rw [List.take_add_one, h]
  unfold maxL
  rw [List.foldl_append]
  simp only [Option.toList_some, List.foldl_cons, List.foldl_nil]
  omega
set_option maxHeartbeats 1000000 in
theorem max_call (ds : List Nat) (hne : 0 < ds.length) (hlen : ds.length ≤ 1000000) : FCall Tryd.prog 65 [.sl 1 (ds.map iA)] (.i (maxL ds)) := by
  refine fcall_intro (n := 25) Tryd.func65 (by kernel_rfl) rfl rfl rfl rfl rfl (by intro t T h; cases h) (fun hrd E h0 => ?_)
  repeat' ((first | refine aops_go ?_ | refine awp_go ?_ | refine var_i ?_ | refine fld_i ?_ | refine sl_i ?_ | refine arr_i ?_ | refine strt_i ?_ | refine boolt_i ?_ | refine zero_i ?_ | refine build_i ?_ | (refine row_i ?_ ?_; rfl) | refine map_i ?_ | refine guard_tt ?_ | refine guard_ff ?_ | refine guard_tf ?_ | refine guard_ft ?_ | (refine guard_dt (fun h => ?_) (fun h => ?_) <;> try (first | (exfalso; omega) | exact absurd rfl h)) | (refine guard_df (fun h => ?_) (fun h => ?_) <;> try (first | (exfalso; omega) | exact absurd rfl h)) | (refine guard_ndt (fun h => ?_) (fun h => ?_) <;> try (first | (exfalso; omega) | exact absurd rfl h)) | (refine guard_ndf (fun h => ?_) (fun h => ?_) <;> try (first | (exfalso; omega) | exact absurd rfl h)) | refine guard_nbt (fun h => ?_) (fun h => ?_) | refine guard_nbf (fun h => ?_) (fun h => ?_) | refine guard_bt (fun h => ?_) (fun h => ?_) | refine guard_bf (fun h => ?_) (fun h => ?_) | refine cond_t ?_ | refine cond_f ?_ | (refine cond_d (fun h => ?_) (fun h => ?_) <;> try (first | (exfalso; omega) | exact absurd rfl h)) | (refine cond_nd (fun h => ?_) (fun h => ?_) <;> try (first | (exfalso; omega) | exact absurd rfl h)) | refine cond_nb (fun h => ?_) (fun h => ?_) | refine cond_b (fun h => ?_) (fun h => ?_) | (refine side_i ?_ ?_; (first | omega | exact Eq.refl _ | exact ⟨Eq.refl _, by omega⟩ | (simp only [List.length_map]; omega))) | (refine side_i (imsB ?_) ?_; rfl) | (refine side_i (ims_map fun x => ?_) ?_; rfl) | (refine side_i ?_ ?_; (constructor <;> (simp only [elsA, cellsA, List.length_cons, List.length_nil, List.length_map]; omega))) | refine len_map ?_ | refine len_l ?_ | (refine each_knownm (by assumption) (by omega) ?_) | (refine each_known (by assumption) (by omega) ?_) | (refine each_mapNb ?_ (fun el hel hbB => ?_); omega) | (refine each_mapb ?_ ?_ (fun el hel hbB => ?_); omega; omega) | (refine each_lb ?_ ?_ (fun el hel hbB => ?_); omega; omega) | (refine each_mapN ?_ (fun el hel => ?_); omega) | (refine each_map ?_ ?_ (fun el hel => ?_); omega; omega) | (refine each_l ?_ ?_ (fun el hel => ?_); omega; omega) | (refine conv_bytes ?_ ?_; omega) | refine conv_u8 ?_ | refine conv_int ?_ | refine dq_go ?_ | (refine aany_go ?_ ?_ ?_; kernel_rfl; rfl) | (refine many_step ?_ ?_ ?_; kernel_rfl; kernel_rfl) | refine ex_i (fun ex => ?_) | refine allMP_c ?_ ?_ | exact allMP_n | (refine mpost_i ?_ ?_ ?_ ?_; rfl; rfl; rfl) | (refine free_i ?_ ?_; exact ⟨by kernel_rfl, by decide⟩) | refine allI_c ?_ ?_ | exact allI_n | refine conv_rune ?_ | (refine draw_p ?_ ?_ ?_; rfl; kernel_rfl)) <;> (try (conv => whnf)))
  refine loop_i (ι := Nat) (fun k => ⟨[(0, .sl 1 (ds.map iA)), (3, .i (maxL (ds.take k))), (4, .i k)], 0, []⟩) (fun k => k ≤ ds.length) (fun k => ds.length - k) 1 hne (le_of h0 rfl ⟨rfl, congrArg (fun z : Int => some (AV.i z)) (by
    have := max_take (k := 0) hel
    rw [← this]
    simp [maxL]), rfl, trivial⟩ trivial rfl rfl rfl) (fun k hI => ?_)
  repeat' ((first | refine aops_go ?_ | refine awp_go ?_ | refine var_i ?_ | refine fld_i ?_ | refine sl_i ?_ | refine arr_i ?_ | refine strt_i ?_ | refine boolt_i ?_ | refine zero_i ?_ | refine build_i ?_ | (refine row_i ?_ ?_; rfl) | refine map_i ?_ | refine guard_tt ?_ | refine guard_ff ?_ | refine guard_tf ?_ | refine guard_ft ?_ | (refine guard_dt (fun h => ?_) (fun h => ?_) <;> try (first | (exfalso; omega) | exact absurd rfl h)) | (refine guard_df (fun h => ?_) (fun h => ?_) <;> try (first | (exfalso; omega) | exact absurd rfl h)) | (refine guard_ndt (fun h => ?_) (fun h => ?_) <;> try (first | (exfalso; omega) | exact absurd rfl h)) | (refine guard_ndf (fun h => ?_) (fun h => ?_) <;> try (first | (exfalso; omega) | exact absurd rfl h)) | refine guard_nbt (fun h => ?_) (fun h => ?_) | refine guard_nbf (fun h => ?_) (fun h => ?_) | refine guard_bt (fun h => ?_) (fun h => ?_) | refine guard_bf (fun h => ?_) (fun h => ?_) | refine cond_t ?_ | refine cond_f ?_ | (refine cond_d (fun h => ?_) (fun h => ?_) <;> try (first | (exfalso; omega) | exact absurd rfl h)) | (refine cond_nd (fun h => ?_) (fun h => ?_) <;> try (first | (exfalso; omega) | exact absurd rfl h)) | refine cond_nb (fun h => ?_) (fun h => ?_) | refine cond_b (fun h => ?_) (fun h => ?_) | (refine side_i ?_ ?_; (first | omega | exact Eq.refl _ | exact ⟨Eq.refl _, by omega⟩ | (simp only [List.length_map]; omega))) | (refine side_i (imsB ?_) ?_; rfl) | (refine side_i (ims_map fun x => ?_) ?_; rfl) | (refine side_i ?_ ?_; (constructor <;> (simp only [elsA, cellsA, List.length_cons, List.length_nil, List.length_map]; omega))) | refine len_map ?_ | refine len_l ?_ | (refine each_knownm (by assumption) (by omega) ?_) | (refine each_known (by assumption) (by omega) ?_) | (refine each_mapNb ?_ (fun el hel hbB => ?_); omega) | (refine each_mapb ?_ ?_ (fun el hel hbB => ?_); omega; omega) | (refine each_lb ?_ ?_ (fun el hel hbB => ?_); omega; omega) | (refine each_mapN ?_ (fun el hel => ?_); omega) | (refine each_map ?_ ?_ (fun el hel => ?_); omega; omega) | (refine each_l ?_ ?_ (fun el hel => ?_); omega; omega) | (refine conv_bytes ?_ ?_; omega) | refine conv_u8 ?_ | refine conv_int ?_ | refine dq_go ?_ | (refine aany_go ?_ ?_ ?_; kernel_rfl; rfl) | (refine many_step ?_ ?_ ?_; kernel_rfl; kernel_rfl) | refine ex_i (fun ex => ?_) | refine allMP_c ?_ ?_ | exact allMP_n | (refine mpost_i ?_ ?_ ?_ ?_; rfl; rfl; rfl) | (refine free_i ?_ ?_; exact ⟨by kernel_rfl, by decide⟩) | refine allI_c ?_ ?_ | exact allI_n | refine conv_rune ?_ | (refine draw_p ?_ ?_ ?_; rfl; kernel_rfl)) <;> (try (conv => whnf)))
  all_goals first
    | exact ⟨k + 1, by omega, by omega, le_of h0 rfl ⟨rfl, congrArg (fun z : Int => some (AV.i z)) (max_take hel), rfl, trivial⟩ trivial rfl rfl rfl⟩
    | (refine ret_tmp rfl (congrArg (fun z : Nat => AV.i (z : Int)) ?_)
       rw [show k = ds.length by omega, List.take_length])
    | trace_state

def hasB (nm : List UInt8) (cs : List Code) (code : Int) : Bool := decide (0 ≤ code) && decide (code < cs.length) && decide (chk nm cs = 0)
set_option maxHeartbeats 1000000 in
theorem has_call (nm : List UInt8) (cs : List Code) (code : Int) (hlen : cs.length ≤ 9223372036854775807) : FCall Tryd.prog 63 [lA nm cs, .i code] (.b (hasB nm cs code)) := by
  refine fcall_intro (n := 19) Tryd.func63 (by kernel_rfl) rfl rfl rfl rfl rfl (by intro t T h; cases h) (fun hrd E h0 => ?_)
  repeat' ((first | refine call_i (check_call _ _ hlen) ?_  | refine aops_go ?_ | refine awp_go ?_ | refine var_i ?_ | refine fld_i ?_ | refine sl_i ?_ | refine arr_i ?_ | refine strt_i ?_ | refine boolt_i ?_ | refine zero_i ?_ | refine build_i ?_ | (refine row_i ?_ ?_; rfl) | refine map_i ?_ | refine guard_tt ?_ | refine guard_ff ?_ | refine guard_tf ?_ | refine guard_ft ?_ | (refine guard_dt (fun h => ?_) (fun h => ?_) <;> try (first | (exfalso; omega) | exact absurd rfl h)) | (refine guard_df (fun h => ?_) (fun h => ?_) <;> try (first | (exfalso; omega) | exact absurd rfl h)) | (refine guard_ndt (fun h => ?_) (fun h => ?_) <;> try (first | (exfalso; omega) | exact absurd rfl h)) | (refine guard_ndf (fun h => ?_) (fun h => ?_) <;> try (first | (exfalso; omega) | exact absurd rfl h)) | refine guard_nbt (fun h => ?_) (fun h => ?_) | refine guard_nbf (fun h => ?_) (fun h => ?_) | refine guard_bt (fun h => ?_) (fun h => ?_) | refine guard_bf (fun h => ?_) (fun h => ?_) | refine cond_t ?_ | refine cond_f ?_ | (refine cond_d (fun h => ?_) (fun h => ?_) <;> try (first | (exfalso; omega) | exact absurd rfl h)) | (refine cond_nd (fun h => ?_) (fun h => ?_) <;> try (first | (exfalso; omega) | exact absurd rfl h)) | refine cond_nb (fun h => ?_) (fun h => ?_) | refine cond_b (fun h => ?_) (fun h => ?_) | (refine side_i ?_ ?_; (first | omega | exact Eq.refl _ | exact ⟨Eq.refl _, by omega⟩ | (simp only [List.length_map]; omega))) | (refine side_i (imsB ?_) ?_; rfl) | (refine side_i (ims_map fun x => ?_) ?_; rfl) | (refine side_i ?_ ?_; (constructor <;> (simp only [elsA, cellsA, List.length_cons, List.length_nil, List.length_map]; omega))) | refine len_map ?_ | refine len_l ?_ | (refine each_knownm (by assumption) (by omega) ?_) | (refine each_known (by assumption) (by omega) ?_) | (refine each_mapNb ?_ (fun el hel hbB => ?_); omega) | (refine each_mapb ?_ ?_ (fun el hel hbB => ?_); omega; omega) | (refine each_lb ?_ ?_ (fun el hel hbB => ?_); omega; omega) | (refine each_mapN ?_ (fun el hel => ?_); omega) | (refine each_map ?_ ?_ (fun el hel => ?_); omega; omega) | (refine each_l ?_ ?_ (fun el hel => ?_); omega; omega) | (refine conv_bytes ?_ ?_; omega) | refine conv_u8 ?_ | refine conv_int ?_ | refine dq_go ?_ | (refine aany_go ?_ ?_ ?_; kernel_rfl; rfl) | (refine many_step ?_ ?_ ?_; kernel_rfl; kernel_rfl) | refine ex_i (fun ex => ?_) | refine allMP_c ?_ ?_ | exact allMP_n | (refine mpost_i ?_ ?_ ?_ ?_; rfl; rfl; rfl) | (refine free_i ?_ ?_; exact ⟨by kernel_rfl, by decide⟩) | refine allI_c ?_ ?_ | exact allI_n | refine conv_rune ?_ | (refine draw_p ?_ ?_ ?_; rfl; kernel_rfl)) <;> (try (conv => whnf)))
  all_goals first
    | exact ret_tmp rfl (congrArg AV.b (by simp [hasB, *]))
    | trace_state

def levelsS (nm : List UInt8) (cs : List Code) : Int := if chk nm cs = 0 then (maxL (deps cs) : Int) + 1 else -1
theorem deps_max {cs : List Code} (hb : Before cs) : maxL (deps cs) ≤ cs.length := by
  have : ∀ (ds : List Nat) (m a : Nat), (∀ d ∈ ds, d ≤ m) → a ≤ m → ds.foldl max a ≤ m := by
    intro ds
    induction ds with
    | nil => intro m a _ h; exact h
    | cons d r ih => intro m a h ha; exact ih m _ (fun x hx => h x (by simp [hx])) (by have := h d (by simp); omega)
  refine this _ _ _ (fun d hd => ?_) (Nat.zero_le _)
  obtain ⟨i, hi, rfl⟩ := List.getElem_of_mem hd
  have h1 := deps_le hb i _ (List.getElem?_eq_getElem hi)
  have h2 := deps_length cs
  omega
set_option maxHeartbeats 1000000 in
theorem levels_call (nm : List UInt8) (cs : List Code) (hlen : cs.length ≤ 9223372036854775807) : FCall Tryd.prog 17 [lA nm cs] (.i (levelsS nm cs)) := by
  have hdl := deps_length cs
  have hmx := fun h => And.intro (deps_max (cs := cs) (chk_good (nm := nm) h).1.before) (chk_good (nm := nm) (cs := cs) h).2.2
  refine fcall_intro (n := 10) Tryd.func17 (by kernel_rfl) rfl rfl rfl rfl rfl (by intro t T h; cases h) (fun hrd E h0 => ?_)
  repeat' ((first | refine call_i (check_call _ _ hlen) ?_ | refine call_i (depths_call _ _ (chk_good (by simpa using h)).1.before (good60 (nm := nm) (by simpa using h))) ?_ | refine call_i (max_call _ (by have := chk_good (nm := nm) (cs := cs) (by simpa using h); omega) (by have := good60 (nm := nm) (cs := cs) (by simpa using h); omega)) ?_ | (refine side_i ?_ ?_; (have := hmx (by simpa using h); omega))  | refine aops_go ?_ | refine awp_go ?_ | refine var_i ?_ | refine fld_i ?_ | refine sl_i ?_ | refine arr_i ?_ | refine strt_i ?_ | refine boolt_i ?_ | refine zero_i ?_ | refine build_i ?_ | (refine row_i ?_ ?_; rfl) | refine map_i ?_ | refine guard_tt ?_ | refine guard_ff ?_ | refine guard_tf ?_ | refine guard_ft ?_ | (refine guard_dt (fun h => ?_) (fun h => ?_) <;> try (first | (exfalso; omega) | exact absurd rfl h)) | (refine guard_df (fun h => ?_) (fun h => ?_) <;> try (first | (exfalso; omega) | exact absurd rfl h)) | (refine guard_ndt (fun h => ?_) (fun h => ?_) <;> try (first | (exfalso; omega) | exact absurd rfl h)) | (refine guard_ndf (fun h => ?_) (fun h => ?_) <;> try (first | (exfalso; omega) | exact absurd rfl h)) | refine guard_nbt (fun h => ?_) (fun h => ?_) | refine guard_nbf (fun h => ?_) (fun h => ?_) | refine guard_bt (fun h => ?_) (fun h => ?_) | refine guard_bf (fun h => ?_) (fun h => ?_) | refine cond_t ?_ | refine cond_f ?_ | (refine cond_d (fun h => ?_) (fun h => ?_) <;> try (first | (exfalso; omega) | exact absurd rfl h)) | (refine cond_nd (fun h => ?_) (fun h => ?_) <;> try (first | (exfalso; omega) | exact absurd rfl h)) | refine cond_nb (fun h => ?_) (fun h => ?_) | refine cond_b (fun h => ?_) (fun h => ?_) | (refine side_i ?_ ?_; (first | omega | exact Eq.refl _ | exact ⟨Eq.refl _, by omega⟩ | (simp only [List.length_map]; omega))) | (refine side_i (imsB ?_) ?_; rfl) | (refine side_i (ims_map fun x => ?_) ?_; rfl) | (refine side_i ?_ ?_; (constructor <;> (simp only [elsA, cellsA, List.length_cons, List.length_nil, List.length_map]; omega))) | refine len_map ?_ | refine len_l ?_ | (refine each_knownm (by assumption) (by omega) ?_) | (refine each_known (by assumption) (by omega) ?_) | (refine each_mapNb ?_ (fun el hel hbB => ?_); omega) | (refine each_mapb ?_ ?_ (fun el hel hbB => ?_); omega; omega) | (refine each_lb ?_ ?_ (fun el hel hbB => ?_); omega; omega) | (refine each_mapN ?_ (fun el hel => ?_); omega) | (refine each_map ?_ ?_ (fun el hel => ?_); omega; omega) | (refine each_l ?_ ?_ (fun el hel => ?_); omega; omega) | (refine conv_bytes ?_ ?_; omega) | refine conv_u8 ?_ | refine conv_int ?_ | refine dq_go ?_ | (refine aany_go ?_ ?_ ?_; kernel_rfl; rfl) | (refine many_step ?_ ?_ ?_; kernel_rfl; kernel_rfl) | refine ex_i (fun ex => ?_) | refine allMP_c ?_ ?_ | exact allMP_n | (refine mpost_i ?_ ?_ ?_ ?_; rfl; rfl; rfl) | (refine free_i ?_ ?_; exact ⟨by kernel_rfl, by decide⟩) | refine allI_c ?_ ?_ | exact allI_n | refine conv_rune ?_ | (refine draw_p ?_ ?_ ?_; rfl; kernel_rfl)) <;> (try (conv => whnf)))
  all_goals first
    | exact ret_tmp rfl (congrArg AV.i (by simp [levelsS, h]))
    | exact ret_tmp rfl (congrArg AV.i (by have h : chk nm cs = 0 := by simpa using h
                                           simp [levelsS, h]))
    | trace_state

theorem has60 {nm : List UInt8} {cs : List Code} {code : Int} (h : hasB nm cs code = true) : cs.length ≤ 1000000 := by
  simp only [hasB, Bool.and_eq_true, decide_eq_true_eq] at h
  exact good60 h.2
def levelS (nm : List UInt8) (cs : List Code) (code : Int) : Int := if hasB nm cs code = true then ((deps cs).getD code.toNat 0 : Nat) else -1
theorem has_good {nm : List UInt8} {cs : List Code} {code : Int} (h : hasB nm cs code = true) : Good cs ∧ 0 ≤ code ∧ code < cs.length ∧ cs.length ≤ 60 ∧ chk nm cs = 0 := by
  simp only [hasB, Bool.and_eq_true, decide_eq_true_eq] at h
  exact ⟨(chk_good h.2).1, h.1.1, h.1.2, (chk_good h.2).2.2, h.2⟩
set_option maxHeartbeats 1000000 in
theorem level_call (nm : List UInt8) (cs : List Code) (code : Int) (hlen : cs.length ≤ 9223372036854775807) : FCall Tryd.prog 16 [lA nm cs, .i code] (.i (levelS nm cs code)) := by
  have hdl := deps_length cs
  refine fcall_intro (n := 14) Tryd.func16 (by kernel_rfl) rfl rfl rfl rfl rfl (by intro t T h; cases h) (fun hrd E h0 => ?_)
  repeat' ((first | refine call_i (has_call _ _ _ hlen) ?_ | refine call_i (depths_call _ _ (has_good h).1.before (has60 h)) ?_ | (refine each_map ?_ ?_ (fun el hel => ?_); (have := has_good h; omega); (have := has_good h; omega))  | refine aops_go ?_ | refine awp_go ?_ | refine var_i ?_ | refine fld_i ?_ | refine sl_i ?_ | refine arr_i ?_ | refine strt_i ?_ | refine boolt_i ?_ | refine zero_i ?_ | refine build_i ?_ | (refine row_i ?_ ?_; rfl) | refine map_i ?_ | refine guard_tt ?_ | refine guard_ff ?_ | refine guard_tf ?_ | refine guard_ft ?_ | (refine guard_dt (fun h => ?_) (fun h => ?_) <;> try (first | (exfalso; omega) | exact absurd rfl h)) | (refine guard_df (fun h => ?_) (fun h => ?_) <;> try (first | (exfalso; omega) | exact absurd rfl h)) | (refine guard_ndt (fun h => ?_) (fun h => ?_) <;> try (first | (exfalso; omega) | exact absurd rfl h)) | (refine guard_ndf (fun h => ?_) (fun h => ?_) <;> try (first | (exfalso; omega) | exact absurd rfl h)) | refine guard_nbt (fun h => ?_) (fun h => ?_) | refine guard_nbf (fun h => ?_) (fun h => ?_) | refine guard_bt (fun h => ?_) (fun h => ?_) | refine guard_bf (fun h => ?_) (fun h => ?_) | refine cond_t ?_ | refine cond_f ?_ | (refine cond_d (fun h => ?_) (fun h => ?_) <;> try (first | (exfalso; omega) | exact absurd rfl h)) | (refine cond_nd (fun h => ?_) (fun h => ?_) <;> try (first | (exfalso; omega) | exact absurd rfl h)) | refine cond_nb (fun h => ?_) (fun h => ?_) | refine cond_b (fun h => ?_) (fun h => ?_) | (refine side_i ?_ ?_; (first | omega | exact Eq.refl _ | exact ⟨Eq.refl _, by omega⟩ | (simp only [List.length_map]; omega))) | (refine side_i (imsB ?_) ?_; rfl) | (refine side_i (ims_map fun x => ?_) ?_; rfl) | (refine side_i ?_ ?_; (constructor <;> (simp only [elsA, cellsA, List.length_cons, List.length_nil, List.length_map]; omega))) | refine len_map ?_ | refine len_l ?_ | (refine each_knownm (by assumption) (by omega) ?_) | (refine each_known (by assumption) (by omega) ?_) | (refine each_mapNb ?_ (fun el hel hbB => ?_); omega) | (refine each_mapb ?_ ?_ (fun el hel hbB => ?_); omega; omega) | (refine each_lb ?_ ?_ (fun el hel hbB => ?_); omega; omega) | (refine each_mapN ?_ (fun el hel => ?_); omega) | (refine each_map ?_ ?_ (fun el hel => ?_); omega; omega) | (refine each_l ?_ ?_ (fun el hel => ?_); omega; omega) | (refine conv_bytes ?_ ?_; omega) | refine conv_u8 ?_ | refine conv_int ?_ | refine dq_go ?_ | (refine aany_go ?_ ?_ ?_; kernel_rfl; rfl) | (refine many_step ?_ ?_ ?_; kernel_rfl; kernel_rfl) | refine ex_i (fun ex => ?_) | refine allMP_c ?_ ?_ | exact allMP_n | (refine mpost_i ?_ ?_ ?_ ?_; rfl; rfl; rfl) | (refine free_i ?_ ?_; exact ⟨by kernel_rfl, by decide⟩) | refine allI_c ?_ ?_ | exact allI_n | refine conv_rune ?_ | (refine draw_p ?_ ?_ ?_; rfl; kernel_rfl)) <;> (try (conv => whnf)))
  all_goals first
    | exact ret_tmp rfl (congrArg AV.i (by rw [levelS, if_pos h, List.getD_eq_getElem?_getD, hel]; rfl))
    | exact ret_tmp rfl (congrArg AV.i (by rw [levelS, h]; rfl))
    | trace_state
end Go.Proofs.YtmiaihoallkjfaaDoor

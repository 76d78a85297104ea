/- Chapter 1: names, and what they are. -/
import Derived.Test.YtmiaihoallkjfaaDoorAvTy
namespace Go.Proofs.YtmiaihoallkjfaaDoor
open Go Go.Av
attribute [local irreducible] AWp AOps AAny DQ retQ retG St.le FCall GCall
set_option linter.unusedVariables false
set_option linter.unnecessarySimpa false
set_option linter.unusedSimpArgs false

def nameCh (c : UInt8) : Bool := decide (97 ≤ c.toNat ∧ c.toNat ≤ 122 ∨ 48 ≤ c.toNat ∧ c.toNat ≤ 57 ∨ c.toNat = 95)
def words : List (List UInt8) := [[97, 108, 108], [97, 110, 100], [101, 118, 101, 110, 116], [102, 114, 111, 109], [109, 105, 115, 115, 105, 110, 103], [110, 111, 116], [111, 110], [111, 114], [116, 111], [117, 110, 100, 101, 114], [119, 104, 101, 114, 101]]
def headOk (l : List UInt8) : Bool := match l with | [] => false | c :: _ => decide (97 ≤ c.toNat ∧ c.toNat ≤ 122)
def nameB (l : List UInt8) : Bool := decide (l.length ≤ 16) && headOk l && l.all nameCh && !(decide (l ∈ words))

theorem nameB_empty {l : List UInt8} (h : (l.length : Int) < 1) : false = nameB l := by
  have : l = [] := List.eq_nil_of_length_eq_zero (by omega)
  subst this; rfl
theorem nameB_long {l : List UInt8} (h : 16 < (l.length : Int)) : false = nameB l := by
  have : ¬ l.length ≤ 16 := by omega
  simp [nameB, this]
theorem nameB_head {l : List UInt8} {el : UInt8} (hel : l[Int.toNat 0]? = some el) (h : (el.toNat : Int) < 97 ∨ 122 < (el.toNat : Int)) : false = nameB l := by
  cases l with
  | nil => rfl
  | cons c r =>
    have : c = el := by simpa using hel
    subst this
    have : ¬ (97 ≤ c.toNat ∧ c.toNat ≤ 122) := by omega
    simp [nameB, headOk]; omega
theorem nameB_bad {l : List UInt8} {k : Nat} {el : UInt8} (hel : l[k]? = some el) (h : ¬ (97 ≤ el.toNat ∧ el.toNat ≤ 122 ∨ 48 ≤ el.toNat ∧ el.toNat ≤ 57 ∨ el.toNat = 95)) : false = nameB l := by
  have : l.all nameCh = false := by
    rw [List.all_eq_false]
    exact ⟨el, List.mem_of_getElem? hel, by simp [nameCh]; omega⟩
  simp [nameB, this]
theorem nameB_word {l : List UInt8} (h : l ∈ words) : false = nameB l := by simp [nameB, h]
theorem nameB_good {l : List UInt8} {a b : UInt8} {k : Nat} (h1 : ¬ 16 < (l.length : Int)) (h2 : ¬ (a.toNat : Int) < 97) (ha : l[Int.toNat 0]? = some a) (h3 : ¬ 122 < (b.toNat : Int)) (hb : l[Int.toNat 0]? = some b) (h4 : ∀ c ∈ l.take k, nameCh c = true) (h5 : ¬ (k : Int) < l.length) (h6 : l ∉ words) : true = nameB l := by
  rw [ha] at hb
  cases hb
  have e : l.take k = l := List.take_of_length_le (by omega)
  rw [e] at h4
  have : headOk l = true := by
    cases l with
    | nil => cases ha
    | cons c r => cases ha; simp [headOk]; omega
  simp [nameB, this, h6]
  exact ⟨by omega, h4⟩
theorem take_ok {l : List UInt8} {k : Nat} {el : UInt8} (hI : ∀ c ∈ l.take k, nameCh c = true) (hel : l[k]? = some el) (h : 97 ≤ el.toNat ∧ el.toNat ≤ 122 ∨ 48 ≤ el.toNat ∧ el.toNat ≤ 57 ∨ el.toNat = 95) : ∀ c ∈ l.take (k + 1), nameCh c = true := by
  intro c hc
  rw [List.take_add_one, hel] at hc
  rcases List.mem_append.1 hc with hc | hc
  · exact hI c hc
  · simp at hc; subst hc; simpa [nameCh] using h

set_option maxHeartbeats 1000000 in
theorem name_call (l : List UInt8) : FCall Tryd.prog 66 [.str l] (.b (nameB l)) := by
  refine fcall_intro (n := 62) Tryd.func66 (by kernel_rfl) rfl rfl rfl rfl rfl (by intro t T h; cases h) (fun hrd E h0 => ?_)
  repeat' ((first | refine aops_go ?_ | refine awp_go ?_ | refine var_i ?_ | refine fld_i ?_ | refine sl_i ?_ | refine arr_i ?_ | refine strt_i ?_ | refine boolt_i ?_ | refine zero_i ?_ | refine build_i ?_ | (refine row_i ?_ ?_; rfl) | refine map_i ?_ | refine guard_tt ?_ | refine guard_ff ?_ | refine guard_tf ?_ | refine guard_ft ?_ | (refine guard_dt (fun h => ?_) (fun h => ?_) <;> try (first | (exfalso; omega) | exact absurd rfl h)) | (refine guard_df (fun h => ?_) (fun h => ?_) <;> try (first | (exfalso; omega) | exact absurd rfl h)) | (refine guard_ndt (fun h => ?_) (fun h => ?_) <;> try (first | (exfalso; omega) | exact absurd rfl h)) | (refine guard_ndf (fun h => ?_) (fun h => ?_) <;> try (first | (exfalso; omega) | exact absurd rfl h)) | refine guard_nbt (fun h => ?_) (fun h => ?_) | refine guard_nbf (fun h => ?_) (fun h => ?_) | refine guard_bt (fun h => ?_) (fun h => ?_) | refine guard_bf (fun h => ?_) (fun h => ?_) | refine cond_t ?_ | refine cond_f ?_ | (refine cond_d (fun h => ?_) (fun h => ?_) <;> try (first | (exfalso; omega) | exact absurd rfl h)) | (refine cond_nd (fun h => ?_) (fun h => ?_) <;> try (first | (exfalso; omega) | exact absurd rfl h)) | refine cond_nb (fun h => ?_) (fun h => ?_) | refine cond_b (fun h => ?_) (fun h => ?_) | (refine side_i ?_ ?_; (first | omega | exact Eq.refl _ | exact ⟨Eq.refl _, by omega⟩ | (simp only [List.length_map]; omega))) | (refine side_i (imsB ?_) ?_; rfl) | (refine side_i (ims_map fun x => ?_) ?_; rfl) | (refine side_i ?_ ?_; (constructor <;> (simp only [elsA, cellsA, List.length_cons, List.length_nil, List.length_map]; omega))) | refine len_map ?_ | refine len_l ?_ | (refine each_knownm (by assumption) (by omega) ?_) | (refine each_known (by assumption) (by omega) ?_) | (refine each_mapNb ?_ (fun el hel hbB => ?_); omega) | (refine each_mapb ?_ ?_ (fun el hel hbB => ?_); omega; omega) | (refine each_lb ?_ ?_ (fun el hel hbB => ?_); omega; omega) | (refine each_mapN ?_ (fun el hel => ?_); omega) | (refine each_map ?_ ?_ (fun el hel => ?_); omega; omega) | (refine each_l ?_ ?_ (fun el hel => ?_); omega; omega) | (refine conv_bytes ?_ ?_; omega) | refine conv_u8 ?_ | refine conv_int ?_ | refine dq_go ?_ | (refine aany_go ?_ ?_ ?_; kernel_rfl; rfl) | (refine many_step ?_ ?_ ?_; kernel_rfl; kernel_rfl) | refine ex_i (fun ex => ?_) | refine allMP_c ?_ ?_ | exact allMP_n | (refine mpost_i ?_ ?_ ?_ ?_; rfl; rfl; rfl) | (refine free_i ?_ ?_; exact ⟨by kernel_rfl, by decide⟩) | refine allI_c ?_ ?_ | exact allI_n | refine conv_rune ?_ | (refine draw_p ?_ ?_ ?_; rfl; kernel_rfl)) <;> (try (conv => whnf)))
  rotate_left
  · refine loop_i (ι := Nat) (fun k => ⟨[(0, .str l), (24, .sl 1 (l.map fun b => [.v (.int .u8 b.toNat)])), (25, .i l.length), (26, .i k)], 0, []⟩) (fun k => ∀ c ∈ l.take k, nameCh c = true) (fun k => l.length - k) 0 (by simp) (le_of h0 rfl ⟨rfl, rfl, rfl, rfl, trivial⟩ trivial rfl rfl rfl) (fun k hI => ?_)
    repeat' ((first | refine aops_go ?_ | refine awp_go ?_ | refine var_i ?_ | refine fld_i ?_ | refine sl_i ?_ | refine arr_i ?_ | refine strt_i ?_ | refine boolt_i ?_ | refine zero_i ?_ | refine build_i ?_ | (refine row_i ?_ ?_; rfl) | refine map_i ?_ | refine guard_tt ?_ | refine guard_ff ?_ | refine guard_tf ?_ | refine guard_ft ?_ | (refine guard_dt (fun h => ?_) (fun h => ?_) <;> try (first | (exfalso; omega) | exact absurd rfl h)) | (refine guard_df (fun h => ?_) (fun h => ?_) <;> try (first | (exfalso; omega) | exact absurd rfl h)) | (refine guard_ndt (fun h => ?_) (fun h => ?_) <;> try (first | (exfalso; omega) | exact absurd rfl h)) | (refine guard_ndf (fun h => ?_) (fun h => ?_) <;> try (first | (exfalso; omega) | exact absurd rfl h)) | refine guard_nbt (fun h => ?_) (fun h => ?_) | refine guard_nbf (fun h => ?_) (fun h => ?_) | refine guard_bt (fun h => ?_) (fun h => ?_) | refine guard_bf (fun h => ?_) (fun h => ?_) | refine cond_t ?_ | refine cond_f ?_ | (refine cond_d (fun h => ?_) (fun h => ?_) <;> try (first | (exfalso; omega) | exact absurd rfl h)) | (refine cond_nd (fun h => ?_) (fun h => ?_) <;> try (first | (exfalso; omega) | exact absurd rfl h)) | refine cond_nb (fun h => ?_) (fun h => ?_) | refine cond_b (fun h => ?_) (fun h => ?_) | (refine side_i ?_ ?_; (first | omega | exact Eq.refl _ | exact ⟨Eq.refl _, by omega⟩ | (simp only [List.length_map]; omega))) | (refine side_i (imsB ?_) ?_; rfl) | (refine side_i (ims_map fun x => ?_) ?_; rfl) | (refine side_i ?_ ?_; (constructor <;> (simp only [elsA, cellsA, List.length_cons, List.length_nil, List.length_map]; omega))) | refine len_map ?_ | refine len_l ?_ | (refine each_knownm (by assumption) (by omega) ?_) | (refine each_known (by assumption) (by omega) ?_) | (refine each_mapNb ?_ (fun el hel hbB => ?_); omega) | (refine each_mapb ?_ ?_ (fun el hel hbB => ?_); omega; omega) | (refine each_lb ?_ ?_ (fun el hel hbB => ?_); omega; omega) | (refine each_mapN ?_ (fun el hel => ?_); omega) | (refine each_map ?_ ?_ (fun el hel => ?_); omega; omega) | (refine each_l ?_ ?_ (fun el hel => ?_); omega; omega) | (refine conv_bytes ?_ ?_; omega) | refine conv_u8 ?_ | refine conv_int ?_ | refine dq_go ?_ | (refine aany_go ?_ ?_ ?_; kernel_rfl; rfl) | (refine many_step ?_ ?_ ?_; kernel_rfl; kernel_rfl) | refine ex_i (fun ex => ?_) | refine allMP_c ?_ ?_ | exact allMP_n | (refine mpost_i ?_ ?_ ?_ ?_; rfl; rfl; rfl) | (refine free_i ?_ ?_; exact ⟨by kernel_rfl, by decide⟩) | refine allI_c ?_ ?_ | exact allI_n | refine conv_rune ?_ | (refine draw_p ?_ ?_ ?_; rfl; kernel_rfl)) <;> (try (conv => whnf)))
    all_goals first
      | exact ⟨k + 1, take_ok hI hel (by omega), by omega, le_of h0 rfl ⟨rfl, rfl, rfl, rfl, trivial⟩ trivial rfl rfl rfl⟩
      | (refine ret_tmp rfl (congrArg AV.b ?_); first | exact nameB_bad hel (by omega) | exact nameB_word (by subst h; decide) | exact nameB_good (by assumption) (by assumption) (by assumption) (by assumption) (by assumption) hI (by assumption) (by simp [words, *]))
  all_goals (refine ret_tmp rfl (congrArg AV.b ?_); first | exact nameB_empty h | exact nameB_long h | exact nameB_head hel (by omega))

set_option maxHeartbeats 2000000 in
theorem rname_call (l : List UInt8) : FCall Tryd.prog 150 [.str l] (.b (nameB l)) := by
  refine fcall_intro (n := 70) Tryd.func150 (by kernel_rfl) rfl rfl rfl rfl rfl (by intro t T h; cases h) (fun hrd E h0 => ?_)
  repeat' ((first | refine aops_go ?_ | refine awp_go ?_ | refine var_i ?_ | refine fld_i ?_ | refine sl_i ?_ | refine arr_i ?_ | refine strt_i ?_ | refine boolt_i ?_ | refine zero_i ?_ | refine build_i ?_ | (refine row_i ?_ ?_; rfl) | refine map_i ?_ | refine guard_tt ?_ | refine guard_ff ?_ | refine guard_tf ?_ | refine guard_ft ?_ | (refine guard_dt (fun h => ?_) (fun h => ?_) <;> try (first | (exfalso; omega) | exact absurd rfl h)) | (refine guard_df (fun h => ?_) (fun h => ?_) <;> try (first | (exfalso; omega) | exact absurd rfl h)) | (refine guard_ndt (fun h => ?_) (fun h => ?_) <;> try (first | (exfalso; omega) | exact absurd rfl h)) | (refine guard_ndf (fun h => ?_) (fun h => ?_) <;> try (first | (exfalso; omega) | exact absurd rfl h)) | refine guard_nbt (fun h => ?_) (fun h => ?_) | refine guard_nbf (fun h => ?_) (fun h => ?_) | refine guard_bt (fun h => ?_) (fun h => ?_) | refine guard_bf (fun h => ?_) (fun h => ?_) | refine cond_t ?_ | refine cond_f ?_ | (refine cond_d (fun h => ?_) (fun h => ?_) <;> try (first | (exfalso; omega) | exact absurd rfl h)) | (refine cond_nd (fun h => ?_) (fun h => ?_) <;> try (first | (exfalso; omega) | exact absurd rfl h)) | refine cond_nb (fun h => ?_) (fun h => ?_) | refine cond_b (fun h => ?_) (fun h => ?_) | (refine side_i ?_ ?_; (first | omega | exact Eq.refl _ | exact ⟨Eq.refl _, by omega⟩ | (simp only [List.length_map]; omega))) | (refine side_i (imsB ?_) ?_; rfl) | (refine side_i (ims_map fun x => ?_) ?_; rfl) | (refine side_i ?_ ?_; (constructor <;> (simp only [elsA, cellsA, List.length_cons, List.length_nil, List.length_map]; omega))) | refine len_map ?_ | refine len_l ?_ | (refine each_knownm (by assumption) (by omega) ?_) | (refine each_known (by assumption) (by omega) ?_) | (refine each_mapNb ?_ (fun el hel hbB => ?_); omega) | (refine each_mapb ?_ ?_ (fun el hel hbB => ?_); omega; omega) | (refine each_lb ?_ ?_ (fun el hel hbB => ?_); omega; omega) | (refine each_mapN ?_ (fun el hel => ?_); omega) | (refine each_map ?_ ?_ (fun el hel => ?_); omega; omega) | (refine each_l ?_ ?_ (fun el hel => ?_); omega; omega) | (refine conv_bytes ?_ ?_; omega) | refine conv_u8 ?_ | refine conv_int ?_ | refine dq_go ?_ | (refine aany_go ?_ ?_ ?_; kernel_rfl; rfl) | (refine many_step ?_ ?_ ?_; kernel_rfl; kernel_rfl) | refine ex_i (fun ex => ?_) | refine allMP_c ?_ ?_ | exact allMP_n | (refine mpost_i ?_ ?_ ?_ ?_; rfl; rfl; rfl) | (refine free_i ?_ ?_; exact ⟨by kernel_rfl, by decide⟩) | refine allI_c ?_ ?_ | exact allI_n | refine conv_rune ?_ | (refine draw_p ?_ ?_ ?_; rfl; kernel_rfl)) <;> (try (conv => whnf)))
  rotate_left
  · refine loop_i (ι := Nat) (fun k => ⟨[(0, .str l), (3, .i k)], 0, []⟩) (fun k => ∀ c ∈ l.take k, nameCh c = true) (fun k => l.length - k) 0 (by simp) (le_of h0 rfl ⟨rfl, rfl, trivial⟩ trivial rfl rfl rfl) (fun k hI => ?_)
    repeat' ((first | refine aops_go ?_ | refine awp_go ?_ | refine var_i ?_ | refine fld_i ?_ | refine sl_i ?_ | refine arr_i ?_ | refine strt_i ?_ | refine boolt_i ?_ | refine zero_i ?_ | refine build_i ?_ | (refine row_i ?_ ?_; rfl) | refine map_i ?_ | refine guard_tt ?_ | refine guard_ff ?_ | refine guard_tf ?_ | refine guard_ft ?_ | (refine guard_dt (fun h => ?_) (fun h => ?_) <;> try (first | (exfalso; omega) | exact absurd rfl h)) | (refine guard_df (fun h => ?_) (fun h => ?_) <;> try (first | (exfalso; omega) | exact absurd rfl h)) | (refine guard_ndt (fun h => ?_) (fun h => ?_) <;> try (first | (exfalso; omega) | exact absurd rfl h)) | (refine guard_ndf (fun h => ?_) (fun h => ?_) <;> try (first | (exfalso; omega) | exact absurd rfl h)) | refine guard_nbt (fun h => ?_) (fun h => ?_) | refine guard_nbf (fun h => ?_) (fun h => ?_) | refine guard_bt (fun h => ?_) (fun h => ?_) | refine guard_bf (fun h => ?_) (fun h => ?_) | refine cond_t ?_ | refine cond_f ?_ | (refine cond_d (fun h => ?_) (fun h => ?_) <;> try (first | (exfalso; omega) | exact absurd rfl h)) | (refine cond_nd (fun h => ?_) (fun h => ?_) <;> try (first | (exfalso; omega) | exact absurd rfl h)) | refine cond_nb (fun h => ?_) (fun h => ?_) | refine cond_b (fun h => ?_) (fun h => ?_) | (refine side_i ?_ ?_; (first | omega | exact Eq.refl _ | exact ⟨Eq.refl _, by omega⟩ | (simp only [List.length_map]; omega))) | (refine side_i (imsB ?_) ?_; rfl) | (refine side_i (ims_map fun x => ?_) ?_; rfl) | (refine side_i ?_ ?_; (constructor <;> (simp only [elsA, cellsA, List.length_cons, List.length_nil, List.length_map]; omega))) | refine len_map ?_ | refine len_l ?_ | (refine each_knownm (by assumption) (by omega) ?_) | (refine each_known (by assumption) (by omega) ?_) | (refine each_mapNb ?_ (fun el hel hbB => ?_); omega) | (refine each_mapb ?_ ?_ (fun el hel hbB => ?_); omega; omega) | (refine each_lb ?_ ?_ (fun el hel hbB => ?_); omega; omega) | (refine each_mapN ?_ (fun el hel => ?_); omega) | (refine each_map ?_ ?_ (fun el hel => ?_); omega; omega) | (refine each_l ?_ ?_ (fun el hel => ?_); omega; omega) | (refine conv_bytes ?_ ?_; omega) | refine conv_u8 ?_ | refine conv_int ?_ | refine dq_go ?_ | (refine aany_go ?_ ?_ ?_; kernel_rfl; rfl) | (refine many_step ?_ ?_ ?_; kernel_rfl; kernel_rfl) | refine ex_i (fun ex => ?_) | refine allMP_c ?_ ?_ | exact allMP_n | (refine mpost_i ?_ ?_ ?_ ?_; rfl; rfl; rfl) | (refine free_i ?_ ?_; exact ⟨by kernel_rfl, by decide⟩) | refine allI_c ?_ ?_ | exact allI_n | refine conv_rune ?_ | (refine draw_p ?_ ?_ ?_; rfl; kernel_rfl)) <;> (try (conv => whnf)))
    all_goals first
      | exact ⟨k + 1, take_ok hI hel (by omega), by omega, le_of h0 rfl ⟨rfl, rfl, trivial⟩ trivial rfl rfl rfl⟩
      | (refine ret_tmp rfl (congrArg AV.b ?_); first | exact nameB_bad hel (by omega) | exact nameB_word (by subst h; decide) | exact nameB_good (by assumption) (by assumption) (by assumption) (by assumption) (by assumption) hI (by assumption) (by simp [words, *]))
      | trace_state
  all_goals first
    | (refine ret_tmp rfl (congrArg AV.b ?_); first | exact nameB_empty h | exact nameB_long h | exact nameB_head hel (by omega))
    | trace_state
end Go.Proofs.YtmiaihoallkjfaaDoor

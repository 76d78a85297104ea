/- CodesWords: which strings are names. -/
import Derived.Test.YtmmogjdkoghjoaaCo9
import Derived.Test.YtmmogjdkoghjoaaAvL
namespace Go.Proofs.Ytmmogjdkoghjoaa
open Go Go.Av
attribute [local irreducible] AWp AOps AAny DQ
set_option linter.unusedVariables false
set_option linter.unnecessarySimpa false
set_option linter.unusedSimpArgs false

abbrev wA (w : List UInt8) : List AV := [.str w]
def chOf (c : Nat) : UInt8 := UInt8.ofNat (97 + c % 26)
theorem chOf_nat (c : Nat) : (chOf c).toNat = 97 + c % 26 := by
  unfold chOf
  rw [UInt8.toNat_ofNat']
  omega
theorem rune_ch (c : Nat) : (Utf8.encode (97 + (c : Int).tmod 26)).data.toList = [chOf c] := by
  have : ∀ d : Nat, d < 26 → (Utf8.encode (97 + (d : Int))).data.toList = [UInt8.ofNat (97 + d)] := by decide
  have h := this (c % 26) (Nat.mod_lt _ (by omega))
  have e : (c : Int).tmod 26 = ((c % 26 : Nat) : Int) := by rw [Int.tmod_eq_emod_of_nonneg (by omega)]; omega
  rw [e]
  exact h
theorem w32 (c : Nat) : IntKind.i32.wrap (97 + (c : Int).tmod 26) = 97 + (c : Int).tmod 26 := by
  have : ∀ d : Nat, d < 26 → IntKind.i32.wrap (97 + (d : Int)) = 97 + d := by decide
  have e : (c : Int).tmod 26 = ((c % 26 : Nat) : Int) := by rw [Int.tmod_eq_emod_of_nonneg (by omega)]; omega
  rw [e]; exact this _ (Nat.mod_lt _ (by omega))
theorem w_no : ∀ w ∈ words, nameB w = false := by decide
theorem w_x : ∀ w ∈ words, nameB (w ++ [120]) = true := by decide
theorem w_9 : ∀ w ∈ words, nameB (w ++ [95, 57]) = true := by decide
theorem w_u : ∀ w ∈ words, nameB ([95] ++ w) = false := by decide
theorem w_d : ∀ w ∈ words, nameB ([57] ++ w) = false := by decide
theorem w_s : ∀ w ∈ words, nameB (w ++ [32]) = false := by decide

theorem long_name (m c : Nat) : nameB (List.replicate m (chOf c)) = (decide (List.replicate m (chOf c) ∉ words) && decide (1 ≤ m) && decide (m ≤ 16)) := by
  have hc : nameCh (chOf c) = true := by
    have := chOf_nat c
    have := Nat.mod_lt c (show 0 < 26 by omega)
    simp [nameCh]; omega
  cases m with
  | zero => simp [nameB, headOk]
  | succ m =>
    have hh : headOk (List.replicate (m + 1) (chOf c)) = true := by
      have := chOf_nat c
      have := Nat.mod_lt c (show 0 < 26 by omega)
      simp [headOk, List.replicate_succ]; omega
    have ha : (List.replicate (m + 1) (chOf c)).all nameCh = true := by
      rw [List.all_eq_true]
      intro x hx
      rw [List.eq_of_mem_replicate hx]
      exact hc
    unfold nameB
    rw [hh, ha]
    simp [Bool.and_comm]

theorem w_len : ∀ w ∈ words, w.length ≤ 7 := by decide
def freeB (l : List UInt8) (j : Nat) : Bool := (words.take j).all fun w => decide (w ≠ l)
theorem free_step {l w : List UInt8} {j : Nat} (hw : words[j]? = some w) : freeB l (j + 1) = (freeB l j && decide (w ≠ l)) := by
  unfold freeB
  rw [take_snoc hw, List.all_append]
  simp
theorem free_all (l : List UInt8) : freeB l 11 = decide (l ∉ words) := by
  unfold freeB
  rw [show words.take 11 = words from rfl, Bool.eq_iff_iff, List.all_eq_true]
  simp only [decide_eq_true_eq]
  constructor
  · intro h hc; exact h l hc rfl
  · intro h w hw e; exact h (e ▸ hw)

set_option maxHeartbeats 4000000 in
theorem codesWords_call (a b c : Nat) (ha : a < 256) (hb : b < 256) (hc : c < 256) : FCall Try.prog 3 [.v (.int .u8 a), .v (.int .u8 b), .v (.int .u8 c)] (.b true) := by
  have wa : ∀ n : Nat, n < 256 → IntKind.i64.wrap n = n := fun n h => wrap64_of (by omega)
  have ea : (a : Int).tmod 11 = ((a % 11 : Nat) : Int) := by rw [Int.tmod_eq_emod_of_nonneg (by omega)]; omega
  have eb : (b : Int).tmod 20 = ((b % 20 : Nat) : Int) := by rw [Int.tmod_eq_emod_of_nonneg (by omega)]; omega
  have ec : (c : Int).tmod 26 = ((c % 26 : Nat) : Int) := by rw [Int.tmod_eq_emod_of_nonneg (by omega)]; omega
  refine fcall_intro (n := 101) Try.func3 (by kernel_rfl) rfl rfl rfl rfl rfl (by intro t T h; cases h) (fun hrd E h0 => ?_)
  repeat' (first | (refine conv_id (wa _ (by omega)) ?_) | (refine side_i ?_ ?_; decide) | (refine each_map (l := words) (f := wA) ?_ ?_ (fun el hel => ?_); (show 0 ≤ (a : Int).tmod 11; omega); (show (a : Int).tmod 11 < 11; omega))  | refine aops_go ?_ | refine awp_go ?_ | refine var_i ?_ | refine fld_i ?_ | refine sl_i ?_ | refine arr_i ?_ | refine strt_i ?_ | refine boolt_i ?_ | refine zero_i ?_ | refine build_i ?_ | (refine row_i ?_ ?_; rfl) | refine map_i ?_ | refine guard_tt ?_ | refine guard_ff ?_ | refine guard_tf ?_ | refine guard_ft ?_ | (refine guard_dt (fun h => ?_) (fun h => ?_) <;> try (exfalso; omega)) | (refine guard_df (fun h => ?_) (fun h => ?_) <;> try (exfalso; omega)) | (refine guard_ndt (fun h => ?_) (fun h => ?_) <;> try (exfalso; omega)) | (refine guard_ndf (fun h => ?_) (fun h => ?_) <;> try (exfalso; omega)) | refine guard_nbt (fun h => ?_) (fun h => ?_) | refine guard_nbf (fun h => ?_) (fun h => ?_) | refine guard_bt (fun h => ?_) (fun h => ?_) | refine guard_bf (fun h => ?_) (fun h => ?_) | refine cond_t ?_ | refine cond_f ?_ | (refine cond_d (fun h => ?_) (fun h => ?_) <;> try (exfalso; omega)) | (refine cond_nd (fun h => ?_) (fun h => ?_) <;> try (exfalso; omega)) | refine cond_nb (fun h => ?_) (fun h => ?_) | refine cond_b (fun h => ?_) (fun h => ?_) | (refine side_i ?_ ?_; (first | omega | exact Eq.refl _ | exact ⟨Eq.refl _, by omega⟩ | (simp only [List.length_map]; omega))) | refine len_map ?_ | refine len_l ?_ | (refine each_knownm (by assumption) (by omega) ?_) | (refine each_known (by assumption) (by omega) ?_) | (refine each_mapNb ?_ (fun el hel hbB => ?_); omega) | (refine each_mapb ?_ ?_ (fun el hel hbB => ?_); omega; omega) | (refine each_lb ?_ ?_ (fun el hel hbB => ?_); omega; omega) | (refine each_mapN ?_ (fun el hel => ?_); omega) | (refine each_map ?_ ?_ (fun el hel => ?_); omega; omega) | (refine each_l ?_ ?_ (fun el hel => ?_); omega; omega) | (refine conv_bytes ?_ ?_; omega) | refine conv_u8 ?_ | refine conv_int ?_ | refine dq_go ?_ | (refine aany_go ?_ ?_ ?_; kernel_rfl; rfl) | (refine free_i ?_ ?_; exact ⟨by kernel_rfl, by decide⟩) | refine allI_c ?_ ?_ | exact allI_n | refine conv_rune ?_)
  have hw : el ∈ words := List.mem_of_getElem? hel
  clear hel
  refine loop_i (ι := Nat) (fun k => ⟨[(1, .v (.int .u8 b)), (2, .v (.int .u8 c)), (7, .sl 1 (words.map wA)), (8, .str el), (9, .str (List.replicate k (chOf c))), (10, .i k)], 0, []⟩) (fun k => k ≤ b % 20) (fun k => b % 20 - k) 0 (Nat.zero_le _) (le_of h0 rfl ⟨rfl, rfl, rfl, rfl, rfl, rfl, trivial⟩ trivial rfl rfl rfl) (fun k hI => ?_)
  repeat' (first | (refine conv_id (wa _ (by omega)) ?_) | (refine conv_id (w32 c) ?_) | (refine side_i ?_ ?_; (first | omega | (rw [rune_ch]; simp only [List.length_replicate, List.length_cons, List.length_nil]; omega)))  | refine aops_go ?_ | refine awp_go ?_ | refine var_i ?_ | refine fld_i ?_ | refine sl_i ?_ | refine arr_i ?_ | refine strt_i ?_ | refine boolt_i ?_ | refine zero_i ?_ | refine build_i ?_ | (refine row_i ?_ ?_; rfl) | refine map_i ?_ | refine guard_tt ?_ | refine guard_ff ?_ | refine guard_tf ?_ | refine guard_ft ?_ | (refine guard_dt (fun h => ?_) (fun h => ?_) <;> try (exfalso; omega)) | (refine guard_df (fun h => ?_) (fun h => ?_) <;> try (exfalso; omega)) | (refine guard_ndt (fun h => ?_) (fun h => ?_) <;> try (exfalso; omega)) | (refine guard_ndf (fun h => ?_) (fun h => ?_) <;> try (exfalso; omega)) | refine guard_nbt (fun h => ?_) (fun h => ?_) | refine guard_nbf (fun h => ?_) (fun h => ?_) | refine guard_bt (fun h => ?_) (fun h => ?_) | refine guard_bf (fun h => ?_) (fun h => ?_) | refine cond_t ?_ | refine cond_f ?_ | (refine cond_d (fun h => ?_) (fun h => ?_) <;> try (exfalso; omega)) | (refine cond_nd (fun h => ?_) (fun h => ?_) <;> try (exfalso; omega)) | refine cond_nb (fun h => ?_) (fun h => ?_) | refine cond_b (fun h => ?_) (fun h => ?_) | (refine side_i ?_ ?_; (first | omega | exact Eq.refl _ | exact ⟨Eq.refl _, by omega⟩ | (simp only [List.length_map]; omega))) | refine len_map ?_ | refine len_l ?_ | (refine each_knownm (by assumption) (by omega) ?_) | (refine each_known (by assumption) (by omega) ?_) | (refine each_mapNb ?_ (fun el hel hbB => ?_); omega) | (refine each_mapb ?_ ?_ (fun el hel hbB => ?_); omega; omega) | (refine each_lb ?_ ?_ (fun el hel hbB => ?_); omega; omega) | (refine each_mapN ?_ (fun el hel => ?_); omega) | (refine each_map ?_ ?_ (fun el hel => ?_); omega; omega) | (refine each_l ?_ ?_ (fun el hel => ?_); omega; omega) | (refine conv_bytes ?_ ?_; omega) | refine conv_u8 ?_ | refine conv_int ?_ | refine dq_go ?_ | (refine aany_go ?_ ?_ ?_; kernel_rfl; rfl) | (refine free_i ?_ ?_; exact ⟨by kernel_rfl, by decide⟩) | refine allI_c ?_ ?_ | exact allI_n | refine conv_rune ?_)
  · refine ⟨k + 1, ?_, ?_, le_of h0 rfl ⟨rfl, rfl, rfl, rfl, congrArg (fun l => some (AV.str l)) (by rw [rune_ch, List.replicate_succ']), rfl, trivial⟩ trivial rfl rfl rfl⟩
    · omega
    · omega
  refine loop_i (ι := Nat) (fun j => ⟨[(8, .str el), (9, .str (List.replicate k (chOf c))), (11, .b (freeB (List.replicate k (chOf c)) j)), (38, .sl 1 (words.map wA)), (39, .i 11), (40, .i j)], 0, []⟩) (fun j => j ≤ 11) (fun j => 11 - j) 0 (by decide) (le_of h0 rfl ⟨rfl, rfl, rfl, rfl, rfl, rfl, trivial⟩ trivial rfl rfl rfl) (fun j hJ => ?_)
  have hk : k = b % 20 := by omega
  clear h
  have hwl : words.length = 11 := rfl
  repeat' (first | refine call_i ((name_call _).congr (congrArg AV.b (w_no _ hw))) ?_ | refine call_i ((name_call _).congr (congrArg AV.b (w_x _ hw))) ?_ | refine call_i ((name_call _).congr (congrArg AV.b (w_9 _ hw))) ?_ | refine call_i ((name_call _).congr (congrArg AV.b (w_u _ hw))) ?_ | refine call_i ((name_call _).congr (congrArg AV.b (w_d _ hw))) ?_ | refine call_i ((name_call _).congr (congrArg AV.b (w_s _ hw))) ?_ | refine call_i ((name_call _).congr (congrArg AV.b (long_name k c))) ?_ | refine call_i awake_call ?_ | (refine side_i ?_ ?_; (have := w_len _ hw; simp only [List.length_cons, List.length_nil]; omega))  | refine aops_go ?_ | refine awp_go ?_ | refine var_i ?_ | refine fld_i ?_ | refine sl_i ?_ | refine arr_i ?_ | refine strt_i ?_ | refine boolt_i ?_ | refine zero_i ?_ | refine build_i ?_ | (refine row_i ?_ ?_; rfl) | refine map_i ?_ | refine guard_tt ?_ | refine guard_ff ?_ | refine guard_tf ?_ | refine guard_ft ?_ | (refine guard_dt (fun h => ?_) (fun h => ?_) <;> try (exfalso; omega)) | (refine guard_df (fun h => ?_) (fun h => ?_) <;> try (exfalso; omega)) | (refine guard_ndt (fun h => ?_) (fun h => ?_) <;> try (exfalso; omega)) | (refine guard_ndf (fun h => ?_) (fun h => ?_) <;> try (exfalso; omega)) | refine guard_nbt (fun h => ?_) (fun h => ?_) | refine guard_nbf (fun h => ?_) (fun h => ?_) | refine guard_bt (fun h => ?_) (fun h => ?_) | refine guard_bf (fun h => ?_) (fun h => ?_) | refine cond_t ?_ | refine cond_f ?_ | (refine cond_d (fun h => ?_) (fun h => ?_) <;> try (exfalso; omega)) | (refine cond_nd (fun h => ?_) (fun h => ?_) <;> try (exfalso; omega)) | refine cond_nb (fun h => ?_) (fun h => ?_) | refine cond_b (fun h => ?_) (fun h => ?_) | (refine side_i ?_ ?_; (first | omega | exact Eq.refl _ | exact ⟨Eq.refl _, by omega⟩ | (simp only [List.length_map]; omega))) | refine len_map ?_ | refine len_l ?_ | (refine each_knownm (by assumption) (by omega) ?_) | (refine each_known (by assumption) (by omega) ?_) | (refine each_mapNb ?_ (fun el hel hbB => ?_); omega) | (refine each_mapb ?_ ?_ (fun el hel hbB => ?_); omega; omega) | (refine each_lb ?_ ?_ (fun el hel hbB => ?_); omega; omega) | (refine each_mapN ?_ (fun el hel => ?_); omega) | (refine each_map ?_ ?_ (fun el hel => ?_); omega; omega) | (refine each_l ?_ ?_ (fun el hel => ?_); omega; omega) | (refine conv_bytes ?_ ?_; omega) | refine conv_u8 ?_ | refine conv_int ?_ | refine dq_go ?_ | (refine aany_go ?_ ?_ ?_; kernel_rfl; rfl) | (refine free_i ?_ ?_; exact ⟨by kernel_rfl, by decide⟩) | refine allI_c ?_ ?_ | exact allI_n | refine conv_rune ?_)
  all_goals first
    | (refine ⟨j + 1, ?_, ?_, le_of h0 rfl ⟨rfl, rfl, congrArg (fun z => some (AV.b z)) (show _ = freeB (List.replicate k (chOf c)) (j + 1) by rw [free_step hel, h]; first | rfl | simp), rfl, rfl, rfl, trivial⟩ trivial rfl rfl rfl⟩
       · omega
       · omega)
    | exact ret_tmp rfl rfl
    | (exfalso
       have hj : j = 11 := by omega
       subst hj
       simp only [free_all, List.length_replicate] at *
       by_cases hx : List.replicate k (chOf c) ∈ words <;> simp [hx] at * <;> omega)
    | skip
  · rename_i z1 z2 z3
    clear hrd
    have hj : j = 11 := by omega
    subst hj
    simp only [free_all, List.length_replicate] at *
    have e : decide ((k : Int) ≤ 16) = decide (k ≤ 16) := decide_eq_decide.2 (by omega)
    have e1 : decide (1 ≤ k) = true := decide_eq_true (by omega)
    rw [e, e1, z2] at h
    simp at h
theorem codesWords_all (l : List AV) (h : AShapes Try.prog Try.f3.params.toList l) : FCall Try.prog 3 l (.b true) := by
  obtain ⟨x, r, rfl, hx, y, s, rfl, hy, z, u, rfl, hz, rfl⟩ := h
  obtain ⟨a, ha, rfl⟩ := ash_u8 Try.underlying5 hx
  obtain ⟨b, hb, rfl⟩ := ash_u8 Try.underlying5 hy
  obtain ⟨c, hc, rfl⟩ := ash_u8 Try.underlying5 hz
  exact codesWords_call a b c ha hb hc
end Go.Proofs.Ytmmogjdkoghjoaa

/- CodesDivide: the codes of each level divide the leaves. -/
import Derived.Test.YtmmogjdkoghjoaaDoorFa1
import Derived.Test.YtmmogjdkoghjoaaDoorOp1
namespace Go.Proofs.YtmmogjdkoghjoaaDoor
open Go Go.Av
attribute [local irreducible] AWp AOps AAny DQ retQ retG St.le FCall GCall
set_option linter.unusedVariables false
set_option linter.unnecessarySimpa false
set_option linter.unusedSimpArgs false

theorem divide_spec {cs : List Code} (h : divideB cs = true) : ∃ n : Nat, levelsS oneN cs = n ∧ 1 ≤ n ∧ n ≤ 5 ∧
    (∀ lv : Nat, lv < n → ∀ leaf ∈ atS oneN cs (n - 1 : Int), countU cs leaf (atS oneN cs lv) = 1) ∧ sumA cs n = cs.length := by
  simp only [divideB, Bool.and_eq_true, decide_eq_true_eq, List.all_eq_true, List.mem_range] at h
  obtain ⟨⟨⟨h1, h2⟩, h3⟩, h4⟩ := h
  obtain ⟨n, hn⟩ := Int.eq_ofNat_of_zero_le (show 0 ≤ levelsS oneN cs by omega)
  rw [hn] at h1 h2 h3 h4
  exact ⟨n, hn, by omega, by omega, fun lv hlv leaf hm => h3 lv (by simpa using hlv) leaf hm, by simpa using h4⟩
theorem sumA_succ (cs : List Code) (n : Nat) : sumA cs (n + 1) = sumA cs n + (atS oneN cs n).length := by
  unfold sumA
  rw [List.range_succ, List.map_append, List.sum_append]
  simp
theorem atK_len (cs : List Code) (lv : Int) : (atS oneN cs lv).length ≤ cs.length := by
  unfold atS
  split
  · exact atK_le _ _ _
  · simp
def cntT (cs : List Code) (leaf : Nat) (at' : List Nat) (q : Nat) : Nat := countU cs leaf (at'.take q)
theorem cntT_yes {cs : List Code} {leaf q k : Nat} {at' : List Nat} (hk : at'[q]? = some k) (h : underS oneN cs leaf k = true) : cntT cs leaf at' (q + 1) = cntT cs leaf at' q + 1 := by
  unfold cntT countU
  rw [take_snoc hk, List.filter_append]
  simp [h]
theorem cntT_no {cs : List Code} {leaf q k : Nat} {at' : List Nat} (hk : at'[q]? = some k) (h : underS oneN cs leaf k = false) : cntT cs leaf at' (q + 1) = cntT cs leaf at' q := by
  unfold cntT countU
  rw [take_snoc hk, List.filter_append]
  simp [h]
theorem cntT_all (cs : List Code) (leaf : Nat) (at' : List Nat) : cntT cs leaf at' at'.length = countU cs leaf at' := by
  unfold cntT
  rw [List.take_length]
theorem cntT_le (cs : List Code) (leaf : Nat) (at' : List Nat) (q : Nat) : cntT cs leaf at' q ≤ q := by
  unfold cntT countU
  exact Nat.le_trans (List.length_filter_le _ _) (List.length_take_le _ _)

set_option maxHeartbeats 4000000 in
theorem codesDivide_call (l : List UInt8) (hl : l.length ≤ maxLen) : FCall Tryd.prog 4 [.sl 1 (l.map u8A)] (.b true) := by
  unfold maxLen at hl
  have hL : (l.take 400).length ≤ 400 := List.length_take_le _ _
  have hln := listS_length (l.take 400) 0
  have hfam := List.all_eq_true.1 fam_divide _ (listS_mem (l.take 400) 0)
  have hlist := list_call (l.take 400) 0 oneN hL
  generalize hcs : listS (l.take 400) 0 = s at *
  obtain ⟨cs, a1⟩ := s
  simp only at hln hfam hlist
  obtain ⟨n, hn, hn1, hn5, hcnt, hsum⟩ := divide_spec hfam
  have hcl : cs.length ≤ 1000000 := by omega
  have hlev : FCall Tryd.prog 16 [lA oneN cs] (.i n) := (levels_call oneN cs hcl).congr (congrArg AV.i hn)
  have hat : FCall Tryd.prog 17 [lA oneN cs, .i (n - 1 : Int)] (.sl 1 ((atS oneN cs (n - 1 : Int)).map iA)) := at_call oneN cs _ hcl
  have hlv := atK_len cs (n - 1 : Int)
  generalize hlvs : atS oneN cs (n - 1 : Int) = leaves at *
  have hatl := fun lv : Int => at_call oneN cs lv hcl
  refine fcall_intro (n := 67) Tryd.func4 (by kernel_rfl) rfl rfl rfl rfl rfl (by intro t T h; cases h) (fun hrd E h0 => ?_)
  repeat' ((first | refine ncall_g [] [] (new_call l (by omega)) rfl rfl rfl rfl rfl trivial rfl rfl rfl rfl rfl ?_ | refine ⟨ncall_g [0] [0] hlist rfl rfl rfl rfl rfl ⟨rfl, trivial⟩ rfl rfl rfl rfl rfl ?_⟩ | refine call_i hlev ?_ | refine call_i hat ?_ | refine ncall_frz 2 ?_  | refine aops_go ?_ | refine awp_go ?_ | refine var_i ?_ | refine fld_i ?_ | refine sl_i ?_ | refine arr_i ?_ | refine strt_i ?_ | refine boolt_i ?_ | refine zero_i ?_ | refine build_i ?_ | (refine row_i ?_ ?_; rfl) | refine map_i ?_ | refine guard_tt ?_ | refine guard_ff ?_ | refine guard_tf ?_ | refine guard_ft ?_ | (refine guard_dt (fun h => ?_) (fun h => ?_) <;> try (first | (exfalso; omega) | exact absurd rfl h)) | (refine guard_df (fun h => ?_) (fun h => ?_) <;> try (first | (exfalso; omega) | exact absurd rfl h)) | (refine guard_ndt (fun h => ?_) (fun h => ?_) <;> try (first | (exfalso; omega) | exact absurd rfl h)) | (refine guard_ndf (fun h => ?_) (fun h => ?_) <;> try (first | (exfalso; omega) | exact absurd rfl h)) | refine guard_nbt (fun h => ?_) (fun h => ?_) | refine guard_nbf (fun h => ?_) (fun h => ?_) | refine guard_bt (fun h => ?_) (fun h => ?_) | refine guard_bf (fun h => ?_) (fun h => ?_) | refine cond_t ?_ | refine cond_f ?_ | (refine cond_d (fun h => ?_) (fun h => ?_) <;> try (first | (exfalso; omega) | exact absurd rfl h)) | (refine cond_nd (fun h => ?_) (fun h => ?_) <;> try (first | (exfalso; omega) | exact absurd rfl h)) | refine cond_nb (fun h => ?_) (fun h => ?_) | refine cond_b (fun h => ?_) (fun h => ?_) | (refine side_i ?_ ?_; (first | omega | exact Eq.refl _ | exact ⟨Eq.refl _, by omega⟩ | (simp only [List.length_map]; omega))) | (refine side_i (imsB ?_) ?_; rfl) | (refine side_i (ims_map fun x => ?_) ?_; rfl) | (refine side_i ?_ ?_; (constructor <;> (simp only [elsA, cellsA, List.length_cons, List.length_nil, List.length_map]; omega))) | refine len_map ?_ | refine len_l ?_ | (refine each_knownm (by assumption) (by omega) ?_) | (refine each_known (by assumption) (by omega) ?_) | (refine each_mapNb ?_ (fun el hel hbB => ?_); omega) | (refine each_mapb ?_ ?_ (fun el hel hbB => ?_); omega; omega) | (refine each_lb ?_ ?_ (fun el hel hbB => ?_); omega; omega) | (refine each_mapN ?_ (fun el hel => ?_); omega) | (refine each_map ?_ ?_ (fun el hel => ?_); omega; omega) | (refine each_l ?_ ?_ (fun el hel => ?_); omega; omega) | (refine conv_bytes ?_ ?_; omega) | refine conv_u8 ?_ | refine conv_int ?_ | refine dq_go ?_ | (refine aany_go ?_ ?_ ?_; kernel_rfl; rfl) | (refine free_i ?_ ?_; exact ⟨by kernel_rfl, by decide⟩) | refine allI_c ?_ ?_ | exact allI_n | refine conv_rune ?_ | (refine draw_p ?_ ?_ ?_; rfl; kernel_rfl)) <;> (try (conv => whnf)))
  refine loop_i (ι := Nat) (fun v => ⟨[(3, .ref 3 0), (4, .i n), (5, .sl 1 (leaves.map iA)), (6, .i (sumA cs v)), (7, .i v)], 4, [(3, some (.box [.str oneN, .sl 2 (cs.map cA)]))]⟩) (fun v => v ≤ n ∧ sumA cs v ≤ 10 * v) (fun v => n - v) 0 ⟨by omega, by simp [sumA]⟩ (le_of h0 rfl ⟨rfl, rfl, rfl, rfl, rfl, trivial⟩ ⟨rfl, trivial⟩ rfl rfl rfl) (fun v hv => ?_)
  obtain ⟨hv, hsv⟩ := hv
  have hav := atK_len cs v
  have hcv := fun h : v < n => hcnt v h
  have hss := sumA_succ cs v
  have hatv : FCall Tryd.prog 17 [lA oneN cs, .i v] (.sl 1 ((atS oneN cs v).map iA)) := hatl v
  generalize atS oneN cs v = av at *
  repeat' ((first | refine call_i hatv ?_ | refine call_i awake_call ?_  | refine aops_go ?_ | refine awp_go ?_ | refine var_i ?_ | refine fld_i ?_ | refine sl_i ?_ | refine arr_i ?_ | refine strt_i ?_ | refine boolt_i ?_ | refine zero_i ?_ | refine build_i ?_ | (refine row_i ?_ ?_; rfl) | refine map_i ?_ | refine guard_tt ?_ | refine guard_ff ?_ | refine guard_tf ?_ | refine guard_ft ?_ | (refine guard_dt (fun h => ?_) (fun h => ?_) <;> try (first | (exfalso; omega) | exact absurd rfl h)) | (refine guard_df (fun h => ?_) (fun h => ?_) <;> try (first | (exfalso; omega) | exact absurd rfl h)) | (refine guard_ndt (fun h => ?_) (fun h => ?_) <;> try (first | (exfalso; omega) | exact absurd rfl h)) | (refine guard_ndf (fun h => ?_) (fun h => ?_) <;> try (first | (exfalso; omega) | exact absurd rfl h)) | refine guard_nbt (fun h => ?_) (fun h => ?_) | refine guard_nbf (fun h => ?_) (fun h => ?_) | refine guard_bt (fun h => ?_) (fun h => ?_) | refine guard_bf (fun h => ?_) (fun h => ?_) | refine cond_t ?_ | refine cond_f ?_ | (refine cond_d (fun h => ?_) (fun h => ?_) <;> try (first | (exfalso; omega) | exact absurd rfl h)) | (refine cond_nd (fun h => ?_) (fun h => ?_) <;> try (first | (exfalso; omega) | exact absurd rfl h)) | refine cond_nb (fun h => ?_) (fun h => ?_) | refine cond_b (fun h => ?_) (fun h => ?_) | (refine side_i ?_ ?_; (first | omega | exact Eq.refl _ | exact ⟨Eq.refl _, by omega⟩ | (simp only [List.length_map]; omega))) | (refine side_i (imsB ?_) ?_; rfl) | (refine side_i (ims_map fun x => ?_) ?_; rfl) | (refine side_i ?_ ?_; (constructor <;> (simp only [elsA, cellsA, List.length_cons, List.length_nil, List.length_map]; omega))) | refine len_map ?_ | refine len_l ?_ | (refine each_knownm (by assumption) (by omega) ?_) | (refine each_known (by assumption) (by omega) ?_) | (refine each_mapNb ?_ (fun el hel hbB => ?_); omega) | (refine each_mapb ?_ ?_ (fun el hel hbB => ?_); omega; omega) | (refine each_lb ?_ ?_ (fun el hel hbB => ?_); omega; omega) | (refine each_mapN ?_ (fun el hel => ?_); omega) | (refine each_map ?_ ?_ (fun el hel => ?_); omega; omega) | (refine each_l ?_ ?_ (fun el hel => ?_); omega; omega) | (refine conv_bytes ?_ ?_; omega) | refine conv_u8 ?_ | refine conv_int ?_ | refine dq_go ?_ | (refine aany_go ?_ ?_ ?_; kernel_rfl; rfl) | (refine free_i ?_ ?_; exact ⟨by kernel_rfl, by decide⟩) | refine allI_c ?_ ?_ | exact allI_n | refine conv_rune ?_ | (refine draw_p ?_ ?_ ?_; rfl; kernel_rfl)) <;> (try (conv => whnf)))
  · refine loop_i (ι := Nat) (fun j => ⟨[(3, .ref 3 0), (4, .i n), (5, .sl 1 (leaves.map iA)), (6, .i (sumA cs (v + 1))), (7, .i v), (8, .sl 1 (av.map iA)), (37, .sl 1 (leaves.map iA)), (38, .i leaves.length), (39, .i j)], 4, [(3, some (.box [.str oneN, .sl 2 (cs.map cA)]))]⟩) (fun j => j ≤ leaves.length) (fun j => leaves.length - j) 0 (Nat.zero_le _) (le_of h0 rfl ⟨rfl, rfl, rfl, congrArg (fun z => some (AV.i z)) (by rw [hss]; omega), rfl, rfl, rfl, rfl, rfl, trivial⟩ ⟨rfl, trivial⟩ rfl rfl rfl) (fun j hj => ?_)
    repeat' ((first | refine aops_go ?_ | refine awp_go ?_ | refine var_i ?_ | refine fld_i ?_ | refine sl_i ?_ | refine arr_i ?_ | refine strt_i ?_ | refine boolt_i ?_ | refine zero_i ?_ | refine build_i ?_ | (refine row_i ?_ ?_; rfl) | refine map_i ?_ | refine guard_tt ?_ | refine guard_ff ?_ | refine guard_tf ?_ | refine guard_ft ?_ | (refine guard_dt (fun h => ?_) (fun h => ?_) <;> try (first | (exfalso; omega) | exact absurd rfl h)) | (refine guard_df (fun h => ?_) (fun h => ?_) <;> try (first | (exfalso; omega) | exact absurd rfl h)) | (refine guard_ndt (fun h => ?_) (fun h => ?_) <;> try (first | (exfalso; omega) | exact absurd rfl h)) | (refine guard_ndf (fun h => ?_) (fun h => ?_) <;> try (first | (exfalso; omega) | exact absurd rfl h)) | refine guard_nbt (fun h => ?_) (fun h => ?_) | refine guard_nbf (fun h => ?_) (fun h => ?_) | refine guard_bt (fun h => ?_) (fun h => ?_) | refine guard_bf (fun h => ?_) (fun h => ?_) | refine cond_t ?_ | refine cond_f ?_ | (refine cond_d (fun h => ?_) (fun h => ?_) <;> try (first | (exfalso; omega) | exact absurd rfl h)) | (refine cond_nd (fun h => ?_) (fun h => ?_) <;> try (first | (exfalso; omega) | exact absurd rfl h)) | refine cond_nb (fun h => ?_) (fun h => ?_) | refine cond_b (fun h => ?_) (fun h => ?_) | (refine side_i ?_ ?_; (first | omega | exact Eq.refl _ | exact ⟨Eq.refl _, by omega⟩ | (simp only [List.length_map]; omega))) | (refine side_i (imsB ?_) ?_; rfl) | (refine side_i (ims_map fun x => ?_) ?_; rfl) | (refine side_i ?_ ?_; (constructor <;> (simp only [elsA, cellsA, List.length_cons, List.length_nil, List.length_map]; omega))) | refine len_map ?_ | refine len_l ?_ | (refine each_knownm (by assumption) (by omega) ?_) | (refine each_known (by assumption) (by omega) ?_) | (refine each_mapNb ?_ (fun el hel hbB => ?_); omega) | (refine each_mapb ?_ ?_ (fun el hel hbB => ?_); omega; omega) | (refine each_lb ?_ ?_ (fun el hel hbB => ?_); omega; omega) | (refine each_mapN ?_ (fun el hel => ?_); omega) | (refine each_map ?_ ?_ (fun el hel => ?_); omega; omega) | (refine each_l ?_ ?_ (fun el hel => ?_); omega; omega) | (refine conv_bytes ?_ ?_; omega) | refine conv_u8 ?_ | refine conv_int ?_ | refine dq_go ?_ | (refine aany_go ?_ ?_ ?_; kernel_rfl; rfl) | (refine free_i ?_ ?_; exact ⟨by kernel_rfl, by decide⟩) | refine allI_c ?_ ?_ | exact allI_n | refine conv_rune ?_ | (refine draw_p ?_ ?_ ?_; rfl; kernel_rfl)) <;> (try (conv => whnf)))
    · have hlm : el ∈ leaves := List.mem_of_getElem? hel
      have hc1 := hcv (by omega) el hlm
      have hundl := fun k : Int => under_call oneN cs el k hcl
      refine loop_i (ι := Nat) (fun q => ⟨[(3, .ref 3 0), (4, .i n), (5, .sl 1 (leaves.map iA)), (6, .i (sumA cs (v + 1))), (7, .i v), (8, .sl 1 (av.map iA)), (37, .sl 1 (leaves.map iA)), (38, .i leaves.length), (39, .i j), (10, .i el), (11, .i (cntT cs el av q)), (43, .sl 1 (av.map iA)), (44, .i av.length), (45, .i q)], 4, [(3, some (.box [.str oneN, .sl 2 (cs.map cA)]))]⟩) (fun q => q ≤ av.length) (fun q => av.length - q) 0 (Nat.zero_le _) (le_of h0 rfl ⟨rfl, rfl, rfl, rfl, rfl, rfl, rfl, rfl, rfl, rfl, rfl, rfl, rfl, rfl, trivial⟩ ⟨rfl, trivial⟩ rfl rfl rfl) (fun q hq => ?_)
      have hcq := cntT_le cs el av q
      have hjl := h
      clear h
      repeat' ((first | refine call_i (hundl _) ?_  | refine aops_go ?_ | refine awp_go ?_ | refine var_i ?_ | refine fld_i ?_ | refine sl_i ?_ | refine arr_i ?_ | refine strt_i ?_ | refine boolt_i ?_ | refine zero_i ?_ | refine build_i ?_ | (refine row_i ?_ ?_; rfl) | refine map_i ?_ | refine guard_tt ?_ | refine guard_ff ?_ | refine guard_tf ?_ | refine guard_ft ?_ | (refine guard_dt (fun h => ?_) (fun h => ?_) <;> try (first | (exfalso; omega) | exact absurd rfl h)) | (refine guard_df (fun h => ?_) (fun h => ?_) <;> try (first | (exfalso; omega) | exact absurd rfl h)) | (refine guard_ndt (fun h => ?_) (fun h => ?_) <;> try (first | (exfalso; omega) | exact absurd rfl h)) | (refine guard_ndf (fun h => ?_) (fun h => ?_) <;> try (first | (exfalso; omega) | exact absurd rfl h)) | refine guard_nbt (fun h => ?_) (fun h => ?_) | refine guard_nbf (fun h => ?_) (fun h => ?_) | refine guard_bt (fun h => ?_) (fun h => ?_) | refine guard_bf (fun h => ?_) (fun h => ?_) | refine cond_t ?_ | refine cond_f ?_ | (refine cond_d (fun h => ?_) (fun h => ?_) <;> try (first | (exfalso; omega) | exact absurd rfl h)) | (refine cond_nd (fun h => ?_) (fun h => ?_) <;> try (first | (exfalso; omega) | exact absurd rfl h)) | refine cond_nb (fun h => ?_) (fun h => ?_) | refine cond_b (fun h => ?_) (fun h => ?_) | (refine side_i ?_ ?_; (first | omega | exact Eq.refl _ | exact ⟨Eq.refl _, by omega⟩ | (simp only [List.length_map]; omega))) | (refine side_i (imsB ?_) ?_; rfl) | (refine side_i (ims_map fun x => ?_) ?_; rfl) | (refine side_i ?_ ?_; (constructor <;> (simp only [elsA, cellsA, List.length_cons, List.length_nil, List.length_map]; omega))) | refine len_map ?_ | refine len_l ?_ | (refine each_knownm (by assumption) (by omega) ?_) | (refine each_known (by assumption) (by omega) ?_) | (refine each_mapNb ?_ (fun el hel hbB => ?_); omega) | (refine each_mapb ?_ ?_ (fun el hel hbB => ?_); omega; omega) | (refine each_lb ?_ ?_ (fun el hel hbB => ?_); omega; omega) | (refine each_mapN ?_ (fun el hel => ?_); omega) | (refine each_map ?_ ?_ (fun el hel => ?_); omega; omega) | (refine each_l ?_ ?_ (fun el hel => ?_); omega; omega) | (refine conv_bytes ?_ ?_; omega) | refine conv_u8 ?_ | refine conv_int ?_ | refine dq_go ?_ | (refine aany_go ?_ ?_ ?_; kernel_rfl; rfl) | (refine free_i ?_ ?_; exact ⟨by kernel_rfl, by decide⟩) | refine allI_c ?_ ?_ | exact allI_n | refine conv_rune ?_ | (refine draw_p ?_ ?_ ?_; rfl; kernel_rfl)) <;> (try (conv => whnf)))
      all_goals first
        | (refine ⟨q + 1, by omega, by omega, le_of h0 rfl ⟨rfl, rfl, rfl, rfl, rfl, rfl, rfl, rfl, rfl, rfl, congrArg (fun z => some (AV.i z)) ?_, rfl, rfl, rfl, trivial⟩ ⟨rfl, trivial⟩ rfl rfl rfl⟩
           first
             | (rw [cntT_yes hel h]; rfl)
             | (rw [cntT_no hel h]))
        | (exfalso
           have hqa : q = av.length := by omega
           subst hqa
           rw [cntT_all, hc1] at h
           exact h rfl)
        | exact ⟨j + 1, by omega, by omega, le_of h0 rfl ⟨rfl, rfl, rfl, rfl, rfl, rfl, rfl, rfl, rfl, trivial⟩ ⟨rfl, trivial⟩ rfl rfl rfl⟩
        | trace_state
    · exact ⟨v + 1, ⟨by omega, by omega⟩, by omega, le_of h0 rfl ⟨rfl, rfl, rfl, rfl, rfl, trivial⟩ ⟨rfl, trivial⟩ rfl rfl rfl⟩
  all_goals first
    | exact ret_tmp rfl rfl
    | (exfalso
       have hvn : v = n := by omega
       subst hvn
       omega)
    | trace_state
theorem codesDivide_all (l : List AV) (h : AShapes Tryd.prog Tryd.f4.params.toList l) : FCall Tryd.prog 4 l (.b true) := by
  obtain ⟨a1, r, rfl, h1, rfl⟩ := h
  obtain ⟨l, hl, rfl⟩ := ash_by h1
  exact codesDivide_call l hl
end Go.Proofs.YtmmogjdkoghjoaaDoor

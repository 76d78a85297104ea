/- The choices: New, Next, Range, One, Mod. -/
import Derived.Test.YtmiaihoallkjfaaDoorAvTy
import Derived.Test.YtmiaihoallkjfaaDoorAvL
namespace Go.Proofs.YtmiaihoallkjfaaDoor
open Go Go.Av
attribute [local irreducible] AWp AOps AAny DQ retQ retG St.le FCall GCall
set_option linter.unusedVariables false
set_option linter.unnecessarySimpa false
set_option linter.unusedSimpArgs false

/-- A choice: the number, and how many bytes are used up behind it. -/
def nxt (l : List UInt8) (at' : Nat) (n : Int) : Nat × Nat :=
  if n < 1 ∨ l.length ≤ at' then (0, at')
  else if 256 < n ∧ at' + 1 < l.length then (((l.getD at' 0).toNat * 256 + (l.getD (at' + 1) 0).toNat) % n.toNat, at' + 2)
  else ((l.getD at' 0).toNat % n.toNat, at' + 1)
theorem nxt_lt (l : List UInt8) (at' : Nat) {n : Int} (h : 1 ≤ n) : ((nxt l at' n).1 : Int) < n := by
  unfold nxt
  split
  · simp only; omega
  · have : ∀ k : Nat, ((k % n.toNat : Nat) : Int) < n := fun k => by
      have := Nat.mod_lt k (show 0 < n.toNat by omega)
      omega
    split <;> exact this _
theorem getD_of {l : List UInt8} {i : Nat} {c : UInt8} (h : l[i]? = some c) : l.getD i 0 = c := by rw [List.getD_eq_getElem?_getD, h]; rfl
theorem nxt_none {l : List UInt8} {a : Nat} {n : Int} (h : n < 1 ∨ l.length ≤ a) : nxt l a n = (0, a) := by rw [nxt, if_pos h]
theorem nxt_one {l : List UInt8} {a : Nat} {n : Int} {c : UInt8} (h : 1 ≤ n) (hc : l[a]? = some c) (h2 : ¬ (256 < n ∧ a + 1 < l.length)) : nxt l a n = (c.toNat % n.toNat, a + 1) := by
  have := (List.getElem?_eq_some_iff.1 hc).1
  rw [nxt, if_neg (by omega), if_neg h2, getD_of hc]
theorem nxt_two {l : List UInt8} {a : Nat} {n : Int} {c d : UInt8} (h : 256 < n) (hc : l[a]? = some c) (hd : l[a + 1]? = some d) : nxt l a n = ((c.toNat * 256 + d.toNat) % n.toNat, a + 2) := by
  have := (List.getElem?_eq_some_iff.1 hd).1
  rw [nxt, if_neg (by omega), if_pos ⟨h, this⟩, getD_of hc, getD_of hd]
theorem rem_nat {m n : Nat} : ((m : Int).tmod n) = ((m % n : Nat) : Int) := by
  rw [Int.tmod_eq_emod_of_nonneg (by omega)]; omega

theorem rem_int {m : Nat} {n : Int} (h : 1 ≤ n) : ((m : Int).tmod n) = ((m % n.toNat : Nat) : Int) := by
  have e : n = (n.toNat : Int) := by omega
  rw [e, rem_nat, Int.toNat_natCast]
theorem tmod_bd (k : Int) {n : Int} (h : 1 ≤ n) : -n < k.tmod n ∧ k.tmod n < n := ⟨by
  have := Int.lt_tmod_of_pos k (b := n) (by omega); omega, Int.tmod_lt_of_pos k (by omega)⟩
/-- Choices in memory of one's own. -/
abbrev drB (l : List UInt8) (a : Nat) : Hp := [(0, some (.box [.sl 1 (l.map u8A), .i a]))]

set_option maxHeartbeats 1000000 in
theorem new_call (l : List UInt8) (hl : l.length ≤ 9223372036854775807) : GCall Tryd.prog 13 0 [] [.sl 1 (l.map u8A)] 1 (drB (l.take 400) 0) (.ref 0 0) := by
  refine gcall_intro (n := 10) Tryd.func13 (by kernel_rfl) rfl rfl rfl rfl (fun E h0 => ?_)
  repeat' ((first | refine aops_go ?_ | refine awp_go ?_ | refine var_i ?_ | refine fld_i ?_ | refine sl_i ?_ | refine arr_i ?_ | refine strt_i ?_ | refine boolt_i ?_ | refine zero_i ?_ | refine build_i ?_ | (refine row_i ?_ ?_; rfl) | refine map_i ?_ | refine guard_tt ?_ | refine guard_ff ?_ | refine guard_tf ?_ | refine guard_ft ?_ | (refine guard_dt (fun h => ?_) (fun h => ?_) <;> try (first | (exfalso; omega) | exact absurd rfl h)) | (refine guard_df (fun h => ?_) (fun h => ?_) <;> try (first | (exfalso; omega) | exact absurd rfl h)) | (refine guard_ndt (fun h => ?_) (fun h => ?_) <;> try (first | (exfalso; omega) | exact absurd rfl h)) | (refine guard_ndf (fun h => ?_) (fun h => ?_) <;> try (first | (exfalso; omega) | exact absurd rfl h)) | refine guard_nbt (fun h => ?_) (fun h => ?_) | refine guard_nbf (fun h => ?_) (fun h => ?_) | refine guard_bt (fun h => ?_) (fun h => ?_) | refine guard_bf (fun h => ?_) (fun h => ?_) | refine cond_t ?_ | refine cond_f ?_ | (refine cond_d (fun h => ?_) (fun h => ?_) <;> try (first | (exfalso; omega) | exact absurd rfl h)) | (refine cond_nd (fun h => ?_) (fun h => ?_) <;> try (first | (exfalso; omega) | exact absurd rfl h)) | refine cond_nb (fun h => ?_) (fun h => ?_) | refine cond_b (fun h => ?_) (fun h => ?_) | (refine side_i ?_ ?_; (first | omega | exact Eq.refl _ | exact ⟨Eq.refl _, by omega⟩ | (simp only [List.length_map]; omega))) | (refine side_i (imsB ?_) ?_; rfl) | (refine side_i (ims_map fun x => ?_) ?_; rfl) | (refine side_i ?_ ?_; (constructor <;> (simp only [elsA, cellsA, List.length_cons, List.length_nil, List.length_map]; omega))) | refine len_map ?_ | refine len_l ?_ | (refine each_knownm (by assumption) (by omega) ?_) | (refine each_known (by assumption) (by omega) ?_) | (refine each_mapNb ?_ (fun el hel hbB => ?_); omega) | (refine each_mapb ?_ ?_ (fun el hel hbB => ?_); omega; omega) | (refine each_lb ?_ ?_ (fun el hel hbB => ?_); omega; omega) | (refine each_mapN ?_ (fun el hel => ?_); omega) | (refine each_map ?_ ?_ (fun el hel => ?_); omega; omega) | (refine each_l ?_ ?_ (fun el hel => ?_); omega; omega) | (refine conv_bytes ?_ ?_; omega) | refine conv_u8 ?_ | refine conv_int ?_ | refine dq_go ?_ | (refine aany_go ?_ ?_ ?_; kernel_rfl; rfl) | (refine many_step ?_ ?_ ?_; kernel_rfl; kernel_rfl) | refine ex_i (fun ex => ?_) | refine allMP_c ?_ ?_ | exact allMP_n | (refine mpost_i ?_ ?_ ?_ ?_; rfl; rfl; rfl) | (refine free_i ?_ ?_; exact ⟨by kernel_rfl, by decide⟩) | refine allI_c ?_ ?_ | exact allI_n | refine conv_rune ?_ | (refine draw_p ?_ ?_ ?_; rfl; kernel_rfl)) <;> (try (conv => whnf)))
  refine retg_tmp (le_of h0 rfl ⟨rfl, trivial⟩ ⟨congrArg (fun z => Blk.box [AV.sl 1 z, .i 0]) ?_, trivial⟩ rfl rfl rfl)
  rw [show (min (l.length : Int) 400).toNat = min l.length 400 by omega, ← List.map_take]
  show _ = List.map u8A (List.take (min l.length 400) l)
  congr 1
  by_cases h : l.length ≤ 400
  · rw [Nat.min_eq_left h, List.take_of_length_le h, List.take_of_length_le (Nat.le_refl _)]
  · rw [Nat.min_eq_right (by omega)]

set_option maxHeartbeats 2000000 in
theorem next_call (l : List UInt8) (a : Nat) (n : Int) (hl : l.length ≤ 400) : GCall Tryd.prog 70 1 (drB l a) [.ref 0 0, .i n] 1 (drB l (nxt l a n).2) (.i (nxt l a n).1) := by
  refine gcall_intro (n := 77) Tryd.func70 (by kernel_rfl) rfl rfl rfl rfl (fun E h0 => ?_)
  repeat' ((first | (refine draw_q ?_ ?_; kernel_rfl)  | refine aops_go ?_ | refine awp_go ?_ | refine var_i ?_ | refine fld_i ?_ | refine sl_i ?_ | refine arr_i ?_ | refine strt_i ?_ | refine boolt_i ?_ | refine zero_i ?_ | refine build_i ?_ | (refine row_i ?_ ?_; rfl) | refine map_i ?_ | refine guard_tt ?_ | refine guard_ff ?_ | refine guard_tf ?_ | refine guard_ft ?_ | (refine guard_dt (fun h => ?_) (fun h => ?_) <;> try (first | (exfalso; omega) | exact absurd rfl h)) | (refine guard_df (fun h => ?_) (fun h => ?_) <;> try (first | (exfalso; omega) | exact absurd rfl h)) | (refine guard_ndt (fun h => ?_) (fun h => ?_) <;> try (first | (exfalso; omega) | exact absurd rfl h)) | (refine guard_ndf (fun h => ?_) (fun h => ?_) <;> try (first | (exfalso; omega) | exact absurd rfl h)) | refine guard_nbt (fun h => ?_) (fun h => ?_) | refine guard_nbf (fun h => ?_) (fun h => ?_) | refine guard_bt (fun h => ?_) (fun h => ?_) | refine guard_bf (fun h => ?_) (fun h => ?_) | refine cond_t ?_ | refine cond_f ?_ | (refine cond_d (fun h => ?_) (fun h => ?_) <;> try (first | (exfalso; omega) | exact absurd rfl h)) | (refine cond_nd (fun h => ?_) (fun h => ?_) <;> try (first | (exfalso; omega) | exact absurd rfl h)) | refine cond_nb (fun h => ?_) (fun h => ?_) | refine cond_b (fun h => ?_) (fun h => ?_) | (refine side_i ?_ ?_; (first | omega | exact Eq.refl _ | exact ⟨Eq.refl _, by omega⟩ | (simp only [List.length_map]; omega))) | (refine side_i (imsB ?_) ?_; rfl) | (refine side_i (ims_map fun x => ?_) ?_; rfl) | (refine side_i ?_ ?_; (constructor <;> (simp only [elsA, cellsA, List.length_cons, List.length_nil, List.length_map]; omega))) | refine len_map ?_ | refine len_l ?_ | (refine each_knownm (by assumption) (by omega) ?_) | (refine each_known (by assumption) (by omega) ?_) | (refine each_mapNb ?_ (fun el hel hbB => ?_); omega) | (refine each_mapb ?_ ?_ (fun el hel hbB => ?_); omega; omega) | (refine each_lb ?_ ?_ (fun el hel hbB => ?_); omega; omega) | (refine each_mapN ?_ (fun el hel => ?_); omega) | (refine each_map ?_ ?_ (fun el hel => ?_); omega; omega) | (refine each_l ?_ ?_ (fun el hel => ?_); omega; omega) | (refine conv_bytes ?_ ?_; omega) | refine conv_u8 ?_ | refine conv_int ?_ | refine dq_go ?_ | (refine aany_go ?_ ?_ ?_; kernel_rfl; rfl) | (refine many_step ?_ ?_ ?_; kernel_rfl; kernel_rfl) | refine ex_i (fun ex => ?_) | refine allMP_c ?_ ?_ | exact allMP_n | (refine mpost_i ?_ ?_ ?_ ?_; rfl; rfl; rfl) | (refine free_i ?_ ?_; exact ⟨by kernel_rfl, by decide⟩) | refine allI_c ?_ ?_ | exact allI_n | refine conv_rune ?_ | (refine draw_p ?_ ?_ ?_; rfl; kernel_rfl)) <;> (try (conv => whnf)))
  all_goals first
    | (rw [nxt_none (by omega)]; exact retg_tmp (le_of h0 rfl ⟨rfl, trivial⟩ ⟨rfl, trivial⟩ rfl rfl rfl))
    | skip
  · rename_i el1 hel1 _ _
    have e1 : l[a]? = some el1 := by rw [← hel1]; congr 1; omega
    have e2 : l[a + 1]? = some el := by rw [← hel]; congr 1
    rw [nxt_two (by assumption) e1 e2]
    refine retg_tmp (le_of h0 rfl ⟨congrArg (fun z => some (AV.i z)) ?_, trivial⟩ ⟨congrArg (fun z => Blk.box [AV.sl 1 (l.map u8A), .i z]) ?_, trivial⟩ rfl rfl rfl)
    · rw [← rem_int (by omega)]; rfl
    · omega
  all_goals
    have e1 : l[a]? = some el := by rw [← hel]; congr 1; omega
    rw [nxt_one (by omega) e1 (by omega)]
    exact retg_tmp (le_of h0 rfl ⟨congrArg (fun z => some (AV.i z)) ((rem_int (m := el.toNat) (n := n) (by omega))), trivial⟩ ⟨rfl, trivial⟩ rfl rfl rfl)

def mod' (k n : Int) : Int := if n < 1 then 0 else k % n
theorem mod_lt {k n : Int} (h : 1 ≤ n) : 0 ≤ mod' k n ∧ mod' k n < n := by
  rw [mod', if_neg (by omega)]
  exact ⟨Int.emod_nonneg _ (by omega), Int.emod_lt_of_pos _ (by omega)⟩
theorem mod_cases (k : Int) {n : Int} (h : 1 ≤ n) : (k.tmod n < 0 ∧ k % n = k.tmod n + n) ∨ (0 ≤ k.tmod n ∧ k % n = k.tmod n) := by
  have h2 : k % n = (k.tmod n) % n := by
    have := Int.mul_tdiv_add_tmod k n
    conv => lhs; rw [← this]
    rw [Int.add_comm, Int.add_mul_emod_self_left]
  have hb : -n < k.tmod n ∧ k.tmod n < n := ⟨by have := Int.lt_tmod_of_pos k (b := n) (by omega); omega, Int.tmod_lt_of_pos k (by omega)⟩
  by_cases hneg : k.tmod n < 0
  · left
    refine ⟨hneg, ?_⟩
    rw [h2, ← Int.add_emod_right, Int.emod_eq_of_lt (by omega) (by omega)]
  · right
    refine ⟨by omega, ?_⟩
    rw [h2, Int.emod_eq_of_lt (by omega) (by omega)]
theorem mod_call (k n : Int) (hn : n ≤ 9223372036854775807) : FCall Tryd.prog 19 [.i k, .i n] (.i (mod' k n)) := by
  have hb := fun h : 1 ≤ n => tmod_bd k h
  refine fcall_intro (n := 16) Tryd.func19 (by kernel_rfl) rfl rfl rfl rfl rfl (by intro t T h; cases h) (fun hrd E h0 => ?_)
  repeat' ((first | (refine side_i ?_ ?_; (have := hb (by omega); omega))  | refine aops_go ?_ | refine awp_go ?_ | refine var_i ?_ | refine fld_i ?_ | refine sl_i ?_ | refine arr_i ?_ | refine strt_i ?_ | refine boolt_i ?_ | refine zero_i ?_ | refine build_i ?_ | (refine row_i ?_ ?_; rfl) | refine map_i ?_ | refine guard_tt ?_ | refine guard_ff ?_ | refine guard_tf ?_ | refine guard_ft ?_ | (refine guard_dt (fun h => ?_) (fun h => ?_) <;> try (first | (exfalso; omega) | exact absurd rfl h)) | (refine guard_df (fun h => ?_) (fun h => ?_) <;> try (first | (exfalso; omega) | exact absurd rfl h)) | (refine guard_ndt (fun h => ?_) (fun h => ?_) <;> try (first | (exfalso; omega) | exact absurd rfl h)) | (refine guard_ndf (fun h => ?_) (fun h => ?_) <;> try (first | (exfalso; omega) | exact absurd rfl h)) | refine guard_nbt (fun h => ?_) (fun h => ?_) | refine guard_nbf (fun h => ?_) (fun h => ?_) | refine guard_bt (fun h => ?_) (fun h => ?_) | refine guard_bf (fun h => ?_) (fun h => ?_) | refine cond_t ?_ | refine cond_f ?_ | (refine cond_d (fun h => ?_) (fun h => ?_) <;> try (first | (exfalso; omega) | exact absurd rfl h)) | (refine cond_nd (fun h => ?_) (fun h => ?_) <;> try (first | (exfalso; omega) | exact absurd rfl h)) | refine cond_nb (fun h => ?_) (fun h => ?_) | refine cond_b (fun h => ?_) (fun h => ?_) | (refine side_i ?_ ?_; (first | omega | exact Eq.refl _ | exact ⟨Eq.refl _, by omega⟩ | (simp only [List.length_map]; omega))) | (refine side_i (imsB ?_) ?_; rfl) | (refine side_i (ims_map fun x => ?_) ?_; rfl) | (refine side_i ?_ ?_; (constructor <;> (simp only [elsA, cellsA, List.length_cons, List.length_nil, List.length_map]; omega))) | refine len_map ?_ | refine len_l ?_ | (refine each_knownm (by assumption) (by omega) ?_) | (refine each_known (by assumption) (by omega) ?_) | (refine each_mapNb ?_ (fun el hel hbB => ?_); omega) | (refine each_mapb ?_ ?_ (fun el hel hbB => ?_); omega; omega) | (refine each_lb ?_ ?_ (fun el hel hbB => ?_); omega; omega) | (refine each_mapN ?_ (fun el hel => ?_); omega) | (refine each_map ?_ ?_ (fun el hel => ?_); omega; omega) | (refine each_l ?_ ?_ (fun el hel => ?_); omega; omega) | (refine conv_bytes ?_ ?_; omega) | refine conv_u8 ?_ | refine conv_int ?_ | refine dq_go ?_ | (refine aany_go ?_ ?_ ?_; kernel_rfl; rfl) | (refine many_step ?_ ?_ ?_; kernel_rfl; kernel_rfl) | refine ex_i (fun ex => ?_) | refine allMP_c ?_ ?_ | exact allMP_n | (refine mpost_i ?_ ?_ ?_ ?_; rfl; rfl; rfl) | (refine free_i ?_ ?_; exact ⟨by kernel_rfl, by decide⟩) | refine allI_c ?_ ?_ | exact allI_n | refine conv_rune ?_ | (refine draw_p ?_ ?_ ?_; rfl; kernel_rfl)) <;> (try (conv => whnf)))
  · exact ret_tmp rfl (congrArg AV.i (by rw [mod', if_pos h]))
  · refine ret_tmp rfl (congrArg AV.i ?_)
    have hn1 : 1 ≤ n := by omega
    have := mod_cases k hn1
    rw [mod', if_neg (by omega)]; omega
  · refine ret_tmp rfl (congrArg AV.i ?_)
    have hn1 : 1 ≤ n := by omega
    have := mod_cases k hn1
    rw [mod', if_neg (by omega)]; omega

theorem range_call (l : List UInt8) (a : Nat) (lo hi : Int) (hl : l.length ≤ 400) (h1 : lo ≤ hi) (h2 : -4000000000000000000 ≤ lo) (h3 : hi ≤ 4000000000000000000) : GCall Tryd.prog 23 1 (drB l a) [.ref 0 0, .i lo, .i hi] 1 (drB l (nxt l a (hi - lo + 1)).2) (.i (lo + (nxt l a (hi - lo + 1)).1)) := by
  have hlt := nxt_lt l a (n := hi - lo + 1) (by omega)
  refine gcall_intro (n := 15) Tryd.func23 (by kernel_rfl) rfl rfl rfl rfl (fun E h0 => ?_)
  repeat' ((first | refine ⟨ncall_g [0] [0] (next_call _ _ _ hl) rfl rfl rfl rfl rfl ⟨rfl, trivial⟩ rfl rfl rfl rfl rfl ?_⟩  | refine aops_go ?_ | refine awp_go ?_ | refine var_i ?_ | refine fld_i ?_ | refine sl_i ?_ | refine arr_i ?_ | refine strt_i ?_ | refine boolt_i ?_ | refine zero_i ?_ | refine build_i ?_ | (refine row_i ?_ ?_; rfl) | refine map_i ?_ | refine guard_tt ?_ | refine guard_ff ?_ | refine guard_tf ?_ | refine guard_ft ?_ | (refine guard_dt (fun h => ?_) (fun h => ?_) <;> try (first | (exfalso; omega) | exact absurd rfl h)) | (refine guard_df (fun h => ?_) (fun h => ?_) <;> try (first | (exfalso; omega) | exact absurd rfl h)) | (refine guard_ndt (fun h => ?_) (fun h => ?_) <;> try (first | (exfalso; omega) | exact absurd rfl h)) | (refine guard_ndf (fun h => ?_) (fun h => ?_) <;> try (first | (exfalso; omega) | exact absurd rfl h)) | refine guard_nbt (fun h => ?_) (fun h => ?_) | refine guard_nbf (fun h => ?_) (fun h => ?_) | refine guard_bt (fun h => ?_) (fun h => ?_) | refine guard_bf (fun h => ?_) (fun h => ?_) | refine cond_t ?_ | refine cond_f ?_ | (refine cond_d (fun h => ?_) (fun h => ?_) <;> try (first | (exfalso; omega) | exact absurd rfl h)) | (refine cond_nd (fun h => ?_) (fun h => ?_) <;> try (first | (exfalso; omega) | exact absurd rfl h)) | refine cond_nb (fun h => ?_) (fun h => ?_) | refine cond_b (fun h => ?_) (fun h => ?_) | (refine side_i ?_ ?_; (first | omega | exact Eq.refl _ | exact ⟨Eq.refl _, by omega⟩ | (simp only [List.length_map]; omega))) | (refine side_i (imsB ?_) ?_; rfl) | (refine side_i (ims_map fun x => ?_) ?_; rfl) | (refine side_i ?_ ?_; (constructor <;> (simp only [elsA, cellsA, List.length_cons, List.length_nil, List.length_map]; omega))) | refine len_map ?_ | refine len_l ?_ | (refine each_knownm (by assumption) (by omega) ?_) | (refine each_known (by assumption) (by omega) ?_) | (refine each_mapNb ?_ (fun el hel hbB => ?_); omega) | (refine each_mapb ?_ ?_ (fun el hel hbB => ?_); omega; omega) | (refine each_lb ?_ ?_ (fun el hel hbB => ?_); omega; omega) | (refine each_mapN ?_ (fun el hel => ?_); omega) | (refine each_map ?_ ?_ (fun el hel => ?_); omega; omega) | (refine each_l ?_ ?_ (fun el hel => ?_); omega; omega) | (refine conv_bytes ?_ ?_; omega) | refine conv_u8 ?_ | refine conv_int ?_ | refine dq_go ?_ | (refine aany_go ?_ ?_ ?_; kernel_rfl; rfl) | (refine many_step ?_ ?_ ?_; kernel_rfl; kernel_rfl) | refine ex_i (fun ex => ?_) | refine allMP_c ?_ ?_ | exact allMP_n | (refine mpost_i ?_ ?_ ?_ ?_; rfl; rfl; rfl) | (refine free_i ?_ ?_; exact ⟨by kernel_rfl, by decide⟩) | refine allI_c ?_ ?_ | exact allI_n | refine conv_rune ?_ | (refine draw_p ?_ ?_ ?_; rfl; kernel_rfl)) <;> (try (conv => whnf)))
  exact retg_tmp (le_of h0 rfl ⟨rfl, trivial⟩ ⟨rfl, trivial⟩ rfl rfl rfl)
theorem one_call (l : List UInt8) (a : Nat) (n : Int) (hl : l.length ≤ 400) (hn : 1 ≤ n ∧ n ≤ 1000000) : GCall Tryd.prog 62 1 (drB l a) [.ref 0 0, .i n] 1 (drB l (nxt l a n).2) (.b (decide (((nxt l a n).1 : Int) = n - 1))) := by
  refine gcall_intro (n := 11) Tryd.func62 (by kernel_rfl) rfl rfl rfl rfl (fun E h0 => ?_)
  repeat' ((first | refine ⟨ncall_g [0] [0] (next_call _ _ _ hl) rfl rfl rfl rfl rfl ⟨rfl, trivial⟩ rfl rfl rfl rfl rfl ?_⟩  | refine aops_go ?_ | refine awp_go ?_ | refine var_i ?_ | refine fld_i ?_ | refine sl_i ?_ | refine arr_i ?_ | refine strt_i ?_ | refine boolt_i ?_ | refine zero_i ?_ | refine build_i ?_ | (refine row_i ?_ ?_; rfl) | refine map_i ?_ | refine guard_tt ?_ | refine guard_ff ?_ | refine guard_tf ?_ | refine guard_ft ?_ | (refine guard_dt (fun h => ?_) (fun h => ?_) <;> try (first | (exfalso; omega) | exact absurd rfl h)) | (refine guard_df (fun h => ?_) (fun h => ?_) <;> try (first | (exfalso; omega) | exact absurd rfl h)) | (refine guard_ndt (fun h => ?_) (fun h => ?_) <;> try (first | (exfalso; omega) | exact absurd rfl h)) | (refine guard_ndf (fun h => ?_) (fun h => ?_) <;> try (first | (exfalso; omega) | exact absurd rfl h)) | refine guard_nbt (fun h => ?_) (fun h => ?_) | refine guard_nbf (fun h => ?_) (fun h => ?_) | refine guard_bt (fun h => ?_) (fun h => ?_) | refine guard_bf (fun h => ?_) (fun h => ?_) | refine cond_t ?_ | refine cond_f ?_ | (refine cond_d (fun h => ?_) (fun h => ?_) <;> try (first | (exfalso; omega) | exact absurd rfl h)) | (refine cond_nd (fun h => ?_) (fun h => ?_) <;> try (first | (exfalso; omega) | exact absurd rfl h)) | refine cond_nb (fun h => ?_) (fun h => ?_) | refine cond_b (fun h => ?_) (fun h => ?_) | (refine side_i ?_ ?_; (first | omega | exact Eq.refl _ | exact ⟨Eq.refl _, by omega⟩ | (simp only [List.length_map]; omega))) | (refine side_i (imsB ?_) ?_; rfl) | (refine side_i (ims_map fun x => ?_) ?_; rfl) | (refine side_i ?_ ?_; (constructor <;> (simp only [elsA, cellsA, List.length_cons, List.length_nil, List.length_map]; omega))) | refine len_map ?_ | refine len_l ?_ | (refine each_knownm (by assumption) (by omega) ?_) | (refine each_known (by assumption) (by omega) ?_) | (refine each_mapNb ?_ (fun el hel hbB => ?_); omega) | (refine each_mapb ?_ ?_ (fun el hel hbB => ?_); omega; omega) | (refine each_lb ?_ ?_ (fun el hel hbB => ?_); omega; omega) | (refine each_mapN ?_ (fun el hel => ?_); omega) | (refine each_map ?_ ?_ (fun el hel => ?_); omega; omega) | (refine each_l ?_ ?_ (fun el hel => ?_); omega; omega) | (refine conv_bytes ?_ ?_; omega) | refine conv_u8 ?_ | refine conv_int ?_ | refine dq_go ?_ | (refine aany_go ?_ ?_ ?_; kernel_rfl; rfl) | (refine many_step ?_ ?_ ?_; kernel_rfl; kernel_rfl) | refine ex_i (fun ex => ?_) | refine allMP_c ?_ ?_ | exact allMP_n | (refine mpost_i ?_ ?_ ?_ ?_; rfl; rfl; rfl) | (refine free_i ?_ ?_; exact ⟨by kernel_rfl, by decide⟩) | refine allI_c ?_ ?_ | exact allI_n | refine conv_rune ?_ | (refine draw_p ?_ ?_ ?_; rfl; kernel_rfl)) <;> (try (conv => whnf)))
  exact retg_tmp (le_of h0 rfl ⟨rfl, trivial⟩ ⟨rfl, trivial⟩ rfl rfl rfl)
end Go.Proofs.YtmiaihoallkjfaaDoor

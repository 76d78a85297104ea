/- Chapter 1: a made list in which something is another thing. -/
import Derived.Test.YtmmogjdkoghjoaaDoorDr2
namespace Go.Proofs.YtmmogjdkoghjoaaDoor
open Go Go.Av
attribute [local irreducible] AWp AOps AAny DQ retQ retG St.le FCall GCall
set_option linter.unusedVariables false
set_option linter.unnecessarySimpa false
set_option linter.unusedSimpArgs false

theorem lAdd_length (cs : List Code) (p : Nat) : ∀ k, (lAdd cs p k).length = cs.length + k
  | 0 => rfl
  | k + 1 => by
    unfold lAdd
    induction k generalizing cs with
    | zero => simp [lAdd]
    | succ k ih => rw [lAdd, ih]; simp; omega
theorem lCodes_length (l : List UInt8) : ∀ (k p : Nat) (s : List Code × Nat), s.1.length ≤ (lCodes l s p k).1.length ∧ (lCodes l s p k).1.length ≤ s.1.length + 2 * k
  | 0, p, s => ⟨Nat.le_refl _, Nat.le_refl _⟩
  | k + 1, p, s => by
    unfold lCodes
    have h := lCodes_length l k (p + 1) (lAdd s.1 p (1 + (nxt l s.2 2).1), (nxt l s.2 2).2)
    have h2 := nxt_lt l s.2 (n := 2) (by omega)
    rw [lAdd_length] at h
    omega
theorem listS_length (l : List UInt8) (a : Nat) : 2 ≤ (listS l a).1.length ∧ (listS l a).1.length ≤ 10 := by
  unfold listS
  have h3 := nxt_lt l a (n := 3) (by omega)
  simp only
  split
  · rw [kCodes_length]; omega
  · have h := lCodes_length l (1 + (nxt l a 3).1) 0 (kCodes (1 + (nxt l a 3).1), (nxt l (nxt l a 3).2 2).2)
    rw [kCodes_length] at h
    omega

abbrev oneN : List UInt8 := [111, 110, 101]
def spoiltS (l : List UInt8) (at' by' : Int) (name : List UInt8) : List UInt8 × List Code :=
  let s := listS (l.take 400) 0
  let k := (mod' at' s.1.length).toNat
  match (nxt (l.take 400) s.2 6).1 with
  | 1 => (oneN, s.1.set k ⟨(s.1.getD k ⟨[], 0⟩).name, by'⟩)
  | 2 => (oneN, s.1.set k ⟨name, (s.1.getD k ⟨[], 0⟩).parent⟩)
  | 3 => (name, s.1)
  | 4 => (oneN, s.1 ++ [⟨name, mod' by' s.1.length⟩])
  | _ => (oneN, s.1)
theorem spoiltS_length (l : List UInt8) (at' by' : Int) (name : List UInt8) : (spoiltS l at' by' name).2.length ≤ 11 := by
  have h := listS_length (l.take 400) 0
  unfold spoiltS
  simp only
  split <;> simp <;> omega

theorem map_setC (cs : List Code) (k : Nat) (c : Code) : (cs.map cA).set k (cA c) = (cs.set k c).map cA := List.map_set.symm
set_option maxHeartbeats 4000000 in
theorem spoilt_call (l : List UInt8) (at' by' : Int) (name : List UInt8) (hl : l.length ≤ 9223372036854775807) : FCall Tryd.prog 9 [.sl 1 (l.map u8A), .i at', .i by', .str name] (lA (spoiltS l at' by' name).1 (spoiltS l at' by' name).2) := by
  have hL : (l.take 400).length ≤ 400 := List.length_take_le _ _
  have hln := listS_length (l.take 400) 0
  have hm1 := mod_lt (k := at') (n := (listS (l.take 400) 0).1.length) (by omega)
  have h6 := nxt_lt (l.take 400) (listS (l.take 400) 0).2 (n := 6) (by omega)
  refine fcall_intro (n := 57) Tryd.func9 (by kernel_rfl) rfl rfl rfl rfl rfl (by intro t T h; cases h; exact ⟨2, inferInstance, fun l h => by cases h; rfl⟩) (fun hrd E h0 => ?_)
  generalize hcs : listS (l.take 400) 0 = s at *
  obtain ⟨cs, a1⟩ := s
  simp only at hln hm1 h6
  have hsp : spoiltS l at' by' name = match (nxt (l.take 400) a1 6).1 with
      | 1 => (oneN, cs.set (mod' at' cs.length).toNat ⟨(cs.getD (mod' at' cs.length).toNat ⟨[], 0⟩).name, by'⟩)
      | 2 => (oneN, cs.set (mod' at' cs.length).toNat ⟨name, (cs.getD (mod' at' cs.length).toNat ⟨[], 0⟩).parent⟩)
      | 3 => (name, cs)
      | 4 => (oneN, cs ++ [⟨name, mod' by' cs.length⟩])
      | _ => (oneN, cs) := by
    unfold spoiltS
    simp only [hcs]
  rw [hsp]
  have hmod := mod_call at' cs.length (by omega)
  generalize mod' at' cs.length = k at *
  have hlist : GCall Tryd.prog 15 1 (drB (l.take 400) 0) [.ref 0 0, .str oneN] 3 (lB (l.take 400) a1 oneN cs) (.agg [.str oneN, .row 2 0 cs.length]) := by
    have := list_call (l.take 400) 0 oneN hL
    rw [hcs] at this
    exact this
  repeat' ((first | refine ncall_g [] [] (new_call _ hl) rfl rfl rfl rfl rfl trivial rfl rfl rfl rfl rfl ?_ | refine ⟨ncall_g [1] [0] hlist rfl rfl rfl rfl rfl ⟨rfl, trivial⟩ rfl rfl rfl rfl rfl ?_⟩ | refine call_i hmod ?_ | refine ⟨ncall_g [1] [0] (next_call _ _ _ hL) rfl rfl rfl rfl rfl ⟨rfl, trivial⟩ rfl rfl rfl rfl rfl (aops_le (σ' := ⟨[(2, .i by'), (3, .str name), (8, .ref 0 0), (10, .ref 4 0), (11, .elt 3 0 k.toNat 0), (25, .i ((nxt (l.take 400) a1 6).1))], 5, [(0, some (.box [.str [], .v (.slice none 0 0)])), (3, some (.row cdT 2 0 (cs.map cA))), (4, some (.box [.str oneN, .row 3 0 cs.length]))]⟩) (le_of h0 rfl ⟨rfl, rfl, rfl, rfl, rfl, rfl, trivial⟩ ⟨rfl, ⟨_, rfl⟩, rfl, trivial⟩ rfl rfl rfl) ?_)⟩  | refine aops_go ?_ | refine awp_go ?_ | refine var_i ?_ | refine fld_i ?_ | refine sl_i ?_ | refine arr_i ?_ | refine strt_i ?_ | refine boolt_i ?_ | refine zero_i ?_ | refine build_i ?_ | (refine row_i ?_ ?_; rfl) | refine map_i ?_ | refine guard_tt ?_ | refine guard_ff ?_ | refine guard_tf ?_ | refine guard_ft ?_ | (refine guard_dt (fun h => ?_) (fun h => ?_) <;> try (first | (exfalso; omega) | exact absurd rfl h)) | (refine guard_df (fun h => ?_) (fun h => ?_) <;> try (first | (exfalso; omega) | exact absurd rfl h)) | (refine guard_ndt (fun h => ?_) (fun h => ?_) <;> try (first | (exfalso; omega) | exact absurd rfl h)) | (refine guard_ndf (fun h => ?_) (fun h => ?_) <;> try (first | (exfalso; omega) | exact absurd rfl h)) | refine guard_nbt (fun h => ?_) (fun h => ?_) | refine guard_nbf (fun h => ?_) (fun h => ?_) | refine guard_bt (fun h => ?_) (fun h => ?_) | refine guard_bf (fun h => ?_) (fun h => ?_) | refine cond_t ?_ | refine cond_f ?_ | (refine cond_d (fun h => ?_) (fun h => ?_) <;> try (first | (exfalso; omega) | exact absurd rfl h)) | (refine cond_nd (fun h => ?_) (fun h => ?_) <;> try (first | (exfalso; omega) | exact absurd rfl h)) | refine cond_nb (fun h => ?_) (fun h => ?_) | refine cond_b (fun h => ?_) (fun h => ?_) | (refine side_i ?_ ?_; (first | omega | exact Eq.refl _ | exact ⟨Eq.refl _, by omega⟩ | (simp only [List.length_map]; omega))) | (refine side_i (imsB ?_) ?_; rfl) | (refine side_i (ims_map fun x => ?_) ?_; rfl) | (refine side_i ?_ ?_; (constructor <;> (simp only [elsA, cellsA, List.length_cons, List.length_nil, List.length_map]; omega))) | refine len_map ?_ | refine len_l ?_ | (refine each_knownm (by assumption) (by omega) ?_) | (refine each_known (by assumption) (by omega) ?_) | (refine each_mapNb ?_ (fun el hel hbB => ?_); omega) | (refine each_mapb ?_ ?_ (fun el hel hbB => ?_); omega; omega) | (refine each_lb ?_ ?_ (fun el hel hbB => ?_); omega; omega) | (refine each_mapN ?_ (fun el hel => ?_); omega) | (refine each_map ?_ ?_ (fun el hel => ?_); omega; omega) | (refine each_l ?_ ?_ (fun el hel => ?_); omega; omega) | (refine conv_bytes ?_ ?_; omega) | refine conv_u8 ?_ | refine conv_int ?_ | refine dq_go ?_ | (refine aany_go ?_ ?_ ?_; kernel_rfl; rfl) | (refine free_i ?_ ?_; exact ⟨by kernel_rfl, by decide⟩) | refine allI_c ?_ ?_ | exact allI_n | refine conv_rune ?_ | (refine draw_p ?_ ?_ ?_; rfl; kernel_rfl)) <;> (try (conv => whnf)))
  · have hd : cs.getD k.toNat ⟨[], 0⟩ = el := by rw [List.getD_eq_getElem?_getD, hel]; rfl
    have e1 : (nxt (List.take 400 l) a1 6).1 = 1 := by omega
    rw [e1]
    refine ret_cell rfl rfl (congrArg (fun z => AV.agg [.str oneN, .sl 2 z]) ?_)
    rw [hd]
    exact map_setC cs k.toNat ⟨el.name, by'⟩
  · have hd : cs.getD k.toNat ⟨[], 0⟩ = el := by rw [List.getD_eq_getElem?_getD, hel]; rfl
    have e1 : (nxt (List.take 400 l) a1 6).1 = 2 := by omega
    rw [e1]
    refine ret_cell rfl rfl (congrArg (fun z => AV.agg [.str oneN, .sl 2 z]) ?_)
    rw [hd]
    exact map_setC cs k.toNat ⟨name, el.parent⟩
  · have e1 : (nxt (List.take 400 l) a1 6).1 = 3 := by omega
    rw [e1]
    exact ret_cell rfl rfl rfl
  · have e1 : (nxt (List.take 400 l) a1 6).1 = 4 := by omega
    rw [e1]
    have hmod2 := mod_call by' cs.length (by omega)
    refine draw_e ⟨[(8, .ref 0 0), (10, .ref 4 0)], 5, [(0, some (.box [.str [], .v (.slice none 0 0)])), (3, some (.row cdT 2 0 ((cs ++ [(⟨name, mod' by' cs.length⟩ : Code)]).map cA))), (4, some (.box [.str oneN, .row 3 0 (cs.length + 1)]))]⟩ ?_ ?_
    · repeat' ((first | refine call_i hmod2 ?_  | refine aops_go ?_ | refine awp_go ?_ | refine var_i ?_ | refine fld_i ?_ | refine sl_i ?_ | refine arr_i ?_ | refine strt_i ?_ | refine boolt_i ?_ | refine zero_i ?_ | refine build_i ?_ | (refine row_i ?_ ?_; rfl) | refine map_i ?_ | refine guard_tt ?_ | refine guard_ff ?_ | refine guard_tf ?_ | refine guard_ft ?_ | (refine guard_dt (fun h => ?_) (fun h => ?_) <;> try (first | (exfalso; omega) | exact absurd rfl h)) | (refine guard_df (fun h => ?_) (fun h => ?_) <;> try (first | (exfalso; omega) | exact absurd rfl h)) | (refine guard_ndt (fun h => ?_) (fun h => ?_) <;> try (first | (exfalso; omega) | exact absurd rfl h)) | (refine guard_ndf (fun h => ?_) (fun h => ?_) <;> try (first | (exfalso; omega) | exact absurd rfl h)) | refine guard_nbt (fun h => ?_) (fun h => ?_) | refine guard_nbf (fun h => ?_) (fun h => ?_) | refine guard_bt (fun h => ?_) (fun h => ?_) | refine guard_bf (fun h => ?_) (fun h => ?_) | refine cond_t ?_ | refine cond_f ?_ | (refine cond_d (fun h => ?_) (fun h => ?_) <;> try (first | (exfalso; omega) | exact absurd rfl h)) | (refine cond_nd (fun h => ?_) (fun h => ?_) <;> try (first | (exfalso; omega) | exact absurd rfl h)) | refine cond_nb (fun h => ?_) (fun h => ?_) | refine cond_b (fun h => ?_) (fun h => ?_) | (refine side_i ?_ ?_; (first | omega | exact Eq.refl _ | exact ⟨Eq.refl _, by omega⟩ | (simp only [List.length_map]; omega))) | (refine side_i (imsB ?_) ?_; rfl) | (refine side_i (ims_map fun x => ?_) ?_; rfl) | (refine side_i ?_ ?_; (constructor <;> (simp only [elsA, cellsA, List.length_cons, List.length_nil, List.length_map]; omega))) | refine len_map ?_ | refine len_l ?_ | (refine each_knownm (by assumption) (by omega) ?_) | (refine each_known (by assumption) (by omega) ?_) | (refine each_mapNb ?_ (fun el hel hbB => ?_); omega) | (refine each_mapb ?_ ?_ (fun el hel hbB => ?_); omega; omega) | (refine each_lb ?_ ?_ (fun el hel hbB => ?_); omega; omega) | (refine each_mapN ?_ (fun el hel => ?_); omega) | (refine each_map ?_ ?_ (fun el hel => ?_); omega; omega) | (refine each_l ?_ ?_ (fun el hel => ?_); omega; omega) | (refine conv_bytes ?_ ?_; omega) | refine conv_u8 ?_ | refine conv_int ?_ | refine dq_go ?_ | (refine aany_go ?_ ?_ ?_; kernel_rfl; rfl) | (refine free_i ?_ ?_; exact ⟨by kernel_rfl, by decide⟩) | refine allI_c ?_ ?_ | exact allI_n | refine conv_rune ?_ | (refine draw_p ?_ ?_ ?_; rfl; kernel_rfl)) <;> (try (conv => whnf)))
      all_goals first
        | exact le_of h0 rfl ⟨rfl, rfl, trivial⟩ ⟨rfl, ⟨_, congrArg (Blk.row cdT 2 _) (by rw [List.map_append]; rfl)⟩, rfl, trivial⟩ rfl rfl rfl
        | trace_state
    repeat' ((first | refine aops_go ?_ | refine awp_go ?_ | refine var_i ?_ | refine fld_i ?_ | refine sl_i ?_ | refine arr_i ?_ | refine strt_i ?_ | refine boolt_i ?_ | refine zero_i ?_ | refine build_i ?_ | (refine row_i ?_ ?_; rfl) | refine map_i ?_ | refine guard_tt ?_ | refine guard_ff ?_ | refine guard_tf ?_ | refine guard_ft ?_ | (refine guard_dt (fun h => ?_) (fun h => ?_) <;> try (first | (exfalso; omega) | exact absurd rfl h)) | (refine guard_df (fun h => ?_) (fun h => ?_) <;> try (first | (exfalso; omega) | exact absurd rfl h)) | (refine guard_ndt (fun h => ?_) (fun h => ?_) <;> try (first | (exfalso; omega) | exact absurd rfl h)) | (refine guard_ndf (fun h => ?_) (fun h => ?_) <;> try (first | (exfalso; omega) | exact absurd rfl h)) | refine guard_nbt (fun h => ?_) (fun h => ?_) | refine guard_nbf (fun h => ?_) (fun h => ?_) | refine guard_bt (fun h => ?_) (fun h => ?_) | refine guard_bf (fun h => ?_) (fun h => ?_) | refine cond_t ?_ | refine cond_f ?_ | (refine cond_d (fun h => ?_) (fun h => ?_) <;> try (first | (exfalso; omega) | exact absurd rfl h)) | (refine cond_nd (fun h => ?_) (fun h => ?_) <;> try (first | (exfalso; omega) | exact absurd rfl h)) | refine cond_nb (fun h => ?_) (fun h => ?_) | refine cond_b (fun h => ?_) (fun h => ?_) | (refine side_i ?_ ?_; (first | omega | exact Eq.refl _ | exact ⟨Eq.refl _, by omega⟩ | (simp only [List.length_map]; omega))) | (refine side_i (imsB ?_) ?_; rfl) | (refine side_i (ims_map fun x => ?_) ?_; rfl) | (refine side_i ?_ ?_; (constructor <;> (simp only [elsA, cellsA, List.length_cons, List.length_nil, List.length_map]; omega))) | refine len_map ?_ | refine len_l ?_ | (refine each_knownm (by assumption) (by omega) ?_) | (refine each_known (by assumption) (by omega) ?_) | (refine each_mapNb ?_ (fun el hel hbB => ?_); omega) | (refine each_mapb ?_ ?_ (fun el hel hbB => ?_); omega; omega) | (refine each_lb ?_ ?_ (fun el hel hbB => ?_); omega; omega) | (refine each_mapN ?_ (fun el hel => ?_); omega) | (refine each_map ?_ ?_ (fun el hel => ?_); omega; omega) | (refine each_l ?_ ?_ (fun el hel => ?_); omega; omega) | (refine conv_bytes ?_ ?_; omega) | refine conv_u8 ?_ | refine conv_int ?_ | refine dq_go ?_ | (refine aany_go ?_ ?_ ?_; kernel_rfl; rfl) | (refine free_i ?_ ?_; exact ⟨by kernel_rfl, by decide⟩) | refine allI_c ?_ ?_ | exact allI_n | refine conv_rune ?_ | (refine draw_p ?_ ?_ ?_; rfl; kernel_rfl)) <;> (try (conv => whnf)))
    exact ret_cell rfl rfl rfl
  · have e1 : (nxt (List.take 400 l) a1 6).1 = 0 ∨ (nxt (List.take 400 l) a1 6).1 = 5 := by omega
    rcases e1 with e1 | e1 <;> (rw [e1]; exact ret_cell rfl rfl rfl)
end Go.Proofs.YtmmogjdkoghjoaaDoor

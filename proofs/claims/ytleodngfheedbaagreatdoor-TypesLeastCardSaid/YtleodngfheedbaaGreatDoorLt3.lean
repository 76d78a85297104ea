/- TypesLeast: what an expression needs does, and less does not. -/
import Derived.Test.YtleodngfheedbaaGreatDoorAw7
import Derived.Test.YtleodngfheedbaaGreatDoorPm3
import Derived.Test.YtleodngfheedbaaGreatDoorDx3
import Derived.Test.YtleodngfheedbaaGreatDoorCB
import Derived.Test.YtleodngfheedbaaGreatDoorC7
import Derived.Test.YtleodngfheedbaaGreatDoorC5
namespace Go.Proofs.YtleodngfheedbaaGreatDoor
open Go Go.Av
attribute [local irreducible] AWp AOps AAny MAny DQ retQ retG St.le FCall GCall
set_option linter.unusedVariables false
set_option linter.unnecessarySimpa false
set_option linter.unusedSimpArgs false
set_option maxRecDepth 100000

theorem side_app {n m : Nat} (h1 : n ≤ 100000) (h2 : m ≤ 100000) : (n + m) * 16 ≤ 140737488355328 ∧ n + m ≤ 9223372036854775807 := by omega
theorem side_app3 {n m : Nat} (h1 : n ≤ 100000) (h2 : m ≤ 100000) : (0 + n + m) * 16 ≤ 140737488355328 ∧ 0 + n + m ≤ 9223372036854775807 := by omega
theorem rm_raw (N : List Pk) (k : Nat) : (N.take k ++ N.drop (k + 1)).map pkL = [] ++ List.drop (0 : Int).toNat (List.take (k : Int).toNat (N.map pkL)) ++ List.drop ((k : Int) + 1).toNat (List.take (((N.map pkL).length : Nat) : Int).toNat (N.map pkL)) := by
  rw [show ((k : Int) + 1).toNat = k + 1 by omega, Int.toNat_natCast, Int.toNat_natCast, List.take_length, List.map_append, List.map_take, List.map_drop]
  rfl
set_option maxHeartbeats 16000000 in
theorem typesLeast_call (l : List UInt8) (hl : l.length ≤ maxLen) : FCall Tryz.prog 5 [.sl 1 (l.map u8A)] (.b true) := by
  unfold maxLen at hl
  have hL : (l.take 400).length ≤ 400 := List.length_take_le _ _
  have hnew := new_call l (by omega)
  have hsch := schc_draw (l.take 400) 0 hL
  have hd := schS_drawn (l.take 400) 0
  generalize schS (l.take 400) 0 = s0 at *
  obtain ⟨s, a0⟩ := s0
  dsimp only at hsch hd
  generalize l.take 400 = t at *
  have hex := expr0_draw t s hd hL a0
  have hok := exprD_ok hd t [] (fun nm h => by cases h) a0
  generalize exprD t s [] a0 = X at *
  obtain ⟨e, a1⟩ := X
  dsimp only at hex hok
  have hrg := hok.rig
  have hne := (tNeeds_call s e).congr (congrArg (fun z : List Pk => AV.sl 2 (z.map pkL)) (nee_eq hd hrg))
  have hk0 := (hok.kin [] (fun nm h => by cases h)).1
  have hc0 := fcall_nl ((texpr_call s (nedS s e) [] e).congr (congrArg (fun z : Int × Int => AV.tup [.i z.1, .i z.2]) (exk_need hd [] hrg))) (l' := [sA s, .sl 2 ((nedS s e).map pkL), nilW, xprA e]) ⟨.refl _, .refl _, .nil 26, .refl _, trivial⟩
  have hcu := fun L (h : covB L (nedS s e) = false) => fcall_nl ((texpr_call s L [] e).congr (congrArg (fun z : Int × Int => AV.tup [.i z.1, .i z.2]) (exk_un hd [] hrg h))) (l' := [sA s, .sl 2 (L.map pkL), nilW, xprA e]) ⟨.refl _, .refl _, .nil 26, .refl _, trivial⟩
  have hasc : List.Pairwise (fun p q : Pk => p.col < q.col) (nedS s e) := by rw [nedS_eq]; exact pksR_pair _ _ _
  have hfit := ned_fit hd e hrg
  have hlen : (nedS s e).length ≤ 100000 := by
    have h1 := pksR_length (lvM (allN s e)) s.cols.length 0
    rw [← nedS_eq] at h1
    have := hd.lens; omega
  have hlv := fun q hq => And.intro ((hfit q hq).2.1) (Int.le_trans (hfit q hq).2.2 (hd.fin (hfit q hq).1.1 (hfit q hq).1.2).2.1)
  have hcov := rcovers_call (nedS s e) (nedS s e)
  rw [cov_self] at hcov
  generalize kinS [] e = kd at *
  obtain ⟨kk, ke⟩ := kd
  dsimp only at hk0
  subst hk0
  generalize nedS s e = N at *
  clear hfit hok hd hrg
  refine fcall_intro (n := 92) Tryz.func5 (by kernel_rfl) rfl rfl rfl rfl rfl (by intro t T h; cases h) (fun hrd E h0 => ?_)
  clear hrd
  repeat' ((first | refine ncall_g [] [] hnew rfl rfl rfl rfl rfl trivial rfl rfl rfl rfl rfl ?_ | refine ⟨ncall_h [0] [0] hsch rfl rfl rfl rfl rfl ⟨rfl, trivial⟩ rfl rfl rfl rfl rfl ?_⟩ | refine ⟨ncall_h [0] [0] hex rfl rfl rfl rfl rfl ⟨rfl, trivial⟩ rfl rfl rfl rfl rfl ?_⟩ | refine call_i hne ?_ | refine call_i hc0 ?_ |refine aops_go ?_|refine awp_go ?_|refine guard_tt ?_|refine guard_ff ?_|refine guard_tf ?_|refine guard_ft ?_|refine cond_t ?_|refine cond_f ?_|refine Z1 ?_|refine Z2 ?_|refine stp ?_|(refine And.intro ?_ ?_<;>intro h<;>try first|(exfalso;omega)|exact absurd rfl h)|refine Z3 ?_|refine Z4 ?_|intro el hel hbB|intro el hel|intro ex|refine Z5 ?_|(refine free_i ?_ ?_;exact ⟨by kernel_rfl,by decide⟩)|refine allI_c ?_ ?_|exact allI_n|refine allMP_c ?_ ?_|exact allMP_n|(refine many_step ?_ ?_ ?_;kernel_rfl;kernel_rfl)) <;> (try (conv => whnf)))
  all_goals first
    | exact ret_tmp rfl rfl
    | (exfalso; omega)
    | skip
  clear hnew hsch hex hne hc0
  refine loop_i (ι := Nat) (fun k => ⟨[(4, .iptr (sL s)), (5, .iptr (xprX e)), (6, .sl 2 (N.map pkL)), (35, .i N.length), (36, .i k)], 0, []⟩) (fun k => k ≤ N.length) (fun k => N.length - k) 0 (Nat.zero_le _)
    (le_of h0 rfl ⟨rfl, rfl, rfl, congrArg (fun z : Int => some (AV.i z)) (by simp), rfl, trivial⟩ trivial rfl rfl rfl) (fun k hk => ?_)
  by_cases hkn : k < N.length
  · obtain ⟨p, hp⟩ : ∃ p, N[k]? = some p := ⟨_, List.getElem?_eq_getElem hkn⟩
    obtain ⟨l1, l2⟩ := hlv p (List.mem_of_getElem? hp)
    have q1 := hcu _ (cov_less hasc hp)
    have q2 := hcu _ (cov_rm hasc hp)
    rw [List.map_set] at q1
    rw [rm_raw] at q2
    have him : ∀ (a b : Nat), ∀ el ∈ List.drop a (List.take b (N.map pkL)), ∀ u ∈ el, imOne u := fun a b el hel => ims_map (fun _ => rfl) el (List.mem_of_mem_take (List.mem_of_mem_drop hel))
    have hln : ∀ (a b : Nat), (List.drop a (List.take b (N.map pkL))).length ≤ 100000 := fun a b => by rw [List.length_drop, List.length_take, List.length_map]; omega
    clear hcu hlv hasc hcov
    repeat' ((first | (refine each_knownm (x := p) hp (by omega) ?_) | refine call_i q1 ?_ | refine side_i (him _ _) ?_ | refine side_i (side_app (Nat.zero_le 100000) (hln _ _)) ?_ | refine ncall_frz 0 ?_ |refine aops_go ?_|refine awp_go ?_|refine guard_tt ?_|refine guard_ff ?_|refine guard_tf ?_|refine guard_ft ?_|refine cond_t ?_|refine cond_f ?_|refine Z1 ?_|refine Z2 ?_|refine stp ?_|(refine And.intro ?_ ?_<;>intro h<;>try first|(exfalso;omega)|exact absurd rfl h)|refine Z3 ?_|refine Z4 ?_|intro el hel hbB|intro el hel|intro ex|refine Z5 ?_|(refine free_i ?_ ?_;exact ⟨by kernel_rfl,by decide⟩)|refine allI_c ?_ ?_|exact allI_n|refine allMP_c ?_ ?_|exact allMP_n|(refine many_step ?_ ?_ ?_;kernel_rfl;kernel_rfl)) <;> (try (conv => whnf)))
    clear q1
    repeat' ((first | (refine each_knownm (x := p) hp (by omega) ?_) | refine ncall_lend [0] q2 rfl rfl rfl rfl rfl rfl ?_ | refine side_i (him _ _) ?_ | refine side_i (side_app (Nat.zero_le 100000) (hln _ _)) ?_ | refine side_i (side_app3 (hln _ _) (hln _ _)) ?_ |refine aops_go ?_|refine awp_go ?_|refine guard_tt ?_|refine guard_ff ?_|refine guard_tf ?_|refine guard_ft ?_|refine cond_t ?_|refine cond_f ?_|refine Z1 ?_|refine Z2 ?_|refine stp ?_|(refine And.intro ?_ ?_<;>intro h<;>try first|(exfalso;omega)|exact absurd rfl h)|refine Z3 ?_|refine Z4 ?_|intro el hel hbB|intro el hel|intro ex|refine Z5 ?_|(refine free_i ?_ ?_;exact ⟨by kernel_rfl,by decide⟩)|refine allI_c ?_ ?_|exact allI_n|refine allMP_c ?_ ?_|exact allMP_n|(refine many_step ?_ ?_ ?_;kernel_rfl;kernel_rfl) | (refine draw_id 14 ?_; refine draw_le (id := 14) (σ' := ⟨[(4, .iptr (sL s)), (5, .iptr (xprX e)), (6, .sl 2 (N.map pkL)), (9, .i k), (12, .i 23), (35, .i N.length), (36, .i k)], 0, []⟩) (le_of h0 rfl ⟨rfl, rfl, rfl, rfl, rfl, rfl, rfl, trivial⟩ trivial rfl rfl rfl) ?_; refine draw_m (id := 14) ⟨[(4, .iptr (sL s)), (5, .iptr (xprX e)), (6, .sl 2 (N.map pkL)), (9, .i k), (12, .i 23), (14, .i 23), (35, .i N.length), (36, .i k)], 0, []⟩ ?_ ?_)) <;> (try (conv => whnf)))
    all_goals first
      | exact le_of h0 rfl ⟨rfl, rfl, rfl, rfl, rfl, rfl, rfl, rfl, trivial⟩ trivial rfl rfl rfl
      | (exfalso; omega)
      | skip
    exact ⟨k + 1, by omega, by omega, le_of h0 rfl ⟨rfl, rfl, rfl, rfl, rfl, trivial⟩ trivial rfl rfl rfl⟩
  · repeat' ((first | refine call_i hcov ?_ | refine call_i awake7_call ?_ |refine aops_go ?_|refine awp_go ?_|refine guard_tt ?_|refine guard_ff ?_|refine guard_tf ?_|refine guard_ft ?_|refine cond_t ?_|refine cond_f ?_|refine Z1 ?_|refine Z2 ?_|refine stp ?_|(refine And.intro ?_ ?_<;>intro h<;>try first|(exfalso;omega)|exact absurd rfl h)|refine Z3 ?_|refine Z4 ?_|intro el hel hbB|intro el hel|intro ex|refine Z5 ?_|(refine free_i ?_ ?_;exact ⟨by kernel_rfl,by decide⟩)|refine allI_c ?_ ?_|exact allI_n|refine allMP_c ?_ ?_|exact allMP_n|(refine many_step ?_ ?_ ?_;kernel_rfl;kernel_rfl)) <;> (try (conv => whnf)))
    all_goals first
      | exact ret_tmp rfl rfl
      | (exfalso; omega)
      | trace_state
theorem typesLeast_all (l : List AV) (h : AShapes Tryz.prog Tryz.f5.params.toList l) : FCall Tryz.prog 5 l (.b true) := by
  obtain ⟨a1, r, rfl, h1, rfl⟩ := h
  obtain ⟨l, hl, rfl⟩ := ash_by h1
  exact typesLeast_call l hl
end Go.Proofs.YtleodngfheedbaaGreatDoor

/- ConditionTexts: the text of conditions, and which condition a text is, also with a byte changed. -/
import Derived.Test.YtghlhejdfgkjaaaGreatDoorRp4
import Derived.Test.YtghlhejdfgkjaaaGreatDoorCr2
import Derived.Test.YtghlhejdfgkjaaaGreatDoorSm
import Derived.Test.YtghlhejdfgkjaaaGreatDoorAvX
import Derived.Test.YtghlhejdfgkjaaaGreatDoorSpo
import Derived.Test.YtghlhejdfgkjaaaGreatDoorAw5
import Derived.Test.YtghlhejdfgkjaaaGreatDoorB4
import Derived.Test.YtghlhejdfgkjaaaGreatDoorB12
import Derived.Test.YtghlhejdfgkjaaaGreatDoorCB
namespace Go.Proofs.YtghlhejdfgkjaaaGreatDoor
open Go Go.Av
attribute [local irreducible] AWp AOps AAny MAny DQ retQ retG St.le FCall GCall
set_option linter.unusedVariables false
set_option linter.unnecessarySimpa false
set_option linter.unusedSimpArgs false
set_option maxRecDepth 100000

theorem txt_pos (s : Sch) (c : Cnd) : 1 ≤ (txtS s c).length := by
  rw [txtS_eq]
  (repeat' split) <;> simp only [List.length_append, List.length_cons, List.length_nil] <;> omega
abbrev strL (z : List UInt8) : List AV := [.str z]
abbrev tabT : List UInt8 := [32, 40, 41, 110, 111, 116, 97, 110, 100, 114, 102, 109, 120, 121, 117, 48, 49, 50, 57]
set_option maxHeartbeats 16000000 in
theorem conditionTexts_call (l raw : List UInt8) (at' : Int) (b : UInt8) (hl : l.length ≤ maxLen) (hraw : raw.length ≤ 140737488355328) : FCall Tryz.prog 10 [.sl 1 (l.map u8A), .str raw, .i at', .v (.int .u8 b.toNat)] (.b true) := by
  unfold maxLen at hl
  have hb := b.toNat_lt
  by_cases hr3 : 300 < raw.length
  · refine fcall_intro (n := 129) Tryz.func10 (by kernel_rfl) rfl rfl rfl rfl rfl (by intro t T h; cases h) (fun hrd E h0 => ?_)
    clear hrd
    repeat' ((first | refine call_i awake5_call ?_ |refine aops_go ?_|refine awp_go ?_|refine guard_tt ?_|refine guard_ff ?_|refine guard_tf ?_|refine guard_ft ?_|refine cond_t ?_|refine cond_f ?_|refine Z1 ?_|refine Z2 ?_|refine stp ?_|(refine And.intro ?_ ?_<;>intro h<;>try first|(exfalso;omega)|exact absurd rfl h)|refine Z3 ?_|refine Z4 ?_|intro el hel hbB|intro el hel|intro ex|refine Z5 ?_|(refine free_i ?_ ?_;exact ⟨by kernel_rfl,by decide⟩)|refine allI_c ?_ ?_|exact allI_n|refine allMP_c ?_ ?_|exact allMP_n|(refine many_step ?_ ?_ ?_;kernel_rfl;kernel_rfl)) <;> (try (conv => whnf)))
    all_goals first
      | exact ret_tmp rfl rfl
      | (exfalso; omega)
      | trace_state
  have hL : (l.take 400).length ≤ 400 := List.length_take_le _ _
  have hnew := new_call l (by omega)
  have hsch := schc_draw (l.take 400) 0 hL
  have hd := schS_drawn (l.take 400) 0
  generalize schS (l.take 400) 0 = s0 at *
  obtain ⟨s, a0⟩ := s0
  dsimp only at hsch hd
  generalize l.take 400 = t at *
  have hx := spo_call t a0 s ((b.toNat : Int).tmod 9 - 1) hd hL
  generalize spoC t s ((b.toNat : Int).tmod 9 - 1) a0 = X at *
  obtain ⟨x, a1⟩ := X
  dsimp only at hx
  have hy := cond_draw t s hd hL 3 a1 (by omega)
  have qy := (cond_right hd t 3 a1 (by omega)).1
  generalize condS t s 3 a1 = Y at *
  obtain ⟨y, a2⟩ := Y
  dsimp only at hy qy
  have hr := hd.ok
  have hgl : (txtS s y).length ≤ 4000 := by
    obtain ⟨_, h3, _, h5⟩ := cndE_parts qy
    have := (rtext_call s hr y h5 (by omega)).2
    omega
  have hgp := txt_pos s y
  have e1 := cprint_call s x
  have e2 := rprint_call s x
  have e3 : FCall Tryz.prog 45 [sA s, cndA y] (.tup [.str (txtS s y), .i 0]) := (rprint_call s y).congr (by rw [priS, if_pos qy])
  generalize priS s x = px at *
  obtain ⟨p1, p2⟩ := px
  dsimp only at e1 e2
  have hmo := mod_call at' (txtS s y).length (by omega)
  have hml := mod_lt (k := at') (n := (txtS s y).length) (by omega)
  generalize txtS s y = good at *
  generalize mod' at' good.length = k at *
  have h19 : 0 ≤ (b.toNat : Int).tmod 19 ∧ (b.toNat : Int).tmod 19 < 19 := by
    rw [Int.tmod_eq_emod_of_nonneg (by omega)]; omega
  have h9 : 0 ≤ (b.toNat : Int).tmod 9 ∧ (b.toNat : Int).tmod 9 < 9 := by
    rw [Int.tmod_eq_emod_of_nonneg (by omega)]; omega
  obtain ⟨c, hc⟩ : ∃ c, tabT[((b.toNat : Int).tmod 19).toNat]? = some c := ⟨_, List.getElem?_eq_getElem (by show _ < 19; omega)⟩
  have hp := fun z (hz : List.length z ≤ 140737488355328) => cparse_call s z hz
  have hq := fun z (hz : List.length z ≤ 140737488355328) => rparse_call s z hz
  clear hd hr qy
  obtain ⟨gk, hgk⟩ : ∃ el, good[k.toNat]? = some el := ⟨_, List.getElem?_eq_getElem (by omega)⟩
  have hcl : (good.set k.toNat c).length = good.length := List.length_set
  obtain ⟨M, hMd⟩ : ∃ M, M = [raw, good, good.set k.toNat c, [110, 111, 116, 32] ++ good, [40] ++ good ++ [32, 97, 110, 100, 32] ++ good ++ [41], [40] ++ good ++ [32, 111, 114, 32] ++ raw ++ [41], good ++ [32]] := ⟨_, rfl⟩
  refine fcall_intro (n := 129) Tryz.func10 (by kernel_rfl) rfl rfl rfl rfl rfl (by intro t T h; cases h) (fun hrd E h0 => ?_)
  clear hrd
  repeat' ((first | refine ncall_g [] [] hnew rfl rfl rfl rfl rfl trivial rfl rfl rfl rfl rfl ?_ | refine ⟨ncall_h [0] [0] hsch rfl rfl rfl rfl rfl ⟨rfl, trivial⟩ rfl rfl rfl rfl rfl ?_⟩ | refine ⟨ncall_h [0] [0] hx rfl rfl rfl rfl rfl ⟨rfl, trivial⟩ rfl rfl rfl rfl rfl ?_⟩ | refine ⟨ncall_h [0] [0] hy rfl rfl rfl rfl rfl ⟨rfl, trivial⟩ rfl rfl rfl rfl rfl ?_⟩ | refine call_i e1 ?_ | refine call_i e2 ?_ | refine call_i e3 ?_ | refine call_i hmo ?_ | (refine each_known (x := c) hc (by omega) ?_) | (refine each_knownm (x := gk) hgk (by omega) ?_) | refine own_bytes (l := good) rfl rfl (by omega) ?_ | (refine draw_le (id := 10) (σ' := ⟨[(1, .str raw), (2, .i at'), (3, .v (.int .u8 b.toNat)), (9, .ref 0 0), (10, .iptr (sL s))], 1, [(0, some (.box [.sl 1 (t.map u8A), .i a1]))]⟩) (le_of h0 rfl ⟨rfl, rfl, rfl, rfl, rfl, trivial⟩ ⟨rfl, trivial⟩ rfl rfl rfl) ?_; refine draw_m (id := 10) ⟨[(1, .str raw), (2, .i at'), (3, .v (.int .u8 b.toNat)), (10, .iptr (sL s)), (16, .str good)], 0, []⟩ ?_ ?_) | refine draw_m (id := 12) ⟨[(1, .str raw), (10, .iptr (sL s)), (16, .str good), (18, .sl 1 ((good.set k.toNat c).map u8A))], 0, []⟩ ?_ ?_ | (refine side_i ?_ ?_; (simp only [List.length_append, List.length_cons, List.length_nil]; omega)) |refine aops_go ?_|refine awp_go ?_|refine guard_tt ?_|refine guard_ff ?_|refine guard_tf ?_|refine guard_ft ?_|refine cond_t ?_|refine cond_f ?_|refine Z1 ?_|refine Z2 ?_|refine stp ?_|(refine And.intro ?_ ?_<;>intro h<;>try first|(exfalso;omega)|exact absurd rfl h)|refine Z3 ?_|refine Z4 ?_|intro el hel hbB|intro el hel|intro ex|refine Z5 ?_|(refine free_i ?_ ?_;exact ⟨by kernel_rfl,by decide⟩)|refine allI_c ?_ ?_|exact allI_n|refine allMP_c ?_ ?_|exact allMP_n|(refine many_step ?_ ?_ ?_;kernel_rfl;kernel_rfl)) <;> (try (conv => whnf)))
  all_goals first
    | exact le_of h0 rfl ⟨rfl, rfl, rfl, rfl, rfl, trivial⟩ trivial rfl rfl rfl
    | exact le_of h0 rfl ⟨rfl, rfl, rfl, congrArg (fun z => some (AV.sl 1 z)) (by rw [List.map_set]; rfl), trivial⟩ trivial rfl rfl rfl
    | (exfalso; omega)
    | skip
  have hM : ∀ z ∈ M, z.length ≤ 140737488355328 := by
    rw [hMd]
    intro z hz
    simp only [List.mem_cons, List.not_mem_nil, or_false] at hz
    rcases hz with rfl | rfl | rfl | rfl | rfl | rfl | rfl <;> (try simp only [List.length_append, List.length_cons, List.length_nil]) <;> omega
  have hMl : M.length = 7 := by rw [hMd]; rfl
  clear hnew hsch hx hy e1 e2 e3 hmo
  refine loop_i (ι := Nat) (fun j => ⟨[(10, .iptr (sL s)), (100, .sl 1 (M.map strL)), (101, .i 7), (102, .i j)], 0, []⟩) (fun j => j ≤ 7) (fun j => 7 - j) 0 (Nat.zero_le _)
    (by exact le_of h0 rfl ⟨rfl, congrArg (fun z : List (List UInt8) => some (AV.sl 1 (z.map strL))) hMd.symm, rfl, rfl, trivial⟩ trivial rfl rfl rfl) (fun j hj => ?_)
  clear hMd
  by_cases hj7 : j < 7
  · obtain ⟨z, hz⟩ : ∃ z, M[j]? = some z := ⟨_, List.getElem?_eq_getElem (by omega)⟩
    have hzl := hM z (List.mem_of_getElem? hz)
    have q1 := hp z hzl
    have q2 := hq z hzl
    generalize parS s z = pz at *
    obtain ⟨pc, pe⟩ := pz
    dsimp only at q1 q2
    have q3 := same_self pc
    clear hp hq hM
    repeat' ((first | (refine each_knownm (x := z) hz (by omega) ?_) | refine call_i q1 ?_ | refine call_i q2 ?_ | refine call_i q3 ?_ |refine aops_go ?_|refine awp_go ?_|refine guard_tt ?_|refine guard_ff ?_|refine guard_tf ?_|refine guard_ft ?_|refine cond_t ?_|refine cond_f ?_|refine Z1 ?_|refine Z2 ?_|refine stp ?_|(refine And.intro ?_ ?_<;>intro h<;>try first|(exfalso;omega)|exact absurd rfl h)|refine Z3 ?_|refine Z4 ?_|intro el hel hbB|intro el hel|intro ex|refine Z5 ?_|(refine free_i ?_ ?_;exact ⟨by kernel_rfl,by decide⟩)|refine allI_c ?_ ?_|exact allI_n|refine allMP_c ?_ ?_|exact allMP_n|(refine many_step ?_ ?_ ?_;kernel_rfl;kernel_rfl)) <;> (try (conv => whnf)))
    all_goals first
      | exact ⟨j + 1, by omega, by omega, le_of h0 rfl ⟨rfl, rfl, rfl, rfl, trivial⟩ trivial rfl rfl rfl⟩
      | (exfalso; omega)
      | trace_state
  · repeat' ((first | refine call_i awake5_call ?_ |refine aops_go ?_|refine awp_go ?_|refine guard_tt ?_|refine guard_ff ?_|refine guard_tf ?_|refine guard_ft ?_|refine cond_t ?_|refine cond_f ?_|refine Z1 ?_|refine Z2 ?_|refine stp ?_|(refine And.intro ?_ ?_<;>intro h<;>try first|(exfalso;omega)|exact absurd rfl h)|refine Z3 ?_|refine Z4 ?_|intro el hel hbB|intro el hel|intro ex|refine Z5 ?_|(refine free_i ?_ ?_;exact ⟨by kernel_rfl,by decide⟩)|refine allI_c ?_ ?_|exact allI_n|refine allMP_c ?_ ?_|exact allMP_n|(refine many_step ?_ ?_ ?_;kernel_rfl;kernel_rfl)) <;> (try (conv => whnf)))
    all_goals first
      | exact ret_tmp rfl rfl
      | (exfalso; omega)
      | trace_state
theorem conditionTexts_all (l : List AV) (h : AShapes Tryz.prog Tryz.f10.params.toList l) (hb : StrB Tryz.prog Tryz.f10.params.toList l) : FCall Tryz.prog 10 l (.b true) := by
  obtain ⟨a1, r1, rfl, h1, a2, r2, rfl, h2, a3, r3, rfl, h3, a4, r4, rfl, h4, rfl⟩ := h
  obtain ⟨l, hl, rfl⟩ := ash_by h1
  obtain ⟨s, _, rfl⟩ := ash_s h2
  obtain ⟨n, _, rfl⟩ := ash_i h3
  obtain ⟨m, hm, rfl⟩ := ash_u8 Tryz.underlying5 h4
  have e : m = (UInt8.ofNat m).toNat := by simp; omega
  rw [e]
  exact conditionTexts_call l s n (UInt8.ofNat m) hl (hb 1 9 s rfl Tryz.underlying9 rfl)
end Go.Proofs.YtghlhejdfgkjaaaGreatDoor

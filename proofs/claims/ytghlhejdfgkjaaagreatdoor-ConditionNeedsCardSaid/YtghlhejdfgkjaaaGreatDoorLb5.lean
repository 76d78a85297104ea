/- ConditionNeeds: what a condition needs, and its value from coarse values. -/
import Derived.Test.YtghlhejdfgkjaaaGreatDoorCD
import Derived.Test.YtghlhejdfgkjaaaGreatDoorCr1
import Derived.Test.YtghlhejdfgkjaaaGreatDoorAw5
import Derived.Test.YtghlhejdfgkjaaaGreatDoorC5
import Derived.Test.YtghlhejdfgkjaaaGreatDoorB12
import Derived.Test.YtghlhejdfgkjaaaGreatDoorCB
import Derived.Test.YtghlhejdfgkjaaaGreatDoorCC
import Derived.Test.YtghlhejdfgkjaaaGreatDoorSpo
namespace Go.Proofs.YtghlhejdfgkjaaaGreatDoor
open Go Go.Av
attribute [local irreducible] AWp AOps AAny MAny DQ retQ retG St.le FCall GCall
set_option linter.unusedVariables false
set_option linter.unnecessarySimpa false
set_option linter.unusedSimpArgs false
set_option maxRecDepth 100000

set_option maxHeartbeats 4000000 in
theorem lcoarseG_call (s : Sch) (l : List Pk) (row : List Int) (hl : l.length ≤ 100000) (hrl : row.length ≤ 9223372036854775807) : GCall Tryz.prog 31 0 [] [sA s, .sl 2 (l.map pkL), .sl 1 (row.map wA)] 2 [(1, some (.row 3 1 0 ((l.map (coaT s row)).map wA)))] (.row 1 0 (l.map (coaT s row)).length) := by
  have hco := fun p v => rcoarse_call s (Pk.col p) (Pk.lev p) v
  refine gcall_intro (n := 44) Tryz.func31 (by kernel_rfl) rfl rfl rfl rfl (fun E h0 => ?_)
  repeat' ((first|refine aops_go ?_|refine awp_go ?_|refine guard_tt ?_|refine guard_ff ?_|refine guard_tf ?_|refine guard_ft ?_|refine cond_t ?_|refine cond_f ?_|refine Z1 ?_|refine Z2 ?_|refine stp ?_|(refine And.intro ?_ ?_<;>intro h<;>try first|(exfalso;omega)|exact absurd rfl h)|refine Z3 ?_|refine Z4 ?_|intro el hel hbB|intro el hel|intro ex|refine Z5 ?_|(refine free_i ?_ ?_;exact ⟨by kernel_rfl,by decide⟩)|refine allI_c ?_ ?_|exact allI_n|refine allMP_c ?_ ?_|exact allMP_n|(refine many_step ?_ ?_ ?_;kernel_rfl;kernel_rfl)) <;> (try (conv => whnf)))
  refine loop_i (ι := Nat) (fun k => ⟨[(2, .sl 1 (row.map wA)), (3, .ref 0 0), (7, .row 1 0 ((l.take k).map (coaT s row)).length), (11, .sl 2 (l.map pkL)), (12, .i l.length), (13, .i k)], 2, [(0, some (.box (sL s))), (1, some (.row 3 1 0 (((l.take k).map (coaT s row)).map wA)))]⟩) (fun k => k ≤ l.length) (fun k => l.length - k) 0 (Nat.zero_le _)
    (le_trans (le_adopt (d := 7) (e := 3) (sz := 1) rfl) (le_of h0 rfl ⟨rfl, rfl, rfl, rfl, rfl, rfl, trivial⟩ ⟨rfl, ⟨0, rfl⟩, trivial⟩ rfl rfl rfl)) (fun k hk => ?_)
  have hlt : (l.take k).length ≤ 100000 := by rw [List.length_take]; omega
  by_cases hkl : k < l.length
  · obtain ⟨p, hp⟩ : ∃ p, l[k]? = some p := ⟨_, List.getElem?_eq_getElem hkl⟩
    have hnx : ∀ v, coaT s row p = coaS s p.col p.lev v → (l.take (k + 1)).map (coaT s row) = (l.take k).map (coaT s row) ++ [coaS s p.col p.lev v] := fun v e => by
      rw [takec hp, List.map_append]; simp [e]
    have hcp := hco p
    repeat' ((first | (refine each_knownm (x := p) hp (by omega) ?_) | refine call_i (hcp _) ?_ |refine aops_go ?_|refine awp_go ?_|refine guard_tt ?_|refine guard_ff ?_|refine guard_tf ?_|refine guard_ft ?_|refine cond_t ?_|refine cond_f ?_|refine Z1 ?_|refine Z2 ?_|refine stp ?_|(refine And.intro ?_ ?_<;>intro h<;>try first|(exfalso;omega)|exact absurd rfl h)|refine Z3 ?_|refine Z4 ?_|intro el hel hbB|intro el hel|intro ex|refine Z5 ?_|(refine free_i ?_ ?_;exact ⟨by kernel_rfl,by decide⟩)|refine allI_c ?_ ?_|exact allI_n|refine allMP_c ?_ ?_|exact allMP_n|(refine many_step ?_ ?_ ?_;kernel_rfl;kernel_rfl)) <;> (try (conv => whnf)))
    all_goals first
      | (have hy := hnx el (by rw [coaT, if_pos ⟨by omega, by omega⟩, List.getD_eq_getElem?_getD, hel]; rfl)
         exact ⟨k + 1, by omega, by omega, le_of h0 rfl ⟨rfl, rfl, congrArg (fun z : Nat => some (AV.row 1 0 z)) (by rw [hy, List.length_append]; rfl), rfl, rfl, rfl, trivial⟩ ⟨rfl, ⟨_, congrArg (Blk.row 3 1 _) (by rw [hy, List.map_append]; rfl)⟩, trivial⟩ rfl rfl rfl⟩)
      | (have hy := hnx 0 (by rw [coaT, if_neg (by omega)])
         exact ⟨k + 1, by omega, by omega, le_of h0 rfl ⟨rfl, rfl, congrArg (fun z : Nat => some (AV.row 1 0 z)) (by rw [hy, List.length_append]; rfl), rfl, rfl, rfl, trivial⟩ ⟨rfl, ⟨_, congrArg (Blk.row 3 1 _) (by rw [hy, List.map_append]; rfl)⟩, trivial⟩ rfl rfl rfl⟩)
      | (exfalso; omega)
      | trace_state
  · obtain rfl : k = l.length := by omega
    rw [List.take_length]
    repeat' ((first|refine aops_go ?_|refine awp_go ?_|refine guard_tt ?_|refine guard_ff ?_|refine guard_tf ?_|refine guard_ft ?_|refine cond_t ?_|refine cond_f ?_|refine Z1 ?_|refine Z2 ?_|refine stp ?_|(refine And.intro ?_ ?_<;>intro h<;>try first|(exfalso;omega)|exact absurd rfl h)|refine Z3 ?_|refine Z4 ?_|intro el hel hbB|intro el hel|intro ex|refine Z5 ?_|(refine free_i ?_ ?_;exact ⟨by kernel_rfl,by decide⟩)|refine allI_c ?_ ?_|exact allI_n|refine allMP_c ?_ ?_|exact allMP_n|(refine many_step ?_ ?_ ?_;kernel_rfl;kernel_rfl)) <;> (try (conv => whnf)))
    all_goals first
      | (exfalso; omega)
      | exact retg_tmp (le_of h0 rfl ⟨rfl, trivial⟩ ⟨⟨_, rfl⟩, trivial⟩ rfl rfl rfl)
      | trace_state
abbrev pksA (p : List Pk) : List AV := [.sl 2 (p.map pkL)]
theorem pkFrom_len (l : List UInt8) (s : Sch) : ∀ (n k : Nat) (x : List Pk × Nat), (pkFrom l s k x n).1.length ≤ x.1.length + n
  | 0, k, x => Nat.le_refl _
  | n + 1, k, x => by
    unfold pkFrom
    split
    · refine Nat.le_trans (pkFrom_len l s n _ _) ?_
      dsimp only
      rw [List.length_append, List.length_singleton]; omega
    · refine Nat.le_trans (pkFrom_len l s n _ _) ?_
      dsimp only
      omega
set_option maxHeartbeats 16000000 in
theorem conditionNeeds_call (l : List UInt8) (raw : List Pk) (values : List Int) (by' : Int) (hl : l.length ≤ maxLen) : FCall Tryz.prog 4 [.sl 1 (l.map u8A), .sl 2 (raw.map pkL), .sl 1 (values.map wA), .i by'] (.b true) := by
  unfold maxLen at hl
  have hL : (l.take 400).length ≤ 400 := List.length_take_le _ _
  have hnew := new_call l (by omega)
  have hsch := schc_draw (l.take 400) 0 hL
  have hd := schS_drawn (l.take 400) 0
  generalize schS (l.take 400) 0 = s0 at *
  obtain ⟨s, a0⟩ := s0
  dsimp only at hsch hd
  generalize l.take 400 = t at *
  have hx := spo_call t a0 s by' hd hL
  generalize spoC t s by' a0 = X at *
  obtain ⟨x, a1⟩ := X
  dsimp only at hx
  have hy := cond_draw t s hd hL 3 a1 (by omega)
  generalize condS t s 3 a1 = Y at *
  obtain ⟨y, a2⟩ := Y
  dsimp only at hy
  have hrow := rowc_draw t a2 s hd hL
  have hrok := (rowS_ok hd t a2).1
  generalize rowS t a2 s = R at *
  obtain ⟨row, a3⟩ := R
  dsimp only at hrow hrok
  have hpk := picksc_draw t a3 s hd hL
  have hpl := pkFrom_len t s (s.cols.length - 1) 1 ([], a3)
  rw [show pkFrom t s 1 ([], a3) (s.cols.length - 1) = picksS t a3 s from rfl] at hpl
  generalize picksS t a3 s = K at *
  obtain ⟨pk, a4⟩ := K
  dsimp only at hpk hpl
  have hcl := (schE_parts hd.ok).2.1
  have hNl : (needS s y).length ≤ 60 := by
    have h1 := need_length s y
    omega
  have n1 := cneeds_call s x
  have n2 := rneeds_call s x
  have n3 := cneeds_call s y
  have n4 := rneeds_call s y
  have m1 : FCall Tryz.prog 27 [.sl 2 ((needS s x).map pkL), .sl 2 ((needS s x).map pkL)] (.b true) := (samePicks_call _ _).congr (congrArg AV.b (decide_eq_true rfl))
  have m2 : FCall Tryz.prog 27 [.sl 2 ((needS s y).map pkL), .sl 2 ((needS s y).map pkL)] (.b true) := (samePicks_call _ _).congr (congrArg AV.b (decide_eq_true rfl))
  have c1 : ∀ c p v, FCall Tryz.prog 34 [sA s, cndA c, .sl 2 (p.map pkL), .sl 1 (v.map wA)] (.i (coarS s c p v)) := fun c p v => (ccoarse_call s c p v).congr (by rw [coar_eq hd])
  have c2 := fun c p v => rCoar_call s c p v
  have hlc := fun p (hp : List.length p ≤ 100000) => lcoarseG_call s p row hp (by omega)
  have hone := fun a => one_call t a 4 hL (by omega)
  have hnxt := fun a n => next_call t a n hL
  have hlt := fun a (n : Int) (h : 1 ≤ n) => nxt_lt t a h
  generalize needS s x = Nx at *
  generalize needS s y = Ny at *
  obtain ⟨M, hMd⟩ : ∃ M, M = [Ny, pk, raw] := ⟨_, rfl⟩
  refine fcall_intro (n := 115) Tryz.func4 (by kernel_rfl) rfl rfl rfl rfl rfl (by intro t T h; cases h) (fun hrd E h0 => ?_)
  clear hrd
  repeat' ((first | refine call_i awake5_call ?_ | refine ncall_g [] [] hnew rfl rfl rfl rfl rfl trivial rfl rfl rfl rfl rfl ?_ | refine ⟨ncall_h [0] [0] hsch rfl rfl rfl rfl rfl ⟨rfl, trivial⟩ rfl rfl rfl rfl rfl ?_⟩ | refine ⟨ncall_h [0] [0] hx rfl rfl rfl rfl rfl ⟨rfl, trivial⟩ rfl rfl rfl rfl rfl ?_⟩ | refine ⟨ncall_h [0] [0] hy rfl rfl rfl rfl rfl ⟨rfl, trivial⟩ rfl rfl rfl rfl rfl ?_⟩ | refine ⟨ncall_h [0] [0] hrow rfl rfl rfl rfl rfl ⟨rfl, trivial⟩ rfl rfl rfl rfl rfl ?_⟩ | refine call_i n1 ?_ | refine call_i n2 ?_ | refine call_i n3 ?_ | refine call_i n4 ?_ | refine call_i m1 ?_ | refine call_i m2 ?_ | (refine draw_le (id := 10) (σ' := ⟨[(1, .sl 2 (raw.map pkL)), (2, .sl 1 (values.map wA)), (3, .i by'), (9, .ref 0 0), (10, .iptr (sL s)), (11, .iptr (cndX x)), (12, .iptr (cndX y)), (13, .sl 1 (row.map wA))], 1, [(0, some (.box [.sl 1 (t.map u8A), .i a3]))]⟩) (le_of h0 rfl ⟨rfl, rfl, rfl, rfl, rfl, rfl, rfl, rfl, trivial⟩ ⟨rfl, trivial⟩ rfl rfl rfl) ?_; refine draw_m (id := 10) ⟨[(2, .sl 1 (values.map wA)), (3, .i by'), (9, .ref 0 0), (10, .iptr (sL s)), (11, .iptr (cndX x)), (12, .iptr (cndX y)), (13, .sl 1 (row.map wA)), (65, .sl 1 (M.map pksA)), (66, .i 3), (67, .i 0)], 1, [(0, some (.box [.sl 1 (t.map u8A), .i a4]))]⟩ ?_ ?_) | refine ⟨ncall_h [0] [0] hpk rfl rfl rfl rfl rfl ⟨rfl, trivial⟩ rfl rfl rfl rfl rfl ?_⟩ |refine aops_go ?_|refine awp_go ?_|refine guard_tt ?_|refine guard_ff ?_|refine guard_tf ?_|refine guard_ft ?_|refine cond_t ?_|refine cond_f ?_|refine Z1 ?_|refine Z2 ?_|refine stp ?_|(refine And.intro ?_ ?_<;>intro h<;>try first|(exfalso;omega)|exact absurd rfl h)|refine Z3 ?_|refine Z4 ?_|intro el hel hbB|intro el hel|intro ex|refine Z5 ?_|(refine free_i ?_ ?_;exact ⟨by kernel_rfl,by decide⟩)|refine allI_c ?_ ?_|exact allI_n|refine allMP_c ?_ ?_|exact allMP_n|(refine many_step ?_ ?_ ?_;kernel_rfl;kernel_rfl)) <;> (try (conv => whnf)))
  all_goals first
    | exact ret_tmp rfl rfl
    | exact le_of h0 rfl ⟨rfl, rfl, rfl, rfl, rfl, rfl, rfl, congrArg (fun z : List (List Pk) => some (AV.sl 1 (z.map pksA))) hMd.symm, rfl, rfl, trivial⟩ ⟨rfl, trivial⟩ rfl rfl rfl
    | skip
  have hM : ∀ p ∈ M, p.length ≤ 100000 := by
    rw [hMd]
    intro p hp
    simp only [List.mem_cons, List.not_mem_nil, or_false] at hp
    rcases hp with rfl | rfl | rfl
    · omega
    · simp only [List.length_nil] at hpl; omega
    · omega
  have hMl : M.length = 3 := by rw [hMd]; rfl
  clear n1 n2 n3 n4 m1 m2 hnew hsch hx hy hrow hpk hMd hpl hNl
  refine loop_i (ι := Nat × Nat) (fun z => ⟨[(2, .sl 1 (values.map wA)), (3, .i by'), (9, .ref 0 0), (10, .iptr (sL s)), (11, .iptr (cndX x)), (12, .iptr (cndX y)), (13, .sl 1 (row.map wA)), (65, .sl 1 (M.map pksA)), (66, .i 3), (67, .i z.1)], 1, [(0, some (.box [.sl 1 (t.map u8A), .i z.2]))]⟩) (fun z => z.1 ≤ 3) (fun z => 3 - z.1) (0, a4) (Nat.zero_le _)
    (le_of h0 rfl ⟨rfl, rfl, rfl, rfl, rfl, rfl, rfl, rfl, rfl, rfl, trivial⟩ ⟨rfl, trivial⟩ rfl rfl rfl) (fun z hk => ?_)
  obtain ⟨k, a⟩ := z
  dsimp only at hk ⊢
  by_cases hk3 : k < 3
  case neg =>
    repeat' ((first | refine call_i awake5_call ?_ |refine aops_go ?_|refine awp_go ?_|refine guard_tt ?_|refine guard_ff ?_|refine guard_tf ?_|refine guard_ft ?_|refine cond_t ?_|refine cond_f ?_|refine Z1 ?_|refine Z2 ?_|refine stp ?_|(refine And.intro ?_ ?_<;>intro h<;>try first|(exfalso;omega)|exact absurd rfl h)|refine Z3 ?_|refine Z4 ?_|intro el hel hbB|intro el hel|intro ex|refine Z5 ?_|(refine free_i ?_ ?_;exact ⟨by kernel_rfl,by decide⟩)|refine allI_c ?_ ?_|exact allI_n|refine allMP_c ?_ ?_|exact allMP_n|(refine many_step ?_ ?_ ?_;kernel_rfl;kernel_rfl)) <;> (try (conv => whnf)))
    all_goals first
      | exact ret_tmp rfl rfl
      | (exfalso; omega)
      | trace_state
  obtain ⟨p, hp⟩ : ∃ p, M[k]? = some p := ⟨_, List.getElem?_eq_getElem (by omega)⟩
  have hc := hlc p (hM p (List.mem_of_getElem? hp))
  have hpl := hM p (List.mem_of_getElem? hp)
  have hVl : (p.map (coaT s row)).length = p.length := List.length_map _
  have o1 := hone a
  have o3 := hlt a 4 (by omega)
  generalize nxt t a 4 = q at *
  obtain ⟨q1, q2⟩ := q
  dsimp only at o1 o3
  generalize p.map (coaT s row) = V at *
  have o2 := hnxt q2 V.length
  have o4 := hlt q2 V.length
  generalize nxt t q2 V.length = r at *
  obtain ⟨r1, r2⟩ := r
  dsimp only at o2 o4
  repeat' ((first | (refine each_knownm (x := p) hp (by omega) ?_) | refine ncall_g [] [] hc rfl rfl rfl rfl rfl trivial rfl rfl rfl rfl rfl ?_ | refine ⟨ncall_h [0] [0] o1 rfl rfl rfl rfl rfl ⟨rfl, trivial⟩ rfl rfl rfl rfl rfl ?_⟩ | refine ⟨ncall_h [0] [0] o2 rfl rfl rfl rfl rfl ⟨rfl, trivial⟩ rfl rfl rfl rfl rfl ?_⟩ | (refine draw_le (id := 16) (σ' := ⟨[(2, .sl 1 (values.map wA)), (3, .i by'), (9, .ref 0 0), (10, .iptr (sL s)), (11, .iptr (cndX x)), (12, .iptr (cndX y)), (13, .sl 1 (row.map wA)), (15, .sl 2 (p.map pkL)), (16, .sl 1 (V.map wA)), (65, .sl 1 (M.map pksA)), (66, .i 3), (67, .i k)], 1, [(0, some (.box [.sl 1 (t.map u8A), .i a]))]⟩) (le_of h0 rfl ⟨rfl, rfl, rfl, rfl, rfl, rfl, rfl, rfl, rfl, rfl, rfl, rfl, trivial⟩ ⟨rfl, trivial⟩ rfl rfl rfl) ?_; refine draw_p ?_ ?_ ?_; rfl; kernel_rfl) | (refine draw_le (id := 16) (σ' := ⟨[(2, .sl 1 (values.map wA)), (3, .i by'), (9, .ref 0 0), (10, .iptr (sL s)), (11, .iptr (cndX x)), (12, .iptr (cndX y)), (13, .sl 1 (row.map wA)), (15, .sl 2 (p.map pkL)), (16, .sl 1 (V.map wA)), (65, .sl 1 (M.map pksA)), (66, .i 3), (67, .i k)], 1, [(0, some (.box [.sl 1 (t.map u8A), .i q2]))]⟩) (le_of h0 rfl ⟨rfl, rfl, rfl, rfl, rfl, rfl, rfl, rfl, rfl, rfl, rfl, rfl, trivial⟩ ⟨rfl, trivial⟩ rfl rfl rfl) ?_; refine draw_p ?_ ?_ ?_; rfl; kernel_rfl) | (refine draw_le (id := 16) (σ' := ⟨[(2, .sl 1 (values.map wA)), (3, .i by'), (9, .ref 0 0), (10, .iptr (sL s)), (11, .iptr (cndX x)), (12, .iptr (cndX y)), (13, .sl 1 (row.map wA)), (15, .sl 2 (p.map pkL)), (16, .sl 1 ((V.set r1 by').map wA)), (65, .sl 1 (M.map pksA)), (66, .i 3), (67, .i k)], 1, [(0, some (.box [.sl 1 (t.map u8A), .i r2]))]⟩) (le_of h0 rfl ⟨rfl, rfl, rfl, rfl, rfl, rfl, rfl, rfl, congrArg (fun z => some (AV.sl 1 z)) List.map_set.symm, rfl, rfl, rfl, trivial⟩ ⟨rfl, trivial⟩ rfl rfl rfl) ?_; refine draw_p ?_ ?_ ?_; rfl; kernel_rfl) | refine call_i (c1 _ _ _) ?_ | refine call_i (c2 _ _ _) ?_ |refine aops_go ?_|refine awp_go ?_|refine guard_tt ?_|refine guard_ff ?_|refine guard_tf ?_|refine guard_ft ?_|refine cond_t ?_|refine cond_f ?_|refine Z1 ?_|refine Z2 ?_|refine stp ?_|(refine And.intro ?_ ?_<;>intro h<;>try first|(exfalso;omega)|exact absurd rfl h)|refine Z3 ?_|refine Z4 ?_|intro el hel hbB|intro el hel|intro ex|refine Z5 ?_|(refine free_i ?_ ?_;exact ⟨by kernel_rfl,by decide⟩)|refine allI_c ?_ ?_|exact allI_n|refine allMP_c ?_ ?_|exact allMP_n|(refine many_step ?_ ?_ ?_;kernel_rfl;kernel_rfl)) <;> (try (conv => whnf)))
  all_goals first
    | exact ⟨(k + 1, a), by dsimp only; omega, by dsimp only; omega, le_of h0 rfl ⟨rfl, rfl, rfl, rfl, rfl, rfl, rfl, rfl, rfl, rfl, trivial⟩ ⟨rfl, trivial⟩ rfl rfl rfl⟩
    | exact ⟨(k + 1, q2), by dsimp only; omega, by dsimp only; omega, le_of h0 rfl ⟨rfl, rfl, rfl, rfl, rfl, rfl, rfl, rfl, rfl, rfl, trivial⟩ ⟨rfl, trivial⟩ rfl rfl rfl⟩
    | exact ⟨(k + 1, r2), by dsimp only; omega, by dsimp only; omega, le_of h0 rfl ⟨rfl, rfl, rfl, rfl, rfl, rfl, rfl, rfl, rfl, rfl, trivial⟩ ⟨rfl, trivial⟩ rfl rfl rfl⟩
    | trace_state
theorem conditionNeeds_all (l : List AV) (h : AShapes Tryz.prog Tryz.f4.params.toList l) : FCall Tryz.prog 4 l (.b true) := by
  obtain ⟨a1, r1, rfl, h1, a2, r2, rfl, h2, a3, r3, rfl, h3, a4, r4, rfl, h4, rfl⟩ := h
  obtain ⟨l, hl, rfl⟩ := ash_by h1
  obtain ⟨ps, rfl⟩ := ash_picks h2
  obtain ⟨ws, _, rfl⟩ := ash_ints h3
  obtain ⟨n, _, rfl⟩ := ash_i h4
  exact conditionNeeds_call l ps ws n hl
end Go.Proofs.YtghlhejdfgkjaaaGreatDoor

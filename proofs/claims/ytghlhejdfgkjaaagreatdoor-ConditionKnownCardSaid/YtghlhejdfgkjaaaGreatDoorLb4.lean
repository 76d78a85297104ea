/- ConditionKnown: with what it needs, or with finer values, the value of a condition is that for the row itself. -/
import Derived.Test.YtghlhejdfgkjaaaGreatDoorCD
import Derived.Test.YtghlhejdfgkjaaaGreatDoorAw5
import Derived.Test.YtghlhejdfgkjaaaGreatDoorB4
import Derived.Test.YtghlhejdfgkjaaaGreatDoorB12
import Derived.Test.YtghlhejdfgkjaaaGreatDoorB14
import Derived.Test.YtghlhejdfgkjaaaGreatDoorCB
namespace Go.Proofs.YtghlhejdfgkjaaaGreatDoor
open Go Go.Av
attribute [local irreducible] AWp AOps AAny MAny DQ retQ retG St.le FCall GCall
set_option linter.unusedVariables false
set_option linter.unnecessarySimpa false
set_option linter.unusedSimpArgs false
set_option maxRecDepth 100000

set_option maxHeartbeats 16000000 in
theorem conditionKnown_call (l : List UInt8) (hl : l.length ≤ maxLen) : FCall Tryz.prog 6 [.sl 1 (l.map u8A)] (.b true) := by
  unfold maxLen at hl
  have hL : (l.take 400).length ≤ 400 := List.length_take_le _ _
  have hnew := new_call l (by omega)
  have hsch := schc_draw (l.take 400) 0 hL
  have hd := schS_drawn (l.take 400) 0
  generalize schS (l.take 400) 0 = s0 at *
  obtain ⟨s, a0⟩ := s0
  dsimp only at hsch hd
  generalize l.take 400 = t at *
  have hx := cond_draw t s hd hL 3 a0 (by omega)
  have qx := (cond_right hd t 3 a0 (by omega)).1
  generalize condS t s 3 a0 = A at *
  obtain ⟨x, a1⟩ := A
  dsimp only at hx qx
  have hrow := rowc_draw t a1 s hd hL
  have hrok := rowS_ok hd t a1
  generalize rowS t a1 s = R at *
  obtain ⟨row, a2⟩ := R
  dsimp only at hrow hrok
  have hfk := fun F hF => finer_known hd qx hrok (F := F) hF
  have hev := eval_call s x row
  generalize evaS s x row = w at *
  have hne := cneeds_call s x
  have hN0 := Finer.refl' (s := s) (c := x) hd.ok
  have hNl : (needS s x).length ≤ 60 := by
    have h1 := need_length s x
    have h2 := (schE_parts hd.ok).2.1
    omega
  have hNr := need_right (s := s) (c := x) hd.ok
  generalize needS s x = N at *
  have hco : ∀ F, Finer s N F → FCall Tryz.prog 34 [sA s, cndA x, .sl 2 (F.map pkL), .sl 1 ((F.map (coaT s row)).map wA)] (.i w) := fun F hF => (ccoarse_call s x F _).congr (congrArg AV.i (hfk F hF))
  have hlc := fun F (hF : Finer s N F) => lcoarse_call s F row (by have := hF.len; omega)
  have hfb : ∀ col : Int, 1 ≤ col → col < s.cols.length → finestS s col ≤ 4 := fun col h1 h2 => by
    obtain ⟨n, hn, h4, _⟩ := hd.chain (i := col.toNat) (by omega) (List.getElem?_eq_getElem (by omega))
    rw [show ((col.toNat : Nat) : Int) = col by omega] at hn
    omega
  refine fcall_intro (n := 85) Tryz.func6 (by kernel_rfl) rfl rfl rfl rfl rfl (by intro t T h; cases h) (fun hrd E h0 => ?_)
  clear hrd
  repeat' ((first | refine ncall_g [] [] hnew rfl rfl rfl rfl rfl trivial rfl rfl rfl rfl rfl ?_ | refine ⟨ncall_h [0] [0] hsch rfl rfl rfl rfl rfl ⟨rfl, trivial⟩ rfl rfl rfl rfl rfl ?_⟩ |refine aops_go ?_|refine awp_go ?_|refine guard_tt ?_|refine guard_ff ?_|refine guard_tf ?_|refine guard_ft ?_|refine cond_t ?_|refine cond_f ?_|refine Z1 ?_|refine Z2 ?_|refine stp ?_|(refine And.intro ?_ ?_<;>intro h<;>try first|(exfalso;omega)|exact absurd rfl h)|refine Z3 ?_|refine Z4 ?_|intro el hel hbB|intro el hel|intro ex|refine Z5 ?_|(refine free_i ?_ ?_;exact ⟨by kernel_rfl,by decide⟩)|refine allI_c ?_ ?_|exact allI_n|refine allMP_c ?_ ?_|exact allMP_n|(refine many_step ?_ ?_ ?_;kernel_rfl;kernel_rfl)) <;> (try (conv => whnf)))
  refine draw_le (σ' := ⟨[(3, .ref 0 0), (4, .iptr (sL s))], 1, [(0, some (.box [.sl 1 (t.map u8A), .i a0]))]⟩) (le_of h0 rfl ⟨rfl, rfl, trivial⟩ ⟨rfl, trivial⟩ rfl rfl rfl) ?_
  refine draw_m (id := 3) ⟨[(3, .ref 0 0), (4, .iptr (sL s)), (5, .iptr (cndX x)), (6, .sl 1 (row.map wA))], 1, [(0, some (.box [.sl 1 (t.map u8A), .i a2]))]⟩ ?_ ?_
  · clear hco hlc hne hev hfk
    repeat' ((first | refine ⟨ncall_h [0] [0] hx rfl rfl rfl rfl rfl ⟨rfl, trivial⟩ rfl rfl rfl rfl rfl ?_⟩ | refine ⟨ncall_h [0] [0] hrow rfl rfl rfl rfl rfl ⟨rfl, trivial⟩ rfl rfl rfl rfl rfl ?_⟩ |refine aops_go ?_|refine awp_go ?_|refine guard_tt ?_|refine guard_ff ?_|refine guard_tf ?_|refine guard_ft ?_|refine cond_t ?_|refine cond_f ?_|refine Z1 ?_|refine Z2 ?_|refine stp ?_|(refine And.intro ?_ ?_<;>intro h<;>try first|(exfalso;omega)|exact absurd rfl h)|refine Z3 ?_|refine Z4 ?_|intro el hel hbB|intro el hel|intro ex|refine Z5 ?_|(refine free_i ?_ ?_;exact ⟨by kernel_rfl,by decide⟩)|refine allI_c ?_ ?_|exact allI_n|refine allMP_c ?_ ?_|exact allMP_n|(refine many_step ?_ ?_ ?_;kernel_rfl;kernel_rfl)) <;> (try (conv => whnf)))
    all_goals first
      | exact le_of h0 rfl ⟨rfl, rfl, rfl, rfl, trivial⟩ ⟨rfl, trivial⟩ rfl rfl rfl
      | trace_state
  clear hnew hsch hx hrow
  repeat' ((first | refine call_i hne ?_ |refine aops_go ?_|refine awp_go ?_|refine guard_tt ?_|refine guard_ff ?_|refine guard_tf ?_|refine guard_ft ?_|refine cond_t ?_|refine cond_f ?_|refine Z1 ?_|refine Z2 ?_|refine stp ?_|(refine And.intro ?_ ?_<;>intro h<;>try first|(exfalso;omega)|exact absurd rfl h)|refine Z3 ?_|refine Z4 ?_|intro el hel hbB|intro el hel|intro ex|refine Z5 ?_|(refine free_i ?_ ?_;exact ⟨by kernel_rfl,by decide⟩)|refine allI_c ?_ ?_|exact allI_n|refine allMP_c ?_ ?_|exact allMP_n|(refine many_step ?_ ?_ ?_;kernel_rfl;kernel_rfl)) <;> (try (conv => whnf)))
  refine loop_i (ι := Nat × Nat × List Pk) (fun z => ⟨[(3, .ref 0 0), (4, .iptr (sL s)), (5, .iptr (cndX x)), (6, .sl 1 (row.map wA)), (7, .sl 2 (N.map pkL)), (8, .row 1 0 z.2.2.length), (27, .i N.length), (28, .i z.1)], 2, [(0, some (.box [.sl 1 (t.map u8A), .i z.2.1])), (1, some (.row pkT 2 0 (z.2.2.map pkL)))]⟩) (fun z => z.1 ≤ N.length ∧ Finer s N z.2.2) (fun z => N.length - z.1) (0, a2, N) ⟨Nat.zero_le _, hN0⟩
    (le_of h0 rfl ⟨rfl, rfl, rfl, rfl, rfl, congrArg (fun z : Nat => some (AV.row 1 0 z)) (by simp), congrArg (fun z : Int => some (AV.i z)) (by simp), rfl, trivial⟩ ⟨rfl, ⟨_, congrArg (Blk.row pkT 2 _) (by simp)⟩, trivial⟩ rfl rfl rfl) (fun z hI => ?_)
  obtain ⟨k, a, F⟩ := z
  obtain ⟨hk, hF⟩ := hI
  dsimp only at hk hF ⊢
  have hFl := hF.len
  by_cases hkn : k < N.length
  · obtain ⟨n, hn⟩ : ∃ n, N[k]? = some n := ⟨_, List.getElem?_eq_getElem hkn⟩
    obtain ⟨p, hp⟩ : ∃ p, F[k]? = some p := ⟨_, List.getElem?_eq_getElem (by omega)⟩
    obtain ⟨e1, e2, e3⟩ := hF.at' k n p hn hp
    obtain ⟨n1, n2, n3, _⟩ := hNr n (List.mem_of_getElem? hn)
    have hfn := rfinest_call s p.col
    have fb := hfb p.col (by omega) (by omega)
    rw [← e1] at e3
    have o := next_call t a (finestS s p.col - p.lev + 1) hL
    have ol := nxt_lt t a (n := finestS s p.col - p.lev + 1) (by omega)
    have hS := fun (v : Int) (h1 : p.lev ≤ v) (h2 : v ≤ finestS s p.col) => hF.set' (q := ⟨p.col, v⟩) hn e1 (by dsimp only; omega) (by dsimp only; rw [← e1]; exact h2)
    generalize nxt t a (finestS s p.col - p.lev + 1) = q at *
    obtain ⟨dd, b⟩ := q
    dsimp only at o ol
    have hS2 := hS (p.lev + dd) (by omega) (by omega)
    clear hS
    generalize finestS s p.col = fin at *
    clear hco hlc hne hev hfk hrok hNr hfb hN0
    repeat' ((first | (refine each_knownm (x := p) hp (by omega) ?_) | refine call_i hfn ?_ | refine ⟨ncall_h [0] [0] o rfl rfl rfl rfl rfl ⟨rfl, trivial⟩ rfl rfl rfl rfl rfl ?_⟩ | refine draw_e (id := 9) ⟨[(3, .ref 0 0), (4, .iptr (sL s)), (5, .iptr (cndX x)), (6, .sl 1 (row.map wA)), (7, .sl 2 (N.map pkL)), (8, .row 1 0 F.length), (27, .i N.length), (28, .i k)], 2, [(0, some (.box [.sl 1 (t.map u8A), .i b])), (1, some (.row pkT 2 0 ((F.set k ⟨p.col, p.lev + dd⟩).map pkL)))]⟩ ?_ ?_ |refine aops_go ?_|refine awp_go ?_|refine guard_tt ?_|refine guard_ff ?_|refine guard_tf ?_|refine guard_ft ?_|refine cond_t ?_|refine cond_f ?_|refine Z1 ?_|refine Z2 ?_|refine stp ?_|(refine And.intro ?_ ?_<;>intro h<;>try first|(exfalso;omega)|exact absurd rfl h)|refine Z3 ?_|refine Z4 ?_|intro el hel hbB|intro el hel|intro ex|refine Z5 ?_|(refine free_i ?_ ?_;exact ⟨by kernel_rfl,by decide⟩)|refine allI_c ?_ ?_|exact allI_n|refine allMP_c ?_ ?_|exact allMP_n|(refine many_step ?_ ?_ ?_;kernel_rfl;kernel_rfl)) <;> (try (conv => whnf)))
    all_goals first
      | exact le_of h0 rfl ⟨rfl, rfl, rfl, rfl, rfl, rfl, rfl, rfl, trivial⟩ ⟨rfl, ⟨_, congrArg (Blk.row pkT 2 _) (by rw [List.map_set]; rfl)⟩, trivial⟩ rfl rfl rfl
      | exact ⟨(k + 1, b, F.set k ⟨p.col, p.lev + dd⟩), ⟨by dsimp only; omega, hS2⟩, by dsimp only; omega, le_of h0 rfl ⟨rfl, rfl, rfl, rfl, rfl, congrArg (fun z : Nat => some (AV.row 1 0 z)) (by simp), rfl, rfl, trivial⟩ ⟨rfl, ⟨_, rfl⟩, trivial⟩ rfl rfl rfl⟩
      | (exfalso; omega)
      | trace_state
  · have hcF := hco F hF
    have hlF := hlc F hF
    have hcN := hco N hN0
    have hlN := hlc N hN0
    clear hco hlc hne hfk hrok hNr hfb
    refine awp_weaken (σ' := ⟨[(4, .iptr (sL s)), (5, .iptr (cndX x)), (6, .sl 1 (row.map wA)), (7, .sl 2 (N.map pkL)), (8, .sl 2 (F.map pkL)), (27, .i N.length), (28, .i k)], 0, []⟩) (le_of h0 rfl ⟨rfl, rfl, rfl, rfl, rfl, rfl, rfl, trivial⟩ trivial rfl rfl rfl) ?_
    repeat' ((first | refine call_i hev ?_ | refine call_i hcN ?_ | refine call_i hlN ?_ | refine call_i hcF ?_ | refine call_i hlF ?_ | refine call_i awake5_call ?_ |refine aops_go ?_|refine awp_go ?_|refine guard_tt ?_|refine guard_ff ?_|refine guard_tf ?_|refine guard_ft ?_|refine cond_t ?_|refine cond_f ?_|refine Z1 ?_|refine Z2 ?_|refine stp ?_|(refine And.intro ?_ ?_<;>intro h<;>try first|(exfalso;omega)|exact absurd rfl h)|refine Z3 ?_|refine Z4 ?_|intro el hel hbB|intro el hel|intro ex|refine Z5 ?_|(refine free_i ?_ ?_;exact ⟨by kernel_rfl,by decide⟩)|refine allI_c ?_ ?_|exact allI_n|refine allMP_c ?_ ?_|exact allMP_n|(refine many_step ?_ ?_ ?_;kernel_rfl;kernel_rfl)) <;> (try (conv => whnf)))
    all_goals first
      | exact ret_tmp rfl rfl
      | (exfalso; omega)
      | trace_state
theorem conditionKnown_all (l : List AV) (h : AShapes Tryz.prog Tryz.f6.params.toList l) : FCall Tryz.prog 6 l (.b true) := by
  obtain ⟨a1, r, rfl, h1, rfl⟩ := h
  obtain ⟨l, hl, rfl⟩ := ash_by h1
  exact conditionKnown_call l hl
end Go.Proofs.YtghlhejdfgkjaaaGreatDoor

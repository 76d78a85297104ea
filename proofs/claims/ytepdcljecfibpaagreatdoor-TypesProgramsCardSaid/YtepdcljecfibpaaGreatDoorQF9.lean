/- Expressions and statements that came in. TypesPrograms: the kinds of programs over any picks, or the first error and where it is. -/
import Derived.Test.YtepdcljecfibpaaGreatDoorQC5
import Derived.Test.YtepdcljecfibpaaGreatDoorQF1
import Derived.Test.YtepdcljecfibpaaGreatDoorQAw7
import Derived.Test.YtepdcljecfibpaaGreatDoorQTr3
import Derived.Test.YtepdcljecfibpaaGreatDoorQDx4
import Derived.Test.YtepdcljecfibpaaGreatDoorQCB
import Derived.Test.YtepdcljecfibpaaGreatDoorQCC
namespace Go.Proofs.YtepdcljecfibpaaGreatDoor
open Go Go.Av
attribute [local irreducible] AWp AOps AAny MAny DQ retQ retG St.le FCall GCall
set_option linter.unusedVariables false
set_option linter.unnecessarySimpa false
set_option linter.unusedSimpArgs false
set_option maxRecDepth 100000
theorem sh_cndc {f : Nat} {l : List AV} (h : Sh Tryz.prog f 37 l) : ∃ c : Cnd, l = cndX c := sh_cnd (f + 1) f (by omega) h
theorem sh_xpr : ∀ (n f : Nat), f < n → ∀ {l : List AV}, Sh Tryz.prog f 40 l → ∃ c : Xpr, l = xprX c := by
  intro n
  induction n with
  | zero => intro f hf; omega
  | succ n ih =>
    intro f hf l h
    obtain ⟨f', hs, e0⟩ := sh_struct (ts := [3, 3, 9, 3, 34, 24, 37, 37, 38]) Tryz.underlying40 (by kernel_rfl) h
    obtain ⟨x1, r1, h1, ⟨x2, r2, h2, ⟨x3, r3, h3, ⟨x4, r4, h4, ⟨x5, r5, h5, ⟨x6, r6, h6, ⟨x7, r7, h7, ⟨x8, r8, h8, ⟨x9, r9, h9, h10, rfl⟩, rfl⟩, rfl⟩, rfl⟩, rfl⟩, rfl⟩, rfl⟩, rfl⟩, rfl⟩ := hs
    obtain ⟨y1, _, rfl⟩ := sh_i h1
    obtain ⟨y2, _, rfl⟩ := sh_i h2
    obtain ⟨y3, _, rfl⟩ := sh_s h3
    obtain ⟨y4, _, rfl⟩ := sh_i h4
    obtain ⟨y5, _, rfl⟩ := sh_ints h5
    obtain ⟨f6, l6, _, hall6, rfl, _⟩ := sh_slice (c := 2) Tryz.underlying24 (by kernel_rfl) h6
    obtain ⟨y6, rfl, _⟩ := all_form (F := pkL) (R := fun _ => True) (fun x hx => sh_pick (hall6 x hx))
    obtain ⟨y7, rfl⟩ := sh_cndc h7
    obtain ⟨y8, rfl⟩ := sh_cndc h8
    obtain ⟨f2, ls, _, hall, rfl, e⟩ := sh_slice (c := 19) Tryz.underlying38 (by kernel_rfl) h9
    obtain ⟨ks, rfl, _⟩ := all_form (F := xprL) (R := fun _ => True) (fun x hx => by
      obtain ⟨c, hc⟩ := ih f2 (by omega) (hall x hx)
      exact ⟨c, trivial, by rw [hc, xprX_eq]⟩)
    cases h10
    exact ⟨.mk y1 y2 y3 y4 y5 y6 y7 y8 ks, rfl⟩
theorem sh_stm {f : Nat} {l : List AV} (h : Sh Tryz.prog f 42 l) : ∃ t : Stm, True ∧ l = stmL t := by
  obtain ⟨f', hs, _⟩ := sh_struct (ts := [9, 4, 40]) Tryz.underlying42 (by kernel_rfl) h
  obtain ⟨x1, r1, h1, ⟨x2, r2, h2, ⟨x3, r3, h3, h4, rfl⟩, rfl⟩, rfl⟩ := hs
  obtain ⟨y1, _, rfl⟩ := sh_s h1
  obtain ⟨y2, rfl⟩ := sh_b h2
  obtain ⟨y3, rfl⟩ := sh_xpr _ _ (Nat.lt_succ_self _) h3
  cases h4
  exact ⟨⟨y1, y2, y3⟩, trivial, by simp only [stmL, List.append_nil]; rfl⟩
theorem ash_stms {a : AV} (h : AShape Tryz.prog 23 a) : ∃ ws : List Stm, ws.length ≤ maxLen ∧ a = .sl 21 (ws.map stmL) := by
  obtain ⟨f2, ls, hl, hall, rfl⟩ := ash_slice (c := 21) Tryz.underlying23 (by kernel_rfl) h
  obtain ⟨ws, rfl, _⟩ := all_form (F := stmL) (R := fun _ => True) (fun x hx => sh_stm (hall x hx))
  exact ⟨ws, by rw [List.length_map] at hl; exact hl, rfl⟩
theorem nlss_app : ∀ {a a' b b' : List (List AV)}, NLss a a' → NLss b b' → NLss (a ++ b) (a' ++ b')
  | [], [], _, _, _, h => h
  | _ :: _, _ :: _, _, _, h1, h2 => ⟨h1.1, nlss_app h1.2 h2⟩
  | [], _ :: _, _, _, h, _ => h.elim
  | _ :: _, [], _, _, h, _ => h.elim
def nmX (nm : List UInt8) : Xpr := .mk 2 0 nm 0 [] [] zC zC []
def lastP : Stm := ⟨[108, 97, 115, 116], false, .mk 9 0 [] 0 [] [] zC zC [nmX [118, 48], nmX [118, 49]]⟩
abbrev nmXL (nm : List UInt8) : List AV := [.i 2, .i 0, .str nm, .i 0, nilW, nilW, .i 0, .i 0, .i 0, .i 0, .i 0, nilW, .i 0, .i 0, .i 0, .i 0, .i 0, nilW, nilW]
abbrev lastL : List AV := [.str [108, 97, 115, 116], .b false, .i 9, .i 0, .str [], .i 0, nilW, nilW, .i 0, .i 0, .i 0, .i 0, .i 0, nilW, .i 0, .i 0, .i 0, .i 0, .i 0, nilW, .sl 19 [nmXL [118, 48], nmXL [118, 49]]]
theorem nmX_nl (nm : List UInt8) : NLs (nmXL nm) (xprX (nmX nm)) := ⟨.refl _, .refl _, .refl _, .refl _, .nil 1, .nil 2, .refl _, .refl _, .refl _, .refl _, .refl _, .nil 6, .refl _, .refl _, .refl _, .refl _, .refl _, .nil 6, .nil 19, trivial⟩
theorem last_nl : NLs lastL (stmL lastP) := by
  refine ⟨.refl _, .refl _, .refl _, .refl _, .refl _, .refl _, .nil 1, .nil 2, .refl _, .refl _, .refl _, .refl _, .refl _, .nil 6, .refl _, .refl _, .refl _, .refl _, .refl _, .nil 6, ?_, trivial⟩
  show NL _ (.sl 19 [xprL (nmX [118, 48]), xprL (nmX [118, 49])])
  rw [xprX_eq, xprX_eq]
  exact nl_sl ⟨nmX_nl _, nmX_nl _, trivial⟩
set_option maxHeartbeats 16000000 in
theorem typesPrograms_call (l : List UInt8) (raw : List Stm) (ps : List Pk) (hl : l.length ≤ maxLen) : FCall Tryz.prog 3 [.sl 1 (l.map u8A), .sl 21 (raw.map stmL), .sl 2 (ps.map pkL)] (.b true) := by
  unfold maxLen at hl
  have hL : (l.take 400).length ≤ 400 := List.length_take_le _ _
  have hnew := new_call l (by omega)
  have hsch := schc_draw (l.take 400) 0 hL
  have hd := schS_drawn (l.take 400) 0
  generalize schS (l.take 400) 0 = s0 at *
  obtain ⟨s, a0⟩ := s0
  dsimp only at hsch hd
  generalize l.take 400 = t at *
  have hpro := program_draw t s hd hL a0 5 (by omega)
  have hgl := proD_len t a0 s 5 (by omega)
  generalize proD t a0 s 5 = X at *
  obtain ⟨good, nms, a1⟩ := X
  dsimp only at hpro hgl
  have hall := all_call s hd
  have hpk := fun a => picksc_draw t a s hd hL
  have ht := fun p x => tProgram_call s p x
  have hr := fun p x => rProgram_call s hd p x
  have hi := fun z : List Int => (intsW_call z z).congr (congrArg AV.b (decide_eq_true rfl))
  refine fcall_intro (n := 106) Tryz.func3 (by kernel_rfl) rfl rfl rfl rfl rfl (by intro t T h; cases h) (fun hrd E h0 => ?_)
  clear hrd
  have hsd : (0 + good.length + 1) * 280 ≤ 140737488355328 ∧ 0 + good.length + 1 ≤ 9223372036854775807 := by omega
  repeat' ((first | refine call_i awake7_call ?_ | refine ncall_g [] [] hnew rfl rfl rfl rfl rfl trivial rfl rfl rfl rfl rfl ?_ | refine ⟨ncall_h [0] [0] hsch rfl rfl rfl rfl rfl ⟨rfl, trivial⟩ rfl rfl rfl rfl rfl ?_⟩ | refine ⟨ncall_h [0] [0] hpro rfl rfl rfl rfl rfl ⟨rfl, trivial⟩ rfl rfl rfl rfl rfl ?_⟩ |refine aops_go ?_|refine awp_go ?_|refine guard_tt ?_|refine guard_ff ?_|refine guard_tf ?_|refine guard_ft ?_|refine cond_t ?_|refine cond_f ?_|refine Z1 ?_|refine Z2 ?_|refine stp ?_|(refine And.intro ?_ ?_<;>intro h<;>try first|(exfalso;omega)|exact absurd rfl h)|refine Z3 ?_|refine Z4 ?_|intro el hel hbB|intro el hel|intro ex|refine Z5 ?_|(refine free_i ?_ ?_;exact ⟨by kernel_rfl,by decide⟩)|refine allI_c ?_ ?_|exact allI_n|refine allMP_c ?_ ?_|exact allMP_n|(refine many_step ?_ ?_ ?_;kernel_rfl;kernel_rfl)) <;> (try (conv => whnf)))
  all_goals first
    | exact ret_tmp rfl rfl
    | (exfalso; omega)
    | skip
  refine call_i hall ?_
  refine aops_le (σ' := ⟨[(1, .sl 21 (raw.map stmL)), (2, .sl 2 (ps.map pkL)), (7, .ref 0 0), (8, .iptr (sL s)), (9, .sl 21 (good.map stmL)), (10, .sl 21 ((good ++ [lastP]).map stmL)), (50, .tup [allDA, .sl 2 ((allP s).map pkL)])], 1, [(0, some (.box [.sl 1 (t.map u8A), .i a1]))]⟩) (le_trans (le_nl 2 ((good ++ [lastP]).map stmL) rfl (by rw [List.map_append]; exact nlss_app (NLss.refl _) ⟨last_nl, trivial⟩)) (le_of h0 rfl ⟨rfl, rfl, rfl, rfl, rfl, rfl, rfl, trivial⟩ ⟨rfl, trivial⟩ rfl rfl rfl)) ?_
  clear hnew hsch hpro hall hsd
  repeat' ((first|refine aops_go ?_|refine awp_go ?_|refine guard_tt ?_|refine guard_ff ?_|refine guard_tf ?_|refine guard_ft ?_|refine cond_t ?_|refine cond_f ?_|refine Z1 ?_|refine Z2 ?_|refine stp ?_|(refine And.intro ?_ ?_<;>intro h<;>try first|(exfalso;omega)|exact absurd rfl h)|refine Z3 ?_|refine Z4 ?_|intro el hel hbB|intro el hel|intro ex|refine Z5 ?_|(refine free_i ?_ ?_;exact ⟨by kernel_rfl,by decide⟩)|refine allI_c ?_ ?_|exact allI_n|refine allMP_c ?_ ?_|exact allMP_n|(refine many_step ?_ ?_ ?_;kernel_rfl;kernel_rfl)) <;> (try (conv => whnf)))
  have hPR : ∃ PR : List (List Stm), PR = [good, good ++ [lastP], raw] := ⟨_, rfl⟩
  obtain ⟨PR, hPR⟩ := hPR
  have hPl : PR.length = 3 := by rw [hPR]; rfl
  refine loop_i (ι := Nat × Nat) (fun x => ⟨[(2, .sl 2 (ps.map pkL)), (7, .ref 0 0), (8, .iptr (sL s)), (12, .sl 2 ((allP s).map pkL)), (56, .sl 1 (PR.map fun X => [.sl 21 (X.map stmL)])), (57, .i 3), (58, .i x.1)], 1, [(0, some (.box [.sl 1 (t.map u8A), .i x.2]))]⟩) (fun x => x.1 ≤ 3) (fun x => 3 - x.1) (0, a1) (by dsimp only; omega)
    (le_of h0 rfl ⟨rfl, rfl, rfl, rfl, by rw [hPR]; rfl, rfl, rfl, trivial⟩ ⟨rfl, trivial⟩ rfl rfl rfl) (fun x hk => ?_)
  clear hPR
  obtain ⟨k, a⟩ := x
  dsimp only at hk ⊢
  by_cases hlt : k < 3
  · obtain ⟨X, hX⟩ : ∃ X, PR[k]? = some X := ⟨_, List.getElem?_eq_getElem (by omega)⟩
    have hp1 := hpk a
    generalize picksS t a s = p0 at *
    obtain ⟨p, a2⟩ := p0
    dsimp only at hp1
    repeat' ((first | (refine each_knownm (x := X) hX (by omega) ?_) | refine ⟨ncall_h [0] [0] hp1 rfl rfl rfl rfl rfl ⟨rfl, trivial⟩ rfl rfl rfl rfl rfl ?_⟩ |refine aops_go ?_|refine awp_go ?_|refine guard_tt ?_|refine guard_ff ?_|refine guard_tf ?_|refine guard_ft ?_|refine cond_t ?_|refine cond_f ?_|refine Z1 ?_|refine Z2 ?_|refine stp ?_|(refine And.intro ?_ ?_<;>intro h<;>try first|(exfalso;omega)|exact absurd rfl h)|refine Z3 ?_|refine Z4 ?_|intro el hel hbB|intro el hel|intro ex|refine Z5 ?_|(refine free_i ?_ ?_;exact ⟨by kernel_rfl,by decide⟩)|refine allI_c ?_ ?_|exact allI_n|refine allMP_c ?_ ?_|exact allMP_n|(refine many_step ?_ ?_ ?_;kernel_rfl;kernel_rfl)) <;> (try (conv => whnf)))
    all_goals first
      | (exfalso; omega)
      | skip
    have hQR : ∃ QR : List (List Pk), QR = [allP s, p, ps] := ⟨_, rfl⟩
    obtain ⟨QR, hQR⟩ := hQR
    have hQl : QR.length = 3 := by rw [hQR]; rfl
    refine loop_i (ι := Nat) (fun j => ⟨[(2, .sl 2 (ps.map pkL)), (7, .ref 0 0), (8, .iptr (sL s)), (12, .sl 2 ((allP s).map pkL)), (14, .sl 21 (X.map stmL)), (56, .sl 1 (PR.map fun X => [.sl 21 (X.map stmL)])), (57, .i 3), (58, .i k), (67, .sl 1 (QR.map fun q => [.sl 2 (q.map pkL)])), (68, .i 3), (69, .i j)], 1, [(0, some (.box [.sl 1 (t.map u8A), .i a2]))]⟩) (fun j => j ≤ 3) (fun j => 3 - j) 0 (by omega)
      (le_of h0 rfl ⟨rfl, rfl, rfl, rfl, rfl, rfl, rfl, rfl, by rw [hQR]; rfl, rfl, rfl, trivial⟩ ⟨rfl, trivial⟩ rfl rfl rfl) (fun j hj => ?_)
    clear hQR
    by_cases hjl : j < 3
    · obtain ⟨q, hq⟩ : ∃ q, QR[j]? = some q := ⟨_, List.getElem?_eq_getElem (by omega)⟩
      have c1 := ht q X
      have c2 := hr q X
      generalize typS s q X = Z at *
      obtain ⟨A, n, f⟩ := Z
      try dsimp only at c1 c2
      have c3 := hi A
      clear ht hr hi hpk hp1
      repeat' ((first | (refine each_knownm (x := q) hq (by omega) ?_) | refine call_i c1 ?_ | refine call_i c2 ?_ | refine call_i c3 ?_ |refine aops_go ?_|refine awp_go ?_|refine guard_tt ?_|refine guard_ff ?_|refine guard_tf ?_|refine guard_ft ?_|refine cond_t ?_|refine cond_f ?_|refine Z1 ?_|refine Z2 ?_|refine stp ?_|(refine And.intro ?_ ?_<;>intro h<;>try first|(exfalso;omega)|exact absurd rfl h)|refine Z3 ?_|refine Z4 ?_|intro el hel hbB|intro el hel|intro ex|refine Z5 ?_|(refine free_i ?_ ?_;exact ⟨by kernel_rfl,by decide⟩)|refine allI_c ?_ ?_|exact allI_n|refine allMP_c ?_ ?_|exact allMP_n|(refine many_step ?_ ?_ ?_;kernel_rfl;kernel_rfl)) <;> (try (conv => whnf)))
      all_goals first
        | (exfalso; omega)
        | exact ⟨j + 1, by omega, by omega, le_of h0 rfl ⟨rfl, rfl, rfl, rfl, rfl, rfl, rfl, rfl, rfl, rfl, rfl, trivial⟩ ⟨rfl, trivial⟩ rfl rfl rfl⟩
    · repeat' ((first|refine aops_go ?_|refine awp_go ?_|refine guard_tt ?_|refine guard_ff ?_|refine guard_tf ?_|refine guard_ft ?_|refine cond_t ?_|refine cond_f ?_|refine Z1 ?_|refine Z2 ?_|refine stp ?_|(refine And.intro ?_ ?_<;>intro h<;>try first|(exfalso;omega)|exact absurd rfl h)|refine Z3 ?_|refine Z4 ?_|intro el hel hbB|intro el hel|intro ex|refine Z5 ?_|(refine free_i ?_ ?_;exact ⟨by kernel_rfl,by decide⟩)|refine allI_c ?_ ?_|exact allI_n|refine allMP_c ?_ ?_|exact allMP_n|(refine many_step ?_ ?_ ?_;kernel_rfl;kernel_rfl)) <;> (try (conv => whnf)))
      all_goals first
        | (exfalso; omega)
        | exact ⟨(k + 1, a2), by dsimp only; omega, by dsimp only; omega, le_of h0 rfl ⟨rfl, rfl, rfl, rfl, rfl, rfl, rfl, trivial⟩ ⟨rfl, trivial⟩ rfl rfl rfl⟩
  · repeat' ((first | refine call_i awake7_call ?_ |refine aops_go ?_|refine awp_go ?_|refine guard_tt ?_|refine guard_ff ?_|refine guard_tf ?_|refine guard_ft ?_|refine cond_t ?_|refine cond_f ?_|refine Z1 ?_|refine Z2 ?_|refine stp ?_|(refine And.intro ?_ ?_<;>intro h<;>try first|(exfalso;omega)|exact absurd rfl h)|refine Z3 ?_|refine Z4 ?_|intro el hel hbB|intro el hel|intro ex|refine Z5 ?_|(refine free_i ?_ ?_;exact ⟨by kernel_rfl,by decide⟩)|refine allI_c ?_ ?_|exact allI_n|refine allMP_c ?_ ?_|exact allMP_n|(refine many_step ?_ ?_ ?_;kernel_rfl;kernel_rfl)) <;> (try (conv => whnf)))
    all_goals first
      | exact ret_tmp rfl rfl
      | (exfalso; omega)
theorem typesPrograms_all (l : List AV) (h : AShapes Tryz.prog Tryz.f3.params.toList l) : FCall Tryz.prog 3 l (.b true) := by
  obtain ⟨a1, r1, rfl, h1, a2, r2, rfl, h2, a3, r3, rfl, h3, rfl⟩ := h
  obtain ⟨l, hl, rfl⟩ := ash_by h1
  obtain ⟨raw, _, rfl⟩ := ash_stms h2
  obtain ⟨ps, rfl⟩ := ash_picks h3
  exact typesPrograms_call l raw ps hl
end Go.Proofs.YtepdcljecfibpaaGreatDoor

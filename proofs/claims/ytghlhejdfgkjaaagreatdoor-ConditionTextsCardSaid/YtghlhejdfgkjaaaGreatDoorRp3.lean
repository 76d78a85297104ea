/- Chapter 5: the reference reads conditions. -/
import Derived.Test.YtghlhejdfgkjaaaGreatDoorRp2
import Derived.Test.YtghlhejdfgkjaaaGreatDoorCe3
import Derived.Test.YtghlhejdfgkjaaaGreatDoorB10
namespace Go.Proofs.YtghlhejdfgkjaaaGreatDoor
open Go Go.Av
attribute [local irreducible] AWp AOps AAny MAny DQ retQ retG St.le FCall GCall
set_option linter.unusedVariables false
set_option linter.unnecessarySimpa false
set_option linter.unusedSimpArgs false
set_option maxRecDepth 100000

theorem ret_ctt {P : Program} {t T i u v sz : Nat} {l : List AV} {a b c r : AV} {σ : St} [tv : TVar P T true sz] (h : Go.Av.look σ.sl t = some (.ref i 0)) (hb : lookB σ.hp i = some (.box l)) (hl : Nat.beq l.length sz = true) (na : NL (.agg (cvL σ.hp [] l)) a) (h2 : (Go.Av.look σ.sl u).map (cvA σ.hp []) = some b) (h3 : (Go.Av.look σ.sl v).map (cvA σ.hp []) = some c) (e : .tup [a, b, c] = r) : retQ P #[.cell t T, .tmp u, .tmp v] r .ret σ :=
  ret_vs (rs := [.cell t T, .tmp u, .tmp v]) (vs := [a, b, c]) rfl ⟨⟨i, l, sz, h, hb, tv, Nat.eq_of_beq_eq_true hl, na⟩, ⟨b, h2, .refl _⟩, ⟨c, h3, .refl _⟩, trivial⟩ e
theorem drop_raw (t : List UInt8) (n : Int) : (t.take ((t.length : Nat) : Int).toNat).drop n.toNat = t.drop n.toNat := by simp
theorem drop_tw (p : UInt8 → Bool) (t : List UInt8) (n : Nat) (h : n = (t.takeWhile p).length) : t.drop n = t.dropWhile p := by
  subst h
  conv => lhs; arg 2; rw [← List.takeWhile_append_dropWhile (p := p) (l := t)]
  rw [List.drop_left]
theorem cut_drop {w t : List UInt8} (h : (cutS w t).2 = true) : (cutS w t).1 = t.drop w.length ∧ w.length ≤ t.length := by
  have e := cut_inv h
  refine ⟨?_, ?_⟩
  · conv => rhs; rw [e]
    rw [List.drop_left]
  · have := congrArg List.length e
    rw [List.length_append] at this
    omega
theorem miss_under (u : List UInt8) : (cutS bMiss (bUnder ++ u)).2 = false := rfl
abbrev zC : List AV := [.i 0, .i 0, .i 0, .i 0, .i 0, .v (.slice none 0 0)]
set_option maxHeartbeats 16000000 in
theorem ratomP_call (s : Sch) (hr : schE s = 0) (t : List UInt8) (ht : t.length ≤ 140737488355328) : FCall Tryz.prog 183 [sA s, .str t] (.tup [cndA (ratoP s t).1, .str (ratoP s t).2.1, .b (ratoP s t).2.2]) := by
  have r1 := rword_call t (by omega)
  have r2 := rfind2_call s (t.takeWhile isN)
  have hcol := fun h => (col_found (s := s) (n := t.takeWhile isN) h).2
  have hd := drop_tw isN t ((((t.takeWhile isN).length : Nat) : Int).toNat) (by omega)
  have hvl := dropWhile_len isN t
  have hnl := takeWhile_len isN t
  unfold ratoP
  generalize t.takeWhile isN = nm at *
  generalize findS2 s nm = col at *
  by_cases hc : col < 0
  · rw [if_pos hc]
    refine fcall_intro (n := 120) Tryz.func183 (by kernel_rfl) rfl rfl rfl rfl rfl (by intro t T h; cases h) (fun hrd E h0 => ?_)
    clear hrd
    repeat' ((first | refine call_i r1 ?_ | refine call_i r2 ?_ |refine aops_go ?_|refine awp_go ?_|refine guard_tt ?_|refine guard_ff ?_|refine guard_tf ?_|refine guard_ft ?_|refine cond_t ?_|refine cond_f ?_|refine Z1 ?_|refine Z2 ?_|refine stp ?_|(refine And.intro ?_ ?_<;>intro h<;>try first|(exfalso;omega)|exact absurd rfl h)|refine Z3 ?_|refine Z4 ?_|intro el hel hbB|intro el hel|intro ex|refine Z5 ?_|(refine free_i ?_ ?_;exact ⟨by kernel_rfl,by decide⟩)|refine allI_c ?_ ?_|exact allI_n|refine allMP_c ?_ ?_|exact allMP_n|(refine many_step ?_ ?_ ?_;kernel_rfl;kernel_rfl)) <;> (try (conv => whnf)))
    all_goals first
      | exact ret_ctt rfl rfl rfl (nl_leaf 0 0 0 0 0) rfl rfl rfl
      | (exfalso; omega)
      | trace_state
  rw [if_neg hc]
  have hcl := hcol (by omega)
  clear hcol
  obtain ⟨x, hx⟩ : ∃ x, s.cols[col.toNat]? = some x := ⟨_, List.getElem?_eq_getElem (by omega)⟩
  generalize t.dropWhile isN = v at *
  have p1 := hasPrefix_call v bMiss (by omega) (by decide)
  have p2 := hasPrefix_call v bUnder (by omega) (by decide)
  have p3 := hasPrefix_call v bFrom (by omega) (by decide)
  have p4 : FCall Tryz.prog 111 [sA s, .i col, .i 2] (.b (decide (x.kind = 2))) := (is_call s col 2).congr (congrArg AV.b (by unfold isB; rw [colAt_get hx, decide_eq_decide]; omega))
  unfold ratoC
  by_cases hM : (cutS bMiss v).2 = true
  · rw [if_pos hM]
    obtain ⟨e1, e2⟩ := cut_drop hM
    rw [hM] at p1
    rw [e1]
    have e3 : v.drop (Int.toNat 8) = v.drop bMiss.length := rfl
    have e2 : 8 ≤ v.length := e2
    generalize v.drop bMiss.length = u at *
    clear p2 p3 p4
    refine fcall_intro (n := 120) Tryz.func183 (by kernel_rfl) rfl rfl rfl rfl rfl (by intro t T h; cases h) (fun hrd E h0 => ?_)
    clear hrd
    repeat' (first | ((first | refine call_i r1 ?_ | refine call_i r2 ?_ | refine call_i p1 ?_ | refine draw_m (id := 9) ⟨[(4, .ref 1 0), (5, .str u), (6, .b true)], 3, [(1, some (.box [.i 4, .i col, .i 0, .i 0, .i 0, .v (.slice none 0 0)]))]⟩ ?_ ?_ |refine aops_go ?_|refine awp_go ?_|refine guard_tt ?_|refine guard_ff ?_|refine guard_tf ?_|refine guard_ft ?_|refine cond_t ?_|refine cond_f ?_|refine Z1 ?_|refine Z2 ?_|refine stp ?_|(refine And.intro ?_ ?_<;>intro h<;>try first|(exfalso;omega)|exact absurd rfl h)|refine Z3 ?_|refine Z4 ?_|intro el hel hbB|intro el hel|intro ex|refine Z5 ?_|(refine free_i ?_ ?_;exact ⟨by kernel_rfl,by decide⟩)|refine allI_c ?_ ?_|exact allI_n|refine allMP_c ?_ ?_|exact allMP_n|(refine many_step ?_ ?_ ?_;kernel_rfl;kernel_rfl)) <;> (try (conv => whnf))) | rw [drop_raw] | rw [hd])
    all_goals first
      | exact le_of h0 rfl ⟨rfl, congrArg (fun z => some (AV.str z)) (by first | exact e3 | rw [drop_raw, e3]), rfl, trivial⟩ ⟨rfl, trivial⟩ rfl rfl rfl
      | exact ret_ctt rfl rfl rfl (nl_leaf 4 col 0 0 0) rfl rfl rfl
      | (exfalso; omega)
      | trace_state
  rw [if_neg hM]
  rw [show (cutS bMiss v).2 = false from eq_false_of_ne_true hM] at p1
  by_cases hU : (cutS bUnder v).2 = true ∧ (colAt s col).kind = 2
  · rw [if_pos hU]
    obtain ⟨hU1, hU2⟩ := hU
    rw [colAt_get hx] at hU2 ⊢
    have hl := RightS.lst hr (List.mem_of_getElem? hx) hU2
    obtain ⟨lx, hlx⟩ : ∃ l, s.lists[x.lst.toNat]? = some l := ⟨_, List.getElem?_eq_getElem (by omega)⟩
    rw [lstOf_get hlx]
    have hchk : chk lx.1 lx.2 = 0 := (schE_parts hr).2.2.1 _ (List.mem_of_getElem? hlx)
    have hg := good60 hchk
    obtain ⟨e1, e2⟩ := cut_drop hU1
    rw [hU1] at p2
    rw [hU2] at p4
    rw [e1]
    have e3 : v.drop (Int.toNat 7) = v.drop bUnder.length := rfl
    have e2 : 7 ≤ v.length := e2
    have hul : (v.drop bUnder.length).length ≤ v.length := by simp
    have e4 := fun (n : Nat) => show (v.drop bUnder.length).drop n = v.drop (Int.toNat (7 + (n : Int))) by
      rw [List.drop_drop]; rfl
    generalize v.drop bUnder.length = u at *
    have r3 := rword_call u (by omega)
    have r4 := rfind_call lx.1 lx.2 (u.takeWhile isN) (by omega)
    have e5 := drop_tw isN u (u.takeWhile isN).length rfl
    have e6 := takeWhile_len isN u
    rw [e4] at e5
    generalize u.takeWhile isN = cw at *
    generalize u.dropWhile isN = rest at *
    generalize findS lx.1 lx.2 cw = code at *
    have e7 : cw.length + 7 ≤ v.length := by
      have := congrArg List.length e3
      rw [List.length_drop] at this
      have h7 : (Int.toNat 7) = 7 := rfl
      omega
    clear p3 e4
    refine fcall_intro (n := 120) Tryz.func183 (by kernel_rfl) rfl rfl rfl rfl rfl (by intro t T h; cases h) (fun hrd E h0 => ?_)
    clear hrd
    repeat' (first | ((first | refine call_i r1 ?_ | refine call_i r2 ?_ | refine call_i p1 ?_ | refine call_i p2 ?_ | refine call_i p4 ?_ | refine call_i r3 ?_ | refine call_i r4 ?_ | (refine each_knownm (x := x) hx (by omega) ?_) | (refine each_knownm (x := lx) hlx (by omega) ?_) | (refine draw_le (id := 12) (σ' := ⟨[(2, .iptr (sL s)), (4, .ref 1 0), (8, .i col), (9, .str v), (10, .ref 2 0), (11, .str cw)], 3, [(1, some (.box zC)), (2, some (.box [.i 0, .i col, .i 0, .i 0, .i 0, .v (.slice none 0 0)]))]⟩) (le_of h0 rfl ⟨rfl, rfl, rfl, rfl, rfl, rfl, trivial⟩ ⟨rfl, rfl, trivial⟩ rfl rfl rfl) ?_; refine draw_m (id := 12) ⟨[(4, .ref 1 0), (9, .str v), (10, .ref 2 0), (11, .str cw)], 3, [(1, some (.box zC)), (2, some (.box [.i 2, .i col, .i code, .i 0, .i 0, .v (.slice none 0 0)]))]⟩ ?_ ?_) | refine draw_m (id := 13) ⟨[(4, .ref 1 0), (5, .str rest), (6, .b (decide (0 ≤ code)))], 3, [(1, some (.box [.i 2, .i col, .i code, .i 0, .i 0, .v (.slice none 0 0)]))]⟩ ?_ ?_ |refine aops_go ?_|refine awp_go ?_|refine guard_tt ?_|refine guard_ff ?_|refine guard_tf ?_|refine guard_ft ?_|refine cond_t ?_|refine cond_f ?_|refine Z1 ?_|refine Z2 ?_|refine stp ?_|(refine And.intro ?_ ?_<;>intro h<;>try first|(exfalso;omega)|exact absurd rfl h)|refine Z3 ?_|refine Z4 ?_|intro el hel hbB|intro el hel|intro ex|refine Z5 ?_|(refine free_i ?_ ?_;exact ⟨by kernel_rfl,by decide⟩)|refine allI_c ?_ ?_|exact allI_n|refine allMP_c ?_ ?_|exact allMP_n|(refine many_step ?_ ?_ ?_;kernel_rfl;kernel_rfl)) <;> (try (conv => whnf))) | rw [drop_raw] | rw [hd] | rw [e3])
    all_goals first
      | exact le_of h0 rfl ⟨rfl, rfl, rfl, rfl, trivial⟩ ⟨rfl, rfl, trivial⟩ rfl rfl rfl
      | exact le_of h0 rfl ⟨rfl, congrArg (fun z => some (AV.str z)) (by first | exact e5 | rw [drop_raw, e5]), rfl, trivial⟩ ⟨rfl, trivial⟩ rfl rfl rfl
      | exact ret_ctt rfl rfl rfl (nl_leaf 2 col code 0 0) rfl rfl rfl
      | (exfalso; omega)
      | trace_state
  rw [if_neg hU]
  rw [colAt_get hx] at hU
  generalize (cutS bUnder v).2 = b2 at *
  by_cases hF : (cutS bFrom v).2 = true
  · rw [if_pos hF]
    obtain ⟨e1, e2⟩ := cut_drop hF
    rw [hF] at p3
    rw [e1]
    have e3 : v.drop (Int.toNat 6) = v.drop bFrom.length := rfl
    have e2 : 6 ≤ v.length := e2
    have hul : (v.drop bFrom.length).length ≤ v.length := by simp
    have e4 := fun (n : Nat) => show (v.drop bFrom.length).drop n = v.drop (Int.toNat (6 + (n : Int))) by
      rw [List.drop_drop]; rfl
    generalize v.drop bFrom.length = u at *
    have r3 := rword_call u (by omega)
    have e5 := drop_tw isN u (u.takeWhile isN).length rfl
    have e6 := takeWhile_len isN u
    have e9 := dropWhile_len isN u
    rw [e4] at e5
    generalize u.takeWhile isN = lw at *
    generalize u.dropWhile isN = y at *
    have e7 : lw.length + 6 ≤ v.length := by
      have := congrArg List.length e3
      rw [List.length_drop] at this
      have h7 : (Int.toNat 6) = 6 := rfl
      omega
    clear e4
    have p5 := hasPrefix_call y bTo (by omega) (by decide)
    by_cases hT : (cutS bTo y).2 = true
    · rw [if_pos hT]
      obtain ⟨f1, f2⟩ := cut_drop hT
      rw [hT] at p5
      rw [f1]
      have f3 : y.drop (Int.toNat 4) = y.drop bTo.length := rfl
      have f2 : 4 ≤ y.length := f2
      have hzl : (y.drop bTo.length).length ≤ y.length := by simp
      have f4 := fun (n : Nat) => show (y.drop bTo.length).drop n = y.drop (Int.toNat (4 + (n : Int))) by
        rw [List.drop_drop]; rfl
      generalize y.drop bTo.length = z at *
      have r5 := rword_call z (by omega)
      have f5 := drop_tw isN z (z.takeWhile isN).length rfl
      have f6 := takeWhile_len isN z
      rw [f4] at f5
      generalize z.takeWhile isN = hw at *
      generalize z.dropWhile isN = rest at *
      have f7 : hw.length + 4 ≤ y.length := by
        have := congrArg List.length f3
        rw [List.length_drop] at this
        have h7 : (Int.toNat 4) = 4 := rfl
        omega
      clear f4
      have n1 := rnumber_call lw (by omega)
      have n2 := rnumber_call hw (by omega)
      generalize numR lw = q1 at *
      generalize numR hw = q2 at *
      obtain ⟨lo, o1⟩ := q1
      obtain ⟨hi, o2⟩ := q2
      dsimp only at *
      obtain ⟨ob, hob⟩ : ∃ b, (o1 && o2) = b := ⟨_, rfl⟩
      rw [hob]
      refine fcall_intro (n := 120) Tryz.func183 (by kernel_rfl) rfl rfl rfl rfl rfl (by intro t T h; cases h) (fun hrd E h0 => ?_)
      clear hrd
      repeat' (first | ((first | refine call_i r1 ?_ | refine call_i r2 ?_ | refine call_i p1 ?_ | refine call_i p2 ?_ | refine call_i p4 ?_ | refine call_i p3 ?_ | refine call_i p5 ?_ | refine call_i r3 ?_ | refine call_i r5 ?_ | refine call_i n1 ?_ | refine call_i n2 ?_ | (refine draw_le (id := 23) (σ' := ⟨[(4, .ref 1 0), (9, .str y), (10, .iptr [.i 3, .i col, .i 0, .i lo, .i hi, .v (.slice none 0 0)]), (13, .str hw), (15, .b o1), (17, .b o2)], 3, [(1, some (.box zC))]⟩) (le_of h0 rfl ⟨rfl, rfl, rfl, rfl, rfl, rfl, trivial⟩ ⟨rfl, trivial⟩ rfl rfl rfl) ?_; refine draw_e (id := 23) ⟨[(4, .ref 1 0), (5, .str rest), (6, .b ob)], 3, [(1, some (.box [.i 3, .i col, .i 0, .i lo, .i hi, .v (.slice none 0 0)]))]⟩ ?_ ?_) |refine aops_go ?_|refine awp_go ?_|refine guard_tt ?_|refine guard_ff ?_|refine guard_tf ?_|refine guard_ft ?_|refine cond_t ?_|refine cond_f ?_|refine Z1 ?_|refine Z2 ?_|refine stp ?_|(refine And.intro ?_ ?_<;>intro h<;>try first|(exfalso;omega)|exact absurd rfl h)|refine Z3 ?_|refine Z4 ?_|intro el hel hbB|intro el hel|intro ex|refine Z5 ?_|(refine free_i ?_ ?_;exact ⟨by kernel_rfl,by decide⟩)|refine allI_c ?_ ?_|exact allI_n|refine allMP_c ?_ ?_|exact allMP_n|(refine many_step ?_ ?_ ?_;kernel_rfl;kernel_rfl)) <;> (try (conv => whnf))) | rw [drop_raw] | rw [hd] | rw [e3] | rw [e5] | rw [f3])
      all_goals first
        | exact le_of h0 rfl ⟨rfl, congrArg (fun z => some (AV.str z)) (by first | exact f5 | rw [drop_raw, f5]), congrArg (fun z => some (AV.b z)) (by simp_all), trivial⟩ ⟨rfl, trivial⟩ rfl rfl rfl
        | exact ret_ctt rfl rfl rfl (nl_leaf 3 col 0 lo hi) rfl rfl rfl
        | (exfalso; simp_all; done)
        | trace_state
    · rw [if_neg hT]
      rw [show (cutS bTo y).2 = false from eq_false_of_ne_true hT] at p5
      refine fcall_intro (n := 120) Tryz.func183 (by kernel_rfl) rfl rfl rfl rfl rfl (by intro t T h; cases h) (fun hrd E h0 => ?_)
      clear hrd
      repeat' (first | ((first | refine call_i r1 ?_ | refine call_i r2 ?_ | refine call_i p1 ?_ | refine call_i p2 ?_ | refine call_i p4 ?_ | refine call_i p3 ?_ | refine call_i p5 ?_ | refine call_i r3 ?_ |refine aops_go ?_|refine awp_go ?_|refine guard_tt ?_|refine guard_ff ?_|refine guard_tf ?_|refine guard_ft ?_|refine cond_t ?_|refine cond_f ?_|refine Z1 ?_|refine Z2 ?_|refine stp ?_|(refine And.intro ?_ ?_<;>intro h<;>try first|(exfalso;omega)|exact absurd rfl h)|refine Z3 ?_|refine Z4 ?_|intro el hel hbB|intro el hel|intro ex|refine Z5 ?_|(refine free_i ?_ ?_;exact ⟨by kernel_rfl,by decide⟩)|refine allI_c ?_ ?_|exact allI_n|refine allMP_c ?_ ?_|exact allMP_n|(refine many_step ?_ ?_ ?_;kernel_rfl;kernel_rfl)) <;> (try (conv => whnf))) | rw [drop_raw] | rw [hd] | rw [e3] | rw [e5])
      all_goals first
        | exact ret_ctt rfl rfl rfl (nl_leaf 0 col 0 0 0) rfl rfl rfl
        | (exfalso; simp_all; done)
        | trace_state
  rw [if_neg hF]
  rw [show (cutS bFrom v).2 = false from eq_false_of_ne_true hF] at p3
  refine fcall_intro (n := 120) Tryz.func183 (by kernel_rfl) rfl rfl rfl rfl rfl (by intro t T h; cases h) (fun hrd E h0 => ?_)
  clear hrd
  repeat' (first | ((first | refine call_i r1 ?_ | refine call_i r2 ?_ | refine call_i p1 ?_ | refine call_i p2 ?_ | refine call_i p4 ?_ | refine call_i p3 ?_ |refine aops_go ?_|refine awp_go ?_|refine guard_tt ?_|refine guard_ff ?_|refine guard_tf ?_|refine guard_ft ?_|refine cond_t ?_|refine cond_f ?_|refine Z1 ?_|refine Z2 ?_|refine stp ?_|(refine And.intro ?_ ?_<;>intro h<;>try first|(exfalso;omega)|exact absurd rfl h)|refine Z3 ?_|refine Z4 ?_|intro el hel hbB|intro el hel|intro ex|refine Z5 ?_|(refine free_i ?_ ?_;exact ⟨by kernel_rfl,by decide⟩)|refine allI_c ?_ ?_|exact allI_n|refine allMP_c ?_ ?_|exact allMP_n|(refine many_step ?_ ?_ ?_;kernel_rfl;kernel_rfl)) <;> (try (conv => whnf))) | rw [drop_raw] | rw [hd])
  all_goals first
    | exact ret_ctt rfl rfl rfl (nl_leaf 0 col 0 0 0) rfl rfl rfl
    | (exfalso; simp_all; done)
    | trace_state
end Go.Proofs.YtghlhejdfgkjaaaGreatDoor

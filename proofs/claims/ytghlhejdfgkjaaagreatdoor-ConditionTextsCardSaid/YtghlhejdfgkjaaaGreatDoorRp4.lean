/- Chapter 5: the reference's texts are conditions. -/
import Derived.Test.YtghlhejdfgkjaaaGreatDoorRpn
import Derived.Test.YtghlhejdfgkjaaaGreatDoorRpa
import Derived.Test.YtghlhejdfgkjaaaGreatDoorRpo
namespace Go.Proofs.YtghlhejdfgkjaaaGreatDoor
open Go Go.Av
attribute [local irreducible] AWp AOps AAny MAny DQ retQ retG St.le FCall GCall
set_option linter.unusedVariables false
set_option linter.unnecessarySimpa false
set_option linter.unusedSimpArgs false
set_option maxRecDepth 100000

theorem rparJ_of {f : List UInt8 → Rd3} {t v rt : List UInt8} {x : Cnd} {ok : Bool} (h : f v = (x, rt, ok)) : rparJ f t v = if ok = true then (if (cutS bOr rt).2 = true then rtwo f 6 x t (cutS bOr rt).1 else if (cutS bAnd rt).2 = true then rtwo f 5 x t (cutS bAnd rt).1 else (x, t, false)) else (x, t, false) := by
  unfold rparJ
  rw [h]
theorem rtwo_of {f : List UInt8 → Rd3} {o : Int} {t v qt : List UInt8} {x y : Cnd} {ok : Bool} (h : f v = (y, qt, ok)) : rtwo f o x t v = if ok = true ∧ (cutS [41] qt).2 = true then (.mk o 0 0 0 0 [x, y], (cutS [41] qt).1, true) else (x, t, false) := by
  unfold rtwo
  rw [h]
theorem rread_call (s : Sch) (hr : schE s = 0) : ∀ (d : Nat), d ≤ 10 → ∀ (t : List UInt8), t.length ≤ 140737488355328 → FCall Tryz.prog 143 [sA s, .str t, .i (11 - (d : Int))] (.tup [cndA (rrd s d t).1, .str (rrd s d t).2.1, .b (rrd s d t).2.2]) := by
  intro d
  induction d with
  | zero => intro _ t ht; exact rd_zero s t
  | succ d ih =>
    intro hd t ht
    have e0 : (11 - ((d + 1 : Nat) : Int)) + 1 = 11 - (d : Int) := by omega
    have ih := ih (by omega)
    rw [← e0] at ih
    have hdp : (11 - ((d + 1 : Nat) : Int)) ≤ 10 ∧ 0 ≤ (11 - ((d + 1 : Nat) : Int)) := by omega
    have hlen := rrd_len s d
    generalize (11 - ((d + 1 : Nat) : Int)) = dp at *
    have p1 := hasPrefix_call t bNot (by omega) (by decide)
    have p2 := hasPrefix_call t [40] (by omega) (by decide)
    unfold rrd
    by_cases hN : (cutS bNot t).2 = true
    · rw [if_pos hN]
      obtain ⟨e1, e2⟩ := cut_drop hN
      rw [hN] at p1
      have hul : (cutS bNot t).1.length ≤ t.length := by rw [e1]; simp
      have r1 := ih (cutS bNot t).1 (by omega)
      have hs : .str (cutS bNot t).1 = AV.str ((t.take ((t.length : Nat) : Int).toNat).drop (4 : Int).toNat) := by rw [drop_raw, e1]; rfl
      rw [hs] at r1
      exact rd_not s t _ _ _ dp hdp e2 p1 r1
    rw [if_neg hN]
    rw [show (cutS bNot t).2 = false from eq_false_of_ne_true hN] at p1
    by_cases hP : (cutS [40] t).2 = true
    · rw [if_pos hP]
      obtain ⟨e1, e2⟩ := cut_drop hP
      rw [hP] at p2
      have hul : (cutS [40] t).1.length ≤ t.length := by rw [e1]; simp
      have r1 := ih (cutS [40] t).1 (by omega)
      have hl1 := hlen (cutS [40] t).1
      rcases hR : rrd s d (cutS [40] t).1 with ⟨x, rt, ok⟩
      rw [hR] at r1 hl1
      rw [rparJ_of (f := fun u => rrd s d u) hR]
      dsimp only at r1 hl1
      have hs : .str (cutS [40] t).1 = AV.str ((t.take ((t.length : Nat) : Int).toNat).drop (1 : Int).toNat) := by rw [drop_raw, e1]; rfl
      rw [hs] at r1
      have p3 := hasPrefix_call rt bOr (by omega) (by decide)
      have p4 := hasPrefix_call rt bAnd (by omega) (by decide)
      cases ok
      · rw [if_neg Bool.false_ne_true]
        exact rd_bad s t rt x dp hdp e2 p1 p2 r1
      rw [if_pos rfl]
      by_cases hO : (cutS bOr rt).2 = true
      · rw [if_pos hO]
        obtain ⟨g1, g2⟩ := cut_drop hO
        rw [hO] at p3
        have hzl : (cutS bOr rt).1.length ≤ rt.length := by rw [g1]; simp
        have r2 := ih (cutS bOr rt).1 (by omega)
        have hl2 := hlen (cutS bOr rt).1
        rcases hR2 : rrd s d (cutS bOr rt).1 with ⟨y, qt, ok2⟩
        rw [hR2] at r2 hl2
        rw [rtwo_of (f := fun u => rrd s d u) hR2]
        dsimp only at r2 hl2
        have hs : .str (cutS bOr rt).1 = AV.str ((rt.take ((rt.length : Nat) : Int).toNat).drop (4 : Int).toNat) := by rw [drop_raw, g1]; rfl
        rw [hs] at r2
        have p5 := hasPrefix_call qt [41] (by omega) (by decide)
        by_cases hC : ok2 = true ∧ (cutS [41] qt).2 = true
        · rw [if_pos hC]
          obtain ⟨rfl, hC⟩ := hC
          obtain ⟨k1, k2⟩ := cut_drop hC
          rw [hC] at p5
          exact rdOr_yes s t rt qt x y dp hdp e2 g2 p1 p2 r1 p3 r2 p5 _ k2 (by rw [k1]; rfl)
        · rw [if_neg hC]
          exact rdOr_no s t rt qt x y dp hdp e2 g2 p1 p2 r1 p3 ok2 _ hC r2 p5
      rw [if_neg hO]
      rw [show (cutS bOr rt).2 = false from eq_false_of_ne_true hO] at p3
      by_cases hA : (cutS bAnd rt).2 = true
      · rw [if_pos hA]
        obtain ⟨g1, g2⟩ := cut_drop hA
        rw [hA] at p4
        have hzl : (cutS bAnd rt).1.length ≤ rt.length := by rw [g1]; simp
        have r2 := ih (cutS bAnd rt).1 (by omega)
        have hl2 := hlen (cutS bAnd rt).1
        rcases hR2 : rrd s d (cutS bAnd rt).1 with ⟨y, qt, ok2⟩
        rw [hR2] at r2 hl2
        rw [rtwo_of (f := fun u => rrd s d u) hR2]
        dsimp only at r2 hl2
        have hs : .str (cutS bAnd rt).1 = AV.str ((rt.take ((rt.length : Nat) : Int).toNat).drop (5 : Int).toNat) := by rw [drop_raw, g1]; rfl
        rw [hs] at r2
        have p5 := hasPrefix_call qt [41] (by omega) (by decide)
        by_cases hC : ok2 = true ∧ (cutS [41] qt).2 = true
        · rw [if_pos hC]
          obtain ⟨rfl, hC⟩ := hC
          obtain ⟨k1, k2⟩ := cut_drop hC
          rw [hC] at p5
          exact rdAnd_yes s t rt qt x y dp hdp e2 g2 p1 p2 r1 p3 p4 r2 p5 _ k2 (by rw [k1]; rfl)
        · rw [if_neg hC]
          exact rdAnd_no s t rt qt x y dp hdp e2 g2 p1 p2 r1 p3 p4 ok2 _ hC r2 p5
      rw [if_neg hA]
      rw [show (cutS bAnd rt).2 = false from eq_false_of_ne_true hA] at p4
      exact rd_none s t rt x dp hdp e2 p1 p2 p3 p4 r1
    rw [if_neg hP]
    rw [show (cutS [40] t).2 = false from eq_false_of_ne_true hP] at p2
    have r3 := rword_call t (by omega)
    by_cases hA : t.takeWhile isN = bAll
    · rw [if_pos hA]
      have e6 := takeWhile_len isN t
      rw [hA] at r3 e6
      exact rd_all s t _ dp hdp e6 (drop_tw isN t (Int.toNat 3) (by rw [hA]; rfl)) p1 p2 r3
    · rw [if_neg hA]
      exact rd_atom s t _ _ _ _ dp hdp hA p1 p2 r3 (ratomP_call s hr t ht)
set_option maxHeartbeats 4000000 in
theorem rbegin_call (s : Sch) (hr : schE s = 0) (t : List UInt8) (ht : t.length ≤ 140737488355328) : FCall Tryz.prog 94 [sA s, .str t] (.tup [cndA (rrd s 10 t).1, .str (rrd s 10 t).2.1, .b ((rrd s 10 t).2.2 && decide (cndE s (rrd s 10 t).1 = 0))]) := by
  have r1 := rread_call s hr 10 (by omega) t ht
  have r2 := fun c => rccheck_call s c
  generalize rrd s 10 t = R at *
  obtain ⟨x, rt, ok⟩ := R
  dsimp only at *
  have r2 := r2 x
  generalize cndE s x = e at *
  refine fcall_intro (n := 26) Tryz.func94 (by kernel_rfl) rfl rfl rfl rfl rfl (by intro t T h; cases h) (fun hrd E h0 => ?_)
  clear hrd
  repeat' ((first | refine call_i r1 ?_ | refine call_i r2 ?_ | (refine draw_le (id := 2) (σ' := ⟨[(2, .iptr (sL s)), (4, .ref 1 0), (7, .iptr (cndX x)), (8, .str rt), (9, .b ok)], 3, [(1, some (.box zC))]⟩) (le_of h0 rfl ⟨rfl, rfl, rfl, rfl, rfl, trivial⟩ ⟨rfl, trivial⟩ rfl rfl rfl) ?_; refine draw_e (id := 2) ⟨[(4, .ref 1 0), (5, .str rt), (6, .b (ok && decide (e = 0)))], 3, [(1, some (.box (cndX x)))]⟩ ?_ ?_) |refine aops_go ?_|refine awp_go ?_|refine guard_tt ?_|refine guard_ff ?_|refine guard_tf ?_|refine guard_ft ?_|refine cond_t ?_|refine cond_f ?_|refine Z1 ?_|refine Z2 ?_|refine stp ?_|(refine And.intro ?_ ?_<;>intro h<;>try first|(exfalso;omega)|exact absurd rfl h)|refine Z3 ?_|refine Z4 ?_|intro el hel hbB|intro el hel|intro ex|refine Z5 ?_|(refine free_i ?_ ?_;exact ⟨by kernel_rfl,by decide⟩)|refine allI_c ?_ ?_|exact allI_n|refine allMP_c ?_ ?_|exact allMP_n|(refine many_step ?_ ?_ ?_;kernel_rfl;kernel_rfl)) <;> (try (conv => whnf)))
  all_goals first
    | exact le_of h0 rfl ⟨rfl, rfl, congrArg (fun z => some (AV.b z)) (by simp_all), trivial⟩ ⟨rfl, trivial⟩ rfl rfl rfl
    | exact ret_ctt rfl rfl rfl (.refl _) rfl rfl rfl
    | trace_state
set_option maxHeartbeats 4000000 in
theorem rparse_call (s : Sch) (t : List UInt8) (ht : t.length ≤ 140737488355328) : FCall Tryz.prog 46 [sA s, .str t] (.tup [cndA (parS s t).1, .i (parS s t).2]) := by
  rw [← rpar_eq]
  have h1 := rscheck_call s
  unfold rparS
  by_cases hr : schE s = 0
  · rw [if_pos hr]
    have h2 := rbegin_call s hr t ht
    generalize rrd s 10 t = R at *
    obtain ⟨x, rt, ok⟩ := R
    dsimp only at *
    generalize cndE s x = e at *
    rw [hr] at h1
    refine fcall_intro (n := 31) Tryz.func46 (by kernel_rfl) rfl rfl rfl rfl rfl (by intro t T h; cases h) (fun hrd E h0 => ?_)
    clear hrd
    repeat' ((first | refine call_i h1 ?_ | refine call_i h2 ?_ |refine aops_go ?_|refine awp_go ?_|refine guard_tt ?_|refine guard_ff ?_|refine guard_tf ?_|refine guard_ft ?_|refine cond_t ?_|refine cond_f ?_|refine Z1 ?_|refine Z2 ?_|refine stp ?_|(refine And.intro ?_ ?_<;>intro h<;>try first|(exfalso;omega)|exact absurd rfl h)|refine Z3 ?_|refine Z4 ?_|intro el hel hbB|intro el hel|intro ex|refine Z5 ?_|(refine free_i ?_ ?_;exact ⟨by kernel_rfl,by decide⟩)|refine allI_c ?_ ?_|exact allI_n|refine allMP_c ?_ ?_|exact allMP_n|(refine many_step ?_ ?_ ?_;kernel_rfl;kernel_rfl)) <;> (try (conv => whnf)))
    all_goals first
      | (rw [if_neg (fun hh => by obtain ⟨⟨q1, q2⟩, q3⟩ := hh; simp_all; done)]; exact ret_ct rfl rfl rfl (nl_leaf 0 0 0 0 0) rfl (.refl _) rfl)
      | (rw [if_pos (by simp_all; done)]; exact ret_ct rfl rfl rfl (.refl _) rfl (.refl _) rfl)
      | (exfalso; first | contradiction | omega)
      | trace_state
  · rw [if_neg hr]
    refine fcall_intro (n := 31) Tryz.func46 (by kernel_rfl) rfl rfl rfl rfl rfl (by intro t T h; cases h) (fun hrd E h0 => ?_)
    clear hrd
    repeat' ((first | refine call_i h1 ?_ |refine aops_go ?_|refine awp_go ?_|refine guard_tt ?_|refine guard_ff ?_|refine guard_tf ?_|refine guard_ft ?_|refine cond_t ?_|refine cond_f ?_|refine Z1 ?_|refine Z2 ?_|refine stp ?_|(refine And.intro ?_ ?_<;>intro h<;>try first|(exfalso;omega)|exact absurd rfl h)|refine Z3 ?_|refine Z4 ?_|intro el hel hbB|intro el hel|intro ex|refine Z5 ?_|(refine free_i ?_ ?_;exact ⟨by kernel_rfl,by decide⟩)|refine allI_c ?_ ?_|exact allI_n|refine allMP_c ?_ ?_|exact allMP_n|(refine many_step ?_ ?_ ?_;kernel_rfl;kernel_rfl)) <;> (try (conv => whnf)))
    all_goals first
      | exact ret_ct rfl rfl rfl (nl_leaf 0 0 0 0 0) rfl (.refl _) rfl
      | (exfalso; contradiction)
      | trace_state
end Go.Proofs.YtghlhejdfgkjaaaGreatDoor

/- Chapter 17: the program's kinds. -/
import Derived.Test.YtepdcljecfibpaaGreatDoorQF3
import Derived.Test.YtepdcljecfibpaaGreatDoorQF1
import Derived.Test.YtepdcljecfibpaaGreatDoorQC1
namespace Go.Proofs.YtepdcljecfibpaaGreatDoor
open Go Go.Av
attribute [local irreducible] AWp AOps AAny MAny DQ retQ retG St.le FCall GCall
set_option linter.unusedVariables false
set_option linter.unnecessarySimpa false
set_option linter.unusedSimpArgs false
set_option maxRecDepth 100000
abbrev nilA : AV := .v (.slice none 0 0)
abbrev bndL (b : Bnd) : List AV := [.str b.name, .b false, .i b.kind, .i 0, .i 0, nilA, .i 0, nilA, .i 0, nilA, nilA, .i 0, .i 0, .i 0, .i 0, .i 0, .i 0, nilA, nilA, .i 0, .i 0, .i 0, .i 0, .i 0, .i 0, nilA]
theorem lookK_snoc (nm : List UInt8) (b : Bnd) : ∀ (l : List Bnd) (z : Int × Int), lookK nm (l ++ [b]) z = if b.name = nm then (b.kind, 0) else lookK nm l z
  | [], z => rfl
  | x :: r, z => lookK_snoc nm b r _
theorem kinL_cons (bs : List Bnd) (x : Xpr) (r : List Xpr) (b : Bool) : kinL bs (x :: r) b = if (kinS bs x).2 = 0 then kinL bs r (b && decide ((kinS bs x).1 = 1)) else ((kinS bs x).2, b) := rfl
set_option maxHeartbeats 16000000 in
theorem kind_call (s : Sch) (bs : List Bnd) (e : Xpr) : rigS s e = true → FCall Tryz.prog 31 [.sl 26 (bs.map bndL), xprA e] (.tup [.i (kinS bs e).1, .i (kinS bs e).2]) := by
  refine xpr_ind (p := fun e => rigS s e = true → FCall Tryz.prog 31 [.sl 26 (bs.map bndL), xprA e] (.tup [.i (kinS bs e).1, .i (kinS bs e).2])) (fun e ih hg => ?_) e
  have hg := rig_parts hg
  obtain ⟨_, _, hk2⟩ := hg.lens
  have hop := hg.op
  have hnum := number16_call e.op
  rw [xprA_eq, kinS_eq]
  refine fcall_intro (n := 70) Tryz.func31 (by kernel_rfl) rfl rfl rfl rfl rfl (by intro t T h; cases h) (fun hrd E h0 => ?_)
  have hlen : bs.length ≤ 9223372036854775807 := by
    have := (hrd (.sl 26 (bs.map bndL)) (by simp)).sl
    simpa using this
  clear hrd
  repeat' ((first|refine aops_go ?_|refine awp_go ?_|refine guard_tt ?_|refine guard_ff ?_|refine guard_tf ?_|refine guard_ft ?_|refine cond_t ?_|refine cond_f ?_|refine Z1 ?_|refine Z2 ?_|refine stp ?_|(refine And.intro ?_ ?_<;>intro h<;>try first|(exfalso;omega)|exact absurd rfl h)|refine Z3 ?_|refine Z4 ?_|intro el hel hbB|intro el hel|intro ex|refine Z5 ?_|(refine free_i ?_ ?_;exact ⟨by kernel_rfl,by decide⟩)|refine allI_c ?_ ?_|exact allI_n|refine allMP_c ?_ ?_|exact allMP_n|(refine many_step ?_ ?_ ?_;kernel_rfl;kernel_rfl)) <;> (try (conv => whnf)))
  refine loop_i (ι := Nat × Bool) (fun x => ⟨[(0, .sl 26 (bs.map bndL)), (3, .ref 0 0), (6, .b x.2), (13, .sl 19 (e.kids.map xprX)), (14, .i e.kids.length), (15, .i x.1)], 1, [(0, some (.box (xprY e)))]⟩) (fun x => x.1 ≤ e.kids.length ∧ kinL bs e.kids true = kinL bs (e.kids.drop x.1) x.2) (fun x => e.kids.length - x.1) (0, true) ⟨Nat.zero_le _, rfl⟩
    (le_of h0 rfl ⟨rfl, rfl, rfl, rfl, rfl, rfl, trivial⟩ ⟨rfl, trivial⟩ rfl rfl rfl) (fun x hI => ?_)
  obtain ⟨k, nb⟩ := x
  obtain ⟨hk, hI⟩ := hI
  dsimp only at hk hI ⊢
  by_cases hlt : k < e.kids.length
  · obtain ⟨x, hx⟩ : ∃ x, e.kids[k]? = some x := ⟨_, List.getElem?_eq_getElem hlt⟩
    have hq := ih x (List.mem_of_getElem? hx) (hg.kid x (List.mem_of_getElem? hx)).2
    rw [hI, dropc hx, kinL_cons]
    have hI2 : (kinS bs x).2 = 0 → kinL bs e.kids true = kinL bs (e.kids.drop (k + 1)) (nb && decide ((kinS bs x).1 = 1)) := fun h => by rw [hI, dropc hx, kinL_cons, if_pos h]
    generalize kinS bs x = z at *
    obtain ⟨z1, z2⟩ := z
    dsimp only at hq hI2 ⊢
    repeat' ((first | (refine each_knownm (x := x) hx (by omega) ?_) | refine call_i hq ?_ |refine aops_go ?_|refine awp_go ?_|refine guard_tt ?_|refine guard_ff ?_|refine guard_tf ?_|refine guard_ft ?_|refine cond_t ?_|refine cond_f ?_|refine Z1 ?_|refine Z2 ?_|refine stp ?_|(refine And.intro ?_ ?_<;>intro h<;>try first|(exfalso;omega)|exact absurd rfl h)|refine Z3 ?_|refine Z4 ?_|intro el hel hbB|intro el hel|intro ex|refine Z5 ?_|(refine free_i ?_ ?_;exact ⟨by kernel_rfl,by decide⟩)|refine allI_c ?_ ?_|exact allI_n|refine allMP_c ?_ ?_|exact allMP_n|(refine many_step ?_ ?_ ?_;kernel_rfl;kernel_rfl)) <;> (try (conv => whnf)))
    all_goals first
      | (exfalso; omega)
      | (rw [if_neg (show ¬ z2 = 0 by omega)]; dsimp only; rw [if_neg (show ¬ z2 = 0 by omega)]; exact ret_tmp2 rfl rfl rfl)
      | (refine ⟨(k + 1, decide (z1 = 1)), ⟨by dsimp only; omega, ?_⟩, by dsimp only; omega, le_of h0 rfl ⟨rfl, rfl, rfl, rfl, rfl, rfl, trivial⟩ ⟨rfl, trivial⟩ rfl rfl rfl⟩
         have e1 : nb = true := by assumption
         rw [if_pos (by omega), e1, Bool.true_and]; done)
      | (refine ⟨(k + 1, false), ⟨by dsimp only; omega, ?_⟩, by dsimp only; omega, le_of h0 rfl ⟨rfl, rfl, rfl, rfl, rfl, rfl, trivial⟩ ⟨rfl, trivial⟩ rfl rfl rfl⟩
         have e1 : nb = false := by assumption
         rw [if_pos (by omega), e1, Bool.false_and]; done)
  · obtain rfl : k = e.kids.length := by omega
    rw [hI, List.drop_length]
    rw [show kinL bs [] nb = (0, nb) from rfl]
    dsimp only
    rw [if_pos rfl]
    unfold endK
    repeat' ((first | refine call_i hnum ?_ |refine aops_go ?_|refine awp_go ?_|refine guard_tt ?_|refine guard_ff ?_|refine guard_tf ?_|refine guard_ft ?_|refine cond_t ?_|refine cond_f ?_|refine Z1 ?_|refine Z2 ?_|refine stp ?_|(refine And.intro ?_ ?_<;>intro h<;>try first|(exfalso;omega)|exact absurd rfl h)|refine Z3 ?_|refine Z4 ?_|intro el hel hbB|intro el hel|intro ex|refine Z5 ?_|(refine free_i ?_ ?_;exact ⟨by kernel_rfl,by decide⟩)|refine allI_c ?_ ?_|exact allI_n|refine allMP_c ?_ ?_|exact allMP_n|(refine many_step ?_ ?_ ?_;kernel_rfl;kernel_rfl)) <;> (try (conv => whnf)))
    all_goals first
      | (exfalso; omega)
      | (rw [if_neg (by omega), if_pos (by assumption)]; exact ret_tmp2 rfl rfl rfl)
      | (rw [if_neg (by omega), if_neg (by simp [*]), if_pos (by assumption)]; exact ret_tmp2 rfl rfl rfl)
      | (rw [if_neg (by omega), if_neg (by simp [*]), if_neg (by assumption)]; refine ret_tmp2 rfl rfl ?_; exact congrArg (fun z : Int => AV.tup [.i z, .i 0]) (by omega))
      | skip
    rw [if_pos (by assumption)]
    unfold bndK
    refine loop_i (ι := Nat) (fun m => ⟨[(0, .sl 26 (bs.map bndL)), (3, .ref 0 0), (11, .i ((m : Int) - 1))], 1, [(0, some (.box (xprY e)))]⟩) (fun m => m ≤ bs.length ∧ lookK e.name bs (0, 24) = lookK e.name (bs.take m) (0, 24)) (fun m => m) bs.length ⟨Nat.le_refl _, by rw [List.take_length]⟩
      (le_of h0 rfl ⟨rfl, rfl, rfl, trivial⟩ ⟨rfl, trivial⟩ rfl rfl rfl) (fun m hM => ?_)
    obtain ⟨hm, hM⟩ := hM
    cases m with
    | zero =>
      rw [hM, List.take_zero]
      repeat' ((first|refine aops_go ?_|refine awp_go ?_|refine guard_tt ?_|refine guard_ff ?_|refine guard_tf ?_|refine guard_ft ?_|refine cond_t ?_|refine cond_f ?_|refine Z1 ?_|refine Z2 ?_|refine stp ?_|(refine And.intro ?_ ?_<;>intro h<;>try first|(exfalso;omega)|exact absurd rfl h)|refine Z3 ?_|refine Z4 ?_|intro el hel hbB|intro el hel|intro ex|refine Z5 ?_|(refine free_i ?_ ?_;exact ⟨by kernel_rfl,by decide⟩)|refine allI_c ?_ ?_|exact allI_n|refine allMP_c ?_ ?_|exact allMP_n|(refine many_step ?_ ?_ ?_;kernel_rfl;kernel_rfl)) <;> (try (conv => whnf)))
      all_goals first
        | (exfalso; omega)
        | exact ret_tmp2 rfl rfl rfl
    | succ m =>
      obtain ⟨b, hb⟩ : ∃ b, bs[m]? = some b := ⟨_, List.getElem?_eq_getElem (by omega)⟩
      have hb2 : bs[(((m + 1 : Nat) : Int) - 1).toNat]? = some b := by rw [show (((m + 1 : Nat) : Int) - 1).toNat = m by omega]; exact hb
      rw [hM, takec hb, lookK_snoc]
      repeat' ((first | (refine each_knownm (x := b) hb2 (by omega) ?_) | (refine draw_q ?_ ?_; kernel_rfl) |refine aops_go ?_|refine awp_go ?_|refine guard_tt ?_|refine guard_ff ?_|refine guard_tf ?_|refine guard_ft ?_|refine cond_t ?_|refine cond_f ?_|refine Z1 ?_|refine Z2 ?_|refine stp ?_|(refine And.intro ?_ ?_<;>intro h<;>try first|(exfalso;omega)|exact absurd rfl h)|refine Z3 ?_|refine Z4 ?_|intro el hel hbB|intro el hel|intro ex|refine Z5 ?_|(refine free_i ?_ ?_;exact ⟨by kernel_rfl,by decide⟩)|refine allI_c ?_ ?_|exact allI_n|refine allMP_c ?_ ?_|exact allMP_n|(refine many_step ?_ ?_ ?_;kernel_rfl;kernel_rfl)) <;> (try (conv => whnf)))
      all_goals first
        | (exfalso; omega)
        | (rw [if_pos (by assumption)]; exact ret_tmp2 rfl rfl rfl)
        | (refine ⟨m, ⟨by omega, ?_⟩, by omega, le_of h0 rfl ⟨rfl, rfl, congrArg (fun z : Int => some (AV.i z)) (by omega), trivial⟩ ⟨rfl, trivial⟩ rfl rfl rfl⟩; rw [if_neg (by assumption)]; done)
set_option maxHeartbeats 16000000 in
theorem texpr_call (s : Sch) (picks : List Pk) (bs : List Bnd) (e : Xpr) : FCall Tryz.prog 14 [sA s, .sl 2 (picks.map pkL), .sl 26 (bs.map bndL), xprA e] (.tup [.i (exkS s picks bs e).1, .i (exkS s picks bs e).2]) := by
  have h1 := rightX_call s e
  have h2 := picks_call s picks
  have hx : rigX s e = true → schE s = 0 ∧ rigS s e = true := fun h => by
    unfold rigX at h
    simp only [Bool.and_eq_true] at h
    exact ⟨of_decide_eq_true h.1, h.2⟩
  have h3 := fun h => tneeds_call s (hx h).1 e (hx h).2
  have h4 := covers_call picks (nedS s e)
  have h5 := fun h => kind_call s bs e (hx h).2
  unfold exkS
  generalize rigX s e = b1 at *
  generalize nedS s e = R at *
  generalize covB picks R = b2 at *
  generalize picksE s picks = n1 at *
  refine fcall_intro (n := 31) Tryz.func14 (by kernel_rfl) rfl rfl rfl rfl rfl (by intro t T h; cases h) (fun hrd E h0 => ?_)
  clear hrd
  repeat' ((first | refine call_i h1 ?_ | refine call_i h2 ?_ | (refine call_i (h3 (by assumption)) ?_) | refine call_i h4 ?_ | (refine call_i (h5 (by assumption)) ?_) | (refine draw_q ?_ ?_; kernel_rfl) |refine aops_go ?_|refine awp_go ?_|refine guard_tt ?_|refine guard_ff ?_|refine guard_tf ?_|refine guard_ft ?_|refine cond_t ?_|refine cond_f ?_|refine Z1 ?_|refine Z2 ?_|refine stp ?_|(refine And.intro ?_ ?_<;>intro h<;>try first|(exfalso;omega)|exact absurd rfl h)|refine Z3 ?_|refine Z4 ?_|intro el hel hbB|intro el hel|intro ex|refine Z5 ?_|(refine free_i ?_ ?_;exact ⟨by kernel_rfl,by decide⟩)|refine allI_c ?_ ?_|exact allI_n|refine allMP_c ?_ ?_|exact allMP_n|(refine many_step ?_ ?_ ?_;kernel_rfl;kernel_rfl)) <;> (try (conv => whnf)))
  all_goals clear h1 h2 h3 h4 h5 hx
  all_goals first
    | (rw [if_pos (by assumption)]; exact ret_tmp2 rfl rfl rfl)
    | (rw [if_neg (by simp [*]), if_pos ⟨by omega, by assumption⟩]; exact ret_tmp2 rfl rfl rfl)
    | (rw [if_neg (by simp [*]), if_neg (by simp [*])]; exact ret_tmp2 rfl rfl rfl)
end Go.Proofs.YtepdcljecfibpaaGreatDoor

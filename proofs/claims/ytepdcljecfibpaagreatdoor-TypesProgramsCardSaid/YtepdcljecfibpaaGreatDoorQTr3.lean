/- Chapter 17: the reference's kinds. -/
import Derived.Test.YtepdcljecfibpaaGreatDoorQF4
import Derived.Test.YtepdcljecfibpaaGreatDoorQTp4
import Derived.Test.YtepdcljecfibpaaGreatDoorQEy4
namespace Go.Proofs.YtepdcljecfibpaaGreatDoor
open Go Go.Av
attribute [local irreducible] AWp AOps AAny MAny DQ retQ retG St.le FCall GCall
set_option linter.unusedVariables false
set_option linter.unnecessarySimpa false
set_option linter.unusedSimpArgs false
set_option maxRecDepth 100000
def fndI (nm : List UInt8) : List Bnd → Int → Int → Int
  | [], _, z => z
  | b :: r, k, z => fndI nm r (k + 1) (if b.name = nm then k else z)
theorem fndI_snoc (nm : List UInt8) (b : Bnd) : ∀ (l : List Bnd) (k z : Int), fndI nm (l ++ [b]) k z = if b.name = nm then k + l.length else fndI nm l k z
  | [], k, z => by simp [fndI]
  | x :: r, k, z => by
    show fndI nm (r ++ [b]) (k + 1) _ = _
    rw [fndI_snoc nm b r (k + 1)]
    split
    · rw [List.length_cons]; omega
    · rfl
theorem fndI_spec (nm : List UInt8) : ∀ (n : Nat) (l : List Bnd), l.length = n → (fndI nm l 0 (-1) = -1 ∧ lookK nm l (0, 24) = (0, 24)) ∨ ∃ (i : Nat) (b : Bnd), fndI nm l 0 (-1) = i ∧ l[i]? = some b ∧ lookK nm l (0, 24) = (b.kind, 0)
  | 0, l, h => by
    have : l = [] := List.eq_nil_of_length_eq_zero h
    subst this; exact .inl ⟨rfl, rfl⟩
  | n + 1, l, h => by
    obtain ⟨b, hb⟩ : ∃ b, l[n]? = some b := ⟨_, List.getElem?_eq_getElem (by omega)⟩
    have e : l = l.take n ++ [b] := by rw [← takec hb, List.take_of_length_le (by omega)]
    have htl : (l.take n).length = n := by rw [List.length_take]; omega
    rw [e, fndI_snoc, lookK_snoc, htl]
    by_cases hn : b.name = nm
    · rw [if_pos hn, if_pos hn]
      refine .inr ⟨n, b, by omega, ?_, rfl⟩
      rw [List.getElem?_append_right (by omega), htl]; simp
    · rw [if_neg hn, if_neg hn]
      rcases fndI_spec nm n (l.take n) htl with h | ⟨i, c, h1, h2, h3⟩
      · exact .inl h
      · exact .inr ⟨i, c, h1, by rw [List.getElem?_append_left (lt_of_get h2)]; exact h2, h3⟩
set_option maxHeartbeats 4000000 in
theorem rfind17_call (bs : List Bnd) (nm : List UInt8) : FCall Tryz.prog 91 [.sl 26 (bs.map bndL), .str nm] (.i (fndI nm bs 0 (-1))) := by
  refine fcall_intro (n := 21) Tryz.func91 (by kernel_rfl) rfl rfl rfl rfl rfl (by intro t T h; cases h) (fun hrd E h0 => ?_)
  have hlen : bs.length ≤ 9223372036854775807 := by
    have := (hrd (.sl 26 (bs.map bndL)) (by simp)).sl
    simpa using this
  clear hrd
  repeat' ((first|refine aops_go ?_|refine awp_go ?_|refine guard_tt ?_|refine guard_ff ?_|refine guard_tf ?_|refine guard_ft ?_|refine cond_t ?_|refine cond_f ?_|refine Z1 ?_|refine Z2 ?_|refine stp ?_|(refine And.intro ?_ ?_<;>intro h<;>try first|(exfalso;omega)|exact absurd rfl h)|refine Z3 ?_|refine Z4 ?_|intro el hel hbB|intro el hel|intro ex|refine Z5 ?_|(refine free_i ?_ ?_;exact ⟨by kernel_rfl,by decide⟩)|refine allI_c ?_ ?_|exact allI_n|refine allMP_c ?_ ?_|exact allMP_n|(refine many_step ?_ ?_ ?_;kernel_rfl;kernel_rfl)) <;> (try (conv => whnf)))
  refine loop_i (ι := Nat) (fun m => ⟨[(0, .sl 26 (bs.map bndL)), (1, .str nm), (5, .i ((m : Int) - 1))], 0, []⟩) (fun m => m ≤ bs.length ∧ fndI nm bs 0 (-1) = fndI nm (bs.take m) 0 (-1)) (fun m => m) bs.length ⟨Nat.le_refl _, by rw [List.take_length]⟩
    (le_of h0 rfl ⟨rfl, rfl, rfl, trivial⟩ trivial rfl rfl rfl) (fun m hM => ?_)
  obtain ⟨hm, hM⟩ := hM
  cases m with
  | zero =>
    rw [hM, List.take_zero]
    repeat' ((first|refine aops_go ?_|refine awp_go ?_|refine guard_tt ?_|refine guard_ff ?_|refine guard_tf ?_|refine guard_ft ?_|refine cond_t ?_|refine cond_f ?_|refine Z1 ?_|refine Z2 ?_|refine stp ?_|(refine And.intro ?_ ?_<;>intro h<;>try first|(exfalso;omega)|exact absurd rfl h)|refine Z3 ?_|refine Z4 ?_|intro el hel hbB|intro el hel|intro ex|refine Z5 ?_|(refine free_i ?_ ?_;exact ⟨by kernel_rfl,by decide⟩)|refine allI_c ?_ ?_|exact allI_n|refine allMP_c ?_ ?_|exact allMP_n|(refine many_step ?_ ?_ ?_;kernel_rfl;kernel_rfl)) <;> (try (conv => whnf)))
    all_goals first
      | (exfalso; omega)
      | exact ret_tmp rfl rfl
  | succ m =>
    obtain ⟨b, hb⟩ : ∃ b, bs[m]? = some b := ⟨_, List.getElem?_eq_getElem (by omega)⟩
    have hb2 : bs[(((m + 1 : Nat) : Int) - 1).toNat]? = some b := by rw [show (((m + 1 : Nat) : Int) - 1).toNat = m by omega]; exact hb
    have htl : (bs.take m).length = m := by rw [List.length_take]; omega
    rw [hM, takec hb, fndI_snoc, htl]
    repeat' ((first | (refine each_knownm (x := b) hb2 (by omega) ?_) | (refine draw_q ?_ ?_; kernel_rfl) |refine aops_go ?_|refine awp_go ?_|refine guard_tt ?_|refine guard_ff ?_|refine guard_tf ?_|refine guard_ft ?_|refine cond_t ?_|refine cond_f ?_|refine Z1 ?_|refine Z2 ?_|refine stp ?_|(refine And.intro ?_ ?_<;>intro h<;>try first|(exfalso;omega)|exact absurd rfl h)|refine Z3 ?_|refine Z4 ?_|intro el hel hbB|intro el hel|intro ex|refine Z5 ?_|(refine free_i ?_ ?_;exact ⟨by kernel_rfl,by decide⟩)|refine allI_c ?_ ?_|exact allI_n|refine allMP_c ?_ ?_|exact allMP_n|(refine many_step ?_ ?_ ?_;kernel_rfl;kernel_rfl)) <;> (try (conv => whnf)))
    all_goals first
      | (exfalso; omega)
      | (rw [if_pos (by assumption)]; exact ret_tmp rfl (congrArg AV.i (by omega)))
      | (refine ⟨m, ⟨by omega, ?_⟩, by omega, le_of h0 rfl ⟨rfl, rfl, congrArg (fun z : Int => some (AV.i z)) (by omega), trivial⟩ trivial rfl rfl rfl⟩; rw [if_neg (by assumption)]; done)
set_option maxHeartbeats 16000000 in
theorem rkind_call (s : Sch) (bs : List Bnd) (e : Xpr) : rigS s e = true → FCall Tryz.prog 47 [.sl 26 (bs.map bndL), xprA e] (.tup [.i (kinS bs e).1, .i (kinS bs e).2]) := by
  refine xpr_ind (p := fun e => rigS s e = true → FCall Tryz.prog 47 [.sl 26 (bs.map bndL), xprA e] (.tup [.i (kinS bs e).1, .i (kinS bs e).2])) (fun e ih hg => ?_) e
  have hg := rig_parts hg
  obtain ⟨_, _, hk2⟩ := hg.lens
  have hop := hg.op
  have hunu := hg.unu.2.2.2.2.2.2.2
  have hpair := hg.pair
  simp only [pairP] at hunu hpair
  have hkid : ∀ x ∈ e.kids, FCall Tryz.prog 47 [.sl 26 (bs.map bndL), xprA x] (.tup [.i (kinS bs x).1, .i (kinS bs x).2]) := fun x hx => ih x hx (hg.kid x hx).2
  clear ih
  have hfd := rfind17_call bs e.name
  have hsp : (fndI e.name bs 0 (-1) = -1 ∧ bndK bs e.name = (0, 24)) ∨ ∃ (i : Nat) (b : Bnd), fndI e.name bs 0 (-1) = i ∧ bs[i]? = some b ∧ bndK bs e.name = (b.kind, 0) := fndI_spec e.name bs.length bs rfl
  rw [xprA_eq, kinS_eq]
  refine fcall_intro (n := 78) Tryz.func47 (by kernel_rfl) rfl rfl rfl rfl rfl (by intro t T h; cases h) (fun hrd E h0 => ?_)
  have hlen : bs.length ≤ 9223372036854775807 := by
    have := (hrd (.sl 26 (bs.map bndL)) (by simp)).sl
    simpa using this
  clear hrd
  repeat' ((first|refine aops_go ?_|refine awp_go ?_|refine guard_tt ?_|refine guard_ff ?_|refine guard_tf ?_|refine guard_ft ?_|refine cond_t ?_|refine cond_f ?_|refine Z1 ?_|refine Z2 ?_|refine stp ?_|(refine And.intro ?_ ?_<;>intro h<;>try first|(exfalso;omega)|exact absurd rfl h)|refine Z3 ?_|refine Z4 ?_|intro el hel hbB|intro el hel|intro ex|refine Z5 ?_|(refine free_i ?_ ?_;exact ⟨by kernel_rfl,by decide⟩)|refine allI_c ?_ ?_|exact allI_n|refine allMP_c ?_ ?_|exact allMP_n|(refine many_step ?_ ?_ ?_;kernel_rfl;kernel_rfl)) <;> (try (conv => whnf)))
  refine loop_i (ι := Nat × Int × Bool) (fun x => ⟨[(0, .sl 26 (bs.map bndL)), (3, .ref 0 0), (6, .i x.2.1), (7, .i x.1)], 1, [(0, some (.box (xprY e)))]⟩) (fun x => x.1 ≤ e.kids.length ∧ kinL bs e.kids true = kinL bs (e.kids.drop x.1) x.2.2 ∧ (x.1 = 0 → x.2.1 = 1 ∧ x.2.2 = true) ∧ (x.1 ≠ 0 → (x.2.2 = true ↔ x.2.1 = 1))) (fun x => e.kids.length - x.1) (0, 1, true) ⟨Nat.zero_le _, rfl, fun _ => ⟨rfl, rfl⟩, fun h => absurd rfl h⟩
    (le_of h0 rfl ⟨rfl, rfl, rfl, rfl, trivial⟩ ⟨rfl, trivial⟩ rfl rfl rfl) (fun x hI => ?_)
  obtain ⟨k, fst, nb⟩ := x
  obtain ⟨hk, hI, hf0, hf1⟩ := hI
  dsimp only at hk hI hf0 hf1 ⊢
  by_cases hlt : k < e.kids.length
  · obtain ⟨x, hx⟩ : ∃ x, e.kids[k]? = some x := ⟨_, List.getElem?_eq_getElem hlt⟩
    have hq := hkid x (List.mem_of_getElem? hx)
    have hI2 : (kinS bs x).2 = 0 → kinL bs e.kids true = kinL bs (e.kids.drop (k + 1)) (nb && decide ((kinS bs x).1 = 1)) := fun h => by rw [hI, dropc hx, kinL_cons, if_pos h]
    have hI3 : (kinS bs x).2 ≠ 0 → kinL bs e.kids true = ((kinS bs x).2, nb) := fun h => by rw [hI, dropc hx, kinL_cons, if_neg h]
    generalize kinS bs x = z at *
    obtain ⟨z1, z2⟩ := z
    dsimp only at hq hI2 hI3 ⊢
    repeat' ((first | (refine each_knownm (x := x) hx (by omega) ?_) | refine call_i hq ?_ |refine aops_go ?_|refine awp_go ?_|refine guard_tt ?_|refine guard_ff ?_|refine guard_tf ?_|refine guard_ft ?_|refine cond_t ?_|refine cond_f ?_|refine Z1 ?_|refine Z2 ?_|refine stp ?_|(refine And.intro ?_ ?_<;>intro h<;>try first|(exfalso;omega)|exact absurd rfl h)|refine Z3 ?_|refine Z4 ?_|intro el hel hbB|intro el hel|intro ex|refine Z5 ?_|(refine free_i ?_ ?_;exact ⟨by kernel_rfl,by decide⟩)|refine allI_c ?_ ?_|exact allI_n|refine allMP_c ?_ ?_|exact allMP_n|(refine many_step ?_ ?_ ?_;kernel_rfl;kernel_rfl)) <;> (try (conv => whnf)))
    all_goals clear hfd hsp hkid
    all_goals first
      | (exfalso; omega)
      | (rw [hI3 (by assumption)]; dsimp only; rw [if_neg (show ¬ z2 = 0 by omega)]; exact ret_tmp2 rfl rfl rfl)
      | (have hk0 : k = 0 := by omega
         refine ⟨(k + 1, z1, decide (z1 = 1)), ⟨by dsimp only; omega, ?_, fun h => by dsimp only at h; omega, fun _ => by simp⟩, by dsimp only; omega, le_of h0 rfl ⟨rfl, rfl, rfl, rfl, trivial⟩ ⟨rfl, trivial⟩ rfl rfl rfl⟩
         dsimp only
         rw [hI2 (by omega), (hf0 hk0).2, Bool.true_and]; done)
      | (have hz1 : z1 = 1 := by omega
         refine ⟨(k + 1, fst, nb), ⟨by dsimp only; omega, ?_, fun h => by dsimp only at h; omega, fun _ => hf1 (by omega)⟩, by dsimp only; omega, le_of h0 rfl ⟨rfl, rfl, rfl, rfl, trivial⟩ ⟨rfl, trivial⟩ rfl rfl rfl⟩
         dsimp only
         rw [hI2 (by omega), decide_eq_true hz1, Bool.and_true]; done)
      | (have hz1 : ¬ z1 = 1 := by omega
         rw [hI2 (by omega), show k + 1 = e.kids.length by omega, List.drop_length, decide_eq_false hz1, Bool.and_false]
         rw [show kinL bs [] false = (0, false) from rfl]
         dsimp only
         rw [if_pos rfl]
         unfold endK
         rw [if_neg (by omega), if_pos rfl]
         exact ret_tmp2 rfl rfl rfl)
  · obtain rfl : k = e.kids.length := by omega
    rw [hI, List.drop_length]
    rw [show kinL bs [] nb = (0, nb) from rfl]
    dsimp only
    rw [if_pos rfl]
    unfold endK
    have hnb1 : e.kids.length = 0 → nb = true := fun h => (hf0 h).2
    have hnb2 : e.kids.length ≠ 0 → fst ≠ 1 → nb = false := fun h h2 => by
      cases nb
      · rfl
      · exact absurd ((hf1 h).1 rfl) h2
    have hnb3 : e.kids.length ≠ 0 → fst = 1 → nb = true := fun h h2 => (hf1 h).2 h2
    generalize hF : fndI e.name bs 0 (-1) = F at *
    rcases hsp with ⟨rfl, hs2⟩ | ⟨i, b, rfl, hb, hs2⟩
    · rw [hs2]
      repeat' ((first | refine call_i hfd ?_ |refine aops_go ?_|refine awp_go ?_|refine guard_tt ?_|refine guard_ff ?_|refine guard_tf ?_|refine guard_ft ?_|refine cond_t ?_|refine cond_f ?_|refine Z1 ?_|refine Z2 ?_|refine stp ?_|(refine And.intro ?_ ?_<;>intro h<;>try first|(exfalso;omega)|exact absurd rfl h)|refine Z3 ?_|refine Z4 ?_|intro el hel hbB|intro el hel|intro ex|refine Z5 ?_|(refine free_i ?_ ?_;exact ⟨by kernel_rfl,by decide⟩)|refine allI_c ?_ ?_|exact allI_n|refine allMP_c ?_ ?_|exact allMP_n|(refine many_step ?_ ?_ ?_;kernel_rfl;kernel_rfl)) <;> (try (conv => whnf)))
      all_goals clear hfd hkid
      all_goals first
        | (exfalso; omega)
        | (rw [if_pos (by assumption)]; exact ret_tmp2 rfl rfl rfl)
        | (rw [hnb2 (by omega) (by assumption), if_neg (by omega), if_pos rfl]; exact ret_tmp2 rfl rfl rfl)
        | (rw [hnb3 (by omega) (by omega), if_neg (by omega), if_neg (by decide), if_pos (by simp only [numP]; omega)]; exact ret_tmp2 rfl rfl rfl)
        | (rw [hnb1 (by omega), if_neg (by omega), if_neg (by decide), if_pos (by simp only [numP]; omega)]; exact ret_tmp2 rfl rfl rfl)
        | (rw [hnb1 (by omega), if_neg (by omega), if_neg (by decide), if_neg (by simp only [numP]; omega)]; refine ret_tmp2 rfl rfl ?_; exact congrArg (fun z : Int => AV.tup [.i z, .i 0]) (by omega))
    · rw [hs2]
      repeat' ((first | (refine each_knownm (x := b) hb (by omega) ?_) | refine call_i hfd ?_ |refine aops_go ?_|refine awp_go ?_|refine guard_tt ?_|refine guard_ff ?_|refine guard_tf ?_|refine guard_ft ?_|refine cond_t ?_|refine cond_f ?_|refine Z1 ?_|refine Z2 ?_|refine stp ?_|(refine And.intro ?_ ?_<;>intro h<;>try first|(exfalso;omega)|exact absurd rfl h)|refine Z3 ?_|refine Z4 ?_|intro el hel hbB|intro el hel|intro ex|refine Z5 ?_|(refine free_i ?_ ?_;exact ⟨by kernel_rfl,by decide⟩)|refine allI_c ?_ ?_|exact allI_n|refine allMP_c ?_ ?_|exact allMP_n|(refine many_step ?_ ?_ ?_;kernel_rfl;kernel_rfl)) <;> (try (conv => whnf)))
      all_goals clear hfd hkid
      all_goals first
        | (exfalso; omega)
        | (rw [if_pos (by assumption)]; exact ret_tmp2 rfl rfl rfl)
        | (rw [hnb2 (by omega) (by assumption), if_neg (by omega), if_pos rfl]; exact ret_tmp2 rfl rfl rfl)
        | (rw [hnb3 (by omega) (by omega), if_neg (by omega), if_neg (by decide), if_pos (by simp only [numP]; omega)]; exact ret_tmp2 rfl rfl rfl)
        | (rw [hnb1 (by omega), if_neg (by omega), if_neg (by decide), if_pos (by simp only [numP]; omega)]; exact ret_tmp2 rfl rfl rfl)
        | (rw [hnb1 (by omega), if_neg (by omega), if_neg (by decide), if_neg (by simp only [numP]; omega)]; refine ret_tmp2 rfl rfl ?_; exact congrArg (fun z : Int => AV.tup [.i z, .i 0]) (by omega))
set_option maxHeartbeats 16000000 in
theorem rexpr_call (s : Sch) (hdr : Drawn s) (picks : List Pk) (bs : List Bnd) (e : Xpr) : FCall Tryz.prog 26 [sA s, .sl 2 (picks.map pkL), .sl 26 (bs.map bndL), xprA e] (.tup [.i (exkS s picks bs e).1, .i (exkS s picks bs e).2]) := by
  have h1 := rright_call s e
  have h2 := rpicks_call s picks
  have hx : rigX s e = true → rigS s e = true := fun h => by
    unfold rigX at h
    simp only [Bool.and_eq_true] at h
    exact h.2
  have h3 : rigX s e = true → FCall Tryz.prog 46 [sA s, xprA e] (.sl 2 ((nedS s e).map pkL)) := fun h => by
    have h' := rneeds17_call s hdr e
    unfold neeS at h'
    rwa [if_pos h] at h'
  have h4 := rcovers_call (nedS s e) picks
  have h5 := fun h => rkind_call s bs e (hx h)
  unfold exkS
  generalize rigX s e = b1 at *
  generalize nedS s e = R at *
  generalize covB picks R = b2 at *
  generalize picksE s picks = n1 at *
  refine fcall_intro (n := 31) Tryz.func26 (by kernel_rfl) rfl rfl rfl rfl rfl (by intro t T h; cases h) (fun hrd E h0 => ?_)
  clear hrd
  repeat' ((first | refine call_i h1 ?_ | refine call_i h2 ?_ | (refine call_i (h3 (by assumption)) ?_) | refine call_i h4 ?_ | (refine call_i (h5 (by assumption)) ?_) | (refine draw_q ?_ ?_; kernel_rfl) |refine aops_go ?_|refine awp_go ?_|refine guard_tt ?_|refine guard_ff ?_|refine guard_tf ?_|refine guard_ft ?_|refine cond_t ?_|refine cond_f ?_|refine Z1 ?_|refine Z2 ?_|refine stp ?_|(refine And.intro ?_ ?_<;>intro h<;>try first|(exfalso;omega)|exact absurd rfl h)|refine Z3 ?_|refine Z4 ?_|intro el hel hbB|intro el hel|intro ex|refine Z5 ?_|(refine free_i ?_ ?_;exact ⟨by kernel_rfl,by decide⟩)|refine allI_c ?_ ?_|exact allI_n|refine allMP_c ?_ ?_|exact allMP_n|(refine many_step ?_ ?_ ?_;kernel_rfl;kernel_rfl)) <;> (try (conv => whnf)))
  all_goals clear h1 h2 h3 h4 h5 hx
  all_goals first
    | (rw [if_pos (by assumption)]; exact ret_tmp2 rfl rfl rfl)
    | (rw [if_neg (by simp [*]), if_pos ⟨by omega, by assumption⟩]; exact ret_tmp2 rfl rfl rfl)
    | (rw [if_neg (by simp [*]), if_neg (by simp [*])]; exact ret_tmp2 rfl rfl rfl)
set_option maxHeartbeats 16000000 in
theorem rProgram_call (s : Sch) (hdr : Drawn s) (picks : List Pk) (l : List Stm) : FCall Tryz.prog 12 [sA s, .sl 2 (picks.map pkL), .sl 21 (l.map stmL)] (tup3K (typS s picks l)) := by
  have h1 := rpCheck_call s l
  have hok := proS_ok (s := s) (l := l)
  have hex := fun bs e => rexpr_call s hdr picks bs e
  unfold typS
  generalize proS s l = z at *
  obtain ⟨z1, z2⟩ := z
  dsimp only at h1 hok ⊢
  refine fcall_intro (n := 66) Tryz.func12 (by kernel_rfl) rfl rfl rfl rfl rfl (by intro t T h; cases h) (fun hrd E h0 => ?_)
  have hlen : l.length ≤ 9223372036854775807 := by
    have := (hrd (.sl 21 (l.map stmL)) (by simp)).sl
    simpa using this
  clear hrd
  repeat' ((first | refine call_i h1 ?_ |refine aops_go ?_|refine awp_go ?_|refine guard_tt ?_|refine guard_ff ?_|refine guard_tf ?_|refine guard_ft ?_|refine cond_t ?_|refine cond_f ?_|refine Z1 ?_|refine Z2 ?_|refine stp ?_|(refine And.intro ?_ ?_<;>intro h<;>try first|(exfalso;omega)|exact absurd rfl h)|refine Z3 ?_|refine Z4 ?_|intro el hel hbB|intro el hel|intro ex|refine Z5 ?_|(refine free_i ?_ ?_;exact ⟨by kernel_rfl,by decide⟩)|refine allI_c ?_ ?_|exact allI_n|refine allMP_c ?_ ?_|exact allMP_n|(refine many_step ?_ ?_ ?_;kernel_rfl;kernel_rfl)) <;> (try (conv => whnf)))
  all_goals first
    | (rw [if_neg (by omega)]; exact ret_vs (rs := [.tmp 6, .tmp 7, .tmp 8]) (vs := [.sl 1 [], .i z1, .i z2]) rfl ⟨⟨_, rfl, .nil 1⟩, ⟨_, rfl, .refl _⟩, ⟨_, rfl, .refl _⟩, trivial⟩ rfl)
    | skip
  have hz : z2 = 0 := by omega
  have h30 := hok hz
  rw [if_pos hz]
  clear h1 hok
  refine loop_i (ι := Nat × List Bnd) (fun x => ⟨[(1, .sl 2 (picks.map pkL)), (2, .sl 21 (l.map stmL)), (3, .iptr (sL s)), (11, .row 1 0 (x.2.map (·.kind)).length), (12, .row 2 0 x.2.length), (13, .i x.1)], 3, [(1, some (.row 3 1 0 ((x.2.map (·.kind)).map wA))), (2, some (.row 101 26 0 (x.2.map bndL)))]⟩) (fun x => (x.1 ≤ l.length ∧ x.2.length = x.1) ∧ typK s picks l [] 0 = typK s picks (l.drop x.1) x.2 x.1) (fun x => l.length - x.1) (0, []) ⟨⟨Nat.zero_le _, rfl⟩, rfl⟩
    (le_trans (le_adopt (d := 11) (e := 3) (sz := 1) rfl) (le_trans (le_adopt (d := 12) (e := 101) (sz := 26) rfl) (le_of h0 rfl ⟨rfl, rfl, rfl, rfl, rfl, rfl, trivial⟩ ⟨⟨0, rfl⟩, ⟨0, rfl⟩, trivial⟩ rfl rfl rfl))) (fun x hI => ?_)
  obtain ⟨k, bs⟩ := x
  obtain ⟨⟨hk, hb⟩, hI⟩ := hI
  dsimp only at hk hb hI ⊢
  rw [hI]
  by_cases hlt : k < l.length
  · obtain ⟨t, ht⟩ : ∃ t, l[k]? = some t := ⟨_, List.getElem?_eq_getElem hlt⟩
    have he := hex bs t.x
    rw [dropc ht, typK]
    have hkl : (bs.map (·.kind)).length ≤ 30 := by rw [List.length_map]; omega
    generalize exkS s picks bs t.x = w at *
    obtain ⟨w1, w2⟩ := w
    dsimp only at he ⊢
    have hmk : (bs ++ [(⟨t.name, w1⟩ : Bnd)]).map (·.kind) = bs.map (·.kind) ++ [w1] := by rw [List.map_append]; rfl
    generalize bs.map (·.kind) = A at *
    repeat' ((first | (refine each_knownm (x := t) ht (by omega) ?_) | refine ncall_lend [2] he rfl rfl rfl rfl rfl rfl ?_ | (refine draw_m (id := 9) ⟨[(1, .sl 2 (picks.map pkL)), (2, .sl 21 (l.map stmL)), (3, .iptr (sL s)), (11, .row 1 0 A.length), (12, .row 2 0 bs.length), (13, .i k), (14, .i w1), (15, .i w2)], 3, [(1, some (.row 3 1 0 (A.map wA))), (2, some (.row 101 26 0 (bs.map bndL)))]⟩ ?_ ?_) |refine aops_go ?_|refine awp_go ?_|refine guard_tt ?_|refine guard_ff ?_|refine guard_tf ?_|refine guard_ft ?_|refine cond_t ?_|refine cond_f ?_|refine Z1 ?_|refine Z2 ?_|refine stp ?_|(refine And.intro ?_ ?_<;>intro h<;>try first|(exfalso;omega)|exact absurd rfl h)|refine Z3 ?_|refine Z4 ?_|intro el hel hbB|intro el hel|intro ex|refine Z5 ?_|(refine free_i ?_ ?_;exact ⟨by kernel_rfl,by decide⟩)|refine allI_c ?_ ?_|exact allI_n|refine allMP_c ?_ ?_|exact allMP_n|(refine many_step ?_ ?_ ?_;kernel_rfl;kernel_rfl)) <;> (try (conv => whnf)))
    all_goals first
      | (exfalso; omega)
      | exact le_of h0 rfl ⟨rfl, rfl, rfl, rfl, rfl, rfl, rfl, rfl, trivial⟩ ⟨⟨_, rfl⟩, ⟨_, rfl⟩, trivial⟩ rfl rfl rfl
      | (rw [if_neg (by omega)]; exact ret_vs (rs := [.tmp 6, .tmp 7, .tmp 8]) (vs := [.sl 1 [], .i k, .i w2]) rfl ⟨⟨_, rfl, .nil 1⟩, ⟨_, rfl, .refl _⟩, ⟨_, rfl, .refl _⟩, trivial⟩ rfl)
      | (refine ⟨(k + 1, bs ++ [⟨t.name, w1⟩]), ⟨⟨by dsimp only; omega, by dsimp only; rw [List.length_append, hb]; rfl⟩, by dsimp only; rw [if_pos (by omega)]⟩, by dsimp only; omega, ?_⟩
         dsimp only
         rw [hmk]
         exact le_of h0 rfl ⟨rfl, rfl, rfl, congrArg (fun z : Nat => some (AV.row 1 0 z)) (by rw [List.length_append]; rfl), congrArg (fun z : Nat => some (AV.row 2 0 z)) (by rw [List.length_append]; rfl), rfl, trivial⟩ ⟨⟨_, congrArg (Blk.row 3 1 _) (by rw [List.map_append]; rfl)⟩, ⟨_, congrArg (Blk.row 101 26 _) (by rw [List.map_append]; rfl)⟩, trivial⟩ rfl rfl rfl)
  · obtain rfl : k = l.length := by omega
    rw [List.drop_length, typK]
    generalize bs.map (·.kind) = A at *
    repeat' ((first|refine aops_go ?_|refine awp_go ?_|refine guard_tt ?_|refine guard_ff ?_|refine guard_tf ?_|refine guard_ft ?_|refine cond_t ?_|refine cond_f ?_|refine Z1 ?_|refine Z2 ?_|refine stp ?_|(refine And.intro ?_ ?_<;>intro h<;>try first|(exfalso;omega)|exact absurd rfl h)|refine Z3 ?_|refine Z4 ?_|intro el hel hbB|intro el hel|intro ex|refine Z5 ?_|(refine free_i ?_ ?_;exact ⟨by kernel_rfl,by decide⟩)|refine allI_c ?_ ?_|exact allI_n|refine allMP_c ?_ ?_|exact allMP_n|(refine many_step ?_ ?_ ?_;kernel_rfl;kernel_rfl)) <;> (try (conv => whnf)))
    all_goals first
      | (exfalso; omega)
      | exact ret_tmp3 rfl rfl rfl rfl
end Go.Proofs.YtepdcljecfibpaaGreatDoor

/- Chapter 2: the least level, coarse values. Chapter 2: values turned to another level, picks. -/
import Derived.Test.YtepdcljecfibpaaGreatDoorQB7
namespace Go.Proofs.YtepdcljecfibpaaGreatDoor
open Go Go.Av
attribute [local irreducible] AWp AOps AAny MAny DQ retQ retG St.le FCall GCall
set_option linter.unusedVariables false
set_option linter.unnecessarySimpa false
set_option linter.unusedSimpArgs false
set_option maxRecDepth 100000
def leastK (s : Sch) (c : Col) : Nat → Nat
  | 0 => 0
  | k + 1 => if blkC s c k = blkC s c (k + 1 : Nat) then leastK s c k else k + 1
def leastS (s : Sch) (column level : Int) : Int := if level < 0 ∨ finestS s column < level then -1 else leastK s (colAt s column) level.toNat
theorem finestS_ok {s : Sch} {column level : Int} (h0 : 0 ≤ level) (h : level ≤ finestS s column) : schE s = 0 ∧ 1 ≤ column ∧ column < s.cols.length ∧ level ≤ finS s column := by
  unfold finestS at h
  by_cases hr : schE s = 0
  · rw [if_pos hr] at h
    refine ⟨hr, ?_, ?_, h⟩ <;>
    · unfold finS at h
      split at h <;> omega
  · rw [if_neg hr] at h; omega
theorem finS_bd {s : Sch} (h : schE s = 0) (column : Int) : finS s column ≤ 61 := by
  unfold finS
  split
  · omega
  · have hc : s.cols[column.toNat]? = some s.cols[column.toNat] := List.getElem?_eq_getElem (by omega)
    have hcr := col_right h (by omega) hc
    rw [colAt_get hc]
    generalize s.cols[column.toNat] = c at hcr
    unfold finC
    rcases hcr with hcr | hcr
    · rw [if_pos hcr.1]
      have hl : s.lists[c.lst.toNat]? = some (s.lists[c.lst.toNat]'(by omega)) := List.getElem?_eq_getElem (by omega)
      have hk := (schE_parts h).2.2.1 _ (List.mem_of_getElem? hl)
      rw [lstOf_get hl]
      have h1 := (chk_good hk).2.2
      have := levelsS_bd (nm := (s.lists[c.lst.toNat]'(by omega)).1) (cs := (s.lists[c.lst.toNat]'(by omega)).2) (by omega)
      omega
    · rw [if_neg (by omega)]; omega
theorem leastK_eq {s : Sch} {c : Col} {k : Nat} (h : 0 < (k : Int)) (he : blkC s c ((k : Int) - 1) = blkC s c k) : leastK s c k = leastK s c (k - 1) := by
  obtain ⟨k, rfl⟩ : ∃ j, k = j + 1 := ⟨k - 1, by omega⟩
  have e : ((k + 1 : Nat) : Int) - 1 = (k : Nat) := by omega
  rw [e] at he
  rw [leastK, if_pos he]; rfl
theorem leastK_ne {s : Sch} {c : Col} {k : Nat} (h : 0 < (k : Int)) (he : ¬ blkC s c ((k : Int) - 1) = blkC s c k) : leastK s c k = k := by
  obtain ⟨k, rfl⟩ : ∃ j, k = j + 1 := ⟨k - 1, by omega⟩
  have e : ((k + 1 : Nat) : Int) - 1 = (k : Nat) := by omega
  rw [e] at he
  rw [leastK, if_neg he]
set_option maxHeartbeats 4000000 in
theorem least_call (s : Sch) (column level : Int) : FCall Tryz.prog 102 [sA s, .i column, .i level] (.i (leastS s column level)) := by
  have hfin := finestS_call s column
  refine fcall_intro (n := 35) Tryz.func102 (by kernel_rfl) rfl rfl rfl rfl rfl (by intro t T h; cases h) (fun hrd E h0 => ?_)
  clear hrd
  repeat' ((first | refine call_i hfin ?_ |refine aops_go ?_|refine awp_go ?_|refine guard_tt ?_|refine guard_ff ?_|refine guard_tf ?_|refine guard_ft ?_|refine cond_t ?_|refine cond_f ?_|refine Z1 ?_|refine Z2 ?_|refine stp ?_|(refine And.intro ?_ ?_<;>intro h<;>try first|(exfalso;omega)|exact absurd rfl h)|refine Z3 ?_|refine Z4 ?_|intro el hel hbB|intro el hel|intro ex|refine Z5 ?_|(refine free_i ?_ ?_;exact ⟨by kernel_rfl,by decide⟩)|refine allI_c ?_ ?_|exact allI_n|refine allMP_c ?_ ?_|exact allMP_n|(refine many_step ?_ ?_ ?_;kernel_rfl;kernel_rfl)) <;> (try (conv => whnf)))
  all_goals first
    | (refine ret_tmp rfl (congrArg AV.i ?_); rw [leastS, if_pos (by omega)]; done)
    | skip
  obtain ⟨hr, h1, h2, h4⟩ := finestS_ok (s := s) (column := column) (level := level) (by omega) (by omega)
  rw [leastS, if_neg (by omega)]
  have hblk := fun (lv : Int) (h : 0 ≤ lv ∧ lv ≤ level) => blocks_call s column lv hr h1 h2 h.1 (by omega)
  obtain ⟨n, rfl⟩ := Int.eq_ofNat_of_zero_le (show 0 ≤ level by omega)
  rw [Int.toNat_natCast]
  generalize colAt s column = c at hblk ⊢
  have h61 := finS_bd hr column
  have hn61 : n ≤ 61 := by omega
  clear hfin h4 h61
  refine loop_i (ι := Nat) (fun k => ⟨[(1, .i column), (2, .i k), (3, .ref 0 0)], 1, [(0, some (.box (sL s)))]⟩) (fun k => k ≤ n ∧ leastK s c n = leastK s c k) (fun k => k) n ⟨Nat.le_refl _, rfl⟩ (le_of h0 rfl ⟨rfl, rfl, rfl, trivial⟩ ⟨rfl, trivial⟩ rfl rfl rfl) (fun k hI => ?_)
  obtain ⟨hk, hI⟩ := hI
  have hb1 := fun (h : 0 < (k : Int)) => hblk ((k : Int) - 1) (by omega)
  have hb2 := hblk k (by omega)
  clear hblk
  repeat' ((first | refine call_i (hb1 (by assumption)) ?_ | refine call_i hb2 ?_ | (refine draw_q ?_ ?_; kernel_rfl) |refine aops_go ?_|refine awp_go ?_|refine guard_tt ?_|refine guard_ff ?_|refine guard_tf ?_|refine guard_ft ?_|refine cond_t ?_|refine cond_f ?_|refine Z1 ?_|refine Z2 ?_|refine stp ?_|(refine And.intro ?_ ?_<;>intro h<;>try first|(exfalso;omega)|exact absurd rfl h)|refine Z3 ?_|refine Z4 ?_|intro el hel hbB|intro el hel|intro ex|refine Z5 ?_|(refine free_i ?_ ?_;exact ⟨by kernel_rfl,by decide⟩)|refine allI_c ?_ ?_|exact allI_n|refine allMP_c ?_ ?_|exact allMP_n|(refine many_step ?_ ?_ ?_;kernel_rfl;kernel_rfl)) <;> (try (conv => whnf)))
  all_goals first
    | exact ⟨k - 1, ⟨by omega, by rw [hI, leastK_eq (by assumption) (by assumption)]⟩, by omega, le_of h0 rfl ⟨rfl, congrArg (fun z : Int => some (AV.i z)) (by omega), rfl, trivial⟩ ⟨rfl, trivial⟩ rfl rfl rfl⟩
    | exact ret_tmp rfl (congrArg (fun z : Nat => AV.i (z : Int)) (by rw [hI, leastK_ne (by assumption) (by assumption)]))
    | (obtain rfl : k = 0 := by omega
       exact ret_tmp rfl (congrArg (fun z : Nat => AV.i (z : Int)) (by rw [hI]; rfl)))
def coaC (s : Sch) (c : Col) (level v : Int) : Int := if c.kind = 2 then (if holdB s c v = true then upS (lstOf s c).1 (lstOf s c).2 v level else -1) else if v ≠ (-1099511627776) ∧ (v < -1000000 ∨ 1000000 < v) then -1 else if level = 0 then 0 else if v = (-1099511627776) then (-1099511627776) else downS v (widthS c level)
def coaS (s : Sch) (column level v : Int) : Int := if level < 0 ∨ finestS s column < level then -1 else coaC s (colAt s column) level v
def spanS (c : Col) (level v : Int) : Int × Int × Bool :=
  if level = 0 then (c.low, c.high, decide (v = 0)) else if v < -2000000 ∨ 1000000 < v then (0, 0, false) else (max v c.low, min (v + widthS c level - 1) c.high, decide (downS v (widthS c level) = v) && decide (max v c.low ≤ min (v + widthS c level - 1) c.high))
def turnM (c : Col) (fr v to : Int) : Int × Bool :=
  if 0 < fr ∧ v = (-1099511627776) then (if to = 0 then (0, c.opt) else (v, c.opt)) else
    if (spanS c fr v).2.2 = false then (0, false) else if to = 0 then (0, true) else if fr = 0 ∧ c.opt = true then (0, false) else
      (downS (spanS c fr v).1 (widthS c to), decide (downS (spanS c fr v).1 (widthS c to) = downS (spanS c fr v).2.1 (widthS c to)))
def turnK (nm : List UInt8) (cs : List Code) (fr v to : Int) : List Nat → Int → Bool → Int × Bool
  | [], out, sm => (out, sm)
  | leaf :: r, out, sm => if upS nm cs leaf fr = v then (if sm = true ∧ upS nm cs leaf to ≠ out then (0, false) else turnK nm cs fr v to r (upS nm cs leaf to) true) else turnK nm cs fr v to r out sm
def turnC (nm : List UInt8) (cs : List Code) (fr v to : Int) : Int × Bool := turnK nm cs fr v to (atS nm cs (levelsS nm cs - 1)) 0 false
theorem atS_length (nm : List UInt8) (cs : List Code) (level : Int) : (atS nm cs level).length ≤ cs.length := by
  unfold atS
  split
  · exact atK_le _ _ _
  · simp
def turnedS (s : Sch) (column fr v to : Int) : Int × Bool :=
  if fr < 0 ∨ finS s column < fr ∨ to < 0 ∨ finS s column < to then (0, false) else
    if (if (colAt s column).kind = 2 then turnC (lstOf s (colAt s column)).1 (lstOf s (colAt s column)).2 fr v to else turnM (colAt s column) fr v to).2 = true then ((if (colAt s column).kind = 2 then turnC (lstOf s (colAt s column)).1 (lstOf s (colAt s column)).2 fr v to else turnM (colAt s column) fr v to).1, true) else (0, false)
def turnS (s : Sch) (column fr v to : Int) : Int × Bool := if schE s = 0 then turnedS s column fr v to else (0, false)
structure Pk where
  col : Int
  lev : Int
deriving DecidableEq
abbrev pkL (p : Pk) : List AV := [.i p.col, .i p.lev]
abbrev pkA (p : Pk) : AV := .agg (pkL p)
def pkE (s : Sch) (p : Pk) : Int := if finS s p.col < 0 then 7 else if p.lev < 0 ∨ finS s p.col < p.lev then 8 else 0
set_option maxHeartbeats 4000000 in
theorem pick_call (s : Sch) (p : Pk) (hr : schE s = 0) : FCall Tryz.prog 49 [sA s, pkA p] (.i (pkE s p)) := by
  have hfin := finest_call s p.col hr
  refine fcall_intro (n := 23) Tryz.func49 (by kernel_rfl) rfl rfl rfl rfl rfl (by intro t T h; cases h) (fun hrd E h0 => ?_)
  clear hrd
  repeat' ((first | refine call_i hfin ?_ |refine aops_go ?_|refine awp_go ?_|refine guard_tt ?_|refine guard_ff ?_|refine guard_tf ?_|refine guard_ft ?_|refine cond_t ?_|refine cond_f ?_|refine Z1 ?_|refine Z2 ?_|refine stp ?_|(refine And.intro ?_ ?_<;>intro h<;>try first|(exfalso;omega)|exact absurd rfl h)|refine Z3 ?_|refine Z4 ?_|intro el hel hbB|intro el hel|intro ex|refine Z5 ?_|(refine free_i ?_ ?_;exact ⟨by kernel_rfl,by decide⟩)|refine allI_c ?_ ?_|exact allI_n|refine allMP_c ?_ ?_|exact allMP_n|(refine many_step ?_ ?_ ?_;kernel_rfl;kernel_rfl)) <;> (try (conv => whnf)))
  all_goals first
    | (refine ret_tmp rfl (congrArg AV.i ?_); rw [pkE, if_pos (by assumption)]; done)
    | (refine ret_tmp rfl (congrArg AV.i ?_); rw [pkE, if_neg (by assumption), if_pos (by omega)]; done)
    | (refine ret_tmp rfl (congrArg AV.i ?_); rw [pkE, if_neg (by assumption), if_neg (by omega)]; done)
def pickE (s : Sch) (p : Pk) : Int := if schE s = 0 then pkE s p else schE s
set_option maxHeartbeats 4000000 in
theorem pickE_call (s : Sch) (p : Pk) : FCall Tryz.prog 158 [sA s, pkA p] (.i (pickE s p)) := by
  have hpk := fun hr => pick_call s p hr
  refine fcall_intro (n := 14) Tryz.func158 (by kernel_rfl) rfl rfl rfl rfl rfl (by intro t T h; cases h) (fun hrd E h0 => ?_)
  clear hrd
  repeat' ((first | refine call_i (scheck_call s) ?_ | refine call_i (hpk (Classical.byContradiction (by assumption))) ?_ |refine aops_go ?_|refine awp_go ?_|refine guard_tt ?_|refine guard_ff ?_|refine guard_tf ?_|refine guard_ft ?_|refine cond_t ?_|refine cond_f ?_|refine Z1 ?_|refine Z2 ?_|refine stp ?_|(refine And.intro ?_ ?_<;>intro h<;>try first|(exfalso;omega)|exact absurd rfl h)|refine Z3 ?_|refine Z4 ?_|intro el hel hbB|intro el hel|intro ex|refine Z5 ?_|(refine free_i ?_ ?_;exact ⟨by kernel_rfl,by decide⟩)|refine allI_c ?_ ?_|exact allI_n|refine allMP_c ?_ ?_|exact allMP_n|(refine many_step ?_ ?_ ?_;kernel_rfl;kernel_rfl)) <;> (try (conv => whnf)))
  all_goals first
    | (refine ret_tmp rfl (congrArg AV.i ?_); rw [pickE, if_neg (by assumption)]; done)
    | (refine ret_tmp rfl (congrArg AV.i ?_); rw [pickE, if_pos (Classical.byContradiction (by assumption))]; done)
def pksE (s : Sch) (l : List Pk) (k : Nat) (p : Pk) : Int := if pkE s p = 0 then (if 0 < k ∧ p.col ≤ (l.getD (k - 1) ⟨0, 0⟩).col then 10 else 0) else pkE s p
theorem pks_e {s : Sch} {l : List Pk} {k : Nat} {p : Pk} (h : ¬ pkE s p = 0) : pksE s l k p = pkE s p := by rw [pksE, if_neg h]
theorem pks_prev {l : List Pk} {k : Nat} {q : Pk} (h : 0 < (k : Int)) (hq : l[((k : Int) - 1).toNat]? = some q) : l.getD (k - 1) ⟨0, 0⟩ = q := getD_get (by rw [← hq]; congr 1; omega)
theorem pks_dup {s : Sch} {l : List Pk} {k : Nat} {p q : Pk} (h : ¬ pkE s p ≠ 0) (h0 : 0 < (k : Int)) (hq : l[((k : Int) - 1).toNat]? = some q) (hle : p.col ≤ q.col) : pksE s l k p = 10 := by
  rw [pksE, if_pos (Classical.byContradiction h), pks_prev h0 hq, if_pos ⟨by omega, hle⟩]
theorem pks_ok {s : Sch} {l : List Pk} {k : Nat} {p q : Pk} (h : ¬ pkE s p ≠ 0) (h0 : 0 < (k : Int)) (hq : l[((k : Int) - 1).toNat]? = some q) (hle : ¬ p.col ≤ q.col) : pksE s l k p = 0 := by
  rw [pksE, if_pos (Classical.byContradiction h), pks_prev h0 hq, if_neg (fun hx => hle hx.2)]
theorem pks_0 {s : Sch} {l : List Pk} {k : Nat} {p : Pk} (h : ¬ pkE s p ≠ 0) (h0 : ¬ 0 < (k : Int)) : pksE s l k p = 0 := by
  rw [pksE, if_pos (Classical.byContradiction h), if_neg (fun hx => by omega)]
def picksE (s : Sch) (l : List Pk) : Int := if schE s = 0 then firstE (pksE s l) 0 l else schE s
set_option maxHeartbeats 4000000 in
theorem picks_call (s : Sch) (l : List Pk) : FCall Tryz.prog 28 [sA s, .sl 2 (l.map pkL)] (.i (picksE s l)) := by
  have hpk := fun p hr => pick_call s p hr
  refine fcall_intro (n := 41) Tryz.func28 (by kernel_rfl) rfl rfl rfl rfl rfl (by intro t T h; cases h) (fun hrd E h0 => ?_)
  have hlen : l.length ≤ 9223372036854775807 := by have := (hrd (.sl 2 (l.map pkL)) (by simp)).sl; simpa using this
  clear hrd
  repeat' ((first | refine call_i (scheck_call s) ?_ |refine aops_go ?_|refine awp_go ?_|refine guard_tt ?_|refine guard_ff ?_|refine guard_tf ?_|refine guard_ft ?_|refine cond_t ?_|refine cond_f ?_|refine Z1 ?_|refine Z2 ?_|refine stp ?_|(refine And.intro ?_ ?_<;>intro h<;>try first|(exfalso;omega)|exact absurd rfl h)|refine Z3 ?_|refine Z4 ?_|intro el hel hbB|intro el hel|intro ex|refine Z5 ?_|(refine free_i ?_ ?_;exact ⟨by kernel_rfl,by decide⟩)|refine allI_c ?_ ?_|exact allI_n|refine allMP_c ?_ ?_|exact allMP_n|(refine many_step ?_ ?_ ?_;kernel_rfl;kernel_rfl)) <;> (try (conv => whnf)))
  all_goals first
    | (refine ret_tmp rfl (congrArg AV.i ?_); rw [picksE, if_neg (by assumption)]; done)
    | skip
  have hr : schE s = 0 := Classical.byContradiction (by assumption)
  rw [picksE, if_pos hr]
  refine loop_i (ι := Nat) (fun k => ⟨[(1, .sl 2 (l.map pkL)), (2, .ref 0 0), (14, .sl 2 (l.map pkL)), (15, .i l.length), (16, .i k)], 1, [(0, some (.box (sL s)))]⟩) (fun k => ErrAt (pksE s l) l k) (fun k => l.length - k) 0 (ErrAt.zero _ _) (le_of h0 rfl ⟨rfl, rfl, rfl, rfl, rfl, trivial⟩ ⟨rfl, trivial⟩ rfl rfl rfl) (fun k hI => ?_)
  have hk := hI.1
  repeat' ((first | refine call_i (hpk _ hr) ?_ | (refine draw_q ?_ ?_; kernel_rfl) |refine aops_go ?_|refine awp_go ?_|refine guard_tt ?_|refine guard_ff ?_|refine guard_tf ?_|refine guard_ft ?_|refine cond_t ?_|refine cond_f ?_|refine Z1 ?_|refine Z2 ?_|refine stp ?_|(refine And.intro ?_ ?_<;>intro h<;>try first|(exfalso;omega)|exact absurd rfl h)|refine Z3 ?_|refine Z4 ?_|intro el hel hbB|intro el hel|intro ex|refine Z5 ?_|(refine free_i ?_ ?_;exact ⟨by kernel_rfl,by decide⟩)|refine allI_c ?_ ?_|exact allI_n|refine allMP_c ?_ ?_|exact allMP_n|(refine many_step ?_ ?_ ?_;kernel_rfl;kernel_rfl)) <;> (try (conv => whnf)))
  all_goals first
    | exact ret_tmp rfl (congrArg AV.i (by rw [← hI.hit hel (by rw [pks_e h]; exact h), pks_e h]))
    | exact ret_tmp rfl (congrArg AV.i (by have e := pks_dup (by assumption) (by assumption) hel h; rw [← hI.hit (by assumption) (by rw [e]; decide), e]))
    | exact ⟨k + 1, hI.step (by assumption) (pks_ok (by assumption) (by assumption) hel h), by omega, le_of h0 rfl ⟨rfl, rfl, rfl, rfl, rfl, trivial⟩ ⟨rfl, trivial⟩ rfl rfl rfl⟩
    | exact ⟨k + 1, hI.step hel (pks_0 (by assumption) (by assumption)), by omega, le_of h0 rfl ⟨rfl, rfl, rfl, rfl, rfl, trivial⟩ ⟨rfl, trivial⟩ rfl rfl rfl⟩
    | exact ret_tmp rfl (congrArg AV.i (hI.done (by assumption)).symm)
end Go.Proofs.YtepdcljecfibpaaGreatDoor

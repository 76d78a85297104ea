/- Chapter 2: what a row can have, by the reference. Chapter 2: the reference's turned values are the program's. -/
import Derived.Test.YtleodngfheedbaaGreatDoorB10
namespace Go.Proofs.YtleodngfheedbaaGreatDoor
open Go Go.Av
attribute [local irreducible] AWp AOps AAny MAny DQ retQ retG St.le FCall GCall
set_option linter.unusedVariables false
set_option linter.unnecessarySimpa false
set_option linter.unusedSimpArgs false
set_option maxRecDepth 100000

/-- A leaf's coarse value is what it goes up to. -/
theorem coa_leaf {s : Sch} {column level : Int} {c : Col} (hr : schE s = 0) (h1 : 1 ≤ column) (hc : s.cols[column.toNat]? = some c) (hk : c.kind = 2) (h3 : 0 ≤ level) (h4 : level ≤ finestS s column) {x : Nat} (hx : x ∈ lvsS s column) :
    coaS s column level x = upS (lstOf s c).1 (lstOf s c).2 x level ∧ 0 ≤ upS (lstOf s c).1 (lstOf s c).2 x level := by
  have hca := colAt_get hc
  rw [lvsS, hca] at hx
  obtain ⟨hchk, hxl, hd⟩ := mem_atS hx
  have hxh : hasB (lstOf s c).1 (lstOf s c).2 x = true := hasB_iff.2 ⟨by omega, by omega, hchk⟩
  have hhold : holdB s c x = true := by
    have e1 : levelS (lstOf s c).1 (lstOf s c).2 x = levelsS (lstOf s c).1 (lstOf s c).2 - 1 := by
      rw [← hd]; exact (levelS_yes (code := (x : Int)) ⟨by omega, by omega, hchk⟩).symm
    rw [holdB, if_neg (by omega), if_pos hk, (leaf_level hchk hxl).1 e1, decide_eq_true (by omega)]
    rfl
  have hfin : finestS s column = levelsS (lstOf s c).1 (lstOf s c).2 - 1 := by
    have := lt_of_get hc
    rw [finestS, if_pos hr, finS, if_neg (by omega), hca, finC, if_pos hk]
  refine ⟨by rw [coaS, if_neg (by omega), hca, coaC, if_pos hk, if_pos hhold], ?_⟩
  rw [upS, if_pos ⟨hxh, h3, by rw [Int.toNat_natCast]; omega⟩]
  omega

def canB (s : Sch) (column level v : Int) : Bool :=
  if 0 ≤ level ∧ level ≤ finestS s column then (if (colAt s column).kind = 2 then (lvsS s column).any (fun x => decide (coaS s column level x = v)) else if 0 < level ∧ v = (-1099511627776) then (colAt s column).opt else (blockS (colAt s column) level v).2.2) else false
set_option maxHeartbeats 4000000 in
theorem rpick_call (s : Sch) (p : Pk) : FCall Tryz.prog 87 [sA s, pkA p] (.i (pickE s p)) := by
  have hfin := rfinest_call s p.col
  have hin := in_call p.lev 0 (finestS s p.col)
  refine fcall_intro (n := 30) Tryz.func87 (by kernel_rfl) rfl rfl rfl rfl rfl (by intro t T h; cases h) (fun hrd E h0 => ?_)
  obtain ⟨hl1, hl2, hl3⟩ := rd_lists (s := s) (hrd _ (by simp))
  clear hrd
  repeat' ((first | refine call_i (rscheck_call s) ?_ | refine call_i hfin ?_ | refine call_i hin ?_ | (refine draw_q ?_ ?_; kernel_rfl) |refine aops_go ?_|refine awp_go ?_|refine guard_tt ?_|refine guard_ff ?_|refine guard_tf ?_|refine guard_ft ?_|refine cond_t ?_|refine cond_f ?_|refine Z1 ?_|refine Z2 ?_|refine stp ?_|(refine And.intro ?_ ?_<;>intro h<;>try first|(exfalso;omega)|exact absurd rfl h)|refine Z3 ?_|refine Z4 ?_|intro el hel hbB|intro el hel|intro ex|refine Z5 ?_|(refine free_i ?_ ?_;exact ⟨by kernel_rfl,by decide⟩)|refine allI_c ?_ ?_|exact allI_n|refine allMP_c ?_ ?_|exact allMP_n|(refine many_step ?_ ?_ ?_;kernel_rfl;kernel_rfl)) <;> (try (conv => whnf)))
  all_goals first
    | exact ret_tmp rfl (congrArg AV.i (by rw [pickE, if_neg (by assumption)]))
    | skip
  all_goals
    have hr : schE s = 0 := Classical.byContradiction (by assumption)
    rw [pickE, if_pos hr, pkE]
    have e : finestS s p.col = finS s p.col := by rw [finestS, if_pos hr]
    refine ret_tmp rfl (congrArg AV.i ?_)
  all_goals first
    | (rw [if_pos (by unfold finS; rw [if_pos (by omega)]; decide)]; done)
    | (have hnn : 0 ≤ finS s p.col := by
         have := finS_nn hr (column := p.col) (by omega) (by omega)
         exact this
       first
         | (rw [if_neg (by omega), if_pos (by omega)]; done)
         | (rw [if_neg (by omega), if_neg (by omega)]; done))
    | trace_state

set_option maxHeartbeats 4000000 in
theorem rpicks_call (s : Sch) (l : List Pk) : FCall Tryz.prog 47 [sA s, .sl 2 (l.map pkL)] (.i (picksE s l)) := by
  have hpk := fun p => rpick_call s p
  refine fcall_intro (n := 44) Tryz.func47 (by kernel_rfl) rfl rfl rfl rfl rfl (by intro t T h; cases h) (fun hrd E h0 => ?_)
  have hlen : l.length ≤ 9223372036854775807 := by have := (hrd (.sl 2 (l.map pkL)) (by simp)).sl; simpa using this
  clear hrd
  repeat' ((first | refine call_i (rscheck_call s) ?_ |refine aops_go ?_|refine awp_go ?_|refine guard_tt ?_|refine guard_ff ?_|refine guard_tf ?_|refine guard_ft ?_|refine cond_t ?_|refine cond_f ?_|refine Z1 ?_|refine Z2 ?_|refine stp ?_|(refine And.intro ?_ ?_<;>intro h<;>try first|(exfalso;omega)|exact absurd rfl h)|refine Z3 ?_|refine Z4 ?_|intro el hel hbB|intro el hel|intro ex|refine Z5 ?_|(refine free_i ?_ ?_;exact ⟨by kernel_rfl,by decide⟩)|refine allI_c ?_ ?_|exact allI_n|refine allMP_c ?_ ?_|exact allMP_n|(refine many_step ?_ ?_ ?_;kernel_rfl;kernel_rfl)) <;> (try (conv => whnf)))
  all_goals first
    | (refine ret_tmp rfl (congrArg AV.i ?_); rw [picksE, if_neg (by assumption)]; done)
    | skip
  have hr : schE s = 0 := Classical.byContradiction (by assumption)
  have hpe : ∀ p, pickE s p = pkE s p := fun p => by rw [pickE, if_pos hr]
  rw [picksE, if_pos hr]
  refine loop_i (ι := Nat) (fun k => ⟨[(1, .sl 2 (l.map pkL)), (2, .ref 0 0), (6, .i k)], 1, [(0, some (.box (sL s)))]⟩) (fun k => ErrAt (pksE s l) l k) (fun k => l.length - k) 0 (ErrAt.zero _ _) (le_of h0 rfl ⟨rfl, rfl, rfl, trivial⟩ ⟨rfl, trivial⟩ rfl rfl rfl) (fun k hI => ?_)
  have hk := hI.1
  simp only [hpe] at hpk
  repeat' ((first | refine call_i (hpk _) ?_ | (refine draw_q ?_ ?_; kernel_rfl) |refine aops_go ?_|refine awp_go ?_|refine guard_tt ?_|refine guard_ff ?_|refine guard_tf ?_|refine guard_ft ?_|refine cond_t ?_|refine cond_f ?_|refine Z1 ?_|refine Z2 ?_|refine stp ?_|(refine And.intro ?_ ?_<;>intro h<;>try first|(exfalso;omega)|exact absurd rfl h)|refine Z3 ?_|refine Z4 ?_|intro el hel hbB|intro el hel|intro ex|refine Z5 ?_|(refine free_i ?_ ?_;exact ⟨by kernel_rfl,by decide⟩)|refine allI_c ?_ ?_|exact allI_n|refine allMP_c ?_ ?_|exact allMP_n|(refine many_step ?_ ?_ ?_;kernel_rfl;kernel_rfl)) <;> (try (conv => whnf)))
  all_goals first
    | exact ret_tmp rfl (congrArg AV.i (by rw [← hI.hit hel (by rw [pks_e h]; exact h), pks_e h]))
    | exact ret_tmp rfl (congrArg AV.i (by have e := pks_dup (by assumption) (by assumption) hel h; rw [← hI.hit (by assumption) (by rw [e]; decide), e]))
    | exact ⟨k + 1, hI.step (by assumption) (pks_ok (by assumption) (by assumption) hel h), by omega, le_of h0 rfl ⟨rfl, rfl, rfl, trivial⟩ ⟨rfl, trivial⟩ rfl rfl rfl⟩
    | exact ⟨k + 1, hI.step hel (pks_0 (by assumption) (by assumption)), by omega, le_of h0 rfl ⟨rfl, rfl, rfl, trivial⟩ ⟨rfl, trivial⟩ rfl rfl rfl⟩
    | exact ret_tmp rfl (congrArg AV.i (hI.done (by assumption)).symm)
    | trace_state

/-! ### Values turned to another level -/
def rK (s : Sch) (column fr v to : Int) : List Nat → Int → Int × Bool
  | [], out => (out, true)
  | x :: r, out => if coaS s column fr x = v then (if 0 ≤ out ∧ coaS s column to x ≠ out then (0, false) else rK s column fr v to r (coaS s column to x)) else rK s column fr v to r out
def rturnS (s : Sch) (column fr v to : Int) : Int × Bool :=
  if canB s column fr v = false ∨ to < 0 ∨ finestS s column < to then (0, false) else
    if (colAt s column).kind = 2 then rK s column fr v to (lvsS s column) (-1) else if to = 0 then (0, true) else if 0 < fr ∧ v = (-1099511627776) then ((-1099511627776), true) else if fr = 0 ∧ (colAt s column).opt = true then (0, false) else
      if coaS s column to (blockS (colAt s column) fr v).1 = coaS s column to (blockS (colAt s column) fr v).2.1 then (coaS s column to (blockS (colAt s column) fr v).1, true) else (0, false)
end Go.Proofs.YtleodngfheedbaaGreatDoor

namespace Go.Proofs.YtleodngfheedbaaGreatDoor
open Go Go.Av
attribute [local irreducible] AWp AOps AAny MAny DQ retQ retG St.le FCall GCall
set_option linter.unusedVariables false
set_option linter.unnecessarySimpa false
set_option linter.unusedSimpArgs false
set_option maxRecDepth 100000

theorem canB_in {s : Sch} {column level v : Int} (h : canB s column level v = true) : 0 ≤ level ∧ level ≤ finestS s column := by
  unfold canB at h
  split at h
  · assumption
  · cases h
def normT (p : Int × Bool) : Int × Bool := if p.2 = true then (p.1, true) else (0, false)
theorem rK_turnK {s : Sch} {column fr v to : Int} {nm : List UInt8} {cs : List Code} : ∀ (L : List Nat) (out out' : Int) (sm : Bool), (∀ x ∈ L, coaS s column fr x = upS nm cs x fr ∧ coaS s column to x = upS nm cs x to ∧ 0 ≤ upS nm cs x to) →
    ((sm = true ∧ 0 ≤ out ∧ out' = out) ∨ (sm = false ∧ out' = -1 ∧ L.any (fun x => decide (coaS s column fr x = v)) = true)) → rK s column fr v to L out' = normT (turnK nm cs fr v to L out sm)
  | [], out, out', sm, _, h => by
    rcases h with ⟨rfl, h1, rfl⟩ | ⟨_, _, h⟩
    · rfl
    · cases h
  | x :: r, out, out', sm, hall, h => by
    obtain ⟨e1, e2, e3⟩ := hall x (by simp)
    have hall' := fun y (hy : y ∈ r) => hall y (by simp [hy])
    unfold rK turnK
    rw [e1, e2]
    by_cases hx : upS nm cs x fr = v
    · rw [if_pos hx, if_pos hx]
      rcases h with ⟨rfl, h1, rfl⟩ | ⟨rfl, rfl, _⟩
      · by_cases hne : upS nm cs x to ≠ out'
        · rw [if_pos ⟨h1, hne⟩, if_pos ⟨rfl, hne⟩]; rfl
        · rw [if_neg (fun h => hne h.2), if_neg (fun h => hne h.2)]
          exact rK_turnK r _ _ true hall' (.inl ⟨rfl, e3, rfl⟩)
      · rw [if_neg (by omega), if_neg (by simp)]
        exact rK_turnK r _ _ true hall' (.inl ⟨rfl, e3, rfl⟩)
    · rw [if_neg hx, if_neg hx]
      refine rK_turnK r out out' sm hall' ?_
      rcases h with h | ⟨h1, h2, h3⟩
      · exact .inl h
      · refine .inr ⟨h1, h2, ?_⟩
        rw [List.any_cons, e1, decide_eq_false hx, Bool.false_or] at h3
        exact h3
theorem turnK_none {s : Sch} {column fr v to : Int} {nm : List UInt8} {cs : List Code} : ∀ (L : List Nat) (out : Int), (∀ x ∈ L, coaS s column fr x = upS nm cs x fr) → L.any (fun x => decide (coaS s column fr x = v)) = false → turnK nm cs fr v to L out false = (out, false)
  | [], out, _, _ => rfl
  | x :: r, out, hall, h => by
    rw [List.any_cons, Bool.or_eq_false_iff, hall x (by simp), decide_eq_false_iff_not] at h
    unfold turnK
    rw [if_neg h.1]
    exact turnK_none r out (fun y hy => hall y (by simp [hy])) h.2

theorem span_block {c : Col} {level v : Int} (hc : meaE c = 0) (h1 : 0 ≤ level) (h2 : level ≤ c.widths.length) (hm : ¬ (0 < level ∧ v = (-1099511627776))) :
    (spanS c level v).2.2 = (blockS c level v).2.2 ∧ ((blockS c level v).2.2 = true → (spanS c level v).1 = (blockS c level v).1 ∧ (spanS c level v).2.1 = (blockS c level v).2.1 ∧ c.low ≤ (blockS c level v).1 ∧ (blockS c level v).1 ≤ (blockS c level v).2.1 ∧ (blockS c level v).2.1 ≤ c.high) := by
  have hp := meaE_parts hc
  unfold spanS blockS
  by_cases h0 : level = 0
  · rw [if_pos h0, if_pos h0]
    exact ⟨rfl, fun _ => ⟨rfl, rfl, by dsimp only; omega, by dsimp only; omega, by dsimp only; omega⟩⟩
  · rw [if_neg h0, if_neg h0]
    have hwb := widthS_bd hp.2.2.2.2.2 (level := level) (by omega) h2
    have ht := tmod_zero (v := v) hwb.1
    generalize widthS c level = w at *
    by_cases h3 : v < -2000000 ∨ 1000000 < v
    · rw [if_pos h3]
      by_cases h4 : v = (-1099511627776) ∨ ¬ (-2000000 ≤ v ∧ v ≤ 2000000) ∨ v.tmod w ≠ 0
      · rw [if_pos h4]; exact ⟨rfl, fun h => by cases h⟩
      · rw [if_neg h4]
        have : ¬ max c.low v ≤ min c.high (v + w - 1) := by omega
        rw [decide_eq_false this]
        exact ⟨rfl, fun h => by cases h⟩
    · rw [if_neg h3]
      by_cases h4 : downS v w = v
      · rw [if_neg (by have := ht.2 h4; omega), decide_eq_true h4]
        have e1 : max v c.low = max c.low v := by omega
        have e2 : min (v + w - 1) c.high = min c.high (v + w - 1) := by omega
        rw [e1, e2]
        dsimp only
        rw [Bool.true_and]
        refine ⟨by first | rfl | trivial, fun h => ?_⟩
        have h := of_decide_eq_true h
        (repeat' constructor) <;> first | rfl | omega
      · rw [if_pos (.inr (.inr (fun h => h4 (ht.1 h)))), decide_eq_false h4]
        exact ⟨rfl, fun h => by cases h⟩

theorem rturn_eq (s : Sch) (column fr v to : Int) : rturnS s column fr v to = turnS s column fr v to := by
  unfold rturnS turnS
  by_cases hr : schE s = 0
  · have hfs : finestS s column = finS s column := by rw [finestS, if_pos hr]
    rw [if_pos hr]
    unfold turnedS
    by_cases hb : fr < 0 ∨ finS s column < fr ∨ to < 0 ∨ finS s column < to
    · rw [if_pos hb]
      have : canB s column fr v = false ∨ to < 0 ∨ finestS s column < to := by
        rw [hfs]
        by_cases h1 : to < 0 ∨ finS s column < to
        · exact .inr h1
        · left
          rw [canB, if_neg (by omega)]
      rw [if_pos this]
    · rw [if_neg hb]
      obtain ⟨_, h1, h2, h4⟩ := finestS_ok (s := s) (column := column) (level := fr) (by omega) (by omega)
      obtain ⟨c, hc⟩ : ∃ c, s.cols[column.toNat]? = some c := ⟨_, List.getElem?_eq_getElem (by omega)⟩
      have hca := colAt_get hc
      have hcr := col_right hr h1 hc
      have hcan : canB s column fr v = if c.kind = 2 then (lvsS s column).any (fun x => decide (coaS s column fr x = v)) else if 0 < fr ∧ v = (-1099511627776) then c.opt else (blockS c fr v).2.2 := by
        rw [canB, if_pos (by omega), hca]
      rw [hca]
      by_cases hk : c.kind = 2
      · rw [if_pos hk] at hcan
        rw [if_pos hk, if_pos hk]
        have hall : ∀ x ∈ lvsS s column, coaS s column fr x = upS (lstOf s c).1 (lstOf s c).2 x fr ∧ coaS s column to x = upS (lstOf s c).1 (lstOf s c).2 x to ∧ 0 ≤ upS (lstOf s c).1 (lstOf s c).2 x to := fun x hx =>
          ⟨(coa_leaf hr h1 hc hk (by omega) (by omega) hx).1, coa_leaf hr h1 hc hk (by omega) (by omega) hx⟩
        have hlv : lvsS s column = atS (lstOf s c).1 (lstOf s c).2 (levelsS (lstOf s c).1 (lstOf s c).2 - 1) := by rw [lvsS, hca]
        unfold turnC
        rw [← hlv]
        cases hcb : canB s column fr v with
        | false =>
          rw [if_pos (.inl rfl), turnK_none (s := s) (column := column) _ _ (fun x hx => (hall x hx).1) (hcan ▸ hcb)]
          rfl
        | true =>
          rw [if_neg (fun hx => by rcases hx with hx | hx; cases hx; omega)]
          exact rK_turnK _ 0 (-1) false hall (.inr ⟨rfl, rfl, hcan ▸ hcb⟩)
      · rw [if_neg hk] at hcan
        have hm : meaE c = 0 := kindE_mea (colE_parts ((schE_parts hr).2.2.2.1 _ c hc)).2.2.1 (by omega)
        have hp := meaE_parts hm
        have h9 : finS s column = c.widths.length := by rw [finS, if_neg (by omega), hca, finC, if_neg hk]
        rw [if_neg hk, if_neg hk]
        unfold turnM
        by_cases hx : 0 < fr ∧ v = (-1099511627776)
        · rw [if_pos hx] at hcan ⊢
          rw [if_pos hx]
          cases ho : c.opt with
          | false =>
            rw [hcan, ho, if_pos (.inl rfl)]
            split <;> rfl
          | true =>
            rw [hcan, ho, if_neg (fun hx => by rcases hx with hx | hx; cases hx; omega)]
            by_cases ht : to = 0
            · rw [if_pos ht, if_pos ht]; rfl
            · rw [if_neg ht, if_neg ht, hx.2]; rfl
        · rw [if_neg hx] at hcan ⊢
          rw [if_neg hx]
          obtain ⟨e1, e2⟩ := span_block (v := v) hm (level := fr) (by omega) (by omega) hx
          cases hb : (blockS c fr v).2.2 with
          | false =>
            rw [hcan, hb, if_pos (.inl rfl), e1, hb, if_pos rfl]; rfl
          | true =>
            obtain ⟨e3, e4, e5, e6, e7⟩ := e2 hb
            rw [hcan, hb, if_neg (fun hx => by rcases hx with hx | hx; cases hx; omega), e1, hb, if_neg (show ¬ (true = false) by decide)]
            by_cases ht : to = 0
            · rw [if_pos ht, if_pos ht]; rfl
            · rw [if_neg ht, if_neg ht]
              by_cases hf : fr = 0 ∧ c.opt = true
              · rw [if_pos hf, if_pos hf]; rfl
              · rw [if_neg hf, if_neg hf, e3, e4]
                have hco : ∀ x, c.low ≤ x → x ≤ c.high → coaS s column to x = downS x (widthS c to) := fun x h5 h6 => by
                  rw [coaS, if_neg (by omega), hca, coaC, if_neg hk, if_neg (by omega), if_neg ht, if_neg (by omega)]
                rw [hco _ e5 (by omega), hco _ (by omega) e7]
                by_cases hd : downS (blockS c fr v).1 (widthS c to) = downS (blockS c fr v).2.1 (widthS c to)
                · rw [if_pos hd, decide_eq_true hd]; rfl
                · rw [if_neg hd, decide_eq_false hd]; rfl
  · rw [if_neg hr, if_pos]
    left
    have : finestS s column = -1 := by rw [finestS, if_neg hr]
    rw [canB, if_neg (by omega)]
end Go.Proofs.YtleodngfheedbaaGreatDoor

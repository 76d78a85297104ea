/- Chapter 5: which level suffices for a condition about one column. -/
import Derived.Test.YtghlhejdfgkjaaaGreatDoorCm2
import Derived.Test.YtghlhejdfgkjaaaGreatDoorSx
namespace Go.Proofs.YtghlhejdfgkjaaaGreatDoor
open Go Go.Av
attribute [local irreducible] AWp AOps AAny MAny DQ retQ retG St.le FCall GCall
set_option linter.unusedVariables false
set_option linter.unnecessarySimpa false
set_option linter.unusedSimpArgs false
set_option maxRecDepth 100000

theorem cwidth_call (c : Col) (level : Int) (h1 : 1 ≤ level) (h2 : level ≤ c.widths.length) : FCall Tryz.prog 122 [colA c, .i level] (.i (widthS c level)) := by
  refine fcall_intro (n := 14) Tryz.func122 (by kernel_rfl) rfl rfl rfl rfl rfl (by intro t T h; cases h) (fun hrd E h0 => ?_)
  have hlen : c.widths.length ≤ 9223372036854775807 := by
    have := ((hrd (colA c) (by simp)).agg (.sl 1 (c.widths.map wA)) (by simp)).sl
    simpa using this
  clear hrd
  repeat' ((first|refine aops_go ?_|refine awp_go ?_|refine guard_tt ?_|refine guard_ff ?_|refine guard_tf ?_|refine guard_ft ?_|refine cond_t ?_|refine cond_f ?_|refine Z1 ?_|refine Z2 ?_|refine stp ?_|(refine And.intro ?_ ?_<;>intro h<;>try first|(exfalso;omega)|exact absurd rfl h)|refine Z3 ?_|refine Z4 ?_|intro el hel hbB|intro el hel|intro ex|refine Z5 ?_|(refine free_i ?_ ?_;exact ⟨by kernel_rfl,by decide⟩)|refine allI_c ?_ ?_|exact allI_n|refine allMP_c ?_ ?_|exact allMP_n|(refine many_step ?_ ?_ ?_;kernel_rfl;kernel_rfl)) <;> (try (conv => whnf)))
  all_goals exact ret_tmp rfl (congrArg AV.i (getD_get hel).symm)
theorem cdown_call (n w : Int) (hw : 1 ≤ w) (hw2 : w ≤ 1000000) (h1 : -4000000000000 ≤ n) (h2 : n ≤ 4000000000000) : FCall Tryz.prog 123 [.i n, .i w] (.i (downS n w)) := by
  refine fcall_intro (n := 17) Tryz.func123 (by kernel_rfl) rfl rfl rfl rfl rfl (by intro t T h; cases h) (fun hrd E h0 => ?_)
  have hm := mod_cases n hw
  have hb := tmod_bd n hw
  clear hrd
  repeat' ((first|refine aops_go ?_|refine awp_go ?_|refine guard_tt ?_|refine guard_ff ?_|refine guard_tf ?_|refine guard_ft ?_|refine cond_t ?_|refine cond_f ?_|refine Z1 ?_|refine Z2 ?_|refine stp ?_|(refine And.intro ?_ ?_<;>intro h<;>try first|(exfalso;omega)|exact absurd rfl h)|refine Z3 ?_|refine Z4 ?_|intro el hel hbB|intro el hel|intro ex|refine Z5 ?_|(refine free_i ?_ ?_;exact ⟨by kernel_rfl,by decide⟩)|refine allI_c ?_ ?_|exact allI_n|refine allMP_c ?_ ?_|exact allMP_n|(refine many_step ?_ ?_ ?_;kernel_rfl;kernel_rfl)) <;> (try (conv => whnf)))
  all_goals first
    | (refine ret_tmp rfl (congrArg AV.i ?_); unfold downS; omega)
    | trace_state
/-- What is known of the column of a condition about one column. -/
theorem atom_col {s : Sch} (hr : schE s = 0) {a : Cnd} (ha : conE s a = 0) (ho : a.op = 2 ∨ a.op = 3 ∨ a.op = 4) : ∃ x, s.cols[a.col.toNat]? = some x ∧ 1 ≤ a.col ∧ a.col < s.cols.length ∧ (a.op = 2 → x.kind = 2 ∧ 0 ≤ x.lst ∧ x.lst < s.lists.length ∧ finS s a.col = levelsS (lstOf s x).1 (lstOf s x).2 - 1) ∧ (a.op ≠ 2 → x.kind = 3 ∧ meaE x = 0 ∧ finS s a.col = x.widths.length) ∧ (a.op = 3 → a.lo ≤ a.hi ∧ -1000000 ≤ a.lo ∧ a.hi ≤ 1000000) ∧ (a.op = 4 → x.opt = true) := by
  obtain ⟨p1, p2, p3, p4, p5, p6⟩ := conE_parts ha
  have hc := p3 ho
  obtain ⟨x, hx⟩ : ∃ x, s.cols[a.col.toNat]? = some x := ⟨_, List.getElem?_eq_getElem (by omega)⟩
  have hxa := colAt_get hx
  rw [hxa] at p4 p5 p6
  have hkind : x.kind ≠ 1 := by
    intro h
    rcases ho with h2 | h2 | h2
    · have := (p4 h2).1; omega
    · have := (p5 h2).1; omega
    · have := (p6 h2).1; omega
  have h1 : 1 ≤ a.col := by
    by_cases h : a.col = 0
    · obtain ⟨_, _, _, _, h5⟩ := schE_parts hr
      rw [h] at hx
      have : s.cols.head? = some x := by rw [← hx]; cases s.cols <;> rfl
      rw [this] at h5
      simp only [Option.map_some, Option.some.injEq] at h5
      exact absurd h5 hkind
    · omega
  have hf : finS s a.col = finC s x := by
    unfold finS
    rw [if_neg (by omega), hxa]
  refine ⟨x, hx, h1, hc.2, fun h2 => ?_, fun h2 => ?_, fun h3 => ?_, fun h4 => (p6 h4).2⟩
  · have hk := (p4 h2).1
    have hl := RightS.lst hr (List.mem_of_getElem? hx) hk
    exact ⟨hk, hl.1, hl.2, by rw [hf, finC, if_pos hk]⟩
  · have hk : x.kind = 3 := by
      rcases ho with h | h | h
      · exact absurd h h2
      · exact (p5 h).1
      · exact (p6 h).1
    obtain ⟨_, _, _, h4, _⟩ := schE_parts hr
    exact ⟨hk, kindE_mea (colE_parts (h4 _ _ hx)).2.2.1 hk, by rw [hf, finC, if_neg (by omega)]⟩
  · exact (p5 h3).2

theorem sufM_0 {a : Cnd} {x : Col} (h1 : x.low ≤ x.high) (h2 : a.lo ≤ a.hi) : sufM a x 0 ↔ x.opt = false ∧ (min a.hi x.high < max a.lo x.low ∨ (max a.lo x.low = x.low ∧ min a.hi x.high = x.high)) := by
  unfold sufM
  rw [if_pos rfl]
  constructor
  · intro h; exact ⟨h.1, by omega⟩
  · intro h; exact ⟨h.1, by omega, by omega⟩
theorem sufM_1 {a : Cnd} {x : Col} {level : Int} (h1 : x.low ≤ x.high) (h2 : a.lo ≤ a.hi) (h0 : ¬ level = 0) (hw : 1 ≤ widthS x level) : sufM a x level ↔ min a.hi x.high < max a.lo x.low ∨ ((max a.lo x.low = x.low ∨ downS (max a.lo x.low) (widthS x level) = max a.lo x.low) ∧ (min a.hi x.high = x.high ∨ downS (min a.hi x.high + 1) (widthS x level) = min a.hi x.high + 1)) := by
  unfold sufM
  rw [if_neg h0]
  have t1 := tmod_zero (v := a.lo) hw
  have t2 := tmod_zero (v := a.hi + 1) hw
  generalize widthS x level = w at *
  by_cases hlo : x.low < a.lo
  · have e1 : max a.lo x.low = a.lo := by omega
    rw [e1, t1]
    by_cases hhi : a.hi < x.high
    · have e2 : min a.hi x.high = a.hi := by omega
      rw [e2, t2]
      omega
    · have e2 : min a.hi x.high = x.high := by omega
      rw [e2]
      omega
  · have e1 : max a.lo x.low = x.low := by omega
    rw [e1]
    by_cases hhi : a.hi < x.high
    · have e2 : min a.hi x.high = a.hi := by omega
      rw [e2, t2]
      omega
    · have e2 : min a.hi x.high = x.high := by omega
      rw [e2]
      omega
set_option maxHeartbeats 8000000 in
theorem csufc_call (s : Sch) (a : Cnd) (level : Int) (hr : schE s = 0) (ha : conE s a = 0) (h2 : a.op = 2) : FCall Tryz.prog 77 [sA s, cndA a, .i level] (.b (sufS s a level)) := by
  obtain ⟨x, hx, c1, c2, q2, _⟩ := atom_col hr ha (.inl h2)
  obtain ⟨hk, hl1, hl2, hf⟩ := q2 h2
  obtain ⟨lx, hlx⟩ : ∃ l, s.lists[x.lst.toNat]? = some l := ⟨_, List.getElem?_eq_getElem (by omega)⟩
  rw [sufS_code h2 hx hlx]
  have hat := fun v => catom_call s a v (atom_code hr ha)
  rw [cndA_eq] at *
  refine fcall_intro (n := 134) Tryz.func77 (by kernel_rfl) rfl rfl rfl rfl rfl (by intro t T h; cases h) (fun hrd E h0 => ?_)
  obtain ⟨_, _, hl3⟩ := rd_lists (s := s) (hrd _ (by simp))
  clear hrd
  have hlen := hl3 lx (List.mem_of_getElem? hlx)
  have hlb := levelsS_bd (nm := lx.1) hlen
  have hall := atS_length lx.1 lx.2 (levelsS lx.1 lx.2 - 1)
  have hlev := levels_call lx.1 lx.2 hlen
  have hatc := at_call lx.1 lx.2 (levelsS lx.1 lx.2 - 1) hlen
  have hup := fun (leaf : Nat) => up_call lx.1 lx.2 leaf level hlen
  generalize hL : atS lx.1 lx.2 (levelsS lx.1 lx.2 - 1) = L at hatc hall ⊢
  repeat' ((first | (refine each_knownm (x := x) hx (by omega) ?_) | (refine each_knownm (x := lx) hlx (by omega) ?_) | refine call_i hlev ?_ | refine call_i hatc ?_ | (refine draw_q ?_ ?_; kernel_rfl) |refine aops_go ?_|refine awp_go ?_|refine guard_tt ?_|refine guard_ff ?_|refine guard_tf ?_|refine guard_ft ?_|refine cond_t ?_|refine cond_f ?_|refine Z1 ?_|refine Z2 ?_|refine stp ?_|(refine And.intro ?_ ?_<;>intro h<;>try first|(exfalso;omega)|exact absurd rfl h)|refine Z3 ?_|refine Z4 ?_|intro el hel hbB|intro el hel|intro ex|refine Z5 ?_|(refine free_i ?_ ?_;exact ⟨by kernel_rfl,by decide⟩)|refine allI_c ?_ ?_|exact allI_n|refine allMP_c ?_ ?_|exact allMP_n|(refine many_step ?_ ?_ ?_;kernel_rfl;kernel_rfl)) <;> (try (conv => whnf)))
  refine loop_i (ι := Nat) (fun k => ⟨[(2, .i level), (3, .ref 0 0), (4, .ref 1 0), (8, .ref 3 0), (9, .mp 4), (39, .sl 1 (L.map iA)), (40, .i L.length), (41, .i k)], 5, [(0, some (.box (sL s))), (1, some (.box (cndY a))), (2, some (.box (colL x))), (3, some (.box (clL lx))), (4, some (.map (seenK (fun v => upS lx.1 lx.2 v level) (fun v => atomS s a v) L k)))]⟩)
    (fun k => k ≤ L.length ∧ Agree (fun v => upS lx.1 lx.2 v level) (fun v => atomS s a v) (L.take k)) (fun k => L.length - k) 0 ⟨Nat.zero_le _, fun x hx => by simp at hx⟩
    (le_of h0 rfl ⟨rfl, rfl, rfl, rfl, rfl, rfl, rfl, rfl, trivial⟩ ⟨rfl, rfl, rfl, rfl, rfl, trivial⟩ rfl rfl rfl) (fun k hI => ?_)
  obtain ⟨hk1, hI⟩ := hI
  repeat' ((first | refine call_i (hup _) ?_ | refine call_i (hat _) ?_ | (refine side_i ?_ ?_; exact seenK_keys _ _ _ _) | refine as_eq (seen_eq _ _ _ _ _) ?_ | (refine draw_q ?_ ?_; kernel_rfl) |refine aops_go ?_|refine awp_go ?_|refine guard_tt ?_|refine guard_ff ?_|refine guard_tf ?_|refine guard_ft ?_|refine cond_t ?_|refine cond_f ?_|refine Z1 ?_|refine Z2 ?_|refine stp ?_|(refine And.intro ?_ ?_<;>intro h<;>try first|(exfalso;omega)|exact absurd rfl h)|refine Z3 ?_|refine Z4 ?_|intro el hel hbB|intro el hel|intro ex|refine Z5 ?_|(refine free_i ?_ ?_;exact ⟨by kernel_rfl,by decide⟩)|refine allI_c ?_ ?_|exact allI_n|refine allMP_c ?_ ?_|exact allMP_n|(refine many_step ?_ ?_ ?_;kernel_rfl;kernel_rfl)) <;> (try (conv => whnf)))
  all_goals first
    | exact ret_tmp rfl (congrArg AV.b (decide_eq_false (Agree.not hel (by assumption) (by assumption))).symm)
    | exact ret_tmp rfl (congrArg AV.b (decide_eq_true (by have e := take_end h; rw [e] at hI; exact hI)).symm)
    | exact ⟨k + 1, ⟨by omega, hI.step hel (fun _ => Decidable.of_not_not (by assumption))⟩, by omega, le_of h0 rfl ⟨rfl, rfl, rfl, rfl, rfl, rfl, rfl, rfl, trivial⟩ ⟨rfl, rfl, rfl, rfl, congrArg Blk.map (seenK_succ hel), trivial⟩ rfl rfl rfl⟩
    | exact ⟨k + 1, ⟨by omega, hI.step hel (fun hh => by rw [h] at hh; cases hh)⟩, by omega, le_of h0 rfl ⟨rfl, rfl, rfl, rfl, rfl, rfl, rfl, rfl, trivial⟩ ⟨rfl, rfl, rfl, rfl, congrArg Blk.map (seenK_succ hel), trivial⟩ rfl rfl rfl⟩
    | trace_state

set_option maxHeartbeats 8000000 in
theorem csufm_call (s : Sch) (a : Cnd) (level : Int) (hr : schE s = 0) (ha : conE s a = 0) (ho : a.op = 3 ∨ a.op = 4) (h0l : 0 ≤ level) (h1l : level ≤ finS s a.col) : FCall Tryz.prog 77 [sA s, cndA a, .i level] (.b (sufS s a level)) := by
  obtain ⟨x, hx, c1, c2, _, q2, q3, q4⟩ := atom_col hr ha (.inr ho)
  obtain ⟨hk, hm, hf⟩ := q2 (by omega)
  rw [hf] at h1l
  have hp := meaE_parts hm
  have hwb : ¬ level = 0 → 1 ≤ widthS x level ∧ widthS x level ≤ 1000000 := fun h => widthS_bd hp.2.2.2.2.2 (by omega) h1l
  have hwd : ¬ level = 0 → FCall Tryz.prog 122 [colA x, .i level] (.i (widthS x level)) := fun h => cwidth_call x level (by omega) h1l
  rw [cndA_eq] at *
  by_cases h4 : a.op = 4
  · have hopt := q4 h4
    rw [sufS_mis h4]
    refine fcall_intro (n := 134) Tryz.func77 (by kernel_rfl) rfl rfl rfl rfl rfl (by intro t T h; cases h) (fun hrd E h0 => ?_)
    clear hrd
    repeat' ((first | (refine each_knownm (x := x) hx (by omega) ?_) |refine aops_go ?_|refine awp_go ?_|refine guard_tt ?_|refine guard_ff ?_|refine guard_tf ?_|refine guard_ft ?_|refine cond_t ?_|refine cond_f ?_|refine Z1 ?_|refine Z2 ?_|refine stp ?_|(refine And.intro ?_ ?_<;>intro h<;>try first|(exfalso;omega)|exact absurd rfl h)|refine Z3 ?_|refine Z4 ?_|intro el hel hbB|intro el hel|intro ex|refine Z5 ?_|(refine free_i ?_ ?_;exact ⟨by kernel_rfl,by decide⟩)|refine allI_c ?_ ?_|exact allI_n|refine allMP_c ?_ ?_|exact allMP_n|(refine many_step ?_ ?_ ?_;kernel_rfl;kernel_rfl)) <;> (try (conv => whnf)))
    all_goals first
      | exact absurd (hopt.symm.trans (by assumption : x.opt = false)) (by decide)
      | exact ret_tmp rfl (congrArg AV.b (decide_eq_true (by omega : 0 < level)).symm)
      | exact ret_tmp rfl (congrArg AV.b (decide_eq_false (by omega : ¬ 0 < level)).symm)
      | trace_state
  have h3 : a.op = 3 := by omega
  have hr3 := q3 h3
  rw [sufS_mea h3 hx]
  have hd1 : ¬ level = 0 → FCall Tryz.prog 123 [.i (max a.lo x.low), .i (widthS x level)] (.i (downS (max a.lo x.low) (widthS x level))) := fun h => cdown_call _ _ (hwb h).1 (hwb h).2 (by omega) (by omega)
  have hd2 : ¬ level = 0 → FCall Tryz.prog 123 [.i (min a.hi x.high + 1), .i (widthS x level)] (.i (downS (min a.hi x.high + 1) (widthS x level))) := fun h => cdown_call _ _ (hwb h).1 (hwb h).2 (by omega) (by omega)
  have hm0 := sufM_0 (a := a) (x := x) (by omega) hr3.1
  have hm1 := fun h : ¬ level = 0 => sufM_1 (a := a) (x := x) (level := level) (by omega) hr3.1 h (hwb h).1
  refine fcall_intro (n := 134) Tryz.func77 (by kernel_rfl) rfl rfl rfl rfl rfl (by intro t T h; cases h) (fun hrd E h0 => ?_)
  clear hrd
  repeat' ((first | (refine each_knownm (x := x) hx (by omega) ?_) | refine call_i (hwd (by assumption)) ?_ | refine call_i (hd1 (by assumption)) ?_ | refine call_i (hd2 (by assumption)) ?_ | (refine draw_q ?_ ?_; kernel_rfl) |refine aops_go ?_|refine awp_go ?_|refine guard_tt ?_|refine guard_ff ?_|refine guard_tf ?_|refine guard_ft ?_|refine cond_t ?_|refine cond_f ?_|refine Z1 ?_|refine Z2 ?_|refine stp ?_|(refine And.intro ?_ ?_<;>intro h<;>try first|(exfalso;omega)|exact absurd rfl h)|refine Z3 ?_|refine Z4 ?_|intro el hel hbB|intro el hel|intro ex|refine Z5 ?_|(refine free_i ?_ ?_;exact ⟨by kernel_rfl,by decide⟩)|refine allI_c ?_ ?_|exact allI_n|refine allMP_c ?_ ?_|exact allMP_n|(refine many_step ?_ ?_ ?_;kernel_rfl;kernel_rfl)) <;> (try (conv => whnf)))
  all_goals first
    | (refine ret_tmp rfl (congrArg AV.b ?_)
       have e0 : level = 0 := by assumption
       subst e0
       first
         | (rw [eq_comm, decide_eq_false_iff_not, hm0]; intro hh; first | omega | exact absurd (hh.1.symm.trans (by assumption : x.opt = true)) (by decide))
         | (rw [eq_comm, decide_eq_true_iff, hm0]; exact ⟨by assumption, by omega⟩)
         | (rw [decide_eq_decide, hm0]; exact ⟨fun z => ⟨by assumption, by omega⟩, fun z => by have := z.2; omega⟩))
    | (refine ret_tmp rfl (congrArg AV.b ?_)
       have e0 : ¬ level = 0 := by assumption
       have hm2 := hm1 e0
       first
         | (rw [eq_comm, decide_eq_false_iff_not, hm2]; omega)
         | (rw [eq_comm, decide_eq_true_iff, hm2]; omega)
         | (rw [decide_eq_decide, hm2]; omega))
    | trace_state
end Go.Proofs.YtghlhejdfgkjaaaGreatDoor

/- Chapter 5: which level suffices for a condition about one column. Chapter 5: what a condition needs, as a list of picks; picks raised. Chapter 5: the program's needs of a condition. Chapter 5: the program's truth values for rows. -/
import Derived.Test.YtepdcljecfibpaaGreatDoorQCm2
import Derived.Test.YtepdcljecfibpaaGreatDoorQSx
import Derived.Test.YtepdcljecfibpaaGreatDoorQCm1
namespace Go.Proofs.YtepdcljecfibpaaGreatDoor
open Go Go.Av
attribute [local irreducible] AWp AOps AAny MAny DQ retQ retG St.le FCall GCall
set_option linter.unusedVariables false
set_option linter.unnecessarySimpa false
set_option linter.unusedSimpArgs false
set_option maxRecDepth 100000
theorem cwidth_call (c : Col) (level : Int) (h1 : 1 ≤ level) (h2 : level ≤ c.widths.length) : FCall Tryz.prog 142 [colA c, .i level] (.i (widthS c level)) := by
  refine fcall_intro (n := 14) Tryz.func142 (by kernel_rfl) rfl rfl rfl rfl rfl (by intro t T h; cases h) (fun hrd E h0 => ?_)
  have hlen : c.widths.length ≤ 9223372036854775807 := by
    have := ((hrd (colA c) (by simp)).agg (.sl 1 (c.widths.map wA)) (by simp)).sl
    simpa using this
  clear hrd
  repeat' ((first|refine aops_go ?_|refine awp_go ?_|refine guard_tt ?_|refine guard_ff ?_|refine guard_tf ?_|refine guard_ft ?_|refine cond_t ?_|refine cond_f ?_|refine Z1 ?_|refine Z2 ?_|refine stp ?_|(refine And.intro ?_ ?_<;>intro h<;>try first|(exfalso;omega)|exact absurd rfl h)|refine Z3 ?_|refine Z4 ?_|intro el hel hbB|intro el hel|intro ex|refine Z5 ?_|(refine free_i ?_ ?_;exact ⟨by kernel_rfl,by decide⟩)|refine allI_c ?_ ?_|exact allI_n|refine allMP_c ?_ ?_|exact allMP_n|(refine many_step ?_ ?_ ?_;kernel_rfl;kernel_rfl)) <;> (try (conv => whnf)))
  all_goals exact ret_tmp rfl (congrArg AV.i (getD_get hel).symm)
theorem cdown_call (n w : Int) (hw : 1 ≤ w) (hw2 : w ≤ 1000000) (h1 : -4000000000000 ≤ n) (h2 : n ≤ 4000000000000) : FCall Tryz.prog 143 [.i n, .i w] (.i (downS n w)) := by
  refine fcall_intro (n := 17) Tryz.func143 (by kernel_rfl) rfl rfl rfl rfl rfl (by intro t T h; cases h) (fun hrd E h0 => ?_)
  have hm := mod_cases n hw
  have hb := tmod_bd n hw
  clear hrd
  repeat' ((first|refine aops_go ?_|refine awp_go ?_|refine guard_tt ?_|refine guard_ff ?_|refine guard_tf ?_|refine guard_ft ?_|refine cond_t ?_|refine cond_f ?_|refine Z1 ?_|refine Z2 ?_|refine stp ?_|(refine And.intro ?_ ?_<;>intro h<;>try first|(exfalso;omega)|exact absurd rfl h)|refine Z3 ?_|refine Z4 ?_|intro el hel hbB|intro el hel|intro ex|refine Z5 ?_|(refine free_i ?_ ?_;exact ⟨by kernel_rfl,by decide⟩)|refine allI_c ?_ ?_|exact allI_n|refine allMP_c ?_ ?_|exact allMP_n|(refine many_step ?_ ?_ ?_;kernel_rfl;kernel_rfl)) <;> (try (conv => whnf)))
  all_goals first
    | (refine ret_tmp rfl (congrArg AV.i ?_); unfold downS; omega)
theorem atom_col {s : Sch} (hr : schE s = 0) {a : Cnd} (ha : conE s a = 0) (ho : a.op = 2 ∨ a.op = 3 ∨ a.op = 4) : ∃ x, s.cols[a.col.toNat]? = some x ∧ 1 ≤ a.col ∧ a.col < s.cols.length ∧ (a.op = 2 → x.kind = 2 ∧ 0 ≤ x.lst ∧ x.lst < s.lists.length ∧ finS s a.col = levelsS (lstOf s x).1 (lstOf s x).2 - 1) ∧ (a.op ≠ 2 → x.kind = 3 ∧ meaE x = 0 ∧ finS s a.col = x.widths.length) ∧ (a.op = 3 → a.lo ≤ a.hi ∧ -1000000 ≤ a.lo ∧ a.hi ≤ 1000000) ∧ (a.op = 4 → x.opt = true) := by
  obtain ⟨p1, p2, p3, p4, p5, p6⟩ := conE_parts ha
  have hc := p3 ho
  obtain ⟨x, hx⟩ : ∃ x, s.cols[a.col.toNat]? = some x := ⟨_, List.getElem?_eq_getElem (by omega)⟩
  have hxa := colAt_get hx
  rw [hxa] at p4 p5 p6
  have hkind : x.kind ≠ 1 := by
    intro h
    rcases ho with h2 | h2 | h2
    · have := (p4 h2).1; omega
    · have := (p5 h2).1; omega
    · have := (p6 h2).1; omega
  have h1 : 1 ≤ a.col := by
    by_cases h : a.col = 0
    · obtain ⟨_, _, _, _, h5⟩ := schE_parts hr
      rw [h] at hx
      have : s.cols.head? = some x := by rw [← hx]; cases s.cols <;> rfl
      rw [this] at h5
      simp only [Option.map_some, Option.some.injEq] at h5
      exact absurd h5 hkind
    · omega
  have hf : finS s a.col = finC s x := by
    unfold finS
    rw [if_neg (by omega), hxa]
  refine ⟨x, hx, h1, hc.2, fun h2 => ?_, fun h2 => ?_, fun h3 => ?_, fun h4 => (p6 h4).2⟩
  · have hk := (p4 h2).1
    have hl := RightS.lst hr (List.mem_of_getElem? hx) hk
    exact ⟨hk, hl.1, hl.2, by rw [hf, finC, if_pos hk]⟩
  · have hk : x.kind = 3 := by
      rcases ho with h | h | h
      · exact absurd h h2
      · exact (p5 h).1
      · exact (p6 h).1
    obtain ⟨_, _, _, h4, _⟩ := schE_parts hr
    exact ⟨hk, kindE_mea (colE_parts (h4 _ _ hx)).2.2.1 hk, by rw [hf, finC, if_neg (by omega)]⟩
  · exact (p5 h3).2
theorem sufM_0 {a : Cnd} {x : Col} (h1 : x.low ≤ x.high) (h2 : a.lo ≤ a.hi) : sufM a x 0 ↔ x.opt = false ∧ (min a.hi x.high < max a.lo x.low ∨ (max a.lo x.low = x.low ∧ min a.hi x.high = x.high)) := by
  unfold sufM
  rw [if_pos rfl]
  constructor
  · intro h; exact ⟨h.1, by omega⟩
  · intro h; exact ⟨h.1, by omega, by omega⟩
theorem sufM_1 {a : Cnd} {x : Col} {level : Int} (h1 : x.low ≤ x.high) (h2 : a.lo ≤ a.hi) (h0 : ¬ level = 0) (hw : 1 ≤ widthS x level) : sufM a x level ↔ min a.hi x.high < max a.lo x.low ∨ ((max a.lo x.low = x.low ∨ downS (max a.lo x.low) (widthS x level) = max a.lo x.low) ∧ (min a.hi x.high = x.high ∨ downS (min a.hi x.high + 1) (widthS x level) = min a.hi x.high + 1)) := by
  unfold sufM
  rw [if_neg h0]
  have t1 := tmod_zero (v := a.lo) hw
  have t2 := tmod_zero (v := a.hi + 1) hw
  generalize widthS x level = w at *
  by_cases hlo : x.low < a.lo
  · have e1 : max a.lo x.low = a.lo := by omega
    rw [e1, t1]
    by_cases hhi : a.hi < x.high
    · have e2 : min a.hi x.high = a.hi := by omega
      rw [e2, t2]
      omega
    · have e2 : min a.hi x.high = x.high := by omega
      rw [e2]
      omega
  · have e1 : max a.lo x.low = x.low := by omega
    rw [e1]
    by_cases hhi : a.hi < x.high
    · have e2 : min a.hi x.high = a.hi := by omega
      rw [e2, t2]
      omega
    · have e2 : min a.hi x.high = x.high := by omega
      rw [e2]
      omega
set_option maxHeartbeats 8000000 in
theorem csufc_call (s : Sch) (a : Cnd) (level : Int) (hr : schE s = 0) (ha : conE s a = 0) (h2 : a.op = 2) : FCall Tryz.prog 106 [sA s, cndA a, .i level] (.b (sufS s a level)) := by
  obtain ⟨x, hx, c1, c2, q2, _⟩ := atom_col hr ha (.inl h2)
  obtain ⟨hk, hl1, hl2, hf⟩ := q2 h2
  obtain ⟨lx, hlx⟩ : ∃ l, s.lists[x.lst.toNat]? = some l := ⟨_, List.getElem?_eq_getElem (by omega)⟩
  rw [sufS_code h2 hx hlx]
  have hat := fun v => catom_call s a v (atom_code hr ha)
  rw [cndA_eq] at *
  refine fcall_intro (n := 134) Tryz.func106 (by kernel_rfl) rfl rfl rfl rfl rfl (by intro t T h; cases h) (fun hrd E h0 => ?_)
  obtain ⟨_, _, hl3⟩ := rd_lists (s := s) (hrd _ (by simp))
  clear hrd
  have hlen := hl3 lx (List.mem_of_getElem? hlx)
  have hlb := levelsS_bd (nm := lx.1) hlen
  have hall := atS_length lx.1 lx.2 (levelsS lx.1 lx.2 - 1)
  have hlev := levels_call lx.1 lx.2 hlen
  have hatc := at_call lx.1 lx.2 (levelsS lx.1 lx.2 - 1) hlen
  have hup := fun (leaf : Nat) => up_call lx.1 lx.2 leaf level hlen
  generalize hL : atS lx.1 lx.2 (levelsS lx.1 lx.2 - 1) = L at hatc hall ⊢
  repeat' ((first | (refine each_knownm (x := x) hx (by omega) ?_) | (refine each_knownm (x := lx) hlx (by omega) ?_) | refine call_i hlev ?_ | refine call_i hatc ?_ | (refine draw_q ?_ ?_; kernel_rfl) |refine aops_go ?_|refine awp_go ?_|refine guard_tt ?_|refine guard_ff ?_|refine guard_tf ?_|refine guard_ft ?_|refine cond_t ?_|refine cond_f ?_|refine Z1 ?_|refine Z2 ?_|refine stp ?_|(refine And.intro ?_ ?_<;>intro h<;>try first|(exfalso;omega)|exact absurd rfl h)|refine Z3 ?_|refine Z4 ?_|intro el hel hbB|intro el hel|intro ex|refine Z5 ?_|(refine free_i ?_ ?_;exact ⟨by kernel_rfl,by decide⟩)|refine allI_c ?_ ?_|exact allI_n|refine allMP_c ?_ ?_|exact allMP_n|(refine many_step ?_ ?_ ?_;kernel_rfl;kernel_rfl)) <;> (try (conv => whnf)))
  refine loop_i (ι := Nat) (fun k => ⟨[(2, .i level), (3, .ref 0 0), (4, .ref 1 0), (8, .ref 3 0), (9, .mp 4), (39, .sl 1 (L.map iA)), (40, .i L.length), (41, .i k)], 5, [(0, some (.box (sL s))), (1, some (.box (cndY a))), (2, some (.box (colL x))), (3, some (.box (clL lx))), (4, some (.map (seenK (fun v => upS lx.1 lx.2 v level) (fun v => atomS s a v) L k)))]⟩)
    (fun k => k ≤ L.length ∧ Agree (fun v => upS lx.1 lx.2 v level) (fun v => atomS s a v) (L.take k)) (fun k => L.length - k) 0 ⟨Nat.zero_le _, fun x hx => by simp at hx⟩
    (le_of h0 rfl ⟨rfl, rfl, rfl, rfl, rfl, rfl, rfl, rfl, trivial⟩ ⟨rfl, rfl, rfl, rfl, rfl, trivial⟩ rfl rfl rfl) (fun k hI => ?_)
  obtain ⟨hk1, hI⟩ := hI
  repeat' ((first | refine call_i (hup _) ?_ | refine call_i (hat _) ?_ | (refine side_i ?_ ?_; exact seenK_keys _ _ _ _) | refine as_eq (seen_eq _ _ _ _ _) ?_ | (refine draw_q ?_ ?_; kernel_rfl) |refine aops_go ?_|refine awp_go ?_|refine guard_tt ?_|refine guard_ff ?_|refine guard_tf ?_|refine guard_ft ?_|refine cond_t ?_|refine cond_f ?_|refine Z1 ?_|refine Z2 ?_|refine stp ?_|(refine And.intro ?_ ?_<;>intro h<;>try first|(exfalso;omega)|exact absurd rfl h)|refine Z3 ?_|refine Z4 ?_|intro el hel hbB|intro el hel|intro ex|refine Z5 ?_|(refine free_i ?_ ?_;exact ⟨by kernel_rfl,by decide⟩)|refine allI_c ?_ ?_|exact allI_n|refine allMP_c ?_ ?_|exact allMP_n|(refine many_step ?_ ?_ ?_;kernel_rfl;kernel_rfl)) <;> (try (conv => whnf)))
  all_goals first
    | exact ret_tmp rfl (congrArg AV.b (decide_eq_false (Agree.not hel (by assumption) (by assumption))).symm)
    | exact ret_tmp rfl (congrArg AV.b (decide_eq_true (by have e := take_end h; rw [e] at hI; exact hI)).symm)
    | exact ⟨k + 1, ⟨by omega, hI.step hel (fun _ => Decidable.of_not_not (by assumption))⟩, by omega, le_of h0 rfl ⟨rfl, rfl, rfl, rfl, rfl, rfl, rfl, rfl, trivial⟩ ⟨rfl, rfl, rfl, rfl, congrArg Blk.map (seenK_succ hel), trivial⟩ rfl rfl rfl⟩
    | exact ⟨k + 1, ⟨by omega, hI.step hel (fun hh => by rw [h] at hh; cases hh)⟩, by omega, le_of h0 rfl ⟨rfl, rfl, rfl, rfl, rfl, rfl, rfl, rfl, trivial⟩ ⟨rfl, rfl, rfl, rfl, congrArg Blk.map (seenK_succ hel), trivial⟩ rfl rfl rfl⟩
set_option maxHeartbeats 8000000 in
theorem csufm_call (s : Sch) (a : Cnd) (level : Int) (hr : schE s = 0) (ha : conE s a = 0) (ho : a.op = 3 ∨ a.op = 4) (h0l : 0 ≤ level) (h1l : level ≤ finS s a.col) : FCall Tryz.prog 106 [sA s, cndA a, .i level] (.b (sufS s a level)) := by
  obtain ⟨x, hx, c1, c2, _, q2, q3, q4⟩ := atom_col hr ha (.inr ho)
  obtain ⟨hk, hm, hf⟩ := q2 (by omega)
  rw [hf] at h1l
  have hp := meaE_parts hm
  have hwb : ¬ level = 0 → 1 ≤ widthS x level ∧ widthS x level ≤ 1000000 := fun h => widthS_bd hp.2.2.2.2.2 (by omega) h1l
  have hwd : ¬ level = 0 → FCall Tryz.prog 142 [colA x, .i level] (.i (widthS x level)) := fun h => cwidth_call x level (by omega) h1l
  rw [cndA_eq] at *
  by_cases h4 : a.op = 4
  · have hopt := q4 h4
    rw [sufS_mis h4]
    refine fcall_intro (n := 134) Tryz.func106 (by kernel_rfl) rfl rfl rfl rfl rfl (by intro t T h; cases h) (fun hrd E h0 => ?_)
    clear hrd
    repeat' ((first | (refine each_knownm (x := x) hx (by omega) ?_) |refine aops_go ?_|refine awp_go ?_|refine guard_tt ?_|refine guard_ff ?_|refine guard_tf ?_|refine guard_ft ?_|refine cond_t ?_|refine cond_f ?_|refine Z1 ?_|refine Z2 ?_|refine stp ?_|(refine And.intro ?_ ?_<;>intro h<;>try first|(exfalso;omega)|exact absurd rfl h)|refine Z3 ?_|refine Z4 ?_|intro el hel hbB|intro el hel|intro ex|refine Z5 ?_|(refine free_i ?_ ?_;exact ⟨by kernel_rfl,by decide⟩)|refine allI_c ?_ ?_|exact allI_n|refine allMP_c ?_ ?_|exact allMP_n|(refine many_step ?_ ?_ ?_;kernel_rfl;kernel_rfl)) <;> (try (conv => whnf)))
    all_goals first
      | exact absurd (hopt.symm.trans (by assumption : x.opt = false)) (by decide)
      | exact ret_tmp rfl (congrArg AV.b (decide_eq_true (by omega : 0 < level)).symm)
      | exact ret_tmp rfl (congrArg AV.b (decide_eq_false (by omega : ¬ 0 < level)).symm)
  have h3 : a.op = 3 := by omega
  have hr3 := q3 h3
  rw [sufS_mea h3 hx]
  have hd1 : ¬ level = 0 → FCall Tryz.prog 143 [.i (max a.lo x.low), .i (widthS x level)] (.i (downS (max a.lo x.low) (widthS x level))) := fun h => cdown_call _ _ (hwb h).1 (hwb h).2 (by omega) (by omega)
  have hd2 : ¬ level = 0 → FCall Tryz.prog 143 [.i (min a.hi x.high + 1), .i (widthS x level)] (.i (downS (min a.hi x.high + 1) (widthS x level))) := fun h => cdown_call _ _ (hwb h).1 (hwb h).2 (by omega) (by omega)
  have hm0 := sufM_0 (a := a) (x := x) (by omega) hr3.1
  have hm1 := fun h : ¬ level = 0 => sufM_1 (a := a) (x := x) (level := level) (by omega) hr3.1 h (hwb h).1
  refine fcall_intro (n := 134) Tryz.func106 (by kernel_rfl) rfl rfl rfl rfl rfl (by intro t T h; cases h) (fun hrd E h0 => ?_)
  clear hrd
  repeat' ((first | (refine each_knownm (x := x) hx (by omega) ?_) | refine call_i (hwd (by assumption)) ?_ | refine call_i (hd1 (by assumption)) ?_ | refine call_i (hd2 (by assumption)) ?_ | (refine draw_q ?_ ?_; kernel_rfl) |refine aops_go ?_|refine awp_go ?_|refine guard_tt ?_|refine guard_ff ?_|refine guard_tf ?_|refine guard_ft ?_|refine cond_t ?_|refine cond_f ?_|refine Z1 ?_|refine Z2 ?_|refine stp ?_|(refine And.intro ?_ ?_<;>intro h<;>try first|(exfalso;omega)|exact absurd rfl h)|refine Z3 ?_|refine Z4 ?_|intro el hel hbB|intro el hel|intro ex|refine Z5 ?_|(refine free_i ?_ ?_;exact ⟨by kernel_rfl,by decide⟩)|refine allI_c ?_ ?_|exact allI_n|refine allMP_c ?_ ?_|exact allMP_n|(refine many_step ?_ ?_ ?_;kernel_rfl;kernel_rfl)) <;> (try (conv => whnf)))
  all_goals first
    | (refine ret_tmp rfl (congrArg AV.b ?_)
       have e0 : level = 0 := by assumption
       subst e0
       first
         | (rw [eq_comm, decide_eq_false_iff_not, hm0]; intro hh; first | omega | exact absurd (hh.1.symm.trans (by assumption : x.opt = true)) (by decide))
         | (rw [eq_comm, decide_eq_true_iff, hm0]; exact ⟨by assumption, by omega⟩)
         | (rw [decide_eq_decide, hm0]; exact ⟨fun z => ⟨by assumption, by omega⟩, fun z => by have := z.2; omega⟩))
    | (refine ret_tmp rfl (congrArg AV.b ?_)
       have e0 : ¬ level = 0 := by assumption
       have hm2 := hm1 e0
       first
         | (rw [eq_comm, decide_eq_false_iff_not, hm2]; omega)
         | (rw [eq_comm, decide_eq_true_iff, hm2]; omega)
         | (rw [decide_eq_decide, hm2]; omega))
theorem widths_one {ws : List Int} (hne : ws.length ≠ 0) (h : widthsB ws = true) : ws.getD 0 0 = 1 := by
  cases ws with
  | nil => exact absurd rfl hne
  | cons w r =>
    simp only [widthsB, Bool.and_eq_true, decide_eq_true_eq] at h
    simpa using h.1
theorem suf_fin {s : Sch} (hr : schE s = 0) {a : Cnd} (ha : conE s a = 0) (ho : a.op = 2 ∨ a.op = 3 ∨ a.op = 4) : sufS s a (finS s a.col) = true ∧ 0 ≤ finS s a.col := by
  obtain ⟨x, hx, c1, c2, q2, q3, q4, q5⟩ := atom_col hr ha ho
  by_cases h2 : a.op = 2
  · obtain ⟨hk, hl1, hl2, hf⟩ := q2 h2
    obtain ⟨lx, hlx⟩ : ∃ l, s.lists[x.lst.toNat]? = some l := ⟨_, List.getElem?_eq_getElem (by omega)⟩
    rw [lstOf_get hlx] at hf
    refine ⟨?_, finS_nn hr c1 c2⟩
    rw [sufS_code h2 hx hlx, hf]
    refine decide_eq_true fun u hu v hv e => ?_
    have self : ∀ u ∈ atS lx.1 lx.2 (levelsS lx.1 lx.2 - 1), upS lx.1 lx.2 u (levelsS lx.1 lx.2 - 1) = u := by
      intro u hu
      obtain ⟨hchk, hul, hd⟩ := mem_atS hu
      rw [← upS_yes ⟨hul, hchk, by omega, by omega⟩, show dep lx.2 u - (levelsS lx.1 lx.2 - 1).toNat = 0 by omega]
      rfl
    dsimp only at e
    rw [self u hu, self v hv] at e
    have : u = v := by omega
    rw [this]
  · obtain ⟨hk, hm, hf⟩ := q3 h2
    have hp := meaE_parts hm
    refine ⟨?_, by omega⟩
    by_cases h4 : a.op = 4
    · rw [sufS_mis h4, hf]
      exact decide_eq_true (by omega)
    · rw [sufS_mea (by omega) hx, hf]
      have hw : widthS x x.widths.length = 1 := by
        unfold widthS
        rw [show ((x.widths.length : Int) - x.widths.length).toNat = 0 by omega]
        exact widths_one (by omega) hp.2.2.2.2.2
      refine decide_eq_true ?_
      unfold sufM
      rw [if_neg (by omega), hw]
      exact ⟨fun _ => Int.tmod_one _, fun _ => Int.tmod_one _⟩
def levK (s : Sch) (a : Cnd) : Nat → Nat → Nat
  | 0, n => n
  | f + 1, n => if sufS s a n = true then n else levK s a f (n + 1)
def levS (s : Sch) (a : Cnd) : Nat := levK s a (finS s a.col).toNat 0
theorem levK_spec {s : Sch} {a : Cnd} : ∀ (f n : Nat), sufS s a (n + f : Nat) = true → n ≤ levK s a f n ∧ levK s a f n ≤ n + f ∧ sufS s a (levK s a f n : Nat) = true ∧ ∀ i : Nat, n ≤ i → i < levK s a f n → sufS s a i = false
  | 0, n, h => ⟨Nat.le_refl _, Nat.le_refl _, h, fun i h1 h2 => absurd h2 (by unfold levK; omega)⟩
  | f + 1, n, h => by
    unfold levK
    split
    · rename_i h2
      exact ⟨Nat.le_refl _, by omega, h2, fun i h1 h3 => by omega⟩
    · rename_i h2
      obtain ⟨i1, i2, i3, i4⟩ := levK_spec f (n + 1) (by rw [show n + 1 + f = n + (f + 1) by omega]; exact h)
      refine ⟨by omega, by omega, i3, fun i h3 h4 => ?_⟩
      by_cases e : i = n
      · subst e; simpa using h2
      · exact i4 i (by omega) h4
theorem levS_spec {s : Sch} (hr : schE s = 0) {a : Cnd} (ha : conE s a = 0) (ho : a.op = 2 ∨ a.op = 3 ∨ a.op = 4) : (levS s a : Int) ≤ finS s a.col ∧ sufS s a (levS s a) = true ∧ ∀ i : Nat, i < levS s a → sufS s a i = false := by
  obtain ⟨h1, h2⟩ := suf_fin hr ha ho
  obtain ⟨i1, i2, i3, i4⟩ := levK_spec (s := s) (a := a) (finS s a.col).toNat 0 (by rw [Nat.zero_add, Int.toNat_of_nonneg h2]; exact h1)
  exact ⟨by unfold levS; omega, i3, fun i hi => i4 i (Nat.zero_le _) hi⟩
def pksR (lv : Nat → Int) (lo : Nat) : Nat → List Pk
  | 0 => []
  | n + 1 => if 0 < lv lo then ⟨lo, lv lo⟩ :: pksR lv (lo + 1) n else pksR lv (lo + 1) n
theorem pksR_succ (lv : Nat → Int) (lo n : Nat) : pksR lv lo (n + 1) = if 0 < lv lo then ⟨lo, lv lo⟩ :: pksR lv (lo + 1) n else pksR lv (lo + 1) n := rfl
theorem pksR_snoc (lv : Nat → Int) : ∀ (n lo : Nat), pksR lv lo (n + 1) = pksR lv lo n ++ (if 0 < lv (lo + n) then [⟨((lo + n : Nat) : Int), lv (lo + n)⟩] else [])
  | 0, lo => by
    show (if 0 < lv lo then [(⟨(lo : Int), lv lo⟩ : Pk)] else []) = [] ++ (if 0 < lv (lo + 0) then [⟨((lo + 0 : Nat) : Int), lv (lo + 0)⟩] else [])
    rw [Nat.add_zero, List.nil_append]
  | n + 1, lo => by
    have ih := pksR_snoc lv n (lo + 1)
    rw [show lo + 1 + n = lo + (n + 1) by omega] at ih
    rw [pksR_succ lv lo (n + 1), pksR_succ lv lo n, ih]
    split <;> simp
theorem pksR_mem {lv : Nat → Int} {p : Pk} : ∀ {n lo : Nat}, p ∈ pksR lv lo n → (lo : Int) ≤ p.col ∧ p.col < (lo + n : Nat) ∧ p.lev = lv p.col.toNat ∧ 0 < p.lev
  | 0, lo, h => by simp [pksR] at h
  | n + 1, lo, h => by
    unfold pksR at h
    split at h
    · rcases List.mem_cons.1 h with rfl | h
      · exact ⟨Int.le_refl _, by dsimp only; omega, by simp, by assumption⟩
      · obtain ⟨h1, h2, h3⟩ := pksR_mem h
        exact ⟨by omega, by omega, h3⟩
    · obtain ⟨h1, h2, h3⟩ := pksR_mem h
      exact ⟨by omega, by omega, h3⟩
theorem pksR_length (lv : Nat → Int) : ∀ (n lo : Nat), (pksR lv lo n).length ≤ n
  | 0, lo => Nat.le_refl _
  | n + 1, lo => by
    have := pksR_length lv n (lo + 1)
    unfold pksR
    split
    · rw [List.length_cons]; omega
    · omega
theorem pksR_congr {f g : Nat → Int} : ∀ {n lo : Nat}, (∀ i, lo ≤ i → i < lo + n → f i = g i) → pksR f lo n = pksR g lo n
  | 0, lo, _ => rfl
  | n + 1, lo, h => by
    unfold pksR
    rw [h lo (Nat.le_refl _) (by omega), pksR_congr (f := f) (g := g) (n := n) (lo := lo + 1) fun i h1 h2 => h i (by omega) (by omega)]
def raiseG (col lev : Int) : List Pk → Bool → List Pk → List Pk
  | [], dn, out => if dn = true then out else out ++ [⟨col, lev⟩]
  | x :: r, dn, out =>
    if col < x.col ∧ dn = false then raiseG col lev r true (out ++ [⟨col, lev⟩] ++ [x])
    else if x.col = col then raiseG col lev r true (out ++ [⟨x.col, max x.lev lev⟩])
    else raiseG col lev r dn (out ++ [x])
def raiseS (l : List Pk) (col lev : Int) : List Pk := raiseG col lev l (decide (lev ≤ 0)) []
theorem raise_done {col lev : Int} : ∀ (l out : List Pk), (∀ x ∈ l, x.col ≠ col ∨ lev ≤ x.lev) → raiseG col lev l true out = out ++ l
  | [], out, _ => by simp [raiseG]
  | x :: r, out, h => by
    have ih := fun out => raise_done (col := col) (lev := lev) r out fun y hy => h y (by simp [hy])
    unfold raiseG
    rw [if_neg (fun hh => by cases hh.2)]
    split
    · rename_i e
      have : lev ≤ x.lev := by rcases h x (by simp) with h | h; exact absurd e h; exact h
      rw [ih, show max x.lev lev = x.lev by omega]
      simp
    · rw [ih]; simp
theorem raise_new {col lev : Int} (l out : List Pk) (h : ∀ x ∈ l, col < x.col) : raiseG col lev l false out = out ++ ⟨col, lev⟩ :: l := by
  cases l with
  | nil => simp [raiseG]
  | cons x r =>
    unfold raiseG
    rw [if_pos ⟨h x (by simp), rfl⟩, raise_done _ _ fun y hy => .inl (by have := h y (by simp [hy]); omega)]
    simp
def upd (lv : Nat → Int) (col lev : Int) (i : Nat) : Int := if col = i then max (lv i) lev else lv i
theorem raise_pos {lv : Nat → Int} {col lev : Int} (hl : 0 < lev) : ∀ (n lo : Nat) (out : List Pk), (lo : Int) ≤ col → col < (lo + n : Nat) → raiseG col lev (pksR lv lo n) false out = out ++ pksR (upd lv col lev) lo n
  | 0, lo, out, h1, h2 => by omega
  | n + 1, lo, out, h1, h2 => by
    have hrest : ∀ m : Nat, col < (m : Int) → pksR (upd lv col lev) m n = pksR lv m n := fun m hm => pksR_congr fun i h3 h4 => by unfold upd; rw [if_neg (by omega)]
    by_cases e : col = lo
    · have hup : upd lv col lev lo = max (lv lo) lev := by unfold upd; rw [if_pos e]
      rw [show pksR (upd lv col lev) lo (n + 1) = ⟨lo, max (lv lo) lev⟩ :: pksR lv (lo + 1) n by
        rw [pksR_succ, hup, if_pos (by omega), hrest (lo + 1) (by omega)]]
      rw [pksR_succ]
      by_cases h3 : 0 < lv lo
      · rw [if_pos h3, raiseG, if_neg (by dsimp only; omega), if_pos (by dsimp only; omega), raise_done _ _ fun y hy => .inl (by have := (pksR_mem hy).1; omega)]
        simp
      · rw [if_neg h3, raise_new _ _ fun y hy => by have := (pksR_mem hy).1; omega]
        rw [e, show max (lv lo) lev = lev by omega]
    · have hup : upd lv col lev lo = lv lo := by unfold upd; rw [if_neg e]
      rw [pksR_succ, pksR_succ, hup]
      by_cases h3 : 0 < lv lo
      · rw [if_pos h3, if_pos h3, raiseG, if_neg (by dsimp only; omega), if_neg (by dsimp only; omega), raise_pos hl n (lo + 1) _ (by omega) (by omega)]
        simp
      · rw [if_neg h3, if_neg h3, raise_pos hl n (lo + 1) _ (by omega) (by omega)]
theorem raise_pks {lv : Nat → Int} {col lev : Int} {n : Nat} (h1 : 0 ≤ col) (h2 : col < n) (hl : 0 ≤ lev) (hv : ∀ i, 0 ≤ lv i) : raiseS (pksR lv 0 n) col lev = pksR (upd lv col lev) 0 n := by
  unfold raiseS
  by_cases h : lev ≤ 0
  · rw [decide_eq_true h, raise_done _ _ fun y hy => .inr (by have := (pksR_mem hy).2.2.2; omega), List.nil_append]
    exact pksR_congr fun i _ _ => by
      unfold upd
      have := hv i
      split
      · omega
      · rfl
  · rw [decide_eq_false h, raise_pos (by omega) n 0 [] (by omega) (by omega), List.nil_append]
theorem pksR_none : ∀ (n lo : Nat), pksR (fun _ => (0 : Int)) lo n = []
  | 0, _ => rfl
  | n + 1, lo => by rw [pksR_succ, if_neg (by omega), pksR_none n]
def lvA (s : Sch) (l : List Cnd) (i : Nat) : Int := l.foldl (fun (m : Int) (a : Cnd) => if a.col = (i : Int) then max m (levS s a : Int) else m) 0
theorem lvA_nil (s : Sch) : lvA s [] = fun _ => 0 := rfl
theorem lvA_snoc (s : Sch) (l : List Cnd) (a : Cnd) : lvA s (l ++ [a]) = upd (lvA s l) a.col (levS s a) := by
  funext i
  unfold lvA upd
  rw [List.foldl_append]
  rfl
theorem lvA_take {s : Sch} {l : List Cnd} {k : Nat} {a : Cnd} (h : l[k]? = some a) : lvA s (l.take (k + 1)) = upd (lvA s (l.take k)) a.col (levS s a) := by
  rw [takec h, lvA_snoc]
theorem lvA_nn (s : Sch) (i : Nat) : ∀ l : List Cnd, 0 ≤ lvA s l i := by
  have key : ∀ (l : List Cnd) (m : Int), 0 ≤ m → 0 ≤ l.foldl (fun (m : Int) (a : Cnd) => if a.col = (i : Int) then max m (levS s a : Int) else m) m := by
    intro l
    induction l with
    | nil => intro m h; exact h
    | cons a r ih =>
      intro m h
      rw [List.foldl_cons]
      refine ih _ ?_
      split <;> omega
  exact fun l => key l 0 (Int.le_refl _)
theorem lvA_le {s : Sch} {i : Nat} {B : Int} (hB : 0 ≤ B) : ∀ l : List Cnd, (∀ a ∈ l, a.col = i → (levS s a : Int) ≤ B) → lvA s l i ≤ B := by
  have key : ∀ (l : List Cnd) (m : Int), m ≤ B → (∀ a ∈ l, a.col = i → (levS s a : Int) ≤ B) → l.foldl (fun (m : Int) (a : Cnd) => if a.col = (i : Int) then max m (levS s a : Int) else m) m ≤ B := by
    intro l
    induction l with
    | nil => intro m h _; exact h
    | cons a r ih =>
      intro m h hl
      rw [List.foldl_cons]
      refine ih _ ?_ fun b hb => hl b (by simp [hb])
      split
      · have := hl a (by simp) (by assumption); omega
      · exact h
  exact fun l h => key l 0 hB h
def needS (s : Sch) (c : Cnd) : List Pk := if cndE s c = 0 then pksR (lvA s (atmS c)) 0 s.cols.length else []
abbrev pkT : Nat := 67
def rowF (f : Nat → Int) (n : Nat) : List (List AV) := (List.range n).map fun i => [AV.i (f i)]
theorem rowF_get {f : Nat → Int} {n k : Nat} (h : k < n) : (rowF f n)[k]? = some [.i (f k)] := by
  unfold rowF
  rw [List.getElem?_map, List.getElem?_range h]; rfl
theorem rowF_set {f : Nat → Int} {n k : Nat} {v : Int} : (rowF f n).set k [.i v] = rowF (fun i => if k = i then v else f i) n := by
  refine List.ext_getElem? fun i => ?_
  unfold rowF
  rw [List.getElem?_set, List.getElem?_map, List.getElem?_map, List.length_map, List.length_range]
  by_cases h : i < n
  · rw [List.getElem?_range h]
    by_cases e : k = i
    · subst e; simp [h]
    · simp [e]
  · rw [List.getElem?_eq_none (by simpa using h)]
    by_cases e : k = i
    · subst e; simp [h]
    · simp [e]
theorem rowF_zero (n : Nat) : List.replicate n [AV.i 0] = rowF (fun _ => 0) n := by
  unfold rowF
  rw [List.map_const', List.length_range]
theorem rowF_upd {lv : Nat → Int} {n : Nat} {col lev : Int} (h : 0 ≤ col) : (rowF lv n).set col.toNat [.i (max (lv col.toNat) lev)] = rowF (upd lv col lev) n := by
  rw [rowF_set]
  unfold rowF
  refine List.map_congr_left fun i _ => ?_
  unfold upd
  dsimp only
  by_cases e : col.toNat = i
  · subst e; rw [if_pos rfl, if_pos (by omega)]
  · rw [if_neg e, if_neg (by omega)]
theorem csuf_call (s : Sch) (a : Cnd) (level : Int) (hr : schE s = 0) (ha : conE s a = 0) (ho : a.op = 2 ∨ a.op = 3 ∨ a.op = 4) (h0 : 0 ≤ level) (h1 : level ≤ finS s a.col) : FCall Tryz.prog 106 [sA s, cndA a, .i level] (.b (sufS s a level)) := by
  by_cases h2 : a.op = 2
  · exact csufc_call s a level hr ha h2
  · exact csufm_call s a level hr ha (by omega) h0 h1
set_option maxHeartbeats 8000000 in
theorem cneeds_call (s : Sch) (c : Cnd) : FCall Tryz.prog 54 [sA s, cndA c] (.sl 2 ((needS s c).map pkL)) := by
  have hchk := ccheck_call s c
  unfold needS
  by_cases hce : cndE s c = 0
  · rw [if_pos hce]
    obtain ⟨hr, ht, hd, hcs⟩ := cndE_parts hce
    have hatm := catoms_call c (by omega)
    have hlen := atm_tot c
    have hn := (schE_parts hr).2.1
    have hright := atm_right c hcs
    rw [cndA_eq] at *
    generalize hA : atmS c = A at *
    refine fcall_intro (n := 63) Tryz.func54 (by kernel_rfl) rfl rfl rfl rfl rfl (by intro t T h; cases h) (fun hrd E h0 => ?_)
    clear hrd
    repeat' ((first | refine call_i hchk ?_ | refine call_i hatm ?_ |refine aops_go ?_|refine awp_go ?_|refine guard_tt ?_|refine guard_ff ?_|refine guard_tf ?_|refine guard_ft ?_|refine cond_t ?_|refine cond_f ?_|refine Z1 ?_|refine Z2 ?_|refine stp ?_|(refine And.intro ?_ ?_<;>intro h<;>try first|(exfalso;omega)|exact absurd rfl h)|refine Z3 ?_|refine Z4 ?_|intro el hel hbB|intro el hel|intro ex|refine Z5 ?_|(refine free_i ?_ ?_;exact ⟨by kernel_rfl,by decide⟩)|refine allI_c ?_ ?_|exact allI_n|refine allMP_c ?_ ?_|exact allMP_n|(refine many_step ?_ ?_ ?_;kernel_rfl;kernel_rfl)) <;> (try (conv => whnf)))
    all_goals first
      | exact absurd hce (by assumption)
      | skip
    refine loop_i (ι := Nat) (fun k => ⟨[(2, .ref 0 0), (3, .ref 1 0), (5, .row 2 0 s.cols.length), (21, .sl 6 (A.map cndX)), (22, .i A.length), (23, .i k)], 3, [(0, some (.box (sL s))), (1, some (.box (cndY c))), (2, some (.row 3 1 0 (rowF (lvA s (A.take k)) s.cols.length)))]⟩)
      (fun k => k ≤ A.length) (fun k => A.length - k) 0 (Nat.zero_le _)
      (le_of h0 rfl ⟨rfl, rfl, rfl, rfl, rfl, rfl, trivial⟩ ⟨rfl, rfl, ⟨0, congrArg (Blk.row 3 1 0) (by rw [Int.toNat_natCast]; exact (rowF_zero _).symm)⟩, trivial⟩ rfl rfl rfl) (fun k hk => ?_)
    have hlv := lvA_nn s
    by_cases hlt : k < A.length
    · obtain ⟨el, hel⟩ : ∃ el, A[k]? = some el := ⟨_, List.getElem?_eq_getElem hlt⟩
      obtain ⟨r1, r2⟩ := hright el (List.mem_of_getElem? hel)
      obtain ⟨l1, l2, l3⟩ := levS_spec hr r1 r2
      obtain ⟨x, hx, c1, c2, _⟩ := atom_col hr r1 r2
      have hrow := rowF_get (f := lvA s (A.take k)) (n := s.cols.length) (k := el.col.toNat) (by omega)
      have hfin := finS_bd hr el.col
      repeat' ((first | (refine each_knownm (x := el) hel (by omega) ?_) |refine aops_go ?_|refine awp_go ?_|refine guard_tt ?_|refine guard_ff ?_|refine guard_tf ?_|refine guard_ft ?_|refine cond_t ?_|refine cond_f ?_|refine Z1 ?_|refine Z2 ?_|refine stp ?_|(refine And.intro ?_ ?_<;>intro h<;>try first|(exfalso;omega)|exact absurd rfl h)|refine Z3 ?_|refine Z4 ?_|intro el hel hbB|intro el hel|intro ex|refine Z5 ?_|(refine free_i ?_ ?_;exact ⟨by kernel_rfl,by decide⟩)|refine allI_c ?_ ?_|exact allI_n|refine allMP_c ?_ ?_|exact allMP_n|(refine many_step ?_ ?_ ?_;kernel_rfl;kernel_rfl)) <;> (try (conv => whnf)))
      all_goals first
        | (exfalso; omega)
        | skip
      refine loop_i (ι := Nat) (fun j => ⟨[(2, .ref 0 0), (3, .ref 1 0), (5, .row 2 0 s.cols.length), (7, .ref 3 0), (8, .i j), (21, .sl 6 (A.map cndX)), (22, .i A.length), (23, .i k)], 4, [(0, some (.box (sL s))), (1, some (.box (cndY c))), (2, some (.row 3 1 0 (rowF (lvA s (A.take k)) s.cols.length))), (3, some (.box (cndX el)))]⟩)
        (fun j => j ≤ levS s el) (fun j => levS s el - j) 0 (Nat.zero_le _) (le_of h0 rfl ⟨rfl, rfl, rfl, rfl, rfl, rfl, rfl, rfl, trivial⟩ ⟨rfl, rfl, ⟨_, rfl⟩, rfl, trivial⟩ rfl rfl rfl) (fun j hj => ?_)
      have hc := csuf_call s el j hr r1 r2 (by omega) (by omega)
      by_cases hs : sufS s el j = true
      · obtain rfl : j = levS s el := Classical.byContradiction fun hne => by have := l3 j (by omega); rw [hs] at this; cases this
        rw [hs] at hc
        repeat' ((first | refine call_i hc ?_ | (refine draw_id 10 ?_; refine draw_m (id := 10) ⟨[(2, .ref 0 0), (3, .ref 1 0), (5, .row 2 0 s.cols.length), (21, .sl 6 (A.map cndX)), (22, .i A.length), (23, .i k)], 3, [(0, some (.box (sL s))), (1, some (.box (cndY c))), (2, some (.row 3 1 0 (rowF (lvA s (A.take (k + 1))) s.cols.length)))]⟩ ?_ ?_) |refine aops_go ?_|refine awp_go ?_|refine guard_tt ?_|refine guard_ff ?_|refine guard_tf ?_|refine guard_ft ?_|refine cond_t ?_|refine cond_f ?_|refine Z1 ?_|refine Z2 ?_|refine stp ?_|(refine And.intro ?_ ?_<;>intro h<;>try first|(exfalso;omega)|exact absurd rfl h)|refine Z3 ?_|refine Z4 ?_|intro el hel hbB|intro el hel|intro ex|refine Z5 ?_|(refine free_i ?_ ?_;exact ⟨by kernel_rfl,by decide⟩)|refine allI_c ?_ ?_|exact allI_n|refine allMP_c ?_ ?_|exact allMP_n|(refine many_step ?_ ?_ ?_;kernel_rfl;kernel_rfl)) <;> (try (conv => whnf)))
        all_goals first
          | exact le_of h0 rfl ⟨rfl, rfl, rfl, rfl, rfl, rfl, trivial⟩ ⟨rfl, rfl, ⟨_, congrArg (Blk.row 3 1 _) (by rw [lvA_take hel]; exact (rowF_upd (by omega)).symm)⟩, trivial⟩ rfl rfl rfl
          | exact ⟨k + 1, by omega, by omega, le_of h0 rfl ⟨rfl, rfl, rfl, rfl, rfl, rfl, trivial⟩ ⟨rfl, rfl, ⟨_, rfl⟩, trivial⟩ rfl rfl rfl⟩
      · have hs2 : sufS s el j = false := by simpa using hs
        have hlt2 : j < levS s el := Nat.lt_of_le_of_ne hj fun e => by rw [e, l2] at hs2; cases hs2
        rw [hs2] at hc
        repeat' ((first | refine call_i hc ?_ |refine aops_go ?_|refine awp_go ?_|refine guard_tt ?_|refine guard_ff ?_|refine guard_tf ?_|refine guard_ft ?_|refine cond_t ?_|refine cond_f ?_|refine Z1 ?_|refine Z2 ?_|refine stp ?_|(refine And.intro ?_ ?_<;>intro h<;>try first|(exfalso;omega)|exact absurd rfl h)|refine Z3 ?_|refine Z4 ?_|intro el hel hbB|intro el hel|intro ex|refine Z5 ?_|(refine free_i ?_ ?_;exact ⟨by kernel_rfl,by decide⟩)|refine allI_c ?_ ?_|exact allI_n|refine allMP_c ?_ ?_|exact allMP_n|(refine many_step ?_ ?_ ?_;kernel_rfl;kernel_rfl)) <;> (try (conv => whnf)))
        all_goals first
          | exact ⟨j + 1, by omega, by omega, le_of h0 rfl ⟨rfl, rfl, rfl, rfl, rfl, rfl, rfl, rfl, trivial⟩ ⟨rfl, rfl, ⟨_, rfl⟩, rfl, trivial⟩ rfl rfl rfl⟩
    · obtain rfl : k = A.length := by omega
      rw [List.take_length]
      repeat' ((first|refine aops_go ?_|refine awp_go ?_|refine guard_tt ?_|refine guard_ff ?_|refine guard_tf ?_|refine guard_ft ?_|refine cond_t ?_|refine cond_f ?_|refine Z1 ?_|refine Z2 ?_|refine stp ?_|(refine And.intro ?_ ?_<;>intro h<;>try first|(exfalso;omega)|exact absurd rfl h)|refine Z3 ?_|refine Z4 ?_|intro el hel hbB|intro el hel|intro ex|refine Z5 ?_|(refine free_i ?_ ?_;exact ⟨by kernel_rfl,by decide⟩)|refine allI_c ?_ ?_|exact allI_n|refine allMP_c ?_ ?_|exact allMP_n|(refine many_step ?_ ?_ ?_;kernel_rfl;kernel_rfl)) <;> (try (conv => whnf)))
      all_goals first
        | (exfalso; omega)
        | skip
      refine loop_i (ι := Nat) (fun i => ⟨[(9, .row 3 0 (pksR (lvA s A) 0 i).length), (46, .row 2 0 s.cols.length), (47, .i s.cols.length), (48, .i i)], 4, [(2, some (.row 3 1 0 (rowF (lvA s A) s.cols.length))), (3, some (.row pkT 2 0 ((pksR (lvA s A) 0 i).map pkL)))]⟩)
        (fun i => i ≤ s.cols.length) (fun i => s.cols.length - i) 0 (Nat.zero_le _)
        (le_trans (le_adopt (d := 9) (e := pkT) (sz := 2) rfl) (le_of h0 rfl ⟨rfl, rfl, rfl, rfl, trivial⟩ ⟨⟨_, rfl⟩, ⟨0, rfl⟩, trivial⟩ rfl rfl rfl)) (fun i hi => ?_)
      have hpl := pksR_length (lvA s A) i 0
      by_cases hlt : i < s.cols.length
      · have hrow := rowF_get (f := lvA s A) (n := s.cols.length) (k := i) hlt
        have hsn := pksR_snoc (lvA s A) i 0
        rw [Nat.zero_add] at hsn
        repeat' ((first | (refine each_known (x := [.i (lvA s A i)]) hrow (by omega) ?_) |refine aops_go ?_|refine awp_go ?_|refine guard_tt ?_|refine guard_ff ?_|refine guard_tf ?_|refine guard_ft ?_|refine cond_t ?_|refine cond_f ?_|refine Z1 ?_|refine Z2 ?_|refine stp ?_|(refine And.intro ?_ ?_<;>intro h<;>try first|(exfalso;omega)|exact absurd rfl h)|refine Z3 ?_|refine Z4 ?_|intro el hel hbB|intro el hel|intro ex|refine Z5 ?_|(refine free_i ?_ ?_;exact ⟨by kernel_rfl,by decide⟩)|refine allI_c ?_ ?_|exact allI_n|refine allMP_c ?_ ?_|exact allMP_n|(refine many_step ?_ ?_ ?_;kernel_rfl;kernel_rfl)) <;> (try (conv => whnf)))
        all_goals first
          | (exfalso; omega)
          | (rw [if_pos (by assumption)] at hsn; exact ⟨i + 1, by omega, by omega, le_of h0 rfl ⟨congrArg (fun z : Nat => some (AV.row 3 0 z)) (by rw [hsn, List.length_append]; rfl), rfl, rfl, rfl, trivial⟩ ⟨⟨_, rfl⟩, ⟨_, congrArg (Blk.row pkT 2 _) (by rw [hsn, List.map_append]; rfl)⟩, trivial⟩ rfl rfl rfl⟩)
          | (rw [if_neg (by assumption), List.append_nil] at hsn; exact ⟨i + 1, by omega, by omega, le_of h0 rfl ⟨congrArg (fun z : Nat => some (AV.row 3 0 z)) (by rw [hsn]), rfl, rfl, rfl, trivial⟩ ⟨⟨_, rfl⟩, ⟨_, congrArg (Blk.row pkT 2 _) (by rw [hsn])⟩, trivial⟩ rfl rfl rfl⟩)
      · obtain rfl : i = s.cols.length := by omega
        repeat' ((first|refine aops_go ?_|refine awp_go ?_|refine guard_tt ?_|refine guard_ff ?_|refine guard_tf ?_|refine guard_ft ?_|refine cond_t ?_|refine cond_f ?_|refine Z1 ?_|refine Z2 ?_|refine stp ?_|(refine And.intro ?_ ?_<;>intro h<;>try first|(exfalso;omega)|exact absurd rfl h)|refine Z3 ?_|refine Z4 ?_|intro el hel hbB|intro el hel|intro ex|refine Z5 ?_|(refine free_i ?_ ?_;exact ⟨by kernel_rfl,by decide⟩)|refine allI_c ?_ ?_|exact allI_n|refine allMP_c ?_ ?_|exact allMP_n|(refine many_step ?_ ?_ ?_;kernel_rfl;kernel_rfl)) <;> (try (conv => whnf)))
        all_goals first
          | exact ret_tmp rfl rfl
          | (exfalso; omega)
  · rw [if_neg hce]
    rw [cndA_eq] at *
    refine fcall_intro (n := 63) Tryz.func54 (by kernel_rfl) rfl rfl rfl rfl rfl (by intro t T h; cases h) (fun hrd E h0 => ?_)
    clear hrd
    repeat' ((first | refine call_i hchk ?_ |refine aops_go ?_|refine awp_go ?_|refine guard_tt ?_|refine guard_ff ?_|refine guard_tf ?_|refine guard_ft ?_|refine cond_t ?_|refine cond_f ?_|refine Z1 ?_|refine Z2 ?_|refine stp ?_|(refine And.intro ?_ ?_<;>intro h<;>try first|(exfalso;omega)|exact absurd rfl h)|refine Z3 ?_|refine Z4 ?_|intro el hel hbB|intro el hel|intro ex|refine Z5 ?_|(refine free_i ?_ ?_;exact ⟨by kernel_rfl,by decide⟩)|refine allI_c ?_ ?_|exact allI_n|refine allMP_c ?_ ?_|exact allMP_n|(refine many_step ?_ ?_ ?_;kernel_rfl;kernel_rfl)) <;> (try (conv => whnf)))
    all_goals first
      | exact ret_nil (sz := 2) rfl rfl
      | (exfalso; contradiction)
end Go.Proofs.YtepdcljecfibpaaGreatDoor

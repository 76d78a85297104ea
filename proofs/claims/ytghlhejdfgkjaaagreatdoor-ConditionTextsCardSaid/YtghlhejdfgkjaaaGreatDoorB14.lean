/- Draws: values, rows and picks: the walks. -/
import Derived.Test.YtghlhejdfgkjaaaGreatDoorB13
import Derived.Test.YtghlhejdfgkjaaaGreatDoorSx
namespace Go.Proofs.YtghlhejdfgkjaaaGreatDoor
open Go Go.Av
attribute [local irreducible] AWp AOps AAny MAny DQ retQ retG St.le FCall GCall
set_option linter.unusedVariables false
set_option linter.unnecessarySimpa false
set_option linter.unusedSimpArgs false
set_option maxRecDepth 100000

theorem valS_1 {l : List UInt8} {a : Nat} {s : Sch} {k : Int} {c : Col} (hca : colAt s k = c) (h : c.kind = 1) : valS l a s k = (1 + ((nxt l a 60).1 : Int), (nxt l a 60).2) := by unfold valS; dsimp only; rw [hca, if_pos h]
theorem valS_2 {l : List UInt8} {a : Nat} {s : Sch} {k : Int} {c : Col} (hca : colAt s k = c) (h1 : ¬ c.kind = 1) (h : c.kind = 2) : valS l a s k = ((((lvsS s k).getD (nxt l a (lvsS s k).length).1 0 : Nat) : Int), (nxt l a (lvsS s k).length).2) := by unfold valS; dsimp only; rw [hca, if_neg h1, if_pos h]
theorem valS_3 {l : List UInt8} {a : Nat} {s : Sch} {k : Int} {c : Col} (hca : colAt s k = c) (h1 : ¬ c.kind = 1) (h2 : ¬ c.kind = 2) (h : c.opt = true) (h4 : ((nxt l a 4).1 : Int) = 3) : valS l a s k = ((-1099511627776), (nxt l a 4).2) := by unfold valS; dsimp only; rw [hca, if_neg h1, if_neg h2, if_pos h, if_pos h4]
theorem valS_4 {l : List UInt8} {a : Nat} {s : Sch} {k : Int} {c : Col} (hca : colAt s k = c) (h1 : ¬ c.kind = 1) (h2 : ¬ c.kind = 2) (h : c.opt = true) (h4 : ¬ ((nxt l a 4).1 : Int) = 3) : valS l a s k = (c.low + ((nxt l (nxt l a 4).2 (c.high - c.low + 1)).1 : Int), (nxt l (nxt l a 4).2 (c.high - c.low + 1)).2) := by unfold valS; dsimp only; rw [hca, if_neg h1, if_neg h2, if_pos h, if_neg h4]
theorem valS_5 {l : List UInt8} {a : Nat} {s : Sch} {k : Int} {c : Col} (hca : colAt s k = c) (h1 : ¬ c.kind = 1) (h2 : ¬ c.kind = 2) (h : c.opt = false) : valS l a s k = (c.low + ((nxt l a (c.high - c.low + 1)).1 : Int), (nxt l a (c.high - c.low + 1)).2) := by unfold valS; dsimp only; rw [hca, if_neg h1, if_neg h2, if_neg (by rw [h]; exact Bool.false_ne_true)]
set_option maxHeartbeats 4000000 in
theorem value_call (l : List UInt8) (a : Nat) (s : Sch) (k : Nat) {c : Col} (hd : Drawn s) (hc : s.cols[k]? = some c) (hl : l.length ≤ 400) : GCall Tryz.prog 70 1 (drB l a) [.ref 0 0, sA s, .i k] 1 (drB l (valS l a s k).2) (.i (valS l a s k).1) := by
  have hca : colAt s k = c := colAt_get (by simpa using hc)
  have hlt := lt_of_get hc
  have hln := hd.lens
  have hm : ¬ c.kind = 1 → ¬ c.kind = 2 → c.low ≤ c.high ∧ -4 ≤ c.low ∧ c.high ≤ 46 := by
    rcases hd.col hc with ⟨_, rfl⟩ | ⟨_, rfl | rfl⟩ | ⟨_, nm, hm⟩
    · intro h; exact absurd rfl h
    · intro _ h; exact absurd rfl h
    · intro _ h; exact absurd rfl h
    · have := hm.low; have := hm.high; omega
  have hlv : c.kind = 2 → FCall Tryz.prog 91 [sA s, .i k] (.sl 1 ((lvsS s k).map iA)) := fun h => leaves_call s k (by omega) (by simpa using hc) (hd.lvs hc h).1
  have hll : c.kind = 2 → (lvsS s k).length ≤ 10 ∧ (lvsS s k)[(nxt l a (lvsS s k).length).1]? = some ((lvsS s k).getD (nxt l a (lvsS s k).length).1 0) := by
    intro h
    obtain ⟨_, _, h1, h2⟩ := hd.lvs hc h
    have hn := nxt_lt l a (n := (lvsS s k).length) (by omega)
    have : (nxt l a (lvsS s k).length).1 < (lvsS s k).length := by omega
    rw [List.getD_eq_getElem?_getD, List.getElem?_eq_getElem this]
    exact ⟨h2, rfl⟩
  have r1 := range_call l a 1 60 hl (by omega) (by omega) (by omega)
  have r2 := fun (h1 : ¬ c.kind = 1) (h2 : ¬ c.kind = 2) (b : Nat) => range_call l b c.low c.high hl (hm h1 h2).1 (by have := hm h1 h2; omega) (by have := hm h1 h2; omega)
  have r3 := one_call l a 4 hl (by omega)
  have r4 := next_call l a (lvsS s k).length hl
  refine gcall_intro (n := 44) Tryz.func70 (by kernel_rfl) rfl rfl rfl rfl (fun E h0 => ?_)
  repeat' ((first | (refine each_knownm (x := c) hc (by omega) ?_) | (refine each_knownm (hll (by assumption)).2 (by omega) ?_) | refine call_i (hlv (by assumption)) ?_ | refine ⟨ncall_h [0] [0] r1 rfl rfl rfl rfl rfl ⟨rfl, trivial⟩ rfl rfl rfl rfl rfl ?_⟩ | refine ⟨ncall_h [0] [0] (r2 (by assumption) (by assumption) _) rfl rfl rfl rfl rfl ⟨rfl, trivial⟩ rfl rfl rfl rfl rfl ?_⟩ | refine ⟨ncall_h [0] [0] r3 rfl rfl rfl rfl rfl ⟨rfl, trivial⟩ rfl rfl rfl rfl rfl ?_⟩ | refine ⟨ncall_h [0] [0] r4 rfl rfl rfl rfl rfl ⟨rfl, trivial⟩ rfl rfl rfl rfl rfl ?_⟩ |refine aops_go ?_|refine awp_go ?_|refine guard_tt ?_|refine guard_ff ?_|refine guard_tf ?_|refine guard_ft ?_|refine cond_t ?_|refine cond_f ?_|refine Z1 ?_|refine Z2 ?_|refine stp ?_|(refine And.intro ?_ ?_<;>intro h<;>try first|(exfalso;omega)|exact absurd rfl h)|refine Z3 ?_|refine Z4 ?_|intro el hel hbB|intro el hel|intro ex|refine Z5 ?_|(refine free_i ?_ ?_;exact ⟨by kernel_rfl,by decide⟩)|refine allI_c ?_ ?_|exact allI_n|refine allMP_c ?_ ?_|exact allMP_n|(refine many_step ?_ ?_ ?_;kernel_rfl;kernel_rfl)) <;> (try (conv => whnf)))
  all_goals first
    | (rw [valS_1 hca (by assumption)]; exact retg_tmp (le_of h0 rfl ⟨rfl, trivial⟩ ⟨rfl, trivial⟩ rfl rfl rfl))
    | (rw [valS_2 hca (by assumption) (by assumption)]; exact retg_tmp (le_of h0 rfl ⟨rfl, trivial⟩ ⟨rfl, trivial⟩ rfl rfl rfl))
    | (rw [valS_3 hca (by assumption) (by assumption) (by assumption) (by omega)]; exact retg_tmp (le_of h0 rfl ⟨rfl, trivial⟩ ⟨rfl, trivial⟩ rfl rfl rfl))
    | (rw [valS_4 hca (by assumption) (by assumption) (by assumption) (by omega)]; exact retg_tmp (le_of h0 rfl ⟨rfl, trivial⟩ ⟨rfl, trivial⟩ rfl rfl rfl))
    | (rw [valS_5 hca (by assumption) (by assumption) (by assumption)]; exact retg_tmp (le_of h0 rfl ⟨rfl, trivial⟩ ⟨rfl, trivial⟩ rfl rfl rfl))
    | trace_state

set_option maxHeartbeats 4000000 in
theorem row_draw (l : List UInt8) (a : Nat) (s : Sch) (hd : Drawn s) (hl : l.length ≤ 400) : GCall Tryz.prog 23 1 (drB l a) [.ref 0 0, sA s] 2 [(0, some (.box [.sl 1 (l.map u8A), .i (rowS l a s).2])), (1, some (.row 3 1 0 ((rowS l a s).1.map wA)))] (.row 1 0 s.cols.length) := by
  have hln := hd.lens
  refine gcall_intro (n := 22) Tryz.func23 (by kernel_rfl) rfl rfl rfl rfl (fun E h0 => ?_)
  repeat' ((first|refine aops_go ?_|refine awp_go ?_|refine guard_tt ?_|refine guard_ff ?_|refine guard_tf ?_|refine guard_ft ?_|refine cond_t ?_|refine cond_f ?_|refine Z1 ?_|refine Z2 ?_|refine stp ?_|(refine And.intro ?_ ?_<;>intro h<;>try first|(exfalso;omega)|exact absurd rfl h)|refine Z3 ?_|refine Z4 ?_|intro el hel hbB|intro el hel|intro ex|refine Z5 ?_|(refine free_i ?_ ?_;exact ⟨by kernel_rfl,by decide⟩)|refine allI_c ?_ ?_|exact allI_n|refine allMP_c ?_ ?_|exact allMP_n|(refine many_step ?_ ?_ ?_;kernel_rfl;kernel_rfl)) <;> (try (conv => whnf)))
  refine loop_i (ι := Nat × List Int × Nat) (fun x => ⟨[(0, .ref 0 0), (3, .ref 1 0), (5, .row 2 0 x.1), (9, .i s.cols.length), (10, .i x.1)], 3, [(0, some (.box [.sl 1 (l.map u8A), .i x.2.2])), (1, some (.box (sL s))), (2, some (.row 3 1 0 (x.2.1.map wA)))]⟩)
    (fun x => x.1 ≤ s.cols.length ∧ x.2.1.length = x.1 ∧ rowS l a s = rowFrom l s x.1 x.2 (s.cols.length - x.1)) (fun x => s.cols.length - x.1) (0, [], a) ⟨by dsimp only; omega, rfl, rfl⟩
    (le_trans (le_adopt (d := 5) (e := 3) (sz := 1) rfl) (le_of h0 rfl ⟨rfl, rfl, rfl, rfl, rfl, trivial⟩ ⟨rfl, rfl, ⟨0, rfl⟩, trivial⟩ rfl rfl rfl)) (fun x hI => ?_)
  obtain ⟨k, out, b⟩ := x
  obtain ⟨hk, hlen, hI⟩ := hI
  dsimp only at hk hlen hI ⊢
  have hv := fun (h : (k : Int) < s.cols.length) => value_call l b s k hd (List.getElem?_eq_getElem (show k < s.cols.length by omega)) hl
  repeat' ((first | refine ⟨ncall_h [0] [0] (hv (by assumption)) rfl rfl rfl rfl rfl ⟨rfl, trivial⟩ rfl rfl rfl rfl rfl ?_⟩ |refine aops_go ?_|refine awp_go ?_|refine guard_tt ?_|refine guard_ff ?_|refine guard_tf ?_|refine guard_ft ?_|refine cond_t ?_|refine cond_f ?_|refine Z1 ?_|refine Z2 ?_|refine stp ?_|(refine And.intro ?_ ?_<;>intro h<;>try first|(exfalso;omega)|exact absurd rfl h)|refine Z3 ?_|refine Z4 ?_|intro el hel hbB|intro el hel|intro ex|refine Z5 ?_|(refine free_i ?_ ?_;exact ⟨by kernel_rfl,by decide⟩)|refine allI_c ?_ ?_|exact allI_n|refine allMP_c ?_ ?_|exact allMP_n|(refine many_step ?_ ?_ ?_;kernel_rfl;kernel_rfl)) <;> (try (conv => whnf)))
  all_goals first
    | exact ⟨(k + 1, out ++ [(valS l b s k).1], (valS l b s k).2), ⟨by dsimp only; omega, by dsimp only; rw [List.length_append, List.length_singleton, hlen], by rw [hI, show s.cols.length - k = (s.cols.length - (k + 1)) + 1 by omega]; rfl⟩, by dsimp only; omega, le_of h0 rfl ⟨rfl, rfl, rfl, rfl, rfl, trivial⟩ ⟨rfl, rfl, ⟨_, congrArg (Blk.row 3 1 _) (by rw [List.map_append]; rfl)⟩, trivial⟩ rfl rfl rfl⟩
    | (have e : rowS l a s = (out, b) := by rw [hI, show s.cols.length - k = 0 by omega]; rfl
       have ek : k = s.cols.length := by omega
       rw [e]
       exact retg_tmp (le_trans (le_swp 1 2 h0 rfl rfl) (le_of h0 rfl ⟨congrArg (fun z : Nat => some (AV.row 1 0 z)) ek, trivial⟩ ⟨rfl, ⟨_, rfl⟩, trivial⟩ rfl rfl rfl)))
    | trace_state

end Go.Proofs.YtghlhejdfgkjaaaGreatDoor

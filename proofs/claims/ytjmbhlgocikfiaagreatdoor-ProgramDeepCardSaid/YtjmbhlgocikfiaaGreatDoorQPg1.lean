/- Chapter 16: the program's reader: columns, conditions, words of operations. -/
import Derived.Test.YtjmbhlgocikfiaaGreatDoorQPg0
import Derived.Test.YtjmbhlgocikfiaaGreatDoorQPt1
namespace Go.Proofs.YtjmbhlgocikfiaaGreatDoor
open Go Go.Av
attribute [local irreducible] AWp AOps AAny MAny DQ retQ retG St.le FCall GCall
set_option linter.unusedVariables false
set_option linter.unnecessarySimpa false
set_option linter.unusedSimpArgs false
set_option maxRecDepth 100000
set_option maxHeartbeats 4000000 in
theorem cprefix_call (s : Sch) (hr : schE s = 0) (t : List UInt8) (ht : t.length ≤ 140737488355328) : FCall Tryz.prog 183 [sA s, .str t] (.tup [cndA (conP s 10 40 t).c, .str (conP s 10 40 t).t, .b (conP s 10 40 t).ok]) := by
  have h2 := pcond_call s hr 10 (Nat.le_refl _) 40 t (by decide) (by decide) ht
  generalize conP s 10 40 t = a at *
  obtain ⟨ac, aok, at', al⟩ := a
  dsimp only at *
  refine fci Tryz.func183 25 fun hrd E h0 => ?_
  clear hrd
  repeat' ((first | (refine draw_id 3 ?_; refine draw_e (id := 3) ⟨[(4, .ref 1 0), (5, .str at'), (6, .b aok)], 4, [(1, some (.box (cndX ac)))]⟩ ?_ ?_) | refine ⟨ncall_h [2] [0] h2 rfl rfl rfl rfl rfl ⟨rfl, trivial⟩ rfl rfl rfl rfl rfl ?_⟩ |refine aops_go ?_|refine S1 ?_|refine Z1 ?_|refine Z2 ?_|(refine And.intro ?_ ?_<;>intro h<;>try first|(exfalso;omega)|exact absurd rfl h)|refine Z3 ?_|refine Z4 ?_|intro el hel hbB|intro el hel|intro ex|refine Z5 ?_|(refine free_i ?_ ?_;exact ⟨by kernel_rfl,by decide⟩)|refine allI_c ?_ ?_|exact allI_n|refine allMP_c ?_ ?_|exact allMP_n|(refine many_step ?_ ?_ ?_;kernel_rfl;kernel_rfl)) <;> (try (conv => whnf)))
  all_goals first
    | exact le_of h0 rfl ⟨rfl, rfl, rfl, trivial⟩ ⟨rfl, trivial⟩ rfl rfl rfl
    | exact ret_vs (rs := [.cell 4 cndT, .tmp 5, .tmp 6]) (vs := [_, _, _]) rfl ⟨retv_cell rfl rfl rfl (.refl _), ⟨_, rfl, .refl _⟩, ⟨_, rfl, .refl _⟩, trivial⟩ rfl
set_option maxHeartbeats 4000000 in
theorem pcol_call (s : Sch) (t : List UInt8) (ht : t.length ≤ 140737488355328) : GCall Tryz.prog 152 1 (rdP s t) [.ref 0 0] 1 (rdP s (t.dropWhile isW)) (.tup [.i (findS2 s (t.takeWhile isW)), .b (decide (0 ≤ findS2 s (t.takeWhile isW)))]) := by
  have h1 := pword_call s t (by omega)
  have h2 := find2_call s (t.takeWhile isW)
  generalize t.takeWhile isW = w at *
  generalize t.dropWhile isW = u at *
  generalize findS2 s w = c at *
  refine gci Tryz.func152 15 fun E h0 => ?_
  repeat' ((first | (refine draw_id 1 ?_; refine draw_m (id := 1) ⟨[(4, .i c)], 1, rdP s u⟩ ?_ ?_) | refine call_i h2 ?_ |refine aops_go ?_|refine S1 ?_|refine Z1 ?_|refine Z2 ?_|(refine And.intro ?_ ?_<;>intro h<;>try first|(exfalso;omega)|exact absurd rfl h)|refine Z3 ?_|refine Z4 ?_|intro el hel hbB|intro el hel|intro ex|refine Z5 ?_|(refine free_i ?_ ?_;exact ⟨by kernel_rfl,by decide⟩)|refine allI_c ?_ ?_|exact allI_n|refine allMP_c ?_ ?_|exact allMP_n|(refine many_step ?_ ?_ ?_;kernel_rfl;kernel_rfl) | refine nc [0] [0] h1 rfl rfl rfl ⟨rfl, trivial⟩ ?_) <;> (try (conv => whnf)))
  all_goals first
    | exact le_of h0 rfl ⟨rfl, trivial⟩ ⟨rfl, trivial⟩ rfl rfl rfl
    | exact retg_vs (rvs := [.tmp 2, .tmp 3]) (vs := [_, _]) trivial rfl rfl (le_of h0 rfl ⟨rfl, rfl, trivial⟩ ⟨rfl, trivial⟩ rfl rfl rfl) rfl
theorem pcol_yes {s : Sch} {t u : List UInt8} {c : Int} (h : colO s t = some (c, u)) (ht : t.length ≤ 140737488355328) : GCall Tryz.prog 152 1 (rdP s t) [.ref 0 0] 1 (rdP s u) (.tup [.i c, .b true]) ∧ u.length ≤ t.length := by
  unfold colO at h
  split at h
  · rename_i hh
    have hd := dropWhile_len isW t
    cases h
    have := pcol_call s t ht
    rw [decide_eq_true hh] at this
    exact ⟨this, hd⟩
  · cases h
theorem pcol_no {s : Sch} {t : List UInt8} (h : colO s t = none) (ht : t.length ≤ 140737488355328) : ∃ (v : Int) (u : List UInt8), GCall Tryz.prog 152 1 (rdP s t) [.ref 0 0] 1 (rdP s u) (.tup [.i v, .b false]) := by
  refine ⟨findS2 s (t.takeWhile isW), t.dropWhile isW, ?_⟩
  unfold colO at h
  split at h
  · cases h
  · rename_i hh
    have := pcol_call s t ht
    rw [decide_eq_false hh] at this
    exact this
set_option maxHeartbeats 4000000 in
theorem pcnd_call (s : Sch) (hr : schE s = 0) (t : List UInt8) (ht : t.length ≤ 140737488355328) : GCall Tryz.prog 154 1 (rdP s t) [.ref 0 0] 1 (rdP s (conP s 10 40 t).t) (.tup [cndA (conP s 10 40 t).c, .b (conP s 10 40 t).ok]) := by
  have h1 := cprefix_call s hr t ht
  generalize conP s 10 40 t = a at *
  obtain ⟨ac, aok, at', al⟩ := a
  dsimp only at *
  refine gci Tryz.func154 26 fun E h0 => ?_
  repeat' ((first | (refine draw_id 1 ?_; refine draw_m (id := 1) ⟨[(0, .ref 0 0), (2, .ref 1 0), (4, .ref 2 0), (5, .str at'), (6, .b aok)], 3, [(0, some (.box [.sl 2 (s.lists.map clL), .sl 7 (s.cols.map colL), .str t])), (1, some (.box [.i 0, .i 0, .i 0, .i 0, .i 0, .v (.slice none 0 0)])), (2, some (.box (cndX ac)))]⟩ ?_ ?_) | refine call_i h1 ?_ |refine aops_go ?_|refine S1 ?_|refine Z1 ?_|refine Z2 ?_|(refine And.intro ?_ ?_<;>intro h<;>try first|(exfalso;omega)|exact absurd rfl h)|refine Z3 ?_|refine Z4 ?_|intro el hel hbB|intro el hel|intro ex|refine Z5 ?_|(refine free_i ?_ ?_;exact ⟨by kernel_rfl,by decide⟩)|refine allI_c ?_ ?_|exact allI_n|refine allMP_c ?_ ?_|exact allMP_n|(refine many_step ?_ ?_ ?_;kernel_rfl;kernel_rfl)) <;> (try (conv => whnf)))
  all_goals first
    | exact le_of h0 rfl ⟨rfl, rfl, rfl, rfl, rfl, trivial⟩ ⟨rfl, rfl, rfl, trivial⟩ rfl rfl rfl
    | exact retg_vs (rvs := [.cell 2 cndT, .tmp 3]) (vs := [_, _]) ⟨1, _, _, rfl, rfl, inferInstance, rfl, rfl, trivial⟩ rfl rfl (le_of h0 rfl ⟨rfl, rfl, trivial⟩ ⟨rfl, trivial⟩ rfl rfl rfl) rfl
theorem pcnd_yes {s : Sch} (hr : schE s = 0) {t u : List UInt8} {c : Cnd} (h : cndO s t = some (c, u)) (ht : t.length ≤ 140737488355328) : GCall Tryz.prog 154 1 (rdP s t) [.ref 0 0] 1 (rdP s u) (.tup [cndA c, .b true]) ∧ u.length ≤ t.length := by
  unfold cndO at h
  split at h
  · rename_i hh
    have hd := (conP_ok s 10 40 t).1
    cases h
    have := pcnd_call s hr t ht
    rw [hh] at this
    exact ⟨this, hd⟩
  · cases h
theorem pcnd_no {s : Sch} (hr : schE s = 0) {t : List UInt8} (h : cndO s t = none) (ht : t.length ≤ 140737488355328) : ∃ (c : Cnd) (u : List UInt8), GCall Tryz.prog 154 1 (rdP s t) [.ref 0 0] 1 (rdP s u) (.tup [cndA c, .b false]) := by
  refine ⟨(conP s 10 40 t).c, (conP s 10 40 t).t, ?_⟩
  unfold cndO at h
  split at h
  · cases h
  · rename_i hh
    have := pcnd_call s hr t ht
    rw [eq_false_of_ne_true hh] at this
    exact this
end Go.Proofs.YtjmbhlgocikfiaaGreatDoor

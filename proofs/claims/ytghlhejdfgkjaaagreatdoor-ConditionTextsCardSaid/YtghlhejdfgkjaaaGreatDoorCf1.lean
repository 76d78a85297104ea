/- Chapter 5: the program's truth values from coarse values. -/
import Derived.Test.YtghlhejdfgkjaaaGreatDoorC3
import Derived.Test.YtghlhejdfgkjaaaGreatDoorC3
import Derived.Test.YtghlhejdfgkjaaaGreatDoorD2
namespace Go.Proofs.YtghlhejdfgkjaaaGreatDoor
open Go Go.Av
attribute [local irreducible] AWp AOps AAny MAny DQ retQ retG St.le FCall GCall
set_option linter.unusedVariables false
set_option linter.unnecessarySimpa false
set_option linter.unusedSimpArgs false
set_option maxRecDepth 100000

theorem finS_le {s : Sch} (hr : schE s = 0) {column level : Int} {c : Col} (h1 : 1 ≤ column) (hc : s.cols[column.toNat]? = some c) (h4 : level ≤ finS s column) (hk : c.kind = 3) : level ≤ c.widths.length := by
  have hlt := lt_of_get hc
  unfold finS at h4
  rw [if_neg (by omega), colAt_get hc, finC, if_neg (by omega)] at h4
  exact h4
set_option maxHeartbeats 8000000 in
theorem some_call (s : Sch) (hr : schE s = 0) (column level v : Int) (c : Col) (h1 : 1 ≤ column) (hc : s.cols[column.toNat]? = some c) (h3 : 0 ≤ level) (h4 : level ≤ finS s column) : FCall Tryz.prog 132 [sA s, .i column, .i level, .i v] (.tup [.i (someS s column level v).1, .b (someS s column level v).2]) := by
  obtain ⟨hk, hm⟩ := kind_of hr h1 hc
  unfold someS
  rw [colAt_get hc]
  by_cases hk3 : c.kind = 3
  · rw [if_pos hk3]
    have hle := finS_le hr h1 hc h4 hk3
    have hsp := span_call c level v (hm hk3) h3 hle
    by_cases hmv : 0 < level ∧ v = (-1099511627776)
    · rw [if_pos hmv]
      refine fcall_intro (n := 68) Tryz.func132 (by kernel_rfl) rfl rfl rfl rfl rfl (by intro t T h; cases h) (fun hrd E h0 => ?_)
      clear hrd
      repeat' ((first | (refine each_knownm (x := c) hc (by omega) ?_) |refine aops_go ?_|refine awp_go ?_|refine guard_tt ?_|refine guard_ff ?_|refine guard_tf ?_|refine guard_ft ?_|refine cond_t ?_|refine cond_f ?_|refine Z1 ?_|refine Z2 ?_|refine stp ?_|(refine And.intro ?_ ?_<;>intro h<;>try first|(exfalso;omega)|exact absurd rfl h)|refine Z3 ?_|refine Z4 ?_|intro el hel hbB|intro el hel|intro ex|refine Z5 ?_|(refine free_i ?_ ?_;exact ⟨by kernel_rfl,by decide⟩)|refine allI_c ?_ ?_|exact allI_n|refine allMP_c ?_ ?_|exact allMP_n|(refine many_step ?_ ?_ ?_;kernel_rfl;kernel_rfl)) <;> (try (conv => whnf)))
      all_goals first
        | (exfalso; omega)
        | exact ret_tmp2 rfl rfl rfl
        | trace_state
    · rw [if_neg hmv]
      generalize spanS c level v = S at *
      obtain ⟨a, b, ok⟩ := S
      refine fcall_intro (n := 68) Tryz.func132 (by kernel_rfl) rfl rfl rfl rfl rfl (by intro t T h; cases h) (fun hrd E h0 => ?_)
      clear hrd
      repeat' ((first | (refine each_knownm (x := c) hc (by omega) ?_) | refine call_i hsp ?_ |refine aops_go ?_|refine awp_go ?_|refine guard_tt ?_|refine guard_ff ?_|refine guard_tf ?_|refine guard_ft ?_|refine cond_t ?_|refine cond_f ?_|refine Z1 ?_|refine Z2 ?_|refine stp ?_|(refine And.intro ?_ ?_<;>intro h<;>try first|(exfalso;omega)|exact absurd rfl h)|refine Z3 ?_|refine Z4 ?_|intro el hel hbB|intro el hel|intro ex|refine Z5 ?_|(refine free_i ?_ ?_;exact ⟨by kernel_rfl,by decide⟩)|refine allI_c ?_ ?_|exact allI_n|refine allMP_c ?_ ?_|exact allMP_n|(refine many_step ?_ ?_ ?_;kernel_rfl;kernel_rfl)) <;> (try (conv => whnf)))
      all_goals first
        | (exfalso; omega)
        | exact ret_tmp2 rfl rfl rfl
        | trace_state
  · rw [if_neg hk3]
    have hk2 : c.kind = 2 := by omega
    have hl := RightS.lst hr (List.mem_of_getElem? hc) hk2
    obtain ⟨lx, hlx⟩ : ∃ l, s.lists[c.lst.toNat]? = some l := ⟨_, List.getElem?_eq_getElem (by omega)⟩
    have hchk : chk lx.1 lx.2 = 0 := (schE_parts hr).2.2.1 _ (List.mem_of_getElem? hlx)
    have hg := good60 hchk
    have hlb := levelsS_bd (nm := lx.1) (cs := lx.2) (by omega)
    have hall := atS_length lx.1 lx.2 (levelsS lx.1 lx.2 - 1)
    have hlev := levels_call lx.1 lx.2 (by omega)
    have hatc := at_call lx.1 lx.2 (levelsS lx.1 lx.2 - 1) (by omega)
    have hup := fun (leaf : Nat) => up_call lx.1 lx.2 leaf level (by omega)
    have e1 : lvsS s column = atS lx.1 lx.2 (levelsS lx.1 lx.2 - 1) := by
      unfold lvsS
      rw [colAt_get hc, lstOf_get hlx]
    have e2 : upL s column level = fun x : Nat => upS lx.1 lx.2 x level := by
      funext x
      unfold upL
      rw [colAt_get hc, lstOf_get hlx]
    rw [e1, e2]
    generalize atS lx.1 lx.2 (levelsS lx.1 lx.2 - 1) = L at *
    refine fcall_intro (n := 68) Tryz.func132 (by kernel_rfl) rfl rfl rfl rfl rfl (by intro t T h; cases h) (fun hrd E h0 => ?_)
    clear hrd
    repeat' ((first | (refine each_knownm (x := c) hc (by omega) ?_) | (refine each_knownm (x := lx) hlx (by omega) ?_) | refine call_i hlev ?_ | refine call_i hatc ?_ | (refine draw_q ?_ ?_; kernel_rfl) |refine aops_go ?_|refine awp_go ?_|refine guard_tt ?_|refine guard_ff ?_|refine guard_tf ?_|refine guard_ft ?_|refine cond_t ?_|refine cond_f ?_|refine Z1 ?_|refine Z2 ?_|refine stp ?_|(refine And.intro ?_ ?_<;>intro h<;>try first|(exfalso;omega)|exact absurd rfl h)|refine Z3 ?_|refine Z4 ?_|intro el hel hbB|intro el hel|intro ex|refine Z5 ?_|(refine free_i ?_ ?_;exact ⟨by kernel_rfl,by decide⟩)|refine allI_c ?_ ?_|exact allI_n|refine allMP_c ?_ ?_|exact allMP_n|(refine many_step ?_ ?_ ?_;kernel_rfl;kernel_rfl)) <;> (try (conv => whnf)))
    all_goals first
      | (exfalso; omega)
      | skip
    refine loop_i (ι := Nat) (fun k => ⟨[(2, .i level), (3, .i v), (14, .ref 2 0), (54, .sl 1 (L.map iA)), (55, .i L.length), (56, .i k)], 3, [(2, some (.box (clL lx)))]⟩)
      (fun k => k ≤ L.length ∧ findK (fun x : Nat => upS lx.1 lx.2 x level) v L = findK (fun x : Nat => upS lx.1 lx.2 x level) v (L.drop k)) (fun k => L.length - k) 0 ⟨Nat.zero_le _, rfl⟩
      (le_of h0 rfl ⟨rfl, rfl, rfl, rfl, rfl, rfl, trivial⟩ ⟨rfl, trivial⟩ rfl rfl rfl) (fun k hI => ?_)
    obtain ⟨hk1, hI⟩ := hI
    repeat' ((first | refine call_i (hup _) ?_ |refine aops_go ?_|refine awp_go ?_|refine guard_tt ?_|refine guard_ff ?_|refine guard_tf ?_|refine guard_ft ?_|refine cond_t ?_|refine cond_f ?_|refine Z1 ?_|refine Z2 ?_|refine stp ?_|(refine And.intro ?_ ?_<;>intro h<;>try first|(exfalso;omega)|exact absurd rfl h)|refine Z3 ?_|refine Z4 ?_|intro el hel hbB|intro el hel|intro ex|refine Z5 ?_|(refine free_i ?_ ?_;exact ⟨by kernel_rfl,by decide⟩)|refine allI_c ?_ ?_|exact allI_n|refine allMP_c ?_ ?_|exact allMP_n|(refine many_step ?_ ?_ ?_;kernel_rfl;kernel_rfl)) <;> (try (conv => whnf)))
    all_goals first
      | exact ret_tmp2 rfl rfl (by rw [hI, dropc hel, findK, if_pos h]; rfl)
      | exact ret_tmp2 rfl rfl (by rw [hI, drop_end h]; rfl)
      | exact ⟨k + 1, ⟨by omega, by rw [hI, dropc hel, findK, if_neg h]⟩, by omega, le_of h0 rfl ⟨rfl, rfl, rfl, rfl, rfl, rfl, trivial⟩ ⟨rfl, trivial⟩ rfl rfl rfl⟩
      | trace_state

/-! ### A row made of values at levels -/
theorem toldV_snoc {s : Sch} {l : List (Pk × Int)} {q : Pk × Int} (h1 : 1 ≤ q.1.col) (i : Nat) : toldV s (l ++ [q]) i = if q.1.col.toNat = i then (someS s q.1.col q.1.lev q.2).1 else toldV s l i := by
  unfold toldV
  rw [lastV_snoc]
  by_cases e : q.1.col.toNat = i
  · have e2 : q.1.col = (i : Int) := by omega
    rw [if_pos e2, if_pos e, if_neg (by omega), e2]
  · rw [if_neg (show ¬ q.1.col = (i : Int) by omega), if_neg e]
theorem rowF_congr {f g : Nat → Int} {n : Nat} (h : ∀ i, i < n → f i = g i) : rowF f n = rowF g n := by
  unfold rowF
  refine List.map_congr_left fun i hi => ?_
  rw [h i (List.mem_range.1 hi)]
def okAll (s : Sch) (pv : List (Pk × Int)) : Bool := pv.all fun q => (someS s q.1.col q.1.lev q.2).2
def tldS (s : Sch) (c : Cnd) (pv : List (Pk × Int)) : Int := if okAll s pv = true then holdS s c ((List.range s.cols.length).map (toldV s pv)) else 0
theorem all_not {α : Type} {p : α → Bool} {l : List α} {k : Nat} {x : α} (hx : l[k]? = some x) (h : p x = false) : l.all p = false := by
  rw [List.all_eq_false]
  exact ⟨x, List.mem_of_getElem? hx, by rw [h]; decide⟩
theorem all_take {α : Type} {p : α → Bool} {l : List α} {k : Nat} {x : α} (hx : l[k]? = some x) (h : (l.take k).all p = true) (hp : p x = true) : (l.take (k + 1)).all p = true := by
  rw [takec hx, List.all_append, h]
  simp [hp]
/-- What is known of right picks. -/
theorem picks_get {s : Sch} {l : List Pk} (h : picksE s l = 0) : ∀ (k : Nat) p, l[k]? = some p → 1 ≤ p.col ∧ p.col < s.cols.length ∧ 0 ≤ p.lev ∧ p.lev ≤ finS s p.col := by
  unfold picksE at h
  by_cases hr : schE s = 0
  · rw [if_pos hr] at h
    intro k p hp
    have := firstE_zero h k p hp
    rw [Nat.zero_add] at this
    unfold pksE at this
    by_cases hq : pkE s p = 0
    · unfold pkE at hq
      split at hq
      · cases hq
      · rename_i h1
        split at hq
        · cases hq
        · rename_i h2
          unfold finS at h1 ⊢
          unfold finS at h2
          split at h1
          · omega
          · rename_i h3
            rw [if_neg h3] at h2 ⊢
            omega
    · rw [if_neg hq] at this
      exact absurd this hq
  · rw [if_neg hr] at h
    exact absurd h hr
set_option maxHeartbeats 8000000 in
theorem told_call (s : Sch) (hr : schE s = 0) (c : Cnd) (hcs : chkS s c = 0) (picks : List Pk) (values : List Int) (hp : picksE s picks = 0) (hl : values.length = picks.length) : FCall Tryz.prog 84 [sA s, cndA c, .sl 2 (picks.map pkL), .sl 1 (values.map wA)] (.i (tldS s c (picks.zip values))) := by
  have hpg := picks_get hp
  have hn := (schE_parts hr).2.1
  have hh := holds_call s hr c hcs ((List.range s.cols.length).map (toldV s (picks.zip values))) (by simp)
  unfold tldS
  have hzl : (picks.zip values).length = picks.length := by rw [List.length_zip]; omega
  generalize hpv : picks.zip values = pv at *
  have hget : ∀ (k : Nat) p v, picks[k]? = some p → values[k]? = some v → pv[k]? = some (p, v) := fun k p v h1 h2 => by
    rw [← hpv, List.getElem?_zip_eq_some]; exact ⟨h1, h2⟩
  rw [cndA_eq] at *
  refine fcall_intro (n := 66) Tryz.func84 (by kernel_rfl) rfl rfl rfl rfl rfl (by intro t T h; cases h) (fun hrd E h0 => ?_)
  have hlen : picks.length ≤ 9223372036854775807 := by have := (hrd (.sl 2 (picks.map pkL)) (by simp)).sl; simpa using this
  clear hrd
  repeat' ((first|refine aops_go ?_|refine awp_go ?_|refine guard_tt ?_|refine guard_ff ?_|refine guard_tf ?_|refine guard_ft ?_|refine cond_t ?_|refine cond_f ?_|refine Z1 ?_|refine Z2 ?_|refine stp ?_|(refine And.intro ?_ ?_<;>intro h<;>try first|(exfalso;omega)|exact absurd rfl h)|refine Z3 ?_|refine Z4 ?_|intro el hel hbB|intro el hel|intro ex|refine Z5 ?_|(refine free_i ?_ ?_;exact ⟨by kernel_rfl,by decide⟩)|refine allI_c ?_ ?_|exact allI_n|refine allMP_c ?_ ?_|exact allMP_n|(refine many_step ?_ ?_ ?_;kernel_rfl;kernel_rfl)) <;> (try (conv => whnf)))
  refine loop_i (ι := Nat) (fun i => ⟨[(2, .sl 2 (picks.map pkL)), (3, .sl 1 (values.map wA)), (4, .ref 0 0), (5, .ref 1 0), (9, .row 2 0 s.cols.length), (10, .i i)], 3, [(0, some (.box (sL s))), (1, some (.box (cndY c))), (2, some (.row 3 1 0 (rowF (fun j => if j = 0 then 0 else if j < i then (someS s j 0 0).1 else 0) s.cols.length)))]⟩)
    (fun i => 1 ≤ i ∧ i ≤ max 1 s.cols.length) (fun i => s.cols.length - i) 1 ⟨Nat.le_refl _, by omega⟩
    (le_of h0 rfl ⟨rfl, rfl, rfl, rfl, rfl, rfl, trivial⟩ ⟨rfl, rfl, ⟨0, congrArg (Blk.row 3 1 0) (by rw [Int.toNat_natCast]; refine Eq.trans ?_ (rowF_zero _).symm; exact rowF_congr fun j hj => by split; rfl; rw [if_neg (by omega)])⟩, trivial⟩ rfl rfl rfl) (fun i hI => ?_)
  obtain ⟨hi1, hi2⟩ := hI
  by_cases hlt : i < s.cols.length
  · obtain ⟨x, hx⟩ : ∃ x, s.cols[i]? = some x := ⟨_, List.getElem?_eq_getElem hlt⟩
    have hsc := some_call s hr i 0 0 x (by omega) (by simpa using hx) (Int.le_refl _) (finS_nn hr (by omega) (by omega))
    have hrow : (rowF (fun j => if j = 0 then 0 else if j < i then (someS s j 0 0).1 else 0) s.cols.length)[((((i : Nat) : Int).toNat : Nat) : Int).toNat]? = some [.i (if i = 0 then 0 else if i < i then (someS s i 0 0).1 else 0)] := by
      rw [Int.toNat_natCast, Int.toNat_natCast]; exact rowF_get hlt
    have hset : (rowF (fun j => if j = 0 then 0 else if j < i then (someS s j 0 0).1 else 0) s.cols.length).set i [.i (someS s i 0 0).1] = rowF (fun j => if j = 0 then 0 else if j < i + 1 then (someS s j 0 0).1 else 0) s.cols.length := by
      rw [rowF_set]
      refine rowF_congr fun j hj => ?_
      by_cases e : i = j
      · subst e
        rw [if_pos rfl, if_neg (by omega), if_pos (by omega)]
      · rw [if_neg e]
        by_cases e0 : j = 0
        · rw [if_pos e0, if_pos e0]
        · rw [if_neg e0, if_neg e0]
          by_cases e1 : j < i
          · rw [if_pos e1, if_pos (by omega)]
          · rw [if_neg e1, if_neg (by omega)]
    repeat' ((first | refine call_i hsc ?_ |refine aops_go ?_|refine awp_go ?_|refine guard_tt ?_|refine guard_ff ?_|refine guard_tf ?_|refine guard_ft ?_|refine cond_t ?_|refine cond_f ?_|refine Z1 ?_|refine Z2 ?_|refine stp ?_|(refine And.intro ?_ ?_<;>intro h<;>try first|(exfalso;omega)|exact absurd rfl h)|refine Z3 ?_|refine Z4 ?_|intro el hel hbB|intro el hel|intro ex|refine Z5 ?_|(refine free_i ?_ ?_;exact ⟨by kernel_rfl,by decide⟩)|refine allI_c ?_ ?_|exact allI_n|refine allMP_c ?_ ?_|exact allMP_n|(refine many_step ?_ ?_ ?_;kernel_rfl;kernel_rfl)) <;> (try (conv => whnf)))
    all_goals first
      | (exfalso; omega)
      | exact ⟨i + 1, by omega, by omega, le_of h0 rfl ⟨rfl, rfl, rfl, rfl, rfl, rfl, trivial⟩ ⟨rfl, rfl, ⟨_, congrArg (Blk.row 3 1 _) hset.symm⟩, trivial⟩ rfl rfl rfl⟩
      | trace_state
  · have hrow0 : rowF (fun j => if j = 0 then 0 else if j < i then (someS s j 0 0).1 else 0) s.cols.length = rowF (toldV s []) s.cols.length := rowF_congr fun j hj => by
      unfold toldV lastV
      by_cases e : j = 0
      · rw [if_pos e, if_pos ⟨e, rfl⟩]
      · rw [if_neg e, if_pos (show j < i by omega), if_neg (fun hh : j = 0 ∧ _ => e hh.1)]
        rfl
    rw [hrow0]
    repeat' ((first|refine aops_go ?_|refine awp_go ?_|refine guard_tt ?_|refine guard_ff ?_|refine guard_tf ?_|refine guard_ft ?_|refine cond_t ?_|refine cond_f ?_|refine Z1 ?_|refine Z2 ?_|refine stp ?_|(refine And.intro ?_ ?_<;>intro h<;>try first|(exfalso;omega)|exact absurd rfl h)|refine Z3 ?_|refine Z4 ?_|intro el hel hbB|intro el hel|intro ex|refine Z5 ?_|(refine free_i ?_ ?_;exact ⟨by kernel_rfl,by decide⟩)|refine allI_c ?_ ?_|exact allI_n|refine allMP_c ?_ ?_|exact allMP_n|(refine many_step ?_ ?_ ?_;kernel_rfl;kernel_rfl)) <;> (try (conv => whnf)))
    all_goals first
      | (exfalso; omega)
      | skip
    refine loop_i (ι := Nat) (fun k => ⟨[(3, .sl 1 (values.map wA)), (4, .ref 0 0), (5, .ref 1 0), (9, .row 2 0 s.cols.length), (34, .sl 2 (picks.map pkL)), (35, .i picks.length), (36, .i k)], 3, [(0, some (.box (sL s))), (1, some (.box (cndY c))), (2, some (.row 3 1 0 (rowF (toldV s (pv.take k)) s.cols.length)))]⟩)
      (fun k => k ≤ picks.length ∧ okAll s (pv.take k) = true) (fun k => picks.length - k) 0 ⟨Nat.zero_le _, rfl⟩
      (le_of h0 rfl ⟨rfl, rfl, rfl, rfl, rfl, rfl, rfl, trivial⟩ ⟨rfl, rfl, ⟨_, rfl⟩, trivial⟩ rfl rfl rfl) (fun k hK => ?_)
    obtain ⟨hk1, hK⟩ := hK
    by_cases hkl : k < picks.length
    · obtain ⟨p, hpk⟩ : ∃ p, picks[k]? = some p := ⟨_, List.getElem?_eq_getElem hkl⟩
      obtain ⟨v, hvk⟩ : ∃ v, values[k]? = some v := ⟨_, List.getElem?_eq_getElem (by omega)⟩
      have hq := hget k p v hpk hvk
      obtain ⟨c1, c2, c3, c4⟩ := hpg k p hpk
      obtain ⟨x, hx⟩ : ∃ x, s.cols[p.col.toNat]? = some x := ⟨_, List.getElem?_eq_getElem (by omega)⟩
      have hsc := some_call s hr p.col p.lev v x c1 hx c3 c4
      have hsn := fun i => toldV_snoc (s := s) (l := pv.take k) (q := (p, v)) c1 i
      rw [← takec hq] at hsn
      have hok : okAll s (pv.take (k + 1)) = (someS s p.col p.lev v).2 := by
        unfold okAll at hK ⊢
        rw [takec hq, List.all_append, hK]
        simp
      dsimp only at hsn
      have hbad : (someS s p.col p.lev v).2 = false → okAll s pv = false := fun h => all_not hq h
      generalize someS s p.col p.lev v = S at *
      obtain ⟨w, ok⟩ := S
      dsimp only at *
      cases ok
      · rw [if_neg (by rw [hbad rfl]; decide)]
        repeat' ((first | refine call_i hsc ?_ | (refine each_knownm (x := p) hpk (by omega) ?_) | (refine each_knownm (x := v) hvk (by omega) ?_) | (refine draw_q ?_ ?_; kernel_rfl) |refine aops_go ?_|refine awp_go ?_|refine guard_tt ?_|refine guard_ff ?_|refine guard_tf ?_|refine guard_ft ?_|refine cond_t ?_|refine cond_f ?_|refine Z1 ?_|refine Z2 ?_|refine stp ?_|(refine And.intro ?_ ?_<;>intro h<;>try first|(exfalso;omega)|exact absurd rfl h)|refine Z3 ?_|refine Z4 ?_|intro el hel hbB|intro el hel|intro ex|refine Z5 ?_|(refine free_i ?_ ?_;exact ⟨by kernel_rfl,by decide⟩)|refine allI_c ?_ ?_|exact allI_n|refine allMP_c ?_ ?_|exact allMP_n|(refine many_step ?_ ?_ ?_;kernel_rfl;kernel_rfl)) <;> (try (conv => whnf)))
        all_goals first
          | (exfalso; omega)
          | exact ret_tmp rfl rfl
          | trace_state
      · have hrow : (rowF (toldV s (pv.take k)) s.cols.length)[((p.col.toNat : Nat) : Int).toNat]? = some [.i (toldV s (pv.take k) p.col.toNat)] := by
          rw [Int.toNat_natCast]; exact rowF_get (by omega)
        repeat' ((first | refine call_i hsc ?_ | (refine each_knownm (x := p) hpk (by omega) ?_) | (refine each_knownm (x := v) hvk (by omega) ?_) | (refine draw_q ?_ ?_; kernel_rfl) |refine aops_go ?_|refine awp_go ?_|refine guard_tt ?_|refine guard_ff ?_|refine guard_tf ?_|refine guard_ft ?_|refine cond_t ?_|refine cond_f ?_|refine Z1 ?_|refine Z2 ?_|refine stp ?_|(refine And.intro ?_ ?_<;>intro h<;>try first|(exfalso;omega)|exact absurd rfl h)|refine Z3 ?_|refine Z4 ?_|intro el hel hbB|intro el hel|intro ex|refine Z5 ?_|(refine free_i ?_ ?_;exact ⟨by kernel_rfl,by decide⟩)|refine allI_c ?_ ?_|exact allI_n|refine allMP_c ?_ ?_|exact allMP_n|(refine many_step ?_ ?_ ?_;kernel_rfl;kernel_rfl)) <;> (try (conv => whnf)))
        all_goals first
          | (exfalso; omega)
          | exact ⟨k + 1, ⟨by omega, hok⟩, by omega, le_of h0 rfl ⟨rfl, rfl, rfl, rfl, rfl, rfl, rfl, trivial⟩ ⟨rfl, rfl, ⟨_, congrArg (Blk.row 3 1 _) (by refine Eq.trans ?_ rowF_set.symm; exact rowF_congr fun j hj => hsn j)⟩, trivial⟩ rfl rfl rfl⟩
          | trace_state
    · have hke : pv.take k = pv := List.take_of_length_le (by omega)
      rw [hke] at hK ⊢
      rw [if_pos hK]
      have hh2 : FCall Tryz.prog 72 [sA s, .agg (cndY c), .sl 1 (rowF (toldV s pv) s.cols.length)] (.i (holdS s c ((List.range s.cols.length).map (toldV s pv)))) := by
        have e : rowF (toldV s pv) s.cols.length = ((List.range s.cols.length).map (toldV s pv)).map wA := by unfold rowF; rw [List.map_map]; rfl
        rw [e]; exact hh
      repeat' ((first | refine ncall_frz 2 ?_ | refine call_i hh2 ?_ |refine aops_go ?_|refine awp_go ?_|refine guard_tt ?_|refine guard_ff ?_|refine guard_tf ?_|refine guard_ft ?_|refine cond_t ?_|refine cond_f ?_|refine Z1 ?_|refine Z2 ?_|refine stp ?_|(refine And.intro ?_ ?_<;>intro h<;>try first|(exfalso;omega)|exact absurd rfl h)|refine Z3 ?_|refine Z4 ?_|intro el hel hbB|intro el hel|intro ex|refine Z5 ?_|(refine free_i ?_ ?_;exact ⟨by kernel_rfl,by decide⟩)|refine allI_c ?_ ?_|exact allI_n|refine allMP_c ?_ ?_|exact allMP_n|(refine many_step ?_ ?_ ?_;kernel_rfl;kernel_rfl)) <;> (try (conv => whnf)))
      all_goals first
        | (exfalso; omega)
        | exact ret_tmp rfl rfl
        | trace_state
/-- The truth value from coarse values, or Unknown. -/
def coarP (s : Sch) (c : Cnd) (picks : List Pk) (values : List Int) : Int :=
  if cndE s c = 0 ∧ picksE s picks = 0 ∧ values.length = picks.length ∧ covB picks (needS s c) = true then tldS s c (picks.zip values) else 0
set_option maxHeartbeats 8000000 in
theorem ccoarse_call (s : Sch) (c : Cnd) (picks : List Pk) (values : List Int) : FCall Tryz.prog 34 [sA s, cndA c, .sl 2 (picks.map pkL), .sl 1 (values.map wA)] (.i (coarP s c picks values)) := by
  have h1 := ccheck_call s c
  have h2 := picks_call s picks
  have h3 := cneeds_call s c
  have h4 := covers_call picks (needS s c)
  have h5 : ¬ cndE s c ≠ 0 → ¬ picksE s picks ≠ 0 → ¬ (values.length : Int) ≠ picks.length → FCall Tryz.prog 84 [sA s, cndA c, .sl 2 (picks.map pkL), .sl 1 (values.map wA)] (.i (tldS s c (picks.zip values))) := fun a b d => by
    obtain ⟨p1, _, _, p4⟩ := cndE_parts (Decidable.of_not_not a)
    exact told_call s p1 c p4 picks values (Decidable.of_not_not b) (by omega)
  unfold coarP
  generalize tldS s c (picks.zip values) = T at *
  rw [cndA_eq] at *
  refine fcall_intro (n := 39) Tryz.func34 (by kernel_rfl) rfl rfl rfl rfl rfl (by intro t T h; cases h) (fun hrd E h0 => ?_)
  have hlen : picks.length ≤ 9223372036854775807 := by have := (hrd (.sl 2 (picks.map pkL)) (by simp)).sl; simpa using this
  have hlen2 : values.length ≤ 9223372036854775807 := by have := (hrd (.sl 1 (values.map wA)) (by simp)).sl; simpa using this
  clear hrd
  repeat' ((first | refine call_i h1 ?_ | refine call_i h2 ?_ | refine call_i h3 ?_ | refine call_i h4 ?_ | (refine call_i (h5 (by assumption) (by assumption) (by assumption)) ?_) |refine aops_go ?_|refine awp_go ?_|refine guard_tt ?_|refine guard_ff ?_|refine guard_tf ?_|refine guard_ft ?_|refine cond_t ?_|refine cond_f ?_|refine Z1 ?_|refine Z2 ?_|refine stp ?_|(refine And.intro ?_ ?_<;>intro h<;>try first|(exfalso;omega)|exact absurd rfl h)|refine Z3 ?_|refine Z4 ?_|intro el hel hbB|intro el hel|intro ex|refine Z5 ?_|(refine free_i ?_ ?_;exact ⟨by kernel_rfl,by decide⟩)|refine allI_c ?_ ?_|exact allI_n|refine allMP_c ?_ ?_|exact allMP_n|(refine many_step ?_ ?_ ?_;kernel_rfl;kernel_rfl)) <;> (try (conv => whnf)))
  all_goals first
    | (rw [if_neg (fun hh => by obtain ⟨q1, q2, q3, q4⟩ := hh; first | omega | (simp_all; done))]; exact ret_tmp rfl rfl)
    | (rw [if_pos (by refine ⟨?_, ?_, ?_, ?_⟩ <;> first | omega | assumption | (simp_all; done))]; exact ret_tmp rfl rfl)
    | trace_state
theorem pk_ext {p q : Pk} (h : p.col = q.col ∧ p.lev = q.lev) : p = q := by
  cases p; cases q
  dsimp only at h
  rw [Pk.mk.injEq]; exact h
set_option maxHeartbeats 4000000 in
theorem samePicks_call (a b : List Pk) : FCall Tryz.prog 27 [.sl 2 (a.map pkL), .sl 2 (b.map pkL)] (.b (decide (a = b))) := by
  refine fcall_intro (n := 26) Tryz.func27 (by kernel_rfl) rfl rfl rfl rfl rfl (by intro t T h; cases h) (fun hrd E h0 => ?_)
  have hlen : a.length ≤ 9223372036854775807 := by have := (hrd (.sl 2 (a.map pkL)) (by simp)).sl; simpa using this
  have hlen2 : b.length ≤ 9223372036854775807 := by have := (hrd (.sl 2 (b.map pkL)) (by simp)).sl; simpa using this
  clear hrd
  repeat' ((first|refine aops_go ?_|refine awp_go ?_|refine guard_tt ?_|refine guard_ff ?_|refine guard_tf ?_|refine guard_ft ?_|refine cond_t ?_|refine cond_f ?_|refine Z1 ?_|refine Z2 ?_|refine stp ?_|(refine And.intro ?_ ?_<;>intro h<;>try first|(exfalso;omega)|exact absurd rfl h)|refine Z3 ?_|refine Z4 ?_|intro el hel hbB|intro el hel|intro ex|refine Z5 ?_|(refine free_i ?_ ?_;exact ⟨by kernel_rfl,by decide⟩)|refine allI_c ?_ ?_|exact allI_n|refine allMP_c ?_ ?_|exact allMP_n|(refine many_step ?_ ?_ ?_;kernel_rfl;kernel_rfl)) <;> (try (conv => whnf)))
  all_goals first
    | exact ret_tmp rfl (congrArg AV.b (decide_eq_false (fun e => by subst e; contradiction)).symm)
    | skip
  refine loop_i (ι := Nat) (fun k => ⟨[(0, .sl 2 (a.map pkL)), (1, .sl 2 (b.map pkL)), (5, .i k)], 0, []⟩) (fun k => k ≤ a.length ∧ a.take k = b.take k) (fun k => a.length - k) 0 ⟨Nat.zero_le _, rfl⟩
    (le_of h0 rfl ⟨rfl, rfl, rfl, trivial⟩ trivial rfl rfl rfl) (fun k hI => ?_)
  obtain ⟨hk, hI⟩ := hI
  by_cases hlt : k < a.length
  · obtain ⟨p, hp⟩ : ∃ p, a[k]? = some p := ⟨_, List.getElem?_eq_getElem hlt⟩
    obtain ⟨q, hq⟩ : ∃ q, b[k]? = some q := ⟨_, List.getElem?_eq_getElem (by omega)⟩
    repeat' ((first | (refine each_knownm (x := p) hp (by omega) ?_) | (refine each_knownm (x := q) hq (by omega) ?_) | (refine draw_q ?_ ?_; kernel_rfl) |refine aops_go ?_|refine awp_go ?_|refine guard_tt ?_|refine guard_ff ?_|refine guard_tf ?_|refine guard_ft ?_|refine cond_t ?_|refine cond_f ?_|refine Z1 ?_|refine Z2 ?_|refine stp ?_|(refine And.intro ?_ ?_<;>intro h<;>try first|(exfalso;omega)|exact absurd rfl h)|refine Z3 ?_|refine Z4 ?_|intro el hel hbB|intro el hel|intro ex|refine Z5 ?_|(refine free_i ?_ ?_;exact ⟨by kernel_rfl,by decide⟩)|refine allI_c ?_ ?_|exact allI_n|refine allMP_c ?_ ?_|exact allMP_n|(refine many_step ?_ ?_ ?_;kernel_rfl;kernel_rfl)) <;> (try (conv => whnf)))
    all_goals first
      | (exfalso; omega)
      | exact ⟨k + 1, ⟨by omega, by rw [takec hp, takec hq, hI, pk_ext h]⟩, by omega, le_of h0 rfl ⟨rfl, rfl, rfl, trivial⟩ trivial rfl rfl rfl⟩
      | exact ret_tmp rfl (congrArg AV.b (decide_eq_false (fun e => by subst e; rw [hp] at hq; cases hq; exact h ⟨rfl, rfl⟩)).symm)
      | trace_state
  · repeat' ((first|refine aops_go ?_|refine awp_go ?_|refine guard_tt ?_|refine guard_ff ?_|refine guard_tf ?_|refine guard_ft ?_|refine cond_t ?_|refine cond_f ?_|refine Z1 ?_|refine Z2 ?_|refine stp ?_|(refine And.intro ?_ ?_<;>intro h<;>try first|(exfalso;omega)|exact absurd rfl h)|refine Z3 ?_|refine Z4 ?_|intro el hel hbB|intro el hel|intro ex|refine Z5 ?_|(refine free_i ?_ ?_;exact ⟨by kernel_rfl,by decide⟩)|refine allI_c ?_ ?_|exact allI_n|refine allMP_c ?_ ?_|exact allMP_n|(refine many_step ?_ ?_ ?_;kernel_rfl;kernel_rfl)) <;> (try (conv => whnf)))
    all_goals first
      | (exfalso; omega)
      | exact ret_tmp rfl (congrArg AV.b (decide_eq_true (by rw [List.take_of_length_le (by omega), List.take_of_length_le (by omega)] at hI; exact hI)).symm)
      | trace_state
end Go.Proofs.YtghlhejdfgkjaaaGreatDoor

/- ConditionLeast: one level below what a condition about one column needs there are two values that are the same there and have different truth values. -/
import Derived.Test.YtghlhejdfgkjaaaGreatDoorCl2
import Derived.Test.YtghlhejdfgkjaaaGreatDoorAw5
import Derived.Test.YtghlhejdfgkjaaaGreatDoorB4
import Derived.Test.YtghlhejdfgkjaaaGreatDoorB12
import Derived.Test.YtghlhejdfgkjaaaGreatDoorCB
namespace Go.Proofs.YtghlhejdfgkjaaaGreatDoor
open Go Go.Av
attribute [local irreducible] AWp AOps AAny MAny DQ retQ retG St.le FCall GCall
set_option linter.unusedVariables false
set_option linter.unnecessarySimpa false
set_option linter.unusedSimpArgs false
set_option maxRecDepth 100000

theorem loop_le5 {P : Program} {E : Env} {n : Nat} {c : Go.Code} {σ σ' : St} {Q : Exit → St → Prop} (h : St.le E n σ σ') (k : LoopP P E n c σ' Q) : LoopP P E n c σ Q := ⟨awp_weaken h k.h⟩
theorem take_map5 {f : Int → Int} {al : List Int} {j : Nat} {x : Int} (h : al[j]? = some x) : ((al.take (j + 1)).map f).map wA = ((al.take j).map f).map wA ++ [wA (f x)] := by
  rw [takec h, List.map_append, List.map_append]; rfl
theorem map_get5 {f : Int → Int} {al : List Int} {n q : Nat} {x : Int} (hx : al[q]? = some x) (hq : q < n) : ((al.take n).map f)[q]? = some (f x) := by
  rw [List.getElem?_map, List.getElem?_take_of_lt hq, hx]; rfl
theorem range_snoc5 (low : Int) (j : Nat) : ((List.range (j + 1)).map fun i : Nat => low + (i : Int)) = ((List.range j).map fun i : Nat => low + (i : Int)) ++ [low + j] := by
  rw [List.range_succ, List.map_append]; rfl
theorem base_step {s : Sch} {k : Nat} {row r2 : List Int} (h : ∀ i, i < k → row.getD i 0 = baseV s i) (h2 : ∀ i, i < k → r2.getD i 0 = row.getD i 0) (h3 : r2.getD k 0 = baseV s k) : ∀ i, i < k + 1 → r2.getD i 0 = baseV s i := fun i hi => by
  by_cases e : i = k
  · subst e; exact h3
  · rw [h2 i (by omega)]; exact h i (by omega)
theorem set_other {row : List Int} {k i : Nat} {v : Int} (h : i < k) : (row.set k v).getD i 0 = row.getD i 0 := by
  rw [List.getD_eq_getElem?_getD, List.getElem?_set_ne (by omega), ← List.getD_eq_getElem?_getD]
theorem set_self5 {row : List Int} {k : Nat} {v : Int} (h : k < row.length) : (row.set k v).getD k 0 = v := by
  rw [List.getD_eq_getElem?_getD, List.getElem?_set_self h]; rfl
theorem made_row (n : Nat) : (List.replicate ((n : Int)).toNat [AV.v (.int .i64 0)]).set 0 [.i 1] = ((List.replicate n (0 : Int)).set 0 1).map wA := by
  rw [List.map_set, List.map_replicate]; rfl
set_option maxHeartbeats 16000000 in
theorem lapart_call (s : Sch) (hd : Drawn s) (x : Cnd) (hx : cndE s x = 0) (ho : x.op = 2 ∨ x.op = 3 ∨ x.op = 4) (m : Nat) (hm : (m : Int) ≤ finS s x.col) : FCall Tryz.prog 40 [sA s, cndA x, .i m] (.b (!sufS s x m)) := by
  obtain ⟨hr, _, _, hcs⟩ := cndE_parts hx
  have hx1 := (chkS_parts hcs).1
  obtain ⟨c, hc, c1, c2, q2, q3, _, _⟩ := atom_col hr hx1 ho
  have hdv := suf_div hd hx1 ho hc hm
  rw [← hdv]
  have hk : c.kind = 2 ∨ c.kind = 3 := by
    by_cases h2 : x.op = 2
    · exact .inl (q2 h2).1
    · exact .inr (q3 h2).1
  have hlen := hd.lens
  have hn0 : 0 < s.cols.length := by omega
  have hev := fun row (h : RowOk s row) => eva_atom hx ho h
  have hec := fun row => eval_call s x row
  have hco := fun v => rcoarse_call s x.col m v
  have hlvs : ∀ (k : Nat) y, s.cols[k]? = some y → y.kind = 2 → FCall Tryz.prog 91 [sA s, .i k] (.sl 1 ((lvsS s k).map iA)) ∧ 1 ≤ (lvsS s k).length := fun k y hy h2 =>
    ⟨leaves_call s k (by omega) (by simpa using hy) (hd.lvs hy h2).1, (hd.lvs hy h2).2.2.1⟩
  have hval := fun v (hv : v ∈ allC s c) => all_ok (s := s) hk hv
  have hlc : c.kind = 2 → FCall Tryz.prog 91 [sA s, .i x.col] (.sl 1 ((allC s c).map wA)) := fun h2 => by
    refine (leaves_call s x.col (by omega) hc (hd.lvs hc h2).1).congr (congrArg (AV.sl 1) ?_)
    have e := (hd.lvs hc h2).2.1
    unfold allC
    rw [if_pos h2, ← e, List.map_map, show ((x.col.toNat : Nat) : Int) = x.col by omega]
    rfl
  have hbd : c.kind ≠ 2 → (-4 ≤ c.low ∧ c.low ≤ 2) ∧ (c.low ≤ c.high ∧ c.high ≤ c.low + 44) := fun h2 => by
    rcases hd.col hc with ⟨h, _⟩ | ⟨_, rfl | rfl⟩ | ⟨_, nm, h⟩
    · omega
    · exact absurd rfl h2
    · exact absurd rfl h2
    · exact ⟨h.low, h.high⟩
  have et : c.kind ≠ 2 → c.opt = true → ∀ j : Nat, j = (c.high - c.low + 1).toNat → ((List.range j).map fun i : Nat => c.low + (i : Int)).map wA ++ [wA ((-1099511627776))] = (allC s c).map wA := by
    intro h2 h1 j hj
    unfold allC
    rw [if_neg h2]
    unfold allM
    rw [if_pos h1, ← hj, List.map_append]
    rfl
  have ef : c.kind ≠ 2 → c.opt = false → ∀ j : Nat, j = (c.high - c.low + 1).toNat → ((List.range j).map fun i : Nat => c.low + (i : Int)).map wA = (allC s c).map wA := by
    intro h2 h1 j hj
    unfold allC
    rw [if_neg h2]
    unfold allM
    rw [if_neg (by rw [h1]; exact Bool.false_ne_true), ← hj, List.append_nil]
  have hI2 : 1 ≤ 1 ∧ 1 ≤ s.cols.length ∧ ((List.replicate s.cols.length (0 : Int)).set 0 1).length = s.cols.length ∧ ∀ i, i < 1 → ((List.replicate s.cols.length (0 : Int)).set 0 1).getD i 0 = baseV s i := by
    refine ⟨Nat.le_refl _, hn0, by simp, fun i hi => ?_⟩
    obtain rfl : i = 0 := by omega
    exact set_self5 (by simp; omega)
  have hal : (allC s c).length ≤ 60 := by
    unfold allC
    split
    · rename_i h2
      have := hd.lvs hc h2
      rw [← this.2.1, List.length_map]
      omega
    · rename_i h2
      have := hbd h2
      unfold allM
      rw [List.length_append, List.length_map, List.length_range]
      split <;> simp <;> omega
  generalize allC s c = al at *
  have hrep : (List.replicate ((s.cols.length : Nat) : Int).toNat (List.map ofV [Value.int .i64 0]))[(((Int.toNat 0 : Nat)) : Int).toNat]? = some [.v (.int .i64 0)] := by
    rw [List.getElem?_replicate, if_pos (by show 0 < _; omega)]; rfl
  rw [cndA_eq] at *
  refine fcall_intro (n := 141) Tryz.func40 (by kernel_rfl) rfl rfl rfl rfl rfl (by intro t T h; cases h) (fun hrd E h0 => ?_)
  clear hrd
  repeat' ((first | (refine each_knownm (x := c) hc (by omega) ?_) | refine own_slice (T := 26) rfl ?_ | refine call_i (hlc (by assumption)) ?_ | refine each_known (x := [AV.v (.int .i64 0)]) hrep (by decide) ?_ |refine aops_go ?_|refine awp_go ?_|refine guard_tt ?_|refine guard_ff ?_|refine guard_tf ?_|refine guard_ft ?_|refine cond_t ?_|refine cond_f ?_|refine Z1 ?_|refine Z2 ?_|refine stp ?_|(refine And.intro ?_ ?_<;>intro h<;>try first|(exfalso;omega)|exact absurd rfl h)|refine Z3 ?_|refine Z4 ?_|intro el hel hbB|intro el hel|intro ex|refine Z5 ?_|(refine free_i ?_ ?_;exact ⟨by kernel_rfl,by decide⟩)|refine allI_c ?_ ?_|exact allI_n|refine allMP_c ?_ ?_|exact allMP_n|(refine many_step ?_ ?_ ?_;kernel_rfl;kernel_rfl)) <;> (try (conv => whnf)))
  rotate_left
  focus
    have hb := hbd (by assumption)
    refine loop_i (ι := Nat) (fun j => ⟨[(2, .i m), (3, .ref 0 0), (4, .ref 1 0), (7, .ref 2 0), (8, .row 3 0 j), (9, .i (c.low + j))], 4, [(0, some (.box (sL s))), (1, some (.box (cndY x))), (2, some (.box (colL c))), (3, some (.row 3 1 0 (((List.range j).map fun i : Nat => c.low + (i : Int)).map wA)))]⟩) (fun j => j ≤ (c.high - c.low + 1).toNat) (fun j => (c.high - c.low + 1).toNat - j) 0 (Nat.zero_le _)
      (le_of h0 rfl ⟨rfl, rfl, rfl, rfl, rfl, congrArg (fun z : Int => some (AV.i z)) (show c.low = c.low + ((0 : Nat) : Int) by omega), trivial⟩ ⟨rfl, rfl, rfl, ⟨0, rfl⟩, trivial⟩ rfl rfl rfl) (fun j hj => ?_)
    have esn := congrArg (List.map wA) (range_snoc5 c.low j)
    rw [List.map_append] at esn
    repeat' ((first | refine each_known (x := [AV.v (.int .i64 0)]) hrep (by decide) ?_ |refine aops_go ?_|refine awp_go ?_|refine guard_tt ?_|refine guard_ff ?_|refine guard_tf ?_|refine guard_ft ?_|refine cond_t ?_|refine cond_f ?_|refine Z1 ?_|refine Z2 ?_|refine stp ?_|(refine And.intro ?_ ?_<;>intro h<;>try first|(exfalso;omega)|exact absurd rfl h)|refine Z3 ?_|refine Z4 ?_|intro el hel hbB|intro el hel|intro ex|refine Z5 ?_|(refine free_i ?_ ?_;exact ⟨by kernel_rfl,by decide⟩)|refine allI_c ?_ ?_|exact allI_n|refine allMP_c ?_ ?_|exact allMP_n|(refine many_step ?_ ?_ ?_;kernel_rfl;kernel_rfl)) <;> (try (conv => whnf)))
  all_goals first
    | exact ⟨j + 1, by omega, by omega, le_of h0 rfl ⟨rfl, rfl, rfl, rfl, rfl, congrArg (fun z : Int => some (AV.i z)) (by omega), trivial⟩ ⟨rfl, rfl, rfl, ⟨_, congrArg (Blk.row 3 1 _) esn⟩, trivial⟩ rfl rfl rfl⟩
    | skip
  all_goals refine loop_i (ι := Nat × List Int) (fun z => ⟨[(2, .i m), (3, .ref 0 0), (4, .ref 1 0), (8, .sl 1 (al.map wA)), (10, .row 4 0 s.cols.length), (11, .i z.1)], 5, [(0, some (.box (sL s))), (1, some (.box (cndY x))), (4, some (.row 3 1 0 (z.2.map wA)))]⟩) (fun z => 1 ≤ z.1 ∧ z.1 ≤ s.cols.length ∧ z.2.length = s.cols.length ∧ ∀ i, i < z.1 → z.2.getD i 0 = baseV s i) (fun z => s.cols.length - z.1) (1, (List.replicate s.cols.length (0 : Int)).set 0 1) hI2 (by first
        | exact le_of h0 rfl ⟨rfl, rfl, rfl, rfl, congrArg (fun z : Nat => some (AV.row 4 0 z)) (by omega), rfl, trivial⟩ ⟨rfl, rfl, ⟨_, congrArg (Blk.row 3 1 _) (made_row _).symm⟩, trivial⟩ rfl rfl rfl
        | exact le_of h0 rfl ⟨rfl, rfl, rfl, congrArg (fun z => some (AV.sl 1 z)) (et (by assumption) (by assumption) j (by omega)), congrArg (fun z : Nat => some (AV.row 4 0 z)) (by omega), rfl, trivial⟩ ⟨rfl, rfl, ⟨_, congrArg (Blk.row 3 1 _) (made_row _).symm⟩, trivial⟩ rfl rfl rfl
        | exact le_of h0 rfl ⟨rfl, rfl, rfl, congrArg (fun z => some (AV.sl 1 z)) (ef (by assumption) (by assumption) j (by omega)), congrArg (fun z : Nat => some (AV.row 4 0 z)) (by omega), rfl, trivial⟩ ⟨rfl, rfl, ⟨_, congrArg (Blk.row 3 1 _) (made_row _).symm⟩, trivial⟩ rfl rfl rfl
        | trace_state) (fun z hI => ?_)
  all_goals
    clear hlc et ef hrep
    obtain ⟨k, row⟩ := z
    obtain ⟨i1, i2, i3, i4⟩ := hI
    dsimp only at i1 i2 i3 i4 ⊢
    by_cases hkn : k < s.cols.length
    · obtain ⟨y, hy⟩ : ∃ y, s.cols[k]? = some y := ⟨_, List.getElem?_eq_getElem hkn⟩
      have hbv : baseV s k = if y.kind = 2 then (((lvsS s k).getD 0 0 : Nat) : Int) else y.low := by
        unfold baseV; rw [if_neg (by omega), colAt_get (by simpa using hy)]
      have hlk := hlvs k y hy
      clear hlvs hec hev hco hval
      have b1 := base_step (k := k) (row := row) (r2 := row.set k y.low) i4 (fun i hi => set_other hi)
      rw [set_self5 (by omega), hbv] at b1
      have b2 := fun lf : Nat => base_step (k := k) (row := row) (r2 := (row.set k y.low).set k (lf : Int)) i4 (fun i hi => by rw [set_other hi, set_other hi])
      simp only [set_self5 (show k < (row.set k y.low).length by rw [List.length_set]; omega), hbv] at b2
      by_cases hy2 : y.kind = 2
      · obtain ⟨l1, l2⟩ := hlk hy2
        rw [if_pos hy2] at b1 b2
        obtain ⟨lf, hlf⟩ : ∃ lf, (lvsS s k)[0]? = some lf := ⟨_, List.getElem?_eq_getElem (by omega)⟩
        have b3 := b2 lf (by rw [List.getD_eq_getElem?_getD, hlf]; rfl)
        generalize lvsS s k = L at *
        have hset : ∀ el : Int, ((row.map wA).set ((k : Int)).toNat ((wA el).set 0 (.i y.low)))[((((k : Int)).toNat : Nat) : Int).toNat]? = some ((wA el).set 0 (.i y.low)) := fun el => by
          show ((row.map wA).set k _)[k]? = _
          rw [List.getElem?_set_self (by rw [List.length_map]; omega)]
        clear b1 b2 hbv hlk
        repeat' ((first | (refine each_knownm (x := y) hy (by omega) ?_) | (refine each_knownm (x := lf) hlf (by decide) ?_) | refine call_i l1 ?_ | refine each_known (hset _) (by omega) ?_ |refine aops_go ?_|refine awp_go ?_|refine guard_tt ?_|refine guard_ff ?_|refine guard_tf ?_|refine guard_ft ?_|refine cond_t ?_|refine cond_f ?_|refine Z1 ?_|refine Z2 ?_|refine stp ?_|(refine And.intro ?_ ?_<;>intro h<;>try first|(exfalso;omega)|exact absurd rfl h)|refine Z3 ?_|refine Z4 ?_|intro el hel hbB|intro el hel|intro ex|refine Z5 ?_|(refine free_i ?_ ?_;exact ⟨by kernel_rfl,by decide⟩)|refine allI_c ?_ ?_|exact allI_n|refine allMP_c ?_ ?_|exact allMP_n|(refine many_step ?_ ?_ ?_;kernel_rfl;kernel_rfl)) <;> (try (conv => whnf)))
        all_goals first
          | (exfalso; omega)
          | exact ⟨(k + 1, (row.set k y.low).set k (lf : Int)), ⟨by dsimp only; omega, by dsimp only; omega, by simp; omega, b3⟩, by dsimp only; omega, le_of h0 rfl ⟨rfl, rfl, rfl, rfl, rfl, rfl, trivial⟩ ⟨rfl, rfl, ⟨_, congrArg (Blk.row 3 1 _) (by rw [List.map_set, List.map_set]; rfl)⟩, trivial⟩ rfl rfl rfl⟩
          | trace_state
      · rw [if_neg hy2] at b1
        have b1 := b1 rfl
        clear b2 hbv hlk
        repeat' ((first | (refine each_knownm (x := y) hy (by omega) ?_) |refine aops_go ?_|refine awp_go ?_|refine guard_tt ?_|refine guard_ff ?_|refine guard_tf ?_|refine guard_ft ?_|refine cond_t ?_|refine cond_f ?_|refine Z1 ?_|refine Z2 ?_|refine stp ?_|(refine And.intro ?_ ?_<;>intro h<;>try first|(exfalso;omega)|exact absurd rfl h)|refine Z3 ?_|refine Z4 ?_|intro el hel hbB|intro el hel|intro ex|refine Z5 ?_|(refine free_i ?_ ?_;exact ⟨by kernel_rfl,by decide⟩)|refine allI_c ?_ ?_|exact allI_n|refine allMP_c ?_ ?_|exact allMP_n|(refine many_step ?_ ?_ ?_;kernel_rfl;kernel_rfl)) <;> (try (conv => whnf)))
        all_goals first
          | exact ⟨(k + 1, row.set k y.low), ⟨by dsimp only; omega, by dsimp only; omega, by simp; omega, b1⟩, by dsimp only; omega, le_of h0 rfl ⟨rfl, rfl, rfl, rfl, rfl, rfl, trivial⟩ ⟨rfl, rfl, ⟨_, congrArg (Blk.row 3 1 _) (by rw [List.map_set]; rfl)⟩, trivial⟩ rfl rfl rfl⟩
          | (exfalso; omega)
          | trace_state
    · have hrow := base_ok hd i3 (by rw [show s.cols.length = k by omega]; exact i4)
      clear hlvs
      repeat' ((first|refine aops_go ?_|refine awp_go ?_|refine guard_tt ?_|refine guard_ff ?_|refine guard_tf ?_|refine guard_ft ?_|refine cond_t ?_|refine cond_f ?_|refine Z1 ?_|refine Z2 ?_|refine stp ?_|(refine And.intro ?_ ?_<;>intro h<;>try first|(exfalso;omega)|exact absurd rfl h)|refine Z3 ?_|refine Z4 ?_|intro el hel hbB|intro el hel|intro ex|refine Z5 ?_|(refine free_i ?_ ?_;exact ⟨by kernel_rfl,by decide⟩)|refine allI_c ?_ ?_|exact allI_n|refine allMP_c ?_ ?_|exact allMP_n|(refine many_step ?_ ?_ ?_;kernel_rfl;kernel_rfl)) <;> (try (conv => whnf)))
      all_goals first
        | (exfalso; omega)
        | skip
      refine loop_le5 (le_adopt (d := 12) (e := 3) (sz := 1) rfl) ?_
      refine loop_le5 (le_adopt (d := 13) (e := 3) (sz := 1) rfl) ?_
      clear i1 i2 i3 i4 hI2 hkn
      refine loop_i (ι := Nat × List Int) (fun z => ⟨[(2, .i m), (3, .iptr (sL s)), (4, .iptr (cndY x)), (8, .sl 1 (al.map wA)), (10, .row 4 0 s.cols.length), (12, .row 5 0 z.1), (13, .row 6 0 z.1), (84, .i al.length), (85, .i z.1)], 7, [(4, some (.row 3 1 0 (z.2.map wA))), (5, some (.row 3 1 0 (((al.take z.1).map (atomS s x)).map wA))), (6, some (.row 3 1 0 (((al.take z.1).map (coaS s x.col m)).map wA)))]⟩)
        (fun z => z.1 ≤ al.length ∧ RowOk s z.2 ∧ PAt (atomS s x) (coaS s x.col m) al z.1 0) (fun z => al.length - z.1) (0, row) ⟨Nat.zero_le _, hrow, PAt.zero _ _ _⟩
        (le_of h0 rfl ⟨rfl, rfl, rfl, rfl, rfl, rfl, rfl, rfl, rfl, trivial⟩ ⟨⟨_, rfl⟩, ⟨0, rfl⟩, ⟨0, rfl⟩, trivial⟩ rfl rfl rfl) (fun z hI => ?_)
      clear hrow
      obtain ⟨j, rw'⟩ := z
      obtain ⟨hj, hR, hI⟩ := hI
      dsimp only at hj hR hI ⊢
      have hRl := hR.1
      by_cases hjl : j < al.length
      · obtain ⟨v, hv⟩ : ∃ v, al[j]? = some v := ⟨_, List.getElem?_eq_getElem hjl⟩
        have hR2 := row_set_ok hR hc (hval v (List.mem_of_getElem? hv))
        have ev1 := hec (rw'.set x.col.toNat v)
        rw [hev _ hR2, set_self5 (by omega)] at ev1
        have co1 := hco v
        have e1 := take_map5 (f := atomS s x) hv
        have e2 := take_map5 (f := coaS s x.col m) hv
        have hA := fun k y (hy : al[k]? = some y) (hk : k < j + 1) => map_get5 (f := atomS s x) (n := j + 1) hy hk
        have hB := fun k y (hy : al[k]? = some y) (hk : k < j + 1) => map_get5 (f := coaS s x.col m) (n := j + 1) hy hk
        have lA : ((al.take (j + 1)).map (atomS s x)).length = j + 1 := by rw [List.length_map, List.length_take]; omega
        have lB : ((al.take (j + 1)).map (coaS s x.col m)).length = j + 1 := by rw [List.length_map, List.length_take]; omega
        clear hec hev hco hval
        obtain ⟨rv, hrv⟩ : ∃ rv, rw'[x.col.toNat]? = some rv := ⟨_, List.getElem?_eq_getElem (by omega)⟩
        repeat' ((first | (refine each_knownm (x := v) hv (by omega) ?_) | (refine each_knownm (x := rv) hrv (by omega) ?_) | refine draw_m (id := 23) ⟨[(2, .i m), (3, .iptr (sL s)), (4, .iptr (cndY x)), (8, .sl 1 (al.map wA)), (10, .row 4 0 s.cols.length), (12, .row 5 0 j), (13, .row 6 0 j), (14, .i j), (84, .i al.length), (85, .i j)], 7, [(4, some (.row 3 1 0 ((rw'.set x.col.toNat v).map wA))), (5, some (.row 3 1 0 (((al.take j).map (atomS s x)).map wA))), (6, some (.row 3 1 0 (((al.take j).map (coaS s x.col m)).map wA)))]⟩ ?_ ?_ | refine draw_m (id := 24) ⟨[(2, .i m), (3, .iptr (sL s)), (4, .iptr (cndY x)), (8, .sl 1 (al.map wA)), (10, .row 4 0 s.cols.length), (12, .row 5 0 (j + 1)), (13, .row 6 0 (j + 1)), (14, .i j), (84, .i al.length), (85, .i j)], 7, [(4, some (.row 3 1 0 ((rw'.set x.col.toNat v).map wA))), (5, some (.row 3 1 0 (((al.take (j + 1)).map (atomS s x)).map wA))), (6, some (.row 3 1 0 (((al.take (j + 1)).map (coaS s x.col m)).map wA)))]⟩ ?_ ?_ | refine ncall_lend [4] ev1 rfl rfl rfl rfl rfl rfl ?_ | refine call_i co1 ?_ |refine aops_go ?_|refine awp_go ?_|refine guard_tt ?_|refine guard_ff ?_|refine guard_tf ?_|refine guard_ft ?_|refine cond_t ?_|refine cond_f ?_|refine Z1 ?_|refine Z2 ?_|refine stp ?_|(refine And.intro ?_ ?_<;>intro h<;>try first|(exfalso;omega)|exact absurd rfl h)|refine Z3 ?_|refine Z4 ?_|intro el hel hbB|intro el hel|intro ex|refine Z5 ?_|(refine free_i ?_ ?_;exact ⟨by kernel_rfl,by decide⟩)|refine allI_c ?_ ?_|exact allI_n|refine allMP_c ?_ ?_|exact allMP_n|(refine many_step ?_ ?_ ?_;kernel_rfl;kernel_rfl)) <;> (try (conv => whnf)))
        all_goals first
          | exact le_of h0 rfl ⟨rfl, rfl, rfl, rfl, rfl, rfl, rfl, rfl, rfl, rfl, trivial⟩ ⟨⟨_, congrArg (Blk.row 3 1 _) (by rw [List.map_set]; rfl)⟩, ⟨_, rfl⟩, ⟨_, rfl⟩, trivial⟩ rfl rfl rfl
          | exact le_of h0 rfl ⟨rfl, rfl, rfl, rfl, rfl, rfl, rfl, rfl, rfl, rfl, trivial⟩ ⟨⟨_, rfl⟩, ⟨_, congrArg (Blk.row 3 1 _) e1⟩, ⟨_, congrArg (Blk.row 3 1 _) e2⟩, trivial⟩ rfl rfl rfl
          | skip
        clear ev1 co1 hR
        generalize hAe : (al.take (j + 1)).map (atomS s x) = A at *
        generalize hBe : (al.take (j + 1)).map (coaS s x.col m) = B at *
        refine loop_i (ι := Nat) (fun k => ⟨[(2, .i m), (3, .iptr (sL s)), (4, .iptr (cndY x)), (8, .sl 1 (al.map wA)), (10, .row 4 0 s.cols.length), (12, .row 5 0 (j + 1)), (13, .row 6 0 (j + 1)), (14, .i j), (15, .i k), (84, .i al.length), (85, .i j)], 7, [(4, some (.row 3 1 0 ((rw'.set x.col.toNat v).map wA))), (5, some (.row 3 1 0 (A.map wA))), (6, some (.row 3 1 0 (B.map wA)))]⟩)
          (fun k => k ≤ j ∧ PAt (atomS s x) (coaS s x.col m) al j k) (fun k => j - k) 0 ⟨Nat.zero_le _, hI⟩
          (le_of h0 rfl ⟨rfl, rfl, rfl, rfl, rfl, rfl, rfl, rfl, rfl, rfl, rfl, trivial⟩ ⟨⟨_, rfl⟩, ⟨_, rfl⟩, ⟨_, rfl⟩, trivial⟩ rfl rfl rfl) (fun k hJ => ?_)
        obtain ⟨hk, hJ⟩ := hJ
        by_cases hkj : k < j
        · obtain ⟨u, hu⟩ : ∃ u, al[k]? = some u := ⟨_, List.getElem?_eq_getElem (by omega)⟩
          have a1 := hA j v hv (by omega)
          have a2 := hA k u hu (by omega)
          have a3 := hB j v hv (by omega)
          have a4 := hB k u hu (by omega)
          clear hA hB hAe hBe
          repeat' ((first | (refine each_knownm a1 (by omega) ?_) | (refine each_knownm a2 (by omega) ?_) | (refine each_knownm a3 (by omega) ?_) | (refine each_knownm a4 (by omega) ?_) |refine aops_go ?_|refine awp_go ?_|refine guard_tt ?_|refine guard_ff ?_|refine guard_tf ?_|refine guard_ft ?_|refine cond_t ?_|refine cond_f ?_|refine Z1 ?_|refine Z2 ?_|refine stp ?_|(refine And.intro ?_ ?_<;>intro h<;>try first|(exfalso;omega)|exact absurd rfl h)|refine Z3 ?_|refine Z4 ?_|intro el hel hbB|intro el hel|intro ex|refine Z5 ?_|(refine free_i ?_ ?_;exact ⟨by kernel_rfl,by decide⟩)|refine allI_c ?_ ?_|exact allI_n|refine allMP_c ?_ ?_|exact allMP_n|(refine many_step ?_ ?_ ?_;kernel_rfl;kernel_rfl)) <;> (try (conv => whnf)))
          all_goals first
            | exact ret_tmp rfl (congrArg AV.b (by rw [PAt.hit hv hu (by omega) (pair_bad (by assumption) (by assumption))]; rfl))
            | exact ⟨k + 1, ⟨by omega, hJ.step hv hu (pair_ok1 (Decidable.of_not_not (by assumption)))⟩, by omega, le_of h0 rfl ⟨rfl, rfl, rfl, rfl, rfl, rfl, rfl, rfl, rfl, rfl, rfl, trivial⟩ ⟨⟨_, rfl⟩, ⟨_, rfl⟩, ⟨_, rfl⟩, trivial⟩ rfl rfl rfl⟩
            | exact ⟨k + 1, ⟨by omega, hJ.step hv hu (pair_ok2 (by assumption))⟩, by omega, le_of h0 rfl ⟨rfl, rfl, rfl, rfl, rfl, rfl, rfl, rfl, rfl, rfl, rfl, trivial⟩ ⟨⟨_, rfl⟩, ⟨_, rfl⟩, ⟨_, rfl⟩, trivial⟩ rfl rfl rfl⟩
            | (exfalso; omega)
            | trace_state
        · repeat' ((first|refine aops_go ?_|refine awp_go ?_|refine guard_tt ?_|refine guard_ff ?_|refine guard_tf ?_|refine guard_ft ?_|refine cond_t ?_|refine cond_f ?_|refine Z1 ?_|refine Z2 ?_|refine stp ?_|(refine And.intro ?_ ?_<;>intro h<;>try first|(exfalso;omega)|exact absurd rfl h)|refine Z3 ?_|refine Z4 ?_|intro el hel hbB|intro el hel|intro ex|refine Z5 ?_|(refine free_i ?_ ?_;exact ⟨by kernel_rfl,by decide⟩)|refine allI_c ?_ ?_|exact allI_n|refine allMP_c ?_ ?_|exact allMP_n|(refine many_step ?_ ?_ ?_;kernel_rfl;kernel_rfl)) <;> (try (conv => whnf)))
          all_goals first
            | exact ⟨(j + 1, rw'.set x.col.toNat v), ⟨by dsimp only; omega, hR2, hJ.next (by omega)⟩, by dsimp only; omega, le_of h0 rfl ⟨rfl, rfl, rfl, rfl, rfl, rfl, rfl, rfl, rfl, trivial⟩ ⟨⟨_, rfl⟩, ⟨_, congrArg (fun z : List Int => Blk.row 3 1 0 (z.map wA)) hAe⟩, ⟨_, congrArg (fun z : List Int => Blk.row 3 1 0 (z.map wA)) hBe⟩, trivial⟩ rfl rfl rfl⟩
            | (exfalso; omega)
            | trace_state
      · repeat' ((first|refine aops_go ?_|refine awp_go ?_|refine guard_tt ?_|refine guard_ff ?_|refine guard_tf ?_|refine guard_ft ?_|refine cond_t ?_|refine cond_f ?_|refine Z1 ?_|refine Z2 ?_|refine stp ?_|(refine And.intro ?_ ?_<;>intro h<;>try first|(exfalso;omega)|exact absurd rfl h)|refine Z3 ?_|refine Z4 ?_|intro el hel hbB|intro el hel|intro ex|refine Z5 ?_|(refine free_i ?_ ?_;exact ⟨by kernel_rfl,by decide⟩)|refine allI_c ?_ ?_|exact allI_n|refine allMP_c ?_ ?_|exact allMP_n|(refine many_step ?_ ?_ ?_;kernel_rfl;kernel_rfl)) <;> (try (conv => whnf)))
        all_goals first
          | exact ret_tmp rfl (congrArg AV.b (by rw [hI.done (by omega)]; rfl))
          | (exfalso; omega)
          | trace_state
set_option maxHeartbeats 16000000 in
theorem conditionLeast_call (l : List UInt8) (hl : l.length ≤ maxLen) : FCall Tryz.prog 7 [.sl 1 (l.map u8A)] (.b true) := by
  unfold maxLen at hl
  have hL : (l.take 400).length ≤ 400 := List.length_take_le _ _
  have hnew := new_call l (by omega)
  have hsch := schc_draw (l.take 400) 0 hL
  have hd := schS_drawn (l.take 400) 0
  generalize schS (l.take 400) 0 = s0 at *
  obtain ⟨s, a0⟩ := s0
  dsimp only at hsch hd
  generalize l.take 400 = t at *
  have hx := cond_draw t s hd hL 0 a0 (by omega)
  have qx := (cond_right hd t 0 a0 (by omega)).1
  have ox := condL_ops t s a0
  generalize condS t s 0 a0 = A at *
  obtain ⟨x, a1⟩ := A
  dsimp only at hx qx ox
  have hne := cneeds_call s x
  by_cases ho : x.op = 2 ∨ x.op = 3 ∨ x.op = 4
  · obtain ⟨hr, _, _, hcs⟩ := cndE_parts qx
    have hx1 := (chkS_parts hcs).1
    obtain ⟨f1, f2, f3⟩ := levS_spec hr hx1 ho
    rw [need_one qx ho] at hne
    have p1 : FCall Tryz.prog 40 [sA s, cndA x, .i (levS s x : Nat)] (.b false) := (lapart_call s hd x qx ho (levS s x) f1).congr (congrArg AV.b (by rw [f2]; rfl))
    have p2 : 0 < (levS s x : Int) → FCall Tryz.prog 40 [sA s, cndA x, .i ((levS s x : Nat) - 1)] (.b true) := fun h => by
      have e : ((levS s x : Nat) : Int) - 1 = ((levS s x - 1 : Nat) : Int) := by omega
      rw [e]
      exact (lapart_call s hd x qx ho (levS s x - 1) (by omega)).congr (congrArg AV.b (by rw [f3 _ (by omega)]; rfl))
    have f4 : (levS s x : Int) ≤ 4 := by
      obtain ⟨c, hc, c1, c2, _⟩ := atom_col hr hx1 ho
      obtain ⟨n, hn, h4, _⟩ := hd.chain (i := x.col.toNat) (by omega) hc
      rw [show ((x.col.toNat : Nat) : Int) = x.col by omega, finestS, if_pos hr] at hn
      omega
    clear hcs f1 f2 f3 hx1 hr hd ox
    generalize levS s x = lv at *
    rw [cndA_eq] at *
    by_cases h0 : 0 < (lv : Int)
    · have p2 := p2 h0
      rw [if_pos h0] at hne
      have hne : FCall Tryz.prog 28 [sA s, .agg (cndY x)] (.sl 2 [[.i x.col, .i (lv : Int)]]) := hne
      refine fcall_intro (n := 65) Tryz.func7 (by kernel_rfl) rfl rfl rfl rfl rfl (by intro t T h; cases h) (fun hrd E h0 => ?_)
      clear hrd
      repeat' ((first | refine ncall_g [] [] hnew rfl rfl rfl rfl rfl trivial rfl rfl rfl rfl rfl ?_ | refine ⟨ncall_h [0] [0] hsch rfl rfl rfl rfl rfl ⟨rfl, trivial⟩ rfl rfl rfl rfl rfl ?_⟩ | refine ⟨ncall_h [0] [0] hx rfl rfl rfl rfl rfl ⟨rfl, trivial⟩ rfl rfl rfl rfl rfl ?_⟩ | refine call_i hne ?_ | refine call_i p1 ?_ | refine call_i p2 ?_ | refine call_i awake5_call ?_ | refine each_known (x := [AV.i x.col, AV.i (lv : Int)]) rfl (by decide) ?_ |refine aops_go ?_|refine awp_go ?_|refine guard_tt ?_|refine guard_ff ?_|refine guard_tf ?_|refine guard_ft ?_|refine cond_t ?_|refine cond_f ?_|refine Z1 ?_|refine Z2 ?_|refine stp ?_|(refine And.intro ?_ ?_<;>intro h<;>try first|(exfalso;omega)|exact absurd rfl h)|refine Z3 ?_|refine Z4 ?_|intro el hel hbB|intro el hel|intro ex|refine Z5 ?_|(refine free_i ?_ ?_;exact ⟨by kernel_rfl,by decide⟩)|refine allI_c ?_ ?_|exact allI_n|refine allMP_c ?_ ?_|exact allMP_n|(refine many_step ?_ ?_ ?_;kernel_rfl;kernel_rfl)) <;> (try (conv => whnf)))
      all_goals first
        | exact ret_tmp rfl rfl
        | (exfalso; omega)
        | trace_state
    · obtain rfl : lv = 0 := by omega
      rw [if_neg h0] at hne
      clear p2
      refine fcall_intro (n := 65) Tryz.func7 (by kernel_rfl) rfl rfl rfl rfl rfl (by intro t T h; cases h) (fun hrd E h0 => ?_)
      clear hrd
      repeat' ((first | refine ncall_g [] [] hnew rfl rfl rfl rfl rfl trivial rfl rfl rfl rfl rfl ?_ | refine ⟨ncall_h [0] [0] hsch rfl rfl rfl rfl rfl ⟨rfl, trivial⟩ rfl rfl rfl rfl rfl ?_⟩ | refine ⟨ncall_h [0] [0] hx rfl rfl rfl rfl rfl ⟨rfl, trivial⟩ rfl rfl rfl rfl rfl ?_⟩ | refine call_i hne ?_ | refine call_i p1 ?_ | refine call_i awake5_call ?_ |refine aops_go ?_|refine awp_go ?_|refine guard_tt ?_|refine guard_ff ?_|refine guard_tf ?_|refine guard_ft ?_|refine cond_t ?_|refine cond_f ?_|refine Z1 ?_|refine Z2 ?_|refine stp ?_|(refine And.intro ?_ ?_<;>intro h<;>try first|(exfalso;omega)|exact absurd rfl h)|refine Z3 ?_|refine Z4 ?_|intro el hel hbB|intro el hel|intro ex|refine Z5 ?_|(refine free_i ?_ ?_;exact ⟨by kernel_rfl,by decide⟩)|refine allI_c ?_ ?_|exact allI_n|refine allMP_c ?_ ?_|exact allMP_n|(refine many_step ?_ ?_ ?_;kernel_rfl;kernel_rfl)) <;> (try (conv => whnf)))
      all_goals first
        | exact ret_tmp rfl rfl
        | (exfalso; omega)
        | trace_state
  · rw [need_all ho ox.2] at hne
    have o1 : x.op = 1 := by omega
    clear hd qx ox
    rw [cndA_eq] at *
    refine fcall_intro (n := 65) Tryz.func7 (by kernel_rfl) rfl rfl rfl rfl rfl (by intro t T h; cases h) (fun hrd E h0 => ?_)
    clear hrd
    repeat' ((first | refine ncall_g [] [] hnew rfl rfl rfl rfl rfl trivial rfl rfl rfl rfl rfl ?_ | refine ⟨ncall_h [0] [0] hsch rfl rfl rfl rfl rfl ⟨rfl, trivial⟩ rfl rfl rfl rfl rfl ?_⟩ | refine ⟨ncall_h [0] [0] hx rfl rfl rfl rfl rfl ⟨rfl, trivial⟩ rfl rfl rfl rfl rfl ?_⟩ | refine call_i hne ?_ | refine call_i awake5_call ?_ |refine aops_go ?_|refine awp_go ?_|refine guard_tt ?_|refine guard_ff ?_|refine guard_tf ?_|refine guard_ft ?_|refine cond_t ?_|refine cond_f ?_|refine Z1 ?_|refine Z2 ?_|refine stp ?_|(refine And.intro ?_ ?_<;>intro h<;>try first|(exfalso;omega)|exact absurd rfl h)|refine Z3 ?_|refine Z4 ?_|intro el hel hbB|intro el hel|intro ex|refine Z5 ?_|(refine free_i ?_ ?_;exact ⟨by kernel_rfl,by decide⟩)|refine allI_c ?_ ?_|exact allI_n|refine allMP_c ?_ ?_|exact allMP_n|(refine many_step ?_ ?_ ?_;kernel_rfl;kernel_rfl)) <;> (try (conv => whnf)))
    all_goals first
      | exact ret_tmp rfl rfl
      | (exfalso; omega)
      | trace_state
theorem conditionLeast_all (l : List AV) (h : AShapes Tryz.prog Tryz.f7.params.toList l) : FCall Tryz.prog 7 l (.b true) := by
  obtain ⟨a1, r, rfl, h1, rfl⟩ := h
  obtain ⟨l, hl, rfl⟩ := ash_by h1
  exact conditionLeast_call l hl
end Go.Proofs.YtghlhejdfgkjaaaGreatDoor

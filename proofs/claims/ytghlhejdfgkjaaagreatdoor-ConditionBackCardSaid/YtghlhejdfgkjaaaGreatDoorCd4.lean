/- Chapter 5: truth values, the conditions about one column, and which picks cover others. -/
import Derived.Test.YtghlhejdfgkjaaaGreatDoorCd3
namespace Go.Proofs.YtghlhejdfgkjaaaGreatDoor
open Go Go.Av
attribute [local irreducible] AWp AOps AAny MAny DQ retQ retG St.le FCall GCall
set_option linter.unusedVariables false
set_option linter.unnecessarySimpa false
set_option linter.unusedSimpArgs false
set_option maxRecDepth 100000

def truS (b : Bool) : Int := if b = true then 1 else -1
set_option maxHeartbeats 4000000 in
theorem ctruth_call (b : Bool) : FCall Tryz.prog 167 [.b b] (.i (truS b)) := by
  refine fcall_intro (n := 4) Tryz.func167 (by kernel_rfl) rfl rfl rfl rfl rfl (by intro t T h; cases h) (fun hrd E h0 => ?_)
  clear hrd
  repeat' ((first|refine aops_go ?_|refine awp_go ?_|refine guard_tt ?_|refine guard_ff ?_|refine guard_tf ?_|refine guard_ft ?_|refine cond_t ?_|refine cond_f ?_|refine Z1 ?_|refine Z2 ?_|refine stp ?_|(refine And.intro ?_ ?_<;>intro h<;>try first|(exfalso;omega)|exact absurd rfl h)|refine Z3 ?_|refine Z4 ?_|intro el hel hbB|intro el hel|intro ex|refine Z5 ?_|(refine free_i ?_ ?_;exact ⟨by kernel_rfl,by decide⟩)|refine allI_c ?_ ?_|exact allI_n|refine allMP_c ?_ ?_|exact allMP_n|(refine many_step ?_ ?_ ?_;kernel_rfl;kernel_rfl)) <;> (try (conv => whnf)))
  all_goals exact ret_tmp rfl (congrArg AV.i (by rw [h]; rfl))
/-- The truth value of a condition about one column. -/
def atomS (s : Sch) (c : Cnd) (v : Int) : Int :=
  if c.op = 2 then truS (underS (lstOf s (colAt s c.col)).1 (lstOf s (colAt s c.col)).2 v c.code) else if c.op = 4 then truS (decide (v = (-1099511627776))) else if v = (-1099511627776) then 0 else truS (decide (c.lo ≤ v ∧ v ≤ c.hi))
set_option maxHeartbeats 4000000 in
theorem catom_call (s : Sch) (c : Cnd) (v : Int) (h2 : c.op = 2 → ∃ x lx, 0 ≤ c.col ∧ s.cols[c.col.toNat]? = some x ∧ 0 ≤ x.lst ∧ s.lists[x.lst.toNat]? = some lx) : FCall Tryz.prog 115 [sA s, cndA c, .i v] (.i (atomS s c v)) := by
  rw [cndA_eq]
  refine fcall_intro (n := 48) Tryz.func115 (by kernel_rfl) rfl rfl rfl rfl rfl (by intro t T h; cases h) (fun hrd E h0 => ?_)
  obtain ⟨hl1, hl2, hl3⟩ := rd_lists (s := s) (hrd _ (by simp))
  clear hrd
  unfold atomS
  by_cases hop : c.op = 2
  · obtain ⟨x, lx, g0, g1, g2, g3⟩ := h2 hop
    rw [if_pos hop, colAt_get g1, lstOf_get g3]
    have hun := under_call lx.1 lx.2 v c.code (hl3 lx (List.mem_of_getElem? g3))
    have htr := ctruth_call (underS lx.1 lx.2 v c.code)
    repeat' ((first | (refine each_knownm (x := x) g1 (by omega) ?_) | (refine each_knownm (x := lx) g3 (by omega) ?_) | refine call_i hun ?_ | refine call_i htr ?_ | (refine draw_q ?_ ?_; kernel_rfl) |refine aops_go ?_|refine awp_go ?_|refine guard_tt ?_|refine guard_ff ?_|refine guard_tf ?_|refine guard_ft ?_|refine cond_t ?_|refine cond_f ?_|refine Z1 ?_|refine Z2 ?_|refine stp ?_|(refine And.intro ?_ ?_<;>intro h<;>try first|(exfalso;omega)|exact absurd rfl h)|refine Z3 ?_|refine Z4 ?_|intro el hel hbB|intro el hel|intro ex|refine Z5 ?_|(refine free_i ?_ ?_;exact ⟨by kernel_rfl,by decide⟩)|refine allI_c ?_ ?_|exact allI_n|refine allMP_c ?_ ?_|exact allMP_n|(refine many_step ?_ ?_ ?_;kernel_rfl;kernel_rfl)) <;> (try (conv => whnf)))
    all_goals first
      | exact ret_tmp rfl rfl
      | trace_state
  · rw [if_neg hop]
    have htr := ctruth_call
    repeat' ((first | refine call_i (htr _) ?_ | (refine draw_q ?_ ?_; kernel_rfl) |refine aops_go ?_|refine awp_go ?_|refine guard_tt ?_|refine guard_ff ?_|refine guard_tf ?_|refine guard_ft ?_|refine cond_t ?_|refine cond_f ?_|refine Z1 ?_|refine Z2 ?_|refine stp ?_|(refine And.intro ?_ ?_<;>intro h<;>try first|(exfalso;omega)|exact absurd rfl h)|refine Z3 ?_|refine Z4 ?_|intro el hel hbB|intro el hel|intro ex|refine Z5 ?_|(refine free_i ?_ ?_;exact ⟨by kernel_rfl,by decide⟩)|refine allI_c ?_ ?_|exact allI_n|refine allMP_c ?_ ?_|exact allMP_n|(refine many_step ?_ ?_ ?_;kernel_rfl;kernel_rfl)) <;> (try (conv => whnf)))
    all_goals first
      | (rw [if_pos (by assumption)]; exact ret_tmp rfl rfl)
      | (rw [if_neg (by assumption), if_pos (by assumption)]; exact ret_tmp rfl rfl)
      | (rw [if_neg (by assumption), if_neg (by assumption)]; refine ret_tmp rfl (congrArg (fun z => AV.i (truS z)) ?_); first | (rw [decide_eq_decide]; omega) | (rw [eq_comm, decide_eq_false_iff_not]; omega))
      | trace_state

/-! ### The conditions about one column -/
mutual
def atmS : Cnd → List Cnd
  | .mk o c k l h ks => if o = 2 ∨ o = 3 ∨ o = 4 then [.mk o c k l h ks] else atmL ks
def atmL : List Cnd → List Cnd
  | [] => []
  | x :: r => atmS x ++ atmL r
end
theorem atmS_eq (c : Cnd) : atmS c = if c.op = 2 ∨ c.op = 3 ∨ c.op = 4 then [c] else atmL c.kids := by
  cases c; rfl
theorem atmL_take (l : List Cnd) (k : Nat) {x : Cnd} (h : l[k]? = some x) : atmL (l.take (k + 1)) = atmL (l.take k) ++ atmS x := by
  rw [takec h]
  generalize l.take k = m
  induction m with
  | nil => simp [atmL]
  | cons a r ih => simp only [List.cons_append, atmL, ih, List.append_assoc]
theorem atm_tot (c : Cnd) : (atmS c).length ≤ totS c := by
  refine cnd_ind (p := fun c => (atmS c).length ≤ totS c) (fun c ih => ?_) c
  have key : ∀ (l : List Cnd), (∀ k ∈ l, k ∈ c.kids) → (atmL l).length ≤ totL l := by
    intro l
    induction l with
    | nil => intro _; simp [atmL, totL]
    | cons x r ihl =>
      intro hl
      have h1 := ih x (hl x (by simp))
      have h2 := ihl (fun k hk => hl k (by simp [hk]))
      unfold atmL totL
      rw [List.length_append]; omega
  rw [atmS_eq, totS_eq]
  split
  · simp
  · have := key c.kids (fun k hk => hk); omega
theorem totL_mem {l : List Cnd} : ∀ k ∈ l, totS k ≤ totL l := by
  induction l with
  | nil => intro k hk; cases hk
  | cons x r ih =>
    intro k hk
    unfold totL
    rcases List.mem_cons.1 hk with rfl | hk
    · omega
    · have := ih k hk; omega
theorem atmL_take_le (l : List Cnd) (k : Nat) : (atmL (l.take k)).length ≤ totL l := by
  induction l generalizing k with
  | nil => simp [atmL]
  | cons x r ih =>
    cases k with
    | zero => simp [atmL]
    | succ k =>
      have h1 := ih k
      have h2 := atm_tot x
      simp only [List.take_succ_cons, atmL, totL, List.length_append]
      omega
set_option maxHeartbeats 4000000 in
theorem catoms_call (c : Cnd) : totS c ≤ 100000 → FCall Tryz.prog 76 [cndA c] (.sl 6 ((atmS c).map cndX)) := by
  refine cnd_ind (p := fun c => totS c ≤ 100000 → FCall Tryz.prog 76 [cndA c] (.sl 6 ((atmS c).map cndX))) (fun c ih ht => ?_) c
  rw [totS_eq] at ht
  rw [cndA_eq, atmS_eq]
  refine fcall_intro (n := 34) Tryz.func76 (by kernel_rfl) rfl rfl rfl rfl rfl (by intro t T h; cases h) (fun hrd E h0 => ?_)
  have hlen : c.kids.length ≤ 9223372036854775807 := by
    have := ((hrd _ (List.mem_cons_self ..)).agg (.sl 6 (c.kids.map cndX)) (by simp)).sl
    simpa using this
  clear hrd
  repeat' ((first|refine aops_go ?_|refine awp_go ?_|refine guard_tt ?_|refine guard_ff ?_|refine guard_tf ?_|refine guard_ft ?_|refine cond_t ?_|refine cond_f ?_|refine Z1 ?_|refine Z2 ?_|refine stp ?_|(refine And.intro ?_ ?_<;>intro h<;>try first|(exfalso;omega)|exact absurd rfl h)|refine Z3 ?_|refine Z4 ?_|intro el hel hbB|intro el hel|intro ex|refine Z5 ?_|(refine free_i ?_ ?_;exact ⟨by kernel_rfl,by decide⟩)|refine allI_c ?_ ?_|exact allI_n|refine allMP_c ?_ ?_|exact allMP_n|(refine many_step ?_ ?_ ?_;kernel_rfl;kernel_rfl)) <;> (try (conv => whnf)))
  all_goals first
    | (rw [if_pos (by omega)]; refine ret_tmp rfl ?_; rw [List.map_cons, cndX, map_cnd]; rfl)
    | skip
  rw [if_neg (by omega)]
  refine loop_i (ι := Nat) (fun k => ⟨[(3, .row 1 0 (atmL (c.kids.take k)).length), (22, .sl 6 (c.kids.map cndX)), (23, .i c.kids.length), (24, .i k)], 2, [(0, some (.box (cndY c))), (1, some (.row 25 6 0 ((atmL (c.kids.take k)).map cndX)))]⟩) (fun k => k ≤ c.kids.length) (fun k => c.kids.length - k) 0 (Nat.zero_le _)
    (le_trans (le_adopt (d := 3) (e := 25) (sz := 6) rfl) (le_of h0 rfl ⟨rfl, rfl, rfl, rfl, trivial⟩ ⟨rfl, ⟨0, rfl⟩, trivial⟩ rfl rfl rfl)) (fun k hk => ?_)
  have hle := atmL_take_le c.kids k
  repeat' ((first | (refine call_i (ih _ (List.mem_of_getElem? (by assumption)) (by have := totL_mem el (List.mem_of_getElem? hel); omega)) ?_) | (refine side_i ?_ ?_; (have q1 := atm_tot el; have q2 := totL_mem el (List.mem_of_getElem? hel); simp only [List.length_map]; omega)) |refine aops_go ?_|refine awp_go ?_|refine guard_tt ?_|refine guard_ff ?_|refine guard_tf ?_|refine guard_ft ?_|refine cond_t ?_|refine cond_f ?_|refine Z1 ?_|refine Z2 ?_|refine stp ?_|(refine And.intro ?_ ?_<;>intro h<;>try first|(exfalso;omega)|exact absurd rfl h)|refine Z3 ?_|refine Z4 ?_|intro el hel hbB|intro el hel|intro ex|refine Z5 ?_|(refine free_i ?_ ?_;exact ⟨by kernel_rfl,by decide⟩)|refine allI_c ?_ ?_|exact allI_n|refine allMP_c ?_ ?_|exact allMP_n|(refine many_step ?_ ?_ ?_;kernel_rfl;kernel_rfl)) <;> (try (conv => whnf)))
  all_goals first
    | exact ⟨k + 1, by omega, by omega, le_of h0 rfl ⟨congrArg (fun z : Nat => some (AV.row 1 0 z)) (by rw [atmL_take _ _ hel, List.length_append, List.length_map]), rfl, rfl, rfl, trivial⟩ ⟨rfl, ⟨_, congrArg (Blk.row 25 6 _) (by rw [atmL_take _ _ hel, List.map_append])⟩, trivial⟩ rfl rfl rfl⟩
    | exact ret_tmp rfl (congrArg (fun z => AV.sl 6 ((atmL z).map cndX)) (take_end (by assumption)))
    | trace_state
end Go.Proofs.YtghlhejdfgkjaaaGreatDoor

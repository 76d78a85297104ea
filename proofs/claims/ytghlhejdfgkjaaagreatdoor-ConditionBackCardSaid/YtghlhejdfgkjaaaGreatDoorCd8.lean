/- Chapter 5: the program's needs of a condition. -/
import Derived.Test.YtghlhejdfgkjaaaGreatDoorCm3
namespace Go.Proofs.YtghlhejdfgkjaaaGreatDoor
open Go Go.Av
attribute [local irreducible] AWp AOps AAny MAny DQ retQ retG St.le FCall GCall
set_option linter.unusedVariables false
set_option linter.unnecessarySimpa false
set_option linter.unusedSimpArgs false
set_option maxRecDepth 100000

abbrev pkT : Nat := 62
def rowF (f : Nat → Int) (n : Nat) : List (List AV) := (List.range n).map fun i => [AV.i (f i)]
theorem rowF_length (f : Nat → Int) (n : Nat) : (rowF f n).length = n := by simp [rowF]
theorem rowF_get {f : Nat → Int} {n k : Nat} (h : k < n) : (rowF f n)[k]? = some [.i (f k)] := by
  unfold rowF
  rw [List.getElem?_map, List.getElem?_range h]; rfl
theorem rowF_set {f : Nat → Int} {n k : Nat} {v : Int} : (rowF f n).set k [.i v] = rowF (fun i => if k = i then v else f i) n := by
  refine List.ext_getElem? fun i => ?_
  unfold rowF
  rw [List.getElem?_set, List.getElem?_map, List.getElem?_map, List.length_map, List.length_range]
  by_cases h : i < n
  · rw [List.getElem?_range h]
    by_cases e : k = i
    · subst e; simp [h]
    · simp [e]
  · rw [List.getElem?_eq_none (by simpa using h)]
    by_cases e : k = i
    · subst e; simp [h]
    · simp [e]
theorem rowF_zero (n : Nat) : List.replicate n [AV.i 0] = rowF (fun _ => 0) n := by
  unfold rowF
  rw [List.map_const', List.length_range]
theorem rowF_upd {lv : Nat → Int} {n : Nat} {col lev : Int} (h : 0 ≤ col) : (rowF lv n).set col.toNat [.i (max (lv col.toNat) lev)] = rowF (upd lv col lev) n := by
  rw [rowF_set]
  unfold rowF
  refine List.map_congr_left fun i _ => ?_
  unfold upd
  dsimp only
  by_cases e : col.toNat = i
  · subst e; rw [if_pos rfl, if_pos (by omega)]
  · rw [if_neg e, if_neg (by omega)]
theorem csuf_call (s : Sch) (a : Cnd) (level : Int) (hr : schE s = 0) (ha : conE s a = 0) (ho : a.op = 2 ∨ a.op = 3 ∨ a.op = 4) (h0 : 0 ≤ level) (h1 : level ≤ finS s a.col) : FCall Tryz.prog 77 [sA s, cndA a, .i level] (.b (sufS s a level)) := by
  by_cases h2 : a.op = 2
  · exact csufc_call s a level hr ha h2
  · exact csufm_call s a level hr ha (by omega) h0 h1
set_option maxHeartbeats 8000000 in
theorem cneeds_call (s : Sch) (c : Cnd) : FCall Tryz.prog 28 [sA s, cndA c] (.sl 2 ((needS s c).map pkL)) := by
  have hchk := ccheck_call s c
  unfold needS
  by_cases hce : cndE s c = 0
  · rw [if_pos hce]
    obtain ⟨hr, ht, hd, hcs⟩ := cndE_parts hce
    have hatm := catoms_call c (by omega)
    have hlen := atm_tot c
    have hn := (schE_parts hr).2.1
    have hright := atm_right c hcs
    rw [cndA_eq] at *
    generalize hA : atmS c = A at *
    refine fcall_intro (n := 63) Tryz.func28 (by kernel_rfl) rfl rfl rfl rfl rfl (by intro t T h; cases h) (fun hrd E h0 => ?_)
    clear hrd
    repeat' ((first | refine call_i hchk ?_ | refine call_i hatm ?_ |refine aops_go ?_|refine awp_go ?_|refine guard_tt ?_|refine guard_ff ?_|refine guard_tf ?_|refine guard_ft ?_|refine cond_t ?_|refine cond_f ?_|refine Z1 ?_|refine Z2 ?_|refine stp ?_|(refine And.intro ?_ ?_<;>intro h<;>try first|(exfalso;omega)|exact absurd rfl h)|refine Z3 ?_|refine Z4 ?_|intro el hel hbB|intro el hel|intro ex|refine Z5 ?_|(refine free_i ?_ ?_;exact ⟨by kernel_rfl,by decide⟩)|refine allI_c ?_ ?_|exact allI_n|refine allMP_c ?_ ?_|exact allMP_n|(refine many_step ?_ ?_ ?_;kernel_rfl;kernel_rfl)) <;> (try (conv => whnf)))
    all_goals first
      | exact absurd hce (by assumption)
      | skip
    refine loop_i (ι := Nat) (fun k => ⟨[(2, .ref 0 0), (3, .ref 1 0), (5, .row 2 0 s.cols.length), (21, .sl 6 (A.map cndX)), (22, .i A.length), (23, .i k)], 3, [(0, some (.box (sL s))), (1, some (.box (cndY c))), (2, some (.row 3 1 0 (rowF (lvA s (A.take k)) s.cols.length)))]⟩)
      (fun k => k ≤ A.length) (fun k => A.length - k) 0 (Nat.zero_le _)
      (le_of h0 rfl ⟨rfl, rfl, rfl, rfl, rfl, rfl, trivial⟩ ⟨rfl, rfl, ⟨0, congrArg (Blk.row 3 1 0) (by rw [Int.toNat_natCast]; exact (rowF_zero _).symm)⟩, trivial⟩ rfl rfl rfl) (fun k hk => ?_)
    have hlv := lvA_nn s
    by_cases hlt : k < A.length
    · obtain ⟨el, hel⟩ : ∃ el, A[k]? = some el := ⟨_, List.getElem?_eq_getElem hlt⟩
      obtain ⟨r1, r2⟩ := hright el (List.mem_of_getElem? hel)
      obtain ⟨l1, l2, l3⟩ := levS_spec hr r1 r2
      obtain ⟨x, hx, c1, c2, _⟩ := atom_col hr r1 r2
      have hrow := rowF_get (f := lvA s (A.take k)) (n := s.cols.length) (k := el.col.toNat) (by omega)
      have hfin := finS_bd hr el.col
      repeat' ((first | (refine each_knownm (x := el) hel (by omega) ?_) |refine aops_go ?_|refine awp_go ?_|refine guard_tt ?_|refine guard_ff ?_|refine guard_tf ?_|refine guard_ft ?_|refine cond_t ?_|refine cond_f ?_|refine Z1 ?_|refine Z2 ?_|refine stp ?_|(refine And.intro ?_ ?_<;>intro h<;>try first|(exfalso;omega)|exact absurd rfl h)|refine Z3 ?_|refine Z4 ?_|intro el hel hbB|intro el hel|intro ex|refine Z5 ?_|(refine free_i ?_ ?_;exact ⟨by kernel_rfl,by decide⟩)|refine allI_c ?_ ?_|exact allI_n|refine allMP_c ?_ ?_|exact allMP_n|(refine many_step ?_ ?_ ?_;kernel_rfl;kernel_rfl)) <;> (try (conv => whnf)))
      all_goals first
        | (exfalso; omega)
        | skip
      refine loop_i (ι := Nat) (fun j => ⟨[(2, .ref 0 0), (3, .ref 1 0), (5, .row 2 0 s.cols.length), (7, .ref 3 0), (8, .i j), (21, .sl 6 (A.map cndX)), (22, .i A.length), (23, .i k)], 4, [(0, some (.box (sL s))), (1, some (.box (cndY c))), (2, some (.row 3 1 0 (rowF (lvA s (A.take k)) s.cols.length))), (3, some (.box (cndX el)))]⟩)
        (fun j => j ≤ levS s el) (fun j => levS s el - j) 0 (Nat.zero_le _) (le_of h0 rfl ⟨rfl, rfl, rfl, rfl, rfl, rfl, rfl, rfl, trivial⟩ ⟨rfl, rfl, ⟨_, rfl⟩, rfl, trivial⟩ rfl rfl rfl) (fun j hj => ?_)
      have hc := csuf_call s el j hr r1 r2 (by omega) (by omega)
      by_cases hs : sufS s el j = true
      · obtain rfl : j = levS s el := Classical.byContradiction fun hne => by have := l3 j (by omega); rw [hs] at this; cases this
        rw [hs] at hc
        repeat' ((first | refine call_i hc ?_ | refine draw_m (id := 10) ⟨[(2, .ref 0 0), (3, .ref 1 0), (5, .row 2 0 s.cols.length), (21, .sl 6 (A.map cndX)), (22, .i A.length), (23, .i k)], 3, [(0, some (.box (sL s))), (1, some (.box (cndY c))), (2, some (.row 3 1 0 (rowF (lvA s (A.take (k + 1))) s.cols.length)))]⟩ ?_ ?_ |refine aops_go ?_|refine awp_go ?_|refine guard_tt ?_|refine guard_ff ?_|refine guard_tf ?_|refine guard_ft ?_|refine cond_t ?_|refine cond_f ?_|refine Z1 ?_|refine Z2 ?_|refine stp ?_|(refine And.intro ?_ ?_<;>intro h<;>try first|(exfalso;omega)|exact absurd rfl h)|refine Z3 ?_|refine Z4 ?_|intro el hel hbB|intro el hel|intro ex|refine Z5 ?_|(refine free_i ?_ ?_;exact ⟨by kernel_rfl,by decide⟩)|refine allI_c ?_ ?_|exact allI_n|refine allMP_c ?_ ?_|exact allMP_n|(refine many_step ?_ ?_ ?_;kernel_rfl;kernel_rfl)) <;> (try (conv => whnf)))
        all_goals first
          | exact le_of h0 rfl ⟨rfl, rfl, rfl, rfl, rfl, rfl, trivial⟩ ⟨rfl, rfl, ⟨_, congrArg (Blk.row 3 1 _) (by rw [lvA_take hel]; exact (rowF_upd (by omega)).symm)⟩, trivial⟩ rfl rfl rfl
          | exact ⟨k + 1, by omega, by omega, le_of h0 rfl ⟨rfl, rfl, rfl, rfl, rfl, rfl, trivial⟩ ⟨rfl, rfl, ⟨_, rfl⟩, trivial⟩ rfl rfl rfl⟩
          | trace_state
      · have hs2 : sufS s el j = false := by simpa using hs
        have hlt2 : j < levS s el := Nat.lt_of_le_of_ne hj fun e => by rw [e, l2] at hs2; cases hs2
        rw [hs2] at hc
        repeat' ((first | refine call_i hc ?_ |refine aops_go ?_|refine awp_go ?_|refine guard_tt ?_|refine guard_ff ?_|refine guard_tf ?_|refine guard_ft ?_|refine cond_t ?_|refine cond_f ?_|refine Z1 ?_|refine Z2 ?_|refine stp ?_|(refine And.intro ?_ ?_<;>intro h<;>try first|(exfalso;omega)|exact absurd rfl h)|refine Z3 ?_|refine Z4 ?_|intro el hel hbB|intro el hel|intro ex|refine Z5 ?_|(refine free_i ?_ ?_;exact ⟨by kernel_rfl,by decide⟩)|refine allI_c ?_ ?_|exact allI_n|refine allMP_c ?_ ?_|exact allMP_n|(refine many_step ?_ ?_ ?_;kernel_rfl;kernel_rfl)) <;> (try (conv => whnf)))
        all_goals first
          | exact ⟨j + 1, by omega, by omega, le_of h0 rfl ⟨rfl, rfl, rfl, rfl, rfl, rfl, rfl, rfl, trivial⟩ ⟨rfl, rfl, ⟨_, rfl⟩, rfl, trivial⟩ rfl rfl rfl⟩
          | trace_state
    · obtain rfl : k = A.length := by omega
      rw [List.take_length]
      repeat' ((first|refine aops_go ?_|refine awp_go ?_|refine guard_tt ?_|refine guard_ff ?_|refine guard_tf ?_|refine guard_ft ?_|refine cond_t ?_|refine cond_f ?_|refine Z1 ?_|refine Z2 ?_|refine stp ?_|(refine And.intro ?_ ?_<;>intro h<;>try first|(exfalso;omega)|exact absurd rfl h)|refine Z3 ?_|refine Z4 ?_|intro el hel hbB|intro el hel|intro ex|refine Z5 ?_|(refine free_i ?_ ?_;exact ⟨by kernel_rfl,by decide⟩)|refine allI_c ?_ ?_|exact allI_n|refine allMP_c ?_ ?_|exact allMP_n|(refine many_step ?_ ?_ ?_;kernel_rfl;kernel_rfl)) <;> (try (conv => whnf)))
      all_goals first
        | (exfalso; omega)
        | skip
      refine loop_i (ι := Nat) (fun i => ⟨[(9, .row 3 0 (pksR (lvA s A) 0 i).length), (46, .row 2 0 s.cols.length), (47, .i s.cols.length), (48, .i i)], 4, [(2, some (.row 3 1 0 (rowF (lvA s A) s.cols.length))), (3, some (.row pkT 2 0 ((pksR (lvA s A) 0 i).map pkL)))]⟩)
        (fun i => i ≤ s.cols.length) (fun i => s.cols.length - i) 0 (Nat.zero_le _)
        (le_trans (le_adopt (d := 9) (e := pkT) (sz := 2) rfl) (le_of h0 rfl ⟨rfl, rfl, rfl, rfl, trivial⟩ ⟨⟨_, rfl⟩, ⟨0, rfl⟩, trivial⟩ rfl rfl rfl)) (fun i hi => ?_)
      have hpl := pksR_length (lvA s A) i 0
      by_cases hlt : i < s.cols.length
      · have hrow := rowF_get (f := lvA s A) (n := s.cols.length) (k := i) hlt
        have hsn := pksR_snoc (lvA s A) i 0
        rw [Nat.zero_add] at hsn
        repeat' ((first | (refine each_known (x := [.i (lvA s A i)]) hrow (by omega) ?_) |refine aops_go ?_|refine awp_go ?_|refine guard_tt ?_|refine guard_ff ?_|refine guard_tf ?_|refine guard_ft ?_|refine cond_t ?_|refine cond_f ?_|refine Z1 ?_|refine Z2 ?_|refine stp ?_|(refine And.intro ?_ ?_<;>intro h<;>try first|(exfalso;omega)|exact absurd rfl h)|refine Z3 ?_|refine Z4 ?_|intro el hel hbB|intro el hel|intro ex|refine Z5 ?_|(refine free_i ?_ ?_;exact ⟨by kernel_rfl,by decide⟩)|refine allI_c ?_ ?_|exact allI_n|refine allMP_c ?_ ?_|exact allMP_n|(refine many_step ?_ ?_ ?_;kernel_rfl;kernel_rfl)) <;> (try (conv => whnf)))
        all_goals first
          | (exfalso; omega)
          | (rw [if_pos (by assumption)] at hsn; exact ⟨i + 1, by omega, by omega, le_of h0 rfl ⟨congrArg (fun z : Nat => some (AV.row 3 0 z)) (by rw [hsn, List.length_append]; rfl), rfl, rfl, rfl, trivial⟩ ⟨⟨_, rfl⟩, ⟨_, congrArg (Blk.row pkT 2 _) (by rw [hsn, List.map_append]; rfl)⟩, trivial⟩ rfl rfl rfl⟩)
          | (rw [if_neg (by assumption), List.append_nil] at hsn; exact ⟨i + 1, by omega, by omega, le_of h0 rfl ⟨congrArg (fun z : Nat => some (AV.row 3 0 z)) (by rw [hsn]), rfl, rfl, rfl, trivial⟩ ⟨⟨_, rfl⟩, ⟨_, congrArg (Blk.row pkT 2 _) (by rw [hsn])⟩, trivial⟩ rfl rfl rfl⟩)
          | trace_state
      · obtain rfl : i = s.cols.length := by omega
        repeat' ((first|refine aops_go ?_|refine awp_go ?_|refine guard_tt ?_|refine guard_ff ?_|refine guard_tf ?_|refine guard_ft ?_|refine cond_t ?_|refine cond_f ?_|refine Z1 ?_|refine Z2 ?_|refine stp ?_|(refine And.intro ?_ ?_<;>intro h<;>try first|(exfalso;omega)|exact absurd rfl h)|refine Z3 ?_|refine Z4 ?_|intro el hel hbB|intro el hel|intro ex|refine Z5 ?_|(refine free_i ?_ ?_;exact ⟨by kernel_rfl,by decide⟩)|refine allI_c ?_ ?_|exact allI_n|refine allMP_c ?_ ?_|exact allMP_n|(refine many_step ?_ ?_ ?_;kernel_rfl;kernel_rfl)) <;> (try (conv => whnf)))
        all_goals first
          | exact ret_tmp rfl rfl
          | (exfalso; omega)
          | trace_state
  · rw [if_neg hce]
    rw [cndA_eq] at *
    refine fcall_intro (n := 63) Tryz.func28 (by kernel_rfl) rfl rfl rfl rfl rfl (by intro t T h; cases h) (fun hrd E h0 => ?_)
    clear hrd
    repeat' ((first | refine call_i hchk ?_ |refine aops_go ?_|refine awp_go ?_|refine guard_tt ?_|refine guard_ff ?_|refine guard_tf ?_|refine guard_ft ?_|refine cond_t ?_|refine cond_f ?_|refine Z1 ?_|refine Z2 ?_|refine stp ?_|(refine And.intro ?_ ?_<;>intro h<;>try first|(exfalso;omega)|exact absurd rfl h)|refine Z3 ?_|refine Z4 ?_|intro el hel hbB|intro el hel|intro ex|refine Z5 ?_|(refine free_i ?_ ?_;exact ⟨by kernel_rfl,by decide⟩)|refine allI_c ?_ ?_|exact allI_n|refine allMP_c ?_ ?_|exact allMP_n|(refine many_step ?_ ?_ ?_;kernel_rfl;kernel_rfl)) <;> (try (conv => whnf)))
    all_goals first
      | exact ret_nil (sz := 2) rfl rfl
      | (exfalso; contradiction)
      | trace_state
end Go.Proofs.YtghlhejdfgkjaaaGreatDoor

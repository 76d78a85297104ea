/- The law's values of a row at levels. Chapter 5: picks that are right: needs, and finer ones. -/
import Derived.Test.YtghlhejdfgkjaaaGreatDoorB10
import Derived.Test.YtghlhejdfgkjaaaGreatDoorB8
import Derived.Test.YtghlhejdfgkjaaaGreatDoorCA
import Derived.Test.YtghlhejdfgkjaaaGreatDoorD2
namespace Go.Proofs.YtghlhejdfgkjaaaGreatDoor
open Go Go.Av
attribute [local irreducible] AWp AOps AAny MAny DQ retQ retG St.le FCall GCall
set_option linter.unusedVariables false
set_option linter.unnecessarySimpa false
set_option linter.unusedSimpArgs false
set_option maxRecDepth 100000

def coaT (s : Sch) (row : List Int) (p : Pk) : Int := coaS s p.col p.lev (if 0 ≤ p.col ∧ p.col < row.length then row.getD p.col.toNat 0 else 0)
set_option maxHeartbeats 4000000 in
theorem lcoarse_call (s : Sch) (l : List Pk) (row : List Int) (hl : l.length ≤ 100000) : FCall Tryz.prog 31 [sA s, .sl 2 (l.map pkL), .sl 1 (row.map wA)] (.sl 1 ((l.map (coaT s row)).map wA)) := by
  have hco := fun p v => rcoarse_call s (Pk.col p) (Pk.lev p) v
  refine fcall_intro (n := 44) Tryz.func31 (by kernel_rfl) rfl rfl rfl rfl rfl (by intro t T h; cases h) (fun hrd E h0 => ?_)
  have hrl : row.length ≤ 9223372036854775807 := by have := (hrd (.sl 1 (row.map wA)) (by simp)).sl; simpa using this
  clear hrd
  repeat' ((first|refine aops_go ?_|refine awp_go ?_|refine guard_tt ?_|refine guard_ff ?_|refine guard_tf ?_|refine guard_ft ?_|refine cond_t ?_|refine cond_f ?_|refine Z1 ?_|refine Z2 ?_|refine stp ?_|(refine And.intro ?_ ?_<;>intro h<;>try first|(exfalso;omega)|exact absurd rfl h)|refine Z3 ?_|refine Z4 ?_|intro el hel hbB|intro el hel|intro ex|refine Z5 ?_|(refine free_i ?_ ?_;exact ⟨by kernel_rfl,by decide⟩)|refine allI_c ?_ ?_|exact allI_n|refine allMP_c ?_ ?_|exact allMP_n|(refine many_step ?_ ?_ ?_;kernel_rfl;kernel_rfl)) <;> (try (conv => whnf)))
  refine loop_i (ι := Nat) (fun k => ⟨[(2, .sl 1 (row.map wA)), (3, .ref 0 0), (7, .row 1 0 ((l.take k).map (coaT s row)).length), (11, .sl 2 (l.map pkL)), (12, .i l.length), (13, .i k)], 2, [(0, some (.box (sL s))), (1, some (.row 3 1 0 (((l.take k).map (coaT s row)).map wA)))]⟩) (fun k => k ≤ l.length) (fun k => l.length - k) 0 (Nat.zero_le _)
    (le_trans (le_adopt (d := 7) (e := 3) (sz := 1) rfl) (le_of h0 rfl ⟨rfl, rfl, rfl, rfl, rfl, rfl, trivial⟩ ⟨rfl, ⟨0, rfl⟩, trivial⟩ rfl rfl rfl)) (fun k hk => ?_)
  have hlt : (l.take k).length ≤ 100000 := by rw [List.length_take]; omega
  by_cases hkl : k < l.length
  · obtain ⟨p, hp⟩ : ∃ p, l[k]? = some p := ⟨_, List.getElem?_eq_getElem hkl⟩
    have hnx : ∀ v, coaT s row p = coaS s p.col p.lev v → (l.take (k + 1)).map (coaT s row) = (l.take k).map (coaT s row) ++ [coaS s p.col p.lev v] := fun v e => by
      rw [takec hp, List.map_append]; simp [e]
    have hcp := hco p
    repeat' ((first | (refine each_knownm (x := p) hp (by omega) ?_) | refine call_i (hcp _) ?_ |refine aops_go ?_|refine awp_go ?_|refine guard_tt ?_|refine guard_ff ?_|refine guard_tf ?_|refine guard_ft ?_|refine cond_t ?_|refine cond_f ?_|refine Z1 ?_|refine Z2 ?_|refine stp ?_|(refine And.intro ?_ ?_<;>intro h<;>try first|(exfalso;omega)|exact absurd rfl h)|refine Z3 ?_|refine Z4 ?_|intro el hel hbB|intro el hel|intro ex|refine Z5 ?_|(refine free_i ?_ ?_;exact ⟨by kernel_rfl,by decide⟩)|refine allI_c ?_ ?_|exact allI_n|refine allMP_c ?_ ?_|exact allMP_n|(refine many_step ?_ ?_ ?_;kernel_rfl;kernel_rfl)) <;> (try (conv => whnf)))
    all_goals first
      | (have hy := hnx el (by rw [coaT, if_pos ⟨by omega, by omega⟩, List.getD_eq_getElem?_getD, hel]; rfl)
         exact ⟨k + 1, by omega, by omega, le_of h0 rfl ⟨rfl, rfl, congrArg (fun z : Nat => some (AV.row 1 0 z)) (by rw [hy, List.length_append]; rfl), rfl, rfl, rfl, trivial⟩ ⟨rfl, ⟨_, congrArg (Blk.row 3 1 _) (by rw [hy, List.map_append]; rfl)⟩, trivial⟩ rfl rfl rfl⟩)
      | (have hy := hnx 0 (by rw [coaT, if_neg (by omega)])
         exact ⟨k + 1, by omega, by omega, le_of h0 rfl ⟨rfl, rfl, congrArg (fun z : Nat => some (AV.row 1 0 z)) (by rw [hy, List.length_append]; rfl), rfl, rfl, rfl, trivial⟩ ⟨rfl, ⟨_, congrArg (Blk.row 3 1 _) (by rw [hy, List.map_append]; rfl)⟩, trivial⟩ rfl rfl rfl⟩)
      | (exfalso; omega)
      | trace_state
  · obtain rfl : k = l.length := by omega
    rw [List.take_length]
    repeat' ((first|refine aops_go ?_|refine awp_go ?_|refine guard_tt ?_|refine guard_ff ?_|refine guard_tf ?_|refine guard_ft ?_|refine cond_t ?_|refine cond_f ?_|refine Z1 ?_|refine Z2 ?_|refine stp ?_|(refine And.intro ?_ ?_<;>intro h<;>try first|(exfalso;omega)|exact absurd rfl h)|refine Z3 ?_|refine Z4 ?_|intro el hel hbB|intro el hel|intro ex|refine Z5 ?_|(refine free_i ?_ ?_;exact ⟨by kernel_rfl,by decide⟩)|refine allI_c ?_ ?_|exact allI_n|refine allMP_c ?_ ?_|exact allMP_n|(refine many_step ?_ ?_ ?_;kernel_rfl;kernel_rfl)) <;> (try (conv => whnf)))
    all_goals first
      | (exfalso; omega)
      | exact ret_tmp rfl rfl
      | trace_state
end Go.Proofs.YtghlhejdfgkjaaaGreatDoor

namespace Go.Proofs.YtghlhejdfgkjaaaGreatDoor
open Go Go.Av
attribute [local irreducible] AWp AOps AAny MAny DQ retQ retG St.le FCall GCall
set_option linter.unusedVariables false
set_option linter.unnecessarySimpa false
set_option linter.unusedSimpArgs false
set_option maxRecDepth 100000

theorem firstE_of {α : Type} {f : Nat → α → Int} : ∀ {l : List α} {k : Nat}, (∀ (i : Nat) x, l[i]? = some x → f (k + i) x = 0) → firstE f k l = 0
  | [], k, _ => rfl
  | x :: r, k, h => by
    unfold firstE
    rw [if_pos (by simpa using h 0 x rfl)]
    exact firstE_of fun i y hy => by rw [show k + 1 + i = k + (i + 1) by omega]; exact h (i + 1) y (by simpa using hy)
theorem pksR_inc (lv : Nat → Int) : ∀ (n lo : Nat), (pksR lv lo n).Pairwise fun p q => p.col < q.col
  | 0, lo => List.Pairwise.nil
  | n + 1, lo => by
    rw [pksR_succ]
    split
    · refine List.Pairwise.cons (fun q hq => ?_) (pksR_inc lv n (lo + 1))
      have := (pksR_mem hq).1
      dsimp only
      omega
    · exact pksR_inc lv n (lo + 1)
theorem need_inc (s : Sch) (c : Cnd) : (needS s c).Pairwise fun p q => p.col < q.col := by
  unfold needS
  split
  · exact pksR_inc _ _ _
  · exact List.Pairwise.nil
theorem pair_get {α : Type} {R : α → α → Prop} {l : List α} (h : l.Pairwise R) {i j : Nat} {x y : α} (hij : i < j) (hx : l[i]? = some x) (hy : l[j]? = some y) : R x y := by
  obtain ⟨h1, rfl⟩ := List.getElem?_eq_some_iff.1 hx
  obtain ⟨h2, rfl⟩ := List.getElem?_eq_some_iff.1 hy
  exact List.pairwise_iff_getElem.1 h i j h1 h2 hij
theorem picks_of {s : Sch} (hr : schE s = 0) {l : List Pk} (h : ∀ p ∈ l, 1 ≤ p.col ∧ p.col < s.cols.length ∧ 0 ≤ p.lev ∧ p.lev ≤ finestS s p.col) (hi : l.Pairwise fun p q => p.col < q.col) : picksE s l = 0 := by
  unfold picksE
  rw [if_pos hr]
  refine firstE_of fun i p hp => ?_
  rw [Nat.zero_add]
  obtain ⟨h1, h2, h3, h4⟩ := h p (List.mem_of_getElem? hp)
  rw [finestS, if_pos hr] at h4
  have hk : pkE s p = 0 := by
    unfold pkE
    rw [if_neg (by omega), if_neg (by omega)]
  unfold pksE
  rw [if_pos hk]
  split
  · rename_i hh
    obtain ⟨hi0, hle⟩ := hh
    have hlt : i - 1 < l.length := by have := (List.getElem?_eq_some_iff.1 hp).1; omega
    have hq := List.getElem?_eq_getElem hlt
    rw [List.getD_eq_getElem?_getD, hq] at hle
    have := pair_get hi (show i - 1 < i by omega) hq hp
    simp only [Option.getD_some] at hle
    omega
  · rfl
/-- What a right condition needs is right. -/
theorem need_right {s : Sch} {c : Cnd} (hr : schE s = 0) : ∀ p ∈ needS s c, 1 ≤ p.col ∧ p.col < s.cols.length ∧ 0 ≤ p.lev ∧ p.lev ≤ finestS s p.col := by
  intro p hp
  obtain ⟨hc, h1, h2, h3, h4⟩ := need_mem hp
  obtain ⟨_, _, _, hcs⟩ := cndE_parts hc
  -- the level is that of some atom about the column
  have hle : p.lev ≤ finestS s p.col ∧ 1 ≤ p.col := by
    by_cases hex : ∃ a ∈ atmS c, a.col = p.col
    · obtain ⟨a, ha, hac⟩ := hex
      obtain ⟨har, hao⟩ := atm_right c hcs a ha
      obtain ⟨x, hx, c1, c2, _⟩ := atom_col hr har hao
      have hfe : ∀ col, finestS s col = finS s col := fun col => by rw [finestS, if_pos hr]
      refine ⟨?_, by omega⟩
      rw [h3]
      refine lvA_le (B := finestS s p.col) ?_ _ fun b hb hbc => ?_
      · have := (suf_fin hr har hao).2
        rw [hfe, ← hac]; exact this
      · obtain ⟨hbr, hbo⟩ := atm_right c hcs b hb
        have := (levS_spec hr hbr hbo).1
        rw [hfe]
        rw [show p.col = b.col by omega]
        exact this
    · exfalso
      have hz : lvA s (atmS c) p.col.toNat ≤ 0 := lvA_le (by omega) _ fun b hb hbc => absurd ⟨b, hb, by omega⟩ hex
      omega
  exact ⟨hle.2, h2, by omega, hle.1⟩
/-- Finer picks than what a condition needs. -/
structure Finer (s : Sch) (N F : List Pk) : Prop where
  len : F.length = N.length
  at' : ∀ (i : Nat) n p, N[i]? = some n → F[i]? = some p → p.col = n.col ∧ n.lev ≤ p.lev ∧ p.lev ≤ finestS s n.col
theorem Finer.refl' {s : Sch} {c : Cnd} (hr : schE s = 0) : Finer s (needS s c) (needS s c) :=
  ⟨rfl, fun i n p h1 h2 => by
    rw [h1] at h2; cases h2
    exact ⟨rfl, Int.le_refl _, (need_right hr n (List.mem_of_getElem? h1)).2.2.2⟩⟩
theorem Finer.set' {s : Sch} {N F : List Pk} (h : Finer s N F) {k : Nat} {n q : Pk} (hn : N[k]? = some n) (h1 : q.col = n.col) (h2 : n.lev ≤ q.lev) (h3 : q.lev ≤ finestS s n.col) : Finer s N (F.set k q) := by
  refine ⟨by rw [List.length_set]; exact h.len, fun i m p hm hp => ?_⟩
  by_cases e : k = i
  · subst e
    rw [hn] at hm; cases hm
    have hlt : k < F.length := by have := (List.getElem?_eq_some_iff.1 hn).1; rw [h.len]; exact this
    rw [List.getElem?_set_self hlt] at hp
    cases hp
    exact ⟨h1, h2, h3⟩
  · rw [List.getElem?_set_ne e] at hp
    exact h.at' i m p hm hp
theorem Finer.get {s : Sch} {N F : List Pk} (h : Finer s N F) {k : Nat} {p : Pk} (hp : F[k]? = some p) : ∃ n, N[k]? = some n ∧ p.col = n.col ∧ n.lev ≤ p.lev ∧ p.lev ≤ finestS s n.col := by
  have hlt : k < N.length := by have := (List.getElem?_eq_some_iff.1 hp).1; rw [← h.len]; exact this
  exact ⟨_, List.getElem?_eq_getElem hlt, h.at' k _ p (List.getElem?_eq_getElem hlt) hp⟩
theorem coaT_eq {s : Sch} {row : List Int} {p : Pk} (h : 0 ≤ p.col ∧ p.col < row.length) : coaT s row p = coaV s row p := by
  rw [coaT, if_pos h]; rfl
/-- With what it needs, or with finer values, the truth value is that for the row itself. -/
theorem finer_known {s : Sch} (hd : Drawn s) {x : Cnd} (hx : cndE s x = 0) {row : List Int} (hrow : RowOk s row) {F : List Pk} (hF : Finer s (needS s x) F) : coarP s x F (F.map (coaT s row)) = evaS s x row := by
  have hr := hd.ok
  have hR : ∀ p ∈ F, 1 ≤ p.col ∧ p.col < s.cols.length ∧ 0 ≤ p.lev ∧ p.lev ≤ finestS s p.col := by
    intro p hp
    obtain ⟨k, hk⟩ := List.getElem?_of_mem hp
    obtain ⟨n, hn, e1, e2, e3⟩ := hF.get hk
    have := need_right hr n (List.mem_of_getElem? hn)
    rw [e1]
    omega
  have hI : F.Pairwise fun p q => p.col < q.col := by
    rw [List.pairwise_iff_getElem]
    intro i j hi hj hij
    obtain ⟨n, hn, e1, _⟩ := hF.get (List.getElem?_eq_getElem hi)
    obtain ⟨m, hm, e2, _⟩ := hF.get (List.getElem?_eq_getElem hj)
    have := pair_get (need_inc s x) hij hn hm
    omega
  have hU : ∀ p ∈ F, ∀ q ∈ F, p.col = q.col → p = q := by
    intro p hp q hq e
    obtain ⟨i, hi⟩ := List.getElem?_of_mem hp
    obtain ⟨j, hj⟩ := List.getElem?_of_mem hq
    rcases Nat.lt_trichotomy i j with h | h | h
    · have := pair_get hI h hi hj; omega
    · subst h; rw [hi] at hj; exact Option.some.inj hj
    · have := pair_get hI h hj hi; omega
  have hC : covB F (needS s x) = true := cov_of fun n hn => by
    obtain ⟨k, hk⟩ := List.getElem?_of_mem hn
    have hlt : k < F.length := by have := (List.getElem?_eq_some_iff.1 hk).1; rw [hF.len]; exact this
    obtain ⟨e1, e2, _⟩ := hF.at' k n _ hk (List.getElem?_eq_getElem hlt)
    exact ⟨_, List.mem_of_getElem? (List.getElem?_eq_getElem hlt), e1, e2⟩
  have hV : F.map (coaT s row) = F.map (coaV s row) := List.map_congr_left fun p hp => coaT_eq (by
    have := hR p hp
    have := hrow.1
    omega)
  obtain ⟨k1, k2⟩ := known hd hx hrow hR hU hC
  rw [coar_eq hd, coarS, if_pos ⟨hx, picks_of hr hR hI, by simp, hC⟩, hV, if_pos k1, k2, evaS, if_pos ⟨hx, row_ok0 hr hrow⟩]
end Go.Proofs.YtghlhejdfgkjaaaGreatDoor

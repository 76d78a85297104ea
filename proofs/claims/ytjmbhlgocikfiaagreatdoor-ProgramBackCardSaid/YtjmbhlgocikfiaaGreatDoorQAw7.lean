/- Chapter 16: how long the texts of drawn programs are. -/
import Derived.Test.YtjmbhlgocikfiaaGreatDoorQCB
import Derived.Test.YtjmbhlgocikfiaaGreatDoorQPm4
import Derived.Test.YtjmbhlgocikfiaaGreatDoorQCe1
import Derived.Test.YtjmbhlgocikfiaaGreatDoorQB10
import Derived.Test.YtjmbhlgocikfiaaGreatDoorQD2
import Derived.Test.YtjmbhlgocikfiaaGreatDoorQF6
import Derived.Test.YtjmbhlgocikfiaaGreatDoorQF1
import Derived.Test.YtjmbhlgocikfiaaGreatDoorQB12
import Derived.Test.YtjmbhlgocikfiaaGreatDoorQB4
set_option linter.unusedVariables false
set_option linter.unnecessarySimpa false
set_option linter.unusedSimpArgs false
namespace Go.Proofs.YtjmbhlgocikfiaaGreatDoor
open Go Go.Av
attribute [local irreducible] AWp AOps AAny MAny DQ retQ retG St.le FCall GCall
set_option maxRecDepth 100000
theorem jnS_sum (sep : List UInt8) : ∀ l : List (List UInt8),(jnS sep l).length ≤ (l.map List.length).sum + l.length * sep.length
 | [] => by simp [jnS]
 | [x] => by simp [jnS]
 | x :: y :: r => by
  have ih := jnS_sum sep (y :: r)
  unfold jnS
  rw [List.length_append,List.length_append,List.map_cons,List.sum_cons,List.length_cons,Nat.add_mul,Nat.one_mul]
  omega
theorem txtS_tot {s : Sch} {c : Cnd} (h : cndE s c = 0) : (txtS s c).length ≤ 100 * totS c := by
 obtain ⟨hr,h3,h4,h5⟩ := cndE_parts h
 exact (ctext_call s hr c h5 (by omega)).2
theorem prtJ_tot {s : Sch} (hr : schE s = 0) {e : Xpr} (hg : RigE s e) (h1 : ¬ e.op = 1) (h2 : ¬ e.op = 2) (h3 : ¬ (6 ≤ e.op ∧ e.op ≤ 9)) : (jnS bSep (prtX s e.op e.num e.col e.cols e.dims e.evt ++ [txtS s e.cnd])).length ≤ 240 + 100 * totS e.cnd + 100 * totS e.evt := by
 obtain ⟨_,_,q1,q2,q3⟩ := rig_call hr hg h1 h2 h3
 have hln := hg.lens
 have hcd := txtS_tot q3
 have hnm := nmD_len hr e.col
 have hop := hg.op
 have hj := jnS_sum bSep (prtX s e.op e.num e.col e.cols e.dims e.evt ++ [txtS s e.cnd])
 have hb : bSep.length = 2 := rfl
 rw [hb] at hj
 refine Nat.le_trans hj ?_
 clear hj
 unfold hdOk at q1
 unfold mdOk at q2
 unfold prtX
 by_cases o3 : e.op = 3
 ·rw [if_pos o3]
  simp only [List.nil_append,List.map_cons,List.map_nil,List.sum_cons,List.sum_nil,List.length_cons,List.length_nil]
  omega
 rw [if_neg o3] at q1 ⊢
 by_cases o10 : e.op = 10
 ·rw [if_pos o10] at q1 ⊢
  have := dimTs_len hr hln.1 q1.2.1
  simp only [List.cons_append,List.nil_append,List.map_cons,List.map_nil,List.sum_cons,List.sum_nil,List.length_cons,List.length_nil] at this ⊢
  omega
 rw [if_neg o10] at q1 ⊢
 by_cases o11 : e.op = 11
 ·rw [if_pos o11]
  have := nmDs_len hr hln.2.1
  simp only [List.cons_append,List.nil_append,List.map_cons,List.map_nil,List.sum_cons,List.sum_nil,List.length_cons,List.length_nil] at this ⊢
  omega
 rw [if_neg o11] at q2 ⊢
 by_cases o12 : e.op = 12
 ·rw [if_pos o12] at q2 ⊢
  have := txtS_tot q2.2.2
  simp only [List.cons_append,List.nil_append,List.map_cons,List.map_nil,List.sum_cons,List.sum_nil,List.length_cons,List.length_nil] at this ⊢
  omega
 rw [if_neg o12] at q2 ⊢
 by_cases o13 : e.op = 13
 ·rw [if_pos o13] at q2 ⊢
  have := Lib.itoa_length_le e.num (by have := q2.1; omega) (by have := q2.1; omega)
  simp only [List.cons_append,List.nil_append,List.map_cons,List.map_nil,List.sum_cons,List.sum_nil,List.length_cons,List.length_nil] at this ⊢
  omega
 rw [if_neg o13]
 simp only [List.cons_append,List.nil_append,List.map_cons,List.map_nil,List.sum_cons,List.sum_nil,List.length_cons,List.length_nil]
 omega
theorem leaf_tot {s : Sch} (hr : schE s = 0) {e : Xpr} (hg : RigE s e) (h3 : ¬ (6 ≤ e.op ∧ e.op ≤ 9)) : (txtX s e).length ≤ 250 + 100 * totS e.cnd + 100 * totS e.evt := by
 have htx := txtX_eq s e
 by_cases h1 : e.op = 1
 ·have hpar := hg.par
  unfold parB at hpar
  rw [if_pos h1] at hpar
  have hb := of_decide_eq_true hpar
  have := Lib.itoa_length_le e.num (by omega) (by omega)
  rw [htx,if_pos h1]
  omega
 rw [if_neg h1] at htx
 by_cases h2 : e.op = 2
 ·have hpar := hg.par
  unfold parB at hpar
  rw [if_neg h1,if_pos h2] at hpar
  have := nameB_len hpar
  rw [htx,if_pos h2]
  omega
 rw [if_neg h2,if_neg h3] at htx
 have := prtJ_tot hr hg h1 h2 h3
 have hw := wrdX_len e.op
 rw [htx]
 simp only [List.length_append,List.length_cons,List.length_nil]
 omega
theorem cnt_tot2 {s : Sch} {cd : Cnd} (h : cndE s cd = 0) : (txtX s (.mk 3 0 [] 0 [] [] cd zC [])).length ≤ 10 + 100 * totS cd := by
 have := txtS_tot h
 show (wrdX 3 ++ [40] ++ jnS bSep ([] ++ [txtS s cd]) ++ [41]).length ≤ _
 have hw : (wrdX 3).length = 5 := rfl
 simp only [List.nil_append,List.length_append,List.length_cons,List.length_nil,jnS]
 omega
theorem numL_len {s : Sch} (hd : Drawn s) (l : List UInt8) (names : List (List UInt8)) (a : Nat) (hg : rigS s (numL l s names a).1 = true) : (txtX s (numL l s names a).1).length ≤ 720 := by
 have hr := hd.ok
 have c0 := fun a => (condS_ok hd l 0 a).2.1
 have c1 := fun a => (condS_ok hd l 1 a).2.1
 have c2 := fun a => cond_right hd l 2 a (by omega)
 have c3 := fun a => (condS_ok hd l 2 a).2.1
 unfold numL at hg ⊢
 split
 ·rename_i h
  rw [if_pos h] at hg
  have := leaf_tot hr (rig_parts hg) (by show ¬ (6 ≤ (1 : Int) ∧ (1 : Int) ≤ 9); omega)
  exact Nat.le_trans this (by show 250 + 100 * 1 + 100 * 1 ≤ 720; omega)
 rename_i h
 rw [if_neg h] at hg
 split
 ·rename_i h
  rw [if_pos h] at hg
  have := leaf_tot hr (rig_parts hg) (by show ¬ (6 ≤ (2 : Int) ∧ (2 : Int) ≤ 9); omega)
  exact Nat.le_trans this (by show 250 + 100 * 1 + 100 * 1 ≤ 720; omega)
 rename_i h
 rw [if_neg h] at hg
 split
 ·rename_i h
  rw [if_pos h] at hg
  have := leaf_tot hr (rig_parts hg) (by show ¬ (6 ≤ (4 : Int) ∧ (4 : Int) ≤ 9); omega)
  refine Nat.le_trans this ?_
  show 250 + 100 * totS (condS l s 1 _).1 + 100 * 1 ≤ 720
  have := c1 (colD l (nxt l a 6).2 s 3).2
  omega
 rename_i h
 rw [if_neg h] at hg
 split
 ·rename_i h
  rw [if_pos h] at hg
  have := leaf_tot hr (rig_parts hg) (by show ¬ (6 ≤ (5 : Int) ∧ (5 : Int) ≤ 9); omega)
  refine Nat.le_trans this ?_
  show 250 + 100 * totS (condS l s 0 _).1 + 100 * 1 ≤ 720
  have := c0 (colD l (nxt l a 6).2 s 3).2
  omega
 ·have h1 := cnt_tot2 (c2 (nxt l a 6).2).1
  have h2 := c3 (nxt l a 6).2
  refine Nat.le_trans h1 ?_
  omega
theorem pair_len {s : Sch} (o : Int) (h : 6 ≤ o ∧ o ≤ 9) (x y : Xpr) : (txtX s (.mk o 0 [] 0 [] [] zC zC [x,y])).length = (txtX s x).length + (txtX s y).length + 5 := by
 have htx := txtX_eq s (.mk o 0 [] 0 [] [] zC zC [x,y])
 have e : (Xpr.mk o 0 [] 0 [] [] zC zC [x,y]).op = o := rfl
 rw [e,if_neg (by omega),if_neg (by omega),if_pos h] at htx
 rw [htx]
 show ([40] ++ txtX s x ++ sgnX o ++ txtX s y ++ [41]).length = _
 have := sgnX_len o
 simp only [List.length_append,List.length_cons,List.length_nil]
 omega
theorem numD_len {s : Sch} (hd : Drawn s) (l : List UInt8) (names : List (List UInt8)) : ∀ d a : Nat,rigS s (numD l s names d a).1 = true → (txtX s (numD l s names d a).1).length + 5 ≤ 725 * 2 ^ d
 | 0,a,hg => by
  have := numL_len hd l names a hg
  show (txtX s (numL l s names a).1).length + 5 ≤ 725 * 1
  omega
 | d + 1,a,hg => by
  unfold numD at hg ⊢
  split
  ·rename_i h
   rw [if_pos h] at hg
   have hp := rig_parts hg
   have ho : 6 ≤ (6 + ((nxt l (nxt l a 2).2 4).1 : Int)) ∧ (6 + ((nxt l (nxt l a 2).2 4).1 : Int)) ≤ 9 := by
    have := nxt_lt l (nxt l a 2).2 (n := 4) (by omega)
    omega
   have k1 := (hp.kid _ (List.mem_cons_self ..)).2
   have k2 := (hp.kid _ (List.mem_cons_of_mem _ (List.mem_cons_self ..))).2
   have i1 := numD_len hd l names d _ k1
   have i2 := numD_len hd l names d _ k2
   rw [pair_len _ ho,Nat.pow_succ]
   omega
  ·rename_i h
   rw [if_neg h] at hg
   have := numL_len hd l names _ hg
   have h2 : 1 ≤ 2 ^ (d + 1) := Nat.one_le_two_pow
   omega
theorem exprD_len {s : Sch} (hd : Drawn s) (l : List UInt8) (names : List (List UInt8)) (a : Nat) (hg : rigS s (exprD l s names a).1 = true) : (txtX s (exprD l s names a).1).length ≤ 2895 := by
 have hr := hd.ok
 have c0 := fun a => (condS_ok hd l 0 a).2.1
 have c1 := fun a => (condS_ok hd l 1 a).2.1
 have n2 := fun a h => numD_len hd l names 2 a h
 unfold exprD at hg ⊢
 dsimp only at hg ⊢
 split
 ·rename_i h
  rw [if_pos h] at hg
  have := leaf_tot hr (rig_parts hg) (by show ¬ (6 ≤ (10 : Int) ∧ (10 : Int) ≤ 9); omega)
  refine Nat.le_trans this ?_
  show 250 + 100 * totS (condS l s 1 _).1 + 100 * 1 ≤ 2895
  have := c1 (dimsD l (nxt l (colD l a s 3).2 8).2 s).2
  omega
 rename_i h
 rw [if_neg h] at hg
 split
 ·rename_i h
  rw [if_pos h] at hg
  split
  ·rename_i h
   rw [if_pos h] at hg
   have := leaf_tot hr (rig_parts hg) (by show ¬ (6 ≤ (11 : Int) ∧ (11 : Int) ≤ 9); omega)
   refine Nat.le_trans this ?_
   show 250 + 100 * totS (condS l s 1 _).1 + 100 * 1 ≤ 2895
   have := c1 (termsD l (nxt l (colD l a s 3).2 8).2 s (colD l a s 3).1).2
   omega
  ·rename_i h
   rw [if_neg h] at hg
   have := n2 _ hg
   omega
 rename_i h
 rw [if_neg h] at hg
 split
 ·rename_i h
  rw [if_pos h] at hg
  have := leaf_tot hr (rig_parts hg) (by show ¬ (6 ≤ (12 : Int) ∧ (12 : Int) ≤ 9); omega)
  refine Nat.le_trans this ?_
  show 250 + 100 * totS (condS l s 0 _).1 + 100 * totS (condS l s 0 _).1 ≤ 2895
  have h1 := c0 (nxt l (colD l a s 3).2 8).2
  have h2 := c0 (condS l s 0 (nxt l (colD l a s 3).2 8).2).2
  omega
 rename_i h
 rw [if_neg h] at hg
 split
 ·rename_i h
  rw [if_pos h] at hg
  have := leaf_tot hr (rig_parts hg) (by show ¬ (6 ≤ (13 : Int) ∧ (13 : Int) ≤ 9); omega)
  refine Nat.le_trans this ?_
  show 250 + 100 * totS (condS l s 1 _).1 + 100 * 1 ≤ 2895
  have := c1 (nxt l (nxt l (colD l a s 3).2 8).2 (colAt s (colD l a s 3).1).widths.length).2
  omega
 rename_i h
 rw [if_neg h] at hg
 split
 ·rename_i h
  rw [if_pos h] at hg
  have := leaf_tot hr (rig_parts hg) (by show ¬ (6 ≤ (14 : Int) ∧ (14 : Int) ≤ 9); omega)
  refine Nat.le_trans this ?_
  show 250 + 100 * totS (condS l s 0 _).1 + 100 * 1 ≤ 2895
  have := c0 (nxt l (colD l a s 3).2 8).2
  omega
 ·rename_i h
  rw [if_neg h] at hg
  have := n2 _ hg
  omega
theorem proF_from (l : List UInt8) (s : Sch) : ∀ (n : Nat) (x : PrD),∀ t ∈ (proF l s x n).l,t ∈ x.l ∨ ∃ names a,t.x = (exprD l s names a).1
 | 0,x,t,h => .inl h
 | n + 1,x,t,h => by
  unfold proF at h
  dsimp only at h
  rcases proF_from l s n _ t h with h | h
  ·rcases List.mem_append.1 h with h | h
   ·exact .inl h
   ·rw [List.mem_singleton] at h
    subst h
    exact .inr ⟨_,_,rfl⟩
  ·exact .inr h
theorem proD_txt {s : Sch} (hd : Drawn s) (l : List UInt8) (a : Nat) (most : Int) (h : 0 ≤ most ∧ most ≤ 5) : (txtP s (proD l a s most).l).length ≤ 15000 := by
 obtain ⟨hok,hlen⟩ := proD_ok hd l a most (by omega)
 have hone : ∀ t ∈ (proD l a s most).l,(txtT s t ++ [10]).length ≤ 2930 := by
  intro t ht
  obtain ⟨i,hi,hie⟩ := List.getElem_of_mem ht
  have hit : (proD l a s most).l[i]? = some t := by rw [List.getElem?_eq_getElem hi,hie]
  obtain ⟨h1,ns,h2,_⟩ := hok.st i t hit
  have hn := nameB_len (proN_name i (by omega))
  rcases proF_from l s _ _ t ht with h3 | ⟨names,b,h3⟩
  ·cases h3
  ·have h4 := h2.rig
   rw [h3] at h4
   have h5 := exprD_len hd l names b h4
   unfold txtT
   rw [h3,h1]
   simp only [List.length_append,List.length_cons,List.length_nil]
   split <;> simp only [List.length_cons,List.length_nil] <;> omega
 have key : ∀ L : List Stm,(∀ t ∈ L,(txtT s t ++ [10]).length ≤ 2930) → (txtP s L).length ≤ 2930 * L.length := by
  intro L
  induction L with
  | nil => intro _; exact Nat.le_refl _
  | cons x r ih =>
   intro hL
   have i1 := ih fun t ht => hL t (List.mem_cons_of_mem _ ht)
   have i2 := hL x (List.mem_cons_self ..)
   have e : txtP s (x :: r) = (txtT s x ++ [10]) ++ txtP s r := by unfold txtP; rw [List.flatMap_cons]
   rw [e,List.length_append,List.length_cons]
   omega
 have := key _ hone
 omega
end Go.Proofs.YtjmbhlgocikfiaaGreatDoor
namespace Go.Proofs.YtjmbhlgocikfiaaGreatDoor
open Go Go.Av
attribute [local irreducible] AWp AOps AAny MAny DQ retQ retG St.le FCall GCall
set_option maxRecDepth 100000
set_option maxHeartbeats 4000000 in
theorem same_self (c : Cnd) : FCall Tryz.prog 83 [cndA c,cndA c] (.b true) := by
 refine cnd_ind (p := fun c => FCall Tryz.prog 83 [cndA c,cndA c] (.b true)) (fun c ih => ?_) c
 rw [cndA_eq]
 refine fci Tryz.func83 67 fun hrd E h0 => ?_
 have hlen : c.kids.length ≤ 9223372036854775807 := by
  have := ((hrd _ (List.mem_cons_self ..)).agg (.sl 6 (c.kids.map cndX)) (by simp)).sl
  simpa using this
 clear hrd
 repeat' ((first | (refine draw_q ?_ ?_; kernel_rfl) |refine aops_go ?_|refine S1 ?_|refine Z1 ?_|refine Z2 ?_|(refine And.intro ?_ ?_<;>intro h<;>try first|(exfalso;omega)|exact absurd rfl h)|refine Z3 ?_|refine Z4 ?_|intro el hel hbB|intro el hel|intro ex|refine Z5 ?_|(refine free_i ?_ ?_;exact ⟨by kernel_rfl,by decide⟩)|refine allI_c ?_ ?_|exact allI_n|refine allMP_c ?_ ?_|exact allMP_n|(refine many_step ?_ ?_ ?_;kernel_rfl;kernel_rfl)) <;> (try (conv => whnf)))
 all_goals first
  | (exfalso; omega)
  | skip
 refine loop_i (ι := Nat) (fun k => ⟨[(2, .ref 0 0),(3, .ref 1 0),(5, .i k)],2,[(0,some (.box (cndY c))),(1,some (.box (cndY c)))]⟩) (fun k => k ≤ c.kids.length) (fun k => c.kids.length - k) 0 (Nat.zero_le _)
  (le_of h0 rfl ⟨rfl,rfl,rfl,trivial⟩ ⟨rfl,rfl,trivial⟩ rfl rfl rfl) (fun k hk => ?_)
 repeat' ((first | (refine call_i (ih _ (List.mem_of_getElem? (by assumption))) ?_) | (refine draw_q ?_ ?_; kernel_rfl) |refine aops_go ?_|refine S1 ?_|refine Z1 ?_|refine Z2 ?_|(refine And.intro ?_ ?_<;>intro h<;>try first|(exfalso;omega)|exact absurd rfl h)|refine Z3 ?_|refine Z4 ?_|intro el hel hbB|intro el hel|intro ex|refine Z5 ?_|(refine free_i ?_ ?_;exact ⟨by kernel_rfl,by decide⟩)|refine allI_c ?_ ?_|exact allI_n|refine allMP_c ?_ ?_|exact allMP_n|(refine many_step ?_ ?_ ?_;kernel_rfl;kernel_rfl)) <;> (try (conv => whnf)))
 all_goals first
  | exact ret_tmp rfl rfl
  | exact ⟨k + 1,by omega,by omega,le_of h0 rfl ⟨rfl,rfl,rfl,trivial⟩ ⟨rfl,rfl,trivial⟩ rfl rfl rfl⟩
  | (exfalso; omega)
end Go.Proofs.YtjmbhlgocikfiaaGreatDoor
namespace Go.Proofs.YtjmbhlgocikfiaaGreatDoor
open Go Go.Av
attribute [local irreducible] AWp AOps AAny MAny DQ retQ retG St.le FCall GCall
set_option maxRecDepth 100000
theorem pk_ext {p q : Pk} (h : p.col = q.col ∧ p.lev = q.lev) : p = q := by
 cases p; cases q
 dsimp only at h
 rw [Pk.mk.injEq]; exact h
set_option maxHeartbeats 4000000 in
theorem samePicks_call (a b : List Pk) : FCall Tryz.prog 82 [.sl 2 (a.map pkL), .sl 2 (b.map pkL)] (.b (decide (a = b))) := by
 refine fci Tryz.func82 26 fun hrd E h0 => ?_
 have hlen : a.length ≤ 9223372036854775807 := by have := (hrd (.sl 2 (a.map pkL)) (by simp)).sl; simpa using this
 have hlen2 : b.length ≤ 9223372036854775807 := by have := (hrd (.sl 2 (b.map pkL)) (by simp)).sl; simpa using this
 clear hrd
 repeat' ((first|refine aops_go ?_|refine S1 ?_|refine Z1 ?_|refine Z2 ?_|(refine And.intro ?_ ?_<;>intro h<;>try first|(exfalso;omega)|exact absurd rfl h)|refine Z3 ?_|refine Z4 ?_|intro el hel hbB|intro el hel|intro ex|refine Z5 ?_|(refine free_i ?_ ?_;exact ⟨by kernel_rfl,by decide⟩)|refine allI_c ?_ ?_|exact allI_n|refine allMP_c ?_ ?_|exact allMP_n|(refine many_step ?_ ?_ ?_;kernel_rfl;kernel_rfl)) <;> (try (conv => whnf)))
 all_goals first
  | exact ret_tmp rfl (congrArg AV.b (decide_eq_false (fun e => by subst e; contradiction)).symm)
  | skip
 refine loop_i (ι := Nat) (fun k => ⟨[(0, .sl 2 (a.map pkL)),(1, .sl 2 (b.map pkL)),(5, .i k)],0,[]⟩) (fun k => k ≤ a.length ∧ a.take k = b.take k) (fun k => a.length - k) 0 ⟨Nat.zero_le _,rfl⟩
  (le_of h0 rfl ⟨rfl,rfl,rfl,trivial⟩ trivial rfl rfl rfl) (fun k hI => ?_)
 obtain ⟨hk,hI⟩ := hI
 by_cases hlt : k < a.length
 ·obtain ⟨p,hp⟩ : ∃ p,a[k]? = some p := ⟨_,List.getElem?_eq_getElem hlt⟩
  obtain ⟨q,hq⟩ : ∃ q,b[k]? = some q := ⟨_,List.getElem?_eq_getElem (by omega)⟩
  repeat' ((first | (refine each_knownm (x := p) hp (by omega) ?_) | (refine each_knownm (x := q) hq (by omega) ?_) | (refine draw_q ?_ ?_; kernel_rfl) |refine aops_go ?_|refine S1 ?_|refine Z1 ?_|refine Z2 ?_|(refine And.intro ?_ ?_<;>intro h<;>try first|(exfalso;omega)|exact absurd rfl h)|refine Z3 ?_|refine Z4 ?_|intro el hel hbB|intro el hel|intro ex|refine Z5 ?_|(refine free_i ?_ ?_;exact ⟨by kernel_rfl,by decide⟩)|refine allI_c ?_ ?_|exact allI_n|refine allMP_c ?_ ?_|exact allMP_n|(refine many_step ?_ ?_ ?_;kernel_rfl;kernel_rfl)) <;> (try (conv => whnf)))
  all_goals first
   | (exfalso; omega)
   | exact ⟨k + 1,⟨by omega,by rw [takec hp,takec hq,hI,pk_ext h]⟩,by omega,le_of h0 rfl ⟨rfl,rfl,rfl,trivial⟩ trivial rfl rfl rfl⟩
   | exact ret_tmp rfl (congrArg AV.b (decide_eq_false (fun e => by subst e; rw [hp] at hq; cases hq; exact h ⟨rfl,rfl⟩)).symm)
 ·repeat' ((first|refine aops_go ?_|refine S1 ?_|refine Z1 ?_|refine Z2 ?_|(refine And.intro ?_ ?_<;>intro h<;>try first|(exfalso;omega)|exact absurd rfl h)|refine Z3 ?_|refine Z4 ?_|intro el hel hbB|intro el hel|intro ex|refine Z5 ?_|(refine free_i ?_ ?_;exact ⟨by kernel_rfl,by decide⟩)|refine allI_c ?_ ?_|exact allI_n|refine allMP_c ?_ ?_|exact allMP_n|(refine many_step ?_ ?_ ?_;kernel_rfl;kernel_rfl)) <;> (try (conv => whnf)))
  all_goals first
   | (exfalso; omega)
   | exact ret_tmp rfl (congrArg AV.b (decide_eq_true (by rw [List.take_of_length_le (by omega),List.take_of_length_le (by omega)] at hI; exact hI)).symm)
end Go.Proofs.YtjmbhlgocikfiaaGreatDoor
namespace Go.Proofs.YtjmbhlgocikfiaaGreatDoor
open Go Go.Av
attribute [local irreducible] AWp AOps AAny MAny DQ retQ retG St.le FCall GCall
set_option maxRecDepth 100000
theorem intsW_call (xs ys : List Int) : FCall Tryz.prog 81 [.sl 1 (xs.map wA), .sl 1 (ys.map wA)] (.b (decide (xs = ys))) := by
 refine fci Tryz.func81 26 fun hrd E h0 => ?_
 have hlen : xs.length ≤ 9223372036854775807 := by
  have := (hrd (.sl 1 (xs.map wA)) (by simp)).sl
  simpa using this
 have hlen2 : ys.length ≤ 9223372036854775807 := by
  have := (hrd (.sl 1 (ys.map wA)) (by simp)).sl
  simpa using this
 clear hrd
 repeat' ((first|refine aops_go ?_|refine S1 ?_|refine Z1 ?_|refine Z2 ?_|(refine And.intro ?_ ?_<;>intro h<;>try first|(exfalso;omega)|exact absurd rfl h)|refine Z3 ?_|refine Z4 ?_|intro el hel hbB|intro el hel|intro ex|refine Z5 ?_|(refine free_i ?_ ?_;exact ⟨by kernel_rfl,by decide⟩)|refine allI_c ?_ ?_|exact allI_n|refine allMP_c ?_ ?_|exact allMP_n|(refine many_step ?_ ?_ ?_;kernel_rfl;kernel_rfl)) <;> (try (conv => whnf)))
 ·exact ret_tmp rfl (congrArg AV.b (by
   have : xs ≠ ys := by intro e; subst e; omega
   simp [this]))
 have hl : xs.length = ys.length := by omega
 refine loop_i (ι := Nat) (fun k => ⟨[(0, .sl 1 (xs.map wA)),(1, .sl 1 (ys.map wA)),(5, .i k)],0,[]⟩) (fun k => k ≤ xs.length ∧ ys.take k = xs.take k) (fun k => xs.length - k) 0 ⟨Nat.zero_le _,rfl⟩ (le_of h0 rfl ⟨rfl,rfl,rfl,trivial⟩ trivial rfl rfl rfl) (fun k hI => ?_)
 obtain ⟨hk,hI⟩ := hI
 by_cases hlt : k < xs.length
 ·obtain ⟨x,hx⟩ : ∃ x,xs[k]? = some x := ⟨_,List.getElem?_eq_getElem hlt⟩
  obtain ⟨y,hy⟩ : ∃ y,ys[k]? = some y := ⟨_,List.getElem?_eq_getElem (by omega)⟩
  repeat' ((first | (refine each_knownm (x := x) hx (by omega) ?_) | (refine each_knownm (x := y) hy (by omega) ?_) | (refine draw_q ?_ ?_; kernel_rfl) |refine aops_go ?_|refine S1 ?_|refine Z1 ?_|refine Z2 ?_|(refine And.intro ?_ ?_<;>intro h<;>try first|(exfalso;omega)|exact absurd rfl h)|refine Z3 ?_|refine Z4 ?_|intro el hel hbB|intro el hel|intro ex|refine Z5 ?_|(refine free_i ?_ ?_;exact ⟨by kernel_rfl,by decide⟩)|refine allI_c ?_ ?_|exact allI_n|refine allMP_c ?_ ?_|exact allMP_n|(refine many_step ?_ ?_ ?_;kernel_rfl;kernel_rfl)) <;> (try (conv => whnf)))
  all_goals first
   | (exfalso; omega)
   | (refine ret_tmp rfl (congrArg AV.b (decide_eq_false (fun e => ?_)).symm)
      subst e
      rw [hx] at hy
      cases hy
      omega)
   | exact ⟨k + 1,⟨by omega,by rw [takec hx,takec hy,hI]; congr 2; omega⟩,by omega,le_of h0 rfl ⟨rfl,rfl,rfl,trivial⟩ trivial rfl rfl rfl⟩
 ·repeat' ((first|refine aops_go ?_|refine S1 ?_|refine Z1 ?_|refine Z2 ?_|(refine And.intro ?_ ?_<;>intro h<;>try first|(exfalso;omega)|exact absurd rfl h)|refine Z3 ?_|refine Z4 ?_|intro el hel hbB|intro el hel|intro ex|refine Z5 ?_|(refine free_i ?_ ?_;exact ⟨by kernel_rfl,by decide⟩)|refine allI_c ?_ ?_|exact allI_n|refine allMP_c ?_ ?_|exact allMP_n|(refine many_step ?_ ?_ ?_;kernel_rfl;kernel_rfl)) <;> (try (conv => whnf)))
  all_goals first
   | (exfalso; omega)
   | (refine ret_tmp rfl (congrArg AV.b (decide_eq_true ?_).symm)
      rw [List.take_of_length_le (by omega),List.take_of_length_le (by omega)] at hI
      exact hI.symm)
end Go.Proofs.YtjmbhlgocikfiaaGreatDoor

/- Chapter 5: the reference's counts of a condition. -/
import Derived.Test.YtjmbhlgocikfiaaGreatDoorTC1
set_option linter.unusedVariables false
set_option linter.unnecessarySimpa false
set_option linter.unusedSimpArgs false
namespace Go.Proofs.YtjmbhlgocikfiaaGreatDoor
open Go Go.Av
attribute [local irreducible] AWp AOps AAny MAny DQ retQ retG St.le FCall GCall
set_option maxRecDepth 100000
mutual
def rcntS:Cnd → Int → Int
 | .mk _ _ _ _ _ ks,most=>rcntL ks most 1
def rcntL:List Cnd → Int → Int → Int
 | [],_,n=>n
 | x :: r,most,n=>if n < most then rcntL r most (n + rcntS x (most - n)) else n
end
theorem rcntS_eq (c:Cnd) (m:Int):rcntS c m = rcntL c.kids m 1:=by cases c;rfl
theorem rcntS_bd (c:Cnd):∀ m:Int,1 ≤ rcntS c m ∧ rcntS c m ≤ max 1 m:=by
 refine cnd_ind (p:=fun c=>∀ m:Int,1 ≤ rcntS c m ∧ rcntS c m ≤ max 1 m) (fun c ih m=>?_) c
 have key:∀ (l:List Cnd),(∀ k ∈ l,k ∈ c.kids) → ∀ n:Int,1 ≤ n → n ≤ max 1 m → 1 ≤ rcntL l m n ∧ rcntL l m n ≤ max 1 m:=by
  intro l
  induction l with
  | nil=>intro _ n h1 h2;exact ⟨h1,h2⟩
  | cons x r ihl =>
   intro hl n h1 h2
   unfold rcntL
   split
   ·have:=ih x (hl x (by simp)) (m - n)
    exact ihl (fun k hk=>hl k (by simp [hk])) _ (by omega) (by omega)
   ·exact ⟨h1,h2⟩
 rw [rcntS_eq]
 exact key c.kids (fun k hk=>hk) 1 (by omega) (by omega)
theorem rcnt_tot (c:Cnd):∀ m:Int,1 ≤ m → rcntS c m = min (totS c:Int) m:=by
 refine cnd_ind (p:=fun c=>∀ m:Int,1 ≤ m → rcntS c m = min (totS c:Int) m) (fun c ih m hm=>?_) c
 have key:∀ (l:List Cnd),(∀ k ∈ l,k ∈ c.kids) → ∀ n:Int,n ≤ m → rcntL l m n = min (n + totL l) m:=by
  intro l
  induction l with
  | nil=>intro _ n h;unfold rcntL totL;omega
  | cons x r ihl =>
   intro hl n hn
   unfold rcntL totL
   by_cases h:n < m
   ·have h1:=ih x (hl x (by simp)) (m - n) (by omega)
    rw [if_pos h,h1,ihl (fun k hk=>hl k (by simp [hk])) _ (by omega)]
    omega
   ·rw [if_neg h]
    omega
 rw [rcntS_eq,totS_eq,key c.kids (fun k hk=>hk) 1 hm]
 omega
set_option maxHeartbeats 4000000 in
theorem rccount_call (c:Cnd):∀ (m:Int), -100000 ≤ m → m ≤ 100000 → FCall Tryz.prog 144 [cndA c, .i m] (.i (rcntS c m)):=by
 refine cnd_ind (p:=fun c=>∀ (m:Int), -100000 ≤ m → m ≤ 100000 → FCall Tryz.prog 144 [cndA c, .i m] (.i (rcntS c m))) (fun c ih m hm1 hm2=>?_) c
 rw [cndA_eq,rcntS_eq]
 refine fci Tryz.func144 31 fun hrd E h0=>?_
 have hlen:c.kids.length ≤ 9223372036854775807:=by
  have:=((hrd _ (List.mem_cons_self ..)).agg (.sl 6 (c.kids.map cndX)) (by simp)).sl
  simpa using this
 clear hrd
 repeat' ((first|refine aops_go ?_|refine S1 ?_|refine Z1 ?_|refine Z2 ?_|(refine And.intro ?_ ?_<;>intro h<;>try first|(exfalso;omega)|exact absurd rfl h)|refine Z3 ?_|refine Z4 ?_|intro el hel hbB|intro el hel|intro ex|refine Z5 ?_|(refine free_i ?_ ?_;exact ⟨by kernel_rfl,by decide⟩)|refine allI_c ?_ ?_|exact allI_n|refine allMP_c ?_ ?_|exact allMP_n|(refine many_step ?_ ?_ ?_;kernel_rfl;kernel_rfl)) <;> (try (conv=>whnf)))
 refine loop_i (ι:=Nat × Int) (fun x=>⟨[(1, .i m),(2, .ref 0 0),(5, .i x.2),(6, .i x.1)],1,[(0,some (.box (cndY c)))]⟩) (fun x=>x.1 ≤ c.kids.length ∧ (1 ≤ x.2 ∧ x.2 ≤ max 1 m) ∧ rcntL c.kids m 1 = rcntL (c.kids.drop x.1) m x.2) (fun x=>c.kids.length - x.1) (0,1) ⟨Nat.zero_le _,by dsimp only;omega,rfl⟩
  (le_of h0 rfl ⟨rfl,rfl,rfl,rfl,trivial⟩ ⟨rfl,trivial⟩ rfl rfl rfl) (fun x hI=>?_)
 obtain ⟨k,n⟩:=x
 obtain ⟨hk,hn,hI⟩:=hI
 dsimp only at hk hn hI ⊢
 have hrb:=fun el=>rcntS_bd el (m - n)
 repeat' ((first | (refine call_i (ih _ (List.mem_of_getElem? (by assumption)) _ (by omega) (by omega)) ?_) | (refine side_i ?_ ?_;(have:=hrb el;omega)) |refine aops_go ?_|refine S1 ?_|refine Z1 ?_|refine Z2 ?_|(refine And.intro ?_ ?_<;>intro h<;>try first|(exfalso;omega)|exact absurd rfl h)|refine Z3 ?_|refine Z4 ?_|intro el hel hbB|intro el hel|intro ex|refine Z5 ?_|(refine free_i ?_ ?_;exact ⟨by kernel_rfl,by decide⟩)|refine allI_c ?_ ?_|exact allI_n|refine allMP_c ?_ ?_|exact allMP_n|(refine many_step ?_ ?_ ?_;kernel_rfl;kernel_rfl)) <;> (try (conv=>whnf)))
 all_goals first
  | exact ret_tmp rfl (congrArg AV.i (by rw [hI,drop_end (by assumption)];rfl))
  | (obtain ⟨x,hx⟩:∃ x,c.kids[k]? = some x:=⟨_,List.getElem?_eq_getElem (by omega)⟩
     exact ret_tmp rfl (congrArg AV.i (by rw [hI,dropc hx,rcntL,if_neg (by assumption)])))
  | exact ⟨(k + 1,n + rcntS el (m - n)),⟨by dsimp only;omega,(by have:=hrb el;dsimp only;omega),by rw [hI,dropc hel,rcntL,if_pos (by assumption)]⟩,by dsimp only;omega,le_of h0 rfl ⟨rfl,rfl,rfl,rfl,trivial⟩ ⟨rfl,trivial⟩ rfl rfl rfl⟩
set_option maxHeartbeats 4000000 in
theorem rdepth_call (c:Cnd):depS c ≤ 100000 → FCall Tryz.prog 145 [cndA c] (.i (depS c)):=by
 refine cnd_ind (p:=fun c=>depS c ≤ 100000 → FCall Tryz.prog 145 [cndA c] (.i (depS c))) (fun c ih hd=>?_) c
 have hge:=depL_ge c.kids 0
 rw [depS_eq] at hd
 rw [cndA_eq,depS_eq]
 refine fci Tryz.func145 22 fun hrd E h0=>?_
 have hlen:c.kids.length ≤ 9223372036854775807:=by
  have:=((hrd _ (List.mem_cons_self ..)).agg (.sl 6 (c.kids.map cndX)) (by simp)).sl
  simpa using this
 clear hrd
 repeat' ((first|refine aops_go ?_|refine S1 ?_|refine Z1 ?_|refine Z2 ?_|(refine And.intro ?_ ?_<;>intro h<;>try first|(exfalso;omega)|exact absurd rfl h)|refine Z3 ?_|refine Z4 ?_|intro el hel hbB|intro el hel|intro ex|refine Z5 ?_|(refine free_i ?_ ?_;exact ⟨by kernel_rfl,by decide⟩)|refine allI_c ?_ ?_|exact allI_n|refine allMP_c ?_ ?_|exact allMP_n|(refine many_step ?_ ?_ ?_;kernel_rfl;kernel_rfl)) <;> (try (conv=>whnf)))
 refine loop_i (ι:=Nat × Nat) (fun x=>⟨[(1, .ref 0 0),(3, .i x.2),(4, .i x.1)],1,[(0,some (.box (cndY c)))]⟩) (fun x=>x.1 ≤ c.kids.length ∧ x.2 ≤ depL c.kids 0 ∧ depL c.kids 0 = depL (c.kids.drop x.1) x.2) (fun x=>c.kids.length - x.1) (0,0) ⟨Nat.zero_le _,Nat.zero_le _,rfl⟩
  (le_of h0 rfl ⟨rfl,rfl,rfl,trivial⟩ ⟨rfl,trivial⟩ rfl rfl rfl) (fun x hI=>?_)
 obtain ⟨k,n⟩:=x
 obtain ⟨hk,hn,hI⟩:=hI
 dsimp only at hk hn hI ⊢
 have hkd:∀ el,c.kids[k]? = some el → depS el ≤ depL c.kids 0:=fun el hel=>hge.2 el (List.mem_of_getElem? hel)
 repeat' ((first | (refine call_i (ih _ (List.mem_of_getElem? (by assumption)) (by have:=hkd el hel;omega)) ?_) |refine aops_go ?_|refine S1 ?_|refine Z1 ?_|refine Z2 ?_|(refine And.intro ?_ ?_<;>intro h<;>try first|(exfalso;omega)|exact absurd rfl h)|refine Z3 ?_|refine Z4 ?_|intro el hel hbB|intro el hel|intro ex|refine Z5 ?_|(refine free_i ?_ ?_;exact ⟨by kernel_rfl,by decide⟩)|refine allI_c ?_ ?_|exact allI_n|refine allMP_c ?_ ?_|exact allMP_n|(refine many_step ?_ ?_ ?_;kernel_rfl;kernel_rfl)) <;> (try (conv=>whnf)))
 all_goals first
  | exact ret_tmp rfl (congrArg AV.i (by rw [hI,drop_end (by assumption)];unfold depL;omega))
  | exact ⟨(k + 1,max n (depS el)),⟨by dsimp only;omega,(by have:=hkd el hel;dsimp only;omega),by rw [hI,dropc hel,depL]⟩,by dsimp only;omega,le_of h0 rfl ⟨rfl,congrArg (fun z:Int=>some (AV.i z)) (by dsimp only;omega),rfl,trivial⟩ ⟨rfl,trivial⟩ rfl rfl rfl⟩
abbrev isB (s:Sch) (col kind:Int):Bool:=decide (0 ≤ col ∧ col < s.cols.length ∧ (colAt s col).kind = kind)
set_option maxHeartbeats 4000000 in
theorem is_call (s:Sch) (col kind:Int):FCall Tryz.prog 177 [sA s, .i col, .i kind] (.b (isB s col kind)):=by
 refine fci Tryz.func177 26 fun hrd E h0=>?_
 clear hrd
 repeat' ((first|refine aops_go ?_|refine S1 ?_|refine Z1 ?_|refine Z2 ?_|(refine And.intro ?_ ?_<;>intro h<;>try first|(exfalso;omega)|exact absurd rfl h)|refine Z3 ?_|refine Z4 ?_|intro el hel hbB|intro el hel|intro ex|refine Z5 ?_|(refine free_i ?_ ?_;exact ⟨by kernel_rfl,by decide⟩)|refine allI_c ?_ ?_|exact allI_n|refine allMP_c ?_ ?_|exact allMP_n|(refine many_step ?_ ?_ ?_;kernel_rfl;kernel_rfl)) <;> (try (conv=>whnf)))
 all_goals first
  | exact ret_tmp rfl (congrArg AV.b (by unfold isB;rw [decide_eq_false (by omega)]))
  | exact ret_tmp rfl (congrArg AV.b (by unfold isB;rw [colAt_get hel,decide_eq_decide];omega))
end Go.Proofs.YtjmbhlgocikfiaaGreatDoor

/- Chapter 5: conditions, and which are right. -/
import Derived.Test.YtjmbhlgocikfiaaGreatDoorTB8
set_option linter.unusedVariables false
set_option linter.unnecessarySimpa false
set_option linter.unusedSimpArgs false
namespace Go.Proofs.YtjmbhlgocikfiaaGreatDoor
open Go Go.Av
attribute [local irreducible] AWp AOps AAny MAny DQ retQ retG St.le FCall GCall
set_option maxRecDepth 100000
inductive Cnd where
 | mk (op col code lo hi:Int) (kids:List Cnd)
def Cnd.op:Cnd → Int | .mk o _ _ _ _ _=>o
def Cnd.col:Cnd → Int | .mk _ c _ _ _ _=>c
def Cnd.code:Cnd → Int | .mk _ _ k _ _ _=>k
def Cnd.lo:Cnd → Int | .mk _ _ _ l _ _=>l
def Cnd.hi:Cnd → Int | .mk _ _ _ _ h _=>h
def Cnd.kids:Cnd → List Cnd | .mk _ _ _ _ _ ks=>ks
mutual
def cndL:Cnd → List AV
 | .mk o c k l h ks=>[.i o, .i c, .i k, .i l, .i h, .sl 6 (cndLs ks)]
def cndLs:List Cnd → List (List AV)
 | []=>[]
 | x :: r=>cndL x :: cndLs r
end
theorem cndLs_eq:∀ ks,cndLs ks = ks.map cndL
 | []=>rfl
 | x :: r=>by rw [cndLs,cndLs_eq r];rfl
def cndX (c:Cnd):List AV:=[.i c.op, .i c.col, .i c.code, .i c.lo, .i c.hi, .sl 6 (c.kids.map cndL)]
theorem cndX_eq (c:Cnd):cndL c = cndX c:=by
 cases c
 rw [cndL,cndLs_eq];rfl
theorem map_cnd (ks:List Cnd):ks.map cndL = ks.map cndX:=List.map_congr_left fun c _=>cndX_eq c
abbrev cndA (c:Cnd):AV:=.agg (cndX c)
abbrev cndY (c:Cnd):List AV:=[.i c.op, .i c.col, .i c.code, .i c.lo, .i c.hi, .sl 6 (c.kids.map cndX)]
theorem cndA_eq (c:Cnd):cndA c = .agg (cndY c):=by
 show AV.agg [.i c.op, .i c.col, .i c.code, .i c.lo, .i c.hi, .sl 6 (c.kids.map cndL)] = _
 rw [map_cnd]
theorem sizeOf_kid {c k:Cnd} (h:k ∈ c.kids):SizeOf.sizeOf k < SizeOf.sizeOf c:=by
 cases c with
 | mk o c k l h' ks =>
  have:=List.sizeOf_lt_of_mem (show _ ∈ ks from h)
  simp only [Cnd.mk.sizeOf_spec]
  omega
theorem cnd_ind {p:Cnd → Prop} (h:∀ c,(∀ k ∈ c.kids,p k) → p c) (c:Cnd):p c :=
 h c fun k _=>cnd_ind h k
termination_by SizeOf.sizeOf c
decreasing_by exact sizeOf_kid (by assumption)
mutual
def cntS:Cnd → Int → Int
 | .mk _ _ _ _ _ ks,most=>cntL ks most 1
def cntL:List Cnd → Int → Int → Int
 | [],_,n=>n
 | x :: r,most,n=>if most < n then n else cntL r most (n + cntS x (most - n))
end
theorem cntS_eq (c:Cnd) (m:Int):cntS c m = cntL c.kids m 1:=by cases c;rfl
theorem cntS_bd (c:Cnd):∀ m:Int,1 ≤ cntS c m ∧ cntS c m ≤ max 1 (m + 1):=by
 refine cnd_ind (p:=fun c=>∀ m:Int,1 ≤ cntS c m ∧ cntS c m ≤ max 1 (m + 1)) (fun c ih m=>?_) c
 have key:∀ (l:List Cnd),(∀ k ∈ l,k ∈ c.kids) → ∀ n:Int,1 ≤ n → n ≤ max 1 (m + 1) → 1 ≤ cntL l m n ∧ cntL l m n ≤ max 1 (m + 1):=by
  intro l
  induction l with
  | nil=>intro _ n h1 h2;exact ⟨h1,h2⟩
  | cons x r ihl =>
   intro hl n h1 h2
   unfold cntL
   split
   ·exact ⟨h1,h2⟩
   ·have:=ih x (hl x (by simp)) (m - n)
    exact ihl (fun k hk=>hl k (by simp [hk])) _ (by omega) (by omega)
 rw [cntS_eq]
 exact key c.kids (fun k hk=>hk) 1 (by omega) (by omega)
mutual
def depS:Cnd → Nat
 | .mk _ _ _ _ _ ks=>depL ks 0 + 1
def depL:List Cnd → Nat → Nat
 | [],n=>n
 | x :: r,n=>depL r (max n (depS x))
end
theorem depS_eq (c:Cnd):depS c = depL c.kids 0 + 1:=by cases c;rfl
theorem depL_ge:∀ (l:List Cnd) (n:Nat),n ≤ depL l n ∧ ∀ k ∈ l,depS k ≤ depL l n
 | [],n=>⟨Nat.le_refl _,fun k hk=>by cases hk⟩
 | x :: r,n=>by
  obtain ⟨h1,h2⟩:=depL_ge r (max n (depS x))
  unfold depL
  refine ⟨by omega,fun k hk=>?_⟩
  rcases List.mem_cons.1 hk with rfl | hk
  ·omega
  ·exact h2 k hk
set_option maxHeartbeats 4000000 in
theorem ccount_call (c:Cnd):∀ (m:Int), -100000 ≤ m → m ≤ 100000 → FCall Tryz.prog 174 [cndA c, .i m] (.i (cntS c m)):=by
 refine cnd_ind (p:=fun c=>∀ (m:Int), -100000 ≤ m → m ≤ 100000 → FCall Tryz.prog 174 [cndA c, .i m] (.i (cntS c m))) (fun c ih m hm1 hm2=>?_) c
 rw [cndA_eq,cntS_eq]
 refine fci Tryz.func174 27 fun hrd E h0=>?_
 have hlen:c.kids.length ≤ 9223372036854775807:=by
  have:=((hrd _ (List.mem_cons_self ..)).agg (.sl 6 (c.kids.map cndX)) (by simp)).sl
  simpa using this
 clear hrd
 repeat' ((first|refine aops_go ?_|refine S1 ?_|refine Z1 ?_|refine Z2 ?_|(refine And.intro ?_ ?_<;>intro h<;>try first|(exfalso;omega)|exact absurd rfl h)|refine Z3 ?_|refine Z4 ?_|intro el hel hbB|intro el hel|intro ex|refine Z5 ?_|(refine free_i ?_ ?_;exact ⟨by kernel_rfl,by decide⟩)|refine allI_c ?_ ?_|exact allI_n|refine allMP_c ?_ ?_|exact allMP_n|(refine many_step ?_ ?_ ?_;kernel_rfl;kernel_rfl)) <;> (try (conv=>whnf)))
 refine loop_i (ι:=Nat × Int) (fun x=>⟨[(1, .i m),(5, .i x.2),(9, .sl 6 (c.kids.map cndX)),(10, .i c.kids.length),(11, .i x.1)],1,[(0,some (.box (cndY c)))]⟩) (fun x=>x.1 ≤ c.kids.length ∧ (1 ≤ x.2 ∧ x.2 ≤ max 1 (m + 1)) ∧ cntL c.kids m 1 = cntL (c.kids.drop x.1) m x.2) (fun x=>c.kids.length - x.1) (0,1) ⟨Nat.zero_le _,by dsimp only;omega,rfl⟩
  (le_of h0 rfl ⟨rfl,rfl,rfl,rfl,rfl,trivial⟩ ⟨rfl,trivial⟩ rfl rfl rfl) (fun x hI=>?_)
 obtain ⟨k,n⟩:=x
 obtain ⟨hk,hn,hI⟩:=hI
 dsimp only at hk hn hI ⊢
 repeat' ((first | (refine call_i (ih _ (List.mem_of_getElem? (by assumption)) _ (by omega) (by omega)) ?_) | (refine side_i ?_ ?_;(have:=cntS_bd el (m - n);omega)) |refine aops_go ?_|refine S1 ?_|refine Z1 ?_|refine Z2 ?_|(refine And.intro ?_ ?_<;>intro h<;>try first|(exfalso;omega)|exact absurd rfl h)|refine Z3 ?_|refine Z4 ?_|intro el hel hbB|intro el hel|intro ex|refine Z5 ?_|(refine free_i ?_ ?_;exact ⟨by kernel_rfl,by decide⟩)|refine allI_c ?_ ?_|exact allI_n|refine allMP_c ?_ ?_|exact allMP_n|(refine many_step ?_ ?_ ?_;kernel_rfl;kernel_rfl)) <;> (try (conv=>whnf)))
 all_goals first
  | exact ret_tmp rfl (congrArg AV.i (by rw [hI,dropc hel,cntL,if_pos (by assumption)]))
  | exact ret_tmp rfl (congrArg AV.i (by rw [hI,drop_end (by assumption)];rfl))
  | exact ⟨(k + 1,n + cntS el (m - n)),⟨by dsimp only;omega,(by have:=cntS_bd el (m - n);dsimp only;omega),by rw [hI,dropc hel,cntL,if_neg (by assumption)]⟩,by dsimp only;omega,le_of h0 rfl ⟨rfl,rfl,rfl,rfl,rfl,trivial⟩ ⟨rfl,trivial⟩ rfl rfl rfl⟩
set_option maxHeartbeats 4000000 in
theorem cdeep_call (c:Cnd):depS c ≤ 100000 → FCall Tryz.prog 175 [cndA c] (.i (depS c)):=by
 refine cnd_ind (p:=fun c=>depS c ≤ 100000 → FCall Tryz.prog 175 [cndA c] (.i (depS c))) (fun c ih hd=>?_) c
 rw [cndA_eq,depS_eq] at *
 have hge:=depL_ge c.kids 0
 refine fci Tryz.func175 20 fun hrd E h0=>?_
 have hlen:c.kids.length ≤ 9223372036854775807:=by
  have:=((hrd _ (List.mem_cons_self ..)).agg (.sl 6 (c.kids.map cndX)) (by simp)).sl
  simpa using this
 clear hrd
 repeat' ((first|refine aops_go ?_|refine S1 ?_|refine Z1 ?_|refine Z2 ?_|(refine And.intro ?_ ?_<;>intro h<;>try first|(exfalso;omega)|exact absurd rfl h)|refine Z3 ?_|refine Z4 ?_|intro el hel hbB|intro el hel|intro ex|refine Z5 ?_|(refine free_i ?_ ?_;exact ⟨by kernel_rfl,by decide⟩)|refine allI_c ?_ ?_|exact allI_n|refine allMP_c ?_ ?_|exact allMP_n|(refine many_step ?_ ?_ ?_;kernel_rfl;kernel_rfl)) <;> (try (conv=>whnf)))
 refine loop_i (ι:=Nat × Nat) (fun x=>⟨[(3, .i x.2),(7, .sl 6 (c.kids.map cndX)),(8, .i c.kids.length),(9, .i x.1)],1,[(0,some (.box (cndY c)))]⟩) (fun x=>x.1 ≤ c.kids.length ∧ x.2 ≤ depL c.kids 0 ∧ depL c.kids 0 = depL (c.kids.drop x.1) x.2) (fun x=>c.kids.length - x.1) (0,0) ⟨Nat.zero_le _,Nat.zero_le _,rfl⟩
  (le_of h0 rfl ⟨rfl,rfl,rfl,rfl,trivial⟩ ⟨rfl,trivial⟩ rfl rfl rfl) (fun x hI=>?_)
 obtain ⟨k,n⟩:=x
 obtain ⟨hk,hn,hI⟩:=hI
 dsimp only at hk hn hI ⊢
 have hkd:∀ el,c.kids[k]? = some el → depS el ≤ depL c.kids 0:=fun el hel=>hge.2 el (List.mem_of_getElem? hel)
 repeat' ((first | (refine call_i (ih _ (List.mem_of_getElem? (by assumption)) (by have:=hkd el hel;omega)) ?_) |refine aops_go ?_|refine S1 ?_|refine Z1 ?_|refine Z2 ?_|(refine And.intro ?_ ?_<;>intro h<;>try first|(exfalso;omega)|exact absurd rfl h)|refine Z3 ?_|refine Z4 ?_|intro el hel hbB|intro el hel|intro ex|refine Z5 ?_|(refine free_i ?_ ?_;exact ⟨by kernel_rfl,by decide⟩)|refine allI_c ?_ ?_|exact allI_n|refine allMP_c ?_ ?_|exact allMP_n|(refine many_step ?_ ?_ ?_;kernel_rfl;kernel_rfl)) <;> (try (conv=>whnf)))
 all_goals first
  | exact ret_tmp rfl (congrArg AV.i (by rw [hI,drop_end (by assumption)];unfold depL;omega))
  | exact ⟨(k + 1,max n (depS el)),⟨by dsimp only;omega,(by have:=hkd el hel;dsimp only;omega),by rw [hI,dropc hel,depL]⟩,by dsimp only;omega,le_of h0 rfl ⟨congrArg (fun z:Int=>some (AV.i z)) (by dsimp only;omega),rfl,rfl,rfl,trivial⟩ ⟨rfl,trivial⟩ rfl rfl rfl⟩
def kidN (op:Int):Int:=if op = 5 ∨ op = 6 then 2 else if op = 7 then 1 else 0
set_option maxHeartbeats 4000000 in
theorem ckids_call (op:Int):FCall Tryz.prog 206 [.i op] (.i (kidN op)):=by
 refine fci Tryz.func206 9 fun hrd E h0=>?_
 clear hrd
 repeat' ((first|refine aops_go ?_|refine S1 ?_|refine Z1 ?_|refine Z2 ?_|(refine And.intro ?_ ?_<;>intro h<;>try first|(exfalso;omega)|exact absurd rfl h)|refine Z3 ?_|refine Z4 ?_|intro el hel hbB|intro el hel|intro ex|refine Z5 ?_|(refine free_i ?_ ?_;exact ⟨by kernel_rfl,by decide⟩)|refine allI_c ?_ ?_|exact allI_n|refine allMP_c ?_ ?_|exact allMP_n|(refine many_step ?_ ?_ ?_;kernel_rfl;kernel_rfl)) <;> (try (conv=>whnf)))
 all_goals first
  | exact ret_tmp rfl (congrArg AV.i (by unfold kidN;rw [if_pos (by omega)]))
  | exact ret_tmp rfl (congrArg AV.i (by unfold kidN;rw [if_neg (by omega),if_pos (by omega)]))
  | exact ret_tmp rfl (congrArg AV.i (by unfold kidN;rw [if_neg (by omega),if_neg (by omega)]))
abbrev unuB (c:Cnd):Bool:=decide (¬ (c.op ≠ 2 ∧ c.op ≠ 3 ∧ c.op ≠ 4 ∧ c.col ≠ 0) ∧ ¬ (c.op ≠ 2 ∧ c.code ≠ 0) ∧ (c.op = 3 ∨ c.lo = 0 ∧ c.hi = 0))
set_option maxHeartbeats 4000000 in
theorem cunused_call (c:Cnd):FCall Tryz.prog 207 [cndA c] (.b (unuB c)):=by
 rw [cndA_eq]
 refine fci Tryz.func207 46 fun hrd E h0=>?_
 clear hrd
 repeat' ((first|refine aops_go ?_|refine S1 ?_|refine Z1 ?_|refine Z2 ?_|(refine And.intro ?_ ?_<;>intro h<;>try first|(exfalso;omega)|exact absurd rfl h)|refine Z3 ?_|refine Z4 ?_|intro el hel hbB|intro el hel|intro ex|refine Z5 ?_|(refine free_i ?_ ?_;exact ⟨by kernel_rfl,by decide⟩)|refine allI_c ?_ ?_|exact allI_n|refine allMP_c ?_ ?_|exact allMP_n|(refine many_step ?_ ?_ ?_;kernel_rfl;kernel_rfl)) <;> (try (conv=>whnf)))
 all_goals first
  | exact ret_tmp rfl (congrArg AV.b (by unfold unuB;rw [decide_eq_true (by omega)]))
  | exact ret_tmp rfl (congrArg AV.b (by unfold unuB;rw [decide_eq_false (by omega)]))
  | exact ret_tmp rfl (congrArg AV.b (by unfold unuB;rw [decide_eq_decide];omega))
end Go.Proofs.YtjmbhlgocikfiaaGreatDoor

/- Chapter 5: the program's check of a condition. Chapter 5: the program's check of a condition and of all in it. Chapter 5: truth values, the conditions about one column, and which picks cover others. Chapter 5: which picks cover others. Chapter 5: the first error of one condition, case by case. -/
import Derived.Test.YtjmbhlgocikfiaaGreatDoorTCd1
set_option linter.unusedVariables false
set_option linter.unnecessarySimpa false
set_option linter.unusedSimpArgs false
namespace Go.Proofs.YtjmbhlgocikfiaaGreatDoor
open Go Go.Av
attribute [local irreducible] AWp AOps AAny MAny DQ retQ retG St.le FCall GCall
set_option maxRecDepth 100000
def conE (s:Sch) (c:Cnd):Int :=
 if c.op < 1 ∨ 7 < c.op then 4 else if (c.kids.length:Int) ≠ kidN c.op ∨ ¬ (¬ (c.op ≠ 2 ∧ c.op ≠ 3 ∧ c.op ≠ 4 ∧ c.col ≠ 0) ∧ ¬ (c.op ≠ 2 ∧ c.code ≠ 0) ∧ (c.op = 3 ∨ c.lo = 0 ∧ c.hi = 0)) then 11 else if c.op ≠ 2 ∧ c.op ≠ 3 ∧ c.op ≠ 4 then 0 else
 if c.col < 0 ∨ (s.cols.length:Int) ≤ c.col then 7 else
 if c.op = 2 then (if (colAt s c.col).kind ≠ 2 then 7 else if c.code < 0 ∨ ((lstOf s (colAt s c.col)).2.length:Int) ≤ c.code then 6 else 0)
 else if c.op = 3 then (if (colAt s c.col).kind ≠ 3 then 7 else if c.hi < c.lo ∨ c.lo < -1000000 ∨ 1000000 < c.hi then 2 else 0)
 else (if (colAt s c.col).kind ≠ 3 ∨ (colAt s c.col).opt = false then 7 else 0)
set_option maxHeartbeats 4000000 in
theorem checkOne_call (s:Sch) (c:Cnd) (hr:schE s = 0):FCall Tryz.prog 193 [sA s,cndA c] (.i (conE s c)):=by
 have hk:=ckids_call c.op
 have hu:=cunused_call c
 rw [cndA_eq]
 refine fci Tryz.func193 113 fun hrd E h0=>?_
 have hlen:c.kids.length ≤ 9223372036854775807:=by
  have:=((hrd _ (List.mem_cons_of_mem _ (List.mem_cons_self ..))).agg (.sl 6 (c.kids.map cndX)) (by simp)).sl
  simpa using this
 clear hrd
 rw [cndA_eq] at hu
 have hlst:∀ x,s.cols[c.col.toNat]? = some x → x.kind = 2 → 0 ≤ x.lst ∧ x.lst < s.lists.length:=fun x hx h2=>by
  have:=RightS.lst hr (List.mem_of_getElem? hx) h2
  omega
 repeat' ((first | refine call_i hk ?_ | refine call_i hu ?_ | (refine each_map ?_ ?_ (fun lx hlx=>?_);(have:=hlst _ (by assumption) (by omega);omega);(have:=hlst _ (by assumption) (by omega);omega)) | (refine draw_q ?_ ?_;kernel_rfl) |refine aops_go ?_|refine S1 ?_|refine Z1 ?_|refine Z2 ?_|(refine And.intro ?_ ?_<;>intro h<;>try first|(exfalso;omega)|exact absurd rfl h)|refine Z3 ?_|refine Z4 ?_|intro el hel hbB|intro el hel|intro ex|refine Z5 ?_|(refine free_i ?_ ?_;exact ⟨by kernel_rfl,by decide⟩)|refine allI_c ?_ ?_|exact allI_n|refine allMP_c ?_ ?_|exact allMP_n|(refine many_step ?_ ?_ ?_;kernel_rfl;kernel_rfl)) <;> (try (conv=>whnf)))
 all_goals first
  | (refine ret_tmp rfl (congrArg AV.i ?_);unfold conE;(repeat' split) <;> omega)
  | (refine ret_tmp rfl (congrArg AV.i ?_);unfold conE;rw [colAt_get hel];(repeat' split) <;> omega)
  | (refine ret_tmp rfl (congrArg AV.i ?_);unfold conE;rw [colAt_get hel,lstOf_get hlx];(repeat' split) <;> omega)
  | (refine ret_tmp rfl (congrArg AV.i ?_);unfold conE;rw [colAt_get hel];(repeat' split) <;> first | rfl | (exfalso;omega) | (exfalso;simp_all;done))
mutual
def totS:Cnd → Nat
 | .mk _ _ _ _ _ ks=>totL ks + 1
def totL:List Cnd → Nat
 | []=>0
 | x :: r=>totS x + totL r
end
theorem totS_eq (c:Cnd):totS c = totL c.kids + 1:=by cases c;rfl
theorem cntL_ge:∀ (l:List Cnd) (m n:Int),n ≤ cntL l m n
 | [],m,n=>by unfold cntL;omega
 | x :: r,m,n=>by
  unfold cntL
  split
  ·omega
  ·have h1:=cntS_bd x (m - n)
   have h2:=cntL_ge r m (n + cntS x (m - n))
   omega
theorem cnt_tot (c:Cnd):∀ m:Int,(cntS c m ≤ m → (totS c:Int) = cntS c m) ∧ ((totS c:Int) ≤ m → cntS c m = totS c):=by
 refine cnd_ind (p:=fun c=>∀ m:Int,(cntS c m ≤ m → (totS c:Int) = cntS c m) ∧ ((totS c:Int) ≤ m → cntS c m = totS c)) (fun c ih m=>?_) c
 have key:∀ (l:List Cnd),(∀ k ∈ l,k ∈ c.kids) → ∀ n:Int,(cntL l m n ≤ m → cntL l m n = n + totL l) ∧ (n + totL l ≤ m → cntL l m n = n + totL l):=by
  intro l
  induction l with
  | nil=>intro _ n;unfold cntL totL;exact ⟨fun _=>by omega,fun _=>by omega⟩
  | cons x r ihl =>
   intro hl n
   obtain ⟨i1,i2⟩:=ih x (hl x (by simp)) (m - n)
   obtain ⟨j1,j2⟩:=ihl (fun k hk=>hl k (by simp [hk])) (n + cntS x (m - n))
   have hge:=cntL_ge r m (n + cntS x (m - n))
   have hbd:=cntS_bd x (m - n)
   unfold cntL totL
   by_cases h:m < n
   ·rw [if_pos h]
    exact ⟨fun h2=>by omega,fun h2=>by omega⟩
   ·rw [if_neg h]
    refine ⟨fun h2=>?_,fun h2=>?_⟩
    ·rw [j1 h2]
     have:=i1 (by omega)
     omega
    ·have:=i2 (by omega)
     rw [this] at j2 ⊢
     rw [j2 (by omega)]
     omega
 obtain ⟨k1,k2⟩:=key c.kids (fun k hk=>hk) 1
 rw [cntS_eq,totS_eq]
 exact ⟨fun h=>by have:=k1 h;omega,fun h=>by have:=k2 (by omega);omega⟩
theorem dep_tot (c:Cnd):depS c ≤ totS c:=by
 refine cnd_ind (p:=fun c=>depS c ≤ totS c) (fun c ih=>?_) c
 have key:∀ (l:List Cnd),(∀ k ∈ l,k ∈ c.kids) → ∀ n:Nat,depL l n ≤ max n (totL l):=by
  intro l
  induction l with
  | nil=>intro _ n;unfold depL;omega
  | cons x r ihl =>
   intro hl n
   have h1:=ih x (hl x (by simp))
   have h2:=ihl (fun k hk=>hl k (by simp [hk])) (max n (depS x))
   unfold depL totL
   omega
 have:=key c.kids (fun k hk=>hk) 0
 rw [depS_eq,totS_eq]
 omega
mutual
def chkS (s:Sch):Cnd → Int
 | .mk o c k l h ks=>if conE s (.mk o c k l h ks) = 0 then chkL s ks else conE s (.mk o c k l h ks)
def chkL (s:Sch):List Cnd → Int
 | []=>0
 | x :: r=>if chkS s x = 0 then chkL s r else chkS s x
end
theorem chkS_eq (s:Sch) (c:Cnd):chkS s c = if conE s c = 0 then chkL s c.kids else conE s c:=by cases c;rfl
set_option maxHeartbeats 4000000 in
theorem checkAll_call (s:Sch) (hr:schE s = 0) (c:Cnd):FCall Tryz.prog 176 [sA s,cndA c] (.i (chkS s c)):=by
 refine cnd_ind (p:=fun c=>FCall Tryz.prog 176 [sA s,cndA c] (.i (chkS s c))) (fun c ih=>?_) c
 have h1:=checkOne_call s c hr
 rw [cndA_eq] at h1 ⊢
 rw [chkS_eq]
 refine fci Tryz.func176 29 fun hrd E h0=>?_
 have hlen:c.kids.length ≤ 9223372036854775807:=by
  have:=((hrd _ (List.mem_cons_of_mem _ (List.mem_cons_self ..))).agg (.sl 6 (c.kids.map cndX)) (by simp)).sl
  simpa using this
 clear hrd
 repeat' ((first | refine call_i h1 ?_ |refine aops_go ?_|refine S1 ?_|refine Z1 ?_|refine Z2 ?_|(refine And.intro ?_ ?_<;>intro h<;>try first|(exfalso;omega)|exact absurd rfl h)|refine Z3 ?_|refine Z4 ?_|intro el hel hbB|intro el hel|intro ex|refine Z5 ?_|(refine free_i ?_ ?_;exact ⟨by kernel_rfl,by decide⟩)|refine allI_c ?_ ?_|exact allI_n|refine allMP_c ?_ ?_|exact allMP_n|(refine many_step ?_ ?_ ?_;kernel_rfl;kernel_rfl)) <;> (try (conv=>whnf)))
 all_goals first
  | exact ret_tmp rfl (congrArg AV.i (by rw [if_neg (by assumption)]))
  | skip
 rw [if_pos (Decidable.of_not_not (by assumption))]
 refine loop_i (ι:=Nat) (fun k=>⟨[(2, .ref 0 0),(16, .sl 6 (c.kids.map cndX)),(17, .i c.kids.length),(18, .i k)],2,[(0,some (.box (sL s))),(1,some (.box (cndY c)))]⟩) (fun k=>k ≤ c.kids.length ∧ chkL s c.kids = chkL s (c.kids.drop k)) (fun k=>c.kids.length - k) 0 ⟨Nat.zero_le _,rfl⟩
  (le_of h0 rfl ⟨rfl,rfl,rfl,rfl,trivial⟩ ⟨rfl,rfl,trivial⟩ rfl rfl rfl) (fun k hI=>?_)
 obtain ⟨hk,hI⟩:=hI
 repeat' ((first | (refine call_i (ih _ (List.mem_of_getElem? (by assumption))) ?_) |refine aops_go ?_|refine S1 ?_|refine Z1 ?_|refine Z2 ?_|(refine And.intro ?_ ?_<;>intro h<;>try first|(exfalso;omega)|exact absurd rfl h)|refine Z3 ?_|refine Z4 ?_|intro el hel hbB|intro el hel|intro ex|refine Z5 ?_|(refine free_i ?_ ?_;exact ⟨by kernel_rfl,by decide⟩)|refine allI_c ?_ ?_|exact allI_n|refine allMP_c ?_ ?_|exact allMP_n|(refine many_step ?_ ?_ ?_;kernel_rfl;kernel_rfl)) <;> (try (conv=>whnf)))
 all_goals first
  | exact ret_tmp rfl (congrArg AV.i (by rw [hI,dropc hel,chkL,if_neg (by assumption)]))
  | exact ret_tmp rfl (congrArg AV.i (by rw [hI,drop_end (by assumption)];rfl))
  | exact ⟨k + 1,⟨by omega,by rw [hI,dropc hel,chkL,if_pos (Decidable.of_not_not (by assumption))]⟩,by omega,le_of h0 rfl ⟨rfl,rfl,rfl,rfl,trivial⟩ ⟨rfl,rfl,trivial⟩ rfl rfl rfl⟩
def cndE (s:Sch) (c:Cnd):Int:=if schE s = 0 then (if 40 < totS c then 1 else if 10 < depS c then 22 else chkS s c) else schE s
set_option maxHeartbeats 4000000 in
theorem ccheck_call (s:Sch) (c:Cnd):FCall Tryz.prog 138 [sA s,cndA c] (.i (cndE s c)):=by
 have h1:=scheck_call s
 have h2:=ccount_call c 40 (by omega) (by omega)
 have h3:(totS c:Int) ≤ 40 → FCall Tryz.prog 175 [cndA c] (.i (depS c)):=fun h=>cdeep_call c (by have:=dep_tot c;omega)
 have h4:=fun hr=>checkAll_call s hr c
 obtain ⟨t1,t2⟩:=cnt_tot c 40
 rw [cndA_eq] at *
 refine fci Tryz.func138 23 fun hrd E h0=>?_
 clear hrd
 unfold cndE
 repeat' ((first | refine call_i h1 ?_ | refine call_i h2 ?_ | refine call_i (h3 (by omega)) ?_ | refine call_i (h4 (Decidable.of_not_not (by assumption))) ?_ |refine aops_go ?_|refine S1 ?_|refine Z1 ?_|refine Z2 ?_|(refine And.intro ?_ ?_<;>intro h<;>try first|(exfalso;omega)|exact absurd rfl h)|refine Z3 ?_|refine Z4 ?_|intro el hel hbB|intro el hel|intro ex|refine Z5 ?_|(refine free_i ?_ ?_;exact ⟨by kernel_rfl,by decide⟩)|refine allI_c ?_ ?_|exact allI_n|refine allMP_c ?_ ?_|exact allMP_n|(refine many_step ?_ ?_ ?_;kernel_rfl;kernel_rfl)) <;> (try (conv=>whnf)))
 all_goals first
  | exact ret_tmp rfl (congrArg AV.i (by rw [if_neg (by assumption)]))
  | exact ret_tmp rfl (congrArg AV.i (by rw [if_pos (Decidable.of_not_not (by assumption)),if_pos (by omega)]))
  | exact ret_tmp rfl (congrArg AV.i (by rw [if_pos (Decidable.of_not_not (by assumption)),if_neg (by omega),if_pos (by omega)]))
  | exact ret_tmp rfl (congrArg AV.i (by rw [if_pos (Decidable.of_not_not (by assumption)),if_neg (by omega),if_neg (by omega)]))
def truS (b:Bool):Int:=if b = true then 1 else -1
def atomS (s:Sch) (c:Cnd) (v:Int):Int :=
 if c.op = 2 then truS (underS (lstOf s (colAt s c.col)).1 (lstOf s (colAt s c.col)).2 v c.code) else if c.op = 4 then truS (decide (v = (-1099511627776))) else if v = (-1099511627776) then 0 else truS (decide (c.lo ≤ v ∧ v ≤ c.hi))
mutual
def atmS:Cnd → List Cnd
 | .mk o c k l h ks=>if o = 2 ∨ o = 3 ∨ o = 4 then [.mk o c k l h ks] else atmL ks
def atmL:List Cnd → List Cnd
 | []=>[]
 | x :: r=>atmS x ++ atmL r
end
theorem totL_mem {l:List Cnd}:∀ k ∈ l,totS k ≤ totL l:=by
 induction l with
 | nil=>intro k hk;cases hk
 | cons x r ih =>
  intro k hk
  unfold totL
  rcases List.mem_cons.1 hk with rfl | hk
  ·omega
  ·have:=ih k hk;omega
end Go.Proofs.YtjmbhlgocikfiaaGreatDoor
namespace Go.Proofs.YtjmbhlgocikfiaaGreatDoor
open Go Go.Av
attribute [local irreducible] AWp AOps AAny MAny DQ retQ retG St.le FCall GCall
set_option maxRecDepth 100000
set_option maxHeartbeats 2000000 in
theorem pk_idx (l:List (Pk)) (f:Nat) (caps:List AV) (p:(Pk) → Bool) (hf:∀ x ∈ l,FCall Tryz.prog f ((fun x=>.agg (pkL x)) x :: caps) (.b (p x))):FCall Tryz.prog 205 [.sl 2 (l.map pkL), .fn f caps] (.i (idxP p l 0)):=by
 refine fci Tryz.func205 19 fun hrd E h0=>?_
 have hlen:l.length ≤ 9223372036854775807:=by have:=(hrd (.sl 2 (l.map pkL)) (by simp)).sl;simpa using this
 repeat' ((first|refine aops_go ?_|refine S1 ?_|refine Z1 ?_|refine Z2 ?_|(refine And.intro ?_ ?_<;>intro h<;>try first|(exfalso;omega)|exact absurd rfl h)|refine Z3 ?_|refine Z4 ?_|intro el hel hbB|intro el hel|intro ex|refine Z5 ?_|(refine free_i ?_ ?_;exact ⟨by kernel_rfl,by decide⟩)|refine allI_c ?_ ?_|exact allI_n|refine allMP_c ?_ ?_|exact allMP_n|(refine many_step ?_ ?_ ?_;kernel_rfl;kernel_rfl)) <;> (try (conv=>whnf)))
 refine loop_i (ι:=Nat) (fun k=>⟨[(0, .sl 2 (l.map pkL)),(1, .fn f caps),(7, .i l.length),(8, .i k)],0,[]⟩) (fun k=>k ≤ l.length ∧ idxP p l 0 = idxP p (l.drop k) k) (fun k=>l.length - k) 0 ⟨Nat.zero_le _,rfl⟩ (le_of h0 rfl ⟨rfl,rfl,rfl,rfl,trivial⟩ trivial rfl rfl rfl) (fun k hI=>?_)
 obtain ⟨hk,hI⟩:=hI
 repeat' ((first | refine call_i (hf _ (List.mem_of_getElem? hel)) ?_ |refine aops_go ?_|refine S1 ?_|refine Z1 ?_|refine Z2 ?_|(refine And.intro ?_ ?_<;>intro h<;>try first|(exfalso;omega)|exact absurd rfl h)|refine Z3 ?_|refine Z4 ?_|intro el hel hbB|intro el hel|intro ex|refine Z5 ?_|(refine free_i ?_ ?_;exact ⟨by kernel_rfl,by decide⟩)|refine allI_c ?_ ?_|exact allI_n|refine allMP_c ?_ ?_|exact allMP_n|(refine many_step ?_ ?_ ?_;kernel_rfl;kernel_rfl)) <;> (try (conv=>whnf)))
 all_goals first
  | exact ⟨k + 1,⟨by omega,by rw [hI,dropc hel,idxP,if_neg (by simp [h])];rfl⟩,by omega,le_of h0 rfl ⟨rfl,rfl,rfl,rfl,trivial⟩ trivial rfl rfl rfl⟩
  | exact ret_tmp rfl (congrArg AV.i (by rw [hI,dropc hel,idxP,if_pos (by simp [h])]))
  | exact ret_tmp rfl (congrArg AV.i (by rw [hI,show k = l.length by omega,List.drop_length];rfl))
set_option maxHeartbeats 2000000 in
theorem pk_any (l:List (Pk)) (f:Nat) (caps:List AV) (p:(Pk) → Bool) (hf:∀ x ∈ l,FCall Tryz.prog f ((fun x=>.agg (pkL x)) x :: caps) (.b (p x))):FCall Tryz.prog 190 [.sl 2 (l.map pkL), .fn f caps] (.b (l.any p)):=by
 refine fci Tryz.func190 9 fun hrd E h0=>?_
 have hidx:=pk_idx l f caps p hf
 repeat' ((first | refine call_i hidx ?_ |refine aops_go ?_|refine S1 ?_|refine Z1 ?_|refine Z2 ?_|(refine And.intro ?_ ?_<;>intro h<;>try first|(exfalso;omega)|exact absurd rfl h)|refine Z3 ?_|refine Z4 ?_|intro el hel hbB|intro el hel|intro ex|refine Z5 ?_|(refine free_i ?_ ?_;exact ⟨by kernel_rfl,by decide⟩)|refine allI_c ?_ ?_|exact allI_n|refine allMP_c ?_ ?_|exact allMP_n|(refine many_step ?_ ?_ ?_;kernel_rfl;kernel_rfl)) <;> (try (conv=>whnf)))
 all_goals first
  | exact ret_tmp rfl (congrArg AV.b (idxP_any p l 0 (by omega)))
end Go.Proofs.YtjmbhlgocikfiaaGreatDoor
namespace Go.Proofs.YtjmbhlgocikfiaaGreatDoor
open Go Go.Av
attribute [local irreducible] AWp AOps AAny MAny DQ retQ retG St.le FCall GCall
set_option maxRecDepth 100000
theorem kidN_of (op:Int):(op = 5 ∨ op = 6 → kidN op = 2) ∧ (op = 7 → kidN op = 1) ∧ (op ≠ 5 → op ≠ 6 → op ≠ 7 → kidN op = 0):=by
 unfold kidN
 refine ⟨fun h=>by rw [if_pos h],fun h=>by rw [if_neg (by omega),if_pos h],fun h1 h2 h3=>by rw [if_neg (by omega),if_neg h3]⟩
theorem conE_4 {s:Sch} {c:Cnd} (h:c.op < 1 ∨ 7 < c.op):conE s c = 4:=by unfold conE;rw [if_pos h]
theorem conE_11 {s:Sch} {c:Cnd} (h0:1 ≤ c.op ∧ c.op ≤ 7) (h:(c.kids.length:Int) ≠ kidN c.op ∨ ¬ (¬ (c.op ≠ 2 ∧ c.op ≠ 3 ∧ c.op ≠ 4 ∧ c.col ≠ 0) ∧ ¬ (c.op ≠ 2 ∧ c.code ≠ 0) ∧ (c.op = 3 ∨ c.lo = 0 ∧ c.hi = 0))):conE s c = 11:=by unfold conE;rw [if_neg (by omega),if_pos h]
theorem conE_72 {s:Sch} {c:Cnd} (hp:(1 ≤ c.op ∧ c.op ≤ 7) ∧ (c.kids.length:Int) = kidN c.op ∧ ¬ (c.op ≠ 2 ∧ c.op ≠ 3 ∧ c.op ≠ 4 ∧ c.col ≠ 0) ∧ ¬ (c.op ≠ 2 ∧ c.code ≠ 0) ∧ (c.op = 3 ∨ c.lo = 0 ∧ c.hi = 0)) (h2:c.op = 2) (h:¬ (0 ≤ c.col ∧ c.col < s.cols.length ∧ (colAt s c.col).kind = 2)):conE s c = 7:=by
 unfold conE
 rw [if_neg (by omega),if_neg (by omega),if_neg (by omega)]
 by_cases h3:c.col < 0 ∨ (s.cols.length:Int) ≤ c.col
 ·rw [if_pos h3]
 ·rw [if_neg h3,if_pos h2,if_pos (by omega)]
theorem conE_73 {s:Sch} {c:Cnd} (hp:(1 ≤ c.op ∧ c.op ≤ 7) ∧ (c.kids.length:Int) = kidN c.op ∧ ¬ (c.op ≠ 2 ∧ c.op ≠ 3 ∧ c.op ≠ 4 ∧ c.col ≠ 0) ∧ ¬ (c.op ≠ 2 ∧ c.code ≠ 0) ∧ (c.op = 3 ∨ c.lo = 0 ∧ c.hi = 0)) (h2:c.op = 3) (h:¬ (0 ≤ c.col ∧ c.col < s.cols.length ∧ (colAt s c.col).kind = 3)):conE s c = 7:=by
 unfold conE
 rw [if_neg (by omega),if_neg (by omega),if_neg (by omega)]
 by_cases h3:c.col < 0 ∨ (s.cols.length:Int) ≤ c.col
 ·rw [if_pos h3]
 ·rw [if_neg h3,if_neg (by omega),if_pos h2,if_pos (by omega)]
theorem conE_74 {s:Sch} {c:Cnd} (hp:(1 ≤ c.op ∧ c.op ≤ 7) ∧ (c.kids.length:Int) = kidN c.op ∧ ¬ (c.op ≠ 2 ∧ c.op ≠ 3 ∧ c.op ≠ 4 ∧ c.col ≠ 0) ∧ ¬ (c.op ≠ 2 ∧ c.code ≠ 0) ∧ (c.op = 3 ∨ c.lo = 0 ∧ c.hi = 0)) (h2:c.op = 4) (h:¬ (0 ≤ c.col ∧ c.col < s.cols.length ∧ (colAt s c.col).kind = 3)):conE s c = 7:=by
 unfold conE
 rw [if_neg (by omega),if_neg (by omega),if_neg (by omega)]
 by_cases h3:c.col < 0 ∨ (s.cols.length:Int) ≤ c.col
 ·rw [if_pos h3]
 ·rw [if_neg h3,if_neg (by omega),if_neg (by omega),if_pos (by omega)]
theorem conE_74o {s:Sch} {c:Cnd} (hp:(1 ≤ c.op ∧ c.op ≤ 7) ∧ (c.kids.length:Int) = kidN c.op ∧ ¬ (c.op ≠ 2 ∧ c.op ≠ 3 ∧ c.op ≠ 4 ∧ c.col ≠ 0) ∧ ¬ (c.op ≠ 2 ∧ c.code ≠ 0) ∧ (c.op = 3 ∨ c.lo = 0 ∧ c.hi = 0)) (h2:c.op = 4) {x:Col} (hx:s.cols[c.col.toNat]? = some x) (h:x.opt = false):conE s c = 7:=by
 unfold conE
 rw [if_neg (by omega),if_neg (by omega),if_neg (by omega),colAt_get hx]
 by_cases h3:c.col < 0 ∨ (s.cols.length:Int) ≤ c.col
 ·rw [if_pos h3]
 ·rw [if_neg h3,if_neg (by omega),if_neg (by omega),if_pos (.inr h)]
theorem conE_6 {s:Sch} {c:Cnd} (hp:(1 ≤ c.op ∧ c.op ≤ 7) ∧ (c.kids.length:Int) = kidN c.op ∧ ¬ (c.op ≠ 2 ∧ c.op ≠ 3 ∧ c.op ≠ 4 ∧ c.col ≠ 0) ∧ ¬ (c.op ≠ 2 ∧ c.code ≠ 0) ∧ (c.op = 3 ∨ c.lo = 0 ∧ c.hi = 0)) (h2:c.op = 2) (h:0 ≤ c.col ∧ c.col < s.cols.length ∧ (colAt s c.col).kind = 2) (h3:c.code < 0 ∨ ((lstOf s (colAt s c.col)).2.length:Int) ≤ c.code):conE s c = 6:=by
 unfold conE
 rw [if_neg (by omega),if_neg (by omega),if_neg (by omega),if_neg (by omega),if_pos h2,if_neg (by omega),if_pos h3]
theorem conE_2 {s:Sch} {c:Cnd} (hp:(1 ≤ c.op ∧ c.op ≤ 7) ∧ (c.kids.length:Int) = kidN c.op ∧ ¬ (c.op ≠ 2 ∧ c.op ≠ 3 ∧ c.op ≠ 4 ∧ c.col ≠ 0) ∧ ¬ (c.op ≠ 2 ∧ c.code ≠ 0) ∧ (c.op = 3 ∨ c.lo = 0 ∧ c.hi = 0)) (h2:c.op = 3) (h:0 ≤ c.col ∧ c.col < s.cols.length ∧ (colAt s c.col).kind = 3) (h3:c.hi < c.lo ∨ c.lo < -1000000 ∨ 1000000 < c.hi):conE s c = 2:=by
 unfold conE
 rw [if_neg (by omega),if_neg (by omega),if_neg (by omega),if_neg (by omega),if_neg (by omega),if_pos h2,if_neg (by omega),if_pos h3]
theorem conE_01 {s:Sch} {c:Cnd} (hp:(1 ≤ c.op ∧ c.op ≤ 7) ∧ (c.kids.length:Int) = kidN c.op ∧ ¬ (c.op ≠ 2 ∧ c.op ≠ 3 ∧ c.op ≠ 4 ∧ c.col ≠ 0) ∧ ¬ (c.op ≠ 2 ∧ c.code ≠ 0) ∧ (c.op = 3 ∨ c.lo = 0 ∧ c.hi = 0)) (h2:c.op ≠ 2 ∧ c.op ≠ 3 ∧ c.op ≠ 4):conE s c = 0:=by
 unfold conE
 rw [if_neg (by omega),if_neg (by omega),if_pos h2]
theorem conE_02 {s:Sch} {c:Cnd} (hp:(1 ≤ c.op ∧ c.op ≤ 7) ∧ (c.kids.length:Int) = kidN c.op ∧ ¬ (c.op ≠ 2 ∧ c.op ≠ 3 ∧ c.op ≠ 4 ∧ c.col ≠ 0) ∧ ¬ (c.op ≠ 2 ∧ c.code ≠ 0) ∧ (c.op = 3 ∨ c.lo = 0 ∧ c.hi = 0)) (h2:c.op = 2) (h:0 ≤ c.col ∧ c.col < s.cols.length ∧ (colAt s c.col).kind = 2) (h3:¬ (c.code < 0 ∨ ((lstOf s (colAt s c.col)).2.length:Int) ≤ c.code)):conE s c = 0:=by
 unfold conE
 rw [if_neg (by omega),if_neg (by omega),if_neg (by omega),if_neg (by omega),if_pos h2,if_neg (by omega),if_neg h3]
theorem conE_03 {s:Sch} {c:Cnd} (hp:(1 ≤ c.op ∧ c.op ≤ 7) ∧ (c.kids.length:Int) = kidN c.op ∧ ¬ (c.op ≠ 2 ∧ c.op ≠ 3 ∧ c.op ≠ 4 ∧ c.col ≠ 0) ∧ ¬ (c.op ≠ 2 ∧ c.code ≠ 0) ∧ (c.op = 3 ∨ c.lo = 0 ∧ c.hi = 0)) (h2:c.op = 3) (h:0 ≤ c.col ∧ c.col < s.cols.length ∧ (colAt s c.col).kind = 3) (h3:¬ (c.hi < c.lo ∨ c.lo < -1000000 ∨ 1000000 < c.hi)):conE s c = 0:=by
 unfold conE
 rw [if_neg (by omega),if_neg (by omega),if_neg (by omega),if_neg (by omega),if_neg (by omega),if_pos h2,if_neg (by omega),if_neg h3]
theorem conE_04 {s:Sch} {c:Cnd} (hp:(1 ≤ c.op ∧ c.op ≤ 7) ∧ (c.kids.length:Int) = kidN c.op ∧ ¬ (c.op ≠ 2 ∧ c.op ≠ 3 ∧ c.op ≠ 4 ∧ c.col ≠ 0) ∧ ¬ (c.op ≠ 2 ∧ c.code ≠ 0) ∧ (c.op = 3 ∨ c.lo = 0 ∧ c.hi = 0)) (h2:c.op = 4) (h:0 ≤ c.col ∧ c.col < s.cols.length ∧ (colAt s c.col).kind = 3) {x:Col} (hx:s.cols[c.col.toNat]? = some x) (ho:x.opt = true):conE s c = 0:=by
 unfold conE
 rw [colAt_get hx] at *
 rw [if_neg (by omega),if_neg (by omega),if_neg (by omega),if_neg (by omega),if_neg (by omega),if_neg (by omega),if_neg (by rw [ho];intro h9;rcases h9 with h9 | h9;exact h9 h.2.2;cases h9)]
end Go.Proofs.YtjmbhlgocikfiaaGreatDoor

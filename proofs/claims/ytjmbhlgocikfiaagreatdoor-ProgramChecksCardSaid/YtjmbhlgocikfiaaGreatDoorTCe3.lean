/- Chapter 5: the reference's check of a condition. -/
import Derived.Test.YtjmbhlgocikfiaaGreatDoorTCe1
import Derived.Test.YtjmbhlgocikfiaaGreatDoorTC1
import Derived.Test.YtjmbhlgocikfiaaGreatDoorTB10
set_option linter.unusedVariables false
set_option linter.unnecessarySimpa false
set_option linter.unusedSimpArgs false
namespace Go.Proofs.YtjmbhlgocikfiaaGreatDoor
open Go Go.Av
attribute [local irreducible] AWp AOps AAny MAny DQ retQ retG St.le FCall GCall
set_option maxRecDepth 100000
theorem chk_err {s:Sch} {c:Cnd} {e:Int} (h:conE s c = e) (he:e ≠ 0):e = if conE s c = 0 then chkL s c.kids else conE s c:=by rw [h,if_neg he]
set_option maxHeartbeats 8000000 in
theorem node_call (s:Sch) (hr:schE s = 0) (c:Cnd):FCall Tryz.prog 146 [sA s,cndA c] (.i (chkS s c)):=by
 refine cnd_ind (p:=fun c=>FCall Tryz.prog 146 [sA s,cndA c] (.i (chkS s c))) (fun c ih=>?_) c
 have hin:=fun k=>is_call s c.col k
 have hkn:=kidN_of c.op
 have hlst:∀ x,s.cols[c.col.toNat]? = some x → (colAt s c.col).kind = 2 → 0 ≤ x.lst ∧ x.lst < s.lists.length:=fun x hx h2=>by
  rw [colAt_get hx] at h2
  have:=RightS.lst hr (List.mem_of_getElem? hx) h2
  omega
 rw [cndA_eq,chkS_eq]
 refine fci Tryz.func146 185 fun hrd E h0=>?_
 have hlen:c.kids.length ≤ 9223372036854775807:=by
  have:=((hrd _ (List.mem_cons_of_mem _ (List.mem_cons_self ..))).agg (.sl 6 (c.kids.map cndX)) (by simp)).sl
  simpa using this
 clear hrd
 repeat' ((first | (refine draw_id 1 ?_;refine draw_m (id:=1) ⟨[(2, .ref 0 0),(3, .ref 1 0),(5, .i 0),(6, .ref 2 0)],3,[(0,some (.box (sL s))),(1,some (.box (cndY c))),(2,some (.box [.i c.op, .i 0, .i 0, .i 0, .i 0, .v (.slice none 0 0)]))]⟩ ?_ ?_) | (refine draw_id 6 ?_;refine draw_m (id:=6) ⟨[(2, .ref 0 0),(3, .ref 1 0),(5, .i 0),(6, .ref 2 0)],3,[(0,some (.box (sL s))),(1,some (.box (cndY c))),(2,some (.box [.i c.op, .i c.col, .i c.code, .i 0, .i 0, .v (.slice none 0 0)]))]⟩ ?_ ?_) | (refine draw_id 8 ?_;refine draw_m (id:=8) ⟨[(2, .ref 0 0),(3, .ref 1 0),(5, .i 0),(6, .ref 2 0)],3,[(0,some (.box (sL s))),(1,some (.box (cndY c))),(2,some (.box [.i c.op, .i c.col, .i 0, .i c.lo, .i c.hi, .v (.slice none 0 0)]))]⟩ ?_ ?_) | (refine aops_cut (l:=⟨some 45,_,_,_,_,_⟩ :: _) [2,3,5,6] ?_;(try (conv=>whnf));refine aops_go ?_) | (refine aops_cut (l:=⟨some 78,_,_,_,_,_⟩ :: _) [2,3] ?_;(try (conv=>whnf));refine aops_go ?_) | (refine aops_cut (l:=⟨some 148,_,_,_,_,_⟩ :: _) [2,3] ?_;(try (conv=>whnf));refine aops_go ?_) | refine call_i (hin _) ?_ | (refine each_map ?_ ?_ (fun lx hlx=>?_);(have:=hlst _ (by assumption) (by omega);omega);(have:=hlst _ (by assumption) (by omega);omega)) | (refine draw_q ?_ ?_;kernel_rfl) |refine aops_go ?_|refine S1 ?_|refine Z1 ?_|refine Z2 ?_|(refine And.intro ?_ ?_<;>intro h<;>try first|(exfalso;omega)|exact absurd rfl h)|refine Z3 ?_|refine Z4 ?_|intro el hel hbB|intro el hel|intro ex|refine Z5 ?_|(refine free_i ?_ ?_;exact ⟨by kernel_rfl,by decide⟩)|refine allI_c ?_ ?_|exact allI_n|refine allMP_c ?_ ?_|exact allMP_n|(refine many_step ?_ ?_ ?_;kernel_rfl;kernel_rfl)) <;> (try (conv=>whnf)))
 all_goals first
  | exact le_of h0 rfl ⟨rfl,rfl,rfl,rfl,trivial⟩ ⟨rfl,rfl,rfl,trivial⟩ rfl rfl rfl
  | exact ret_tmp rfl (congrArg AV.i (chk_err (conE_4 (by omega)) (by decide)))
  | exact ret_tmp rfl (congrArg AV.i (chk_err (conE_11 (by omega) (by omega)) (by decide)))
  | exact ret_tmp rfl (congrArg AV.i (chk_err (conE_72 (by omega) (by omega) (by assumption)) (by decide)))
  | exact ret_tmp rfl (congrArg AV.i (chk_err (conE_73 (by omega) (by omega) (by assumption)) (by decide)))
  | exact ret_tmp rfl (congrArg AV.i (chk_err (conE_74 (by omega) (by omega) (by assumption)) (by decide)))
  | exact ret_tmp rfl (congrArg AV.i (chk_err (conE_74o (by omega) (by omega) hel (by assumption)) (by decide)))
  | exact ret_tmp rfl (congrArg AV.i (chk_err (conE_6 (by omega) (by omega) (by omega) (by omega)) (by decide)))
  | exact ret_tmp rfl (congrArg AV.i (chk_err (conE_6 (by omega) (by omega) (by omega) (by rw [colAt_get hel,lstOf_get hlx];omega)) (by decide)))
  | exact ret_tmp rfl (congrArg AV.i (chk_err (conE_2 (by omega) (by omega) (by omega) (by omega)) (by decide)))
  | (rw [if_pos (conE_01 (s:=s) (c:=c) (by omega) (by omega))];refine loop_i (ι:=Nat) (fun k=>⟨[(2, .ref 0 0),(3, .ref 1 0),(7, .i k)],2,[(0,some (.box (sL s))),(1,some (.box (cndY c)))]⟩) (fun k=>k ≤ c.kids.length ∧ chkL s c.kids = chkL s (c.kids.drop k)) (fun k=>c.kids.length - k) 0 ⟨Nat.zero_le _,rfl⟩ (le_of h0 rfl ⟨rfl,rfl,rfl,trivial⟩ ⟨rfl,rfl,trivial⟩ rfl rfl rfl) (fun k hI=>?_))
  | (rw [if_pos (conE_02 (s:=s) (c:=c) (by omega) (by omega) (by omega) (by rw [colAt_get hel,lstOf_get hlx];omega))];refine loop_i (ι:=Nat) (fun k=>⟨[(2, .ref 0 0),(3, .ref 1 0),(7, .i k)],2,[(0,some (.box (sL s))),(1,some (.box (cndY c)))]⟩) (fun k=>k ≤ c.kids.length ∧ chkL s c.kids = chkL s (c.kids.drop k)) (fun k=>c.kids.length - k) 0 ⟨Nat.zero_le _,rfl⟩ (le_of h0 rfl ⟨rfl,rfl,rfl,trivial⟩ ⟨rfl,rfl,trivial⟩ rfl rfl rfl) (fun k hI=>?_))
  | (rw [if_pos (conE_03 (s:=s) (c:=c) (by omega) (by omega) (by omega) (by omega))];refine loop_i (ι:=Nat) (fun k=>⟨[(2, .ref 0 0),(3, .ref 1 0),(7, .i k)],2,[(0,some (.box (sL s))),(1,some (.box (cndY c)))]⟩) (fun k=>k ≤ c.kids.length ∧ chkL s c.kids = chkL s (c.kids.drop k)) (fun k=>c.kids.length - k) 0 ⟨Nat.zero_le _,rfl⟩ (le_of h0 rfl ⟨rfl,rfl,rfl,trivial⟩ ⟨rfl,rfl,trivial⟩ rfl rfl rfl) (fun k hI=>?_))
  | (rw [if_pos (conE_04 (s:=s) (c:=c) (by omega) (by omega) (by omega) hel (by assumption))];refine loop_i (ι:=Nat) (fun k=>⟨[(2, .ref 0 0),(3, .ref 1 0),(7, .i k)],2,[(0,some (.box (sL s))),(1,some (.box (cndY c)))]⟩) (fun k=>k ≤ c.kids.length ∧ chkL s c.kids = chkL s (c.kids.drop k)) (fun k=>c.kids.length - k) 0 ⟨Nat.zero_le _,rfl⟩ (le_of h0 rfl ⟨rfl,rfl,rfl,trivial⟩ ⟨rfl,rfl,trivial⟩ rfl rfl rfl) (fun k hI=>?_))
 all_goals
  obtain ⟨hk,hI⟩:=hI
  clear hin hkn hlst
  repeat' ((first | (refine call_i (ih _ (List.mem_of_getElem? (by assumption))) ?_) | (refine draw_q ?_ ?_;kernel_rfl) |refine aops_go ?_|refine S1 ?_|refine Z1 ?_|refine Z2 ?_|(refine And.intro ?_ ?_<;>intro h<;>try first|(exfalso;omega)|exact absurd rfl h)|refine Z3 ?_|refine Z4 ?_|intro el hel hbB|intro el hel|intro ex|refine Z5 ?_|(refine free_i ?_ ?_;exact ⟨by kernel_rfl,by decide⟩)|refine allI_c ?_ ?_|exact allI_n|refine allMP_c ?_ ?_|exact allMP_n|(refine many_step ?_ ?_ ?_;kernel_rfl;kernel_rfl)) <;> (try (conv=>whnf)))
 all_goals first
  | exact ret_tmp rfl (congrArg AV.i (by rw [hI,dropc (by assumption),chkL,if_neg (by assumption)]))
  | exact ret_tmp rfl (congrArg AV.i (by rw [hI,drop_end (by assumption)];rfl))
  | exact ⟨k + 1,⟨by omega,by rw [hI,dropc (by assumption),chkL,if_pos (Decidable.of_not_not (by assumption))]⟩,by omega,le_of h0 rfl ⟨rfl,rfl,rfl,trivial⟩ ⟨rfl,rfl,trivial⟩ rfl rfl rfl⟩
end Go.Proofs.YtjmbhlgocikfiaaGreatDoor
namespace Go.Proofs.YtjmbhlgocikfiaaGreatDoor
open Go Go.Av
attribute [local irreducible] AWp AOps AAny MAny DQ retQ retG St.le FCall GCall
set_option maxRecDepth 100000
set_option maxHeartbeats 4000000 in
theorem rccheck_call (s:Sch) (c:Cnd):FCall Tryz.prog 109 [sA s,cndA c] (.i (cndE s c)):=by
 have h1:=rscheck_call s
 have h2:=rccount_call c 41 (by omega) (by omega)
 have h3:(totS c:Int) ≤ 40 → FCall Tryz.prog 145 [cndA c] (.i (depS c)):=fun h=>rdepth_call c (by have:=dep_tot c;omega)
 have h4:=fun hr=>node_call s hr c
 have t1:=rcnt_tot c 41 (by omega)
 rw [cndA_eq] at *
 refine fci Tryz.func109 20 fun hrd E h0=>?_
 clear hrd
 unfold cndE
 repeat' ((first | refine call_i h1 ?_ | refine call_i h2 ?_ | refine call_i (h3 (by omega)) ?_ | refine call_i (h4 (Decidable.of_not_not (by assumption))) ?_ |refine aops_go ?_|refine S1 ?_|refine Z1 ?_|refine Z2 ?_|(refine And.intro ?_ ?_<;>intro h<;>try first|(exfalso;omega)|exact absurd rfl h)|refine Z3 ?_|refine Z4 ?_|intro el hel hbB|intro el hel|intro ex|refine Z5 ?_|(refine free_i ?_ ?_;exact ⟨by kernel_rfl,by decide⟩)|refine allI_c ?_ ?_|exact allI_n|refine allMP_c ?_ ?_|exact allMP_n|(refine many_step ?_ ?_ ?_;kernel_rfl;kernel_rfl)) <;> (try (conv=>whnf)))
 all_goals first
  | exact ret_tmp rfl (congrArg AV.i (by rw [if_neg (by assumption)]))
  | exact ret_tmp rfl (congrArg AV.i (by rw [if_pos (Decidable.of_not_not (by assumption)),if_pos (by omega)]))
  | exact ret_tmp rfl (congrArg AV.i (by rw [if_pos (Decidable.of_not_not (by assumption)),if_neg (by omega),if_pos (by omega)]))
  | exact ret_tmp rfl (congrArg AV.i (by rw [if_pos (Decidable.of_not_not (by assumption)),if_neg (by omega),if_neg (by omega)]))
end Go.Proofs.YtjmbhlgocikfiaaGreatDoor

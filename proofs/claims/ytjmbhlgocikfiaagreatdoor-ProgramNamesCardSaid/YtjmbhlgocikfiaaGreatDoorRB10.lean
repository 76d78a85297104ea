/- Chapter 2: the reference's rows, names, coarse values. Chapter 2: the reference's leaves, blocks, and values that can be. -/
import Derived.Test.YtjmbhlgocikfiaaGreatDoorRB9
import Derived.Test.YtjmbhlgocikfiaaGreatDoorRCd1
set_option linter.unusedVariables false
set_option linter.unnecessarySimpa false
set_option linter.unusedSimpArgs false
namespace Go.Proofs.YtjmbhlgocikfiaaGreatDoor
open Go Go.Av
attribute [local irreducible] AWp AOps AAny MAny DQ retQ retG St.le FCall GCall
set_option maxRecDepth 100000
set_option maxHeartbeats 4000000 in
theorem rfinest_call (s:Sch) (column:Int):FCall Tryz.prog 111 [sA s, .i column] (.i (finestS s column)):=by
 refine fci Tryz.func111 39 fun hrd E h0=>?_
 obtain ⟨hl1,hl2,hl3⟩:=rd_lists (s:=s) (hrd _ (by simp))
 have hlb:=fun (l:CL) (hl:s.lists[(colAt s column).lst.toNat]? = some l)=>levelsS_bd (nm:=l.1) (hl3 l (List.mem_of_getElem? hl))
 clear hrd
 repeat' ((first | refine call_i (rscheck_call s) ?_ |refine aops_go ?_|refine S1 ?_|refine Z1 ?_|refine Z2 ?_|(refine And.intro ?_ ?_<;>intro h<;>try first|(exfalso;omega)|exact absurd rfl h)|refine Z3 ?_|refine Z4 ?_|intro el hel hbB|intro el hel|intro ex|refine Z5 ?_|(refine free_i ?_ ?_;exact ⟨by kernel_rfl,by decide⟩)|refine allI_c ?_ ?_|exact allI_n|refine allMP_c ?_ ?_|exact allMP_n|(refine many_step ?_ ?_ ?_;kernel_rfl;kernel_rfl)) <;> (try (conv=>whnf)))
 all_goals first
  | exact ret_tmp rfl (congrArg AV.i (by rw [finestS,if_neg (by assumption)]))
  | exact ret_tmp rfl (congrArg AV.i (by rw [finestS,if_pos (Classical.byContradiction (by assumption)),finS,if_pos (by omega)]))
  | skip
 all_goals
  have hr:schE s = 0:=Classical.byContradiction (by assumption)
  rw [finestS,if_pos hr]
 repeat' ((first | (refine call_i (rlevels_call _ _ (hl3 _ (List.mem_of_getElem? (by assumption)))) ?_) | (refine each_map ?_ ?_ (fun lx hlx=>?_);(have:=RightS.lst hr (List.mem_of_getElem? hel) (by assumption);omega);(have:=RightS.lst hr (List.mem_of_getElem? hel) (by assumption);omega)) | (refine side_i ?_ ?_;(have:=hlb lx (by rw [colAt_get hel];exact hlx);omega)) |refine aops_go ?_|refine S1 ?_|refine Z1 ?_|refine Z2 ?_|(refine And.intro ?_ ?_<;>intro h<;>try first|(exfalso;omega)|exact absurd rfl h)|refine Z3 ?_|refine Z4 ?_|intro el hel hbB|intro el hel|intro ex|refine Z5 ?_|(refine free_i ?_ ?_;exact ⟨by kernel_rfl,by decide⟩)|refine allI_c ?_ ?_|exact allI_n|refine allMP_c ?_ ?_|exact allMP_n|(refine many_step ?_ ?_ ?_;kernel_rfl;kernel_rfl)) <;> (try (conv=>whnf)))
 all_goals first
  | (refine ret_tmp rfl (congrArg AV.i ?_);rw [finS,if_neg (by omega),colAt_get hel,finC,if_pos (by assumption),lstOf_get hlx];done)
  | (refine ret_tmp rfl (congrArg AV.i ?_);rw [finS,if_neg (by omega),colAt_get hel,finC,if_neg (by assumption)];done)
end Go.Proofs.YtjmbhlgocikfiaaGreatDoor
namespace Go.Proofs.YtjmbhlgocikfiaaGreatDoor
open Go Go.Av
attribute [local irreducible] AWp AOps AAny MAny DQ retQ retG St.le FCall GCall
set_option maxRecDepth 100000
end Go.Proofs.YtjmbhlgocikfiaaGreatDoor

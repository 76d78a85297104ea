/- Chapter 16: the reference's parts of expressions. Chapter 16: the reference's check of expressions. Chapter 16: the reference's Right. -/
import Derived.Test.YtjmbhlgocikfiaaGreatDoorTF1
import Derived.Test.YtjmbhlgocikfiaaGreatDoorTB11
import Derived.Test.YtjmbhlgocikfiaaGreatDoorTCe3
set_option linter.unusedVariables false
set_option linter.unnecessarySimpa false
set_option linter.unusedSimpArgs false
namespace Go.Proofs.YtjmbhlgocikfiaaGreatDoor
open Go Go.Av
attribute [local irreducible] AWp AOps AAny MAny DQ retQ retG St.le FCall GCall
set_option maxRecDepth 100000
set_option maxHeartbeats 4000000 in
theorem is8_call (s:Sch) (col kind:Int):FCall Tryz.prog 106 [sA s, .i col, .i kind] (.b (isB s col kind)):=by
 refine fci Tryz.func106 26 fun hrd E h0=>?_
 clear hrd
 repeat' ((first|refine aops_go ?_|refine S1 ?_|refine Z1 ?_|refine Z2 ?_|(refine And.intro ?_ ?_<;>intro h<;>try first|(exfalso;omega)|exact absurd rfl h)|refine Z3 ?_|refine Z4 ?_|intro el hel hbB|intro el hel|intro ex|refine Z5 ?_|(refine free_i ?_ ?_;exact ⟨by kernel_rfl,by decide⟩)|refine allI_c ?_ ?_|exact allI_n|refine allMP_c ?_ ?_|exact allMP_n|(refine many_step ?_ ?_ ?_;kernel_rfl;kernel_rfl)) <;> (try (conv=>whnf)))
 all_goals first
  | exact ret_tmp rfl (congrArg AV.b (by unfold isB;rw [decide_eq_false (by omega)]))
  | exact ret_tmp rfl (congrArg AV.b (by unfold isB;rw [colAt_get hel,decide_eq_decide];omega))
set_option maxHeartbeats 4000000 in
theorem has1_call (l:List Int) (v:Int):FCall Tryz.prog 110 [.sl 1 (l.map wA), .i v] (.b (l.any fun x=>decide (x = v))):=by
 refine fci Tryz.func110 18 fun hrd E h0=>?_
 have hlen:l.length ≤ 9223372036854775807:=by
  have:=(hrd (.sl 1 (l.map wA)) (by simp)).sl
  simpa using this
 clear hrd
 repeat' ((first|refine aops_go ?_|refine S1 ?_|refine Z1 ?_|refine Z2 ?_|(refine And.intro ?_ ?_<;>intro h<;>try first|(exfalso;omega)|exact absurd rfl h)|refine Z3 ?_|refine Z4 ?_|intro el hel hbB|intro el hel|intro ex|refine Z5 ?_|(refine free_i ?_ ?_;exact ⟨by kernel_rfl,by decide⟩)|refine allI_c ?_ ?_|exact allI_n|refine allMP_c ?_ ?_|exact allMP_n|(refine many_step ?_ ?_ ?_;kernel_rfl;kernel_rfl)) <;> (try (conv=>whnf)))
 refine loop_i (ι:=Nat) (fun k=>⟨[(0, .sl 1 (l.map wA)),(1, .i v),(5, .i k)],0,[]⟩) (fun k=>AnyAt (fun x=>decide (x = v)) l k) (fun k=>l.length - k) 0 (AnyAt.zero _ _)
  (le_of h0 rfl ⟨rfl,rfl,rfl,trivial⟩ trivial rfl rfl rfl) (fun k hI=>?_)
 have hkl:=hI.1
 repeat' ((first | (refine draw_q ?_ ?_;kernel_rfl) |refine aops_go ?_|refine S1 ?_|refine Z1 ?_|refine Z2 ?_|(refine And.intro ?_ ?_<;>intro h<;>try first|(exfalso;omega)|exact absurd rfl h)|refine Z3 ?_|refine Z4 ?_|intro el hel hbB|intro el hel|intro ex|refine Z5 ?_|(refine free_i ?_ ?_;exact ⟨by kernel_rfl,by decide⟩)|refine allI_c ?_ ?_|exact allI_n|refine allMP_c ?_ ?_|exact allMP_n|(refine many_step ?_ ?_ ?_;kernel_rfl;kernel_rfl)) <;> (try (conv=>whnf)))
 all_goals first
  | exact ret_tmp rfl (congrArg AV.b (hI.hit hel (by rw [decide_eq_true_iff];assumption)))
  | exact ret_tmp rfl (congrArg AV.b (hI.done (by assumption)))
  | exact ⟨k + 1,hI.step hel (by rw [decide_eq_false_iff_not];assumption),by omega,le_of h0 rfl ⟨rfl,rfl,rfl,trivial⟩ trivial rfl rfl rfl⟩
theorem has1_take (l:List Int) (k:Nat) (v:Int):FCall Tryz.prog 110 [.sl 1 ((l.map wA).take k), .i v] (.b ((l.take k).any fun x=>decide (x = v))):=by
 have h:=has1_call (l.take k) v
 rw [List.map_take] at h
 exact h
theorem pick_col2 {s:Sch} {p:Pk} (h:pickE s p = 0):0 ≤ p.col ∧ p.col < s.cols.length:=by
 unfold pickE pkE finS at h
 by_cases hc:p.col < 1 ∨ (s.cols.length:Int) ≤ p.col
 ·rw [if_pos hc] at h
  split at h
  ·rw [if_pos (show (-1:Int) < 0 by omega)] at h
   omega
  ·exact absurd h (by assumption)
 ·omega
set_option maxHeartbeats 8000000 in
theorem rdims_call (s:Sch) (l:List Pk):FCall Tryz.prog 107 [sA s, .sl 2 (l.map pkL)] (.i (dimsE s l)):=by
 have hp:=fun d=>rpick_call s d
 have hi:=fun c=>is8_call s c 2
 unfold dimsE
 refine fci Tryz.func107 55 fun hrd E h0=>?_
 have hlen:l.length ≤ 9223372036854775807:=by
  have:=(hrd (.sl 2 (l.map pkL)) (by simp)).sl
  simpa using this
 clear hrd
 repeat' ((first|refine aops_go ?_|refine S1 ?_|refine Z1 ?_|refine Z2 ?_|(refine And.intro ?_ ?_<;>intro h<;>try first|(exfalso;omega)|exact absurd rfl h)|refine Z3 ?_|refine Z4 ?_|intro el hel hbB|intro el hel|intro ex|refine Z5 ?_|(refine free_i ?_ ?_;exact ⟨by kernel_rfl,by decide⟩)|refine allI_c ?_ ?_|exact allI_n|refine allMP_c ?_ ?_|exact allMP_n|(refine many_step ?_ ?_ ?_;kernel_rfl;kernel_rfl)) <;> (try (conv=>whnf)))
 all_goals first
  | (rw [if_pos (by omega)];exact ret_tmp rfl rfl)
  | skip
 rw [if_neg (by omega)]
 refine loop_i (ι:=Nat) (fun k=>⟨[(1, .sl 2 (l.map pkL)),(2, .ref 0 0),(5, .i k)],1,[(0,some (.box (sL s)))]⟩) (fun k=>ErrAt (dimE s l) l k) (fun k=>l.length - k) 0 (ErrAt.zero _ _)
  (le_of h0 rfl ⟨rfl,rfl,rfl,trivial⟩ ⟨rfl,trivial⟩ rfl rfl rfl) (fun k hI=>?_)
 have hkl:=hI.1
 by_cases hlt:k < l.length
 ·obtain ⟨d,hd⟩:∃ d,l[k]? = some d:=⟨_,List.getElem?_eq_getElem hlt⟩
  have h1:=hp d
  have h2:=hi d.col
  have hno:∀ e:Int,dimE s l k d = e → ¬ e = 0 → e = firstE (dimE s l) 0 l:=fun e h3 h4=>by rw [← h3];exact hI.hit hd (by rw [h3];exact h4)
  have hye:dimE s l k d = 0 → ErrAt (dimE s l) l (k + 1):=fun h=>hI.step hd h
  unfold dimE at hno hye
  by_cases hpe:pickE s d = 0
  ·obtain ⟨hc0,hc1⟩:=pick_col2 hpe
   rw [hpe] at h1
   by_cases hk2:(colAt s d.col).kind = 2
   ·rw [show isB s d.col 2 = true by unfold isB;rw [decide_eq_true_iff];exact ⟨hc0,hc1,hk2⟩] at h2
    repeat' ((first | (refine each_knownm (x:=d) hd (by omega) ?_) | refine call_i h1 ?_ | refine call_i h2 ?_ | (refine draw_q ?_ ?_;kernel_rfl) |refine aops_go ?_|refine S1 ?_|refine Z1 ?_|refine Z2 ?_|(refine And.intro ?_ ?_<;>intro h<;>try first|(exfalso;omega)|exact absurd rfl h)|refine Z3 ?_|refine Z4 ?_|intro el hel hbB|intro el hel|intro ex|refine Z5 ?_|(refine free_i ?_ ?_;exact ⟨by kernel_rfl,by decide⟩)|refine allI_c ?_ ?_|exact allI_n|refine allMP_c ?_ ?_|exact allMP_n|(refine many_step ?_ ?_ ?_;kernel_rfl;kernel_rfl)) <;> (try (conv=>whnf)))
    all_goals first
     | (exfalso;omega)
     | skip
    refine loop_i (ι:=Nat) (fun j=>⟨[(1, .sl 2 (l.map pkL)),(2, .ref 0 0),(5, .i k),(7, .i j)],1,[(0,some (.box (sL s)))]⟩) (fun j=>j ≤ k ∧ AnyAt (fun x=>decide (x.col = d.col)) (l.take k) j) (fun j=>k - j) 0 ⟨Nat.zero_le _,AnyAt.zero _ _⟩
     (le_of h0 rfl ⟨rfl,rfl,rfl,rfl,trivial⟩ ⟨rfl,trivial⟩ rfl rfl rfl) (fun j hJ=>?_)
    obtain ⟨hj,hJ⟩:=hJ
    have htl:(l.take k).length = k:=by rw [List.length_take];omega
    repeat' ((first | (refine each_knownm (x:=d) hd (by omega) ?_) | (refine draw_q ?_ ?_;kernel_rfl) |refine aops_go ?_|refine S1 ?_|refine Z1 ?_|refine Z2 ?_|(refine And.intro ?_ ?_<;>intro h<;>try first|(exfalso;omega)|exact absurd rfl h)|refine Z3 ?_|refine Z4 ?_|intro el hel hbB|intro el hel|intro ex|refine Z5 ?_|(refine free_i ?_ ?_;exact ⟨by kernel_rfl,by decide⟩)|refine allI_c ?_ ?_|exact allI_n|refine allMP_c ?_ ?_|exact allMP_n|(refine many_step ?_ ?_ ?_;kernel_rfl;kernel_rfl)) <;> (try (conv=>whnf)))
    all_goals first
     | exact ret_tmp rfl (congrArg AV.i (hno 10 (by rw [if_neg (by omega),if_neg (by omega),if_pos (hJ.hit (x:=el) (by rw [List.getElem?_take,if_pos (by omega)];exact hel) (decide_eq_true (by assumption))).symm]) (by omega)))
     | exact ⟨j + 1,⟨by omega,hJ.step (x:=el) (by rw [List.getElem?_take,if_pos (by omega)];exact hel) (decide_eq_false (by assumption))⟩,by omega,le_of h0 rfl ⟨rfl,rfl,rfl,rfl,trivial⟩ ⟨rfl,trivial⟩ rfl rfl rfl⟩
     | exact ⟨k + 1,hye (by rw [if_neg (by omega),if_neg (by omega),if_neg (by rw [← hJ.done (by rw [htl];assumption)];exact Bool.false_ne_true)]),by omega,le_of h0 rfl ⟨rfl,rfl,rfl,trivial⟩ ⟨rfl,trivial⟩ rfl rfl rfl⟩
   ·rw [show isB s d.col 2 = false by unfold isB;rw [decide_eq_false_iff_not];omega] at h2
    repeat' ((first | (refine each_knownm (x:=d) hd (by omega) ?_) | refine call_i h1 ?_ | refine call_i h2 ?_ | (refine draw_q ?_ ?_;kernel_rfl) |refine aops_go ?_|refine S1 ?_|refine Z1 ?_|refine Z2 ?_|(refine And.intro ?_ ?_<;>intro h<;>try first|(exfalso;omega)|exact absurd rfl h)|refine Z3 ?_|refine Z4 ?_|intro el hel hbB|intro el hel|intro ex|refine Z5 ?_|(refine free_i ?_ ?_;exact ⟨by kernel_rfl,by decide⟩)|refine allI_c ?_ ?_|exact allI_n|refine allMP_c ?_ ?_|exact allMP_n|(refine many_step ?_ ?_ ?_;kernel_rfl;kernel_rfl)) <;> (try (conv=>whnf)))
    all_goals first
     | (exfalso;omega)
     | exact ret_tmp rfl (congrArg AV.i (hno 7 (by rw [if_neg (by omega),if_pos (by omega)]) (by omega)))
  ·repeat' ((first | (refine each_knownm (x:=d) hd (by omega) ?_) | refine call_i h1 ?_ | refine call_i h2 ?_ | (refine draw_q ?_ ?_;kernel_rfl) |refine aops_go ?_|refine S1 ?_|refine Z1 ?_|refine Z2 ?_|(refine And.intro ?_ ?_<;>intro h<;>try first|(exfalso;omega)|exact absurd rfl h)|refine Z3 ?_|refine Z4 ?_|intro el hel hbB|intro el hel|intro ex|refine Z5 ?_|(refine free_i ?_ ?_;exact ⟨by kernel_rfl,by decide⟩)|refine allI_c ?_ ?_|exact allI_n|refine allMP_c ?_ ?_|exact allMP_n|(refine many_step ?_ ?_ ?_;kernel_rfl;kernel_rfl)) <;> (try (conv=>whnf)))
   all_goals first
    | (exfalso;omega)
    | exact ret_tmp rfl (congrArg AV.i (hno (pickE s d) (by rw [if_pos (by omega)]) hpe))
 ·repeat' ((first|refine aops_go ?_|refine S1 ?_|refine Z1 ?_|refine Z2 ?_|(refine And.intro ?_ ?_<;>intro h<;>try first|(exfalso;omega)|exact absurd rfl h)|refine Z3 ?_|refine Z4 ?_|intro el hel hbB|intro el hel|intro ex|refine Z5 ?_|(refine free_i ?_ ?_;exact ⟨by kernel_rfl,by decide⟩)|refine allI_c ?_ ?_|exact allI_n|refine allMP_c ?_ ?_|exact allMP_n|(refine many_step ?_ ?_ ?_;kernel_rfl;kernel_rfl)) <;> (try (conv=>whnf)))
  all_goals first
   | (exfalso;omega)
   | exact ret_tmp rfl (congrArg AV.i (hI.done (by omega)).symm)
set_option maxHeartbeats 8000000 in
theorem rterms_call (s:Sch) (m:Int) (l:List Int):FCall Tryz.prog 108 [sA s, .i m, .sl 1 (l.map wA)] (.i (trmsE s m l)):=by
 have hi:=fun c=>is8_call s c 3
 unfold trmsE
 refine fci Tryz.func108 45 fun hrd E h0=>?_
 have hlen:l.length ≤ 9223372036854775807:=by
  have:=(hrd (.sl 1 (l.map wA)) (by simp)).sl
  simpa using this
 clear hrd
 repeat' ((first|refine aops_go ?_|refine S1 ?_|refine Z1 ?_|refine Z2 ?_|(refine And.intro ?_ ?_<;>intro h<;>try first|(exfalso;omega)|exact absurd rfl h)|refine Z3 ?_|refine Z4 ?_|intro el hel hbB|intro el hel|intro ex|refine Z5 ?_|(refine free_i ?_ ?_;exact ⟨by kernel_rfl,by decide⟩)|refine allI_c ?_ ?_|exact allI_n|refine allMP_c ?_ ?_|exact allMP_n|(refine many_step ?_ ?_ ?_;kernel_rfl;kernel_rfl)) <;> (try (conv=>whnf)))
 all_goals first
  | (rw [if_pos (by omega)];exact ret_tmp rfl rfl)
  | skip
 rw [if_neg (by omega)]
 refine loop_i (ι:=Nat) (fun k=>⟨[(1, .i m),(2, .sl 1 (l.map wA)),(3, .ref 0 0),(7, .i k)],1,[(0,some (.box (sL s)))]⟩) (fun k=>ErrAt (trmE s m l) l k) (fun k=>l.length - k) 0 (ErrAt.zero _ _)
  (le_of h0 rfl ⟨rfl,rfl,rfl,rfl,trivial⟩ ⟨rfl,trivial⟩ rfl rfl rfl) (fun k hI=>?_)
 have hkl:=hI.1
 by_cases hlt:k < l.length
 ·obtain ⟨c,hc⟩:∃ c,l[k]? = some c:=⟨_,List.getElem?_eq_getElem hlt⟩
  have h1:=hi c
  have h2:=has1_take l k c
  have hno:∀ e:Int,trmE s m l k c = e → ¬ e = 0 → e = firstE (trmE s m l) 0 l:=fun e h3 h4=>by rw [← h3];exact hI.hit hc (by rw [h3];exact h4)
  have hye:trmE s m l k c = 0 → ErrAt (trmE s m l) l (k + 1):=fun h=>hI.step hc h
  unfold trmE at hno hye
  generalize isB s c 3 = b at *
  generalize ((l.take k).any fun x=>decide (x = c)) = u at *
  repeat' ((first | (refine each_knownm (x:=c) hc (by omega) ?_) | refine call_i h1 ?_ | refine call_i h2 ?_ | (refine draw_q ?_ ?_;kernel_rfl) |refine aops_go ?_|refine S1 ?_|refine Z1 ?_|refine Z2 ?_|(refine And.intro ?_ ?_<;>intro h<;>try first|(exfalso;omega)|exact absurd rfl h)|refine Z3 ?_|refine Z4 ?_|intro el hel hbB|intro el hel|intro ex|refine Z5 ?_|(refine free_i ?_ ?_;exact ⟨by kernel_rfl,by decide⟩)|refine allI_c ?_ ?_|exact allI_n|refine allMP_c ?_ ?_|exact allMP_n|(refine many_step ?_ ?_ ?_;kernel_rfl;kernel_rfl)) <;> (try (conv=>whnf)))
  all_goals first
   | exact ret_tmp rfl (congrArg AV.i (hno 7 (by rw [if_pos (by assumption)]) (by omega)))
   | exact ret_tmp rfl (congrArg AV.i (hno 10 (by rw [if_neg (by simp [*]),if_pos (.inl (by assumption))]) (by omega)))
   | exact ret_tmp rfl (congrArg AV.i (hno 10 (by rw [if_neg (by simp [*]),if_pos (.inr (by assumption))]) (by omega)))
   | exact ⟨k + 1,hye (by rw [if_neg (by simp [*]),if_neg (by simp [*])]),by omega,le_of h0 rfl ⟨rfl,rfl,rfl,rfl,trivial⟩ ⟨rfl,trivial⟩ rfl rfl rfl⟩
   | (exfalso;omega)
 ·repeat' ((first|refine aops_go ?_|refine S1 ?_|refine Z1 ?_|refine Z2 ?_|(refine And.intro ?_ ?_<;>intro h<;>try first|(exfalso;omega)|exact absurd rfl h)|refine Z3 ?_|refine Z4 ?_|intro el hel hbB|intro el hel|intro ex|refine Z5 ?_|(refine free_i ?_ ?_;exact ⟨by kernel_rfl,by decide⟩)|refine allI_c ?_ ?_|exact allI_n|refine allMP_c ?_ ?_|exact allMP_n|(refine many_step ?_ ?_ ?_;kernel_rfl;kernel_rfl)) <;> (try (conv=>whnf)))
  all_goals first
   | (exfalso;omega)
   | exact ret_tmp rfl (congrArg AV.i (hI.done (by omega)).symm)
set_option maxHeartbeats 4000000 in
theorem same0_call (c:Cnd):FCall Tryz.prog 83 [cndA c, .agg [.i 0, .i 0, .i 0, .i 0, .i 0, .v (.slice none 0 0)]] (.b (decide (empP c))):=by
 rw [cndA_eq]
 refine fci Tryz.func83 67 fun hrd E h0=>?_
 have hlen:c.kids.length ≤ 9223372036854775807:=by
  have:=((hrd _ (List.mem_cons_self ..)).agg (.sl 6 (c.kids.map cndX)) (by simp)).sl
  simpa using this
 clear hrd
 repeat' ((first | (refine draw_q ?_ ?_;kernel_rfl) |refine aops_go ?_|refine S1 ?_|refine Z1 ?_|refine Z2 ?_|(refine And.intro ?_ ?_<;>intro h<;>try first|(exfalso;omega)|exact absurd rfl h)|refine Z3 ?_|refine Z4 ?_|intro el hel hbB|intro el hel|intro ex|refine Z5 ?_|(refine free_i ?_ ?_;exact ⟨by kernel_rfl,by decide⟩)|refine allI_c ?_ ?_|exact allI_n|refine allMP_c ?_ ?_|exact allMP_n|(refine many_step ?_ ?_ ?_;kernel_rfl;kernel_rfl)) <;> (try (conv=>whnf)))
 all_goals first
  | exact ret_tmp rfl (congrArg AV.b (decide_eq_false (by omega)).symm)
  | skip
 refine loop_i (ι:=Nat) (fun k=>⟨[(2, .ref 0 0),(5, .i k)],1,[(0,some (.box (cndY c)))]⟩) (fun k=>k = 0) (fun k=>1 - k) 0 rfl
  (le_of h0 rfl ⟨rfl,rfl,trivial⟩ ⟨rfl,trivial⟩ rfl rfl rfl) (fun k hk=>?_)
 subst hk
 repeat' ((first|refine aops_go ?_|refine S1 ?_|refine Z1 ?_|refine Z2 ?_|(refine And.intro ?_ ?_<;>intro h<;>try first|(exfalso;omega)|exact absurd rfl h)|refine Z3 ?_|refine Z4 ?_|intro el hel hbB|intro el hel|intro ex|refine Z5 ?_|(refine free_i ?_ ?_;exact ⟨by kernel_rfl,by decide⟩)|refine allI_c ?_ ?_|exact allI_n|refine allMP_c ?_ ?_|exact allMP_n|(refine many_step ?_ ?_ ?_;kernel_rfl;kernel_rfl)) <;> (try (conv=>whnf)))
 all_goals first
  | exact ret_tmp rfl (congrArg AV.b (decide_eq_true (by omega)).symm)
  | (exfalso;omega)
theorem zero16_call (c:Cnd):FCall Tryz.prog 142 [cndA c] (.b (decide (empP c))):=by
 have h:=same0_call c
 refine fci Tryz.func142 6 fun hrd E h0=>?_
 clear hrd
 repeat' ((first | refine call_i h ?_ |refine aops_go ?_|refine S1 ?_|refine Z1 ?_|refine Z2 ?_|(refine And.intro ?_ ?_<;>intro h<;>try first|(exfalso;omega)|exact absurd rfl h)|refine Z3 ?_|refine Z4 ?_|intro el hel hbB|intro el hel|intro ex|refine Z5 ?_|(refine free_i ?_ ?_;exact ⟨by kernel_rfl,by decide⟩)|refine allI_c ?_ ?_|exact allI_n|refine allMP_c ?_ ?_|exact allMP_n|(refine many_step ?_ ?_ ?_;kernel_rfl;kernel_rfl)) <;> (try (conv=>whnf)))
 all_goals first
  | exact ret_tmp rfl rfl
end Go.Proofs.YtjmbhlgocikfiaaGreatDoor
namespace Go.Proofs.YtjmbhlgocikfiaaGreatDoor
open Go Go.Av
attribute [local irreducible] AWp AOps AAny MAny DQ retQ retG St.le FCall GCall
set_option maxRecDepth 100000
abbrev unuO (e:Xpr):Prop:=(1 ≤ e.op ∧ e.op ≤ 14) ∧ (usNum e.op ∨ e.num = 0) ∧ (usName e.op ∨ e.name.length = 0) ∧ (usCol e.op ∨ e.col = 0) ∧ (usCols e.op ∨ e.cols.length = 0) ∧ (usDims e.op ∨ e.dims.length = 0) ∧ (usCnd e.op ∨ empP e.cnd) ∧ (usEvt e.op ∨ empP e.evt)
abbrev own0 (e:Xpr):List AV:=[.i e.op, .i 0, .str [], .i 0, .v (.slice none 0 0), .v (.slice none 0 0), .i 0, .i 0, .i 0, .i 0, .i 0, .v (.slice none 0 0), .i 0, .i 0, .i 0, .i 0, .i 0, .v (.slice none 0 0), .v (.slice none 0 0)]
theorem nil_str (l:List UInt8):(({ data:=#[] }:ByteArray).data.toList = l) ↔ l.length = 0:=by
 constructor
 ·intro h;rw [← h];rfl
 ·intro h;rw [List.eq_nil_of_length_eq_zero h]
theorem nil_str2 (l:List UInt8):((#[]:Array UInt8).toList = l) ↔ l.length = 0:=nil_str l
theorem nil_str3 (l:List UInt8):(([]:List UInt8) = l) ↔ l.length = 0:=nil_str l
set_option maxHeartbeats 16000000 in
theorem ownX_call (e:Xpr):FCall Tryz.prog 105 [xprA e] (.b (decide (unuO e))):=by
 have h1:=zero16_call e.cnd
 have h2:=zero16_call e.evt
 rw [xprA_eq]
 refine fci Tryz.func105 117 fun hrd E h0=>?_
 clear hrd
 repeat' ((first | refine call_i h1 ?_ | refine call_i h2 ?_ | (refine draw_id 20 ?_;refine draw_m (id:=20) ⟨[(1, .ref 0 0),(3, .ref 1 0),(4, .b true),(5, .b false)],2,[(0,some (.box (xprY e))),(1,some (.box (((own0 e).set 3 (.i e.col)).set 5 (.sl 2 (e.dims.map pkL)))))]⟩ ?_ ?_) | (refine draw_id 22 ?_;refine draw_m (id:=22) ⟨[(1, .ref 0 0),(3, .ref 1 0),(4, .b true),(5, .b false)],2,[(0,some (.box (xprY e))),(1,some (.box (((own0 e).set 3 (.i e.col)).set 4 (.sl 1 (e.cols.map wA)))))]⟩ ?_ ?_) | (refine draw_id 26 ?_;refine draw_m (id:=26) ⟨[(1, .ref 0 0),(3, .ref 1 0),(4, .b true),(5, .b false)],2,[(0,some (.box (xprY e))),(1,some (.box (((own0 e).set 3 (.i e.col)).set 1 (.i e.num))))]⟩ ?_ ?_) |refine aops_go ?_|refine S1 ?_|refine Z1 ?_|refine Z2 ?_|(refine And.intro ?_ ?_<;>intro h<;>try first|(exfalso;omega)|exact absurd rfl h)|refine Z3 ?_|refine Z4 ?_|intro el hel hbB|intro el hel|intro ex|refine Z5 ?_|(refine free_i ?_ ?_;exact ⟨by kernel_rfl,by decide⟩)|refine allI_c ?_ ?_|exact allI_n|refine allMP_c ?_ ?_|exact allMP_n|(refine many_step ?_ ?_ ?_;kernel_rfl;kernel_rfl)) <;> (try (conv=>whnf)))
 all_goals first
  | exact le_of h0 rfl ⟨rfl,rfl,rfl,rfl,trivial⟩ ⟨rfl,rfl,trivial⟩ rfl rfl rfl
  | skip
 all_goals first
  | exact ret_tmp rfl (congrArg AV.b (decide_eq_true (by (clear h1 h2;simp only [usNum,usName,usCol,usCols,usDims,usCnd,usEvt,pairP,unuO,empP,nil_str,nil_str2,nil_str3, ← List.length_eq_zero_iff] at *;omega))).symm)
  | exact ret_tmp rfl (congrArg AV.b (decide_eq_false (by (clear h1 h2;simp only [usNum,usName,usCol,usCols,usDims,usCnd,usEvt,pairP,unuO,empP,nil_str,nil_str2,nil_str3, ← List.length_eq_zero_iff] at *;omega))).symm)
  | exact ret_tmp rfl (congrArg AV.b (by rw [decide_eq_decide];(clear h1 h2;simp only [usNum,usName,usCol,usCols,usDims,usCnd,usEvt,pairP,unuO,empP,nil_str,nil_str2,nil_str3, ← List.length_eq_zero_iff] at *;omega)))
abbrev badR (s:Sch) (k:Xpr):Bool:=decide (10 ≤ k.op) || !rigX s k
theorem badR_eq {s:Sch} (hr:schE s = 0) (k:Xpr):badR s k = badK s k:=by
 have hx:rigX s k = rigS s k:=by unfold rigX;rw [decide_eq_true hr,Bool.true_and]
 unfold badR badK
 rw [hx]
 cases h:rigS s k with
 | false=>simp
 | true =>
  rw [rigS_eq] at h
  simp only [Bool.and_eq_true,oneX] at h
  have:=of_decide_eq_true h.1.1.1.1.1.1
  rw [Bool.not_true,Bool.or_false,Bool.or_false]
  by_cases h2:10 ≤ k.op
  ·rw [decide_eq_true h2,decide_eq_false (by omega)];rfl
  ·rw [decide_eq_false h2,decide_eq_true (by omega)];rfl
theorem rig_no {s:Sch} {e:Xpr} (h:¬ (schE s = 0 ∧ unuO e)):false = rigX s e:=by
 unfold rigX
 rw [rigS_eq]
 unfold oneX
 rw [eq_comm]
 by_cases hr:schE s = 0
 ·have:¬ ((1 ≤ e.op ∧ e.op ≤ 14) ∧ unuX e):=by
   intro hh
   exact h ⟨hr,hh.1,hh.2.1,hh.2.2.1,hh.2.2.2.1,hh.2.2.2.2.1,hh.2.2.2.2.2.1,hh.2.2.2.2.2.2.1,hh.2.2.2.2.2.2.2.1⟩
  by_cases h1:1 ≤ e.op ∧ e.op ≤ 14
  ·rw [decide_eq_false (p:=unuX e) (fun h2=>this ⟨h1,h2⟩)];simp
  ·rw [decide_eq_false h1];simp
 ·rw [decide_eq_false hr];rfl
theorem rig_kids {s:Sch} {e:Xpr} (h:(pairP e.op ∧ e.kids.length ≠ 2) ∨ (¬ pairP e.op ∧ e.kids.length ≠ 0)):false = rigX s e:=by
 unfold rigX
 rw [rigS_eq]
 unfold oneX
 rcases h with ⟨h1,h2⟩ | ⟨h1,h2⟩
 ·rw [decide_eq_false (p:=¬ pairP e.op) (fun hn=>hn h1),decide_eq_false h2];simp
 ·rw [decide_eq_false (p:=unuX e) (fun hu=>by have:=hu.2.2.2.2.2.2.2;exact this.elim h1 h2)];simp
theorem rig_bad {s:Sch} {e:Xpr} (h:e.kids.any (badK s) = true):false = rigX s e:=by
 unfold rigX
 rw [rigS_eq,h];simp
theorem rig_of {s:Sch} {e:Xpr} (hr:schE s = 0) (h1:unuO e) (h2:(pairP e.op ∧ e.kids.length = 2) ∨ (¬ pairP e.op ∧ e.kids.length = 0)) (h3:e.kids.any (badK s) = false):rigX s e = (parB s e && (decide (¬ usCnd e.op) || decide (cndE s e.cnd = 0)) && (decide (¬ usEvt e.op) || decide (cndE s e.evt = 0))):=by
 have hu:unuX e:=⟨h1.2.1,h1.2.2.1,h1.2.2.2.1,h1.2.2.2.2.1,h1.2.2.2.2.2.1,h1.2.2.2.2.2.2.1,h1.2.2.2.2.2.2.2,by rcases h2 with h | h;exact .inl h.1;exact .inr h.2⟩
 have hk:(decide (¬ pairP e.op) || decide (e.kids.length = 2)) = true:=by
  rcases h2 with ⟨h,h'⟩ | ⟨h,_⟩
  ·rw [decide_eq_true h'];simp
  ·rw [decide_eq_true h];rfl
 unfold rigX
 rw [rigS_eq,h3]
 unfold oneX
 rw [decide_eq_true hr,decide_eq_true h1.1,decide_eq_true hu,hk]
 simp
set_option maxHeartbeats 16000000 in
theorem rright_call (s:Sch) (e:Xpr):FCall Tryz.prog 65 [sA s,xprA e] (.b (rigX s e)):=by
 refine xpr_ind (p:=fun e=>FCall Tryz.prog 65 [sA s,xprA e] (.b (rigX s e))) (fun e ih=>?_) e
 have h1:=rscheck_call s
 have h2:=ownX_call e
 have h3:=is8_call s e.col 3
 have h4:=rname_call e.name
 have h5:=rdims_call s e.dims
 have h6:=rterms_call s e.col e.cols
 have h7:=rccheck_call s e.evt
 have h8:=rccheck_call s e.cnd
 have hno:=rig_no (s:=s) (e:=e)
 have hki:=rig_kids (s:=s) (e:=e)
 have hba:=rig_bad (s:=s) (e:=e)
 have hof:=rig_of (s:=s) (e:=e)
 obtain ⟨c,hcx⟩:∃ c,isB s e.col 3 = true → 0 ≤ e.col ∧ s.cols[e.col.toNat]? = some c:=by
  by_cases hB:isB s e.col 3 = true
  ·obtain ⟨hb0,hb1,_⟩:0 ≤ e.col ∧ e.col < s.cols.length ∧ (colAt s e.col).kind = 3:=by simpa [isB] using hB
   exact ⟨s.cols[e.col.toNat]'(by omega),fun _=>⟨hb0,List.getElem?_eq_getElem (by omega)⟩⟩
  ·exact ⟨⟨[],0,0,0,0,[],false⟩,fun h=>absurd h hB⟩
 have hca:isB s e.col 3 = true → colAt s e.col = c:=fun h=>colAt_get (hcx h).2
 have h9:=has1_call c.widths e.num
 have hbr:∀ hr:schE s = 0,badR s = badK s:=fun hr=>funext fun k=>badR_eq hr k
 unfold parB at hof
 rw [xprA_eq] at h2 ⊢
 generalize isB s e.col 3 = b at *
 generalize nameB e.name = b1 at *
 generalize dimsE s e.dims = n1 at *
 generalize trmsE s e.col e.cols = n2 at *
 generalize cndE s e.cnd = n3 at *
 generalize cndE s e.evt = n4 at *
 refine fci Tryz.func65 152 fun hrd E h0=>?_
 have hlen:e.kids.length ≤ 9223372036854775807:=by
  have:=((hrd _ (List.mem_cons_of_mem _ (List.mem_cons_self ..))).agg (.sl 19 (e.kids.map xprX)) (by simp)).sl
  simpa using this
 clear hrd
 repeat' ((first | refine call_i h1 ?_ | refine call_i h2 ?_ |refine aops_go ?_|refine S1 ?_|refine Z1 ?_|refine Z2 ?_|(refine And.intro ?_ ?_<;>intro h<;>try first|(exfalso;omega)|exact absurd rfl h)|refine Z3 ?_|refine Z4 ?_|intro el hel hbB|intro el hel|intro ex|refine Z5 ?_|(refine free_i ?_ ?_;exact ⟨by kernel_rfl,by decide⟩)|refine allI_c ?_ ?_|exact allI_n|refine allMP_c ?_ ?_|exact allMP_n|(refine many_step ?_ ?_ ?_;kernel_rfl;kernel_rfl)) <;> (try (conv=>whnf)))
 all_goals first
  | exact ret_tmp rfl (congrArg AV.b (hno (fun hh=>by first | exact absurd hh.1 (by assumption) | exact absurd hh.2 (by assumption))))
  | exact ret_tmp rfl (congrArg AV.b (hki (by simp only [pairP];omega)))
  | skip
 all_goals
  obtain ⟨hr,hu,hkk,hbk⟩:schE s = 0 ∧ unuO e ∧ ((pairP e.op ∧ e.kids.length = 2) ∨ (¬ pairP e.op ∧ e.kids.length = 0)) ∧ badR s = badK s:=⟨Decidable.of_not_not (by assumption),by assumption,by simp only [pairP];omega,hbr (Decidable.of_not_not (by assumption))⟩
  replace hof:=hof hr hu hkk
  rw [← hbk] at hba hof
  obtain ⟨kn,hkn⟩:∃ kn:Int,(pairP e.op ∧ kn = 2) ∨ (¬ pairP e.op ∧ kn = 0):=by
   rcases hkk with ⟨h,_⟩ | ⟨h,_⟩
   ·exact ⟨2, .inl ⟨h,rfl⟩⟩
   ·exact ⟨0, .inr ⟨h,rfl⟩⟩
  simp only [pairP] at hkn
  refine loop_i (ι:=Nat) (fun k=>⟨[(2, .ref 0 0),(3, .ref 1 0),(5, .i kn),(6, .i k)],2,[(0,some (.box (sL s))),(1,some (.box (xprY e)))]⟩) (fun k=>AnyAt (badR s) e.kids k) (fun k=>e.kids.length - k) 0 (AnyAt.zero _ _)
   (le_of h0 rfl ⟨rfl,rfl,(congrArg (fun z:Int=>some (AV.i z)) (by omega)),rfl,trivial⟩ ⟨rfl,rfl,trivial⟩ rfl rfl rfl) (fun k hI=>?_)
  clear hno hki h1 h2
  have hkl:=hI.1
  by_cases hlt:k < e.kids.length
  ·obtain ⟨x,hx⟩:∃ x,e.kids[k]? = some x:=⟨_,List.getElem?_eq_getElem hlt⟩
   have hq:=ih x (List.mem_of_getElem? hx)
   have hst:=fun h=>hI.step hx h
   have hht:=fun h=>hI.hit hx h
   unfold badR at hst hht
   generalize rigX s x = bx at *
   repeat' ((first | (refine each_knownm (x:=x) hx (by omega) ?_) | refine call_i hq ?_ | (refine draw_q ?_ ?_;kernel_rfl) |refine aops_go ?_|refine S1 ?_|refine Z1 ?_|refine Z2 ?_|(refine And.intro ?_ ?_<;>intro h<;>try first|(exfalso;omega)|exact absurd rfl h)|refine Z3 ?_|refine Z4 ?_|intro el hel hbB|intro el hel|intro ex|refine Z5 ?_|(refine free_i ?_ ?_;exact ⟨by kernel_rfl,by decide⟩)|refine allI_c ?_ ?_|exact allI_n|refine allMP_c ?_ ?_|exact allMP_n|(refine many_step ?_ ?_ ?_;kernel_rfl;kernel_rfl)) <;> (try (conv=>whnf)))
   all_goals first
    | (exfalso;omega)
    | exact ret_tmp rfl (congrArg AV.b (hba (hht (by simp [*])).symm))
    | exact ⟨k + 1,hst (by simp [*];try omega),by omega,le_of h0 rfl ⟨rfl,rfl,rfl,rfl,trivial⟩ ⟨rfl,rfl,trivial⟩ rfl rfl rfl⟩
  ·have hof2:=hof (hI.done (by omega)).symm
   clear ih hba hof
   rw [hof2]
   repeat' ((first | (refine each_knownm (x:=c) (hcx (by assumption)).2 (by have:=(hcx (by assumption)).1;omega) ?_) | refine call_i h3 ?_ | refine call_i h4 ?_ | refine call_i h5 ?_ | refine call_i h6 ?_ | refine call_i h7 ?_ | refine call_i h8 ?_ | refine call_i h9 ?_ | (refine draw_q ?_ ?_;kernel_rfl) |refine aops_go ?_|refine S1 ?_|refine Z1 ?_|refine Z2 ?_|(refine And.intro ?_ ?_<;>intro h<;>try first|(exfalso;omega)|exact absurd rfl h)|refine Z3 ?_|refine Z4 ?_|intro el hel hbB|intro el hel|intro ex|refine Z5 ?_|(refine free_i ?_ ?_;exact ⟨by kernel_rfl,by decide⟩)|refine allI_c ?_ ?_|exact allI_n|refine allMP_c ?_ ?_|exact allMP_n|(refine many_step ?_ ?_ ?_;kernel_rfl;kernel_rfl)) <;> (try (conv=>whnf)))
   all_goals clear hof2 h3 h4 h5 h6 h7 h8 h9 hI hbk hlt hkl hbr
   all_goals try (have hc2:=hca (by assumption))
   all_goals clear hca hcx
   all_goals first
    | (refine ret_tmp rfl (congrArg AV.b ?_);(first | (simp only [usCnd,usEvt,or_self,and_self,Int.reduceLE,false_or,Bool.or_self,Bool.and_self, *,if_true,if_false,Bool.true_eq_false,Bool.false_eq_true,or_true,or_false,true_or,false_or,and_true,true_and,and_false,false_and,not_true_eq_false,not_false_eq_true,ne_eq,reduceIte,Int.reduceEq,Int.reduceLT,Int.reduceLE,Int.reduceNeg,decide_true,decide_false,Bool.not_true,Bool.not_false,Bool.and_true,Bool.true_and,Bool.and_false,Bool.false_and,Bool.or_true,Bool.true_or,Bool.or_false,Bool.false_or,Option.some.injEq];done) | (simp only [usCnd,usEvt,or_self,and_self,Int.reduceLE,false_or,Bool.or_self,Bool.and_self, *,if_true,if_false,Bool.true_eq_false,Bool.false_eq_true,not_true_eq_false,not_false_eq_true,ne_eq,reduceIte,Int.reduceEq];first | rfl | (repeat' split) <;> first | rfl | omega | (exfalso;omega) | contradiction)))
    | (refine ret_tmp rfl (congrArg AV.b ?_);rw [decide_eq_false (p:=0 ≤ (colAt s e.col).low) (by rw [hc2];omega)];simp [*];done)
    | (refine ret_tmp rfl (congrArg AV.b ?_);have ho:=hu.1;rw [if_neg (by omega),if_neg (by omega),if_pos (by omega),decide_eq_false (p:=¬ usCnd e.op) (by simp only [usCnd];omega),decide_eq_true (p:=¬ usEvt e.op) (by simp only [usEvt];omega)];simp [*];done)
    | (refine ret_tmp rfl (congrArg AV.b ?_);simp_all;done)
    | (refine ret_tmp rfl (congrArg AV.b ?_);simp_all [usCnd,usEvt];done)
    | (exfalso;omega)
end Go.Proofs.YtjmbhlgocikfiaaGreatDoor

/- Chapter 16: the program that a text is: Parse. -/
import Derived.Test.YtjmbhlgocikfiaaGreatDoorTPg6
import Derived.Test.YtjmbhlgocikfiaaGreatDoorTF1
set_option linter.unusedVariables false
set_option linter.unnecessarySimpa false
set_option linter.unusedSimpArgs false
namespace Go.Proofs.YtjmbhlgocikfiaaGreatDoor
open Go Go.Av
attribute [local irreducible] AWp AOps AAny MAny DQ retQ retG St.le FCall GCall
set_option maxRecDepth 100000
theorem proE_le {s:Sch} {L:List Stm}:∀ (l:List Stm) (k:Nat),0 ≤ (proE s L k l).1 ∧ (proE s L k l).1 ≤ k + l.length
 | [],k=>by unfold proE;dsimp only [List.length_nil];omega
 | x :: r,k=>by
  have ih:=proE_le (s:=s) (L:=L) r (k + 1)
  unfold proE
  rw [List.length_cons]
  split
  ·omega
  ·dsimp only;omega
theorem proS_le (s:Sch) (l:List Stm):-1 ≤ (proS s l).1 ∧ (proS s l).1 ≤ 30:=by
 have:=proE_le (s:=s) (L:=l) l 0
 unfold proS
 split
 ·split
  ·dsimp only;omega
  ·omega
 ·dsimp only;omega
set_option maxHeartbeats 16000000 in
theorem pParse_call (s:Sch) (t0:List UInt8) (ht0:t0.length ≤ 1000000):FCall Tryz.prog 18 [sA s, .str t0] (.tup [.sl 21 ((parP s t0).1.map stmL), .i (parP s t0).2.1, .i (parP s t0).2.2]):=by
 have h1:=scheck_call s
 unfold parP parPf
 by_cases hr:schE s = 0
 case neg =>
  rw [if_neg hr]
  generalize schE s = z at *
  refine fci Tryz.func18 65 fun hrd E h0=>?_
  clear hrd
  repeat' ((first | refine call_i h1 ?_ |refine aops_go ?_|refine S1 ?_|refine Z1 ?_|refine Z2 ?_|(refine And.intro ?_ ?_<;>intro h<;>try first|(exfalso;omega)|exact absurd rfl h)|refine Z3 ?_|refine Z4 ?_|intro el hel hbB|intro el hel|intro ex|refine Z5 ?_|(refine free_i ?_ ?_;exact ⟨by kernel_rfl,by decide⟩)|refine allI_c ?_ ?_|exact allI_n|refine allMP_c ?_ ?_|exact allMP_n|(refine many_step ?_ ?_ ?_;kernel_rfl;kernel_rfl)) <;> (try (conv=>whnf)))
  all_goals first
   | exact ret_vs (rs:=[.tmp 4, .tmp 5, .tmp 6]) (vs:=[_,_,_]) rfl ⟨⟨_,rfl, .nil _⟩,⟨_,rfl, .refl _⟩,⟨_,rfl, .refl _⟩,trivial⟩ rfl
   | (exfalso;omega)
 rw [if_pos hr]
 rw [hr] at h1
 by_cases hlen:20000 < t0.length
 ·rw [if_pos hlen]
  refine fci Tryz.func18 65 fun hrd E h0=>?_
  clear hrd
  repeat' ((first | refine call_i h1 ?_ |refine aops_go ?_|refine S1 ?_|refine Z1 ?_|refine Z2 ?_|(refine And.intro ?_ ?_<;>intro h<;>try first|(exfalso;omega)|exact absurd rfl h)|refine Z3 ?_|refine Z4 ?_|intro el hel hbB|intro el hel|intro ex|refine Z5 ?_|(refine free_i ?_ ?_;exact ⟨by kernel_rfl,by decide⟩)|refine allI_c ?_ ?_|exact allI_n|refine allMP_c ?_ ?_|exact allMP_n|(refine many_step ?_ ?_ ?_;kernel_rfl;kernel_rfl)) <;> (try (conv=>whnf)))
  all_goals first
   | exact ret_vs (rs:=[.tmp 4, .tmp 5, .tmp 6]) (vs:=[_,_,_]) rfl ⟨⟨_,rfl, .nil _⟩,⟨_,rfl, .refl _⟩,⟨_,rfl, .refl _⟩,trivial⟩ rfl
   | (exfalso;omega)
 rw [if_neg hlen]
 generalize hW:linesO (stmO s) (t0.length + 1) [] 1 t0 = W
 have hW:=hW.symm
 refine fci Tryz.func18 65 fun hrd E h0=>?_
 clear hrd
 repeat' ((first | refine call_i h1 ?_ |refine aops_go ?_|refine S1 ?_|refine Z1 ?_|refine Z2 ?_|(refine And.intro ?_ ?_<;>intro h<;>try first|(exfalso;omega)|exact absurd rfl h)|refine Z3 ?_|refine Z4 ?_|intro el hel hbB|intro el hel|intro ex|refine Z5 ?_|(refine free_i ?_ ?_;exact ⟨by kernel_rfl,by decide⟩)|refine allI_c ?_ ?_|exact allI_n|refine allMP_c ?_ ?_|exact allMP_n|(refine many_step ?_ ?_ ?_;kernel_rfl;kernel_rfl)) <;> (try (conv=>whnf)))
 all_goals first
  | (exfalso;omega)
  | skip
 refine loop_i (ι:=List Stm × List UInt8 × Nat) (fun x=>⟨[(1, .str x.2.1),(2, .iptr (sL s)),(8, .row 1 0 x.1.length),(9, .i (1 + (x.1.length:Int)))],2,[(1,some (.row stm6T 21 0 (x.1.map stmL)))]⟩) (fun x=>x.2.1.length < x.2.2 ∧ x.1.length + x.2.1.length ≤ t0.length ∧ W = linesO (stmO s) x.2.2 x.1 (1 + (x.1.length:Int)) x.2.1) (fun x=>x.2.2) ([],t0,t0.length + 1) ⟨by dsimp only;omega,by dsimp only [List.length_nil];omega,hW⟩
  (le_trans (le_adopt (d:=8) (e:=stm6T) (sz:=21) rfl) (le_of h0 rfl ⟨rfl,rfl,rfl,rfl,trivial⟩ ⟨⟨_,rfl⟩,trivial⟩ rfl rfl rfl)) (fun x hI=>?_)
 obtain ⟨acc,t,n⟩:=x
 obtain ⟨h2,h3,hI⟩:=hI
 dsimp only at h2 h3 hI ⊢
 obtain ⟨m,rfl⟩:∃ m,n = m + 1:=⟨n - 1,by omega⟩
 clear hW h1
 rw [linesO] at hI
 by_cases htn:t = []
 ·rw [if_pos htn] at hI
  subst hI
  subst htn
  dsimp only
  rw [if_pos rfl]
  have hck:=pCheck_call s acc
  have hzb:=proS_le s acc
  generalize proS s acc = z at *
  obtain ⟨z1,z2⟩:=z
  dsimp only at *
  by_cases hz:z2 = 0
  ·rw [if_pos hz]
   repeat' ((first | refine call_i hck ?_ | refine ncall_frz 1 ?_ |refine aops_go ?_|refine S1 ?_|refine Z1 ?_|refine Z2 ?_|(refine And.intro ?_ ?_<;>intro h<;>try first|(exfalso;omega)|exact absurd rfl h)|refine Z3 ?_|refine Z4 ?_|intro el hel hbB|intro el hel|intro ex|refine Z5 ?_|(refine free_i ?_ ?_;exact ⟨by kernel_rfl,by decide⟩)|refine allI_c ?_ ?_|exact allI_n|refine allMP_c ?_ ?_|exact allMP_n|(refine many_step ?_ ?_ ?_;kernel_rfl;kernel_rfl)) <;> (try (conv=>whnf)))
   all_goals first
    | (exfalso;omega)
    | exact ret_vs (rs:=[.tmp 4, .tmp 5, .tmp 6]) (vs:=[_,_,_]) rfl ⟨⟨_,rfl, .refl _⟩,⟨_,rfl, .refl _⟩,⟨_,rfl, .refl _⟩,trivial⟩ rfl
  ·rw [if_neg hz]
   repeat' ((first | refine call_i hck ?_ | refine ncall_frz 1 ?_ |refine aops_go ?_|refine S1 ?_|refine Z1 ?_|refine Z2 ?_|(refine And.intro ?_ ?_<;>intro h<;>try first|(exfalso;omega)|exact absurd rfl h)|refine Z3 ?_|refine Z4 ?_|intro el hel hbB|intro el hel|intro ex|refine Z5 ?_|(refine free_i ?_ ?_;exact ⟨by kernel_rfl,by decide⟩)|refine allI_c ?_ ?_|exact allI_n|refine allMP_c ?_ ?_|exact allMP_n|(refine many_step ?_ ?_ ?_;kernel_rfl;kernel_rfl)) <;> (try (conv=>whnf)))
   all_goals first
    | (exfalso;omega)
    | exact ret_vs (rs:=[.tmp 4, .tmp 5, .tmp 6]) (vs:=[_,_,_]) rfl ⟨⟨_,rfl, .nil _⟩,⟨_,rfl, .refl _⟩,⟨_,rfl, .refl _⟩,trivial⟩ rfl
 rw [if_neg htn] at hI
 have hc:=cutb_call t 10 (by omega)
 have htk:(t.takeWhile (notB 10)).length ≤ t.length:=takeWhile_len (notB 10) t
 have hdl:((t.dropWhile (notB 10)).drop 1).length ≤ t.length:=by
  have:=dropWhile_len (notB 10) t
  rw [List.length_drop];omega
 obtain ⟨z0,hs⟩:=pstm_call s hr (t.takeWhile (notB 10)) (by omega)
 by_cases hd:t.dropWhile (notB 10) = []
 ·rw [if_pos hd] at hI
  subst hI
  dsimp only
  rw [if_neg (by decide)]
  rw [decide_eq_false (fun h=>h hd)] at hc
  generalize t.takeWhile (notB 10) = ln at *
  generalize (t.dropWhile (notB 10)).drop 1 = rest at *
  rcases hso:stmO s ln with _ | x
  ·rw [hso] at hs
   dsimp only [stmZ] at hs
   repeat' ((first | refine call_i hc ?_ | refine call_i hs ?_ |refine aops_go ?_|refine S1 ?_|refine Z1 ?_|refine Z2 ?_|(refine And.intro ?_ ?_<;>intro h<;>try first|(exfalso;omega)|exact absurd rfl h)|refine Z3 ?_|refine Z4 ?_|intro el hel hbB|intro el hel|intro ex|refine Z5 ?_|(refine free_i ?_ ?_;exact ⟨by kernel_rfl,by decide⟩)|refine allI_c ?_ ?_|exact allI_n|refine allMP_c ?_ ?_|exact allMP_n|(refine many_step ?_ ?_ ?_;kernel_rfl;kernel_rfl)) <;> (try (conv=>whnf)))
   all_goals first
    | (exfalso;exact h htn)
    | exact ret_vs (rs:=[.tmp 4, .tmp 5, .tmp 6]) (vs:=[_,_,_]) rfl ⟨⟨_,rfl, .nil _⟩,⟨_,rfl, .refl _⟩,⟨_,rfl, .refl _⟩,trivial⟩ rfl
  ·rw [hso] at hs
   dsimp only [stmZ] at hs
   repeat' ((first | refine call_i hc ?_ | refine call_i hs ?_ |refine aops_go ?_|refine S1 ?_|refine Z1 ?_|refine Z2 ?_|(refine And.intro ?_ ?_<;>intro h<;>try first|(exfalso;omega)|exact absurd rfl h)|refine Z3 ?_|refine Z4 ?_|intro el hel hbB|intro el hel|intro ex|refine Z5 ?_|(refine free_i ?_ ?_;exact ⟨by kernel_rfl,by decide⟩)|refine allI_c ?_ ?_|exact allI_n|refine allMP_c ?_ ?_|exact allMP_n|(refine many_step ?_ ?_ ?_;kernel_rfl;kernel_rfl)) <;> (try (conv=>whnf)))
   all_goals first
    | (exfalso;exact h htn)
    | exact ret_vs (rs:=[.tmp 4, .tmp 5, .tmp 6]) (vs:=[_,_,_]) rfl ⟨⟨_,rfl, .nil _⟩,⟨_,rfl, .refl _⟩,⟨_,rfl, .refl _⟩,trivial⟩ rfl
 rw [if_neg hd] at hI
 have hlt:((t.dropWhile (notB 10)).drop 1).length < t.length:=by
  have h4:=dropWhile_len (notB 10) t
  have h5:0 < (t.dropWhile (notB 10)).length:=List.length_pos_iff.2 hd
  rw [List.length_drop];omega
 rw [decide_eq_true hd] at hc
 generalize t.takeWhile (notB 10) = ln at *
 generalize (t.dropWhile (notB 10)).drop 1 = rest at *
 rcases hso:stmO s ln with _ | x
 ·rw [hso] at hs hI
  dsimp only at hI
  subst hI
  dsimp only [stmZ] at hs ⊢
  rw [if_neg (by decide)]
  repeat' ((first | refine call_i hc ?_ | refine call_i hs ?_ |refine aops_go ?_|refine S1 ?_|refine Z1 ?_|refine Z2 ?_|(refine And.intro ?_ ?_<;>intro h<;>try first|(exfalso;omega)|exact absurd rfl h)|refine Z3 ?_|refine Z4 ?_|intro el hel hbB|intro el hel|intro ex|refine Z5 ?_|(refine free_i ?_ ?_;exact ⟨by kernel_rfl,by decide⟩)|refine allI_c ?_ ?_|exact allI_n|refine allMP_c ?_ ?_|exact allMP_n|(refine many_step ?_ ?_ ?_;kernel_rfl;kernel_rfl)) <;> (try (conv=>whnf)))
  all_goals first
   | (exfalso;exact h htn)
   | exact ret_vs (rs:=[.tmp 4, .tmp 5, .tmp 6]) (vs:=[_,_,_]) rfl ⟨⟨_,rfl, .nil _⟩,⟨_,rfl, .refl _⟩,⟨_,rfl, .refl _⟩,trivial⟩ rfl
 ·rw [hso] at hs hI
  dsimp only at hI
  dsimp only [stmZ] at hs
  repeat' ((first | refine call_i hc ?_ | refine call_i hs ?_ |refine aops_go ?_|refine S1 ?_|refine Z1 ?_|refine Z2 ?_|(refine And.intro ?_ ?_<;>intro h<;>try first|(exfalso;omega)|exact absurd rfl h)|refine Z3 ?_|refine Z4 ?_|intro el hel hbB|intro el hel|intro ex|refine Z5 ?_|(refine free_i ?_ ?_;exact ⟨by kernel_rfl,by decide⟩)|refine allI_c ?_ ?_|exact allI_n|refine allMP_c ?_ ?_|exact allMP_n|(refine many_step ?_ ?_ ?_;kernel_rfl;kernel_rfl)) <;> (try (conv=>whnf)))
  all_goals first
   | (exfalso;exact h htn)
   | exact ⟨(acc ++ [x],rest,m),⟨by dsimp only;omega,by dsimp only;rw [List.length_append,List.length_singleton];omega,hI.trans (by dsimp only;rw [show (1 + (acc.length:Int) + 1) = 1 + ((acc ++ [x]).length:Int) by rw [List.length_append,List.length_singleton];omega])⟩,by dsimp only;omega,le_of h0 rfl ⟨rfl,rfl,congrArg (fun z:Nat=>some (AV.row 1 0 z)) (by rw [List.length_append];rfl),congrArg (fun z:Int=>some (AV.i z)) (by rw [List.length_append,List.length_singleton];omega),trivial⟩ ⟨⟨_,congrArg (Blk.row stm6T 21 _) (by rw [List.map_append];rfl)⟩,trivial⟩ rfl rfl rfl⟩
end Go.Proofs.YtjmbhlgocikfiaaGreatDoor

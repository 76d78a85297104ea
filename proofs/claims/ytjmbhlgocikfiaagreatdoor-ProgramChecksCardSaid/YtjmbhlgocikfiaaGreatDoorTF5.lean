/- Draws: dimensions, terms, and all columns. Draws: expressions and programs, in plain terms. -/
import Derived.Test.YtjmbhlgocikfiaaGreatDoorTCB
import Derived.Test.YtjmbhlgocikfiaaGreatDoorTB10
import Derived.Test.YtjmbhlgocikfiaaGreatDoorTDr8
import Derived.Test.YtjmbhlgocikfiaaGreatDoorTF1
set_option linter.unusedVariables false
set_option linter.unnecessarySimpa false
set_option linter.unusedSimpArgs false
namespace Go.Proofs.YtjmbhlgocikfiaaGreatDoor
open Go Go.Av
attribute [local irreducible] AWp AOps AAny MAny DQ retQ retG St.le FCall GCall
set_option maxRecDepth 100000
def dimF (l:List UInt8) (s:Sch):List Nat → List Pk × Nat → List Pk × Nat
 | [],x=>x
 | c :: r,x=>dimF l s r (x.1 ++ [⟨c,(nxt l x.2 (finestS s c + 1)).1⟩],(nxt l x.2 (finestS s c + 1)).2)
def dimsD (l:List UInt8) (a:Nat) (s:Sch):List Pk × Nat :=
 if ((nxt l a 2).1:Int) = 2 - 1 then dimF l s ((colsK s 2 s.cols.length).drop (nxt l (nxt l a 2).2 (colsK s 2 s.cols.length).length).1) ([],(nxt l (nxt l a 2).2 (colsK s 2 s.cols.length).length).2)
 else dimF l s (colsK s 2 s.cols.length) ([],(nxt l a 2).2)
def trmF (l:List UInt8) (m:Int):List Nat → List Int × Nat → List Int × Nat
 | [],x=>x
 | c :: r,x=>if (c:Int) ≠ m then (if (x.1.length:Int) = 0 then trmF l m r (x.1 ++ [(c:Int)],x.2) else if ((nxt l x.2 2).1:Int) = 2 - 1 then trmF l m r (x.1 ++ [(c:Int)],(nxt l x.2 2).2) else trmF l m r (x.1,(nxt l x.2 2).2)) else trmF l m r x
def termsD (l:List UInt8) (a:Nat) (s:Sch) (m:Int):List Int × Nat:=trmF l m (colsK s 3 s.cols.length) ([],a)
theorem fin_cols {s:Sch} (hd:Drawn s) {c:Nat} (h:c ∈ colsK s 2 s.cols.length):0 ≤ finestS s c ∧ finestS s c ≤ 4:=by
 obtain ⟨h1,h2⟩:=colsK_mem.1 h
 have hc:s.cols[c]? = some (s.cols[c]'h1):=List.getElem?_eq_getElem h1
 by_cases hz:c = 0
 ·subst hz
  rw [show colAt s ((0:Nat):Int) = s.cols[0]'h1 from colAt_get (by simpa using hc)] at h2
  rcases hd.col hc with ⟨_,e⟩ | ⟨h,_⟩ | ⟨h,_⟩
  ·rw [e] at h2;cases h2
  ·omega
  ·omega
 ·obtain ⟨n,h3,h4,_⟩:=hd.chain (i:=c) (by omega) hc
  omega
set_option maxHeartbeats 8000000 in
theorem dimsd_call (l:List UInt8) (a:Nat) (s:Sch) (hd:Drawn s) (hl:l.length ≤ 400):GCall Tryz.prog 67 1 (drB l a) [.ref 0 0,sA s] 1 (drB l (dimsD l a s).2) (.sl 2 ((dimsD l a s).1.map pkL)):=by
 have hc:=columns_call s 2 (by have:=hd.lens;omega)
 have hle:=colsK_le s 2 s.cols.length
 have hln:=hd.lens
 have hpos:=hd.two.1
 have hfc:∀ c ∈ colsK s 2 s.cols.length,0 ≤ finestS s (c:Nat) ∧ finestS s (c:Nat) ≤ 4:=fun c h=>fin_cols hd h
 have r1:=one_call l a 2 hl (by omega)
 unfold dimsD
 have h2:=nxt_lt l a (n:=2) (by omega)
 generalize nxt l a 2 = q at *
 obtain ⟨q1,q2⟩:=q
 dsimp only at r1 h2 ⊢
 generalize colsK s 2 s.cols.length = C at *
 have r2:=next_call l q2 C.length hl
 have h3:=nxt_lt l q2 (n:=C.length) (by omega)
 generalize nxt l q2 C.length = r at *
 obtain ⟨ra,rb⟩:=r
 dsimp only at r2 h3 ⊢
 have hrf:=fun c:Nat=>rfinest_call s c
 have hnx:=fun b n=>next_call l b n hl
 generalize hZ:(if (q1:Int) = 2 - 1 then dimF l s (C.drop ra) ([],rb) else dimF l s C ([],q2)) = Z
 refine gci Tryz.func67 42 fun E h0=>?_
 repeat' ((first | refine call_i hc ?_ | refine ⟨ncall_h [0] [0] r1 rfl rfl rfl rfl rfl ⟨rfl,trivial⟩ rfl rfl rfl rfl rfl ?_⟩ | refine ⟨ncall_h [0] [0] r2 rfl rfl rfl rfl rfl ⟨rfl,trivial⟩ rfl rfl rfl rfl rfl ?_⟩ |refine aops_go ?_|refine S1 ?_|refine Z1 ?_|refine Z2 ?_|(refine And.intro ?_ ?_<;>intro h<;>try first|(exfalso;omega)|exact absurd rfl h)|refine Z3 ?_|refine Z4 ?_|intro el hel hbB|intro el hel|intro ex|refine Z5 ?_|(refine free_i ?_ ?_;exact ⟨by kernel_rfl,by decide⟩)|refine allI_c ?_ ?_|exact allI_n|refine allMP_c ?_ ?_|exact allMP_n|(refine many_step ?_ ?_ ?_;kernel_rfl;kernel_rfl)) <;> (try (conv=>whnf)))
 ·have hq:(q1:Int) = 2 - 1:=by assumption
  rw [if_pos hq] at hZ
  have hDS:List.drop (ra:Int).toNat (List.take ((C.map iA).length:Int).toNat (C.map iA)) = (C.drop ra).map iA:=by rw [Int.toNat_natCast,Int.toNat_natCast,List.take_length,List.map_drop]
  have hsub:∀ c ∈ C.drop ra,c ∈ C:=fun c hc=>List.mem_of_mem_drop hc
  have hDl:(C.drop ra).length ≤ 6:=by rw [List.length_drop];omega
  have hD:=hZ.symm
  generalize C.drop ra = D at *
  refine loop_i (ι:=Nat × List Pk × Nat) (fun x=>⟨[(0, .ref 0 0),(3, .iptr (sL s)),(5, .row 2 0 x.2.1.length),(6, .sl 1 (D.map iA)),(18, .sl 1 (D.map iA)),(19, .i D.length),(20, .i x.1)],3,[(0,some (.box [.sl 1 (l.map u8A), .i x.2.2])),(2,some (.row 76 2 0 (x.2.1.map pkL)))]⟩)
   (fun x=>x.1 ≤ D.length ∧ x.2.1.length ≤ x.1 ∧ Z = dimF l s (D.drop x.1) x.2) (fun x=>D.length - x.1) (0,[],rb) ⟨Nat.zero_le _,Nat.zero_le _,hD⟩
   (le_trans (le_adopt (d:=5) (e:=76) (sz:=2) rfl) (le_of h0 rfl ⟨rfl,rfl,rfl,congrArg (fun z=>some (AV.sl 1 z)) hDS,congrArg (fun z=>some (AV.sl 1 z)) hDS,congrArg (fun z:List (List AV)=>some (AV.i z.length)) (hDS.trans (by rfl:D.map iA = D.map iA)) |>.trans (congrArg (fun z:Nat=>some (AV.i z)) (List.length_map _)),rfl,trivial⟩ ⟨rfl,⟨0,rfl⟩,trivial⟩ rfl rfl rfl)) (fun x hI=>?_)
  obtain ⟨k,out,b⟩:=x
  obtain ⟨hk,hol,hI⟩:=hI
  dsimp only at hk hol hI ⊢
  by_cases hlt:k < D.length
  ·obtain ⟨c,hcg⟩:∃ c,D[k]? = some c:=⟨_,List.getElem?_eq_getElem hlt⟩
   have hfb:=hfc c (hsub c (List.mem_of_getElem? hcg))
   have r3:=hnx b (finestS s c + 1)
   have hf:=hrf c
   rw [dropc hcg,dimF] at hI
   dsimp only at hI
   generalize nxt l b (finestS s c + 1) = u at *
   obtain ⟨u1,u2⟩:=u
   dsimp only at r3 hI ⊢
   generalize finestS s c = fs at *
   repeat' ((first | (refine each_knownm (x:=c) hcg (by omega) ?_) | refine call_i hf ?_ | refine ⟨ncall_h [0] [0] r3 rfl rfl rfl rfl rfl ⟨rfl,trivial⟩ rfl rfl rfl rfl rfl ?_⟩ | (refine draw_id 8 ?_;refine draw_m (id:=8) ⟨[(0, .ref 0 0),(3, .iptr (sL s)),(5, .row 2 0 (out.length + 1)),(6, .sl 1 (D.map iA)),(18, .sl 1 (D.map iA)),(19, .i D.length),(20, .i k)],3,[(0,some (.box [.sl 1 (l.map u8A), .i u2])),(2,some (.row 76 2 0 ((out ++ [(⟨c,u1⟩:Pk)]).map pkL)))]⟩ ?_ ?_) |refine aops_go ?_|refine S1 ?_|refine Z1 ?_|refine Z2 ?_|(refine And.intro ?_ ?_<;>intro h<;>try first|(exfalso;omega)|exact absurd rfl h)|refine Z3 ?_|refine Z4 ?_|intro el hel hbB|intro el hel|intro ex|refine Z5 ?_|(refine free_i ?_ ?_;exact ⟨by kernel_rfl,by decide⟩)|refine allI_c ?_ ?_|exact allI_n|refine allMP_c ?_ ?_|exact allMP_n|(refine many_step ?_ ?_ ?_;kernel_rfl;kernel_rfl)) <;> (try (conv=>whnf)))
   all_goals first
    | (exfalso;omega)
    | exact le_of h0 rfl ⟨rfl,rfl,rfl,rfl,rfl,rfl,rfl,trivial⟩ ⟨rfl,⟨_,congrArg (Blk.row 76 2 _) (by rw [List.map_append];rfl)⟩,trivial⟩ rfl rfl rfl
    | exact ⟨(k + 1,out ++ [⟨c,u1⟩],u2),⟨by dsimp only;omega,by dsimp only;rw [List.length_append,List.length_singleton];omega,hI⟩,by dsimp only;omega,le_of h0 rfl ⟨rfl,rfl,congrArg (fun z:Nat=>some (AV.row 2 0 z)) (by rw [List.length_append];rfl),rfl,rfl,rfl,rfl,trivial⟩ ⟨rfl,⟨_,rfl⟩,trivial⟩ rfl rfl rfl⟩
  ·obtain rfl:k = D.length:=by omega
   rw [List.drop_length,dimF] at hI
   rw [hI]
   repeat' ((first|refine aops_go ?_|refine S1 ?_|refine Z1 ?_|refine Z2 ?_|(refine And.intro ?_ ?_<;>intro h<;>try first|(exfalso;omega)|exact absurd rfl h)|refine Z3 ?_|refine Z4 ?_|intro el hel hbB|intro el hel|intro ex|refine Z5 ?_|(refine free_i ?_ ?_;exact ⟨by kernel_rfl,by decide⟩)|refine allI_c ?_ ?_|exact allI_n|refine allMP_c ?_ ?_|exact allMP_n|(refine many_step ?_ ?_ ?_;kernel_rfl;kernel_rfl)) <;> (try (conv=>whnf)))
   all_goals first
    | (exfalso;omega)
    | exact retg_tmp (le_of h0 rfl ⟨rfl,trivial⟩ ⟨rfl,trivial⟩ rfl rfl rfl)
 ·have hq:¬ (q1:Int) = 2 - 1:=by assumption
  rw [if_neg hq] at hZ
  have hsub:∀ c ∈ C,c ∈ C:=fun c hc=>hc
  have hDl:C.length ≤ 6:=by omega
  have hD:=hZ.symm
  refine loop_i (ι:=Nat × List Pk × Nat) (fun x=>⟨[(0, .ref 0 0),(3, .iptr (sL s)),(5, .row 2 0 x.2.1.length),(6, .sl 1 (C.map iA)),(18, .sl 1 (C.map iA)),(19, .i C.length),(20, .i x.1)],3,[(0,some (.box [.sl 1 (l.map u8A), .i x.2.2])),(2,some (.row 76 2 0 (x.2.1.map pkL)))]⟩)
   (fun x=>x.1 ≤ C.length ∧ x.2.1.length ≤ x.1 ∧ Z = dimF l s (C.drop x.1) x.2) (fun x=>C.length - x.1) (0,[],q2) ⟨Nat.zero_le _,Nat.zero_le _,hD⟩
   (le_trans (le_adopt (d:=5) (e:=76) (sz:=2) rfl) (le_of h0 rfl ⟨rfl,rfl,rfl,rfl,rfl,rfl,rfl,trivial⟩ ⟨rfl,⟨0,rfl⟩,trivial⟩ rfl rfl rfl)) (fun x hI=>?_)
  obtain ⟨k,out,b⟩:=x
  obtain ⟨hk,hol,hI⟩:=hI
  dsimp only at hk hol hI ⊢
  by_cases hlt:k < C.length
  ·obtain ⟨c,hcg⟩:∃ c,C[k]? = some c:=⟨_,List.getElem?_eq_getElem hlt⟩
   have hfb:=hfc c (hsub c (List.mem_of_getElem? hcg))
   have r3:=hnx b (finestS s c + 1)
   have hf:=hrf c
   rw [dropc hcg,dimF] at hI
   dsimp only at hI
   generalize nxt l b (finestS s c + 1) = u at *
   obtain ⟨u1,u2⟩:=u
   dsimp only at r3 hI ⊢
   generalize finestS s c = fs at *
   repeat' ((first | (refine each_knownm (x:=c) hcg (by omega) ?_) | refine call_i hf ?_ | refine ⟨ncall_h [0] [0] r3 rfl rfl rfl rfl rfl ⟨rfl,trivial⟩ rfl rfl rfl rfl rfl ?_⟩ | (refine draw_id 8 ?_;refine draw_m (id:=8) ⟨[(0, .ref 0 0),(3, .iptr (sL s)),(5, .row 2 0 (out.length + 1)),(6, .sl 1 (C.map iA)),(18, .sl 1 (C.map iA)),(19, .i C.length),(20, .i k)],3,[(0,some (.box [.sl 1 (l.map u8A), .i u2])),(2,some (.row 76 2 0 ((out ++ [(⟨c,u1⟩:Pk)]).map pkL)))]⟩ ?_ ?_) |refine aops_go ?_|refine S1 ?_|refine Z1 ?_|refine Z2 ?_|(refine And.intro ?_ ?_<;>intro h<;>try first|(exfalso;omega)|exact absurd rfl h)|refine Z3 ?_|refine Z4 ?_|intro el hel hbB|intro el hel|intro ex|refine Z5 ?_|(refine free_i ?_ ?_;exact ⟨by kernel_rfl,by decide⟩)|refine allI_c ?_ ?_|exact allI_n|refine allMP_c ?_ ?_|exact allMP_n|(refine many_step ?_ ?_ ?_;kernel_rfl;kernel_rfl)) <;> (try (conv=>whnf)))
   all_goals first
    | (exfalso;omega)
    | exact le_of h0 rfl ⟨rfl,rfl,rfl,rfl,rfl,rfl,rfl,trivial⟩ ⟨rfl,⟨_,congrArg (Blk.row 76 2 _) (by rw [List.map_append];rfl)⟩,trivial⟩ rfl rfl rfl
    | exact ⟨(k + 1,out ++ [⟨c,u1⟩],u2),⟨by dsimp only;omega,by dsimp only;rw [List.length_append,List.length_singleton];omega,hI⟩,by dsimp only;omega,le_of h0 rfl ⟨rfl,rfl,congrArg (fun z:Nat=>some (AV.row 2 0 z)) (by rw [List.length_append];rfl),rfl,rfl,rfl,rfl,trivial⟩ ⟨rfl,⟨_,rfl⟩,trivial⟩ rfl rfl rfl⟩
  ·obtain rfl:k = C.length:=by omega
   rw [List.drop_length,dimF] at hI
   rw [hI]
   repeat' ((first|refine aops_go ?_|refine S1 ?_|refine Z1 ?_|refine Z2 ?_|(refine And.intro ?_ ?_<;>intro h<;>try first|(exfalso;omega)|exact absurd rfl h)|refine Z3 ?_|refine Z4 ?_|intro el hel hbB|intro el hel|intro ex|refine Z5 ?_|(refine free_i ?_ ?_;exact ⟨by kernel_rfl,by decide⟩)|refine allI_c ?_ ?_|exact allI_n|refine allMP_c ?_ ?_|exact allMP_n|(refine many_step ?_ ?_ ?_;kernel_rfl;kernel_rfl)) <;> (try (conv=>whnf)))
   all_goals first
    | (exfalso;omega)
    | exact retg_tmp (le_of h0 rfl ⟨rfl,trivial⟩ ⟨rfl,trivial⟩ rfl rfl rfl)
set_option maxHeartbeats 8000000 in
theorem termsd_call (l:List UInt8) (a:Nat) (s:Sch) (m:Int) (hd:Drawn s) (hl:l.length ≤ 400):GCall Tryz.prog 68 1 (drB l a) [.ref 0 0,sA s, .i m] 1 (drB l (termsD l a s m).2) (.sl 1 ((termsD l a s m).1.map wA)):=by
 have hc:=columns_call s 3 (by have:=hd.lens;omega)
 have hle:=colsK_le s 3 s.cols.length
 have hln:=hd.lens
 have hon:=fun b=>one_call l b 2 hl (by omega)
 unfold termsD
 generalize colsK s 3 s.cols.length = D at *
 generalize hZ:trmF l m D ([],a) = Z
 refine gci Tryz.func68 41 fun E h0=>?_
 repeat' ((first | refine call_i hc ?_ |refine aops_go ?_|refine S1 ?_|refine Z1 ?_|refine Z2 ?_|(refine And.intro ?_ ?_<;>intro h<;>try first|(exfalso;omega)|exact absurd rfl h)|refine Z3 ?_|refine Z4 ?_|intro el hel hbB|intro el hel|intro ex|refine Z5 ?_|(refine free_i ?_ ?_;exact ⟨by kernel_rfl,by decide⟩)|refine allI_c ?_ ?_|exact allI_n|refine allMP_c ?_ ?_|exact allMP_n|(refine many_step ?_ ?_ ?_;kernel_rfl;kernel_rfl)) <;> (try (conv=>whnf)))
 refine loop_i (ι:=Nat × List Int × Nat) (fun x=>⟨[(0, .ref 0 0),(2, .i m),(7, .row 2 0 x.2.1.length),(8, .sl 1 (D.map iA)),(12, .sl 1 (D.map iA)),(13, .i D.length),(14, .i x.1)],3,[(0,some (.box [.sl 1 (l.map u8A), .i x.2.2])),(2,some (.row 3 1 0 (x.2.1.map wA)))]⟩)
  (fun x=>x.1 ≤ D.length ∧ x.2.1.length ≤ x.1 ∧ Z = trmF l m (D.drop x.1) x.2) (fun x=>D.length - x.1) (0,[],a) ⟨Nat.zero_le _,Nat.zero_le _,hZ.symm⟩
  (le_trans (le_adopt (d:=7) (e:=3) (sz:=1) rfl) (le_of h0 rfl ⟨rfl,rfl,rfl,rfl,rfl,rfl,rfl,trivial⟩ ⟨rfl,⟨0,rfl⟩,trivial⟩ rfl rfl rfl)) (fun x hI=>?_)
 obtain ⟨k,out,b⟩:=x
 obtain ⟨hk,hol,hI⟩:=hI
 dsimp only at hk hol hI ⊢
 by_cases hlt:k < D.length
 ·obtain ⟨c,hcg⟩:∃ c,D[k]? = some c:=⟨_,List.getElem?_eq_getElem hlt⟩
  have r3:=hon b
  rw [dropc hcg,trmF] at hI
  dsimp only at hI
  generalize nxt l b 2 = u at *
  obtain ⟨u1,u2⟩:=u
  dsimp only at r3 hI ⊢
  repeat' ((first | (refine each_knownm (x:=c) hcg (by omega) ?_) | refine ⟨ncall_h [0] [0] r3 rfl rfl rfl rfl rfl ⟨rfl,trivial⟩ rfl rfl rfl rfl rfl ?_⟩ |refine aops_go ?_|refine S1 ?_|refine Z1 ?_|refine Z2 ?_|(refine And.intro ?_ ?_<;>intro h<;>try first|(exfalso;omega)|exact absurd rfl h)|refine Z3 ?_|refine Z4 ?_|intro el hel hbB|intro el hel|intro ex|refine Z5 ?_|(refine free_i ?_ ?_;exact ⟨by kernel_rfl,by decide⟩)|refine allI_c ?_ ?_|exact allI_n|refine allMP_c ?_ ?_|exact allMP_n|(refine many_step ?_ ?_ ?_;kernel_rfl;kernel_rfl)) <;> (try (conv=>whnf)))
  all_goals first
   | (exfalso;omega)
   | (rw [if_pos (by assumption),if_pos (by assumption)] at hI
      exact ⟨(k + 1,out ++ [(c:Int)],b),⟨by dsimp only;omega,by dsimp only;rw [List.length_append,List.length_singleton];omega,hI⟩,by dsimp only;omega,le_of h0 rfl ⟨rfl,rfl,congrArg (fun z:Nat=>some (AV.row 2 0 z)) (by rw [List.length_append];rfl),rfl,rfl,rfl,rfl,trivial⟩ ⟨rfl,⟨_,congrArg (Blk.row 3 1 _) (by rw [List.map_append];rfl)⟩,trivial⟩ rfl rfl rfl⟩)
   | (rw [if_pos (by assumption),if_neg (by assumption),if_pos (by assumption)] at hI
      exact ⟨(k + 1,out ++ [(c:Int)],u2),⟨by dsimp only;omega,by dsimp only;rw [List.length_append,List.length_singleton];omega,hI⟩,by dsimp only;omega,le_of h0 rfl ⟨rfl,rfl,congrArg (fun z:Nat=>some (AV.row 2 0 z)) (by rw [List.length_append];rfl),rfl,rfl,rfl,rfl,trivial⟩ ⟨rfl,⟨_,congrArg (Blk.row 3 1 _) (by rw [List.map_append];rfl)⟩,trivial⟩ rfl rfl rfl⟩)
   | (rw [if_pos (by assumption),if_neg (by assumption),if_neg (by assumption)] at hI
      exact ⟨(k + 1,out,u2),⟨by dsimp only;omega,by dsimp only;omega,hI⟩,by dsimp only;omega,le_of h0 rfl ⟨rfl,rfl,rfl,rfl,rfl,rfl,rfl,trivial⟩ ⟨rfl,⟨_,rfl⟩,trivial⟩ rfl rfl rfl⟩)
   | (rw [if_neg (by assumption)] at hI
      exact ⟨(k + 1,out,b),⟨by dsimp only;omega,by dsimp only;omega,hI⟩,by dsimp only;omega,le_of h0 rfl ⟨rfl,rfl,rfl,rfl,rfl,rfl,rfl,trivial⟩ ⟨rfl,⟨_,rfl⟩,trivial⟩ rfl rfl rfl⟩)
 ·obtain rfl:k = D.length:=by omega
  rw [List.drop_length,trmF] at hI
  rw [hI]
  repeat' ((first|refine aops_go ?_|refine S1 ?_|refine Z1 ?_|refine Z2 ?_|(refine And.intro ?_ ?_<;>intro h<;>try first|(exfalso;omega)|exact absurd rfl h)|refine Z3 ?_|refine Z4 ?_|intro el hel hbB|intro el hel|intro ex|refine Z5 ?_|(refine free_i ?_ ?_;exact ⟨by kernel_rfl,by decide⟩)|refine allI_c ?_ ?_|exact allI_n|refine allMP_c ?_ ?_|exact allMP_n|(refine many_step ?_ ?_ ?_;kernel_rfl;kernel_rfl)) <;> (try (conv=>whnf)))
  all_goals first
   | (exfalso;omega)
   | exact retg_tmp (le_of h0 rfl ⟨rfl,trivial⟩ ⟨rfl,trivial⟩ rfl rfl rfl)
def allK (s:Sch):Nat → List Pk
 | 0=>[]
 | k + 1=>allK s k ++ [⟨(k:Int) + 1,finestS s ((k:Int) + 1)⟩]
abbrev nilW:AV:=.v (.slice none 0 0)
abbrev strV (z:List UInt8):List AV:=[.str z]
def zC:Cnd:=.mk 0 0 0 0 0 []
def numL (l:List UInt8) (s:Sch) (names:List (List UInt8)) (a:Nat):Xpr × Nat :=
 if ((nxt l a 6).1:Int) = 1 then (.mk 1 (-9 + ((nxt l (nxt l a 6).2 40).1:Int)) [] 0 [] [] zC zC [],(nxt l (nxt l a 6).2 40).2)
 else if ((nxt l a 6).1:Int) = 2 ∧ 0 < (names.length:Int) then (.mk 2 0 (names.getD (nxt l (nxt l a 6).2 names.length).1 []) 0 [] [] zC zC [],(nxt l (nxt l a 6).2 names.length).2)
 else if ((nxt l a 6).1:Int) = 3 then (.mk 4 0 [] (colD l (nxt l a 6).2 s 3).1 [] [] (condS l s 1 (colD l (nxt l a 6).2 s 3).2).1 zC [],(condS l s 1 (colD l (nxt l a 6).2 s 3).2).2)
 else if ((nxt l a 6).1:Int) = 4 then (.mk 5 0 [] (colD l (nxt l a 6).2 s 3).1 [] [] (condS l s 0 (colD l (nxt l a 6).2 s 3).2).1 zC [],(condS l s 0 (colD l (nxt l a 6).2 s 3).2).2)
 else (.mk 3 0 [] 0 [] [] (condS l s 2 (nxt l a 6).2).1 zC [],(condS l s 2 (nxt l a 6).2).2)
def numD (l:List UInt8) (s:Sch) (names:List (List UInt8)):Nat → Nat → Xpr × Nat
 | 0,a=>numL l s names a
 | d + 1,a=>if ((nxt l a 2).1:Int) = 2 - 1 then
     (.mk (6 + ((nxt l (nxt l a 2).2 4).1:Int)) 0 [] 0 [] [] zC zC [(numD l s names d (nxt l (nxt l a 2).2 4).2).1,(numD l s names d (numD l s names d (nxt l (nxt l a 2).2 4).2).2).1],(numD l s names d (numD l s names d (nxt l (nxt l a 2).2 4).2).2).2)
  else numL l s names (nxt l a 2).2
def exprD (l:List UInt8) (s:Sch) (names:List (List UInt8)) (a:Nat):Xpr × Nat :=
 let m:=colD l a s 3
 let q:=nxt l m.2 8
 if (q.1:Int) = 1 ∨ (q.1:Int) = 2 then
  let d:=dimsD l q.2 s
  let c:=condS l s 1 d.2
  let o:=nxt l c.2 2
  (.mk 10 0 [] (if (o.1:Int) = 2 - 1 then m.1 else -1) [] d.1 c.1 zC [],o.2)
 else if (q.1:Int) = 3 then
  let t:=termsD l q.2 s m.1
  if 0 < (t.1.length:Int) then
   let c:=condS l s 1 t.2
   (.mk 11 0 [] m.1 t.1 [] c.1 zC [],c.2)
  else numD l s names 2 t.2
 else if (q.1:Int) = 4 ∧ 0 ≤ (colAt s m.1).low then
  let v:=condS l s 0 q.2
  let c:=condS l s 0 v.2
  (.mk 12 0 [] m.1 [] [] c.1 v.1 [],c.2)
 else if (q.1:Int) = 5 then
  let n:=nxt l q.2 (colAt s m.1).widths.length
  let c:=condS l s 1 n.2
  (.mk 13 ((colAt s m.1).widths.getD n.1 0) [] m.1 [] [] c.1 zC [],c.2)
 else if (q.1:Int) = 6 then
  let c:=condS l s 0 q.2
  (.mk 14 0 [] m.1 [] [] c.1 zC [],c.2)
 else numD l s names 2 q.2
structure PrD where
 l:List Stm
 names:List (List UInt8)
 a:Nat
def proN (k:Nat):List UInt8:=[118] ++ itoaN k
def proF (l:List UInt8) (s:Sch) (x:PrD):Nat → PrD
 | 0=>x
 | n + 1 =>
  let o:=nxt l x.a 2
  let e:=exprD l s x.names o.2
  proF l s ⟨x.l ++ [⟨proN x.l.length,decide ((o.1:Int) = 2 - 1),e.1⟩],if e.1.op < 10 then x.names ++ [proN x.l.length] else x.names,e.2⟩ n
def proD (l:List UInt8) (a:Nat) (s:Sch) (most:Int):PrD:=proF l s ⟨[],[],(nxt l a (most + 1)).2⟩ (nxt l a (most + 1)).1
abbrev xprT:Nat:=53
theorem nl_xpr (e:Xpr) {A B C D E:AV} (ha:NL A (.sl 1 (e.cols.map wA))) (hb:NL B (.sl 2 (e.dims.map pkL))) (hc:NL C (.sl 6 (e.cnd.kids.map cndL))) (hd:NL D (.sl 6 (e.evt.kids.map cndL))) (he:NL E (.sl 19 (e.kids.map xprL))) :
  NL (.agg [.i e.op, .i e.num, .str e.name, .i e.col,A,B, .i e.cnd.op, .i e.cnd.col, .i e.cnd.code, .i e.cnd.lo, .i e.cnd.hi,C, .i e.evt.op, .i e.evt.col, .i e.evt.code, .i e.evt.lo, .i e.evt.hi,D,E]) (xprA e) :=
 nl_agg ⟨.refl _, .refl _, .refl _, .refl _,ha,hb, .refl _, .refl _, .refl _, .refl _, .refl _,hc, .refl _, .refl _, .refl _, .refl _, .refl _,hd,he,trivial⟩
end Go.Proofs.YtjmbhlgocikfiaaGreatDoor

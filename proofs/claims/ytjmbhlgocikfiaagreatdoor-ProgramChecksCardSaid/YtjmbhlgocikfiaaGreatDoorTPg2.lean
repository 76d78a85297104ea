/- Chapter 16: the program's reader: terms, dimensions, operations, the head of a table. -/
import Derived.Test.YtjmbhlgocikfiaaGreatDoorTPg1
import Derived.Test.YtjmbhlgocikfiaaGreatDoorTF5
set_option linter.unusedVariables false
set_option linter.unnecessarySimpa false
set_option linter.unusedSimpArgs false
namespace Go.Proofs.YtjmbhlgocikfiaaGreatDoor
open Go Go.Av
attribute [local irreducible] AWp AOps AAny MAny DQ retQ retG St.le FCall GCall
set_option maxRecDepth 100000
abbrev nilR:AV:=.v (.slice none 0 0)
theorem dimsO_len {s:Sch} {n:Nat} {t u:List UInt8} {ds:List Pk} (h:dimsO s n [] t = some (ds,u)):u.length ≤ t.length:=by
 obtain ⟨r,_,_,e⟩:=dimsO_inv n [] t u ds h
 rw [e,List.length_append];omega
def hpO {α:Type} (s:Sch):Option (α × List UInt8) → Hp
 | none=>rdN s
 | some p=>rdP s p.2
def tupO {α:Type} (f:α → AV) (z:AV):Option (α × List UInt8) → AV
 | none=>.tup [z, .b false]
 | some p=>.tup [f p.1, .b true]
set_option maxHeartbeats 8000000 in
theorem pcols_call (s:Sch) (t0:List UInt8) (ht:t0.length ≤ 1000000) (Z:Option (List Int × List UInt8)) (hZ:Z = colsO s (t0.length + 1) [] t0):GCall Tryz.prog 153 1 (rdP s t0) [.ref 0 0] 1 (hpO s Z) (tupO (fun cs=>.sl 1 (cs.map wA)) nilR Z):=by
 refine gci Tryz.func153 22 fun E h0=>?_
 repeat' ((first|refine aops_go ?_|refine S1 ?_|refine Z1 ?_|refine Z2 ?_|(refine And.intro ?_ ?_<;>intro h<;>try first|(exfalso;omega)|exact absurd rfl h)|refine Z3 ?_|refine Z4 ?_|intro el hel hbB|intro el hel|intro ex|refine Z5 ?_|(refine free_i ?_ ?_;exact ⟨by kernel_rfl,by decide⟩)|refine allI_c ?_ ?_|exact allI_n|refine allMP_c ?_ ?_|exact allMP_n|(refine many_step ?_ ?_ ?_;kernel_rfl;kernel_rfl)) <;> (try (conv=>whnf)))
 refine loop_i (ι:=List Int × List UInt8 × Nat) (fun x=>⟨[(0, .ref 0 0),(4, .row 1 0 x.1.length)],2,[(0,some (.box [.sl 2 (s.lists.map clL), .sl 7 (s.cols.map colL), .str x.2.1])),(1,some (.row 3 1 0 (x.1.map wA)))]⟩) (fun x=>x.2.1.length < x.2.2 ∧ x.1.length + x.2.1.length ≤ t0.length ∧ Z = colsO s x.2.2 x.1 x.2.1) (fun x=>x.2.2) ([],t0,t0.length + 1) ⟨by dsimp only;omega,by dsimp only [List.length_nil];omega,hZ⟩
  (le_trans (le_adopt (d:=4) (e:=3) (sz:=1) rfl) (le_of h0 rfl ⟨rfl,rfl,trivial⟩ ⟨rfl,⟨_,rfl⟩,trivial⟩ rfl rfl rfl)) (fun x hI=>?_)
 obtain ⟨acc,t,n⟩:=x
 obtain ⟨h1,h2,hI⟩:=hI
 dsimp only at h1 h2 hI ⊢
 obtain ⟨m,rfl⟩:∃ m,n = m + 1:=⟨n - 1,by omega⟩
 clear hZ
 rw [colsO] at hI
 rcases hc:colO s t with _ | ⟨c,t1⟩
 ·rw [hc] at hI
  dsimp only at hI
  subst hI
  obtain ⟨v,u,r1⟩:=pcol_no hc (by omega)
  repeat' ((first|refine aops_go ?_|refine S1 ?_|refine Z1 ?_|refine Z2 ?_|(refine And.intro ?_ ?_<;>intro h<;>try first|(exfalso;omega)|exact absurd rfl h)|refine Z3 ?_|refine Z4 ?_|intro el hel hbB|intro el hel|intro ex|refine Z5 ?_|(refine free_i ?_ ?_;exact ⟨by kernel_rfl,by decide⟩)|refine allI_c ?_ ?_|exact allI_n|refine allMP_c ?_ ?_|exact allMP_n|(refine many_step ?_ ?_ ?_;kernel_rfl;kernel_rfl) | refine nc [0] [0] r1 rfl rfl rfl ⟨rfl,trivial⟩ ?_) <;> (try (conv=>whnf)))
  all_goals first
   | exact retg_vs (rvs:=[.tmp 2, .tmp 3]) (vs:=[_,_]) trivial rfl rfl (le_trans (le_rd 0 rfl) (le_of h0 rfl ⟨rfl,rfl,trivial⟩ ⟨rfl,trivial⟩ rfl rfl rfl)) rfl
 rw [hc] at hI
 dsimp only at hI
 obtain ⟨r1,l1⟩:=pcol_yes hc (by omega)
 rcases hk:takO bCom t1 with _ | t2
 ·rw [hk] at hI
  dsimp only at hI
  subst hI
  have r2:=ptake_no (s:=s) hk (by omega) (by decide)
  repeat' ((first|refine aops_go ?_|refine S1 ?_|refine Z1 ?_|refine Z2 ?_|(refine And.intro ?_ ?_<;>intro h<;>try first|(exfalso;omega)|exact absurd rfl h)|refine Z3 ?_|refine Z4 ?_|intro el hel hbB|intro el hel|intro ex|refine Z5 ?_|(refine free_i ?_ ?_;exact ⟨by kernel_rfl,by decide⟩)|refine allI_c ?_ ?_|exact allI_n|refine allMP_c ?_ ?_|exact allMP_n|(refine many_step ?_ ?_ ?_;kernel_rfl;kernel_rfl) | refine nc [0] [0] r1 rfl rfl rfl ⟨rfl,trivial⟩ ?_ | refine nc [0] [0] r2 rfl rfl rfl ⟨rfl,trivial⟩ ?_) <;> (try (conv=>whnf)))
  all_goals first
   | exact retg_vs (rvs:=[.tmp 2, .tmp 3]) (vs:=[_,_]) trivial rfl rfl (le_of h0 rfl ⟨congrArg (fun z=>some (AV.sl 1 z)) (by rw [List.map_append];rfl),rfl,trivial⟩ ⟨rfl,trivial⟩ rfl rfl rfl) rfl
 ·rw [hk] at hI
  dsimp only at hI
  have r2:=ptake_yes (s:=s) hk (by omega) (by decide)
  have l2:=takO_len hk
  have l3:bCom.length = 2:=rfl
  repeat' ((first|refine aops_go ?_|refine S1 ?_|refine Z1 ?_|refine Z2 ?_|(refine And.intro ?_ ?_<;>intro h<;>try first|(exfalso;omega)|exact absurd rfl h)|refine Z3 ?_|refine Z4 ?_|intro el hel hbB|intro el hel|intro ex|refine Z5 ?_|(refine free_i ?_ ?_;exact ⟨by kernel_rfl,by decide⟩)|refine allI_c ?_ ?_|exact allI_n|refine allMP_c ?_ ?_|exact allMP_n|(refine many_step ?_ ?_ ?_;kernel_rfl;kernel_rfl) | refine nc [0] [0] r1 rfl rfl rfl ⟨rfl,trivial⟩ ?_ | refine nc [0] [0] r2 rfl rfl rfl ⟨rfl,trivial⟩ ?_) <;> (try (conv=>whnf)))
  all_goals first
   | exact ⟨(acc ++ [c],t2,m),⟨by dsimp only;omega,by dsimp only;rw [List.length_append,List.length_singleton];omega,hI⟩,by dsimp only;omega,le_of h0 rfl ⟨rfl,congrArg (fun z:Nat=>some (AV.row 1 0 z)) (by rw [List.length_append];rfl),trivial⟩ ⟨rfl,⟨_,congrArg (Blk.row 3 1 _) (by rw [List.map_append];rfl)⟩,trivial⟩ rfl rfl rfl⟩
set_option maxHeartbeats 8000000 in
theorem pdims_call (s:Sch) (t0:List UInt8) (ht:t0.length ≤ 1000000) (Z:Option (List Pk × List UInt8)) (hZ:Z = dimsO s (t0.length + 1) [] t0):GCall Tryz.prog 181 1 (rdP s t0) [.ref 0 0] 1 (hpO s Z) (tupO (fun ds=>.sl 2 (ds.map pkL)) nilR Z):=by
 refine gci Tryz.func181 37 fun E h0=>?_
 repeat' ((first|refine aops_go ?_|refine S1 ?_|refine Z1 ?_|refine Z2 ?_|(refine And.intro ?_ ?_<;>intro h<;>try first|(exfalso;omega)|exact absurd rfl h)|refine Z3 ?_|refine Z4 ?_|intro el hel hbB|intro el hel|intro ex|refine Z5 ?_|(refine free_i ?_ ?_;exact ⟨by kernel_rfl,by decide⟩)|refine allI_c ?_ ?_|exact allI_n|refine allMP_c ?_ ?_|exact allMP_n|(refine many_step ?_ ?_ ?_;kernel_rfl;kernel_rfl)) <;> (try (conv=>whnf)))
 refine loop_i (ι:=List Pk × List UInt8 × Nat) (fun x=>⟨[(0, .ref 0 0),(4, .row 1 0 x.1.length)],2,[(0,some (.box [.sl 2 (s.lists.map clL), .sl 7 (s.cols.map colL), .str x.2.1])),(1,some (.row 76 2 0 (x.1.map pkL)))]⟩) (fun x=>x.2.1.length < x.2.2 ∧ x.1.length + x.2.1.length ≤ t0.length ∧ Z = dimsO s x.2.2 x.1 x.2.1) (fun x=>x.2.2) ([],t0,t0.length + 1) ⟨by dsimp only;omega,by dsimp only [List.length_nil];omega,hZ⟩
  (le_trans (le_adopt (d:=4) (e:=76) (sz:=2) rfl) (le_of h0 rfl ⟨rfl,rfl,trivial⟩ ⟨rfl,⟨_,rfl⟩,trivial⟩ rfl rfl rfl)) (fun x hI=>?_)
 obtain ⟨acc,t,n⟩:=x
 obtain ⟨h1,h2,hI⟩:=hI
 dsimp only at h1 h2 hI ⊢
 obtain ⟨m,rfl⟩:∃ m,n = m + 1:=⟨n - 1,by omega⟩
 clear hZ
 rw [dimsO] at hI
 rcases hc:colO s t with _ | ⟨c,t1⟩
 ·rw [hc] at hI
  dsimp only at hI
  subst hI
  obtain ⟨v,u,r1⟩:=pcol_no hc (by omega)
  repeat' ((first|refine aops_go ?_|refine S1 ?_|refine Z1 ?_|refine Z2 ?_|(refine And.intro ?_ ?_<;>intro h<;>try first|(exfalso;omega)|exact absurd rfl h)|refine Z3 ?_|refine Z4 ?_|intro el hel hbB|intro el hel|intro ex|refine Z5 ?_|(refine free_i ?_ ?_;exact ⟨by kernel_rfl,by decide⟩)|refine allI_c ?_ ?_|exact allI_n|refine allMP_c ?_ ?_|exact allMP_n|(refine many_step ?_ ?_ ?_;kernel_rfl;kernel_rfl) | refine nc [0] [0] r1 rfl rfl rfl ⟨rfl,trivial⟩ ?_) <;> (try (conv=>whnf)))
  all_goals first
   | exact retg_vs (rvs:=[.tmp 2, .tmp 3]) (vs:=[_,_]) trivial rfl rfl (le_trans (le_rd 0 rfl) (le_of h0 rfl ⟨rfl,rfl,trivial⟩ ⟨rfl,trivial⟩ rfl rfl rfl)) rfl
 rw [hc] at hI
 dsimp only at hI
 obtain ⟨r1,l1⟩:=pcol_yes hc (by omega)
 rcases hk:takO [47] t1 with _ | t2
 ·rw [hk] at hI
  dsimp only at hI
  subst hI
  have r2:=ptake_no (s:=s) hk (by omega) (by decide)
  repeat' ((first|refine aops_go ?_|refine S1 ?_|refine Z1 ?_|refine Z2 ?_|(refine And.intro ?_ ?_<;>intro h<;>try first|(exfalso;omega)|exact absurd rfl h)|refine Z3 ?_|refine Z4 ?_|intro el hel hbB|intro el hel|intro ex|refine Z5 ?_|(refine free_i ?_ ?_;exact ⟨by kernel_rfl,by decide⟩)|refine allI_c ?_ ?_|exact allI_n|refine allMP_c ?_ ?_|exact allMP_n|(refine many_step ?_ ?_ ?_;kernel_rfl;kernel_rfl) | refine nc [0] [0] r1 rfl rfl rfl ⟨rfl,trivial⟩ ?_ | refine nc [0] [0] r2 rfl rfl rfl ⟨rfl,trivial⟩ ?_) <;> (try (conv=>whnf)))
  all_goals first
   | exact retg_vs (rvs:=[.tmp 2, .tmp 3]) (vs:=[_,_]) trivial rfl rfl (le_trans (le_rd 0 rfl) (le_of h0 rfl ⟨rfl,rfl,trivial⟩ ⟨rfl,trivial⟩ rfl rfl rfl)) rfl
 rw [hk] at hI
 dsimp only at hI
 have r2:=ptake_yes (s:=s) hk (by omega) (by decide)
 have l2:=takO_len hk
 have l3:([47]:List UInt8).length = 1:=rfl
 rcases hn:numO t2 with _ | ⟨v,t3⟩
 ·rw [hn] at hI
  dsimp only at hI
  subst hI
  obtain ⟨v,u,r3⟩:=pnum_no (s:=s) hn (by omega)
  repeat' ((first|refine aops_go ?_|refine S1 ?_|refine Z1 ?_|refine Z2 ?_|(refine And.intro ?_ ?_<;>intro h<;>try first|(exfalso;omega)|exact absurd rfl h)|refine Z3 ?_|refine Z4 ?_|intro el hel hbB|intro el hel|intro ex|refine Z5 ?_|(refine free_i ?_ ?_;exact ⟨by kernel_rfl,by decide⟩)|refine allI_c ?_ ?_|exact allI_n|refine allMP_c ?_ ?_|exact allMP_n|(refine many_step ?_ ?_ ?_;kernel_rfl;kernel_rfl) | refine nc [0] [0] r1 rfl rfl rfl ⟨rfl,trivial⟩ ?_ | refine nc [0] [0] r2 rfl rfl rfl ⟨rfl,trivial⟩ ?_ | refine nc [0] [0] r3 rfl rfl rfl ⟨rfl,trivial⟩ ?_) <;> (try (conv=>whnf)))
  all_goals first
   | exact retg_vs (rvs:=[.tmp 2, .tmp 3]) (vs:=[_,_]) trivial rfl rfl (le_trans (le_rd 0 rfl) (le_of h0 rfl ⟨rfl,rfl,trivial⟩ ⟨rfl,trivial⟩ rfl rfl rfl)) rfl
 rw [hn] at hI
 dsimp only at hI
 obtain ⟨r3,l4⟩:=pnum_yes (s:=s) hn (by omega)
 rcases hm:takO bCom t3 with _ | t4
 ·rw [hm] at hI
  dsimp only at hI
  subst hI
  have r4:=ptake_no (s:=s) hm (by omega) (by decide)
  repeat' ((first|refine aops_go ?_|refine S1 ?_|refine Z1 ?_|refine Z2 ?_|(refine And.intro ?_ ?_<;>intro h<;>try first|(exfalso;omega)|exact absurd rfl h)|refine Z3 ?_|refine Z4 ?_|intro el hel hbB|intro el hel|intro ex|refine Z5 ?_|(refine free_i ?_ ?_;exact ⟨by kernel_rfl,by decide⟩)|refine allI_c ?_ ?_|exact allI_n|refine allMP_c ?_ ?_|exact allMP_n|(refine many_step ?_ ?_ ?_;kernel_rfl;kernel_rfl) | refine nc [0] [0] r1 rfl rfl rfl ⟨rfl,trivial⟩ ?_ | refine nc [0] [0] r2 rfl rfl rfl ⟨rfl,trivial⟩ ?_ | refine nc [0] [0] r3 rfl rfl rfl ⟨rfl,trivial⟩ ?_ | refine nc [0] [0] r4 rfl rfl rfl ⟨rfl,trivial⟩ ?_) <;> (try (conv=>whnf)))
  all_goals first
   | exact retg_vs (rvs:=[.tmp 2, .tmp 3]) (vs:=[_,_]) trivial rfl rfl (le_of h0 rfl ⟨congrArg (fun z=>some (AV.sl 2 z)) (by rw [List.map_append];rfl),rfl,trivial⟩ ⟨rfl,trivial⟩ rfl rfl rfl) rfl
 ·rw [hm] at hI
  dsimp only at hI
  have r4:=ptake_yes (s:=s) hm (by omega) (by decide)
  have l5:=takO_len hm
  have l6:bCom.length = 2:=rfl
  repeat' ((first|refine aops_go ?_|refine S1 ?_|refine Z1 ?_|refine Z2 ?_|(refine And.intro ?_ ?_<;>intro h<;>try first|(exfalso;omega)|exact absurd rfl h)|refine Z3 ?_|refine Z4 ?_|intro el hel hbB|intro el hel|intro ex|refine Z5 ?_|(refine free_i ?_ ?_;exact ⟨by kernel_rfl,by decide⟩)|refine allI_c ?_ ?_|exact allI_n|refine allMP_c ?_ ?_|exact allMP_n|(refine many_step ?_ ?_ ?_;kernel_rfl;kernel_rfl) | refine nc [0] [0] r1 rfl rfl rfl ⟨rfl,trivial⟩ ?_ | refine nc [0] [0] r2 rfl rfl rfl ⟨rfl,trivial⟩ ?_ | refine nc [0] [0] r3 rfl rfl rfl ⟨rfl,trivial⟩ ?_ | refine nc [0] [0] r4 rfl rfl rfl ⟨rfl,trivial⟩ ?_) <;> (try (conv=>whnf)))
  all_goals first
   | exact ⟨(acc ++ [⟨c,v⟩],t4,m),⟨by dsimp only;omega,by dsimp only;rw [List.length_append,List.length_singleton];omega,hI⟩,by dsimp only;omega,le_of h0 rfl ⟨rfl,congrArg (fun z:Nat=>some (AV.row 1 0 z)) (by rw [List.length_append];rfl),trivial⟩ ⟨rfl,⟨_,congrArg (Blk.row 76 2 _) (by rw [List.map_append];rfl)⟩,trivial⟩ rfl rfl rfl⟩
def opsW:List Int:=[3,4,5,10,11,12,13,14]
def opsF (w:List UInt8):List Int → Int
 | []=>0
 | o :: r=>if wrdX o = w then o else opsF w r
theorem opsF_eq (w:List UInt8):opsF w opsW = opsX w:=by
 unfold opsX opsW
 simp only [opsF,eq_comm (b:=w)]
theorem opsF_step {w:List UInt8} {k:Nat} {o:Int} (h:opsW[k]? = some o):opsF w (opsW.drop k) = if wrdX o = w then o else opsF w (opsW.drop (k + 1)):=by
 obtain ⟨hk,he⟩:=List.getElem?_eq_some_iff.1 h
 rw [List.drop_eq_getElem_cons hk,he,opsF]
set_option maxHeartbeats 8000000 in
theorem ops16_call (w:List UInt8):FCall Tryz.prog 119 [.str w] (.i (opsX w)):=by
 rw [← opsF_eq]
 have hw:=fun o=>word16_call o
 refine fci Tryz.func119 17 fun hrd E h0=>?_
 clear hrd
 repeat' ((first|refine aops_go ?_|refine S1 ?_|refine Z1 ?_|refine Z2 ?_|(refine And.intro ?_ ?_<;>intro h<;>try first|(exfalso;omega)|exact absurd rfl h)|refine Z3 ?_|refine Z4 ?_|intro el hel hbB|intro el hel|intro ex|refine Z5 ?_|(refine free_i ?_ ?_;exact ⟨by kernel_rfl,by decide⟩)|refine allI_c ?_ ?_|exact allI_n|refine allMP_c ?_ ?_|exact allMP_n|(refine many_step ?_ ?_ ?_;kernel_rfl;kernel_rfl)) <;> (try (conv=>whnf)))
 refine loop_i (ι:=Nat) (fun k=>⟨[(0, .str w),(5, .sl 1 (opsW.map wA)),(6, .i 8),(7, .i k)],0,[]⟩) (fun k=>k ≤ 8 ∧ opsF w opsW = opsF w (opsW.drop k)) (fun k=>8 - k) 0 ⟨Nat.zero_le _,rfl⟩ (le_of h0 rfl ⟨rfl,rfl,rfl,rfl,trivial⟩ trivial rfl rfl rfl) (fun k hI=>?_)
 obtain ⟨hk,hI⟩:=hI
 by_cases hlt:k < 8
 ·obtain ⟨o,hog⟩:∃ o,opsW[k]? = some o:=⟨_,List.getElem?_eq_getElem hlt⟩
  have hw:=hw o
  have hst:=opsF_step (w:=w) hog
  generalize wrdX o = z at *
  repeat' ((first | (refine each_knownm (x:=o) hog (by omega) ?_) | refine call_i hw ?_ |refine aops_go ?_|refine S1 ?_|refine Z1 ?_|refine Z2 ?_|(refine And.intro ?_ ?_<;>intro h<;>try first|(exfalso;omega)|exact absurd rfl h)|refine Z3 ?_|refine Z4 ?_|intro el hel hbB|intro el hel|intro ex|refine Z5 ?_|(refine free_i ?_ ?_;exact ⟨by kernel_rfl,by decide⟩)|refine allI_c ?_ ?_|exact allI_n|refine allMP_c ?_ ?_|exact allMP_n|(refine many_step ?_ ?_ ?_;kernel_rfl;kernel_rfl)) <;> (try (conv=>whnf)))
  all_goals first
   | (refine ret_tmp rfl (congrArg AV.i ?_);rw [hI,hst,if_pos (by assumption)])
   | exact ⟨k + 1,⟨by omega,by rw [hI,hst,if_neg (by assumption)]⟩,by omega,le_of h0 rfl ⟨rfl,rfl,rfl,rfl,trivial⟩ trivial rfl rfl rfl⟩
   | (exfalso;omega)
 ·obtain rfl:k = 8:=by omega
  repeat' ((first|refine aops_go ?_|refine S1 ?_|refine Z1 ?_|refine Z2 ?_|(refine And.intro ?_ ?_<;>intro h<;>try first|(exfalso;omega)|exact absurd rfl h)|refine Z3 ?_|refine Z4 ?_|intro el hel hbB|intro el hel|intro ex|refine Z5 ?_|(refine free_i ?_ ?_;exact ⟨by kernel_rfl,by decide⟩)|refine allI_c ?_ ?_|exact allI_n|refine allMP_c ?_ ?_|exact allMP_n|(refine many_step ?_ ?_ ?_;kernel_rfl;kernel_rfl)) <;> (try (conv=>whnf)))
  all_goals first
   | (refine ret_tmp rfl (congrArg AV.i ?_);rw [hI];rfl)
   | (exfalso;omega)
abbrev tabB (s:Sch) (t:AV) (c ds:AV):Hp:=[(0,some (.box [.sl 2 (s.lists.map clL), .sl 7 (s.cols.map colL),t])),(1,some (.box [.i 10, .i 0, .str [],c,nilR,ds, .i 0, .i 0, .i 0, .i 0, .i 0,nilR, .i 0, .i 0, .i 0, .i 0, .i 0,nilR,nilR]))]
set_option maxHeartbeats 8000000 in
theorem ptable_no (s:Sch) (t:List UInt8) (ht:t.length ≤ 1000000) (hZ:tabO s t = none):∃ (v:Int) (ds:List Pk) (B:AV),(B = nilR ∧ ds = [] ∨ B = .sl 2 (ds.map pkL)) ∧ GCall Tryz.prog 151 2 (tabB s (.str t) (.i 0) nilR) [.ref 0 0, .ref 1 0] 2 (tabB s .any (.i v) B) (.b false):=by
 unfold tabO at hZ
 have r1:=pdims_call s t ht _ rfl
 rcases hd:dimsO s (t.length + 1) [] t with _ | ⟨ds,t1⟩
 ·rw [hd] at hZ r1
  clear hZ
  dsimp only [hpO,tupO] at r1
  refine ⟨0,[],nilR, .inl ⟨rfl,rfl⟩,?_⟩
  refine gci Tryz.func151 35 fun E h0=>?_
  repeat' ((first|refine aops_go ?_|refine S1 ?_|refine Z1 ?_|refine Z2 ?_|(refine And.intro ?_ ?_<;>intro h<;>try first|(exfalso;omega)|exact absurd rfl h)|refine Z3 ?_|refine Z4 ?_|intro el hel hbB|intro el hel|intro ex|refine Z5 ?_|(refine free_i ?_ ?_;exact ⟨by kernel_rfl,by decide⟩)|refine allI_c ?_ ?_|exact allI_n|refine allMP_c ?_ ?_|exact allMP_n|(refine many_step ?_ ?_ ?_;kernel_rfl;kernel_rfl) | refine nc [0] [0] r1 rfl rfl rfl ⟨rfl,trivial⟩ ?_) <;> (try (conv=>whnf)))
  all_goals first
   | exact retg_tmp (le_of h0 rfl ⟨rfl,trivial⟩ ⟨rfl,rfl,trivial⟩ rfl rfl rfl)
 rw [hd] at hZ r1
 dsimp only at hZ
 dsimp only [hpO,tupO] at r1
 have l1:=dimsO_len hd
 rcases hk:takO bSep t1 with _ | t2
 ·clear hZ
  have r2:=ptake_no (s:=s) hk (by omega) (by decide)
  refine ⟨0,ds, .sl 2 (ds.map pkL), .inr rfl,?_⟩
  refine gci Tryz.func151 35 fun E h0=>?_
  repeat' ((first|refine aops_go ?_|refine S1 ?_|refine Z1 ?_|refine Z2 ?_|(refine And.intro ?_ ?_<;>intro h<;>try first|(exfalso;omega)|exact absurd rfl h)|refine Z3 ?_|refine Z4 ?_|intro el hel hbB|intro el hel|intro ex|refine Z5 ?_|(refine free_i ?_ ?_;exact ⟨by kernel_rfl,by decide⟩)|refine allI_c ?_ ?_|exact allI_n|refine allMP_c ?_ ?_|exact allMP_n|(refine many_step ?_ ?_ ?_;kernel_rfl;kernel_rfl) | refine nc [0] [0] r1 rfl rfl rfl ⟨rfl,trivial⟩ ?_ | refine nc [0] [0] r2 rfl rfl rfl ⟨rfl,trivial⟩ ?_) <;> (try (conv=>whnf)))
  all_goals first
   | exact retg_tmp (le_trans (le_rd 0 rfl) (le_of h0 rfl ⟨rfl,trivial⟩ ⟨rfl,rfl,trivial⟩ rfl rfl rfl))
 rw [hk] at hZ
 dsimp only at hZ
 have r2:=ptake_yes (s:=s) hk (by omega) (by decide)
 have l2:=takO_len hk
 rcases hm:takO [45] t2 with _ | t3
 ·rw [hm] at hZ
  dsimp only at hZ
  have r3:=ptake_no (s:=s) hm (by omega) (by decide)
  rcases hc:colO s t2 with _ | ⟨c,t3⟩
  ·clear hZ
   obtain ⟨v,u,r4⟩:=pcol_no hc (by omega)
   refine ⟨v,ds, .sl 2 (ds.map pkL), .inr rfl,?_⟩
   refine gci Tryz.func151 35 fun E h0=>?_
   repeat' ((first|refine aops_go ?_|refine S1 ?_|refine Z1 ?_|refine Z2 ?_|(refine And.intro ?_ ?_<;>intro h<;>try first|(exfalso;omega)|exact absurd rfl h)|refine Z3 ?_|refine Z4 ?_|intro el hel hbB|intro el hel|intro ex|refine Z5 ?_|(refine free_i ?_ ?_;exact ⟨by kernel_rfl,by decide⟩)|refine allI_c ?_ ?_|exact allI_n|refine allMP_c ?_ ?_|exact allMP_n|(refine many_step ?_ ?_ ?_;kernel_rfl;kernel_rfl) | refine nc [0] [0] r1 rfl rfl rfl ⟨rfl,trivial⟩ ?_ | refine nc [0] [0] r2 rfl rfl rfl ⟨rfl,trivial⟩ ?_ | refine nc [0] [0] r3 rfl rfl rfl ⟨rfl,trivial⟩ ?_ | refine nc [0] [0] r4 rfl rfl rfl ⟨rfl,trivial⟩ ?_) <;> (try (conv=>whnf)))
   all_goals first
    | exact retg_tmp (le_trans (le_rd 0 rfl) (le_of h0 rfl ⟨rfl,trivial⟩ ⟨rfl,rfl,trivial⟩ rfl rfl rfl))
  ·rw [hc] at hZ;cases hZ
 ·rw [hm] at hZ;cases hZ
set_option maxHeartbeats 8000000 in
theorem ptable_yes (s:Sch) (t:List UInt8) (ht:t.length ≤ 1000000) {c:Int} {ds:List Pk} {u:List UInt8} (hZ:tabO s t = some ((c,ds),u)):GCall Tryz.prog 151 2 (tabB s (.str t) (.i 0) nilR) [.ref 0 0, .ref 1 0] 2 (tabB s (.str u) (.i c) (.sl 2 (ds.map pkL))) (.b true):=by
 unfold tabO at hZ
 have r1:=pdims_call s t ht _ rfl
 rcases hd:dimsO s (t.length + 1) [] t with _ | ⟨ds',t1⟩
 ·rw [hd] at hZ;cases hZ
 rw [hd] at hZ r1
 dsimp only at hZ
 dsimp only [hpO,tupO] at r1
 have l1:=dimsO_len hd
 rcases hk:takO bSep t1 with _ | t2
 ·rw [hk] at hZ;cases hZ
 rw [hk] at hZ
 dsimp only at hZ
 have r2:=ptake_yes (s:=s) hk (by omega) (by decide)
 have l2:=takO_len hk
 rcases hm:takO [45] t2 with _ | t3
 ·rw [hm] at hZ
  dsimp only at hZ
  have r3:=ptake_no (s:=s) hm (by omega) (by decide)
  rcases hc:colO s t2 with _ | ⟨c,t3⟩
  ·rw [hc] at hZ;cases hZ
  ·rw [hc] at hZ
   cases hZ
   obtain ⟨r4,l4⟩:=pcol_yes hc (by omega)
   refine gci Tryz.func151 35 fun E h0=>?_
   repeat' ((first|refine aops_go ?_|refine S1 ?_|refine Z1 ?_|refine Z2 ?_|(refine And.intro ?_ ?_<;>intro h<;>try first|(exfalso;omega)|exact absurd rfl h)|refine Z3 ?_|refine Z4 ?_|intro el hel hbB|intro el hel|intro ex|refine Z5 ?_|(refine free_i ?_ ?_;exact ⟨by kernel_rfl,by decide⟩)|refine allI_c ?_ ?_|exact allI_n|refine allMP_c ?_ ?_|exact allMP_n|(refine many_step ?_ ?_ ?_;kernel_rfl;kernel_rfl) | refine nc [0] [0] r1 rfl rfl rfl ⟨rfl,trivial⟩ ?_ | refine nc [0] [0] r2 rfl rfl rfl ⟨rfl,trivial⟩ ?_ | refine nc [0] [0] r3 rfl rfl rfl ⟨rfl,trivial⟩ ?_ | refine nc [0] [0] r4 rfl rfl rfl ⟨rfl,trivial⟩ ?_) <;> (try (conv=>whnf)))
   all_goals first
    | exact retg_tmp (le_of h0 rfl ⟨rfl,trivial⟩ ⟨rfl,rfl,trivial⟩ rfl rfl rfl)
 ·rw [hm] at hZ
  cases hZ
  have r3:=ptake_yes (s:=s) hm (by omega) (by decide)
  refine gci Tryz.func151 35 fun E h0=>?_
  repeat' ((first|refine aops_go ?_|refine S1 ?_|refine Z1 ?_|refine Z2 ?_|(refine And.intro ?_ ?_<;>intro h<;>try first|(exfalso;omega)|exact absurd rfl h)|refine Z3 ?_|refine Z4 ?_|intro el hel hbB|intro el hel|intro ex|refine Z5 ?_|(refine free_i ?_ ?_;exact ⟨by kernel_rfl,by decide⟩)|refine allI_c ?_ ?_|exact allI_n|refine allMP_c ?_ ?_|exact allMP_n|(refine many_step ?_ ?_ ?_;kernel_rfl;kernel_rfl) | refine nc [0] [0] r1 rfl rfl rfl ⟨rfl,trivial⟩ ?_ | refine nc [0] [0] r2 rfl rfl rfl ⟨rfl,trivial⟩ ?_ | refine nc [0] [0] r3 rfl rfl rfl ⟨rfl,trivial⟩ ?_) <;> (try (conv=>whnf)))
  all_goals first
   | exact retg_tmp (le_of h0 rfl ⟨rfl,trivial⟩ ⟨rfl,rfl,trivial⟩ rfl rfl rfl)
end Go.Proofs.YtjmbhlgocikfiaaGreatDoor

/- RegressBalances: what is left adds up to 0. -/
import Derived.Test.YtbhegmcbpolemaaDoorSJx4
import Derived.Test.YtbhegmcbpolemaaDoorSJw2
import Derived.Test.YtbhegmcbpolemaaDoorSOp1
set_option linter.unusedVariables false
set_option linter.unnecessarySimpa false
set_option linter.unusedSimpArgs false
namespace Go.Proofs.YtbhegmcbpolemaaDoor
open Go Go.Av
attribute [local irreducible] E3 B5 F2 F0 DQ F5 G8 St.le B6 D3
set_option maxRecDepth 100000
abbrev U7 (j m:Nat):List (Int × Int):=List.replicate j (0,1) ++ List.replicate m (0,0)
theorem OE (j m:Nat):((U7 j (m + 1)).map M1).set j [.i 0, .i 1] = (U7 (j + 1) m).map M1:=by
 have h1:(U7 j (m + 1)).set j (0,1) = U7 (j + 1) m:=by
  unfold U7
  rw [List.set_append_right _ _ (by rw [List.length_replicate];exact Nat.le_refl _),List.length_replicate,Nat.sub_self,List.replicate_succ,List.set_cons_zero,List.replicate_succ',List.append_assoc];rfl
 rw [← h1]
 exact (List.map_set (f:=M1) (a:=((0,1):Int × Int))).symm
theorem Pr (j m:Nat):(U7 j (m + 1))[j]? = some (0,0):=by
 unfold U7
 rw [List.getElem?_append_right (by rw [List.length_replicate];exact Nat.le_refl _),List.length_replicate,Nat.sub_self,List.replicate_succ];rfl
theorem OG (j m:Nat):(U7 j m).length = j + m:=by
 unfold U7;rw [List.length_append,List.length_replicate,List.length_replicate]
theorem Qw (m:Nat):List.replicate m [AV.i 0,AV.i 0] = (U7 0 m).map M1:=by
 unfold U7;rw [List.replicate_zero,List.nil_append,List.map_replicate]
theorem KR {P:Program} {E:Env} {n:Nat} {ops:Array Oper} {rest:List Oper} {σ:St} {K:St → Prop} (T:Nat) {x y:Operand} {ty:TypeId} {pos:String} {after:Array Edge} (h:B5 P E n ops (⟨none, .store T x y,ty,pos,after,none⟩ :: rest) σ K):B5 P E n ops (⟨none, .store T x y,ty,pos,after,none⟩ :: rest) σ K:=h
set_option maxHeartbeats 32000000 in
theorem Lz (l:List UInt8) (hl:l.length ≤ maxLen):B6 Tryd.prog 6 [.sl 1 (l.map Bj)] (.b true):=by
 unfold maxLen at hl
 have hL:(l.take 400).length ≤ 400:=List.length_take_le _ _
 have hnew:=Nw l (by omega)
 generalize l.take 400 = t at *
 have hrow:=IX t 0 hL
 obtain ⟨n,n2,n4,m1,m9,hR⟩:=OA t 0
 generalize Z7 t 0 = R at *
 obtain ⟨R,a0⟩:=R
 dsimp only at *
 have haw:=Ht
 have c1:=Dj R
 obtain ⟨r0,hr0⟩:∃ r,R[0]? = some r:=⟨_,List.getElem?_eq_getElem (by omega)⟩
 have hr02:R[((0:Int)).toNat]? = some r0:=hr0
 have hr0l:r0.length = n:=(hR r0 (List.mem_of_getElem? hr0)).1
 have hw:C8 R = n:=by rw [s9 hr0];exact hr0l
 have hx:X0 R = true:=(X1 R).2 ⟨by rw [hw];omega,fun r h=>by
  obtain ⟨h1,h2,_⟩:=hR r h
  exact ⟨by rw [hw];exact h1,fun x hx=>by have:=h2 x hx;omega⟩⟩
 have hcod:=Li hx (by omega)
 have hinv:∀ M,Y8 R = (0,M) → w9 R n M:=fun M h=>by
  have:=(Pd h).2.2.2
  rw [hw] at this;exact this
 generalize Y8 R = F at *
 obtain ⟨e,cs,⟨r1,r1'⟩,⟨t1,t1'⟩,cn,fr⟩:=F
 dsimp only at hcod
 by_cases he:e = 0
 rotate_left
 ·have hcod:=hcod he
  clear hinv hx
  refine E1 Tryd.func6 193 fun hrd E h0=>?_
  clear hrd
  repeat' ((first | refine s8 [] [] hnew rfl rfl rfl rfl rfl trivial rfl rfl rfl rfl rfl ?_ | refine nc [0] [0] hrow rfl rfl rfl ⟨rfl,trivial⟩ ?_ | refine A4 c1 ?_ | refine A4 haw ?_ |refine A6 ?_|refine S1 ?_|refine Z1 ?_|refine Z2 ?_|(refine And.intro ?_ ?_<;>intro h<;>try first|(exfalso;omega)|exact absurd rfl h)|refine Z3 ?_|refine Z4 ?_|intro el hel hbB|intro el hel|intro ex|refine Z5 ?_|(refine B2 ?_ ?_;exact ⟨by kernel_rfl,by decide⟩)|refine B0 ?_ ?_|exact A9|refine A8 ?_ ?_|exact A7|(refine A3 ?_ ?_ ?_;kernel_rfl;kernel_rfl)) <;> (try (conv=>whnf)))
  all_goals first
   | (exfalso;omega)
   | exact C1 rfl rfl
 subst he
 have hf:=hinv _ rfl
 have hcl:cs.length = n:=hf.len
 have hcn:cn = R.length:=hf.cnt
 have hfr:fr = R.length - n:=hf.free
 have hsg:=Nc (by omega) m1 hf
 have okr:okF (r1,r1'):=((u3 hf.det).2 hf.res).1
 have okt:okF (t1,t1'):=by
  have ht:=hf.tot
  unfold CP at ht
  exact ((u3 (by omega)).2 ht).1
 have l1:=GC (r1,r1') (0,1) okr (Co (by decide))
 have l2:=GC (t1,t1') (r1,r1') okt okr
 dsimp only at hsg
 rw [hsg.1] at l1
 rw [hsg.2] at l2
 have hfin:=fun S h=>Nb (S:=S) hf h
 have hgv:=fun r hr=>Na (r:=r) (by omega) hf hr
 have hstep:=fun i j S r d=>Lk (l:=R) (n:=n) (i:=i) (j:=j) (S:=S) (r:=r) (d:=d) (by omega) hf.det
 have hin0:=Qi R n
 dsimp only at hfin hgv
 clear hf hinv hx hcod hsg okr okt
 refine E1 Tryd.func6 193 fun hrd E h0=>?_
 clear hrd
 repeat' ((first | refine s8 [] [] hnew rfl rfl rfl rfl rfl trivial rfl rfl rfl rfl rfl ?_ | refine nc [0] [0] hrow rfl rfl rfl ⟨rfl,trivial⟩ ?_ | refine A4 c1 ?_ | (refine B4 (x:=r0) hr02 (by omega) ?_) | (refine U2 ?_ ?_;kernel_rfl) |refine A6 ?_|refine S1 ?_|refine Z1 ?_|refine Z2 ?_|(refine And.intro ?_ ?_<;>intro h<;>try first|(exfalso;omega)|exact absurd rfl h)|refine Z3 ?_|refine Z4 ?_|intro el hel hbB|intro el hel|intro ex|refine Z5 ?_|(refine B2 ?_ ?_;exact ⟨by kernel_rfl,by decide⟩)|refine B0 ?_ ?_|exact A9|refine A8 ?_ ?_|exact A7|(refine A3 ?_ ?_ ?_;kernel_rfl;kernel_rfl)) <;> (try (conv=>whnf)))
 all_goals first
  | (exfalso;omega)
  | (exfalso;dsimp only at h;omega)
  | skip
 refine F4 (ι:=Nat) (fun j=>⟨[(3,C3 R),(4, .iptr (P4 ⟨cs,(r1,r1'),(t1,t1'),cn,fr⟩)),(6, .row 2 0 (n + 1)),(75, .i ((n + 1:Nat):Int)),(76, .i j)],3,[(2,some (.row 31 2 0 ((U7 j (n + 1 - j)).map M1)))]⟩) (fun j=>j ≤ n + 1) (fun j=>n + 1 - j) 0 (Nat.zero_le _)
  (B3 h0 rfl ⟨rfl,rfl,congrArg (fun z:Nat=>some (AV.row 2 0 z)) (by simp [hr0l]),congrArg (fun z:Int=>some (AV.i z)) (by simp [hr0l]),rfl,trivial⟩ ⟨⟨_,congrArg (E0.row 31 2 _) (by rw [Nat.sub_zero, ← Qw, ← hr0l];exact congrArg (fun k=>List.replicate k [AV.i 0,AV.i 0]) (by omega))⟩,trivial⟩ rfl rfl rfl) (fun j hj=>?_)
 by_cases hjn:j < n + 1
 ·obtain ⟨m,hm⟩:∃ m,n + 1 - j = m + 1:=⟨n - j,by omega⟩
  have hm2:n + 1 - (j + 1) = m:=by omega
  have hset:=OE j m
  have hat:=Pr j m
  have hln:=OG j (m + 1)
  have hml:((U7 j (m + 1)).map M1).length = n + 1:=by rw [List.length_map,hln];omega
  have hcell:((U7 j (m + 1)).map M1)[((((j:Nat):Int).toNat:Nat):Int).toNat]? = some [.i 0, .i 0]:=by rw [Int.toNat_natCast,Int.toNat_natCast,List.getElem?_map,hat];rfl
  rw [hm]
  generalize U7 j (m + 1) = S at *
  repeat' ((first | (refine I2 (x:=[.i 0, .i 0]) hcell (by omega) ?_) |refine A6 ?_|refine S1 ?_|refine Z1 ?_|refine Z2 ?_|(refine And.intro ?_ ?_<;>intro h<;>try first|(exfalso;omega)|exact absurd rfl h)|refine Z3 ?_|refine Z4 ?_|intro el hel hbB|intro el hel|intro ex|refine Z5 ?_|(refine B2 ?_ ?_;exact ⟨by kernel_rfl,by decide⟩)|refine B0 ?_ ?_|exact A9|refine A8 ?_ ?_|exact A7|(refine A3 ?_ ?_ ?_;kernel_rfl;kernel_rfl)) <;> (try (conv=>whnf)))
  all_goals first
   | (exfalso;omega)
   | exact ⟨j + 1,by omega,by omega,by rw [hm2];exact B3 h0 rfl ⟨rfl,rfl,rfl,rfl,rfl,trivial⟩ ⟨⟨_,congrArg (E0.row 31 2 _) hset.symm⟩,trivial⟩ rfl rfl rfl⟩
 have hjj:j = n + 1:=by omega
 subst hjj
 have hrep:U7 (n + 1) (n + 1 - (n + 1)) = List.replicate (n + 1) (0,1):=by unfold U7;rw [Nat.sub_self,List.replicate_zero,List.append_nil]
 rw [hrep]
 generalize hS0:List.replicate (n + 1) ((0,1):Int × Int) = S0 at *
 repeat' ((first|refine A6 ?_|refine S1 ?_|refine Z1 ?_|refine Z2 ?_|(refine And.intro ?_ ?_<;>intro h<;>try first|(exfalso;omega)|exact absurd rfl h)|refine Z3 ?_|refine Z4 ?_|intro el hel hbB|intro el hel|intro ex|refine Z5 ?_|(refine B2 ?_ ?_;exact ⟨by kernel_rfl,by decide⟩)|refine B0 ?_ ?_|exact A9|refine A8 ?_ ?_|exact A7|(refine A3 ?_ ?_ ?_;kernel_rfl;kernel_rfl)) <;> (try (conv=>whnf)))
 all_goals first
  | (exfalso;omega)
  | skip
 refine F4 (ι:=Nat × List (Int × Int)) (fun s=>⟨[(3,C3 R),(4, .iptr (P4 ⟨cs,(r1,r1'),(t1,t1'),cn,fr⟩)),(6, .row 2 0 (n + 1)),(84,C3 R),(85, .i R.length),(86, .i s.1)],3,[(2,some (.row 31 2 0 (s.2.map M1)))]⟩) (fun s=>s.1 ≤ R.length ∧ CS R n s.1 0 s.2) (fun s=>R.length - s.1) (0,S0) ⟨Nat.zero_le _,hin0⟩
  (B3 h0 rfl ⟨rfl,rfl,rfl,rfl,rfl,rfl,trivial⟩ ⟨⟨_,rfl⟩,trivial⟩ rfl rfl rfl) (fun s hI=>?_)
 obtain ⟨i,S⟩:=s
 obtain ⟨hi,hI⟩:=hI
 dsimp only at hi hI ⊢
 clear hin0
 by_cases hiR:i < R.length
 ·obtain ⟨r,hr⟩:∃ r,R[i]? = some r:=⟨_,List.getElem?_eq_getElem hiR⟩
  have hr2:R[((i:Nat):Int).toNat]? = some r:=hr
  obtain ⟨hrl,hrb,_⟩:=hR r (List.mem_of_getElem? hr)
  have hrB:∀ x ∈ r, -1000000 ≤ x ∧ x ≤ 1000000:=fun x hx=>by have:=hrb x hx;omega
  have c2:=KN cs r1 r1' t1 t1' cn fr r (by omega) (by omega)
  have hgv:=hgv r hrB
  generalize BX cs r = G at *
  obtain ⟨⟨d1,d2⟩,ok⟩:=G
  dsimp only at hgv c2
  cases ok with
  | false =>
    repeat' ((first | (refine B4 (x:=r) hr2 (by omega) ?_) | refine A4 c2 ?_ | refine A4 haw ?_ |refine A6 ?_|refine S1 ?_|refine Z1 ?_|refine Z2 ?_|(refine And.intro ?_ ?_<;>intro h<;>try first|(exfalso;omega)|exact absurd rfl h)|refine Z3 ?_|refine Z4 ?_|intro el hel hbB|intro el hel|intro ex|refine Z5 ?_|(refine B2 ?_ ?_;exact ⟨by kernel_rfl,by decide⟩)|refine B0 ?_ ?_|exact A9|refine A8 ?_ ?_|exact A7|(refine A3 ?_ ?_ ?_;kernel_rfl;kernel_rfl)) <;> (try (conv=>whnf)))
    all_goals first
     | (exfalso;omega)
     | exact C1 rfl rfl
  | true =>
    have hd:=hgv rfl
    clear hgv
    have hSl:=hI.1
    repeat' ((first | (refine B4 (x:=r) hr2 (by omega) ?_) | refine A4 c2 ?_ |refine A6 ?_|refine S1 ?_|refine Z1 ?_|refine Z2 ?_|(refine And.intro ?_ ?_<;>intro h<;>try first|(exfalso;omega)|exact absurd rfl h)|refine Z3 ?_|refine Z4 ?_|intro el hel hbB|intro el hel|intro ex|refine Z5 ?_|(refine B2 ?_ ?_;exact ⟨by kernel_rfl,by decide⟩)|refine B0 ?_ ?_|exact A9|refine A8 ?_ ?_|exact A7|(refine A3 ?_ ?_ ?_;kernel_rfl;kernel_rfl)) <;> (try (conv=>whnf)))
    all_goals first
     | (exfalso;omega)
     | skip
    refine F4 (ι:=Nat × List (Int × Int)) (fun s=>⟨[(3,C3 R),(4, .iptr (P4 ⟨cs,(r1,r1'),(t1,t1'),cn,fr⟩)),(6, .row 2 0 (n + 1)),(9,C2 r),(10, .iptr [.i d1, .i d2]),(84,C3 R),(85, .i R.length),(86, .i i),(100, .i ((n + 1:Nat):Int)),(101, .i s.1)],4,[(2,some (.row 31 2 0 (s.2.map M1)))]⟩) (fun s=>s.1 ≤ n + 1 ∧ CS R n i s.1 s.2) (fun s=>n + 1 - s.1) (0,S) ⟨Nat.zero_le _,hI⟩
     (B3 h0 rfl ⟨rfl,rfl,rfl,rfl,rfl,rfl,rfl,rfl,rfl,rfl,trivial⟩ ⟨⟨_,rfl⟩,trivial⟩ rfl rfl rfl) (fun s hI=>?_)
    obtain ⟨j,S⟩:=s
    obtain ⟨hj,hI⟩:=hI
    dsimp only at hj hI ⊢
    clear hSl
    have hSl:=hI.1
    by_cases hjn:j < n + 1
    rotate_left
    ·have hjj:j = n + 1:=by omega
     subst hjj
     have hI2:=Lj hI
     repeat' ((first|refine A6 ?_|refine S1 ?_|refine Z1 ?_|refine Z2 ?_|(refine And.intro ?_ ?_<;>intro h<;>try first|(exfalso;omega)|exact absurd rfl h)|refine Z3 ?_|refine Z4 ?_|intro el hel hbB|intro el hel|intro ex|refine Z5 ?_|(refine B2 ?_ ?_;exact ⟨by kernel_rfl,by decide⟩)|refine B0 ?_ ?_|exact A9|refine A8 ?_ ?_|exact A7|(refine A3 ?_ ?_ ?_;kernel_rfl;kernel_rfl)) <;> (try (conv=>whnf)))
     all_goals first
      | (exfalso;omega)
      | exact ⟨(i + 1,S),⟨by dsimp only;omega,hI2⟩,by dsimp only;omega,B3 h0 rfl ⟨rfl,rfl,rfl,rfl,rfl,rfl,trivial⟩ ⟨⟨_,rfl⟩,trivial⟩ rfl rfl rfl⟩
    have hst:=hstep i j S r (d1,d2) hr hrB hd (by omega) hI
    obtain ⟨⟨s1,s2⟩,hs⟩:∃ x,S[j]? = some x:=⟨_,List.getElem?_eq_getElem (by omega)⟩
    have hsg:S.getD j (0,0) = (s1,s2):=by rw [List.getD_eq_getElem?_getD,hs];rfl
    rw [hsg] at hst
    have hml:(S.map M1).length = n + 1:=by rw [List.length_map];exact hSl
    have hcell:(S.map M1)[((((j:Nat):Int).toNat:Nat):Int).toNat]? = some [.i s1, .i s2]:=by rw [Int.toNat_natCast,Int.toNat_natCast,List.getElem?_map,hs];rfl
    have hcellj:(S.map M1)[j]? = some [.i s1, .i s2]:=by rw [List.getElem?_map,hs];rfl
    have c4:=Hj (d1,d2) (Ab r n j (d1,d2))
    obtain ⟨⟨u1,u2⟩,hU⟩:∃ u,Ab r n j (d1,d2) = u:=⟨_,rfl⟩
    have hu:(u1,u2) = if j = n then (d1,d2) else if 0 < j then (r.getD j 0,1) else (1,1):=hU.symm
    rw [hU] at c4 hst
    generalize AL (d1,d2) (u1,u2) = X at *
    obtain ⟨e1,x1,x2⟩:=X
    dsimp only at hst
    have c5:=Hi (s1,s2) (x1,x2)
    generalize Al (s1,s2) (x1,x2) = Y at *
    obtain ⟨e2,y1,y2⟩:=Y
    dsimp only at hst
    have hset:(S.map M1).set j [.i y1, .i y2] = (S.set j (y1,y2)).map M1:=(List.map_set (f:=M1) (a:=(y1,y2))).symm
    clear hU hI hfin hstep
    by_cases hz:j = 0
    ·rw [if_neg (by omega),if_neg (by omega)] at hu
     obtain ⟨rfl,rfl⟩:=Prod.mk.inj hu
     repeat' ((first | refine A4 c4 ?_ | refine A4 c5 ?_ | refine A4 haw ?_ | (refine I2 (x:=[.i s1, .i s2]) hcell (by omega) ?_) | (refine KR 31 ?_;refine Z6 hcellj rfl rfl rfl ?_ ?_ ?_ ?_ ?_ rfl ?_;exact trivial;exact ⟨.v rfl, .v rfl,trivial⟩;rfl;rfl;decide) | (refine S7 28 ?_;refine S8 (id:=28) (σ':=⟨[(3,C3 R),(4, .iptr (P4 ⟨cs,(r1,r1'),(t1,t1'),cn,fr⟩)),(6, .row 2 0 (n + 1)),(9,C2 r),(10, .iptr [.i d1, .i d2]),(12, .i j),(14, .iptr [.i x1, .i x2]),(15, .i e1),(84,C3 R),(85, .i R.length),(86, .i i),(100, .i ((n + 1:Nat):Int)),(101, .i j)],6,[(2,some (.row 31 2 0 (S.map M1)))]⟩) (B3 h0 rfl ⟨rfl,rfl,rfl,rfl,rfl,rfl,rfl,rfl,rfl,rfl,rfl,rfl,rfl,trivial⟩ ⟨⟨_,rfl⟩,trivial⟩ rfl rfl rfl) ?_;refine F6 (id:=28) ⟨[(3,C3 R),(4, .iptr (P4 ⟨cs,(r1,r1'),(t1,t1'),cn,fr⟩)),(6, .row 2 0 (n + 1)),(9,C2 r),(10, .iptr [.i d1, .i d2]),(12, .i j),(15, .i e1),(16, .ref 6 0),(17, .i e2),(84,C3 R),(85, .i R.length),(86, .i i),(100, .i ((n + 1:Nat):Int)),(101, .i j)],7,[(2,some (.row 31 2 0 (S.map M1))),(6,some (.box [.i y1, .i y2]))]⟩ ?_ ?_) |refine A6 ?_|refine S1 ?_|refine Z1 ?_|refine Z2 ?_|(refine And.intro ?_ ?_<;>intro h<;>try first|(exfalso;omega)|exact absurd rfl h)|refine Z3 ?_|refine Z4 ?_|intro el hel hbB|intro el hel|intro ex|refine Z5 ?_|(refine B2 ?_ ?_;exact ⟨by kernel_rfl,by decide⟩)|refine B0 ?_ ?_|exact A9|refine A8 ?_ ?_|exact A7|(refine A3 ?_ ?_ ?_;kernel_rfl;kernel_rfl)) <;> (try (conv=>whnf)))
     all_goals first
      | (exfalso;omega)
      | exact C1 rfl rfl
      | exact B3 h0 rfl ⟨rfl,rfl,rfl,rfl,rfl,rfl,rfl,rfl,rfl,rfl,rfl,rfl,rfl,rfl,trivial⟩ ⟨⟨_,rfl⟩,rfl,trivial⟩ rfl rfl rfl
      | exact ⟨(j + 1,S.set j (y1,y2)),⟨by dsimp only;omega,hst (by omega) (by omega)⟩,by dsimp only;omega,B3 h0 rfl ⟨rfl,rfl,rfl,rfl,rfl,rfl,rfl,rfl,rfl,rfl,trivial⟩ ⟨⟨_,congrArg (E0.row 31 2 _) hset.symm⟩,trivial⟩ rfl rfl rfl⟩
    by_cases hjn2:j = n
    ·rw [if_pos hjn2] at hu
     obtain ⟨rfl,rfl⟩:=Prod.mk.inj hu
     repeat' ((first | refine A4 c4 ?_ | refine A4 c5 ?_ | refine A4 haw ?_ | (refine I2 (x:=[.i s1, .i s2]) hcell (by omega) ?_) | (refine KR 31 ?_;refine Z6 hcellj rfl rfl rfl ?_ ?_ ?_ ?_ ?_ rfl ?_;exact trivial;exact ⟨.v rfl, .v rfl,trivial⟩;rfl;rfl;decide) | (refine S7 28 ?_;refine S8 (id:=28) (σ':=⟨[(3,C3 R),(4, .iptr (P4 ⟨cs,(r1,r1'),(t1,t1'),cn,fr⟩)),(6, .row 2 0 (n + 1)),(9,C2 r),(10, .iptr [.i u1, .i u2]),(12, .i j),(14, .iptr [.i x1, .i x2]),(15, .i e1),(84,C3 R),(85, .i R.length),(86, .i i),(100, .i ((n + 1:Nat):Int)),(101, .i j)],6,[(2,some (.row 31 2 0 (S.map M1)))]⟩) (B3 h0 rfl ⟨rfl,rfl,rfl,rfl,rfl,rfl,rfl,rfl,rfl,rfl,rfl,rfl,rfl,trivial⟩ ⟨⟨_,rfl⟩,trivial⟩ rfl rfl rfl) ?_;refine F6 (id:=28) ⟨[(3,C3 R),(4, .iptr (P4 ⟨cs,(r1,r1'),(t1,t1'),cn,fr⟩)),(6, .row 2 0 (n + 1)),(9,C2 r),(10, .iptr [.i u1, .i u2]),(12, .i j),(15, .i e1),(16, .ref 6 0),(17, .i e2),(84,C3 R),(85, .i R.length),(86, .i i),(100, .i ((n + 1:Nat):Int)),(101, .i j)],7,[(2,some (.row 31 2 0 (S.map M1))),(6,some (.box [.i y1, .i y2]))]⟩ ?_ ?_) |refine A6 ?_|refine S1 ?_|refine Z1 ?_|refine Z2 ?_|(refine And.intro ?_ ?_<;>intro h<;>try first|(exfalso;omega)|exact absurd rfl h)|refine Z3 ?_|refine Z4 ?_|intro el hel hbB|intro el hel|intro ex|refine Z5 ?_|(refine B2 ?_ ?_;exact ⟨by kernel_rfl,by decide⟩)|refine B0 ?_ ?_|exact A9|refine A8 ?_ ?_|exact A7|(refine A3 ?_ ?_ ?_;kernel_rfl;kernel_rfl)) <;> (try (conv=>whnf)))
     all_goals first
      | (exfalso;omega)
      | exact C1 rfl rfl
      | exact B3 h0 rfl ⟨rfl,rfl,rfl,rfl,rfl,rfl,rfl,rfl,rfl,rfl,rfl,rfl,rfl,rfl,trivial⟩ ⟨⟨_,rfl⟩,rfl,trivial⟩ rfl rfl rfl
      | exact ⟨(j + 1,S.set j (y1,y2)),⟨by dsimp only;omega,hst (by omega) (by omega)⟩,by dsimp only;omega,B3 h0 rfl ⟨rfl,rfl,rfl,rfl,rfl,rfl,rfl,rfl,rfl,rfl,trivial⟩ ⟨⟨_,congrArg (E0.row 31 2 _) hset.symm⟩,trivial⟩ rfl rfl rfl⟩
    ·rw [if_neg hjn2,if_pos (by omega)] at hu
     obtain ⟨y,hy⟩:∃ x,r[j]? = some x:=⟨_,List.getElem?_eq_getElem (by omega)⟩
     have hy2:r[((j:Nat):Int).toNat]? = some y:=hy
     have hyg:r.getD j 0 = y:=by rw [List.getD_eq_getElem?_getD,hy];rfl
     rw [hyg] at hu
     obtain ⟨rfl,rfl⟩:=Prod.mk.inj hu
     repeat' ((first | refine A4 c4 ?_ | refine A4 c5 ?_ | refine A4 haw ?_ | (refine B4 (x:=u1) hy2 (by omega) ?_) | (refine I2 (x:=[.i s1, .i s2]) hcell (by omega) ?_) | (refine KR 31 ?_;refine Z6 hcellj rfl rfl rfl ?_ ?_ ?_ ?_ ?_ rfl ?_;exact trivial;exact ⟨.v rfl, .v rfl,trivial⟩;rfl;rfl;decide) | (refine S7 28 ?_;refine S8 (id:=28) (σ':=⟨[(3,C3 R),(4, .iptr (P4 ⟨cs,(r1,r1'),(t1,t1'),cn,fr⟩)),(6, .row 2 0 (n + 1)),(9,C2 r),(10, .iptr [.i d1, .i d2]),(12, .i j),(14, .iptr [.i x1, .i x2]),(15, .i e1),(84,C3 R),(85, .i R.length),(86, .i i),(100, .i ((n + 1:Nat):Int)),(101, .i j)],6,[(2,some (.row 31 2 0 (S.map M1)))]⟩) (B3 h0 rfl ⟨rfl,rfl,rfl,rfl,rfl,rfl,rfl,rfl,rfl,rfl,rfl,rfl,rfl,trivial⟩ ⟨⟨_,rfl⟩,trivial⟩ rfl rfl rfl) ?_;refine F6 (id:=28) ⟨[(3,C3 R),(4, .iptr (P4 ⟨cs,(r1,r1'),(t1,t1'),cn,fr⟩)),(6, .row 2 0 (n + 1)),(9,C2 r),(10, .iptr [.i d1, .i d2]),(12, .i j),(15, .i e1),(16, .ref 6 0),(17, .i e2),(84,C3 R),(85, .i R.length),(86, .i i),(100, .i ((n + 1:Nat):Int)),(101, .i j)],7,[(2,some (.row 31 2 0 (S.map M1))),(6,some (.box [.i y1, .i y2]))]⟩ ?_ ?_) |refine A6 ?_|refine S1 ?_|refine Z1 ?_|refine Z2 ?_|(refine And.intro ?_ ?_<;>intro h<;>try first|(exfalso;omega)|exact absurd rfl h)|refine Z3 ?_|refine Z4 ?_|intro el hel hbB|intro el hel|intro ex|refine Z5 ?_|(refine B2 ?_ ?_;exact ⟨by kernel_rfl,by decide⟩)|refine B0 ?_ ?_|exact A9|refine A8 ?_ ?_|exact A7|(refine A3 ?_ ?_ ?_;kernel_rfl;kernel_rfl)) <;> (try (conv=>whnf)))
     all_goals first
      | (exfalso;omega)
      | exact C1 rfl rfl
      | exact B3 h0 rfl ⟨rfl,rfl,rfl,rfl,rfl,rfl,rfl,rfl,rfl,rfl,rfl,rfl,rfl,rfl,trivial⟩ ⟨⟨_,rfl⟩,rfl,trivial⟩ rfl rfl rfl
      | exact ⟨(j + 1,S.set j (y1,y2)),⟨by dsimp only;omega,hst (by omega) (by omega)⟩,by dsimp only;omega,B3 h0 rfl ⟨rfl,rfl,rfl,rfl,rfl,rfl,rfl,rfl,rfl,rfl,trivial⟩ ⟨⟨_,congrArg (E0.row 31 2 _) hset.symm⟩,trivial⟩ rfl rfl rfl⟩
 have hii:i = R.length:=by omega
 subst hii
 obtain ⟨hz0,hzn⟩:=hfin S hI
 have hSl:=hI.1
 have hml:(S.map M1).length = n + 1:=by rw [List.length_map];exact hSl
 obtain ⟨⟨w1,w2⟩,hwn⟩:∃ x,S[n]? = some x:=⟨_,List.getElem?_eq_getElem (by omega)⟩
 have hwn2:S[((n:Nat):Int).toNat]? = some (w1,w2):=hwn
 have hwe:(w1,w2) = (r1,r1'):=by rw [← hzn,List.getD_eq_getElem?_getD,hwn];rfl
 obtain ⟨rfl,rfl⟩:=Prod.mk.inj hwe
 repeat' ((first|refine A6 ?_|refine S1 ?_|refine Z1 ?_|refine Z2 ?_|(refine And.intro ?_ ?_<;>intro h<;>try first|(exfalso;omega)|exact absurd rfl h)|refine Z3 ?_|refine Z4 ?_|intro el hel hbB|intro el hel|intro ex|refine Z5 ?_|(refine B2 ?_ ?_;exact ⟨by kernel_rfl,by decide⟩)|refine B0 ?_ ?_|exact A9|refine A8 ?_ ?_|exact A7|(refine A3 ?_ ?_ ?_;kernel_rfl;kernel_rfl)) <;> (try (conv=>whnf)))
 all_goals first
  | (exfalso;omega)
  | skip
 refine F4 (ι:=Nat) (fun k=>⟨[(3,C3 R),(4, .iptr (P4 ⟨cs,(w1,w2),(t1,t1'),cn,fr⟩)),(6, .sl 2 (S.map M1)),(18, .i k)],3,[]⟩) (fun k=>k ≤ n) (fun k=>n - k) 0 (Nat.zero_le _)
  (B3 h0 rfl ⟨rfl,rfl,rfl,rfl,trivial⟩ trivial rfl rfl rfl) (fun k hk=>?_)
 by_cases hkn:k < n
 ·obtain ⟨⟨z1,z2⟩,hz⟩:∃ x,S[k]? = some x:=⟨_,List.getElem?_eq_getElem (by omega)⟩
  have hz2:S[((k:Nat):Int).toNat]? = some (z1,z2):=hz
  have hz1:=hz0 k hkn
  rw [List.getD_eq_getElem?_getD,hz] at hz1
  have hz1:z1 = 0:=hz1
  subst hz1
  repeat' ((first | (refine B4 (x:=r0) hr02 (by omega) ?_) | (refine B4 (x:=((0:Int),z2)) hz2 (by omega) ?_) |refine A6 ?_|refine S1 ?_|refine Z1 ?_|refine Z2 ?_|(refine And.intro ?_ ?_<;>intro h<;>try first|(exfalso;omega)|exact absurd rfl h)|refine Z3 ?_|refine Z4 ?_|intro el hel hbB|intro el hel|intro ex|refine Z5 ?_|(refine B2 ?_ ?_;exact ⟨by kernel_rfl,by decide⟩)|refine B0 ?_ ?_|exact A9|refine A8 ?_ ?_|exact A7|(refine A3 ?_ ?_ ?_;kernel_rfl;kernel_rfl)) <;> (try (conv=>whnf)))
  all_goals first
   | (exfalso;omega)
   | (exfalso;exact h rfl)
   | exact ⟨k + 1,by omega,by omega,B3 h0 rfl ⟨rfl,rfl,rfl,rfl,trivial⟩ trivial rfl rfl rfl⟩
 ·have hkk:k = n:=by omega
  subst hkk
  have hwn3:S[((r0.length:Nat):Int).toNat]? = some (w1,w2):=by rw [hr0l];exact hwn
  repeat' ((first | refine A4 haw ?_ | refine A4 l1 ?_ | refine A4 l2 ?_ | (refine B4 (x:=r0) hr02 (by omega) ?_) | (refine B4 (x:=(w1,w2)) hwn3 (by omega) ?_) | (refine U2 ?_ ?_;kernel_rfl) |refine A6 ?_|refine S1 ?_|refine Z1 ?_|refine Z2 ?_|(refine And.intro ?_ ?_<;>intro h<;>try first|(exfalso;omega)|exact absurd rfl h)|refine Z3 ?_|refine Z4 ?_|intro el hel hbB|intro el hel|intro ex|refine Z5 ?_|(refine B2 ?_ ?_;exact ⟨by kernel_rfl,by decide⟩)|refine B0 ?_ ?_|exact A9|refine A8 ?_ ?_|exact A7|(refine A3 ?_ ?_ ?_;kernel_rfl;kernel_rfl)) <;> (try (conv=>whnf)))
  all_goals first
   | (exfalso;omega)
   | exact C1 rfl rfl
   | (exfalso;exact h ⟨rfl,rfl⟩)
theorem OH (l:List AV) (h:Ci Tryd.prog Tryd.f6.params.toList l):B6 Tryd.prog 6 l (.b true):=by
 obtain ⟨a1,r1,rfl,h1,rfl⟩:=h
 obtain ⟨l,hl,rfl⟩:=Qv h1
 exact Lz l hl
end Go.Proofs.YtbhegmcbpolemaaDoor

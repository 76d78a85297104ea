/- Chapter 2: the reference's rows, names, coarse values. Chapter 2: the reference's leaves, blocks, and values that can be. -/
import Derived.Test.YthkklceofokkmaaGreatDoorBB9
import Derived.Test.YthkklceofokkmaaGreatDoorBCd1
import Derived.Test.YthkklceofokkmaaGreatDoorBCm2
import Derived.Test.YthkklceofokkmaaGreatDoorBCm1
import Derived.Test.YthkklceofokkmaaGreatDoorBE3
import Derived.Test.YthkklceofokkmaaGreatDoorBD2
import Derived.Test.YthkklceofokkmaaGreatDoorBC1
import Derived.Test.YthkklceofokkmaaGreatDoorBRp1
set_option linter.unusedVariables false
set_option linter.unnecessarySimpa false
set_option linter.unusedSimpArgs false
namespace Go.Proofs.YthkklceofokkmaaGreatDoor
open Go Go.Av
attribute [local irreducible] E5 B7 E6 E7 DQ E8 F0 St.le B3 B5
set_option maxRecDepth 100000
set_option maxHeartbeats 4000000 in
theorem IC (s:B2) (column:Int):B3 Tryz.prog 102 [sA s, .i column] (.i (I3 s column)):=by
 refine F7 Tryz.func102 39 fun hrd E h0=>?_
 obtain ⟨hl1,hl2,hl3⟩:=Cl (s:=s) (hrd _ (by simp))
 have hlb:=fun (l:CL) (hl:s.lists[(C6 s column).lst.toNat]? = some l)=>GT (nm:=l.1) (hl3 l (List.mem_of_getElem? hl))
 clear hrd
 repeat' ((first | refine B0 (Af s) ?_ |refine A1 ?_|refine S1 ?_|refine Z1 ?_|refine Z2 ?_|(refine And.intro ?_ ?_<;>intro h<;>try first|(exfalso;omega)|exact absurd rfl h)|refine Z3 ?_|refine Z4 ?_|intro el hel hbB|intro el hel|intro ex|refine Z5 ?_|(refine A8 ?_ ?_;exact ⟨by kernel_rfl,by decide⟩)|refine A7 ?_ ?_|exact A6|refine A3 ?_ ?_|exact A2|(refine A0 ?_ ?_ ?_;kernel_rfl;kernel_rfl)) <;> (try (conv=>whnf)))
 all_goals first
  | exact A9 rfl (congrArg AV.i (by rw [I3,if_neg (by assumption)]))
  | exact A9 rfl (congrArg AV.i (by rw [I3,if_pos (Classical.byContradiction (by assumption)),R7,if_pos (by omega)]))
  | skip
 all_goals
  have hr:C8 s = 0:=Classical.byContradiction (by assumption)
  rw [I3,if_pos hr]
 repeat' ((first | (refine B0 (Pb _ _ (hl3 _ (List.mem_of_getElem? (by assumption)))) ?_) | (refine Ce ?_ ?_ (fun lx hlx=>?_);(have:=Aa.lst hr (List.mem_of_getElem? hel) (by assumption);omega);(have:=Aa.lst hr (List.mem_of_getElem? hel) (by assumption);omega)) | (refine G2 ?_ ?_;(have:=hlb lx (by rw [E0 hel];exact hlx);omega)) |refine A1 ?_|refine S1 ?_|refine Z1 ?_|refine Z2 ?_|(refine And.intro ?_ ?_<;>intro h<;>try first|(exfalso;omega)|exact absurd rfl h)|refine Z3 ?_|refine Z4 ?_|intro el hel hbB|intro el hel|intro ex|refine Z5 ?_|(refine A8 ?_ ?_;exact ⟨by kernel_rfl,by decide⟩)|refine A7 ?_ ?_|exact A6|refine A3 ?_ ?_|exact A2|(refine A0 ?_ ?_ ?_;kernel_rfl;kernel_rfl)) <;> (try (conv=>whnf)))
 all_goals first
  | (refine A9 rfl (congrArg AV.i ?_);rw [R7,if_neg (by omega),E0 hel,Au,if_pos (by assumption),Q1 hlx];done)
  | (refine A9 rfl (congrArg AV.i ?_);rw [R7,if_neg (by omega),E0 hel,Au,if_neg (by assumption)];done)
end Go.Proofs.YthkklceofokkmaaGreatDoor
namespace Go.Proofs.YthkklceofokkmaaGreatDoor
open Go Go.Av
attribute [local irreducible] E5 B7 E6 E7 DQ E8 F0 St.le B3 B5
set_option maxRecDepth 100000
end Go.Proofs.YthkklceofokkmaaGreatDoor
namespace Go.Proofs.YthkklceofokkmaaGreatDoor
open Go Go.Av
attribute [local irreducible] E5 B7 E6 E7 DQ E8 F0 St.le B3 B5
set_option maxRecDepth 100000
def CK (l:List UInt8) (s:B2):List Nat → List Pk × Nat → List Pk × Nat
 | [],x=>x
 | c :: r,x=>CK l s r (x.1 ++ [⟨c,(B9 l x.2 (I3 s c + 1)).1⟩],(B9 l x.2 (I3 s c + 1)).2)
def Ar (l:List UInt8) (a:Nat) (s:B2):List Pk × Nat :=
 if ((B9 l a 2).1:Int) = 2 - 1 then CK l s ((H2 s 2 s.cols.length).drop (B9 l (B9 l a 2).2 (H2 s 2 s.cols.length).length).1) ([],(B9 l (B9 l a 2).2 (H2 s 2 s.cols.length).length).2)
 else CK l s (H2 s 2 s.cols.length) ([],(B9 l a 2).2)
def r9 (l:List UInt8) (m:Int):List Nat → List Int × Nat → List Int × Nat
 | [],x=>x
 | c :: r,x=>if (c:Int) ≠ m then (if (x.1.length:Int) = 0 then r9 l m r (x.1 ++ [(c:Int)],x.2) else if ((B9 l x.2 2).1:Int) = 2 - 1 then r9 l m r (x.1 ++ [(c:Int)],(B9 l x.2 2).2) else r9 l m r (x.1,(B9 l x.2 2).2)) else r9 l m r x
def DO (l:List UInt8) (a:Nat) (s:B2) (m:Int):List Int × Nat:=r9 l m (H2 s 3 s.cols.length) ([],a)
theorem QB {s:B2} (hd:F6 s) {c:Nat} (h:c ∈ H2 s 2 s.cols.length):0 ≤ I3 s c ∧ I3 s c ≤ 4:=by
 obtain ⟨h1,h2⟩:=i8.1 h
 have hc:s.cols[c]? = some (s.cols[c]'h1):=List.getElem?_eq_getElem h1
 by_cases hz:c = 0
 ·subst hz
  rw [show C6 s ((0:Nat):Int) = s.cols[0]'h1 from E0 (by simpa using hc)] at h2
  rcases hd.col hc with ⟨_,e⟩ | ⟨h,_⟩ | ⟨h,_⟩
  ·rw [e] at h2;cases h2
  ·omega
  ·omega
 ·obtain ⟨n,h3,h4,_⟩:=hd.chain (i:=c) (by omega) hc
  omega
set_option maxHeartbeats 8000000 in
theorem LL (l:List UInt8) (a:Nat) (s:B2) (hd:F6 s) (hl:l.length ≤ 400):B5 Tryz.prog 57 1 (D9 l a) [.ref 0 0,sA s] 1 (D9 l (Ar l a s).2) (.sl 2 ((Ar l a s).1.map P8)):=by
 have hc:=CH s 2 (by have:=hd.lens;omega)
 have hle:=ES s 2 s.cols.length
 have hln:=hd.lens
 have hpos:=hd.two.1
 have hfc:∀ c ∈ H2 s 2 s.cols.length,0 ≤ I3 s (c:Nat) ∧ I3 s (c:Nat) ≤ 4:=fun c h=>QB hd h
 have r1:=AY l a 2 hl (by omega)
 unfold Ar
 have h2:=I0 l a (n:=2) (by omega)
 generalize B9 l a 2 = q at *
 obtain ⟨q1,q2⟩:=q
 dsimp only at r1 h2 ⊢
 generalize H2 s 2 s.cols.length = C at *
 have r2:=J9 l q2 C.length hl
 have h3:=I0 l q2 (n:=C.length) (by omega)
 generalize B9 l q2 C.length = r at *
 obtain ⟨ra,rb⟩:=r
 dsimp only at r2 h3 ⊢
 have hrf:=fun c:Nat=>IC s c
 have hnx:=fun b n=>J9 l b n hl
 generalize hZ:(if (q1:Int) = 2 - 1 then CK l s (C.drop ra) ([],rb) else CK l s C ([],q2)) = Z
 refine G3 Tryz.func57 42 fun E h0=>?_
 repeat' ((first | refine B0 hc ?_ | refine ⟨C3 [0] [0] r1 rfl rfl rfl rfl rfl ⟨rfl,trivial⟩ rfl rfl rfl rfl rfl ?_⟩ | refine ⟨C3 [0] [0] r2 rfl rfl rfl rfl rfl ⟨rfl,trivial⟩ rfl rfl rfl rfl rfl ?_⟩ |refine A1 ?_|refine S1 ?_|refine Z1 ?_|refine Z2 ?_|(refine And.intro ?_ ?_<;>intro h<;>try first|(exfalso;omega)|exact absurd rfl h)|refine Z3 ?_|refine Z4 ?_|intro el hel hbB|intro el hel|intro ex|refine Z5 ?_|(refine A8 ?_ ?_;exact ⟨by kernel_rfl,by decide⟩)|refine A7 ?_ ?_|exact A6|refine A3 ?_ ?_|exact A2|(refine A0 ?_ ?_ ?_;kernel_rfl;kernel_rfl)) <;> (try (conv=>whnf)))
 ·have hq:(q1:Int) = 2 - 1:=by assumption
  rw [if_pos hq] at hZ
  have hDS:List.drop (ra:Int).toNat (List.take ((C.map iA).length:Int).toNat (C.map iA)) = (C.drop ra).map iA:=by rw [Int.toNat_natCast,Int.toNat_natCast,List.take_length,List.map_drop]
  have hsub:∀ c ∈ C.drop ra,c ∈ C:=fun c hc=>List.mem_of_mem_drop hc
  have hDl:(C.drop ra).length ≤ 6:=by rw [List.length_drop];omega
  have hD:=hZ.symm
  generalize C.drop ra = D at *
  refine D8 (ι:=Nat × List Pk × Nat) (fun x=>⟨[(0, .ref 0 0),(3, .iptr (sL s)),(5, .row 2 0 x.2.1.length),(6, .sl 1 (D.map iA)),(18, .sl 1 (D.map iA)),(19, .i D.length),(20, .i x.1)],3,[(0,some (.box [.sl 1 (l.map S6), .i x.2.2])),(2,some (.row 59 2 0 (x.2.1.map P8)))]⟩)
   (fun x=>x.1 ≤ D.length ∧ x.2.1.length ≤ x.1 ∧ Z = CK l s (D.drop x.1) x.2) (fun x=>D.length - x.1) (0,[],rb) ⟨Nat.zero_le _,Nat.zero_le _,hD⟩
   (B8 (EF (d:=5) (e:=59) (sz:=2) rfl) (A5 h0 rfl ⟨rfl,rfl,rfl,congrArg (fun z=>some (AV.sl 1 z)) hDS,congrArg (fun z=>some (AV.sl 1 z)) hDS,congrArg (fun z:List (List AV)=>some (AV.i z.length)) (hDS.trans (by rfl:D.map iA = D.map iA)) |>.trans (congrArg (fun z:Nat=>some (AV.i z)) (List.length_map _)),rfl,trivial⟩ ⟨rfl,⟨0,rfl⟩,trivial⟩ rfl rfl rfl)) (fun x hI=>?_)
  obtain ⟨k,out,b⟩:=x
  obtain ⟨hk,hol,hI⟩:=hI
  dsimp only at hk hol hI ⊢
  by_cases hlt:k < D.length
  ·obtain ⟨c,hcg⟩:∃ c,D[k]? = some c:=⟨_,List.getElem?_eq_getElem hlt⟩
   have hfb:=hfc c (hsub c (List.mem_of_getElem? hcg))
   have r3:=hnx b (I3 s c + 1)
   have hf:=hrf c
   rw [M9 hcg,CK] at hI
   dsimp only at hI
   generalize B9 l b (I3 s c + 1) = u at *
   obtain ⟨u1,u2⟩:=u
   dsimp only at r3 hI ⊢
   generalize I3 s c = fs at *
   repeat' ((first | (refine B1 (x:=c) hcg (by omega) ?_) | refine B0 hf ?_ | refine ⟨C3 [0] [0] r3 rfl rfl rfl rfl rfl ⟨rfl,trivial⟩ rfl rfl rfl rfl rfl ?_⟩ | (refine E3 8 ?_;refine F3 (id:=8) ⟨[(0, .ref 0 0),(3, .iptr (sL s)),(5, .row 2 0 (out.length + 1)),(6, .sl 1 (D.map iA)),(18, .sl 1 (D.map iA)),(19, .i D.length),(20, .i k)],3,[(0,some (.box [.sl 1 (l.map S6), .i u2])),(2,some (.row 59 2 0 ((out ++ [(⟨c,u1⟩:Pk)]).map P8)))]⟩ ?_ ?_) |refine A1 ?_|refine S1 ?_|refine Z1 ?_|refine Z2 ?_|(refine And.intro ?_ ?_<;>intro h<;>try first|(exfalso;omega)|exact absurd rfl h)|refine Z3 ?_|refine Z4 ?_|intro el hel hbB|intro el hel|intro ex|refine Z5 ?_|(refine A8 ?_ ?_;exact ⟨by kernel_rfl,by decide⟩)|refine A7 ?_ ?_|exact A6|refine A3 ?_ ?_|exact A2|(refine A0 ?_ ?_ ?_;kernel_rfl;kernel_rfl)) <;> (try (conv=>whnf)))
   all_goals first
    | (exfalso;omega)
    | exact A5 h0 rfl ⟨rfl,rfl,rfl,rfl,rfl,rfl,rfl,trivial⟩ ⟨rfl,⟨_,congrArg (H4.row 59 2 _) (by rw [List.map_append];rfl)⟩,trivial⟩ rfl rfl rfl
    | exact ⟨(k + 1,out ++ [⟨c,u1⟩],u2),⟨by dsimp only;omega,by dsimp only;rw [List.length_append,List.length_singleton];omega,hI⟩,by dsimp only;omega,A5 h0 rfl ⟨rfl,rfl,congrArg (fun z:Nat=>some (AV.row 2 0 z)) (by rw [List.length_append];rfl),rfl,rfl,rfl,rfl,trivial⟩ ⟨rfl,⟨_,rfl⟩,trivial⟩ rfl rfl rfl⟩
  ·obtain rfl:k = D.length:=by omega
   rw [List.drop_length,CK] at hI
   rw [hI]
   repeat' ((first|refine A1 ?_|refine S1 ?_|refine Z1 ?_|refine Z2 ?_|(refine And.intro ?_ ?_<;>intro h<;>try first|(exfalso;omega)|exact absurd rfl h)|refine Z3 ?_|refine Z4 ?_|intro el hel hbB|intro el hel|intro ex|refine Z5 ?_|(refine A8 ?_ ?_;exact ⟨by kernel_rfl,by decide⟩)|refine A7 ?_ ?_|exact A6|refine A3 ?_ ?_|exact A2|(refine A0 ?_ ?_ ?_;kernel_rfl;kernel_rfl)) <;> (try (conv=>whnf)))
   all_goals first
    | (exfalso;omega)
    | exact D4 (A5 h0 rfl ⟨rfl,trivial⟩ ⟨rfl,trivial⟩ rfl rfl rfl)
 ·have hq:¬ (q1:Int) = 2 - 1:=by assumption
  rw [if_neg hq] at hZ
  have hsub:∀ c ∈ C,c ∈ C:=fun c hc=>hc
  have hDl:C.length ≤ 6:=by omega
  have hD:=hZ.symm
  refine D8 (ι:=Nat × List Pk × Nat) (fun x=>⟨[(0, .ref 0 0),(3, .iptr (sL s)),(5, .row 2 0 x.2.1.length),(6, .sl 1 (C.map iA)),(18, .sl 1 (C.map iA)),(19, .i C.length),(20, .i x.1)],3,[(0,some (.box [.sl 1 (l.map S6), .i x.2.2])),(2,some (.row 59 2 0 (x.2.1.map P8)))]⟩)
   (fun x=>x.1 ≤ C.length ∧ x.2.1.length ≤ x.1 ∧ Z = CK l s (C.drop x.1) x.2) (fun x=>C.length - x.1) (0,[],q2) ⟨Nat.zero_le _,Nat.zero_le _,hD⟩
   (B8 (EF (d:=5) (e:=59) (sz:=2) rfl) (A5 h0 rfl ⟨rfl,rfl,rfl,rfl,rfl,rfl,rfl,trivial⟩ ⟨rfl,⟨0,rfl⟩,trivial⟩ rfl rfl rfl)) (fun x hI=>?_)
  obtain ⟨k,out,b⟩:=x
  obtain ⟨hk,hol,hI⟩:=hI
  dsimp only at hk hol hI ⊢
  by_cases hlt:k < C.length
  ·obtain ⟨c,hcg⟩:∃ c,C[k]? = some c:=⟨_,List.getElem?_eq_getElem hlt⟩
   have hfb:=hfc c (hsub c (List.mem_of_getElem? hcg))
   have r3:=hnx b (I3 s c + 1)
   have hf:=hrf c
   rw [M9 hcg,CK] at hI
   dsimp only at hI
   generalize B9 l b (I3 s c + 1) = u at *
   obtain ⟨u1,u2⟩:=u
   dsimp only at r3 hI ⊢
   generalize I3 s c = fs at *
   repeat' ((first | (refine B1 (x:=c) hcg (by omega) ?_) | refine B0 hf ?_ | refine ⟨C3 [0] [0] r3 rfl rfl rfl rfl rfl ⟨rfl,trivial⟩ rfl rfl rfl rfl rfl ?_⟩ | (refine E3 8 ?_;refine F3 (id:=8) ⟨[(0, .ref 0 0),(3, .iptr (sL s)),(5, .row 2 0 (out.length + 1)),(6, .sl 1 (C.map iA)),(18, .sl 1 (C.map iA)),(19, .i C.length),(20, .i k)],3,[(0,some (.box [.sl 1 (l.map S6), .i u2])),(2,some (.row 59 2 0 ((out ++ [(⟨c,u1⟩:Pk)]).map P8)))]⟩ ?_ ?_) |refine A1 ?_|refine S1 ?_|refine Z1 ?_|refine Z2 ?_|(refine And.intro ?_ ?_<;>intro h<;>try first|(exfalso;omega)|exact absurd rfl h)|refine Z3 ?_|refine Z4 ?_|intro el hel hbB|intro el hel|intro ex|refine Z5 ?_|(refine A8 ?_ ?_;exact ⟨by kernel_rfl,by decide⟩)|refine A7 ?_ ?_|exact A6|refine A3 ?_ ?_|exact A2|(refine A0 ?_ ?_ ?_;kernel_rfl;kernel_rfl)) <;> (try (conv=>whnf)))
   all_goals first
    | (exfalso;omega)
    | exact A5 h0 rfl ⟨rfl,rfl,rfl,rfl,rfl,rfl,rfl,trivial⟩ ⟨rfl,⟨_,congrArg (H4.row 59 2 _) (by rw [List.map_append];rfl)⟩,trivial⟩ rfl rfl rfl
    | exact ⟨(k + 1,out ++ [⟨c,u1⟩],u2),⟨by dsimp only;omega,by dsimp only;rw [List.length_append,List.length_singleton];omega,hI⟩,by dsimp only;omega,A5 h0 rfl ⟨rfl,rfl,congrArg (fun z:Nat=>some (AV.row 2 0 z)) (by rw [List.length_append];rfl),rfl,rfl,rfl,rfl,trivial⟩ ⟨rfl,⟨_,rfl⟩,trivial⟩ rfl rfl rfl⟩
  ·obtain rfl:k = C.length:=by omega
   rw [List.drop_length,CK] at hI
   rw [hI]
   repeat' ((first|refine A1 ?_|refine S1 ?_|refine Z1 ?_|refine Z2 ?_|(refine And.intro ?_ ?_<;>intro h<;>try first|(exfalso;omega)|exact absurd rfl h)|refine Z3 ?_|refine Z4 ?_|intro el hel hbB|intro el hel|intro ex|refine Z5 ?_|(refine A8 ?_ ?_;exact ⟨by kernel_rfl,by decide⟩)|refine A7 ?_ ?_|exact A6|refine A3 ?_ ?_|exact A2|(refine A0 ?_ ?_ ?_;kernel_rfl;kernel_rfl)) <;> (try (conv=>whnf)))
   all_goals first
    | (exfalso;omega)
    | exact D4 (A5 h0 rfl ⟨rfl,trivial⟩ ⟨rfl,trivial⟩ rfl rfl rfl)
set_option maxHeartbeats 8000000 in
theorem RJ (l:List UInt8) (a:Nat) (s:B2) (m:Int) (hd:F6 s) (hl:l.length ≤ 400):B5 Tryz.prog 56 1 (D9 l a) [.ref 0 0,sA s, .i m] 1 (D9 l (DO l a s m).2) (.sl 1 ((DO l a s m).1.map wA)):=by
 have hc:=CH s 3 (by have:=hd.lens;omega)
 have hle:=ES s 3 s.cols.length
 have hln:=hd.lens
 have hon:=fun b=>AY l b 2 hl (by omega)
 unfold DO
 generalize H2 s 3 s.cols.length = D at *
 generalize hZ:r9 l m D ([],a) = Z
 refine G3 Tryz.func56 41 fun E h0=>?_
 repeat' ((first | refine B0 hc ?_ |refine A1 ?_|refine S1 ?_|refine Z1 ?_|refine Z2 ?_|(refine And.intro ?_ ?_<;>intro h<;>try first|(exfalso;omega)|exact absurd rfl h)|refine Z3 ?_|refine Z4 ?_|intro el hel hbB|intro el hel|intro ex|refine Z5 ?_|(refine A8 ?_ ?_;exact ⟨by kernel_rfl,by decide⟩)|refine A7 ?_ ?_|exact A6|refine A3 ?_ ?_|exact A2|(refine A0 ?_ ?_ ?_;kernel_rfl;kernel_rfl)) <;> (try (conv=>whnf)))
 refine D8 (ι:=Nat × List Int × Nat) (fun x=>⟨[(0, .ref 0 0),(2, .i m),(7, .row 2 0 x.2.1.length),(8, .sl 1 (D.map iA)),(12, .sl 1 (D.map iA)),(13, .i D.length),(14, .i x.1)],3,[(0,some (.box [.sl 1 (l.map S6), .i x.2.2])),(2,some (.row 3 1 0 (x.2.1.map wA)))]⟩)
  (fun x=>x.1 ≤ D.length ∧ x.2.1.length ≤ x.1 ∧ Z = r9 l m (D.drop x.1) x.2) (fun x=>D.length - x.1) (0,[],a) ⟨Nat.zero_le _,Nat.zero_le _,hZ.symm⟩
  (B8 (EF (d:=7) (e:=3) (sz:=1) rfl) (A5 h0 rfl ⟨rfl,rfl,rfl,rfl,rfl,rfl,rfl,trivial⟩ ⟨rfl,⟨0,rfl⟩,trivial⟩ rfl rfl rfl)) (fun x hI=>?_)
 obtain ⟨k,out,b⟩:=x
 obtain ⟨hk,hol,hI⟩:=hI
 dsimp only at hk hol hI ⊢
 by_cases hlt:k < D.length
 ·obtain ⟨c,hcg⟩:∃ c,D[k]? = some c:=⟨_,List.getElem?_eq_getElem hlt⟩
  have r3:=hon b
  rw [M9 hcg,r9] at hI
  dsimp only at hI
  generalize B9 l b 2 = u at *
  obtain ⟨u1,u2⟩:=u
  dsimp only at r3 hI ⊢
  repeat' ((first | (refine B1 (x:=c) hcg (by omega) ?_) | refine ⟨C3 [0] [0] r3 rfl rfl rfl rfl rfl ⟨rfl,trivial⟩ rfl rfl rfl rfl rfl ?_⟩ |refine A1 ?_|refine S1 ?_|refine Z1 ?_|refine Z2 ?_|(refine And.intro ?_ ?_<;>intro h<;>try first|(exfalso;omega)|exact absurd rfl h)|refine Z3 ?_|refine Z4 ?_|intro el hel hbB|intro el hel|intro ex|refine Z5 ?_|(refine A8 ?_ ?_;exact ⟨by kernel_rfl,by decide⟩)|refine A7 ?_ ?_|exact A6|refine A3 ?_ ?_|exact A2|(refine A0 ?_ ?_ ?_;kernel_rfl;kernel_rfl)) <;> (try (conv=>whnf)))
  all_goals first
   | (exfalso;omega)
   | (rw [if_pos (by assumption),if_pos (by assumption)] at hI
      exact ⟨(k + 1,out ++ [(c:Int)],b),⟨by dsimp only;omega,by dsimp only;rw [List.length_append,List.length_singleton];omega,hI⟩,by dsimp only;omega,A5 h0 rfl ⟨rfl,rfl,congrArg (fun z:Nat=>some (AV.row 2 0 z)) (by rw [List.length_append];rfl),rfl,rfl,rfl,rfl,trivial⟩ ⟨rfl,⟨_,congrArg (H4.row 3 1 _) (by rw [List.map_append];rfl)⟩,trivial⟩ rfl rfl rfl⟩)
   | (rw [if_pos (by assumption),if_neg (by assumption),if_pos (by assumption)] at hI
      exact ⟨(k + 1,out ++ [(c:Int)],u2),⟨by dsimp only;omega,by dsimp only;rw [List.length_append,List.length_singleton];omega,hI⟩,by dsimp only;omega,A5 h0 rfl ⟨rfl,rfl,congrArg (fun z:Nat=>some (AV.row 2 0 z)) (by rw [List.length_append];rfl),rfl,rfl,rfl,rfl,trivial⟩ ⟨rfl,⟨_,congrArg (H4.row 3 1 _) (by rw [List.map_append];rfl)⟩,trivial⟩ rfl rfl rfl⟩)
   | (rw [if_pos (by assumption),if_neg (by assumption),if_neg (by assumption)] at hI
      exact ⟨(k + 1,out,u2),⟨by dsimp only;omega,by dsimp only;omega,hI⟩,by dsimp only;omega,A5 h0 rfl ⟨rfl,rfl,rfl,rfl,rfl,rfl,rfl,trivial⟩ ⟨rfl,⟨_,rfl⟩,trivial⟩ rfl rfl rfl⟩)
   | (rw [if_neg (by assumption)] at hI
      exact ⟨(k + 1,out,b),⟨by dsimp only;omega,by dsimp only;omega,hI⟩,by dsimp only;omega,A5 h0 rfl ⟨rfl,rfl,rfl,rfl,rfl,rfl,rfl,trivial⟩ ⟨rfl,⟨_,rfl⟩,trivial⟩ rfl rfl rfl⟩)
 ·obtain rfl:k = D.length:=by omega
  rw [List.drop_length,r9] at hI
  rw [hI]
  repeat' ((first|refine A1 ?_|refine S1 ?_|refine Z1 ?_|refine Z2 ?_|(refine And.intro ?_ ?_<;>intro h<;>try first|(exfalso;omega)|exact absurd rfl h)|refine Z3 ?_|refine Z4 ?_|intro el hel hbB|intro el hel|intro ex|refine Z5 ?_|(refine A8 ?_ ?_;exact ⟨by kernel_rfl,by decide⟩)|refine A7 ?_ ?_|exact A6|refine A3 ?_ ?_|exact A2|(refine A0 ?_ ?_ ?_;kernel_rfl;kernel_rfl)) <;> (try (conv=>whnf)))
  all_goals first
   | (exfalso;omega)
   | exact D4 (A5 h0 rfl ⟨rfl,trivial⟩ ⟨rfl,trivial⟩ rfl rfl rfl)
abbrev C5:AV:=.v (.slice none 0 0)
def zC:A4:=.mk 0 0 0 0 0 []
structure PrD where
 l:List fH
 names:List (List UInt8)
 a:Nat
end Go.Proofs.YthkklceofokkmaaGreatDoor
namespace Go.Proofs.YthkklceofokkmaaGreatDoor
open Go Go.Av
attribute [local irreducible] E5 B7 E6 E7 DQ E8 F0 St.le B3 B5
set_option maxRecDepth 100000
theorem Z6 {E:Env} {n:Nat} {σ:St} (i j:Nat) {e sz:Nat} {l:List AV} (hb:B4 σ.hp i = some (.box l)) (hj:l[j]? = some (.v (.slice none 0 0))):St.le E n σ ((σ.new (.row e sz 0 [])).set i (.box (l.set j (.row σ.nx 0 0)))):=by
 unfold St.le
 rintro a w ⟨θ,h⟩
 have h2:=h.grow (w':=w) (Go.RowKit.Below.refl _ _) (.slice none 0 0) (.row e sz 0 []) (fun k hk=>by cases hk) fun le=>⟨[],⟨by simp, .inl ⟨by simp [cx,F5],rfl⟩⟩,(fun el hel=>by cases hel),fun k el hk=>by simp at hk⟩
 have hlt:=(h.owns i _ hb).1
 have hb':B4 (σ.new (.row e sz 0 [])).hp i = some (.box l):=by
  simp only [St.new,I6]
  rw [if_neg (by omega)];exact hb
 obtain ⟨_,b,arr,ty,h3,h4,h5,h6⟩:=h2.owns i _ hb'
 refine ⟨_,h2.turn (v':=c7 θ σ.nx (.slice none 0 0) i) (b':=.box (l.set j (.row σ.nx 0 0))) (w':=w) hb' rfl rfl rfl (Nat.le_refl _) (fun _ _ _=>rfl) (fun k hk=>.inl hk) rfl fun le=>?_⟩
 refine ⟨b,arr,ty,by simp only [cx,F5];exact h3,h4,by rw [List.length_set];exact h5,fun q x y hx hy=>?_⟩
 rw [List.getElem?_set] at hx
 split at hx
 ·rename_i eq
  subst eq
  split at hx
  ·cases hx
   have hv:=(h6 j _ y hj hy).val
   rw [hv]
   refine .row _ _ _ _ (by simp [cx,St.new,St.set]) fun e' sz' v' l' hl=>?_
   simp only [cx,St.new,St.set,I6] at hl
   rw [if_neg (by omega)] at hl
   simp only [if_true] at hl
   cases hl
   refine ⟨Nat.le_refl _,fun _=>⟨rfl,?_⟩⟩
   simp only [cx]
   unfold c7
   rw [if_neg (by omega),if_pos rfl]
  ·cases hx
 ·exact (h6 q x y hx hy).mono le
end Go.Proofs.YthkklceofokkmaaGreatDoor
namespace Go.Av
open Go Go.RowKit
end Go.Av
namespace Go.Proofs.YthkklceofokkmaaGreatDoor
open Go Go.Av
attribute [local irreducible] E5 B7 E6 E7 DQ E8 F0 St.le B3 B5
set_option maxRecDepth 100000
def gD (l:List Pk) (i:Nat):Int:=l.foldl (fun (m:Int) (p:Pk)=>if p.col = (i:Int) then max m p.lev else m) 0
abbrev dX (s:B2) (c:Int):Pk:=⟨c,PJ s c (I3 s c)⟩
abbrev fh (s:B2) (d:Pk):Pk:=⟨d.col,PJ s d.col d.lev⟩
def fi (ws:List Int) (width:Int):Int:=if 0 ≤ K2 (fun x=>decide (x = width)) ws 0 then ws.length - K2 (fun x=>decide (x = width)) ws 0 else 0
def fj (s:B2) (e:O2):List Pk :=
 if e.op = 4 ∨ e.op = 5 ∨ e.op = 10 ∨ e.op = 11 ∨ e.op = 12 ∨ e.op = 14 then (if 0 < e.col then [dX s e.col] else [])
 else if e.op = 13 then [⟨e.col,PJ s e.col (fi (C6 s e.col).widths e.num)⟩] else []
def fk (s:B2) (e:O2):List Pk:=e.dims.map (fh s) ++ fj s e ++ e.cols.map (dX s)
mutual
def fm (s:B2):O2 → List Pk
 | .mk o n nm c cs ds cd ev ks=>Tk (gD (fk s (.mk o n nm c cs ds cd ev ks) ++ Zh s cd ++ Zh s ev ++ dY s ks)) 0 s.cols.length
def dY (s:B2):List O2 → List Pk
 | []=>[]
 | x :: r=>fm s x ++ dY s r
end
structure SI where
 name:List UInt8
 kind:Int
def Zk (nm:List UInt8):List SI → Int × Int → Int × Int
 | [],z=>z
 | b :: r,z=>Zk nm r (if b.name = nm then (b.kind,0) else z)
def dZ (before:List SI) (nm:List UInt8):Int × Int:=Zk nm before (0,24)
def fq (before:List SI) (e:O2) (numbers:Bool):Int × Int :=
 if e.op = 2 then dZ before e.name else if numbers = false then (0,16) else if Te e.op then (1,0) else (e.op - 8,0)
mutual
def QC (before:List SI):O2 → Int × Int
 | .mk o n nm c cs ds cd ev ks=>if (Tq before ks true).1 = 0 then fq before (.mk o n nm c cs ds cd ev ks) (Tq before ks true).2 else (0,(Tq before ks true).1)
def Tq (before:List SI):List O2 → Bool → Int × Bool
 | [],b=>(0,b)
 | x :: r,b=>if (QC before x).2 = 0 then Tq before r (b && decide ((QC before x).1 = 1)) else ((QC before x).2,b)
end
structure MapLv (m:List (Key × AV)) (lv:Nat → Int):Prop where
 keys:Be (.int .i64) m
 get:∀ c:Nat,Bq m (.i .i64 c) (b9 (.int .i64 0)) = .i (lv c)
end Go.Proofs.YthkklceofokkmaaGreatDoor
namespace Go.Proofs.YthkklceofokkmaaGreatDoor
open Go Go.Av
attribute [local irreducible] E5 B7 E6 E7 DQ E8 F0 St.le B3 B5
set_option maxRecDepth 100000
theorem Vr:U7 zC:=⟨rfl,rfl,rfl,rfl,rfl,rfl⟩
structure XprOk (s:B2) (names:List (List UInt8)) (e:O2) (d:Nat):Prop where
 rig:Tf s e = true
 tot:I8 (Ta e) + 1 ≤ 2 ^ (d + 1)
 dep:O8 (Ta e) ≤ d + 1
 nam:∀ g:List UInt8 → Bool,(∀ nm ∈ names,g nm = true) → dL g e = true
 kin:∀ bs:List SI,(∀ nm ∈ names,dZ bs nm = (1,0)) → (QC bs e).2 = 0 ∧ (Te e.op → (QC bs e).1 = 1)
theorem bH {s:B2} (hd:F6 s) (l:List UInt8) (a:Nat):d0 s ((k9 l a s 3).1:Nat) 3 = true:=by
 obtain ⟨_,h1,h2⟩:=AC (l:=l) (a:=a) hd.two.2
 unfold d0
 rw [decide_eq_true_iff]
 exact ⟨by omega,by omega,h2⟩
theorem F6.fin {s:B2} (hd:F6 s) {c:Int} (h1:1 ≤ c) (h2:c < s.cols.length):0 ≤ I3 s c ∧ I3 s c ≤ 4 ∧ I3 s c = R7 s c:=by
 obtain ⟨n,h3,h4,_⟩:=hd.chain (i:=c.toNat) (by omega) (List.getElem?_eq_getElem (show c.toNat < s.cols.length by omega))
 rw [show ((c.toNat:Nat):Int) = c by omega] at h3
 exact ⟨by omega,by omega,by unfold I3;rw [if_pos hd.ok]⟩
theorem bI {s:B2} (hd:F6 s) {q:Pk} (h1:1 ≤ q.col) (h2:q.col < s.cols.length) (h3:0 ≤ q.lev) (h4:q.lev ≤ I3 s q.col):Fc s q = 0:=by
 have hf:=hd.fin h1 h2
 unfold Fc
 rw [if_neg (by omega),if_neg (by omega)]
end Go.Proofs.YthkklceofokkmaaGreatDoor

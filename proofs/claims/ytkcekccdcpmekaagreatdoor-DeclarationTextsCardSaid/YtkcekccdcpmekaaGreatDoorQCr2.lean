/- Chapter 8: the reference's reader of declarations: Parse. -/
import Derived.Test.YtkcekccdcpmekaaGreatDoorQB11
import Derived.Test.YtkcekccdcpmekaaGreatDoorQSb0
import Derived.Test.YtkcekccdcpmekaaGreatDoorQQn2
import Derived.Test.YtkcekccdcpmekaaGreatDoorQD1
import Derived.Test.YtkcekccdcpmekaaGreatDoorQRp3
set_option linter.unusedVariables false
set_option linter.unnecessarySimpa false
set_option linter.unusedSimpArgs false
set_option maxHeartbeats 64000000
namespace Go.Proofs.YtkcekccdcpmekaaGreatDoor
open Go Go.Av
attribute [local irreducible] E8 B5 E5 E1 DQ E7 E9 St.le A4 A9
set_option maxRecDepth 100000
theorem ND{p q:Prop}(h:p)(k:q):H8 p q:=⟨h,k⟩
theorem bz(s:A5)(d:G0)(n:Int)(t:List UInt8):(O8 s d n t).1.qs=d.qs:=by
 unfold O8
 repeat' split
 all_goals rfl
theorem Te(s:A5)(d:G0)(t:List UInt8)(ht:t.length≤20000)(n:Nat)(hn:1≤n∧n≤4):A9 Tryz.prog 49 1 (Ji d) [sA s,.agg (dR d 0 0),.i n,.str t] 1 (Ji d) (.tup [.agg (dR (O8 s d n t).1 0 0),.b (O8 s d n t).2]):=by
 obtain⟨h1,h2⟩:=hn
 have:n=1∨n=2∨n=3∨n=4:=by omega
 rcases this with rfl|rfl|rfl|rfl
 ·exact fT s d t ht
 ·exact fU s d t ht
 ·exact fV s d t ht
 ·exact fW s d t ht
theorem Se(s:A5)(t0:List UInt8):A4 Tryz.prog 16 [sA s,.str t0] (.tup [R3 (KR s t0).1,.i (KR s t0).2.1,.i (KR s t0).2.2]):=by
 have h1:=v7 s
 unfold KR
 by_cases hr:¬C8 s=0
 ·rw[if_pos hr]
  generalize C8 s=e at *
  dsimp only
  refine D0 Tryz.func16 66 fun ki E h0=>?_
  clear ki
  repeat'((first|refine A0 h1 ?_ |refine S2 ?_|(refine T6 ?_ ?_<;>intro h<;>try exact V1 h)|intro el ke kg|intro el ke|exact T4|refine T5 ?_ ?_|intro ex)<;>try conv=>whnf)
  all_goals first
   |(exfalso;omega)
   |exact K0 (rs:=[.cell 4 P9,.tmp 5,.tmp 6]) (vs:=[_,_,_]) rfl ⟨H0 rfl rfl rfl AE,⟨_,rfl,.refl _⟩,⟨_,rfl,.refl _⟩,trivial⟩ rfl
 have sN:C8 s=0:=Decidable.of_not_not hr
 rw[if_neg hr]
 rw[sN]at h1
 by_cases hl:20000<t0.length
 ·rw[if_pos hl]
  dsimp only
  refine D0 Tryz.func16 66 fun ki E h0=>?_
  clear ki
  repeat'((first|refine A0 h1 ?_ |refine S2 ?_|(refine T6 ?_ ?_<;>intro h<;>try exact V1 h)|intro el ke kg|intro el ke|exact T4|refine T5 ?_ ?_|intro ex)<;>try conv=>whnf)
  all_goals first
   |(exfalso;omega)
   |exact K0 (rs:=[.cell 4 P9,.tmp 5,.tmp 6]) (vs:=[_,_,_]) rfl ⟨H0 rfl rfl rfl AE,⟨_,rfl,.refl _⟩,⟨_,rfl,.refl _⟩,trivial⟩ rfl
 rw[if_neg hl]
 generalize hZ:IF s (t0.length+1) zD 1 t0=Z
 obtain⟨Z1,Z2,Z3⟩:=Z
 dsimp only
 refine D0 Tryz.func16 66 fun ki E h0=>?_
 clear ki
 repeat'((first|refine A0 h1 ?_ |refine S2 ?_|(refine T6 ?_ ?_<;>intro h<;>try exact V1 h)|intro el ke kg|intro el ke|exact T4|refine T5 ?_ ?_|intro ex)<;>try conv=>whnf)
 all_goals first
  |(exfalso;omega)
  |skip
 clear h1
 refine D5 (ι:=G0×Nat×List UInt8×Nat) (fun x=>⟨[(1,.str x.2.2.1),(2,.iptr (sL s)),(4,.ref 1 0),(8,.ref 2 0),(9,.i x.2.1)],4,[(1,some (.box [.str [],.str [],.i 0,.i 0,.i 0,.i 0,.i 0,A6,.i 0,.i 0,.i 0,A6])),(2,some (.box (dR x.1 3 0))),(3,some (.row D7 17 0 (x.1.qs.map C0)))]⟩) (fun x=>x.2.2.1.length<x.2.2.2∧1≤x.2.1∧x.2.1+x.2.2.1.length≤20001∧x.1.qs.length≤x.2.1∧IF s x.2.2.2 x.1 x.2.1 x.2.2.1=(Z1,Z2,Z3)) (fun x=>x.2.2.1.length) (zD,1,t0,t0.length+1) ⟨by dsimp only;omega,by dsimp only;omega,by dsimp only;omega,by dsimp only[zD];exact Nat.zero_le _,hZ⟩
  (by refine B4 (U9 2 11 (e:=D7) (sz:=17) rfl rfl) ?_;refine B4 (a8 2 [.str [],.str [],.i 0,.i 0,.i 0,.i 0,.i 0,.sl 6 ([]:List (List AV)),.i 0,.i 0,.i 0,.row 3 0 0] rfl ⟨.refl _,.refl _,.refl _,.refl _,.refl _,.refl _,.refl _,.nil 6,.refl _,.refl _,.refl _,.refl _,trivial⟩) ?_;exact B0 h0 rfl ⟨rfl,rfl,rfl,rfl,rfl,trivial⟩ ⟨rfl,rfl,⟨0,rfl⟩,trivial⟩ rfl rfl rfl) (fun x hI=>?_)
 obtain⟨d,n,t,f⟩:=x
 obtain⟨i1,i2,i3,i4,i5⟩:=hI
 dsimp only at i1 i2 i3 i4 i5 ⊢
 clear hZ
 obtain⟨f,rfl⟩:∃g,f=g+1:=⟨f-1,by omega⟩
 rw[IF]at i5
 by_cases np:t=[]
 ·rw[if_pos np]at i5
  subst np
  have h1:=Jj s d
  by_cases pE:n≤4
  ·rw[if_pos pE]at i5
   cases i5
   clear h1
   repeat'((first|refine S2 ?_|(refine T6 ?_ ?_<;>intro h<;>try exact V1 h)|intro el ke kg|intro el ke|exact T4|refine T5 ?_ ?_|intro ex)<;>try conv=>whnf)
   all_goals first
    |(exfalso;omega)
    |exact K0 (rs:=[.cell 4 P9,.tmp 5,.tmp 6]) (vs:=[_,_,_]) rfl ⟨H0 rfl rfl rfl AE,⟨_,rfl,.refl _⟩,⟨_,rfl,.refl _⟩,trivial⟩ rfl
    |contradiction
  ·rw[if_neg pE]at i5
   by_cases hd:j8 s d=0
   ·rw[if_pos hd]at i5
    simp only[Prod.mk.injEq]at i5
    obtain⟨rfl,rfl,rfl⟩:=i5
    rw[hd]at h1
    refine El (Ib 3) ?_
    repeat'((first|refine A0 h1 ?_ |refine S2 ?_|(refine T6 ?_ ?_<;>intro h<;>try exact V1 h)|intro el ke kg|intro el ke|exact T4|refine T5 ?_ ?_|intro ex)<;>try conv=>whnf)
    all_goals first
     |(exfalso;omega)
     |exact K0 (rs:=[.cell 4 P9,.tmp 5,.tmp 6]) (vs:=[_,_,_]) rfl ⟨H0 rfl rfl rfl (.refl _),⟨_,rfl,.refl _⟩,⟨_,rfl,.refl _⟩,trivial⟩ rfl
     |contradiction
   ·rw[if_neg hd]at i5
    cases i5
    generalize j8 s d=e at *
    refine El (Ib 3) ?_
    repeat'((first|refine A0 h1 ?_ |refine S2 ?_|(refine T6 ?_ ?_<;>intro h<;>try exact V1 h)|intro el ke kg|intro el ke|exact T4|refine T5 ?_ ?_|intro ex)<;>try conv=>whnf)
    all_goals first
     |(exfalso;omega)
     |exact K0 (rs:=[.cell 4 P9,.tmp 5,.tmp 6]) (vs:=[_,_,_]) rfl ⟨H0 rfl rfl rfl AE,⟨_,rfl,.refl _⟩,⟨_,rfl,.refl _⟩,trivial⟩ rfl
     |contradiction
 rw[if_neg np]at i5
 have c1:=Y9 t [10] (by omega)
 rw[KS]at c1
 have kq:0<t.length:=List.length_pos_iff.2 np
 by_cases mF:t.dropWhile (B3 10)=[]
 ·rw[if_pos (.inl mF)]at i5
  cases i5
  rw[if_pos mF]at c1
  repeat'((first|refine A0 c1 ?_ |refine S2 ?_|(refine T6 ?_ ?_<;>intro h<;>try exact V1 h)|intro el ke kg|intro el ke|exact T4|refine T5 ?_ ?_|intro ex)<;>try conv=>whnf)
  all_goals first
   |(exfalso;omega)
   |exact K0 (rs:=[.cell 4 P9,.tmp 5,.tmp 6]) (vs:=[_,_,_]) rfl ⟨H0 rfl rfl rfl AE,⟨_,rfl,.refl _⟩,⟨_,rfl,.refl _⟩,trivial⟩ rfl
   |contradiction
 rw[if_neg mF]at c1
 obtain⟨p1,p2,p3⟩:=Sa 10 mF
 have ue:=P7 (B3 10) t
 have sc:((t.dropWhile (B3 10)).drop 1).length<t.length:=by
  have:=J7 (B3 10) t
  rw[List.length_drop]
  omega
 have r1:=Sb t (t.takeWhile (B3 10)).length
 rw[p1]at r1
 have r2:=NC t (t.takeWhile (B3 10)).length
 rw[p2]at r2
 generalize (t.dropWhile (B3 10)).drop 1=t2 at *
 unfold KO at i5
 by_cases pE:n≤4
 ·simp only[if_pos pE]at i5
  have c2:=Te s d (t.takeWhile (B3 10)) (by omega) n ⟨i2,pE⟩
  have nB:=bz s d n (t.takeWhile (B3 10))
  generalize t.takeWhile (B3 10)=l at *
  generalize O8 s d n l=R at *
  obtain⟨d2,b⟩:=R
  dsimp only at c2 i5 nB
  rw[←r1]at c2
  have xC:dR d2 0 0=[.str d2.prj,.str d2.src,.i (A1.op d2.coh),.i (A1.col d2.coh),.i (A1.code d2.coh),.i (A1.lo d2.coh),.i (A1.hi d2.coh),.sl 6 ((A1.kids d2.coh).map C3),.i d2.part,.i d2.of,.i d2.seed,.row 0 0 d.qs.length]:=by rw[←nB]
  rw[xC]at c2
  generalize l.length=K at *
  cases b with
  |false =>
   rw[if_pos (.inr rfl)]at i5
   cases i5
   repeat'((first|refine A0 c1 ?_|(refine B6 13 ?_;refine C5 (id:=13) ⟨[(1,.str t),(2,.iptr (sL s)),(4,.ref 1 0),(8,.ref 2 0),(9,.i n),(10,.i K),(11,.ref 4 0),(12,.b false)],5,[(1,some (.box [.str [],.str [],.i 0,.i 0,.i 0,.i 0,.i 0,A6,.i 0,.i 0,.i 0,A6])),(2,some (.box [.str d.prj,.str d.src,.i (A1.op d.coh),.i (A1.col d.coh),.i (A1.code d.coh),.i (A1.lo d.coh),.i (A1.hi d.coh),.sl 6 ((A1.kids d.coh).map C3),.i d.part,.i d.of,.i d.seed,.any])),(3,some (.row D7 17 0 (d.qs.map C0))),(4,some (.box [.str d2.prj,.str d2.src,.i (A1.op d2.coh),.i (A1.col d2.coh),.i (A1.code d2.coh),.i (A1.lo d2.coh),.i (A1.hi d2.coh),.sl 6 ((A1.kids d2.coh).map C3),.i d2.part,.i d2.of,.i d2.seed,.row 3 0 d.qs.length]))]⟩ ?_ ?_) |refine S2 ?_|(refine T6 ?_ ?_<;>intro h<;>try exact V1 h)|intro el ke kg|intro el ke|exact T4|refine T5 ?_ ?_|intro ex|refine nc [3] [0] c2 rfl rfl rfl ⟨rfl,trivial⟩ ?_)<;>try conv=>whnf)
   all_goals first
    |(exfalso;omega)
    |exact B0 h0 rfl ⟨rfl,rfl,rfl,rfl,rfl,rfl,rfl,rfl,trivial⟩ ⟨rfl,rfl,⟨_,rfl⟩,rfl,trivial⟩ rfl rfl rfl
    |exact K0 (rs:=[.cell 4 P9,.tmp 5,.tmp 6]) (vs:=[_,_,_]) rfl ⟨H0 rfl rfl rfl AE,⟨_,rfl,.refl _⟩,⟨_,rfl,.refl _⟩,trivial⟩ rfl
    |contradiction
  |true =>
   rw[if_neg (by rintro (h|h);(exact mF h);cases h)]at i5
   have vW:(n:Int)≤20001:=by omega
   have hA:t2.length<f:=by omega
   have hB:1≤n+1:=by omega
   have hC:n+1+t2.length≤20001:=by omega
   have hE:(((n+1:Nat):Int))=(n:Int)+1:=by omega
   have vc:dR d2 3 0=[.str d2.prj,.str d2.src,.i (A1.op d2.coh),.i (A1.col d2.coh),.i (A1.code d2.coh),.i (A1.lo d2.coh),.i (A1.hi d2.coh),.sl 6 ((A1.kids d2.coh).map C3),.i d2.part,.i d2.of,.i d2.seed,.row 3 0 d.qs.length]:=by rw[←nB]
   have uw:PLift _:=⟨i5⟩
   clear i5 np mF
   have vY:(0:Int)≤((0:Nat):Int)∧((0:Nat):Int)≤(K:Int)∧(K:Int)≤(t.length:Int):=by omega
   repeat'((first|refine ND vY ?_|(refine ND (by omega) ?_)|refine A0 c1 ?_|(refine B6 13 ?_;refine C5 (id:=13) ⟨[(1,.str t),(2,.iptr (sL s)),(4,.ref 1 0),(8,.ref 2 0),(9,.i n),(10,.i K),(11,.ref 4 0),(12,.b true)],5,[(1,some (.box [.str [],.str [],.i 0,.i 0,.i 0,.i 0,.i 0,A6,.i 0,.i 0,.i 0,A6])),(2,some (.box [.str d.prj,.str d.src,.i (A1.op d.coh),.i (A1.col d.coh),.i (A1.code d.coh),.i (A1.lo d.coh),.i (A1.hi d.coh),.sl 6 ((A1.kids d.coh).map C3),.i d.part,.i d.of,.i d.seed,.any])),(3,some (.row D7 17 0 (d.qs.map C0))),(4,some (.box [.str d2.prj,.str d2.src,.i (A1.op d2.coh),.i (A1.col d2.coh),.i (A1.code d2.coh),.i (A1.lo d2.coh),.i (A1.hi d2.coh),.sl 6 ((A1.kids d2.coh).map C3),.i d2.part,.i d2.of,.i d2.seed,.row 3 0 d.qs.length]))]⟩ ?_ ?_)|(refine B6 16 ?_;refine C5 (id:=16) ⟨[(1,.str t2),(2,.iptr (sL s)),(4,.ref 1 0),(8,.ref 2 0),(9,.i n)],4,[(1,some (.box [.str [],.str [],.i 0,.i 0,.i 0,.i 0,.i 0,A6,.i 0,.i 0,.i 0,A6])),(2,some (.box [.str d2.prj,.str d2.src,.i (A1.op d2.coh),.i (A1.col d2.coh),.i (A1.code d2.coh),.i (A1.lo d2.coh),.i (A1.hi d2.coh),.sl 6 ((A1.kids d2.coh).map C3),.i d2.part,.i d2.of,.i d2.seed,.row 3 0 d.qs.length])),(3,some (.row D7 17 0 (d.qs.map C0)))]⟩ ?_ ?_) |refine S2 ?_|(refine T6 ?_ ?_<;>intro h<;>try exact V1 h)|intro el ke kg|intro el ke|exact T4|refine T5 ?_ ?_|intro ex|refine nc [3] [0] c2 rfl rfl rfl ⟨rfl,trivial⟩ ?_)<;>try conv=>whnf)
   all_goals first
    |(exfalso;omega)
    |exact B0 h0 rfl ⟨rfl,rfl,rfl,rfl,rfl,rfl,rfl,rfl,trivial⟩ ⟨rfl,rfl,⟨_,rfl⟩,rfl,trivial⟩ rfl rfl rfl
    |exact B0 h0 rfl ⟨congrArg (fun z=>some (AV.str z)) r2,rfl,rfl,rfl,rfl,trivial⟩ ⟨rfl,rfl,⟨_,rfl⟩,trivial⟩ rfl rfl rfl
    |exact⟨(d2,n+1,t2,f),⟨hA,hB,hC,by dsimp only;rw[nB];omega,uw.down⟩,sc,B0 h0 rfl ⟨rfl,rfl,rfl,rfl,congrArg (fun z:Int=>some (AV.i z)) hE.symm,trivial⟩ ⟨rfl,congrArg G1.box vc,⟨_,congrArg (fun z=>G1.row D7 17 _ (z.map C0)) nB⟩,trivial⟩ rfl rfl rfl⟩
 ·simp only[if_neg pE]at i5
  have c2:=fX s d (t.takeWhile (B3 10)) (by omega) n (by omega) (by omega)
  generalize t.takeWhile (B3 10)=l at *
  generalize L7 s l=R at *
  obtain⟨q,ok⟩:=R
  dsimp only at c2 i5
  generalize hb:(ok && decide (¬q.name=[]))=b at *
  rw[←r1]at c2
  generalize l.length=K at *
  cases b with
  |false =>
   rw[if_pos (.inr rfl)]at i5
   cases i5
   repeat'((first|refine A0 c1 ?_|(refine B6 13 ?_;refine C5 (id:=13) ⟨[(1,.str t),(2,.iptr (sL s)),(4,.ref 1 0),(8,.ref 2 0),(9,.i n),(10,.i K),(11,.ref 4 0),(12,.b false)],5,[(1,some (.box [.str [],.str [],.i 0,.i 0,.i 0,.i 0,.i 0,A6,.i 0,.i 0,.i 0,A6])),(2,some (.box [.str d.prj,.str d.src,.i (A1.op d.coh),.i (A1.col d.coh),.i (A1.code d.coh),.i (A1.lo d.coh),.i (A1.hi d.coh),.sl 6 ((A1.kids d.coh).map C3),.i d.part,.i d.of,.i d.seed,.any])),(3,some (.row D7 17 1 ((d.qs++[q]).map C0))),(4,some (.box [.str d.prj,.str d.src,.i (A1.op d.coh),.i (A1.col d.coh),.i (A1.code d.coh),.i (A1.lo d.coh),.i (A1.hi d.coh),.sl 6 ((A1.kids d.coh).map C3),.i d.part,.i d.of,.i d.seed,.row 3 1 (d.qs.length+1)]))]⟩ ?_ ?_) |refine S2 ?_|(refine T6 ?_ ?_<;>intro h<;>try exact V1 h)|intro el ke kg|intro el ke|exact T4|refine T5 ?_ ?_|intro ex|refine nc [3] [0] c2 rfl rfl rfl ⟨rfl,trivial⟩ ?_)<;>try conv=>whnf)
   all_goals first
    |(exfalso;omega)
    |exact B0 h0 rfl ⟨rfl,rfl,rfl,rfl,rfl,rfl,rfl,rfl,trivial⟩ ⟨rfl,rfl,⟨_,rfl⟩,rfl,trivial⟩ rfl rfl rfl
    |exact K0 (rs:=[.cell 4 P9,.tmp 5,.tmp 6]) (vs:=[_,_,_]) rfl ⟨H0 rfl rfl rfl AE,⟨_,rfl,.refl _⟩,⟨_,rfl,.refl _⟩,trivial⟩ rfl
    |contradiction
  |true =>
   rw[if_neg (by rintro (h|h);(exact mF h);cases h)]at i5
   have vW:(n:Int)≤20001:=by omega
   have hA:t2.length<f:=by omega
   have hB:1≤n+1:=by omega
   have hC:n+1+t2.length≤20001:=by omega
   have hE:(((n+1:Nat):Int))=(n:Int)+1:=by omega
   have uw:PLift _:=⟨i5⟩
   clear i5 np mF
   have vY:(0:Int)≤((0:Nat):Int)∧((0:Nat):Int)≤(K:Int)∧(K:Int)≤(t.length:Int):=by omega
   repeat'((first|refine ND vY ?_|(refine ND (by omega) ?_)|refine A0 c1 ?_|(refine B6 13 ?_;refine C5 (id:=13) ⟨[(1,.str t),(2,.iptr (sL s)),(4,.ref 1 0),(8,.ref 2 0),(9,.i n),(10,.i K),(11,.ref 4 0),(12,.b true)],5,[(1,some (.box [.str [],.str [],.i 0,.i 0,.i 0,.i 0,.i 0,A6,.i 0,.i 0,.i 0,A6])),(2,some (.box [.str d.prj,.str d.src,.i (A1.op d.coh),.i (A1.col d.coh),.i (A1.code d.coh),.i (A1.lo d.coh),.i (A1.hi d.coh),.sl 6 ((A1.kids d.coh).map C3),.i d.part,.i d.of,.i d.seed,.any])),(3,some (.row D7 17 1 ((d.qs++[q]).map C0))),(4,some (.box [.str d.prj,.str d.src,.i (A1.op d.coh),.i (A1.col d.coh),.i (A1.code d.coh),.i (A1.lo d.coh),.i (A1.hi d.coh),.sl 6 ((A1.kids d.coh).map C3),.i d.part,.i d.of,.i d.seed,.row 3 1 (d.qs.length+1)]))]⟩ ?_ ?_)|(refine B6 16 ?_;refine C5 (id:=16) ⟨[(1,.str t2),(2,.iptr (sL s)),(4,.ref 1 0),(8,.ref 2 0),(9,.i n)],4,[(1,some (.box [.str [],.str [],.i 0,.i 0,.i 0,.i 0,.i 0,A6,.i 0,.i 0,.i 0,A6])),(2,some (.box [.str d.prj,.str d.src,.i (A1.op d.coh),.i (A1.col d.coh),.i (A1.code d.coh),.i (A1.lo d.coh),.i (A1.hi d.coh),.sl 6 ((A1.kids d.coh).map C3),.i d.part,.i d.of,.i d.seed,.row 3 1 (d.qs.length+1)])),(3,some (.row D7 17 1 ((d.qs++[q]).map C0)))]⟩ ?_ ?_) |refine S2 ?_|(refine T6 ?_ ?_<;>intro h<;>try exact V1 h)|intro el ke kg|intro el ke|exact T4|refine T5 ?_ ?_|intro ex|refine nc [3] [0] c2 rfl rfl rfl ⟨rfl,trivial⟩ ?_)<;>try conv=>whnf)
   all_goals first
    |(exfalso;omega)
    |exact B0 h0 rfl ⟨rfl,rfl,rfl,rfl,rfl,rfl,rfl,rfl,trivial⟩ ⟨rfl,rfl,⟨_,rfl⟩,rfl,trivial⟩ rfl rfl rfl
    |exact B0 h0 rfl ⟨congrArg (fun z=>some (AV.str z)) r2,rfl,rfl,rfl,rfl,trivial⟩ ⟨rfl,rfl,⟨_,rfl⟩,trivial⟩ rfl rfl rfl
    |exact⟨(⟨d.prj,d.src,d.coh,d.part,d.of,d.seed,d.qs++[q]⟩,n+1,t2,f),⟨hA,hB,hC,by dsimp only;rw[List.length_append,List.length_singleton];omega,uw.down⟩,sc,by rw[hE];exact B0 h0 rfl ⟨rfl,rfl,rfl,rfl,rfl,trivial⟩ ⟨rfl,congrArg (fun z:Nat=>G1.box [.str d.prj,.str d.src,.i (A1.op d.coh),.i (A1.col d.coh),.i (A1.code d.coh),.i (A1.lo d.coh),.i (A1.hi d.coh),.sl 6 ((A1.kids d.coh).map C3),.i d.part,.i d.of,.i d.seed,.row 3 0 z]) (by rw[List.length_append];rfl),⟨_,rfl⟩,trivial⟩ rfl rfl rfl⟩
theorem WZ(s:A5)(hr:C8 s=0)(c:A1):j7 s c=0→J0 c≤1000→A4 Tryz.prog 119 [sA s,G9 c] (.str (C6 s c))∧(C6 s c).length≤100*J0 c:=by
 refine T8 (p:=fun c=>j7 s c=0→J0 c≤1000→A4 Tryz.prog 119 [sA s,G9 c] (.str (C6 s c))∧(C6 s c).length≤100*J0 c) (fun c ih h ht=>?_) c
 obtain⟨h1,h2⟩:=Ew h
 obtain⟨p1,p2,p3,p4,p5,p6⟩:=DL h1
 obtain⟨k1,k2,k3⟩:=Gw c.op
 have nJ:∀k,k∈c.kids→A4 Tryz.prog 119 [sA s,G9 k] (.str (C6 s k))∧(C6 s k).length≤100*J0 k:=fun k hk=>by
  have:=EY hk
  rw[BK]at ht
  exact ih k hk (h2 k hk) (by omega)
 have lz:∃x,s.cols[c.col.toNat]?=some x∧0≤c.col:=by
  by_cases ho:c.op=2∨c.op=3∨c.op=4
  ·have:=p3 ho
   exact⟨_,List.getElem?_eq_getElem (by omega),by omega⟩
  ·have hz:=Rb h1 (by omega)
   have:=Rc hr
   exact⟨_,List.getElem?_eq_getElem (by omega),by omega⟩
 obtain⟨x,hx,qf⟩:=lz
 have lZ:=R4 (LN hr hx)
 rw[BK]at ht ⊢
 rw[HC]
 unfold S9 BW
 rw[D4 hx]at p4 ⊢
 rw[T7]at *
 by_cases o2:c.op=2
 ·rw[if_pos o2]
  obtain⟨hk,oq⟩:=p4 o2
  have hl:=AA.lst hr (List.mem_of_getElem? hx) hk
  obtain⟨lx,lr⟩:∃l,s.lists[x.lst.toNat]?=some l:=⟨_,List.getElem?_eq_getElem (by omega)⟩
  rw[M8 lr]at oq ⊢
  obtain⟨cd,rI⟩:∃d,lx.2[c.code.toNat]?=some d:=⟨_,List.getElem?_eq_getElem (by omega)⟩
  rw[S5 rI]
  have qU:=R4 (LO hr (List.mem_of_getElem? lr) rI)
  refine⟨?_,by simp only[List.length_append,List.length_cons,List.length_nil];omega⟩
  refine D0 Tryz.func119 99 fun ki E h0=>?_
  clear ki
  repeat'((first|(refine A2 (x:=x) hx (by omega) ?_)|(refine A2 (x:=lx) lr (by omega) ?_)|(refine A2 (x:=cd) rI (by omega) ?_)|(refine E0 ?_ ?_;(show x.name.length+7≤9223372036854775807;omega))|(refine E0 ?_ ?_;(rw[List.length_append];show x.name.length+7+cd.name.length≤9223372036854775807;omega))|(refine I6 ?_ ?_;kernel_rfl) |refine S2 ?_|(refine T6 ?_ ?_<;>intro h<;>try exact V1 h)|intro el ke kg|intro el ke|exact T4|refine T5 ?_ ?_|intro ex)<;>try conv=>whnf)
  all_goals first
   |exact A3 rfl rfl
   |(exfalso;omega)
 rw[if_neg o2]
 by_cases o3:c.op=3
 ·rw[if_pos o3]
  obtain⟨_,q1,q2,q3⟩:=p5 o3
  have l1:=Lib.itoa_length_le c.lo (by omega) (by omega)
  have l2:=Lib.itoa_length_le c.hi (by omega) (by omega)
  have r1:=P3 c.lo (by omega) (by omega)
  have r2:=P3 c.hi (by omega) (by omega)
  refine⟨?_,by simp only[List.length_append,List.length_cons,List.length_nil];omega⟩
  refine D0 Tryz.func119 99 fun ki E h0=>?_
  clear ki
  generalize Lib.itoa c.lo=zl at *
  generalize Lib.itoa c.hi=zh at *
  repeat'((first|(refine A2 (x:=x) hx (by omega) ?_)|refine A0 r1 ?_|refine A0 r2 ?_|(refine E0 ?_ ?_;(show x.name.length+6≤9223372036854775807;omega))|(refine E0 ?_ ?_;(rw[List.length_append];show x.name.length+6+zl.length≤9223372036854775807;omega))|(refine E0 ?_ ?_;(rw[List.length_append,List.length_append];show x.name.length+6+zl.length+4≤9223372036854775807;omega))|(refine E0 ?_ ?_;(rw[List.length_append,List.length_append,List.length_append];show x.name.length+6+zl.length+4+zh.length≤9223372036854775807;omega))|(refine I6 ?_ ?_;kernel_rfl) |refine S2 ?_|(refine T6 ?_ ?_<;>intro h<;>try exact V1 h)|intro el ke kg|intro el ke|exact T4|refine T5 ?_ ?_|intro ex)<;>try conv=>whnf)
  all_goals first
   |exact A3 rfl rfl
   |(exfalso;omega)
 rw[if_neg o3]
 by_cases o4:c.op=4
 ·rw[if_pos o4]
  refine⟨?_,by simp only[List.length_append,List.length_cons,List.length_nil];omega⟩
  refine D0 Tryz.func119 99 fun ki E h0=>?_
  clear ki
  repeat'((first|(refine A2 (x:=x) hx (by omega) ?_)|(refine E0 ?_ ?_;(show x.name.length+8≤9223372036854775807;omega)) |refine S2 ?_|(refine T6 ?_ ?_<;>intro h<;>try exact V1 h)|intro el ke kg|intro el ke|exact T4|refine T5 ?_ ?_|intro ex)<;>try conv=>whnf)
  all_goals first
   |exact A3 rfl rfl
   |(exfalso;omega)
 rw[if_neg o4]
 by_cases o5:c.op=5
 ·rw[if_pos o5]
  have lJ:=k1 (.inl o5)
  obtain⟨a,ha⟩:∃a,c.kids[0]?=some a:=⟨_,List.getElem?_eq_getElem (by omega)⟩
  obtain⟨b,hb⟩:∃b,c.kids[1]?=some b:=⟨_,List.getElem?_eq_getElem (by omega)⟩
  obtain⟨r1,l1⟩:=nJ a (List.mem_of_getElem? ha)
  obtain⟨r2,l2⟩:=nJ b (List.mem_of_getElem? hb)
  have qI:=Hu ha hb
  rw[S5 (l:=c.kids.map (C6 s)) (k:=0) (x:=C6 s a) (by simp[ha]),S5 (l:=c.kids.map (C6 s)) (k:=1) (x:=C6 s b) (by simp[hb])]
  generalize C6 s a=za at *
  generalize C6 s b=zb at *
  refine⟨?_,by simp only[List.length_append,List.length_cons,List.length_nil];omega⟩
  refine D0 Tryz.func119 99 fun ki E h0=>?_
  clear ki
  repeat'((first|(refine A2 (x:=x) hx (by omega) ?_)|(refine A2 (x:=a) ha (by decide) ?_)|(refine A2 (x:=b) hb (by decide) ?_)|refine A0 r1 ?_|refine A0 r2 ?_|(refine E0 ?_ ?_;(show 1+za.length≤9223372036854775807;omega))|(refine E0 ?_ ?_;(rw[List.length_append];show 1+za.length+5≤9223372036854775807;omega))|(refine E0 ?_ ?_;(rw[List.length_append,List.length_append];show 1+za.length+5+zb.length≤9223372036854775807;omega))|(refine E0 ?_ ?_;(rw[List.length_append,List.length_append,List.length_append];show 1+za.length+5+zb.length+1≤9223372036854775807;omega))|(refine I6 ?_ ?_;kernel_rfl) |refine S2 ?_|(refine T6 ?_ ?_<;>intro h<;>try exact V1 h)|intro el ke kg|intro el ke|exact T4|refine T5 ?_ ?_|intro ex)<;>try conv=>whnf)
  all_goals first
   |exact A3 rfl rfl
   |(exfalso;omega)
 rw[if_neg o5]
 by_cases o6:c.op=6
 ·rw[if_pos o6]
  have lJ:=k1 (.inr o6)
  obtain⟨a,ha⟩:∃a,c.kids[0]?=some a:=⟨_,List.getElem?_eq_getElem (by omega)⟩
  obtain⟨b,hb⟩:∃b,c.kids[1]?=some b:=⟨_,List.getElem?_eq_getElem (by omega)⟩
  obtain⟨r1,l1⟩:=nJ a (List.mem_of_getElem? ha)
  obtain⟨r2,l2⟩:=nJ b (List.mem_of_getElem? hb)
  have qI:=Hu ha hb
  rw[S5 (l:=c.kids.map (C6 s)) (k:=0) (x:=C6 s a) (by simp[ha]),S5 (l:=c.kids.map (C6 s)) (k:=1) (x:=C6 s b) (by simp[hb])]
  generalize C6 s a=za at *
  generalize C6 s b=zb at *
  refine⟨?_,by simp only[List.length_append,List.length_cons,List.length_nil];omega⟩
  refine D0 Tryz.func119 99 fun ki E h0=>?_
  clear ki
  repeat'((first|(refine A2 (x:=x) hx (by omega) ?_)|(refine A2 (x:=a) ha (by decide) ?_)|(refine A2 (x:=b) hb (by decide) ?_)|refine A0 r1 ?_|refine A0 r2 ?_|(refine E0 ?_ ?_;(show 1+za.length≤9223372036854775807;omega))|(refine E0 ?_ ?_;(rw[List.length_append];show 1+za.length+4≤9223372036854775807;omega))|(refine E0 ?_ ?_;(rw[List.length_append,List.length_append];show 1+za.length+4+zb.length≤9223372036854775807;omega))|(refine E0 ?_ ?_;(rw[List.length_append,List.length_append,List.length_append];show 1+za.length+4+zb.length+1≤9223372036854775807;omega))|(refine I6 ?_ ?_;kernel_rfl) |refine S2 ?_|(refine T6 ?_ ?_<;>intro h<;>try exact V1 h)|intro el ke kg|intro el ke|exact T4|refine T5 ?_ ?_|intro ex)<;>try conv=>whnf)
  all_goals first
   |exact A3 rfl rfl
   |(exfalso;omega)
 rw[if_neg o6]
 by_cases o7:c.op=7
 ·rw[if_pos o7]
  have lJ:=k2 o7
  obtain⟨a,ha⟩:∃a,c.kids[0]?=some a:=⟨_,List.getElem?_eq_getElem (by omega)⟩
  obtain⟨r1,l1⟩:=nJ a (List.mem_of_getElem? ha)
  have qI:=EY (List.mem_of_getElem? ha)
  rw[S5 (l:=c.kids.map (C6 s)) (k:=0) (x:=C6 s a) (by simp[ha])]
  generalize C6 s a=za at *
  refine⟨?_,by simp only[List.length_append,List.length_cons,List.length_nil];omega⟩
  refine D0 Tryz.func119 99 fun ki E h0=>?_
  clear ki
  repeat'((first|(refine A2 (x:=x) hx (by omega) ?_)|(refine A2 (x:=a) ha (by decide) ?_)|refine A0 r1 ?_|(refine E0 ?_ ?_;(show 4+za.length≤9223372036854775807;omega))|(refine I6 ?_ ?_;kernel_rfl) |refine S2 ?_|(refine T6 ?_ ?_<;>intro h<;>try exact V1 h)|intro el ke kg|intro el ke|exact T4|refine T5 ?_ ?_|intro ex)<;>try conv=>whnf)
  all_goals first
   |exact A3 rfl rfl
   |(exfalso;omega)
 rw[if_neg o7]
 refine⟨?_,by simp only[List.length_cons,List.length_nil];omega⟩
 refine D0 Tryz.func119 99 fun ki E h0=>?_
 clear ki
 repeat'((first|(refine A2 (x:=x) hx (by omega) ?_) |refine S2 ?_|(refine T6 ?_ ?_<;>intro h<;>try exact V1 h)|intro el ke kg|intro el ke|exact T4|refine T5 ?_ ?_|intro ex)<;>try conv=>whnf)
 all_goals first
  |exact A3 rfl rfl
  |(exfalso;omega)
theorem Tf(s:A5)(c:A1):A4 Tryz.prog 77 [sA s,G9 c] (.tup [.str (GY s c).1,.i (GY s c).2]):=by
 have h1:=Bs s c
 have h2:¬G6 s c≠0→A4 Tryz.prog 119 [sA s,G9 c] (.str (C6 s c)):=fun h=>by
  obtain⟨a,b,_,d⟩:=CA (Decidable.of_not_not h)
  exact(WZ s a c d (by omega)).1
 unfold GY
 rw[T7]at *
 refine D0 Tryz.func77 16 fun ki E h0=>?_
 clear ki
 repeat'((first|refine A0 h1 ?_|(refine A0 (h2 (by assumption)) ?_) |refine S2 ?_|(refine T6 ?_ ?_<;>intro h<;>try exact V1 h)|intro el ke kg|intro el ke|exact T4|refine T5 ?_ ?_|intro ex)<;>try conv=>whnf)
 all_goals first
  |(rw[if_neg (by omega)];exact O3 rfl rfl rfl)
  |(rw[if_pos (by omega)];exact O3 rfl rfl rfl)
end Go.Proofs.YtkcekccdcpmekaaGreatDoor

/- Draws: dimensions, terms, and all columns. Draws: expressions and programs, in plain terms. -/
import Derived.Test.YtiphlhoclaogjaaGreatDoorJD2
import Derived.Test.YtiphlhoclaogjaaGreatDoorJRp2
import Derived.Test.YtiphlhoclaogjaaGreatDoorJB10
import Derived.Test.YtiphlhoclaogjaaGreatDoorJF1
import Derived.Test.YtiphlhoclaogjaaGreatDoorJF3
set_option linter.unusedVariables false
set_option linter.unnecessarySimpa false
set_option linter.unusedSimpArgs false
set_option maxHeartbeats 64000000
namespace Go.Proofs.YtiphlhoclaogjaaGreatDoor
open Go Go.Av
attribute [local irreducible] C9 B3 C8 D1 DQ D0 C7 St.le A3 B8
set_option maxRecDepth 100000
def GK(l:List UInt8)(s:A4):List Nat→List Pk×Nat→List Pk×Nat
 |[],x=>x
 |c::r,x=>GK l s r (x.1++[⟨c,(C1 l x.2 (B4 s c+1)).1⟩],(C1 l x.2 (B4 s c+1)).2)
def Cf(l:List UInt8)(a:Nat)(s:A4):List Pk×Nat :=
 if ((C1 l a 2).1:Int)=2-1 then GK l s ((J3 s 2 s.cols.length).drop (C1 l (C1 l a 2).2 (J3 s 2 s.cols.length).length).1) ([],(C1 l (C1 l a 2).2 (J3 s 2 s.cols.length).length).2)
 else GK l s (J3 s 2 s.cols.length) ([],(C1 l a 2).2)
theorem fP{s:A4}(hd:E4 s){c:Nat}(h:c∈J3 s 2 s.cols.length):0≤B4 s c∧B4 s c≤4:=by
 obtain⟨h1,h2⟩:=Gg.1 h
 have hc:s.cols[c]?=some (s.cols[c]'h1):=List.getElem?_eq_getElem h1
 by_cases hz:c=0
 ·subst hz
  rw[show B6 s ((0:Nat):Int)=s.cols[0]'h1 from B9 (by simpa using hc)]at h2
  rcases hd.col hc with ⟨_,e⟩|⟨h,_⟩|⟨h,_⟩
  ·rw[e]at h2;cases h2
  ·omega
  ·omega
 ·obtain⟨n,h3,h4,_⟩:=hd.chain (i:=c) (by omega) hc
  omega
theorem ZY(l:List UInt8)(a:Nat)(s:A4)(hd:E4 s)(hl:l.length≤400):B8 Tryz.prog 41 1 (X7 l a) [.ref 0 0,sA s] 1 (X7 l (Cf l a s).2) (.sl 2 ((Cf l a s).1.map A8)):=by
 have hc:=GD s 2 (by have:=hd.lens;omega)
 have oW:=Ig s 2 s.cols.length
 have sG:=hd.lens
 have nj:=hd.two.1
 have yo:∀c∈J3 s 2 s.cols.length,0≤B4 s (c:Nat)∧B4 s (c:Nat)≤4:=fun c h=>fP hd h
 have r1:=Co l a 2 hl (by omega)
 unfold Cf
 have h2:=I4 l a (n:=2) (by omega)
 generalize C1 l a 2=q at *
 obtain⟨q1,q2⟩:=q
 dsimp only at r1 h2 ⊢
 generalize J3 s 2 s.cols.length=C at *
 have r2:=J8 l q2 C.length hl
 have h3:=I4 l q2 (n:=C.length) (by omega)
 generalize C1 l q2 C.length=r at *
 obtain⟨ra,rb⟩:=r
 dsimp only at r2 h3 ⊢
 have tJ:=fun c:Nat=>N0 s c
 have nt:=fun b n=>J8 l b n hl
 generalize hZ:(if (q1:Int)=2-1 then GK l s (C.drop ra) ([],rb)else GK l s C ([],q2))=Z
 refine c9 Tryz.func41 42 fun E h0=>?_
 repeat'((first|refine A0 hc ?_|refine⟨G3 [0] [0] r1 rfl rfl rfl rfl rfl ⟨rfl,trivial⟩ rfl rfl rfl rfl rfl ?_⟩|refine⟨G3 [0] [0] r2 rfl rfl rfl rfl rfl ⟨rfl,trivial⟩ rfl rfl rfl rfl rfl ?_⟩ |refine S2 ?_|(refine T6 ?_ ?_<;>intro h<;>try exact V1 h)|intro el nJ nK|intro el nJ|exact T4|refine T5 ?_ ?_|intro ex)<;>try conv=>whnf)
 ·have hq:(q1:Int)=2-1:=by assumption
  rw[if_pos hq]at hZ
  have hDS:List.drop (ra:Int).toNat (List.take ((C.map iA).length:Int).toNat (C.map iA))=(C.drop ra).map iA:=by rw[Int.toNat_natCast,Int.toNat_natCast,List.take_length,List.map_drop]
  have qn:∀c∈C.drop ra,c∈C:=fun c hc=>List.mem_of_mem_drop hc
  have zM:(C.drop ra).length≤6:=by rw[List.length_drop];omega
  have hD:=hZ.symm
  generalize C.drop ra=D at *
  refine B0 (ι:=Nat×List Pk×Nat) (fun x=>⟨[(0,.ref 0 0),(3,.iptr (sL s)),(5,.row 2 0 x.2.1.length),(6,.sl 1 (D.map iA)),(18,.sl 1 (D.map iA)),(19,.i D.length),(20,.i x.1)],3,[(0,some (.box [.sl 1 (l.map P9),.i x.2.2])),(2,some (.row 81 2 0 (x.2.1.map A8)))]⟩)
   (fun x=>x.1≤D.length∧x.2.1.length≤x.1∧Z=GK l s (D.drop x.1) x.2) (fun x=>D.length-x.1) (0,[],rb) ⟨Nat.zero_le _,Nat.zero_le _,hD⟩
   (C0 (I0 (d:=5) (e:=81) (sz:=2) rfl) (A7 h0 rfl ⟨rfl,rfl,rfl,congrArg (fun z=>some (AV.sl 1 z)) hDS,congrArg (fun z=>some (AV.sl 1 z)) hDS,congrArg (fun z:List (List AV)=>some (AV.i z.length)) (hDS.trans (by rfl:D.map iA=D.map iA)) |>.trans (congrArg (fun z:Nat=>some (AV.i z)) (List.length_map _)),rfl,trivial⟩ ⟨rfl,⟨0,rfl⟩,trivial⟩ rfl rfl rfl)) (fun x hI=>?_)
  obtain⟨k,out,b⟩:=x
  obtain⟨hk,qJ,hI⟩:=hI
  dsimp only at hk qJ hI ⊢
  by_cases nN:k<D.length
  ·obtain⟨c,wD⟩:∃c,D[k]?=some c:=⟨_,List.getElem?_eq_getElem nN⟩
   have vY:=yo c (qn c (List.mem_of_getElem? wD))
   have r3:=nt b (B4 s c+1)
   have hf:=tJ c
   rw[F7 wD,GK]at hI
   dsimp only at hI
   generalize C1 l b (B4 s c+1)=u at *
   obtain⟨u1,u2⟩:=u
   dsimp only at r3 hI ⊢
   generalize B4 s c=fs at *
   repeat'((first|(refine A2 (x:=c) wD (by omega) ?_)|refine A0 hf ?_|refine⟨G3 [0] [0] r3 rfl rfl rfl rfl rfl ⟨rfl,trivial⟩ rfl rfl rfl rfl rfl ?_⟩|(refine E7 8 ?_;refine F5 (id:=8) ⟨[(0,.ref 0 0),(3,.iptr (sL s)),(5,.row 2 0 (out.length+1)),(6,.sl 1 (D.map iA)),(18,.sl 1 (D.map iA)),(19,.i D.length),(20,.i k)],3,[(0,some (.box [.sl 1 (l.map P9),.i u2])),(2,some (.row 81 2 0 ((out++[(⟨c,u1⟩:Pk)]).map A8)))]⟩ ?_ ?_) |refine S2 ?_|(refine T6 ?_ ?_<;>intro h<;>try exact V1 h)|intro el nJ nK|intro el nJ|exact T4|refine T5 ?_ ?_|intro ex)<;>try conv=>whnf)
   all_goals first
    |(exfalso;omega)
    |exact A7 h0 rfl ⟨rfl,rfl,rfl,rfl,rfl,rfl,rfl,trivial⟩ ⟨rfl,⟨_,congrArg (C4.row 81 2 _) (by rw[List.map_append];rfl)⟩,trivial⟩ rfl rfl rfl
    |exact⟨(k+1,out++[⟨c,u1⟩],u2),⟨by dsimp only;omega,by dsimp only;rw[List.length_append,List.length_singleton];omega,hI⟩,by dsimp only;omega,A7 h0 rfl ⟨rfl,rfl,congrArg (fun z:Nat=>some (AV.row 2 0 z)) (by rw[List.length_append];rfl),rfl,rfl,rfl,rfl,trivial⟩ ⟨rfl,⟨_,rfl⟩,trivial⟩ rfl rfl rfl⟩
  ·obtain rfl:k=D.length:=by omega
   rw[List.drop_length,GK]at hI
   rw[hI]
   repeat'((first|refine S2 ?_|(refine T6 ?_ ?_<;>intro h<;>try exact V1 h)|intro el nJ nK|intro el nJ|exact T4|refine T5 ?_ ?_|intro ex)<;>try conv=>whnf)
   all_goals first
    |(exfalso;omega)
    |exact H6 (A6 h0)
 ·have hq:¬(q1:Int)=2-1:=by assumption
  rw[if_neg hq]at hZ
  have qn:∀c∈C,c∈C:=fun c hc=>hc
  have zM:C.length≤6:=by omega
  have hD:=hZ.symm
  refine B0 (ι:=Nat×List Pk×Nat) (fun x=>⟨[(0,.ref 0 0),(3,.iptr (sL s)),(5,.row 2 0 x.2.1.length),(6,.sl 1 (C.map iA)),(18,.sl 1 (C.map iA)),(19,.i C.length),(20,.i x.1)],3,[(0,some (.box [.sl 1 (l.map P9),.i x.2.2])),(2,some (.row 81 2 0 (x.2.1.map A8)))]⟩)
   (fun x=>x.1≤C.length∧x.2.1.length≤x.1∧Z=GK l s (C.drop x.1) x.2) (fun x=>C.length-x.1) (0,[],q2) ⟨Nat.zero_le _,Nat.zero_le _,hD⟩
   (C0 (I0 (d:=5) (e:=81) (sz:=2) rfl) (A7 h0 rfl ⟨rfl,rfl,rfl,rfl,rfl,rfl,rfl,trivial⟩ ⟨rfl,⟨0,rfl⟩,trivial⟩ rfl rfl rfl)) (fun x hI=>?_)
  obtain⟨k,out,b⟩:=x
  obtain⟨hk,qJ,hI⟩:=hI
  dsimp only at hk qJ hI ⊢
  by_cases nN:k<C.length
  ·obtain⟨c,wD⟩:∃c,C[k]?=some c:=⟨_,List.getElem?_eq_getElem nN⟩
   have vY:=yo c (qn c (List.mem_of_getElem? wD))
   have r3:=nt b (B4 s c+1)
   have hf:=tJ c
   rw[F7 wD,GK]at hI
   dsimp only at hI
   generalize C1 l b (B4 s c+1)=u at *
   obtain⟨u1,u2⟩:=u
   dsimp only at r3 hI ⊢
   generalize B4 s c=fs at *
   repeat'((first|(refine A2 (x:=c) wD (by omega) ?_)|refine A0 hf ?_|refine⟨G3 [0] [0] r3 rfl rfl rfl rfl rfl ⟨rfl,trivial⟩ rfl rfl rfl rfl rfl ?_⟩|(refine E7 8 ?_;refine F5 (id:=8) ⟨[(0,.ref 0 0),(3,.iptr (sL s)),(5,.row 2 0 (out.length+1)),(6,.sl 1 (C.map iA)),(18,.sl 1 (C.map iA)),(19,.i C.length),(20,.i k)],3,[(0,some (.box [.sl 1 (l.map P9),.i u2])),(2,some (.row 81 2 0 ((out++[(⟨c,u1⟩:Pk)]).map A8)))]⟩ ?_ ?_) |refine S2 ?_|(refine T6 ?_ ?_<;>intro h<;>try exact V1 h)|intro el nJ nK|intro el nJ|exact T4|refine T5 ?_ ?_|intro ex)<;>try conv=>whnf)
   all_goals first
    |(exfalso;omega)
    |exact A7 h0 rfl ⟨rfl,rfl,rfl,rfl,rfl,rfl,rfl,trivial⟩ ⟨rfl,⟨_,congrArg (C4.row 81 2 _) (by rw[List.map_append];rfl)⟩,trivial⟩ rfl rfl rfl
    |exact⟨(k+1,out++[⟨c,u1⟩],u2),⟨by dsimp only;omega,by dsimp only;rw[List.length_append,List.length_singleton];omega,hI⟩,by dsimp only;omega,A7 h0 rfl ⟨rfl,rfl,congrArg (fun z:Nat=>some (AV.row 2 0 z)) (by rw[List.length_append];rfl),rfl,rfl,rfl,rfl,trivial⟩ ⟨rfl,⟨_,rfl⟩,trivial⟩ rfl rfl rfl⟩
  ·obtain rfl:k=C.length:=by omega
   rw[List.drop_length,GK]at hI
   rw[hI]
   repeat'((first|refine S2 ?_|(refine T6 ?_ ?_<;>intro h<;>try exact V1 h)|intro el nJ nK|intro el nJ|exact T4|refine T5 ?_ ?_|intro ex)<;>try conv=>whnf)
   all_goals first
    |(exfalso;omega)
    |exact H6 (A6 h0)
abbrev BM:AV:=.v (.slice none 0 0)
abbrev gR:AV:=.agg [.str [97,108,108,95,114,111,119,115],.str [115,114,99],.i 1,.i 0,.i 0,.i 0,.i 0,BM,.i 1,.i 1,.i 0,.sl 17 [[.str [113],.i 1,.i 1,.i 0,.i 0,.i 0,.i 0,BM,.sl 2 [[.i 1,.i 0]],.i (-1),BM,.i 0,.i 0,.i 0,.i 0,.i 0,BM]]]
def GL(s:A4):Nat→List Pk
 |0=>[]
 |k+1=>GL s k++[⟨(k:Int)+1,B4 s ((k:Int)+1)⟩]
theorem Mw(s:A4):∀k,(GL s k).length=k
 |0=>rfl
 |k+1=>by rw[GL,List.length_append,Mw s k];rfl
def Ey(s:A4):List Pk:=GL s (s.cols.length-1)
theorem fQ(s:A4)(hd:E4 s):A3 Tryz.prog 37 [sA s] (.tup [gR,.sl 2 ((Ey s).map A8)]):=by
 have sG:=hd.lens
 have hf:=fun c=>N0 s c
 unfold Ey
 refine B5 Tryz.func37 33 fun nL E h0=>?_
 clear nL
 repeat'((first|refine S2 ?_|(refine T6 ?_ ?_<;>intro h<;>try exact V1 h)|intro el nJ nK|intro el nJ|exact T4|refine T5 ?_ ?_|intro ex)<;>try conv=>whnf)
 refine B0 (ι:=Nat) (fun k=>⟨[(1,.iptr (sL s)),(2,.ref 1 0),(4,.ref 2 0),(5,.row 3 0 (GL s k).length),(6,.i ((k:Int)+1))],4,[(1,some (.box [.str [],.str [],.i 0,.i 0,.i 0,.i 0,.i 0,BM,.i 0,.i 0,.i 0,BM])),(2,some (.box [.str [97,108,108,95,114,111,119,115],.str [115,114,99],.i 1,.i 0,.i 0,.i 0,.i 0,BM,.i 1,.i 1,.i 0,BM])),(3,some (.row 81 2 0 ((GL s k).map A8)))]⟩) (fun k=>k≤s.cols.length-1) (fun k=>s.cols.length-1-k) 0 (Nat.zero_le _)
  (C0 (I0 (d:=5) (e:=81) (sz:=2) rfl) (A7 h0 rfl ⟨rfl,rfl,rfl,rfl,rfl,trivial⟩ ⟨rfl,rfl,⟨0,rfl⟩,trivial⟩ rfl rfl rfl)) (fun k hk=>?_)
 have sk:=Mw s k
 have nt:GL s (k+1)=GL s k++[⟨(k:Int)+1,B4 s ((k:Int)+1)⟩]:=rfl
 have hen:k=s.cols.length-1→GL s (s.cols.length-1)=GL s k:=fun h=>by rw[h]
 have uN:=hf ((k:Int)+1)
 generalize GL s k=A at *
 generalize B4 s ((k:Int)+1)=fs at *
 repeat'((first|refine A0 uN ?_|(refine E7 7 ?_;refine F5 (id:=7) ⟨[(2,.ref 1 0),(4,.ref 2 0),(5,.row 3 0 A.length)],4,[(1,some (.box [.str [],.str [],.i 0,.i 0,.i 0,.i 0,.i 0,BM,.i 0,.i 0,.i 0,BM])),(2,some (.box [.str [97,108,108,95,114,111,119,115],.str [115,114,99],.i 1,.i 0,.i 0,.i 0,.i 0,BM,.i 1,.i 1,.i 0,.sl 17 [[.str [113],.i 1,.i 1,.i 0,.i 0,.i 0,.i 0,BM,.sl 2 [[.i 1,.i 0]],.i (-1),BM,.i 0,.i 0,.i 0,.i 0,.i 0,BM]]])),(3,some (.row 81 2 0 (A.map A8)))]⟩ ?_ ?_) |refine S2 ?_|(refine T6 ?_ ?_<;>intro h<;>try exact V1 h)|intro el nJ nK|intro el nJ|exact T4|refine T5 ?_ ?_|intro ex)<;>try conv=>whnf)
 all_goals first
  |(refine⟨k+1,by omega,by omega,?_⟩;rw[nt];exact A7 h0 rfl ⟨rfl,rfl,rfl,congrArg (fun z:Nat=>some (AV.row 3 0 z)) (by rw[List.length_append];rfl),congrArg (fun z:Int=>some (AV.i z)) (by omega),trivial⟩ ⟨rfl,rfl,⟨_,congrArg (C4.row 81 2 _) (by rw[List.map_append];rfl)⟩,trivial⟩ rfl rfl rfl)
  |(rw[hen (by omega)];exact T3 rfl rfl rfl (.refl _) rfl (.refl _) rfl)
  |exact A6 h0
def zC:B7:=.mk 0 0 0 0 0 []
structure PrD where
 l:List nG
 names:List (List UInt8)
 a:Nat
theorem cM{s:A4}(hr:C3 s=0){c:Int}{x:D3}(h0:1≤c)(hc:s.cols[c.toNat]?=some x)(hk:x.kind=3):B4 s c=x.widths.length:=by
 have nN:=E9 hc
 unfold B4 E6
 rw[if_pos hr,if_neg (by omega),B9 hc,M1,if_neg (by omega)]
theorem LJ{s:A4}(hr:C3 s=0){c:Int}(h:Q7 s c 3=true):1≤c:=by
 obtain⟨h0,h1,x,hx,hk⟩:=AR h
 by_cases hz:c=0
 ·obtain⟨_,_,_,_,h5⟩:=D2 hr
  subst hz
  have:s.cols.head?=some x:=by rw[←hx];cases s.cols<;>rfl
  rw[this]at h5
  simp only[Option.map_some,Option.some.injEq]at h5
  omega
 ·omega
theorem jc(ws:List Int)(w:Int):0≤Ao ws w∧Ao ws w≤ws.length:=by
 unfold Ao
 have:=Kq (fun x=>decide (x=w)) ws 0
 split<;>omega
structure XprOk(s:A4)(names:List (List UInt8))(e:F6)(d:Nat):Prop where
 rig:Bq s e=true
 tot:j7 (Yz e)+1≤2 ^ (d+1)
 dep:j6 (Yz e)≤d+1
 nam:∀g:List UInt8→Bool,(∀nm∈names,g nm=true)→lQ g e=true
 kin:∀bs:List XN,(∀nm∈names,lW bs nm=(1,0))→(Un bs e).2=0∧(Pu e.op→(Un bs e).1=1)
theorem E4.fin{s:A4}(hd:E4 s){c:Int}(h1:1≤c)(h2:c<s.cols.length):0≤B4 s c∧B4 s c≤4∧B4 s c=E6 s c:=by
 obtain⟨n,h3,h4,_⟩:=hd.chain (i:=c.toNat) (by omega) (List.getElem?_eq_getElem (show c.toNat<s.cols.length by omega))
 rw[show ((c.toNat:Nat):Int)=c by omega]at h3
 exact⟨by omega,by omega,by unfold B4;rw[if_pos hd.ok]⟩
end Go.Proofs.YtiphlhoclaogjaaGreatDoor

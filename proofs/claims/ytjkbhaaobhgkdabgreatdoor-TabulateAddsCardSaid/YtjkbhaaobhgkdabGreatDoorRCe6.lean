/- Draws: dimensions, terms, and all columns. Draws: expressions and programs, in plain terms. -/
import Derived.Test.YtjkbhaaobhgkdabGreatDoorRDr8
import Derived.Test.YtjkbhaaobhgkdabGreatDoorRKa0
import Derived.Test.YtjkbhaaobhgkdabGreatDoorRB10
import Derived.Test.YtjkbhaaobhgkdabGreatDoorRF1
import Derived.Test.YtjkbhaaobhgkdabGreatDoorRF3
import Derived.Test.YtjkbhaaobhgkdabGreatDoorRCf1
import Derived.Test.YtjkbhaaobhgkdabGreatDoorRC3
set_option linter.unusedVariables false
set_option linter.unnecessarySimpa false
set_option linter.unusedSimpArgs false
set_option maxHeartbeats 64000000
namespace Go.Proofs.YtjkbhaaobhgkdabGreatDoor
open Go Go.Av
attribute [local irreducible] D0 B0 D2 C7 DQ D1 C8 St.le A3 B6
set_option maxRecDepth 100000
def DI(l:List UInt8)(s:A4):List Nat→List Pk×Nat→List Pk×Nat
 |[],x=>x
 |c::r,x=>DI l s r (x.1++[⟨c,(B3 l x.2 (B9 s c+1)).1⟩],(B3 l x.2 (B9 s c+1)).2)
def e6(l:List UInt8)(a:Nat)(s:A4):List Pk×Nat :=
 if ((B3 l a 2).1:Int)=2-1 then DI l s ((G1 s 2 s.cols.length).drop (B3 l (B3 l a 2).2 (G1 s 2 s.cols.length).length).1) ([],(B3 l (B3 l a 2).2 (G1 s 2 s.cols.length).length).2)
 else DI l s (G1 s 2 s.cols.length) ([],(B3 l a 2).2)
theorem UV{s:A4}(hd:C4 s){c:Nat}(h:c∈G1 s 2 s.cols.length):0≤B9 s c∧B9 s c≤4:=by
 obtain⟨h1,h2⟩:=w7.1 h
 have hc:s.cols[c]?=some (s.cols[c]'h1):=List.getElem?_eq_getElem h1
 by_cases hz:c=0
 ·subst hz
  rw[show B4 s ((0:Nat):Int)=s.cols[0]'h1 from B7 (by simpa using hc)]at h2
  rcases hd.col hc with ⟨_,e⟩|⟨h,_⟩|⟨h,_⟩
  ·rw[e]at h2;cases h2
  ·omega
  ·omega
 ·obtain⟨n,h3,h4,_⟩:=hd.chain (i:=c) (by omega) hc
  omega
theorem ZE(l:List UInt8)(a:Nat)(s:A4)(hd:C4 s)(hl:l.length≤400):B6 Tryz.prog 17 1 (V3 l a) [.ref 0 0,sA s] 1 (V3 l (e6 l a s).2) (.sl 2 ((e6 l a s).1.map B5)):=by
 have hc:=FZ s 2 (by have:=hd.lens;omega)
 have ob:=Ho s 2 s.cols.length
 have qc:=hd.lens
 have nq:=hd.two.1
 have yG:∀c∈G1 s 2 s.cols.length,0≤B9 s (c:Nat)∧B9 s (c:Nat)≤4:=fun c h=>UV hd h
 have r1:=Bx l a 2 hl (by omega)
 unfold e6
 have h2:=F9 l a (n:=2) (by omega)
 generalize B3 l a 2=q at *
 obtain⟨q1,q2⟩:=q
 dsimp only at r1 h2 ⊢
 generalize G1 s 2 s.cols.length=C at *
 have r2:=J2 l q2 C.length hl
 have h3:=F9 l q2 (n:=C.length) (by omega)
 generalize B3 l q2 C.length=r at *
 obtain⟨ra,rb⟩:=r
 dsimp only at r2 h3 ⊢
 have sb:=fun c:Nat=>u6 s c
 have nz:=fun b n=>J2 l b n hl
 generalize hZ:(if (q1:Int)=2-1 then DI l s (C.drop ra) ([],rb)else DI l s C ([],q2))=Z
 refine X6 Tryz.func17 42 fun E h0=>?_
 repeat'((first|refine A1 hc ?_|refine⟨F6 [0] [0] r1 rfl rfl rfl rfl rfl ⟨rfl,trivial⟩ rfl rfl rfl rfl rfl ?_⟩|refine⟨F6 [0] [0] r2 rfl rfl rfl rfl rfl ⟨rfl,trivial⟩ rfl rfl rfl rfl rfl ?_⟩ |refine S2 ?_|(refine T6 ?_ ?_<;>intro h<;>try exact V1 h)|intro el nN nP|intro el nN|exact T4|refine T5 ?_ ?_|intro ex)<;>try conv=>whnf)
 ·have hq:(q1:Int)=2-1:=by assumption
  rw[if_pos hq]at hZ
  have zf:List.drop (ra:Int).toNat (List.take ((C.map iA).length:Int).toNat (C.map iA))=(C.drop ra).map iA:=by rw[Int.toNat_natCast,Int.toNat_natCast,List.take_length,List.map_drop]
  have qW:∀c∈C.drop ra,c∈C:=fun c hc=>List.mem_of_mem_drop hc
  have hDl:(C.drop ra).length≤6:=by rw[List.length_drop];omega
  have hD:=hZ.symm
  generalize C.drop ra=D at *
  refine B2 (ι:=Nat×List Pk×Nat) (fun x=>⟨[(0,.ref 0 0),(3,.iptr (sL s)),(5,.row 2 0 x.2.1.length),(6,.sl 1 (D.map iA)),(18,.sl 1 (D.map iA)),(19,.i D.length),(20,.i x.1)],3,[(0,some (.box [.sl 1 (l.map O2),.i x.2.2])),(2,some (.row 58 2 0 (x.2.1.map B5)))]⟩)
   (fun x=>x.1≤D.length∧x.2.1.length≤x.1∧Z=DI l s (D.drop x.1) x.2) (fun x=>D.length-x.1) (0,[],rb) ⟨Nat.zero_le _,Nat.zero_le _,hD⟩
   (C2 (K4 (d:=5) (e:=58) (sz:=2) rfl) (A8 h0 rfl ⟨rfl,rfl,rfl,congrArg (fun z=>some (AV.sl 1 z)) zf,congrArg (fun z=>some (AV.sl 1 z)) zf,congrArg (fun z:List (List AV)=>some (AV.i z.length)) (zf.trans (by rfl:D.map iA=D.map iA)) |>.trans (congrArg (fun z:Nat=>some (AV.i z)) (List.length_map _)),rfl,trivial⟩ ⟨rfl,⟨0,rfl⟩,trivial⟩ rfl rfl rfl)) (fun x hI=>?_)
  obtain⟨k,out,b⟩:=x
  obtain⟨hk,rQ,hI⟩:=hI
  dsimp only at hk rQ hI ⊢
  by_cases nR:k<D.length
  ·obtain⟨c,vT⟩:∃c,D[k]?=some c:=⟨_,List.getElem?_eq_getElem nR⟩
   have ux:=yG c (qW c (List.mem_of_getElem? vT))
   have r3:=nz b (B9 s c+1)
   have hf:=sb c
   rw[G6 vT,DI]at hI
   dsimp only at hI
   generalize B3 l b (B9 s c+1)=u at *
   obtain⟨u1,u2⟩:=u
   dsimp only at r3 hI ⊢
   generalize B9 s c=fs at *
   repeat'((first|(refine A2 (x:=c) vT (by omega) ?_)|refine A1 hf ?_|refine⟨F6 [0] [0] r3 rfl rfl rfl rfl rfl ⟨rfl,trivial⟩ rfl rfl rfl rfl rfl ?_⟩|(refine G3 8 ?_;refine H4 (id:=8) ⟨[(0,.ref 0 0),(3,.iptr (sL s)),(5,.row 2 0 (out.length+1)),(6,.sl 1 (D.map iA)),(18,.sl 1 (D.map iA)),(19,.i D.length),(20,.i k)],3,[(0,some (.box [.sl 1 (l.map O2),.i u2])),(2,some (.row 58 2 0 ((out++[(⟨c,u1⟩:Pk)]).map B5)))]⟩ ?_ ?_) |refine S2 ?_|(refine T6 ?_ ?_<;>intro h<;>try exact V1 h)|intro el nN nP|intro el nN|exact T4|refine T5 ?_ ?_|intro ex)<;>try conv=>whnf)
   all_goals first
    |(exfalso;omega)
    |exact A8 h0 rfl ⟨rfl,rfl,rfl,rfl,rfl,rfl,rfl,trivial⟩ ⟨rfl,⟨_,congrArg (C9.row 58 2 _) (by rw[List.map_append];rfl)⟩,trivial⟩ rfl rfl rfl
    |exact⟨(k+1,out++[⟨c,u1⟩],u2),⟨by dsimp only;omega,by dsimp only;rw[List.length_append,List.length_singleton];omega,hI⟩,by dsimp only;omega,A8 h0 rfl ⟨rfl,rfl,congrArg (fun z:Nat=>some (AV.row 2 0 z)) (by rw[List.length_append];rfl),rfl,rfl,rfl,rfl,trivial⟩ ⟨rfl,⟨_,rfl⟩,trivial⟩ rfl rfl rfl⟩
  ·obtain rfl:k=D.length:=by omega
   rw[List.drop_length,DI]at hI
   rw[hI]
   repeat'((first|refine S2 ?_|(refine T6 ?_ ?_<;>intro h<;>try exact V1 h)|intro el nN nP|intro el nN|exact T4|refine T5 ?_ ?_|intro ex)<;>try conv=>whnf)
   all_goals first
    |(exfalso;omega)
    |exact G9 (A6 h0)
 ·have hq:¬(q1:Int)=2-1:=by assumption
  rw[if_neg hq]at hZ
  have qW:∀c∈C,c∈C:=fun c hc=>hc
  have hDl:C.length≤6:=by omega
  have hD:=hZ.symm
  refine B2 (ι:=Nat×List Pk×Nat) (fun x=>⟨[(0,.ref 0 0),(3,.iptr (sL s)),(5,.row 2 0 x.2.1.length),(6,.sl 1 (C.map iA)),(18,.sl 1 (C.map iA)),(19,.i C.length),(20,.i x.1)],3,[(0,some (.box [.sl 1 (l.map O2),.i x.2.2])),(2,some (.row 58 2 0 (x.2.1.map B5)))]⟩)
   (fun x=>x.1≤C.length∧x.2.1.length≤x.1∧Z=DI l s (C.drop x.1) x.2) (fun x=>C.length-x.1) (0,[],q2) ⟨Nat.zero_le _,Nat.zero_le _,hD⟩
   (C2 (K4 (d:=5) (e:=58) (sz:=2) rfl) (A8 h0 rfl ⟨rfl,rfl,rfl,rfl,rfl,rfl,rfl,trivial⟩ ⟨rfl,⟨0,rfl⟩,trivial⟩ rfl rfl rfl)) (fun x hI=>?_)
  obtain⟨k,out,b⟩:=x
  obtain⟨hk,rQ,hI⟩:=hI
  dsimp only at hk rQ hI ⊢
  by_cases nR:k<C.length
  ·obtain⟨c,vT⟩:∃c,C[k]?=some c:=⟨_,List.getElem?_eq_getElem nR⟩
   have ux:=yG c (qW c (List.mem_of_getElem? vT))
   have r3:=nz b (B9 s c+1)
   have hf:=sb c
   rw[G6 vT,DI]at hI
   dsimp only at hI
   generalize B3 l b (B9 s c+1)=u at *
   obtain⟨u1,u2⟩:=u
   dsimp only at r3 hI ⊢
   generalize B9 s c=fs at *
   repeat'((first|(refine A2 (x:=c) vT (by omega) ?_)|refine A1 hf ?_|refine⟨F6 [0] [0] r3 rfl rfl rfl rfl rfl ⟨rfl,trivial⟩ rfl rfl rfl rfl rfl ?_⟩|(refine G3 8 ?_;refine H4 (id:=8) ⟨[(0,.ref 0 0),(3,.iptr (sL s)),(5,.row 2 0 (out.length+1)),(6,.sl 1 (C.map iA)),(18,.sl 1 (C.map iA)),(19,.i C.length),(20,.i k)],3,[(0,some (.box [.sl 1 (l.map O2),.i u2])),(2,some (.row 58 2 0 ((out++[(⟨c,u1⟩:Pk)]).map B5)))]⟩ ?_ ?_) |refine S2 ?_|(refine T6 ?_ ?_<;>intro h<;>try exact V1 h)|intro el nN nP|intro el nN|exact T4|refine T5 ?_ ?_|intro ex)<;>try conv=>whnf)
   all_goals first
    |(exfalso;omega)
    |exact A8 h0 rfl ⟨rfl,rfl,rfl,rfl,rfl,rfl,rfl,trivial⟩ ⟨rfl,⟨_,congrArg (C9.row 58 2 _) (by rw[List.map_append];rfl)⟩,trivial⟩ rfl rfl rfl
    |exact⟨(k+1,out++[⟨c,u1⟩],u2),⟨by dsimp only;omega,by dsimp only;rw[List.length_append,List.length_singleton];omega,hI⟩,by dsimp only;omega,A8 h0 rfl ⟨rfl,rfl,congrArg (fun z:Nat=>some (AV.row 2 0 z)) (by rw[List.length_append];rfl),rfl,rfl,rfl,rfl,trivial⟩ ⟨rfl,⟨_,rfl⟩,trivial⟩ rfl rfl rfl⟩
  ·obtain rfl:k=C.length:=by omega
   rw[List.drop_length,DI]at hI
   rw[hI]
   repeat'((first|refine S2 ?_|(refine T6 ?_ ?_<;>intro h<;>try exact V1 h)|intro el nN nP|intro el nN|exact T4|refine T5 ?_ ?_|intro ex)<;>try conv=>whnf)
   all_goals first
    |(exfalso;omega)
    |exact G9 (A6 h0)
abbrev AR:AV:=.v (.slice none 0 0)
abbrev gI:AV:=.agg [.str [97,108,108,95,114,111,119,115],.str [115,114,99],.i 1,.i 0,.i 0,.i 0,.i 0,AR,.i 1,.i 1,.i 0,.sl 17 [[.str [113],.i 1,.i 1,.i 0,.i 0,.i 0,.i 0,AR,.sl 2 [[.i 1,.i 0]],.i (-1),AR,.i 0,.i 0,.i 0,.i 0,.i 0,AR]]]
def Di(s:A4):Nat→List Pk
 |0=>[]
 |k+1=>Di s k++[⟨(k:Int)+1,B9 s ((k:Int)+1)⟩]
theorem CH(s:A4):∀k,(Di s k).length=k
 |0=>rfl
 |k+1=>by rw[Di,List.length_append,CH s k];rfl
def K7(s:A4):List Pk:=Di s (s.cols.length-1)
theorem fB(s:A4)(hd:C4 s):A3 Tryz.prog 12 [sA s] (.tup [gI,.sl 2 ((K7 s).map B5)]):=by
 have qc:=hd.lens
 have hf:=fun c=>u6 s c
 unfold K7
 refine C0 Tryz.func12 33 fun nQ E h0=>?_
 clear nQ
 repeat'((first|refine S2 ?_|(refine T6 ?_ ?_<;>intro h<;>try exact V1 h)|intro el nN nP|intro el nN|exact T4|refine T5 ?_ ?_|intro ex)<;>try conv=>whnf)
 refine B2 (ι:=Nat) (fun k=>⟨[(1,.iptr (sL s)),(2,.ref 1 0),(4,.ref 2 0),(5,.row 3 0 (Di s k).length),(6,.i ((k:Int)+1))],4,[(1,some (.box [.str [],.str [],.i 0,.i 0,.i 0,.i 0,.i 0,AR,.i 0,.i 0,.i 0,AR])),(2,some (.box [.str [97,108,108,95,114,111,119,115],.str [115,114,99],.i 1,.i 0,.i 0,.i 0,.i 0,AR,.i 1,.i 1,.i 0,AR])),(3,some (.row 58 2 0 ((Di s k).map B5)))]⟩) (fun k=>k≤s.cols.length-1) (fun k=>s.cols.length-1-k) 0 (Nat.zero_le _)
  (C2 (K4 (d:=5) (e:=58) (sz:=2) rfl) (A8 h0 rfl ⟨rfl,rfl,rfl,rfl,rfl,trivial⟩ ⟨rfl,rfl,⟨0,rfl⟩,trivial⟩ rfl rfl rfl)) (fun k hk=>?_)
 have si:=CH s k
 have nz:Di s (k+1)=Di s k++[⟨(k:Int)+1,B9 s ((k:Int)+1)⟩]:=rfl
 have hen:k=s.cols.length-1→Di s (s.cols.length-1)=Di s k:=fun h=>by rw[h]
 have uY:=hf ((k:Int)+1)
 generalize Di s k=A at *
 generalize B9 s ((k:Int)+1)=fs at *
 repeat'((first|refine A1 uY ?_|(refine G3 7 ?_;refine H4 (id:=7) ⟨[(2,.ref 1 0),(4,.ref 2 0),(5,.row 3 0 A.length)],4,[(1,some (.box [.str [],.str [],.i 0,.i 0,.i 0,.i 0,.i 0,AR,.i 0,.i 0,.i 0,AR])),(2,some (.box [.str [97,108,108,95,114,111,119,115],.str [115,114,99],.i 1,.i 0,.i 0,.i 0,.i 0,AR,.i 1,.i 1,.i 0,.sl 17 [[.str [113],.i 1,.i 1,.i 0,.i 0,.i 0,.i 0,AR,.sl 2 [[.i 1,.i 0]],.i (-1),AR,.i 0,.i 0,.i 0,.i 0,.i 0,AR]]])),(3,some (.row 58 2 0 (A.map B5)))]⟩ ?_ ?_) |refine S2 ?_|(refine T6 ?_ ?_<;>intro h<;>try exact V1 h)|intro el nN nP|intro el nN|exact T4|refine T5 ?_ ?_|intro ex)<;>try conv=>whnf)
 all_goals first
  |(refine⟨k+1,by omega,by omega,?_⟩;rw[nz];exact A8 h0 rfl ⟨rfl,rfl,rfl,congrArg (fun z:Nat=>some (AV.row 3 0 z)) (by rw[List.length_append];rfl),congrArg (fun z:Int=>some (AV.i z)) (by omega),trivial⟩ ⟨rfl,rfl,⟨_,congrArg (C9.row 58 2 _) (by rw[List.map_append];rfl)⟩,trivial⟩ rfl rfl rfl)
  |(rw[hen (by omega)];exact q9 rfl rfl rfl (.refl _) rfl (.refl _) rfl)
  |exact A6 h0
def zC:B1:=.mk 0 0 0 0 0 []
structure PrD where
 l:List nL
 names:List (List UInt8)
 a:Nat
theorem lV{s:A4}(hr:C5 s=0){c:Int}{x:D4}(h0:1≤c)(hc:s.cols[c.toNat]?=some x)(hk:x.kind=3):B9 s c=x.widths.length:=by
 have nR:=D6 hc
 unfold B9 F0
 rw[if_pos hr,if_neg (by omega),B7 hc,N7,if_neg (by omega)]
theorem PN{s:A4}(hr:C5 s=0){c:Int}(h:P1 s c 3=true):1≤c:=by
 obtain⟨h0,h1,x,hx,hk⟩:=CW h
 by_cases hz:c=0
 ·obtain⟨_,_,_,_,h5⟩:=F2 hr
  subst hz
  have:s.cols.head?=some x:=by rw[←hx];cases s.cols<;>rfl
  rw[this]at h5
  simp only[Option.map_some,Option.some.injEq]at h5
  omega
 ·omega
theorem jH(ws:List Int)(w:Int):0≤Fe ws w∧Fe ws w≤ws.length:=by
 unfold Fe
 have:=KR (fun x=>decide (x=w)) ws 0
 split<;>omega
theorem bp{s:A4}{p:Pk}(h:I4 s p=0):0≤p.col∧p.col<s.cols.length:=by
 unfold I4 l8 F0 at h
 by_cases hc:p.col<1∨(s.cols.length:Int)≤p.col
 ·rw[if_pos hc]at h
  split at h
  ·rw[if_pos (show (-1:Int)<0 by omega)]at h
   omega
  ·exact absurd h (by assumption)
 ·omega
theorem lW:V6 zC:=⟨rfl,rfl,rfl,rfl,rfl,rfl⟩
structure XprOk(s:A4)(names:List (List UInt8))(e:G0)(d:Nat):Prop where
 rig:AP s e=true
 tot:R2 (Ym e)+1≤2 ^ (d+1)
 dep:R7 (Ym e)≤d+1
 nam:∀g:List UInt8→Bool,(∀nm∈names,g nm=true)→lL g e=true
 kin:∀bs:List Wx,(∀nm∈names,lS bs nm=(1,0))→(UJ bs e).2=0∧(PJ e.op→(UJ bs e).1=1)
theorem jI{s:A4}(hd:C4 s)(l:List UInt8)(a:Nat):P1 s ((R9 l a s 3).1:Nat) 3=true:=by
 obtain⟨_,h1,h2⟩:=BL (l:=l) (a:=a) hd.two.2
 unfold P1
 rw[decide_eq_true_iff]
 exact⟨by omega,by omega,h2⟩
theorem jJ{l:List Pk}{i:Nat}(h:0<T7 l i):∃q∈l,q.col=(i:Int)∧q.lev=T7 l i:=by
 induction l with
 |nil=>simp[iz]at h
 |cons p r ih =>
  have e:T7 (p::r) i=max (T7 [p] i) (T7 r i):=Wu [p] r i
  rw[e,Wv]at h ⊢
  by_cases hc:p.col=(i:Int)
  ·rw[if_pos hc]at h ⊢
   by_cases h2:T7 r i<p.lev
   ·exact⟨p,by simp,hc,by omega⟩
   ·obtain⟨q,h3,h4,h5⟩:=ih (by omega)
    exact⟨q,by simp[h3],h4,by omega⟩
  ·rw[if_neg hc]at h ⊢
   obtain⟨q,h3,h4,h5⟩:=ih (by omega)
   exact⟨q,by simp[h3],h4,by omega⟩
theorem C4.fin{s:A4}(hd:C4 s){c:Int}(h1:1≤c)(h2:c<s.cols.length):0≤B9 s c∧B9 s c≤4∧B9 s c=F0 s c:=by
 obtain⟨n,h3,h4,_⟩:=hd.chain (i:=c.toNat) (by omega) (List.getElem?_eq_getElem (show c.toNat<s.cols.length by omega))
 rw[show ((c.toNat:Nat):Int)=c by omega]at h3
 exact⟨by omega,by omega,by unfold B9;rw[if_pos hd.ok]⟩
theorem MU(s:A4)(c l:Int)(h:0≤l):H7 s c l≤l:=by
 unfold H7
 split
 ·omega
 ·have key:∀k:Nat,P7 s (B4 s c) k≤k:=by
   intro k
   induction k with
   |zero=>unfold P7;omega
   |succ k ih=>unfold P7;split<;>omega
  have:=key l.toNat
  omega
abbrev UW(s:A4)(q:Pk):Prop:=1≤q.col∧q.lev≤B9 s q.col
theorem XB{s:A4}(hd:C4 s){c:Int}(h:P1 s c 3=true):UW s (DF s c):=by
 have h1:=PN hd.ok h
 have h2:=hd.fin h1 (CW h).2.1
 exact⟨h1,MU s c _ (by omega)⟩
theorem jK{s:A4}(hd:C4 s){d:Pk}(h:I4 s d=0):UW s (CE s d):=by
 have hp:=bp h
 unfold I4 l8 at h
 rw[if_pos hd.ok]at h
 split at h
 ·cases h
 ·rename_i h1
  split at h
  ·cases h
  ·rename_i h2
   have hc:1≤d.col:=by
    unfold F0 at h1
    by_cases hc:d.col<1∨(s.cols.length:Int)≤d.col
    ·rw[if_pos hc]at h1;omega
    ·omega
   have hf:=(hd.fin hc hp.2).2.2
   have:=MU s d.col d.lev (by omega)
   exact⟨hc,by dsimp only[CE];omega⟩
theorem jL{s:A4}(hd:C4 s){e:G0}(hg:Dg s e):∀q∈Ff s e,UW s q:=by
 intro q hq
 unfold Ff at hq
 rcases List.mem_append.1 hq with hq|hq
 rcases List.mem_append.1 hq with hq|hq
 ·obtain⟨d,h1,rfl⟩:=List.mem_map.1 hq
  exact jK hd (hg.dim d h1)
 ·unfold Au at hq
  split at hq
  ·split at hq
   ·simp only[List.mem_singleton]at hq
    subst hq
    rcases hg.col (by simp only[Bo];omega)with h|h
    ·omega
    ·exact XB hd h
   ·cases hq
  ·split at hq
   ·simp only[List.mem_singleton]at hq
    subst hq
    rename_i h1 h2
    rcases hg.col (by simp only[Bo];omega)with h|h
    ·omega
    ·have hp:=PN hd.ok h
     obtain⟨q1,q2,x,hx,hk⟩:=CW h
     have hb:=jH (B4 s e.col).widths e.num
     have hf:=lV hd.ok hp hx hk
     rw[←B7 hx]at hf
     have:=MU s e.col (Fe (B4 s e.col).widths e.num) hb.1
     exact⟨hp,by dsimp only;omega⟩
   ·cases hq
 ·obtain⟨c,h1,rfl⟩:=List.mem_map.1 hq
  exact XB hd (hg.trm c h1)
theorem UX{s:A4}(hd:C4 s){c:B1}:∀q∈L5 s c,UW s q:=by
 intro q hq
 obtain⟨h1,h2,h3,h4,h5⟩:=eF hq
 obtain⟨hr,_,_,oe⟩:=BH h1
 have qB:=Fz c oe
 have hc:1≤q.col:=by
  refine Classical.byContradiction fun hn=>?_
  have hz:q.col.toNat=0:=by omega
  rw[hz]at h4
  have:=ar (s:=s) (i:=0) (B:=0) (Int.le_refl _) (Y5 c) fun a ha he=>by
   obtain⟨r1,r2⟩:=qB a ha
   obtain⟨x,_,c1,_⟩:=x8 hr r1 r2
   omega
  omega
 have hf:=hd.fin hc h3
 refine⟨hc,?_⟩
 rw[h4]
 refine ar hf.1 _ fun a ha he=>?_
 obtain⟨r1,r2⟩:=qB a ha
 have:=(JX hr r1 r2).1
 rw[he,show ((q.col.toNat:Nat):Int)=q.col by omega]at this
 omega
theorem jM{s:A4}(hd:C4 s)(e:G0):AP s e=true→∀q∈y8 s e,(1≤q.col∧q.col<s.cols.length)∧1≤q.lev∧q.lev≤B9 s q.col:=by
 refine Kg (p:=fun e=>AP s e=true→∀q∈y8 s e,(1≤q.col∧q.col<s.cols.length)∧1≤q.lev∧q.lev≤B9 s q.col) (fun e ih hg q hq=>?_) e
 have hg:=Qm hg
 have pK:=UL q hq
 rw[Kh]at hq
 obtain⟨h1,h2,h3,h4⟩:=Aq hq
 rw[h3]at h4
 obtain⟨p,hp,wh,qA⟩:=jJ h4
 have nd:UW s p:=by
  rcases List.mem_append.1 hp with hp|hp
  rcases List.mem_append.1 hp with hp|hp
  rcases List.mem_append.1 hp with hp|hp
  ·exact jL hd hg p hp
  ·exact UX hd p hp
  ·exact UX hd p hp
  ·obtain⟨k,hk,qT⟩:=List.mem_flatMap.1 hp
   have:=ih k hk (hg.kid k hk).2 p qT
   exact⟨this.1.1,this.2.2⟩
 have wz:p.col=q.col:=by omega
 rw[←h3]at qA h4
 have h5:=nd.1
 have h6:=nd.2
 rw[wz,qA]at h6
 exact⟨⟨by omega,pK.2⟩,by omega,h6⟩
theorem XC{s:A4}(hd:C4 s){q:Pk}(h1:1≤q.col)(h2:q.col<s.cols.length)(h3:0≤q.lev)(h4:q.lev≤B9 s q.col):l8 s q=0:=by
 have hf:=hd.fin h1 h2
 unfold l8
 rw[if_neg (by omega),if_neg (by omega)]
theorem fC{s:A4}(hd:C4 s){l:List Pk}(hl:∀q∈l,l8 s q=0)(hp:List.Pairwise (fun p q:Pk=>p.col<q.col) l):K9 s l=0:=by
 unfold K9
 rw[if_pos hd.ok]
 refine x9 fun i x hx=>?_
 unfold Cr
 rw[if_pos (hl x (List.mem_of_getElem? hx)),Nat.zero_add]
 refine if_neg fun hh=>?_
 have nR:=D6 hx
 have h1:l[i-1]?=some (l[i-1]'(by omega)):=List.getElem?_eq_getElem (by omega)
 have h2:=List.pairwise_iff_getElem.1 hp (i-1) i (by omega) nR (by omega)
 rw[D3 h1]at hh
 have h3:l[i]'nR=x:=by rw[List.getElem?_eq_getElem nR]at hx;exact Option.some.inj hx
 rw[h3]at h2
 omega
theorem CI(s:A4):∀{k i:Nat},i<k→(Di s k)[i]?=some ⟨(i:Int)+1,B9 s ((i:Int)+1)⟩
 |0,i,h=>by omega
 |k+1,i,h=>by
  have hl:=CH s k
  rw[Di]
  by_cases hi:i<k
  ·rw[List.getElem?_append_left (by omega)];exact CI s hi
  ·obtain rfl:i=k:=by omega
   rw[List.getElem?_append_right (by omega),hl];simp
theorem Qr{s:A4}(hd:C4 s):K9 s (K7 s)=0:=by
 have qc:=hd.lens
 have hl:=CH s (s.cols.length-1)
 refine fC hd (fun q hq=>?_) (List.pairwise_iff_getElem.2 fun i j hi hj sT=>?_)
 ·obtain⟨i,hi,he⟩:=List.getElem_of_mem hq
  have oS:i<s.cols.length-1:=by unfold K7 at hi;omega
  have h1:=CI s oS
  unfold K7 at he hi
  rw[List.getElem?_eq_getElem hi,he]at h1
  cases h1
  have:=hd.fin (c:=(i:Int)+1) (by omega) (by omega)
  exact XC hd (by dsimp only;omega) (by dsimp only;omega) (by dsimp only;omega) (Int.le_refl _)
 ·unfold K7 at hi hj ⊢
  have h1:=CI s (k:=s.cols.length-1) (i:=i) (by omega)
  have h2:=CI s (k:=s.cols.length-1) (i:=j) (by omega)
  rw[List.getElem?_eq_getElem hi]at h1
  rw[List.getElem?_eq_getElem hj]at h2
  rw[Option.some.inj h1,Option.some.inj h2]
  dsimp only;omega
theorem jN{s:A4}(hd:C4 s){e:G0}(hg:AP s e=true):AM (K7 s) (y8 s e)=true:=by
 refine Td fun q hq=>?_
 obtain⟨⟨h1,h2⟩,h3,h4⟩:=jM hd e hg q hq
 have hg:=CI s (k:=s.cols.length-1) (i:=(q.col-1).toNat) (by omega)
 rw[show (((q.col-1).toNat:Nat):Int)+1=q.col by omega]at hg
 exact⟨_,List.mem_of_getElem? hg,rfl,h4⟩
theorem BO(l:List Pk)(col lev:Int)(hl:l.length≤1000):A3 Tryz.prog 166 [.sl 2 (l.map B5),.i col,.i lev] (.sl 2 ((a6 l col lev).map B5)):=by
 refine C0 Tryz.func166 59 fun nQ E h0=>?_
 clear nQ
 unfold a6
 repeat'((first|refine S2 ?_|(refine T6 ?_ ?_<;>intro h<;>try exact V1 h)|intro el nN nP|intro el nN|exact T4|refine T5 ?_ ?_|intro ex)<;>try conv=>whnf)
 refine B2 (ι:=Nat×Bool×List Pk) (fun x=>⟨[(0,.sl 2 (l.map B5)),(1,.i col),(2,.i lev),(7,.row 0 0 x.2.2.length),(8,.b x.2.1),(9,.i x.1)],1,[(0,some (.row Nl 2 0 (x.2.2.map B5)))]⟩)
  (fun x=>x.1≤l.length∧x.2.2.length≤2*x.1∧M7 col lev l (decide (lev≤0)) []=M7 col lev (l.drop x.1) x.2.1 x.2.2) (fun x=>l.length-x.1) (0,decide (lev≤0),[]) ⟨Nat.zero_le _,Nat.zero_le _,rfl⟩
  (C2 (K4 (d:=7) (e:=Nl) (sz:=2) rfl) (A8 h0 rfl ⟨rfl,rfl,rfl,rfl,rfl,rfl,trivial⟩ ⟨⟨0,rfl⟩,trivial⟩ rfl rfl rfl)) (fun x hI=>?_)
 obtain⟨k,dn,out⟩:=x
 obtain⟨hk,ho,hI⟩:=hI
 dsimp only at hk ho hI ⊢
 repeat'((first|refine S2 ?_|(refine T6 ?_ ?_<;>intro h<;>try exact V1 h)|intro el nN nP|intro el nN|exact T4|refine T5 ?_ ?_|intro ex)<;>try conv=>whnf)
 all_goals first
  |exact⟨(k+1,true,out++[⟨col,lev⟩]++[el]),⟨by dsimp only;omega,by dsimp only;simp only[List.length_append,List.length_cons,List.length_nil];omega,by rw[hI,G6 nN,M7,if_pos ⟨by omega,by assumption⟩]⟩,by dsimp only;omega,A8 h0 rfl ⟨rfl,rfl,rfl,congrArg (fun z:Nat=>some (AV.row 0 0 z)) (by simp only[List.length_append];rfl),rfl,rfl,trivial⟩ ⟨⟨_,congrArg (C9.row Nl 2 _) (by simp only[List.map_append];rfl)⟩,trivial⟩ rfl rfl rfl⟩
  |exact⟨(k+1,dn,out++[el]),⟨by dsimp only;omega,by dsimp only;simp only[List.length_append,List.length_cons,List.length_nil];omega,by rw[hI,G6 nN,M7,if_neg (fun hh=>by first|(have h9:=hh.1;omega)|(have h9:=hh.2;simp_all;done)),if_neg (by omega)]⟩,by dsimp only;omega,A8 h0 rfl ⟨rfl,rfl,rfl,congrArg (fun z:Nat=>some (AV.row 0 0 z)) (by simp only[List.length_append];rfl),rfl,rfl,trivial⟩ ⟨⟨_,congrArg (C9.row Nl 2 _) (by simp only[List.map_append];rfl)⟩,trivial⟩ rfl rfl rfl⟩
  |exact⟨(k+1,true,out++[⟨el.col,max el.lev lev⟩]),⟨by dsimp only;omega,by dsimp only;simp only[List.length_append,List.length_cons,List.length_nil];omega,by rw[hI,G6 nN,M7,if_neg (fun hh=>by first|(have h9:=hh.1;omega)|(have h9:=hh.2;simp_all;done)),if_pos (by omega)]⟩,by dsimp only;omega,A8 h0 rfl ⟨rfl,rfl,rfl,congrArg (fun z:Nat=>some (AV.row 0 0 z)) (by simp only[List.length_append];rfl),rfl,rfl,trivial⟩ ⟨⟨_,congrArg (C9.row Nl 2 _) (by simp only[List.map_append];rfl)⟩,trivial⟩ rfl rfl rfl⟩
  |exact A0 rfl (congrArg (AV.sl 2) (by rw[hI,W4 (by assumption),M7,if_pos (by assumption)]))
  |exact A0 rfl (congrArg (AV.sl 2) (by rw[hI,W4 (by assumption),M7,if_neg (fun hh=>by simp_all)];rw[List.map_append];rfl))
end Go.Proofs.YtjkbhaaobhgkdabGreatDoor

/- Draws: dimensions, terms, and all columns. Draws: expressions and programs, in plain terms. -/
import Derived.Test.YtiphlhoclaogjaaGreatDoorSDr8
import Derived.Test.YtiphlhoclaogjaaGreatDoorSTa0
import Derived.Test.YtiphlhoclaogjaaGreatDoorSB10
import Derived.Test.YtiphlhoclaogjaaGreatDoorSF1
import Derived.Test.YtiphlhoclaogjaaGreatDoorSF3
import Derived.Test.YtiphlhoclaogjaaGreatDoorSB14
set_option linter.unusedVariables false
set_option linter.unnecessarySimpa false
set_option linter.unusedSimpArgs false
set_option maxHeartbeats 64000000
namespace Go.Proofs.YtiphlhoclaogjaaGreatDoor
open Go Go.Av
attribute [local irreducible] C7 B2 D3 C9 DQ D0 C8 St.le A3 B9
set_option maxRecDepth 100000
def FS(l:List UInt8)(s:A4):List Nat→List Pk×Nat→List Pk×Nat
 |[],x=>x
 |c::r,x=>FS l s r (x.1++[⟨c,(B8 l x.2 (B7 s c+1)).1⟩],(B8 l x.2 (B7 s c+1)).2)
def IL(l:List UInt8)(a:Nat)(s:A4):List Pk×Nat :=
 if ((B8 l a 2).1:Int)=2-1 then FS l s ((I3 s 2 s.cols.length).drop (B8 l (B8 l a 2).2 (I3 s 2 s.cols.length).length).1) ([],(B8 l (B8 l a 2).2 (I3 s 2 s.cols.length).length).2)
 else FS l s (I3 s 2 s.cols.length) ([],(B8 l a 2).2)
def IM(l:List UInt8)(m:Int):List Nat→List Int×Nat→List Int×Nat
 |[],x=>x
 |c::r,x=>if (c:Int)≠m then (if (x.1.length:Int)=0 then IM l m r (x.1++[(c:Int)],x.2)else if ((B8 l x.2 2).1:Int)=2-1 then IM l m r (x.1++[(c:Int)],(B8 l x.2 2).2)else IM l m r (x.1,(B8 l x.2 2).2))else IM l m r x
def Jv(l:List UInt8)(a:Nat)(s:A4)(m:Int):List Int×Nat:=IM l m (I3 s 3 s.cols.length) ([],a)
theorem dt{s:A4}(hd:E7 s){c:Nat}(h:c∈I3 s 2 s.cols.length):0≤B7 s c∧B7 s c≤4:=by
 obtain⟨h1,h2⟩:=Fv.1 h
 have hc:s.cols[c]?=some (s.cols[c]'h1):=List.getElem?_eq_getElem h1
 by_cases hz:c=0
 ·subst hz
  rw[show C0 s ((0:Nat):Int)=s.cols[0]'h1 from C1 (by simpa using hc)]at h2
  rcases hd.col hc with ⟨_,e⟩|⟨h,_⟩|⟨h,_⟩
  ·rw[e]at h2;cases h2
  ·omega
  ·omega
 ·obtain⟨n,h3,h4,_⟩:=hd.chain (i:=c) (by omega) hc
  omega
theorem OH(l:List UInt8)(a:Nat)(s:A4)(hd:E7 s)(hl:l.length≤400):B9 Tryz.prog 41 1 (R4 l a) [.ref 0 0,sA s] 1 (R4 l (IL l a s).2) (.sl 2 ((IL l a s).1.map B4)):=by
 have hc:=DE s 2 (by have:=hd.lens;omega)
 have mX:=FL s 2 s.cols.length
 have qu:=hd.lens
 have lz:=hd.two.1
 have wP:∀c∈I3 s 2 s.cols.length,0≤B7 s (c:Nat)∧B7 s (c:Nat)≤4:=fun c h=>dt hd h
 have r1:=p7 l a 2 hl (by omega)
 unfold IL
 have h2:=H1 l a (n:=2) (by omega)
 generalize B8 l a 2=q at *
 obtain⟨q1,q2⟩:=q
 dsimp only at r1 h2 ⊢
 generalize I3 s 2 s.cols.length=C at *
 have r2:=H7 l q2 C.length hl
 have h3:=H1 l q2 (n:=C.length) (by omega)
 generalize B8 l q2 C.length=r at *
 obtain⟨ra,rb⟩:=r
 dsimp only at r2 h3 ⊢
 have qp:=fun c:Nat=>T7 s c
 have mE:=fun b n=>H7 l b n hl
 generalize hZ:(if (q1:Int)=2-1 then FS l s (C.drop ra) ([],rb)else FS l s C ([],q2))=Z
 refine V9 Tryz.func41 42 fun E h0=>?_
 repeat'((first|refine A1 hc ?_|refine⟨G1 [0] [0] r1 rfl rfl rfl rfl rfl ⟨rfl,trivial⟩ rfl rfl rfl rfl rfl ?_⟩|refine⟨G1 [0] [0] r2 rfl rfl rfl rfl rfl ⟨rfl,trivial⟩ rfl rfl rfl rfl rfl ?_⟩ |refine S2 ?_|(refine T6 ?_ ?_<;>intro h<;>try exact V1 h)|intro el lU lV|intro el lU|exact T4|refine T5 ?_ ?_|intro ex)<;>try conv=>whnf)
 ·have hq:(q1:Int)=2-1:=by assumption
  rw[if_pos hq]at hZ
  have xo:List.drop (ra:Int).toNat (List.take ((C.map iA).length:Int).toNat (C.map iA))=(C.drop ra).map iA:=by rw[Int.toNat_natCast,Int.toNat_natCast,List.take_length,List.map_drop]
  have og:∀c∈C.drop ra,c∈C:=fun c hc=>List.mem_of_mem_drop hc
  have yR:(C.drop ra).length≤6:=by rw[List.length_drop];omega
  have hD:=hZ.symm
  generalize C.drop ra=D at *
  refine B0 (ι:=Nat×List Pk×Nat) (fun x=>⟨[(0,.ref 0 0),(3,.iptr (sL s)),(5,.row 2 0 x.2.1.length),(6,.sl 1 (D.map iA)),(18,.sl 1 (D.map iA)),(19,.i D.length),(20,.i x.1)],3,[(0,some (.box [.sl 1 (l.map N9),.i x.2.2])),(2,some (.row 81 2 0 (x.2.1.map B4)))]⟩)
   (fun x=>x.1≤D.length∧x.2.1.length≤x.1∧Z=FS l s (D.drop x.1) x.2) (fun x=>D.length-x.1) (0,[],rb) ⟨Nat.zero_le _,Nat.zero_le _,hD⟩
   (B5 (I9 (d:=5) (e:=81) (sz:=2) rfl) (A9 h0 rfl ⟨rfl,rfl,rfl,congrArg (fun z=>some (AV.sl 1 z)) xo,congrArg (fun z=>some (AV.sl 1 z)) xo,congrArg (fun z:List (List AV)=>some (AV.i z.length)) (xo.trans (by rfl:D.map iA=D.map iA)) |>.trans (congrArg (fun z:Nat=>some (AV.i z)) (List.length_map _)),rfl,trivial⟩ ⟨rfl,⟨0,rfl⟩,trivial⟩ rfl rfl rfl)) (fun x hI=>?_)
  obtain⟨k,out,b⟩:=x
  obtain⟨hk,pW,hI⟩:=hI
  dsimp only at hk pW hI ⊢
  by_cases lY:k<D.length
  ·obtain⟨c,sD⟩:∃c,D[k]?=some c:=⟨_,List.getElem?_eq_getElem lY⟩
   have tJ:=wP c (og c (List.mem_of_getElem? sD))
   have r3:=mE b (B7 s c+1)
   have hf:=qp c
   rw[G3 sD,FS]at hI
   dsimp only at hI
   generalize B8 l b (B7 s c+1)=u at *
   obtain⟨u1,u2⟩:=u
   dsimp only at r3 hI ⊢
   generalize B7 s c=fs at *
   repeat'((first|(refine A2 (x:=c) sD (by omega) ?_)|refine A1 hf ?_|refine⟨G1 [0] [0] r3 rfl rfl rfl rfl rfl ⟨rfl,trivial⟩ rfl rfl rfl rfl rfl ?_⟩|(refine F6 8 ?_;refine G9 (id:=8) ⟨[(0,.ref 0 0),(3,.iptr (sL s)),(5,.row 2 0 (out.length+1)),(6,.sl 1 (D.map iA)),(18,.sl 1 (D.map iA)),(19,.i D.length),(20,.i k)],3,[(0,some (.box [.sl 1 (l.map N9),.i u2])),(2,some (.row 81 2 0 ((out++[(⟨c,u1⟩:Pk)]).map B4)))]⟩ ?_ ?_) |refine S2 ?_|(refine T6 ?_ ?_<;>intro h<;>try exact V1 h)|intro el lU lV|intro el lU|exact T4|refine T5 ?_ ?_|intro ex)<;>try conv=>whnf)
   all_goals first
    |(exfalso;omega)
    |exact A9 h0 rfl ⟨rfl,rfl,rfl,rfl,rfl,rfl,rfl,trivial⟩ ⟨rfl,⟨_,congrArg (C6.row 81 2 _) (by rw[List.map_append];rfl)⟩,trivial⟩ rfl rfl rfl
    |exact⟨(k+1,out++[⟨c,u1⟩],u2),⟨by dsimp only;omega,by dsimp only;rw[List.length_append,List.length_singleton];omega,hI⟩,by dsimp only;omega,A9 h0 rfl ⟨rfl,rfl,congrArg (fun z:Nat=>some (AV.row 2 0 z)) (by rw[List.length_append];rfl),rfl,rfl,rfl,rfl,trivial⟩ ⟨rfl,⟨_,rfl⟩,trivial⟩ rfl rfl rfl⟩
  ·obtain rfl:k=D.length:=by omega
   rw[List.drop_length,FS]at hI
   rw[hI]
   repeat'((first|refine S2 ?_|(refine T6 ?_ ?_<;>intro h<;>try exact V1 h)|intro el lU lV|intro el lU|exact T4|refine T5 ?_ ?_|intro ex)<;>try conv=>whnf)
   all_goals first
    |(exfalso;omega)
    |exact H4 (A6 h0)
 ·have hq:¬(q1:Int)=2-1:=by assumption
  rw[if_neg hq]at hZ
  have og:∀c∈C,c∈C:=fun c hc=>hc
  have yR:C.length≤6:=by omega
  have hD:=hZ.symm
  refine B0 (ι:=Nat×List Pk×Nat) (fun x=>⟨[(0,.ref 0 0),(3,.iptr (sL s)),(5,.row 2 0 x.2.1.length),(6,.sl 1 (C.map iA)),(18,.sl 1 (C.map iA)),(19,.i C.length),(20,.i x.1)],3,[(0,some (.box [.sl 1 (l.map N9),.i x.2.2])),(2,some (.row 81 2 0 (x.2.1.map B4)))]⟩)
   (fun x=>x.1≤C.length∧x.2.1.length≤x.1∧Z=FS l s (C.drop x.1) x.2) (fun x=>C.length-x.1) (0,[],q2) ⟨Nat.zero_le _,Nat.zero_le _,hD⟩
   (B5 (I9 (d:=5) (e:=81) (sz:=2) rfl) (A9 h0 rfl ⟨rfl,rfl,rfl,rfl,rfl,rfl,rfl,trivial⟩ ⟨rfl,⟨0,rfl⟩,trivial⟩ rfl rfl rfl)) (fun x hI=>?_)
  obtain⟨k,out,b⟩:=x
  obtain⟨hk,pW,hI⟩:=hI
  dsimp only at hk pW hI ⊢
  by_cases lY:k<C.length
  ·obtain⟨c,sD⟩:∃c,C[k]?=some c:=⟨_,List.getElem?_eq_getElem lY⟩
   have tJ:=wP c (og c (List.mem_of_getElem? sD))
   have r3:=mE b (B7 s c+1)
   have hf:=qp c
   rw[G3 sD,FS]at hI
   dsimp only at hI
   generalize B8 l b (B7 s c+1)=u at *
   obtain⟨u1,u2⟩:=u
   dsimp only at r3 hI ⊢
   generalize B7 s c=fs at *
   repeat'((first|(refine A2 (x:=c) sD (by omega) ?_)|refine A1 hf ?_|refine⟨G1 [0] [0] r3 rfl rfl rfl rfl rfl ⟨rfl,trivial⟩ rfl rfl rfl rfl rfl ?_⟩|(refine F6 8 ?_;refine G9 (id:=8) ⟨[(0,.ref 0 0),(3,.iptr (sL s)),(5,.row 2 0 (out.length+1)),(6,.sl 1 (C.map iA)),(18,.sl 1 (C.map iA)),(19,.i C.length),(20,.i k)],3,[(0,some (.box [.sl 1 (l.map N9),.i u2])),(2,some (.row 81 2 0 ((out++[(⟨c,u1⟩:Pk)]).map B4)))]⟩ ?_ ?_) |refine S2 ?_|(refine T6 ?_ ?_<;>intro h<;>try exact V1 h)|intro el lU lV|intro el lU|exact T4|refine T5 ?_ ?_|intro ex)<;>try conv=>whnf)
   all_goals first
    |(exfalso;omega)
    |exact A9 h0 rfl ⟨rfl,rfl,rfl,rfl,rfl,rfl,rfl,trivial⟩ ⟨rfl,⟨_,congrArg (C6.row 81 2 _) (by rw[List.map_append];rfl)⟩,trivial⟩ rfl rfl rfl
    |exact⟨(k+1,out++[⟨c,u1⟩],u2),⟨by dsimp only;omega,by dsimp only;rw[List.length_append,List.length_singleton];omega,hI⟩,by dsimp only;omega,A9 h0 rfl ⟨rfl,rfl,congrArg (fun z:Nat=>some (AV.row 2 0 z)) (by rw[List.length_append];rfl),rfl,rfl,rfl,rfl,trivial⟩ ⟨rfl,⟨_,rfl⟩,trivial⟩ rfl rfl rfl⟩
  ·obtain rfl:k=C.length:=by omega
   rw[List.drop_length,FS]at hI
   rw[hI]
   repeat'((first|refine S2 ?_|(refine T6 ?_ ?_<;>intro h<;>try exact V1 h)|intro el lU lV|intro el lU|exact T4|refine T5 ?_ ?_|intro ex)<;>try conv=>whnf)
   all_goals first
    |(exfalso;omega)
    |exact H4 (A6 h0)
theorem VW(l:List UInt8)(a:Nat)(s:A4)(m:Int)(hd:E7 s)(hl:l.length≤400):B9 Tryz.prog 175 1 (R4 l a) [.ref 0 0,sA s,.i m] 1 (R4 l (Jv l a s m).2) (.sl 1 ((Jv l a s m).1.map wA)):=by
 have hc:=DE s 3 (by have:=hd.lens;omega)
 have mX:=FL s 3 s.cols.length
 have qu:=hd.lens
 have hon:=fun b=>p7 l b 2 hl (by omega)
 unfold Jv
 generalize I3 s 3 s.cols.length=D at *
 generalize hZ:IM l m D ([],a)=Z
 refine V9 Tryz.func175 41 fun E h0=>?_
 repeat'((first|refine A1 hc ?_ |refine S2 ?_|(refine T6 ?_ ?_<;>intro h<;>try exact V1 h)|intro el lU lV|intro el lU|exact T4|refine T5 ?_ ?_|intro ex)<;>try conv=>whnf)
 refine B0 (ι:=Nat×List Int×Nat) (fun x=>⟨[(0,.ref 0 0),(2,.i m),(7,.row 2 0 x.2.1.length),(8,.sl 1 (D.map iA)),(12,.sl 1 (D.map iA)),(13,.i D.length),(14,.i x.1)],3,[(0,some (.box [.sl 1 (l.map N9),.i x.2.2])),(2,some (.row 3 1 0 (x.2.1.map wA)))]⟩)
  (fun x=>x.1≤D.length∧x.2.1.length≤x.1∧Z=IM l m (D.drop x.1) x.2) (fun x=>D.length-x.1) (0,[],a) ⟨Nat.zero_le _,Nat.zero_le _,hZ.symm⟩
  (B5 (I9 (d:=7) (e:=3) (sz:=1) rfl) (A9 h0 rfl ⟨rfl,rfl,rfl,rfl,rfl,rfl,rfl,trivial⟩ ⟨rfl,⟨0,rfl⟩,trivial⟩ rfl rfl rfl)) (fun x hI=>?_)
 obtain⟨k,out,b⟩:=x
 obtain⟨hk,pW,hI⟩:=hI
 dsimp only at hk pW hI ⊢
 by_cases lY:k<D.length
 ·obtain⟨c,sD⟩:∃c,D[k]?=some c:=⟨_,List.getElem?_eq_getElem lY⟩
  have r3:=hon b
  rw[G3 sD,IM]at hI
  dsimp only at hI
  generalize B8 l b 2=u at *
  obtain⟨u1,u2⟩:=u
  dsimp only at r3 hI ⊢
  repeat'((first|(refine A2 (x:=c) sD (by omega) ?_)|refine⟨G1 [0] [0] r3 rfl rfl rfl rfl rfl ⟨rfl,trivial⟩ rfl rfl rfl rfl rfl ?_⟩ |refine S2 ?_|(refine T6 ?_ ?_<;>intro h<;>try exact V1 h)|intro el lU lV|intro el lU|exact T4|refine T5 ?_ ?_|intro ex)<;>try conv=>whnf)
  all_goals first
   |(exfalso;omega)
   |(rw[if_pos (by assumption),if_pos (by assumption)]at hI
     exact⟨(k+1,out++[(c:Int)],b),⟨by dsimp only;omega,by dsimp only;rw[List.length_append,List.length_singleton];omega,hI⟩,by dsimp only;omega,A9 h0 rfl ⟨rfl,rfl,congrArg (fun z:Nat=>some (AV.row 2 0 z)) (by rw[List.length_append];rfl),rfl,rfl,rfl,rfl,trivial⟩ ⟨rfl,⟨_,congrArg (C6.row 3 1 _) (by rw[List.map_append];rfl)⟩,trivial⟩ rfl rfl rfl⟩)
   |(rw[if_pos (by assumption),if_neg (by assumption),if_pos (by assumption)]at hI
     exact⟨(k+1,out++[(c:Int)],u2),⟨by dsimp only;omega,by dsimp only;rw[List.length_append,List.length_singleton];omega,hI⟩,by dsimp only;omega,A9 h0 rfl ⟨rfl,rfl,congrArg (fun z:Nat=>some (AV.row 2 0 z)) (by rw[List.length_append];rfl),rfl,rfl,rfl,rfl,trivial⟩ ⟨rfl,⟨_,congrArg (C6.row 3 1 _) (by rw[List.map_append];rfl)⟩,trivial⟩ rfl rfl rfl⟩)
   |(rw[if_pos (by assumption),if_neg (by assumption),if_neg (by assumption)]at hI
     exact⟨(k+1,out,u2),⟨by dsimp only;omega,by dsimp only;omega,hI⟩,by dsimp only;omega,A6 h0⟩)
   |(rw[if_neg (by assumption)]at hI
     exact⟨(k+1,out,b),⟨by dsimp only;omega,by dsimp only;omega,hI⟩,by dsimp only;omega,A6 h0⟩)
 ·obtain rfl:k=D.length:=by omega
  rw[List.drop_length,IM]at hI
  rw[hI]
  repeat'((first|refine S2 ?_|(refine T6 ?_ ?_<;>intro h<;>try exact V1 h)|intro el lU lV|intro el lU|exact T4|refine T5 ?_ ?_|intro ex)<;>try conv=>whnf)
  all_goals first
   |(exfalso;omega)
   |exact H4 (A6 h0)
abbrev Bn:AV:=.v (.slice none 0 0)
abbrev kY:AV:=.agg [.str [97,108,108,95,114,111,119,115],.str [115,114,99],.i 1,.i 0,.i 0,.i 0,.i 0,Bn,.i 1,.i 1,.i 0,.sl 17 [[.str [113],.i 1,.i 1,.i 0,.i 0,.i 0,.i 0,Bn,.sl 2 [[.i 1,.i 0]],.i (-1),Bn,.i 0,.i 0,.i 0,.i 0,.i 0,Bn]]]
def FT(s:A4):Nat→List Pk
 |0=>[]
 |k+1=>FT s k++[⟨(k:Int)+1,B7 s ((k:Int)+1)⟩]
theorem MK(s:A4):∀k,(FT s k).length=k
 |0=>rfl
 |k+1=>by rw[FT,List.length_append,MK s k];rfl
def FU(s:A4):List Pk:=FT s (s.cols.length-1)
theorem du(s:A4)(hd:E7 s):A3 Tryz.prog 37 [sA s] (.tup [kY,.sl 2 ((FU s).map B4)]):=by
 have qu:=hd.lens
 have hf:=fun c=>T7 s c
 unfold FU
 refine B6 Tryz.func37 33 fun lW E h0=>?_
 clear lW
 repeat'((first|refine S2 ?_|(refine T6 ?_ ?_<;>intro h<;>try exact V1 h)|intro el lU lV|intro el lU|exact T4|refine T5 ?_ ?_|intro ex)<;>try conv=>whnf)
 refine B0 (ι:=Nat) (fun k=>⟨[(1,.iptr (sL s)),(2,.ref 1 0),(4,.ref 2 0),(5,.row 3 0 (FT s k).length),(6,.i ((k:Int)+1))],4,[(1,some (.box [.str [],.str [],.i 0,.i 0,.i 0,.i 0,.i 0,Bn,.i 0,.i 0,.i 0,Bn])),(2,some (.box [.str [97,108,108,95,114,111,119,115],.str [115,114,99],.i 1,.i 0,.i 0,.i 0,.i 0,Bn,.i 1,.i 1,.i 0,Bn])),(3,some (.row 81 2 0 ((FT s k).map B4)))]⟩) (fun k=>k≤s.cols.length-1) (fun k=>s.cols.length-1-k) 0 (Nat.zero_le _)
  (B5 (I9 (d:=5) (e:=81) (sz:=2) rfl) (A9 h0 rfl ⟨rfl,rfl,rfl,rfl,rfl,trivial⟩ ⟨rfl,rfl,⟨0,rfl⟩,trivial⟩ rfl rfl rfl)) (fun k hk=>?_)
 have rj:=MK s k
 have mE:FT s (k+1)=FT s k++[⟨(k:Int)+1,B7 s ((k:Int)+1)⟩]:=rfl
 have zu:k=s.cols.length-1→FT s (s.cols.length-1)=FT s k:=fun h=>by rw[h]
 have ru:=hf ((k:Int)+1)
 generalize FT s k=A at *
 generalize B7 s ((k:Int)+1)=fs at *
 repeat'((first|refine A1 ru ?_|(refine F6 7 ?_;refine G9 (id:=7) ⟨[(2,.ref 1 0),(4,.ref 2 0),(5,.row 3 0 A.length)],4,[(1,some (.box [.str [],.str [],.i 0,.i 0,.i 0,.i 0,.i 0,Bn,.i 0,.i 0,.i 0,Bn])),(2,some (.box [.str [97,108,108,95,114,111,119,115],.str [115,114,99],.i 1,.i 0,.i 0,.i 0,.i 0,Bn,.i 1,.i 1,.i 0,.sl 17 [[.str [113],.i 1,.i 1,.i 0,.i 0,.i 0,.i 0,Bn,.sl 2 [[.i 1,.i 0]],.i (-1),Bn,.i 0,.i 0,.i 0,.i 0,.i 0,Bn]]])),(3,some (.row 81 2 0 (A.map B4)))]⟩ ?_ ?_) |refine S2 ?_|(refine T6 ?_ ?_<;>intro h<;>try exact V1 h)|intro el lU lV|intro el lU|exact T4|refine T5 ?_ ?_|intro ex)<;>try conv=>whnf)
 all_goals first
  |(refine⟨k+1,by omega,by omega,?_⟩;rw[mE];exact A9 h0 rfl ⟨rfl,rfl,rfl,congrArg (fun z:Nat=>some (AV.row 3 0 z)) (by rw[List.length_append];rfl),congrArg (fun z:Int=>some (AV.i z)) (by omega),trivial⟩ ⟨rfl,rfl,⟨_,congrArg (C6.row 81 2 _) (by rw[List.map_append];rfl)⟩,trivial⟩ rfl rfl rfl)
  |(rw[zu (by omega)];exact u3 rfl rfl rfl (.refl _) rfl (.refl _) rfl)
  |exact A6 h0
abbrev W2:AV:=.v (.slice none 0 0)
def zC:B1:=.mk 0 0 0 0 0 []
structure PrD where
 l:List lT
 names:List (List UInt8)
 a:Nat
structure XprOk(s:A4)(names:List (List UInt8))(e:G8)(d:Nat):Prop where
 rig:CQ s e=true
 tot:Z0 (YI e)+1≤2 ^ (d+1)
 dep:Y9 (YI e)≤d+1
 nam:∀g:List UInt8→Bool,(∀nm∈names,g nm=true)→jh g e=true
 kin:∀bs:List WX,(∀nm∈names,jo bs nm=(1,0))→(Tw bs e).2=0∧(PD e.op→(Tw bs e).1=1)
theorem E7.fin{s:A4}(hd:E7 s){c:Int}(h1:1≤c)(h2:c<s.cols.length):0≤B7 s c∧B7 s c≤4∧B7 s c=E5 s c:=by
 obtain⟨n,h3,h4,_⟩:=hd.chain (i:=c.toNat) (by omega) (List.getElem?_eq_getElem (show c.toNat<s.cols.length by omega))
 rw[show ((c.toNat:Nat):Int)=c by omega]at h3
 exact⟨by omega,by omega,by unfold B7;rw[if_pos hd.ok]⟩
end Go.Proofs.YtiphlhoclaogjaaGreatDoor

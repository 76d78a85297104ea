/- Draws: dimensions, terms, and all columns. Draws: expressions and programs, in plain terms. -/
import Derived.Test.YtkcekccdcpmekaaGreatDoorQC3
import Derived.Test.YtkcekccdcpmekaaGreatDoorQB10
import Derived.Test.YtkcekccdcpmekaaGreatDoorQCm1
import Derived.Test.YtkcekccdcpmekaaGreatDoorQE3
import Derived.Test.YtkcekccdcpmekaaGreatDoorQC1
import Derived.Test.YtkcekccdcpmekaaGreatDoorQRg0
import Derived.Test.YtkcekccdcpmekaaGreatDoorQB8
import Derived.Test.YtkcekccdcpmekaaGreatDoorQD2
set_option linter.unusedVariables false
set_option linter.unnecessarySimpa false
set_option linter.unusedSimpArgs false
set_option maxHeartbeats 64000000
namespace Go.Proofs.YtkcekccdcpmekaaGreatDoor
open Go Go.Av
attribute [local irreducible] E8 B5 E5 E1 DQ E7 E9 St.le A4 A9
set_option maxRecDepth 100000
def DV(l:List UInt8)(s:A5):List Nat→List Pk×Nat→List Pk×Nat
 |[],x=>x
 |c::r,x=>DV l s r (x.1++[⟨c,(B8 l x.2 (J2 s c+1)).1⟩],(B8 l x.2 (J2 s c+1)).2)
def CD(l:List UInt8)(a:Nat)(s:A5):List Pk×Nat :=
 if ((B8 l a 2).1:Int)=2-1 then DV l s ((H9 s 2 s.cols.length).drop (B8 l (B8 l a 2).2 (H9 s 2 s.cols.length).length).1) ([],(B8 l (B8 l a 2).2 (H9 s 2 s.cols.length).length).2)
 else DV l s (H9 s 2 s.cols.length) ([],(B8 l a 2).2)
def Am(l:List UInt8)(m:Int):List Nat→List Int×Nat→List Int×Nat
 |[],x=>x
 |c::r,x=>if (c:Int)≠m then (if (x.1.length:Int)=0 then Am l m r (x.1++[(c:Int)],x.2)else if ((B8 l x.2 2).1:Int)=2-1 then Am l m r (x.1++[(c:Int)],(B8 l x.2 2).2)else Am l m r (x.1,(B8 l x.2 2).2))else Am l m r x
def Ec(l:List UInt8)(a:Nat)(s:A5)(m:Int):List Int×Nat:=Am l m (H9 s 3 s.cols.length) ([],a)
theorem Rv{s:A5}(hd:F7 s){c:Nat}(h:c∈H9 s 2 s.cols.length):0≤J2 s c∧J2 s c≤4:=by
 obtain⟨h1,h2⟩:=AC.1 h
 have hc:s.cols[c]?=some (s.cols[c]'h1):=List.getElem?_eq_getElem h1
 by_cases hz:c=0
 ·subst hz
  rw[show C7 s ((0:Nat):Int)=s.cols[0]'h1 from D4 (by simpa using hc)]at h2
  rcases hd.col hc with ⟨_,e⟩|⟨h,_⟩|⟨h,_⟩
  ·rw[e]at h2;cases h2
  ·omega
  ·omega
 ·obtain⟨n,h3,h4,_⟩:=hd.chain (i:=c) (by omega) hc
  omega
theorem Mr(l:List UInt8)(a:Nat)(s:A5)(hd:F7 s)(hl:l.length≤400):A9 Tryz.prog 27 1 (E6 l a) [.ref 0 0,sA s] 1 (E6 l (CD l a s).2) (.sl 2 ((CD l a s).1.map N7)):=by
 have hc:=DN s 2 (by have:=hd.lens;omega)
 have nA:=Fg s 2 s.cols.length
 have qZ:=hd.lens
 have kq:=hd.two.1
 have sH:∀c∈H9 s 2 s.cols.length,0≤J2 s (c:Nat)∧J2 s (c:Nat)≤4:=fun c h=>Rv hd h
 have r1:=Bj l a 2 hl (by omega)
 unfold CD
 have h2:=I7 l a (n:=2) (by omega)
 generalize B8 l a 2=q at *
 obtain⟨q1,q2⟩:=q
 dsimp only at r1 h2 ⊢
 generalize H9 s 2 s.cols.length=C at *
 have r2:=K8 l q2 C.length hl
 have h3:=I7 l q2 (n:=C.length) (by omega)
 generalize B8 l q2 C.length=r at *
 obtain⟨ra,rb⟩:=r
 dsimp only at r2 h3 ⊢
 have wB:=fun c:Nat=>Jb s c
 have ld:=fun b n=>K8 l b n hl
 generalize hZ:(if (q1:Int)=2-1 then DV l s (C.drop ra) ([],rb)else DV l s C ([],q2))=Z
 refine G4 Tryz.func27 42 fun E h0=>?_
 repeat'((first|refine A0 hc ?_|refine⟨C4 [0] [0] r1 rfl rfl rfl rfl rfl ⟨rfl,trivial⟩ rfl rfl rfl rfl rfl ?_⟩|refine⟨C4 [0] [0] r2 rfl rfl rfl rfl rfl ⟨rfl,trivial⟩ rfl rfl rfl rfl rfl ?_⟩ |refine S2 ?_|(refine T6 ?_ ?_<;>intro h<;>try exact V1 h)|intro el ke kg|intro el ke|exact T4|refine T5 ?_ ?_|intro ex)<;>try conv=>whnf)
 ·have hq:(q1:Int)=2-1:=by assumption
  rw[if_pos hq]at hZ
  have vS:List.drop (ra:Int).toNat (List.take ((C.map iA).length:Int).toNat (C.map iA))=(C.drop ra).map iA:=by rw[Int.toNat_natCast,Int.toNat_natCast,List.take_length,List.map_drop]
  have oO:∀c∈C.drop ra,c∈C:=fun c hc=>List.mem_of_mem_drop hc
  have wx:(C.drop ra).length≤6:=by rw[List.length_drop];omega
  have hD:=hZ.symm
  generalize C.drop ra=D at *
  refine D5 (ι:=Nat×List Pk×Nat) (fun x=>⟨[(0,.ref 0 0),(3,.iptr (sL s)),(5,.row 2 0 x.2.1.length),(6,.sl 1 (D.map iA)),(18,.sl 1 (D.map iA)),(19,.i D.length),(20,.i x.1)],3,[(0,some (.box [.sl 1 (l.map X9),.i x.2.2])),(2,some (.row 41 2 0 (x.2.1.map N7)))]⟩)
   (fun x=>x.1≤D.length∧x.2.1.length≤x.1∧Z=DV l s (D.drop x.1) x.2) (fun x=>D.length-x.1) (0,[],rb) ⟨Nat.zero_le _,Nat.zero_le _,hD⟩
   (B4 (Dq (d:=5) (e:=41) (sz:=2) rfl) (B0 h0 rfl ⟨rfl,rfl,rfl,congrArg (fun z=>some (AV.sl 1 z)) vS,congrArg (fun z=>some (AV.sl 1 z)) vS,congrArg (fun z:List (List AV)=>some (AV.i z.length)) (vS.trans (by rfl:D.map iA=D.map iA)) |>.trans (congrArg (fun z:Nat=>some (AV.i z)) (List.length_map _)),rfl,trivial⟩ ⟨rfl,⟨0,rfl⟩,trivial⟩ rfl rfl rfl)) (fun x hI=>?_)
  obtain⟨k,out,b⟩:=x
  obtain⟨hk,sv,hI⟩:=hI
  dsimp only at hk sv hI ⊢
  by_cases kj:k<D.length
  ·obtain⟨c,pz⟩:∃c,D[k]?=some c:=⟨_,List.getElem?_eq_getElem kj⟩
   have yG:=sH c (oO c (List.mem_of_getElem? pz))
   have r3:=ld b (J2 s c+1)
   have hf:=wB c
   rw[O6 pz,DV]at hI
   dsimp only at hI
   generalize B8 l b (J2 s c+1)=u at *
   obtain⟨u1,u2⟩:=u
   dsimp only at r3 hI ⊢
   generalize J2 s c=fs at *
   repeat'((first|(refine A2 (x:=c) pz (by omega) ?_)|refine A0 hf ?_|refine⟨C4 [0] [0] r3 rfl rfl rfl rfl rfl ⟨rfl,trivial⟩ rfl rfl rfl rfl rfl ?_⟩|(refine B6 8 ?_;refine C5 (id:=8) ⟨[(0,.ref 0 0),(3,.iptr (sL s)),(5,.row 2 0 (out.length+1)),(6,.sl 1 (D.map iA)),(18,.sl 1 (D.map iA)),(19,.i D.length),(20,.i k)],3,[(0,some (.box [.sl 1 (l.map X9),.i u2])),(2,some (.row 41 2 0 ((out++[(⟨c,u1⟩:Pk)]).map N7)))]⟩ ?_ ?_) |refine S2 ?_|(refine T6 ?_ ?_<;>intro h<;>try exact V1 h)|intro el ke kg|intro el ke|exact T4|refine T5 ?_ ?_|intro ex)<;>try conv=>whnf)
   all_goals first
    |(exfalso;omega)
    |exact B0 h0 rfl ⟨rfl,rfl,rfl,rfl,rfl,rfl,rfl,trivial⟩ ⟨rfl,⟨_,congrArg (G1.row 41 2 _) (by rw[List.map_append];rfl)⟩,trivial⟩ rfl rfl rfl
    |exact⟨(k+1,out++[⟨c,u1⟩],u2),⟨by dsimp only;omega,by dsimp only;rw[List.length_append,List.length_singleton];omega,hI⟩,by dsimp only;omega,B0 h0 rfl ⟨rfl,rfl,congrArg (fun z:Nat=>some (AV.row 2 0 z)) (by rw[List.length_append];rfl),rfl,rfl,rfl,rfl,trivial⟩ ⟨rfl,⟨_,rfl⟩,trivial⟩ rfl rfl rfl⟩
  ·obtain rfl:k=D.length:=by omega
   rw[List.drop_length,DV]at hI
   rw[hI]
   repeat'((first|refine S2 ?_|(refine T6 ?_ ?_<;>intro h<;>try exact V1 h)|intro el ke kg|intro el ke|exact T4|refine T5 ?_ ?_|intro ex)<;>try conv=>whnf)
   all_goals first
    |(exfalso;omega)
    |exact D9 (B2 h0)
 ·have hq:¬(q1:Int)=2-1:=by assumption
  rw[if_neg hq]at hZ
  have oO:∀c∈C,c∈C:=fun c hc=>hc
  have wx:C.length≤6:=by omega
  have hD:=hZ.symm
  refine D5 (ι:=Nat×List Pk×Nat) (fun x=>⟨[(0,.ref 0 0),(3,.iptr (sL s)),(5,.row 2 0 x.2.1.length),(6,.sl 1 (C.map iA)),(18,.sl 1 (C.map iA)),(19,.i C.length),(20,.i x.1)],3,[(0,some (.box [.sl 1 (l.map X9),.i x.2.2])),(2,some (.row 41 2 0 (x.2.1.map N7)))]⟩)
   (fun x=>x.1≤C.length∧x.2.1.length≤x.1∧Z=DV l s (C.drop x.1) x.2) (fun x=>C.length-x.1) (0,[],q2) ⟨Nat.zero_le _,Nat.zero_le _,hD⟩
   (B4 (Dq (d:=5) (e:=41) (sz:=2) rfl) (B0 h0 rfl ⟨rfl,rfl,rfl,rfl,rfl,rfl,rfl,trivial⟩ ⟨rfl,⟨0,rfl⟩,trivial⟩ rfl rfl rfl)) (fun x hI=>?_)
  obtain⟨k,out,b⟩:=x
  obtain⟨hk,sv,hI⟩:=hI
  dsimp only at hk sv hI ⊢
  by_cases kj:k<C.length
  ·obtain⟨c,pz⟩:∃c,C[k]?=some c:=⟨_,List.getElem?_eq_getElem kj⟩
   have yG:=sH c (oO c (List.mem_of_getElem? pz))
   have r3:=ld b (J2 s c+1)
   have hf:=wB c
   rw[O6 pz,DV]at hI
   dsimp only at hI
   generalize B8 l b (J2 s c+1)=u at *
   obtain⟨u1,u2⟩:=u
   dsimp only at r3 hI ⊢
   generalize J2 s c=fs at *
   repeat'((first|(refine A2 (x:=c) pz (by omega) ?_)|refine A0 hf ?_|refine⟨C4 [0] [0] r3 rfl rfl rfl rfl rfl ⟨rfl,trivial⟩ rfl rfl rfl rfl rfl ?_⟩|(refine B6 8 ?_;refine C5 (id:=8) ⟨[(0,.ref 0 0),(3,.iptr (sL s)),(5,.row 2 0 (out.length+1)),(6,.sl 1 (C.map iA)),(18,.sl 1 (C.map iA)),(19,.i C.length),(20,.i k)],3,[(0,some (.box [.sl 1 (l.map X9),.i u2])),(2,some (.row 41 2 0 ((out++[(⟨c,u1⟩:Pk)]).map N7)))]⟩ ?_ ?_) |refine S2 ?_|(refine T6 ?_ ?_<;>intro h<;>try exact V1 h)|intro el ke kg|intro el ke|exact T4|refine T5 ?_ ?_|intro ex)<;>try conv=>whnf)
   all_goals first
    |(exfalso;omega)
    |exact B0 h0 rfl ⟨rfl,rfl,rfl,rfl,rfl,rfl,rfl,trivial⟩ ⟨rfl,⟨_,congrArg (G1.row 41 2 _) (by rw[List.map_append];rfl)⟩,trivial⟩ rfl rfl rfl
    |exact⟨(k+1,out++[⟨c,u1⟩],u2),⟨by dsimp only;omega,by dsimp only;rw[List.length_append,List.length_singleton];omega,hI⟩,by dsimp only;omega,B0 h0 rfl ⟨rfl,rfl,congrArg (fun z:Nat=>some (AV.row 2 0 z)) (by rw[List.length_append];rfl),rfl,rfl,rfl,rfl,trivial⟩ ⟨rfl,⟨_,rfl⟩,trivial⟩ rfl rfl rfl⟩
  ·obtain rfl:k=C.length:=by omega
   rw[List.drop_length,DV]at hI
   rw[hI]
   repeat'((first|refine S2 ?_|(refine T6 ?_ ?_<;>intro h<;>try exact V1 h)|intro el ke kg|intro el ke|exact T4|refine T5 ?_ ?_|intro ex)<;>try conv=>whnf)
   all_goals first
    |(exfalso;omega)
    |exact D9 (B2 h0)
theorem TN(l:List UInt8)(a:Nat)(s:A5)(m:Int)(hd:F7 s)(hl:l.length≤400):A9 Tryz.prog 26 1 (E6 l a) [.ref 0 0,sA s,.i m] 1 (E6 l (Ec l a s m).2) (.sl 1 ((Ec l a s m).1.map wA)):=by
 have hc:=DN s 3 (by have:=hd.lens;omega)
 have nA:=Fg s 3 s.cols.length
 have qZ:=hd.lens
 have xS:=fun b=>Bj l b 2 hl (by omega)
 unfold Ec
 generalize H9 s 3 s.cols.length=D at *
 generalize hZ:Am l m D ([],a)=Z
 refine G4 Tryz.func26 41 fun E h0=>?_
 repeat'((first|refine A0 hc ?_ |refine S2 ?_|(refine T6 ?_ ?_<;>intro h<;>try exact V1 h)|intro el ke kg|intro el ke|exact T4|refine T5 ?_ ?_|intro ex)<;>try conv=>whnf)
 refine D5 (ι:=Nat×List Int×Nat) (fun x=>⟨[(0,.ref 0 0),(2,.i m),(7,.row 2 0 x.2.1.length),(8,.sl 1 (D.map iA)),(12,.sl 1 (D.map iA)),(13,.i D.length),(14,.i x.1)],3,[(0,some (.box [.sl 1 (l.map X9),.i x.2.2])),(2,some (.row 3 1 0 (x.2.1.map wA)))]⟩)
  (fun x=>x.1≤D.length∧x.2.1.length≤x.1∧Z=Am l m (D.drop x.1) x.2) (fun x=>D.length-x.1) (0,[],a) ⟨Nat.zero_le _,Nat.zero_le _,hZ.symm⟩
  (B4 (Dq (d:=7) (e:=3) (sz:=1) rfl) (B0 h0 rfl ⟨rfl,rfl,rfl,rfl,rfl,rfl,rfl,trivial⟩ ⟨rfl,⟨0,rfl⟩,trivial⟩ rfl rfl rfl)) (fun x hI=>?_)
 obtain⟨k,out,b⟩:=x
 obtain⟨hk,sv,hI⟩:=hI
 dsimp only at hk sv hI ⊢
 by_cases kj:k<D.length
 ·obtain⟨c,pz⟩:∃c,D[k]?=some c:=⟨_,List.getElem?_eq_getElem kj⟩
  have r3:=xS b
  rw[O6 pz,Am]at hI
  dsimp only at hI
  generalize B8 l b 2=u at *
  obtain⟨u1,u2⟩:=u
  dsimp only at r3 hI ⊢
  repeat'((first|(refine A2 (x:=c) pz (by omega) ?_)|refine⟨C4 [0] [0] r3 rfl rfl rfl rfl rfl ⟨rfl,trivial⟩ rfl rfl rfl rfl rfl ?_⟩ |refine S2 ?_|(refine T6 ?_ ?_<;>intro h<;>try exact V1 h)|intro el ke kg|intro el ke|exact T4|refine T5 ?_ ?_|intro ex)<;>try conv=>whnf)
  all_goals first
   |(exfalso;omega)
   |(rw[if_pos (by assumption),if_pos (by assumption)]at hI
     exact⟨(k+1,out++[(c:Int)],b),⟨by dsimp only;omega,by dsimp only;rw[List.length_append,List.length_singleton];omega,hI⟩,by dsimp only;omega,B0 h0 rfl ⟨rfl,rfl,congrArg (fun z:Nat=>some (AV.row 2 0 z)) (by rw[List.length_append];rfl),rfl,rfl,rfl,rfl,trivial⟩ ⟨rfl,⟨_,congrArg (G1.row 3 1 _) (by rw[List.map_append];rfl)⟩,trivial⟩ rfl rfl rfl⟩)
   |(rw[if_pos (by assumption),if_neg (by assumption),if_pos (by assumption)]at hI
     exact⟨(k+1,out++[(c:Int)],u2),⟨by dsimp only;omega,by dsimp only;rw[List.length_append,List.length_singleton];omega,hI⟩,by dsimp only;omega,B0 h0 rfl ⟨rfl,rfl,congrArg (fun z:Nat=>some (AV.row 2 0 z)) (by rw[List.length_append];rfl),rfl,rfl,rfl,rfl,trivial⟩ ⟨rfl,⟨_,congrArg (G1.row 3 1 _) (by rw[List.map_append];rfl)⟩,trivial⟩ rfl rfl rfl⟩)
   |(rw[if_pos (by assumption),if_neg (by assumption),if_neg (by assumption)]at hI
     exact⟨(k+1,out,u2),⟨by dsimp only;omega,by dsimp only;omega,hI⟩,by dsimp only;omega,B2 h0⟩)
   |(rw[if_neg (by assumption)]at hI
     exact⟨(k+1,out,b),⟨by dsimp only;omega,by dsimp only;omega,hI⟩,by dsimp only;omega,B2 h0⟩)
 ·obtain rfl:k=D.length:=by omega
  rw[List.drop_length,Am]at hI
  rw[hI]
  repeat'((first|refine S2 ?_|(refine T6 ?_ ?_<;>intro h<;>try exact V1 h)|intro el ke kg|intro el ke|exact T4|refine T5 ?_ ?_|intro ex)<;>try conv=>whnf)
  all_goals first
   |(exfalso;omega)
   |exact D9 (B2 h0)
abbrev A6:AV:=.v (.slice none 0 0)
def zC:A1:=.mk 0 0 0 0 0 []
structure PrD where
 l:List jk
 names:List (List UInt8)
 a:Nat
theorem U9{E:Env}{n:Nat}{σ:St}(i j:Nat){e sz:Nat}{l:List AV}(hb:A7 σ.hp i=some (.box l))(hj:l[j]?=some (.v (.slice none 0 0)))(he:Nat.blt e y6=true:=by rfl):St.le E n σ ((σ.new (.row e sz 0 [])).set i (.box (l.set j (.row σ.nx 0 0)))):=by
 unfold St.le
 rintro a w ⟨θ,h⟩
 have h2:=h.grow (w':=w) (Go.RowKit.Below.refl _ _) (.slice none 0 0) (.row e sz 0 []) (fun k hk=>by cases hk) (fun le=>⟨[],⟨by simp,.inl ⟨by simp[cx,G8],rfl⟩⟩,(fun el ke=>by cases ke),(fun k el hk=>by simp at hk),.lt (Nat.blt_eq▸he)⟩) (n9 (Nat.blt_eq▸he))
 have kj:=(h.owns i _ hb).1
 have mY:A7 (σ.new (.row e sz 0 [])).hp i=some (.box l):=by
  simp only[St.new,J3]
  rw[if_neg (by omega)];exact hb
 obtain⟨_,b,lL,ty,h3,h4,h5,h6⟩:=h2.owns i _ mY
 refine⟨_,h2.turn (v':=Go.Av.upd θ σ.nx (.slice none 0 0) i) (b':=.box (l.set j (.row σ.nx 0 0))) (w':=w) mY rfl rfl rfl (Nat.le_refl _) (fun _ _ _=>rfl) (fun k hk=>.inl hk) rfl fun le=>?_⟩
 refine⟨b,lL,ty,by simp only[cx,G8];exact h3,h4,by rw[List.length_set];exact h5,fun q x y hx hy=>?_⟩
 rw[List.getElem?_set]at hx
 split at hx
 ·rename_i eq
  subst eq
  split at hx
  ·cases hx
   have hv:=(h6 j _ y hj hy).val
   rw[hv]
   refine .row _ _ _ _ (by simp[cx,St.new,St.set]) fun e' kw v' l' hl=>?_
   simp only[cx,St.new,St.set,J3]at hl
   rw[if_neg (by omega)]at hl
   simp only[if_true]at hl
   cases hl
   refine⟨Nat.le_refl _,fun _=>⟨rfl,?_⟩⟩
   simp only[cx]
   rw[S6 _ _ (by omega),G8]
  ·cases hx
 ·exact(h6 q x y hx hy).mono le
end Go.Proofs.YtkcekccdcpmekaaGreatDoor
namespace Go.Av
open Go Go.RowKit
end Go.Av
namespace Go.Proofs.YtkcekccdcpmekaaGreatDoor
open Go Go.Av
attribute [local irreducible] E8 B5 E5 E1 DQ E7 E9 St.le A4 A9
set_option maxRecDepth 100000
def kZ(l:List Pk)(i:Nat):Int:=l.foldl (fun (m:Int) (p:Pk)=>if p.col=(i:Int)then max m p.lev else m) 0
abbrev iK(s:A5)(c:Int):Pk:=⟨c,RB s c (J2 s c)⟩
abbrev kJ(s:A5)(d:Pk):Pk:=⟨d.col,RB s d.col d.lev⟩
def kK(ws:List Int)(ql:Int):Int:=if 0≤K6 (fun x=>decide (x=ql)) ws 0 then ws.length-K6 (fun x=>decide (x=ql)) ws 0 else 0
def kL(s:A5)(e:R6):List Pk :=
 if e.op=4∨e.op=5∨e.op=10∨e.op=11∨e.op=12∨e.op=14 then (if 0<e.col then [iK s e.col]else [])
 else if e.op=13 then [⟨e.col,RB s e.col (kK (C7 s e.col).widths e.num)⟩]else []
def kM(s:A5)(e:R6):List Pk:=e.dims.map (kJ s)++kL s e++e.cols.map (iK s)
mutual
def kN(s:A5):R6→List Pk
 |.mk o n nm c cs ds cd ev ks=>WA (kZ (kM s (.mk o n nm c cs ds cd ev ks)++cc s cd++cc s ev++iL s ks)) 0 s.cols.length
def iL(s:A5):List R6→List Pk
 |[]=>[]
 |x::r=>kN s x++iL s r
end
structure UY where
 name:List UInt8
 kind:Int
def cg(nm:List UInt8):List UY→Int×Int→Int×Int
 |[],z=>z
 |b::r,z=>cg nm r (if b.name=nm then (b.kind,0)else z)
def iM(before:List UY)(nm:List UInt8):Int×Int:=cg nm before (0,24)
def kO(before:List UY)(e:R6)(numbers:Bool):Int×Int :=
 if e.op=2 then iM before e.name else if numbers=false then (0,16)else if Vt e.op then (1,0)else (e.op-8,0)
mutual
def Rw(before:List UY):R6→Int×Int
 |.mk o n nm c cs ds cd ev ks=>if (WF before ks true).1=0 then kO before (.mk o n nm c cs ds cd ev ks) (WF before ks true).2 else (0,(WF before ks true).1)
def WF(before:List UY):List R6→Bool→Int×Bool
 |[],b=>(0,b)
 |x::r,b=>if (Rw before x).2=0 then WF before r (b && decide ((Rw before x).1=1))else ((Rw before x).2,b)
end
structure MapLv(m:List (Key×AV))(lv:Nat→Int):Prop where
 keys:Co (.int .i64) m
 get:∀c:Nat,DD m (.i .i64 c) (w8 (.int .i64 0))=.i (lv c)
theorem YO:a6 zC:=⟨rfl,rfl,rfl,rfl,rfl,rfl⟩
structure XprOk(s:A5)(names:List (List UInt8))(e:R6)(d:Nat):Prop where
 rig:Vu s e=true
 tot:J0 (Vp e)+1≤2 ^ (d+1)
 dep:Q2 (Vp e)≤d+1
 nam:∀g:List UInt8→Bool,(∀nm∈names,g nm=true)→gz g e=true
 kin:∀bs:List UY,(∀nm∈names,iM bs nm=(1,0))→(Rw bs e).2=0∧(Vt e.op→(Rw bs e).1=1)
theorem eV{s:A5}(hd:F7 s)(l:List UInt8)(a:Nat):u5 s ((AN l a s 3).1:Nat) 3=true:=by
 obtain⟨_,h1,h2⟩:=BL (l:=l) (a:=a) hd.two.2
 unfold u5
 rw[decide_eq_true_iff]
 exact⟨by omega,by omega,h2⟩
theorem F7.fin{s:A5}(hd:F7 s){c:Int}(h1:1≤c)(h2:c<s.cols.length):0≤J2 s c∧J2 s c≤4∧J2 s c=U6 s c:=by
 obtain⟨n,h3,h4,_⟩:=hd.chain (i:=c.toNat) (by omega) (List.getElem?_eq_getElem (show c.toNat<s.cols.length by omega))
 rw[show ((c.toNat:Nat):Int)=c by omega]at h3
 exact⟨by omega,by omega,by unfold J2;rw[if_pos hd.ok]⟩
theorem eW{s:A5}(hd:F7 s){q:Pk}(h1:1≤q.col)(h2:q.col<s.cols.length)(h3:0≤q.lev)(h4:q.lev≤J2 s q.col):Gv s q=0:=by
 have hf:=hd.fin h1 h2
 unfold Gv
 rw[if_neg (by omega),if_neg (by omega)]
end Go.Proofs.YtkcekccdcpmekaaGreatDoor

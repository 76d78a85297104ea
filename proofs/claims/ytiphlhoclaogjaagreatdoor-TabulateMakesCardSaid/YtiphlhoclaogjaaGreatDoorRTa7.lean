/- Chapter 18: which rows count, for measures: the program. -/
import Derived.Test.YtiphlhoclaogjaaGreatDoorRTa5
import Derived.Test.YtiphlhoclaogjaaGreatDoorRCd1
import Derived.Test.YtiphlhoclaogjaaGreatDoorRC3
set_option linter.unusedVariables false
set_option linter.unnecessarySimpa false
set_option linter.unusedSimpArgs false
set_option maxHeartbeats 64000000
namespace Go.Proofs.YtiphlhoclaogjaaGreatDoor
open Go Go.Av
attribute [local irreducible] C9 B3 C7 D1 DQ D0 C6 St.le A3 B7
set_option maxRecDepth 100000
theorem Nh(l:List (Int))(f:Nat)(caps:List AV)(p:(Int)→Bool)(hf:∀x∈l,A3 Tryz.prog f ((fun x=>.i x) x::caps) (.b (p x))):A3 Tryz.prog 127 [.sl 1 (l.map wA),.fn f caps] (.i (E8 p l 0)):=by
 refine B5 Tryz.func127 19 fun mK E h0=>?_
 have mL:l.length≤9223372036854775807:=by have:=(mK (.sl 1 (l.map wA)) (by simp)).sl;simpa using this
 repeat'((first|refine S2 ?_|(refine T6 ?_ ?_<;>intro h<;>try exact V1 h)|intro el mI mJ|intro el mI|exact T4|refine T5 ?_ ?_|intro ex)<;>try conv=>whnf)
 refine A9 (ι:=Nat) (fun k=>⟨[(0,.sl 1 (l.map wA)),(1,.fn f caps),(7,.i l.length),(8,.i k)],0,[]⟩) (fun k=>k≤l.length∧E8 p l 0=E8 p (l.drop k) k) (fun k=>l.length-k) 0 ⟨Nat.zero_le _,rfl⟩ (A6 h0) (fun k hI=>?_)
 obtain⟨hk,hI⟩:=hI
 repeat'((first|refine A0 (hf _ (List.mem_of_getElem? mI)) ?_ |refine S2 ?_|(refine T6 ?_ ?_<;>intro h<;>try exact V1 h)|intro el mI mJ|intro el mI|exact T4|refine T5 ?_ ?_|intro ex)<;>try conv=>whnf)
 all_goals first
  |exact⟨k+1,⟨by omega,by rw[hI,G1 mI,E8,if_neg (by simp[h])];rfl⟩,by omega,A6 h0⟩
  |exact A1 rfl (congrArg AV.i (by rw[hI,G1 mI,E8,if_pos (by simp[h])]))
  |exact A1 rfl (congrArg AV.i (by rw[hI,show k=l.length by omega,List.drop_length];rfl))
theorem YB(l:List (Int))(f:Nat)(caps:List AV)(p:(Int)→Bool)(hf:∀x∈l,A3 Tryz.prog f ((fun x=>.i x) x::caps) (.b (p x))):A3 Tryz.prog 69 [.sl 1 (l.map wA),.fn f caps] (.b (l.any p)):=by
 refine B5 Tryz.func69 9 fun mK E h0=>?_
 have nX:=Nh l f caps p hf
 repeat'((first|refine A0 nX ?_ |refine S2 ?_|(refine T6 ?_ ?_<;>intro h<;>try exact V1 h)|intro el mI mJ|intro el mI|exact T4|refine T5 ?_ ?_|intro ex)<;>try conv=>whnf)
 all_goals first
  |exact A1 rfl (congrArg AV.b (Ak p l 0 (by omega)))
theorem TW{α:Type}(p:α→Bool)(l:List α)(x:α):(l++[x]).filter p=l.filter p++(if p x=true then [x]else []):=by
 rw[List.filter_append];simp only[List.filter_cons,List.filter_nil]
theorem QN{α:Type}(p:α→Bool)(l:List α):(l.filter p).length≤l.length:=List.length_filter_le p l
theorem QO{α:Type}(p:α→Bool):∀(l:List α) (k j:Int),E8 p l k=j→0≤k→¬j=-1→∃n:Nat,j=k+n∧n<l.length∧(l.take n).filter (fun x=>!p x)=l.take n∧∃x,l[n]?=some x∧p x=true
 |[],k,j,h,hk,hj=>by simp[E8]at h;omega
 |x::r,k,j,h,hk,hj=>by
  unfold E8 at h
  by_cases hp:p x=true
  ·rw[if_pos hp]at h
   exact⟨0,by omega,by simp,by simp,x,rfl,hp⟩
  ·rw[if_neg hp]at h
   obtain⟨n,h1,h2,h3,y,h4,h5⟩:=QO p r (k+1) j h (by omega) hj
   refine⟨n+1,by omega,by simp;omega,?_,y,h4,h5⟩
   rw[List.take_succ_cons,List.filter_cons,h3]
   simp[hp]
theorem QP{α:Type}(p:α→Bool):∀(l:List α) (k:Int),E8 p l k=-1→0≤k→l.filter (fun x=>!p x)=l
 |[],k,h,hk=>rfl
 |x::r,k,h,hk=>by
  unfold E8 at h
  by_cases hp:p x=true
  ·rw[if_pos hp]at h;omega
  ·rw[if_neg hp]at h
   rw[List.filter_cons,QP p r (k+1) h (by omega)]
   simp[hp]
abbrev jy(l:List Int):Hp:=[(0,some (.row 3 1 0 (l.map wA)))]
theorem Uz(l:List Int)(mL:l.length≤1000000)(f:Nat)(caps:List AV)(mf:I9 caps=true)(p:Int→Bool)(hf:∀x∈l,A3 Tryz.prog f (.i x::caps) (.b (p x))):B7 Tryz.prog 66 1 (jy l) [.row 0 0 l.length,.fn f caps] 1 (jy (l.filter fun x=>!p x)) (.row 0 0 (l.filter fun x=>!p x).length):=by
 have nX:=Nh l f caps p hf
 have pU:=QP p l 0
 have pW:=fun j=>QO p l 0 j
 have pK:=Jw p l 0
 have nk:=TW (fun x=>!p x)
 have nV:=QN (fun x=>!p x)
 generalize hj:E8 p l 0=j at *
 dsimp only[jy]
 by_cases re:j=-1
 ·rw[pU re (Int.le_refl _)]
  refine Y6 Tryz.func66 42 fun E h0=>?_
  repeat'((first|(refine Mp [0] nX rfl rfl rfl rfl rfl rfl ?_) |refine S2 ?_|(refine T6 ?_ ?_<;>intro h<;>try exact V1 h)|intro el mI mJ|intro el mI|exact T4|refine T5 ?_ ?_|intro ex)<;>try conv=>whnf)
  all_goals first
   |(exfalso;omega)
   |exact H4 (A6 h0)
 obtain⟨n,h1,h2,h3,x0,h4,h5⟩:=pW j rfl (Int.le_refl _) re
 have uw:=F0 h4
 refine Y6 Tryz.func66 42 fun E h0=>?_
 repeat'((first|(refine Mp [0] nX rfl rfl rfl rfl rfl rfl ?_) |refine S2 ?_|(refine T6 ?_ ?_<;>intro h<;>try exact V1 h)|intro el mI mJ|intro el mI|exact T4|refine T5 ?_ ?_|intro ex)<;>try conv=>whnf)
 all_goals first
  |(exfalso;omega)
  |skip
 have hz:((l.take (n+1)).filter fun x=>!p x)=l.take n:=by
  rw[E7 h4,nk,h3,h5];simp
 refine A9 (ι:=Nat×List Int) (fun x=>⟨[(0,.row 0 0 l.length),(1,.fn f caps),(5,.i ((l.take x.1).filter fun x=>!p x).length),(6,.i x.1)],1,[(0,some (.row 3 1 0 (x.2.map wA)))]⟩)
  (fun x=>x.1≤l.length∧((l.take x.1).filter fun x=>!p x).length<x.1∧x.2.length=l.length∧x.2.take ((l.take x.1).filter fun x=>!p x).length=((l.take x.1).filter fun x=>!p x)∧x.2.drop x.1=l.drop x.1) (fun x=>l.length-x.1) (n+1,l) ⟨by dsimp only;omega,by dsimp only;rw[hz,List.length_take];omega,rfl,by dsimp only;rw[hz,List.length_take,Nat.min_eq_left (by omega)],rfl⟩
  (A7 h0 rfl ⟨rfl,rfl,congrArg (fun z:Int=>some (AV.i z)) (by dsimp only;rw[hz,List.length_take];omega),congrArg (fun z:Int=>some (AV.i z)) (by dsimp only;omega),trivial⟩ ⟨⟨_,rfl⟩,trivial⟩ rfl rfl rfl) (fun x hI=>?_)
 obtain⟨k,C⟩:=x
 obtain⟨i1,i2,i3,i4,i5⟩:=hI
 dsimp only at i1 i2 i3 i4 i5 ⊢
 clear hz
 by_cases mT:k<l.length
 ·obtain⟨v,hv⟩:∃v,l[k]?=some v:=⟨_,List.getElem?_eq_getElem mT⟩
  have hC:C[k]?=some v:=by
   have h6:=congrArg (fun z:List Int=>z[0]?) i5
   simp only[List.getElem?_drop,Nat.add_zero]at h6
   rw[h6,hv]
  have hC2:C[((k:Nat):Int).toNat]?=some v:=hC
  have yA:=hf v (List.mem_of_getElem? hv)
  have mR:=nk (l.take k) v
  rw[←E7 hv]at mR
  have uH:C.drop (k+1)=l.drop (k+1):=by
   rw[←List.drop_drop,←List.drop_drop,i5]
  generalize hA:(l.take k).filter (fun x=>!p x)=A at *
  cases hp:p v with
  |true =>
   rw[hp]at yA mR
   rw[if_neg (by decide),List.append_nil]at mR
   repeat'((first|(refine A2 (x:=v) hC2 (by omega) ?_)|refine A0 yA ?_ |refine S2 ?_|(refine T6 ?_ ?_<;>intro h<;>try exact V1 h)|intro el mI mJ|intro el mI|exact T4|refine T5 ?_ ?_|intro ex)<;>try conv=>whnf)
   all_goals first
    |(exfalso;omega)
    |exact⟨(k+1,C),⟨by dsimp only;omega,by dsimp only;rw[mR];omega,i3,by dsimp only;rw[mR];exact i4,uH⟩,by dsimp only;omega,A7 h0 rfl ⟨rfl,rfl,congrArg (fun z:Int=>some (AV.i z)) (by dsimp only;rw[mR]),rfl,trivial⟩ ⟨⟨_,rfl⟩,trivial⟩ rfl rfl rfl⟩
  |false =>
   rw[hp]at yA mR
   rw[if_pos (by decide)]at mR
   have hAC:A.length<C.length:=by omega
   have nS:(C.map wA).set A.length [.i v]=(C.set A.length v).map wA:=by rw[List.map_set]
   repeat'((first|(refine A2 (x:=v) hC2 (by omega) ?_)|refine A0 yA ?_ |refine S2 ?_|(refine T6 ?_ ?_<;>intro h<;>try exact V1 h)|intro el mI mJ|intro el mI|exact T4|refine T5 ?_ ?_|intro ex)<;>try conv=>whnf)
   all_goals first
    |(exfalso;omega)
    |exact⟨(k+1,C.set A.length v),⟨by dsimp only;omega,by dsimp only;rw[mR,List.length_append,List.length_singleton];omega,by dsimp only;rw[List.length_set];exact i3,by
      dsimp only
      rw[mR,List.length_append,List.length_singleton,List.take_add_one,List.getElem?_set_self hAC,List.take_set_of_le (Nat.le_refl _),i4];rfl,by
      dsimp only
      rw[List.drop_set_of_lt (by omega)];exact uH⟩,by dsimp only;omega,A7 h0 rfl ⟨rfl,rfl,congrArg (fun z:Int=>some (AV.i z)) (by dsimp only;rw[mR,List.length_append,List.length_singleton];omega),rfl,trivial⟩ ⟨⟨_,congrArg (C4.row 3 1 _) (by dsimp only;rw[←nS];rfl)⟩,trivial⟩ rfl rfl rfl⟩
 ·have he:l.take k=l:=List.take_of_length_le (by omega)
  rw[he]at i2 i4 ⊢
  generalize hA:l.filter (fun x=>!p x)=A at *
  have rQ:A.length≤l.length:=by omega
  have hAt:((C.map wA).take A.length++List.replicate (l.length-A.length) [AV.v (Value.int .i64 0)]).take A.length=A.map wA:=by
   rw[List.take_append_of_le_length (by simp;omega),List.take_take,Nat.min_self,←List.map_take,i4]
  repeat'((first|(refine⟨Oo rfl rfl rfl rfl (by omega) (by omega) (by omega) rfl ?_⟩)|(refine YA (z:=.int .i64 0) ⟨rfl,rfl⟩ (by kernel_rfl) rfl rfl (by simp;omega) rfl ?_) |refine S2 ?_|(refine T6 ?_ ?_<;>intro h<;>try exact V1 h)|intro el mI mJ|intro el mI|exact T4|refine T5 ?_ ?_|intro ex)<;>try conv=>whnf)
  all_goals first
   |(exfalso;omega)
   |exact H4 (B9 (dU (d:=4) rfl rfl (by decide) (by decide)) (A7 h0 rfl ⟨rfl,trivial⟩ ⟨⟨_,congrArg (C4.row 3 1 _) hAt.symm⟩,trivial⟩ rfl rfl rfl))
def GK(s:A4)(picks:List Pk)(r:List Int)(c:Int):Bool:=!(N6 s c (B4 s c) (picks.zip r.tail)).2 || decide ((N6 s c (B4 s c) (picks.zip r.tail)).1=-1099511627776)
def GL(s:A4)(picks:List Pk)(mS:List Int)(r:List Int):Bool:=mS.any (GK s picks r)
def e8(s:A4)(x:J7)(cnd:B6)(mS:List Int):List Int:=if ¬K9 s x=0 then []else (DP s x cnd).filter fun i=>!GL s x.picks mS (x.rows.getD i.toNat [])
def JR(s:A4)(x:J7)(c:Int)(i:Int):Int:=(N6 s c (B4 s c) (x.picks.zip (x.rows.getD i.toNat []).tail)).1
theorem YC{P:Program}{E:Env}{n:Nat}{ops:Array Oper}{rest:List Oper}{σ:St}{K:St→Prop}{o:Oper}{l:List AV}(i j k:Nat)(h:B3 P E n ops (o::rest) (((σ.frz i).frz j).frz k) K):g9 P E n ops o rest l σ K:=⟨DG (B9 (Et i) (B9 (Et j) (Et k))) h⟩
theorem TY(s:A4)(hr:C3 s=0)(x:J7)(k:Nat)(r:List Int)(hk:x.rows[k]?=some r)(hl:r.length=x.picks.length+1)(ob:x.picks.length≤1000)(c:Int):A3 Tryz.prog 70 [.i c,.iptr (sL s),.iptr (IJ x),.iptr [.i k]] (.b (GK s x.picks r c)):=by
 have h1:=Ch s c
 have h2:=Co s hr x k r hk hl ob c (B4 s c)
 unfold GK
 generalize N6 s c (B4 s c) (x.picks.zip r.tail)=K at *
 obtain⟨v,ok⟩:=K
 obtain⟨pr,ver,picks,rows⟩:=x
 dsimp only at *
 refine B5 Tryz.func70 25 fun mK E h0=>?_
 clear mK
 cases ok
 ·repeat'((first|(refine B0 ?_ ?_;kernel_rfl)|refine A0 h1 ?_|refine A0 h2 ?_ |refine S2 ?_|(refine T6 ?_ ?_<;>intro h<;>try exact V1 h)|intro el mI mJ|intro el mI|exact T4|refine T5 ?_ ?_|intro ex)<;>try conv=>whnf)
  all_goals first
   |exact A1 rfl rfl
 ·repeat'((first|(refine B0 ?_ ?_;kernel_rfl)|refine A0 h1 ?_|refine A0 h2 ?_ |refine S2 ?_|(refine T6 ?_ ?_<;>intro h<;>try exact V1 h)|intro el mI mJ|intro el mI|exact T4|refine T5 ?_ ?_|intro ex)<;>try conv=>whnf)
  all_goals first
   |exact A1 rfl rfl
theorem TZ(s:A4)(hr:C3 s=0)(x:J7)(k:Nat)(r:List Int)(hk:x.rows[k]?=some r)(hl:r.length=x.picks.length+1)(ob:x.picks.length≤1000)(mS:List Int):A3 Tryz.prog 68 [.i k,.iptr [.sl 1 (mS.map wA)],.iptr (sL s),.iptr (IJ x)] (.b (GL s x.picks mS r)):=by
 have nR:=YB mS 70 [.iptr (sL s),.iptr (IJ x),.iptr [.i k]] (GK s x.picks r) (fun c _=>TY s hr x k r hk hl ob c)
 unfold GL
 obtain⟨pr,ver,picks,rows⟩:=x
 dsimp only at *
 generalize GK s picks r=B at *
 refine B5 Tryz.func68 9 fun mK E h0=>?_
 clear mK
 repeat'((first|refine A0 nR ?_|refine I4 0 ?_ |refine S2 ?_|(refine T6 ?_ ?_<;>intro h<;>try exact V1 h)|intro el mI mJ|intro el mI|exact T4|refine T5 ?_ ?_|intro ex)<;>try conv=>whnf)
 all_goals first
  |exact A1 rfl rfl
theorem WN{s:A4}{x:J7}{cnd:B6}{i:Int}(h:i∈DP s x cnd):∃(k:Nat) (r:List Int),i=k∧x.rows[k]?=some r:=by
 unfold DP at h
 split at h
 ·obtain⟨j,h1,r,h2,_⟩:=JP h
  exact⟨j,r,by rw[h1,Nat.zero_add],h2⟩
 ·cases h
theorem WO(s:A4)(x:J7)(cnd:B6):(DP s x cnd).length≤x.rows.length:=by
 unfold DP
 split
 ·exact Ft _ _ _
 ·exact Nat.zero_le _
theorem GM(s:A4)(x:J7)(cnd:B6)(mS:List Int):B7 Tryz.prog 24 0 [] [sA s,T8 x,D5 cnd,.sl 1 (mS.map wA)] 1 [(0,some (.row 3 1 0 ((e8 s x cnd mS).map wA)))] (.row 0 0 (e8 s x cnd mS).length):=by
 have h1:=j3 s x
 by_cases hx:¬K9 s x=0
 ·have hE:e8 s x cnd mS=[]:=if_pos hx
  rw[hE]
  obtain⟨pr,ver,picks,rows⟩:=x
  rw[F8]at *
  refine Y6 Tryz.func24 19 fun E h0=>?_
  repeat'((first|refine A0 h1 ?_ |refine S2 ?_|(refine T6 ?_ ?_<;>intro h<;>try exact V1 h)|intro el mI mJ|intro el mI|exact T4|refine T5 ?_ ?_|intro ex)<;>try conv=>whnf)
  all_goals first
   |(exfalso;omega)
   |exact H4 (B9 (H7 (d:=8) (e:=3) (sz:=1) rfl) (B9 (Aj 0 4 h0 rfl rfl) (A7 h0 rfl ⟨rfl,trivial⟩ ⟨⟨0,rfl⟩,trivial⟩ rfl rfl rfl)))
 have oU:=Decidable.of_not_not hx
 have hE:e8 s x cnd mS=(DP s x cnd).filter fun i=>!GL s x.picks mS (x.rows.getD i.toNat []):=if_neg hx
 rw[hE]
 obtain⟨hr,hp,nG,mV⟩:=o5 oU
 rw[oU]at h1
 have ob:=f8 hp
 have mf:=(D3 hr).2.1
 have h2:=TV s x oU cnd
 have qV:=WO s x cnd
 have h3:=Uz (DP s x cnd) (by omega) 68 [.iptr [.sl 1 (mS.map wA)],.iptr (sL s),.iptr (IJ x)] rfl (fun i=>GL s x.picks mS (x.rows.getD i.toNat [])) (fun i hi=>by
  obtain⟨k,r,rfl,hk⟩:=WN hi
  have:=TZ s hr x k r hk (O6 (mV k r hk)) (by omega) mS
  rw[show ((k:Int)).toNat=k from rfl,D7 hk]
  exact this)
 obtain⟨pr,ver,picks,rows⟩:=x
 dsimp only at *
 rw[F8]at *
 generalize DP s ⟨pr,ver,picks,rows⟩ cnd=H at *
 generalize (H.filter fun i=>!GL s picks mS (rows.getD i.toNat []))=H2 at *
 clear mV hE hx qV hp
 refine Y6 Tryz.func24 19 fun E h0=>?_
 repeat'((first|refine A0 h1 ?_|refine f9 [] [] h2 rfl rfl rfl rfl rfl trivial rfl rfl rfl rfl rfl ?_|refine nc [4] [0] h3 rfl rfl rfl ⟨rfl,trivial⟩ ?_ |refine S2 ?_|(refine T6 ?_ ?_<;>intro h<;>try exact V1 h)|intro el mI mJ|intro el mI|exact T4|refine T5 ?_ ?_|intro ex|refine YC 3 0 1 ?_)<;>try conv=>whnf)
 all_goals first
  |(exfalso;omega)
  |exact H4 (B9 (Aj 0 4 h0 rfl rfl) (A6 h0))
theorem VA(s:A4)(x:J7)(hx:K9 s x=0)(l:List Int)(hl:l.length≤1000000)(hm:∀i∈l,∃(k:Nat) (r:List Int),i=k∧x.rows[k]?=some r)(c:Int):B7 Tryz.prog 49 0 [] [sA s,T8 x,.sl 1 (l.map wA),.i c] 1 [(0,some (.row 3 1 0 ((l.map (JR s x c)).map wA)))] (.row 0 0 l.length):=by
 obtain⟨hr,hp,nG,mV⟩:=o5 hx
 have ob:=f8 hp
 have mf:=(D3 hr).2.1
 have h1:=Ch s c
 have h2:=fun (k:Nat) (r:List Int) (hk:x.rows[k]?=some r)=>Co s hr x k r hk (O6 (mV k r hk)) (by omega) c (B4 s c)
 have hv:∀(k:Nat) (r:List Int),x.rows[k]?=some r→JR s x c k=(N6 s c (B4 s c) (x.picks.zip r.tail)).1:=fun k r hk=>by unfold JR;rw[show ((k:Int)).toNat=k from rfl,D7 hk]
 generalize JR s x c=F at *
 clear mV hx hp
 obtain⟨pr,ver,picks,rows⟩:=x
 dsimp only at *
 refine Y6 Tryz.func49 37 fun E h0=>?_
 repeat'((first|refine S2 ?_|(refine T6 ?_ ?_<;>intro h<;>try exact V1 h)|intro el mI mJ|intro el mI|exact T4|refine T5 ?_ ?_|intro ex)<;>try conv=>whnf)
 all_goals first
  |(exfalso;omega)
  |skip
 refine A9 (ι:=Nat) (fun k=>⟨[(3,.i c),(4,.ref 0 0),(5,.ref 1 0),(9,.row 2 0 k),(14,.sl 1 (l.map wA)),(15,.i l.length),(16,.i k)],3,[(0,some (.box (sL s))),(1,some (.box [.str pr,.i ver,.sl 2 (picks.map A8),.sl 1 (rows.map D2)])),(2,some (.row 3 1 0 (((l.take k).map F).map wA)))]⟩)
  (fun k=>k≤l.length) (fun k=>l.length-k) 0 (Nat.zero_le _)
  (B9 (H7 (d:=9) (e:=3) (sz:=1) rfl) (A7 h0 rfl ⟨rfl,rfl,rfl,rfl,rfl,rfl,rfl,trivial⟩ ⟨rfl,rfl,⟨0,rfl⟩,trivial⟩ rfl rfl rfl)) (fun k hK=>?_)
 by_cases mT:k<l.length
 ·obtain⟨i,hi⟩:∃i,l[k]?=some i:=⟨_,List.getElem?_eq_getElem mT⟩
  obtain⟨q,r,rfl,hq⟩:=hm i (List.mem_of_getElem? hi)
  have nO:l[((k:Nat):Int).toNat]?=some (q:Int):=hi
  have hT:=h2 q r hq
  have mR:(l.take (k+1)).map F=(l.take k).map F++[F q]:=by rw[E7 hi,List.map_append];rfl
  rw[hv q r hq]at mR
  have sw:((l.take k).map F).length=k:=by rw[List.length_map,List.length_take];omega
  generalize (l.take k).map F=A at *
  generalize N6 s c (B4 s c) (picks.zip r.tail)=K at *
  obtain⟨v,ok⟩:=K
  dsimp only at *
  repeat'((first|(refine A2 (x:=(q:Int)) nO (by omega) ?_)|refine A0 h1 ?_|refine A0 hT ?_|(refine B0 ?_ ?_;kernel_rfl) |refine S2 ?_|(refine T6 ?_ ?_<;>intro h<;>try exact V1 h)|intro el mI mJ|intro el mI|exact T4|refine T5 ?_ ?_|intro ex)<;>try conv=>whnf)
  all_goals first
   |(exfalso;omega)
   |exact⟨k+1,by omega,by omega,A7 h0 rfl ⟨rfl,rfl,rfl,rfl,rfl,rfl,rfl,trivial⟩ ⟨rfl,rfl,⟨_,congrArg (C4.row 3 1 _) (by rw[mR,List.map_append];rfl)⟩,trivial⟩ rfl rfl rfl⟩
 ·have he:l.take k=l:=List.take_of_length_le (by omega)
  have nP:k=l.length:=by omega
  rw[he]
  subst nP
  repeat'((first|refine S2 ?_|(refine T6 ?_ ?_<;>intro h<;>try exact V1 h)|intro el mI mJ|intro el mI|exact T4|refine T5 ?_ ?_|intro ex)<;>try conv=>whnf)
  all_goals first
   |(exfalso;omega)
   |exact H4 (B9 (Aj 0 2 h0 rfl rfl) (A6 h0))
end Go.Proofs.YtiphlhoclaogjaaGreatDoor

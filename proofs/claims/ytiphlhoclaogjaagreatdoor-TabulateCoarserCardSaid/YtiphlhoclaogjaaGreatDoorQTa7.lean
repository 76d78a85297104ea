/- Chapter 18: which rows count, for measures: the program. -/
import Derived.Test.YtiphlhoclaogjaaGreatDoorQTa5
import Derived.Test.YtiphlhoclaogjaaGreatDoorQCd1
import Derived.Test.YtiphlhoclaogjaaGreatDoorQC3
set_option linter.unusedVariables false
set_option linter.unnecessarySimpa false
set_option linter.unusedSimpArgs false
set_option maxHeartbeats 64000000
namespace Go.Proofs.YtiphlhoclaogjaaGreatDoor
open Go Go.Av
attribute [local irreducible] C7 B1 D1 C8 DQ D0 C6 St.le A3 B8
set_option maxRecDepth 100000
theorem Ns(l:List (Int))(f:Nat)(caps:List AV)(p:(Int)→Bool)(hf:∀x∈l,A3 Tryz.prog f ((fun x=>.i x) x::caps) (.b (p x))):A3 Tryz.prog 127 [.sl 1 (l.map wA),.fn f caps] (.i (F3 p l 0)):=by
 refine C1 Tryz.func127 19 fun nd E h0=>?_
 have nZ:l.length≤9223372036854775807:=by have:=(nd (.sl 1 (l.map wA)) (by simp)).sl;simpa using this
 repeat'((first|refine S2 ?_|(refine T6 ?_ ?_<;>intro h<;>try exact V1 h)|intro el nX nY|intro el nX|exact T4|refine T5 ?_ ?_|intro ex)<;>try conv=>whnf)
 refine B2 (ι:=Nat) (fun k=>⟨[(0,.sl 1 (l.map wA)),(1,.fn f caps),(7,.i l.length),(8,.i k)],0,[]⟩) (fun k=>k≤l.length∧F3 p l 0=F3 p (l.drop k) k) (fun k=>l.length-k) 0 ⟨Nat.zero_le _,rfl⟩ (A6 h0) (fun k hI=>?_)
 obtain⟨hk,hI⟩:=hI
 repeat'((first|refine A1 (hf _ (List.mem_of_getElem? nX)) ?_ |refine S2 ?_|(refine T6 ?_ ?_<;>intro h<;>try exact V1 h)|intro el nX nY|intro el nX|exact T4|refine T5 ?_ ?_|intro ex)<;>try conv=>whnf)
 all_goals first
  |exact⟨k+1,⟨by omega,by rw[hI,H1 nX,F3,if_neg (by simp[h])];rfl⟩,by omega,A6 h0⟩
  |exact A0 rfl (congrArg AV.i (by rw[hI,H1 nX,F3,if_pos (by simp[h])]))
  |exact A0 rfl (congrArg AV.i (by rw[hI,show k=l.length by omega,List.drop_length];rfl))
theorem Yo(l:List (Int))(f:Nat)(caps:List AV)(p:(Int)→Bool)(hf:∀x∈l,A3 Tryz.prog f ((fun x=>.i x) x::caps) (.b (p x))):A3 Tryz.prog 69 [.sl 1 (l.map wA),.fn f caps] (.b (l.any p)):=by
 refine C1 Tryz.func69 9 fun nd E h0=>?_
 have ol:=Ns l f caps p hf
 repeat'((first|refine A1 ol ?_ |refine S2 ?_|(refine T6 ?_ ?_<;>intro h<;>try exact V1 h)|intro el nX nY|intro el nX|exact T4|refine T5 ?_ ?_|intro ex)<;>try conv=>whnf)
 all_goals first
  |exact A0 rfl (congrArg AV.b (Bc p l 0 (by omega)))
theorem Tp{α:Type}(p:α→Bool)(l:List α)(x:α):(l++[x]).filter p=l.filter p++(if p x=true then [x]else []):=by
 rw[List.filter_append];simp only[List.filter_cons,List.filter_nil]
theorem QZ{α:Type}(p:α→Bool)(l:List α):(l.filter p).length≤l.length:=List.length_filter_le p l
theorem Qa{α:Type}(p:α→Bool):∀(l:List α) (k j:Int),F3 p l k=j→0≤k→¬j=-1→∃n:Nat,j=k+n∧n<l.length∧(l.take n).filter (fun x=>!p x)=l.take n∧∃x,l[n]?=some x∧p x=true
 |[],k,j,h,hk,hj=>by simp[F3]at h;omega
 |x::r,k,j,h,hk,hj=>by
  unfold F3 at h
  by_cases hp:p x=true
  ·rw[if_pos hp]at h
   exact⟨0,by omega,by simp,by simp,x,rfl,hp⟩
  ·rw[if_neg hp]at h
   obtain⟨n,h1,h2,h3,y,h4,h5⟩:=Qa p r (k+1) j h (by omega) hj
   refine⟨n+1,by omega,by simp;omega,?_,y,h4,h5⟩
   rw[List.take_succ_cons,List.filter_cons,h3]
   simp[hp]
theorem Qb{α:Type}(p:α→Bool):∀(l:List α) (k:Int),F3 p l k=-1→0≤k→l.filter (fun x=>!p x)=l
 |[],k,h,hk=>rfl
 |x::r,k,h,hk=>by
  unfold F3 at h
  by_cases hp:p x=true
  ·rw[if_pos hp]at h;omega
  ·rw[if_neg hp]at h
   rw[List.filter_cons,Qb p r (k+1) h (by omega)]
   simp[hp]
abbrev lQ(l:List Int):Hp:=[(0,some (.row 3 1 0 (l.map wA)))]
theorem VZ(l:List Int)(nZ:l.length≤1000000)(f:Nat)(caps:List AV)(nz:I6 caps=true)(p:Int→Bool)(hf:∀x∈l,A3 Tryz.prog f (.i x::caps) (.b (p x))):B8 Tryz.prog 66 1 (lQ l) [.row 0 0 l.length,.fn f caps] 1 (lQ (l.filter fun x=>!p x)) (.row 0 0 (l.filter fun x=>!p x).length):=by
 have ol:=Ns l f caps p hf
 have qO:=Qb p l 0
 have qS:=fun j=>Qa p l 0 j
 have qL:=KF p l 0
 have oe:=Tp (fun x=>!p x)
 have pR:=QZ (fun x=>!p x)
 generalize hj:F3 p l 0=j at *
 dsimp only[lQ]
 by_cases sr:j=-1
 ·rw[qO sr (Int.le_refl _)]
  refine a8 Tryz.func66 42 fun E h0=>?_
  repeat'((first|(refine NC [0] ol rfl rfl rfl rfl rfl rfl ?_) |refine S2 ?_|(refine T6 ?_ ?_<;>intro h<;>try exact V1 h)|intro el nX nY|intro el nX|exact T4|refine T5 ?_ ?_|intro ex)<;>try conv=>whnf)
  all_goals first
   |(exfalso;omega)
   |exact H7 (A6 h0)
 obtain⟨n,h1,h2,h3,x0,h4,h5⟩:=qS j rfl (Int.le_refl _) sr
 have wV:=D4 h4
 refine a8 Tryz.func66 42 fun E h0=>?_
 repeat'((first|(refine NC [0] ol rfl rfl rfl rfl rfl rfl ?_) |refine S2 ?_|(refine T6 ?_ ?_<;>intro h<;>try exact V1 h)|intro el nX nY|intro el nX|exact T4|refine T5 ?_ ?_|intro ex)<;>try conv=>whnf)
 all_goals first
  |(exfalso;omega)
  |skip
 have hz:((l.take (n+1)).filter fun x=>!p x)=l.take n:=by
  rw[I0 h4,oe,h3,h5];simp
 refine B2 (ι:=Nat×List Int) (fun x=>⟨[(0,.row 0 0 l.length),(1,.fn f caps),(5,.i ((l.take x.1).filter fun x=>!p x).length),(6,.i x.1)],1,[(0,some (.row 3 1 0 (x.2.map wA)))]⟩)
  (fun x=>x.1≤l.length∧((l.take x.1).filter fun x=>!p x).length<x.1∧x.2.length=l.length∧x.2.take ((l.take x.1).filter fun x=>!p x).length=((l.take x.1).filter fun x=>!p x)∧x.2.drop x.1=l.drop x.1) (fun x=>l.length-x.1) (n+1,l) ⟨by dsimp only;omega,by dsimp only;rw[hz,List.length_take];omega,rfl,by dsimp only;rw[hz,List.length_take,Nat.min_eq_left (by omega)],rfl⟩
  (B3 h0 rfl ⟨rfl,rfl,congrArg (fun z:Int=>some (AV.i z)) (by dsimp only;rw[hz,List.length_take];omega),congrArg (fun z:Int=>some (AV.i z)) (by dsimp only;omega),trivial⟩ ⟨⟨_,rfl⟩,trivial⟩ rfl rfl rfl) (fun x hI=>?_)
 obtain⟨k,C⟩:=x
 obtain⟨i1,i2,i3,i4,i5⟩:=hI
 dsimp only at i1 i2 i3 i4 i5 ⊢
 clear hz
 by_cases no:k<l.length
 ·obtain⟨v,hv⟩:∃v,l[k]?=some v:=⟨_,List.getElem?_eq_getElem no⟩
  have hC:C[k]?=some v:=by
   have h6:=congrArg (fun z:List Int=>z[0]?) i5
   simp only[List.getElem?_drop,Nat.add_zero]at h6
   rw[h6,hv]
  have hC2:C[((k:Nat):Int).toNat]?=some v:=hC
  have yY:=hf v (List.mem_of_getElem? hv)
  have nv:=oe (l.take k) v
  rw[←I0 hv]at nv
  have hd5:C.drop (k+1)=l.drop (k+1):=by
   rw[←List.drop_drop,←List.drop_drop,i5]
  generalize hA:(l.take k).filter (fun x=>!p x)=A at *
  cases hp:p v with
  |true =>
   rw[hp]at yY nv
   rw[if_neg (by decide),List.append_nil]at nv
   repeat'((first|(refine A2 (x:=v) hC2 (by omega) ?_)|refine A1 yY ?_ |refine S2 ?_|(refine T6 ?_ ?_<;>intro h<;>try exact V1 h)|intro el nX nY|intro el nX|exact T4|refine T5 ?_ ?_|intro ex)<;>try conv=>whnf)
   all_goals first
    |(exfalso;omega)
    |exact⟨(k+1,C),⟨by dsimp only;omega,by dsimp only;rw[nv];omega,i3,by dsimp only;rw[nv];exact i4,hd5⟩,by dsimp only;omega,B3 h0 rfl ⟨rfl,rfl,congrArg (fun z:Int=>some (AV.i z)) (by dsimp only;rw[nv]),rfl,trivial⟩ ⟨⟨_,rfl⟩,trivial⟩ rfl rfl rfl⟩
  |false =>
   rw[hp]at yY nv
   rw[if_pos (by decide)]at nv
   have hAC:A.length<C.length:=by omega
   have od:(C.map wA).set A.length [.i v]=(C.set A.length v).map wA:=by rw[List.map_set]
   repeat'((first|(refine A2 (x:=v) hC2 (by omega) ?_)|refine A1 yY ?_ |refine S2 ?_|(refine T6 ?_ ?_<;>intro h<;>try exact V1 h)|intro el nX nY|intro el nX|exact T4|refine T5 ?_ ?_|intro ex)<;>try conv=>whnf)
   all_goals first
    |(exfalso;omega)
    |exact⟨(k+1,C.set A.length v),⟨by dsimp only;omega,by dsimp only;rw[nv,List.length_append,List.length_singleton];omega,by dsimp only;rw[List.length_set];exact i3,by
      dsimp only
      rw[nv,List.length_append,List.length_singleton,List.take_add_one,List.getElem?_set_self hAC,List.take_set_of_le (Nat.le_refl _),i4];rfl,by
      dsimp only
      rw[List.drop_set_of_lt (by omega)];exact hd5⟩,by dsimp only;omega,B3 h0 rfl ⟨rfl,rfl,congrArg (fun z:Int=>some (AV.i z)) (by dsimp only;rw[nv,List.length_append,List.length_singleton];omega),rfl,trivial⟩ ⟨⟨_,congrArg (D3.row 3 1 _) (by dsimp only;rw[←od];rfl)⟩,trivial⟩ rfl rfl rfl⟩
 ·have he:l.take k=l:=List.take_of_length_le (by omega)
  rw[he]at i2 i4 ⊢
  generalize hA:l.filter (fun x=>!p x)=A at *
  have tA:A.length≤l.length:=by omega
  have hAt:((C.map wA).take A.length++List.replicate (l.length-A.length) [AV.v (Value.int .i64 0)]).take A.length=A.map wA:=by
   rw[List.take_append_of_le_length (by simp;omega),List.take_take,Nat.min_self,←List.map_take,i4]
  repeat'((first|(refine⟨PD rfl rfl rfl rfl (by omega) (by omega) (by omega) rfl ?_⟩)|(refine Yn (z:=.int .i64 0) ⟨rfl,rfl⟩ (by kernel_rfl) rfl rfl (by simp;omega) rfl ?_) |refine S2 ?_|(refine T6 ?_ ?_<;>intro h<;>try exact V1 h)|intro el nX nY|intro el nX|exact T4|refine T5 ?_ ?_|intro ex)<;>try conv=>whnf)
  all_goals first
   |(exfalso;omega)
   |exact H7 (C2 (ey (d:=4) rfl rfl (by decide) (by decide)) (B3 h0 rfl ⟨rfl,trivial⟩ ⟨⟨_,congrArg (D3.row 3 1 _) hAt.symm⟩,trivial⟩ rfl rfl rfl))
def Tq(s:A4)(picks:List Pk)(r:List Int)(c:Int):Bool:=!(V6 s c (A8 s c) (picks.zip r.tail)).2 || decide ((V6 s c (A8 s c) (picks.zip r.tail)).1=-1099511627776)
def Ly(s:A4)(picks:List Pk)(nk:List Int)(r:List Int):Bool:=nk.any (Tq s picks r)
def R3(s:A4)(x:H6)(cnd:B0)(nk:List Int):List Int:=if ¬R2 s x=0 then []else (Ax s x cnd).filter fun i=>!Ly s x.picks nk (x.rows.getD i.toNat [])
def Jc(s:A4)(x:H6)(c:Int)(i:Int):Int:=(V6 s c (A8 s c) (x.picks.zip (x.rows.getD i.toNat []).tail)).1
theorem Yp{P:Program}{E:Env}{n:Nat}{ops:Array Oper}{rest:List Oper}{σ:St}{K:St→Prop}{o:Oper}{l:List AV}(i j k:Nat)(h:B1 P E n ops (o::rest) (((σ.frz i).frz j).frz k) K):e6 P E n ops o rest l σ K:=⟨Em (C2 (GY i) (C2 (GY j) (GY k))) h⟩
theorem Tr(s:A4)(hr:C5 s=0)(x:H6)(k:Nat)(r:List Int)(hk:x.rows[k]?=some r)(hl:r.length=x.picks.length+1)(qI:x.picks.length≤1000)(c:Int):A3 Tryz.prog 70 [.i c,.iptr (sL s),.iptr (Nl x),.iptr [.i k]] (.b (Tq s x.picks r c)):=by
 have h1:=Cb s c
 have h2:=Ck s hr x k r hk hl qI c (A8 s c)
 unfold Tq
 generalize V6 s c (A8 s c) (x.picks.zip r.tail)=K at *
 obtain⟨v,ok⟩:=K
 obtain⟨pr,ver,picks,rows⟩:=x
 dsimp only at *
 refine C1 Tryz.func70 25 fun nd E h0=>?_
 clear nd
 cases ok
 ·repeat'((first|(refine B5 ?_ ?_;kernel_rfl)|refine A1 h1 ?_|refine A1 h2 ?_ |refine S2 ?_|(refine T6 ?_ ?_<;>intro h<;>try exact V1 h)|intro el nX nY|intro el nX|exact T4|refine T5 ?_ ?_|intro ex)<;>try conv=>whnf)
  all_goals first
   |exact A0 rfl rfl
 ·repeat'((first|(refine B5 ?_ ?_;kernel_rfl)|refine A1 h1 ?_|refine A1 h2 ?_ |refine S2 ?_|(refine T6 ?_ ?_<;>intro h<;>try exact V1 h)|intro el nX nY|intro el nX|exact T4|refine T5 ?_ ?_|intro ex)<;>try conv=>whnf)
  all_goals first
   |exact A0 rfl rfl
theorem Ts(s:A4)(hr:C5 s=0)(x:H6)(k:Nat)(r:List Int)(hk:x.rows[k]?=some r)(hl:r.length=x.picks.length+1)(qI:x.picks.length≤1000)(nk:List Int):A3 Tryz.prog 68 [.i k,.iptr [.sl 1 (nk.map wA)],.iptr (sL s),.iptr (Nl x)] (.b (Ly s x.picks nk r)):=by
 have oV:=Yo nk 70 [.iptr (sL s),.iptr (Nl x),.iptr [.i k]] (Tq s x.picks r) (fun c _=>Tr s hr x k r hk hl qI c)
 unfold Ly
 obtain⟨pr,ver,picks,rows⟩:=x
 dsimp only at *
 generalize Tq s picks r=B at *
 refine C1 Tryz.func68 9 fun nd E h0=>?_
 clear nd
 repeat'((first|refine A1 oV ?_|refine J9 0 ?_ |refine S2 ?_|(refine T6 ?_ ?_<;>intro h<;>try exact V1 h)|intro el nX nY|intro el nX|exact T4|refine T5 ?_ ?_|intro ex)<;>try conv=>whnf)
 all_goals first
  |exact A0 rfl rfl
theorem Wn{s:A4}{x:H6}{cnd:B0}{i:Int}(h:i∈Ax s x cnd):∃(k:Nat) (r:List Int),i=k∧x.rows[k]?=some r:=by
 unfold Ax at h
 split at h
 ·obtain⟨j,h1,r,h2,_⟩:=Dp h
  exact⟨j,r,by rw[h1,Nat.zero_add],h2⟩
 ·cases h
theorem Wo(s:A4)(x:H6)(cnd:B0):(Ax s x cnd).length≤x.rows.length:=by
 unfold Ax
 split
 ·exact Jb _ _ _
 ·exact Nat.zero_le _
theorem GO(s:A4)(x:H6)(cnd:B0)(nk:List Int):B8 Tryz.prog 24 0 [] [sA s,f4 x,E0 cnd,.sl 1 (nk.map wA)] 1 [(0,some (.row 3 1 0 ((R3 s x cnd nk).map wA)))] (.row 0 0 (R3 s x cnd nk).length):=by
 have h1:=f5 s x
 by_cases hx:¬R2 s x=0
 ·have hE:R3 s x cnd nk=[]:=if_pos hx
  rw[hE]
  obtain⟨pr,ver,picks,rows⟩:=x
  rw[G0]at *
  refine a8 Tryz.func24 19 fun E h0=>?_
  repeat'((first|refine A1 h1 ?_ |refine S2 ?_|(refine T6 ?_ ?_<;>intro h<;>try exact V1 h)|intro el nX nY|intro el nX|exact T4|refine T5 ?_ ?_|intro ex)<;>try conv=>whnf)
  all_goals first
   |(exfalso;omega)
   |exact H7 (C2 (K7 (d:=8) (e:=3) (sz:=1) rfl) (C2 (BC 0 4 h0 rfl rfl) (B3 h0 rfl ⟨rfl,trivial⟩ ⟨⟨0,rfl⟩,trivial⟩ rfl rfl rfl)))
 have po:=Decidable.of_not_not hx
 have hE:R3 s x cnd nk=(Ax s x cnd).filter fun i=>!Ly s x.picks nk (x.rows.getD i.toNat []):=if_neg hx
 rw[hE]
 obtain⟨hr,hp,pA,nu⟩:=CE po
 rw[po]at h1
 have qI:=AY hp
 have nz:=(E9 hr).2.1
 have h2:=To s x po cnd
 have sc:=Wo s x cnd
 have h3:=VZ (Ax s x cnd) (by omega) 68 [.iptr [.sl 1 (nk.map wA)],.iptr (sL s),.iptr (Nl x)] rfl (fun i=>Ly s x.picks nk (x.rows.getD i.toNat [])) (fun i hi=>by
  obtain⟨k,r,rfl,hk⟩:=Wn hi
  have:=Ts s hr x k r hk (o5 (nu k r hk)) (by omega) nk
  rw[show ((k:Int)).toNat=k from rfl,D2 hk]
  exact this)
 obtain⟨pr,ver,picks,rows⟩:=x
 dsimp only at *
 rw[G0]at *
 generalize Ax s ⟨pr,ver,picks,rows⟩ cnd=H at *
 generalize (H.filter fun i=>!Ly s picks nk (rows.getD i.toNat []))=H2 at *
 clear nu hE hx sc hp
 refine a8 Tryz.func24 19 fun E h0=>?_
 repeat'((first|refine A1 h1 ?_|refine S8 [] [] h2 rfl rfl rfl rfl rfl trivial rfl rfl rfl rfl rfl ?_|refine nc [4] [0] h3 rfl rfl rfl ⟨rfl,trivial⟩ ?_ |refine S2 ?_|(refine T6 ?_ ?_<;>intro h<;>try exact V1 h)|intro el nX nY|intro el nX|exact T4|refine T5 ?_ ?_|intro ex|refine Yp 3 0 1 ?_)<;>try conv=>whnf)
 all_goals first
  |(exfalso;omega)
  |exact H7 (C2 (BC 0 4 h0 rfl rfl) (A6 h0))
theorem Va(s:A4)(x:H6)(hx:R2 s x=0)(l:List Int)(hl:l.length≤1000000)(hm:∀i∈l,∃(k:Nat) (r:List Int),i=k∧x.rows[k]?=some r)(c:Int):B8 Tryz.prog 49 0 [] [sA s,f4 x,.sl 1 (l.map wA),.i c] 1 [(0,some (.row 3 1 0 ((l.map (Jc s x c)).map wA)))] (.row 0 0 l.length):=by
 obtain⟨hr,hp,pA,nu⟩:=CE hx
 have qI:=AY hp
 have nz:=(E9 hr).2.1
 have h1:=Cb s c
 have h2:=fun (k:Nat) (r:List Int) (hk:x.rows[k]?=some r)=>Ck s hr x k r hk (o5 (nu k r hk)) (by omega) c (A8 s c)
 have hv:∀(k:Nat) (r:List Int),x.rows[k]?=some r→Jc s x c k=(V6 s c (A8 s c) (x.picks.zip r.tail)).1:=fun k r hk=>by unfold Jc;rw[show ((k:Int)).toNat=k from rfl,D2 hk]
 generalize Jc s x c=F at *
 clear nu hx hp
 obtain⟨pr,ver,picks,rows⟩:=x
 dsimp only at *
 refine a8 Tryz.func49 37 fun E h0=>?_
 repeat'((first|refine S2 ?_|(refine T6 ?_ ?_<;>intro h<;>try exact V1 h)|intro el nX nY|intro el nX|exact T4|refine T5 ?_ ?_|intro ex)<;>try conv=>whnf)
 all_goals first
  |(exfalso;omega)
  |skip
 refine B2 (ι:=Nat) (fun k=>⟨[(3,.i c),(4,.ref 0 0),(5,.ref 1 0),(9,.row 2 0 k),(14,.sl 1 (l.map wA)),(15,.i l.length),(16,.i k)],3,[(0,some (.box (sL s))),(1,some (.box [.str pr,.i ver,.sl 2 (picks.map B6),.sl 1 (rows.map G3)])),(2,some (.row 3 1 0 (((l.take k).map F).map wA)))]⟩)
  (fun k=>k≤l.length) (fun k=>l.length-k) 0 (Nat.zero_le _)
  (C2 (K7 (d:=9) (e:=3) (sz:=1) rfl) (B3 h0 rfl ⟨rfl,rfl,rfl,rfl,rfl,rfl,rfl,trivial⟩ ⟨rfl,rfl,⟨0,rfl⟩,trivial⟩ rfl rfl rfl)) (fun k hK=>?_)
 by_cases no:k<l.length
 ·obtain⟨i,hi⟩:∃i,l[k]?=some i:=⟨_,List.getElem?_eq_getElem no⟩
  obtain⟨q,r,rfl,hq⟩:=hm i (List.mem_of_getElem? hi)
  have oW:l[((k:Nat):Int).toNat]?=some (q:Int):=hi
  have hT:=h2 q r hq
  have nv:(l.take (k+1)).map F=(l.take k).map F++[F q]:=by rw[I0 hi,List.map_append];rfl
  rw[hv q r hq]at nv
  have vL:((l.take k).map F).length=k:=by rw[List.length_map,List.length_take];omega
  generalize (l.take k).map F=A at *
  generalize V6 s c (A8 s c) (picks.zip r.tail)=K at *
  obtain⟨v,ok⟩:=K
  dsimp only at *
  repeat'((first|(refine A2 (x:=(q:Int)) oW (by omega) ?_)|refine A1 h1 ?_|refine A1 hT ?_|(refine B5 ?_ ?_;kernel_rfl) |refine S2 ?_|(refine T6 ?_ ?_<;>intro h<;>try exact V1 h)|intro el nX nY|intro el nX|exact T4|refine T5 ?_ ?_|intro ex)<;>try conv=>whnf)
  all_goals first
   |(exfalso;omega)
   |exact⟨k+1,by omega,by omega,B3 h0 rfl ⟨rfl,rfl,rfl,rfl,rfl,rfl,rfl,trivial⟩ ⟨rfl,rfl,⟨_,congrArg (D3.row 3 1 _) (by rw[nv,List.map_append];rfl)⟩,trivial⟩ rfl rfl rfl⟩
 ·have he:l.take k=l:=List.take_of_length_le (by omega)
  have pK:k=l.length:=by omega
  rw[he]
  subst pK
  repeat'((first|refine S2 ?_|(refine T6 ?_ ?_<;>intro h<;>try exact V1 h)|intro el nX nY|intro el nX|exact T4|refine T5 ?_ ?_|intro ex)<;>try conv=>whnf)
  all_goals first
   |(exfalso;omega)
   |exact H7 (C2 (BC 0 2 h0 rfl rfl) (A6 h0))
end Go.Proofs.YtiphlhoclaogjaaGreatDoor

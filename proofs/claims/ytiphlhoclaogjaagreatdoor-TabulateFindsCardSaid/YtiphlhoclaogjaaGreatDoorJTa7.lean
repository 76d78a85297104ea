/- Chapter 18: which rows count, for measures: the program. -/
import Derived.Test.YtiphlhoclaogjaaGreatDoorJTa5
import Derived.Test.YtiphlhoclaogjaaGreatDoorJCd1
import Derived.Test.YtiphlhoclaogjaaGreatDoorJC3
set_option linter.unusedVariables false
set_option linter.unnecessarySimpa false
set_option linter.unusedSimpArgs false
set_option maxHeartbeats 64000000
namespace Go.Proofs.YtiphlhoclaogjaaGreatDoor
open Go Go.Av
attribute [local irreducible] C9 B3 C8 D1 DQ D0 C7 St.le A3 B8
set_option maxRecDepth 100000
theorem Og(l:List (Int))(f:Nat)(caps:List AV)(p:(Int)→Bool)(hf:∀x∈l,A3 Tryz.prog f ((fun x=>.i x) x::caps) (.b (p x))):A3 Tryz.prog 127 [.sl 1 (l.map wA),.fn f caps] (.i (D9 p l 0)):=by
 refine B5 Tryz.func127 19 fun nL E h0=>?_
 have nM:l.length≤9223372036854775807:=by have:=(nL (.sl 1 (l.map wA)) (by simp)).sl;simpa using this
 repeat'((first|refine S2 ?_|(refine T6 ?_ ?_<;>intro h<;>try exact V1 h)|intro el nJ nK|intro el nJ|exact T4|refine T5 ?_ ?_|intro ex)<;>try conv=>whnf)
 refine B0 (ι:=Nat) (fun k=>⟨[(0,.sl 1 (l.map wA)),(1,.fn f caps),(7,.i l.length),(8,.i k)],0,[]⟩) (fun k=>k≤l.length∧D9 p l 0=D9 p (l.drop k) k) (fun k=>l.length-k) 0 ⟨Nat.zero_le _,rfl⟩ (A6 h0) (fun k hI=>?_)
 obtain⟨hk,hI⟩:=hI
 repeat'((first|refine A0 (hf _ (List.mem_of_getElem? nJ)) ?_ |refine S2 ?_|(refine T6 ?_ ?_<;>intro h<;>try exact V1 h)|intro el nJ nK|intro el nJ|exact T4|refine T5 ?_ ?_|intro ex)<;>try conv=>whnf)
 all_goals first
  |exact⟨k+1,⟨by omega,by rw[hI,F7 nJ,D9,if_neg (by simp[h])];rfl⟩,by omega,A6 h0⟩
  |exact A1 rfl (congrArg AV.i (by rw[hI,F7 nJ,D9,if_pos (by simp[h])]))
  |exact A1 rfl (congrArg AV.i (by rw[hI,show k=l.length by omega,List.drop_length];rfl))
theorem Yt(l:List (Int))(f:Nat)(caps:List AV)(p:(Int)→Bool)(hf:∀x∈l,A3 Tryz.prog f ((fun x=>.i x) x::caps) (.b (p x))):A3 Tryz.prog 69 [.sl 1 (l.map wA),.fn f caps] (.b (l.any p)):=by
 refine B5 Tryz.func69 9 fun nL E h0=>?_
 have oZ:=Og l f caps p hf
 repeat'((first|refine A0 oZ ?_ |refine S2 ?_|(refine T6 ?_ ?_<;>intro h<;>try exact V1 h)|intro el nJ nK|intro el nJ|exact T4|refine T5 ?_ ?_|intro ex)<;>try conv=>whnf)
 all_goals first
  |exact A1 rfl (congrArg AV.b (Bf p l 0 (by omega)))
theorem US{α:Type}(p:α→Bool)(l:List α)(x:α):(l++[x]).filter p=l.filter p++(if p x=true then [x]else []):=by
 rw[List.filter_append];simp only[List.filter_cons,List.filter_nil]
theorem RL{α:Type}(p:α→Bool)(l:List α):(l.filter p).length≤l.length:=List.length_filter_le p l
theorem RM{α:Type}(p:α→Bool):∀(l:List α) (k j:Int),D9 p l k=j→0≤k→¬j=-1→∃n:Nat,j=k+n∧n<l.length∧(l.take n).filter (fun x=>!p x)=l.take n∧∃x,l[n]?=some x∧p x=true
 |[],k,j,h,hk,hj=>by simp[D9]at h;omega
 |x::r,k,j,h,hk,hj=>by
  unfold D9 at h
  by_cases hp:p x=true
  ·rw[if_pos hp]at h
   exact⟨0,by omega,by simp,by simp,x,rfl,hp⟩
  ·rw[if_neg hp]at h
   obtain⟨n,h1,h2,h3,y,h4,h5⟩:=RM p r (k+1) j h (by omega) hj
   refine⟨n+1,by omega,by simp;omega,?_,y,h4,h5⟩
   rw[List.take_succ_cons,List.filter_cons,h3]
   simp[hp]
theorem RN{α:Type}(p:α→Bool):∀(l:List α) (k:Int),D9 p l k=-1→0≤k→l.filter (fun x=>!p x)=l
 |[],k,h,hk=>rfl
 |x::r,k,h,hk=>by
  unfold D9 at h
  by_cases hp:p x=true
  ·rw[if_pos hp]at h;omega
  ·rw[if_neg hp]at h
   rw[List.filter_cons,RN p r (k+1) h (by omega)]
   simp[hp]
abbrev lH(l:List Int):Hp:=[(0,some (.row 3 1 0 (l.map wA)))]
theorem Vv(l:List Int)(nM:l.length≤1000000)(f:Nat)(caps:List AV)(ni:I8 caps=true)(p:Int→Bool)(hf:∀x∈l,A3 Tryz.prog f (.i x::caps) (.b (p x))):B8 Tryz.prog 66 1 (lH l) [.row 0 0 l.length,.fn f caps] 1 (lH (l.filter fun x=>!p x)) (.row 0 0 (l.filter fun x=>!p x).length):=by
 have oZ:=Og l f caps p hf
 have qW:=RN p l 0
 have qO:=fun j=>RM p l 0 j
 have qN:=Kq p l 0
 have oq:=US (fun x=>!p x)
 have oY:=RL (fun x=>!p x)
 generalize hj:D9 p l 0=j at *
 dsimp only[lH]
 by_cases tD:j=-1
 ·rw[qW tD (Int.le_refl _)]
  refine c9 Tryz.func66 42 fun E h0=>?_
  repeat'((first|(refine Nn [0] oZ rfl rfl rfl rfl rfl rfl ?_) |refine S2 ?_|(refine T6 ?_ ?_<;>intro h<;>try exact V1 h)|intro el nJ nK|intro el nJ|exact T4|refine T5 ?_ ?_|intro ex)<;>try conv=>whnf)
  all_goals first
   |(exfalso;omega)
   |exact H6 (A6 h0)
 obtain⟨n,h1,h2,h3,x0,h4,h5⟩:=qO j rfl (Int.le_refl _) tD
 have vu:=E9 h4
 refine c9 Tryz.func66 42 fun E h0=>?_
 repeat'((first|(refine Nn [0] oZ rfl rfl rfl rfl rfl rfl ?_) |refine S2 ?_|(refine T6 ?_ ?_<;>intro h<;>try exact V1 h)|intro el nJ nK|intro el nJ|exact T4|refine T5 ?_ ?_|intro ex)<;>try conv=>whnf)
 all_goals first
  |(exfalso;omega)
  |skip
 have hz:((l.take (n+1)).filter fun x=>!p x)=l.take n:=by
  rw[F1 h4,oq,h3,h5];simp
 refine B0 (ι:=Nat×List Int) (fun x=>⟨[(0,.row 0 0 l.length),(1,.fn f caps),(5,.i ((l.take x.1).filter fun x=>!p x).length),(6,.i x.1)],1,[(0,some (.row 3 1 0 (x.2.map wA)))]⟩)
  (fun x=>x.1≤l.length∧((l.take x.1).filter fun x=>!p x).length<x.1∧x.2.length=l.length∧x.2.take ((l.take x.1).filter fun x=>!p x).length=((l.take x.1).filter fun x=>!p x)∧x.2.drop x.1=l.drop x.1) (fun x=>l.length-x.1) (n+1,l) ⟨by dsimp only;omega,by dsimp only;rw[hz,List.length_take];omega,rfl,by dsimp only;rw[hz,List.length_take,Nat.min_eq_left (by omega)],rfl⟩
  (A7 h0 rfl ⟨rfl,rfl,congrArg (fun z:Int=>some (AV.i z)) (by dsimp only;rw[hz,List.length_take];omega),congrArg (fun z:Int=>some (AV.i z)) (by dsimp only;omega),trivial⟩ ⟨⟨_,rfl⟩,trivial⟩ rfl rfl rfl) (fun x hI=>?_)
 obtain⟨k,C⟩:=x
 obtain⟨i1,i2,i3,i4,i5⟩:=hI
 dsimp only at i1 i2 i3 i4 i5 ⊢
 clear hz
 by_cases nU:k<l.length
 ·obtain⟨v,hv⟩:∃v,l[k]?=some v:=⟨_,List.getElem?_eq_getElem nU⟩
  have hC:C[k]?=some v:=by
   have h6:=congrArg (fun z:List Int=>z[0]?) i5
   simp only[List.getElem?_drop,Nat.add_zero]at h6
   rw[h6,hv]
  have hC2:C[((k:Nat):Int).toNat]?=some v:=hC
  have yn:=hf v (List.mem_of_getElem? hv)
  have nS:=oq (l.take k) v
  rw[←F1 hv]at nS
  have vO:C.drop (k+1)=l.drop (k+1):=by
   rw[←List.drop_drop,←List.drop_drop,i5]
  generalize hA:(l.take k).filter (fun x=>!p x)=A at *
  cases hp:p v with
  |true =>
   rw[hp]at yn nS
   rw[if_neg (by decide),List.append_nil]at nS
   repeat'((first|(refine A2 (x:=v) hC2 (by omega) ?_)|refine A0 yn ?_ |refine S2 ?_|(refine T6 ?_ ?_<;>intro h<;>try exact V1 h)|intro el nJ nK|intro el nJ|exact T4|refine T5 ?_ ?_|intro ex)<;>try conv=>whnf)
   all_goals first
    |(exfalso;omega)
    |exact⟨(k+1,C),⟨by dsimp only;omega,by dsimp only;rw[nS];omega,i3,by dsimp only;rw[nS];exact i4,vO⟩,by dsimp only;omega,A7 h0 rfl ⟨rfl,rfl,congrArg (fun z:Int=>some (AV.i z)) (by dsimp only;rw[nS]),rfl,trivial⟩ ⟨⟨_,rfl⟩,trivial⟩ rfl rfl rfl⟩
  |false =>
   rw[hp]at yn nS
   rw[if_pos (by decide)]at nS
   have hAC:A.length<C.length:=by omega
   have oU:(C.map wA).set A.length [.i v]=(C.set A.length v).map wA:=by rw[List.map_set]
   repeat'((first|(refine A2 (x:=v) hC2 (by omega) ?_)|refine A0 yn ?_ |refine S2 ?_|(refine T6 ?_ ?_<;>intro h<;>try exact V1 h)|intro el nJ nK|intro el nJ|exact T4|refine T5 ?_ ?_|intro ex)<;>try conv=>whnf)
   all_goals first
    |(exfalso;omega)
    |exact⟨(k+1,C.set A.length v),⟨by dsimp only;omega,by dsimp only;rw[nS,List.length_append,List.length_singleton];omega,by dsimp only;rw[List.length_set];exact i3,by
      dsimp only
      rw[nS,List.length_append,List.length_singleton,List.take_add_one,List.getElem?_set_self hAC,List.take_set_of_le (Nat.le_refl _),i4];rfl,by
      dsimp only
      rw[List.drop_set_of_lt (by omega)];exact vO⟩,by dsimp only;omega,A7 h0 rfl ⟨rfl,rfl,congrArg (fun z:Int=>some (AV.i z)) (by dsimp only;rw[nS,List.length_append,List.length_singleton];omega),rfl,trivial⟩ ⟨⟨_,congrArg (C4.row 3 1 _) (by dsimp only;rw[←oU];rfl)⟩,trivial⟩ rfl rfl rfl⟩
 ·have he:l.take k=l:=List.take_of_length_le (by omega)
  rw[he]at i2 i4 ⊢
  generalize hA:l.filter (fun x=>!p x)=A at *
  have sk:A.length≤l.length:=by omega
  have hAt:((C.map wA).take A.length++List.replicate (l.length-A.length) [AV.v (Value.int .i64 0)]).take A.length=A.map wA:=by
   rw[List.take_append_of_le_length (by simp;omega),List.take_take,Nat.min_self,←List.map_take,i4]
  repeat'((first|(refine⟨Pr rfl rfl rfl rfl (by omega) (by omega) (by omega) rfl ?_⟩)|(refine Ys (z:=.int .i64 0) ⟨rfl,rfl⟩ (by kernel_rfl) rfl rfl (by simp;omega) rfl ?_) |refine S2 ?_|(refine T6 ?_ ?_<;>intro h<;>try exact V1 h)|intro el nJ nK|intro el nJ|exact T4|refine T5 ?_ ?_|intro ex)<;>try conv=>whnf)
  all_goals first
   |(exfalso;omega)
   |exact H6 (C0 (eV (d:=4) rfl rfl (by decide) (by decide)) (A7 h0 rfl ⟨rfl,trivial⟩ ⟨⟨_,congrArg (C4.row 3 1 _) hAt.symm⟩,trivial⟩ rfl rfl rfl))
def HE(s:A4)(picks:List Pk)(r:List Int)(c:Int):Bool:=!(N8 s c (B4 s c) (picks.zip r.tail)).2 || decide ((N8 s c (B4 s c) (picks.zip r.tail)).1=-1099511627776)
def HF(s:A4)(picks:List Pk)(nT:List Int)(r:List Int):Bool:=nT.any (HE s picks r)
def b7(s:A4)(x:J9)(cnd:B7)(nT:List Int):List Int:=if ¬L2 s x=0 then []else (EH s x cnd).filter fun i=>!HF s x.picks nT (x.rows.getD i.toNat [])
def KI(s:A4)(x:J9)(c:Int)(i:Int):Int:=(N8 s c (B4 s c) (x.picks.zip (x.rows.getD i.toNat []).tail)).1
theorem Yu{P:Program}{E:Env}{n:Nat}{ops:Array Oper}{rest:List Oper}{σ:St}{K:St→Prop}{o:Oper}{l:List AV}(i j k:Nat)(h:B3 P E n ops (o::rest) (((σ.frz i).frz j).frz k) K):l6 P E n ops o rest l σ K:=⟨Dx (C0 (Fq i) (C0 (Fq j) (Fq k))) h⟩
theorem UT(s:A4)(hr:C3 s=0)(x:J9)(k:Nat)(r:List Int)(hk:x.rows[k]?=some r)(hl:r.length=x.picks.length+1)(pk:x.picks.length≤1000)(c:Int):A3 Tryz.prog 70 [.i c,.iptr (sL s),.iptr (RF x),.iptr [.i k]] (.b (HE s x.picks r c)):=by
 have h1:=Db s c
 have h2:=Dh s hr x k r hk hl pk c (B4 s c)
 unfold HE
 generalize N8 s c (B4 s c) (x.picks.zip r.tail)=K at *
 obtain⟨v,ok⟩:=K
 obtain⟨pr,ver,picks,rows⟩:=x
 dsimp only at *
 refine B5 Tryz.func70 25 fun nL E h0=>?_
 clear nL
 cases ok
 ·repeat'((first|(refine A9 ?_ ?_;kernel_rfl)|refine A0 h1 ?_|refine A0 h2 ?_ |refine S2 ?_|(refine T6 ?_ ?_<;>intro h<;>try exact V1 h)|intro el nJ nK|intro el nJ|exact T4|refine T5 ?_ ?_|intro ex)<;>try conv=>whnf)
  all_goals first
   |exact A1 rfl rfl
 ·repeat'((first|(refine A9 ?_ ?_;kernel_rfl)|refine A0 h1 ?_|refine A0 h2 ?_ |refine S2 ?_|(refine T6 ?_ ?_<;>intro h<;>try exact V1 h)|intro el nJ nK|intro el nJ|exact T4|refine T5 ?_ ?_|intro ex)<;>try conv=>whnf)
  all_goals first
   |exact A1 rfl rfl
theorem UU(s:A4)(hr:C3 s=0)(x:J9)(k:Nat)(r:List Int)(hk:x.rows[k]?=some r)(hl:r.length=x.picks.length+1)(pk:x.picks.length≤1000)(nT:List Int):A3 Tryz.prog 68 [.i k,.iptr [.sl 1 (nT.map wA)],.iptr (sL s),.iptr (RF x)] (.b (HF s x.picks nT r)):=by
 have oV:=Yt nT 70 [.iptr (sL s),.iptr (RF x),.iptr [.i k]] (HE s x.picks r) (fun c _=>UT s hr x k r hk hl pk c)
 unfold HF
 obtain⟨pr,ver,picks,rows⟩:=x
 dsimp only at *
 generalize HE s picks r=B at *
 refine B5 Tryz.func68 9 fun nL E h0=>?_
 clear nL
 repeat'((first|refine A0 oV ?_|refine I6 0 ?_ |refine S2 ?_|(refine T6 ?_ ?_<;>intro h<;>try exact V1 h)|intro el nJ nK|intro el nJ|exact T4|refine T5 ?_ ?_|intro ex)<;>try conv=>whnf)
 all_goals first
  |exact A1 rfl rfl
theorem XF{s:A4}{x:J9}{cnd:B7}{i:Int}(h:i∈EH s x cnd):∃(k:Nat) (r:List Int),i=k∧x.rows[k]?=some r:=by
 unfold EH at h
 split at h
 ·obtain⟨j,h1,r,h2,_⟩:=KG h
  exact⟨j,r,by rw[h1,Nat.zero_add],h2⟩
 ·cases h
theorem XG(s:A4)(x:J9)(cnd:B7):(EH s x cnd).length≤x.rows.length:=by
 unfold EH
 split
 ·exact Gl _ _ _
 ·exact Nat.zero_le _
theorem HG(s:A4)(x:J9)(cnd:B7)(nT:List Int):B8 Tryz.prog 24 0 [] [sA s,X9 x,D5 cnd,.sl 1 (nT.map wA)] 1 [(0,some (.row 3 1 0 ((b7 s x cnd nT).map wA)))] (.row 0 0 (b7 s x cnd nT).length):=by
 have h1:=n6 s x
 by_cases hx:¬L2 s x=0
 ·have hE:b7 s x cnd nT=[]:=if_pos hx
  rw[hE]
  obtain⟨pr,ver,picks,rows⟩:=x
  rw[F8]at *
  refine c9 Tryz.func24 19 fun E h0=>?_
  repeat'((first|refine A0 h1 ?_ |refine S2 ?_|(refine T6 ?_ ?_<;>intro h<;>try exact V1 h)|intro el nJ nK|intro el nJ|exact T4|refine T5 ?_ ?_|intro ex)<;>try conv=>whnf)
  all_goals first
   |(exfalso;omega)
   |exact H6 (C0 (I0 (d:=8) (e:=3) (sz:=1) rfl) (C0 (CP 0 4 h0 rfl rfl) (A7 h0 rfl ⟨rfl,trivial⟩ ⟨⟨0,rfl⟩,trivial⟩ rfl rfl rfl)))
 have pY:=Decidable.of_not_not hx
 have hE:b7 s x cnd nT=(EH s x cnd).filter fun i=>!HF s x.picks nT (x.rows.getD i.toNat []):=if_neg hx
 rw[hE]
 obtain⟨hr,hp,oK,nV⟩:=v6 pY
 rw[pY]at h1
 have pk:=k9 hp
 have ni:=(D2 hr).2.1
 have h2:=UR s x pY cnd
 have sG:=XG s x cnd
 have h3:=Vv (EH s x cnd) (by omega) 68 [.iptr [.sl 1 (nT.map wA)],.iptr (sL s),.iptr (RF x)] rfl (fun i=>HF s x.picks nT (x.rows.getD i.toNat [])) (fun i hi=>by
  obtain⟨k,r,rfl,hk⟩:=XF hi
  have:=UU s hr x k r hk (O7 (nV k r hk)) (by omega) nT
  rw[show ((k:Int)).toNat=k from rfl,D7 hk]
  exact this)
 obtain⟨pr,ver,picks,rows⟩:=x
 dsimp only at *
 rw[F8]at *
 generalize EH s ⟨pr,ver,picks,rows⟩ cnd=H at *
 generalize (H.filter fun i=>!HF s picks nT (rows.getD i.toNat []))=H2 at *
 clear nV hE hx sG hp
 refine c9 Tryz.func24 19 fun E h0=>?_
 repeat'((first|refine A0 h1 ?_|refine l4 [] [] h2 rfl rfl rfl rfl rfl trivial rfl rfl rfl rfl rfl ?_|refine nc [4] [0] h3 rfl rfl rfl ⟨rfl,trivial⟩ ?_ |refine S2 ?_|(refine T6 ?_ ?_<;>intro h<;>try exact V1 h)|intro el nJ nK|intro el nJ|exact T4|refine T5 ?_ ?_|intro ex|refine Yu 3 0 1 ?_)<;>try conv=>whnf)
 all_goals first
  |(exfalso;omega)
  |exact H6 (C0 (CP 0 4 h0 rfl rfl) (A6 h0))
theorem Vw(s:A4)(x:J9)(hx:L2 s x=0)(l:List Int)(hl:l.length≤1000000)(hm:∀i∈l,∃(k:Nat) (r:List Int),i=k∧x.rows[k]?=some r)(c:Int):B8 Tryz.prog 49 0 [] [sA s,X9 x,.sl 1 (l.map wA),.i c] 1 [(0,some (.row 3 1 0 ((l.map (KI s x c)).map wA)))] (.row 0 0 l.length):=by
 obtain⟨hr,hp,oK,nV⟩:=v6 hx
 have pk:=k9 hp
 have ni:=(D2 hr).2.1
 have h1:=Db s c
 have h2:=fun (k:Nat) (r:List Int) (hk:x.rows[k]?=some r)=>Dh s hr x k r hk (O7 (nV k r hk)) (by omega) c (B4 s c)
 have hv:∀(k:Nat) (r:List Int),x.rows[k]?=some r→KI s x c k=(N8 s c (B4 s c) (x.picks.zip r.tail)).1:=fun k r hk=>by unfold KI;rw[show ((k:Int)).toNat=k from rfl,D7 hk]
 generalize KI s x c=F at *
 clear nV hx hp
 obtain⟨pr,ver,picks,rows⟩:=x
 dsimp only at *
 refine c9 Tryz.func49 37 fun E h0=>?_
 repeat'((first|refine S2 ?_|(refine T6 ?_ ?_<;>intro h<;>try exact V1 h)|intro el nJ nK|intro el nJ|exact T4|refine T5 ?_ ?_|intro ex)<;>try conv=>whnf)
 all_goals first
  |(exfalso;omega)
  |skip
 refine B0 (ι:=Nat) (fun k=>⟨[(3,.i c),(4,.ref 0 0),(5,.ref 1 0),(9,.row 2 0 k),(14,.sl 1 (l.map wA)),(15,.i l.length),(16,.i k)],3,[(0,some (.box (sL s))),(1,some (.box [.str pr,.i ver,.sl 2 (picks.map A8),.sl 1 (rows.map D4)])),(2,some (.row 3 1 0 (((l.take k).map F).map wA)))]⟩)
  (fun k=>k≤l.length) (fun k=>l.length-k) 0 (Nat.zero_le _)
  (C0 (I0 (d:=9) (e:=3) (sz:=1) rfl) (A7 h0 rfl ⟨rfl,rfl,rfl,rfl,rfl,rfl,rfl,trivial⟩ ⟨rfl,rfl,⟨0,rfl⟩,trivial⟩ rfl rfl rfl)) (fun k hK=>?_)
 by_cases nU:k<l.length
 ·obtain⟨i,hi⟩:∃i,l[k]?=some i:=⟨_,List.getElem?_eq_getElem nU⟩
  obtain⟨q,r,rfl,hq⟩:=hm i (List.mem_of_getElem? hi)
  have oI:l[((k:Nat):Int).toNat]?=some (q:Int):=hi
  have hT:=h2 q r hq
  have nS:(l.take (k+1)).map F=(l.take k).map F++[F q]:=by rw[F1 hi,List.map_append];rfl
  rw[hv q r hq]at nS
  have uN:((l.take k).map F).length=k:=by rw[List.length_map,List.length_take];omega
  generalize (l.take k).map F=A at *
  generalize N8 s c (B4 s c) (picks.zip r.tail)=K at *
  obtain⟨v,ok⟩:=K
  dsimp only at *
  repeat'((first|(refine A2 (x:=(q:Int)) oI (by omega) ?_)|refine A0 h1 ?_|refine A0 hT ?_|(refine A9 ?_ ?_;kernel_rfl) |refine S2 ?_|(refine T6 ?_ ?_<;>intro h<;>try exact V1 h)|intro el nJ nK|intro el nJ|exact T4|refine T5 ?_ ?_|intro ex)<;>try conv=>whnf)
  all_goals first
   |(exfalso;omega)
   |exact⟨k+1,by omega,by omega,A7 h0 rfl ⟨rfl,rfl,rfl,rfl,rfl,rfl,rfl,trivial⟩ ⟨rfl,rfl,⟨_,congrArg (C4.row 3 1 _) (by rw[nS,List.map_append];rfl)⟩,trivial⟩ rfl rfl rfl⟩
 ·have he:l.take k=l:=List.take_of_length_le (by omega)
  have oS:k=l.length:=by omega
  rw[he]
  subst oS
  repeat'((first|refine S2 ?_|(refine T6 ?_ ?_<;>intro h<;>try exact V1 h)|intro el nJ nK|intro el nJ|exact T4|refine T5 ?_ ?_|intro ex)<;>try conv=>whnf)
  all_goals first
   |(exfalso;omega)
   |exact H6 (C0 (CP 0 2 h0 rfl rfl) (A6 h0))
end Go.Proofs.YtiphlhoclaogjaaGreatDoor

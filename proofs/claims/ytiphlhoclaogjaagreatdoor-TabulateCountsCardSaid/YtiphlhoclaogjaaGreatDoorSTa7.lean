/- Chapter 18: which rows count, for measures: the program. -/
import Derived.Test.YtiphlhoclaogjaaGreatDoorSTa5
import Derived.Test.YtiphlhoclaogjaaGreatDoorSB8
import Derived.Test.YtiphlhoclaogjaaGreatDoorSC3
set_option linter.unusedVariables false
set_option linter.unnecessarySimpa false
set_option linter.unusedSimpArgs false
set_option maxHeartbeats 64000000
namespace Go.Proofs.YtiphlhoclaogjaaGreatDoor
open Go Go.Av
attribute [local irreducible] C7 B2 D3 C9 DQ D0 C8 St.le A3 B9
set_option maxRecDepth 100000
theorem Nu(l:List (Int))(f:Nat)(caps:List AV)(p:(Int)→Bool)(hf:∀x∈l,A3 Tryz.prog f ((fun x=>.i x) x::caps) (.b (p x))):A3 Tryz.prog 127 [.sl 1 (l.map wA),.fn f caps] (.i (F4 p l 0)):=by
 refine B6 Tryz.func127 19 fun lW E h0=>?_
 have lX:l.length≤9223372036854775807:=by have:=(lW (.sl 1 (l.map wA)) (by simp)).sl;simpa using this
 repeat'((first|refine S2 ?_|(refine T6 ?_ ?_<;>intro h<;>try exact V1 h)|intro el lU lV|intro el lU|exact T4|refine T5 ?_ ?_|intro ex)<;>try conv=>whnf)
 refine B0 (ι:=Nat) (fun k=>⟨[(0,.sl 1 (l.map wA)),(1,.fn f caps),(7,.i l.length),(8,.i k)],0,[]⟩) (fun k=>k≤l.length∧F4 p l 0=F4 p (l.drop k) k) (fun k=>l.length-k) 0 ⟨Nat.zero_le _,rfl⟩ (A6 h0) (fun k hI=>?_)
 obtain⟨hk,hI⟩:=hI
 repeat'((first|refine A1 (hf _ (List.mem_of_getElem? lU)) ?_ |refine S2 ?_|(refine T6 ?_ ?_<;>intro h<;>try exact V1 h)|intro el lU lV|intro el lU|exact T4|refine T5 ?_ ?_|intro ex)<;>try conv=>whnf)
 all_goals first
  |exact⟨k+1,⟨by omega,by rw[hI,G3 lU,F4,if_neg (by simp[h])];rfl⟩,by omega,A6 h0⟩
  |exact A0 rfl (congrArg AV.i (by rw[hI,G3 lU,F4,if_pos (by simp[h])]))
  |exact A0 rfl (congrArg AV.i (by rw[hI,show k=l.length by omega,List.drop_length];rfl))
theorem YD(l:List (Int))(f:Nat)(caps:List AV)(p:(Int)→Bool)(hf:∀x∈l,A3 Tryz.prog f ((fun x=>.i x) x::caps) (.b (p x))):A3 Tryz.prog 69 [.sl 1 (l.map wA),.fn f caps] (.b (l.any p)):=by
 refine B6 Tryz.func69 9 fun lW E h0=>?_
 have mh:=Nu l f caps p hf
 repeat'((first|refine A1 mh ?_ |refine S2 ?_|(refine T6 ?_ ?_<;>intro h<;>try exact V1 h)|intro el lU lV|intro el lU|exact T4|refine T5 ?_ ?_|intro ex)<;>try conv=>whnf)
 all_goals first
  |exact A0 rfl (congrArg AV.b (CJ p l 0 (by omega)))
theorem Ta{α:Type}(p:α→Bool)(l:List α)(x:α):(l++[x]).filter p=l.filter p++(if p x=true then [x]else []):=by
 rw[List.filter_append];simp only[List.filter_cons,List.filter_nil]
theorem QU{α:Type}(p:α→Bool)(l:List α):(l.filter p).length≤l.length:=List.length_filter_le p l
theorem QV{α:Type}(p:α→Bool):∀(l:List α) (k j:Int),F4 p l k=j→0≤k→¬j=-1→∃n:Nat,j=k+n∧n<l.length∧(l.take n).filter (fun x=>!p x)=l.take n∧∃x,l[n]?=some x∧p x=true
 |[],k,j,h,hk,hj=>by simp[F4]at h;omega
 |x::r,k,j,h,hk,hj=>by
  unfold F4 at h
  by_cases hp:p x=true
  ·rw[if_pos hp]at h
   exact⟨0,by omega,by simp,by simp,x,rfl,hp⟩
  ·rw[if_neg hp]at h
   obtain⟨n,h1,h2,h3,y,h4,h5⟩:=QV p r (k+1) j h (by omega) hj
   refine⟨n+1,by omega,by simp;omega,?_,y,h4,h5⟩
   rw[List.take_succ_cons,List.filter_cons,h3]
   simp[hp]
theorem QX{α:Type}(p:α→Bool):∀(l:List α) (k:Int),F4 p l k=-1→0≤k→l.filter (fun x=>!p x)=l
 |[],k,h,hk=>rfl
 |x::r,k,h,hk=>by
  unfold F4 at h
  by_cases hp:p x=true
  ·rw[if_pos hp]at h;omega
  ·rw[if_neg hp]at h
   rw[List.filter_cons,QX p r (k+1) h (by omega)]
   simp[hp]
abbrev jY(l:List Int):Hp:=[(0,some (.row 3 1 0 (l.map wA)))]
theorem VD(l:List Int)(lX:l.length≤1000000)(f:Nat)(caps:List AV)(ly:I8 caps=true)(p:Int→Bool)(hf:∀x∈l,A3 Tryz.prog f (.i x::caps) (.b (p x))):B9 Tryz.prog 66 1 (jY l) [.row 0 0 l.length,.fn f caps] 1 (jY (l.filter fun x=>!p x)) (.row 0 0 (l.filter fun x=>!p x).length):=by
 have mh:=Nu l f caps p hf
 have oS:=QX p l 0
 have oN:=fun j=>QV p l 0 j
 have oM:=Ob p l 0
 have mu:=Ta (fun x=>!p x)
 have nB:=QU (fun x=>!p x)
 generalize hj:F4 p l 0=j at *
 dsimp only[jY]
 by_cases ql:j=-1
 ·rw[oS ql (Int.le_refl _)]
  refine V9 Tryz.func66 42 fun E h0=>?_
  repeat'((first|(refine My [0] mh rfl rfl rfl rfl rfl rfl ?_) |refine S2 ?_|(refine T6 ?_ ?_<;>intro h<;>try exact V1 h)|intro el lU lV|intro el lU|exact T4|refine T5 ?_ ?_|intro ex)<;>try conv=>whnf)
  all_goals first
   |(exfalso;omega)
   |exact H4 (A6 h0)
 obtain⟨n,h1,h2,h3,x0,h4,h5⟩:=oN j rfl (Int.le_refl _) ql
 have uQ:=F5 h4
 refine V9 Tryz.func66 42 fun E h0=>?_
 repeat'((first|(refine My [0] mh rfl rfl rfl rfl rfl rfl ?_) |refine S2 ?_|(refine T6 ?_ ?_<;>intro h<;>try exact V1 h)|intro el lU lV|intro el lU|exact T4|refine T5 ?_ ?_|intro ex)<;>try conv=>whnf)
 all_goals first
  |(exfalso;omega)
  |skip
 have hz:((l.take (n+1)).filter fun x=>!p x)=l.take n:=by
  rw[H6 h4,mu,h3,h5];simp
 refine B0 (ι:=Nat×List Int) (fun x=>⟨[(0,.row 0 0 l.length),(1,.fn f caps),(5,.i ((l.take x.1).filter fun x=>!p x).length),(6,.i x.1)],1,[(0,some (.row 3 1 0 (x.2.map wA)))]⟩)
  (fun x=>x.1≤l.length∧((l.take x.1).filter fun x=>!p x).length<x.1∧x.2.length=l.length∧x.2.take ((l.take x.1).filter fun x=>!p x).length=((l.take x.1).filter fun x=>!p x)∧x.2.drop x.1=l.drop x.1) (fun x=>l.length-x.1) (n+1,l) ⟨by dsimp only;omega,by dsimp only;rw[hz,List.length_take];omega,rfl,by dsimp only;rw[hz,List.length_take,Nat.min_eq_left (by omega)],rfl⟩
  (A9 h0 rfl ⟨rfl,rfl,congrArg (fun z:Int=>some (AV.i z)) (by dsimp only;rw[hz,List.length_take];omega),congrArg (fun z:Int=>some (AV.i z)) (by dsimp only;omega),trivial⟩ ⟨⟨_,rfl⟩,trivial⟩ rfl rfl rfl) (fun x hI=>?_)
 obtain⟨k,C⟩:=x
 obtain⟨i1,i2,i3,i4,i5⟩:=hI
 dsimp only at i1 i2 i3 i4 i5 ⊢
 clear hz
 by_cases lk:k<l.length
 ·obtain⟨v,hv⟩:∃v,l[k]?=some v:=⟨_,List.getElem?_eq_getElem lk⟩
  have hC:C[k]?=some v:=by
   have h6:=congrArg (fun z:List Int=>z[0]?) i5
   simp only[List.getElem?_drop,Nat.add_zero]at h6
   rw[h6,hv]
  have yk:C[((k:Nat):Int).toNat]?=some v:=hC
  have wO:=hf v (List.mem_of_getElem? hv)
  have lh:=mu (l.take k) v
  rw[←H6 hv]at lh
  have yq:C.drop (k+1)=l.drop (k+1):=by
   rw[←List.drop_drop,←List.drop_drop,i5]
  generalize hA:(l.take k).filter (fun x=>!p x)=A at *
  cases hp:p v with
  |true =>
   rw[hp]at wO lh
   rw[if_neg (by decide),List.append_nil]at lh
   repeat'((first|(refine A2 (x:=v) yk (by omega) ?_)|refine A1 wO ?_ |refine S2 ?_|(refine T6 ?_ ?_<;>intro h<;>try exact V1 h)|intro el lU lV|intro el lU|exact T4|refine T5 ?_ ?_|intro ex)<;>try conv=>whnf)
   all_goals first
    |(exfalso;omega)
    |exact⟨(k+1,C),⟨by dsimp only;omega,by dsimp only;rw[lh];omega,i3,by dsimp only;rw[lh];exact i4,yq⟩,by dsimp only;omega,A9 h0 rfl ⟨rfl,rfl,congrArg (fun z:Int=>some (AV.i z)) (by dsimp only;rw[lh]),rfl,trivial⟩ ⟨⟨_,rfl⟩,trivial⟩ rfl rfl rfl⟩
  |false =>
   rw[hp]at wO lh
   rw[if_pos (by decide)]at lh
   have hAC:A.length<C.length:=by omega
   have mc:(C.map wA).set A.length [.i v]=(C.set A.length v).map wA:=by rw[List.map_set]
   repeat'((first|(refine A2 (x:=v) yk (by omega) ?_)|refine A1 wO ?_ |refine S2 ?_|(refine T6 ?_ ?_<;>intro h<;>try exact V1 h)|intro el lU lV|intro el lU|exact T4|refine T5 ?_ ?_|intro ex)<;>try conv=>whnf)
   all_goals first
    |(exfalso;omega)
    |exact⟨(k+1,C.set A.length v),⟨by dsimp only;omega,by dsimp only;rw[lh,List.length_append,List.length_singleton];omega,by dsimp only;rw[List.length_set];exact i3,by
      dsimp only
      rw[lh,List.length_append,List.length_singleton,List.take_add_one,List.getElem?_set_self hAC,List.take_set_of_le (Nat.le_refl _),i4];rfl,by
      dsimp only
      rw[List.drop_set_of_lt (by omega)];exact yq⟩,by dsimp only;omega,A9 h0 rfl ⟨rfl,rfl,congrArg (fun z:Int=>some (AV.i z)) (by dsimp only;rw[lh,List.length_append,List.length_singleton];omega),rfl,trivial⟩ ⟨⟨_,congrArg (C6.row 3 1 _) (by dsimp only;rw[←mc];rfl)⟩,trivial⟩ rfl rfl rfl⟩
 ·have he:l.take k=l:=List.take_of_length_le (by omega)
  rw[he]at i2 i4 ⊢
  generalize hA:l.filter (fun x=>!p x)=A at *
  have rj:A.length≤l.length:=by omega
  have hAt:((C.map wA).take A.length++List.replicate (l.length-A.length) [AV.v (Value.int .i64 0)]).take A.length=A.map wA:=by
   rw[List.take_append_of_le_length (by simp;omega),List.take_take,Nat.min_self,←List.map_take,i4]
  repeat'((first|(refine⟨Oz rfl rfl rfl rfl (by omega) (by omega) (by omega) rfl ?_⟩)|(refine YC (z:=.int .i64 0) ⟨rfl,rfl⟩ (by kernel_rfl) rfl rfl (by simp;omega) rfl ?_) |refine S2 ?_|(refine T6 ?_ ?_<;>intro h<;>try exact V1 h)|intro el lU lV|intro el lU|exact T4|refine T5 ?_ ?_|intro ex)<;>try conv=>whnf)
  all_goals first
   |(exfalso;omega)
   |exact H4 (B5 (dN (d:=4) rfl rfl (by decide) (by decide)) (A9 h0 rfl ⟨rfl,trivial⟩ ⟨⟨_,congrArg (C6.row 3 1 _) hAt.symm⟩,trivial⟩ rfl rfl rfl))
def GU(s:A4)(picks:List Pk)(r:List Int)(c:Int):Bool:=!(Q0 s c (B7 s c) (picks.zip r.tail)).2 || decide ((Q0 s c (B7 s c) (picks.zip r.tail)).1=-1099511627776)
def GV(s:A4)(picks:List Pk)(ld:List Int)(r:List Int):Bool:=ld.any (GU s picks r)
def X8(s:A4)(x:N5)(cnd:B1)(ld:List Int):List Int:=if ¬P6 s x=0 then []else (Dh s x cnd).filter fun i=>!GV s x.picks ld (x.rows.getD i.toNat [])
def Lw(s:A4)(x:N5)(c:Int)(i:Int):Int:=(Q0 s c (B7 s c) (x.picks.zip (x.rows.getD i.toNat []).tail)).1
theorem YE{P:Program}{E:Env}{n:Nat}{ops:Array Oper}{rest:List Oper}{σ:St}{K:St→Prop}{o:Oper}{l:List AV}(i j k:Nat)(h:B2 P E n ops (o::rest) (((σ.frz i).frz j).frz k) K):b7 P E n ops o rest l σ K:=⟨En (B5 (Gg i) (B5 (Gg j) (Gg k))) h⟩
theorem Tb(s:A4)(hr:C3 s=0)(x:N5)(k:Nat)(r:List Int)(hk:x.rows[k]?=some r)(hl:r.length=x.picks.length+1)(nY:x.picks.length≤1000)(c:Int):A3 Tryz.prog 70 [.i c,.iptr (sL s),.iptr (Fx x),.iptr [.i k]] (.b (GU s x.picks r c)):=by
 have h1:=Cy s c
 have h2:=DF s hr x k r hk hl nY c (B7 s c)
 unfold GU
 generalize Q0 s c (B7 s c) (x.picks.zip r.tail)=K at *
 obtain⟨v,ok⟩:=K
 obtain⟨pr,ver,picks,rows⟩:=x
 dsimp only at *
 refine B6 Tryz.func70 25 fun lW E h0=>?_
 clear lW
 cases ok
 ·repeat'((first|(refine B3 ?_ ?_;kernel_rfl)|refine A1 h1 ?_|refine A1 h2 ?_ |refine S2 ?_|(refine T6 ?_ ?_<;>intro h<;>try exact V1 h)|intro el lU lV|intro el lU|exact T4|refine T5 ?_ ?_|intro ex)<;>try conv=>whnf)
  all_goals first
   |exact A0 rfl rfl
 ·repeat'((first|(refine B3 ?_ ?_;kernel_rfl)|refine A1 h1 ?_|refine A1 h2 ?_ |refine S2 ?_|(refine T6 ?_ ?_<;>intro h<;>try exact V1 h)|intro el lU lV|intro el lU|exact T4|refine T5 ?_ ?_|intro ex)<;>try conv=>whnf)
  all_goals first
   |exact A0 rfl rfl
theorem Tc(s:A4)(hr:C3 s=0)(x:N5)(k:Nat)(r:List Int)(hk:x.rows[k]?=some r)(hl:r.length=x.picks.length+1)(nY:x.picks.length≤1000)(ld:List Int):A3 Tryz.prog 68 [.i k,.iptr [.sl 1 (ld.map wA)],.iptr (sL s),.iptr (Fx x)] (.b (GV s x.picks ld r)):=by
 have me:=YD ld 70 [.iptr (sL s),.iptr (Fx x),.iptr [.i k]] (GU s x.picks r) (fun c _=>Tb s hr x k r hk hl nY c)
 unfold GV
 obtain⟨pr,ver,picks,rows⟩:=x
 dsimp only at *
 generalize GU s picks r=B at *
 refine B6 Tryz.func68 9 fun lW E h0=>?_
 clear lW
 repeat'((first|refine A1 me ?_|refine J1 0 ?_ |refine S2 ?_|(refine T6 ?_ ?_<;>intro h<;>try exact V1 h)|intro el lU lV|intro el lU|exact T4|refine T5 ?_ ?_|intro ex)<;>try conv=>whnf)
 all_goals first
  |exact A0 rfl rfl
theorem WP{s:A4}{x:N5}{cnd:B1}{i:Int}(h:i∈Dh s x cnd):∃(k:Nat) (r:List Int),i=k∧x.rows[k]?=some r:=by
 unfold Dh at h
 split at h
 ·obtain⟨j,h1,r,h2,_⟩:=JZ h
  exact⟨j,r,by rw[h1,Nat.zero_add],h2⟩
 ·cases h
theorem WQ(s:A4)(x:N5)(cnd:B1):(Dh s x cnd).length≤x.rows.length:=by
 unfold Dh
 split
 ·exact GC _ _ _
 ·exact Nat.zero_le _
theorem GW(s:A4)(x:N5)(cnd:B1)(ld:List Int):B9 Tryz.prog 24 0 [] [sA s,c9 x,E0 cnd,.sl 1 (ld.map wA)] 1 [(0,some (.row 3 1 0 ((X8 s x cnd ld).map wA)))] (.row 0 0 (X8 s x cnd ld).length):=by
 have h1:=e8 s x
 by_cases hx:¬P6 s x=0
 ·have hE:X8 s x cnd ld=[]:=if_pos hx
  rw[hE]
  obtain⟨pr,ver,picks,rows⟩:=x
  rw[F7]at *
  refine V9 Tryz.func24 19 fun E h0=>?_
  repeat'((first|refine A1 h1 ?_ |refine S2 ?_|(refine T6 ?_ ?_<;>intro h<;>try exact V1 h)|intro el lU lV|intro el lU|exact T4|refine T5 ?_ ?_|intro ex)<;>try conv=>whnf)
  all_goals first
   |(exfalso;omega)
   |exact H4 (B5 (I9 (d:=8) (e:=3) (sz:=1) rfl) (B5 (BC 0 4 h0 rfl rfl) (A9 h0 rfl ⟨rfl,trivial⟩ ⟨⟨0,rfl⟩,trivial⟩ rfl rfl rfl)))
 have nf:=Decidable.of_not_not hx
 have hE:X8 s x cnd ld=(Dh s x cnd).filter fun i=>!GV s x.picks ld (x.rows.getD i.toNat []):=if_neg hx
 rw[hE]
 obtain⟨hr,hp,mf,ll⟩:=BN nf
 rw[nf]at h1
 have nY:=AA hp
 have ly:=(D5 hr).2.1
 have h2:=TZ s x nf cnd
 have qu:=WQ s x cnd
 have h3:=VD (Dh s x cnd) (by omega) 68 [.iptr [.sl 1 (ld.map wA)],.iptr (sL s),.iptr (Fx x)] rfl (fun i=>GV s x.picks ld (x.rows.getD i.toNat [])) (fun i hi=>by
  obtain⟨k,r,rfl,hk⟩:=WP hi
  have:=Tc s hr x k r hk (V4 (ll k r hk)) (by omega) ld
  rw[show ((k:Int)).toNat=k from rfl,E4 hk]
  exact this)
 obtain⟨pr,ver,picks,rows⟩:=x
 dsimp only at *
 rw[F7]at *
 generalize Dh s ⟨pr,ver,picks,rows⟩ cnd=H at *
 generalize (H.filter fun i=>!GV s picks ld (rows.getD i.toNat []))=H2 at *
 clear ll hE hx qu hp
 refine V9 Tryz.func24 19 fun E h0=>?_
 repeat'((first|refine A1 h1 ?_|refine b5 [] [] h2 rfl rfl rfl rfl rfl trivial rfl rfl rfl rfl rfl ?_|refine nc [4] [0] h3 rfl rfl rfl ⟨rfl,trivial⟩ ?_ |refine S2 ?_|(refine T6 ?_ ?_<;>intro h<;>try exact V1 h)|intro el lU lV|intro el lU|exact T4|refine T5 ?_ ?_|intro ex|refine YE 3 0 1 ?_)<;>try conv=>whnf)
 all_goals first
  |(exfalso;omega)
  |exact H4 (B5 (BC 0 4 h0 rfl rfl) (A6 h0))
theorem VE(s:A4)(x:N5)(hx:P6 s x=0)(l:List Int)(hl:l.length≤1000000)(hm:∀i∈l,∃(k:Nat) (r:List Int),i=k∧x.rows[k]?=some r)(c:Int):B9 Tryz.prog 49 0 [] [sA s,c9 x,.sl 1 (l.map wA),.i c] 1 [(0,some (.row 3 1 0 ((l.map (Lw s x c)).map wA)))] (.row 0 0 l.length):=by
 obtain⟨hr,hp,mf,ll⟩:=BN hx
 have nY:=AA hp
 have ly:=(D5 hr).2.1
 have h1:=Cy s c
 have h2:=fun (k:Nat) (r:List Int) (hk:x.rows[k]?=some r)=>DF s hr x k r hk (V4 (ll k r hk)) (by omega) c (B7 s c)
 have hv:∀(k:Nat) (r:List Int),x.rows[k]?=some r→Lw s x c k=(Q0 s c (B7 s c) (x.picks.zip r.tail)).1:=fun k r hk=>by unfold Lw;rw[show ((k:Int)).toNat=k from rfl,E4 hk]
 generalize Lw s x c=F at *
 clear ll hx hp
 obtain⟨pr,ver,picks,rows⟩:=x
 dsimp only at *
 refine V9 Tryz.func49 37 fun E h0=>?_
 repeat'((first|refine S2 ?_|(refine T6 ?_ ?_<;>intro h<;>try exact V1 h)|intro el lU lV|intro el lU|exact T4|refine T5 ?_ ?_|intro ex)<;>try conv=>whnf)
 all_goals first
  |(exfalso;omega)
  |skip
 refine B0 (ι:=Nat) (fun k=>⟨[(3,.i c),(4,.ref 0 0),(5,.ref 1 0),(9,.row 2 0 k),(14,.sl 1 (l.map wA)),(15,.i l.length),(16,.i k)],3,[(0,some (.box (sL s))),(1,some (.box [.str pr,.i ver,.sl 2 (picks.map B4),.sl 1 (rows.map F8)])),(2,some (.row 3 1 0 (((l.take k).map F).map wA)))]⟩)
  (fun k=>k≤l.length) (fun k=>l.length-k) 0 (Nat.zero_le _)
  (B5 (I9 (d:=9) (e:=3) (sz:=1) rfl) (A9 h0 rfl ⟨rfl,rfl,rfl,rfl,rfl,rfl,rfl,trivial⟩ ⟨rfl,rfl,⟨0,rfl⟩,trivial⟩ rfl rfl rfl)) (fun k hK=>?_)
 by_cases lk:k<l.length
 ·obtain⟨i,hi⟩:∃i,l[k]?=some i:=⟨_,List.getElem?_eq_getElem lk⟩
  obtain⟨q,r,rfl,hq⟩:=hm i (List.mem_of_getElem? hi)
  have mr:l[((k:Nat):Int).toNat]?=some (q:Int):=hi
  have hT:=h2 q r hq
  have lh:(l.take (k+1)).map F=(l.take k).map F++[F q]:=by rw[H6 hi,List.map_append];rfl
  rw[hv q r hq]at lh
  have ru:((l.take k).map F).length=k:=by rw[List.length_map,List.length_take];omega
  generalize (l.take k).map F=A at *
  generalize Q0 s c (B7 s c) (picks.zip r.tail)=K at *
  obtain⟨v,ok⟩:=K
  dsimp only at *
  repeat'((first|(refine A2 (x:=(q:Int)) mr (by omega) ?_)|refine A1 h1 ?_|refine A1 hT ?_|(refine B3 ?_ ?_;kernel_rfl) |refine S2 ?_|(refine T6 ?_ ?_<;>intro h<;>try exact V1 h)|intro el lU lV|intro el lU|exact T4|refine T5 ?_ ?_|intro ex)<;>try conv=>whnf)
  all_goals first
   |(exfalso;omega)
   |exact⟨k+1,by omega,by omega,A9 h0 rfl ⟨rfl,rfl,rfl,rfl,rfl,rfl,rfl,trivial⟩ ⟨rfl,rfl,⟨_,congrArg (C6.row 3 1 _) (by rw[lh,List.map_append];rfl)⟩,trivial⟩ rfl rfl rfl⟩
 ·have he:l.take k=l:=List.take_of_length_le (by omega)
  have nH:k=l.length:=by omega
  rw[he]
  subst nH
  repeat'((first|refine S2 ?_|(refine T6 ?_ ?_<;>intro h<;>try exact V1 h)|intro el lU lV|intro el lU|exact T4|refine T5 ?_ ?_|intro ex)<;>try conv=>whnf)
  all_goals first
   |(exfalso;omega)
   |exact H4 (B5 (BC 0 2 h0 rfl rfl) (A6 h0))
end Go.Proofs.YtiphlhoclaogjaaGreatDoor

/- Chapter 18: which rows count, for measures: the program. -/
import Derived.Test.YtjkbhaaobhgkdabGreatDoorRTa5
import Derived.Test.YtjkbhaaobhgkdabGreatDoorRB8
import Derived.Test.YtjkbhaaobhgkdabGreatDoorRC3
set_option linter.unusedVariables false
set_option linter.unnecessarySimpa false
set_option linter.unusedSimpArgs false
set_option maxHeartbeats 64000000
namespace Go.Proofs.YtjkbhaaobhgkdabGreatDoor
open Go Go.Av
attribute [local irreducible] D0 B0 D2 C7 DQ D1 C8 St.le A3 B6
set_option maxRecDepth 100000
theorem Nx(l:List (Int))(f:Nat)(caps:List AV)(p:(Int)→Bool)(hf:∀x∈l,A3 Tryz.prog f ((fun x=>.i x) x::caps) (.b (p x))):A3 Tryz.prog 110 [.sl 1 (l.map wA),.fn f caps] (.i (E6 p l 0)):=by
 refine C0 Tryz.func110 19 fun nQ E h0=>?_
 have nO:l.length≤9223372036854775807:=by have:=(nQ (.sl 1 (l.map wA)) (by simp)).sl;simpa using this
 repeat'((first|refine S2 ?_|(refine T6 ?_ ?_<;>intro h<;>try exact V1 h)|intro el nN nP|intro el nN|exact T4|refine T5 ?_ ?_|intro ex)<;>try conv=>whnf)
 refine B2 (ι:=Nat) (fun k=>⟨[(0,.sl 1 (l.map wA)),(1,.fn f caps),(7,.i l.length),(8,.i k)],0,[]⟩) (fun k=>k≤l.length∧E6 p l 0=E6 p (l.drop k) k) (fun k=>l.length-k) 0 ⟨Nat.zero_le _,rfl⟩ (A6 h0) (fun k hI=>?_)
 obtain⟨hk,hI⟩:=hI
 repeat'((first|refine A1 (hf _ (List.mem_of_getElem? nN)) ?_ |refine S2 ?_|(refine T6 ?_ ?_<;>intro h<;>try exact V1 h)|intro el nN nP|intro el nN|exact T4|refine T5 ?_ ?_|intro ex)<;>try conv=>whnf)
 all_goals first
  |exact⟨k+1,⟨by omega,by rw[hI,G6 nN,E6,if_neg (by simp[h])];rfl⟩,by omega,A6 h0⟩
  |exact A0 rfl (congrArg AV.i (by rw[hI,G6 nN,E6,if_pos (by simp[h])]))
  |exact A0 rfl (congrArg AV.i (by rw[hI,show k=l.length by omega,List.drop_length];rfl))
theorem Yh(l:List (Int))(f:Nat)(caps:List AV)(p:(Int)→Bool)(hf:∀x∈l,A3 Tryz.prog f ((fun x=>.i x) x::caps) (.b (p x))):A3 Tryz.prog 66 [.sl 1 (l.map wA),.fn f caps] (.b (l.any p)):=by
 refine C0 Tryz.func66 9 fun nQ E h0=>?_
 have oV:=Nx l f caps p hf
 repeat'((first|refine A1 oV ?_ |refine S2 ?_|(refine T6 ?_ ?_<;>intro h<;>try exact V1 h)|intro el nN nP|intro el nN|exact T4|refine T5 ?_ ?_|intro ex)<;>try conv=>whnf)
 all_goals first
  |exact A0 rfl (congrArg AV.b (Bt p l 0 (by omega)))
theorem Tn{α:Type}(p:α→Bool)(l:List α)(x:α):(l++[x]).filter p=l.filter p++(if p x=true then [x]else []):=by
 rw[List.filter_append];simp only[List.filter_cons,List.filter_nil]
theorem Qc{α:Type}(p:α→Bool)(l:List α):(l.filter p).length≤l.length:=List.length_filter_le p l
theorem Qd{α:Type}(p:α→Bool):∀(l:List α) (k j:Int),E6 p l k=j→0≤k→¬j=-1→∃n:Nat,j=k+n∧n<l.length∧(l.take n).filter (fun x=>!p x)=l.take n∧∃x,l[n]?=some x∧p x=true
 |[],k,j,h,hk,hj=>by simp[E6]at h;omega
 |x::r,k,j,h,hk,hj=>by
  unfold E6 at h
  by_cases hp:p x=true
  ·rw[if_pos hp]at h
   exact⟨0,by omega,by simp,by simp,x,rfl,hp⟩
  ·rw[if_neg hp]at h
   obtain⟨n,h1,h2,h3,y,h4,h5⟩:=Qd p r (k+1) j h (by omega) hj
   refine⟨n+1,by omega,by simp;omega,?_,y,h4,h5⟩
   rw[List.take_succ_cons,List.filter_cons,h3]
   simp[hp]
theorem Qe{α:Type}(p:α→Bool):∀(l:List α) (k:Int),E6 p l k=-1→0≤k→l.filter (fun x=>!p x)=l
 |[],k,h,hk=>rfl
 |x::r,k,h,hk=>by
  unfold E6 at h
  by_cases hp:p x=true
  ·rw[if_pos hp]at h;omega
  ·rw[if_neg hp]at h
   rw[List.filter_cons,Qe p r (k+1) h (by omega)]
   simp[hp]
abbrev kz(l:List Int):Hp:=[(0,some (.row 3 1 0 (l.map wA)))]
theorem VY(l:List Int)(nO:l.length≤1000000)(f:Nat)(caps:List AV)(nl:I1 caps=true)(p:Int→Bool)(hf:∀x∈l,A3 Tryz.prog f (.i x::caps) (.b (p x))):B6 Tryz.prog 63 1 (kz l) [.row 0 0 l.length,.fn f caps] 1 (kz (l.filter fun x=>!p x)) (.row 0 0 (l.filter fun x=>!p x).length):=by
 have oV:=Nx l f caps p hf
 have qK:=Qe p l 0
 have qF:=fun j=>Qd p l 0 j
 have px:=KR p l 0
 have oy:=Tn (fun x=>!p x)
 have pF:=Qc (fun x=>!p x)
 generalize hj:E6 p l 0=j at *
 dsimp only[kz]
 by_cases sY:j=-1
 ·rw[qK sY (Int.le_refl _)]
  refine X6 Tryz.func63 42 fun E h0=>?_
  repeat'((first|(refine NI [0] oV rfl rfl rfl rfl rfl rfl ?_) |refine S2 ?_|(refine T6 ?_ ?_<;>intro h<;>try exact V1 h)|intro el nN nP|intro el nN|exact T4|refine T5 ?_ ?_|intro ex)<;>try conv=>whnf)
  all_goals first
   |(exfalso;omega)
   |exact G9 (A6 h0)
 obtain⟨n,h1,h2,h3,x0,h4,h5⟩:=qF j rfl (Int.le_refl _) sY
 have uE:=D6 h4
 refine X6 Tryz.func63 42 fun E h0=>?_
 repeat'((first|(refine NI [0] oV rfl rfl rfl rfl rfl rfl ?_) |refine S2 ?_|(refine T6 ?_ ?_<;>intro h<;>try exact V1 h)|intro el nN nP|intro el nN|exact T4|refine T5 ?_ ?_|intro ex)<;>try conv=>whnf)
 all_goals first
  |(exfalso;omega)
  |skip
 have hz:((l.take (n+1)).filter fun x=>!p x)=l.take n:=by
  rw[I3 h4,oy,h3,h5];simp
 refine B2 (ι:=Nat×List Int) (fun x=>⟨[(0,.row 0 0 l.length),(1,.fn f caps),(5,.i ((l.take x.1).filter fun x=>!p x).length),(6,.i x.1)],1,[(0,some (.row 3 1 0 (x.2.map wA)))]⟩)
  (fun x=>x.1≤l.length∧((l.take x.1).filter fun x=>!p x).length<x.1∧x.2.length=l.length∧x.2.take ((l.take x.1).filter fun x=>!p x).length=((l.take x.1).filter fun x=>!p x)∧x.2.drop x.1=l.drop x.1) (fun x=>l.length-x.1) (n+1,l) ⟨by dsimp only;omega,by dsimp only;rw[hz,List.length_take];omega,rfl,by dsimp only;rw[hz,List.length_take,Nat.min_eq_left (by omega)],rfl⟩
  (A8 h0 rfl ⟨rfl,rfl,congrArg (fun z:Int=>some (AV.i z)) (by dsimp only;rw[hz,List.length_take];omega),congrArg (fun z:Int=>some (AV.i z)) (by dsimp only;omega),trivial⟩ ⟨⟨_,rfl⟩,trivial⟩ rfl rfl rfl) (fun x hI=>?_)
 obtain⟨k,C⟩:=x
 obtain⟨i1,i2,i3,i4,i5⟩:=hI
 dsimp only at i1 i2 i3 i4 i5 ⊢
 clear hz
 by_cases nZ:k<l.length
 ·obtain⟨v,hv⟩:∃v,l[k]?=some v:=⟨_,List.getElem?_eq_getElem nZ⟩
  have hC:C[k]?=some v:=by
   have h6:=congrArg (fun z:List Int=>z[0]?) i5
   simp only[List.getElem?_drop,Nat.add_zero]at h6
   rw[h6,hv]
  have hC2:C[((k:Nat):Int).toNat]?=some v:=hC
  have yF:=hf v (List.mem_of_getElem? hv)
  have nj:=oy (l.take k) v
  rw[←I3 hv]at nj
  have hd5:C.drop (k+1)=l.drop (k+1):=by
   rw[←List.drop_drop,←List.drop_drop,i5]
  generalize hA:(l.take k).filter (fun x=>!p x)=A at *
  cases hp:p v with
  |true =>
   rw[hp]at yF nj
   rw[if_neg (by decide),List.append_nil]at nj
   repeat'((first|(refine A2 (x:=v) hC2 (by omega) ?_)|refine A1 yF ?_ |refine S2 ?_|(refine T6 ?_ ?_<;>intro h<;>try exact V1 h)|intro el nN nP|intro el nN|exact T4|refine T5 ?_ ?_|intro ex)<;>try conv=>whnf)
   all_goals first
    |(exfalso;omega)
    |exact⟨(k+1,C),⟨by dsimp only;omega,by dsimp only;rw[nj];omega,i3,by dsimp only;rw[nj];exact i4,hd5⟩,by dsimp only;omega,A8 h0 rfl ⟨rfl,rfl,congrArg (fun z:Int=>some (AV.i z)) (by dsimp only;rw[nj]),rfl,trivial⟩ ⟨⟨_,rfl⟩,trivial⟩ rfl rfl rfl⟩
  |false =>
   rw[hp]at yF nj
   rw[if_pos (by decide)]at nj
   have hAC:A.length<C.length:=by omega
   have oQ:(C.map wA).set A.length [.i v]=(C.set A.length v).map wA:=by rw[List.map_set]
   repeat'((first|(refine A2 (x:=v) hC2 (by omega) ?_)|refine A1 yF ?_ |refine S2 ?_|(refine T6 ?_ ?_<;>intro h<;>try exact V1 h)|intro el nN nP|intro el nN|exact T4|refine T5 ?_ ?_|intro ex)<;>try conv=>whnf)
   all_goals first
    |(exfalso;omega)
    |exact⟨(k+1,C.set A.length v),⟨by dsimp only;omega,by dsimp only;rw[nj,List.length_append,List.length_singleton];omega,by dsimp only;rw[List.length_set];exact i3,by
      dsimp only
      rw[nj,List.length_append,List.length_singleton,List.take_add_one,List.getElem?_set_self hAC,List.take_set_of_le (Nat.le_refl _),i4];rfl,by
      dsimp only
      rw[List.drop_set_of_lt (by omega)];exact hd5⟩,by dsimp only;omega,A8 h0 rfl ⟨rfl,rfl,congrArg (fun z:Int=>some (AV.i z)) (by dsimp only;rw[nj,List.length_append,List.length_singleton];omega),rfl,trivial⟩ ⟨⟨_,congrArg (C9.row 3 1 _) (by dsimp only;rw[←oQ];rfl)⟩,trivial⟩ rfl rfl rfl⟩
 ·have he:l.take k=l:=List.take_of_length_le (by omega)
  rw[he]at i2 i4 ⊢
  generalize hA:l.filter (fun x=>!p x)=A at *
  have si:A.length≤l.length:=by omega
  have hAt:((C.map wA).take A.length++List.replicate (l.length-A.length) [AV.v (Value.int .i64 0)]).take A.length=A.map wA:=by
   rw[List.take_append_of_le_length (by simp;omega),List.take_take,Nat.min_self,←List.map_take,i4]
  repeat'((first|(refine⟨PE rfl rfl rfl rfl (by omega) (by omega) (by omega) rfl ?_⟩)|(refine Yg (z:=.int .i64 0) ⟨rfl,rfl⟩ (by kernel_rfl) rfl rfl (by simp;omega) rfl ?_) |refine S2 ?_|(refine T6 ?_ ?_<;>intro h<;>try exact V1 h)|intro el nN nP|intro el nN|exact T4|refine T5 ?_ ?_|intro ex)<;>try conv=>whnf)
  all_goals first
   |(exfalso;omega)
   |exact G9 (C2 (eP (d:=4) rfl rfl (by decide) (by decide)) (A8 h0 rfl ⟨rfl,trivial⟩ ⟨⟨_,congrArg (C9.row 3 1 _) hAt.symm⟩,trivial⟩ rfl rfl rfl))
def To(s:A4)(picks:List Pk)(r:List Int)(c:Int):Bool:=!(U2 s c (B9 s c) (picks.zip r.tail)).2 || decide ((U2 s c (B9 s c) (picks.zip r.tail)).1=-1099511627776)
def PG(s:A4)(picks:List Pk)(nW:List Int)(r:List Int):Bool:=nW.any (To s picks r)
def u7(s:A4)(x:K3)(cnd:B1)(nW:List Int):List Int:=if ¬V4 s x=0 then []else (EQ s x cnd).filter fun i=>!PG s x.picks nW (x.rows.getD i.toNat [])
def Ji(s:A4)(x:K3)(c:Int)(i:Int):Int:=(U2 s c (B9 s c) (x.picks.zip (x.rows.getD i.toNat []).tail)).1
theorem Yi{P:Program}{E:Env}{n:Nat}{ops:Array Oper}{rest:List Oper}{σ:St}{K:St→Prop}{o:Oper}{l:List AV}(i j k:Nat)(h:B0 P E n ops (o::rest) (((σ.frz i).frz j).frz k) K):Z7 P E n ops o rest l σ K:=⟨Ex (C2 (Gk i) (C2 (Gk j) (Gk k))) h⟩
theorem Tp(s:A4)(hr:C5 s=0)(x:K3)(k:Nat)(r:List Int)(hk:x.rows[k]?=some r)(hl:r.length=x.picks.length+1)(qA:x.picks.length≤1000)(c:Int):A3 Tryz.prog 67 [.i c,.iptr (sL s),.iptr (QX x),.iptr [.i k]] (.b (To s x.picks r c)):=by
 have h1:=Co s c
 have h2:=Cy s hr x k r hk hl qA c (B9 s c)
 unfold To
 generalize U2 s c (B9 s c) (x.picks.zip r.tail)=K at *
 obtain⟨v,ok⟩:=K
 obtain⟨pr,ver,picks,rows⟩:=x
 dsimp only at *
 refine C0 Tryz.func67 25 fun nQ E h0=>?_
 clear nQ
 cases ok
 ·repeat'((first|(refine B8 ?_ ?_;kernel_rfl)|refine A1 h1 ?_|refine A1 h2 ?_ |refine S2 ?_|(refine T6 ?_ ?_<;>intro h<;>try exact V1 h)|intro el nN nP|intro el nN|exact T4|refine T5 ?_ ?_|intro ex)<;>try conv=>whnf)
  all_goals first
   |exact A0 rfl rfl
 ·repeat'((first|(refine B8 ?_ ?_;kernel_rfl)|refine A1 h1 ?_|refine A1 h2 ?_ |refine S2 ?_|(refine T6 ?_ ?_<;>intro h<;>try exact V1 h)|intro el nN nP|intro el nN|exact T4|refine T5 ?_ ?_|intro ex)<;>try conv=>whnf)
  all_goals first
   |exact A0 rfl rfl
theorem Tq(s:A4)(hr:C5 s=0)(x:K3)(k:Nat)(r:List Int)(hk:x.rows[k]?=some r)(hl:r.length=x.picks.length+1)(qA:x.picks.length≤1000)(nW:List Int):A3 Tryz.prog 65 [.i k,.iptr [.sl 1 (nW.map wA)],.iptr (sL s),.iptr (QX x)] (.b (PG s x.picks nW r)):=by
 have oJ:=Yh nW 67 [.iptr (sL s),.iptr (QX x),.iptr [.i k]] (To s x.picks r) (fun c _=>Tp s hr x k r hk hl qA c)
 unfold PG
 obtain⟨pr,ver,picks,rows⟩:=x
 dsimp only at *
 generalize To s picks r=B at *
 refine C0 Tryz.func65 9 fun nQ E h0=>?_
 clear nQ
 repeat'((first|refine A1 oJ ?_|refine I6 0 ?_ |refine S2 ?_|(refine T6 ?_ ?_<;>intro h<;>try exact V1 h)|intro el nN nP|intro el nN|exact T4|refine T5 ?_ ?_|intro ex)<;>try conv=>whnf)
 all_goals first
  |exact A0 rfl rfl
theorem Wo{s:A4}{x:K3}{cnd:B1}{i:Int}(h:i∈EQ s x cnd):∃(k:Nat) (r:List Int),i=k∧x.rows[k]?=some r:=by
 unfold EQ at h
 split at h
 ·obtain⟨j,h1,r,h2,_⟩:=Jh h
  exact⟨j,r,by rw[h1,Nat.zero_add],h2⟩
 ·cases h
theorem Wp(s:A4)(x:K3)(cnd:B1):(EQ s x cnd).length≤x.rows.length:=by
 unfold EQ
 split
 ·exact Jg _ _ _
 ·exact Nat.zero_le _
theorem Gb(s:A4)(x:K3)(cnd:B1)(nW:List Int):B6 Tryz.prog 25 0 [] [sA s,BP x,E7 cnd,.sl 1 (nW.map wA)] 1 [(0,some (.row 3 1 0 ((u7 s x cnd nW).map wA)))] (.row 0 0 (u7 s x cnd nW).length):=by
 have h1:=a8 s x
 by_cases hx:¬V4 s x=0
 ·have hE:u7 s x cnd nW=[]:=if_pos hx
  rw[hE]
  obtain⟨pr,ver,picks,rows⟩:=x
  rw[F8]at *
  refine X6 Tryz.func25 19 fun E h0=>?_
  repeat'((first|refine A1 h1 ?_ |refine S2 ?_|(refine T6 ?_ ?_<;>intro h<;>try exact V1 h)|intro el nN nP|intro el nN|exact T4|refine T5 ?_ ?_|intro ex)<;>try conv=>whnf)
  all_goals first
   |(exfalso;omega)
   |exact G9 (C2 (K4 (d:=8) (e:=3) (sz:=1) rfl) (C2 (BZ 0 4 h0 rfl rfl) (A8 h0 rfl ⟨rfl,trivial⟩ ⟨⟨0,rfl⟩,trivial⟩ rfl rfl rfl)))
 have pb:=Decidable.of_not_not hx
 have hE:u7 s x cnd nW=(EQ s x cnd).filter fun i=>!PG s x.picks nW (x.rows.getD i.toNat []):=if_neg hx
 rw[hE]
 obtain⟨hr,hp,od,nd⟩:=EG pb
 rw[pb]at h1
 have qA:=CU hp
 have nl:=(F2 hr).2.1
 have h2:=Tm s x pb cnd
 have qc:=Wp s x cnd
 have h3:=VY (EQ s x cnd) (by omega) 65 [.iptr [.sl 1 (nW.map wA)],.iptr (sL s),.iptr (QX x)] rfl (fun i=>PG s x.picks nW (x.rows.getD i.toNat [])) (fun i hi=>by
  obtain⟨k,r,rfl,hk⟩:=Wo hi
  have:=Tq s hr x k r hk (y5 (nd k r hk)) (by omega) nW
  rw[show ((k:Int)).toNat=k from rfl,D3 hk]
  exact this)
 obtain⟨pr,ver,picks,rows⟩:=x
 dsimp only at *
 rw[F8]at *
 generalize EQ s ⟨pr,ver,picks,rows⟩ cnd=H at *
 generalize (H.filter fun i=>!PG s picks nW (rows.getD i.toNat []))=H2 at *
 clear nd hE hx qc hp
 refine X6 Tryz.func25 19 fun E h0=>?_
 repeat'((first|refine A1 h1 ?_|refine Y9 [] [] h2 rfl rfl rfl rfl rfl trivial rfl rfl rfl rfl rfl ?_|refine nc [4] [0] h3 rfl rfl rfl ⟨rfl,trivial⟩ ?_ |refine S2 ?_|(refine T6 ?_ ?_<;>intro h<;>try exact V1 h)|intro el nN nP|intro el nN|exact T4|refine T5 ?_ ?_|intro ex|refine Yi 3 0 1 ?_)<;>try conv=>whnf)
 all_goals first
  |(exfalso;omega)
  |exact G9 (C2 (BZ 0 4 h0 rfl rfl) (A6 h0))
theorem VZ(s:A4)(x:K3)(hx:V4 s x=0)(l:List Int)(hl:l.length≤1000000)(hm:∀i∈l,∃(k:Nat) (r:List Int),i=k∧x.rows[k]?=some r)(c:Int):B6 Tryz.prog 26 0 [] [sA s,BP x,.sl 1 (l.map wA),.i c] 1 [(0,some (.row 3 1 0 ((l.map (Ji s x c)).map wA)))] (.row 0 0 l.length):=by
 obtain⟨hr,hp,od,nd⟩:=EG hx
 have qA:=CU hp
 have nl:=(F2 hr).2.1
 have h1:=Co s c
 have h2:=fun (k:Nat) (r:List Int) (hk:x.rows[k]?=some r)=>Cy s hr x k r hk (y5 (nd k r hk)) (by omega) c (B9 s c)
 have hv:∀(k:Nat) (r:List Int),x.rows[k]?=some r→Ji s x c k=(U2 s c (B9 s c) (x.picks.zip r.tail)).1:=fun k r hk=>by unfold Ji;rw[show ((k:Int)).toNat=k from rfl,D3 hk]
 generalize Ji s x c=F at *
 clear nd hx hp
 obtain⟨pr,ver,picks,rows⟩:=x
 dsimp only at *
 refine X6 Tryz.func26 37 fun E h0=>?_
 repeat'((first|refine S2 ?_|(refine T6 ?_ ?_<;>intro h<;>try exact V1 h)|intro el nN nP|intro el nN|exact T4|refine T5 ?_ ?_|intro ex)<;>try conv=>whnf)
 all_goals first
  |(exfalso;omega)
  |skip
 refine B2 (ι:=Nat) (fun k=>⟨[(3,.i c),(4,.ref 0 0),(5,.ref 1 0),(9,.row 2 0 k),(14,.sl 1 (l.map wA)),(15,.i l.length),(16,.i k)],3,[(0,some (.box (sL s))),(1,some (.box [.str pr,.i ver,.sl 2 (picks.map B5),.sl 1 (rows.map H1)])),(2,some (.row 3 1 0 (((l.take k).map F).map wA)))]⟩)
  (fun k=>k≤l.length) (fun k=>l.length-k) 0 (Nat.zero_le _)
  (C2 (K4 (d:=9) (e:=3) (sz:=1) rfl) (A8 h0 rfl ⟨rfl,rfl,rfl,rfl,rfl,rfl,rfl,trivial⟩ ⟨rfl,rfl,⟨0,rfl⟩,trivial⟩ rfl rfl rfl)) (fun k hK=>?_)
 by_cases nZ:k<l.length
 ·obtain⟨i,hi⟩:∃i,l[k]?=some i:=⟨_,List.getElem?_eq_getElem nZ⟩
  obtain⟨q,r,rfl,hq⟩:=hm i (List.mem_of_getElem? hi)
  have oS:l[((k:Nat):Int).toNat]?=some (q:Int):=hi
  have hT:=h2 q r hq
  have nj:(l.take (k+1)).map F=(l.take k).map F++[F q]:=by rw[I3 hi,List.map_append];rfl
  rw[hv q r hq]at nj
  have uY:((l.take k).map F).length=k:=by rw[List.length_map,List.length_take];omega
  generalize (l.take k).map F=A at *
  generalize U2 s c (B9 s c) (picks.zip r.tail)=K at *
  obtain⟨v,ok⟩:=K
  dsimp only at *
  repeat'((first|(refine A2 (x:=(q:Int)) oS (by omega) ?_)|refine A1 h1 ?_|refine A1 hT ?_|(refine B8 ?_ ?_;kernel_rfl) |refine S2 ?_|(refine T6 ?_ ?_<;>intro h<;>try exact V1 h)|intro el nN nP|intro el nN|exact T4|refine T5 ?_ ?_|intro ex)<;>try conv=>whnf)
  all_goals first
   |(exfalso;omega)
   |exact⟨k+1,by omega,by omega,A8 h0 rfl ⟨rfl,rfl,rfl,rfl,rfl,rfl,rfl,trivial⟩ ⟨rfl,rfl,⟨_,congrArg (C9.row 3 1 _) (by rw[nj,List.map_append];rfl)⟩,trivial⟩ rfl rfl rfl⟩
 ·have he:l.take k=l:=List.take_of_length_le (by omega)
  have ou:k=l.length:=by omega
  rw[he]
  subst ou
  repeat'((first|refine S2 ?_|(refine T6 ?_ ?_<;>intro h<;>try exact V1 h)|intro el nN nP|intro el nN|exact T4|refine T5 ?_ ?_|intro ex)<;>try conv=>whnf)
  all_goals first
   |(exfalso;omega)
   |exact G9 (C2 (BZ 0 2 h0 rfl rfl) (A6 h0))
end Go.Proofs.YtjkbhaaobhgkdabGreatDoor

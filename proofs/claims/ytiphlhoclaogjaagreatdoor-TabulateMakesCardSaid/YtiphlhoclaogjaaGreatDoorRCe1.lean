/- Chapter 18: the program's tables: one cell, and those around some codes. -/
import Derived.Test.YtiphlhoclaogjaaGreatDoorRAvJ
import Derived.Test.YtiphlhoclaogjaaGreatDoorRAvH
import Derived.Test.YtiphlhoclaogjaaGreatDoorRB7
import Derived.Test.YtiphlhoclaogjaaGreatDoorRTa5
import Derived.Test.YtiphlhoclaogjaaGreatDoorRB4
import Derived.Test.YtiphlhoclaogjaaGreatDoorRTa1
import Derived.Test.YtiphlhoclaogjaaGreatDoorRC1
set_option linter.unusedVariables false
set_option linter.unnecessarySimpa false
set_option linter.unusedSimpArgs false
set_option maxHeartbeats 64000000
namespace Go.Proofs.YtiphlhoclaogjaaGreatDoor
open Go Go.Av
attribute [local irreducible] C9 B3 C7 D1 DQ D0 C6 St.le A3 B7
set_option maxRecDepth 100000
structure G8 where
 codes:List Int
 cnt:Int
 sum:Int
 amo:Int
 fst:Int
 snd:Int
 rows:List Int
abbrev R8:Nat:=72
abbrev mE:Nat:=3
abbrev N0(c:G8):List AV:=[.sl 1 (c.codes.map wA),.i c.cnt,.i c.sum,.i c.amo,.i c.fst,.i c.snd,.own mE 1 (c.rows.map wA)]
abbrev U5(c:G8):List AV:=[.sl 1 (c.codes.map wA),.i c.cnt,.i c.sum,.i c.amo,.i c.fst,.i c.snd,.sl 1 (c.rows.map wA)]
def N2(key v:Int)(m:Bool)(c:G8):G8 :=
 if m=false then { c with cnt:=c.cnt+1,rows:=c.rows++[key] }
 else if c.fst<max v (-v)then { c with cnt:=c.cnt+1,rows:=c.rows++[key],sum:=c.sum+v,amo:=c.amo+max v (-v),fst:=max v (-v),snd:=c.fst }
 else if c.snd<max v (-v)then { c with cnt:=c.cnt+1,rows:=c.rows++[key],sum:=c.sum+v,amo:=c.amo+max v (-v),snd:=max v (-v) }
 else { c with cnt:=c.cnt+1,rows:=c.rows++[key],sum:=c.sum+v,amo:=c.amo+max v (-v) }
structure Oq(c:G8):Prop where
 cnt:0≤c.cnt∧c.cnt≤1000
 sum:-1000000000000000≤c.sum∧c.sum≤1000000000000000
 amo:0≤c.amo∧c.amo≤1000000000000000
 rows:c.rows.length≤1000
abbrev DE(l:List (List AV)):Hp:=[(0,some (.row (U1+R8) 7 0 l))]
theorem Eb{α:Type}{l:List α}{k:Nat}{x:α}(h:l[k]?=some x):k<l.length:=(List.getElem?_eq_some_iff.1 h).1
theorem kD(l:List (List AV))(k:Nat)(c:G8)(hk:l[k]?=some (N0 c))(hc:Oq c)(key v:Int):B7 Tryz.prog 52 1 (DE l) [.elt 0 0 k 0,.i key,.i v,.b false] 1 (DE (l.set k (N0 (N2 key v false c)))) (.tup []):=by
 have mT:=Eb hk
 obtain⟨h1,h2,h3,h4⟩:=hc
 have mW:l[((k:Nat):Int).toNat]?=some (N0 c):=by rw[Int.toNat_natCast];exact hk
 obtain⟨codes,cnt,sum,amo,fst,snd,rows⟩:=c
 dsimp only at h1 h2 h3 h4
 have md:N2 key v false ⟨codes,cnt,sum,amo,fst,snd,rows⟩=⟨codes,cnt+1,sum,amo,fst,snd,rows++[key]⟩:=rfl
 rw[md]
 dsimp only[DE]
 refine Y6 Tryz.func52 77 fun E h0=>?_
 repeat'((first|(refine Fp (i:=0) (List.getElem?_set_self (by first|exact mT|(simp only[List.length_set];exact mT))) rfl rfl rfl rfl rfl ?_)|(refine Fq (i:=0) (List.getElem?_set_self (by first|exact mT|(simp only[List.length_set];exact mT))) rfl rfl rfl rfl rfl rfl rfl rfl rfl ?_)|refine fH ?_ |refine S2 ?_|(refine T6 ?_ ?_<;>intro h<;>try exact V1 h)|intro el mI mJ|intro el mI|exact T4|refine T5 ?_ ?_|intro ex)<;>try conv=>whnf)
 all_goals first
  |(exfalso;omega)
  |(exfalso;dsimp only at *;omega)
  |(delta C6;exact .inl ⟨[],[],rfl,trivial,rfl,rfl,A7 h0 rfl trivial ⟨⟨_,congrArg (C4.row (U1+R8) 7 _) (by simp only[List.set_set,N0,List.map_append];rfl)⟩,trivial⟩ rfl rfl rfl,rfl⟩)
theorem lN(l:List (List AV))(k:Nat)(c:G8)(hk:l[k]?=some (N0 c))(hc:Oq c)(key v:Int)(hv:-1099511627776≤v∧v≤1099511627776)(ha:c.fst<max v (-v)):B7 Tryz.prog 52 1 (DE l) [.elt 0 0 k 0,.i key,.i v,.b true] 1 (DE (l.set k (N0 (N2 key v true c)))) (.tup []):=by
 have mT:=Eb hk
 obtain⟨h1,h2,h3,h4⟩:=hc
 have mW:l[((k:Nat):Int).toNat]?=some (N0 c):=by rw[Int.toNat_natCast];exact hk
 obtain⟨codes,cnt,sum,amo,fst,snd,rows⟩:=c
 dsimp only at h1 h2 h3 h4 ha
 have md:N2 key v true ⟨codes,cnt,sum,amo,fst,snd,rows⟩=⟨codes,cnt+1,sum+v,amo+max v (-v),max v (-v),fst,rows++[key]⟩:=by
  unfold N2
  rw[if_neg (by decide),if_pos ha]
 rw[md]
 have tJ:max v (-v)≤1099511627776∧0≤max v (-v):=by omega
 dsimp only[DE]
 refine Y6 Tryz.func52 77 fun E h0=>?_
 repeat'((first|(refine Fp (i:=0) (List.getElem?_set_self (by first|exact mT|(simp only[List.length_set];exact mT))) rfl rfl rfl rfl rfl ?_)|(refine Fq (i:=0) (List.getElem?_set_self (by first|exact mT|(simp only[List.length_set];exact mT))) rfl rfl rfl rfl rfl rfl rfl rfl rfl ?_)|refine fH ?_ |refine S2 ?_|(refine T6 ?_ ?_<;>intro h<;>try exact V1 h)|intro el mI mJ|intro el mI|exact T4|refine T5 ?_ ?_|intro ex)<;>try conv=>whnf)
 all_goals first
  |(exfalso;omega)
  |(exfalso;dsimp only at *;omega)
  |(delta C6;exact .inl ⟨[],[],rfl,trivial,rfl,rfl,A7 h0 rfl trivial ⟨⟨_,congrArg (C4.row (U1+R8) 7 _) (by simp only[List.set_set,N0,List.map_append];rfl)⟩,trivial⟩ rfl rfl rfl,rfl⟩)
theorem lO(l:List (List AV))(k:Nat)(c:G8)(hk:l[k]?=some (N0 c))(hc:Oq c)(key v:Int)(hv:-1099511627776≤v∧v≤1099511627776)(ha:¬c.fst<max v (-v))(hb:c.snd<max v (-v)):B7 Tryz.prog 52 1 (DE l) [.elt 0 0 k 0,.i key,.i v,.b true] 1 (DE (l.set k (N0 (N2 key v true c)))) (.tup []):=by
 have mT:=Eb hk
 obtain⟨h1,h2,h3,h4⟩:=hc
 have mW:l[((k:Nat):Int).toNat]?=some (N0 c):=by rw[Int.toNat_natCast];exact hk
 obtain⟨codes,cnt,sum,amo,fst,snd,rows⟩:=c
 dsimp only at h1 h2 h3 h4 ha hb
 have md:N2 key v true ⟨codes,cnt,sum,amo,fst,snd,rows⟩=⟨codes,cnt+1,sum+v,amo+max v (-v),fst,max v (-v),rows++[key]⟩:=by
  unfold N2
  rw[if_neg (by decide),if_neg ha,if_pos hb]
 rw[md]
 have tJ:max v (-v)≤1099511627776∧0≤max v (-v):=by omega
 dsimp only[DE]
 refine Y6 Tryz.func52 77 fun E h0=>?_
 repeat'((first|(refine Fp (i:=0) (List.getElem?_set_self (by first|exact mT|(simp only[List.length_set];exact mT))) rfl rfl rfl rfl rfl ?_)|(refine Fq (i:=0) (List.getElem?_set_self (by first|exact mT|(simp only[List.length_set];exact mT))) rfl rfl rfl rfl rfl rfl rfl rfl rfl ?_)|refine fH ?_ |refine S2 ?_|(refine T6 ?_ ?_<;>intro h<;>try exact V1 h)|intro el mI mJ|intro el mI|exact T4|refine T5 ?_ ?_|intro ex)<;>try conv=>whnf)
 all_goals first
  |(exfalso;omega)
  |(exfalso;dsimp only at *;omega)
  |(delta C6;exact .inl ⟨[],[],rfl,trivial,rfl,rfl,A7 h0 rfl trivial ⟨⟨_,congrArg (C4.row (U1+R8) 7 _) (by simp only[List.set_set,N0,List.map_append];rfl)⟩,trivial⟩ rfl rfl rfl,rfl⟩)
theorem lP(l:List (List AV))(k:Nat)(c:G8)(hk:l[k]?=some (N0 c))(hc:Oq c)(key v:Int)(hv:-1099511627776≤v∧v≤1099511627776)(ha:¬c.fst<max v (-v))(hb:¬c.snd<max v (-v)):B7 Tryz.prog 52 1 (DE l) [.elt 0 0 k 0,.i key,.i v,.b true] 1 (DE (l.set k (N0 (N2 key v true c)))) (.tup []):=by
 have mT:=Eb hk
 obtain⟨h1,h2,h3,h4⟩:=hc
 have mW:l[((k:Nat):Int).toNat]?=some (N0 c):=by rw[Int.toNat_natCast];exact hk
 obtain⟨codes,cnt,sum,amo,fst,snd,rows⟩:=c
 dsimp only at h1 h2 h3 h4 ha hb
 have md:N2 key v true ⟨codes,cnt,sum,amo,fst,snd,rows⟩=⟨codes,cnt+1,sum+v,amo+max v (-v),fst,snd,rows++[key]⟩:=by
  unfold N2
  rw[if_neg (by decide),if_neg ha,if_neg hb]
 rw[md]
 have tJ:max v (-v)≤1099511627776∧0≤max v (-v):=by omega
 dsimp only[DE]
 refine Y6 Tryz.func52 77 fun E h0=>?_
 repeat'((first|(refine Fp (i:=0) (List.getElem?_set_self (by first|exact mT|(simp only[List.length_set];exact mT))) rfl rfl rfl rfl rfl ?_)|(refine Fq (i:=0) (List.getElem?_set_self (by first|exact mT|(simp only[List.length_set];exact mT))) rfl rfl rfl rfl rfl rfl rfl rfl rfl ?_)|refine fH ?_ |refine S2 ?_|(refine T6 ?_ ?_<;>intro h<;>try exact V1 h)|intro el mI mJ|intro el mI|exact T4|refine T5 ?_ ?_|intro ex)<;>try conv=>whnf)
 all_goals first
  |(exfalso;omega)
  |(exfalso;dsimp only at *;omega)
  |(delta C6;exact .inl ⟨[],[],rfl,trivial,rfl,rfl,A7 h0 rfl trivial ⟨⟨_,congrArg (C4.row (U1+R8) 7 _) (by simp only[List.set_set,N0,List.map_append];rfl)⟩,trivial⟩ rfl rfl rfl,rfl⟩)
theorem Nj(l:List (List AV))(k:Nat)(c:G8)(hk:l[k]?=some (N0 c))(hc:Oq c)(key v:Int)(hv:-1099511627776≤v∧v≤1099511627776)(m:Bool):B7 Tryz.prog 52 1 (DE l) [.elt 0 0 k 0,.i key,.i v,.b m] 1 (DE (l.set k (N0 (N2 key v m c)))) (.tup []):=by
 cases m with
 |false=>exact kD l k c hk hc key v
 |true =>
  by_cases ha:c.fst<max v (-v)
  ·exact lN l k c hk hc key v hv ha
  ·by_cases hb:c.snd<max v (-v)
   ·exact lO l k c hk hc key v hv ha hb
   ·exact lP l k c hk hc key v hv ha hb
def z1(codes cell:List Int):Bool:=(cell.zip codes).all fun q=>decide (q.1=-1∨q.1=q.2)
theorem Te{α:Type}{p:α→Bool}{l:List α}{k:Nat}{x:α}(hx:l[k]?=some x)(h:p x=false):l.all p=false:=by
 rw[List.all_eq_false]
 exact⟨x,List.mem_of_getElem? hx,by rw[h];decide⟩
theorem QT{α:Type}{p:α→Bool}{l:List α}{k:Nat}{x:α}(hx:l[k]?=some x)(h:(l.take k).all p=true)(hp:p x=true):(l.take (k+1)).all p=true:=by
 rw[E7 hx,List.all_append,h]
 simp[hp]
theorem Kv(codes cell:List Int)(hl:cell.length≤codes.length):A3 Tryz.prog 76 [.sl 1 (codes.map wA),.sl 1 (cell.map wA)] (.b (z1 codes cell)):=by
 unfold z1
 generalize hz:cell.zip codes=zs
 have wm:zs.length=cell.length:=by rw[←hz,List.length_zip];omega
 refine B5 Tryz.func76 25 fun mK E h0=>?_
 have mL:cell.length≤9223372036854775807:=by have:=(mK (.sl 1 (cell.map wA)) (by simp)).sl;simpa using this
 clear mK
 repeat'((first|refine S2 ?_|(refine T6 ?_ ?_<;>intro h<;>try exact V1 h)|intro el mI mJ|intro el mI|exact T4|refine T5 ?_ ?_|intro ex)<;>try conv=>whnf)
 refine A9 (ι:=Nat) (fun k=>⟨[(0,.sl 1 (codes.map wA)),(7,.sl 1 (cell.map wA)),(8,.i cell.length),(9,.i k)],0,[]⟩)
  (fun k=>k≤cell.length∧(zs.take k).all (fun q=>decide (q.1=-1∨q.1=q.2))=true) (fun k=>cell.length-k) 0 ⟨Nat.zero_le _,rfl⟩
  (A6 h0) (fun k hK=>?_)
 obtain⟨oX,hK⟩:=hK
 by_cases mT:k<cell.length
 ·obtain⟨c,hc⟩:∃c,cell[k]?=some c:=⟨_,List.getElem?_eq_getElem mT⟩
  obtain⟨d,hd⟩:∃d,codes[k]?=some d:=⟨_,List.getElem?_eq_getElem (by omega)⟩
  have hq:zs[k]?=some (c,d):=by rw[←hz,List.getElem?_zip_eq_some];exact⟨hc,hd⟩
  have oG:cell[((k:Nat):Int).toNat]?=some c:=hc
  have po:codes[((k:Nat):Int).toNat]?=some d:=hd
  have rF:¬c=-1→¬c=d→zs.all (fun q=>decide (q.1=-1∨q.1=q.2))=false:=fun h1 h2=>Te hq (by simp[h1,h2])
  have np:c=-1∨c=d→(zs.take (k+1)).all (fun q=>decide (q.1=-1∨q.1=q.2))=true:=fun h=>QT hq hK (by simpa using h)
  repeat'((first|(refine A2 (x:=c) oG (by omega) ?_)|(refine A2 (x:=d) po (by omega) ?_)|(refine B0 ?_ ?_;kernel_rfl) |refine S2 ?_|(refine T6 ?_ ?_<;>intro h<;>try exact V1 h)|intro el mI mJ|intro el mI|exact T4|refine T5 ?_ ?_|intro ex)<;>try conv=>whnf)
  all_goals first
   |(exfalso;omega)
   |exact⟨k+1,⟨by omega,np (by omega)⟩,by omega,A6 h0⟩
   |exact A1 rfl (congrArg AV.b (rF (by omega) (by omega)).symm)
 ·have he:zs.take k=zs:=List.take_of_length_le (by omega)
  rw[he]at hK
  rw[hK]
  repeat'((first|refine S2 ?_|(refine T6 ?_ ?_<;>intro h<;>try exact V1 h)|intro el mI mJ|intro el mI|exact T4|refine T5 ?_ ?_|intro ex)<;>try conv=>whnf)
  all_goals first
   |(exfalso;omega)
   |exact A1 rfl rfl
theorem Kw(l:List (List AV))(n:Nat)(own:List Int):B7 Tryz.prog 51 1 (DE l) [.row 0 0 n,.sl 1 (own.map wA)] 3 [(0,some (.row (U1+R8) 7 0 l)),(1,some (.box [.row 0 0 n])),(2,some (.box [.sl 1 (own.map wA)]))] (.fo 113 [.ref 1 0,.ref 2 0]):=by
 dsimp only[DE]
 refine Y6 Tryz.func51 6 fun E h0=>?_
 repeat'((first|refine⟨LV rfl rfl ?_⟩|refine LV rfl rfl ?_ |refine S2 ?_|(refine T6 ?_ ?_<;>intro h<;>try exact V1 h)|intro el mI mJ|intro el mI|exact T4|refine T5 ?_ ?_|intro ex)<;>try conv=>whnf)
 all_goals first
  |exact H4 (A6 h0)
def AN(own:List Int)(f:G8→G8)(L:List G8)(k:Nat):List G8:=(L.take k).map (fun c=>if z1 own c.codes=true then f c else c)++L.drop k
theorem aa(own:List Int)(f:G8→G8)(L:List G8):AN own f L 0=L:=by simp[AN]
theorem dZ(own:List Int)(f:G8→G8)(L:List G8){k:Nat}(h:L.length≤k):AN own f L k=L.map (fun c=>if z1 own c.codes=true then f c else c):=by
 unfold AN
 rw[List.take_of_length_le h,List.drop_eq_nil_of_le h,List.append_nil]
theorem da(own:List Int)(f:G8→G8)(L:List G8)(k:Nat):(AN own f L k).length=L.length:=by simp[AN];omega
theorem Tf{own:List Int}{f:G8→G8}{L:List G8}{k:Nat}{c:G8}(h:L[k]?=some c):(AN own f L k)[k]?=some c:=by
 have:=F0 h
 unfold AN
 rw[List.getElem?_append_right (by simp;omega),List.length_map,List.length_take,show k-min k L.length=0 by omega,List.getElem?_drop]
 exact h
theorem gh{own:List Int}{f:G8→G8}{L:List G8}{k:Nat}{c:G8}(h:L[k]?=some c)(hi:z1 own c.codes=false):AN own f L (k+1)=AN own f L k:=by
 unfold AN
 rw[E7 h,G1 h,List.map_append,List.append_assoc]
 simp[hi]
theorem db{own:List Int}{f:G8→G8}{L:List G8}{k:Nat}{c:G8}(h:L[k]?=some c)(hi:z1 own c.codes=true):AN own f L (k+1)=(AN own f L k).set k (f c):=by
 have:=F0 h
 unfold AN
 rw[E7 h,G1 h,List.map_append,List.append_assoc]
 simp only[List.map_cons,List.map_nil,hi,if_true,List.singleton_append]
 rw[List.set_append_right _ _ (by simp;omega)]
 simp[show k-min k L.length=0 by omega]
abbrev kE(l:List (List AV))(n:Nat)(own:List Int):Hp:=[(0,some (.row (U1+R8) 7 0 l)),(1,some (.box [.row 0 0 n])),(2,some (.box [.sl 1 (own.map wA)]))]
abbrev kF(l:List (List AV))(n:Nat):Hp:=[(0,some (.row (U1+R8) 7 0 l)),(1,some (.box [.row 0 0 n])),(2,none)]
attribute [local irreducible] GN EC KJ Gq
theorem JU(l:Nat)(rc:Loop)(slc:List (Nat×AV))(own:List Int)(f:G8→G8)(L:List G8)(hL:L.length≤9223372036854775807)(mL:∀c∈L,c.codes.length≤own.length)
  (hY:∀(M:List G8) (k:Nat) c,M.length=L.length→M[k]?=some c→c∈L→KJ Tryz.prog l rc slc 1 (DE (M.map N0)) [.elt 0 0 k 0] 1 (DE ((M.set k (f c)).map N0))) :
  Gq Tryz.prog 113 l rc slc 3 (kE (L.map N0) L.length own) [.v (.func (.yield l) #[] #[]),.ref 1 0,.ref 2 0] 3 (kF ((L.map (fun c=>if z1 own c.codes=true then f c else c)).map N0) L.length) (.tup []):=by
 refine ln Tryz.func113 26 fun E h0 hE hO=>?_
 refine P1 (A7 (σ':=⟨[(0,.v (.func (.yield l) #[] #[])),(1,.ref 1 0),(2,.iptr [.sl 1 (own.map wA)])],3,[(0,some (.row (U1+R8) 7 0 (L.map N0))),(1,some (.box [.row 0 0 L.length]))]⟩) h0 rfl ⟨rfl,rfl,rfl,trivial⟩ ⟨⟨_,rfl⟩,rfl,trivial⟩ rfl rfl rfl) ?_
 repeat'((first|refine S2 ?_|(refine T6 ?_ ?_<;>intro h<;>try exact V1 h)|intro el mI mJ|intro el mI|exact T4|refine T5 ?_ ?_|intro ex)<;>try conv=>whnf)
 refine A9 (ι:=Nat) (fun k=>⟨[(0,.v (.func (.yield l) #[] #[])),(1,.ref 1 0),(2,.iptr [.sl 1 (own.map wA)]),(6,.i L.length),(7,.i k)],3,[(0,some (.row (U1+R8) 7 0 ((AN own f L k).map N0))),(1,some (.box [.row 0 0 L.length]))]⟩)
  (fun k=>k≤L.length) (fun k=>L.length-k) 0 (Nat.zero_le _)
  (A7 h0 rfl ⟨rfl,rfl,rfl,congrArg (fun z:Nat=>some (AV.i (z:Int))) (by simp),rfl,trivial⟩ ⟨⟨_,congrArg (C4.row (U1+R8) 7 _) (by rw[aa])⟩,rfl,trivial⟩ rfl rfl rfl) (fun k hK=>?_)
 have vk:=da own f L k
 by_cases mT:k<L.length
 ·obtain⟨c,hc⟩:∃c,L[k]?=some c:=⟨_,List.getElem?_eq_getElem mT⟩
  have nf:=Kv own c.codes (mL c (List.mem_of_getElem? hc))
  have hg:(AN own f L k)[((k:Nat):Int).toNat]?=some c:=by rw[Int.toNat_natCast];exact Tf hc
  cases hi:z1 own c.codes with
  |false =>
   have mc:=gh (f:=f) hc hi
   rw[hi]at nf
   repeat'((first|(refine A2 (x:=c) hg (by omega) ?_)|refine A0 nf ?_|(refine B0 ?_ ?_;kernel_rfl) |refine S2 ?_|(refine T6 ?_ ?_<;>intro h<;>try exact V1 h)|intro el mI mJ|intro el mI|exact T4|refine T5 ?_ ?_|intro ex)<;>try conv=>whnf)
   all_goals first
    |(exfalso;omega)
    |exact⟨k+1,by omega,by omega,A7 h0 rfl ⟨rfl,rfl,rfl,rfl,rfl,trivial⟩ ⟨⟨_,congrArg (C4.row (U1+R8) 7 _) (by rw[mc])⟩,rfl,trivial⟩ rfl rfl rfl⟩
  |true =>
   have zX:=db (f:=f) hc hi
   rw[hi]at nf
   have hy:=hY (AN own f L k) k c vk (Tf hc) (List.mem_of_getElem? hc)
   rw[←zX]at hy
   repeat'((first|(refine A2 (x:=c) hg (by omega) ?_)|refine A0 nf ?_|refine kA ?_ ?_|exact jz|(refine kC (id:=3) ⟨[(0,.v (.func (.yield l) #[] #[])),(1,.ref 1 0),(2,.iptr [.sl 1 (own.map wA)]),(6,.i L.length),(7,.i k),(24,.b false)],3,[(0,some (.row (U1+R8) 7 0 ((AN own f L (k+1)).map N0))),(1,some (.box [.row 0 0 L.length]))]⟩ ?_ ?_)|(refine YE rfl rfl ?_;refine YD [0] [0] hE hO hy rfl rfl rfl rfl ⟨rfl,trivial⟩ ?_)|refine dX ?_|refine dW rfl ?_ |refine S2 ?_|(refine T6 ?_ ?_<;>intro h<;>try exact V1 h)|intro el mI mJ|intro el mI|exact T4|refine T5 ?_ ?_|intro ex)<;>try conv=>whnf)
   all_goals first
    |(exfalso;omega)
    |exact A6 h0
    |exact⟨k+1,by omega,by omega,A6 h0⟩
 ·have nt:=dZ own f L (k:=k) (by omega)
  repeat'((first|refine S2 ?_|(refine T6 ?_ ?_<;>intro h<;>try exact V1 h)|intro el mI mJ|intro el mI|exact T4|refine T5 ?_ ?_|intro ex)<;>try conv=>whnf)
  all_goals first
   |(exfalso;omega)
   |(delta C6;exact .inl ⟨[],[],rfl,trivial,rfl,rfl,A7 h0 rfl trivial ⟨⟨_,congrArg (C4.row (U1+R8) 7 _) (by rw[nt])⟩,rfl,trivial⟩ rfl rfl rfl,rfl⟩)
theorem Nk(xs ys:List Int):A3 Tryz.prog 23 [.sl 1 (xs.map wA),.sl 1 (ys.map wA)] (.b (decide (xs=ys))):=by
 refine B5 Tryz.func23 26 fun mK E h0=>?_
 have mL:xs.length≤9223372036854775807:=by
  have:=(mK (.sl 1 (xs.map wA)) (by simp)).sl
  simpa using this
 have qS:ys.length≤9223372036854775807:=by
  have:=(mK (.sl 1 (ys.map wA)) (by simp)).sl
  simpa using this
 clear mK
 repeat'((first|refine S2 ?_|(refine T6 ?_ ?_<;>intro h<;>try exact V1 h)|intro el mI mJ|intro el mI|exact T4|refine T5 ?_ ?_|intro ex)<;>try conv=>whnf)
 ·exact A1 rfl (congrArg AV.b (by
   have:xs≠ys:=by intro e;subst e;omega
   simp[this]))
 have hl:xs.length=ys.length:=by omega
 refine A9 (ι:=Nat) (fun k=>⟨[(0,.sl 1 (xs.map wA)),(1,.sl 1 (ys.map wA)),(5,.i k)],0,[]⟩) (fun k=>k≤xs.length∧ys.take k=xs.take k) (fun k=>xs.length-k) 0 ⟨Nat.zero_le _,rfl⟩ (A6 h0) (fun k hI=>?_)
 obtain⟨hk,hI⟩:=hI
 by_cases mM:k<xs.length
 ·obtain⟨x,hx⟩:∃x,xs[k]?=some x:=⟨_,List.getElem?_eq_getElem mM⟩
  obtain⟨y,hy⟩:∃y,ys[k]?=some y:=⟨_,List.getElem?_eq_getElem (by omega)⟩
  repeat'((first|(refine A2 (x:=x) hx (by omega) ?_)|(refine A2 (x:=y) hy (by omega) ?_)|(refine B0 ?_ ?_;kernel_rfl) |refine S2 ?_|(refine T6 ?_ ?_<;>intro h<;>try exact V1 h)|intro el mI mJ|intro el mI|exact T4|refine T5 ?_ ?_|intro ex)<;>try conv=>whnf)
  all_goals first
   |(exfalso;omega)
   |(refine A1 rfl (congrArg AV.b (decide_eq_false (fun e=>?_)).symm)
     subst e
     rw[hx]at hy
     cases hy
     omega)
   |exact⟨k+1,⟨by omega,by rw[E7 hx,E7 hy,hI];congr 2;omega⟩,by omega,A6 h0⟩
 ·repeat'((first|refine S2 ?_|(refine T6 ?_ ?_<;>intro h<;>try exact V1 h)|intro el mI mJ|intro el mI|exact T4|refine T5 ?_ ?_|intro ex)<;>try conv=>whnf)
  all_goals first
   |(exfalso;omega)
   |(refine A1 rfl (congrArg AV.b (decide_eq_true ?_).symm)
     rw[List.take_of_length_le (by omega),List.take_of_length_le (by omega)]at hI
     exact hI.symm)
mutual
def Cp:B6→Int→Int
 |.mk _ _ _ _ _ ks,most=>BJ ks most 1
def BJ:List B6→Int→Int→Int
 |[],_,n=>n
 |x::r,most,n=>if n<most then BJ r most (n+Cp x (most-n))else n
end
theorem Ln(c:B6)(m:Int):Cp c m=BJ c.kids m 1:=by cases c;rfl
theorem dc(c:B6):∀m:Int,1≤Cp c m∧Cp c m≤max 1 m:=by
 refine N4 (p:=fun c=>∀m:Int,1≤Cp c m∧Cp c m≤max 1 m) (fun c ih m=>?_) c
 have key:∀(l:List B6),(∀k∈l,k∈c.kids)→∀n:Int,1≤n→n≤max 1 m→1≤BJ l m n∧BJ l m n≤max 1 m:=by
  intro l
  induction l with
  |nil=>intro _ n h1 h2;exact⟨h1,h2⟩
  |cons x r rx =>
   intro hl n h1 h2
   unfold BJ
   split
   ·have:=ih x (hl x (by simp)) (m-n)
    exact rx (fun k hk=>hl k (by simp[hk])) _ (by omega) (by omega)
   ·exact⟨h1,h2⟩
 rw[Ln]
 exact key c.kids (fun k hk=>hk) 1 (by omega) (by omega)
theorem de(c:B6):∀m:Int,1≤m→Cp c m=min (d8 c:Int) m:=by
 refine N4 (p:=fun c=>∀m:Int,1≤m→Cp c m=min (d8 c:Int) m) (fun c ih m hm=>?_) c
 have key:∀(l:List B6),(∀k∈l,k∈c.kids)→∀n:Int,n≤m→BJ l m n=min (n+t9 l) m:=by
  intro l
  induction l with
  |nil=>intro _ n h;unfold BJ t9;omega
  |cons x r rx =>
   intro hl n hn
   unfold BJ t9
   by_cases h:n<m
   ·have h1:=ih x (hl x (by simp)) (m-n) (by omega)
    rw[if_pos h,h1,rx (fun k hk=>hl k (by simp[hk])) _ (by omega)]
    omega
   ·rw[if_neg h]
    omega
 rw[Ln,Ei,key c.kids (fun k hk=>hk) 1 hm]
 omega
theorem Tg(c:B6):∀(m:Int),-100000≤m→m≤100000→A3 Tryz.prog 86 [D5 c,.i m] (.i (Cp c m)):=by
 refine N4 (p:=fun c=>∀(m:Int),-100000≤m→m≤100000→A3 Tryz.prog 86 [D5 c,.i m] (.i (Cp c m))) (fun c ih m hm1 qt=>?_) c
 rw[F8,Ln]
 refine B5 Tryz.func86 31 fun mK E h0=>?_
 have mL:c.kids.length≤9223372036854775807:=by
  have:=((mK _ (List.mem_cons_self ..)).agg (.sl 6 (c.kids.map I8)) (by simp)).sl
  simpa using this
 clear mK
 repeat'((first|refine S2 ?_|(refine T6 ?_ ?_<;>intro h<;>try exact V1 h)|intro el mI mJ|intro el mI|exact T4|refine T5 ?_ ?_|intro ex)<;>try conv=>whnf)
 refine A9 (ι:=Nat×Int) (fun x=>⟨[(1,.i m),(2,.ref 0 0),(5,.i x.2),(6,.i x.1)],1,[(0,some (.box (M8 c)))]⟩) (fun x=>x.1≤c.kids.length∧(1≤x.2∧x.2≤max 1 m)∧BJ c.kids m 1=BJ (c.kids.drop x.1) m x.2) (fun x=>c.kids.length-x.1) (0,1) ⟨Nat.zero_le _,by dsimp only;omega,rfl⟩
  (A6 h0) (fun x hI=>?_)
 obtain⟨k,n⟩:=x
 obtain⟨hk,hn,hI⟩:=hI
 dsimp only at hk hn hI ⊢
 have zk:=fun el=>dc el (m-n)
 repeat'((first|(refine A0 (ih _ (List.mem_of_getElem? (by assumption)) _ (by omega) (by omega)) ?_)|(refine I6 ?_ ?_;(have:=zk el;omega)) |refine S2 ?_|(refine T6 ?_ ?_<;>intro h<;>try exact V1 h)|intro el mI mJ|intro el mI|exact T4|refine T5 ?_ ?_|intro ex)<;>try conv=>whnf)
 all_goals first
  |exact A1 rfl (congrArg AV.i (by rw[hI,T0 (by assumption)];rfl))
  |(obtain⟨x,hx⟩:∃x,c.kids[k]?=some x:=⟨_,List.getElem?_eq_getElem (by omega)⟩
    exact A1 rfl (congrArg AV.i (by rw[hI,G1 hx,BJ,if_neg (by assumption)])))
  |exact⟨(k+1,n+Cp el (m-n)),⟨by dsimp only;omega,(by have:=zk el;dsimp only;omega),by rw[hI,G1 mI,BJ,if_pos (by assumption)]⟩,by dsimp only;omega,A6 h0⟩
theorem VB(c:B6):d7 c≤100000→A3 Tryz.prog 87 [D5 c] (.i (d7 c)):=by
 refine N4 (p:=fun c=>d7 c≤100000→A3 Tryz.prog 87 [D5 c] (.i (d7 c))) (fun c ih hd=>?_) c
 have pK:=Ob c.kids 0
 rw[KE]at hd
 rw[F8,KE]
 refine B5 Tryz.func87 22 fun mK E h0=>?_
 have mL:c.kids.length≤9223372036854775807:=by
  have:=((mK _ (List.mem_cons_self ..)).agg (.sl 6 (c.kids.map I8)) (by simp)).sl
  simpa using this
 clear mK
 repeat'((first|refine S2 ?_|(refine T6 ?_ ?_<;>intro h<;>try exact V1 h)|intro el mI mJ|intro el mI|exact T4|refine T5 ?_ ?_|intro ex)<;>try conv=>whnf)
 refine A9 (ι:=Nat×Nat) (fun x=>⟨[(1,.ref 0 0),(3,.i x.2),(4,.i x.1)],1,[(0,some (.box (M8 c)))]⟩) (fun x=>x.1≤c.kids.length∧x.2≤p9 c.kids 0∧p9 c.kids 0=p9 (c.kids.drop x.1) x.2) (fun x=>c.kids.length-x.1) (0,0) ⟨Nat.zero_le _,Nat.zero_le _,rfl⟩
  (A6 h0) (fun x hI=>?_)
 obtain⟨k,n⟩:=x
 obtain⟨hk,hn,hI⟩:=hI
 dsimp only at hk hn hI ⊢
 have wb:∀el,c.kids[k]?=some el→d7 el≤p9 c.kids 0:=fun el mI=>pK.2 el (List.mem_of_getElem? mI)
 repeat'((first|(refine A0 (ih _ (List.mem_of_getElem? (by assumption)) (by have:=wb el mI;omega)) ?_) |refine S2 ?_|(refine T6 ?_ ?_<;>intro h<;>try exact V1 h)|intro el mI mJ|intro el mI|exact T4|refine T5 ?_ ?_|intro ex)<;>try conv=>whnf)
 all_goals first
  |exact A1 rfl (congrArg AV.i (by rw[hI,T0 (by assumption)];unfold p9;omega))
  |exact⟨(k+1,max n (d7 el)),⟨by dsimp only;omega,(by have:=wb el mI;dsimp only;omega),by rw[hI,G1 mI,p9]⟩,by dsimp only;omega,A7 h0 rfl ⟨rfl,congrArg (fun z:Int=>some (AV.i z)) (by dsimp only;omega),rfl,trivial⟩ ⟨rfl,trivial⟩ rfl rfl rfl⟩
abbrev Q5(s:A4)(col kind:Int):Bool:=decide (0≤col∧col<s.cols.length∧(B8 s col).kind=kind)
theorem gj(s:A4)(col kind:Int):A3 Tryz.prog 140 [sA s,.i col,.i kind] (.b (Q5 s col kind)):=by
 refine B5 Tryz.func140 26 fun mK E h0=>?_
 clear mK
 repeat'((first|refine S2 ?_|(refine T6 ?_ ?_<;>intro h<;>try exact V1 h)|intro el mI mJ|intro el mI|exact T4|refine T5 ?_ ?_|intro ex)<;>try conv=>whnf)
 all_goals first
  |exact A1 rfl (congrArg AV.b (by unfold Q5;rw[decide_eq_false (by omega)]))
  |exact A1 rfl (congrArg AV.b (by unfold Q5;rw[C1 mI,decide_eq_decide];omega))
end Go.Proofs.YtiphlhoclaogjaaGreatDoor

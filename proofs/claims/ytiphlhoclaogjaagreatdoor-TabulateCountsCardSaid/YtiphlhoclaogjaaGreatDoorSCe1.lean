/- Chapter 18: the program's tables: one cell, and those around some codes. -/
import Derived.Test.YtiphlhoclaogjaaGreatDoorSAvJ
import Derived.Test.YtiphlhoclaogjaaGreatDoorSAvH
import Derived.Test.YtiphlhoclaogjaaGreatDoorSB7
import Derived.Test.YtiphlhoclaogjaaGreatDoorSTa5
import Derived.Test.YtiphlhoclaogjaaGreatDoorSB4
import Derived.Test.YtiphlhoclaogjaaGreatDoorSC1
set_option linter.unusedVariables false
set_option linter.unnecessarySimpa false
set_option linter.unusedSimpArgs false
set_option maxHeartbeats 64000000
namespace Go.Proofs.YtiphlhoclaogjaaGreatDoor
open Go Go.Av
attribute [local irreducible] C7 B2 D3 C9 DQ D0 C8 St.le A3 B9
set_option maxRecDepth 100000
structure J7 where
 codes:List Int
 cnt:Int
 sum:Int
 amo:Int
 fst:Int
 snd:Int
 rows:List Int
abbrev j5:Nat:=72
abbrev lS:Nat:=3
abbrev N0(c:J7):List AV:=[.sl 1 (c.codes.map wA),.i c.cnt,.i c.sum,.i c.amo,.i c.fst,.i c.snd,.own lS 1 (c.rows.map wA)]
abbrev Cf(c:J7):List AV:=[.sl 1 (c.codes.map wA),.i c.cnt,.i c.sum,.i c.amo,.i c.fst,.i c.snd,.sl 1 (c.rows.map wA)]
def X9(key v:Int)(m:Bool)(c:J7):J7 :=
 if m=false then { c with cnt:=c.cnt+1,rows:=c.rows++[key] }
 else if c.fst<max v (-v)then { c with cnt:=c.cnt+1,rows:=c.rows++[key],sum:=c.sum+v,amo:=c.amo+max v (-v),fst:=max v (-v),snd:=c.fst }
 else if c.snd<max v (-v)then { c with cnt:=c.cnt+1,rows:=c.rows++[key],sum:=c.sum+v,amo:=c.amo+max v (-v),snd:=max v (-v) }
 else { c with cnt:=c.cnt+1,rows:=c.rows++[key],sum:=c.sum+v,amo:=c.amo+max v (-v) }
structure PA(c:J7):Prop where
 cnt:0≤c.cnt∧c.cnt≤1000
 sum:-1000000000000000≤c.sum∧c.sum≤1000000000000000
 amo:0≤c.amo∧c.amo≤1000000000000000
 rows:c.rows.length≤1000
abbrev DV(l:List (List AV)):Hp:=[(0,some (.row (T9+j5) 7 0 l))]
theorem Eh{α:Type}{l:List α}{k:Nat}{x:α}(h:l[k]?=some x):k<l.length:=(List.getElem?_eq_some_iff.1 h).1
theorem jd(l:List (List AV))(k:Nat)(c:J7)(hk:l[k]?=some (N0 c))(hc:PA c)(key v:Int):B9 Tryz.prog 52 1 (DV l) [.elt 0 0 k 0,.i key,.i v,.b false] 1 (DV (l.set k (N0 (X9 key v false c)))) (.tup []):=by
 have lk:=Eh hk
 obtain⟨h1,h2,h3,h4⟩:=hc
 have lg:l[((k:Nat):Int).toNat]?=some (N0 c):=by rw[Int.toNat_natCast];exact hk
 obtain⟨codes,cnt,sum,amo,fst,snd,rows⟩:=c
 dsimp only at h1 h2 h3 h4
 have lr:X9 key v false ⟨codes,cnt,sum,amo,fst,snd,rows⟩=⟨codes,cnt+1,sum,amo,fst,snd,rows++[key]⟩:=rfl
 rw[lr]
 dsimp only[DV]
 refine V9 Tryz.func52 77 fun E h0=>?_
 repeat'((first|(refine Fz (i:=0) (List.getElem?_set_self (by first|exact lk|(simp only[List.length_set];exact lk))) rfl rfl rfl rfl rfl ?_)|(refine GA (i:=0) (List.getElem?_set_self (by first|exact lk|(simp only[List.length_set];exact lk))) rfl rfl rfl rfl rfl rfl rfl rfl rfl ?_)|refine er ?_ |refine S2 ?_|(refine T6 ?_ ?_<;>intro h<;>try exact V1 h)|intro el lU lV|intro el lU|exact T4|refine T5 ?_ ?_|intro ex)<;>try conv=>whnf)
 all_goals first
  |(exfalso;omega)
  |(exfalso;dsimp only at *;omega)
  |(delta C8;exact .inl ⟨[],[],rfl,trivial,rfl,rfl,A9 h0 rfl trivial ⟨⟨_,congrArg (C6.row (T9+j5) 7 _) (by simp only[List.set_set,N0,List.map_append];rfl)⟩,trivial⟩ rfl rfl rfl,rfl⟩)
theorem kU(l:List (List AV))(k:Nat)(c:J7)(hk:l[k]?=some (N0 c))(hc:PA c)(key v:Int)(hv:-1099511627776≤v∧v≤1099511627776)(ha:c.fst<max v (-v)):B9 Tryz.prog 52 1 (DV l) [.elt 0 0 k 0,.i key,.i v,.b true] 1 (DV (l.set k (N0 (X9 key v true c)))) (.tup []):=by
 have lk:=Eh hk
 obtain⟨h1,h2,h3,h4⟩:=hc
 have lg:l[((k:Nat):Int).toNat]?=some (N0 c):=by rw[Int.toNat_natCast];exact hk
 obtain⟨codes,cnt,sum,amo,fst,snd,rows⟩:=c
 dsimp only at h1 h2 h3 h4 ha
 have lr:X9 key v true ⟨codes,cnt,sum,amo,fst,snd,rows⟩=⟨codes,cnt+1,sum+v,amo+max v (-v),max v (-v),fst,rows++[key]⟩:=by
  unfold X9
  rw[if_neg (by decide),if_pos ha]
 rw[lr]
 have tU:max v (-v)≤1099511627776∧0≤max v (-v):=by omega
 dsimp only[DV]
 refine V9 Tryz.func52 77 fun E h0=>?_
 repeat'((first|(refine Fz (i:=0) (List.getElem?_set_self (by first|exact lk|(simp only[List.length_set];exact lk))) rfl rfl rfl rfl rfl ?_)|(refine GA (i:=0) (List.getElem?_set_self (by first|exact lk|(simp only[List.length_set];exact lk))) rfl rfl rfl rfl rfl rfl rfl rfl rfl ?_)|refine er ?_ |refine S2 ?_|(refine T6 ?_ ?_<;>intro h<;>try exact V1 h)|intro el lU lV|intro el lU|exact T4|refine T5 ?_ ?_|intro ex)<;>try conv=>whnf)
 all_goals first
  |(exfalso;omega)
  |(exfalso;dsimp only at *;omega)
  |(delta C8;exact .inl ⟨[],[],rfl,trivial,rfl,rfl,A9 h0 rfl trivial ⟨⟨_,congrArg (C6.row (T9+j5) 7 _) (by simp only[List.set_set,N0,List.map_append];rfl)⟩,trivial⟩ rfl rfl rfl,rfl⟩)
theorem kV(l:List (List AV))(k:Nat)(c:J7)(hk:l[k]?=some (N0 c))(hc:PA c)(key v:Int)(hv:-1099511627776≤v∧v≤1099511627776)(ha:¬c.fst<max v (-v))(hb:c.snd<max v (-v)):B9 Tryz.prog 52 1 (DV l) [.elt 0 0 k 0,.i key,.i v,.b true] 1 (DV (l.set k (N0 (X9 key v true c)))) (.tup []):=by
 have lk:=Eh hk
 obtain⟨h1,h2,h3,h4⟩:=hc
 have lg:l[((k:Nat):Int).toNat]?=some (N0 c):=by rw[Int.toNat_natCast];exact hk
 obtain⟨codes,cnt,sum,amo,fst,snd,rows⟩:=c
 dsimp only at h1 h2 h3 h4 ha hb
 have lr:X9 key v true ⟨codes,cnt,sum,amo,fst,snd,rows⟩=⟨codes,cnt+1,sum+v,amo+max v (-v),fst,max v (-v),rows++[key]⟩:=by
  unfold X9
  rw[if_neg (by decide),if_neg ha,if_pos hb]
 rw[lr]
 have tU:max v (-v)≤1099511627776∧0≤max v (-v):=by omega
 dsimp only[DV]
 refine V9 Tryz.func52 77 fun E h0=>?_
 repeat'((first|(refine Fz (i:=0) (List.getElem?_set_self (by first|exact lk|(simp only[List.length_set];exact lk))) rfl rfl rfl rfl rfl ?_)|(refine GA (i:=0) (List.getElem?_set_self (by first|exact lk|(simp only[List.length_set];exact lk))) rfl rfl rfl rfl rfl rfl rfl rfl rfl ?_)|refine er ?_ |refine S2 ?_|(refine T6 ?_ ?_<;>intro h<;>try exact V1 h)|intro el lU lV|intro el lU|exact T4|refine T5 ?_ ?_|intro ex)<;>try conv=>whnf)
 all_goals first
  |(exfalso;omega)
  |(exfalso;dsimp only at *;omega)
  |(delta C8;exact .inl ⟨[],[],rfl,trivial,rfl,rfl,A9 h0 rfl trivial ⟨⟨_,congrArg (C6.row (T9+j5) 7 _) (by simp only[List.set_set,N0,List.map_append];rfl)⟩,trivial⟩ rfl rfl rfl,rfl⟩)
theorem kW(l:List (List AV))(k:Nat)(c:J7)(hk:l[k]?=some (N0 c))(hc:PA c)(key v:Int)(hv:-1099511627776≤v∧v≤1099511627776)(ha:¬c.fst<max v (-v))(hb:¬c.snd<max v (-v)):B9 Tryz.prog 52 1 (DV l) [.elt 0 0 k 0,.i key,.i v,.b true] 1 (DV (l.set k (N0 (X9 key v true c)))) (.tup []):=by
 have lk:=Eh hk
 obtain⟨h1,h2,h3,h4⟩:=hc
 have lg:l[((k:Nat):Int).toNat]?=some (N0 c):=by rw[Int.toNat_natCast];exact hk
 obtain⟨codes,cnt,sum,amo,fst,snd,rows⟩:=c
 dsimp only at h1 h2 h3 h4 ha hb
 have lr:X9 key v true ⟨codes,cnt,sum,amo,fst,snd,rows⟩=⟨codes,cnt+1,sum+v,amo+max v (-v),fst,snd,rows++[key]⟩:=by
  unfold X9
  rw[if_neg (by decide),if_neg ha,if_neg hb]
 rw[lr]
 have tU:max v (-v)≤1099511627776∧0≤max v (-v):=by omega
 dsimp only[DV]
 refine V9 Tryz.func52 77 fun E h0=>?_
 repeat'((first|(refine Fz (i:=0) (List.getElem?_set_self (by first|exact lk|(simp only[List.length_set];exact lk))) rfl rfl rfl rfl rfl ?_)|(refine GA (i:=0) (List.getElem?_set_self (by first|exact lk|(simp only[List.length_set];exact lk))) rfl rfl rfl rfl rfl rfl rfl rfl rfl ?_)|refine er ?_ |refine S2 ?_|(refine T6 ?_ ?_<;>intro h<;>try exact V1 h)|intro el lU lV|intro el lU|exact T4|refine T5 ?_ ?_|intro ex)<;>try conv=>whnf)
 all_goals first
  |(exfalso;omega)
  |(exfalso;dsimp only at *;omega)
  |(delta C8;exact .inl ⟨[],[],rfl,trivial,rfl,rfl,A9 h0 rfl trivial ⟨⟨_,congrArg (C6.row (T9+j5) 7 _) (by simp only[List.set_set,N0,List.map_append];rfl)⟩,trivial⟩ rfl rfl rfl,rfl⟩)
theorem Nw(l:List (List AV))(k:Nat)(c:J7)(hk:l[k]?=some (N0 c))(hc:PA c)(key v:Int)(hv:-1099511627776≤v∧v≤1099511627776)(m:Bool):B9 Tryz.prog 52 1 (DV l) [.elt 0 0 k 0,.i key,.i v,.b m] 1 (DV (l.set k (N0 (X9 key v m c)))) (.tup []):=by
 cases m with
 |false=>exact jd l k c hk hc key v
 |true =>
  by_cases ha:c.fst<max v (-v)
  ·exact kU l k c hk hc key v hv ha
  ·by_cases hb:c.snd<max v (-v)
   ·exact kV l k c hk hc key v hv ha hb
   ·exact kW l k c hk hc key v hv ha hb
def Bi(codes cell:List Int):Bool:=(cell.zip codes).all fun q=>decide (q.1=-1∨q.1=q.2)
theorem Ti{α:Type}{p:α→Bool}{l:List α}{k:Nat}{x:α}(hx:l[k]?=some x)(h:p x=false):l.all p=false:=by
 rw[List.all_eq_false]
 exact⟨x,List.mem_of_getElem? hx,by rw[h];decide⟩
theorem Qa{α:Type}{p:α→Bool}{l:List α}{k:Nat}{x:α}(hx:l[k]?=some x)(h:(l.take k).all p=true)(hp:p x=true):(l.take (k+1)).all p=true:=by
 rw[H6 hx,List.all_append,h]
 simp[hp]
theorem LJ(codes cell:List Int)(hl:cell.length≤codes.length):A3 Tryz.prog 76 [.sl 1 (codes.map wA),.sl 1 (cell.map wA)] (.b (Bi codes cell)):=by
 unfold Bi
 generalize hz:cell.zip codes=zs
 have wg:zs.length=cell.length:=by rw[←hz,List.length_zip];omega
 refine B6 Tryz.func76 25 fun lW E h0=>?_
 have lX:cell.length≤9223372036854775807:=by have:=(lW (.sl 1 (cell.map wA)) (by simp)).sl;simpa using this
 clear lW
 repeat'((first|refine S2 ?_|(refine T6 ?_ ?_<;>intro h<;>try exact V1 h)|intro el lU lV|intro el lU|exact T4|refine T5 ?_ ?_|intro ex)<;>try conv=>whnf)
 refine B0 (ι:=Nat) (fun k=>⟨[(0,.sl 1 (codes.map wA)),(7,.sl 1 (cell.map wA)),(8,.i cell.length),(9,.i k)],0,[]⟩)
  (fun k=>k≤cell.length∧(zs.take k).all (fun q=>decide (q.1=-1∨q.1=q.2))=true) (fun k=>cell.length-k) 0 ⟨Nat.zero_le _,rfl⟩
  (A6 h0) (fun k hK=>?_)
 obtain⟨nr,hK⟩:=hK
 by_cases lk:k<cell.length
 ·obtain⟨c,hc⟩:∃c,cell[k]?=some c:=⟨_,List.getElem?_eq_getElem lk⟩
  obtain⟨d,hd⟩:∃d,codes[k]?=some d:=⟨_,List.getElem?_eq_getElem (by omega)⟩
  have hq:zs[k]?=some (c,d):=by rw[←hz,List.getElem?_zip_eq_some];exact⟨hc,hd⟩
  have ng:cell[((k:Nat):Int).toNat]?=some c:=hc
  have qR:codes[((k:Nat):Int).toNat]?=some d:=hd
  have qC:¬c=-1→¬c=d→zs.all (fun q=>decide (q.1=-1∨q.1=q.2))=false:=fun h1 h2=>Ti hq (by simp[h1,h2])
  have nO:c=-1∨c=d→(zs.take (k+1)).all (fun q=>decide (q.1=-1∨q.1=q.2))=true:=fun h=>Qa hq hK (by simpa using h)
  repeat'((first|(refine A2 (x:=c) ng (by omega) ?_)|(refine A2 (x:=d) qR (by omega) ?_)|(refine B3 ?_ ?_;kernel_rfl) |refine S2 ?_|(refine T6 ?_ ?_<;>intro h<;>try exact V1 h)|intro el lU lV|intro el lU|exact T4|refine T5 ?_ ?_|intro ex)<;>try conv=>whnf)
  all_goals first
   |(exfalso;omega)
   |exact⟨k+1,⟨by omega,nO (by omega)⟩,by omega,A6 h0⟩
   |exact A0 rfl (congrArg AV.b (qC (by omega) (by omega)).symm)
 ·have he:zs.take k=zs:=List.take_of_length_le (by omega)
  rw[he]at hK
  rw[hK]
  repeat'((first|refine S2 ?_|(refine T6 ?_ ?_<;>intro h<;>try exact V1 h)|intro el lU lV|intro el lU|exact T4|refine T5 ?_ ?_|intro ex)<;>try conv=>whnf)
  all_goals first
   |(exfalso;omega)
   |exact A0 rfl rfl
theorem LK(l:List (List AV))(n:Nat)(own:List Int):B9 Tryz.prog 51 1 (DV l) [.row 0 0 n,.sl 1 (own.map wA)] 3 [(0,some (.row (T9+j5) 7 0 l)),(1,some (.box [.row 0 0 n])),(2,some (.box [.sl 1 (own.map wA)]))] (.fo 113 [.ref 1 0,.ref 2 0]):=by
 dsimp only[DV]
 refine V9 Tryz.func51 6 fun E h0=>?_
 repeat'((first|refine⟨Lf rfl rfl ?_⟩|refine Lf rfl rfl ?_ |refine S2 ?_|(refine T6 ?_ ?_<;>intro h<;>try exact V1 h)|intro el lU lV|intro el lU|exact T4|refine T5 ?_ ?_|intro ex)<;>try conv=>whnf)
 all_goals first
  |exact H4 (A6 h0)
def Ao(own:List Int)(f:J7→J7)(L:List J7)(k:Nat):List J7:=(L.take k).map (fun c=>if Bi own c.codes=true then f c else c)++L.drop k
theorem aZ(own:List Int)(f:J7→J7)(L:List J7):Ao own f L 0=L:=by simp[Ao]
theorem dS(own:List Int)(f:J7→J7)(L:List J7){k:Nat}(h:L.length≤k):Ao own f L k=L.map (fun c=>if Bi own c.codes=true then f c else c):=by
 unfold Ao
 rw[List.take_of_length_le h,List.drop_eq_nil_of_le h,List.append_nil]
theorem dT(own:List Int)(f:J7→J7)(L:List J7)(k:Nat):(Ao own f L k).length=L.length:=by simp[Ao];omega
theorem Tj{own:List Int}{f:J7→J7}{L:List J7}{k:Nat}{c:J7}(h:L[k]?=some c):(Ao own f L k)[k]?=some c:=by
 have:=F5 h
 unfold Ao
 rw[List.getElem?_append_right (by simp;omega),List.length_map,List.length_take,show k-min k L.length=0 by omega,List.getElem?_drop]
 exact h
theorem gQ{own:List Int}{f:J7→J7}{L:List J7}{k:Nat}{c:J7}(h:L[k]?=some c)(hi:Bi own c.codes=false):Ao own f L (k+1)=Ao own f L k:=by
 unfold Ao
 rw[H6 h,G3 h,List.map_append,List.append_assoc]
 simp[hi]
theorem dU{own:List Int}{f:J7→J7}{L:List J7}{k:Nat}{c:J7}(h:L[k]?=some c)(hi:Bi own c.codes=true):Ao own f L (k+1)=(Ao own f L k).set k (f c):=by
 have:=F5 h
 unfold Ao
 rw[H6 h,G3 h,List.map_append,List.append_assoc]
 simp only[List.map_cons,List.map_nil,hi,if_true,List.singleton_append]
 rw[List.set_append_right _ _ (by simp;omega)]
 simp[show k-min k L.length=0 by omega]
abbrev je(l:List (List AV))(n:Nat)(own:List Int):Hp:=[(0,some (.row (T9+j5) 7 0 l)),(1,some (.box [.row 0 0 n])),(2,some (.box [.sl 1 (own.map wA)]))]
abbrev jf(l:List (List AV))(n:Nat):Hp:=[(0,some (.row (T9+j5) 7 0 l)),(1,some (.box [.row 0 0 n])),(2,none)]
attribute [local irreducible] GX EM KW Gx
theorem Jd(l:Nat)(rc:Loop)(slc:List (Nat×AV))(own:List Int)(f:J7→J7)(L:List J7)(hL:L.length≤9223372036854775807)(lX:∀c∈L,c.codes.length≤own.length)
  (hY:∀(M:List J7) (k:Nat) c,M.length=L.length→M[k]?=some c→c∈L→KW Tryz.prog l rc slc 1 (DV (M.map N0)) [.elt 0 0 k 0] 1 (DV ((M.set k (f c)).map N0))) :
  Gx Tryz.prog 113 l rc slc 3 (je (L.map N0) L.length own) [.v (.func (.yield l) #[] #[]),.ref 1 0,.ref 2 0] 3 (jf ((L.map (fun c=>if Bi own c.codes=true then f c else c)).map N0) L.length) (.tup []):=by
 refine lG Tryz.func113 26 fun E h0 hE hO=>?_
 refine AC (A9 (σ':=⟨[(0,.v (.func (.yield l) #[] #[])),(1,.ref 1 0),(2,.iptr [.sl 1 (own.map wA)])],3,[(0,some (.row (T9+j5) 7 0 (L.map N0))),(1,some (.box [.row 0 0 L.length]))]⟩) h0 rfl ⟨rfl,rfl,rfl,trivial⟩ ⟨⟨_,rfl⟩,rfl,trivial⟩ rfl rfl rfl) ?_
 repeat'((first|refine S2 ?_|(refine T6 ?_ ?_<;>intro h<;>try exact V1 h)|intro el lU lV|intro el lU|exact T4|refine T5 ?_ ?_|intro ex)<;>try conv=>whnf)
 refine B0 (ι:=Nat) (fun k=>⟨[(0,.v (.func (.yield l) #[] #[])),(1,.ref 1 0),(2,.iptr [.sl 1 (own.map wA)]),(6,.i L.length),(7,.i k)],3,[(0,some (.row (T9+j5) 7 0 ((Ao own f L k).map N0))),(1,some (.box [.row 0 0 L.length]))]⟩)
  (fun k=>k≤L.length) (fun k=>L.length-k) 0 (Nat.zero_le _)
  (A9 h0 rfl ⟨rfl,rfl,rfl,congrArg (fun z:Nat=>some (AV.i (z:Int))) (by simp),rfl,trivial⟩ ⟨⟨_,congrArg (C6.row (T9+j5) 7 _) (by rw[aZ])⟩,rfl,trivial⟩ rfl rfl rfl) (fun k hK=>?_)
 have vc:=dT own f L k
 by_cases lk:k<L.length
 ·obtain⟨c,hc⟩:∃c,L[k]?=some c:=⟨_,List.getElem?_eq_getElem lk⟩
  have mm:=LJ own c.codes (lX c (List.mem_of_getElem? hc))
  have hg:(Ao own f L k)[((k:Nat):Int).toNat]?=some c:=by rw[Int.toNat_natCast];exact Tj hc
  cases hi:Bi own c.codes with
  |false =>
   have ln:=gQ (f:=f) hc hi
   rw[hi]at mm
   repeat'((first|(refine A2 (x:=c) hg (by omega) ?_)|refine A1 mm ?_|(refine B3 ?_ ?_;kernel_rfl) |refine S2 ?_|(refine T6 ?_ ?_<;>intro h<;>try exact V1 h)|intro el lU lV|intro el lU|exact T4|refine T5 ?_ ?_|intro ex)<;>try conv=>whnf)
   all_goals first
    |(exfalso;omega)
    |exact⟨k+1,by omega,by omega,A9 h0 rfl ⟨rfl,rfl,rfl,rfl,rfl,trivial⟩ ⟨⟨_,congrArg (C6.row (T9+j5) 7 _) (by rw[ln])⟩,rfl,trivial⟩ rfl rfl rfl⟩
  |true =>
   have yK:=dU (f:=f) hc hi
   rw[hi]at mm
   have hy:=hY (Ao own f L k) k c vc (Tj hc) (List.mem_of_getElem? hc)
   rw[←yK]at hy
   repeat'((first|(refine A2 (x:=c) hg (by omega) ?_)|refine A1 mm ?_|refine ja ?_ ?_|exact jZ|(refine jc (id:=3) ⟨[(0,.v (.func (.yield l) #[] #[])),(1,.ref 1 0),(2,.iptr [.sl 1 (own.map wA)]),(6,.i L.length),(7,.i k),(24,.b false)],3,[(0,some (.row (T9+j5) 7 0 ((Ao own f L (k+1)).map N0))),(1,some (.box [.row 0 0 L.length]))]⟩ ?_ ?_)|(refine YG rfl rfl ?_;refine YF [0] [0] hE hO hy rfl rfl rfl rfl ⟨rfl,trivial⟩ ?_)|refine dQ ?_|refine dP rfl ?_ |refine S2 ?_|(refine T6 ?_ ?_<;>intro h<;>try exact V1 h)|intro el lU lV|intro el lU|exact T4|refine T5 ?_ ?_|intro ex)<;>try conv=>whnf)
   all_goals first
    |(exfalso;omega)
    |exact A6 h0
    |exact⟨k+1,by omega,by omega,A6 h0⟩
 ·have nR:=dS own f L (k:=k) (by omega)
  repeat'((first|refine S2 ?_|(refine T6 ?_ ?_<;>intro h<;>try exact V1 h)|intro el lU lV|intro el lU|exact T4|refine T5 ?_ ?_|intro ex)<;>try conv=>whnf)
  all_goals first
   |(exfalso;omega)
   |(delta C8;exact .inl ⟨[],[],rfl,trivial,rfl,rfl,A9 h0 rfl trivial ⟨⟨_,congrArg (C6.row (T9+j5) 7 _) (by rw[nR])⟩,rfl,trivial⟩ rfl rfl rfl,rfl⟩)
mutual
def DH:B1→Int→Int
 |.mk _ _ _ _ _ ks,most=>Bd ks most 1
def Bd:List B1→Int→Int→Int
 |[],_,n=>n
 |x::r,most,n=>if n<most then Bd r most (n+DH x (most-n))else n
end
theorem Lx(c:B1)(m:Int):DH c m=Bd c.kids m 1:=by cases c;rfl
theorem dV(c:B1):∀m:Int,1≤DH c m∧DH c m≤max 1 m:=by
 refine N1 (p:=fun c=>∀m:Int,1≤DH c m∧DH c m≤max 1 m) (fun c ih m=>?_) c
 have key:∀(l:List B1),(∀k∈l,k∈c.kids)→∀n:Int,1≤n→n≤max 1 m→1≤Bd l m n∧Bd l m n≤max 1 m:=by
  intro l
  induction l with
  |nil=>intro _ n h1 h2;exact⟨h1,h2⟩
  |cons x r qZ =>
   intro hl n h1 h2
   unfold Bd
   split
   ·have:=ih x (hl x (by simp)) (m-n)
    exact qZ (fun k hk=>hl k (by simp[hk])) _ (by omega) (by omega)
   ·exact⟨h1,h2⟩
 rw[Lx]
 exact key c.kids (fun k hk=>hk) 1 (by omega) (by omega)
theorem dW(c:B1):∀m:Int,1≤m→DH c m=min (Z0 c:Int) m:=by
 refine N1 (p:=fun c=>∀m:Int,1≤m→DH c m=min (Z0 c:Int) m) (fun c ih m hm=>?_) c
 have key:∀(l:List B1),(∀k∈l,k∈c.kids)→∀n:Int,n≤m→Bd l m n=min (n+v7 l) m:=by
  intro l
  induction l with
  |nil=>intro _ n h;unfold Bd v7;omega
  |cons x r qZ =>
   intro hl n hn
   unfold Bd v7
   by_cases h:n<m
   ·have h1:=ih x (hl x (by simp)) (m-n) (by omega)
    rw[if_pos h,h1,qZ (fun k hk=>hl k (by simp[hk])) _ (by omega)]
    omega
   ·rw[if_neg h]
    omega
 rw[Lx,Eo,key c.kids (fun k hk=>hk) 1 hm]
 omega
theorem Tk(c:B1):∀(m:Int),-100000≤m→m≤100000→A3 Tryz.prog 86 [E0 c,.i m] (.i (DH c m)):=by
 refine N1 (p:=fun c=>∀(m:Int),-100000≤m→m≤100000→A3 Tryz.prog 86 [E0 c,.i m] (.i (DH c m))) (fun c ih m hm1 pP=>?_) c
 rw[F7,Lx]
 refine B6 Tryz.func86 31 fun lW E h0=>?_
 have lX:c.kids.length≤9223372036854775807:=by
  have:=((lW _ (List.mem_cons_self ..)).agg (.sl 6 (c.kids.map I6)) (by simp)).sl
  simpa using this
 clear lW
 repeat'((first|refine S2 ?_|(refine T6 ?_ ?_<;>intro h<;>try exact V1 h)|intro el lU lV|intro el lU|exact T4|refine T5 ?_ ?_|intro ex)<;>try conv=>whnf)
 refine B0 (ι:=Nat×Int) (fun x=>⟨[(1,.i m),(2,.ref 0 0),(5,.i x.2),(6,.i x.1)],1,[(0,some (.box (M8 c)))]⟩) (fun x=>x.1≤c.kids.length∧(1≤x.2∧x.2≤max 1 m)∧Bd c.kids m 1=Bd (c.kids.drop x.1) m x.2) (fun x=>c.kids.length-x.1) (0,1) ⟨Nat.zero_le _,by dsimp only;omega,rfl⟩
  (A6 h0) (fun x hI=>?_)
 obtain⟨k,n⟩:=x
 obtain⟨hk,hn,hI⟩:=hI
 dsimp only at hk hn hI ⊢
 have yT:=fun el=>dV el (m-n)
 repeat'((first|(refine A1 (ih _ (List.mem_of_getElem? (by assumption)) _ (by omega) (by omega)) ?_)|(refine I4 ?_ ?_;(have:=yT el;omega)) |refine S2 ?_|(refine T6 ?_ ?_<;>intro h<;>try exact V1 h)|intro el lU lV|intro el lU|exact T4|refine T5 ?_ ?_|intro ex)<;>try conv=>whnf)
 all_goals first
  |exact A0 rfl (congrArg AV.i (by rw[hI,S6 (by assumption)];rfl))
  |(obtain⟨x,hx⟩:∃x,c.kids[k]?=some x:=⟨_,List.getElem?_eq_getElem (by omega)⟩
    exact A0 rfl (congrArg AV.i (by rw[hI,G3 hx,Bd,if_neg (by assumption)])))
  |exact⟨(k+1,n+DH el (m-n)),⟨by dsimp only;omega,(by have:=yT el;dsimp only;omega),by rw[hI,G3 lU,Bd,if_pos (by assumption)]⟩,by dsimp only;omega,A6 h0⟩
theorem VF(c:B1):Y9 c≤100000→A3 Tryz.prog 87 [E0 c] (.i (Y9 c)):=by
 refine N1 (p:=fun c=>Y9 c≤100000→A3 Tryz.prog 87 [E0 c] (.i (Y9 c))) (fun c ih hd=>?_) c
 have oM:=Ok c.kids 0
 rw[KQ]at hd
 rw[F7,KQ]
 refine B6 Tryz.func87 22 fun lW E h0=>?_
 have lX:c.kids.length≤9223372036854775807:=by
  have:=((lW _ (List.mem_cons_self ..)).agg (.sl 6 (c.kids.map I6)) (by simp)).sl
  simpa using this
 clear lW
 repeat'((first|refine S2 ?_|(refine T6 ?_ ?_<;>intro h<;>try exact V1 h)|intro el lU lV|intro el lU|exact T4|refine T5 ?_ ?_|intro ex)<;>try conv=>whnf)
 refine B0 (ι:=Nat×Nat) (fun x=>⟨[(1,.ref 0 0),(3,.i x.2),(4,.i x.1)],1,[(0,some (.box (M8 c)))]⟩) (fun x=>x.1≤c.kids.length∧x.2≤p8 c.kids 0∧p8 c.kids 0=p8 (c.kids.drop x.1) x.2) (fun x=>c.kids.length-x.1) (0,0) ⟨Nat.zero_le _,Nat.zero_le _,rfl⟩
  (A6 h0) (fun x hI=>?_)
 obtain⟨k,n⟩:=x
 obtain⟨hk,hn,hI⟩:=hI
 dsimp only at hk hn hI ⊢
 have ug:∀el,c.kids[k]?=some el→Y9 el≤p8 c.kids 0:=fun el lU=>oM.2 el (List.mem_of_getElem? lU)
 repeat'((first|(refine A1 (ih _ (List.mem_of_getElem? (by assumption)) (by have:=ug el lU;omega)) ?_) |refine S2 ?_|(refine T6 ?_ ?_<;>intro h<;>try exact V1 h)|intro el lU lV|intro el lU|exact T4|refine T5 ?_ ?_|intro ex)<;>try conv=>whnf)
 all_goals first
  |exact A0 rfl (congrArg AV.i (by rw[hI,S6 (by assumption)];unfold p8;omega))
  |exact⟨(k+1,max n (Y9 el)),⟨by dsimp only;omega,(by have:=ug el lU;dsimp only;omega),by rw[hI,G3 lU,p8]⟩,by dsimp only;omega,A9 h0 rfl ⟨rfl,congrArg (fun z:Int=>some (AV.i z)) (by dsimp only;omega),rfl,trivial⟩ ⟨rfl,trivial⟩ rfl rfl rfl⟩
abbrev j6(s:A4)(col kind:Int):Bool:=decide (0≤col∧col<s.cols.length∧(C0 s col).kind=kind)
theorem gR(s:A4)(col kind:Int):A3 Tryz.prog 140 [sA s,.i col,.i kind] (.b (j6 s col kind)):=by
 refine B6 Tryz.func140 26 fun lW E h0=>?_
 clear lW
 repeat'((first|refine S2 ?_|(refine T6 ?_ ?_<;>intro h<;>try exact V1 h)|intro el lU lV|intro el lU|exact T4|refine T5 ?_ ?_|intro ex)<;>try conv=>whnf)
 all_goals first
  |exact A0 rfl (congrArg AV.b (by unfold j6;rw[decide_eq_false (by omega)]))
  |exact A0 rfl (congrArg AV.b (by unfold j6;rw[C1 lU,decide_eq_decide];omega))
end Go.Proofs.YtiphlhoclaogjaaGreatDoor

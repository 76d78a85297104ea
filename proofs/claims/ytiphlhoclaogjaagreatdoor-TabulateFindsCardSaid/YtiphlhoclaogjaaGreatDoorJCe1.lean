/- Chapter 18: the program's tables: one cell, and those around some codes. -/
import Derived.Test.YtiphlhoclaogjaaGreatDoorJAvJ
import Derived.Test.YtiphlhoclaogjaaGreatDoorJAvH
import Derived.Test.YtiphlhoclaogjaaGreatDoorJB7
import Derived.Test.YtiphlhoclaogjaaGreatDoorJTa5
import Derived.Test.YtiphlhoclaogjaaGreatDoorJB4
import Derived.Test.YtiphlhoclaogjaaGreatDoorJTa1
import Derived.Test.YtiphlhoclaogjaaGreatDoorJC1
set_option linter.unusedVariables false
set_option linter.unnecessarySimpa false
set_option linter.unusedSimpArgs false
set_option maxHeartbeats 64000000
namespace Go.Proofs.YtiphlhoclaogjaaGreatDoor
open Go Go.Av
attribute [local irreducible] C9 B3 C8 D1 DQ D0 C7 St.le A3 B8
set_option maxRecDepth 100000
structure G2 where
 codes:List Int
 cnt:Int
 sum:Int
 amo:Int
 fst:Int
 snd:Int
 rows:List Int
abbrev S4:Nat:=72
abbrev nF:Nat:=3
abbrev N3(c:G2):List AV:=[.sl 1 (c.codes.map wA),.i c.cnt,.i c.sum,.i c.amo,.i c.fst,.i c.snd,.own nF 1 (c.rows.map wA)]
abbrev O8(c:G2):List AV:=[.sl 1 (c.codes.map wA),.i c.cnt,.i c.sum,.i c.amo,.i c.fst,.i c.snd,.sl 1 (c.rows.map wA)]
def N4(key v:Int)(m:Bool)(c:G2):G2 :=
 if m=false then { c with cnt:=c.cnt+1,rows:=c.rows++[key] }
 else if c.fst<max v (-v)then { c with cnt:=c.cnt+1,rows:=c.rows++[key],sum:=c.sum+v,amo:=c.amo+max v (-v),fst:=max v (-v),snd:=c.fst }
 else if c.snd<max v (-v)then { c with cnt:=c.cnt+1,rows:=c.rows++[key],sum:=c.sum+v,amo:=c.amo+max v (-v),snd:=max v (-v) }
 else { c with cnt:=c.cnt+1,rows:=c.rows++[key],sum:=c.sum+v,amo:=c.amo+max v (-v) }
structure Ps(c:G2):Prop where
 cnt:0≤c.cnt∧c.cnt≤1000
 sum:-1000000000000000≤c.sum∧c.sum≤1000000000000000
 amo:0≤c.amo∧c.amo≤1000000000000000
 rows:c.rows.length≤1000
abbrev Dv(l:List (List AV)):Hp:=[(0,some (.row (U3+S4) 7 0 l))]
theorem FX{α:Type}{l:List α}{k:Nat}{x:α}(h:l[k]?=some x):k<l.length:=(List.getElem?_eq_some_iff.1 h).1
theorem lM(l:List (List AV))(k:Nat)(c:G2)(hk:l[k]?=some (N3 c))(hc:Ps c)(key v:Int):B8 Tryz.prog 52 1 (Dv l) [.elt 0 0 k 0,.i key,.i v,.b false] 1 (Dv (l.set k (N3 (N4 key v false c)))) (.tup []):=by
 have nU:=FX hk
 obtain⟨h1,h2,h3,h4⟩:=hc
 have nX:l[((k:Nat):Int).toNat]?=some (N3 c):=by rw[Int.toNat_natCast];exact hk
 obtain⟨codes,cnt,sum,amo,fst,snd,rows⟩:=c
 dsimp only at h1 h2 h3 h4
 have ng:N4 key v false ⟨codes,cnt,sum,amo,fst,snd,rows⟩=⟨codes,cnt+1,sum,amo,fst,snd,rows++[key]⟩:=rfl
 rw[ng]
 dsimp only[Dv]
 refine c9 Tryz.func52 77 fun E h0=>?_
 repeat'((first|(refine Gi (i:=0) (List.getElem?_set_self (by first|exact nU|(simp only[List.length_set];exact nU))) rfl rfl rfl rfl rfl ?_)|(refine Gj (i:=0) (List.getElem?_set_self (by first|exact nU|(simp only[List.length_set];exact nU))) rfl rfl rfl rfl rfl rfl rfl rfl rfl ?_)|refine gO ?_ |refine S2 ?_|(refine T6 ?_ ?_<;>intro h<;>try exact V1 h)|intro el nJ nK|intro el nJ|exact T4|refine T5 ?_ ?_|intro ex)<;>try conv=>whnf)
 all_goals first
  |(exfalso;omega)
  |(exfalso;dsimp only at *;omega)
  |(delta C7;exact .inl ⟨[],[],rfl,trivial,rfl,rfl,A7 h0 rfl trivial ⟨⟨_,congrArg (C4.row (U3+S4) 7 _) (by simp only[List.set_set,N3,List.map_append];rfl)⟩,trivial⟩ rfl rfl rfl,rfl⟩)
theorem mP(l:List (List AV))(k:Nat)(c:G2)(hk:l[k]?=some (N3 c))(hc:Ps c)(key v:Int)(hv:-1099511627776≤v∧v≤1099511627776)(ha:c.fst<max v (-v)):B8 Tryz.prog 52 1 (Dv l) [.elt 0 0 k 0,.i key,.i v,.b true] 1 (Dv (l.set k (N3 (N4 key v true c)))) (.tup []):=by
 have nU:=FX hk
 obtain⟨h1,h2,h3,h4⟩:=hc
 have nX:l[((k:Nat):Int).toNat]?=some (N3 c):=by rw[Int.toNat_natCast];exact hk
 obtain⟨codes,cnt,sum,amo,fst,snd,rows⟩:=c
 dsimp only at h1 h2 h3 h4 ha
 have ng:N4 key v true ⟨codes,cnt,sum,amo,fst,snd,rows⟩=⟨codes,cnt+1,sum+v,amo+max v (-v),max v (-v),fst,rows++[key]⟩:=by
  unfold N4
  rw[if_neg (by decide),if_pos ha]
 rw[ng]
 have ul:max v (-v)≤1099511627776∧0≤max v (-v):=by omega
 dsimp only[Dv]
 refine c9 Tryz.func52 77 fun E h0=>?_
 repeat'((first|(refine Gi (i:=0) (List.getElem?_set_self (by first|exact nU|(simp only[List.length_set];exact nU))) rfl rfl rfl rfl rfl ?_)|(refine Gj (i:=0) (List.getElem?_set_self (by first|exact nU|(simp only[List.length_set];exact nU))) rfl rfl rfl rfl rfl rfl rfl rfl rfl ?_)|refine gO ?_ |refine S2 ?_|(refine T6 ?_ ?_<;>intro h<;>try exact V1 h)|intro el nJ nK|intro el nJ|exact T4|refine T5 ?_ ?_|intro ex)<;>try conv=>whnf)
 all_goals first
  |(exfalso;omega)
  |(exfalso;dsimp only at *;omega)
  |(delta C7;exact .inl ⟨[],[],rfl,trivial,rfl,rfl,A7 h0 rfl trivial ⟨⟨_,congrArg (C4.row (U3+S4) 7 _) (by simp only[List.set_set,N3,List.map_append];rfl)⟩,trivial⟩ rfl rfl rfl,rfl⟩)
theorem mQ(l:List (List AV))(k:Nat)(c:G2)(hk:l[k]?=some (N3 c))(hc:Ps c)(key v:Int)(hv:-1099511627776≤v∧v≤1099511627776)(ha:¬c.fst<max v (-v))(hb:c.snd<max v (-v)):B8 Tryz.prog 52 1 (Dv l) [.elt 0 0 k 0,.i key,.i v,.b true] 1 (Dv (l.set k (N3 (N4 key v true c)))) (.tup []):=by
 have nU:=FX hk
 obtain⟨h1,h2,h3,h4⟩:=hc
 have nX:l[((k:Nat):Int).toNat]?=some (N3 c):=by rw[Int.toNat_natCast];exact hk
 obtain⟨codes,cnt,sum,amo,fst,snd,rows⟩:=c
 dsimp only at h1 h2 h3 h4 ha hb
 have ng:N4 key v true ⟨codes,cnt,sum,amo,fst,snd,rows⟩=⟨codes,cnt+1,sum+v,amo+max v (-v),fst,max v (-v),rows++[key]⟩:=by
  unfold N4
  rw[if_neg (by decide),if_neg ha,if_pos hb]
 rw[ng]
 have ul:max v (-v)≤1099511627776∧0≤max v (-v):=by omega
 dsimp only[Dv]
 refine c9 Tryz.func52 77 fun E h0=>?_
 repeat'((first|(refine Gi (i:=0) (List.getElem?_set_self (by first|exact nU|(simp only[List.length_set];exact nU))) rfl rfl rfl rfl rfl ?_)|(refine Gj (i:=0) (List.getElem?_set_self (by first|exact nU|(simp only[List.length_set];exact nU))) rfl rfl rfl rfl rfl rfl rfl rfl rfl ?_)|refine gO ?_ |refine S2 ?_|(refine T6 ?_ ?_<;>intro h<;>try exact V1 h)|intro el nJ nK|intro el nJ|exact T4|refine T5 ?_ ?_|intro ex)<;>try conv=>whnf)
 all_goals first
  |(exfalso;omega)
  |(exfalso;dsimp only at *;omega)
  |(delta C7;exact .inl ⟨[],[],rfl,trivial,rfl,rfl,A7 h0 rfl trivial ⟨⟨_,congrArg (C4.row (U3+S4) 7 _) (by simp only[List.set_set,N3,List.map_append];rfl)⟩,trivial⟩ rfl rfl rfl,rfl⟩)
theorem mR(l:List (List AV))(k:Nat)(c:G2)(hk:l[k]?=some (N3 c))(hc:Ps c)(key v:Int)(hv:-1099511627776≤v∧v≤1099511627776)(ha:¬c.fst<max v (-v))(hb:¬c.snd<max v (-v)):B8 Tryz.prog 52 1 (Dv l) [.elt 0 0 k 0,.i key,.i v,.b true] 1 (Dv (l.set k (N3 (N4 key v true c)))) (.tup []):=by
 have nU:=FX hk
 obtain⟨h1,h2,h3,h4⟩:=hc
 have nX:l[((k:Nat):Int).toNat]?=some (N3 c):=by rw[Int.toNat_natCast];exact hk
 obtain⟨codes,cnt,sum,amo,fst,snd,rows⟩:=c
 dsimp only at h1 h2 h3 h4 ha hb
 have ng:N4 key v true ⟨codes,cnt,sum,amo,fst,snd,rows⟩=⟨codes,cnt+1,sum+v,amo+max v (-v),fst,snd,rows++[key]⟩:=by
  unfold N4
  rw[if_neg (by decide),if_neg ha,if_neg hb]
 rw[ng]
 have ul:max v (-v)≤1099511627776∧0≤max v (-v):=by omega
 dsimp only[Dv]
 refine c9 Tryz.func52 77 fun E h0=>?_
 repeat'((first|(refine Gi (i:=0) (List.getElem?_set_self (by first|exact nU|(simp only[List.length_set];exact nU))) rfl rfl rfl rfl rfl ?_)|(refine Gj (i:=0) (List.getElem?_set_self (by first|exact nU|(simp only[List.length_set];exact nU))) rfl rfl rfl rfl rfl rfl rfl rfl rfl ?_)|refine gO ?_ |refine S2 ?_|(refine T6 ?_ ?_<;>intro h<;>try exact V1 h)|intro el nJ nK|intro el nJ|exact T4|refine T5 ?_ ?_|intro ex)<;>try conv=>whnf)
 all_goals first
  |(exfalso;omega)
  |(exfalso;dsimp only at *;omega)
  |(delta C7;exact .inl ⟨[],[],rfl,trivial,rfl,rfl,A7 h0 rfl trivial ⟨⟨_,congrArg (C4.row (U3+S4) 7 _) (by simp only[List.set_set,N3,List.map_append];rfl)⟩,trivial⟩ rfl rfl rfl,rfl⟩)
theorem Oi(l:List (List AV))(k:Nat)(c:G2)(hk:l[k]?=some (N3 c))(hc:Ps c)(key v:Int)(hv:-1099511627776≤v∧v≤1099511627776)(m:Bool):B8 Tryz.prog 52 1 (Dv l) [.elt 0 0 k 0,.i key,.i v,.b m] 1 (Dv (l.set k (N3 (N4 key v m c)))) (.tup []):=by
 cases m with
 |false=>exact lM l k c hk hc key v
 |true =>
  by_cases ha:c.fst<max v (-v)
  ·exact mP l k c hk hc key v hv ha
  ·by_cases hb:c.snd<max v (-v)
   ·exact mQ l k c hk hc key v hv ha hb
   ·exact mR l k c hk hc key v hv ha hb
def AP(codes cell:List Int):Bool:=(cell.zip codes).all fun q=>decide (q.1=-1∨q.1=q.2)
theorem Ml{α:Type}{p:α→Bool}{l:List α}{k:Nat}{x:α}(hx:l[k]?=some x)(h:p x=false):l.all p=false:=by
 rw[List.all_eq_false]
 exact⟨x,List.mem_of_getElem? hx,by rw[h];decide⟩
theorem KL{α:Type}{p:α→Bool}{l:List α}{k:Nat}{x:α}(hx:l[k]?=some x)(h:(l.take k).all p=true)(hp:p x=true):(l.take (k+1)).all p=true:=by
 rw[F1 hx,List.all_append,h]
 simp[hp]
theorem Lt(codes cell:List Int)(hl:cell.length≤codes.length):A3 Tryz.prog 76 [.sl 1 (codes.map wA),.sl 1 (cell.map wA)] (.b (AP codes cell)):=by
 unfold AP
 generalize hz:cell.zip codes=zs
 have wh:zs.length=cell.length:=by rw[←hz,List.length_zip];omega
 refine B5 Tryz.func76 25 fun nL E h0=>?_
 have nM:cell.length≤9223372036854775807:=by have:=(nL (.sl 1 (cell.map wA)) (by simp)).sl;simpa using this
 clear nL
 repeat'((first|refine S2 ?_|(refine T6 ?_ ?_<;>intro h<;>try exact V1 h)|intro el nJ nK|intro el nJ|exact T4|refine T5 ?_ ?_|intro ex)<;>try conv=>whnf)
 refine B0 (ι:=Nat) (fun k=>⟨[(0,.sl 1 (codes.map wA)),(7,.sl 1 (cell.map wA)),(8,.i cell.length),(9,.i k)],0,[]⟩)
  (fun k=>k≤cell.length∧(zs.take k).all (fun q=>decide (q.1=-1∨q.1=q.2))=true) (fun k=>cell.length-k) 0 ⟨Nat.zero_le _,rfl⟩
  (A6 h0) (fun k hK=>?_)
 obtain⟨pd,hK⟩:=hK
 by_cases nU:k<cell.length
 ·obtain⟨c,hc⟩:∃c,cell[k]?=some c:=⟨_,List.getElem?_eq_getElem nU⟩
  obtain⟨d,hd⟩:∃d,codes[k]?=some d:=⟨_,List.getElem?_eq_getElem (by omega)⟩
  have hq:zs[k]?=some (c,d):=by rw[←hz,List.getElem?_zip_eq_some];exact⟨hc,hd⟩
  have ow:cell[((k:Nat):Int).toNat]?=some c:=hc
  have qa:codes[((k:Nat):Int).toNat]?=some d:=hd
  have rE:¬c=-1→¬c=d→zs.all (fun q=>decide (q.1=-1∨q.1=q.2))=false:=fun h1 h2=>Ml hq (by simp[h1,h2])
  have ol:c=-1∨c=d→(zs.take (k+1)).all (fun q=>decide (q.1=-1∨q.1=q.2))=true:=fun h=>KL hq hK (by simpa using h)
  repeat'((first|(refine A2 (x:=c) ow (by omega) ?_)|(refine A2 (x:=d) qa (by omega) ?_)|(refine A9 ?_ ?_;kernel_rfl) |refine S2 ?_|(refine T6 ?_ ?_<;>intro h<;>try exact V1 h)|intro el nJ nK|intro el nJ|exact T4|refine T5 ?_ ?_|intro ex)<;>try conv=>whnf)
  all_goals first
   |(exfalso;omega)
   |exact⟨k+1,⟨by omega,ol (by omega)⟩,by omega,A6 h0⟩
   |exact A1 rfl (congrArg AV.b (rE (by omega) (by omega)).symm)
 ·have he:zs.take k=zs:=List.take_of_length_le (by omega)
  rw[he]at hK
  rw[hK]
  repeat'((first|refine S2 ?_|(refine T6 ?_ ?_<;>intro h<;>try exact V1 h)|intro el nJ nK|intro el nJ|exact T4|refine T5 ?_ ?_|intro ex)<;>try conv=>whnf)
  all_goals first
   |(exfalso;omega)
   |exact A1 rfl rfl
theorem Lu(l:List (List AV))(n:Nat)(own:List Int):B8 Tryz.prog 51 1 (Dv l) [.row 0 0 n,.sl 1 (own.map wA)] 3 [(0,some (.row (U3+S4) 7 0 l)),(1,some (.box [.row 0 0 n])),(2,some (.box [.sl 1 (own.map wA)]))] (.fo 113 [.ref 1 0,.ref 2 0]):=by
 dsimp only[Dv]
 refine c9 Tryz.func51 6 fun E h0=>?_
 repeat'((first|refine⟨MS rfl rfl ?_⟩|refine MS rfl rfl ?_ |refine S2 ?_|(refine T6 ?_ ?_<;>intro h<;>try exact V1 h)|intro el nJ nK|intro el nJ|exact T4|refine T5 ?_ ?_|intro ex)<;>try conv=>whnf)
 all_goals first
  |exact H6 (A6 h0)
def BI(own:List Int)(f:G2→G2)(L:List G2)(k:Nat):List G2:=(L.take k).map (fun c=>if AP own c.codes=true then f c else c)++L.drop k
theorem bc(own:List Int)(f:G2→G2)(L:List G2):BI own f L 0=L:=by simp[BI]
theorem ee(own:List Int)(f:G2→G2)(L:List G2){k:Nat}(h:L.length≤k):BI own f L k=L.map (fun c=>if AP own c.codes=true then f c else c):=by
 unfold BI
 rw[List.take_of_length_le h,List.drop_eq_nil_of_le h,List.append_nil]
theorem eh(own:List Int)(f:G2→G2)(L:List G2)(k:Nat):(BI own f L k).length=L.length:=by simp[BI];omega
theorem UZ{own:List Int}{f:G2→G2}{L:List G2}{k:Nat}{c:G2}(h:L[k]?=some c):(BI own f L k)[k]?=some c:=by
 have:=E9 h
 unfold BI
 rw[List.getElem?_append_right (by simp;omega),List.length_map,List.length_take,show k-min k L.length=0 by omega,List.getElem?_drop]
 exact h
theorem iv{own:List Int}{f:G2→G2}{L:List G2}{k:Nat}{c:G2}(h:L[k]?=some c)(hi:AP own c.codes=false):BI own f L (k+1)=BI own f L k:=by
 unfold BI
 rw[F1 h,F7 h,List.map_append,List.append_assoc]
 simp[hi]
theorem ep{own:List Int}{f:G2→G2}{L:List G2}{k:Nat}{c:G2}(h:L[k]?=some c)(hi:AP own c.codes=true):BI own f L (k+1)=(BI own f L k).set k (f c):=by
 have:=E9 h
 unfold BI
 rw[F1 h,F7 h,List.map_append,List.append_assoc]
 simp only[List.map_cons,List.map_nil,hi,if_true,List.singleton_append]
 rw[List.set_append_right _ _ (by simp;omega)]
 simp[show k-min k L.length=0 by omega]
abbrev lN(l:List (List AV))(n:Nat)(own:List Int):Hp:=[(0,some (.row (U3+S4) 7 0 l)),(1,some (.box [.row 0 0 n])),(2,some (.box [.sl 1 (own.map wA)]))]
abbrev lO(l:List (List AV))(n:Nat):Hp:=[(0,some (.row (U3+S4) 7 0 l)),(1,some (.box [.row 0 0 n])),(2,none)]
attribute [local irreducible] HH Et LF Hi
theorem KM(l:Nat)(rc:Loop)(slc:List (Nat×AV))(own:List Int)(f:G2→G2)(L:List G2)(hL:L.length≤9223372036854775807)(nM:∀c∈L,c.codes.length≤own.length)
  (hY:∀(M:List G2) (k:Nat) c,M.length=L.length→M[k]?=some c→c∈L→LF Tryz.prog l rc slc 1 (Dv (M.map N3)) [.elt 0 0 k 0] 1 (Dv ((M.set k (f c)).map N3))) :
  Hi Tryz.prog 113 l rc slc 3 (lN (L.map N3) L.length own) [.v (.func (.yield l) #[] #[]),.ref 1 0,.ref 2 0] 3 (lO ((L.map (fun c=>if AP own c.codes=true then f c else c)).map N3) L.length) (.tup []):=by
 refine mu Tryz.func113 26 fun E h0 hE hO=>?_
 refine P3 (A7 (σ':=⟨[(0,.v (.func (.yield l) #[] #[])),(1,.ref 1 0),(2,.iptr [.sl 1 (own.map wA)])],3,[(0,some (.row (U3+S4) 7 0 (L.map N3))),(1,some (.box [.row 0 0 L.length]))]⟩) h0 rfl ⟨rfl,rfl,rfl,trivial⟩ ⟨⟨_,rfl⟩,rfl,trivial⟩ rfl rfl rfl) ?_
 repeat'((first|refine S2 ?_|(refine T6 ?_ ?_<;>intro h<;>try exact V1 h)|intro el nJ nK|intro el nJ|exact T4|refine T5 ?_ ?_|intro ex)<;>try conv=>whnf)
 refine B0 (ι:=Nat) (fun k=>⟨[(0,.v (.func (.yield l) #[] #[])),(1,.ref 1 0),(2,.iptr [.sl 1 (own.map wA)]),(6,.i L.length),(7,.i k)],3,[(0,some (.row (U3+S4) 7 0 ((BI own f L k).map N3))),(1,some (.box [.row 0 0 L.length]))]⟩)
  (fun k=>k≤L.length) (fun k=>L.length-k) 0 (Nat.zero_le _)
  (A7 h0 rfl ⟨rfl,rfl,rfl,congrArg (fun z:Nat=>some (AV.i (z:Int))) (by simp),rfl,trivial⟩ ⟨⟨_,congrArg (C4.row (U3+S4) 7 _) (by rw[bc])⟩,rfl,trivial⟩ rfl rfl rfl) (fun k hK=>?_)
 have yC:=eh own f L k
 by_cases nU:k<L.length
 ·obtain⟨c,hc⟩:∃c,L[k]?=some c:=⟨_,List.getElem?_eq_getElem nU⟩
  have oc:=Lt own c.codes (nM c (List.mem_of_getElem? hc))
  have hg:(BI own f L k)[((k:Nat):Int).toNat]?=some c:=by rw[Int.toNat_natCast];exact UZ hc
  cases hi:AP own c.codes with
  |false =>
   have nf:=iv (f:=f) hc hi
   rw[hi]at oc
   repeat'((first|(refine A2 (x:=c) hg (by omega) ?_)|refine A0 oc ?_|(refine A9 ?_ ?_;kernel_rfl) |refine S2 ?_|(refine T6 ?_ ?_<;>intro h<;>try exact V1 h)|intro el nJ nK|intro el nJ|exact T4|refine T5 ?_ ?_|intro ex)<;>try conv=>whnf)
   all_goals first
    |(exfalso;omega)
    |exact⟨k+1,by omega,by omega,A7 h0 rfl ⟨rfl,rfl,rfl,rfl,rfl,trivial⟩ ⟨⟨_,congrArg (C4.row (U3+S4) 7 _) (by rw[nf])⟩,rfl,trivial⟩ rfl rfl rfl⟩
  |true =>
   have AD9:=ep (f:=f) hc hi
   rw[hi]at oc
   have hy:=hY (BI own f L k) k c yC (UZ hc) (List.mem_of_getElem? hc)
   rw[←AD9]at hy
   repeat'((first|(refine A2 (x:=c) hg (by omega) ?_)|refine A0 oc ?_|refine lJ ?_ ?_|exact lI|(refine lL (id:=3) ⟨[(0,.v (.func (.yield l) #[] #[])),(1,.ref 1 0),(2,.iptr [.sl 1 (own.map wA)]),(6,.i L.length),(7,.i k),(24,.b false)],3,[(0,some (.row (U3+S4) 7 0 ((BI own f L (k+1)).map N3))),(1,some (.box [.row 0 0 L.length]))]⟩ ?_ ?_)|(refine Yw rfl rfl ?_;refine Yv [0] [0] hE hO hy rfl rfl rfl rfl ⟨rfl,trivial⟩ ?_)|refine eZ ?_|refine eY rfl ?_ |refine S2 ?_|(refine T6 ?_ ?_<;>intro h<;>try exact V1 h)|intro el nJ nK|intro el nJ|exact T4|refine T5 ?_ ?_|intro ex)<;>try conv=>whnf)
   all_goals first
    |(exfalso;omega)
    |exact A6 h0
    |exact⟨k+1,by omega,by omega,A6 h0⟩
 ·have oz:=ee own f L (k:=k) (by omega)
  repeat'((first|refine S2 ?_|(refine T6 ?_ ?_<;>intro h<;>try exact V1 h)|intro el nJ nK|intro el nJ|exact T4|refine T5 ?_ ?_|intro ex)<;>try conv=>whnf)
  all_goals first
   |(exfalso;omega)
   |(delta C7;exact .inl ⟨[],[],rfl,trivial,rfl,rfl,A7 h0 rfl trivial ⟨⟨_,congrArg (C4.row (U3+S4) 7 _) (by rw[oz])⟩,rfl,trivial⟩ rfl rfl rfl,rfl⟩)
theorem Yy(xs ys:List Int):A3 Tryz.prog 23 [.sl 1 (xs.map wA),.sl 1 (ys.map wA)] (.b (decide (xs=ys))):=by
 refine B5 Tryz.func23 26 fun nL E h0=>?_
 have nM:xs.length≤9223372036854775807:=by
  have:=(nL (.sl 1 (xs.map wA)) (by simp)).sl
  simpa using this
 have rp:ys.length≤9223372036854775807:=by
  have:=(nL (.sl 1 (ys.map wA)) (by simp)).sl
  simpa using this
 clear nL
 repeat'((first|refine S2 ?_|(refine T6 ?_ ?_<;>intro h<;>try exact V1 h)|intro el nJ nK|intro el nJ|exact T4|refine T5 ?_ ?_|intro ex)<;>try conv=>whnf)
 ·exact A1 rfl (congrArg AV.b (by
   have:xs≠ys:=by intro e;subst e;omega
   simp[this]))
 have hl:xs.length=ys.length:=by omega
 refine B0 (ι:=Nat) (fun k=>⟨[(0,.sl 1 (xs.map wA)),(1,.sl 1 (ys.map wA)),(5,.i k)],0,[]⟩) (fun k=>k≤xs.length∧ys.take k=xs.take k) (fun k=>xs.length-k) 0 ⟨Nat.zero_le _,rfl⟩ (A6 h0) (fun k hI=>?_)
 obtain⟨hk,hI⟩:=hI
 by_cases nN:k<xs.length
 ·obtain⟨x,hx⟩:∃x,xs[k]?=some x:=⟨_,List.getElem?_eq_getElem nN⟩
  obtain⟨y,hy⟩:∃y,ys[k]?=some y:=⟨_,List.getElem?_eq_getElem (by omega)⟩
  repeat'((first|(refine A2 (x:=x) hx (by omega) ?_)|(refine A2 (x:=y) hy (by omega) ?_)|(refine A9 ?_ ?_;kernel_rfl) |refine S2 ?_|(refine T6 ?_ ?_<;>intro h<;>try exact V1 h)|intro el nJ nK|intro el nJ|exact T4|refine T5 ?_ ?_|intro ex)<;>try conv=>whnf)
  all_goals first
   |(exfalso;omega)
   |(refine A1 rfl (congrArg AV.b (decide_eq_false (fun e=>?_)).symm)
     subst e
     rw[hx]at hy
     cases hy
     omega)
   |exact⟨k+1,⟨by omega,by rw[F1 hx,F1 hy,hI];congr 2;omega⟩,by omega,A6 h0⟩
 ·repeat'((first|refine S2 ?_|(refine T6 ?_ ?_<;>intro h<;>try exact V1 h)|intro el nJ nK|intro el nJ|exact T4|refine T5 ?_ ?_|intro ex)<;>try conv=>whnf)
  all_goals first
   |(exfalso;omega)
   |(refine A1 rfl (congrArg AV.b (decide_eq_true ?_).symm)
     rw[List.take_of_length_le (by omega),List.take_of_length_le (by omega)]at hI
     exact hI.symm)
mutual
def Di:B7→Int→Int
 |.mk _ _ _ _ _ ks,most=>CF ks most 1
def CF:List B7→Int→Int→Int
 |[],_,n=>n
 |x::r,most,n=>if n<most then CF r most (n+Di x (most-n))else n
end
theorem Mm(c:B7)(m:Int):Di c m=CF c.kids m 1:=by cases c;rfl
theorem er(c:B7):∀m:Int,1≤Di c m∧Di c m≤max 1 m:=by
 refine N6 (p:=fun c=>∀m:Int,1≤Di c m∧Di c m≤max 1 m) (fun c ih m=>?_) c
 have key:∀(l:List B7),(∀k∈l,k∈c.kids)→∀n:Int,1≤n→n≤max 1 m→1≤CF l m n∧CF l m n≤max 1 m:=by
  intro l
  induction l with
  |nil=>intro _ n h1 h2;exact⟨h1,h2⟩
  |cons x r su =>
   intro hl n h1 h2
   unfold CF
   split
   ·have:=ih x (hl x (by simp)) (m-n)
    exact su (fun k hk=>hl k (by simp[hk])) _ (by omega) (by omega)
   ·exact⟨h1,h2⟩
 rw[Mm]
 exact key c.kids (fun k hk=>hk) 1 (by omega) (by omega)
theorem eu(c:B7):∀m:Int,1≤m→Di c m=min (j7 c:Int) m:=by
 refine N6 (p:=fun c=>∀m:Int,1≤m→Di c m=min (j7 c:Int) m) (fun c ih m hm=>?_) c
 have key:∀(l:List B7),(∀k∈l,k∈c.kids)→∀n:Int,n≤m→CF l m n=min (n+AJ l) m:=by
  intro l
  induction l with
  |nil=>intro _ n h;unfold CF AJ;omega
  |cons x r su =>
   intro hl n hn
   unfold CF AJ
   by_cases h:n<m
   ·have h1:=ih x (hl x (by simp)) (m-n) (by omega)
    rw[if_pos h,h1,su (fun k hk=>hl k (by simp[hk])) _ (by omega)]
    omega
   ·rw[if_neg h]
    omega
 rw[Mm,Ff,key c.kids (fun k hk=>hk) 1 hm]
 omega
theorem Ua(c:B7):∀(m:Int),-100000≤m→m≤100000→A3 Tryz.prog 86 [D5 c,.i m] (.i (Di c m)):=by
 refine N6 (p:=fun c=>∀(m:Int),-100000≤m→m≤100000→A3 Tryz.prog 86 [D5 c,.i m] (.i (Di c m))) (fun c ih m hm1 sH=>?_) c
 rw[F8,Mm]
 refine B5 Tryz.func86 31 fun nL E h0=>?_
 have nM:c.kids.length≤9223372036854775807:=by
  have:=((nL _ (List.mem_cons_self ..)).agg (.sl 6 (c.kids.map K0)) (by simp)).sl
  simpa using this
 clear nL
 repeat'((first|refine S2 ?_|(refine T6 ?_ ?_<;>intro h<;>try exact V1 h)|intro el nJ nK|intro el nJ|exact T4|refine T5 ?_ ?_|intro ex)<;>try conv=>whnf)
 refine B0 (ι:=Nat×Int) (fun x=>⟨[(1,.i m),(2,.ref 0 0),(5,.i x.2),(6,.i x.1)],1,[(0,some (.box (M9 c)))]⟩) (fun x=>x.1≤c.kids.length∧(1≤x.2∧x.2≤max 1 m)∧CF c.kids m 1=CF (c.kids.drop x.1) m x.2) (fun x=>c.kids.length-x.1) (0,1) ⟨Nat.zero_le _,by dsimp only;omega,rfl⟩
  (A6 h0) (fun x hI=>?_)
 obtain⟨k,n⟩:=x
 obtain⟨hk,hn,hI⟩:=hI
 dsimp only at hk hn hI ⊢
 have hrb:=fun el=>er el (m-n)
 repeat'((first|(refine A0 (ih _ (List.mem_of_getElem? (by assumption)) _ (by omega) (by omega)) ?_)|(refine J0 ?_ ?_;(have:=hrb el;omega)) |refine S2 ?_|(refine T6 ?_ ?_<;>intro h<;>try exact V1 h)|intro el nJ nK|intro el nJ|exact T4|refine T5 ?_ ?_|intro ex)<;>try conv=>whnf)
 all_goals first
  |exact A1 rfl (congrArg AV.i (by rw[hI,T8 (by assumption)];rfl))
  |(obtain⟨x,hx⟩:∃x,c.kids[k]?=some x:=⟨_,List.getElem?_eq_getElem (by omega)⟩
    exact A1 rfl (congrArg AV.i (by rw[hI,F7 hx,CF,if_neg (by assumption)])))
  |exact⟨(k+1,n+Di el (m-n)),⟨by dsimp only;omega,(by have:=hrb el;dsimp only;omega),by rw[hI,F7 nJ,CF,if_pos (by assumption)]⟩,by dsimp only;omega,A6 h0⟩
theorem Vx(c:B7):j6 c≤100000→A3 Tryz.prog 87 [D5 c] (.i (j6 c)):=by
 refine N6 (p:=fun c=>j6 c≤100000→A3 Tryz.prog 87 [D5 c] (.i (j6 c))) (fun c ih hd=>?_) c
 have qN:=Pe c.kids 0
 rw[Kz]at hd
 rw[F8,Kz]
 refine B5 Tryz.func87 22 fun nL E h0=>?_
 have nM:c.kids.length≤9223372036854775807:=by
  have:=((nL _ (List.mem_cons_self ..)).agg (.sl 6 (c.kids.map K0)) (by simp)).sl
  simpa using this
 clear nL
 repeat'((first|refine S2 ?_|(refine T6 ?_ ?_<;>intro h<;>try exact V1 h)|intro el nJ nK|intro el nJ|exact T4|refine T5 ?_ ?_|intro ex)<;>try conv=>whnf)
 refine B0 (ι:=Nat×Nat) (fun x=>⟨[(1,.ref 0 0),(3,.i x.2),(4,.i x.1)],1,[(0,some (.box (M9 c)))]⟩) (fun x=>x.1≤c.kids.length∧x.2≤w9 c.kids 0∧w9 c.kids 0=w9 (c.kids.drop x.1) x.2) (fun x=>c.kids.length-x.1) (0,0) ⟨Nat.zero_le _,Nat.zero_le _,rfl⟩
  (A6 h0) (fun x hI=>?_)
 obtain⟨k,n⟩:=x
 obtain⟨hk,hn,hI⟩:=hI
 dsimp only at hk hn hI ⊢
 have wq:∀el,c.kids[k]?=some el→j6 el≤w9 c.kids 0:=fun el nJ=>qN.2 el (List.mem_of_getElem? nJ)
 repeat'((first|(refine A0 (ih _ (List.mem_of_getElem? (by assumption)) (by have:=wq el nJ;omega)) ?_) |refine S2 ?_|(refine T6 ?_ ?_<;>intro h<;>try exact V1 h)|intro el nJ nK|intro el nJ|exact T4|refine T5 ?_ ?_|intro ex)<;>try conv=>whnf)
 all_goals first
  |exact A1 rfl (congrArg AV.i (by rw[hI,T8 (by assumption)];unfold w9;omega))
  |exact⟨(k+1,max n (j6 el)),⟨by dsimp only;omega,(by have:=wq el nJ;dsimp only;omega),by rw[hI,F7 nJ,w9]⟩,by dsimp only;omega,A7 h0 rfl ⟨rfl,congrArg (fun z:Int=>some (AV.i z)) (by dsimp only;omega),rfl,trivial⟩ ⟨rfl,trivial⟩ rfl rfl rfl⟩
abbrev Q7(s:A4)(col kind:Int):Bool:=decide (0≤col∧col<s.cols.length∧(B6 s col).kind=kind)
theorem iw(s:A4)(col kind:Int):A3 Tryz.prog 140 [sA s,.i col,.i kind] (.b (Q7 s col kind)):=by
 refine B5 Tryz.func140 26 fun nL E h0=>?_
 clear nL
 repeat'((first|refine S2 ?_|(refine T6 ?_ ?_<;>intro h<;>try exact V1 h)|intro el nJ nK|intro el nJ|exact T4|refine T5 ?_ ?_|intro ex)<;>try conv=>whnf)
 all_goals first
  |exact A1 rfl (congrArg AV.b (by unfold Q7;rw[decide_eq_false (by omega)]))
  |exact A1 rfl (congrArg AV.b (by unfold Q7;rw[B9 nJ,decide_eq_decide];omega))
end Go.Proofs.YtiphlhoclaogjaaGreatDoor

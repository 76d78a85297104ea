/- Chapter 18: the program's tables: one cell, and those around some codes. -/
import Derived.Test.YtiphlhoclaogjaaGreatDoorQAvJ
import Derived.Test.YtiphlhoclaogjaaGreatDoorQAvH
import Derived.Test.YtiphlhoclaogjaaGreatDoorQB7
import Derived.Test.YtiphlhoclaogjaaGreatDoorQTa5
import Derived.Test.YtiphlhoclaogjaaGreatDoorQB4
import Derived.Test.YtiphlhoclaogjaaGreatDoorQCm1
set_option linter.unusedVariables false
set_option linter.unnecessarySimpa false
set_option linter.unusedSimpArgs false
set_option maxHeartbeats 64000000
namespace Go.Proofs.YtiphlhoclaogjaaGreatDoor
open Go Go.Av
attribute [local irreducible] C7 B1 D1 C8 DQ D0 C6 St.le A3 B8
set_option maxRecDepth 100000
structure F1 where
 codes:List Int
 cnt:Int
 sum:Int
 amo:Int
 fst:Int
 snd:Int
 rows:List Int
abbrev j4:Nat:=72
abbrev nU:Nat:=3
abbrev M7(c:F1):List AV:=[.sl 1 (c.codes.map wA),.i c.cnt,.i c.sum,.i c.amo,.i c.fst,.i c.snd,.own nU 1 (c.rows.map wA)]
abbrev L8(c:F1):List AV:=[.sl 1 (c.codes.map wA),.i c.cnt,.i c.sum,.i c.amo,.i c.fst,.i c.snd,.sl 1 (c.rows.map wA)]
def L2(key v:Int)(m:Bool)(c:F1):F1 :=
 if m=false then { c with cnt:=c.cnt+1,rows:=c.rows++[key] }
 else if c.fst<max v (-v)then { c with cnt:=c.cnt+1,rows:=c.rows++[key],sum:=c.sum+v,amo:=c.amo+max v (-v),fst:=max v (-v),snd:=c.fst }
 else if c.snd<max v (-v)then { c with cnt:=c.cnt+1,rows:=c.rows++[key],sum:=c.sum+v,amo:=c.amo+max v (-v),snd:=max v (-v) }
 else { c with cnt:=c.cnt+1,rows:=c.rows++[key],sum:=c.sum+v,amo:=c.amo+max v (-v) }
structure PE(c:F1):Prop where
 cnt:0≤c.cnt∧c.cnt≤1000
 sum:-1000000000000000≤c.sum∧c.sum≤1000000000000000
 amo:0≤c.amo∧c.amo≤1000000000000000
 rows:c.rows.length≤1000
abbrev DG(l:List (List AV)):Hp:=[(0,some (.row (T0+j4) 7 0 l))]
theorem Ef{α:Type}{l:List α}{k:Nat}{x:α}(h:l[k]?=some x):k<l.length:=(List.getElem?_eq_some_iff.1 h).1
theorem lV(l:List (List AV))(k:Nat)(c:F1)(hk:l[k]?=some (M7 c))(hc:PE c)(key v:Int):B8 Tryz.prog 52 1 (DG l) [.elt 0 0 k 0,.i key,.i v,.b false] 1 (DG (l.set k (M7 (L2 key v false c)))) (.tup []):=by
 have no:=Ef hk
 obtain⟨h1,h2,h3,h4⟩:=hc
 have nr:l[((k:Nat):Int).toNat]?=some (M7 c):=by rw[Int.toNat_natCast];exact hk
 obtain⟨codes,cnt,sum,amo,fst,snd,rows⟩:=c
 dsimp only at h1 h2 h3 h4
 have oB:L2 key v false ⟨codes,cnt,sum,amo,fst,snd,rows⟩=⟨codes,cnt+1,sum,amo,fst,snd,rows++[key]⟩:=rfl
 rw[oB]
 dsimp only[DG]
 refine a8 Tryz.func52 77 fun E h0=>?_
 repeat'((first|(refine Fp (i:=0) (List.getElem?_set_self (by first|exact no|(simp only[List.length_set];exact no))) rfl rfl rfl rfl rfl ?_)|(refine Fq (i:=0) (List.getElem?_set_self (by first|exact no|(simp only[List.length_set];exact no))) rfl rfl rfl rfl rfl rfl rfl rfl rfl ?_)|refine gS ?_ |refine S2 ?_|(refine T6 ?_ ?_<;>intro h<;>try exact V1 h)|intro el nX nY|intro el nX|exact T4|refine T5 ?_ ?_|intro ex)<;>try conv=>whnf)
 all_goals first
  |(exfalso;omega)
  |(exfalso;dsimp only at *;omega)
  |(delta C6;exact .inl ⟨[],[],rfl,trivial,rfl,rfl,B3 h0 rfl trivial ⟨⟨_,congrArg (D3.row (T0+j4) 7 _) (by simp only[List.set_set,M7,List.map_append];rfl)⟩,trivial⟩ rfl rfl rfl,rfl⟩)
theorem mZ(l:List (List AV))(k:Nat)(c:F1)(hk:l[k]?=some (M7 c))(hc:PE c)(key v:Int)(hv:-1099511627776≤v∧v≤1099511627776)(ha:c.fst<max v (-v)):B8 Tryz.prog 52 1 (DG l) [.elt 0 0 k 0,.i key,.i v,.b true] 1 (DG (l.set k (M7 (L2 key v true c)))) (.tup []):=by
 have no:=Ef hk
 obtain⟨h1,h2,h3,h4⟩:=hc
 have nr:l[((k:Nat):Int).toNat]?=some (M7 c):=by rw[Int.toNat_natCast];exact hk
 obtain⟨codes,cnt,sum,amo,fst,snd,rows⟩:=c
 dsimp only at h1 h2 h3 h4 ha
 have oB:L2 key v true ⟨codes,cnt,sum,amo,fst,snd,rows⟩=⟨codes,cnt+1,sum+v,amo+max v (-v),max v (-v),fst,rows++[key]⟩:=by
  unfold L2
  rw[if_neg (by decide),if_pos ha]
 rw[oB]
 have vf:max v (-v)≤1099511627776∧0≤max v (-v):=by omega
 dsimp only[DG]
 refine a8 Tryz.func52 77 fun E h0=>?_
 repeat'((first|(refine Fp (i:=0) (List.getElem?_set_self (by first|exact no|(simp only[List.length_set];exact no))) rfl rfl rfl rfl rfl ?_)|(refine Fq (i:=0) (List.getElem?_set_self (by first|exact no|(simp only[List.length_set];exact no))) rfl rfl rfl rfl rfl rfl rfl rfl rfl ?_)|refine gS ?_ |refine S2 ?_|(refine T6 ?_ ?_<;>intro h<;>try exact V1 h)|intro el nX nY|intro el nX|exact T4|refine T5 ?_ ?_|intro ex)<;>try conv=>whnf)
 all_goals first
  |(exfalso;omega)
  |(exfalso;dsimp only at *;omega)
  |(delta C6;exact .inl ⟨[],[],rfl,trivial,rfl,rfl,B3 h0 rfl trivial ⟨⟨_,congrArg (D3.row (T0+j4) 7 _) (by simp only[List.set_set,M7,List.map_append];rfl)⟩,trivial⟩ rfl rfl rfl,rfl⟩)
theorem mc(l:List (List AV))(k:Nat)(c:F1)(hk:l[k]?=some (M7 c))(hc:PE c)(key v:Int)(hv:-1099511627776≤v∧v≤1099511627776)(ha:¬c.fst<max v (-v))(hb:c.snd<max v (-v)):B8 Tryz.prog 52 1 (DG l) [.elt 0 0 k 0,.i key,.i v,.b true] 1 (DG (l.set k (M7 (L2 key v true c)))) (.tup []):=by
 have no:=Ef hk
 obtain⟨h1,h2,h3,h4⟩:=hc
 have nr:l[((k:Nat):Int).toNat]?=some (M7 c):=by rw[Int.toNat_natCast];exact hk
 obtain⟨codes,cnt,sum,amo,fst,snd,rows⟩:=c
 dsimp only at h1 h2 h3 h4 ha hb
 have oB:L2 key v true ⟨codes,cnt,sum,amo,fst,snd,rows⟩=⟨codes,cnt+1,sum+v,amo+max v (-v),fst,max v (-v),rows++[key]⟩:=by
  unfold L2
  rw[if_neg (by decide),if_neg ha,if_pos hb]
 rw[oB]
 have vf:max v (-v)≤1099511627776∧0≤max v (-v):=by omega
 dsimp only[DG]
 refine a8 Tryz.func52 77 fun E h0=>?_
 repeat'((first|(refine Fp (i:=0) (List.getElem?_set_self (by first|exact no|(simp only[List.length_set];exact no))) rfl rfl rfl rfl rfl ?_)|(refine Fq (i:=0) (List.getElem?_set_self (by first|exact no|(simp only[List.length_set];exact no))) rfl rfl rfl rfl rfl rfl rfl rfl rfl ?_)|refine gS ?_ |refine S2 ?_|(refine T6 ?_ ?_<;>intro h<;>try exact V1 h)|intro el nX nY|intro el nX|exact T4|refine T5 ?_ ?_|intro ex)<;>try conv=>whnf)
 all_goals first
  |(exfalso;omega)
  |(exfalso;dsimp only at *;omega)
  |(delta C6;exact .inl ⟨[],[],rfl,trivial,rfl,rfl,B3 h0 rfl trivial ⟨⟨_,congrArg (D3.row (T0+j4) 7 _) (by simp only[List.set_set,M7,List.map_append];rfl)⟩,trivial⟩ rfl rfl rfl,rfl⟩)
theorem md(l:List (List AV))(k:Nat)(c:F1)(hk:l[k]?=some (M7 c))(hc:PE c)(key v:Int)(hv:-1099511627776≤v∧v≤1099511627776)(ha:¬c.fst<max v (-v))(hb:¬c.snd<max v (-v)):B8 Tryz.prog 52 1 (DG l) [.elt 0 0 k 0,.i key,.i v,.b true] 1 (DG (l.set k (M7 (L2 key v true c)))) (.tup []):=by
 have no:=Ef hk
 obtain⟨h1,h2,h3,h4⟩:=hc
 have nr:l[((k:Nat):Int).toNat]?=some (M7 c):=by rw[Int.toNat_natCast];exact hk
 obtain⟨codes,cnt,sum,amo,fst,snd,rows⟩:=c
 dsimp only at h1 h2 h3 h4 ha hb
 have oB:L2 key v true ⟨codes,cnt,sum,amo,fst,snd,rows⟩=⟨codes,cnt+1,sum+v,amo+max v (-v),fst,snd,rows++[key]⟩:=by
  unfold L2
  rw[if_neg (by decide),if_neg ha,if_neg hb]
 rw[oB]
 have vf:max v (-v)≤1099511627776∧0≤max v (-v):=by omega
 dsimp only[DG]
 refine a8 Tryz.func52 77 fun E h0=>?_
 repeat'((first|(refine Fp (i:=0) (List.getElem?_set_self (by first|exact no|(simp only[List.length_set];exact no))) rfl rfl rfl rfl rfl ?_)|(refine Fq (i:=0) (List.getElem?_set_self (by first|exact no|(simp only[List.length_set];exact no))) rfl rfl rfl rfl rfl rfl rfl rfl rfl ?_)|refine gS ?_ |refine S2 ?_|(refine T6 ?_ ?_<;>intro h<;>try exact V1 h)|intro el nX nY|intro el nX|exact T4|refine T5 ?_ ?_|intro ex)<;>try conv=>whnf)
 all_goals first
  |(exfalso;omega)
  |(exfalso;dsimp only at *;omega)
  |(delta C6;exact .inl ⟨[],[],rfl,trivial,rfl,rfl,B3 h0 rfl trivial ⟨⟨_,congrArg (D3.row (T0+j4) 7 _) (by simp only[List.set_set,M7,List.map_append];rfl)⟩,trivial⟩ rfl rfl rfl,rfl⟩)
theorem Nu(l:List (List AV))(k:Nat)(c:F1)(hk:l[k]?=some (M7 c))(hc:PE c)(key v:Int)(hv:-1099511627776≤v∧v≤1099511627776)(m:Bool):B8 Tryz.prog 52 1 (DG l) [.elt 0 0 k 0,.i key,.i v,.b m] 1 (DG (l.set k (M7 (L2 key v m c)))) (.tup []):=by
 cases m with
 |false=>exact lV l k c hk hc key v
 |true =>
  by_cases ha:c.fst<max v (-v)
  ·exact mZ l k c hk hc key v hv ha
  ·by_cases hb:c.snd<max v (-v)
   ·exact mc l k c hk hc key v hv ha hb
   ·exact md l k c hk hc key v hv ha hb
def I7(codes cell:List Int):Bool:=(cell.zip codes).all fun q=>decide (q.1=-1∨q.1=q.2)
theorem Tx{α:Type}{p:α→Bool}{l:List α}{k:Nat}{x:α}(hx:l[k]?=some x)(h:p x=false):l.all p=false:=by
 rw[List.all_eq_false]
 exact⟨x,List.mem_of_getElem? hx,by rw[h];decide⟩
theorem Qe{α:Type}{p:α→Bool}{l:List α}{k:Nat}{x:α}(hx:l[k]?=some x)(h:(l.take k).all p=true)(hp:p x=true):(l.take (k+1)).all p=true:=by
 rw[I0 hx,List.all_append,h]
 simp[hp]
theorem LL(codes cell:List Int)(hl:cell.length≤codes.length):A3 Tryz.prog 76 [.sl 1 (codes.map wA),.sl 1 (cell.map wA)] (.b (I7 codes cell)):=by
 unfold I7
 generalize hz:cell.zip codes=zs
 have zx:zs.length=cell.length:=by rw[←hz,List.length_zip];omega
 refine C1 Tryz.func76 25 fun nd E h0=>?_
 have nZ:cell.length≤9223372036854775807:=by have:=(nd (.sl 1 (cell.map wA)) (by simp)).sl;simpa using this
 clear nd
 repeat'((first|refine S2 ?_|(refine T6 ?_ ?_<;>intro h<;>try exact V1 h)|intro el nX nY|intro el nX|exact T4|refine T5 ?_ ?_|intro ex)<;>try conv=>whnf)
 refine B2 (ι:=Nat) (fun k=>⟨[(0,.sl 1 (codes.map wA)),(7,.sl 1 (cell.map wA)),(8,.i cell.length),(9,.i k)],0,[]⟩)
  (fun k=>k≤cell.length∧(zs.take k).all (fun q=>decide (q.1=-1∨q.1=q.2))=true) (fun k=>cell.length-k) 0 ⟨Nat.zero_le _,rfl⟩
  (A6 h0) (fun k hK=>?_)
 obtain⟨qA,hK⟩:=hK
 by_cases no:k<cell.length
 ·obtain⟨c,hc⟩:∃c,cell[k]?=some c:=⟨_,List.getElem?_eq_getElem no⟩
  obtain⟨d,hd⟩:∃d,codes[k]?=some d:=⟨_,List.getElem?_eq_getElem (by omega)⟩
  have hq:zs[k]?=some (c,d):=by rw[←hz,List.getElem?_zip_eq_some];exact⟨hc,hd⟩
  have pf:cell[((k:Nat):Int).toNat]?=some c:=hc
  have sU:codes[((k:Nat):Int).toNat]?=some d:=hd
  have sD:¬c=-1→¬c=d→zs.all (fun q=>decide (q.1=-1∨q.1=q.2))=false:=fun h1 h2=>Tx hq (by simp[h1,h2])
  have pS:c=-1∨c=d→(zs.take (k+1)).all (fun q=>decide (q.1=-1∨q.1=q.2))=true:=fun h=>Qe hq hK (by simpa using h)
  repeat'((first|(refine A2 (x:=c) pf (by omega) ?_)|(refine A2 (x:=d) sU (by omega) ?_)|(refine B5 ?_ ?_;kernel_rfl) |refine S2 ?_|(refine T6 ?_ ?_<;>intro h<;>try exact V1 h)|intro el nX nY|intro el nX|exact T4|refine T5 ?_ ?_|intro ex)<;>try conv=>whnf)
  all_goals first
   |(exfalso;omega)
   |exact⟨k+1,⟨by omega,pS (by omega)⟩,by omega,A6 h0⟩
   |exact A0 rfl (congrArg AV.b (sD (by omega) (by omega)).symm)
 ·have he:zs.take k=zs:=List.take_of_length_le (by omega)
  rw[he]at hK
  rw[hK]
  repeat'((first|refine S2 ?_|(refine T6 ?_ ?_<;>intro h<;>try exact V1 h)|intro el nX nY|intro el nX|exact T4|refine T5 ?_ ?_|intro ex)<;>try conv=>whnf)
  all_goals first
   |(exfalso;omega)
   |exact A0 rfl rfl
theorem LM(l:List (List AV))(n:Nat)(own:List Int):B8 Tryz.prog 51 1 (DG l) [.row 0 0 n,.sl 1 (own.map wA)] 3 [(0,some (.row (T0+j4) 7 0 l)),(1,some (.box [.row 0 0 n])),(2,some (.box [.sl 1 (own.map wA)]))] (.fo 113 [.ref 1 0,.ref 2 0]):=by
 dsimp only[DG]
 refine a8 Tryz.func51 6 fun E h0=>?_
 repeat'((first|refine⟨Li rfl rfl ?_⟩|refine Li rfl rfl ?_ |refine S2 ?_|(refine T6 ?_ ?_<;>intro h<;>try exact V1 h)|intro el nX nY|intro el nX|exact T4|refine T5 ?_ ?_|intro ex)<;>try conv=>whnf)
 all_goals first
  |exact H7 (A6 h0)
def z5(own:List Int)(f:F1→F1)(L:List F1)(k:Nat):List F1:=(L.take k).map (fun c=>if I7 own c.codes=true then f c else c)++L.drop k
theorem bk(own:List Int)(f:F1→F1)(L:List F1):z5 own f L 0=L:=by simp[z5]
theorem fD(own:List Int)(f:F1→F1)(L:List F1){k:Nat}(h:L.length≤k):z5 own f L k=L.map (fun c=>if I7 own c.codes=true then f c else c):=by
 unfold z5
 rw[List.take_of_length_le h,List.drop_eq_nil_of_le h,List.append_nil]
theorem fE(own:List Int)(f:F1→F1)(L:List F1)(k:Nat):(z5 own f L k).length=L.length:=by simp[z5];omega
theorem Ty{own:List Int}{f:F1→F1}{L:List F1}{k:Nat}{c:F1}(h:L[k]?=some c):(z5 own f L k)[k]?=some c:=by
 have:=D4 h
 unfold z5
 rw[List.getElem?_append_right (by simp;omega),List.length_map,List.length_take,show k-min k L.length=0 by omega,List.getElem?_drop]
 exact h
theorem iv{own:List Int}{f:F1→F1}{L:List F1}{k:Nat}{c:F1}(h:L[k]?=some c)(hi:I7 own c.codes=false):z5 own f L (k+1)=z5 own f L k:=by
 unfold z5
 rw[I0 h,H1 h,List.map_append,List.append_assoc]
 simp[hi]
theorem fF{own:List Int}{f:F1→F1}{L:List F1}{k:Nat}{c:F1}(h:L[k]?=some c)(hi:I7 own c.codes=true):z5 own f L (k+1)=(z5 own f L k).set k (f c):=by
 have:=D4 h
 unfold z5
 rw[I0 h,H1 h,List.map_append,List.append_assoc]
 simp only[List.map_cons,List.map_nil,hi,if_true,List.singleton_append]
 rw[List.set_append_right _ _ (by simp;omega)]
 simp[show k-min k L.length=0 by omega]
abbrev lW(l:List (List AV))(n:Nat)(own:List Int):Hp:=[(0,some (.row (T0+j4) 7 0 l)),(1,some (.box [.row 0 0 n])),(2,some (.box [.sl 1 (own.map wA)]))]
abbrev lX(l:List (List AV))(n:Nat):Hp:=[(0,some (.row (T0+j4) 7 0 l)),(1,some (.box [.row 0 0 n])),(2,none)]
attribute [local irreducible] GP Dz KQ Gn
theorem Jf(l:Nat)(rc:Loop)(slc:List (Nat×AV))(own:List Int)(f:F1→F1)(L:List F1)(hL:L.length≤9223372036854775807)(nZ:∀c∈L,c.codes.length≤own.length)
  (hY:∀(M:List F1) (k:Nat) c,M.length=L.length→M[k]?=some c→c∈L→KQ Tryz.prog l rc slc 1 (DG (M.map M7)) [.elt 0 0 k 0] 1 (DG ((M.set k (f c)).map M7))) :
  Gn Tryz.prog 113 l rc slc 3 (lW (L.map M7) L.length own) [.v (.func (.yield l) #[] #[]),.ref 1 0,.ref 2 0] 3 (lX ((L.map (fun c=>if I7 own c.codes=true then f c else c)).map M7) L.length) (.tup []):=by
 refine nE Tryz.func113 26 fun E h0 hE hO=>?_
 refine u5 (B3 (σ':=⟨[(0,.v (.func (.yield l) #[] #[])),(1,.ref 1 0),(2,.iptr [.sl 1 (own.map wA)])],3,[(0,some (.row (T0+j4) 7 0 (L.map M7))),(1,some (.box [.row 0 0 L.length]))]⟩) h0 rfl ⟨rfl,rfl,rfl,trivial⟩ ⟨⟨_,rfl⟩,rfl,trivial⟩ rfl rfl rfl) ?_
 repeat'((first|refine S2 ?_|(refine T6 ?_ ?_<;>intro h<;>try exact V1 h)|intro el nX nY|intro el nX|exact T4|refine T5 ?_ ?_|intro ex)<;>try conv=>whnf)
 refine B2 (ι:=Nat) (fun k=>⟨[(0,.v (.func (.yield l) #[] #[])),(1,.ref 1 0),(2,.iptr [.sl 1 (own.map wA)]),(6,.i L.length),(7,.i k)],3,[(0,some (.row (T0+j4) 7 0 ((z5 own f L k).map M7))),(1,some (.box [.row 0 0 L.length]))]⟩)
  (fun k=>k≤L.length) (fun k=>L.length-k) 0 (Nat.zero_le _)
  (B3 h0 rfl ⟨rfl,rfl,rfl,congrArg (fun z:Nat=>some (AV.i (z:Int))) (by simp),rfl,trivial⟩ ⟨⟨_,congrArg (D3.row (T0+j4) 7 _) (by rw[bk])⟩,rfl,trivial⟩ rfl rfl rfl) (fun k hK=>?_)
 have xo:=fE own f L k
 by_cases no:k<L.length
 ·obtain⟨c,hc⟩:∃c,L[k]?=some c:=⟨_,List.getElem?_eq_getElem no⟩
  have ox:=LL own c.codes (nZ c (List.mem_of_getElem? hc))
  have hg:(z5 own f L k)[((k:Nat):Int).toNat]?=some c:=by rw[Int.toNat_natCast];exact Ty hc
  cases hi:I7 own c.codes with
  |false =>
   have ns:=iv (f:=f) hc hi
   rw[hi]at ox
   repeat'((first|(refine A2 (x:=c) hg (by omega) ?_)|refine A1 ox ?_|(refine B5 ?_ ?_;kernel_rfl) |refine S2 ?_|(refine T6 ?_ ?_<;>intro h<;>try exact V1 h)|intro el nX nY|intro el nX|exact T4|refine T5 ?_ ?_|intro ex)<;>try conv=>whnf)
   all_goals first
    |(exfalso;omega)
    |exact⟨k+1,by omega,by omega,B3 h0 rfl ⟨rfl,rfl,rfl,rfl,rfl,trivial⟩ ⟨⟨_,congrArg (D3.row (T0+j4) 7 _) (by rw[ns])⟩,rfl,trivial⟩ rfl rfl rfl⟩
  |true =>
   have zo:=fF (f:=f) hc hi
   rw[hi]at ox
   have hy:=hY (z5 own f L k) k c xo (Ty hc) (List.mem_of_getElem? hc)
   rw[←zo]at hy
   repeat'((first|(refine A2 (x:=c) hg (by omega) ?_)|refine A1 ox ?_|refine lS ?_ ?_|exact lR|(refine lU (id:=3) ⟨[(0,.v (.func (.yield l) #[] #[])),(1,.ref 1 0),(2,.iptr [.sl 1 (own.map wA)]),(6,.i L.length),(7,.i k),(24,.b false)],3,[(0,some (.row (T0+j4) 7 0 ((z5 own f L (k+1)).map M7))),(1,some (.box [.row 0 0 L.length]))]⟩ ?_ ?_)|(refine Yr rfl rfl ?_;refine Yq [0] [0] hE hO hy rfl rfl rfl rfl ⟨rfl,trivial⟩ ?_)|refine fB ?_|refine fA rfl ?_ |refine S2 ?_|(refine T6 ?_ ?_<;>intro h<;>try exact V1 h)|intro el nX nY|intro el nX|exact T4|refine T5 ?_ ?_|intro ex)<;>try conv=>whnf)
   all_goals first
    |(exfalso;omega)
    |exact A6 h0
    |exact⟨k+1,by omega,by omega,A6 h0⟩
 ·have ph:=fD own f L (k:=k) (by omega)
  repeat'((first|refine S2 ?_|(refine T6 ?_ ?_<;>intro h<;>try exact V1 h)|intro el nX nY|intro el nX|exact T4|refine T5 ?_ ?_|intro ex)<;>try conv=>whnf)
  all_goals first
   |(exfalso;omega)
   |(delta C6;exact .inl ⟨[],[],rfl,trivial,rfl,rfl,B3 h0 rfl trivial ⟨⟨_,congrArg (D3.row (T0+j4) 7 _) (by rw[ph])⟩,rfl,trivial⟩ rfl rfl rfl,rfl⟩)
mutual
def Cn:B0→Int→Int
 |.mk _ _ _ _ _ ks,most=>Ao ks most 1
def Ao:List B0→Int→Int→Int
 |[],_,n=>n
 |x::r,most,n=>if n<most then Ao r most (n+Cn x (most-n))else n
end
theorem Lz(c:B0)(m:Int):Cn c m=Ao c.kids m 1:=by cases c;rfl
theorem fG(c:B0):∀m:Int,1≤Cn c m∧Cn c m≤max 1 m:=by
 refine O7 (p:=fun c=>∀m:Int,1≤Cn c m∧Cn c m≤max 1 m) (fun c ih m=>?_) c
 have key:∀(l:List B0),(∀k∈l,k∈c.kids)→∀n:Int,1≤n→n≤max 1 m→1≤Ao l m n∧Ao l m n≤max 1 m:=by
  intro l
  induction l with
  |nil=>intro _ n h1 h2;exact⟨h1,h2⟩
  |cons x r sj =>
   intro hl n h1 h2
   unfold Ao
   split
   ·have:=ih x (hl x (by simp)) (m-n)
    exact sj (fun k hk=>hl k (by simp[hk])) _ (by omega) (by omega)
   ·exact⟨h1,h2⟩
 rw[Lz]
 exact key c.kids (fun k hk=>hk) 1 (by omega) (by omega)
theorem fH(c:B0):∀m:Int,1≤m→Cn c m=min (P2 c:Int) m:=by
 refine O7 (p:=fun c=>∀m:Int,1≤m→Cn c m=min (P2 c:Int) m) (fun c ih m hm=>?_) c
 have key:∀(l:List B0),(∀k∈l,k∈c.kids)→∀n:Int,n≤m→Ao l m n=min (n+X3 l) m:=by
  intro l
  induction l with
  |nil=>intro _ n h;unfold Ao X3;omega
  |cons x r sj =>
   intro hl n hn
   unfold Ao X3
   by_cases h:n<m
   ·have h1:=ih x (hl x (by simp)) (m-n) (by omega)
    rw[if_pos h,h1,sj (fun k hk=>hl k (by simp[hk])) _ (by omega)]
    omega
   ·rw[if_neg h]
    omega
 rw[Lz,DN,key c.kids (fun k hk=>hk) 1 hm]
 omega
theorem Tz(c:B0):∀(m:Int),-100000≤m→m≤100000→A3 Tryz.prog 86 [E0 c,.i m] (.i (Cn c m)):=by
 refine O7 (p:=fun c=>∀(m:Int),-100000≤m→m≤100000→A3 Tryz.prog 86 [E0 c,.i m] (.i (Cn c m))) (fun c ih m hm1 qj=>?_) c
 rw[G0,Lz]
 refine C1 Tryz.func86 31 fun nd E h0=>?_
 have nZ:c.kids.length≤9223372036854775807:=by
  have:=((nd _ (List.mem_cons_self ..)).agg (.sl 6 (c.kids.map J2)) (by simp)).sl
  simpa using this
 clear nd
 repeat'((first|refine S2 ?_|(refine T6 ?_ ?_<;>intro h<;>try exact V1 h)|intro el nX nY|intro el nX|exact T4|refine T5 ?_ ?_|intro ex)<;>try conv=>whnf)
 refine B2 (ι:=Nat×Int) (fun x=>⟨[(1,.i m),(2,.ref 0 0),(5,.i x.2),(6,.i x.1)],1,[(0,some (.box (P1 c)))]⟩) (fun x=>x.1≤c.kids.length∧(1≤x.2∧x.2≤max 1 m)∧Ao c.kids m 1=Ao (c.kids.drop x.1) m x.2) (fun x=>c.kids.length-x.1) (0,1) ⟨Nat.zero_le _,by dsimp only;omega,rfl⟩
  (A6 h0) (fun x hI=>?_)
 obtain⟨k,n⟩:=x
 obtain⟨hk,hn,hI⟩:=hI
 dsimp only at hk hn hI ⊢
 have hrb:=fun el=>fG el (m-n)
 repeat'((first|(refine A1 (ih _ (List.mem_of_getElem? (by assumption)) _ (by omega) (by omega)) ?_)|(refine J0 ?_ ?_;(have:=hrb el;omega)) |refine S2 ?_|(refine T6 ?_ ?_<;>intro h<;>try exact V1 h)|intro el nX nY|intro el nX|exact T4|refine T5 ?_ ?_|intro ex)<;>try conv=>whnf)
 all_goals first
  |exact A0 rfl (congrArg AV.i (by rw[hI,Z0 (by assumption)];rfl))
  |(obtain⟨x,hx⟩:∃x,c.kids[k]?=some x:=⟨_,List.getElem?_eq_getElem (by omega)⟩
    exact A0 rfl (congrArg AV.i (by rw[hI,H1 hx,Ao,if_neg (by assumption)])))
  |exact⟨(k+1,n+Cn el (m-n)),⟨by dsimp only;omega,(by have:=hrb el;dsimp only;omega),by rw[hI,H1 nX,Ao,if_pos (by assumption)]⟩,by dsimp only;omega,A6 h0⟩
theorem Vb(c:B0):P9 c≤100000→A3 Tryz.prog 87 [E0 c] (.i (P9 c)):=by
 refine O7 (p:=fun c=>P9 c≤100000→A3 Tryz.prog 87 [E0 c] (.i (P9 c))) (fun c ih hd=>?_) c
 have qL:=Om c.kids 0
 rw[Gg]at hd
 rw[G0,Gg]
 refine C1 Tryz.func87 22 fun nd E h0=>?_
 have nZ:c.kids.length≤9223372036854775807:=by
  have:=((nd _ (List.mem_cons_self ..)).agg (.sl 6 (c.kids.map J2)) (by simp)).sl
  simpa using this
 clear nd
 repeat'((first|refine S2 ?_|(refine T6 ?_ ?_<;>intro h<;>try exact V1 h)|intro el nX nY|intro el nX|exact T4|refine T5 ?_ ?_|intro ex)<;>try conv=>whnf)
 refine B2 (ι:=Nat×Nat) (fun x=>⟨[(1,.ref 0 0),(3,.i x.2),(4,.i x.1)],1,[(0,some (.box (P1 c)))]⟩) (fun x=>x.1≤c.kids.length∧x.2≤V4 c.kids 0∧V4 c.kids 0=V4 (c.kids.drop x.1) x.2) (fun x=>c.kids.length-x.1) (0,0) ⟨Nat.zero_le _,Nat.zero_le _,rfl⟩
  (A6 h0) (fun x hI=>?_)
 obtain⟨k,n⟩:=x
 obtain⟨hk,hn,hI⟩:=hI
 dsimp only at hk hn hI ⊢
 have yK:∀el,c.kids[k]?=some el→P9 el≤V4 c.kids 0:=fun el nX=>qL.2 el (List.mem_of_getElem? nX)
 repeat'((first|(refine A1 (ih _ (List.mem_of_getElem? (by assumption)) (by have:=yK el nX;omega)) ?_) |refine S2 ?_|(refine T6 ?_ ?_<;>intro h<;>try exact V1 h)|intro el nX nY|intro el nX|exact T4|refine T5 ?_ ?_|intro ex)<;>try conv=>whnf)
 all_goals first
  |exact A0 rfl (congrArg AV.i (by rw[hI,Z0 (by assumption)];unfold V4;omega))
  |exact⟨(k+1,max n (P9 el)),⟨by dsimp only;omega,(by have:=yK el nX;dsimp only;omega),by rw[hI,H1 nX,V4]⟩,by dsimp only;omega,B3 h0 rfl ⟨rfl,congrArg (fun z:Int=>some (AV.i z)) (by dsimp only;omega),rfl,trivial⟩ ⟨rfl,trivial⟩ rfl rfl rfl⟩
abbrev P6(s:A4)(col kind:Int):Bool:=decide (0≤col∧col<s.cols.length∧(B4 s col).kind=kind)
theorem iw(s:A4)(col kind:Int):A3 Tryz.prog 140 [sA s,.i col,.i kind] (.b (P6 s col kind)):=by
 refine C1 Tryz.func140 26 fun nd E h0=>?_
 clear nd
 repeat'((first|refine S2 ?_|(refine T6 ?_ ?_<;>intro h<;>try exact V1 h)|intro el nX nY|intro el nX|exact T4|refine T5 ?_ ?_|intro ex)<;>try conv=>whnf)
 all_goals first
  |exact A0 rfl (congrArg AV.b (by unfold P6;rw[decide_eq_false (by omega)]))
  |exact A0 rfl (congrArg AV.b (by unfold P6;rw[C0 nX,decide_eq_decide];omega))
end Go.Proofs.YtiphlhoclaogjaaGreatDoor

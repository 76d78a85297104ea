/- Chapter 18: the program's tables: one cell, and those around some codes. -/
import Derived.Test.YtjkbhaaobhgkdabGreatDoorRAvJ
import Derived.Test.YtjkbhaaobhgkdabGreatDoorRAvH
import Derived.Test.YtjkbhaaobhgkdabGreatDoorRB7
import Derived.Test.YtjkbhaaobhgkdabGreatDoorRTa5
import Derived.Test.YtjkbhaaobhgkdabGreatDoorRB4
import Derived.Test.YtjkbhaaobhgkdabGreatDoorRC1
set_option linter.unusedVariables false
set_option linter.unnecessarySimpa false
set_option linter.unusedSimpArgs false
set_option maxHeartbeats 64000000
namespace Go.Proofs.YtjkbhaaobhgkdabGreatDoor
open Go Go.Av
attribute [local irreducible] D0 B0 D2 C7 DQ D1 C8 St.le A3 B6
set_option maxRecDepth 100000
structure F3 where
 codes:List Int
 cnt:Int
 sum:Int
 amo:Int
 fst:Int
 snd:Int
 rows:List Int
abbrev e9:Nat:=50
abbrev nK:Nat:=3
abbrev M1(c:F3):List AV:=[.sl 1 (c.codes.map wA),.i c.cnt,.i c.sum,.i c.amo,.i c.fst,.i c.snd,.own nK 1 (c.rows.map wA)]
abbrev T3(c:F3):List AV:=[.sl 1 (c.codes.map wA),.i c.cnt,.i c.sum,.i c.amo,.i c.fst,.i c.snd,.sl 1 (c.rows.map wA)]
def M2(key v:Int)(m:Bool)(c:F3):F3 :=
 if m=false then { c with cnt:=c.cnt+1,rows:=c.rows++[key] }
 else if c.fst<max v (-v)then { c with cnt:=c.cnt+1,rows:=c.rows++[key],sum:=c.sum+v,amo:=c.amo+max v (-v),fst:=max v (-v),snd:=c.fst }
 else if c.snd<max v (-v)then { c with cnt:=c.cnt+1,rows:=c.rows++[key],sum:=c.sum+v,amo:=c.amo+max v (-v),snd:=max v (-v) }
 else { c with cnt:=c.cnt+1,rows:=c.rows++[key],sum:=c.sum+v,amo:=c.amo+max v (-v) }
structure PH(c:F3):Prop where
 cnt:0≤c.cnt∧c.cnt≤1000
 sum:-1000000000000000≤c.sum∧c.sum≤1000000000000000
 amo:0≤c.amo∧c.amo≤1000000000000000
 rows:c.rows.length≤1000
abbrev DU(l:List (List AV)):Hp:=[(0,some (.row (P3+e9) 7 0 l))]
theorem Er{α:Type}{l:List α}{k:Nat}{x:α}(h:l[k]?=some x):k<l.length:=(List.getElem?_eq_some_iff.1 h).1
theorem lH(l:List (List AV))(k:Nat)(c:F3)(hk:l[k]?=some (M1 c))(hc:PH c)(key v:Int):B6 Tryz.prog 29 1 (DU l) [.elt 0 0 k 0,.i key,.i v,.b false] 1 (DU (l.set k (M1 (M2 key v false c)))) (.tup []):=by
 have nZ:=Er hk
 obtain⟨h1,h2,h3,h4⟩:=hc
 have ni:l[((k:Nat):Int).toNat]?=some (M1 c):=by rw[Int.toNat_natCast];exact hk
 obtain⟨codes,cnt,sum,amo,fst,snd,rows⟩:=c
 dsimp only at h1 h2 h3 h4
 have nu:M2 key v false ⟨codes,cnt,sum,amo,fst,snd,rows⟩=⟨codes,cnt+1,sum,amo,fst,snd,rows++[key]⟩:=rfl
 rw[nu]
 dsimp only[DU]
 refine X6 Tryz.func29 77 fun E h0=>?_
 repeat'((first|(refine GC (i:=0) (List.getElem?_set_self (by first|exact nZ|(simp only[List.length_set];exact nZ))) rfl rfl rfl rfl rfl ?_)|(refine GD (i:=0) (List.getElem?_set_self (by first|exact nZ|(simp only[List.length_set];exact nZ))) rfl rfl rfl rfl rfl rfl rfl rfl rfl ?_)|refine gG ?_ |refine S2 ?_|(refine T6 ?_ ?_<;>intro h<;>try exact V1 h)|intro el nN nP|intro el nN|exact T4|refine T5 ?_ ?_|intro ex)<;>try conv=>whnf)
 all_goals first
  |(exfalso;omega)
  |(exfalso;dsimp only at *;omega)
  |(delta C8;exact .inl ⟨[],[],rfl,trivial,rfl,rfl,A8 h0 rfl trivial ⟨⟨_,congrArg (C9.row (P3+e9) 7 _) (by simp only[List.set_set,M1,List.map_append];rfl)⟩,trivial⟩ rfl rfl rfl,rfl⟩)
theorem mK(l:List (List AV))(k:Nat)(c:F3)(hk:l[k]?=some (M1 c))(hc:PH c)(key v:Int)(hv:-1099511627776≤v∧v≤1099511627776)(ha:c.fst<max v (-v)):B6 Tryz.prog 29 1 (DU l) [.elt 0 0 k 0,.i key,.i v,.b true] 1 (DU (l.set k (M1 (M2 key v true c)))) (.tup []):=by
 have nZ:=Er hk
 obtain⟨h1,h2,h3,h4⟩:=hc
 have ni:l[((k:Nat):Int).toNat]?=some (M1 c):=by rw[Int.toNat_natCast];exact hk
 obtain⟨codes,cnt,sum,amo,fst,snd,rows⟩:=c
 dsimp only at h1 h2 h3 h4 ha
 have nu:M2 key v true ⟨codes,cnt,sum,amo,fst,snd,rows⟩=⟨codes,cnt+1,sum+v,amo+max v (-v),max v (-v),fst,rows++[key]⟩:=by
  unfold M2
  rw[if_neg (by decide),if_pos ha]
 rw[nu]
 have vK:max v (-v)≤1099511627776∧0≤max v (-v):=by omega
 dsimp only[DU]
 refine X6 Tryz.func29 77 fun E h0=>?_
 repeat'((first|(refine GC (i:=0) (List.getElem?_set_self (by first|exact nZ|(simp only[List.length_set];exact nZ))) rfl rfl rfl rfl rfl ?_)|(refine GD (i:=0) (List.getElem?_set_self (by first|exact nZ|(simp only[List.length_set];exact nZ))) rfl rfl rfl rfl rfl rfl rfl rfl rfl ?_)|refine gG ?_ |refine S2 ?_|(refine T6 ?_ ?_<;>intro h<;>try exact V1 h)|intro el nN nP|intro el nN|exact T4|refine T5 ?_ ?_|intro ex)<;>try conv=>whnf)
 all_goals first
  |(exfalso;omega)
  |(exfalso;dsimp only at *;omega)
  |(delta C8;exact .inl ⟨[],[],rfl,trivial,rfl,rfl,A8 h0 rfl trivial ⟨⟨_,congrArg (C9.row (P3+e9) 7 _) (by simp only[List.set_set,M1,List.map_append];rfl)⟩,trivial⟩ rfl rfl rfl,rfl⟩)
theorem mL(l:List (List AV))(k:Nat)(c:F3)(hk:l[k]?=some (M1 c))(hc:PH c)(key v:Int)(hv:-1099511627776≤v∧v≤1099511627776)(ha:¬c.fst<max v (-v))(hb:c.snd<max v (-v)):B6 Tryz.prog 29 1 (DU l) [.elt 0 0 k 0,.i key,.i v,.b true] 1 (DU (l.set k (M1 (M2 key v true c)))) (.tup []):=by
 have nZ:=Er hk
 obtain⟨h1,h2,h3,h4⟩:=hc
 have ni:l[((k:Nat):Int).toNat]?=some (M1 c):=by rw[Int.toNat_natCast];exact hk
 obtain⟨codes,cnt,sum,amo,fst,snd,rows⟩:=c
 dsimp only at h1 h2 h3 h4 ha hb
 have nu:M2 key v true ⟨codes,cnt,sum,amo,fst,snd,rows⟩=⟨codes,cnt+1,sum+v,amo+max v (-v),fst,max v (-v),rows++[key]⟩:=by
  unfold M2
  rw[if_neg (by decide),if_neg ha,if_pos hb]
 rw[nu]
 have vK:max v (-v)≤1099511627776∧0≤max v (-v):=by omega
 dsimp only[DU]
 refine X6 Tryz.func29 77 fun E h0=>?_
 repeat'((first|(refine GC (i:=0) (List.getElem?_set_self (by first|exact nZ|(simp only[List.length_set];exact nZ))) rfl rfl rfl rfl rfl ?_)|(refine GD (i:=0) (List.getElem?_set_self (by first|exact nZ|(simp only[List.length_set];exact nZ))) rfl rfl rfl rfl rfl rfl rfl rfl rfl ?_)|refine gG ?_ |refine S2 ?_|(refine T6 ?_ ?_<;>intro h<;>try exact V1 h)|intro el nN nP|intro el nN|exact T4|refine T5 ?_ ?_|intro ex)<;>try conv=>whnf)
 all_goals first
  |(exfalso;omega)
  |(exfalso;dsimp only at *;omega)
  |(delta C8;exact .inl ⟨[],[],rfl,trivial,rfl,rfl,A8 h0 rfl trivial ⟨⟨_,congrArg (C9.row (P3+e9) 7 _) (by simp only[List.set_set,M1,List.map_append];rfl)⟩,trivial⟩ rfl rfl rfl,rfl⟩)
theorem mM(l:List (List AV))(k:Nat)(c:F3)(hk:l[k]?=some (M1 c))(hc:PH c)(key v:Int)(hv:-1099511627776≤v∧v≤1099511627776)(ha:¬c.fst<max v (-v))(hb:¬c.snd<max v (-v)):B6 Tryz.prog 29 1 (DU l) [.elt 0 0 k 0,.i key,.i v,.b true] 1 (DU (l.set k (M1 (M2 key v true c)))) (.tup []):=by
 have nZ:=Er hk
 obtain⟨h1,h2,h3,h4⟩:=hc
 have ni:l[((k:Nat):Int).toNat]?=some (M1 c):=by rw[Int.toNat_natCast];exact hk
 obtain⟨codes,cnt,sum,amo,fst,snd,rows⟩:=c
 dsimp only at h1 h2 h3 h4 ha hb
 have nu:M2 key v true ⟨codes,cnt,sum,amo,fst,snd,rows⟩=⟨codes,cnt+1,sum+v,amo+max v (-v),fst,snd,rows++[key]⟩:=by
  unfold M2
  rw[if_neg (by decide),if_neg ha,if_neg hb]
 rw[nu]
 have vK:max v (-v)≤1099511627776∧0≤max v (-v):=by omega
 dsimp only[DU]
 refine X6 Tryz.func29 77 fun E h0=>?_
 repeat'((first|(refine GC (i:=0) (List.getElem?_set_self (by first|exact nZ|(simp only[List.length_set];exact nZ))) rfl rfl rfl rfl rfl ?_)|(refine GD (i:=0) (List.getElem?_set_self (by first|exact nZ|(simp only[List.length_set];exact nZ))) rfl rfl rfl rfl rfl rfl rfl rfl rfl ?_)|refine gG ?_ |refine S2 ?_|(refine T6 ?_ ?_<;>intro h<;>try exact V1 h)|intro el nN nP|intro el nN|exact T4|refine T5 ?_ ?_|intro ex)<;>try conv=>whnf)
 all_goals first
  |(exfalso;omega)
  |(exfalso;dsimp only at *;omega)
  |(delta C8;exact .inl ⟨[],[],rfl,trivial,rfl,rfl,A8 h0 rfl trivial ⟨⟨_,congrArg (C9.row (P3+e9) 7 _) (by simp only[List.set_set,M1,List.map_append];rfl)⟩,trivial⟩ rfl rfl rfl,rfl⟩)
theorem Nz(l:List (List AV))(k:Nat)(c:F3)(hk:l[k]?=some (M1 c))(hc:PH c)(key v:Int)(hv:-1099511627776≤v∧v≤1099511627776)(m:Bool):B6 Tryz.prog 29 1 (DU l) [.elt 0 0 k 0,.i key,.i v,.b m] 1 (DU (l.set k (M1 (M2 key v m c)))) (.tup []):=by
 cases m with
 |false=>exact lH l k c hk hc key v
 |true =>
  by_cases ha:c.fst<max v (-v)
  ·exact mK l k c hk hc key v hv ha
  ·by_cases hb:c.snd<max v (-v)
   ·exact mL l k c hk hc key v hv ha hb
   ·exact mM l k c hk hc key v hv ha hb
def N1(codes cell:List Int):Bool:=(cell.zip codes).all fun q=>decide (q.1=-1∨q.1=q.2)
theorem Tv{α:Type}{p:α→Bool}{l:List α}{k:Nat}{x:α}(hx:l[k]?=some x)(h:p x=false):l.all p=false:=by
 rw[List.all_eq_false]
 exact⟨x,List.mem_of_getElem? hx,by rw[h];decide⟩
theorem Qh{α:Type}{p:α→Bool}{l:List α}{k:Nat}{x:α}(hx:l[k]?=some x)(h:(l.take k).all p=true)(hp:p x=true):(l.take (k+1)).all p=true:=by
 rw[I3 hx,List.all_append,h]
 simp[hp]
theorem LV(codes cell:List Int)(hl:cell.length≤codes.length):A3 Tryz.prog 73 [.sl 1 (codes.map wA),.sl 1 (cell.map wA)] (.b (N1 codes cell)):=by
 unfold N1
 generalize hz:cell.zip codes=zs
 have hzl:zs.length=cell.length:=by rw[←hz,List.length_zip];omega
 refine C0 Tryz.func73 25 fun nQ E h0=>?_
 have nO:cell.length≤9223372036854775807:=by have:=(nQ (.sl 1 (cell.map wA)) (by simp)).sl;simpa using this
 clear nQ
 repeat'((first|refine S2 ?_|(refine T6 ?_ ?_<;>intro h<;>try exact V1 h)|intro el nN nP|intro el nN|exact T4|refine T5 ?_ ?_|intro ex)<;>try conv=>whnf)
 refine B2 (ι:=Nat) (fun k=>⟨[(0,.sl 1 (codes.map wA)),(7,.sl 1 (cell.map wA)),(8,.i cell.length),(9,.i k)],0,[]⟩)
  (fun k=>k≤cell.length∧(zs.take k).all (fun q=>decide (q.1=-1∨q.1=q.2))=true) (fun k=>cell.length-k) 0 ⟨Nat.zero_le _,rfl⟩
  (A6 h0) (fun k hK=>?_)
 obtain⟨pk,hK⟩:=hK
 by_cases nZ:k<cell.length
 ·obtain⟨c,hc⟩:∃c,cell[k]?=some c:=⟨_,List.getElem?_eq_getElem nZ⟩
  obtain⟨d,hd⟩:∃d,codes[k]?=some d:=⟨_,List.getElem?_eq_getElem (by omega)⟩
  have hq:zs[k]?=some (c,d):=by rw[←hz,List.getElem?_zip_eq_some];exact⟨hc,hd⟩
  have pc:cell[((k:Nat):Int).toNat]?=some c:=hc
  have ru:codes[((k:Nat):Int).toNat]?=some d:=hd
  have tC:¬c=-1→¬c=d→zs.all (fun q=>decide (q.1=-1∨q.1=q.2))=false:=fun h1 h2=>Tv hq (by simp[h1,h2])
  have pM:c=-1∨c=d→(zs.take (k+1)).all (fun q=>decide (q.1=-1∨q.1=q.2))=true:=fun h=>Qh hq hK (by simpa using h)
  repeat'((first|(refine A2 (x:=c) pc (by omega) ?_)|(refine A2 (x:=d) ru (by omega) ?_)|(refine B8 ?_ ?_;kernel_rfl) |refine S2 ?_|(refine T6 ?_ ?_<;>intro h<;>try exact V1 h)|intro el nN nP|intro el nN|exact T4|refine T5 ?_ ?_|intro ex)<;>try conv=>whnf)
  all_goals first
   |(exfalso;omega)
   |exact⟨k+1,⟨by omega,pM (by omega)⟩,by omega,A6 h0⟩
   |exact A0 rfl (congrArg AV.b (tC (by omega) (by omega)).symm)
 ·have he:zs.take k=zs:=List.take_of_length_le (by omega)
  rw[he]at hK
  rw[hK]
  repeat'((first|refine S2 ?_|(refine T6 ?_ ?_<;>intro h<;>try exact V1 h)|intro el nN nP|intro el nN|exact T4|refine T5 ?_ ?_|intro ex)<;>try conv=>whnf)
  all_goals first
   |(exfalso;omega)
   |exact A0 rfl rfl
theorem LW(l:List (List AV))(n:Nat)(own:List Int):B6 Tryz.prog 28 1 (DU l) [.row 0 0 n,.sl 1 (own.map wA)] 3 [(0,some (.row (P3+e9) 7 0 l)),(1,some (.box [.row 0 0 n])),(2,some (.box [.sl 1 (own.map wA)]))] (.fo 72 [.ref 1 0,.ref 2 0]):=by
 dsimp only[DU]
 refine X6 Tryz.func28 6 fun E h0=>?_
 repeat'((first|refine⟨Lu rfl rfl ?_⟩|refine Lu rfl rfl ?_ |refine S2 ?_|(refine T6 ?_ ?_<;>intro h<;>try exact V1 h)|intro el nN nP|intro el nN|exact T4|refine T5 ?_ ?_|intro ex)<;>try conv=>whnf)
 all_goals first
  |exact G9 (A6 h0)
def AO(own:List Int)(f:F3→F3)(L:List F3)(k:Nat):List F3:=(L.take k).map (fun c=>if N1 own c.codes=true then f c else c)++L.drop k
theorem bS(own:List Int)(f:F3→F3)(L:List F3):AO own f L 0=L:=by simp[AO]
theorem eU(own:List Int)(f:F3→F3)(L:List F3){k:Nat}(h:L.length≤k):AO own f L k=L.map (fun c=>if N1 own c.codes=true then f c else c):=by
 unfold AO
 rw[List.take_of_length_le h,List.drop_eq_nil_of_le h,List.append_nil]
theorem eV(own:List Int)(f:F3→F3)(L:List F3)(k:Nat):(AO own f L k).length=L.length:=by simp[AO];omega
theorem Tw{own:List Int}{f:F3→F3}{L:List F3}{k:Nat}{c:F3}(h:L[k]?=some c):(AO own f L k)[k]?=some c:=by
 have:=D6 h
 unfold AO
 rw[List.getElem?_append_right (by simp;omega),List.length_map,List.length_take,show k-min k L.length=0 by omega,List.getElem?_drop]
 exact h
theorem ic{own:List Int}{f:F3→F3}{L:List F3}{k:Nat}{c:F3}(h:L[k]?=some c)(hi:N1 own c.codes=false):AO own f L (k+1)=AO own f L k:=by
 unfold AO
 rw[I3 h,G6 h,List.map_append,List.append_assoc]
 simp[hi]
theorem eW{own:List Int}{f:F3→F3}{L:List F3}{k:Nat}{c:F3}(h:L[k]?=some c)(hi:N1 own c.codes=true):AO own f L (k+1)=(AO own f L k).set k (f c):=by
 have:=D6 h
 unfold AO
 rw[I3 h,G6 h,List.map_append,List.append_assoc]
 simp only[List.map_cons,List.map_nil,hi,if_true,List.singleton_append]
 rw[List.set_append_right _ _ (by simp;omega)]
 simp[show k-min k L.length=0 by omega]
abbrev lI(l:List (List AV))(n:Nat)(own:List Int):Hp:=[(0,some (.row (P3+e9) 7 0 l)),(1,some (.box [.row 0 0 n])),(2,some (.box [.sl 1 (own.map wA)]))]
abbrev lJ(l:List (List AV))(n:Nat):Hp:=[(0,some (.row (P3+e9) 7 0 l)),(1,some (.box [.row 0 0 n])),(2,none)]
attribute [local irreducible] Gc ER Kf Gz
theorem Jl(l:Nat)(rc:Loop)(slc:List (Nat×AV))(own:List Int)(f:F3→F3)(L:List F3)(hL:L.length≤9223372036854775807)(nO:∀c∈L,c.codes.length≤own.length)
  (hY:∀(M:List F3) (k:Nat) c,M.length=L.length→M[k]?=some c→c∈L→Kf Tryz.prog l rc slc 1 (DU (M.map M1)) [.elt 0 0 k 0] 1 (DU ((M.set k (f c)).map M1))) :
  Gz Tryz.prog 72 l rc slc 3 (lI (L.map M1) L.length own) [.v (.func (.yield l) #[] #[]),.ref 1 0,.ref 2 0] 3 (lJ ((L.map (fun c=>if N1 own c.codes=true then f c else c)).map M1) L.length) (.tup []):=by
 refine mw Tryz.func72 26 fun E h0 hE hO=>?_
 refine x4 (A8 (σ':=⟨[(0,.v (.func (.yield l) #[] #[])),(1,.ref 1 0),(2,.iptr [.sl 1 (own.map wA)])],3,[(0,some (.row (P3+e9) 7 0 (L.map M1))),(1,some (.box [.row 0 0 L.length]))]⟩) h0 rfl ⟨rfl,rfl,rfl,trivial⟩ ⟨⟨_,rfl⟩,rfl,trivial⟩ rfl rfl rfl) ?_
 repeat'((first|refine S2 ?_|(refine T6 ?_ ?_<;>intro h<;>try exact V1 h)|intro el nN nP|intro el nN|exact T4|refine T5 ?_ ?_|intro ex)<;>try conv=>whnf)
 refine B2 (ι:=Nat) (fun k=>⟨[(0,.v (.func (.yield l) #[] #[])),(1,.ref 1 0),(2,.iptr [.sl 1 (own.map wA)]),(6,.i L.length),(7,.i k)],3,[(0,some (.row (P3+e9) 7 0 ((AO own f L k).map M1))),(1,some (.box [.row 0 0 L.length]))]⟩)
  (fun k=>k≤L.length) (fun k=>L.length-k) 0 (Nat.zero_le _)
  (A8 h0 rfl ⟨rfl,rfl,rfl,congrArg (fun z:Nat=>some (AV.i (z:Int))) (by simp),rfl,trivial⟩ ⟨⟨_,congrArg (C9.row (P3+e9) 7 _) (by rw[bS])⟩,rfl,trivial⟩ rfl rfl rfl) (fun k hK=>?_)
 have xS:=eV own f L k
 by_cases nZ:k<L.length
 ·obtain⟨c,hc⟩:∃c,L[k]?=some c:=⟨_,List.getElem?_eq_getElem nZ⟩
  have pK:=LV own c.codes (nO c (List.mem_of_getElem? hc))
  have hg:(AO own f L k)[((k:Nat):Int).toNat]?=some c:=by rw[Int.toNat_natCast];exact Tw hc
  cases hi:N1 own c.codes with
  |false =>
   have nf:=ic (f:=f) hc hi
   rw[hi]at pK
   repeat'((first|(refine A2 (x:=c) hg (by omega) ?_)|refine A1 pK ?_|(refine B8 ?_ ?_;kernel_rfl) |refine S2 ?_|(refine T6 ?_ ?_<;>intro h<;>try exact V1 h)|intro el nN nP|intro el nN|exact T4|refine T5 ?_ ?_|intro ex)<;>try conv=>whnf)
   all_goals first
    |(exfalso;omega)
    |exact⟨k+1,by omega,by omega,A8 h0 rfl ⟨rfl,rfl,rfl,rfl,rfl,trivial⟩ ⟨⟨_,congrArg (C9.row (P3+e9) 7 _) (by rw[nf])⟩,rfl,trivial⟩ rfl rfl rfl⟩
  |true =>
   have AA5:=eW (f:=f) hc hi
   rw[hi]at pK
   have hy:=hY (AO own f L k) k c xS (Tw hc) (List.mem_of_getElem? hc)
   rw[←AA5]at hy
   repeat'((first|(refine A2 (x:=c) hg (by omega) ?_)|refine A1 pK ?_|refine lD ?_ ?_|exact lC|(refine lG (id:=3) ⟨[(0,.v (.func (.yield l) #[] #[])),(1,.ref 1 0),(2,.iptr [.sl 1 (own.map wA)]),(6,.i L.length),(7,.i k),(24,.b false)],3,[(0,some (.row (P3+e9) 7 0 ((AO own f L (k+1)).map M1))),(1,some (.box [.row 0 0 L.length]))]⟩ ?_ ?_)|(refine Yk rfl rfl ?_;refine Yj [0] [0] hE hO hy rfl rfl rfl rfl ⟨rfl,trivial⟩ ?_)|refine eS ?_|refine eR rfl ?_ |refine S2 ?_|(refine T6 ?_ ?_<;>intro h<;>try exact V1 h)|intro el nN nP|intro el nN|exact T4|refine T5 ?_ ?_|intro ex)<;>try conv=>whnf)
   all_goals first
    |(exfalso;omega)
    |exact A8 h0 rfl ⟨rfl,rfl,rfl,rfl,rfl,rfl,trivial⟩ ⟨⟨_,rfl⟩,rfl,trivial⟩ rfl rfl rfl
    |exact⟨k+1,by omega,by omega,A6 h0⟩
 ·have pX:=eU own f L (k:=k) (by omega)
  repeat'((first|refine S2 ?_|(refine T6 ?_ ?_<;>intro h<;>try exact V1 h)|intro el nN nP|intro el nN|exact T4|refine T5 ?_ ?_|intro ex)<;>try conv=>whnf)
  all_goals first
   |(exfalso;omega)
   |(delta C8;exact .inl ⟨[],[],rfl,trivial,rfl,rfl,A8 h0 rfl trivial ⟨⟨_,congrArg (C9.row (P3+e9) 7 _) (by rw[pX])⟩,rfl,trivial⟩ rfl rfl rfl,rfl⟩)
mutual
def DA:B1→Int→Int
 |.mk _ _ _ _ _ ks,most=>BM ks most 1
def BM:List B1→Int→Int→Int
 |[],_,n=>n
 |x::r,most,n=>if n<most then BM r most (n+DA x (most-n))else n
end
theorem MK(c:B1)(m:Int):DA c m=BM c.kids m 1:=by cases c;rfl
theorem eY(c:B1):∀m:Int,1≤DA c m∧DA c m≤max 1 m:=by
 refine N9 (p:=fun c=>∀m:Int,1≤DA c m∧DA c m≤max 1 m) (fun c ih m=>?_) c
 have key:∀(l:List B1),(∀k∈l,k∈c.kids)→∀n:Int,1≤n→n≤max 1 m→1≤BM l m n∧BM l m n≤max 1 m:=by
  intro l
  induction l with
  |nil=>intro _ n h1 h2;exact⟨h1,h2⟩
  |cons x r sJ =>
   intro hl n h1 h2
   unfold BM
   split
   ·have:=ih x (hl x (by simp)) (m-n)
    exact sJ (fun k hk=>hl k (by simp[hk])) _ (by omega) (by omega)
   ·exact⟨h1,h2⟩
 rw[MK]
 exact key c.kids (fun k hk=>hk) 1 (by omega) (by omega)
theorem eZ(c:B1):∀m:Int,1≤m→DA c m=min (R2 c:Int) m:=by
 refine N9 (p:=fun c=>∀m:Int,1≤m→DA c m=min (R2 c:Int) m) (fun c ih m hm=>?_) c
 have key:∀(l:List B1),(∀k∈l,k∈c.kids)→∀n:Int,n≤m→BM l m n=min (n+Y3 l) m:=by
  intro l
  induction l with
  |nil=>intro _ n h;unfold BM Y3;omega
  |cons x r sJ =>
   intro hl n hn
   unfold BM Y3
   by_cases h:n<m
   ·have h1:=ih x (hl x (by simp)) (m-n) (by omega)
    rw[if_pos h,h1,sJ (fun k hk=>hl k (by simp[hk])) _ (by omega)]
    omega
   ·rw[if_neg h]
    omega
 rw[MK,Db,key c.kids (fun k hk=>hk) 1 hm]
 omega
theorem Tx(c:B1):∀(m:Int),-100000≤m→m≤100000→A3 Tryz.prog 160 [E7 c,.i m] (.i (DA c m)):=by
 refine N9 (p:=fun c=>∀(m:Int),-100000≤m→m≤100000→A3 Tryz.prog 160 [E7 c,.i m] (.i (DA c m))) (fun c ih m hm1 qt=>?_) c
 rw[F8,MK]
 refine C0 Tryz.func160 31 fun nQ E h0=>?_
 have nO:c.kids.length≤9223372036854775807:=by
  have:=((nQ _ (List.mem_cons_self ..)).agg (.sl 6 (c.kids.map K2)) (by simp)).sl
  simpa using this
 clear nQ
 repeat'((first|refine S2 ?_|(refine T6 ?_ ?_<;>intro h<;>try exact V1 h)|intro el nN nP|intro el nN|exact T4|refine T5 ?_ ?_|intro ex)<;>try conv=>whnf)
 refine B2 (ι:=Nat×Int) (fun x=>⟨[(1,.i m),(2,.ref 0 0),(5,.i x.2),(6,.i x.1)],1,[(0,some (.box (O4 c)))]⟩) (fun x=>x.1≤c.kids.length∧(1≤x.2∧x.2≤max 1 m)∧BM c.kids m 1=BM (c.kids.drop x.1) m x.2) (fun x=>c.kids.length-x.1) (0,1) ⟨Nat.zero_le _,by dsimp only;omega,rfl⟩
  (A6 h0) (fun x hI=>?_)
 obtain⟨k,n⟩:=x
 obtain⟨hk,hn,hI⟩:=hI
 dsimp only at hk hn hI ⊢
 have hrb:=fun el=>eY el (m-n)
 repeat'((first|(refine A1 (ih _ (List.mem_of_getElem? (by assumption)) _ (by omega) (by omega)) ?_)|(refine J4 ?_ ?_;(have:=hrb el;omega)) |refine S2 ?_|(refine T6 ?_ ?_<;>intro h<;>try exact V1 h)|intro el nN nP|intro el nN|exact T4|refine T5 ?_ ?_|intro ex)<;>try conv=>whnf)
 all_goals first
  |exact A0 rfl (congrArg AV.i (by rw[hI,W4 (by assumption)];rfl))
  |(obtain⟨x,hx⟩:∃x,c.kids[k]?=some x:=⟨_,List.getElem?_eq_getElem (by omega)⟩
    exact A0 rfl (congrArg AV.i (by rw[hI,G6 hx,BM,if_neg (by assumption)])))
  |exact⟨(k+1,n+DA el (m-n)),⟨by dsimp only;omega,(by have:=hrb el;dsimp only;omega),by rw[hI,G6 nN,BM,if_pos (by assumption)]⟩,by dsimp only;omega,A6 h0⟩
theorem Va(c:B1):R7 c≤100000→A3 Tryz.prog 161 [E7 c] (.i (R7 c)):=by
 refine N9 (p:=fun c=>R7 c≤100000→A3 Tryz.prog 161 [E7 c] (.i (R7 c))) (fun c ih hd=>?_) c
 have px:=Oq c.kids 0
 rw[Gt]at hd
 rw[F8,Gt]
 refine C0 Tryz.func161 22 fun nQ E h0=>?_
 have nO:c.kids.length≤9223372036854775807:=by
  have:=((nQ _ (List.mem_cons_self ..)).agg (.sl 6 (c.kids.map K2)) (by simp)).sl
  simpa using this
 clear nQ
 repeat'((first|refine S2 ?_|(refine T6 ?_ ?_<;>intro h<;>try exact V1 h)|intro el nN nP|intro el nN|exact T4|refine T5 ?_ ?_|intro ex)<;>try conv=>whnf)
 refine B2 (ι:=Nat×Nat) (fun x=>⟨[(1,.ref 0 0),(3,.i x.2),(4,.i x.1)],1,[(0,some (.box (O4 c)))]⟩) (fun x=>x.1≤c.kids.length∧x.2≤W9 c.kids 0∧W9 c.kids 0=W9 (c.kids.drop x.1) x.2) (fun x=>c.kids.length-x.1) (0,0) ⟨Nat.zero_le _,Nat.zero_le _,rfl⟩
  (A6 h0) (fun x hI=>?_)
 obtain⟨k,n⟩:=x
 obtain⟨hk,hn,hI⟩:=hI
 dsimp only at hk hn hI ⊢
 have wQ:∀el,c.kids[k]?=some el→R7 el≤W9 c.kids 0:=fun el nN=>px.2 el (List.mem_of_getElem? nN)
 repeat'((first|(refine A1 (ih _ (List.mem_of_getElem? (by assumption)) (by have:=wQ el nN;omega)) ?_) |refine S2 ?_|(refine T6 ?_ ?_<;>intro h<;>try exact V1 h)|intro el nN nP|intro el nN|exact T4|refine T5 ?_ ?_|intro ex)<;>try conv=>whnf)
 all_goals first
  |exact A0 rfl (congrArg AV.i (by rw[hI,W4 (by assumption)];unfold W9;omega))
  |exact⟨(k+1,max n (R7 el)),⟨by dsimp only;omega,(by have:=wQ el nN;dsimp only;omega),by rw[hI,G6 nN,W9]⟩,by dsimp only;omega,A8 h0 rfl ⟨rfl,congrArg (fun z:Int=>some (AV.i z)) (by dsimp only;omega),rfl,trivial⟩ ⟨rfl,trivial⟩ rfl rfl rfl⟩
abbrev P1(s:A4)(col kind:Int):Bool:=decide (0≤col∧col<s.cols.length∧(B4 s col).kind=kind)
theorem ig(s:A4)(col kind:Int):A3 Tryz.prog 191 [sA s,.i col,.i kind] (.b (P1 s col kind)):=by
 refine C0 Tryz.func191 26 fun nQ E h0=>?_
 clear nQ
 repeat'((first|refine S2 ?_|(refine T6 ?_ ?_<;>intro h<;>try exact V1 h)|intro el nN nP|intro el nN|exact T4|refine T5 ?_ ?_|intro ex)<;>try conv=>whnf)
 all_goals first
  |exact A0 rfl (congrArg AV.b (by unfold P1;rw[decide_eq_false (by omega)]))
  |exact A0 rfl (congrArg AV.b (by unfold P1;rw[B7 nN,decide_eq_decide];omega))
end Go.Proofs.YtjkbhaaobhgkdabGreatDoor

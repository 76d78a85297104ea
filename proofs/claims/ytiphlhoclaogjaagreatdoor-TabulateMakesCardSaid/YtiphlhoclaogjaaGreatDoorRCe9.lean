/- Chapter 18: which extracts are right: the reference. -/
import Derived.Test.YtiphlhoclaogjaaGreatDoorRTc0
import Derived.Test.YtiphlhoclaogjaaGreatDoorRC1
import Derived.Test.YtiphlhoclaogjaaGreatDoorRSx
import Derived.Test.YtiphlhoclaogjaaGreatDoorRCe1
import Derived.Test.YtiphlhoclaogjaaGreatDoorRCe3
import Derived.Test.YtiphlhoclaogjaaGreatDoorRB10
set_option linter.unusedVariables false
set_option linter.unnecessarySimpa false
set_option linter.unusedSimpArgs false
set_option maxHeartbeats 64000000
namespace Go.Proofs.YtiphlhoclaogjaaGreatDoor
open Go Go.Av
attribute [local irreducible] C9 B3 C7 D1 DQ D0 C6 St.le A3 B7
set_option maxRecDepth 100000
theorem iL{s:A4}{picks:List Pk}{r:List Int}(h:¬r.length=picks.length+1):y9 s picks r=false:=by
 unfold y9;rw[decide_eq_false (fun hh=>h hh.1),Bool.false_and]
theorem iM{s:A4}{picks:List Pk}{r:List Int}{z:Int}(hz:r[0]?=some z)(h:z<0∨1048575<z):y9 s picks r=false:=by
 unfold y9;rw[O5 hz,decide_eq_false (fun hh=>by omega),Bool.false_and]
theorem iN{s:A4}{picks:List Pk}{r:List Int}{z:Int}(hl:r.length=picks.length+1)(hz:r[0]?=some z)(h0:0≤z)(h1:z≤1048575):y9 s picks r=s8 s (picks.zip r.tail):=by
 unfold y9;rw[O5 hz,decide_eq_true ⟨hl,h0,h1⟩,Bool.true_and]
theorem b8(s:A4)(x:J7):A3 Tryz.prog 33 [sA s,T8 x] (.i (K9 s x)):=by
 have h1:=Q4 s
 have h2:=m9 x.prj
 have h3:=Df s x.picks
 by_cases e1:¬C3 s=0
 ·rw[K9,if_pos e1]
  refine B5 Tryz.func33 112 fun mK E h0=>?_
  clear mK
  repeat'((first|refine A0 h1 ?_ |refine S2 ?_|(refine T6 ?_ ?_<;>intro h<;>try exact V1 h)|intro el mI mJ|intro el mI|exact T4|refine T5 ?_ ?_|intro ex)<;>try conv=>whnf)
  all_goals first
   |(exfalso;omega)
   |exact A1 rfl rfl
 have e1:=Decidable.of_not_not e1
 have oT:=fun c l v=>Lm s c l v
 have tP:=fun (p:Pk) (x:D4) (h1:1≤p.col) (hx:s.cols[p.col.toNat]?=some x) (h3:0≤p.lev) (h4:p.lev≤B4 s p.col) (v:Int)=>(Lx e1 h1 hx h3 h4 v).1
 have uR:∀c,B4 s c=E5 s c:=fun c=>by unfold B4;rw[if_pos e1]
 have nC:=fun k=>@F2.step _ (AM s x) x.rows k
 have qT:=fun k=>@F2.hit _ (AM s x) x.rows k
 have qk:=fun k=>@F2.done _ (AM s x) x.rows k
 have qf:=fun k=>@TQ s x k
 have hz:=F2.zero (AM s x) x.rows
 have hex:∀k r,AM s x k r=if y9 s x.picks r=false then 9 else if 0<k∧r.headD 0≤(x.rows.getD (k-1) []).headD 0 then 10 else 0:=fun _ _=>rfl
 have hE:K9 s x=if D6 x.prj=false then 3 else if x.ver<0∨300<x.ver then 13 else if ¬I7 s x.picks=0 then I7 s x.picks else if 200<x.rows.length then 1 else F4 (AM s x) 0 x.rows:=by
  rw[K9,if_neg (fun h=>h e1)]
 rw[hE]
 clear hE
 generalize AM s x=FE at *
 obtain⟨pr,ver,picks,rows⟩:=x
 dsimp only at *
 have hX:T8 ⟨pr,ver,picks,rows⟩=.agg [.str pr,.i ver,.sl 2 (picks.map A8),.sl 1 (rows.map D2)]:=rfl
 rw[hX]
 by_cases e3:D6 pr=false
 ·rw[if_pos e3]
  rw[e3]at h2
  refine B5 Tryz.func33 112 fun mK E h0=>?_
  clear mK
  repeat'((first|refine A0 h1 ?_|refine A0 h2 ?_|refine A0 h3 ?_ |refine S2 ?_|(refine T6 ?_ ?_<;>intro h<;>try exact V1 h)|intro el mI mJ|intro el mI|exact T4|refine T5 ?_ ?_|intro ex)<;>try conv=>whnf)
  all_goals first
   |(exfalso;omega)
   |exact A1 rfl rfl
 rw[if_neg e3]
 have e3:D6 pr=true:=by cases h:D6 pr with|true=>rfl|false=>exact absurd h e3
 rw[e3]at h2
 by_cases e4:ver<0∨300<ver
 ·rw[if_pos e4]
  refine B5 Tryz.func33 112 fun mK E h0=>?_
  clear mK
  repeat'((first|refine A0 h1 ?_|refine A0 h2 ?_|refine A0 h3 ?_ |refine S2 ?_|(refine T6 ?_ ?_<;>intro h<;>try exact V1 h)|intro el mI mJ|intro el mI|exact T4|refine T5 ?_ ?_|intro ex)<;>try conv=>whnf)
  all_goals first
   |(exfalso;omega)
   |exact A1 rfl rfl
 rw[if_neg e4]
 by_cases e2:¬I7 s picks=0
 ·rw[if_pos e2]
  refine B5 Tryz.func33 112 fun mK E h0=>?_
  clear mK
  repeat'((first|refine A0 h1 ?_|refine A0 h2 ?_|refine A0 h3 ?_ |refine S2 ?_|(refine T6 ?_ ?_<;>intro h<;>try exact V1 h)|intro el mI mJ|intro el mI|exact T4|refine T5 ?_ ?_|intro ex)<;>try conv=>whnf)
  all_goals first
   |(exfalso;omega)
   |exact A1 rfl rfl
 rw[if_neg e2]
 have e2:=Decidable.of_not_not e2
 have xH:=w5 e2
 have ob:=f8 e2
 have mf:=(D3 e1).2.1
 rw[e2]at h3
 refine B5 Tryz.func33 112 fun mK E h0=>?_
 have mL:rows.length≤9223372036854775807:=by
  have:=((mK (.agg [.str pr,.i ver,.sl 2 (picks.map A8),.sl 1 (rows.map D2)]) (by simp)).agg (.sl 1 (rows.map D2)) (by simp)).sl
  simpa using this
 clear mK
 by_cases e5:200<rows.length
 ·rw[if_pos e5]
  repeat'((first|refine A0 h1 ?_|refine A0 h2 ?_|refine A0 h3 ?_ |refine S2 ?_|(refine T6 ?_ ?_<;>intro h<;>try exact V1 h)|intro el mI mJ|intro el mI|exact T4|refine T5 ?_ ?_|intro ex)<;>try conv=>whnf)
  all_goals first
   |(exfalso;omega)
   |exact A1 rfl rfl
 rw[if_neg e5]
 repeat'((first|refine A0 h1 ?_|refine A0 h2 ?_|refine A0 h3 ?_ |refine S2 ?_|(refine T6 ?_ ?_<;>intro h<;>try exact V1 h)|intro el mI mJ|intro el mI|exact T4|refine T5 ?_ ?_|intro ex)<;>try conv=>whnf)
 all_goals first
  |(exfalso;omega)
  |skip
 refine A9 (ι:=Nat) (fun k=>⟨[(2,.ref 0 0),(3,.ref 1 0),(7,.i k)],2,[(0,some (.box (sL s))),(1,some (.box [.str pr,.i ver,.sl 2 (picks.map A8),.sl 1 (rows.map D2)]))]⟩)
  (fun k=>F2 FE rows k) (fun k=>rows.length-k) 0 hz
  (A6 h0) (fun k hK=>?_)
 by_cases mT:k<rows.length
 ·obtain⟨r,ot⟩:∃r,rows[k]?=some r:=⟨_,List.getElem?_eq_getElem mT⟩
  have pH:rows[((k:Nat):Int).toNat]?=some r:=ot
  have hx:=hex k r
  have h9:y9 s picks r=false→F4 FE 0 rows=9:=fun h=>by
   rw[if_pos h]at hx
   rw[←qT k hK ot (by rw[hx];decide),hx]
  by_cases ql:¬r.length=picks.length+1
  ·have hv:=h9 (iL ql)
   repeat'((first|(refine A2 (x:=r) pH (by omega) ?_)|(refine B0 ?_ ?_;kernel_rfl) |refine S2 ?_|(refine T6 ?_ ?_<;>intro h<;>try exact V1 h)|intro el mI mJ|intro el mI|exact T4|refine T5 ?_ ?_|intro ex)<;>try conv=>whnf)
   all_goals first
    |(exfalso;omega)
    |exact A1 rfl (congrArg AV.i hv.symm)
  have ql:=Decidable.of_not_not ql
  obtain⟨r0,nh⟩:∃z,r[0]?=some z:=⟨_,List.getElem?_eq_getElem (by omega)⟩
  by_cases h01:r0<0∨1048575<r0
  ·have hv:=h9 (iM nh h01)
   repeat'((first|(refine A2 (x:=r) pH (by omega) ?_)|(refine A2 (x:=r0) nh (by omega) ?_)|(refine B0 ?_ ?_;kernel_rfl) |refine S2 ?_|(refine T6 ?_ ?_<;>intro h<;>try exact V1 h)|intro el mI mJ|intro el mI|exact T4|refine T5 ?_ ?_|intro ex)<;>try conv=>whnf)
   all_goals first
    |(exfalso;omega)
    |exact A1 rfl (congrArg AV.i hv.symm)
  have xg:=iN (s:=s) ql nh (by omega) (by omega)
  repeat'((first|(refine A2 (x:=r) pH (by omega) ?_)|(refine A2 (x:=r0) nh (by omega) ?_)|(refine B0 ?_ ?_;kernel_rfl) |refine S2 ?_|(refine T6 ?_ ?_<;>intro h<;>try exact V1 h)|intro el mI mJ|intro el mI|exact T4|refine T5 ?_ ?_|intro ex)<;>try conv=>whnf)
  all_goals first
   |(exfalso;omega)
   |skip
  have wm:(picks.zip r.tail).length=picks.length:=by rw[List.length_zip,List.length_tail];omega
  have uC:=fun k p v h1 h2=>@Ll picks r k p v h1 h2
  generalize picks.zip r.tail=pv at *
  refine A9 (ι:=Nat) (fun i=>⟨[(2,.ref 0 0),(3,.ref 1 0),(7,.i k),(8,.sl 1 (r.map wA)),(9,.i i)],2,[(0,some (.box (sL s))),(1,some (.box [.str pr,.i ver,.sl 2 (picks.map A8),.sl 1 (rows.map D2)]))]⟩)
   (fun i=>i≤picks.length∧s8 s (pv.take i)=true) (fun i=>picks.length-i) 0 ⟨Nat.zero_le _,rfl⟩
   (A6 h0) (fun i hI=>?_)
  obtain⟨i1,i2⟩:=hI
  by_cases pg:i<picks.length
  ·obtain⟨p,hp⟩:∃p,picks[i]?=some p:=⟨_,List.getElem?_eq_getElem pg⟩
   obtain⟨v,hv⟩:∃v,r[i+1]?=some v:=⟨_,List.getElem?_eq_getElem (by omega)⟩
   have hq:=uC i p v hp hv
   have hp2:picks[((i:Nat):Int).toNat]?=some p:=hp
   have pu:r[((i:Int)+1).toNat]?=some v:=by rw[show ((i:Int)+1).toNat=i+1 by omega];exact hv
   obtain⟨c1,c2,c3,c4⟩:=xH i p hp
   obtain⟨xc,hxc⟩:∃x,s.cols[p.col.toNat]?=some x:=⟨_,List.getElem?_eq_getElem (by omega)⟩
   have zK:=tP p xc c1 hxc c3 (by rw[uR];exact c4) v
   have hc:=oT p.col p.lev v
   rw[←zK]at hc
   have np:s8 s (pv.take (i+1))=(M3 s p.col p.lev v).2:=by
    unfold s8 at i2 ⊢
    rw[E7 hq,List.all_append,i2]
    simp
   have rF:(M3 s p.col p.lev v).2=false→s8 s pv=false:=fun h=>KI hq h
   generalize (M3 s p.col p.lev v).2=S at *
   cases S
   ·have hv9:=h9 (by rw[xg];exact rF rfl)
    repeat'((first|(refine A2 (x:=p) hp2 (by omega) ?_)|(refine A2 (x:=v) pu (by omega) ?_)|refine A0 hc ?_|(refine B0 ?_ ?_;kernel_rfl) |refine S2 ?_|(refine T6 ?_ ?_<;>intro h<;>try exact V1 h)|intro el mI mJ|intro el mI|exact T4|refine T5 ?_ ?_|intro ex)<;>try conv=>whnf)
    all_goals first
     |(exfalso;omega)
     |exact A1 rfl (congrArg AV.i hv9.symm)
   ·repeat'((first|(refine A2 (x:=p) hp2 (by omega) ?_)|(refine A2 (x:=v) pu (by omega) ?_)|refine A0 hc ?_|(refine B0 ?_ ?_;kernel_rfl) |refine S2 ?_|(refine T6 ?_ ?_<;>intro h<;>try exact V1 h)|intro el mI mJ|intro el mI|exact T4|refine T5 ?_ ?_|intro ex)<;>try conv=>whnf)
    all_goals first
     |(exfalso;omega)
     |exact⟨i+1,⟨by omega,np⟩,by omega,A6 h0⟩
  ·have nu:pv.take i=pv:=List.take_of_length_le (by omega)
   rw[nu]at i2
   rw[xg,i2,if_neg (by decide),O5 nh]at hx
   by_cases qr:k=0
   ·subst qr
    rw[if_neg (by omega)]at hx
    have mR:=nC 0 hK ot hx
    repeat'((first|(refine A2 (x:=r0) nh (by omega) ?_)|(refine B0 ?_ ?_;kernel_rfl) |refine S2 ?_|(refine T6 ?_ ?_<;>intro h<;>try exact V1 h)|intro el mI mJ|intro el mI|exact T4|refine T5 ?_ ?_|intro ex)<;>try conv=>whnf)
    all_goals first
     |(exfalso;omega)
     |exact⟨0+1,mR,by omega,A6 h0⟩
   ·obtain⟨q,hq⟩:∃q,rows[k-1]?=some q:=⟨_,List.getElem?_eq_getElem (by omega)⟩
    have qo:=O6 (qf k hK (i:=k-1) (by omega) hq)
    obtain⟨q0,rz⟩:∃z,q[0]?=some z:=⟨_,List.getElem?_eq_getElem (by omega)⟩
    rw[D7 hq,O5 rz]at hx
    have nq:rows[((k:Int)-1).toNat]?=some q:=by rw[show ((k:Int)-1).toNat=k-1 by omega];exact hq
    by_cases nT:r0≤q0
    ·rw[if_pos ⟨by omega,nT⟩]at hx
     have oI:=qT k hK ot (by rw[hx];decide)
     rw[hx]at oI
     repeat'((first|(refine A2 (x:=q) nq (by omega) ?_)|(refine A2 (x:=q0) rz (by omega) ?_)|(refine A2 (x:=r0) nh (by omega) ?_)|(refine B0 ?_ ?_;kernel_rfl) |refine S2 ?_|(refine T6 ?_ ?_<;>intro h<;>try exact V1 h)|intro el mI mJ|intro el mI|exact T4|refine T5 ?_ ?_|intro ex)<;>try conv=>whnf)
     all_goals first
      |(exfalso;omega)
      |exact A1 rfl (congrArg AV.i oI)
    ·rw[if_neg (fun h=>nT h.2)]at hx
     have mR:=nC k hK ot hx
     repeat'((first|(refine A2 (x:=q) nq (by omega) ?_)|(refine A2 (x:=q0) rz (by omega) ?_)|(refine A2 (x:=r0) nh (by omega) ?_)|(refine B0 ?_ ?_;kernel_rfl) |refine S2 ?_|(refine T6 ?_ ?_<;>intro h<;>try exact V1 h)|intro el mI mJ|intro el mI|exact T4|refine T5 ?_ ?_|intro ex)<;>try conv=>whnf)
     all_goals first
      |(exfalso;omega)
      |exact⟨k+1,mR,by omega,A6 h0⟩
 ·have hd:=qk k hK (by omega)
  repeat'((first|refine S2 ?_|(refine T6 ?_ ?_<;>intro h<;>try exact V1 h)|intro el mI mJ|intro el mI|exact T4|refine T5 ?_ ?_|intro ex)<;>try conv=>whnf)
  all_goals first
   |(exfalso;omega)
   |exact A1 rfl (congrArg AV.i hd.symm)
theorem Hu(s:A4)(c:B6)(v:Int)(ho:c.op=2∨c.op=3∨c.op=4)(h2:c.op=2→∃x lx,0≤c.col∧s.cols[c.col.toNat]?=some x∧0≤x.lst∧s.lists[x.lst.toNat]?=some lx):A3 Tryz.prog 186 [sA s,D5 c,.i v] (.i (M2 s c v)):=by
 rw[F8]
 refine B5 Tryz.func186 46 fun mK E h0=>?_
 obtain⟨oH,mt,oc⟩:=Z8 (s:=s) (mK _ (by simp))
 clear mK
 unfold M2
 by_cases pJ:c.op=2
 ·obtain⟨x,lx,g0,g1,g2,g3⟩:=h2 pJ
  rw[if_pos pJ,C1 g1,H6 g3]
  have xn:=Uv lx.1 lx.2 v c.code (oc lx (List.mem_of_getElem? g3))
  repeat'((first|(refine A2 (x:=x) g1 (by omega) ?_)|(refine A2 (x:=lx) g3 (by omega) ?_)|refine A0 xn ?_|(refine B0 ?_ ?_;kernel_rfl) |refine S2 ?_|(refine T6 ?_ ?_<;>intro h<;>try exact V1 h)|intro el mI mJ|intro el mI|exact T4|refine T5 ?_ ?_|intro ex)<;>try conv=>whnf)
  all_goals first
   |exact A1 rfl (congrArg AV.i (by rw[h];rfl))
 ·rw[if_neg pJ]
  repeat'((first|(refine B0 ?_ ?_;kernel_rfl) |refine S2 ?_|(refine T6 ?_ ?_<;>intro h<;>try exact V1 h)|intro el mI mJ|intro el mI|exact T4|refine T5 ?_ ?_|intro ex)<;>try conv=>whnf)
  all_goals first
   |(exfalso;rcases ho with ho|ho|ho<;>contradiction)
   |(rw[if_pos (by omega)];refine A1 rfl (congrArg AV.i ?_);unfold GH;first|(rw[decide_eq_true (by assumption)];rfl)|(rw[decide_eq_false (by assumption)];rfl))
   |(rw[if_neg (by omega),if_pos (by omega)];exact A1 rfl rfl)
   |(rw[if_neg (by omega),if_neg (by omega)];refine A1 rfl (congrArg AV.i ?_);unfold GH;first|(rw[decide_eq_true (by omega)];rfl)|(rw[decide_eq_false (by omega)];rfl))
theorem VO(c:B6):d8 c≤100000→A3 Tryz.prog 184 [D5 c] (.sl 6 ((k0 c).map I8)):=by
 refine N4 (p:=fun c=>d8 c≤100000→A3 Tryz.prog 184 [D5 c] (.sl 6 ((k0 c).map I8))) (fun c ih ht=>?_) c
 rw[Ei]at ht
 rw[F8,DM]
 refine B5 Tryz.func184 36 fun mK E h0=>?_
 have mL:c.kids.length≤9223372036854775807:=by
  have:=((mK _ (List.mem_cons_self ..)).agg (.sl 6 (c.kids.map I8)) (by simp)).sl
  simpa using this
 clear mK
 repeat'((first|refine S2 ?_|(refine T6 ?_ ?_<;>intro h<;>try exact V1 h)|intro el mI mJ|intro el mI|exact T4|refine T5 ?_ ?_|intro ex)<;>try conv=>whnf)
 all_goals first
  |(rw[if_pos (by omega)];refine A1 rfl ?_;rw[List.map_cons,I8,OZ];rfl)
  |skip
 rw[if_neg (by omega)]
 refine A9 (ι:=Nat) (fun k=>⟨[(1,.ref 0 0),(3,.row 1 0 (a6 (c.kids.take k)).length),(4,.i k)],2,[(0,some (.box (M8 c))),(1,some (.row 29 6 0 ((a6 (c.kids.take k)).map I8)))]⟩) (fun k=>k≤c.kids.length) (fun k=>c.kids.length-k) 0 (Nat.zero_le _)
  (B9 (H7 (d:=3) (e:=29) (sz:=6) rfl) (A7 h0 rfl ⟨rfl,rfl,rfl,trivial⟩ ⟨rfl,⟨0,rfl⟩,trivial⟩ rfl rfl rfl)) (fun k hk=>?_)
 have nT:=JB c.kids k
 repeat'((first|(refine A0 (ih _ (List.mem_of_getElem? (by assumption)) (by have:=HX el (List.mem_of_getElem? mI);omega)) ?_)|(refine I6 ?_ ?_;(have q1:=Gi el;have q2:=HX el (List.mem_of_getElem? mI);simp only[List.length_map];omega)) |refine S2 ?_|(refine T6 ?_ ?_<;>intro h<;>try exact V1 h)|intro el mI mJ|intro el mI|exact T4|refine T5 ?_ ?_|intro ex)<;>try conv=>whnf)
 all_goals first
  |exact⟨k+1,by omega,by omega,A7 h0 rfl ⟨rfl,congrArg (fun z:Nat=>some (AV.row 1 0 z)) (by rw[Fk _ _ mI,List.length_append,List.length_map]),rfl,trivial⟩ ⟨rfl,⟨_,congrArg (C4.row 29 6 _) (by rw[Fk _ _ mI,List.map_append])⟩,trivial⟩ rfl rfl rfl⟩
  |exact A1 rfl (congrArg (fun z=>AV.sl 6 ((a6 z).map I8)) (DJ (by assumption)))
theorem v6(a b:List Pk):A3 Tryz.prog 54 [.sl 2 (a.map A8),.sl 2 (b.map A8)] (.b (X5 b a)):=by
 refine B5 Tryz.func54 49 fun mK E h0=>?_
 have hla:a.length≤9223372036854775807:=by
  have:=(mK (.sl 2 (a.map A8)) (by simp)).sl
  simpa using this
 have tG:b.length≤9223372036854775807:=by
  have:=(mK (.sl 2 (b.map A8)) (by simp)).sl
  simpa using this
 clear mK
 repeat'((first|refine S2 ?_|(refine T6 ?_ ?_<;>intro h<;>try exact V1 h)|intro el mI mJ|intro el mI|exact T4|refine T5 ?_ ?_|intro ex)<;>try conv=>whnf)
 refine A9 (ι:=Nat) (fun i=>⟨[(0,.sl 2 (a.map A8)),(1,.sl 2 (b.map A8)),(5,.i i)],0,[]⟩) (fun i=>P4 (fun n=>!(b.any (AL n))) a i) (fun i=>a.length-i) 0 (P4.zero _ _)
  (A6 h0) (fun i hI=>?_)
 have hi:=hI.1
 repeat'((first|refine S2 ?_|(refine T6 ?_ ?_<;>intro h<;>try exact V1 h)|intro el mI mJ|intro el mI|exact T4|refine T5 ?_ ?_|intro ex)<;>try conv=>whnf)
 ·obtain⟨n,hn⟩:∃n,a[i]?=some n:=⟨_,List.getElem?_eq_getElem (by omega)⟩
  refine A9 (ι:=Nat) (fun k=>⟨[(0,.sl 2 (a.map A8)),(1,.sl 2 (b.map A8)),(5,.i i),(6,.b ((b.take k).any (AL n))),(7,.i k)],0,[]⟩) (fun k=>k≤b.length) (fun k=>b.length-k) 0 (Nat.zero_le _)
   (A6 h0) (fun k hk=>?_)
  have nC:∀p,b[k]?=some p→(b.take (k+1)).any (AL n)=((b.take k).any (AL n) || AL n p):=fun p hp=>by rw[E7 hp,List.any_append];simp
  generalize hf:(b.take k).any (AL n)=f at *
  repeat'((first|(refine A2 (x:=n) hn (by omega) ?_)|(refine B0 ?_ ?_;kernel_rfl) |refine S2 ?_|(refine T6 ?_ ?_<;>intro h<;>try exact V1 h)|intro el mI mJ|intro el mI|exact T4|refine T5 ?_ ?_|intro ex)<;>try conv=>whnf)
  all_goals first
   |(have e:(b.take (k+1)).any (AL n)=decide (el.lev≥n.lev):=by
      rw[nC _ mI,(by assumption:f=false),Bool.false_or]
      exact decide_eq_decide.2 (by omega)
     exact⟨k+1,by omega,by omega,A7 h0 rfl ⟨rfl,rfl,rfl,congrArg (fun z=>some (AV.b z)) e.symm,rfl,trivial⟩ trivial rfl rfl rfl⟩)
   |(have e:(b.take (k+1)).any (AL n)=false:=by
      rw[nC _ mI,(by assumption:f=false),Bool.false_or]
      exact decide_eq_false (by omega)
     exact⟨k+1,by omega,by omega,A7 h0 rfl ⟨rfl,rfl,rfl,congrArg (fun z=>some (AV.b z)) e.symm,rfl,trivial⟩ trivial rfl rfl rfl⟩)
   |(obtain⟨p,hp⟩:∃p,b[k]?=some p:=⟨_,List.getElem?_eq_getElem (by omega)⟩
     have e:(b.take (k+1)).any (AL n)=true:=by rw[nC p hp,(by assumption:f=true),Bool.true_or]
     exact⟨k+1,by omega,by omega,A7 h0 rfl ⟨rfl,rfl,rfl,congrArg (fun z=>some (AV.b z)) e.symm,rfl,trivial⟩ trivial rfl rfl rfl⟩)
   |(have e:(!(b.any (AL n)))=true:=by rw[←DJ (l:=b) (k:=k) (by assumption),hf,(by assumption:f=false)];rfl
     have:=hI.hit hn e
     exact A1 rfl (congrArg AV.b (by unfold X5;rw[←this];rfl)))
   |(have e:(!(b.any (AL n)))=false:=by rw[←DJ (l:=b) (k:=k) (by assumption),hf,(by assumption:f=true)];rfl
     exact⟨i+1,hI.step hn e,by omega,A6 h0⟩)
 all_goals first
  |(have:=hI.done (by assumption)
    exact A1 rfl (congrArg AV.b (by unfold X5;rw[←this];rfl)))
theorem Nv(op:Int)(vs:List Int)(h5:op=5∨op=6→2≤vs.length)(h7:op=7→1≤vs.length)(hb:∀v∈vs,-1≤v∧v≤1):A3 Tryz.prog 188 [.i op,.sl 1 (vs.map wA)] (.i (Y8 op vs 1)):=by
 have rr:∀(k:Nat) v,vs[k]?=some v→-1≤v∧v≤1:=fun k v h=>hb v (List.mem_of_getElem? h)
 refine B5 Tryz.func188 30 fun mK E h0=>?_
 clear mK
 repeat'((first|(refine I6 ?_ ?_;(have:=rr _ _ mI;omega)) |refine S2 ?_|(refine T6 ?_ ?_<;>intro h<;>try exact V1 h)|intro el mI mJ|intro el mI|exact T4|refine T5 ?_ ?_|intro ex)<;>try conv=>whnf)
 all_goals first
  |(refine A1 rfl (congrArg AV.i ?_);unfold Y8;rw[if_neg (by omega),if_neg (by omega),if_neg (by omega),if_pos (by assumption),D7 (k:=0) (by assumption)];done)
  |(refine A1 rfl (congrArg AV.i ?_);unfold Y8;rw[if_neg (by omega),if_pos (by assumption),D7 (k:=0) (by assumption),D7 (k:=1) (by assumption)];done)
  |(refine A1 rfl (congrArg AV.i ?_);unfold Y8;rw[if_neg (by omega),if_neg (by assumption),if_pos (by assumption),D7 (k:=0) (by assumption),D7 (k:=1) (by assumption)];done)
  |(refine A1 rfl (congrArg AV.i ?_);unfold Y8;(repeat' split)<;>first|rfl|omega)
theorem Qc(g:B6→Int)(c:B6)(ho:¬(c.op=2∨c.op=3∨c.op=4))(h:1≤c.op∧c.op≤7):U7 g c=Y8 c.op (c.kids.map (U7 g)) 1:=by
 rw[DN]
 unfold Y8
 (repeat' split)<;>first|rfl|omega
theorem YY(s:A4)(hr:C3 s=0)(row:List Int)(hl:row.length=s.cols.length)(c:B6):Z9 s c=0→A3 Tryz.prog 190 [sA s,D5 c,.sl 1 (row.map wA)] (.i (Cj s c row)):=by
 refine N4 (p:=fun c=>Z9 s c=0→A3 Tryz.prog 190 [sA s,D5 c,.sl 1 (row.map wA)] (.i (Cj s c row))) (fun c ih h=>?_) c
 obtain⟨h1,h2⟩:=Ci h
 obtain⟨p1,p2,p3,_⟩:=y6 h1
 obtain⟨k1,k2,k3⟩:=Gj c.op
 have hg:∀a,-1≤M2 s a (row.getD a.col.toNat 0)∧M2 s a (row.getD a.col.toNat 0)≤1:=fun a=>Ld _ _ _
 by_cases ho:c.op=2∨c.op=3∨c.op=4
 ·have pC:=fun v=>Hu s c v ho (Ds hr h1)
  have hc:=p3 ho
  obtain⟨v,hv⟩:∃v,row[c.col.toNat]?=some v:=⟨_,List.getElem?_eq_getElem (by omega)⟩
  have pS:Cj s c row=M2 s c v:=by
   unfold Cj
   rw[DN]
   unfold Y8
   rw[if_neg (by omega),if_neg (by omega),if_neg (by omega),if_neg (by omega),D7 hv]
  rw[pS]
  rw[F8]at *
  refine B5 Tryz.func190 52 fun mK E h0=>?_
  clear mK
  repeat'((first|(refine A2 (x:=v) hv (by omega) ?_)|refine A0 (pC _) ?_|(refine B0 ?_ ?_;kernel_rfl) |refine S2 ?_|(refine T6 ?_ ?_<;>intro h<;>try exact V1 h)|intro el mI mJ|intro el mI|exact T4|refine T5 ?_ ?_|intro ex)<;>try conv=>whnf)
  all_goals first
   |exact A1 rfl rfl
   |(exfalso;omega)
 ·unfold Cj
  rw[Qc _ c ho p1]
  have sn:=Nv c.op (c.kids.map (U7 fun a=>M2 s a (row.getD a.col.toNat 0))) (fun h=>by rw[List.length_map];have:=k1 h;omega) (fun h=>by rw[List.length_map];have:=k2 h;omega) (fun v hv=>by
   obtain⟨k,_,rfl⟩:=List.mem_map.1 hv
   exact Od hg k)
  have sG:∀k,k∈c.kids→A3 Tryz.prog 190 [sA s,D5 k,.sl 1 (row.map wA)] (.i (U7 (fun a=>M2 s a (row.getD a.col.toNat 0)) k)):=fun k hk=>ih k hk (h2 k hk)
  generalize (U7 fun a=>M2 s a (row.getD a.col.toNat 0))=T at *
  rw[F8]at *
  refine B5 Tryz.func190 52 fun mK E h0=>?_
  have mL:c.kids.length≤9223372036854775807:=by
   have:=((mK (.agg (M8 c)) (by simp)).agg (.sl 6 (c.kids.map I8)) (by simp)).sl
   simpa using this
  clear mK
  repeat'((first|refine S2 ?_|(refine T6 ?_ ?_<;>intro h<;>try exact V1 h)|intro el mI mJ|intro el mI|exact T4|refine T5 ?_ ?_|intro ex)<;>try conv=>whnf)
  all_goals first
   |(exfalso;omega)
   |skip
  refine A9 (ι:=Nat) (fun k=>⟨[(2,.sl 1 (row.map wA)),(3,.ref 0 0),(4,.ref 1 0),(7,.row 2 0 k),(8,.i k)],3,[(0,some (.box (sL s))),(1,some (.box (M8 c))),(2,some (.row 3 1 0 (((c.kids.take k).map T).map wA)))]⟩) (fun k=>k≤c.kids.length) (fun k=>c.kids.length-k) 0 (Nat.zero_le _)
   (B9 (H7 (d:=7) (e:=3) (sz:=1) rfl) (A7 h0 rfl ⟨rfl,rfl,rfl,rfl,rfl,trivial⟩ ⟨rfl,rfl,⟨0,rfl⟩,trivial⟩ rfl rfl rfl)) (fun k hk=>?_)
  by_cases mM:k<c.kids.length
  ·obtain⟨el,mI⟩:∃el,c.kids[k]?=some el:=⟨_,List.getElem?_eq_getElem mM⟩
   have ol:=sG el (List.mem_of_getElem? mI)
   repeat'((first|(refine A2 (x:=el) mI (by omega) ?_)|(refine E6 7 ?_;refine F3 (id:=7) ⟨[(2,.sl 1 (row.map wA)),(3,.ref 0 0),(4,.ref 1 0),(7,.row 2 0 (k+1)),(8,.i k)],3,[(0,some (.box (sL s))),(1,some (.box (M8 c))),(2,some (.row 3 1 0 (((c.kids.take (k+1)).map T).map wA)))]⟩ ?_ ?_)|refine A0 ol ?_ |refine S2 ?_|(refine T6 ?_ ?_<;>intro h<;>try exact V1 h)|intro el mI mJ|intro el mI|exact T4|refine T5 ?_ ?_|intro ex)<;>try conv=>whnf)
   all_goals first
    |exact A7 h0 rfl ⟨rfl,rfl,rfl,rfl,rfl,trivial⟩ ⟨rfl,rfl,⟨_,congrArg (C4.row 3 1 _) (by rw[E7 mI,List.map_append,List.map_append];rfl)⟩,trivial⟩ rfl rfl rfl
    |exact⟨k+1,by omega,by omega,A6 h0⟩
  ·obtain rfl:k=c.kids.length:=by omega
   rw[List.take_length]
   repeat'((first|refine I4 2 ?_|refine A0 sn ?_ |refine S2 ?_|(refine T6 ?_ ?_<;>intro h<;>try exact V1 h)|intro el mI mJ|intro el mI|exact T4|refine T5 ?_ ?_|intro ex)<;>try conv=>whnf)
   all_goals first
    |exact A1 rfl rfl
theorem YZ(s:A4)(c:B6)(row:List Int):A3 Tryz.prog 146 [sA s,D5 c,.sl 1 (row.map wA)] (.i (Ss s c row)):=by
 have h1:=X9 s c
 have h2:=QK s row
 have h3:¬J6 s c≠0→¬AH s row≠0→A3 Tryz.prog 190 [sA s,D5 c,.sl 1 (row.map wA)] (.i (Cj s c row)):=fun a b=>have a:=Decidable.of_not_not a;have b:=Decidable.of_not_not b;YY s (o0 a).1 row (HY b).2 c (o0 a).2.2.2
 unfold Ss
 rw[F8]at *
 refine B5 Tryz.func146 21 fun mK E h0=>?_
 clear mK
 repeat'((first|refine A0 h1 ?_|refine A0 h2 ?_|(refine A0 (h3 (by assumption) (by assumption)) ?_) |refine S2 ?_|(refine T6 ?_ ?_<;>intro h<;>try exact V1 h)|intro el mI mJ|intro el mI|exact T4|refine T5 ?_ ?_|intro ex)<;>try conv=>whnf)
 all_goals first
  |(refine A1 rfl (congrArg AV.i ?_);rw[if_neg (by omega)];done)
  |(refine A1 rfl (congrArg AV.i ?_);rw[if_pos (by omega)];done)
end Go.Proofs.YtiphlhoclaogjaaGreatDoor

/- Chapter 18: which extracts are right: the reference. -/
import Derived.Test.YtiphlhoclaogjaaGreatDoorJTc0
import Derived.Test.YtiphlhoclaogjaaGreatDoorJC1
import Derived.Test.YtiphlhoclaogjaaGreatDoorJSx
import Derived.Test.YtiphlhoclaogjaaGreatDoorJCe1
import Derived.Test.YtiphlhoclaogjaaGreatDoorJCe3
import Derived.Test.YtiphlhoclaogjaaGreatDoorJB10
set_option linter.unusedVariables false
set_option linter.unnecessarySimpa false
set_option linter.unusedSimpArgs false
set_option maxHeartbeats 64000000
namespace Go.Proofs.YtiphlhoclaogjaaGreatDoor
open Go Go.Av
attribute [local irreducible] C9 B3 C8 D1 DQ D0 C7 St.le A3 B8
set_option maxRecDepth 100000
theorem jU{s:A4}{picks:List Pk}{r:List Int}(h:¬r.length=picks.length+1):Al s picks r=false:=by
 unfold Al;rw[decide_eq_false (fun hh=>h hh.1),Bool.false_and]
theorem jV{s:A4}{picks:List Pk}{r:List Int}{z:Int}(hz:r[0]?=some z)(h:z<0∨1048575<z):Al s picks r=false:=by
 unfold Al;rw[O6 hz,decide_eq_false (fun hh=>by omega),Bool.false_and]
theorem jW{s:A4}{picks:List Pk}{r:List Int}{z:Int}(hl:r.length=picks.length+1)(hz:r[0]?=some z)(h0:0≤z)(h1:z≤1048575):Al s picks r=AA s (picks.zip r.tail):=by
 unfold Al;rw[O6 hz,decide_eq_true ⟨hl,h0,h1⟩,Bool.true_and]
theorem c8(s:A4)(x:J9):A3 Tryz.prog 33 [sA s,X9 x] (.i (L2 s x)):=by
 have h1:=Q6 s
 have h2:=s9 x.prj
 have h3:=EW s x.picks
 by_cases e1:¬C3 s=0
 ·rw[L2,if_pos e1]
  refine B5 Tryz.func33 112 fun nL E h0=>?_
  clear nL
  repeat'((first|refine A0 h1 ?_ |refine S2 ?_|(refine T6 ?_ ?_<;>intro h<;>try exact V1 h)|intro el nJ nK|intro el nJ|exact T4|refine T5 ?_ ?_|intro ex)<;>try conv=>whnf)
  all_goals first
   |(exfalso;omega)
   |exact A1 rfl rfl
 have e1:=Decidable.of_not_not e1
 have pb:=fun c l v=>Mk s c l v
 have uj:=fun (p:Pk) (x:D3) (h1:1≤p.col) (hx:s.cols[p.col.toNat]?=some x) (h3:0≤p.lev) (h4:p.lev≤B4 s p.col) (v:Int)=>(Mv e1 h1 hx h3 h4 v).1
 have vH:∀c,B4 s c=E6 s c:=fun c=>by unfold B4;rw[if_pos e1]
 have oE:=fun k=>@F2.step _ (BH s x) x.rows k
 have ri:=fun k=>@F2.hit _ (BH s x) x.rows k
 have rT:=fun k=>@F2.done _ (BH s x) x.rows k
 have rl:=fun k=>@UM s x k
 have hz:=F2.zero (BH s x) x.rows
 have hex:∀k r,BH s x k r=if Al s x.picks r=false then 9 else if 0<k∧r.headD 0≤(x.rows.getD (k-1) []).headD 0 then 10 else 0:=fun _ _=>rfl
 have hE:L2 s x=if D6 x.prj=false then 3 else if x.ver<0∨300<x.ver then 13 else if ¬I7 s x.picks=0 then I7 s x.picks else if 200<x.rows.length then 1 else F3 (BH s x) 0 x.rows:=by
  rw[L2,if_neg (fun h=>h e1)]
 rw[hE]
 clear hE
 generalize BH s x=FE at *
 obtain⟨pr,ver,picks,rows⟩:=x
 dsimp only at *
 have hX:X9 ⟨pr,ver,picks,rows⟩=.agg [.str pr,.i ver,.sl 2 (picks.map A8),.sl 1 (rows.map D4)]:=rfl
 rw[hX]
 by_cases e3:D6 pr=false
 ·rw[if_pos e3]
  rw[e3]at h2
  refine B5 Tryz.func33 112 fun nL E h0=>?_
  clear nL
  repeat'((first|refine A0 h1 ?_|refine A0 h2 ?_|refine A0 h3 ?_ |refine S2 ?_|(refine T6 ?_ ?_<;>intro h<;>try exact V1 h)|intro el nJ nK|intro el nJ|exact T4|refine T5 ?_ ?_|intro ex)<;>try conv=>whnf)
  all_goals first
   |(exfalso;omega)
   |exact A1 rfl rfl
 rw[if_neg e3]
 have e3:D6 pr=true:=by cases h:D6 pr with|true=>rfl|false=>exact absurd h e3
 rw[e3]at h2
 by_cases e4:ver<0∨300<ver
 ·rw[if_pos e4]
  refine B5 Tryz.func33 112 fun nL E h0=>?_
  clear nL
  repeat'((first|refine A0 h1 ?_|refine A0 h2 ?_|refine A0 h3 ?_ |refine S2 ?_|(refine T6 ?_ ?_<;>intro h<;>try exact V1 h)|intro el nJ nK|intro el nJ|exact T4|refine T5 ?_ ?_|intro ex)<;>try conv=>whnf)
  all_goals first
   |(exfalso;omega)
   |exact A1 rfl rfl
 rw[if_neg e4]
 by_cases e2:¬I7 s picks=0
 ·rw[if_pos e2]
  refine B5 Tryz.func33 112 fun nL E h0=>?_
  clear nL
  repeat'((first|refine A0 h1 ?_|refine A0 h2 ?_|refine A0 h3 ?_ |refine S2 ?_|(refine T6 ?_ ?_<;>intro h<;>try exact V1 h)|intro el nJ nK|intro el nJ|exact T4|refine T5 ?_ ?_|intro ex)<;>try conv=>whnf)
  all_goals first
   |(exfalso;omega)
   |exact A1 rfl rfl
 rw[if_neg e2]
 have e2:=Decidable.of_not_not e2
 have ww:=Aa e2
 have pk:=k9 e2
 have ni:=(D2 e1).2.1
 rw[e2]at h3
 refine B5 Tryz.func33 112 fun nL E h0=>?_
 have nM:rows.length≤9223372036854775807:=by
  have:=((nL (.agg [.str pr,.i ver,.sl 2 (picks.map A8),.sl 1 (rows.map D4)]) (by simp)).agg (.sl 1 (rows.map D4)) (by simp)).sl
  simpa using this
 clear nL
 by_cases e5:200<rows.length
 ·rw[if_pos e5]
  repeat'((first|refine A0 h1 ?_|refine A0 h2 ?_|refine A0 h3 ?_ |refine S2 ?_|(refine T6 ?_ ?_<;>intro h<;>try exact V1 h)|intro el nJ nK|intro el nJ|exact T4|refine T5 ?_ ?_|intro ex)<;>try conv=>whnf)
  all_goals first
   |(exfalso;omega)
   |exact A1 rfl rfl
 rw[if_neg e5]
 repeat'((first|refine A0 h1 ?_|refine A0 h2 ?_|refine A0 h3 ?_ |refine S2 ?_|(refine T6 ?_ ?_<;>intro h<;>try exact V1 h)|intro el nJ nK|intro el nJ|exact T4|refine T5 ?_ ?_|intro ex)<;>try conv=>whnf)
 all_goals first
  |(exfalso;omega)
  |skip
 refine B0 (ι:=Nat) (fun k=>⟨[(2,.ref 0 0),(3,.ref 1 0),(7,.i k)],2,[(0,some (.box (sL s))),(1,some (.box [.str pr,.i ver,.sl 2 (picks.map A8),.sl 1 (rows.map D4)]))]⟩)
  (fun k=>F2 FE rows k) (fun k=>rows.length-k) 0 hz
  (A6 h0) (fun k hK=>?_)
 by_cases nU:k<rows.length
 ·obtain⟨r,pq⟩:∃r,rows[k]?=some r:=⟨_,List.getElem?_eq_getElem nU⟩
  have qG:rows[((k:Nat):Int).toNat]?=some r:=pq
  have hx:=hex k r
  have h9:Al s picks r=false→F3 FE 0 rows=9:=fun h=>by
   rw[if_pos h]at hx
   rw[←ri k hK pq (by rw[hx];decide),hx]
  by_cases sC:¬r.length=picks.length+1
  ·have hv:=h9 (jU sC)
   repeat'((first|(refine A2 (x:=r) qG (by omega) ?_)|(refine A9 ?_ ?_;kernel_rfl) |refine S2 ?_|(refine T6 ?_ ?_<;>intro h<;>try exact V1 h)|intro el nJ nK|intro el nJ|exact T4|refine T5 ?_ ?_|intro ex)<;>try conv=>whnf)
   all_goals first
    |(exfalso;omega)
    |exact A1 rfl (congrArg AV.i hv.symm)
  have sC:=Decidable.of_not_not sC
  obtain⟨r0,om⟩:∃z,r[0]?=some z:=⟨_,List.getElem?_eq_getElem (by omega)⟩
  by_cases h01:r0<0∨1048575<r0
  ·have hv:=h9 (jV om h01)
   repeat'((first|(refine A2 (x:=r) qG (by omega) ?_)|(refine A2 (x:=r0) om (by omega) ?_)|(refine A9 ?_ ?_;kernel_rfl) |refine S2 ?_|(refine T6 ?_ ?_<;>intro h<;>try exact V1 h)|intro el nJ nK|intro el nJ|exact T4|refine T5 ?_ ?_|intro ex)<;>try conv=>whnf)
   all_goals first
    |(exfalso;omega)
    |exact A1 rfl (congrArg AV.i hv.symm)
  have zD:=jW (s:=s) sC om (by omega) (by omega)
  repeat'((first|(refine A2 (x:=r) qG (by omega) ?_)|(refine A2 (x:=r0) om (by omega) ?_)|(refine A9 ?_ ?_;kernel_rfl) |refine S2 ?_|(refine T6 ?_ ?_<;>intro h<;>try exact V1 h)|intro el nJ nK|intro el nJ|exact T4|refine T5 ?_ ?_|intro ex)<;>try conv=>whnf)
  all_goals first
   |(exfalso;omega)
   |skip
  have wh:(picks.zip r.tail).length=picks.length:=by rw[List.length_zip,List.length_tail];omega
  have tE:=fun k p v h1 h2=>@Mj picks r k p v h1 h2
  generalize picks.zip r.tail=pv at *
  refine B0 (ι:=Nat) (fun i=>⟨[(2,.ref 0 0),(3,.ref 1 0),(7,.i k),(8,.sl 1 (r.map wA)),(9,.i i)],2,[(0,some (.box (sL s))),(1,some (.box [.str pr,.i ver,.sl 2 (picks.map A8),.sl 1 (rows.map D4)]))]⟩)
   (fun i=>i≤picks.length∧AA s (pv.take i)=true) (fun i=>picks.length-i) 0 ⟨Nat.zero_le _,rfl⟩
   (A6 h0) (fun i hI=>?_)
  obtain⟨i1,i2⟩:=hI
  by_cases qi:i<picks.length
  ·obtain⟨p,hp⟩:∃p,picks[i]?=some p:=⟨_,List.getElem?_eq_getElem qi⟩
   obtain⟨v,hv⟩:∃v,r[i+1]?=some v:=⟨_,List.getElem?_eq_getElem (by omega)⟩
   have hq:=tE i p v hp hv
   have hp2:picks[((i:Nat):Int).toNat]?=some p:=hp
   have qq:r[((i:Int)+1).toNat]?=some v:=by rw[show ((i:Int)+1).toNat=i+1 by omega];exact hv
   obtain⟨c1,c2,c3,c4⟩:=ww i p hp
   obtain⟨xc,hxc⟩:∃x,s.cols[p.col.toNat]?=some x:=⟨_,List.getElem?_eq_getElem (by omega)⟩
   have zQ:=uj p xc c1 hxc c3 (by rw[vH];exact c4) v
   have hc:=pb p.col p.lev v
   rw[←zQ]at hc
   have ol:AA s (pv.take (i+1))=(M4 s p.col p.lev v).2:=by
    unfold AA at i2 ⊢
    rw[F1 hq,List.all_append,i2]
    simp
   have rE:(M4 s p.col p.lev v).2=false→AA s pv=false:=fun h=>LD hq h
   generalize (M4 s p.col p.lev v).2=S at *
   cases S
   ·have hv9:=h9 (by rw[zD];exact rE rfl)
    repeat'((first|(refine A2 (x:=p) hp2 (by omega) ?_)|(refine A2 (x:=v) qq (by omega) ?_)|refine A0 hc ?_|(refine A9 ?_ ?_;kernel_rfl) |refine S2 ?_|(refine T6 ?_ ?_<;>intro h<;>try exact V1 h)|intro el nJ nK|intro el nJ|exact T4|refine T5 ?_ ?_|intro ex)<;>try conv=>whnf)
    all_goals first
     |(exfalso;omega)
     |exact A1 rfl (congrArg AV.i hv9.symm)
   ·repeat'((first|(refine A2 (x:=p) hp2 (by omega) ?_)|(refine A2 (x:=v) qq (by omega) ?_)|refine A0 hc ?_|(refine A9 ?_ ?_;kernel_rfl) |refine S2 ?_|(refine T6 ?_ ?_<;>intro h<;>try exact V1 h)|intro el nJ nK|intro el nJ|exact T4|refine T5 ?_ ?_|intro ex)<;>try conv=>whnf)
    all_goals first
     |(exfalso;omega)
     |exact⟨i+1,⟨by omega,ol⟩,by omega,A6 h0⟩
  ·have pB:pv.take i=pv:=List.take_of_length_le (by omega)
   rw[pB]at i2
   rw[zD,i2,if_neg (by decide),O6 om]at hx
   by_cases rz:k=0
   ·subst rz
    rw[if_neg (by omega)]at hx
    have nS:=oE 0 hK pq hx
    repeat'((first|(refine A2 (x:=r0) om (by omega) ?_)|(refine A9 ?_ ?_;kernel_rfl) |refine S2 ?_|(refine T6 ?_ ?_<;>intro h<;>try exact V1 h)|intro el nJ nK|intro el nJ|exact T4|refine T5 ?_ ?_|intro ex)<;>try conv=>whnf)
    all_goals first
     |(exfalso;omega)
     |exact⟨0+1,nS,by omega,A6 h0⟩
   ·obtain⟨q,hq⟩:∃q,rows[k-1]?=some q:=⟨_,List.getElem?_eq_getElem (by omega)⟩
    have ru:=O7 (rl k hK (i:=k-1) (by omega) hq)
    obtain⟨q0,tK⟩:∃z,q[0]?=some z:=⟨_,List.getElem?_eq_getElem (by omega)⟩
    rw[D7 hq,O6 tK]at hx
    have oy:rows[((k:Int)-1).toNat]?=some q:=by rw[show ((k:Int)-1).toNat=k-1 by omega];exact hq
    by_cases oW:r0≤q0
    ·rw[if_pos ⟨by omega,oW⟩]at hx
     have pM:=ri k hK pq (by rw[hx];decide)
     rw[hx]at pM
     repeat'((first|(refine A2 (x:=q) oy (by omega) ?_)|(refine A2 (x:=q0) tK (by omega) ?_)|(refine A2 (x:=r0) om (by omega) ?_)|(refine A9 ?_ ?_;kernel_rfl) |refine S2 ?_|(refine T6 ?_ ?_<;>intro h<;>try exact V1 h)|intro el nJ nK|intro el nJ|exact T4|refine T5 ?_ ?_|intro ex)<;>try conv=>whnf)
     all_goals first
      |(exfalso;omega)
      |exact A1 rfl (congrArg AV.i pM)
    ·rw[if_neg (fun h=>oW h.2)]at hx
     have nS:=oE k hK pq hx
     repeat'((first|(refine A2 (x:=q) oy (by omega) ?_)|(refine A2 (x:=q0) tK (by omega) ?_)|(refine A2 (x:=r0) om (by omega) ?_)|(refine A9 ?_ ?_;kernel_rfl) |refine S2 ?_|(refine T6 ?_ ?_<;>intro h<;>try exact V1 h)|intro el nJ nK|intro el nJ|exact T4|refine T5 ?_ ?_|intro ex)<;>try conv=>whnf)
     all_goals first
      |(exfalso;omega)
      |exact⟨k+1,nS,by omega,A6 h0⟩
 ·have hd:=rT k hK (by omega)
  repeat'((first|refine S2 ?_|(refine T6 ?_ ?_<;>intro h<;>try exact V1 h)|intro el nJ nK|intro el nJ|exact T4|refine T5 ?_ ?_|intro ex)<;>try conv=>whnf)
  all_goals first
   |(exfalso;omega)
   |exact A1 rfl (congrArg AV.i hd.symm)
theorem Ix(s:A4)(c:B7)(v:Int)(ho:c.op=2∨c.op=3∨c.op=4)(h2:c.op=2→∃x lx,0≤c.col∧s.cols[c.col.toNat]?=some x∧0≤x.lst∧s.lists[x.lst.toNat]?=some lx):A3 Tryz.prog 186 [sA s,D5 c,.i v] (.i (M3 s c v)):=by
 rw[F8]
 refine B5 Tryz.func186 46 fun nL E h0=>?_
 obtain⟨pL,nv,pU⟩:=Z9 (s:=s) (nL _ (by simp))
 clear nL
 unfold M3
 by_cases qK:c.op=2
 ·obtain⟨x,lx,g0,g1,g2,g3⟩:=h2 qK
  rw[if_pos qK,B9 g1,H5 g3]
  have yt:=Vr lx.1 lx.2 v c.code (pU lx (List.mem_of_getElem? g3))
  repeat'((first|(refine A2 (x:=x) g1 (by omega) ?_)|(refine A2 (x:=lx) g3 (by omega) ?_)|refine A0 yt ?_|(refine A9 ?_ ?_;kernel_rfl) |refine S2 ?_|(refine T6 ?_ ?_<;>intro h<;>try exact V1 h)|intro el nJ nK|intro el nJ|exact T4|refine T5 ?_ ?_|intro ex)<;>try conv=>whnf)
  all_goals first
   |exact A1 rfl (congrArg AV.i (by rw[h];rfl))
 ·rw[if_neg qK]
  repeat'((first|(refine A9 ?_ ?_;kernel_rfl) |refine S2 ?_|(refine T6 ?_ ?_<;>intro h<;>try exact V1 h)|intro el nJ nK|intro el nJ|exact T4|refine T5 ?_ ?_|intro ex)<;>try conv=>whnf)
  all_goals first
   |(exfalso;rcases ho with ho|ho|ho<;>contradiction)
   |(rw[if_pos (by omega)];refine A1 rfl (congrArg AV.i ?_);unfold HB;first|(rw[decide_eq_true (by assumption)];rfl)|(rw[decide_eq_false (by assumption)];rfl))
   |(rw[if_neg (by omega),if_pos (by omega)];exact A1 rfl rfl)
   |(rw[if_neg (by omega),if_neg (by omega)];refine A1 rfl (congrArg AV.i ?_);unfold HB;first|(rw[decide_eq_true (by omega)];rfl)|(rw[decide_eq_false (by omega)];rfl))
theorem WK(c:B7):j7 c≤100000→A3 Tryz.prog 184 [D5 c] (.sl 6 ((o6 c).map K0)):=by
 refine N6 (p:=fun c=>j7 c≤100000→A3 Tryz.prog 184 [D5 c] (.sl 6 ((o6 c).map K0))) (fun c ih ht=>?_) c
 rw[Ff]at ht
 rw[F8,EE]
 refine B5 Tryz.func184 36 fun nL E h0=>?_
 have nM:c.kids.length≤9223372036854775807:=by
  have:=((nL _ (List.mem_cons_self ..)).agg (.sl 6 (c.kids.map K0)) (by simp)).sl
  simpa using this
 clear nL
 repeat'((first|refine S2 ?_|(refine T6 ?_ ?_<;>intro h<;>try exact V1 h)|intro el nJ nK|intro el nJ|exact T4|refine T5 ?_ ?_|intro ex)<;>try conv=>whnf)
 all_goals first
  |(rw[if_pos (by omega)];refine A1 rfl ?_;rw[List.map_cons,K0,Pc];rfl)
  |skip
 rw[if_neg (by omega)]
 refine B0 (ι:=Nat) (fun k=>⟨[(1,.ref 0 0),(3,.row 1 0 (a7 (c.kids.take k)).length),(4,.i k)],2,[(0,some (.box (M9 c))),(1,some (.row 29 6 0 ((a7 (c.kids.take k)).map K0)))]⟩) (fun k=>k≤c.kids.length) (fun k=>c.kids.length-k) 0 (Nat.zero_le _)
  (C0 (I0 (d:=3) (e:=29) (sz:=6) rfl) (A7 h0 rfl ⟨rfl,rfl,rfl,trivial⟩ ⟨rfl,⟨0,rfl⟩,trivial⟩ rfl rfl rfl)) (fun k hk=>?_)
 have oW:=Js c.kids k
 repeat'((first|(refine A0 (ih _ (List.mem_of_getElem? (by assumption)) (by have:=IW el (List.mem_of_getElem? nJ);omega)) ?_)|(refine J0 ?_ ?_;(have q1:=Hc el;have q2:=IW el (List.mem_of_getElem? nJ);simp only[List.length_map];omega)) |refine S2 ?_|(refine T6 ?_ ?_<;>intro h<;>try exact V1 h)|intro el nJ nK|intro el nJ|exact T4|refine T5 ?_ ?_|intro ex)<;>try conv=>whnf)
 all_goals first
  |exact⟨k+1,by omega,by omega,A7 h0 rfl ⟨rfl,congrArg (fun z:Nat=>some (AV.row 1 0 z)) (by rw[Gd _ _ nJ,List.length_append,List.length_map]),rfl,trivial⟩ ⟨rfl,⟨_,congrArg (C4.row 29 6 _) (by rw[Gd _ _ nJ,List.map_append])⟩,trivial⟩ rfl rfl rfl⟩
  |exact A1 rfl (congrArg (fun z=>AV.sl 6 ((a7 z).map K0)) (EB (by assumption)))
theorem AW(a b:List Pk):A3 Tryz.prog 54 [.sl 2 (a.map A8),.sl 2 (b.map A8)] (.b (X8 b a)):=by
 refine B5 Tryz.func54 49 fun nL E h0=>?_
 have hla:a.length≤9223372036854775807:=by
  have:=(nL (.sl 2 (a.map A8)) (by simp)).sl
  simpa using this
 have ue:b.length≤9223372036854775807:=by
  have:=(nL (.sl 2 (b.map A8)) (by simp)).sl
  simpa using this
 clear nL
 repeat'((first|refine S2 ?_|(refine T6 ?_ ?_<;>intro h<;>try exact V1 h)|intro el nJ nK|intro el nJ|exact T4|refine T5 ?_ ?_|intro ex)<;>try conv=>whnf)
 refine B0 (ι:=Nat) (fun i=>⟨[(0,.sl 2 (a.map A8)),(1,.sl 2 (b.map A8)),(5,.i i)],0,[]⟩) (fun i=>P6 (fun n=>!(b.any (BG n))) a i) (fun i=>a.length-i) 0 (P6.zero _ _)
  (A6 h0) (fun i hI=>?_)
 have hi:=hI.1
 repeat'((first|refine S2 ?_|(refine T6 ?_ ?_<;>intro h<;>try exact V1 h)|intro el nJ nK|intro el nJ|exact T4|refine T5 ?_ ?_|intro ex)<;>try conv=>whnf)
 ·obtain⟨n,hn⟩:∃n,a[i]?=some n:=⟨_,List.getElem?_eq_getElem (by omega)⟩
  refine B0 (ι:=Nat) (fun k=>⟨[(0,.sl 2 (a.map A8)),(1,.sl 2 (b.map A8)),(5,.i i),(6,.b ((b.take k).any (BG n))),(7,.i k)],0,[]⟩) (fun k=>k≤b.length) (fun k=>b.length-k) 0 (Nat.zero_le _)
   (A6 h0) (fun k hk=>?_)
  have oE:∀p,b[k]?=some p→(b.take (k+1)).any (BG n)=((b.take k).any (BG n) || BG n p):=fun p hp=>by rw[F1 hp,List.any_append];simp
  generalize hf:(b.take k).any (BG n)=f at *
  repeat'((first|(refine A2 (x:=n) hn (by omega) ?_)|(refine A9 ?_ ?_;kernel_rfl) |refine S2 ?_|(refine T6 ?_ ?_<;>intro h<;>try exact V1 h)|intro el nJ nK|intro el nJ|exact T4|refine T5 ?_ ?_|intro ex)<;>try conv=>whnf)
  all_goals first
   |(have e:(b.take (k+1)).any (BG n)=decide (el.lev≥n.lev):=by
      rw[oE _ nJ,(by assumption:f=false),Bool.false_or]
      exact decide_eq_decide.2 (by omega)
     exact⟨k+1,by omega,by omega,A7 h0 rfl ⟨rfl,rfl,rfl,congrArg (fun z=>some (AV.b z)) e.symm,rfl,trivial⟩ trivial rfl rfl rfl⟩)
   |(have e:(b.take (k+1)).any (BG n)=false:=by
      rw[oE _ nJ,(by assumption:f=false),Bool.false_or]
      exact decide_eq_false (by omega)
     exact⟨k+1,by omega,by omega,A7 h0 rfl ⟨rfl,rfl,rfl,congrArg (fun z=>some (AV.b z)) e.symm,rfl,trivial⟩ trivial rfl rfl rfl⟩)
   |(obtain⟨p,hp⟩:∃p,b[k]?=some p:=⟨_,List.getElem?_eq_getElem (by omega)⟩
     have e:(b.take (k+1)).any (BG n)=true:=by rw[oE p hp,(by assumption:f=true),Bool.true_or]
     exact⟨k+1,by omega,by omega,A7 h0 rfl ⟨rfl,rfl,rfl,congrArg (fun z=>some (AV.b z)) e.symm,rfl,trivial⟩ trivial rfl rfl rfl⟩)
   |(have e:(!(b.any (BG n)))=true:=by rw[←EB (l:=b) (k:=k) (by assumption),hf,(by assumption:f=false)];rfl
     have:=hI.hit hn e
     exact A1 rfl (congrArg AV.b (by unfold X8;rw[←this];rfl)))
   |(have e:(!(b.any (BG n)))=false:=by rw[←EB (l:=b) (k:=k) (by assumption),hf,(by assumption:f=true)];rfl
     exact⟨i+1,hI.step hn e,by omega,A6 h0⟩)
 all_goals first
  |(have:=hI.done (by assumption)
    exact A1 rfl (congrArg AV.b (by unfold X8;rw[←this];rfl)))
theorem Ov(op:Int)(vs:List Int)(h5:op=5∨op=6→2≤vs.length)(h7:op=7→1≤vs.length)(hb:∀v∈vs,-1≤v∧v≤1):A3 Tryz.prog 188 [.i op,.sl 1 (vs.map wA)] (.i (Y9 op vs 1)):=by
 have st:∀(k:Nat) v,vs[k]?=some v→-1≤v∧v≤1:=fun k v h=>hb v (List.mem_of_getElem? h)
 refine B5 Tryz.func188 30 fun nL E h0=>?_
 clear nL
 repeat'((first|(refine J0 ?_ ?_;(have:=st _ _ nJ;omega)) |refine S2 ?_|(refine T6 ?_ ?_<;>intro h<;>try exact V1 h)|intro el nJ nK|intro el nJ|exact T4|refine T5 ?_ ?_|intro ex)<;>try conv=>whnf)
 all_goals first
  |(refine A1 rfl (congrArg AV.i ?_);unfold Y9;rw[if_neg (by omega),if_neg (by omega),if_neg (by omega),if_pos (by assumption),D7 (k:=0) (by assumption)];done)
  |(refine A1 rfl (congrArg AV.i ?_);unfold Y9;rw[if_neg (by omega),if_pos (by assumption),D7 (k:=0) (by assumption),D7 (k:=1) (by assumption)];done)
  |(refine A1 rfl (congrArg AV.i ?_);unfold Y9;rw[if_neg (by omega),if_neg (by assumption),if_pos (by assumption),D7 (k:=0) (by assumption),D7 (k:=1) (by assumption)];done)
  |(refine A1 rfl (congrArg AV.i ?_);unfold Y9;(repeat' split)<;>first|rfl|omega)
theorem RY(g:B7→Int)(c:B7)(ho:¬(c.op=2∨c.op=3∨c.op=4))(h:1≤c.op∧c.op≤7):U7 g c=Y9 c.op (c.kids.map (U7 g)) 1:=by
 rw[EF]
 unfold Y9
 (repeat' split)<;>first|rfl|omega
theorem ZP(s:A4)(hr:C3 s=0)(row:List Int)(hl:row.length=s.cols.length)(c:B7):a6 s c=0→A3 Tryz.prog 190 [sA s,D5 c,.sl 1 (row.map wA)] (.i (Dd s c row)):=by
 refine N6 (p:=fun c=>a6 s c=0→A3 Tryz.prog 190 [sA s,D5 c,.sl 1 (row.map wA)] (.i (Dd s c row))) (fun c ih h=>?_) c
 obtain⟨h1,h2⟩:=Dc h
 obtain⟨p1,p2,p3,_⟩:=Ai h1
 obtain⟨k1,k2,k3⟩:=Hd c.op
 have hg:∀a,-1≤M3 s a (row.getD a.col.toNat 0)∧M3 s a (row.getD a.col.toNat 0)≤1:=fun a=>Ma _ _ _
 by_cases ho:c.op=2∨c.op=3∨c.op=4
 ·have pt:=fun v=>Ix s c v ho (Ej hr h1)
  have hc:=p3 ho
  obtain⟨v,hv⟩:∃v,row[c.col.toNat]?=some v:=⟨_,List.getElem?_eq_getElem (by omega)⟩
  have qS:Dd s c row=M3 s c v:=by
   unfold Dd
   rw[EF]
   unfold Y9
   rw[if_neg (by omega),if_neg (by omega),if_neg (by omega),if_neg (by omega),D7 hv]
  rw[qS]
  rw[F8]at *
  refine B5 Tryz.func190 52 fun nL E h0=>?_
  clear nL
  repeat'((first|(refine A2 (x:=v) hv (by omega) ?_)|refine A0 (pt _) ?_|(refine A9 ?_ ?_;kernel_rfl) |refine S2 ?_|(refine T6 ?_ ?_<;>intro h<;>try exact V1 h)|intro el nJ nK|intro el nJ|exact T4|refine T5 ?_ ?_|intro ex)<;>try conv=>whnf)
  all_goals first
   |exact A1 rfl rfl
   |(exfalso;omega)
 ·unfold Dd
  rw[RY _ c ho p1]
  have tO:=Ov c.op (c.kids.map (U7 fun a=>M3 s a (row.getD a.col.toNat 0))) (fun h=>by rw[List.length_map];have:=k1 h;omega) (fun h=>by rw[List.length_map];have:=k2 h;omega) (fun v hv=>by
   obtain⟨k,_,rfl⟩:=List.mem_map.1 hv
   exact Pg hg k)
  have tl:∀k,k∈c.kids→A3 Tryz.prog 190 [sA s,D5 k,.sl 1 (row.map wA)] (.i (U7 (fun a=>M3 s a (row.getD a.col.toNat 0)) k)):=fun k hk=>ih k hk (h2 k hk)
  generalize (U7 fun a=>M3 s a (row.getD a.col.toNat 0))=T at *
  rw[F8]at *
  refine B5 Tryz.func190 52 fun nL E h0=>?_
  have nM:c.kids.length≤9223372036854775807:=by
   have:=((nL (.agg (M9 c)) (by simp)).agg (.sl 6 (c.kids.map K0)) (by simp)).sl
   simpa using this
  clear nL
  repeat'((first|refine S2 ?_|(refine T6 ?_ ?_<;>intro h<;>try exact V1 h)|intro el nJ nK|intro el nJ|exact T4|refine T5 ?_ ?_|intro ex)<;>try conv=>whnf)
  all_goals first
   |(exfalso;omega)
   |skip
  refine B0 (ι:=Nat) (fun k=>⟨[(2,.sl 1 (row.map wA)),(3,.ref 0 0),(4,.ref 1 0),(7,.row 2 0 k),(8,.i k)],3,[(0,some (.box (sL s))),(1,some (.box (M9 c))),(2,some (.row 3 1 0 (((c.kids.take k).map T).map wA)))]⟩) (fun k=>k≤c.kids.length) (fun k=>c.kids.length-k) 0 (Nat.zero_le _)
   (C0 (I0 (d:=7) (e:=3) (sz:=1) rfl) (A7 h0 rfl ⟨rfl,rfl,rfl,rfl,rfl,trivial⟩ ⟨rfl,rfl,⟨0,rfl⟩,trivial⟩ rfl rfl rfl)) (fun k hk=>?_)
  by_cases nN:k<c.kids.length
  ·obtain⟨el,nJ⟩:∃el,c.kids[k]?=some el:=⟨_,List.getElem?_eq_getElem nN⟩
   have pn:=tl el (List.mem_of_getElem? nJ)
   repeat'((first|(refine A2 (x:=el) nJ (by omega) ?_)|(refine E7 7 ?_;refine F5 (id:=7) ⟨[(2,.sl 1 (row.map wA)),(3,.ref 0 0),(4,.ref 1 0),(7,.row 2 0 (k+1)),(8,.i k)],3,[(0,some (.box (sL s))),(1,some (.box (M9 c))),(2,some (.row 3 1 0 (((c.kids.take (k+1)).map T).map wA)))]⟩ ?_ ?_)|refine A0 pn ?_ |refine S2 ?_|(refine T6 ?_ ?_<;>intro h<;>try exact V1 h)|intro el nJ nK|intro el nJ|exact T4|refine T5 ?_ ?_|intro ex)<;>try conv=>whnf)
   all_goals first
    |exact A7 h0 rfl ⟨rfl,rfl,rfl,rfl,rfl,trivial⟩ ⟨rfl,rfl,⟨_,congrArg (C4.row 3 1 _) (by rw[F1 nJ,List.map_append,List.map_append];rfl)⟩,trivial⟩ rfl rfl rfl
    |exact⟨k+1,by omega,by omega,A6 h0⟩
  ·obtain rfl:k=c.kids.length:=by omega
   rw[List.take_length]
   repeat'((first|refine I6 2 ?_|refine A0 tO ?_ |refine S2 ?_|(refine T6 ?_ ?_<;>intro h<;>try exact V1 h)|intro el nJ nK|intro el nJ|exact T4|refine T5 ?_ ?_|intro ex)<;>try conv=>whnf)
   all_goals first
    |exact A1 rfl rfl
theorem ZQ(s:A4)(c:B7)(row:List Int):A3 Tryz.prog 146 [sA s,D5 c,.sl 1 (row.map wA)] (.i (Tp s c row)):=by
 have h1:=Y4 s c
 have h2:=RI s row
 have h3:¬J6 s c≠0→¬BD s row≠0→A3 Tryz.prog 190 [sA s,D5 c,.sl 1 (row.map wA)] (.i (Dd s c row)):=fun a b=>have a:=Decidable.of_not_not a;have b:=Decidable.of_not_not b;ZP s (u6 a).1 row (IX b).2 c (u6 a).2.2.2
 unfold Tp
 rw[F8]at *
 refine B5 Tryz.func146 21 fun nL E h0=>?_
 clear nL
 repeat'((first|refine A0 h1 ?_|refine A0 h2 ?_|(refine A0 (h3 (by assumption) (by assumption)) ?_) |refine S2 ?_|(refine T6 ?_ ?_<;>intro h<;>try exact V1 h)|intro el nJ nK|intro el nJ|exact T4|refine T5 ?_ ?_|intro ex)<;>try conv=>whnf)
 all_goals first
  |(refine A1 rfl (congrArg AV.i ?_);rw[if_neg (by omega)];done)
  |(refine A1 rfl (congrArg AV.i ?_);rw[if_pos (by omega)];done)
end Go.Proofs.YtiphlhoclaogjaaGreatDoor

/- Chapter 18: which rows count: the reference. -/
import Derived.Test.YtiphlhoclaogjaaGreatDoorJTa7
import Derived.Test.YtiphlhoclaogjaaGreatDoorJCe9
import Derived.Test.YtiphlhoclaogjaaGreatDoorJTc0
import Derived.Test.YtiphlhoclaogjaaGreatDoorJCr1
import Derived.Test.YtiphlhoclaogjaaGreatDoorJRg0
import Derived.Test.YtiphlhoclaogjaaGreatDoorJSx
set_option linter.unusedVariables false
set_option linter.unnecessarySimpa false
set_option linter.unusedSimpArgs false
set_option maxHeartbeats 64000000
namespace Go.Proofs.YtiphlhoclaogjaaGreatDoor
open Go Go.Av
attribute [local irreducible] C9 B3 C8 D1 DQ D0 C7 St.le A3 B8
set_option maxRecDepth 100000
def Iy(s:A4)(picks:List Pk)(cnd:B7)(cols:List Int)(r:List Int):Bool:=decide (Iw s cnd picks r.tail=1) && cols.all fun c=>!HE s picks r c
def VB(s:A4)(x:J9)(cnd:B7)(cols:List Int):List Int:=if ¬L2 s x=0 then []else Q8 (Iy s x.picks cnd cols) 0 x.rows
theorem la{α:Type}{p:α→Bool}{l:List α}{k:Nat}(h:(l.take k).all p=false):l.all p=false:=by
 rw[List.all_eq_false]at h ⊢
 obtain⟨x,h1,h2⟩:=h
 exact⟨x,List.mem_of_mem_take h1,h2⟩
theorem Kb(s:A4)(x:J9)(cnd:B7)(cols:List Int):A3 Tryz.prog 25 [sA s,X9 x,D5 cnd,.sl 1 (cols.map wA)] (.sl 1 ((VB s x cnd cols).map wA)):=by
 have h1:=c8 s x
 by_cases hx:¬L2 s x=0
 ·have hE:VB s x cnd cols=[]:=if_pos hx
  rw[hE]
  generalize L2 s x=e at *
  obtain⟨pr,ver,picks,rows⟩:=x
  refine B5 Tryz.func25 75 fun nL E h0=>?_
  clear nL
  repeat'((first|refine A0 h1 ?_ |refine S2 ?_|(refine T6 ?_ ?_<;>intro h<;>try exact V1 h)|intro el nJ nK|intro el nJ|exact T4|refine T5 ?_ ?_|intro ex)<;>try conv=>whnf)
  all_goals first
   |(exfalso;omega)
   |exact p8 rfl rfl
 have pY:=Decidable.of_not_not hx
 have hE:VB s x cnd cols=Q8 (Iy s x.picks cnd cols) 0 x.rows:=if_neg hx
 rw[hE]
 obtain⟨hr,hp,oK,nV⟩:=v6 pY
 rw[pY]at h1
 have pk:=k9 hp
 have ni:=(D2 hr).2.1
 have h2:=fun c=>N0 s c
 have h3:=fun (k:Nat) (r:List Int) (hk:x.rows[k]?=some r) (c:Int)=>HL s hr x k r hk (O7 (nV k r hk)) (by omega) c (B4 s c)
 have h4:=fun r:List Int=>ZU s cnd x.picks r.tail
 have oY:=Gl (Iy s x.picks cnd cols) 0
 have oq:=Io (Iy s x.picks cnd cols) 0
 have qf:∀r,Iy s x.picks cnd cols r=(decide (Iw s cnd x.picks r.tail=1) && cols.all fun c=>!HE s x.picks r c):=fun _=>rfl
 have hbv:∀r c,HE s x.picks r c=(!(N8 s c (B4 s c) (x.picks.zip r.tail)).2 || decide ((N8 s c (B4 s c) (x.picks.zip r.tail)).1=-1099511627776)):=fun _ _=>rfl
 generalize Q8 (Iy s x.picks cnd cols) 0=FK at *
 generalize Iy s x.picks cnd cols=CC at *
 generalize HE s x.picks=BV at *
 clear hx hE
 obtain⟨pr,ver,picks,rows⟩:=x
 dsimp only at *
 have hX:X9 ⟨pr,ver,picks,rows⟩=.agg [.str pr,.i ver,.sl 2 (picks.map A8),.sl 1 (rows.map D4)]:=rfl
 rw[hX]
 refine B5 Tryz.func25 75 fun nL E h0=>?_
 have hlenc:cols.length≤9223372036854775807:=by have:=(nL (.sl 1 (cols.map wA)) (by simp)).sl;simpa using this
 clear nL
 repeat'((first|refine A0 h1 ?_ |refine S2 ?_|(refine T6 ?_ ?_<;>intro h<;>try exact V1 h)|intro el nJ nK|intro el nJ|exact T4|refine T5 ?_ ?_|intro ex)<;>try conv=>whnf)
 all_goals first
  |(exfalso;omega)
  |skip
 refine B0 (ι:=Nat) (fun k=>⟨[(3,.sl 1 (cols.map wA)),(4,.ref 0 0),(5,.ref 1 0),(6,.ref 2 0),(9,.row 3 0 (FK (rows.take k)).length),(10,.i k)],4,[(0,some (.box (sL s))),(1,some (.box [.str pr,.i ver,.sl 2 (picks.map A8),.sl 1 (rows.map D4)])),(2,some (.box [.i cnd.op,.i cnd.col,.i cnd.code,.i cnd.lo,.i cnd.hi,.sl 6 (cnd.kids.map R0)])),(3,some (.row 3 1 0 ((FK (rows.take k)).map wA)))]⟩)
  (fun k=>k≤rows.length) (fun k=>rows.length-k) 0 (Nat.zero_le _)
  (C0 (I0 (d:=9) (e:=3) (sz:=1) rfl) (A7 h0 rfl ⟨rfl,rfl,rfl,rfl,congrArg (fun z:Nat=>some (AV.row 3 0 z)) (by have:=oY [];simp at this;simp[this]),rfl,trivial⟩ ⟨rfl,rfl,rfl,⟨0,congrArg (C4.row 3 1 0) (by have:=oY [];simp at this;simp[this])⟩,trivial⟩ rfl rfl rfl)) (fun k hK=>?_)
 by_cases nU:k<rows.length
 ·obtain⟨r,pq⟩:∃r,rows[k]?=some r:=⟨_,List.getElem?_eq_getElem nU⟩
  have qG:rows[((k:Nat):Int).toNat]?=some r:=pq
  have sC:=O7 (nV k r pq)
  have hC:=h4 r
  rw[←RK]at hC
  have nS:=oq (rows.take k) r
  rw[←F1 pq,qf r,List.length_take,show 0+min k rows.length=k by omega]at nS
  have uN:=oY (rows.take k)
  rw[List.length_take]at uN
  have hi:=h3 k r pq
  have pc:=hbv r
  generalize Iw s cnd picks r.tail=T at *
  generalize ox:decide (T=1)=b0 at *
  have ou:∀z:Bool,z=decide (T=1)→z=b0:=fun z h=>h.trans ox
  repeat'((first|(refine A2 (x:=r) qG (by omega) ?_)|refine A0 hC ?_|(refine A9 ?_ ?_;kernel_rfl) |refine S2 ?_|(refine T6 ?_ ?_<;>intro h<;>try exact V1 h)|intro el nJ nK|intro el nJ|exact T4|refine T5 ?_ ?_|intro ex)<;>try conv=>whnf)
  all_goals first
   |(exfalso;omega)
   |skip
  refine B0 (ι:=Nat×Bool) (fun x=>⟨[(3,.sl 1 (cols.map wA)),(4,.ref 0 0),(5,.ref 1 0),(6,.ref 2 0),(9,.row 3 0 (FK (rows.take k)).length),(10,.i k),(11,.b x.2),(12,.i x.1)],4,[(0,some (.box (sL s))),(1,some (.box [.str pr,.i ver,.sl 2 (picks.map A8),.sl 1 (rows.map D4)])),(2,some (.box [.i cnd.op,.i cnd.col,.i cnd.code,.i cnd.lo,.i cnd.hi,.sl 6 (cnd.kids.map R0)])),(3,some (.row 3 1 0 ((FK (rows.take k)).map wA)))]⟩)
   (fun x=>x.1≤cols.length∧x.2=(b0 && (cols.take x.1).all fun c=>!BV r c)) (fun x=>cols.length-x.1) (0,b0) ⟨Nat.zero_le _,by simp⟩
   (A7 h0 rfl ⟨rfl,rfl,rfl,rfl,rfl,rfl,congrArg (fun z:Bool=>some (AV.b z)) ox,rfl,trivial⟩ ⟨rfl,rfl,rfl,⟨_,rfl⟩,trivial⟩ rfl rfl rfl) (fun y hI=>?_)
  obtain⟨j,f⟩:=y
  obtain⟨i1,i2⟩:=hI
  dsimp only at i1 i2 ⊢
  by_cases hgo:j<cols.length∧f=true
  ·obtain⟨uQ,rfl⟩:=hgo
   obtain⟨c,hc⟩:∃c,cols[j]?=some c:=⟨_,List.getElem?_eq_getElem uQ⟩
   have ow:cols[((j:Nat):Int).toNat]?=some c:=hc
   have hf:=h2 c
   have oc:=hi c
   have hb:=pc c
   have pS:(b0 && (cols.take (j+1)).all fun c=>!BV r c)=!BV r c:=by
    rw[F1 hc,List.all_append,←Bool.and_assoc,←i2]
    simp
   generalize N8 s c (B4 s c) (picks.zip r.tail)=K at *
   obtain⟨v,ok⟩:=K
   dsimp only at *
   rw[hb]at pS
   by_cases hv:v=-1099511627776
   ·rw[decide_eq_true hv,Bool.or_true]at pS
    cases ok
    ·repeat'((first|(refine A2 (x:=c) ow (by omega) ?_)|refine A0 hf ?_|refine A0 oc ?_|(refine A9 ?_ ?_;kernel_rfl) |refine S2 ?_|(refine T6 ?_ ?_<;>intro h<;>try exact V1 h)|intro el nJ nK|intro el nJ|exact T4|refine T5 ?_ ?_|intro ex)<;>try conv=>whnf)
     all_goals first
      |(exfalso;omega)
      |exact⟨(j+1,false),⟨by dsimp only;omega,by dsimp only;rw[pS];rfl⟩,by dsimp only;omega,A6 h0⟩
    ·repeat'((first|(refine A2 (x:=c) ow (by omega) ?_)|refine A0 hf ?_|refine A0 oc ?_|(refine A9 ?_ ?_;kernel_rfl) |refine S2 ?_|(refine T6 ?_ ?_<;>intro h<;>try exact V1 h)|intro el nJ nK|intro el nJ|exact T4|refine T5 ?_ ?_|intro ex)<;>try conv=>whnf)
     all_goals first
      |(exfalso;omega)
      |exact⟨(j+1,false),⟨by dsimp only;omega,by dsimp only;rw[pS];rfl⟩,by dsimp only;omega,A7 h0 rfl ⟨rfl,rfl,rfl,rfl,rfl,rfl,congrArg (fun z:Bool=>some (AV.b z)) (by simp[hv]),rfl,trivial⟩ ⟨rfl,rfl,rfl,⟨_,rfl⟩,trivial⟩ rfl rfl rfl⟩
   ·rw[decide_eq_false hv,Bool.or_false]at pS
    cases ok
    ·repeat'((first|(refine A2 (x:=c) ow (by omega) ?_)|refine A0 hf ?_|refine A0 oc ?_|(refine A9 ?_ ?_;kernel_rfl) |refine S2 ?_|(refine T6 ?_ ?_<;>intro h<;>try exact V1 h)|intro el nJ nK|intro el nJ|exact T4|refine T5 ?_ ?_|intro ex)<;>try conv=>whnf)
     all_goals first
      |(exfalso;omega)
      |exact⟨(j+1,false),⟨by dsimp only;omega,by dsimp only;rw[pS];rfl⟩,by dsimp only;omega,A6 h0⟩
    ·repeat'((first|(refine A2 (x:=c) ow (by omega) ?_)|refine A0 hf ?_|refine A0 oc ?_|(refine A9 ?_ ?_;kernel_rfl) |refine S2 ?_|(refine T6 ?_ ?_<;>intro h<;>try exact V1 h)|intro el nJ nK|intro el nJ|exact T4|refine T5 ?_ ?_|intro ex)<;>try conv=>whnf)
     all_goals first
      |(exfalso;omega)
      |exact⟨(j+1,true),⟨by dsimp only;omega,by dsimp only;rw[pS];rfl⟩,by dsimp only;omega,A7 h0 rfl ⟨rfl,rfl,rfl,rfl,rfl,rfl,congrArg (fun z:Bool=>some (AV.b z)) (by simp[hv]),rfl,trivial⟩ ⟨rfl,rfl,rfl,⟨_,rfl⟩,trivial⟩ rfl rfl rfl⟩
  ·have hT:(b0 && cols.all fun c=>!BV r c)=f:=by
    cases f with
    |true =>
     rw[List.take_of_length_le (by
      have:¬j<cols.length:=fun h=>hgo ⟨h,rfl⟩
      omega)]at i2
     exact i2.symm
    |false =>
     cases b0 with
     |false=>rfl
     |true=>rw[Bool.true_and]at i2 ⊢;exact la i2.symm
   rw[hT]at nS
   clear hT i2
   cases f
   ·rw[if_neg (by decide),List.append_nil]at nS
    repeat'((first|refine S2 ?_|(refine T6 ?_ ?_<;>intro h<;>try exact V1 h)|intro el nJ nK|intro el nJ|exact T4|refine T5 ?_ ?_|intro ex)<;>try conv=>whnf)
    all_goals first
     |(exfalso;omega)
     |exact⟨k+1,by omega,by omega,A7 h0 rfl ⟨rfl,rfl,rfl,rfl,congrArg (fun z:Nat=>some (AV.row 3 0 z)) (by rw[nS]),rfl,trivial⟩ ⟨rfl,rfl,rfl,⟨_,congrArg (C4.row 3 1 _) (by rw[nS])⟩,trivial⟩ rfl rfl rfl⟩
   ·rw[if_pos rfl]at nS
    have hjn:¬j<cols.length:=fun h=>hgo ⟨h,rfl⟩
    repeat'((first|refine S2 ?_|(refine T6 ?_ ?_<;>intro h<;>try exact V1 h)|intro el nJ nK|intro el nJ|exact T4|refine T5 ?_ ?_|intro ex)<;>try conv=>whnf)
    all_goals first
     |(exfalso;omega)
     |exact⟨k+1,by omega,by omega,A7 h0 rfl ⟨rfl,rfl,rfl,rfl,congrArg (fun z:Nat=>some (AV.row 3 0 z)) (by rw[nS];simp[L6]),rfl,trivial⟩ ⟨rfl,rfl,rfl,⟨_,congrArg (C4.row 3 1 _) (by rw[nS,List.map_append];rfl)⟩,trivial⟩ rfl rfl rfl⟩
 ·have he:rows.take k=rows:=List.take_of_length_le (by omega)
  rw[he]
  repeat'((first|refine S2 ?_|(refine T6 ?_ ?_<;>intro h<;>try exact V1 h)|intro el nJ nK|intro el nJ|exact T4|refine T5 ?_ ?_|intro ex)<;>try conv=>whnf)
  all_goals first
   |(exfalso;omega)
   |exact A1 rfl rfl
theorem Kc{p q:List Int→Bool}{f:Int→Bool}:∀(k:Nat) (l:List (List Int)),(∀(j:Nat) r,l[j]?=some r→f ((k+j:Nat):Int)=q r)→(Q8 p k l).filter f=Q8 (fun r=>p r && q r) k l
 |_,[],_=>rfl
 |k,r::t,h=>by
  have h0:=h 0 r rfl
  have ih:=Kc (p:=p) (q:=q) (f:=f) (k+1) t fun j r hj=>by rw[show k+1+j=k+(j+1) by omega];exact h (j+1) r hj
  rw[Nat.add_zero]at h0
  unfold Q8
  cases hp:p r with
  |false=>simpa using ih
  |true =>
   rw[if_pos rfl,List.filter_cons,h0,ih]
   simp
theorem HN{p q:List Int→Bool}:∀(k:Nat) (l:List (List Int)),(∀r∈l,p r=q r)→Q8 p k l=Q8 q k l
 |_,[],_=>rfl
 |k,r::t,h=>by
  unfold Q8
  rw[h r (List.mem_cons_self ..),HN (k+1) t fun x hx=>h x (List.mem_cons_of_mem _ hx)]
theorem Ow{p:List Int→Bool}:∀(k:Nat) (l:List (List Int)),(∀r∈l,p r=false)→Q8 p k l=[]
 |_,[],_=>rfl
 |k,r::t,h=>by
  unfold Q8
  rw[h r (List.mem_cons_self ..),if_neg (by decide),Ow (k+1) t fun x hx=>h x (List.mem_cons_of_mem _ hx)]
theorem fM(s:A4)(picks:List Pk)(cols:List Int)(r:List Int):(cols.all fun c=>!HE s picks r c)=!HF s picks cols r:=by
 unfold HF
 induction cols with
 |nil=>rfl
 |cons a t ih=>rw[List.all_cons,List.any_cons,ih,Bool.not_or]
theorem cJ{s:A4}(hd:E4 s)(x:J9)(cnd:B7)(cols:List Int):VB s x cnd cols=b7 s x cnd cols:=by
 unfold VB b7
 by_cases hx:¬L2 s x=0
 ·rw[if_pos hx,if_pos hx]
 rw[if_neg hx,if_neg hx]
 obtain⟨hr,hp,oK,nV⟩:=v6 (Decidable.of_not_not hx)
 have hc:∀r∈x.rows,Iy s x.picks cnd cols r=((decide (J6 s cnd=0∧X8 x.picks (I3 s cnd)=true) && KH s cnd x.picks r) && !HF s x.picks cols r):=fun r hm=>by
  obtain⟨k,hk⟩:=List.getElem?_of_mem hm
  have hl:=O7 (nV k r hk)
  unfold Iy
  rw[←jT hd,fM]
  congr 1
  unfold Yi KH
  by_cases h:J6 s cnd=0∧X8 x.picks (I3 s cnd)=true
  ·rw[if_pos ⟨h.1,hp,by rw[List.length_tail];omega,h.2⟩,decide_eq_true h,Bool.true_and]
  ·rw[if_neg (fun hh=>h ⟨hh.1,hh.2.2.2⟩),decide_eq_false h]
   rfl
 rw[HN 0 x.rows hc]
 unfold EH
 by_cases h:J6 s cnd=0∧X8 x.picks (I3 s cnd)=true
 ·rw[if_pos h,decide_eq_true h]
  rw[Kc (q:=fun r=>!HF s x.picks cols r) 0 x.rows fun j r hj=>by
   rw[Nat.zero_add,show ((j:Int)).toNat=j from rfl,D7 hj]]
  exact HN 0 x.rows fun r _=>by rw[Bool.true_and]
 ·rw[if_neg h,decide_eq_false h]
  exact Ow 0 x.rows fun r _=>by simp
def G4(s:A4):List Pk→List (List Int)
 |[]=>[[]]
 |d::r=>(O9 s d).flatMap fun c=>(G4 s r).map fun l=>c::l
def CH(own:List Int)(R:List (List Int)):List (List Int):=own.flatMap fun c=>R.map fun l=>c::l
theorem Ac(R:List (List Int)):∀own:List Int,(CH own R).length=own.length*R.length
 |[]=>by simp[CH]
 |a::r=>by
  have:=Ac R r
  unfold CH at this ⊢
  rw[List.flatMap_cons,List.length_append,this,List.length_map,List.length_cons,Nat.succ_mul,Nat.add_comm]
theorem ZV{own:List Int}{R:List (List Int)}{k:Nat}{c:Int}(h:own[k]?=some c):CH (own.take (k+1)) R=CH (own.take k) R++R.map fun l=>c::l:=by
 rw[F1 h]
 unfold CH
 rw[List.flatMap_append]
 simp
theorem Iz{s:A4}:∀{ds:List Pk} {l:List Int},l∈G4 s ds→l.length=ds.length
 |[],l,h=>by simp[G4]at h;subst h;rfl
 |d::r,l,h=>by
  unfold G4 at h
  rw[List.mem_flatMap]at h
  obtain⟨c,_,h2⟩:=h
  rw[List.mem_map]at h2
  obtain⟨m,h3,rfl⟩:=h2
  simp[Iz h3]
theorem ZW(r:List Pk):List.drop (1:Int).toNat (List.take ((r.map A8).length:Int).toNat (r.map A8))=r.tail.map A8:=by
 rw[Int.toNat_natCast,List.length_map]
 cases r with
 |nil=>rfl
 |cons a t=>simp[List.take_of_length_le]
theorem HO(s:A4)(hr:C3 s=0):∀(dims:List Pk),dims.length≤3→(∀d∈dims,N5 s d=0∧(B6 s d.col).kind=2)→(G4 s dims).length≤2000→A3 Tryz.prog 57 [sA s,.sl 2 (dims.map A8)] (.sl 1 ((G4 s dims).map D4))
 |[],_,_,_=>by
  refine B5 Tryz.func57 64 fun nL E h0=>?_
  clear nL
  repeat'((first|refine R5 (T:=24) rfl ?_|refine Dx (SI 1 [[.sl 1 []]] rfl ⟨⟨.nil 1,trivial⟩,trivial⟩) ?_ |refine S2 ?_|(refine T6 ?_ ?_<;>intro h<;>try exact V1 h)|intro el nJ nK|intro el nJ|exact T4|refine T5 ?_ ?_|intro ex)<;>try conv=>whnf)
  all_goals first
   |(exfalso;omega)
   |exact A1 rfl rfl
   |(exfalso;simp at *;done)
 |d::ds,qC,hd,rU=>by
  have zh:(O9 s d).length=(H1 (C2 s (B6 s d.col)).1 (C2 s (B6 s d.col)).2 d.lev).length+1:=by unfold O9;simp
  have nM:(G4 s (d::ds)).length=(O9 s d).length*(G4 s ds).length:=Ac _ _
  have hds:(G4 s ds).length≤2000:=by
   have:=Nat.mul_le_mul_right (G4 s ds).length (show 1≤(O9 s d).length by omega)
   omega
  have ih:=HO s hr ds (by simp at qC;omega) (fun x hx=>hd x (List.mem_cons_of_mem _ hx)) hds
  have ql:∀l∈G4 s ds,l.length≤2:=fun l hl=>by have:=Iz hl;simp at qC;omega
  rw[show ds.map A8=_ from (ZW (d::ds)).symm]at ih
  obtain⟨sf,qa⟩:=hd d (List.mem_cons_self ..)
  obtain⟨x,L,hx,nY,rh,⟨vf,qV⟩,hL,qY,uv⟩:=El hr sf qa
  obtain⟨nm,cs⟩:=L
  have oN:=(G9 uv).2.2
  have pt:=GC nm cs d.lev (by dsimp only at oN;omega)
  have nP:(O9 s d).map wA=[[.i (-1)]]++(H1 nm cs d.lev).map iA:=by unfold O9;rw[nY,qY,List.map_cons,List.map_map];rfl
  have qJ:(O9 s d).length=(H1 nm cs d.lev).length+1:=by unfold O9;rw[nY,qY];simp
  have sk:(H1 nm cs d.lev).length≤cs.length:=by unfold H1;split<;>first|exact Eg _ _ _|exact Nat.zero_le _
  dsimp only at oN
  have hRk:G4 s (d::ds)=CH (O9 s d) (G4 s ds):=rfl
  rw[hRk]at rU ⊢
  rw[Ac]at rU
  clear zh nM hRk
  generalize O9 s d=own at *
  generalize H1 nm cs d.lev=qz at *
  have hd0:(d::ds)[((0:Int)).toNat]?=some d:=rfl
  have yu:(d::ds).length≤3:=qC
  generalize G4 s ds=R at *
  generalize hDD:d::ds=DD at *
  have zM:1≤DD.length:=by rw[←hDD];simp
  have qw:own.length*R.length≤2000:=rU
  refine B5 Tryz.func57 64 fun nL E h0=>?_
  clear nL
  repeat'((first|(refine E7 3 ?_;refine A9 ?_ ?_;kernel_rfl)|(refine E7 4 ?_;refine R6 (id:=4) (σ':=⟨[(1,.sl 2 (DD.map A8)),(2,.iptr (sL s)),(5,.sl 1 (R.map D4))],0,[]⟩) (A6 h0) ?_;refine F5 (id:=4) ⟨[(5,.sl 1 (R.map D4)),(6,.sl 1 (own.map wA))],0,[]⟩ ?_ ?_)|(refine CE ?_ ?_ ?_;kernel_rfl;kernel_rfl)|refine R5 (T:=37) rfl ?_|(refine A2 (x:=d) hd0 (by omega) ?_)|(refine A2 (x:=x) hx (by omega) ?_)|(refine A2 (x:=(nm,cs)) hL (by omega) ?_)|refine A0 pt ?_|refine A0 ih ?_ |refine S2 ?_|(refine T6 ?_ ?_<;>intro h<;>try exact V1 h)|intro el nJ nK|intro el nJ|exact T4|refine T5 ?_ ?_|intro ex)<;>try conv=>whnf)
  all_goals first
   |(exfalso;omega)
   |exact A7 h0 rfl ⟨rfl,congrArg (fun z=>some (AV.sl 1 z)) nP.symm,trivial⟩ trivial rfl rfl rfl
   |skip
  refine B0 (ι:=Nat) (fun i=>⟨[(5,.sl 1 (R.map D4)),(6,.sl 1 (own.map wA)),(7,.row 0 0 (CH (own.take i) R).length),(8,.i i)],1,[(0,some (.row 37 1 0 ((CH (own.take i) R).map D4)))]⟩)
   (fun i=>i≤own.length) (fun i=>own.length-i) 0 (Nat.zero_le _)
   (C0 (I0 (d:=7) (e:=37) (sz:=1) rfl) (A7 h0 rfl ⟨rfl,rfl,rfl,rfl,trivial⟩ ⟨⟨0,rfl⟩,trivial⟩ rfl rfl rfl)) (fun i hi=>?_)
  by_cases qi:i<own.length
  ·obtain⟨c,vo⟩:∃c,own[i]?=some c:=⟨_,List.getElem?_eq_getElem qi⟩
   have AB0:own[((i:Nat):Int).toNat]?=some c:=vo
   have vu:(CH (own.take i) R).length+R.length≤2000:=by
    rw[Ac,List.length_take,Nat.min_eq_left (by omega)]
    have:=Nat.mul_le_mul_right R.length (show i+1≤own.length by omega)
    rw[Nat.succ_mul]at this
    omega
   have qL:=ZV (R:=R) vo
   generalize hA:CH (own.take i) R=A at *
   repeat'((first|refine S2 ?_|(refine T6 ?_ ?_<;>intro h<;>try exact V1 h)|intro el nJ nK|intro el nJ|exact T4|refine T5 ?_ ?_|intro ex)<;>try conv=>whnf)
   all_goals first
    |(exfalso;omega)
    |skip
   refine B0 (ι:=Nat) (fun j=>⟨[(5,.sl 1 (R.map D4)),(6,.sl 1 (own.map wA)),(7,.row 0 0 (A.length+j)),(8,.i i),(9,.i j)],1,[(0,some (.row 37 1 0 ((A++(R.take j).map fun l=>c::l).map D4)))]⟩)
    (fun j=>j≤R.length) (fun j=>R.length-j) 0 (Nat.zero_le _)
    (A7 h0 rfl ⟨rfl,rfl,rfl,rfl,rfl,trivial⟩ ⟨⟨_,congrArg (C4.row 37 1 _) (by simp)⟩,trivial⟩ rfl rfl rfl) (fun j hj=>?_)
   by_cases uQ:j<R.length
   ·obtain⟨l,zg⟩:∃l,R[j]?=some l:=⟨_,List.getElem?_eq_getElem uQ⟩
    have AB3:R[((j:Nat):Int).toNat]?=some l:=zg
    have ry:=ql l (List.mem_of_getElem? zg)
    have zu:A++(R.take (j+1)).map (fun l=>c::l)=(A++(R.take j).map fun l=>c::l)++[c::l]:=by rw[F1 zg,List.map_append,List.append_assoc];rfl
    have sJ:(A++(R.take j).map fun l=>c::l).length=A.length+j:=by rw[List.length_append,List.length_map,List.length_take];omega
    generalize (A++(R.take j).map fun l=>c::l)=B at *
    repeat'((first|(refine HU (id:=12) ⟨[(5,.sl 1 (R.map D4)),(6,.sl 1 (own.map wA)),(7,.row 0 0 (A.length+j+1)),(8,.i i),(9,.i j)],1,[(0,some (.row 37 1 0 ((B++[c::l]).map D4)))]⟩ ?_ ?_)|refine eU 60 rfl ?_|refine R5 (T:=37) rfl ?_|(refine A2 (x:=c) AB0 (by omega) ?_)|(refine A2 (x:=l) AB3 (by omega) ?_) |refine S2 ?_|(refine T6 ?_ ?_<;>intro h<;>try exact V1 h)|intro el nJ nK|intro el nJ|exact T4|refine T5 ?_ ?_|intro ex)<;>try conv=>whnf)
    all_goals first
     |(exfalso;omega)
     |exact A7 h0 rfl ⟨rfl,rfl,rfl,rfl,rfl,trivial⟩ ⟨⟨_,congrArg (C4.row 37 1 _) (by rw[List.map_append];rfl)⟩,trivial⟩ rfl rfl rfl
     |exact⟨j+1,by omega,by omega,A7 h0 rfl ⟨rfl,rfl,rfl,rfl,rfl,trivial⟩ ⟨⟨_,congrArg (C4.row 37 1 _) (by rw[zu])⟩,trivial⟩ rfl rfl rfl⟩
   ·have hje:R.take j=R:=List.take_of_length_le (by omega)
    have zT:j=R.length:=by omega
    rw[hje,←qL]
    subst zT
    repeat'((first|refine S2 ?_|(refine T6 ?_ ?_<;>intro h<;>try exact V1 h)|intro el nJ nK|intro el nJ|exact T4|refine T5 ?_ ?_|intro ex)<;>try conv=>whnf)
    all_goals first
     |(exfalso;omega)
     |exact⟨i+1,by omega,by omega,A7 h0 rfl ⟨rfl,rfl,congrArg (fun z:Nat=>some (AV.row 0 0 z)) (by rw[qL,List.length_append,List.length_map]),rfl,trivial⟩ ⟨⟨_,rfl⟩,trivial⟩ rfl rfl rfl⟩
  ·have tn:own.take i=own:=List.take_of_length_le (by omega)
   rw[tn]
   repeat'((first|refine S2 ?_|(refine T6 ?_ ?_<;>intro h<;>try exact V1 h)|intro el nJ nK|intro el nJ|exact T4|refine T5 ?_ ?_|intro ex)<;>try conv=>whnf)
   all_goals first
    |(exfalso;omega)
    |exact A1 rfl rfl
end Go.Proofs.YtiphlhoclaogjaaGreatDoor

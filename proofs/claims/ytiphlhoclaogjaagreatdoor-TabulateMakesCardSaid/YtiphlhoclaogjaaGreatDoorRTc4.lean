/- Chapter 18: which rows count: the reference. -/
import Derived.Test.YtiphlhoclaogjaaGreatDoorRTa7
import Derived.Test.YtiphlhoclaogjaaGreatDoorRCe9
import Derived.Test.YtiphlhoclaogjaaGreatDoorRTc0
import Derived.Test.YtiphlhoclaogjaaGreatDoorRCr1
import Derived.Test.YtiphlhoclaogjaaGreatDoorRRg0
import Derived.Test.YtiphlhoclaogjaaGreatDoorRSx
set_option linter.unusedVariables false
set_option linter.unnecessarySimpa false
set_option linter.unusedSimpArgs false
set_option maxHeartbeats 64000000
namespace Go.Proofs.YtiphlhoclaogjaaGreatDoor
open Go Go.Av
attribute [local irreducible] C9 B3 C7 D1 DQ D0 C6 St.le A3 B7
set_option maxRecDepth 100000
def Hv(s:A4)(picks:List Pk)(cnd:B6)(cols:List Int)(r:List Int):Bool:=decide (Ht s cnd picks r.tail=1) && cols.all fun c=>!GK s picks r c
def UI(s:A4)(x:J7)(cnd:B6)(cols:List Int):List Int:=if ¬K9 s x=0 then []else Q6 (Hv s x.picks cnd cols) 0 x.rows
theorem kS{α:Type}{p:α→Bool}{l:List α}{k:Nat}(h:(l.take k).all p=false):l.all p=false:=by
 rw[List.all_eq_false]at h ⊢
 obtain⟨x,h1,h2⟩:=h
 exact⟨x,List.mem_of_mem_take h1,h2⟩
theorem Jg(s:A4)(x:J7)(cnd:B6)(cols:List Int):A3 Tryz.prog 25 [sA s,T8 x,D5 cnd,.sl 1 (cols.map wA)] (.sl 1 ((UI s x cnd cols).map wA)):=by
 have h1:=b8 s x
 by_cases hx:¬K9 s x=0
 ·have hE:UI s x cnd cols=[]:=if_pos hx
  rw[hE]
  generalize K9 s x=e at *
  obtain⟨pr,ver,picks,rows⟩:=x
  refine B5 Tryz.func25 75 fun mK E h0=>?_
  clear mK
  repeat'((first|refine A0 h1 ?_ |refine S2 ?_|(refine T6 ?_ ?_<;>intro h<;>try exact V1 h)|intro el mI mJ|intro el mI|exact T4|refine T5 ?_ ?_|intro ex)<;>try conv=>whnf)
  all_goals first
   |(exfalso;omega)
   |exact l5 rfl rfl
 have oU:=Decidable.of_not_not hx
 have hE:UI s x cnd cols=Q6 (Hv s x.picks cnd cols) 0 x.rows:=if_neg hx
 rw[hE]
 obtain⟨hr,hp,nG,mV⟩:=o5 oU
 rw[oU]at h1
 have ob:=f8 hp
 have mf:=(D3 hr).2.1
 have h2:=fun c=>L5 s c
 have h3:=fun (k:Nat) (r:List Int) (hk:x.rows[k]?=some r) (c:Int)=>GR s hr x k r hk (O6 (mV k r hk)) (by omega) c (B4 s c)
 have h4:=fun r:List Int=>Yd s cnd x.picks r.tail
 have nV:=Ft (Hv s x.picks cnd cols) 0
 have nk:=Hm (Hv s x.picks cnd cols) 0
 have ph:∀r,Hv s x.picks cnd cols r=(decide (Ht s cnd x.picks r.tail=1) && cols.all fun c=>!GK s x.picks r c):=fun _=>rfl
 have hbv:∀r c,GK s x.picks r c=(!(N6 s c (B4 s c) (x.picks.zip r.tail)).2 || decide ((N6 s c (B4 s c) (x.picks.zip r.tail)).1=-1099511627776)):=fun _ _=>rfl
 generalize Q6 (Hv s x.picks cnd cols) 0=FK at *
 generalize Hv s x.picks cnd cols=CC at *
 generalize GK s x.picks=BV at *
 clear hx hE
 obtain⟨pr,ver,picks,rows⟩:=x
 dsimp only at *
 have hX:T8 ⟨pr,ver,picks,rows⟩=.agg [.str pr,.i ver,.sl 2 (picks.map A8),.sl 1 (rows.map D2)]:=rfl
 rw[hX]
 refine B5 Tryz.func25 75 fun mK E h0=>?_
 have hlenc:cols.length≤9223372036854775807:=by have:=(mK (.sl 1 (cols.map wA)) (by simp)).sl;simpa using this
 clear mK
 repeat'((first|refine A0 h1 ?_ |refine S2 ?_|(refine T6 ?_ ?_<;>intro h<;>try exact V1 h)|intro el mI mJ|intro el mI|exact T4|refine T5 ?_ ?_|intro ex)<;>try conv=>whnf)
 all_goals first
  |(exfalso;omega)
  |skip
 refine A9 (ι:=Nat) (fun k=>⟨[(3,.sl 1 (cols.map wA)),(4,.ref 0 0),(5,.ref 1 0),(6,.ref 2 0),(9,.row 3 0 (FK (rows.take k)).length),(10,.i k)],4,[(0,some (.box (sL s))),(1,some (.box [.str pr,.i ver,.sl 2 (picks.map A8),.sl 1 (rows.map D2)])),(2,some (.box [.i cnd.op,.i cnd.col,.i cnd.code,.i cnd.lo,.i cnd.hi,.sl 6 (cnd.kids.map P9)])),(3,some (.row 3 1 0 ((FK (rows.take k)).map wA)))]⟩)
  (fun k=>k≤rows.length) (fun k=>rows.length-k) 0 (Nat.zero_le _)
  (B9 (H7 (d:=9) (e:=3) (sz:=1) rfl) (A7 h0 rfl ⟨rfl,rfl,rfl,rfl,congrArg (fun z:Nat=>some (AV.row 3 0 z)) (by have:=nV [];simp at this;simp[this]),rfl,trivial⟩ ⟨rfl,rfl,rfl,⟨0,congrArg (C4.row 3 1 0) (by have:=nV [];simp at this;simp[this])⟩,trivial⟩ rfl rfl rfl)) (fun k hK=>?_)
 by_cases mT:k<rows.length
 ·obtain⟨r,ot⟩:∃r,rows[k]?=some r:=⟨_,List.getElem?_eq_getElem mT⟩
  have pH:rows[((k:Nat):Int).toNat]?=some r:=ot
  have ql:=O6 (mV k r ot)
  have hC:=h4 r
  rw[←QM]at hC
  have mR:=nk (rows.take k) r
  rw[←E7 ot,ph r,List.length_take,show 0+min k rows.length=k by omega]at mR
  have sw:=nV (rows.take k)
  rw[List.length_take]at sw
  have hi:=h3 k r ot
  have oZ:=hbv r
  generalize Ht s cnd picks r.tail=T at *
  generalize ns:decide (T=1)=b0 at *
  have no:∀z:Bool,z=decide (T=1)→z=b0:=fun z h=>h.trans ns
  repeat'((first|(refine A2 (x:=r) pH (by omega) ?_)|refine A0 hC ?_|(refine B0 ?_ ?_;kernel_rfl) |refine S2 ?_|(refine T6 ?_ ?_<;>intro h<;>try exact V1 h)|intro el mI mJ|intro el mI|exact T4|refine T5 ?_ ?_|intro ex)<;>try conv=>whnf)
  all_goals first
   |(exfalso;omega)
   |skip
  refine A9 (ι:=Nat×Bool) (fun x=>⟨[(3,.sl 1 (cols.map wA)),(4,.ref 0 0),(5,.ref 1 0),(6,.ref 2 0),(9,.row 3 0 (FK (rows.take k)).length),(10,.i k),(11,.b x.2),(12,.i x.1)],4,[(0,some (.box (sL s))),(1,some (.box [.str pr,.i ver,.sl 2 (picks.map A8),.sl 1 (rows.map D2)])),(2,some (.box [.i cnd.op,.i cnd.col,.i cnd.code,.i cnd.lo,.i cnd.hi,.sl 6 (cnd.kids.map P9)])),(3,some (.row 3 1 0 ((FK (rows.take k)).map wA)))]⟩)
   (fun x=>x.1≤cols.length∧x.2=(b0 && (cols.take x.1).all fun c=>!BV r c)) (fun x=>cols.length-x.1) (0,b0) ⟨Nat.zero_le _,by simp⟩
   (A7 h0 rfl ⟨rfl,rfl,rfl,rfl,rfl,rfl,congrArg (fun z:Bool=>some (AV.b z)) ns,rfl,trivial⟩ ⟨rfl,rfl,rfl,⟨_,rfl⟩,trivial⟩ rfl rfl rfl) (fun y hI=>?_)
  obtain⟨j,f⟩:=y
  obtain⟨i1,i2⟩:=hI
  dsimp only at i1 i2 ⊢
  by_cases hgo:j<cols.length∧f=true
  ·obtain⟨su,rfl⟩:=hgo
   obtain⟨c,hc⟩:∃c,cols[j]?=some c:=⟨_,List.getElem?_eq_getElem su⟩
   have oG:cols[((j:Nat):Int).toNat]?=some c:=hc
   have hf:=h2 c
   have nf:=hi c
   have hb:=oZ c
   have oM:(b0 && (cols.take (j+1)).all fun c=>!BV r c)=!BV r c:=by
    rw[E7 hc,List.all_append,←Bool.and_assoc,←i2]
    simp
   generalize N6 s c (B4 s c) (picks.zip r.tail)=K at *
   obtain⟨v,ok⟩:=K
   dsimp only at *
   rw[hb]at oM
   by_cases hv:v=-1099511627776
   ·rw[decide_eq_true hv,Bool.or_true]at oM
    cases ok
    ·repeat'((first|(refine A2 (x:=c) oG (by omega) ?_)|refine A0 hf ?_|refine A0 nf ?_|(refine B0 ?_ ?_;kernel_rfl) |refine S2 ?_|(refine T6 ?_ ?_<;>intro h<;>try exact V1 h)|intro el mI mJ|intro el mI|exact T4|refine T5 ?_ ?_|intro ex)<;>try conv=>whnf)
     all_goals first
      |(exfalso;omega)
      |exact⟨(j+1,false),⟨by dsimp only;omega,by dsimp only;rw[oM];rfl⟩,by dsimp only;omega,A6 h0⟩
    ·repeat'((first|(refine A2 (x:=c) oG (by omega) ?_)|refine A0 hf ?_|refine A0 nf ?_|(refine B0 ?_ ?_;kernel_rfl) |refine S2 ?_|(refine T6 ?_ ?_<;>intro h<;>try exact V1 h)|intro el mI mJ|intro el mI|exact T4|refine T5 ?_ ?_|intro ex)<;>try conv=>whnf)
     all_goals first
      |(exfalso;omega)
      |exact⟨(j+1,false),⟨by dsimp only;omega,by dsimp only;rw[oM];rfl⟩,by dsimp only;omega,A7 h0 rfl ⟨rfl,rfl,rfl,rfl,rfl,rfl,congrArg (fun z:Bool=>some (AV.b z)) (by simp[hv]),rfl,trivial⟩ ⟨rfl,rfl,rfl,⟨_,rfl⟩,trivial⟩ rfl rfl rfl⟩
   ·rw[decide_eq_false hv,Bool.or_false]at oM
    cases ok
    ·repeat'((first|(refine A2 (x:=c) oG (by omega) ?_)|refine A0 hf ?_|refine A0 nf ?_|(refine B0 ?_ ?_;kernel_rfl) |refine S2 ?_|(refine T6 ?_ ?_<;>intro h<;>try exact V1 h)|intro el mI mJ|intro el mI|exact T4|refine T5 ?_ ?_|intro ex)<;>try conv=>whnf)
     all_goals first
      |(exfalso;omega)
      |exact⟨(j+1,false),⟨by dsimp only;omega,by dsimp only;rw[oM];rfl⟩,by dsimp only;omega,A6 h0⟩
    ·repeat'((first|(refine A2 (x:=c) oG (by omega) ?_)|refine A0 hf ?_|refine A0 nf ?_|(refine B0 ?_ ?_;kernel_rfl) |refine S2 ?_|(refine T6 ?_ ?_<;>intro h<;>try exact V1 h)|intro el mI mJ|intro el mI|exact T4|refine T5 ?_ ?_|intro ex)<;>try conv=>whnf)
     all_goals first
      |(exfalso;omega)
      |exact⟨(j+1,true),⟨by dsimp only;omega,by dsimp only;rw[oM];rfl⟩,by dsimp only;omega,A7 h0 rfl ⟨rfl,rfl,rfl,rfl,rfl,rfl,congrArg (fun z:Bool=>some (AV.b z)) (by simp[hv]),rfl,trivial⟩ ⟨rfl,rfl,rfl,⟨_,rfl⟩,trivial⟩ rfl rfl rfl⟩
  ·have hT:(b0 && cols.all fun c=>!BV r c)=f:=by
    cases f with
    |true =>
     rw[List.take_of_length_le (by
      have:¬j<cols.length:=fun h=>hgo ⟨h,rfl⟩
      omega)]at i2
     exact i2.symm
    |false =>
     cases b0 with
     |false=>rfl
     |true=>rw[Bool.true_and]at i2 ⊢;exact kS i2.symm
   rw[hT]at mR
   clear hT i2
   cases f
   ·rw[if_neg (by decide),List.append_nil]at mR
    repeat'((first|refine S2 ?_|(refine T6 ?_ ?_<;>intro h<;>try exact V1 h)|intro el mI mJ|intro el mI|exact T4|refine T5 ?_ ?_|intro ex)<;>try conv=>whnf)
    all_goals first
     |(exfalso;omega)
     |exact⟨k+1,by omega,by omega,A7 h0 rfl ⟨rfl,rfl,rfl,rfl,congrArg (fun z:Nat=>some (AV.row 3 0 z)) (by rw[mR]),rfl,trivial⟩ ⟨rfl,rfl,rfl,⟨_,congrArg (C4.row 3 1 _) (by rw[mR])⟩,trivial⟩ rfl rfl rfl⟩
   ·rw[if_pos rfl]at mR
    have hjn:¬j<cols.length:=fun h=>hgo ⟨h,rfl⟩
    repeat'((first|refine S2 ?_|(refine T6 ?_ ?_<;>intro h<;>try exact V1 h)|intro el mI mJ|intro el mI|exact T4|refine T5 ?_ ?_|intro ex)<;>try conv=>whnf)
    all_goals first
     |(exfalso;omega)
     |exact⟨k+1,by omega,by omega,A7 h0 rfl ⟨rfl,rfl,rfl,rfl,congrArg (fun z:Nat=>some (AV.row 3 0 z)) (by rw[mR];simp[L4]),rfl,trivial⟩ ⟨rfl,rfl,rfl,⟨_,congrArg (C4.row 3 1 _) (by rw[mR,List.map_append];rfl)⟩,trivial⟩ rfl rfl rfl⟩
 ·have he:rows.take k=rows:=List.take_of_length_le (by omega)
  rw[he]
  repeat'((first|refine S2 ?_|(refine T6 ?_ ?_<;>intro h<;>try exact V1 h)|intro el mI mJ|intro el mI|exact T4|refine T5 ?_ ?_|intro ex)<;>try conv=>whnf)
  all_goals first
   |(exfalso;omega)
   |exact A1 rfl rfl
theorem Jh{p q:List Int→Bool}{f:Int→Bool}:∀(k:Nat) (l:List (List Int)),(∀(j:Nat) r,l[j]?=some r→f ((k+j:Nat):Int)=q r)→(Q6 p k l).filter f=Q6 (fun r=>p r && q r) k l
 |_,[],_=>rfl
 |k,r::t,h=>by
  have h0:=h 0 r rfl
  have ih:=Jh (p:=p) (q:=q) (f:=f) (k+1) t fun j r hj=>by rw[show k+1+j=k+(j+1) by omega];exact h (j+1) r hj
  rw[Nat.add_zero]at h0
  unfold Q6
  cases hp:p r with
  |false=>simpa using ih
  |true =>
   rw[if_pos rfl,List.filter_cons,h0,ih]
   simp
theorem GT{p q:List Int→Bool}:∀(k:Nat) (l:List (List Int)),(∀r∈l,p r=q r)→Q6 p k l=Q6 q k l
 |_,[],_=>rfl
 |k,r::t,h=>by
  unfold Q6
  rw[h r (List.mem_cons_self ..),GT (k+1) t fun x hx=>h x (List.mem_cons_of_mem _ hx)]
theorem Nw{p:List Int→Bool}:∀(k:Nat) (l:List (List Int)),(∀r∈l,p r=false)→Q6 p k l=[]
 |_,[],_=>rfl
 |k,r::t,h=>by
  unfold Q6
  rw[h r (List.mem_cons_self ..),if_neg (by decide),Nw (k+1) t fun x hx=>h x (List.mem_cons_of_mem _ hx)]
theorem eA(s:A4)(picks:List Pk)(cols:List Int)(r:List Int):(cols.all fun c=>!GK s picks r c)=!GL s picks cols r:=by
 unfold GL
 induction cols with
 |nil=>rfl
 |cons a t ih=>rw[List.all_cons,List.any_cons,ih,Bool.not_or]
theorem bI{s:A4}(hd:D9 s)(x:J7)(cnd:B6)(cols:List Int):UI s x cnd cols=e8 s x cnd cols:=by
 unfold UI e8
 by_cases hx:¬K9 s x=0
 ·rw[if_pos hx,if_pos hx]
 rw[if_neg hx,if_neg hx]
 obtain⟨hr,hp,nG,mV⟩:=o5 (Decidable.of_not_not hx)
 have hc:∀r∈x.rows,Hv s x.picks cnd cols r=((decide (J6 s cnd=0∧X5 x.picks (I1 s cnd)=true) && JQ s cnd x.picks r) && !GL s x.picks cols r):=fun r hm=>by
  obtain⟨k,hk⟩:=List.getElem?_of_mem hm
  have hl:=O6 (mV k r hk)
  unfold Hv
  rw[←iK hd,eA]
  congr 1
  unfold Xq JQ
  by_cases h:J6 s cnd=0∧X5 x.picks (I1 s cnd)=true
  ·rw[if_pos ⟨h.1,hp,by rw[List.length_tail];omega,h.2⟩,decide_eq_true h,Bool.true_and]
  ·rw[if_neg (fun hh=>h ⟨hh.1,hh.2.2.2⟩),decide_eq_false h]
   rfl
 rw[GT 0 x.rows hc]
 unfold DP
 by_cases h:J6 s cnd=0∧X5 x.picks (I1 s cnd)=true
 ·rw[if_pos h,decide_eq_true h]
  rw[Jh (q:=fun r=>!GL s x.picks cols r) 0 x.rows fun j r hj=>by
   rw[Nat.zero_add,show ((j:Int)).toNat=j from rfl,D7 hj]]
  exact GT 0 x.rows fun r _=>by rw[Bool.true_and]
 ·rw[if_neg h,decide_eq_false h]
  exact Nw 0 x.rows fun r _=>by simp
def G3(s:A4):List Pk→List (List Int)
 |[]=>[[]]
 |d::r=>(O7 s d).flatMap fun c=>(G3 s r).map fun l=>c::l
def BL(own:List Int)(R:List (List Int)):List (List Int):=own.flatMap fun c=>R.map fun l=>c::l
theorem w7(R:List (List Int)):∀own:List Int,(BL own R).length=own.length*R.length
 |[]=>by simp[BL]
 |a::r=>by
  have:=w7 R r
  unfold BL at this ⊢
  rw[List.flatMap_cons,List.length_append,this,List.length_map,List.length_cons,Nat.succ_mul,Nat.add_comm]
theorem Ye{own:List Int}{R:List (List Int)}{k:Nat}{c:Int}(h:own[k]?=some c):BL (own.take (k+1)) R=BL (own.take k) R++R.map fun l=>c::l:=by
 rw[E7 h]
 unfold BL
 rw[List.flatMap_append]
 simp
theorem Hw{s:A4}:∀{ds:List Pk} {l:List Int},l∈G3 s ds→l.length=ds.length
 |[],l,h=>by simp[G3]at h;subst h;rfl
 |d::r,l,h=>by
  unfold G3 at h
  rw[List.mem_flatMap]at h
  obtain⟨c,_,h2⟩:=h
  rw[List.mem_map]at h2
  obtain⟨m,h3,rfl⟩:=h2
  simp[Hw h3]
theorem Yf(r:List Pk):List.drop (1:Int).toNat (List.take ((r.map A8).length:Int).toNat (r.map A8))=r.tail.map A8:=by
 rw[Int.toNat_natCast,List.length_map]
 cases r with
 |nil=>rfl
 |cons a t=>simp[List.take_of_length_le]
theorem GU(s:A4)(hr:C3 s=0):∀(dims:List Pk),dims.length≤3→(∀d∈dims,N3 s d=0∧(B8 s d.col).kind=2)→(G3 s dims).length≤2000→A3 Tryz.prog 57 [sA s,.sl 2 (dims.map A8)] (.sl 1 ((G3 s dims).map D2))
 |[],_,_,_=>by
  refine B5 Tryz.func57 64 fun mK E h0=>?_
  clear mK
  repeat'((first|refine R1 (T:=24) rfl ?_|refine DG (RL 1 [[.sl 1 []]] rfl ⟨⟨.nil 1,trivial⟩,trivial⟩) ?_ |refine S2 ?_|(refine T6 ?_ ?_<;>intro h<;>try exact V1 h)|intro el mI mJ|intro el mI|exact T4|refine T5 ?_ ?_|intro ex)<;>try conv=>whnf)
  all_goals first
   |(exfalso;omega)
   |exact A1 rfl rfl
   |(exfalso;simp at *;done)
 |d::ds,pB,hd,qe=>by
  have zA:(O7 s d).length=(H1 (C2 s (B8 s d.col)).1 (C2 s (B8 s d.col)).2 d.lev).length+1:=by unfold O7;simp
  have mL:(G3 s (d::ds)).length=(O7 s d).length*(G3 s ds).length:=w7 _ _
  have hds:(G3 s ds).length≤2000:=by
   have:=Nat.mul_le_mul_right (G3 s ds).length (show 1≤(O7 s d).length by omega)
   omega
  have ih:=GU s hr ds (by simp at pB;omega) (fun x hx=>hd x (List.mem_cons_of_mem _ hx)) hds
  have pj:∀l∈G3 s ds,l.length≤2:=fun l hl=>by have:=Hw hl;simp at pB;omega
  rw[show ds.map A8=_ from (Yf (d::ds)).symm]at ih
  obtain⟨rW,po⟩:=hd d (List.mem_cons_self ..)
  obtain⟨x,L,hx,mX,qj,⟨sx,pD⟩,hL,pT,tg⟩:=Dv hr rW po
  obtain⟨nm,cs⟩:=L
  have nJ:=(G9 tg).2.2
  have pC:=FH nm cs d.lev (by dsimp only at nJ;omega)
  have mO:(O7 s d).map wA=[[.i (-1)]]++(H1 nm cs d.lev).map iA:=by unfold O7;rw[mX,pT,List.map_cons,List.map_map];rfl
  have pL:(O7 s d).length=(H1 nm cs d.lev).length+1:=by unfold O7;rw[mX,pT];simp
  have rQ:(H1 nm cs d.lev).length≤cs.length:=by unfold H1;split<;>first|exact Dp _ _ _|exact Nat.zero_le _
  dsimp only at nJ
  have hRk:G3 s (d::ds)=BL (O7 s d) (G3 s ds):=rfl
  rw[hRk]at qe ⊢
  rw[w7]at qe
  clear zA mL hRk
  generalize O7 s d=own at *
  generalize H1 nm cs d.lev=px at *
  have yk:(d::ds)[((0:Int)).toNat]?=some d:=rfl
  have xW:(d::ds).length≤3:=pB
  generalize G3 s ds=R at *
  generalize hDD:d::ds=DD at *
  have ym:1≤DD.length:=by rw[←hDD];simp
  have qC:own.length*R.length≤2000:=qe
  refine B5 Tryz.func57 64 fun mK E h0=>?_
  clear mK
  repeat'((first|(refine E6 3 ?_;refine B0 ?_ ?_;kernel_rfl)|(refine E6 4 ?_;refine R2 (id:=4) (σ':=⟨[(1,.sl 2 (DD.map A8)),(2,.iptr (sL s)),(5,.sl 1 (R.map D2))],0,[]⟩) (A6 h0) ?_;refine F3 (id:=4) ⟨[(5,.sl 1 (R.map D2)),(6,.sl 1 (own.map wA))],0,[]⟩ ?_ ?_)|(refine BI ?_ ?_ ?_;kernel_rfl;kernel_rfl)|refine R1 (T:=37) rfl ?_|(refine A2 (x:=d) yk (by omega) ?_)|(refine A2 (x:=x) hx (by omega) ?_)|(refine A2 (x:=(nm,cs)) hL (by omega) ?_)|refine A0 pC ?_|refine A0 ih ?_ |refine S2 ?_|(refine T6 ?_ ?_<;>intro h<;>try exact V1 h)|intro el mI mJ|intro el mI|exact T4|refine T5 ?_ ?_|intro ex)<;>try conv=>whnf)
  all_goals first
   |(exfalso;omega)
   |exact A7 h0 rfl ⟨rfl,congrArg (fun z=>some (AV.sl 1 z)) mO.symm,trivial⟩ trivial rfl rfl rfl
   |skip
  refine A9 (ι:=Nat) (fun i=>⟨[(5,.sl 1 (R.map D2)),(6,.sl 1 (own.map wA)),(7,.row 0 0 (BL (own.take i) R).length),(8,.i i)],1,[(0,some (.row 37 1 0 ((BL (own.take i) R).map D2)))]⟩)
   (fun i=>i≤own.length) (fun i=>own.length-i) 0 (Nat.zero_le _)
   (B9 (H7 (d:=7) (e:=37) (sz:=1) rfl) (A7 h0 rfl ⟨rfl,rfl,rfl,rfl,trivial⟩ ⟨⟨0,rfl⟩,trivial⟩ rfl rfl rfl)) (fun i hi=>?_)
  by_cases pg:i<own.length
  ·obtain⟨c,uv⟩:∃c,own[i]?=some c:=⟨_,List.getElem?_eq_getElem pg⟩
   have yO:own[((i:Nat):Int).toNat]?=some c:=uv
   have uw:(BL (own.take i) R).length+R.length≤2000:=by
    rw[w7,List.length_take,Nat.min_eq_left (by omega)]
    have:=Nat.mul_le_mul_right R.length (show i+1≤own.length by omega)
    rw[Nat.succ_mul]at this
    omega
   have pM:=Ye (R:=R) uv
   generalize hA:BL (own.take i) R=A at *
   repeat'((first|refine S2 ?_|(refine T6 ?_ ?_<;>intro h<;>try exact V1 h)|intro el mI mJ|intro el mI|exact T4|refine T5 ?_ ?_|intro ex)<;>try conv=>whnf)
   all_goals first
    |(exfalso;omega)
    |skip
   refine A9 (ι:=Nat) (fun j=>⟨[(5,.sl 1 (R.map D2)),(6,.sl 1 (own.map wA)),(7,.row 0 0 (A.length+j)),(8,.i i),(9,.i j)],1,[(0,some (.row 37 1 0 ((A++(R.take j).map fun l=>c::l).map D2)))]⟩)
    (fun j=>j≤R.length) (fun j=>R.length-j) 0 (Nat.zero_le _)
    (A7 h0 rfl ⟨rfl,rfl,rfl,rfl,rfl,trivial⟩ ⟨⟨_,congrArg (C4.row 37 1 _) (by simp)⟩,trivial⟩ rfl rfl rfl) (fun j hj=>?_)
   by_cases su:j<R.length
   ·obtain⟨l,zQ⟩:∃l,R[j]?=some l:=⟨_,List.getElem?_eq_getElem su⟩
    have yG:R[((j:Nat):Int).toNat]?=some l:=zQ
    have rN:=pj l (List.mem_of_getElem? zQ)
    have yL:A++(R.take (j+1)).map (fun l=>c::l)=(A++(R.take j).map fun l=>c::l)++[c::l]:=by rw[E7 zQ,List.map_append,List.append_assoc];rfl
    have rC:(A++(R.take j).map fun l=>c::l).length=A.length+j:=by rw[List.length_append,List.length_map,List.length_take];omega
    generalize (A++(R.take j).map fun l=>c::l)=B at *
    repeat'((first|(refine GZ (id:=12) ⟨[(5,.sl 1 (R.map D2)),(6,.sl 1 (own.map wA)),(7,.row 0 0 (A.length+j+1)),(8,.i i),(9,.i j)],1,[(0,some (.row 37 1 0 ((B++[c::l]).map D2)))]⟩ ?_ ?_)|refine dT 60 rfl ?_|refine R1 (T:=37) rfl ?_|(refine A2 (x:=c) yO (by omega) ?_)|(refine A2 (x:=l) yG (by omega) ?_) |refine S2 ?_|(refine T6 ?_ ?_<;>intro h<;>try exact V1 h)|intro el mI mJ|intro el mI|exact T4|refine T5 ?_ ?_|intro ex)<;>try conv=>whnf)
    all_goals first
     |(exfalso;omega)
     |exact A7 h0 rfl ⟨rfl,rfl,rfl,rfl,rfl,trivial⟩ ⟨⟨_,congrArg (C4.row 37 1 _) (by rw[List.map_append];rfl)⟩,trivial⟩ rfl rfl rfl
     |exact⟨j+1,by omega,by omega,A7 h0 rfl ⟨rfl,rfl,rfl,rfl,rfl,trivial⟩ ⟨⟨_,congrArg (C4.row 37 1 _) (by rw[yL])⟩,trivial⟩ rfl rfl rfl⟩
   ·have yN:R.take j=R:=List.take_of_length_le (by omega)
    have ya:j=R.length:=by omega
    rw[yN,←pM]
    subst ya
    repeat'((first|refine S2 ?_|(refine T6 ?_ ?_<;>intro h<;>try exact V1 h)|intro el mI mJ|intro el mI|exact T4|refine T5 ?_ ?_|intro ex)<;>try conv=>whnf)
    all_goals first
     |(exfalso;omega)
     |exact⟨i+1,by omega,by omega,A7 h0 rfl ⟨rfl,rfl,congrArg (fun z:Nat=>some (AV.row 0 0 z)) (by rw[pM,List.length_append,List.length_map]),rfl,trivial⟩ ⟨⟨_,rfl⟩,trivial⟩ rfl rfl rfl⟩
  ·have sI:own.take i=own:=List.take_of_length_le (by omega)
   rw[sI]
   repeat'((first|refine S2 ?_|(refine T6 ?_ ?_<;>intro h<;>try exact V1 h)|intro el mI mJ|intro el mI|exact T4|refine T5 ?_ ?_|intro ex)<;>try conv=>whnf)
   all_goals first
    |(exfalso;omega)
    |exact A1 rfl rfl
end Go.Proofs.YtiphlhoclaogjaaGreatDoor

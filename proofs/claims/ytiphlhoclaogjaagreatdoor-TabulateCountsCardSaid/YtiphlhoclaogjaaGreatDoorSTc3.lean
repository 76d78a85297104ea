/- Chapter 18: which rows count: the reference. -/
import Derived.Test.YtiphlhoclaogjaaGreatDoorSTa7
import Derived.Test.YtiphlhoclaogjaaGreatDoorSCe9
import Derived.Test.YtiphlhoclaogjaaGreatDoorSTc0
import Derived.Test.YtiphlhoclaogjaaGreatDoorSCr1
set_option linter.unusedVariables false
set_option linter.unnecessarySimpa false
set_option linter.unusedSimpArgs false
set_option maxHeartbeats 64000000
namespace Go.Proofs.YtiphlhoclaogjaaGreatDoor
open Go Go.Av
attribute [local irreducible] C7 B2 D3 C9 DQ D0 C8 St.le A3 B9
set_option maxRecDepth 100000
def IK(s:A4)(picks:List Pk)(cnd:B1)(cols:List Int)(r:List Int):Bool:=decide (II s cnd picks r.tail=1) && cols.all fun c=>!GU s picks r c
def UK(s:A4)(x:N5)(cnd:B1)(cols:List Int):List Int:=if ¬P6 s x=0 then []else P8 (IK s x.picks cnd cols) 0 x.rows
theorem jr{α:Type}{p:α→Bool}{l:List α}{k:Nat}(h:(l.take k).all p=false):l.all p=false:=by
 rw[List.all_eq_false]at h ⊢
 obtain⟨x,h1,h2⟩:=h
 exact⟨x,List.mem_of_mem_take h1,h2⟩
theorem UL(s:A4)(x:N5)(cnd:B1)(cols:List Int):A3 Tryz.prog 25 [sA s,c9 x,E0 cnd,.sl 1 (cols.map wA)] (.sl 1 ((UK s x cnd cols).map wA)):=by
 have h1:=Qv s x
 by_cases hx:¬P6 s x=0
 ·have hE:UK s x cnd cols=[]:=if_pos hx
  rw[hE]
  generalize P6 s x=e at *
  obtain⟨pr,ver,picks,rows⟩:=x
  refine B6 Tryz.func25 75 fun lW E h0=>?_
  clear lW
  repeat'((first|refine A1 h1 ?_ |refine S2 ?_|(refine T6 ?_ ?_<;>intro h<;>try exact V1 h)|intro el lU lV|intro el lU|exact T4|refine T5 ?_ ?_|intro ex)<;>try conv=>whnf)
  all_goals first
   |(exfalso;omega)
   |exact u4 rfl rfl
 have nf:=Decidable.of_not_not hx
 have hE:UK s x cnd cols=P8 (IK s x.picks cnd cols) 0 x.rows:=if_neg hx
 rw[hE]
 obtain⟨hr,hp,mf,ll⟩:=BN nf
 rw[nf]at h1
 have nY:=AA hp
 have ly:=(D5 hr).2.1
 have h2:=fun c=>T7 s c
 have h3:=fun (k:Nat) (r:List Int) (hk:x.rows[k]?=some r) (c:Int)=>VT s hr x k r hk (V4 (ll k r hk)) (by omega) c (B7 s c)
 have h4:=fun r:List Int=>Yh s cnd x.picks r.tail
 have nB:=GC (IK s x.picks cnd cols) 0
 have mu:=Hs (IK s x.picks cnd cols) 0
 have pj:∀r,IK s x.picks cnd cols r=(decide (II s cnd x.picks r.tail=1) && cols.all fun c=>!GU s x.picks r c):=fun _=>rfl
 have zo:∀r c,GU s x.picks r c=(!(Q0 s c (B7 s c) (x.picks.zip r.tail)).2 || decide ((Q0 s c (B7 s c) (x.picks.zip r.tail)).1=-1099511627776)):=fun _ _=>rfl
 generalize P8 (IK s x.picks cnd cols) 0=FK at *
 generalize IK s x.picks cnd cols=CC at *
 generalize GU s x.picks=BV at *
 clear hx hE
 obtain⟨pr,ver,picks,rows⟩:=x
 dsimp only at *
 have hX:c9 ⟨pr,ver,picks,rows⟩=.agg [.str pr,.i ver,.sl 2 (picks.map B4),.sl 1 (rows.map F8)]:=rfl
 rw[hX]
 refine B6 Tryz.func25 75 fun lW E h0=>?_
 have hlenc:cols.length≤9223372036854775807:=by have:=(lW (.sl 1 (cols.map wA)) (by simp)).sl;simpa using this
 clear lW
 repeat'((first|refine A1 h1 ?_ |refine S2 ?_|(refine T6 ?_ ?_<;>intro h<;>try exact V1 h)|intro el lU lV|intro el lU|exact T4|refine T5 ?_ ?_|intro ex)<;>try conv=>whnf)
 all_goals first
  |(exfalso;omega)
  |skip
 refine B0 (ι:=Nat) (fun k=>⟨[(3,.sl 1 (cols.map wA)),(4,.ref 0 0),(5,.ref 1 0),(6,.ref 2 0),(9,.row 3 0 (FK (rows.take k)).length),(10,.i k)],4,[(0,some (.box (sL s))),(1,some (.box [.str pr,.i ver,.sl 2 (picks.map B4),.sl 1 (rows.map F8)])),(2,some (.box [.i cnd.op,.i cnd.col,.i cnd.code,.i cnd.lo,.i cnd.hi,.sl 6 (cnd.kids.map L0)])),(3,some (.row 3 1 0 ((FK (rows.take k)).map wA)))]⟩)
  (fun k=>k≤rows.length) (fun k=>rows.length-k) 0 (Nat.zero_le _)
  (B5 (I9 (d:=9) (e:=3) (sz:=1) rfl) (A9 h0 rfl ⟨rfl,rfl,rfl,rfl,congrArg (fun z:Nat=>some (AV.row 3 0 z)) (by have:=nB [];simp at this;simp[this]),rfl,trivial⟩ ⟨rfl,rfl,rfl,⟨0,congrArg (C6.row 3 1 0) (by have:=nB [];simp at this;simp[this])⟩,trivial⟩ rfl rfl rfl)) (fun k hK=>?_)
 by_cases lk:k<rows.length
 ·obtain⟨r,ny⟩:∃r,rows[k]?=some r:=⟨_,List.getElem?_eq_getElem lk⟩
  have oJ:rows[((k:Nat):Int).toNat]?=some r:=ny
  have qA:=V4 (ll k r ny)
  have hC:=h4 r
  rw[←QT]at hC
  have lh:=mu (rows.take k) r
  rw[←H6 ny,pj r,List.length_take,show 0+min k rows.length=k by omega]at lh
  have ru:=nB (rows.take k)
  rw[List.length_take]at ru
  have hi:=h3 k r ny
  have nw:=zo r
  generalize II s cnd picks r.tail=T at *
  generalize nF:decide (T=1)=b0 at *
  have nD:∀z:Bool,z=decide (T=1)→z=b0:=fun z h=>h.trans nF
  repeat'((first|(refine A2 (x:=r) oJ (by omega) ?_)|refine A1 hC ?_|(refine B3 ?_ ?_;kernel_rfl) |refine S2 ?_|(refine T6 ?_ ?_<;>intro h<;>try exact V1 h)|intro el lU lV|intro el lU|exact T4|refine T5 ?_ ?_|intro ex)<;>try conv=>whnf)
  all_goals first
   |(exfalso;omega)
   |skip
  refine B0 (ι:=Nat×Bool) (fun x=>⟨[(3,.sl 1 (cols.map wA)),(4,.ref 0 0),(5,.ref 1 0),(6,.ref 2 0),(9,.row 3 0 (FK (rows.take k)).length),(10,.i k),(11,.b x.2),(12,.i x.1)],4,[(0,some (.box (sL s))),(1,some (.box [.str pr,.i ver,.sl 2 (picks.map B4),.sl 1 (rows.map F8)])),(2,some (.box [.i cnd.op,.i cnd.col,.i cnd.code,.i cnd.lo,.i cnd.hi,.sl 6 (cnd.kids.map L0)])),(3,some (.row 3 1 0 ((FK (rows.take k)).map wA)))]⟩)
   (fun x=>x.1≤cols.length∧x.2=(b0 && (cols.take x.1).all fun c=>!BV r c)) (fun x=>cols.length-x.1) (0,b0) ⟨Nat.zero_le _,by simp⟩
   (A9 h0 rfl ⟨rfl,rfl,rfl,rfl,rfl,rfl,congrArg (fun z:Bool=>some (AV.b z)) nF,rfl,trivial⟩ ⟨rfl,rfl,rfl,⟨_,rfl⟩,trivial⟩ rfl rfl rfl) (fun y hI=>?_)
  obtain⟨j,f⟩:=y
  obtain⟨i1,i2⟩:=hI
  dsimp only at i1 i2 ⊢
  by_cases hgo:j<cols.length∧f=true
  ·obtain⟨sk,rfl⟩:=hgo
   obtain⟨c,hc⟩:∃c,cols[j]?=some c:=⟨_,List.getElem?_eq_getElem sk⟩
   have ng:cols[((j:Nat):Int).toNat]?=some c:=hc
   have hf:=h2 c
   have mm:=hi c
   have hb:=nw c
   have nW:(b0 && (cols.take (j+1)).all fun c=>!BV r c)=!BV r c:=by
    rw[H6 hc,List.all_append,←Bool.and_assoc,←i2]
    simp
   generalize Q0 s c (B7 s c) (picks.zip r.tail)=K at *
   obtain⟨v,ok⟩:=K
   dsimp only at *
   rw[hb]at nW
   by_cases hv:v=-1099511627776
   ·rw[decide_eq_true hv,Bool.or_true]at nW
    cases ok
    ·repeat'((first|(refine A2 (x:=c) ng (by omega) ?_)|refine A1 hf ?_|refine A1 mm ?_|(refine B3 ?_ ?_;kernel_rfl) |refine S2 ?_|(refine T6 ?_ ?_<;>intro h<;>try exact V1 h)|intro el lU lV|intro el lU|exact T4|refine T5 ?_ ?_|intro ex)<;>try conv=>whnf)
     all_goals first
      |(exfalso;omega)
      |exact⟨(j+1,false),⟨by dsimp only;omega,by dsimp only;rw[nW];rfl⟩,by dsimp only;omega,A6 h0⟩
    ·repeat'((first|(refine A2 (x:=c) ng (by omega) ?_)|refine A1 hf ?_|refine A1 mm ?_|(refine B3 ?_ ?_;kernel_rfl) |refine S2 ?_|(refine T6 ?_ ?_<;>intro h<;>try exact V1 h)|intro el lU lV|intro el lU|exact T4|refine T5 ?_ ?_|intro ex)<;>try conv=>whnf)
     all_goals first
      |(exfalso;omega)
      |exact⟨(j+1,false),⟨by dsimp only;omega,by dsimp only;rw[nW];rfl⟩,by dsimp only;omega,A9 h0 rfl ⟨rfl,rfl,rfl,rfl,rfl,rfl,congrArg (fun z:Bool=>some (AV.b z)) (by simp[hv]),rfl,trivial⟩ ⟨rfl,rfl,rfl,⟨_,rfl⟩,trivial⟩ rfl rfl rfl⟩
   ·rw[decide_eq_false hv,Bool.or_false]at nW
    cases ok
    ·repeat'((first|(refine A2 (x:=c) ng (by omega) ?_)|refine A1 hf ?_|refine A1 mm ?_|(refine B3 ?_ ?_;kernel_rfl) |refine S2 ?_|(refine T6 ?_ ?_<;>intro h<;>try exact V1 h)|intro el lU lV|intro el lU|exact T4|refine T5 ?_ ?_|intro ex)<;>try conv=>whnf)
     all_goals first
      |(exfalso;omega)
      |exact⟨(j+1,false),⟨by dsimp only;omega,by dsimp only;rw[nW];rfl⟩,by dsimp only;omega,A6 h0⟩
    ·repeat'((first|(refine A2 (x:=c) ng (by omega) ?_)|refine A1 hf ?_|refine A1 mm ?_|(refine B3 ?_ ?_;kernel_rfl) |refine S2 ?_|(refine T6 ?_ ?_<;>intro h<;>try exact V1 h)|intro el lU lV|intro el lU|exact T4|refine T5 ?_ ?_|intro ex)<;>try conv=>whnf)
     all_goals first
      |(exfalso;omega)
      |exact⟨(j+1,true),⟨by dsimp only;omega,by dsimp only;rw[nW];rfl⟩,by dsimp only;omega,A9 h0 rfl ⟨rfl,rfl,rfl,rfl,rfl,rfl,congrArg (fun z:Bool=>some (AV.b z)) (by simp[hv]),rfl,trivial⟩ ⟨rfl,rfl,rfl,⟨_,rfl⟩,trivial⟩ rfl rfl rfl⟩
  ·have hT:(b0 && cols.all fun c=>!BV r c)=f:=by
    cases f with
    |true =>
     rw[List.take_of_length_le (by
      have:¬j<cols.length:=fun h=>hgo ⟨h,rfl⟩
      omega)]at i2
     exact i2.symm
    |false =>
     cases b0 with
     |false=>rfl
     |true=>rw[Bool.true_and]at i2 ⊢;exact jr i2.symm
   rw[hT]at lh
   clear hT i2
   cases f
   ·rw[if_neg (by decide),List.append_nil]at lh
    repeat'((first|refine S2 ?_|(refine T6 ?_ ?_<;>intro h<;>try exact V1 h)|intro el lU lV|intro el lU|exact T4|refine T5 ?_ ?_|intro ex)<;>try conv=>whnf)
    all_goals first
     |(exfalso;omega)
     |exact⟨k+1,by omega,by omega,A9 h0 rfl ⟨rfl,rfl,rfl,rfl,congrArg (fun z:Nat=>some (AV.row 3 0 z)) (by rw[lh]),rfl,trivial⟩ ⟨rfl,rfl,rfl,⟨_,congrArg (C6.row 3 1 _) (by rw[lh])⟩,trivial⟩ rfl rfl rfl⟩
   ·rw[if_pos rfl]at lh
    have hjn:¬j<cols.length:=fun h=>hgo ⟨h,rfl⟩
    repeat'((first|refine S2 ?_|(refine T6 ?_ ?_<;>intro h<;>try exact V1 h)|intro el lU lV|intro el lU|exact T4|refine T5 ?_ ?_|intro ex)<;>try conv=>whnf)
    all_goals first
     |(exfalso;omega)
     |exact⟨k+1,by omega,by omega,A9 h0 rfl ⟨rfl,rfl,rfl,rfl,congrArg (fun z:Nat=>some (AV.row 3 0 z)) (by rw[lh];simp[L9]),rfl,trivial⟩ ⟨rfl,rfl,rfl,⟨_,congrArg (C6.row 3 1 _) (by rw[lh,List.map_append];rfl)⟩,trivial⟩ rfl rfl rfl⟩
 ·have he:rows.take k=rows:=List.take_of_length_le (by omega)
  rw[he]
  repeat'((first|refine S2 ?_|(refine T6 ?_ ?_<;>intro h<;>try exact V1 h)|intro el lU lV|intro el lU|exact T4|refine T5 ?_ ?_|intro ex)<;>try conv=>whnf)
  all_goals first
   |(exfalso;omega)
   |exact A0 rfl rfl
theorem Ju{p q:List Int→Bool}{f:Int→Bool}:∀(k:Nat) (l:List (List Int)),(∀(j:Nat) r,l[j]?=some r→f ((k+j:Nat):Int)=q r)→(P8 p k l).filter f=P8 (fun r=>p r && q r) k l
 |_,[],_=>rfl
 |k,r::t,h=>by
  have h0:=h 0 r rfl
  have ih:=Ju (p:=p) (q:=q) (f:=f) (k+1) t fun j r hj=>by rw[show k+1+j=k+(j+1) by omega];exact h (j+1) r hj
  rw[Nat.add_zero]at h0
  unfold P8
  cases hp:p r with
  |false=>simpa using ih
  |true =>
   rw[if_pos rfl,List.filter_cons,h0,ih]
   simp
theorem Ga{p q:List Int→Bool}:∀(k:Nat) (l:List (List Int)),(∀r∈l,p r=q r)→P8 p k l=P8 q k l
 |_,[],_=>rfl
 |k,r::t,h=>by
  unfold P8
  rw[h r (List.mem_cons_self ..),Ga (k+1) t fun x hx=>h x (List.mem_cons_of_mem _ hx)]
theorem OG{p:List Int→Bool}:∀(k:Nat) (l:List (List Int)),(∀r∈l,p r=false)→P8 p k l=[]
 |_,[],_=>rfl
 |k,r::t,h=>by
  unfold P8
  rw[h r (List.mem_cons_self ..),if_neg (by decide),OG (k+1) t fun x hx=>h x (List.mem_cons_of_mem _ hx)]
theorem dr(s:A4)(picks:List Pk)(cols:List Int)(r:List Int):(cols.all fun c=>!GU s picks r c)=!GV s picks cols r:=by
 unfold GV
 induction cols with
 |nil=>rfl
 |cons a t ih=>rw[List.all_cons,List.any_cons,ih,Bool.not_or]
theorem js{s:A4}(hd:E7 s)(x:N5)(cnd:B1)(cols:List Int):UK s x cnd cols=X8 s x cnd cols:=by
 unfold UK X8
 by_cases hx:¬P6 s x=0
 ·rw[if_pos hx,if_pos hx]
 rw[if_neg hx,if_neg hx]
 obtain⟨hr,hp,mf,ll⟩:=BN (Decidable.of_not_not hx)
 have hc:∀r∈x.rows,IK s x.picks cnd cols r=((decide (K7 s cnd=0∧q8 x.picks (K6 s cnd)=true) && Ja s cnd x.picks r) && !GV s x.picks cols r):=fun r hm=>by
  obtain⟨k,hk⟩:=List.getElem?_of_mem hm
  have hl:=V4 (ll k r hk)
  unfold IK
  rw[←gw hd,dr]
  congr 1
  unfold Xs Ja
  by_cases h:K7 s cnd=0∧q8 x.picks (K6 s cnd)=true
  ·rw[if_pos ⟨h.1,hp,by rw[List.length_tail];omega,h.2⟩,decide_eq_true h,Bool.true_and]
  ·rw[if_neg (fun hh=>h ⟨hh.1,hh.2.2.2⟩),decide_eq_false h]
   rfl
 rw[Ga 0 x.rows hc]
 unfold Dh
 by_cases h:K7 s cnd=0∧q8 x.picks (K6 s cnd)=true
 ·rw[if_pos h,decide_eq_true h]
  rw[Ju (q:=fun r=>!GV s x.picks cols r) 0 x.rows fun j r hj=>by
   rw[Nat.zero_add,show ((j:Int)).toNat=j from rfl,E4 hj]]
  exact Ga 0 x.rows fun r _=>by rw[Bool.true_and]
 ·rw[if_neg h,decide_eq_false h]
  exact OG 0 x.rows fun r _=>by simp
end Go.Proofs.YtiphlhoclaogjaaGreatDoor

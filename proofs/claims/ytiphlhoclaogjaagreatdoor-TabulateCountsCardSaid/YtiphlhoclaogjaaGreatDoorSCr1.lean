/- Chapter 5: the reference's level that decides. -/
import Derived.Test.YtiphlhoclaogjaaGreatDoorSC3
import Derived.Test.YtiphlhoclaogjaaGreatDoorSCe9
import Derived.Test.YtiphlhoclaogjaaGreatDoorSB15
import Derived.Test.YtiphlhoclaogjaaGreatDoorSTa2
import Derived.Test.YtiphlhoclaogjaaGreatDoorSCe3
import Derived.Test.YtiphlhoclaogjaaGreatDoorSTc0
import Derived.Test.YtiphlhoclaogjaaGreatDoorSB14
set_option linter.unusedVariables false
set_option linter.unnecessarySimpa false
set_option linter.unusedSimpArgs false
set_option maxHeartbeats 64000000
namespace Go.Proofs.YtiphlhoclaogjaaGreatDoor
open Go Go.Av
attribute [local irreducible] C7 B2 D3 C9 DQ D0 C8 St.le A3 B9
set_option maxRecDepth 100000
theorem dp{s:A4}{a:B1}{level:Int}(hr:C3 s=0)(ha:H9 s a=0)(h2:a.op=2)(h0:0≤level)(h1:level≤E5 s a.col):X6 s a level=divB (M1 s a) (G2 s a.col level) ((F9 s a.col).map fun n:Nat=>(n:Int)):=by
 obtain⟨x,hx,c1,c2,q2,_⟩:=q9 hr ha (.inl h2)
 obtain⟨hk,_⟩:=q2 h2
 have oe:∀v∈F9 s a.col,G2 s a.col level v=L2 (C2 s (C0 s a.col)).1 (C2 s (C0 s a.col)).2 v level:=fun v hv=>by
  rw[C1 hx]
  exact(FM hr c1 hx hk h0 (by rw[B7,if_pos hr];exact h1) hv).1
 unfold X6
 rw[if_pos h2,Bool.eq_iff_iff,decide_eq_true_iff,TN]
 constructor
 ·intro h u hu v hv hne e
  obtain⟨u',oo,rfl⟩:=List.mem_map.1 hu
  obtain⟨v',mj,rfl⟩:=List.mem_map.1 hv
  rw[oe u' oo,oe v' mj]at e
  exact hne (h u' oo v' mj e)
 ·intro h u hu v hv e
  refine Classical.byContradiction fun hne=>?_
  refine h u (List.mem_map.2 ⟨u,hu,rfl⟩) v (List.mem_map.2 ⟨v,hv,rfl⟩) hne ?_
  rw[oe u hu,oe v hv]
  exact e
theorem Ye(s:A4)(a:B1)(level:Int)(hr:C3 s=0)(ha:H9 s a=0)(h2:a.op=2)(xA:0≤level)(sf:level≤E5 s a.col):A3 Tryz.prog 185 [sA s,E0 a,.i level] (.b (X6 s a level)):=by
 obtain⟨x,hx,c1,c2,q2,_⟩:=q9 hr ha (.inl h2)
 obtain⟨hk,nL,mO,hf⟩:=q2 h2
 rw[dp hr ha h2 xA sf]
 have oy:=fun v=>IJ s a v (.inl h2) (EE hr ha)
 have tg:=fun v=>w8 s a.col level v
 have nz:A3 Tryz.prog 138 [sA s,.i a.col] (.sl 1 (((F9 s a.col).map fun n:Nat=>(n:Int)).map wA)) :=
  (Af s a.col (by omega) hx ⟨nL,mO⟩).congr (congrArg (AV.sl 1) (by rw[List.map_map];rfl))
 have xl:=AH (C2 s (C0 s a.col)).1 (C2 s (C0 s a.col)).2 (C4 (C2 s (C0 s a.col)).1 (C2 s (C0 s a.col)).2-1)
 have rj:((F9 s a.col).map fun n:Nat=>(n:Int)).length≤9223372036854775807:=by
  rw[List.length_map]
  have hc:chk (C2 s x).1 (C2 s x).2=0:=(D5 hr).2.2.1 _ (by unfold C2;rw[List.getD_eq_getElem?_getD,List.getElem?_eq_getElem (by omega)];exact List.getElem_mem _)
  have:=BF hc
  rw[C1 hx]at xl
  unfold F9
  rw[C1 hx]
  omega
 generalize ((F9 s a.col).map fun n:Nat=>(n:Int))=al at *
 rw[F7]at *
 refine B6 Tryz.func185 140 fun lW E h0=>?_
 clear lW
 repeat'((first|(refine A2 (x:=x) hx (by omega) ?_)|refine A1 nz ?_ |refine S2 ?_|(refine T6 ?_ ?_<;>intro h<;>try exact V1 h)|intro el lU lV|intro el lU|exact T4|refine T5 ?_ ?_|intro ex)<;>try conv=>whnf)
 refine B0 (ι:=Nat) (fun k=>⟨[(2,.i level),(3,.ref 0 0),(4,.ref 1 0),(8,.sl 1 (al.map wA)),(9,.i k)],3,[(0,some (.box (sL s))),(1,some (.box (M8 a)))]⟩) (fun k=>k≤al.length∧DN (M1 s a) (G2 s a.col level) al k 0) (fun k=>al.length-k) 0 ⟨Nat.zero_le _,DN.zero _ _ _⟩ (A6 h0) (fun k hI=>?_)
 obtain⟨nr,hI⟩:=hI
 repeat'((first|refine S2 ?_|(refine T6 ?_ ?_<;>intro h<;>try exact V1 h)|intro el lU lV|intro el lU|exact T4|refine T5 ?_ ?_|intro ex)<;>try conv=>whnf)
 ·refine B0 (ι:=Nat) (fun j=>⟨[(2,.i level),(3,.ref 0 0),(4,.ref 1 0),(8,.sl 1 (al.map wA)),(9,.i k),(10,.i j)],3,[(0,some (.box (sL s))),(1,some (.box (M8 a)))]⟩) (fun j=>j≤k∧DN (M1 s a) (G2 s a.col level) al k j) (fun j=>k-j) 0 ⟨Nat.zero_le _,hI⟩ (A6 h0) (fun j hJ=>?_)
  obtain⟨tL,hJ⟩:=hJ
  repeat'((first|refine A1 (tg _) ?_|refine A1 (oy _) ?_ |refine S2 ?_|(refine T6 ?_ ?_<;>intro h<;>try exact V1 h)|intro el lU lV|intro el lU|exact T4|refine T5 ?_ ?_|intro ex)<;>try conv=>whnf)
  all_goals first
   |exact A0 rfl (congrArg AV.b (DN.hit (i:=k) (k:=j) (by assumption) (by assumption) (by assumption) (UH (by assumption) (by assumption))).symm)
   |exact⟨j+1,⟨by omega,hJ.step (by assumption) (by assumption) (UJ (by assumption))⟩,by omega,A6 h0⟩
   |exact⟨j+1,⟨by omega,hJ.step (by assumption) (by assumption) (UI (Decidable.of_not_not (by assumption)))⟩,by omega,A6 h0⟩
   |exact⟨k+1,⟨by omega,hJ.next (by assumption)⟩,by omega,A6 h0⟩
 all_goals first
  |exact A0 rfl (congrArg AV.b (hI.done (by assumption)).symm)
theorem Yf(s:A4)(a:B1)(level:Int)(hr:C3 s=0)(ha:H9 s a=0)(ho:a.op=3∨a.op=4)(xA:0≤level)(sf:level≤E5 s a.col):A3 Tryz.prog 185 [sA s,E0 a,.i level] (.b (X6 s a level)):=by
 obtain⟨x,hx,c1,c2,_,q2,q3,q4⟩:=q9 hr ha (.inr ho)
 obtain⟨hk,hm,hf⟩:=q2 (by omega)
 rw[hf]at sf
 have hp:=T0 hm
 have oK:¬level=0→1≤A7 x level∧A7 x level≤1000000:=fun h=>a7 hp.2.2.2.2.2 (by omega) sf
 have qG:¬level=0→A3 Tryz.prog 151 [S9 x,.i level] (.i (A7 x level)):=fun h=>Bv x level (by omega) sf
 rw[F7]at *
 by_cases h4:a.op=4
 ·rw[Ln h4]
  refine B6 Tryz.func185 140 fun lW E h0=>?_
  clear lW
  repeat'((first|(refine A2 (x:=x) hx (by omega) ?_) |refine S2 ?_|(refine T6 ?_ ?_<;>intro h<;>try exact V1 h)|intro el lU lV|intro el lU|exact T4|refine T5 ?_ ?_|intro ex)<;>try conv=>whnf)
  all_goals first
   |exact A0 rfl rfl
 have h3:a.op=3:=by omega
 have xF:=q3 h3
 rw[Lo h3 hx]
 refine B6 Tryz.func185 140 fun lW E h0=>?_
 clear lW
 repeat'((first|(refine A2 (x:=x) hx (by omega) ?_)|refine A1 (qG (by assumption)) ?_|(refine I4 ?_ ?_;(have:=oK (by assumption);omega))|(refine B3 ?_ ?_;kernel_rfl) |refine S2 ?_|(refine T6 ?_ ?_<;>intro h<;>try exact V1 h)|intro el lU lV|intro el lU|exact T4|refine T5 ?_ ?_|intro ex)<;>try conv=>whnf)
 all_goals (refine A0 rfl (congrArg AV.b (Bool.eq_iff_iff.2 ?_));simp only[decide_eq_true_iff,Bool.not_eq_true',decide_eq_false_iff_not,true_iff,false_iff,Bool.false_eq_true,Bool.not_false,Bool.not_true];unfold GS)
 all_goals first
  |(rw[if_pos (by assumption:level=0),(by assumption:x.opt=false)];simp only[true_and];omega)
  |(rw[if_pos (by assumption:level=0),(by assumption:x.opt=true)];simp;done)
  |(rw[if_neg (by assumption:¬level=0)];omega)
  |(clear h0;trace_state)
theorem bI(s:A4)(a:B1)(level:Int)(hr:C3 s=0)(ha:H9 s a=0)(ho:a.op=2∨a.op=3∨a.op=4)(h0:0≤level)(h1:level≤E5 s a.col):A3 Tryz.prog 185 [sA s,E0 a,.i level] (.b (X6 s a level)):=by
 by_cases h2:a.op=2
 ·exact Ye s a level hr ha h2 h0 h1
 ·exact Yf s a level hr ha (by omega) h0 h1
theorem GZ(s:A4)(c:B1):A3 Tryz.prog 132 [sA s,E0 c] (.sl 2 ((K6 s c).map B4)):=by
 have mT:=x9 s c
 unfold K6
 by_cases qO:K7 s c=0
 ·rw[if_pos qO]
  obtain⟨hr,ht,hd,mz⟩:=o3 qO
  have tK:=VU c (by omega)
  have lX:=Gr c
  have hn:=(D5 hr).2.1
  have qD:=Ft c mz
  rw[F7]at *
  generalize hA:k0 c=A at *
  refine B6 Tryz.func132 40 fun lW E h0=>?_
  clear lW
  repeat'((first|refine A1 mT ?_|refine A1 tK ?_ |refine S2 ?_|(refine T6 ?_ ?_<;>intro h<;>try exact V1 h)|intro el lU lV|intro el lU|exact T4|refine T5 ?_ ?_|intro ex)<;>try conv=>whnf)
  all_goals first
   |exact absurd qO (by assumption)
   |skip
  refine B0 (ι:=Nat) (fun k=>⟨[(2,.ref 0 0),(3,.ref 1 0),(5,.sl 2 ((L1 (At s (A.take k)) 0 s.cols.length).map B4)),(6,.sl 6 (A.map I6)),(7,.i k)],2,[(0,some (.box (sL s))),(1,some (.box (M8 c)))]⟩)
   (fun k=>k≤A.length) (fun k=>A.length-k) 0 (Nat.zero_le _)
   (B5 (SD (d:=5) (sz:=2) rfl) (A9 h0 rfl ⟨rfl,rfl,congrArg (fun z=>some (AV.sl 2 z)) (by rw[List.take_zero,gG,QJ];rfl),rfl,rfl,trivial⟩ ⟨rfl,rfl,trivial⟩ rfl rfl rfl)) (fun k hk=>?_)
  by_cases lY:k<A.length
  ·obtain⟨el,lU⟩:∃el,A[k]?=some el:=⟨_,List.getElem?_eq_getElem lY⟩
   obtain⟨r1,r2⟩:=qD el (List.mem_of_getElem? lU)
   obtain⟨l1,l2,l3⟩:=QI hr r1 r2
   obtain⟨x,hx,c1,c2,_⟩:=q9 hr r1 r2
   have lr:=Oh hr el.col
   repeat'((first|(refine A2 (x:=el) lU (by omega) ?_) |refine S2 ?_|(refine T6 ?_ ?_<;>intro h<;>try exact V1 h)|intro el lU lV|intro el lU|exact T4|refine T5 ?_ ?_|intro ex)<;>try conv=>whnf)
   all_goals first
    |(exfalso;omega)
    |skip
   refine B0 (ι:=Nat) (fun j=>⟨[(2,.ref 0 0),(3,.ref 1 0),(5,.sl 2 ((L1 (At s (A.take k)) 0 s.cols.length).map B4)),(6,.sl 6 (A.map I6)),(7,.i k),(8,.i j)],2,[(0,some (.box (sL s))),(1,some (.box (M8 c)))]⟩)
    (fun j=>j≤BH s el) (fun j=>BH s el-j) 0 (Nat.zero_le _) (A6 h0) (fun j hj=>?_)
   have hc:=bI s el j hr r1 r2 (by omega) (by omega)
   by_cases hs:X6 s el j=true
   ·obtain rfl:j=BH s el:=Classical.byContradiction fun hne=>by have:=l3 j (by omega);rw[hs]at this;cases this
    rw[hs]at hc
    have nY:=Ag (At s (A.take k)) s.cols.length 0
    have uH:=(AU (L1 (At s (A.take k)) 0 s.cols.length) el.col (BH s el) (by omega)).congr (congrArg (fun z=>AV.sl 2 (List.map B4 z)) (aG (lv:=At s (A.take k)) (by omega) (by omega) (by omega) fun i=>aH s i _))
    repeat'((first|(refine A2 (x:=el) lU (by omega) ?_)|refine A1 hc ?_|refine A1 uH ?_ |refine S2 ?_|(refine T6 ?_ ?_<;>intro h<;>try exact V1 h)|intro el lU lV|intro el lU|exact T4|refine T5 ?_ ?_|intro ex)<;>try conv=>whnf)
    all_goals first
     |exact⟨k+1,by omega,by omega,A9 h0 rfl ⟨rfl,rfl,congrArg (fun z=>some (AV.sl 2 (List.map B4 z))) (by rw[TA lU]),rfl,rfl,trivial⟩ ⟨rfl,rfl,trivial⟩ rfl rfl rfl⟩
   ·have lh:X6 s el j=false:=by simpa using hs
    have oq:j<BH s el:=Nat.lt_of_le_of_ne hj fun e=>by rw[e,l2]at lh;cases lh
    rw[lh]at hc
    repeat'((first|(refine A2 (x:=el) lU (by omega) ?_)|refine A1 hc ?_ |refine S2 ?_|(refine T6 ?_ ?_<;>intro h<;>try exact V1 h)|intro el lU lV|intro el lU|exact T4|refine T5 ?_ ?_|intro ex)<;>try conv=>whnf)
    all_goals first
     |exact⟨j+1,by omega,by omega,A6 h0⟩
  ·obtain rfl:k=A.length:=by omega
   rw[List.take_length]
   repeat'((first|refine S2 ?_|(refine T6 ?_ ?_<;>intro h<;>try exact V1 h)|intro el lU lV|intro el lU|exact T4|refine T5 ?_ ?_|intro ex)<;>try conv=>whnf)
   all_goals first
    |exact A0 rfl rfl
    |(exfalso;omega)
 ·rw[if_neg qO]
  rw[F7]at *
  refine B6 Tryz.func132 40 fun lW E h0=>?_
  clear lW
  repeat'((first|refine A1 mT ?_ |refine S2 ?_|(refine T6 ?_ ?_<;>intro h<;>try exact V1 h)|intro el lU lV|intro el lU|exact T4|refine T5 ?_ ?_|intro ex)<;>try conv=>whnf)
  all_goals first
   |exact u4 (sz:=2) rfl rfl
   |(exfalso;contradiction)
theorem dq{s:A4}(hr:C3 s=0){column:Int}{c:D4}(hc:s.cols[column.toNat]?=some c)(hl:0≤c.lst∧c.lst<s.lists.length):(F9 s column).length≤1000000:=by
 obtain⟨lx,mZ⟩:∃l,s.lists[c.lst.toNat]?=some l:=⟨_,List.getElem?_eq_getElem (by omega)⟩
 have mT:chk lx.1 lx.2=0:=(D5 hr).2.2.1 _ (List.mem_of_getElem? mZ)
 have h1:=BF mT
 unfold F9
 rw[C1 hc,H8 mZ]
 have:=AH lx.1 lx.2 (C4 lx.1 lx.2-1)
 omega
theorem Yg(s:A4)(hr:C3 s=0)(column level v:Int)(c:D4)(h1:1≤column)(hc:s.cols[column.toNat]?=some c)(h3:0≤level)(h4:level≤B7 s column):A3 Tryz.prog 187 [sA s,.i column,.i level,.i v] (.i (AZ s column level v)):=by
 obtain⟨hk,hm⟩:=KU hr h1 hc
 unfold AZ
 rw[C1 hc]
 by_cases lg:c.kind=2
 ·rw[if_pos lg]
  have hl:=AY.lst hr (List.mem_of_getElem? hc) lg
  have nz:=Af s column (by omega) hc (by omega)
  have hL:=dq hr hc (by omega)
  have oe:=fun x:Int=>w8 s column level x
  generalize F9 s column=L at *
  generalize G2 s column level=f at *
  refine B6 Tryz.func187 62 fun lW E h0=>?_
  clear lW
  repeat'((first|(refine A2 (x:=c) hc (by omega) ?_)|refine A1 nz ?_ |refine S2 ?_|(refine T6 ?_ ?_<;>intro h<;>try exact V1 h)|intro el lU lV|intro el lU|exact T4|refine T5 ?_ ?_|intro ex)<;>try conv=>whnf)
  all_goals first
   |(exfalso;omega)
   |skip
  refine B0 (ι:=Nat) (fun k=>⟨[(1,.i column),(2,.i level),(3,.i v),(4,.ref 0 0),(10,.sl 1 (L.map iA)),(11,.i k)],1,[(0,some (.box (sL s)))]⟩)
   (fun k=>k≤L.length∧Z6 (fun x:Nat=>f x) v L=Z6 (fun x:Nat=>f x) v (L.drop k)) (fun k=>L.length-k) 0 ⟨Nat.zero_le _,rfl⟩
   (A6 h0) (fun k hI=>?_)
  obtain⟨nr,hI⟩:=hI
  repeat'((first|refine A1 (oe _) ?_ |refine S2 ?_|(refine T6 ?_ ?_<;>intro h<;>try exact V1 h)|intro el lU lV|intro el lU|exact T4|refine T5 ?_ ?_|intro ex)<;>try conv=>whnf)
  all_goals first
   |exact A0 rfl (congrArg AV.i (by rw[hI,G3 lU,Z6,if_pos h];first|done|rfl))
   |exact A0 rfl (congrArg AV.i (by rw[hI,S6 (by assumption)];rfl))
   |exact⟨k+1,⟨by omega,by rw[hI,G3 lU,Z6,if_neg h]⟩,by omega,A6 h0⟩
 ·rw[if_neg lg]
  have mX:level≤c.widths.length:=by
   rw[B7,if_pos hr]at h4
   exact WK hr h1 hc h4 (by omega)
  have qK:=Ho c level v (hm (by omega)) h3 mX
  generalize M9 c level v=B at *
  obtain⟨b1,b2,b3⟩:=B
  refine B6 Tryz.func187 62 fun lW E h0=>?_
  clear lW
  repeat'((first|(refine A2 (x:=c) hc (by omega) ?_)|refine A1 qK ?_ |refine S2 ?_|(refine T6 ?_ ?_<;>intro h<;>try exact V1 h)|intro el lU lV|intro el lU|exact T4|refine T5 ?_ ?_|intro ex)<;>try conv=>whnf)
  all_goals first
   |(exfalso;omega)
   |exact A0 rfl (congrArg AV.i (by rw[if_pos ⟨by omega,by omega⟩]))
   |exact A0 rfl (congrArg AV.i (by rw[if_neg (by omega)]))
theorem bJ(s:A4)(hr:C3 s=0)(picks:List Pk)(values:List Int)(hp:I5 s picks=0)(hl:values.length=picks.length)(c:B1):X4 s c=0→A3 Tryz.prog 133 [sA s,E0 c,.sl 2 (picks.map B4),.sl 1 (values.map wA)] (.i (Js s c (picks.zip values))):=by
 refine N1 (p:=fun c=>X4 s c=0→A3 Tryz.prog 133 [sA s,E0 c,.sl 2 (picks.map B4),.sl 1 (values.map wA)] (.i (Js s c (picks.zip values)))) (fun c ih h=>?_) c
 obtain⟨h1,h2⟩:=Cz h
 obtain⟨p1,p2,p3,_⟩:=AJ h1
 obtain⟨k1,k2,k3⟩:=Gs c.op
 have hg:∀a,-1≤M1 s a (AZ s a.col (M3 a.col (picks.zip values)).1 (M3 a.col (picks.zip values)).2)∧M1 s a (AZ s a.col (M3 a.col (picks.zip values)).1 (M3 a.col (picks.zip values)).2)≤1:=fun a=>Lm _ _ _
 by_cases ho:c.op=2∨c.op=3∨c.op=4
 ·have oy:=fun v=>IJ s c v ho (EE hr h1)
  obtain⟨x,hx,c1,c2,_⟩:=q9 hr h1 ho
  have lr:=(WH hr h1 ho).2
  have sw:B7 s c.col=E5 s c.col:=by rw[B7,if_pos hr]
  have nz:0≤(M3 c.col (picks.zip values)).1∧(M3 c.col (picks.zip values)).1≤B7 s c.col:=by
   rcases TR c.col (picks.zip values)with ⟨g1,_⟩|⟨q,hq,g1,g2⟩
   ·rw[g1];dsimp only;omega
   ·obtain⟨k,hk⟩:=List.getElem?_of_mem (List.of_mem_zip (show (q.1,q.2)∈_ from hq)).1
    have:=z8 hp k _ hk
    rw[g2,sw]
    dsimp only
    rw[g1]at this
    omega
  have wn:=Yg s hr c.col (M3 c.col (picks.zip values)).1 (M3 c.col (picks.zip values)).2 x c1 hx nz.1 nz.2
  have oR:Js s c (picks.zip values)=M1 s c (AZ s c.col (M3 c.col (picks.zip values)).1 (M3 c.col (picks.zip values)).2):=by
   unfold Js
   rw[Dd]
   unfold W6
   rw[if_neg (by omega),if_neg (by omega),if_neg (by omega),if_neg (by omega)]
  rw[oR]
  have mE:∀(k:Nat) p v,picks[k]?=some p→values[k]?=some v→M3 c.col ((picks.zip values).take (k+1))=if p.col=c.col then (p.lev,v)else M3 c.col ((picks.zip values).take k):=fun k p v hp hv=>by
   rw[H6 (KO hp hv),Nk]
  have nR:(picks.zip values).take picks.length=picks.zip values:=List.take_of_length_le (by rw[List.length_zip];omega)
  rw[F7]at *
  refine B6 Tryz.func133 82 fun lW E h0=>?_
  have nY:picks.length≤9223372036854775807:=by have:=(lW (.sl 2 (picks.map B4)) (by simp)).sl;simpa using this
  clear lW
  repeat'((first|(refine B3 ?_ ?_;kernel_rfl) |refine S2 ?_|(refine T6 ?_ ?_<;>intro h<;>try exact V1 h)|intro el lU lV|intro el lU|exact T4|refine T5 ?_ ?_|intro ex)<;>try conv=>whnf)
  all_goals first
   |(exfalso;omega)
   |skip
  all_goals refine B0 (ι:=Nat) (fun k=>⟨[(2,.sl 2 (picks.map B4)),(3,.sl 1 (values.map wA)),(4,.ref 0 0),(5,.ref 1 0),(9,.i (M3 c.col ((picks.zip values).take k)).1),(10,.i (M3 c.col ((picks.zip values).take k)).2),(11,.i k)],2,[(0,some (.box (sL s))),(1,some (.box (M8 c)))]⟩) (fun k=>k≤picks.length) (fun k=>picks.length-k) 0 (Nat.zero_le _) (A6 h0) (fun k hk=>?_)
  all_goals by_cases lY:k<picks.length
  all_goals first
   |(obtain⟨p,oI⟩:∃p,picks[k]?=some p:=⟨_,List.getElem?_eq_getElem lY⟩
     obtain⟨v,qo⟩:∃v,values[k]?=some v:=⟨_,List.getElem?_eq_getElem (by omega)⟩
     have hn:=mE k p v oI qo
     repeat'((first|(refine A2 (x:=p) oI (by omega) ?_)|(refine A2 (x:=v) qo (by omega) ?_)|(refine B3 ?_ ?_;kernel_rfl) |refine S2 ?_|(refine T6 ?_ ?_<;>intro h<;>try exact V1 h)|intro el lU lV|intro el lU|exact T4|refine T5 ?_ ?_|intro ex)<;>try conv=>whnf)
     all_goals first
      |exact⟨k+1,by omega,by omega,A9 h0 rfl ⟨rfl,rfl,rfl,rfl,(by rw[hn,if_pos (by assumption)];rfl),(by rw[hn,if_pos (by assumption)];rfl),rfl,trivial⟩ ⟨rfl,rfl,trivial⟩ rfl rfl rfl⟩
      |exact⟨k+1,by omega,by omega,A9 h0 rfl ⟨rfl,rfl,rfl,rfl,(by rw[hn,if_neg (by assumption)];rfl),(by rw[hn,if_neg (by assumption)];rfl),rfl,trivial⟩ ⟨rfl,rfl,trivial⟩ rfl rfl rfl⟩
      |(exfalso;omega)
      |trace_state)
   |(obtain rfl:k=picks.length:=by omega
     rw[nR]
     repeat'((first|refine A1 wn ?_|refine A1 (oy _) ?_|(refine B3 ?_ ?_;kernel_rfl) |refine S2 ?_|(refine T6 ?_ ?_<;>intro h<;>try exact V1 h)|intro el lU lV|intro el lU|exact T4|refine T5 ?_ ?_|intro ex)<;>try conv=>whnf)
     all_goals first
      |exact A0 rfl rfl
      |(exfalso;omega)
      |trace_state)
 ·unfold Js
  rw[Qi _ c ho p1]
  have qz:=OE c.op (c.kids.map (U2 fun a=>M1 s a (AZ s a.col (M3 a.col (picks.zip values)).1 (M3 a.col (picks.zip values)).2))) (fun h=>by rw[List.length_map];have:=k1 h;omega) (fun h=>by rw[List.length_map];have:=k2 h;omega) (fun v hv=>by
   obtain⟨k,_,rfl⟩:=List.mem_map.1 hv
   exact Om hg k)
  have rP:∀k,k∈c.kids→A3 Tryz.prog 133 [sA s,E0 k,.sl 2 (picks.map B4),.sl 1 (values.map wA)] (.i (U2 (fun a=>M1 s a (AZ s a.col (M3 a.col (picks.zip values)).1 (M3 a.col (picks.zip values)).2)) k)):=fun k hk=>ih k hk (h2 k hk)
  generalize (U2 fun a=>M1 s a (AZ s a.col (M3 a.col (picks.zip values)).1 (M3 a.col (picks.zip values)).2))=T at *
  rw[F7]at *
  refine B6 Tryz.func133 82 fun lW E h0=>?_
  have lX:c.kids.length≤9223372036854775807:=by
   have:=((lW (.agg (M8 c)) (by simp)).agg (.sl 6 (c.kids.map I6)) (by simp)).sl
   simpa using this
  clear lW
  repeat'((first|(refine B3 ?_ ?_;kernel_rfl) |refine S2 ?_|(refine T6 ?_ ?_<;>intro h<;>try exact V1 h)|intro el lU lV|intro el lU|exact T4|refine T5 ?_ ?_|intro ex)<;>try conv=>whnf)
  all_goals first
   |(exfalso;omega)
   |skip
  refine B0 (ι:=Nat) (fun k=>⟨[(2,.sl 2 (picks.map B4)),(3,.sl 1 (values.map wA)),(4,.ref 0 0),(5,.ref 1 0),(12,.row 2 0 k),(13,.i k)],3,[(0,some (.box (sL s))),(1,some (.box (M8 c))),(2,some (.row 3 1 0 (((c.kids.take k).map T).map wA)))]⟩) (fun k=>k≤c.kids.length) (fun k=>c.kids.length-k) 0 (Nat.zero_le _)
   (B5 (I9 (d:=12) (e:=3) (sz:=1) rfl) (A9 h0 rfl ⟨rfl,rfl,rfl,rfl,rfl,rfl,trivial⟩ ⟨rfl,rfl,⟨0,rfl⟩,trivial⟩ rfl rfl rfl)) (fun k hk=>?_)
  by_cases lY:k<c.kids.length
  ·obtain⟨el,lU⟩:∃el,c.kids[k]?=some el:=⟨_,List.getElem?_eq_getElem lY⟩
   have nt:=rP el (List.mem_of_getElem? lU)
   repeat'((first|(refine A2 (x:=el) lU (by omega) ?_)|(refine F6 13 ?_;refine G9 (id:=13) ⟨[(2,.sl 2 (picks.map B4)),(3,.sl 1 (values.map wA)),(4,.ref 0 0),(5,.ref 1 0),(12,.row 2 0 (k+1)),(13,.i k)],3,[(0,some (.box (sL s))),(1,some (.box (M8 c))),(2,some (.row 3 1 0 (((c.kids.take (k+1)).map T).map wA)))]⟩ ?_ ?_)|refine A1 nt ?_ |refine S2 ?_|(refine T6 ?_ ?_<;>intro h<;>try exact V1 h)|intro el lU lV|intro el lU|exact T4|refine T5 ?_ ?_|intro ex)<;>try conv=>whnf)
   all_goals first
    |exact A9 h0 rfl ⟨rfl,rfl,rfl,rfl,rfl,rfl,trivial⟩ ⟨rfl,rfl,⟨_,congrArg (C6.row 3 1 _) (by rw[H6 lU,List.map_append,List.map_append];rfl)⟩,trivial⟩ rfl rfl rfl
    |exact⟨k+1,by omega,by omega,A6 h0⟩
  ·obtain rfl:k=c.kids.length:=by omega
   rw[List.take_length]
   repeat'((first|refine J1 2 ?_|refine A1 qz ?_ |refine S2 ?_|(refine T6 ?_ ?_<;>intro h<;>try exact V1 h)|intro el lU lV|intro el lU|exact T4|refine T5 ?_ ?_|intro ex)<;>try conv=>whnf)
   all_goals first
    |exact A0 rfl rfl
theorem Yh(s:A4)(c:B1)(picks:List Pk)(values:List Int):A3 Tryz.prog 72 [sA s,E0 c,.sl 2 (picks.map B4),.sl 1 (values.map wA)] (.i (II s c picks values)):=by
 have h1:=x9 s c
 have h2:=Dw s picks
 have h3:=GZ s c
 have h4:=Jt (K6 s c) picks
 have h5:=fun p v=>Lv s (Pk.col p) (Pk.lev p) v
 have h6:¬K7 s c≠0→¬I5 s picks≠0→values.length=picks.length→A3 Tryz.prog 133 [sA s,E0 c,.sl 2 (picks.map B4),.sl 1 (values.map wA)] (.i (Js s c (picks.zip values))):=fun a b e =>
  have a:=Decidable.of_not_not a
  bJ s (o3 a).1 picks values (Decidable.of_not_not b) e c (o3 a).2.2.2
 unfold II
 generalize q8 picks (K6 s c)=V at *
 rw[F7]at *
 refine B6 Tryz.func72 63 fun lW E h0=>?_
 have nY:picks.length≤9223372036854775807:=by have:=(lW (.sl 2 (picks.map B4)) (by simp)).sl;simpa using this
 clear lW
 repeat'((first|refine A1 h1 ?_|refine A1 h2 ?_|refine A1 h3 ?_|refine A1 h4 ?_ |refine S2 ?_|(refine T6 ?_ ?_<;>intro h<;>try exact V1 h)|intro el lU lV|intro el lU|exact T4|refine T5 ?_ ?_|intro ex)<;>try conv=>whnf)
 all_goals first
  |(refine A0 rfl (congrArg AV.i ?_);rw[if_neg (fun hh=>by first|(have:=hh.1;omega)|(have:=hh.2.1;omega)|(have:=hh.2.2.1;omega)|(have:=hh.2.2.2;simp_all;done))];done)
  |skip
 have lX:values.length=picks.length:=by omega
 rw[if_pos ⟨by omega,by omega,lX,by assumption⟩]
 have h6:=h6 (by assumption) (by assumption) lX
 refine B0 (ι:=Nat) (fun k=>⟨[(2,.sl 2 (picks.map B4)),(3,.sl 1 (values.map wA)),(4,.ref 0 0),(5,.ref 1 0),(9,.i k)],2,[(0,some (.box (sL s))),(1,some (.box (M8 c)))]⟩) (fun k=>k≤picks.length∧Jr s ((picks.zip values).take k)=true) (fun k=>picks.length-k) 0 ⟨Nat.zero_le _,rfl⟩
  (A6 h0) (fun k hI=>?_)
 obtain⟨hk,hI⟩:=hI
 by_cases lY:k<picks.length
 ·obtain⟨p,oI⟩:∃p,picks[k]?=some p:=⟨_,List.getElem?_eq_getElem lY⟩
  obtain⟨v,qo⟩:∃v,values[k]?=some v:=⟨_,List.getElem?_eq_getElem (by omega)⟩
  have nt:=h5 p v
  have hz:=KO oI qo
  repeat'((first|(refine A2 (x:=p) oI (by omega) ?_)|(refine A2 (x:=v) qo (by omega) ?_)|refine A1 nt ?_ |refine S2 ?_|(refine T6 ?_ ?_<;>intro h<;>try exact V1 h)|intro el lU lV|intro el lU|exact T4|refine T5 ?_ ?_|intro ex)<;>try conv=>whnf)
  all_goals first
   |exact⟨k+1,⟨by omega,dE hz hI (by assumption)⟩,by omega,A6 h0⟩
   |exact A0 rfl (congrArg AV.i (by rw[if_neg (fun hh=>by have:=KV (p:=fun q:Pk×Int=>w9 s q.1.col q.1.lev q.2) hz (by assumption);unfold Jr at hh;rw[this]at hh;cases hh)]))
   |(exfalso;omega)
 ·obtain rfl:k=picks.length:=by omega
  rw[List.take_of_length_le (by rw[List.length_zip];omega)]at hI
  repeat'((first|refine A1 h6 ?_ |refine S2 ?_|(refine T6 ?_ ?_<;>intro h<;>try exact V1 h)|intro el lU lV|intro el lU|exact T4|refine T5 ?_ ?_|intro ex)<;>try conv=>whnf)
  all_goals first
   |exact A0 rfl (congrArg AV.i (by rw[if_pos hI]))
   |(exfalso;omega)
end Go.Proofs.YtiphlhoclaogjaaGreatDoor

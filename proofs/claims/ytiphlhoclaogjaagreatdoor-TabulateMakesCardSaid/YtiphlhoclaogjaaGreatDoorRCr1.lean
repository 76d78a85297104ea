/- Chapter 5: the reference's needs of a condition. -/
import Derived.Test.YtiphlhoclaogjaaGreatDoorRCe3
import Derived.Test.YtiphlhoclaogjaaGreatDoorRCe7
import Derived.Test.YtiphlhoclaogjaaGreatDoorRCe9
import Derived.Test.YtiphlhoclaogjaaGreatDoorRTc0
import Derived.Test.YtiphlhoclaogjaaGreatDoorRNm1
set_option linter.unusedVariables false
set_option linter.unnecessarySimpa false
set_option linter.unusedSimpArgs false
set_option maxHeartbeats 64000000
namespace Go.Proofs.YtiphlhoclaogjaaGreatDoor
open Go Go.Av
attribute [local irreducible] C9 B3 C7 D1 DQ D0 C6 St.le A3 B7
set_option maxRecDepth 100000
theorem bG(s:A4)(a:B6)(level:Int)(hr:C3 s=0)(ha:I0 s a=0)(ho:a.op=2∨a.op=3∨a.op=4)(h0:0≤level)(h1:level≤E5 s a.col):A3 Tryz.prog 185 [sA s,D5 a,.i level] (.b (a7 s a level)):=by
 by_cases h2:a.op=2
 ·exact Ya s a level hr ha h2 h0 h1
 ·exact Yb s a level hr ha (by omega) h0 h1
theorem Dg(s:A4)(c:B6):A3 Tryz.prog 132 [sA s,D5 c] (.sl 2 ((I1 s c).map A8)):=by
 have nM:=X9 s c
 unfold I1
 by_cases qa:J6 s c=0
 ·rw[if_pos qa]
  obtain⟨hr,ht,hd,nJ⟩:=o0 qa
  have un:=VO c (by omega)
  have mL:=Gi c
  have hn:=(D3 hr).2.1
  have qy:=Fl c nJ
  rw[F8]at *
  generalize hA:k0 c=A at *
  refine B5 Tryz.func132 40 fun mK E h0=>?_
  clear mK
  repeat'((first|refine A0 nM ?_|refine A0 un ?_ |refine S2 ?_|(refine T6 ?_ ?_<;>intro h<;>try exact V1 h)|intro el mI mJ|intro el mI|exact T4|refine T5 ?_ ?_|intro ex)<;>try conv=>whnf)
  all_goals first
   |exact absurd qa (by assumption)
   |skip
  refine A9 (ι:=Nat) (fun k=>⟨[(2,.ref 0 0),(3,.ref 1 0),(5,.sl 2 ((K5 (AZ s (A.take k)) 0 s.cols.length).map A8)),(6,.sl 6 (A.map I8)),(7,.i k)],2,[(0,some (.box (sL s))),(1,some (.box (M8 c)))]⟩)
   (fun k=>k≤A.length) (fun k=>A.length-k) 0 (Nat.zero_le _)
   (B9 (ZQ (d:=5) (sz:=2) rfl) (A7 h0 rfl ⟨rfl,rfl,congrArg (fun z=>some (AV.sl 2 z)) (by rw[List.take_zero,gU,JJ];rfl),rfl,rfl,trivial⟩ ⟨rfl,rfl,trivial⟩ rfl rfl rfl)) (fun k hk=>?_)
  by_cases mM:k<A.length
  ·obtain⟨el,mI⟩:∃el,A[k]?=some el:=⟨_,List.getElem?_eq_getElem mM⟩
   obtain⟨r1,r2⟩:=qy el (List.mem_of_getElem? mI)
   obtain⟨l1,l2,l3⟩:=QC hr r1 r2
   obtain⟨x,hx,c1,c2,_⟩:=q9 hr r1 r2
   have md:=OY hr el.col
   repeat'((first|(refine A2 (x:=el) mI (by omega) ?_) |refine S2 ?_|(refine T6 ?_ ?_<;>intro h<;>try exact V1 h)|intro el mI mJ|intro el mI|exact T4|refine T5 ?_ ?_|intro ex)<;>try conv=>whnf)
   all_goals first
    |(exfalso;omega)
    |skip
   refine A9 (ι:=Nat) (fun j=>⟨[(2,.ref 0 0),(3,.ref 1 0),(5,.sl 2 ((K5 (AZ s (A.take k)) 0 s.cols.length).map A8)),(6,.sl 6 (A.map I8)),(7,.i k),(8,.i j)],2,[(0,some (.box (sL s))),(1,some (.box (M8 c)))]⟩)
    (fun j=>j≤Ap s el) (fun j=>Ap s el-j) 0 (Nat.zero_le _) (A6 h0) (fun j hj=>?_)
   have hc:=bG s el j hr r1 r2 (by omega) (by omega)
   by_cases hs:a7 s el j=true
   ·obtain rfl:j=Ap s el:=Classical.byContradiction fun hne=>by have:=l3 j (by omega);rw[hs]at this;cases this
    rw[hs]at hc
    have ob:=r8 (AZ s (A.take k)) s.cols.length 0
    have uo:=(z6 (K5 (AZ s (A.take k)) 0 s.cols.length) el.col (Ap s el) (by omega)).congr (congrArg (fun z=>AV.sl 2 (List.map A8 z)) (QD (lv:=AZ s (A.take k)) (by omega) (by omega) (by omega) fun i=>aG s i _))
    repeat'((first|(refine A2 (x:=el) mI (by omega) ?_)|refine A0 hc ?_|refine A0 uo ?_ |refine S2 ?_|(refine T6 ?_ ?_<;>intro h<;>try exact V1 h)|intro el mI mJ|intro el mI|exact T4|refine T5 ?_ ?_|intro ex)<;>try conv=>whnf)
    all_goals first
     |exact⟨k+1,by omega,by omega,A7 h0 rfl ⟨rfl,rfl,congrArg (fun z=>some (AV.sl 2 (List.map A8 z))) (by rw[Sw mI]),rfl,rfl,trivial⟩ ⟨rfl,rfl,trivial⟩ rfl rfl rfl⟩
   ·have mR:a7 s el j=false:=by simpa using hs
    have pP:j<Ap s el:=Nat.lt_of_le_of_ne hj fun e=>by rw[e,l2]at mR;cases mR
    rw[mR]at hc
    repeat'((first|(refine A2 (x:=el) mI (by omega) ?_)|refine A0 hc ?_ |refine S2 ?_|(refine T6 ?_ ?_<;>intro h<;>try exact V1 h)|intro el mI mJ|intro el mI|exact T4|refine T5 ?_ ?_|intro ex)<;>try conv=>whnf)
    all_goals first
     |exact⟨j+1,by omega,by omega,A6 h0⟩
  ·obtain rfl:k=A.length:=by omega
   rw[List.take_length]
   repeat'((first|refine S2 ?_|(refine T6 ?_ ?_<;>intro h<;>try exact V1 h)|intro el mI mJ|intro el mI|exact T4|refine T5 ?_ ?_|intro ex)<;>try conv=>whnf)
   all_goals first
    |exact A1 rfl rfl
    |(exfalso;omega)
 ·rw[if_neg qa]
  rw[F8]at *
  refine B5 Tryz.func132 40 fun mK E h0=>?_
  clear mK
  repeat'((first|refine A0 nM ?_ |refine S2 ?_|(refine T6 ?_ ?_<;>intro h<;>try exact V1 h)|intro el mI mJ|intro el mI|exact T4|refine T5 ?_ ?_|intro ex)<;>try conv=>whnf)
  all_goals first
   |exact l5 (sz:=2) rfl rfl
   |(exfalso;contradiction)
theorem dz{s:A4}(hr:C3 s=0){column:Int}{c:D4}(hc:s.cols[column.toNat]?=some c)(hl:0≤c.lst∧c.lst<s.lists.length):(F9 s column).length≤1000000:=by
 obtain⟨lx,nA⟩:∃l,s.lists[c.lst.toNat]?=some l:=⟨_,List.getElem?_eq_getElem (by omega)⟩
 have nM:chk lx.1 lx.2=0:=(D3 hr).2.2.1 _ (List.mem_of_getElem? nA)
 have h1:=An nM
 unfold F9
 rw[C1 hc,H6 nA]
 have:=x9 lx.1 lx.2 (C5 lx.1 lx.2-1)
 omega
theorem Yc(s:A4)(hr:C3 s=0)(column level v:Int)(c:D4)(h1:1≤column)(hc:s.cols[column.toNat]?=some c)(h3:0≤level)(h4:level≤B4 s column):A3 Tryz.prog 187 [sA s,.i column,.i level,.i v] (.i (z9 s column level v)):=by
 obtain⟨hk,hm⟩:=KH hr h1 hc
 unfold z9
 rw[C1 hc]
 by_cases mW:c.kind=2
 ·rw[if_pos mW]
  have hl:=z8.lst hr (List.mem_of_getElem? hc) mW
  have oV:=AF s column (by omega) hc (by omega)
  have hL:=dz hr hc (by omega)
  have pk:=fun x:Int=>u6 s column level x
  generalize F9 s column=L at *
  generalize G2 s column level=f at *
  refine B5 Tryz.func187 62 fun mK E h0=>?_
  clear mK
  repeat'((first|(refine A2 (x:=c) hc (by omega) ?_)|refine A0 oV ?_ |refine S2 ?_|(refine T6 ?_ ?_<;>intro h<;>try exact V1 h)|intro el mI mJ|intro el mI|exact T4|refine T5 ?_ ?_|intro ex)<;>try conv=>whnf)
  all_goals first
   |(exfalso;omega)
   |skip
  refine A9 (ι:=Nat) (fun k=>⟨[(1,.i column),(2,.i level),(3,.i v),(4,.ref 0 0),(10,.sl 1 (L.map iA)),(11,.i k)],1,[(0,some (.box (sL s)))]⟩)
   (fun k=>k≤L.length∧d9 (fun x:Nat=>f x) v L=d9 (fun x:Nat=>f x) v (L.drop k)) (fun k=>L.length-k) 0 ⟨Nat.zero_le _,rfl⟩
   (A6 h0) (fun k hI=>?_)
  obtain⟨oX,hI⟩:=hI
  repeat'((first|refine A0 (pk _) ?_ |refine S2 ?_|(refine T6 ?_ ?_<;>intro h<;>try exact V1 h)|intro el mI mJ|intro el mI|exact T4|refine T5 ?_ ?_|intro ex)<;>try conv=>whnf)
  all_goals first
   |exact A1 rfl (congrArg AV.i (by rw[hI,G1 mI,d9,if_pos h];first|done|rfl))
   |exact A1 rfl (congrArg AV.i (by rw[hI,T0 (by assumption)];rfl))
   |exact⟨k+1,⟨by omega,by rw[hI,G1 mI,d9,if_neg h]⟩,by omega,A6 h0⟩
 ·rw[if_neg mW]
  have nT:level≤c.widths.length:=by
   rw[B4,if_pos hr]at h4
   exact WI hr h1 hc h4 (by omega)
  have rC:=Hj c level v (hm (by omega)) h3 nT
  generalize M9 c level v=B at *
  obtain⟨b1,b2,b3⟩:=B
  refine B5 Tryz.func187 62 fun mK E h0=>?_
  clear mK
  repeat'((first|(refine A2 (x:=c) hc (by omega) ?_)|refine A0 rC ?_ |refine S2 ?_|(refine T6 ?_ ?_<;>intro h<;>try exact V1 h)|intro el mI mJ|intro el mI|exact T4|refine T5 ?_ ?_|intro ex)<;>try conv=>whnf)
  all_goals first
   |(exfalso;omega)
   |exact A1 rfl (congrArg AV.i (by rw[if_pos ⟨by omega,by omega⟩]))
   |exact A1 rfl (congrArg AV.i (by rw[if_neg (by omega)]))
theorem bH(s:A4)(hr:C3 s=0)(picks:List Pk)(values:List Int)(hp:I7 s picks=0)(hl:values.length=picks.length)(c:B6):Z9 s c=0→A3 Tryz.prog 133 [sA s,D5 c,.sl 2 (picks.map A8),.sl 1 (values.map wA)] (.i (Jf s c (picks.zip values))):=by
 refine N4 (p:=fun c=>Z9 s c=0→A3 Tryz.prog 133 [sA s,D5 c,.sl 2 (picks.map A8),.sl 1 (values.map wA)] (.i (Jf s c (picks.zip values)))) (fun c ih h=>?_) c
 obtain⟨h1,h2⟩:=Ci h
 obtain⟨p1,p2,p3,_⟩:=y6 h1
 obtain⟨k1,k2,k3⟩:=Gj c.op
 have hg:∀a,-1≤M2 s a (z9 s a.col (M4 a.col (picks.zip values)).1 (M4 a.col (picks.zip values)).2)∧M2 s a (z9 s a.col (M4 a.col (picks.zip values)).1 (M4 a.col (picks.zip values)).2)≤1:=fun a=>Ld _ _ _
 by_cases ho:c.op=2∨c.op=3∨c.op=4
 ·have pC:=fun v=>Hu s c v ho (Ds hr h1)
  obtain⟨x,hx,c1,c2,_⟩:=q9 hr h1 ho
  have md:=(WF hr h1 ho).2
  have uU:B4 s c.col=E5 s c.col:=by rw[B4,if_pos hr]
  have oV:0≤(M4 c.col (picks.zip values)).1∧(M4 c.col (picks.zip values)).1≤B4 s c.col:=by
   rcases TN c.col (picks.zip values)with ⟨g1,_⟩|⟨q,hq,g1,g2⟩
   ·rw[g1];dsimp only;omega
   ·obtain⟨k,hk⟩:=List.getElem?_of_mem (List.of_mem_zip (show (q.1,q.2)∈_ from hq)).1
    have:=w5 hp k _ hk
    rw[g2,uU]
    dsimp only
    rw[g1]at this
    omega
  have zK:=Yc s hr c.col (M4 c.col (picks.zip values)).1 (M4 c.col (picks.zip values)).2 x c1 hx oV.1 oV.2
  have pS:Jf s c (picks.zip values)=M2 s c (z9 s c.col (M4 c.col (picks.zip values)).1 (M4 c.col (picks.zip values)).2):=by
   unfold Jf
   rw[DN]
   unfold Y8
   rw[if_neg (by omega),if_neg (by omega),if_neg (by omega),if_neg (by omega)]
  rw[pS]
  have mq:∀(k:Nat) p v,picks[k]?=some p→values[k]?=some v→M4 c.col ((picks.zip values).take (k+1))=if p.col=c.col then (p.lev,v)else M4 c.col ((picks.zip values).take k):=fun k p v hp hv=>by
   rw[E7 (KC hp hv),NX]
  have nt:(picks.zip values).take picks.length=picks.zip values:=List.take_of_length_le (by rw[List.length_zip];omega)
  rw[F8]at *
  refine B5 Tryz.func133 82 fun mK E h0=>?_
  have ob:picks.length≤9223372036854775807:=by have:=(mK (.sl 2 (picks.map A8)) (by simp)).sl;simpa using this
  clear mK
  repeat'((first|(refine B0 ?_ ?_;kernel_rfl) |refine S2 ?_|(refine T6 ?_ ?_<;>intro h<;>try exact V1 h)|intro el mI mJ|intro el mI|exact T4|refine T5 ?_ ?_|intro ex)<;>try conv=>whnf)
  all_goals first
   |(exfalso;omega)
   |skip
  all_goals refine A9 (ι:=Nat) (fun k=>⟨[(2,.sl 2 (picks.map A8)),(3,.sl 1 (values.map wA)),(4,.ref 0 0),(5,.ref 1 0),(9,.i (M4 c.col ((picks.zip values).take k)).1),(10,.i (M4 c.col ((picks.zip values).take k)).2),(11,.i k)],2,[(0,some (.box (sL s))),(1,some (.box (M8 c)))]⟩) (fun k=>k≤picks.length) (fun k=>picks.length-k) 0 (Nat.zero_le _) (A6 h0) (fun k hk=>?_)
  all_goals by_cases mM:k<picks.length
  all_goals first
   |(obtain⟨p,oY⟩:∃p,picks[k]?=some p:=⟨_,List.getElem?_eq_getElem mM⟩
     obtain⟨v,sF⟩:∃v,values[k]?=some v:=⟨_,List.getElem?_eq_getElem (by omega)⟩
     have hn:=mq k p v oY sF
     repeat'((first|(refine A2 (x:=p) oY (by omega) ?_)|(refine A2 (x:=v) sF (by omega) ?_)|(refine B0 ?_ ?_;kernel_rfl) |refine S2 ?_|(refine T6 ?_ ?_<;>intro h<;>try exact V1 h)|intro el mI mJ|intro el mI|exact T4|refine T5 ?_ ?_|intro ex)<;>try conv=>whnf)
     all_goals first
      |exact⟨k+1,by omega,by omega,A7 h0 rfl ⟨rfl,rfl,rfl,rfl,(by rw[hn,if_pos (by assumption)];rfl),(by rw[hn,if_pos (by assumption)];rfl),rfl,trivial⟩ ⟨rfl,rfl,trivial⟩ rfl rfl rfl⟩
      |exact⟨k+1,by omega,by omega,A7 h0 rfl ⟨rfl,rfl,rfl,rfl,(by rw[hn,if_neg (by assumption)];rfl),(by rw[hn,if_neg (by assumption)];rfl),rfl,trivial⟩ ⟨rfl,rfl,trivial⟩ rfl rfl rfl⟩
      |(exfalso;omega)
      |trace_state)
   |(obtain rfl:k=picks.length:=by omega
     rw[nt]
     repeat'((first|refine A0 zK ?_|refine A0 (pC _) ?_|(refine B0 ?_ ?_;kernel_rfl) |refine S2 ?_|(refine T6 ?_ ?_<;>intro h<;>try exact V1 h)|intro el mI mJ|intro el mI|exact T4|refine T5 ?_ ?_|intro ex)<;>try conv=>whnf)
     all_goals first
      |exact A1 rfl rfl
      |(exfalso;omega)
      |trace_state)
 ·unfold Jf
  rw[Qc _ c ho p1]
  have sn:=Nv c.op (c.kids.map (U7 fun a=>M2 s a (z9 s a.col (M4 a.col (picks.zip values)).1 (M4 a.col (picks.zip values)).2))) (fun h=>by rw[List.length_map];have:=k1 h;omega) (fun h=>by rw[List.length_map];have:=k2 h;omega) (fun v hv=>by
   obtain⟨k,_,rfl⟩:=List.mem_map.1 hv
   exact Od hg k)
  have sG:∀k,k∈c.kids→A3 Tryz.prog 133 [sA s,D5 k,.sl 2 (picks.map A8),.sl 1 (values.map wA)] (.i (U7 (fun a=>M2 s a (z9 s a.col (M4 a.col (picks.zip values)).1 (M4 a.col (picks.zip values)).2)) k)):=fun k hk=>ih k hk (h2 k hk)
  generalize (U7 fun a=>M2 s a (z9 s a.col (M4 a.col (picks.zip values)).1 (M4 a.col (picks.zip values)).2))=T at *
  rw[F8]at *
  refine B5 Tryz.func133 82 fun mK E h0=>?_
  have mL:c.kids.length≤9223372036854775807:=by
   have:=((mK (.agg (M8 c)) (by simp)).agg (.sl 6 (c.kids.map I8)) (by simp)).sl
   simpa using this
  clear mK
  repeat'((first|(refine B0 ?_ ?_;kernel_rfl) |refine S2 ?_|(refine T6 ?_ ?_<;>intro h<;>try exact V1 h)|intro el mI mJ|intro el mI|exact T4|refine T5 ?_ ?_|intro ex)<;>try conv=>whnf)
  all_goals first
   |(exfalso;omega)
   |skip
  refine A9 (ι:=Nat) (fun k=>⟨[(2,.sl 2 (picks.map A8)),(3,.sl 1 (values.map wA)),(4,.ref 0 0),(5,.ref 1 0),(12,.row 2 0 k),(13,.i k)],3,[(0,some (.box (sL s))),(1,some (.box (M8 c))),(2,some (.row 3 1 0 (((c.kids.take k).map T).map wA)))]⟩) (fun k=>k≤c.kids.length) (fun k=>c.kids.length-k) 0 (Nat.zero_le _)
   (B9 (H7 (d:=12) (e:=3) (sz:=1) rfl) (A7 h0 rfl ⟨rfl,rfl,rfl,rfl,rfl,rfl,trivial⟩ ⟨rfl,rfl,⟨0,rfl⟩,trivial⟩ rfl rfl rfl)) (fun k hk=>?_)
  by_cases mM:k<c.kids.length
  ·obtain⟨el,mI⟩:∃el,c.kids[k]?=some el:=⟨_,List.getElem?_eq_getElem mM⟩
   have ol:=sG el (List.mem_of_getElem? mI)
   repeat'((first|(refine A2 (x:=el) mI (by omega) ?_)|(refine E6 13 ?_;refine F3 (id:=13) ⟨[(2,.sl 2 (picks.map A8)),(3,.sl 1 (values.map wA)),(4,.ref 0 0),(5,.ref 1 0),(12,.row 2 0 (k+1)),(13,.i k)],3,[(0,some (.box (sL s))),(1,some (.box (M8 c))),(2,some (.row 3 1 0 (((c.kids.take (k+1)).map T).map wA)))]⟩ ?_ ?_)|refine A0 ol ?_ |refine S2 ?_|(refine T6 ?_ ?_<;>intro h<;>try exact V1 h)|intro el mI mJ|intro el mI|exact T4|refine T5 ?_ ?_|intro ex)<;>try conv=>whnf)
   all_goals first
    |exact A7 h0 rfl ⟨rfl,rfl,rfl,rfl,rfl,rfl,trivial⟩ ⟨rfl,rfl,⟨_,congrArg (C4.row 3 1 _) (by rw[E7 mI,List.map_append,List.map_append];rfl)⟩,trivial⟩ rfl rfl rfl
    |exact⟨k+1,by omega,by omega,A6 h0⟩
  ·obtain rfl:k=c.kids.length:=by omega
   rw[List.take_length]
   repeat'((first|refine I4 2 ?_|refine A0 sn ?_ |refine S2 ?_|(refine T6 ?_ ?_<;>intro h<;>try exact V1 h)|intro el mI mJ|intro el mI|exact T4|refine T5 ?_ ?_|intro ex)<;>try conv=>whnf)
   all_goals first
    |exact A1 rfl rfl
theorem Yd(s:A4)(c:B6)(picks:List Pk)(values:List Int):A3 Tryz.prog 72 [sA s,D5 c,.sl 2 (picks.map A8),.sl 1 (values.map wA)] (.i (Ht s c picks values)):=by
 have h1:=X9 s c
 have h2:=Df s picks
 have h3:=Dg s c
 have h4:=v6 (I1 s c) picks
 have h5:=fun p v=>Lm s (Pk.col p) (Pk.lev p) v
 have h6:¬J6 s c≠0→¬I7 s picks≠0→values.length=picks.length→A3 Tryz.prog 133 [sA s,D5 c,.sl 2 (picks.map A8),.sl 1 (values.map wA)] (.i (Jf s c (picks.zip values))):=fun a b e =>
  have a:=Decidable.of_not_not a
  bH s (o0 a).1 picks values (Decidable.of_not_not b) e c (o0 a).2.2.2
 unfold Ht
 generalize X5 picks (I1 s c)=V at *
 rw[F8]at *
 refine B5 Tryz.func72 63 fun mK E h0=>?_
 have ob:picks.length≤9223372036854775807:=by have:=(mK (.sl 2 (picks.map A8)) (by simp)).sl;simpa using this
 clear mK
 repeat'((first|refine A0 h1 ?_|refine A0 h2 ?_|refine A0 h3 ?_|refine A0 h4 ?_ |refine S2 ?_|(refine T6 ?_ ?_<;>intro h<;>try exact V1 h)|intro el mI mJ|intro el mI|exact T4|refine T5 ?_ ?_|intro ex)<;>try conv=>whnf)
 all_goals first
  |(refine A1 rfl (congrArg AV.i ?_);rw[if_neg (fun hh=>by first|(have:=hh.1;omega)|(have:=hh.2.1;omega)|(have:=hh.2.2.1;omega)|(have:=hh.2.2.2;simp_all;done))];done)
  |skip
 have mL:values.length=picks.length:=by omega
 rw[if_pos ⟨by omega,by omega,mL,by assumption⟩]
 have h6:=h6 (by assumption) (by assumption) mL
 refine A9 (ι:=Nat) (fun k=>⟨[(2,.sl 2 (picks.map A8)),(3,.sl 1 (values.map wA)),(4,.ref 0 0),(5,.ref 1 0),(9,.i k)],2,[(0,some (.box (sL s))),(1,some (.box (M8 c)))]⟩) (fun k=>k≤picks.length∧Je s ((picks.zip values).take k)=true) (fun k=>picks.length-k) 0 ⟨Nat.zero_le _,rfl⟩
  (A6 h0) (fun k hI=>?_)
 obtain⟨hk,hI⟩:=hI
 by_cases mM:k<picks.length
 ·obtain⟨p,oY⟩:∃p,picks[k]?=some p:=⟨_,List.getElem?_eq_getElem mM⟩
  obtain⟨v,sF⟩:∃v,values[k]?=some v:=⟨_,List.getElem?_eq_getElem (by omega)⟩
  have ol:=h5 p v
  have hz:=KC oY sF
  repeat'((first|(refine A2 (x:=p) oY (by omega) ?_)|(refine A2 (x:=v) sF (by omega) ?_)|refine A0 ol ?_ |refine S2 ?_|(refine T6 ?_ ?_<;>intro h<;>try exact V1 h)|intro el mI mJ|intro el mI|exact T4|refine T5 ?_ ?_|intro ex)<;>try conv=>whnf)
  all_goals first
   |exact⟨k+1,⟨by omega,dK hz hI (by assumption)⟩,by omega,A6 h0⟩
   |exact A1 rfl (congrArg AV.i (by rw[if_neg (fun hh=>by have:=KI (p:=fun q:Pk×Int=>u7 s q.1.col q.1.lev q.2) hz (by assumption);unfold Je at hh;rw[this]at hh;cases hh)]))
   |(exfalso;omega)
 ·obtain rfl:k=picks.length:=by omega
  rw[List.take_of_length_le (by rw[List.length_zip];omega)]at hI
  repeat'((first|refine A0 h6 ?_ |refine S2 ?_|(refine T6 ?_ ?_<;>intro h<;>try exact V1 h)|intro el mI mJ|intro el mI|exact T4|refine T5 ?_ ?_|intro ex)<;>try conv=>whnf)
  all_goals first
   |exact A1 rfl (congrArg AV.i (by rw[if_pos hI]))
   |(exfalso;omega)
end Go.Proofs.YtiphlhoclaogjaaGreatDoor

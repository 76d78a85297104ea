/- Chapter 5: the reference's needs of a condition. -/
import Derived.Test.YtiphlhoclaogjaaGreatDoorJCe3
import Derived.Test.YtiphlhoclaogjaaGreatDoorJCe7
import Derived.Test.YtiphlhoclaogjaaGreatDoorJCe9
import Derived.Test.YtiphlhoclaogjaaGreatDoorJTc0
import Derived.Test.YtiphlhoclaogjaaGreatDoorJRp2
set_option linter.unusedVariables false
set_option linter.unnecessarySimpa false
set_option linter.unusedSimpArgs false
set_option maxHeartbeats 64000000
namespace Go.Proofs.YtiphlhoclaogjaaGreatDoor
open Go Go.Av
attribute [local irreducible] C9 B3 C8 D1 DQ D0 C7 St.le A3 B8
set_option maxRecDepth 100000
theorem cH(s:A4)(a:B7)(level:Int)(hr:C3 s=0)(ha:H9 s a=0)(ho:a.op=2∨a.op=3∨a.op=4)(h0:0≤level)(h1:level≤E6 s a.col):A3 Tryz.prog 185 [sA s,D5 a,.i level] (.b (a8 s a level)):=by
 by_cases h2:a.op=2
 ·exact ZR s a level hr ha h2 h0 h1
 ·exact ZS s a level hr ha (by omega) h0 h1
theorem EX(s:A4)(c:B7):A3 Tryz.prog 132 [sA s,D5 c] (.sl 2 ((I3 s c).map A8)):=by
 have oO:=Y4 s c
 unfold I3
 by_cases rY:J6 s c=0
 ·rw[if_pos rY]
  obtain⟨hr,ht,hd,oN⟩:=u6 rY
  have vd:=WK c (by omega)
  have nM:=Hc c
  have hn:=(D2 hr).2.1
  have sV:=Ge c oN
  rw[F8]at *
  generalize hA:o6 c=A at *
  refine B5 Tryz.func132 40 fun nL E h0=>?_
  clear nL
  repeat'((first|refine A0 oO ?_|refine A0 vd ?_ |refine S2 ?_|(refine T6 ?_ ?_<;>intro h<;>try exact V1 h)|intro el nJ nK|intro el nJ|exact T4|refine T5 ?_ ?_|intro ex)<;>try conv=>whnf)
  all_goals first
   |exact absurd rY (by assumption)
   |skip
  refine B0 (ι:=Nat) (fun k=>⟨[(2,.ref 0 0),(3,.ref 1 0),(5,.sl 2 ((K7 (BS s (A.take k)) 0 s.cols.length).map A8)),(6,.sl 6 (A.map K0)),(7,.i k)],2,[(0,some (.box (sL s))),(1,some (.box (M9 c)))]⟩)
   (fun k=>k≤A.length) (fun k=>A.length-k) 0 (Nat.zero_le _)
   (C0 (aG (d:=5) (sz:=2) rfl) (A7 h0 rfl ⟨rfl,rfl,congrArg (fun z=>some (AV.sl 2 z)) (by rw[List.take_zero,ib,KA];rfl),rfl,rfl,trivial⟩ ⟨rfl,rfl,trivial⟩ rfl rfl rfl)) (fun k hk=>?_)
  by_cases nN:k<A.length
  ·obtain⟨el,nJ⟩:∃el,A[k]?=some el:=⟨_,List.getElem?_eq_getElem nN⟩
   obtain⟨r1,r2⟩:=sV el (List.mem_of_getElem? nJ)
   obtain⟨l1,l2,l3⟩:=Qz hr r1 r2
   obtain⟨x,hx,c1,c2,_⟩:=x9 hr r1 r2
   have ng:=Pb hr el.col
   repeat'((first|(refine A2 (x:=el) nJ (by omega) ?_) |refine S2 ?_|(refine T6 ?_ ?_<;>intro h<;>try exact V1 h)|intro el nJ nK|intro el nJ|exact T4|refine T5 ?_ ?_|intro ex)<;>try conv=>whnf)
   all_goals first
    |(exfalso;omega)
    |skip
   refine B0 (ι:=Nat) (fun j=>⟨[(2,.ref 0 0),(3,.ref 1 0),(5,.sl 2 ((K7 (BS s (A.take k)) 0 s.cols.length).map A8)),(6,.sl 6 (A.map K0)),(7,.i k),(8,.i j)],2,[(0,some (.box (sL s))),(1,some (.box (M9 c)))]⟩)
    (fun j=>j≤Bk s el) (fun j=>Bk s el-j) 0 (Nat.zero_le _) (A6 h0) (fun j hj=>?_)
   have hc:=cH s el j hr r1 r2 (by omega) (by omega)
   by_cases hs:a8 s el j=true
   ·obtain rfl:j=Bk s el:=Classical.byContradiction fun hne=>by have:=l3 j (by omega);rw[hs]at this;cases this
    rw[hs]at hc
    have pk:=y8 (BS s (A.take k)) s.cols.length 0
    have wR:=(Ar (K7 (BS s (A.take k)) 0 s.cols.length) el.col (Bk s el) (by omega)).congr (congrArg (fun z=>AV.sl 2 (List.map A8 z)) (RA (lv:=BS s (A.take k)) (by omega) (by omega) (by omega) fun i=>bH s i _))
    repeat'((first|(refine A2 (x:=el) nJ (by omega) ?_)|refine A0 hc ?_|refine A0 wR ?_ |refine S2 ?_|(refine T6 ?_ ?_<;>intro h<;>try exact V1 h)|intro el nJ nK|intro el nJ|exact T4|refine T5 ?_ ?_|intro ex)<;>try conv=>whnf)
    all_goals first
     |exact⟨k+1,by omega,by omega,A7 h0 rfl ⟨rfl,rfl,congrArg (fun z=>some (AV.sl 2 (List.map A8 z))) (by rw[Ts nJ]),rfl,rfl,trivial⟩ ⟨rfl,rfl,trivial⟩ rfl rfl rfl⟩
   ·have nS:a8 s el j=false:=by simpa using hs
    have qT:j<Bk s el:=Nat.lt_of_le_of_ne hj fun e=>by rw[e,l2]at nS;cases nS
    rw[nS]at hc
    repeat'((first|(refine A2 (x:=el) nJ (by omega) ?_)|refine A0 hc ?_ |refine S2 ?_|(refine T6 ?_ ?_<;>intro h<;>try exact V1 h)|intro el nJ nK|intro el nJ|exact T4|refine T5 ?_ ?_|intro ex)<;>try conv=>whnf)
    all_goals first
     |exact⟨j+1,by omega,by omega,A6 h0⟩
  ·obtain rfl:k=A.length:=by omega
   rw[List.take_length]
   repeat'((first|refine S2 ?_|(refine T6 ?_ ?_<;>intro h<;>try exact V1 h)|intro el nJ nK|intro el nJ|exact T4|refine T5 ?_ ?_|intro ex)<;>try conv=>whnf)
   all_goals first
    |exact A1 rfl rfl
    |(exfalso;omega)
 ·rw[if_neg rY]
  rw[F8]at *
  refine B5 Tryz.func132 40 fun nL E h0=>?_
  clear nL
  repeat'((first|refine A0 oO ?_ |refine S2 ?_|(refine T6 ?_ ?_<;>intro h<;>try exact V1 h)|intro el nJ nK|intro el nJ|exact T4|refine T5 ?_ ?_|intro ex)<;>try conv=>whnf)
  all_goals first
   |exact p8 (sz:=2) rfl rfl
   |(exfalso;contradiction)
theorem fL{s:A4}(hr:C3 s=0){column:Int}{c:D3}(hc:s.cols[column.toNat]?=some c)(hl:0≤c.lst∧c.lst<s.lists.length):(F9 s column).length≤1000000:=by
 obtain⟨lx,oD⟩:∃l,s.lists[c.lst.toNat]?=some l:=⟨_,List.getElem?_eq_getElem (by omega)⟩
 have oO:chk lx.1 lx.2=0:=(D2 hr).2.2.1 _ (List.mem_of_getElem? oD)
 have h1:=Bi oO
 unfold F9
 rw[B9 hc,H5 oD]
 have:=Ah lx.1 lx.2 (C5 lx.1 lx.2-1)
 omega
theorem ZT(s:A4)(hr:C3 s=0)(column level v:Int)(c:D3)(h1:1≤column)(hc:s.cols[column.toNat]?=some c)(h3:0≤level)(h4:level≤B4 s column):A3 Tryz.prog 187 [sA s,.i column,.i level,.i v] (.i (Au s column level v)):=by
 obtain⟨hk,hm⟩:=LC hr h1 hc
 unfold Au
 rw[B9 hc]
 by_cases nX:c.kind=2
 ·rw[if_pos nX]
  have hl:=At.lst hr (List.mem_of_getElem? hc) nX
  have pX:=BB s column (by omega) hc (by omega)
  have hL:=fL hr hc (by omega)
  have qk:=fun x:Int=>AN s column level x
  generalize F9 s column=L at *
  generalize G1 s column level=f at *
  refine B5 Tryz.func187 62 fun nL E h0=>?_
  clear nL
  repeat'((first|(refine A2 (x:=c) hc (by omega) ?_)|refine A0 pX ?_ |refine S2 ?_|(refine T6 ?_ ?_<;>intro h<;>try exact V1 h)|intro el nJ nK|intro el nJ|exact T4|refine T5 ?_ ?_|intro ex)<;>try conv=>whnf)
  all_goals first
   |(exfalso;omega)
   |skip
  refine B0 (ι:=Nat) (fun k=>⟨[(1,.i column),(2,.i level),(3,.i v),(4,.ref 0 0),(10,.sl 1 (L.map iA)),(11,.i k)],1,[(0,some (.box (sL s)))]⟩)
   (fun k=>k≤L.length∧j8 (fun x:Nat=>f x) v L=j8 (fun x:Nat=>f x) v (L.drop k)) (fun k=>L.length-k) 0 ⟨Nat.zero_le _,rfl⟩
   (A6 h0) (fun k hI=>?_)
  obtain⟨pd,hI⟩:=hI
  repeat'((first|refine A0 (qk _) ?_ |refine S2 ?_|(refine T6 ?_ ?_<;>intro h<;>try exact V1 h)|intro el nJ nK|intro el nJ|exact T4|refine T5 ?_ ?_|intro ex)<;>try conv=>whnf)
  all_goals first
   |exact A1 rfl (congrArg AV.i (by rw[hI,F7 nJ,j8,if_pos h];first|done|rfl))
   |exact A1 rfl (congrArg AV.i (by rw[hI,T8 (by assumption)];rfl))
   |exact⟨k+1,⟨by omega,by rw[hI,F7 nJ,j8,if_neg h]⟩,by omega,A6 h0⟩
 ·rw[if_neg nX]
  have oW:level≤c.widths.length:=by
   rw[B4,if_pos hr]at h4
   exact XA hr h1 hc h4 (by omega)
  have sJ:=Ij c level v (hm (by omega)) h3 oW
  generalize N2 c level v=B at *
  obtain⟨b1,b2,b3⟩:=B
  refine B5 Tryz.func187 62 fun nL E h0=>?_
  clear nL
  repeat'((first|(refine A2 (x:=c) hc (by omega) ?_)|refine A0 sJ ?_ |refine S2 ?_|(refine T6 ?_ ?_<;>intro h<;>try exact V1 h)|intro el nJ nK|intro el nJ|exact T4|refine T5 ?_ ?_|intro ex)<;>try conv=>whnf)
  all_goals first
   |(exfalso;omega)
   |exact A1 rfl (congrArg AV.i (by rw[if_pos ⟨by omega,by omega⟩]))
   |exact A1 rfl (congrArg AV.i (by rw[if_neg (by omega)]))
theorem cI(s:A4)(hr:C3 s=0)(picks:List Pk)(values:List Int)(hp:I7 s picks=0)(hl:values.length=picks.length)(c:B7):a6 s c=0→A3 Tryz.prog 133 [sA s,D5 c,.sl 2 (picks.map A8),.sl 1 (values.map wA)] (.i (Ka s c (picks.zip values))):=by
 refine N6 (p:=fun c=>a6 s c=0→A3 Tryz.prog 133 [sA s,D5 c,.sl 2 (picks.map A8),.sl 1 (values.map wA)] (.i (Ka s c (picks.zip values)))) (fun c ih h=>?_) c
 obtain⟨h1,h2⟩:=Dc h
 obtain⟨p1,p2,p3,_⟩:=Ai h1
 obtain⟨k1,k2,k3⟩:=Hd c.op
 have hg:∀a,-1≤M3 s a (Au s a.col (M5 a.col (picks.zip values)).1 (M5 a.col (picks.zip values)).2)∧M3 s a (Au s a.col (M5 a.col (picks.zip values)).1 (M5 a.col (picks.zip values)).2)≤1:=fun a=>Ma _ _ _
 by_cases ho:c.op=2∨c.op=3∨c.op=4
 ·have pt:=fun v=>Ix s c v ho (Ej hr h1)
  obtain⟨x,hx,c1,c2,_⟩:=x9 hr h1 ho
  have ng:=(Wx hr h1 ho).2
  have vN:B4 s c.col=E6 s c.col:=by rw[B4,if_pos hr]
  have pX:0≤(M5 c.col (picks.zip values)).1∧(M5 c.col (picks.zip values)).1≤B4 s c.col:=by
   rcases UJ c.col (picks.zip values)with ⟨g1,_⟩|⟨q,hq,g1,g2⟩
   ·rw[g1];dsimp only;omega
   ·obtain⟨k,hk⟩:=List.getElem?_of_mem (List.of_mem_zip (show (q.1,q.2)∈_ from hq)).1
    have:=Aa hp k _ hk
    rw[g2,vN]
    dsimp only
    rw[g1]at this
    omega
  have zQ:=ZT s hr c.col (M5 c.col (picks.zip values)).1 (M5 c.col (picks.zip values)).2 x c1 hx pX.1 pX.2
  have qS:Ka s c (picks.zip values)=M3 s c (Au s c.col (M5 c.col (picks.zip values)).1 (M5 c.col (picks.zip values)).2):=by
   unfold Ka
   rw[EF]
   unfold Y9
   rw[if_neg (by omega),if_neg (by omega),if_neg (by omega),if_neg (by omega)]
  rw[qS]
  have nt:∀(k:Nat) p v,picks[k]?=some p→values[k]?=some v→M5 c.col ((picks.zip values).take (k+1))=if p.col=c.col then (p.lev,v)else M5 c.col ((picks.zip values).take k):=fun k p v hp hv=>by
   rw[F1 (Kw hp hv),OW]
  have oz:(picks.zip values).take picks.length=picks.zip values:=List.take_of_length_le (by rw[List.length_zip];omega)
  rw[F8]at *
  refine B5 Tryz.func133 82 fun nL E h0=>?_
  have pk:picks.length≤9223372036854775807:=by have:=(nL (.sl 2 (picks.map A8)) (by simp)).sl;simpa using this
  clear nL
  repeat'((first|(refine A9 ?_ ?_;kernel_rfl) |refine S2 ?_|(refine T6 ?_ ?_<;>intro h<;>try exact V1 h)|intro el nJ nK|intro el nJ|exact T4|refine T5 ?_ ?_|intro ex)<;>try conv=>whnf)
  all_goals first
   |(exfalso;omega)
   |skip
  all_goals refine B0 (ι:=Nat) (fun k=>⟨[(2,.sl 2 (picks.map A8)),(3,.sl 1 (values.map wA)),(4,.ref 0 0),(5,.ref 1 0),(9,.i (M5 c.col ((picks.zip values).take k)).1),(10,.i (M5 c.col ((picks.zip values).take k)).2),(11,.i k)],2,[(0,some (.box (sL s))),(1,some (.box (M9 c)))]⟩) (fun k=>k≤picks.length) (fun k=>picks.length-k) 0 (Nat.zero_le _) (A6 h0) (fun k hk=>?_)
  all_goals by_cases nN:k<picks.length
  all_goals first
   |(obtain⟨p,qE⟩:∃p,picks[k]?=some p:=⟨_,List.getElem?_eq_getElem nN⟩
     obtain⟨v,tI⟩:∃v,values[k]?=some v:=⟨_,List.getElem?_eq_getElem (by omega)⟩
     have hn:=nt k p v qE tI
     repeat'((first|(refine A2 (x:=p) qE (by omega) ?_)|(refine A2 (x:=v) tI (by omega) ?_)|(refine A9 ?_ ?_;kernel_rfl) |refine S2 ?_|(refine T6 ?_ ?_<;>intro h<;>try exact V1 h)|intro el nJ nK|intro el nJ|exact T4|refine T5 ?_ ?_|intro ex)<;>try conv=>whnf)
     all_goals first
      |exact⟨k+1,by omega,by omega,A7 h0 rfl ⟨rfl,rfl,rfl,rfl,(by rw[hn,if_pos (by assumption)];rfl),(by rw[hn,if_pos (by assumption)];rfl),rfl,trivial⟩ ⟨rfl,rfl,trivial⟩ rfl rfl rfl⟩
      |exact⟨k+1,by omega,by omega,A7 h0 rfl ⟨rfl,rfl,rfl,rfl,(by rw[hn,if_neg (by assumption)];rfl),(by rw[hn,if_neg (by assumption)];rfl),rfl,trivial⟩ ⟨rfl,rfl,trivial⟩ rfl rfl rfl⟩
      |(exfalso;omega)
      |trace_state)
   |(obtain rfl:k=picks.length:=by omega
     rw[oz]
     repeat'((first|refine A0 zQ ?_|refine A0 (pt _) ?_|(refine A9 ?_ ?_;kernel_rfl) |refine S2 ?_|(refine T6 ?_ ?_<;>intro h<;>try exact V1 h)|intro el nJ nK|intro el nJ|exact T4|refine T5 ?_ ?_|intro ex)<;>try conv=>whnf)
     all_goals first
      |exact A1 rfl rfl
      |(exfalso;omega)
      |trace_state)
 ·unfold Ka
  rw[RY _ c ho p1]
  have tO:=Ov c.op (c.kids.map (U7 fun a=>M3 s a (Au s a.col (M5 a.col (picks.zip values)).1 (M5 a.col (picks.zip values)).2))) (fun h=>by rw[List.length_map];have:=k1 h;omega) (fun h=>by rw[List.length_map];have:=k2 h;omega) (fun v hv=>by
   obtain⟨k,_,rfl⟩:=List.mem_map.1 hv
   exact Pg hg k)
  have tl:∀k,k∈c.kids→A3 Tryz.prog 133 [sA s,D5 k,.sl 2 (picks.map A8),.sl 1 (values.map wA)] (.i (U7 (fun a=>M3 s a (Au s a.col (M5 a.col (picks.zip values)).1 (M5 a.col (picks.zip values)).2)) k)):=fun k hk=>ih k hk (h2 k hk)
  generalize (U7 fun a=>M3 s a (Au s a.col (M5 a.col (picks.zip values)).1 (M5 a.col (picks.zip values)).2))=T at *
  rw[F8]at *
  refine B5 Tryz.func133 82 fun nL E h0=>?_
  have nM:c.kids.length≤9223372036854775807:=by
   have:=((nL (.agg (M9 c)) (by simp)).agg (.sl 6 (c.kids.map K0)) (by simp)).sl
   simpa using this
  clear nL
  repeat'((first|(refine A9 ?_ ?_;kernel_rfl) |refine S2 ?_|(refine T6 ?_ ?_<;>intro h<;>try exact V1 h)|intro el nJ nK|intro el nJ|exact T4|refine T5 ?_ ?_|intro ex)<;>try conv=>whnf)
  all_goals first
   |(exfalso;omega)
   |skip
  refine B0 (ι:=Nat) (fun k=>⟨[(2,.sl 2 (picks.map A8)),(3,.sl 1 (values.map wA)),(4,.ref 0 0),(5,.ref 1 0),(12,.row 2 0 k),(13,.i k)],3,[(0,some (.box (sL s))),(1,some (.box (M9 c))),(2,some (.row 3 1 0 (((c.kids.take k).map T).map wA)))]⟩) (fun k=>k≤c.kids.length) (fun k=>c.kids.length-k) 0 (Nat.zero_le _)
   (C0 (I0 (d:=12) (e:=3) (sz:=1) rfl) (A7 h0 rfl ⟨rfl,rfl,rfl,rfl,rfl,rfl,trivial⟩ ⟨rfl,rfl,⟨0,rfl⟩,trivial⟩ rfl rfl rfl)) (fun k hk=>?_)
  by_cases nN:k<c.kids.length
  ·obtain⟨el,nJ⟩:∃el,c.kids[k]?=some el:=⟨_,List.getElem?_eq_getElem nN⟩
   have pn:=tl el (List.mem_of_getElem? nJ)
   repeat'((first|(refine A2 (x:=el) nJ (by omega) ?_)|(refine E7 13 ?_;refine F5 (id:=13) ⟨[(2,.sl 2 (picks.map A8)),(3,.sl 1 (values.map wA)),(4,.ref 0 0),(5,.ref 1 0),(12,.row 2 0 (k+1)),(13,.i k)],3,[(0,some (.box (sL s))),(1,some (.box (M9 c))),(2,some (.row 3 1 0 (((c.kids.take (k+1)).map T).map wA)))]⟩ ?_ ?_)|refine A0 pn ?_ |refine S2 ?_|(refine T6 ?_ ?_<;>intro h<;>try exact V1 h)|intro el nJ nK|intro el nJ|exact T4|refine T5 ?_ ?_|intro ex)<;>try conv=>whnf)
   all_goals first
    |exact A7 h0 rfl ⟨rfl,rfl,rfl,rfl,rfl,rfl,trivial⟩ ⟨rfl,rfl,⟨_,congrArg (C4.row 3 1 _) (by rw[F1 nJ,List.map_append,List.map_append];rfl)⟩,trivial⟩ rfl rfl rfl
    |exact⟨k+1,by omega,by omega,A6 h0⟩
  ·obtain rfl:k=c.kids.length:=by omega
   rw[List.take_length]
   repeat'((first|refine I6 2 ?_|refine A0 tO ?_ |refine S2 ?_|(refine T6 ?_ ?_<;>intro h<;>try exact V1 h)|intro el nJ nK|intro el nJ|exact T4|refine T5 ?_ ?_|intro ex)<;>try conv=>whnf)
   all_goals first
    |exact A1 rfl rfl
theorem ZU(s:A4)(c:B7)(picks:List Pk)(values:List Int):A3 Tryz.prog 72 [sA s,D5 c,.sl 2 (picks.map A8),.sl 1 (values.map wA)] (.i (Iw s c picks values)):=by
 have h1:=Y4 s c
 have h2:=EW s picks
 have h3:=EX s c
 have h4:=AW (I3 s c) picks
 have h5:=fun p v=>Mk s (Pk.col p) (Pk.lev p) v
 have h6:¬J6 s c≠0→¬I7 s picks≠0→values.length=picks.length→A3 Tryz.prog 133 [sA s,D5 c,.sl 2 (picks.map A8),.sl 1 (values.map wA)] (.i (Ka s c (picks.zip values))):=fun a b e =>
  have a:=Decidable.of_not_not a
  cI s (u6 a).1 picks values (Decidable.of_not_not b) e c (u6 a).2.2.2
 unfold Iw
 generalize X8 picks (I3 s c)=V at *
 rw[F8]at *
 refine B5 Tryz.func72 63 fun nL E h0=>?_
 have pk:picks.length≤9223372036854775807:=by have:=(nL (.sl 2 (picks.map A8)) (by simp)).sl;simpa using this
 clear nL
 repeat'((first|refine A0 h1 ?_|refine A0 h2 ?_|refine A0 h3 ?_|refine A0 h4 ?_ |refine S2 ?_|(refine T6 ?_ ?_<;>intro h<;>try exact V1 h)|intro el nJ nK|intro el nJ|exact T4|refine T5 ?_ ?_|intro ex)<;>try conv=>whnf)
 all_goals first
  |(refine A1 rfl (congrArg AV.i ?_);rw[if_neg (fun hh=>by first|(have:=hh.1;omega)|(have:=hh.2.1;omega)|(have:=hh.2.2.1;omega)|(have:=hh.2.2.2;simp_all;done))];done)
  |skip
 have nM:values.length=picks.length:=by omega
 rw[if_pos ⟨by omega,by omega,nM,by assumption⟩]
 have h6:=h6 (by assumption) (by assumption) nM
 refine B0 (ι:=Nat) (fun k=>⟨[(2,.sl 2 (picks.map A8)),(3,.sl 1 (values.map wA)),(4,.ref 0 0),(5,.ref 1 0),(9,.i k)],2,[(0,some (.box (sL s))),(1,some (.box (M9 c)))]⟩) (fun k=>k≤picks.length∧KZ s ((picks.zip values).take k)=true) (fun k=>picks.length-k) 0 ⟨Nat.zero_le _,rfl⟩
  (A6 h0) (fun k hI=>?_)
 obtain⟨hk,hI⟩:=hI
 by_cases nN:k<picks.length
 ·obtain⟨p,qE⟩:∃p,picks[k]?=some p:=⟨_,List.getElem?_eq_getElem nN⟩
  obtain⟨v,tI⟩:∃v,values[k]?=some v:=⟨_,List.getElem?_eq_getElem (by omega)⟩
  have pn:=h5 p v
  have hz:=Kw qE tI
  repeat'((first|(refine A2 (x:=p) qE (by omega) ?_)|(refine A2 (x:=v) tI (by omega) ?_)|refine A0 pn ?_ |refine S2 ?_|(refine T6 ?_ ?_<;>intro h<;>try exact V1 h)|intro el nJ nK|intro el nJ|exact T4|refine T5 ?_ ?_|intro ex)<;>try conv=>whnf)
  all_goals first
   |exact⟨k+1,⟨by omega,eL hz hI (by assumption)⟩,by omega,A7 h0 rfl ⟨rfl,rfl,rfl,rfl,rfl,trivial⟩ ⟨rfl,rfl,trivial⟩ rfl rfl rfl⟩
   |exact A1 rfl (congrArg AV.i (by rw[if_neg (fun hh=>by have:=LD (p:=fun q:Pk×Int=>AO s q.1.col q.1.lev q.2) hz (by assumption);unfold KZ at hh;rw[this]at hh;cases hh)]))
   |(exfalso;omega)
 ·obtain rfl:k=picks.length:=by omega
  rw[List.take_of_length_le (by rw[List.length_zip];omega)]at hI
  repeat'((first|refine A0 h6 ?_ |refine S2 ?_|(refine T6 ?_ ?_<;>intro h<;>try exact V1 h)|intro el nJ nK|intro el nJ|exact T4|refine T5 ?_ ?_|intro ex)<;>try conv=>whnf)
  all_goals first
   |exact A1 rfl (congrArg AV.i (by rw[if_pos hI]))
   |(exfalso;omega)
end Go.Proofs.YtiphlhoclaogjaaGreatDoor

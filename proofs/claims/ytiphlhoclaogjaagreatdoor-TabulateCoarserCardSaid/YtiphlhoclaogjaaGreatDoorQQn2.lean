/- Chapter 5: the reference's level that decides. -/
import Derived.Test.YtiphlhoclaogjaaGreatDoorQC3
import Derived.Test.YtiphlhoclaogjaaGreatDoorQF5
import Derived.Test.YtiphlhoclaogjaaGreatDoorQB15
import Derived.Test.YtiphlhoclaogjaaGreatDoorQTa2
import Derived.Test.YtiphlhoclaogjaaGreatDoorQRg0
import Derived.Test.YtiphlhoclaogjaaGreatDoorQQn0
set_option linter.unusedVariables false
set_option linter.unnecessarySimpa false
set_option linter.unusedSimpArgs false
set_option maxHeartbeats 64000000
namespace Go.Proofs.YtiphlhoclaogjaaGreatDoor
open Go Go.Av
attribute [local irreducible] C7 B1 D1 C8 DQ D0 C6 St.le A3 B8
set_option maxRecDepth 100000
theorem fW{s:A4}{a:B0}{level:Int}(hr:C5 s=0)(ha:G7 s a=0)(h2:a.op=2)(h0:0≤level)(h1:level≤F2 s a.col):a5 s a level=divB (Q9 s a) (F9 s a.col level) ((H4 s a.col).map fun n:Nat=>(n:Int)):=by
 obtain⟨x,hx,c1,c2,q2,_⟩:=n9 hr ha (.inl h2)
 obtain⟨hk,_⟩:=q2 h2
 have rn:∀v∈H4 s a.col,F9 s a.col level v=N3 (B9 s (B4 s a.col)).1 (B9 s (B4 s a.col)).2 v level:=fun v hv=>by
  rw[C0 hx]
  exact(Hq hr c1 hx hk h0 (by rw[A8,if_pos hr];exact h1) hv).1
 unfold a5
 rw[if_pos h2,Bool.eq_iff_iff,decide_eq_true_iff,TY]
 constructor
 ·intro h u hu v hv hne e
  obtain⟨u',rI,rfl⟩:=List.mem_map.1 hu
  obtain⟨v',oo,rfl⟩:=List.mem_map.1 hv
  rw[rn u' rI,rn v' oo]at e
  exact hne (h u' rI v' oo e)
 ·intro h u hu v hv e
  refine Classical.byContradiction fun hne=>?_
  refine h u (List.mem_map.2 ⟨u,hu,rfl⟩) v (List.mem_map.2 ⟨v,hv,rfl⟩) hne ?_
  rw[rn u hu,rn v hv]
  exact e
theorem ZM(s:A4)(a:B0)(level:Int)(hr:C5 s=0)(ha:G7 s a=0)(h2:a.op=2)(zn:0≤level)(uM:level≤F2 s a.col):A3 Tryz.prog 185 [sA s,E0 a,.i level] (.b (a5 s a level)):=by
 obtain⟨x,hx,c1,c2,q2,_⟩:=n9 hr ha (.inl h2)
 obtain⟨hk,pH,oM,hf⟩:=q2 h2
 rw[fW hr ha h2 zn uM]
 have qo:=fun v=>OE s a v (.inl h2) (Fl hr ha)
 have vx:=fun v=>Cj s a.col level v
 have qd:A3 Tryz.prog 138 [sA s,.i a.col] (.sl 1 (((H4 s a.col).map fun n:Nat=>(n:Int)).map wA)) :=
  (De s a.col (by omega) hx ⟨pH,oM⟩).congr (congrArg (AV.sl 1) (by rw[List.map_map];rfl))
 have zw:=Aj (B9 s (B4 s a.col)).1 (B9 s (B4 s a.col)).2 (C4 (B9 s (B4 s a.col)).1 (B9 s (B4 s a.col)).2-1)
 have tA:((H4 s a.col).map fun n:Nat=>(n:Int)).length≤9223372036854775807:=by
  rw[List.length_map]
  have hc:chk (B9 s x).1 (B9 s x).2=0:=(E9 hr).2.2.1 _ (by unfold B9;rw[List.getD_eq_getElem?_getD,List.getElem?_eq_getElem (by omega)];exact List.getElem_mem _)
  have:=BG hc
  rw[C0 hx]at zw
  unfold H4
  rw[C0 hx]
  omega
 generalize ((H4 s a.col).map fun n:Nat=>(n:Int))=al at *
 rw[G0]at *
 refine C1 Tryz.func185 140 fun nd E h0=>?_
 clear nd
 repeat'((first|(refine A2 (x:=x) hx (by omega) ?_)|refine A1 qd ?_ |refine S2 ?_|(refine T6 ?_ ?_<;>intro h<;>try exact V1 h)|intro el nX nY|intro el nX|exact T4|refine T5 ?_ ?_|intro ex)<;>try conv=>whnf)
 refine B2 (ι:=Nat) (fun k=>⟨[(2,.i level),(3,.ref 0 0),(4,.ref 1 0),(8,.sl 1 (al.map wA)),(9,.i k)],3,[(0,some (.box (sL s))),(1,some (.box (P1 a)))]⟩) (fun k=>k≤al.length∧Cz (Q9 s a) (F9 s a.col level) al k 0) (fun k=>al.length-k) 0 ⟨Nat.zero_le _,Cz.zero _ _ _⟩ (A6 h0) (fun k hI=>?_)
 obtain⟨qA,hI⟩:=hI
 repeat'((first|refine S2 ?_|(refine T6 ?_ ?_<;>intro h<;>try exact V1 h)|intro el nX nY|intro el nX|exact T4|refine T5 ?_ ?_|intro ex)<;>try conv=>whnf)
 ·refine B2 (ι:=Nat) (fun j=>⟨[(2,.i level),(3,.ref 0 0),(4,.ref 1 0),(8,.sl 1 (al.map wA)),(9,.i k),(10,.i j)],3,[(0,some (.box (sL s))),(1,some (.box (P1 a)))]⟩) (fun j=>j≤k∧Cz (Q9 s a) (F9 s a.col level) al k j) (fun j=>k-j) 0 ⟨Nat.zero_le _,hI⟩ (A6 h0) (fun j hJ=>?_)
  obtain⟨vZ,hJ⟩:=hJ
  repeat'((first|refine A1 (vx _) ?_|refine A1 (qo _) ?_ |refine S2 ?_|(refine T6 ?_ ?_<;>intro h<;>try exact V1 h)|intro el nX nY|intro el nX|exact T4|refine T5 ?_ ?_|intro ex)<;>try conv=>whnf)
  all_goals first
   |exact A0 rfl (congrArg AV.b (Cz.hit (i:=k) (k:=j) (by assumption) (by assumption) (by assumption) (UW (by assumption) (by assumption))).symm)
   |exact⟨j+1,⟨by omega,hJ.step (by assumption) (by assumption) (UY (by assumption))⟩,by omega,A6 h0⟩
   |exact⟨j+1,⟨by omega,hJ.step (by assumption) (by assumption) (UX (Decidable.of_not_not (by assumption)))⟩,by omega,A6 h0⟩
   |exact⟨k+1,⟨by omega,hJ.next (by assumption)⟩,by omega,A6 h0⟩
 all_goals first
  |exact A0 rfl (congrArg AV.b (hI.done (by assumption)).symm)
theorem ZN(s:A4)(a:B0)(level:Int)(hr:C5 s=0)(ha:G7 s a=0)(ho:a.op=3∨a.op=4)(zn:0≤level)(uM:level≤F2 s a.col):A3 Tryz.prog 185 [sA s,E0 a,.i level] (.b (a5 s a level)):=by
 obtain⟨x,hx,c1,c2,_,q2,q3,q4⟩:=n9 hr ha (.inr ho)
 obtain⟨hk,hm,hf⟩:=q2 (by omega)
 rw[hf]at uM
 have hp:=W5 hm
 have qJ:¬level=0→1≤A9 x level∧A9 x level≤1000000:=fun h=>c9 hp.2.2.2.2.2 (by omega) uM
 have sF:¬level=0→A3 Tryz.prog 151 [T7 x,.i level] (.i (A9 x level)):=fun h=>BK x level (by omega) uM
 rw[G0]at *
 by_cases h4:a.op=4
 ·rw[Lp h4]
  refine C1 Tryz.func185 140 fun nd E h0=>?_
  clear nd
  repeat'((first|(refine A2 (x:=x) hx (by omega) ?_) |refine S2 ?_|(refine T6 ?_ ?_<;>intro h<;>try exact V1 h)|intro el nX nY|intro el nX|exact T4|refine T5 ?_ ?_|intro ex)<;>try conv=>whnf)
  all_goals first
   |exact A0 rfl rfl
 have h3:a.op=3:=by omega
 have zY:=q3 h3
 rw[Lq h3 hx]
 refine C1 Tryz.func185 140 fun nd E h0=>?_
 clear nd
 repeat'((first|(refine A2 (x:=x) hx (by omega) ?_)|refine A1 (sF (by assumption)) ?_|(refine J0 ?_ ?_;(have:=qJ (by assumption);omega))|(refine B5 ?_ ?_;kernel_rfl) |refine S2 ?_|(refine T6 ?_ ?_<;>intro h<;>try exact V1 h)|intro el nX nY|intro el nX|exact T4|refine T5 ?_ ?_|intro ex)<;>try conv=>whnf)
 all_goals (refine A0 rfl (congrArg AV.b (Bool.eq_iff_iff.2 ?_));simp only[decide_eq_true_iff,Bool.not_eq_true',decide_eq_false_iff_not,true_iff,false_iff,Bool.false_eq_true,Bool.not_false,Bool.not_true];unfold GK)
 all_goals first
  |(rw[if_pos (by assumption:level=0),(by assumption:x.opt=false)];simp only[true_and];omega)
  |(rw[if_pos (by assumption:level=0),(by assumption:x.opt=true)];simp;done)
  |(rw[if_neg (by assumption:¬level=0)];omega)
  |(clear h0;trace_state)
theorem cM(s:A4)(a:B0)(level:Int)(hr:C5 s=0)(ha:G7 s a=0)(ho:a.op=2∨a.op=3∨a.op=4)(h0:0≤level)(h1:level≤F2 s a.col):A3 Tryz.prog 185 [sA s,E0 a,.i level] (.b (a5 s a level)):=by
 by_cases h2:a.op=2
 ·exact ZM s a level hr ha h2 h0 h1
 ·exact ZN s a level hr ha (by omega) h0 h1
theorem LR(s:A4)(c:B0):A3 Tryz.prog 132 [sA s,E0 c] (.sl 2 ((L3 s c).map B6)):=by
 have om:=t6 s c
 unfold L3
 by_cases rJ:H0 s c=0
 ·rw[if_pos rJ]
  obtain⟨hr,ht,hd,oz⟩:=m6 rJ
  have vV:=Vo c (by omega)
  have nZ:=Gh c
  have hn:=(E9 hr).2.1
  have sI:=CB c oz
  rw[G0]at *
  generalize hA:X5 c=A at *
  refine C1 Tryz.func132 40 fun nd E h0=>?_
  clear nd
  repeat'((first|refine A1 om ?_|refine A1 vV ?_ |refine S2 ?_|(refine T6 ?_ ?_<;>intro h<;>try exact V1 h)|intro el nX nY|intro el nX|exact T4|refine T5 ?_ ?_|intro ex)<;>try conv=>whnf)
  all_goals first
   |exact absurd rJ (by assumption)
   |skip
  refine B2 (ι:=Nat) (fun k=>⟨[(2,.ref 0 0),(3,.ref 1 0),(5,.sl 2 ((K8 (o9 s (A.take k)) 0 s.cols.length).map B6)),(6,.sl 6 (A.map J2)),(7,.i k)],2,[(0,some (.box (sL s))),(1,some (.box (P1 c)))]⟩)
   (fun k=>k≤A.length) (fun k=>A.length-k) 0 (Nat.zero_le _)
   (C2 (aF (d:=5) (sz:=2) rfl) (B3 h0 rfl ⟨rfl,rfl,congrArg (fun z=>some (AV.sl 2 z)) (by rw[List.take_zero,Wh,JU];rfl),rfl,rfl,trivial⟩ ⟨rfl,rfl,trivial⟩ rfl rfl rfl)) (fun k hk=>?_)
  by_cases nf:k<A.length
  ·obtain⟨el,nX⟩:∃el,A[k]?=some el:=⟨_,List.getElem?_eq_getElem nf⟩
   obtain⟨r1,r2⟩:=sI el (List.mem_of_getElem? nX)
   obtain⟨l1,l2,l3⟩:=Fm hr r1 r2
   obtain⟨x,hx,c1,c2,_⟩:=n9 hr r1 r2
   have oB:=Oj hr el.col
   repeat'((first|(refine A2 (x:=el) nX (by omega) ?_) |refine S2 ?_|(refine T6 ?_ ?_<;>intro h<;>try exact V1 h)|intro el nX nY|intro el nX|exact T4|refine T5 ?_ ?_|intro ex)<;>try conv=>whnf)
   all_goals first
    |(exfalso;omega)
    |skip
   refine B2 (ι:=Nat) (fun j=>⟨[(2,.ref 0 0),(3,.ref 1 0),(5,.sl 2 ((K8 (o9 s (A.take k)) 0 s.cols.length).map B6)),(6,.sl 6 (A.map J2)),(7,.i k),(8,.i j)],2,[(0,some (.box (sL s))),(1,some (.box (P1 c)))]⟩)
    (fun j=>j≤s9 s el) (fun j=>s9 s el-j) 0 (Nat.zero_le _) (A6 h0) (fun j hj=>?_)
   have hc:=cM s el j hr r1 r2 (by omega) (by omega)
   by_cases hs:a5 s el j=true
   ·obtain rfl:j=s9 s el:=Classical.byContradiction fun hne=>by have:=l3 j (by omega);rw[hs]at this;cases this
    rw[hs]at hc
    have qI:=y6 (o9 s (A.take k)) s.cols.length 0
    have vS:=(Ar (K8 (o9 s (A.take k)) 0 s.cols.length) el.col (s9 s el) (by omega)).congr (congrArg (fun z=>AV.sl 2 (List.map B6 z)) (bI (lv:=o9 s (A.take k)) (by omega) (by omega) (by omega) fun i=>bJ s i _))
    repeat'((first|(refine A2 (x:=el) nX (by omega) ?_)|refine A1 hc ?_|refine A1 vS ?_ |refine S2 ?_|(refine T6 ?_ ?_<;>intro h<;>try exact V1 h)|intro el nX nY|intro el nX|exact T4|refine T5 ?_ ?_|intro ex)<;>try conv=>whnf)
    all_goals first
     |exact⟨k+1,by omega,by omega,B3 h0 rfl ⟨rfl,rfl,congrArg (fun z=>some (AV.sl 2 (List.map B6 z))) (by rw[TO nX]),rfl,rfl,trivial⟩ ⟨rfl,rfl,trivial⟩ rfl rfl rfl⟩
   ·have nv:a5 s el j=false:=by simpa using hs
    have qx:j<s9 s el:=Nat.lt_of_le_of_ne hj fun e=>by rw[e,l2]at nv;cases nv
    rw[nv]at hc
    repeat'((first|(refine A2 (x:=el) nX (by omega) ?_)|refine A1 hc ?_ |refine S2 ?_|(refine T6 ?_ ?_<;>intro h<;>try exact V1 h)|intro el nX nY|intro el nX|exact T4|refine T5 ?_ ?_|intro ex)<;>try conv=>whnf)
    all_goals first
     |exact⟨j+1,by omega,by omega,A6 h0⟩
  ·obtain rfl:k=A.length:=by omega
   rw[List.take_length]
   repeat'((first|refine S2 ?_|(refine T6 ?_ ?_<;>intro h<;>try exact V1 h)|intro el nX nY|intro el nX|exact T4|refine T5 ?_ ?_|intro ex)<;>try conv=>whnf)
   all_goals first
    |exact A0 rfl rfl
    |(exfalso;omega)
 ·rw[if_neg rJ]
  rw[G0]at *
  refine C1 Tryz.func132 40 fun nd E h0=>?_
  clear nd
  repeat'((first|refine A1 om ?_ |refine S2 ?_|(refine T6 ?_ ?_<;>intro h<;>try exact V1 h)|intro el nX nY|intro el nX|exact T4|refine T5 ?_ ?_|intro ex)<;>try conv=>whnf)
  all_goals first
   |exact x9 (sz:=2) rfl rfl
   |(exfalso;contradiction)
theorem ZO(c:B0):A3 Tryz.prog 115 [E0 c] (.b (decide (X7 c))):=by
 have h:=ZE c
 refine C1 Tryz.func115 6 fun nd E h0=>?_
 clear nd
 repeat'((first|refine A1 h ?_ |refine S2 ?_|(refine T6 ?_ ?_<;>intro h<;>try exact V1 h)|intro el nX nY|intro el nX|exact T4|refine T5 ?_ ?_|intro ex)<;>try conv=>whnf)
 all_goals first
  |exact A0 rfl rfl
def PI(s:A4)(q:W2):Int:=if q.kind=1 then (if ¬J4 s q.dims=0 then J4 s q.dims else if ¬q.mea=-1∧¬R4 s q.mea=3 then 7 else 0)else if ¬R4 s q.mea=3 then 7 else if q.kind=2 then Y7 s q.mea q.trms else if (B4 s q.mea).low<0 then 2 else H0 s q.evt
theorem mf{s:A4}{c:Int}{k:Int}(h:R4 s c=k)(hk:¬k=0):∃x,0≤c∧s.cols[c.toNat]?=some x:=by
 unfold R4 at h
 split at h
 ·exact⟨_,by omega,List.getElem?_eq_getElem (by omega)⟩
 ·omega
theorem Vq(s:A4)(q:W2):A3 Tryz.prog 114 [sA s,EA q] (.i (PI s q)):=by
 have h1:=MF s q.mea 3
 have h2:=ZD s q.dims
 have h3:=Vk s q.mea q.trms
 have h4:=t6 s q.evt
 rw[Nx _ _ _ (by decide)]at h1
 unfold PI
 generalize J4 s q.dims=n1 at *
 generalize Y7 s q.mea q.trms=n2 at *
 generalize H0 s q.evt=n3 at *
 by_cases hk:R4 s q.mea=3
 ·obtain⟨x,po,hx⟩:=mf hk (by decide)
  rw[C0 hx]
  rw[decide_eq_true hk]at h1
  refine C1 Tryz.func114 53 fun nd E h0=>?_
  clear nd
  repeat'((first|(refine A2 (x:=x) hx (by omega) ?_)|refine A1 h1 ?_|refine A1 h2 ?_|refine A1 h3 ?_|refine A1 h4 ?_|(refine B5 ?_ ?_;kernel_rfl) |refine S2 ?_|(refine T6 ?_ ?_<;>intro h<;>try exact V1 h)|intro el nX nY|intro el nX|exact T4|refine T5 ?_ ?_|intro ex)<;>try conv=>whnf)
  all_goals first
   |(exfalso;omega)
   |exact A0 rfl (congrArg AV.i (by rw[if_pos (by omega),if_pos (by omega)]))
   |exact A0 rfl (congrArg AV.i (by rw[if_pos (by omega),if_neg (by omega),if_neg (by omega)]))
   |exact A0 rfl (congrArg AV.i (by rw[if_neg (by omega),if_neg (by omega),if_pos (by omega)]))
   |exact A0 rfl (congrArg AV.i (by rw[if_neg (by omega),if_neg (by omega),if_neg (by omega),if_pos (by omega)]))
   |exact A0 rfl (congrArg AV.i (by rw[if_neg (by omega),if_neg (by omega),if_neg (by omega),if_neg (by omega)]))
 ·rw[decide_eq_false hk]at h1
  generalize R4 s q.mea=n4 at *
  refine C1 Tryz.func114 53 fun nd E h0=>?_
  clear nd
  repeat'((first|refine A1 h1 ?_|refine A1 h2 ?_|(refine B5 ?_ ?_;kernel_rfl) |refine S2 ?_|(refine T6 ?_ ?_<;>intro h<;>try exact V1 h)|intro el nX nY|intro el nX|exact T4|refine T5 ?_ ?_|intro ex)<;>try conv=>whnf)
  all_goals first
   |(exfalso;omega)
   |exact A0 rfl (congrArg AV.i (by rw[if_pos (by omega),if_pos (by omega)]))
   |exact A0 rfl (congrArg AV.i (by rw[if_pos (by omega),if_neg (by omega),if_pos (by omega)]))
   |exact A0 rfl (congrArg AV.i (by rw[if_pos (by omega),if_neg (by omega),if_neg (by omega)]))
   |exact A0 rfl (congrArg AV.i (by rw[if_neg (by omega),if_pos (by omega)]))
def fX(s:A4)(q:W2):Int:=if ¬C5 s=0 then C5 s else if D5 q.name=false then 3 else if q.kind<1∨3<q.kind then 4 else if ¬H0 s q.flt=0 then H0 s q.flt else if ¬PI s q=0 then PI s q else if ¬q.kind=1∧0<q.dims.length∨¬q.kind=2∧0<q.trms.length∨¬q.kind=3∧¬X7 q.evt then 11 else 0
theorem jb(s:A4)(q:W2):fX s q=O3 s q:=by
 unfold fX O3
 by_cases a1:¬C5 s=0
 ·rw[if_pos a1,if_pos a1]
 rw[if_neg a1,if_neg a1]
 by_cases a2:D5 q.name=false
 ·rw[if_pos a2,if_pos a2]
 rw[if_neg a2,if_neg a2]
 by_cases a3:q.kind<1∨3<q.kind
 ·rw[if_pos a3,if_pos a3]
 rw[if_neg a3,if_neg a3]
 by_cases a4:¬H0 s q.flt=0
 ·rw[if_pos a4,if_pos a4]
 rw[if_neg a4,if_neg a4]
 unfold PI
 by_cases k1:q.kind=1
 ·rw[if_pos k1,if_pos k1]
  unfold Hy
  by_cases b1:¬J4 s q.dims=0
  ·rw[if_pos b1,if_pos b1,if_pos b1]
  rw[if_neg b1,if_neg b1]
  by_cases b2:¬q.mea=-1∧¬R4 s q.mea=3
  ·rw[if_pos b2,if_pos b2,if_pos (by decide)]
  rw[if_neg b2,if_neg b2,if_neg (by decide)]
  split<;>split<;>first|rfl|(exfalso;omega)
 ·rw[if_neg k1,if_neg k1]
  by_cases b2:¬R4 s q.mea=3
  ·unfold Jk ME
   rw[if_pos b2,if_pos (by decide),if_pos b2,if_pos b2]
   split<;>rfl
  rw[if_neg b2]
  by_cases k2:q.kind=2
  ·rw[if_pos k2,if_pos k2]
   unfold Jk
   rw[if_neg b2]
   by_cases b1:¬Y7 s q.mea q.trms=0
   ·rw[if_pos b1,if_pos b1]
   rw[if_neg b1,if_neg b1]
   split<;>split<;>first|rfl|(exfalso;omega)
  ·rw[if_neg k2,if_neg k2]
   unfold ME
   rw[if_neg b2]
   by_cases b3:(B4 s q.mea).low<0
   ·rw[if_pos b3,if_pos b3,if_pos (by decide)]
   rw[if_neg b3,if_neg b3]
   by_cases b1:¬H0 s q.evt=0
   ·rw[if_pos b1,if_pos b1]
   rw[if_neg b1,if_neg b1]
   split<;>split<;>first|rfl|(exfalso;omega)
theorem GT(s:A4)(q:W2):A3 Tryz.prog 53 [sA s,EA q] (.i (O3 s q)):=by
 rw[←jb]
 have h1:=S7 s
 have h2:=u7 q.name
 have h3:=t6 s q.flt
 have h4:=Vq s q
 have h5:=ZO q.evt
 unfold fX
 generalize C5 s=n1 at *
 generalize D5 q.name=b at *
 generalize H0 s q.flt=n2 at *
 generalize PI s q=n3 at *
 by_cases pJ:X7 q.evt
 ·rw[decide_eq_true pJ]at h5
  refine C1 Tryz.func53 69 fun nd E h0=>?_
  clear nd
  repeat'((first|refine A1 h1 ?_|refine A1 h2 ?_|refine A1 h3 ?_|refine A1 h4 ?_|refine A1 h5 ?_ |refine S2 ?_|(refine T6 ?_ ?_<;>intro h<;>try exact V1 h)|intro el nX nY|intro el nX|exact T4|refine T5 ?_ ?_|intro ex)<;>try conv=>whnf)
  all_goals first
   |(exfalso;omega)
   |exact A0 rfl (congrArg AV.i (by rw[if_pos (by omega)]))
   |exact A0 rfl (congrArg AV.i (by rw[if_neg (by omega),if_pos (by assumption)]))
   |exact A0 rfl (congrArg AV.i (by rw[if_neg (by omega),if_neg (fun h=>Bool.false_ne_true (h.symm.trans (show b=true by assumption))),if_pos (by omega)]))
   |exact A0 rfl (congrArg AV.i (by rw[if_neg (by omega),if_neg (fun h=>Bool.false_ne_true (h.symm.trans (show b=true by assumption))),if_neg (by omega),if_pos (by omega)]))
   |exact A0 rfl (congrArg AV.i (by rw[if_neg (by omega),if_neg (fun h=>Bool.false_ne_true (h.symm.trans (show b=true by assumption))),if_neg (by omega),if_neg (by omega),if_pos (by omega)]))
   |exact A0 rfl (congrArg AV.i (by rw[if_neg (by omega),if_neg (fun h=>Bool.false_ne_true (h.symm.trans (show b=true by assumption))),if_neg (by omega),if_neg (by omega),if_neg (by omega),if_pos (by omega)]))
   |exact A0 rfl (congrArg AV.i (by rw[if_neg (by omega),if_neg (fun h=>Bool.false_ne_true (h.symm.trans (show b=true by assumption))),if_neg (by omega),if_neg (by omega),if_neg (by omega),if_neg (by omega)]))
 ·rw[decide_eq_false pJ]at h5
  have oF:¬q.evt.op=0∨¬q.evt.col=0∨¬q.evt.code=0∨¬q.evt.lo=0∨¬q.evt.hi=0∨¬q.evt.kids.length=0:=by omega
  refine C1 Tryz.func53 69 fun nd E h0=>?_
  clear nd
  repeat'((first|refine A1 h1 ?_|refine A1 h2 ?_|refine A1 h3 ?_|refine A1 h4 ?_|refine A1 h5 ?_ |refine S2 ?_|(refine T6 ?_ ?_<;>intro h<;>try exact V1 h)|intro el nX nY|intro el nX|exact T4|refine T5 ?_ ?_|intro ex)<;>try conv=>whnf)
  all_goals first
   |(exfalso;clear pJ oF;omega)
   |exact A0 rfl (congrArg AV.i (by rw[if_pos (by clear pJ oF;omega)]))
   |exact A0 rfl (congrArg AV.i (by rw[if_neg (by clear pJ oF;omega),if_pos (by assumption)]))
   |exact A0 rfl (congrArg AV.i (by rw[if_neg (by clear pJ oF;omega),if_neg (fun h=>Bool.false_ne_true (h.symm.trans (show b=true by assumption))),if_pos (by clear pJ oF;omega)]))
   |exact A0 rfl (congrArg AV.i (by rw[if_neg (by clear pJ oF;omega),if_neg (fun h=>Bool.false_ne_true (h.symm.trans (show b=true by assumption))),if_neg (by clear pJ oF;omega),if_pos (by clear pJ oF;omega)]))
   |exact A0 rfl (congrArg AV.i (by rw[if_neg (by clear pJ oF;omega),if_neg (fun h=>Bool.false_ne_true (h.symm.trans (show b=true by assumption))),if_neg (by clear pJ oF;omega),if_neg (by clear pJ oF;omega),if_pos (by clear pJ oF;omega)]))
   |exact A0 rfl (congrArg AV.i (by rw[if_neg (by clear pJ oF;omega),if_neg (fun h=>Bool.false_ne_true (h.symm.trans (show b=true by assumption))),if_neg (by clear pJ oF;omega),if_neg (by clear pJ oF;omega),if_neg (by clear pJ oF;omega),if_pos (.inl ⟨by clear pJ oF;omega,by clear pJ oF;omega⟩)]))
   |exact A0 rfl (congrArg AV.i (by rw[if_neg (by clear pJ oF;omega),if_neg (fun h=>Bool.false_ne_true (h.symm.trans (show b=true by assumption))),if_neg (by clear pJ oF;omega),if_neg (by clear pJ oF;omega),if_neg (by clear pJ oF;omega),if_pos (.inr (.inl ⟨by clear pJ oF;omega,by clear pJ oF;omega⟩))]))
   |exact A0 rfl (congrArg AV.i (by rw[if_neg (by clear pJ oF;omega),if_neg (fun h=>Bool.false_ne_true (h.symm.trans (show b=true by assumption))),if_neg (by clear pJ oF;omega),if_neg (by clear pJ oF;omega),if_neg (by clear pJ oF;omega),if_pos (.inr (.inr ⟨by clear pJ oF;omega,pJ⟩))]))
   |exact A0 rfl (congrArg AV.i (by rw[if_neg (by clear pJ oF;omega),if_neg (fun h=>Bool.false_ne_true (h.symm.trans (show b=true by assumption))),if_neg (by clear pJ oF;omega),if_neg (by clear pJ oF;omega),if_neg (by clear pJ oF;omega),if_neg (by omega)]))
theorem Jo(s:A4)(d:Cq):A3 Tryz.prog 125 [sA s,Jj d] (.i (DS s d)):=by
 have h1:=S7 s
 have h2:=u7 d.prj
 have h3:=u7 d.src
 have h4:=t6 s d.coh
 have hq:=fun x=>GT s x
 unfold DS
 generalize C5 s=n1 at *
 generalize D5 d.prj=b1 at *
 generalize D5 d.src=b2 at *
 generalize H0 s d.coh=n2 at *
 refine C1 Tryz.func125 110 fun nd E h0=>?_
 have nZ:d.qs.length≤9223372036854775807:=by
  have:=((nd (Jj d) (by simp)).agg (.sl 17 (d.qs.map GR)) (by simp)).sl
  simpa using this
 clear nd
 repeat'((first|refine A1 h1 ?_|refine A1 h2 ?_|refine A1 h3 ?_|refine A1 h4 ?_ |refine S2 ?_|(refine T6 ?_ ?_<;>intro h<;>try exact V1 h)|intro el nX nY|intro el nX|exact T4|refine T5 ?_ ?_|intro ex)<;>try conv=>whnf)
 all_goals first
  |(exfalso;omega)
  |exact A0 rfl (congrArg AV.i (by rw[if_pos (by omega)]))
  |exact A0 rfl (congrArg AV.i (by rw[if_neg (by omega),if_pos (.inl (by assumption))]))
  |exact A0 rfl (congrArg AV.i (by rw[if_neg (by omega),if_pos (.inr (by assumption))]))
  |exact A0 rfl (congrArg AV.i (by rw[if_neg (by omega),if_neg (fun h=>h.elim (fun h=>Bool.false_ne_true (h.symm.trans (show b1=true by assumption))) (fun h=>Bool.false_ne_true (h.symm.trans (show b2=true by assumption)))),if_pos (by omega)]))
  |exact A0 rfl (congrArg AV.i (by rw[if_neg (by omega),if_neg (fun h=>h.elim (fun h=>Bool.false_ne_true (h.symm.trans (show b1=true by assumption))) (fun h=>Bool.false_ne_true (h.symm.trans (show b2=true by assumption)))),if_neg (by omega),if_pos (by omega)]))
  |exact A0 rfl (congrArg AV.i (by rw[if_neg (by omega),if_neg (fun h=>h.elim (fun h=>Bool.false_ne_true (h.symm.trans (show b1=true by assumption))) (fun h=>Bool.false_ne_true (h.symm.trans (show b2=true by assumption)))),if_neg (by omega),if_neg (by omega),if_pos (by omega)]))
  |skip
 rw[if_neg (by omega),if_neg (fun h=>h.elim (fun h=>Bool.false_ne_true (h.symm.trans (show b1=true by assumption))) (fun h=>Bool.false_ne_true (h.symm.trans (show b2=true by assumption)))),if_neg (by omega),if_neg (by omega),if_neg (by omega)]
 clear h1 h2 h3 h4
 refine B2 (ι:=Nat) (fun k=>⟨[(2,.ref 0 0),(3,.ref 1 0),(8,.i k)],2,[(0,some (.box (sL s))),(1,some (.box (MD d)))]⟩) (fun k=>E8 (Ny s d.qs) d.qs k) (fun k=>d.qs.length-k) 0 (E8.zero _ _)
  (A6 h0) (fun k hI=>?_)
 have no:=hI.1
 by_cases nf:k<d.qs.length
 ·obtain⟨x,hx⟩:∃x,d.qs[k]?=some x:=⟨_,List.getElem?_eq_getElem nf⟩
  have h1:=hq x
  have ns:∀e:Int,Ny s d.qs k x=e→¬e=0→e=E4 (Ny s d.qs) 0 d.qs:=fun e h3 h4=>by rw[←h3];exact hI.hit hx (by rw[h3];exact h4)
  have px:Ny s d.qs k x=0→E8 (Ny s d.qs) d.qs (k+1):=fun h=>hI.step hx h
  unfold Ny at ns px
  generalize O3 s x=n at *
  repeat'((first|(refine A2 (x:=x) hx (by omega) ?_)|refine A1 h1 ?_|(refine B5 ?_ ?_;kernel_rfl) |refine S2 ?_|(refine T6 ?_ ?_<;>intro h<;>try exact V1 h)|intro el nX nY|intro el nX|exact T4|refine T5 ?_ ?_|intro ex)<;>try conv=>whnf)
  all_goals first
   |exact A0 rfl (congrArg AV.i (ns n (by rw[if_pos (by omega)]) (by omega)))
   |(exfalso;omega)
   |skip
  refine B2 (ι:=Nat) (fun j=>⟨[(2,.ref 0 0),(3,.ref 1 0),(8,.i k),(10,.i j)],2,[(0,some (.box (sL s))),(1,some (.box (MD d)))]⟩) (fun j=>j≤k∧Q1 (fun y=>decide (y.name=x.name)) (d.qs.take k) j) (fun j=>k-j) 0 ⟨Nat.zero_le _,Q1.zero _ _⟩
   (A6 h0) (fun j hJ=>?_)
  obtain⟨hj,hJ⟩:=hJ
  have wI:(d.qs.take k).length=k:=by rw[List.length_take];omega
  repeat'((first|(refine A2 (x:=x) hx (by omega) ?_)|(refine B5 ?_ ?_;kernel_rfl) |refine S2 ?_|(refine T6 ?_ ?_<;>intro h<;>try exact V1 h)|intro el nX nY|intro el nX|exact T4|refine T5 ?_ ?_|intro ex)<;>try conv=>whnf)
  all_goals first
   |exact A0 rfl (congrArg AV.i (ns 10 (by rw[if_neg (by omega),if_pos (hJ.hit (x:=el) (by rw[List.getElem?_take,if_pos (by omega)];exact nX) (decide_eq_true (by assumption))).symm]) (by omega)))
   |exact⟨j+1,⟨by omega,hJ.step (x:=el) (by rw[List.getElem?_take,if_pos (by omega)];exact nX) (decide_eq_false (by assumption))⟩,by omega,A6 h0⟩
   |exact⟨k+1,px (by rw[if_neg (by omega),if_neg (by rw[←hJ.done (by rw[wI];assumption)];exact Bool.false_ne_true)]),by omega,A6 h0⟩
 ·repeat'((first|refine S2 ?_|(refine T6 ?_ ?_<;>intro h<;>try exact V1 h)|intro el nX nY|intro el nX|exact T4|refine T5 ?_ ?_|intro ex)<;>try conv=>whnf)
  all_goals first
   |(exfalso;omega)
   |exact A0 rfl (congrArg AV.i (hI.done (by omega)).symm)
end Go.Proofs.YtiphlhoclaogjaaGreatDoor

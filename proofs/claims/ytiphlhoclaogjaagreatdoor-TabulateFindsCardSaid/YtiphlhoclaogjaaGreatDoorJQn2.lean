/- Chapter 8: which questions and declarations are right: the reference. -/
import Derived.Test.YtiphlhoclaogjaaGreatDoorJTa8
import Derived.Test.YtiphlhoclaogjaaGreatDoorJF2
import Derived.Test.YtiphlhoclaogjaaGreatDoorJCe3
set_option linter.unusedVariables false
set_option linter.unnecessarySimpa false
set_option linter.unusedSimpArgs false
set_option maxHeartbeats 64000000
namespace Go.Proofs.YtiphlhoclaogjaaGreatDoor
open Go Go.Av
attribute [local irreducible] C9 B3 C8 D1 DQ D0 C7 St.le A3 B8
set_option maxRecDepth 100000
theorem Za(c:B7):A3 Tryz.prog 115 [D5 c] (.b (decide (R1 c))):=by
 have h:=Ol c
 refine B5 Tryz.func115 6 fun nL E h0=>?_
 clear nL
 repeat'((first|refine A0 h ?_ |refine S2 ?_|(refine T6 ?_ ?_<;>intro h<;>try exact V1 h)|intro el nJ nK|intro el nJ|exact T4|refine T5 ?_ ?_|intro ex)<;>try conv=>whnf)
 all_goals first
  |exact A1 rfl rfl
def Pz(s:A4)(q:Y3):Int:=if q.kind=1 then (if ¬Q4 s q.dims=0 then Q4 s q.dims else if ¬q.mea=-1∧¬S0 s q.mea=3 then 7 else 0)else if ¬S0 s q.mea=3 then 7 else if q.kind=2 then X3 s q.mea q.trms else if (B6 s q.mea).low<0 then 2 else J6 s q.evt
theorem mS{s:A4}{c:Int}{k:Int}(h:S0 s c=k)(hk:¬k=0):∃x,0≤c∧s.cols[c.toNat]?=some x:=by
 unfold S0 at h
 split at h
 ·exact⟨_,by omega,List.getElem?_eq_getElem (by omega)⟩
 ·omega
theorem WM(s:A4)(q:Y3):A3 Tryz.prog 114 [sA s,Eu q] (.i (Pz s q)):=by
 have h1:=Ir s q.mea 3
 have h2:=Ok s q.dims
 have h3:=Ly s q.mea q.trms
 have h4:=Y4 s q.evt
 rw[bi _ _ _ (by decide)]at h1
 unfold Pz
 generalize Q4 s q.dims=n1 at *
 generalize X3 s q.mea q.trms=n2 at *
 generalize J6 s q.evt=n3 at *
 by_cases hk:S0 s q.mea=3
 ·obtain⟨x,pY,hx⟩:=mS hk (by decide)
  rw[B9 hx]
  rw[decide_eq_true hk]at h1
  refine B5 Tryz.func114 53 fun nL E h0=>?_
  clear nL
  repeat'((first|(refine A2 (x:=x) hx (by omega) ?_)|refine A0 h1 ?_|refine A0 h2 ?_|refine A0 h3 ?_|refine A0 h4 ?_|(refine A9 ?_ ?_;kernel_rfl) |refine S2 ?_|(refine T6 ?_ ?_<;>intro h<;>try exact V1 h)|intro el nJ nK|intro el nJ|exact T4|refine T5 ?_ ?_|intro ex)<;>try conv=>whnf)
  all_goals first
   |(exfalso;omega)
   |exact A1 rfl (congrArg AV.i (by rw[if_pos (by omega),if_pos (by omega)]))
   |exact A1 rfl (congrArg AV.i (by rw[if_pos (by omega),if_neg (by omega),if_neg (by omega)]))
   |exact A1 rfl (congrArg AV.i (by rw[if_neg (by omega),if_neg (by omega),if_pos (by omega)]))
   |exact A1 rfl (congrArg AV.i (by rw[if_neg (by omega),if_neg (by omega),if_neg (by omega),if_pos (by omega)]))
   |exact A1 rfl (congrArg AV.i (by rw[if_neg (by omega),if_neg (by omega),if_neg (by omega),if_neg (by omega)]))
 ·rw[decide_eq_false hk]at h1
  generalize S0 s q.mea=n4 at *
  refine B5 Tryz.func114 53 fun nL E h0=>?_
  clear nL
  repeat'((first|refine A0 h1 ?_|refine A0 h2 ?_|(refine A9 ?_ ?_;kernel_rfl) |refine S2 ?_|(refine T6 ?_ ?_<;>intro h<;>try exact V1 h)|intro el nJ nK|intro el nJ|exact T4|refine T5 ?_ ?_|intro ex)<;>try conv=>whnf)
  all_goals first
   |(exfalso;omega)
   |exact A1 rfl (congrArg AV.i (by rw[if_pos (by omega),if_pos (by omega)]))
   |exact A1 rfl (congrArg AV.i (by rw[if_pos (by omega),if_neg (by omega),if_pos (by omega)]))
   |exact A1 rfl (congrArg AV.i (by rw[if_pos (by omega),if_neg (by omega),if_neg (by omega)]))
   |exact A1 rfl (congrArg AV.i (by rw[if_neg (by omega),if_pos (by omega)]))
def fR(s:A4)(q:Y3):Int:=if ¬C3 s=0 then C3 s else if D6 q.name=false then 3 else if q.kind<1∨3<q.kind then 4 else if ¬J6 s q.flt=0 then J6 s q.flt else if ¬Pz s q=0 then Pz s q else if ¬q.kind=1∧0<q.dims.length∨¬q.kind=2∧0<q.trms.length∨¬q.kind=3∧¬R1 q.evt then 11 else 0
theorem jg(s:A4)(q:Y3):fR s q=L7 s q:=by
 unfold fR L7
 by_cases a1:¬C3 s=0
 ·rw[if_pos a1,if_pos a1]
 rw[if_neg a1,if_neg a1]
 by_cases a2:D6 q.name=false
 ·rw[if_pos a2,if_pos a2]
 rw[if_neg a2,if_neg a2]
 by_cases a3:q.kind<1∨3<q.kind
 ·rw[if_pos a3,if_pos a3]
 rw[if_neg a3,if_neg a3]
 by_cases a4:¬J6 s q.flt=0
 ·rw[if_pos a4,if_pos a4]
 rw[if_neg a4,if_neg a4]
 unfold Pz
 by_cases k1:q.kind=1
 ·rw[if_pos k1,if_pos k1]
  unfold KP
  by_cases b1:¬Q4 s q.dims=0
  ·rw[if_pos b1,if_pos b1,if_pos b1]
  rw[if_neg b1,if_neg b1]
  by_cases b2:¬q.mea=-1∧¬S0 s q.mea=3
  ·rw[if_pos b2,if_pos b2,if_pos (by decide)]
  rw[if_neg b2,if_neg b2,if_neg (by decide)]
  split<;>split<;>first|rfl|(exfalso;omega)
 ·rw[if_neg k1,if_neg k1]
  by_cases b2:¬S0 s q.mea=3
  ·unfold KQ Mo
   rw[if_pos b2,if_pos (by decide),if_pos b2,if_pos b2]
   split<;>rfl
  rw[if_neg b2]
  by_cases k2:q.kind=2
  ·rw[if_pos k2,if_pos k2]
   unfold KQ
   rw[if_neg b2]
   by_cases b1:¬X3 s q.mea q.trms=0
   ·rw[if_pos b1,if_pos b1]
   rw[if_neg b1,if_neg b1]
   split<;>split<;>first|rfl|(exfalso;omega)
  ·rw[if_neg k2,if_neg k2]
   unfold Mo
   rw[if_neg b2]
   by_cases b3:(B6 s q.mea).low<0
   ·rw[if_pos b3,if_pos b3,if_pos (by decide)]
   rw[if_neg b3,if_neg b3]
   by_cases b1:¬J6 s q.evt=0
   ·rw[if_pos b1,if_pos b1]
   rw[if_neg b1,if_neg b1]
   split<;>split<;>first|rfl|(exfalso;omega)
theorem EZ(s:A4)(q:Y3):A3 Tryz.prog 53 [sA s,Eu q] (.i (L7 s q)):=by
 rw[←jg]
 have h1:=Q6 s
 have h2:=s9 q.name
 have h3:=Y4 s q.flt
 have h4:=WM s q
 have h5:=Za q.evt
 unfold fR
 generalize C3 s=n1 at *
 generalize D6 q.name=b at *
 generalize J6 s q.flt=n2 at *
 generalize Pz s q=n3 at *
 by_cases pC:R1 q.evt
 ·rw[decide_eq_true pC]at h5
  refine B5 Tryz.func53 69 fun nL E h0=>?_
  clear nL
  repeat'((first|refine A0 h1 ?_|refine A0 h2 ?_|refine A0 h3 ?_|refine A0 h4 ?_|refine A0 h5 ?_ |refine S2 ?_|(refine T6 ?_ ?_<;>intro h<;>try exact V1 h)|intro el nJ nK|intro el nJ|exact T4|refine T5 ?_ ?_|intro ex)<;>try conv=>whnf)
  all_goals first
   |(exfalso;omega)
   |exact A1 rfl (congrArg AV.i (by rw[if_pos (by omega)]))
   |exact A1 rfl (congrArg AV.i (by rw[if_neg (by omega),if_pos (by assumption)]))
   |exact A1 rfl (congrArg AV.i (by rw[if_neg (by omega),if_neg (fun h=>Bool.false_ne_true (h.symm.trans (show b=true by assumption))),if_pos (by omega)]))
   |exact A1 rfl (congrArg AV.i (by rw[if_neg (by omega),if_neg (fun h=>Bool.false_ne_true (h.symm.trans (show b=true by assumption))),if_neg (by omega),if_pos (by omega)]))
   |exact A1 rfl (congrArg AV.i (by rw[if_neg (by omega),if_neg (fun h=>Bool.false_ne_true (h.symm.trans (show b=true by assumption))),if_neg (by omega),if_neg (by omega),if_pos (by omega)]))
   |exact A1 rfl (congrArg AV.i (by rw[if_neg (by omega),if_neg (fun h=>Bool.false_ne_true (h.symm.trans (show b=true by assumption))),if_neg (by omega),if_neg (by omega),if_neg (by omega),if_pos (by omega)]))
   |exact A1 rfl (congrArg AV.i (by rw[if_neg (by omega),if_neg (fun h=>Bool.false_ne_true (h.symm.trans (show b=true by assumption))),if_neg (by omega),if_neg (by omega),if_neg (by omega),if_neg (by omega)]))
 ·rw[decide_eq_false pC]at h5
  have nu:¬q.evt.op=0∨¬q.evt.col=0∨¬q.evt.code=0∨¬q.evt.lo=0∨¬q.evt.hi=0∨¬q.evt.kids.length=0:=by omega
  refine B5 Tryz.func53 69 fun nL E h0=>?_
  clear nL
  repeat'((first|refine A0 h1 ?_|refine A0 h2 ?_|refine A0 h3 ?_|refine A0 h4 ?_|refine A0 h5 ?_ |refine S2 ?_|(refine T6 ?_ ?_<;>intro h<;>try exact V1 h)|intro el nJ nK|intro el nJ|exact T4|refine T5 ?_ ?_|intro ex)<;>try conv=>whnf)
  all_goals first
   |(exfalso;clear pC nu;omega)
   |exact A1 rfl (congrArg AV.i (by rw[if_pos (by clear pC nu;omega)]))
   |exact A1 rfl (congrArg AV.i (by rw[if_neg (by clear pC nu;omega),if_pos (by assumption)]))
   |exact A1 rfl (congrArg AV.i (by rw[if_neg (by clear pC nu;omega),if_neg (fun h=>Bool.false_ne_true (h.symm.trans (show b=true by assumption))),if_pos (by clear pC nu;omega)]))
   |exact A1 rfl (congrArg AV.i (by rw[if_neg (by clear pC nu;omega),if_neg (fun h=>Bool.false_ne_true (h.symm.trans (show b=true by assumption))),if_neg (by clear pC nu;omega),if_pos (by clear pC nu;omega)]))
   |exact A1 rfl (congrArg AV.i (by rw[if_neg (by clear pC nu;omega),if_neg (fun h=>Bool.false_ne_true (h.symm.trans (show b=true by assumption))),if_neg (by clear pC nu;omega),if_neg (by clear pC nu;omega),if_pos (by clear pC nu;omega)]))
   |exact A1 rfl (congrArg AV.i (by rw[if_neg (by clear pC nu;omega),if_neg (fun h=>Bool.false_ne_true (h.symm.trans (show b=true by assumption))),if_neg (by clear pC nu;omega),if_neg (by clear pC nu;omega),if_neg (by clear pC nu;omega),if_pos (.inl ⟨by clear pC nu;omega,by clear pC nu;omega⟩)]))
   |exact A1 rfl (congrArg AV.i (by rw[if_neg (by clear pC nu;omega),if_neg (fun h=>Bool.false_ne_true (h.symm.trans (show b=true by assumption))),if_neg (by clear pC nu;omega),if_neg (by clear pC nu;omega),if_neg (by clear pC nu;omega),if_pos (.inr (.inl ⟨by clear pC nu;omega,by clear pC nu;omega⟩))]))
   |exact A1 rfl (congrArg AV.i (by rw[if_neg (by clear pC nu;omega),if_neg (fun h=>Bool.false_ne_true (h.symm.trans (show b=true by assumption))),if_neg (by clear pC nu;omega),if_neg (by clear pC nu;omega),if_neg (by clear pC nu;omega),if_pos (.inr (.inr ⟨by clear pC nu;omega,pC⟩))]))
   |exact A1 rfl (congrArg AV.i (by rw[if_neg (by clear pC nu;omega),if_neg (fun h=>Bool.false_ne_true (h.symm.trans (show b=true by assumption))),if_neg (by clear pC nu;omega),if_neg (by clear pC nu;omega),if_neg (by clear pC nu;omega),if_neg (by omega)]))
theorem Ke(s:A4)(d:Dm):A3 Tryz.prog 125 [sA s,KO d] (.i (GH s d)):=by
 have h1:=Q6 s
 have h2:=s9 d.prj
 have h3:=s9 d.src
 have h4:=Y4 s d.coh
 have hq:=fun x=>EZ s x
 unfold GH
 generalize C3 s=n1 at *
 generalize D6 d.prj=b1 at *
 generalize D6 d.src=b2 at *
 generalize J6 s d.coh=n2 at *
 refine B5 Tryz.func125 110 fun nL E h0=>?_
 have nM:d.qs.length≤9223372036854775807:=by
  have:=((nL (KO d) (by simp)).agg (.sl 17 (d.qs.map HI)) (by simp)).sl
  simpa using this
 clear nL
 repeat'((first|refine A0 h1 ?_|refine A0 h2 ?_|refine A0 h3 ?_|refine A0 h4 ?_ |refine S2 ?_|(refine T6 ?_ ?_<;>intro h<;>try exact V1 h)|intro el nJ nK|intro el nJ|exact T4|refine T5 ?_ ?_|intro ex)<;>try conv=>whnf)
 all_goals first
  |(exfalso;omega)
  |exact A1 rfl (congrArg AV.i (by rw[if_pos (by omega)]))
  |exact A1 rfl (congrArg AV.i (by rw[if_neg (by omega),if_pos (.inl (by assumption))]))
  |exact A1 rfl (congrArg AV.i (by rw[if_neg (by omega),if_pos (.inr (by assumption))]))
  |exact A1 rfl (congrArg AV.i (by rw[if_neg (by omega),if_neg (fun h=>h.elim (fun h=>Bool.false_ne_true (h.symm.trans (show b1=true by assumption))) (fun h=>Bool.false_ne_true (h.symm.trans (show b2=true by assumption)))),if_pos (by omega)]))
  |exact A1 rfl (congrArg AV.i (by rw[if_neg (by omega),if_neg (fun h=>h.elim (fun h=>Bool.false_ne_true (h.symm.trans (show b1=true by assumption))) (fun h=>Bool.false_ne_true (h.symm.trans (show b2=true by assumption)))),if_neg (by omega),if_pos (by omega)]))
  |exact A1 rfl (congrArg AV.i (by rw[if_neg (by omega),if_neg (fun h=>h.elim (fun h=>Bool.false_ne_true (h.symm.trans (show b1=true by assumption))) (fun h=>Bool.false_ne_true (h.symm.trans (show b2=true by assumption)))),if_neg (by omega),if_neg (by omega),if_pos (by omega)]))
  |skip
 rw[if_neg (by omega),if_neg (fun h=>h.elim (fun h=>Bool.false_ne_true (h.symm.trans (show b1=true by assumption))) (fun h=>Bool.false_ne_true (h.symm.trans (show b2=true by assumption)))),if_neg (by omega),if_neg (by omega),if_neg (by omega)]
 clear h1 h2 h3 h4
 refine B0 (ι:=Nat) (fun k=>⟨[(2,.ref 0 0),(3,.ref 1 0),(8,.i k)],2,[(0,some (.box (sL s))),(1,some (.box (Mn d)))]⟩) (fun k=>F2 (Ue s d.qs) d.qs k) (fun k=>d.qs.length-k) 0 (F2.zero _ _)
  (A6 h0) (fun k hI=>?_)
 have nU:=hI.1
 by_cases nN:k<d.qs.length
 ·obtain⟨x,hx⟩:∃x,d.qs[k]?=some x:=⟨_,List.getElem?_eq_getElem nN⟩
  have h1:=hq x
  have nf:∀e:Int,Ue s d.qs k x=e→¬e=0→e=F3 (Ue s d.qs) 0 d.qs:=fun e h3 h4=>by rw[←h3];exact hI.hit hx (by rw[h3];exact h4)
  have pu:Ue s d.qs k x=0→F2 (Ue s d.qs) d.qs (k+1):=fun h=>hI.step hx h
  unfold Ue at nf pu
  generalize L7 s x=n at *
  repeat'((first|(refine A2 (x:=x) hx (by omega) ?_)|refine A0 h1 ?_|(refine A9 ?_ ?_;kernel_rfl) |refine S2 ?_|(refine T6 ?_ ?_<;>intro h<;>try exact V1 h)|intro el nJ nK|intro el nJ|exact T4|refine T5 ?_ ?_|intro ex)<;>try conv=>whnf)
  all_goals first
   |exact A1 rfl (congrArg AV.i (nf n (by rw[if_pos (by omega)]) (by omega)))
   |(exfalso;omega)
   |skip
  refine B0 (ι:=Nat) (fun j=>⟨[(2,.ref 0 0),(3,.ref 1 0),(8,.i k),(10,.i j)],2,[(0,some (.box (sL s))),(1,some (.box (Mn d)))]⟩) (fun j=>j≤k∧P6 (fun y=>decide (y.name=x.name)) (d.qs.take k) j) (fun j=>k-j) 0 ⟨Nat.zero_le _,P6.zero _ _⟩
   (A6 h0) (fun j hJ=>?_)
  obtain⟨hj,hJ⟩:=hJ
  have xp:(d.qs.take k).length=k:=by rw[List.length_take];omega
  repeat'((first|(refine A2 (x:=x) hx (by omega) ?_)|(refine A9 ?_ ?_;kernel_rfl) |refine S2 ?_|(refine T6 ?_ ?_<;>intro h<;>try exact V1 h)|intro el nJ nK|intro el nJ|exact T4|refine T5 ?_ ?_|intro ex)<;>try conv=>whnf)
  all_goals first
   |exact A1 rfl (congrArg AV.i (nf 10 (by rw[if_neg (by omega),if_pos (hJ.hit (x:=el) (by rw[List.getElem?_take,if_pos (by omega)];exact nJ) (decide_eq_true (by assumption))).symm]) (by omega)))
   |exact⟨j+1,⟨by omega,hJ.step (x:=el) (by rw[List.getElem?_take,if_pos (by omega)];exact nJ) (decide_eq_false (by assumption))⟩,by omega,A7 h0 rfl ⟨rfl,rfl,rfl,rfl,trivial⟩ ⟨rfl,rfl,trivial⟩ rfl rfl rfl⟩
   |exact⟨k+1,pu (by rw[if_neg (by omega),if_neg (by rw[←hJ.done (by rw[xp];assumption)];exact Bool.false_ne_true)]),by omega,A6 h0⟩
 ·repeat'((first|refine S2 ?_|(refine T6 ?_ ?_<;>intro h<;>try exact V1 h)|intro el nJ nK|intro el nJ|exact T4|refine T5 ?_ ?_|intro ex)<;>try conv=>whnf)
  all_goals first
   |(exfalso;omega)
   |exact A1 rfl (congrArg AV.i (hI.done (by omega)).symm)
end Go.Proofs.YtiphlhoclaogjaaGreatDoor

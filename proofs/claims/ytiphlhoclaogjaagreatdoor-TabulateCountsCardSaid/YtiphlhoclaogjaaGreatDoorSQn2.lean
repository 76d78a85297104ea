/- Chapter 8: which questions and declarations are right: the reference. -/
import Derived.Test.YtiphlhoclaogjaaGreatDoorSQn1
import Derived.Test.YtiphlhoclaogjaaGreatDoorSTa9
import Derived.Test.YtiphlhoclaogjaaGreatDoorSCe3
set_option linter.unusedVariables false
set_option linter.unnecessarySimpa false
set_option linter.unusedSimpArgs false
set_option maxHeartbeats 64000000
namespace Go.Proofs.YtiphlhoclaogjaaGreatDoor
open Go Go.Av
attribute [local irreducible] C7 B2 D3 C9 DQ D0 C8 St.le A3 B9
set_option maxRecDepth 100000
theorem Yi(c:B1):A3 Tryz.prog 115 [E0 c] (.b (decide (Y0 c))):=by
 have h:=YT c
 refine B6 Tryz.func115 6 fun lW E h0=>?_
 clear lW
 repeat'((first|refine A1 h ?_ |refine S2 ?_|(refine T6 ?_ ?_<;>intro h<;>try exact V1 h)|intro el lU lV|intro el lU|exact T4|refine T5 ?_ ?_|intro ex)<;>try conv=>whnf)
 all_goals first
  |exact A0 rfl rfl
def PH(s:A4)(q:N6):Int:=if q.kind=1 then (if ¬Q8 s q.dims=0 then Q8 s q.dims else if ¬q.mea=-1∧¬Q9 s q.mea=3 then 7 else 0)else if ¬Q9 s q.mea=3 then 7 else if q.kind=2 then Z7 s q.mea q.trms else if (C0 s q.mea).low<0 then 2 else K7 s q.evt
theorem kZ{s:A4}{c:Int}{k:Int}(h:Q9 s c=k)(hk:¬k=0):∃x,0≤c∧s.cols[c.toNat]?=some x:=by
 unfold Q9 at h
 split at h
 ·exact⟨_,by omega,List.getElem?_eq_getElem (by omega)⟩
 ·omega
theorem VY(s:A4)(q:N6):A3 Tryz.prog 114 [sA s,x8 q] (.i (PH s q)):=by
 have h1:=MC s q.mea 3
 have h2:=YS s q.dims
 have h3:=VO s q.mea q.trms
 have h4:=x9 s q.evt
 rw[af _ _ _ (by decide)]at h1
 unfold PH
 generalize Q8 s q.dims=n1 at *
 generalize Z7 s q.mea q.trms=n2 at *
 generalize K7 s q.evt=n3 at *
 by_cases hk:Q9 s q.mea=3
 ·obtain⟨x,nf,hx⟩:=kZ hk (by decide)
  rw[C1 hx]
  rw[decide_eq_true hk]at h1
  refine B6 Tryz.func114 53 fun lW E h0=>?_
  clear lW
  repeat'((first|(refine A2 (x:=x) hx (by omega) ?_)|refine A1 h1 ?_|refine A1 h2 ?_|refine A1 h3 ?_|refine A1 h4 ?_|(refine B3 ?_ ?_;kernel_rfl) |refine S2 ?_|(refine T6 ?_ ?_<;>intro h<;>try exact V1 h)|intro el lU lV|intro el lU|exact T4|refine T5 ?_ ?_|intro ex)<;>try conv=>whnf)
  all_goals first
   |(exfalso;omega)
   |exact A0 rfl (congrArg AV.i (by rw[if_pos (by omega),if_pos (by omega)]))
   |exact A0 rfl (congrArg AV.i (by rw[if_pos (by omega),if_neg (by omega),if_neg (by omega)]))
   |exact A0 rfl (congrArg AV.i (by rw[if_neg (by omega),if_neg (by omega),if_pos (by omega)]))
   |exact A0 rfl (congrArg AV.i (by rw[if_neg (by omega),if_neg (by omega),if_neg (by omega),if_pos (by omega)]))
   |exact A0 rfl (congrArg AV.i (by rw[if_neg (by omega),if_neg (by omega),if_neg (by omega),if_neg (by omega)]))
 ·rw[decide_eq_false hk]at h1
  generalize Q9 s q.mea=n4 at *
  refine B6 Tryz.func114 53 fun lW E h0=>?_
  clear lW
  repeat'((first|refine A1 h1 ?_|refine A1 h2 ?_|(refine B3 ?_ ?_;kernel_rfl) |refine S2 ?_|(refine T6 ?_ ?_<;>intro h<;>try exact V1 h)|intro el lU lV|intro el lU|exact T4|refine T5 ?_ ?_|intro ex)<;>try conv=>whnf)
  all_goals first
   |(exfalso;omega)
   |exact A0 rfl (congrArg AV.i (by rw[if_pos (by omega),if_pos (by omega)]))
   |exact A0 rfl (congrArg AV.i (by rw[if_pos (by omega),if_neg (by omega),if_pos (by omega)]))
   |exact A0 rfl (congrArg AV.i (by rw[if_pos (by omega),if_neg (by omega),if_neg (by omega)]))
   |exact A0 rfl (congrArg AV.i (by rw[if_neg (by omega),if_pos (by omega)]))
def dv(s:A4)(q:N6):Int:=if ¬C3 s=0 then C3 s else if D6 q.name=false then 3 else if q.kind<1∨3<q.kind then 4 else if ¬K7 s q.flt=0 then K7 s q.flt else if ¬PH s q=0 then PH s q else if ¬q.kind=1∧0<q.dims.length∨¬q.kind=2∧0<q.trms.length∨¬q.kind=3∧¬Y0 q.evt then 11 else 0
theorem iF(s:A4)(q:N6):dv s q=Q1 s q:=by
 unfold dv Q1
 by_cases a1:¬C3 s=0
 ·rw[if_pos a1,if_pos a1]
 rw[if_neg a1,if_neg a1]
 by_cases a2:D6 q.name=false
 ·rw[if_pos a2,if_pos a2]
 rw[if_neg a2,if_neg a2]
 by_cases a3:q.kind<1∨3<q.kind
 ·rw[if_pos a3,if_pos a3]
 rw[if_neg a3,if_neg a3]
 by_cases a4:¬K7 s q.flt=0
 ·rw[if_pos a4,if_pos a4]
 rw[if_neg a4,if_neg a4]
 unfold PH
 by_cases k1:q.kind=1
 ·rw[if_pos k1,if_pos k1]
  unfold Jj
  by_cases b1:¬Q8 s q.dims=0
  ·rw[if_pos b1,if_pos b1,if_pos b1]
  rw[if_neg b1,if_neg b1]
  by_cases b2:¬q.mea=-1∧¬Q9 s q.mea=3
  ·rw[if_pos b2,if_pos b2,if_pos (by decide)]
  rw[if_neg b2,if_neg b2,if_neg (by decide)]
  split<;>split<;>first|rfl|(exfalso;omega)
 ·rw[if_neg k1,if_neg k1]
  by_cases b2:¬Q9 s q.mea=3
  ·unfold Jk MA
   rw[if_pos b2,if_pos (by decide),if_pos b2,if_pos b2]
   split<;>rfl
  rw[if_neg b2]
  by_cases k2:q.kind=2
  ·rw[if_pos k2,if_pos k2]
   unfold Jk
   rw[if_neg b2]
   by_cases b1:¬Z7 s q.mea q.trms=0
   ·rw[if_pos b1,if_pos b1]
   rw[if_neg b1,if_neg b1]
   split<;>split<;>first|rfl|(exfalso;omega)
  ·rw[if_neg k2,if_neg k2]
   unfold MA
   rw[if_neg b2]
   by_cases b3:(C0 s q.mea).low<0
   ·rw[if_pos b3,if_pos b3,if_pos (by decide)]
   rw[if_neg b3,if_neg b3]
   by_cases b1:¬K7 s q.evt=0
   ·rw[if_pos b1,if_pos b1]
   rw[if_neg b1,if_neg b1]
   split<;>split<;>first|rfl|(exfalso;omega)
theorem Gb(s:A4)(q:N6):A3 Tryz.prog 53 [sA s,x8 q] (.i (Q1 s q)):=by
 rw[←iF]
 have h1:=T3 s
 have h2:=AE q.name
 have h3:=x9 s q.flt
 have h4:=VY s q
 have h5:=Yi q.evt
 unfold dv
 generalize C3 s=n1 at *
 generalize D6 q.name=b at *
 generalize K7 s q.flt=n2 at *
 generalize PH s q=n3 at *
 by_cases nG:Y0 q.evt
 ·rw[decide_eq_true nG]at h5
  refine B6 Tryz.func53 69 fun lW E h0=>?_
  clear lW
  repeat'((first|refine A1 h1 ?_|refine A1 h2 ?_|refine A1 h3 ?_|refine A1 h4 ?_|refine A1 h5 ?_ |refine S2 ?_|(refine T6 ?_ ?_<;>intro h<;>try exact V1 h)|intro el lU lV|intro el lU|exact T4|refine T5 ?_ ?_|intro ex)<;>try conv=>whnf)
  all_goals first
   |(exfalso;omega)
   |exact A0 rfl (congrArg AV.i (by rw[if_pos (by omega)]))
   |exact A0 rfl (congrArg AV.i (by rw[if_neg (by omega),if_pos (by assumption)]))
   |exact A0 rfl (congrArg AV.i (by rw[if_neg (by omega),if_neg (fun h=>Bool.false_ne_true (h.symm.trans (show b=true by assumption))),if_pos (by omega)]))
   |exact A0 rfl (congrArg AV.i (by rw[if_neg (by omega),if_neg (fun h=>Bool.false_ne_true (h.symm.trans (show b=true by assumption))),if_neg (by omega),if_pos (by omega)]))
   |exact A0 rfl (congrArg AV.i (by rw[if_neg (by omega),if_neg (fun h=>Bool.false_ne_true (h.symm.trans (show b=true by assumption))),if_neg (by omega),if_neg (by omega),if_pos (by omega)]))
   |exact A0 rfl (congrArg AV.i (by rw[if_neg (by omega),if_neg (fun h=>Bool.false_ne_true (h.symm.trans (show b=true by assumption))),if_neg (by omega),if_neg (by omega),if_neg (by omega),if_pos (by omega)]))
   |exact A0 rfl (congrArg AV.i (by rw[if_neg (by omega),if_neg (fun h=>Bool.false_ne_true (h.symm.trans (show b=true by assumption))),if_neg (by omega),if_neg (by omega),if_neg (by omega),if_neg (by omega)]))
 ·rw[decide_eq_false nG]at h5
  have mF:¬q.evt.op=0∨¬q.evt.col=0∨¬q.evt.code=0∨¬q.evt.lo=0∨¬q.evt.hi=0∨¬q.evt.kids.length=0:=by omega
  refine B6 Tryz.func53 69 fun lW E h0=>?_
  clear lW
  repeat'((first|refine A1 h1 ?_|refine A1 h2 ?_|refine A1 h3 ?_|refine A1 h4 ?_|refine A1 h5 ?_ |refine S2 ?_|(refine T6 ?_ ?_<;>intro h<;>try exact V1 h)|intro el lU lV|intro el lU|exact T4|refine T5 ?_ ?_|intro ex)<;>try conv=>whnf)
  all_goals first
   |(exfalso;clear nG mF;omega)
   |exact A0 rfl (congrArg AV.i (by rw[if_pos (by clear nG mF;omega)]))
   |exact A0 rfl (congrArg AV.i (by rw[if_neg (by clear nG mF;omega),if_pos (by assumption)]))
   |exact A0 rfl (congrArg AV.i (by rw[if_neg (by clear nG mF;omega),if_neg (fun h=>Bool.false_ne_true (h.symm.trans (show b=true by assumption))),if_pos (by clear nG mF;omega)]))
   |exact A0 rfl (congrArg AV.i (by rw[if_neg (by clear nG mF;omega),if_neg (fun h=>Bool.false_ne_true (h.symm.trans (show b=true by assumption))),if_neg (by clear nG mF;omega),if_pos (by clear nG mF;omega)]))
   |exact A0 rfl (congrArg AV.i (by rw[if_neg (by clear nG mF;omega),if_neg (fun h=>Bool.false_ne_true (h.symm.trans (show b=true by assumption))),if_neg (by clear nG mF;omega),if_neg (by clear nG mF;omega),if_pos (by clear nG mF;omega)]))
   |exact A0 rfl (congrArg AV.i (by rw[if_neg (by clear nG mF;omega),if_neg (fun h=>Bool.false_ne_true (h.symm.trans (show b=true by assumption))),if_neg (by clear nG mF;omega),if_neg (by clear nG mF;omega),if_neg (by clear nG mF;omega),if_pos (.inl ⟨by clear nG mF;omega,by clear nG mF;omega⟩)]))
   |exact A0 rfl (congrArg AV.i (by rw[if_neg (by clear nG mF;omega),if_neg (fun h=>Bool.false_ne_true (h.symm.trans (show b=true by assumption))),if_neg (by clear nG mF;omega),if_neg (by clear nG mF;omega),if_neg (by clear nG mF;omega),if_pos (.inr (.inl ⟨by clear nG mF;omega,by clear nG mF;omega⟩))]))
   |exact A0 rfl (congrArg AV.i (by rw[if_neg (by clear nG mF;omega),if_neg (fun h=>Bool.false_ne_true (h.symm.trans (show b=true by assumption))),if_neg (by clear nG mF;omega),if_neg (by clear nG mF;omega),if_neg (by clear nG mF;omega),if_pos (.inr (.inr ⟨by clear nG mF;omega,nG⟩))]))
   |exact A0 rfl (congrArg AV.i (by rw[if_neg (by clear nG mF;omega),if_neg (fun h=>Bool.false_ne_true (h.symm.trans (show b=true by assumption))),if_neg (by clear nG mF;omega),if_neg (by clear nG mF;omega),if_neg (by clear nG mF;omega),if_neg (by omega)]))
theorem FV(s:A4)(d:o6):A3 Tryz.prog 125 [sA s,EN d] (.i (CR s d)):=by
 have h1:=T3 s
 have h2:=AE d.prj
 have h3:=AE d.src
 have h4:=x9 s d.coh
 have hq:=fun x=>Gb s x
 unfold CR
 generalize C3 s=n1 at *
 generalize D6 d.prj=b1 at *
 generalize D6 d.src=b2 at *
 generalize K7 s d.coh=n2 at *
 refine B6 Tryz.func125 110 fun lW E h0=>?_
 have lX:d.qs.length≤9223372036854775807:=by
  have:=((lW (EN d) (by simp)).agg (.sl 17 (d.qs.map Bj)) (by simp)).sl
  simpa using this
 clear lW
 repeat'((first|refine A1 h1 ?_|refine A1 h2 ?_|refine A1 h3 ?_|refine A1 h4 ?_ |refine S2 ?_|(refine T6 ?_ ?_<;>intro h<;>try exact V1 h)|intro el lU lV|intro el lU|exact T4|refine T5 ?_ ?_|intro ex)<;>try conv=>whnf)
 all_goals first
  |(exfalso;omega)
  |exact A0 rfl (congrArg AV.i (by rw[if_pos (by omega)]))
  |exact A0 rfl (congrArg AV.i (by rw[if_neg (by omega),if_pos (.inl (by assumption))]))
  |exact A0 rfl (congrArg AV.i (by rw[if_neg (by omega),if_pos (.inr (by assumption))]))
  |exact A0 rfl (congrArg AV.i (by rw[if_neg (by omega),if_neg (fun h=>h.elim (fun h=>Bool.false_ne_true (h.symm.trans (show b1=true by assumption))) (fun h=>Bool.false_ne_true (h.symm.trans (show b2=true by assumption)))),if_pos (by omega)]))
  |exact A0 rfl (congrArg AV.i (by rw[if_neg (by omega),if_neg (fun h=>h.elim (fun h=>Bool.false_ne_true (h.symm.trans (show b1=true by assumption))) (fun h=>Bool.false_ne_true (h.symm.trans (show b2=true by assumption)))),if_neg (by omega),if_pos (by omega)]))
  |exact A0 rfl (congrArg AV.i (by rw[if_neg (by omega),if_neg (fun h=>h.elim (fun h=>Bool.false_ne_true (h.symm.trans (show b1=true by assumption))) (fun h=>Bool.false_ne_true (h.symm.trans (show b2=true by assumption)))),if_neg (by omega),if_neg (by omega),if_pos (by omega)]))
  |skip
 rw[if_neg (by omega),if_neg (fun h=>h.elim (fun h=>Bool.false_ne_true (h.symm.trans (show b1=true by assumption))) (fun h=>Bool.false_ne_true (h.symm.trans (show b2=true by assumption)))),if_neg (by omega),if_neg (by omega),if_neg (by omega)]
 clear h1 h2 h3 h4
 refine B0 (ι:=Nat) (fun k=>⟨[(2,.ref 0 0),(3,.ref 1 0),(8,.i k)],2,[(0,some (.box (sL s))),(1,some (.box (BO d)))]⟩) (fun k=>E9 (To s d.qs) d.qs k) (fun k=>d.qs.length-k) 0 (E9.zero _ _)
  (A6 h0) (fun k hI=>?_)
 have lk:=hI.1
 by_cases lY:k<d.qs.length
 ·obtain⟨x,hx⟩:∃x,d.qs[k]?=some x:=⟨_,List.getElem?_eq_getElem lY⟩
  have h1:=hq x
  have ln:∀e:Int,To s d.qs k x=e→¬e=0→e=F0 (To s d.qs) 0 d.qs:=fun e h3 h4=>by rw[←h3];exact hI.hit hx (by rw[h3];exact h4)
  have oA:To s d.qs k x=0→E9 (To s d.qs) d.qs (k+1):=fun h=>hI.step hx h
  unfold To at ln oA
  generalize Q1 s x=n at *
  repeat'((first|(refine A2 (x:=x) hx (by omega) ?_)|refine A1 h1 ?_|(refine B3 ?_ ?_;kernel_rfl) |refine S2 ?_|(refine T6 ?_ ?_<;>intro h<;>try exact V1 h)|intro el lU lV|intro el lU|exact T4|refine T5 ?_ ?_|intro ex)<;>try conv=>whnf)
  all_goals first
   |exact A0 rfl (congrArg AV.i (ln n (by rw[if_pos (by omega)]) (by omega)))
   |(exfalso;omega)
   |skip
  refine B0 (ι:=Nat) (fun j=>⟨[(2,.ref 0 0),(3,.ref 1 0),(8,.i k),(10,.i j)],2,[(0,some (.box (sL s))),(1,some (.box (BO d)))]⟩) (fun j=>j≤k∧P7 (fun y=>decide (y.name=x.name)) (d.qs.take k) j) (fun j=>k-j) 0 ⟨Nat.zero_le _,P7.zero _ _⟩
   (A6 h0) (fun j hJ=>?_)
  obtain⟨hj,hJ⟩:=hJ
  have vQ:(d.qs.take k).length=k:=by rw[List.length_take];omega
  repeat'((first|(refine A2 (x:=x) hx (by omega) ?_)|(refine B3 ?_ ?_;kernel_rfl) |refine S2 ?_|(refine T6 ?_ ?_<;>intro h<;>try exact V1 h)|intro el lU lV|intro el lU|exact T4|refine T5 ?_ ?_|intro ex)<;>try conv=>whnf)
  all_goals first
   |exact A0 rfl (congrArg AV.i (ln 10 (by rw[if_neg (by omega),if_pos (hJ.hit (x:=el) (by rw[List.getElem?_take,if_pos (by omega)];exact lU) (decide_eq_true (by assumption))).symm]) (by omega)))
   |exact⟨j+1,⟨by omega,hJ.step (x:=el) (by rw[List.getElem?_take,if_pos (by omega)];exact lU) (decide_eq_false (by assumption))⟩,by omega,A6 h0⟩
   |exact⟨k+1,oA (by rw[if_neg (by omega),if_neg (by rw[←hJ.done (by rw[vQ];assumption)];exact Bool.false_ne_true)]),by omega,A6 h0⟩
 ·repeat'((first|refine S2 ?_|(refine T6 ?_ ?_<;>intro h<;>try exact V1 h)|intro el lU lV|intro el lU|exact T4|refine T5 ?_ ?_|intro ex)<;>try conv=>whnf)
  all_goals first
   |(exfalso;omega)
   |exact A0 rfl (congrArg AV.i (hI.done (by omega)).symm)
end Go.Proofs.YtiphlhoclaogjaaGreatDoor

/- Chapter 5: the reference's needs of a condition. -/
import Derived.Test.YtjkbhaaobhgkdabGreatDoorRCe3
import Derived.Test.YtjkbhaaobhgkdabGreatDoorRCe6
import Derived.Test.YtjkbhaaobhgkdabGreatDoorRCe7
import Derived.Test.YtjkbhaaobhgkdabGreatDoorRQn1
import Derived.Test.YtjkbhaaobhgkdabGreatDoorRTa9
set_option linter.unusedVariables false
set_option linter.unnecessarySimpa false
set_option linter.unusedSimpArgs false
set_option maxHeartbeats 64000000
namespace Go.Proofs.YtjkbhaaobhgkdabGreatDoor
open Go Go.Av
attribute [local irreducible] D0 B0 D2 C7 DQ D1 C8 St.le A3 B6
set_option maxRecDepth 100000
theorem br(s:A4)(a:B1)(level:Int)(hr:C5 s=0)(ha:G4 s a=0)(ho:a.op=2∨a.op=3∨a.op=4)(h0:0≤level)(h1:level≤F0 s a.col):A3 Tryz.prog 197 [sA s,E7 a,.i level] (.b (X4 s a level)):=by
 by_cases h2:a.op=2
 ·exact ZF s a level hr ha h2 h0 h1
 ·exact ZG s a level hr ha (by omega) h0 h1
theorem Ld(s:A4)(c:B1):A3 Tryz.prog 165 [sA s,E7 c] (.sl 2 ((L5 s c).map B5)):=by
 have oU:=At s c
 unfold L5
 by_cases rq:J6 s c=0
 ·rw[if_pos rq]
  obtain⟨hr,ht,hd,oe⟩:=BH rq
  have uz:=Vm c (by omega)
  have nO:=Gu c
  have hn:=(F2 hr).2.1
  have rh:=Fz c oe
  rw[F8]at *
  generalize hA:Y5 c=A at *
  refine C0 Tryz.func165 40 fun nQ E h0=>?_
  clear nQ
  repeat'((first|refine A1 oU ?_|refine A1 uz ?_ |refine S2 ?_|(refine T6 ?_ ?_<;>intro h<;>try exact V1 h)|intro el nN nP|intro el nN|exact T4|refine T5 ?_ ?_|intro ex)<;>try conv=>whnf)
  all_goals first
   |exact absurd rq (by assumption)
   |skip
  refine B2 (ι:=Nat) (fun k=>⟨[(2,.ref 0 0),(3,.ref 1 0),(5,.sl 2 ((K6 (s8 s (A.take k)) 0 s.cols.length).map B5)),(6,.sl 6 (A.map K2)),(7,.i k)],2,[(0,some (.box (sL s))),(1,some (.box (O4 c)))]⟩)
   (fun k=>k≤A.length) (fun k=>A.length-k) 0 (Nat.zero_le _)
   (C2 (Zu (d:=5) (sz:=2) rfl) (A8 h0 rfl ⟨rfl,rfl,congrArg (fun z=>some (AV.sl 2 z)) (by rw[List.take_zero,Wf,Ja];rfl),rfl,rfl,trivial⟩ ⟨rfl,rfl,trivial⟩ rfl rfl rfl)) (fun k hk=>?_)
  by_cases nR:k<A.length
  ·obtain⟨el,nN⟩:∃el,A[k]?=some el:=⟨_,List.getElem?_eq_getElem nR⟩
   obtain⟨r1,r2⟩:=rh el (List.mem_of_getElem? nN)
   obtain⟨l1,l2,l3⟩:=JX hr r1 r2
   obtain⟨x,hx,c1,c2,_⟩:=x8 hr r1 r2
   have nu:=Om hr el.col
   repeat'((first|(refine A2 (x:=el) nN (by omega) ?_) |refine S2 ?_|(refine T6 ?_ ?_<;>intro h<;>try exact V1 h)|intro el nN nP|intro el nN|exact T4|refine T5 ?_ ?_|intro ex)<;>try conv=>whnf)
   all_goals first
    |(exfalso;omega)
    |skip
   refine B2 (ι:=Nat) (fun j=>⟨[(2,.ref 0 0),(3,.ref 1 0),(5,.sl 2 ((K6 (s8 s (A.take k)) 0 s.cols.length).map B5)),(6,.sl 6 (A.map K2)),(7,.i k),(8,.i j)],2,[(0,some (.box (sL s))),(1,some (.box (O4 c)))]⟩)
    (fun j=>j≤s7 s el) (fun j=>s7 s el-j) 0 (Nat.zero_le _) (A6 h0) (fun j hj=>?_)
   have hc:=br s el j hr r1 r2 (by omega) (by omega)
   by_cases hs:X4 s el j=true
   ·obtain rfl:j=s7 s el:=Classical.byContradiction fun hne=>by have:=l3 j (by omega);rw[hs]at this;cases this
    rw[hs]at hc
    have qA:=AF (s8 s (A.take k)) s.cols.length 0
    have vn:=(BO (K6 (s8 s (A.take k)) 0 s.cols.length) el.col (s7 s el) (by omega)).congr (congrArg (fun z=>AV.sl 2 (List.map B5 z)) (ap (lv:=s8 s (A.take k)) (by omega) (by omega) (by omega) fun i=>aq s i _))
    repeat'((first|(refine A2 (x:=el) nN (by omega) ?_)|refine A1 hc ?_|refine A1 vn ?_ |refine S2 ?_|(refine T6 ?_ ?_<;>intro h<;>try exact V1 h)|intro el nN nP|intro el nN|exact T4|refine T5 ?_ ?_|intro ex)<;>try conv=>whnf)
    all_goals first
     |exact⟨k+1,by omega,by omega,A8 h0 rfl ⟨rfl,rfl,congrArg (fun z=>some (AV.sl 2 (List.map B5 z))) (by rw[TN nN]),rfl,rfl,trivial⟩ ⟨rfl,rfl,trivial⟩ rfl rfl rfl⟩
   ·have nj:X4 s el j=false:=by simpa using hs
    have pQ:j<s7 s el:=Nat.lt_of_le_of_ne hj fun e=>by rw[e,l2]at nj;cases nj
    rw[nj]at hc
    repeat'((first|(refine A2 (x:=el) nN (by omega) ?_)|refine A1 hc ?_ |refine S2 ?_|(refine T6 ?_ ?_<;>intro h<;>try exact V1 h)|intro el nN nP|intro el nN|exact T4|refine T5 ?_ ?_|intro ex)<;>try conv=>whnf)
    all_goals first
     |exact⟨j+1,by omega,by omega,A6 h0⟩
  ·obtain rfl:k=A.length:=by omega
   rw[List.take_length]
   repeat'((first|refine S2 ?_|(refine T6 ?_ ?_<;>intro h<;>try exact V1 h)|intro el nN nP|intro el nN|exact T4|refine T5 ?_ ?_|intro ex)<;>try conv=>whnf)
   all_goals first
    |exact A0 rfl rfl
    |(exfalso;omega)
 ·rw[if_neg rq]
  rw[F8]at *
  refine C0 Tryz.func165 40 fun nQ E h0=>?_
  clear nQ
  repeat'((first|refine A1 oU ?_ |refine S2 ?_|(refine T6 ?_ ?_<;>intro h<;>try exact V1 h)|intro el nN nP|intro el nN|exact T4|refine T5 ?_ ?_|intro ex)<;>try conv=>whnf)
  all_goals first
   |exact AC (sz:=2) rfl rfl
   |(exfalso;contradiction)
theorem ZH(c:B1):A3 Tryz.prog 164 [E7 c] (.b (decide (V6 c))):=by
 have h:=Yx c
 refine C0 Tryz.func164 6 fun nQ E h0=>?_
 clear nQ
 repeat'((first|refine A1 h ?_ |refine S2 ?_|(refine T6 ?_ ?_<;>intro h<;>try exact V1 h)|intro el nN nP|intro el nN|exact T4|refine T5 ?_ ?_|intro ex)<;>try conv=>whnf)
 all_goals first
  |exact A0 rfl rfl
def PO(s:A4)(q:U5):Int:=if q.kind=1 then (if ¬L0 s q.dims=0 then L0 s q.dims else if ¬q.mea=-1∧¬Q0 s q.mea=3 then 7 else 0)else if ¬Q0 s q.mea=3 then 7 else if q.kind=2 then W2 s q.mea q.trms else if (B4 s q.mea).low<0 then 2 else J6 s q.evt
theorem mO{s:A4}{c:Int}{k:Int}(h:Q0 s c=k)(hk:¬k=0):∃x,0≤c∧s.cols[c.toNat]?=some x:=by
 unfold Q0 at h
 split at h
 ·exact⟨_,by omega,List.getElem?_eq_getElem (by omega)⟩
 ·omega
theorem Vo(s:A4)(q:U5):A3 Tryz.prog 163 [sA s,ES q] (.i (PO s q)):=by
 have h1:=MP s q.mea 3
 have h2:=Yw s q.dims
 have h3:=Vi s q.mea q.trms
 have h4:=At s q.evt
 rw[OC _ _ _ (by decide)]at h1
 unfold PO
 generalize L0 s q.dims=n1 at *
 generalize W2 s q.mea q.trms=n2 at *
 generalize J6 s q.evt=n3 at *
 by_cases hk:Q0 s q.mea=3
 ·obtain⟨x,pb,hx⟩:=mO hk (by decide)
  rw[B7 hx]
  rw[decide_eq_true hk]at h1
  refine C0 Tryz.func163 53 fun nQ E h0=>?_
  clear nQ
  repeat'((first|(refine A2 (x:=x) hx (by omega) ?_)|refine A1 h1 ?_|refine A1 h2 ?_|refine A1 h3 ?_|refine A1 h4 ?_|(refine B8 ?_ ?_;kernel_rfl) |refine S2 ?_|(refine T6 ?_ ?_<;>intro h<;>try exact V1 h)|intro el nN nP|intro el nN|exact T4|refine T5 ?_ ?_|intro ex)<;>try conv=>whnf)
  all_goals first
   |(exfalso;omega)
   |exact A0 rfl (congrArg AV.i (by rw[if_pos (by omega),if_pos (by omega)]))
   |exact A0 rfl (congrArg AV.i (by rw[if_pos (by omega),if_neg (by omega),if_neg (by omega)]))
   |exact A0 rfl (congrArg AV.i (by rw[if_neg (by omega),if_neg (by omega),if_pos (by omega)]))
   |exact A0 rfl (congrArg AV.i (by rw[if_neg (by omega),if_neg (by omega),if_neg (by omega),if_pos (by omega)]))
   |exact A0 rfl (congrArg AV.i (by rw[if_neg (by omega),if_neg (by omega),if_neg (by omega),if_neg (by omega)]))
 ·rw[decide_eq_false hk]at h1
  generalize Q0 s q.mea=n4 at *
  refine C0 Tryz.func163 53 fun nQ E h0=>?_
  clear nQ
  repeat'((first|refine A1 h1 ?_|refine A1 h2 ?_|(refine B8 ?_ ?_;kernel_rfl) |refine S2 ?_|(refine T6 ?_ ?_<;>intro h<;>try exact V1 h)|intro el nN nP|intro el nN|exact T4|refine T5 ?_ ?_|intro ex)<;>try conv=>whnf)
  all_goals first
   |(exfalso;omega)
   |exact A0 rfl (congrArg AV.i (by rw[if_pos (by omega),if_pos (by omega)]))
   |exact A0 rfl (congrArg AV.i (by rw[if_pos (by omega),if_neg (by omega),if_pos (by omega)]))
   |exact A0 rfl (congrArg AV.i (by rw[if_pos (by omega),if_neg (by omega),if_neg (by omega)]))
   |exact A0 rfl (congrArg AV.i (by rw[if_neg (by omega),if_pos (by omega)]))
def fG(s:A4)(q:U5):Int:=if ¬C5 s=0 then C5 s else if D5 q.name=false then 3 else if q.kind<1∨3<q.kind then 4 else if ¬J6 s q.flt=0 then J6 s q.flt else if ¬PO s q=0 then PO s q else if ¬q.kind=1∧0<q.dims.length∨¬q.kind=2∧0<q.trms.length∨¬q.kind=3∧¬V6 q.evt then 11 else 0
theorem jT(s:A4)(q:U5):fG s q=N4 s q:=by
 unfold fG N4
 by_cases a1:¬C5 s=0
 ·rw[if_pos a1,if_pos a1]
 rw[if_neg a1,if_neg a1]
 by_cases a2:D5 q.name=false
 ·rw[if_pos a2,if_pos a2]
 rw[if_neg a2,if_neg a2]
 by_cases a3:q.kind<1∨3<q.kind
 ·rw[if_pos a3,if_pos a3]
 rw[if_neg a3,if_neg a3]
 by_cases a4:¬J6 s q.flt=0
 ·rw[if_pos a4,if_pos a4]
 rw[if_neg a4,if_neg a4]
 unfold PO
 by_cases k1:q.kind=1
 ·rw[if_pos k1,if_pos k1]
  unfold IA
  by_cases b1:¬L0 s q.dims=0
  ·rw[if_pos b1,if_pos b1,if_pos b1]
  rw[if_neg b1,if_neg b1]
  by_cases b2:¬q.mea=-1∧¬Q0 s q.mea=3
  ·rw[if_pos b2,if_pos b2,if_pos (by decide)]
  rw[if_neg b2,if_neg b2,if_neg (by decide)]
  split<;>split<;>first|rfl|(exfalso;omega)
 ·rw[if_neg k1,if_neg k1]
  by_cases b2:¬Q0 s q.mea=3
  ·unfold Jq MO
   rw[if_pos b2,if_pos (by decide),if_pos b2,if_pos b2]
   split<;>rfl
  rw[if_neg b2]
  by_cases k2:q.kind=2
  ·rw[if_pos k2,if_pos k2]
   unfold Jq
   rw[if_neg b2]
   by_cases b1:¬W2 s q.mea q.trms=0
   ·rw[if_pos b1,if_pos b1]
   rw[if_neg b1,if_neg b1]
   split<;>split<;>first|rfl|(exfalso;omega)
  ·rw[if_neg k2,if_neg k2]
   unfold MO
   rw[if_neg b2]
   by_cases b3:(B4 s q.mea).low<0
   ·rw[if_pos b3,if_pos b3,if_pos (by decide)]
   rw[if_neg b3,if_neg b3]
   by_cases b1:¬J6 s q.evt=0
   ·rw[if_pos b1,if_pos b1]
   rw[if_neg b1,if_neg b1]
   split<;>split<;>first|rfl|(exfalso;omega)
theorem Gg(s:A4)(q:U5):A3 Tryz.prog 119 [sA s,ES q] (.i (N4 s q)):=by
 rw[←jT]
 have h1:=V5 s
 have h2:=BD q.name
 have h3:=At s q.flt
 have h4:=Vo s q
 have h5:=ZH q.evt
 unfold fG
 generalize C5 s=n1 at *
 generalize D5 q.name=b at *
 generalize J6 s q.flt=n2 at *
 generalize PO s q=n3 at *
 by_cases ot:V6 q.evt
 ·rw[decide_eq_true ot]at h5
  refine C0 Tryz.func119 69 fun nQ E h0=>?_
  clear nQ
  repeat'((first|refine A1 h1 ?_|refine A1 h2 ?_|refine A1 h3 ?_|refine A1 h4 ?_|refine A1 h5 ?_ |refine S2 ?_|(refine T6 ?_ ?_<;>intro h<;>try exact V1 h)|intro el nN nP|intro el nN|exact T4|refine T5 ?_ ?_|intro ex)<;>try conv=>whnf)
  all_goals first
   |(exfalso;omega)
   |exact A0 rfl (congrArg AV.i (by rw[if_pos (by omega)]))
   |exact A0 rfl (congrArg AV.i (by rw[if_neg (by omega),if_pos (by assumption)]))
   |exact A0 rfl (congrArg AV.i (by rw[if_neg (by omega),if_neg (fun h=>Bool.false_ne_true (h.symm.trans (show b=true by assumption))),if_pos (by omega)]))
   |exact A0 rfl (congrArg AV.i (by rw[if_neg (by omega),if_neg (fun h=>Bool.false_ne_true (h.symm.trans (show b=true by assumption))),if_neg (by omega),if_pos (by omega)]))
   |exact A0 rfl (congrArg AV.i (by rw[if_neg (by omega),if_neg (fun h=>Bool.false_ne_true (h.symm.trans (show b=true by assumption))),if_neg (by omega),if_neg (by omega),if_pos (by omega)]))
   |exact A0 rfl (congrArg AV.i (by rw[if_neg (by omega),if_neg (fun h=>Bool.false_ne_true (h.symm.trans (show b=true by assumption))),if_neg (by omega),if_neg (by omega),if_neg (by omega),if_pos (by omega)]))
   |exact A0 rfl (congrArg AV.i (by rw[if_neg (by omega),if_neg (fun h=>Bool.false_ne_true (h.symm.trans (show b=true by assumption))),if_neg (by omega),if_neg (by omega),if_neg (by omega),if_neg (by omega)]))
 ·rw[decide_eq_false ot]at h5
  have nw:¬q.evt.op=0∨¬q.evt.col=0∨¬q.evt.code=0∨¬q.evt.lo=0∨¬q.evt.hi=0∨¬q.evt.kids.length=0:=by omega
  refine C0 Tryz.func119 69 fun nQ E h0=>?_
  clear nQ
  repeat'((first|refine A1 h1 ?_|refine A1 h2 ?_|refine A1 h3 ?_|refine A1 h4 ?_|refine A1 h5 ?_ |refine S2 ?_|(refine T6 ?_ ?_<;>intro h<;>try exact V1 h)|intro el nN nP|intro el nN|exact T4|refine T5 ?_ ?_|intro ex)<;>try conv=>whnf)
  all_goals first
   |(exfalso;clear ot nw;omega)
   |exact A0 rfl (congrArg AV.i (by rw[if_pos (by clear ot nw;omega)]))
   |exact A0 rfl (congrArg AV.i (by rw[if_neg (by clear ot nw;omega),if_pos (by assumption)]))
   |exact A0 rfl (congrArg AV.i (by rw[if_neg (by clear ot nw;omega),if_neg (fun h=>Bool.false_ne_true (h.symm.trans (show b=true by assumption))),if_pos (by clear ot nw;omega)]))
   |exact A0 rfl (congrArg AV.i (by rw[if_neg (by clear ot nw;omega),if_neg (fun h=>Bool.false_ne_true (h.symm.trans (show b=true by assumption))),if_neg (by clear ot nw;omega),if_pos (by clear ot nw;omega)]))
   |exact A0 rfl (congrArg AV.i (by rw[if_neg (by clear ot nw;omega),if_neg (fun h=>Bool.false_ne_true (h.symm.trans (show b=true by assumption))),if_neg (by clear ot nw;omega),if_neg (by clear ot nw;omega),if_pos (by clear ot nw;omega)]))
   |exact A0 rfl (congrArg AV.i (by rw[if_neg (by clear ot nw;omega),if_neg (fun h=>Bool.false_ne_true (h.symm.trans (show b=true by assumption))),if_neg (by clear ot nw;omega),if_neg (by clear ot nw;omega),if_neg (by clear ot nw;omega),if_pos (.inl ⟨by clear ot nw;omega,by clear ot nw;omega⟩)]))
   |exact A0 rfl (congrArg AV.i (by rw[if_neg (by clear ot nw;omega),if_neg (fun h=>Bool.false_ne_true (h.symm.trans (show b=true by assumption))),if_neg (by clear ot nw;omega),if_neg (by clear ot nw;omega),if_neg (by clear ot nw;omega),if_pos (.inr (.inl ⟨by clear ot nw;omega,by clear ot nw;omega⟩))]))
   |exact A0 rfl (congrArg AV.i (by rw[if_neg (by clear ot nw;omega),if_neg (fun h=>Bool.false_ne_true (h.symm.trans (show b=true by assumption))),if_neg (by clear ot nw;omega),if_neg (by clear ot nw;omega),if_neg (by clear ot nw;omega),if_pos (.inr (.inr ⟨by clear ot nw;omega,ot⟩))]))
   |exact A0 rfl (congrArg AV.i (by rw[if_neg (by clear ot nw;omega),if_neg (fun h=>Bool.false_ne_true (h.symm.trans (show b=true by assumption))),if_neg (by clear ot nw;omega),if_neg (by clear ot nw;omega),if_neg (by clear ot nw;omega),if_neg (by omega)]))
theorem Jv(s:A4)(d:DD):A3 Tryz.prog 83 [sA s,Jp d] (.i (Df s d)):=by
 have h1:=V5 s
 have h2:=BD d.prj
 have h3:=BD d.src
 have h4:=At s d.coh
 have hq:=fun x=>Gg s x
 unfold Df
 generalize C5 s=n1 at *
 generalize D5 d.prj=b1 at *
 generalize D5 d.src=b2 at *
 generalize J6 s d.coh=n2 at *
 refine C0 Tryz.func83 110 fun nQ E h0=>?_
 have nO:d.qs.length≤9223372036854775807:=by
  have:=((nQ (Jp d) (by simp)).agg (.sl 17 (d.qs.map Ge)) (by simp)).sl
  simpa using this
 clear nQ
 repeat'((first|refine A1 h1 ?_|refine A1 h2 ?_|refine A1 h3 ?_|refine A1 h4 ?_ |refine S2 ?_|(refine T6 ?_ ?_<;>intro h<;>try exact V1 h)|intro el nN nP|intro el nN|exact T4|refine T5 ?_ ?_|intro ex)<;>try conv=>whnf)
 all_goals first
  |(exfalso;omega)
  |exact A0 rfl (congrArg AV.i (by rw[if_pos (by omega)]))
  |exact A0 rfl (congrArg AV.i (by rw[if_neg (by omega),if_pos (.inl (by assumption))]))
  |exact A0 rfl (congrArg AV.i (by rw[if_neg (by omega),if_pos (.inr (by assumption))]))
  |exact A0 rfl (congrArg AV.i (by rw[if_neg (by omega),if_neg (fun h=>h.elim (fun h=>Bool.false_ne_true (h.symm.trans (show b1=true by assumption))) (fun h=>Bool.false_ne_true (h.symm.trans (show b2=true by assumption)))),if_pos (by omega)]))
  |exact A0 rfl (congrArg AV.i (by rw[if_neg (by omega),if_neg (fun h=>h.elim (fun h=>Bool.false_ne_true (h.symm.trans (show b1=true by assumption))) (fun h=>Bool.false_ne_true (h.symm.trans (show b2=true by assumption)))),if_neg (by omega),if_pos (by omega)]))
  |exact A0 rfl (congrArg AV.i (by rw[if_neg (by omega),if_neg (fun h=>h.elim (fun h=>Bool.false_ne_true (h.symm.trans (show b1=true by assumption))) (fun h=>Bool.false_ne_true (h.symm.trans (show b2=true by assumption)))),if_neg (by omega),if_neg (by omega),if_pos (by omega)]))
  |skip
 rw[if_neg (by omega),if_neg (fun h=>h.elim (fun h=>Bool.false_ne_true (h.symm.trans (show b1=true by assumption))) (fun h=>Bool.false_ne_true (h.symm.trans (show b2=true by assumption)))),if_neg (by omega),if_neg (by omega),if_neg (by omega)]
 clear h1 h2 h3 h4
 refine B2 (ι:=Nat) (fun k=>⟨[(2,.ref 0 0),(3,.ref 1 0),(8,.i k)],2,[(0,some (.box (sL s))),(1,some (.box (MN d)))]⟩) (fun k=>F1 (OD s d.qs) d.qs k) (fun k=>d.qs.length-k) 0 (F1.zero _ _)
  (A6 h0) (fun k hI=>?_)
 have nZ:=hI.1
 by_cases nR:k<d.qs.length
 ·obtain⟨x,hx⟩:∃x,d.qs[k]?=some x:=⟨_,List.getElem?_eq_getElem nR⟩
  have h1:=hq x
  have nf:∀e:Int,OD s d.qs k x=e→¬e=0→e=E8 (OD s d.qs) 0 d.qs:=fun e h3 h4=>by rw[←h3];exact hI.hit hx (by rw[h3];exact h4)
  have pm:OD s d.qs k x=0→F1 (OD s d.qs) d.qs (k+1):=fun h=>hI.step hx h
  unfold OD at nf pm
  generalize N4 s x=n at *
  repeat'((first|(refine A2 (x:=x) hx (by omega) ?_)|refine A1 h1 ?_|(refine B8 ?_ ?_;kernel_rfl) |refine S2 ?_|(refine T6 ?_ ?_<;>intro h<;>try exact V1 h)|intro el nN nP|intro el nN|exact T4|refine T5 ?_ ?_|intro ex)<;>try conv=>whnf)
  all_goals first
   |exact A0 rfl (congrArg AV.i (nf n (by rw[if_pos (by omega)]) (by omega)))
   |(exfalso;omega)
   |skip
  refine B2 (ι:=Nat) (fun j=>⟨[(2,.ref 0 0),(3,.ref 1 0),(8,.i k),(10,.i j)],2,[(0,some (.box (sL s))),(1,some (.box (MN d)))]⟩) (fun j=>j≤k∧R0 (fun y=>decide (y.name=x.name)) (d.qs.take k) j) (fun j=>k-j) 0 ⟨Nat.zero_le _,R0.zero _ _⟩
   (A6 h0) (fun j hJ=>?_)
  obtain⟨hj,hJ⟩:=hJ
  have wE:(d.qs.take k).length=k:=by rw[List.length_take];omega
  repeat'((first|(refine A2 (x:=x) hx (by omega) ?_)|(refine B8 ?_ ?_;kernel_rfl) |refine S2 ?_|(refine T6 ?_ ?_<;>intro h<;>try exact V1 h)|intro el nN nP|intro el nN|exact T4|refine T5 ?_ ?_|intro ex)<;>try conv=>whnf)
  all_goals first
   |exact A0 rfl (congrArg AV.i (nf 10 (by rw[if_neg (by omega),if_pos (hJ.hit (x:=el) (by rw[List.getElem?_take,if_pos (by omega)];exact nN) (decide_eq_true (by assumption))).symm]) (by omega)))
   |exact⟨j+1,⟨by omega,hJ.step (x:=el) (by rw[List.getElem?_take,if_pos (by omega)];exact nN) (decide_eq_false (by assumption))⟩,by omega,A6 h0⟩
   |exact⟨k+1,pm (by rw[if_neg (by omega),if_neg (by rw[←hJ.done (by rw[wE];assumption)];exact Bool.false_ne_true)]),by omega,A6 h0⟩
 ·repeat'((first|refine S2 ?_|(refine T6 ?_ ?_<;>intro h<;>try exact V1 h)|intro el nN nP|intro el nN|exact T4|refine T5 ?_ ?_|intro ex)<;>try conv=>whnf)
  all_goals first
   |(exfalso;omega)
   |exact A0 rfl (congrArg AV.i (hI.done (by omega)).symm)
end Go.Proofs.YtjkbhaaobhgkdabGreatDoor

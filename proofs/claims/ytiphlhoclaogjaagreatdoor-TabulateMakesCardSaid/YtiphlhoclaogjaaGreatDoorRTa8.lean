/- Chapter 8: questions and declarations, and which are right. -/
import Derived.Test.YtiphlhoclaogjaaGreatDoorRF1
import Derived.Test.YtiphlhoclaogjaaGreatDoorRTa7
import Derived.Test.YtiphlhoclaogjaaGreatDoorRCe1
set_option linter.unusedVariables false
set_option linter.unnecessarySimpa false
set_option linter.unusedSimpArgs false
set_option maxHeartbeats 64000000
namespace Go.Proofs.YtiphlhoclaogjaaGreatDoor
open Go Go.Av
attribute [local irreducible] C9 B3 C7 D1 DQ D0 C6 St.le A3 B7
set_option maxRecDepth 100000
structure X7 where
 name:List UInt8
 kind:Int
 flt:B6
 dims:List Pk
 mea:Int
 trms:List Int
 evt:B6
abbrev GO(q:X7):List AV:=[.str q.name,.i q.kind,.i q.flt.op,.i q.flt.col,.i q.flt.code,.i q.flt.lo,.i q.flt.hi,.sl 6 (q.flt.kids.map P9),.sl 2 (q.dims.map A8),.i q.mea,.sl 1 (q.trms.map wA),.i q.evt.op,.i q.evt.col,.i q.evt.code,.i q.evt.lo,.i q.evt.hi,.sl 6 (q.evt.kids.map P9)]
abbrev ED(q:X7):AV:=.agg (GO q)
structure Ct where
 prj:List UInt8
 src:List UInt8
 coh:B6
 part:Int
 of:Int
 seed:Int
 qs:List X7
abbrev Lo(d:Ct):List AV:=[.str d.prj,.str d.src,.i d.coh.op,.i d.coh.col,.i d.coh.code,.i d.coh.lo,.i d.coh.hi,.sl 6 (d.coh.kids.map P9),.i d.part,.i d.of,.i d.seed,.sl 17 (d.qs.map GO)]
abbrev JW(d:Ct):AV:=.agg (Lo d)
def R6(s:A4)(c:Int):Int:=if 0≤c∧c<s.cols.length then (B8 s c).kind else 0
theorem ah(s:A4)(c k:Int)(hk:k≠0):Q5 s c k=decide (R6 s c=k):=by
 unfold Q5 R6
 rw[decide_eq_decide]
 split<;>omega
def JX(s:A4)(q:X7):Int:=if ¬Q2 s q.dims=0 then Q2 s q.dims else if ¬q.mea=-1∧¬R6 s q.mea=3 then 7 else if 0<q.trms.length∨¬Q8 q.evt then 11 else 0
def JY(s:A4)(q:X7):Int:=if ¬R6 s q.mea=3 then 7 else if ¬W8 s q.mea q.trms=0 then W8 s q.mea q.trms else if 0<q.dims.length∨¬Q8 q.evt then 11 else 0
def Lp(s:A4)(q:X7):Int:=if ¬R6 s q.mea=3 then 7 else if (B8 s q.mea).low<0 then 2 else if ¬J6 s q.evt=0 then J6 s q.evt else if 0<q.dims.length∨0<q.trms.length then 11 else 0
def L6(s:A4)(q:X7):Int:=if ¬C3 s=0 then C3 s else if D6 q.name=false then 3 else if q.kind<1∨3<q.kind then 4 else if ¬J6 s q.flt=0 then J6 s q.flt else if q.kind=1 then JX s q else if q.kind=2 then JY s q else Lp s q
def Tl(s:A4)(l:List X7)(i:Nat)(q:X7):Int:=if ¬L6 s q=0 then L6 s q else if ((l.take i).any fun x=>decide (x.name=q.name))=true then 10 else 0
def FO(s:A4)(d:Ct):Int:=if ¬C3 s=0 then C3 s else if D6 d.prj=false∨D6 d.src=false then 3 else if ¬J6 s d.coh=0 then J6 s d.coh else if d.of<1∨1000<d.of∨d.part<1∨d.of<d.part∨d.seed<0∨1099511627776<d.seed then 2 else if d.qs.length=0∨8<d.qs.length then 1 else F4 (Tl s d.qs) 0 d.qs
theorem GP(s:A4)(c:Int):A3 Tryz.prog 201 [sA s,.i c] (.i (R6 s c)):=by
 unfold R6
 refine B5 Tryz.func201 20 fun mK E h0=>?_
 clear mK
 repeat'((first|(refine B0 ?_ ?_;kernel_rfl) |refine S2 ?_|(refine T6 ?_ ?_<;>intro h<;>try exact V1 h)|intro el mI mJ|intro el mI|exact T4|refine T5 ?_ ?_|intro ex)<;>try conv=>whnf)
 all_goals first
  |exact A1 rfl (congrArg AV.i (by rw[if_neg (by omega)]))
  |exact A1 rfl (congrArg AV.i (by rw[if_pos (by omega),C1 mI]))
theorem Ky(c:B6):A3 Tryz.prog 203 [D5 c] (.b (decide (Q8 c))):=by
 rw[F8]
 refine B5 Tryz.func203 32 fun mK E h0=>?_
 clear mK
 repeat'((first|refine S2 ?_|(refine T6 ?_ ?_<;>intro h<;>try exact V1 h)|intro el mI mJ|intro el mI|exact T4|refine T5 ?_ ?_|intro ex)<;>try conv=>whnf)
 all_goals first
  |exact A1 rfl (congrArg AV.b (by rw[decide_eq_true (by omega)]))
  |exact A1 rfl (congrArg AV.b (by rw[decide_eq_false (by omega)]))
  |exact A1 rfl (congrArg AV.b (by rw[decide_eq_decide];omega))
theorem aj(x d:Pk):A3 Tryz.prog 202 [Pv x,.iptr (A8 d)] (.b (decide (x.col=d.col))):=by
 refine B5 Tryz.func202 9 fun mK E h0=>?_
 clear mK
 repeat'((first|(refine B0 ?_ ?_;kernel_rfl) |refine S2 ?_|(refine T6 ?_ ?_<;>intro h<;>try exact V1 h)|intro el mI mJ|intro el mI|exact T4|refine T5 ?_ ?_|intro ex)<;>try conv=>whnf)
 all_goals first
  |exact A1 rfl rfl
theorem gu(l:List Pk)(k:Nat)(d:Pk):A3 Tryz.prog 103 [.sl 2 ((l.map A8).take k),.fn 202 [.iptr (A8 d)]] (.b ((l.take k).any fun x=>decide (x.col=d.col))):=by
 have h:=NQ (l.take k) 202 [.iptr (A8 d)] (fun x=>decide (x.col=d.col)) (fun x _=>aj x d)
 rw[List.map_take]at h
 exact h
theorem lq{s:A4}{c:Int}{k:Int}(h:R6 s c=k)(hk:¬k=0):∃x,0≤c∧s.cols[c.toNat]?=some x:=by
 unfold R6 at h
 split at h
 ·exact⟨_,by omega,List.getElem?_eq_getElem (by omega)⟩
 ·omega
theorem gv{s:A4}{c:Int}{x:D4}(h0:0≤c)(hx:s.cols[c.toNat]?=some x):R6 s c=x.kind:=by
 have:=(List.getElem?_eq_some_iff.1 hx).1
 unfold R6
 rw[if_pos (by omega),C1 hx]
def YM(s:A4)(q:X7):Int:=if ¬q.mea=-1∧¬R6 s q.mea=3 then 7 else if 0<q.trms.length∨¬Q8 q.evt then 11 else 0
theorem gw(s:A4)(q:X7):JX s q=if q.dims.length<1∨3<q.dims.length then 1 else if ¬F4 (W0 s q.dims) 0 q.dims=0 then F4 (W0 s q.dims) 0 q.dims else YM s q:=by
 unfold JX Q2 YM
 by_cases h:q.dims.length<1∨3<q.dims.length
 ·simp only[if_pos h];rfl
 ·simp only[if_neg h]
theorem VG(s:A4)(q:X7):A3 Tryz.prog 159 [sA s,ED q] (.i (JX s q)):=by
 have hp:=fun d=>NO s d
 have hk:=fun c=>GP s c
 have rY:=hk q.mea
 have nR:=fun k d=>gu q.dims k d
 have he:=Ky q.evt
 have no:decide (Q8 q.evt)=true→Q8 q.evt:=of_decide_eq_true
 have mj:decide (Q8 q.evt)=false→¬Q8 q.evt:=of_decide_eq_false
 rw[gw]
 refine B5 Tryz.func159 64 fun mK E h0=>?_
 have mL:q.dims.length≤9223372036854775807:=by
  have:=((mK (ED q) (by simp)).agg (.sl 2 (q.dims.map A8)) (by simp)).sl
  simpa using this
 clear mK
 repeat'((first|refine S2 ?_|(refine T6 ?_ ?_<;>intro h<;>try exact V1 h)|intro el mI mJ|intro el mI|exact T4|refine T5 ?_ ?_|intro ex)<;>try conv=>whnf)
 all_goals first
  |(rw[if_pos (by omega)];exact A1 rfl rfl)
  |skip
 rw[if_neg (by omega)]
 refine A9 (ι:=Nat) (fun k=>⟨[(2,.ref 0 0),(3,.ref 1 0),(19,.sl 2 (q.dims.map A8)),(20,.i q.dims.length),(21,.i k)],2,[(0,some (.box (sL s))),(1,some (.box (GO q)))]⟩) (fun k=>F2 (W0 s q.dims) q.dims k) (fun k=>q.dims.length-k) 0 (F2.zero _ _)
  (A6 h0) (fun k hI=>?_)
 have mT:=hI.1
 by_cases mM:k<q.dims.length
 ·obtain⟨d,hd⟩:∃d,q.dims[k]?=some d:=⟨_,List.getElem?_eq_getElem mM⟩
  have h1:=hp d
  have h2:=nR k d
  have h3:=hk d.col
  have mc:∀e:Int,W0 s q.dims k d=e→¬e=0→e=(if ¬F4 (W0 s q.dims) 0 q.dims=0 then F4 (W0 s q.dims) 0 q.dims else YM s q):=fun e h3 h4=>by
   have:=hI.hit hd (by rw[h3];exact h4)
   rw[h3]at this
   rw[←this,if_pos h4]
  have ox:W0 s q.dims k d=0→F2 (W0 s q.dims) q.dims (k+1):=fun h=>hI.step hd h
  clear he rY no mj
  unfold W0 at mc ox
  by_cases pN:N3 s d=0
  ·obtain⟨c,qM,hc⟩:=Tk pN
   rw[C1 hc]at mc ox
   rw[gv qM hc]at h3
   rw[pN]at h1
   generalize ((q.dims.take k).any fun x=>decide (x.col=d.col))=u at *
   repeat'((first|(refine A2 (x:=d) hd (by omega) ?_)|refine A0 h1 ?_|refine A0 h3 ?_|refine I4 2 ?_|refine A0 h2 ?_ |refine S2 ?_|(refine T6 ?_ ?_<;>intro h<;>try exact V1 h)|intro el mI mJ|intro el mI|exact T4|refine T5 ?_ ?_|intro ex)<;>try conv=>whnf)
   all_goals first
    |exact A1 rfl (congrArg AV.i (mc 7 (by rw[if_neg (by omega),if_pos (by assumption)]) (by omega)))
    |exact A1 rfl (congrArg AV.i (mc 10 (by rw[if_neg (by omega),if_neg (by assumption),if_pos (by assumption)]) (by omega)))
    |exact⟨k+1,ox (by rw[if_neg (by omega),if_neg (by assumption),if_neg (by simp[*])]),by omega,A6 h0⟩
    |(exfalso;omega)
  ·repeat'((first|(refine A2 (x:=d) hd (by omega) ?_)|refine A0 h1 ?_ |refine S2 ?_|(refine T6 ?_ ?_<;>intro h<;>try exact V1 h)|intro el mI mJ|intro el mI|exact T4|refine T5 ?_ ?_|intro ex)<;>try conv=>whnf)
   all_goals first
    |exact A1 rfl (congrArg AV.i (mc (N3 s d) (by rw[if_pos (by omega)]) pN))
    |(exfalso;omega)
 ·rw[if_neg (show ¬¬F4 (W0 s q.dims) 0 q.dims=0 from fun h=>h (hI.done (by omega)))]
  unfold YM
  generalize decide (Q8 q.evt)=b at *
  clear hp hk nR
  repeat'((first|refine A0 rY ?_|refine A0 he ?_ |refine S2 ?_|(refine T6 ?_ ?_<;>intro h<;>try exact V1 h)|intro el mI mJ|intro el mI|exact T4|refine T5 ?_ ?_|intro ex)<;>try conv=>whnf)
  all_goals first
   |(exfalso;omega)
   |exact A1 rfl (congrArg AV.i (by rw[if_pos (by omega)]))
   |exact A1 rfl (congrArg AV.i (by rw[if_neg (by omega),if_pos (.inl (by omega))]))
   |exact A1 rfl (congrArg AV.i (by rw[if_neg (by omega),if_pos (.inr (mj (by assumption)))]))
   |exact A1 rfl (congrArg AV.i (by rw[if_neg (by omega),if_neg (fun h=>h.elim (fun h=>by omega) (fun h=>h (no (by assumption))))]))
def YN(q:X7):Int:=if 0<q.dims.length∨¬Q8 q.evt then 11 else 0
theorem gx(s:A4)(q:X7):JY s q=if ¬R6 s q.mea=3 then 7 else if q.trms.length<1∨3<q.trms.length then 1 else if ¬F4 (X6 s q.mea q.trms) 0 q.trms=0 then F4 (X6 s q.mea q.trms) 0 q.trms else YN q:=by
 unfold JY W8 YN
 by_cases h:q.trms.length<1∨3<q.trms.length
 ·simp only[if_pos h];rfl
 ·simp only[if_neg h]
theorem VH(s:A4)(q:X7):A3 Tryz.prog 160 [sA s,ED q] (.i (JY s q)):=by
 have hk:=fun c=>GP s c
 have rY:=hk q.mea
 have nR:=fun k d=>IM q.trms k d
 have he:=Ky q.evt
 have no:decide (Q8 q.evt)=true→Q8 q.evt:=of_decide_eq_true
 have mj:decide (Q8 q.evt)=false→¬Q8 q.evt:=of_decide_eq_false
 rw[gx]
 refine B5 Tryz.func160 59 fun mK E h0=>?_
 have mL:q.trms.length≤9223372036854775807:=by
  have:=((mK (ED q) (by simp)).agg (.sl 1 (q.trms.map wA)) (by simp)).sl
  simpa using this
 clear mK
 repeat'((first|refine A0 rY ?_ |refine S2 ?_|(refine T6 ?_ ?_<;>intro h<;>try exact V1 h)|intro el mI mJ|intro el mI|exact T4|refine T5 ?_ ?_|intro ex)<;>try conv=>whnf)
 all_goals first
  |(rw[if_pos (by omega)];exact A1 rfl rfl)
  |(rw[if_neg (by omega),if_pos (by omega)];exact A1 rfl rfl)
  |skip
 rw[if_neg (by omega),if_neg (by omega)]
 refine A9 (ι:=Nat) (fun k=>⟨[(2,.ref 0 0),(3,.ref 1 0),(25,.sl 1 (q.trms.map wA)),(26,.i q.trms.length),(27,.i k)],2,[(0,some (.box (sL s))),(1,some (.box (GO q)))]⟩) (fun k=>F2 (X6 s q.mea q.trms) q.trms k) (fun k=>q.trms.length-k) 0 (F2.zero _ _)
  (A6 h0) (fun k hI=>?_)
 have mT:=hI.1
 by_cases mM:k<q.trms.length
 ·obtain⟨c,hc⟩:∃d,q.trms[k]?=some d:=⟨_,List.getElem?_eq_getElem mM⟩
  have h2:=nR k c
  have h3:=hk c
  have mc:∀e:Int,X6 s q.mea q.trms k c=e→¬e=0→e=(if ¬F4 (X6 s q.mea q.trms) 0 q.trms=0 then F4 (X6 s q.mea q.trms) 0 q.trms else YN q):=fun e h3 h4=>by
   have:=hI.hit hc (by rw[h3];exact h4)
   rw[h3]at this
   rw[←this,if_pos h4]
  have ox:X6 s q.mea q.trms k c=0→F2 (X6 s q.mea q.trms) q.trms (k+1):=fun h=>hI.step hc h
  clear he rY no mj
  unfold X6 at mc ox
  rw[ah _ _ _ (by decide)]at mc ox
  generalize R6 s c=n at *
  generalize ((q.trms.take k).any fun x=>decide (x=c))=u at *
  repeat'((first|(refine A2 (x:=c) hc (by omega) ?_)|refine A0 h3 ?_|refine A0 h2 ?_ |refine S2 ?_|(refine T6 ?_ ?_<;>intro h<;>try exact V1 h)|intro el mI mJ|intro el mI|exact T4|refine T5 ?_ ?_|intro ex)<;>try conv=>whnf)
  all_goals first
   |exact A1 rfl (congrArg AV.i (mc 7 (by rw[if_pos (decide_eq_false (by omega))]) (by omega)))
   |exact A1 rfl (congrArg AV.i (mc 10 (by rw[if_neg (by rw[decide_eq_true (by omega)];simp),if_pos (.inl (by omega))]) (by omega)))
   |exact A1 rfl (congrArg AV.i (mc 10 (by rw[if_neg (by rw[decide_eq_true (by omega)];simp),if_pos (.inr (by assumption))]) (by omega)))
   |(refine⟨k+1,ox ?_,by omega,A6 h0⟩;rw[if_neg (by rw[decide_eq_true (by omega)];simp),if_neg (fun h=>h.elim (fun h=>by omega) (fun h=>Bool.false_ne_true ((show u=false by assumption).symm.trans h)))])
   |(exfalso;omega)
 ·rw[if_neg (show ¬¬F4 (X6 s q.mea q.trms) 0 q.trms=0 from fun h=>h (hI.done (by omega)))]
  unfold YN
  generalize decide (Q8 q.evt)=b at *
  clear hk nR
  repeat'((first|refine A0 he ?_ |refine S2 ?_|(refine T6 ?_ ?_<;>intro h<;>try exact V1 h)|intro el mI mJ|intro el mI|exact T4|refine T5 ?_ ?_|intro ex)<;>try conv=>whnf)
  all_goals first
   |(exfalso;omega)
   |exact A1 rfl (congrArg AV.i (by rw[if_pos (.inl (by omega))]))
   |exact A1 rfl (congrArg AV.i (by rw[if_pos (.inr (mj (by assumption)))]))
   |exact A1 rfl (congrArg AV.i (by rw[if_neg (fun h=>h.elim (fun h=>by omega) (fun h=>h (no (by assumption))))]))
theorem VI(s:A4)(q:X7):A3 Tryz.prog 161 [sA s,ED q] (.i (Lp s q)):=by
 have rY:=GP s q.mea
 have hc:=AE s q.evt
 unfold Lp
 by_cases h3:R6 s q.mea=3
 ·obtain⟨x,oU,hx⟩:=lq h3 (by decide)
  rw[C1 hx,if_neg (by omega)]
  rw[h3]at rY
  generalize J6 s q.evt=n at *
  refine B5 Tryz.func161 38 fun mK E h0=>?_
  clear mK
  repeat'((first|(refine A2 (x:=x) hx (by omega) ?_)|refine A0 rY ?_|refine A0 hc ?_|(refine B0 ?_ ?_;kernel_rfl) |refine S2 ?_|(refine T6 ?_ ?_<;>intro h<;>try exact V1 h)|intro el mI mJ|intro el mI|exact T4|refine T5 ?_ ?_|intro ex)<;>try conv=>whnf)
  all_goals first
   |(exfalso;omega)
   |exact A1 rfl (congrArg AV.i (by rw[if_pos (by omega)]))
   |exact A1 rfl (congrArg AV.i (by rw[if_neg (by omega),if_pos (by omega)]))
   |exact A1 rfl (congrArg AV.i (by rw[if_neg (by omega),if_neg (by omega),if_pos (by omega)]))
   |exact A1 rfl (congrArg AV.i (by rw[if_neg (by omega),if_neg (by omega),if_neg (by omega)]))
 ·rw[if_pos h3]
  generalize R6 s q.mea=n at *
  clear hc
  refine B5 Tryz.func161 38 fun mK E h0=>?_
  clear mK
  repeat'((first|refine A0 rY ?_ |refine S2 ?_|(refine T6 ?_ ?_<;>intro h<;>try exact V1 h)|intro el mI mJ|intro el mI|exact T4|refine T5 ?_ ?_|intro ex)<;>try conv=>whnf)
  all_goals first
   |(exfalso;omega)
   |exact A1 rfl rfl
theorem YO(s:A4)(q:X7):A3 Tryz.prog 102 [sA s,ED q] (.i (L6 s q)):=by
 have h1:=f5 s
 have h2:=CH q.name
 have h3:=AE s q.flt
 have h4:=VG s q
 have h5:=VH s q
 have h6:=VI s q
 unfold L6
 generalize C3 s=n1 at *
 generalize D6 q.name=b at *
 generalize J6 s q.flt=n2 at *
 generalize JX s q=n3 at *
 generalize JY s q=n4 at *
 generalize Lp s q=n5 at *
 refine B5 Tryz.func102 49 fun mK E h0=>?_
 clear mK
 repeat'((first|refine A0 h1 ?_|refine A0 h2 ?_|refine A0 h3 ?_|refine A0 h4 ?_|refine A0 h5 ?_|refine A0 h6 ?_ |refine S2 ?_|(refine T6 ?_ ?_<;>intro h<;>try exact V1 h)|intro el mI mJ|intro el mI|exact T4|refine T5 ?_ ?_|intro ex)<;>try conv=>whnf)
 all_goals first
  |(exfalso;omega)
  |exact A1 rfl (congrArg AV.i (by rw[if_pos (by omega)]))
  |exact A1 rfl (congrArg AV.i (by rw[if_neg (by omega),if_pos (by assumption)]))
  |exact A1 rfl (congrArg AV.i (by rw[if_neg (by omega),if_neg (fun h=>Bool.false_ne_true (h.symm.trans (show b=true by assumption))),if_pos (by omega)]))
  |exact A1 rfl (congrArg AV.i (by rw[if_neg (by omega),if_neg (fun h=>Bool.false_ne_true (h.symm.trans (show b=true by assumption))),if_neg (by omega),if_pos (by omega)]))
  |exact A1 rfl (congrArg AV.i (by rw[if_neg (by omega),if_neg (fun h=>Bool.false_ne_true (h.symm.trans (show b=true by assumption))),if_neg (by omega),if_neg (by omega),if_pos (by omega)]))
  |exact A1 rfl (congrArg AV.i (by rw[if_neg (by omega),if_neg (fun h=>Bool.false_ne_true (h.symm.trans (show b=true by assumption))),if_neg (by omega),if_neg (by omega),if_neg (by omega),if_pos (by omega)]))
  |exact A1 rfl (congrArg AV.i (by rw[if_neg (by omega),if_neg (fun h=>Bool.false_ne_true (h.symm.trans (show b=true by assumption))),if_neg (by omega),if_neg (by omega),if_neg (by omega),if_neg (by omega)]))
structure Kz where
 dims:List Pk
 mea:Int
 cells:List G8
abbrev YP(t:Kz):List AV:=[.sl 2 (t.dims.map A8),.i t.mea,.sl 7 (t.cells.map U5)]
abbrev X8(t:Kz):AV:=.agg (YP t)
def WS(t:Kz)(a b:Int):Bool :=
 if a<0∨(t.cells.length:Int)≤a∨b<0∨(t.cells.length:Int)≤b then false
 else match t.cells[a.toNat]?,t.cells[b.toNat]? with
  |some x,some y=>if x.codes.length=t.dims.length∧y.codes.length=t.dims.length then z1 x.codes y.codes else false
  |_,_=>false
theorem Tm(xs ys:List Int):A3 Tryz.prog 75 [.sl 1 (xs.map wA),.sl 1 (ys.map wA)] (.b (decide (xs=ys))):=by
 refine B5 Tryz.func75 26 fun mK E h0=>?_
 have mL:xs.length≤9223372036854775807:=by
  have:=(mK (.sl 1 (xs.map wA)) (by simp)).sl
  simpa using this
 have qS:ys.length≤9223372036854775807:=by
  have:=(mK (.sl 1 (ys.map wA)) (by simp)).sl
  simpa using this
 clear mK
 repeat'((first|refine S2 ?_|(refine T6 ?_ ?_<;>intro h<;>try exact V1 h)|intro el mI mJ|intro el mI|exact T4|refine T5 ?_ ?_|intro ex)<;>try conv=>whnf)
 ·exact A1 rfl (congrArg AV.b (by
   have:xs≠ys:=by intro e;subst e;omega
   simp[this]))
 have hl:xs.length=ys.length:=by omega
 refine A9 (ι:=Nat) (fun k=>⟨[(0,.sl 1 (xs.map wA)),(1,.sl 1 (ys.map wA)),(12,.i xs.length),(13,.i k)],0,[]⟩) (fun k=>k≤xs.length∧ys.take k=xs.take k) (fun k=>xs.length-k) 0 ⟨Nat.zero_le _,rfl⟩ (A6 h0) (fun k hI=>?_)
 obtain⟨hk,hI⟩:=hI
 by_cases mM:k<xs.length
 ·obtain⟨x,hx⟩:∃x,xs[k]?=some x:=⟨_,List.getElem?_eq_getElem mM⟩
  obtain⟨y,hy⟩:∃y,ys[k]?=some y:=⟨_,List.getElem?_eq_getElem (by omega)⟩
  have pD:xs[((k:Nat):Int).toNat]?=some x:=hx
  have xC:ys[((k:Nat):Int).toNat]?=some y:=hy
  repeat'((first|(refine A2 (x:=x) pD (by omega) ?_)|(refine A2 (x:=y) xC (by omega) ?_)|(refine B0 ?_ ?_;kernel_rfl) |refine S2 ?_|(refine T6 ?_ ?_<;>intro h<;>try exact V1 h)|intro el mI mJ|intro el mI|exact T4|refine T5 ?_ ?_|intro ex)<;>try conv=>whnf)
  all_goals first
   |(exfalso;omega)
   |(refine A1 rfl (congrArg AV.b (decide_eq_false (fun e=>?_)).symm)
     subst e
     rw[hx]at hy
     cases hy
     omega)
   |exact⟨k+1,⟨by omega,by rw[E7 hx,E7 hy,hI];congr 2;omega⟩,by omega,A6 h0⟩
 ·repeat'((first|refine S2 ?_|(refine T6 ?_ ?_<;>intro h<;>try exact V1 h)|intro el mI mJ|intro el mI|exact T4|refine T5 ?_ ?_|intro ex)<;>try conv=>whnf)
  all_goals first
   |(exfalso;omega)
   |(refine A1 rfl (congrArg AV.b (decide_eq_true ?_).symm)
     rw[List.take_of_length_le (by omega),List.take_of_length_le (by omega)]at hI
     exact hI.symm)
theorem ak(l:List (G8))(f:Nat)(caps:List AV)(p:(G8)→Bool)(hf:∀x∈l,A3 Tryz.prog f ((fun x=>.agg (U5 x)) x::caps) (.b (p x))):A3 Tryz.prog 73 [.sl 7 (l.map U5),.fn f caps] (.i (E8 p l 0)):=by
 refine B5 Tryz.func73 19 fun mK E h0=>?_
 have mL:l.length≤9223372036854775807:=by have:=(mK (.sl 7 (l.map U5)) (by simp)).sl;simpa using this
 repeat'((first|refine S2 ?_|(refine T6 ?_ ?_<;>intro h<;>try exact V1 h)|intro el mI mJ|intro el mI|exact T4|refine T5 ?_ ?_|intro ex)<;>try conv=>whnf)
 refine A9 (ι:=Nat) (fun k=>⟨[(0,.sl 7 (l.map U5)),(1,.fn f caps),(7,.i l.length),(8,.i k)],0,[]⟩) (fun k=>k≤l.length∧E8 p l 0=E8 p (l.drop k) k) (fun k=>l.length-k) 0 ⟨Nat.zero_le _,rfl⟩ (A6 h0) (fun k hI=>?_)
 obtain⟨hk,hI⟩:=hI
 repeat'((first|refine A0 (hf _ (List.mem_of_getElem? mI)) ?_ |refine S2 ?_|(refine T6 ?_ ?_<;>intro h<;>try exact V1 h)|intro el mI mJ|intro el mI|exact T4|refine T5 ?_ ?_|intro ex)<;>try conv=>whnf)
 all_goals first
  |exact⟨k+1,⟨by omega,by rw[hI,G1 mI,E8,if_neg (by simp[h])];rfl⟩,by omega,A6 h0⟩
  |exact A1 rfl (congrArg AV.i (by rw[hI,G1 mI,E8,if_pos (by simp[h])]))
  |exact A1 rfl (congrArg AV.i (by rw[hI,show k=l.length by omega,List.drop_length];rfl))
theorem dk(c:G8)(codes:List Int):A3 Tryz.prog 74 [.agg (U5 c),.iptr [.sl 1 (codes.map wA)]] (.b (decide (c.codes=codes))):=by
 have h1:=Tm c.codes codes
 obtain⟨cs,cnt,sum,amo,fst,snd,rows⟩:=c
 dsimp only at *
 refine B5 Tryz.func74 8 fun mK E h0=>?_
 clear mK
 repeat'((first|refine A0 h1 ?_ |refine S2 ?_|(refine T6 ?_ ?_<;>intro h<;>try exact V1 h)|intro el mI mJ|intro el mI|exact T4|refine T5 ?_ ?_|intro ex)<;>try conv=>whnf)
 all_goals first
  |exact A1 rfl rfl
theorem VJ(t:Kz)(codes:List Int):A3 Tryz.prog 26 [X8 t,.sl 1 (codes.map wA)] (.i (E8 (fun c:G8=>decide (c.codes=codes)) t.cells 0)):=by
 have h1:=ak t.cells 74 [.iptr [.sl 1 (codes.map wA)]] (fun c=>decide (c.codes=codes)) (fun c _=>dk c codes)
 obtain⟨dims,mea,cells⟩:=t
 dsimp only at *
 generalize E8 (fun c:G8=>decide (c.codes=codes)) cells 0=j at *
 refine B5 Tryz.func26 9 fun mK E h0=>?_
 clear mK
 repeat'((first|refine A0 h1 ?_|refine I4 1 ?_ |refine S2 ?_|(refine T6 ?_ ?_<;>intro h<;>try exact V1 h)|intro el mI mJ|intro el mI|exact T4|refine T5 ?_ ?_|intro ex)<;>try conv=>whnf)
 all_goals first
  |exact A1 rfl rfl
theorem kJ{t:Kz}{a b:Int}(h:a<0∨(t.cells.length:Int)≤a∨b<0∨(t.cells.length:Int)≤b):WS t a b=false:=if_pos h
theorem gy{t:Kz}{a b:Int}{x y:G8}(h:¬(a<0∨(t.cells.length:Int)≤a∨b<0∨(t.cells.length:Int)≤b))(hx:t.cells[a.toNat]?=some x)(hy:t.cells[b.toNat]?=some y):WS t a b=if x.codes.length=t.dims.length∧y.codes.length=t.dims.length then z1 x.codes y.codes else false:=by
 unfold WS
 rw[if_neg h,hx,hy]
theorem IP(s:A4)(t:Kz)(a b:Int):A3 Tryz.prog 28 [sA s,X8 t,.i a,.i b] (.b (WS t a b)):=by
 by_cases hn:a<0∨(t.cells.length:Int)≤a∨b<0∨(t.cells.length:Int)≤b
 ·rw[kJ hn]
  obtain⟨dims,mea,cells⟩:=t
  dsimp only at *
  have hX:X8 ⟨dims,mea,cells⟩=.agg [.sl 2 (dims.map A8),.i mea,.sl 7 (cells.map U5)]:=rfl
  rw[hX]
  refine B5 Tryz.func28 62 fun mK E h0=>?_
  have mL:cells.length≤9223372036854775807:=by
   have:=((mK (.agg [.sl 2 (dims.map A8),.i mea,.sl 7 (cells.map U5)]) (by simp)).agg (.sl 7 (cells.map U5)) (by simp)).sl
   simpa using this
  clear mK
  repeat'((first|refine S2 ?_|(refine T6 ?_ ?_<;>intro h<;>try exact V1 h)|intro el mI mJ|intro el mI|exact T4|refine T5 ?_ ?_|intro ex)<;>try conv=>whnf)
  all_goals first
   |(exfalso;omega)
   |exact A1 rfl rfl
 obtain⟨x,hx⟩:∃x,t.cells[a.toNat]?=some x:=⟨_,List.getElem?_eq_getElem (by omega)⟩
 obtain⟨y,hy⟩:∃y,t.cells[b.toNat]?=some y:=⟨_,List.getElem?_eq_getElem (by omega)⟩
 rw[gy hn hx hy]
 obtain⟨dims,mea,cells⟩:=t
 dsimp only at *
 have hX:X8 ⟨dims,mea,cells⟩=.agg [.sl 2 (dims.map A8),.i mea,.sl 7 (cells.map U5)]:=rfl
 rw[hX]
 have h1:=fun h=>Kv x.codes y.codes h
 by_cases hd:x.codes.length=dims.length∧y.codes.length=dims.length
 ·rw[if_pos hd]
  have h1:=h1 (by omega)
  generalize z1 x.codes y.codes=B at *
  refine B5 Tryz.func28 62 fun mK E h0=>?_
  have mL:cells.length≤9223372036854775807:=by
   have:=((mK (.agg [.sl 2 (dims.map A8),.i mea,.sl 7 (cells.map U5)]) (by simp)).agg (.sl 7 (cells.map U5)) (by simp)).sl
   simpa using this
  clear mK
  repeat'((first|(refine A2 (x:=x) hx (by omega) ?_)|(refine A2 (x:=y) hy (by omega) ?_)|refine A0 h1 ?_|(refine B0 ?_ ?_;kernel_rfl) |refine S2 ?_|(refine T6 ?_ ?_<;>intro h<;>try exact V1 h)|intro el mI mJ|intro el mI|exact T4|refine T5 ?_ ?_|intro ex)<;>try conv=>whnf)
  all_goals first
   |(exfalso;omega)
   |exact A1 rfl rfl
 ·rw[if_neg hd]
  clear h1
  refine B5 Tryz.func28 62 fun mK E h0=>?_
  have mL:cells.length≤9223372036854775807:=by
   have:=((mK (.agg [.sl 2 (dims.map A8),.i mea,.sl 7 (cells.map U5)]) (by simp)).agg (.sl 7 (cells.map U5)) (by simp)).sl
   simpa using this
  clear mK
  repeat'((first|(refine A2 (x:=x) hx (by omega) ?_)|(refine A2 (x:=y) hy (by omega) ?_)|(refine B0 ?_ ?_;kernel_rfl) |refine S2 ?_|(refine T6 ?_ ?_<;>intro h<;>try exact V1 h)|intro el mI mJ|intro el mI|exact T4|refine T5 ?_ ?_|intro ex)<;>try conv=>whnf)
  all_goals first
   |(exfalso;omega)
   |exact A1 rfl rfl
theorem Cu(s:A4)(dims:List Pk)(mea:Int)(cnd:B6):A3 Tryz.prog 44 [sA s,.sl 2 (dims.map A8),.i mea,D5 cnd] (.i (L6 s ⟨[116],1,cnd,dims,mea,[],⟨0,0,0,0,0,[]⟩⟩)):=by
 have hq:NL (.agg [.str [116],.i 1,.i cnd.op,.i cnd.col,.i cnd.code,.i cnd.lo,.i cnd.hi,.sl 6 (cnd.kids.map P9),.sl 2 (dims.map A8),.i mea,.v (.slice none 0 0),.i 0,.i 0,.i 0,.i 0,.i 0,.v (.slice none 0 0)]) (ED ⟨[116],1,cnd,dims,mea,[],⟨0,0,0,0,0,[]⟩⟩):=Bb ⟨.refl _,.refl _,.refl _,.refl _,.refl _,.refl _,.refl _,.refl _,.refl _,.refl _,.nil 1,.refl _,.refl _,.refl _,.refl _,.refl _,.nil 6,trivial⟩
 have h1:A3 Tryz.prog 102 [sA s,.agg [.str [116],.i 1,.i cnd.op,.i cnd.col,.i cnd.code,.i cnd.lo,.i cnd.hi,.sl 6 (cnd.kids.map P9),.sl 2 (dims.map A8),.i mea,.v (.slice none 0 0),.i 0,.i 0,.i 0,.i 0,.i 0,.v (.slice none 0 0)]] (.i (L6 s ⟨[116],1,cnd,dims,mea,[],⟨0,0,0,0,0,[]⟩⟩)):=s5 (YO s ⟨[116],1,cnd,dims,mea,[],⟨0,0,0,0,0,[]⟩⟩) ⟨.refl _,hq,trivial⟩
 generalize L6 s ⟨[116],1,cnd,dims,mea,[],⟨0,0,0,0,0,[]⟩⟩=q at *
 refine B5 Tryz.func44 15 fun mK E h0=>?_
 clear mK
 repeat'((first|refine A0 h1 ?_ |refine S2 ?_|(refine T6 ?_ ?_<;>intro h<;>try exact V1 h)|intro el mI mJ|intro el mI|exact T4|refine T5 ?_ ?_|intro ex)<;>try conv=>whnf)
 all_goals first
  |exact A1 rfl rfl
end Go.Proofs.YtiphlhoclaogjaaGreatDoor

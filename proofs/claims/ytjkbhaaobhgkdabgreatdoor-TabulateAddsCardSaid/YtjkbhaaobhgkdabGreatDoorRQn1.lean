/- Chapter 8: questions and declarations, and which are right. -/
import Derived.Test.YtjkbhaaobhgkdabGreatDoorRF1
set_option linter.unusedVariables false
set_option linter.unnecessarySimpa false
set_option linter.unusedSimpArgs false
set_option maxHeartbeats 64000000
namespace Go.Proofs.YtjkbhaaobhgkdabGreatDoor
open Go Go.Av
attribute [local irreducible] D0 B0 D2 C7 DQ D1 C8 St.le A3 B6
set_option maxRecDepth 100000
structure U5 where
 name:List UInt8
 kind:Int
 flt:B1
 dims:List Pk
 mea:Int
 trms:List Int
 evt:B1
abbrev Ge(q:U5):List AV:=[.str q.name,.i q.kind,.i q.flt.op,.i q.flt.col,.i q.flt.code,.i q.flt.lo,.i q.flt.hi,.sl 6 (q.flt.kids.map W8),.sl 2 (q.dims.map B5),.i q.mea,.sl 1 (q.trms.map wA),.i q.evt.op,.i q.evt.col,.i q.evt.code,.i q.evt.lo,.i q.evt.hi,.sl 6 (q.evt.kids.map W8)]
abbrev ES(q:U5):AV:=.agg (Ge q)
structure DD where
 prj:List UInt8
 src:List UInt8
 coh:B1
 part:Int
 of:Int
 seed:Int
 qs:List U5
abbrev MN(d:DD):List AV:=[.str d.prj,.str d.src,.i d.coh.op,.i d.coh.col,.i d.coh.code,.i d.coh.lo,.i d.coh.hi,.sl 6 (d.coh.kids.map W8),.i d.part,.i d.of,.i d.seed,.sl 17 (d.qs.map Ge)]
abbrev Jp(d:DD):AV:=.agg (MN d)
def Q0(s:A4)(c:Int):Int:=if 0≤c∧c<s.cols.length then (B4 s c).kind else 0
theorem OC(s:A4)(c k:Int)(hk:k≠0):P1 s c k=decide (Q0 s c=k):=by
 unfold P1 Q0
 rw[decide_eq_decide]
 split<;>omega
def IA(s:A4)(q:U5):Int:=if ¬L0 s q.dims=0 then L0 s q.dims else if ¬q.mea=-1∧¬Q0 s q.mea=3 then 7 else if 0<q.trms.length∨¬V6 q.evt then 11 else 0
def Jq(s:A4)(q:U5):Int:=if ¬Q0 s q.mea=3 then 7 else if ¬W2 s q.mea q.trms=0 then W2 s q.mea q.trms else if 0<q.dims.length∨¬V6 q.evt then 11 else 0
def MO(s:A4)(q:U5):Int:=if ¬Q0 s q.mea=3 then 7 else if (B4 s q.mea).low<0 then 2 else if ¬J6 s q.evt=0 then J6 s q.evt else if 0<q.dims.length∨0<q.trms.length then 11 else 0
def N4(s:A4)(q:U5):Int:=if ¬C5 s=0 then C5 s else if D5 q.name=false then 3 else if q.kind<1∨3<q.kind then 4 else if ¬J6 s q.flt=0 then J6 s q.flt else if q.kind=1 then IA s q else if q.kind=2 then Jq s q else MO s q
def OD(s:A4)(l:List U5)(i:Nat)(q:U5):Int:=if ¬N4 s q=0 then N4 s q else if ((l.take i).any fun x=>decide (x.name=q.name))=true then 10 else 0
def Df(s:A4)(d:DD):Int:=if ¬C5 s=0 then C5 s else if D5 d.prj=false∨D5 d.src=false then 3 else if ¬J6 s d.coh=0 then J6 s d.coh else if d.of<1∨1000<d.of∨d.part<1∨d.of<d.part∨d.seed<0∨1099511627776<d.seed then 2 else if d.qs.length=0∨8<d.qs.length then 1 else E8 (OD s d.qs) 0 d.qs
theorem Gf(s:A4)(c:Int):A3 Tryz.prog 139 [sA s,.i c] (.i (Q0 s c)):=by
 unfold Q0
 refine C0 Tryz.func139 20 fun nQ E h0=>?_
 clear nQ
 repeat'((first|(refine B8 ?_ ?_;kernel_rfl) |refine S2 ?_|(refine T6 ?_ ?_<;>intro h<;>try exact V1 h)|intro el nN nP|intro el nN|exact T4|refine T5 ?_ ?_|intro ex)<;>try conv=>whnf)
 all_goals first
  |exact A0 rfl (congrArg AV.i (by rw[if_neg (by omega)]))
  |exact A0 rfl (congrArg AV.i (by rw[if_pos (by omega),B7 nN]))
theorem LY(c:B1):A3 Tryz.prog 141 [E7 c] (.b (decide (V6 c))):=by
 rw[F8]
 refine C0 Tryz.func141 32 fun nQ E h0=>?_
 clear nQ
 repeat'((first|refine S2 ?_|(refine T6 ?_ ?_<;>intro h<;>try exact V1 h)|intro el nN nP|intro el nN|exact T4|refine T5 ?_ ?_|intro ex)<;>try conv=>whnf)
 all_goals first
  |exact A0 rfl (congrArg AV.b (by rw[decide_eq_true (by omega)]))
  |exact A0 rfl (congrArg AV.b (by rw[decide_eq_false (by omega)]))
  |exact A0 rfl (congrArg AV.b (by rw[decide_eq_decide];omega))
theorem bX(x d:Pk):A3 Tryz.prog 140 [QJ x,.iptr (B5 d)] (.b (decide (x.col=d.col))):=by
 refine C0 Tryz.func140 9 fun nQ E h0=>?_
 clear nQ
 repeat'((first|(refine B8 ?_ ?_;kernel_rfl) |refine S2 ?_|(refine T6 ?_ ?_<;>intro h<;>try exact V1 h)|intro el nN nP|intro el nN|exact T4|refine T5 ?_ ?_|intro ex)<;>try conv=>whnf)
 all_goals first
  |exact A0 rfl rfl
theorem iu(l:List Pk)(k:Nat)(d:Pk):A3 Tryz.prog 56 [.sl 2 ((l.map B5).take k),.fn 140 [.iptr (B5 d)]] (.b ((l.take k).any fun x=>decide (x.col=d.col))):=by
 have h:=Ni (l.take k) 140 [.iptr (B5 d)] (fun x=>decide (x.col=d.col)) (fun x _=>bX x d)
 rw[List.map_take]at h
 exact h
theorem mx{s:A4}{c:Int}{k:Int}(h:Q0 s c=k)(hk:¬k=0):∃x,0≤c∧s.cols[c.toNat]?=some x:=by
 unfold Q0 at h
 split at h
 ·exact⟨_,by omega,List.getElem?_eq_getElem (by omega)⟩
 ·omega
theorem iv{s:A4}{c:Int}{x:D4}(h0:0≤c)(hx:s.cols[c.toNat]?=some x):Q0 s c=x.kind:=by
 have:=(List.getElem?_eq_some_iff.1 hx).1
 unfold Q0
 rw[if_pos (by omega),B7 hx]
def Yt(s:A4)(q:U5):Int:=if ¬q.mea=-1∧¬Q0 s q.mea=3 then 7 else if 0<q.trms.length∨¬V6 q.evt then 11 else 0
theorem iw(s:A4)(q:U5):IA s q=if q.dims.length<1∨3<q.dims.length then 1 else if ¬E8 (P9 s q.dims) 0 q.dims=0 then E8 (P9 s q.dims) 0 q.dims else Yt s q:=by
 unfold IA L0 Yt
 by_cases h:q.dims.length<1∨3<q.dims.length
 ·simp only[if_pos h];rfl
 ·simp only[if_neg h]
theorem Vf(s:A4)(q:U5):A3 Tryz.prog 102 [sA s,ES q] (.i (IA s q)):=by
 have hp:=fun d=>Ng s d
 have hk:=fun c=>Gf s c
 have rn:=hk q.mea
 have oJ:=fun k d=>iu q.dims k d
 have he:=LY q.evt
 have oo:decide (V6 q.evt)=true→V6 q.evt:=of_decide_eq_true
 have nt:decide (V6 q.evt)=false→¬V6 q.evt:=of_decide_eq_false
 rw[iw]
 refine C0 Tryz.func102 64 fun nQ E h0=>?_
 have nO:q.dims.length≤9223372036854775807:=by
  have:=((nQ (ES q) (by simp)).agg (.sl 2 (q.dims.map B5)) (by simp)).sl
  simpa using this
 clear nQ
 repeat'((first|refine S2 ?_|(refine T6 ?_ ?_<;>intro h<;>try exact V1 h)|intro el nN nP|intro el nN|exact T4|refine T5 ?_ ?_|intro ex)<;>try conv=>whnf)
 all_goals first
  |(rw[if_pos (by omega)];exact A0 rfl rfl)
  |skip
 rw[if_neg (by omega)]
 refine B2 (ι:=Nat) (fun k=>⟨[(2,.ref 0 0),(3,.ref 1 0),(19,.sl 2 (q.dims.map B5)),(20,.i q.dims.length),(21,.i k)],2,[(0,some (.box (sL s))),(1,some (.box (Ge q)))]⟩) (fun k=>F1 (P9 s q.dims) q.dims k) (fun k=>q.dims.length-k) 0 (F1.zero _ _)
  (A6 h0) (fun k hI=>?_)
 have nZ:=hI.1
 by_cases nR:k<q.dims.length
 ·obtain⟨d,hd⟩:∃d,q.dims[k]?=some d:=⟨_,List.getElem?_eq_getElem nR⟩
  have h1:=hp d
  have h2:=oJ k d
  have h3:=hk d.col
  have nf:∀e:Int,P9 s q.dims k d=e→¬e=0→e=(if ¬E8 (P9 s q.dims) 0 q.dims=0 then E8 (P9 s q.dims) 0 q.dims else Yt s q):=fun e h3 h4=>by
   have:=hI.hit hd (by rw[h3];exact h4)
   rw[h3]at this
   rw[←this,if_pos h4]
  have pm:P9 s q.dims k d=0→F1 (P9 s q.dims) q.dims (k+1):=fun h=>hI.step hd h
  clear he rn oo nt
  unfold P9 at nf pm
  by_cases qE:I4 s d=0
  ·obtain⟨c,qv,hc⟩:=UA qE
   rw[B7 hc]at nf pm
   rw[iv qv hc]at h3
   rw[qE]at h1
   generalize ((q.dims.take k).any fun x=>decide (x.col=d.col))=u at *
   repeat'((first|(refine A2 (x:=d) hd (by omega) ?_)|refine A1 h1 ?_|refine A1 h3 ?_|refine I6 2 ?_|refine A1 h2 ?_ |refine S2 ?_|(refine T6 ?_ ?_<;>intro h<;>try exact V1 h)|intro el nN nP|intro el nN|exact T4|refine T5 ?_ ?_|intro ex)<;>try conv=>whnf)
   all_goals first
    |exact A0 rfl (congrArg AV.i (nf 7 (by rw[if_neg (by omega),if_pos (by assumption)]) (by omega)))
    |exact A0 rfl (congrArg AV.i (nf 10 (by rw[if_neg (by omega),if_neg (by assumption),if_pos (by assumption)]) (by omega)))
    |exact⟨k+1,pm (by rw[if_neg (by omega),if_neg (by assumption),if_neg (by simp[*])]),by omega,A6 h0⟩
    |(exfalso;omega)
  ·repeat'((first|(refine A2 (x:=d) hd (by omega) ?_)|refine A1 h1 ?_ |refine S2 ?_|(refine T6 ?_ ?_<;>intro h<;>try exact V1 h)|intro el nN nP|intro el nN|exact T4|refine T5 ?_ ?_|intro ex)<;>try conv=>whnf)
   all_goals first
    |exact A0 rfl (congrArg AV.i (nf (I4 s d) (by rw[if_pos (by omega)]) qE))
    |(exfalso;omega)
 ·rw[if_neg (show ¬¬E8 (P9 s q.dims) 0 q.dims=0 from fun h=>h (hI.done (by omega)))]
  unfold Yt
  generalize decide (V6 q.evt)=b at *
  clear hp hk oJ
  repeat'((first|refine A1 rn ?_|refine A1 he ?_ |refine S2 ?_|(refine T6 ?_ ?_<;>intro h<;>try exact V1 h)|intro el nN nP|intro el nN|exact T4|refine T5 ?_ ?_|intro ex)<;>try conv=>whnf)
  all_goals first
   |(exfalso;omega)
   |exact A0 rfl (congrArg AV.i (by rw[if_pos (by omega)]))
   |exact A0 rfl (congrArg AV.i (by rw[if_neg (by omega),if_pos (.inl (by omega))]))
   |exact A0 rfl (congrArg AV.i (by rw[if_neg (by omega),if_pos (.inr (nt (by assumption)))]))
   |exact A0 rfl (congrArg AV.i (by rw[if_neg (by omega),if_neg (fun h=>h.elim (fun h=>by omega) (fun h=>h (oo (by assumption))))]))
def Yu(q:U5):Int:=if 0<q.dims.length∨¬V6 q.evt then 11 else 0
theorem ix(s:A4)(q:U5):Jq s q=if ¬Q0 s q.mea=3 then 7 else if q.trms.length<1∨3<q.trms.length then 1 else if ¬E8 (V7 s q.mea q.trms) 0 q.trms=0 then E8 (V7 s q.mea q.trms) 0 q.trms else Yu q:=by
 unfold Jq W2 Yu
 by_cases h:q.trms.length<1∨3<q.trms.length
 ·simp only[if_pos h];rfl
 ·simp only[if_neg h]
theorem Vg(s:A4)(q:U5):A3 Tryz.prog 103 [sA s,ES q] (.i (Jq s q)):=by
 have hk:=fun c=>Gf s c
 have rn:=hk q.mea
 have oJ:=fun k d=>Ij q.trms k d
 have he:=LY q.evt
 have oo:decide (V6 q.evt)=true→V6 q.evt:=of_decide_eq_true
 have nt:decide (V6 q.evt)=false→¬V6 q.evt:=of_decide_eq_false
 rw[ix]
 refine C0 Tryz.func103 59 fun nQ E h0=>?_
 have nO:q.trms.length≤9223372036854775807:=by
  have:=((nQ (ES q) (by simp)).agg (.sl 1 (q.trms.map wA)) (by simp)).sl
  simpa using this
 clear nQ
 repeat'((first|refine A1 rn ?_ |refine S2 ?_|(refine T6 ?_ ?_<;>intro h<;>try exact V1 h)|intro el nN nP|intro el nN|exact T4|refine T5 ?_ ?_|intro ex)<;>try conv=>whnf)
 all_goals first
  |(rw[if_pos (by omega)];exact A0 rfl rfl)
  |(rw[if_neg (by omega),if_pos (by omega)];exact A0 rfl rfl)
  |skip
 rw[if_neg (by omega),if_neg (by omega)]
 refine B2 (ι:=Nat) (fun k=>⟨[(2,.ref 0 0),(3,.ref 1 0),(25,.sl 1 (q.trms.map wA)),(26,.i q.trms.length),(27,.i k)],2,[(0,some (.box (sL s))),(1,some (.box (Ge q)))]⟩) (fun k=>F1 (V7 s q.mea q.trms) q.trms k) (fun k=>q.trms.length-k) 0 (F1.zero _ _)
  (A6 h0) (fun k hI=>?_)
 have nZ:=hI.1
 by_cases nR:k<q.trms.length
 ·obtain⟨c,hc⟩:∃d,q.trms[k]?=some d:=⟨_,List.getElem?_eq_getElem nR⟩
  have h2:=oJ k c
  have h3:=hk c
  have nf:∀e:Int,V7 s q.mea q.trms k c=e→¬e=0→e=(if ¬E8 (V7 s q.mea q.trms) 0 q.trms=0 then E8 (V7 s q.mea q.trms) 0 q.trms else Yu q):=fun e h3 h4=>by
   have:=hI.hit hc (by rw[h3];exact h4)
   rw[h3]at this
   rw[←this,if_pos h4]
  have pm:V7 s q.mea q.trms k c=0→F1 (V7 s q.mea q.trms) q.trms (k+1):=fun h=>hI.step hc h
  clear he rn oo nt
  unfold V7 at nf pm
  rw[OC _ _ _ (by decide)]at nf pm
  generalize Q0 s c=n at *
  generalize ((q.trms.take k).any fun x=>decide (x=c))=u at *
  repeat'((first|(refine A2 (x:=c) hc (by omega) ?_)|refine A1 h3 ?_|refine A1 h2 ?_ |refine S2 ?_|(refine T6 ?_ ?_<;>intro h<;>try exact V1 h)|intro el nN nP|intro el nN|exact T4|refine T5 ?_ ?_|intro ex)<;>try conv=>whnf)
  all_goals first
   |exact A0 rfl (congrArg AV.i (nf 7 (by rw[if_pos (decide_eq_false (by omega))]) (by omega)))
   |exact A0 rfl (congrArg AV.i (nf 10 (by rw[if_neg (by rw[decide_eq_true (by omega)];simp),if_pos (.inl (by omega))]) (by omega)))
   |exact A0 rfl (congrArg AV.i (nf 10 (by rw[if_neg (by rw[decide_eq_true (by omega)];simp),if_pos (.inr (by assumption))]) (by omega)))
   |(refine⟨k+1,pm ?_,by omega,A6 h0⟩;rw[if_neg (by rw[decide_eq_true (by omega)];simp),if_neg (fun h=>h.elim (fun h=>by omega) (fun h=>Bool.false_ne_true ((show u=false by assumption).symm.trans h)))])
   |(exfalso;omega)
 ·rw[if_neg (show ¬¬E8 (V7 s q.mea q.trms) 0 q.trms=0 from fun h=>h (hI.done (by omega)))]
  unfold Yu
  generalize decide (V6 q.evt)=b at *
  clear hk oJ
  repeat'((first|refine A1 he ?_ |refine S2 ?_|(refine T6 ?_ ?_<;>intro h<;>try exact V1 h)|intro el nN nP|intro el nN|exact T4|refine T5 ?_ ?_|intro ex)<;>try conv=>whnf)
  all_goals first
   |(exfalso;omega)
   |exact A0 rfl (congrArg AV.i (by rw[if_pos (.inl (by omega))]))
   |exact A0 rfl (congrArg AV.i (by rw[if_pos (.inr (nt (by assumption)))]))
   |exact A0 rfl (congrArg AV.i (by rw[if_neg (fun h=>h.elim (fun h=>by omega) (fun h=>h (oo (by assumption))))]))
theorem Vh(s:A4)(q:U5):A3 Tryz.prog 104 [sA s,ES q] (.i (MO s q)):=by
 have rn:=Gf s q.mea
 have hc:=AE s q.evt
 unfold MO
 by_cases h3:Q0 s q.mea=3
 ·obtain⟨x,pb,hx⟩:=mx h3 (by decide)
  rw[B7 hx,if_neg (by omega)]
  rw[h3]at rn
  generalize J6 s q.evt=n at *
  refine C0 Tryz.func104 38 fun nQ E h0=>?_
  clear nQ
  repeat'((first|(refine A2 (x:=x) hx (by omega) ?_)|refine A1 rn ?_|refine A1 hc ?_|(refine B8 ?_ ?_;kernel_rfl) |refine S2 ?_|(refine T6 ?_ ?_<;>intro h<;>try exact V1 h)|intro el nN nP|intro el nN|exact T4|refine T5 ?_ ?_|intro ex)<;>try conv=>whnf)
  all_goals first
   |(exfalso;omega)
   |exact A0 rfl (congrArg AV.i (by rw[if_pos (by omega)]))
   |exact A0 rfl (congrArg AV.i (by rw[if_neg (by omega),if_pos (by omega)]))
   |exact A0 rfl (congrArg AV.i (by rw[if_neg (by omega),if_neg (by omega),if_pos (by omega)]))
   |exact A0 rfl (congrArg AV.i (by rw[if_neg (by omega),if_neg (by omega),if_neg (by omega)]))
 ·rw[if_pos h3]
  generalize Q0 s q.mea=n at *
  clear hc
  refine C0 Tryz.func104 38 fun nQ E h0=>?_
  clear nQ
  repeat'((first|refine A1 rn ?_ |refine S2 ?_|(refine T6 ?_ ?_<;>intro h<;>try exact V1 h)|intro el nN nP|intro el nN|exact T4|refine T5 ?_ ?_|intro ex)<;>try conv=>whnf)
  all_goals first
   |(exfalso;omega)
   |exact A0 rfl rfl
theorem Yv(s:A4)(q:U5):A3 Tryz.prog 55 [sA s,ES q] (.i (N4 s q)):=by
 have h1:=Y7 s
 have h2:=CP q.name
 have h3:=AE s q.flt
 have h4:=Vf s q
 have h5:=Vg s q
 have h6:=Vh s q
 unfold N4
 generalize C5 s=n1 at *
 generalize D5 q.name=b at *
 generalize J6 s q.flt=n2 at *
 generalize IA s q=n3 at *
 generalize Jq s q=n4 at *
 generalize MO s q=n5 at *
 refine C0 Tryz.func55 49 fun nQ E h0=>?_
 clear nQ
 repeat'((first|refine A1 h1 ?_|refine A1 h2 ?_|refine A1 h3 ?_|refine A1 h4 ?_|refine A1 h5 ?_|refine A1 h6 ?_ |refine S2 ?_|(refine T6 ?_ ?_<;>intro h<;>try exact V1 h)|intro el nN nP|intro el nN|exact T4|refine T5 ?_ ?_|intro ex)<;>try conv=>whnf)
 all_goals first
  |(exfalso;omega)
  |exact A0 rfl (congrArg AV.i (by rw[if_pos (by omega)]))
  |exact A0 rfl (congrArg AV.i (by rw[if_neg (by omega),if_pos (by assumption)]))
  |exact A0 rfl (congrArg AV.i (by rw[if_neg (by omega),if_neg (fun h=>Bool.false_ne_true (h.symm.trans (show b=true by assumption))),if_pos (by omega)]))
  |exact A0 rfl (congrArg AV.i (by rw[if_neg (by omega),if_neg (fun h=>Bool.false_ne_true (h.symm.trans (show b=true by assumption))),if_neg (by omega),if_pos (by omega)]))
  |exact A0 rfl (congrArg AV.i (by rw[if_neg (by omega),if_neg (fun h=>Bool.false_ne_true (h.symm.trans (show b=true by assumption))),if_neg (by omega),if_neg (by omega),if_pos (by omega)]))
  |exact A0 rfl (congrArg AV.i (by rw[if_neg (by omega),if_neg (fun h=>Bool.false_ne_true (h.symm.trans (show b=true by assumption))),if_neg (by omega),if_neg (by omega),if_neg (by omega),if_pos (by omega)]))
  |exact A0 rfl (congrArg AV.i (by rw[if_neg (by omega),if_neg (fun h=>Bool.false_ne_true (h.symm.trans (show b=true by assumption))),if_neg (by omega),if_neg (by omega),if_neg (by omega),if_neg (by omega)]))
end Go.Proofs.YtjkbhaaobhgkdabGreatDoor

/- Chapter 8: questions and declarations, and which are right. -/
import Derived.Test.YtiphlhoclaogjaaGreatDoorJF1
import Derived.Test.YtiphlhoclaogjaaGreatDoorJTa7
import Derived.Test.YtiphlhoclaogjaaGreatDoorJCe1
set_option linter.unusedVariables false
set_option linter.unnecessarySimpa false
set_option linter.unusedSimpArgs false
set_option maxHeartbeats 64000000
namespace Go.Proofs.YtiphlhoclaogjaaGreatDoor
open Go Go.Av
attribute [local irreducible] C9 B3 C8 D1 DQ D0 C7 St.le A3 B8
set_option maxRecDepth 100000
structure Y3 where
 name:List UInt8
 kind:Int
 flt:B7
 dims:List Pk
 mea:Int
 trms:List Int
 evt:B7
abbrev HI(q:Y3):List AV:=[.str q.name,.i q.kind,.i q.flt.op,.i q.flt.col,.i q.flt.code,.i q.flt.lo,.i q.flt.hi,.sl 6 (q.flt.kids.map R0),.sl 2 (q.dims.map A8),.i q.mea,.sl 1 (q.trms.map wA),.i q.evt.op,.i q.evt.col,.i q.evt.code,.i q.evt.lo,.i q.evt.hi,.sl 6 (q.evt.kids.map R0)]
abbrev Eu(q:Y3):AV:=.agg (HI q)
structure Dm where
 prj:List UInt8
 src:List UInt8
 coh:B7
 part:Int
 of:Int
 seed:Int
 qs:List Y3
abbrev Mn(d:Dm):List AV:=[.str d.prj,.str d.src,.i d.coh.op,.i d.coh.col,.i d.coh.code,.i d.coh.lo,.i d.coh.hi,.sl 6 (d.coh.kids.map R0),.i d.part,.i d.of,.i d.seed,.sl 17 (d.qs.map HI)]
abbrev KO(d:Dm):AV:=.agg (Mn d)
def S0(s:A4)(c:Int):Int:=if 0≤c∧c<s.cols.length then (B6 s c).kind else 0
theorem bi(s:A4)(c k:Int)(hk:k≠0):Q7 s c k=decide (S0 s c=k):=by
 unfold Q7 S0
 rw[decide_eq_decide]
 split<;>omega
def KP(s:A4)(q:Y3):Int:=if ¬Q4 s q.dims=0 then Q4 s q.dims else if ¬q.mea=-1∧¬S0 s q.mea=3 then 7 else if 0<q.trms.length∨¬R1 q.evt then 11 else 0
def KQ(s:A4)(q:Y3):Int:=if ¬S0 s q.mea=3 then 7 else if ¬X3 s q.mea q.trms=0 then X3 s q.mea q.trms else if 0<q.dims.length∨¬R1 q.evt then 11 else 0
def Mo(s:A4)(q:Y3):Int:=if ¬S0 s q.mea=3 then 7 else if (B6 s q.mea).low<0 then 2 else if ¬J6 s q.evt=0 then J6 s q.evt else if 0<q.dims.length∨0<q.trms.length then 11 else 0
def L7(s:A4)(q:Y3):Int:=if ¬C3 s=0 then C3 s else if D6 q.name=false then 3 else if q.kind<1∨3<q.kind then 4 else if ¬J6 s q.flt=0 then J6 s q.flt else if q.kind=1 then KP s q else if q.kind=2 then KQ s q else Mo s q
def Ue(s:A4)(l:List Y3)(i:Nat)(q:Y3):Int:=if ¬L7 s q=0 then L7 s q else if ((l.take i).any fun x=>decide (x.name=q.name))=true then 10 else 0
def GH(s:A4)(d:Dm):Int:=if ¬C3 s=0 then C3 s else if D6 d.prj=false∨D6 d.src=false then 3 else if ¬J6 s d.coh=0 then J6 s d.coh else if d.of<1∨1000<d.of∨d.part<1∨d.of<d.part∨d.seed<0∨1099511627776<d.seed then 2 else if d.qs.length=0∨8<d.qs.length then 1 else F3 (Ue s d.qs) 0 d.qs
theorem HJ(s:A4)(c:Int):A3 Tryz.prog 201 [sA s,.i c] (.i (S0 s c)):=by
 unfold S0
 refine B5 Tryz.func201 20 fun nL E h0=>?_
 clear nL
 repeat'((first|(refine A9 ?_ ?_;kernel_rfl) |refine S2 ?_|(refine T6 ?_ ?_<;>intro h<;>try exact V1 h)|intro el nJ nK|intro el nJ|exact T4|refine T5 ?_ ?_|intro ex)<;>try conv=>whnf)
 all_goals first
  |exact A1 rfl (congrArg AV.i (by rw[if_neg (by omega)]))
  |exact A1 rfl (congrArg AV.i (by rw[if_pos (by omega),B9 nJ]))
theorem Lw(c:B7):A3 Tryz.prog 203 [D5 c] (.b (decide (R1 c))):=by
 rw[F8]
 refine B5 Tryz.func203 32 fun nL E h0=>?_
 clear nL
 repeat'((first|refine S2 ?_|(refine T6 ?_ ?_<;>intro h<;>try exact V1 h)|intro el nJ nK|intro el nJ|exact T4|refine T5 ?_ ?_|intro ex)<;>try conv=>whnf)
 all_goals first
  |exact A1 rfl (congrArg AV.b (by rw[decide_eq_true (by omega)]))
  |exact A1 rfl (congrArg AV.b (by rw[decide_eq_false (by omega)]))
  |exact A1 rfl (congrArg AV.b (by rw[decide_eq_decide];omega))
theorem bk(x d:Pk):A3 Tryz.prog 202 [Qs x,.iptr (A8 d)] (.b (decide (x.col=d.col))):=by
 refine B5 Tryz.func202 9 fun nL E h0=>?_
 clear nL
 repeat'((first|(refine A9 ?_ ?_;kernel_rfl) |refine S2 ?_|(refine T6 ?_ ?_<;>intro h<;>try exact V1 h)|intro el nJ nK|intro el nJ|exact T4|refine T5 ?_ ?_|intro ex)<;>try conv=>whnf)
 all_goals first
  |exact A1 rfl rfl
theorem jE(l:List Pk)(k:Nat)(d:Pk):A3 Tryz.prog 103 [.sl 2 ((l.map A8).take k),.fn 202 [.iptr (A8 d)]] (.b ((l.take k).any fun x=>decide (x.col=d.col))):=by
 have h:=OP (l.take k) 202 [.iptr (A8 d)] (fun x=>decide (x.col=d.col)) (fun x _=>bk x d)
 rw[List.map_take]at h
 exact h
theorem mv{s:A4}{c:Int}{k:Int}(h:S0 s c=k)(hk:¬k=0):∃x,0≤c∧s.cols[c.toNat]?=some x:=by
 unfold S0 at h
 split at h
 ·exact⟨_,by omega,List.getElem?_eq_getElem (by omega)⟩
 ·omega
theorem jF{s:A4}{c:Int}{x:D3}(h0:0≤c)(hx:s.cols[c.toNat]?=some x):S0 s c=x.kind:=by
 have:=(List.getElem?_eq_some_iff.1 hx).1
 unfold S0
 rw[if_pos (by omega),B9 hx]
def ZF(s:A4)(q:Y3):Int:=if ¬q.mea=-1∧¬S0 s q.mea=3 then 7 else if 0<q.trms.length∨¬R1 q.evt then 11 else 0
theorem jG(s:A4)(q:Y3):KP s q=if q.dims.length<1∨3<q.dims.length then 1 else if ¬F3 (W5 s q.dims) 0 q.dims=0 then F3 (W5 s q.dims) 0 q.dims else ZF s q:=by
 unfold KP Q4 ZF
 by_cases h:q.dims.length<1∨3<q.dims.length
 ·simp only[if_pos h];rfl
 ·simp only[if_neg h]
theorem WC(s:A4)(q:Y3):A3 Tryz.prog 159 [sA s,Eu q] (.i (KP s q)):=by
 have hp:=fun d=>ON s d
 have hk:=fun c=>HJ s c
 have sc:=hk q.mea
 have oV:=fun k d=>jE q.dims k d
 have he:=Lw q.evt
 have ou:decide (R1 q.evt)=true→R1 q.evt:=of_decide_eq_true
 have nl:decide (R1 q.evt)=false→¬R1 q.evt:=of_decide_eq_false
 rw[jG]
 refine B5 Tryz.func159 64 fun nL E h0=>?_
 have nM:q.dims.length≤9223372036854775807:=by
  have:=((nL (Eu q) (by simp)).agg (.sl 2 (q.dims.map A8)) (by simp)).sl
  simpa using this
 clear nL
 repeat'((first|refine S2 ?_|(refine T6 ?_ ?_<;>intro h<;>try exact V1 h)|intro el nJ nK|intro el nJ|exact T4|refine T5 ?_ ?_|intro ex)<;>try conv=>whnf)
 all_goals first
  |(rw[if_pos (by omega)];exact A1 rfl rfl)
  |skip
 rw[if_neg (by omega)]
 refine B0 (ι:=Nat) (fun k=>⟨[(2,.ref 0 0),(3,.ref 1 0),(19,.sl 2 (q.dims.map A8)),(20,.i q.dims.length),(21,.i k)],2,[(0,some (.box (sL s))),(1,some (.box (HI q)))]⟩) (fun k=>F2 (W5 s q.dims) q.dims k) (fun k=>q.dims.length-k) 0 (F2.zero _ _)
  (A6 h0) (fun k hI=>?_)
 have nU:=hI.1
 by_cases nN:k<q.dims.length
 ·obtain⟨d,hd⟩:∃d,q.dims[k]?=some d:=⟨_,List.getElem?_eq_getElem nN⟩
  have h1:=hp d
  have h2:=oV k d
  have h3:=hk d.col
  have nf:∀e:Int,W5 s q.dims k d=e→¬e=0→e=(if ¬F3 (W5 s q.dims) 0 q.dims=0 then F3 (W5 s q.dims) 0 q.dims else ZF s q):=fun e h3 h4=>by
   have:=hI.hit hd (by rw[h3];exact h4)
   rw[h3]at this
   rw[←this,if_pos h4]
  have pu:W5 s q.dims k d=0→F2 (W5 s q.dims) q.dims (k+1):=fun h=>hI.step hd h
  clear he sc ou nl
  unfold W5 at nf pu
  by_cases qM:N5 s d=0
  ·obtain⟨c,rL,hc⟩:=Ud qM
   rw[B9 hc]at nf pu
   rw[jF rL hc]at h3
   rw[qM]at h1
   generalize ((q.dims.take k).any fun x=>decide (x.col=d.col))=u at *
   repeat'((first|(refine A2 (x:=d) hd (by omega) ?_)|refine A0 h1 ?_|refine A0 h3 ?_|refine I6 2 ?_|refine A0 h2 ?_ |refine S2 ?_|(refine T6 ?_ ?_<;>intro h<;>try exact V1 h)|intro el nJ nK|intro el nJ|exact T4|refine T5 ?_ ?_|intro ex)<;>try conv=>whnf)
   all_goals first
    |exact A1 rfl (congrArg AV.i (nf 7 (by rw[if_neg (by omega),if_pos (by assumption)]) (by omega)))
    |exact A1 rfl (congrArg AV.i (nf 10 (by rw[if_neg (by omega),if_neg (by assumption),if_pos (by assumption)]) (by omega)))
    |exact⟨k+1,pu (by rw[if_neg (by omega),if_neg (by assumption),if_neg (by simp[*])]),by omega,A6 h0⟩
    |(exfalso;omega)
  ·repeat'((first|(refine A2 (x:=d) hd (by omega) ?_)|refine A0 h1 ?_ |refine S2 ?_|(refine T6 ?_ ?_<;>intro h<;>try exact V1 h)|intro el nJ nK|intro el nJ|exact T4|refine T5 ?_ ?_|intro ex)<;>try conv=>whnf)
   all_goals first
    |exact A1 rfl (congrArg AV.i (nf (N5 s d) (by rw[if_pos (by omega)]) qM))
    |(exfalso;omega)
 ·rw[if_neg (show ¬¬F3 (W5 s q.dims) 0 q.dims=0 from fun h=>h (hI.done (by omega)))]
  unfold ZF
  generalize decide (R1 q.evt)=b at *
  clear hp hk oV
  repeat'((first|refine A0 sc ?_|refine A0 he ?_ |refine S2 ?_|(refine T6 ?_ ?_<;>intro h<;>try exact V1 h)|intro el nJ nK|intro el nJ|exact T4|refine T5 ?_ ?_|intro ex)<;>try conv=>whnf)
  all_goals first
   |(exfalso;omega)
   |exact A1 rfl (congrArg AV.i (by rw[if_pos (by omega)]))
   |exact A1 rfl (congrArg AV.i (by rw[if_neg (by omega),if_pos (.inl (by omega))]))
   |exact A1 rfl (congrArg AV.i (by rw[if_neg (by omega),if_pos (.inr (nl (by assumption)))]))
   |exact A1 rfl (congrArg AV.i (by rw[if_neg (by omega),if_neg (fun h=>h.elim (fun h=>by omega) (fun h=>h (ou (by assumption))))]))
def ZG(q:Y3):Int:=if 0<q.dims.length∨¬R1 q.evt then 11 else 0
theorem jH(s:A4)(q:Y3):KQ s q=if ¬S0 s q.mea=3 then 7 else if q.trms.length<1∨3<q.trms.length then 1 else if ¬F3 (Y0 s q.mea q.trms) 0 q.trms=0 then F3 (Y0 s q.mea q.trms) 0 q.trms else ZG q:=by
 unfold KQ X3 ZG
 by_cases h:q.trms.length<1∨3<q.trms.length
 ·simp only[if_pos h];rfl
 ·simp only[if_neg h]
theorem WD(s:A4)(q:Y3):A3 Tryz.prog 160 [sA s,Eu q] (.i (KQ s q)):=by
 have hk:=fun c=>HJ s c
 have sc:=hk q.mea
 have oV:=fun k d=>JN q.trms k d
 have he:=Lw q.evt
 have ou:decide (R1 q.evt)=true→R1 q.evt:=of_decide_eq_true
 have nl:decide (R1 q.evt)=false→¬R1 q.evt:=of_decide_eq_false
 rw[jH]
 refine B5 Tryz.func160 59 fun nL E h0=>?_
 have nM:q.trms.length≤9223372036854775807:=by
  have:=((nL (Eu q) (by simp)).agg (.sl 1 (q.trms.map wA)) (by simp)).sl
  simpa using this
 clear nL
 repeat'((first|refine A0 sc ?_ |refine S2 ?_|(refine T6 ?_ ?_<;>intro h<;>try exact V1 h)|intro el nJ nK|intro el nJ|exact T4|refine T5 ?_ ?_|intro ex)<;>try conv=>whnf)
 all_goals first
  |(rw[if_pos (by omega)];exact A1 rfl rfl)
  |(rw[if_neg (by omega),if_pos (by omega)];exact A1 rfl rfl)
  |skip
 rw[if_neg (by omega),if_neg (by omega)]
 refine B0 (ι:=Nat) (fun k=>⟨[(2,.ref 0 0),(3,.ref 1 0),(25,.sl 1 (q.trms.map wA)),(26,.i q.trms.length),(27,.i k)],2,[(0,some (.box (sL s))),(1,some (.box (HI q)))]⟩) (fun k=>F2 (Y0 s q.mea q.trms) q.trms k) (fun k=>q.trms.length-k) 0 (F2.zero _ _)
  (A6 h0) (fun k hI=>?_)
 have nU:=hI.1
 by_cases nN:k<q.trms.length
 ·obtain⟨c,hc⟩:∃d,q.trms[k]?=some d:=⟨_,List.getElem?_eq_getElem nN⟩
  have h2:=oV k c
  have h3:=hk c
  have nf:∀e:Int,Y0 s q.mea q.trms k c=e→¬e=0→e=(if ¬F3 (Y0 s q.mea q.trms) 0 q.trms=0 then F3 (Y0 s q.mea q.trms) 0 q.trms else ZG q):=fun e h3 h4=>by
   have:=hI.hit hc (by rw[h3];exact h4)
   rw[h3]at this
   rw[←this,if_pos h4]
  have pu:Y0 s q.mea q.trms k c=0→F2 (Y0 s q.mea q.trms) q.trms (k+1):=fun h=>hI.step hc h
  clear he sc ou nl
  unfold Y0 at nf pu
  rw[bi _ _ _ (by decide)]at nf pu
  generalize S0 s c=n at *
  generalize ((q.trms.take k).any fun x=>decide (x=c))=u at *
  repeat'((first|(refine A2 (x:=c) hc (by omega) ?_)|refine A0 h3 ?_|refine A0 h2 ?_ |refine S2 ?_|(refine T6 ?_ ?_<;>intro h<;>try exact V1 h)|intro el nJ nK|intro el nJ|exact T4|refine T5 ?_ ?_|intro ex)<;>try conv=>whnf)
  all_goals first
   |exact A1 rfl (congrArg AV.i (nf 7 (by rw[if_pos (decide_eq_false (by omega))]) (by omega)))
   |exact A1 rfl (congrArg AV.i (nf 10 (by rw[if_neg (by rw[decide_eq_true (by omega)];simp),if_pos (.inl (by omega))]) (by omega)))
   |exact A1 rfl (congrArg AV.i (nf 10 (by rw[if_neg (by rw[decide_eq_true (by omega)];simp),if_pos (.inr (by assumption))]) (by omega)))
   |(refine⟨k+1,pu ?_,by omega,A6 h0⟩;rw[if_neg (by rw[decide_eq_true (by omega)];simp),if_neg (fun h=>h.elim (fun h=>by omega) (fun h=>Bool.false_ne_true ((show u=false by assumption).symm.trans h)))])
   |(exfalso;omega)
 ·rw[if_neg (show ¬¬F3 (Y0 s q.mea q.trms) 0 q.trms=0 from fun h=>h (hI.done (by omega)))]
  unfold ZG
  generalize decide (R1 q.evt)=b at *
  clear hk oV
  repeat'((first|refine A0 he ?_ |refine S2 ?_|(refine T6 ?_ ?_<;>intro h<;>try exact V1 h)|intro el nJ nK|intro el nJ|exact T4|refine T5 ?_ ?_|intro ex)<;>try conv=>whnf)
  all_goals first
   |(exfalso;omega)
   |exact A1 rfl (congrArg AV.i (by rw[if_pos (.inl (by omega))]))
   |exact A1 rfl (congrArg AV.i (by rw[if_pos (.inr (nl (by assumption)))]))
   |exact A1 rfl (congrArg AV.i (by rw[if_neg (fun h=>h.elim (fun h=>by omega) (fun h=>h (ou (by assumption))))]))
theorem WE(s:A4)(q:Y3):A3 Tryz.prog 161 [sA s,Eu q] (.i (Mo s q)):=by
 have sc:=HJ s q.mea
 have hc:=BA s q.evt
 unfold Mo
 by_cases h3:S0 s q.mea=3
 ·obtain⟨x,pY,hx⟩:=mv h3 (by decide)
  rw[B9 hx,if_neg (by omega)]
  rw[h3]at sc
  generalize J6 s q.evt=n at *
  refine B5 Tryz.func161 38 fun nL E h0=>?_
  clear nL
  repeat'((first|(refine A2 (x:=x) hx (by omega) ?_)|refine A0 sc ?_|refine A0 hc ?_|(refine A9 ?_ ?_;kernel_rfl) |refine S2 ?_|(refine T6 ?_ ?_<;>intro h<;>try exact V1 h)|intro el nJ nK|intro el nJ|exact T4|refine T5 ?_ ?_|intro ex)<;>try conv=>whnf)
  all_goals first
   |(exfalso;omega)
   |exact A1 rfl (congrArg AV.i (by rw[if_pos (by omega)]))
   |exact A1 rfl (congrArg AV.i (by rw[if_neg (by omega),if_pos (by omega)]))
   |exact A1 rfl (congrArg AV.i (by rw[if_neg (by omega),if_neg (by omega),if_pos (by omega)]))
   |exact A1 rfl (congrArg AV.i (by rw[if_neg (by omega),if_neg (by omega),if_neg (by omega)]))
 ·rw[if_pos h3]
  generalize S0 s q.mea=n at *
  clear hc
  refine B5 Tryz.func161 38 fun nL E h0=>?_
  clear nL
  repeat'((first|refine A0 sc ?_ |refine S2 ?_|(refine T6 ?_ ?_<;>intro h<;>try exact V1 h)|intro el nJ nK|intro el nJ|exact T4|refine T5 ?_ ?_|intro ex)<;>try conv=>whnf)
  all_goals first
   |(exfalso;omega)
   |exact A1 rfl rfl
theorem ZH(s:A4)(q:Y3):A3 Tryz.prog 102 [sA s,Eu q] (.i (L7 s q)):=by
 have h1:=k6 s
 have h2:=DC q.name
 have h3:=BA s q.flt
 have h4:=WC s q
 have h5:=WD s q
 have h6:=WE s q
 unfold L7
 generalize C3 s=n1 at *
 generalize D6 q.name=b at *
 generalize J6 s q.flt=n2 at *
 generalize KP s q=n3 at *
 generalize KQ s q=n4 at *
 generalize Mo s q=n5 at *
 refine B5 Tryz.func102 49 fun nL E h0=>?_
 clear nL
 repeat'((first|refine A0 h1 ?_|refine A0 h2 ?_|refine A0 h3 ?_|refine A0 h4 ?_|refine A0 h5 ?_|refine A0 h6 ?_ |refine S2 ?_|(refine T6 ?_ ?_<;>intro h<;>try exact V1 h)|intro el nJ nK|intro el nJ|exact T4|refine T5 ?_ ?_|intro ex)<;>try conv=>whnf)
 all_goals first
  |(exfalso;omega)
  |exact A1 rfl (congrArg AV.i (by rw[if_pos (by omega)]))
  |exact A1 rfl (congrArg AV.i (by rw[if_neg (by omega),if_pos (by assumption)]))
  |exact A1 rfl (congrArg AV.i (by rw[if_neg (by omega),if_neg (fun h=>Bool.false_ne_true (h.symm.trans (show b=true by assumption))),if_pos (by omega)]))
  |exact A1 rfl (congrArg AV.i (by rw[if_neg (by omega),if_neg (fun h=>Bool.false_ne_true (h.symm.trans (show b=true by assumption))),if_neg (by omega),if_pos (by omega)]))
  |exact A1 rfl (congrArg AV.i (by rw[if_neg (by omega),if_neg (fun h=>Bool.false_ne_true (h.symm.trans (show b=true by assumption))),if_neg (by omega),if_neg (by omega),if_pos (by omega)]))
  |exact A1 rfl (congrArg AV.i (by rw[if_neg (by omega),if_neg (fun h=>Bool.false_ne_true (h.symm.trans (show b=true by assumption))),if_neg (by omega),if_neg (by omega),if_neg (by omega),if_pos (by omega)]))
  |exact A1 rfl (congrArg AV.i (by rw[if_neg (by omega),if_neg (fun h=>Bool.false_ne_true (h.symm.trans (show b=true by assumption))),if_neg (by omega),if_neg (by omega),if_neg (by omega),if_neg (by omega)]))
structure Ez where
 dims:List Pk
 mea:Int
 cells:List G2
abbrev fA(t:Ez):List AV:=[.sl 2 (t.dims.map A8),.i t.mea,.sl 7 (t.cells.map O8)]
abbrev S3(t:Ez):AV:=.agg (fA t)
def KR(t:Ez)(a b:Int):Bool :=
 if a<0∨(t.cells.length:Int)≤a∨b<0∨(t.cells.length:Int)≤b then false
 else match t.cells[a.toNat]?,t.cells[b.toNat]? with
  |some x,some y=>if x.codes.length=t.dims.length∧y.codes.length=t.dims.length then AP x.codes y.codes else false
  |_,_=>false
theorem Uf(xs ys:List Int):A3 Tryz.prog 75 [.sl 1 (xs.map wA),.sl 1 (ys.map wA)] (.b (decide (xs=ys))):=by
 refine B5 Tryz.func75 26 fun nL E h0=>?_
 have nM:xs.length≤9223372036854775807:=by
  have:=(nL (.sl 1 (xs.map wA)) (by simp)).sl
  simpa using this
 have rp:ys.length≤9223372036854775807:=by
  have:=(nL (.sl 1 (ys.map wA)) (by simp)).sl
  simpa using this
 clear nL
 repeat'((first|refine S2 ?_|(refine T6 ?_ ?_<;>intro h<;>try exact V1 h)|intro el nJ nK|intro el nJ|exact T4|refine T5 ?_ ?_|intro ex)<;>try conv=>whnf)
 ·exact A1 rfl (congrArg AV.b (by
   have:xs≠ys:=by intro e;subst e;omega
   simp[this]))
 have hl:xs.length=ys.length:=by omega
 refine B0 (ι:=Nat) (fun k=>⟨[(0,.sl 1 (xs.map wA)),(1,.sl 1 (ys.map wA)),(12,.i xs.length),(13,.i k)],0,[]⟩) (fun k=>k≤xs.length∧ys.take k=xs.take k) (fun k=>xs.length-k) 0 ⟨Nat.zero_le _,rfl⟩ (A6 h0) (fun k hI=>?_)
 obtain⟨hk,hI⟩:=hI
 by_cases nN:k<xs.length
 ·obtain⟨x,hx⟩:∃x,xs[k]?=some x:=⟨_,List.getElem?_eq_getElem nN⟩
  obtain⟨y,hy⟩:∃y,ys[k]?=some y:=⟨_,List.getElem?_eq_getElem (by omega)⟩
  have qV:xs[((k:Nat):Int).toNat]?=some x:=hx
  have we:ys[((k:Nat):Int).toNat]?=some y:=hy
  repeat'((first|(refine A2 (x:=x) qV (by omega) ?_)|(refine A2 (x:=y) we (by omega) ?_)|(refine A9 ?_ ?_;kernel_rfl) |refine S2 ?_|(refine T6 ?_ ?_<;>intro h<;>try exact V1 h)|intro el nJ nK|intro el nJ|exact T4|refine T5 ?_ ?_|intro ex)<;>try conv=>whnf)
  all_goals first
   |(exfalso;omega)
   |(refine A1 rfl (congrArg AV.b (decide_eq_false (fun e=>?_)).symm)
     subst e
     rw[hx]at hy
     cases hy
     omega)
   |exact⟨k+1,⟨by omega,by rw[F1 hx,F1 hy,hI];congr 2;omega⟩,by omega,A6 h0⟩
 ·repeat'((first|refine S2 ?_|(refine T6 ?_ ?_<;>intro h<;>try exact V1 h)|intro el nJ nK|intro el nJ|exact T4|refine T5 ?_ ?_|intro ex)<;>try conv=>whnf)
  all_goals first
   |(exfalso;omega)
   |(refine A1 rfl (congrArg AV.b (decide_eq_true ?_).symm)
     rw[List.take_of_length_le (by omega),List.take_of_length_le (by omega)]at hI
     exact hI.symm)
theorem bm(l:List (G2))(f:Nat)(caps:List AV)(p:(G2)→Bool)(hf:∀x∈l,A3 Tryz.prog f ((fun x=>.agg (O8 x)) x::caps) (.b (p x))):A3 Tryz.prog 73 [.sl 7 (l.map O8),.fn f caps] (.i (D9 p l 0)):=by
 refine B5 Tryz.func73 19 fun nL E h0=>?_
 have nM:l.length≤9223372036854775807:=by have:=(nL (.sl 7 (l.map O8)) (by simp)).sl;simpa using this
 repeat'((first|refine S2 ?_|(refine T6 ?_ ?_<;>intro h<;>try exact V1 h)|intro el nJ nK|intro el nJ|exact T4|refine T5 ?_ ?_|intro ex)<;>try conv=>whnf)
 refine B0 (ι:=Nat) (fun k=>⟨[(0,.sl 7 (l.map O8)),(1,.fn f caps),(7,.i l.length),(8,.i k)],0,[]⟩) (fun k=>k≤l.length∧D9 p l 0=D9 p (l.drop k) k) (fun k=>l.length-k) 0 ⟨Nat.zero_le _,rfl⟩ (A6 h0) (fun k hI=>?_)
 obtain⟨hk,hI⟩:=hI
 repeat'((first|refine A0 (hf _ (List.mem_of_getElem? nJ)) ?_ |refine S2 ?_|(refine T6 ?_ ?_<;>intro h<;>try exact V1 h)|intro el nJ nK|intro el nJ|exact T4|refine T5 ?_ ?_|intro ex)<;>try conv=>whnf)
 all_goals first
  |exact⟨k+1,⟨by omega,by rw[hI,F7 nJ,D9,if_neg (by simp[h])];rfl⟩,by omega,A6 h0⟩
  |exact A1 rfl (congrArg AV.i (by rw[hI,F7 nJ,D9,if_pos (by simp[h])]))
  |exact A1 rfl (congrArg AV.i (by rw[hI,show k=l.length by omega,List.drop_length];rfl))
theorem fB(c:G2)(codes:List Int):A3 Tryz.prog 74 [.agg (O8 c),.iptr [.sl 1 (codes.map wA)]] (.b (decide (c.codes=codes))):=by
 have h1:=Uf c.codes codes
 obtain⟨cs,cnt,sum,amo,fst,snd,rows⟩:=c
 dsimp only at *
 refine B5 Tryz.func74 8 fun nL E h0=>?_
 clear nL
 repeat'((first|refine A0 h1 ?_ |refine S2 ?_|(refine T6 ?_ ?_<;>intro h<;>try exact V1 h)|intro el nJ nK|intro el nJ|exact T4|refine T5 ?_ ?_|intro ex)<;>try conv=>whnf)
 all_goals first
  |exact A1 rfl rfl
theorem Lx(t:Ez)(codes:List Int):A3 Tryz.prog 26 [S3 t,.sl 1 (codes.map wA)] (.i (D9 (fun c:G2=>decide (c.codes=codes)) t.cells 0)):=by
 have h1:=bm t.cells 74 [.iptr [.sl 1 (codes.map wA)]] (fun c=>decide (c.codes=codes)) (fun c _=>fB c codes)
 obtain⟨dims,mea,cells⟩:=t
 dsimp only at *
 generalize D9 (fun c:G2=>decide (c.codes=codes)) cells 0=j at *
 refine B5 Tryz.func26 9 fun nL E h0=>?_
 clear nL
 repeat'((first|refine A0 h1 ?_|refine I6 1 ?_ |refine S2 ?_|(refine T6 ?_ ?_<;>intro h<;>try exact V1 h)|intro el nJ nK|intro el nJ|exact T4|refine T5 ?_ ?_|intro ex)<;>try conv=>whnf)
 all_goals first
  |exact A1 rfl rfl
theorem bn{t:Ez}{a b:Int}(h:a<0∨(t.cells.length:Int)≤a∨b<0∨(t.cells.length:Int)≤b):KR t a b=false:=if_pos h
theorem XK{t:Ez}{a b:Int}{x y:G2}(h:¬(a<0∨(t.cells.length:Int)≤a∨b<0∨(t.cells.length:Int)≤b))(hx:t.cells[a.toNat]?=some x)(hy:t.cells[b.toNat]?=some y):KR t a b=if x.codes.length=t.dims.length∧y.codes.length=t.dims.length then AP x.codes y.codes else false:=by
 unfold KR
 rw[if_neg h,hx,hy]
theorem Ev(s:A4)(t:Ez)(a b:Int):A3 Tryz.prog 28 [sA s,S3 t,.i a,.i b] (.b (KR t a b)):=by
 by_cases hn:a<0∨(t.cells.length:Int)≤a∨b<0∨(t.cells.length:Int)≤b
 ·rw[bn hn]
  obtain⟨dims,mea,cells⟩:=t
  dsimp only at *
  have hX:S3 ⟨dims,mea,cells⟩=.agg [.sl 2 (dims.map A8),.i mea,.sl 7 (cells.map O8)]:=rfl
  rw[hX]
  refine B5 Tryz.func28 62 fun nL E h0=>?_
  have nM:cells.length≤9223372036854775807:=by
   have:=((nL (.agg [.sl 2 (dims.map A8),.i mea,.sl 7 (cells.map O8)]) (by simp)).agg (.sl 7 (cells.map O8)) (by simp)).sl
   simpa using this
  clear nL
  repeat'((first|refine S2 ?_|(refine T6 ?_ ?_<;>intro h<;>try exact V1 h)|intro el nJ nK|intro el nJ|exact T4|refine T5 ?_ ?_|intro ex)<;>try conv=>whnf)
  all_goals first
   |(exfalso;omega)
   |exact A1 rfl rfl
 obtain⟨x,hx⟩:∃x,t.cells[a.toNat]?=some x:=⟨_,List.getElem?_eq_getElem (by omega)⟩
 obtain⟨y,hy⟩:∃y,t.cells[b.toNat]?=some y:=⟨_,List.getElem?_eq_getElem (by omega)⟩
 rw[XK hn hx hy]
 obtain⟨dims,mea,cells⟩:=t
 dsimp only at *
 have hX:S3 ⟨dims,mea,cells⟩=.agg [.sl 2 (dims.map A8),.i mea,.sl 7 (cells.map O8)]:=rfl
 rw[hX]
 have h1:=fun h=>Lt x.codes y.codes h
 by_cases hd:x.codes.length=dims.length∧y.codes.length=dims.length
 ·rw[if_pos hd]
  have h1:=h1 (by omega)
  generalize AP x.codes y.codes=B at *
  refine B5 Tryz.func28 62 fun nL E h0=>?_
  have nM:cells.length≤9223372036854775807:=by
   have:=((nL (.agg [.sl 2 (dims.map A8),.i mea,.sl 7 (cells.map O8)]) (by simp)).agg (.sl 7 (cells.map O8)) (by simp)).sl
   simpa using this
  clear nL
  repeat'((first|(refine A2 (x:=x) hx (by omega) ?_)|(refine A2 (x:=y) hy (by omega) ?_)|refine A0 h1 ?_|(refine A9 ?_ ?_;kernel_rfl) |refine S2 ?_|(refine T6 ?_ ?_<;>intro h<;>try exact V1 h)|intro el nJ nK|intro el nJ|exact T4|refine T5 ?_ ?_|intro ex)<;>try conv=>whnf)
  all_goals first
   |(exfalso;omega)
   |exact A1 rfl rfl
 ·rw[if_neg hd]
  clear h1
  refine B5 Tryz.func28 62 fun nL E h0=>?_
  have nM:cells.length≤9223372036854775807:=by
   have:=((nL (.agg [.sl 2 (dims.map A8),.i mea,.sl 7 (cells.map O8)]) (by simp)).agg (.sl 7 (cells.map O8)) (by simp)).sl
   simpa using this
  clear nL
  repeat'((first|(refine A2 (x:=x) hx (by omega) ?_)|(refine A2 (x:=y) hy (by omega) ?_)|(refine A9 ?_ ?_;kernel_rfl) |refine S2 ?_|(refine T6 ?_ ?_<;>intro h<;>try exact V1 h)|intro el nJ nK|intro el nJ|exact T4|refine T5 ?_ ?_|intro ex)<;>try conv=>whnf)
  all_goals first
   |(exfalso;omega)
   |exact A1 rfl rfl
theorem Dn(s:A4)(dims:List Pk)(mea:Int)(cnd:B7):A3 Tryz.prog 44 [sA s,.sl 2 (dims.map A8),.i mea,D5 cnd] (.i (L7 s ⟨[116],1,cnd,dims,mea,[],⟨0,0,0,0,0,[]⟩⟩)):=by
 have hq:NL (.agg [.str [116],.i 1,.i cnd.op,.i cnd.col,.i cnd.code,.i cnd.lo,.i cnd.hi,.sl 6 (cnd.kids.map R0),.sl 2 (dims.map A8),.i mea,.v (.slice none 0 0),.i 0,.i 0,.i 0,.i 0,.i 0,.v (.slice none 0 0)]) (Eu ⟨[116],1,cnd,dims,mea,[],⟨0,0,0,0,0,[]⟩⟩):=CX ⟨.refl _,.refl _,.refl _,.refl _,.refl _,.refl _,.refl _,.refl _,.refl _,.refl _,.nil 1,.refl _,.refl _,.refl _,.refl _,.refl _,.nil 6,trivial⟩
 have h1:A3 Tryz.prog 102 [sA s,.agg [.str [116],.i 1,.i cnd.op,.i cnd.col,.i cnd.code,.i cnd.lo,.i cnd.hi,.sl 6 (cnd.kids.map R0),.sl 2 (dims.map A8),.i mea,.v (.slice none 0 0),.i 0,.i 0,.i 0,.i 0,.i 0,.v (.slice none 0 0)]] (.i (L7 s ⟨[116],1,cnd,dims,mea,[],⟨0,0,0,0,0,[]⟩⟩)):=z1 (ZH s ⟨[116],1,cnd,dims,mea,[],⟨0,0,0,0,0,[]⟩⟩) ⟨.refl _,hq,trivial⟩
 generalize L7 s ⟨[116],1,cnd,dims,mea,[],⟨0,0,0,0,0,[]⟩⟩=q at *
 refine B5 Tryz.func44 15 fun nL E h0=>?_
 clear nL
 repeat'((first|refine A0 h1 ?_ |refine S2 ?_|(refine T6 ?_ ?_<;>intro h<;>try exact V1 h)|intro el nJ nK|intro el nJ|exact T4|refine T5 ?_ ?_|intro ex)<;>try conv=>whnf)
 all_goals first
  |exact A1 rfl rfl
end Go.Proofs.YtiphlhoclaogjaaGreatDoor

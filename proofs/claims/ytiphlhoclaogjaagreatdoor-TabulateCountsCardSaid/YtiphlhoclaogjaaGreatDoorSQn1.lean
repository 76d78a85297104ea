/- Chapter 8: questions and declarations, and which are right. -/
import Derived.Test.YtiphlhoclaogjaaGreatDoorSF1
set_option linter.unusedVariables false
set_option linter.unnecessarySimpa false
set_option linter.unusedSimpArgs false
set_option maxHeartbeats 64000000
namespace Go.Proofs.YtiphlhoclaogjaaGreatDoor
open Go Go.Av
attribute [local irreducible] C7 B2 D3 C9 DQ D0 C8 St.le A3 B9
set_option maxRecDepth 100000
structure N6 where
 name:List UInt8
 kind:Int
 flt:B1
 dims:List Pk
 mea:Int
 trms:List Int
 evt:B1
abbrev Bj(q:N6):List AV:=[.str q.name,.i q.kind,.i q.flt.op,.i q.flt.col,.i q.flt.code,.i q.flt.lo,.i q.flt.hi,.sl 6 (q.flt.kids.map L0),.sl 2 (q.dims.map B4),.i q.mea,.sl 1 (q.trms.map wA),.i q.evt.op,.i q.evt.col,.i q.evt.code,.i q.evt.lo,.i q.evt.hi,.sl 6 (q.evt.kids.map L0)]
abbrev x8(q:N6):AV:=.agg (Bj q)
structure o6 where
 prj:List UInt8
 src:List UInt8
 coh:B1
 part:Int
 of:Int
 seed:Int
 qs:List N6
abbrev BO(d:o6):List AV:=[.str d.prj,.str d.src,.i d.coh.op,.i d.coh.col,.i d.coh.code,.i d.coh.lo,.i d.coh.hi,.sl 6 (d.coh.kids.map L0),.i d.part,.i d.of,.i d.seed,.sl 17 (d.qs.map Bj)]
abbrev EN(d:o6):AV:=.agg (BO d)
def Q9(s:A4)(c:Int):Int:=if 0≤c∧c<s.cols.length then (C0 s c).kind else 0
theorem af(s:A4)(c k:Int)(hk:k≠0):j6 s c k=decide (Q9 s c=k):=by
 unfold j6 Q9
 rw[decide_eq_decide]
 split<;>omega
def Jj(s:A4)(q:N6):Int:=if ¬Q8 s q.dims=0 then Q8 s q.dims else if ¬q.mea=-1∧¬Q9 s q.mea=3 then 7 else if 0<q.trms.length∨¬Y0 q.evt then 11 else 0
def Jk(s:A4)(q:N6):Int:=if ¬Q9 s q.mea=3 then 7 else if ¬Z7 s q.mea q.trms=0 then Z7 s q.mea q.trms else if 0<q.dims.length∨¬Y0 q.evt then 11 else 0
def MA(s:A4)(q:N6):Int:=if ¬Q9 s q.mea=3 then 7 else if (C0 s q.mea).low<0 then 2 else if ¬K7 s q.evt=0 then K7 s q.evt else if 0<q.dims.length∨0<q.trms.length then 11 else 0
def Q1(s:A4)(q:N6):Int:=if ¬C3 s=0 then C3 s else if D6 q.name=false then 3 else if q.kind<1∨3<q.kind then 4 else if ¬K7 s q.flt=0 then K7 s q.flt else if q.kind=1 then Jj s q else if q.kind=2 then Jk s q else MA s q
def To(s:A4)(l:List N6)(i:Nat)(q:N6):Int:=if ¬Q1 s q=0 then Q1 s q else if ((l.take i).any fun x=>decide (x.name=q.name))=true then 10 else 0
def CR(s:A4)(d:o6):Int:=if ¬C3 s=0 then C3 s else if D6 d.prj=false∨D6 d.src=false then 3 else if ¬K7 s d.coh=0 then K7 s d.coh else if d.of<1∨1000<d.of∨d.part<1∨d.of<d.part∨d.seed<0∨1099511627776<d.seed then 2 else if d.qs.length=0∨8<d.qs.length then 1 else F0 (To s d.qs) 0 d.qs
theorem GY(s:A4)(c:Int):A3 Tryz.prog 201 [sA s,.i c] (.i (Q9 s c)):=by
 unfold Q9
 refine B6 Tryz.func201 20 fun lW E h0=>?_
 clear lW
 repeat'((first|(refine B3 ?_ ?_;kernel_rfl) |refine S2 ?_|(refine T6 ?_ ?_<;>intro h<;>try exact V1 h)|intro el lU lV|intro el lU|exact T4|refine T5 ?_ ?_|intro ex)<;>try conv=>whnf)
 all_goals first
  |exact A0 rfl (congrArg AV.i (by rw[if_neg (by omega)]))
  |exact A0 rfl (congrArg AV.i (by rw[if_pos (by omega),C1 lU]))
theorem LM(c:B1):A3 Tryz.prog 203 [E0 c] (.b (decide (Y0 c))):=by
 rw[F7]
 refine B6 Tryz.func203 32 fun lW E h0=>?_
 clear lW
 repeat'((first|refine S2 ?_|(refine T6 ?_ ?_<;>intro h<;>try exact V1 h)|intro el lU lV|intro el lU|exact T4|refine T5 ?_ ?_|intro ex)<;>try conv=>whnf)
 all_goals first
  |exact A0 rfl (congrArg AV.b (by rw[decide_eq_true (by omega)]))
  |exact A0 rfl (congrArg AV.b (by rw[decide_eq_false (by omega)]))
  |exact A0 rfl (congrArg AV.b (by rw[decide_eq_decide];omega))
theorem ah(x d:Pk):A3 Tryz.prog 202 [QB x,.iptr (B4 d)] (.b (decide (x.col=d.col))):=by
 refine B6 Tryz.func202 9 fun lW E h0=>?_
 clear lW
 repeat'((first|(refine B3 ?_ ?_;kernel_rfl) |refine S2 ?_|(refine T6 ?_ ?_<;>intro h<;>try exact V1 h)|intro el lU lV|intro el lU|exact T4|refine T5 ?_ ?_|intro ex)<;>try conv=>whnf)
 all_goals first
  |exact A0 rfl rfl
theorem gZ(l:List Pk)(k:Nat)(d:Pk):A3 Tryz.prog 103 [.sl 2 ((l.map B4).take k),.fn 202 [.iptr (B4 d)]] (.b ((l.take k).any fun x=>decide (x.col=d.col))):=by
 have h:=Nb (l.take k) 202 [.iptr (B4 d)] (fun x=>decide (x.col=d.col)) (fun x _=>ah x d)
 rw[List.map_take]at h
 exact h
theorem lH{s:A4}{c:Int}{k:Int}(h:Q9 s c=k)(hk:¬k=0):∃x,0≤c∧s.cols[c.toNat]?=some x:=by
 unfold Q9 at h
 split at h
 ·exact⟨_,by omega,List.getElem?_eq_getElem (by omega)⟩
 ·omega
theorem ga{s:A4}{c:Int}{x:D4}(h0:0≤c)(hx:s.cols[c.toNat]?=some x):Q9 s c=x.kind:=by
 have:=(List.getElem?_eq_some_iff.1 hx).1
 unfold Q9
 rw[if_pos (by omega),C1 hx]
def YP(s:A4)(q:N6):Int:=if ¬q.mea=-1∧¬Q9 s q.mea=3 then 7 else if 0<q.trms.length∨¬Y0 q.evt then 11 else 0
theorem gb(s:A4)(q:N6):Jj s q=if q.dims.length<1∨3<q.dims.length then 1 else if ¬F0 (W0 s q.dims) 0 q.dims=0 then F0 (W0 s q.dims) 0 q.dims else YP s q:=by
 unfold Jj Q8 YP
 by_cases h:q.dims.length<1∨3<q.dims.length
 ·simp only[if_pos h];rfl
 ·simp only[if_neg h]
theorem VK(s:A4)(q:N6):A3 Tryz.prog 159 [sA s,x8 q] (.i (Jj s q)):=by
 have hp:=fun d=>NZ s d
 have hk:=fun c=>GY s c
 have qM:=hk q.mea
 have me:=fun k d=>gZ q.dims k d
 have he:=LM q.evt
 have nD:decide (Y0 q.evt)=true→Y0 q.evt:=of_decide_eq_true
 have mC:decide (Y0 q.evt)=false→¬Y0 q.evt:=of_decide_eq_false
 rw[gb]
 refine B6 Tryz.func159 64 fun lW E h0=>?_
 have lX:q.dims.length≤9223372036854775807:=by
  have:=((lW (x8 q) (by simp)).agg (.sl 2 (q.dims.map B4)) (by simp)).sl
  simpa using this
 clear lW
 repeat'((first|refine S2 ?_|(refine T6 ?_ ?_<;>intro h<;>try exact V1 h)|intro el lU lV|intro el lU|exact T4|refine T5 ?_ ?_|intro ex)<;>try conv=>whnf)
 all_goals first
  |(rw[if_pos (by omega)];exact A0 rfl rfl)
  |skip
 rw[if_neg (by omega)]
 refine B0 (ι:=Nat) (fun k=>⟨[(2,.ref 0 0),(3,.ref 1 0),(19,.sl 2 (q.dims.map B4)),(20,.i q.dims.length),(21,.i k)],2,[(0,some (.box (sL s))),(1,some (.box (Bj q)))]⟩) (fun k=>E9 (W0 s q.dims) q.dims k) (fun k=>q.dims.length-k) 0 (E9.zero _ _)
  (A6 h0) (fun k hI=>?_)
 have lk:=hI.1
 by_cases lY:k<q.dims.length
 ·obtain⟨d,hd⟩:∃d,q.dims[k]?=some d:=⟨_,List.getElem?_eq_getElem lY⟩
  have h1:=hp d
  have h2:=me k d
  have h3:=hk d.col
  have ln:∀e:Int,W0 s q.dims k d=e→¬e=0→e=(if ¬F0 (W0 s q.dims) 0 q.dims=0 then F0 (W0 s q.dims) 0 q.dims else YP s q):=fun e h3 h4=>by
   have:=hI.hit hd (by rw[h3];exact h4)
   rw[h3]at this
   rw[←this,if_pos h4]
  have oA:W0 s q.dims k d=0→E9 (W0 s q.dims) q.dims (k+1):=fun h=>hI.step hd h
  clear he qM nD mC
  unfold W0 at ln oA
  by_cases oL:P4 s d=0
  ·obtain⟨c,pH,hc⟩:=Tn oL
   rw[C1 hc]at ln oA
   rw[ga pH hc]at h3
   rw[oL]at h1
   generalize ((q.dims.take k).any fun x=>decide (x.col=d.col))=u at *
   repeat'((first|(refine A2 (x:=d) hd (by omega) ?_)|refine A1 h1 ?_|refine A1 h3 ?_|refine J1 2 ?_|refine A1 h2 ?_ |refine S2 ?_|(refine T6 ?_ ?_<;>intro h<;>try exact V1 h)|intro el lU lV|intro el lU|exact T4|refine T5 ?_ ?_|intro ex)<;>try conv=>whnf)
   all_goals first
    |exact A0 rfl (congrArg AV.i (ln 7 (by rw[if_neg (by omega),if_pos (by assumption)]) (by omega)))
    |exact A0 rfl (congrArg AV.i (ln 10 (by rw[if_neg (by omega),if_neg (by assumption),if_pos (by assumption)]) (by omega)))
    |exact⟨k+1,oA (by rw[if_neg (by omega),if_neg (by assumption),if_neg (by simp[*])]),by omega,A6 h0⟩
    |(exfalso;omega)
  ·repeat'((first|(refine A2 (x:=d) hd (by omega) ?_)|refine A1 h1 ?_ |refine S2 ?_|(refine T6 ?_ ?_<;>intro h<;>try exact V1 h)|intro el lU lV|intro el lU|exact T4|refine T5 ?_ ?_|intro ex)<;>try conv=>whnf)
   all_goals first
    |exact A0 rfl (congrArg AV.i (ln (P4 s d) (by rw[if_pos (by omega)]) oL))
    |(exfalso;omega)
 ·rw[if_neg (show ¬¬F0 (W0 s q.dims) 0 q.dims=0 from fun h=>h (hI.done (by omega)))]
  unfold YP
  generalize decide (Y0 q.evt)=b at *
  clear hp hk me
  repeat'((first|refine A1 qM ?_|refine A1 he ?_ |refine S2 ?_|(refine T6 ?_ ?_<;>intro h<;>try exact V1 h)|intro el lU lV|intro el lU|exact T4|refine T5 ?_ ?_|intro ex)<;>try conv=>whnf)
  all_goals first
   |(exfalso;omega)
   |exact A0 rfl (congrArg AV.i (by rw[if_pos (by omega)]))
   |exact A0 rfl (congrArg AV.i (by rw[if_neg (by omega),if_pos (.inl (by omega))]))
   |exact A0 rfl (congrArg AV.i (by rw[if_neg (by omega),if_pos (.inr (mC (by assumption)))]))
   |exact A0 rfl (congrArg AV.i (by rw[if_neg (by omega),if_neg (fun h=>h.elim (fun h=>by omega) (fun h=>h (nD (by assumption))))]))
def YQ(q:N6):Int:=if 0<q.dims.length∨¬Y0 q.evt then 11 else 0
theorem gf(s:A4)(q:N6):Jk s q=if ¬Q9 s q.mea=3 then 7 else if q.trms.length<1∨3<q.trms.length then 1 else if ¬F0 (Y3 s q.mea q.trms) 0 q.trms=0 then F0 (Y3 s q.mea q.trms) 0 q.trms else YQ q:=by
 unfold Jk Z7 YQ
 by_cases h:q.trms.length<1∨3<q.trms.length
 ·simp only[if_pos h];rfl
 ·simp only[if_neg h]
theorem VL(s:A4)(q:N6):A3 Tryz.prog 160 [sA s,x8 q] (.i (Jk s q)):=by
 have hk:=fun c=>GY s c
 have qM:=hk q.mea
 have me:=fun k d=>Ic q.trms k d
 have he:=LM q.evt
 have nD:decide (Y0 q.evt)=true→Y0 q.evt:=of_decide_eq_true
 have mC:decide (Y0 q.evt)=false→¬Y0 q.evt:=of_decide_eq_false
 rw[gf]
 refine B6 Tryz.func160 59 fun lW E h0=>?_
 have lX:q.trms.length≤9223372036854775807:=by
  have:=((lW (x8 q) (by simp)).agg (.sl 1 (q.trms.map wA)) (by simp)).sl
  simpa using this
 clear lW
 repeat'((first|refine A1 qM ?_ |refine S2 ?_|(refine T6 ?_ ?_<;>intro h<;>try exact V1 h)|intro el lU lV|intro el lU|exact T4|refine T5 ?_ ?_|intro ex)<;>try conv=>whnf)
 all_goals first
  |(rw[if_pos (by omega)];exact A0 rfl rfl)
  |(rw[if_neg (by omega),if_pos (by omega)];exact A0 rfl rfl)
  |skip
 rw[if_neg (by omega),if_neg (by omega)]
 refine B0 (ι:=Nat) (fun k=>⟨[(2,.ref 0 0),(3,.ref 1 0),(25,.sl 1 (q.trms.map wA)),(26,.i q.trms.length),(27,.i k)],2,[(0,some (.box (sL s))),(1,some (.box (Bj q)))]⟩) (fun k=>E9 (Y3 s q.mea q.trms) q.trms k) (fun k=>q.trms.length-k) 0 (E9.zero _ _)
  (A6 h0) (fun k hI=>?_)
 have lk:=hI.1
 by_cases lY:k<q.trms.length
 ·obtain⟨c,hc⟩:∃d,q.trms[k]?=some d:=⟨_,List.getElem?_eq_getElem lY⟩
  have h2:=me k c
  have h3:=hk c
  have ln:∀e:Int,Y3 s q.mea q.trms k c=e→¬e=0→e=(if ¬F0 (Y3 s q.mea q.trms) 0 q.trms=0 then F0 (Y3 s q.mea q.trms) 0 q.trms else YQ q):=fun e h3 h4=>by
   have:=hI.hit hc (by rw[h3];exact h4)
   rw[h3]at this
   rw[←this,if_pos h4]
  have oA:Y3 s q.mea q.trms k c=0→E9 (Y3 s q.mea q.trms) q.trms (k+1):=fun h=>hI.step hc h
  clear he qM nD mC
  unfold Y3 at ln oA
  rw[af _ _ _ (by decide)]at ln oA
  generalize Q9 s c=n at *
  generalize ((q.trms.take k).any fun x=>decide (x=c))=u at *
  repeat'((first|(refine A2 (x:=c) hc (by omega) ?_)|refine A1 h3 ?_|refine A1 h2 ?_ |refine S2 ?_|(refine T6 ?_ ?_<;>intro h<;>try exact V1 h)|intro el lU lV|intro el lU|exact T4|refine T5 ?_ ?_|intro ex)<;>try conv=>whnf)
  all_goals first
   |exact A0 rfl (congrArg AV.i (ln 7 (by rw[if_pos (decide_eq_false (by omega))]) (by omega)))
   |exact A0 rfl (congrArg AV.i (ln 10 (by rw[if_neg (by rw[decide_eq_true (by omega)];simp),if_pos (.inl (by omega))]) (by omega)))
   |exact A0 rfl (congrArg AV.i (ln 10 (by rw[if_neg (by rw[decide_eq_true (by omega)];simp),if_pos (.inr (by assumption))]) (by omega)))
   |(refine⟨k+1,oA ?_,by omega,A6 h0⟩;rw[if_neg (by rw[decide_eq_true (by omega)];simp),if_neg (fun h=>h.elim (fun h=>by omega) (fun h=>Bool.false_ne_true ((show u=false by assumption).symm.trans h)))])
   |(exfalso;omega)
 ·rw[if_neg (show ¬¬F0 (Y3 s q.mea q.trms) 0 q.trms=0 from fun h=>h (hI.done (by omega)))]
  unfold YQ
  generalize decide (Y0 q.evt)=b at *
  clear hk me
  repeat'((first|refine A1 he ?_ |refine S2 ?_|(refine T6 ?_ ?_<;>intro h<;>try exact V1 h)|intro el lU lV|intro el lU|exact T4|refine T5 ?_ ?_|intro ex)<;>try conv=>whnf)
  all_goals first
   |(exfalso;omega)
   |exact A0 rfl (congrArg AV.i (by rw[if_pos (.inl (by omega))]))
   |exact A0 rfl (congrArg AV.i (by rw[if_pos (.inr (mC (by assumption)))]))
   |exact A0 rfl (congrArg AV.i (by rw[if_neg (fun h=>h.elim (fun h=>by omega) (fun h=>h (nD (by assumption))))]))
theorem VM(s:A4)(q:N6):A3 Tryz.prog 161 [sA s,x8 q] (.i (MA s q)):=by
 have qM:=GY s q.mea
 have hc:=Ae s q.evt
 unfold MA
 by_cases h3:Q9 s q.mea=3
 ·obtain⟨x,nf,hx⟩:=lH h3 (by decide)
  rw[C1 hx,if_neg (by omega)]
  rw[h3]at qM
  generalize K7 s q.evt=n at *
  refine B6 Tryz.func161 38 fun lW E h0=>?_
  clear lW
  repeat'((first|(refine A2 (x:=x) hx (by omega) ?_)|refine A1 qM ?_|refine A1 hc ?_|(refine B3 ?_ ?_;kernel_rfl) |refine S2 ?_|(refine T6 ?_ ?_<;>intro h<;>try exact V1 h)|intro el lU lV|intro el lU|exact T4|refine T5 ?_ ?_|intro ex)<;>try conv=>whnf)
  all_goals first
   |(exfalso;omega)
   |exact A0 rfl (congrArg AV.i (by rw[if_pos (by omega)]))
   |exact A0 rfl (congrArg AV.i (by rw[if_neg (by omega),if_pos (by omega)]))
   |exact A0 rfl (congrArg AV.i (by rw[if_neg (by omega),if_neg (by omega),if_pos (by omega)]))
   |exact A0 rfl (congrArg AV.i (by rw[if_neg (by omega),if_neg (by omega),if_neg (by omega)]))
 ·rw[if_pos h3]
  generalize Q9 s q.mea=n at *
  clear hc
  refine B6 Tryz.func161 38 fun lW E h0=>?_
  clear lW
  repeat'((first|refine A1 qM ?_ |refine S2 ?_|(refine T6 ?_ ?_<;>intro h<;>try exact V1 h)|intro el lU lV|intro el lU|exact T4|refine T5 ?_ ?_|intro ex)<;>try conv=>whnf)
  all_goals first
   |(exfalso;omega)
   |exact A0 rfl rfl
theorem YR(s:A4)(q:N6):A3 Tryz.prog 102 [sA s,x8 q] (.i (Q1 s q)):=by
 have h1:=a6 s
 have h2:=CZ q.name
 have h3:=Ae s q.flt
 have h4:=VK s q
 have h5:=VL s q
 have h6:=VM s q
 unfold Q1
 generalize C3 s=n1 at *
 generalize D6 q.name=b at *
 generalize K7 s q.flt=n2 at *
 generalize Jj s q=n3 at *
 generalize Jk s q=n4 at *
 generalize MA s q=n5 at *
 refine B6 Tryz.func102 49 fun lW E h0=>?_
 clear lW
 repeat'((first|refine A1 h1 ?_|refine A1 h2 ?_|refine A1 h3 ?_|refine A1 h4 ?_|refine A1 h5 ?_|refine A1 h6 ?_ |refine S2 ?_|(refine T6 ?_ ?_<;>intro h<;>try exact V1 h)|intro el lU lV|intro el lU|exact T4|refine T5 ?_ ?_|intro ex)<;>try conv=>whnf)
 all_goals first
  |(exfalso;omega)
  |exact A0 rfl (congrArg AV.i (by rw[if_pos (by omega)]))
  |exact A0 rfl (congrArg AV.i (by rw[if_neg (by omega),if_pos (by assumption)]))
  |exact A0 rfl (congrArg AV.i (by rw[if_neg (by omega),if_neg (fun h=>Bool.false_ne_true (h.symm.trans (show b=true by assumption))),if_pos (by omega)]))
  |exact A0 rfl (congrArg AV.i (by rw[if_neg (by omega),if_neg (fun h=>Bool.false_ne_true (h.symm.trans (show b=true by assumption))),if_neg (by omega),if_pos (by omega)]))
  |exact A0 rfl (congrArg AV.i (by rw[if_neg (by omega),if_neg (fun h=>Bool.false_ne_true (h.symm.trans (show b=true by assumption))),if_neg (by omega),if_neg (by omega),if_pos (by omega)]))
  |exact A0 rfl (congrArg AV.i (by rw[if_neg (by omega),if_neg (fun h=>Bool.false_ne_true (h.symm.trans (show b=true by assumption))),if_neg (by omega),if_neg (by omega),if_neg (by omega),if_pos (by omega)]))
  |exact A0 rfl (congrArg AV.i (by rw[if_neg (by omega),if_neg (fun h=>Bool.false_ne_true (h.symm.trans (show b=true by assumption))),if_neg (by omega),if_neg (by omega),if_neg (by omega),if_neg (by omega)]))
end Go.Proofs.YtiphlhoclaogjaaGreatDoor

/- Chapter 8: which questions and declarations are right: the program. -/
import Derived.Test.YtiphlhoclaogjaaGreatDoorQQn0
import Derived.Test.YtiphlhoclaogjaaGreatDoorQTa7
import Derived.Test.YtiphlhoclaogjaaGreatDoorQCe1
import Derived.Test.YtiphlhoclaogjaaGreatDoorQTa0
import Derived.Test.YtiphlhoclaogjaaGreatDoorQCm1
set_option linter.unusedVariables false
set_option linter.unnecessarySimpa false
set_option linter.unusedSimpArgs false
set_option maxHeartbeats 64000000
namespace Go.Proofs.YtiphlhoclaogjaaGreatDoor
open Go Go.Av
attribute [local irreducible] C7 B1 D1 C8 DQ D0 C6 St.le A3 B8
set_option maxRecDepth 100000
theorem GS(s:A4)(c:Int):A3 Tryz.prog 201 [sA s,.i c] (.i (R4 s c)):=by
 unfold R4
 refine C1 Tryz.func201 20 fun nd E h0=>?_
 clear nd
 repeat'((first|(refine B5 ?_ ?_;kernel_rfl) |refine S2 ?_|(refine T6 ?_ ?_<;>intro h<;>try exact V1 h)|intro el nX nY|intro el nX|exact T4|refine T5 ?_ ?_|intro ex)<;>try conv=>whnf)
 all_goals first
  |exact A0 rfl (congrArg AV.i (by rw[if_neg (by omega)]))
  |exact A0 rfl (congrArg AV.i (by rw[if_pos (by omega),C0 nX]))
theorem LO(c:B0):A3 Tryz.prog 203 [E0 c] (.b (decide (X7 c))):=by
 rw[G0]
 refine C1 Tryz.func203 32 fun nd E h0=>?_
 clear nd
 repeat'((first|refine S2 ?_|(refine T6 ?_ ?_<;>intro h<;>try exact V1 h)|intro el nX nY|intro el nX|exact T4|refine T5 ?_ ?_|intro ex)<;>try conv=>whnf)
 all_goals first
  |exact A0 rfl (congrArg AV.b (by rw[decide_eq_true (by omega)]))
  |exact A0 rfl (congrArg AV.b (by rw[decide_eq_false (by omega)]))
  |exact A0 rfl (congrArg AV.b (by rw[decide_eq_decide];omega))
theorem bq(x d:Pk):A3 Tryz.prog 202 [QG x,.iptr (B6 d)] (.b (decide (x.col=d.col))):=by
 refine C1 Tryz.func202 9 fun nd E h0=>?_
 clear nd
 repeat'((first|(refine B5 ?_ ?_;kernel_rfl) |refine S2 ?_|(refine T6 ?_ ?_<;>intro h<;>try exact V1 h)|intro el nX nY|intro el nX|exact T4|refine T5 ?_ ?_|intro ex)<;>try conv=>whnf)
 all_goals first
  |exact A0 rfl rfl
theorem jE(l:List Pk)(k:Nat)(d:Pk):A3 Tryz.prog 103 [.sl 2 ((l.map B6).take k),.fn 202 [.iptr (B6 d)]] (.b ((l.take k).any fun x=>decide (x.col=d.col))):=by
 have h:=Na (l.take k) 202 [.iptr (B6 d)] (fun x=>decide (x.col=d.col)) (fun x _=>bq x d)
 rw[List.map_take]at h
 exact h
theorem nF{s:A4}{c:Int}{k:Int}(h:R4 s c=k)(hk:¬k=0):∃x,0≤c∧s.cols[c.toNat]?=some x:=by
 unfold R4 at h
 split at h
 ·exact⟨_,by omega,List.getElem?_eq_getElem (by omega)⟩
 ·omega
theorem jF{s:A4}{c:Int}{x:D6}(h0:0≤c)(hx:s.cols[c.toNat]?=some x):R4 s c=x.kind:=by
 have:=(List.getElem?_eq_some_iff.1 hx).1
 unfold R4
 rw[if_pos (by omega),C0 hx]
def ZA(s:A4)(q:W2):Int:=if ¬q.mea=-1∧¬R4 s q.mea=3 then 7 else if 0<q.trms.length∨¬X7 q.evt then 11 else 0
theorem jG(s:A4)(q:W2):Hy s q=if q.dims.length<1∨3<q.dims.length then 1 else if ¬E4 (Q0 s q.dims) 0 q.dims=0 then E4 (Q0 s q.dims) 0 q.dims else ZA s q:=by
 unfold Hy J4 ZA
 by_cases h:q.dims.length<1∨3<q.dims.length
 ·simp only[if_pos h];rfl
 ·simp only[if_neg h]
theorem Vg(s:A4)(q:W2):A3 Tryz.prog 159 [sA s,EA q] (.i (Hy s q)):=by
 have hp:=fun d=>NY s d
 have hk:=fun c=>GS s c
 have sQ:=hk q.mea
 have oV:=fun k d=>jE q.dims k d
 have he:=LO q.evt
 have pG:decide (X7 q.evt)=true→X7 q.evt:=of_decide_eq_true
 have oD:decide (X7 q.evt)=false→¬X7 q.evt:=of_decide_eq_false
 rw[jG]
 refine C1 Tryz.func159 64 fun nd E h0=>?_
 have nZ:q.dims.length≤9223372036854775807:=by
  have:=((nd (EA q) (by simp)).agg (.sl 2 (q.dims.map B6)) (by simp)).sl
  simpa using this
 clear nd
 repeat'((first|refine S2 ?_|(refine T6 ?_ ?_<;>intro h<;>try exact V1 h)|intro el nX nY|intro el nX|exact T4|refine T5 ?_ ?_|intro ex)<;>try conv=>whnf)
 all_goals first
  |(rw[if_pos (by omega)];exact A0 rfl rfl)
  |skip
 rw[if_neg (by omega)]
 refine B2 (ι:=Nat) (fun k=>⟨[(2,.ref 0 0),(3,.ref 1 0),(19,.sl 2 (q.dims.map B6)),(20,.i q.dims.length),(21,.i k)],2,[(0,some (.box (sL s))),(1,some (.box (GR q)))]⟩) (fun k=>E8 (Q0 s q.dims) q.dims k) (fun k=>q.dims.length-k) 0 (E8.zero _ _)
  (A6 h0) (fun k hI=>?_)
 have no:=hI.1
 by_cases nf:k<q.dims.length
 ·obtain⟨d,hd⟩:∃d,q.dims[k]?=some d:=⟨_,List.getElem?_eq_getElem nf⟩
  have h1:=hp d
  have h2:=oV k d
  have h3:=hk d.col
  have ns:∀e:Int,Q0 s q.dims k d=e→¬e=0→e=(if ¬E4 (Q0 s q.dims) 0 q.dims=0 then E4 (Q0 s q.dims) 0 q.dims else ZA s q):=fun e h3 h4=>by
   have:=hI.hit hd (by rw[h3];exact h4)
   rw[h3]at this
   rw[←this,if_pos h4]
  have px:Q0 s q.dims k d=0→E8 (Q0 s q.dims) q.dims (k+1):=fun h=>hI.step hd h
  clear he sQ pG oD
  unfold Q0 at ns px
  by_cases qM:I4 s d=0
  ·obtain⟨c,qt,hc⟩:=UC qM
   rw[C0 hc]at ns px
   rw[jF qt hc]at h3
   rw[qM]at h1
   generalize ((q.dims.take k).any fun x=>decide (x.col=d.col))=u at *
   repeat'((first|(refine A2 (x:=d) hd (by omega) ?_)|refine A1 h1 ?_|refine A1 h3 ?_|refine J9 2 ?_|refine A1 h2 ?_ |refine S2 ?_|(refine T6 ?_ ?_<;>intro h<;>try exact V1 h)|intro el nX nY|intro el nX|exact T4|refine T5 ?_ ?_|intro ex)<;>try conv=>whnf)
   all_goals first
    |exact A0 rfl (congrArg AV.i (ns 7 (by rw[if_neg (by omega),if_pos (by assumption)]) (by omega)))
    |exact A0 rfl (congrArg AV.i (ns 10 (by rw[if_neg (by omega),if_neg (by assumption),if_pos (by assumption)]) (by omega)))
    |exact⟨k+1,px (by rw[if_neg (by omega),if_neg (by assumption),if_neg (by simp[*])]),by omega,A6 h0⟩
    |(exfalso;omega)
  ·repeat'((first|(refine A2 (x:=d) hd (by omega) ?_)|refine A1 h1 ?_ |refine S2 ?_|(refine T6 ?_ ?_<;>intro h<;>try exact V1 h)|intro el nX nY|intro el nX|exact T4|refine T5 ?_ ?_|intro ex)<;>try conv=>whnf)
   all_goals first
    |exact A0 rfl (congrArg AV.i (ns (I4 s d) (by rw[if_pos (by omega)]) qM))
    |(exfalso;omega)
 ·rw[if_neg (show ¬¬E4 (Q0 s q.dims) 0 q.dims=0 from fun h=>h (hI.done (by omega)))]
  unfold ZA
  generalize decide (X7 q.evt)=b at *
  clear hp hk oV
  repeat'((first|refine A1 sQ ?_|refine A1 he ?_ |refine S2 ?_|(refine T6 ?_ ?_<;>intro h<;>try exact V1 h)|intro el nX nY|intro el nX|exact T4|refine T5 ?_ ?_|intro ex)<;>try conv=>whnf)
  all_goals first
   |(exfalso;omega)
   |exact A0 rfl (congrArg AV.i (by rw[if_pos (by omega)]))
   |exact A0 rfl (congrArg AV.i (by rw[if_neg (by omega),if_pos (.inl (by omega))]))
   |exact A0 rfl (congrArg AV.i (by rw[if_neg (by omega),if_pos (.inr (oD (by assumption)))]))
   |exact A0 rfl (congrArg AV.i (by rw[if_neg (by omega),if_neg (fun h=>h.elim (fun h=>by omega) (fun h=>h (pG (by assumption))))]))
def ZB(q:W2):Int:=if 0<q.dims.length∨¬X7 q.evt then 11 else 0
theorem jH(s:A4)(q:W2):Jk s q=if ¬R4 s q.mea=3 then 7 else if q.trms.length<1∨3<q.trms.length then 1 else if ¬E4 (X8 s q.mea q.trms) 0 q.trms=0 then E4 (X8 s q.mea q.trms) 0 q.trms else ZB q:=by
 unfold Jk Y7 ZB
 by_cases h:q.trms.length<1∨3<q.trms.length
 ·simp only[if_pos h];rfl
 ·simp only[if_neg h]
theorem Vh(s:A4)(q:W2):A3 Tryz.prog 160 [sA s,EA q] (.i (Jk s q)):=by
 have hk:=fun c=>GS s c
 have sQ:=hk q.mea
 have oV:=fun k d=>Ib q.trms k d
 have he:=LO q.evt
 have pG:decide (X7 q.evt)=true→X7 q.evt:=of_decide_eq_true
 have oD:decide (X7 q.evt)=false→¬X7 q.evt:=of_decide_eq_false
 rw[jH]
 refine C1 Tryz.func160 59 fun nd E h0=>?_
 have nZ:q.trms.length≤9223372036854775807:=by
  have:=((nd (EA q) (by simp)).agg (.sl 1 (q.trms.map wA)) (by simp)).sl
  simpa using this
 clear nd
 repeat'((first|refine A1 sQ ?_ |refine S2 ?_|(refine T6 ?_ ?_<;>intro h<;>try exact V1 h)|intro el nX nY|intro el nX|exact T4|refine T5 ?_ ?_|intro ex)<;>try conv=>whnf)
 all_goals first
  |(rw[if_pos (by omega)];exact A0 rfl rfl)
  |(rw[if_neg (by omega),if_pos (by omega)];exact A0 rfl rfl)
  |skip
 rw[if_neg (by omega),if_neg (by omega)]
 refine B2 (ι:=Nat) (fun k=>⟨[(2,.ref 0 0),(3,.ref 1 0),(25,.sl 1 (q.trms.map wA)),(26,.i q.trms.length),(27,.i k)],2,[(0,some (.box (sL s))),(1,some (.box (GR q)))]⟩) (fun k=>E8 (X8 s q.mea q.trms) q.trms k) (fun k=>q.trms.length-k) 0 (E8.zero _ _)
  (A6 h0) (fun k hI=>?_)
 have no:=hI.1
 by_cases nf:k<q.trms.length
 ·obtain⟨c,hc⟩:∃d,q.trms[k]?=some d:=⟨_,List.getElem?_eq_getElem nf⟩
  have h2:=oV k c
  have h3:=hk c
  have ns:∀e:Int,X8 s q.mea q.trms k c=e→¬e=0→e=(if ¬E4 (X8 s q.mea q.trms) 0 q.trms=0 then E4 (X8 s q.mea q.trms) 0 q.trms else ZB q):=fun e h3 h4=>by
   have:=hI.hit hc (by rw[h3];exact h4)
   rw[h3]at this
   rw[←this,if_pos h4]
  have px:X8 s q.mea q.trms k c=0→E8 (X8 s q.mea q.trms) q.trms (k+1):=fun h=>hI.step hc h
  clear he sQ pG oD
  unfold X8 at ns px
  rw[Nx _ _ _ (by decide)]at ns px
  generalize R4 s c=n at *
  generalize ((q.trms.take k).any fun x=>decide (x=c))=u at *
  repeat'((first|(refine A2 (x:=c) hc (by omega) ?_)|refine A1 h3 ?_|refine A1 h2 ?_ |refine S2 ?_|(refine T6 ?_ ?_<;>intro h<;>try exact V1 h)|intro el nX nY|intro el nX|exact T4|refine T5 ?_ ?_|intro ex)<;>try conv=>whnf)
  all_goals first
   |exact A0 rfl (congrArg AV.i (ns 7 (by rw[if_pos (decide_eq_false (by omega))]) (by omega)))
   |exact A0 rfl (congrArg AV.i (ns 10 (by rw[if_neg (by rw[decide_eq_true (by omega)];simp),if_pos (.inl (by omega))]) (by omega)))
   |exact A0 rfl (congrArg AV.i (ns 10 (by rw[if_neg (by rw[decide_eq_true (by omega)];simp),if_pos (.inr (by assumption))]) (by omega)))
   |(refine⟨k+1,px ?_,by omega,A6 h0⟩;rw[if_neg (by rw[decide_eq_true (by omega)];simp),if_neg (fun h=>h.elim (fun h=>by omega) (fun h=>Bool.false_ne_true ((show u=false by assumption).symm.trans h)))])
   |(exfalso;omega)
 ·rw[if_neg (show ¬¬E4 (X8 s q.mea q.trms) 0 q.trms=0 from fun h=>h (hI.done (by omega)))]
  unfold ZB
  generalize decide (X7 q.evt)=b at *
  clear hk oV
  repeat'((first|refine A1 he ?_ |refine S2 ?_|(refine T6 ?_ ?_<;>intro h<;>try exact V1 h)|intro el nX nY|intro el nX|exact T4|refine T5 ?_ ?_|intro ex)<;>try conv=>whnf)
  all_goals first
   |(exfalso;omega)
   |exact A0 rfl (congrArg AV.i (by rw[if_pos (.inl (by omega))]))
   |exact A0 rfl (congrArg AV.i (by rw[if_pos (.inr (oD (by assumption)))]))
   |exact A0 rfl (congrArg AV.i (by rw[if_neg (fun h=>h.elim (fun h=>by omega) (fun h=>h (pG (by assumption))))]))
theorem Vi(s:A4)(q:W2):A3 Tryz.prog 161 [sA s,EA q] (.i (ME s q)):=by
 have sQ:=GS s q.mea
 have hc:=y5 s q.evt
 unfold ME
 by_cases h3:R4 s q.mea=3
 ·obtain⟨x,po,hx⟩:=nF h3 (by decide)
  rw[C0 hx,if_neg (by omega)]
  rw[h3]at sQ
  generalize H0 s q.evt=n at *
  refine C1 Tryz.func161 38 fun nd E h0=>?_
  clear nd
  repeat'((first|(refine A2 (x:=x) hx (by omega) ?_)|refine A1 sQ ?_|refine A1 hc ?_|(refine B5 ?_ ?_;kernel_rfl) |refine S2 ?_|(refine T6 ?_ ?_<;>intro h<;>try exact V1 h)|intro el nX nY|intro el nX|exact T4|refine T5 ?_ ?_|intro ex)<;>try conv=>whnf)
  all_goals first
   |(exfalso;omega)
   |exact A0 rfl (congrArg AV.i (by rw[if_pos (by omega)]))
   |exact A0 rfl (congrArg AV.i (by rw[if_neg (by omega),if_pos (by omega)]))
   |exact A0 rfl (congrArg AV.i (by rw[if_neg (by omega),if_neg (by omega),if_pos (by omega)]))
   |exact A0 rfl (congrArg AV.i (by rw[if_neg (by omega),if_neg (by omega),if_neg (by omega)]))
 ·rw[if_pos h3]
  generalize R4 s q.mea=n at *
  clear hc
  refine C1 Tryz.func161 38 fun nd E h0=>?_
  clear nd
  repeat'((first|refine A1 sQ ?_ |refine S2 ?_|(refine T6 ?_ ?_<;>intro h<;>try exact V1 h)|intro el nX nY|intro el nX|exact T4|refine T5 ?_ ?_|intro ex)<;>try conv=>whnf)
  all_goals first
   |(exfalso;omega)
   |exact A0 rfl rfl
theorem ZC(s:A4)(q:W2):A3 Tryz.prog 102 [sA s,EA q] (.i (O3 s q)):=by
 have h1:=c8 s
 have h2:=Bw q.name
 have h3:=y5 s q.flt
 have h4:=Vg s q
 have h5:=Vh s q
 have h6:=Vi s q
 unfold O3
 generalize C5 s=n1 at *
 generalize D5 q.name=b at *
 generalize H0 s q.flt=n2 at *
 generalize Hy s q=n3 at *
 generalize Jk s q=n4 at *
 generalize ME s q=n5 at *
 refine C1 Tryz.func102 49 fun nd E h0=>?_
 clear nd
 repeat'((first|refine A1 h1 ?_|refine A1 h2 ?_|refine A1 h3 ?_|refine A1 h4 ?_|refine A1 h5 ?_|refine A1 h6 ?_ |refine S2 ?_|(refine T6 ?_ ?_<;>intro h<;>try exact V1 h)|intro el nX nY|intro el nX|exact T4|refine T5 ?_ ?_|intro ex)<;>try conv=>whnf)
 all_goals first
  |(exfalso;omega)
  |exact A0 rfl (congrArg AV.i (by rw[if_pos (by omega)]))
  |exact A0 rfl (congrArg AV.i (by rw[if_neg (by omega),if_pos (by assumption)]))
  |exact A0 rfl (congrArg AV.i (by rw[if_neg (by omega),if_neg (fun h=>Bool.false_ne_true (h.symm.trans (show b=true by assumption))),if_pos (by omega)]))
  |exact A0 rfl (congrArg AV.i (by rw[if_neg (by omega),if_neg (fun h=>Bool.false_ne_true (h.symm.trans (show b=true by assumption))),if_neg (by omega),if_pos (by omega)]))
  |exact A0 rfl (congrArg AV.i (by rw[if_neg (by omega),if_neg (fun h=>Bool.false_ne_true (h.symm.trans (show b=true by assumption))),if_neg (by omega),if_neg (by omega),if_pos (by omega)]))
  |exact A0 rfl (congrArg AV.i (by rw[if_neg (by omega),if_neg (fun h=>Bool.false_ne_true (h.symm.trans (show b=true by assumption))),if_neg (by omega),if_neg (by omega),if_neg (by omega),if_pos (by omega)]))
  |exact A0 rfl (congrArg AV.i (by rw[if_neg (by omega),if_neg (fun h=>Bool.false_ne_true (h.symm.trans (show b=true by assumption))),if_neg (by omega),if_neg (by omega),if_neg (by omega),if_neg (by omega)]))
structure LP where
 dims:List Pk
 mea:Int
 cells:List F1
abbrev nG(t:LP):List AV:=[.sl 2 (t.dims.map B6),.i t.mea,.sl 7 (t.cells.map L8)]
abbrev Ay(t:LP):AV:=.agg (nG t)
def Nz(t:LP)(a b:Int):Bool :=
 if a<0∨(t.cells.length:Int)≤a∨b<0∨(t.cells.length:Int)≤b then false
 else match t.cells[a.toNat]?,t.cells[b.toNat]? with
  |some x,some y=>if x.codes.length=t.dims.length∧y.codes.length=t.dims.length then I7 x.codes y.codes else false
  |_,_=>false
theorem UD(xs ys:List Int):A3 Tryz.prog 75 [.sl 1 (xs.map wA),.sl 1 (ys.map wA)] (.b (decide (xs=ys))):=by
 refine C1 Tryz.func75 26 fun nd E h0=>?_
 have nZ:xs.length≤9223372036854775807:=by
  have:=(nd (.sl 1 (xs.map wA)) (by simp)).sl
  simpa using this
 have vJ:ys.length≤9223372036854775807:=by
  have:=(nd (.sl 1 (ys.map wA)) (by simp)).sl
  simpa using this
 clear nd
 repeat'((first|refine S2 ?_|(refine T6 ?_ ?_<;>intro h<;>try exact V1 h)|intro el nX nY|intro el nX|exact T4|refine T5 ?_ ?_|intro ex)<;>try conv=>whnf)
 ·exact A0 rfl (congrArg AV.b (by
   have:xs≠ys:=by intro e;subst e;omega
   simp[this]))
 have hl:xs.length=ys.length:=by omega
 refine B2 (ι:=Nat) (fun k=>⟨[(0,.sl 1 (xs.map wA)),(1,.sl 1 (ys.map wA)),(12,.i xs.length),(13,.i k)],0,[]⟩) (fun k=>k≤xs.length∧ys.take k=xs.take k) (fun k=>xs.length-k) 0 ⟨Nat.zero_le _,rfl⟩ (A6 h0) (fun k hI=>?_)
 obtain⟨hk,hI⟩:=hI
 by_cases nf:k<xs.length
 ·obtain⟨x,hx⟩:∃x,xs[k]?=some x:=⟨_,List.getElem?_eq_getElem nf⟩
  obtain⟨y,hy⟩:∃y,ys[k]?=some y:=⟨_,List.getElem?_eq_getElem (by omega)⟩
  have qc:xs[((k:Nat):Int).toNat]?=some x:=hx
  have tY:ys[((k:Nat):Int).toNat]?=some y:=hy
  repeat'((first|(refine A2 (x:=x) qc (by omega) ?_)|(refine A2 (x:=y) tY (by omega) ?_)|(refine B5 ?_ ?_;kernel_rfl) |refine S2 ?_|(refine T6 ?_ ?_<;>intro h<;>try exact V1 h)|intro el nX nY|intro el nX|exact T4|refine T5 ?_ ?_|intro ex)<;>try conv=>whnf)
  all_goals first
   |(exfalso;omega)
   |(refine A0 rfl (congrArg AV.b (decide_eq_false (fun e=>?_)).symm)
     subst e
     rw[hx]at hy
     cases hy
     omega)
   |exact⟨k+1,⟨by omega,by rw[I0 hx,I0 hy,hI];congr 2;omega⟩,by omega,A6 h0⟩
 ·repeat'((first|refine S2 ?_|(refine T6 ?_ ?_<;>intro h<;>try exact V1 h)|intro el nX nY|intro el nX|exact T4|refine T5 ?_ ?_|intro ex)<;>try conv=>whnf)
  all_goals first
   |(exfalso;omega)
   |(refine A0 rfl (congrArg AV.b (decide_eq_true ?_).symm)
     rw[List.take_of_length_le (by omega),List.take_of_length_le (by omega)]at hI
     exact hI.symm)
theorem br(l:List (F1))(f:Nat)(caps:List AV)(p:(F1)→Bool)(hf:∀x∈l,A3 Tryz.prog f ((fun x=>.agg (L8 x)) x::caps) (.b (p x))):A3 Tryz.prog 73 [.sl 7 (l.map L8),.fn f caps] (.i (F3 p l 0)):=by
 refine C1 Tryz.func73 19 fun nd E h0=>?_
 have nZ:l.length≤9223372036854775807:=by have:=(nd (.sl 7 (l.map L8)) (by simp)).sl;simpa using this
 repeat'((first|refine S2 ?_|(refine T6 ?_ ?_<;>intro h<;>try exact V1 h)|intro el nX nY|intro el nX|exact T4|refine T5 ?_ ?_|intro ex)<;>try conv=>whnf)
 refine B2 (ι:=Nat) (fun k=>⟨[(0,.sl 7 (l.map L8)),(1,.fn f caps),(7,.i l.length),(8,.i k)],0,[]⟩) (fun k=>k≤l.length∧F3 p l 0=F3 p (l.drop k) k) (fun k=>l.length-k) 0 ⟨Nat.zero_le _,rfl⟩ (A6 h0) (fun k hI=>?_)
 obtain⟨hk,hI⟩:=hI
 repeat'((first|refine A1 (hf _ (List.mem_of_getElem? nX)) ?_ |refine S2 ?_|(refine T6 ?_ ?_<;>intro h<;>try exact V1 h)|intro el nX nY|intro el nX|exact T4|refine T5 ?_ ?_|intro ex)<;>try conv=>whnf)
 all_goals first
  |exact⟨k+1,⟨by omega,by rw[hI,H1 nX,F3,if_neg (by simp[h])];rfl⟩,by omega,A6 h0⟩
  |exact A0 rfl (congrArg AV.i (by rw[hI,H1 nX,F3,if_pos (by simp[h])]))
  |exact A0 rfl (congrArg AV.i (by rw[hI,show k=l.length by omega,List.drop_length];rfl))
theorem fL(c:F1)(codes:List Int):A3 Tryz.prog 74 [.agg (L8 c),.iptr [.sl 1 (codes.map wA)]] (.b (decide (c.codes=codes))):=by
 have h1:=UD c.codes codes
 obtain⟨cs,cnt,sum,amo,fst,snd,rows⟩:=c
 dsimp only at *
 refine C1 Tryz.func74 8 fun nd E h0=>?_
 clear nd
 repeat'((first|refine A1 h1 ?_ |refine S2 ?_|(refine T6 ?_ ?_<;>intro h<;>try exact V1 h)|intro el nX nY|intro el nX|exact T4|refine T5 ?_ ?_|intro ex)<;>try conv=>whnf)
 all_goals first
  |exact A0 rfl rfl
theorem Vj(t:LP)(codes:List Int):A3 Tryz.prog 26 [Ay t,.sl 1 (codes.map wA)] (.i (F3 (fun c:F1=>decide (c.codes=codes)) t.cells 0)):=by
 have h1:=br t.cells 74 [.iptr [.sl 1 (codes.map wA)]] (fun c=>decide (c.codes=codes)) (fun c _=>fL c codes)
 obtain⟨dims,mea,cells⟩:=t
 dsimp only at *
 generalize F3 (fun c:F1=>decide (c.codes=codes)) cells 0=j at *
 refine C1 Tryz.func26 9 fun nd E h0=>?_
 clear nd
 repeat'((first|refine A1 h1 ?_|refine J9 1 ?_ |refine S2 ?_|(refine T6 ?_ ?_<;>intro h<;>try exact V1 h)|intro el nX nY|intro el nX|exact T4|refine T5 ?_ ?_|intro ex)<;>try conv=>whnf)
 all_goals first
  |exact A0 rfl rfl
theorem lb{t:LP}{a b:Int}(h:a<0∨(t.cells.length:Int)≤a∨b<0∨(t.cells.length:Int)≤b):Nz t a b=false:=if_pos h
theorem Wt{t:LP}{a b:Int}{x y:F1}(h:¬(a<0∨(t.cells.length:Int)≤a∨b<0∨(t.cells.length:Int)≤b))(hx:t.cells[a.toNat]?=some x)(hy:t.cells[b.toNat]?=some y):Nz t a b=if x.codes.length=t.dims.length∧y.codes.length=t.dims.length then I7 x.codes y.codes else false:=by
 unfold Nz
 rw[if_neg h,hx,hy]
theorem EB(s:A4)(t:LP)(a b:Int):A3 Tryz.prog 28 [sA s,Ay t,.i a,.i b] (.b (Nz t a b)):=by
 by_cases hn:a<0∨(t.cells.length:Int)≤a∨b<0∨(t.cells.length:Int)≤b
 ·rw[lb hn]
  obtain⟨dims,mea,cells⟩:=t
  dsimp only at *
  have hX:Ay ⟨dims,mea,cells⟩=.agg [.sl 2 (dims.map B6),.i mea,.sl 7 (cells.map L8)]:=rfl
  rw[hX]
  refine C1 Tryz.func28 62 fun nd E h0=>?_
  have nZ:cells.length≤9223372036854775807:=by
   have:=((nd (.agg [.sl 2 (dims.map B6),.i mea,.sl 7 (cells.map L8)]) (by simp)).agg (.sl 7 (cells.map L8)) (by simp)).sl
   simpa using this
  clear nd
  repeat'((first|refine S2 ?_|(refine T6 ?_ ?_<;>intro h<;>try exact V1 h)|intro el nX nY|intro el nX|exact T4|refine T5 ?_ ?_|intro ex)<;>try conv=>whnf)
  all_goals first
   |(exfalso;omega)
   |exact A0 rfl rfl
 obtain⟨x,hx⟩:∃x,t.cells[a.toNat]?=some x:=⟨_,List.getElem?_eq_getElem (by omega)⟩
 obtain⟨y,hy⟩:∃y,t.cells[b.toNat]?=some y:=⟨_,List.getElem?_eq_getElem (by omega)⟩
 rw[Wt hn hx hy]
 obtain⟨dims,mea,cells⟩:=t
 dsimp only at *
 have hX:Ay ⟨dims,mea,cells⟩=.agg [.sl 2 (dims.map B6),.i mea,.sl 7 (cells.map L8)]:=rfl
 rw[hX]
 have h1:=fun h=>LL x.codes y.codes h
 by_cases hd:x.codes.length=dims.length∧y.codes.length=dims.length
 ·rw[if_pos hd]
  have h1:=h1 (by omega)
  generalize I7 x.codes y.codes=B at *
  refine C1 Tryz.func28 62 fun nd E h0=>?_
  have nZ:cells.length≤9223372036854775807:=by
   have:=((nd (.agg [.sl 2 (dims.map B6),.i mea,.sl 7 (cells.map L8)]) (by simp)).agg (.sl 7 (cells.map L8)) (by simp)).sl
   simpa using this
  clear nd
  repeat'((first|(refine A2 (x:=x) hx (by omega) ?_)|(refine A2 (x:=y) hy (by omega) ?_)|refine A1 h1 ?_|(refine B5 ?_ ?_;kernel_rfl) |refine S2 ?_|(refine T6 ?_ ?_<;>intro h<;>try exact V1 h)|intro el nX nY|intro el nX|exact T4|refine T5 ?_ ?_|intro ex)<;>try conv=>whnf)
  all_goals first
   |(exfalso;omega)
   |exact A0 rfl rfl
 ·rw[if_neg hd]
  clear h1
  refine C1 Tryz.func28 62 fun nd E h0=>?_
  have nZ:cells.length≤9223372036854775807:=by
   have:=((nd (.agg [.sl 2 (dims.map B6),.i mea,.sl 7 (cells.map L8)]) (by simp)).agg (.sl 7 (cells.map L8)) (by simp)).sl
   simpa using this
  clear nd
  repeat'((first|(refine A2 (x:=x) hx (by omega) ?_)|(refine A2 (x:=y) hy (by omega) ?_)|(refine B5 ?_ ?_;kernel_rfl) |refine S2 ?_|(refine T6 ?_ ?_<;>intro h<;>try exact V1 h)|intro el nX nY|intro el nX|exact T4|refine T5 ?_ ?_|intro ex)<;>try conv=>whnf)
  all_goals first
   |(exfalso;omega)
   |exact A0 rfl rfl
theorem Cr(s:A4)(dims:List Pk)(mea:Int)(cnd:B0):A3 Tryz.prog 44 [sA s,.sl 2 (dims.map B6),.i mea,E0 cnd] (.i (O3 s ⟨[116],1,cnd,dims,mea,[],⟨0,0,0,0,0,[]⟩⟩)):=by
 have hq:NL (.agg [.str [116],.i 1,.i cnd.op,.i cnd.col,.i cnd.code,.i cnd.lo,.i cnd.hi,.sl 6 (cnd.kids.map Z8),.sl 2 (dims.map B6),.i mea,.v (.slice none 0 0),.i 0,.i 0,.i 0,.i 0,.i 0,.v (.slice none 0 0)]) (EA ⟨[116],1,cnd,dims,mea,[],⟨0,0,0,0,0,[]⟩⟩):=Do ⟨.refl _,.refl _,.refl _,.refl _,.refl _,.refl _,.refl _,.refl _,.refl _,.refl _,.nil 1,.refl _,.refl _,.refl _,.refl _,.refl _,.nil 6,trivial⟩
 have h1:A3 Tryz.prog 102 [sA s,.agg [.str [116],.i 1,.i cnd.op,.i cnd.col,.i cnd.code,.i cnd.lo,.i cnd.hi,.sl 6 (cnd.kids.map Z8),.sl 2 (dims.map B6),.i mea,.v (.slice none 0 0),.i 0,.i 0,.i 0,.i 0,.i 0,.v (.slice none 0 0)]] (.i (O3 s ⟨[116],1,cnd,dims,mea,[],⟨0,0,0,0,0,[]⟩⟩)):=AW (ZC s ⟨[116],1,cnd,dims,mea,[],⟨0,0,0,0,0,[]⟩⟩) ⟨.refl _,hq,trivial⟩
 generalize O3 s ⟨[116],1,cnd,dims,mea,[],⟨0,0,0,0,0,[]⟩⟩=q at *
 refine C1 Tryz.func44 15 fun nd E h0=>?_
 clear nd
 repeat'((first|refine A1 h1 ?_ |refine S2 ?_|(refine T6 ?_ ?_<;>intro h<;>try exact V1 h)|intro el nX nY|intro el nX|exact T4|refine T5 ?_ ?_|intro ex)<;>try conv=>whnf)
 all_goals first
  |exact A0 rfl rfl
theorem Ap{s:A4}{c:B0}{e:Int}(h:G7 s c=e)(he:e≠0):e=if G7 s c=0 then X4 s c.kids else G7 s c:=by rw[h,if_neg he]
theorem bu(s:A4)(hr:C5 s=0)(c:B0):A3 Tryz.prog 88 [sA s,E0 c] (.i (T9 s c)):=by
 refine O7 (p:=fun c=>A3 Tryz.prog 88 [sA s,E0 c] (.i (T9 s c))) (fun c ih=>?_) c
 have ox:=fun k=>iw s c.col k
 have uT:=KO c.op
 have pF:∀x,s.cols[c.col.toNat]?=some x→(B4 s c.col).kind=2→0≤x.lst∧x.lst<s.lists.length:=fun x hx h2=>by
  rw[C0 hx]at h2
  have:=AP.lst hr (List.mem_of_getElem? hx) h2
  omega
 rw[G0,DO]
 refine C1 Tryz.func88 185 fun nd E h0=>?_
 have nZ:c.kids.length≤9223372036854775807:=by
  have:=((nd _ (List.mem_cons_of_mem _ (List.mem_cons_self ..))).agg (.sl 6 (c.kids.map J2)) (by simp)).sl
  simpa using this
 clear nd
 repeat'((first|(refine G9 1 ?_;refine H9 (id:=1) ⟨[(2,.ref 0 0),(3,.ref 1 0),(5,.i 0),(6,.ref 2 0)],3,[(0,some (.box (sL s))),(1,some (.box (P1 c))),(2,some (.box [.i c.op,.i 0,.i 0,.i 0,.i 0,.v (.slice none 0 0)]))]⟩ ?_ ?_)|(refine G9 6 ?_;refine H9 (id:=6) ⟨[(2,.ref 0 0),(3,.ref 1 0),(5,.i 0),(6,.ref 2 0)],3,[(0,some (.box (sL s))),(1,some (.box (P1 c))),(2,some (.box [.i c.op,.i c.col,.i c.code,.i 0,.i 0,.v (.slice none 0 0)]))]⟩ ?_ ?_)|(refine G9 8 ?_;refine H9 (id:=8) ⟨[(2,.ref 0 0),(3,.ref 1 0),(5,.i 0),(6,.ref 2 0)],3,[(0,some (.box (sL s))),(1,some (.box (P1 c))),(2,some (.box [.i c.op,.i c.col,.i 0,.i c.lo,.i c.hi,.v (.slice none 0 0)]))]⟩ ?_ ?_)|(refine FB (l:=⟨some 45,_,_,_,_,_⟩::_) [2,3,5,6] ?_;(try (conv=>whnf));refine DI ?_)|(refine FB (l:=⟨some 78,_,_,_,_,_⟩::_) [2,3] ?_;(try (conv=>whnf));refine DI ?_)|(refine FB (l:=⟨some 148,_,_,_,_,_⟩::_) [2,3] ?_;(try (conv=>whnf));refine DI ?_)|refine A1 (ox _) ?_|(refine m9 ?_ ?_ (fun lx ov=>?_);(have:=pF _ (by assumption) (by omega);omega);(have:=pF _ (by assumption) (by omega);omega))|(refine B5 ?_ ?_;kernel_rfl) |refine S2 ?_|(refine T6 ?_ ?_<;>intro h<;>try exact V1 h)|intro el nX nY|intro el nX|exact T4|refine T5 ?_ ?_|intro ex)<;>try conv=>whnf)
 all_goals first
  |exact A6 h0
  |exact A0 rfl (congrArg AV.i (Ap (ku (by omega)) (by decide)))
  |exact A0 rfl (congrArg AV.i (Ap (iN (by omega) (by omega)) (by decide)))
  |exact A0 rfl (congrArg AV.i (Ap (iO (by omega) (by omega) (by assumption)) (by decide)))
  |exact A0 rfl (congrArg AV.i (Ap (iP (by omega) (by omega) (by assumption)) (by decide)))
  |exact A0 rfl (congrArg AV.i (Ap (iQ (by omega) (by omega) (by assumption)) (by decide)))
  |exact A0 rfl (congrArg AV.i (Ap (eI (by omega) (by omega) nX (by assumption)) (by decide)))
  |exact A0 rfl (congrArg AV.i (Ap (bD (by omega) (by omega) (by omega) (by omega)) (by decide)))
  |exact A0 rfl (congrArg AV.i (Ap (bD (by omega) (by omega) (by omega) (by rw[C0 nX,I3 ov];omega)) (by decide)))
  |exact A0 rfl (congrArg AV.i (Ap (kv (by omega) (by omega) (by omega) (by omega)) (by decide)))
  |(rw[if_pos (Gi (s:=s) (c:=c) (by omega) (by omega))];refine B2 (ι:=Nat) (fun k=>⟨[(2,.ref 0 0),(3,.ref 1 0),(7,.i k)],2,[(0,some (.box (sL s))),(1,some (.box (P1 c)))]⟩) (fun k=>k≤c.kids.length∧X4 s c.kids=X4 s (c.kids.drop k)) (fun k=>c.kids.length-k) 0 ⟨Nat.zero_le _,rfl⟩ (A6 h0) (fun k hI=>?_))
  |(rw[if_pos (WY (s:=s) (c:=c) (by omega) (by omega) (by omega) (by rw[C0 nX,I3 ov];omega))];refine B2 (ι:=Nat) (fun k=>⟨[(2,.ref 0 0),(3,.ref 1 0),(7,.i k)],2,[(0,some (.box (sL s))),(1,some (.box (P1 c)))]⟩) (fun k=>k≤c.kids.length∧X4 s c.kids=X4 s (c.kids.drop k)) (fun k=>c.kids.length-k) 0 ⟨Nat.zero_le _,rfl⟩ (A6 h0) (fun k hI=>?_))
  |(rw[if_pos (WZ (s:=s) (c:=c) (by omega) (by omega) (by omega) (by omega))];refine B2 (ι:=Nat) (fun k=>⟨[(2,.ref 0 0),(3,.ref 1 0),(7,.i k)],2,[(0,some (.box (sL s))),(1,some (.box (P1 c)))]⟩) (fun k=>k≤c.kids.length∧X4 s c.kids=X4 s (c.kids.drop k)) (fun k=>c.kids.length-k) 0 ⟨Nat.zero_le _,rfl⟩ (A6 h0) (fun k hI=>?_))
  |(rw[if_pos (Wa (s:=s) (c:=c) (by omega) (by omega) (by omega) nX (by assumption))];refine B2 (ι:=Nat) (fun k=>⟨[(2,.ref 0 0),(3,.ref 1 0),(7,.i k)],2,[(0,some (.box (sL s))),(1,some (.box (P1 c)))]⟩) (fun k=>k≤c.kids.length∧X4 s c.kids=X4 s (c.kids.drop k)) (fun k=>c.kids.length-k) 0 ⟨Nat.zero_le _,rfl⟩ (A6 h0) (fun k hI=>?_))
 all_goals
  obtain⟨hk,hI⟩:=hI
  clear ox uT pF
  repeat'((first|(refine A1 (ih _ (List.mem_of_getElem? (by assumption))) ?_)|(refine B5 ?_ ?_;kernel_rfl) |refine S2 ?_|(refine T6 ?_ ?_<;>intro h<;>try exact V1 h)|intro el nX nY|intro el nX|exact T4|refine T5 ?_ ?_|intro ex)<;>try conv=>whnf)
 all_goals first
  |exact A0 rfl (congrArg AV.i (by rw[hI,H1 (by assumption),X4,if_neg (by assumption)]))
  |exact A0 rfl (congrArg AV.i (by rw[hI,Z0 (by assumption)];rfl))
  |exact⟨k+1,⟨by omega,by rw[hI,H1 (by assumption),X4,if_pos (Decidable.of_not_not (by assumption))]⟩,by omega,A6 h0⟩
end Go.Proofs.YtiphlhoclaogjaaGreatDoor

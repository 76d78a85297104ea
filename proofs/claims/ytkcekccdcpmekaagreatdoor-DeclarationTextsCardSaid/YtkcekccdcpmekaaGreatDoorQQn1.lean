/- Chapter 8: which questions and declarations are right: the program. -/
import Derived.Test.YtkcekccdcpmekaaGreatDoorQCm1
set_option linter.unusedVariables false
set_option linter.unnecessarySimpa false
set_option linter.unusedSimpArgs false
set_option maxHeartbeats 64000000
namespace Go.Proofs.YtkcekccdcpmekaaGreatDoor
open Go Go.Av
attribute [local irreducible] E8 B5 E5 E1 DQ E7 E9 St.le A4 A9
set_option maxRecDepth 100000
theorem Ga(s:A5)(c:Int):A4 Tryz.prog 64 [sA s,.i c] (.i (W1 s c)):=by
 unfold W1
 refine D0 Tryz.func64 20 fun ki E h0=>?_
 clear ki
 repeat'((first|(refine I6 ?_ ?_;kernel_rfl) |refine S2 ?_|(refine T6 ?_ ?_<;>intro h<;>try exact V1 h)|intro el ke kg|intro el ke|exact T4|refine T5 ?_ ?_|intro ex)<;>try conv=>whnf)
 all_goals first
  |exact A3 rfl (congrArg AV.i (by rw[if_neg (by omega)]))
  |exact A3 rfl (congrArg AV.i (by rw[if_pos (by omega),D4 ke]))
theorem Kq(c:A1):A4 Tryz.prog 67 [G9 c] (.b (decide (a6 c))):=by
 rw[T7]
 refine D0 Tryz.func67 32 fun ki E h0=>?_
 clear ki
 repeat'((first|refine S2 ?_|(refine T6 ?_ ?_<;>intro h<;>try exact V1 h)|intro el ke kg|intro el ke|exact T4|refine T5 ?_ ?_|intro ex)<;>try conv=>whnf)
 all_goals first
  |exact A3 rfl (congrArg AV.b (by rw[decide_eq_true (by omega)]))
  |exact A3 rfl (congrArg AV.b (by rw[decide_eq_false (by omega)]))
  |exact A3 rfl (congrArg AV.b (by rw[decide_eq_decide];omega))
theorem YY(x d:Pk):A4 Tryz.prog 66 [RC x,.iptr (N7 d)] (.b (decide (x.col=d.col))):=by
 refine D0 Tryz.func66 9 fun ki E h0=>?_
 clear ki
 repeat'((first|(refine I6 ?_ ?_;kernel_rfl) |refine S2 ?_|(refine T6 ?_ ?_<;>intro h<;>try exact V1 h)|intro el ke kg|intro el ke|exact T4|refine T5 ?_ ?_|intro ex)<;>try conv=>whnf)
 all_goals first
  |exact A3 rfl rfl
theorem eY(l:List Pk)(k:Nat)(d:Pk):A4 Tryz.prog 65 [.sl 2 ((l.map N7).take k),.fn 66 [.iptr (N7 d)]] (.b ((l.take k).any fun x=>decide (x.col=d.col))):=by
 have h:=gp (l.take k) 66 [.iptr (N7 d)] (fun x=>decide (x.col=d.col)) (fun x _=>YY x d)
 rw[List.map_take]at h
 exact h
theorem kS{s:A5}{c:Int}{k:Int}(h:W1 s c=k)(hk:¬k=0):∃x,0≤c∧s.cols[c.toNat]?=some x:=by
 unfold W1 at h
 split at h
 ·exact⟨_,by omega,List.getElem?_eq_getElem (by omega)⟩
 ·omega
theorem eZ{s:A5}{c:Int}{x:H2}(h0:0≤c)(hx:s.cols[c.toNat]?=some x):W1 s c=x.kind:=by
 have:=(List.getElem?_eq_some_iff.1 hx).1
 unfold W1
 rw[if_pos (by omega),D4 hx]
def WM(s:A5)(q:E3):Int:=if ¬q.mea=-1∧¬W1 s q.mea=3 then 7 else if 0<q.trms.length∨¬a6 q.evt then 11 else 0
theorem eb(s:A5)(q:E3):JC s q=if q.dims.length<1∨3<q.dims.length then 1 else if ¬J1 (Ar s q.dims) 0 q.dims=0 then J1 (Ar s q.dims) 0 q.dims else WM s q:=by
 unfold JC AB WM
 by_cases h:q.dims.length<1∨3<q.dims.length
 ·simp only[if_pos h];rfl
 ·simp only[if_neg h]
theorem TR(s:A5)(q:E3):A4 Tryz.prog 31 [sA s,O9 q] (.i (JC s q)):=by
 have hp:=fun d=>Vk s d
 have hk:=fun c=>Ga s c
 have qK:=hk q.mea
 have lu:=fun k d=>eY q.dims k d
 have he:=Kq q.evt
 have me:decide (a6 q.evt)=true→a6 q.evt:=of_decide_eq_true
 have ll:decide (a6 q.evt)=false→¬a6 q.evt:=of_decide_eq_false
 rw[eb]
 refine D0 Tryz.func31 64 fun ki E h0=>?_
 have kf:q.dims.length≤9223372036854775807:=by
  have:=((ki (O9 q) (by simp)).agg (.sl 2 (q.dims.map N7)) (by simp)).sl
  simpa using this
 clear ki
 repeat'((first|refine S2 ?_|(refine T6 ?_ ?_<;>intro h<;>try exact V1 h)|intro el ke kg|intro el ke|exact T4|refine T5 ?_ ?_|intro ex)<;>try conv=>whnf)
 all_goals first
  |(rw[if_pos (by omega)];exact A3 rfl rfl)
  |skip
 rw[if_neg (by omega)]
 refine D5 (ι:=Nat) (fun k=>⟨[(2,.ref 0 0),(3,.ref 1 0),(19,.sl 2 (q.dims.map N7)),(20,.i q.dims.length),(21,.i k)],2,[(0,some (.box (sL s))),(1,some (.box (C0 q)))]⟩) (fun k=>M6 (Ar s q.dims) q.dims k) (fun k=>q.dims.length-k) 0 (M6.zero _ _)
  (B2 h0) (fun k hI=>?_)
 have lJ:=hI.1
 by_cases kj:k<q.dims.length
 ·obtain⟨d,hd⟩:∃d,q.dims[k]?=some d:=⟨_,List.getElem?_eq_getElem kj⟩
  have h1:=hp d
  have h2:=lu k d
  have h3:=hk d.col
  have lG:∀e:Int,Ar s q.dims k d=e→¬e=0→e=(if ¬J1 (Ar s q.dims) 0 q.dims=0 then J1 (Ar s q.dims) 0 q.dims else WM s q):=fun e h3 h4=>by
   have:=hI.hit hd (by rw[h3];exact h4)
   rw[h3]at this
   rw[←this,if_pos h4]
  have ny:Ar s q.dims k d=0→M6 (Ar s q.dims) q.dims (k+1):=fun h=>hI.step hd h
  clear he qK me ll
  unfold Ar at lG ny
  by_cases qc:c8 s d=0
  ·obtain⟨c,qf,hc⟩:=aK qc
   rw[D4 hc]at lG ny
   rw[eZ qf hc]at h3
   rw[qc]at h1
   generalize ((q.dims.take k).any fun x=>decide (x.col=d.col))=u at *
   repeat'((first|(refine A2 (x:=d) hd (by omega) ?_)|refine A0 h1 ?_|refine A0 h3 ?_|refine s4 2 ?_|refine A0 h2 ?_ |refine S2 ?_|(refine T6 ?_ ?_<;>intro h<;>try exact V1 h)|intro el ke kg|intro el ke|exact T4|refine T5 ?_ ?_|intro ex)<;>try conv=>whnf)
   all_goals first
    |exact A3 rfl (congrArg AV.i (lG 7 (by rw[if_neg (by omega),if_pos (by assumption)]) (by omega)))
    |exact A3 rfl (congrArg AV.i (lG 10 (by rw[if_neg (by omega),if_neg (by assumption),if_pos (by assumption)]) (by omega)))
    |exact⟨k+1,ny (by rw[if_neg (by omega),if_neg (by assumption),if_neg (by simp[*])]),by omega,B2 h0⟩
    |(exfalso;omega)
  ·repeat'((first|(refine A2 (x:=d) hd (by omega) ?_)|refine A0 h1 ?_ |refine S2 ?_|(refine T6 ?_ ?_<;>intro h<;>try exact V1 h)|intro el ke kg|intro el ke|exact T4|refine T5 ?_ ?_|intro ex)<;>try conv=>whnf)
   all_goals first
    |exact A3 rfl (congrArg AV.i (lG (c8 s d) (by rw[if_pos (by omega)]) qc))
    |(exfalso;omega)
 ·rw[if_neg (show ¬¬J1 (Ar s q.dims) 0 q.dims=0 from fun h=>h (hI.done (by omega)))]
  unfold WM
  generalize decide (a6 q.evt)=b at *
  clear hp hk lu
  repeat'((first|refine A0 qK ?_|refine A0 he ?_ |refine S2 ?_|(refine T6 ?_ ?_<;>intro h<;>try exact V1 h)|intro el ke kg|intro el ke|exact T4|refine T5 ?_ ?_|intro ex)<;>try conv=>whnf)
  all_goals first
   |(exfalso;omega)
   |exact A3 rfl (congrArg AV.i (by rw[if_pos (by omega)]))
   |exact A3 rfl (congrArg AV.i (by rw[if_neg (by omega),if_pos (.inl (by omega))]))
   |exact A3 rfl (congrArg AV.i (by rw[if_neg (by omega),if_pos (.inr (ll (by assumption)))]))
   |exact A3 rfl (congrArg AV.i (by rw[if_neg (by omega),if_neg (fun h=>h.elim (fun h=>by omega) (fun h=>h (me (by assumption))))]))
def WN(q:E3):Int:=if 0<q.dims.length∨¬a6 q.evt then 11 else 0
theorem ee(s:A5)(q:E3):Ho s q=if ¬W1 s q.mea=3 then 7 else if q.trms.length<1∨3<q.trms.length then 1 else if ¬J1 (As s q.mea q.trms) 0 q.trms=0 then J1 (As s q.mea q.trms) 0 q.trms else WN q:=by
 unfold Ho Aa WN
 by_cases h:q.trms.length<1∨3<q.trms.length
 ·simp only[if_pos h];rfl
 ·simp only[if_neg h]
theorem TS(s:A5)(q:E3):A4 Tryz.prog 32 [sA s,O9 q] (.i (Ho s q)):=by
 have hk:=fun c=>Ga s c
 have qK:=hk q.mea
 have lu:=fun k d=>PQ q.trms k d
 have he:=Kq q.evt
 have me:decide (a6 q.evt)=true→a6 q.evt:=of_decide_eq_true
 have ll:decide (a6 q.evt)=false→¬a6 q.evt:=of_decide_eq_false
 rw[ee]
 refine D0 Tryz.func32 59 fun ki E h0=>?_
 have kf:q.trms.length≤9223372036854775807:=by
  have:=((ki (O9 q) (by simp)).agg (.sl 1 (q.trms.map wA)) (by simp)).sl
  simpa using this
 clear ki
 repeat'((first|refine A0 qK ?_ |refine S2 ?_|(refine T6 ?_ ?_<;>intro h<;>try exact V1 h)|intro el ke kg|intro el ke|exact T4|refine T5 ?_ ?_|intro ex)<;>try conv=>whnf)
 all_goals first
  |(rw[if_pos (by omega)];exact A3 rfl rfl)
  |(rw[if_neg (by omega),if_pos (by omega)];exact A3 rfl rfl)
  |skip
 rw[if_neg (by omega),if_neg (by omega)]
 refine D5 (ι:=Nat) (fun k=>⟨[(2,.ref 0 0),(3,.ref 1 0),(25,.sl 1 (q.trms.map wA)),(26,.i q.trms.length),(27,.i k)],2,[(0,some (.box (sL s))),(1,some (.box (C0 q)))]⟩) (fun k=>M6 (As s q.mea q.trms) q.trms k) (fun k=>q.trms.length-k) 0 (M6.zero _ _)
  (B2 h0) (fun k hI=>?_)
 have lJ:=hI.1
 by_cases kj:k<q.trms.length
 ·obtain⟨c,hc⟩:∃d,q.trms[k]?=some d:=⟨_,List.getElem?_eq_getElem kj⟩
  have h2:=lu k c
  have h3:=hk c
  have lG:∀e:Int,As s q.mea q.trms k c=e→¬e=0→e=(if ¬J1 (As s q.mea q.trms) 0 q.trms=0 then J1 (As s q.mea q.trms) 0 q.trms else WN q):=fun e h3 h4=>by
   have:=hI.hit hc (by rw[h3];exact h4)
   rw[h3]at this
   rw[←this,if_pos h4]
  have ny:As s q.mea q.trms k c=0→M6 (As s q.mea q.trms) q.trms (k+1):=fun h=>hI.step hc h
  clear he qK me ll
  unfold As at lG ny
  rw[JB _ _ _ (by decide)]at lG ny
  generalize W1 s c=n at *
  generalize ((q.trms.take k).any fun x=>decide (x=c))=u at *
  repeat'((first|(refine A2 (x:=c) hc (by omega) ?_)|refine A0 h3 ?_|refine A0 h2 ?_ |refine S2 ?_|(refine T6 ?_ ?_<;>intro h<;>try exact V1 h)|intro el ke kg|intro el ke|exact T4|refine T5 ?_ ?_|intro ex)<;>try conv=>whnf)
  all_goals first
   |exact A3 rfl (congrArg AV.i (lG 7 (by rw[if_pos (decide_eq_false (by omega))]) (by omega)))
   |exact A3 rfl (congrArg AV.i (lG 10 (by rw[if_neg (by rw[decide_eq_true (by omega)];simp),if_pos (.inl (by omega))]) (by omega)))
   |exact A3 rfl (congrArg AV.i (lG 10 (by rw[if_neg (by rw[decide_eq_true (by omega)];simp),if_pos (.inr (by assumption))]) (by omega)))
   |(refine⟨k+1,ny ?_,by omega,B2 h0⟩;rw[if_neg (by rw[decide_eq_true (by omega)];simp),if_neg (fun h=>h.elim (fun h=>by omega) (fun h=>Bool.false_ne_true ((show u=false by assumption).symm.trans h)))])
   |(exfalso;omega)
 ·rw[if_neg (show ¬¬J1 (As s q.mea q.trms) 0 q.trms=0 from fun h=>h (hI.done (by omega)))]
  unfold WN
  generalize decide (a6 q.evt)=b at *
  clear hk lu
  repeat'((first|refine A0 he ?_ |refine S2 ?_|(refine T6 ?_ ?_<;>intro h<;>try exact V1 h)|intro el ke kg|intro el ke|exact T4|refine T5 ?_ ?_|intro ex)<;>try conv=>whnf)
  all_goals first
   |(exfalso;omega)
   |exact A3 rfl (congrArg AV.i (by rw[if_pos (.inl (by omega))]))
   |exact A3 rfl (congrArg AV.i (by rw[if_pos (.inr (ll (by assumption)))]))
   |exact A3 rfl (congrArg AV.i (by rw[if_neg (fun h=>h.elim (fun h=>by omega) (fun h=>h (me (by assumption))))]))
theorem TT(s:A5)(q:E3):A4 Tryz.prog 33 [sA s,O9 q] (.i (JD s q)):=by
 have qK:=Ga s q.mea
 have hc:=CR s q.evt
 unfold JD
 by_cases h3:W1 s q.mea=3
 ·obtain⟨x,rQ,hx⟩:=kS h3 (by decide)
  rw[D4 hx,if_neg (by omega)]
  rw[h3]at qK
  generalize G6 s q.evt=n at *
  refine D0 Tryz.func33 38 fun ki E h0=>?_
  clear ki
  repeat'((first|(refine A2 (x:=x) hx (by omega) ?_)|refine A0 qK ?_|refine A0 hc ?_|(refine I6 ?_ ?_;kernel_rfl) |refine S2 ?_|(refine T6 ?_ ?_<;>intro h<;>try exact V1 h)|intro el ke kg|intro el ke|exact T4|refine T5 ?_ ?_|intro ex)<;>try conv=>whnf)
  all_goals first
   |(exfalso;omega)
   |exact A3 rfl (congrArg AV.i (by rw[if_pos (by omega)]))
   |exact A3 rfl (congrArg AV.i (by rw[if_neg (by omega),if_pos (by omega)]))
   |exact A3 rfl (congrArg AV.i (by rw[if_neg (by omega),if_neg (by omega),if_pos (by omega)]))
   |exact A3 rfl (congrArg AV.i (by rw[if_neg (by omega),if_neg (by omega),if_neg (by omega)]))
 ·rw[if_pos h3]
  generalize W1 s q.mea=n at *
  clear hc
  refine D0 Tryz.func33 38 fun ki E h0=>?_
  clear ki
  repeat'((first|refine A0 qK ?_ |refine S2 ?_|(refine T6 ?_ ?_<;>intro h<;>try exact V1 h)|intro el ke kg|intro el ke|exact T4|refine T5 ?_ ?_|intro ex)<;>try conv=>whnf)
  all_goals first
   |(exfalso;omega)
   |exact A3 rfl rfl
theorem WO(s:A5)(q:E3):A4 Tryz.prog 8 [sA s,O9 q] (.i (u6 s q)):=by
 have h1:=BJ s
 have h2:=Cu q.name
 have h3:=CR s q.flt
 have h4:=TR s q
 have h5:=TS s q
 have h6:=TT s q
 unfold u6
 generalize C8 s=n1 at *
 generalize D8 q.name=b at *
 generalize G6 s q.flt=n2 at *
 generalize JC s q=n3 at *
 generalize Ho s q=n4 at *
 generalize JD s q=n5 at *
 refine D0 Tryz.func8 49 fun ki E h0=>?_
 clear ki
 repeat'((first|refine A0 h1 ?_|refine A0 h2 ?_|refine A0 h3 ?_|refine A0 h4 ?_|refine A0 h5 ?_|refine A0 h6 ?_ |refine S2 ?_|(refine T6 ?_ ?_<;>intro h<;>try exact V1 h)|intro el ke kg|intro el ke|exact T4|refine T5 ?_ ?_|intro ex)<;>try conv=>whnf)
 all_goals first
  |(exfalso;omega)
  |exact A3 rfl (congrArg AV.i (by rw[if_pos (by omega)]))
  |exact A3 rfl (congrArg AV.i (by rw[if_neg (by omega),if_pos (by assumption)]))
  |exact A3 rfl (congrArg AV.i (by rw[if_neg (by omega),if_neg (fun h=>Bool.false_ne_true (h.symm.trans (show b=true by assumption))),if_pos (by omega)]))
  |exact A3 rfl (congrArg AV.i (by rw[if_neg (by omega),if_neg (fun h=>Bool.false_ne_true (h.symm.trans (show b=true by assumption))),if_neg (by omega),if_pos (by omega)]))
  |exact A3 rfl (congrArg AV.i (by rw[if_neg (by omega),if_neg (fun h=>Bool.false_ne_true (h.symm.trans (show b=true by assumption))),if_neg (by omega),if_neg (by omega),if_pos (by omega)]))
  |exact A3 rfl (congrArg AV.i (by rw[if_neg (by omega),if_neg (fun h=>Bool.false_ne_true (h.symm.trans (show b=true by assumption))),if_neg (by omega),if_neg (by omega),if_neg (by omega),if_pos (by omega)]))
  |exact A3 rfl (congrArg AV.i (by rw[if_neg (by omega),if_neg (fun h=>Bool.false_ne_true (h.symm.trans (show b=true by assumption))),if_neg (by omega),if_neg (by omega),if_neg (by omega),if_neg (by omega)]))
theorem ef(l:List (E3))(f:Nat)(caps:List AV)(p:(E3)→Bool)(hf:∀x∈l,A4 Tryz.prog f ((fun x=>.agg (C0 x)) x::caps) (.b (p x))):A4 Tryz.prog 111 [.sl 17 (l.map C0),.fn f caps] (.i (K6 p l 0)):=by
 refine D0 Tryz.func111 19 fun ki E h0=>?_
 have kf:l.length≤9223372036854775807:=by have:=(ki (.sl 17 (l.map C0)) (by simp)).sl;simpa using this
 repeat'((first|refine S2 ?_|(refine T6 ?_ ?_<;>intro h<;>try exact V1 h)|intro el ke kg|intro el ke|exact T4|refine T5 ?_ ?_|intro ex)<;>try conv=>whnf)
 refine D5 (ι:=Nat) (fun k=>⟨[(0,.sl 17 (l.map C0)),(1,.fn f caps),(7,.i l.length),(8,.i k)],0,[]⟩) (fun k=>k≤l.length∧K6 p l 0=K6 p (l.drop k) k) (fun k=>l.length-k) 0 ⟨Nat.zero_le _,rfl⟩ (B2 h0) (fun k hI=>?_)
 obtain⟨hk,hI⟩:=hI
 repeat'((first|refine A0 (hf _ (List.mem_of_getElem? ke)) ?_ |refine S2 ?_|(refine T6 ?_ ?_<;>intro h<;>try exact V1 h)|intro el ke kg|intro el ke|exact T4|refine T5 ?_ ?_|intro ex)<;>try conv=>whnf)
 all_goals first
  |exact⟨k+1,⟨by omega,by rw[hI,O6 ke,K6,if_neg (by simp[h])];rfl⟩,by omega,B2 h0⟩
  |exact A3 rfl (congrArg AV.i (by rw[hI,O6 ke,K6,if_pos (by simp[h])]))
  |exact A3 rfl (congrArg AV.i (by rw[hI,show k=l.length by omega,List.drop_length];rfl))
theorem eh(l:List (E3))(f:Nat)(caps:List AV)(p:(E3)→Bool)(hf:∀x∈l,A4 Tryz.prog f ((fun x=>.agg (C0 x)) x::caps) (.b (p x))):A4 Tryz.prog 69 [.sl 17 (l.map C0),.fn f caps] (.b (l.any p)):=by
 refine D0 Tryz.func69 9 fun ki E h0=>?_
 have mB:=ef l f caps p hf
 repeat'((first|refine A0 mB ?_ |refine S2 ?_|(refine T6 ?_ ?_<;>intro h<;>try exact V1 h)|intro el ke kg|intro el ke|exact T4|refine T5 ?_ ?_|intro ex)<;>try conv=>whnf)
 all_goals first
  |exact A3 rfl (congrArg AV.b (Ds p l 0 (by omega)))
theorem WP(x q:E3):A4 Tryz.prog 70 [O9 x,.iptr (C0 q)] (.b (decide (x.name=q.name))):=by
 refine D0 Tryz.func70 9 fun ki E h0=>?_
 clear ki
 repeat'((first|(refine I6 ?_ ?_;kernel_rfl) |refine S2 ?_|(refine T6 ?_ ?_<;>intro h<;>try exact V1 h)|intro el ke kg|intro el ke|exact T4|refine T5 ?_ ?_|intro ex)<;>try conv=>whnf)
 all_goals first
  |exact A3 rfl rfl
theorem bF(l:List E3)(k:Nat)(d:E3):A4 Tryz.prog 69 [.sl 17 ((l.map C0).take k),.fn 70 [.iptr (C0 d)]] (.b ((l.take k).any fun x=>decide (x.name=d.name))):=by
 have h:=eh (l.take k) 70 [.iptr (C0 d)] (fun x=>decide (x.name=d.name)) (fun x _=>WP x d)
 rw[List.map_take]at h
 exact h
theorem Gb(s:A5)(d:G0):A4 Tryz.prog 34 [sA s,R3 d] (.i (j8 s d)):=by
 have h1:=BJ s
 have h2:=Cu d.prj
 have h3:=Cu d.src
 have h4:=CR s d.coh
 have hq:=fun x=>WO s x
 have lu:=fun k x=>bF d.qs k x
 unfold j8
 generalize C8 s=n1 at *
 generalize D8 d.prj=b1 at *
 generalize D8 d.src=b2 at *
 generalize G6 s d.coh=n2 at *
 refine D0 Tryz.func34 98 fun ki E h0=>?_
 have kf:d.qs.length≤9223372036854775807:=by
  have:=((ki (R3 d) (by simp)).agg (.sl 17 (d.qs.map C0)) (by simp)).sl
  simpa using this
 clear ki
 repeat'((first|refine A0 h1 ?_|refine A0 h2 ?_|refine A0 h3 ?_|refine A0 h4 ?_ |refine S2 ?_|(refine T6 ?_ ?_<;>intro h<;>try exact V1 h)|intro el ke kg|intro el ke|exact T4|refine T5 ?_ ?_|intro ex)<;>try conv=>whnf)
 all_goals first
  |(exfalso;omega)
  |exact A3 rfl (congrArg AV.i (by rw[if_pos (by omega)]))
  |exact A3 rfl (congrArg AV.i (by rw[if_neg (by omega),if_pos (.inl (by assumption))]))
  |exact A3 rfl (congrArg AV.i (by rw[if_neg (by omega),if_pos (.inr (by assumption))]))
  |exact A3 rfl (congrArg AV.i (by rw[if_neg (by omega),if_neg (fun h=>h.elim (fun h=>Bool.false_ne_true (h.symm.trans (show b1=true by assumption))) (fun h=>Bool.false_ne_true (h.symm.trans (show b2=true by assumption)))),if_pos (by omega)]))
  |exact A3 rfl (congrArg AV.i (by rw[if_neg (by omega),if_neg (fun h=>h.elim (fun h=>Bool.false_ne_true (h.symm.trans (show b1=true by assumption))) (fun h=>Bool.false_ne_true (h.symm.trans (show b2=true by assumption)))),if_neg (by omega),if_pos (by omega)]))
  |exact A3 rfl (congrArg AV.i (by rw[if_neg (by omega),if_neg (fun h=>h.elim (fun h=>Bool.false_ne_true (h.symm.trans (show b1=true by assumption))) (fun h=>Bool.false_ne_true (h.symm.trans (show b2=true by assumption)))),if_neg (by omega),if_neg (by omega),if_pos (by omega)]))
  |skip
 rw[if_neg (by omega),if_neg (fun h=>h.elim (fun h=>Bool.false_ne_true (h.symm.trans (show b1=true by assumption))) (fun h=>Bool.false_ne_true (h.symm.trans (show b2=true by assumption)))),if_neg (by omega),if_neg (by omega),if_neg (by omega)]
 clear h1 h2 h3 h4
 refine D5 (ι:=Nat) (fun k=>⟨[(2,.ref 0 0),(3,.ref 1 0),(78,.sl 17 (d.qs.map C0)),(79,.i d.qs.length),(80,.i k)],2,[(0,some (.box (sL s))),(1,some (.box (FZ d)))]⟩) (fun k=>M6 (Dh s d.qs) d.qs k) (fun k=>d.qs.length-k) 0 (M6.zero _ _)
  (B2 h0) (fun k hI=>?_)
 have lJ:=hI.1
 by_cases kj:k<d.qs.length
 ·obtain⟨x,hx⟩:∃x,d.qs[k]?=some x:=⟨_,List.getElem?_eq_getElem kj⟩
  have h1:=hq x
  have h2:=lu k x
  have lG:∀e:Int,Dh s d.qs k x=e→¬e=0→e=J1 (Dh s d.qs) 0 d.qs:=fun e h3 h4=>by rw[←h3];exact hI.hit hx (by rw[h3];exact h4)
  have ny:Dh s d.qs k x=0→M6 (Dh s d.qs) d.qs (k+1):=fun h=>hI.step hx h
  unfold Dh at lG ny
  generalize u6 s x=n at *
  generalize ((d.qs.take k).any fun y=>decide (y.name=x.name))=u at *
  repeat'((first|(refine A2 (x:=x) hx (by omega) ?_)|refine A0 h1 ?_|refine s4 2 ?_|refine A0 h2 ?_ |refine S2 ?_|(refine T6 ?_ ?_<;>intro h<;>try exact V1 h)|intro el ke kg|intro el ke|exact T4|refine T5 ?_ ?_|intro ex)<;>try conv=>whnf)
  all_goals first
   |exact A3 rfl (congrArg AV.i (lG n (by rw[if_pos (by omega)]) (by omega)))
   |exact A3 rfl (congrArg AV.i (lG 10 (by rw[if_neg (by omega),if_pos (by assumption)]) (by omega)))
   |exact⟨k+1,ny (by rw[if_neg (by omega),if_neg (by simp[*])]),by omega,B2 h0⟩
   |(exfalso;omega)
 ·repeat'((first|refine S2 ?_|(refine T6 ?_ ?_<;>intro h<;>try exact V1 h)|intro el ke kg|intro el ke|exact T4|refine T5 ?_ ?_|intro ex)<;>try conv=>whnf)
  all_goals first
   |(exfalso;omega)
   |exact A3 rfl (congrArg AV.i (hI.done (by omega)).symm)
end Go.Proofs.YtkcekccdcpmekaaGreatDoor

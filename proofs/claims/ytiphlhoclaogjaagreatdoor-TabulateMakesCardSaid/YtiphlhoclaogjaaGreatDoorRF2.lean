/- Chapter 16: the reference's parts of expressions. Chapter 16: the reference's check of expressions. Chapter 16: the reference's Right. -/
import Derived.Test.YtiphlhoclaogjaaGreatDoorRF1
import Derived.Test.YtiphlhoclaogjaaGreatDoorRAvC
import Derived.Test.YtiphlhoclaogjaaGreatDoorRCe3
set_option linter.unusedVariables false
set_option linter.unnecessarySimpa false
set_option linter.unusedSimpArgs false
set_option maxHeartbeats 64000000
namespace Go.Proofs.YtiphlhoclaogjaaGreatDoor
open Go Go.Av
attribute [local irreducible] C9 B3 C7 D1 DQ D0 C6 St.le A3 B7
set_option maxRecDepth 100000
theorem Hq(s:A4)(col kind:Int):A3 Tryz.prog 168 [sA s,.i col,.i kind] (.b (Q5 s col kind)):=by
 refine B5 Tryz.func168 26 fun mK E h0=>?_
 clear mK
 repeat'((first|refine S2 ?_|(refine T6 ?_ ?_<;>intro h<;>try exact V1 h)|intro el mI mJ|intro el mI|exact T4|refine T5 ?_ ?_|intro ex)<;>try conv=>whnf)
 all_goals first
  |exact A1 rfl (congrArg AV.b (by unfold Q5;rw[decide_eq_false (by omega)]))
  |exact A1 rfl (congrArg AV.b (by unfold Q5;rw[C1 mI,decide_eq_decide];omega))
theorem JZ(l:List Int)(v:Int):A3 Tryz.prog 31 [.sl 1 (l.map wA),.i v] (.b (l.any fun x=>decide (x=v))):=by
 refine B5 Tryz.func31 18 fun mK E h0=>?_
 have mL:l.length≤9223372036854775807:=by
  have:=(mK (.sl 1 (l.map wA)) (by simp)).sl
  simpa using this
 clear mK
 repeat'((first|refine S2 ?_|(refine T6 ?_ ?_<;>intro h<;>try exact V1 h)|intro el mI mJ|intro el mI|exact T4|refine T5 ?_ ?_|intro ex)<;>try conv=>whnf)
 refine A9 (ι:=Nat) (fun k=>⟨[(0,.sl 1 (l.map wA)),(1,.i v),(5,.i k)],0,[]⟩) (fun k=>P4 (fun x=>decide (x=v)) l k) (fun k=>l.length-k) 0 (P4.zero _ _)
  (A6 h0) (fun k hI=>?_)
 have mT:=hI.1
 repeat'((first|(refine B0 ?_ ?_;kernel_rfl) |refine S2 ?_|(refine T6 ?_ ?_<;>intro h<;>try exact V1 h)|intro el mI mJ|intro el mI|exact T4|refine T5 ?_ ?_|intro ex)<;>try conv=>whnf)
 all_goals first
  |exact A1 rfl (congrArg AV.b (hI.hit mI (by rw[decide_eq_true_iff];assumption)))
  |exact A1 rfl (congrArg AV.b (hI.done (by assumption)))
  |exact⟨k+1,hI.step mI (by rw[decide_eq_false_iff_not];assumption),by omega,A6 h0⟩
theorem an(l:List Int)(k:Nat)(v:Int):A3 Tryz.prog 31 [.sl 1 ((l.map wA).take k),.i v] (.b ((l.take k).any fun x=>decide (x=v))):=by
 have h:=JZ (l.take k) v
 rw[List.map_take]at h
 exact h
theorem Ja{s:A4}{p:Pk}(h:N3 s p=0):0≤p.col∧p.col<s.cols.length:=by
 unfold N3 BZ E5 at h
 by_cases hc:p.col<1∨(s.cols.length:Int)≤p.col
 ·rw[if_pos hc]at h
  split at h
  ·rw[if_pos (show (-1:Int)<0 by omega)]at h
   omega
  ·exact absurd h (by assumption)
 ·omega
theorem Nm(s:A4)(l:List Pk):A3 Tryz.prog 169 [sA s,.sl 2 (l.map A8)] (.i (Q2 s l)):=by
 have hp:=fun d=>Na s d
 have hi:=fun c=>Hq s c 2
 unfold Q2
 refine B5 Tryz.func169 55 fun mK E h0=>?_
 have mL:l.length≤9223372036854775807:=by
  have:=(mK (.sl 2 (l.map A8)) (by simp)).sl
  simpa using this
 clear mK
 repeat'((first|refine S2 ?_|(refine T6 ?_ ?_<;>intro h<;>try exact V1 h)|intro el mI mJ|intro el mI|exact T4|refine T5 ?_ ?_|intro ex)<;>try conv=>whnf)
 all_goals first
  |(rw[if_pos (by omega)];exact A1 rfl rfl)
  |skip
 rw[if_neg (by omega)]
 refine A9 (ι:=Nat) (fun k=>⟨[(1,.sl 2 (l.map A8)),(2,.ref 0 0),(5,.i k)],1,[(0,some (.box (sL s)))]⟩) (fun k=>F2 (W0 s l) l k) (fun k=>l.length-k) 0 (F2.zero _ _)
  (A6 h0) (fun k hI=>?_)
 have mT:=hI.1
 by_cases mM:k<l.length
 ·obtain⟨d,hd⟩:∃d,l[k]?=some d:=⟨_,List.getElem?_eq_getElem mM⟩
  have h1:=hp d
  have h2:=hi d.col
  have mc:∀e:Int,W0 s l k d=e→¬e=0→e=F4 (W0 s l) 0 l:=fun e h3 h4=>by rw[←h3];exact hI.hit hd (by rw[h3];exact h4)
  have ox:W0 s l k d=0→F2 (W0 s l) l (k+1):=fun h=>hI.step hd h
  unfold W0 at mc ox
  by_cases pN:N3 s d=0
  ·obtain⟨qM,ol⟩:=Ja pN
   rw[pN]at h1
   by_cases mW:(B8 s d.col).kind=2
   ·rw[show Q5 s d.col 2=true by unfold Q5;rw[decide_eq_true_iff];exact⟨qM,ol,mW⟩]at h2
    repeat'((first|(refine A2 (x:=d) hd (by omega) ?_)|refine A0 h1 ?_|refine A0 h2 ?_|(refine B0 ?_ ?_;kernel_rfl) |refine S2 ?_|(refine T6 ?_ ?_<;>intro h<;>try exact V1 h)|intro el mI mJ|intro el mI|exact T4|refine T5 ?_ ?_|intro ex)<;>try conv=>whnf)
    all_goals first
     |(exfalso;omega)
     |skip
    refine A9 (ι:=Nat) (fun j=>⟨[(1,.sl 2 (l.map A8)),(2,.ref 0 0),(5,.i k),(7,.i j)],1,[(0,some (.box (sL s)))]⟩) (fun j=>j≤k∧P4 (fun x=>decide (x.col=d.col)) (l.take k) j) (fun j=>k-j) 0 ⟨Nat.zero_le _,P4.zero _ _⟩
     (A6 h0) (fun j hJ=>?_)
    obtain⟨hj,hJ⟩:=hJ
    have wH:(l.take k).length=k:=by rw[List.length_take];omega
    repeat'((first|(refine A2 (x:=d) hd (by omega) ?_)|(refine B0 ?_ ?_;kernel_rfl) |refine S2 ?_|(refine T6 ?_ ?_<;>intro h<;>try exact V1 h)|intro el mI mJ|intro el mI|exact T4|refine T5 ?_ ?_|intro ex)<;>try conv=>whnf)
    all_goals first
     |exact A1 rfl (congrArg AV.i (mc 10 (by rw[if_neg (by omega),if_neg (by omega),if_pos (hJ.hit (x:=el) (by rw[List.getElem?_take,if_pos (by omega)];exact mI) (decide_eq_true (by assumption))).symm]) (by omega)))
     |exact⟨j+1,⟨by omega,hJ.step (x:=el) (by rw[List.getElem?_take,if_pos (by omega)];exact mI) (decide_eq_false (by assumption))⟩,by omega,A6 h0⟩
     |exact⟨k+1,ox (by rw[if_neg (by omega),if_neg (by omega),if_neg (by rw[←hJ.done (by rw[wH];assumption)];exact Bool.false_ne_true)]),by omega,A6 h0⟩
   ·rw[show Q5 s d.col 2=false by unfold Q5;rw[decide_eq_false_iff_not];omega]at h2
    repeat'((first|(refine A2 (x:=d) hd (by omega) ?_)|refine A0 h1 ?_|refine A0 h2 ?_|(refine B0 ?_ ?_;kernel_rfl) |refine S2 ?_|(refine T6 ?_ ?_<;>intro h<;>try exact V1 h)|intro el mI mJ|intro el mI|exact T4|refine T5 ?_ ?_|intro ex)<;>try conv=>whnf)
    all_goals first
     |(exfalso;omega)
     |exact A1 rfl (congrArg AV.i (mc 7 (by rw[if_neg (by omega),if_pos (by omega)]) (by omega)))
  ·repeat'((first|(refine A2 (x:=d) hd (by omega) ?_)|refine A0 h1 ?_|refine A0 h2 ?_|(refine B0 ?_ ?_;kernel_rfl) |refine S2 ?_|(refine T6 ?_ ?_<;>intro h<;>try exact V1 h)|intro el mI mJ|intro el mI|exact T4|refine T5 ?_ ?_|intro ex)<;>try conv=>whnf)
   all_goals first
    |(exfalso;omega)
    |exact A1 rfl (congrArg AV.i (mc (N3 s d) (by rw[if_pos (by omega)]) pN))
 ·repeat'((first|refine S2 ?_|(refine T6 ?_ ?_<;>intro h<;>try exact V1 h)|intro el mI mJ|intro el mI|exact T4|refine T5 ?_ ?_|intro ex)<;>try conv=>whnf)
  all_goals first
   |(exfalso;omega)
   |exact A1 rfl (congrArg AV.i (hI.done (by omega)).symm)
theorem LA(s:A4)(m:Int)(l:List Int):A3 Tryz.prog 170 [sA s,.i m,.sl 1 (l.map wA)] (.i (W8 s m l)):=by
 have hi:=fun c=>Hq s c 3
 unfold W8
 refine B5 Tryz.func170 45 fun mK E h0=>?_
 have mL:l.length≤9223372036854775807:=by
  have:=(mK (.sl 1 (l.map wA)) (by simp)).sl
  simpa using this
 clear mK
 repeat'((first|refine S2 ?_|(refine T6 ?_ ?_<;>intro h<;>try exact V1 h)|intro el mI mJ|intro el mI|exact T4|refine T5 ?_ ?_|intro ex)<;>try conv=>whnf)
 all_goals first
  |(rw[if_pos (by omega)];exact A1 rfl rfl)
  |skip
 rw[if_neg (by omega)]
 refine A9 (ι:=Nat) (fun k=>⟨[(1,.i m),(2,.sl 1 (l.map wA)),(3,.ref 0 0),(7,.i k)],1,[(0,some (.box (sL s)))]⟩) (fun k=>F2 (X6 s m l) l k) (fun k=>l.length-k) 0 (F2.zero _ _)
  (A6 h0) (fun k hI=>?_)
 have mT:=hI.1
 by_cases mM:k<l.length
 ·obtain⟨c,hc⟩:∃c,l[k]?=some c:=⟨_,List.getElem?_eq_getElem mM⟩
  have h1:=hi c
  have h2:=an l k c
  have mc:∀e:Int,X6 s m l k c=e→¬e=0→e=F4 (X6 s m l) 0 l:=fun e h3 h4=>by rw[←h3];exact hI.hit hc (by rw[h3];exact h4)
  have ox:X6 s m l k c=0→F2 (X6 s m l) l (k+1):=fun h=>hI.step hc h
  unfold X6 at mc ox
  generalize Q5 s c 3=b at *
  generalize ((l.take k).any fun x=>decide (x=c))=u at *
  repeat'((first|(refine A2 (x:=c) hc (by omega) ?_)|refine A0 h1 ?_|refine A0 h2 ?_|(refine B0 ?_ ?_;kernel_rfl) |refine S2 ?_|(refine T6 ?_ ?_<;>intro h<;>try exact V1 h)|intro el mI mJ|intro el mI|exact T4|refine T5 ?_ ?_|intro ex)<;>try conv=>whnf)
  all_goals first
   |exact A1 rfl (congrArg AV.i (mc 7 (by rw[if_pos (by assumption)]) (by omega)))
   |exact A1 rfl (congrArg AV.i (mc 10 (by rw[if_neg (by simp[*]),if_pos (.inl (by assumption))]) (by omega)))
   |exact A1 rfl (congrArg AV.i (mc 10 (by rw[if_neg (by simp[*]),if_pos (.inr (by assumption))]) (by omega)))
   |exact⟨k+1,ox (by rw[if_neg (by simp[*]),if_neg (by simp[*])]),by omega,A6 h0⟩
   |(exfalso;omega)
 ·repeat'((first|refine S2 ?_|(refine T6 ?_ ?_<;>intro h<;>try exact V1 h)|intro el mI mJ|intro el mI|exact T4|refine T5 ?_ ?_|intro ex)<;>try conv=>whnf)
  all_goals first
   |(exfalso;omega)
   |exact A1 rfl (congrArg AV.i (hI.done (by omega)).symm)
theorem Nn(c:B6):A3 Tryz.prog 171 [D5 c,.agg [.i 0,.i 0,.i 0,.i 0,.i 0,.v (.slice none 0 0)]] (.b (decide (Q8 c))):=by
 rw[F8]
 refine B5 Tryz.func171 67 fun mK E h0=>?_
 have mL:c.kids.length≤9223372036854775807:=by
  have:=((mK _ (List.mem_cons_self ..)).agg (.sl 6 (c.kids.map I8)) (by simp)).sl
  simpa using this
 clear mK
 repeat'((first|(refine B0 ?_ ?_;kernel_rfl) |refine S2 ?_|(refine T6 ?_ ?_<;>intro h<;>try exact V1 h)|intro el mI mJ|intro el mI|exact T4|refine T5 ?_ ?_|intro ex)<;>try conv=>whnf)
 all_goals first
  |exact A1 rfl (congrArg AV.b (decide_eq_false (by omega)).symm)
  |skip
 refine A9 (ι:=Nat) (fun k=>⟨[(2,.ref 0 0),(5,.i k)],1,[(0,some (.box (M8 c)))]⟩) (fun k=>k=0) (fun k=>1-k) 0 rfl
  (A6 h0) (fun k hk=>?_)
 subst hk
 repeat'((first|refine S2 ?_|(refine T6 ?_ ?_<;>intro h<;>try exact V1 h)|intro el mI mJ|intro el mI|exact T4|refine T5 ?_ ?_|intro ex)<;>try conv=>whnf)
 all_goals first
  |exact A1 rfl (congrArg AV.b (decide_eq_true (by omega)).symm)
  |(exfalso;omega)
theorem LB(c:B6):A3 Tryz.prog 217 [D5 c] (.b (decide (Q8 c))):=by
 have h:=Nn c
 refine B5 Tryz.func217 6 fun mK E h0=>?_
 clear mK
 repeat'((first|refine A0 h ?_ |refine S2 ?_|(refine T6 ?_ ?_<;>intro h<;>try exact V1 h)|intro el mI mJ|intro el mI|exact T4|refine T5 ?_ ?_|intro ex)<;>try conv=>whnf)
 all_goals first
  |exact A1 rfl rfl
abbrev Lq(e:F6):Prop:=(1≤e.op∧e.op≤14)∧(Ec e.op∨e.num=0)∧(Cq e.op∨e.name.length=0)∧(j6 e.op∨e.col=0)∧(Cr e.op∨e.cols.length=0)∧(Cs e.op∨e.dims.length=0)∧(o6 e.op∨Q8 e.cnd)∧(o7 e.op∨Q8 e.evt)
abbrev Tn(e:F6):List AV:=[.i e.op,.i 0,.str [],.i 0,.v (.slice none 0 0),.v (.slice none 0 0),.i 0,.i 0,.i 0,.i 0,.i 0,.v (.slice none 0 0),.i 0,.i 0,.i 0,.i 0,.i 0,.v (.slice none 0 0),.v (.slice none 0 0)]
theorem Gs(l:List UInt8):(({ data:=#[] }:ByteArray).data.toList=l)↔l.length=0:=by
 constructor
 ·intro h;rw[←h];rfl
 ·intro h;rw[List.eq_nil_of_length_eq_zero h]
theorem Lr(l:List UInt8):((#[]:Array UInt8).toList=l)↔l.length=0:=Gs l
theorem Ls(l:List UInt8):(([]:List UInt8)=l)↔l.length=0:=Gs l
theorem ao(e:F6):A3 Tryz.prog 172 [u9 e] (.b (decide (Lq e))):=by
 have h1:=LB e.cnd
 have h2:=LB e.evt
 rw[CN]
 refine B5 Tryz.func172 117 fun mK E h0=>?_
 clear mK
 repeat'((first|refine A0 h1 ?_|refine A0 h2 ?_|(refine E6 20 ?_;refine F3 (id:=20) ⟨[(1,.ref 0 0),(3,.ref 1 0),(4,.b true),(5,.b false)],2,[(0,some (.box (Au e))),(1,some (.box (((Tn e).set 3 (.i e.col)).set 5 (.sl 2 (e.dims.map A8)))))]⟩ ?_ ?_)|(refine E6 22 ?_;refine F3 (id:=22) ⟨[(1,.ref 0 0),(3,.ref 1 0),(4,.b true),(5,.b false)],2,[(0,some (.box (Au e))),(1,some (.box (((Tn e).set 3 (.i e.col)).set 4 (.sl 1 (e.cols.map wA)))))]⟩ ?_ ?_)|(refine E6 26 ?_;refine F3 (id:=26) ⟨[(1,.ref 0 0),(3,.ref 1 0),(4,.b true),(5,.b false)],2,[(0,some (.box (Au e))),(1,some (.box (((Tn e).set 3 (.i e.col)).set 1 (.i e.num))))]⟩ ?_ ?_) |refine S2 ?_|(refine T6 ?_ ?_<;>intro h<;>try exact V1 h)|intro el mI mJ|intro el mI|exact T4|refine T5 ?_ ?_|intro ex)<;>try conv=>whnf)
 all_goals first
  |exact A6 h0
  |skip
 all_goals first
  |exact A1 rfl (congrArg AV.b (decide_eq_true (by (clear h1 h2;simp only[Ec,Cq,j6,Cr,Cs,o6,o7,P2,Lq,Q8,Gs,Lr,Ls,←List.length_eq_zero_iff]at *;omega))).symm)
  |exact A1 rfl (congrArg AV.b (decide_eq_false (by (clear h1 h2;simp only[Ec,Cq,j6,Cr,Cs,o6,o7,P2,Lq,Q8,Gs,Lr,Ls,←List.length_eq_zero_iff]at *;omega))).symm)
  |exact A1 rfl (congrArg AV.b (by rw[decide_eq_decide];(clear h1 h2;simp only[Ec,Cq,j6,Cr,Cs,o6,o7,P2,Lq,Q8,Gs,Lr,Ls,←List.length_eq_zero_iff]at *;omega)))
abbrev Ov(s:A4)(k:F6):Bool:=decide (10≤k.op) || !W2 s k
theorem gz{s:A4}(hr:C3 s=0)(k:F6):Ov s k=DS s k:=by
 have hx:W2 s k=Aw s k:=by unfold W2;rw[decide_eq_true hr,Bool.true_and]
 unfold Ov DS
 rw[hx]
 cases h:Aw s k with
 |false=>simp
 |true =>
  rw[DT]at h
  simp only[Bool.and_eq_true,JV]at h
  have:=of_decide_eq_true h.1.1.1.1.1.1
  rw[Bool.not_true,Bool.or_false,Bool.or_false]
  by_cases h2:10≤k.op
  ·rw[decide_eq_true h2,decide_eq_false (by omega)];rfl
  ·rw[decide_eq_false h2,decide_eq_true (by omega)];rfl
theorem kK{s:A4}{e:F6}(h:¬(C3 s=0∧Lq e)):false=W2 s e:=by
 unfold W2
 rw[DT]
 unfold JV
 rw[eq_comm]
 by_cases hr:C3 s=0
 ·have:¬((1≤e.op∧e.op≤14)∧FN e):=by
   intro hh
   exact h ⟨hr,hh.1,hh.2.1,hh.2.2.1,hh.2.2.2.1,hh.2.2.2.2.1,hh.2.2.2.2.2.1,hh.2.2.2.2.2.2.1,hh.2.2.2.2.2.2.2.1⟩
  by_cases h1:1≤e.op∧e.op≤14
  ·rw[decide_eq_false (p:=FN e) (fun h2=>this ⟨h1,h2⟩)];simp
  ·rw[decide_eq_false h1];simp
 ·rw[decide_eq_false hr];rfl
theorem dl{s:A4}{e:F6}(h:(P2 e.op∧e.kids.length≠2)∨(¬P2 e.op∧e.kids.length≠0)):false=W2 s e:=by
 unfold W2
 rw[DT]
 unfold JV
 rcases h with ⟨h1,h2⟩|⟨h1,h2⟩
 ·rw[decide_eq_false (p:=¬P2 e.op) (fun hn=>hn h1),decide_eq_false h2];simp
 ·rw[decide_eq_false (p:=FN e) (fun hu=>by have:=hu.2.2.2.2.2.2.2;exact this.elim h1 h2)];simp
theorem hH{s:A4}{e:F6}(h:e.kids.any (DS s)=true):false=W2 s e:=by
 unfold W2
 rw[DT,h];simp
theorem kL{s:A4}{e:F6}(hr:C3 s=0)(h1:Lq e)(h2:(P2 e.op∧e.kids.length=2)∨(¬P2 e.op∧e.kids.length=0))(h3:e.kids.any (DS s)=false):W2 s e=(DR s e && (decide (¬o6 e.op) || decide (J6 s e.cnd=0)) && (decide (¬o7 e.op) || decide (J6 s e.evt=0))):=by
 have hu:FN e:=⟨h1.2.1,h1.2.2.1,h1.2.2.2.1,h1.2.2.2.2.1,h1.2.2.2.2.2.1,h1.2.2.2.2.2.2.1,h1.2.2.2.2.2.2.2,by rcases h2 with h|h;exact .inl h.1;exact .inr h.2⟩
 have hk:(decide (¬P2 e.op) || decide (e.kids.length=2))=true:=by
  rcases h2 with ⟨h,h'⟩|⟨h,_⟩
  ·rw[decide_eq_true h'];simp
  ·rw[decide_eq_true h];rfl
 unfold W2
 rw[DT,h3]
 unfold JV
 rw[decide_eq_true hr,decide_eq_true h1.1,decide_eq_true hu,hk]
 simp
theorem VK(s:A4)(e:F6):A3 Tryz.prog 116 [sA s,u9 e] (.b (W2 s e)):=by
 refine Gr (p:=fun e=>A3 Tryz.prog 116 [sA s,u9 e] (.b (W2 s e))) (fun e ih=>?_) e
 have h1:=Q4 s
 have h2:=ao e
 have h3:=Hq s e.col 3
 have h4:=m9 e.name
 have h5:=Nm s e.dims
 have h6:=LA s e.col e.cols
 have h7:=X9 s e.evt
 have h8:=X9 s e.cnd
 have mc:=kK (s:=s) (e:=e)
 have tC:=dl (s:=s) (e:=e)
 have zU:=hH (s:=s) (e:=e)
 have tF:=kL (s:=s) (e:=e)
 obtain⟨c,yC⟩:∃c,Q5 s e.col 3=true→0≤e.col∧s.cols[e.col.toNat]?=some c:=by
  by_cases hB:Q5 s e.col 3=true
  ·obtain⟨ns,no,_⟩:0≤e.col∧e.col<s.cols.length∧(B8 s e.col).kind=3:=by simpa [Q5]using hB
   exact⟨s.cols[e.col.toNat]'(by omega),fun _=>⟨ns,List.getElem?_eq_getElem (by omega)⟩⟩
  ·exact⟨⟨[],0,0,0,0,[],false⟩,fun h=>absurd h hB⟩
 have mX:Q5 s e.col 3=true→B8 s e.col=c:=fun h=>C1 (yC h).2
 have h9:=JZ c.widths e.num
 have oZ:∀hr:C3 s=0,Ov s=DS s:=fun hr=>funext fun k=>gz hr k
 unfold DR at tF
 rw[CN]at h2 ⊢
 generalize Q5 s e.col 3=b at *
 generalize D6 e.name=b1 at *
 generalize Q2 s e.dims=n1 at *
 generalize W8 s e.col e.cols=n2 at *
 generalize J6 s e.cnd=n3 at *
 generalize J6 s e.evt=n4 at *
 refine B5 Tryz.func116 152 fun mK E h0=>?_
 have mL:e.kids.length≤9223372036854775807:=by
  have:=((mK _ (List.mem_cons_of_mem _ (List.mem_cons_self ..))).agg (.sl 19 (e.kids.map Bv)) (by simp)).sl
  simpa using this
 clear mK
 repeat'((first|refine A0 h1 ?_|refine A0 h2 ?_ |refine S2 ?_|(refine T6 ?_ ?_<;>intro h<;>try exact V1 h)|intro el mI mJ|intro el mI|exact T4|refine T5 ?_ ?_|intro ex)<;>try conv=>whnf)
 all_goals first
  |exact A1 rfl (congrArg AV.b (mc (fun hh=>by first|exact absurd hh.1 (by assumption)|exact absurd hh.2 (by assumption))))
  |exact A1 rfl (congrArg AV.b (tC (by simp only[P2];omega)))
  |skip
 all_goals
  obtain⟨hr,hu,nP,pp⟩:C3 s=0∧Lq e∧((P2 e.op∧e.kids.length=2)∨(¬P2 e.op∧e.kids.length=0))∧Ov s=DS s:=⟨Decidable.of_not_not (by assumption),by assumption,by simp only[P2];omega,oZ (Decidable.of_not_not (by assumption))⟩
  replace tF:=tF hr hu nP
  rw[←pp]at zU tF
  obtain⟨kn,qg⟩:∃kn:Int,(P2 e.op∧kn=2)∨(¬P2 e.op∧kn=0):=by
   rcases nP with ⟨h,_⟩|⟨h,_⟩
   ·exact⟨2,.inl ⟨h,rfl⟩⟩
   ·exact⟨0,.inr ⟨h,rfl⟩⟩
  simp only[P2]at qg
  refine A9 (ι:=Nat) (fun k=>⟨[(2,.ref 0 0),(3,.ref 1 0),(5,.i kn),(6,.i k)],2,[(0,some (.box (sL s))),(1,some (.box (Au e)))]⟩) (fun k=>P4 (Ov s) e.kids k) (fun k=>e.kids.length-k) 0 (P4.zero _ _)
   (A7 h0 rfl ⟨rfl,rfl,(congrArg (fun z:Int=>some (AV.i z)) (by omega)),rfl,trivial⟩ ⟨rfl,rfl,trivial⟩ rfl rfl rfl) (fun k hI=>?_)
  clear mc tC h1 h2
  have mT:=hI.1
  by_cases mM:k<e.kids.length
  ·obtain⟨x,hx⟩:∃x,e.kids[k]?=some x:=⟨_,List.getElem?_eq_getElem mM⟩
   have hq:=ih x (List.mem_of_getElem? hx)
   have nC:=fun h=>hI.step hx h
   have hht:=fun h=>hI.hit hx h
   unfold Ov at nC hht
   generalize W2 s x=bx at *
   repeat'((first|(refine A2 (x:=x) hx (by omega) ?_)|refine A0 hq ?_|(refine B0 ?_ ?_;kernel_rfl) |refine S2 ?_|(refine T6 ?_ ?_<;>intro h<;>try exact V1 h)|intro el mI mJ|intro el mI|exact T4|refine T5 ?_ ?_|intro ex)<;>try conv=>whnf)
   all_goals first
    |(exfalso;omega)
    |exact A1 rfl (congrArg AV.b (zU (hht (by simp[*])).symm))
    |exact⟨k+1,nC (by simp[*];try omega),by omega,A6 h0⟩
  ·have vl:=tF (hI.done (by omega)).symm
   clear ih zU tF
   rw[vl]
   repeat'((first|(refine A2 (x:=c) (yC (by assumption)).2 (by have:=(yC (by assumption)).1;omega) ?_)|refine A0 h3 ?_|refine A0 h4 ?_|refine A0 h5 ?_|refine A0 h6 ?_|refine A0 h7 ?_|refine A0 h8 ?_|refine A0 h9 ?_|(refine B0 ?_ ?_;kernel_rfl) |refine S2 ?_|(refine T6 ?_ ?_<;>intro h<;>try exact V1 h)|intro el mI mJ|intro el mI|exact T4|refine T5 ?_ ?_|intro ex)<;>try conv=>whnf)
   all_goals clear vl h3 h4 h5 h6 h7 h8 h9 hI pp mM mT oZ
   all_goals try (have oG:=mX (by assumption))
   all_goals clear mX yC
   all_goals first
    |(refine A1 rfl (congrArg AV.b ?_);(first|(simp only[o6,o7,or_self,and_self,Int.reduceLE,false_or,Bool.or_self,Bool.and_self, *,if_true,if_false,Bool.true_eq_false,Bool.false_eq_true,or_true,or_false,true_or,false_or,and_true,true_and,and_false,false_and,not_true_eq_false,not_false_eq_true,ne_eq,reduceIte,Int.reduceEq,Int.reduceLT,Int.reduceLE,Int.reduceNeg,decide_true,decide_false,Bool.not_true,Bool.not_false,Bool.and_true,Bool.true_and,Bool.and_false,Bool.false_and,Bool.or_true,Bool.true_or,Bool.or_false,Bool.false_or,Option.some.injEq];done)|(simp only[o6,o7,or_self,and_self,Int.reduceLE,false_or,Bool.or_self,Bool.and_self, *,if_true,if_false,Bool.true_eq_false,Bool.false_eq_true,not_true_eq_false,not_false_eq_true,ne_eq,reduceIte,Int.reduceEq];first|rfl|(repeat' split)<;>first|rfl|omega|(exfalso;omega)|contradiction)))
    |(refine A1 rfl (congrArg AV.b ?_);rw[decide_eq_false (p:=0≤(B8 s e.col).low) (by rw[oG];omega)];simp[*];done)
    |(refine A1 rfl (congrArg AV.b ?_);have ho:=hu.1;rw[if_neg (by omega),if_neg (by omega),if_pos (by omega),decide_eq_false (p:=¬o6 e.op) (by simp only[o6];omega),decide_eq_true (p:=¬o7 e.op) (by simp only[o7];omega)];simp[*];done)
    |(refine A1 rfl (congrArg AV.b ?_);simp_all;done)
    |(refine A1 rfl (congrArg AV.b ?_);simp_all [o6,o7];done)
    |(exfalso;omega)
end Go.Proofs.YtiphlhoclaogjaaGreatDoor

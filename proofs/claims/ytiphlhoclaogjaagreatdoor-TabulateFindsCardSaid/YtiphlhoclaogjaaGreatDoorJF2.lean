/- Chapter 16: the reference's parts of expressions. Chapter 16: the reference's check of expressions. Chapter 16: the reference's Right. -/
import Derived.Test.YtiphlhoclaogjaaGreatDoorJF1
import Derived.Test.YtiphlhoclaogjaaGreatDoorJAvC
import Derived.Test.YtiphlhoclaogjaaGreatDoorJCe3
set_option linter.unusedVariables false
set_option linter.unnecessarySimpa false
set_option linter.unusedSimpArgs false
set_option maxHeartbeats 64000000
namespace Go.Proofs.YtiphlhoclaogjaaGreatDoor
open Go Go.Av
attribute [local irreducible] C9 B3 C8 D1 DQ D0 C7 St.le A3 B8
set_option maxRecDepth 100000
theorem Ir(s:A4)(col kind:Int):A3 Tryz.prog 168 [sA s,.i col,.i kind] (.b (Q7 s col kind)):=by
 refine B5 Tryz.func168 26 fun nL E h0=>?_
 clear nL
 repeat'((first|refine S2 ?_|(refine T6 ?_ ?_<;>intro h<;>try exact V1 h)|intro el nJ nK|intro el nJ|exact T4|refine T5 ?_ ?_|intro ex)<;>try conv=>whnf)
 all_goals first
  |exact A1 rfl (congrArg AV.b (by unfold Q7;rw[decide_eq_false (by omega)]))
  |exact A1 rfl (congrArg AV.b (by unfold Q7;rw[B9 nJ,decide_eq_decide];omega))
theorem KT(l:List Int)(v:Int):A3 Tryz.prog 31 [.sl 1 (l.map wA),.i v] (.b (l.any fun x=>decide (x=v))):=by
 refine B5 Tryz.func31 18 fun nL E h0=>?_
 have nM:l.length≤9223372036854775807:=by
  have:=(nL (.sl 1 (l.map wA)) (by simp)).sl
  simpa using this
 clear nL
 repeat'((first|refine S2 ?_|(refine T6 ?_ ?_<;>intro h<;>try exact V1 h)|intro el nJ nK|intro el nJ|exact T4|refine T5 ?_ ?_|intro ex)<;>try conv=>whnf)
 refine B0 (ι:=Nat) (fun k=>⟨[(0,.sl 1 (l.map wA)),(1,.i v),(5,.i k)],0,[]⟩) (fun k=>P6 (fun x=>decide (x=v)) l k) (fun k=>l.length-k) 0 (P6.zero _ _)
  (A6 h0) (fun k hI=>?_)
 have nU:=hI.1
 repeat'((first|(refine A9 ?_ ?_;kernel_rfl) |refine S2 ?_|(refine T6 ?_ ?_<;>intro h<;>try exact V1 h)|intro el nJ nK|intro el nJ|exact T4|refine T5 ?_ ?_|intro ex)<;>try conv=>whnf)
 all_goals first
  |exact A1 rfl (congrArg AV.b (hI.hit nJ (by rw[decide_eq_true_iff];assumption)))
  |exact A1 rfl (congrArg AV.b (hI.done (by assumption)))
  |exact⟨k+1,hI.step nJ (by rw[decide_eq_false_iff_not];assumption),by omega,A6 h0⟩
theorem bp(l:List Int)(k:Nat)(v:Int):A3 Tryz.prog 31 [.sl 1 ((l.map wA).take k),.i v] (.b ((l.take k).any fun x=>decide (x=v))):=by
 have h:=KT (l.take k) v
 rw[List.map_take]at h
 exact h
theorem KU{s:A4}{p:Pk}(h:N5 s p=0):0≤p.col∧p.col<s.cols.length:=by
 unfold N5 CV E6 at h
 by_cases hc:p.col<1∨(s.cols.length:Int)≤p.col
 ·rw[if_pos hc]at h
  split at h
  ·rw[if_pos (show (-1:Int)<0 by omega)]at h
   omega
  ·exact absurd h (by assumption)
 ·omega
theorem Ok(s:A4)(l:List Pk):A3 Tryz.prog 169 [sA s,.sl 2 (l.map A8)] (.i (Q4 s l)):=by
 have hp:=fun d=>Oa s d
 have hi:=fun c=>Ir s c 2
 unfold Q4
 refine B5 Tryz.func169 55 fun nL E h0=>?_
 have nM:l.length≤9223372036854775807:=by
  have:=(nL (.sl 2 (l.map A8)) (by simp)).sl
  simpa using this
 clear nL
 repeat'((first|refine S2 ?_|(refine T6 ?_ ?_<;>intro h<;>try exact V1 h)|intro el nJ nK|intro el nJ|exact T4|refine T5 ?_ ?_|intro ex)<;>try conv=>whnf)
 all_goals first
  |(rw[if_pos (by omega)];exact A1 rfl rfl)
  |skip
 rw[if_neg (by omega)]
 refine B0 (ι:=Nat) (fun k=>⟨[(1,.sl 2 (l.map A8)),(2,.ref 0 0),(5,.i k)],1,[(0,some (.box (sL s)))]⟩) (fun k=>F2 (W5 s l) l k) (fun k=>l.length-k) 0 (F2.zero _ _)
  (A6 h0) (fun k hI=>?_)
 have nU:=hI.1
 by_cases nN:k<l.length
 ·obtain⟨d,hd⟩:∃d,l[k]?=some d:=⟨_,List.getElem?_eq_getElem nN⟩
  have h1:=hp d
  have h2:=hi d.col
  have nf:∀e:Int,W5 s l k d=e→¬e=0→e=F3 (W5 s l) 0 l:=fun e h3 h4=>by rw[←h3];exact hI.hit hd (by rw[h3];exact h4)
  have pu:W5 s l k d=0→F2 (W5 s l) l (k+1):=fun h=>hI.step hd h
  unfold W5 at nf pu
  by_cases qM:N5 s d=0
  ·obtain⟨rL,pn⟩:=KU qM
   rw[qM]at h1
   by_cases nX:(B6 s d.col).kind=2
   ·rw[show Q7 s d.col 2=true by unfold Q7;rw[decide_eq_true_iff];exact⟨rL,pn,nX⟩]at h2
    repeat'((first|(refine A2 (x:=d) hd (by omega) ?_)|refine A0 h1 ?_|refine A0 h2 ?_|(refine A9 ?_ ?_;kernel_rfl) |refine S2 ?_|(refine T6 ?_ ?_<;>intro h<;>try exact V1 h)|intro el nJ nK|intro el nJ|exact T4|refine T5 ?_ ?_|intro ex)<;>try conv=>whnf)
    all_goals first
     |(exfalso;omega)
     |skip
    refine B0 (ι:=Nat) (fun j=>⟨[(1,.sl 2 (l.map A8)),(2,.ref 0 0),(5,.i k),(7,.i j)],1,[(0,some (.box (sL s)))]⟩) (fun j=>j≤k∧P6 (fun x=>decide (x.col=d.col)) (l.take k) j) (fun j=>k-j) 0 ⟨Nat.zero_le _,P6.zero _ _⟩
     (A6 h0) (fun j hJ=>?_)
    obtain⟨hj,hJ⟩:=hJ
    have xp:(l.take k).length=k:=by rw[List.length_take];omega
    repeat'((first|(refine A2 (x:=d) hd (by omega) ?_)|(refine A9 ?_ ?_;kernel_rfl) |refine S2 ?_|(refine T6 ?_ ?_<;>intro h<;>try exact V1 h)|intro el nJ nK|intro el nJ|exact T4|refine T5 ?_ ?_|intro ex)<;>try conv=>whnf)
    all_goals first
     |exact A1 rfl (congrArg AV.i (nf 10 (by rw[if_neg (by omega),if_neg (by omega),if_pos (hJ.hit (x:=el) (by rw[List.getElem?_take,if_pos (by omega)];exact nJ) (decide_eq_true (by assumption))).symm]) (by omega)))
     |exact⟨j+1,⟨by omega,hJ.step (x:=el) (by rw[List.getElem?_take,if_pos (by omega)];exact nJ) (decide_eq_false (by assumption))⟩,by omega,A6 h0⟩
     |exact⟨k+1,pu (by rw[if_neg (by omega),if_neg (by omega),if_neg (by rw[←hJ.done (by rw[xp];assumption)];exact Bool.false_ne_true)]),by omega,A6 h0⟩
   ·rw[show Q7 s d.col 2=false by unfold Q7;rw[decide_eq_false_iff_not];omega]at h2
    repeat'((first|(refine A2 (x:=d) hd (by omega) ?_)|refine A0 h1 ?_|refine A0 h2 ?_|(refine A9 ?_ ?_;kernel_rfl) |refine S2 ?_|(refine T6 ?_ ?_<;>intro h<;>try exact V1 h)|intro el nJ nK|intro el nJ|exact T4|refine T5 ?_ ?_|intro ex)<;>try conv=>whnf)
    all_goals first
     |(exfalso;omega)
     |exact A1 rfl (congrArg AV.i (nf 7 (by rw[if_neg (by omega),if_pos (by omega)]) (by omega)))
  ·repeat'((first|(refine A2 (x:=d) hd (by omega) ?_)|refine A0 h1 ?_|refine A0 h2 ?_|(refine A9 ?_ ?_;kernel_rfl) |refine S2 ?_|(refine T6 ?_ ?_<;>intro h<;>try exact V1 h)|intro el nJ nK|intro el nJ|exact T4|refine T5 ?_ ?_|intro ex)<;>try conv=>whnf)
   all_goals first
    |(exfalso;omega)
    |exact A1 rfl (congrArg AV.i (nf (N5 s d) (by rw[if_pos (by omega)]) qM))
 ·repeat'((first|refine S2 ?_|(refine T6 ?_ ?_<;>intro h<;>try exact V1 h)|intro el nJ nK|intro el nJ|exact T4|refine T5 ?_ ?_|intro ex)<;>try conv=>whnf)
  all_goals first
   |(exfalso;omega)
   |exact A1 rfl (congrArg AV.i (hI.done (by omega)).symm)
theorem Ly(s:A4)(m:Int)(l:List Int):A3 Tryz.prog 170 [sA s,.i m,.sl 1 (l.map wA)] (.i (X3 s m l)):=by
 have hi:=fun c=>Ir s c 3
 unfold X3
 refine B5 Tryz.func170 45 fun nL E h0=>?_
 have nM:l.length≤9223372036854775807:=by
  have:=(nL (.sl 1 (l.map wA)) (by simp)).sl
  simpa using this
 clear nL
 repeat'((first|refine S2 ?_|(refine T6 ?_ ?_<;>intro h<;>try exact V1 h)|intro el nJ nK|intro el nJ|exact T4|refine T5 ?_ ?_|intro ex)<;>try conv=>whnf)
 all_goals first
  |(rw[if_pos (by omega)];exact A1 rfl rfl)
  |skip
 rw[if_neg (by omega)]
 refine B0 (ι:=Nat) (fun k=>⟨[(1,.i m),(2,.sl 1 (l.map wA)),(3,.ref 0 0),(7,.i k)],1,[(0,some (.box (sL s)))]⟩) (fun k=>F2 (Y0 s m l) l k) (fun k=>l.length-k) 0 (F2.zero _ _)
  (A6 h0) (fun k hI=>?_)
 have nU:=hI.1
 by_cases nN:k<l.length
 ·obtain⟨c,hc⟩:∃c,l[k]?=some c:=⟨_,List.getElem?_eq_getElem nN⟩
  have h1:=hi c
  have h2:=bp l k c
  have nf:∀e:Int,Y0 s m l k c=e→¬e=0→e=F3 (Y0 s m l) 0 l:=fun e h3 h4=>by rw[←h3];exact hI.hit hc (by rw[h3];exact h4)
  have pu:Y0 s m l k c=0→F2 (Y0 s m l) l (k+1):=fun h=>hI.step hc h
  unfold Y0 at nf pu
  generalize Q7 s c 3=b at *
  generalize ((l.take k).any fun x=>decide (x=c))=u at *
  repeat'((first|(refine A2 (x:=c) hc (by omega) ?_)|refine A0 h1 ?_|refine A0 h2 ?_|(refine A9 ?_ ?_;kernel_rfl) |refine S2 ?_|(refine T6 ?_ ?_<;>intro h<;>try exact V1 h)|intro el nJ nK|intro el nJ|exact T4|refine T5 ?_ ?_|intro ex)<;>try conv=>whnf)
  all_goals first
   |exact A1 rfl (congrArg AV.i (nf 7 (by rw[if_pos (by assumption)]) (by omega)))
   |exact A1 rfl (congrArg AV.i (nf 10 (by rw[if_neg (by simp[*]),if_pos (.inl (by assumption))]) (by omega)))
   |exact A1 rfl (congrArg AV.i (nf 10 (by rw[if_neg (by simp[*]),if_pos (.inr (by assumption))]) (by omega)))
   |exact⟨k+1,pu (by rw[if_neg (by simp[*]),if_neg (by simp[*])]),by omega,A6 h0⟩
   |(exfalso;omega)
 ·repeat'((first|refine S2 ?_|(refine T6 ?_ ?_<;>intro h<;>try exact V1 h)|intro el nJ nK|intro el nJ|exact T4|refine T5 ?_ ?_|intro ex)<;>try conv=>whnf)
  all_goals first
   |(exfalso;omega)
   |exact A1 rfl (congrArg AV.i (hI.done (by omega)).symm)
theorem Ol(c:B7):A3 Tryz.prog 171 [D5 c,.agg [.i 0,.i 0,.i 0,.i 0,.i 0,.v (.slice none 0 0)]] (.b (decide (R1 c))):=by
 rw[F8]
 refine B5 Tryz.func171 67 fun nL E h0=>?_
 have nM:c.kids.length≤9223372036854775807:=by
  have:=((nL _ (List.mem_cons_self ..)).agg (.sl 6 (c.kids.map K0)) (by simp)).sl
  simpa using this
 clear nL
 repeat'((first|(refine A9 ?_ ?_;kernel_rfl) |refine S2 ?_|(refine T6 ?_ ?_<;>intro h<;>try exact V1 h)|intro el nJ nK|intro el nJ|exact T4|refine T5 ?_ ?_|intro ex)<;>try conv=>whnf)
 all_goals first
  |exact A1 rfl (congrArg AV.b (decide_eq_false (by omega)).symm)
  |skip
 refine B0 (ι:=Nat) (fun k=>⟨[(2,.ref 0 0),(5,.i k)],1,[(0,some (.box (M9 c)))]⟩) (fun k=>k=0) (fun k=>1-k) 0 rfl
  (A6 h0) (fun k hk=>?_)
 subst hk
 repeat'((first|refine S2 ?_|(refine T6 ?_ ?_<;>intro h<;>try exact V1 h)|intro el nJ nK|intro el nJ|exact T4|refine T5 ?_ ?_|intro ex)<;>try conv=>whnf)
 all_goals first
  |exact A1 rfl (congrArg AV.b (decide_eq_true (by omega)).symm)
  |(exfalso;omega)
theorem Lz(c:B7):A3 Tryz.prog 217 [D5 c] (.b (decide (R1 c))):=by
 have h:=Ol c
 refine B5 Tryz.func217 6 fun nL E h0=>?_
 clear nL
 repeat'((first|refine A0 h ?_ |refine S2 ?_|(refine T6 ?_ ?_<;>intro h<;>try exact V1 h)|intro el nJ nK|intro el nJ|exact T4|refine T5 ?_ ?_|intro ex)<;>try conv=>whnf)
 all_goals first
  |exact A1 rfl rfl
abbrev Mp(e:F6):Prop:=(1≤e.op∧e.op≤14)∧(FY e.op∨e.num=0)∧(Dj e.op∨e.name.length=0)∧(o0 e.op∨e.col=0)∧(Dk e.op∨e.cols.length=0)∧(Dl e.op∨e.dims.length=0)∧(v7 e.op∨R1 e.cnd)∧(v8 e.op∨R1 e.evt)
abbrev Ug(e:F6):List AV:=[.i e.op,.i 0,.str [],.i 0,.v (.slice none 0 0),.v (.slice none 0 0),.i 0,.i 0,.i 0,.i 0,.i 0,.v (.slice none 0 0),.i 0,.i 0,.i 0,.i 0,.i 0,.v (.slice none 0 0),.v (.slice none 0 0)]
theorem Hk(l:List UInt8):(({ data:=#[] }:ByteArray).data.toList=l)↔l.length=0:=by
 constructor
 ·intro h;rw[←h];rfl
 ·intro h;rw[List.eq_nil_of_length_eq_zero h]
theorem Mq(l:List UInt8):((#[]:Array UInt8).toList=l)↔l.length=0:=Hk l
theorem Mr(l:List UInt8):(([]:List UInt8)=l)↔l.length=0:=Hk l
theorem bq(e:F6):A3 Tryz.prog 172 [AQ e] (.b (decide (Mp e))):=by
 have h1:=Lz e.cnd
 have h2:=Lz e.evt
 rw[DI]
 refine B5 Tryz.func172 117 fun nL E h0=>?_
 clear nL
 repeat'((first|refine A0 h1 ?_|refine A0 h2 ?_|(refine E7 20 ?_;refine F5 (id:=20) ⟨[(1,.ref 0 0),(3,.ref 1 0),(4,.b true),(5,.b false)],2,[(0,some (.box (Bp e))),(1,some (.box (((Ug e).set 3 (.i e.col)).set 5 (.sl 2 (e.dims.map A8)))))]⟩ ?_ ?_)|(refine E7 22 ?_;refine F5 (id:=22) ⟨[(1,.ref 0 0),(3,.ref 1 0),(4,.b true),(5,.b false)],2,[(0,some (.box (Bp e))),(1,some (.box (((Ug e).set 3 (.i e.col)).set 4 (.sl 1 (e.cols.map wA)))))]⟩ ?_ ?_)|(refine E7 26 ?_;refine F5 (id:=26) ⟨[(1,.ref 0 0),(3,.ref 1 0),(4,.b true),(5,.b false)],2,[(0,some (.box (Bp e))),(1,some (.box (((Ug e).set 3 (.i e.col)).set 1 (.i e.num))))]⟩ ?_ ?_) |refine S2 ?_|(refine T6 ?_ ?_<;>intro h<;>try exact V1 h)|intro el nJ nK|intro el nJ|exact T4|refine T5 ?_ ?_|intro ex)<;>try conv=>whnf)
 all_goals first
  |exact A6 h0
  |skip
 all_goals first
  |exact A1 rfl (congrArg AV.b (decide_eq_true (by (clear h1 h2;simp only[FY,Dj,o0,Dk,Dl,v7,v8,P4,Mp,R1,Hk,Mq,Mr,←List.length_eq_zero_iff]at *;omega))).symm)
  |exact A1 rfl (congrArg AV.b (decide_eq_false (by (clear h1 h2;simp only[FY,Dj,o0,Dk,Dl,v7,v8,P4,Mp,R1,Hk,Mq,Mr,←List.length_eq_zero_iff]at *;omega))).symm)
  |exact A1 rfl (congrArg AV.b (by rw[decide_eq_decide];(clear h1 h2;simp only[FY,Dj,o0,Dk,Dl,v7,v8,P4,Mp,R1,Hk,Mq,Mr,←List.length_eq_zero_iff]at *;omega)))
abbrev Pv(s:A4)(k:F6):Bool:=decide (10≤k.op) || !W6 s k
theorem jI{s:A4}(hr:C3 s=0)(k:F6):Pv s k=EJ s k:=by
 have hx:W6 s k=Bq s k:=by unfold W6;rw[decide_eq_true hr,Bool.true_and]
 unfold Pv EJ
 rw[hx]
 cases h:Bq s k with
 |false=>simp
 |true =>
  rw[EK]at h
  simp only[Bool.and_eq_true,KN]at h
  have:=of_decide_eq_true h.1.1.1.1.1.1
  rw[Bool.not_true,Bool.or_false,Bool.or_false]
  by_cases h2:10≤k.op
  ·rw[decide_eq_true h2,decide_eq_false (by omega)];rfl
  ·rw[decide_eq_false h2,decide_eq_true (by omega)];rfl
theorem lS{s:A4}{e:F6}(h:¬(C3 s=0∧Mp e)):false=W6 s e:=by
 unfold W6
 rw[EK]
 unfold KN
 rw[eq_comm]
 by_cases hr:C3 s=0
 ·have:¬((1≤e.op∧e.op≤14)∧GG e):=by
   intro hh
   exact h ⟨hr,hh.1,hh.2.1,hh.2.2.1,hh.2.2.2.1,hh.2.2.2.2.1,hh.2.2.2.2.2.1,hh.2.2.2.2.2.2.1,hh.2.2.2.2.2.2.2.1⟩
  by_cases h1:1≤e.op∧e.op≤14
  ·rw[decide_eq_false (p:=GG e) (fun h2=>this ⟨h1,h2⟩)];simp
  ·rw[decide_eq_false h1];simp
 ·rw[decide_eq_false hr];rfl
theorem fC{s:A4}{e:F6}(h:(P4 e.op∧e.kids.length≠2)∨(¬P4 e.op∧e.kids.length≠0)):false=W6 s e:=by
 unfold W6
 rw[EK]
 unfold KN
 rcases h with ⟨h1,h2⟩|⟨h1,h2⟩
 ·rw[decide_eq_false (p:=¬P4 e.op) (fun hn=>hn h1),decide_eq_false h2];simp
 ·rw[decide_eq_false (p:=GG e) (fun hu=>by have:=hu.2.2.2.2.2.2.2;exact this.elim h1 h2)];simp
theorem jJ{s:A4}{e:F6}(h:e.kids.any (EJ s)=true):false=W6 s e:=by
 unfold W6
 rw[EK,h];simp
theorem lT{s:A4}{e:F6}(hr:C3 s=0)(h1:Mp e)(h2:(P4 e.op∧e.kids.length=2)∨(¬P4 e.op∧e.kids.length=0))(h3:e.kids.any (EJ s)=false):W6 s e=(EI s e && (decide (¬v7 e.op) || decide (J6 s e.cnd=0)) && (decide (¬v8 e.op) || decide (J6 s e.evt=0))):=by
 have hu:GG e:=⟨h1.2.1,h1.2.2.1,h1.2.2.2.1,h1.2.2.2.2.1,h1.2.2.2.2.2.1,h1.2.2.2.2.2.2.1,h1.2.2.2.2.2.2.2,by rcases h2 with h|h;exact .inl h.1;exact .inr h.2⟩
 have hk:(decide (¬P4 e.op) || decide (e.kids.length=2))=true:=by
  rcases h2 with ⟨h,h'⟩|⟨h,_⟩
  ·rw[decide_eq_true h'];simp
  ·rw[decide_eq_true h];rfl
 unfold W6
 rw[EK,h3]
 unfold KN
 rw[decide_eq_true hr,decide_eq_true h1.1,decide_eq_true hu,hk]
 simp
theorem WF(s:A4)(e:F6):A3 Tryz.prog 116 [sA s,AQ e] (.b (W6 s e)):=by
 refine Hj (p:=fun e=>A3 Tryz.prog 116 [sA s,AQ e] (.b (W6 s e))) (fun e ih=>?_) e
 have h1:=Q6 s
 have h2:=bq e
 have h3:=Ir s e.col 3
 have h4:=s9 e.name
 have h5:=Ok s e.dims
 have h6:=Ly s e.col e.cols
 have h7:=Y4 s e.evt
 have h8:=Y4 s e.cnd
 have nf:=lS (s:=s) (e:=e)
 have uS:=fC (s:=s) (e:=e)
 have hba:=jJ (s:=s) (e:=e)
 have uT:=lT (s:=s) (e:=e)
 obtain⟨c,ye⟩:∃c,Q7 s e.col 3=true→0≤e.col∧s.cols[e.col.toNat]?=some c:=by
  by_cases hB:Q7 s e.col 3=true
  ·obtain⟨ox,ou,_⟩:0≤e.col∧e.col<s.cols.length∧(B6 s e.col).kind=3:=by simpa [Q7]using hB
   exact⟨s.cols[e.col.toNat]'(by omega),fun _=>⟨ox,List.getElem?_eq_getElem (by omega)⟩⟩
  ·exact⟨⟨[],0,0,0,0,[],false⟩,fun h=>absurd h hB⟩
 have nY:Q7 s e.col 3=true→B6 s e.col=c:=fun h=>B9 (ye h).2
 have h9:=KT c.widths e.num
 have pc:∀hr:C3 s=0,Pv s=EJ s:=fun hr=>funext fun k=>jI hr k
 unfold EI at uT
 rw[DI]at h2 ⊢
 generalize Q7 s e.col 3=b at *
 generalize D6 e.name=b1 at *
 generalize Q4 s e.dims=n1 at *
 generalize X3 s e.col e.cols=n2 at *
 generalize J6 s e.cnd=n3 at *
 generalize J6 s e.evt=n4 at *
 refine B5 Tryz.func116 152 fun nL E h0=>?_
 have nM:e.kids.length≤9223372036854775807:=by
  have:=((nL _ (List.mem_cons_of_mem _ (List.mem_cons_self ..))).agg (.sl 19 (e.kids.map Cr)) (by simp)).sl
  simpa using this
 clear nL
 repeat'((first|refine A0 h1 ?_|refine A0 h2 ?_ |refine S2 ?_|(refine T6 ?_ ?_<;>intro h<;>try exact V1 h)|intro el nJ nK|intro el nJ|exact T4|refine T5 ?_ ?_|intro ex)<;>try conv=>whnf)
 all_goals first
  |exact A1 rfl (congrArg AV.b (nf (fun hh=>by first|exact absurd hh.1 (by assumption)|exact absurd hh.2 (by assumption))))
  |exact A1 rfl (congrArg AV.b (uS (by simp only[P4];omega)))
  |skip
 all_goals
  obtain⟨hr,hu,oS,qt⟩:C3 s=0∧Mp e∧((P4 e.op∧e.kids.length=2)∨(¬P4 e.op∧e.kids.length=0))∧Pv s=EJ s:=⟨Decidable.of_not_not (by assumption),by assumption,by simp only[P4];omega,pc (Decidable.of_not_not (by assumption))⟩
  replace uT:=uT hr hu oS
  rw[←qt]at hba uT
  obtain⟨kn,re⟩:∃kn:Int,(P4 e.op∧kn=2)∨(¬P4 e.op∧kn=0):=by
   rcases oS with ⟨h,_⟩|⟨h,_⟩
   ·exact⟨2,.inl ⟨h,rfl⟩⟩
   ·exact⟨0,.inr ⟨h,rfl⟩⟩
  simp only[P4]at re
  refine B0 (ι:=Nat) (fun k=>⟨[(2,.ref 0 0),(3,.ref 1 0),(5,.i kn),(6,.i k)],2,[(0,some (.box (sL s))),(1,some (.box (Bp e)))]⟩) (fun k=>P6 (Pv s) e.kids k) (fun k=>e.kids.length-k) 0 (P6.zero _ _)
   (A7 h0 rfl ⟨rfl,rfl,(congrArg (fun z:Int=>some (AV.i z)) (by omega)),rfl,trivial⟩ ⟨rfl,rfl,trivial⟩ rfl rfl rfl) (fun k hI=>?_)
  clear nf uS h1 h2
  have nU:=hI.1
  by_cases nN:k<e.kids.length
  ·obtain⟨x,hx⟩:∃x,e.kids[k]?=some x:=⟨_,List.getElem?_eq_getElem nN⟩
   have hq:=ih x (List.mem_of_getElem? hx)
   have oE:=fun h=>hI.step hx h
   have hht:=fun h=>hI.hit hx h
   unfold Pv at oE hht
   generalize W6 s x=bx at *
   repeat'((first|(refine A2 (x:=x) hx (by omega) ?_)|refine A0 hq ?_|(refine A9 ?_ ?_;kernel_rfl) |refine S2 ?_|(refine T6 ?_ ?_<;>intro h<;>try exact V1 h)|intro el nJ nK|intro el nJ|exact T4|refine T5 ?_ ?_|intro ex)<;>try conv=>whnf)
   all_goals first
    |(exfalso;omega)
    |exact A1 rfl (congrArg AV.b (hba (hht (by simp[*])).symm))
    |exact⟨k+1,oE (by simp[*];try omega),by omega,A6 h0⟩
  ·have xi:=uT (hI.done (by omega)).symm
   clear ih hba uT
   rw[xi]
   repeat'((first|(refine A2 (x:=c) (ye (by assumption)).2 (by have:=(ye (by assumption)).1;omega) ?_)|refine A0 h3 ?_|refine A0 h4 ?_|refine A0 h5 ?_|refine A0 h6 ?_|refine A0 h7 ?_|refine A0 h8 ?_|refine A0 h9 ?_|(refine A9 ?_ ?_;kernel_rfl) |refine S2 ?_|(refine T6 ?_ ?_<;>intro h<;>try exact V1 h)|intro el nJ nK|intro el nJ|exact T4|refine T5 ?_ ?_|intro ex)<;>try conv=>whnf)
   all_goals clear xi h3 h4 h5 h6 h7 h8 h9 hI qt nN nU pc
   all_goals try (have ow:=nY (by assumption))
   all_goals clear nY ye
   all_goals first
    |(refine A1 rfl (congrArg AV.b ?_);(first|(simp only[v7,v8,or_self,and_self,Int.reduceLE,false_or,Bool.or_self,Bool.and_self, *,if_true,if_false,Bool.true_eq_false,Bool.false_eq_true,or_true,or_false,true_or,false_or,and_true,true_and,and_false,false_and,not_true_eq_false,not_false_eq_true,ne_eq,reduceIte,Int.reduceEq,Int.reduceLT,Int.reduceLE,Int.reduceNeg,decide_true,decide_false,Bool.not_true,Bool.not_false,Bool.and_true,Bool.true_and,Bool.and_false,Bool.false_and,Bool.or_true,Bool.true_or,Bool.or_false,Bool.false_or,Option.some.injEq];done)|(simp only[v7,v8,or_self,and_self,Int.reduceLE,false_or,Bool.or_self,Bool.and_self, *,if_true,if_false,Bool.true_eq_false,Bool.false_eq_true,not_true_eq_false,not_false_eq_true,ne_eq,reduceIte,Int.reduceEq];first|rfl|(repeat' split)<;>first|rfl|omega|(exfalso;omega)|contradiction)))
    |(refine A1 rfl (congrArg AV.b ?_);rw[decide_eq_false (p:=0≤(B6 s e.col).low) (by rw[ow];omega)];simp[*];done)
    |(refine A1 rfl (congrArg AV.b ?_);have ho:=hu.1;rw[if_neg (by omega),if_neg (by omega),if_pos (by omega),decide_eq_false (p:=¬v7 e.op) (by simp only[v7];omega),decide_eq_true (p:=¬v8 e.op) (by simp only[v8];omega)];simp[*];done)
    |(refine A1 rfl (congrArg AV.b ?_);simp_all;done)
    |(refine A1 rfl (congrArg AV.b ?_);simp_all [v7,v8];done)
    |(exfalso;omega)
end Go.Proofs.YtiphlhoclaogjaaGreatDoor

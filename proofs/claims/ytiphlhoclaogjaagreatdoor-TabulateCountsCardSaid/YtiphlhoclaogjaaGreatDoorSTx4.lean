/- Chapters 04 and 13: valid sources and owners, the reference. -/
import Derived.Test.YtiphlhoclaogjaaGreatDoorSTx2
set_option linter.unusedVariables false
set_option linter.unnecessarySimpa false
set_option linter.unusedSimpArgs false
set_option maxHeartbeats 64000000
namespace Go.Proofs.YtiphlhoclaogjaaGreatDoor
open Go Go.Av
attribute [local irreducible] C7 B2 D3 C9 DQ D0 C8 St.le A3 B9
set_option maxRecDepth 100000
def LQ(s:A4)(rows:List (List Int))(k:Nat)(r:List Int):Int:=if ¬Aj s r=0 then 1 else if 0<k∧r.headD 0≤(rows.getD (k-1) []).headD 0 then 1 else 0
def FX(s:A4)(rows:List (List Int)):Bool:=decide (C3 s=0∧rows.length≤200∧F0 (LQ s rows) 0 rows=0)
theorem iK{s:A4}{rows:List (List Int)}{k:Nat}(h:E9 (LQ s rows) rows k){i:Nat}{q:List Int}(hi:i<k)(hq:rows[i]?=some q):Aj s q=0:=by
 have:=h.2.2 i q hi hq
 unfold LQ at this
 by_cases hr:Aj s q=0
 ·exact hr
 ·rw[if_pos hr]at this;cases this
theorem Kd{s:A4}{r:List Int}(h:Aj s r=0):∃z,r[0]?=some z:=by
 obtain⟨h1,h2⟩:=Hd h
 have h3:=(D5 h1).2.2.2.2
 cases hc:s.cols with
 |nil=>rw[hc]at h3;simp at h3
 |cons a t =>
  rw[hc]at h2
  exact⟨_,List.getElem?_eq_getElem (by simp at h2;omega)⟩
theorem LR(s:A4)(rows:List (List Int)):A3 Tryz.prog 92 [.agg (O6 s rows)] (.b (FX s rows)):=by
 have h1:=T3 s
 unfold FX
 by_cases e1:¬(C3 s=0∧rows.length≤200)
 ·rw[decide_eq_false (fun h=>e1 ⟨h.1,h.2.1⟩)]
  generalize C3 s=e at *
  refine B6 Tryz.func92 118 fun lW E h0=>?_
  have lX:rows.length≤9223372036854775807:=by
   have:=((lW (.agg (O6 s rows)) (by simp)).agg (.sl 1 (rows.map F8)) (by simp[O6])).sl
   simpa using this
  clear lW
  repeat'((first|refine A1 h1 ?_ |refine S2 ?_|(refine T6 ?_ ?_<;>intro h<;>try exact V1 h)|intro el lU lV|intro el lU|exact T4|refine T5 ?_ ?_|intro ex)<;>try conv=>whnf)
  all_goals first
   |(exfalso;omega)
   |exact A0 rfl rfl
 obtain⟨e1,e2⟩:=Decidable.of_not_not e1
 rw[e1]at h1
 have nE:=fun k=>@E9.step _ (LQ s rows) rows k
 have pZ:=fun k=>@E9.hit _ (LQ s rows) rows k
 have pS:=fun k=>@E9.done _ (LQ s rows) rows k
 have pc:=fun k=>@iK s rows k
 have hz:=E9.zero (LQ s rows) rows
 have hex:∀k r,LQ s rows k r=if ¬Aj s r=0 then 1 else if 0<k∧r.headD 0≤(rows.getD (k-1) []).headD 0 then 1 else 0:=fun _ _=>rfl
 have h2:=fun r=>QQ s r
 generalize LQ s rows=FE at *
 have ln:F0 FE 0 rows=1→decide (C3 s=0∧rows.length≤200∧F0 FE 0 rows=0)=false:=fun h=>decide_eq_false (fun hh=>by rw[h]at hh;exact absurd hh.2.2 (by decide))
 have oA:F0 FE 0 rows=0→decide (C3 s=0∧rows.length≤200∧F0 FE 0 rows=0)=true:=fun h=>decide_eq_true ⟨e1,e2,h⟩
 generalize decide (C3 s=0∧rows.length≤200∧F0 FE 0 rows=0)=D at *
 refine B6 Tryz.func92 118 fun lW E h0=>?_
 clear lW
 repeat'((first|refine A1 h1 ?_ |refine S2 ?_|(refine T6 ?_ ?_<;>intro h<;>try exact V1 h)|intro el lU lV|intro el lU|exact T4|refine T5 ?_ ?_|intro ex)<;>try conv=>whnf)
 all_goals first
  |(exfalso;omega)
  |skip
 refine B0 (ι:=Nat) (fun k=>⟨[(1,.ref 0 0),(3,.i k)],1,[(0,some (.box (O6 s rows)))]⟩)
  (fun k=>E9 FE rows k) (fun k=>rows.length-k) 0 hz (A6 h0) (fun k hK=>?_)
 by_cases lk:k<rows.length
 ·obtain⟨r,hr⟩:∃r,rows[k]?=some r:=⟨_,List.getElem?_eq_getElem lk⟩
  have nP:rows[((k:Nat):Int).toNat]?=some r:=hr
  have hx:=hex k r
  have hf:=h2 r
  by_cases pK:¬Aj s r=0
  ·rw[if_pos pK]at hx
   have hh:=pZ k hK hr (by rw[hx];decide)
   rw[hx]at hh
   have hD:=ln hh.symm
   generalize Aj s r=e at *
   repeat'((first|(refine A2 (x:=r) nP (by omega) ?_)|refine A1 hf ?_|(refine B3 ?_ ?_;kernel_rfl) |refine S2 ?_|(refine T6 ?_ ?_<;>intro h<;>try exact V1 h)|intro el lU lV|intro el lU|exact T4|refine T5 ?_ ?_|intro ex)<;>try conv=>whnf)
   all_goals first
    |(exfalso;omega)
    |exact A0 rfl (congrArg AV.b hD.symm)
  have pK:=Decidable.of_not_not pK
  obtain⟨r0,mw⟩:=Kd pK
  rw[pK,if_neg (by decide),Q5 mw]at hx
  rw[pK]at hf
  by_cases pk:k=0
  ·subst pk
   rw[if_neg (by omega)]at hx
   have lh:=nE 0 hK hr hx
   repeat'((first|(refine A2 (x:=r) nP (by omega) ?_)|(refine A2 (x:=r0) mw (by omega) ?_)|refine A1 hf ?_|(refine B3 ?_ ?_;kernel_rfl) |refine S2 ?_|(refine T6 ?_ ?_<;>intro h<;>try exact V1 h)|intro el lU lV|intro el lU|exact T4|refine T5 ?_ ?_|intro ex)<;>try conv=>whnf)
   all_goals first
    |(exfalso;omega)
    |exact⟨0+1,lh,by omega,A6 h0⟩
  ·obtain⟨q,hq⟩:∃q,rows[k-1]?=some q:=⟨_,List.getElem?_eq_getElem (by omega)⟩
   obtain⟨q0,qt⟩:=Kd (pc k hK (i:=k-1) (by omega) hq)
   rw[E4 hq,Q5 qt]at hx
   have nC:rows[((k:Int)-1).toNat]?=some q:=by rw[show ((k:Int)-1).toNat=k-1 by omega];exact hq
   by_cases mX:r0≤q0
   ·rw[if_pos ⟨by omega,mX⟩]at hx
    have hh:=pZ k hK hr (by rw[hx];decide)
    rw[hx]at hh
    have hD:=ln hh.symm
    repeat'((first|(refine A2 (x:=q) nC (by omega) ?_)|(refine A2 (x:=q0) qt (by omega) ?_)|(refine A2 (x:=r) nP (by omega) ?_)|(refine A2 (x:=r0) mw (by omega) ?_)|refine A1 hf ?_|(refine B3 ?_ ?_;kernel_rfl) |refine S2 ?_|(refine T6 ?_ ?_<;>intro h<;>try exact V1 h)|intro el lU lV|intro el lU|exact T4|refine T5 ?_ ?_|intro ex)<;>try conv=>whnf)
    all_goals first
     |(exfalso;omega)
     |exact A0 rfl (congrArg AV.b hD.symm)
   ·rw[if_neg (fun h=>mX h.2)]at hx
    have lh:=nE k hK hr hx
    repeat'((first|(refine A2 (x:=q) nC (by omega) ?_)|(refine A2 (x:=q0) qt (by omega) ?_)|(refine A2 (x:=r) nP (by omega) ?_)|(refine A2 (x:=r0) mw (by omega) ?_)|refine A1 hf ?_|(refine B3 ?_ ?_;kernel_rfl) |refine S2 ?_|(refine T6 ?_ ?_<;>intro h<;>try exact V1 h)|intro el lU lV|intro el lU|exact T4|refine T5 ?_ ?_|intro ex)<;>try conv=>whnf)
    all_goals first
     |(exfalso;omega)
     |exact⟨k+1,lh,by omega,A6 h0⟩
 ·have hD:=oA (pS k hK (by omega))
  rw[hD]
  repeat'((first|refine S2 ?_|(refine T6 ?_ ?_<;>intro h<;>try exact V1 h)|intro el lU lV|intro el lU|exact T4|refine T5 ?_ ?_|intro ex)<;>try conv=>whnf)
  all_goals first
   |(exfalso;omega)
   |skip
  refine B0 (ι:=Nat) (fun k=>⟨[(1,.ref 0 0),(4,.i k)],1,[(0,some (.box (O6 s rows)))]⟩)
   (fun k=>k=0) (fun k=>0) 0 rfl (A6 h0) (fun k hk=>?_)
  subst hk
  repeat'((first|refine S2 ?_|(refine T6 ?_ ?_<;>intro h<;>try exact V1 h)|intro el lU lV|intro el lU|exact T4|refine T5 ?_ ?_|intro ex)<;>try conv=>whnf)
  all_goals first
   |(exfalso;omega)
   |exact A0 rfl rfl
def Yq(s:A4)(d:o6)(r:List Int):Bool:=decide (Sx s d.coh r=1) && UQ d.part d.of d.seed (r.headD 0)
def Gc(s:A4)(d:o6)(l:List (List Int)):List Int:=(l.filter (Yq s d)).map fun r=>r.headD 0
def CS(s:A4)(rows:List (List Int))(d:o6):List Int:=if FX s rows=true∧CR s d=0 then Gc s d rows else []
theorem Ql{s:A4}{rows:List (List Int)}(h:FX s rows=true):C3 s=0∧rows.length≤200∧∀(k:Nat) r,rows[k]?=some r→Aj s r=0:=by
 unfold FX at h
 have h:=of_decide_eq_true h
 refine⟨h.1,h.2.1,fun k r hk=>?_⟩
 have:=R6 h.2.2 k r hk
 unfold LQ at this
 by_cases hr:Aj s r=0
 ·exact hr
 ·rw[if_pos hr]at this;cases this
theorem bN(s:A4)(d:o6)(l:List (List Int))(r:List Int):Gc s d (l++[r])=Gc s d l++(if Yq s d r=true then [r.headD 0]else []):=by
 unfold Gc
 rw[List.filter_append,List.map_append]
 congr 1
 simp only[List.filter_cons,List.filter_nil]
 split<;>rfl
theorem UT(s:A4)(d:o6)(l:List (List Int)):(Gc s d l).length≤l.length:=by
 unfold Gc
 rw[List.length_map]
 exact List.length_filter_le _ _
theorem UU(s:A4)(rows:List (List Int))(d:o6):A3 Tryz.prog 94 [.agg (O6 s rows),EN d] (.sl 1 ((CS s rows d).map wA)):=by
 have h1:=LR s rows
 have h2:=FV s d
 unfold CS
 by_cases hc:¬(FX s rows=true∧CR s d=0)
 ·rw[if_neg hc]
  generalize CR s d=e at *
  cases hv:FX s rows with
  |false =>
   rw[hv]at h1
   refine B6 Tryz.func94 58 fun lW E h0=>?_
   clear lW
   repeat'((first|refine A1 h1 ?_|refine A1 h2 ?_ |refine S2 ?_|(refine T6 ?_ ?_<;>intro h<;>try exact V1 h)|intro el lU lV|intro el lU|exact T4|refine T5 ?_ ?_|intro ex)<;>try conv=>whnf)
   all_goals first
    |(exfalso;omega)
    |exact u4 rfl rfl
  |true =>
   rw[hv]at h1
   have he:¬e=0:=fun h=>hc ⟨hv,h⟩
   refine B6 Tryz.func94 58 fun lW E h0=>?_
   clear lW
   repeat'((first|refine A1 h1 ?_|refine A1 h2 ?_ |refine S2 ?_|(refine T6 ?_ ?_<;>intro h<;>try exact V1 h)|intro el lU lV|intro el lU|exact T4|refine T5 ?_ ?_|intro ex)<;>try conv=>whnf)
   all_goals first
    |(exfalso;omega)
    |exact u4 rfl rfl
 have hc:=Decidable.of_not_not hc
 rw[if_pos hc]
 obtain⟨hv,he⟩:=hc
 rw[hv]at h1
 rw[he]at h2
 obtain⟨hr,mf,pK⟩:=Ql hv
 have h3:=fun r=>Yd s d.coh r
 have h4:=fun id=>dw d.part d.of d.seed id
 have mu:=bN s d
 have nB:=UT s d
 have oU:∀r,Yq s d r=(decide (Sx s d.coh r=1) && UQ d.part d.of d.seed (r.headD 0)):=fun _=>rfl
 have nZ:Gc s d []=[]:=rfl
 generalize Gc s d=FK at *
 generalize Yq s d=PP at *
 refine B6 Tryz.func94 58 fun lW E h0=>?_
 clear lW
 repeat'((first|refine A1 h1 ?_|refine A1 h2 ?_ |refine S2 ?_|(refine T6 ?_ ?_<;>intro h<;>try exact V1 h)|intro el lU lV|intro el lU|exact T4|refine T5 ?_ ?_|intro ex)<;>try conv=>whnf)
 all_goals first
  |(exfalso;omega)
  |skip
 refine B0 (ι:=Nat) (fun k=>⟨[(2,.ref 0 0),(3,.ref 1 0),(5,.row 2 0 (FK (rows.take k)).length),(6,.i k)],3,[(0,some (.box (O6 s rows))),(1,some (.box (BO d))),(2,some (.row 3 1 0 ((FK (rows.take k)).map wA)))]⟩)
  (fun k=>k≤rows.length) (fun k=>rows.length-k) 0 (Nat.zero_le _)
  (B5 (I9 (d:=5) (e:=3) (sz:=1) rfl) (A9 h0 rfl ⟨rfl,rfl,congrArg (fun z:List Int=>some (AV.row 2 0 z.length)) nZ.symm,rfl,trivial⟩ ⟨rfl,rfl,⟨0,congrArg (fun z:List Int=>C6.row 3 1 0 (z.map wA)) nZ⟩,trivial⟩ rfl rfl rfl)) (fun k hK=>?_)
 by_cases lk:k<rows.length
 ·obtain⟨r,ny⟩:∃r,rows[k]?=some r:=⟨_,List.getElem?_eq_getElem lk⟩
  have oJ:rows[((k:Nat):Int).toNat]?=some r:=ny
  obtain⟨r0,mw⟩:=Kd (pK k r ny)
  have xD:=h3 r
  have yF:=h4 r0
  have lh:=mu (rows.take k) r
  have ul:=oU r
  rw[←H6 ny,Q5 mw]at lh
  rw[Q5 mw]at ul
  have ru:=nB (rows.take k)
  rw[List.length_take]at ru
  generalize Sx s d.coh r=ev at *
  generalize UQ d.part d.of d.seed r0=b at *
  by_cases ns:ev=1
  ·rw[decide_eq_true ns,Bool.true_and]at ul
   rw[ul]at lh
   cases b
   ·rw[if_neg (by decide),List.append_nil]at lh
    repeat'((first|(refine A2 (x:=r) oJ (by omega) ?_)|(refine A2 (x:=r0) mw (by omega) ?_)|refine A1 xD ?_|refine A1 yF ?_|(refine B3 ?_ ?_;kernel_rfl) |refine S2 ?_|(refine T6 ?_ ?_<;>intro h<;>try exact V1 h)|intro el lU lV|intro el lU|exact T4|refine T5 ?_ ?_|intro ex)<;>try conv=>whnf)
    all_goals first
     |(exfalso;omega)
     |exact⟨k+1,by omega,by omega,A9 h0 rfl ⟨rfl,rfl,congrArg (fun z:List Int=>some (AV.row 2 0 z.length)) lh.symm,rfl,trivial⟩ ⟨rfl,rfl,⟨_,congrArg (fun z:List Int=>C6.row 3 1 _ (z.map wA)) lh⟩,trivial⟩ rfl rfl rfl⟩
   ·rw[if_pos rfl]at lh
    repeat'((first|(refine A2 (x:=r) oJ (by omega) ?_)|(refine A2 (x:=r0) mw (by omega) ?_)|refine A1 xD ?_|refine A1 yF ?_|(refine B3 ?_ ?_;kernel_rfl) |refine S2 ?_|(refine T6 ?_ ?_<;>intro h<;>try exact V1 h)|intro el lU lV|intro el lU|exact T4|refine T5 ?_ ?_|intro ex)<;>try conv=>whnf)
    all_goals first
     |(exfalso;omega)
     |exact⟨k+1,by omega,by omega,A9 h0 rfl ⟨rfl,rfl,congrArg (fun z:Nat=>some (AV.row 2 0 z)) (by rw[lh];simp[L9]),rfl,trivial⟩ ⟨rfl,rfl,⟨_,congrArg (C6.row 3 1 _) (by rw[lh,List.map_append];rfl)⟩,trivial⟩ rfl rfl rfl⟩
  ·rw[decide_eq_false ns,Bool.false_and]at ul
   rw[ul,if_neg (by decide),List.append_nil]at lh
   repeat'((first|(refine A2 (x:=r) oJ (by omega) ?_)|(refine A2 (x:=r0) mw (by omega) ?_)|refine A1 xD ?_|refine A1 yF ?_|(refine B3 ?_ ?_;kernel_rfl) |refine S2 ?_|(refine T6 ?_ ?_<;>intro h<;>try exact V1 h)|intro el lU lV|intro el lU|exact T4|refine T5 ?_ ?_|intro ex)<;>try conv=>whnf)
   all_goals first
    |(exfalso;omega)
    |exact⟨k+1,by omega,by omega,A9 h0 rfl ⟨rfl,rfl,congrArg (fun z:List Int=>some (AV.row 2 0 z.length)) lh.symm,rfl,trivial⟩ ⟨rfl,rfl,⟨_,congrArg (fun z:List Int=>C6.row 3 1 _ (z.map wA)) lh⟩,trivial⟩ rfl rfl rfl⟩
 ·have he:rows.take k=rows:=List.take_of_length_le (by omega)
  rw[he]
  repeat'((first|refine S2 ?_|(refine T6 ?_ ?_<;>intro h<;>try exact V1 h)|intro el lU lV|intro el lU|exact T4|refine T5 ?_ ?_|intro ex)<;>try conv=>whnf)
  all_goals first
   |(exfalso;omega)
   |exact A0 rfl rfl
end Go.Proofs.YtiphlhoclaogjaaGreatDoor

/- Chapter 5: the reference's truth values for rows. -/
import Derived.Test.YtjkbhaaobhgkdabGreatDoorRSx
import Derived.Test.YtjkbhaaobhgkdabGreatDoorRCe3
import Derived.Test.YtjkbhaaobhgkdabGreatDoorRC7
import Derived.Test.YtjkbhaaobhgkdabGreatDoorRB10
import Derived.Test.YtjkbhaaobhgkdabGreatDoorRKa1
import Derived.Test.YtjkbhaaobhgkdabGreatDoorRQn2
set_option linter.unusedVariables false
set_option linter.unnecessarySimpa false
set_option linter.unusedSimpArgs false
set_option maxHeartbeats 64000000
namespace Go.Proofs.YtjkbhaaobhgkdabGreatDoor
open Go Go.Av
attribute [local irreducible] D0 B0 D2 C7 DQ D1 C8 St.le A3 B6
set_option maxRecDepth 100000
theorem ZO(op:Int)(vs:List Int)(h5:op=5∨op=6→2≤vs.length)(h7:op=7→1≤vs.length)(hb:∀v∈vs,-1≤v∧v≤1):A3 Tryz.prog 170 [.i op,.sl 1 (vs.map wA)] (.i (c8 op vs 1)):=by
 have sI:∀(k:Nat) v,vs[k]?=some v→-1≤v∧v≤1:=fun k v h=>hb v (List.mem_of_getElem? h)
 refine C0 Tryz.func170 30 fun nQ E h0=>?_
 clear nQ
 repeat'((first|(refine J4 ?_ ?_;(have:=sI _ _ nN;omega)) |refine S2 ?_|(refine T6 ?_ ?_<;>intro h<;>try exact V1 h)|intro el nN nP|intro el nN|exact T4|refine T5 ?_ ?_|intro ex)<;>try conv=>whnf)
 all_goals first
  |(refine A0 rfl (congrArg AV.i ?_);unfold c8;rw[if_neg (by omega),if_neg (by omega),if_neg (by omega),if_pos (by assumption),D3 (k:=0) (by assumption)];done)
  |(refine A0 rfl (congrArg AV.i ?_);unfold c8;rw[if_neg (by omega),if_pos (by assumption),D3 (k:=0) (by assumption),D3 (k:=1) (by assumption)];done)
  |(refine A0 rfl (congrArg AV.i ?_);unfold c8;rw[if_neg (by omega),if_neg (by assumption),if_pos (by assumption),D3 (k:=0) (by assumption),D3 (k:=1) (by assumption)];done)
  |(refine A0 rfl (congrArg AV.i ?_);unfold c8;(repeat' split)<;>first|rfl|omega)
theorem bv(g:B1→Int)(c:B1)(ho:¬(c.op=2∨c.op=3∨c.op=4))(h:1≤c.op∧c.op≤7):AN g c=c8 c.op (c.kids.map (AN g)) 1:=by
 rw[Kd]
 unfold c8
 (repeat' split)<;>first|rfl|omega
theorem ZP(s:A4)(hr:C5 s=0)(row:List Int)(hl:row.length=s.cols.length)(c:B1):X0 s c=0→A3 Tryz.prog 123 [sA s,E7 c,.sl 1 (row.map wA)] (.i (Dr s c row)):=by
 refine N9 (p:=fun c=>X0 s c=0→A3 Tryz.prog 123 [sA s,E7 c,.sl 1 (row.map wA)] (.i (Dr s c row))) (fun c ih h=>?_) c
 obtain⟨h1,h2⟩:=Hf h
 obtain⟨p1,p2,p3,_⟩:=Cs h1
 obtain⟨k1,k2,k3⟩:=Ot c.op
 have hg:∀a,-1≤R3 s a (row.getD a.col.toNat 0)∧R3 s a (row.getD a.col.toNat 0)≤1:=fun a=>TI _ _ _
 by_cases ho:c.op=2∨c.op=3∨c.op=4
 ·have qB:=fun v=>OI s c v ho (GA hr h1)
  have hc:=p3 ho
  obtain⟨v,hv⟩:∃v,row[c.col.toNat]?=some v:=⟨_,List.getElem?_eq_getElem (by omega)⟩
  have qf:Dr s c row=R3 s c v:=by
   unfold Dr
   rw[Kd]
   unfold c8
   rw[if_neg (by omega),if_neg (by omega),if_neg (by omega),if_neg (by omega),D3 hv]
  rw[qf]
  rw[F8]at *
  refine C0 Tryz.func123 52 fun nQ E h0=>?_
  clear nQ
  repeat'((first|(refine A2 (x:=v) hv (by omega) ?_)|refine A1 (qB _) ?_|(refine B8 ?_ ?_;kernel_rfl) |refine S2 ?_|(refine T6 ?_ ?_<;>intro h<;>try exact V1 h)|intro el nN nP|intro el nN|exact T4|refine T5 ?_ ?_|intro ex)<;>try conv=>whnf)
  all_goals first
   |exact A0 rfl rfl
   |(exfalso;omega)
 ·unfold Dr
  rw[bv _ c ho p1]
  have wL:=ZO c.op (c.kids.map (AN fun a=>R3 s a (row.getD a.col.toNat 0))) (fun h=>by rw[List.length_map];have:=k1 h;omega) (fun h=>by rw[List.length_map];have:=k2 h;omega) (fun v hv=>by
   obtain⟨k,_,rfl⟩:=List.mem_map.1 hv
   exact Wb hg k)
  have vO:∀k,k∈c.kids→A3 Tryz.prog 123 [sA s,E7 k,.sl 1 (row.map wA)] (.i (AN (fun a=>R3 s a (row.getD a.col.toNat 0)) k)):=fun k hk=>ih k hk (h2 k hk)
  generalize (AN fun a=>R3 s a (row.getD a.col.toNat 0))=T at *
  rw[F8]at *
  refine C0 Tryz.func123 52 fun nQ E h0=>?_
  have nO:c.kids.length≤9223372036854775807:=by
   have:=((nQ (.agg (O4 c)) (by simp)).agg (.sl 6 (c.kids.map K2)) (by simp)).sl
   simpa using this
  clear nQ
  repeat'((first|refine S2 ?_|(refine T6 ?_ ?_<;>intro h<;>try exact V1 h)|intro el nN nP|intro el nN|exact T4|refine T5 ?_ ?_|intro ex)<;>try conv=>whnf)
  all_goals first
   |(exfalso;omega)
   |skip
  refine B2 (ι:=Nat) (fun k=>⟨[(2,.sl 1 (row.map wA)),(3,.ref 0 0),(4,.ref 1 0),(7,.row 2 0 k),(8,.i k)],3,[(0,some (.box (sL s))),(1,some (.box (O4 c))),(2,some (.row 3 1 0 (((c.kids.take k).map T).map wA)))]⟩) (fun k=>k≤c.kids.length) (fun k=>c.kids.length-k) 0 (Nat.zero_le _)
   (C2 (K4 (d:=7) (e:=3) (sz:=1) rfl) (A8 h0 rfl ⟨rfl,rfl,rfl,rfl,rfl,trivial⟩ ⟨rfl,rfl,⟨0,rfl⟩,trivial⟩ rfl rfl rfl)) (fun k hk=>?_)
  by_cases nR:k<c.kids.length
  ·obtain⟨el,nN⟩:∃el,c.kids[k]?=some el:=⟨_,List.getElem?_eq_getElem nR⟩
   have qC:=vO el (List.mem_of_getElem? nN)
   repeat'((first|(refine A2 (x:=el) nN (by omega) ?_)|(refine G3 7 ?_;refine H4 (id:=7) ⟨[(2,.sl 1 (row.map wA)),(3,.ref 0 0),(4,.ref 1 0),(7,.row 2 0 (k+1)),(8,.i k)],3,[(0,some (.box (sL s))),(1,some (.box (O4 c))),(2,some (.row 3 1 0 (((c.kids.take (k+1)).map T).map wA)))]⟩ ?_ ?_)|refine A1 qC ?_ |refine S2 ?_|(refine T6 ?_ ?_<;>intro h<;>try exact V1 h)|intro el nN nP|intro el nN|exact T4|refine T5 ?_ ?_|intro ex)<;>try conv=>whnf)
   all_goals first
    |exact A8 h0 rfl ⟨rfl,rfl,rfl,rfl,rfl,trivial⟩ ⟨rfl,rfl,⟨_,congrArg (C9.row 3 1 _) (by rw[I3 nN,List.map_append,List.map_append];rfl)⟩,trivial⟩ rfl rfl rfl
    |exact⟨k+1,by omega,by omega,A6 h0⟩
  ·obtain rfl:k=c.kids.length:=by omega
   rw[List.take_length]
   repeat'((first|refine I6 2 ?_|refine A1 wL ?_ |refine S2 ?_|(refine T6 ?_ ?_<;>intro h<;>try exact V1 h)|intro el nN nP|intro el nN|exact T4|refine T5 ?_ ?_|intro ex)<;>try conv=>whnf)
   all_goals first
    |exact A0 rfl rfl
theorem ZQ(s:A4)(c:B1)(row:List Int):A3 Tryz.prog 86 [sA s,E7 c,.sl 1 (row.map wA)] (.i (TJ s c row)):=by
 have h1:=At s c
 have h2:=Qa s row
 have h3:¬J6 s c≠0→¬s6 s row≠0→A3 Tryz.prog 123 [sA s,E7 c,.sl 1 (row.map wA)] (.i (Dr s c row)):=fun a b=>have a:=Decidable.of_not_not a;have b:=Decidable.of_not_not b;ZP s (BH a).1 row (Hg b).2 c (BH a).2.2.2
 unfold TJ
 rw[F8]at *
 refine C0 Tryz.func86 21 fun nQ E h0=>?_
 clear nQ
 repeat'((first|refine A1 h1 ?_|refine A1 h2 ?_|(refine A1 (h3 (by assumption) (by assumption)) ?_) |refine S2 ?_|(refine T6 ?_ ?_<;>intro h<;>try exact V1 h)|intro el nN nP|intro el nN|exact T4|refine T5 ?_ ?_|intro ex)<;>try conv=>whnf)
 all_goals first
  |(refine A0 rfl (congrArg AV.i ?_);rw[if_neg (by omega)];done)
  |(refine A0 rfl (congrArg AV.i ?_);rw[if_pos (by omega)];done)
def MY(rows:List (List Int))(id:Int):Int:=E6 (fun r=>decide (0<r.length) && decide (r.headD 0=id)) rows 0
theorem Vs(s:A4)(rows:List (List Int))(id:Int):A3 Tryz.prog 45 [.agg (Q1 s rows),.i id] (.i (MY rows id)):=by
 unfold MY
 generalize hp:(fun r:List Int=>decide (0<r.length) && decide (r.headD 0=id))=p
 have wh:∀r,p r=(decide (0<r.length) && decide (r.headD 0=id)):=fun r=>by rw[←hp]
 refine C0 Tryz.func45 32 fun nQ E h0=>?_
 have nO:rows.length≤9223372036854775807:=by
  have:=((nQ (.agg (Q1 s rows)) (by simp)).agg (.sl 1 (rows.map H1)) (by simp[Q1])).sl
  simpa using this
 clear nQ
 repeat'((first|refine S2 ?_|(refine T6 ?_ ?_<;>intro h<;>try exact V1 h)|intro el nN nP|intro el nN|exact T4|refine T5 ?_ ?_|intro ex)<;>try conv=>whnf)
 refine B2 (ι:=Nat) (fun k=>⟨[(1,.i id),(2,.ref 0 0),(5,.i k)],1,[(0,some (.box (Q1 s rows)))]⟩)
  (fun k=>k≤rows.length∧E6 p rows 0=E6 p (rows.drop k) k) (fun k=>rows.length-k) 0 ⟨Nat.zero_le _,rfl⟩ (A6 h0) (fun k hI=>?_)
 obtain⟨hk,hI⟩:=hI
 by_cases nZ:k<rows.length
 ·obtain⟨r,hr⟩:∃r,rows[k]?=some r:=⟨_,List.getElem?_eq_getElem nZ⟩
  have pT:rows[((k:Nat):Int).toNat]?=some r:=hr
  rw[G6 hr,E6]at hI
  have wR:=wh r
  cases r with
  |nil =>
   rw[show p []=false from wR,if_neg (by decide)]at hI
   repeat'((first|(refine A2 (x:=([]:List Int)) pT (by omega) ?_)|(refine B8 ?_ ?_;kernel_rfl) |refine S2 ?_|(refine T6 ?_ ?_<;>intro h<;>try exact V1 h)|intro el nN nP|intro el nN|exact T4|refine T5 ?_ ?_|intro ex)<;>try conv=>whnf)
   all_goals first
    |(exfalso;omega)
    |(exfalso;simp at *;done)
    |exact⟨k+1,⟨by omega,hI⟩,by omega,A6 h0⟩
  |cons a t =>
   have h00:(a::t)[((0:Int)).toNat]?=some a:=rfl
   have qc:0<(a::t).length:=by simp
   rw[decide_eq_true qc,Bool.true_and]at wR
   generalize hrr:a::t=r at *
   have hhd:r.headD 0=a:=by rw[←hrr];rfl
   rw[hhd]at wR
   by_cases ha:a=id
   ·rw[wR,decide_eq_true ha,if_pos rfl]at hI
    repeat'((first|(refine A2 (x:=r) pT (by omega) ?_)|(refine A2 (x:=a) h00 (by omega) ?_)|(refine B8 ?_ ?_;kernel_rfl) |refine S2 ?_|(refine T6 ?_ ?_<;>intro h<;>try exact V1 h)|intro el nN nP|intro el nN|exact T4|refine T5 ?_ ?_|intro ex)<;>try conv=>whnf)
    all_goals first
     |(exfalso;omega)
     |exact A0 rfl (congrArg AV.i hI.symm)
   ·rw[wR,decide_eq_false ha,if_neg (by decide)]at hI
    repeat'((first|(refine A2 (x:=r) pT (by omega) ?_)|(refine A2 (x:=a) h00 (by omega) ?_)|(refine B8 ?_ ?_;kernel_rfl) |refine S2 ?_|(refine T6 ?_ ?_<;>intro h<;>try exact V1 h)|intro el nN nP|intro el nN|exact T4|refine T5 ?_ ?_|intro ex)<;>try conv=>whnf)
    all_goals first
     |(exfalso;omega)
     |exact⟨k+1,⟨by omega,hI⟩,by omega,A6 h0⟩
 ·rw[List.drop_eq_nil_of_le (by omega),E6]at hI
  repeat'((first|refine S2 ?_|(refine T6 ?_ ?_<;>intro h<;>try exact V1 h)|intro el nN nP|intro el nN|exact T4|refine T5 ?_ ?_|intro ex)<;>try conv=>whnf)
  all_goals first
   |(exfalso;omega)
   |exact A0 rfl (congrArg AV.i hI.symm)
def Jy(s:A4)(rows:List (List Int))(k:Nat)(r:List Int):Int:=if ¬s6 s r=0 then 1 else if 0<k∧r.headD 0≤(rows.getD (k-1) []).headD 0 then 1 else 0
def EV(s:A4)(rows:List (List Int)):Bool:=decide (C5 s=0∧rows.length≤200∧E8 (Jy s rows) 0 rows=0)
theorem ja{s:A4}{rows:List (List Int)}{k:Nat}(h:F1 (Jy s rows) rows k){i:Nat}{q:List Int}(hi:i<k)(hq:rows[i]?=some q):s6 s q=0:=by
 have:=h.2.2 i q hi hq
 unfold Jy at this
 by_cases hr:s6 s q=0
 ·exact hr
 ·rw[if_pos hr]at this;cases this
theorem Kl{s:A4}{r:List Int}(h:s6 s r=0):∃z,r[0]?=some z:=by
 obtain⟨h1,h2⟩:=Hg h
 have h3:=(F2 h1).2.2.2.2
 cases hc:s.cols with
 |nil=>rw[hc]at h3;simp at h3
 |cons a t =>
  rw[hc]at h2
  exact⟨_,List.getElem?_eq_getElem (by simp at h2;omega)⟩
theorem Lf(s:A4)(rows:List (List Int)):A3 Tryz.prog 42 [.agg (Q1 s rows)] (.b (EV s rows)):=by
 have h1:=V5 s
 unfold EV
 by_cases e1:¬(C5 s=0∧rows.length≤200)
 ·rw[decide_eq_false (fun h=>e1 ⟨h.1,h.2.1⟩)]
  generalize C5 s=e at *
  refine C0 Tryz.func42 118 fun nQ E h0=>?_
  have nO:rows.length≤9223372036854775807:=by
   have:=((nQ (.agg (Q1 s rows)) (by simp)).agg (.sl 1 (rows.map H1)) (by simp[Q1])).sl
   simpa using this
  clear nQ
  repeat'((first|refine A1 h1 ?_ |refine S2 ?_|(refine T6 ?_ ?_<;>intro h<;>try exact V1 h)|intro el nN nP|intro el nN|exact T4|refine T5 ?_ ?_|intro ex)<;>try conv=>whnf)
  all_goals first
   |(exfalso;omega)
   |exact A0 rfl rfl
 obtain⟨e1,e2⟩:=Decidable.of_not_not e1
 rw[e1]at h1
 have pD:=fun k=>@F1.step _ (Jy s rows) rows k
 have tI:=fun k=>@F1.hit _ (Jy s rows) rows k
 have so:=fun k=>@F1.done _ (Jy s rows) rows k
 have tK:=fun k=>@ja s rows k
 have hz:=F1.zero (Jy s rows) rows
 have hex:∀k r,Jy s rows k r=if ¬s6 s r=0 then 1 else if 0<k∧r.headD 0≤(rows.getD (k-1) []).headD 0 then 1 else 0:=fun _ _=>rfl
 have h2:=fun r=>Qa s r
 generalize Jy s rows=FE at *
 have nf:E8 FE 0 rows=1→decide (C5 s=0∧rows.length≤200∧E8 FE 0 rows=0)=false:=fun h=>decide_eq_false (fun hh=>by rw[h]at hh;exact absurd hh.2.2 (by decide))
 have pm:E8 FE 0 rows=0→decide (C5 s=0∧rows.length≤200∧E8 FE 0 rows=0)=true:=fun h=>decide_eq_true ⟨e1,e2,h⟩
 generalize decide (C5 s=0∧rows.length≤200∧E8 FE 0 rows=0)=D at *
 refine C0 Tryz.func42 118 fun nQ E h0=>?_
 clear nQ
 repeat'((first|refine A1 h1 ?_ |refine S2 ?_|(refine T6 ?_ ?_<;>intro h<;>try exact V1 h)|intro el nN nP|intro el nN|exact T4|refine T5 ?_ ?_|intro ex)<;>try conv=>whnf)
 all_goals first
  |(exfalso;omega)
  |skip
 refine B2 (ι:=Nat) (fun k=>⟨[(1,.ref 0 0),(3,.i k)],1,[(0,some (.box (Q1 s rows)))]⟩)
  (fun k=>F1 FE rows k) (fun k=>rows.length-k) 0 hz (A6 h0) (fun k hK=>?_)
 by_cases nZ:k<rows.length
 ·obtain⟨r,hr⟩:∃r,rows[k]?=some r:=⟨_,List.getElem?_eq_getElem nZ⟩
  have pT:rows[((k:Nat):Int).toNat]?=some r:=hr
  have hx:=hex k r
  have hf:=h2 r
  by_cases ql:¬s6 s r=0
  ·rw[if_pos ql]at hx
   have hh:=tI k hK hr (by rw[hx];decide)
   rw[hx]at hh
   have hD:=nf hh.symm
   generalize s6 s r=e at *
   repeat'((first|(refine A2 (x:=r) pT (by omega) ?_)|refine A1 hf ?_|(refine B8 ?_ ?_;kernel_rfl) |refine S2 ?_|(refine T6 ?_ ?_<;>intro h<;>try exact V1 h)|intro el nN nP|intro el nN|exact T4|refine T5 ?_ ?_|intro ex)<;>try conv=>whnf)
   all_goals first
    |(exfalso;omega)
    |exact A0 rfl (congrArg AV.b hD.symm)
  have ql:=Decidable.of_not_not ql
  obtain⟨r0,pS⟩:=Kl ql
  rw[ql,if_neg (by decide),l9 pS]at hx
  rw[ql]at hf
  by_cases rp:k=0
  ·subst rp
   rw[if_neg (by omega)]at hx
   have nj:=pD 0 hK hr hx
   repeat'((first|(refine A2 (x:=r) pT (by omega) ?_)|(refine A2 (x:=r0) pS (by omega) ?_)|refine A1 hf ?_|(refine B8 ?_ ?_;kernel_rfl) |refine S2 ?_|(refine T6 ?_ ?_<;>intro h<;>try exact V1 h)|intro el nN nP|intro el nN|exact T4|refine T5 ?_ ?_|intro ex)<;>try conv=>whnf)
   all_goals first
    |(exfalso;omega)
    |exact⟨0+1,nj,by omega,A6 h0⟩
  ·obtain⟨q,hq⟩:∃q,rows[k-1]?=some q:=⟨_,List.getElem?_eq_getElem (by omega)⟩
   obtain⟨q0,ug⟩:=Kl (tK k hK (i:=k-1) (by omega) hq)
   rw[D3 hq,l9 ug]at hx
   have pI:rows[((k:Int)-1).toNat]?=some q:=by rw[show ((k:Int)-1).toNat=k-1 by omega];exact hq
   by_cases ob:r0≤q0
   ·rw[if_pos ⟨by omega,ob⟩]at hx
    have hh:=tI k hK hr (by rw[hx];decide)
    rw[hx]at hh
    have hD:=nf hh.symm
    repeat'((first|(refine A2 (x:=q) pI (by omega) ?_)|(refine A2 (x:=q0) ug (by omega) ?_)|(refine A2 (x:=r) pT (by omega) ?_)|(refine A2 (x:=r0) pS (by omega) ?_)|refine A1 hf ?_|(refine B8 ?_ ?_;kernel_rfl) |refine S2 ?_|(refine T6 ?_ ?_<;>intro h<;>try exact V1 h)|intro el nN nP|intro el nN|exact T4|refine T5 ?_ ?_|intro ex)<;>try conv=>whnf)
    all_goals first
     |(exfalso;omega)
     |exact A0 rfl (congrArg AV.b hD.symm)
   ·rw[if_neg (fun h=>ob h.2)]at hx
    have nj:=pD k hK hr hx
    repeat'((first|(refine A2 (x:=q) pI (by omega) ?_)|(refine A2 (x:=q0) ug (by omega) ?_)|(refine A2 (x:=r) pT (by omega) ?_)|(refine A2 (x:=r0) pS (by omega) ?_)|refine A1 hf ?_|(refine B8 ?_ ?_;kernel_rfl) |refine S2 ?_|(refine T6 ?_ ?_<;>intro h<;>try exact V1 h)|intro el nN nP|intro el nN|exact T4|refine T5 ?_ ?_|intro ex)<;>try conv=>whnf)
    all_goals first
     |(exfalso;omega)
     |exact⟨k+1,nj,by omega,A6 h0⟩
 ·have hD:=pm (so k hK (by omega))
  rw[hD]
  repeat'((first|refine S2 ?_|(refine T6 ?_ ?_<;>intro h<;>try exact V1 h)|intro el nN nP|intro el nN|exact T4|refine T5 ?_ ?_|intro ex)<;>try conv=>whnf)
  all_goals first
   |(exfalso;omega)
   |skip
  refine B2 (ι:=Nat) (fun k=>⟨[(1,.ref 0 0),(4,.i k)],1,[(0,some (.box (Q1 s rows)))]⟩)
   (fun k=>k=0) (fun k=>0) 0 rfl (A6 h0) (fun k hk=>?_)
  subst hk
  repeat'((first|refine S2 ?_|(refine T6 ?_ ?_<;>intro h<;>try exact V1 h)|intro el nN nP|intro el nN|exact T4|refine T5 ?_ ?_|intro ex)<;>try conv=>whnf)
  all_goals first
   |(exfalso;omega)
   |exact A0 rfl rfl
def ZR(s:A4)(d:DD)(r:List Int):Bool:=decide (TJ s d.coh r=1) && Ue d.part d.of d.seed (r.headD 0)
def DK(s:A4)(d:DD)(l:List (List Int)):List Int:=(l.filter (ZR s d)).map fun r=>r.headD 0
def o7(s:A4)(rows:List (List Int))(d:DD):List Int:=if EV s rows=true∧Df s d=0 then DK s d rows else []
theorem Qt{s:A4}{rows:List (List Int)}(h:EV s rows=true):C5 s=0∧rows.length≤200∧∀(k:Nat) r,rows[k]?=some r→s6 s r=0:=by
 unfold EV at h
 have h:=of_decide_eq_true h
 refine⟨h.1,h.2.1,fun k r hk=>?_⟩
 have:=N5 h.2.2 k r hk
 unfold Jy at this
 by_cases hr:s6 s r=0
 ·exact hr
 ·rw[if_pos hr]at this;cases this
theorem bw(s:A4)(d:DD)(l:List (List Int))(r:List Int):DK s d (l++[r])=DK s d l++(if ZR s d r=true then [r.headD 0]else []):=by
 unfold DK
 rw[List.filter_append,List.map_append]
 congr 1
 simp only[List.filter_cons,List.filter_nil]
 split<;>rfl
theorem MZ(s:A4)(d:DD)(l:List (List Int)):(DK s d l).length≤l.length:=by
 unfold DK
 rw[List.length_map]
 exact List.length_filter_le _ _
theorem Ug(s:A4)(rows:List (List Int))(d:DD):A3 Tryz.prog 44 [.agg (Q1 s rows),Jp d] (.sl 1 ((o7 s rows d).map wA)):=by
 have h1:=Lf s rows
 have h2:=Jv s d
 unfold o7
 by_cases hc:¬(EV s rows=true∧Df s d=0)
 ·rw[if_neg hc]
  generalize Df s d=e at *
  cases hv:EV s rows with
  |false =>
   rw[hv]at h1
   refine C0 Tryz.func44 58 fun nQ E h0=>?_
   clear nQ
   repeat'((first|refine A1 h1 ?_|refine A1 h2 ?_ |refine S2 ?_|(refine T6 ?_ ?_<;>intro h<;>try exact V1 h)|intro el nN nP|intro el nN|exact T4|refine T5 ?_ ?_|intro ex)<;>try conv=>whnf)
   all_goals first
    |(exfalso;omega)
    |exact AC rfl rfl
  |true =>
   rw[hv]at h1
   have he:¬e=0:=fun h=>hc ⟨hv,h⟩
   refine C0 Tryz.func44 58 fun nQ E h0=>?_
   clear nQ
   repeat'((first|refine A1 h1 ?_|refine A1 h2 ?_ |refine S2 ?_|(refine T6 ?_ ?_<;>intro h<;>try exact V1 h)|intro el nN nP|intro el nN|exact T4|refine T5 ?_ ?_|intro ex)<;>try conv=>whnf)
   all_goals first
    |(exfalso;omega)
    |exact AC rfl rfl
 have hc:=Decidable.of_not_not hc
 rw[if_pos hc]
 obtain⟨hv,he⟩:=hc
 rw[hv]at h1
 rw[he]at h2
 obtain⟨hr,od,ql⟩:=Qt hv
 have h3:=fun r=>ZQ s d.coh r
 have h4:=fun id=>fI d.part d.of d.seed id
 have oy:=bw s d
 have pF:=MZ s d
 have pd:∀r,ZR s d r=(decide (TJ s d.coh r=1) && Ue d.part d.of d.seed (r.headD 0)):=fun _=>rfl
 have pj:DK s d []=[]:=rfl
 generalize DK s d=FK at *
 generalize ZR s d=PP at *
 refine C0 Tryz.func44 58 fun nQ E h0=>?_
 clear nQ
 repeat'((first|refine A1 h1 ?_|refine A1 h2 ?_ |refine S2 ?_|(refine T6 ?_ ?_<;>intro h<;>try exact V1 h)|intro el nN nP|intro el nN|exact T4|refine T5 ?_ ?_|intro ex)<;>try conv=>whnf)
 all_goals first
  |(exfalso;omega)
  |skip
 refine B2 (ι:=Nat) (fun k=>⟨[(2,.ref 0 0),(3,.ref 1 0),(5,.row 2 0 (FK (rows.take k)).length),(6,.i k)],3,[(0,some (.box (Q1 s rows))),(1,some (.box (MN d))),(2,some (.row 3 1 0 ((FK (rows.take k)).map wA)))]⟩)
  (fun k=>k≤rows.length) (fun k=>rows.length-k) 0 (Nat.zero_le _)
  (C2 (K4 (d:=5) (e:=3) (sz:=1) rfl) (A8 h0 rfl ⟨rfl,rfl,congrArg (fun z:List Int=>some (AV.row 2 0 z.length)) pj.symm,rfl,trivial⟩ ⟨rfl,rfl,⟨0,congrArg (fun z:List Int=>C9.row 3 1 0 (z.map wA)) pj⟩,trivial⟩ rfl rfl rfl)) (fun k hK=>?_)
 by_cases nZ:k<rows.length
 ·obtain⟨r,rP⟩:∃r,rows[k]?=some r:=⟨_,List.getElem?_eq_getElem nZ⟩
  have sQ:rows[((k:Nat):Int).toNat]?=some r:=rP
  obtain⟨r0,pS⟩:=Kl (ql k r rP)
  have yu:=h3 r
  have hi4:=h4 r0
  have nj:=oy (rows.take k) r
  have wU:=pd r
  rw[←I3 rP,l9 pS]at nj
  rw[l9 pS]at wU
  have uY:=pF (rows.take k)
  rw[List.length_take]at uY
  generalize TJ s d.coh r=ev at *
  generalize Ue d.part d.of d.seed r0=b at *
  by_cases pf:ev=1
  ·rw[decide_eq_true pf,Bool.true_and]at wU
   rw[wU]at nj
   cases b
   ·rw[if_neg (by decide),List.append_nil]at nj
    repeat'((first|(refine A2 (x:=r) sQ (by omega) ?_)|(refine A2 (x:=r0) pS (by omega) ?_)|refine A1 yu ?_|refine A1 hi4 ?_|(refine B8 ?_ ?_;kernel_rfl) |refine S2 ?_|(refine T6 ?_ ?_<;>intro h<;>try exact V1 h)|intro el nN nP|intro el nN|exact T4|refine T5 ?_ ?_|intro ex)<;>try conv=>whnf)
    all_goals first
     |(exfalso;omega)
     |exact⟨k+1,by omega,by omega,A8 h0 rfl ⟨rfl,rfl,congrArg (fun z:List Int=>some (AV.row 2 0 z.length)) nj.symm,rfl,trivial⟩ ⟨rfl,rfl,⟨_,congrArg (fun z:List Int=>C9.row 3 1 _ (z.map wA)) nj⟩,trivial⟩ rfl rfl rfl⟩
   ·rw[if_pos rfl]at nj
    repeat'((first|(refine A2 (x:=r) sQ (by omega) ?_)|(refine A2 (x:=r0) pS (by omega) ?_)|refine A1 yu ?_|refine A1 hi4 ?_|(refine B8 ?_ ?_;kernel_rfl) |refine S2 ?_|(refine T6 ?_ ?_<;>intro h<;>try exact V1 h)|intro el nN nP|intro el nN|exact T4|refine T5 ?_ ?_|intro ex)<;>try conv=>whnf)
    all_goals first
     |(exfalso;omega)
     |exact⟨k+1,by omega,by omega,A8 h0 rfl ⟨rfl,rfl,congrArg (fun z:Nat=>some (AV.row 2 0 z)) (by rw[nj];simp[M0]),rfl,trivial⟩ ⟨rfl,rfl,⟨_,congrArg (C9.row 3 1 _) (by rw[nj,List.map_append];rfl)⟩,trivial⟩ rfl rfl rfl⟩
  ·rw[decide_eq_false pf,Bool.false_and]at wU
   rw[wU,if_neg (by decide),List.append_nil]at nj
   repeat'((first|(refine A2 (x:=r) sQ (by omega) ?_)|(refine A2 (x:=r0) pS (by omega) ?_)|refine A1 yu ?_|refine A1 hi4 ?_|(refine B8 ?_ ?_;kernel_rfl) |refine S2 ?_|(refine T6 ?_ ?_<;>intro h<;>try exact V1 h)|intro el nN nP|intro el nN|exact T4|refine T5 ?_ ?_|intro ex)<;>try conv=>whnf)
   all_goals first
    |(exfalso;omega)
    |exact⟨k+1,by omega,by omega,A8 h0 rfl ⟨rfl,rfl,congrArg (fun z:List Int=>some (AV.row 2 0 z.length)) nj.symm,rfl,trivial⟩ ⟨rfl,rfl,⟨_,congrArg (fun z:List Int=>C9.row 3 1 _ (z.map wA)) nj⟩,trivial⟩ rfl rfl rfl⟩
 ·have he:rows.take k=rows:=List.take_of_length_le (by omega)
  rw[he]
  repeat'((first|refine S2 ?_|(refine T6 ?_ ?_<;>intro h<;>try exact V1 h)|intro el nN nP|intro el nN|exact T4|refine T5 ?_ ?_|intro ex)<;>try conv=>whnf)
  all_goals first
   |(exfalso;omega)
   |exact A0 rfl rfl
end Go.Proofs.YtjkbhaaobhgkdabGreatDoor

/- Chapter 18: extracts: which are right, and what they tell of a row. -/
import Derived.Test.YtjkbhaaobhgkdabGreatDoorRCf1
import Derived.Test.YtjkbhaaobhgkdabGreatDoorRKa0
set_option linter.unusedVariables false
set_option linter.unnecessarySimpa false
set_option linter.unusedSimpArgs false
set_option maxHeartbeats 64000000
namespace Go.Proofs.YtjkbhaaobhgkdabGreatDoor
open Go Go.Av
attribute [local irreducible] D0 B0 D2 C7 DQ D1 C8 St.le A3 B6
set_option maxRecDepth 100000
structure K3 where
 prj:List UInt8
 ver:Int
 picks:List Pk
 rows:List (List Int)
abbrev QX(x:K3):List AV:=[.str x.prj,.i x.ver,.sl 2 (x.picks.map B5),.sl 1 (x.rows.map H1)]
abbrev BP(x:K3):AV:=.agg (QX x)
def De(s:A4)(picks:List Pk)(row:List Int):Bool:=decide (row.length=picks.length+1∧0≤row.headD 0∧row.headD 0≤1048575) && Cw s (picks.zip row.tail)
def EP(s:A4)(x:K3)(i:Nat)(r:List Int):Int:=if De s x.picks r=false then 9 else if 0<i∧r.headD 0≤(x.rows.getD (i-1) []).headD 0 then 10 else 0
def V4(s:A4)(x:K3):Int :=
 if ¬C5 s=0 then C5 s else if D5 x.prj=false then 3 else if x.ver<0∨300<x.ver then 13 else if ¬K9 s x.picks=0 then K9 s x.picks else if 200<x.rows.length then 1 else E8 (EP s x) 0 x.rows
def U2(s:A4)(column level:Int):List (Pk×Int)→Int×Bool
 |[]=>Z0 s column 0 0 level
 |(p,v)::r=>if p.col=column then Z0 s column p.lev v level else U2 s column level r
theorem eI{row:List Int}{k:Nat}{v:Int}(h:row[k+1]?=some v):row.tail[k]?=some v:=by cases row with|nil=>simp at h|cons a r=>simpa using h
theorem eJ{picks:List Pk}{row:List Int}{k:Nat}{p:Pk}{v:Int}(h1:picks[k]?=some p)(h2:row[k+1]?=some v):(picks.zip row.tail)[k]?=some (p,v):=by
 rw[List.getElem?_zip_eq_some];exact⟨h1,eI h2⟩
theorem l9{row:List Int}{v:Int}(h:row[0]?=some v):row.headD 0=v:=by cases row with|nil=>simp at h|cons a r=>simpa using h
theorem QY{s:A4}{l:List Pk}(h:K9 s l=0):∀(k:Nat) p,l[k]?=some p→(k:Int)+1≤p.col
 |0,p,hp=>by have:=(EF h 0 p hp).1;omega
 |k+1,p,hp=>by
  obtain⟨q,hq⟩:∃q,l[k]?=some q:=⟨_,List.getElem?_eq_getElem (by have:=D6 hp;omega)⟩
  have ih:=QY h k q hq
  unfold K9 at h
  by_cases hr:C5 s=0
  ·rw[if_pos hr]at h
   have h2:=N5 h (k+1) p hp
   rw[Nat.zero_add]at h2
   unfold Cr at h2
   split at h2
   ·split at h2
    ·cases h2
    ·rename_i h3
     rw[show k+1-1=k by omega,D3 hq]at h3
     have:¬p.col≤q.col:=fun h=>h3 ⟨by omega,h⟩
     omega
   ·contradiction
  ·rw[if_neg hr]at h;exact absurd h hr
theorem CU{s:A4}{l:List Pk}(h:K9 s l=0):l.length≤s.cols.length:=by
 by_cases h0:l.length=0
 ·omega
 ·obtain⟨p,hp⟩:∃p,l[l.length-1]?=some p:=⟨_,List.getElem?_eq_getElem (by omega)⟩
  have h1:=QY h _ p hp
  have h2:=(EF h _ p hp).2.1
  omega
theorem VW(s:A4)(hr:C5 s=0)(picks:List Pk)(hp:K9 s picks=0)(row:List Int):A3 Tryz.prog 54 [sA s,.sl 2 (picks.map B5),.sl 1 (row.map wA)] (.b (De s picks row)):=by
 have yi:=EF hp
 have nO:=CU hp
 have nl:=(F2 hr).2.1
 unfold De
 by_cases hl:row.length=picks.length+1
 ·obtain⟨r0,pS⟩:∃z,row[0]?=some z:=⟨_,List.getElem?_eq_getElem (by omega)⟩
  rw[l9 pS]
  by_cases h01:0≤r0∧r0≤1048575
  ·rw[decide_eq_true ⟨hl,h01.1,h01.2⟩,Bool.true_and]
   generalize yX:picks.zip row.tail=pv at *
   have hzl:pv.length=picks.length:=by rw[←yX,List.length_zip,List.length_tail];omega
   refine C0 Tryz.func54 53 fun nQ E h0=>?_
   clear nQ
   repeat'((first|(refine A2 (x:=r0) pS (by omega) ?_) |refine S2 ?_|(refine T6 ?_ ?_<;>intro h<;>try exact V1 h)|intro el nN nP|intro el nN|exact T4|refine T5 ?_ ?_|intro ex)<;>try conv=>whnf)
   all_goals first
    |(exfalso;omega)
    |skip
   refine B2 (ι:=Nat) (fun k=>⟨[(2,.sl 1 (row.map wA)),(3,.ref 0 0),(29,.sl 2 (picks.map B5)),(30,.i picks.length),(31,.i k)],1,[(0,some (.box (sL s)))]⟩)
    (fun k=>k≤picks.length∧Cw s (pv.take k)=true) (fun k=>picks.length-k) 0 ⟨Nat.zero_le _,rfl⟩
    (A6 h0) (fun k hK=>?_)
   obtain⟨pk,hK⟩:=hK
   by_cases nZ:k<picks.length
   ·obtain⟨p,qT⟩:∃p,picks[k]?=some p:=⟨_,List.getElem?_eq_getElem nZ⟩
    obtain⟨v,vw⟩:∃v,row[k+1]?=some v:=⟨_,List.getElem?_eq_getElem (by omega)⟩
    have wP:row[((k:Int)+1).toNat]?=some v:=by rw[show ((k:Int)+1).toNat=k+1 by omega];exact vw
    have hq:pv[k]?=some (p,v):=by rw[←yX];exact eJ qT vw
    obtain⟨c1,c2,c3,c4⟩:=yi k p qT
    obtain⟨x,hx⟩:∃x,s.cols[p.col.toNat]?=some x:=⟨_,List.getElem?_eq_getElem (by omega)⟩
    have vG:=Jd s hr p.col p.lev v x c1 hx c3 c4
    have pM:Cw s (pv.take (k+1))=(R4 s p.col p.lev v).2:=by
     unfold Cw at hK ⊢
     rw[I3 hq,List.all_append,hK]
     simp
    have tC:(R4 s p.col p.lev v).2=false→Cw s pv=false:=fun h=>Wj hq h
    generalize R4 s p.col p.lev v=S at *
    obtain⟨w,ok⟩:=S
    dsimp only at *
    cases ok
    ·rw[tC rfl]
     repeat'((first|refine A1 vG ?_|(refine A2 (x:=p) qT (by omega) ?_)|(refine A2 (x:=v) wP (by omega) ?_)|(refine B8 ?_ ?_;kernel_rfl) |refine S2 ?_|(refine T6 ?_ ?_<;>intro h<;>try exact V1 h)|intro el nN nP|intro el nN|exact T4|refine T5 ?_ ?_|intro ex)<;>try conv=>whnf)
     all_goals first
      |(exfalso;omega)
      |exact A0 rfl rfl
    ·repeat'((first|refine A1 vG ?_|(refine A2 (x:=p) qT (by omega) ?_)|(refine A2 (x:=v) wP (by omega) ?_)|(refine B8 ?_ ?_;kernel_rfl) |refine S2 ?_|(refine T6 ?_ ?_<;>intro h<;>try exact V1 h)|intro el nN nP|intro el nN|exact T4|refine T5 ?_ ?_|intro ex)<;>try conv=>whnf)
     all_goals first
      |(exfalso;omega)
      |exact⟨k+1,⟨by omega,pM⟩,by omega,A6 h0⟩
   ·have qD:pv.take k=pv:=List.take_of_length_le (by omega)
    rw[qD]at hK
    rw[hK]
    repeat'((first|refine S2 ?_|(refine T6 ?_ ?_<;>intro h<;>try exact V1 h)|intro el nN nP|intro el nN|exact T4|refine T5 ?_ ?_|intro ex)<;>try conv=>whnf)
    all_goals first
     |(exfalso;omega)
     |exact A0 rfl rfl
  ·rw[decide_eq_false (fun h=>h01 ⟨h.2.1,h.2.2⟩),Bool.false_and]
   refine C0 Tryz.func54 53 fun nQ E h0=>?_
   clear nQ
   repeat'((first|(refine A2 (x:=r0) pS (by omega) ?_) |refine S2 ?_|(refine T6 ?_ ?_<;>intro h<;>try exact V1 h)|intro el nN nP|intro el nN|exact T4|refine T5 ?_ ?_|intro ex)<;>try conv=>whnf)
   all_goals first
    |(exfalso;omega)
    |exact A0 rfl rfl
 ·rw[decide_eq_false (fun h=>hl h.1),Bool.false_and]
  refine C0 Tryz.func54 53 fun nQ E h0=>?_
  have uu:row.length≤9223372036854775807:=by have:=(nQ (.sl 1 (row.map wA)) (by simp)).sl;simpa using this
  clear nQ
  repeat'((first|refine S2 ?_|(refine T6 ?_ ?_<;>intro h<;>try exact V1 h)|intro el nN nP|intro el nN|exact T4|refine T5 ?_ ?_|intro ex)<;>try conv=>whnf)
  all_goals first
   |(exfalso;omega)
   |exact A0 rfl rfl
theorem y5{s:A4}{picks:List Pk}{r:List Int}(h:De s picks r=true):r.length=picks.length+1:=by
 unfold De at h
 rw[Bool.and_eq_true,decide_eq_true_eq]at h
 exact h.1.1
theorem eK{s:A4}{x:K3}{k:Nat}(h:F1 (EP s x) x.rows k){i:Nat}{q:List Int}(hi:i<k)(hq:x.rows[i]?=some q):De s x.picks q=true:=by
 have:=h.2.2 i q hi hq
 unfold EP at this
 cases hf:De s x.picks q with
 |true=>rfl
 |false=>rw[if_pos hf]at this;cases this
theorem a8(s:A4)(x:K3):A3 Tryz.prog 19 [sA s,BP x] (.i (V4 s x)):=by
 have h1:=Y7 s
 have h2:=CP x.prj
 have h3:=YG s x.picks
 by_cases e1:¬C5 s=0
 ·rw[V4,if_pos e1]
  refine C0 Tryz.func19 70 fun nQ E h0=>?_
  clear nQ
  repeat'((first|refine A1 h1 ?_ |refine S2 ?_|(refine T6 ?_ ?_<;>intro h<;>try exact V1 h)|intro el nN nP|intro el nN|exact T4|refine T5 ?_ ?_|intro ex)<;>try conv=>whnf)
  all_goals first
   |(exfalso;omega)
   |exact A0 rfl rfl
 have e1:=Decidable.of_not_not e1
 have h4:=fun r e2=>VW s e1 x.picks e2 r
 have pD:=fun k=>@F1.step _ (EP s x) x.rows k
 have tI:=fun k=>@F1.hit _ (EP s x) x.rows k
 have so:=fun k=>@F1.done _ (EP s x) x.rows k
 have tK:=fun k=>@eK s x k
 have hz:=F1.zero (EP s x) x.rows
 have hex:∀k r,EP s x k r=if De s x.picks r=false then 9 else if 0<k∧r.headD 0≤(x.rows.getD (k-1) []).headD 0 then 10 else 0:=fun _ _=>rfl
 have hE:V4 s x=if D5 x.prj=false then 3 else if x.ver<0∨300<x.ver then 13 else if ¬K9 s x.picks=0 then K9 s x.picks else if 200<x.rows.length then 1 else E8 (EP s x) 0 x.rows:=by
  rw[V4,if_neg (fun h=>h e1)]
 rw[hE]
 clear hE
 generalize EP s x=FE at *
 obtain⟨pr,ver,picks,rows⟩:=x
 dsimp only at *
 have hX:BP ⟨pr,ver,picks,rows⟩=.agg [.str pr,.i ver,.sl 2 (picks.map B5),.sl 1 (rows.map H1)]:=rfl
 rw[hX]
 by_cases e3:D5 pr=false
 ·rw[if_pos e3]
  rw[e3]at h2
  refine C0 Tryz.func19 70 fun nQ E h0=>?_
  clear nQ
  repeat'((first|refine A1 h1 ?_|refine A1 h2 ?_|refine A1 h3 ?_ |refine S2 ?_|(refine T6 ?_ ?_<;>intro h<;>try exact V1 h)|intro el nN nP|intro el nN|exact T4|refine T5 ?_ ?_|intro ex)<;>try conv=>whnf)
  all_goals first
   |(exfalso;omega)
   |exact A0 rfl rfl
 rw[if_neg e3]
 have e3:D5 pr=true:=by cases h:D5 pr with|true=>rfl|false=>exact absurd h e3
 rw[e3]at h2
 by_cases e4:ver<0∨300<ver
 ·rw[if_pos e4]
  refine C0 Tryz.func19 70 fun nQ E h0=>?_
  clear nQ
  repeat'((first|refine A1 h1 ?_|refine A1 h2 ?_|refine A1 h3 ?_ |refine S2 ?_|(refine T6 ?_ ?_<;>intro h<;>try exact V1 h)|intro el nN nP|intro el nN|exact T4|refine T5 ?_ ?_|intro ex)<;>try conv=>whnf)
  all_goals first
   |(exfalso;omega)
   |exact A0 rfl rfl
 rw[if_neg e4]
 by_cases e2:¬K9 s picks=0
 ·rw[if_pos e2]
  refine C0 Tryz.func19 70 fun nQ E h0=>?_
  clear nQ
  repeat'((first|refine A1 h1 ?_|refine A1 h2 ?_|refine A1 h3 ?_ |refine S2 ?_|(refine T6 ?_ ?_<;>intro h<;>try exact V1 h)|intro el nN nP|intro el nN|exact T4|refine T5 ?_ ?_|intro ex)<;>try conv=>whnf)
  all_goals first
   |(exfalso;omega)
   |exact A0 rfl rfl
 rw[if_neg e2]
 have e2:=Decidable.of_not_not e2
 have h4:=fun r=>h4 r e2
 rw[e2]at h3
 refine C0 Tryz.func19 70 fun nQ E h0=>?_
 have nO:rows.length≤9223372036854775807:=by
  have:=((nQ (.agg [.str pr,.i ver,.sl 2 (picks.map B5),.sl 1 (rows.map H1)]) (by simp)).agg (.sl 1 (rows.map H1)) (by simp)).sl
  simpa using this
 clear nQ
 by_cases e5:200<rows.length
 ·rw[if_pos e5]
  repeat'((first|refine A1 h1 ?_|refine A1 h2 ?_|refine A1 h3 ?_ |refine S2 ?_|(refine T6 ?_ ?_<;>intro h<;>try exact V1 h)|intro el nN nP|intro el nN|exact T4|refine T5 ?_ ?_|intro ex)<;>try conv=>whnf)
  all_goals first
   |(exfalso;omega)
   |exact A0 rfl rfl
 rw[if_neg e5]
 repeat'((first|refine A1 h1 ?_|refine A1 h2 ?_|refine A1 h3 ?_ |refine S2 ?_|(refine T6 ?_ ?_<;>intro h<;>try exact V1 h)|intro el nN nP|intro el nN|exact T4|refine T5 ?_ ?_|intro ex)<;>try conv=>whnf)
 all_goals first
  |(exfalso;omega)
  |skip
 refine B2 (ι:=Nat) (fun k=>⟨[(2,.ref 0 0),(3,.ref 1 0),(40,.sl 1 (rows.map H1)),(41,.i rows.length),(42,.i k)],2,[(0,some (.box (sL s))),(1,some (.box [.str pr,.i ver,.sl 2 (picks.map B5),.sl 1 (rows.map H1)]))]⟩)
  (fun k=>F1 FE rows k) (fun k=>rows.length-k) 0 hz
  (A6 h0) (fun k hK=>?_)
 by_cases nZ:k<rows.length
 ·obtain⟨r,rP⟩:∃r,rows[k]?=some r:=⟨_,List.getElem?_eq_getElem nZ⟩
  have hf:=h4 r
  have hx:=hex k r
  cases ux:De s picks r with
  |false =>
   rw[ux]at hf hx
   rw[if_pos rfl]at hx
   have pT:=tI k hK rP (by rw[hx];decide)
   rw[hx]at pT
   repeat'((first|refine A1 hf ?_|(refine A2 (x:=r) rP (by omega) ?_) |refine S2 ?_|(refine T6 ?_ ?_<;>intro h<;>try exact V1 h)|intro el nN nP|intro el nN|exact T4|refine T5 ?_ ?_|intro ex)<;>try conv=>whnf)
   all_goals first
    |(exfalso;omega)
    |exact A0 rfl (congrArg AV.i pT)
  |true =>
   have uh:=y5 ux
   rw[ux]at hf hx
   rw[if_neg (by decide)]at hx
   obtain⟨r0,pS⟩:∃z,r[0]?=some z:=⟨_,List.getElem?_eq_getElem (by omega)⟩
   rw[l9 pS]at hx
   by_cases rp:k=0
   ·subst rp
    rw[if_neg (by omega)]at hx
    have nj:=pD 0 hK rP hx
    repeat'((first|refine A1 hf ?_|(refine A2 (x:=r) rP (by omega) ?_)|(refine A2 (x:=r0) pS (by omega) ?_)|(refine B8 ?_ ?_;kernel_rfl) |refine S2 ?_|(refine T6 ?_ ?_<;>intro h<;>try exact V1 h)|intro el nN nP|intro el nN|exact T4|refine T5 ?_ ?_|intro ex)<;>try conv=>whnf)
    all_goals first
     |(exfalso;omega)
     |exact⟨0+1,nj,by omega,A6 h0⟩
   ·obtain⟨q,hq⟩:∃q,rows[k-1]?=some q:=⟨_,List.getElem?_eq_getElem (by omega)⟩
    have tw:=y5 (tK k hK (i:=k-1) (by omega) hq)
    obtain⟨q0,ug⟩:∃z,q[0]?=some z:=⟨_,List.getElem?_eq_getElem (by omega)⟩
    rw[D3 hq,l9 ug]at hx
    have pI:rows[((k:Int)-1).toNat]?=some q:=by rw[show ((k:Int)-1).toNat=k-1 by omega];exact hq
    by_cases ob:r0≤q0
    ·rw[if_pos ⟨by omega,ob⟩]at hx
     have pT:=tI k hK rP (by rw[hx];decide)
     rw[hx]at pT
     repeat'((first|refine A1 hf ?_|(refine A2 (x:=q) pI (by omega) ?_)|(refine A2 (x:=q0) ug (by omega) ?_)|(refine A2 (x:=r) rP (by omega) ?_)|(refine A2 (x:=r0) pS (by omega) ?_)|(refine B8 ?_ ?_;kernel_rfl) |refine S2 ?_|(refine T6 ?_ ?_<;>intro h<;>try exact V1 h)|intro el nN nP|intro el nN|exact T4|refine T5 ?_ ?_|intro ex)<;>try conv=>whnf)
     all_goals first
      |(exfalso;omega)
      |exact A0 rfl (congrArg AV.i pT)
    ·rw[if_neg (fun h=>ob h.2)]at hx
     have nj:=pD k hK rP hx
     repeat'((first|refine A1 hf ?_|(refine A2 (x:=q) pI (by omega) ?_)|(refine A2 (x:=q0) ug (by omega) ?_)|(refine A2 (x:=r) rP (by omega) ?_)|(refine A2 (x:=r0) pS (by omega) ?_)|(refine B8 ?_ ?_;kernel_rfl) |refine S2 ?_|(refine T6 ?_ ?_<;>intro h<;>try exact V1 h)|intro el nN nP|intro el nN|exact T4|refine T5 ?_ ?_|intro ex)<;>try conv=>whnf)
     all_goals first
      |(exfalso;omega)
      |exact⟨k+1,nj,by omega,A6 h0⟩
 ·have hd:=so k hK (by omega)
  repeat'((first|refine S2 ?_|(refine T6 ?_ ?_<;>intro h<;>try exact V1 h)|intro el nN nP|intro el nN|exact T4|refine T5 ?_ ?_|intro ex)<;>try conv=>whnf)
  all_goals first
   |(exfalso;omega)
   |exact A0 rfl (congrArg AV.i hd.symm)
end Go.Proofs.YtjkbhaaobhgkdabGreatDoor

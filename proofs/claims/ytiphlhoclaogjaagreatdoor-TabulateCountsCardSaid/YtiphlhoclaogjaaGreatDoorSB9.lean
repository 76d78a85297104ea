/- Chapter 18: which extracts are right: the program. -/
import Derived.Test.YtiphlhoclaogjaaGreatDoorSTa0
import Derived.Test.YtiphlhoclaogjaaGreatDoorSB7
import Derived.Test.YtiphlhoclaogjaaGreatDoorSB4
import Derived.Test.YtiphlhoclaogjaaGreatDoorSSx
import Derived.Test.YtiphlhoclaogjaaGreatDoorSB8
set_option linter.unusedVariables false
set_option linter.unnecessarySimpa false
set_option linter.unusedSimpArgs false
set_option maxHeartbeats 64000000
namespace Go.Proofs.YtiphlhoclaogjaaGreatDoor
open Go Go.Av
attribute [local irreducible] C7 B2 D3 C9 DQ D0 C8 St.le A3 B9
set_option maxRecDepth 100000
theorem V4{s:A4}{picks:List Pk}{r:List Int}(h:AN s picks r=true):r.length=picks.length+1:=by
 unfold AN at h
 rw[Bool.and_eq_true,decide_eq_true_eq]at h
 exact h.1.1
theorem TU{s:A4}{x:N5}{k:Nat}(h:E9 (An s x) x.rows k){i:Nat}{q:List Int}(hi:i<k)(hq:x.rows[i]?=some q):AN s x.picks q=true:=by
 have:=h.2.2 i q hi hq
 unfold An at this
 cases hf:AN s x.picks q with
 |true=>rfl
 |false=>rw[if_pos hf]at this;cases this
theorem e8(s:A4)(x:N5):A3 Tryz.prog 43 [sA s,c9 x] (.i (P6 s x)):=by
 have h1:=a6 s
 have h2:=CZ x.prj
 have h3:=Xa s x.picks
 by_cases e1:¬C3 s=0
 ·rw[P6,if_pos e1]
  refine B6 Tryz.func43 70 fun lW E h0=>?_
  clear lW
  repeat'((first|refine A1 h1 ?_ |refine S2 ?_|(refine T6 ?_ ?_<;>intro h<;>try exact V1 h)|intro el lU lV|intro el lU|exact T4|refine T5 ?_ ?_|intro ex)<;>try conv=>whnf)
  all_goals first
   |(exfalso;omega)
   |exact A0 rfl rfl
 have e1:=Decidable.of_not_not e1
 have h4:=fun r e2=>VC s e1 x.picks e2 r
 have nE:=fun k=>@E9.step _ (An s x) x.rows k
 have pZ:=fun k=>@E9.hit _ (An s x) x.rows k
 have pS:=fun k=>@E9.done _ (An s x) x.rows k
 have pc:=fun k=>@TU s x k
 have hz:=E9.zero (An s x) x.rows
 have hex:∀k r,An s x k r=if AN s x.picks r=false then 9 else if 0<k∧r.headD 0≤(x.rows.getD (k-1) []).headD 0 then 10 else 0:=fun _ _=>rfl
 have hE:P6 s x=if D6 x.prj=false then 3 else if x.ver<0∨300<x.ver then 13 else if ¬I5 s x.picks=0 then I5 s x.picks else if 200<x.rows.length then 1 else F0 (An s x) 0 x.rows:=by
  rw[P6,if_neg (fun h=>h e1)]
 rw[hE]
 clear hE
 generalize An s x=FE at *
 obtain⟨pr,ver,picks,rows⟩:=x
 dsimp only at *
 have hX:c9 ⟨pr,ver,picks,rows⟩=.agg [.str pr,.i ver,.sl 2 (picks.map B4),.sl 1 (rows.map F8)]:=rfl
 rw[hX]
 by_cases e3:D6 pr=false
 ·rw[if_pos e3]
  rw[e3]at h2
  refine B6 Tryz.func43 70 fun lW E h0=>?_
  clear lW
  repeat'((first|refine A1 h1 ?_|refine A1 h2 ?_|refine A1 h3 ?_ |refine S2 ?_|(refine T6 ?_ ?_<;>intro h<;>try exact V1 h)|intro el lU lV|intro el lU|exact T4|refine T5 ?_ ?_|intro ex)<;>try conv=>whnf)
  all_goals first
   |(exfalso;omega)
   |exact A0 rfl rfl
 rw[if_neg e3]
 have e3:D6 pr=true:=by cases h:D6 pr with|true=>rfl|false=>exact absurd h e3
 rw[e3]at h2
 by_cases e4:ver<0∨300<ver
 ·rw[if_pos e4]
  refine B6 Tryz.func43 70 fun lW E h0=>?_
  clear lW
  repeat'((first|refine A1 h1 ?_|refine A1 h2 ?_|refine A1 h3 ?_ |refine S2 ?_|(refine T6 ?_ ?_<;>intro h<;>try exact V1 h)|intro el lU lV|intro el lU|exact T4|refine T5 ?_ ?_|intro ex)<;>try conv=>whnf)
  all_goals first
   |(exfalso;omega)
   |exact A0 rfl rfl
 rw[if_neg e4]
 by_cases e2:¬I5 s picks=0
 ·rw[if_pos e2]
  refine B6 Tryz.func43 70 fun lW E h0=>?_
  clear lW
  repeat'((first|refine A1 h1 ?_|refine A1 h2 ?_|refine A1 h3 ?_ |refine S2 ?_|(refine T6 ?_ ?_<;>intro h<;>try exact V1 h)|intro el lU lV|intro el lU|exact T4|refine T5 ?_ ?_|intro ex)<;>try conv=>whnf)
  all_goals first
   |(exfalso;omega)
   |exact A0 rfl rfl
 rw[if_neg e2]
 have e2:=Decidable.of_not_not e2
 have h4:=fun r=>h4 r e2
 rw[e2]at h3
 refine B6 Tryz.func43 70 fun lW E h0=>?_
 have lX:rows.length≤9223372036854775807:=by
  have:=((lW (.agg [.str pr,.i ver,.sl 2 (picks.map B4),.sl 1 (rows.map F8)]) (by simp)).agg (.sl 1 (rows.map F8)) (by simp)).sl
  simpa using this
 clear lW
 by_cases e5:200<rows.length
 ·rw[if_pos e5]
  repeat'((first|refine A1 h1 ?_|refine A1 h2 ?_|refine A1 h3 ?_ |refine S2 ?_|(refine T6 ?_ ?_<;>intro h<;>try exact V1 h)|intro el lU lV|intro el lU|exact T4|refine T5 ?_ ?_|intro ex)<;>try conv=>whnf)
  all_goals first
   |(exfalso;omega)
   |exact A0 rfl rfl
 rw[if_neg e5]
 repeat'((first|refine A1 h1 ?_|refine A1 h2 ?_|refine A1 h3 ?_ |refine S2 ?_|(refine T6 ?_ ?_<;>intro h<;>try exact V1 h)|intro el lU lV|intro el lU|exact T4|refine T5 ?_ ?_|intro ex)<;>try conv=>whnf)
 all_goals first
  |(exfalso;omega)
  |skip
 refine B0 (ι:=Nat) (fun k=>⟨[(2,.ref 0 0),(3,.ref 1 0),(40,.sl 1 (rows.map F8)),(41,.i rows.length),(42,.i k)],2,[(0,some (.box (sL s))),(1,some (.box [.str pr,.i ver,.sl 2 (picks.map B4),.sl 1 (rows.map F8)]))]⟩)
  (fun k=>E9 FE rows k) (fun k=>rows.length-k) 0 hz
  (A6 h0) (fun k hK=>?_)
 by_cases lk:k<rows.length
 ·obtain⟨r,ny⟩:∃r,rows[k]?=some r:=⟨_,List.getElem?_eq_getElem lk⟩
  have hf:=h4 r
  have hx:=hex k r
  cases tJ:AN s picks r with
  |false =>
   rw[tJ]at hf hx
   rw[if_pos rfl]at hx
   have nP:=pZ k hK ny (by rw[hx];decide)
   rw[hx]at nP
   repeat'((first|refine A1 hf ?_|(refine A2 (x:=r) ny (by omega) ?_) |refine S2 ?_|(refine T6 ?_ ?_<;>intro h<;>try exact V1 h)|intro el lU lV|intro el lU|exact T4|refine T5 ?_ ?_|intro ex)<;>try conv=>whnf)
   all_goals first
    |(exfalso;omega)
    |exact A0 rfl (congrArg AV.i nP)
  |true =>
   have qA:=V4 tJ
   rw[tJ]at hf hx
   rw[if_neg (by decide)]at hx
   obtain⟨r0,mw⟩:∃z,r[0]?=some z:=⟨_,List.getElem?_eq_getElem (by omega)⟩
   rw[Q5 mw]at hx
   by_cases pk:k=0
   ·subst pk
    rw[if_neg (by omega)]at hx
    have lh:=nE 0 hK ny hx
    repeat'((first|refine A1 hf ?_|(refine A2 (x:=r) ny (by omega) ?_)|(refine A2 (x:=r0) mw (by omega) ?_)|(refine B3 ?_ ?_;kernel_rfl) |refine S2 ?_|(refine T6 ?_ ?_<;>intro h<;>try exact V1 h)|intro el lU lV|intro el lU|exact T4|refine T5 ?_ ?_|intro ex)<;>try conv=>whnf)
    all_goals first
     |(exfalso;omega)
     |exact⟨0+1,lh,by omega,A6 h0⟩
   ·obtain⟨q,hq⟩:∃q,rows[k-1]?=some q:=⟨_,List.getElem?_eq_getElem (by omega)⟩
    have rD:=V4 (pc k hK (i:=k-1) (by omega) hq)
    obtain⟨q0,qt⟩:∃z,q[0]?=some z:=⟨_,List.getElem?_eq_getElem (by omega)⟩
    rw[E4 hq,Q5 qt]at hx
    have nC:rows[((k:Int)-1).toNat]?=some q:=by rw[show ((k:Int)-1).toNat=k-1 by omega];exact hq
    by_cases mX:r0≤q0
    ·rw[if_pos ⟨by omega,mX⟩]at hx
     have nP:=pZ k hK ny (by rw[hx];decide)
     rw[hx]at nP
     repeat'((first|refine A1 hf ?_|(refine A2 (x:=q) nC (by omega) ?_)|(refine A2 (x:=q0) qt (by omega) ?_)|(refine A2 (x:=r) ny (by omega) ?_)|(refine A2 (x:=r0) mw (by omega) ?_)|(refine B3 ?_ ?_;kernel_rfl) |refine S2 ?_|(refine T6 ?_ ?_<;>intro h<;>try exact V1 h)|intro el lU lV|intro el lU|exact T4|refine T5 ?_ ?_|intro ex)<;>try conv=>whnf)
     all_goals first
      |(exfalso;omega)
      |exact A0 rfl (congrArg AV.i nP)
    ·rw[if_neg (fun h=>mX h.2)]at hx
     have lh:=nE k hK ny hx
     repeat'((first|refine A1 hf ?_|(refine A2 (x:=q) nC (by omega) ?_)|(refine A2 (x:=q0) qt (by omega) ?_)|(refine A2 (x:=r) ny (by omega) ?_)|(refine A2 (x:=r0) mw (by omega) ?_)|(refine B3 ?_ ?_;kernel_rfl) |refine S2 ?_|(refine T6 ?_ ?_<;>intro h<;>try exact V1 h)|intro el lU lV|intro el lU|exact T4|refine T5 ?_ ?_|intro ex)<;>try conv=>whnf)
     all_goals first
      |(exfalso;omega)
      |exact⟨k+1,lh,by omega,A6 h0⟩
 ·have hd:=pS k hK (by omega)
  repeat'((first|refine S2 ?_|(refine T6 ?_ ?_<;>intro h<;>try exact V1 h)|intro el lU lV|intro el lU|exact T4|refine T5 ?_ ?_|intro ex)<;>try conv=>whnf)
  all_goals first
   |(exfalso;omega)
   |exact A0 rfl (congrArg AV.i hd.symm)
theorem W7(n lo hi:Int):A3 Tryz.prog 137 [.i n,.i lo,.i hi] (.b (decide (lo≤n∧n≤hi))):=by
 refine B6 Tryz.func137 15 fun lW E h0=>?_
 clear lW
 repeat'((first|refine S2 ?_|(refine T6 ?_ ?_<;>intro h<;>try exact V1 h)|intro el lU lV|intro el lU|exact T4|refine T5 ?_ ?_|intro ex)<;>try conv=>whnf)
 all_goals first
  |exact A0 rfl (congrArg AV.b (decide_eq_true (by omega)).symm)
  |exact A0 rfl (congrArg AV.b (decide_eq_false (by omega)).symm)
  |exact A0 rfl (congrArg AV.b (by simp only[*,true_and]))
def Hn(ws:List Int)(k:Nat):Prop:=k≤ws.length∧((k=0)∨(0<k∧1≤ws.getD (k-1) 0∧Q4 ws=EC (ws.getD (k-1) 0) (ws.drop k)))
theorem Hn.wat{ws:List Int}{k:Nat}(h:Hn ws k):DU ws k (if k=0 then 1 else ws.getD (k-1) 0):=by
 refine⟨h.1,?_⟩
 rcases h.2 with h2|h2
 ·left;rw[if_pos h2];exact⟨h2,rfl⟩
 ·right;rw[if_neg (by omega)];exact h2
theorem Hn.of{ws:List Int}{k:Nat}{w:Int}(hw:ws[k]?=some w)(h:DU ws (k+1) w):Hn ws (k+1):=by
 refine⟨h.1,.inr ?_⟩
 rcases h.2 with h2|h2
 ·omega
 ·rw[Nat.add_sub_cancel,E4 hw];exact h2
theorem dI{α:Type}{ws:List α}{k:Nat}{q d:α}(h:0<(k:Int))(hq:ws[((k:Int)-1).toNat]?=some q):ws.getD (k-1) d=q:=E4 (by rw[←hq];congr 1;omega)
theorem Hn.prev{ws:List Int}{k:Nat}{q:Int}(h:Hn ws k)(h0:0<(k:Int))(hq:ws[((k:Int)-1).toNat]?=some q):DU ws k q∧1≤q:=by
 have h1:=h.wat
 rw[if_neg (by omega),dI h0 hq]at h1
 exact⟨h1,h1.pos⟩
theorem Qt(c:D4):A3 Tryz.prog 189 [S9 c] (.i (meaE c)):=by
 have qh:=W7 c.low (-1000000) 1000000
 have pX:=W7 c.high (-1000000) 1000000
 refine B6 Tryz.func189 79 fun lW E h0=>?_
 have lX:c.widths.length≤9223372036854775807:=by
  have:=((lW (S9 c) (by simp)).agg (.sl 1 (c.widths.map wA)) (by simp)).sl
  simpa using this
 clear lW
 repeat'((first|refine A1 qh ?_|refine A1 pX ?_ |refine S2 ?_|(refine T6 ?_ ?_<;>intro h<;>try exact V1 h)|intro el lU lV|intro el lU|exact T4|refine T5 ?_ ?_|intro ex)<;>try conv=>whnf)
 all_goals first
  |(refine A0 rfl (congrArg AV.i ?_);rw[meaE,if_pos (by omega)];done)
  |(refine A0 rfl (congrArg AV.i ?_);rw[meaE,if_neg (by omega),if_pos (by omega)];done)
  |skip
 have hm:meaE c=if Q4 c.widths=true then 0 else 2:=by rw[meaE,if_neg (by omega),if_neg (by omega)]
 have hne:c.widths.length≠0:=by omega
 rw[hm]
 refine B0 (ι:=Nat) (fun k=>⟨[(1,.ref 0 0),(3,.i k)],1,[(0,some (.box (X0 c)))]⟩) (fun k=>Hn c.widths k) (fun k=>c.widths.length-k) 0 ⟨Nat.zero_le _,.inl rfl⟩ (A6 h0) (fun k hI=>?_)
 have hk:=hI.1
 repeat'((first|(refine I4 ?_ ?_;(have:=(hI.prev (by assumption) lU).2;omega)) |refine S2 ?_|(refine T6 ?_ ?_<;>intro h<;>try exact V1 h)|intro el lU lV|intro el lU|exact T4|refine T5 ?_ ?_|intro ex)<;>try conv=>whnf)
 all_goals first
  |exact⟨k+1,Hn.of lU (hI.wat.first lU (by omega) (by omega)),by omega,A6 h0⟩
  |exact A0 rfl (congrArg AV.i (by rw[hI.wat.bad0 lU (by omega) (by omega)];rfl))
  |exact A0 rfl (congrArg AV.i (by rw[(hI.prev (by assumption) lU).1.bad (by assumption) (by omega) (fun hx=>by first|exact absurd hx.2.1 (by assumption)|omega)];rfl))
  |exact⟨k+1,Hn.of (by assumption) ((hI.prev (by assumption) lU).1.next (by assumption) (by omega) (by omega) (Classical.byContradiction (by assumption)) (by omega)),by omega,A6 h0⟩
  |exact A0 rfl (congrArg AV.i (by rw[hI.wat.done (by assumption) hne];rfl))
theorem dJ{s:A4}{i:Nat}{c:D4}(hn:D6 c.name=true)(hd:GP s i c=true):10=colE s i c:=by
 rw[colE,if_neg (by rw[hn];decide),if_pos hd]
theorem JY{s:A4}{i:Nat}{c:D4}{e:Int}(hn:D6 c.name=true)(hd:GP s i c=false)(hk:kindE s i c=e)(he:e≠0):e=colE s i c:=by
 rw[colE,if_neg (by rw[hn];decide),if_neg (by rw[hd];decide),hk,if_neg he]
theorem QP{s:A4}{i:Nat}{c:D4}{b:Bool}(hn:D6 c.name=true)(hd:GP s i c=false)(hk:kindE s i c=0)(hu:Ea c=b):(if b=true then 0 else 11)=colE s i c:=by
 unfold colE
 simp only[hn,hd,hk,hu,if_true,if_false,Bool.true_eq_false,Bool.false_eq_true]
theorem TV(s:A4)(i:Nat)(c:D4)(hc:s.cols[i]?=some c)(mr:i<9223372036854775807):A3 Tryz.prog 135 [sA s,.i i] (.i (colE s i c)):=by
 have hi:=F5 hc
 have qh:=W7 c.kind 1 3
 have pX:=W7 c.lst 0 ((s.lists.length:Int)-1)
 have oW:=Qt c
 generalize hm:meaE c=m at oW
 refine B6 Tryz.func135 98 fun lW E h0=>?_
 obtain⟨nL,mO,nk⟩:=X3 (s:=s) (lW _ (by simp))
 clear lW
 repeat'((first|(refine A2 (x:=c) (by simpa using hc) (by omega) ?_)|refine A1 (AE _) ?_ |refine S2 ?_|(refine T6 ?_ ?_<;>intro h<;>try exact V1 h)|intro el lU lV|intro el lU|exact T4|refine T5 ?_ ?_|intro ex)<;>try conv=>whnf)
 all_goals first
  |(refine A0 rfl (congrArg AV.i ?_);rw[colE,if_pos h];done)
  |skip
 have hn:=h
 clear h
 refine B0 (ι:=Nat) (fun k=>⟨[(1,.i i),(2,.ref 0 0),(5,.ref 1 0),(6,.i k)],2,[(0,some (.box (sL s))),(1,some (.box (X0 c)))]⟩) (fun k=>k≤i∧P7 (fun x=>decide (x.name=c.name)) (s.cols.take i) k) (fun k=>i-k) 0 ⟨Nat.zero_le _,P7.zero _ _⟩ (A6 h0) (fun k hI=>?_)
 obtain⟨hk,hI⟩:=hI
 have zU:(s.cols.take i).length=i:=by rw[List.length_take];omega
 have rU:∀el,(k:Int)<i→s.cols[k]?=some el→(s.cols.take i)[k]?=some el:=fun el h1 h2=>by rw[List.getElem?_take_of_lt (by omega)];exact h2
 repeat'((first|refine A1 qh ?_|refine A1 pX ?_|refine A1 oW ?_ |refine S2 ?_|(refine T6 ?_ ?_<;>intro h<;>try exact V1 h)|intro el lU lV|intro el lU|exact T4|refine T5 ?_ ?_|intro ex)<;>try conv=>whnf)
 all_goals first
  |(refine A0 rfl (congrArg AV.i ?_);exact dJ hn (hI.hit (rU _ (by assumption) lU) (decide_eq_true (by assumption))).symm)
  |exact⟨k+1,⟨by omega,hI.step (rU _ (by assumption) lU) (decide_eq_false (by assumption))⟩,by omega,A6 h0⟩
  |skip
 all_goals
  have hd:GP s i c=false:=(hI.done (by omega)).symm
  refine A0 rfl (congrArg AV.i ?_)
  clear hI rU zU qh pX oW nk h0 E hc
 all_goals first
  |exact JY (e:=4) hn hd (by unfold kindE;simp only[hm];(repeat' split)<;>first|rfl|omega) (by decide)
  |exact JY (e:=5) hn hd (by unfold kindE;simp only[hm];(repeat' split)<;>first|rfl|omega) (by decide)
  |exact JY (e:=m) hn hd (by unfold kindE;simp only[hm];(repeat' split)<;>first|rfl|omega) (by assumption)
  |exact QP (b:=true) hn hd (by unfold kindE;simp only[hm];(repeat' split)<;>first|rfl|omega) (decide_eq_true ⟨by omega,by first|exact .inl (by omega)|exact .inr ⟨by omega,by omega,by omega,by assumption⟩⟩)
  |exact QP (b:=false) hn hd (by unfold kindE;simp only[hm];(repeat' split)<;>first|rfl|omega) (decide_eq_false (fun hx=>by
    obtain⟨wo,ox⟩:=hx
    rcases ox with h3|⟨h4,h5,h6,h7⟩
    ·omega
    ·first|omega|exact absurd (h.symm.trans h7) (by decide)))
theorem dK{ls:List CL}{k:Nat}{el:CL}(h:chk el.1 el.2=0)(hd:true=(ls.take k).any fun x=>decide (x.1=el.1)):b9 ls k el=10:=by rw[b9,if_pos h,if_pos hd.symm]
theorem gM{ls:List CL}{k:Nat}{el:CL}(h:chk el.1 el.2=0)(hd:false=(ls.take k).any fun x=>decide (x.1=el.1)):b9 ls k el=0:=by rw[b9,if_pos h,if_neg (by rw[←hd];decide)]
theorem T3(s:A4):A3 Tryz.prog 79 [sA s] (.i (C3 s)):=by
 refine B6 Tryz.func79 77 fun lW E h0=>?_
 obtain⟨nL,mO,nk⟩:=X3 (s:=s) (lW _ (by simp))
 clear lW
 repeat'((first|refine S2 ?_|(refine T6 ?_ ?_<;>intro h<;>try exact V1 h)|intro el lU lV|intro el lU|exact T4|refine T5 ?_ ?_|intro ex)<;>try conv=>whnf)
 all_goals first
  |exact A0 rfl (congrArg AV.i (by rw[C3,if_pos (by omega)]))
  |skip
 have hs:C3 s=if F0 (b9 s.lists) 0 s.lists=0 then (if s.cols.head?.map (·.kind)=some 1 then F0 (colE s) 0 s.cols else 7)else F0 (b9 s.lists) 0 s.lists:=by rw[C3,if_neg (by omega)]
 rw[hs]
 refine B0 (ι:=Nat) (fun k=>⟨[(1,.ref 0 0),(3,.i k)],1,[(0,some (.box (sL s)))]⟩) (fun k=>E9 (b9 s.lists) s.lists k) (fun k=>s.lists.length-k) 0 (E9.zero _ _) (A6 h0) (fun k hI=>?_)
 have hk:=hI.1
 repeat'((first|refine A1 (Bs _ _ (nk _ (List.mem_of_getElem? lU))) ?_ |refine S2 ?_|(refine T6 ?_ ?_<;>intro h<;>try exact V1 h)|intro el lU lV|intro el lU|exact T4|refine T5 ?_ ?_|intro ex)<;>try conv=>whnf)
 all_goals first
  |(refine A0 rfl (congrArg AV.i ?_)
    have he:b9 s.lists k el=chk el.1 el.2:=by rw[b9,if_neg (by assumption)]
    rw[←hI.hit lU (by rw[he];assumption),he,if_neg (by assumption)];done)
  |(have hd:=hI.done (by assumption)
    refine A0 rfl (congrArg AV.i ?_)
    rw[if_pos hd,if_neg]
    intro hx
    rw[List.head?_eq_getElem?]at hx
    first
     |(rw[show s.cols[0]?=none from List.getElem?_eq_none (by omega)]at hx;cases hx)
     |(have nT:s.cols[0]?=some el:=lU
       rw[nT]at hx
       have:=Option.some.inj hx
       exact absurd this (by assumption)))
  |skip
 ·have pH:chk el.1 el.2=0:=Classical.byContradiction (by assumption)
  refine B0 (ι:=Nat) (fun j=>⟨[(1,.ref 0 0),(3,.i k),(5,.i j)],1,[(0,some (.box (sL s)))]⟩) (fun j=>j≤k∧P7 (fun x=>decide (x.1=el.1)) (s.lists.take k) j) (fun j=>k-j) 0 ⟨Nat.zero_le _,P7.zero _ _⟩ (A6 h0) (fun j hJ=>?_)
  obtain⟨hj,hJ⟩:=hJ
  have rU:∀x,(j:Int)<k→s.lists[j]?=some x→(s.lists.take k)[j]?=some x:=fun x h1 h2=>by rw[List.getElem?_take_of_lt (by omega)];exact h2
  have uE:=lU
  have zU:(s.lists.take k).length=k:=by rw[List.length_take];omega
  repeat'((first|(refine A2 (x:=el) uE (by omega) ?_) |refine S2 ?_|(refine T6 ?_ ?_<;>intro h<;>try exact V1 h)|intro el lU lV|intro el lU|exact T4|refine T5 ?_ ?_|intro ex)<;>try conv=>whnf)
  all_goals first
   |exact⟨j+1,⟨by omega,hJ.step (rU _ (by assumption) lU) (decide_eq_false (by assumption))⟩,by omega,A6 h0⟩
   |(refine A0 rfl (congrArg AV.i ?_)
     have he:=dK pH (hJ.hit (rU _ (by assumption) lU) (decide_eq_true (by assumption)))
     rw[←hI.hit uE (by rw[he];decide),he];rfl)
   |exact⟨k+1,hI.step uE (gM pH (hJ.done (by omega))),by omega,A6 h0⟩
 have hd:=hI.done (by assumption)
 have hh:s.cols.head?.map (·.kind)=some 1:=by
  rw[List.head?_eq_getElem?]
  have nT:s.cols[0]?=some el:=lU
  rw[nT]
  exact congrArg some (Classical.byContradiction (by assumption))
 rw[if_pos hd,if_pos hh]
 refine B0 (ι:=Nat) (fun k=>⟨[(1,.ref 0 0),(6,.i k)],1,[(0,some (.box (sL s)))]⟩) (fun k=>E9 (colE s) s.cols k) (fun k=>s.cols.length-k) 0 (E9.zero _ _) (A6 h0) (fun k hI=>?_)
 have hk:=hI.1
 have rA:=fun (h:(k:Int)<s.cols.length)=>TV s k (s.cols[k]'(by omega)) (List.getElem?_eq_getElem (by omega)) (by omega)
 repeat'((first|refine A1 (rA (by assumption)) ?_ |refine S2 ?_|(refine T6 ?_ ?_<;>intro h<;>try exact V1 h)|intro el lU lV|intro el lU|exact T4|refine T5 ?_ ?_|intro ex)<;>try conv=>whnf)
 all_goals first
  |exact⟨k+1,hI.step (List.getElem?_eq_getElem (by omega)) (Classical.byContradiction (by assumption)),by omega,A6 h0⟩
  |exact A0 rfl (congrArg AV.i (hI.hit (List.getElem?_eq_getElem (by omega)) (by assumption)))
  |exact A0 rfl (congrArg AV.i (hI.done (by assumption)).symm)
theorem Xv{nm:List UInt8}{cs:List Code}(h:chk nm cs=0){v:Int}(hv:0≤v∧v<cs.length):decide (S7 nm cs v=C4 nm cs-1)=W5 cs v:=by
 obtain⟨n,rfl⟩:=Int.eq_ofNat_of_zero_le hv.1
 have:=He h (v:=n) (by omega)
 cases hl:W5 cs n with
 |true=>exact decide_eq_true (this.2 hl)
 |false=>exact decide_eq_false (fun e=>by have:=this.1 e;rw[hl]at this;cases this)
theorem LG(s:A4)(column v:Int)(hr:C3 s=0){c:D4}(pH:0≤column)(hc:s.cols[column.toNat]?=some c):A3 Tryz.prog 150 [sA s,.i column,.i v] (.b (BX s c v)):=by
 have hi:=F5 hc
 have nS:=fun hk=>AY.lst hr (List.mem_of_getElem? hc) hk
 have qh:=W7 v 1 1048575
 have pX:=fun n:Nat=>W7 v 0 ((n:Int)-1)
 have xI:=W7 v c.low c.high
 have mT:=(D5 hr).2.2.1
 have oO:=fun (l:CL) (hl:s.lists[c.lst.toNat]?=some l)=>LA l.1 l.2 v (by have:=(I1 (mT l (List.mem_of_getElem? hl))).2.2;omega)
 have ut:=fun (l:CL) (hl:s.lists[c.lst.toNat]?=some l)=>FJ l.1 l.2 (by have:=(I1 (mT l (List.mem_of_getElem? hl))).2.2;omega)
 have qY:=fun (l:CL) (hl:s.lists[c.lst.toNat]?=some l)=>And.intro (I1 (mT l (List.mem_of_getElem? hl))).2 (n9 (nm:=l.1) (cs:=l.2) (by have:=(I1 (mT l (List.mem_of_getElem? hl))).2.2;omega))
 refine B6 Tryz.func150 57 fun lW E h0=>?_
 clear lW
 repeat'((first|(refine A2 (x:=c) hc (by omega) ?_)|refine A1 qh ?_|refine A1 (pX _) ?_|refine A1 xI ?_|refine A1 (oO _ mZ) ?_|refine A1 (ut _ mZ) ?_|(refine B3 ?_ ?_;kernel_rfl)|(refine o8 ?_ ?_ (fun lx mZ=>?_);(have:=nS (by assumption);omega);(have:=nS (by assumption);omega))|(refine I4 ?_ ?_;(have:=qY _ mZ;omega)) |refine S2 ?_|(refine T6 ?_ ?_<;>intro h<;>try exact V1 h)|intro el lU lV|intro el lU|exact T4|refine T5 ?_ ?_|intro ex)<;>try conv=>whnf)
 all_goals refine A0 rfl (congrArg AV.b ?_)
 all_goals first
  |(rw[BX,if_pos (by assumption)];done)
  |(rw[BX,if_neg (by assumption),if_pos (by assumption),H8 mZ,decide_eq_false (p:=0≤v∧v<(lx.2.length:Int)) (by omega),Bool.false_and];done)
  |(rw[BX,if_neg (by assumption),if_pos (by assumption),H8 mZ,decide_eq_true (p:=0≤v∧v<(lx.2.length:Int)) (by omega),Bool.true_and,Xv (mT lx (List.mem_of_getElem? mZ)) (by omega)];done)
  |(rw[BX,if_neg (by assumption),if_neg (by assumption)];simp only[*,Bool.true_and,Bool.false_and,decide_true,decide_false,Bool.or_true,Bool.or_false,Bool.false_or,Bool.true_or];done)
end Go.Proofs.YtiphlhoclaogjaaGreatDoor

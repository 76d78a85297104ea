/- Chapter 18: which extracts are right: the program. -/
import Derived.Test.YtiphlhoclaogjaaGreatDoorQTa0
import Derived.Test.YtiphlhoclaogjaaGreatDoorQB7
import Derived.Test.YtiphlhoclaogjaaGreatDoorQB4
import Derived.Test.YtiphlhoclaogjaaGreatDoorQCm2
import Derived.Test.YtiphlhoclaogjaaGreatDoorQCd1
set_option linter.unusedVariables false
set_option linter.unnecessarySimpa false
set_option linter.unusedSimpArgs false
set_option maxHeartbeats 64000000
namespace Go.Proofs.YtiphlhoclaogjaaGreatDoor
open Go Go.Av
attribute [local irreducible] C7 B1 D1 C8 DQ D0 C6 St.le A3 B8
set_option maxRecDepth 100000
theorem o5{s:A4}{picks:List Pk}{r:List Int}(h:j8 s picks r=true):r.length=picks.length+1:=by
 unfold j8 at h
 rw[Bool.and_eq_true,decide_eq_true_eq]at h
 exact h.1.1
theorem Tj{s:A4}{x:H6}{k:Nat}(h:E8 (w5 s x) x.rows k){i:Nat}{q:List Int}(hi:i<k)(hq:x.rows[i]?=some q):j8 s x.picks q=true:=by
 have:=h.2.2 i q hi hq
 unfold w5 at this
 cases hf:j8 s x.picks q with
 |true=>rfl
 |false=>rw[if_pos hf]at this;cases this
theorem f5(s:A4)(x:H6):A3 Tryz.prog 43 [sA s,f4 x] (.i (R2 s x)):=by
 have h1:=c8 s
 have h2:=Bw x.prj
 have h3:=YM s x.picks
 by_cases e1:¬C5 s=0
 ·rw[R2,if_pos e1]
  refine C1 Tryz.func43 70 fun nd E h0=>?_
  clear nd
  repeat'((first|refine A1 h1 ?_ |refine S2 ?_|(refine T6 ?_ ?_<;>intro h<;>try exact V1 h)|intro el nX nY|intro el nX|exact T4|refine T5 ?_ ?_|intro ex)<;>try conv=>whnf)
  all_goals first
   |(exfalso;omega)
   |exact A0 rfl rfl
 have e1:=Decidable.of_not_not e1
 have h4:=fun r e2=>VY s e1 x.picks e2 r
 have oP:=fun k=>@E8.step _ (w5 s x) x.rows k
 have rX:=fun k=>@E8.hit _ (w5 s x) x.rows k
 have rg:=fun k=>@E8.done _ (w5 s x) x.rows k
 have rW:=fun k=>@Tj s x k
 have hz:=E8.zero (w5 s x) x.rows
 have hex:∀k r,w5 s x k r=if j8 s x.picks r=false then 9 else if 0<k∧r.headD 0≤(x.rows.getD (k-1) []).headD 0 then 10 else 0:=fun _ _=>rfl
 have hE:R2 s x=if D5 x.prj=false then 3 else if x.ver<0∨300<x.ver then 13 else if ¬J7 s x.picks=0 then J7 s x.picks else if 200<x.rows.length then 1 else E4 (w5 s x) 0 x.rows:=by
  rw[R2,if_neg (fun h=>h e1)]
 rw[hE]
 clear hE
 generalize w5 s x=FE at *
 obtain⟨pr,ver,picks,rows⟩:=x
 dsimp only at *
 have hX:f4 ⟨pr,ver,picks,rows⟩=.agg [.str pr,.i ver,.sl 2 (picks.map B6),.sl 1 (rows.map G3)]:=rfl
 rw[hX]
 by_cases e3:D5 pr=false
 ·rw[if_pos e3]
  rw[e3]at h2
  refine C1 Tryz.func43 70 fun nd E h0=>?_
  clear nd
  repeat'((first|refine A1 h1 ?_|refine A1 h2 ?_|refine A1 h3 ?_ |refine S2 ?_|(refine T6 ?_ ?_<;>intro h<;>try exact V1 h)|intro el nX nY|intro el nX|exact T4|refine T5 ?_ ?_|intro ex)<;>try conv=>whnf)
  all_goals first
   |(exfalso;omega)
   |exact A0 rfl rfl
 rw[if_neg e3]
 have e3:D5 pr=true:=by cases h:D5 pr with|true=>rfl|false=>exact absurd h e3
 rw[e3]at h2
 by_cases e4:ver<0∨300<ver
 ·rw[if_pos e4]
  refine C1 Tryz.func43 70 fun nd E h0=>?_
  clear nd
  repeat'((first|refine A1 h1 ?_|refine A1 h2 ?_|refine A1 h3 ?_ |refine S2 ?_|(refine T6 ?_ ?_<;>intro h<;>try exact V1 h)|intro el nX nY|intro el nX|exact T4|refine T5 ?_ ?_|intro ex)<;>try conv=>whnf)
  all_goals first
   |(exfalso;omega)
   |exact A0 rfl rfl
 rw[if_neg e4]
 by_cases e2:¬J7 s picks=0
 ·rw[if_pos e2]
  refine C1 Tryz.func43 70 fun nd E h0=>?_
  clear nd
  repeat'((first|refine A1 h1 ?_|refine A1 h2 ?_|refine A1 h3 ?_ |refine S2 ?_|(refine T6 ?_ ?_<;>intro h<;>try exact V1 h)|intro el nX nY|intro el nX|exact T4|refine T5 ?_ ?_|intro ex)<;>try conv=>whnf)
  all_goals first
   |(exfalso;omega)
   |exact A0 rfl rfl
 rw[if_neg e2]
 have e2:=Decidable.of_not_not e2
 have h4:=fun r=>h4 r e2
 rw[e2]at h3
 refine C1 Tryz.func43 70 fun nd E h0=>?_
 have nZ:rows.length≤9223372036854775807:=by
  have:=((nd (.agg [.str pr,.i ver,.sl 2 (picks.map B6),.sl 1 (rows.map G3)]) (by simp)).agg (.sl 1 (rows.map G3)) (by simp)).sl
  simpa using this
 clear nd
 by_cases e5:200<rows.length
 ·rw[if_pos e5]
  repeat'((first|refine A1 h1 ?_|refine A1 h2 ?_|refine A1 h3 ?_ |refine S2 ?_|(refine T6 ?_ ?_<;>intro h<;>try exact V1 h)|intro el nX nY|intro el nX|exact T4|refine T5 ?_ ?_|intro ex)<;>try conv=>whnf)
  all_goals first
   |(exfalso;omega)
   |exact A0 rfl rfl
 rw[if_neg e5]
 repeat'((first|refine A1 h1 ?_|refine A1 h2 ?_|refine A1 h3 ?_ |refine S2 ?_|(refine T6 ?_ ?_<;>intro h<;>try exact V1 h)|intro el nX nY|intro el nX|exact T4|refine T5 ?_ ?_|intro ex)<;>try conv=>whnf)
 all_goals first
  |(exfalso;omega)
  |skip
 refine B2 (ι:=Nat) (fun k=>⟨[(2,.ref 0 0),(3,.ref 1 0),(40,.sl 1 (rows.map G3)),(41,.i rows.length),(42,.i k)],2,[(0,some (.box (sL s))),(1,some (.box [.str pr,.i ver,.sl 2 (picks.map B6),.sl 1 (rows.map G3)]))]⟩)
  (fun k=>E8 FE rows k) (fun k=>rows.length-k) 0 hz
  (A6 h0) (fun k hK=>?_)
 by_cases no:k<rows.length
 ·obtain⟨r,qe⟩:∃r,rows[k]?=some r:=⟨_,List.getElem?_eq_getElem no⟩
  have hf:=h4 r
  have hx:=hex k r
  cases uR:j8 s picks r with
  |false =>
   rw[uR]at hf hx
   rw[if_pos rfl]at hx
   have oq:=rX k hK qe (by rw[hx];decide)
   rw[hx]at oq
   repeat'((first|refine A1 hf ?_|(refine A2 (x:=r) qe (by omega) ?_) |refine S2 ?_|(refine T6 ?_ ?_<;>intro h<;>try exact V1 h)|intro el nX nY|intro el nX|exact T4|refine T5 ?_ ?_|intro ex)<;>try conv=>whnf)
   all_goals first
    |(exfalso;omega)
    |exact A0 rfl (congrArg AV.i oq)
  |true =>
   have sW:=o5 uR
   rw[uR]at hf hx
   rw[if_neg (by decide)]at hx
   obtain⟨r0,pC⟩:∃z,r[0]?=some z:=⟨_,List.getElem?_eq_getElem (by omega)⟩
   rw[Q7 pC]at hx
   by_cases rE:k=0
   ·subst rE
    rw[if_neg (by omega)]at hx
    have nv:=oP 0 hK qe hx
    repeat'((first|refine A1 hf ?_|(refine A2 (x:=r) qe (by omega) ?_)|(refine A2 (x:=r0) pC (by omega) ?_)|(refine B5 ?_ ?_;kernel_rfl) |refine S2 ?_|(refine T6 ?_ ?_<;>intro h<;>try exact V1 h)|intro el nX nY|intro el nX|exact T4|refine T5 ?_ ?_|intro ex)<;>try conv=>whnf)
    all_goals first
     |(exfalso;omega)
     |exact⟨0+1,nv,by omega,A6 h0⟩
   ·obtain⟨q,hq⟩:∃q,rows[k-1]?=some q:=⟨_,List.getElem?_eq_getElem (by omega)⟩
    have uE:=o5 (rW k hK (i:=k-1) (by omega) hq)
    obtain⟨q0,su⟩:∃z,q[0]?=some z:=⟨_,List.getElem?_eq_getElem (by omega)⟩
    rw[D2 hq,Q7 su]at hx
    have pI:rows[((k:Int)-1).toNat]?=some q:=by rw[show ((k:Int)-1).toNat=k-1 by omega];exact hq
    by_cases ob:r0≤q0
    ·rw[if_pos ⟨by omega,ob⟩]at hx
     have oq:=rX k hK qe (by rw[hx];decide)
     rw[hx]at oq
     repeat'((first|refine A1 hf ?_|(refine A2 (x:=q) pI (by omega) ?_)|(refine A2 (x:=q0) su (by omega) ?_)|(refine A2 (x:=r) qe (by omega) ?_)|(refine A2 (x:=r0) pC (by omega) ?_)|(refine B5 ?_ ?_;kernel_rfl) |refine S2 ?_|(refine T6 ?_ ?_<;>intro h<;>try exact V1 h)|intro el nX nY|intro el nX|exact T4|refine T5 ?_ ?_|intro ex)<;>try conv=>whnf)
     all_goals first
      |(exfalso;omega)
      |exact A0 rfl (congrArg AV.i oq)
    ·rw[if_neg (fun h=>ob h.2)]at hx
     have nv:=oP k hK qe hx
     repeat'((first|refine A1 hf ?_|(refine A2 (x:=q) pI (by omega) ?_)|(refine A2 (x:=q0) su (by omega) ?_)|(refine A2 (x:=r) qe (by omega) ?_)|(refine A2 (x:=r0) pC (by omega) ?_)|(refine B5 ?_ ?_;kernel_rfl) |refine S2 ?_|(refine T6 ?_ ?_<;>intro h<;>try exact V1 h)|intro el nX nY|intro el nX|exact T4|refine T5 ?_ ?_|intro ex)<;>try conv=>whnf)
     all_goals first
      |(exfalso;omega)
      |exact⟨k+1,nv,by omega,A6 h0⟩
 ·have hd:=rg k hK (by omega)
  repeat'((first|refine S2 ?_|(refine T6 ?_ ?_<;>intro h<;>try exact V1 h)|intro el nX nY|intro el nX|exact T4|refine T5 ?_ ?_|intro ex)<;>try conv=>whnf)
  all_goals first
   |(exfalso;omega)
   |exact A0 rfl (congrArg AV.i hd.symm)
theorem d8(n lo hi:Int):A3 Tryz.prog 137 [.i n,.i lo,.i hi] (.b (decide (lo≤n∧n≤hi))):=by
 refine C1 Tryz.func137 15 fun nd E h0=>?_
 clear nd
 repeat'((first|refine S2 ?_|(refine T6 ?_ ?_<;>intro h<;>try exact V1 h)|intro el nX nY|intro el nX|exact T4|refine T5 ?_ ?_|intro ex)<;>try conv=>whnf)
 all_goals first
  |exact A0 rfl (congrArg AV.b (decide_eq_true (by omega)).symm)
  |exact A0 rfl (congrArg AV.b (decide_eq_false (by omega)).symm)
  |exact A0 rfl (congrArg AV.b (by simp only[*,true_and]))
def Ho(ws:List Int)(k:Nat):Prop:=k≤ws.length∧((k=0)∨(0<k∧1≤ws.getD (k-1) 0∧Q5 ws=Dm (ws.getD (k-1) 0) (ws.drop k)))
theorem Ho.wat{ws:List Int}{k:Nat}(h:Ho ws k):DF ws k (if k=0 then 1 else ws.getD (k-1) 0):=by
 refine⟨h.1,?_⟩
 rcases h.2 with h2|h2
 ·left;rw[if_pos h2];exact⟨h2,rfl⟩
 ·right;rw[if_neg (by omega)];exact h2
theorem Ho.of{ws:List Int}{k:Nat}{w:Int}(hw:ws[k]?=some w)(h:DF ws (k+1) w):Ho ws (k+1):=by
 refine⟨h.1,.inr ?_⟩
 rcases h.2 with h2|h2
 ·omega
 ·rw[Nat.add_sub_cancel,D2 hw];exact h2
theorem eh{α:Type}{ws:List α}{k:Nat}{q d:α}(h:0<(k:Int))(hq:ws[((k:Int)-1).toNat]?=some q):ws.getD (k-1) d=q:=D2 (by rw[←hq];congr 1;omega)
theorem Ho.prev{ws:List Int}{k:Nat}{q:Int}(h:Ho ws k)(h0:0<(k:Int))(hq:ws[((k:Int)-1).toNat]?=some q):DF ws k q∧1≤q:=by
 have h1:=h.wat
 rw[if_neg (by omega),eh h0 hq]at h1
 exact⟨h1,h1.pos⟩
theorem RF(c:D6):A3 Tryz.prog 189 [T7 c] (.i (meaE c)):=by
 have ss:=d8 c.low (-1000000) 1000000
 have rZ:=d8 c.high (-1000000) 1000000
 refine C1 Tryz.func189 79 fun nd E h0=>?_
 have nZ:c.widths.length≤9223372036854775807:=by
  have:=((nd (T7 c) (by simp)).agg (.sl 1 (c.widths.map wA)) (by simp)).sl
  simpa using this
 clear nd
 repeat'((first|refine A1 ss ?_|refine A1 rZ ?_ |refine S2 ?_|(refine T6 ?_ ?_<;>intro h<;>try exact V1 h)|intro el nX nY|intro el nX|exact T4|refine T5 ?_ ?_|intro ex)<;>try conv=>whnf)
 all_goals first
  |(refine A0 rfl (congrArg AV.i ?_);rw[meaE,if_pos (by omega)];done)
  |(refine A0 rfl (congrArg AV.i ?_);rw[meaE,if_neg (by omega),if_pos (by omega)];done)
  |skip
 have hm:meaE c=if Q5 c.widths=true then 0 else 2:=by rw[meaE,if_neg (by omega),if_neg (by omega)]
 have hne:c.widths.length≠0:=by omega
 rw[hm]
 refine B2 (ι:=Nat) (fun k=>⟨[(1,.ref 0 0),(3,.i k)],1,[(0,some (.box (Z6 c)))]⟩) (fun k=>Ho c.widths k) (fun k=>c.widths.length-k) 0 ⟨Nat.zero_le _,.inl rfl⟩ (A6 h0) (fun k hI=>?_)
 have hk:=hI.1
 repeat'((first|(refine J0 ?_ ?_;(have:=(hI.prev (by assumption) nX).2;omega)) |refine S2 ?_|(refine T6 ?_ ?_<;>intro h<;>try exact V1 h)|intro el nX nY|intro el nX|exact T4|refine T5 ?_ ?_|intro ex)<;>try conv=>whnf)
 all_goals first
  |exact⟨k+1,Ho.of nX (hI.wat.first nX (by omega) (by omega)),by omega,A6 h0⟩
  |exact A0 rfl (congrArg AV.i (by rw[hI.wat.bad0 nX (by omega) (by omega)];rfl))
  |exact A0 rfl (congrArg AV.i (by rw[(hI.prev (by assumption) nX).1.bad (by assumption) (by omega) (fun hx=>by first|exact absurd hx.2.1 (by assumption)|omega)];rfl))
  |exact⟨k+1,Ho.of (by assumption) ((hI.prev (by assumption) nX).1.next (by assumption) (by omega) (by omega) (Classical.byContradiction (by assumption)) (by omega)),by omega,A6 h0⟩
  |exact A0 rfl (congrArg AV.i (by rw[hI.wat.done (by assumption) hne];rfl))
theorem ep{s:A4}{i:Nat}{c:D6}(hn:D5 c.name=true)(hd:GH s i c=true):10=colE s i c:=by
 rw[colE,if_neg (by rw[hn];decide),if_pos hd]
theorem JZ{s:A4}{i:Nat}{c:D6}{e:Int}(hn:D5 c.name=true)(hd:GH s i c=false)(hk:kindE s i c=e)(he:e≠0):e=colE s i c:=by
 rw[colE,if_neg (by rw[hn];decide),if_neg (by rw[hd];decide),hk,if_neg he]
theorem QV{s:A4}{i:Nat}{c:D6}{b:Bool}(hn:D5 c.name=true)(hd:GH s i c=false)(hk:kindE s i c=0)(hu:EW c=b):(if b=true then 0 else 11)=colE s i c:=by
 unfold colE
 simp only[hn,hd,hk,hu,if_true,if_false,Bool.true_eq_false,Bool.false_eq_true]
theorem Tk(s:A4)(i:Nat)(c:D6)(hc:s.cols[i]?=some c)(oW:i<9223372036854775807):A3 Tryz.prog 135 [sA s,.i i] (.i (colE s i c)):=by
 have hi:=D4 hc
 have ss:=d8 c.kind 1 3
 have rZ:=d8 c.lst 0 ((s.lists.length:Int)-1)
 have qQ:=RF c
 generalize hm:meaE c=m at qQ
 refine C1 Tryz.func135 98 fun nd E h0=>?_
 obtain⟨pH,oM,pT⟩:=Z7 (s:=s) (nd _ (by simp))
 clear nd
 repeat'((first|(refine A2 (x:=c) (by simpa using hc) (by omega) ?_)|refine A1 (u7 _) ?_ |refine S2 ?_|(refine T6 ?_ ?_<;>intro h<;>try exact V1 h)|intro el nX nY|intro el nX|exact T4|refine T5 ?_ ?_|intro ex)<;>try conv=>whnf)
 all_goals first
  |(refine A0 rfl (congrArg AV.i ?_);rw[colE,if_pos h];done)
  |skip
 have hn:=h
 clear h
 refine B2 (ι:=Nat) (fun k=>⟨[(1,.i i),(2,.ref 0 0),(5,.ref 1 0),(6,.i k)],2,[(0,some (.box (sL s))),(1,some (.box (Z6 c)))]⟩) (fun k=>k≤i∧Q1 (fun x=>decide (x.name=c.name)) (s.cols.take i) k) (fun k=>i-k) 0 ⟨Nat.zero_le _,Q1.zero _ _⟩ (A6 h0) (fun k hI=>?_)
 obtain⟨hk,hI⟩:=hI
 have hti:(s.cols.take i).length=i:=by rw[List.length_take];omega
 have tW:∀el,(k:Int)<i→s.cols[k]?=some el→(s.cols.take i)[k]?=some el:=fun el h1 h2=>by rw[List.getElem?_take_of_lt (by omega)];exact h2
 repeat'((first|refine A1 ss ?_|refine A1 rZ ?_|refine A1 qQ ?_ |refine S2 ?_|(refine T6 ?_ ?_<;>intro h<;>try exact V1 h)|intro el nX nY|intro el nX|exact T4|refine T5 ?_ ?_|intro ex)<;>try conv=>whnf)
 all_goals first
  |(refine A0 rfl (congrArg AV.i ?_);exact ep hn (hI.hit (tW _ (by assumption) nX) (decide_eq_true (by assumption))).symm)
  |exact⟨k+1,⟨by omega,hI.step (tW _ (by assumption) nX) (decide_eq_false (by assumption))⟩,by omega,A6 h0⟩
  |skip
 all_goals
  have hd:GH s i c=false:=(hI.done (by omega)).symm
  refine A0 rfl (congrArg AV.i ?_)
  clear hI tW hti ss rZ qQ pT h0 E hc
 all_goals first
  |exact JZ (e:=4) hn hd (by unfold kindE;simp only[hm];(repeat' split)<;>first|rfl|omega) (by decide)
  |exact JZ (e:=5) hn hd (by unfold kindE;simp only[hm];(repeat' split)<;>first|rfl|omega) (by decide)
  |exact JZ (e:=m) hn hd (by unfold kindE;simp only[hm];(repeat' split)<;>first|rfl|omega) (by assumption)
  |exact QV (b:=true) hn hd (by unfold kindE;simp only[hm];(repeat' split)<;>first|rfl|omega) (decide_eq_true ⟨by omega,by first|exact .inl (by omega)|exact .inr ⟨by omega,by omega,by omega,by assumption⟩⟩)
  |exact QV (b:=false) hn hd (by unfold kindE;simp only[hm];(repeat' split)<;>first|rfl|omega) (decide_eq_false (fun hx=>by
    obtain⟨hx1,qc⟩:=hx
    rcases qc with h3|⟨h4,h5,h6,h7⟩
    ·omega
    ·first|omega|exact absurd (h.symm.trans h7) (by decide)))
theorem er{ls:List CL}{k:Nat}{el:CL}(h:chk el.1 el.2=0)(hd:true=(ls.take k).any fun x=>decide (x.1=el.1)):e8 ls k el=10:=by rw[e8,if_pos h,if_pos hd.symm]
theorem iq{ls:List CL}{k:Nat}{el:CL}(h:chk el.1 el.2=0)(hd:false=(ls.take k).any fun x=>decide (x.1=el.1)):e8 ls k el=0:=by rw[e8,if_pos h,if_neg (by rw[←hd];decide)]
theorem S7(s:A4):A3 Tryz.prog 79 [sA s] (.i (C5 s)):=by
 refine C1 Tryz.func79 77 fun nd E h0=>?_
 obtain⟨pH,oM,pT⟩:=Z7 (s:=s) (nd _ (by simp))
 clear nd
 repeat'((first|refine S2 ?_|(refine T6 ?_ ?_<;>intro h<;>try exact V1 h)|intro el nX nY|intro el nX|exact T4|refine T5 ?_ ?_|intro ex)<;>try conv=>whnf)
 all_goals first
  |exact A0 rfl (congrArg AV.i (by rw[C5,if_pos (by omega)]))
  |skip
 have hs:C5 s=if E4 (e8 s.lists) 0 s.lists=0 then (if s.cols.head?.map (·.kind)=some 1 then E4 (colE s) 0 s.cols else 7)else E4 (e8 s.lists) 0 s.lists:=by rw[C5,if_neg (by omega)]
 rw[hs]
 refine B2 (ι:=Nat) (fun k=>⟨[(1,.ref 0 0),(3,.i k)],1,[(0,some (.box (sL s)))]⟩) (fun k=>E8 (e8 s.lists) s.lists k) (fun k=>s.lists.length-k) 0 (E8.zero _ _) (A6 h0) (fun k hI=>?_)
 have hk:=hI.1
 repeat'((first|refine A1 (BF _ _ (pT _ (List.mem_of_getElem? nX))) ?_ |refine S2 ?_|(refine T6 ?_ ?_<;>intro h<;>try exact V1 h)|intro el nX nY|intro el nX|exact T4|refine T5 ?_ ?_|intro ex)<;>try conv=>whnf)
 all_goals first
  |(refine A0 rfl (congrArg AV.i ?_)
    have he:e8 s.lists k el=chk el.1 el.2:=by rw[e8,if_neg (by assumption)]
    rw[←hI.hit nX (by rw[he];assumption),he,if_neg (by assumption)];done)
  |(have hd:=hI.done (by assumption)
    refine A0 rfl (congrArg AV.i ?_)
    rw[if_pos hd,if_neg]
    intro hx
    rw[List.head?_eq_getElem?]at hx
    first
     |(rw[show s.cols[0]?=none from List.getElem?_eq_none (by omega)]at hx;cases hx)
     |(have pV:s.cols[0]?=some el:=nX
       rw[pV]at hx
       have:=Option.some.inj hx
       exact absurd this (by assumption)))
  |skip
 ·have qt:chk el.1 el.2=0:=Classical.byContradiction (by assumption)
  refine B2 (ι:=Nat) (fun j=>⟨[(1,.ref 0 0),(3,.i k),(5,.i j)],1,[(0,some (.box (sL s)))]⟩) (fun j=>j≤k∧Q1 (fun x=>decide (x.1=el.1)) (s.lists.take k) j) (fun j=>k-j) 0 ⟨Nat.zero_le _,Q1.zero _ _⟩ (A6 h0) (fun j hJ=>?_)
  obtain⟨hj,hJ⟩:=hJ
  have tW:∀x,(j:Int)<k→s.lists[j]?=some x→(s.lists.take k)[j]?=some x:=fun x h1 h2=>by rw[List.getElem?_take_of_lt (by omega)];exact h2
  have vj:=nX
  have hti:(s.lists.take k).length=k:=by rw[List.length_take];omega
  repeat'((first|(refine A2 (x:=el) vj (by omega) ?_) |refine S2 ?_|(refine T6 ?_ ?_<;>intro h<;>try exact V1 h)|intro el nX nY|intro el nX|exact T4|refine T5 ?_ ?_|intro ex)<;>try conv=>whnf)
  all_goals first
   |exact⟨j+1,⟨by omega,hJ.step (tW _ (by assumption) nX) (decide_eq_false (by assumption))⟩,by omega,A6 h0⟩
   |(refine A0 rfl (congrArg AV.i ?_)
     have he:=er qt (hJ.hit (tW _ (by assumption) nX) (decide_eq_true (by assumption)))
     rw[←hI.hit vj (by rw[he];decide),he];rfl)
   |exact⟨k+1,hI.step vj (iq qt (hJ.done (by omega))),by omega,A6 h0⟩
 have hd:=hI.done (by assumption)
 have hh:s.cols.head?.map (·.kind)=some 1:=by
  rw[List.head?_eq_getElem?]
  have pV:s.cols[0]?=some el:=nX
  rw[pV]
  exact congrArg some (Classical.byContradiction (by assumption))
 rw[if_pos hd,if_pos hh]
 refine B2 (ι:=Nat) (fun k=>⟨[(1,.ref 0 0),(6,.i k)],1,[(0,some (.box (sL s)))]⟩) (fun k=>E8 (colE s) s.cols k) (fun k=>s.cols.length-k) 0 (E8.zero _ _) (A6 h0) (fun k hI=>?_)
 have hk:=hI.1
 have tM:=fun (h:(k:Int)<s.cols.length)=>Tk s k (s.cols[k]'(by omega)) (List.getElem?_eq_getElem (by omega)) (by omega)
 repeat'((first|refine A1 (tM (by assumption)) ?_ |refine S2 ?_|(refine T6 ?_ ?_<;>intro h<;>try exact V1 h)|intro el nX nY|intro el nX|exact T4|refine T5 ?_ ?_|intro ex)<;>try conv=>whnf)
 all_goals first
  |exact⟨k+1,hI.step (List.getElem?_eq_getElem (by omega)) (Classical.byContradiction (by assumption)),by omega,A6 h0⟩
  |exact A0 rfl (congrArg AV.i (hI.hit (List.getElem?_eq_getElem (by omega)) (by assumption)))
  |exact A0 rfl (congrArg AV.i (hI.done (by assumption)).symm)
theorem Yf{nm:List UInt8}{cs:List Code}(h:chk nm cs=0){v:Int}(hv:0≤v∧v<cs.length):decide (S5 nm cs v=C4 nm cs-1)=Y6 cs v:=by
 obtain⟨n,rfl⟩:=Int.eq_ofNat_of_zero_le hv.1
 have:=Hc h (v:=n) (by omega)
 cases hl:Y6 cs n with
 |true=>exact decide_eq_true (this.2 hl)
 |false=>exact decide_eq_false (fun e=>by have:=this.1 e;rw[hl]at this;cases this)
theorem LI(s:A4)(column v:Int)(hr:C5 s=0){c:D6}(qt:0≤column)(hc:s.cols[column.toNat]?=some c):A3 Tryz.prog 150 [sA s,.i column,.i v] (.b (Ai s c v)):=by
 have hi:=D4 hc
 have pF:=fun hk=>AP.lst hr (List.mem_of_getElem? hc) hk
 have ss:=d8 v 1 1048575
 have rZ:=fun n:Nat=>d8 v 0 ((n:Int)-1)
 have zP:=d8 v c.low c.high
 have om:=(E9 hr).2.2.1
 have qR:=fun (l:CL) (hl:s.lists[c.lst.toNat]?=some l)=>LD l.1 l.2 v (by have:=(I2 (om l (List.mem_of_getElem? hl))).2.2;omega)
 have xp:=fun (l:CL) (hl:s.lists[c.lst.toNat]?=some l)=>FL l.1 l.2 (by have:=(I2 (om l (List.mem_of_getElem? hl))).2.2;omega)
 have rq:=fun (l:CL) (hl:s.lists[c.lst.toNat]?=some l)=>And.intro (I2 (om l (List.mem_of_getElem? hl))).2 (m5 (nm:=l.1) (cs:=l.2) (by have:=(I2 (om l (List.mem_of_getElem? hl))).2.2;omega))
 refine C1 Tryz.func150 57 fun nd E h0=>?_
 clear nd
 repeat'((first|(refine A2 (x:=c) hc (by omega) ?_)|refine A1 ss ?_|refine A1 (rZ _) ?_|refine A1 zP ?_|refine A1 (qR _ ov) ?_|refine A1 (xp _ ov) ?_|(refine B5 ?_ ?_;kernel_rfl)|(refine m9 ?_ ?_ (fun lx ov=>?_);(have:=pF (by assumption);omega);(have:=pF (by assumption);omega))|(refine J0 ?_ ?_;(have:=rq _ ov;omega)) |refine S2 ?_|(refine T6 ?_ ?_<;>intro h<;>try exact V1 h)|intro el nX nY|intro el nX|exact T4|refine T5 ?_ ?_|intro ex)<;>try conv=>whnf)
 all_goals refine A0 rfl (congrArg AV.b ?_)
 all_goals first
  |(rw[Ai,if_pos (by assumption)];done)
  |(rw[Ai,if_neg (by assumption),if_pos (by assumption),I3 ov,decide_eq_false (p:=0≤v∧v<(lx.2.length:Int)) (by omega),Bool.false_and];done)
  |(rw[Ai,if_neg (by assumption),if_pos (by assumption),I3 ov,decide_eq_true (p:=0≤v∧v<(lx.2.length:Int)) (by omega),Bool.true_and,Yf (om lx (List.mem_of_getElem? ov)) (by omega)];done)
  |(rw[Ai,if_neg (by assumption),if_neg (by assumption)];simp only[*,Bool.true_and,Bool.false_and,decide_true,decide_false,Bool.or_true,Bool.or_false,Bool.false_or,Bool.true_or];done)
end Go.Proofs.YtiphlhoclaogjaaGreatDoor

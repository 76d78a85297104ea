/- Chapter 2: the reference's check of schemas. Chapter 2: the reference's check of schemas, whole. Chapter 2: the reference's values and levels. -/
import Derived.Test.YtiphlhoclaogjaaGreatDoorRB7
import Derived.Test.YtiphlhoclaogjaaGreatDoorRB4
import Derived.Test.YtiphlhoclaogjaaGreatDoorRSx
import Derived.Test.YtiphlhoclaogjaaGreatDoorRCd1
set_option linter.unusedVariables false
set_option linter.unnecessarySimpa false
set_option linter.unusedSimpArgs false
set_option maxHeartbeats 64000000
namespace Go.Proofs.YtiphlhoclaogjaaGreatDoor
open Go Go.Av
attribute [local irreducible] C9 B3 C7 D1 DQ D0 C6 St.le A3 B7
set_option maxRecDepth 100000
theorem Y9(n lo hi:Int):A3 Tryz.prog 137 [.i n,.i lo,.i hi] (.b (decide (lo≤n∧n≤hi))):=by
 refine B5 Tryz.func137 15 fun mK E h0=>?_
 clear mK
 repeat'((first|refine S2 ?_|(refine T6 ?_ ?_<;>intro h<;>try exact V1 h)|intro el mI mJ|intro el mI|exact T4|refine T5 ?_ ?_|intro ex)<;>try conv=>whnf)
 all_goals first
  |exact A1 rfl (congrArg AV.b (decide_eq_true (by omega)).symm)
  |exact A1 rfl (congrArg AV.b (decide_eq_false (by omega)).symm)
  |exact A1 rfl (congrArg AV.b (by simp only[*,true_and]))
def Hi(ws:List Int)(k:Nat):Prop:=k≤ws.length∧((k=0)∨(0<k∧1≤ws.getD (k-1) 0∧R3 ws=Dq (ws.getD (k-1) 0) (ws.drop k)))
theorem Hi.wat{ws:List Int}{k:Nat}(h:Hi ws k):DC ws k (if k=0 then 1 else ws.getD (k-1) 0):=by
 refine⟨h.1,?_⟩
 rcases h.2 with h2|h2
 ·left;rw[if_pos h2];exact⟨h2,rfl⟩
 ·right;rw[if_neg (by omega)];exact h2
theorem Hi.of{ws:List Int}{k:Nat}{w:Int}(hw:ws[k]?=some w)(h:DC ws (k+1) w):Hi ws (k+1):=by
 refine⟨h.1,.inr ?_⟩
 rcases h.2 with h2|h2
 ·omega
 ·rw[Nat.add_sub_cancel,D7 hw];exact h2
theorem dO{α:Type}{ws:List α}{k:Nat}{q d:α}(h:0<(k:Int))(hq:ws[((k:Int)-1).toNat]?=some q):ws.getD (k-1) d=q:=D7 (by rw[←hq];congr 1;omega)
theorem Hi.prev{ws:List Int}{k:Nat}{q:Int}(h:Hi ws k)(h0:0<(k:Int))(hq:ws[((k:Int)-1).toNat]?=some q):DC ws k q∧1≤q:=by
 have h1:=h.wat
 rw[if_neg (by omega),dO h0 hq]at h1
 exact⟨h1,h1.pos⟩
theorem Qo(c:D4):A3 Tryz.prog 189 [T3 c] (.i (meaE c)):=by
 have rh:=Y9 c.low (-1000000) 1000000
 have qd:=Y9 c.high (-1000000) 1000000
 refine B5 Tryz.func189 79 fun mK E h0=>?_
 have mL:c.widths.length≤9223372036854775807:=by
  have:=((mK (T3 c) (by simp)).agg (.sl 1 (c.widths.map wA)) (by simp)).sl
  simpa using this
 clear mK
 repeat'((first|refine A0 rh ?_|refine A0 qd ?_ |refine S2 ?_|(refine T6 ?_ ?_<;>intro h<;>try exact V1 h)|intro el mI mJ|intro el mI|exact T4|refine T5 ?_ ?_|intro ex)<;>try conv=>whnf)
 all_goals first
  |(refine A1 rfl (congrArg AV.i ?_);rw[meaE,if_pos (by omega)];done)
  |(refine A1 rfl (congrArg AV.i ?_);rw[meaE,if_neg (by omega),if_pos (by omega)];done)
  |skip
 have hm:meaE c=if R3 c.widths=true then 0 else 2:=by rw[meaE,if_neg (by omega),if_neg (by omega)]
 have hne:c.widths.length≠0:=by omega
 rw[hm]
 refine A9 (ι:=Nat) (fun k=>⟨[(1,.ref 0 0),(3,.i k)],1,[(0,some (.box (U6 c)))]⟩) (fun k=>Hi c.widths k) (fun k=>c.widths.length-k) 0 ⟨Nat.zero_le _,.inl rfl⟩ (A6 h0) (fun k hI=>?_)
 have hk:=hI.1
 repeat'((first|(refine I6 ?_ ?_;(have:=(hI.prev (by assumption) mI).2;omega)) |refine S2 ?_|(refine T6 ?_ ?_<;>intro h<;>try exact V1 h)|intro el mI mJ|intro el mI|exact T4|refine T5 ?_ ?_|intro ex)<;>try conv=>whnf)
 all_goals first
  |exact⟨k+1,Hi.of mI (hI.wat.first mI (by omega) (by omega)),by omega,A6 h0⟩
  |exact A1 rfl (congrArg AV.i (by rw[hI.wat.bad0 mI (by omega) (by omega)];rfl))
  |exact A1 rfl (congrArg AV.i (by rw[(hI.prev (by assumption) mI).1.bad (by assumption) (by omega) (fun hx=>by first|exact absurd hx.2.1 (by assumption)|omega)];rfl))
  |exact⟨k+1,Hi.of (by assumption) ((hI.prev (by assumption) mI).1.next (by assumption) (by omega) (by omega) (Classical.byContradiction (by assumption)) (by omega)),by omega,A6 h0⟩
  |exact A1 rfl (congrArg AV.i (by rw[hI.wat.done (by assumption) hne];rfl))
theorem dP{s:A4}{i:Nat}{c:D4}(hn:D6 c.name=true)(hd:GF s i c=true):10=colE s i c:=by
 rw[colE,if_neg (by rw[hn];decide),if_pos hd]
theorem JO{s:A4}{i:Nat}{c:D4}{e:Int}(hn:D6 c.name=true)(hd:GF s i c=false)(hk:kindE s i c=e)(he:e≠0):e=colE s i c:=by
 rw[colE,if_neg (by rw[hn];decide),if_neg (by rw[hd];decide),hk,if_neg he]
theorem QJ{s:A4}{i:Nat}{c:D4}{b:Bool}(hn:D6 c.name=true)(hd:GF s i c=false)(hk:kindE s i c=0)(hu:ET c=b):(if b=true then 0 else 11)=colE s i c:=by
 unfold colE
 simp only[hn,hd,hk,hu,if_true,if_false,Bool.true_eq_false,Bool.false_eq_true]
theorem TR(s:A4)(i:Nat)(c:D4)(hc:s.cols[i]?=some c)(nO:i<9223372036854775807):A3 Tryz.prog 135 [sA s,.i i] (.i (colE s i c)):=by
 have hi:=F0 hc
 have rh:=Y9 c.kind 1 3
 have qd:=Y9 c.lst 0 ((s.lists.length:Int)-1)
 have pY:=Qo c
 generalize hm:meaE c=m at pY
 refine B5 Tryz.func135 98 fun mK E h0=>?_
 obtain⟨oH,mt,oc⟩:=Z8 (s:=s) (mK _ (by simp))
 clear mK
 repeat'((first|(refine A2 (x:=c) (by simpa using hc) (by omega) ?_)|refine A0 (m9 _) ?_ |refine S2 ?_|(refine T6 ?_ ?_<;>intro h<;>try exact V1 h)|intro el mI mJ|intro el mI|exact T4|refine T5 ?_ ?_|intro ex)<;>try conv=>whnf)
 all_goals first
  |(refine A1 rfl (congrArg AV.i ?_);rw[colE,if_pos h];done)
  |skip
 have hn:=h
 clear h
 refine A9 (ι:=Nat) (fun k=>⟨[(1,.i i),(2,.ref 0 0),(5,.ref 1 0),(6,.i k)],2,[(0,some (.box (sL s))),(1,some (.box (U6 c)))]⟩) (fun k=>k≤i∧P4 (fun x=>decide (x.name=c.name)) (s.cols.take i) k) (fun k=>i-k) 0 ⟨Nat.zero_le _,P4.zero _ _⟩ (A6 h0) (fun k hI=>?_)
 obtain⟨hk,hI⟩:=hI
 have hti:(s.cols.take i).length=i:=by rw[List.length_take];omega
 have pM:∀el,(k:Int)<i→s.cols[k]?=some el→(s.cols.take i)[k]?=some el:=fun el h1 h2=>by rw[List.getElem?_take_of_lt (by omega)];exact h2
 repeat'((first|refine A0 rh ?_|refine A0 qd ?_|refine A0 pY ?_ |refine S2 ?_|(refine T6 ?_ ?_<;>intro h<;>try exact V1 h)|intro el mI mJ|intro el mI|exact T4|refine T5 ?_ ?_|intro ex)<;>try conv=>whnf)
 all_goals first
  |(refine A1 rfl (congrArg AV.i ?_);exact dP hn (hI.hit (pM _ (by assumption) mI) (decide_eq_true (by assumption))).symm)
  |exact⟨k+1,⟨by omega,hI.step (pM _ (by assumption) mI) (decide_eq_false (by assumption))⟩,by omega,A6 h0⟩
  |skip
 all_goals
  have hd:GF s i c=false:=(hI.done (by omega)).symm
  refine A1 rfl (congrArg AV.i ?_)
  clear hI pM hti rh qd pY oc h0 E hc
 all_goals first
  |exact JO (e:=4) hn hd (by unfold kindE;simp only[hm];(repeat' split)<;>first|rfl|omega) (by decide)
  |exact JO (e:=5) hn hd (by unfold kindE;simp only[hm];(repeat' split)<;>first|rfl|omega) (by decide)
  |exact JO (e:=m) hn hd (by unfold kindE;simp only[hm];(repeat' split)<;>first|rfl|omega) (by assumption)
  |exact QJ (b:=true) hn hd (by unfold kindE;simp only[hm];(repeat' split)<;>first|rfl|omega) (decide_eq_true ⟨by omega,by first|exact .inl (by omega)|exact .inr ⟨by omega,by omega,by omega,by assumption⟩⟩)
  |exact QJ (b:=false) hn hd (by unfold kindE;simp only[hm];(repeat' split)<;>first|rfl|omega) (decide_eq_false (fun hx=>by
    obtain⟨sx,pD⟩:=hx
    rcases pD with h3|⟨h4,h5,h6,h7⟩
    ·omega
    ·first|omega|exact absurd (h.symm.trans h7) (by decide)))
theorem dQ{ls:List CL}{k:Nat}{el:CL}(h:chk el.1 el.2=0)(hd:true=(ls.take k).any fun x=>decide (x.1=el.1)):i8 ls k el=10:=by rw[i8,if_pos h,if_pos hd.symm]
theorem ga{ls:List CL}{k:Nat}{el:CL}(h:chk el.1 el.2=0)(hd:false=(ls.take k).any fun x=>decide (x.1=el.1)):i8 ls k el=0:=by rw[i8,if_pos h,if_neg (by rw[←hd];decide)]
theorem Q4(s:A4):A3 Tryz.prog 79 [sA s] (.i (C3 s)):=by
 refine B5 Tryz.func79 77 fun mK E h0=>?_
 obtain⟨oH,mt,oc⟩:=Z8 (s:=s) (mK _ (by simp))
 clear mK
 repeat'((first|refine S2 ?_|(refine T6 ?_ ?_<;>intro h<;>try exact V1 h)|intro el mI mJ|intro el mI|exact T4|refine T5 ?_ ?_|intro ex)<;>try conv=>whnf)
 all_goals first
  |exact A1 rfl (congrArg AV.i (by rw[C3,if_pos (by omega)]))
  |skip
 have hs:C3 s=if F4 (i8 s.lists) 0 s.lists=0 then (if s.cols.head?.map (·.kind)=some 1 then F4 (colE s) 0 s.cols else 7)else F4 (i8 s.lists) 0 s.lists:=by rw[C3,if_neg (by omega)]
 rw[hs]
 refine A9 (ι:=Nat) (fun k=>⟨[(1,.ref 0 0),(3,.i k)],1,[(0,some (.box (sL s)))]⟩) (fun k=>F2 (i8 s.lists) s.lists k) (fun k=>s.lists.length-k) 0 (F2.zero _ _) (A6 h0) (fun k hI=>?_)
 have hk:=hI.1
 repeat'((first|refine A0 (BU _ _ (oc _ (List.mem_of_getElem? mI))) ?_ |refine S2 ?_|(refine T6 ?_ ?_<;>intro h<;>try exact V1 h)|intro el mI mJ|intro el mI|exact T4|refine T5 ?_ ?_|intro ex)<;>try conv=>whnf)
 all_goals first
  |(refine A1 rfl (congrArg AV.i ?_)
    have he:i8 s.lists k el=chk el.1 el.2:=by rw[i8,if_neg (by assumption)]
    rw[←hI.hit mI (by rw[he];assumption),he,if_neg (by assumption)];done)
  |(have hd:=hI.done (by assumption)
    refine A1 rfl (congrArg AV.i ?_)
    rw[if_pos hd,if_neg]
    intro hx
    rw[List.head?_eq_getElem?]at hx
    first
     |(rw[show s.cols[0]?=none from List.getElem?_eq_none (by omega)]at hx;cases hx)
     |(have oL:s.cols[0]?=some el:=mI
       rw[oL]at hx
       have:=Option.some.inj hx
       exact absurd this (by assumption)))
  |skip
 ·have qM:chk el.1 el.2=0:=Classical.byContradiction (by assumption)
  refine A9 (ι:=Nat) (fun j=>⟨[(1,.ref 0 0),(3,.i k),(5,.i j)],1,[(0,some (.box (sL s)))]⟩) (fun j=>j≤k∧P4 (fun x=>decide (x.1=el.1)) (s.lists.take k) j) (fun j=>k-j) 0 ⟨Nat.zero_le _,P4.zero _ _⟩ (A6 h0) (fun j hJ=>?_)
  obtain⟨hj,hJ⟩:=hJ
  have pM:∀x,(j:Int)<k→s.lists[j]?=some x→(s.lists.take k)[j]?=some x:=fun x h1 h2=>by rw[List.getElem?_take_of_lt (by omega)];exact h2
  have uV:=mI
  have hti:(s.lists.take k).length=k:=by rw[List.length_take];omega
  repeat'((first|(refine A2 (x:=el) uV (by omega) ?_) |refine S2 ?_|(refine T6 ?_ ?_<;>intro h<;>try exact V1 h)|intro el mI mJ|intro el mI|exact T4|refine T5 ?_ ?_|intro ex)<;>try conv=>whnf)
  all_goals first
   |exact⟨j+1,⟨by omega,hJ.step (pM _ (by assumption) mI) (decide_eq_false (by assumption))⟩,by omega,A6 h0⟩
   |(refine A1 rfl (congrArg AV.i ?_)
     have he:=dQ qM (hJ.hit (pM _ (by assumption) mI) (decide_eq_true (by assumption)))
     rw[←hI.hit uV (by rw[he];decide),he];rfl)
   |exact⟨k+1,hI.step uV (ga qM (hJ.done (by omega))),by omega,A6 h0⟩
 have hd:=hI.done (by assumption)
 have hh:s.cols.head?.map (·.kind)=some 1:=by
  rw[List.head?_eq_getElem?]
  have oL:s.cols[0]?=some el:=mI
  rw[oL]
  exact congrArg some (Classical.byContradiction (by assumption))
 rw[if_pos hd,if_pos hh]
 refine A9 (ι:=Nat) (fun k=>⟨[(1,.ref 0 0),(6,.i k)],1,[(0,some (.box (sL s)))]⟩) (fun k=>F2 (colE s) s.cols k) (fun k=>s.cols.length-k) 0 (F2.zero _ _) (A6 h0) (fun k hI=>?_)
 have hk:=hI.1
 have qA:=fun (h:(k:Int)<s.cols.length)=>TR s k (s.cols[k]'(by omega)) (List.getElem?_eq_getElem (by omega)) (by omega)
 repeat'((first|refine A0 (qA (by assumption)) ?_ |refine S2 ?_|(refine T6 ?_ ?_<;>intro h<;>try exact V1 h)|intro el mI mJ|intro el mI|exact T4|refine T5 ?_ ?_|intro ex)<;>try conv=>whnf)
 all_goals first
  |exact⟨k+1,hI.step (List.getElem?_eq_getElem (by omega)) (Classical.byContradiction (by assumption)),by omega,A6 h0⟩
  |exact A1 rfl (congrArg AV.i (hI.hit (List.getElem?_eq_getElem (by omega)) (by assumption)))
  |exact A1 rfl (congrArg AV.i (hI.done (by assumption)).symm)
theorem Xt{nm:List UInt8}{cs:List Code}(h:chk nm cs=0){v:Int}(hv:0≤v∧v<cs.length):decide (T1 nm cs v=C5 nm cs-1)=Y7 cs v:=by
 obtain⟨n,rfl⟩:=Int.eq_ofNat_of_zero_le hv.1
 have:=HZ h (v:=n) (by omega)
 cases hl:Y7 cs n with
 |true=>exact decide_eq_true (this.2 hl)
 |false=>exact decide_eq_false (fun e=>by have:=this.1 e;rw[hl]at this;cases this)
theorem Ks(s:A4)(column v:Int)(hr:C3 s=0){c:D4}(qM:0≤column)(hc:s.cols[column.toNat]?=some c):A3 Tryz.prog 150 [sA s,.i column,.i v] (.b (BD s c v)):=by
 have hi:=F0 hc
 have oJ:=fun hk=>z8.lst hr (List.mem_of_getElem? hc) hk
 have rh:=Y9 v 1 1048575
 have qd:=fun n:Nat=>Y9 v 0 ((n:Int)-1)
 have yS:=Y9 v c.low c.high
 have nM:=(D3 hr).2.2.1
 have pa:=fun (l:CL) (hl:s.lists[c.lst.toNat]?=some l)=>Ko l.1 l.2 v (by have:=(G9 (nM l (List.mem_of_getElem? hl))).2.2;omega)
 have wX:=fun (l:CL) (hl:s.lists[c.lst.toNat]?=some l)=>FG l.1 l.2 (by have:=(G9 (nM l (List.mem_of_getElem? hl))).2.2;omega)
 have rr:=fun (l:CL) (hl:s.lists[c.lst.toNat]?=some l)=>And.intro (G9 (nM l (List.mem_of_getElem? hl))).2 (n8 (nm:=l.1) (cs:=l.2) (by have:=(G9 (nM l (List.mem_of_getElem? hl))).2.2;omega))
 refine B5 Tryz.func150 57 fun mK E h0=>?_
 clear mK
 repeat'((first|(refine A2 (x:=c) hc (by omega) ?_)|refine A0 rh ?_|refine A0 (qd _) ?_|refine A0 yS ?_|refine A0 (pa _ nA) ?_|refine A0 (wX _ nA) ?_|(refine B0 ?_ ?_;kernel_rfl)|(refine o9 ?_ ?_ (fun lx nA=>?_);(have:=oJ (by assumption);omega);(have:=oJ (by assumption);omega))|(refine I6 ?_ ?_;(have:=rr _ nA;omega)) |refine S2 ?_|(refine T6 ?_ ?_<;>intro h<;>try exact V1 h)|intro el mI mJ|intro el mI|exact T4|refine T5 ?_ ?_|intro ex)<;>try conv=>whnf)
 all_goals refine A1 rfl (congrArg AV.b ?_)
 all_goals first
  |(rw[BD,if_pos (by assumption)];done)
  |(rw[BD,if_neg (by assumption),if_pos (by assumption),H6 nA,decide_eq_false (p:=0≤v∧v<(lx.2.length:Int)) (by omega),Bool.false_and];done)
  |(rw[BD,if_neg (by assumption),if_pos (by assumption),H6 nA,decide_eq_true (p:=0≤v∧v<(lx.2.length:Int)) (by omega),Bool.true_and,Xt (nM lx (List.mem_of_getElem? nA)) (by omega)];done)
  |(rw[BD,if_neg (by assumption),if_neg (by assumption)];simp only[*,Bool.true_and,Bool.false_and,decide_true,decide_false,Bool.or_true,Bool.or_false,Bool.false_or,Bool.true_or];done)
theorem QK(s:A4)(row:List Int):A3 Tryz.prog 144 [sA s,.sl 1 (row.map wA)] (.i (AH s row)):=by
 refine B5 Tryz.func144 32 fun mK E h0=>?_
 have mL:row.length≤9223372036854775807:=by have:=(mK (.sl 1 (row.map wA)) (by simp)).sl;simpa using this
 clear mK
 repeat'((first|refine A0 (Q4 s) ?_ |refine S2 ?_|(refine T6 ?_ ?_<;>intro h<;>try exact V1 h)|intro el mI mJ|intro el mI|exact T4|refine T5 ?_ ?_|intro ex)<;>try conv=>whnf)
 all_goals first
  |exact A1 rfl (congrArg AV.i (by rw[AH,if_neg (by assumption)]))
  |exact A1 rfl (congrArg AV.i (by rw[AH,if_pos (Classical.byContradiction (by assumption)),if_neg];unfold NJ;rw[decide_eq_false (by omega)];exact Bool.false_ne_true))
  |skip
 have hr:C3 s=0:=Classical.byContradiction (by assumption)
 have hz:(s.cols.zip row).length=row.length:=by rw[List.length_zip];omega
 have tB:AH s row=if (!((s.cols.zip row).any (NI s)))=true then 0 else 9:=by rw[AH,if_pos hr,NJ,decide_eq_true (by omega),Bool.true_and]
 rw[tB]
 refine A9 (ι:=Nat) (fun k=>⟨[(1,.sl 1 (row.map wA)),(2,.ref 0 0),(6,.i k)],1,[(0,some (.box (sL s)))]⟩) (fun k=>P4 (NI s) (s.cols.zip row) k) (fun k=>row.length-k) 0 (P4.zero _ _) (A6 h0) (fun k hI=>?_)
 have hk:=hI.1
 have mV:=fun (v:Int) (hk:(k:Int)<row.length)=>Ks s k v hr (c:=s.cols[k]'(by omega)) (by omega) (by rw[Int.toNat_natCast];exact List.getElem?_eq_getElem (by omega))
 repeat'((first|refine A0 (mV _ (by assumption)) ?_|(refine B0 ?_ ?_;kernel_rfl) |refine S2 ?_|(refine T6 ?_ ?_<;>intro h<;>try exact V1 h)|intro el mI mJ|intro el mI|exact T4|refine T5 ?_ ?_|intro ex)<;>try conv=>whnf)
 all_goals first
  |(refine A1 rfl (congrArg AV.i ?_)
    rw[←hI.hit (KC (List.getElem?_eq_getElem (by omega)) mI) (by simp only[NI, *];rfl)];rfl)
  |exact⟨k+1,hI.step (KC (List.getElem?_eq_getElem (by omega)) mI) (by simp only[NI, *];rfl),by omega,A6 h0⟩
  |(refine A1 rfl (congrArg AV.i ?_)
    rw[←hI.done (by omega)];rfl)
theorem L5(s:A4)(column:Int):A3 Tryz.prog 32 [sA s,.i column] (.i (B4 s column)):=by
 refine B5 Tryz.func32 39 fun mK E h0=>?_
 obtain⟨oH,mt,oc⟩:=Z8 (s:=s) (mK _ (by simp))
 have tG:=fun (l:CL) (hl:s.lists[(B8 s column).lst.toNat]?=some l)=>n8 (nm:=l.1) (oc l (List.mem_of_getElem? hl))
 clear mK
 repeat'((first|refine A0 (Q4 s) ?_ |refine S2 ?_|(refine T6 ?_ ?_<;>intro h<;>try exact V1 h)|intro el mI mJ|intro el mI|exact T4|refine T5 ?_ ?_|intro ex)<;>try conv=>whnf)
 all_goals first
  |exact A1 rfl (congrArg AV.i (by rw[B4,if_neg (by assumption)]))
  |exact A1 rfl (congrArg AV.i (by rw[B4,if_pos (Classical.byContradiction (by assumption)),E5,if_pos (by omega)]))
  |skip
 all_goals
  have hr:C3 s=0:=Classical.byContradiction (by assumption)
  rw[B4,if_pos hr]
 repeat'((first|(refine A0 (FG _ _ (oc _ (List.mem_of_getElem? (by assumption)))) ?_)|(refine o9 ?_ ?_ (fun lx nA=>?_);(have:=z8.lst hr (List.mem_of_getElem? mI) (by assumption);omega);(have:=z8.lst hr (List.mem_of_getElem? mI) (by assumption);omega))|(refine I6 ?_ ?_;(have:=tG lx (by rw[C1 mI];exact nA);omega)) |refine S2 ?_|(refine T6 ?_ ?_<;>intro h<;>try exact V1 h)|intro el mI mJ|intro el mI|exact T4|refine T5 ?_ ?_|intro ex)<;>try conv=>whnf)
 all_goals first
  |(refine A1 rfl (congrArg AV.i ?_);rw[E5,if_neg (by omega),C1 mI,M0,if_pos (by assumption),H6 nA];done)
  |(refine A1 rfl (congrArg AV.i ?_);rw[E5,if_neg (by omega),C1 mI,M0,if_neg (by assumption)];done)
theorem Xu(a:Int){b:Int}(h:1≤b):(a.tmod b<0∧a / b=a.tdiv b-1)∨(0≤a.tmod b∧a / b=a.tdiv b):=by
 have h1:=Int.mul_tdiv_add_tmod a b
 have h2:=Int.mul_ediv_add_emod a b
 rcases CJ a h with ⟨h3,h4⟩|⟨h3,h4⟩
 ·left
  refine⟨h3,?_⟩
  have h5:b*(a / b)=b*(a.tdiv b-1):=by rw[Int.mul_sub];omega
  exact Int.eq_of_mul_eq_mul_left (by omega) h5
 ·right
  refine⟨h3,?_⟩
  have h5:b*(a / b)=b*a.tdiv b:=by omega
  exact Int.eq_of_mul_eq_mul_left (by omega) h5
theorem dR(a b:Int){B:Int}(h:-B≤a∧a≤B)(hb:1≤b):-B≤a.tdiv b∧a.tdiv b≤B:=by
 have h2:(a.tdiv b).natAbs≤a.natAbs:=by rw[Int.natAbs_tdiv];exact Nat.div_le_self _ _
 omega
theorem NZ(a b:Int)(hb:1≤b)(ha:-4000000000000≤a∧a≤4000000000000):A3 Tryz.prog 152 [.i a,.i b] (.i (a / b)):=by
 have h1:=Xu a hb
 have h2:=dR a b ha hb
 refine B5 Tryz.func152 16 fun mK E h0=>?_
 clear mK
 repeat'((first|refine S2 ?_|(refine T6 ?_ ?_<;>intro h<;>try exact V1 h)|intro el mI mJ|intro el mI|exact T4|refine T5 ?_ ?_|intro ex)<;>try conv=>whnf)
 all_goals exact A1 rfl (congrArg AV.i (by omega))
theorem Bd(c:D4)(level:Int)(h1:1≤level)(h2:level≤c.widths.length):A3 Tryz.prog 151 [T3 c,.i level] (.i (B1 c level)):=by
 refine B5 Tryz.func151 14 fun mK E h0=>?_
 have mL:c.widths.length≤9223372036854775807:=by
  have:=((mK (T3 c) (by simp)).agg (.sl 1 (c.widths.map wA)) (by simp)).sl
  simpa using this
 clear mK
 repeat'((first|refine S2 ?_|(refine T6 ?_ ?_<;>intro h<;>try exact V1 h)|intro el mI mJ|intro el mI|exact T4|refine T5 ?_ ?_|intro ex)<;>try conv=>whnf)
 all_goals exact A1 rfl (congrArg AV.i (D7 mI).symm)
theorem aW(v w:Int):v / w*w=C8 v w:=by
 unfold C8
 have:=Int.ediv_mul_add_emod v w
 omega
theorem u6(s:A4)(column level v:Int):A3 Tryz.prog 97 [sA s,.i column,.i level,.i v] (.i (G2 s column level v)):=by
 have md:=L5 s column
 have nf:=Y9 level 0 (B4 s column)
 have qd:=Y9 v (-1000000) 1000000
 refine B5 Tryz.func97 59 fun mK E h0=>?_
 obtain⟨oH,mt,oc⟩:=Z8 (s:=s) (mK _ (by simp))
 clear mK
 repeat'((first|refine A0 md ?_|refine A0 nf ?_ |refine S2 ?_|(refine T6 ?_ ?_<;>intro h<;>try exact V1 h)|intro el mI mJ|intro el mI|exact T4|refine T5 ?_ ?_|intro ex)<;>try conv=>whnf)
 all_goals first
  |(refine A1 rfl (congrArg AV.i ?_);rw[G2,if_pos (by omega)];done)
  |skip
 obtain⟨hr,h1,h2,h4⟩:=BE (s:=s) (column:=column) (level:=level) (by omega) (by omega)
 rw[G2,if_neg (by omega)]
 clear md nf
 obtain⟨c,hc⟩:∃c,s.cols[column.toNat]?=some c:=⟨_,List.getElem?_eq_getElem (by omega)⟩
 have mX:=C1 hc
 have nr:=n9 hr h1 hc
 rw[E5,if_neg (by omega),mX]at h4
 rw[mX]
 have mV:=Ks s column v hr (by omega) hc
 have qp:=fun (l:CL) (hl:s.lists[c.lst.toNat]?=some l)=>Su l.1 l.2 v level (oc _ (List.mem_of_getElem? hl))
 have rD:¬c.kind=2→¬level=0→(1≤B1 c level∧B1 c level≤1000000)∧A3 Tryz.prog 151 [T3 c,.i level] (.i (B1 c level)):=by
  intro h5 h7
  have h9:M0 s c=c.widths.length:=by unfold M0;rw[if_neg h5]
  rcases nr with nr|nr
  ·omega
  exact⟨f6 nr.2.2.2.2.2.2 (by omega) (by omega),Bd c level (by omega) (by omega)⟩
 have nV:¬c.kind=2→¬level=0→-1000000≤v∧v≤1000000→A3 Tryz.prog 152 [.i v,.i (B1 c level)] (.i (v / B1 c level)):=fun h5 h6 h7=>NZ _ _ (rD h5 h6).1.1 (by omega)
 have xO:¬c.kind=2→¬level=0→v / B1 c level*B1 c level=C8 v (B1 c level)∧v-B1 c level<C8 v (B1 c level)∧C8 v (B1 c level)≤v:=fun h5 h6=>⟨aW _ _,V9 v (rD h5 h6).1.1⟩
 unfold P8
 generalize B1 c level=w at *
 repeat'((first|(refine A2 (x:=c) hc (by omega) ?_)|refine A0 mV ?_|refine A0 (qp _ (by assumption)) ?_|refine A0 qd ?_|refine A0 (rD (by assumption) (by assumption)).2 ?_|refine A0 (nV (by assumption) (by assumption) (by assumption)) ?_|(refine B0 ?_ ?_;kernel_rfl)|(refine I6 ?_ ?_;(have h6:=xO (by assumption) (by assumption);have h8:=(rD (by assumption) (by assumption)).1;rw[h6.1];omega)) |refine S2 ?_|(refine T6 ?_ ?_<;>intro h<;>try exact V1 h)|intro el mI mJ|intro el mI|exact T4|refine T5 ?_ ?_|intro ex)<;>try conv=>whnf)
 all_goals refine A1 rfl (congrArg AV.i ?_)
 all_goals first
  |(rw[if_pos (by assumption:c.kind=2),if_neg (by rw[h];exact Bool.false_ne_true)];done)
  |(rw[if_pos (by assumption:c.kind=2),if_pos (by assumption),H6 mI];done)
  |(rw[if_neg (by assumption:¬c.kind=2),if_pos (by omega)];done)
  |(rw[if_neg (by assumption:¬c.kind=2),if_neg (by omega),if_pos (by omega)];done)
  |(rw[if_neg (by assumption:¬c.kind=2),if_neg (by omega),if_neg (by omega),if_pos (by omega)];done)
  |(rw[if_neg (by assumption:¬c.kind=2),if_neg (by omega),if_neg (by omega),if_pos (by omega)];omega)
  |(rw[if_neg (by assumption:¬c.kind=2),if_neg (by omega),if_neg (by omega),if_neg (by omega),(xO (by assumption) (by assumption)).1];done)
def M9(c:D4)(level v:Int):Int×Int×Bool :=
 if level=0 then (c.low,c.high,decide (v=0))else if v=(-1099511627776)∨¬(-2000000≤v∧v≤2000000)∨v.tmod (B1 c level)≠0 then (0,0,false)else (max c.low v,min c.high (v+B1 c level-1),decide (max c.low v≤min c.high (v+B1 c level-1)))
theorem Hj(c:D4)(level v:Int)(hc:meaE c=0)(h1:0≤level)(h2:level≤c.widths.length):A3 Tryz.prog 139 [T3 c,.i level,.i v] (XV (M9 c level v)):=by
 have hp:=T7 hc
 have pI:¬level=0→1≤B1 c level∧B1 c level≤1000000:=fun h=>f6 hp.2.2.2.2.2 (by omega) h2
 have rD:¬level=0→A3 Tryz.prog 151 [T3 c,.i level] (.i (B1 c level)):=fun h=>Bd c level (by omega) h2
 have nf:=Y9 v (-2000000) 2000000
 unfold M9
 generalize B1 c level=w at *
 refine B5 Tryz.func139 52 fun mK E h0=>?_
 clear mK
 repeat'((first|refine A0 (rD (by assumption)) ?_|refine A0 nf ?_|(refine I6 ?_ ?_;(have:=pI (by assumption);omega))|(refine B0 ?_ ?_;kernel_rfl) |refine S2 ?_|(refine T6 ?_ ?_<;>intro h<;>try exact V1 h)|intro el mI mJ|intro el mI|exact T4|refine T5 ?_ ?_|intro ex)<;>try conv=>whnf)
 all_goals refine Ev (a:=.i _) (b:=.i _) (c:=.b _) rfl rfl rfl ?_
 all_goals first
  |(rw[if_pos (by assumption)];done)
  |(rw[if_neg (by assumption),if_pos (by first|omega|exact .inr (.inr (by assumption)))];done)
  |(rw[if_neg (by assumption),if_neg (fun hx=>by rcases hx with hx|hx|hx<;>first|omega|exact absurd hx (by assumption))];done)
end Go.Proofs.YtiphlhoclaogjaaGreatDoor

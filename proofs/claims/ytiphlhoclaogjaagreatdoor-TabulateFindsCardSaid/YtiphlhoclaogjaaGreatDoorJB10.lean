/- Chapter 2: the reference's check of schemas. Chapter 2: the reference's check of schemas, whole. Chapter 2: the reference's values and levels. -/
import Derived.Test.YtiphlhoclaogjaaGreatDoorJB7
import Derived.Test.YtiphlhoclaogjaaGreatDoorJB4
import Derived.Test.YtiphlhoclaogjaaGreatDoorJSx
import Derived.Test.YtiphlhoclaogjaaGreatDoorJCd1
set_option linter.unusedVariables false
set_option linter.unnecessarySimpa false
set_option linter.unusedSimpArgs false
set_option maxHeartbeats 64000000
namespace Go.Proofs.YtiphlhoclaogjaaGreatDoor
open Go Go.Av
attribute [local irreducible] C9 B3 C8 D1 DQ D0 C7 St.le A3 B8
set_option maxRecDepth 100000
theorem Z0(n lo hi:Int):A3 Tryz.prog 137 [.i n,.i lo,.i hi] (.b (decide (lo≤n∧n≤hi))):=by
 refine B5 Tryz.func137 15 fun nL E h0=>?_
 clear nL
 repeat'((first|refine S2 ?_|(refine T6 ?_ ?_<;>intro h<;>try exact V1 h)|intro el nJ nK|intro el nJ|exact T4|refine T5 ?_ ?_|intro ex)<;>try conv=>whnf)
 all_goals first
  |exact A1 rfl (congrArg AV.b (decide_eq_true (by omega)).symm)
  |exact A1 rfl (congrArg AV.b (decide_eq_false (by omega)).symm)
  |exact A1 rfl (congrArg AV.b (by simp only[*,true_and]))
def Ii(ws:List Int)(k:Nat):Prop:=k≤ws.length∧((k=0)∨(0<k∧1≤ws.getD (k-1) 0∧R7 ws=Eh (ws.getD (k-1) 0) (ws.drop k)))
theorem Ii.wat{ws:List Int}{k:Nat}(h:Ii ws k):Du ws k (if k=0 then 1 else ws.getD (k-1) 0):=by
 refine⟨h.1,?_⟩
 rcases h.2 with h2|h2
 ·left;rw[if_pos h2];exact⟨h2,rfl⟩
 ·right;rw[if_neg (by omega)];exact h2
theorem Ii.of{ws:List Int}{k:Nat}{w:Int}(hw:ws[k]?=some w)(h:Du ws (k+1) w):Ii ws (k+1):=by
 refine⟨h.1,.inr ?_⟩
 rcases h.2 with h2|h2
 ·omega
 ·rw[Nat.add_sub_cancel,D7 hw];exact h2
theorem eP{α:Type}{ws:List α}{k:Nat}{q d:α}(h:0<(k:Int))(hq:ws[((k:Int)-1).toNat]?=some q):ws.getD (k-1) d=q:=D7 (by rw[←hq];congr 1;omega)
theorem Ii.prev{ws:List Int}{k:Nat}{q:Int}(h:Ii ws k)(h0:0<(k:Int))(hq:ws[((k:Int)-1).toNat]?=some q):Du ws k q∧1≤q:=by
 have h1:=h.wat
 rw[if_neg (by omega),eP h0 hq]at h1
 exact⟨h1,h1.pos⟩
theorem Rl(c:D3):A3 Tryz.prog 189 [U0 c] (.i (meaE c)):=by
 have sy:=Z0 c.low (-1000000) 1000000
 have rW:=Z0 c.high (-1000000) 1000000
 refine B5 Tryz.func189 79 fun nL E h0=>?_
 have nM:c.widths.length≤9223372036854775807:=by
  have:=((nL (U0 c) (by simp)).agg (.sl 1 (c.widths.map wA)) (by simp)).sl
  simpa using this
 clear nL
 repeat'((first|refine A0 sy ?_|refine A0 rW ?_ |refine S2 ?_|(refine T6 ?_ ?_<;>intro h<;>try exact V1 h)|intro el nJ nK|intro el nJ|exact T4|refine T5 ?_ ?_|intro ex)<;>try conv=>whnf)
 all_goals first
  |(refine A1 rfl (congrArg AV.i ?_);rw[meaE,if_pos (by omega)];done)
  |(refine A1 rfl (congrArg AV.i ?_);rw[meaE,if_neg (by omega),if_pos (by omega)];done)
  |skip
 have hm:meaE c=if R7 c.widths=true then 0 else 2:=by rw[meaE,if_neg (by omega),if_neg (by omega)]
 have hne:c.widths.length≠0:=by omega
 rw[hm]
 refine B0 (ι:=Nat) (fun k=>⟨[(1,.ref 0 0),(3,.i k)],1,[(0,some (.box (U6 c)))]⟩) (fun k=>Ii c.widths k) (fun k=>c.widths.length-k) 0 ⟨Nat.zero_le _,.inl rfl⟩ (A6 h0) (fun k hI=>?_)
 have hk:=hI.1
 repeat'((first|(refine J0 ?_ ?_;(have:=(hI.prev (by assumption) nJ).2;omega)) |refine S2 ?_|(refine T6 ?_ ?_<;>intro h<;>try exact V1 h)|intro el nJ nK|intro el nJ|exact T4|refine T5 ?_ ?_|intro ex)<;>try conv=>whnf)
 all_goals first
  |exact⟨k+1,Ii.of nJ (hI.wat.first nJ (by omega) (by omega)),by omega,A6 h0⟩
  |exact A1 rfl (congrArg AV.i (by rw[hI.wat.bad0 nJ (by omega) (by omega)];rfl))
  |exact A1 rfl (congrArg AV.i (by rw[(hI.prev (by assumption) nJ).1.bad (by assumption) (by omega) (fun hx=>by first|exact absurd hx.2.1 (by assumption)|omega)];rfl))
  |exact⟨k+1,Ii.of (by assumption) ((hI.prev (by assumption) nJ).1.next (by assumption) (by omega) (by omega) (Classical.byContradiction (by assumption)) (by omega)),by omega,A6 h0⟩
  |exact A1 rfl (congrArg AV.i (by rw[hI.wat.done (by assumption) hne];rfl))
theorem eQ{s:A4}{i:Nat}{c:D3}(hn:D6 c.name=true)(hd:Gz s i c=true):10=colE s i c:=by
 rw[colE,if_neg (by rw[hn];decide),if_pos hd]
theorem KF{s:A4}{i:Nat}{c:D3}{e:Int}(hn:D6 c.name=true)(hd:Gz s i c=false)(hk:kindE s i c=e)(he:e≠0):e=colE s i c:=by
 rw[colE,if_neg (by rw[hn];decide),if_neg (by rw[hd];decide),hk,if_neg he]
theorem RH{s:A4}{i:Nat}{c:D3}{b:Bool}(hn:D6 c.name=true)(hd:Gz s i c=false)(hk:kindE s i c=0)(hu:FO c=b):(if b=true then 0 else 11)=colE s i c:=by
 unfold colE
 simp only[hn,hd,hk,hu,if_true,if_false,Bool.true_eq_false,Bool.false_eq_true]
theorem UN(s:A4)(i:Nat)(c:D3)(hc:s.cols[i]?=some c)(oI:i<9223372036854775807):A3 Tryz.prog 135 [sA s,.i i] (.i (colE s i c)):=by
 have hi:=E9 hc
 have sy:=Z0 c.kind 1 3
 have rW:=Z0 c.lst 0 ((s.lists.length:Int)-1)
 have qb:=Rl c
 generalize hm:meaE c=m at qb
 refine B5 Tryz.func135 98 fun nL E h0=>?_
 obtain⟨pL,nv,pU⟩:=Z9 (s:=s) (nL _ (by simp))
 clear nL
 repeat'((first|(refine A2 (x:=c) (by simpa using hc) (by omega) ?_)|refine A0 (s9 _) ?_ |refine S2 ?_|(refine T6 ?_ ?_<;>intro h<;>try exact V1 h)|intro el nJ nK|intro el nJ|exact T4|refine T5 ?_ ?_|intro ex)<;>try conv=>whnf)
 all_goals first
  |(refine A1 rfl (congrArg AV.i ?_);rw[colE,if_pos h];done)
  |skip
 have hn:=h
 clear h
 refine B0 (ι:=Nat) (fun k=>⟨[(1,.i i),(2,.ref 0 0),(5,.ref 1 0),(6,.i k)],2,[(0,some (.box (sL s))),(1,some (.box (U6 c)))]⟩) (fun k=>k≤i∧P6 (fun x=>decide (x.name=c.name)) (s.cols.take i) k) (fun k=>i-k) 0 ⟨Nat.zero_le _,P6.zero _ _⟩ (A6 h0) (fun k hI=>?_)
 obtain⟨hk,hI⟩:=hI
 have hti:(s.cols.take i).length=i:=by rw[List.length_take];omega
 have qL:∀el,(k:Int)<i→s.cols[k]?=some el→(s.cols.take i)[k]?=some el:=fun el h1 h2=>by rw[List.getElem?_take_of_lt (by omega)];exact h2
 repeat'((first|refine A0 sy ?_|refine A0 rW ?_|refine A0 qb ?_ |refine S2 ?_|(refine T6 ?_ ?_<;>intro h<;>try exact V1 h)|intro el nJ nK|intro el nJ|exact T4|refine T5 ?_ ?_|intro ex)<;>try conv=>whnf)
 all_goals first
  |(refine A1 rfl (congrArg AV.i ?_);exact eQ hn (hI.hit (qL _ (by assumption) nJ) (decide_eq_true (by assumption))).symm)
  |exact⟨k+1,⟨by omega,hI.step (qL _ (by assumption) nJ) (decide_eq_false (by assumption))⟩,by omega,A6 h0⟩
  |skip
 all_goals
  have hd:Gz s i c=false:=(hI.done (by omega)).symm
  refine A1 rfl (congrArg AV.i ?_)
  clear hI qL hti sy rW qb pU h0 E hc
 all_goals first
  |exact KF (e:=4) hn hd (by unfold kindE;simp only[hm];(repeat' split)<;>first|rfl|omega) (by decide)
  |exact KF (e:=5) hn hd (by unfold kindE;simp only[hm];(repeat' split)<;>first|rfl|omega) (by decide)
  |exact KF (e:=m) hn hd (by unfold kindE;simp only[hm];(repeat' split)<;>first|rfl|omega) (by assumption)
  |exact RH (b:=true) hn hd (by unfold kindE;simp only[hm];(repeat' split)<;>first|rfl|omega) (decide_eq_true ⟨by omega,by first|exact .inl (by omega)|exact .inr ⟨by omega,by omega,by omega,by assumption⟩⟩)
  |exact RH (b:=false) hn hd (by unfold kindE;simp only[hm];(repeat' split)<;>first|rfl|omega) (decide_eq_false (fun hx=>by
    obtain⟨vf,qV⟩:=hx
    rcases qV with h3|⟨h4,h5,h6,h7⟩
    ·omega
    ·first|omega|exact absurd (h.symm.trans h7) (by decide)))
theorem eR{ls:List CL}{k:Nat}{el:CL}(h:chk el.1 el.2=0)(hd:true=(ls.take k).any fun x=>decide (x.1=el.1)):l8 ls k el=10:=by rw[l8,if_pos h,if_pos hd.symm]
theorem il{ls:List CL}{k:Nat}{el:CL}(h:chk el.1 el.2=0)(hd:false=(ls.take k).any fun x=>decide (x.1=el.1)):l8 ls k el=0:=by rw[l8,if_pos h,if_neg (by rw[←hd];decide)]
theorem Q6(s:A4):A3 Tryz.prog 79 [sA s] (.i (C3 s)):=by
 refine B5 Tryz.func79 77 fun nL E h0=>?_
 obtain⟨pL,nv,pU⟩:=Z9 (s:=s) (nL _ (by simp))
 clear nL
 repeat'((first|refine S2 ?_|(refine T6 ?_ ?_<;>intro h<;>try exact V1 h)|intro el nJ nK|intro el nJ|exact T4|refine T5 ?_ ?_|intro ex)<;>try conv=>whnf)
 all_goals first
  |exact A1 rfl (congrArg AV.i (by rw[C3,if_pos (by omega)]))
  |skip
 have hs:C3 s=if F3 (l8 s.lists) 0 s.lists=0 then (if s.cols.head?.map (·.kind)=some 1 then F3 (colE s) 0 s.cols else 7)else F3 (l8 s.lists) 0 s.lists:=by rw[C3,if_neg (by omega)]
 rw[hs]
 refine B0 (ι:=Nat) (fun k=>⟨[(1,.ref 0 0),(3,.i k)],1,[(0,some (.box (sL s)))]⟩) (fun k=>F2 (l8 s.lists) s.lists k) (fun k=>s.lists.length-k) 0 (F2.zero _ _) (A6 h0) (fun k hI=>?_)
 have hk:=hI.1
 repeat'((first|refine A0 (CS _ _ (pU _ (List.mem_of_getElem? nJ))) ?_ |refine S2 ?_|(refine T6 ?_ ?_<;>intro h<;>try exact V1 h)|intro el nJ nK|intro el nJ|exact T4|refine T5 ?_ ?_|intro ex)<;>try conv=>whnf)
 all_goals first
  |(refine A1 rfl (congrArg AV.i ?_)
    have he:l8 s.lists k el=chk el.1 el.2:=by rw[l8,if_neg (by assumption)]
    rw[←hI.hit nJ (by rw[he];assumption),he,if_neg (by assumption)];done)
  |(have hd:=hI.done (by assumption)
    refine A1 rfl (congrArg AV.i ?_)
    rw[if_pos hd,if_neg]
    intro hx
    rw[List.head?_eq_getElem?]at hx
    first
     |(rw[show s.cols[0]?=none from List.getElem?_eq_none (by omega)]at hx;cases hx)
     |(have pP:s.cols[0]?=some el:=nJ
       rw[pP]at hx
       have:=Option.some.inj hx
       exact absurd this (by assumption)))
  |skip
 ·have rL:chk el.1 el.2=0:=Classical.byContradiction (by assumption)
  refine B0 (ι:=Nat) (fun j=>⟨[(1,.ref 0 0),(3,.i k),(5,.i j)],1,[(0,some (.box (sL s)))]⟩) (fun j=>j≤k∧P6 (fun x=>decide (x.1=el.1)) (s.lists.take k) j) (fun j=>k-j) 0 ⟨Nat.zero_le _,P6.zero _ _⟩ (A6 h0) (fun j hJ=>?_)
  obtain⟨hj,hJ⟩:=hJ
  have qL:∀x,(j:Int)<k→s.lists[j]?=some x→(s.lists.take k)[j]?=some x:=fun x h1 h2=>by rw[List.getElem?_take_of_lt (by omega)];exact h2
  have wO:=nJ
  have hti:(s.lists.take k).length=k:=by rw[List.length_take];omega
  repeat'((first|(refine A2 (x:=el) wO (by omega) ?_) |refine S2 ?_|(refine T6 ?_ ?_<;>intro h<;>try exact V1 h)|intro el nJ nK|intro el nJ|exact T4|refine T5 ?_ ?_|intro ex)<;>try conv=>whnf)
  all_goals first
   |exact⟨j+1,⟨by omega,hJ.step (qL _ (by assumption) nJ) (decide_eq_false (by assumption))⟩,by omega,A6 h0⟩
   |(refine A1 rfl (congrArg AV.i ?_)
     have he:=eR rL (hJ.hit (qL _ (by assumption) nJ) (decide_eq_true (by assumption)))
     rw[←hI.hit wO (by rw[he];decide),he];rfl)
   |exact⟨k+1,hI.step wO (il rL (hJ.done (by omega))),by omega,A6 h0⟩
 have hd:=hI.done (by assumption)
 have hh:s.cols.head?.map (·.kind)=some 1:=by
  rw[List.head?_eq_getElem?]
  have pP:s.cols[0]?=some el:=nJ
  rw[pP]
  exact congrArg some (Classical.byContradiction (by assumption))
 rw[if_pos hd,if_pos hh]
 refine B0 (ι:=Nat) (fun k=>⟨[(1,.ref 0 0),(6,.i k)],1,[(0,some (.box (sL s)))]⟩) (fun k=>F2 (colE s) s.cols k) (fun k=>s.cols.length-k) 0 (F2.zero _ _) (A6 h0) (fun k hI=>?_)
 have hk:=hI.1
 have qx:=fun (h:(k:Int)<s.cols.length)=>UN s k (s.cols[k]'(by omega)) (List.getElem?_eq_getElem (by omega)) (by omega)
 repeat'((first|refine A0 (qx (by assumption)) ?_ |refine S2 ?_|(refine T6 ?_ ?_<;>intro h<;>try exact V1 h)|intro el nJ nK|intro el nJ|exact T4|refine T5 ?_ ?_|intro ex)<;>try conv=>whnf)
 all_goals first
  |exact⟨k+1,hI.step (List.getElem?_eq_getElem (by omega)) (Classical.byContradiction (by assumption)),by omega,A6 h0⟩
  |exact A1 rfl (congrArg AV.i (hI.hit (List.getElem?_eq_getElem (by omega)) (by assumption)))
  |exact A1 rfl (congrArg AV.i (hI.done (by assumption)).symm)
theorem Yl{nm:List UInt8}{cs:List Code}(h:chk nm cs=0){v:Int}(hv:0≤v∧v<cs.length):decide (T9 nm cs v=C5 nm cs-1)=Y8 cs v:=by
 obtain⟨n,rfl⟩:=Int.eq_ofNat_of_zero_le hv.1
 have:=IY h (v:=n) (by omega)
 cases hl:Y8 cs n with
 |true=>exact decide_eq_true (this.2 hl)
 |false=>exact decide_eq_false (fun e=>by have:=this.1 e;rw[hl]at this;cases this)
theorem Lq(s:A4)(column v:Int)(hr:C3 s=0){c:D3}(rL:0≤column)(hc:s.cols[column.toNat]?=some c):A3 Tryz.prog 150 [sA s,.i column,.i v] (.b (Bx s c v)):=by
 have hi:=E9 hc
 have pO:=fun hk=>At.lst hr (List.mem_of_getElem? hc) hk
 have sy:=Z0 v 1 1048575
 have rW:=fun n:Nat=>Z0 v 0 ((n:Int)-1)
 have zk:=Z0 v c.low c.high
 have oO:=(D2 hr).2.2.1
 have qP:=fun (l:CL) (hl:s.lists[c.lst.toNat]?=some l)=>Ll l.1 l.2 v (by have:=(G9 (oO l (List.mem_of_getElem? hl))).2.2;omega)
 have xF:=fun (l:CL) (hl:s.lists[c.lst.toNat]?=some l)=>GB l.1 l.2 (by have:=(G9 (oO l (List.mem_of_getElem? hl))).2.2;omega)
 have st:=fun (l:CL) (hl:s.lists[c.lst.toNat]?=some l)=>And.intro (G9 (oO l (List.mem_of_getElem? hl))).2 (u4 (nm:=l.1) (cs:=l.2) (by have:=(G9 (oO l (List.mem_of_getElem? hl))).2.2;omega))
 refine B5 Tryz.func150 57 fun nL E h0=>?_
 clear nL
 repeat'((first|(refine A2 (x:=c) hc (by omega) ?_)|refine A0 sy ?_|refine A0 (rW _) ?_|refine A0 zk ?_|refine A0 (qP _ oD) ?_|refine A0 (xF _ oD) ?_|(refine A9 ?_ ?_;kernel_rfl)|(refine w6 ?_ ?_ (fun lx oD=>?_);(have:=pO (by assumption);omega);(have:=pO (by assumption);omega))|(refine J0 ?_ ?_;(have:=st _ oD;omega)) |refine S2 ?_|(refine T6 ?_ ?_<;>intro h<;>try exact V1 h)|intro el nJ nK|intro el nJ|exact T4|refine T5 ?_ ?_|intro ex)<;>try conv=>whnf)
 all_goals refine A1 rfl (congrArg AV.b ?_)
 all_goals first
  |(rw[Bx,if_pos (by assumption)];done)
  |(rw[Bx,if_neg (by assumption),if_pos (by assumption),H5 oD,decide_eq_false (p:=0≤v∧v<(lx.2.length:Int)) (by omega),Bool.false_and];done)
  |(rw[Bx,if_neg (by assumption),if_pos (by assumption),H5 oD,decide_eq_true (p:=0≤v∧v<(lx.2.length:Int)) (by omega),Bool.true_and,Yl (oO lx (List.mem_of_getElem? oD)) (by omega)];done)
  |(rw[Bx,if_neg (by assumption),if_neg (by assumption)];simp only[*,Bool.true_and,Bool.false_and,decide_true,decide_false,Bool.or_true,Bool.or_false,Bool.false_or,Bool.true_or];done)
theorem RI(s:A4)(row:List Int):A3 Tryz.prog 144 [sA s,.sl 1 (row.map wA)] (.i (BD s row)):=by
 refine B5 Tryz.func144 32 fun nL E h0=>?_
 have nM:row.length≤9223372036854775807:=by have:=(nL (.sl 1 (row.map wA)) (by simp)).sl;simpa using this
 clear nL
 repeat'((first|refine A0 (Q6 s) ?_ |refine S2 ?_|(refine T6 ?_ ?_<;>intro h<;>try exact V1 h)|intro el nJ nK|intro el nJ|exact T4|refine T5 ?_ ?_|intro ex)<;>try conv=>whnf)
 all_goals first
  |exact A1 rfl (congrArg AV.i (by rw[BD,if_neg (by assumption)]))
  |exact A1 rfl (congrArg AV.i (by rw[BD,if_pos (Classical.byContradiction (by assumption)),if_neg];unfold OJ;rw[decide_eq_false (by omega)];exact Bool.false_ne_true))
  |skip
 have hr:C3 s=0:=Classical.byContradiction (by assumption)
 have hz:(s.cols.zip row).length=row.length:=by rw[List.length_zip];omega
 have vY:BD s row=if (!((s.cols.zip row).any (OI s)))=true then 0 else 9:=by rw[BD,if_pos hr,OJ,decide_eq_true (by omega),Bool.true_and]
 rw[vY]
 refine B0 (ι:=Nat) (fun k=>⟨[(1,.sl 1 (row.map wA)),(2,.ref 0 0),(6,.i k)],1,[(0,some (.box (sL s)))]⟩) (fun k=>P6 (OI s) (s.cols.zip row) k) (fun k=>row.length-k) 0 (P6.zero _ _) (A6 h0) (fun k hI=>?_)
 have hk:=hI.1
 have nV:=fun (v:Int) (hk:(k:Int)<row.length)=>Lq s k v hr (c:=s.cols[k]'(by omega)) (by omega) (by rw[Int.toNat_natCast];exact List.getElem?_eq_getElem (by omega))
 repeat'((first|refine A0 (nV _ (by assumption)) ?_|(refine A9 ?_ ?_;kernel_rfl) |refine S2 ?_|(refine T6 ?_ ?_<;>intro h<;>try exact V1 h)|intro el nJ nK|intro el nJ|exact T4|refine T5 ?_ ?_|intro ex)<;>try conv=>whnf)
 all_goals first
  |(refine A1 rfl (congrArg AV.i ?_)
    rw[←hI.hit (Kw (List.getElem?_eq_getElem (by omega)) nJ) (by simp only[OI, *];rfl)];rfl)
  |exact⟨k+1,hI.step (Kw (List.getElem?_eq_getElem (by omega)) nJ) (by simp only[OI, *];rfl),by omega,A6 h0⟩
  |(refine A1 rfl (congrArg AV.i ?_)
    rw[←hI.done (by omega)];rfl)
theorem N0(s:A4)(column:Int):A3 Tryz.prog 32 [sA s,.i column] (.i (B4 s column)):=by
 refine B5 Tryz.func32 39 fun nL E h0=>?_
 obtain⟨pL,nv,pU⟩:=Z9 (s:=s) (nL _ (by simp))
 have ue:=fun (l:CL) (hl:s.lists[(B6 s column).lst.toNat]?=some l)=>u4 (nm:=l.1) (pU l (List.mem_of_getElem? hl))
 clear nL
 repeat'((first|refine A0 (Q6 s) ?_ |refine S2 ?_|(refine T6 ?_ ?_<;>intro h<;>try exact V1 h)|intro el nJ nK|intro el nJ|exact T4|refine T5 ?_ ?_|intro ex)<;>try conv=>whnf)
 all_goals first
  |exact A1 rfl (congrArg AV.i (by rw[B4,if_neg (by assumption)]))
  |exact A1 rfl (congrArg AV.i (by rw[B4,if_pos (Classical.byContradiction (by assumption)),E6,if_pos (by omega)]))
  |skip
 all_goals
  have hr:C3 s=0:=Classical.byContradiction (by assumption)
  rw[B4,if_pos hr]
 repeat'((first|(refine A0 (GB _ _ (pU _ (List.mem_of_getElem? (by assumption)))) ?_)|(refine w6 ?_ ?_ (fun lx oD=>?_);(have:=At.lst hr (List.mem_of_getElem? nJ) (by assumption);omega);(have:=At.lst hr (List.mem_of_getElem? nJ) (by assumption);omega))|(refine J0 ?_ ?_;(have:=ue lx (by rw[B9 nJ];exact oD);omega)) |refine S2 ?_|(refine T6 ?_ ?_<;>intro h<;>try exact V1 h)|intro el nJ nK|intro el nJ|exact T4|refine T5 ?_ ?_|intro ex)<;>try conv=>whnf)
 all_goals first
  |(refine A1 rfl (congrArg AV.i ?_);rw[E6,if_neg (by omega),B9 nJ,M1,if_pos (by assumption),H5 oD];done)
  |(refine A1 rfl (congrArg AV.i ?_);rw[E6,if_neg (by omega),B9 nJ,M1,if_neg (by assumption)];done)
theorem Ym(a:Int){b:Int}(h:1≤b):(a.tmod b<0∧a / b=a.tdiv b-1)∨(0≤a.tmod b∧a / b=a.tdiv b):=by
 have h1:=Int.mul_tdiv_add_tmod a b
 have h2:=Int.mul_ediv_add_emod a b
 rcases DF a h with ⟨h3,h4⟩|⟨h3,h4⟩
 ·left
  refine⟨h3,?_⟩
  have h5:b*(a / b)=b*(a.tdiv b-1):=by rw[Int.mul_sub];omega
  exact Int.eq_of_mul_eq_mul_left (by omega) h5
 ·right
  refine⟨h3,?_⟩
  have h5:b*(a / b)=b*a.tdiv b:=by omega
  exact Int.eq_of_mul_eq_mul_left (by omega) h5
theorem eS(a b:Int){B:Int}(h:-B≤a∧a≤B)(hb:1≤b):-B≤a.tdiv b∧a.tdiv b≤B:=by
 have h2:(a.tdiv b).natAbs≤a.natAbs:=by rw[Int.natAbs_tdiv];exact Nat.div_le_self _ _
 omega
theorem OZ(a b:Int)(hb:1≤b)(ha:-4000000000000≤a∧a≤4000000000000):A3 Tryz.prog 152 [.i a,.i b] (.i (a / b)):=by
 have h1:=Ym a hb
 have h2:=eS a b ha hb
 refine B5 Tryz.func152 16 fun nL E h0=>?_
 clear nL
 repeat'((first|refine S2 ?_|(refine T6 ?_ ?_<;>intro h<;>try exact V1 h)|intro el nJ nK|intro el nJ|exact T4|refine T5 ?_ ?_|intro ex)<;>try conv=>whnf)
 all_goals exact A1 rfl (congrArg AV.i (by omega))
theorem CZ(c:D3)(level:Int)(h1:1≤level)(h2:level≤c.widths.length):A3 Tryz.prog 151 [U0 c,.i level] (.i (B1 c level)):=by
 refine B5 Tryz.func151 14 fun nL E h0=>?_
 have nM:c.widths.length≤9223372036854775807:=by
  have:=((nL (U0 c) (by simp)).agg (.sl 1 (c.widths.map wA)) (by simp)).sl
  simpa using this
 clear nL
 repeat'((first|refine S2 ?_|(refine T6 ?_ ?_<;>intro h<;>try exact V1 h)|intro el nJ nK|intro el nJ|exact T4|refine T5 ?_ ?_|intro ex)<;>try conv=>whnf)
 all_goals exact A1 rfl (congrArg AV.i (D7 nJ).symm)
theorem bY(v w:Int):v / w*w=C6 v w:=by
 unfold C6
 have:=Int.ediv_mul_add_emod v w
 omega
theorem AN(s:A4)(column level v:Int):A3 Tryz.prog 97 [sA s,.i column,.i level,.i v] (.i (G1 s column level v)):=by
 have ng:=N0 s column
 have oc:=Z0 level 0 (B4 s column)
 have rW:=Z0 v (-1000000) 1000000
 refine B5 Tryz.func97 59 fun nL E h0=>?_
 obtain⟨pL,nv,pU⟩:=Z9 (s:=s) (nL _ (by simp))
 clear nL
 repeat'((first|refine A0 ng ?_|refine A0 oc ?_ |refine S2 ?_|(refine T6 ?_ ?_<;>intro h<;>try exact V1 h)|intro el nJ nK|intro el nJ|exact T4|refine T5 ?_ ?_|intro ex)<;>try conv=>whnf)
 all_goals first
  |(refine A1 rfl (congrArg AV.i ?_);rw[G1,if_pos (by omega)];done)
  |skip
 obtain⟨hr,h1,h2,h4⟩:=Bz (s:=s) (column:=column) (level:=level) (by omega) (by omega)
 rw[G1,if_neg (by omega)]
 clear ng oc
 obtain⟨c,hc⟩:∃c,s.cols[column.toNat]?=some c:=⟨_,List.getElem?_eq_getElem (by omega)⟩
 have nY:=B9 hc
 have ov:=u5 hr h1 hc
 rw[E6,if_neg (by omega),nY]at h4
 rw[nY]
 have nV:=Lq s column v hr (by omega) hc
 have sF:=fun (l:CL) (hl:s.lists[c.lst.toNat]?=some l)=>Tq l.1 l.2 v level (pU _ (List.mem_of_getElem? hl))
 have sX:¬c.kind=2→¬level=0→(1≤B1 c level∧B1 c level≤1000000)∧A3 Tryz.prog 151 [U0 c,.i level] (.i (B1 c level)):=by
  intro h5 h7
  have h9:M1 s c=c.widths.length:=by unfold M1;rw[if_neg h5]
  rcases ov with ov|ov
  ·omega
  exact⟨k7 ov.2.2.2.2.2.2 (by omega) (by omega),CZ c level (by omega) (by omega)⟩
 have oY:¬c.kind=2→¬level=0→-1000000≤v∧v≤1000000→A3 Tryz.prog 152 [.i v,.i (B1 c level)] (.i (v / B1 c level)):=fun h5 h6 h7=>OZ _ _ (sX h5 h6).1.1 (by omega)
 have yN:¬c.kind=2→¬level=0→v / B1 c level*B1 c level=C6 v (B1 c level)∧v-B1 c level<C6 v (B1 c level)∧C6 v (B1 c level)≤v:=fun h5 h6=>⟨bY _ _,W3 v (sX h5 h6).1.1⟩
 unfold Q1
 generalize B1 c level=w at *
 repeat'((first|(refine A2 (x:=c) hc (by omega) ?_)|refine A0 nV ?_|refine A0 (sF _ (by assumption)) ?_|refine A0 rW ?_|refine A0 (sX (by assumption) (by assumption)).2 ?_|refine A0 (oY (by assumption) (by assumption) (by assumption)) ?_|(refine A9 ?_ ?_;kernel_rfl)|(refine J0 ?_ ?_;(have h6:=yN (by assumption) (by assumption);have h8:=(sX (by assumption) (by assumption)).1;rw[h6.1];omega)) |refine S2 ?_|(refine T6 ?_ ?_<;>intro h<;>try exact V1 h)|intro el nJ nK|intro el nJ|exact T4|refine T5 ?_ ?_|intro ex)<;>try conv=>whnf)
 all_goals refine A1 rfl (congrArg AV.i ?_)
 all_goals first
  |(rw[if_pos (by assumption:c.kind=2),if_neg (by rw[h];exact Bool.false_ne_true)];done)
  |(rw[if_pos (by assumption:c.kind=2),if_pos (by assumption),H5 nJ];done)
  |(rw[if_neg (by assumption:¬c.kind=2),if_pos (by omega)];done)
  |(rw[if_neg (by assumption:¬c.kind=2),if_neg (by omega),if_pos (by omega)];done)
  |(rw[if_neg (by assumption:¬c.kind=2),if_neg (by omega),if_neg (by omega),if_pos (by omega)];done)
  |(rw[if_neg (by assumption:¬c.kind=2),if_neg (by omega),if_neg (by omega),if_pos (by omega)];omega)
  |(rw[if_neg (by assumption:¬c.kind=2),if_neg (by omega),if_neg (by omega),if_neg (by omega),(yN (by assumption) (by assumption)).1];done)
def N2(c:D3)(level v:Int):Int×Int×Bool :=
 if level=0 then (c.low,c.high,decide (v=0))else if v=(-1099511627776)∨¬(-2000000≤v∧v≤2000000)∨v.tmod (B1 c level)≠0 then (0,0,false)else (max c.low v,min c.high (v+B1 c level-1),decide (max c.low v≤min c.high (v+B1 c level-1)))
theorem Ij(c:D3)(level v:Int)(hc:meaE c=0)(h1:0≤level)(h2:level≤c.widths.length):A3 Tryz.prog 139 [U0 c,.i level,.i v] (YO (N2 c level v)):=by
 have hp:=U1 hc
 have qH:¬level=0→1≤B1 c level∧B1 c level≤1000000:=fun h=>k7 hp.2.2.2.2.2 (by omega) h2
 have sX:¬level=0→A3 Tryz.prog 151 [U0 c,.i level] (.i (B1 c level)):=fun h=>CZ c level (by omega) h2
 have oc:=Z0 v (-2000000) 2000000
 unfold N2
 generalize B1 c level=w at *
 refine B5 Tryz.func139 52 fun nL E h0=>?_
 clear nL
 repeat'((first|refine A0 (sX (by assumption)) ?_|refine A0 oc ?_|(refine J0 ?_ ?_;(have:=qH (by assumption);omega))|(refine A9 ?_ ?_;kernel_rfl) |refine S2 ?_|(refine T6 ?_ ?_<;>intro h<;>try exact V1 h)|intro el nJ nK|intro el nJ|exact T4|refine T5 ?_ ?_|intro ex)<;>try conv=>whnf)
 all_goals refine Ft (a:=.i _) (b:=.i _) (c:=.b _) rfl rfl rfl ?_
 all_goals first
  |(rw[if_pos (by assumption)];done)
  |(rw[if_neg (by assumption),if_pos (by first|omega|exact .inr (.inr (by assumption)))];done)
  |(rw[if_neg (by assumption),if_neg (fun hx=>by rcases hx with hx|hx|hx<;>first|omega|exact absurd hx (by assumption))];done)
end Go.Proofs.YtiphlhoclaogjaaGreatDoor

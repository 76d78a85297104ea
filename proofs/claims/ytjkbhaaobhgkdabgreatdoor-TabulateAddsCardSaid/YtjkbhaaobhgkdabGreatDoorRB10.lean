/- Chapter 2: the reference's check of schemas. Chapter 2: the reference's check of schemas, whole. Chapter 2: the reference's values and levels. -/
import Derived.Test.YtjkbhaaobhgkdabGreatDoorRB7
import Derived.Test.YtjkbhaaobhgkdabGreatDoorRB4
import Derived.Test.YtjkbhaaobhgkdabGreatDoorRSx
import Derived.Test.YtjkbhaaobhgkdabGreatDoorRB8
set_option linter.unusedVariables false
set_option linter.unnecessarySimpa false
set_option linter.unusedSimpArgs false
set_option maxHeartbeats 64000000
namespace Go.Proofs.YtjkbhaaobhgkdabGreatDoor
open Go Go.Av
attribute [local irreducible] D0 B0 D2 C7 DQ D1 C8 St.le A3 B6
set_option maxRecDepth 100000
theorem u5(n lo hi:Int):A3 Tryz.prog 90 [.i n,.i lo,.i hi] (.b (decide (lo≤n∧n≤hi))):=by
 refine C0 Tryz.func90 15 fun nQ E h0=>?_
 clear nQ
 repeat'((first|refine S2 ?_|(refine T6 ?_ ?_<;>intro h<;>try exact V1 h)|intro el nN nP|intro el nN|exact T4|refine T5 ?_ ?_|intro ex)<;>try conv=>whnf)
 all_goals first
  |exact A0 rfl (congrArg AV.b (decide_eq_true (by omega)).symm)
  |exact A0 rfl (congrArg AV.b (decide_eq_false (by omega)).symm)
  |exact A0 rfl (congrArg AV.b (by simp only[*,true_and]))
def Hs(ws:List Int)(k:Nat):Prop:=k≤ws.length∧((k=0)∨(0<k∧1≤ws.getD (k-1) 0∧P6 ws=EB (ws.getD (k-1) 0) (ws.drop k)))
theorem Hs.wat{ws:List Int}{k:Nat}(h:Hs ws k):DT ws k (if k=0 then 1 else ws.getD (k-1) 0):=by
 refine⟨h.1,?_⟩
 rcases h.2 with h2|h2
 ·left;rw[if_pos h2];exact⟨h2,rfl⟩
 ·right;rw[if_neg (by omega)];exact h2
theorem Hs.of{ws:List Int}{k:Nat}{w:Int}(hw:ws[k]?=some w)(h:DT ws (k+1) w):Hs ws (k+1):=by
 refine⟨h.1,.inr ?_⟩
 rcases h.2 with h2|h2
 ·omega
 ·rw[Nat.add_sub_cancel,D3 hw];exact h2
theorem eL{α:Type}{ws:List α}{k:Nat}{q d:α}(h:0<(k:Int))(hq:ws[((k:Int)-1).toNat]?=some q):ws.getD (k-1) d=q:=D3 (by rw[←hq];congr 1;omega)
theorem Hs.prev{ws:List Int}{k:Nat}{q:Int}(h:Hs ws k)(h0:0<(k:Int))(hq:ws[((k:Int)-1).toNat]?=some q):DT ws k q∧1≤q:=by
 have h1:=h.wat
 rw[if_neg (by omega),eL h0 hq]at h1
 exact⟨h1,h1.pos⟩
theorem RF(c:D4):A3 Tryz.prog 159 [W6 c] (.i (meaE c)):=by
 have sU:=u5 c.low (-1000000) 1000000
 have rG:=u5 c.high (-1000000) 1000000
 refine C0 Tryz.func159 79 fun nQ E h0=>?_
 have nO:c.widths.length≤9223372036854775807:=by
  have:=((nQ (W6 c) (by simp)).agg (.sl 1 (c.widths.map wA)) (by simp)).sl
  simpa using this
 clear nQ
 repeat'((first|refine A1 sU ?_|refine A1 rG ?_ |refine S2 ?_|(refine T6 ?_ ?_<;>intro h<;>try exact V1 h)|intro el nN nP|intro el nN|exact T4|refine T5 ?_ ?_|intro ex)<;>try conv=>whnf)
 all_goals first
  |(refine A0 rfl (congrArg AV.i ?_);rw[meaE,if_pos (by omega)];done)
  |(refine A0 rfl (congrArg AV.i ?_);rw[meaE,if_neg (by omega),if_pos (by omega)];done)
  |skip
 have hm:meaE c=if P6 c.widths=true then 0 else 2:=by rw[meaE,if_neg (by omega),if_neg (by omega)]
 have hne:c.widths.length≠0:=by omega
 rw[hm]
 refine B2 (ι:=Nat) (fun k=>⟨[(1,.ref 0 0),(3,.i k)],1,[(0,some (.box (W5 c)))]⟩) (fun k=>Hs c.widths k) (fun k=>c.widths.length-k) 0 ⟨Nat.zero_le _,.inl rfl⟩ (A6 h0) (fun k hI=>?_)
 have hk:=hI.1
 repeat'((first|(refine J4 ?_ ?_;(have:=(hI.prev (by assumption) nN).2;omega)) |refine S2 ?_|(refine T6 ?_ ?_<;>intro h<;>try exact V1 h)|intro el nN nP|intro el nN|exact T4|refine T5 ?_ ?_|intro ex)<;>try conv=>whnf)
 all_goals first
  |exact⟨k+1,Hs.of nN (hI.wat.first nN (by omega) (by omega)),by omega,A6 h0⟩
  |exact A0 rfl (congrArg AV.i (by rw[hI.wat.bad0 nN (by omega) (by omega)];rfl))
  |exact A0 rfl (congrArg AV.i (by rw[(hI.prev (by assumption) nN).1.bad (by assumption) (by omega) (fun hx=>by first|exact absurd hx.2.1 (by assumption)|omega)];rfl))
  |exact⟨k+1,Hs.of (by assumption) ((hI.prev (by assumption) nN).1.next (by assumption) (by omega) (by omega) (Classical.byContradiction (by assumption)) (by omega)),by omega,A6 h0⟩
  |exact A0 rfl (congrArg AV.i (by rw[hI.wat.done (by assumption) hne];rfl))
theorem eM{s:A4}{i:Nat}{c:D4}(hn:D5 c.name=true)(hd:GU s i c=true):10=colE s i c:=by
 rw[colE,if_neg (by rw[hn];decide),if_pos hd]
theorem Je{s:A4}{i:Nat}{c:D4}{e:Int}(hn:D5 c.name=true)(hd:GU s i c=false)(hk:kindE s i c=e)(he:e≠0):e=colE s i c:=by
 rw[colE,if_neg (by rw[hn];decide),if_neg (by rw[hd];decide),hk,if_neg he]
theorem QZ{s:A4}{i:Nat}{c:D4}{b:Bool}(hn:D5 c.name=true)(hd:GU s i c=false)(hk:kindE s i c=0)(hu:Ei c=b):(if b=true then 0 else 11)=colE s i c:=by
 unfold colE
 simp only[hn,hd,hk,hu,if_true,if_false,Bool.true_eq_false,Bool.false_eq_true]
theorem Ti(s:A4)(i:Nat)(c:D4)(hc:s.cols[i]?=some c)(oS:i<9223372036854775807):A3 Tryz.prog 117 [sA s,.i i] (.i (colE s i c)):=by
 have hi:=D6 hc
 have sU:=u5 c.kind 1 3
 have rG:=u5 c.lst 0 ((s.lists.length:Int)-1)
 have qN:=RF c
 generalize hm:meaE c=m at qN
 refine C0 Tryz.func117 98 fun nQ E h0=>?_
 obtain⟨om,oF,pV⟩:=W7 (s:=s) (nQ _ (by simp))
 clear nQ
 repeat'((first|(refine A2 (x:=c) (by simpa using hc) (by omega) ?_)|refine A1 (BD _) ?_ |refine S2 ?_|(refine T6 ?_ ?_<;>intro h<;>try exact V1 h)|intro el nN nP|intro el nN|exact T4|refine T5 ?_ ?_|intro ex)<;>try conv=>whnf)
 all_goals first
  |(refine A0 rfl (congrArg AV.i ?_);rw[colE,if_pos h];done)
  |skip
 have hn:=h
 clear h
 refine B2 (ι:=Nat) (fun k=>⟨[(1,.i i),(2,.ref 0 0),(5,.ref 1 0),(6,.i k)],2,[(0,some (.box (sL s))),(1,some (.box (W5 c)))]⟩) (fun k=>k≤i∧R0 (fun x=>decide (x.name=c.name)) (s.cols.take i) k) (fun k=>i-k) 0 ⟨Nat.zero_le _,R0.zero _ _⟩ (A6 h0) (fun k hI=>?_)
 obtain⟨hk,hI⟩:=hI
 have hti:(s.cols.take i).length=i:=by rw[List.length_take];omega
 have tH:∀el,(k:Int)<i→s.cols[k]?=some el→(s.cols.take i)[k]?=some el:=fun el h1 h2=>by rw[List.getElem?_take_of_lt (by omega)];exact h2
 repeat'((first|refine A1 sU ?_|refine A1 rG ?_|refine A1 qN ?_ |refine S2 ?_|(refine T6 ?_ ?_<;>intro h<;>try exact V1 h)|intro el nN nP|intro el nN|exact T4|refine T5 ?_ ?_|intro ex)<;>try conv=>whnf)
 all_goals first
  |(refine A0 rfl (congrArg AV.i ?_);exact eM hn (hI.hit (tH _ (by assumption) nN) (decide_eq_true (by assumption))).symm)
  |exact⟨k+1,⟨by omega,hI.step (tH _ (by assumption) nN) (decide_eq_false (by assumption))⟩,by omega,A6 h0⟩
  |skip
 all_goals
  have hd:GU s i c=false:=(hI.done (by omega)).symm
  refine A0 rfl (congrArg AV.i ?_)
  clear hI tH hti sU rG qN pV h0 E hc
 all_goals first
  |exact Je (e:=4) hn hd (by unfold kindE;simp only[hm];(repeat' split)<;>first|rfl|omega) (by decide)
  |exact Je (e:=5) hn hd (by unfold kindE;simp only[hm];(repeat' split)<;>first|rfl|omega) (by decide)
  |exact Je (e:=m) hn hd (by unfold kindE;simp only[hm];(repeat' split)<;>first|rfl|omega) (by assumption)
  |exact QZ (b:=true) hn hd (by unfold kindE;simp only[hm];(repeat' split)<;>first|rfl|omega) (decide_eq_true ⟨by omega,by first|exact .inl (by omega)|exact .inr ⟨by omega,by omega,by omega,by assumption⟩⟩)
  |exact QZ (b:=false) hn hd (by unfold kindE;simp only[hm];(repeat' split)<;>first|rfl|omega) (decide_eq_false (fun hx=>by
    obtain⟨xw,qb⟩:=hx
    rcases qb with h3|⟨h4,h5,h6,h7⟩
    ·omega
    ·first|omega|exact absurd (h.symm.trans h7) (by decide)))
theorem eN{ls:List CL}{k:Nat}{el:CL}(h:chk el.1 el.2=0)(hd:true=(ls.take k).any fun x=>decide (x.1=el.1)):Z9 ls k el=10:=by rw[Z9,if_pos h,if_pos hd.symm]
theorem iZ{ls:List CL}{k:Nat}{el:CL}(h:chk el.1 el.2=0)(hd:false=(ls.take k).any fun x=>decide (x.1=el.1)):Z9 ls k el=0:=by rw[Z9,if_pos h,if_neg (by rw[←hd];decide)]
theorem V5(s:A4):A3 Tryz.prog 80 [sA s] (.i (C5 s)):=by
 refine C0 Tryz.func80 77 fun nQ E h0=>?_
 obtain⟨om,oF,pV⟩:=W7 (s:=s) (nQ _ (by simp))
 clear nQ
 repeat'((first|refine S2 ?_|(refine T6 ?_ ?_<;>intro h<;>try exact V1 h)|intro el nN nP|intro el nN|exact T4|refine T5 ?_ ?_|intro ex)<;>try conv=>whnf)
 all_goals first
  |exact A0 rfl (congrArg AV.i (by rw[C5,if_pos (by omega)]))
  |skip
 have hs:C5 s=if E8 (Z9 s.lists) 0 s.lists=0 then (if s.cols.head?.map (·.kind)=some 1 then E8 (colE s) 0 s.cols else 7)else E8 (Z9 s.lists) 0 s.lists:=by rw[C5,if_neg (by omega)]
 rw[hs]
 refine B2 (ι:=Nat) (fun k=>⟨[(1,.ref 0 0),(3,.i k)],1,[(0,some (.box (sL s)))]⟩) (fun k=>F1 (Z9 s.lists) s.lists k) (fun k=>s.lists.length-k) 0 (F1.zero _ _) (A6 h0) (fun k hI=>?_)
 have hk:=hI.1
 repeat'((first|refine A1 (Bb _ _ (pV _ (List.mem_of_getElem? nN))) ?_ |refine S2 ?_|(refine T6 ?_ ?_<;>intro h<;>try exact V1 h)|intro el nN nP|intro el nN|exact T4|refine T5 ?_ ?_|intro ex)<;>try conv=>whnf)
 all_goals first
  |(refine A0 rfl (congrArg AV.i ?_)
    have he:Z9 s.lists k el=chk el.1 el.2:=by rw[Z9,if_neg (by assumption)]
    rw[←hI.hit nN (by rw[he];assumption),he,if_neg (by assumption)];done)
  |(have hd:=hI.done (by assumption)
    refine A0 rfl (congrArg AV.i ?_)
    rw[if_pos hd,if_neg]
    intro hx
    rw[List.head?_eq_getElem?]at hx
    first
     |(rw[show s.cols[0]?=none from List.getElem?_eq_none (by omega)]at hx;cases hx)
     |(have pH:s.cols[0]?=some el:=nN
       rw[pH]at hx
       have:=Option.some.inj hx
       exact absurd this (by assumption)))
  |skip
 ·have qv:chk el.1 el.2=0:=Classical.byContradiction (by assumption)
  refine B2 (ι:=Nat) (fun j=>⟨[(1,.ref 0 0),(3,.i k),(5,.i j)],1,[(0,some (.box (sL s)))]⟩) (fun j=>j≤k∧R0 (fun x=>decide (x.1=el.1)) (s.lists.take k) j) (fun j=>k-j) 0 ⟨Nat.zero_le _,R0.zero _ _⟩ (A6 h0) (fun j hJ=>?_)
  obtain⟨hj,hJ⟩:=hJ
  have tH:∀x,(j:Int)<k→s.lists[j]?=some x→(s.lists.take k)[j]?=some x:=fun x h1 h2=>by rw[List.getElem?_take_of_lt (by omega)];exact h2
  have vj:=nN
  have hti:(s.lists.take k).length=k:=by rw[List.length_take];omega
  repeat'((first|(refine A2 (x:=el) vj (by omega) ?_) |refine S2 ?_|(refine T6 ?_ ?_<;>intro h<;>try exact V1 h)|intro el nN nP|intro el nN|exact T4|refine T5 ?_ ?_|intro ex)<;>try conv=>whnf)
  all_goals first
   |exact⟨j+1,⟨by omega,hJ.step (tH _ (by assumption) nN) (decide_eq_false (by assumption))⟩,by omega,A6 h0⟩
   |(refine A0 rfl (congrArg AV.i ?_)
     have he:=eN qv (hJ.hit (tH _ (by assumption) nN) (decide_eq_true (by assumption)))
     rw[←hI.hit vj (by rw[he];decide),he];rfl)
   |exact⟨k+1,hI.step vj (iZ qv (hJ.done (by omega))),by omega,A6 h0⟩
 have hd:=hI.done (by assumption)
 have hh:s.cols.head?.map (·.kind)=some 1:=by
  rw[List.head?_eq_getElem?]
  have pH:s.cols[0]?=some el:=nN
  rw[pH]
  exact congrArg some (Classical.byContradiction (by assumption))
 rw[if_pos hd,if_pos hh]
 refine B2 (ι:=Nat) (fun k=>⟨[(1,.ref 0 0),(6,.i k)],1,[(0,some (.box (sL s)))]⟩) (fun k=>F1 (colE s) s.cols k) (fun k=>s.cols.length-k) 0 (F1.zero _ _) (A6 h0) (fun k hI=>?_)
 have hk:=hI.1
 have sq:=fun (h:(k:Int)<s.cols.length)=>Ti s k (s.cols[k]'(by omega)) (List.getElem?_eq_getElem (by omega)) (by omega)
 repeat'((first|refine A1 (sq (by assumption)) ?_ |refine S2 ?_|(refine T6 ?_ ?_<;>intro h<;>try exact V1 h)|intro el nN nP|intro el nN|exact T4|refine T5 ?_ ?_|intro ex)<;>try conv=>whnf)
 all_goals first
  |exact⟨k+1,hI.step (List.getElem?_eq_getElem (by omega)) (Classical.byContradiction (by assumption)),by omega,A6 h0⟩
  |exact A0 rfl (congrArg AV.i (hI.hit (List.getElem?_eq_getElem (by omega)) (by assumption)))
  |exact A0 rfl (congrArg AV.i (hI.done (by assumption)).symm)
theorem Ya{nm:List UInt8}{cs:List Code}(h:chk nm cs=0){v:Int}(hv:0≤v∧v<cs.length):decide (R1 nm cs v=C3 nm cs-1)=W0 cs v:=by
 obtain⟨n,rfl⟩:=Int.eq_ofNat_of_zero_le hv.1
 have:=Hh h (v:=n) (by omega)
 cases hl:W0 cs n with
 |true=>exact decide_eq_true (this.2 hl)
 |false=>exact decide_eq_false (fun e=>by have:=this.1 e;rw[hl]at this;cases this)
theorem LQ(s:A4)(column v:Int)(hr:C5 s=0){c:D4}(qv:0≤column)(hc:s.cols[column.toNat]?=some c):A3 Tryz.prog 91 [sA s,.i column,.i v] (.b (BG s c v)):=by
 have hi:=D6 hc
 have oq:=fun hk=>Ap.lst hr (List.mem_of_getElem? hc) hk
 have sU:=u5 v 1 1048575
 have rG:=fun n:Nat=>u5 v 0 ((n:Int)-1)
 have zA:=u5 v c.low c.high
 have oU:=(F2 hr).2.2.1
 have qG:=fun (l:CL) (hl:s.lists[c.lst.toNat]?=some l)=>LN l.1 l.2 v (by have:=(H9 (oU l (List.mem_of_getElem? hl))).2.2;omega)
 have wc:=fun (l:CL) (hl:s.lists[c.lst.toNat]?=some l)=>FY l.1 l.2 (by have:=(H9 (oU l (List.mem_of_getElem? hl))).2.2;omega)
 have sI:=fun (l:CL) (hl:s.lists[c.lst.toNat]?=some l)=>And.intro (H9 (oU l (List.mem_of_getElem? hl))).2 (l7 (nm:=l.1) (cs:=l.2) (by have:=(H9 (oU l (List.mem_of_getElem? hl))).2.2;omega))
 refine C0 Tryz.func91 57 fun nQ E h0=>?_
 clear nQ
 repeat'((first|(refine A2 (x:=c) hc (by omega) ?_)|refine A1 sU ?_|refine A1 (rG _) ?_|refine A1 zA ?_|refine A1 (qG _ ol) ?_|refine A1 (wc _ ol) ?_|(refine B8 ?_ ?_;kernel_rfl)|(refine n9 ?_ ?_ (fun lx ol=>?_);(have:=oq (by assumption);omega);(have:=oq (by assumption);omega))|(refine J4 ?_ ?_;(have:=sI _ ol;omega)) |refine S2 ?_|(refine T6 ?_ ?_<;>intro h<;>try exact V1 h)|intro el nN nP|intro el nN|exact T4|refine T5 ?_ ?_|intro ex)<;>try conv=>whnf)
 all_goals refine A0 rfl (congrArg AV.b ?_)
 all_goals first
  |(rw[BG,if_pos (by assumption)];done)
  |(rw[BG,if_neg (by assumption),if_pos (by assumption),I7 ol,decide_eq_false (p:=0≤v∧v<(lx.2.length:Int)) (by omega),Bool.false_and];done)
  |(rw[BG,if_neg (by assumption),if_pos (by assumption),I7 ol,decide_eq_true (p:=0≤v∧v<(lx.2.length:Int)) (by omega),Bool.true_and,Ya (oU lx (List.mem_of_getElem? ol)) (by omega)];done)
  |(rw[BG,if_neg (by assumption),if_neg (by assumption)];simp only[*,Bool.true_and,Bool.false_and,decide_true,decide_false,Bool.or_true,Bool.or_false,Bool.false_or,Bool.true_or];done)
theorem Qa(s:A4)(row:List Int):A3 Tryz.prog 82 [sA s,.sl 1 (row.map wA)] (.i (s6 s row)):=by
 refine C0 Tryz.func82 32 fun nQ E h0=>?_
 have nO:row.length≤9223372036854775807:=by have:=(nQ (.sl 1 (row.map wA)) (by simp)).sl;simpa using this
 clear nQ
 repeat'((first|refine A1 (V5 s) ?_ |refine S2 ?_|(refine T6 ?_ ?_<;>intro h<;>try exact V1 h)|intro el nN nP|intro el nN|exact T4|refine T5 ?_ ?_|intro ex)<;>try conv=>whnf)
 all_goals first
  |exact A0 rfl (congrArg AV.i (by rw[s6,if_neg (by assumption)]))
  |exact A0 rfl (congrArg AV.i (by rw[s6,if_pos (Classical.byContradiction (by assumption)),if_neg];unfold KZ;rw[decide_eq_false (by omega)];exact Bool.false_ne_true))
  |skip
 have hr:C5 s=0:=Classical.byContradiction (by assumption)
 have hz:(s.cols.zip row).length=row.length:=by rw[List.length_zip];omega
 have ux:s6 s row=if (!((s.cols.zip row).any (KY s)))=true then 0 else 9:=by rw[s6,if_pos hr,KZ,decide_eq_true (by omega),Bool.true_and]
 rw[ux]
 refine B2 (ι:=Nat) (fun k=>⟨[(1,.sl 1 (row.map wA)),(2,.ref 0 0),(6,.i k)],1,[(0,some (.box (sL s)))]⟩) (fun k=>R0 (KY s) (s.cols.zip row) k) (fun k=>row.length-k) 0 (R0.zero _ _) (A6 h0) (fun k hI=>?_)
 have hk:=hI.1
 have nd:=fun (v:Int) (hk:(k:Int)<row.length)=>LQ s k v hr (c:=s.cols[k]'(by omega)) (by omega) (by rw[Int.toNat_natCast];exact List.getElem?_eq_getElem (by omega))
 repeat'((first|refine A1 (nd _ (by assumption)) ?_|(refine B8 ?_ ?_;kernel_rfl) |refine S2 ?_|(refine T6 ?_ ?_<;>intro h<;>try exact V1 h)|intro el nN nP|intro el nN|exact T4|refine T5 ?_ ?_|intro ex)<;>try conv=>whnf)
 all_goals first
  |(refine A0 rfl (congrArg AV.i ?_)
    rw[←hI.hit (WT (List.getElem?_eq_getElem (by omega)) nN) (by simp only[KY, *];rfl)];rfl)
  |exact⟨k+1,hI.step (WT (List.getElem?_eq_getElem (by omega)) nN) (by simp only[KY, *];rfl),by omega,A6 h0⟩
  |(refine A0 rfl (congrArg AV.i ?_)
    rw[←hI.done (by omega)];rfl)
theorem u6(s:A4)(column:Int):A3 Tryz.prog 41 [sA s,.i column] (.i (B9 s column)):=by
 refine C0 Tryz.func41 39 fun nQ E h0=>?_
 obtain⟨om,oF,pV⟩:=W7 (s:=s) (nQ _ (by simp))
 have tx:=fun (l:CL) (hl:s.lists[(B4 s column).lst.toNat]?=some l)=>l7 (nm:=l.1) (pV l (List.mem_of_getElem? hl))
 clear nQ
 repeat'((first|refine A1 (V5 s) ?_ |refine S2 ?_|(refine T6 ?_ ?_<;>intro h<;>try exact V1 h)|intro el nN nP|intro el nN|exact T4|refine T5 ?_ ?_|intro ex)<;>try conv=>whnf)
 all_goals first
  |exact A0 rfl (congrArg AV.i (by rw[B9,if_neg (by assumption)]))
  |exact A0 rfl (congrArg AV.i (by rw[B9,if_pos (Classical.byContradiction (by assumption)),F0,if_pos (by omega)]))
  |skip
 all_goals
  have hr:C5 s=0:=Classical.byContradiction (by assumption)
  rw[B9,if_pos hr]
 repeat'((first|(refine A1 (FY _ _ (pV _ (List.mem_of_getElem? (by assumption)))) ?_)|(refine n9 ?_ ?_ (fun lx ol=>?_);(have:=Ap.lst hr (List.mem_of_getElem? nN) (by assumption);omega);(have:=Ap.lst hr (List.mem_of_getElem? nN) (by assumption);omega))|(refine J4 ?_ ?_;(have:=tx lx (by rw[B7 nN];exact ol);omega)) |refine S2 ?_|(refine T6 ?_ ?_<;>intro h<;>try exact V1 h)|intro el nN nP|intro el nN|exact T4|refine T5 ?_ ?_|intro ex)<;>try conv=>whnf)
 all_goals first
  |(refine A0 rfl (congrArg AV.i ?_);rw[F0,if_neg (by omega),B7 nN,N7,if_pos (by assumption),I7 ol];done)
  |(refine A0 rfl (congrArg AV.i ?_);rw[F0,if_neg (by omega),B7 nN,N7,if_neg (by assumption)];done)
theorem Yb(a:Int){b:Int}(h:1≤b):(a.tmod b<0∧a / b=a.tdiv b-1)∨(0≤a.tmod b∧a / b=a.tdiv b):=by
 have h1:=Int.mul_tdiv_add_tmod a b
 have h2:=Int.mul_ediv_add_emod a b
 rcases Fw a h with ⟨h3,h4⟩|⟨h3,h4⟩
 ·left
  refine⟨h3,?_⟩
  have h5:b*(a / b)=b*(a.tdiv b-1):=by rw[Int.mul_sub];omega
  exact Int.eq_of_mul_eq_mul_left (by omega) h5
 ·right
  refine⟨h3,?_⟩
  have h5:b*(a / b)=b*a.tdiv b:=by omega
  exact Int.eq_of_mul_eq_mul_left (by omega) h5
theorem eO(a b:Int){B:Int}(h:-B≤a∧a≤B)(hb:1≤b):-B≤a.tdiv b∧a.tdiv b≤B:=by
 have h2:(a.tdiv b).natAbs≤a.natAbs:=by rw[Int.natAbs_tdiv];exact Nat.div_le_self _ _
 omega
theorem Ns(a b:Int)(hb:1≤b)(ha:-4000000000000≤a∧a≤4000000000000):A3 Tryz.prog 94 [.i a,.i b] (.i (a / b)):=by
 have h1:=Yb a hb
 have h2:=eO a b ha hb
 refine C0 Tryz.func94 16 fun nQ E h0=>?_
 clear nQ
 repeat'((first|refine S2 ?_|(refine T6 ?_ ?_<;>intro h<;>try exact V1 h)|intro el nN nP|intro el nN|exact T4|refine T5 ?_ ?_|intro ex)<;>try conv=>whnf)
 all_goals exact A0 rfl (congrArg AV.i (by omega))
theorem Du(c:D4)(level:Int)(h1:1≤level)(h2:level≤c.widths.length):A3 Tryz.prog 93 [W6 c,.i level] (.i (A9 c level)):=by
 refine C0 Tryz.func93 14 fun nQ E h0=>?_
 have nO:c.widths.length≤9223372036854775807:=by
  have:=((nQ (W6 c) (by simp)).agg (.sl 1 (c.widths.map wA)) (by simp)).sl
  simpa using this
 clear nQ
 repeat'((first|refine S2 ?_|(refine T6 ?_ ?_<;>intro h<;>try exact V1 h)|intro el nN nP|intro el nN|exact T4|refine T5 ?_ ?_|intro ex)<;>try conv=>whnf)
 all_goals exact A0 rfl (congrArg AV.i (D3 nN).symm)
theorem bN(v w:Int):v / w*w=C6 v w:=by
 unfold C6
 have:=Int.ediv_mul_add_emod v w
 omega
theorem Fa(s:A4)(column level v:Int):A3 Tryz.prog 47 [sA s,.i column,.i level,.i v] (.i (I0 s column level v)):=by
 have nu:=u6 s column
 have pK:=u5 level 0 (B9 s column)
 have rG:=u5 v (-1000000) 1000000
 refine C0 Tryz.func47 59 fun nQ E h0=>?_
 obtain⟨om,oF,pV⟩:=W7 (s:=s) (nQ _ (by simp))
 clear nQ
 repeat'((first|refine A1 nu ?_|refine A1 pK ?_ |refine S2 ?_|(refine T6 ?_ ?_<;>intro h<;>try exact V1 h)|intro el nN nP|intro el nN|exact T4|refine T5 ?_ ?_|intro ex)<;>try conv=>whnf)
 all_goals first
  |(refine A0 rfl (congrArg AV.i ?_);rw[I0,if_pos (by omega)];done)
  |skip
 obtain⟨hr,h1,h2,h4⟩:=Hd (s:=s) (column:=column) (level:=level) (by omega) (by omega)
 rw[I0,if_neg (by omega)]
 clear nu pK
 obtain⟨c,hc⟩:∃c,s.cols[column.toNat]?=some c:=⟨_,List.getElem?_eq_getElem (by omega)⟩
 have nh:=B7 hc
 have ow:=CR hr h1 hc
 rw[F0,if_neg (by omega),nh]at h4
 rw[nh]
 have nd:=LQ s column v hr (by omega) hc
 have rS:=fun (l:CL) (hl:s.lists[c.lst.toNat]?=some l)=>TK l.1 l.2 v level (pV _ (List.mem_of_getElem? hl))
 have sW:¬c.kind=2→¬level=0→(1≤A9 c level∧A9 c level≤1000000)∧A3 Tryz.prog 93 [W6 c,.i level] (.i (A9 c level)):=by
  intro h5 h7
  have h9:N7 s c=c.widths.length:=by unfold N7;rw[if_neg h5]
  rcases ow with ow|ow
  ·omega
  exact⟨v8 ow.2.2.2.2.2.2 (by omega) (by omega),Du c level (by omega) (by omega)⟩
 have pF:¬c.kind=2→¬level=0→-1000000≤v∧v≤1000000→A3 Tryz.prog 94 [.i v,.i (A9 c level)] (.i (v / A9 c level)):=fun h5 h6 h7=>Ns _ _ (sW h5 h6).1.1 (by omega)
 have sg:¬c.kind=2→¬level=0→v / A9 c level*A9 c level=C6 v (A9 c level)∧v-A9 c level<C6 v (A9 c level)∧C6 v (A9 c level)≤v:=fun h5 h6=>⟨bN _ _,T9 v (sW h5 h6).1.1⟩
 unfold O9
 generalize A9 c level=w at *
 repeat'((first|(refine A2 (x:=c) hc (by omega) ?_)|refine A1 nd ?_|refine A1 (rS _ (by assumption)) ?_|refine A1 rG ?_|refine A1 (sW (by assumption) (by assumption)).2 ?_|refine A1 (pF (by assumption) (by assumption) (by assumption)) ?_|(refine B8 ?_ ?_;kernel_rfl)|(refine J4 ?_ ?_;(have h6:=sg (by assumption) (by assumption);have h8:=(sW (by assumption) (by assumption)).1;rw[h6.1];omega)) |refine S2 ?_|(refine T6 ?_ ?_<;>intro h<;>try exact V1 h)|intro el nN nP|intro el nN|exact T4|refine T5 ?_ ?_|intro ex)<;>try conv=>whnf)
 all_goals refine A0 rfl (congrArg AV.i ?_)
 all_goals first
  |(rw[if_pos (by assumption:c.kind=2),if_neg (by rw[h];exact Bool.false_ne_true)];done)
  |(rw[if_pos (by assumption:c.kind=2),if_pos (by assumption),I7 nN];done)
  |(rw[if_neg (by assumption:¬c.kind=2),if_pos (by omega)];done)
  |(rw[if_neg (by assumption:¬c.kind=2),if_neg (by omega),if_pos (by omega)];done)
  |(rw[if_neg (by assumption:¬c.kind=2),if_neg (by omega),if_neg (by omega),if_pos (by omega)];done)
  |(rw[if_neg (by assumption:¬c.kind=2),if_neg (by omega),if_neg (by omega),if_pos (by omega)];omega)
  |(rw[if_neg (by assumption:¬c.kind=2),if_neg (by omega),if_neg (by omega),if_neg (by omega),(sg (by assumption) (by assumption)).1];done)
end Go.Proofs.YtjkbhaaobhgkdabGreatDoor

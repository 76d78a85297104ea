/- Chapter 2: the least level, coarse values. Chapter 2: values turned to another level, picks. -/
import Derived.Test.YtiphlhoclaogjaaGreatDoorJB7
set_option linter.unusedVariables false
set_option linter.unnecessarySimpa false
set_option linter.unusedSimpArgs false
set_option maxHeartbeats 64000000
namespace Go.Proofs.YtiphlhoclaogjaaGreatDoor
open Go Go.Av
attribute [local irreducible] C9 B3 C8 D1 DQ D0 C7 St.le A3 B8
set_option maxRecDepth 100000
def e8(s:A4)(c:D3):Nat→Nat
 |0=>0
 |k+1=>if K6 s c k=K6 s c (k+1:Nat)then e8 s c k else k+1
def H7(s:A4)(column level:Int):Int:=if level<0∨B4 s column<level then -1 else e8 s (B6 s column) level.toNat
theorem Bz{s:A4}{column level:Int}(h0:0≤level)(h:level≤B4 s column):C3 s=0∧1≤column∧column<s.cols.length∧level≤E6 s column:=by
 unfold B4 at h
 by_cases hr:C3 s=0
 ·rw[if_pos hr]at h
  refine⟨hr,?_,?_,h⟩ <;>
  ·unfold E6 at h
   split at h<;>omega
 ·rw[if_neg hr]at h;omega
theorem Pb{s:A4}(h:C3 s=0)(column:Int):E6 s column≤61:=by
 unfold E6
 split
 ·omega
 ·have hc:s.cols[column.toNat]?=some s.cols[column.toNat]:=List.getElem?_eq_getElem (by omega)
  have ov:=u5 h (by omega) hc
  rw[B9 hc]
  generalize s.cols[column.toNat]=c at ov
  unfold M1
  rcases ov with ov|ov
  ·rw[if_pos ov.1]
   have hl:s.lists[c.lst.toNat]?=some (s.lists[c.lst.toNat]'(by omega)):=List.getElem?_eq_getElem (by omega)
   have hk:=(D2 h).2.2.1 _ (List.mem_of_getElem? hl)
   rw[H5 hl]
   have h1:=(G9 hk).2.2
   have:=u4 (nm:=(s.lists[c.lst.toNat]'(by omega)).1) (cs:=(s.lists[c.lst.toNat]'(by omega)).2) (by omega)
   omega
  ·rw[if_neg (by omega)];omega
theorem ar{s:A4}{c:D3}{k:Nat}(h:0<(k:Int))(he:K6 s c ((k:Int)-1)=K6 s c k):e8 s c k=e8 s c (k-1):=by
 obtain⟨k,rfl⟩:∃j,k=j+1:=⟨k-1,by omega⟩
 have e:((k+1:Nat):Int)-1=(k:Nat):=by omega
 rw[e]at he
 rw[e8,if_pos he];rfl
theorem au{s:A4}{c:D3}{k:Nat}(h:0<(k:Int))(he:¬K6 s c ((k:Int)-1)=K6 s c k):e8 s c k=k:=by
 obtain⟨k,rfl⟩:∃j,k=j+1:=⟨k-1,by omega⟩
 have e:((k+1:Nat):Int)-1=(k:Nat):=by omega
 rw[e]at he
 rw[e8,if_neg he]
theorem OL(s:A4)(column level:Int):A3 Tryz.prog 213 [sA s,.i column,.i level] (.i (H7 s column level)):=by
 have ng:=Db s column
 refine B5 Tryz.func213 35 fun nL E h0=>?_
 clear nL
 repeat'((first|refine A0 ng ?_ |refine S2 ?_|(refine T6 ?_ ?_<;>intro h<;>try exact V1 h)|intro el nJ nK|intro el nJ|exact T4|refine T5 ?_ ?_|intro ex)<;>try conv=>whnf)
 all_goals first
  |(refine A1 rfl (congrArg AV.i ?_);rw[H7,if_pos (by omega)];done)
  |skip
 obtain⟨hr,h1,h2,h4⟩:=Bz (s:=s) (column:=column) (level:=level) (by omega) (by omega)
 rw[H7,if_neg (by omega)]
 have oJ:=fun (lv:Int) (h:0≤lv∧lv≤level)=>Vo s column lv hr h1 h2 h.1 (by omega)
 obtain⟨n,rfl⟩:=Int.eq_ofNat_of_zero_le (show 0≤level by omega)
 rw[Int.toNat_natCast]
 generalize B6 s column=c at oJ ⊢
 have zA:=Pb hr column
 have hn61:n≤61:=by omega
 clear ng h4 zA
 refine B0 (ι:=Nat) (fun k=>⟨[(1,.i column),(2,.i k),(3,.ref 0 0)],1,[(0,some (.box (sL s)))]⟩) (fun k=>k≤n∧e8 s c n=e8 s c k) (fun k=>k) n ⟨Nat.le_refl _,rfl⟩ (A6 h0) (fun k hI=>?_)
 obtain⟨hk,hI⟩:=hI
 have ou:=fun (h:0<(k:Int))=>oJ ((k:Int)-1) (by omega)
 have nl:=oJ k (by omega)
 clear oJ
 repeat'((first|refine A0 (ou (by assumption)) ?_|refine A0 nl ?_|(refine A9 ?_ ?_;kernel_rfl) |refine S2 ?_|(refine T6 ?_ ?_<;>intro h<;>try exact V1 h)|intro el nJ nK|intro el nJ|exact T4|refine T5 ?_ ?_|intro ex)<;>try conv=>whnf)
 all_goals first
  |exact⟨k-1,⟨by omega,by rw[hI,ar (by assumption) (by assumption)]⟩,by omega,A7 h0 rfl ⟨rfl,congrArg (fun z:Int=>some (AV.i z)) (by omega),rfl,trivial⟩ ⟨rfl,trivial⟩ rfl rfl rfl⟩
  |exact A1 rfl (congrArg (fun z:Nat=>AV.i (z:Int)) (by rw[hI,au (by assumption) (by assumption)]))
  |(obtain rfl:k=0:=by omega
    exact A1 rfl (congrArg (fun z:Nat=>AV.i (z:Int)) (by rw[hI];rfl)))
def Q1(s:A4)(c:D3)(level v:Int):Int:=if c.kind=2 then (if Bx s c v=true then L3 (C2 s c).1 (C2 s c).2 v level else -1)else if v≠(-1099511627776)∧(v < -1000000∨1000000<v)then -1 else if level=0 then 0 else if v=(-1099511627776)then (-1099511627776)else C6 v (B1 c level)
def G1(s:A4)(column level v:Int):Int:=if level<0∨B4 s column<level then -1 else Q1 s (B6 s column) level v
abbrev Jr(x:Int×Bool):AV:=.tup [.i x.1,.b x.2]
abbrev YO(x:Int×Int×Bool):AV:=.tup [.i x.1,.i x.2.1,.b x.2.2]
def M2(c:D3)(level v:Int):Int×Int×Bool :=
 if level=0 then (c.low,c.high,decide (v=0))else if v < -2000000∨1000000<v then (0,0,false)else (max v c.low,min (v+B1 c level-1) c.high,decide (C6 v (B1 c level)=v) && decide (max v c.low≤min (v+B1 c level-1) c.high))
theorem Qr(c:D3)(level v:Int)(hc:meaE c=0)(h1:0≤level)(h2:level≤c.widths.length):A3 Tryz.prog 198 [U0 c,.i level,.i v] (YO (M2 c level v)):=by
 have hp:=U1 hc
 have qH:¬level=0→1≤B1 c level∧B1 c level≤1000000:=fun h=>k7 hp.2.2.2.2.2 (by omega) h2
 have sX:¬level=0→A3 Tryz.prog 215 [U0 c,.i level] (.i (B1 c level)):=fun h=>IV c level (by omega) h2
 have qm:¬level=0→¬v < -2000000→¬1000000<v→A3 Tryz.prog 216 [.i v,.i (B1 c level)] (.i (C6 v (B1 c level))):=fun h h5 h6=>Ei _ _ (qH h).1 (qH h).2 (by omega) (by omega)
 unfold M2
 generalize B1 c level=w at *
 refine B5 Tryz.func198 54 fun nL E h0=>?_
 clear nL
 repeat'((first|refine A0 (sX (by assumption)) ?_|refine A0 (qm (by assumption) (by assumption) (by assumption)) ?_|(refine J0 ?_ ?_;(have:=qH (by assumption);omega))|(refine A9 ?_ ?_;kernel_rfl) |refine S2 ?_|(refine T6 ?_ ?_<;>intro h<;>try exact V1 h)|intro el nJ nK|intro el nJ|exact T4|refine T5 ?_ ?_|intro ex)<;>try conv=>whnf)
 all_goals first
  |(refine Ft (a:=.i _) (b:=.i _) (c:=.b _) rfl rfl rfl ?_;rw[if_pos (by assumption)];done)
  |(refine Ft (a:=.i _) (b:=.i _) (c:=.b _) rfl rfl rfl ?_;rw[if_neg (by assumption),if_pos (by omega)];done)
  |(refine Ft (a:=.i _) (b:=.i _) (c:=.b _) rfl rfl rfl ?_;rw[if_neg (by assumption),if_neg (by omega)]
    simp only[*,decide_true,decide_false,Bool.true_and,Bool.false_and,Bool.and_true];done)
  |(refine Ft (a:=.i _) (b:=.i _) (c:=.b _) rfl rfl rfl ?_;rw[if_neg (by assumption),if_neg (by omega)];trace_state)
def CA(c:D3)(fr v to:Int):Int×Bool :=
 if 0<fr∧v=(-1099511627776)then (if to=0 then (0,c.opt)else (v,c.opt))else
  if (M2 c fr v).2.2=false then (0,false)else if to=0 then (0,true)else if fr=0∧c.opt=true then (0,false)else
   (C6 (M2 c fr v).1 (B1 c to),decide (C6 (M2 c fr v).1 (B1 c to)=C6 (M2 c fr v).2.1 (B1 c to)))
theorem Tg{c:D3}{level v:Int}(hc:meaE c=0)(h1:0≤level)(h2:level≤c.widths.length):-4000000≤(M2 c level v).1∧(M2 c level v).1≤4000000∧-4000000≤(M2 c level v).2.1∧(M2 c level v).2.1≤4000000:=by
 have hp:=U1 hc
 have qH:¬level=0→1≤B1 c level∧B1 c level≤1000000:=fun h=>k7 hp.2.2.2.2.2 (by omega) h2
 unfold M2
 split
 ·simp only;omega
 ·split
  ·simp only;omega
  ·have:=qH (by assumption)
   simp only
   omega
theorem YP(c:D3)(fr v to:Int)(hc:meaE c=0)(h1:0≤fr)(h2:fr≤c.widths.length)(h3:0≤to)(h4:to≤c.widths.length):A3 Tryz.prog 167 [U0 c,.i fr,.i v,.i to] (Jr (CA c fr v to)):=by
 have hp:=U1 hc
 have un:=Qr c fr v hc h1 h2
 have hsb:=Tg (v:=v) hc h1 h2
 have qH:¬to=0→1≤B1 c to∧B1 c to≤1000000:=fun h=>k7 hp.2.2.2.2.2 (by omega) h4
 have sX:¬to=0→A3 Tryz.prog 215 [U0 c,.i to] (.i (B1 c to)):=fun h=>IV c to (by omega) h4
 have sf:¬to=0→A3 Tryz.prog 216 [.i (M2 c fr v).1,.i (B1 c to)] (.i (C6 (M2 c fr v).1 (B1 c to))):=fun h=>Ei _ _ (qH h).1 (qH h).2 (by omega) (by omega)
 have qa:¬to=0→A3 Tryz.prog 216 [.i (M2 c fr v).2.1,.i (B1 c to)] (.i (C6 (M2 c fr v).2.1 (B1 c to))):=fun h=>Ei _ _ (qH h).1 (qH h).2 (by omega) (by omega)
 unfold CA
 generalize B1 c to=w at *
 generalize M2 c fr v=sp at *
 obtain⟨lo,hi,ok⟩:=sp
 dsimp only at sf qa un ⊢
 refine B5 Tryz.func167 61 fun nL E h0=>?_
 clear nL
 repeat'((first|refine A0 un ?_|refine A0 (sX (by assumption)) ?_|refine A0 (sf (by assumption)) ?_|refine A0 (qa (by assumption)) ?_|(refine A9 ?_ ?_;kernel_rfl) |refine S2 ?_|(refine T6 ?_ ?_<;>intro h<;>try exact V1 h)|intro el nJ nK|intro el nJ|exact T4|refine T5 ?_ ?_|intro ex)<;>try conv=>whnf)
 all_goals first
  |(refine I5 (a:=.i _) (b:=.b _) rfl rfl ?_;clear sf qa un sX qH h0 E;first
     |(rw[if_pos (by omega),if_pos (by assumption)];done)
     |(rw[if_pos (by omega),if_neg (by assumption)];done)
     |(rw[if_neg (by omega),if_pos (by assumption)];done)
     |(have ho:ok=true:=by assumption
       subst ho
       rw[if_neg (by omega),if_neg (by decide)]
       first
        |(rw[if_pos (by assumption)];done)
        |(rw[if_neg (by assumption),if_pos ⟨by assumption,by assumption⟩];done)
        |(rw[if_neg (by assumption),if_neg (fun hx=>by first|exact absurd hx.1 (by assumption)|(have h9:=hx.2;simp[*]at h9))];done))
     |trace_state)
def Ag(nm:List UInt8)(cs:List Code)(fr v to:Int):List Nat→Int→Bool→Int×Bool
 |[],out,sm=>(out,sm)
 |leaf::r,out,sm=>if L3 nm cs leaf fr=v then (if sm=true∧L3 nm cs leaf to≠out then (0,false)else Ag nm cs fr v to r (L3 nm cs leaf to) true)else Ag nm cs fr v to r out sm
def EV(nm:List UInt8)(cs:List Code)(fr v to:Int):Int×Bool:=Ag nm cs fr v to (H1 nm cs (C5 nm cs-1)) 0 false
theorem Ah(nm:List UInt8)(cs:List Code)(level:Int):(H1 nm cs level).length≤cs.length:=by
 unfold H1
 split
 ·exact Eg _ _ _
 ·simp
theorem YQ(nm:List UInt8)(cs:List Code)(fr v to:Int):A3 Tryz.prog 166 [lA nm cs,.i fr,.i v,.i to] (Jr (EV nm cs fr v to)):=by
 refine B5 Tryz.func166 45 fun nL E h0=>?_
 have nM:cs.length≤9223372036854775807:=by
  have:=((nL (lA nm cs) (by simp)).agg (.sl 2 (cs.map cA)) (by simp)).sl
  simpa using this
 clear nL
 have ue:=u4 (nm:=nm) nM
 have np:=Ah nm cs (C5 nm cs-1)
 unfold EV
 have qP:=EU nm cs nM
 have pt:=Hb nm cs (C5 nm cs-1) nM
 generalize hL:H1 nm cs (C5 nm cs-1)=L at pt np ⊢
 repeat'((first|refine A0 qP ?_|refine A0 pt ?_|(refine A9 ?_ ?_;kernel_rfl) |refine S2 ?_|(refine T6 ?_ ?_<;>intro h<;>try exact V1 h)|intro el nJ nK|intro el nJ|exact T4|refine T5 ?_ ?_|intro ex)<;>try conv=>whnf)
 have sF:=fun (leaf:Nat) (lv:Int)=>Kt nm cs leaf lv nM
 refine B0 (ι:=Nat×Int×Bool) (fun x=>⟨[(1,.i fr),(2,.i v),(3,.i to),(4,.ref 0 0),(10,.i x.2.1),(11,.b x.2.2),(19,.sl 1 (L.map iA)),(20,.i L.length),(21,.i x.1)],1,[(0,some (.box [.str nm,.sl 2 (cs.map cA)]))]⟩) (fun x=>x.1≤L.length∧Ag nm cs fr v to L 0 false=Ag nm cs fr v to (L.drop x.1) x.2.1 x.2.2) (fun x=>L.length-x.1) (0,0,false) ⟨Nat.zero_le _,rfl⟩ (A6 h0) (fun x hI=>?_)
 obtain⟨k,out,sm⟩:=x
 obtain⟨hk,hI⟩:=hI
 dsimp only at hk hI ⊢
 repeat'((first|refine A0 (sF _ _) ?_ |refine S2 ?_|(refine T6 ?_ ?_<;>intro h<;>try exact V1 h)|intro el nJ nK|intro el nJ|exact T4|refine T5 ?_ ?_|intro ex)<;>try conv=>whnf)
 all_goals first
  |exact⟨(k+1,out,sm),⟨by dsimp only;omega,by rw[hI,F7 nJ,Ag,if_neg (by assumption)]⟩,by dsimp only;omega,A6 h0⟩
  |exact⟨(k+1,L3 nm cs el to,true),⟨by dsimp only;omega,by rw[hI,F7 nJ,Ag,if_pos (Classical.byContradiction (by assumption)),if_neg (fun hx=>by first|exact absurd hx.2 (by assumption)|(have h9:=hx.1;simp[*]at h9))]⟩,by dsimp only;omega,A6 h0⟩
  |exact I5 (a:=.i _) (b:=.b _) rfl rfl (by rw[hI,F7 nJ,Ag,if_pos (Classical.byContradiction (by assumption)),if_pos ⟨by assumption,by assumption⟩])
  |exact I5 (a:=.i _) (b:=.b _) rfl rfl (by rw[hI,T8 (by assumption)];rfl)
def U2(s:A4)(column fr v to:Int):Int×Bool :=
 if fr<0∨E6 s column<fr∨to<0∨E6 s column<to then (0,false)else
  if (if (B6 s column).kind=2 then EV (C2 s (B6 s column)).1 (C2 s (B6 s column)).2 fr v to else CA (B6 s column) fr v to).2=true then ((if (B6 s column).kind=2 then EV (C2 s (B6 s column)).1 (C2 s (B6 s column)).2 fr v to else CA (B6 s column) fr v to).1,true)else (0,false)
theorem Lj(s:A4)(column fr v to:Int)(hr:C3 s=0):A3 Tryz.prog 112 [sA s,.i column,.i fr,.i v,.i to] (Jr (U2 s column fr v to)):=by
 have ng:=HA s column hr
 refine B5 Tryz.func112 67 fun nL E h0=>?_
 clear nL
 repeat'((first|refine A0 ng ?_ |refine S2 ?_|(refine T6 ?_ ?_<;>intro h<;>try exact V1 h)|intro el nJ nK|intro el nJ|exact T4|refine T5 ?_ ?_|intro ex)<;>try conv=>whnf)
 all_goals first
  |(refine I5 (a:=.i _) (b:=.b _) rfl rfl ?_;rw[U2,if_pos (by omega)];done)
  |skip
 have hb:1≤column∧column<s.cols.length:=by
  have:0≤E6 s column:=by omega
  unfold E6 at this
  split at this<;>omega
 obtain⟨c,hc⟩:∃c,s.cols[column.toNat]?=some c:=⟨_,List.getElem?_eq_getElem (by omega)⟩
 have nY:=B9 hc
 have ov:=u5 hr hb.1 hc
 have yo:E6 s column=M1 s c:=by rw[E6,if_neg (by omega),nY]
 rw[U2,if_neg (by omega),nY]
 have hm:¬c.kind=2→A3 Tryz.prog 167 [U0 c,.i fr,.i v,.i to] (Jr (CA c fr v to)):=by
  intro h5
  have h9:M1 s c=c.widths.length:=by unfold M1;rw[if_neg h5]
  have hk:=(j5 ((D2 hr).2.2.2.1 _ c hc)).2.2.1
  exact YP c fr v to (AZ hk (by omega)) (by omega) (by omega) (by omega) (by omega)
 have pO:c.kind=2→c.lst<s.lists.length∧0≤c.lst:=by omega
 clear ng yo ov nY
 have qf:=fun l:CL=>YQ l.1 l.2 fr v to
 generalize CA c fr v to=xm at hm ⊢
 repeat'((first|(refine A2 (x:=c) hc (by omega) ?_)|refine A0 (hm (by assumption)) ?_|refine A0 (qf _) ?_|(refine w6 ?_ ?_ (fun el nJ=>?_);(have:=pO (by assumption);omega);(have:=pO (by assumption);omega)) |refine S2 ?_|(refine T6 ?_ ?_<;>intro h<;>try exact V1 h)|intro el nJ nK|intro el nJ|exact T4|refine T5 ?_ ?_|intro ex)<;>try conv=>whnf)
 all_goals first
  |(refine I5 (a:=.i _) (b:=.b _) rfl rfl ?_
    rw[if_pos (by assumption:c.kind=2),H5 nJ]
    first
     |(rw[if_pos h];done)
     |(rw[if_neg (by rw[h];exact Bool.false_ne_true)];done))
  |(refine I5 (a:=.i _) (b:=.b _) rfl rfl ?_
    rw[if_neg (by assumption:¬c.kind=2)]
    first
     |(rw[if_pos h];done)
     |(rw[if_neg (by rw[h];exact Bool.false_ne_true)];done))
def OM(s:A4)(column fr v to:Int):Int×Bool:=if C3 s=0 then U2 s column fr v to else (0,false)
structure Pk where
 col:Int
 lev:Int
deriving DecidableEq
abbrev A8(p:Pk):List AV:=[.i p.col,.i p.lev]
abbrev Qs(p:Pk):AV:=.agg (A8 p)
def CV(s:A4)(p:Pk):Int:=if E6 s p.col<0 then 7 else if p.lev<0∨E6 s p.col<p.lev then 8 else 0
theorem Qt(s:A4)(p:Pk)(hr:C3 s=0):A3 Tryz.prog 157 [sA s,Qs p] (.i (CV s p)):=by
 have ng:=HA s p.col hr
 refine B5 Tryz.func157 23 fun nL E h0=>?_
 clear nL
 repeat'((first|refine A0 ng ?_ |refine S2 ?_|(refine T6 ?_ ?_<;>intro h<;>try exact V1 h)|intro el nJ nK|intro el nJ|exact T4|refine T5 ?_ ?_|intro ex)<;>try conv=>whnf)
 all_goals first
  |(refine A1 rfl (congrArg AV.i ?_);rw[CV,if_pos (by assumption)];done)
  |(refine A1 rfl (congrArg AV.i ?_);rw[CV,if_neg (by assumption),if_pos (by omega)];done)
  |(refine A1 rfl (congrArg AV.i ?_);rw[CV,if_neg (by assumption),if_neg (by omega)];done)
def N5(s:A4)(p:Pk):Int:=if C3 s=0 then CV s p else C3 s
theorem ON(s:A4)(p:Pk):A3 Tryz.prog 200 [sA s,Qs p] (.i (N5 s p)):=by
 have qE:=fun hr=>Qt s p hr
 refine B5 Tryz.func200 14 fun nL E h0=>?_
 clear nL
 repeat'((first|refine A0 (k6 s) ?_|refine A0 (qE (Classical.byContradiction (by assumption))) ?_ |refine S2 ?_|(refine T6 ?_ ?_<;>intro h<;>try exact V1 h)|intro el nJ nK|intro el nJ|exact T4|refine T5 ?_ ?_|intro ex)<;>try conv=>whnf)
 all_goals first
  |(refine A1 rfl (congrArg AV.i ?_);rw[N5,if_neg (by assumption)];done)
  |(refine A1 rfl (congrArg AV.i ?_);rw[N5,if_pos (Classical.byContradiction (by assumption))];done)
def ED(s:A4)(l:List Pk)(k:Nat)(p:Pk):Int:=if CV s p=0 then (if 0<k∧p.col≤(l.getD (k-1) ⟨0,0⟩).col then 10 else 0)else CV s p
theorem SG{s:A4}{l:List Pk}{k:Nat}{p:Pk}(h:¬CV s p=0):ED s l k p=CV s p:=by rw[ED,if_neg h]
theorem Ti{l:List Pk}{k:Nat}{q:Pk}(h:0<(k:Int))(hq:l[((k:Int)-1).toNat]?=some q):l.getD (k-1) ⟨0,0⟩=q:=D7 (by rw[←hq];congr 1;omega)
theorem Wp{s:A4}{l:List Pk}{k:Nat}{p q:Pk}(h:¬CV s p≠0)(h0:0<(k:Int))(hq:l[((k:Int)-1).toNat]?=some q)(oW:p.col≤q.col):ED s l k p=10:=by
 rw[ED,if_pos (Classical.byContradiction h),Ti h0 hq,if_pos ⟨by omega,oW⟩]
theorem aw{s:A4}{l:List Pk}{k:Nat}{p q:Pk}(h:¬CV s p≠0)(h0:0<(k:Int))(hq:l[((k:Int)-1).toNat]?=some q)(oW:¬p.col≤q.col):ED s l k p=0:=by
 rw[ED,if_pos (Classical.byContradiction h),Ti h0 hq,if_neg (fun hx=>oW hx.2)]
theorem gK{s:A4}{l:List Pk}{k:Nat}{p:Pk}(h:¬CV s p≠0)(h0:¬0<(k:Int)):ED s l k p=0:=by
 rw[ED,if_pos (Classical.byContradiction h),if_neg (fun hx=>by omega)]
def I7(s:A4)(l:List Pk):Int:=if C3 s=0 then F3 (ED s l) 0 l else C3 s
theorem YR(s:A4)(l:List Pk):A3 Tryz.prog 100 [sA s,.sl 2 (l.map A8)] (.i (I7 s l)):=by
 have qE:=fun p hr=>Qt s p hr
 refine B5 Tryz.func100 41 fun nL E h0=>?_
 have nM:l.length≤9223372036854775807:=by have:=(nL (.sl 2 (l.map A8)) (by simp)).sl;simpa using this
 clear nL
 repeat'((first|refine A0 (k6 s) ?_ |refine S2 ?_|(refine T6 ?_ ?_<;>intro h<;>try exact V1 h)|intro el nJ nK|intro el nJ|exact T4|refine T5 ?_ ?_|intro ex)<;>try conv=>whnf)
 all_goals first
  |(refine A1 rfl (congrArg AV.i ?_);rw[I7,if_neg (by assumption)];done)
  |skip
 have hr:C3 s=0:=Classical.byContradiction (by assumption)
 rw[I7,if_pos hr]
 refine B0 (ι:=Nat) (fun k=>⟨[(1,.sl 2 (l.map A8)),(2,.ref 0 0),(14,.sl 2 (l.map A8)),(15,.i l.length),(16,.i k)],1,[(0,some (.box (sL s)))]⟩) (fun k=>F2 (ED s l) l k) (fun k=>l.length-k) 0 (F2.zero _ _) (A6 h0) (fun k hI=>?_)
 have hk:=hI.1
 repeat'((first|refine A0 (qE _ hr) ?_|(refine A9 ?_ ?_;kernel_rfl) |refine S2 ?_|(refine T6 ?_ ?_<;>intro h<;>try exact V1 h)|intro el nJ nK|intro el nJ|exact T4|refine T5 ?_ ?_|intro ex)<;>try conv=>whnf)
 all_goals first
  |exact A1 rfl (congrArg AV.i (by rw[←hI.hit nJ (by rw[SG h];exact h),SG h]))
  |exact A1 rfl (congrArg AV.i (by have e:=Wp (by assumption) (by assumption) nJ h;rw[←hI.hit (by assumption) (by rw[e];decide),e]))
  |exact⟨k+1,hI.step (by assumption) (aw (by assumption) (by assumption) nJ h),by omega,A6 h0⟩
  |exact⟨k+1,hI.step nJ (gK (by assumption) (by assumption)),by omega,A6 h0⟩
  |exact A1 rfl (congrArg AV.i (hI.done (by assumption)).symm)
inductive B7 where
 |mk (op col code lo hi:Int) (kids:List B7)
def B7.op:B7→Int|.mk o _ _ _ _ _=>o
def B7.col:B7→Int|.mk _ c _ _ _ _=>c
def B7.code:B7→Int|.mk _ _ k _ _ _=>k
def B7.lo:B7→Int|.mk _ _ _ l _ _=>l
def B7.hi:B7→Int|.mk _ _ _ _ h _=>h
def B7.kids:B7→List B7|.mk _ _ _ _ _ ks=>ks
mutual
def R0:B7→List AV
 |.mk o c k l h ks=>[.i o,.i c,.i k,.i l,.i h,.sl 6 (SH ks)]
def SH:List B7→List (List AV)
 |[]=>[]
 |x::r=>R0 x::SH r
end
theorem Tj:∀ks,SH ks=ks.map R0
 |[]=>rfl
 |x::r=>by rw[SH,Tj r];rfl
def K0(c:B7):List AV:=[.i c.op,.i c.col,.i c.code,.i c.lo,.i c.hi,.sl 6 (c.kids.map R0)]
theorem Kx(c:B7):R0 c=K0 c:=by
 cases c
 rw[R0,Tj];rfl
theorem Pc(ks:List B7):ks.map R0=ks.map K0:=List.map_congr_left fun c _=>Kx c
abbrev D5(c:B7):AV:=.agg (K0 c)
abbrev M9(c:B7):List AV:=[.i c.op,.i c.col,.i c.code,.i c.lo,.i c.hi,.sl 6 (c.kids.map K0)]
theorem F8(c:B7):D5 c=.agg (M9 c):=by
 show AV.agg [.i c.op,.i c.col,.i c.code,.i c.lo,.i c.hi,.sl 6 (c.kids.map R0)]=_
 rw[Pc]
theorem YS{c k:B7}(h:k∈c.kids):SizeOf.sizeOf k<SizeOf.sizeOf c:=by
 cases c with
 |mk o c k l h' ks =>
  have:=List.sizeOf_lt_of_mem (show _∈ks from h)
  simp only[B7.mk.sizeOf_spec]
  omega
theorem N6{p:B7→Prop}(h:∀c,(∀k∈c.kids,p k)→p c)(c:B7):p c :=
 h c fun k _=>N6 h k
termination_by SizeOf.sizeOf c
decreasing_by exact YS (by assumption)
mutual
def BE:B7→Int→Int
 |.mk _ _ _ _ _ ks,most=>BF ks most 1
def BF:List B7→Int→Int→Int
 |[],_,n=>n
 |x::r,most,n=>if most<n then n else BF r most (n+BE x (most-n))
end
theorem Pd(c:B7)(m:Int):BE c m=BF c.kids m 1:=by cases c;rfl
theorem Ky(c:B7):∀m:Int,1≤BE c m∧BE c m≤max 1 (m+1):=by
 refine N6 (p:=fun c=>∀m:Int,1≤BE c m∧BE c m≤max 1 (m+1)) (fun c ih m=>?_) c
 have key:∀(l:List B7),(∀k∈l,k∈c.kids)→∀n:Int,1≤n→n≤max 1 (m+1)→1≤BF l m n∧BF l m n≤max 1 (m+1):=by
  intro l
  induction l with
  |nil=>intro _ n h1 h2;exact⟨h1,h2⟩
  |cons x r su =>
   intro hl n h1 h2
   unfold BF
   split
   ·exact⟨h1,h2⟩
   ·have:=ih x (hl x (by simp)) (m-n)
    exact su (fun k hk=>hl k (by simp[hk])) _ (by omega) (by omega)
 rw[Pd]
 exact key c.kids (fun k hk=>hk) 1 (by omega) (by omega)
mutual
def j6:B7→Nat
 |.mk _ _ _ _ _ ks=>w9 ks 0+1
def w9:List B7→Nat→Nat
 |[],n=>n
 |x::r,n=>w9 r (max n (j6 x))
end
theorem Kz(c:B7):j6 c=w9 c.kids 0+1:=by cases c;rfl
theorem Pe:∀(l:List B7) (n:Nat),n≤w9 l n∧∀k∈l,j6 k≤w9 l n
 |[],n=>⟨Nat.le_refl _,fun k hk=>by cases hk⟩
 |x::r,n=>by
  obtain⟨h1,h2⟩:=Pe r (max n (j6 x))
  unfold w9
  refine⟨by omega,fun k hk=>?_⟩
  rcases List.mem_cons.1 hk with rfl|hk
  ·omega
  ·exact h2 k hk
theorem Vp(c:B7):∀(m:Int),-100000≤m→m≤100000→A3 Tryz.prog 177 [D5 c,.i m] (.i (BE c m)):=by
 refine N6 (p:=fun c=>∀(m:Int),-100000≤m→m≤100000→A3 Tryz.prog 177 [D5 c,.i m] (.i (BE c m))) (fun c ih m hm1 sH=>?_) c
 rw[F8,Pd]
 refine B5 Tryz.func177 27 fun nL E h0=>?_
 have nM:c.kids.length≤9223372036854775807:=by
  have:=((nL _ (List.mem_cons_self ..)).agg (.sl 6 (c.kids.map K0)) (by simp)).sl
  simpa using this
 clear nL
 repeat'((first|refine S2 ?_|(refine T6 ?_ ?_<;>intro h<;>try exact V1 h)|intro el nJ nK|intro el nJ|exact T4|refine T5 ?_ ?_|intro ex)<;>try conv=>whnf)
 refine B0 (ι:=Nat×Int) (fun x=>⟨[(1,.i m),(5,.i x.2),(9,.sl 6 (c.kids.map K0)),(10,.i c.kids.length),(11,.i x.1)],1,[(0,some (.box (M9 c)))]⟩) (fun x=>x.1≤c.kids.length∧(1≤x.2∧x.2≤max 1 (m+1))∧BF c.kids m 1=BF (c.kids.drop x.1) m x.2) (fun x=>c.kids.length-x.1) (0,1) ⟨Nat.zero_le _,by dsimp only;omega,rfl⟩
  (A6 h0) (fun x hI=>?_)
 obtain⟨k,n⟩:=x
 obtain⟨hk,hn,hI⟩:=hI
 dsimp only at hk hn hI ⊢
 repeat'((first|(refine A0 (ih _ (List.mem_of_getElem? (by assumption)) _ (by omega) (by omega)) ?_)|(refine J0 ?_ ?_;(have:=Ky el (m-n);omega)) |refine S2 ?_|(refine T6 ?_ ?_<;>intro h<;>try exact V1 h)|intro el nJ nK|intro el nJ|exact T4|refine T5 ?_ ?_|intro ex)<;>try conv=>whnf)
 all_goals first
  |exact A1 rfl (congrArg AV.i (by rw[hI,F7 nJ,BF,if_pos (by assumption)]))
  |exact A1 rfl (congrArg AV.i (by rw[hI,T8 (by assumption)];rfl))
  |exact⟨(k+1,n+BE el (m-n)),⟨by dsimp only;omega,(by have:=Ky el (m-n);dsimp only;omega),by rw[hI,F7 nJ,BF,if_neg (by assumption)]⟩,by dsimp only;omega,A6 h0⟩
theorem YT(c:B7):j6 c≤100000→A3 Tryz.prog 178 [D5 c] (.i (j6 c)):=by
 refine N6 (p:=fun c=>j6 c≤100000→A3 Tryz.prog 178 [D5 c] (.i (j6 c))) (fun c ih hd=>?_) c
 rw[F8,Kz]at *
 have qN:=Pe c.kids 0
 refine B5 Tryz.func178 20 fun nL E h0=>?_
 have nM:c.kids.length≤9223372036854775807:=by
  have:=((nL _ (List.mem_cons_self ..)).agg (.sl 6 (c.kids.map K0)) (by simp)).sl
  simpa using this
 clear nL
 repeat'((first|refine S2 ?_|(refine T6 ?_ ?_<;>intro h<;>try exact V1 h)|intro el nJ nK|intro el nJ|exact T4|refine T5 ?_ ?_|intro ex)<;>try conv=>whnf)
 refine B0 (ι:=Nat×Nat) (fun x=>⟨[(3,.i x.2),(7,.sl 6 (c.kids.map K0)),(8,.i c.kids.length),(9,.i x.1)],1,[(0,some (.box (M9 c)))]⟩) (fun x=>x.1≤c.kids.length∧x.2≤w9 c.kids 0∧w9 c.kids 0=w9 (c.kids.drop x.1) x.2) (fun x=>c.kids.length-x.1) (0,0) ⟨Nat.zero_le _,Nat.zero_le _,rfl⟩
  (A6 h0) (fun x hI=>?_)
 obtain⟨k,n⟩:=x
 obtain⟨hk,hn,hI⟩:=hI
 dsimp only at hk hn hI ⊢
 have wq:∀el,c.kids[k]?=some el→j6 el≤w9 c.kids 0:=fun el nJ=>qN.2 el (List.mem_of_getElem? nJ)
 repeat'((first|(refine A0 (ih _ (List.mem_of_getElem? (by assumption)) (by have:=wq el nJ;omega)) ?_) |refine S2 ?_|(refine T6 ?_ ?_<;>intro h<;>try exact V1 h)|intro el nJ nK|intro el nJ|exact T4|refine T5 ?_ ?_|intro ex)<;>try conv=>whnf)
 all_goals first
  |exact A1 rfl (congrArg AV.i (by rw[hI,T8 (by assumption)];unfold w9;omega))
  |exact⟨(k+1,max n (j6 el)),⟨by dsimp only;omega,(by have:=wq el nJ;dsimp only;omega),by rw[hI,F7 nJ,w9]⟩,by dsimp only;omega,A7 h0 rfl ⟨congrArg (fun z:Int=>some (AV.i z)) (by dsimp only;omega),rfl,rfl,rfl,trivial⟩ ⟨rfl,trivial⟩ rfl rfl rfl⟩
def x8(op:Int):Int:=if op=5∨op=6 then 2 else if op=7 then 1 else 0
theorem YU(op:Int):A3 Tryz.prog 239 [.i op] (.i (x8 op)):=by
 refine B5 Tryz.func239 9 fun nL E h0=>?_
 clear nL
 repeat'((first|refine S2 ?_|(refine T6 ?_ ?_<;>intro h<;>try exact V1 h)|intro el nJ nK|intro el nJ|exact T4|refine T5 ?_ ?_|intro ex)<;>try conv=>whnf)
 all_goals first
  |exact A1 rfl (congrArg AV.i (by unfold x8;rw[if_pos (by omega)]))
  |exact A1 rfl (congrArg AV.i (by unfold x8;rw[if_neg (by omega),if_pos (by omega)]))
  |exact A1 rfl (congrArg AV.i (by unfold x8;rw[if_neg (by omega),if_neg (by omega)]))
abbrev YV(c:B7):Bool:=decide (¬(c.op≠2∧c.op≠3∧c.op≠4∧c.col≠0)∧¬(c.op≠2∧c.code≠0)∧(c.op=3∨c.lo=0∧c.hi=0))
theorem Tk(c:B7):A3 Tryz.prog 240 [D5 c] (.b (YV c)):=by
 rw[F8]
 refine B5 Tryz.func240 46 fun nL E h0=>?_
 clear nL
 repeat'((first|refine S2 ?_|(refine T6 ?_ ?_<;>intro h<;>try exact V1 h)|intro el nJ nK|intro el nJ|exact T4|refine T5 ?_ ?_|intro ex)<;>try conv=>whnf)
 all_goals first
  |exact A1 rfl (congrArg AV.b (by unfold YV;rw[decide_eq_true (by omega)]))
  |exact A1 rfl (congrArg AV.b (by unfold YV;rw[decide_eq_false (by omega)]))
  |exact A1 rfl (congrArg AV.b (by unfold YV;rw[decide_eq_decide];omega))
end Go.Proofs.YtiphlhoclaogjaaGreatDoor

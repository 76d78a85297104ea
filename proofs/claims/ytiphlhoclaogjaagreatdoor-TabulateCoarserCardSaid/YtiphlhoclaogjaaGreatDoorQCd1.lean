/- Chapter 2: the least level, coarse values. Chapter 2: values turned to another level, picks. -/
import Derived.Test.YtiphlhoclaogjaaGreatDoorQB7
set_option linter.unusedVariables false
set_option linter.unnecessarySimpa false
set_option linter.unusedSimpArgs false
set_option maxHeartbeats 64000000
namespace Go.Proofs.YtiphlhoclaogjaaGreatDoor
open Go Go.Av
attribute [local irreducible] C7 B1 D1 C8 DQ D0 C6 St.le A3 B8
set_option maxRecDepth 100000
def Q6(s:A4)(c:D6):Nat→Nat
 |0=>0
 |k+1=>if K6 s c k=K6 s c (k+1:Nat)then Q6 s c k else k+1
def I1(s:A4)(column level:Int):Int:=if level<0∨A8 s column<level then -1 else Q6 s (B4 s column) level.toNat
theorem EX{s:A4}{column level:Int}(h0:0≤level)(h:level≤A8 s column):C5 s=0∧1≤column∧column<s.cols.length∧level≤F2 s column:=by
 unfold A8 at h
 by_cases hr:C5 s=0
 ·rw[if_pos hr]at h
  refine⟨hr,?_,?_,h⟩ <;>
  ·unfold F2 at h
   split at h<;>omega
 ·rw[if_neg hr]at h;omega
theorem Oj{s:A4}(h:C5 s=0)(column:Int):F2 s column≤61:=by
 unfold F2
 split
 ·omega
 ·have hc:s.cols[column.toNat]?=some s.cols[column.toNat]:=List.getElem?_eq_getElem (by omega)
  have pQ:=AQ h (by omega) hc
  rw[C0 hc]
  generalize s.cols[column.toNat]=c at pQ
  unfold N0
  rcases pQ with pQ|pQ
  ·rw[if_pos pQ.1]
   have hl:s.lists[c.lst.toNat]?=some (s.lists[c.lst.toNat]'(by omega)):=List.getElem?_eq_getElem (by omega)
   have hk:=(E9 h).2.2.1 _ (List.mem_of_getElem? hl)
   rw[I3 hl]
   have h1:=(I2 hk).2.2
   have:=m5 (nm:=(s.lists[c.lst.toNat]'(by omega)).1) (cs:=(s.lists[c.lst.toNat]'(by omega)).2) (by omega)
   omega
  ·rw[if_neg (by omega)];omega
theorem au{s:A4}{c:D6}{k:Nat}(h:0<(k:Int))(he:K6 s c ((k:Int)-1)=K6 s c k):Q6 s c k=Q6 s c (k-1):=by
 obtain⟨k,rfl⟩:∃j,k=j+1:=⟨k-1,by omega⟩
 have e:((k+1:Nat):Int)-1=(k:Nat):=by omega
 rw[e]at he
 rw[Q6,if_pos he];rfl
theorem aw{s:A4}{c:D6}{k:Nat}(h:0<(k:Int))(he:¬K6 s c ((k:Int)-1)=K6 s c k):Q6 s c k=k:=by
 obtain⟨k,rfl⟩:∃j,k=j+1:=⟨k-1,by omega⟩
 have e:((k+1:Nat):Int)-1=(k:Nat):=by omega
 rw[e]at he
 rw[Q6,if_neg he]
theorem NX(s:A4)(column level:Int):A3 Tryz.prog 213 [sA s,.i column,.i level] (.i (I1 s column level)):=by
 have oB:=Cb s column
 refine C1 Tryz.func213 35 fun nd E h0=>?_
 clear nd
 repeat'((first|refine A1 oB ?_ |refine S2 ?_|(refine T6 ?_ ?_<;>intro h<;>try exact V1 h)|intro el nX nY|intro el nX|exact T4|refine T5 ?_ ?_|intro ex)<;>try conv=>whnf)
 all_goals first
  |(refine A0 rfl (congrArg AV.i ?_);rw[I1,if_pos (by omega)];done)
  |skip
 obtain⟨hr,h1,h2,h4⟩:=EX (s:=s) (column:=column) (level:=level) (by omega) (by omega)
 rw[I1,if_neg (by omega)]
 have oQ:=fun (lv:Int) (h:0≤lv∧lv≤level)=>VS s column lv hr h1 h2 h.1 (by omega)
 obtain⟨n,rfl⟩:=Int.eq_ofNat_of_zero_le (show 0≤level by omega)
 rw[Int.toNat_natCast]
 generalize B4 s column=c at oQ ⊢
 have h61:=Oj hr column
 have hn61:n≤61:=by omega
 clear oB h4 h61
 refine B2 (ι:=Nat) (fun k=>⟨[(1,.i column),(2,.i k),(3,.ref 0 0)],1,[(0,some (.box (sL s)))]⟩) (fun k=>k≤n∧Q6 s c n=Q6 s c k) (fun k=>k) n ⟨Nat.le_refl _,rfl⟩ (A6 h0) (fun k hI=>?_)
 obtain⟨hk,hI⟩:=hI
 have pG:=fun (h:0<(k:Int))=>oQ ((k:Int)-1) (by omega)
 have oD:=oQ k (by omega)
 clear oQ
 repeat'((first|refine A1 (pG (by assumption)) ?_|refine A1 oD ?_|(refine B5 ?_ ?_;kernel_rfl) |refine S2 ?_|(refine T6 ?_ ?_<;>intro h<;>try exact V1 h)|intro el nX nY|intro el nX|exact T4|refine T5 ?_ ?_|intro ex)<;>try conv=>whnf)
 all_goals first
  |exact⟨k-1,⟨by omega,by rw[hI,au (by assumption) (by assumption)]⟩,by omega,B3 h0 rfl ⟨rfl,congrArg (fun z:Int=>some (AV.i z)) (by omega),rfl,trivial⟩ ⟨rfl,trivial⟩ rfl rfl rfl⟩
  |exact A0 rfl (congrArg (fun z:Nat=>AV.i (z:Int)) (by rw[hI,aw (by assumption) (by assumption)]))
  |(obtain rfl:k=0:=by omega
    exact A0 rfl (congrArg (fun z:Nat=>AV.i (z:Int)) (by rw[hI];rfl)))
def P8(s:A4)(c:D6)(level v:Int):Int:=if c.kind=2 then (if Ai s c v=true then N3 (B9 s c).1 (B9 s c).2 v level else -1)else if v≠(-1099511627776)∧(v < -1000000∨1000000<v)then -1 else if level=0 then 0 else if v=(-1099511627776)then (-1099511627776)else C9 v (A9 c level)
def F9(s:A4)(column level v:Int):Int:=if level<0∨A8 s column<level then -1 else P8 s (B4 s column) level v
abbrev TB(x:Int×Bool):AV:=.tup [.i x.1,.b x.2]
abbrev eH(x:Int×Int×Bool):AV:=.tup [.i x.1,.i x.2.1,.b x.2.2]
def M1(c:D6)(level v:Int):Int×Int×Bool :=
 if level=0 then (c.low,c.high,decide (v=0))else if v < -2000000∨1000000<v then (0,0,false)else (max v c.low,min (v+A9 c level-1) c.high,decide (C9 v (A9 c level)=v) && decide (max v c.low≤min (v+A9 c level-1) c.high))
theorem QF(c:D6)(level v:Int)(hc:meaE c=0)(h1:0≤level)(h2:level≤c.widths.length):A3 Tryz.prog 198 [T7 c,.i level,.i v] (eH (M1 c level v)):=by
 have hp:=W5 hc
 have qJ:¬level=0→1≤A9 c level∧A9 c level≤1000000:=fun h=>c9 hp.2.2.2.2.2 (by omega) h2
 have sF:¬level=0→A3 Tryz.prog 215 [T7 c,.i level] (.i (A9 c level)):=fun h=>HY c level (by omega) h2
 have qb:¬level=0→¬v < -2000000→¬1000000<v→A3 Tryz.prog 216 [.i v,.i (A9 c level)] (.i (C9 v (A9 c level))):=fun h h5 h6=>Dn _ _ (qJ h).1 (qJ h).2 (by omega) (by omega)
 unfold M1
 generalize A9 c level=w at *
 refine C1 Tryz.func198 54 fun nd E h0=>?_
 clear nd
 repeat'((first|refine A1 (sF (by assumption)) ?_|refine A1 (qb (by assumption) (by assumption) (by assumption)) ?_|(refine J0 ?_ ?_;(have:=qJ (by assumption);omega))|(refine B5 ?_ ?_;kernel_rfl) |refine S2 ?_|(refine T6 ?_ ?_<;>intro h<;>try exact V1 h)|intro el nX nY|intro el nX|exact T4|refine T5 ?_ ?_|intro ex)<;>try conv=>whnf)
 all_goals first
  |(refine Ez (a:=.i _) (b:=.i _) (c:=.b _) rfl rfl rfl ?_;rw[if_pos (by assumption)];done)
  |(refine Ez (a:=.i _) (b:=.i _) (c:=.b _) rfl rfl rfl ?_;rw[if_neg (by assumption),if_pos (by omega)];done)
  |(refine Ez (a:=.i _) (b:=.i _) (c:=.b _) rfl rfl rfl ?_;rw[if_neg (by assumption),if_neg (by omega)]
    simp only[*,decide_true,decide_false,Bool.true_and,Bool.false_and,Bool.and_true];done)
  |(refine Ez (a:=.i _) (b:=.i _) (c:=.b _) rfl rfl rfl ?_;rw[if_neg (by assumption),if_neg (by omega)];trace_state)
def BP(c:D6)(fr v to:Int):Int×Bool :=
 if 0<fr∧v=(-1099511627776)then (if to=0 then (0,c.opt)else (v,c.opt))else
  if (M1 c fr v).2.2=false then (0,false)else if to=0 then (0,true)else if fr=0∧c.opt=true then (0,false)else
   (C9 (M1 c fr v).1 (A9 c to),decide (C9 (M1 c fr v).1 (A9 c to)=C9 (M1 c fr v).2.1 (A9 c to)))
theorem TC{c:D6}{level v:Int}(hc:meaE c=0)(h1:0≤level)(h2:level≤c.widths.length):-4000000≤(M1 c level v).1∧(M1 c level v).1≤4000000∧-4000000≤(M1 c level v).2.1∧(M1 c level v).2.1≤4000000:=by
 have hp:=W5 hc
 have qJ:¬level=0→1≤A9 c level∧A9 c level≤1000000:=fun h=>c9 hp.2.2.2.2.2 (by omega) h2
 unfold M1
 split
 ·simp only;omega
 ·split
  ·simp only;omega
  ·have:=qJ (by assumption)
   simp only
   omega
theorem YJ(c:D6)(fr v to:Int)(hc:meaE c=0)(h1:0≤fr)(h2:fr≤c.widths.length)(h3:0≤to)(h4:to≤c.widths.length):A3 Tryz.prog 167 [T7 c,.i fr,.i v,.i to] (TB (BP c fr v to)):=by
 have hp:=W5 hc
 have uU:=QF c fr v hc h1 h2
 have hsb:=TC (v:=v) hc h1 h2
 have qJ:¬to=0→1≤A9 c to∧A9 c to≤1000000:=fun h=>c9 hp.2.2.2.2.2 (by omega) h4
 have sF:¬to=0→A3 Tryz.prog 215 [T7 c,.i to] (.i (A9 c to)):=fun h=>HY c to (by omega) h4
 have uh:¬to=0→A3 Tryz.prog 216 [.i (M1 c fr v).1,.i (A9 c to)] (.i (C9 (M1 c fr v).1 (A9 c to))):=fun h=>Dn _ _ (qJ h).1 (qJ h).2 (by omega) (by omega)
 have sU:¬to=0→A3 Tryz.prog 216 [.i (M1 c fr v).2.1,.i (A9 c to)] (.i (C9 (M1 c fr v).2.1 (A9 c to))):=fun h=>Dn _ _ (qJ h).1 (qJ h).2 (by omega) (by omega)
 unfold BP
 generalize A9 c to=w at *
 generalize M1 c fr v=sp at *
 obtain⟨lo,hi,ok⟩:=sp
 dsimp only at uh sU uU ⊢
 refine C1 Tryz.func167 61 fun nd E h0=>?_
 clear nd
 repeat'((first|refine A1 uU ?_|refine A1 (sF (by assumption)) ?_|refine A1 (uh (by assumption)) ?_|refine A1 (sU (by assumption)) ?_|(refine B5 ?_ ?_;kernel_rfl) |refine S2 ?_|(refine T6 ?_ ?_<;>intro h<;>try exact V1 h)|intro el nX nY|intro el nX|exact T4|refine T5 ?_ ?_|intro ex)<;>try conv=>whnf)
 all_goals first
  |(refine V2 (a:=.i _) (b:=.b _) rfl rfl ?_;clear uh sU uU sF qJ h0 E;first
     |(rw[if_pos (by omega),if_pos (by assumption)];done)
     |(rw[if_pos (by omega),if_neg (by assumption)];done)
     |(rw[if_neg (by omega),if_pos (by assumption)];done)
     |(have ho:ok=true:=by assumption
       subst ho
       rw[if_neg (by omega),if_neg (by decide)]
       first
        |(rw[if_pos (by assumption)];done)
        |(rw[if_neg (by assumption),if_pos ⟨by assumption,by assumption⟩];done)
        |(rw[if_neg (by assumption),if_neg (fun hx=>by first|exact absurd hx.1 (by assumption)|(have h9:=hx.2;simp[*]at h9))];done))
     |trace_state)
def Cc(nm:List UInt8)(cs:List Code)(fr v to:Int):List Nat→Int→Bool→Int×Bool
 |[],out,sm=>(out,sm)
 |leaf::r,out,sm=>if N3 nm cs leaf fr=v then (if sm=true∧N3 nm cs leaf to≠out then (0,false)else Cc nm cs fr v to r (N3 nm cs leaf to) true)else Cc nm cs fr v to r out sm
def EY(nm:List UInt8)(cs:List Code)(fr v to:Int):Int×Bool:=Cc nm cs fr v to (I5 nm cs (C4 nm cs-1)) 0 false
theorem Aj(nm:List UInt8)(cs:List Code)(level:Int):(I5 nm cs level).length≤cs.length:=by
 unfold I5
 split
 ·exact JJ _ _ _
 ·simp
theorem YK(nm:List UInt8)(cs:List Code)(fr v to:Int):A3 Tryz.prog 166 [lA nm cs,.i fr,.i v,.i to] (TB (EY nm cs fr v to)):=by
 refine C1 Tryz.func166 45 fun nd E h0=>?_
 have nZ:cs.length≤9223372036854775807:=by
  have:=((nd (lA nm cs) (by simp)).agg (.sl 2 (cs.map cA)) (by simp)).sl
  simpa using this
 clear nd
 have uO:=m5 (nm:=nm) nZ
 have oU:=Aj nm cs (C4 nm cs-1)
 unfold EY
 have qR:=Dd nm cs nZ
 have qo:=Ge nm cs (C4 nm cs-1) nZ
 generalize hL:I5 nm cs (C4 nm cs-1)=L at qo oU ⊢
 repeat'((first|refine A1 qR ?_|refine A1 qo ?_|(refine B5 ?_ ?_;kernel_rfl) |refine S2 ?_|(refine T6 ?_ ?_<;>intro h<;>try exact V1 h)|intro el nX nY|intro el nX|exact T4|refine T5 ?_ ?_|intro ex)<;>try conv=>whnf)
 have rm:=fun (leaf:Nat) (lv:Int)=>KI nm cs leaf lv nZ
 refine B2 (ι:=Nat×Int×Bool) (fun x=>⟨[(1,.i fr),(2,.i v),(3,.i to),(4,.ref 0 0),(10,.i x.2.1),(11,.b x.2.2),(19,.sl 1 (L.map iA)),(20,.i L.length),(21,.i x.1)],1,[(0,some (.box [.str nm,.sl 2 (cs.map cA)]))]⟩) (fun x=>x.1≤L.length∧Cc nm cs fr v to L 0 false=Cc nm cs fr v to (L.drop x.1) x.2.1 x.2.2) (fun x=>L.length-x.1) (0,0,false) ⟨Nat.zero_le _,rfl⟩ (A6 h0) (fun x hI=>?_)
 obtain⟨k,out,sm⟩:=x
 obtain⟨hk,hI⟩:=hI
 dsimp only at hk hI ⊢
 repeat'((first|refine A1 (rm _ _) ?_ |refine S2 ?_|(refine T6 ?_ ?_<;>intro h<;>try exact V1 h)|intro el nX nY|intro el nX|exact T4|refine T5 ?_ ?_|intro ex)<;>try conv=>whnf)
 all_goals first
  |exact⟨(k+1,out,sm),⟨by dsimp only;omega,by rw[hI,H1 nX,Cc,if_neg (by assumption)]⟩,by dsimp only;omega,A6 h0⟩
  |exact⟨(k+1,N3 nm cs el to,true),⟨by dsimp only;omega,by rw[hI,H1 nX,Cc,if_pos (Classical.byContradiction (by assumption)),if_neg (fun hx=>by first|exact absurd hx.2 (by assumption)|(have h9:=hx.1;simp[*]at h9))]⟩,by dsimp only;omega,A6 h0⟩
  |exact V2 (a:=.i _) (b:=.b _) rfl rfl (by rw[hI,H1 nX,Cc,if_pos (Classical.byContradiction (by assumption)),if_pos ⟨by assumption,by assumption⟩])
  |exact V2 (a:=.i _) (b:=.b _) rfl rfl (by rw[hI,Z0 (by assumption)];rfl)
def d7(s:A4)(column fr v to:Int):Int×Bool :=
 if fr<0∨F2 s column<fr∨to<0∨F2 s column<to then (0,false)else
  if (if (B4 s column).kind=2 then EY (B9 s (B4 s column)).1 (B9 s (B4 s column)).2 fr v to else BP (B4 s column) fr v to).2=true then ((if (B4 s column).kind=2 then EY (B9 s (B4 s column)).1 (B9 s (B4 s column)).2 fr v to else BP (B4 s column) fr v to).1,true)else (0,false)
theorem LB(s:A4)(column fr v to:Int)(hr:C5 s=0):A3 Tryz.prog 112 [sA s,.i column,.i fr,.i v,.i to] (TB (d7 s column fr v to)):=by
 have oB:=GI s column hr
 refine C1 Tryz.func112 67 fun nd E h0=>?_
 clear nd
 repeat'((first|refine A1 oB ?_ |refine S2 ?_|(refine T6 ?_ ?_<;>intro h<;>try exact V1 h)|intro el nX nY|intro el nX|exact T4|refine T5 ?_ ?_|intro ex)<;>try conv=>whnf)
 all_goals first
  |(refine V2 (a:=.i _) (b:=.b _) rfl rfl ?_;rw[d7,if_pos (by omega)];done)
  |skip
 have hb:1≤column∧column<s.cols.length:=by
  have:0≤F2 s column:=by omega
  unfold F2 at this
  split at this<;>omega
 obtain⟨c,hc⟩:∃c,s.cols[column.toNat]?=some c:=⟨_,List.getElem?_eq_getElem (by omega)⟩
 have nt:=C0 hc
 have pQ:=AQ hr hb.1 hc
 have ya:F2 s column=N0 s c:=by rw[F2,if_neg (by omega),nt]
 rw[d7,if_neg (by omega),nt]
 have hm:¬c.kind=2→A3 Tryz.prog 167 [T7 c,.i fr,.i v,.i to] (TB (BP c fr v to)):=by
  intro h5
  have h9:N0 s c=c.widths.length:=by unfold N0;rw[if_neg h5]
  have hk:=(v4 ((E9 hr).2.2.2.1 _ c hc)).2.2.1
  exact YJ c fr v to (CA hk (by omega)) (by omega) (by omega) (by omega) (by omega)
 have pF:c.kind=2→c.lst<s.lists.length∧0≤c.lst:=by omega
 clear oB ya pQ nt
 have qr:=fun l:CL=>YK l.1 l.2 fr v to
 generalize BP c fr v to=xm at hm ⊢
 repeat'((first|(refine A2 (x:=c) hc (by omega) ?_)|refine A1 (hm (by assumption)) ?_|refine A1 (qr _) ?_|(refine m9 ?_ ?_ (fun el nX=>?_);(have:=pF (by assumption);omega);(have:=pF (by assumption);omega)) |refine S2 ?_|(refine T6 ?_ ?_<;>intro h<;>try exact V1 h)|intro el nX nY|intro el nX|exact T4|refine T5 ?_ ?_|intro ex)<;>try conv=>whnf)
 all_goals first
  |(refine V2 (a:=.i _) (b:=.b _) rfl rfl ?_
    rw[if_pos (by assumption:c.kind=2),I3 nX]
    first
     |(rw[if_pos h];done)
     |(rw[if_neg (by rw[h];exact Bool.false_ne_true)];done))
  |(refine V2 (a:=.i _) (b:=.b _) rfl rfl ?_
    rw[if_neg (by assumption:¬c.kind=2)]
    first
     |(rw[if_pos h];done)
     |(rw[if_neg (by rw[h];exact Bool.false_ne_true)];done))
def YL(s:A4)(column fr v to:Int):Int×Bool:=if C5 s=0 then d7 s column fr v to else (0,false)
structure Pk where
 col:Int
 lev:Int
deriving DecidableEq
abbrev B6(p:Pk):List AV:=[.i p.col,.i p.lev]
abbrev QG(p:Pk):AV:=.agg (B6 p)
def j3(s:A4)(p:Pk):Int:=if F2 s p.col<0 then 7 else if p.lev<0∨F2 s p.col<p.lev then 8 else 0
theorem QH(s:A4)(p:Pk)(hr:C5 s=0):A3 Tryz.prog 157 [sA s,QG p] (.i (j3 s p)):=by
 have oB:=GI s p.col hr
 refine C1 Tryz.func157 23 fun nd E h0=>?_
 clear nd
 repeat'((first|refine A1 oB ?_ |refine S2 ?_|(refine T6 ?_ ?_<;>intro h<;>try exact V1 h)|intro el nX nY|intro el nX|exact T4|refine T5 ?_ ?_|intro ex)<;>try conv=>whnf)
 all_goals first
  |(refine A0 rfl (congrArg AV.i ?_);rw[j3,if_pos (by assumption)];done)
  |(refine A0 rfl (congrArg AV.i ?_);rw[j3,if_neg (by assumption),if_pos (by omega)];done)
  |(refine A0 rfl (congrArg AV.i ?_);rw[j3,if_neg (by assumption),if_neg (by omega)];done)
def I4(s:A4)(p:Pk):Int:=if C5 s=0 then j3 s p else C5 s
theorem NY(s:A4)(p:Pk):A3 Tryz.prog 200 [sA s,QG p] (.i (I4 s p)):=by
 have qh:=fun hr=>QH s p hr
 refine C1 Tryz.func200 14 fun nd E h0=>?_
 clear nd
 repeat'((first|refine A1 (c8 s) ?_|refine A1 (qh (Classical.byContradiction (by assumption))) ?_ |refine S2 ?_|(refine T6 ?_ ?_<;>intro h<;>try exact V1 h)|intro el nX nY|intro el nX|exact T4|refine T5 ?_ ?_|intro ex)<;>try conv=>whnf)
 all_goals first
  |(refine A0 rfl (congrArg AV.i ?_);rw[I4,if_neg (by assumption)];done)
  |(refine A0 rfl (congrArg AV.i ?_);rw[I4,if_pos (Classical.byContradiction (by assumption))];done)
def Cd(s:A4)(l:List Pk)(k:Nat)(p:Pk):Int:=if j3 s p=0 then (if 0<k∧p.col≤(l.getD (k-1) ⟨0,0⟩).col then 10 else 0)else j3 s p
theorem Ra{s:A4}{l:List Pk}{k:Nat}{p:Pk}(h:¬j3 s p=0):Cd s l k p=j3 s p:=by rw[Cd,if_neg h]
theorem TD{l:List Pk}{k:Nat}{q:Pk}(h:0<(k:Int))(hq:l[((k:Int)-1).toNat]?=some q):l.getD (k-1) ⟨0,0⟩=q:=D2 (by rw[←hq];congr 1;omega)
theorem WV{s:A4}{l:List Pk}{k:Nat}{p q:Pk}(h:¬j3 s p≠0)(h0:0<(k:Int))(hq:l[((k:Int)-1).toNat]?=some q)(ob:p.col≤q.col):Cd s l k p=10:=by
 rw[Cd,if_pos (Classical.byContradiction h),TD h0 hq,if_pos ⟨by omega,ob⟩]
theorem az{s:A4}{l:List Pk}{k:Nat}{p q:Pk}(h:¬j3 s p≠0)(h0:0<(k:Int))(hq:l[((k:Int)-1).toNat]?=some q)(ob:¬p.col≤q.col):Cd s l k p=0:=by
 rw[Cd,if_pos (Classical.byContradiction h),TD h0 hq,if_neg (fun hx=>ob hx.2)]
theorem gO{s:A4}{l:List Pk}{k:Nat}{p:Pk}(h:¬j3 s p≠0)(h0:¬0<(k:Int)):Cd s l k p=0:=by
 rw[Cd,if_pos (Classical.byContradiction h),if_neg (fun hx=>by omega)]
def J7(s:A4)(l:List Pk):Int:=if C5 s=0 then E4 (Cd s l) 0 l else C5 s
theorem YM(s:A4)(l:List Pk):A3 Tryz.prog 100 [sA s,.sl 2 (l.map B6)] (.i (J7 s l)):=by
 have qh:=fun p hr=>QH s p hr
 refine C1 Tryz.func100 41 fun nd E h0=>?_
 have nZ:l.length≤9223372036854775807:=by have:=(nd (.sl 2 (l.map B6)) (by simp)).sl;simpa using this
 clear nd
 repeat'((first|refine A1 (c8 s) ?_ |refine S2 ?_|(refine T6 ?_ ?_<;>intro h<;>try exact V1 h)|intro el nX nY|intro el nX|exact T4|refine T5 ?_ ?_|intro ex)<;>try conv=>whnf)
 all_goals first
  |(refine A0 rfl (congrArg AV.i ?_);rw[J7,if_neg (by assumption)];done)
  |skip
 have hr:C5 s=0:=Classical.byContradiction (by assumption)
 rw[J7,if_pos hr]
 refine B2 (ι:=Nat) (fun k=>⟨[(1,.sl 2 (l.map B6)),(2,.ref 0 0),(14,.sl 2 (l.map B6)),(15,.i l.length),(16,.i k)],1,[(0,some (.box (sL s)))]⟩) (fun k=>E8 (Cd s l) l k) (fun k=>l.length-k) 0 (E8.zero _ _) (A6 h0) (fun k hI=>?_)
 have hk:=hI.1
 repeat'((first|refine A1 (qh _ hr) ?_|(refine B5 ?_ ?_;kernel_rfl) |refine S2 ?_|(refine T6 ?_ ?_<;>intro h<;>try exact V1 h)|intro el nX nY|intro el nX|exact T4|refine T5 ?_ ?_|intro ex)<;>try conv=>whnf)
 all_goals first
  |exact A0 rfl (congrArg AV.i (by rw[←hI.hit nX (by rw[Ra h];exact h),Ra h]))
  |exact A0 rfl (congrArg AV.i (by have e:=WV (by assumption) (by assumption) nX h;rw[←hI.hit (by assumption) (by rw[e];decide),e]))
  |exact⟨k+1,hI.step (by assumption) (az (by assumption) (by assumption) nX h),by omega,A6 h0⟩
  |exact⟨k+1,hI.step nX (gO (by assumption) (by assumption)),by omega,A6 h0⟩
  |exact A0 rfl (congrArg AV.i (hI.done (by assumption)).symm)
inductive B0 where
 |mk (op col code lo hi:Int) (kids:List B0)
def B0.op:B0→Int|.mk o _ _ _ _ _=>o
def B0.col:B0→Int|.mk _ c _ _ _ _=>c
def B0.code:B0→Int|.mk _ _ k _ _ _=>k
def B0.lo:B0→Int|.mk _ _ _ l _ _=>l
def B0.hi:B0→Int|.mk _ _ _ _ h _=>h
def B0.kids:B0→List B0|.mk _ _ _ _ _ ks=>ks
mutual
def Z8:B0→List AV
 |.mk o c k l h ks=>[.i o,.i c,.i k,.i l,.i h,.sl 6 (Rb ks)]
def Rb:List B0→List (List AV)
 |[]=>[]
 |x::r=>Z8 x::Rb r
end
theorem TE:∀ks,Rb ks=ks.map Z8
 |[]=>rfl
 |x::r=>by rw[Rb,TE r];rfl
def J2(c:B0):List AV:=[.i c.op,.i c.col,.i c.code,.i c.lo,.i c.hi,.sl 6 (c.kids.map Z8)]
theorem Gf(c:B0):Z8 c=J2 c:=by
 cases c
 rw[Z8,TE];rfl
theorem Ok(ks:List B0):ks.map Z8=ks.map J2:=List.map_congr_left fun c _=>Gf c
abbrev E0(c:B0):AV:=.agg (J2 c)
abbrev P1(c:B0):List AV:=[.i c.op,.i c.col,.i c.code,.i c.lo,.i c.hi,.sl 6 (c.kids.map J2)]
theorem G0(c:B0):E0 c=.agg (P1 c):=by
 show AV.agg [.i c.op,.i c.col,.i c.code,.i c.lo,.i c.hi,.sl 6 (c.kids.map Z8)]=_
 rw[Ok]
theorem YN{c k:B0}(h:k∈c.kids):SizeOf.sizeOf k<SizeOf.sizeOf c:=by
 cases c with
 |mk o c k l h' ks =>
  have:=List.sizeOf_lt_of_mem (show _∈ks from h)
  simp only[B0.mk.sizeOf_spec]
  omega
theorem O7{p:B0→Prop}(h:∀c,(∀k∈c.kids,p k)→p c)(c:B0):p c :=
 h c fun k _=>O7 h k
termination_by SizeOf.sizeOf c
decreasing_by exact YN (by assumption)
mutual
def y8:B0→Int→Int
 |.mk _ _ _ _ _ ks,most=>y9 ks most 1
def y9:List B0→Int→Int→Int
 |[],_,n=>n
 |x::r,most,n=>if most<n then n else y9 r most (n+y8 x (most-n))
end
theorem Ol(c:B0)(m:Int):y8 c m=y9 c.kids m 1:=by cases c;rfl
theorem KN(c:B0):∀m:Int,1≤y8 c m∧y8 c m≤max 1 (m+1):=by
 refine O7 (p:=fun c=>∀m:Int,1≤y8 c m∧y8 c m≤max 1 (m+1)) (fun c ih m=>?_) c
 have key:∀(l:List B0),(∀k∈l,k∈c.kids)→∀n:Int,1≤n→n≤max 1 (m+1)→1≤y9 l m n∧y9 l m n≤max 1 (m+1):=by
  intro l
  induction l with
  |nil=>intro _ n h1 h2;exact⟨h1,h2⟩
  |cons x r sj =>
   intro hl n h1 h2
   unfold y9
   split
   ·exact⟨h1,h2⟩
   ·have:=ih x (hl x (by simp)) (m-n)
    exact sj (fun k hk=>hl k (by simp[hk])) _ (by omega) (by omega)
 rw[Ol]
 exact key c.kids (fun k hk=>hk) 1 (by omega) (by omega)
mutual
def P9:B0→Nat
 |.mk _ _ _ _ _ ks=>V4 ks 0+1
def V4:List B0→Nat→Nat
 |[],n=>n
 |x::r,n=>V4 r (max n (P9 x))
end
theorem Gg(c:B0):P9 c=V4 c.kids 0+1:=by cases c;rfl
theorem Om:∀(l:List B0) (n:Nat),n≤V4 l n∧∀k∈l,P9 k≤V4 l n
 |[],n=>⟨Nat.le_refl _,fun k hk=>by cases hk⟩
 |x::r,n=>by
  obtain⟨h1,h2⟩:=Om r (max n (P9 x))
  unfold V4
  refine⟨by omega,fun k hk=>?_⟩
  rcases List.mem_cons.1 hk with rfl|hk
  ·omega
  ·exact h2 k hk
theorem VT(c:B0):∀(m:Int),-100000≤m→m≤100000→A3 Tryz.prog 177 [E0 c,.i m] (.i (y8 c m)):=by
 refine O7 (p:=fun c=>∀(m:Int),-100000≤m→m≤100000→A3 Tryz.prog 177 [E0 c,.i m] (.i (y8 c m))) (fun c ih m hm1 qj=>?_) c
 rw[G0,Ol]
 refine C1 Tryz.func177 27 fun nd E h0=>?_
 have nZ:c.kids.length≤9223372036854775807:=by
  have:=((nd _ (List.mem_cons_self ..)).agg (.sl 6 (c.kids.map J2)) (by simp)).sl
  simpa using this
 clear nd
 repeat'((first|refine S2 ?_|(refine T6 ?_ ?_<;>intro h<;>try exact V1 h)|intro el nX nY|intro el nX|exact T4|refine T5 ?_ ?_|intro ex)<;>try conv=>whnf)
 refine B2 (ι:=Nat×Int) (fun x=>⟨[(1,.i m),(5,.i x.2),(9,.sl 6 (c.kids.map J2)),(10,.i c.kids.length),(11,.i x.1)],1,[(0,some (.box (P1 c)))]⟩) (fun x=>x.1≤c.kids.length∧(1≤x.2∧x.2≤max 1 (m+1))∧y9 c.kids m 1=y9 (c.kids.drop x.1) m x.2) (fun x=>c.kids.length-x.1) (0,1) ⟨Nat.zero_le _,by dsimp only;omega,rfl⟩
  (A6 h0) (fun x hI=>?_)
 obtain⟨k,n⟩:=x
 obtain⟨hk,hn,hI⟩:=hI
 dsimp only at hk hn hI ⊢
 repeat'((first|(refine A1 (ih _ (List.mem_of_getElem? (by assumption)) _ (by omega) (by omega)) ?_)|(refine J0 ?_ ?_;(have:=KN el (m-n);omega)) |refine S2 ?_|(refine T6 ?_ ?_<;>intro h<;>try exact V1 h)|intro el nX nY|intro el nX|exact T4|refine T5 ?_ ?_|intro ex)<;>try conv=>whnf)
 all_goals first
  |exact A0 rfl (congrArg AV.i (by rw[hI,H1 nX,y9,if_pos (by assumption)]))
  |exact A0 rfl (congrArg AV.i (by rw[hI,Z0 (by assumption)];rfl))
  |exact⟨(k+1,n+y8 el (m-n)),⟨by dsimp only;omega,(by have:=KN el (m-n);dsimp only;omega),by rw[hI,H1 nX,y9,if_neg (by assumption)]⟩,by dsimp only;omega,A6 h0⟩
theorem YO(c:B0):P9 c≤100000→A3 Tryz.prog 178 [E0 c] (.i (P9 c)):=by
 refine O7 (p:=fun c=>P9 c≤100000→A3 Tryz.prog 178 [E0 c] (.i (P9 c))) (fun c ih hd=>?_) c
 rw[G0,Gg]at *
 have qL:=Om c.kids 0
 refine C1 Tryz.func178 20 fun nd E h0=>?_
 have nZ:c.kids.length≤9223372036854775807:=by
  have:=((nd _ (List.mem_cons_self ..)).agg (.sl 6 (c.kids.map J2)) (by simp)).sl
  simpa using this
 clear nd
 repeat'((first|refine S2 ?_|(refine T6 ?_ ?_<;>intro h<;>try exact V1 h)|intro el nX nY|intro el nX|exact T4|refine T5 ?_ ?_|intro ex)<;>try conv=>whnf)
 refine B2 (ι:=Nat×Nat) (fun x=>⟨[(3,.i x.2),(7,.sl 6 (c.kids.map J2)),(8,.i c.kids.length),(9,.i x.1)],1,[(0,some (.box (P1 c)))]⟩) (fun x=>x.1≤c.kids.length∧x.2≤V4 c.kids 0∧V4 c.kids 0=V4 (c.kids.drop x.1) x.2) (fun x=>c.kids.length-x.1) (0,0) ⟨Nat.zero_le _,Nat.zero_le _,rfl⟩
  (A6 h0) (fun x hI=>?_)
 obtain⟨k,n⟩:=x
 obtain⟨hk,hn,hI⟩:=hI
 dsimp only at hk hn hI ⊢
 have yK:∀el,c.kids[k]?=some el→P9 el≤V4 c.kids 0:=fun el nX=>qL.2 el (List.mem_of_getElem? nX)
 repeat'((first|(refine A1 (ih _ (List.mem_of_getElem? (by assumption)) (by have:=yK el nX;omega)) ?_) |refine S2 ?_|(refine T6 ?_ ?_<;>intro h<;>try exact V1 h)|intro el nX nY|intro el nX|exact T4|refine T5 ?_ ?_|intro ex)<;>try conv=>whnf)
 all_goals first
  |exact A0 rfl (congrArg AV.i (by rw[hI,Z0 (by assumption)];unfold V4;omega))
  |exact⟨(k+1,max n (P9 el)),⟨by dsimp only;omega,(by have:=yK el nX;dsimp only;omega),by rw[hI,H1 nX,V4]⟩,by dsimp only;omega,B3 h0 rfl ⟨congrArg (fun z:Int=>some (AV.i z)) (by dsimp only;omega),rfl,rfl,rfl,trivial⟩ ⟨rfl,trivial⟩ rfl rfl rfl⟩
def T8(op:Int):Int:=if op=5∨op=6 then 2 else if op=7 then 1 else 0
theorem YP(op:Int):A3 Tryz.prog 239 [.i op] (.i (T8 op)):=by
 refine C1 Tryz.func239 9 fun nd E h0=>?_
 clear nd
 repeat'((first|refine S2 ?_|(refine T6 ?_ ?_<;>intro h<;>try exact V1 h)|intro el nX nY|intro el nX|exact T4|refine T5 ?_ ?_|intro ex)<;>try conv=>whnf)
 all_goals first
  |exact A0 rfl (congrArg AV.i (by unfold T8;rw[if_pos (by omega)]))
  |exact A0 rfl (congrArg AV.i (by unfold T8;rw[if_neg (by omega),if_pos (by omega)]))
  |exact A0 rfl (congrArg AV.i (by unfold T8;rw[if_neg (by omega),if_neg (by omega)]))
abbrev YQ(c:B0):Bool:=decide (¬(c.op≠2∧c.op≠3∧c.op≠4∧c.col≠0)∧¬(c.op≠2∧c.code≠0)∧(c.op=3∨c.lo=0∧c.hi=0))
theorem TF(c:B0):A3 Tryz.prog 240 [E0 c] (.b (YQ c)):=by
 rw[G0]
 refine C1 Tryz.func240 46 fun nd E h0=>?_
 clear nd
 repeat'((first|refine S2 ?_|(refine T6 ?_ ?_<;>intro h<;>try exact V1 h)|intro el nX nY|intro el nX|exact T4|refine T5 ?_ ?_|intro ex)<;>try conv=>whnf)
 all_goals first
  |exact A0 rfl (congrArg AV.b (by unfold YQ;rw[decide_eq_true (by omega)]))
  |exact A0 rfl (congrArg AV.b (by unfold YQ;rw[decide_eq_false (by omega)]))
  |exact A0 rfl (congrArg AV.b (by unfold YQ;rw[decide_eq_decide];omega))
end Go.Proofs.YtiphlhoclaogjaaGreatDoor

/- Chapter 2: the least level, coarse values. Chapter 2: values turned to another level, picks. -/
import Derived.Test.YtiphlhoclaogjaaGreatDoorRB7
set_option linter.unusedVariables false
set_option linter.unnecessarySimpa false
set_option linter.unusedSimpArgs false
set_option maxHeartbeats 64000000
namespace Go.Proofs.YtiphlhoclaogjaaGreatDoor
open Go Go.Av
attribute [local irreducible] C9 B3 C7 D1 DQ D0 C6 St.le A3 B7
set_option maxRecDepth 100000
def b9(s:A4)(c:D4):Nat→Nat
 |0=>0
 |k+1=>if K4 s c k=K4 s c (k+1:Nat)then b9 s c k else k+1
def H8(s:A4)(column level:Int):Int:=if level<0∨B4 s column<level then -1 else b9 s (B8 s column) level.toNat
theorem BE{s:A4}{column level:Int}(h0:0≤level)(h:level≤B4 s column):C3 s=0∧1≤column∧column<s.cols.length∧level≤E5 s column:=by
 unfold B4 at h
 by_cases hr:C3 s=0
 ·rw[if_pos hr]at h
  refine⟨hr,?_,?_,h⟩ <;>
  ·unfold E5 at h
   split at h<;>omega
 ·rw[if_neg hr]at h;omega
theorem OY{s:A4}(h:C3 s=0)(column:Int):E5 s column≤61:=by
 unfold E5
 split
 ·omega
 ·have hc:s.cols[column.toNat]?=some s.cols[column.toNat]:=List.getElem?_eq_getElem (by omega)
  have nr:=n9 h (by omega) hc
  rw[C1 hc]
  generalize s.cols[column.toNat]=c at nr
  unfold M0
  rcases nr with nr|nr
  ·rw[if_pos nr.1]
   have hl:s.lists[c.lst.toNat]?=some (s.lists[c.lst.toNat]'(by omega)):=List.getElem?_eq_getElem (by omega)
   have hk:=(D3 h).2.2.1 _ (List.mem_of_getElem? hl)
   rw[H6 hl]
   have h1:=(G9 hk).2.2
   have:=n8 (nm:=(s.lists[c.lst.toNat]'(by omega)).1) (cs:=(s.lists[c.lst.toNat]'(by omega)).2) (by omega)
   omega
  ·rw[if_neg (by omega)];omega
theorem Zw{s:A4}{c:D4}{k:Nat}(h:0<(k:Int))(he:K4 s c ((k:Int)-1)=K4 s c k):b9 s c k=b9 s c (k-1):=by
 obtain⟨k,rfl⟩:∃j,k=j+1:=⟨k-1,by omega⟩
 have e:((k+1:Nat):Int)-1=(k:Nat):=by omega
 rw[e]at he
 rw[b9,if_pos he];rfl
theorem Zx{s:A4}{c:D4}{k:Nat}(h:0<(k:Int))(he:¬K4 s c ((k:Int)-1)=K4 s c k):b9 s c k=k:=by
 obtain⟨k,rfl⟩:∃j,k=j+1:=⟨k-1,by omega⟩
 have e:((k+1:Nat):Int)-1=(k:Nat):=by omega
 rw[e]at he
 rw[b9,if_neg he]
theorem NM(s:A4)(column level:Int):A3 Tryz.prog 213 [sA s,.i column,.i level] (.i (H8 s column level)):=by
 have md:=Ch s column
 refine B5 Tryz.func213 35 fun mK E h0=>?_
 clear mK
 repeat'((first|refine A0 md ?_ |refine S2 ?_|(refine T6 ?_ ?_<;>intro h<;>try exact V1 h)|intro el mI mJ|intro el mI|exact T4|refine T5 ?_ ?_|intro ex)<;>try conv=>whnf)
 all_goals first
  |(refine A1 rfl (congrArg AV.i ?_);rw[H8,if_pos (by omega)];done)
  |skip
 obtain⟨hr,h1,h2,h4⟩:=BE (s:=s) (column:=column) (level:=level) (by omega) (by omega)
 rw[H8,if_neg (by omega)]
 have nF:=fun (lv:Int) (h:0≤lv∧lv≤level)=>Us s column lv hr h1 h2 h.1 (by omega)
 obtain⟨n,rfl⟩:=Int.eq_ofNat_of_zero_le (show 0≤level by omega)
 rw[Int.toNat_natCast]
 generalize B8 s column=c at nF ⊢
 have xh:=OY hr column
 have hn61:n≤61:=by omega
 clear md h4 xh
 refine A9 (ι:=Nat) (fun k=>⟨[(1,.i column),(2,.i k),(3,.ref 0 0)],1,[(0,some (.box (sL s)))]⟩) (fun k=>k≤n∧b9 s c n=b9 s c k) (fun k=>k) n ⟨Nat.le_refl _,rfl⟩ (A6 h0) (fun k hI=>?_)
 obtain⟨hk,hI⟩:=hI
 have no:=fun (h:0<(k:Int))=>nF ((k:Int)-1) (by omega)
 have mj:=nF k (by omega)
 clear nF
 repeat'((first|refine A0 (no (by assumption)) ?_|refine A0 mj ?_|(refine B0 ?_ ?_;kernel_rfl) |refine S2 ?_|(refine T6 ?_ ?_<;>intro h<;>try exact V1 h)|intro el mI mJ|intro el mI|exact T4|refine T5 ?_ ?_|intro ex)<;>try conv=>whnf)
 all_goals first
  |exact⟨k-1,⟨by omega,by rw[hI,Zw (by assumption) (by assumption)]⟩,by omega,A7 h0 rfl ⟨rfl,congrArg (fun z:Int=>some (AV.i z)) (by omega),rfl,trivial⟩ ⟨rfl,trivial⟩ rfl rfl rfl⟩
  |exact A1 rfl (congrArg (fun z:Nat=>AV.i (z:Int)) (by rw[hI,Zx (by assumption) (by assumption)]))
  |(obtain rfl:k=0:=by omega
    exact A1 rfl (congrArg (fun z:Nat=>AV.i (z:Int)) (by rw[hI];rfl)))
def P8(s:A4)(c:D4)(level v:Int):Int:=if c.kind=2 then (if BD s c v=true then L1 (C2 s c).1 (C2 s c).2 v level else -1)else if v≠(-1099511627776)∧(v < -1000000∨1000000<v)then -1 else if level=0 then 0 else if v=(-1099511627776)then (-1099511627776)else C8 v (B1 c level)
def G2(s:A4)(column level v:Int):Int:=if level<0∨B4 s column<level then -1 else P8 s (B8 s column) level v
abbrev JA(x:Int×Bool):AV:=.tup [.i x.1,.b x.2]
abbrev XV(x:Int×Int×Bool):AV:=.tup [.i x.1,.i x.2.1,.b x.2.2]
def M1(c:D4)(level v:Int):Int×Int×Bool :=
 if level=0 then (c.low,c.high,decide (v=0))else if v < -2000000∨1000000<v then (0,0,false)else (max v c.low,min (v+B1 c level-1) c.high,decide (C8 v (B1 c level)=v) && decide (max v c.low≤min (v+B1 c level-1) c.high))
theorem Pu(c:D4)(level v:Int)(hc:meaE c=0)(h1:0≤level)(h2:level≤c.widths.length):A3 Tryz.prog 198 [T3 c,.i level,.i v] (XV (M1 c level v)):=by
 have hp:=T7 hc
 have pI:¬level=0→1≤B1 c level∧B1 c level≤1000000:=fun h=>f6 hp.2.2.2.2.2 (by omega) h2
 have rD:¬level=0→A3 Tryz.prog 215 [T3 c,.i level] (.i (B1 c level)):=fun h=>HW c level (by omega) h2
 have qR:¬level=0→¬v < -2000000→¬1000000<v→A3 Tryz.prog 216 [.i v,.i (B1 c level)] (.i (C8 v (B1 c level))):=fun h h5 h6=>Dr _ _ (pI h).1 (pI h).2 (by omega) (by omega)
 unfold M1
 generalize B1 c level=w at *
 refine B5 Tryz.func198 54 fun mK E h0=>?_
 clear mK
 repeat'((first|refine A0 (rD (by assumption)) ?_|refine A0 (qR (by assumption) (by assumption) (by assumption)) ?_|(refine I6 ?_ ?_;(have:=pI (by assumption);omega))|(refine B0 ?_ ?_;kernel_rfl) |refine S2 ?_|(refine T6 ?_ ?_<;>intro h<;>try exact V1 h)|intro el mI mJ|intro el mI|exact T4|refine T5 ?_ ?_|intro ex)<;>try conv=>whnf)
 all_goals first
  |(refine Ev (a:=.i _) (b:=.i _) (c:=.b _) rfl rfl rfl ?_;rw[if_pos (by assumption)];done)
  |(refine Ev (a:=.i _) (b:=.i _) (c:=.b _) rfl rfl rfl ?_;rw[if_neg (by assumption),if_pos (by omega)];done)
  |(refine Ev (a:=.i _) (b:=.i _) (c:=.b _) rfl rfl rfl ?_;rw[if_neg (by assumption),if_neg (by omega)]
    simp only[*,decide_true,decide_false,Bool.true_and,Bool.false_and,Bool.and_true];done)
  |(refine Ev (a:=.i _) (b:=.i _) (c:=.b _) rfl rfl rfl ?_;rw[if_neg (by assumption),if_neg (by omega)];trace_state)
def BF(c:D4)(fr v to:Int):Int×Bool :=
 if 0<fr∧v=(-1099511627776)then (if to=0 then (0,c.opt)else (v,c.opt))else
  if (M1 c fr v).2.2=false then (0,false)else if to=0 then (0,true)else if fr=0∧c.opt=true then (0,false)else
   (C8 (M1 c fr v).1 (B1 c to),decide (C8 (M1 c fr v).1 (B1 c to)=C8 (M1 c fr v).2.1 (B1 c to)))
theorem Sk{c:D4}{level v:Int}(hc:meaE c=0)(h1:0≤level)(h2:level≤c.widths.length):-4000000≤(M1 c level v).1∧(M1 c level v).1≤4000000∧-4000000≤(M1 c level v).2.1∧(M1 c level v).2.1≤4000000:=by
 have hp:=T7 hc
 have pI:¬level=0→1≤B1 c level∧B1 c level≤1000000:=fun h=>f6 hp.2.2.2.2.2 (by omega) h2
 unfold M1
 split
 ·simp only;omega
 ·split
  ·simp only;omega
  ·have:=pI (by assumption)
   simp only
   omega
theorem XW(c:D4)(fr v to:Int)(hc:meaE c=0)(h1:0≤fr)(h2:fr≤c.widths.length)(h3:0≤to)(h4:to≤c.widths.length):A3 Tryz.prog 167 [T3 c,.i fr,.i v,.i to] (JA (BF c fr v to)):=by
 have hp:=T7 hc
 have tO:=Pu c fr v hc h1 h2
 have hsb:=Sk (v:=v) hc h1 h2
 have pI:¬to=0→1≤B1 c to∧B1 c to≤1000000:=fun h=>f6 hp.2.2.2.2.2 (by omega) h4
 have rD:¬to=0→A3 Tryz.prog 215 [T3 c,.i to] (.i (B1 c to)):=fun h=>HW c to (by omega) h4
 have rW:¬to=0→A3 Tryz.prog 216 [.i (M1 c fr v).1,.i (B1 c to)] (.i (C8 (M1 c fr v).1 (B1 c to))):=fun h=>Dr _ _ (pI h).1 (pI h).2 (by omega) (by omega)
 have po:¬to=0→A3 Tryz.prog 216 [.i (M1 c fr v).2.1,.i (B1 c to)] (.i (C8 (M1 c fr v).2.1 (B1 c to))):=fun h=>Dr _ _ (pI h).1 (pI h).2 (by omega) (by omega)
 unfold BF
 generalize B1 c to=w at *
 generalize M1 c fr v=sp at *
 obtain⟨lo,hi,ok⟩:=sp
 dsimp only at rW po tO ⊢
 refine B5 Tryz.func167 61 fun mK E h0=>?_
 clear mK
 repeat'((first|refine A0 tO ?_|refine A0 (rD (by assumption)) ?_|refine A0 (rW (by assumption)) ?_|refine A0 (po (by assumption)) ?_|(refine B0 ?_ ?_;kernel_rfl) |refine S2 ?_|(refine T6 ?_ ?_<;>intro h<;>try exact V1 h)|intro el mI mJ|intro el mI|exact T4|refine T5 ?_ ?_|intro ex)<;>try conv=>whnf)
 all_goals first
  |(refine I3 (a:=.i _) (b:=.b _) rfl rfl ?_;clear rW po tO rD pI h0 E;first
     |(rw[if_pos (by omega),if_pos (by assumption)];done)
     |(rw[if_pos (by omega),if_neg (by assumption)];done)
     |(rw[if_neg (by omega),if_pos (by assumption)];done)
     |(have ho:ok=true:=by assumption
       subst ho
       rw[if_neg (by omega),if_neg (by decide)]
       first
        |(rw[if_pos (by assumption)];done)
        |(rw[if_neg (by assumption),if_pos ⟨by assumption,by assumption⟩];done)
        |(rw[if_neg (by assumption),if_neg (fun hx=>by first|exact absurd hx.1 (by assumption)|(have h9:=hx.2;simp[*]at h9))];done))
     |trace_state)
def x8(nm:List UInt8)(cs:List Code)(fr v to:Int):List Nat→Int→Bool→Int×Bool
 |[],out,sm=>(out,sm)
 |leaf::r,out,sm=>if L1 nm cs leaf fr=v then (if sm=true∧L1 nm cs leaf to≠out then (0,false)else x8 nm cs fr v to r (L1 nm cs leaf to) true)else x8 nm cs fr v to r out sm
def De(nm:List UInt8)(cs:List Code)(fr v to:Int):Int×Bool:=x8 nm cs fr v to (H1 nm cs (C5 nm cs-1)) 0 false
theorem x9(nm:List UInt8)(cs:List Code)(level:Int):(H1 nm cs level).length≤cs.length:=by
 unfold H1
 split
 ·exact Dp _ _ _
 ·simp
theorem XX(nm:List UInt8)(cs:List Code)(fr v to:Int):A3 Tryz.prog 166 [lA nm cs,.i fr,.i v,.i to] (JA (De nm cs fr v to)):=by
 refine B5 Tryz.func166 45 fun mK E h0=>?_
 have mL:cs.length≤9223372036854775807:=by
  have:=((mK (lA nm cs) (by simp)).agg (.sl 2 (cs.map cA)) (by simp)).sl
  simpa using this
 clear mK
 have tG:=n8 (nm:=nm) mL
 have mh:=x9 nm cs (C5 nm cs-1)
 unfold De
 have pa:=Dd nm cs mL
 have pC:=Gg nm cs (C5 nm cs-1) mL
 generalize hL:H1 nm cs (C5 nm cs-1)=L at pC mh ⊢
 repeat'((first|refine A0 pa ?_|refine A0 pC ?_|(refine B0 ?_ ?_;kernel_rfl) |refine S2 ?_|(refine T6 ?_ ?_<;>intro h<;>try exact V1 h)|intro el mI mJ|intro el mI|exact T4|refine T5 ?_ ?_|intro ex)<;>try conv=>whnf)
 have qp:=fun (leaf:Nat) (lv:Int)=>Jz nm cs leaf lv mL
 refine A9 (ι:=Nat×Int×Bool) (fun x=>⟨[(1,.i fr),(2,.i v),(3,.i to),(4,.ref 0 0),(10,.i x.2.1),(11,.b x.2.2),(19,.sl 1 (L.map iA)),(20,.i L.length),(21,.i x.1)],1,[(0,some (.box [.str nm,.sl 2 (cs.map cA)]))]⟩) (fun x=>x.1≤L.length∧x8 nm cs fr v to L 0 false=x8 nm cs fr v to (L.drop x.1) x.2.1 x.2.2) (fun x=>L.length-x.1) (0,0,false) ⟨Nat.zero_le _,rfl⟩ (A6 h0) (fun x hI=>?_)
 obtain⟨k,out,sm⟩:=x
 obtain⟨hk,hI⟩:=hI
 dsimp only at hk hI ⊢
 repeat'((first|refine A0 (qp _ _) ?_ |refine S2 ?_|(refine T6 ?_ ?_<;>intro h<;>try exact V1 h)|intro el mI mJ|intro el mI|exact T4|refine T5 ?_ ?_|intro ex)<;>try conv=>whnf)
 all_goals first
  |exact⟨(k+1,out,sm),⟨by dsimp only;omega,by rw[hI,G1 mI,x8,if_neg (by assumption)]⟩,by dsimp only;omega,A6 h0⟩
  |exact⟨(k+1,L1 nm cs el to,true),⟨by dsimp only;omega,by rw[hI,G1 mI,x8,if_pos (Classical.byContradiction (by assumption)),if_neg (fun hx=>by first|exact absurd hx.2 (by assumption)|(have h9:=hx.1;simp[*]at h9))]⟩,by dsimp only;omega,A6 h0⟩
  |exact I3 (a:=.i _) (b:=.b _) rfl rfl (by rw[hI,G1 mI,x8,if_pos (Classical.byContradiction (by assumption)),if_pos ⟨by assumption,by assumption⟩])
  |exact I3 (a:=.i _) (b:=.b _) rfl rfl (by rw[hI,T0 (by assumption)];rfl)
def T9(s:A4)(column fr v to:Int):Int×Bool :=
 if fr<0∨E5 s column<fr∨to<0∨E5 s column<to then (0,false)else
  if (if (B8 s column).kind=2 then De (C2 s (B8 s column)).1 (C2 s (B8 s column)).2 fr v to else BF (B8 s column) fr v to).2=true then ((if (B8 s column).kind=2 then De (C2 s (B8 s column)).1 (C2 s (B8 s column)).2 fr v to else BF (B8 s column) fr v to).1,true)else (0,false)
theorem Km(s:A4)(column fr v to:Int)(hr:C3 s=0):A3 Tryz.prog 112 [sA s,.i column,.i fr,.i v,.i to] (JA (T9 s column fr v to)):=by
 have md:=GG s column hr
 refine B5 Tryz.func112 67 fun mK E h0=>?_
 clear mK
 repeat'((first|refine A0 md ?_ |refine S2 ?_|(refine T6 ?_ ?_<;>intro h<;>try exact V1 h)|intro el mI mJ|intro el mI|exact T4|refine T5 ?_ ?_|intro ex)<;>try conv=>whnf)
 all_goals first
  |(refine I3 (a:=.i _) (b:=.b _) rfl rfl ?_;rw[T9,if_pos (by omega)];done)
  |skip
 have hb:1≤column∧column<s.cols.length:=by
  have:0≤E5 s column:=by omega
  unfold E5 at this
  split at this<;>omega
 obtain⟨c,hc⟩:∃c,s.cols[column.toNat]?=some c:=⟨_,List.getElem?_eq_getElem (by omega)⟩
 have mX:=C1 hc
 have nr:=n9 hr hb.1 hc
 have xk:E5 s column=M0 s c:=by rw[E5,if_neg (by omega),mX]
 rw[T9,if_neg (by omega),mX]
 have hm:¬c.kind=2→A3 Tryz.prog 167 [T3 c,.i fr,.i v,.i to] (JA (BF c fr v to)):=by
  intro h5
  have h9:M0 s c=c.widths.length:=by unfold M0;rw[if_neg h5]
  have hk:=(d6 ((D3 hr).2.2.2.1 _ c hc)).2.2.1
  exact XW c fr v to (v9 hk (by omega)) (by omega) (by omega) (by omega) (by omega)
 have oJ:c.kind=2→c.lst<s.lists.length∧0≤c.lst:=by omega
 clear md xk nr mX
 have ph:=fun l:CL=>XX l.1 l.2 fr v to
 generalize BF c fr v to=xm at hm ⊢
 repeat'((first|(refine A2 (x:=c) hc (by omega) ?_)|refine A0 (hm (by assumption)) ?_|refine A0 (ph _) ?_|(refine o9 ?_ ?_ (fun el mI=>?_);(have:=oJ (by assumption);omega);(have:=oJ (by assumption);omega)) |refine S2 ?_|(refine T6 ?_ ?_<;>intro h<;>try exact V1 h)|intro el mI mJ|intro el mI|exact T4|refine T5 ?_ ?_|intro ex)<;>try conv=>whnf)
 all_goals first
  |(refine I3 (a:=.i _) (b:=.b _) rfl rfl ?_
    rw[if_pos (by assumption:c.kind=2),H6 mI]
    first
     |(rw[if_pos h];done)
     |(rw[if_neg (by rw[h];exact Bool.false_ne_true)];done))
  |(refine I3 (a:=.i _) (b:=.b _) rfl rfl ?_
    rw[if_neg (by assumption:¬c.kind=2)]
    first
     |(rw[if_pos h];done)
     |(rw[if_neg (by rw[h];exact Bool.false_ne_true)];done))
def NN(s:A4)(column fr v to:Int):Int×Bool:=if C3 s=0 then T9 s column fr v to else (0,false)
structure Pk where
 col:Int
 lev:Int
deriving DecidableEq
abbrev A8(p:Pk):List AV:=[.i p.col,.i p.lev]
abbrev Pv(p:Pk):AV:=.agg (A8 p)
def BZ(s:A4)(p:Pk):Int:=if E5 s p.col<0 then 7 else if p.lev<0∨E5 s p.col<p.lev then 8 else 0
theorem Pw(s:A4)(p:Pk)(hr:C3 s=0):A3 Tryz.prog 157 [sA s,Pv p] (.i (BZ s p)):=by
 have md:=GG s p.col hr
 refine B5 Tryz.func157 23 fun mK E h0=>?_
 clear mK
 repeat'((first|refine A0 md ?_ |refine S2 ?_|(refine T6 ?_ ?_<;>intro h<;>try exact V1 h)|intro el mI mJ|intro el mI|exact T4|refine T5 ?_ ?_|intro ex)<;>try conv=>whnf)
 all_goals first
  |(refine A1 rfl (congrArg AV.i ?_);rw[BZ,if_pos (by assumption)];done)
  |(refine A1 rfl (congrArg AV.i ?_);rw[BZ,if_neg (by assumption),if_pos (by omega)];done)
  |(refine A1 rfl (congrArg AV.i ?_);rw[BZ,if_neg (by assumption),if_neg (by omega)];done)
def N3(s:A4)(p:Pk):Int:=if C3 s=0 then BZ s p else C3 s
theorem NO(s:A4)(p:Pk):A3 Tryz.prog 200 [sA s,Pv p] (.i (N3 s p)):=by
 have oY:=fun hr=>Pw s p hr
 refine B5 Tryz.func200 14 fun mK E h0=>?_
 clear mK
 repeat'((first|refine A0 (f5 s) ?_|refine A0 (oY (Classical.byContradiction (by assumption))) ?_ |refine S2 ?_|(refine T6 ?_ ?_<;>intro h<;>try exact V1 h)|intro el mI mJ|intro el mI|exact T4|refine T5 ?_ ?_|intro ex)<;>try conv=>whnf)
 all_goals first
  |(refine A1 rfl (congrArg AV.i ?_);rw[N3,if_neg (by assumption)];done)
  |(refine A1 rfl (congrArg AV.i ?_);rw[N3,if_pos (Classical.byContradiction (by assumption))];done)
def DL(s:A4)(l:List Pk)(k:Nat)(p:Pk):Int:=if BZ s p=0 then (if 0<k∧p.col≤(l.getD (k-1) ⟨0,0⟩).col then 10 else 0)else BZ s p
theorem RJ{s:A4}{l:List Pk}{k:Nat}{p:Pk}(h:¬BZ s p=0):DL s l k p=BZ s p:=by rw[DL,if_neg h]
theorem Sl{l:List Pk}{k:Nat}{q:Pk}(h:0<(k:Int))(hq:l[((k:Int)-1).toNat]?=some q):l.getD (k-1) ⟨0,0⟩=q:=D7 (by rw[←hq];congr 1;omega)
theorem Vx{s:A4}{l:List Pk}{k:Nat}{p q:Pk}(h:¬BZ s p≠0)(h0:0<(k:Int))(hq:l[((k:Int)-1).toNat]?=some q)(nT:p.col≤q.col):DL s l k p=10:=by
 rw[DL,if_pos (Classical.byContradiction h),Sl h0 hq,if_pos ⟨by omega,nT⟩]
theorem Zy{s:A4}{l:List Pk}{k:Nat}{p q:Pk}(h:¬BZ s p≠0)(h0:0<(k:Int))(hq:l[((k:Int)-1).toNat]?=some q)(nT:¬p.col≤q.col):DL s l k p=0:=by
 rw[DL,if_pos (Classical.byContradiction h),Sl h0 hq,if_neg (fun hx=>nT hx.2)]
theorem fE{s:A4}{l:List Pk}{k:Nat}{p:Pk}(h:¬BZ s p≠0)(h0:¬0<(k:Int)):DL s l k p=0:=by
 rw[DL,if_pos (Classical.byContradiction h),if_neg (fun hx=>by omega)]
def I7(s:A4)(l:List Pk):Int:=if C3 s=0 then F4 (DL s l) 0 l else C3 s
theorem XY(s:A4)(l:List Pk):A3 Tryz.prog 100 [sA s,.sl 2 (l.map A8)] (.i (I7 s l)):=by
 have oY:=fun p hr=>Pw s p hr
 refine B5 Tryz.func100 41 fun mK E h0=>?_
 have mL:l.length≤9223372036854775807:=by have:=(mK (.sl 2 (l.map A8)) (by simp)).sl;simpa using this
 clear mK
 repeat'((first|refine A0 (f5 s) ?_ |refine S2 ?_|(refine T6 ?_ ?_<;>intro h<;>try exact V1 h)|intro el mI mJ|intro el mI|exact T4|refine T5 ?_ ?_|intro ex)<;>try conv=>whnf)
 all_goals first
  |(refine A1 rfl (congrArg AV.i ?_);rw[I7,if_neg (by assumption)];done)
  |skip
 have hr:C3 s=0:=Classical.byContradiction (by assumption)
 rw[I7,if_pos hr]
 refine A9 (ι:=Nat) (fun k=>⟨[(1,.sl 2 (l.map A8)),(2,.ref 0 0),(14,.sl 2 (l.map A8)),(15,.i l.length),(16,.i k)],1,[(0,some (.box (sL s)))]⟩) (fun k=>F2 (DL s l) l k) (fun k=>l.length-k) 0 (F2.zero _ _) (A6 h0) (fun k hI=>?_)
 have hk:=hI.1
 repeat'((first|refine A0 (oY _ hr) ?_|(refine B0 ?_ ?_;kernel_rfl) |refine S2 ?_|(refine T6 ?_ ?_<;>intro h<;>try exact V1 h)|intro el mI mJ|intro el mI|exact T4|refine T5 ?_ ?_|intro ex)<;>try conv=>whnf)
 all_goals first
  |exact A1 rfl (congrArg AV.i (by rw[←hI.hit mI (by rw[RJ h];exact h),RJ h]))
  |exact A1 rfl (congrArg AV.i (by have e:=Vx (by assumption) (by assumption) mI h;rw[←hI.hit (by assumption) (by rw[e];decide),e]))
  |exact⟨k+1,hI.step (by assumption) (Zy (by assumption) (by assumption) mI h),by omega,A6 h0⟩
  |exact⟨k+1,hI.step mI (fE (by assumption) (by assumption)),by omega,A6 h0⟩
  |exact A1 rfl (congrArg AV.i (hI.done (by assumption)).symm)
inductive B6 where
 |mk (op col code lo hi:Int) (kids:List B6)
def B6.op:B6→Int|.mk o _ _ _ _ _=>o
def B6.col:B6→Int|.mk _ c _ _ _ _=>c
def B6.code:B6→Int|.mk _ _ k _ _ _=>k
def B6.lo:B6→Int|.mk _ _ _ l _ _=>l
def B6.hi:B6→Int|.mk _ _ _ _ h _=>h
def B6.kids:B6→List B6|.mk _ _ _ _ _ ks=>ks
mutual
def P9:B6→List AV
 |.mk o c k l h ks=>[.i o,.i c,.i k,.i l,.i h,.sl 6 (RK ks)]
def RK:List B6→List (List AV)
 |[]=>[]
 |x::r=>P9 x::RK r
end
theorem Sm:∀ks,RK ks=ks.map P9
 |[]=>rfl
 |x::r=>by rw[RK,Sm r];rfl
def I8(c:B6):List AV:=[.i c.op,.i c.col,.i c.code,.i c.lo,.i c.hi,.sl 6 (c.kids.map P9)]
theorem Gh(c:B6):P9 c=I8 c:=by
 cases c
 rw[P9,Sm];rfl
theorem OZ(ks:List B6):ks.map P9=ks.map I8:=List.map_congr_left fun c _=>Gh c
abbrev D5(c:B6):AV:=.agg (I8 c)
abbrev M8(c:B6):List AV:=[.i c.op,.i c.col,.i c.code,.i c.lo,.i c.hi,.sl 6 (c.kids.map I8)]
theorem F8(c:B6):D5 c=.agg (M8 c):=by
 show AV.agg [.i c.op,.i c.col,.i c.code,.i c.lo,.i c.hi,.sl 6 (c.kids.map P9)]=_
 rw[OZ]
theorem XZ{c k:B6}(h:k∈c.kids):SizeOf.sizeOf k<SizeOf.sizeOf c:=by
 cases c with
 |mk o c k l h' ks =>
  have:=List.sizeOf_lt_of_mem (show _∈ks from h)
  simp only[B6.mk.sizeOf_spec]
  omega
theorem N4{p:B6→Prop}(h:∀c,(∀k∈c.kids,p k)→p c)(c:B6):p c :=
 h c fun k _=>N4 h k
termination_by SizeOf.sizeOf c
decreasing_by exact XZ (by assumption)
mutual
def AJ:B6→Int→Int
 |.mk _ _ _ _ _ ks,most=>AK ks most 1
def AK:List B6→Int→Int→Int
 |[],_,n=>n
 |x::r,most,n=>if most<n then n else AK r most (n+AJ x (most-n))
end
theorem Oa(c:B6)(m:Int):AJ c m=AK c.kids m 1:=by cases c;rfl
theorem KD(c:B6):∀m:Int,1≤AJ c m∧AJ c m≤max 1 (m+1):=by
 refine N4 (p:=fun c=>∀m:Int,1≤AJ c m∧AJ c m≤max 1 (m+1)) (fun c ih m=>?_) c
 have key:∀(l:List B6),(∀k∈l,k∈c.kids)→∀n:Int,1≤n→n≤max 1 (m+1)→1≤AK l m n∧AK l m n≤max 1 (m+1):=by
  intro l
  induction l with
  |nil=>intro _ n h1 h2;exact⟨h1,h2⟩
  |cons x r rx =>
   intro hl n h1 h2
   unfold AK
   split
   ·exact⟨h1,h2⟩
   ·have:=ih x (hl x (by simp)) (m-n)
    exact rx (fun k hk=>hl k (by simp[hk])) _ (by omega) (by omega)
 rw[Oa]
 exact key c.kids (fun k hk=>hk) 1 (by omega) (by omega)
mutual
def d7:B6→Nat
 |.mk _ _ _ _ _ ks=>p9 ks 0+1
def p9:List B6→Nat→Nat
 |[],n=>n
 |x::r,n=>p9 r (max n (d7 x))
end
theorem KE(c:B6):d7 c=p9 c.kids 0+1:=by cases c;rfl
theorem Ob:∀(l:List B6) (n:Nat),n≤p9 l n∧∀k∈l,d7 k≤p9 l n
 |[],n=>⟨Nat.le_refl _,fun k hk=>by cases hk⟩
 |x::r,n=>by
  obtain⟨h1,h2⟩:=Ob r (max n (d7 x))
  unfold p9
  refine⟨by omega,fun k hk=>?_⟩
  rcases List.mem_cons.1 hk with rfl|hk
  ·omega
  ·exact h2 k hk
theorem Ut(c:B6):∀(m:Int),-100000≤m→m≤100000→A3 Tryz.prog 177 [D5 c,.i m] (.i (AJ c m)):=by
 refine N4 (p:=fun c=>∀(m:Int),-100000≤m→m≤100000→A3 Tryz.prog 177 [D5 c,.i m] (.i (AJ c m))) (fun c ih m hm1 qt=>?_) c
 rw[F8,Oa]
 refine B5 Tryz.func177 27 fun mK E h0=>?_
 have mL:c.kids.length≤9223372036854775807:=by
  have:=((mK _ (List.mem_cons_self ..)).agg (.sl 6 (c.kids.map I8)) (by simp)).sl
  simpa using this
 clear mK
 repeat'((first|refine S2 ?_|(refine T6 ?_ ?_<;>intro h<;>try exact V1 h)|intro el mI mJ|intro el mI|exact T4|refine T5 ?_ ?_|intro ex)<;>try conv=>whnf)
 refine A9 (ι:=Nat×Int) (fun x=>⟨[(1,.i m),(5,.i x.2),(9,.sl 6 (c.kids.map I8)),(10,.i c.kids.length),(11,.i x.1)],1,[(0,some (.box (M8 c)))]⟩) (fun x=>x.1≤c.kids.length∧(1≤x.2∧x.2≤max 1 (m+1))∧AK c.kids m 1=AK (c.kids.drop x.1) m x.2) (fun x=>c.kids.length-x.1) (0,1) ⟨Nat.zero_le _,by dsimp only;omega,rfl⟩
  (A6 h0) (fun x hI=>?_)
 obtain⟨k,n⟩:=x
 obtain⟨hk,hn,hI⟩:=hI
 dsimp only at hk hn hI ⊢
 repeat'((first|(refine A0 (ih _ (List.mem_of_getElem? (by assumption)) _ (by omega) (by omega)) ?_)|(refine I6 ?_ ?_;(have:=KD el (m-n);omega)) |refine S2 ?_|(refine T6 ?_ ?_<;>intro h<;>try exact V1 h)|intro el mI mJ|intro el mI|exact T4|refine T5 ?_ ?_|intro ex)<;>try conv=>whnf)
 all_goals first
  |exact A1 rfl (congrArg AV.i (by rw[hI,G1 mI,AK,if_pos (by assumption)]))
  |exact A1 rfl (congrArg AV.i (by rw[hI,T0 (by assumption)];rfl))
  |exact⟨(k+1,n+AJ el (m-n)),⟨by dsimp only;omega,(by have:=KD el (m-n);dsimp only;omega),by rw[hI,G1 mI,AK,if_neg (by assumption)]⟩,by dsimp only;omega,A6 h0⟩
theorem Xa(c:B6):d7 c≤100000→A3 Tryz.prog 178 [D5 c] (.i (d7 c)):=by
 refine N4 (p:=fun c=>d7 c≤100000→A3 Tryz.prog 178 [D5 c] (.i (d7 c))) (fun c ih hd=>?_) c
 rw[F8,KE]at *
 have pK:=Ob c.kids 0
 refine B5 Tryz.func178 20 fun mK E h0=>?_
 have mL:c.kids.length≤9223372036854775807:=by
  have:=((mK _ (List.mem_cons_self ..)).agg (.sl 6 (c.kids.map I8)) (by simp)).sl
  simpa using this
 clear mK
 repeat'((first|refine S2 ?_|(refine T6 ?_ ?_<;>intro h<;>try exact V1 h)|intro el mI mJ|intro el mI|exact T4|refine T5 ?_ ?_|intro ex)<;>try conv=>whnf)
 refine A9 (ι:=Nat×Nat) (fun x=>⟨[(3,.i x.2),(7,.sl 6 (c.kids.map I8)),(8,.i c.kids.length),(9,.i x.1)],1,[(0,some (.box (M8 c)))]⟩) (fun x=>x.1≤c.kids.length∧x.2≤p9 c.kids 0∧p9 c.kids 0=p9 (c.kids.drop x.1) x.2) (fun x=>c.kids.length-x.1) (0,0) ⟨Nat.zero_le _,Nat.zero_le _,rfl⟩
  (A6 h0) (fun x hI=>?_)
 obtain⟨k,n⟩:=x
 obtain⟨hk,hn,hI⟩:=hI
 dsimp only at hk hn hI ⊢
 have wb:∀el,c.kids[k]?=some el→d7 el≤p9 c.kids 0:=fun el mI=>pK.2 el (List.mem_of_getElem? mI)
 repeat'((first|(refine A0 (ih _ (List.mem_of_getElem? (by assumption)) (by have:=wb el mI;omega)) ?_) |refine S2 ?_|(refine T6 ?_ ?_<;>intro h<;>try exact V1 h)|intro el mI mJ|intro el mI|exact T4|refine T5 ?_ ?_|intro ex)<;>try conv=>whnf)
 all_goals first
  |exact A1 rfl (congrArg AV.i (by rw[hI,T0 (by assumption)];unfold p9;omega))
  |exact⟨(k+1,max n (d7 el)),⟨by dsimp only;omega,(by have:=wb el mI;dsimp only;omega),by rw[hI,G1 mI,p9]⟩,by dsimp only;omega,A7 h0 rfl ⟨congrArg (fun z:Int=>some (AV.i z)) (by dsimp only;omega),rfl,rfl,rfl,trivial⟩ ⟨rfl,trivial⟩ rfl rfl rfl⟩
def q8(op:Int):Int:=if op=5∨op=6 then 2 else if op=7 then 1 else 0
theorem Xb(op:Int):A3 Tryz.prog 239 [.i op] (.i (q8 op)):=by
 refine B5 Tryz.func239 9 fun mK E h0=>?_
 clear mK
 repeat'((first|refine S2 ?_|(refine T6 ?_ ?_<;>intro h<;>try exact V1 h)|intro el mI mJ|intro el mI|exact T4|refine T5 ?_ ?_|intro ex)<;>try conv=>whnf)
 all_goals first
  |exact A1 rfl (congrArg AV.i (by unfold q8;rw[if_pos (by omega)]))
  |exact A1 rfl (congrArg AV.i (by unfold q8;rw[if_neg (by omega),if_pos (by omega)]))
  |exact A1 rfl (congrArg AV.i (by unfold q8;rw[if_neg (by omega),if_neg (by omega)]))
abbrev Xd(c:B6):Bool:=decide (¬(c.op≠2∧c.op≠3∧c.op≠4∧c.col≠0)∧¬(c.op≠2∧c.code≠0)∧(c.op=3∨c.lo=0∧c.hi=0))
theorem Sn(c:B6):A3 Tryz.prog 240 [D5 c] (.b (Xd c)):=by
 rw[F8]
 refine B5 Tryz.func240 46 fun mK E h0=>?_
 clear mK
 repeat'((first|refine S2 ?_|(refine T6 ?_ ?_<;>intro h<;>try exact V1 h)|intro el mI mJ|intro el mI|exact T4|refine T5 ?_ ?_|intro ex)<;>try conv=>whnf)
 all_goals first
  |exact A1 rfl (congrArg AV.b (by unfold Xd;rw[decide_eq_true (by omega)]))
  |exact A1 rfl (congrArg AV.b (by unfold Xd;rw[decide_eq_false (by omega)]))
  |exact A1 rfl (congrArg AV.b (by unfold Xd;rw[decide_eq_decide];omega))
end Go.Proofs.YtiphlhoclaogjaaGreatDoor

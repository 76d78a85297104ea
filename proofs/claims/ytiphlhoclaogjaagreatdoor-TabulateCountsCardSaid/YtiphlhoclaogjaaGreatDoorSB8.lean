/- Chapter 2: the least level, coarse values. Chapter 2: values turned to another level, picks. -/
import Derived.Test.YtiphlhoclaogjaaGreatDoorSB7
set_option linter.unusedVariables false
set_option linter.unnecessarySimpa false
set_option linter.unusedSimpArgs false
set_option maxHeartbeats 64000000
namespace Go.Proofs.YtiphlhoclaogjaaGreatDoor
open Go Go.Av
attribute [local irreducible] C7 B2 D3 C9 DQ D0 C8 St.le A3 B9
set_option maxRecDepth 100000
def Y4(s:A4)(c:D4):Nat→Nat
 |0=>0
 |k+1=>if K4 s c k=K4 s c (k+1:Nat)then Y4 s c k else k+1
def K5(s:A4)(column level:Int):Int:=if level<0∨B7 s column<level then -1 else Y4 s (C0 s column) level.toNat
theorem BZ{s:A4}{column level:Int}(h0:0≤level)(h:level≤B7 s column):C3 s=0∧1≤column∧column<s.cols.length∧level≤E5 s column:=by
 unfold B7 at h
 by_cases hr:C3 s=0
 ·rw[if_pos hr]at h
  refine⟨hr,?_,?_,h⟩ <;>
  ·unfold E5 at h
   split at h<;>omega
 ·rw[if_neg hr]at h;omega
theorem Oh{s:A4}(h:C3 s=0)(column:Int):E5 s column≤61:=by
 unfold E5
 split
 ·omega
 ·have hc:s.cols[column.toNat]?=some s.cols[column.toNat]:=List.getElem?_eq_getElem (by omega)
  have nA:=o0 h (by omega) hc
  rw[C1 hc]
  generalize s.cols[column.toNat]=c at nA
  unfold M7
  rcases nA with nA|nA
  ·rw[if_pos nA.1]
   have hl:s.lists[c.lst.toNat]?=some (s.lists[c.lst.toNat]'(by omega)):=List.getElem?_eq_getElem (by omega)
   have hk:=(D5 h).2.2.1 _ (List.mem_of_getElem? hl)
   rw[H8 hl]
   have h1:=(I1 hk).2.2
   have:=n9 (nm:=(s.lists[c.lst.toNat]'(by omega)).1) (cs:=(s.lists[c.lst.toNat]'(by omega)).2) (by omega)
   omega
  ·rw[if_neg (by omega)];omega
theorem Zw{s:A4}{c:D4}{k:Nat}(h:0<(k:Int))(he:K4 s c ((k:Int)-1)=K4 s c k):Y4 s c k=Y4 s c (k-1):=by
 obtain⟨k,rfl⟩:∃j,k=j+1:=⟨k-1,by omega⟩
 have e:((k+1:Nat):Int)-1=(k:Nat):=by omega
 rw[e]at he
 rw[Y4,if_pos he];rfl
theorem Zx{s:A4}{c:D4}{k:Nat}(h:0<(k:Int))(he:¬K4 s c ((k:Int)-1)=K4 s c k):Y4 s c k=k:=by
 obtain⟨k,rfl⟩:∃j,k=j+1:=⟨k-1,by omega⟩
 have e:((k+1:Nat):Int)-1=(k:Nat):=by omega
 rw[e]at he
 rw[Y4,if_neg he]
theorem NX(s:A4)(column level:Int):A3 Tryz.prog 213 [sA s,.i column,.i level] (.i (K5 s column level)):=by
 have lr:=Cy s column
 refine B6 Tryz.func213 35 fun lW E h0=>?_
 clear lW
 repeat'((first|refine A1 lr ?_ |refine S2 ?_|(refine T6 ?_ ?_<;>intro h<;>try exact V1 h)|intro el lU lV|intro el lU|exact T4|refine T5 ?_ ?_|intro ex)<;>try conv=>whnf)
 all_goals first
  |(refine A0 rfl (congrArg AV.i ?_);rw[K5,if_pos (by omega)];done)
  |skip
 obtain⟨hr,h1,h2,h4⟩:=BZ (s:=s) (column:=column) (level:=level) (by omega) (by omega)
 rw[K5,if_neg (by omega)]
 have mP:=fun (lv:Int) (h:0≤lv∧lv≤level)=>Uw s column lv hr h1 h2 h.1 (by omega)
 obtain⟨n,rfl⟩:=Int.eq_ofNat_of_zero_le (show 0≤level by omega)
 rw[Int.toNat_natCast]
 generalize C0 s column=c at mP ⊢
 have h61:=Oh hr column
 have hn61:n≤61:=by omega
 clear lr h4 h61
 refine B0 (ι:=Nat) (fun k=>⟨[(1,.i column),(2,.i k),(3,.ref 0 0)],1,[(0,some (.box (sL s)))]⟩) (fun k=>k≤n∧Y4 s c n=Y4 s c k) (fun k=>k) n ⟨Nat.le_refl _,rfl⟩ (A6 h0) (fun k hI=>?_)
 obtain⟨hk,hI⟩:=hI
 have nD:=fun (h:0<(k:Int))=>mP ((k:Int)-1) (by omega)
 have mC:=mP k (by omega)
 clear mP
 repeat'((first|refine A1 (nD (by assumption)) ?_|refine A1 mC ?_|(refine B3 ?_ ?_;kernel_rfl) |refine S2 ?_|(refine T6 ?_ ?_<;>intro h<;>try exact V1 h)|intro el lU lV|intro el lU|exact T4|refine T5 ?_ ?_|intro ex)<;>try conv=>whnf)
 all_goals first
  |exact⟨k-1,⟨by omega,by rw[hI,Zw (by assumption) (by assumption)]⟩,by omega,A9 h0 rfl ⟨rfl,congrArg (fun z:Int=>some (AV.i z)) (by omega),rfl,trivial⟩ ⟨rfl,trivial⟩ rfl rfl rfl⟩
  |exact A0 rfl (congrArg (fun z:Nat=>AV.i (z:Int)) (by rw[hI,Zx (by assumption) (by assumption)]))
  |(obtain rfl:k=0:=by omega
    exact A0 rfl (congrArg (fun z:Nat=>AV.i (z:Int)) (by rw[hI];rfl)))
def O9(s:A4)(c:D4)(level v:Int):Int:=if c.kind=2 then (if BX s c v=true then L2 (C2 s c).1 (C2 s c).2 v level else -1)else if v≠(-1099511627776)∧(v < -1000000∨1000000<v)then -1 else if level=0 then 0 else if v=(-1099511627776)then (-1099511627776)else C5 v (A7 c level)
def G2(s:A4)(column level v:Int):Int:=if level<0∨B7 s column<level then -1 else O9 s (C0 s column) level v
abbrev JL(x:Int×Bool):AV:=.tup [.i x.1,.b x.2]
abbrev XX(x:Int×Int×Bool):AV:=.tup [.i x.1,.i x.2.1,.b x.2.2]
def M0(c:D4)(level v:Int):Int×Int×Bool :=
 if level=0 then (c.low,c.high,decide (v=0))else if v < -2000000∨1000000<v then (0,0,false)else (max v c.low,min (v+A7 c level-1) c.high,decide (C5 v (A7 c level)=v) && decide (max v c.low≤min (v+A7 c level-1) c.high))
theorem QA(c:D4)(level v:Int)(hc:meaE c=0)(h1:0≤level)(h2:level≤c.widths.length):A3 Tryz.prog 198 [S9 c,.i level,.i v] (XX (M0 c level v)):=by
 have hp:=T0 hc
 have oK:¬level=0→1≤A7 c level∧A7 c level≤1000000:=fun h=>a7 hp.2.2.2.2.2 (by omega) h2
 have qG:¬level=0→A3 Tryz.prog 215 [S9 c,.i level] (.i (A7 c level)):=fun h=>Hb c level (by omega) h2
 have pL:¬level=0→¬v < -2000000→¬1000000<v→A3 Tryz.prog 216 [.i v,.i (A7 c level)] (.i (C5 v (A7 c level))):=fun h h5 h6=>ED _ _ (oK h).1 (oK h).2 (by omega) (by omega)
 unfold M0
 generalize A7 c level=w at *
 refine B6 Tryz.func198 54 fun lW E h0=>?_
 clear lW
 repeat'((first|refine A1 (qG (by assumption)) ?_|refine A1 (pL (by assumption) (by assumption) (by assumption)) ?_|(refine I4 ?_ ?_;(have:=oK (by assumption);omega))|(refine B3 ?_ ?_;kernel_rfl) |refine S2 ?_|(refine T6 ?_ ?_<;>intro h<;>try exact V1 h)|intro el lU lV|intro el lU|exact T4|refine T5 ?_ ?_|intro ex)<;>try conv=>whnf)
 all_goals first
  |(refine Ez (a:=.i _) (b:=.i _) (c:=.b _) rfl rfl rfl ?_;rw[if_pos (by assumption)];done)
  |(refine Ez (a:=.i _) (b:=.i _) (c:=.b _) rfl rfl rfl ?_;rw[if_neg (by assumption),if_pos (by omega)];done)
  |(refine Ez (a:=.i _) (b:=.i _) (c:=.b _) rfl rfl rfl ?_;rw[if_neg (by assumption),if_neg (by omega)]
    simp only[*,decide_true,decide_false,Bool.true_and,Bool.false_and,Bool.and_true];done)
  |(refine Ez (a:=.i _) (b:=.i _) (c:=.b _) rfl rfl rfl ?_;rw[if_neg (by assumption),if_neg (by omega)];trace_state)
def Ba(c:D4)(fr v to:Int):Int×Bool :=
 if 0<fr∧v=(-1099511627776)then (if to=0 then (0,c.opt)else (v,c.opt))else
  if (M0 c fr v).2.2=false then (0,false)else if to=0 then (0,true)else if fr=0∧c.opt=true then (0,false)else
   (C5 (M0 c fr v).1 (A7 c to),decide (C5 (M0 c fr v).1 (A7 c to)=C5 (M0 c fr v).2.1 (A7 c to)))
theorem So{c:D4}{level v:Int}(hc:meaE c=0)(h1:0≤level)(h2:level≤c.widths.length):-4000000≤(M0 c level v).1∧(M0 c level v).1≤4000000∧-4000000≤(M0 c level v).2.1∧(M0 c level v).2.1≤4000000:=by
 have hp:=T0 hc
 have oK:¬level=0→1≤A7 c level∧A7 c level≤1000000:=fun h=>a7 hp.2.2.2.2.2 (by omega) h2
 unfold M0
 split
 ·simp only;omega
 ·split
  ·simp only;omega
  ·have:=oK (by assumption)
   simp only
   omega
theorem XY(c:D4)(fr v to:Int)(hc:meaE c=0)(h1:0≤fr)(h2:fr≤c.widths.length)(h3:0≤to)(h4:to≤c.widths.length):A3 Tryz.prog 167 [S9 c,.i fr,.i v,.i to] (JL (Ba c fr v to)):=by
 have hp:=T0 hc
 have sU:=QA c fr v hc h1 h2
 have hsb:=So (v:=v) hc h1 h2
 have oK:¬to=0→1≤A7 c to∧A7 c to≤1000000:=fun h=>a7 hp.2.2.2.2.2 (by omega) h4
 have qG:¬to=0→A3 Tryz.prog 215 [S9 c,.i to] (.i (A7 c to)):=fun h=>Hb c to (by omega) h4
 have sY:¬to=0→A3 Tryz.prog 216 [.i (M0 c fr v).1,.i (A7 c to)] (.i (C5 (M0 c fr v).1 (A7 c to))):=fun h=>ED _ _ (oK h).1 (oK h).2 (by omega) (by omega)
 have qR:¬to=0→A3 Tryz.prog 216 [.i (M0 c fr v).2.1,.i (A7 c to)] (.i (C5 (M0 c fr v).2.1 (A7 c to))):=fun h=>ED _ _ (oK h).1 (oK h).2 (by omega) (by omega)
 unfold Ba
 generalize A7 c to=w at *
 generalize M0 c fr v=sp at *
 obtain⟨lo,hi,ok⟩:=sp
 dsimp only at sY qR sU ⊢
 refine B6 Tryz.func167 61 fun lW E h0=>?_
 clear lW
 repeat'((first|refine A1 sU ?_|refine A1 (qG (by assumption)) ?_|refine A1 (sY (by assumption)) ?_|refine A1 (qR (by assumption)) ?_|(refine B3 ?_ ?_;kernel_rfl) |refine S2 ?_|(refine T6 ?_ ?_<;>intro h<;>try exact V1 h)|intro el lU lV|intro el lU|exact T4|refine T5 ?_ ?_|intro ex)<;>try conv=>whnf)
 all_goals first
  |(refine I0 (a:=.i _) (b:=.b _) rfl rfl ?_;clear sY qR sU qG oK h0 E;first
     |(rw[if_pos (by omega),if_pos (by assumption)];done)
     |(rw[if_pos (by omega),if_neg (by assumption)];done)
     |(rw[if_neg (by omega),if_pos (by assumption)];done)
     |(have ho:ok=true:=by assumption
       subst ho
       rw[if_neg (by omega),if_neg (by decide)]
       first
        |(rw[if_pos (by assumption)];done)
        |(rw[if_neg (by assumption),if_pos ⟨by assumption,by assumption⟩];done)
        |(rw[if_neg (by assumption),if_neg (fun hx=>by first|exact absurd hx.1 (by assumption)|(have h9:=hx.2;simp[*]at h9))];done))
     |trace_state)
def AG(nm:List UInt8)(cs:List Code)(fr v to:Int):List Nat→Int→Bool→Int×Bool
 |[],out,sm=>(out,sm)
 |leaf::r,out,sm=>if L2 nm cs leaf fr=v then (if sm=true∧L2 nm cs leaf to≠out then (0,false)else AG nm cs fr v to r (L2 nm cs leaf to) true)else AG nm cs fr v to r out sm
def Dv(nm:List UInt8)(cs:List Code)(fr v to:Int):Int×Bool:=AG nm cs fr v to (K3 nm cs (C4 nm cs-1)) 0 false
theorem AH(nm:List UInt8)(cs:List Code)(level:Int):(K3 nm cs level).length≤cs.length:=by
 unfold K3
 split
 ·exact NO _ _ _
 ·simp
theorem XZ(nm:List UInt8)(cs:List Code)(fr v to:Int):A3 Tryz.prog 166 [lA nm cs,.i fr,.i v,.i to] (JL (Dv nm cs fr v to)):=by
 refine B6 Tryz.func166 45 fun lW E h0=>?_
 have lX:cs.length≤9223372036854775807:=by
  have:=((lW (lA nm cs) (by simp)).agg (.sl 2 (cs.map cA)) (by simp)).sl
  simpa using this
 clear lW
 have sN:=n9 (nm:=nm) lX
 have mA:=AH nm cs (C4 nm cs-1)
 unfold Dv
 have oO:=Du nm cs lX
 have oy:=Gp nm cs (C4 nm cs-1) lX
 generalize hL:K3 nm cs (C4 nm cs-1)=L at oy mA ⊢
 repeat'((first|refine A1 oO ?_|refine A1 oy ?_|(refine B3 ?_ ?_;kernel_rfl) |refine S2 ?_|(refine T6 ?_ ?_<;>intro h<;>try exact V1 h)|intro el lU lV|intro el lU|exact T4|refine T5 ?_ ?_|intro ex)<;>try conv=>whnf)
 have pm:=fun (leaf:Nat) (lv:Int)=>KM nm cs leaf lv lX
 refine B0 (ι:=Nat×Int×Bool) (fun x=>⟨[(1,.i fr),(2,.i v),(3,.i to),(4,.ref 0 0),(10,.i x.2.1),(11,.b x.2.2),(19,.sl 1 (L.map iA)),(20,.i L.length),(21,.i x.1)],1,[(0,some (.box [.str nm,.sl 2 (cs.map cA)]))]⟩) (fun x=>x.1≤L.length∧AG nm cs fr v to L 0 false=AG nm cs fr v to (L.drop x.1) x.2.1 x.2.2) (fun x=>L.length-x.1) (0,0,false) ⟨Nat.zero_le _,rfl⟩ (A6 h0) (fun x hI=>?_)
 obtain⟨k,out,sm⟩:=x
 obtain⟨hk,hI⟩:=hI
 dsimp only at hk hI ⊢
 repeat'((first|refine A1 (pm _ _) ?_ |refine S2 ?_|(refine T6 ?_ ?_<;>intro h<;>try exact V1 h)|intro el lU lV|intro el lU|exact T4|refine T5 ?_ ?_|intro ex)<;>try conv=>whnf)
 all_goals first
  |exact⟨(k+1,out,sm),⟨by dsimp only;omega,by rw[hI,G3 lU,AG,if_neg (by assumption)]⟩,by dsimp only;omega,A6 h0⟩
  |exact⟨(k+1,L2 nm cs el to,true),⟨by dsimp only;omega,by rw[hI,G3 lU,AG,if_pos (Classical.byContradiction (by assumption)),if_neg (fun hx=>by first|exact absurd hx.2 (by assumption)|(have h9:=hx.1;simp[*]at h9))]⟩,by dsimp only;omega,A6 h0⟩
  |exact I0 (a:=.i _) (b:=.b _) rfl rfl (by rw[hI,G3 lU,AG,if_pos (Classical.byContradiction (by assumption)),if_pos ⟨by assumption,by assumption⟩])
  |exact I0 (a:=.i _) (b:=.b _) rfl rfl (by rw[hI,S6 (by assumption)];rfl)
def T8(s:A4)(column fr v to:Int):Int×Bool :=
 if fr<0∨E5 s column<fr∨to<0∨E5 s column<to then (0,false)else
  if (if (C0 s column).kind=2 then Dv (C2 s (C0 s column)).1 (C2 s (C0 s column)).2 fr v to else Ba (C0 s column) fr v to).2=true then ((if (C0 s column).kind=2 then Dv (C2 s (C0 s column)).1 (C2 s (C0 s column)).2 fr v to else Ba (C0 s column) fr v to).1,true)else (0,false)
theorem Ky(s:A4)(column fr v to:Int)(hr:C3 s=0):A3 Tryz.prog 112 [sA s,.i column,.i fr,.i v,.i to] (JL (T8 s column fr v to)):=by
 have lr:=GQ s column hr
 refine B6 Tryz.func112 67 fun lW E h0=>?_
 clear lW
 repeat'((first|refine A1 lr ?_ |refine S2 ?_|(refine T6 ?_ ?_<;>intro h<;>try exact V1 h)|intro el lU lV|intro el lU|exact T4|refine T5 ?_ ?_|intro ex)<;>try conv=>whnf)
 all_goals first
  |(refine I0 (a:=.i _) (b:=.b _) rfl rfl ?_;rw[T8,if_pos (by omega)];done)
  |skip
 have hb:1≤column∧column<s.cols.length:=by
  have:0≤E5 s column:=by omega
  unfold E5 at this
  split at this<;>omega
 obtain⟨c,hc⟩:∃c,s.cols[column.toNat]?=some c:=⟨_,List.getElem?_eq_getElem (by omega)⟩
 have lm:=C1 hc
 have nA:=o0 hr hb.1 hc
 have wP:E5 s column=M7 s c:=by rw[E5,if_neg (by omega),lm]
 rw[T8,if_neg (by omega),lm]
 have hm:¬c.kind=2→A3 Tryz.prog 167 [S9 c,.i fr,.i v,.i to] (JL (Ba c fr v to)):=by
  intro h5
  have h9:M7 s c=c.widths.length:=by unfold M7;rw[if_neg h5]
  have hk:=(Y8 ((D5 hr).2.2.2.1 _ c hc)).2.2.1
  exact XY c fr v to (z6 hk (by omega)) (by omega) (by omega) (by omega) (by omega)
 have nS:c.kind=2→c.lst<s.lists.length∧0≤c.lst:=by omega
 clear lr wP nA lm
 have pj:=fun l:CL=>XZ l.1 l.2 fr v to
 generalize Ba c fr v to=xm at hm ⊢
 repeat'((first|(refine A2 (x:=c) hc (by omega) ?_)|refine A1 (hm (by assumption)) ?_|refine A1 (pj _) ?_|(refine o8 ?_ ?_ (fun el lU=>?_);(have:=nS (by assumption);omega);(have:=nS (by assumption);omega)) |refine S2 ?_|(refine T6 ?_ ?_<;>intro h<;>try exact V1 h)|intro el lU lV|intro el lU|exact T4|refine T5 ?_ ?_|intro ex)<;>try conv=>whnf)
 all_goals first
  |(refine I0 (a:=.i _) (b:=.b _) rfl rfl ?_
    rw[if_pos (by assumption:c.kind=2),H8 lU]
    first
     |(rw[if_pos h];done)
     |(rw[if_neg (by rw[h];exact Bool.false_ne_true)];done))
  |(refine I0 (a:=.i _) (b:=.b _) rfl rfl ?_
    rw[if_neg (by assumption:¬c.kind=2)]
    first
     |(rw[if_pos h];done)
     |(rw[if_neg (by rw[h];exact Bool.false_ne_true)];done))
def NY(s:A4)(column fr v to:Int):Int×Bool:=if C3 s=0 then T8 s column fr v to else (0,false)
structure Pk where
 col:Int
 lev:Int
deriving DecidableEq
abbrev B4(p:Pk):List AV:=[.i p.col,.i p.lev]
abbrev QB(p:Pk):AV:=.agg (B4 p)
def Cc(s:A4)(p:Pk):Int:=if E5 s p.col<0 then 7 else if p.lev<0∨E5 s p.col<p.lev then 8 else 0
theorem QC(s:A4)(p:Pk)(hr:C3 s=0):A3 Tryz.prog 157 [sA s,QB p] (.i (Cc s p)):=by
 have lr:=GQ s p.col hr
 refine B6 Tryz.func157 23 fun lW E h0=>?_
 clear lW
 repeat'((first|refine A1 lr ?_ |refine S2 ?_|(refine T6 ?_ ?_<;>intro h<;>try exact V1 h)|intro el lU lV|intro el lU|exact T4|refine T5 ?_ ?_|intro ex)<;>try conv=>whnf)
 all_goals first
  |(refine A0 rfl (congrArg AV.i ?_);rw[Cc,if_pos (by assumption)];done)
  |(refine A0 rfl (congrArg AV.i ?_);rw[Cc,if_neg (by assumption),if_pos (by omega)];done)
  |(refine A0 rfl (congrArg AV.i ?_);rw[Cc,if_neg (by assumption),if_neg (by omega)];done)
def P4(s:A4)(p:Pk):Int:=if C3 s=0 then Cc s p else C3 s
theorem NZ(s:A4)(p:Pk):A3 Tryz.prog 200 [sA s,QB p] (.i (P4 s p)):=by
 have oI:=fun hr=>QC s p hr
 refine B6 Tryz.func200 14 fun lW E h0=>?_
 clear lW
 repeat'((first|refine A1 (a6 s) ?_|refine A1 (oI (Classical.byContradiction (by assumption))) ?_ |refine S2 ?_|(refine T6 ?_ ?_<;>intro h<;>try exact V1 h)|intro el lU lV|intro el lU|exact T4|refine T5 ?_ ?_|intro ex)<;>try conv=>whnf)
 all_goals first
  |(refine A0 rfl (congrArg AV.i ?_);rw[P4,if_neg (by assumption)];done)
  |(refine A0 rfl (congrArg AV.i ?_);rw[P4,if_pos (Classical.byContradiction (by assumption))];done)
def Db(s:A4)(l:List Pk)(k:Nat)(p:Pk):Int:=if Cc s p=0 then (if 0<k∧p.col≤(l.getD (k-1) ⟨0,0⟩).col then 10 else 0)else Cc s p
theorem RM{s:A4}{l:List Pk}{k:Nat}{p:Pk}(h:¬Cc s p=0):Db s l k p=Cc s p:=by rw[Db,if_neg h]
theorem Sp{l:List Pk}{k:Nat}{q:Pk}(h:0<(k:Int))(hq:l[((k:Int)-1).toNat]?=some q):l.getD (k-1) ⟨0,0⟩=q:=E4 (by rw[←hq];congr 1;omega)
theorem Vz{s:A4}{l:List Pk}{k:Nat}{p q:Pk}(h:¬Cc s p≠0)(h0:0<(k:Int))(hq:l[((k:Int)-1).toNat]?=some q)(mX:p.col≤q.col):Db s l k p=10:=by
 rw[Db,if_pos (Classical.byContradiction h),Sp h0 hq,if_pos ⟨by omega,mX⟩]
theorem Zy{s:A4}{l:List Pk}{k:Nat}{p q:Pk}(h:¬Cc s p≠0)(h0:0<(k:Int))(hq:l[((k:Int)-1).toNat]?=some q)(mX:¬p.col≤q.col):Db s l k p=0:=by
 rw[Db,if_pos (Classical.byContradiction h),Sp h0 hq,if_neg (fun hx=>mX hx.2)]
theorem ee{s:A4}{l:List Pk}{k:Nat}{p:Pk}(h:¬Cc s p≠0)(h0:¬0<(k:Int)):Db s l k p=0:=by
 rw[Db,if_pos (Classical.byContradiction h),if_neg (fun hx=>by omega)]
def I5(s:A4)(l:List Pk):Int:=if C3 s=0 then F0 (Db s l) 0 l else C3 s
theorem Xa(s:A4)(l:List Pk):A3 Tryz.prog 100 [sA s,.sl 2 (l.map B4)] (.i (I5 s l)):=by
 have oI:=fun p hr=>QC s p hr
 refine B6 Tryz.func100 41 fun lW E h0=>?_
 have lX:l.length≤9223372036854775807:=by have:=(lW (.sl 2 (l.map B4)) (by simp)).sl;simpa using this
 clear lW
 repeat'((first|refine A1 (a6 s) ?_ |refine S2 ?_|(refine T6 ?_ ?_<;>intro h<;>try exact V1 h)|intro el lU lV|intro el lU|exact T4|refine T5 ?_ ?_|intro ex)<;>try conv=>whnf)
 all_goals first
  |(refine A0 rfl (congrArg AV.i ?_);rw[I5,if_neg (by assumption)];done)
  |skip
 have hr:C3 s=0:=Classical.byContradiction (by assumption)
 rw[I5,if_pos hr]
 refine B0 (ι:=Nat) (fun k=>⟨[(1,.sl 2 (l.map B4)),(2,.ref 0 0),(14,.sl 2 (l.map B4)),(15,.i l.length),(16,.i k)],1,[(0,some (.box (sL s)))]⟩) (fun k=>E9 (Db s l) l k) (fun k=>l.length-k) 0 (E9.zero _ _) (A6 h0) (fun k hI=>?_)
 have hk:=hI.1
 repeat'((first|refine A1 (oI _ hr) ?_|(refine B3 ?_ ?_;kernel_rfl) |refine S2 ?_|(refine T6 ?_ ?_<;>intro h<;>try exact V1 h)|intro el lU lV|intro el lU|exact T4|refine T5 ?_ ?_|intro ex)<;>try conv=>whnf)
 all_goals first
  |exact A0 rfl (congrArg AV.i (by rw[←hI.hit lU (by rw[RM h];exact h),RM h]))
  |exact A0 rfl (congrArg AV.i (by have e:=Vz (by assumption) (by assumption) lU h;rw[←hI.hit (by assumption) (by rw[e];decide),e]))
  |exact⟨k+1,hI.step (by assumption) (Zy (by assumption) (by assumption) lU h),by omega,A6 h0⟩
  |exact⟨k+1,hI.step lU (ee (by assumption) (by assumption)),by omega,A6 h0⟩
  |exact A0 rfl (congrArg AV.i (hI.done (by assumption)).symm)
end Go.Proofs.YtiphlhoclaogjaaGreatDoor

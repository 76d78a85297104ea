/- Chapter 2: the least level, coarse values. Chapter 2: values turned to another level, picks. -/
import Derived.Test.YtjkbhaaobhgkdabGreatDoorRB7
set_option linter.unusedVariables false
set_option linter.unnecessarySimpa false
set_option linter.unusedSimpArgs false
set_option maxHeartbeats 64000000
namespace Go.Proofs.YtjkbhaaobhgkdabGreatDoor
open Go Go.Av
attribute [local irreducible] D0 B0 D2 C7 DQ D1 C8 St.le A3 B6
set_option maxRecDepth 100000
def P7(s:A4)(c:D4):Nat→Nat
 |0=>0
 |k+1=>if K1 s c k=K1 s c (k+1:Nat)then P7 s c k else k+1
def H7(s:A4)(column level:Int):Int:=if level<0∨B9 s column<level then -1 else P7 s (B4 s column) level.toNat
theorem Hd{s:A4}{column level:Int}(h0:0≤level)(h:level≤B9 s column):C5 s=0∧1≤column∧column<s.cols.length∧level≤F0 s column:=by
 unfold B9 at h
 by_cases hr:C5 s=0
 ·rw[if_pos hr]at h
  refine⟨hr,?_,?_,h⟩ <;>
  ·unfold F0 at h
   split at h<;>omega
 ·rw[if_neg hr]at h;omega
theorem Om{s:A4}(h:C5 s=0)(column:Int):F0 s column≤61:=by
 unfold F0
 split
 ·omega
 ·have hc:s.cols[column.toNat]?=some s.cols[column.toNat]:=List.getElem?_eq_getElem (by omega)
  have ow:=CR h (by omega) hc
  rw[B7 hc]
  generalize s.cols[column.toNat]=c at ow
  unfold N7
  rcases ow with ow|ow
  ·rw[if_pos ow.1]
   have hl:s.lists[c.lst.toNat]?=some (s.lists[c.lst.toNat]'(by omega)):=List.getElem?_eq_getElem (by omega)
   have hk:=(F2 h).2.2.1 _ (List.mem_of_getElem? hl)
   rw[I7 hl]
   have h1:=(H9 hk).2.2
   have:=l7 (nm:=(s.lists[c.lst.toNat]'(by omega)).1) (cs:=(s.lists[c.lst.toNat]'(by omega)).2) (by omega)
   omega
  ·rw[if_neg (by omega)];omega
theorem aa{s:A4}{c:D4}{k:Nat}(h:0<(k:Int))(he:K1 s c ((k:Int)-1)=K1 s c k):P7 s c k=P7 s c (k-1):=by
 obtain⟨k,rfl⟩:∃j,k=j+1:=⟨k-1,by omega⟩
 have e:((k+1:Nat):Int)-1=(k:Nat):=by omega
 rw[e]at he
 rw[P7,if_pos he];rfl
theorem ab{s:A4}{c:D4}{k:Nat}(h:0<(k:Int))(he:¬K1 s c ((k:Int)-1)=K1 s c k):P7 s c k=k:=by
 obtain⟨k,rfl⟩:∃j,k=j+1:=⟨k-1,by omega⟩
 have e:((k+1:Nat):Int)-1=(k:Nat):=by omega
 rw[e]at he
 rw[P7,if_neg he]
theorem Nf(s:A4)(column level:Int):A3 Tryz.prog 151 [sA s,.i column,.i level] (.i (H7 s column level)):=by
 have nu:=Co s column
 refine C0 Tryz.func151 35 fun nQ E h0=>?_
 clear nQ
 repeat'((first|refine A1 nu ?_ |refine S2 ?_|(refine T6 ?_ ?_<;>intro h<;>try exact V1 h)|intro el nN nP|intro el nN|exact T4|refine T5 ?_ ?_|intro ex)<;>try conv=>whnf)
 all_goals first
  |(refine A0 rfl (congrArg AV.i ?_);rw[H7,if_pos (by omega)];done)
  |skip
 obtain⟨hr,h1,h2,h4⟩:=Hd (s:=s) (column:=column) (level:=level) (by omega) (by omega)
 rw[H7,if_neg (by omega)]
 have oG:=fun (lv:Int) (h:0≤lv∧lv≤level)=>VQ s column lv hr h1 h2 h.1 (by omega)
 obtain⟨n,rfl⟩:=Int.eq_ofNat_of_zero_le (show 0≤level by omega)
 rw[Int.toNat_natCast]
 generalize B4 s column=c at oG ⊢
 have h61:=Om hr column
 have hn61:n≤61:=by omega
 clear nu h4 h61
 refine B2 (ι:=Nat) (fun k=>⟨[(1,.i column),(2,.i k),(3,.ref 0 0)],1,[(0,some (.box (sL s)))]⟩) (fun k=>k≤n∧P7 s c n=P7 s c k) (fun k=>k) n ⟨Nat.le_refl _,rfl⟩ (A6 h0) (fun k hI=>?_)
 obtain⟨hk,hI⟩:=hI
 have oo:=fun (h:0<(k:Int))=>oG ((k:Int)-1) (by omega)
 have nt:=oG k (by omega)
 clear oG
 repeat'((first|refine A1 (oo (by assumption)) ?_|refine A1 nt ?_|(refine B8 ?_ ?_;kernel_rfl) |refine S2 ?_|(refine T6 ?_ ?_<;>intro h<;>try exact V1 h)|intro el nN nP|intro el nN|exact T4|refine T5 ?_ ?_|intro ex)<;>try conv=>whnf)
 all_goals first
  |exact⟨k-1,⟨by omega,by rw[hI,aa (by assumption) (by assumption)]⟩,by omega,A8 h0 rfl ⟨rfl,congrArg (fun z:Int=>some (AV.i z)) (by omega),rfl,trivial⟩ ⟨rfl,trivial⟩ rfl rfl rfl⟩
  |exact A0 rfl (congrArg (fun z:Nat=>AV.i (z:Int)) (by rw[hI,ab (by assumption) (by assumption)]))
  |(obtain rfl:k=0:=by omega
    exact A0 rfl (congrArg (fun z:Nat=>AV.i (z:Int)) (by rw[hI];rfl)))
def O9(s:A4)(c:D4)(level v:Int):Int:=if c.kind=2 then (if BG s c v=true then M6 (C1 s c).1 (C1 s c).2 v level else -1)else if v≠(-1099511627776)∧(v < -1000000∨1000000<v)then -1 else if level=0 then 0 else if v=(-1099511627776)then (-1099511627776)else C6 v (A9 c level)
def I0(s:A4)(column level v:Int):Int:=if level<0∨B9 s column<level then -1 else O9 s (B4 s column) level v
abbrev Sz(x:Int×Bool):AV:=.tup [.i x.1,.b x.2]
abbrev mn(x:Int×Int×Bool):AV:=.tup [.i x.1,.i x.2.1,.b x.2.2]
def N8(c:D4)(level v:Int):Int×Int×Bool :=
 if level=0 then (c.low,c.high,decide (v=0))else if v < -2000000∨1000000<v then (0,0,false)else (max v c.low,min (v+A9 c level-1) c.high,decide (C6 v (A9 c level)=v) && decide (max v c.low≤min (v+A9 c level-1) c.high))
theorem QI(c:D4)(level v:Int)(hc:meaE c=0)(h1:0≤level)(h2:level≤c.widths.length):A3 Tryz.prog 132 [W6 c,.i level,.i v] (mn (N8 c level v)):=by
 have hp:=l6 hc
 have qX:¬level=0→1≤A9 c level∧A9 c level≤1000000:=fun h=>v8 hp.2.2.2.2.2 (by omega) h2
 have sW:¬level=0→A3 Tryz.prog 156 [W6 c,.i level] (.i (A9 c level)):=fun h=>Hc c level (by omega) h2
 have qS:¬level=0→¬v < -2000000→¬1000000<v→A3 Tryz.prog 157 [.i v,.i (A9 c level)] (.i (C6 v (A9 c level))):=fun h h5 h6=>ED _ _ (qX h).1 (qX h).2 (by omega) (by omega)
 unfold N8
 generalize A9 c level=w at *
 refine C0 Tryz.func132 54 fun nQ E h0=>?_
 clear nQ
 repeat'((first|refine A1 (sW (by assumption)) ?_|refine A1 (qS (by assumption) (by assumption) (by assumption)) ?_|(refine J4 ?_ ?_;(have:=qX (by assumption);omega))|(refine B8 ?_ ?_;kernel_rfl) |refine S2 ?_|(refine T6 ?_ ?_<;>intro h<;>try exact V1 h)|intro el nN nP|intro el nN|exact T4|refine T5 ?_ ?_|intro ex)<;>try conv=>whnf)
 all_goals first
  |(refine HU (a:=.i _) (b:=.i _) (c:=.b _) rfl rfl rfl ?_;rw[if_pos (by assumption)];done)
  |(refine HU (a:=.i _) (b:=.i _) (c:=.b _) rfl rfl rfl ?_;rw[if_neg (by assumption),if_pos (by omega)];done)
  |(refine HU (a:=.i _) (b:=.i _) (c:=.b _) rfl rfl rfl ?_;rw[if_neg (by assumption),if_neg (by omega)]
    simp only[*,decide_true,decide_false,Bool.true_and,Bool.false_and,Bool.and_true];done)
  |(refine HU (a:=.i _) (b:=.i _) (c:=.b _) rfl rfl rfl ?_;rw[if_neg (by assumption),if_neg (by omega)];trace_state)
def Bm(c:D4)(fr v to:Int):Int×Bool :=
 if 0<fr∧v=(-1099511627776)then (if to=0 then (0,c.opt)else (v,c.opt))else
  if (N8 c fr v).2.2=false then (0,false)else if to=0 then (0,true)else if fr=0∧c.opt=true then (0,false)else
   (C6 (N8 c fr v).1 (A9 c to),decide (C6 (N8 c fr v).1 (A9 c to)=C6 (N8 c fr v).2.1 (A9 c to)))
theorem TA{c:D4}{level v:Int}(hc:meaE c=0)(h1:0≤level)(h2:level≤c.widths.length):-4000000≤(N8 c level v).1∧(N8 c level v).1≤4000000∧-4000000≤(N8 c level v).2.1∧(N8 c level v).2.1≤4000000:=by
 have hp:=l6 hc
 have qX:¬level=0→1≤A9 c level∧A9 c level≤1000000:=fun h=>v8 hp.2.2.2.2.2 (by omega) h2
 unfold N8
 split
 ·simp only;omega
 ·split
  ·simp only;omega
  ·have:=qX (by assumption)
   simp only
   omega
theorem YD(c:D4)(fr v to:Int)(hc:meaE c=0)(h1:0≤fr)(h2:fr≤c.widths.length)(h3:0≤to)(h4:to≤c.widths.length):A3 Tryz.prog 114 [W6 c,.i fr,.i v,.i to] (Sz (Bm c fr v to)):=by
 have hp:=l6 hc
 have uG:=QI c fr v hc h1 h2
 have hsb:=TA (v:=v) hc h1 h2
 have qX:¬to=0→1≤A9 c to∧A9 c to≤1000000:=fun h=>v8 hp.2.2.2.2.2 (by omega) h4
 have sW:¬to=0→A3 Tryz.prog 156 [W6 c,.i to] (.i (A9 c to)):=fun h=>Hc c to (by omega) h4
 have uL:¬to=0→A3 Tryz.prog 157 [.i (N8 c fr v).1,.i (A9 c to)] (.i (C6 (N8 c fr v).1 (A9 c to))):=fun h=>ED _ _ (qX h).1 (qX h).2 (by omega) (by omega)
 have ru:¬to=0→A3 Tryz.prog 157 [.i (N8 c fr v).2.1,.i (A9 c to)] (.i (C6 (N8 c fr v).2.1 (A9 c to))):=fun h=>ED _ _ (qX h).1 (qX h).2 (by omega) (by omega)
 unfold Bm
 generalize A9 c to=w at *
 generalize N8 c fr v=sp at *
 obtain⟨lo,hi,ok⟩:=sp
 dsimp only at uL ru uG ⊢
 refine C0 Tryz.func114 61 fun nQ E h0=>?_
 clear nQ
 repeat'((first|refine A1 uG ?_|refine A1 (sW (by assumption)) ?_|refine A1 (uL (by assumption)) ?_|refine A1 (ru (by assumption)) ?_|(refine B8 ?_ ?_;kernel_rfl) |refine S2 ?_|(refine T6 ?_ ?_<;>intro h<;>try exact V1 h)|intro el nN nP|intro el nN|exact T4|refine T5 ?_ ?_|intro ex)<;>try conv=>whnf)
 all_goals first
  |(refine T8 (a:=.i _) (b:=.b _) rfl rfl ?_;clear uL ru uG sW qX h0 E;first
     |(rw[if_pos (by omega),if_pos (by assumption)];done)
     |(rw[if_pos (by omega),if_neg (by assumption)];done)
     |(rw[if_neg (by omega),if_pos (by assumption)];done)
     |(have ho:ok=true:=by assumption
       subst ho
       rw[if_neg (by omega),if_neg (by decide)]
       first
        |(rw[if_pos (by assumption)];done)
        |(rw[if_neg (by assumption),if_pos ⟨by assumption,by assumption⟩];done)
        |(rw[if_neg (by assumption),if_neg (fun hx=>by first|exact absurd hx.1 (by assumption)|(have h9:=hx.2;simp[*]at h9))];done))
     |trace_state)
def Cp(nm:List UInt8)(cs:List Code)(fr v to:Int):List Nat→Int→Bool→Int×Bool
 |[],out,sm=>(out,sm)
 |leaf::r,out,sm=>if M6 nm cs leaf fr=v then (if sm=true∧M6 nm cs leaf to≠out then (0,false)else Cp nm cs fr v to r (M6 nm cs leaf to) true)else Cp nm cs fr v to r out sm
def Ej(nm:List UInt8)(cs:List Code)(fr v to:Int):Int×Bool:=Cp nm cs fr v to (H6 nm cs (C3 nm cs-1)) 0 false
theorem Cq(nm:List UInt8)(cs:List Code)(level:Int):(H6 nm cs level).length≤cs.length:=by
 unfold H6
 split
 ·exact Gr _ _ _
 ·simp
theorem YE(nm:List UInt8)(cs:List Code)(fr v to:Int):A3 Tryz.prog 113 [lA nm cs,.i fr,.i v,.i to] (Sz (Ej nm cs fr v to)):=by
 refine C0 Tryz.func113 45 fun nQ E h0=>?_
 have nO:cs.length≤9223372036854775807:=by
  have:=((nQ (lA nm cs) (by simp)).agg (.sl 2 (cs.map cA)) (by simp)).sl
  simpa using this
 clear nQ
 have tx:=l7 (nm:=nm) nO
 have oX:=Cq nm cs (C3 nm cs-1)
 unfold Ej
 have qG:=Dq nm cs nO
 have qB:=Gs nm cs (C3 nm cs-1) nO
 generalize hL:H6 nm cs (C3 nm cs-1)=L at qB oX ⊢
 repeat'((first|refine A1 qG ?_|refine A1 qB ?_|(refine B8 ?_ ?_;kernel_rfl) |refine S2 ?_|(refine T6 ?_ ?_<;>intro h<;>try exact V1 h)|intro el nN nP|intro el nN|exact T4|refine T5 ?_ ?_|intro ex)<;>try conv=>whnf)
 have rS:=fun (leaf:Nat) (lv:Int)=>KV nm cs leaf lv nO
 refine B2 (ι:=Nat×Int×Bool) (fun x=>⟨[(1,.i fr),(2,.i v),(3,.i to),(4,.ref 0 0),(10,.i x.2.1),(11,.b x.2.2),(19,.sl 1 (L.map iA)),(20,.i L.length),(21,.i x.1)],1,[(0,some (.box [.str nm,.sl 2 (cs.map cA)]))]⟩) (fun x=>x.1≤L.length∧Cp nm cs fr v to L 0 false=Cp nm cs fr v to (L.drop x.1) x.2.1 x.2.2) (fun x=>L.length-x.1) (0,0,false) ⟨Nat.zero_le _,rfl⟩ (A6 h0) (fun x hI=>?_)
 obtain⟨k,out,sm⟩:=x
 obtain⟨hk,hI⟩:=hI
 dsimp only at hk hI ⊢
 repeat'((first|refine A1 (rS _ _) ?_ |refine S2 ?_|(refine T6 ?_ ?_<;>intro h<;>try exact V1 h)|intro el nN nP|intro el nN|exact T4|refine T5 ?_ ?_|intro ex)<;>try conv=>whnf)
 all_goals first
  |exact⟨(k+1,out,sm),⟨by dsimp only;omega,by rw[hI,G6 nN,Cp,if_neg (by assumption)]⟩,by dsimp only;omega,A6 h0⟩
  |exact⟨(k+1,M6 nm cs el to,true),⟨by dsimp only;omega,by rw[hI,G6 nN,Cp,if_pos (Classical.byContradiction (by assumption)),if_neg (fun hx=>by first|exact absurd hx.2 (by assumption)|(have h9:=hx.1;simp[*]at h9))]⟩,by dsimp only;omega,A6 h0⟩
  |exact T8 (a:=.i _) (b:=.b _) rfl rfl (by rw[hI,G6 nN,Cp,if_pos (Classical.byContradiction (by assumption)),if_pos ⟨by assumption,by assumption⟩])
  |exact T8 (a:=.i _) (b:=.b _) rfl rfl (by rw[hI,W4 (by assumption)];rfl)
def Z0(s:A4)(column fr v to:Int):Int×Bool :=
 if fr<0∨F0 s column<fr∨to<0∨F0 s column<to then (0,false)else
  if (if (B4 s column).kind=2 then Ej (C1 s (B4 s column)).1 (C1 s (B4 s column)).2 fr v to else Bm (B4 s column) fr v to).2=true then ((if (B4 s column).kind=2 then Ej (C1 s (B4 s column)).1 (C1 s (B4 s column)).2 fr v to else Bm (B4 s column) fr v to).1,true)else (0,false)
theorem LL(s:A4)(column fr v to:Int)(hr:C5 s=0):A3 Tryz.prog 71 [sA s,.i column,.i fr,.i v,.i to] (Sz (Z0 s column fr v to)):=by
 have nu:=GV s column hr
 refine C0 Tryz.func71 67 fun nQ E h0=>?_
 clear nQ
 repeat'((first|refine A1 nu ?_ |refine S2 ?_|(refine T6 ?_ ?_<;>intro h<;>try exact V1 h)|intro el nN nP|intro el nN|exact T4|refine T5 ?_ ?_|intro ex)<;>try conv=>whnf)
 all_goals first
  |(refine T8 (a:=.i _) (b:=.b _) rfl rfl ?_;rw[Z0,if_pos (by omega)];done)
  |skip
 have hb:1≤column∧column<s.cols.length:=by
  have:0≤F0 s column:=by omega
  unfold F0 at this
  split at this<;>omega
 obtain⟨c,hc⟩:∃c,s.cols[column.toNat]?=some c:=⟨_,List.getElem?_eq_getElem (by omega)⟩
 have nh:=B7 hc
 have ow:=CR hr hb.1 hc
 have yG:F0 s column=N7 s c:=by rw[F0,if_neg (by omega),nh]
 rw[Z0,if_neg (by omega),nh]
 have hm:¬c.kind=2→A3 Tryz.prog 114 [W6 c,.i fr,.i v,.i to] (Sz (Bm c fr v to)):=by
  intro h5
  have h9:N7 s c=c.widths.length:=by unfold N7;rw[if_neg h5]
  have hk:=(BF ((F2 hr).2.2.2.1 _ c hc)).2.2.1
  exact YD c fr v to (EC hk (by omega)) (by omega) (by omega) (by omega) (by omega)
 have oq:c.kind=2→c.lst<s.lists.length∧0≤c.lst:=by omega
 clear nu yG ow nh
 have qZ:=fun l:CL=>YE l.1 l.2 fr v to
 generalize Bm c fr v to=xm at hm ⊢
 repeat'((first|(refine A2 (x:=c) hc (by omega) ?_)|refine A1 (hm (by assumption)) ?_|refine A1 (qZ _) ?_|(refine n9 ?_ ?_ (fun el nN=>?_);(have:=oq (by assumption);omega);(have:=oq (by assumption);omega)) |refine S2 ?_|(refine T6 ?_ ?_<;>intro h<;>try exact V1 h)|intro el nN nP|intro el nN|exact T4|refine T5 ?_ ?_|intro ex)<;>try conv=>whnf)
 all_goals first
  |(refine T8 (a:=.i _) (b:=.b _) rfl rfl ?_
    rw[if_pos (by assumption:c.kind=2),I7 nN]
    first
     |(rw[if_pos h];done)
     |(rw[if_neg (by rw[h];exact Bool.false_ne_true)];done))
  |(refine T8 (a:=.i _) (b:=.b _) rfl rfl ?_
    rw[if_neg (by assumption:¬c.kind=2)]
    first
     |(rw[if_pos h];done)
     |(rw[if_neg (by rw[h];exact Bool.false_ne_true)];done))
def YF(s:A4)(column fr v to:Int):Int×Bool:=if C5 s=0 then Z0 s column fr v to else (0,false)
structure Pk where
 col:Int
 lev:Int
deriving DecidableEq
abbrev B5(p:Pk):List AV:=[.i p.col,.i p.lev]
abbrev QJ(p:Pk):AV:=.agg (B5 p)
def l8(s:A4)(p:Pk):Int:=if F0 s p.col<0 then 7 else if p.lev<0∨F0 s p.col<p.lev then 8 else 0
theorem QK(s:A4)(p:Pk)(hr:C5 s=0):A3 Tryz.prog 99 [sA s,QJ p] (.i (l8 s p)):=by
 have nu:=GV s p.col hr
 refine C0 Tryz.func99 23 fun nQ E h0=>?_
 clear nQ
 repeat'((first|refine A1 nu ?_ |refine S2 ?_|(refine T6 ?_ ?_<;>intro h<;>try exact V1 h)|intro el nN nP|intro el nN|exact T4|refine T5 ?_ ?_|intro ex)<;>try conv=>whnf)
 all_goals first
  |(refine A0 rfl (congrArg AV.i ?_);rw[l8,if_pos (by assumption)];done)
  |(refine A0 rfl (congrArg AV.i ?_);rw[l8,if_neg (by assumption),if_pos (by omega)];done)
  |(refine A0 rfl (congrArg AV.i ?_);rw[l8,if_neg (by assumption),if_neg (by omega)];done)
def I4(s:A4)(p:Pk):Int:=if C5 s=0 then l8 s p else C5 s
theorem Ng(s:A4)(p:Pk):A3 Tryz.prog 138 [sA s,QJ p] (.i (I4 s p)):=by
 have qT:=fun hr=>QK s p hr
 refine C0 Tryz.func138 14 fun nQ E h0=>?_
 clear nQ
 repeat'((first|refine A1 (Y7 s) ?_|refine A1 (qT (Classical.byContradiction (by assumption))) ?_ |refine S2 ?_|(refine T6 ?_ ?_<;>intro h<;>try exact V1 h)|intro el nN nP|intro el nN|exact T4|refine T5 ?_ ?_|intro ex)<;>try conv=>whnf)
 all_goals first
  |(refine A0 rfl (congrArg AV.i ?_);rw[I4,if_neg (by assumption)];done)
  |(refine A0 rfl (congrArg AV.i ?_);rw[I4,if_pos (Classical.byContradiction (by assumption))];done)
def Cr(s:A4)(l:List Pk)(k:Nat)(p:Pk):Int:=if l8 s p=0 then (if 0<k∧p.col≤(l.getD (k-1) ⟨0,0⟩).col then 10 else 0)else l8 s p
theorem RX{s:A4}{l:List Pk}{k:Nat}{p:Pk}(h:¬l8 s p=0):Cr s l k p=l8 s p:=by rw[Cr,if_neg h]
theorem TB{l:List Pk}{k:Nat}{q:Pk}(h:0<(k:Int))(hq:l[((k:Int)-1).toNat]?=some q):l.getD (k-1) ⟨0,0⟩=q:=D3 (by rw[←hq];congr 1;omega)
theorem WU{s:A4}{l:List Pk}{k:Nat}{p q:Pk}(h:¬l8 s p≠0)(h0:0<(k:Int))(hq:l[((k:Int)-1).toNat]?=some q)(ob:p.col≤q.col):Cr s l k p=10:=by
 rw[Cr,if_pos (Classical.byContradiction h),TB h0 hq,if_pos ⟨by omega,ob⟩]
theorem ae{s:A4}{l:List Pk}{k:Nat}{p q:Pk}(h:¬l8 s p≠0)(h0:0<(k:Int))(hq:l[((k:Int)-1).toNat]?=some q)(ob:¬p.col≤q.col):Cr s l k p=0:=by
 rw[Cr,if_pos (Classical.byContradiction h),TB h0 hq,if_neg (fun hx=>ob hx.2)]
theorem gC{s:A4}{l:List Pk}{k:Nat}{p:Pk}(h:¬l8 s p≠0)(h0:¬0<(k:Int)):Cr s l k p=0:=by
 rw[Cr,if_pos (Classical.byContradiction h),if_neg (fun hx=>by omega)]
def K9(s:A4)(l:List Pk):Int:=if C5 s=0 then E8 (Cr s l) 0 l else C5 s
theorem YG(s:A4)(l:List Pk):A3 Tryz.prog 53 [sA s,.sl 2 (l.map B5)] (.i (K9 s l)):=by
 have qT:=fun p hr=>QK s p hr
 refine C0 Tryz.func53 41 fun nQ E h0=>?_
 have nO:l.length≤9223372036854775807:=by have:=(nQ (.sl 2 (l.map B5)) (by simp)).sl;simpa using this
 clear nQ
 repeat'((first|refine A1 (Y7 s) ?_ |refine S2 ?_|(refine T6 ?_ ?_<;>intro h<;>try exact V1 h)|intro el nN nP|intro el nN|exact T4|refine T5 ?_ ?_|intro ex)<;>try conv=>whnf)
 all_goals first
  |(refine A0 rfl (congrArg AV.i ?_);rw[K9,if_neg (by assumption)];done)
  |skip
 have hr:C5 s=0:=Classical.byContradiction (by assumption)
 rw[K9,if_pos hr]
 refine B2 (ι:=Nat) (fun k=>⟨[(1,.sl 2 (l.map B5)),(2,.ref 0 0),(14,.sl 2 (l.map B5)),(15,.i l.length),(16,.i k)],1,[(0,some (.box (sL s)))]⟩) (fun k=>F1 (Cr s l) l k) (fun k=>l.length-k) 0 (F1.zero _ _) (A6 h0) (fun k hI=>?_)
 have hk:=hI.1
 repeat'((first|refine A1 (qT _ hr) ?_|(refine B8 ?_ ?_;kernel_rfl) |refine S2 ?_|(refine T6 ?_ ?_<;>intro h<;>try exact V1 h)|intro el nN nP|intro el nN|exact T4|refine T5 ?_ ?_|intro ex)<;>try conv=>whnf)
 all_goals first
  |exact A0 rfl (congrArg AV.i (by rw[←hI.hit nN (by rw[RX h];exact h),RX h]))
  |exact A0 rfl (congrArg AV.i (by have e:=WU (by assumption) (by assumption) nN h;rw[←hI.hit (by assumption) (by rw[e];decide),e]))
  |exact⟨k+1,hI.step (by assumption) (ae (by assumption) (by assumption) nN h),by omega,A6 h0⟩
  |exact⟨k+1,hI.step nN (gC (by assumption) (by assumption)),by omega,A6 h0⟩
  |exact A0 rfl (congrArg AV.i (hI.done (by assumption)).symm)
end Go.Proofs.YtjkbhaaobhgkdabGreatDoor

/- Chapter 1: the reference's levels, ancestors, codes of a level. Chapter 1: the reference's ancestors, codes of a level, codes with a name. -/
import Derived.Test.YtiphlhoclaogjaaGreatDoorQB4
import Derived.Test.YtiphlhoclaogjaaGreatDoorQE3
import Derived.Test.YtiphlhoclaogjaaGreatDoorQCd1
import Derived.Test.YtiphlhoclaogjaaGreatDoorQCm1
set_option linter.unusedVariables false
set_option linter.unnecessarySimpa false
set_option linter.unusedSimpArgs false
set_option maxHeartbeats 64000000
namespace Go.Proofs.YtiphlhoclaogjaaGreatDoor
open Go Go.Av
attribute [local irreducible] C7 B1 D1 DQ D0 C6 St.le A3 B8
theorem DP{nm:List UInt8}{cs:List Code}{code:Int}:hasB nm cs code=true↔0≤code∧code<cs.length∧chk nm cs=0:=by
 simp[hasB,and_assoc]
theorem bE{nm:List UInt8}{cs:List Code}{code:Int}(h:¬(0≤code∧code<cs.length∧chk nm cs=0)):-1=S5 nm cs code:=by
 rw[S5,if_neg (fun h2=>h (DP.1 h2))]
theorem EZ{nm:List UInt8}{cs:List Code}{code:Int}(h:0≤code∧code<cs.length∧chk nm cs=0):(dep cs code.toNat:Int)=S5 nm cs code:=by
 rw[S5,if_pos (DP.2 h)];rfl
theorem LD(nm:List UInt8)(cs:List Code)(code:Int)(nZ:cs.length≤9223372036854775807):A3 Tryz.prog 84 [lA nm cs,.i code] (.i (S5 nm cs code)):=by
 refine C1 Tryz.func84 22 fun nd E h0=>?_
 repeat'((first|refine A1 (BF _ _ nZ) ?_|(refine B5 ?_ ?_;kernel_rfl) |refine S2 ?_|(refine T6 ?_ ?_<;>intro h<;>try exact V1 h)|intro el nX nY|intro el nX|exact T4|refine T5 ?_ ?_|intro ex)<;>try conv=>whnf)
 all_goals first
  |exact A0 rfl (congrArg AV.i (bE (by omega)))
  |skip
 have hg:=(I2 (nm:=nm) (cs:=cs) (by omega)).1
 obtain⟨c,rfl⟩:=Int.eq_ofNat_of_zero_le (show 0≤code by omega)
 rw[←EZ (by omega)]
 repeat'((first|refine A1 (Ah _ _ _ _ hg nZ (BH (j:=c) (by omega))) ?_ |refine S2 ?_|(refine T6 ?_ ?_<;>intro h<;>try exact V1 h)|intro el nX nY|intro el nX|exact T4|refine T5 ?_ ?_|intro ex)<;>try conv=>whnf)
 exact A0 rfl rfl
theorem Nb:∀(ps:List (Bool×Nat)) (l:Int),lv l ps=true→∀(i j:Nat) d e,ps[i]?=some (true,d)→ps[j]?=some (true,e)→d=e∧(0≤l→(d:Int)=l)
 |[],l,_,i,j,d,e,h,_=>by simp at h
 |(lf,x)::r,l,hl,i,j,d,e,hi,hj=>by
  unfold lv at hl
  cases lf with
  |false =>
   simp only[Bool.false_eq_true,if_false]at hl
   cases i with
   |zero=>simp at hi
   |succ i=>cases j with
    |zero=>simp at hj
    |succ j=>exact Nb r l hl i j d e (by simpa using hi) (by simpa using hj)
  |true =>
   simp only[if_true]at hl
   split at hl
   ·cases hl
   ·rename_i hx
    have first:∀(k:Nat) y,((true,x)::r)[k]?=some (true,y)→(y:Int)=x:=by
     intro k y hk
     cases k with
     |zero=>simp at hk;omega
     |succ k =>
      have oT:r[k]?=some (true,y):=by simpa using hk
      exact(Nb r x hl k k y y oT oT).2 (by omega)
    have h1:=first i d hi
    have h2:=first j e hj
    exact⟨by omega,fun h0=>by omega⟩
theorem Wd{nm:List UInt8}{cs:List Code}(h:chk nm cs=0):lv (-1) (p0 cs)=true:=by
 unfold chk at h
 split at h
 ·cases h
 ·split at h
  ·cases h
  ·split at h
   ·cases h
   ·cases hs:scan [] cs with
    |some e =>
     rw[hs]at h
     have:∀(cs pre:List Code) e,scan pre cs=some e→e=3∨e=10∨e=6:=by
      intro cs
      induction cs with
      |nil=>intro pre e h;cases h
      |cons a r ih =>
       intro pre e h
       simp only[scan]at h
       split at h
       ·cases h;exact .inl rfl
       ·split at h
        ·cases h;exact .inr (.inl rfl)
        ·split at h
         ·cases h;exact .inr (.inr rfl)
         ·exact ih _ _ h
     have:=this _ _ _ hs
     simp only at h
     omega
    |none =>
     rw[hs]at h
     simp only at h
     split at h
     ·assumption
     ·cases h
theorem QI{cs:List Code}{c:Int}:Y6 cs c=true↔∀x∈cs,x.parent≠c:=by
 simp[Y6,List.all_eq_true]
theorem bF{cs:List Code}(hg:Good cs)(hn:0<cs.length):Y6 cs (cs.length-1:Nat)=true:=by
 rw[QI]
 intro x hx
 obtain⟨i,hi,rfl⟩:=List.getElem_of_mem hx
 rcases Nat.eq_zero_or_pos i with e|e
 ·subst e
  have:=hg.root _ (List.getElem?_eq_getElem hi)
  omega
 ·have:=hg.before i _ (List.getElem?_eq_getElem hi) e
  omega
theorem JN:∀(ds:List Nat) (a:Nat),(∃d∈a::ds,ds.foldl max a=d)∧∀d∈a::ds,d≤ds.foldl max a
 |[],a=>⟨⟨a,by simp,rfl⟩,fun d hd=>by simp at hd;subst hd;exact Nat.le_refl _⟩
 |x::r,a=>by
  obtain⟨⟨d,hd,he⟩,oU⟩:=JN r (max a x)
  refine⟨⟨d,?_,he⟩,fun y hy=>?_⟩
  ·rcases List.mem_cons.1 hd with h|h
   ·rcases Nat.le_total a x with h2|h2
    ·rw[Nat.max_eq_right h2]at h;simp[h]
    ·rw[Nat.max_eq_left h2]at h;simp[h]
   ·simp[h]
  ·have h1:=oU (max a x) (by simp)
   rcases List.mem_cons.1 hy with h|h
   ·subst h;show _≤List.foldl max (max y x) r;omega
   ·rcases List.mem_cons.1 h with h|h
    ·subst h;show _≤List.foldl max (max a y) r;omega
    ·exact oU y (by simp[h])
theorem iT{ds:List Nat}{i d:Nat}(h:ds[i]?=some d):d≤Au ds:=(JN ds 0).2 d (by simp[List.mem_of_getElem? h])
theorem We{ds:List Nat}(h:0<ds.length):∃i:Nat,ds[i]?=some (Au ds):=by
 obtain⟨⟨d,hd,he⟩,oU⟩:=JN ds 0
 have he:Au ds=d:=he
 rw[he]
 rcases List.mem_cons.1 hd with h2|h2
 ·subst h2
  refine⟨0,?_⟩
  have:=oU ds[0] (by simp)
  have h3:ds.foldl max 0=0:=he
  rw[List.getElem?_eq_getElem h]
  congr 1;omega
 ·obtain⟨i,hi,hh⟩:=List.getElem_of_mem h2
  exact⟨i,by rw[List.getElem?_eq_getElem hi,hh]⟩
theorem JO{cs:List Code}(hg:Good cs){i:Nat}(hi:i<cs.length)(hd:dep cs i=Au (N8 cs)):Y6 cs i=true:=by
 rw[QI]
 intro x hx e
 obtain⟨k,hk,rfl⟩:=List.getElem_of_mem hx
 have rE:0<k:=by
  rcases Nat.eq_zero_or_pos k with e2|e2
  ·subst e2
   have:=hg.root _ (List.getElem?_eq_getElem hk)
   omega
  ·exact e2
 obtain⟨h1,h2,h3⟩:=Og hg.before (List.getElem?_eq_getElem hk) rE
 have:par cs k=i:=by omega
 rw[this]at h1
 have:=iT (BH hk)
 omega
theorem bG{nm:List UInt8}{cs:List Code}(h:chk nm cs=0){i:Nat}(hi:i<cs.length)(hl:Y6 cs i=true):dep cs i=Au (N8 cs):=by
 obtain⟨hg,hn,_⟩:=I2 h
 obtain⟨m,hm⟩:=We (ds:=N8 cs) (by rw[H5];exact hn)
 have sM:m<cs.length:=by rw[←H5 cs];exact(List.getElem?_eq_some_iff.1 hm).1
 have uK:=Bx hm
 have yS:=JO hg sM uK
 have p1:=Be (BH hi)
 have p2:=Be (BH sM)
 rw[hl]at p1
 rw[yS]at p2
 rw[←uK]
 exact(Nb _ _ (Wd h) _ _ _ _ p1 p2).1
theorem eK{nm:List UInt8}{cs:List Code}(h:chk nm cs=0):dep cs (cs.length-1)=Au (N8 cs):=by
 obtain⟨hg,hn,_⟩:=I2 h
 exact bG h (by omega) (bF hg hn)
theorem FL(nm:List UInt8)(cs:List Code)(nZ:cs.length≤9223372036854775807):A3 Tryz.prog 80 [lA nm cs] (.i (C4 nm cs)):=by
 refine C1 Tryz.func80 13 fun nd E h0=>?_
 repeat'((first|refine A1 (BF _ _ nZ) ?_ |refine S2 ?_|(refine T6 ?_ ?_<;>intro h<;>try exact V1 h)|intro el nX nY|intro el nX|exact T4|refine T5 ?_ ?_|intro ex)<;>try conv=>whnf)
 ·exact A0 rfl (congrArg AV.i (by rw[C4,if_neg h]))
 have hc:chk nm cs=0:=by omega
 have yk:=BG hc
 obtain⟨hg,hn,_⟩:=I2 hc
 have hd:=Lo hg.before
 have hl:=eK hc
 have e:((cs.length:Int)-1)=((cs.length-1:Nat):Int):=by omega
 repeat'((first|refine A1 (args:=[lA nm cs,.i ((cs.length:Int)-1)]) (by rw[e];exact Ah _ _ _ _ hg nZ (BH (j:=cs.length-1) (by omega))) ?_ |refine S2 ?_|(refine T6 ?_ ?_<;>intro h<;>try exact V1 h)|intro el nX nY|intro el nX|exact T4|refine T5 ?_ ?_|intro ex)<;>try conv=>whnf)
 exact A0 rfl (congrArg AV.i (by rw[C4,if_pos hc,hl]))
theorem kw{nm:List UInt8}{cs:List Code}{code level:Int}(h:¬(0≤code∧code<cs.length∧chk nm cs=0∧0≤level∧level≤dep cs code.toNat)):-1=N3 nm cs code level:=by
 rw[N3,if_neg (fun h2=>h (by have:=DP.1 h2.1;omega))]
theorem Wf{nm:List UInt8}{cs:List Code}{c:Nat}{level:Int}(h:c<cs.length∧chk nm cs=0∧0≤level∧level≤dep cs c):(QB cs c (dep cs c-level.toNat):Int)=N3 nm cs c level:=by
 rw[N3,if_pos ⟨DP.2 ⟨by omega,by omega,h.2.1⟩,h.2.2.1,by rw[Int.toNat_natCast];exact h.2.2.2⟩,Int.toNat_natCast]
theorem TM(nm:List UInt8)(cs:List Code)(code level:Int)(nZ:cs.length≤9223372036854775807):A3 Tryz.prog 85 [lA nm cs,.i code,.i level] (.i (N3 nm cs code level)):=by
 refine C1 Tryz.func85 44 fun nd E h0=>?_
 repeat'((first|refine A1 (BF _ _ nZ) ?_|(refine B5 ?_ ?_;kernel_rfl)|refine A1 (args:=[lA nm cs,.i code]) (by rw[show code=((code.toNat:Nat):Int) by omega];exact Ah _ _ _ _ (I2 (nm:=nm) (cs:=cs) (by omega)).1 nZ (BH (j:=code.toNat) (by omega))) ?_ |refine S2 ?_|(refine T6 ?_ ?_<;>intro h<;>try exact V1 h)|intro el nX nY|intro el nX|exact T4|refine T5 ?_ ?_|intro ex)<;>try conv=>whnf)
 all_goals first
  |exact A0 rfl (congrArg AV.i (kw (by omega)))
  |skip
 have hc:chk nm cs=0:=by omega
 have yk:=BG hc
 obtain⟨c0,rfl⟩:=Int.eq_ofNat_of_zero_le (show 0≤code by omega)
 have hg:=(I2 hc).1
 have hb:=hg.before
 have qW:(level:Int)≤dep cs c0:=by
  simp only[Int.toNat_natCast]at *
  omega
 rw[←Wf (c:=c0) (by omega)]
 have qd:0≤level:=by omega
 have nz:c0<cs.length:=by omega
 refine B2 (ι:=Nat) (fun c=>⟨[(1,.i c),(2,.i level),(3,.ref 0 0)],1,[(0,some (.box [.str nm,.sl 2 (cs.map cA)]))]⟩)
  (fun c=>c<cs.length∧level≤dep cs c∧QB cs c0 (dep cs c0-level.toNat)=QB cs c (dep cs c-level.toNat)) (fun c=>c) c0 ⟨nz,qW,rfl⟩ (A6 h0) (fun c hI=>?_)
 obtain⟨h1,h2,h3⟩:=hI
 repeat'((first|refine A1 (Ah _ _ _ _ hg nZ (BH (j:=c) (by omega))) ?_ |refine S2 ?_|(refine T6 ?_ ?_<;>intro h<;>try exact V1 h)|intro el nX nY|intro el nX|exact T4|refine T5 ?_ ?_|intro ex)<;>try conv=>whnf)
 ·have vo:0<c:=by
   rcases Nat.eq_zero_or_pos c with e|e
   ·subst e;rw[Sw hb nX]at *;omega
   ·exact e
  obtain⟨e1,e2,e3⟩:=Og hb nX vo
  have e4:dep cs c-level.toNat=(dep cs (par cs c)-level.toNat)+1:=by omega
  exact⟨par cs c,⟨by omega,by omega,by rw[h3,e4];rfl⟩,e2,B3 h0 rfl ⟨congrArg (fun z:Int=>some (AV.i z)) e3.symm,rfl,rfl,trivial⟩ ⟨rfl,trivial⟩ rfl rfl rfl⟩
 ·refine A0 rfl (congrArg AV.i ?_)
  rw[h3,show dep cs c-level.toNat=0 by omega]
  rfl
theorem CC{nm:List UInt8}{cs:List Code}{code:Int}:S5 nm cs code=if hasB nm cs code=true then (dep cs code.toNat:Int)else -1:=rfl
theorem iU{nm:List UInt8}{cs:List Code}{code nw:Int}(h:¬(0≤S5 nm cs nw)):false=M6 nm cs code nw:=by
 have:hasB nm cs nw=false:=by
  rw[CC]at h
  split at h
  ·omega
  ·rename_i h2;simpa using h2
 simp[M6,this]
theorem iV{nm:List UInt8}{cs:List Code}{code nw:Int}(h:0≤S5 nm cs nw)(h2:¬S5 nm cs nw≤S5 nm cs code):false=M6 nm cs code nw:=by
 rw[CC,CC]at *
 by_cases ha:hasB nm cs nw=true
 ·rw[if_pos ha]at h h2
  by_cases hc:hasB nm cs code=true
  ·rw[if_pos hc]at h2
   have:N3 nm cs code (dep cs nw.toNat)=-1:=by rw[N3,if_neg (by omega)]
   have wP:=DP.1 ha
   simp only[M6,ha,hc,this,Bool.true_and]
   exact(decide_eq_false (by omega)).symm
  ·have:hasB nm cs code=false:=by simpa using hc
   simp[M6,this]
 ·rw[if_neg ha]at h;omega
theorem iW{nm:List UInt8}{cs:List Code}{code nw:Int}(h:0≤S5 nm cs nw)(h2:S5 nm cs nw≤S5 nm cs code):decide (N3 nm cs code (S5 nm cs nw)=nw)=M6 nm cs code nw:=by
 rw[CC]at h
 by_cases ha:hasB nm cs nw=true
 ·have e:S5 nm cs nw=dep cs nw.toNat:=by rw[CC,if_pos ha]
  rw[e]at h2
  rw[CC]at h2
  by_cases hc:hasB nm cs code=true
  ·simp only[M6,ha,hc,e,Bool.true_and]
  ·rw[if_neg hc]at h2;omega
 ·rw[if_neg ha]at h;omega
-- IF dataenclave/dataenclaveref01.Under
theorem LE(nm:List UInt8)(cs:List Code)(code nw:Int)(nZ:cs.length≤9223372036854775807):A3 Tryz.prog 34 [lA nm cs,.i code,.i nw] (.b (M6 nm cs code nw)):=by
 refine C1 Tryz.func34 28 fun nd E h0=>?_
 repeat'((first|refine A1 (LD _ _ _ nZ) ?_|refine A1 (TM _ _ _ _ nZ) ?_|(refine B5 ?_ ?_;kernel_rfl) |refine S2 ?_|(refine T6 ?_ ?_<;>intro h<;>try exact V1 h)|intro el nX nY|intro el nX|exact T4|refine T5 ?_ ?_|intro ex)<;>try conv=>whnf)
 all_goals first
  |exact A0 rfl (congrArg AV.b (iU (by assumption)))
  |exact A0 rfl (congrArg AV.b (iV (by assumption) (by assumption)))
  |exact A0 rfl (congrArg AV.b (iW (by assumption) (by assumption)))
theorem eL(nm:List UInt8)(cs:List Code)(level:Int)(nZ:cs.length≤9223372036854775807):A3 Tryz.prog 30 [lA nm cs,.i level] (.sl 1 ((I5 nm cs level).map iA)):=by
 refine C1 Tryz.func30 27 fun nd E h0=>?_
 repeat'((first|refine A1 (BF _ _ nZ) ?_ |refine S2 ?_|(refine T6 ?_ ?_<;>intro h<;>try exact V1 h)|intro el nX nY|intro el nX|exact T4|refine T5 ?_ ?_|intro ex)<;>try conv=>whnf)
 case refine_1=>exact x9 (sz:=1) rfl (by rw[I5,if_neg h];rfl)
 have hc:chk nm cs=0:=by omega
 have yk:=BG hc
 have hg:=(I2 hc).1
 rw[I5,if_pos hc]
 refine B2 (ι:=Nat) (fun k=>⟨[(1,.i level),(2,.ref 0 0),(5,.row 1 0 (FH cs level k).length),(6,.i k)],2,[(0,some (.box [.str nm,.sl 2 (cs.map cA)])),(1,some (.row 3 1 0 ((FH cs level k).map iA)))]⟩) (fun k=>k≤cs.length) (fun k=>cs.length-k) 0 (Nat.zero_le _) (C2 (K7 (d:=5) (e:=3) (sz:=1) rfl) (B3 h0 rfl ⟨rfl,rfl,rfl,rfl,trivial⟩ ⟨rfl,⟨0,rfl⟩,trivial⟩ rfl rfl rfl)) (fun k hI=>?_)
 have tA:=JJ cs level k
 repeat'((first|refine A1 (Ah _ _ _ _ hg nZ (BH (j:=k) (by omega))) ?_ |refine S2 ?_|(refine T6 ?_ ?_<;>intro h<;>try exact V1 h)|intro el nX nY|intro el nX|exact T4|refine T5 ?_ ?_|intro ex)<;>try conv=>whnf)
 ·refine⟨k+1,?_,?_,B3 h0 rfl ⟨rfl,rfl,congrArg (fun z=>some (AV.row 1 0 z)) ?_,rfl,trivial⟩ ⟨rfl,⟨0,congrArg (D3.row 3 1 0) ?_⟩,trivial⟩ rfl rfl rfl⟩
  ·omega
  ·omega
  ·rw[KJ h,List.length_append];rfl
  ·rw[KJ h,List.map_append];rfl
 ·refine⟨k+1,?_,?_,B3 h0 rfl ⟨rfl,rfl,congrArg (fun z=>some (AV.row 1 0 z)) ?_,rfl,trivial⟩ ⟨rfl,⟨0,congrArg (D3.row 3 1 0) ?_⟩,trivial⟩ rfl rfl rfl⟩
  ·omega
  ·omega
  ·rw[NS h]
  ·rw[NS h]
 ·apply A0
  ·rfl
  ·rw[show cs.length=k by omega]
   rfl
end Go.Proofs.YtiphlhoclaogjaaGreatDoor
namespace Go.Proofs.YtiphlhoclaogjaaGreatDoor
open Go Go.Av
attribute [local irreducible] C7 B1 D1 C8 DQ D0 C6 St.le A3 B8
set_option maxRecDepth 100000
theorem Hc{nm:List UInt8}{cs:List Code}(h:chk nm cs=0){v:Nat}(hv:v<cs.length):S5 nm cs v=C4 nm cs-1↔Y6 cs v=true:=by
 have hg:=(I2 h).1
 have hn:=(I2 h).2.1
 have e1:S5 nm cs v=dep cs v:=(EZ (nm:=nm) (cs:=cs) (code:=v) ⟨by omega,by omega,h⟩).symm
 have e2:C4 nm cs=Au (N8 cs)+1:=by rw[C4,if_pos h]
 rw[e1,e2]
 obtain⟨i,hi⟩:=We (ds:=N8 cs) (by rw[H5];exact hn)
 have sy:i<cs.length:=by rw[←H5 cs];exact D4 hi
 have hdi:=Bx hi
 have uL:=JO hg sy hdi
 constructor
 ·intro e
  exact JO hg hv (by omega)
 ·intro hl
  have hp1:(p0 cs)[i]?=some (true,Au (N8 cs)):=by rw[Be hi,uL]
  have hp2:(p0 cs)[v]?=some (true,dep cs v):=by rw[Be (BH hv),hl]
  have:=(Nb _ _ (Wd h) v i _ _ hp2 hp1).1
  omega
def H4(s:A4)(column:Int):List Nat:=I5 (B9 s (B4 s column)).1 (B9 s (B4 s column)).2 (C4 (B9 s (B4 s column)).1 (B9 s (B4 s column)).2-1)
theorem De(s:A4)(column:Int){c:D6}(qt:0≤column)(hc:s.cols[column.toNat]?=some c)(hl:0≤c.lst∧c.lst<s.lists.length):A3 Tryz.prog 138 [sA s,.i column] (.sl 1 ((H4 s column).map iA)):=by
 refine C1 Tryz.func138 21 fun nd E h0=>?_
 obtain⟨pH,oM,pT⟩:=Z7 (s:=s) (nd _ (by simp))
 clear nd
 obtain⟨l,ov⟩:∃l,s.lists[c.lst.toNat]?=some l:=⟨_,List.getElem?_eq_getElem (by omega)⟩
 have sO:=pT l (List.mem_of_getElem? ov)
 have uO:=m5 (nm:=l.1) sO
 have qR:=FL l.1 l.2 sO
 have qo:=eL l.1 l.2 (C4 l.1 l.2-1) sO
 have e:H4 s column=I5 l.1 l.2 (C4 l.1 l.2-1):=by rw[H4,C0 hc,I3 ov]
 rw[e]
 repeat'((first|refine S2 ?_|(refine T6 ?_ ?_<;>intro h<;>try exact V1 h)|intro el nX nY|intro el nX|exact T4|refine T5 ?_ ?_|intro ex)<;>try conv=>whnf)
 refine JF ⟨[(2,.ref 0 0),(1,.i column),(5,.ref 1 0)],2,[(0,some (.box (sL s))),(1,some (.box (x4 l)))]⟩ ?_ ?_
 ·repeat'((first|(refine A2 (x:=c) hc (by omega) ?_)|(refine A2 (x:=l) ov (by omega) ?_) |refine S2 ?_|(refine T6 ?_ ?_<;>intro h<;>try exact V1 h)|intro el nX nY|intro el nX|exact T4|refine T5 ?_ ?_|intro ex)<;>try conv=>whnf)
  all_goals first|exact A6 h0|trace_state
 repeat'((first|refine A1 qR ?_|refine A1 qo ?_|(refine B5 ?_ ?_;kernel_rfl) |refine S2 ?_|(refine T6 ?_ ?_<;>intro h<;>try exact V1 h)|intro el nX nY|intro el nX|exact T4|refine T5 ?_ ?_|intro ex)<;>try conv=>whnf)
 all_goals exact A0 rfl rfl
theorem On{nm:List UInt8}{cs:List Code}{level:Int}{x:Nat}(h:x∈I5 nm cs level):chk nm cs=0∧x<cs.length∧(dep cs x:Int)=level:=by
 unfold I5 at h
 split at h
 ·rename_i hk
  simp only[FH,List.mem_filter,List.mem_range,decide_eq_true_eq]at h
  exact⟨hk,h.1,h.2⟩
 ·cases h
theorem Oo{s:A4}(hr:C5 s=0){column:Int}(h1:1≤column)(h2:column<s.cols.length):0≤F2 s column:=by
 have hc:s.cols[column.toNat]?=some s.cols[column.toNat]:=List.getElem?_eq_getElem (by omega)
 have pQ:=AQ hr h1 hc
 rw[F2,if_neg (by omega),C0 hc]
 generalize s.cols[column.toNat]=c at pQ
 unfold N0
 rcases pQ with pQ|pQ
 ·rw[if_pos pQ.1]
  have hl:s.lists[c.lst.toNat]?=some (s.lists[c.lst.toNat]'(by omega)):=List.getElem?_eq_getElem (by omega)
  have hk:=(E9 hr).2.2.1 _ (List.mem_of_getElem? hl)
  rw[I3 hl,C4,if_pos hk]
  omega
 ·rw[if_neg (by omega)];omega
theorem JP{v w:Int}(hw:1≤w):v.tmod w=0↔C9 v w=v:=by
 have:=Bz v hw
 have:=KK v hw
 unfold C9
 omega
def Cf(f g:Nat→Int)(L:List Nat):Prop:=∀x∈L,∀y∈L,f x=f y→g x=g y
instance (f g:Nat→Int)(L:List Nat):Decidable (Cf f g L):=by unfold Cf;infer_instance
theorem QJ(m:List (Key×AV))(k:Key)(v:AV)(k':Key):m8 (b8 m k v) k'=if k=k' then some v else m8 m k':=by
 induction m with
 |nil=>unfold b8 m8;by_cases e:k=k'<;>simp[e]
 |cons p r ih =>
  obtain⟨a,b⟩:=p
  unfold b8
  by_cases e:a=k
  ·rw[if_pos e]
   subst e
   unfold m8
   by_cases e2:a=k'<;>simp[e2]
  ·rw[if_neg e]
   unfold m8 at ih ⊢
   by_cases e2:a=k'
   ·have:¬k=k':=fun h=>e (e2.trans h.symm)
    simp[e2,this]
   ·simp only[List.find?_cons,e2,decide_false]
    exact ih
theorem JQ{t:TypeDesc}{k:Key}{v:AV}(hk:DY t k=true):∀{m:List (Key×AV)},r8 t m→r8 t (b8 m k v)
 |[],_=>fun p hp=>by
  unfold b8 at hp
  rw[List.mem_singleton]at hp
  rw[hp];exact hk
 |(a,b)::r,hm=>fun p hp=>by
  unfold b8 at hp
  split at hp
  ·rename_i e
   rcases List.mem_cons.1 hp with rfl|hp
   ·exact hm (a,b) (by simp)
   ·exact hm p (by simp[hp])
  ·rcases List.mem_cons.1 hp with rfl|hp
   ·exact hm (a,b) (by simp)
   ·exact JQ hk (m:=r) (fun q hq=>hm q (by simp[hq])) p hp
def Ak(f g:Nat→Int)(l:List Nat):Nat→List (Key×AV)
 |0=>[]
 |k+1=>match l[k]? with
  |some x=>b8 (Ak f g l k) (.i .i64 (f x)) (.i (g x))
  |none=>Ak f g l k
theorem Hd{f g:Nat→Int}{l:List Nat}{k x:Nat}(h:l[k]?=some x):Ak f g l (k+1)=b8 (Ak f g l k) (.i .i64 (f x)) (.i (g x)):=by
 rw[Ak,h]
theorem He(f g:Nat→Int)(l:List Nat):∀k,r8 (.int .i64) (Ak f g l k)
 |0=>fun p hp=>by cases hp
 |k+1=>by
  unfold Ak
  cases l[k]? with
  |none=>exact He f g l k
  |some x=>exact JQ (by rfl) (He f g l k)
def Hf(f:Nat→Int)(l:List Nat)(k:Nat)(b:Int):Option Nat:=(l.take k).reverse.find? fun x=>decide (f x=b)
def Ea(f:Nat→Int)(l:List Nat)(k:Nat)(b:Int):Bool:=(Hf f l k b).isSome
def KP(f g:Nat→Int)(l:List Nat)(k:Nat)(b:Int):Int:=((Hf f l k b).map g).getD 0
theorem QK(f g:Nat→Int)(l:List Nat)(b:Int):∀k,m8 (Ak f g l k) (.i .i64 b)=(Hf f l k b).map fun x=>.i (g x)
 |0=>by simp[Ak,m8,Hf]
 |k+1=>by
  have ih:=QK f g l b k
  unfold Hf at ih ⊢
  cases h:l[k]? with
  |none =>
   rw[Ak,h,List.take_add_one,h]
   simpa using ih
  |some x =>
   rw[Hd h,I0 h,List.reverse_append,QJ]
   simp only[List.reverse_cons,List.reverse_nil,List.nil_append,List.cons_append,List.find?_cons,Key.i.injEq,true_and]
   by_cases e:f x=b
   ·simp[e]
   ·simp only[e,if_false,decide_false]
    exact ih
theorem iX(f g:Nat→Int)(l:List Nat)(k:Nat)(b:Int):AV.tup [u6 (Ak f g l k) (.i .i64 b) (d9 (.int .i64 0)),.b (m8 (Ak f g l k) (.i .i64 b)).isSome]=.tup [.i (KP f g l k b),.b (Ea f l k b)]:=by
 unfold u6 KP Ea
 rw[QK]
 cases Hf f l k b<;>rfl
theorem iY{f:Nat→Int}{l:List Nat}{k:Nat}{b:Int}(h:Ea f l k b=false):∀x∈l.take k,f x≠b:=by
 intro x hx e
 unfold Ea Hf at h
 rw[Option.isSome_eq_false_iff,Option.isNone_iff_eq_none,List.find?_eq_none]at h
 exact h x (List.mem_reverse.2 hx) (by simp[e])
theorem TN{f g:Nat→Int}{l:List Nat}{k:Nat}{b:Int}(h:Ea f l k b=true):∃x∈l.take k,f x=b∧KP f g l k b=g x:=by
 unfold Ea at h
 unfold KP
 obtain⟨x,hx⟩:=Option.isSome_iff_exists.1 h
 refine⟨x,?_,?_,by rw[hx];rfl⟩
 ·exact List.mem_reverse.1 (List.mem_of_find?_eq_some hx)
 ·simpa using List.find?_some hx
theorem Cf.step{f g:Nat→Int}{l:List Nat}{k x:Nat}(h:Cf f g (l.take k))(hx:l[k]?=some x)(hs:Ea f l k (f x)=true→KP f g l k (f x)=g x):Cf f g (l.take (k+1)):=by
 have key:∀y∈l.take k,f y=f x→g y=g x:=by
  intro y hy e
  cases hb:Ea f l k (f x)with
  |false=>exact absurd e (iY hb y hy)
  |true =>
   obtain⟨z,hz,e1,e2⟩:=TN (g:=g) hb
   rw[hs hb]at e2
   rw[e2]
   exact h y hy z hz (e.trans e1.symm)
 rw[I0 hx]
 intro a ha b hb e
 rcases List.mem_append.1 ha with h1|h1<;>rcases List.mem_append.1 hb with h2|h2
 ·exact h a h1 b h2 e
 ·rw[List.mem_singleton]at h2;rw[h2]at e ⊢;exact key a h1 e
 ·rw[List.mem_singleton]at h1;rw[h1]at e ⊢;exact(key b h2 e.symm).symm
 ·rw[List.mem_singleton]at h1 h2;rw[h1,h2]
theorem Cf.not{f g:Nat→Int}{l:List Nat}{k x:Nat}(hx:l[k]?=some x)(hs:Ea f l k (f x)=true)(hv:KP f g l k (f x)≠g x):¬Cf f g l:=by
 intro h
 obtain⟨z,hz,e1,e2⟩:=TN (g:=g) hs
 rw[e2]at hv
 exact hv (h z (List.mem_of_mem_take hz) x (List.mem_of_getElem? hx) e1)
def GK(a:B0)(x:D6)(level:Int):Prop :=
 if level=0 then x.opt=false∧¬(x.low<a.lo∧a.lo≤x.high)∧¬(x.low≤a.hi∧a.hi<x.high)
 else ((x.low<a.lo∧a.lo≤x.high)→a.lo.tmod (A9 x level)=0)∧((x.low≤a.hi∧a.hi<x.high)→(a.hi+1).tmod (A9 x level)=0)
instance (a:B0)(x:D6)(level:Int):Decidable (GK a x level):=by unfold GK;infer_instance
def a5(s:A4)(a:B0)(level:Int):Bool :=
 if a.op=2 then decide (Cf (fun x=>N3 (B9 s (B4 s a.col)).1 (B9 s (B4 s a.col)).2 x level) (fun x=>Q9 s a x) (H4 s a.col))
 else if a.op=4 then decide (0<level)else decide (GK a (B4 s a.col) level)
theorem QL{s:A4}{a:B0}{level:Int}{x:D6}{lx:CL}(h2:a.op=2)(hx:s.cols[a.col.toNat]?=some x)(hl:s.lists[x.lst.toNat]?=some lx):a5 s a level=decide (Cf (fun v=>N3 lx.1 lx.2 v level) (fun v=>Q9 s a v) (I5 lx.1 lx.2 (C4 lx.1 lx.2-1))):=by
 unfold a5 H4
 rw[if_pos h2,C0 hx,I3 hl]
theorem Lp{s:A4}{a:B0}{level:Int}(h4:a.op=4):a5 s a level=decide (0<level):=by
 unfold a5
 rw[if_neg (by omega),if_pos h4]
theorem Lq{s:A4}{a:B0}{level:Int}{x:D6}(h3:a.op=3)(hx:s.cols[a.col.toNat]?=some x):a5 s a level=decide (GK a x level):=by
 unfold a5
 rw[if_neg (by omega),if_neg (by omega),C0 hx]
end Go.Proofs.YtiphlhoclaogjaaGreatDoor

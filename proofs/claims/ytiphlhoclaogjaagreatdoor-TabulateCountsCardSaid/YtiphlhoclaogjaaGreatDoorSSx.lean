/- Chapter 5: right conditions in parts, truth values out of those of their parts. -/
import Derived.Test.YtiphlhoclaogjaaGreatDoorSC1
import Derived.Test.YtiphlhoclaogjaaGreatDoorSB4
import Derived.Test.YtiphlhoclaogjaaGreatDoorSE3
import Derived.Test.YtiphlhoclaogjaaGreatDoorSB8
set_option linter.unusedVariables false
set_option linter.unnecessarySimpa false
set_option linter.unusedSimpArgs false
set_option maxHeartbeats 64000000
namespace Go.Proofs.YtiphlhoclaogjaaGreatDoor
open Go Go.Av
attribute [local irreducible] C7 B2 D3 C9 DQ D0 C8 St.le A3 B9
set_option maxRecDepth 100000
theorem AJ{s:A4}{c:B1}(h:H9 s c=0):(1≤c.op∧c.op≤7)∧(c.kids.length:Int)=p9 c.op∧(c.op=2∨c.op=3∨c.op=4→0≤c.col∧c.col<s.cols.length)∧(c.op=2→(C0 s c.col).kind=2∧0≤c.code∧c.code<(C2 s (C0 s c.col)).2.length)∧(c.op=3→(C0 s c.col).kind=3∧c.lo≤c.hi∧-1000000≤c.lo∧c.hi≤1000000)∧(c.op=4→(C0 s c.col).kind=3∧(C0 s c.col).opt=true):=by
 unfold H9 at h
 by_cases h1:c.op<1∨7<c.op
 ·rw[if_pos h1]at h;cases h
 rw[if_neg h1]at h
 split at h
 ·cases h
 rename_i h2
 by_cases h3:c.op≠2∧c.op≠3∧c.op≠4
 ·exact⟨by omega,by omega,fun _=>by omega,fun _=>by omega,fun _=>by omega,fun _=>by omega⟩
 rw[if_neg h3]at h
 by_cases h4:c.col<0∨(s.cols.length:Int)≤c.col
 ·rw[if_pos h4]at h;cases h
 rw[if_neg h4]at h
 by_cases h5:c.op=2
 ·rw[if_pos h5]at h
  split at h
  ·cases h
  split at h
  ·cases h
  exact⟨by omega,by omega,fun _=>by omega,fun _=>by omega,fun _=>by omega,fun _=>by omega⟩
 rw[if_neg h5]at h
 by_cases h6:c.op=3
 ·rw[if_pos h6]at h
  split at h
  ·cases h
  split at h
  ·cases h
  exact⟨by omega,by omega,fun _=>by omega,fun _=>by omega,fun _=>by omega,fun _=>by omega⟩
 rw[if_neg h6]at h
 split at h
 ·cases h
 rename_i h7
 refine⟨by omega,by omega,fun _=>by omega,fun _=>by omega,fun _=>by omega,fun _=>⟨?_,?_⟩⟩
 ·exact Decidable.of_not_not fun hh=>h7 (.inl hh)
 ·cases ho:(C0 s c.col).opt
  ·exact absurd (.inr ho) h7
  ·rfl
theorem Ss{s:A4}:∀{l:List B1},v8 s l=0→∀k∈l,X4 s k=0
 |[],_,k,hk=>by cases hk
 |x::r,h,k,hk=>by
  unfold v8 at h
  by_cases hx:X4 s x=0
  ·rw[if_pos hx]at h
   rcases List.mem_cons.1 hk with rfl|hk
   ·exact hx
   ·exact Ss h k hk
  ·rw[if_neg hx]at h;exact absurd h hx
theorem Cz{s:A4}{c:B1}(h:X4 s c=0):H9 s c=0∧∀k∈c.kids,X4 s k=0:=by
 rw[Ol]at h
 by_cases h1:H9 s c=0
 ·rw[if_pos h1]at h
  exact⟨h1,Ss h⟩
 ·rw[if_neg h1]at h;exact absurd h h1
theorem o3{s:A4}{c:B1}(h:K7 s c=0):C3 s=0∧Z0 c≤40∧Y9 c≤10∧X4 s c=0:=by
 unfold K7 at h
 by_cases h1:C3 s=0
 ·rw[if_pos h1]at h
  split at h
  ·cases h
  split at h
  ·cases h
  exact⟨h1,by omega,by omega,h⟩
 ·rw[if_neg h1]at h;exact absurd h h1
theorem Su{a k:B1}:∀{l:List B1},k∈l→a∈k0 k→a∈X5 l
 |x::r,hk,ha=>by
  unfold X5
  rcases List.mem_cons.1 hk with rfl|hk
  ·exact List.mem_append_left _ ha
  ·exact List.mem_append_right _ (Su hk ha)
theorem Sv{a:B1}:∀{l:List B1},a∈X5 l→∃k∈l,a∈k0 k
 |[],h=>by simp[X5]at h
 |x::r,h=>by
  unfold X5 at h
  rcases List.mem_append.1 h with h|h
  ·exact⟨x,by simp,h⟩
  ·obtain⟨k,hk,ha⟩:=Sv h
   exact⟨k,by simp[hk],ha⟩
theorem WC{a c k:B1}(ho:¬(c.op=2∨c.op=3∨c.op=4))(hk:k∈c.kids)(ha:a∈k0 k):a∈k0 c:=by
 rw[Dc,if_neg ho]
 exact Su hk ha
theorem Ft{s:A4}(c:B1):X4 s c=0→∀a∈k0 c,H9 s a=0∧(a.op=2∨a.op=3∨a.op=4):=by
 refine N1 (p:=fun c=>X4 s c=0→∀a∈k0 c,H9 s a=0∧(a.op=2∨a.op=3∨a.op=4)) (fun c ih h a ha=>?_) c
 obtain⟨h1,h2⟩:=Cz h
 rw[Dc]at ha
 split at ha
 ·rename_i ho
  rw[List.mem_singleton]at ha
  subst ha
  exact⟨h1,ho⟩
 ·obtain⟨k,hk,hak⟩:=Sv ha
  exact ih k hk (h2 k hk) a hak
def W6(op:Int)(vs:List Int)(one:Int):Int:=if op=1 then 1 else if op=5 then min (vs.getD 0 0) (vs.getD 1 0)else if op=6 then max (vs.getD 0 0) (vs.getD 1 0)else if op=7 then -(vs.getD 0 0)else one
mutual
def U2(g:B1→Int):B1→Int
 |.mk o c k l h ks=>W6 o (Xh g ks) (g (.mk o c k l h ks))
def Xh(g:B1→Int):List B1→List Int
 |[]=>[]
 |x::r=>U2 g x::Xh g r
end
theorem Sw(g:B1→Int):∀l,Xh g l=l.map (U2 g)
 |[]=>rfl
 |x::r=>by rw[Xh,Sw g r];rfl
theorem Dd(g:B1→Int)(c:B1):U2 g c=W6 c.op (c.kids.map (U2 g)) (g c):=by
 cases c
 rw[U2,Sw];rfl
theorem FI{α:Type}{l:List α}{f:α→Int}{k:Nat}{x:α}(h:l[k]?=some x):(l.map f).getD k 0=f x:=by
 rw[List.getD_eq_getElem?_getD,List.getElem?_map,h];rfl
theorem WD{l:List Int}(h:∀v∈l,-1≤v∧v≤1)(k:Nat):-1≤l.getD k 0∧l.getD k 0≤1:=by
 rw[List.getD_eq_getElem?_getD]
 cases hk:l[k]? with
 |none=>exact⟨by decide,by decide⟩
 |some v=>exact h v (List.mem_of_getElem? hk)
theorem cl{op:Int}{vs:List Int}{one:Int}(h:∀v∈vs,-1≤v∧v≤1)(h1:-1≤one∧one≤1):-1≤W6 op vs one∧W6 op vs one≤1:=by
 have a0:=WD h 0
 have a1:=WD h 1
 unfold W6
 (repeat' split)<;>omega
theorem Om{g:B1→Int}(hg:∀a,-1≤g a∧g a≤1)(c:B1):-1≤U2 g c∧U2 g c≤1:=by
 refine N1 (p:=fun c=>-1≤U2 g c∧U2 g c≤1) (fun c ih=>?_) c
 rw[Dd]
 refine cl (fun v hv=>?_) (hg c)
 obtain⟨k,hk,rfl⟩:=List.mem_map.1 hv
 exact ih k hk
theorem Xi{s:A4}{g g':B1→Int}(c:B1):X4 s c=0→(∀a∈k0 c,g a=g' a)→U2 g c=U2 g' c:=by
 refine N1 (p:=fun c=>X4 s c=0→(∀a∈k0 c,g a=g' a)→U2 g c=U2 g' c) (fun c ih h hg=>?_) c
 obtain⟨h1,h2⟩:=Cz h
 obtain⟨p1,p2,_⟩:=AJ h1
 rw[Dd,Dd]
 by_cases ho:c.op=2∨c.op=3∨c.op=4
 ·rw[Dc,if_pos ho]at hg
  have:=hg c (by simp)
  obtain⟨k1,k2,k3⟩:=Gs c.op
  have nZ:c.kids=[]:=List.eq_nil_of_length_eq_zero (by have:=k3 (by omega) (by omega) (by omega);omega)
  rw[nZ,this];rfl
 ·have:c.kids.map (U2 g)=c.kids.map (U2 g'):=List.map_congr_left fun k hk=>ih k hk (h2 k hk) fun a ha=>hg a (WC ho hk ha)
  rw[this]
  unfold W6
  (repeat' split)<;>first|rfl|omega
theorem fy(b:Bool):-1≤GR b∧GR b≤1:=by unfold GR;split<;>omega
theorem Lm(s:A4)(c:B1)(v:Int):-1≤M1 s c v∧M1 s c v≤1:=by
 unfold M1
 (repeat' split)<;>first|exact fy _|omega
def DA(s:A4)(c:B1)(row:List Int):Int:=U2 (fun a=>M1 s a (row.getD a.col.toNat 0)) c
def Sx(s:A4)(c:B1)(row:List Int):Int:=if K7 s c=0∧Aj s row=0 then DA s c row else 0
theorem Hd{s:A4}{row:List Int}(h:Aj s row=0):C3 s=0∧row.length=s.cols.length:=by
 unfold Aj at h
 by_cases h1:C3 s=0
 ·rw[if_pos h1]at h
  by_cases h2:NV s row=true
  ·unfold NV at h2
   simp only[Bool.and_eq_true,decide_eq_true_eq]at h2
   exact⟨h1,h2.1⟩
  ·rw[if_neg h2]at h;cases h
 ·rw[if_neg h1]at h;exact absurd h h1
theorem EE{s:A4}(hr:C3 s=0){a:B1}(h:H9 s a=0):a.op=2→∃x lx,0≤a.col∧s.cols[a.col.toNat]?=some x∧0≤x.lst∧s.lists[x.lst.toNat]?=some lx:=by
 intro h2
 obtain⟨_,_,p3,p4,_⟩:=AJ h
 have hc:=p3 (.inl h2)
 obtain⟨hk,_⟩:=p4 h2
 obtain⟨x,hx⟩:∃x,s.cols[a.col.toNat]?=some x:=⟨_,List.getElem?_eq_getElem (by omega)⟩
 rw[C1 hx]at hk
 have hl:=AY.lst hr (List.mem_of_getElem? hx) hk
 exact⟨x,_,hc.1,hx,hl.1,List.getElem?_eq_getElem (by omega)⟩
end Go.Proofs.YtiphlhoclaogjaaGreatDoor
namespace Go.Proofs.YtiphlhoclaogjaaGreatDoor
open Go Go.Av
attribute [local irreducible] C7 B2 D3 DQ D0 C8 St.le A3 B9
theorem De{nm:List UInt8}{cs:List Code}{code:Int}:hasB nm cs code=true↔0≤code∧code<cs.length∧chk nm cs=0:=by
 simp[hasB,and_assoc]
theorem aC{nm:List UInt8}{cs:List Code}{code:Int}(h:¬(0≤code∧code<cs.length∧chk nm cs=0)):-1=S7 nm cs code:=by
 rw[S7,if_neg (fun h2=>h (De.1 h2))]
theorem Eb{nm:List UInt8}{cs:List Code}{code:Int}(h:0≤code∧code<cs.length∧chk nm cs=0):(dep cs code.toNat:Int)=S7 nm cs code:=by
 rw[S7,if_pos (De.2 h)];rfl
theorem LA(nm:List UInt8)(cs:List Code)(code:Int)(lX:cs.length≤9223372036854775807):A3 Tryz.prog 84 [lA nm cs,.i code] (.i (S7 nm cs code)):=by
 refine B6 Tryz.func84 22 fun lW E h0=>?_
 repeat'((first|refine A1 (Bs _ _ lX) ?_|(refine B3 ?_ ?_;kernel_rfl) |refine S2 ?_|(refine T6 ?_ ?_<;>intro h<;>try exact V1 h)|intro el lU lV|intro el lU|exact T4|refine T5 ?_ ?_|intro ex)<;>try conv=>whnf)
 all_goals first
  |exact A0 rfl (congrArg AV.i (aC (by omega)))
  |skip
 have hg:=(I1 (nm:=nm) (cs:=cs) (by omega)).1
 obtain⟨c,rfl⟩:=Int.eq_ofNat_of_zero_le (show 0≤code by omega)
 rw[←Eb (by omega)]
 repeat'((first|refine A1 (BU _ _ _ _ hg lX (Bt (j:=c) (by omega))) ?_ |refine S2 ?_|(refine T6 ?_ ?_<;>intro h<;>try exact V1 h)|intro el lU lV|intro el lU|exact T4|refine T5 ?_ ?_|intro ex)<;>try conv=>whnf)
 exact A0 rfl rfl
theorem Nc:∀(ps:List (Bool×Nat)) (l:Int),lv l ps=true→∀(i j:Nat) d e,ps[i]?=some (true,d)→ps[j]?=some (true,e)→d=e∧(0≤l→(d:Int)=l)
 |[],l,_,i,j,d,e,h,_=>by simp at h
 |(lf,x)::r,l,hl,i,j,d,e,hi,hj=>by
  unfold lv at hl
  cases lf with
  |false =>
   simp only[Bool.false_eq_true,if_false]at hl
   cases i with
   |zero=>simp at hi
   |succ i=>cases j with
    |zero=>simp at hj
    |succ j=>exact Nc r l hl i j d e (by simpa using hi) (by simpa using hj)
  |true =>
   simp only[if_true]at hl
   split at hl
   ·cases hl
   ·rename_i hx
    have first:∀(k:Nat) y,((true,x)::r)[k]?=some (true,y)→(y:Int)=x:=by
     intro k y hk
     cases k with
     |zero=>simp at hk;omega
     |succ k =>
      have mQ:r[k]?=some (true,y):=by simpa using hk
      exact(Nc r x hl k k y y mQ mQ).2 (by omega)
    have h1:=first i d hi
    have h2:=first j e hj
    exact⟨by omega,fun h0=>by omega⟩
theorem WE{nm:List UInt8}{cs:List Code}(h:chk nm cs=0):lv (-1) (s5 cs)=true:=by
 unfold chk at h
 split at h
 ·cases h
 ·split at h
  ·cases h
  ·split at h
   ·cases h
   ·cases hs:scan [] cs with
    |some e =>
     rw[hs]at h
     have:∀(cs pre:List Code) e,scan pre cs=some e→e=3∨e=10∨e=6:=by
      intro cs
      induction cs with
      |nil=>intro pre e h;cases h
      |cons a r ih =>
       intro pre e h
       simp only[scan]at h
       split at h
       ·cases h;exact .inl rfl
       ·split at h
        ·cases h;exact .inr (.inl rfl)
        ·split at h
         ·cases h;exact .inr (.inr rfl)
         ·exact ih _ _ h
     have:=this _ _ _ hs
     simp only at h
     omega
    |none =>
     rw[hs]at h
     simp only at h
     split at h
     ·assumption
     ·cases h
theorem QD{cs:List Code}{c:Int}:W5 cs c=true↔∀x∈cs,x.parent≠c:=by
 simp[W5,List.all_eq_true]
theorem aD{cs:List Code}(hg:Good cs)(hn:0<cs.length):W5 cs (cs.length-1:Nat)=true:=by
 rw[QD]
 intro x hx
 obtain⟨i,hi,rfl⟩:=List.getElem_of_mem hx
 rcases Nat.eq_zero_or_pos i with e|e
 ·subst e
  have:=hg.root _ (List.getElem?_eq_getElem hi)
  omega
 ·have:=hg.before i _ (List.getElem?_eq_getElem hi) e
  omega
theorem JN:∀(ds:List Nat) (a:Nat),(∃d∈a::ds,ds.foldl max a=d)∧∀d∈a::ds,d≤ds.foldl max a
 |[],a=>⟨⟨a,by simp,rfl⟩,fun d hd=>by simp at hd;subst hd;exact Nat.le_refl _⟩
 |x::r,a=>by
  obtain⟨⟨d,hd,he⟩,mA⟩:=JN r (max a x)
  refine⟨⟨d,?_,he⟩,fun y hy=>?_⟩
  ·rcases List.mem_cons.1 hd with h|h
   ·rcases Nat.le_total a x with h2|h2
    ·rw[Nat.max_eq_right h2]at h;simp[h]
    ·rw[Nat.max_eq_left h2]at h;simp[h]
   ·simp[h]
  ·have h1:=mA (max a x) (by simp)
   rcases List.mem_cons.1 hy with h|h
   ·subst h;show _≤List.foldl max (max y x) r;omega
   ·rcases List.mem_cons.1 h with h|h
    ·subst h;show _≤List.foldl max (max a y) r;omega
    ·exact mA y (by simp[h])
theorem gA{ds:List Nat}{i d:Nat}(h:ds[i]?=some d):d≤Bg ds:=(JN ds 0).2 d (by simp[List.mem_of_getElem? h])
theorem WF{ds:List Nat}(h:0<ds.length):∃i:Nat,ds[i]?=some (Bg ds):=by
 obtain⟨⟨d,hd,he⟩,mA⟩:=JN ds 0
 have he:Bg ds=d:=he
 rw[he]
 rcases List.mem_cons.1 hd with h2|h2
 ·subst h2
  refine⟨0,?_⟩
  have:=mA ds[0] (by simp)
  have h3:ds.foldl max 0=0:=he
  rw[List.getElem?_eq_getElem h]
  congr 1;omega
 ·obtain⟨i,hi,hh⟩:=List.getElem_of_mem h2
  exact⟨i,by rw[List.getElem?_eq_getElem hi,hh]⟩
theorem JO{cs:List Code}(hg:Good cs){i:Nat}(hi:i<cs.length)(hd:dep cs i=Bg (N8 cs)):W5 cs i=true:=by
 rw[QD]
 intro x hx e
 obtain⟨k,hk,rfl⟩:=List.getElem_of_mem hx
 have pk:0<k:=by
  rcases Nat.eq_zero_or_pos k with e2|e2
  ·subst e2
   have:=hg.root _ (List.getElem?_eq_getElem hk)
   omega
  ·exact e2
 obtain⟨h1,h2,h3⟩:=Oc hg.before (List.getElem?_eq_getElem hk) pk
 have:par cs k=i:=by omega
 rw[this]at h1
 have:=gA (Bt hk)
 omega
theorem aE{nm:List UInt8}{cs:List Code}(h:chk nm cs=0){i:Nat}(hi:i<cs.length)(hl:W5 cs i=true):dep cs i=Bg (N8 cs):=by
 obtain⟨hg,hn,_⟩:=I1 h
 obtain⟨m,hm⟩:=WF (ds:=N8 cs) (by rw[H5];exact hn)
 have qB:m<cs.length:=by rw[←H5 cs];exact(List.getElem?_eq_some_iff.1 hm).1
 have yb:=Ca hm
 have wI:=JO hg qB yb
 have p1:=CM (Bt hi)
 have p2:=CM (Bt qB)
 rw[hl]at p1
 rw[wI]at p2
 rw[←yb]
 exact(Nc _ _ (WE h) _ _ _ _ p1 p2).1
theorem cm{nm:List UInt8}{cs:List Code}(h:chk nm cs=0):dep cs (cs.length-1)=Bg (N8 cs):=by
 obtain⟨hg,hn,_⟩:=I1 h
 exact aE h (by omega) (aD hg hn)
theorem FJ(nm:List UInt8)(cs:List Code)(lX:cs.length≤9223372036854775807):A3 Tryz.prog 80 [lA nm cs] (.i (C4 nm cs)):=by
 refine B6 Tryz.func80 13 fun lW E h0=>?_
 repeat'((first|refine A1 (Bs _ _ lX) ?_ |refine S2 ?_|(refine T6 ?_ ?_<;>intro h<;>try exact V1 h)|intro el lU lV|intro el lU|exact T4|refine T5 ?_ ?_|intro ex)<;>try conv=>whnf)
 ·exact A0 rfl (congrArg AV.i (by rw[C4,if_neg h]))
 have hc:chk nm cs=0:=by omega
 have vw:=BF hc
 obtain⟨hg,hn,_⟩:=I1 hc
 have hd:=Ll hg.before
 have hl:=cm hc
 have e:((cs.length:Int)-1)=((cs.length-1:Nat):Int):=by omega
 repeat'((first|refine A1 (args:=[lA nm cs,.i ((cs.length:Int)-1)]) (by rw[e];exact BU _ _ _ _ hg lX (Bt (j:=cs.length-1) (by omega))) ?_ |refine S2 ?_|(refine T6 ?_ ?_<;>intro h<;>try exact V1 h)|intro el lU lV|intro el lU|exact T4|refine T5 ?_ ?_|intro ex)<;>try conv=>whnf)
 exact A0 rfl (congrArg AV.i (by rw[C4,if_pos hc,hl]))
theorem jI{nm:List UInt8}{cs:List Code}{code level:Int}(h:¬(0≤code∧code<cs.length∧chk nm cs=0∧0≤level∧level≤dep cs code.toNat)):-1=L2 nm cs code level:=by
 rw[L2,if_neg (fun h2=>h (by have:=De.1 h2.1;omega))]
theorem WG{nm:List UInt8}{cs:List Code}{c:Nat}{level:Int}(h:c<cs.length∧chk nm cs=0∧0≤level∧level≤dep cs c):(Pw cs c (dep cs c-level.toNat):Int)=L2 nm cs c level:=by
 rw[L2,if_pos ⟨De.2 ⟨by omega,by omega,h.2.1⟩,h.2.2.1,by rw[Int.toNat_natCast];exact h.2.2.2⟩,Int.toNat_natCast]
theorem Sy(nm:List UInt8)(cs:List Code)(code level:Int)(lX:cs.length≤9223372036854775807):A3 Tryz.prog 85 [lA nm cs,.i code,.i level] (.i (L2 nm cs code level)):=by
 refine B6 Tryz.func85 44 fun lW E h0=>?_
 repeat'((first|refine A1 (Bs _ _ lX) ?_|(refine B3 ?_ ?_;kernel_rfl)|refine A1 (args:=[lA nm cs,.i code]) (by rw[show code=((code.toNat:Nat):Int) by omega];exact BU _ _ _ _ (I1 (nm:=nm) (cs:=cs) (by omega)).1 lX (Bt (j:=code.toNat) (by omega))) ?_ |refine S2 ?_|(refine T6 ?_ ?_<;>intro h<;>try exact V1 h)|intro el lU lV|intro el lU|exact T4|refine T5 ?_ ?_|intro ex)<;>try conv=>whnf)
 all_goals first
  |exact A0 rfl (congrArg AV.i (jI (by omega)))
  |skip
 have hc:chk nm cs=0:=by omega
 have vw:=BF hc
 obtain⟨c0,rfl⟩:=Int.eq_ofNat_of_zero_le (show 0≤code by omega)
 have hg:=(I1 hc).1
 have hb:=hg.before
 have oa:(level:Int)≤dep cs c0:=by
  simp only[Int.toNat_natCast]at *
  omega
 rw[←WG (c:=c0) (by omega)]
 have nz:0≤level:=by omega
 have ly:c0<cs.length:=by omega
 refine B0 (ι:=Nat) (fun c=>⟨[(1,.i c),(2,.i level),(3,.ref 0 0)],1,[(0,some (.box [.str nm,.sl 2 (cs.map cA)]))]⟩)
  (fun c=>c<cs.length∧level≤dep cs c∧Pw cs c0 (dep cs c0-level.toNat)=Pw cs c (dep cs c-level.toNat)) (fun c=>c) c0 ⟨ly,oa,rfl⟩ (A6 h0) (fun c hI=>?_)
 obtain⟨h1,h2,h3⟩:=hI
 repeat'((first|refine A1 (BU _ _ _ _ hg lX (Bt (j:=c) (by omega))) ?_ |refine S2 ?_|(refine T6 ?_ ?_<;>intro h<;>try exact V1 h)|intro el lU lV|intro el lU|exact T4|refine T5 ?_ ?_|intro ex)<;>try conv=>whnf)
 ·have tP:0<c:=by
   rcases Nat.eq_zero_or_pos c with e|e
   ·subst e;rw[Sj hb lU]at *;omega
   ·exact e
  obtain⟨e1,e2,e3⟩:=Oc hb lU tP
  have e4:dep cs c-level.toNat=(dep cs (par cs c)-level.toNat)+1:=by omega
  exact⟨par cs c,⟨by omega,by omega,by rw[h3,e4];rfl⟩,e2,A9 h0 rfl ⟨congrArg (fun z:Int=>some (AV.i z)) e3.symm,rfl,rfl,trivial⟩ ⟨rfl,trivial⟩ rfl rfl rfl⟩
 ·refine A0 rfl (congrArg AV.i ?_)
  rw[h3,show dep cs c-level.toNat=0 by omega]
  rfl
theorem Cd{nm:List UInt8}{cs:List Code}{code:Int}:S7 nm cs code=if hasB nm cs code=true then (dep cs code.toNat:Int)else -1:=rfl
theorem gB{nm:List UInt8}{cs:List Code}{code lq:Int}(h:¬(0≤S7 nm cs lq)):false=u9 nm cs code lq:=by
 have:hasB nm cs lq=false:=by
  rw[Cd]at h
  split at h
  ·omega
  ·rename_i h2;simpa using h2
 simp[u9,this]
theorem gC{nm:List UInt8}{cs:List Code}{code lq:Int}(h:0≤S7 nm cs lq)(h2:¬S7 nm cs lq≤S7 nm cs code):false=u9 nm cs code lq:=by
 rw[Cd,Cd]at *
 by_cases ha:hasB nm cs lq=true
 ·rw[if_pos ha]at h h2
  by_cases hc:hasB nm cs code=true
  ·rw[if_pos hc]at h2
   have:L2 nm cs code (dep cs lq.toNat)=-1:=by rw[L2,if_neg (by omega)]
   have wj:=De.1 ha
   simp only[u9,ha,hc,this,Bool.true_and]
   exact(decide_eq_false (by omega)).symm
  ·have:hasB nm cs code=false:=by simpa using hc
   simp[u9,this]
 ·rw[if_neg ha]at h;omega
theorem gD{nm:List UInt8}{cs:List Code}{code lq:Int}(h:0≤S7 nm cs lq)(h2:S7 nm cs lq≤S7 nm cs code):decide (L2 nm cs code (S7 nm cs lq)=lq)=u9 nm cs code lq:=by
 rw[Cd]at h
 by_cases ha:hasB nm cs lq=true
 ·have e:S7 nm cs lq=dep cs lq.toNat:=by rw[Cd,if_pos ha]
  rw[e]at h2
  rw[Cd]at h2
  by_cases hc:hasB nm cs code=true
  ·simp only[u9,ha,hc,e,Bool.true_and]
  ·rw[if_neg hc]at h2;omega
 ·rw[if_neg ha]at h;omega
-- IF dataenclave/dataenclaveref01.Under
theorem Uz(nm:List UInt8)(cs:List Code)(code lq:Int)(lX:cs.length≤9223372036854775807):A3 Tryz.prog 34 [lA nm cs,.i code,.i lq] (.b (u9 nm cs code lq)):=by
 refine B6 Tryz.func34 28 fun lW E h0=>?_
 repeat'((first|refine A1 (LA _ _ _ lX) ?_|refine A1 (Sy _ _ _ _ lX) ?_|(refine B3 ?_ ?_;kernel_rfl) |refine S2 ?_|(refine T6 ?_ ?_<;>intro h<;>try exact V1 h)|intro el lU lV|intro el lU|exact T4|refine T5 ?_ ?_|intro ex)<;>try conv=>whnf)
 all_goals first
  |exact A0 rfl (congrArg AV.b (gB (by assumption)))
  |exact A0 rfl (congrArg AV.b (gC (by assumption) (by assumption)))
  |exact A0 rfl (congrArg AV.b (gD (by assumption) (by assumption)))
theorem cn(nm:List UInt8)(cs:List Code)(level:Int)(lX:cs.length≤9223372036854775807):A3 Tryz.prog 30 [lA nm cs,.i level] (.sl 1 ((K3 nm cs level).map iA)):=by
 refine B6 Tryz.func30 27 fun lW E h0=>?_
 repeat'((first|refine A1 (Bs _ _ lX) ?_ |refine S2 ?_|(refine T6 ?_ ?_<;>intro h<;>try exact V1 h)|intro el lU lV|intro el lU|exact T4|refine T5 ?_ ?_|intro ex)<;>try conv=>whnf)
 case refine_1=>exact u4 (sz:=1) rfl (by rw[K3,if_neg h];rfl)
 have hc:chk nm cs=0:=by omega
 have vw:=BF hc
 have hg:=(I1 hc).1
 rw[K3,if_pos hc]
 refine B0 (ι:=Nat) (fun k=>⟨[(1,.i level),(2,.ref 0 0),(5,.row 1 0 (Fp cs level k).length),(6,.i k)],2,[(0,some (.box [.str nm,.sl 2 (cs.map cA)])),(1,some (.row 3 1 0 ((Fp cs level k).map iA)))]⟩) (fun k=>k≤cs.length) (fun k=>cs.length-k) 0 (Nat.zero_le _) (B5 (I9 (d:=5) (e:=3) (sz:=1) rfl) (A9 h0 rfl ⟨rfl,rfl,rfl,rfl,trivial⟩ ⟨rfl,⟨0,rfl⟩,trivial⟩ rfl rfl rfl)) (fun k hI=>?_)
 have rj:=NO cs level k
 repeat'((first|refine A1 (BU _ _ _ _ hg lX (Bt (j:=k) (by omega))) ?_ |refine S2 ?_|(refine T6 ?_ ?_<;>intro h<;>try exact V1 h)|intro el lU lV|intro el lU|exact T4|refine T5 ?_ ?_|intro ex)<;>try conv=>whnf)
 ·refine⟨k+1,?_,?_,A9 h0 rfl ⟨rfl,rfl,congrArg (fun z=>some (AV.row 1 0 z)) ?_,rfl,trivial⟩ ⟨rfl,⟨0,congrArg (C6.row 3 1 0) ?_⟩,trivial⟩ rfl rfl rfl⟩
  ·omega
  ·omega
  ·rw[KN h,List.length_append];rfl
  ·rw[KN h,List.map_append];rfl
 ·refine⟨k+1,?_,?_,A9 h0 rfl ⟨rfl,rfl,congrArg (fun z=>some (AV.row 1 0 z)) ?_,rfl,trivial⟩ ⟨rfl,⟨0,congrArg (C6.row 3 1 0) ?_⟩,trivial⟩ rfl rfl rfl⟩
  ·omega
  ·omega
  ·rw[NP h]
  ·rw[NP h]
 ·apply A0
  ·rfl
  ·rw[show cs.length=k by omega]
   rfl
end Go.Proofs.YtiphlhoclaogjaaGreatDoor
namespace Go.Proofs.YtiphlhoclaogjaaGreatDoor
open Go Go.Av
attribute [local irreducible] C7 B2 D3 C9 DQ D0 C8 St.le A3 B9
set_option maxRecDepth 100000
theorem He{nm:List UInt8}{cs:List Code}(h:chk nm cs=0){v:Nat}(hv:v<cs.length):S7 nm cs v=C4 nm cs-1↔W5 cs v=true:=by
 have hg:=(I1 h).1
 have hn:=(I1 h).2.1
 have e1:S7 nm cs v=dep cs v:=(Eb (nm:=nm) (cs:=cs) (code:=v) ⟨by omega,by omega,h⟩).symm
 have e2:C4 nm cs=Bg (N8 cs)+1:=by rw[C4,if_pos h]
 rw[e1,e2]
 obtain⟨i,hi⟩:=WF (ds:=N8 cs) (by rw[H5];exact hn)
 have qi:i<cs.length:=by rw[←H5 cs];exact F5 hi
 have hdi:=Ca hi
 have sW:=JO hg qi hdi
 constructor
 ·intro e
  exact JO hg hv (by omega)
 ·intro hl
  have hp1:(s5 cs)[i]?=some (true,Bg (N8 cs)):=by rw[CM hi,sW]
  have hp2:(s5 cs)[v]?=some (true,dep cs v):=by rw[CM (Bt hv),hl]
  have:=(Nc _ _ (WE h) v i _ _ hp2 hp1).1
  omega
def F9(s:A4)(column:Int):List Nat:=K3 (C2 s (C0 s column)).1 (C2 s (C0 s column)).2 (C4 (C2 s (C0 s column)).1 (C2 s (C0 s column)).2-1)
theorem Af(s:A4)(column:Int){c:D4}(pH:0≤column)(hc:s.cols[column.toNat]?=some c)(hl:0≤c.lst∧c.lst<s.lists.length):A3 Tryz.prog 138 [sA s,.i column] (.sl 1 ((F9 s column).map iA)):=by
 refine B6 Tryz.func138 21 fun lW E h0=>?_
 obtain⟨nL,mO,nk⟩:=X3 (s:=s) (lW _ (by simp))
 clear lW
 obtain⟨l,mZ⟩:∃l,s.lists[c.lst.toNat]?=some l:=⟨_,List.getElem?_eq_getElem (by omega)⟩
 have pp:=nk l (List.mem_of_getElem? mZ)
 have sN:=n9 (nm:=l.1) pp
 have oO:=FJ l.1 l.2 pp
 have oy:=cn l.1 l.2 (C4 l.1 l.2-1) pp
 have e:F9 s column=K3 l.1 l.2 (C4 l.1 l.2-1):=by rw[F9,C1 hc,H8 mZ]
 rw[e]
 repeat'((first|refine S2 ?_|(refine T6 ?_ ?_<;>intro h<;>try exact V1 h)|intro el lU lV|intro el lU|exact T4|refine T5 ?_ ?_|intro ex)<;>try conv=>whnf)
 refine JI ⟨[(2,.ref 0 0),(1,.i column),(5,.ref 1 0)],2,[(0,some (.box (sL s))),(1,some (.box (AX l)))]⟩ ?_ ?_
 ·repeat'((first|(refine A2 (x:=c) hc (by omega) ?_)|(refine A2 (x:=l) mZ (by omega) ?_) |refine S2 ?_|(refine T6 ?_ ?_<;>intro h<;>try exact V1 h)|intro el lU lV|intro el lU|exact T4|refine T5 ?_ ?_|intro ex)<;>try conv=>whnf)
  all_goals first|exact A6 h0|trace_state
 repeat'((first|refine A1 oO ?_|refine A1 oy ?_|(refine B3 ?_ ?_;kernel_rfl) |refine S2 ?_|(refine T6 ?_ ?_<;>intro h<;>try exact V1 h)|intro el lU lV|intro el lU|exact T4|refine T5 ?_ ?_|intro ex)<;>try conv=>whnf)
 all_goals exact A0 rfl rfl
theorem On{nm:List UInt8}{cs:List Code}{level:Int}{x:Nat}(h:x∈K3 nm cs level):chk nm cs=0∧x<cs.length∧(dep cs x:Int)=level:=by
 unfold K3 at h
 split at h
 ·rename_i hk
  simp only[Fp,List.mem_filter,List.mem_range,decide_eq_true_eq]at h
  exact⟨hk,h.1,h.2⟩
 ·cases h
theorem Oo{s:A4}(hr:C3 s=0){column:Int}(h1:1≤column)(h2:column<s.cols.length):0≤E5 s column:=by
 have hc:s.cols[column.toNat]?=some s.cols[column.toNat]:=List.getElem?_eq_getElem (by omega)
 have nA:=o0 hr h1 hc
 rw[E5,if_neg (by omega),C1 hc]
 generalize s.cols[column.toNat]=c at nA
 unfold M7
 rcases nA with nA|nA
 ·rw[if_pos nA.1]
  have hl:s.lists[c.lst.toNat]?=some (s.lists[c.lst.toNat]'(by omega)):=List.getElem?_eq_getElem (by omega)
  have hk:=(D5 hr).2.2.1 _ (List.mem_of_getElem? hl)
  rw[H8 hl,C4,if_pos hk]
  omega
 ·rw[if_neg (by omega)];omega
theorem JP{v w:Int}(hw:1≤w):v.tmod w=0↔C5 v w=v:=by
 have:=Fq v hw
 have:=Of v hw
 unfold C5
 omega
end Go.Proofs.YtiphlhoclaogjaaGreatDoor

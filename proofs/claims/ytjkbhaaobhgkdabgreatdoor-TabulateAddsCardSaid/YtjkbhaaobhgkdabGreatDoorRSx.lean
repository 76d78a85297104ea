/- Chapter 5: right conditions in parts, truth values out of those of their parts. -/
import Derived.Test.YtjkbhaaobhgkdabGreatDoorRC1
import Derived.Test.YtjkbhaaobhgkdabGreatDoorRB4
import Derived.Test.YtjkbhaaobhgkdabGreatDoorRE3
import Derived.Test.YtjkbhaaobhgkdabGreatDoorRB8
set_option linter.unusedVariables false
set_option linter.unnecessarySimpa false
set_option linter.unusedSimpArgs false
set_option maxHeartbeats 64000000
namespace Go.Proofs.YtjkbhaaobhgkdabGreatDoor
open Go Go.Av
attribute [local irreducible] D0 B0 D2 C7 DQ D1 C8 St.le A3 B6
set_option maxRecDepth 100000
theorem Cs{s:A4}{c:B1}(h:G4 s c=0):(1≤c.op∧c.op≤7)∧(c.kids.length:Int)=U0 c.op∧(c.op=2∨c.op=3∨c.op=4→0≤c.col∧c.col<s.cols.length)∧(c.op=2→(B4 s c.col).kind=2∧0≤c.code∧c.code<(C1 s (B4 s c.col)).2.length)∧(c.op=3→(B4 s c.col).kind=3∧c.lo≤c.hi∧-1000000≤c.lo∧c.hi≤1000000)∧(c.op=4→(B4 s c.col).kind=3∧(B4 s c.col).opt=true):=by
 unfold G4 at h
 by_cases h1:c.op<1∨7<c.op
 ·rw[if_pos h1]at h;cases h
 rw[if_neg h1]at h
 split at h
 ·cases h
 rename_i h2
 by_cases h3:c.op≠2∧c.op≠3∧c.op≠4
 ·exact⟨by omega,by omega,fun _=>by omega,fun _=>by omega,fun _=>by omega,fun _=>by omega⟩
 rw[if_neg h3]at h
 by_cases h4:c.col<0∨(s.cols.length:Int)≤c.col
 ·rw[if_pos h4]at h;cases h
 rw[if_neg h4]at h
 by_cases h5:c.op=2
 ·rw[if_pos h5]at h
  split at h
  ·cases h
  split at h
  ·cases h
  exact⟨by omega,by omega,fun _=>by omega,fun _=>by omega,fun _=>by omega,fun _=>by omega⟩
 rw[if_neg h5]at h
 by_cases h6:c.op=3
 ·rw[if_pos h6]at h
  split at h
  ·cases h
  split at h
  ·cases h
  exact⟨by omega,by omega,fun _=>by omega,fun _=>by omega,fun _=>by omega,fun _=>by omega⟩
 rw[if_neg h6]at h
 split at h
 ·cases h
 rename_i h7
 refine⟨by omega,by omega,fun _=>by omega,fun _=>by omega,fun _=>by omega,fun _=>⟨?_,?_⟩⟩
 ·exact Decidable.of_not_not fun hh=>h7 (.inl hh)
 ·cases ho:(B4 s c.col).opt
  ·exact absurd (.inr ho) h7
  ·rfl
theorem TE{s:A4}:∀{l:List B1},Y4 s l=0→∀k∈l,X0 s k=0
 |[],_,k,hk=>by cases hk
 |x::r,h,k,hk=>by
  unfold Y4 at h
  by_cases hx:X0 s x=0
  ·rw[if_pos hx]at h
   rcases List.mem_cons.1 hk with rfl|hk
   ·exact hx
   ·exact TE h k hk
  ·rw[if_neg hx]at h;exact absurd h hx
theorem Hf{s:A4}{c:B1}(h:X0 s c=0):G4 s c=0∧∀k∈c.kids,X0 s k=0:=by
 rw[Ez]at h
 by_cases h1:G4 s c=0
 ·rw[if_pos h1]at h
  exact⟨h1,TE h⟩
 ·rw[if_neg h1]at h;exact absurd h h1
theorem BH{s:A4}{c:B1}(h:J6 s c=0):C5 s=0∧R2 c≤40∧R7 c≤10∧X0 s c=0:=by
 unfold J6 at h
 by_cases h1:C5 s=0
 ·rw[if_pos h1]at h
  split at h
  ·cases h
  split at h
  ·cases h
  exact⟨h1,by omega,by omega,h⟩
 ·rw[if_neg h1]at h;exact absurd h h1
theorem TF{a k:B1}:∀{l:List B1},k∈l→a∈Y5 k→a∈X3 l
 |x::r,hk,ha=>by
  unfold X3
  rcases List.mem_cons.1 hk with rfl|hk
  ·exact List.mem_append_left _ ha
  ·exact List.mem_append_right _ (TF hk ha)
theorem TG{a:B1}:∀{l:List B1},a∈X3 l→∃k∈l,a∈Y5 k
 |[],h=>by simp[X3]at h
 |x::r,h=>by
  unfold X3 at h
  rcases List.mem_append.1 h with h|h
  ·exact⟨x,by simp,h⟩
  ·obtain⟨k,hk,ha⟩:=TG h
   exact⟨k,by simp[hk],ha⟩
theorem iI{a c k:B1}(ho:¬(c.op=2∨c.op=3∨c.op=4))(hk:k∈c.kids)(ha:a∈Y5 k):a∈Y5 c:=by
 rw[FA,if_neg ho]
 exact TF hk ha
theorem Fz{s:A4}(c:B1):X0 s c=0→∀a∈Y5 c,G4 s a=0∧(a.op=2∨a.op=3∨a.op=4):=by
 refine N9 (p:=fun c=>X0 s c=0→∀a∈Y5 c,G4 s a=0∧(a.op=2∨a.op=3∨a.op=4)) (fun c ih h a ha=>?_) c
 obtain⟨h1,h2⟩:=Hf h
 rw[FA]at ha
 split at ha
 ·rename_i ho
  rw[List.mem_singleton]at ha
  subst ha
  exact⟨h1,ho⟩
 ·obtain⟨k,hk,hak⟩:=TG ha
  exact ih k hk (h2 k hk) a hak
def c8(op:Int)(vs:List Int)(one:Int):Int:=if op=1 then 1 else if op=5 then min (vs.getD 0 0) (vs.getD 1 0)else if op=6 then max (vs.getD 0 0) (vs.getD 1 0)else if op=7 then -(vs.getD 0 0)else one
mutual
def AN(g:B1→Int):B1→Int
 |.mk o c k l h ks=>c8 o (YM g ks) (g (.mk o c k l h ks))
def YM(g:B1→Int):List B1→List Int
 |[]=>[]
 |x::r=>AN g x::YM g r
end
theorem TH(g:B1→Int):∀l,YM g l=l.map (AN g)
 |[]=>rfl
 |x::r=>by rw[YM,TH g r];rfl
theorem Kd(g:B1→Int)(c:B1):AN g c=c8 c.op (c.kids.map (AN g)) (g c):=by
 cases c
 rw[AN,TH];rfl
theorem FX{α:Type}{l:List α}{f:α→Int}{k:Nat}{x:α}(h:l[k]?=some x):(l.map f).getD k 0=f x:=by
 rw[List.getD_eq_getElem?_getD,List.getElem?_map,h];rfl
theorem Wa{l:List Int}(h:∀v∈l,-1≤v∧v≤1)(k:Nat):-1≤l.getD k 0∧l.getD k 0≤1:=by
 rw[List.getD_eq_getElem?_getD]
 cases hk:l[k]? with
 |none=>exact⟨by decide,by decide⟩
 |some v=>exact h v (List.mem_of_getElem? hk)
theorem dm{op:Int}{vs:List Int}{one:Int}(h:∀v∈vs,-1≤v∧v≤1)(h1:-1≤one∧one≤1):-1≤c8 op vs one∧c8 op vs one≤1:=by
 have a0:=Wa h 0
 have a1:=Wa h 1
 unfold c8
 (repeat' split)<;>omega
theorem Wb{g:B1→Int}(hg:∀a,-1≤g a∧g a≤1)(c:B1):-1≤AN g c∧AN g c≤1:=by
 refine N9 (p:=fun c=>-1≤AN g c∧AN g c≤1) (fun c ih=>?_) c
 rw[Kd]
 refine dm (fun v hv=>?_) (hg c)
 obtain⟨k,hk,rfl⟩:=List.mem_map.1 hv
 exact ih k hk
theorem iJ(b:Bool):-1≤GW b∧GW b≤1:=by unfold GW;split<;>omega
theorem TI(s:A4)(c:B1)(v:Int):-1≤R3 s c v∧R3 s c v≤1:=by
 unfold R3
 (repeat' split)<;>first|exact iJ _|omega
def Dr(s:A4)(c:B1)(row:List Int):Int:=AN (fun a=>R3 s a (row.getD a.col.toNat 0)) c
def TJ(s:A4)(c:B1)(row:List Int):Int:=if J6 s c=0∧s6 s row=0 then Dr s c row else 0
theorem Hg{s:A4}{row:List Int}(h:s6 s row=0):C5 s=0∧row.length=s.cols.length:=by
 unfold s6 at h
 by_cases h1:C5 s=0
 ·rw[if_pos h1]at h
  by_cases h2:KZ s row=true
  ·unfold KZ at h2
   simp only[Bool.and_eq_true,decide_eq_true_eq]at h2
   exact⟨h1,h2.1⟩
  ·rw[if_neg h2]at h;cases h
 ·rw[if_neg h1]at h;exact absurd h h1
theorem GA{s:A4}(hr:C5 s=0){a:B1}(h:G4 s a=0):a.op=2→∃x lx,0≤a.col∧s.cols[a.col.toNat]?=some x∧0≤x.lst∧s.lists[x.lst.toNat]?=some lx:=by
 intro h2
 obtain⟨_,_,p3,p4,_⟩:=Cs h
 have hc:=p3 (.inl h2)
 obtain⟨hk,_⟩:=p4 h2
 obtain⟨x,hx⟩:∃x,s.cols[a.col.toNat]?=some x:=⟨_,List.getElem?_eq_getElem (by omega)⟩
 rw[B7 hx]at hk
 have hl:=Ap.lst hr (List.mem_of_getElem? hx) hk
 exact⟨x,_,hc.1,hx,hl.1,List.getElem?_eq_getElem (by omega)⟩
end Go.Proofs.YtjkbhaaobhgkdabGreatDoor
namespace Go.Proofs.YtjkbhaaobhgkdabGreatDoor
open Go Go.Av
attribute [local irreducible] D0 B0 D2 DQ D1 C8 St.le A3 B6
theorem Dc{nm:List UInt8}{cs:List Code}{code:Int}:hasB nm cs code=true↔0≤code∧code<cs.length∧chk nm cs=0:=by
 simp[hasB,and_assoc]
theorem ak{nm:List UInt8}{cs:List Code}{code:Int}(h:¬(0≤code∧code<cs.length∧chk nm cs=0)):-1=R1 nm cs code:=by
 rw[R1,if_neg (fun h2=>h (Dc.1 h2))]
theorem Ek{nm:List UInt8}{cs:List Code}{code:Int}(h:0≤code∧code<cs.length∧chk nm cs=0):(dep cs code.toNat:Int)=R1 nm cs code:=by
 rw[R1,if_pos (Dc.2 h)];rfl
theorem LN(nm:List UInt8)(cs:List Code)(code:Int)(nO:cs.length≤9223372036854775807):A3 Tryz.prog 126 [lA nm cs,.i code] (.i (R1 nm cs code)):=by
 refine C0 Tryz.func126 22 fun nQ E h0=>?_
 repeat'((first|refine A1 (Bb _ _ nO) ?_|(refine B8 ?_ ?_;kernel_rfl) |refine S2 ?_|(refine T6 ?_ ?_<;>intro h<;>try exact V1 h)|intro el nN nP|intro el nN|exact T4|refine T5 ?_ ?_|intro ex)<;>try conv=>whnf)
 all_goals first
  |exact A0 rfl (congrArg AV.i (ak (by omega)))
  |skip
 have hg:=(H9 (nm:=nm) (cs:=cs) (by omega)).1
 obtain⟨c,rfl⟩:=Int.eq_ofNat_of_zero_le (show 0≤code by omega)
 rw[←Ek (by omega)]
 repeat'((first|refine A1 (BE _ _ _ _ hg nO (Bd (j:=c) (by omega))) ?_ |refine S2 ?_|(refine T6 ?_ ?_<;>intro h<;>try exact V1 h)|intro el nN nP|intro el nN|exact T4|refine T5 ?_ ?_|intro ex)<;>try conv=>whnf)
 exact A0 rfl rfl
theorem Nj:∀(ps:List (Bool×Nat)) (l:Int),lv l ps=true→∀(i j:Nat) d e,ps[i]?=some (true,d)→ps[j]?=some (true,e)→d=e∧(0≤l→(d:Int)=l)
 |[],l,_,i,j,d,e,h,_=>by simp at h
 |(lf,x)::r,l,hl,i,j,d,e,hi,hj=>by
  unfold lv at hl
  cases lf with
  |false =>
   simp only[Bool.false_eq_true,if_false]at hl
   cases i with
   |zero=>simp at hi
   |succ i=>cases j with
    |zero=>simp at hj
    |succ j=>exact Nj r l hl i j d e (by simpa using hi) (by simpa using hj)
  |true =>
   simp only[if_true]at hl
   split at hl
   ·cases hl
   ·rename_i hx
    have first:∀(k:Nat) y,((true,x)::r)[k]?=some (true,y)→(y:Int)=x:=by
     intro k y hk
     cases k with
     |zero=>simp at hk;omega
     |succ k =>
      have oH:r[k]?=some (true,y):=by simpa using hk
      exact(Nj r x hl k k y y oH oH).2 (by omega)
    have h1:=first i d hi
    have h2:=first j e hj
    exact⟨by omega,fun h0=>by omega⟩
theorem Wc{nm:List UInt8}{cs:List Code}(h:chk nm cs=0):lv (-1) (o8 cs)=true:=by
 unfold chk at h
 split at h
 ·cases h
 ·split at h
  ·cases h
  ·split at h
   ·cases h
   ·cases hs:scan [] cs with
    |some e =>
     rw[hs]at h
     have:∀(cs pre:List Code) e,scan pre cs=some e→e=3∨e=10∨e=6:=by
      intro cs
      induction cs with
      |nil=>intro pre e h;cases h
      |cons a r ih =>
       intro pre e h
       simp only[scan]at h
       split at h
       ·cases h;exact .inl rfl
       ·split at h
        ·cases h;exact .inr (.inl rfl)
        ·split at h
         ·cases h;exact .inr (.inr rfl)
         ·exact ih _ _ h
     have:=this _ _ _ hs
     simp only at h
     omega
    |none =>
     rw[hs]at h
     simp only at h
     split at h
     ·assumption
     ·cases h
theorem QL{cs:List Code}{c:Int}:W0 cs c=true↔∀x∈cs,x.parent≠c:=by
 simp[W0,List.all_eq_true]
theorem am{cs:List Code}(hg:Good cs)(hn:0<cs.length):W0 cs (cs.length-1:Nat)=true:=by
 rw[QL]
 intro x hx
 obtain⟨i,hi,rfl⟩:=List.getElem_of_mem hx
 rcases Nat.eq_zero_or_pos i with e|e
 ·subst e
  have:=hg.root _ (List.getElem?_eq_getElem hi)
  omega
 ·have:=hg.before i _ (List.getElem?_eq_getElem hi) e
  omega
theorem JT:∀(ds:List Nat) (a:Nat),(∃d∈a::ds,ds.foldl max a=d)∧∀d∈a::ds,d≤ds.foldl max a
 |[],a=>⟨⟨a,by simp,rfl⟩,fun d hd=>by simp at hd;subst hd;exact Nat.le_refl _⟩
 |x::r,a=>by
  obtain⟨⟨d,hd,he⟩,oX⟩:=JT r (max a x)
  refine⟨⟨d,?_,he⟩,fun y hy=>?_⟩
  ·rcases List.mem_cons.1 hd with h|h
   ·rcases Nat.le_total a x with h2|h2
    ·rw[Nat.max_eq_right h2]at h;simp[h]
    ·rw[Nat.max_eq_left h2]at h;simp[h]
   ·simp[h]
  ·have h1:=oX (max a x) (by simp)
   rcases List.mem_cons.1 hy with h|h
   ·subst h;show _≤List.foldl max (max y x) r;omega
   ·rcases List.mem_cons.1 h with h|h
    ·subst h;show _≤List.foldl max (max a y) r;omega
    ·exact oX y (by simp[h])
theorem iK{ds:List Nat}{i d:Nat}(h:ds[i]?=some d):d≤BQ ds:=(JT ds 0).2 d (by simp[List.mem_of_getElem? h])
theorem Wd{ds:List Nat}(h:0<ds.length):∃i:Nat,ds[i]?=some (BQ ds):=by
 obtain⟨⟨d,hd,he⟩,oX⟩:=JT ds 0
 have he:BQ ds=d:=he
 rw[he]
 rcases List.mem_cons.1 hd with h2|h2
 ·subst h2
  refine⟨0,?_⟩
  have:=oX ds[0] (by simp)
  have h3:ds.foldl max 0=0:=he
  rw[List.getElem?_eq_getElem h]
  congr 1;omega
 ·obtain⟨i,hi,hh⟩:=List.getElem_of_mem h2
  exact⟨i,by rw[List.getElem?_eq_getElem hi,hh]⟩
theorem JU{cs:List Code}(hg:Good cs){i:Nat}(hi:i<cs.length)(hd:dep cs i=BQ (N0 cs)):W0 cs i=true:=by
 rw[QL]
 intro x hx e
 obtain⟨k,hk,rfl⟩:=List.getElem_of_mem hx
 have rp:0<k:=by
  rcases Nat.eq_zero_or_pos k with e2|e2
  ·subst e2
   have:=hg.root _ (List.getElem?_eq_getElem hk)
   omega
  ·exact e2
 obtain⟨h1,h2,h3⟩:=Oi hg.before (List.getElem?_eq_getElem hk) rp
 have:par cs k=i:=by omega
 rw[this]at h1
 have:=iK (Bd hk)
 omega
theorem an{nm:List UInt8}{cs:List Code}(h:chk nm cs=0){i:Nat}(hi:i<cs.length)(hl:W0 cs i=true):dep cs i=BQ (N0 cs):=by
 obtain⟨hg,hn,_⟩:=H9 h
 obtain⟨m,hm⟩:=Wd (ds:=N0 cs) (by rw[G8];exact hn)
 have re:m<cs.length:=by rw[←G8 cs];exact(List.getElem?_eq_some_iff.1 hm).1
 have hmd:=CQ hm
 have vA:=JU hg re hmd
 have p1:=Bv (Bd hi)
 have p2:=Bv (Bd re)
 rw[hl]at p1
 rw[vA]at p2
 rw[←hmd]
 exact(Nj _ _ (Wc h) _ _ _ _ p1 p2).1
theorem dp{nm:List UInt8}{cs:List Code}(h:chk nm cs=0):dep cs (cs.length-1)=BQ (N0 cs):=by
 obtain⟨hg,hn,_⟩:=H9 h
 exact an h (by omega) (am hg hn)
theorem FY(nm:List UInt8)(cs:List Code)(nO:cs.length≤9223372036854775807):A3 Tryz.prog 81 [lA nm cs] (.i (C3 nm cs)):=by
 refine C0 Tryz.func81 13 fun nQ E h0=>?_
 repeat'((first|refine A1 (Bb _ _ nO) ?_ |refine S2 ?_|(refine T6 ?_ ?_<;>intro h<;>try exact V1 h)|intro el nN nP|intro el nN|exact T4|refine T5 ?_ ?_|intro ex)<;>try conv=>whnf)
 ·exact A0 rfl (congrArg AV.i (by rw[C3,if_neg h]))
 have hc:chk nm cs=0:=by omega
 have zy:=Bc hc
 obtain⟨hg,hn,_⟩:=H9 hc
 have hd:=Lz hg.before
 have hl:=dp hc
 have e:((cs.length:Int)-1)=((cs.length-1:Nat):Int):=by omega
 repeat'((first|refine A1 (args:=[lA nm cs,.i ((cs.length:Int)-1)]) (by rw[e];exact BE _ _ _ _ hg nO (Bd (j:=cs.length-1) (by omega))) ?_ |refine S2 ?_|(refine T6 ?_ ?_<;>intro h<;>try exact V1 h)|intro el nN nP|intro el nN|exact T4|refine T5 ?_ ?_|intro ex)<;>try conv=>whnf)
 exact A0 rfl (congrArg AV.i (by rw[C3,if_pos hc,hl]))
theorem kd{nm:List UInt8}{cs:List Code}{code level:Int}(h:¬(0≤code∧code<cs.length∧chk nm cs=0∧0≤level∧level≤dep cs code.toNat)):-1=M6 nm cs code level:=by
 rw[M6,if_neg (fun h2=>h (by have:=Dc.1 h2.1;omega))]
theorem We{nm:List UInt8}{cs:List Code}{c:Nat}{level:Int}(h:c<cs.length∧chk nm cs=0∧0≤level∧level≤dep cs c):(QE cs c (dep cs c-level.toNat):Int)=M6 nm cs c level:=by
 rw[M6,if_pos ⟨Dc.2 ⟨by omega,by omega,h.2.1⟩,h.2.2.1,by rw[Int.toNat_natCast];exact h.2.2.2⟩,Int.toNat_natCast]
theorem TK(nm:List UInt8)(cs:List Code)(code level:Int)(nO:cs.length≤9223372036854775807):A3 Tryz.prog 92 [lA nm cs,.i code,.i level] (.i (M6 nm cs code level)):=by
 refine C0 Tryz.func92 44 fun nQ E h0=>?_
 repeat'((first|refine A1 (Bb _ _ nO) ?_|(refine B8 ?_ ?_;kernel_rfl)|refine A1 (args:=[lA nm cs,.i code]) (by rw[show code=((code.toNat:Nat):Int) by omega];exact BE _ _ _ _ (H9 (nm:=nm) (cs:=cs) (by omega)).1 nO (Bd (j:=code.toNat) (by omega))) ?_ |refine S2 ?_|(refine T6 ?_ ?_<;>intro h<;>try exact V1 h)|intro el nN nP|intro el nN|exact T4|refine T5 ?_ ?_|intro ex)<;>try conv=>whnf)
 all_goals first
  |exact A0 rfl (congrArg AV.i (kd (by omega)))
  |skip
 have hc:chk nm cs=0:=by omega
 have zy:=Bc hc
 obtain⟨c0,rfl⟩:=Int.eq_ofNat_of_zero_le (show 0≤code by omega)
 have hg:=(H9 hc).1
 have hb:=hg.before
 have qI:(level:Int)≤dep cs c0:=by
  simp only[Int.toNat_natCast]at *
  omega
 rw[←We (c:=c0) (by omega)]
 have qa:0≤level:=by omega
 have nl:c0<cs.length:=by omega
 refine B2 (ι:=Nat) (fun c=>⟨[(1,.i c),(2,.i level),(3,.ref 0 0)],1,[(0,some (.box [.str nm,.sl 2 (cs.map cA)]))]⟩)
  (fun c=>c<cs.length∧level≤dep cs c∧QE cs c0 (dep cs c0-level.toNat)=QE cs c (dep cs c-level.toNat)) (fun c=>c) c0 ⟨nl,qI,rfl⟩ (A6 h0) (fun c hI=>?_)
 obtain⟨h1,h2,h3⟩:=hI
 repeat'((first|refine A1 (BE _ _ _ _ hg nO (Bd (j:=c) (by omega))) ?_ |refine S2 ?_|(refine T6 ?_ ?_<;>intro h<;>try exact V1 h)|intro el nN nP|intro el nN|exact T4|refine T5 ?_ ?_|intro ex)<;>try conv=>whnf)
 ·have vH:0<c:=by
   rcases Nat.eq_zero_or_pos c with e|e
   ·subst e;rw[Su hb nN]at *;omega
   ·exact e
  obtain⟨e1,e2,e3⟩:=Oi hb nN vH
  have e4:dep cs c-level.toNat=(dep cs (par cs c)-level.toNat)+1:=by omega
  exact⟨par cs c,⟨by omega,by omega,by rw[h3,e4];rfl⟩,e2,A8 h0 rfl ⟨congrArg (fun z:Int=>some (AV.i z)) e3.symm,rfl,rfl,trivial⟩ ⟨rfl,trivial⟩ rfl rfl rfl⟩
 ·refine A0 rfl (congrArg AV.i ?_)
  rw[h3,show dep cs c-level.toNat=0 by omega]
  rfl
theorem CS{nm:List UInt8}{cs:List Code}{code:Int}:R1 nm cs code=if hasB nm cs code=true then (dep cs code.toNat:Int)else -1:=rfl
theorem iL{nm:List UInt8}{cs:List Code}{code ng:Int}(h:¬(0≤R1 nm cs ng)):false=T0 nm cs code ng:=by
 have:hasB nm cs ng=false:=by
  rw[CS]at h
  split at h
  ·omega
  ·rename_i h2;simpa using h2
 simp[T0,this]
theorem iM{nm:List UInt8}{cs:List Code}{code ng:Int}(h:0≤R1 nm cs ng)(h2:¬R1 nm cs ng≤R1 nm cs code):false=T0 nm cs code ng:=by
 rw[CS,CS]at *
 by_cases ha:hasB nm cs ng=true
 ·rw[if_pos ha]at h h2
  by_cases hc:hasB nm cs code=true
  ·rw[if_pos hc]at h2
   have:M6 nm cs code (dep cs ng.toNat)=-1:=by rw[M6,if_neg (by omega)]
   have yb:=Dc.1 ha
   simp only[T0,ha,hc,this,Bool.true_and]
   exact(decide_eq_false (by omega)).symm
  ·have:hasB nm cs code=false:=by simpa using hc
   simp[T0,this]
 ·rw[if_neg ha]at h;omega
theorem iN{nm:List UInt8}{cs:List Code}{code ng:Int}(h:0≤R1 nm cs ng)(h2:R1 nm cs ng≤R1 nm cs code):decide (M6 nm cs code (R1 nm cs ng)=ng)=T0 nm cs code ng:=by
 rw[CS]at h
 by_cases ha:hasB nm cs ng=true
 ·have e:R1 nm cs ng=dep cs ng.toNat:=by rw[CS,if_pos ha]
  rw[e]at h2
  rw[CS]at h2
  by_cases hc:hasB nm cs code=true
  ·simp only[T0,ha,hc,e,Bool.true_and]
  ·rw[if_neg hc]at h2;omega
 ·rw[if_neg ha]at h;omega
-- IF dataenclave/dataenclaveref01.Under
theorem VT(nm:List UInt8)(cs:List Code)(code ng:Int)(nO:cs.length≤9223372036854775807):A3 Tryz.prog 200 [lA nm cs,.i code,.i ng] (.b (T0 nm cs code ng)):=by
 refine C0 Tryz.func200 28 fun nQ E h0=>?_
 repeat'((first|refine A1 (LN _ _ _ nO) ?_|refine A1 (TK _ _ _ _ nO) ?_|(refine B8 ?_ ?_;kernel_rfl) |refine S2 ?_|(refine T6 ?_ ?_<;>intro h<;>try exact V1 h)|intro el nN nP|intro el nN|exact T4|refine T5 ?_ ?_|intro ex)<;>try conv=>whnf)
 all_goals first
  |exact A0 rfl (congrArg AV.b (iL (by assumption)))
  |exact A0 rfl (congrArg AV.b (iM (by assumption) (by assumption)))
  |exact A0 rfl (congrArg AV.b (iN (by assumption) (by assumption)))
theorem TL(nm:List UInt8)(cs:List Code)(level:Int)(nO:cs.length≤9223372036854775807):A3 Tryz.prog 8 [lA nm cs,.i level] (.sl 1 ((H6 nm cs level).map iA)):=by
 refine C0 Tryz.func8 27 fun nQ E h0=>?_
 repeat'((first|refine A1 (Bb _ _ nO) ?_ |refine S2 ?_|(refine T6 ?_ ?_<;>intro h<;>try exact V1 h)|intro el nN nP|intro el nN|exact T4|refine T5 ?_ ?_|intro ex)<;>try conv=>whnf)
 case refine_1=>exact AC (sz:=1) rfl (by rw[H6,if_neg h];rfl)
 have hc:chk nm cs=0:=by omega
 have zy:=Bc hc
 have hg:=(H9 hc).1
 rw[H6,if_pos hc]
 refine B2 (ι:=Nat) (fun k=>⟨[(1,.i level),(2,.ref 0 0),(5,.row 1 0 (FV cs level k).length),(6,.i k)],2,[(0,some (.box [.str nm,.sl 2 (cs.map cA)])),(1,some (.row 3 1 0 ((FV cs level k).map iA)))]⟩) (fun k=>k≤cs.length) (fun k=>cs.length-k) 0 (Nat.zero_le _) (C2 (K4 (d:=5) (e:=3) (sz:=1) rfl) (A8 h0 rfl ⟨rfl,rfl,rfl,rfl,trivial⟩ ⟨rfl,⟨0,rfl⟩,trivial⟩ rfl rfl rfl)) (fun k hI=>?_)
 have si:=Gr cs level k
 repeat'((first|refine A1 (BE _ _ _ _ hg nO (Bd (j:=k) (by omega))) ?_ |refine S2 ?_|(refine T6 ?_ ?_<;>intro h<;>try exact V1 h)|intro el nN nP|intro el nN|exact T4|refine T5 ?_ ?_|intro ex)<;>try conv=>whnf)
 ·refine⟨k+1,?_,?_,A8 h0 rfl ⟨rfl,rfl,congrArg (fun z=>some (AV.row 1 0 z)) ?_,rfl,trivial⟩ ⟨rfl,⟨0,congrArg (C9.row 3 1 0) ?_⟩,trivial⟩ rfl rfl rfl⟩
  ·omega
  ·omega
  ·rw[KW h,List.length_append];rfl
  ·rw[KW h,List.map_append];rfl
 ·refine⟨k+1,?_,?_,A8 h0 rfl ⟨rfl,rfl,congrArg (fun z=>some (AV.row 1 0 z)) ?_,rfl,trivial⟩ ⟨rfl,⟨0,congrArg (C9.row 3 1 0) ?_⟩,trivial⟩ rfl rfl rfl⟩
  ·omega
  ·omega
  ·rw[Na h]
  ·rw[Na h]
 ·apply A0
  ·rfl
  ·rw[show cs.length=k by omega]
   rfl
end Go.Proofs.YtjkbhaaobhgkdabGreatDoor
namespace Go.Proofs.YtjkbhaaobhgkdabGreatDoor
open Go Go.Av
attribute [local irreducible] D0 B0 D2 C7 DQ D1 C8 St.le A3 B6
set_option maxRecDepth 100000
theorem Hh{nm:List UInt8}{cs:List Code}(h:chk nm cs=0){v:Nat}(hv:v<cs.length):R1 nm cs v=C3 nm cs-1↔W0 cs v=true:=by
 have hg:=(H9 h).1
 have hn:=(H9 h).2.1
 have e1:R1 nm cs v=dep cs v:=(Ek (nm:=nm) (cs:=cs) (code:=v) ⟨by omega,by omega,h⟩).symm
 have e2:C3 nm cs=BQ (N0 cs)+1:=by rw[C3,if_pos h]
 rw[e1,e2]
 obtain⟨i,hi⟩:=Wd (ds:=N0 cs) (by rw[G8];exact hn)
 have tZ:i<cs.length:=by rw[←G8 cs];exact D6 hi
 have xi:=CQ hi
 have uI:=JU hg tZ xi
 constructor
 ·intro e
  exact JU hg hv (by omega)
 ·intro hl
  have hp1:(o8 cs)[i]?=some (true,BQ (N0 cs)):=by rw[Bv hi,uI]
  have hp2:(o8 cs)[v]?=some (true,dep cs v):=by rw[Bv (Bd hv),hl]
  have:=(Nj _ _ (Wc h) v i _ _ hp2 hp1).1
  omega
def J3(s:A4)(column:Int):List Nat:=H6 (C1 s (B4 s column)).1 (C1 s (B4 s column)).2 (C3 (C1 s (B4 s column)).1 (C1 s (B4 s column)).2-1)
theorem GX(s:A4)(column:Int){c:D4}(qv:0≤column)(hc:s.cols[column.toNat]?=some c)(hl:0≤c.lst∧c.lst<s.lists.length):A3 Tryz.prog 116 [sA s,.i column] (.sl 1 ((J3 s column).map iA)):=by
 refine C0 Tryz.func116 21 fun nQ E h0=>?_
 obtain⟨om,oF,pV⟩:=W7 (s:=s) (nQ _ (by simp))
 clear nQ
 obtain⟨l,ol⟩:∃l,s.lists[c.lst.toNat]?=some l:=⟨_,List.getElem?_eq_getElem (by omega)⟩
 have rl:=pV l (List.mem_of_getElem? ol)
 have tx:=l7 (nm:=l.1) rl
 have qG:=FY l.1 l.2 rl
 have qB:=TL l.1 l.2 (C3 l.1 l.2-1) rl
 have e:J3 s column=H6 l.1 l.2 (C3 l.1 l.2-1):=by rw[J3,B7 hc,I7 ol]
 rw[e]
 repeat'((first|refine S2 ?_|(refine T6 ?_ ?_<;>intro h<;>try exact V1 h)|intro el nN nP|intro el nN|exact T4|refine T5 ?_ ?_|intro ex)<;>try conv=>whnf)
 refine JN ⟨[(2,.ref 0 0),(1,.i column),(5,.ref 1 0)],2,[(0,some (.box (sL s))),(1,some (.box (z1 l)))]⟩ ?_ ?_
 ·repeat'((first|(refine A2 (x:=c) hc (by omega) ?_)|(refine A2 (x:=l) ol (by omega) ?_) |refine S2 ?_|(refine T6 ?_ ?_<;>intro h<;>try exact V1 h)|intro el nN nP|intro el nN|exact T4|refine T5 ?_ ?_|intro ex)<;>try conv=>whnf)
  all_goals first|exact A8 h0 rfl ⟨rfl,rfl,rfl,trivial⟩ ⟨rfl,rfl,trivial⟩ rfl rfl rfl|trace_state
 repeat'((first|refine A1 qG ?_|refine A1 qB ?_|(refine B8 ?_ ?_;kernel_rfl) |refine S2 ?_|(refine T6 ?_ ?_<;>intro h<;>try exact V1 h)|intro el nN nP|intro el nN|exact T4|refine T5 ?_ ?_|intro ex)<;>try conv=>whnf)
 all_goals exact A0 rfl rfl
theorem Ou{nm:List UInt8}{cs:List Code}{level:Int}{x:Nat}(h:x∈H6 nm cs level):chk nm cs=0∧x<cs.length∧(dep cs x:Int)=level:=by
 unfold H6 at h
 split at h
 ·rename_i hk
  simp only[FV,List.mem_filter,List.mem_range,decide_eq_true_eq]at h
  exact⟨hk,h.1,h.2⟩
 ·cases h
theorem Ov{s:A4}(hr:C5 s=0){column:Int}(h1:1≤column)(h2:column<s.cols.length):0≤F0 s column:=by
 have hc:s.cols[column.toNat]?=some s.cols[column.toNat]:=List.getElem?_eq_getElem (by omega)
 have ow:=CR hr h1 hc
 rw[F0,if_neg (by omega),B7 hc]
 generalize s.cols[column.toNat]=c at ow
 unfold N7
 rcases ow with ow|ow
 ·rw[if_pos ow.1]
  have hl:s.lists[c.lst.toNat]?=some (s.lists[c.lst.toNat]'(by omega)):=List.getElem?_eq_getElem (by omega)
  have hk:=(F2 hr).2.2.1 _ (List.mem_of_getElem? hl)
  rw[I7 hl,C3,if_pos hk]
  omega
 ·rw[if_neg (by omega)];omega
theorem QM{v w:Int}(hw:1≤w):v.tmod w=0↔C6 v w=v:=by
 have:=Fw v hw
 have:=Ok v hw
 unfold C6
 omega
end Go.Proofs.YtjkbhaaobhgkdabGreatDoor

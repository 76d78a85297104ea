/- Chapter 5: right conditions in parts, truth values out of those of their parts. -/
import Derived.Test.YtiphlhoclaogjaaGreatDoorRC1
import Derived.Test.YtiphlhoclaogjaaGreatDoorRB4
import Derived.Test.YtiphlhoclaogjaaGreatDoorRE3
import Derived.Test.YtiphlhoclaogjaaGreatDoorRCd1
set_option linter.unusedVariables false
set_option linter.unnecessarySimpa false
set_option linter.unusedSimpArgs false
set_option maxHeartbeats 64000000
namespace Go.Proofs.YtiphlhoclaogjaaGreatDoor
open Go Go.Av
attribute [local irreducible] C9 B3 C7 D1 DQ D0 C6 St.le A3 B7
set_option maxRecDepth 100000
theorem y6{s:A4}{c:B6}(h:I0 s c=0):(1≤c.op∧c.op≤7)∧(c.kids.length:Int)=q8 c.op∧(c.op=2∨c.op=3∨c.op=4→0≤c.col∧c.col<s.cols.length)∧(c.op=2→(B8 s c.col).kind=2∧0≤c.code∧c.code<(C2 s (B8 s c.col)).2.length)∧(c.op=3→(B8 s c.col).kind=3∧c.lo≤c.hi∧-1000000≤c.lo∧c.hi≤1000000)∧(c.op=4→(B8 s c.col).kind=3∧(B8 s c.col).opt=true):=by
 unfold I0 at h
 by_cases h1:c.op<1∨7<c.op
 ·rw[if_pos h1]at h;cases h
 rw[if_neg h1]at h
 split at h
 ·cases h
 rename_i h2
 by_cases h3:c.op≠2∧c.op≠3∧c.op≠4
 ·exact⟨by omega,by omega,fun _=>by omega,fun _=>by omega,fun _=>by omega,fun _=>by omega⟩
 rw[if_neg h3]at h
 by_cases h4:c.col<0∨(s.cols.length:Int)≤c.col
 ·rw[if_pos h4]at h;cases h
 rw[if_neg h4]at h
 by_cases h5:c.op=2
 ·rw[if_pos h5]at h
  split at h
  ·cases h
  split at h
  ·cases h
  exact⟨by omega,by omega,fun _=>by omega,fun _=>by omega,fun _=>by omega,fun _=>by omega⟩
 rw[if_neg h5]at h
 by_cases h6:c.op=3
 ·rw[if_pos h6]at h
  split at h
  ·cases h
  split at h
  ·cases h
  exact⟨by omega,by omega,fun _=>by omega,fun _=>by omega,fun _=>by omega,fun _=>by omega⟩
 rw[if_neg h6]at h
 split at h
 ·cases h
 rename_i h7
 refine⟨by omega,by omega,fun _=>by omega,fun _=>by omega,fun _=>by omega,fun _=>⟨?_,?_⟩⟩
 ·exact Decidable.of_not_not fun hh=>h7 (.inl hh)
 ·cases ho:(B8 s c.col).opt
  ·exact absurd (.inr ho) h7
  ·rfl
theorem So{s:A4}:∀{l:List B6},u3 s l=0→∀k∈l,Z9 s k=0
 |[],_,k,hk=>by cases hk
 |x::r,h,k,hk=>by
  unfold u3 at h
  by_cases hx:Z9 s x=0
  ·rw[if_pos hx]at h
   rcases List.mem_cons.1 hk with rfl|hk
   ·exact hx
   ·exact So h k hk
  ·rw[if_neg hx]at h;exact absurd h hx
theorem Ci{s:A4}{c:B6}(h:Z9 s c=0):I0 s c=0∧∀k∈c.kids,Z9 s k=0:=by
 rw[Oc]at h
 by_cases h1:I0 s c=0
 ·rw[if_pos h1]at h
  exact⟨h1,So h⟩
 ·rw[if_neg h1]at h;exact absurd h h1
theorem o0{s:A4}{c:B6}(h:J6 s c=0):C3 s=0∧d8 c≤40∧d7 c≤10∧Z9 s c=0:=by
 unfold J6 at h
 by_cases h1:C3 s=0
 ·rw[if_pos h1]at h
  split at h
  ·cases h
  split at h
  ·cases h
  exact⟨h1,by omega,by omega,h⟩
 ·rw[if_neg h1]at h;exact absurd h h1
theorem Sp{a k:B6}:∀{l:List B6},k∈l→a∈k0 k→a∈a6 l
 |x::r,hk,ha=>by
  unfold a6
  rcases List.mem_cons.1 hk with rfl|hk
  ·exact List.mem_append_left _ ha
  ·exact List.mem_append_right _ (Sp hk ha)
theorem Sq{a:B6}:∀{l:List B6},a∈a6 l→∃k∈l,a∈k0 k
 |[],h=>by simp[a6]at h
 |x::r,h=>by
  unfold a6 at h
  rcases List.mem_append.1 h with h|h
  ·exact⟨x,by simp,h⟩
  ·obtain⟨k,hk,ha⟩:=Sq h
   exact⟨k,by simp[hk],ha⟩
theorem WA{a c k:B6}(ho:¬(c.op=2∨c.op=3∨c.op=4))(hk:k∈c.kids)(ha:a∈k0 k):a∈k0 c:=by
 rw[DM,if_neg ho]
 exact Sp hk ha
theorem Fl{s:A4}(c:B6):Z9 s c=0→∀a∈k0 c,I0 s a=0∧(a.op=2∨a.op=3∨a.op=4):=by
 refine N4 (p:=fun c=>Z9 s c=0→∀a∈k0 c,I0 s a=0∧(a.op=2∨a.op=3∨a.op=4)) (fun c ih h a ha=>?_) c
 obtain⟨h1,h2⟩:=Ci h
 rw[DM]at ha
 split at ha
 ·rename_i ho
  rw[List.mem_singleton]at ha
  subst ha
  exact⟨h1,ho⟩
 ·obtain⟨k,hk,hak⟩:=Sq ha
  exact ih k hk (h2 k hk) a hak
def Y8(op:Int)(vs:List Int)(one:Int):Int:=if op=1 then 1 else if op=5 then min (vs.getD 0 0) (vs.getD 1 0)else if op=6 then max (vs.getD 0 0) (vs.getD 1 0)else if op=7 then -(vs.getD 0 0)else one
mutual
def U7(g:B6→Int):B6→Int
 |.mk o c k l h ks=>Y8 o (Xf g ks) (g (.mk o c k l h ks))
def Xf(g:B6→Int):List B6→List Int
 |[]=>[]
 |x::r=>U7 g x::Xf g r
end
theorem Sr(g:B6→Int):∀l,Xf g l=l.map (U7 g)
 |[]=>rfl
 |x::r=>by rw[Xf,Sr g r];rfl
theorem DN(g:B6→Int)(c:B6):U7 g c=Y8 c.op (c.kids.map (U7 g)) (g c):=by
 cases c
 rw[U7,Sr];rfl
theorem FF{α:Type}{l:List α}{f:α→Int}{k:Nat}{x:α}(h:l[k]?=some x):(l.map f).getD k 0=f x:=by
 rw[List.getD_eq_getElem?_getD,List.getElem?_map,h];rfl
theorem WB{l:List Int}(h:∀v∈l,-1≤v∧v≤1)(k:Nat):-1≤l.getD k 0∧l.getD k 0≤1:=by
 rw[List.getD_eq_getElem?_getD]
 cases hk:l[k]? with
 |none=>exact⟨by decide,by decide⟩
 |some v=>exact h v (List.mem_of_getElem? hk)
theorem cu{op:Int}{vs:List Int}{one:Int}(h:∀v∈vs,-1≤v∧v≤1)(h1:-1≤one∧one≤1):-1≤Y8 op vs one∧Y8 op vs one≤1:=by
 have a0:=WB h 0
 have a1:=WB h 1
 unfold Y8
 (repeat' split)<;>omega
theorem Od{g:B6→Int}(hg:∀a,-1≤g a∧g a≤1)(c:B6):-1≤U7 g c∧U7 g c≤1:=by
 refine N4 (p:=fun c=>-1≤U7 g c∧U7 g c≤1) (fun c ih=>?_) c
 rw[DN]
 refine cu (fun v hv=>?_) (hg c)
 obtain⟨k,hk,rfl⟩:=List.mem_map.1 hv
 exact ih k hk
theorem Xg{s:A4}{g g':B6→Int}(c:B6):Z9 s c=0→(∀a∈k0 c,g a=g' a)→U7 g c=U7 g' c:=by
 refine N4 (p:=fun c=>Z9 s c=0→(∀a∈k0 c,g a=g' a)→U7 g c=U7 g' c) (fun c ih h hg=>?_) c
 obtain⟨h1,h2⟩:=Ci h
 obtain⟨p1,p2,_⟩:=y6 h1
 rw[DN,DN]
 by_cases ho:c.op=2∨c.op=3∨c.op=4
 ·rw[DM,if_pos ho]at hg
  have:=hg c (by simp)
  obtain⟨k1,k2,k3⟩:=Gj c.op
  have oR:c.kids=[]:=List.eq_nil_of_length_eq_zero (by have:=k3 (by omega) (by omega) (by omega);omega)
  rw[oR,this];rfl
 ·have:c.kids.map (U7 g)=c.kids.map (U7 g'):=List.map_congr_left fun k hk=>ih k hk (h2 k hk) fun a ha=>hg a (WA ho hk ha)
  rw[this]
  unfold Y8
  (repeat' split)<;>first|rfl|omega
theorem gN(b:Bool):-1≤GH b∧GH b≤1:=by unfold GH;split<;>omega
theorem Ld(s:A4)(c:B6)(v:Int):-1≤M2 s c v∧M2 s c v≤1:=by
 unfold M2
 (repeat' split)<;>first|exact gN _|omega
def Cj(s:A4)(c:B6)(row:List Int):Int:=U7 (fun a=>M2 s a (row.getD a.col.toNat 0)) c
def Ss(s:A4)(c:B6)(row:List Int):Int:=if J6 s c=0∧AH s row=0 then Cj s c row else 0
theorem HY{s:A4}{row:List Int}(h:AH s row=0):C3 s=0∧row.length=s.cols.length:=by
 unfold AH at h
 by_cases h1:C3 s=0
 ·rw[if_pos h1]at h
  by_cases h2:NJ s row=true
  ·unfold NJ at h2
   simp only[Bool.and_eq_true,decide_eq_true_eq]at h2
   exact⟨h1,h2.1⟩
  ·rw[if_neg h2]at h;cases h
 ·rw[if_neg h1]at h;exact absurd h h1
theorem Ds{s:A4}(hr:C3 s=0){a:B6}(h:I0 s a=0):a.op=2→∃x lx,0≤a.col∧s.cols[a.col.toNat]?=some x∧0≤x.lst∧s.lists[x.lst.toNat]?=some lx:=by
 intro h2
 obtain⟨_,_,p3,p4,_⟩:=y6 h
 have hc:=p3 (.inl h2)
 obtain⟨hk,_⟩:=p4 h2
 obtain⟨x,hx⟩:∃x,s.cols[a.col.toNat]?=some x:=⟨_,List.getElem?_eq_getElem (by omega)⟩
 rw[C1 hx]at hk
 have hl:=z8.lst hr (List.mem_of_getElem? hx) hk
 exact⟨x,_,hc.1,hx,hl.1,List.getElem?_eq_getElem (by omega)⟩
end Go.Proofs.YtiphlhoclaogjaaGreatDoor
namespace Go.Proofs.YtiphlhoclaogjaaGreatDoor
open Go Go.Av
attribute [local irreducible] C9 B3 C7 DQ D0 C6 St.le A3 B7
theorem DO{nm:List UInt8}{cs:List Code}{code:Int}:hasB nm cs code=true↔0≤code∧code<cs.length∧chk nm cs=0:=by
 simp[hasB,and_assoc]
theorem aC{nm:List UInt8}{cs:List Code}{code:Int}(h:¬(0≤code∧code<cs.length∧chk nm cs=0)):-1=T1 nm cs code:=by
 rw[T1,if_neg (fun h2=>h (DO.1 h2))]
theorem EU{nm:List UInt8}{cs:List Code}{code:Int}(h:0≤code∧code<cs.length∧chk nm cs=0):(dep cs code.toNat:Int)=T1 nm cs code:=by
 rw[T1,if_pos (DO.2 h)];rfl
theorem Ko(nm:List UInt8)(cs:List Code)(code:Int)(mL:cs.length≤9223372036854775807):A3 Tryz.prog 84 [lA nm cs,.i code] (.i (T1 nm cs code)):=by
 refine B5 Tryz.func84 22 fun mK E h0=>?_
 repeat'((first|refine A0 (BU _ _ mL) ?_|(refine B0 ?_ ?_;kernel_rfl) |refine S2 ?_|(refine T6 ?_ ?_<;>intro h<;>try exact V1 h)|intro el mI mJ|intro el mI|exact T4|refine T5 ?_ ?_|intro ex)<;>try conv=>whnf)
 all_goals first
  |exact A1 rfl (congrArg AV.i (aC (by omega)))
  |skip
 have hg:=(G9 (nm:=nm) (cs:=cs) (by omega)).1
 obtain⟨c,rfl⟩:=Int.eq_ofNat_of_zero_le (show 0≤code by omega)
 rw[←EU (by omega)]
 repeat'((first|refine A0 (BC _ _ _ _ hg mL (BX (j:=c) (by omega))) ?_ |refine S2 ?_|(refine T6 ?_ ?_<;>intro h<;>try exact V1 h)|intro el mI mJ|intro el mI|exact T4|refine T5 ?_ ?_|intro ex)<;>try conv=>whnf)
 exact A1 rfl rfl
theorem NR:∀(ps:List (Bool×Nat)) (l:Int),lv l ps=true→∀(i j:Nat) d e,ps[i]?=some (true,d)→ps[j]?=some (true,e)→d=e∧(0≤l→(d:Int)=l)
 |[],l,_,i,j,d,e,h,_=>by simp at h
 |(lf,x)::r,l,hl,i,j,d,e,hi,hj=>by
  unfold lv at hl
  cases lf with
  |false =>
   simp only[Bool.false_eq_true,if_false]at hl
   cases i with
   |zero=>simp at hi
   |succ i=>cases j with
    |zero=>simp at hj
    |succ j=>exact NR r l hl i j d e (by simpa using hi) (by simpa using hj)
  |true =>
   simp only[if_true]at hl
   split at hl
   ·cases hl
   ·rename_i hx
    have first:∀(k:Nat) y,((true,x)::r)[k]?=some (true,y)→(y:Int)=x:=by
     intro k y hk
     cases k with
     |zero=>simp at hk;omega
     |succ k =>
      have nH:r[k]?=some (true,y):=by simpa using hk
      exact(NR r x hl k k y y nH nH).2 (by omega)
    have h1:=first i d hi
    have h2:=first j e hj
    exact⟨by omega,fun h0=>by omega⟩
theorem WC{nm:List UInt8}{cs:List Code}(h:chk nm cs=0):lv (-1) (s7 cs)=true:=by
 unfold chk at h
 split at h
 ·cases h
 ·split at h
  ·cases h
  ·split at h
   ·cases h
   ·cases hs:scan [] cs with
    |some e =>
     rw[hs]at h
     have:∀(cs pre:List Code) e,scan pre cs=some e→e=3∨e=10∨e=6:=by
      intro cs
      induction cs with
      |nil=>intro pre e h;cases h
      |cons a r ih =>
       intro pre e h
       simp only[scan]at h
       split at h
       ·cases h;exact .inl rfl
       ·split at h
        ·cases h;exact .inr (.inl rfl)
        ·split at h
         ·cases h;exact .inr (.inr rfl)
         ·exact ih _ _ h
     have:=this _ _ _ hs
     simp only at h
     omega
    |none =>
     rw[hs]at h
     simp only at h
     split at h
     ·assumption
     ·cases h
theorem Px{cs:List Code}{c:Int}:Y7 cs c=true↔∀x∈cs,x.parent≠c:=by
 simp[Y7,List.all_eq_true]
theorem aD{cs:List Code}(hg:Good cs)(hn:0<cs.length):Y7 cs (cs.length-1:Nat)=true:=by
 rw[Px]
 intro x hx
 obtain⟨i,hi,rfl⟩:=List.getElem_of_mem hx
 rcases Nat.eq_zero_or_pos i with e|e
 ·subst e
  have:=hg.root _ (List.getElem?_eq_getElem hi)
  omega
 ·have:=hg.before i _ (List.getElem?_eq_getElem hi) e
  omega
theorem JC:∀(ds:List Nat) (a:Nat),(∃d∈a::ds,ds.foldl max a=d)∧∀d∈a::ds,d≤ds.foldl max a
 |[],a=>⟨⟨a,by simp,rfl⟩,fun d hd=>by simp at hd;subst hd;exact Nat.le_refl _⟩
 |x::r,a=>by
  obtain⟨⟨d,hd,he⟩,mh⟩:=JC r (max a x)
  refine⟨⟨d,?_,he⟩,fun y hy=>?_⟩
  ·rcases List.mem_cons.1 hd with h|h
   ·rcases Nat.le_total a x with h2|h2
    ·rw[Nat.max_eq_right h2]at h;simp[h]
    ·rw[Nat.max_eq_left h2]at h;simp[h]
   ·simp[h]
  ·have h1:=mh (max a x) (by simp)
   rcases List.mem_cons.1 hy with h|h
   ·subst h;show _≤List.foldl max (max y x) r;omega
   ·rcases List.mem_cons.1 h with h|h
    ·subst h;show _≤List.foldl max (max a y) r;omega
    ·exact mh y (by simp[h])
theorem gO{ds:List Nat}{i d:Nat}(h:ds[i]?=some d):d≤BM ds:=(JC ds 0).2 d (by simp[List.mem_of_getElem? h])
theorem WD{ds:List Nat}(h:0<ds.length):∃i:Nat,ds[i]?=some (BM ds):=by
 obtain⟨⟨d,hd,he⟩,mh⟩:=JC ds 0
 have he:BM ds=d:=he
 rw[he]
 rcases List.mem_cons.1 hd with h2|h2
 ·subst h2
  refine⟨0,?_⟩
  have:=mh ds[0] (by simp)
  have h3:ds.foldl max 0=0:=he
  rw[List.getElem?_eq_getElem h]
  congr 1;omega
 ·obtain⟨i,hi,hh⟩:=List.getElem_of_mem h2
  exact⟨i,by rw[List.getElem?_eq_getElem hi,hh]⟩
theorem JD{cs:List Code}(hg:Good cs){i:Nat}(hi:i<cs.length)(hd:dep cs i=BM (O0 cs)):Y7 cs i=true:=by
 rw[Px]
 intro x hx e
 obtain⟨k,hk,rfl⟩:=List.getElem_of_mem hx
 have qr:0<k:=by
  rcases Nat.eq_zero_or_pos k with e2|e2
  ·subst e2
   have:=hg.root _ (List.getElem?_eq_getElem hk)
   omega
  ·exact e2
 obtain⟨h1,h2,h3⟩:=OU hg.before (List.getElem?_eq_getElem hk) qr
 have:par cs k=i:=by omega
 rw[this]at h1
 have:=gO (BX hk)
 omega
theorem aE{nm:List UInt8}{cs:List Code}(h:chk nm cs=0){i:Nat}(hi:i<cs.length)(hl:Y7 cs i=true):dep cs i=BM (O0 cs):=by
 obtain⟨hg,hn,_⟩:=G9 h
 obtain⟨m,hm⟩:=WD (ds:=O0 cs) (by rw[H5];exact hn)
 have pj:m<cs.length:=by rw[←H5 cs];exact(List.getElem?_eq_some_iff.1 hm).1
 have xv:=CI hm
 have ul:=JD hg pj xv
 have p1:=Bq (BX hi)
 have p2:=Bq (BX pj)
 rw[hl]at p1
 rw[ul]at p2
 rw[←xv]
 exact(NR _ _ (WC h) _ _ _ _ p1 p2).1
theorem cw{nm:List UInt8}{cs:List Code}(h:chk nm cs=0):dep cs (cs.length-1)=BM (O0 cs):=by
 obtain⟨hg,hn,_⟩:=G9 h
 exact aE h (by omega) (aD hg hn)
theorem FG(nm:List UInt8)(cs:List Code)(mL:cs.length≤9223372036854775807):A3 Tryz.prog 80 [lA nm cs] (.i (C5 nm cs)):=by
 refine B5 Tryz.func80 13 fun mK E h0=>?_
 repeat'((first|refine A0 (BU _ _ mL) ?_ |refine S2 ?_|(refine T6 ?_ ?_<;>intro h<;>try exact V1 h)|intro el mI mJ|intro el mI|exact T4|refine T5 ?_ ?_|intro ex)<;>try conv=>whnf)
 ·exact A1 rfl (congrArg AV.i (by rw[C5,if_neg h]))
 have hc:chk nm cs=0:=by omega
 have vz:=An hc
 obtain⟨hg,hn,_⟩:=G9 hc
 have hd:=Lc hg.before
 have hl:=cw hc
 have e:((cs.length:Int)-1)=((cs.length-1:Nat):Int):=by omega
 repeat'((first|refine A0 (args:=[lA nm cs,.i ((cs.length:Int)-1)]) (by rw[e];exact BC _ _ _ _ hg mL (BX (j:=cs.length-1) (by omega))) ?_ |refine S2 ?_|(refine T6 ?_ ?_<;>intro h<;>try exact V1 h)|intro el mI mJ|intro el mI|exact T4|refine T5 ?_ ?_|intro ex)<;>try conv=>whnf)
 exact A1 rfl (congrArg AV.i (by rw[C5,if_pos hc,hl]))
theorem jh{nm:List UInt8}{cs:List Code}{code level:Int}(h:¬(0≤code∧code<cs.length∧chk nm cs=0∧0≤level∧level≤dep cs code.toNat)):-1=L1 nm cs code level:=by
 rw[L1,if_neg (fun h2=>h (by have:=DO.1 h2.1;omega))]
theorem WE{nm:List UInt8}{cs:List Code}{c:Nat}{level:Int}(h:c<cs.length∧chk nm cs=0∧0≤level∧level≤dep cs c):(Pq cs c (dep cs c-level.toNat):Int)=L1 nm cs c level:=by
 rw[L1,if_pos ⟨DO.2 ⟨by omega,by omega,h.2.1⟩,h.2.2.1,by rw[Int.toNat_natCast];exact h.2.2.2⟩,Int.toNat_natCast]
theorem Su(nm:List UInt8)(cs:List Code)(code level:Int)(mL:cs.length≤9223372036854775807):A3 Tryz.prog 85 [lA nm cs,.i code,.i level] (.i (L1 nm cs code level)):=by
 refine B5 Tryz.func85 44 fun mK E h0=>?_
 repeat'((first|refine A0 (BU _ _ mL) ?_|(refine B0 ?_ ?_;kernel_rfl)|refine A0 (args:=[lA nm cs,.i code]) (by rw[show code=((code.toNat:Nat):Int) by omega];exact BC _ _ _ _ (G9 (nm:=nm) (cs:=cs) (by omega)).1 mL (BX (j:=code.toNat) (by omega))) ?_ |refine S2 ?_|(refine T6 ?_ ?_<;>intro h<;>try exact V1 h)|intro el mI mJ|intro el mI|exact T4|refine T5 ?_ ?_|intro ex)<;>try conv=>whnf)
 all_goals first
  |exact A1 rfl (congrArg AV.i (jh (by omega)))
  |skip
 have hc:chk nm cs=0:=by omega
 have vz:=An hc
 obtain⟨c0,rfl⟩:=Int.eq_ofNat_of_zero_le (show 0≤code by omega)
 have hg:=(G9 hc).1
 have hb:=hg.before
 have pB:(level:Int)≤dep cs c0:=by
  simp only[Int.toNat_natCast]at *
  omega
 rw[←WE (c:=c0) (by omega)]
 have oV:0≤level:=by omega
 have mf:c0<cs.length:=by omega
 refine A9 (ι:=Nat) (fun c=>⟨[(1,.i c),(2,.i level),(3,.ref 0 0)],1,[(0,some (.box [.str nm,.sl 2 (cs.map cA)]))]⟩)
  (fun c=>c<cs.length∧level≤dep cs c∧Pq cs c0 (dep cs c0-level.toNat)=Pq cs c (dep cs c-level.toNat)) (fun c=>c) c0 ⟨mf,pB,rfl⟩ (A6 h0) (fun c hI=>?_)
 obtain⟨h1,h2,h3⟩:=hI
 repeat'((first|refine A0 (BC _ _ _ _ hg mL (BX (j:=c) (by omega))) ?_ |refine S2 ?_|(refine T6 ?_ ?_<;>intro h<;>try exact V1 h)|intro el mI mJ|intro el mI|exact T4|refine T5 ?_ ?_|intro ex)<;>try conv=>whnf)
 ·have vJ:0<c:=by
   rcases Nat.eq_zero_or_pos c with e|e
   ·subst e;rw[Se hb mI]at *;omega
   ·exact e
  obtain⟨e1,e2,e3⟩:=OU hb mI vJ
  have e4:dep cs c-level.toNat=(dep cs (par cs c)-level.toNat)+1:=by omega
  exact⟨par cs c,⟨by omega,by omega,by rw[h3,e4];rfl⟩,e2,A7 h0 rfl ⟨congrArg (fun z:Int=>some (AV.i z)) e3.symm,rfl,rfl,trivial⟩ ⟨rfl,trivial⟩ rfl rfl rfl⟩
 ·refine A1 rfl (congrArg AV.i ?_)
  rw[h3,show dep cs c-level.toNat=0 by omega]
  rfl
theorem CK{nm:List UInt8}{cs:List Code}{code:Int}:T1 nm cs code=if hasB nm cs code=true then (dep cs code.toNat:Int)else -1:=rfl
theorem gP{nm:List UInt8}{cs:List Code}{code me:Int}(h:¬(0≤T1 nm cs me)):false=t8 nm cs code me:=by
 have:hasB nm cs me=false:=by
  rw[CK]at h
  split at h
  ·omega
  ·rename_i h2;simpa using h2
 simp[t8,this]
theorem gQ{nm:List UInt8}{cs:List Code}{code me:Int}(h:0≤T1 nm cs me)(h2:¬T1 nm cs me≤T1 nm cs code):false=t8 nm cs code me:=by
 rw[CK,CK]at *
 by_cases ha:hasB nm cs me=true
 ·rw[if_pos ha]at h h2
  by_cases hc:hasB nm cs code=true
  ·rw[if_pos hc]at h2
   have:L1 nm cs code (dep cs me.toNat)=-1:=by rw[L1,if_neg (by omega)]
   have td:=DO.1 ha
   simp only[t8,ha,hc,this,Bool.true_and]
   exact(decide_eq_false (by omega)).symm
  ·have:hasB nm cs code=false:=by simpa using hc
   simp[t8,this]
 ·rw[if_neg ha]at h;omega
theorem gR{nm:List UInt8}{cs:List Code}{code me:Int}(h:0≤T1 nm cs me)(h2:T1 nm cs me≤T1 nm cs code):decide (L1 nm cs code (T1 nm cs me)=me)=t8 nm cs code me:=by
 rw[CK]at h
 by_cases ha:hasB nm cs me=true
 ·have e:T1 nm cs me=dep cs me.toNat:=by rw[CK,if_pos ha]
  rw[e]at h2
  rw[CK]at h2
  by_cases hc:hasB nm cs code=true
  ·simp only[t8,ha,hc,e,Bool.true_and]
  ·rw[if_neg hc]at h2;omega
 ·rw[if_neg ha]at h;omega
-- IF dataenclave/dataenclaveref01.Under
theorem Uv(nm:List UInt8)(cs:List Code)(code me:Int)(mL:cs.length≤9223372036854775807):A3 Tryz.prog 34 [lA nm cs,.i code,.i me] (.b (t8 nm cs code me)):=by
 refine B5 Tryz.func34 28 fun mK E h0=>?_
 repeat'((first|refine A0 (Ko _ _ _ mL) ?_|refine A0 (Su _ _ _ _ mL) ?_|(refine B0 ?_ ?_;kernel_rfl) |refine S2 ?_|(refine T6 ?_ ?_<;>intro h<;>try exact V1 h)|intro el mI mJ|intro el mI|exact T4|refine T5 ?_ ?_|intro ex)<;>try conv=>whnf)
 all_goals first
  |exact A1 rfl (congrArg AV.b (gP (by assumption)))
  |exact A1 rfl (congrArg AV.b (gQ (by assumption) (by assumption)))
  |exact A1 rfl (congrArg AV.b (gR (by assumption) (by assumption)))
theorem FH(nm:List UInt8)(cs:List Code)(level:Int)(mL:cs.length≤9223372036854775807):A3 Tryz.prog 30 [lA nm cs,.i level] (.sl 1 ((H1 nm cs level).map iA)):=by
 refine B5 Tryz.func30 27 fun mK E h0=>?_
 repeat'((first|refine A0 (BU _ _ mL) ?_ |refine S2 ?_|(refine T6 ?_ ?_<;>intro h<;>try exact V1 h)|intro el mI mJ|intro el mI|exact T4|refine T5 ?_ ?_|intro ex)<;>try conv=>whnf)
 case refine_1=>exact l5 (sz:=1) rfl (by rw[H1,if_neg h];rfl)
 have hc:chk nm cs=0:=by omega
 have vz:=An hc
 have hg:=(G9 hc).1
 rw[H1,if_pos hc]
 refine A9 (ι:=Nat) (fun k=>⟨[(1,.i level),(2,.ref 0 0),(5,.row 1 0 (Fi cs level k).length),(6,.i k)],2,[(0,some (.box [.str nm,.sl 2 (cs.map cA)])),(1,some (.row 3 1 0 ((Fi cs level k).map iA)))]⟩) (fun k=>k≤cs.length) (fun k=>cs.length-k) 0 (Nat.zero_le _) (B9 (H7 (d:=5) (e:=3) (sz:=1) rfl) (A7 h0 rfl ⟨rfl,rfl,rfl,rfl,trivial⟩ ⟨rfl,⟨0,rfl⟩,trivial⟩ rfl rfl rfl)) (fun k hI=>?_)
 have rQ:=Dp cs level k
 repeat'((first|refine A0 (BC _ _ _ _ hg mL (BX (j:=k) (by omega))) ?_ |refine S2 ?_|(refine T6 ?_ ?_<;>intro h<;>try exact V1 h)|intro el mI mJ|intro el mI|exact T4|refine T5 ?_ ?_|intro ex)<;>try conv=>whnf)
 ·refine⟨k+1,?_,?_,A7 h0 rfl ⟨rfl,rfl,congrArg (fun z=>some (AV.row 1 0 z)) ?_,rfl,trivial⟩ ⟨rfl,⟨0,congrArg (C4.row 3 1 0) ?_⟩,trivial⟩ rfl rfl rfl⟩
  ·omega
  ·omega
  ·rw[KA h,List.length_append];rfl
  ·rw[KA h,List.map_append];rfl
 ·refine⟨k+1,?_,?_,A7 h0 rfl ⟨rfl,rfl,congrArg (fun z=>some (AV.row 1 0 z)) ?_,rfl,trivial⟩ ⟨rfl,⟨0,congrArg (C4.row 3 1 0) ?_⟩,trivial⟩ rfl rfl rfl⟩
  ·omega
  ·omega
  ·rw[NE h]
  ·rw[NE h]
 ·apply A1
  ·rfl
  ·rw[show cs.length=k by omega]
   rfl
end Go.Proofs.YtiphlhoclaogjaaGreatDoor
namespace Go.Proofs.YtiphlhoclaogjaaGreatDoor
open Go Go.Av
attribute [local irreducible] C9 B3 C7 D1 DQ D0 C6 St.le A3 B7
set_option maxRecDepth 100000
theorem HZ{nm:List UInt8}{cs:List Code}(h:chk nm cs=0){v:Nat}(hv:v<cs.length):T1 nm cs v=C5 nm cs-1↔Y7 cs v=true:=by
 have hg:=(G9 h).1
 have hn:=(G9 h).2.1
 have e1:T1 nm cs v=dep cs v:=(EU (nm:=nm) (cs:=cs) (code:=v) ⟨by omega,by omega,h⟩).symm
 have e2:C5 nm cs=BM (O0 cs)+1:=by rw[C5,if_pos h]
 rw[e1,e2]
 obtain⟨i,hi⟩:=WD (ds:=O0 cs) (by rw[H5];exact hn)
 have pg:i<cs.length:=by rw[←H5 cs];exact F0 hi
 have rt:=CI hi
 have tX:=JD hg pg rt
 constructor
 ·intro e
  exact JD hg hv (by omega)
 ·intro hl
  have hp1:(s7 cs)[i]?=some (true,BM (O0 cs)):=by rw[Bq hi,tX]
  have hp2:(s7 cs)[v]?=some (true,dep cs v):=by rw[Bq (BX hv),hl]
  have:=(NR _ _ (WC h) v i _ _ hp2 hp1).1
  omega
def F9(s:A4)(column:Int):List Nat:=H1 (C2 s (B8 s column)).1 (C2 s (B8 s column)).2 (C5 (C2 s (B8 s column)).1 (C2 s (B8 s column)).2-1)
theorem AF(s:A4)(column:Int){c:D4}(qM:0≤column)(hc:s.cols[column.toNat]?=some c)(hl:0≤c.lst∧c.lst<s.lists.length):A3 Tryz.prog 138 [sA s,.i column] (.sl 1 ((F9 s column).map iA)):=by
 refine B5 Tryz.func138 21 fun mK E h0=>?_
 obtain⟨oH,mt,oc⟩:=Z8 (s:=s) (mK _ (by simp))
 clear mK
 obtain⟨l,nA⟩:∃l,s.lists[c.lst.toNat]?=some l:=⟨_,List.getElem?_eq_getElem (by omega)⟩
 have rN:=oc l (List.mem_of_getElem? nA)
 have tG:=n8 (nm:=l.1) rN
 have pa:=FG l.1 l.2 rN
 have pC:=FH l.1 l.2 (C5 l.1 l.2-1) rN
 have e:F9 s column=H1 l.1 l.2 (C5 l.1 l.2-1):=by rw[F9,C1 hc,H6 nA]
 rw[e]
 repeat'((first|refine S2 ?_|(refine T6 ?_ ?_<;>intro h<;>try exact V1 h)|intro el mI mJ|intro el mI|exact T4|refine T5 ?_ ?_|intro ex)<;>try conv=>whnf)
 refine GZ ⟨[(2,.ref 0 0),(1,.i column),(5,.ref 1 0)],2,[(0,some (.box (sL s))),(1,some (.box (z7 l)))]⟩ ?_ ?_
 ·repeat'((first|(refine A2 (x:=c) hc (by omega) ?_)|(refine A2 (x:=l) nA (by omega) ?_) |refine S2 ?_|(refine T6 ?_ ?_<;>intro h<;>try exact V1 h)|intro el mI mJ|intro el mI|exact T4|refine T5 ?_ ?_|intro ex)<;>try conv=>whnf)
  all_goals first|exact A6 h0|trace_state
 repeat'((first|refine A0 pa ?_|refine A0 pC ?_|(refine B0 ?_ ?_;kernel_rfl) |refine S2 ?_|(refine T6 ?_ ?_<;>intro h<;>try exact V1 h)|intro el mI mJ|intro el mI|exact T4|refine T5 ?_ ?_|intro ex)<;>try conv=>whnf)
 all_goals exact A1 rfl rfl
theorem Oe{nm:List UInt8}{cs:List Code}{level:Int}{x:Nat}(h:x∈H1 nm cs level):chk nm cs=0∧x<cs.length∧(dep cs x:Int)=level:=by
 unfold H1 at h
 split at h
 ·rename_i hk
  simp only[Fi,List.mem_filter,List.mem_range,decide_eq_true_eq]at h
  exact⟨hk,h.1,h.2⟩
 ·cases h
theorem Of{s:A4}(hr:C3 s=0){column:Int}(h1:1≤column)(h2:column<s.cols.length):0≤E5 s column:=by
 have hc:s.cols[column.toNat]?=some s.cols[column.toNat]:=List.getElem?_eq_getElem (by omega)
 have nr:=n9 hr h1 hc
 rw[E5,if_neg (by omega),C1 hc]
 generalize s.cols[column.toNat]=c at nr
 unfold M0
 rcases nr with nr|nr
 ·rw[if_pos nr.1]
  have hl:s.lists[c.lst.toNat]?=some (s.lists[c.lst.toNat]'(by omega)):=List.getElem?_eq_getElem (by omega)
  have hk:=(D3 hr).2.2.1 _ (List.mem_of_getElem? hl)
  rw[H6 hl,C5,if_pos hk]
  omega
 ·rw[if_neg (by omega)];omega
theorem JE{v w:Int}(hw:1≤w):v.tmod w=0↔C8 v w=v:=by
 have:=CJ v hw
 have:=KB v hw
 unfold C8
 omega
end Go.Proofs.YtiphlhoclaogjaaGreatDoor

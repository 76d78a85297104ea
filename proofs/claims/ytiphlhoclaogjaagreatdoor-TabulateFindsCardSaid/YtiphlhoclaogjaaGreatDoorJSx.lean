/- Chapter 5: right conditions in parts, truth values out of those of their parts. -/
import Derived.Test.YtiphlhoclaogjaaGreatDoorJC1
import Derived.Test.YtiphlhoclaogjaaGreatDoorJB4
import Derived.Test.YtiphlhoclaogjaaGreatDoorJE3
import Derived.Test.YtiphlhoclaogjaaGreatDoorJCd1
set_option linter.unusedVariables false
set_option linter.unnecessarySimpa false
set_option linter.unusedSimpArgs false
set_option maxHeartbeats 64000000
namespace Go.Proofs.YtiphlhoclaogjaaGreatDoor
open Go Go.Av
attribute [local irreducible] C9 B3 C8 D1 DQ D0 C7 St.le A3 B8
set_option maxRecDepth 100000
theorem Ai{s:A4}{c:B7}(h:H9 s c=0):(1≤c.op∧c.op≤7)∧(c.kids.length:Int)=x8 c.op∧(c.op=2∨c.op=3∨c.op=4→0≤c.col∧c.col<s.cols.length)∧(c.op=2→(B6 s c.col).kind=2∧0≤c.code∧c.code<(C2 s (B6 s c.col)).2.length)∧(c.op=3→(B6 s c.col).kind=3∧c.lo≤c.hi∧-1000000≤c.lo∧c.hi≤1000000)∧(c.op=4→(B6 s c.col).kind=3∧(B6 s c.col).opt=true):=by
 unfold H9 at h
 by_cases h1:c.op<1∨7<c.op
 ·rw[if_pos h1]at h;cases h
 rw[if_neg h1]at h
 split at h
 ·cases h
 rename_i h2
 by_cases h3:c.op≠2∧c.op≠3∧c.op≠4
 ·exact⟨by omega,by omega,fun _=>by omega,fun _=>by omega,fun _=>by omega,fun _=>by omega⟩
 rw[if_neg h3]at h
 by_cases h4:c.col<0∨(s.cols.length:Int)≤c.col
 ·rw[if_pos h4]at h;cases h
 rw[if_neg h4]at h
 by_cases h5:c.op=2
 ·rw[if_pos h5]at h
  split at h
  ·cases h
  split at h
  ·cases h
  exact⟨by omega,by omega,fun _=>by omega,fun _=>by omega,fun _=>by omega,fun _=>by omega⟩
 rw[if_neg h5]at h
 by_cases h6:c.op=3
 ·rw[if_pos h6]at h
  split at h
  ·cases h
  split at h
  ·cases h
  exact⟨by omega,by omega,fun _=>by omega,fun _=>by omega,fun _=>by omega,fun _=>by omega⟩
 rw[if_neg h6]at h
 split at h
 ·cases h
 rename_i h7
 refine⟨by omega,by omega,fun _=>by omega,fun _=>by omega,fun _=>by omega,fun _=>⟨?_,?_⟩⟩
 ·exact Decidable.of_not_not fun hh=>h7 (.inl hh)
 ·cases ho:(B6 s c.col).opt
  ·exact absurd (.inr ho) h7
  ·rfl
theorem Tl{s:A4}:∀{l:List B7},AK s l=0→∀k∈l,a6 s k=0
 |[],_,k,hk=>by cases hk
 |x::r,h,k,hk=>by
  unfold AK at h
  by_cases hx:a6 s x=0
  ·rw[if_pos hx]at h
   rcases List.mem_cons.1 hk with rfl|hk
   ·exact hx
   ·exact Tl h k hk
  ·rw[if_neg hx]at h;exact absurd h hx
theorem Dc{s:A4}{c:B7}(h:a6 s c=0):H9 s c=0∧∀k∈c.kids,a6 s k=0:=by
 rw[Pf]at h
 by_cases h1:H9 s c=0
 ·rw[if_pos h1]at h
  exact⟨h1,Tl h⟩
 ·rw[if_neg h1]at h;exact absurd h h1
theorem u6{s:A4}{c:B7}(h:J6 s c=0):C3 s=0∧j7 c≤40∧j6 c≤10∧a6 s c=0:=by
 unfold J6 at h
 by_cases h1:C3 s=0
 ·rw[if_pos h1]at h
  split at h
  ·cases h
  split at h
  ·cases h
  exact⟨h1,by omega,by omega,h⟩
 ·rw[if_neg h1]at h;exact absurd h h1
theorem Tm{a k:B7}:∀{l:List B7},k∈l→a∈o6 k→a∈a7 l
 |x::r,hk,ha=>by
  unfold a7
  rcases List.mem_cons.1 hk with rfl|hk
  ·exact List.mem_append_left _ ha
  ·exact List.mem_append_right _ (Tm hk ha)
theorem Tn{a:B7}:∀{l:List B7},a∈a7 l→∃k∈l,a∈o6 k
 |[],h=>by simp[a7]at h
 |x::r,h=>by
  unfold a7 at h
  rcases List.mem_append.1 h with h|h
  ·exact⟨x,by simp,h⟩
  ·obtain⟨k,hk,ha⟩:=Tn h
   exact⟨k,by simp[hk],ha⟩
theorem Ws{a c k:B7}(ho:¬(c.op=2∨c.op=3∨c.op=4))(hk:k∈c.kids)(ha:a∈o6 k):a∈o6 c:=by
 rw[EE,if_neg ho]
 exact Tm hk ha
theorem Ge{s:A4}(c:B7):a6 s c=0→∀a∈o6 c,H9 s a=0∧(a.op=2∨a.op=3∨a.op=4):=by
 refine N6 (p:=fun c=>a6 s c=0→∀a∈o6 c,H9 s a=0∧(a.op=2∨a.op=3∨a.op=4)) (fun c ih h a ha=>?_) c
 obtain⟨h1,h2⟩:=Dc h
 rw[EE]at ha
 split at ha
 ·rename_i ho
  rw[List.mem_singleton]at ha
  subst ha
  exact⟨h1,ho⟩
 ·obtain⟨k,hk,hak⟩:=Tn ha
  exact ih k hk (h2 k hk) a hak
def Y9(op:Int)(vs:List Int)(one:Int):Int:=if op=1 then 1 else if op=5 then min (vs.getD 0 0) (vs.getD 1 0)else if op=6 then max (vs.getD 0 0) (vs.getD 1 0)else if op=7 then -(vs.getD 0 0)else one
mutual
def U7(g:B7→Int):B7→Int
 |.mk o c k l h ks=>Y9 o (YY g ks) (g (.mk o c k l h ks))
def YY(g:B7→Int):List B7→List Int
 |[]=>[]
 |x::r=>U7 g x::YY g r
end
theorem To(g:B7→Int):∀l,YY g l=l.map (U7 g)
 |[]=>rfl
 |x::r=>by rw[YY,To g r];rfl
theorem EF(g:B7→Int)(c:B7):U7 g c=Y9 c.op (c.kids.map (U7 g)) (g c):=by
 cases c
 rw[U7,To];rfl
theorem GA{α:Type}{l:List α}{f:α→Int}{k:Nat}{x:α}(h:l[k]?=some x):(l.map f).getD k 0=f x:=by
 rw[List.getD_eq_getElem?_getD,List.getElem?_map,h];rfl
theorem Wt{l:List Int}(h:∀v∈l,-1≤v∧v≤1)(k:Nat):-1≤l.getD k 0∧l.getD k 0≤1:=by
 rw[List.getD_eq_getElem?_getD]
 cases hk:l[k]? with
 |none=>exact⟨by decide,by decide⟩
 |some v=>exact h v (List.mem_of_getElem? hk)
theorem dv{op:Int}{vs:List Int}{one:Int}(h:∀v∈vs,-1≤v∧v≤1)(h1:-1≤one∧one≤1):-1≤Y9 op vs one∧Y9 op vs one≤1:=by
 have a0:=Wt h 0
 have a1:=Wt h 1
 unfold Y9
 (repeat' split)<;>omega
theorem Pg{g:B7→Int}(hg:∀a,-1≤g a∧g a≤1)(c:B7):-1≤U7 g c∧U7 g c≤1:=by
 refine N6 (p:=fun c=>-1≤U7 g c∧U7 g c≤1) (fun c ih=>?_) c
 rw[EF]
 refine dv (fun v hv=>?_) (hg c)
 obtain⟨k,hk,rfl⟩:=List.mem_map.1 hv
 exact ih k hk
theorem YZ{s:A4}{g g':B7→Int}(c:B7):a6 s c=0→(∀a∈o6 c,g a=g' a)→U7 g c=U7 g' c:=by
 refine N6 (p:=fun c=>a6 s c=0→(∀a∈o6 c,g a=g' a)→U7 g c=U7 g' c) (fun c ih h hg=>?_) c
 obtain⟨h1,h2⟩:=Dc h
 obtain⟨p1,p2,_⟩:=Ai h1
 rw[EF,EF]
 by_cases ho:c.op=2∨c.op=3∨c.op=4
 ·rw[EE,if_pos ho]at hg
  have:=hg c (by simp)
  obtain⟨k1,k2,k3⟩:=Hd c.op
  have pV:c.kids=[]:=List.eq_nil_of_length_eq_zero (by have:=k3 (by omega) (by omega) (by omega);omega)
  rw[pV,this];rfl
 ·have:c.kids.map (U7 g)=c.kids.map (U7 g'):=List.map_congr_left fun k hk=>ih k hk (h2 k hk) fun a ha=>hg a (Ws ho hk ha)
  rw[this]
  unfold Y9
  (repeat' split)<;>first|rfl|omega
theorem iU(b:Bool):-1≤HB b∧HB b≤1:=by unfold HB;split<;>omega
theorem Ma(s:A4)(c:B7)(v:Int):-1≤M3 s c v∧M3 s c v≤1:=by
 unfold M3
 (repeat' split)<;>first|exact iU _|omega
def Dd(s:A4)(c:B7)(row:List Int):Int:=U7 (fun a=>M3 s a (row.getD a.col.toNat 0)) c
def Tp(s:A4)(c:B7)(row:List Int):Int:=if J6 s c=0∧BD s row=0 then Dd s c row else 0
theorem IX{s:A4}{row:List Int}(h:BD s row=0):C3 s=0∧row.length=s.cols.length:=by
 unfold BD at h
 by_cases h1:C3 s=0
 ·rw[if_pos h1]at h
  by_cases h2:OJ s row=true
  ·unfold OJ at h2
   simp only[Bool.and_eq_true,decide_eq_true_eq]at h2
   exact⟨h1,h2.1⟩
  ·rw[if_neg h2]at h;cases h
 ·rw[if_neg h1]at h;exact absurd h h1
theorem Ej{s:A4}(hr:C3 s=0){a:B7}(h:H9 s a=0):a.op=2→∃x lx,0≤a.col∧s.cols[a.col.toNat]?=some x∧0≤x.lst∧s.lists[x.lst.toNat]?=some lx:=by
 intro h2
 obtain⟨_,_,p3,p4,_⟩:=Ai h
 have hc:=p3 (.inl h2)
 obtain⟨hk,_⟩:=p4 h2
 obtain⟨x,hx⟩:∃x,s.cols[a.col.toNat]?=some x:=⟨_,List.getElem?_eq_getElem (by omega)⟩
 rw[B9 hx]at hk
 have hl:=At.lst hr (List.mem_of_getElem? hx) hk
 exact⟨x,_,hc.1,hx,hl.1,List.getElem?_eq_getElem (by omega)⟩
end Go.Proofs.YtiphlhoclaogjaaGreatDoor
namespace Go.Proofs.YtiphlhoclaogjaaGreatDoor
open Go Go.Av
attribute [local irreducible] C9 B3 C8 DQ D0 C7 St.le A3 B8
theorem EG{nm:List UInt8}{cs:List Code}{code:Int}:hasB nm cs code=true↔0≤code∧code<cs.length∧chk nm cs=0:=by
 simp[hasB,and_assoc]
theorem bD{nm:List UInt8}{cs:List Code}{code:Int}(h:¬(0≤code∧code<cs.length∧chk nm cs=0)):-1=T9 nm cs code:=by
 rw[T9,if_neg (fun h2=>h (EG.1 h2))]
theorem FQ{nm:List UInt8}{cs:List Code}{code:Int}(h:0≤code∧code<cs.length∧chk nm cs=0):(dep cs code.toNat:Int)=T9 nm cs code:=by
 rw[T9,if_pos (EG.2 h)];rfl
theorem Ll(nm:List UInt8)(cs:List Code)(code:Int)(nM:cs.length≤9223372036854775807):A3 Tryz.prog 84 [lA nm cs,.i code] (.i (T9 nm cs code)):=by
 refine B5 Tryz.func84 22 fun nL E h0=>?_
 repeat'((first|refine A0 (CS _ _ nM) ?_|(refine A9 ?_ ?_;kernel_rfl) |refine S2 ?_|(refine T6 ?_ ?_<;>intro h<;>try exact V1 h)|intro el nJ nK|intro el nJ|exact T4|refine T5 ?_ ?_|intro ex)<;>try conv=>whnf)
 all_goals first
  |exact A1 rfl (congrArg AV.i (bD (by omega)))
  |skip
 have hg:=(G9 (nm:=nm) (cs:=cs) (by omega)).1
 obtain⟨c,rfl⟩:=Int.eq_ofNat_of_zero_le (show 0≤code by omega)
 rw[←FQ (by omega)]
 repeat'((first|refine A0 (Bw _ _ _ _ hg nM (CU (j:=c) (by omega))) ?_ |refine S2 ?_|(refine T6 ?_ ?_<;>intro h<;>try exact V1 h)|intro el nJ nK|intro el nJ|exact T4|refine T5 ?_ ?_|intro ex)<;>try conv=>whnf)
 exact A1 rfl rfl
theorem OQ:∀(ps:List (Bool×Nat)) (l:Int),lv l ps=true→∀(i j:Nat) d e,ps[i]?=some (true,d)→ps[j]?=some (true,e)→d=e∧(0≤l→(d:Int)=l)
 |[],l,_,i,j,d,e,h,_=>by simp at h
 |(lf,x)::r,l,hl,i,j,d,e,hi,hj=>by
  unfold lv at hl
  cases lf with
  |false =>
   simp only[Bool.false_eq_true,if_false]at hl
   cases i with
   |zero=>simp at hi
   |succ i=>cases j with
    |zero=>simp at hj
    |succ j=>exact OQ r l hl i j d e (by simpa using hi) (by simpa using hj)
  |true =>
   simp only[if_true]at hl
   split at hl
   ·cases hl
   ·rename_i hx
    have first:∀(k:Nat) y,((true,x)::r)[k]?=some (true,y)→(y:Int)=x:=by
     intro k y hk
     cases k with
     |zero=>simp at hk;omega
     |succ k =>
      have oL:r[k]?=some (true,y):=by simpa using hk
      exact(OQ r x hl k k y y oL oL).2 (by omega)
    have h1:=first i d hi
    have h2:=first j e hj
    exact⟨by omega,fun h0=>by omega⟩
theorem Wu{nm:List UInt8}{cs:List Code}(h:chk nm cs=0):lv (-1) (z8 cs)=true:=by
 unfold chk at h
 split at h
 ·cases h
 ·split at h
  ·cases h
  ·split at h
   ·cases h
   ·cases hs:scan [] cs with
    |some e =>
     rw[hs]at h
     have:∀(cs pre:List Code) e,scan pre cs=some e→e=3∨e=10∨e=6:=by
      intro cs
      induction cs with
      |nil=>intro pre e h;cases h
      |cons a r ih =>
       intro pre e h
       simp only[scan]at h
       split at h
       ·cases h;exact .inl rfl
       ·split at h
        ·cases h;exact .inr (.inl rfl)
        ·split at h
         ·cases h;exact .inr (.inr rfl)
         ·exact ih _ _ h
     have:=this _ _ _ hs
     simp only at h
     omega
    |none =>
     rw[hs]at h
     simp only at h
     split at h
     ·assumption
     ·cases h
theorem Qu{cs:List Code}{c:Int}:Y8 cs c=true↔∀x∈cs,x.parent≠c:=by
 simp[Y8,List.all_eq_true]
theorem bE{cs:List Code}(hg:Good cs)(hn:0<cs.length):Y8 cs (cs.length-1:Nat)=true:=by
 rw[Qu]
 intro x hx
 obtain⟨i,hi,rfl⟩:=List.getElem_of_mem hx
 rcases Nat.eq_zero_or_pos i with e|e
 ·subst e
  have:=hg.root _ (List.getElem?_eq_getElem hi)
  omega
 ·have:=hg.before i _ (List.getElem?_eq_getElem hi) e
  omega
theorem Jt:∀(ds:List Nat) (a:Nat),(∃d∈a::ds,ds.foldl max a=d)∧∀d∈a::ds,d≤ds.foldl max a
 |[],a=>⟨⟨a,by simp,rfl⟩,fun d hd=>by simp at hd;subst hd;exact Nat.le_refl _⟩
 |x::r,a=>by
  obtain⟨⟨d,hd,he⟩,np⟩:=Jt r (max a x)
  refine⟨⟨d,?_,he⟩,fun y hy=>?_⟩
  ·rcases List.mem_cons.1 hd with h|h
   ·rcases Nat.le_total a x with h2|h2
    ·rw[Nat.max_eq_right h2]at h;simp[h]
    ·rw[Nat.max_eq_left h2]at h;simp[h]
   ·simp[h]
  ·have h1:=np (max a x) (by simp)
   rcases List.mem_cons.1 hy with h|h
   ·subst h;show _≤List.foldl max (max y x) r;omega
   ·rcases List.mem_cons.1 h with h|h
    ·subst h;show _≤List.foldl max (max a y) r;omega
    ·exact np y (by simp[h])
theorem iV{ds:List Nat}{i d:Nat}(h:ds[i]?=some d):d≤CI ds:=(Jt ds 0).2 d (by simp[List.mem_of_getElem? h])
theorem Wv{ds:List Nat}(h:0<ds.length):∃i:Nat,ds[i]?=some (CI ds):=by
 obtain⟨⟨d,hd,he⟩,np⟩:=Jt ds 0
 have he:CI ds=d:=he
 rw[he]
 rcases List.mem_cons.1 hd with h2|h2
 ·subst h2
  refine⟨0,?_⟩
  have:=np ds[0] (by simp)
  have h3:ds.foldl max 0=0:=he
  rw[List.getElem?_eq_getElem h]
  congr 1;omega
 ·obtain⟨i,hi,hh⟩:=List.getElem_of_mem h2
  exact⟨i,by rw[List.getElem?_eq_getElem hi,hh]⟩
theorem Ju{cs:List Code}(hg:Good cs){i:Nat}(hi:i<cs.length)(hd:dep cs i=CI (O3 cs)):Y8 cs i=true:=by
 rw[Qu]
 intro x hx e
 obtain⟨k,hk,rfl⟩:=List.getElem_of_mem hx
 have rz:0<k:=by
  rcases Nat.eq_zero_or_pos k with e2|e2
  ·subst e2
   have:=hg.root _ (List.getElem?_eq_getElem hk)
   omega
  ·exact e2
 obtain⟨h1,h2,h3⟩:=PY hg.before (List.getElem?_eq_getElem hk) rz
 have:par cs k=i:=by omega
 rw[this]at h1
 have:=iV (CU hk)
 omega
theorem bF{nm:List UInt8}{cs:List Code}(h:chk nm cs=0){i:Nat}(hi:i<cs.length)(hl:Y8 cs i=true):dep cs i=CI (O3 cs):=by
 obtain⟨hg,hn,_⟩:=G9 h
 obtain⟨m,hm⟩:=Wv (ds:=O3 cs) (by rw[H4];exact hn)
 have ql:m<cs.length:=by rw[←H4 cs];exact(List.getElem?_eq_some_iff.1 hm).1
 have vl:=DE hm
 have ve:=Ju hg ql vl
 have p1:=Cm (CU hi)
 have p2:=Cm (CU ql)
 rw[hl]at p1
 rw[ve]at p2
 rw[←vl]
 exact(OQ _ _ (Wu h) _ _ _ _ p1 p2).1
theorem dw{nm:List UInt8}{cs:List Code}(h:chk nm cs=0):dep cs (cs.length-1)=CI (O3 cs):=by
 obtain⟨hg,hn,_⟩:=G9 h
 exact bF h (by omega) (bE hg hn)
theorem GB(nm:List UInt8)(cs:List Code)(nM:cs.length≤9223372036854775807):A3 Tryz.prog 80 [lA nm cs] (.i (C5 nm cs)):=by
 refine B5 Tryz.func80 13 fun nL E h0=>?_
 repeat'((first|refine A0 (CS _ _ nM) ?_ |refine S2 ?_|(refine T6 ?_ ?_<;>intro h<;>try exact V1 h)|intro el nJ nK|intro el nJ|exact T4|refine T5 ?_ ?_|intro ex)<;>try conv=>whnf)
 ·exact A1 rfl (congrArg AV.i (by rw[C5,if_neg h]))
 have hc:chk nm cs=0:=by omega
 have yU:=Bi hc
 obtain⟨hg,hn,_⟩:=G9 hc
 have hd:=MZ hg.before
 have hl:=dw hc
 have e:((cs.length:Int)-1)=((cs.length-1:Nat):Int):=by omega
 repeat'((first|refine A0 (args:=[lA nm cs,.i ((cs.length:Int)-1)]) (by rw[e];exact Bw _ _ _ _ hg nM (CU (j:=cs.length-1) (by omega))) ?_ |refine S2 ?_|(refine T6 ?_ ?_<;>intro h<;>try exact V1 h)|intro el nJ nK|intro el nJ|exact T4|refine T5 ?_ ?_|intro ex)<;>try conv=>whnf)
 exact A1 rfl (congrArg AV.i (by rw[C5,if_pos hc,hl]))
theorem ki{nm:List UInt8}{cs:List Code}{code level:Int}(h:¬(0≤code∧code<cs.length∧chk nm cs=0∧0≤level∧level≤dep cs code.toNat)):-1=L3 nm cs code level:=by
 rw[L3,if_neg (fun h2=>h (by have:=EG.1 h2.1;omega))]
theorem Ww{nm:List UInt8}{cs:List Code}{c:Nat}{level:Int}(h:c<cs.length∧chk nm cs=0∧0≤level∧level≤dep cs c):(Qn cs c (dep cs c-level.toNat):Int)=L3 nm cs c level:=by
 rw[L3,if_pos ⟨EG.2 ⟨by omega,by omega,h.2.1⟩,h.2.2.1,by rw[Int.toNat_natCast];exact h.2.2.2⟩,Int.toNat_natCast]
theorem Tq(nm:List UInt8)(cs:List Code)(code level:Int)(nM:cs.length≤9223372036854775807):A3 Tryz.prog 85 [lA nm cs,.i code,.i level] (.i (L3 nm cs code level)):=by
 refine B5 Tryz.func85 44 fun nL E h0=>?_
 repeat'((first|refine A0 (CS _ _ nM) ?_|(refine A9 ?_ ?_;kernel_rfl)|refine A0 (args:=[lA nm cs,.i code]) (by rw[show code=((code.toNat:Nat):Int) by omega];exact Bw _ _ _ _ (G9 (nm:=nm) (cs:=cs) (by omega)).1 nM (CU (j:=code.toNat) (by omega))) ?_ |refine S2 ?_|(refine T6 ?_ ?_<;>intro h<;>try exact V1 h)|intro el nJ nK|intro el nJ|exact T4|refine T5 ?_ ?_|intro ex)<;>try conv=>whnf)
 all_goals first
  |exact A1 rfl (congrArg AV.i (ki (by omega)))
  |skip
 have hc:chk nm cs=0:=by omega
 have yU:=Bi hc
 obtain⟨c0,rfl⟩:=Int.eq_ofNat_of_zero_le (show 0≤code by omega)
 have hg:=(G9 hc).1
 have hb:=hg.before
 have qC:(level:Int)≤dep cs c0:=by
  simp only[Int.toNat_natCast]at *
  omega
 rw[←Ww (c:=c0) (by omega)]
 have pX:0≤level:=by omega
 have ni:c0<cs.length:=by omega
 refine B0 (ι:=Nat) (fun c=>⟨[(1,.i c),(2,.i level),(3,.ref 0 0)],1,[(0,some (.box [.str nm,.sl 2 (cs.map cA)]))]⟩)
  (fun c=>c<cs.length∧level≤dep cs c∧Qn cs c0 (dep cs c0-level.toNat)=Qn cs c (dep cs c-level.toNat)) (fun c=>c) c0 ⟨ni,qC,rfl⟩ (A6 h0) (fun c hI=>?_)
 obtain⟨h1,h2,h3⟩:=hI
 repeat'((first|refine A0 (Bw _ _ _ _ hg nM (CU (j:=c) (by omega))) ?_ |refine S2 ?_|(refine T6 ?_ ?_<;>intro h<;>try exact V1 h)|intro el nJ nK|intro el nJ|exact T4|refine T5 ?_ ?_|intro ex)<;>try conv=>whnf)
 ·have vn:0<c:=by
   rcases Nat.eq_zero_or_pos c with e|e
   ·subst e;rw[Tb hb nJ]at *;omega
   ·exact e
  obtain⟨e1,e2,e3⟩:=PY hb nJ vn
  have e4:dep cs c-level.toNat=(dep cs (par cs c)-level.toNat)+1:=by omega
  exact⟨par cs c,⟨by omega,by omega,by rw[h3,e4];rfl⟩,e2,A7 h0 rfl ⟨congrArg (fun z:Int=>some (AV.i z)) e3.symm,rfl,rfl,trivial⟩ ⟨rfl,trivial⟩ rfl rfl rfl⟩
 ·refine A1 rfl (congrArg AV.i ?_)
  rw[h3,show dep cs c-level.toNat=0 by omega]
  rfl
theorem DG{nm:List UInt8}{cs:List Code}{code:Int}:T9 nm cs code=if hasB nm cs code=true then (dep cs code.toNat:Int)else -1:=rfl
theorem iW{nm:List UInt8}{cs:List Code}{code nh:Int}(h:¬(0≤T9 nm cs nh)):false=AH nm cs code nh:=by
 have:hasB nm cs nh=false:=by
  rw[DG]at h
  split at h
  ·omega
  ·rename_i h2;simpa using h2
 simp[AH,this]
theorem iX{nm:List UInt8}{cs:List Code}{code nh:Int}(h:0≤T9 nm cs nh)(h2:¬T9 nm cs nh≤T9 nm cs code):false=AH nm cs code nh:=by
 rw[DG,DG]at *
 by_cases ha:hasB nm cs nh=true
 ·rw[if_pos ha]at h h2
  by_cases hc:hasB nm cs code=true
  ·rw[if_pos hc]at h2
   have:L3 nm cs code (dep cs nh.toNat)=-1:=by rw[L3,if_neg (by omega)]
   have vB:=EG.1 ha
   simp only[AH,ha,hc,this,Bool.true_and]
   exact(decide_eq_false (by omega)).symm
  ·have:hasB nm cs code=false:=by simpa using hc
   simp[AH,this]
 ·rw[if_neg ha]at h;omega
theorem iY{nm:List UInt8}{cs:List Code}{code nh:Int}(h:0≤T9 nm cs nh)(h2:T9 nm cs nh≤T9 nm cs code):decide (L3 nm cs code (T9 nm cs nh)=nh)=AH nm cs code nh:=by
 rw[DG]at h
 by_cases ha:hasB nm cs nh=true
 ·have e:T9 nm cs nh=dep cs nh.toNat:=by rw[DG,if_pos ha]
  rw[e]at h2
  rw[DG]at h2
  by_cases hc:hasB nm cs code=true
  ·simp only[AH,ha,hc,e,Bool.true_and]
  ·rw[if_neg hc]at h2;omega
 ·rw[if_neg ha]at h;omega
-- IF dataenclave/dataenclaveref01.Under
theorem Vr(nm:List UInt8)(cs:List Code)(code nh:Int)(nM:cs.length≤9223372036854775807):A3 Tryz.prog 34 [lA nm cs,.i code,.i nh] (.b (AH nm cs code nh)):=by
 refine B5 Tryz.func34 28 fun nL E h0=>?_
 repeat'((first|refine A0 (Ll _ _ _ nM) ?_|refine A0 (Tq _ _ _ _ nM) ?_|(refine A9 ?_ ?_;kernel_rfl) |refine S2 ?_|(refine T6 ?_ ?_<;>intro h<;>try exact V1 h)|intro el nJ nK|intro el nJ|exact T4|refine T5 ?_ ?_|intro ex)<;>try conv=>whnf)
 all_goals first
  |exact A1 rfl (congrArg AV.b (iW (by assumption)))
  |exact A1 rfl (congrArg AV.b (iX (by assumption) (by assumption)))
  |exact A1 rfl (congrArg AV.b (iY (by assumption) (by assumption)))
theorem GC(nm:List UInt8)(cs:List Code)(level:Int)(nM:cs.length≤9223372036854775807):A3 Tryz.prog 30 [lA nm cs,.i level] (.sl 1 ((H1 nm cs level).map iA)):=by
 refine B5 Tryz.func30 27 fun nL E h0=>?_
 repeat'((first|refine A0 (CS _ _ nM) ?_ |refine S2 ?_|(refine T6 ?_ ?_<;>intro h<;>try exact V1 h)|intro el nJ nK|intro el nJ|exact T4|refine T5 ?_ ?_|intro ex)<;>try conv=>whnf)
 case refine_1=>exact p8 (sz:=1) rfl (by rw[H1,if_neg h];rfl)
 have hc:chk nm cs=0:=by omega
 have yU:=Bi hc
 have hg:=(G9 hc).1
 rw[H1,if_pos hc]
 refine B0 (ι:=Nat) (fun k=>⟨[(1,.i level),(2,.ref 0 0),(5,.row 1 0 (Gb cs level k).length),(6,.i k)],2,[(0,some (.box [.str nm,.sl 2 (cs.map cA)])),(1,some (.row 3 1 0 ((Gb cs level k).map iA)))]⟩) (fun k=>k≤cs.length) (fun k=>cs.length-k) 0 (Nat.zero_le _) (C0 (I0 (d:=5) (e:=3) (sz:=1) rfl) (A7 h0 rfl ⟨rfl,rfl,rfl,rfl,trivial⟩ ⟨rfl,⟨0,rfl⟩,trivial⟩ rfl rfl rfl)) (fun k hI=>?_)
 have sk:=Eg cs level k
 repeat'((first|refine A0 (Bw _ _ _ _ hg nM (CU (j:=k) (by omega))) ?_ |refine S2 ?_|(refine T6 ?_ ?_<;>intro h<;>try exact V1 h)|intro el nJ nK|intro el nJ|exact T4|refine T5 ?_ ?_|intro ex)<;>try conv=>whnf)
 ·refine⟨k+1,?_,?_,A7 h0 rfl ⟨rfl,rfl,congrArg (fun z=>some (AV.row 1 0 z)) ?_,rfl,trivial⟩ ⟨rfl,⟨0,congrArg (C4.row 3 1 0) ?_⟩,trivial⟩ rfl rfl rfl⟩
  ·omega
  ·omega
  ·rw[Ku h,List.length_append];rfl
  ·rw[Ku h,List.map_append];rfl
 ·refine⟨k+1,?_,?_,A7 h0 rfl ⟨rfl,rfl,congrArg (fun z=>some (AV.row 1 0 z)) ?_,rfl,trivial⟩ ⟨rfl,⟨0,congrArg (C4.row 3 1 0) ?_⟩,trivial⟩ rfl rfl rfl⟩
  ·omega
  ·omega
  ·rw[OD h]
  ·rw[OD h]
 ·apply A1
  ·rfl
  ·rw[show cs.length=k by omega]
   rfl
end Go.Proofs.YtiphlhoclaogjaaGreatDoor
namespace Go.Proofs.YtiphlhoclaogjaaGreatDoor
open Go Go.Av
attribute [local irreducible] C9 B3 C8 D1 DQ D0 C7 St.le A3 B8
set_option maxRecDepth 100000
theorem IY{nm:List UInt8}{cs:List Code}(h:chk nm cs=0){v:Nat}(hv:v<cs.length):T9 nm cs v=C5 nm cs-1↔Y8 cs v=true:=by
 have hg:=(G9 h).1
 have hn:=(G9 h).2.1
 have e1:T9 nm cs v=dep cs v:=(FQ (nm:=nm) (cs:=cs) (code:=v) ⟨by omega,by omega,h⟩).symm
 have e2:C5 nm cs=CI (O3 cs)+1:=by rw[C5,if_pos h]
 rw[e1,e2]
 obtain⟨i,hi⟩:=Wv (ds:=O3 cs) (by rw[H4];exact hn)
 have qi:i<cs.length:=by rw[←H4 cs];exact E9 hi
 have tF:=DE hi
 have uq:=Ju hg qi tF
 constructor
 ·intro e
  exact Ju hg hv (by omega)
 ·intro hl
  have hp1:(z8 cs)[i]?=some (true,CI (O3 cs)):=by rw[Cm hi,uq]
  have hp2:(z8 cs)[v]?=some (true,dep cs v):=by rw[Cm (CU hv),hl]
  have:=(OQ _ _ (Wu h) v i _ _ hp2 hp1).1
  omega
def F9(s:A4)(column:Int):List Nat:=H1 (C2 s (B6 s column)).1 (C2 s (B6 s column)).2 (C5 (C2 s (B6 s column)).1 (C2 s (B6 s column)).2-1)
theorem BB(s:A4)(column:Int){c:D3}(rL:0≤column)(hc:s.cols[column.toNat]?=some c)(hl:0≤c.lst∧c.lst<s.lists.length):A3 Tryz.prog 138 [sA s,.i column] (.sl 1 ((F9 s column).map iA)):=by
 refine B5 Tryz.func138 21 fun nL E h0=>?_
 obtain⟨pL,nv,pU⟩:=Z9 (s:=s) (nL _ (by simp))
 clear nL
 obtain⟨l,oD⟩:∃l,s.lists[c.lst.toNat]?=some l:=⟨_,List.getElem?_eq_getElem (by omega)⟩
 have ry:=pU l (List.mem_of_getElem? oD)
 have ue:=u4 (nm:=l.1) ry
 have qP:=GB l.1 l.2 ry
 have pt:=GC l.1 l.2 (C5 l.1 l.2-1) ry
 have e:F9 s column=H1 l.1 l.2 (C5 l.1 l.2-1):=by rw[F9,B9 hc,H5 oD]
 rw[e]
 repeat'((first|refine S2 ?_|(refine T6 ?_ ?_<;>intro h<;>try exact V1 h)|intro el nJ nK|intro el nJ|exact T4|refine T5 ?_ ?_|intro ex)<;>try conv=>whnf)
 refine HU ⟨[(2,.ref 0 0),(1,.i column),(5,.ref 1 0)],2,[(0,some (.box (sL s))),(1,some (.box (As l)))]⟩ ?_ ?_
 ·repeat'((first|(refine A2 (x:=c) hc (by omega) ?_)|(refine A2 (x:=l) oD (by omega) ?_) |refine S2 ?_|(refine T6 ?_ ?_<;>intro h<;>try exact V1 h)|intro el nJ nK|intro el nJ|exact T4|refine T5 ?_ ?_|intro ex)<;>try conv=>whnf)
  all_goals first|exact A6 h0|trace_state
 repeat'((first|refine A0 qP ?_|refine A0 pt ?_|(refine A9 ?_ ?_;kernel_rfl) |refine S2 ?_|(refine T6 ?_ ?_<;>intro h<;>try exact V1 h)|intro el nJ nK|intro el nJ|exact T4|refine T5 ?_ ?_|intro ex)<;>try conv=>whnf)
 all_goals exact A1 rfl rfl
theorem Ph{nm:List UInt8}{cs:List Code}{level:Int}{x:Nat}(h:x∈H1 nm cs level):chk nm cs=0∧x<cs.length∧(dep cs x:Int)=level:=by
 unfold H1 at h
 split at h
 ·rename_i hk
  simp only[Gb,List.mem_filter,List.mem_range,decide_eq_true_eq]at h
  exact⟨hk,h.1,h.2⟩
 ·cases h
theorem Pi{s:A4}(hr:C3 s=0){column:Int}(h1:1≤column)(h2:column<s.cols.length):0≤E6 s column:=by
 have hc:s.cols[column.toNat]?=some s.cols[column.toNat]:=List.getElem?_eq_getElem (by omega)
 have ov:=u5 hr h1 hc
 rw[E6,if_neg (by omega),B9 hc]
 generalize s.cols[column.toNat]=c at ov
 unfold M1
 rcases ov with ov|ov
 ·rw[if_pos ov.1]
  have hl:s.lists[c.lst.toNat]?=some (s.lists[c.lst.toNat]'(by omega)):=List.getElem?_eq_getElem (by omega)
  have hk:=(D2 hr).2.2.1 _ (List.mem_of_getElem? hl)
  rw[H5 hl,C5,if_pos hk]
  omega
 ·rw[if_neg (by omega)];omega
theorem Jv{v w:Int}(hw:1≤w):v.tmod w=0↔C6 v w=v:=by
 have:=DF v hw
 have:=Kv v hw
 unfold C6
 omega
end Go.Proofs.YtiphlhoclaogjaaGreatDoor

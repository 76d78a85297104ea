/- TabulateAdds: each cell with -1 at a place is the sum of those with the codes of the level there, and its greatest amount is the greatest of theirs. -/
import Derived.Test.YtjkbhaaobhgkdabGreatDoorRC7
import Derived.Test.YtjkbhaaobhgkdabGreatDoorRUb8
import Derived.Test.YtjkbhaaobhgkdabGreatDoorRTx7
import Derived.Test.YtjkbhaaobhgkdabGreatDoorRB4
import Derived.Test.YtjkbhaaobhgkdabGreatDoorRSx
import Derived.Test.YtjkbhaaobhgkdabGreatDoorRE3
import Derived.Lib.LaidTab
import Derived.Stop.LaidErr
import Derived.MakeChecks
import Derived.Shelf.Vars
set_option linter.unusedVariables false
set_option linter.unnecessarySimpa false
set_option linter.unusedSimpArgs false
set_option maxHeartbeats 64000000
namespace Go.Proofs.YtjkbhaaobhgkdabGreatDoor
open Go Go.Av
attribute [local irreducible] D0 B0 D2 C7 DQ D1 C8 St.le A3 B6
set_option maxRecDepth 100000
abbrev Ad:AV:=.v (.slice none 0 0)
theorem Us(l:List UInt8)(hl:l.length≤maxLen):A3 Tryz.prog 3 [.sl 1 (l.map O2)] (.b true):=by
 unfold maxLen at hl
 have hL:(l.take 400).length≤400:=List.length_take_le _ _
 have qg:=dk l (by omega)
 generalize l.take 400=t at *
 have zH:=ZW t 0 10 hL (by omega) (by omega)
 obtain⟨hd,hX⟩:=ji t 0 (most:=10) (by omega) (by omega)
 generalize IU t 0 10=W at *
 obtain⟨⟨s,rows,X⟩,a1⟩:=W
 dsimp only at zH hd hX
 have vD:=ZV t a1 s hd hL
 have hA:=fU hd t a1
 generalize IQ t s a1=K at *
 obtain⟨⟨D,M,C⟩,a2⟩:=K
 dsimp only at vD hA
 obtain⟨cells,hT,hE,nl,hcw⟩:=jk hd hX hA
 have h1:A3 Tryz.prog 7 [sA s,BP X,.sl 2 (D.map B5),.i M,E7 C] (.tup [.agg [.sl 2 (D.map B5),.i M,.sl 7 (cells.map T3)],.i 0]):=by
  have:=Lc s X D M C
  rw[hT,hE]at this
  exact this
 have hf:∀z,A3 Tryz.prog 9 [.agg [.sl 2 (D.map B5),.i M,.sl 7 (cells.map T3)],.sl 1 (z.map wA)] (.i (E6 (fun c:F3=>decide (c.codes=z)) cells 0)):=fun z=>La ⟨D,M,cells⟩ z
 obtain⟨_,qI,sg⟩:=Ay hA.dims
 have hr:=hd.ok
 clear hT hE
 refine C0 Tryz.func3 201 fun nQ E h0=>?_
 clear nQ
 repeat'((first|refine Y9 [] [] qg rfl rfl rfl rfl rfl trivial rfl rfl rfl rfl rfl ?_|refine nc [0] [0] zH rfl rfl rfl ⟨rfl,trivial⟩ ?_|refine nc [0] [0] vD rfl rfl rfl ⟨rfl,trivial⟩ ?_ |refine S2 ?_|(refine T6 ?_ ?_<;>intro h<;>try exact V1 h)|intro el nN nP|intro el nN|exact T4|refine T5 ?_ ?_|intro ex|refine A1 h1 ?_)<;>try conv=>whnf)
 all_goals first
  |(exfalso;omega)
  |skip
 clear qg zH vD h1
 refine B2 (ι:=Nat) (fun k=>⟨[(6,.iptr (sL s)),(7,.sl 2 (D.map B5)),(10,.iptr [.sl 2 (D.map B5),.i M,.sl 7 (cells.map T3)]),(49,.sl 7 (cells.map T3)),(50,.i cells.length),(51,.i k)],0,[]⟩) (fun k=>k≤cells.length) (fun k=>cells.length-k) 0 (Nat.zero_le _)
  (A6 h0) (fun k hk=>?_)
 by_cases nZ:k<cells.length
 ·obtain⟨c,hc⟩:∃c,cells[k]?=some c:=⟨_,List.getElem?_eq_getElem nZ⟩
  have pc:cells[((k:Nat):Int).toNat]?=some c:=hc
  obtain⟨w1,w2,w3,w4,w5,w6⟩:=hcw k c hc
  obtain⟨b1,b2,b3,b4,b5,b6⟩:=w5
  repeat'((first|(refine A2 (x:=c) pc (by omega) ?_) |refine S2 ?_|(refine T6 ?_ ?_<;>intro h<;>try exact V1 h)|intro el nN nP|intro el nN|exact T4|refine T5 ?_ ?_|intro ex)<;>try conv=>whnf)
  all_goals first
   |(exfalso;omega)
   |skip
  refine B2 (ι:=Nat) (fun i=>⟨[(6,.iptr (sL s)),(7,.sl 2 (D.map B5)),(10,.iptr [.sl 2 (D.map B5),.i M,.sl 7 (cells.map T3)]),(13,.iptr (T3 c)),(49,.sl 7 (cells.map T3)),(50,.i cells.length),(51,.i k),(62,.i D.length),(63,.i i)],0,[]⟩) (fun i=>i≤D.length) (fun i=>D.length-i) 0 (Nat.zero_le _)
   (A6 h0) (fun i hi=>?_)
  by_cases tZ:i<D.length
  ·obtain⟨d,xi⟩:∃d,D[i]?=some d:=⟨_,List.getElem?_eq_getElem tZ⟩
   have yy:D[((i:Nat):Int).toNat]?=some d:=xi
   obtain⟨z,hz⟩:∃z,c.codes[i]?=some z:=⟨_,List.getElem?_eq_getElem (by omega)⟩
   have hz2:c.codes[((i:Nat):Int).toNat]?=some z:=hz
   by_cases hz1:z=-1
   case neg =>
    repeat'((first|(refine A2 (x:=z) hz2 (by omega) ?_) |refine S2 ?_|(refine T6 ?_ ?_<;>intro h<;>try exact V1 h)|intro el nN nP|intro el nN|exact T4|refine T5 ?_ ?_|intro ex)<;>try conv=>whnf)
    all_goals first
     |(exfalso;omega)
     |exact⟨i+1,by omega,by omega,A6 h0⟩
   subst hz1
   obtain⟨h4,h5⟩:=sg d (List.mem_of_getElem? xi)
   obtain⟨x,L,hx,nh,uJ,⟨xw,qb⟩,xR,rI,zm⟩:=Ql hr h4 h5
   have yd:=jj hd h4 h5
   obtain⟨CC,hP,hq⟩:=w6 i d xi hz
   have oe:=(H9 zm).2.2
   have qB:=(TL L.1 L.2 d.lev (by omega)).congr (congrArg (AV.sl 1) (show (H6 L.1 L.2 d.lev).map iA=(EJ s d).map wA by unfold EJ;rw[nh,rI,List.map_map];rfl))
   obtain⟨nm,cs⟩:=L
   dsimp only at qB
   generalize EJ s d=A at *
   obtain⟨p1,p2,p3,p4⟩:=hP
   have yH:[Ad,.i (H0 (·+·) (fun q=>(CC q).cnt) (A.take 0)),.i (H0 (·+·) (fun q=>(CC q).sum) (A.take 0)),.i (H0 (·+·) (fun q=>(CC q).amo) (A.take 0)),.i (H0 max (fun q=>(CC q).fst) (A.take 0)),.i 0,Ad]=[Ad,.i 0,.i 0,.i 0,.i 0,.i 0,Ad]:=rfl
   repeat'((first|(refine A2 (x:=(-1:Int)) hz2 (by omega) ?_)|(refine A2 (x:=d) yy (by omega) ?_)|(refine A2 (x:=x) hx (by omega) ?_)|(refine A2 (x:=(nm,cs)) xR (by omega) ?_)|refine A1 qB ?_|(refine B8 ?_ ?_;kernel_rfl) |refine S2 ?_|(refine T6 ?_ ?_<;>intro h<;>try exact V1 h)|intro el nN nP|intro el nN|exact T4|refine T5 ?_ ?_|intro ex)<;>try conv=>whnf)
   all_goals first
    |(exfalso;omega)
    |skip
   refine B2 (ι:=Nat) (fun j=>⟨[(6,.iptr (sL s)),(7,.sl 2 (D.map B5)),(10,.iptr [.sl 2 (D.map B5),.i M,.sl 7 (cells.map T3)]),(13,.iptr (T3 c)),(14,.i i),(15,.ref 0 0),(49,.sl 7 (cells.map T3)),(50,.i cells.length),(51,.i k),(62,.i D.length),(63,.i i),(92,.sl 1 (A.map wA)),(93,.i A.length),(94,.i j)],1,[(0,some (.box [Ad,.i (H0 (·+·) (fun q=>(CC q).cnt) (A.take j)),.i (H0 (·+·) (fun q=>(CC q).sum) (A.take j)),.i (H0 (·+·) (fun q=>(CC q).amo) (A.take j)),.i (H0 max (fun q=>(CC q).fst) (A.take j)),.i 0,Ad]))]⟩) (fun j=>j≤A.length) (fun j=>A.length-j) 0 (Nat.zero_le _)
    (A8 h0 rfl ⟨rfl,rfl,rfl,rfl,rfl,rfl,rfl,rfl,rfl,rfl,rfl,rfl,rfl,rfl,trivial⟩ ⟨congrArg (fun z:List AV=>C9.box z) yH.symm,trivial⟩ rfl rfl rfl) (fun j hj=>?_)
   clear yH
   by_cases uD:j<A.length
   ·obtain⟨q,wC⟩:∃q,A[j]?=some q:=⟨_,List.getElem?_eq_getElem uD⟩
    have zG:A[((j:Nat):Int).toNat]?=some q:=wC
    obtain⟨e1,n,hn,xJ⟩:=hq q (List.mem_of_getElem? wC)
    have uE:=D6 xJ
    have zR:cells[((n:Nat):Int).toNat]?=some (CC q):=xJ
    have hfq:=hf (c.codes.set i q)
    rw[hn,List.map_set]at hfq
    have t1:=IW AH (fun q=>(CC q).cnt) wC
    have t2:=IW AH (fun q=>(CC q).sum) wC
    have t3:=IW AH (fun q=>(CC q).amo) wC
    have t4:=IW Kn (fun q=>(CC q).fst) wC
    have wE:(A.take j).length≤10:=by rw[List.length_take];omega
    have u1:=OQ (f:=fun q=>(CC q).cnt) (B:=200) (l:=A.take j) fun y hy=>by have:=(hq y (List.mem_of_mem_take hy)).1.cnt;omega
    have u2:=OQ (f:=fun q=>(CC q).sum) (B:=1000000000000000) (l:=A.take j) fun y hy=>by have:=(hq y (List.mem_of_mem_take hy)).1.sum;omega
    have u3:=OQ (f:=fun q=>(CC q).amo) (B:=1000000000000000) (l:=A.take j) fun y hy=>by have:=(hq y (List.mem_of_mem_take hy)).1.amo;omega
    obtain⟨g1,g2,g3,g4,g5,g6⟩:=e1
    try dsimp only at t1 t2 t3 t4
    generalize H0 (·+·) (fun q=>(CC q).cnt) (A.take j)=s1 at *
    generalize H0 (·+·) (fun q=>(CC q).sum) (A.take j)=s2 at *
    generalize H0 (·+·) (fun q=>(CC q).amo) (A.take j)=s3 at *
    generalize H0 max (fun q=>(CC q).fst) (A.take j)=s4 at *
    have wo:[Ad,.i (H0 (·+·) (fun q=>(CC q).cnt) (A.take (j+1))),.i (H0 (·+·) (fun q=>(CC q).sum) (A.take (j+1))),.i (H0 (·+·) (fun q=>(CC q).amo) (A.take (j+1))),.i (H0 max (fun q=>(CC q).fst) (A.take (j+1))),.i 0,Ad]=[Ad,.i (s1+(CC q).cnt),.i (s2+(CC q).sum),.i (s3+(CC q).amo),.i (max s4 (CC q).fst),.i 0,Ad]:=by rw[t1,t2,t3,t4]
    have v1:-2000≤s1∧s1≤2000:=by omega
    have v2:-10000000000000000≤s2∧s2≤10000000000000000:=by omega
    have v3:-10000000000000000≤s3∧s3≤10000000000000000:=by omega
    clear u1 u2 u3 t1 t2 t3 t4 qB hf hcw w6 hq
    have hcz:([]++c.codes.map wA)[((((i:Nat):Int).toNat:Nat):Int).toNat]?=some [.i (-1)]:=by rw[List.nil_append,Int.toNat_natCast,Int.toNat_natCast,List.getElem?_map,hz];rfl
    have hcd:(CC q).codes.length≤(CC q).codes.length:=Nat.le_refl _
    generalize CC q=y at *
    repeat'((first|(refine Cf (x:=[.i (-1)]) hcz (by omega) ?_)|(refine A2 (x:=q) zG (by omega) ?_)|(refine A2 (x:=y) zR (by omega) ?_)|(refine G3 27 ?_;refine P5 (id:=27) (σ':=⟨[(6,.iptr (sL s)),(7,.sl 2 (D.map B5)),(10,.iptr [.sl 2 (D.map B5),.i M,.sl 7 (cells.map T3)]),(13,.iptr (T3 c)),(14,.i i),(15,.ref 0 0),(20,.iptr (T3 y)),(49,.sl 7 (cells.map T3)),(50,.i cells.length),(51,.i k),(62,.i D.length),(63,.i i),(92,.sl 1 (A.map wA)),(93,.i A.length),(94,.i j)],1,[(0,some (.box [Ad,.i s1,.i s2,.i s3,.i s4,.i 0,Ad]))]⟩) (A6 h0) ?_;refine H4 (id:=27) ⟨[(6,.iptr (sL s)),(7,.sl 2 (D.map B5)),(10,.iptr [.sl 2 (D.map B5),.i M,.sl 7 (cells.map T3)]),(13,.iptr (T3 c)),(14,.i i),(15,.ref 0 0),(49,.sl 7 (cells.map T3)),(50,.i cells.length),(51,.i k),(62,.i D.length),(63,.i i),(92,.sl 1 (A.map wA)),(93,.i A.length),(94,.i j)],1,[(0,some (.box [Ad,.i (s1+y.cnt),.i (s2+y.sum),.i (s3+y.amo),.i (max s4 y.fst),.i 0,Ad]))]⟩ ?_ ?_) |refine S2 ?_|(refine T6 ?_ ?_<;>intro h<;>try exact V1 h)|intro el nN nP|intro el nN|exact T4|refine T5 ?_ ?_|intro ex|refine A1 hfq ?_|refine I6 1 ?_)<;>try conv=>whnf)
    all_goals first
     |(exfalso;omega)
     |exact A8 h0 rfl ⟨rfl,rfl,rfl,rfl,rfl,rfl,rfl,rfl,rfl,rfl,rfl,rfl,rfl,rfl,trivial⟩ ⟨rfl,trivial⟩ rfl rfl rfl
     |exact⟨j+1,by omega,by omega,A8 h0 rfl ⟨rfl,rfl,rfl,rfl,rfl,rfl,rfl,rfl,rfl,rfl,rfl,rfl,rfl,rfl,trivial⟩ ⟨congrArg (fun z:List AV=>C9.box z) wo,trivial⟩ rfl rfl rfl⟩
   ·have yk:j=A.length:=by omega
    subst yk
    rw[List.take_length]
    generalize H0 (·+·) (fun q=>(CC q).cnt) A=s1 at *
    generalize H0 (·+·) (fun q=>(CC q).sum) A=s2 at *
    generalize H0 (·+·) (fun q=>(CC q).amo) A=s3 at *
    generalize H0 max (fun q=>(CC q).fst) A=s4 at *
    repeat'((first|refine S2 ?_|(refine T6 ?_ ?_<;>intro h<;>try exact V1 h)|intro el nN nP|intro el nN|exact T4|refine T5 ?_ ?_|intro ex)<;>try conv=>whnf)
    all_goals first
     |(exfalso;omega)
     |exact⟨i+1,by omega,by omega,A6 h0⟩
  ·repeat'((first|refine S2 ?_|(refine T6 ?_ ?_<;>intro h<;>try exact V1 h)|intro el nN nP|intro el nN|exact T4|refine T5 ?_ ?_|intro ex)<;>try conv=>whnf)
   all_goals first
    |(exfalso;omega)
    |exact⟨k+1,by omega,by omega,A6 h0⟩
 ·repeat'((first|refine A1 UT ?_ |refine S2 ?_|(refine T6 ?_ ?_<;>intro h<;>try exact V1 h)|intro el nN nP|intro el nN|exact T4|refine T5 ?_ ?_|intro ex)<;>try conv=>whnf)
  all_goals first
   |(exfalso;omega)
   |exact A0 rfl rfl
theorem Vx(l:List AV)(h:KQ Tryz.prog Tryz.f3.params.toList l):A3 Tryz.prog 3 l (.b true):=by
 obtain⟨a1,r1,rfl,h1,rfl⟩:=h
 obtain⟨l,hl,rfl⟩:=kV h1
 exact Us l hl
end Go.Proofs.YtjkbhaaobhgkdabGreatDoor
namespace Go.Av
open Go Go.RowKit
theorem fa{P:Program}{W:World}{n:String}{cs:Array Value}{g:Nat}(hg:P.globalNamed n=some g)(h:W.var? P n=some cs):∃t fr,W.heap[g]?=some (.cells cs t fr):=by
 unfold World.var? at h
 rw[hg]at h
 simp only[Option.bind_some]at h
 split at h
 ·rename_i c t fr he
  cases h
  exact⟨t,fr,he⟩
 ·cases h
theorem Mb{P:Program}{W:World}{name:String}{k:IntKind}{zs:List Int}{rest:List (String×DataW Unit)}{g:Nat}{t e:TypeId}{n:Nat}
  (hg:P.globalNamed name=some g) (hty:(P.globals[g]?).map (·.type)=some t) (ht:P.underlying t=some (.array n e)) (he:P.underlying e=some (.int k)) (rq:P.cellsOf e=1) (hct:P.cellsOf t=n)
  (h:laidMet P ((name,Lib.tabData k zs)::rest) W):∃t fr,W.heap[g]?=some (.cells (zs.map (Value.int k)).toArray t fr):=by
 have h1:=Lib.tabIs_of_head hg hty ht he rq hct h
 unfold Lib.TabIs at h1
 exact fa hg h1
def PY(W:World):List (Nat×IntKind×List Int)→Prop
 |[]=>True
 |(g,k,l)::r=>(∃t fr,W.heap[g]?=some (.cells (l.map (Value.int k)).toArray t fr))∧PY W r
def PZ(W:World):List Nat→Prop
 |[]=>True
 |g::r=>(∃te pe t fr,W.heap[g]?=some (.cells #[.iface te pe] t fr))∧PZ W r
theorem Li{W:World}:∀{T:List (Nat×IntKind×List Int)} {g:Nat} {k:IntKind} {l:List Int},PY W T→look T g=some (k,l)→∃t fr,W.heap[g]?=some (.cells (l.map (Value.int k)).toArray t fr)
 |[],g,k,l,_,h=>by cases h
 |(g',k',l')::r,g,k,l,h,hg=>by
  rw[E4]at hg
  by_cases e:g'=g
  ·rw[if_pos e]at hg;cases hg;subst e;exact h.1
  ·rw[if_neg e]at hg;exact Li h.2 hg
theorem Lj{W:World}:∀{T:List Nat} {g:Nat},PZ W T→g∈T→∃te pe t fr,W.heap[g]?=some (.cells #[.iface te pe] t fr)
 |[],g,_,h=>by cases h
 |g'::r,g,h,hg=>by
  rcases List.mem_cons.1 hg with rfl|hg
  ·exact h.1
  ·exact Lj h.2 hg
def Pa(W:World):List Nat→Prop
 |[]=>True
 |g::r=>(∃m t fr,W.heap[g]?=some (.cells #[.int .i64 m] t fr))∧Pa W r
theorem Lk{W:World}:∀{T:List Nat} {g:Nat},Pa W T→g∈T→∃m t fr,W.heap[g]?=some (.cells #[.int .i64 m] t fr)
 |[],g,_,h=>by cases h
 |g'::r,g,h,hg=>by
  rcases List.mem_cons.1 hg with rfl|hg
  ·exact h.1
  ·exact Lk h.2 hg
theorem fb{W:World}(h1:PY W Ri)(h2:PZ W jl)(h3:Pa W jm):Q4 Gq W :=
 ⟨fun g k l h=>⟨fun hu=>hu.elim,Li h1 h⟩,fun g h=>⟨fun hu=>hu.elim,Lj h2 h⟩,fun g h=>⟨fun hu=>hu.elim,Lk h3 h⟩⟩
end Go.Av

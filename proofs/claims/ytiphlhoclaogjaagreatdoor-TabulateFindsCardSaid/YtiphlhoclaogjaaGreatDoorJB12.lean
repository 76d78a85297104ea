/- Draws: measures. Chapter 2: what every drawn schema is like. Nothing laid is an empty row: in arguments of calls, and in rows of one's own. Draws: schemas. Chapter 2: the example of the chapter. -/
import Derived.Test.YtiphlhoclaogjaaGreatDoorJB5
import Derived.Test.YtiphlhoclaogjaaGreatDoorJB7
import Derived.Test.YtiphlhoclaogjaaGreatDoorJE3
import Derived.Test.YtiphlhoclaogjaaGreatDoorJAvTy
import Derived.Test.YtiphlhoclaogjaaGreatDoorJCd1
set_option linter.unusedVariables false
set_option linter.unnecessarySimpa false
set_option linter.unusedSimpArgs false
set_option maxHeartbeats 64000000
namespace Go.Proofs.YtiphlhoclaogjaaGreatDoor
open Go Go.Av
attribute [local irreducible] C9 B3 C8 D1 DQ D0 C7 St.le A3 B8
set_option maxRecDepth 100000
def FU:List (List Int):=[[1],[1,5],[1,5,20],[1,2,4,12]]
def y9(l:List UInt8)(a:Nat)(nm:List UInt8):D3×Nat :=
 let low:=-4+((C1 l a 7).1:Int)
 let a1:=(C1 l a 7).2
 let a2:=(C1 l a1 4).2
 let a3:=(C1 l a2 3).2
 (⟨nm,3,0,low,low+((C1 l a3 45).1:Int),FU.getD (C1 l a1 4).1 [],decide (((C1 l a2 3).1:Int)=2)⟩,(C1 l a3 45).2)
theorem ko{n:Nat}{F:List AV→Prop}(h:(n:Int)<4)(k:F [.sl 1 ((FU.getD n []).map wA)]):Q3 (FU.map fun ws=>[AV.sl 1 (ws.map wA)]) (n:Int) F:=by
 refine Bc (by show n<4;omega) fun x hx=>?_
 rw[List.getD_eq_getElem?_getD,hx]at k
 exact k
theorem Tt(l:List UInt8)(a:Nat)(nm:List UInt8)(hl:l.length≤400):B8 Tryz.prog 142 1 (X7 l a) [.ref 0 0,.str nm] 1 (X7 l (y9 l a nm).2) (U0 (y9 l a nm).1):=by
 have h7:=I4 l a (n:=7) (by omega)
 have h4:=I4 l (C1 l a 7).2 (n:=4) (by omega)
 refine c9 Tryz.func142 28 fun E h0=>?_
 repeat'((first|refine S2 ?_|(refine T6 ?_ ?_<;>intro h<;>try exact V1 h)|intro el nJ nK|intro el nJ|exact T4|refine T5 ?_ ?_|intro ex)<;>try conv=>whnf)
 refine F5 ⟨[(0,.ref 0 0),(4,.ref 1 0),(5,.ref 2 0)],3,[(0,some (.box [.sl 1 (l.map P9),.i (C1 l (C1 l (C1 l a 7).2 4).2 3).2])),(1,some (.box [.str [],.i 0,.i 0,.i 0,.i 0,.v (.slice none 0 0),.b false])),(2,some (.box [.str nm,.i 3,.i 0,.i (-4+((C1 l a 7).1:Int)),.i 0,.sl 1 ((FU.getD (C1 l (C1 l a 7).2 4).1 []).map wA),.b (decide (((C1 l (C1 l (C1 l a 7).2 4).2 3).1:Int)=2))]))]⟩ ?_ ?_
 ·repeat'((first|refine⟨G3 [0] [0] (u3 _ _ _ _ hl (by omega) (by omega) (by omega)) rfl rfl rfl rfl rfl ⟨rfl,trivial⟩ rfl rfl rfl rfl rfl ?_⟩|refine⟨G3 [0] [0] (Co _ _ _ hl (by omega)) rfl rfl rfl rfl rfl ⟨rfl,trivial⟩ rfl rfl rfl rfl rfl ?_⟩|refine⟨G3 [0] [0] (J8 _ _ _ hl) rfl rfl rfl rfl rfl ⟨rfl,trivial⟩ rfl rfl rfl rfl rfl ?_⟩|refine ko h4 ?_ |refine S2 ?_|(refine T6 ?_ ?_<;>intro h<;>try exact V1 h)|intro el nJ nK|intro el nJ|exact T4|refine T5 ?_ ?_|intro ex)<;>try conv=>whnf)
  all_goals first
   |exact A6 h0
 repeat'((first|refine S2 ?_|(refine T6 ?_ ?_<;>intro h<;>try exact V1 h)|intro el nJ nK|intro el nJ|exact T4|refine T5 ?_ ?_|intro ex)<;>try conv=>whnf)
 refine F5 ⟨[(0,.ref 0 0),(4,.ref 1 0),(5,.ref 2 0)],3,[(0,some (.box [.sl 1 (l.map P9),.i (C1 l (C1 l (C1 l (C1 l a 7).2 4).2 3).2 45).2])),(1,some (.box [.str [],.i 0,.i 0,.i 0,.i 0,.v (.slice none 0 0),.b false])),(2,some (.box [.str nm,.i 3,.i 0,.i (-4+((C1 l a 7).1:Int)),.i (-4+((C1 l a 7).1:Int)+((C1 l (C1 l (C1 l (C1 l a 7).2 4).2 3).2 45).1:Int)),.sl 1 ((FU.getD (C1 l (C1 l a 7).2 4).1 []).map wA),.b (decide (((C1 l (C1 l (C1 l a 7).2 4).2 3).1:Int)=2))]))]⟩ ?_ ?_
 ·have h45:=I4 l (C1 l (C1 l (C1 l a 7).2 4).2 3).2 (n:=45) (by omega)
  repeat'((first|refine⟨G3 [0] [0] (J8 _ _ _ hl) rfl rfl rfl rfl rfl ⟨rfl,trivial⟩ rfl rfl rfl rfl rfl ?_⟩ |refine S2 ?_|(refine T6 ?_ ?_<;>intro h<;>try exact V1 h)|intro el nJ nK|intro el nJ|exact T4|refine T5 ?_ ?_|intro ex)<;>try conv=>whnf)
  all_goals first
   |exact A6 h0
 repeat'((first|refine S2 ?_|(refine T6 ?_ ?_<;>intro h<;>try exact V1 h)|intro el nJ nK|intro el nJ|exact T4|refine T5 ?_ ?_|intro ex)<;>try conv=>whnf)
 exact M0 (rvs:=[.cell 4 79]) (vs:=[_]) ⟨1,_,_,rfl,rfl,inferInstance,rfl,rfl,trivial⟩ rfl rfl (A6 h0) rfl
def Tu:D3:=⟨[119,104,111],1,0,0,0,[],false⟩
def KB:D3:=⟨[115,101,120],2,0,0,0,[],false⟩
def Tv:D3:=⟨[106,111,98],2,1,0,0,[],false⟩
def AL(n:Nat):List UInt8:=[109]++Cc n
def Bm(l:List UInt8):List D3×Nat→Nat→List D3×Nat
 |s,0=>s
 |s,k+1=>Bm l (s.1++[(y9 l s.2 (AL s.1.length)).1],(y9 l s.2 (AL s.1.length)).2) k
abbrev Ep:List UInt8:=[116,119,111]
abbrev G0:List UInt8:=[111,110,101]
def V7(b:Bool):List D3:=cond b [Tu,KB,Tv] [Tu,KB]
def Cp(l:List UInt8)(a:Nat):A4×Nat :=
 let l1:=J2 l a
 let l2:=J2 l l1.2
 let b:=C1 l l2.2 2
 let m:=C1 l b.2 3
 let r:=Bm l (V7 (decide ((b.1:Int)=1)),m.2) (1+m.1)
 (⟨[(G0,l1.1),(Ep,l2.1)],r.1⟩,r.2)
structure R8(c:D3)(nm:List UInt8):Prop where
 name:c.name=nm
 kind:c.kind=3
 lst:c.lst=0
 low:-4≤c.low∧c.low≤2
 high:c.low≤c.high∧c.high≤c.low+44
 wid:c.widths∈FU
theorem ic(l:List UInt8)(a:Nat)(nm:List UInt8):R8 (y9 l a nm).1 nm:=by
 have h7:=I4 l a (n:=7) (by omega)
 have h4:=I4 l (C1 l a 7).2 (n:=4) (by omega)
 have h45:=I4 l (C1 l (C1 l (C1 l a 7).2 4).2 3).2 (n:=45) (by omega)
 refine⟨rfl,rfl,rfl,?_,?_,?_⟩
 ·simp only[y9];omega
 ·simp only[y9];omega
 ·simp only[y9]
  have nN:(C1 l (C1 l a 7).2 4).1<FU.length:=by show _<4;omega
  rw[List.getD_eq_getElem?_getD,List.getElem?_eq_getElem nN]
  exact List.getElem_mem nN
theorem Lm(l:List UInt8):∀(k:Nat) (s:List D3×Nat),∃ms,(Bm l s k).1=s.1++ms∧ms.length=k∧∀(i:Nat) c,ms[i]?=some c→R8 c (AL (s.1.length+i))
 |0,s=>⟨[],by simp[Bm],rfl,fun i c h=>by simp at h⟩
 |k+1,s=>by
  obtain⟨ms,h1,h2,h3⟩:=Lm l k (s.1++[(y9 l s.2 (AL s.1.length)).1],(y9 l s.2 (AL s.1.length)).2)
  refine⟨(y9 l s.2 (AL s.1.length)).1::ms,?_,by simp[h2],fun i c hc=>?_⟩
  ·rw[Bm,h1];simp
  ·cases i with
   |zero=>simp at hc;subst hc;exact ic _ _ _
   |succ i =>
    have:=h3 i c (by simpa using hc)
    simp only[List.length_append,List.length_singleton]at this
    rwa[show s.1.length+(i+1)=s.1.length+1+i by omega]
structure E4(s:A4):Prop where
 ls:∃l1 l2,l1∈OG∧l2∈OG∧s.lists=[(G0,l1),(Ep,l2)]
 cs:∃b ms,s.cols=V7 b++ms∧1≤ms.length∧ms.length≤3∧∀(i:Nat) c,ms[i]?=some c→R8 c (AL ((V7 b).length+i))
theorem OT(l:List UInt8)(a:Nat):E4 (Cp l a).1:=by
 refine⟨⟨_,_,Qq l a,Qq l (J2 l a).2,rfl⟩,?_⟩
 have h3:=I4 l (C1 l (J2 l (J2 l a).2).2 2).2 (n:=3) (by omega)
 obtain⟨ms,h1,h2,h4⟩:=Lm l (1+(C1 l (C1 l (J2 l (J2 l a).2).2 2).2 3).1) (V7 (decide (((C1 l (J2 l (J2 l a).2).2 2).1:Int)=1)),(C1 l (C1 l (J2 l (J2 l a).2).2 2).2 3).2)
 exact⟨_,ms,h1,by omega,by omega,h4⟩
def Tw(b:Bool)(n:Nat):List (List UInt8):=(V7 b).map (·.name)++(List.range n).map fun i=>AL ((V7 b).length+i)
def gL(l:List (List UInt8)):Bool:=(List.range l.length).all fun i=>D6 (l.getD i []) && !((l.take i).any fun x=>decide (x=l.getD i []))
theorem eB:([true,false].all fun b=>[1,2,3].all fun n=>gL (Tw b n))=true:=by decide +kernel
def bK(cs:List Code):Bool:=decide (chk G0 cs=0) && decide (chk Ep cs=0) && decide (1≤C5 G0 cs∧C5 G0 cs≤5) && decide (cs.length≤10) && decide (1≤(H1 G0 cs (C5 G0 cs-1)).length∧(H1 G0 cs (C5 G0 cs-1)).length≤10) && ((H1 G0 cs (C5 G0 cs-1)).all fun k=>decide (k<cs.length))
theorem ig:OG.all bK=true:=by decide +kernel
structure mI(cs:List Code):Prop where
 one:chk G0 cs=0
 two:chk Ep cs=0
 lv:1≤C5 G0 cs∧C5 G0 cs≤5
 len:cs.length≤10
 at':1≤(H1 G0 cs (C5 G0 cs-1)).length∧(H1 G0 cs (C5 G0 cs-1)).length≤10
 mem:∀k∈H1 G0 cs (C5 G0 cs-1),k<cs.length
theorem Ek{cs:List Code}(h:cs∈OG):mI cs:=by
 have:=List.all_eq_true.1 ig _ h
 simp only[bK,Bool.and_eq_true,decide_eq_true_eq,List.all_eq_true]at this
 obtain⟨⟨⟨⟨⟨h1,h2⟩,h3⟩,h4⟩,h5⟩,h6⟩:=this
 exact⟨h1,h2,h3,h4,h5,h6⟩
theorem Tx{a b:List UInt8}(h:D6 a=D6 b)(cs:List Code):chk a cs=chk b cs:=by unfold chk;rw[h]
theorem ii{a b:List UInt8}(h:D6 a=D6 b)(cs:List Code)(k:Int):hasB a cs k=hasB b cs k:=by unfold hasB;rw[Tx h]
theorem Df{a b:List UInt8}(h:D6 a=D6 b)(cs:List Code):C5 a cs=C5 b cs:=by unfold C5;rw[Tx h]
theorem Ty{a b:List UInt8}(h:D6 a=D6 b)(cs:List Code)(k lv:Int):L3 a cs k lv=L3 b cs k lv:=by unfold L3;rw[ii h]
theorem He{a b:List UInt8}(h:D6 a=D6 b)(cs:List Code)(lv:Int):H1 a cs lv=H1 b cs lv:=by unfold H1;rw[Tx h]
theorem kp:D6 Ep=D6 G0:=by decide
theorem Ie{α:Type}{f:Nat→α→Int}:∀{l:List α} {k:Nat},(∀(i:Nat) x,l[i]?=some x→f (k+i) x=0)→F3 f k l=0
 |[],k,_=>rfl
 |y::r,k,h=>by
  have h0:=h 0 y rfl
  simp only[Nat.add_zero]at h0
  rw[F3,if_pos h0]
  refine Ie fun i x hx=>?_
  have:=h (i+1) x (by simpa using hx)
  rwa[show k+(i+1)=k+1+i by omega]at this
theorem R8.meaE{c:D3}{nm:List UInt8}(h:R8 c nm):meaE c=0:=by
 have h1:=h.low
 have h2:=h.high
 have h3:=h.wid
 unfold Go.Proofs.YtiphlhoclaogjaaGreatDoor.meaE
 rw[if_neg (by omega)]
 simp only[FU,List.mem_cons,List.not_mem_nil,or_false]at h3
 rcases h3 with h3|h3|h3|h3<;>rw[h3]<;>decide
theorem R8.used{c:D3}{nm:List UInt8}(h:R8 c nm):FO c=true:=by
 unfold FO
 rw[h.kind,h.lst]
 simp
theorem R8.kindE{c:D3}{nm:List UInt8}(h:R8 c nm)(s:A4)(i:Nat):kindE s i c=0:=by
 unfold Go.Proofs.YtiphlhoclaogjaaGreatDoor.kindE
 rw[h.kind]
 simp[h.meaE]
theorem E4.col{s:A4}(h:E4 s){i:Nat}{c:D3}(hc:s.cols[i]?=some c):(i=0∧c=Tu)∨(0<i∧(c=KB∨c=Tv))∨(0<i∧∃nm,R8 c nm):=by
 obtain⟨b,ms,h1,_,_,h4⟩:=h.cs
 rw[h1,List.getElem?_append]at hc
 split at hc
 ·cases b<;>simp only[V7,_root_.cond_true,_root_.cond_false,List.length_cons,List.length_nil]at hc
  ·match i,hc with
   |0,hc=>cases hc;exact .inl ⟨rfl,rfl⟩
   |1,hc=>cases hc;exact .inr (.inl ⟨by omega,.inl rfl⟩)
   |n+2,hc=>simp at hc
  ·match i,hc with
   |0,hc=>cases hc;exact .inl ⟨rfl,rfl⟩
   |1,hc=>cases hc;exact .inr (.inl ⟨by omega,.inl rfl⟩)
   |2,hc=>cases hc;exact .inr (.inl ⟨by omega,.inr rfl⟩)
   |n+3,hc=>simp at hc
 ·rename_i nN
  refine .inr (.inr ⟨?_,_,h4 _ c hc⟩)
  cases b<;>simp[V7]at nN<;>omega
theorem E4.names{s:A4}(h:E4 s):gL (s.cols.map (·.name))=true:=by
 obtain⟨b,ms,h1,h2,h3,h4⟩:=h.cs
 have e:s.cols.map (·.name)=Tw b ms.length:=by
  rw[h1,List.map_append]
  unfold Tw
  congr 1
  refine List.ext_getElem? fun i=>?_
  rw[List.getElem?_map,List.getElem?_map]
  by_cases hi:i<ms.length
  ·rw[List.getElem?_eq_getElem hi,List.getElem?_range hi]
   simp only[Option.map_some]
   rw[(h4 i _ (List.getElem?_eq_getElem hi)).name]
  ·rw[List.getElem?_eq_none (by omega),List.getElem?_eq_none (by simp;omega)];rfl
 rw[e]
 have h5:=List.all_eq_true.1 (List.all_eq_true.1 eB b (by cases b<;>simp)) ms.length
 refine h5 ?_
 have:ms.length=1∨ms.length=2∨ms.length=3:=by omega
 rcases this with h|h|h<;>rw[h]<;>simp
theorem E4.colE{s:A4}(h:E4 s){i:Nat}{c:D3}(hc:s.cols[i]?=some c):colE s i c=0:=by
 have hi:=E9 hc
 have hn:=List.all_eq_true.1 h.names i (by simpa using hi)
 simp only[Bool.and_eq_true,Bool.not_eq_true']at hn
 have hg:(s.cols.map (·.name)).getD i []=c.name:=by
  rw[List.getD_eq_getElem?_getD,List.getElem?_map,hc];rfl
 rw[hg]at hn
 have hd:Gz s i c=false:=by
  unfold Gz
  rw[←hn.2,←List.map_take,List.any_map]
  rfl
 have hl:s.lists.length=2:=by obtain⟨l1,l2,_,_,h⟩:=h.ls;rw[h];rfl
 have hk:kindE s i c=0∧FO c=true:=by
  rcases h.col hc with ⟨rfl,rfl⟩|⟨h0,rfl|rfl⟩|⟨h0,nm,hm⟩
  ·exact⟨by unfold kindE;simp[Tu],by decide⟩
  ·exact⟨by unfold kindE;rw[hl];simp[KB],by decide⟩
  ·exact⟨by unfold kindE;rw[hl];simp[Tv],by decide⟩
  ·exact⟨hm.kindE s i,hm.used⟩
 unfold Go.Proofs.YtiphlhoclaogjaaGreatDoor.colE
 rw[hn.1,hd,hk.1,hk.2]
 rfl
theorem E4.lens{s:A4}(h:E4 s):s.lists.length=2∧3≤s.cols.length∧s.cols.length≤6:=by
 obtain⟨l1,l2,_,_,h1⟩:=h.ls
 obtain⟨b,ms,h2,h3,h4,_⟩:=h.cs
 refine⟨by rw[h1];rfl,?_⟩
 rw[h2,List.length_append]
 cases b<;>simp[V7]<;>omega
theorem E4.ok{s:A4}(h:E4 s):C3 s=0:=by
 have hl:=h.lens
 obtain⟨l1,l2,m1,m2,e⟩:=h.ls
 unfold C3
 rw[if_neg (by omega)]
 have h1:F3 (l8 s.lists) 0 s.lists=0:=by
  refine Ie fun i x hx=>?_
  rw[e]at hx ⊢
  rw[Nat.zero_add]
  match i,hx with
  |0,hx=>cases hx;unfold l8;rw[if_pos (Ek m1).one];rfl
  |1,hx=>cases hx;unfold l8;rw[if_pos (Ek m2).two];rfl
  |n+2,hx=>simp at hx
 have h2:s.cols.head?.map (·.kind)=some 1:=by
  obtain⟨b,ms,h2,_⟩:=h.cs
  rw[h2];cases b<;>rfl
 rw[if_pos h1,if_pos h2]
 exact Ie fun i x hx=>by rw[Nat.zero_add];exact h.colE hx
def Ln:List AV→List AV→Prop
 |[],[]=>True
 |x::r,y::s=>NL x y∧Ln r s
 |_,_=>False
def Pj:List (List AV)→List (List AV)→Prop
 |[],[]=>True
 |x::r,y::s=>Ln x y∧Pj r s
 |_,_=>False
theorem Ln.get:∀{l m:List AV},Ln l m→l.length=m.length∧∀(j:Nat) x y,l[j]?=some x→m[j]?=some y→NL x y
 |[],[],_=>⟨rfl,fun j x y h=>by simp at h⟩
 |a::r,b::s,h=>by
  obtain⟨h1,h2⟩:=Ln.get h.2
  refine⟨by simp[h1],fun j x y hx hy=>?_⟩
  cases j with
  |zero=>simp at hx hy;subst hx hy;exact h.1
  |succ j=>exact h2 j x y (by simpa using hx) (by simpa using hy)
 |[],_::_,h=>h.elim
 |_::_,[],h=>h.elim
theorem Pj.get:∀{l m:List (List AV)},Pj l m→l.length=m.length∧∀(i:Nat) e e',l[i]?=some e→m[i]?=some e'→Ln e e'
 |[],[],_=>⟨rfl,fun j x y h=>by simp at h⟩
 |a::r,b::s,h=>by
  obtain⟨h1,h2⟩:=Pj.get h.2
  refine⟨by simp[h1],fun j x y hx hy=>?_⟩
  cases j with
  |zero=>simp at hx hy;subst hx hy;exact h.1
  |succ j=>exact h2 j x y (by simpa using hx) (by simpa using hy)
 |[],_::_,h=>h.elim
 |_::_,[],h=>h.elim
theorem CX{l m:List AV}(h:Ln l m):NL (.agg l) (.agg m):=.agg l m h.get.1 h.get.2
theorem gM{sz:Nat}{l m:List (List AV)}(h:Pj l m):NL (.sl sz l) (.sl sz m) :=
 .sl sz l m h.get.1 (fun i e e' he rA=>(h.get.2 i e e' he rA).get.1) (fun i e e' he rA=>(h.get.2 i e e' he rA).get.2)
theorem z1{P:Program}{f:Nat}{l l':List AV}{r:AV}(h:A3 P f l r)(hn:Ln l' l):A3 P f l' r:=by
 obtain⟨h1,h2⟩:=hn.get
 unfold A3 at h ⊢
 refine⟨h.1,fun X w vs hX rN hl hv=>h.2 X w vs hX rN (by omega) fun j a v ha qq=>?_⟩
 obtain⟨x,hx⟩:=P5 h1 ha
 exact(h2 j x a hx ha).im (hv j x v hx qq)
theorem SI{E:Env}{n:Nat}{σ:St}(i:Nat){e sz v:Nat}{l:List (List AV)}(l':List (List AV))(hb:A5 σ.hp i=some (.row e sz v l))(hn:Pj l l')(nN:Nat.blt e K2=true:=by rfl):St.le E n σ (σ.set i (.row e sz v l')):=by
 unfold St.le
 rintro a w ⟨θ,h⟩
 obtain⟨nM,nJ⟩:=hn.get
 obtain⟨_,xs,ho,hsz,oT,_⟩:=h.owns i _ hb
 have rR:∃x m c,θ i=.slice x m c:=by
  rcases ho.2 with ⟨h1,_⟩|⟨g,cap,nR,h1,_⟩
  ·exact⟨_,_,_,h1⟩
  ·exact⟨_,_,_,h1⟩
 have ht:=h.turn (v':=θ i) (b':=.row e sz v l') (w':=w) hb rfl rfl rfl (Nat.le_refl _) (fun _ _ _=>rfl) (fun k hk=>.inl hk) ⟨rR,e,v,l,rfl,.inr ⟨rfl,nM,rfl⟩⟩ fun le=>?_
 ·exact⟨_,ht⟩
 ·refine⟨xs,?_,fun e' rA=>?_,fun k oo hk j x hx=>?_,.lt (Nat.blt_eq▸nN)⟩
  ·simp only[cx,F0]
   rw[←nM]
   exact ho
  ·obtain⟨k,hk,rfl⟩:=List.getElem_of_mem rA
   obtain⟨x,hx⟩:=P5 nM (List.getElem?_eq_getElem hk)
   rw[←(nJ k x _ hx (List.getElem?_eq_getElem hk)).get.1]
   exact hsz x (List.mem_of_getElem? hx)
  ·obtain⟨el,rz⟩:=P5 nM hk
   obtain⟨q1,q2⟩:=(nJ k el oo rz hk).get
   obtain⟨x0,pY⟩:=P5 q1 hx
   obtain⟨y,hy,hi⟩:=oT k el rz j x0 pY
   exact⟨y,hy,(q2 j x0 x pY hx).im (hi.mono le.heap le.U)⟩
abbrev Me:Nat:=79
abbrev bL:Nat:=77
abbrev sB(l:List UInt8)(a:Nat)(s:A4):Hp:=[(0,some (.box [.sl 1 (l.map P9),.i a])),(1,some (.row bL 2 0 (s.lists.map As))),(2,some (.row Me 7 0 (s.cols.map U6)))]
theorem eC(l:List UInt8)(a:Nat)(hl:l.length≤400):B8 Tryz.prog 89 1 (X7 l a) [.ref 0 0] 3 (sB l (Cp l a).2 (Cp l a).1) (.agg [.row 1 0 2,.row 2 0 (Cp l a).1.cols.length]):=by
 have pn:=Qp l a G0 hl
 have ow:=Qp l (J2 l a).2 Ep hl
 have e:Cp l a=(⟨[(G0,(J2 l a).1),(Ep,(J2 l (J2 l a).2).1)],(Bm l (V7 (decide (((C1 l (J2 l (J2 l a).2).2 2).1:Int)=1)),(C1 l (C1 l (J2 l (J2 l a).2).2 2).2 3).2) (1+(C1 l (C1 l (J2 l (J2 l a).2).2 2).2 3).1)).1⟩,(Bm l (V7 (decide (((C1 l (J2 l (J2 l a).2).2 2).1:Int)=1)),(C1 l (C1 l (J2 l (J2 l a).2).2 2).2 3).2) (1+(C1 l (C1 l (J2 l (J2 l a).2).2 2).2 3).1)).2):=rfl
 rw[e]
 clear e
 generalize pL:J2 l a=l1 at *
 generalize nv:J2 l l1.2=l2 at *
 obtain⟨c1,a1⟩:=l1
 obtain⟨c2,a2⟩:=l2
 dsimp only at nv pn ow ⊢
 have vq:=Co l a2 2 hl (by omega)
 generalize hb:C1 l a2 2=b at *
 obtain⟨b1,b2⟩:=b
 dsimp only at vq ⊢
 have uY:=u3 l b2 1 3 hl (by omega) (by omega) (by omega)
 have h3:=I4 l b2 (n:=3) (by omega)
 rw[show (3:Int)-1+1=3 from rfl]at uY
 generalize hm:C1 l b2 3=m at *
 obtain⟨m1,m2⟩:=m
 dsimp only at uY h3 ⊢
 refine c9 Tryz.func89 41 fun E h0=>?_
 repeat'((first|refine⟨G3 [0] [0] pn rfl rfl rfl rfl rfl ⟨rfl,trivial⟩ rfl rfl rfl rfl rfl ?_⟩|refine⟨G3 [0] [0] ow rfl rfl rfl rfl rfl ⟨rfl,trivial⟩ rfl rfl rfl rfl rfl ?_⟩|refine R5 (T:=34) rfl ?_|(refine iC 3 [0,2,6,8] ?_;(try (conv=>whnf));refine Dx (Fq 5) ?_;refine Fv [0,2,6,8] ?_;(try (conv=>whnf));refine R5 (T:=33) rfl ?_)|refine⟨G3 [0] [0] vq rfl rfl rfl rfl rfl ⟨rfl,trivial⟩ rfl rfl rfl rfl rfl ?_⟩|refine⟨G3 [0] [0] uY rfl rfl rfl rfl rfl ⟨rfl,trivial⟩ rfl rfl rfl rfl rfl ?_⟩ |refine S2 ?_|(refine T6 ?_ ?_<;>intro h<;>try exact V1 h)|intro el nJ nK|intro el nJ|exact T4|refine T5 ?_ ?_|intro ex)<;>try conv=>whnf)
 all_goals
  refine dZ [0,2,3,4] ?_
  (try (conv=>whnf))
 ·have ou:(b1:Int)=1:=by omega
  rw[decide_eq_true ou]
  refine B0 (ι:=Nat×List D3×Nat) (fun x=>⟨[(0,.ref 0 0),(2,.ref 1 0),(3,.ref 8 0),(4,.i x.1)],9,[(0,some (.box [.sl 1 (l.map P9),.i x.2.2])),(1,some (.box [.v (.slice none 0 0),.v (.slice none 0 0)])),(6,some (.row bL 2 0 [As (G0,c1),As (Ep,c2)])),(7,some (.row Me 7 0 (x.2.1.map U6))),(8,some (.box [.row 6 0 2,.row 7 0 x.2.1.length]))]⟩)
   (fun x=>x.1≤3∧x.2.1.length+x.1≤6∧Bm l (V7 true,m2) (1+m1)=Bm l x.2 x.1) (fun x=>x.1) (1+m1,V7 true,m2) ⟨by dsimp only;omega,by simp only[V7,_root_.cond_true,_root_.cond_false,List.length_cons,List.length_nil];omega,rfl⟩
   (C0 (SI 7 ((V7 true).map U6) rfl ⟨⟨.refl _,.refl _,.refl _,.refl _,.refl _,.nil 1,.refl _,trivial⟩,⟨.refl _,.refl _,.refl _,.refl _,.refl _,.nil 1,.refl _,trivial⟩,⟨.refl _,.refl _,.refl _,.refl _,.refl _,.nil 1,.refl _,trivial⟩,trivial⟩) (A6 h0)) (fun x hI=>?_)
  obtain⟨k,cs,a3⟩:=x
  obtain⟨hk,nM,hI⟩:=hI
  dsimp only at hk nM hI ⊢
  have qb:=Tt l a3 (AL cs.length) hl
  have tW:=Gc cs.length (by omega)
  have qi:=Da cs.length
  repeat'((first|refine F5 ⟨[(0,.ref 0 0),(2,.ref 1 0),(3,.ref 8 0),(4,.i k)],9,[(0,some (.box [.sl 1 (l.map P9),.i (y9 l a3 (AL cs.length)).2])),(1,some (.box [.v (.slice none 0 0),.v (.slice none 0 0)])),(6,some (.row bL 2 0 [As (G0,c1),As (Ep,c2)])),(7,some (.row Me 7 0 ((cs++[(y9 l a3 (AL cs.length)).1]).map U6))),(8,some (.box [.row 6 0 2,.row 7 0 (cs++[(y9 l a3 (AL cs.length)).1]).length]))]⟩ ?_ ?_|refine A0 tW ?_|(refine J0 ?_ ?_;(show 1+(Cc cs.length).length≤_;omega))|refine⟨G3 [0] [0] qb rfl rfl rfl rfl rfl ⟨rfl,trivial⟩ rfl rfl rfl rfl rfl ?_⟩ |refine S2 ?_|(refine T6 ?_ ?_<;>intro h<;>try exact V1 h)|intro el nJ nK|intro el nJ|exact T4|refine T5 ?_ ?_|intro ex)<;>try conv=>whnf)
  all_goals first
   |exact A7 h0 rfl ⟨rfl,rfl,rfl,rfl,trivial⟩ ⟨rfl,rfl,⟨_,rfl⟩,⟨_,congrArg (C4.row Me 7 _) (by rw[List.map_append];rfl)⟩,congrArg (fun z=>C4.box [.row 6 0 2,.row 7 0 z]) (by rw[List.length_append];rfl),trivial⟩ rfl rfl rfl
   |(obtain⟨k',rfl⟩:∃k',k=k'+1:=⟨k-1,by omega⟩
     exact⟨(k',cs++[(y9 l a3 (AL cs.length)).1],(y9 l a3 (AL cs.length)).2),⟨by dsimp only;omega,by dsimp only;rw[List.length_append,List.length_singleton];omega,hI⟩,by dsimp only;omega,A7 h0 rfl ⟨rfl,rfl,rfl,congrArg (fun z=>some (AV.i z)) (by dsimp only;omega),trivial⟩ ⟨rfl,rfl,⟨_,rfl⟩,⟨_,rfl⟩,rfl,trivial⟩ rfl rfl rfl⟩)
   |(obtain rfl:k=0:=by omega
     rw[hI]
     exact M0 (rvs:=[.cell 2 36]) (vs:=[_]) ⟨1,_,_,rfl,rfl,inferInstance,rfl,rfl,trivial⟩ rfl rfl (C0 (CP 1 6 h0 rfl rfl) (C0 (CP 2 7 h0 rfl rfl) (A6 h0))) rfl)
 ·have ou:¬(b1:Int)=1:=by omega
  rw[decide_eq_false ou]
  refine B0 (ι:=Nat×List D3×Nat) (fun x=>⟨[(0,.ref 0 0),(2,.ref 1 0),(3,.ref 8 0),(4,.i x.1)],9,[(0,some (.box [.sl 1 (l.map P9),.i x.2.2])),(1,some (.box [.v (.slice none 0 0),.v (.slice none 0 0)])),(6,some (.row bL 2 0 [As (G0,c1),As (Ep,c2)])),(7,some (.row Me 7 0 (x.2.1.map U6))),(8,some (.box [.row 6 0 2,.row 7 0 x.2.1.length]))]⟩)
   (fun x=>x.1≤3∧x.2.1.length+x.1≤6∧Bm l (V7 false,m2) (1+m1)=Bm l x.2 x.1) (fun x=>x.1) (1+m1,V7 false,m2) ⟨by dsimp only;omega,by simp only[V7,_root_.cond_true,_root_.cond_false,List.length_cons,List.length_nil];omega,rfl⟩
   (C0 (SI 7 ((V7 false).map U6) rfl ⟨⟨.refl _,.refl _,.refl _,.refl _,.refl _,.nil 1,.refl _,trivial⟩,⟨.refl _,.refl _,.refl _,.refl _,.refl _,.nil 1,.refl _,trivial⟩,trivial⟩) (A6 h0)) (fun x hI=>?_)
  obtain⟨k,cs,a3⟩:=x
  obtain⟨hk,nM,hI⟩:=hI
  dsimp only at hk nM hI ⊢
  have qb:=Tt l a3 (AL cs.length) hl
  have tW:=Gc cs.length (by omega)
  have qi:=Da cs.length
  repeat'((first|refine F5 ⟨[(0,.ref 0 0),(2,.ref 1 0),(3,.ref 8 0),(4,.i k)],9,[(0,some (.box [.sl 1 (l.map P9),.i (y9 l a3 (AL cs.length)).2])),(1,some (.box [.v (.slice none 0 0),.v (.slice none 0 0)])),(6,some (.row bL 2 0 [As (G0,c1),As (Ep,c2)])),(7,some (.row Me 7 0 ((cs++[(y9 l a3 (AL cs.length)).1]).map U6))),(8,some (.box [.row 6 0 2,.row 7 0 (cs++[(y9 l a3 (AL cs.length)).1]).length]))]⟩ ?_ ?_|refine A0 tW ?_|(refine J0 ?_ ?_;(show 1+(Cc cs.length).length≤_;omega))|refine⟨G3 [0] [0] qb rfl rfl rfl rfl rfl ⟨rfl,trivial⟩ rfl rfl rfl rfl rfl ?_⟩ |refine S2 ?_|(refine T6 ?_ ?_<;>intro h<;>try exact V1 h)|intro el nJ nK|intro el nJ|exact T4|refine T5 ?_ ?_|intro ex)<;>try conv=>whnf)
  all_goals first
   |exact A7 h0 rfl ⟨rfl,rfl,rfl,rfl,trivial⟩ ⟨rfl,rfl,⟨_,rfl⟩,⟨_,congrArg (C4.row Me 7 _) (by rw[List.map_append];rfl)⟩,congrArg (fun z=>C4.box [.row 6 0 2,.row 7 0 z]) (by rw[List.length_append];rfl),trivial⟩ rfl rfl rfl
   |(obtain⟨k',rfl⟩:∃k',k=k'+1:=⟨k-1,by omega⟩
     exact⟨(k',cs++[(y9 l a3 (AL cs.length)).1],(y9 l a3 (AL cs.length)).2),⟨by dsimp only;omega,by dsimp only;rw[List.length_append,List.length_singleton];omega,hI⟩,by dsimp only;omega,A7 h0 rfl ⟨rfl,rfl,rfl,congrArg (fun z=>some (AV.i z)) (by dsimp only;omega),trivial⟩ ⟨rfl,rfl,⟨_,rfl⟩,⟨_,rfl⟩,rfl,trivial⟩ rfl rfl rfl⟩)
   |(obtain rfl:k=0:=by omega
     rw[hI]
     exact M0 (rvs:=[.cell 2 36]) (vs:=[_]) ⟨1,_,_,rfl,rfl,inferInstance,rfl,rfl,trivial⟩ rfl rfl (C0 (CP 1 6 h0 rfl rfl) (C0 (CP 2 7 h0 rfl rfl) (A6 h0))) rfl)
end Go.Proofs.YtiphlhoclaogjaaGreatDoor

/- Draws: measures. Chapter 2: what every drawn schema is like. Nothing laid is an empty row: in arguments of calls, and in rows of one's own. Draws: schemas. Chapter 2: the example of the chapter. -/
import Derived.Test.YtiphlhoclaogjaaGreatDoorQB5
import Derived.Test.YtiphlhoclaogjaaGreatDoorQB7
import Derived.Test.YtiphlhoclaogjaaGreatDoorQE3
import Derived.Test.YtiphlhoclaogjaaGreatDoorQAvTy
import Derived.Test.YtiphlhoclaogjaaGreatDoorQCd1
set_option linter.unusedVariables false
set_option linter.unnecessarySimpa false
set_option linter.unusedSimpArgs false
set_option maxHeartbeats 64000000
namespace Go.Proofs.YtiphlhoclaogjaaGreatDoor
open Go Go.Av
attribute [local irreducible] C7 B1 D1 C8 DQ D0 C6 St.le A3 B8
set_option maxRecDepth 100000
def Ec:List (List Int):=[[1],[1,5],[1,5,20],[1,2,4,12]]
def o0(l:List UInt8)(a:Nat)(nm:List UInt8):D6×Nat :=
 let low:=-4+((B7 l a 7).1:Int)
 let a1:=(B7 l a 7).2
 let a2:=(B7 l a1 4).2
 let a3:=(B7 l a2 3).2
 (⟨nm,3,0,low,low+((B7 l a3 45).1:Int),Ec.getD (B7 l a1 4).1 [],decide (((B7 l a2 3).1:Int)=2)⟩,(B7 l a3 45).2)
theorem lC{n:Nat}{F:List AV→Prop}(h:(n:Int)<4)(k:F [.sl 1 ((Ec.getD n []).map wA)]):P5 (Ec.map fun ws=>[AV.sl 1 (ws.map wA)]) (n:Int) F:=by
 refine AJ (by show n<4;omega) fun x hx=>?_
 rw[List.getD_eq_getElem?_getD,hx]at k
 exact k
theorem TP(l:List UInt8)(a:Nat)(nm:List UInt8)(hl:l.length≤400):B8 Tryz.prog 142 1 (X0 l a) [.ref 0 0,.str nm] 1 (X0 l (o0 l a nm).2) (T7 (o0 l a nm).1):=by
 have h7:=G1 l a (n:=7) (by omega)
 have h4:=G1 l (B7 l a 7).2 (n:=4) (by omega)
 refine a8 Tryz.func142 28 fun E h0=>?_
 repeat'((first|refine S2 ?_|(refine T6 ?_ ?_<;>intro h<;>try exact V1 h)|intro el nX nY|intro el nX|exact T4|refine T5 ?_ ?_|intro ex)<;>try conv=>whnf)
 refine H9 ⟨[(0,.ref 0 0),(4,.ref 1 0),(5,.ref 2 0)],3,[(0,some (.box [.sl 1 (l.map N9),.i (B7 l (B7 l (B7 l a 7).2 4).2 3).2])),(1,some (.box [.str [],.i 0,.i 0,.i 0,.i 0,.v (.slice none 0 0),.b false])),(2,some (.box [.str nm,.i 3,.i 0,.i (-4+((B7 l a 7).1:Int)),.i 0,.sl 1 ((Ec.getD (B7 l (B7 l a 7).2 4).1 []).map wA),.b (decide (((B7 l (B7 l (B7 l a 7).2 4).2 3).1:Int)=2))]))]⟩ ?_ ?_
 ·repeat'((first|refine⟨F6 [0] [0] (m4 _ _ _ _ hl (by omega) (by omega) (by omega)) rfl rfl rfl rfl rfl ⟨rfl,trivial⟩ rfl rfl rfl rfl rfl ?_⟩|refine⟨F6 [0] [0] (Bg _ _ _ hl (by omega)) rfl rfl rfl rfl rfl ⟨rfl,trivial⟩ rfl rfl rfl rfl rfl ?_⟩|refine⟨F6 [0] [0] (K0 _ _ _ hl) rfl rfl rfl rfl rfl ⟨rfl,trivial⟩ rfl rfl rfl rfl rfl ?_⟩|refine lC h4 ?_ |refine S2 ?_|(refine T6 ?_ ?_<;>intro h<;>try exact V1 h)|intro el nX nY|intro el nX|exact T4|refine T5 ?_ ?_|intro ex)<;>try conv=>whnf)
  all_goals first
   |exact A6 h0
 repeat'((first|refine S2 ?_|(refine T6 ?_ ?_<;>intro h<;>try exact V1 h)|intro el nX nY|intro el nX|exact T4|refine T5 ?_ ?_|intro ex)<;>try conv=>whnf)
 refine H9 ⟨[(0,.ref 0 0),(4,.ref 1 0),(5,.ref 2 0)],3,[(0,some (.box [.sl 1 (l.map N9),.i (B7 l (B7 l (B7 l (B7 l a 7).2 4).2 3).2 45).2])),(1,some (.box [.str [],.i 0,.i 0,.i 0,.i 0,.v (.slice none 0 0),.b false])),(2,some (.box [.str nm,.i 3,.i 0,.i (-4+((B7 l a 7).1:Int)),.i (-4+((B7 l a 7).1:Int)+((B7 l (B7 l (B7 l (B7 l a 7).2 4).2 3).2 45).1:Int)),.sl 1 ((Ec.getD (B7 l (B7 l a 7).2 4).1 []).map wA),.b (decide (((B7 l (B7 l (B7 l a 7).2 4).2 3).1:Int)=2))]))]⟩ ?_ ?_
 ·have h45:=G1 l (B7 l (B7 l (B7 l a 7).2 4).2 3).2 (n:=45) (by omega)
  repeat'((first|refine⟨F6 [0] [0] (K0 _ _ _ hl) rfl rfl rfl rfl rfl ⟨rfl,trivial⟩ rfl rfl rfl rfl rfl ?_⟩ |refine S2 ?_|(refine T6 ?_ ?_<;>intro h<;>try exact V1 h)|intro el nX nY|intro el nX|exact T4|refine T5 ?_ ?_|intro ex)<;>try conv=>whnf)
  all_goals first
   |exact A6 h0
 repeat'((first|refine S2 ?_|(refine T6 ?_ ?_<;>intro h<;>try exact V1 h)|intro el nX nY|intro el nX|exact T4|refine T5 ?_ ?_|intro ex)<;>try conv=>whnf)
 exact M0 (rvs:=[.cell 4 79]) (vs:=[_]) ⟨1,_,_,rfl,rfl,inferInstance,rfl,rfl,trivial⟩ rfl rfl (A6 h0) rfl
def Lt:D6:=⟨[119,104,111],1,0,0,0,[],false⟩
def Cg:D6:=⟨[115,101,120],2,0,0,0,[],false⟩
def JV:D6:=⟨[106,111,98],2,1,0,0,[],false⟩
def t4(n:Nat):List UInt8:=[109]++BN n
def AU(l:List UInt8):List D6×Nat→Nat→List D6×Nat
 |s,0=>s
 |s,k+1=>AU l (s.1++[(o0 l s.2 (t4 s.1.length)).1],(o0 l s.2 (t4 s.1.length)).2) k
abbrev Dx:List UInt8:=[116,119,111]
abbrev E5:List UInt8:=[111,110,101]
def M9(b:Bool):List D6:=cond b [Lt,Cg,JV] [Lt,Cg]
def Bh(l:List UInt8)(a:Nat):A4×Nat :=
 let l1:=J3 l a
 let l2:=J3 l l1.2
 let b:=B7 l l2.2 2
 let m:=B7 l b.2 3
 let r:=AU l (M9 (decide ((b.1:Int)=1)),m.2) (1+m.1)
 (⟨[(E5,l1.1),(Dx,l2.1)],r.1⟩,r.2)
structure R0(c:D6)(nm:List UInt8):Prop where
 name:c.name=nm
 kind:c.kind=3
 lst:c.lst=0
 low:-4≤c.low∧c.low≤2
 high:c.low≤c.high∧c.high≤c.low+44
 wid:c.widths∈Ec
theorem iZ(l:List UInt8)(a:Nat)(nm:List UInt8):R0 (o0 l a nm).1 nm:=by
 have h7:=G1 l a (n:=7) (by omega)
 have h4:=G1 l (B7 l a 7).2 (n:=4) (by omega)
 have h45:=G1 l (B7 l (B7 l (B7 l a 7).2 4).2 3).2 (n:=45) (by omega)
 refine⟨rfl,rfl,rfl,?_,?_,?_⟩
 ·simp only[o0];omega
 ·simp only[o0];omega
 ·simp only[o0]
  have nf:(B7 l (B7 l a 7).2 4).1<Ec.length:=by show _<4;omega
  rw[List.getD_eq_getElem?_getD,List.getElem?_eq_getElem nf]
  exact List.getElem_mem nf
theorem LF(l:List UInt8):∀(k:Nat) (s:List D6×Nat),∃ms,(AU l s k).1=s.1++ms∧ms.length=k∧∀(i:Nat) c,ms[i]?=some c→R0 c (t4 (s.1.length+i))
 |0,s=>⟨[],by simp[AU],rfl,fun i c h=>by simp at h⟩
 |k+1,s=>by
  obtain⟨ms,h1,h2,h3⟩:=LF l k (s.1++[(o0 l s.2 (t4 s.1.length)).1],(o0 l s.2 (t4 s.1.length)).2)
  refine⟨(o0 l s.2 (t4 s.1.length)).1::ms,?_,by simp[h2],fun i c hc=>?_⟩
  ·rw[AU,h1];simp
  ·cases i with
   |zero=>simp at hc;subst hc;exact iZ _ _ _
   |succ i =>
    have:=h3 i c (by simpa using hc)
    simp only[List.length_append,List.length_singleton]at this
    rwa[show s.1.length+(i+1)=s.1.length+1+i by omega]
structure C3(s:A4):Prop where
 ls:∃l1 l2,l1∈Kz∧l2∈Kz∧s.lists=[(E5,l1),(Dx,l2)]
 cs:∃b ms,s.cols=M9 b++ms∧1≤ms.length∧ms.length≤3∧∀(i:Nat) c,ms[i]?=some c→R0 c (t4 ((M9 b).length+i))
theorem Ng(l:List UInt8)(a:Nat):C3 (Bh l a).1:=by
 refine⟨⟨_,_,QE l a,QE l (J3 l a).2,rfl⟩,?_⟩
 have h3:=G1 l (B7 l (J3 l (J3 l a).2).2 2).2 (n:=3) (by omega)
 obtain⟨ms,h1,h2,h4⟩:=LF l (1+(B7 l (B7 l (J3 l (J3 l a).2).2 2).2 3).1) (M9 (decide (((B7 l (J3 l (J3 l a).2).2 2).1:Int)=1)),(B7 l (B7 l (J3 l (J3 l a).2).2 2).2 3).2)
 exact⟨_,ms,h1,by omega,by omega,h4⟩
def TQ(b:Bool)(n:Nat):List (List UInt8):=(M9 b).map (·.name)++(List.range n).map fun i=>t4 ((M9 b).length+i)
def gP(l:List (List UInt8)):Bool:=(List.range l.length).all fun i=>D5 (l.getD i []) && !((l.take i).any fun x=>decide (x=l.getD i []))
theorem eO:([true,false].all fun b=>[1,2,3].all fun n=>gP (TQ b n))=true:=by decide +kernel
def bM(cs:List Code):Bool:=decide (chk E5 cs=0) && decide (chk Dx cs=0) && decide (1≤C4 E5 cs∧C4 E5 cs≤5) && decide (cs.length≤10) && decide (1≤(I5 E5 cs (C4 E5 cs-1)).length∧(I5 E5 cs (C4 E5 cs-1)).length≤10) && ((I5 E5 cs (C4 E5 cs-1)).all fun k=>decide (k<cs.length))
theorem ia:Kz.all bM=true:=by decide +kernel
structure mT(cs:List Code):Prop where
 one:chk E5 cs=0
 two:chk Dx cs=0
 lv:1≤C4 E5 cs∧C4 E5 cs≤5
 len:cs.length≤10
 at':1≤(I5 E5 cs (C4 E5 cs-1)).length∧(I5 E5 cs (C4 E5 cs-1)).length≤10
 mem:∀k∈I5 E5 cs (C4 E5 cs-1),k<cs.length
theorem Ch{cs:List Code}(h:cs∈Kz):mT cs:=by
 have:=List.all_eq_true.1 ia _ h
 simp only[bM,Bool.and_eq_true,decide_eq_true_eq,List.all_eq_true]at this
 obtain⟨⟨⟨⟨⟨h1,h2⟩,h3⟩,h4⟩,h5⟩,h6⟩:=this
 exact⟨h1,h2,h3,h4,h5,h6⟩
theorem TR{a b:List UInt8}(h:D5 a=D5 b)(cs:List Code):chk a cs=chk b cs:=by unfold chk;rw[h]
theorem Oq{a b:List UInt8}(h:D5 a=D5 b)(cs:List Code)(k:Int):hasB a cs k=hasB b cs k:=by unfold hasB;rw[TR h]
theorem Al{a b:List UInt8}(h:D5 a=D5 b)(cs:List Code):C4 a cs=C4 b cs:=by unfold C4;rw[TR h]
theorem Gj{a b:List UInt8}(h:D5 a=D5 b)(cs:List Code)(k lv:Int):N3 a cs k lv=N3 b cs k lv:=by unfold N3;rw[Oq h]
theorem BJ{a b:List UInt8}(h:D5 a=D5 b)(cs:List Code)(lv:Int):I5 a cs lv=I5 b cs lv:=by unfold I5;rw[TR h]
theorem lD:D5 Dx=D5 E5:=by decide
theorem v6{α:Type}{f:Nat→α→Int}:∀{l:List α} {k:Nat},(∀(i:Nat) x,l[i]?=some x→f (k+i) x=0)→E4 f k l=0
 |[],k,_=>rfl
 |y::r,k,h=>by
  have h0:=h 0 y rfl
  simp only[Nat.add_zero]at h0
  rw[E4,if_pos h0]
  refine v6 fun i x hx=>?_
  have:=h (i+1) x (by simpa using hx)
  rwa[show k+(i+1)=k+1+i by omega]at this
theorem R0.meaE{c:D6}{nm:List UInt8}(h:R0 c nm):meaE c=0:=by
 have h1:=h.low
 have h2:=h.high
 have h3:=h.wid
 unfold Go.Proofs.YtiphlhoclaogjaaGreatDoor.meaE
 rw[if_neg (by omega)]
 simp only[Ec,List.mem_cons,List.not_mem_nil,or_false]at h3
 rcases h3 with h3|h3|h3|h3<;>rw[h3]<;>decide
theorem R0.used{c:D6}{nm:List UInt8}(h:R0 c nm):EW c=true:=by
 unfold EW
 rw[h.kind,h.lst]
 simp
theorem R0.kindE{c:D6}{nm:List UInt8}(h:R0 c nm)(s:A4)(i:Nat):kindE s i c=0:=by
 unfold Go.Proofs.YtiphlhoclaogjaaGreatDoor.kindE
 rw[h.kind]
 simp[h.meaE]
theorem C3.col{s:A4}(h:C3 s){i:Nat}{c:D6}(hc:s.cols[i]?=some c):(i=0∧c=Lt)∨(0<i∧(c=Cg∨c=JV))∨(0<i∧∃nm,R0 c nm):=by
 obtain⟨b,ms,h1,_,_,h4⟩:=h.cs
 rw[h1,List.getElem?_append]at hc
 split at hc
 ·cases b<;>simp only[M9,_root_.cond_true,_root_.cond_false,List.length_cons,List.length_nil]at hc
  ·match i,hc with
   |0,hc=>cases hc;exact .inl ⟨rfl,rfl⟩
   |1,hc=>cases hc;exact .inr (.inl ⟨by omega,.inl rfl⟩)
   |n+2,hc=>simp at hc
  ·match i,hc with
   |0,hc=>cases hc;exact .inl ⟨rfl,rfl⟩
   |1,hc=>cases hc;exact .inr (.inl ⟨by omega,.inl rfl⟩)
   |2,hc=>cases hc;exact .inr (.inl ⟨by omega,.inr rfl⟩)
   |n+3,hc=>simp at hc
 ·rename_i nf
  refine .inr (.inr ⟨?_,_,h4 _ c hc⟩)
  cases b<;>simp[M9]at nf<;>omega
theorem C3.names{s:A4}(h:C3 s):gP (s.cols.map (·.name))=true:=by
 obtain⟨b,ms,h1,h2,h3,h4⟩:=h.cs
 have e:s.cols.map (·.name)=TQ b ms.length:=by
  rw[h1,List.map_append]
  unfold TQ
  congr 1
  refine List.ext_getElem? fun i=>?_
  rw[List.getElem?_map,List.getElem?_map]
  by_cases hi:i<ms.length
  ·rw[List.getElem?_eq_getElem hi,List.getElem?_range hi]
   simp only[Option.map_some]
   rw[(h4 i _ (List.getElem?_eq_getElem hi)).name]
  ·rw[List.getElem?_eq_none (by omega),List.getElem?_eq_none (by simp;omega)];rfl
 rw[e]
 have h5:=List.all_eq_true.1 (List.all_eq_true.1 eO b (by cases b<;>simp)) ms.length
 refine h5 ?_
 have:ms.length=1∨ms.length=2∨ms.length=3:=by omega
 rcases this with h|h|h<;>rw[h]<;>simp
theorem C3.colE{s:A4}(h:C3 s){i:Nat}{c:D6}(hc:s.cols[i]?=some c):colE s i c=0:=by
 have hi:=D4 hc
 have hn:=List.all_eq_true.1 h.names i (by simpa using hi)
 simp only[Bool.and_eq_true,Bool.not_eq_true']at hn
 have hg:(s.cols.map (·.name)).getD i []=c.name:=by
  rw[List.getD_eq_getElem?_getD,List.getElem?_map,hc];rfl
 rw[hg]at hn
 have hd:GH s i c=false:=by
  unfold GH
  rw[←hn.2,←List.map_take,List.any_map]
  rfl
 have hl:s.lists.length=2:=by obtain⟨l1,l2,_,_,h⟩:=h.ls;rw[h];rfl
 have hk:kindE s i c=0∧EW c=true:=by
  rcases h.col hc with ⟨rfl,rfl⟩|⟨h0,rfl|rfl⟩|⟨h0,nm,hm⟩
  ·exact⟨by unfold kindE;simp[Lt],by decide⟩
  ·exact⟨by unfold kindE;rw[hl];simp[Cg],by decide⟩
  ·exact⟨by unfold kindE;rw[hl];simp[JV],by decide⟩
  ·exact⟨hm.kindE s i,hm.used⟩
 unfold Go.Proofs.YtiphlhoclaogjaaGreatDoor.colE
 rw[hn.1,hd,hk.1,hk.2]
 rfl
theorem C3.lens{s:A4}(h:C3 s):s.lists.length=2∧3≤s.cols.length∧s.cols.length≤6:=by
 obtain⟨l1,l2,_,_,h1⟩:=h.ls
 obtain⟨b,ms,h2,h3,h4,_⟩:=h.cs
 refine⟨by rw[h1];rfl,?_⟩
 rw[h2,List.length_append]
 cases b<;>simp[M9]<;>omega
theorem C3.ok{s:A4}(h:C3 s):C5 s=0:=by
 have hl:=h.lens
 obtain⟨l1,l2,m1,m2,e⟩:=h.ls
 unfold C5
 rw[if_neg (by omega)]
 have h1:E4 (e8 s.lists) 0 s.lists=0:=by
  refine v6 fun i x hx=>?_
  rw[e]at hx ⊢
  rw[Nat.zero_add]
  match i,hx with
  |0,hx=>cases hx;unfold e8;rw[if_pos (Ch m1).one];rfl
  |1,hx=>cases hx;unfold e8;rw[if_pos (Ch m2).two];rfl
  |n+2,hx=>simp at hx
 have h2:s.cols.head?.map (·.kind)=some 1:=by
  obtain⟨b,ms,h2,_⟩:=h.cs
  rw[h2];cases b<;>rfl
 rw[if_pos h1,if_pos h2]
 exact v6 fun i x hx=>by rw[Nat.zero_add];exact h.colE hx
def LG:List AV→List AV→Prop
 |[],[]=>True
 |x::r,y::s=>NL x y∧LG r s
 |_,_=>False
def Ot:List (List AV)→List (List AV)→Prop
 |[],[]=>True
 |x::r,y::s=>LG x y∧Ot r s
 |_,_=>False
theorem LG.get:∀{l m:List AV},LG l m→l.length=m.length∧∀(j:Nat) x y,l[j]?=some x→m[j]?=some y→NL x y
 |[],[],_=>⟨rfl,fun j x y h=>by simp at h⟩
 |a::r,b::s,h=>by
  obtain⟨h1,h2⟩:=LG.get h.2
  refine⟨by simp[h1],fun j x y hx hy=>?_⟩
  cases j with
  |zero=>simp at hx hy;subst hx hy;exact h.1
  |succ j=>exact h2 j x y (by simpa using hx) (by simpa using hy)
 |[],_::_,h=>h.elim
 |_::_,[],h=>h.elim
theorem Ot.get:∀{l m:List (List AV)},Ot l m→l.length=m.length∧∀(i:Nat) e e',l[i]?=some e→m[i]?=some e'→LG e e'
 |[],[],_=>⟨rfl,fun j x y h=>by simp at h⟩
 |a::r,b::s,h=>by
  obtain⟨h1,h2⟩:=Ot.get h.2
  refine⟨by simp[h1],fun j x y hx hy=>?_⟩
  cases j with
  |zero=>simp at hx hy;subst hx hy;exact h.1
  |succ j=>exact h2 j x y (by simpa using hx) (by simpa using hy)
 |[],_::_,h=>h.elim
 |_::_,[],h=>h.elim
theorem Do{l m:List AV}(h:LG l m):NL (.agg l) (.agg m):=.agg l m h.get.1 h.get.2
theorem gQ{sz:Nat}{l m:List (List AV)}(h:Ot l m):NL (.sl sz l) (.sl sz m) :=
 .sl sz l m h.get.1 (fun i e e' he qu=>(h.get.2 i e e' he qu).get.1) (fun i e e' he qu=>(h.get.2 i e e' he qu).get.2)
theorem AW{P:Program}{f:Nat}{l l':List AV}{r:AV}(h:A3 P f l r)(hn:LG l' l):A3 P f l' r:=by
 obtain⟨h1,h2⟩:=hn.get
 unfold A3 at h ⊢
 refine⟨h.1,fun X w vs hX rR hl hv=>h.2 X w vs hX rR (by omega) fun j a v ha rP=>?_⟩
 obtain⟨x,hx⟩:=O6 h1 ha
 exact(h2 j x a hx ha).im (hv j x v hx rP)
theorem YY{E:Env}{n:Nat}{σ:St}(i:Nat){e sz v:Nat}{l:List (List AV)}(l':List (List AV))(hb:A5 σ.hp i=some (.row e sz v l))(hn:Ot l l')(nf:Nat.blt e K2=true:=by rfl):St.le E n σ (σ.set i (.row e sz v l')):=by
 unfold St.le
 rintro a w ⟨θ,h⟩
 obtain⟨nZ,nX⟩:=hn.get
 obtain⟨_,xs,ho,hsz,oc,_⟩:=h.owns i _ hb
 have rQ:∃x m c,θ i=.slice x m c:=by
  rcases ho.2 with ⟨h1,_⟩|⟨g,cap,nj,h1,_⟩
  ·exact⟨_,_,_,h1⟩
  ·exact⟨_,_,_,h1⟩
 have ht:=h.turn (v':=θ i) (b':=.row e sz v l') (w':=w) hb rfl rfl rfl (Nat.le_refl _) (fun _ _ _=>rfl) (fun k hk=>.inl hk) ⟨rQ,e,v,l,rfl,.inr ⟨rfl,nZ,rfl⟩⟩ fun le=>?_
 ·exact⟨_,ht⟩
 ·refine⟨xs,?_,fun e' qu=>?_,fun k pD hk j x hx=>?_,.lt (Nat.blt_eq▸nf)⟩
  ·simp only[cx,E7]
   rw[←nZ]
   exact ho
  ·obtain⟨k,hk,rfl⟩:=List.getElem_of_mem qu
   obtain⟨x,hx⟩:=O6 nZ (List.getElem?_eq_getElem hk)
   rw[←(nX k x _ hx (List.getElem?_eq_getElem hk)).get.1]
   exact hsz x (List.mem_of_getElem? hx)
  ·obtain⟨el,rE⟩:=O6 nZ hk
   obtain⟨q1,q2⟩:=(nX k el pD rE hk).get
   obtain⟨x0,po⟩:=O6 q1 hx
   obtain⟨y,hy,hi⟩:=oc k el rE j x0 po
   exact⟨y,hy,(q2 j x0 x po hx).im (hi.mono le.heap le.U)⟩
abbrev Lu:Nat:=79
abbrev bN:Nat:=77
abbrev sB(l:List UInt8)(a:Nat)(s:A4):Hp:=[(0,some (.box [.sl 1 (l.map N9),.i a])),(1,some (.row bN 2 0 (s.lists.map x4))),(2,some (.row Lu 7 0 (s.cols.map Z6)))]
theorem eP(l:List UInt8)(a:Nat)(hl:l.length≤400):B8 Tryz.prog 89 1 (X0 l a) [.ref 0 0] 3 (sB l (Bh l a).2 (Bh l a).1) (.agg [.row 1 0 2,.row 2 0 (Bh l a).1.cols.length]):=by
 have qK:=QD l a E5 hl
 have pf:=QD l (J3 l a).2 Dx hl
 have e:Bh l a=(⟨[(E5,(J3 l a).1),(Dx,(J3 l (J3 l a).2).1)],(AU l (M9 (decide (((B7 l (J3 l (J3 l a).2).2 2).1:Int)=1)),(B7 l (B7 l (J3 l (J3 l a).2).2 2).2 3).2) (1+(B7 l (B7 l (J3 l (J3 l a).2).2 2).2 3).1)).1⟩,(AU l (M9 (decide (((B7 l (J3 l (J3 l a).2).2 2).1:Int)=1)),(B7 l (B7 l (J3 l (J3 l a).2).2 2).2 3).2) (1+(B7 l (B7 l (J3 l (J3 l a).2).2 2).2 3).1)).2):=rfl
 rw[e]
 clear e
 generalize pH:J3 l a=l1 at *
 generalize oM:J3 l l1.2=l2 at *
 obtain⟨c1,a1⟩:=l1
 obtain⟨c2,a2⟩:=l2
 dsimp only at oM qK pf ⊢
 have vY:=Bg l a2 2 hl (by omega)
 generalize hb:B7 l a2 2=b at *
 obtain⟨b1,b2⟩:=b
 dsimp only at vY ⊢
 have tx:=m4 l b2 1 3 hl (by omega) (by omega) (by omega)
 have h3:=G1 l b2 (n:=3) (by omega)
 rw[show (3:Int)-1+1=3 from rfl]at tx
 generalize hm:B7 l b2 3=m at *
 obtain⟨m1,m2⟩:=m
 dsimp only at tx h3 ⊢
 refine a8 Tryz.func89 41 fun E h0=>?_
 repeat'((first|refine⟨F6 [0] [0] qK rfl rfl rfl rfl rfl ⟨rfl,trivial⟩ rfl rfl rfl rfl rfl ?_⟩|refine⟨F6 [0] [0] pf rfl rfl rfl rfl rfl ⟨rfl,trivial⟩ rfl rfl rfl rfl rfl ?_⟩|refine b9 (T:=34) rfl ?_|(refine iD 3 [0,2,6,8] ?_;(try (conv=>whnf));refine Em (GY 5) ?_;refine FB [0,2,6,8] ?_;(try (conv=>whnf));refine b9 (T:=33) rfl ?_)|refine⟨F6 [0] [0] vY rfl rfl rfl rfl rfl ⟨rfl,trivial⟩ rfl rfl rfl rfl rfl ?_⟩|refine⟨F6 [0] [0] tx rfl rfl rfl rfl rfl ⟨rfl,trivial⟩ rfl rfl rfl rfl rfl ?_⟩ |refine S2 ?_|(refine T6 ?_ ?_<;>intro h<;>try exact V1 h)|intro el nX nY|intro el nX|exact T4|refine T5 ?_ ?_|intro ex)<;>try conv=>whnf)
 all_goals
  refine du [0,2,3,4] ?_
  (try (conv=>whnf))
 ·have pG:(b1:Int)=1:=by omega
  rw[decide_eq_true pG]
  refine B2 (ι:=Nat×List D6×Nat) (fun x=>⟨[(0,.ref 0 0),(2,.ref 1 0),(3,.ref 8 0),(4,.i x.1)],9,[(0,some (.box [.sl 1 (l.map N9),.i x.2.2])),(1,some (.box [.v (.slice none 0 0),.v (.slice none 0 0)])),(6,some (.row bN 2 0 [x4 (E5,c1),x4 (Dx,c2)])),(7,some (.row Lu 7 0 (x.2.1.map Z6))),(8,some (.box [.row 6 0 2,.row 7 0 x.2.1.length]))]⟩)
   (fun x=>x.1≤3∧x.2.1.length+x.1≤6∧AU l (M9 true,m2) (1+m1)=AU l x.2 x.1) (fun x=>x.1) (1+m1,M9 true,m2) ⟨by dsimp only;omega,by simp only[M9,_root_.cond_true,_root_.cond_false,List.length_cons,List.length_nil];omega,rfl⟩
   (C2 (YY 7 ((M9 true).map Z6) rfl ⟨⟨.refl _,.refl _,.refl _,.refl _,.refl _,.nil 1,.refl _,trivial⟩,⟨.refl _,.refl _,.refl _,.refl _,.refl _,.nil 1,.refl _,trivial⟩,⟨.refl _,.refl _,.refl _,.refl _,.refl _,.nil 1,.refl _,trivial⟩,trivial⟩) (A6 h0)) (fun x hI=>?_)
  obtain⟨k,cs,a3⟩:=x
  obtain⟨hk,nZ,hI⟩:=hI
  dsimp only at hk nZ hI ⊢
  have qQ:=TP l a3 (t4 cs.length) hl
  have wO:=Fj cs.length (by omega)
  have sy:=Ca cs.length
  repeat'((first|refine H9 ⟨[(0,.ref 0 0),(2,.ref 1 0),(3,.ref 8 0),(4,.i k)],9,[(0,some (.box [.sl 1 (l.map N9),.i (o0 l a3 (t4 cs.length)).2])),(1,some (.box [.v (.slice none 0 0),.v (.slice none 0 0)])),(6,some (.row bN 2 0 [x4 (E5,c1),x4 (Dx,c2)])),(7,some (.row Lu 7 0 ((cs++[(o0 l a3 (t4 cs.length)).1]).map Z6))),(8,some (.box [.row 6 0 2,.row 7 0 (cs++[(o0 l a3 (t4 cs.length)).1]).length]))]⟩ ?_ ?_|refine A1 wO ?_|(refine J0 ?_ ?_;(show 1+(BN cs.length).length≤_;omega))|refine⟨F6 [0] [0] qQ rfl rfl rfl rfl rfl ⟨rfl,trivial⟩ rfl rfl rfl rfl rfl ?_⟩ |refine S2 ?_|(refine T6 ?_ ?_<;>intro h<;>try exact V1 h)|intro el nX nY|intro el nX|exact T4|refine T5 ?_ ?_|intro ex)<;>try conv=>whnf)
  all_goals first
   |exact B3 h0 rfl ⟨rfl,rfl,rfl,rfl,trivial⟩ ⟨rfl,rfl,⟨_,rfl⟩,⟨_,congrArg (D3.row Lu 7 _) (by rw[List.map_append];rfl)⟩,congrArg (fun z=>D3.box [.row 6 0 2,.row 7 0 z]) (by rw[List.length_append];rfl),trivial⟩ rfl rfl rfl
   |(obtain⟨k',rfl⟩:∃k',k=k'+1:=⟨k-1,by omega⟩
     exact⟨(k',cs++[(o0 l a3 (t4 cs.length)).1],(o0 l a3 (t4 cs.length)).2),⟨by dsimp only;omega,by dsimp only;rw[List.length_append,List.length_singleton];omega,hI⟩,by dsimp only;omega,B3 h0 rfl ⟨rfl,rfl,rfl,congrArg (fun z=>some (AV.i z)) (by dsimp only;omega),trivial⟩ ⟨rfl,rfl,⟨_,rfl⟩,⟨_,rfl⟩,rfl,trivial⟩ rfl rfl rfl⟩)
   |(obtain rfl:k=0:=by omega
     rw[hI]
     exact M0 (rvs:=[.cell 2 36]) (vs:=[_]) ⟨1,_,_,rfl,rfl,inferInstance,rfl,rfl,trivial⟩ rfl rfl (C2 (BC 1 6 h0 rfl rfl) (C2 (BC 2 7 h0 rfl rfl) (A6 h0))) rfl)
 ·have pG:¬(b1:Int)=1:=by omega
  rw[decide_eq_false pG]
  refine B2 (ι:=Nat×List D6×Nat) (fun x=>⟨[(0,.ref 0 0),(2,.ref 1 0),(3,.ref 8 0),(4,.i x.1)],9,[(0,some (.box [.sl 1 (l.map N9),.i x.2.2])),(1,some (.box [.v (.slice none 0 0),.v (.slice none 0 0)])),(6,some (.row bN 2 0 [x4 (E5,c1),x4 (Dx,c2)])),(7,some (.row Lu 7 0 (x.2.1.map Z6))),(8,some (.box [.row 6 0 2,.row 7 0 x.2.1.length]))]⟩)
   (fun x=>x.1≤3∧x.2.1.length+x.1≤6∧AU l (M9 false,m2) (1+m1)=AU l x.2 x.1) (fun x=>x.1) (1+m1,M9 false,m2) ⟨by dsimp only;omega,by simp only[M9,_root_.cond_true,_root_.cond_false,List.length_cons,List.length_nil];omega,rfl⟩
   (C2 (YY 7 ((M9 false).map Z6) rfl ⟨⟨.refl _,.refl _,.refl _,.refl _,.refl _,.nil 1,.refl _,trivial⟩,⟨.refl _,.refl _,.refl _,.refl _,.refl _,.nil 1,.refl _,trivial⟩,trivial⟩) (A6 h0)) (fun x hI=>?_)
  obtain⟨k,cs,a3⟩:=x
  obtain⟨hk,nZ,hI⟩:=hI
  dsimp only at hk nZ hI ⊢
  have qQ:=TP l a3 (t4 cs.length) hl
  have wO:=Fj cs.length (by omega)
  have sy:=Ca cs.length
  repeat'((first|refine H9 ⟨[(0,.ref 0 0),(2,.ref 1 0),(3,.ref 8 0),(4,.i k)],9,[(0,some (.box [.sl 1 (l.map N9),.i (o0 l a3 (t4 cs.length)).2])),(1,some (.box [.v (.slice none 0 0),.v (.slice none 0 0)])),(6,some (.row bN 2 0 [x4 (E5,c1),x4 (Dx,c2)])),(7,some (.row Lu 7 0 ((cs++[(o0 l a3 (t4 cs.length)).1]).map Z6))),(8,some (.box [.row 6 0 2,.row 7 0 (cs++[(o0 l a3 (t4 cs.length)).1]).length]))]⟩ ?_ ?_|refine A1 wO ?_|(refine J0 ?_ ?_;(show 1+(BN cs.length).length≤_;omega))|refine⟨F6 [0] [0] qQ rfl rfl rfl rfl rfl ⟨rfl,trivial⟩ rfl rfl rfl rfl rfl ?_⟩ |refine S2 ?_|(refine T6 ?_ ?_<;>intro h<;>try exact V1 h)|intro el nX nY|intro el nX|exact T4|refine T5 ?_ ?_|intro ex)<;>try conv=>whnf)
  all_goals first
   |exact B3 h0 rfl ⟨rfl,rfl,rfl,rfl,trivial⟩ ⟨rfl,rfl,⟨_,rfl⟩,⟨_,congrArg (D3.row Lu 7 _) (by rw[List.map_append];rfl)⟩,congrArg (fun z=>D3.box [.row 6 0 2,.row 7 0 z]) (by rw[List.length_append];rfl),trivial⟩ rfl rfl rfl
   |(obtain⟨k',rfl⟩:∃k',k=k'+1:=⟨k-1,by omega⟩
     exact⟨(k',cs++[(o0 l a3 (t4 cs.length)).1],(o0 l a3 (t4 cs.length)).2),⟨by dsimp only;omega,by dsimp only;rw[List.length_append,List.length_singleton];omega,hI⟩,by dsimp only;omega,B3 h0 rfl ⟨rfl,rfl,rfl,congrArg (fun z=>some (AV.i z)) (by dsimp only;omega),trivial⟩ ⟨rfl,rfl,⟨_,rfl⟩,⟨_,rfl⟩,rfl,trivial⟩ rfl rfl rfl⟩)
   |(obtain rfl:k=0:=by omega
     rw[hI]
     exact M0 (rvs:=[.cell 2 36]) (vs:=[_]) ⟨1,_,_,rfl,rfl,inferInstance,rfl,rfl,trivial⟩ rfl rfl (C2 (BC 1 6 h0 rfl rfl) (C2 (BC 2 7 h0 rfl rfl) (A6 h0))) rfl)
end Go.Proofs.YtiphlhoclaogjaaGreatDoor

/- Draws: measures. Chapter 2: what every drawn schema is like. Nothing laid is an empty row: in arguments of calls, and in rows of one's own. Draws: schemas. Chapter 2: the example of the chapter. -/
import Derived.Test.YtjkbhaaobhgkdabGreatDoorRB5
import Derived.Test.YtjkbhaaobhgkdabGreatDoorRB7
import Derived.Test.YtjkbhaaobhgkdabGreatDoorRE3
import Derived.Test.YtjkbhaaobhgkdabGreatDoorRAvTy
import Derived.Test.YtjkbhaaobhgkdabGreatDoorRB8
set_option linter.unusedVariables false
set_option linter.unnecessarySimpa false
set_option linter.unusedSimpArgs false
set_option maxHeartbeats 64000000
namespace Go.Proofs.YtjkbhaaobhgkdabGreatDoor
open Go Go.Av
attribute [local irreducible] D0 B0 D2 C7 DQ D1 C8 St.le A3 B6
set_option maxRecDepth 100000
def En:List (List Int):=[[1],[1,5],[1,5,20],[1,2,4,12]]
def o4(l:List UInt8)(a:Nat)(nm:List UInt8):D4×Nat :=
 let low:=-4+((B3 l a 7).1:Int)
 let a1:=(B3 l a 7).2
 let a2:=(B3 l a1 4).2
 let a3:=(B3 l a2 3).2
 (⟨nm,3,0,low,low+((B3 l a3 45).1:Int),En.getD (B3 l a1 4).1 [],decide (((B3 l a2 3).1:Int)=2)⟩,(B3 l a3 45).2)
theorem kg{n:Nat}{F:List AV→Prop}(h:(n:Int)<4)(k:F [.sl 1 ((En.getD n []).map wA)]):O6 (En.map fun ws=>[AV.sl 1 (ws.map wA)]) (n:Int) F:=by
 refine Aj (by show n<4;omega) fun x hx=>?_
 rw[List.getD_eq_getElem?_getD,hx]at k
 exact k
theorem TO(l:List UInt8)(a:Nat)(nm:List UInt8)(hl:l.length≤400):B6 Tryz.prog 77 1 (V3 l a) [.ref 0 0,.str nm] 1 (V3 l (o4 l a nm).2) (W6 (o4 l a nm).1):=by
 have h7:=F9 l a (n:=7) (by omega)
 have h4:=F9 l (B3 l a 7).2 (n:=4) (by omega)
 refine X6 Tryz.func77 28 fun E h0=>?_
 repeat'((first|refine S2 ?_|(refine T6 ?_ ?_<;>intro h<;>try exact V1 h)|intro el nN nP|intro el nN|exact T4|refine T5 ?_ ?_|intro ex)<;>try conv=>whnf)
 refine H4 ⟨[(0,.ref 0 0),(4,.ref 1 0),(5,.ref 2 0)],3,[(0,some (.box [.sl 1 (l.map O2),.i (B3 l (B3 l (B3 l a 7).2 4).2 3).2])),(1,some (.box [.str [],.i 0,.i 0,.i 0,.i 0,.v (.slice none 0 0),.b false])),(2,some (.box [.str nm,.i 3,.i 0,.i (-4+((B3 l a 7).1:Int)),.i 0,.sl 1 ((En.getD (B3 l (B3 l a 7).2 4).1 []).map wA),.b (decide (((B3 l (B3 l (B3 l a 7).2 4).2 3).1:Int)=2))]))]⟩ ?_ ?_
 ·repeat'((first|refine⟨F6 [0] [0] (l5 _ _ _ _ hl (by omega) (by omega) (by omega)) rfl rfl rfl rfl rfl ⟨rfl,trivial⟩ rfl rfl rfl rfl rfl ?_⟩|refine⟨F6 [0] [0] (Bx _ _ _ hl (by omega)) rfl rfl rfl rfl rfl ⟨rfl,trivial⟩ rfl rfl rfl rfl rfl ?_⟩|refine⟨F6 [0] [0] (J2 _ _ _ hl) rfl rfl rfl rfl rfl ⟨rfl,trivial⟩ rfl rfl rfl rfl rfl ?_⟩|refine kg h4 ?_ |refine S2 ?_|(refine T6 ?_ ?_<;>intro h<;>try exact V1 h)|intro el nN nP|intro el nN|exact T4|refine T5 ?_ ?_|intro ex)<;>try conv=>whnf)
  all_goals first
   |exact A6 h0
 repeat'((first|refine S2 ?_|(refine T6 ?_ ?_<;>intro h<;>try exact V1 h)|intro el nN nP|intro el nN|exact T4|refine T5 ?_ ?_|intro ex)<;>try conv=>whnf)
 refine H4 ⟨[(0,.ref 0 0),(4,.ref 1 0),(5,.ref 2 0)],3,[(0,some (.box [.sl 1 (l.map O2),.i (B3 l (B3 l (B3 l (B3 l a 7).2 4).2 3).2 45).2])),(1,some (.box [.str [],.i 0,.i 0,.i 0,.i 0,.v (.slice none 0 0),.b false])),(2,some (.box [.str nm,.i 3,.i 0,.i (-4+((B3 l a 7).1:Int)),.i (-4+((B3 l a 7).1:Int)+((B3 l (B3 l (B3 l (B3 l a 7).2 4).2 3).2 45).1:Int)),.sl 1 ((En.getD (B3 l (B3 l a 7).2 4).1 []).map wA),.b (decide (((B3 l (B3 l (B3 l a 7).2 4).2 3).1:Int)=2))]))]⟩ ?_ ?_
 ·have h45:=F9 l (B3 l (B3 l (B3 l a 7).2 4).2 3).2 (n:=45) (by omega)
  repeat'((first|refine⟨F6 [0] [0] (J2 _ _ _ hl) rfl rfl rfl rfl rfl ⟨rfl,trivial⟩ rfl rfl rfl rfl rfl ?_⟩ |refine S2 ?_|(refine T6 ?_ ?_<;>intro h<;>try exact V1 h)|intro el nN nP|intro el nN|exact T4|refine T5 ?_ ?_|intro ex)<;>try conv=>whnf)
  all_goals first
   |exact A6 h0
 repeat'((first|refine S2 ?_|(refine T6 ?_ ?_<;>intro h<;>try exact V1 h)|intro el nN nP|intro el nN|exact T4|refine T5 ?_ ?_|intro ex)<;>try conv=>whnf)
 exact L8 (rvs:=[.cell 4 56]) (vs:=[_]) ⟨1,_,_,rfl,rfl,inferInstance,rfl,rfl,trivial⟩ rfl rfl (A6 h0) rfl
def ME:D4:=⟨[119,104,111],1,0,0,0,[],false⟩
def Dd:D4:=⟨[115,101,120],2,0,0,0,[],false⟩
def Hn:D4:=⟨[106,111,98],2,1,0,0,[],false⟩
def s9(n:Nat):List UInt8:=[109]++Bk n
def Ar(l:List UInt8):List D4×Nat→Nat→List D4×Nat
 |s,0=>s
 |s,k+1=>Ar l (s.1++[(o4 l s.2 (s9 s.1.length)).1],(o4 l s.2 (s9 s.1.length)).2) k
abbrev EM:List UInt8:=[116,119,111]
abbrev E3:List UInt8:=[111,110,101]
def M8(b:Bool):List D4:=cond b [ME,Dd,Hn] [ME,Dd]
def Bz(l:List UInt8)(a:Nat):A4×Nat :=
 let l1:=I9 l a
 let l2:=I9 l l1.2
 let b:=B3 l l2.2 2
 let m:=B3 l b.2 3
 let r:=Ar l (M8 (decide ((b.1:Int)=1)),m.2) (1+m.1)
 (⟨[(E3,l1.1),(EM,l2.1)],r.1⟩,r.2)
structure P8(c:D4)(nm:List UInt8):Prop where
 name:c.name=nm
 kind:c.kind=3
 lst:c.lst=0
 low:-4≤c.low∧c.low≤2
 high:c.low≤c.high∧c.high≤c.low+44
 wid:c.widths∈En
theorem iR(l:List UInt8)(a:Nat)(nm:List UInt8):P8 (o4 l a nm).1 nm:=by
 have h7:=F9 l a (n:=7) (by omega)
 have h4:=F9 l (B3 l a 7).2 (n:=4) (by omega)
 have h45:=F9 l (B3 l (B3 l (B3 l a 7).2 4).2 3).2 (n:=45) (by omega)
 refine⟨rfl,rfl,rfl,?_,?_,?_⟩
 ·simp only[o4];omega
 ·simp only[o4];omega
 ·simp only[o4]
  have nR:(B3 l (B3 l a 7).2 4).1<En.length:=by show _<4;omega
  rw[List.getD_eq_getElem?_getD,List.getElem?_eq_getElem nR]
  exact List.getElem_mem nR
theorem LO(l:List UInt8):∀(k:Nat) (s:List D4×Nat),∃ms,(Ar l s k).1=s.1++ms∧ms.length=k∧∀(i:Nat) c,ms[i]?=some c→P8 c (s9 (s.1.length+i))
 |0,s=>⟨[],by simp[Ar],rfl,fun i c h=>by simp at h⟩
 |k+1,s=>by
  obtain⟨ms,h1,h2,h3⟩:=LO l k (s.1++[(o4 l s.2 (s9 s.1.length)).1],(o4 l s.2 (s9 s.1.length)).2)
  refine⟨(o4 l s.2 (s9 s.1.length)).1::ms,?_,by simp[h2],fun i c hc=>?_⟩
  ·rw[Ar,h1];simp
  ·cases i with
   |zero=>simp at hc;subst hc;exact iR _ _ _
   |succ i =>
    have:=h3 i c (by simpa using hc)
    simp only[List.length_append,List.length_singleton]at this
    rwa[show s.1.length+(i+1)=s.1.length+1+i by omega]
structure C4(s:A4):Prop where
 ls:∃l1 l2,l1∈LJ∧l2∈LJ∧s.lists=[(E3,l1),(EM,l2)]
 cs:∃b ms,s.cols=M8 b++ms∧1≤ms.length∧ms.length≤3∧∀(i:Nat) c,ms[i]?=some c→P8 c (s9 ((M8 b).length+i))
theorem Nm(l:List UInt8)(a:Nat):C4 (Bz l a).1:=by
 refine⟨⟨_,_,QH l a,QH l (I9 l a).2,rfl⟩,?_⟩
 have h3:=F9 l (B3 l (I9 l (I9 l a).2).2 2).2 (n:=3) (by omega)
 obtain⟨ms,h1,h2,h4⟩:=LO l (1+(B3 l (B3 l (I9 l (I9 l a).2).2 2).2 3).1) (M8 (decide (((B3 l (I9 l (I9 l a).2).2 2).1:Int)=1)),(B3 l (B3 l (I9 l (I9 l a).2).2 2).2 3).2)
 exact⟨_,ms,h1,by omega,by omega,h4⟩
def TP(b:Bool)(n:Nat):List (List UInt8):=(M8 b).map (·.name)++(List.range n).map fun i=>s9 ((M8 b).length+i)
def gD(l:List (List UInt8)):Bool:=(List.range l.length).all fun i=>D5 (l.getD i []) && !((l.take i).any fun x=>decide (x=l.getD i []))
theorem dt:([true,false].all fun b=>[1,2,3].all fun n=>gD (TP b n))=true:=by decide +kernel
def az(cs:List Code):Bool:=decide (chk E3 cs=0) && decide (chk EM cs=0) && decide (1≤C3 E3 cs∧C3 E3 cs≤5) && decide (cs.length≤10) && decide (1≤(H6 E3 cs (C3 E3 cs-1)).length∧(H6 E3 cs (C3 E3 cs-1)).length≤10) && ((H6 E3 cs (C3 E3 cs-1)).all fun k=>decide (k<cs.length))
theorem iS:LJ.all az=true:=by decide +kernel
structure mE(cs:List Code):Prop where
 one:chk E3 cs=0
 two:chk EM cs=0
 lv:1≤C3 E3 cs∧C3 E3 cs≤5
 len:cs.length≤10
 at':1≤(H6 E3 cs (C3 E3 cs-1)).length∧(H6 E3 cs (C3 E3 cs-1)).length≤10
 mem:∀k∈H6 E3 cs (C3 E3 cs-1),k<cs.length
theorem Cu{cs:List Code}(h:cs∈LJ):mE cs:=by
 have:=List.all_eq_true.1 iS _ h
 simp only[az,Bool.and_eq_true,decide_eq_true_eq,List.all_eq_true]at this
 obtain⟨⟨⟨⟨⟨h1,h2⟩,h3⟩,h4⟩,h5⟩,h6⟩:=this
 exact⟨h1,h2,h3,h4,h5,h6⟩
theorem TQ{a b:List UInt8}(h:D5 a=D5 b)(cs:List Code):chk a cs=chk b cs:=by unfold chk;rw[h]
theorem Ow{a b:List UInt8}(h:D5 a=D5 b)(cs:List Code)(k:Int):hasB a cs k=hasB b cs k:=by unfold hasB;rw[TQ h]
theorem BJ{a b:List UInt8}(h:D5 a=D5 b)(cs:List Code):C3 a cs=C3 b cs:=by unfold C3;rw[TQ h]
theorem Gv{a b:List UInt8}(h:D5 a=D5 b)(cs:List Code)(k lv:Int):M6 a cs k lv=M6 b cs k lv:=by unfold M6;rw[Ow h]
theorem Bf{a b:List UInt8}(h:D5 a=D5 b)(cs:List Code)(lv:Int):H6 a cs lv=H6 b cs lv:=by unfold H6;rw[TQ h]
theorem ki:D5 EM=D5 E3:=by decide
theorem x9{α:Type}{f:Nat→α→Int}:∀{l:List α} {k:Nat},(∀(i:Nat) x,l[i]?=some x→f (k+i) x=0)→E8 f k l=0
 |[],k,_=>rfl
 |y::r,k,h=>by
  have h0:=h 0 y rfl
  simp only[Nat.add_zero]at h0
  rw[E8,if_pos h0]
  refine x9 fun i x hx=>?_
  have:=h (i+1) x (by simpa using hx)
  rwa[show k+(i+1)=k+1+i by omega]at this
theorem P8.meaE{c:D4}{nm:List UInt8}(h:P8 c nm):meaE c=0:=by
 have h1:=h.low
 have h2:=h.high
 have h3:=h.wid
 unfold Go.Proofs.YtjkbhaaobhgkdabGreatDoor.meaE
 rw[if_neg (by omega)]
 simp only[En,List.mem_cons,List.not_mem_nil,or_false]at h3
 rcases h3 with h3|h3|h3|h3<;>rw[h3]<;>decide
theorem P8.used{c:D4}{nm:List UInt8}(h:P8 c nm):Ei c=true:=by
 unfold Ei
 rw[h.kind,h.lst]
 simp
theorem P8.kindE{c:D4}{nm:List UInt8}(h:P8 c nm)(s:A4)(i:Nat):kindE s i c=0:=by
 unfold Go.Proofs.YtjkbhaaobhgkdabGreatDoor.kindE
 rw[h.kind]
 simp[h.meaE]
theorem C4.col{s:A4}(h:C4 s){i:Nat}{c:D4}(hc:s.cols[i]?=some c):(i=0∧c=ME)∨(0<i∧(c=Dd∨c=Hn))∨(0<i∧∃nm,P8 c nm):=by
 obtain⟨b,ms,h1,_,_,h4⟩:=h.cs
 rw[h1,List.getElem?_append]at hc
 split at hc
 ·cases b<;>simp only[M8,_root_.cond_true,_root_.cond_false,List.length_cons,List.length_nil]at hc
  ·match i,hc with
   |0,hc=>cases hc;exact .inl ⟨rfl,rfl⟩
   |1,hc=>cases hc;exact .inr (.inl ⟨by omega,.inl rfl⟩)
   |n+2,hc=>simp at hc
  ·match i,hc with
   |0,hc=>cases hc;exact .inl ⟨rfl,rfl⟩
   |1,hc=>cases hc;exact .inr (.inl ⟨by omega,.inl rfl⟩)
   |2,hc=>cases hc;exact .inr (.inl ⟨by omega,.inr rfl⟩)
   |n+3,hc=>simp at hc
 ·rename_i nR
  refine .inr (.inr ⟨?_,_,h4 _ c hc⟩)
  cases b<;>simp[M8]at nR<;>omega
theorem C4.names{s:A4}(h:C4 s):gD (s.cols.map (·.name))=true:=by
 obtain⟨b,ms,h1,h2,h3,h4⟩:=h.cs
 have e:s.cols.map (·.name)=TP b ms.length:=by
  rw[h1,List.map_append]
  unfold TP
  congr 1
  refine List.ext_getElem? fun i=>?_
  rw[List.getElem?_map,List.getElem?_map]
  by_cases hi:i<ms.length
  ·rw[List.getElem?_eq_getElem hi,List.getElem?_range hi]
   simp only[Option.map_some]
   rw[(h4 i _ (List.getElem?_eq_getElem hi)).name]
  ·rw[List.getElem?_eq_none (by omega),List.getElem?_eq_none (by simp;omega)];rfl
 rw[e]
 have h5:=List.all_eq_true.1 (List.all_eq_true.1 dt b (by cases b<;>simp)) ms.length
 refine h5 ?_
 have:ms.length=1∨ms.length=2∨ms.length=3:=by omega
 rcases this with h|h|h<;>rw[h]<;>simp
theorem C4.colE{s:A4}(h:C4 s){i:Nat}{c:D4}(hc:s.cols[i]?=some c):colE s i c=0:=by
 have hi:=D6 hc
 have hn:=List.all_eq_true.1 h.names i (by simpa using hi)
 simp only[Bool.and_eq_true,Bool.not_eq_true']at hn
 have hg:(s.cols.map (·.name)).getD i []=c.name:=by
  rw[List.getD_eq_getElem?_getD,List.getElem?_map,hc];rfl
 rw[hg]at hn
 have hd:GU s i c=false:=by
  unfold GU
  rw[←hn.2,←List.map_take,List.any_map]
  rfl
 have hl:s.lists.length=2:=by obtain⟨l1,l2,_,_,h⟩:=h.ls;rw[h];rfl
 have hk:kindE s i c=0∧Ei c=true:=by
  rcases h.col hc with ⟨rfl,rfl⟩|⟨h0,rfl|rfl⟩|⟨h0,nm,hm⟩
  ·exact⟨by unfold kindE;simp[ME],by decide⟩
  ·exact⟨by unfold kindE;rw[hl];simp[Dd],by decide⟩
  ·exact⟨by unfold kindE;rw[hl];simp[Hn],by decide⟩
  ·exact⟨hm.kindE s i,hm.used⟩
 unfold Go.Proofs.YtjkbhaaobhgkdabGreatDoor.colE
 rw[hn.1,hd,hk.1,hk.2]
 rfl
theorem C4.lens{s:A4}(h:C4 s):s.lists.length=2∧3≤s.cols.length∧s.cols.length≤6:=by
 obtain⟨l1,l2,_,_,h1⟩:=h.ls
 obtain⟨b,ms,h2,h3,h4,_⟩:=h.cs
 refine⟨by rw[h1];rfl,?_⟩
 rw[h2,List.length_append]
 cases b<;>simp[M8]<;>omega
theorem C4.ok{s:A4}(h:C4 s):C5 s=0:=by
 have hl:=h.lens
 obtain⟨l1,l2,m1,m2,e⟩:=h.ls
 unfold C5
 rw[if_neg (by omega)]
 have h1:E8 (Z9 s.lists) 0 s.lists=0:=by
  refine x9 fun i x hx=>?_
  rw[e]at hx ⊢
  rw[Nat.zero_add]
  match i,hx with
  |0,hx=>cases hx;unfold Z9;rw[if_pos (Cu m1).one];rfl
  |1,hx=>cases hx;unfold Z9;rw[if_pos (Cu m2).two];rfl
  |n+2,hx=>simp at hx
 have h2:s.cols.head?.map (·.kind)=some 1:=by
  obtain⟨b,ms,h2,_⟩:=h.cs
  rw[h2];cases b<;>rfl
 rw[if_pos h1,if_pos h2]
 exact x9 fun i x hx=>by rw[Nat.zero_add];exact h.colE hx
def LP:List AV→List AV→Prop
 |[],[]=>True
 |x::r,y::s=>NL x y∧LP r s
 |_,_=>False
def Ox:List (List AV)→List (List AV)→Prop
 |[],[]=>True
 |x::r,y::s=>LP x y∧Ox r s
 |_,_=>False
theorem LP.get:∀{l m:List AV},LP l m→l.length=m.length∧∀(j:Nat) x y,l[j]?=some x→m[j]?=some y→NL x y
 |[],[],_=>⟨rfl,fun j x y h=>by simp at h⟩
 |a::r,b::s,h=>by
  obtain⟨h1,h2⟩:=LP.get h.2
  refine⟨by simp[h1],fun j x y hx hy=>?_⟩
  cases j with
  |zero=>simp at hx hy;subst hx hy;exact h.1
  |succ j=>exact h2 j x y (by simpa using hx) (by simpa using hy)
 |[],_::_,h=>h.elim
 |_::_,[],h=>h.elim
theorem Ox.get:∀{l m:List (List AV)},Ox l m→l.length=m.length∧∀(i:Nat) e e',l[i]?=some e→m[i]?=some e'→LP e e'
 |[],[],_=>⟨rfl,fun j x y h=>by simp at h⟩
 |a::r,b::s,h=>by
  obtain⟨h1,h2⟩:=Ox.get h.2
  refine⟨by simp[h1],fun j x y hx hy=>?_⟩
  cases j with
  |zero=>simp at hx hy;subst hx hy;exact h.1
  |succ j=>exact h2 j x y (by simpa using hx) (by simpa using hy)
 |[],_::_,h=>h.elim
 |_::_,[],h=>h.elim
theorem EE{l m:List AV}(h:LP l m):NL (.agg l) (.agg m):=.agg l m h.get.1 h.get.2
theorem gE{sz:Nat}{l m:List (List AV)}(h:Ox l m):NL (.sl sz l) (.sl sz m) :=
 .sl sz l m h.get.1 (fun i e e' he qh=>(h.get.2 i e e' he qh).get.1) (fun i e e' he qh=>(h.get.2 i e e' he qh).get.2)
theorem CA{P:Program}{f:Nat}{l l':List AV}{r:AV}(h:A3 P f l r)(hn:LP l' l):A3 P f l' r:=by
 obtain⟨h1,h2⟩:=hn.get
 unfold A3 at h ⊢
 refine⟨h.1,fun X w vs hX qx hl hv=>h.2 X w vs hX qx (by omega) fun j a v ha rJ=>?_⟩
 obtain⟨x,hx⟩:=N6 h1 ha
 exact(h2 j x a hx ha).im (hv j x v hx rJ)
theorem YR{E:Env}{n:Nat}{σ:St}(i:Nat){e sz v:Nat}{l:List (List AV)}(l':List (List AV))(hb:A5 σ.hp i=some (.row e sz v l))(hn:Ox l l')(nR:Nat.blt e J1=true:=by rfl):St.le E n σ (σ.set i (.row e sz v l')):=by
 unfold St.le
 rintro a w ⟨θ,h⟩
 obtain⟨nO,nN⟩:=hn.get
 obtain⟨_,xs,ho,hsz,oO,_⟩:=h.owns i _ hb
 have rA:∃x m c,θ i=.slice x m c:=by
  rcases ho.2 with ⟨h1,_⟩|⟨g,cap,nV,h1,_⟩
  ·exact⟨_,_,_,h1⟩
  ·exact⟨_,_,_,h1⟩
 have ht:=h.turn (v':=θ i) (b':=.row e sz v l') (w':=w) hb rfl rfl rfl (Nat.le_refl _) (fun _ _ _=>rfl) (fun k hk=>.inl hk) ⟨rA,e,v,l,rfl,.inr ⟨rfl,nO,rfl⟩⟩ fun le=>?_
 ·exact⟨_,ht⟩
 ·refine⟨xs,?_,fun e' qh=>?_,fun k og hk j x hx=>?_,.lt (Nat.blt_eq▸nR)⟩
  ·simp only[cx,E5]
   rw[←nO]
   exact ho
  ·obtain⟨k,hk,rfl⟩:=List.getElem_of_mem qh
   obtain⟨x,hx⟩:=N6 nO (List.getElem?_eq_getElem hk)
   rw[←(nN k x _ hx (List.getElem?_eq_getElem hk)).get.1]
   exact hsz x (List.mem_of_getElem? hx)
  ·obtain⟨el,rp⟩:=N6 nO hk
   obtain⟨q1,q2⟩:=(nN k el og rp hk).get
   obtain⟨x0,pb⟩:=N6 q1 hx
   obtain⟨y,hy,hi⟩:=oO k el rp j x0 pb
   exact⟨y,hy,(q2 j x0 x pb hx).im (hi.mono le.heap le.U)⟩
abbrev MF:Nat:=56
abbrev bB:Nat:=54
abbrev sB(l:List UInt8)(a:Nat)(s:A4):Hp:=[(0,some (.box [.sl 1 (l.map O2),.i a])),(1,some (.row bB 2 0 (s.lists.map z1))),(2,some (.row MF 7 0 (s.cols.map W5)))]
theorem du(l:List UInt8)(a:Nat)(hl:l.length≤400):B6 Tryz.prog 37 1 (V3 l a) [.ref 0 0] 3 (sB l (Bz l a).2 (Bz l a).1) (.agg [.row 1 0 2,.row 2 0 (Bz l a).1.cols.length]):=by
 have qC:=QG l a E3 hl
 have pc:=QG l (I9 l a).2 EM hl
 have e:Bz l a=(⟨[(E3,(I9 l a).1),(EM,(I9 l (I9 l a).2).1)],(Ar l (M8 (decide (((B3 l (I9 l (I9 l a).2).2 2).1:Int)=1)),(B3 l (B3 l (I9 l (I9 l a).2).2 2).2 3).2) (1+(B3 l (B3 l (I9 l (I9 l a).2).2 2).2 3).1)).1⟩,(Ar l (M8 (decide (((B3 l (I9 l (I9 l a).2).2 2).1:Int)=1)),(B3 l (B3 l (I9 l (I9 l a).2).2 2).2 3).2) (1+(B3 l (B3 l (I9 l (I9 l a).2).2 2).2 3).1)).2):=rfl
 rw[e]
 clear e
 generalize om:I9 l a=l1 at *
 generalize oF:I9 l l1.2=l2 at *
 obtain⟨c1,a1⟩:=l1
 obtain⟨c2,a2⟩:=l2
 dsimp only at oF qC pc ⊢
 have vJ:=Bx l a2 2 hl (by omega)
 generalize hb:B3 l a2 2=b at *
 obtain⟨b1,b2⟩:=b
 dsimp only at vJ ⊢
 have tl:=l5 l b2 1 3 hl (by omega) (by omega) (by omega)
 have h3:=F9 l b2 (n:=3) (by omega)
 rw[show (3:Int)-1+1=3 from rfl]at tl
 generalize hm:B3 l b2 3=m at *
 obtain⟨m1,m2⟩:=m
 dsimp only at tl h3 ⊢
 refine X6 Tryz.func37 41 fun E h0=>?_
 repeat'((first|refine⟨F6 [0] [0] qC rfl rfl rfl rfl rfl ⟨rfl,trivial⟩ rfl rfl rfl rfl rfl ?_⟩|refine⟨F6 [0] [0] pc rfl rfl rfl rfl rfl ⟨rfl,trivial⟩ rfl rfl rfl rfl rfl ?_⟩|refine Y6 (T:=26) rfl ?_|(refine gu 3 [0,2,6,8] ?_;(try (conv=>whnf));refine Ex (Gk 5) ?_;refine FR [0,2,6,8] ?_;(try (conv=>whnf));refine Y6 (T:=25) rfl ?_)|refine⟨F6 [0] [0] vJ rfl rfl rfl rfl rfl ⟨rfl,trivial⟩ rfl rfl rfl rfl rfl ?_⟩|refine⟨F6 [0] [0] tl rfl rfl rfl rfl rfl ⟨rfl,trivial⟩ rfl rfl rfl rfl rfl ?_⟩ |refine S2 ?_|(refine T6 ?_ ?_<;>intro h<;>try exact V1 h)|intro el nN nP|intro el nN|exact T4|refine T5 ?_ ?_|intro ex)<;>try conv=>whnf)
 all_goals
  refine dW [0,2,3,4] ?_
  (try (conv=>whnf))
 ·have oo:(b1:Int)=1:=by omega
  rw[decide_eq_true oo]
  refine B2 (ι:=Nat×List D4×Nat) (fun x=>⟨[(0,.ref 0 0),(2,.ref 1 0),(3,.ref 8 0),(4,.i x.1)],9,[(0,some (.box [.sl 1 (l.map O2),.i x.2.2])),(1,some (.box [.v (.slice none 0 0),.v (.slice none 0 0)])),(6,some (.row bB 2 0 [z1 (E3,c1),z1 (EM,c2)])),(7,some (.row MF 7 0 (x.2.1.map W5))),(8,some (.box [.row 6 0 2,.row 7 0 x.2.1.length]))]⟩)
   (fun x=>x.1≤3∧x.2.1.length+x.1≤6∧Ar l (M8 true,m2) (1+m1)=Ar l x.2 x.1) (fun x=>x.1) (1+m1,M8 true,m2) ⟨by dsimp only;omega,by simp only[M8,_root_.cond_true,_root_.cond_false,List.length_cons,List.length_nil];omega,rfl⟩
   (C2 (YR 7 ((M8 true).map W5) rfl ⟨⟨.refl _,.refl _,.refl _,.refl _,.refl _,.nil 1,.refl _,trivial⟩,⟨.refl _,.refl _,.refl _,.refl _,.refl _,.nil 1,.refl _,trivial⟩,⟨.refl _,.refl _,.refl _,.refl _,.refl _,.nil 1,.refl _,trivial⟩,trivial⟩) (A6 h0)) (fun x hI=>?_)
  obtain⟨k,cs,a3⟩:=x
  obtain⟨hk,nO,hI⟩:=hI
  dsimp only at hk nO hI ⊢
  have qN:=TO l a3 (s9 cs.length) hl
  have vx:=Fx cs.length (by omega)
  have tZ:=Cn cs.length
  repeat'((first|refine H4 ⟨[(0,.ref 0 0),(2,.ref 1 0),(3,.ref 8 0),(4,.i k)],9,[(0,some (.box [.sl 1 (l.map O2),.i (o4 l a3 (s9 cs.length)).2])),(1,some (.box [.v (.slice none 0 0),.v (.slice none 0 0)])),(6,some (.row bB 2 0 [z1 (E3,c1),z1 (EM,c2)])),(7,some (.row MF 7 0 ((cs++[(o4 l a3 (s9 cs.length)).1]).map W5))),(8,some (.box [.row 6 0 2,.row 7 0 (cs++[(o4 l a3 (s9 cs.length)).1]).length]))]⟩ ?_ ?_|refine A1 vx ?_|(refine J4 ?_ ?_;(show 1+(Bk cs.length).length≤_;omega))|refine⟨F6 [0] [0] qN rfl rfl rfl rfl rfl ⟨rfl,trivial⟩ rfl rfl rfl rfl rfl ?_⟩ |refine S2 ?_|(refine T6 ?_ ?_<;>intro h<;>try exact V1 h)|intro el nN nP|intro el nN|exact T4|refine T5 ?_ ?_|intro ex)<;>try conv=>whnf)
  all_goals first
   |exact A8 h0 rfl ⟨rfl,rfl,rfl,rfl,trivial⟩ ⟨rfl,rfl,⟨_,rfl⟩,⟨_,congrArg (C9.row MF 7 _) (by rw[List.map_append];rfl)⟩,congrArg (fun z=>C9.box [.row 6 0 2,.row 7 0 z]) (by rw[List.length_append];rfl),trivial⟩ rfl rfl rfl
   |(obtain⟨k',rfl⟩:∃k',k=k'+1:=⟨k-1,by omega⟩
     exact⟨(k',cs++[(o4 l a3 (s9 cs.length)).1],(o4 l a3 (s9 cs.length)).2),⟨by dsimp only;omega,by dsimp only;rw[List.length_append,List.length_singleton];omega,hI⟩,by dsimp only;omega,A8 h0 rfl ⟨rfl,rfl,rfl,congrArg (fun z=>some (AV.i z)) (by dsimp only;omega),trivial⟩ ⟨rfl,rfl,⟨_,rfl⟩,⟨_,rfl⟩,rfl,trivial⟩ rfl rfl rfl⟩)
   |(obtain rfl:k=0:=by omega
     rw[hI]
     exact L8 (rvs:=[.cell 2 28]) (vs:=[_]) ⟨1,_,_,rfl,rfl,inferInstance,rfl,rfl,trivial⟩ rfl rfl (C2 (BZ 1 6 h0 rfl rfl) (C2 (BZ 2 7 h0 rfl rfl) (A6 h0))) rfl)
 ·have oo:¬(b1:Int)=1:=by omega
  rw[decide_eq_false oo]
  refine B2 (ι:=Nat×List D4×Nat) (fun x=>⟨[(0,.ref 0 0),(2,.ref 1 0),(3,.ref 8 0),(4,.i x.1)],9,[(0,some (.box [.sl 1 (l.map O2),.i x.2.2])),(1,some (.box [.v (.slice none 0 0),.v (.slice none 0 0)])),(6,some (.row bB 2 0 [z1 (E3,c1),z1 (EM,c2)])),(7,some (.row MF 7 0 (x.2.1.map W5))),(8,some (.box [.row 6 0 2,.row 7 0 x.2.1.length]))]⟩)
   (fun x=>x.1≤3∧x.2.1.length+x.1≤6∧Ar l (M8 false,m2) (1+m1)=Ar l x.2 x.1) (fun x=>x.1) (1+m1,M8 false,m2) ⟨by dsimp only;omega,by simp only[M8,_root_.cond_true,_root_.cond_false,List.length_cons,List.length_nil];omega,rfl⟩
   (C2 (YR 7 ((M8 false).map W5) rfl ⟨⟨.refl _,.refl _,.refl _,.refl _,.refl _,.nil 1,.refl _,trivial⟩,⟨.refl _,.refl _,.refl _,.refl _,.refl _,.nil 1,.refl _,trivial⟩,trivial⟩) (A6 h0)) (fun x hI=>?_)
  obtain⟨k,cs,a3⟩:=x
  obtain⟨hk,nO,hI⟩:=hI
  dsimp only at hk nO hI ⊢
  have qN:=TO l a3 (s9 cs.length) hl
  have vx:=Fx cs.length (by omega)
  have tZ:=Cn cs.length
  repeat'((first|refine H4 ⟨[(0,.ref 0 0),(2,.ref 1 0),(3,.ref 8 0),(4,.i k)],9,[(0,some (.box [.sl 1 (l.map O2),.i (o4 l a3 (s9 cs.length)).2])),(1,some (.box [.v (.slice none 0 0),.v (.slice none 0 0)])),(6,some (.row bB 2 0 [z1 (E3,c1),z1 (EM,c2)])),(7,some (.row MF 7 0 ((cs++[(o4 l a3 (s9 cs.length)).1]).map W5))),(8,some (.box [.row 6 0 2,.row 7 0 (cs++[(o4 l a3 (s9 cs.length)).1]).length]))]⟩ ?_ ?_|refine A1 vx ?_|(refine J4 ?_ ?_;(show 1+(Bk cs.length).length≤_;omega))|refine⟨F6 [0] [0] qN rfl rfl rfl rfl rfl ⟨rfl,trivial⟩ rfl rfl rfl rfl rfl ?_⟩ |refine S2 ?_|(refine T6 ?_ ?_<;>intro h<;>try exact V1 h)|intro el nN nP|intro el nN|exact T4|refine T5 ?_ ?_|intro ex)<;>try conv=>whnf)
  all_goals first
   |exact A8 h0 rfl ⟨rfl,rfl,rfl,rfl,trivial⟩ ⟨rfl,rfl,⟨_,rfl⟩,⟨_,congrArg (C9.row MF 7 _) (by rw[List.map_append];rfl)⟩,congrArg (fun z=>C9.box [.row 6 0 2,.row 7 0 z]) (by rw[List.length_append];rfl),trivial⟩ rfl rfl rfl
   |(obtain⟨k',rfl⟩:∃k',k=k'+1:=⟨k-1,by omega⟩
     exact⟨(k',cs++[(o4 l a3 (s9 cs.length)).1],(o4 l a3 (s9 cs.length)).2),⟨by dsimp only;omega,by dsimp only;rw[List.length_append,List.length_singleton];omega,hI⟩,by dsimp only;omega,A8 h0 rfl ⟨rfl,rfl,rfl,congrArg (fun z=>some (AV.i z)) (by dsimp only;omega),trivial⟩ ⟨rfl,rfl,⟨_,rfl⟩,⟨_,rfl⟩,rfl,trivial⟩ rfl rfl rfl⟩)
   |(obtain rfl:k=0:=by omega
     rw[hI]
     exact L8 (rvs:=[.cell 2 28]) (vs:=[_]) ⟨1,_,_,rfl,rfl,inferInstance,rfl,rfl,trivial⟩ rfl rfl (C2 (BZ 1 6 h0 rfl rfl) (C2 (BZ 2 7 h0 rfl rfl) (A6 h0))) rfl)
end Go.Proofs.YtjkbhaaobhgkdabGreatDoor

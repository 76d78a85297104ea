/- Draws: measures. Chapter 2: what every drawn schema is like. Nothing laid is an empty row: in arguments of calls, and in rows of one's own. Draws: schemas. Chapter 2: the example of the chapter. -/
import Derived.Test.YtiphlhoclaogjaaGreatDoorSB5
import Derived.Test.YtiphlhoclaogjaaGreatDoorSB7
import Derived.Test.YtiphlhoclaogjaaGreatDoorSE3
import Derived.Test.YtiphlhoclaogjaaGreatDoorSAvTy
import Derived.Test.YtiphlhoclaogjaaGreatDoorSB8
set_option linter.unusedVariables false
set_option linter.unnecessarySimpa false
set_option linter.unusedSimpArgs false
set_option maxHeartbeats 64000000
namespace Go.Proofs.YtiphlhoclaogjaaGreatDoor
open Go Go.Av
attribute [local irreducible] C7 B2 D3 C9 DQ D0 C8 St.le A3 B9
set_option maxRecDepth 100000
def Ee:List (List Int):=[[1],[1,5],[1,5,20],[1,2,4,12]]
def r8(l:List UInt8)(a:Nat)(nm:List UInt8):D4×Nat :=
 let low:=-4+((B8 l a 7).1:Int)
 let a1:=(B8 l a 7).2
 let a2:=(B8 l a1 4).2
 let a3:=(B8 l a2 3).2
 (⟨nm,3,0,low,low+((B8 l a3 45).1:Int),Ee.getD (B8 l a1 4).1 [],decide (((B8 l a2 3).1:Int)=2)⟩,(B8 l a3 45).2)
theorem jL{n:Nat}{F:List AV→Prop}(h:(n:Int)<4)(k:F [.sl 1 ((Ee.getD n []).map wA)]):P2 (Ee.map fun ws=>[AV.sl 1 (ws.map wA)]) (n:Int) F:=by
 refine Az (by show n<4;omega) fun x hx=>?_
 rw[List.getD_eq_getElem?_getD,hx]at k
 exact k
theorem TB(l:List UInt8)(a:Nat)(nm:List UInt8)(hl:l.length≤400):B9 Tryz.prog 142 1 (R4 l a) [.ref 0 0,.str nm] 1 (R4 l (r8 l a nm).2) (S9 (r8 l a nm).1):=by
 have h7:=H1 l a (n:=7) (by omega)
 have h4:=H1 l (B8 l a 7).2 (n:=4) (by omega)
 refine V9 Tryz.func142 28 fun E h0=>?_
 repeat'((first|refine S2 ?_|(refine T6 ?_ ?_<;>intro h<;>try exact V1 h)|intro el lU lV|intro el lU|exact T4|refine T5 ?_ ?_|intro ex)<;>try conv=>whnf)
 refine G9 ⟨[(0,.ref 0 0),(4,.ref 1 0),(5,.ref 2 0)],3,[(0,some (.box [.sl 1 (l.map N9),.i (B8 l (B8 l (B8 l a 7).2 4).2 3).2])),(1,some (.box [.str [],.i 0,.i 0,.i 0,.i 0,.v (.slice none 0 0),.b false])),(2,some (.box [.str nm,.i 3,.i 0,.i (-4+((B8 l a 7).1:Int)),.i 0,.sl 1 ((Ee.getD (B8 l (B8 l a 7).2 4).1 []).map wA),.b (decide (((B8 l (B8 l (B8 l a 7).2 4).2 3).1:Int)=2))]))]⟩ ?_ ?_
 ·repeat'((first|refine⟨G1 [0] [0] (S8 _ _ _ _ hl (by omega) (by omega) (by omega)) rfl rfl rfl rfl rfl ⟨rfl,trivial⟩ rfl rfl rfl rfl rfl ?_⟩|refine⟨G1 [0] [0] (p7 _ _ _ hl (by omega)) rfl rfl rfl rfl rfl ⟨rfl,trivial⟩ rfl rfl rfl rfl rfl ?_⟩|refine⟨G1 [0] [0] (H7 _ _ _ hl) rfl rfl rfl rfl rfl ⟨rfl,trivial⟩ rfl rfl rfl rfl rfl ?_⟩|refine jL h4 ?_ |refine S2 ?_|(refine T6 ?_ ?_<;>intro h<;>try exact V1 h)|intro el lU lV|intro el lU|exact T4|refine T5 ?_ ?_|intro ex)<;>try conv=>whnf)
  all_goals first
   |exact A6 h0
 repeat'((first|refine S2 ?_|(refine T6 ?_ ?_<;>intro h<;>try exact V1 h)|intro el lU lV|intro el lU|exact T4|refine T5 ?_ ?_|intro ex)<;>try conv=>whnf)
 refine G9 ⟨[(0,.ref 0 0),(4,.ref 1 0),(5,.ref 2 0)],3,[(0,some (.box [.sl 1 (l.map N9),.i (B8 l (B8 l (B8 l (B8 l a 7).2 4).2 3).2 45).2])),(1,some (.box [.str [],.i 0,.i 0,.i 0,.i 0,.v (.slice none 0 0),.b false])),(2,some (.box [.str nm,.i 3,.i 0,.i (-4+((B8 l a 7).1:Int)),.i (-4+((B8 l a 7).1:Int)+((B8 l (B8 l (B8 l (B8 l a 7).2 4).2 3).2 45).1:Int)),.sl 1 ((Ee.getD (B8 l (B8 l a 7).2 4).1 []).map wA),.b (decide (((B8 l (B8 l (B8 l a 7).2 4).2 3).1:Int)=2))]))]⟩ ?_ ?_
 ·have h45:=H1 l (B8 l (B8 l (B8 l a 7).2 4).2 3).2 (n:=45) (by omega)
  repeat'((first|refine⟨G1 [0] [0] (H7 _ _ _ hl) rfl rfl rfl rfl rfl ⟨rfl,trivial⟩ rfl rfl rfl rfl rfl ?_⟩ |refine S2 ?_|(refine T6 ?_ ?_<;>intro h<;>try exact V1 h)|intro el lU lV|intro el lU|exact T4|refine T5 ?_ ?_|intro ex)<;>try conv=>whnf)
  all_goals first
   |exact A6 h0
 repeat'((first|refine S2 ?_|(refine T6 ?_ ?_<;>intro h<;>try exact V1 h)|intro el lU lV|intro el lU|exact T4|refine T5 ?_ ?_|intro ex)<;>try conv=>whnf)
 exact I7 (rvs:=[.cell 4 79]) (vs:=[_]) ⟨1,_,_,rfl,rfl,inferInstance,rfl,rfl,trivial⟩ rfl rfl (A6 h0) rfl
def TC:D4:=⟨[119,104,111],1,0,0,0,[],false⟩
def JU:D4:=⟨[115,101,120],2,0,0,0,[],false⟩
def TD:D4:=⟨[106,111,98],2,1,0,0,[],false⟩
def w6(n:Nat):List UInt8:=[109]++P3 n
def BI(l:List UInt8):List D4×Nat→Nat→List D4×Nat
 |s,0=>s
 |s,k+1=>BI l (s.1++[(r8 l s.2 (w6 s.1.length)).1],(r8 l s.2 (w6 s.1.length)).2) k
abbrev EK:List UInt8:=[116,119,111]
abbrev G0:List UInt8:=[111,110,101]
def U8(b:Bool):List D4:=cond b [TC,JU,TD] [TC,JU]
def CO(l:List UInt8)(a:Nat):A4×Nat :=
 let l1:=J3 l a
 let l2:=J3 l l1.2
 let b:=B8 l l2.2 2
 let m:=B8 l b.2 3
 let r:=BI l (U8 (decide ((b.1:Int)=1)),m.2) (1+m.1)
 (⟨[(G0,l1.1),(EK,l2.1)],r.1⟩,r.2)
structure Q7(c:D4)(nm:List UInt8):Prop where
 name:c.name=nm
 kind:c.kind=3
 lst:c.lst=0
 low:-4≤c.low∧c.low≤2
 high:c.low≤c.high∧c.high≤c.low+44
 wid:c.widths∈Ee
theorem gH(l:List UInt8)(a:Nat)(nm:List UInt8):Q7 (r8 l a nm).1 nm:=by
 have h7:=H1 l a (n:=7) (by omega)
 have h4:=H1 l (B8 l a 7).2 (n:=4) (by omega)
 have h45:=H1 l (B8 l (B8 l (B8 l a 7).2 4).2 3).2 (n:=45) (by omega)
 refine⟨rfl,rfl,rfl,?_,?_,?_⟩
 ·simp only[r8];omega
 ·simp only[r8];omega
 ·simp only[r8]
  have lY:(B8 l (B8 l a 7).2 4).1<Ee.length:=by show _<4;omega
  rw[List.getD_eq_getElem?_getD,List.getElem?_eq_getElem lY]
  exact List.getElem_mem lY
theorem LB(l:List UInt8):∀(k:Nat) (s:List D4×Nat),∃ms,(BI l s k).1=s.1++ms∧ms.length=k∧∀(i:Nat) c,ms[i]?=some c→Q7 c (w6 (s.1.length+i))
 |0,s=>⟨[],by simp[BI],rfl,fun i c h=>by simp at h⟩
 |k+1,s=>by
  obtain⟨ms,h1,h2,h3⟩:=LB l k (s.1++[(r8 l s.2 (w6 s.1.length)).1],(r8 l s.2 (w6 s.1.length)).2)
  refine⟨(r8 l s.2 (w6 s.1.length)).1::ms,?_,by simp[h2],fun i c hc=>?_⟩
  ·rw[BI,h1];simp
  ·cases i with
   |zero=>simp at hc;subst hc;exact gH _ _ _
   |succ i =>
    have:=h3 i c (by simpa using hc)
    simp only[List.length_append,List.length_singleton]at this
    rwa[show s.1.length+(i+1)=s.1.length+1+i by omega]
structure E7(s:A4):Prop where
 ls:∃l1 l2,l1∈NS∧l2∈NS∧s.lists=[(G0,l1),(EK,l2)]
 cs:∃b ms,s.cols=U8 b++ms∧1≤ms.length∧ms.length≤3∧∀(i:Nat) c,ms[i]?=some c→Q7 c (w6 ((U8 b).length+i))
theorem Ng(l:List UInt8)(a:Nat):E7 (CO l a).1:=by
 refine⟨⟨_,_,Pz l a,Pz l (J3 l a).2,rfl⟩,?_⟩
 have h3:=H1 l (B8 l (J3 l (J3 l a).2).2 2).2 (n:=3) (by omega)
 obtain⟨ms,h1,h2,h4⟩:=LB l (1+(B8 l (B8 l (J3 l (J3 l a).2).2 2).2 3).1) (U8 (decide (((B8 l (J3 l (J3 l a).2).2 2).1:Int)=1)),(B8 l (B8 l (J3 l (J3 l a).2).2 2).2 3).2)
 exact⟨_,ms,h1,by omega,by omega,h4⟩
def TE(b:Bool)(n:Nat):List (List UInt8):=(U8 b).map (·.name)++(List.range n).map fun i=>w6 ((U8 b).length+i)
def eh(l:List (List UInt8)):Bool:=(List.range l.length).all fun i=>D6 (l.getD i []) && !((l.take i).any fun x=>decide (x=l.getD i []))
theorem cr:([true,false].all fun b=>[1,2,3].all fun n=>eh (TE b n))=true:=by decide +kernel
def aK(cs:List Code):Bool:=decide (chk G0 cs=0) && decide (chk EK cs=0) && decide (1≤C4 G0 cs∧C4 G0 cs≤5) && decide (cs.length≤10) && decide (1≤(K3 G0 cs (C4 G0 cs-1)).length∧(K3 G0 cs (C4 G0 cs-1)).length≤10) && ((K3 G0 cs (C4 G0 cs-1)).all fun k=>decide (k<cs.length))
theorem gI:NS.all aK=true:=by decide +kernel
structure kM(cs:List Code):Prop where
 one:chk G0 cs=0
 two:chk EK cs=0
 lv:1≤C4 G0 cs∧C4 G0 cs≤5
 len:cs.length≤10
 at':1≤(K3 G0 cs (C4 G0 cs-1)).length∧(K3 G0 cs (C4 G0 cs-1)).length≤10
 mem:∀k∈K3 G0 cs (C4 G0 cs-1),k<cs.length
theorem EF{cs:List Code}(h:cs∈NS):kM cs:=by
 have:=List.all_eq_true.1 gI _ h
 simp only[aK,Bool.and_eq_true,decide_eq_true_eq,List.all_eq_true]at this
 obtain⟨⟨⟨⟨⟨h1,h2⟩,h3⟩,h4⟩,h5⟩,h6⟩:=this
 exact⟨h1,h2,h3,h4,h5,h6⟩
theorem TF{a b:List UInt8}(h:D6 a=D6 b)(cs:List Code):chk a cs=chk b cs:=by unfold chk;rw[h]
theorem gJ{a b:List UInt8}(h:D6 a=D6 b)(cs:List Code)(k:Int):hasB a cs k=hasB b cs k:=by unfold hasB;rw[TF h]
theorem DC{a b:List UInt8}(h:D6 a=D6 b)(cs:List Code):C4 a cs=C4 b cs:=by unfold C4;rw[TF h]
theorem TG{a b:List UInt8}(h:D6 a=D6 b)(cs:List Code)(k lv:Int):L2 a cs k lv=L2 b cs k lv:=by unfold L2;rw[gJ h]
theorem Gt{a b:List UInt8}(h:D6 a=D6 b)(cs:List Code)(lv:Int):K3 a cs lv=K3 b cs lv:=by unfold K3;rw[TF h]
theorem jM:D6 EK=D6 G0:=by decide
theorem Hk{α:Type}{f:Nat→α→Int}:∀{l:List α} {k:Nat},(∀(i:Nat) x,l[i]?=some x→f (k+i) x=0)→F0 f k l=0
 |[],k,_=>rfl
 |y::r,k,h=>by
  have h0:=h 0 y rfl
  simp only[Nat.add_zero]at h0
  rw[F0,if_pos h0]
  refine Hk fun i x hx=>?_
  have:=h (i+1) x (by simpa using hx)
  rwa[show k+(i+1)=k+1+i by omega]at this
theorem Q7.meaE{c:D4}{nm:List UInt8}(h:Q7 c nm):meaE c=0:=by
 have h1:=h.low
 have h2:=h.high
 have h3:=h.wid
 unfold Go.Proofs.YtiphlhoclaogjaaGreatDoor.meaE
 rw[if_neg (by omega)]
 simp only[Ee,List.mem_cons,List.not_mem_nil,or_false]at h3
 rcases h3 with h3|h3|h3|h3<;>rw[h3]<;>decide
theorem Q7.used{c:D4}{nm:List UInt8}(h:Q7 c nm):Ea c=true:=by
 unfold Ea
 rw[h.kind,h.lst]
 simp
theorem Q7.kindE{c:D4}{nm:List UInt8}(h:Q7 c nm)(s:A4)(i:Nat):kindE s i c=0:=by
 unfold Go.Proofs.YtiphlhoclaogjaaGreatDoor.kindE
 rw[h.kind]
 simp[h.meaE]
theorem E7.col{s:A4}(h:E7 s){i:Nat}{c:D4}(hc:s.cols[i]?=some c):(i=0∧c=TC)∨(0<i∧(c=JU∨c=TD))∨(0<i∧∃nm,Q7 c nm):=by
 obtain⟨b,ms,h1,_,_,h4⟩:=h.cs
 rw[h1,List.getElem?_append]at hc
 split at hc
 ·cases b<;>simp only[U8,_root_.cond_true,_root_.cond_false,List.length_cons,List.length_nil]at hc
  ·match i,hc with
   |0,hc=>cases hc;exact .inl ⟨rfl,rfl⟩
   |1,hc=>cases hc;exact .inr (.inl ⟨by omega,.inl rfl⟩)
   |n+2,hc=>simp at hc
  ·match i,hc with
   |0,hc=>cases hc;exact .inl ⟨rfl,rfl⟩
   |1,hc=>cases hc;exact .inr (.inl ⟨by omega,.inl rfl⟩)
   |2,hc=>cases hc;exact .inr (.inl ⟨by omega,.inr rfl⟩)
   |n+3,hc=>simp at hc
 ·rename_i lY
  refine .inr (.inr ⟨?_,_,h4 _ c hc⟩)
  cases b<;>simp[U8]at lY<;>omega
theorem E7.names{s:A4}(h:E7 s):eh (s.cols.map (·.name))=true:=by
 obtain⟨b,ms,h1,h2,h3,h4⟩:=h.cs
 have e:s.cols.map (·.name)=TE b ms.length:=by
  rw[h1,List.map_append]
  unfold TE
  congr 1
  refine List.ext_getElem? fun i=>?_
  rw[List.getElem?_map,List.getElem?_map]
  by_cases hi:i<ms.length
  ·rw[List.getElem?_eq_getElem hi,List.getElem?_range hi]
   simp only[Option.map_some]
   rw[(h4 i _ (List.getElem?_eq_getElem hi)).name]
  ·rw[List.getElem?_eq_none (by omega),List.getElem?_eq_none (by simp;omega)];rfl
 rw[e]
 have h5:=List.all_eq_true.1 (List.all_eq_true.1 cr b (by cases b<;>simp)) ms.length
 refine h5 ?_
 have:ms.length=1∨ms.length=2∨ms.length=3:=by omega
 rcases this with h|h|h<;>rw[h]<;>simp
theorem E7.colE{s:A4}(h:E7 s){i:Nat}{c:D4}(hc:s.cols[i]?=some c):colE s i c=0:=by
 have hi:=F5 hc
 have hn:=List.all_eq_true.1 h.names i (by simpa using hi)
 simp only[Bool.and_eq_true,Bool.not_eq_true']at hn
 have hg:(s.cols.map (·.name)).getD i []=c.name:=by
  rw[List.getD_eq_getElem?_getD,List.getElem?_map,hc];rfl
 rw[hg]at hn
 have hd:GP s i c=false:=by
  unfold GP
  rw[←hn.2,←List.map_take,List.any_map]
  rfl
 have hl:s.lists.length=2:=by obtain⟨l1,l2,_,_,h⟩:=h.ls;rw[h];rfl
 have hk:kindE s i c=0∧Ea c=true:=by
  rcases h.col hc with ⟨rfl,rfl⟩|⟨h0,rfl|rfl⟩|⟨h0,nm,hm⟩
  ·exact⟨by unfold kindE;simp[TC],by decide⟩
  ·exact⟨by unfold kindE;rw[hl];simp[JU],by decide⟩
  ·exact⟨by unfold kindE;rw[hl];simp[TD],by decide⟩
  ·exact⟨hm.kindE s i,hm.used⟩
 unfold Go.Proofs.YtiphlhoclaogjaaGreatDoor.colE
 rw[hn.1,hd,hk.1,hk.2]
 rfl
theorem E7.lens{s:A4}(h:E7 s):s.lists.length=2∧3≤s.cols.length∧s.cols.length≤6:=by
 obtain⟨l1,l2,_,_,h1⟩:=h.ls
 obtain⟨b,ms,h2,h3,h4,_⟩:=h.cs
 refine⟨by rw[h1];rfl,?_⟩
 rw[h2,List.length_append]
 cases b<;>simp[U8]<;>omega
theorem E7.ok{s:A4}(h:E7 s):C3 s=0:=by
 have hl:=h.lens
 obtain⟨l1,l2,m1,m2,e⟩:=h.ls
 unfold C3
 rw[if_neg (by omega)]
 have h1:F0 (b9 s.lists) 0 s.lists=0:=by
  refine Hk fun i x hx=>?_
  rw[e]at hx ⊢
  rw[Nat.zero_add]
  match i,hx with
  |0,hx=>cases hx;unfold b9;rw[if_pos (EF m1).one];rfl
  |1,hx=>cases hx;unfold b9;rw[if_pos (EF m2).two];rfl
  |n+2,hx=>simp at hx
 have h2:s.cols.head?.map (·.kind)=some 1:=by
  obtain⟨b,ms,h2,_⟩:=h.cs
  rw[h2];cases b<;>rfl
 rw[if_pos h1,if_pos h2]
 exact Hk fun i x hx=>by rw[Nat.zero_add];exact h.colE hx
def LC:List AV→List AV→Prop
 |[],[]=>True
 |x::r,y::s=>NL x y∧LC r s
 |_,_=>False
def Oq:List (List AV)→List (List AV)→Prop
 |[],[]=>True
 |x::r,y::s=>LC x y∧Oq r s
 |_,_=>False
theorem LC.get:∀{l m:List AV},LC l m→l.length=m.length∧∀(j:Nat) x y,l[j]?=some x→m[j]?=some y→NL x y
 |[],[],_=>⟨rfl,fun j x y h=>by simp at h⟩
 |a::r,b::s,h=>by
  obtain⟨h1,h2⟩:=LC.get h.2
  refine⟨by simp[h1],fun j x y hx hy=>?_⟩
  cases j with
  |zero=>simp at hx hy;subst hx hy;exact h.1
  |succ j=>exact h2 j x y (by simpa using hx) (by simpa using hy)
 |[],_::_,h=>h.elim
 |_::_,[],h=>h.elim
theorem Oq.get:∀{l m:List (List AV)},Oq l m→l.length=m.length∧∀(i:Nat) e e',l[i]?=some e→m[i]?=some e'→LC e e'
 |[],[],_=>⟨rfl,fun j x y h=>by simp at h⟩
 |a::r,b::s,h=>by
  obtain⟨h1,h2⟩:=Oq.get h.2
  refine⟨by simp[h1],fun j x y hx hy=>?_⟩
  cases j with
  |zero=>simp at hx hy;subst hx hy;exact h.1
  |succ j=>exact h2 j x y (by simpa using hx) (by simpa using hy)
 |[],_::_,h=>h.elim
 |_::_,[],h=>h.elim
theorem EG{l m:List AV}(h:LC l m):NL (.agg l) (.agg m):=.agg l m h.get.1 h.get.2
theorem kN{sz:Nat}{l m:List (List AV)}(h:Oq l m):NL (.sl sz l) (.sl sz m) :=
 .sl sz l m h.get.1 (fun i e e' he ot=>(h.get.2 i e e' he ot).get.1) (fun i e e' he ot=>(h.get.2 i e e' he ot).get.2)
theorem BJ{P:Program}{f:Nat}{l l':List AV}{r:AV}(h:A3 P f l r)(hn:LC l' l):A3 P f l' r:=by
 obtain⟨h1,h2⟩:=hn.get
 unfold A3 at h ⊢
 refine⟨h.1,fun X w vs hX pJ hl hv=>h.2 X w vs hX pJ (by omega) fun j a v ha ol=>?_⟩
 obtain⟨x,hx⟩:=O5 h1 ha
 exact(h2 j x a hx ha).im (hv j x v hx ol)
theorem Xn{E:Env}{n:Nat}{σ:St}(i:Nat){e sz v:Nat}{l:List (List AV)}(l':List (List AV))(hb:A5 σ.hp i=some (.row e sz v l))(hn:Oq l l')(lY:Nat.blt e J9=true:=by rfl):St.le E n σ (σ.set i (.row e sz v l')):=by
 unfold St.le
 rintro a w ⟨θ,h⟩
 obtain⟨lX,lU⟩:=hn.get
 obtain⟨_,xs,ho,hsz,mY,_⟩:=h.owns i _ hb
 have pO:∃x m c,θ i=.slice x m c:=by
  rcases ho.2 with ⟨h1,_⟩|⟨g,cap,lc,h1,_⟩
  ·exact⟨_,_,_,h1⟩
  ·exact⟨_,_,_,h1⟩
 have ht:=h.turn (v':=θ i) (b':=.row e sz v l') (w':=w) hb rfl rfl rfl (Nat.le_refl _) (fun _ _ _=>rfl) (fun k hk=>.inl hk) ⟨pO,e,v,l,rfl,.inr ⟨rfl,lX,rfl⟩⟩ fun le=>?_
 ·exact⟨_,ht⟩
 ·refine⟨xs,?_,fun e' ot=>?_,fun k mx hk j x hx=>?_,.lt (Nat.blt_eq▸lY)⟩
  ·simp only[cx,E8]
   rw[←lX]
   exact ho
  ·obtain⟨k,hk,rfl⟩:=List.getElem_of_mem ot
   obtain⟨x,hx⟩:=O5 lX (List.getElem?_eq_getElem hk)
   rw[←(lU k x _ hx (List.getElem?_eq_getElem hk)).get.1]
   exact hsz x (List.mem_of_getElem? hx)
  ·obtain⟨el,pk⟩:=O5 lX hk
   obtain⟨q1,q2⟩:=(lU k el mx pk hk).get
   obtain⟨x0,nf⟩:=O5 q1 hx
   obtain⟨y,hy,hi⟩:=mY k el pk j x0 nf
   exact⟨y,hy,(q2 j x0 x nf hx).im (hi.mono le.heap le.U)⟩
abbrev Lq:Nat:=79
abbrev aL:Nat:=77
abbrev sB(l:List UInt8)(a:Nat)(s:A4):Hp:=[(0,some (.box [.sl 1 (l.map N9),.i a])),(1,some (.row aL 2 0 (s.lists.map AX))),(2,some (.row Lq 7 0 (s.cols.map X0)))]
theorem ct(l:List UInt8)(a:Nat)(hl:l.length≤400):B9 Tryz.prog 89 1 (R4 l a) [.ref 0 0] 3 (sB l (CO l a).2 (CO l a).1) (.agg [.row 1 0 2,.row 2 0 (CO l a).1.cols.length]):=by
 have nt:=Py l a G0 hl
 have ng:=Py l (J3 l a).2 EK hl
 have e:CO l a=(⟨[(G0,(J3 l a).1),(EK,(J3 l (J3 l a).2).1)],(BI l (U8 (decide (((B8 l (J3 l (J3 l a).2).2 2).1:Int)=1)),(B8 l (B8 l (J3 l (J3 l a).2).2 2).2 3).2) (1+(B8 l (B8 l (J3 l (J3 l a).2).2 2).2 3).1)).1⟩,(BI l (U8 (decide (((B8 l (J3 l (J3 l a).2).2 2).1:Int)=1)),(B8 l (B8 l (J3 l (J3 l a).2).2 2).2 3).2) (1+(B8 l (B8 l (J3 l (J3 l a).2).2 2).2 3).1)).2):=rfl
 rw[e]
 clear e
 generalize nL:J3 l a=l1 at *
 generalize mO:J3 l l1.2=l2 at *
 obtain⟨c1,a1⟩:=l1
 obtain⟨c2,a2⟩:=l2
 dsimp only at mO nt ng ⊢
 have tR:=p7 l a2 2 hl (by omega)
 generalize hb:B8 l a2 2=b at *
 obtain⟨b1,b2⟩:=b
 dsimp only at tR ⊢
 have sI:=S8 l b2 1 3 hl (by omega) (by omega) (by omega)
 have h3:=H1 l b2 (n:=3) (by omega)
 rw[show (3:Int)-1+1=3 from rfl]at sI
 generalize hm:B8 l b2 3=m at *
 obtain⟨m1,m2⟩:=m
 dsimp only at sI h3 ⊢
 refine V9 Tryz.func89 41 fun E h0=>?_
 repeat'((first|refine⟨G1 [0] [0] nt rfl rfl rfl rfl rfl ⟨rfl,trivial⟩ rfl rfl rfl rfl rfl ?_⟩|refine⟨G1 [0] [0] ng rfl rfl rfl rfl rfl ⟨rfl,trivial⟩ rfl rfl rfl rfl rfl ?_⟩|refine Z9 (T:=34) rfl ?_|(refine fY 3 [0,2,6,8] ?_;(try (conv=>whnf));refine En (Gg 5) ?_;refine FB [0,2,6,8] ?_;(try (conv=>whnf));refine Z9 (T:=33) rfl ?_)|refine⟨G1 [0] [0] tR rfl rfl rfl rfl rfl ⟨rfl,trivial⟩ rfl rfl rfl rfl rfl ?_⟩|refine⟨G1 [0] [0] sI rfl rfl rfl rfl rfl ⟨rfl,trivial⟩ rfl rfl rfl rfl rfl ?_⟩ |refine S2 ?_|(refine T6 ?_ ?_<;>intro h<;>try exact V1 h)|intro el lU lV|intro el lU|exact T4|refine T5 ?_ ?_|intro ex)<;>try conv=>whnf)
 all_goals
  refine cW [0,2,3,4] ?_
  (try (conv=>whnf))
 ·have nD:(b1:Int)=1:=by omega
  rw[decide_eq_true nD]
  refine B0 (ι:=Nat×List D4×Nat) (fun x=>⟨[(0,.ref 0 0),(2,.ref 1 0),(3,.ref 8 0),(4,.i x.1)],9,[(0,some (.box [.sl 1 (l.map N9),.i x.2.2])),(1,some (.box [.v (.slice none 0 0),.v (.slice none 0 0)])),(6,some (.row aL 2 0 [AX (G0,c1),AX (EK,c2)])),(7,some (.row Lq 7 0 (x.2.1.map X0))),(8,some (.box [.row 6 0 2,.row 7 0 x.2.1.length]))]⟩)
   (fun x=>x.1≤3∧x.2.1.length+x.1≤6∧BI l (U8 true,m2) (1+m1)=BI l x.2 x.1) (fun x=>x.1) (1+m1,U8 true,m2) ⟨by dsimp only;omega,by simp only[U8,_root_.cond_true,_root_.cond_false,List.length_cons,List.length_nil];omega,rfl⟩
   (B5 (Xn 7 ((U8 true).map X0) rfl ⟨⟨.refl _,.refl _,.refl _,.refl _,.refl _,.nil 1,.refl _,trivial⟩,⟨.refl _,.refl _,.refl _,.refl _,.refl _,.nil 1,.refl _,trivial⟩,⟨.refl _,.refl _,.refl _,.refl _,.refl _,.nil 1,.refl _,trivial⟩,trivial⟩) (A6 h0)) (fun x hI=>?_)
  obtain⟨k,cs,a3⟩:=x
  obtain⟨hk,lX,hI⟩:=hI
  dsimp only at hk lX hI ⊢
  have oW:=TB l a3 (w6 cs.length) hl
  have sn:=Cb cs.length (by omega)
  have qi:=v6 cs.length
  repeat'((first|refine G9 ⟨[(0,.ref 0 0),(2,.ref 1 0),(3,.ref 8 0),(4,.i k)],9,[(0,some (.box [.sl 1 (l.map N9),.i (r8 l a3 (w6 cs.length)).2])),(1,some (.box [.v (.slice none 0 0),.v (.slice none 0 0)])),(6,some (.row aL 2 0 [AX (G0,c1),AX (EK,c2)])),(7,some (.row Lq 7 0 ((cs++[(r8 l a3 (w6 cs.length)).1]).map X0))),(8,some (.box [.row 6 0 2,.row 7 0 (cs++[(r8 l a3 (w6 cs.length)).1]).length]))]⟩ ?_ ?_|refine A1 sn ?_|(refine I4 ?_ ?_;(show 1+(P3 cs.length).length≤_;omega))|refine⟨G1 [0] [0] oW rfl rfl rfl rfl rfl ⟨rfl,trivial⟩ rfl rfl rfl rfl rfl ?_⟩ |refine S2 ?_|(refine T6 ?_ ?_<;>intro h<;>try exact V1 h)|intro el lU lV|intro el lU|exact T4|refine T5 ?_ ?_|intro ex)<;>try conv=>whnf)
  all_goals first
   |exact A9 h0 rfl ⟨rfl,rfl,rfl,rfl,trivial⟩ ⟨rfl,rfl,⟨_,rfl⟩,⟨_,congrArg (C6.row Lq 7 _) (by rw[List.map_append];rfl)⟩,congrArg (fun z=>C6.box [.row 6 0 2,.row 7 0 z]) (by rw[List.length_append];rfl),trivial⟩ rfl rfl rfl
   |(obtain⟨k',rfl⟩:∃k',k=k'+1:=⟨k-1,by omega⟩
     exact⟨(k',cs++[(r8 l a3 (w6 cs.length)).1],(r8 l a3 (w6 cs.length)).2),⟨by dsimp only;omega,by dsimp only;rw[List.length_append,List.length_singleton];omega,hI⟩,by dsimp only;omega,A9 h0 rfl ⟨rfl,rfl,rfl,congrArg (fun z=>some (AV.i z)) (by dsimp only;omega),trivial⟩ ⟨rfl,rfl,⟨_,rfl⟩,⟨_,rfl⟩,rfl,trivial⟩ rfl rfl rfl⟩)
   |(obtain rfl:k=0:=by omega
     rw[hI]
     exact I7 (rvs:=[.cell 2 36]) (vs:=[_]) ⟨1,_,_,rfl,rfl,inferInstance,rfl,rfl,trivial⟩ rfl rfl (B5 (BC 1 6 h0 rfl rfl) (B5 (BC 2 7 h0 rfl rfl) (A6 h0))) rfl)
 ·have nD:¬(b1:Int)=1:=by omega
  rw[decide_eq_false nD]
  refine B0 (ι:=Nat×List D4×Nat) (fun x=>⟨[(0,.ref 0 0),(2,.ref 1 0),(3,.ref 8 0),(4,.i x.1)],9,[(0,some (.box [.sl 1 (l.map N9),.i x.2.2])),(1,some (.box [.v (.slice none 0 0),.v (.slice none 0 0)])),(6,some (.row aL 2 0 [AX (G0,c1),AX (EK,c2)])),(7,some (.row Lq 7 0 (x.2.1.map X0))),(8,some (.box [.row 6 0 2,.row 7 0 x.2.1.length]))]⟩)
   (fun x=>x.1≤3∧x.2.1.length+x.1≤6∧BI l (U8 false,m2) (1+m1)=BI l x.2 x.1) (fun x=>x.1) (1+m1,U8 false,m2) ⟨by dsimp only;omega,by simp only[U8,_root_.cond_true,_root_.cond_false,List.length_cons,List.length_nil];omega,rfl⟩
   (B5 (Xn 7 ((U8 false).map X0) rfl ⟨⟨.refl _,.refl _,.refl _,.refl _,.refl _,.nil 1,.refl _,trivial⟩,⟨.refl _,.refl _,.refl _,.refl _,.refl _,.nil 1,.refl _,trivial⟩,trivial⟩) (A6 h0)) (fun x hI=>?_)
  obtain⟨k,cs,a3⟩:=x
  obtain⟨hk,lX,hI⟩:=hI
  dsimp only at hk lX hI ⊢
  have oW:=TB l a3 (w6 cs.length) hl
  have sn:=Cb cs.length (by omega)
  have qi:=v6 cs.length
  repeat'((first|refine G9 ⟨[(0,.ref 0 0),(2,.ref 1 0),(3,.ref 8 0),(4,.i k)],9,[(0,some (.box [.sl 1 (l.map N9),.i (r8 l a3 (w6 cs.length)).2])),(1,some (.box [.v (.slice none 0 0),.v (.slice none 0 0)])),(6,some (.row aL 2 0 [AX (G0,c1),AX (EK,c2)])),(7,some (.row Lq 7 0 ((cs++[(r8 l a3 (w6 cs.length)).1]).map X0))),(8,some (.box [.row 6 0 2,.row 7 0 (cs++[(r8 l a3 (w6 cs.length)).1]).length]))]⟩ ?_ ?_|refine A1 sn ?_|(refine I4 ?_ ?_;(show 1+(P3 cs.length).length≤_;omega))|refine⟨G1 [0] [0] oW rfl rfl rfl rfl rfl ⟨rfl,trivial⟩ rfl rfl rfl rfl rfl ?_⟩ |refine S2 ?_|(refine T6 ?_ ?_<;>intro h<;>try exact V1 h)|intro el lU lV|intro el lU|exact T4|refine T5 ?_ ?_|intro ex)<;>try conv=>whnf)
  all_goals first
   |exact A9 h0 rfl ⟨rfl,rfl,rfl,rfl,trivial⟩ ⟨rfl,rfl,⟨_,rfl⟩,⟨_,congrArg (C6.row Lq 7 _) (by rw[List.map_append];rfl)⟩,congrArg (fun z=>C6.box [.row 6 0 2,.row 7 0 z]) (by rw[List.length_append];rfl),trivial⟩ rfl rfl rfl
   |(obtain⟨k',rfl⟩:∃k',k=k'+1:=⟨k-1,by omega⟩
     exact⟨(k',cs++[(r8 l a3 (w6 cs.length)).1],(r8 l a3 (w6 cs.length)).2),⟨by dsimp only;omega,by dsimp only;rw[List.length_append,List.length_singleton];omega,hI⟩,by dsimp only;omega,A9 h0 rfl ⟨rfl,rfl,rfl,congrArg (fun z=>some (AV.i z)) (by dsimp only;omega),trivial⟩ ⟨rfl,rfl,⟨_,rfl⟩,⟨_,rfl⟩,rfl,trivial⟩ rfl rfl rfl⟩)
   |(obtain rfl:k=0:=by omega
     rw[hI]
     exact I7 (rvs:=[.cell 2 36]) (vs:=[_]) ⟨1,_,_,rfl,rfl,inferInstance,rfl,rfl,trivial⟩ rfl rfl (B5 (BC 1 6 h0 rfl rfl) (B5 (BC 2 7 h0 rfl rfl) (A6 h0))) rfl)
end Go.Proofs.YtiphlhoclaogjaaGreatDoor

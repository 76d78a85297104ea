/- Draws: measures. Chapter 2: what every drawn schema is like. Nothing laid is an empty row: in arguments of calls, and in rows of one's own. Draws: schemas. Chapter 2: the example of the chapter. -/
import Derived.Test.YtkcekccdcpmekaaGreatDoorQB5
import Derived.Test.YtkcekccdcpmekaaGreatDoorQB8
import Derived.Test.YtkcekccdcpmekaaGreatDoorQE3
import Derived.Test.YtkcekccdcpmekaaGreatDoorQAvTy
set_option linter.unusedVariables false
set_option linter.unnecessarySimpa false
set_option linter.unusedSimpArgs false
set_option maxHeartbeats 64000000
namespace Go.Proofs.YtkcekccdcpmekaaGreatDoor
open Go Go.Av
attribute [local irreducible] E8 B5 E5 E1 DQ E7 E9 St.le A4 A9
set_option maxRecDepth 100000
def Ex:List (List Int):=[[1],[1,5],[1,5,20],[1,2,4,12]]
def AM(l:List UInt8)(a:Nat)(nm:List UInt8):H2×Nat :=
 let low:=-4+((B8 l a 7).1:Int)
 let a1:=(B8 l a 7).2
 let a2:=(B8 l a1 4).2
 let a3:=(B8 l a2 3).2
 (⟨nm,3,0,low,low+((B8 l a3 45).1:Int),Ex.getD (B8 l a1 4).1 [],decide (((B8 l a2 3).1:Int)=2)⟩,(B8 l a3 45).2)
theorem iC{n:Nat}{F:List AV→Prop}(h:(n:Int)<4)(k:F [.sl 1 ((Ex.getD n []).map wA)]):S7 (Ex.map fun ws=>[AV.sl 1 (ws.map wA)]) (n:Int) F:=by
 refine Be (by show n<4;omega) fun x hx=>?_
 rw[List.getD_eq_getElem?_getD,hx]at k
 exact k
theorem RJ(l:List UInt8)(a:Nat)(nm:List UInt8)(hl:l.length≤400):A9 Tryz.prog 21 1 (E6 l a) [.ref 0 0,.str nm] 1 (E6 l (AM l a nm).2) (GW (AM l a nm).1):=by
 have h7:=I7 l a (n:=7) (by omega)
 have h4:=I7 l (B8 l a 7).2 (n:=4) (by omega)
 refine G4 Tryz.func21 28 fun E h0=>?_
 repeat'((first|refine S2 ?_|(refine T6 ?_ ?_<;>intro h<;>try exact V1 h)|intro el ke kg|intro el ke|exact T4|refine T5 ?_ ?_|intro ex)<;>try conv=>whnf)
 refine C5 ⟨[(0,.ref 0 0),(4,.ref 1 0),(5,.ref 2 0)],3,[(0,some (.box [.sl 1 (l.map X9),.i (B8 l (B8 l (B8 l a 7).2 4).2 3).2])),(1,some (.box [.str [],.i 0,.i 0,.i 0,.i 0,.v (.slice none 0 0),.b false])),(2,some (.box [.str nm,.i 3,.i 0,.i (-4+((B8 l a 7).1:Int)),.i 0,.sl 1 ((Ex.getD (B8 l (B8 l a 7).2 4).1 []).map wA),.b (decide (((B8 l (B8 l (B8 l a 7).2 4).2 3).1:Int)=2))]))]⟩ ?_ ?_
 ·repeat'((first|refine⟨C4 [0] [0] (p0 _ _ _ _ hl (by omega) (by omega) (by omega)) rfl rfl rfl rfl rfl ⟨rfl,trivial⟩ rfl rfl rfl rfl rfl ?_⟩|refine⟨C4 [0] [0] (Bj _ _ _ hl (by omega)) rfl rfl rfl rfl rfl ⟨rfl,trivial⟩ rfl rfl rfl rfl rfl ?_⟩|refine⟨C4 [0] [0] (K8 _ _ _ hl) rfl rfl rfl rfl rfl ⟨rfl,trivial⟩ rfl rfl rfl rfl rfl ?_⟩|refine iC h4 ?_ |refine S2 ?_|(refine T6 ?_ ?_<;>intro h<;>try exact V1 h)|intro el ke kg|intro el ke|exact T4|refine T5 ?_ ?_|intro ex)<;>try conv=>whnf)
  all_goals first
   |exact B2 h0
 repeat'((first|refine S2 ?_|(refine T6 ?_ ?_<;>intro h<;>try exact V1 h)|intro el ke kg|intro el ke|exact T4|refine T5 ?_ ?_|intro ex)<;>try conv=>whnf)
 refine C5 ⟨[(0,.ref 0 0),(4,.ref 1 0),(5,.ref 2 0)],3,[(0,some (.box [.sl 1 (l.map X9),.i (B8 l (B8 l (B8 l (B8 l a 7).2 4).2 3).2 45).2])),(1,some (.box [.str [],.i 0,.i 0,.i 0,.i 0,.v (.slice none 0 0),.b false])),(2,some (.box [.str nm,.i 3,.i 0,.i (-4+((B8 l a 7).1:Int)),.i (-4+((B8 l a 7).1:Int)+((B8 l (B8 l (B8 l (B8 l a 7).2 4).2 3).2 45).1:Int)),.sl 1 ((Ex.getD (B8 l (B8 l a 7).2 4).1 []).map wA),.b (decide (((B8 l (B8 l (B8 l a 7).2 4).2 3).1:Int)=2))]))]⟩ ?_ ?_
 ·have xP:=I7 l (B8 l (B8 l (B8 l a 7).2 4).2 3).2 (n:=45) (by omega)
  repeat'((first|refine⟨C4 [0] [0] (K8 _ _ _ hl) rfl rfl rfl rfl rfl ⟨rfl,trivial⟩ rfl rfl rfl rfl rfl ?_⟩ |refine S2 ?_|(refine T6 ?_ ?_<;>intro h<;>try exact V1 h)|intro el ke kg|intro el ke|exact T4|refine T5 ?_ ?_|intro ex)<;>try conv=>whnf)
  all_goals first
   |exact B2 h0
 repeat'((first|refine S2 ?_|(refine T6 ?_ ?_<;>intro h<;>try exact V1 h)|intro el ke kg|intro el ke|exact T4|refine T5 ?_ ?_|intro ex)<;>try conv=>whnf)
 exact C9 (rvs:=[.cell 4 66]) (vs:=[_]) ⟨1,_,_,rfl,rfl,inferInstance,rfl,rfl,trivial⟩ rfl rfl (B2 h0) rfl
def Nd:H2:=⟨[119,104,111],1,0,0,0,[],false⟩
def GX:H2:=⟨[115,101,120],2,0,0,0,[],false⟩
def Nf:H2:=⟨[106,111,98],2,1,0,0,[],false⟩
def Al(n:Nat):List UInt8:=[109]++O0 n
def Bk(l:List UInt8):List H2×Nat→Nat→List H2×Nat
 |s,0=>s
 |s,k+1=>Bk l (s.1++[(AM l s.2 (Al s.1.length)).1],(AM l s.2 (Al s.1.length)).2) k
abbrev Ei:List UInt8:=[116,119,111]
abbrev H5:List UInt8:=[111,110,101]
def Q7(b:Bool):List H2:=cond b [Nd,GX,Nf] [Nd,GX]
def JK(l:List UInt8)(a:Nat):A5×Nat :=
 let l1:=L6 l a
 let l2:=L6 l l1.2
 let b:=B8 l l2.2 2
 let m:=B8 l b.2 3
 let r:=Bk l (Q7 (decide ((b.1:Int)=1)),m.2) (1+m.1)
 (⟨[(H5,l1.1),(Ei,l2.1)],r.1⟩,r.2)
structure r8(c:H2)(nm:List UInt8):Prop where
 name:c.name=nm
 kind:c.kind=3
 lst:c.lst=0
 low:-4≤c.low∧c.low≤2
 high:c.low≤c.high∧c.high≤c.low+44
 wid:c.widths∈Ex
theorem eD(l:List UInt8)(a:Nat)(nm:List UInt8):r8 (AM l a nm).1 nm:=by
 have h7:=I7 l a (n:=7) (by omega)
 have h4:=I7 l (B8 l a 7).2 (n:=4) (by omega)
 have xP:=I7 l (B8 l (B8 l (B8 l a 7).2 4).2 3).2 (n:=45) (by omega)
 refine⟨rfl,rfl,rfl,?_,?_,?_⟩
 ·simp only[AM];omega
 ·simp only[AM];omega
 ·simp only[AM]
  have kj:(B8 l (B8 l a 7).2 4).1<Ex.length:=by show _<4;omega
  rw[List.getD_eq_getElem?_getD,List.getElem?_eq_getElem kj]
  exact List.getElem_mem kj
theorem Kn(l:List UInt8):∀(k:Nat) (s:List H2×Nat),∃ms,(Bk l s k).1=s.1++ms∧ms.length=k∧∀(i:Nat) c,ms[i]?=some c→r8 c (Al (s.1.length+i))
 |0,s=>⟨[],by simp[Bk],rfl,fun i c h=>by simp at h⟩
 |k+1,s=>by
  obtain⟨ms,h1,h2,h3⟩:=Kn l k (s.1++[(AM l s.2 (Al s.1.length)).1],(AM l s.2 (Al s.1.length)).2)
  refine⟨(AM l s.2 (Al s.1.length)).1::ms,?_,by simp[h2],fun i c hc=>?_⟩
  ·rw[Bk,h1];simp
  ·cases i with
   |zero=>simp at hc;subst hc;exact eD _ _ _
   |succ i =>
    have:=h3 i c (by simpa using hc)
    simp only[List.length_append,List.length_singleton]at this
    rwa[show s.1.length+(i+1)=s.1.length+1+i by omega]
structure F7(s:A5):Prop where
 ls:∃l1 l2,l1∈Mi∧l2∈Mi∧s.lists=[(H5,l1),(Ei,l2)]
 cs:∃b ms,s.cols=Q7 b++ms∧1≤ms.length∧ms.length≤3∧∀(i:Nat) c,ms[i]?=some c→r8 c (Al ((Q7 b).length+i))
theorem Vw(l:List UInt8)(a:Nat):F7 (JK l a).1:=by
 refine⟨⟨_,_,Og l a,Og l (L6 l a).2,rfl⟩,?_⟩
 have h3:=I7 l (B8 l (L6 l (L6 l a).2).2 2).2 (n:=3) (by omega)
 obtain⟨ms,h1,h2,h4⟩:=Kn l (1+(B8 l (B8 l (L6 l (L6 l a).2).2 2).2 3).1) (Q7 (decide (((B8 l (L6 l (L6 l a).2).2 2).1:Int)=1)),(B8 l (B8 l (L6 l (L6 l a).2).2 2).2 3).2)
 exact⟨_,ms,h1,by omega,by omega,h4⟩
def RK(b:Bool)(n:Nat):List (List UInt8):=(Q7 b).map (·.name)++(List.range n).map fun i=>Al ((Q7 b).length+i)
def ca(l:List (List UInt8)):Bool:=(List.range l.length).all fun i=>D8 (l.getD i []) && !((l.take i).any fun x=>decide (x=l.getD i []))
theorem aO:([true,false].all fun b=>[1,2,3].all fun n=>ca (RK b n))=true:=by decide +kernel
def Xp(cs:List Code):Bool:=decide (chk H5 cs=0) && decide (chk Ei cs=0) && decide (1≤H3 H5 cs∧H3 H5 cs≤5) && decide (cs.length≤10) && decide (1≤(Y0 H5 cs (H3 H5 cs-1)).length∧(Y0 H5 cs (H3 H5 cs-1)).length≤10) && ((Y0 H5 cs (H3 H5 cs-1)).all fun k=>decide (k<cs.length))
theorem eE:Mi.all Xp=true:=by decide +kernel
structure jZ(cs:List Code):Prop where
 one:chk H5 cs=0
 two:chk Ei cs=0
 lv:1≤H3 H5 cs∧H3 H5 cs≤5
 len:cs.length≤10
 at':1≤(Y0 H5 cs (H3 H5 cs-1)).length∧(Y0 H5 cs (H3 H5 cs-1)).length≤10
 mem:∀k∈Y0 H5 cs (H3 H5 cs-1),k<cs.length
theorem Ff{cs:List Code}(h:cs∈Mi):jZ cs:=by
 have:=List.all_eq_true.1 eE _ h
 simp only[Xp,Bool.and_eq_true,decide_eq_true_eq,List.all_eq_true]at this
 obtain⟨⟨⟨⟨⟨h1,h2⟩,h3⟩,h4⟩,h5⟩,h6⟩:=this
 exact⟨h1,h2,h3,h4,h5,h6⟩
theorem RL{a b:List UInt8}(h:D8 a=D8 b)(cs:List Code):chk a cs=chk b cs:=by unfold chk;rw[h]
theorem eF{a b:List UInt8}(h:D8 a=D8 b)(cs:List Code)(k:Int):hasB a cs k=hasB b cs k:=by unfold hasB;rw[RL h]
theorem Ey{a b:List UInt8}(h:D8 a=D8 b)(cs:List Code):H3 a cs=H3 b cs:=by unfold H3;rw[RL h]
theorem RM{a b:List UInt8}(h:D8 a=D8 b)(cs:List Code)(k lv:Int):CQ a cs k lv=CQ b cs k lv:=by unfold CQ;rw[eF h]
theorem JL{a b:List UInt8}(h:D8 a=D8 b)(cs:List Code)(lv:Int):Y0 a cs lv=Y0 b cs lv:=by unfold Y0;rw[RL h]
theorem iD:D8 Ei=D8 H5:=by decide
theorem Au{α:Type}{f:Nat→α→Int}:∀{l:List α} {k:Nat},(∀(i:Nat) x,l[i]?=some x→f (k+i) x=0)→J1 f k l=0
 |[],k,_=>rfl
 |y::r,k,h=>by
  have h0:=h 0 y rfl
  simp only[Nat.add_zero]at h0
  rw[J1,if_pos h0]
  refine Au fun i x hx=>?_
  have:=h (i+1) x (by simpa using hx)
  rwa[show k+(i+1)=k+1+i by omega]at this
theorem r8.meaE{c:H2}{nm:List UInt8}(h:r8 c nm):meaE c=0:=by
 have h1:=h.low
 have h2:=h.high
 have h3:=h.wid
 unfold Go.Proofs.YtkcekccdcpmekaaGreatDoor.meaE
 rw[if_neg (by omega)]
 simp only[Ex,List.mem_cons,List.not_mem_nil,or_false]at h3
 rcases h3 with h3|h3|h3|h3<;>rw[h3]<;>decide
theorem r8.used{c:H2}{nm:List UInt8}(h:r8 c nm):Eu c=true:=by
 unfold Eu
 rw[h.kind,h.lst]
 simp
theorem r8.kindE{c:H2}{nm:List UInt8}(h:r8 c nm)(s:A5)(i:Nat):kindE s i c=0:=by
 unfold Go.Proofs.YtkcekccdcpmekaaGreatDoor.kindE
 rw[h.kind]
 simp[h.meaE]
theorem F7.col{s:A5}(h:F7 s){i:Nat}{c:H2}(hc:s.cols[i]?=some c):(i=0∧c=Nd)∨(0<i∧(c=GX∨c=Nf))∨(0<i∧∃nm,r8 c nm):=by
 obtain⟨b,ms,h1,_,_,h4⟩:=h.cs
 rw[h1,List.getElem?_append]at hc
 split at hc
 ·cases b<;>simp only[Q7,_root_.cond_true,_root_.cond_false,List.length_cons,List.length_nil]at hc
  ·match i,hc with
   |0,hc=>cases hc;exact .inl ⟨rfl,rfl⟩
   |1,hc=>cases hc;exact .inr (.inl ⟨by omega,.inl rfl⟩)
   |n+2,hc=>simp at hc
  ·match i,hc with
   |0,hc=>cases hc;exact .inl ⟨rfl,rfl⟩
   |1,hc=>cases hc;exact .inr (.inl ⟨by omega,.inl rfl⟩)
   |2,hc=>cases hc;exact .inr (.inl ⟨by omega,.inr rfl⟩)
   |n+3,hc=>simp at hc
 ·rename_i kj
  refine .inr (.inr ⟨?_,_,h4 _ c hc⟩)
  cases b<;>simp[Q7]at kj<;>omega
theorem F7.names{s:A5}(h:F7 s):ca (s.cols.map (·.name))=true:=by
 obtain⟨b,ms,h1,h2,h3,h4⟩:=h.cs
 have e:s.cols.map (·.name)=RK b ms.length:=by
  rw[h1,List.map_append]
  unfold RK
  congr 1
  refine List.ext_getElem? fun i=>?_
  rw[List.getElem?_map,List.getElem?_map]
  by_cases hi:i<ms.length
  ·rw[List.getElem?_eq_getElem hi,List.getElem?_range hi]
   simp only[Option.map_some]
   rw[(h4 i _ (List.getElem?_eq_getElem hi)).name]
  ·rw[List.getElem?_eq_none (by omega),List.getElem?_eq_none (by simp;omega)];rfl
 rw[e]
 have h5:=List.all_eq_true.1 (List.all_eq_true.1 aO b (by cases b<;>simp)) ms.length
 refine h5 ?_
 have:ms.length=1∨ms.length=2∨ms.length=3:=by omega
 rcases this with h|h|h<;>rw[h]<;>simp
theorem F7.colE{s:A5}(h:F7 s){i:Nat}{c:H2}(hc:s.cols[i]?=some c):colE s i c=0:=by
 have hi:=S8 hc
 have hn:=List.all_eq_true.1 h.names i (by simpa using hi)
 simp only[Bool.and_eq_true,Bool.not_eq_true']at hn
 have hg:(s.cols.map (·.name)).getD i []=c.name:=by
  rw[List.getD_eq_getElem?_getD,List.getElem?_map,hc];rfl
 rw[hg]at hn
 have hd:Eh s i c=false:=by
  unfold Eh
  rw[←hn.2,←List.map_take,List.any_map]
  rfl
 have hl:s.lists.length=2:=by obtain⟨l1,l2,_,_,h⟩:=h.ls;rw[h];rfl
 have hk:kindE s i c=0∧Eu c=true:=by
  rcases h.col hc with ⟨rfl,rfl⟩|⟨h0,rfl|rfl⟩|⟨h0,nm,hm⟩
  ·exact⟨by unfold kindE;simp[Nd],by decide⟩
  ·exact⟨by unfold kindE;rw[hl];simp[GX],by decide⟩
  ·exact⟨by unfold kindE;rw[hl];simp[Nf],by decide⟩
  ·exact⟨hm.kindE s i,hm.used⟩
 unfold Go.Proofs.YtkcekccdcpmekaaGreatDoor.colE
 rw[hn.1,hd,hk.1,hk.2]
 rfl
theorem F7.lens{s:A5}(h:F7 s):s.lists.length=2∧3≤s.cols.length∧s.cols.length≤6:=by
 obtain⟨l1,l2,_,_,h1⟩:=h.ls
 obtain⟨b,ms,h2,h3,h4,_⟩:=h.cs
 refine⟨by rw[h1];rfl,?_⟩
 rw[h2,List.length_append]
 cases b<;>simp[Q7]<;>omega
theorem F7.ok{s:A5}(h:F7 s):C8 s=0:=by
 have hl:=h.lens
 obtain⟨l1,l2,m1,m2,e⟩:=h.ls
 unfold C8
 rw[if_neg (by omega)]
 have h1:J1 (u4 s.lists) 0 s.lists=0:=by
  refine Au fun i x hx=>?_
  rw[e]at hx ⊢
  rw[Nat.zero_add]
  match i,hx with
  |0,hx=>cases hx;unfold u4;rw[if_pos (Ff m1).one];rfl
  |1,hx=>cases hx;unfold u4;rw[if_pos (Ff m2).two];rfl
  |n+2,hx=>simp at hx
 have h2:s.cols.head?.map (·.kind)=some 1:=by
  obtain⟨b,ms,h2,_⟩:=h.cs
  rw[h2];cases b<;>rfl
 rw[if_pos h1,if_pos h2]
 exact Au fun i x hx=>by rw[Nat.zero_add];exact h.colE hx
def Gz:List AV→List AV→Prop
 |[],[]=>True
 |x::r,y::s=>NL x y∧Gz r s
 |_,_=>False
def Ng:List (List AV)→List (List AV)→Prop
 |[],[]=>True
 |x::r,y::s=>Gz x y∧Ng r s
 |_,_=>False
theorem Gz.get:∀{l m:List AV},Gz l m→l.length=m.length∧∀(j:Nat) x y,l[j]?=some x→m[j]?=some y→NL x y
 |[],[],_=>⟨rfl,fun j x y h=>by simp at h⟩
 |a::r,b::s,h=>by
  obtain⟨h1,h2⟩:=Gz.get h.2
  refine⟨by simp[h1],fun j x y hx hy=>?_⟩
  cases j with
  |zero=>simp at hx hy;subst hx hy;exact h.1
  |succ j=>exact h2 j x y (by simpa using hx) (by simpa using hy)
 |[],_::_,h=>h.elim
 |_::_,[],h=>h.elim
theorem Ng.get:∀{l m:List (List AV)},Ng l m→l.length=m.length∧∀(i:Nat) e e',l[i]?=some e→m[i]?=some e'→Gz e e'
 |[],[],_=>⟨rfl,fun j x y h=>by simp at h⟩
 |a::r,b::s,h=>by
  obtain⟨h1,h2⟩:=Ng.get h.2
  refine⟨by simp[h1],fun j x y hx hy=>?_⟩
  cases j with
  |zero=>simp at hx hy;subst hx hy;exact h.1
  |succ j=>exact h2 j x y (by simpa using hx) (by simpa using hy)
 |[],_::_,h=>h.elim
 |_::_,[],h=>h.elim
theorem Gz.refl:∀(l:List AV),Gz l l
 |[]=>trivial
 |x::r=>⟨.refl x,Gz.refl r⟩
theorem HA{l m:List AV}(h:Gz l m):NL (.agg l) (.agg m):=.agg l m h.get.1 h.get.2
theorem ja{sz:Nat}{l m:List (List AV)}(h:Ng l m):NL (.sl sz l) (.sl sz m) :=
 .sl sz l m h.get.1 (fun i e e' he pY=>(h.get.2 i e e' he pY).get.1) (fun i e e' he pY=>(h.get.2 i e e' he pY).get.2)
theorem aP{P:Program}{f:Nat}{l l':List AV}{r:AV}(h:A4 P f l r)(hn:Gz l' l):A4 P f l' r:=by
 obtain⟨h1,h2⟩:=hn.get
 unfold A4 at h ⊢
 refine⟨h.1,fun X w vs hX mL hl hv=>h.2 X w vs hX mL (by omega) fun j a v ha oe=>?_⟩
 obtain⟨x,hx⟩:=R9 h1 ha
 exact(h2 j x a hx ha).im (hv j x v hx oe)
theorem cb{E:Env}{n:Nat}{σ:St}(i:Nat){e sz v:Nat}{l:List (List AV)}(l':List (List AV))(hb:A7 σ.hp i=some (.row e sz v l))(hn:Ng l l')(kj:Nat.blt e y6=true:=by rfl):St.le E n σ (σ.set i (.row e sz v l')):=by
 unfold St.le
 rintro a w ⟨θ,h⟩
 obtain⟨kf,ke⟩:=hn.get
 obtain⟨_,xs,ho,hsz,ly,_⟩:=h.owns i _ hb
 have pN:∃x m c,θ i=.slice x m c:=by
  rcases ho.2 with ⟨h1,_⟩|⟨g,cap,kz,h1,_⟩
  ·exact⟨_,_,_,h1⟩
  ·exact⟨_,_,_,h1⟩
 have ht:=h.turn (v':=θ i) (b':=.row e sz v l') (w':=w) hb rfl rfl rfl (Nat.le_refl _) (fun _ _ _=>rfl) (fun k hk=>.inl hk) ⟨pN,e,v,l,rfl,.inr ⟨rfl,kf,rfl⟩⟩ fun le=>?_
 ·exact⟨_,ht⟩
 ·refine⟨xs,?_,fun e' pY=>?_,fun k mA hk j x hx=>?_,.lt (Nat.blt_eq▸kj)⟩
  ·simp only[cx,G8]
   rw[←kf]
   exact ho
  ·obtain⟨k,hk,rfl⟩:=List.getElem_of_mem pY
   obtain⟨x,hx⟩:=R9 kf (List.getElem?_eq_getElem hk)
   rw[←(ke k x _ hx (List.getElem?_eq_getElem hk)).get.1]
   exact hsz x (List.mem_of_getElem? hx)
  ·obtain⟨el,nf⟩:=R9 kf hk
   obtain⟨q1,q2⟩:=(ke k el mA nf hk).get
   obtain⟨x0,rQ⟩:=R9 q1 hx
   obtain⟨y,hy,hi⟩:=ly k el nf j x0 rQ
   exact⟨y,hy,(q2 j x0 x rQ hx).im (hi.mono le.heap le.U)⟩
abbrev LM:Nat:=66
abbrev Xq:Nat:=63
abbrev sB(l:List UInt8)(a:Nat)(s:A5):Hp:=[(0,some (.box [.sl 1 (l.map X9),.i a])),(1,some (.row Xq 2 0 (s.lists.map R0))),(2,some (.row LM 7 0 (s.cols.map M7)))]
theorem aQ(l:List UInt8)(a:Nat)(hl:l.length≤400):A9 Tryz.prog 6 1 (E6 l a) [.ref 0 0] 3 (sB l (JK l a).2 (JK l a).1) (.agg [.row 1 0 2,.row 2 0 (JK l a).1.cols.length]):=by
 have oD:=Of l a H5 hl
 have nH:=Of l (L6 l a).2 Ei hl
 have e:JK l a=(⟨[(H5,(L6 l a).1),(Ei,(L6 l (L6 l a).2).1)],(Bk l (Q7 (decide (((B8 l (L6 l (L6 l a).2).2 2).1:Int)=1)),(B8 l (B8 l (L6 l (L6 l a).2).2 2).2 3).2) (1+(B8 l (B8 l (L6 l (L6 l a).2).2 2).2 3).1)).1⟩,(Bk l (Q7 (decide (((B8 l (L6 l (L6 l a).2).2 2).1:Int)=1)),(B8 l (B8 l (L6 l (L6 l a).2).2 2).2 3).2) (1+(B8 l (B8 l (L6 l (L6 l a).2).2 2).2 3).1)).2):=rfl
 rw[e]
 clear e
 generalize mI:L6 l a=l1 at *
 generalize lk:L6 l l1.2=l2 at *
 obtain⟨c1,a1⟩:=l1
 obtain⟨c2,a2⟩:=l2
 dsimp only at lk oD nH ⊢
 have qm:=Bj l a2 2 hl (by omega)
 generalize hb:B8 l a2 2=b at *
 obtain⟨b1,b2⟩:=b
 dsimp only at qm ⊢
 have po:=p0 l b2 1 3 hl (by omega) (by omega) (by omega)
 have h3:=I7 l b2 (n:=3) (by omega)
 rw[show (3:Int)-1+1=3 from rfl]at po
 generalize hm:B8 l b2 3=m at *
 obtain⟨m1,m2⟩:=m
 dsimp only at po h3 ⊢
 refine G4 Tryz.func6 41 fun E h0=>?_
 repeat'((first|refine⟨C4 [0] [0] oD rfl rfl rfl rfl rfl ⟨rfl,trivial⟩ rfl rfl rfl rfl rfl ?_⟩|refine⟨C4 [0] [0] nH rfl rfl rfl rfl rfl ⟨rfl,trivial⟩ rfl rfl rfl rfl rfl ?_⟩|refine Iy (T:=26) rfl ?_|(refine da 3 [0,2,6,8] ?_;(try (conv=>whnf));refine Dp (Ib 5) ?_;refine FV [0,2,6,8] ?_;(try (conv=>whnf));refine Iy (T:=25) rfl ?_)|refine⟨C4 [0] [0] qm rfl rfl rfl rfl rfl ⟨rfl,trivial⟩ rfl rfl rfl rfl rfl ?_⟩|refine⟨C4 [0] [0] po rfl rfl rfl rfl rfl ⟨rfl,trivial⟩ rfl rfl rfl rfl rfl ?_⟩ |refine S2 ?_|(refine T6 ?_ ?_<;>intro h<;>try exact V1 h)|intro el ke kg|intro el ke|exact T4|refine T5 ?_ ?_|intro ex)<;>try conv=>whnf)
 all_goals
  refine Zt [0,2,3,4] ?_
  (try (conv=>whnf))
 ·have me:(b1:Int)=1:=by omega
  rw[decide_eq_true me]
  refine D5 (ι:=Nat×List H2×Nat) (fun x=>⟨[(0,.ref 0 0),(2,.ref 1 0),(3,.ref 8 0),(4,.i x.1)],9,[(0,some (.box [.sl 1 (l.map X9),.i x.2.2])),(1,some (.box [.v (.slice none 0 0),.v (.slice none 0 0)])),(6,some (.row Xq 2 0 [R0 (H5,c1),R0 (Ei,c2)])),(7,some (.row LM 7 0 (x.2.1.map M7))),(8,some (.box [.row 6 0 2,.row 7 0 x.2.1.length]))]⟩)
   (fun x=>x.1≤3∧x.2.1.length+x.1≤6∧Bk l (Q7 true,m2) (1+m1)=Bk l x.2 x.1) (fun x=>x.1) (1+m1,Q7 true,m2) ⟨by dsimp only;omega,by simp only[Q7,_root_.cond_true,_root_.cond_false,List.length_cons,List.length_nil];omega,rfl⟩
   (B4 (cb 7 ((Q7 true).map M7) rfl ⟨⟨.refl _,.refl _,.refl _,.refl _,.refl _,.nil 1,.refl _,trivial⟩,⟨.refl _,.refl _,.refl _,.refl _,.refl _,.nil 1,.refl _,trivial⟩,⟨.refl _,.refl _,.refl _,.refl _,.refl _,.nil 1,.refl _,trivial⟩,trivial⟩) (B2 h0)) (fun x hI=>?_)
  obtain⟨k,cs,a3⟩:=x
  obtain⟨hk,kf,hI⟩:=hI
  dsimp only at hk kf hI ⊢
  have nL:=RJ l a3 (Al cs.length) hl
  have su:=Cv cs.length (by omega)
  have sK:=Ak cs.length
  repeat'((first|refine C5 ⟨[(0,.ref 0 0),(2,.ref 1 0),(3,.ref 8 0),(4,.i k)],9,[(0,some (.box [.sl 1 (l.map X9),.i (AM l a3 (Al cs.length)).2])),(1,some (.box [.v (.slice none 0 0),.v (.slice none 0 0)])),(6,some (.row Xq 2 0 [R0 (H5,c1),R0 (Ei,c2)])),(7,some (.row LM 7 0 ((cs++[(AM l a3 (Al cs.length)).1]).map M7))),(8,some (.box [.row 6 0 2,.row 7 0 (cs++[(AM l a3 (Al cs.length)).1]).length]))]⟩ ?_ ?_|refine A0 su ?_|(refine E0 ?_ ?_;(show 1+(O0 cs.length).length≤_;omega))|refine⟨C4 [0] [0] nL rfl rfl rfl rfl rfl ⟨rfl,trivial⟩ rfl rfl rfl rfl rfl ?_⟩ |refine S2 ?_|(refine T6 ?_ ?_<;>intro h<;>try exact V1 h)|intro el ke kg|intro el ke|exact T4|refine T5 ?_ ?_|intro ex)<;>try conv=>whnf)
  all_goals first
   |exact B0 h0 rfl ⟨rfl,rfl,rfl,rfl,trivial⟩ ⟨rfl,rfl,⟨_,rfl⟩,⟨_,congrArg (G1.row LM 7 _) (by rw[List.map_append];rfl)⟩,congrArg (fun z=>G1.box [.row 6 0 2,.row 7 0 z]) (by rw[List.length_append];rfl),trivial⟩ rfl rfl rfl
   |(obtain⟨k',rfl⟩:∃k',k=k'+1:=⟨k-1,by omega⟩
     exact⟨(k',cs++[(AM l a3 (Al cs.length)).1],(AM l a3 (Al cs.length)).2),⟨by dsimp only;omega,by dsimp only;rw[List.length_append,List.length_singleton];omega,hI⟩,by dsimp only;omega,B0 h0 rfl ⟨rfl,rfl,rfl,congrArg (fun z=>some (AV.i z)) (by dsimp only;omega),trivial⟩ ⟨rfl,rfl,⟨_,rfl⟩,⟨_,rfl⟩,rfl,trivial⟩ rfl rfl rfl⟩)
   |(obtain rfl:k=0:=by omega
     rw[hI]
     exact C9 (rvs:=[.cell 2 28]) (vs:=[_]) ⟨1,_,_,rfl,rfl,inferInstance,rfl,rfl,trivial⟩ rfl rfl (B4 (Gm 1 6 h0 rfl rfl) (B4 (Gm 2 7 h0 rfl rfl) (B2 h0))) rfl)
 ·have me:¬(b1:Int)=1:=by omega
  rw[decide_eq_false me]
  refine D5 (ι:=Nat×List H2×Nat) (fun x=>⟨[(0,.ref 0 0),(2,.ref 1 0),(3,.ref 8 0),(4,.i x.1)],9,[(0,some (.box [.sl 1 (l.map X9),.i x.2.2])),(1,some (.box [.v (.slice none 0 0),.v (.slice none 0 0)])),(6,some (.row Xq 2 0 [R0 (H5,c1),R0 (Ei,c2)])),(7,some (.row LM 7 0 (x.2.1.map M7))),(8,some (.box [.row 6 0 2,.row 7 0 x.2.1.length]))]⟩)
   (fun x=>x.1≤3∧x.2.1.length+x.1≤6∧Bk l (Q7 false,m2) (1+m1)=Bk l x.2 x.1) (fun x=>x.1) (1+m1,Q7 false,m2) ⟨by dsimp only;omega,by simp only[Q7,_root_.cond_true,_root_.cond_false,List.length_cons,List.length_nil];omega,rfl⟩
   (B4 (cb 7 ((Q7 false).map M7) rfl ⟨⟨.refl _,.refl _,.refl _,.refl _,.refl _,.nil 1,.refl _,trivial⟩,⟨.refl _,.refl _,.refl _,.refl _,.refl _,.nil 1,.refl _,trivial⟩,trivial⟩) (B2 h0)) (fun x hI=>?_)
  obtain⟨k,cs,a3⟩:=x
  obtain⟨hk,kf,hI⟩:=hI
  dsimp only at hk kf hI ⊢
  have nL:=RJ l a3 (Al cs.length) hl
  have su:=Cv cs.length (by omega)
  have sK:=Ak cs.length
  repeat'((first|refine C5 ⟨[(0,.ref 0 0),(2,.ref 1 0),(3,.ref 8 0),(4,.i k)],9,[(0,some (.box [.sl 1 (l.map X9),.i (AM l a3 (Al cs.length)).2])),(1,some (.box [.v (.slice none 0 0),.v (.slice none 0 0)])),(6,some (.row Xq 2 0 [R0 (H5,c1),R0 (Ei,c2)])),(7,some (.row LM 7 0 ((cs++[(AM l a3 (Al cs.length)).1]).map M7))),(8,some (.box [.row 6 0 2,.row 7 0 (cs++[(AM l a3 (Al cs.length)).1]).length]))]⟩ ?_ ?_|refine A0 su ?_|(refine E0 ?_ ?_;(show 1+(O0 cs.length).length≤_;omega))|refine⟨C4 [0] [0] nL rfl rfl rfl rfl rfl ⟨rfl,trivial⟩ rfl rfl rfl rfl rfl ?_⟩ |refine S2 ?_|(refine T6 ?_ ?_<;>intro h<;>try exact V1 h)|intro el ke kg|intro el ke|exact T4|refine T5 ?_ ?_|intro ex)<;>try conv=>whnf)
  all_goals first
   |exact B0 h0 rfl ⟨rfl,rfl,rfl,rfl,trivial⟩ ⟨rfl,rfl,⟨_,rfl⟩,⟨_,congrArg (G1.row LM 7 _) (by rw[List.map_append];rfl)⟩,congrArg (fun z=>G1.box [.row 6 0 2,.row 7 0 z]) (by rw[List.length_append];rfl),trivial⟩ rfl rfl rfl
   |(obtain⟨k',rfl⟩:∃k',k=k'+1:=⟨k-1,by omega⟩
     exact⟨(k',cs++[(AM l a3 (Al cs.length)).1],(AM l a3 (Al cs.length)).2),⟨by dsimp only;omega,by dsimp only;rw[List.length_append,List.length_singleton];omega,hI⟩,by dsimp only;omega,B0 h0 rfl ⟨rfl,rfl,rfl,congrArg (fun z=>some (AV.i z)) (by dsimp only;omega),trivial⟩ ⟨rfl,rfl,⟨_,rfl⟩,⟨_,rfl⟩,rfl,trivial⟩ rfl rfl rfl⟩)
   |(obtain rfl:k=0:=by omega
     rw[hI]
     exact C9 (rvs:=[.cell 2 28]) (vs:=[_]) ⟨1,_,_,rfl,rfl,inferInstance,rfl,rfl,trivial⟩ rfl rfl (B4 (Gm 1 6 h0 rfl rfl) (B4 (Gm 2 7 h0 rfl rfl) (B2 h0))) rfl)
end Go.Proofs.YtkcekccdcpmekaaGreatDoor

/- Draws: what drawn rows are like. Draws: columns of a kind; boxes that say the same with empty rows for nothing laid. -/
import Derived.Test.YtjkbhaaobhgkdabGreatDoorRB13
import Derived.Test.YtjkbhaaobhgkdabGreatDoorRB12
import Derived.Test.YtjkbhaaobhgkdabGreatDoorRB5
import Derived.Test.YtjkbhaaobhgkdabGreatDoorRCd1
set_option linter.unusedVariables false
set_option linter.unnecessarySimpa false
set_option linter.unusedSimpArgs false
set_option maxHeartbeats 64000000
namespace Go.Proofs.YtjkbhaaobhgkdabGreatDoor
open Go Go.Av
attribute [local irreducible] D0 B0 D2 C7 DQ D1 C8 St.le A3 B6
set_option maxRecDepth 100000
theorem c9.bd{s:A4}(h:C4 s){i:Nat}{c:D4}(hc:s.cols[i]?=some c){v:Int}(hv:c9 s c v):-1099511627776≤v∧v≤100:=by
 rcases hv with ⟨_,h1⟩|⟨hk,n,rfl,hn⟩|⟨hk,h1⟩
 ·omega
 ·rcases h.col hc with ⟨_,rfl⟩|⟨_,qZ⟩|⟨_,nm,hm⟩
  ·cases hk
  ·obtain⟨hf,pN,nO⟩:=h.lst qZ
   rw[BJ pN,Bf pN]at hn
   have:=(Cu hf).mem n hn
   omega
  ·have:=hm.kind;omega
 ·rcases h.col hc with ⟨_,rfl⟩|⟨_,rfl|rfl⟩|⟨_,nm,hm⟩
  ·cases hk
  ·cases hk
  ·cases hk
  ·have:=hm.low
   have:=hm.high
   rcases h1 with h1|h1<;>omega
theorem Nn{s:A4}(hd:C4 s)(l:List UInt8):∀(n k:Nat) (x:List Int×Nat),k+n≤s.cols.length→(∀y∈x.1,-1099511627776≤y∧y≤100)→(rowFrom l s k x n).1.length=x.1.length+n∧∀y∈(rowFrom l s k x n).1,-1099511627776≤y∧y≤100
 |0,k,x,_,h=>⟨rfl,h⟩
 |n+1,k,x,hk,h=>by
  have hc:s.cols[k]?=some (s.cols[k]'(by omega)):=List.getElem?_eq_getElem (by omega)
  obtain⟨h1,h2⟩:=Nn hd l n (k+1) (x.1++[(u4 l x.2 s k).1],(u4 l x.2 s k).2) (by omega) (fun y hy=>by
   rcases List.mem_append.1 hy with hy|hy
   ·exact h y hy
   ·simp only[List.mem_singleton]at hy
    subst hy
    exact c9.bd hd hc (Wg hd l x.2 hc))
  rw[rowFrom]
  refine⟨?_,h2⟩
  rw[h1,List.length_append,List.length_singleton]
  omega
theorem iU{s:A4}(hd:C4 s)(l:List UInt8)(a:Nat):(j5 l a s).1.length=s.cols.length∧∀y∈(j5 l a s).1,-1099511627776≤y∧y≤100:=by
 have:=Nn hd l s.cols.length 0 ([],a) (by omega) (fun y hy=>by cases hy)
 unfold j5
 simpa using this
theorem bG{E:Env}{n:Nat}{σ:St}(i:Nat){l:List AV}(l':List AV)(hb:A5 σ.hp i=some (.box l))(hn:LP l l'):St.le E n σ (σ.set i (.box l')):=by
 unfold St.le
 rintro a w ⟨θ,h⟩
 obtain⟨nO,nN⟩:=hn.get
 obtain⟨_,b,ny,ty,h1,h2,h3,h4⟩:=h.owns i _ hb
 have ht:=h.turn (v':=θ i) (b':=.box l') (w':=w) hb rfl rfl rfl (Nat.le_refl _) (fun _ _ _=>rfl) (fun k hk=>.inl hk) rfl fun le=>?_
 ·exact⟨_,ht⟩
 ·refine⟨b,ny,ty,by simp only[cx,E5];exact h1,h2,by omega,fun j x y hx hy=>?_⟩
  obtain⟨x0,pb⟩:=N6 nO hx
  exact NH (nN j x0 x pb hx) ((h4 j x0 y pb hy).mono le)
def G1(s:A4)(kind:Int)(k:Nat):List Nat:=(List.range k).filter fun i=>decide ((B4 s i).kind=kind)
theorem Ho(s:A4)(kind:Int)(k:Nat):(G1 s kind k).length≤k:=by
 have:=List.length_filter_le (fun i:Nat=>decide ((B4 s i).kind=kind)) (List.range k)
 simpa [G1]using this
theorem QU{s:A4}{kind:Int}{k:Nat}(h:(B4 s k).kind=kind):G1 s kind (k+1)=G1 s kind k++[k]:=by
 simp[G1,List.range_succ,List.filter_append,h]
theorem Ta{s:A4}{kind:Int}{k:Nat}(h:¬(B4 s k).kind=kind):G1 s kind (k+1)=G1 s kind k:=by
 simp[G1,List.range_succ,List.filter_append,h]
theorem w7{s:A4}{kind:Int}{i:Nat}:i∈G1 s kind s.cols.length↔i<s.cols.length∧(B4 s i).kind=kind:=by
 unfold G1
 rw[List.mem_filter,List.mem_range,decide_eq_true_eq]
theorem FZ(s:A4)(kind:Int)(nO:s.cols.length≤1000):A3 Tryz.prog 48 [sA s,.i kind] (.sl 1 ((G1 s kind s.cols.length).map iA)):=by
 refine C0 Tryz.func48 27 fun nQ E h0=>?_
 clear nQ
 repeat'((first|refine S2 ?_|(refine T6 ?_ ?_<;>intro h<;>try exact V1 h)|intro el nN nP|intro el nN|exact T4|refine T5 ?_ ?_|intro ex)<;>try conv=>whnf)
 refine B2 (ι:=Nat) (fun k=>⟨[(1,.i kind),(2,.ref 0 0),(5,.row 1 0 (G1 s kind k).length),(9,.i s.cols.length),(10,.i k)],2,[(0,some (.box (sL s))),(1,some (.row 3 1 0 ((G1 s kind k).map iA)))]⟩) (fun k=>k≤s.cols.length) (fun k=>s.cols.length-k) 0 (Nat.zero_le _)
  (C2 (K4 (d:=5) (e:=3) (sz:=1) rfl) (A8 h0 rfl ⟨rfl,rfl,rfl,rfl,rfl,trivial⟩ ⟨rfl,⟨0,rfl⟩,trivial⟩ rfl rfl rfl)) (fun k hk=>?_)
 have si:=Ho s kind k
 have nh:∀el,s.cols[k]?=some el→B4 s k=el:=fun el h=>B7 (by simpa using h)
 repeat'((first|refine S2 ?_|(refine T6 ?_ ?_<;>intro h<;>try exact V1 h)|intro el nN nP|intro el nN|exact T4|refine T5 ?_ ?_|intro ex)<;>try conv=>whnf)
 all_goals first
  |(have hy:(B4 s k).kind=kind:=by rw[nh _ nN];assumption
    exact⟨k+1,by omega,by omega,A8 h0 rfl ⟨rfl,rfl,congrArg (fun z:Nat=>some (AV.row 1 0 z)) (by rw[QU hy,List.length_append];rfl),rfl,rfl,trivial⟩ ⟨rfl,⟨_,congrArg (C9.row 3 1 _) (by rw[QU hy,List.map_append];rfl)⟩,trivial⟩ rfl rfl rfl⟩)
  |(have hy:¬(B4 s k).kind=kind:=by rw[nh _ nN];assumption
    exact⟨k+1,by omega,by omega,A8 h0 rfl ⟨rfl,rfl,congrArg (fun z:Nat=>some (AV.row 1 0 z)) (by rw[Ta hy]),rfl,rfl,trivial⟩ ⟨rfl,⟨_,congrArg (fun z=>C9.row 3 1 0 (z.map iA)) (Ta hy)⟩,trivial⟩ rfl rfl rfl⟩)
  |exact A0 rfl (congrArg (fun z=>AV.sl 1 ((G1 s kind z).map iA)) (by omega))
def R9(l:List UInt8)(a:Nat)(s:A4)(kind:Int):Nat×Nat:=((G1 s kind s.cols.length).getD (B3 l a (G1 s kind s.cols.length).length).1 0,(B3 l a (G1 s kind s.cols.length).length).2)
theorem BL{l:List UInt8}{a:Nat}{s:A4}{kind:Int}(h:1≤(G1 s kind s.cols.length).length):(G1 s kind s.cols.length)[(B3 l a (G1 s kind s.cols.length).length).1]?=some (R9 l a s kind).1∧(R9 l a s kind).1<s.cols.length∧(B4 s (R9 l a s kind).1).kind=kind:=by
 have hn:=F9 l a (n:=(G1 s kind s.cols.length).length) (by omega)
 have nR:(B3 l a (G1 s kind s.cols.length).length).1<(G1 s kind s.cols.length).length:=by omega
 have e:(G1 s kind s.cols.length)[(B3 l a (G1 s kind s.cols.length).length).1]?=some (R9 l a s kind).1:=by
  unfold R9
  dsimp only
  rw[List.getD_eq_getElem?_getD,List.getElem?_eq_getElem nR]
  rfl
 exact⟨e,w7.1 (List.mem_of_getElem? e)⟩
theorem C4.two{s:A4}(h:C4 s):1≤(G1 s 2 s.cols.length).length∧1≤(G1 s 3 s.cols.length).length:=by
 have hl:=h.lens
 obtain⟨b,ms,h1,h2,h3,h4⟩:=h.cs
 have m2:1∈G1 s 2 s.cols.length:=by
  refine w7.2 ⟨by omega,?_⟩
  have:s.cols[1]?=some Dd:=by rw[h1];cases b<;>rfl
  rw[show B4 s ((1:Nat):Int)=Dd from B7 (by simpa using this)]
  rfl
 have m3:(M8 b).length∈G1 s 3 s.cols.length:=by
  have hm:ms[0]?=some (ms[0]'(by omega)):=List.getElem?_eq_getElem (by omega)
  have hc:s.cols[(M8 b).length]?=some (ms[0]'(by omega)):=by rw[h1,List.getElem?_append_right (Nat.le_refl _),Nat.sub_self];exact hm
  refine w7.2 ⟨D6 hc,?_⟩
  rw[show B4 s (((M8 b).length:Nat):Int)=_ from B7 (by simpa using hc)]
  exact(h4 0 _ hm).kind
 exact⟨List.length_pos_of_mem m2,List.length_pos_of_mem m3⟩
theorem Np(l:List UInt8)(a:Nat)(s:A4)(hd:C4 s)(hl:l.length≤400):B6 Tryz.prog 49 1 (V3 l a) [.ref 0 0,sA s] 1 (V3 l (R9 l a s 2).2) (.i (R9 l a s 2).1):=by
 have hc:=FZ s 2 (by have:=hd.lens;omega)
 have hn:=J2 l a (G1 s 2 s.cols.length).length hl
 have hk:=(BL (l:=l) (a:=a) hd.two.1).1
 have ob:=Ho s 2 s.cols.length
 have qc:=hd.lens
 refine X6 Tryz.func49 15 fun E h0=>?_
 repeat'((first|refine A1 hc ?_|refine⟨F6 [0] [0] hn rfl rfl rfl rfl rfl ⟨rfl,trivial⟩ rfl rfl rfl rfl rfl ?_⟩|(refine A2 hk (by omega) ?_) |refine S2 ?_|(refine T6 ?_ ?_<;>intro h<;>try exact V1 h)|intro el nN nP|intro el nN|exact T4|refine T5 ?_ ?_|intro ex)<;>try conv=>whnf)
 all_goals exact G9 (A6 h0)
theorem EO(l:List UInt8)(a:Nat)(s:A4)(hd:C4 s)(hl:l.length≤400):B6 Tryz.prog 16 1 (V3 l a) [.ref 0 0,sA s] 1 (V3 l (R9 l a s 3).2) (.i (R9 l a s 3).1):=by
 have hc:=FZ s 3 (by have:=hd.lens;omega)
 have hn:=J2 l a (G1 s 3 s.cols.length).length hl
 have hk:=(BL (l:=l) (a:=a) hd.two.2).1
 have ob:=Ho s 3 s.cols.length
 have qc:=hd.lens
 refine X6 Tryz.func16 15 fun E h0=>?_
 repeat'((first|refine A1 hc ?_|refine⟨F6 [0] [0] hn rfl rfl rfl rfl rfl ⟨rfl,trivial⟩ rfl rfl rfl rfl rfl ?_⟩|(refine A2 hk (by omega) ?_) |refine S2 ?_|(refine T6 ?_ ?_<;>intro h<;>try exact V1 h)|intro el nN nP|intro el nN|exact T4|refine T5 ?_ ?_|intro ex)<;>try conv=>whnf)
 all_goals exact G9 (A6 h0)
theorem U1{E:Env}{n:Nat}{σ:St}(d:Nat){x:AV}(y:AV)(hd:Av.look σ.sl d=some x)(hn:NL x y):St.le E n σ (σ.put d y):=by
 unfold St.le
 rintro a w ⟨θ,h⟩
 refine⟨θ,h.size,h.defers,h.fr,fun s z hs=>?_,h.owns,h.apart,h.mine,h.X,h.base⟩
 simp only[St.put,E4]at hs
 by_cases e:d=s
 ·subst e
  rw[if_pos rfl]at hs
  cases hs
  exact NH hn (h.slots d x hd)
 ·rw[if_neg e]at hs
  exact h.slots s z hs
def Bn(l:List UInt8)(s:A4)(a:Nat):B1×Nat :=
 let q:=B3 l a 5
 if (q.1:Int)=1 then
  let k:=R9 l q.2 s 2
  let n:=B3 l k.2 (C1 s (B4 s k.1)).2.length
  (.mk 2 k.1 n.1 0 0 [],n.2)
 else if (q.1:Int)=2∨(q.1:Int)=3 then
  let k:=R9 l q.2 s 3
  let r:=B3 l k.2 44
  let h:=B3 l r.2 30
  (.mk 3 k.1 0 ((B4 s k.1).low+(-3+r.1)) ((B4 s k.1).low+(-3+r.1)+h.1) [],h.2)
 else if (q.1:Int)=4 then
  let k:=R9 l q.2 s 3
  (if (B4 s k.1).opt=true then .mk 4 k.1 0 0 0 []else .mk 1 0 0 0 0 [],k.2)
 else (.mk 1 0 0 0 0 [],q.2)
def S6(l:List UInt8)(s:A4):Nat→Nat→B1×Nat
 |0,a=>Bn l s a
 |d+1,a =>
  let q:=B3 l a 5
  if (q.1:Int)=2 then
   let x:=S6 l s d q.2
   (.mk 7 0 0 0 0 [x.1],x.2)
  else if (q.1:Int)=3 then
   let x:=S6 l s d q.2
   let y:=S6 l s d x.2
   (.mk 5 0 0 0 0 [x.1,y.1],y.2)
  else if (q.1:Int)=4 then
   let x:=S6 l s d q.2
   let y:=S6 l s d x.2
   (.mk 6 0 0 0 0 [x.1,y.1],y.2)
  else Bn l s q.2
theorem k7(o c k lo hi:Int):NL (.agg [.i o,.i c,.i k,.i lo,.i hi,.v (.slice none 0 0)]) (E7 (.mk o c k lo hi [])) :=
 EE ⟨.refl _,.refl _,.refl _,.refl _,.refl _,.nil 6,trivial⟩
theorem kj(o:Int)(x:B1):NL (.agg [.i o,.i 0,.i 0,.i 0,.i 0,.sl 6 [K2 x]]) (E7 (.mk o 0 0 0 0 [x])):=by
 rw[←Ka];exact .refl _
theorem bH(o:Int)(x y:B1):NL (.agg [.i o,.i 0,.i 0,.i 0,.i 0,.sl 6 [K2 x,K2 y]]) (E7 (.mk o 0 0 0 0 [x,y])):=by
 rw[←Ka,←Ka];exact .refl _
abbrev CB:Nat:=40
theorem bI(l:List UInt8)(s:A4)(hd:C4 s)(hl:l.length≤400)(d:Nat):∀a:Nat,d≤10→B6 Tryz.prog 18 1 (V3 l a) [.ref 0 0,sA s,.i d] 1 (V3 l (S6 l s d a).2) (E7 (S6 l s d a).1):=by
 induction d with
 |zero =>
  intro a _
  show B6 _ _ _ _ _ _ (V3 l (Bn l s a).2) (E7 (Bn l s a).1)
  unfold Bn
  have r1:=J2 l a 5 hl
  have h5:=F9 l a (n:=5) (by omega)
  generalize B3 l a 5=q at *
  obtain⟨q1,q2⟩:=q
  dsimp only at r1 h5 ⊢
  have r2:=Np l q2 s hd hl
  obtain⟨_,k1,k2⟩:=BL (l:=l) (a:=q2) hd.two.1
  generalize R9 l q2 s 2=k at *
  obtain⟨ka,kb⟩:=k
  dsimp only at r2 k1 k2 ⊢
  obtain⟨c,hc⟩:∃c,s.cols[ka]?=some c:=⟨_,List.getElem?_eq_getElem k1⟩
  have nh:B4 s ka=c:=B7 (by simpa using hc)
  rw[nh]at k2 ⊢
  obtain⟨oq,_⟩:=hd.lvs hc k2
  obtain⟨lx,ol⟩:∃lx,s.lists[c.lst.toNat]?=some lx:=⟨_,List.getElem?_eq_getElem (by omega)⟩
  rw[I7 ol]
  have r3:=J2 l kb lx.2.length hl
  have r4:=EO l q2 s hd hl
  obtain⟨_,m1,m2⟩:=BL (l:=l) (a:=q2) hd.two.2
  generalize R9 l q2 s 3=m at *
  obtain⟨ma,mb⟩:=m
  dsimp only at r4 m1 m2 ⊢
  obtain⟨x,hx⟩:∃x,s.cols[ma]?=some x:=⟨_,List.getElem?_eq_getElem m1⟩
  have tX:B4 s ma=x:=B7 (by simpa using hx)
  rw[tX]at m2 ⊢
  have hxb:-4≤x.low∧x.low≤2:=by
   rcases hd.col hx with ⟨_,rfl⟩|⟨_,rfl|rfl⟩|⟨_,nm,hm⟩
   ·cases m2
   ·cases m2
   ·cases m2
   ·exact hm.low
  have r5:=l5 l mb (-3) 40 hl (by omega) (by omega) (by omega)
  rw[show (40:Int) - -3+1=44 from rfl]at r5
  have xy:=F9 l mb (n:=44) (by omega)
  generalize B3 l mb 44=r at *
  obtain⟨ra,rb⟩:=r
  dsimp only at r5 xy ⊢
  have r6:=J2 l rb 30 hl
  have yA:=F9 l rb (n:=30) (by omega)
  generalize B3 l rb 30=u at *
  obtain⟨ua,ub⟩:=u
  generalize B3 l kb lx.2.length=v at *
  obtain⟨va,vb⟩:=v
  dsimp only at r3 r6 yA ⊢
  refine X6 Tryz.func18 111 fun E h0=>?_
  repeat'((first|refine⟨F6 [0] [0] r1 rfl rfl rfl rfl rfl ⟨rfl,trivial⟩ rfl rfl rfl rfl rfl ?_⟩|refine⟨F6 [0] [0] r2 rfl rfl rfl rfl rfl ⟨rfl,trivial⟩ rfl rfl rfl rfl rfl ?_⟩|refine⟨F6 [0] [0] r3 rfl rfl rfl rfl rfl ⟨rfl,trivial⟩ rfl rfl rfl rfl rfl ?_⟩|refine⟨F6 [0] [0] r4 rfl rfl rfl rfl rfl ⟨rfl,trivial⟩ rfl rfl rfl rfl rfl ?_⟩|refine⟨F6 [0] [0] r5 rfl rfl rfl rfl rfl ⟨rfl,trivial⟩ rfl rfl rfl rfl rfl ?_⟩|refine⟨F6 [0] [0] r6 rfl rfl rfl rfl rfl ⟨rfl,trivial⟩ rfl rfl rfl rfl rfl ?_⟩|(refine A2 (x:=c) hc (by omega) ?_)|(refine A2 (x:=lx) ol (by omega) ?_)|(refine A2 (x:=x) hx (by omega) ?_)|(refine G3 12 ?_;refine H4 (id:=12) ⟨[(6,.ref 2 0)],3,[(0,some (.box [.sl 1 (l.map O2),.i vb])),(2,some (.box [.i 2,.i ka,.i va,.i 0,.i 0,.v (.slice none 0 0)]))]⟩ ?_ ?_)|(refine G3 16 ?_;refine H4 (id:=16) ⟨[(0,.ref 0 0),(4,.ref 1 0),(6,.ref 2 0),(8,.i ma),(9,.i (x.low+(-3+ra)))],3,[(0,some (.box [.sl 1 (l.map O2),.i rb])),(1,some (.box (sL s))),(2,some (.box [.i 0,.i 0,.i 0,.i 0,.i 0,.v (.slice none 0 0)]))]⟩ ?_ ?_) |refine S2 ?_|(refine T6 ?_ ?_<;>intro h<;>try exact V1 h)|intro el nN nP|intro el nN|exact T4|refine T5 ?_ ?_|intro ex)<;>try conv=>whnf)
  all_goals first
   |exact A8 h0 rfl ⟨rfl,trivial⟩ ⟨rfl,rfl,trivial⟩ rfl rfl rfl
   |exact A8 h0 rfl ⟨rfl,rfl,rfl,rfl,rfl,trivial⟩ ⟨rfl,rfl,rfl,trivial⟩ rfl rfl rfl
   |(rw[if_pos (by assumption)];exact L8 (rvs:=[.cell 6 CB]) (vs:=[_]) ⟨2,_,_,rfl,rfl,inferInstance,rfl,rfl,trivial⟩ rfl rfl (C2 (U1 6 _ rfl (k7 2 ka va 0 0)) (A6 h0)) rfl)
   |(rw[if_neg (by omega),if_pos (by omega)];exact L8 (rvs:=[.cell 6 CB]) (vs:=[_]) ⟨2,_,_,rfl,rfl,inferInstance,rfl,rfl,trivial⟩ rfl rfl (C2 (U1 6 _ rfl (k7 3 ma 0 (x.low+(-3+ra)) (x.low+(-3+ra)+ua))) (A6 h0)) rfl)
   |(rw[if_neg (by omega),if_neg (by omega),if_pos (by omega),if_pos (by assumption)];exact L8 (rvs:=[.cell 6 CB]) (vs:=[_]) ⟨2,_,_,rfl,rfl,inferInstance,rfl,rfl,trivial⟩ rfl rfl (C2 (U1 6 _ rfl (k7 4 ma 0 0 0)) (A6 h0)) rfl)
   |(rw[if_neg (by omega),if_neg (by omega),if_pos (by omega),if_neg (by assumption)];exact L8 (rvs:=[.cell 6 CB]) (vs:=[_]) ⟨2,_,_,rfl,rfl,inferInstance,rfl,rfl,trivial⟩ rfl rfl (C2 (U1 6 _ rfl (k7 1 0 0 0 0)) (A6 h0)) rfl)
   |(rw[if_neg (by omega),if_neg (by omega),if_pos (by omega),if_neg (by rw[h];exact Bool.false_ne_true)];exact L8 (rvs:=[.cell 6 CB]) (vs:=[_]) ⟨2,_,_,rfl,rfl,inferInstance,rfl,rfl,trivial⟩ rfl rfl (C2 (U1 6 _ rfl (k7 1 0 0 0 0)) (A6 h0)) rfl)
   |(rw[if_neg (by omega),if_neg (by omega),if_neg (by omega)];exact L8 (rvs:=[.cell 6 CB]) (vs:=[_]) ⟨2,_,_,rfl,rfl,inferInstance,rfl,rfl,trivial⟩ rfl rfl (C2 (U1 6 _ rfl (k7 1 0 0 0 0)) (A6 h0)) rfl)
 |succ d ih =>
  intro a hd10
  have e1:(((d+1:Nat):Int)-1)=(d:Int):=by omega
  unfold S6 Bn
  have r0:=J2 l a 5 hl
  have g5:=F9 l a (n:=5) (by omega)
  generalize B3 l a 5=p at *
  obtain⟨p1,p2⟩:=p
  dsimp only at r0 g5 ⊢
  have hX:=ih p2 (by omega)
  rw[←e1]at hX
  generalize S6 l s d p2=X at *
  obtain⟨X1,X2⟩:=X
  dsimp only at hX ⊢
  have hY:=ih X2 (by omega)
  rw[←e1]at hY
  generalize S6 l s d X2=Y at *
  obtain⟨Y1,Y2⟩:=Y
  dsimp only at hY ⊢
  have r1:=J2 l p2 5 hl
  have h5:=F9 l a (n:=5) (by omega)
  generalize B3 l p2 5=q at *
  obtain⟨q1,q2⟩:=q
  dsimp only at r1 h5 ⊢
  have r2:=Np l q2 s hd hl
  obtain⟨_,k1,k2⟩:=BL (l:=l) (a:=q2) hd.two.1
  generalize R9 l q2 s 2=k at *
  obtain⟨ka,kb⟩:=k
  dsimp only at r2 k1 k2 ⊢
  obtain⟨c,hc⟩:∃c,s.cols[ka]?=some c:=⟨_,List.getElem?_eq_getElem k1⟩
  have nh:B4 s ka=c:=B7 (by simpa using hc)
  rw[nh]at k2 ⊢
  obtain⟨oq,_⟩:=hd.lvs hc k2
  obtain⟨lx,ol⟩:∃lx,s.lists[c.lst.toNat]?=some lx:=⟨_,List.getElem?_eq_getElem (by omega)⟩
  rw[I7 ol]
  have r3:=J2 l kb lx.2.length hl
  have r4:=EO l q2 s hd hl
  obtain⟨_,m1,m2⟩:=BL (l:=l) (a:=q2) hd.two.2
  generalize R9 l q2 s 3=m at *
  obtain⟨ma,mb⟩:=m
  dsimp only at r4 m1 m2 ⊢
  obtain⟨x,hx⟩:∃x,s.cols[ma]?=some x:=⟨_,List.getElem?_eq_getElem m1⟩
  have tX:B4 s ma=x:=B7 (by simpa using hx)
  rw[tX]at m2 ⊢
  have hxb:-4≤x.low∧x.low≤2:=by
   rcases hd.col hx with ⟨_,rfl⟩|⟨_,rfl|rfl⟩|⟨_,nm,hm⟩
   ·cases m2
   ·cases m2
   ·cases m2
   ·exact hm.low
  have r5:=l5 l mb (-3) 40 hl (by omega) (by omega) (by omega)
  rw[show (40:Int) - -3+1=44 from rfl]at r5
  have xy:=F9 l mb (n:=44) (by omega)
  generalize B3 l mb 44=r at *
  obtain⟨ra,rb⟩:=r
  dsimp only at r5 xy ⊢
  have r6:=J2 l rb 30 hl
  have yA:=F9 l rb (n:=30) (by omega)
  generalize B3 l rb 30=u at *
  obtain⟨ua,ub⟩:=u
  generalize B3 l kb lx.2.length=v at *
  obtain⟨va,vb⟩:=v
  dsimp only at r3 r6 yA ⊢
  clear ih e1
  refine X6 Tryz.func18 111 fun E h0=>?_
  repeat'((first|refine⟨F6 [0] [0] r0 rfl rfl rfl rfl rfl ⟨rfl,trivial⟩ rfl rfl rfl rfl rfl ?_⟩|refine⟨F6 [0] [0] hX rfl rfl rfl rfl rfl ⟨rfl,trivial⟩ rfl rfl rfl rfl rfl ?_⟩|refine⟨F6 [0] [0] hY rfl rfl rfl rfl rfl ⟨rfl,trivial⟩ rfl rfl rfl rfl rfl ?_⟩|(refine G3 6 ?_;refine H4 (id:=6) ⟨[(6,.ref 2 0)],3,[(0,some (.box [.sl 1 (l.map O2),.i Y2])),(2,some (.box [.i 5,.i 0,.i 0,.i 0,.i 0,.sl 6 [K2 X1,K2 Y1]]))]⟩ ?_ ?_)|(refine G3 8 ?_;refine H4 (id:=8) ⟨[(6,.ref 2 0)],3,[(0,some (.box [.sl 1 (l.map O2),.i Y2])),(2,some (.box [.i 6,.i 0,.i 0,.i 0,.i 0,.sl 6 [K2 X1,K2 Y1]]))]⟩ ?_ ?_)|refine⟨F6 [0] [0] r1 rfl rfl rfl rfl rfl ⟨rfl,trivial⟩ rfl rfl rfl rfl rfl ?_⟩|refine⟨F6 [0] [0] r2 rfl rfl rfl rfl rfl ⟨rfl,trivial⟩ rfl rfl rfl rfl rfl ?_⟩|refine⟨F6 [0] [0] r3 rfl rfl rfl rfl rfl ⟨rfl,trivial⟩ rfl rfl rfl rfl rfl ?_⟩|refine⟨F6 [0] [0] r4 rfl rfl rfl rfl rfl ⟨rfl,trivial⟩ rfl rfl rfl rfl rfl ?_⟩|refine⟨F6 [0] [0] r5 rfl rfl rfl rfl rfl ⟨rfl,trivial⟩ rfl rfl rfl rfl rfl ?_⟩|refine⟨F6 [0] [0] r6 rfl rfl rfl rfl rfl ⟨rfl,trivial⟩ rfl rfl rfl rfl rfl ?_⟩|(refine A2 (x:=c) hc (by omega) ?_)|(refine A2 (x:=lx) ol (by omega) ?_)|(refine A2 (x:=x) hx (by omega) ?_)|(refine G3 12 ?_;refine H4 (id:=12) ⟨[(6,.ref 2 0)],3,[(0,some (.box [.sl 1 (l.map O2),.i vb])),(2,some (.box [.i 2,.i ka,.i va,.i 0,.i 0,.v (.slice none 0 0)]))]⟩ ?_ ?_)|(refine G3 16 ?_;refine H4 (id:=16) ⟨[(0,.ref 0 0),(4,.ref 1 0),(6,.ref 2 0),(8,.i ma),(9,.i (x.low+(-3+ra)))],3,[(0,some (.box [.sl 1 (l.map O2),.i rb])),(1,some (.box (sL s))),(2,some (.box [.i 0,.i 0,.i 0,.i 0,.i 0,.v (.slice none 0 0)]))]⟩ ?_ ?_) |refine S2 ?_|(refine T6 ?_ ?_<;>intro h<;>try exact V1 h)|intro el nN nP|intro el nN|exact T4|refine T5 ?_ ?_|intro ex)<;>try conv=>whnf)
  all_goals first
   |(rw[if_pos (by assumption)];exact L8 (rvs:=[.cell 6 CB]) (vs:=[_]) ⟨2,_,_,rfl,rfl,inferInstance,rfl,rfl,trivial⟩ rfl rfl (C2 (U1 6 _ rfl (kj 7 X1)) (A6 h0)) rfl)
   |(rw[if_neg (by omega),if_pos (by assumption)];exact L8 (rvs:=[.cell 6 CB]) (vs:=[_]) ⟨2,_,_,rfl,rfl,inferInstance,rfl,rfl,trivial⟩ rfl rfl (C2 (U1 6 _ rfl (bH 5 X1 Y1)) (A6 h0)) rfl)
   |(rw[if_neg (by omega),if_neg (by omega),if_pos (by assumption)];exact L8 (rvs:=[.cell 6 CB]) (vs:=[_]) ⟨2,_,_,rfl,rfl,inferInstance,rfl,rfl,trivial⟩ rfl rfl (C2 (U1 6 _ rfl (bH 6 X1 Y1)) (A6 h0)) rfl)
   |exact A8 h0 rfl ⟨rfl,trivial⟩ ⟨rfl,rfl,trivial⟩ rfl rfl rfl
   |exact A8 h0 rfl ⟨rfl,rfl,rfl,rfl,rfl,trivial⟩ ⟨rfl,rfl,rfl,trivial⟩ rfl rfl rfl
   |(rw[if_neg (by omega),if_neg (by omega),if_neg (by omega),if_pos (by assumption)];exact L8 (rvs:=[.cell 6 CB]) (vs:=[_]) ⟨2,_,_,rfl,rfl,inferInstance,rfl,rfl,trivial⟩ rfl rfl (C2 (U1 6 _ rfl (k7 2 ka va 0 0)) (A6 h0)) rfl)
   |(rw[if_neg (by omega),if_neg (by omega),if_neg (by omega),if_neg (by omega),if_pos (by omega)];exact L8 (rvs:=[.cell 6 CB]) (vs:=[_]) ⟨2,_,_,rfl,rfl,inferInstance,rfl,rfl,trivial⟩ rfl rfl (C2 (U1 6 _ rfl (k7 3 ma 0 (x.low+(-3+ra)) (x.low+(-3+ra)+ua))) (A6 h0)) rfl)
   |(rw[if_neg (by omega),if_neg (by omega),if_neg (by omega),if_neg (by omega),if_neg (by omega),if_pos (by omega),if_pos (by assumption)];exact L8 (rvs:=[.cell 6 CB]) (vs:=[_]) ⟨2,_,_,rfl,rfl,inferInstance,rfl,rfl,trivial⟩ rfl rfl (C2 (U1 6 _ rfl (k7 4 ma 0 0 0)) (A6 h0)) rfl)
   |(rw[if_neg (by omega),if_neg (by omega),if_neg (by omega),if_neg (by omega),if_neg (by omega),if_pos (by omega),if_neg (by assumption)];exact L8 (rvs:=[.cell 6 CB]) (vs:=[_]) ⟨2,_,_,rfl,rfl,inferInstance,rfl,rfl,trivial⟩ rfl rfl (C2 (U1 6 _ rfl (k7 1 0 0 0 0)) (A6 h0)) rfl)
   |(rw[if_neg (by omega),if_neg (by omega),if_neg (by omega),if_neg (by omega),if_neg (by omega),if_pos (by omega),if_neg (by rw[h];exact Bool.false_ne_true)];exact L8 (rvs:=[.cell 6 CB]) (vs:=[_]) ⟨2,_,_,rfl,rfl,inferInstance,rfl,rfl,trivial⟩ rfl rfl (C2 (U1 6 _ rfl (k7 1 0 0 0 0)) (A6 h0)) rfl)
   |(rw[if_neg (by omega),if_neg (by omega),if_neg (by omega),if_neg (by omega),if_neg (by omega),if_neg (by omega)];exact L8 (rvs:=[.cell 6 CB]) (vs:=[_]) ⟨2,_,_,rfl,rfl,inferInstance,rfl,rfl,trivial⟩ rfl rfl (C2 (U1 6 _ rfl (k7 1 0 0 0 0)) (A6 h0)) rfl)
end Go.Proofs.YtjkbhaaobhgkdabGreatDoor

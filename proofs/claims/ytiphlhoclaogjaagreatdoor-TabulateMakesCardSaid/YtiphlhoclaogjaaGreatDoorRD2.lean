/- Draws: what drawn rows are like. Draws: columns of a kind; boxes that say the same with empty rows for nothing laid. -/
import Derived.Test.YtiphlhoclaogjaaGreatDoorRB13
import Derived.Test.YtiphlhoclaogjaaGreatDoorRB12
import Derived.Test.YtiphlhoclaogjaaGreatDoorRB5
import Derived.Test.YtiphlhoclaogjaaGreatDoorRCd1
import Derived.Test.YtiphlhoclaogjaaGreatDoorRC1
import Derived.Test.YtiphlhoclaogjaaGreatDoorRC3
import Derived.Test.YtiphlhoclaogjaaGreatDoorRSx
set_option linter.unusedVariables false
set_option linter.unnecessarySimpa false
set_option linter.unusedSimpArgs false
set_option maxHeartbeats 64000000
namespace Go.Proofs.YtiphlhoclaogjaaGreatDoor
open Go Go.Av
attribute [local irreducible] C9 B3 C7 D1 DQ D0 C6 St.le A3 B7
set_option maxRecDepth 100000
theorem o4.bd{s:A4}(h:D9 s){i:Nat}{c:D4}(hc:s.cols[i]?=some c){v:Int}(hv:o4 s c v):-1099511627776≤v∧v≤100:=by
 rcases hv with ⟨_,h1⟩|⟨hk,n,rfl,hn⟩|⟨hk,h1⟩
 ·omega
 ·rcases h.col hc with ⟨_,rfl⟩|⟨_,ph⟩|⟨_,nm,hm⟩
  ·cases hk
  ·obtain⟨hf,pX,mL⟩:=h.lst ph
   rw[Cm pX,Gk pX]at hn
   have:=(Dt hf).mem n hn
   omega
  ·have:=hm.kind;omega
 ·rcases h.col hc with ⟨_,rfl⟩|⟨_,rfl|rfl⟩|⟨_,nm,hm⟩
  ·cases hk
  ·cases hk
  ·cases hk
  ·have:=hm.low
   have:=hm.high
   rcases h1 with h1|h1<;>omega
theorem NV{s:A4}(hd:D9 s)(l:List UInt8):∀(n k:Nat) (x:List Int×Nat),k+n≤s.cols.length→(∀y∈x.1,-1099511627776≤y∧y≤100)→(rowFrom l s k x n).1.length=x.1.length+n∧∀y∈(rowFrom l s k x n).1,-1099511627776≤y∧y≤100
 |0,k,x,_,h=>⟨rfl,h⟩
 |n+1,k,x,hk,h=>by
  have hc:s.cols[k]?=some (s.cols[k]'(by omega)):=List.getElem?_eq_getElem (by omega)
  obtain⟨h1,h2⟩:=NV hd l n (k+1) (x.1++[(u5 l x.2 s k).1],(u5 l x.2 s k).2) (by omega) (fun y hy=>by
   rcases List.mem_append.1 hy with hy|hy
   ·exact h y hy
   ·simp only[List.mem_singleton]at hy
    subst hy
    exact o4.bd hd hc (WG hd l x.2 hc))
  rw[rowFrom]
  refine⟨?_,h2⟩
  rw[h1,List.length_append,List.length_singleton]
  omega
theorem gZ{s:A4}(hd:D9 s)(l:List UInt8)(a:Nat):(k5 l a s).1.length=s.cols.length∧∀y∈(k5 l a s).1,-1099511627776≤y∧y≤100:=by
 have:=NV hd l s.cols.length 0 ([],a) (by omega) (fun y hy=>by cases hy)
 unfold k5
 simpa using this
theorem aP{E:Env}{n:Nat}{σ:St}(i:Nat){l:List AV}(l':List AV)(hb:A5 σ.hp i=some (.box l))(hn:FI l l'):St.le E n σ (σ.set i (.box l')):=by
 unfold St.le
 rintro a w ⟨θ,h⟩
 obtain⟨mL,mI⟩:=hn.get
 obtain⟨_,b,mu,ty,h1,h2,h3,h4⟩:=h.owns i _ hb
 have ht:=h.turn (v':=θ i) (b':=.box l') (w':=w) hb rfl rfl rfl (Nat.le_refl _) (fun _ _ _=>rfl) (fun k hk=>.inl hk) rfl fun le=>?_
 ·exact⟨_,ht⟩
 ·refine⟨b,mu,ty,by simp only[cx,F1];exact h1,h2,by omega,fun j x y hx hy=>?_⟩
  obtain⟨x0,oU⟩:=P3 mL hx
  exact Mo (mI j x0 x oU hx) ((h4 j x0 y oU hy).mono le)
def J3(s:A4)(kind:Int)(k:Nat):List Nat:=(List.range k).filter fun i=>decide ((B8 s i).kind=kind)
theorem Hf(s:A4)(kind:Int)(k:Nat):(J3 s kind k).length≤k:=by
 have:=List.length_filter_le (fun i:Nat=>decide ((B8 s i).kind=kind)) (List.range k)
 simpa [J3]using this
theorem QG{s:A4}{kind:Int}{k:Nat}(h:(B8 s k).kind=kind):J3 s kind (k+1)=J3 s kind k++[k]:=by
 simp[J3,List.range_succ,List.filter_append,h]
theorem TM{s:A4}{kind:Int}{k:Nat}(h:¬(B8 s k).kind=kind):J3 s kind (k+1)=J3 s kind k:=by
 simp[J3,List.range_succ,List.filter_append,h]
theorem Fn{s:A4}{kind:Int}{i:Nat}:i∈J3 s kind s.cols.length↔i<s.cols.length∧(B8 s i).kind=kind:=by
 unfold J3
 rw[List.mem_filter,List.mem_range,decide_eq_true_eq]
theorem FJ(s:A4)(kind:Int)(mL:s.cols.length≤1000):A3 Tryz.prog 65 [sA s,.i kind] (.sl 1 ((J3 s kind s.cols.length).map iA)):=by
 refine B5 Tryz.func65 27 fun mK E h0=>?_
 clear mK
 repeat'((first|refine S2 ?_|(refine T6 ?_ ?_<;>intro h<;>try exact V1 h)|intro el mI mJ|intro el mI|exact T4|refine T5 ?_ ?_|intro ex)<;>try conv=>whnf)
 refine A9 (ι:=Nat) (fun k=>⟨[(1,.i kind),(2,.ref 0 0),(5,.row 1 0 (J3 s kind k).length),(9,.i s.cols.length),(10,.i k)],2,[(0,some (.box (sL s))),(1,some (.row 3 1 0 ((J3 s kind k).map iA)))]⟩) (fun k=>k≤s.cols.length) (fun k=>s.cols.length-k) 0 (Nat.zero_le _)
  (B9 (H7 (d:=5) (e:=3) (sz:=1) rfl) (A7 h0 rfl ⟨rfl,rfl,rfl,rfl,rfl,trivial⟩ ⟨rfl,⟨0,rfl⟩,trivial⟩ rfl rfl rfl)) (fun k hk=>?_)
 have rQ:=Hf s kind k
 have mX:∀el,s.cols[k]?=some el→B8 s k=el:=fun el h=>C1 (by simpa using h)
 repeat'((first|refine S2 ?_|(refine T6 ?_ ?_<;>intro h<;>try exact V1 h)|intro el mI mJ|intro el mI|exact T4|refine T5 ?_ ?_|intro ex)<;>try conv=>whnf)
 all_goals first
  |(have hy:(B8 s k).kind=kind:=by rw[mX _ mI];assumption
    exact⟨k+1,by omega,by omega,A7 h0 rfl ⟨rfl,rfl,congrArg (fun z:Nat=>some (AV.row 1 0 z)) (by rw[QG hy,List.length_append];rfl),rfl,rfl,trivial⟩ ⟨rfl,⟨_,congrArg (C4.row 3 1 _) (by rw[QG hy,List.map_append];rfl)⟩,trivial⟩ rfl rfl rfl⟩)
  |(have hy:¬(B8 s k).kind=kind:=by rw[mX _ mI];assumption
    exact⟨k+1,by omega,by omega,A7 h0 rfl ⟨rfl,rfl,congrArg (fun z:Nat=>some (AV.row 1 0 z)) (by rw[TM hy]),rfl,rfl,trivial⟩ ⟨rfl,⟨_,congrArg (fun z=>C4.row 3 1 0 (z.map iA)) (TM hy)⟩,trivial⟩ rfl rfl rfl⟩)
  |exact A1 rfl (congrArg (fun z=>AV.sl 1 ((J3 s kind z).map iA)) (by omega))
def a9(l:List UInt8)(a:Nat)(s:A4)(kind:Int):Nat×Nat:=((J3 s kind s.cols.length).getD (C0 l a (J3 s kind s.cols.length).length).1 0,(C0 l a (J3 s kind s.cols.length).length).2)
theorem Ej{l:List UInt8}{a:Nat}{s:A4}{kind:Int}(h:1≤(J3 s kind s.cols.length).length):(J3 s kind s.cols.length)[(C0 l a (J3 s kind s.cols.length).length).1]?=some (a9 l a s kind).1∧(a9 l a s kind).1<s.cols.length∧(B8 s (a9 l a s kind).1).kind=kind:=by
 have hn:=I2 l a (n:=(J3 s kind s.cols.length).length) (by omega)
 have mM:(C0 l a (J3 s kind s.cols.length).length).1<(J3 s kind s.cols.length).length:=by omega
 have e:(J3 s kind s.cols.length)[(C0 l a (J3 s kind s.cols.length).length).1]?=some (a9 l a s kind).1:=by
  unfold a9
  dsimp only
  rw[List.getD_eq_getElem?_getD,List.getElem?_eq_getElem mM]
  rfl
 exact⟨e,Fn.1 (List.mem_of_getElem? e)⟩
theorem D9.two{s:A4}(h:D9 s):1≤(J3 s 2 s.cols.length).length∧1≤(J3 s 3 s.cols.length).length:=by
 have hl:=h.lens
 obtain⟨b,ms,h1,h2,h3,h4⟩:=h.cs
 have m2:1∈J3 s 2 s.cols.length:=by
  refine Fn.2 ⟨by omega,?_⟩
  have:s.cols[1]?=some JK:=by rw[h1];cases b<;>rfl
  rw[show B8 s ((1:Nat):Int)=JK from C1 (by simpa using this)]
  rfl
 have m3:(V5 b).length∈J3 s 3 s.cols.length:=by
  have hm:ms[0]?=some (ms[0]'(by omega)):=List.getElem?_eq_getElem (by omega)
  have hc:s.cols[(V5 b).length]?=some (ms[0]'(by omega)):=by rw[h1,List.getElem?_append_right (Nat.le_refl _),Nat.sub_self];exact hm
  refine Fn.2 ⟨F0 hc,?_⟩
  rw[show B8 s (((V5 b).length:Nat):Int)=_ from C1 (by simpa using hc)]
  exact(h4 0 _ hm).kind
 exact⟨List.length_pos_of_mem m2,List.length_pos_of_mem m3⟩
theorem NW(l:List UInt8)(a:Nat)(s:A4)(hd:D9 s)(hl:l.length≤400):B7 Tryz.prog 63 1 (U4 l a) [.ref 0 0,sA s] 1 (U4 l (a9 l a s 2).2) (.i (a9 l a s 2).1):=by
 have hc:=FJ s 2 (by have:=hd.lens;omega)
 have hn:=I5 l a (J3 s 2 s.cols.length).length hl
 have hk:=(Ej (l:=l) (a:=a) hd.two.1).1
 have nT:=Hf s 2 s.cols.length
 have qV:=hd.lens
 refine Y6 Tryz.func63 15 fun E h0=>?_
 repeat'((first|refine A0 hc ?_|refine⟨F7 [0] [0] hn rfl rfl rfl rfl rfl ⟨rfl,trivial⟩ rfl rfl rfl rfl rfl ?_⟩|(refine A2 hk (by omega) ?_) |refine S2 ?_|(refine T6 ?_ ?_<;>intro h<;>try exact V1 h)|intro el mI mJ|intro el mI|exact T4|refine T5 ?_ ?_|intro ex)<;>try conv=>whnf)
 all_goals exact H4 (A6 h0)
theorem EB(l:List UInt8)(a:Nat)(s:A4)(hd:D9 s)(hl:l.length≤400):B7 Tryz.prog 22 1 (U4 l a) [.ref 0 0,sA s] 1 (U4 l (a9 l a s 3).2) (.i (a9 l a s 3).1):=by
 have hc:=FJ s 3 (by have:=hd.lens;omega)
 have hn:=I5 l a (J3 s 3 s.cols.length).length hl
 have hk:=(Ej (l:=l) (a:=a) hd.two.2).1
 have nT:=Hf s 3 s.cols.length
 have qV:=hd.lens
 refine Y6 Tryz.func22 15 fun E h0=>?_
 repeat'((first|refine A0 hc ?_|refine⟨F7 [0] [0] hn rfl rfl rfl rfl rfl ⟨rfl,trivial⟩ rfl rfl rfl rfl rfl ?_⟩|(refine A2 hk (by omega) ?_) |refine S2 ?_|(refine T6 ?_ ?_<;>intro h<;>try exact V1 h)|intro el mI mJ|intro el mI|exact T4|refine T5 ?_ ?_|intro ex)<;>try conv=>whnf)
 all_goals exact H4 (A6 h0)
theorem U0{E:Env}{n:Nat}{σ:St}(d:Nat){x:AV}(y:AV)(hd:Av.look σ.sl d=some x)(hn:NL x y):St.le E n σ (σ.put d y):=by
 unfold St.le
 rintro a w ⟨θ,h⟩
 refine⟨θ,h.size,h.defers,h.fr,fun s z hs=>?_,h.owns,h.apart,h.mine,h.X,h.base⟩
 simp only[St.put,E9]at hs
 by_cases e:d=s
 ·subst e
  rw[if_pos rfl]at hs
  cases hs
  exact Mo hn (h.slots d x hd)
 ·rw[if_neg e]at hs
  exact h.slots s z hs
def KG(l:List UInt8)(s:A4)(a:Nat):B6×Nat :=
 let q:=C0 l a 5
 if (q.1:Int)=1 then
  let k:=a9 l q.2 s 2
  let n:=C0 l k.2 (C2 s (B8 s k.1)).2.length
  (.mk 2 k.1 n.1 0 0 [],n.2)
 else if (q.1:Int)=2∨(q.1:Int)=3 then
  let k:=a9 l q.2 s 3
  let r:=C0 l k.2 44
  let h:=C0 l r.2 30
  (.mk 3 k.1 0 ((B8 s k.1).low+(-3+r.1)) ((B8 s k.1).low+(-3+r.1)+h.1) [],h.2)
 else if (q.1:Int)=4 then
  let k:=a9 l q.2 s 3
  (if (B8 s k.1).opt=true then .mk 4 k.1 0 0 0 []else .mk 1 0 0 0 0 [],k.2)
 else (.mk 1 0 0 0 0 [],q.2)
def Aa(l:List UInt8)(s:A4):Nat→Nat→B6×Nat
 |0,a=>KG l s a
 |d+1,a =>
  let q:=C0 l a 5
  if (q.1:Int)=2 then
   let x:=Aa l s d q.2
   (.mk 7 0 0 0 0 [x.1],x.2)
  else if (q.1:Int)=3 then
   let x:=Aa l s d q.2
   let y:=Aa l s d x.2
   (.mk 5 0 0 0 0 [x.1,y.1],y.2)
  else if (q.1:Int)=4 then
   let x:=Aa l s d q.2
   let y:=Aa l s d x.2
   (.mk 6 0 0 0 0 [x.1,y.1],y.2)
  else KG l s q.2
theorem l8(o c k lo hi:Int):NL (.agg [.i o,.i c,.i k,.i lo,.i hi,.v (.slice none 0 0)]) (D5 (.mk o c k lo hi [])) :=
 Bb ⟨.refl _,.refl _,.refl _,.refl _,.refl _,.nil 6,trivial⟩
theorem jm(o:Int)(x:B6):NL (.agg [.i o,.i 0,.i 0,.i 0,.i 0,.sl 6 [I8 x]]) (D5 (.mk o 0 0 0 0 [x])):=by
 rw[←Gh];exact .refl _
theorem aQ(o:Int)(x y:B6):NL (.agg [.i o,.i 0,.i 0,.i 0,.i 0,.sl 6 [I8 x,I8 y]]) (D5 (.mk o 0 0 0 0 [x,y])):=by
 rw[←Gh,←Gh];exact .refl _
abbrev Bu:Nat:=29
theorem aR(l:List UInt8)(s:A4)(hd:D9 s)(hl:l.length≤400)(d:Nat):∀a:Nat,d≤10→B7 Tryz.prog 21 1 (U4 l a) [.ref 0 0,sA s,.i d] 1 (U4 l (Aa l s d a).2) (D5 (Aa l s d a).1):=by
 induction d with
 |zero =>
  intro a _
  show B7 _ _ _ _ _ _ (U4 l (KG l s a).2) (D5 (KG l s a).1)
  unfold KG
  have r1:=I5 l a 5 hl
  have h5:=I2 l a (n:=5) (by omega)
  generalize C0 l a 5=q at *
  obtain⟨q1,q2⟩:=q
  dsimp only at r1 h5 ⊢
  have r2:=NW l q2 s hd hl
  obtain⟨_,k1,k2⟩:=Ej (l:=l) (a:=q2) hd.two.1
  generalize a9 l q2 s 2=k at *
  obtain⟨ka,kb⟩:=k
  dsimp only at r2 k1 k2 ⊢
  obtain⟨c,hc⟩:∃c,s.cols[ka]?=some c:=⟨_,List.getElem?_eq_getElem k1⟩
  have mX:B8 s ka=c:=C1 (by simpa using hc)
  rw[mX]at k2 ⊢
  obtain⟨oJ,_⟩:=hd.lvs hc k2
  obtain⟨lx,nA⟩:∃lx,s.lists[c.lst.toNat]?=some lx:=⟨_,List.getElem?_eq_getElem (by omega)⟩
  rw[H6 nA]
  have r3:=I5 l kb lx.2.length hl
  have r4:=EB l q2 s hd hl
  obtain⟨_,m1,m2⟩:=Ej (l:=l) (a:=q2) hd.two.2
  generalize a9 l q2 s 3=m at *
  obtain⟨ma,mb⟩:=m
  dsimp only at r4 m1 m2 ⊢
  obtain⟨x,hx⟩:∃x,s.cols[ma]?=some x:=⟨_,List.getElem?_eq_getElem m1⟩
  have vS:B8 s ma=x:=C1 (by simpa using hx)
  rw[vS]at m2 ⊢
  have hxb:-4≤x.low∧x.low≤2:=by
   rcases hd.col hx with ⟨_,rfl⟩|⟨_,rfl|rfl⟩|⟨_,nm,hm⟩
   ·cases m2
   ·cases m2
   ·cases m2
   ·exact hm.low
  have r5:=n6 l mb (-3) 40 hl (by omega) (by omega) (by omega)
  rw[show (40:Int) - -3+1=44 from rfl]at r5
  have yY:=I2 l mb (n:=44) (by omega)
  generalize C0 l mb 44=r at *
  obtain⟨ra,rb⟩:=r
  dsimp only at r5 yY ⊢
  have r6:=I5 l rb 30 hl
  have zI:=I2 l rb (n:=30) (by omega)
  generalize C0 l rb 30=u at *
  obtain⟨ua,ub⟩:=u
  generalize C0 l kb lx.2.length=v at *
  obtain⟨va,vb⟩:=v
  dsimp only at r3 r6 zI ⊢
  refine Y6 Tryz.func21 111 fun E h0=>?_
  repeat'((first|refine⟨F7 [0] [0] r1 rfl rfl rfl rfl rfl ⟨rfl,trivial⟩ rfl rfl rfl rfl rfl ?_⟩|refine⟨F7 [0] [0] r2 rfl rfl rfl rfl rfl ⟨rfl,trivial⟩ rfl rfl rfl rfl rfl ?_⟩|refine⟨F7 [0] [0] r3 rfl rfl rfl rfl rfl ⟨rfl,trivial⟩ rfl rfl rfl rfl rfl ?_⟩|refine⟨F7 [0] [0] r4 rfl rfl rfl rfl rfl ⟨rfl,trivial⟩ rfl rfl rfl rfl rfl ?_⟩|refine⟨F7 [0] [0] r5 rfl rfl rfl rfl rfl ⟨rfl,trivial⟩ rfl rfl rfl rfl rfl ?_⟩|refine⟨F7 [0] [0] r6 rfl rfl rfl rfl rfl ⟨rfl,trivial⟩ rfl rfl rfl rfl rfl ?_⟩|(refine A2 (x:=c) hc (by omega) ?_)|(refine A2 (x:=lx) nA (by omega) ?_)|(refine A2 (x:=x) hx (by omega) ?_)|(refine E6 12 ?_;refine F3 (id:=12) ⟨[(6,.ref 2 0)],3,[(0,some (.box [.sl 1 (l.map O3),.i vb])),(2,some (.box [.i 2,.i ka,.i va,.i 0,.i 0,.v (.slice none 0 0)]))]⟩ ?_ ?_)|(refine E6 16 ?_;refine F3 (id:=16) ⟨[(0,.ref 0 0),(4,.ref 1 0),(6,.ref 2 0),(8,.i ma),(9,.i (x.low+(-3+ra)))],3,[(0,some (.box [.sl 1 (l.map O3),.i rb])),(1,some (.box (sL s))),(2,some (.box [.i 0,.i 0,.i 0,.i 0,.i 0,.v (.slice none 0 0)]))]⟩ ?_ ?_) |refine S2 ?_|(refine T6 ?_ ?_<;>intro h<;>try exact V1 h)|intro el mI mJ|intro el mI|exact T4|refine T5 ?_ ?_|intro ex)<;>try conv=>whnf)
  all_goals first
   |exact A6 h0
   |exact A6 h0
   |(rw[if_pos (by assumption)];exact L9 (rvs:=[.cell 6 Bu]) (vs:=[_]) ⟨2,_,_,rfl,rfl,inferInstance,rfl,rfl,trivial⟩ rfl rfl (B9 (U0 6 _ rfl (l8 2 ka va 0 0)) (A6 h0)) rfl)
   |(rw[if_neg (by omega),if_pos (by omega)];exact L9 (rvs:=[.cell 6 Bu]) (vs:=[_]) ⟨2,_,_,rfl,rfl,inferInstance,rfl,rfl,trivial⟩ rfl rfl (B9 (U0 6 _ rfl (l8 3 ma 0 (x.low+(-3+ra)) (x.low+(-3+ra)+ua))) (A6 h0)) rfl)
   |(rw[if_neg (by omega),if_neg (by omega),if_pos (by omega),if_pos (by assumption)];exact L9 (rvs:=[.cell 6 Bu]) (vs:=[_]) ⟨2,_,_,rfl,rfl,inferInstance,rfl,rfl,trivial⟩ rfl rfl (B9 (U0 6 _ rfl (l8 4 ma 0 0 0)) (A6 h0)) rfl)
   |(rw[if_neg (by omega),if_neg (by omega),if_pos (by omega),if_neg (by assumption)];exact L9 (rvs:=[.cell 6 Bu]) (vs:=[_]) ⟨2,_,_,rfl,rfl,inferInstance,rfl,rfl,trivial⟩ rfl rfl (B9 (U0 6 _ rfl (l8 1 0 0 0 0)) (A6 h0)) rfl)
   |(rw[if_neg (by omega),if_neg (by omega),if_pos (by omega),if_neg (by rw[h];exact Bool.false_ne_true)];exact L9 (rvs:=[.cell 6 Bu]) (vs:=[_]) ⟨2,_,_,rfl,rfl,inferInstance,rfl,rfl,trivial⟩ rfl rfl (B9 (U0 6 _ rfl (l8 1 0 0 0 0)) (A6 h0)) rfl)
   |(rw[if_neg (by omega),if_neg (by omega),if_neg (by omega)];exact L9 (rvs:=[.cell 6 Bu]) (vs:=[_]) ⟨2,_,_,rfl,rfl,inferInstance,rfl,rfl,trivial⟩ rfl rfl (B9 (U0 6 _ rfl (l8 1 0 0 0 0)) (A6 h0)) rfl)
 |succ d ih =>
  intro a hd10
  have e1:(((d+1:Nat):Int)-1)=(d:Int):=by omega
  unfold Aa KG
  have r0:=I5 l a 5 hl
  have g5:=I2 l a (n:=5) (by omega)
  generalize C0 l a 5=p at *
  obtain⟨p1,p2⟩:=p
  dsimp only at r0 g5 ⊢
  have hX:=ih p2 (by omega)
  rw[←e1]at hX
  generalize Aa l s d p2=X at *
  obtain⟨X1,X2⟩:=X
  dsimp only at hX ⊢
  have hY:=ih X2 (by omega)
  rw[←e1]at hY
  generalize Aa l s d X2=Y at *
  obtain⟨Y1,Y2⟩:=Y
  dsimp only at hY ⊢
  have r1:=I5 l p2 5 hl
  have h5:=I2 l a (n:=5) (by omega)
  generalize C0 l p2 5=q at *
  obtain⟨q1,q2⟩:=q
  dsimp only at r1 h5 ⊢
  have r2:=NW l q2 s hd hl
  obtain⟨_,k1,k2⟩:=Ej (l:=l) (a:=q2) hd.two.1
  generalize a9 l q2 s 2=k at *
  obtain⟨ka,kb⟩:=k
  dsimp only at r2 k1 k2 ⊢
  obtain⟨c,hc⟩:∃c,s.cols[ka]?=some c:=⟨_,List.getElem?_eq_getElem k1⟩
  have mX:B8 s ka=c:=C1 (by simpa using hc)
  rw[mX]at k2 ⊢
  obtain⟨oJ,_⟩:=hd.lvs hc k2
  obtain⟨lx,nA⟩:∃lx,s.lists[c.lst.toNat]?=some lx:=⟨_,List.getElem?_eq_getElem (by omega)⟩
  rw[H6 nA]
  have r3:=I5 l kb lx.2.length hl
  have r4:=EB l q2 s hd hl
  obtain⟨_,m1,m2⟩:=Ej (l:=l) (a:=q2) hd.two.2
  generalize a9 l q2 s 3=m at *
  obtain⟨ma,mb⟩:=m
  dsimp only at r4 m1 m2 ⊢
  obtain⟨x,hx⟩:∃x,s.cols[ma]?=some x:=⟨_,List.getElem?_eq_getElem m1⟩
  have vS:B8 s ma=x:=C1 (by simpa using hx)
  rw[vS]at m2 ⊢
  have hxb:-4≤x.low∧x.low≤2:=by
   rcases hd.col hx with ⟨_,rfl⟩|⟨_,rfl|rfl⟩|⟨_,nm,hm⟩
   ·cases m2
   ·cases m2
   ·cases m2
   ·exact hm.low
  have r5:=n6 l mb (-3) 40 hl (by omega) (by omega) (by omega)
  rw[show (40:Int) - -3+1=44 from rfl]at r5
  have yY:=I2 l mb (n:=44) (by omega)
  generalize C0 l mb 44=r at *
  obtain⟨ra,rb⟩:=r
  dsimp only at r5 yY ⊢
  have r6:=I5 l rb 30 hl
  have zI:=I2 l rb (n:=30) (by omega)
  generalize C0 l rb 30=u at *
  obtain⟨ua,ub⟩:=u
  generalize C0 l kb lx.2.length=v at *
  obtain⟨va,vb⟩:=v
  dsimp only at r3 r6 zI ⊢
  clear ih e1
  refine Y6 Tryz.func21 111 fun E h0=>?_
  repeat'((first|refine⟨F7 [0] [0] r0 rfl rfl rfl rfl rfl ⟨rfl,trivial⟩ rfl rfl rfl rfl rfl ?_⟩|refine⟨F7 [0] [0] hX rfl rfl rfl rfl rfl ⟨rfl,trivial⟩ rfl rfl rfl rfl rfl ?_⟩|refine⟨F7 [0] [0] hY rfl rfl rfl rfl rfl ⟨rfl,trivial⟩ rfl rfl rfl rfl rfl ?_⟩|(refine E6 6 ?_;refine F3 (id:=6) ⟨[(6,.ref 2 0)],3,[(0,some (.box [.sl 1 (l.map O3),.i Y2])),(2,some (.box [.i 5,.i 0,.i 0,.i 0,.i 0,.sl 6 [I8 X1,I8 Y1]]))]⟩ ?_ ?_)|(refine E6 8 ?_;refine F3 (id:=8) ⟨[(6,.ref 2 0)],3,[(0,some (.box [.sl 1 (l.map O3),.i Y2])),(2,some (.box [.i 6,.i 0,.i 0,.i 0,.i 0,.sl 6 [I8 X1,I8 Y1]]))]⟩ ?_ ?_)|refine⟨F7 [0] [0] r1 rfl rfl rfl rfl rfl ⟨rfl,trivial⟩ rfl rfl rfl rfl rfl ?_⟩|refine⟨F7 [0] [0] r2 rfl rfl rfl rfl rfl ⟨rfl,trivial⟩ rfl rfl rfl rfl rfl ?_⟩|refine⟨F7 [0] [0] r3 rfl rfl rfl rfl rfl ⟨rfl,trivial⟩ rfl rfl rfl rfl rfl ?_⟩|refine⟨F7 [0] [0] r4 rfl rfl rfl rfl rfl ⟨rfl,trivial⟩ rfl rfl rfl rfl rfl ?_⟩|refine⟨F7 [0] [0] r5 rfl rfl rfl rfl rfl ⟨rfl,trivial⟩ rfl rfl rfl rfl rfl ?_⟩|refine⟨F7 [0] [0] r6 rfl rfl rfl rfl rfl ⟨rfl,trivial⟩ rfl rfl rfl rfl rfl ?_⟩|(refine A2 (x:=c) hc (by omega) ?_)|(refine A2 (x:=lx) nA (by omega) ?_)|(refine A2 (x:=x) hx (by omega) ?_)|(refine E6 12 ?_;refine F3 (id:=12) ⟨[(6,.ref 2 0)],3,[(0,some (.box [.sl 1 (l.map O3),.i vb])),(2,some (.box [.i 2,.i ka,.i va,.i 0,.i 0,.v (.slice none 0 0)]))]⟩ ?_ ?_)|(refine E6 16 ?_;refine F3 (id:=16) ⟨[(0,.ref 0 0),(4,.ref 1 0),(6,.ref 2 0),(8,.i ma),(9,.i (x.low+(-3+ra)))],3,[(0,some (.box [.sl 1 (l.map O3),.i rb])),(1,some (.box (sL s))),(2,some (.box [.i 0,.i 0,.i 0,.i 0,.i 0,.v (.slice none 0 0)]))]⟩ ?_ ?_) |refine S2 ?_|(refine T6 ?_ ?_<;>intro h<;>try exact V1 h)|intro el mI mJ|intro el mI|exact T4|refine T5 ?_ ?_|intro ex)<;>try conv=>whnf)
  all_goals first
   |(rw[if_pos (by assumption)];exact L9 (rvs:=[.cell 6 Bu]) (vs:=[_]) ⟨2,_,_,rfl,rfl,inferInstance,rfl,rfl,trivial⟩ rfl rfl (B9 (U0 6 _ rfl (jm 7 X1)) (A6 h0)) rfl)
   |(rw[if_neg (by omega),if_pos (by assumption)];exact L9 (rvs:=[.cell 6 Bu]) (vs:=[_]) ⟨2,_,_,rfl,rfl,inferInstance,rfl,rfl,trivial⟩ rfl rfl (B9 (U0 6 _ rfl (aQ 5 X1 Y1)) (A6 h0)) rfl)
   |(rw[if_neg (by omega),if_neg (by omega),if_pos (by assumption)];exact L9 (rvs:=[.cell 6 Bu]) (vs:=[_]) ⟨2,_,_,rfl,rfl,inferInstance,rfl,rfl,trivial⟩ rfl rfl (B9 (U0 6 _ rfl (aQ 6 X1 Y1)) (A6 h0)) rfl)
   |exact A6 h0
   |exact A6 h0
   |(rw[if_neg (by omega),if_neg (by omega),if_neg (by omega),if_pos (by assumption)];exact L9 (rvs:=[.cell 6 Bu]) (vs:=[_]) ⟨2,_,_,rfl,rfl,inferInstance,rfl,rfl,trivial⟩ rfl rfl (B9 (U0 6 _ rfl (l8 2 ka va 0 0)) (A6 h0)) rfl)
   |(rw[if_neg (by omega),if_neg (by omega),if_neg (by omega),if_neg (by omega),if_pos (by omega)];exact L9 (rvs:=[.cell 6 Bu]) (vs:=[_]) ⟨2,_,_,rfl,rfl,inferInstance,rfl,rfl,trivial⟩ rfl rfl (B9 (U0 6 _ rfl (l8 3 ma 0 (x.low+(-3+ra)) (x.low+(-3+ra)+ua))) (A6 h0)) rfl)
   |(rw[if_neg (by omega),if_neg (by omega),if_neg (by omega),if_neg (by omega),if_neg (by omega),if_pos (by omega),if_pos (by assumption)];exact L9 (rvs:=[.cell 6 Bu]) (vs:=[_]) ⟨2,_,_,rfl,rfl,inferInstance,rfl,rfl,trivial⟩ rfl rfl (B9 (U0 6 _ rfl (l8 4 ma 0 0 0)) (A6 h0)) rfl)
   |(rw[if_neg (by omega),if_neg (by omega),if_neg (by omega),if_neg (by omega),if_neg (by omega),if_pos (by omega),if_neg (by assumption)];exact L9 (rvs:=[.cell 6 Bu]) (vs:=[_]) ⟨2,_,_,rfl,rfl,inferInstance,rfl,rfl,trivial⟩ rfl rfl (B9 (U0 6 _ rfl (l8 1 0 0 0 0)) (A6 h0)) rfl)
   |(rw[if_neg (by omega),if_neg (by omega),if_neg (by omega),if_neg (by omega),if_neg (by omega),if_pos (by omega),if_neg (by rw[h];exact Bool.false_ne_true)];exact L9 (rvs:=[.cell 6 Bu]) (vs:=[_]) ⟨2,_,_,rfl,rfl,inferInstance,rfl,rfl,trivial⟩ rfl rfl (B9 (U0 6 _ rfl (l8 1 0 0 0 0)) (A6 h0)) rfl)
   |(rw[if_neg (by omega),if_neg (by omega),if_neg (by omega),if_neg (by omega),if_neg (by omega),if_neg (by omega)];exact L9 (rvs:=[.cell 6 Bu]) (vs:=[_]) ⟨2,_,_,rfl,rfl,inferInstance,rfl,rfl,trivial⟩ rfl rfl (B9 (U0 6 _ rfl (l8 1 0 0 0 0)) (A6 h0)) rfl)
theorem Bc(s:A4)(c:B6):(I1 s c).length≤s.cols.length:=by
 unfold I1
 split
 ·exact r8 _ _ _
 ·simp
def d9(f:Nat→Int)(v:Int):List Nat→Int×Bool
 |[]=>(0,false)
 |x::r=>if f x=v then ((x:Int),true)else d9 f v r
theorem Hg{f:Nat→Int}{v:Int}:∀{l:List Nat},((d9 f v l).2=true∧∃x∈l,f x=v∧(d9 f v l).1=x)∨(d9 f v l=(0,false)∧∀x∈l,f x≠v)
 |[]=>.inr ⟨rfl,fun x h=>by cases h⟩
 |x::r=>by
  unfold d9
  by_cases e:f x=v
  ·rw[if_pos e];exact .inl ⟨rfl,x,List.mem_cons_self ..,e,rfl⟩
  ·rw[if_neg e]
   rcases Hg (f:=f) (v:=v) (l:=r)with ⟨h1,y,hy,h2,h3⟩|⟨h1,h2⟩
   ·exact .inl ⟨h1,y,List.mem_cons_of_mem _ hy,h2,h3⟩
   ·refine .inr ⟨h1,fun y hy=>?_⟩
    rcases List.mem_cons.1 hy with rfl|hy
    ·exact e
    ·exact h2 y hy
theorem Kr{f g:Nat→Int}{v:Int}:∀{l:List Nat},(∀x∈l,f x=g x)→d9 f v l=d9 g v l
 |[],_=>rfl
 |x::r,h=>by
  unfold d9
  rw[h x (by simp),Kr fun y hy=>h y (by simp[hy])]
def QH(s:A4)(column level:Int)(x:Nat):Int:=L1 (C2 s (B8 s column)).1 (C2 s (B8 s column)).2 x level
def M3(s:A4)(column level v:Int):Int×Bool :=
 if (B8 s column).kind=3 then (if 0<level∧v=(-1099511627776)then (v,(B8 s column).opt)else ((M1 (B8 s column) level v).1,(M1 (B8 s column) level v).2.2))
 else d9 (QH s column level) v (F9 s column)
theorem KH{s:A4}(hr:C3 s=0){column:Int}{c:D4}(h1:1≤column)(hc:s.cols[column.toNat]?=some c):(c.kind=2∨c.kind=3)∧(c.kind=3→meaE c=0):=by
 obtain⟨_,_,_,h4,_⟩:=D3 hr
 have h5:=(d6 (h4 _ _ hc)).2.2.1
 refine⟨?_,fun h=>v9 h5 h⟩
 rcases Kl h5 with h|h
 ·omega
 ·exact h
def M4(col:Int)(pv:List (Pk×Int)):Int×Int:=pv.foldl (fun z q=>if q.1.col=col then (q.1.lev,q.2)else z) (0,0)
theorem NX(col:Int)(l:List (Pk×Int))(q:Pk×Int):M4 col (l++[q])=if q.1.col=col then (q.1.lev,q.2)else M4 col l:=by
 unfold M4;rw[List.foldl_append];rfl
theorem TN(col:Int):∀(l:List (Pk×Int)),(M4 col l=(0,0)∧∀q∈l,q.1.col≠col)∨∃q∈l,q.1.col=col∧M4 col l=(q.1.lev,q.2):=by
 have key:∀(l:List (Pk×Int)) (z:Int×Int),(l.foldl (fun z q=>if q.1.col=col then (q.1.lev,q.2)else z) z=z∧∀q∈l,q.1.col≠col)∨∃q∈l,q.1.col=col∧l.foldl (fun z q=>if q.1.col=col then (q.1.lev,q.2)else z) z=(q.1.lev,q.2):=by
  intro l
  induction l with
  |nil=>exact fun z=>.inl ⟨rfl,fun q h=>by cases h⟩
  |cons a r ih =>
   intro z
   rw[List.foldl_cons]
   by_cases e:a.1.col=col
   ·rw[if_pos e]
    rcases ih (a.1.lev,a.2)with ⟨h1,h2⟩|⟨q,hq,h1,h2⟩
    ·exact .inr ⟨a,List.mem_cons_self ..,e,h1⟩
    ·exact .inr ⟨q,List.mem_cons_of_mem _ hq,h1,h2⟩
   ·rw[if_neg e]
    rcases ih z with ⟨h1,h2⟩|⟨q,hq,h1,h2⟩
    ·refine .inl ⟨h1,fun q hq=>?_⟩
     rcases List.mem_cons.1 hq with rfl|hq
     ·exact e
     ·exact h2 q hq
    ·exact .inr ⟨q,List.mem_cons_of_mem _ hq,h1,h2⟩
 exact fun l=>key l (0,0)
def y8(s:A4)(pv:List (Pk×Int))(i:Nat):Int:=if i=0∧(M4 i pv=(0,0))then 0 else (M3 s i (M4 i pv).1 (M4 i pv).2).1
def Xo(s:A4)(row:List Int):Prop:=row.length=s.cols.length∧∀(i:Nat) c,s.cols[i]?=some c→o4 s c (row.getD i 0)
theorem NY{s:A4}(hd:D9 s)(l:List UInt8):∀(n k:Nat) (x:List Int×Nat),k+n=s.cols.length→x.1.length=k→(∀(i:Nat) c,i<k→s.cols[i]?=some c→o4 s c (x.1.getD i 0))→Xo s (rowFrom l s k x n).1
 |0,k,x,hk,hl,h=>by
  refine⟨by show x.1.length=_;omega,fun i c hc=>h i c ?_ hc⟩
  have:=(List.getElem?_eq_some_iff.1 hc).1
  omega
 |n+1,k,x,hk,hl,h=>by
  obtain⟨c0,qM⟩:∃c,s.cols[k]?=some c:=⟨_,List.getElem?_eq_getElem (by omega)⟩
  refine NY hd l n (k+1) _ (by omega) (by simp[hl]) fun i c hi hc=>?_
  dsimp only
  by_cases e:i<k
  ·have:=h i c e hc
   rw[List.getD_eq_getElem?_getD]at this ⊢
   rw[List.getElem?_append_left (by omega)]
   exact this
  ·obtain rfl:i=k:=by omega
   rw[qM]at hc
   cases hc
   rw[List.getD_eq_getElem?_getD,List.getElem?_append_right (by omega),hl,Nat.sub_self]
   exact WG hd l x.2 qM
theorem WH{s:A4}(hd:D9 s)(l:List UInt8)(a:Nat):Xo s (k5 l a s).1 :=
 NY hd l s.cols.length 0 ([],a) (by omega) rfl fun i c hi=>absurd hi (Nat.not_lt_zero _)
theorem o4.hold{s:A4}{c:D4}{v:Int}(h:o4 s c v):BD s c v=true:=by
 unfold BD
 rcases h with ⟨hk,h1,h2⟩|⟨hk,n,rfl,hn⟩|⟨hk,h1⟩
 ·rw[if_pos hk];exact decide_eq_true (by omega)
 ·rw[if_neg (by omega),if_pos hk]
  obtain⟨g1,g2,g3⟩:=Oe hn
  have:=(HZ g1 g2).1 (by rw[←EU ⟨by omega,by omega,g1⟩];simpa using g3)
  rw[this,decide_eq_true (show (0:Int)≤n∧(n:Int)<(C2 s c).2.length by omega)]
  rfl
 ·rw[if_neg (by omega),if_neg (by omega)]
  rcases h1 with h1|h1
  ·rw[decide_eq_true h1];rfl
  ·rw[h1.1,h1.2];simp
end Go.Proofs.YtiphlhoclaogjaaGreatDoor

/- Draws: what drawn rows are like. Draws: columns of a kind; boxes that say the same with empty rows for nothing laid. -/
import Derived.Test.YtiphlhoclaogjaaGreatDoorJB13
import Derived.Test.YtiphlhoclaogjaaGreatDoorJB12
import Derived.Test.YtiphlhoclaogjaaGreatDoorJB5
import Derived.Test.YtiphlhoclaogjaaGreatDoorJCd1
import Derived.Test.YtiphlhoclaogjaaGreatDoorJC1
import Derived.Test.YtiphlhoclaogjaaGreatDoorJC3
import Derived.Test.YtiphlhoclaogjaaGreatDoorJSx
set_option linter.unusedVariables false
set_option linter.unnecessarySimpa false
set_option linter.unusedSimpArgs false
set_option maxHeartbeats 64000000
namespace Go.Proofs.YtiphlhoclaogjaaGreatDoor
open Go Go.Av
attribute [local irreducible] C9 B3 C8 D1 DQ D0 C7 St.le A3 B8
set_option maxRecDepth 100000
theorem u9.bd{s:A4}(h:E4 s){i:Nat}{c:D3}(hc:s.cols[i]?=some c){v:Int}(hv:u9 s c v):-1099511627776≤v∧v≤100:=by
 rcases hv with ⟨_,h1⟩|⟨hk,n,rfl,hn⟩|⟨hk,h1⟩
 ·omega
 ·rcases h.col hc with ⟨_,rfl⟩|⟨_,qf⟩|⟨_,nm,hm⟩
  ·cases hk
  ·obtain⟨hf,qZ,nM⟩:=h.lst qf
   rw[Df qZ,He qZ]at hn
   have:=(Ek hf).mem n hn
   omega
  ·have:=hm.kind;omega
 ·rcases h.col hc with ⟨_,rfl⟩|⟨_,rfl|rfl⟩|⟨_,nm,hm⟩
  ·cases hk
  ·cases hk
  ·cases hk
  ·have:=hm.low
   have:=hm.high
   rcases h1 with h1|h1<;>omega
theorem OU{s:A4}(hd:E4 s)(l:List UInt8):∀(n k:Nat) (x:List Int×Nat),k+n≤s.cols.length→(∀y∈x.1,-1099511627776≤y∧y≤100)→(rowFrom l s k x n).1.length=x.1.length+n∧∀y∈(rowFrom l s k x n).1,-1099511627776≤y∧y≤100
 |0,k,x,_,h=>⟨rfl,h⟩
 |n+1,k,x,hk,h=>by
  have hc:s.cols[k]?=some (s.cols[k]'(by omega)):=List.getElem?_eq_getElem (by omega)
  obtain⟨h1,h2⟩:=OU hd l n (k+1) (x.1++[(AM l x.2 s k).1],(AM l x.2 s k).2) (by omega) (fun y hy=>by
   rcases List.mem_append.1 hy with hy|hy
   ·exact h y hy
   ·simp only[List.mem_singleton]at hy
    subst hy
    exact u9.bd hd hc (Wy hd l x.2 hc))
  rw[rowFrom]
  refine⟨?_,h2⟩
  rw[h1,List.length_append,List.length_singleton]
  omega
theorem ik{s:A4}(hd:E4 s)(l:List UInt8)(a:Nat):(o7 l a s).1.length=s.cols.length∧∀y∈(o7 l a s).1,-1099511627776≤y∧y≤100:=by
 have:=OU hd l s.cols.length 0 ([],a) (by omega) (fun y hy=>by cases hy)
 unfold o7
 simpa using this
theorem bQ{E:Env}{n:Nat}{σ:St}(i:Nat){l:List AV}(l':List AV)(hb:A5 σ.hp i=some (.box l))(hn:Ln l l'):St.le E n σ (σ.set i (.box l')):=by
 unfold St.le
 rintro a w ⟨θ,h⟩
 obtain⟨nM,nJ⟩:=hn.get
 obtain⟨_,b,nw,ty,h1,h2,h3,h4⟩:=h.owns i _ hb
 have ht:=h.turn (v':=θ i) (b':=.box l') (w':=w) hb rfl rfl rfl (Nat.le_refl _) (fun _ _ _=>rfl) (fun k hk=>.inl hk) rfl fun le=>?_
 ·exact⟨_,ht⟩
 ·refine⟨b,nw,ty,by simp only[cx,F0];exact h1,h2,by omega,fun j x y hx hy=>?_⟩
  obtain⟨x0,pY⟩:=P5 nM hx
  exact Nm (nJ j x0 x pY hx) ((h4 j x0 y pY hy).mono le)
def J3(s:A4)(kind:Int)(k:Nat):List Nat:=(List.range k).filter fun i=>decide ((B6 s i).kind=kind)
theorem Ig(s:A4)(kind:Int)(k:Nat):(J3 s kind k).length≤k:=by
 have:=List.length_filter_le (fun i:Nat=>decide ((B6 s i).kind=kind)) (List.range k)
 simpa [J3]using this
theorem RD{s:A4}{kind:Int}{k:Nat}(h:(B6 s k).kind=kind):J3 s kind (k+1)=J3 s kind k++[k]:=by
 simp[J3,List.range_succ,List.filter_append,h]
theorem UI{s:A4}{kind:Int}{k:Nat}(h:¬(B6 s k).kind=kind):J3 s kind (k+1)=J3 s kind k:=by
 simp[J3,List.range_succ,List.filter_append,h]
theorem Gg{s:A4}{kind:Int}{i:Nat}:i∈J3 s kind s.cols.length↔i<s.cols.length∧(B6 s i).kind=kind:=by
 unfold J3
 rw[List.mem_filter,List.mem_range,decide_eq_true_eq]
theorem GD(s:A4)(kind:Int)(nM:s.cols.length≤1000):A3 Tryz.prog 65 [sA s,.i kind] (.sl 1 ((J3 s kind s.cols.length).map iA)):=by
 refine B5 Tryz.func65 27 fun nL E h0=>?_
 clear nL
 repeat'((first|refine S2 ?_|(refine T6 ?_ ?_<;>intro h<;>try exact V1 h)|intro el nJ nK|intro el nJ|exact T4|refine T5 ?_ ?_|intro ex)<;>try conv=>whnf)
 refine B0 (ι:=Nat) (fun k=>⟨[(1,.i kind),(2,.ref 0 0),(5,.row 1 0 (J3 s kind k).length),(9,.i s.cols.length),(10,.i k)],2,[(0,some (.box (sL s))),(1,some (.row 3 1 0 ((J3 s kind k).map iA)))]⟩) (fun k=>k≤s.cols.length) (fun k=>s.cols.length-k) 0 (Nat.zero_le _)
  (C0 (I0 (d:=5) (e:=3) (sz:=1) rfl) (A7 h0 rfl ⟨rfl,rfl,rfl,rfl,rfl,trivial⟩ ⟨rfl,⟨0,rfl⟩,trivial⟩ rfl rfl rfl)) (fun k hk=>?_)
 have sk:=Ig s kind k
 have nY:∀el,s.cols[k]?=some el→B6 s k=el:=fun el h=>B9 (by simpa using h)
 repeat'((first|refine S2 ?_|(refine T6 ?_ ?_<;>intro h<;>try exact V1 h)|intro el nJ nK|intro el nJ|exact T4|refine T5 ?_ ?_|intro ex)<;>try conv=>whnf)
 all_goals first
  |(have hy:(B6 s k).kind=kind:=by rw[nY _ nJ];assumption
    exact⟨k+1,by omega,by omega,A7 h0 rfl ⟨rfl,rfl,congrArg (fun z:Nat=>some (AV.row 1 0 z)) (by rw[RD hy,List.length_append];rfl),rfl,rfl,trivial⟩ ⟨rfl,⟨_,congrArg (C4.row 3 1 _) (by rw[RD hy,List.map_append];rfl)⟩,trivial⟩ rfl rfl rfl⟩)
  |(have hy:¬(B6 s k).kind=kind:=by rw[nY _ nJ];assumption
    exact⟨k+1,by omega,by omega,A7 h0 rfl ⟨rfl,rfl,congrArg (fun z:Nat=>some (AV.row 1 0 z)) (by rw[UI hy]),rfl,rfl,trivial⟩ ⟨rfl,⟨_,congrArg (fun z=>C4.row 3 1 0 (z.map iA)) (UI hy)⟩,trivial⟩ rfl rfl rfl⟩)
  |exact A1 rfl (congrArg (fun z=>AV.sl 1 ((J3 s kind z).map iA)) (by omega))
def b6(l:List UInt8)(a:Nat)(s:A4)(kind:Int):Nat×Nat:=((J3 s kind s.cols.length).getD (C1 l a (J3 s kind s.cols.length).length).1 0,(C1 l a (J3 s kind s.cols.length).length).2)
theorem Fg{l:List UInt8}{a:Nat}{s:A4}{kind:Int}(h:1≤(J3 s kind s.cols.length).length):(J3 s kind s.cols.length)[(C1 l a (J3 s kind s.cols.length).length).1]?=some (b6 l a s kind).1∧(b6 l a s kind).1<s.cols.length∧(B6 s (b6 l a s kind).1).kind=kind:=by
 have hn:=I4 l a (n:=(J3 s kind s.cols.length).length) (by omega)
 have nN:(C1 l a (J3 s kind s.cols.length).length).1<(J3 s kind s.cols.length).length:=by omega
 have e:(J3 s kind s.cols.length)[(C1 l a (J3 s kind s.cols.length).length).1]?=some (b6 l a s kind).1:=by
  unfold b6
  dsimp only
  rw[List.getD_eq_getElem?_getD,List.getElem?_eq_getElem nN]
  rfl
 exact⟨e,Gg.1 (List.mem_of_getElem? e)⟩
theorem E4.two{s:A4}(h:E4 s):1≤(J3 s 2 s.cols.length).length∧1≤(J3 s 3 s.cols.length).length:=by
 have hl:=h.lens
 obtain⟨b,ms,h1,h2,h3,h4⟩:=h.cs
 have m2:1∈J3 s 2 s.cols.length:=by
  refine Gg.2 ⟨by omega,?_⟩
  have:s.cols[1]?=some KB:=by rw[h1];cases b<;>rfl
  rw[show B6 s ((1:Nat):Int)=KB from B9 (by simpa using this)]
  rfl
 have m3:(V7 b).length∈J3 s 3 s.cols.length:=by
  have hm:ms[0]?=some (ms[0]'(by omega)):=List.getElem?_eq_getElem (by omega)
  have hc:s.cols[(V7 b).length]?=some (ms[0]'(by omega)):=by rw[h1,List.getElem?_append_right (Nat.le_refl _),Nat.sub_self];exact hm
  refine Gg.2 ⟨E9 hc,?_⟩
  rw[show B6 s (((V7 b).length:Nat):Int)=_ from B9 (by simpa using hc)]
  exact(h4 0 _ hm).kind
 exact⟨List.length_pos_of_mem m2,List.length_pos_of_mem m3⟩
theorem OV(l:List UInt8)(a:Nat)(s:A4)(hd:E4 s)(hl:l.length≤400):B8 Tryz.prog 63 1 (X7 l a) [.ref 0 0,sA s] 1 (X7 l (b6 l a s 2).2) (.i (b6 l a s 2).1):=by
 have hc:=GD s 2 (by have:=hd.lens;omega)
 have hn:=J8 l a (J3 s 2 s.cols.length).length hl
 have hk:=(Fg (l:=l) (a:=a) hd.two.1).1
 have oW:=Ig s 2 s.cols.length
 have sG:=hd.lens
 refine c9 Tryz.func63 15 fun E h0=>?_
 repeat'((first|refine A0 hc ?_|refine⟨G3 [0] [0] hn rfl rfl rfl rfl rfl ⟨rfl,trivial⟩ rfl rfl rfl rfl rfl ?_⟩|(refine A2 hk (by omega) ?_) |refine S2 ?_|(refine T6 ?_ ?_<;>intro h<;>try exact V1 h)|intro el nJ nK|intro el nJ|exact T4|refine T5 ?_ ?_|intro ex)<;>try conv=>whnf)
 all_goals exact H6 (A6 h0)
theorem Es(l:List UInt8)(a:Nat)(s:A4)(hd:E4 s)(hl:l.length≤400):B8 Tryz.prog 22 1 (X7 l a) [.ref 0 0,sA s] 1 (X7 l (b6 l a s 3).2) (.i (b6 l a s 3).1):=by
 have hc:=GD s 3 (by have:=hd.lens;omega)
 have hn:=J8 l a (J3 s 3 s.cols.length).length hl
 have hk:=(Fg (l:=l) (a:=a) hd.two.2).1
 have oW:=Ig s 3 s.cols.length
 have sG:=hd.lens
 refine c9 Tryz.func22 15 fun E h0=>?_
 repeat'((first|refine A0 hc ?_|refine⟨G3 [0] [0] hn rfl rfl rfl rfl rfl ⟨rfl,trivial⟩ rfl rfl rfl rfl rfl ?_⟩|(refine A2 hk (by omega) ?_) |refine S2 ?_|(refine T6 ?_ ?_<;>intro h<;>try exact V1 h)|intro el nJ nK|intro el nJ|exact T4|refine T5 ?_ ?_|intro ex)<;>try conv=>whnf)
 all_goals exact H6 (A6 h0)
theorem W4{E:Env}{n:Nat}{σ:St}(d:Nat){x:AV}(y:AV)(hd:Av.look σ.sl d=some x)(hn:NL x y):St.le E n σ (σ.put d y):=by
 unfold St.le
 rintro a w ⟨θ,h⟩
 refine⟨θ,h.size,h.defers,h.fr,fun s z hs=>?_,h.owns,h.apart,h.mine,h.X,h.base⟩
 simp only[St.put,E8]at hs
 by_cases e:d=s
 ·subst e
  rw[if_pos rfl]at hs
  cases hs
  exact Nm hn (h.slots d x hd)
 ·rw[if_neg e]at hs
  exact h.slots s z hs
def LB(l:List UInt8)(s:A4)(a:Nat):B7×Nat :=
 let q:=C1 l a 5
 if (q.1:Int)=1 then
  let k:=b6 l q.2 s 2
  let n:=C1 l k.2 (C2 s (B6 s k.1)).2.length
  (.mk 2 k.1 n.1 0 0 [],n.2)
 else if (q.1:Int)=2∨(q.1:Int)=3 then
  let k:=b6 l q.2 s 3
  let r:=C1 l k.2 44
  let h:=C1 l r.2 30
  (.mk 3 k.1 0 ((B6 s k.1).low+(-3+r.1)) ((B6 s k.1).low+(-3+r.1)+h.1) [],h.2)
 else if (q.1:Int)=4 then
  let k:=b6 l q.2 s 3
  (if (B6 s k.1).opt=true then .mk 4 k.1 0 0 0 []else .mk 1 0 0 0 0 [],k.2)
 else (.mk 1 0 0 0 0 [],q.2)
def BT(l:List UInt8)(s:A4):Nat→Nat→B7×Nat
 |0,a=>LB l s a
 |d+1,a =>
  let q:=C1 l a 5
  if (q.1:Int)=2 then
   let x:=BT l s d q.2
   (.mk 7 0 0 0 0 [x.1],x.2)
  else if (q.1:Int)=3 then
   let x:=BT l s d q.2
   let y:=BT l s d x.2
   (.mk 5 0 0 0 0 [x.1,y.1],y.2)
  else if (q.1:Int)=4 then
   let x:=BT l s d q.2
   let y:=BT l s d x.2
   (.mk 6 0 0 0 0 [x.1,y.1],y.2)
  else LB l s q.2
theorem q9(o c k lo hi:Int):NL (.agg [.i o,.i c,.i k,.i lo,.i hi,.v (.slice none 0 0)]) (D5 (.mk o c k lo hi [])) :=
 CX ⟨.refl _,.refl _,.refl _,.refl _,.refl _,.nil 6,trivial⟩
theorem kq(o:Int)(x:B7):NL (.agg [.i o,.i 0,.i 0,.i 0,.i 0,.sl 6 [K0 x]]) (D5 (.mk o 0 0 0 0 [x])):=by
 rw[←Kx];exact .refl _
theorem bR(o:Int)(x y:B7):NL (.agg [.i o,.i 0,.i 0,.i 0,.i 0,.sl 6 [K0 x,K0 y]]) (D5 (.mk o 0 0 0 0 [x,y])):=by
 rw[←Kx,←Kx];exact .refl _
abbrev Cq:Nat:=29
theorem bS(l:List UInt8)(s:A4)(hd:E4 s)(hl:l.length≤400)(d:Nat):∀a:Nat,d≤10→B8 Tryz.prog 21 1 (X7 l a) [.ref 0 0,sA s,.i d] 1 (X7 l (BT l s d a).2) (D5 (BT l s d a).1):=by
 induction d with
 |zero =>
  intro a _
  show B8 _ _ _ _ _ _ (X7 l (LB l s a).2) (D5 (LB l s a).1)
  unfold LB
  have r1:=J8 l a 5 hl
  have h5:=I4 l a (n:=5) (by omega)
  generalize C1 l a 5=q at *
  obtain⟨q1,q2⟩:=q
  dsimp only at r1 h5 ⊢
  have r2:=OV l q2 s hd hl
  obtain⟨_,k1,k2⟩:=Fg (l:=l) (a:=q2) hd.two.1
  generalize b6 l q2 s 2=k at *
  obtain⟨ka,kb⟩:=k
  dsimp only at r2 k1 k2 ⊢
  obtain⟨c,hc⟩:∃c,s.cols[ka]?=some c:=⟨_,List.getElem?_eq_getElem k1⟩
  have nY:B6 s ka=c:=B9 (by simpa using hc)
  rw[nY]at k2 ⊢
  obtain⟨pO,_⟩:=hd.lvs hc k2
  obtain⟨lx,oD⟩:∃lx,s.lists[c.lst.toNat]?=some lx:=⟨_,List.getElem?_eq_getElem (by omega)⟩
  rw[H5 oD]
  have r3:=J8 l kb lx.2.length hl
  have r4:=Es l q2 s hd hl
  obtain⟨_,m1,m2⟩:=Fg (l:=l) (a:=q2) hd.two.2
  generalize b6 l q2 s 3=m at *
  obtain⟨ma,mb⟩:=m
  dsimp only at r4 m1 m2 ⊢
  obtain⟨x,hx⟩:∃x,s.cols[ma]?=some x:=⟨_,List.getElem?_eq_getElem m1⟩
  have wZ:B6 s ma=x:=B9 (by simpa using hx)
  rw[wZ]at m2 ⊢
  have hxb:-4≤x.low∧x.low≤2:=by
   rcases hd.col hx with ⟨_,rfl⟩|⟨_,rfl|rfl⟩|⟨_,nm,hm⟩
   ·cases m2
   ·cases m2
   ·cases m2
   ·exact hm.low
  have r5:=u3 l mb (-3) 40 hl (by omega) (by omega) (by omega)
  rw[show (40:Int) - -3+1=44 from rfl]at r5
  have zS:=I4 l mb (n:=44) (by omega)
  generalize C1 l mb 44=r at *
  obtain⟨ra,rb⟩:=r
  dsimp only at r5 zS ⊢
  have r6:=J8 l rb 30 hl
  have zW:=I4 l rb (n:=30) (by omega)
  generalize C1 l rb 30=u at *
  obtain⟨ua,ub⟩:=u
  generalize C1 l kb lx.2.length=v at *
  obtain⟨va,vb⟩:=v
  dsimp only at r3 r6 zW ⊢
  refine c9 Tryz.func21 111 fun E h0=>?_
  repeat'((first|refine⟨G3 [0] [0] r1 rfl rfl rfl rfl rfl ⟨rfl,trivial⟩ rfl rfl rfl rfl rfl ?_⟩|refine⟨G3 [0] [0] r2 rfl rfl rfl rfl rfl ⟨rfl,trivial⟩ rfl rfl rfl rfl rfl ?_⟩|refine⟨G3 [0] [0] r3 rfl rfl rfl rfl rfl ⟨rfl,trivial⟩ rfl rfl rfl rfl rfl ?_⟩|refine⟨G3 [0] [0] r4 rfl rfl rfl rfl rfl ⟨rfl,trivial⟩ rfl rfl rfl rfl rfl ?_⟩|refine⟨G3 [0] [0] r5 rfl rfl rfl rfl rfl ⟨rfl,trivial⟩ rfl rfl rfl rfl rfl ?_⟩|refine⟨G3 [0] [0] r6 rfl rfl rfl rfl rfl ⟨rfl,trivial⟩ rfl rfl rfl rfl rfl ?_⟩|(refine A2 (x:=c) hc (by omega) ?_)|(refine A2 (x:=lx) oD (by omega) ?_)|(refine A2 (x:=x) hx (by omega) ?_)|(refine E7 12 ?_;refine F5 (id:=12) ⟨[(6,.ref 2 0)],3,[(0,some (.box [.sl 1 (l.map P9),.i vb])),(2,some (.box [.i 2,.i ka,.i va,.i 0,.i 0,.v (.slice none 0 0)]))]⟩ ?_ ?_)|(refine E7 16 ?_;refine F5 (id:=16) ⟨[(0,.ref 0 0),(4,.ref 1 0),(6,.ref 2 0),(8,.i ma),(9,.i (x.low+(-3+ra)))],3,[(0,some (.box [.sl 1 (l.map P9),.i rb])),(1,some (.box (sL s))),(2,some (.box [.i 0,.i 0,.i 0,.i 0,.i 0,.v (.slice none 0 0)]))]⟩ ?_ ?_) |refine S2 ?_|(refine T6 ?_ ?_<;>intro h<;>try exact V1 h)|intro el nJ nK|intro el nJ|exact T4|refine T5 ?_ ?_|intro ex)<;>try conv=>whnf)
  all_goals first
   |exact A6 h0
   |exact A6 h0
   |(rw[if_pos (by assumption)];exact M0 (rvs:=[.cell 6 Cq]) (vs:=[_]) ⟨2,_,_,rfl,rfl,inferInstance,rfl,rfl,trivial⟩ rfl rfl (C0 (W4 6 _ rfl (q9 2 ka va 0 0)) (A6 h0)) rfl)
   |(rw[if_neg (by omega),if_pos (by omega)];exact M0 (rvs:=[.cell 6 Cq]) (vs:=[_]) ⟨2,_,_,rfl,rfl,inferInstance,rfl,rfl,trivial⟩ rfl rfl (C0 (W4 6 _ rfl (q9 3 ma 0 (x.low+(-3+ra)) (x.low+(-3+ra)+ua))) (A6 h0)) rfl)
   |(rw[if_neg (by omega),if_neg (by omega),if_pos (by omega),if_pos (by assumption)];exact M0 (rvs:=[.cell 6 Cq]) (vs:=[_]) ⟨2,_,_,rfl,rfl,inferInstance,rfl,rfl,trivial⟩ rfl rfl (C0 (W4 6 _ rfl (q9 4 ma 0 0 0)) (A6 h0)) rfl)
   |(rw[if_neg (by omega),if_neg (by omega),if_pos (by omega),if_neg (by assumption)];exact M0 (rvs:=[.cell 6 Cq]) (vs:=[_]) ⟨2,_,_,rfl,rfl,inferInstance,rfl,rfl,trivial⟩ rfl rfl (C0 (W4 6 _ rfl (q9 1 0 0 0 0)) (A6 h0)) rfl)
   |(rw[if_neg (by omega),if_neg (by omega),if_pos (by omega),if_neg (by rw[h];exact Bool.false_ne_true)];exact M0 (rvs:=[.cell 6 Cq]) (vs:=[_]) ⟨2,_,_,rfl,rfl,inferInstance,rfl,rfl,trivial⟩ rfl rfl (C0 (W4 6 _ rfl (q9 1 0 0 0 0)) (A6 h0)) rfl)
   |(rw[if_neg (by omega),if_neg (by omega),if_neg (by omega)];exact M0 (rvs:=[.cell 6 Cq]) (vs:=[_]) ⟨2,_,_,rfl,rfl,inferInstance,rfl,rfl,trivial⟩ rfl rfl (C0 (W4 6 _ rfl (q9 1 0 0 0 0)) (A6 h0)) rfl)
 |succ d ih =>
  intro a hd10
  have e1:(((d+1:Nat):Int)-1)=(d:Int):=by omega
  unfold BT LB
  have r0:=J8 l a 5 hl
  have g5:=I4 l a (n:=5) (by omega)
  generalize C1 l a 5=p at *
  obtain⟨p1,p2⟩:=p
  dsimp only at r0 g5 ⊢
  have hX:=ih p2 (by omega)
  rw[←e1]at hX
  generalize BT l s d p2=X at *
  obtain⟨X1,X2⟩:=X
  dsimp only at hX ⊢
  have hY:=ih X2 (by omega)
  rw[←e1]at hY
  generalize BT l s d X2=Y at *
  obtain⟨Y1,Y2⟩:=Y
  dsimp only at hY ⊢
  have r1:=J8 l p2 5 hl
  have h5:=I4 l a (n:=5) (by omega)
  generalize C1 l p2 5=q at *
  obtain⟨q1,q2⟩:=q
  dsimp only at r1 h5 ⊢
  have r2:=OV l q2 s hd hl
  obtain⟨_,k1,k2⟩:=Fg (l:=l) (a:=q2) hd.two.1
  generalize b6 l q2 s 2=k at *
  obtain⟨ka,kb⟩:=k
  dsimp only at r2 k1 k2 ⊢
  obtain⟨c,hc⟩:∃c,s.cols[ka]?=some c:=⟨_,List.getElem?_eq_getElem k1⟩
  have nY:B6 s ka=c:=B9 (by simpa using hc)
  rw[nY]at k2 ⊢
  obtain⟨pO,_⟩:=hd.lvs hc k2
  obtain⟨lx,oD⟩:∃lx,s.lists[c.lst.toNat]?=some lx:=⟨_,List.getElem?_eq_getElem (by omega)⟩
  rw[H5 oD]
  have r3:=J8 l kb lx.2.length hl
  have r4:=Es l q2 s hd hl
  obtain⟨_,m1,m2⟩:=Fg (l:=l) (a:=q2) hd.two.2
  generalize b6 l q2 s 3=m at *
  obtain⟨ma,mb⟩:=m
  dsimp only at r4 m1 m2 ⊢
  obtain⟨x,hx⟩:∃x,s.cols[ma]?=some x:=⟨_,List.getElem?_eq_getElem m1⟩
  have wZ:B6 s ma=x:=B9 (by simpa using hx)
  rw[wZ]at m2 ⊢
  have hxb:-4≤x.low∧x.low≤2:=by
   rcases hd.col hx with ⟨_,rfl⟩|⟨_,rfl|rfl⟩|⟨_,nm,hm⟩
   ·cases m2
   ·cases m2
   ·cases m2
   ·exact hm.low
  have r5:=u3 l mb (-3) 40 hl (by omega) (by omega) (by omega)
  rw[show (40:Int) - -3+1=44 from rfl]at r5
  have zS:=I4 l mb (n:=44) (by omega)
  generalize C1 l mb 44=r at *
  obtain⟨ra,rb⟩:=r
  dsimp only at r5 zS ⊢
  have r6:=J8 l rb 30 hl
  have zW:=I4 l rb (n:=30) (by omega)
  generalize C1 l rb 30=u at *
  obtain⟨ua,ub⟩:=u
  generalize C1 l kb lx.2.length=v at *
  obtain⟨va,vb⟩:=v
  dsimp only at r3 r6 zW ⊢
  clear ih e1
  refine c9 Tryz.func21 111 fun E h0=>?_
  repeat'((first|refine⟨G3 [0] [0] r0 rfl rfl rfl rfl rfl ⟨rfl,trivial⟩ rfl rfl rfl rfl rfl ?_⟩|refine⟨G3 [0] [0] hX rfl rfl rfl rfl rfl ⟨rfl,trivial⟩ rfl rfl rfl rfl rfl ?_⟩|refine⟨G3 [0] [0] hY rfl rfl rfl rfl rfl ⟨rfl,trivial⟩ rfl rfl rfl rfl rfl ?_⟩|(refine E7 6 ?_;refine F5 (id:=6) ⟨[(6,.ref 2 0)],3,[(0,some (.box [.sl 1 (l.map P9),.i Y2])),(2,some (.box [.i 5,.i 0,.i 0,.i 0,.i 0,.sl 6 [K0 X1,K0 Y1]]))]⟩ ?_ ?_)|(refine E7 8 ?_;refine F5 (id:=8) ⟨[(6,.ref 2 0)],3,[(0,some (.box [.sl 1 (l.map P9),.i Y2])),(2,some (.box [.i 6,.i 0,.i 0,.i 0,.i 0,.sl 6 [K0 X1,K0 Y1]]))]⟩ ?_ ?_)|refine⟨G3 [0] [0] r1 rfl rfl rfl rfl rfl ⟨rfl,trivial⟩ rfl rfl rfl rfl rfl ?_⟩|refine⟨G3 [0] [0] r2 rfl rfl rfl rfl rfl ⟨rfl,trivial⟩ rfl rfl rfl rfl rfl ?_⟩|refine⟨G3 [0] [0] r3 rfl rfl rfl rfl rfl ⟨rfl,trivial⟩ rfl rfl rfl rfl rfl ?_⟩|refine⟨G3 [0] [0] r4 rfl rfl rfl rfl rfl ⟨rfl,trivial⟩ rfl rfl rfl rfl rfl ?_⟩|refine⟨G3 [0] [0] r5 rfl rfl rfl rfl rfl ⟨rfl,trivial⟩ rfl rfl rfl rfl rfl ?_⟩|refine⟨G3 [0] [0] r6 rfl rfl rfl rfl rfl ⟨rfl,trivial⟩ rfl rfl rfl rfl rfl ?_⟩|(refine A2 (x:=c) hc (by omega) ?_)|(refine A2 (x:=lx) oD (by omega) ?_)|(refine A2 (x:=x) hx (by omega) ?_)|(refine E7 12 ?_;refine F5 (id:=12) ⟨[(6,.ref 2 0)],3,[(0,some (.box [.sl 1 (l.map P9),.i vb])),(2,some (.box [.i 2,.i ka,.i va,.i 0,.i 0,.v (.slice none 0 0)]))]⟩ ?_ ?_)|(refine E7 16 ?_;refine F5 (id:=16) ⟨[(0,.ref 0 0),(4,.ref 1 0),(6,.ref 2 0),(8,.i ma),(9,.i (x.low+(-3+ra)))],3,[(0,some (.box [.sl 1 (l.map P9),.i rb])),(1,some (.box (sL s))),(2,some (.box [.i 0,.i 0,.i 0,.i 0,.i 0,.v (.slice none 0 0)]))]⟩ ?_ ?_) |refine S2 ?_|(refine T6 ?_ ?_<;>intro h<;>try exact V1 h)|intro el nJ nK|intro el nJ|exact T4|refine T5 ?_ ?_|intro ex)<;>try conv=>whnf)
  all_goals first
   |(rw[if_pos (by assumption)];exact M0 (rvs:=[.cell 6 Cq]) (vs:=[_]) ⟨2,_,_,rfl,rfl,inferInstance,rfl,rfl,trivial⟩ rfl rfl (C0 (W4 6 _ rfl (kq 7 X1)) (A6 h0)) rfl)
   |(rw[if_neg (by omega),if_pos (by assumption)];exact M0 (rvs:=[.cell 6 Cq]) (vs:=[_]) ⟨2,_,_,rfl,rfl,inferInstance,rfl,rfl,trivial⟩ rfl rfl (C0 (W4 6 _ rfl (bR 5 X1 Y1)) (A6 h0)) rfl)
   |(rw[if_neg (by omega),if_neg (by omega),if_pos (by assumption)];exact M0 (rvs:=[.cell 6 Cq]) (vs:=[_]) ⟨2,_,_,rfl,rfl,inferInstance,rfl,rfl,trivial⟩ rfl rfl (C0 (W4 6 _ rfl (bR 6 X1 Y1)) (A6 h0)) rfl)
   |exact A6 h0
   |exact A6 h0
   |(rw[if_neg (by omega),if_neg (by omega),if_neg (by omega),if_pos (by assumption)];exact M0 (rvs:=[.cell 6 Cq]) (vs:=[_]) ⟨2,_,_,rfl,rfl,inferInstance,rfl,rfl,trivial⟩ rfl rfl (C0 (W4 6 _ rfl (q9 2 ka va 0 0)) (A6 h0)) rfl)
   |(rw[if_neg (by omega),if_neg (by omega),if_neg (by omega),if_neg (by omega),if_pos (by omega)];exact M0 (rvs:=[.cell 6 Cq]) (vs:=[_]) ⟨2,_,_,rfl,rfl,inferInstance,rfl,rfl,trivial⟩ rfl rfl (C0 (W4 6 _ rfl (q9 3 ma 0 (x.low+(-3+ra)) (x.low+(-3+ra)+ua))) (A6 h0)) rfl)
   |(rw[if_neg (by omega),if_neg (by omega),if_neg (by omega),if_neg (by omega),if_neg (by omega),if_pos (by omega),if_pos (by assumption)];exact M0 (rvs:=[.cell 6 Cq]) (vs:=[_]) ⟨2,_,_,rfl,rfl,inferInstance,rfl,rfl,trivial⟩ rfl rfl (C0 (W4 6 _ rfl (q9 4 ma 0 0 0)) (A6 h0)) rfl)
   |(rw[if_neg (by omega),if_neg (by omega),if_neg (by omega),if_neg (by omega),if_neg (by omega),if_pos (by omega),if_neg (by assumption)];exact M0 (rvs:=[.cell 6 Cq]) (vs:=[_]) ⟨2,_,_,rfl,rfl,inferInstance,rfl,rfl,trivial⟩ rfl rfl (C0 (W4 6 _ rfl (q9 1 0 0 0 0)) (A6 h0)) rfl)
   |(rw[if_neg (by omega),if_neg (by omega),if_neg (by omega),if_neg (by omega),if_neg (by omega),if_pos (by omega),if_neg (by rw[h];exact Bool.false_ne_true)];exact M0 (rvs:=[.cell 6 Cq]) (vs:=[_]) ⟨2,_,_,rfl,rfl,inferInstance,rfl,rfl,trivial⟩ rfl rfl (C0 (W4 6 _ rfl (q9 1 0 0 0 0)) (A6 h0)) rfl)
   |(rw[if_neg (by omega),if_neg (by omega),if_neg (by omega),if_neg (by omega),if_neg (by omega),if_neg (by omega)];exact M0 (rvs:=[.cell 6 Cq]) (vs:=[_]) ⟨2,_,_,rfl,rfl,inferInstance,rfl,rfl,trivial⟩ rfl rfl (C0 (W4 6 _ rfl (q9 1 0 0 0 0)) (A6 h0)) rfl)
theorem CY(s:A4)(c:B7):(I3 s c).length≤s.cols.length:=by
 unfold I3
 split
 ·exact y8 _ _ _
 ·simp
def j8(f:Nat→Int)(v:Int):List Nat→Int×Bool
 |[]=>(0,false)
 |x::r=>if f x=v then ((x:Int),true)else j8 f v r
theorem Ih{f:Nat→Int}{v:Int}:∀{l:List Nat},((j8 f v l).2=true∧∃x∈l,f x=v∧(j8 f v l).1=x)∨(j8 f v l=(0,false)∧∀x∈l,f x≠v)
 |[]=>.inr ⟨rfl,fun x h=>by cases h⟩
 |x::r=>by
  unfold j8
  by_cases e:f x=v
  ·rw[if_pos e];exact .inl ⟨rfl,x,List.mem_cons_self ..,e,rfl⟩
  ·rw[if_neg e]
   rcases Ih (f:=f) (v:=v) (l:=r)with ⟨h1,y,hy,h2,h3⟩|⟨h1,h2⟩
   ·exact .inl ⟨h1,y,List.mem_cons_of_mem _ hy,h2,h3⟩
   ·refine .inr ⟨h1,fun y hy=>?_⟩
    rcases List.mem_cons.1 hy with rfl|hy
    ·exact e
    ·exact h2 y hy
theorem Lp{f g:Nat→Int}{v:Int}:∀{l:List Nat},(∀x∈l,f x=g x)→j8 f v l=j8 g v l
 |[],_=>rfl
 |x::r,h=>by
  unfold j8
  rw[h x (by simp),Lp fun y hy=>h y (by simp[hy])]
def RE(s:A4)(column level:Int)(x:Nat):Int:=L3 (C2 s (B6 s column)).1 (C2 s (B6 s column)).2 x level
def M4(s:A4)(column level v:Int):Int×Bool :=
 if (B6 s column).kind=3 then (if 0<level∧v=(-1099511627776)then (v,(B6 s column).opt)else ((M2 (B6 s column) level v).1,(M2 (B6 s column) level v).2.2))
 else j8 (RE s column level) v (F9 s column)
theorem LC{s:A4}(hr:C3 s=0){column:Int}{c:D3}(h1:1≤column)(hc:s.cols[column.toNat]?=some c):(c.kind=2∨c.kind=3)∧(c.kind=3→meaE c=0):=by
 obtain⟨_,_,_,h4,_⟩:=D2 hr
 have h5:=(j5 (h4 _ _ hc)).2.2.1
 refine⟨?_,fun h=>AZ h5 h⟩
 rcases Li h5 with h|h
 ·omega
 ·exact h
def M5(col:Int)(pv:List (Pk×Int)):Int×Int:=pv.foldl (fun z q=>if q.1.col=col then (q.1.lev,q.2)else z) (0,0)
theorem OW(col:Int)(l:List (Pk×Int))(q:Pk×Int):M5 col (l++[q])=if q.1.col=col then (q.1.lev,q.2)else M5 col l:=by
 unfold M5;rw[List.foldl_append];rfl
theorem UJ(col:Int):∀(l:List (Pk×Int)),(M5 col l=(0,0)∧∀q∈l,q.1.col≠col)∨∃q∈l,q.1.col=col∧M5 col l=(q.1.lev,q.2):=by
 have key:∀(l:List (Pk×Int)) (z:Int×Int),(l.foldl (fun z q=>if q.1.col=col then (q.1.lev,q.2)else z) z=z∧∀q∈l,q.1.col≠col)∨∃q∈l,q.1.col=col∧l.foldl (fun z q=>if q.1.col=col then (q.1.lev,q.2)else z) z=(q.1.lev,q.2):=by
  intro l
  induction l with
  |nil=>exact fun z=>.inl ⟨rfl,fun q h=>by cases h⟩
  |cons a r ih =>
   intro z
   rw[List.foldl_cons]
   by_cases e:a.1.col=col
   ·rw[if_pos e]
    rcases ih (a.1.lev,a.2)with ⟨h1,h2⟩|⟨q,hq,h1,h2⟩
    ·exact .inr ⟨a,List.mem_cons_self ..,e,h1⟩
    ·exact .inr ⟨q,List.mem_cons_of_mem _ hq,h1,h2⟩
   ·rw[if_neg e]
    rcases ih z with ⟨h1,h2⟩|⟨q,hq,h1,h2⟩
    ·refine .inl ⟨h1,fun q hq=>?_⟩
     rcases List.mem_cons.1 hq with rfl|hq
     ·exact e
     ·exact h2 q hq
    ·exact .inr ⟨q,List.mem_cons_of_mem _ hq,h1,h2⟩
 exact fun l=>key l (0,0)
def Ak(s:A4)(pv:List (Pk×Int))(i:Nat):Int:=if i=0∧(M5 i pv=(0,0))then 0 else (M4 s i (M5 i pv).1 (M5 i pv).2).1
def Yg(s:A4)(row:List Int):Prop:=row.length=s.cols.length∧∀(i:Nat) c,s.cols[i]?=some c→u9 s c (row.getD i 0)
theorem OY{s:A4}(hd:E4 s)(l:List UInt8):∀(n k:Nat) (x:List Int×Nat),k+n=s.cols.length→x.1.length=k→(∀(i:Nat) c,i<k→s.cols[i]?=some c→u9 s c (x.1.getD i 0))→Yg s (rowFrom l s k x n).1
 |0,k,x,hk,hl,h=>by
  refine⟨by show x.1.length=_;omega,fun i c hc=>h i c ?_ hc⟩
  have:=(List.getElem?_eq_some_iff.1 hc).1
  omega
 |n+1,k,x,hk,hl,h=>by
  obtain⟨c0,rL⟩:∃c,s.cols[k]?=some c:=⟨_,List.getElem?_eq_getElem (by omega)⟩
  refine OY hd l n (k+1) _ (by omega) (by simp[hl]) fun i c hi hc=>?_
  dsimp only
  by_cases e:i<k
  ·have:=h i c e hc
   rw[List.getD_eq_getElem?_getD]at this ⊢
   rw[List.getElem?_append_left (by omega)]
   exact this
  ·obtain rfl:i=k:=by omega
   rw[rL]at hc
   cases hc
   rw[List.getD_eq_getElem?_getD,List.getElem?_append_right (by omega),hl,Nat.sub_self]
   exact Wy hd l x.2 rL
theorem Wz{s:A4}(hd:E4 s)(l:List UInt8)(a:Nat):Yg s (o7 l a s).1 :=
 OY hd l s.cols.length 0 ([],a) (by omega) rfl fun i c hi=>absurd hi (Nat.not_lt_zero _)
theorem u9.hold{s:A4}{c:D3}{v:Int}(h:u9 s c v):Bx s c v=true:=by
 unfold Bx
 rcases h with ⟨hk,h1,h2⟩|⟨hk,n,rfl,hn⟩|⟨hk,h1⟩
 ·rw[if_pos hk];exact decide_eq_true (by omega)
 ·rw[if_neg (by omega),if_pos hk]
  obtain⟨g1,g2,g3⟩:=Ph hn
  have:=(IY g1 g2).1 (by rw[←FQ ⟨by omega,by omega,g1⟩];simpa using g3)
  rw[this,decide_eq_true (show (0:Int)≤n∧(n:Int)<(C2 s c).2.length by omega)]
  rfl
 ·rw[if_neg (by omega),if_neg (by omega)]
  rcases h1 with h1|h1
  ·rw[decide_eq_true h1];rfl
  ·rw[h1.1,h1.2];simp
end Go.Proofs.YtiphlhoclaogjaaGreatDoor

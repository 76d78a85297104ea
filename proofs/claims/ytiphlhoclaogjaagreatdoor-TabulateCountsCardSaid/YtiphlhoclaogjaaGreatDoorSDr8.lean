/- Draws: what drawn rows are like. Draws: columns of a kind; boxes that say the same with empty rows for nothing laid. -/
import Derived.Test.YtiphlhoclaogjaaGreatDoorSB13
import Derived.Test.YtiphlhoclaogjaaGreatDoorSB12
import Derived.Test.YtiphlhoclaogjaaGreatDoorSB5
import Derived.Test.YtiphlhoclaogjaaGreatDoorSCd1
set_option linter.unusedVariables false
set_option linter.unnecessarySimpa false
set_option linter.unusedSimpArgs false
set_option maxHeartbeats 64000000
namespace Go.Proofs.YtiphlhoclaogjaaGreatDoor
open Go Go.Av
attribute [local irreducible] C7 B2 D3 C9 DQ D0 C8 St.le A3 B9
set_option maxRecDepth 100000
theorem o4.bd{s:A4}(h:E7 s){i:Nat}{c:D4}(hc:s.cols[i]?=some c){v:Int}(hv:o4 s c v):-1099511627776≤v∧v≤100:=by
 rcases hv with ⟨_,h1⟩|⟨hk,n,rfl,hn⟩|⟨hk,h1⟩
 ·omega
 ·rcases h.col hc with ⟨_,rfl⟩|⟨_,pj⟩|⟨_,nm,hm⟩
  ·cases hk
  ·obtain⟨hf,oV,lX⟩:=h.lst pj
   rw[DC oV,Gt oV]at hn
   have:=(EF hf).mem n hn
   omega
  ·have:=hm.kind;omega
 ·rcases h.col hc with ⟨_,rfl⟩|⟨_,rfl|rfl⟩|⟨_,nm,hm⟩
  ·cases hk
  ·cases hk
  ·cases hk
  ·have:=hm.low
   have:=hm.high
   rcases h1 with h1|h1<;>omega
theorem Nh{s:A4}(hd:E7 s)(l:List UInt8):∀(n k:Nat) (x:List Int×Nat),k+n≤s.cols.length→(∀y∈x.1,-1099511627776≤y∧y≤100)→(rowFrom l s k x n).1.length=x.1.length+n∧∀y∈(rowFrom l s k x n).1,-1099511627776≤y∧y≤100
 |0,k,x,_,h=>⟨rfl,h⟩
 |n+1,k,x,hk,h=>by
  have hc:s.cols[k]?=some (s.cols[k]'(by omega)):=List.getElem?_eq_getElem (by omega)
  obtain⟨h1,h2⟩:=Nh hd l n (k+1) (x.1++[(w7 l x.2 s k).1],(w7 l x.2 s k).2) (by omega) (fun y hy=>by
   rcases List.mem_append.1 hy with hy|hy
   ·exact h y hy
   ·simp only[List.mem_singleton]at hy
    subst hy
    exact o4.bd hd hc (WI hd l x.2 hc))
  rw[rowFrom]
  refine⟨?_,h2⟩
  rw[h1,List.length_append,List.length_singleton]
  omega
theorem gL{s:A4}(hd:E7 s)(l:List UInt8)(a:Nat):(k5 l a s).1.length=s.cols.length∧∀y∈(k5 l a s).1,-1099511627776≤y∧y≤100:=by
 have:=Nh hd l s.cols.length 0 ([],a) (by omega) (fun y hy=>by cases hy)
 unfold k5
 simpa using this
theorem Ni{E:Env}{n:Nat}{σ:St}(i:Nat){l:List AV}(l':List AV)(hb:A5 σ.hp i=some (.box l))(hn:LC l l'):St.le E n σ (σ.set i (.box l')):=by
 unfold St.le
 rintro a w ⟨θ,h⟩
 obtain⟨lX,lU⟩:=hn.get
 obtain⟨_,b,mG,ty,h1,h2,h3,h4⟩:=h.owns i _ hb
 have ht:=h.turn (v':=θ i) (b':=.box l') (w':=w) hb rfl rfl rfl (Nat.le_refl _) (fun _ _ _=>rfl) (fun k hk=>.inl hk) rfl fun le=>?_
 ·exact⟨_,ht⟩
 ·refine⟨b,mG,ty,by simp only[cx,E8];exact h1,h2,by omega,fun j x y hx hy=>?_⟩
  obtain⟨x0,nf⟩:=O5 lX hx
  exact Mw (lU j x0 x nf hx) ((h4 j x0 y nf hy).mono le)
def I3(s:A4)(kind:Int)(k:Nat):List Nat:=(List.range k).filter fun i=>decide ((C0 s i).kind=kind)
theorem FL(s:A4)(kind:Int)(k:Nat):(I3 s kind k).length≤k:=by
 have:=List.length_filter_le (fun i:Nat=>decide ((C0 s i).kind=kind)) (List.range k)
 simpa [I3]using this
theorem QM{s:A4}{kind:Int}{k:Nat}(h:(C0 s k).kind=kind):I3 s kind (k+1)=I3 s kind k++[k]:=by
 simp[I3,List.range_succ,List.filter_append,h]
theorem TQ{s:A4}{kind:Int}{k:Nat}(h:¬(C0 s k).kind=kind):I3 s kind (k+1)=I3 s kind k:=by
 simp[I3,List.range_succ,List.filter_append,h]
theorem Fv{s:A4}{kind:Int}{i:Nat}:i∈I3 s kind s.cols.length↔i<s.cols.length∧(C0 s i).kind=kind:=by
 unfold I3
 rw[List.mem_filter,List.mem_range,decide_eq_true_eq]
theorem DE(s:A4)(kind:Int)(lX:s.cols.length≤1000):A3 Tryz.prog 65 [sA s,.i kind] (.sl 1 ((I3 s kind s.cols.length).map iA)):=by
 refine B6 Tryz.func65 27 fun lW E h0=>?_
 clear lW
 repeat'((first|refine S2 ?_|(refine T6 ?_ ?_<;>intro h<;>try exact V1 h)|intro el lU lV|intro el lU|exact T4|refine T5 ?_ ?_|intro ex)<;>try conv=>whnf)
 refine B0 (ι:=Nat) (fun k=>⟨[(1,.i kind),(2,.ref 0 0),(5,.row 1 0 (I3 s kind k).length),(9,.i s.cols.length),(10,.i k)],2,[(0,some (.box (sL s))),(1,some (.row 3 1 0 ((I3 s kind k).map iA)))]⟩) (fun k=>k≤s.cols.length) (fun k=>s.cols.length-k) 0 (Nat.zero_le _)
  (B5 (I9 (d:=5) (e:=3) (sz:=1) rfl) (A9 h0 rfl ⟨rfl,rfl,rfl,rfl,rfl,trivial⟩ ⟨rfl,⟨0,rfl⟩,trivial⟩ rfl rfl rfl)) (fun k hk=>?_)
 have rj:=FL s kind k
 have lm:∀el,s.cols[k]?=some el→C0 s k=el:=fun el h=>C1 (by simpa using h)
 repeat'((first|refine S2 ?_|(refine T6 ?_ ?_<;>intro h<;>try exact V1 h)|intro el lU lV|intro el lU|exact T4|refine T5 ?_ ?_|intro ex)<;>try conv=>whnf)
 all_goals first
  |(have hy:(C0 s k).kind=kind:=by rw[lm _ lU];assumption
    exact⟨k+1,by omega,by omega,A9 h0 rfl ⟨rfl,rfl,congrArg (fun z:Nat=>some (AV.row 1 0 z)) (by rw[QM hy,List.length_append];rfl),rfl,rfl,trivial⟩ ⟨rfl,⟨_,congrArg (C6.row 3 1 _) (by rw[QM hy,List.map_append];rfl)⟩,trivial⟩ rfl rfl rfl⟩)
  |(have hy:¬(C0 s k).kind=kind:=by rw[lm _ lU];assumption
    exact⟨k+1,by omega,by omega,A9 h0 rfl ⟨rfl,rfl,congrArg (fun z:Nat=>some (AV.row 1 0 z)) (by rw[TQ hy]),rfl,rfl,trivial⟩ ⟨rfl,⟨_,congrArg (fun z=>C6.row 3 1 0 (z.map iA)) (TQ hy)⟩,trivial⟩ rfl rfl rfl⟩)
  |exact A0 rfl (congrArg (fun z=>AV.sl 1 ((I3 s kind z).map iA)) (by omega))
def AL(l:List UInt8)(a:Nat)(s:A4)(kind:Int):Nat×Nat:=((I3 s kind s.cols.length).getD (B8 l a (I3 s kind s.cols.length).length).1 0,(B8 l a (I3 s kind s.cols.length).length).2)
theorem Dg{l:List UInt8}{a:Nat}{s:A4}{kind:Int}(h:1≤(I3 s kind s.cols.length).length):(I3 s kind s.cols.length)[(B8 l a (I3 s kind s.cols.length).length).1]?=some (AL l a s kind).1∧(AL l a s kind).1<s.cols.length∧(C0 s (AL l a s kind).1).kind=kind:=by
 have hn:=H1 l a (n:=(I3 s kind s.cols.length).length) (by omega)
 have lY:(B8 l a (I3 s kind s.cols.length).length).1<(I3 s kind s.cols.length).length:=by omega
 have e:(I3 s kind s.cols.length)[(B8 l a (I3 s kind s.cols.length).length).1]?=some (AL l a s kind).1:=by
  unfold AL
  dsimp only
  rw[List.getD_eq_getElem?_getD,List.getElem?_eq_getElem lY]
  rfl
 exact⟨e,Fv.1 (List.mem_of_getElem? e)⟩
theorem E7.two{s:A4}(h:E7 s):1≤(I3 s 2 s.cols.length).length∧1≤(I3 s 3 s.cols.length).length:=by
 have hl:=h.lens
 obtain⟨b,ms,h1,h2,h3,h4⟩:=h.cs
 have m2:1∈I3 s 2 s.cols.length:=by
  refine Fv.2 ⟨by omega,?_⟩
  have:s.cols[1]?=some JU:=by rw[h1];cases b<;>rfl
  rw[show C0 s ((1:Nat):Int)=JU from C1 (by simpa using this)]
  rfl
 have m3:(U8 b).length∈I3 s 3 s.cols.length:=by
  have hm:ms[0]?=some (ms[0]'(by omega)):=List.getElem?_eq_getElem (by omega)
  have hc:s.cols[(U8 b).length]?=some (ms[0]'(by omega)):=by rw[h1,List.getElem?_append_right (Nat.le_refl _),Nat.sub_self];exact hm
  refine Fv.2 ⟨F5 hc,?_⟩
  rw[show C0 s (((U8 b).length:Nat):Int)=_ from C1 (by simpa using hc)]
  exact(h4 0 _ hm).kind
 exact⟨List.length_pos_of_mem m2,List.length_pos_of_mem m3⟩
theorem Nj(l:List UInt8)(a:Nat)(s:A4)(hd:E7 s)(hl:l.length≤400):B9 Tryz.prog 63 1 (R4 l a) [.ref 0 0,sA s] 1 (R4 l (AL l a s 2).2) (.i (AL l a s 2).1):=by
 have hc:=DE s 2 (by have:=hd.lens;omega)
 have hn:=H7 l a (I3 s 2 s.cols.length).length hl
 have hk:=(Dg (l:=l) (a:=a) hd.two.1).1
 have mX:=FL s 2 s.cols.length
 have qu:=hd.lens
 refine V9 Tryz.func63 15 fun E h0=>?_
 repeat'((first|refine A1 hc ?_|refine⟨G1 [0] [0] hn rfl rfl rfl rfl rfl ⟨rfl,trivial⟩ rfl rfl rfl rfl rfl ?_⟩|(refine A2 hk (by omega) ?_) |refine S2 ?_|(refine T6 ?_ ?_<;>intro h<;>try exact V1 h)|intro el lU lV|intro el lU|exact T4|refine T5 ?_ ?_|intro ex)<;>try conv=>whnf)
 all_goals exact H4 (A6 h0)
theorem CA(l:List UInt8)(a:Nat)(s:A4)(hd:E7 s)(hl:l.length≤400):B9 Tryz.prog 22 1 (R4 l a) [.ref 0 0,sA s] 1 (R4 l (AL l a s 3).2) (.i (AL l a s 3).1):=by
 have hc:=DE s 3 (by have:=hd.lens;omega)
 have hn:=H7 l a (I3 s 3 s.cols.length).length hl
 have hk:=(Dg (l:=l) (a:=a) hd.two.2).1
 have mX:=FL s 3 s.cols.length
 have qu:=hd.lens
 refine V9 Tryz.func22 15 fun E h0=>?_
 repeat'((first|refine A1 hc ?_|refine⟨G1 [0] [0] hn rfl rfl rfl rfl rfl ⟨rfl,trivial⟩ rfl rfl rfl rfl rfl ?_⟩|(refine A2 hk (by omega) ?_) |refine S2 ?_|(refine T6 ?_ ?_<;>intro h<;>try exact V1 h)|intro el lU lV|intro el lU|exact T4|refine T5 ?_ ?_|intro ex)<;>try conv=>whnf)
 all_goals exact H4 (A6 h0)
theorem N2{E:Env}{n:Nat}{σ:St}(d:Nat){x:AV}(y:AV)(hd:Av.look σ.sl d=some x)(hn:NL x y):St.le E n σ (σ.put d y):=by
 unfold St.le
 rintro a w ⟨θ,h⟩
 refine⟨θ,h.size,h.defers,h.fr,fun s z hs=>?_,h.owns,h.apart,h.mine,h.X,h.base⟩
 simp only[St.put,E6]at hs
 by_cases e:d=s
 ·subst e
  rw[if_pos rfl]at hs
  cases hs
  exact Mw hn (h.slots d x hd)
 ·rw[if_neg e]at hs
  exact h.slots s z hs
def KT(l:List UInt8)(s:A4)(a:Nat):B1×Nat :=
 let q:=B8 l a 5
 if (q.1:Int)=1 then
  let k:=AL l q.2 s 2
  let n:=B8 l k.2 (C2 s (C0 s k.1)).2.length
  (.mk 2 k.1 n.1 0 0 [],n.2)
 else if (q.1:Int)=2∨(q.1:Int)=3 then
  let k:=AL l q.2 s 3
  let r:=B8 l k.2 44
  let h:=B8 l r.2 30
  (.mk 3 k.1 0 ((C0 s k.1).low+(-3+r.1)) ((C0 s k.1).low+(-3+r.1)+h.1) [],h.2)
 else if (q.1:Int)=4 then
  let k:=AL l q.2 s 3
  (if (C0 s k.1).opt=true then .mk 4 k.1 0 0 0 []else .mk 1 0 0 0 0 [],k.2)
 else (.mk 1 0 0 0 0 [],q.2)
def o5(l:List UInt8)(s:A4):Nat→Nat→B1×Nat
 |0,a=>KT l s a
 |d+1,a =>
  let q:=B8 l a 5
  if (q.1:Int)=2 then
   let x:=o5 l s d q.2
   (.mk 7 0 0 0 0 [x.1],x.2)
  else if (q.1:Int)=3 then
   let x:=o5 l s d q.2
   let y:=o5 l s d x.2
   (.mk 5 0 0 0 0 [x.1,y.1],y.2)
  else if (q.1:Int)=4 then
   let x:=o5 l s d q.2
   let y:=o5 l s d x.2
   (.mk 6 0 0 0 0 [x.1,y.1],y.2)
  else KT l s q.2
theorem l6(o c k lo hi:Int):NL (.agg [.i o,.i c,.i k,.i lo,.i hi,.v (.slice none 0 0)]) (E0 (.mk o c k lo hi [])) :=
 EG ⟨.refl _,.refl _,.refl _,.refl _,.refl _,.nil 6,trivial⟩
theorem jN(o:Int)(x:B1):NL (.agg [.i o,.i 0,.i 0,.i 0,.i 0,.sl 6 [I6 x]]) (E0 (.mk o 0 0 0 0 [x])):=by
 rw[←Gq];exact .refl _
theorem aQ(o:Int)(x y:B1):NL (.agg [.i o,.i 0,.i 0,.i 0,.i 0,.sl 6 [I6 x,I6 y]]) (E0 (.mk o 0 0 0 0 [x,y])):=by
 rw[←Gq,←Gq];exact .refl _
abbrev CP:Nat:=29
theorem Fw(l:List UInt8)(s:A4)(hd:E7 s)(hl:l.length≤400)(d:Nat):∀a:Nat,d≤10→B9 Tryz.prog 21 1 (R4 l a) [.ref 0 0,sA s,.i d] 1 (R4 l (o5 l s d a).2) (E0 (o5 l s d a).1):=by
 induction d with
 |zero =>
  intro a _
  show B9 _ _ _ _ _ _ (R4 l (KT l s a).2) (E0 (KT l s a).1)
  unfold KT
  have r1:=H7 l a 5 hl
  have h5:=H1 l a (n:=5) (by omega)
  generalize B8 l a 5=q at *
  obtain⟨q1,q2⟩:=q
  dsimp only at r1 h5 ⊢
  have r2:=Nj l q2 s hd hl
  obtain⟨_,k1,k2⟩:=Dg (l:=l) (a:=q2) hd.two.1
  generalize AL l q2 s 2=k at *
  obtain⟨ka,kb⟩:=k
  dsimp only at r2 k1 k2 ⊢
  obtain⟨c,hc⟩:∃c,s.cols[ka]?=some c:=⟨_,List.getElem?_eq_getElem k1⟩
  have lm:C0 s ka=c:=C1 (by simpa using hc)
  rw[lm]at k2 ⊢
  obtain⟨nS,_⟩:=hd.lvs hc k2
  obtain⟨lx,mZ⟩:∃lx,s.lists[c.lst.toNat]?=some lx:=⟨_,List.getElem?_eq_getElem (by omega)⟩
  rw[H8 mZ]
  have r3:=H7 l kb lx.2.length hl
  have r4:=CA l q2 s hd hl
  obtain⟨_,m1,m2⟩:=Dg (l:=l) (a:=q2) hd.two.2
  generalize AL l q2 s 3=m at *
  obtain⟨ma,mb⟩:=m
  dsimp only at r4 m1 m2 ⊢
  obtain⟨x,hx⟩:∃x,s.cols[ma]?=some x:=⟨_,List.getElem?_eq_getElem m1⟩
  have sq:C0 s ma=x:=C1 (by simpa using hx)
  rw[sq]at m2 ⊢
  have hxb:-4≤x.low∧x.low≤2:=by
   rcases hd.col hx with ⟨_,rfl⟩|⟨_,rfl|rfl⟩|⟨_,nm,hm⟩
   ·cases m2
   ·cases m2
   ·cases m2
   ·exact hm.low
  have r5:=S8 l mb (-3) 40 hl (by omega) (by omega) (by omega)
  rw[show (40:Int) - -3+1=44 from rfl]at r5
  have wr:=H1 l mb (n:=44) (by omega)
  generalize B8 l mb 44=r at *
  obtain⟨ra,rb⟩:=r
  dsimp only at r5 wr ⊢
  have r6:=H7 l rb 30 hl
  have wv:=H1 l rb (n:=30) (by omega)
  generalize B8 l rb 30=u at *
  obtain⟨ua,ub⟩:=u
  generalize B8 l kb lx.2.length=v at *
  obtain⟨va,vb⟩:=v
  dsimp only at r3 r6 wv ⊢
  refine V9 Tryz.func21 111 fun E h0=>?_
  repeat'((first|refine⟨G1 [0] [0] r1 rfl rfl rfl rfl rfl ⟨rfl,trivial⟩ rfl rfl rfl rfl rfl ?_⟩|refine⟨G1 [0] [0] r2 rfl rfl rfl rfl rfl ⟨rfl,trivial⟩ rfl rfl rfl rfl rfl ?_⟩|refine⟨G1 [0] [0] r3 rfl rfl rfl rfl rfl ⟨rfl,trivial⟩ rfl rfl rfl rfl rfl ?_⟩|refine⟨G1 [0] [0] r4 rfl rfl rfl rfl rfl ⟨rfl,trivial⟩ rfl rfl rfl rfl rfl ?_⟩|refine⟨G1 [0] [0] r5 rfl rfl rfl rfl rfl ⟨rfl,trivial⟩ rfl rfl rfl rfl rfl ?_⟩|refine⟨G1 [0] [0] r6 rfl rfl rfl rfl rfl ⟨rfl,trivial⟩ rfl rfl rfl rfl rfl ?_⟩|(refine A2 (x:=c) hc (by omega) ?_)|(refine A2 (x:=lx) mZ (by omega) ?_)|(refine A2 (x:=x) hx (by omega) ?_)|(refine F6 12 ?_;refine G9 (id:=12) ⟨[(6,.ref 2 0)],3,[(0,some (.box [.sl 1 (l.map N9),.i vb])),(2,some (.box [.i 2,.i ka,.i va,.i 0,.i 0,.v (.slice none 0 0)]))]⟩ ?_ ?_)|(refine F6 16 ?_;refine G9 (id:=16) ⟨[(0,.ref 0 0),(4,.ref 1 0),(6,.ref 2 0),(8,.i ma),(9,.i (x.low+(-3+ra)))],3,[(0,some (.box [.sl 1 (l.map N9),.i rb])),(1,some (.box (sL s))),(2,some (.box [.i 0,.i 0,.i 0,.i 0,.i 0,.v (.slice none 0 0)]))]⟩ ?_ ?_) |refine S2 ?_|(refine T6 ?_ ?_<;>intro h<;>try exact V1 h)|intro el lU lV|intro el lU|exact T4|refine T5 ?_ ?_|intro ex)<;>try conv=>whnf)
  all_goals first
   |exact A6 h0
   |exact A6 h0
   |(rw[if_pos (by assumption)];exact I7 (rvs:=[.cell 6 CP]) (vs:=[_]) ⟨2,_,_,rfl,rfl,inferInstance,rfl,rfl,trivial⟩ rfl rfl (B5 (N2 6 _ rfl (l6 2 ka va 0 0)) (A6 h0)) rfl)
   |(rw[if_neg (by omega),if_pos (by omega)];exact I7 (rvs:=[.cell 6 CP]) (vs:=[_]) ⟨2,_,_,rfl,rfl,inferInstance,rfl,rfl,trivial⟩ rfl rfl (B5 (N2 6 _ rfl (l6 3 ma 0 (x.low+(-3+ra)) (x.low+(-3+ra)+ua))) (A6 h0)) rfl)
   |(rw[if_neg (by omega),if_neg (by omega),if_pos (by omega),if_pos (by assumption)];exact I7 (rvs:=[.cell 6 CP]) (vs:=[_]) ⟨2,_,_,rfl,rfl,inferInstance,rfl,rfl,trivial⟩ rfl rfl (B5 (N2 6 _ rfl (l6 4 ma 0 0 0)) (A6 h0)) rfl)
   |(rw[if_neg (by omega),if_neg (by omega),if_pos (by omega),if_neg (by assumption)];exact I7 (rvs:=[.cell 6 CP]) (vs:=[_]) ⟨2,_,_,rfl,rfl,inferInstance,rfl,rfl,trivial⟩ rfl rfl (B5 (N2 6 _ rfl (l6 1 0 0 0 0)) (A6 h0)) rfl)
   |(rw[if_neg (by omega),if_neg (by omega),if_pos (by omega),if_neg (by rw[h];exact Bool.false_ne_true)];exact I7 (rvs:=[.cell 6 CP]) (vs:=[_]) ⟨2,_,_,rfl,rfl,inferInstance,rfl,rfl,trivial⟩ rfl rfl (B5 (N2 6 _ rfl (l6 1 0 0 0 0)) (A6 h0)) rfl)
   |(rw[if_neg (by omega),if_neg (by omega),if_neg (by omega)];exact I7 (rvs:=[.cell 6 CP]) (vs:=[_]) ⟨2,_,_,rfl,rfl,inferInstance,rfl,rfl,trivial⟩ rfl rfl (B5 (N2 6 _ rfl (l6 1 0 0 0 0)) (A6 h0)) rfl)
 |succ d ih =>
  intro a hd10
  have e1:(((d+1:Nat):Int)-1)=(d:Int):=by omega
  unfold o5 KT
  have r0:=H7 l a 5 hl
  have g5:=H1 l a (n:=5) (by omega)
  generalize B8 l a 5=p at *
  obtain⟨p1,p2⟩:=p
  dsimp only at r0 g5 ⊢
  have hX:=ih p2 (by omega)
  rw[←e1]at hX
  generalize o5 l s d p2=X at *
  obtain⟨X1,X2⟩:=X
  dsimp only at hX ⊢
  have hY:=ih X2 (by omega)
  rw[←e1]at hY
  generalize o5 l s d X2=Y at *
  obtain⟨Y1,Y2⟩:=Y
  dsimp only at hY ⊢
  have r1:=H7 l p2 5 hl
  have h5:=H1 l a (n:=5) (by omega)
  generalize B8 l p2 5=q at *
  obtain⟨q1,q2⟩:=q
  dsimp only at r1 h5 ⊢
  have r2:=Nj l q2 s hd hl
  obtain⟨_,k1,k2⟩:=Dg (l:=l) (a:=q2) hd.two.1
  generalize AL l q2 s 2=k at *
  obtain⟨ka,kb⟩:=k
  dsimp only at r2 k1 k2 ⊢
  obtain⟨c,hc⟩:∃c,s.cols[ka]?=some c:=⟨_,List.getElem?_eq_getElem k1⟩
  have lm:C0 s ka=c:=C1 (by simpa using hc)
  rw[lm]at k2 ⊢
  obtain⟨nS,_⟩:=hd.lvs hc k2
  obtain⟨lx,mZ⟩:∃lx,s.lists[c.lst.toNat]?=some lx:=⟨_,List.getElem?_eq_getElem (by omega)⟩
  rw[H8 mZ]
  have r3:=H7 l kb lx.2.length hl
  have r4:=CA l q2 s hd hl
  obtain⟨_,m1,m2⟩:=Dg (l:=l) (a:=q2) hd.two.2
  generalize AL l q2 s 3=m at *
  obtain⟨ma,mb⟩:=m
  dsimp only at r4 m1 m2 ⊢
  obtain⟨x,hx⟩:∃x,s.cols[ma]?=some x:=⟨_,List.getElem?_eq_getElem m1⟩
  have sq:C0 s ma=x:=C1 (by simpa using hx)
  rw[sq]at m2 ⊢
  have hxb:-4≤x.low∧x.low≤2:=by
   rcases hd.col hx with ⟨_,rfl⟩|⟨_,rfl|rfl⟩|⟨_,nm,hm⟩
   ·cases m2
   ·cases m2
   ·cases m2
   ·exact hm.low
  have r5:=S8 l mb (-3) 40 hl (by omega) (by omega) (by omega)
  rw[show (40:Int) - -3+1=44 from rfl]at r5
  have wr:=H1 l mb (n:=44) (by omega)
  generalize B8 l mb 44=r at *
  obtain⟨ra,rb⟩:=r
  dsimp only at r5 wr ⊢
  have r6:=H7 l rb 30 hl
  have wv:=H1 l rb (n:=30) (by omega)
  generalize B8 l rb 30=u at *
  obtain⟨ua,ub⟩:=u
  generalize B8 l kb lx.2.length=v at *
  obtain⟨va,vb⟩:=v
  dsimp only at r3 r6 wv ⊢
  clear ih e1
  refine V9 Tryz.func21 111 fun E h0=>?_
  repeat'((first|refine⟨G1 [0] [0] r0 rfl rfl rfl rfl rfl ⟨rfl,trivial⟩ rfl rfl rfl rfl rfl ?_⟩|refine⟨G1 [0] [0] hX rfl rfl rfl rfl rfl ⟨rfl,trivial⟩ rfl rfl rfl rfl rfl ?_⟩|refine⟨G1 [0] [0] hY rfl rfl rfl rfl rfl ⟨rfl,trivial⟩ rfl rfl rfl rfl rfl ?_⟩|(refine F6 6 ?_;refine G9 (id:=6) ⟨[(6,.ref 2 0)],3,[(0,some (.box [.sl 1 (l.map N9),.i Y2])),(2,some (.box [.i 5,.i 0,.i 0,.i 0,.i 0,.sl 6 [I6 X1,I6 Y1]]))]⟩ ?_ ?_)|(refine F6 8 ?_;refine G9 (id:=8) ⟨[(6,.ref 2 0)],3,[(0,some (.box [.sl 1 (l.map N9),.i Y2])),(2,some (.box [.i 6,.i 0,.i 0,.i 0,.i 0,.sl 6 [I6 X1,I6 Y1]]))]⟩ ?_ ?_)|refine⟨G1 [0] [0] r1 rfl rfl rfl rfl rfl ⟨rfl,trivial⟩ rfl rfl rfl rfl rfl ?_⟩|refine⟨G1 [0] [0] r2 rfl rfl rfl rfl rfl ⟨rfl,trivial⟩ rfl rfl rfl rfl rfl ?_⟩|refine⟨G1 [0] [0] r3 rfl rfl rfl rfl rfl ⟨rfl,trivial⟩ rfl rfl rfl rfl rfl ?_⟩|refine⟨G1 [0] [0] r4 rfl rfl rfl rfl rfl ⟨rfl,trivial⟩ rfl rfl rfl rfl rfl ?_⟩|refine⟨G1 [0] [0] r5 rfl rfl rfl rfl rfl ⟨rfl,trivial⟩ rfl rfl rfl rfl rfl ?_⟩|refine⟨G1 [0] [0] r6 rfl rfl rfl rfl rfl ⟨rfl,trivial⟩ rfl rfl rfl rfl rfl ?_⟩|(refine A2 (x:=c) hc (by omega) ?_)|(refine A2 (x:=lx) mZ (by omega) ?_)|(refine A2 (x:=x) hx (by omega) ?_)|(refine F6 12 ?_;refine G9 (id:=12) ⟨[(6,.ref 2 0)],3,[(0,some (.box [.sl 1 (l.map N9),.i vb])),(2,some (.box [.i 2,.i ka,.i va,.i 0,.i 0,.v (.slice none 0 0)]))]⟩ ?_ ?_)|(refine F6 16 ?_;refine G9 (id:=16) ⟨[(0,.ref 0 0),(4,.ref 1 0),(6,.ref 2 0),(8,.i ma),(9,.i (x.low+(-3+ra)))],3,[(0,some (.box [.sl 1 (l.map N9),.i rb])),(1,some (.box (sL s))),(2,some (.box [.i 0,.i 0,.i 0,.i 0,.i 0,.v (.slice none 0 0)]))]⟩ ?_ ?_) |refine S2 ?_|(refine T6 ?_ ?_<;>intro h<;>try exact V1 h)|intro el lU lV|intro el lU|exact T4|refine T5 ?_ ?_|intro ex)<;>try conv=>whnf)
  all_goals first
   |(rw[if_pos (by assumption)];exact I7 (rvs:=[.cell 6 CP]) (vs:=[_]) ⟨2,_,_,rfl,rfl,inferInstance,rfl,rfl,trivial⟩ rfl rfl (B5 (N2 6 _ rfl (jN 7 X1)) (A6 h0)) rfl)
   |(rw[if_neg (by omega),if_pos (by assumption)];exact I7 (rvs:=[.cell 6 CP]) (vs:=[_]) ⟨2,_,_,rfl,rfl,inferInstance,rfl,rfl,trivial⟩ rfl rfl (B5 (N2 6 _ rfl (aQ 5 X1 Y1)) (A6 h0)) rfl)
   |(rw[if_neg (by omega),if_neg (by omega),if_pos (by assumption)];exact I7 (rvs:=[.cell 6 CP]) (vs:=[_]) ⟨2,_,_,rfl,rfl,inferInstance,rfl,rfl,trivial⟩ rfl rfl (B5 (N2 6 _ rfl (aQ 6 X1 Y1)) (A6 h0)) rfl)
   |exact A6 h0
   |exact A6 h0
   |(rw[if_neg (by omega),if_neg (by omega),if_neg (by omega),if_pos (by assumption)];exact I7 (rvs:=[.cell 6 CP]) (vs:=[_]) ⟨2,_,_,rfl,rfl,inferInstance,rfl,rfl,trivial⟩ rfl rfl (B5 (N2 6 _ rfl (l6 2 ka va 0 0)) (A6 h0)) rfl)
   |(rw[if_neg (by omega),if_neg (by omega),if_neg (by omega),if_neg (by omega),if_pos (by omega)];exact I7 (rvs:=[.cell 6 CP]) (vs:=[_]) ⟨2,_,_,rfl,rfl,inferInstance,rfl,rfl,trivial⟩ rfl rfl (B5 (N2 6 _ rfl (l6 3 ma 0 (x.low+(-3+ra)) (x.low+(-3+ra)+ua))) (A6 h0)) rfl)
   |(rw[if_neg (by omega),if_neg (by omega),if_neg (by omega),if_neg (by omega),if_neg (by omega),if_pos (by omega),if_pos (by assumption)];exact I7 (rvs:=[.cell 6 CP]) (vs:=[_]) ⟨2,_,_,rfl,rfl,inferInstance,rfl,rfl,trivial⟩ rfl rfl (B5 (N2 6 _ rfl (l6 4 ma 0 0 0)) (A6 h0)) rfl)
   |(rw[if_neg (by omega),if_neg (by omega),if_neg (by omega),if_neg (by omega),if_neg (by omega),if_pos (by omega),if_neg (by assumption)];exact I7 (rvs:=[.cell 6 CP]) (vs:=[_]) ⟨2,_,_,rfl,rfl,inferInstance,rfl,rfl,trivial⟩ rfl rfl (B5 (N2 6 _ rfl (l6 1 0 0 0 0)) (A6 h0)) rfl)
   |(rw[if_neg (by omega),if_neg (by omega),if_neg (by omega),if_neg (by omega),if_neg (by omega),if_pos (by omega),if_neg (by rw[h];exact Bool.false_ne_true)];exact I7 (rvs:=[.cell 6 CP]) (vs:=[_]) ⟨2,_,_,rfl,rfl,inferInstance,rfl,rfl,trivial⟩ rfl rfl (B5 (N2 6 _ rfl (l6 1 0 0 0 0)) (A6 h0)) rfl)
   |(rw[if_neg (by omega),if_neg (by omega),if_neg (by omega),if_neg (by omega),if_neg (by omega),if_neg (by omega)];exact I7 (rvs:=[.cell 6 CP]) (vs:=[_]) ⟨2,_,_,rfl,rfl,inferInstance,rfl,rfl,trivial⟩ rfl rfl (B5 (N2 6 _ rfl (l6 1 0 0 0 0)) (A6 h0)) rfl)
end Go.Proofs.YtiphlhoclaogjaaGreatDoor

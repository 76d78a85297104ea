/- Draws: what drawn rows are like. Draws: columns of a kind; boxes that say the same with empty rows for nothing laid. -/
import Derived.Test.YtkcekccdcpmekaaGreatDoorQB13
import Derived.Test.YtkcekccdcpmekaaGreatDoorQB12
import Derived.Test.YtkcekccdcpmekaaGreatDoorQB5
import Derived.Test.YtkcekccdcpmekaaGreatDoorQC1
import Derived.Test.YtkcekccdcpmekaaGreatDoorQCm1
import Derived.Test.YtkcekccdcpmekaaGreatDoorQSx
set_option linter.unusedVariables false
set_option linter.unnecessarySimpa false
set_option linter.unusedSimpArgs false
set_option maxHeartbeats 64000000
namespace Go.Proofs.YtkcekccdcpmekaaGreatDoor
open Go Go.Av
attribute [local irreducible] E8 B5 E5 E1 DQ E7 E9 St.le A4 A9
set_option maxRecDepth 100000
theorem a8{E:Env}{n:Nat}{σ:St}(i:Nat){l:List AV}(l':List AV)(hb:A7 σ.hp i=some (.box l))(hn:Gz l l'):St.le E n σ (σ.set i (.box l')):=by
 unfold St.le
 rintro a w ⟨θ,h⟩
 obtain⟨kf,ke⟩:=hn.get
 obtain⟨_,b,lL,ty,h1,h2,h3,h4⟩:=h.owns i _ hb
 have ht:=h.turn (v':=θ i) (b':=.box l') (w':=w) hb rfl rfl rfl (Nat.le_refl _) (fun _ _ _=>rfl) (fun k hk=>.inl hk) rfl fun le=>?_
 ·exact⟨_,ht⟩
 ·refine⟨b,lL,ty,by simp only[cx,G8];exact h1,h2,by omega,fun j x y hx hy=>?_⟩
  obtain⟨x0,rQ⟩:=R9 kf hx
  exact MM (ke j x0 x rQ hx) ((h4 j x0 y rQ hy).mono le)
def H9(s:A5)(kind:Int)(k:Nat):List Nat:=(List.range k).filter fun i=>decide ((C7 s i).kind=kind)
theorem Fg(s:A5)(kind:Int)(k:Nat):(H9 s kind k).length≤k:=by
 have:=List.length_filter_le (fun i:Nat=>decide ((C7 s i).kind=kind)) (List.range k)
 simpa [H9]using this
theorem Ol{s:A5}{kind:Int}{k:Nat}(h:(C7 s k).kind=kind):H9 s kind (k+1)=H9 s kind k++[k]:=by
 simp[H9,List.range_succ,List.filter_append,h]
theorem RW{s:A5}{kind:Int}{k:Nat}(h:¬(C7 s k).kind=kind):H9 s kind (k+1)=H9 s kind k:=by
 simp[H9,List.range_succ,List.filter_append,h]
theorem AC{s:A5}{kind:Int}{i:Nat}:i∈H9 s kind s.cols.length↔i<s.cols.length∧(C7 s i).kind=kind:=by
 unfold H9
 rw[List.mem_filter,List.mem_range,decide_eq_true_eq]
theorem DN(s:A5)(kind:Int)(kf:s.cols.length≤1000):A4 Tryz.prog 54 [sA s,.i kind] (.sl 1 ((H9 s kind s.cols.length).map iA)):=by
 refine D0 Tryz.func54 27 fun ki E h0=>?_
 clear ki
 repeat'((first|refine S2 ?_|(refine T6 ?_ ?_<;>intro h<;>try exact V1 h)|intro el ke kg|intro el ke|exact T4|refine T5 ?_ ?_|intro ex)<;>try conv=>whnf)
 refine D5 (ι:=Nat) (fun k=>⟨[(1,.i kind),(2,.ref 0 0),(5,.row 1 0 (H9 s kind k).length),(9,.i s.cols.length),(10,.i k)],2,[(0,some (.box (sL s))),(1,some (.row 3 1 0 ((H9 s kind k).map iA)))]⟩) (fun k=>k≤s.cols.length) (fun k=>s.cols.length-k) 0 (Nat.zero_le _)
  (B4 (Dq (d:=5) (e:=3) (sz:=1) rfl) (B0 h0 rfl ⟨rfl,rfl,rfl,rfl,rfl,trivial⟩ ⟨rfl,⟨0,rfl⟩,trivial⟩ rfl rfl rfl)) (fun k hk=>?_)
 have vn:=Fg s kind k
 have nK:∀el,s.cols[k]?=some el→C7 s k=el:=fun el h=>D4 (by simpa using h)
 repeat'((first|refine S2 ?_|(refine T6 ?_ ?_<;>intro h<;>try exact V1 h)|intro el ke kg|intro el ke|exact T4|refine T5 ?_ ?_|intro ex)<;>try conv=>whnf)
 all_goals first
  |(have hy:(C7 s k).kind=kind:=by rw[nK _ ke];assumption
    exact⟨k+1,by omega,by omega,B0 h0 rfl ⟨rfl,rfl,congrArg (fun z:Nat=>some (AV.row 1 0 z)) (by rw[Ol hy,List.length_append];rfl),rfl,rfl,trivial⟩ ⟨rfl,⟨_,congrArg (G1.row 3 1 _) (by rw[Ol hy,List.map_append];rfl)⟩,trivial⟩ rfl rfl rfl⟩)
  |(have hy:¬(C7 s k).kind=kind:=by rw[nK _ ke];assumption
    exact⟨k+1,by omega,by omega,B0 h0 rfl ⟨rfl,rfl,congrArg (fun z:Nat=>some (AV.row 1 0 z)) (by rw[RW hy]),rfl,rfl,trivial⟩ ⟨rfl,⟨_,congrArg (fun z=>G1.row 3 1 0 (z.map iA)) (RW hy)⟩,trivial⟩ rfl rfl rfl⟩)
  |exact A3 rfl (congrArg (fun z=>AV.sl 1 ((H9 s kind z).map iA)) (by omega))
def AN(l:List UInt8)(a:Nat)(s:A5)(kind:Int):Nat×Nat:=((H9 s kind s.cols.length).getD (B8 l a (H9 s kind s.cols.length).length).1 0,(B8 l a (H9 s kind s.cols.length).length).2)
theorem BL{l:List UInt8}{a:Nat}{s:A5}{kind:Int}(h:1≤(H9 s kind s.cols.length).length):(H9 s kind s.cols.length)[(B8 l a (H9 s kind s.cols.length).length).1]?=some (AN l a s kind).1∧(AN l a s kind).1<s.cols.length∧(C7 s (AN l a s kind).1).kind=kind:=by
 have hn:=I7 l a (n:=(H9 s kind s.cols.length).length) (by omega)
 have kj:(B8 l a (H9 s kind s.cols.length).length).1<(H9 s kind s.cols.length).length:=by omega
 have e:(H9 s kind s.cols.length)[(B8 l a (H9 s kind s.cols.length).length).1]?=some (AN l a s kind).1:=by
  unfold AN
  dsimp only
  rw[List.getD_eq_getElem?_getD,List.getElem?_eq_getElem kj]
  rfl
 exact⟨e,AC.1 (List.mem_of_getElem? e)⟩
theorem F7.two{s:A5}(h:F7 s):1≤(H9 s 2 s.cols.length).length∧1≤(H9 s 3 s.cols.length).length:=by
 have hl:=h.lens
 obtain⟨b,ms,h1,h2,h3,h4⟩:=h.cs
 have m2:1∈H9 s 2 s.cols.length:=by
  refine AC.2 ⟨by omega,?_⟩
  have:s.cols[1]?=some GX:=by rw[h1];cases b<;>rfl
  rw[show C7 s ((1:Nat):Int)=GX from D4 (by simpa using this)]
  rfl
 have m3:(Q7 b).length∈H9 s 3 s.cols.length:=by
  have hm:ms[0]?=some (ms[0]'(by omega)):=List.getElem?_eq_getElem (by omega)
  have hc:s.cols[(Q7 b).length]?=some (ms[0]'(by omega)):=by rw[h1,List.getElem?_append_right (Nat.le_refl _),Nat.sub_self];exact hm
  refine AC.2 ⟨S8 hc,?_⟩
  rw[show C7 s (((Q7 b).length:Nat):Int)=_ from D4 (by simpa using hc)]
  exact(h4 0 _ hm).kind
 exact⟨List.length_pos_of_mem m2,List.length_pos_of_mem m3⟩
theorem Mo(l:List UInt8)(a:Nat)(s:A5)(hd:F7 s)(hl:l.length≤400):A9 Tryz.prog 53 1 (E6 l a) [.ref 0 0,sA s] 1 (E6 l (AN l a s 2).2) (.i (AN l a s 2).1):=by
 have hc:=DN s 2 (by have:=hd.lens;omega)
 have hn:=K8 l a (H9 s 2 s.cols.length).length hl
 have hk:=(BL (l:=l) (a:=a) hd.two.1).1
 have nA:=Fg s 2 s.cols.length
 have qZ:=hd.lens
 refine G4 Tryz.func53 15 fun E h0=>?_
 repeat'((first|refine A0 hc ?_|refine⟨C4 [0] [0] hn rfl rfl rfl rfl rfl ⟨rfl,trivial⟩ rfl rfl rfl rfl rfl ?_⟩|(refine A2 hk (by omega) ?_) |refine S2 ?_|(refine T6 ?_ ?_<;>intro h<;>try exact V1 h)|intro el ke kg|intro el ke|exact T4|refine T5 ?_ ?_|intro ex)<;>try conv=>whnf)
 all_goals exact D9 (B2 h0)
theorem Ek(l:List UInt8)(a:Nat)(s:A5)(hd:F7 s)(hl:l.length≤400):A9 Tryz.prog 25 1 (E6 l a) [.ref 0 0,sA s] 1 (E6 l (AN l a s 3).2) (.i (AN l a s 3).1):=by
 have hc:=DN s 3 (by have:=hd.lens;omega)
 have hn:=K8 l a (H9 s 3 s.cols.length).length hl
 have hk:=(BL (l:=l) (a:=a) hd.two.2).1
 have nA:=Fg s 3 s.cols.length
 have qZ:=hd.lens
 refine G4 Tryz.func25 15 fun E h0=>?_
 repeat'((first|refine A0 hc ?_|refine⟨C4 [0] [0] hn rfl rfl rfl rfl rfl ⟨rfl,trivial⟩ rfl rfl rfl rfl rfl ?_⟩|(refine A2 hk (by omega) ?_) |refine S2 ?_|(refine T6 ?_ ?_<;>intro h<;>try exact V1 h)|intro el ke kg|intro el ke|exact T4|refine T5 ?_ ?_|intro ex)<;>try conv=>whnf)
 all_goals exact D9 (B2 h0)
theorem H4{E:Env}{n:Nat}{σ:St}(d:Nat){x:AV}(y:AV)(hd:Av.look σ.sl d=some x)(hn:NL x y):St.le E n σ (σ.put d y):=by
 unfold St.le
 rintro a w ⟨θ,h⟩
 refine⟨θ,h.size,h.defers,h.fr,fun s z hs=>?_,h.owns,h.apart,h.mine,h.X,h.base⟩
 simp only[St.put,I1]at hs
 by_cases e:d=s
 ·subst e
  rw[if_pos rfl]at hs
  cases hs
  exact MM hn (h.slots d x hd)
 ·rw[if_neg e]at hs
  exact h.slots s z hs
def CX(l:List UInt8)(s:A5)(a:Nat):A1×Nat :=
 let q:=B8 l a 5
 if (q.1:Int)=1 then
  let k:=AN l q.2 s 2
  let n:=B8 l k.2 (E2 s (C7 s k.1)).2.length
  (.mk 2 k.1 n.1 0 0 [],n.2)
 else if (q.1:Int)=2∨(q.1:Int)=3 then
  let k:=AN l q.2 s 3
  let r:=B8 l k.2 44
  let h:=B8 l r.2 30
  (.mk 3 k.1 0 ((C7 s k.1).low+(-3+r.1)) ((C7 s k.1).low+(-3+r.1)+h.1) [],h.2)
 else if (q.1:Int)=4 then
  let k:=AN l q.2 s 3
  (if (C7 s k.1).opt=true then .mk 4 k.1 0 0 0 []else .mk 1 0 0 0 0 [],k.2)
 else (.mk 1 0 0 0 0 [],q.2)
def L9(l:List UInt8)(s:A5):Nat→Nat→A1×Nat
 |0,a=>CX l s a
 |d+1,a =>
  let q:=B8 l a 5
  if (q.1:Int)=2 then
   let x:=L9 l s d q.2
   (.mk 7 0 0 0 0 [x.1],x.2)
  else if (q.1:Int)=3 then
   let x:=L9 l s d q.2
   let y:=L9 l s d x.2
   (.mk 5 0 0 0 0 [x.1,y.1],y.2)
  else if (q.1:Int)=4 then
   let x:=L9 l s d q.2
   let y:=L9 l s d x.2
   (.mk 6 0 0 0 0 [x.1,y.1],y.2)
  else CX l s q.2
theorem I4(o c k lo hi:Int):NL (.agg [.i o,.i c,.i k,.i lo,.i hi,.v (.slice none 0 0)]) (G9 (.mk o c k lo hi [])) :=
 HA ⟨.refl _,.refl _,.refl _,.refl _,.refl _,.nil 6,trivial⟩
theorem RX(o:Int)(x:A1):NL (.agg [.i o,.i 0,.i 0,.i 0,.i 0,.sl 6 [I9 x]]) (G9 (.mk o 0 0 0 0 [x])):=by
 rw[←Jy];exact .refl _
theorem EX(o:Int)(x y:A1):NL (.agg [.i o,.i 0,.i 0,.i 0,.i 0,.sl 6 [I9 x,I9 y]]) (G9 (.mk o 0 0 0 0 [x,y])):=by
 rw[←Jy,←Jy];exact .refl _
abbrev Q6:Nat:=32
theorem GH(l:List UInt8)(s:A5)(hd:F7 s)(hl:l.length≤400)(d:Nat):∀a:Nat,d≤10→A9 Tryz.prog 23 1 (E6 l a) [.ref 0 0,sA s,.i d] 1 (E6 l (L9 l s d a).2) (G9 (L9 l s d a).1):=by
 induction d with
 |zero =>
  intro a _
  show A9 _ _ _ _ _ _ (E6 l (CX l s a).2) (G9 (CX l s a).1)
  unfold CX
  have r1:=K8 l a 5 hl
  have h5:=I7 l a (n:=5) (by omega)
  generalize B8 l a 5=q at *
  obtain⟨q1,q2⟩:=q
  dsimp only at r1 h5 ⊢
  have r2:=Mo l q2 s hd hl
  obtain⟨_,k1,k2⟩:=BL (l:=l) (a:=q2) hd.two.1
  generalize AN l q2 s 2=k at *
  obtain⟨ka,kb⟩:=k
  dsimp only at r2 k1 k2 ⊢
  obtain⟨c,hc⟩:∃c,s.cols[ka]?=some c:=⟨_,List.getElem?_eq_getElem k1⟩
  have nK:C7 s ka=c:=D4 (by simpa using hc)
  rw[nK]at k2 ⊢
  obtain⟨oK,_⟩:=hd.lvs hc k2
  obtain⟨lx,lr⟩:∃lx,s.lists[c.lst.toNat]?=some lx:=⟨_,List.getElem?_eq_getElem (by omega)⟩
  rw[M8 lr]
  have r3:=K8 l kb lx.2.length hl
  have r4:=Ek l q2 s hd hl
  obtain⟨_,m1,m2⟩:=BL (l:=l) (a:=q2) hd.two.2
  generalize AN l q2 s 3=m at *
  obtain⟨ma,mb⟩:=m
  dsimp only at r4 m1 m2 ⊢
  obtain⟨x,hx⟩:∃x,s.cols[ma]?=some x:=⟨_,List.getElem?_eq_getElem m1⟩
  have pK:C7 s ma=x:=D4 (by simpa using hx)
  rw[pK]at m2 ⊢
  have wN:-4≤x.low∧x.low≤2:=by
   rcases hd.col hx with ⟨_,rfl⟩|⟨_,rfl|rfl⟩|⟨_,nm,hm⟩
   ·cases m2
   ·cases m2
   ·cases m2
   ·exact hm.low
  have r5:=p0 l mb (-3) 40 hl (by omega) (by omega) (by omega)
  rw[show (40:Int) - -3+1=44 from rfl]at r5
  have uD:=I7 l mb (n:=44) (by omega)
  generalize B8 l mb 44=r at *
  obtain⟨ra,rb⟩:=r
  dsimp only at r5 uD ⊢
  have r6:=K8 l rb 30 hl
  have uG:=I7 l rb (n:=30) (by omega)
  generalize B8 l rb 30=u at *
  obtain⟨ua,ub⟩:=u
  generalize B8 l kb lx.2.length=v at *
  obtain⟨va,vb⟩:=v
  dsimp only at r3 r6 uG ⊢
  refine G4 Tryz.func23 111 fun E h0=>?_
  repeat'((first|refine⟨C4 [0] [0] r1 rfl rfl rfl rfl rfl ⟨rfl,trivial⟩ rfl rfl rfl rfl rfl ?_⟩|refine⟨C4 [0] [0] r2 rfl rfl rfl rfl rfl ⟨rfl,trivial⟩ rfl rfl rfl rfl rfl ?_⟩|refine⟨C4 [0] [0] r3 rfl rfl rfl rfl rfl ⟨rfl,trivial⟩ rfl rfl rfl rfl rfl ?_⟩|refine⟨C4 [0] [0] r4 rfl rfl rfl rfl rfl ⟨rfl,trivial⟩ rfl rfl rfl rfl rfl ?_⟩|refine⟨C4 [0] [0] r5 rfl rfl rfl rfl rfl ⟨rfl,trivial⟩ rfl rfl rfl rfl rfl ?_⟩|refine⟨C4 [0] [0] r6 rfl rfl rfl rfl rfl ⟨rfl,trivial⟩ rfl rfl rfl rfl rfl ?_⟩|(refine A2 (x:=c) hc (by omega) ?_)|(refine A2 (x:=lx) lr (by omega) ?_)|(refine A2 (x:=x) hx (by omega) ?_)|(refine B6 12 ?_;refine C5 (id:=12) ⟨[(6,.ref 2 0)],3,[(0,some (.box [.sl 1 (l.map X9),.i vb])),(2,some (.box [.i 2,.i ka,.i va,.i 0,.i 0,.v (.slice none 0 0)]))]⟩ ?_ ?_)|(refine B6 16 ?_;refine C5 (id:=16) ⟨[(0,.ref 0 0),(4,.ref 1 0),(6,.ref 2 0),(8,.i ma),(9,.i (x.low+(-3+ra)))],3,[(0,some (.box [.sl 1 (l.map X9),.i rb])),(1,some (.box (sL s))),(2,some (.box [.i 0,.i 0,.i 0,.i 0,.i 0,.v (.slice none 0 0)]))]⟩ ?_ ?_) |refine S2 ?_|(refine T6 ?_ ?_<;>intro h<;>try exact V1 h)|intro el ke kg|intro el ke|exact T4|refine T5 ?_ ?_|intro ex)<;>try conv=>whnf)
  all_goals first
   |exact B0 h0 rfl ⟨rfl,trivial⟩ ⟨rfl,rfl,trivial⟩ rfl rfl rfl
   |exact B0 h0 rfl ⟨rfl,rfl,rfl,rfl,rfl,trivial⟩ ⟨rfl,rfl,rfl,trivial⟩ rfl rfl rfl
   |(rw[if_pos (by assumption)];exact C9 (rvs:=[.cell 6 Q6]) (vs:=[_]) ⟨2,_,_,rfl,rfl,inferInstance,rfl,rfl,trivial⟩ rfl rfl (B4 (H4 6 _ rfl (I4 2 ka va 0 0)) (B2 h0)) rfl)
   |(rw[if_neg (by omega),if_pos (by omega)];exact C9 (rvs:=[.cell 6 Q6]) (vs:=[_]) ⟨2,_,_,rfl,rfl,inferInstance,rfl,rfl,trivial⟩ rfl rfl (B4 (H4 6 _ rfl (I4 3 ma 0 (x.low+(-3+ra)) (x.low+(-3+ra)+ua))) (B2 h0)) rfl)
   |(rw[if_neg (by omega),if_neg (by omega),if_pos (by omega),if_pos (by assumption)];exact C9 (rvs:=[.cell 6 Q6]) (vs:=[_]) ⟨2,_,_,rfl,rfl,inferInstance,rfl,rfl,trivial⟩ rfl rfl (B4 (H4 6 _ rfl (I4 4 ma 0 0 0)) (B2 h0)) rfl)
   |(rw[if_neg (by omega),if_neg (by omega),if_pos (by omega),if_neg (by assumption)];exact C9 (rvs:=[.cell 6 Q6]) (vs:=[_]) ⟨2,_,_,rfl,rfl,inferInstance,rfl,rfl,trivial⟩ rfl rfl (B4 (H4 6 _ rfl (I4 1 0 0 0 0)) (B2 h0)) rfl)
   |(rw[if_neg (by omega),if_neg (by omega),if_pos (by omega),if_neg (by rw[h];exact Bool.false_ne_true)];exact C9 (rvs:=[.cell 6 Q6]) (vs:=[_]) ⟨2,_,_,rfl,rfl,inferInstance,rfl,rfl,trivial⟩ rfl rfl (B4 (H4 6 _ rfl (I4 1 0 0 0 0)) (B2 h0)) rfl)
   |(rw[if_neg (by omega),if_neg (by omega),if_neg (by omega)];exact C9 (rvs:=[.cell 6 Q6]) (vs:=[_]) ⟨2,_,_,rfl,rfl,inferInstance,rfl,rfl,trivial⟩ rfl rfl (B4 (H4 6 _ rfl (I4 1 0 0 0 0)) (B2 h0)) rfl)
 |succ d ih =>
  intro a hd10
  have e1:(((d+1:Nat):Int)-1)=(d:Int):=by omega
  unfold L9 CX
  have r0:=K8 l a 5 hl
  have g5:=I7 l a (n:=5) (by omega)
  generalize B8 l a 5=p at *
  obtain⟨p1,p2⟩:=p
  dsimp only at r0 g5 ⊢
  have hX:=ih p2 (by omega)
  rw[←e1]at hX
  generalize L9 l s d p2=X at *
  obtain⟨X1,X2⟩:=X
  dsimp only at hX ⊢
  have hY:=ih X2 (by omega)
  rw[←e1]at hY
  generalize L9 l s d X2=Y at *
  obtain⟨Y1,Y2⟩:=Y
  dsimp only at hY ⊢
  have r1:=K8 l p2 5 hl
  have h5:=I7 l a (n:=5) (by omega)
  generalize B8 l p2 5=q at *
  obtain⟨q1,q2⟩:=q
  dsimp only at r1 h5 ⊢
  have r2:=Mo l q2 s hd hl
  obtain⟨_,k1,k2⟩:=BL (l:=l) (a:=q2) hd.two.1
  generalize AN l q2 s 2=k at *
  obtain⟨ka,kb⟩:=k
  dsimp only at r2 k1 k2 ⊢
  obtain⟨c,hc⟩:∃c,s.cols[ka]?=some c:=⟨_,List.getElem?_eq_getElem k1⟩
  have nK:C7 s ka=c:=D4 (by simpa using hc)
  rw[nK]at k2 ⊢
  obtain⟨oK,_⟩:=hd.lvs hc k2
  obtain⟨lx,lr⟩:∃lx,s.lists[c.lst.toNat]?=some lx:=⟨_,List.getElem?_eq_getElem (by omega)⟩
  rw[M8 lr]
  have r3:=K8 l kb lx.2.length hl
  have r4:=Ek l q2 s hd hl
  obtain⟨_,m1,m2⟩:=BL (l:=l) (a:=q2) hd.two.2
  generalize AN l q2 s 3=m at *
  obtain⟨ma,mb⟩:=m
  dsimp only at r4 m1 m2 ⊢
  obtain⟨x,hx⟩:∃x,s.cols[ma]?=some x:=⟨_,List.getElem?_eq_getElem m1⟩
  have pK:C7 s ma=x:=D4 (by simpa using hx)
  rw[pK]at m2 ⊢
  have wN:-4≤x.low∧x.low≤2:=by
   rcases hd.col hx with ⟨_,rfl⟩|⟨_,rfl|rfl⟩|⟨_,nm,hm⟩
   ·cases m2
   ·cases m2
   ·cases m2
   ·exact hm.low
  have r5:=p0 l mb (-3) 40 hl (by omega) (by omega) (by omega)
  rw[show (40:Int) - -3+1=44 from rfl]at r5
  have uD:=I7 l mb (n:=44) (by omega)
  generalize B8 l mb 44=r at *
  obtain⟨ra,rb⟩:=r
  dsimp only at r5 uD ⊢
  have r6:=K8 l rb 30 hl
  have uG:=I7 l rb (n:=30) (by omega)
  generalize B8 l rb 30=u at *
  obtain⟨ua,ub⟩:=u
  generalize B8 l kb lx.2.length=v at *
  obtain⟨va,vb⟩:=v
  dsimp only at r3 r6 uG ⊢
  clear ih e1
  refine G4 Tryz.func23 111 fun E h0=>?_
  repeat'((first|refine⟨C4 [0] [0] r0 rfl rfl rfl rfl rfl ⟨rfl,trivial⟩ rfl rfl rfl rfl rfl ?_⟩|refine⟨C4 [0] [0] hX rfl rfl rfl rfl rfl ⟨rfl,trivial⟩ rfl rfl rfl rfl rfl ?_⟩|refine⟨C4 [0] [0] hY rfl rfl rfl rfl rfl ⟨rfl,trivial⟩ rfl rfl rfl rfl rfl ?_⟩|(refine B6 6 ?_;refine C5 (id:=6) ⟨[(6,.ref 2 0)],3,[(0,some (.box [.sl 1 (l.map X9),.i Y2])),(2,some (.box [.i 5,.i 0,.i 0,.i 0,.i 0,.sl 6 [I9 X1,I9 Y1]]))]⟩ ?_ ?_)|(refine B6 8 ?_;refine C5 (id:=8) ⟨[(6,.ref 2 0)],3,[(0,some (.box [.sl 1 (l.map X9),.i Y2])),(2,some (.box [.i 6,.i 0,.i 0,.i 0,.i 0,.sl 6 [I9 X1,I9 Y1]]))]⟩ ?_ ?_)|refine⟨C4 [0] [0] r1 rfl rfl rfl rfl rfl ⟨rfl,trivial⟩ rfl rfl rfl rfl rfl ?_⟩|refine⟨C4 [0] [0] r2 rfl rfl rfl rfl rfl ⟨rfl,trivial⟩ rfl rfl rfl rfl rfl ?_⟩|refine⟨C4 [0] [0] r3 rfl rfl rfl rfl rfl ⟨rfl,trivial⟩ rfl rfl rfl rfl rfl ?_⟩|refine⟨C4 [0] [0] r4 rfl rfl rfl rfl rfl ⟨rfl,trivial⟩ rfl rfl rfl rfl rfl ?_⟩|refine⟨C4 [0] [0] r5 rfl rfl rfl rfl rfl ⟨rfl,trivial⟩ rfl rfl rfl rfl rfl ?_⟩|refine⟨C4 [0] [0] r6 rfl rfl rfl rfl rfl ⟨rfl,trivial⟩ rfl rfl rfl rfl rfl ?_⟩|(refine A2 (x:=c) hc (by omega) ?_)|(refine A2 (x:=lx) lr (by omega) ?_)|(refine A2 (x:=x) hx (by omega) ?_)|(refine B6 12 ?_;refine C5 (id:=12) ⟨[(6,.ref 2 0)],3,[(0,some (.box [.sl 1 (l.map X9),.i vb])),(2,some (.box [.i 2,.i ka,.i va,.i 0,.i 0,.v (.slice none 0 0)]))]⟩ ?_ ?_)|(refine B6 16 ?_;refine C5 (id:=16) ⟨[(0,.ref 0 0),(4,.ref 1 0),(6,.ref 2 0),(8,.i ma),(9,.i (x.low+(-3+ra)))],3,[(0,some (.box [.sl 1 (l.map X9),.i rb])),(1,some (.box (sL s))),(2,some (.box [.i 0,.i 0,.i 0,.i 0,.i 0,.v (.slice none 0 0)]))]⟩ ?_ ?_) |refine S2 ?_|(refine T6 ?_ ?_<;>intro h<;>try exact V1 h)|intro el ke kg|intro el ke|exact T4|refine T5 ?_ ?_|intro ex)<;>try conv=>whnf)
  all_goals first
   |(rw[if_pos (by assumption)];exact C9 (rvs:=[.cell 6 Q6]) (vs:=[_]) ⟨2,_,_,rfl,rfl,inferInstance,rfl,rfl,trivial⟩ rfl rfl (B4 (H4 6 _ rfl (RX 7 X1)) (B2 h0)) rfl)
   |(rw[if_neg (by omega),if_pos (by assumption)];exact C9 (rvs:=[.cell 6 Q6]) (vs:=[_]) ⟨2,_,_,rfl,rfl,inferInstance,rfl,rfl,trivial⟩ rfl rfl (B4 (H4 6 _ rfl (EX 5 X1 Y1)) (B2 h0)) rfl)
   |(rw[if_neg (by omega),if_neg (by omega),if_pos (by assumption)];exact C9 (rvs:=[.cell 6 Q6]) (vs:=[_]) ⟨2,_,_,rfl,rfl,inferInstance,rfl,rfl,trivial⟩ rfl rfl (B4 (H4 6 _ rfl (EX 6 X1 Y1)) (B2 h0)) rfl)
   |exact B0 h0 rfl ⟨rfl,trivial⟩ ⟨rfl,rfl,trivial⟩ rfl rfl rfl
   |exact B0 h0 rfl ⟨rfl,rfl,rfl,rfl,rfl,trivial⟩ ⟨rfl,rfl,rfl,trivial⟩ rfl rfl rfl
   |(rw[if_neg (by omega),if_neg (by omega),if_neg (by omega),if_pos (by assumption)];exact C9 (rvs:=[.cell 6 Q6]) (vs:=[_]) ⟨2,_,_,rfl,rfl,inferInstance,rfl,rfl,trivial⟩ rfl rfl (B4 (H4 6 _ rfl (I4 2 ka va 0 0)) (B2 h0)) rfl)
   |(rw[if_neg (by omega),if_neg (by omega),if_neg (by omega),if_neg (by omega),if_pos (by omega)];exact C9 (rvs:=[.cell 6 Q6]) (vs:=[_]) ⟨2,_,_,rfl,rfl,inferInstance,rfl,rfl,trivial⟩ rfl rfl (B4 (H4 6 _ rfl (I4 3 ma 0 (x.low+(-3+ra)) (x.low+(-3+ra)+ua))) (B2 h0)) rfl)
   |(rw[if_neg (by omega),if_neg (by omega),if_neg (by omega),if_neg (by omega),if_neg (by omega),if_pos (by omega),if_pos (by assumption)];exact C9 (rvs:=[.cell 6 Q6]) (vs:=[_]) ⟨2,_,_,rfl,rfl,inferInstance,rfl,rfl,trivial⟩ rfl rfl (B4 (H4 6 _ rfl (I4 4 ma 0 0 0)) (B2 h0)) rfl)
   |(rw[if_neg (by omega),if_neg (by omega),if_neg (by omega),if_neg (by omega),if_neg (by omega),if_pos (by omega),if_neg (by assumption)];exact C9 (rvs:=[.cell 6 Q6]) (vs:=[_]) ⟨2,_,_,rfl,rfl,inferInstance,rfl,rfl,trivial⟩ rfl rfl (B4 (H4 6 _ rfl (I4 1 0 0 0 0)) (B2 h0)) rfl)
   |(rw[if_neg (by omega),if_neg (by omega),if_neg (by omega),if_neg (by omega),if_neg (by omega),if_pos (by omega),if_neg (by rw[h];exact Bool.false_ne_true)];exact C9 (rvs:=[.cell 6 Q6]) (vs:=[_]) ⟨2,_,_,rfl,rfl,inferInstance,rfl,rfl,trivial⟩ rfl rfl (B4 (H4 6 _ rfl (I4 1 0 0 0 0)) (B2 h0)) rfl)
   |(rw[if_neg (by omega),if_neg (by omega),if_neg (by omega),if_neg (by omega),if_neg (by omega),if_neg (by omega)];exact C9 (rvs:=[.cell 6 Q6]) (vs:=[_]) ⟨2,_,_,rfl,rfl,inferInstance,rfl,rfl,trivial⟩ rfl rfl (B4 (H4 6 _ rfl (I4 1 0 0 0 0)) (B2 h0)) rfl)
def Vz(f g:Nat→Int)(L:List Nat):Prop:=∀x∈L,∀y∈L,f x=f y→g x=g y
instance (f g:Nat→Int)(L:List Nat):Decidable (Vz f g L):=by unfold Vz;infer_instance
def aZ(a:A1)(x:H2)(km:Int):Prop :=
 if km=0 then x.opt=false∧¬(x.low<a.lo∧a.lo≤x.high)∧¬(x.low≤a.hi∧a.hi<x.high)
 else ((x.low<a.lo∧a.lo≤x.high)→a.lo.tmod (G3 x km)=0)∧((x.low≤a.hi∧a.hi<x.high)→(a.hi+1).tmod (G3 x km)=0)
instance (a:A1)(x:H2)(km:Int):Decidable (aZ a x km):=by unfold aZ;infer_instance
def kC(s:A5)(a:A1)(km:Int):Bool :=
 if a.op=2 then decide (Vz (fun x=>CQ (E2 s (C7 s a.col)).1 (E2 s (C7 s a.col)).2 x km) (fun x=>jW s a x) (Nh s a.col))
 else if a.op=4 then decide (0<km)else decide (aZ a (C7 s a.col) km)
theorem RY{s:A5}(hr:C8 s=0){a:A1}(ha:L0 s a=0)(ho:a.op=2∨a.op=3∨a.op=4):∃x,s.cols[a.col.toNat]?=some x∧1≤a.col∧a.col<s.cols.length∧(a.op=2→x.kind=2∧0≤x.lst∧x.lst<s.lists.length∧U6 s a.col=H3 (E2 s x).1 (E2 s x).2-1)∧(a.op≠2→x.kind=3∧meaE x=0∧U6 s a.col=x.widths.length)∧(a.op=3→a.lo≤a.hi∧-1000000≤a.lo∧a.hi≤1000000)∧(a.op=4→x.opt=true):=by
 obtain⟨p1,p2,p3,p4,p5,p6⟩:=DL ha
 have hc:=p3 ho
 obtain⟨x,hx⟩:∃x,s.cols[a.col.toNat]?=some x:=⟨_,List.getElem?_eq_getElem (by omega)⟩
 have pK:=D4 hx
 rw[pK]at p4 p5 p6
 have mx:x.kind≠1:=by
  intro h
  rcases ho with h2|h2|h2
  ·have:=(p4 h2).1;omega
  ·have:=(p5 h2).1;omega
  ·have:=(p6 h2).1;omega
 have h1:1≤a.col:=by
  by_cases h:a.col=0
  ·obtain⟨_,_,_,_,h5⟩:=Q5 hr
   rw[h]at hx
   have:s.cols.head?=some x:=by rw[←hx];cases s.cols<;>rfl
   rw[this]at h5
   simp only[Option.map_some,Option.some.injEq]at h5
   exact absurd h5 mx
  ·omega
 have hf:U6 s a.col=CH s x:=by
  unfold U6
  rw[if_neg (by omega),pK]
 refine⟨x,hx,h1,hc.2,fun h2=>?_,fun h2=>?_,fun h3=>?_,fun h4=>(p6 h4).2⟩
 ·have hk:=(p4 h2).1
  have hl:=AA.lst hr (List.mem_of_getElem? hx) hk
  exact⟨hk,hl.1,hl.2,by rw[hf,CH,if_pos hk]⟩
 ·have hk:x.kind=3:=by
   rcases ho with h|h|h
   ·exact absurd h h2
   ·exact(p5 h).1
   ·exact(p6 h).1
  obtain⟨_,_,_,h4,_⟩:=Q5 hr
  exact⟨hk,Oh (Hj (h4 _ _ hx)).2.2.1 hk,by rw[hf,CH,if_neg (by omega)]⟩
 ·exact(p5 h3).2
def iF(s:A5)(a:A1):Nat→Nat→Nat
 |0,n=>n
 |f+1,n=>if kC s a n=true then n else iF s a f (n+1)
def kD(s:A5)(a:A1):Nat:=iF s a (U6 s a.col).toNat 0
def WA(lv:Nat→Int)(lo:Nat):Nat→List Pk
 |0=>[]
 |n+1=>if 0<lv lo then ⟨lo,lv lo⟩::WA lv (lo+1) n else WA lv (lo+1) n
def kY(s:A5)(l:List A1)(i:Nat):Int:=l.foldl (fun (m:Int) (a:A1)=>if a.col=(i:Int)then max m (kD s a:Int)else m) 0
def cc(s:A5)(c:A1):List Pk:=if G6 s c=0 then WA (kY s (gl c)) 0 s.cols.length else []
end Go.Proofs.YtkcekccdcpmekaaGreatDoor

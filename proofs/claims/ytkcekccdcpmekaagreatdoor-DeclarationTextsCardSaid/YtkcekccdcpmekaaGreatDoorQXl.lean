/- Chapter 5: how the reference reads conditions: a text that is printed is read, and a text that is read is printed. -/
import Derived.Test.YtkcekccdcpmekaaGreatDoorQRg0
import Derived.Lib.Join
import Derived.Lib.IndexMore
import Derived.Lib.IndexBytes
import Derived.Test.YtkcekccdcpmekaaGreatDoorQD1
set_option linter.unusedVariables false
set_option linter.unnecessarySimpa false
set_option linter.unusedSimpArgs false
set_option maxHeartbeats 64000000
namespace Go.Proofs.YtkcekccdcpmekaaGreatDoor
open Go Go.Av
attribute [local irreducible] E8 B5 E5 E1 DQ E7 E9 St.le A4 A9
set_option maxRecDepth 100000
def J9(b:UInt8):Bool:=decide (b.toNat≠32∧b.toNat≠40∧b.toNat≠41)
def BP(l:List UInt8):Nat:=l.foldl (fun n b=>10*n+(b.toNat-48)) 0
theorem JU(l:List UInt8)(b:UInt8):BP (l++[b])=10*BP l+(b.toNat-48):=by
 unfold BP;rw[List.foldl_append];rfl
theorem Nl:∀(l:List UInt8) (n:Nat),l.all x5=true→l.foldl (fun n b=>10*n+(b.toNat-48)) n+1≤(n+1)*10 ^ l.length
 |[],n,_=>by simp
 |b::r,n,h=>by
  rw[List.all_cons,Bool.and_eq_true]at h
  have h2:=of_decide_eq_true h.1
  have i:=Nl r (10*n+(b.toNat-48)) h.2
  rw[List.foldl_cons,List.length_cons,Nat.pow_succ]
  refine Nat.le_trans i ?_
  have e:(n+1)*(10 ^ r.length*10)=(10*n+10)*10 ^ r.length:=by
   rw[Nat.mul_comm (10 ^ r.length) 10,←Nat.mul_assoc]
   congr 1
   omega
  rw[e]
  exact Nat.mul_le_mul_right _ (by omega)
theorem eO{l:List UInt8}(h:l.all x5=true):BP l<10 ^ l.length:=by
 have:=Nl l 0 h
 unfold BP
 omega
def I5(z:List UInt8):Int×Bool :=
 if (A8 [45] z).1.length<1∨15<(A8 [45] z).1.length then (0,false)
 else if (A8 [45] z).1.all x5=true then
  (if (A8 [45] z).1.length<z.length then (-(BP (A8 [45] z).1:Int),decide (Lib.itoa (-(BP (A8 [45] z).1:Int))=z))
  else ((BP (A8 [45] z).1:Int),decide (Lib.itoa (BP (A8 [45] z).1)=z)))
 else (0,false)
theorem LQ{z:List UInt8}(h:(I5 z).2=true):Lib.itoa (I5 z).1=z:=by
 unfold I5 at h ⊢
 by_cases h1:(A8 [45] z).1.length<1∨15<(A8 [45] z).1.length
 ·rw[if_pos h1]at h;cases h
 rw[if_neg h1]at h ⊢
 by_cases h2:(A8 [45] z).1.all x5=true
 ·rw[if_pos h2]at h ⊢
  by_cases h3:(A8 [45] z).1.length<z.length
  ·rw[if_pos h3]at h ⊢;exact of_decide_eq_true h
  ·rw[if_neg h3]at h ⊢;exact of_decide_eq_true h
 ·rw[if_neg h2]at h;cases h
theorem AO(u:Nat):BP (Lib.decDigits u)=u∧(Lib.decDigits u).all x5=true∧1≤(Lib.decDigits u).length:=by
 induction u using Nat.strongRecOn with
 |ind u ih =>
  rw[Lib.decDigits]
  by_cases h1:u<10
  ·rw[dif_pos h1]
   have e:=Mm h1
   refine⟨?_,?_,by simp⟩
   ·have:=JU [] (UInt8.ofNat (48+u))
    rw[List.nil_append]at this
    rw[this,e]
    show 10*0+(48+u-48)=u
    omega
   ·simp only[List.all_cons,List.all_nil,Bool.and_true,x5,decide_eq_true_eq]
    omega
  ·rw[dif_neg h1]
   obtain⟨i1,i2,i3⟩:=ih (u / 10) (by omega)
   have hd:u % 10<10:=by omega
   have e:=Mm hd
   refine⟨?_,?_,by simp⟩
   ·rw[JU,i1,e];omega
   ·rw[List.all_append,i2]
    simp only[List.all_cons,List.all_nil,Bool.and_true,Bool.true_and,x5,decide_eq_true_eq]
    omega
theorem Ri{n:Int}(h1:-100000000000000≤n)(h2:n≤100000000000000):I5 (Lib.itoa n)=(n,true):=by
 unfold I5
 by_cases h:n<0
 ·have e:Lib.itoa n=[45]++Lib.decDigits n.natAbs:=by unfold Lib.itoa;rw[if_pos h];rfl
  obtain⟨d1,d2,d3⟩:=AO n.natAbs
  have d4:=JJ 14 n.natAbs (by omega)
  rw[e,M5 [45]]
  dsimp only
  rw[if_neg (by omega),if_pos d2,if_pos (by rw[List.length_append,List.length_singleton];omega),d1,show -(n.natAbs:Int)=n by omega,←e,decide_eq_true rfl]
 ·have e:Lib.itoa n=Lib.decDigits n.toNat:=by unfold Lib.itoa;rw[if_neg h]
  obtain⟨d1,d2,d3⟩:=AO n.toNat
  have d4:=JJ 14 n.toNat (by omega)
  have ec:A8 [45] (Lib.itoa n)=(Lib.itoa n,false):=by
   rw[e]
   cases hc:Lib.decDigits n.toNat with
   |nil=>rw[hc]at d3;simp at d3
   |cons c r =>
    have hh:=Fc d2 hc
    exact Hr (by intro e;rw[←e]at hh;exact absurd hh.1 (by decide))
  rw[ec]
  dsimp only
  rw[e,if_neg (by omega),if_pos d2,if_neg (by omega),d1,show ((n.toNat:Nat):Int)=n by omega,e,decide_eq_true rfl]
def DO(u:List UInt8):Prop:=∀b r,u=b::r→J9 b=false
theorem EB(u:List UInt8):DO (32::u):=fun b r e=>by cases e;rfl
theorem ab(u:List UInt8):DO (41::u):=fun b r e=>by cases e;rfl
theorem YD:DO []:=fun b r e=>by cases e
theorem WE{b:UInt8}(h:L1 b=true):J9 b=true:=by
 unfold L1 at h
 unfold J9
 have:=of_decide_eq_true h
 exact decide_eq_true (by omega)
theorem DO.stops{u:List UInt8}(h:DO u):CB u:=fun b r e=>by
 have h1:=h b r e
 cases hw:L1 b
 ·rfl
 ·rw[WE hw]at h1;cases h1
theorem FK:∀{n u:List UInt8},n.all J9=true→DO u→(n++u).takeWhile J9=n∧(n++u).dropWhile J9=u
 |[],u,_,hu=>by
  rw[List.nil_append]
  cases u with
  |nil=>exact⟨rfl,rfl⟩
  |cons b r =>
   have:=hu b r rfl
   rw[List.takeWhile_cons,List.dropWhile_cons,this]
   exact⟨rfl,rfl⟩
 |c::r,u,h,hu=>by
  rw[List.all_cons,Bool.and_eq_true]at h
  obtain⟨i1,i2⟩:=FK h.2 hu
  rw[List.cons_append,List.takeWhile_cons,List.dropWhile_cons,h.1,i1,i2]
  exact⟨rfl,rfl⟩
theorem Ea(t:List UInt8):t.takeWhile J9++t.dropWhile J9=t:=List.takeWhile_append_dropWhile
theorem YE{l:List UInt8}(h:l.all L1=true):l.all J9=true:=by
 rw[List.all_eq_true]at h ⊢
 exact fun b hb=>WE (h b hb)
theorem Rj{l:List UInt8}(h:l.all x5=true):l.all J9=true:=by
 rw[List.all_eq_true]at h ⊢
 exact fun b hb=>WE (Gy (h b hb))
theorem YF(n:Int):(Lib.itoa n).all J9=true:=by
 unfold Lib.itoa
 split
 ·rw[List.all_cons,Rj (AO _).2.1];rfl
 ·exact Rj (AO _).2.1
theorem TM{n u:List UInt8}(h:D8 n=true)(hu:DO u):A8 [40] (n++u)=(n++u,false)∧A8 L4 (n++u)=(n++u,false)∧(n++u).takeWhile J9=n∧(n++u).dropWhile J9=u∧n≠u7:=by
 obtain⟨b1,b2,_,_,b5⟩:=Mq h hu.stops
 obtain⟨t1,t2⟩:=FK (YE (EZ h).1) hu
 exact⟨b1,b2,t1,t2,b5⟩
abbrev GJ:=A1×List UInt8×Bool
def CY(s:A5)(col:Int)(t v:List UInt8):GJ :=
 if (A8 S0 v).2=true then (.mk 4 col 0 0 0 [],(A8 S0 v).1,true)
 else if (A8 K3 v).2=true∧(C7 s col).kind=2 then
  (.mk 2 col (z8 (E2 s (C7 s col)).1 (E2 s (C7 s col)).2 ((A8 K3 v).1.takeWhile J9)) 0 0 [],(A8 K3 v).1.dropWhile J9,decide (0≤z8 (E2 s (C7 s col)).1 (E2 s (C7 s col)).2 ((A8 K3 v).1.takeWhile J9)))
 else if (A8 I3 v).2=true then
  if (A8 e8 ((A8 I3 v).1.dropWhile J9)).2=true then
   (.mk 3 col 0 (I5 ((A8 I3 v).1.takeWhile J9)).1 (I5 ((A8 e8 ((A8 I3 v).1.dropWhile J9)).1.takeWhile J9)).1 [],(A8 e8 ((A8 I3 v).1.dropWhile J9)).1.dropWhile J9,(I5 ((A8 I3 v).1.takeWhile J9)).2 && (I5 ((A8 e8 ((A8 I3 v).1.dropWhile J9)).1.takeWhile J9)).2)
  else (.mk 0 col 0 0 0 [],t,false)
 else (.mk 0 col 0 0 0 [],t,false)
def FA(s:A5)(t:List UInt8):GJ :=
 if F0 s (t.takeWhile J9)<0 then (.mk 0 0 0 0 0 [],t,false)
 else CY s (F0 s (t.takeWhile J9)) t (t.dropWhile J9)
def DP(f:List UInt8→GJ)(o:Int)(x:A1)(t v:List UInt8):GJ :=
 if (f v).2.2=true∧(A8 [41] (f v).2.1).2=true then (.mk o 0 0 0 0 [x,(f v).1],(A8 [41] (f v).2.1).1,true)else (x,t,false)
def CZ(f:List UInt8→GJ)(t v:List UInt8):GJ :=
 if (f v).2.2=true then
  if (A8 P1 (f v).2.1).2=true then DP f 6 (f v).1 t (A8 P1 (f v).2.1).1
  else if (A8 K7 (f v).2.1).2=true then DP f 5 (f v).1 t (A8 K7 (f v).2.1).1
  else ((f v).1,t,false)
 else ((f v).1,t,false)
def S4(s:A5):Nat→List UInt8→GJ
 |0,t=>(.mk 0 0 0 0 0 [],t,false)
 |d+1,t =>
  if (A8 L4 t).2=true then (.mk 7 0 0 0 0 [(S4 s d (A8 L4 t).1).1],(S4 s d (A8 L4 t).1).2.1,(S4 s d (A8 L4 t).1).2.2)
  else if (A8 [40] t).2=true then CZ (fun u=>S4 s d u) t (A8 [40] t).1
  else if t.takeWhile J9=u7 then (.mk 1 0 0 0 0 [],t.dropWhile J9,true)
  else FA s t
def Pi(s:A5)(t:List UInt8):A1×Int :=
 if C8 s=0 then
  (if ((S4 s 10 t).2.2=true∧G6 s (S4 s 10 t).1=0)∧(S4 s 10 t).2.1=[]then ((S4 s 10 t).1,0)else (.mk 0 0 0 0 0 [],11))
 else (.mk 0 0 0 0 0 [],C8 s)
theorem YG(s:A5)(col:Int)(t v:List UInt8)(h:v.length≤t.length):(CY s col t v).2.1.length≤t.length:=by
 have h1:=K2 K3 v
 have h2:=J7 J9 (A8 K3 v).1
 have h3:=K2 I3 v
 have h4:=J7 J9 (A8 I3 v).1
 have h5:=K2 e8 ((A8 I3 v).1.dropWhile J9)
 have h6:=J7 J9 (A8 e8 ((A8 I3 v).1.dropWhile J9)).1
 have h7:=K2 S0 v
 unfold CY
 (repeat' split)<;>(try dsimp only)<;>omega
theorem YH(s:A5)(t:List UInt8):(FA s t).2.1.length≤t.length:=by
 unfold FA
 split
 ·exact Nat.le_refl _
 ·exact YG s _ t _ (J7 _ _)
theorem Rk{f:List UInt8→GJ}(hf:∀u,(f u).2.1.length≤u.length)(o:Int)(x:A1)(t v:List UInt8)(h:v.length≤t.length):(DP f o x t v).2.1.length≤t.length:=by
 have h1:=hf v
 have h2:=K2 [41] (f v).2.1
 unfold DP
 split
 ·dsimp only;omega
 ·exact Nat.le_refl _
theorem YI{f:List UInt8→GJ}(hf:∀u,(f u).2.1.length≤u.length)(t v:List UInt8)(h:v.length≤t.length):(CZ f t v).2.1.length≤t.length:=by
 have h1:=hf v
 have h2:=K2 P1 (f v).2.1
 have h3:=K2 K7 (f v).2.1
 unfold CZ
 (repeat' split)
 ·exact Rk hf _ _ _ _ (by omega)
 ·exact Rk hf _ _ _ _ (by omega)
 ·exact Nat.le_refl _
 ·exact Nat.le_refl _
theorem UT(s:A5):∀(d:Nat) (t:List UInt8),(S4 s d t).2.1.length≤t.length
 |0,t=>Nat.le_refl _
 |d+1,t=>by
  have ih:=UT s d
  have c1:=K2 [40] t
  have c2:=K2 L4 t
  have c3:=J7 J9 t
  have c4:=YH s t
  have hp:=YI (f:=fun u=>S4 s d u) ih t (A8 [40] t).1 c1
  have i1:=ih (A8 L4 t).1
  unfold S4
  (repeat' split)<;>(try dsimp only)<;>omega
theorem YJ{s:A5}{col:Int}{t v:List UInt8}(h:(CY s col t v).2.2=true):S9 s col++v=C6 s (CY s col t v).1++(CY s col t v).2.1:=by
 unfold CY at h ⊢
 by_cases h5:(A8 S0 v).2=true
 ·rw[if_pos h5]at h ⊢
  dsimp only at h ⊢
  rw[C6,if_neg (by decide),if_neg (by decide),if_pos rfl,List.append_assoc,←N4 h5]
 rw[if_neg h5]at h ⊢
 by_cases h1:(A8 K3 v).2=true∧(C7 s col).kind=2
 ·rw[if_pos h1]at h ⊢
  dsimp only at h ⊢
  have hf:=Oo (of_decide_eq_true h)
  rw[C6,if_pos rfl,BW,hf,List.append_assoc,List.append_assoc,Ea,←N4 h1.1]
 rw[if_neg h1]at h ⊢
 by_cases h2:(A8 I3 v).2=true
 ·rw[if_pos h2]at h ⊢
  by_cases h4:(A8 e8 ((A8 I3 v).1.dropWhile J9)).2=true
  ·rw[if_pos h4]at h ⊢
   dsimp only at h ⊢
   rw[Bool.and_eq_true]at h
   rw[C6,if_neg (by decide),if_pos rfl,LQ h.1,LQ h.2]
   simp only[List.append_assoc]
   rw[Ea,←N4 h4,Ea,←N4 h2]
  ·rw[if_neg h4]at h
   cases h
 ·rw[if_neg h2]at h;cases h
theorem Rl{s:A5}{f:List UInt8→GJ}(hf:∀u,(f u).2.2=true→u=C6 s (f u).1++(f u).2.1){o:Int}{w:List UInt8}(ho:o=5∧w=K7∨o=6∧w=P1){x:A1}{t v v0:List UInt8}(e0:v0=C6 s x++(w++v))(h:(DP f o x t v).2.2=true):[40]++v0=C6 s (DP f o x t v).1++(DP f o x t v).2.1:=by
 unfold DP at h ⊢
 by_cases h1:(f v).2.2=true∧(A8 [41] (f v).2.1).2=true
 ·rw[if_pos h1]at h ⊢
  dsimp only
  rw[FJ s o _ _ w ho]
  simp only[List.append_assoc]
  rw[←N4 h1.2,←hf v h1.1,←e0]
 ·rw[if_neg h1]at h;cases h
theorem YK{s:A5}{f:List UInt8→GJ}(hf:∀u,(f u).2.2=true→u=C6 s (f u).1++(f u).2.1){t v:List UInt8}(h:(CZ f t v).2.2=true):[40]++v=C6 s (CZ f t v).1++(CZ f t v).2.1:=by
 unfold CZ at h ⊢
 by_cases h1:(f v).2.2=true
 ·rw[if_pos h1]at h ⊢
  have e1:=hf v h1
  by_cases h2:(A8 P1 (f v).2.1).2=true
  ·rw[if_pos h2]at h ⊢
   exact Rl hf (.inr ⟨rfl,rfl⟩) (by rw[←N4 h2];exact e1) h
  rw[if_neg h2]at h ⊢
  by_cases h3:(A8 K7 (f v).2.1).2=true
  ·rw[if_pos h3]at h ⊢
   exact Rl hf (.inl ⟨rfl,rfl⟩) (by rw[←N4 h3];exact e1) h
  ·rw[if_neg h3]at h;cases h
 ·rw[if_neg h1]at h;cases h
theorem UU(s:A5):∀(d:Nat) (t:List UInt8),(S4 s d t).2.2=true→t=C6 s (S4 s d t).1++(S4 s d t).2.1
 |0,t,h=>by unfold S4 at h;cases h
 |d+1,t,h=>by
  have ih:=UU s d
  unfold S4 at h ⊢
  by_cases h3:(A8 L4 t).2=true
  ·rw[if_pos h3]at h ⊢
   dsimp only at h ⊢
   rw[KC,List.append_assoc,←ih _ h,←N4 h3]
  rw[if_neg h3]at h ⊢
  by_cases h2:(A8 [40] t).2=true
  ·rw[if_pos h2]at h ⊢
   have:=YK (s:=s) (f:=fun u=>S4 s d u) ih h
   rw[←N4 h2]at this
   exact this
  rw[if_neg h2]at h ⊢
  by_cases h4:t.takeWhile J9=u7
  ·rw[if_pos h4]at h ⊢
   dsimp only at h ⊢
   rw[KD,←h4,Ea]
  rw[if_neg h4]at h ⊢
  unfold FA at h ⊢
  by_cases h5:F0 s (t.takeWhile J9)<0
  ·rw[if_pos h5]at h;cases h
  rw[if_neg h5]at h ⊢
  have:=YJ h
  rw[(GI (by omega)).1,Ea]at this
  exact this
theorem ae{f:List UInt8→GJ}{o:Int}{w:List UInt8}(ho:o=5∧w=K7∨o=6∧w=P1){z t u v:List UInt8}{a b:A1}(h1:f t=(a,w++u,true))(h2:f u=(b,41::v,true)):CZ f z t=(.mk o 0 0 0 0 [a,b],v,true):=by
 have hc:A8 [41] (41::v)=(v,true):=M5 [41] v
 rcases ho with ⟨rfl,rfl⟩|⟨rfl,rfl⟩
 ·have hd:=M5 K7 u
  have he:A8 P1 (K7++u)=(K7++u,false):=rfl
  unfold CZ DP
  simp only[h1,hd,he,h2,hc,if_true,Bool.false_eq_true,if_false,and_self]
 ·have hd:=M5 P1 u
  unfold CZ DP
  simp only[h1,hd,h2,hc,if_true,and_self]
theorem eP{s:A5}(hr:C8 s=0)(c:A1):j7 s c=0→∀(d:Nat) (u:List UInt8),Q2 c≤d→DO u→S4 s d (C6 s c++u)=(c,u,true):=by
 refine T8 (p:=fun c=>j7 s c=0→∀(d:Nat) (u:List UInt8),Q2 c≤d→DO u→S4 s d (C6 s c++u)=(c,u,true)) (fun c ih h d u hd hu=>?_) c
 obtain⟨h1,h2⟩:=Ew h
 obtain⟨p1,p2,p3,p4,p5,p6⟩:=DL h1
 obtain⟨z1,z2,z3⟩:=Oq h1
 obtain⟨k1,k2,k3⟩:=Gw c.op
 obtain⟨d,rfl⟩:∃e,d=e+1:=⟨d-1,by have:=Dw c;omega⟩
 have mP:=HC s c
 by_cases ho:c.op=2∨c.op=3∨c.op=4
 ·have nf:c.kids=[]:=List.eq_nil_of_length_eq_zero (by have:=k3 (by omega) (by omega) (by omega);omega)
  obtain⟨x,hx,c1,c2,_⟩:=RY hr h1 ho
  have e:((c.col.toNat:Nat):Int)=c.col:=by omega
  obtain⟨lZ,_⟩:=Ap hr hx
  have qU:S9 s c.col=x.name:=by unfold S9;rw[D4 hx]
  have sH:F0 s x.name=c.col:=by rw[LP hr hx];exact e
  have nK:C7 s c.col=x:=D4 hx
  rw[qU]at mP
  have fin:∀v,DO v→C6 s c++u=x.name++v→CY s c.col (x.name++v) v=(c,u,true)→S4 s (d+1) (C6 s c++u)=(c,u,true):=fun v hv e he=>by
   obtain⟨b1,b2,b3,b4,b5⟩:=TM lZ hv
   rw[e]
   unfold S4
   rw[b2,if_neg Bool.false_ne_true,b1,if_neg Bool.false_ne_true,b3,if_neg b5]
   unfold FA
   rw[b3,b4,sH,if_neg (by omega),he]
  by_cases o2:c.op=2
  ·rw[if_pos o2]at mP
   refine fin (K3++(BW s c.col c.code++u)) (EB _) (by rw[mP];simp only[List.append_assoc]) ?_
   obtain⟨q1,q2,q3⟩:=p4 o2
   rw[nK]at q1 q3
   have kj:=AA.lst hr (List.mem_of_getElem? hx) q1
   obtain⟨lx,lr⟩:∃l,s.lists[x.lst.toNat]?=some l:=⟨_,List.getElem?_eq_getElem (by omega)⟩
   have mz:chk lx.1 lx.2=0:=(Q5 hr).2.2.1 _ (List.mem_of_getElem? lr)
   rw[M8 lr]at q3
   obtain⟨cd,oq⟩:∃cd,lx.2[c.code.toNat]?=some cd:=⟨_,List.getElem?_eq_getElem (by omega)⟩
   have qU:BW s c.col c.code=cd.name:=by
    unfold BW
    rw[nK,M8 lr,List.getD_eq_getElem?_getD,oq];rfl
   have rF:=JS mz cd (List.mem_of_getElem? oq)
   obtain⟨t1,t2⟩:=FK (YE (EZ rF).1) hu
   have hf:=On mz oq
   unfold CY
   have e0:∀y,A8 S0 (K3++y)=(K3++y,false):=fun y=>rfl
   rw[e0,if_neg Bool.false_ne_true,M5 K3,qU,if_pos ⟨rfl,by rw[nK];exact q1⟩,nK]
   dsimp only
   rw[t1,t2,M8 lr,hf,decide_eq_true (by omega)]
   obtain⟨o,cl,k,lo,hi,ks⟩:=c
   dsimp only[A1.op,A1.col,A1.code,A1.lo,A1.hi,A1.kids]at *
   obtain⟨rfl,rfl⟩:=z3 (by omega)
   subst o2 nf
   rw[show ((k.toNat:Nat):Int)=k by omega]
  ·rw[if_neg o2]at mP
   by_cases o3:c.op=3
   ·rw[if_pos o3]at mP
    refine fin (I3++(Lib.itoa c.lo++(e8++(Lib.itoa c.hi++u)))) (EB _) (by rw[mP];simp only[List.append_assoc]) ?_
    obtain⟨q1,q2,q3,q4⟩:=p5 o3
    unfold CY
    have e0:∀y,A8 S0 (I3++y)=(I3++y,false):=fun y=>rfl
    have e1:∀y,A8 K3 (I3++y)=(I3++y,false):=fun y=>rfl
    obtain⟨t1,t2⟩:=FK (YF c.lo) (EB ([116,111,32]++(Lib.itoa c.hi++u)))
    obtain⟨t3,t4⟩:=FK (YF c.hi) hu
    rw[e0,if_neg Bool.false_ne_true,e1,if_neg (fun hh=>Bool.false_ne_true hh.1),M5 I3,if_pos rfl]
    dsimp only
    rw[show (Lib.itoa c.lo++(e8++(Lib.itoa c.hi++u)))=Lib.itoa c.lo++32::([116,111,32]++(Lib.itoa c.hi++u))from rfl,t1,t2,show (32:UInt8)::([116,111,32]++(Lib.itoa c.hi++u))=e8++(Lib.itoa c.hi++u)from rfl,M5 e8,if_pos rfl]
    dsimp only
    rw[t3,t4,Ri (by omega) (by omega),Ri (by omega) (by omega)]
    obtain⟨o,cl,k,lo,hi,ks⟩:=c
    dsimp only[A1.op,A1.col,A1.code,A1.lo,A1.hi,A1.kids]at *
    obtain rfl:=z2 (by omega)
    subst o3 nf
    rfl
   ·have o4:c.op=4:=by omega
    rw[if_neg o3,if_pos o4]at mP
    refine fin (S0++u) (EB _) (by rw[mP,List.append_assoc]) ?_
    unfold CY
    rw[M5 S0,if_pos rfl]
    obtain⟨o,cl,k,lo,hi,ks⟩:=c
    dsimp only[A1.op,A1.col,A1.code,A1.lo,A1.hi,A1.kids]at *
    obtain rfl:=z2 (by omega)
    obtain⟨rfl,rfl⟩:=z3 (by omega)
    subst o4 nf
    rfl
 ·clear mP
  have up:=z1 (by omega) (by omega) (by omega)
  have vj:=z2 (by omega)
  obtain⟨vU,ui⟩:=z3 (by omega)
  obtain⟨o,cl,k,lo,hi,ks⟩:=c
  dsimp only[A1.op,A1.col,A1.code,A1.lo,A1.hi,A1.kids]at *
  subst up vj vU ui
  by_cases tO:o=5∨o=6
  ·obtain⟨x,y,rfl⟩:∃x y,ks=[x,y]:=Rg (c:=.mk o 0 0 0 0 ks) (by have:=k1 tO;show ks.length=2;omega)
   have hx:=h2 x (by simp)
   have hy:=h2 y (by simp)
   obtain⟨tt,td⟩:=UQ o x y
   have e1:∀w,A8 [40] ([40]++w)=(w,true):=fun w=>M5 [40] w
   have e2:∀w,A8 L4 ([40]++w)=([40]++w,false):=fun w=>rfl
   have ix:=fun v hv=>ih x (by simp) hx d v (by omega) hv
   have iy:=fun v hv=>ih y (by simp) hy d v (by omega) hv
   obtain⟨w,hw,sC⟩:∃w,(o=5∧w=K7∨o=6∧w=P1)∧∀z,DO (w++z):=by
    rcases tO with rfl|rfl
    ·exact⟨K7,.inl ⟨rfl,rfl⟩,fun z=>EB _⟩
    ·exact⟨P1,.inr ⟨rfl,rfl⟩,fun z=>EB _⟩
   have mP:=FJ s o x y w hw
   rw[mP,show [40]++C6 s x++w++C6 s y++[41]++u=[40]++(C6 s x++(w++(C6 s y++(41::u)))) by simp]
   unfold S4
   rw[e2,if_neg Bool.false_ne_true,e1,if_pos rfl]
   exact ae (f:=fun u=>S4 s d u) hw (ix (w++(C6 s y++41::u)) (sC _)) (iy (41::u) (ab _))
  ·by_cases h7:o=7
   ·obtain⟨x,rfl⟩:∃x,ks=[x]:=Rh (c:=.mk o 0 0 0 0 ks) (by have:=k2 h7;show ks.length=1;omega)
    have hx:=h2 x (by simp)
    obtain⟨tt,td⟩:=UR o x
    subst h7
    have mP:=KC s x
    unfold S4
    rw[mP,show L4++C6 s x++u=L4++(C6 s x++u) by simp,M5 L4,if_pos rfl]
    dsimp only
    rw[ih x (by simp) hx d u (by omega) hu]
   ·have nW:o=1:=by omega
    have nf:ks=[]:=List.eq_nil_of_length_eq_zero (by have:=k3 (by omega) (by omega) h7;omega)
    subst nW nf
    have mP:=KD s
    unfold S4
    rw[mP]
    obtain⟨t1,t2⟩:=FK (n:=u7) (by decide) hu
    rw[show A8 [40] (u7++u)=(u7++u,false)from rfl,show A8 L4 (u7++u)=(u7++u,false)from rfl,if_neg Bool.false_ne_true,if_neg Bool.false_ne_true,t1,if_pos rfl,t2]
theorem eQ(s:A5)(t:List UInt8):Pi s t=K5 s t:=by
 by_cases hr:C8 s=0
 ·have hw:∀c,((S4 s 10 t).2.2=true∧G6 s (S4 s 10 t).1=0)∧(S4 s 10 t).2.1=[]∧(S4 s 10 t).1=c↔G6 s c=0∧t=C6 s c:=fun c=>by
   constructor
   ·rintro ⟨⟨h1,h2⟩,h3,rfl⟩
    have e:=UU s 10 t h1
    rw[h3,List.append_nil]at e
    exact⟨h2,e⟩
   ·rintro ⟨h1,rfl⟩
    obtain⟨_,_,h4,h5⟩:=CA h1
    have e:=eP hr c h5 10 [] h4 YD
    rw[List.append_nil]at e
    rw[e]
    exact⟨⟨rfl,h1⟩,rfl,rfl⟩
  unfold Pi
  rw[if_pos hr]
  split
  ·rename_i h
   exact((EA hr t _).2 ((hw _).1 ⟨h.1,h.2,rfl⟩)).symm
  ·rename_i h
   rcases YC hr t with ⟨c,hc⟩|hc
   ·obtain⟨h1,h2,h3⟩:=(hw c).2 ((EA hr t c).1 hc)
    exact absurd ⟨h1,h2⟩ h
   ·exact hc.symm
 ·unfold Pi K5
  rw[if_neg hr,if_neg hr]
theorem iJ{s:A5}(hr:C8 s=0){c:Int}(h0:0≤c)(h1:c<s.cols.length):∃nm:List UInt8,H6 s c=nm∧D8 nm=true∧F0 s nm=c:=by
 obtain⟨x,hx⟩:∃x,s.cols[c.toNat]?=some x:=⟨_,List.getElem?_eq_getElem (by omega)⟩
 refine⟨x.name,?_,(Ap hr hx).1,?_⟩
 ·unfold H6 S9
  rw[if_neg (by omega),D4 hx]
 ·rw[LP hr hx];omega
abbrev UV(s:A5)(d:Pk):Prop:=(0≤d.col∧d.col<s.cols.length)∧0≤d.lev∧d.lev≤61
theorem YL(kp:List UInt8)(hs:1≤kp.length):∀l:List (List UInt8),l.length≤(I8 kp l).length+1
 |[]=>by simp
 |[x]=>by simp
 |x::y::r=>by
  have:=YL kp hs (y::r)
  rw[I8,List.length_append,List.length_append,List.length_cons]
  omega
def ce(u:List UInt8):Prop:=∀b r,u=b::r→b.toNat=32∨b.toNat=41
theorem ce.stops{u:List UInt8}(h:ce u):CB u:=fun b r e=>by
 have:=h b r e
 unfold L1
 exact decide_eq_false (by omega)
theorem KE(c:UInt8):∀s:List UInt8,Lib.cut s [c]=(s.takeWhile (B3 c),(s.dropWhile (B3 c)).drop 1,decide (s.dropWhile (B3 c)≠[]))
 |[]=>rfl
 |b::r=>by
  have ih:=KE c r
  have mw:=Lib.index_ge r [c]
  by_cases h:b=c
  ·subst h
   have hi:Lib.index (b::r) [b]=0:=by unfold Lib.index;simp
   have hn:B3 b b=false:=by unfold B3;simp
   unfold Lib.cut
   rw[hi,if_pos (Int.le_refl 0),List.takeWhile_cons,List.dropWhile_cons,hn]
   simp
  ·have hn:B3 c b=true:=by unfold B3;simp[h]
   have hp:([c].isPrefixOf (b::r))=false:=by simp[List.isPrefixOf];exact fun e=>h e.symm
   have hi:Lib.index (b::r) [c]=if Lib.index r [c] == -1 then -1 else Lib.index r [c]+1:=by rw[Lib.index,hp];rfl
   rw[List.takeWhile_cons,List.dropWhile_cons,hn,if_pos rfl,if_pos rfl]
   unfold Lib.cut at ih ⊢
   by_cases h1:Lib.index r [c]=-1
   ·rw[h1,if_neg (by decide)]at ih
    obtain⟨i1,i2⟩:=Prod.mk.inj ih
    obtain⟨i2,i3⟩:=Prod.mk.inj i2
    have lc:Lib.index (b::r) [c]=-1:=by rw[hi,h1];rfl
    rw[lc,if_neg (by decide),←i1,←i2,←i3]
   ·rw[if_pos (by omega)]at ih
    obtain⟨i1,i2⟩:=Prod.mk.inj ih
    obtain⟨i2,i3⟩:=Prod.mk.inj i2
    have hb:(Lib.index r [c] == -1)=false:=beq_eq_false_iff_ne.2 h1
    have lc:Lib.index (b::r) [c]=Lib.index r [c]+1:=by rw[hi,hb];rfl
    rw[lc,if_pos (by omega),←i1,←i2,←i3,show (Lib.index r [c]+1).toNat=(Lib.index r [c]).toNat+1 by omega,List.take_succ_cons,show (Lib.index r [c]).toNat+1+[c].length=((Lib.index r [c]).toNat+[c].length)+1 by omega,List.drop_succ_cons]
theorem LR(kp:List UInt8):∀l:List (List UInt8),Lib.join l kp=I8 kp l
 |[]=>rfl
 |[x]=>by rw[Lib.join_one];rfl
 |x::y::r=>by
  have ih:=LR kp (y::r)
  rw[Lib.join_cons]at ih ⊢
  unfold I8
  rw[←ih]
  unfold Lib.joinTail
  rw[List.map_cons,List.flatten_cons,List.append_assoc,List.append_assoc]
theorem j3{s:A5}(hr:C8 s=0)(c:Int):(H6 s c).length≤16:=by
 unfold H6
 split
 ·simp
 ·unfold S9
  by_cases h:c.toNat<s.cols.length
  ·have hx:s.cols[c.toNat]?=some (s.cols[c.toNat]'h):=List.getElem?_eq_getElem h
   rw[D4 hx]
   exact R4 (LN hr hx)
  ·have:(C7 s c).name=[]:=by
    unfold C7
    rw[List.getD_eq_getElem?_getD,List.getElem?_eq_none (by omega)];rfl
   rw[this]
   simp
theorem af{s:A5}(hr:C8 s=0){d:Pk}(h:UV s d):(P8 s d).length≤40:=by
 have h1:=j3 hr d.col
 have h2:=Lib.itoa_length_le d.lev (by have:=h.2;omega) (by have:=h.2;omega)
 unfold P8
 simp only[List.length_append,List.length_cons,List.length_nil]
 omega
theorem k9{s:A5}{c:A1}(h:G6 s c=0):(C6 s c).length≤4000:=by
 obtain⟨hr,h3,h4,h5⟩:=CA h
 have:=(Hv s hr c h5 (by omega)).2
 omega
end Go.Proofs.YtkcekccdcpmekaaGreatDoor

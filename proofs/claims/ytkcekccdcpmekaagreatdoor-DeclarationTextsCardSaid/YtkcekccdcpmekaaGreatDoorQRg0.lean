/- Chapter 5: a condition that is printed is read; a text that is read is printed. -/
import Derived.Test.YtkcekccdcpmekaaGreatDoorQNm1
import Derived.Test.YtkcekccdcpmekaaGreatDoorQD2
import Derived.Test.YtkcekccdcpmekaaGreatDoorQD1
import Derived.Test.YtkcekccdcpmekaaGreatDoorQCm1
import Derived.Test.YtkcekccdcpmekaaGreatDoorQB8
set_option linter.unusedVariables false
set_option linter.unnecessarySimpa false
set_option linter.unusedSimpArgs false
set_option maxHeartbeats 64000000
namespace Go.Proofs.YtkcekccdcpmekaaGreatDoor
open Go Go.Av
attribute [local irreducible] E8 B5 E5 E1 DQ E7 E9 St.le A4 A9
set_option maxRecDepth 100000
theorem JT{α:Type}(p:α→Bool):∀(l:List α) (k:Int),0≤k→K6 p l k=-1∨∃(i:Nat) (x:α),l[i]?=some x∧p x=true∧K6 p l k=k+i
 |[],k,_=>.inl rfl
 |x::r,k,hk=>by
  unfold K6
  by_cases h:p x=true
  ·rw[if_pos h];exact .inr ⟨0,x,rfl,h,by omega⟩
  ·rw[if_neg h]
   rcases JT p r (k+1) (by omega)with e|⟨i,y,h1,h2,h3⟩
   ·exact .inl e
   ·exact .inr ⟨i+1,y,by simpa using h1,h2,by omega⟩
theorem Hw{α:Type}{p:α→Bool}:∀{l:List α} {k:Int} {i:Nat} {x:α},l[i]?=some x→p x=true→(∀j y,j<i→l[j]?=some y→p y=false)→K6 p l k=k+i
 |[],k,i,x,h,_,_=>by simp at h
 |a::r,k,0,x,h,hx,_=>by
  simp at h;subst h
  unfold K6
  rw[if_pos hx];omega
 |a::r,k,i+1,x,h,hx,hj=>by
  have ha:=hj 0 a (by omega) rfl
  unfold K6
  rw[if_neg (by rw[ha];exact Bool.false_ne_true),Hw (k:=k+1) (by simpa using h) hx (fun j y hji hy=>hj (j+1) y (by omega) (by simpa using hy))]
  omega
theorem Nk:∀(cs:List Code) (n:List UInt8) (k:Int),Dv cs n k=K6 (fun c:Code=>decide (c.name=n)) cs k
 |[],_,_=>rfl
 |c::r,n,k=>by
  unfold Dv K6 Va
  rw[Nk r n (k+1)]
theorem Re:∀(r pre:List Code),scan pre r=none→∀(i:Nat) (c:Code),r[i]?=some c→c.name∉pre.map (·.name)∧∀(j:Nat) (d:Code),j<i→r[j]?=some d→d.name≠c.name
 |[],_,_,i,c,hc=>by simp at hc
 |x::r,pre,h,i,c,hc=>by
  unfold scan at h
  split at h
  ·cases h
  ·split at h
   ·cases h
   ·rename_i hn
    split at h
    ·cases h
    ·cases i with
     |zero =>
      simp at hc;subst hc
      exact⟨hn,fun j d hj=>by omega⟩
     |succ i =>
      obtain⟨h1,h2⟩:=Re r _ h i c (by simpa using hc)
      rw[List.map_append,List.mem_append,not_or]at h1
      refine⟨h1.1,fun j d hj hd e=>?_⟩
      cases j with
      |zero =>
       simp at hd;subst hd
       exact h1.2 (by simp[e])
      |succ j=>exact h2 j d (by omega) (by simpa using hd) e
theorem YA{nm:List UInt8}{cs:List Code}(h:chk nm cs=0):scan [] cs=none:=by
 unfold chk at h
 split at h
 ·cases h
 split at h
 ·cases h
 split at h
 ·cases h
 cases hs:scan [] cs with
 |some e =>
  rw[hs]at h
  dsimp only at h
  subst h
  exact absurd hs (JR cs [])
 |none=>rfl
theorem On{nm:List UInt8}{cs:List Code}(h:chk nm cs=0){i:Nat}{c:Code}(hc:cs[i]?=some c):z8 nm cs c.name=i:=by
 unfold z8
 rw[if_pos h,Nk]
 have:=Hw (p:=fun d:Code=>decide (d.name=c.name)) (k:=0) hc (decide_eq_true rfl) (fun j d hj hd=>decide_eq_false ((Re cs [] (YA h) i c hc).2 j d hj hd))
 omega
theorem Oo{nm:List UInt8}{cs:List Code}{n:List UInt8}(h:0≤z8 nm cs n):(cs.getD (z8 nm cs n).toNat ⟨[],0⟩).name=n:=by
 unfold z8 at h ⊢
 split at h
 ·rename_i h0
  rw[if_pos h0,Nk]at *
  rcases JT (fun d:Code=>decide (d.name=n)) cs 0 (by omega)with e|⟨i,x,h1,h2,h3⟩
  ·omega
  ·rw[h3,show (0+(i:Int)).toNat=i by omega,List.getD_eq_getElem?_getD,h1]
   exact of_decide_eq_true h2
 ·omega
theorem Ap{s:A5}(hr:C8 s=0){i:Nat}{c:H2}(hc:s.cols[i]?=some c):D8 c.name=true∧Eh s i c=false:=by
 have h:=(Q5 hr).2.2.2.1 i c hc
 unfold colE at h
 split at h
 ·cases h
 ·rename_i h1
  split at h
  ·cases h
  ·rename_i h2
   exact⟨by simpa using h1,by simpa using h2⟩
theorem LP{s:A5}(hr:C8 s=0){i:Nat}{c:H2}(hc:s.cols[i]?=some c):F0 s c.name=i:=by
 obtain⟨_,hd⟩:=Ap hr hc
 unfold Eh at hd
 rw[List.any_eq_false]at hd
 unfold F0
 have:=Hw (p:=fun d:H2=>decide (d.name=c.name)) (k:=0) hc (decide_eq_true rfl) (fun j d hj xU=>by
  have hm:d∈s.cols.take i:=List.mem_of_getElem? (by rw[List.getElem?_take_of_lt hj];exact xU)
  simpa using hd d hm)
 omega
theorem GI{s:A5}{n:List UInt8}(h:0≤F0 s n):S9 s (F0 s n)=n∧F0 s n<s.cols.length:=by
 unfold F0 at h ⊢
 rcases JT (fun d:H2=>decide (d.name=n)) s.cols 0 (by omega)with e|⟨i,x,h1,h2,h3⟩
 ·omega
 ·have kj:=S8 h1
  rw[h3]
  refine⟨?_,by omega⟩
  unfold S9
  rw[show (0+(i:Int))=(i:Int) by omega,D4 (by simpa using h1)]
  exact of_decide_eq_true h2
theorem EZ{n:List UInt8}(h:D8 n=true):n.all L1=true∧n∉words∧∃a r,n=a::r∧97≤a.toNat∧a.toNat≤122:=by
 unfold D8 at h
 simp only[Bool.and_eq_true,Bool.not_eq_true',decide_eq_false_iff_not]at h
 obtain⟨⟨⟨_,h1⟩,h2⟩,h3⟩:=h
 refine⟨h2,h3,?_⟩
 cases n with
 |nil=>cases h1
 |cons a r=>exact⟨a,r,rfl,of_decide_eq_true h1⟩
theorem Ck(u:List UInt8):CB (32::u):=fun b r e=>by cases e;rfl
theorem Rf(u:List UInt8):CB (41::u):=fun b r e=>by cases e;rfl
theorem YB:CB []:=fun b r e=>by cases e
theorem Mq{n u:List UInt8}(h:D8 n=true)(hu:CB u):A8 [40] (n++u)=(n++u,false)∧A8 L4 (n++u)=(n++u,false)∧(n++u).takeWhile L1=n∧(n++u).dropWhile L1=u∧n≠u7:=by
 obtain⟨h1,h2,a,r,rfl,h3,h4⟩:=EZ h
 obtain⟨t1,t2⟩:=Fe h1 hu
 refine⟨Hr (by intro e;rw[←e]at h3;exact absurd h3 (by decide)),Xo fun hc=>?_,t1,t2,fun e=>h2 (by rw[e];decide)⟩
 have e:=N4 hc
 have ht:((a::r)++u).takeWhile L1=[110,111,116]:=by
  rw[e]
  exact(Fe (n:=[110,111,116]) (by decide) (Ck _)).1
 rw[t1]at ht
 exact h2 (by rw[ht];decide)
theorem Rg{c:A1}(h:c.kids.length=2):∃x y,c.kids=[x,y]:=by
 match hk:c.kids,h with
 |[x,y],_=>exact⟨x,y,rfl⟩
theorem Rh{c:A1}(h:c.kids.length=1):∃x,c.kids=[x]:=by
 match hk:c.kids,h with
 |[x],_=>exact⟨x,rfl⟩
theorem Oq{s:A5}{c:A1}(h:L0 s c=0):(c.op≠2→c.op≠3→c.op≠4→c.col=0)∧(c.op≠2→c.code=0)∧(c.op≠3→c.lo=0∧c.hi=0):=by
 unfold L0 at h
 split at h
 ·cases h
 ·split at h
  ·cases h
  ·rename_i h2
   refine⟨fun a b d=>?_,fun a=>?_,fun a=>?_⟩<;>omega
theorem FJ(s:A5)(o:Int)(x y:A1)(w:List UInt8)(ho:o=5∧w=K7∨o=6∧w=P1):C6 s (.mk o 0 0 0 0 [x,y])=[40]++C6 s x++w++C6 s y++[41]:=by
 rcases ho with ⟨rfl,rfl⟩|⟨rfl,rfl⟩
 ·rw[C6,if_neg (by decide),if_neg (by decide),if_neg (by decide),if_pos rfl,Fb];rfl
 ·rw[C6,if_neg (by decide),if_neg (by decide),if_neg (by decide),if_neg (by decide),if_pos rfl,Fb];rfl
theorem KC(s:A5)(x:A1):C6 s (.mk 7 0 0 0 0 [x])=L4++C6 s x:=by
 rw[C6,if_neg (by decide),if_neg (by decide),if_neg (by decide),if_neg (by decide),if_neg (by decide),if_pos rfl,Fb];rfl
theorem KD(s:A5):C6 s (.mk 1 0 0 0 0 [])=u7:=by
 rw[C6,if_neg (by decide),if_neg (by decide),if_neg (by decide),if_neg (by decide),if_neg (by decide),if_neg (by decide)]
theorem eK{f:Int→List UInt8→IL}{l l1 l2:Int}{t u v:List UInt8}{a b:A1}(h1:f l t=⟨a,true,K7++u,l1⟩)(h2:f l1 u=⟨b,true,41::v,l2⟩):At f l t=⟨.mk 5 0 0 0 0 [a,b],true,v,l2⟩:=by
 have hc:A8 [41] (41::v)=(v,true):=M5 [41] v
 have hd:=M5 K7 u
 unfold At
 simp only[h1,hd,h2,hc,if_true]
theorem iG{f:Int→List UInt8→IL}{l l1 l2:Int}{t u v:List UInt8}{a b:A1}(h1:f l t=⟨a,true,P1++u,l1⟩)(h2:f l1 u=⟨b,true,41::v,l2⟩):At f l t=⟨.mk 6 0 0 0 0 [a,b],true,v,l2⟩:=by
 have hc:A8 [41] (41::v)=(v,true):=M5 [41] v
 have hd:=M5 P1 u
 have he:A8 K7 (P1++u)=(P1++u,false):=rfl
 unfold At
 simp only[h1,hd,he,h2,hc,if_true,Bool.false_eq_true,if_false]
theorem eL{s:A5}(hr:C8 s=0)(c:A1):j7 s c=0→∀(d:Nat) (left:Int) (u:List UInt8),Q2 c≤d→(J0 c:Int)≤left→CB u→N9 s d left (C6 s c++u)=⟨c,true,u,left-J0 c⟩:=by
 refine T8 (p:=fun c=>j7 s c=0→∀(d:Nat) (left:Int) (u:List UInt8),Q2 c≤d→(J0 c:Int)≤left→CB u→N9 s d left (C6 s c++u)=⟨c,true,u,left-J0 c⟩) (fun c ih h d left u hd hl hu=>?_) c
 obtain⟨h1,h2⟩:=Ew h
 obtain⟨p1,p2,p3,p4,p5,p6⟩:=DL h1
 obtain⟨z1,z2,z3⟩:=Oq h1
 obtain⟨k1,k2,k3⟩:=Gw c.op
 obtain⟨d,rfl⟩:∃e,d=e+1:=⟨d-1,by have:=Dw c;omega⟩
 have mI:¬left-1<0:=by have:=BK c;omega
 have mP:=HC s c
 by_cases ho:c.op=2∨c.op=3∨c.op=4
 ·-- about a column
  have nf:c.kids=[]:=List.eq_nil_of_length_eq_zero (by have:=k3 (by omega) (by omega) (by omega);omega)
  have yE:(J0 c:Int)=1:=by rw[BK,nf];rfl
  obtain⟨x,hx,c1,c2,_⟩:=RY hr h1 ho
  have e:((c.col.toNat:Nat):Int)=c.col:=by omega
  obtain⟨lZ,_⟩:=Ap hr hx
  have qU:S9 s c.col=x.name:=by unfold S9;rw[D4 hx]
  have sH:F0 s x.name=c.col:=by rw[LP hr hx];exact e
  have nK:C7 s c.col=x:=D4 hx
  rw[qU]at mP
  have go:∀v,CB v→N9 s (d+1) left (x.name++v)=⟨(AL s c.col v).1,(AL s c.col v).2.1,(AL s c.col v).2.2,left-1⟩:=by
   intro v hv
   obtain⟨b1,b2,b3,b4,b5⟩:=Mq lZ hv
   unfold N9
   rw[if_neg mI,b1,if_neg Bool.false_ne_true,b2,if_neg Bool.false_ne_true,b3,if_neg b5,sH,if_neg (by omega),b4]
  have fin:∀v,CB v→C6 s c++u=x.name++v→AL s c.col v=(c,true,u)→N9 s (d+1) left (C6 s c++u)=⟨c,true,u,left-J0 c⟩:=fun v hv e he=>by
   rw[e,go v hv,he,yE]
  by_cases o2:c.op=2
  ·rw[if_pos o2]at mP
   refine fin (K3++(BW s c.col c.code++u)) (Ck _) (by rw[mP];simp only[List.append_assoc]) ?_
   obtain⟨q1,q2,q3⟩:=p4 o2
   rw[nK]at q1 q3
   have kj:=AA.lst hr (List.mem_of_getElem? hx) q1
   obtain⟨lx,lr⟩:∃l,s.lists[x.lst.toNat]?=some l:=⟨_,List.getElem?_eq_getElem (by omega)⟩
   have mz:chk lx.1 lx.2=0:=(Q5 hr).2.2.1 _ (List.mem_of_getElem? lr)
   rw[M8 lr]at q3
   obtain⟨cd,oq⟩:∃cd,lx.2[c.code.toNat]?=some cd:=⟨_,List.getElem?_eq_getElem (by omega)⟩
   have qU:BW s c.col c.code=cd.name:=by
    unfold BW
    rw[nK,M8 lr,List.getD_eq_getElem?_getD,oq];rfl
   have rF:=JS mz cd (List.mem_of_getElem? oq)
   obtain⟨t1,t2⟩:=Fe (EZ rF).1 hu
   have hf:=On mz oq
   unfold AL
   rw[M5 K3,qU,if_pos rfl,nK,if_pos q1]
   dsimp only
   rw[t1,t2,M8 lr,hf,decide_eq_true (by omega)]
   obtain⟨o,cl,k,lo,hi,ks⟩:=c
   dsimp only[A1.op,A1.col,A1.code,A1.lo,A1.hi,A1.kids]at *
   obtain⟨rfl,rfl⟩:=z3 (by omega)
   subst o2 nf
   rw[show ((k.toNat:Nat):Int)=k by omega]
  ·rw[if_neg o2]at mP
   by_cases o3:c.op=3
   ·rw[if_pos o3]at mP
    refine fin (I3++(Lib.itoa c.lo++(e8++(Lib.itoa c.hi++u)))) (Ck _) (by rw[mP];simp only[List.append_assoc]) ?_
    obtain⟨q1,q2,q3,q4⟩:=p5 o3
    unfold AL
    have e0:A8 K3 (I3++(Lib.itoa c.lo++(e8++(Lib.itoa c.hi++u))))=(I3++(Lib.itoa c.lo++(e8++(Lib.itoa c.hi++u))),false):=rfl
    rw[e0,if_neg Bool.false_ne_true,M5 I3,if_pos rfl]
    dsimp only
    rw[UM (n:=c.lo) (u:=e8++(Lib.itoa c.hi++u)) (by omega) (by omega) (Ck _)]
    dsimp only
    rw[if_pos rfl,M5 e8,if_pos rfl]
    dsimp only
    rw[UM (by omega) (by omega) hu]
    obtain⟨o,cl,k,lo,hi,ks⟩:=c
    dsimp only[A1.op,A1.col,A1.code,A1.lo,A1.hi,A1.kids]at *
    obtain rfl:=z2 (by omega)
    subst o3 nf
    rfl
   ·have o4:c.op=4:=by omega
    rw[if_neg o3,if_pos o4]at mP
    refine fin (S0++u) (Ck _) (by rw[mP,List.append_assoc]) ?_
    unfold AL
    have e0:A8 K3 (S0++u)=(S0++u,false):=rfl
    have e1:A8 I3 (S0++u)=(S0++u,false):=rfl
    rw[e0,if_neg Bool.false_ne_true,e1,if_neg Bool.false_ne_true,M5 S0,if_pos rfl]
    obtain⟨o,cl,k,lo,hi,ks⟩:=c
    dsimp only[A1.op,A1.col,A1.code,A1.lo,A1.hi,A1.kids]at *
    obtain rfl:=z2 (by omega)
    obtain⟨rfl,rfl⟩:=z3 (by omega)
    subst o4 nf
    rfl
 ·clear mP
  have up:=z1 (by omega) (by omega) (by omega)
  have vj:=z2 (by omega)
  obtain⟨vU,ui⟩:=z3 (by omega)
  obtain⟨o,cl,k,lo,hi,ks⟩:=c
  dsimp only[A1.op,A1.col,A1.code,A1.lo,A1.hi,A1.kids]at *
  subst up vj vU ui
  by_cases tO:o=5∨o=6
  ·obtain⟨x,y,rfl⟩:∃x y,ks=[x,y]:=Rg (c:=.mk o 0 0 0 0 ks) (by have:=k1 tO;show ks.length=2;omega)
   have hx:=h2 x (by simp)
   have hy:=h2 y (by simp)
   obtain⟨tt,td⟩:=UQ o x y
   have e1:∀w,A8 [40] ([40]++w)=(w,true):=fun w=>M5 [40] w
   have ix:=fun v hv=>ih x (by simp) hx d (left-1) v (by omega) (by omega) hv
   have iy:=fun v hv=>ih y (by simp) hy d (left-1-J0 x) v (by omega) (by omega) hv
   rcases tO with rfl|rfl
   ·have mP:=FJ s 5 x y K7 (.inl ⟨rfl,rfl⟩)
    unfold N9
    rw[if_neg mI,mP,show [40]++C6 s x++K7++C6 s y++[41]++u=[40]++(C6 s x++(K7++(C6 s y++(41::u)))) by simp,e1,if_pos rfl]
    rw[eK (f:=fun l u=>N9 s d l u) (ix (K7++(C6 s y++41::u)) (Ck _)) (iy (41::u) (Rf _)),IL.mk.injEq]
    exact⟨rfl,rfl,rfl,by omega⟩
   ·have mP:=FJ s 6 x y P1 (.inr ⟨rfl,rfl⟩)
    unfold N9
    rw[if_neg mI,mP,show [40]++C6 s x++P1++C6 s y++[41]++u=[40]++(C6 s x++(P1++(C6 s y++(41::u)))) by simp,e1,if_pos rfl]
    rw[iG (f:=fun l u=>N9 s d l u) (ix (P1++(C6 s y++41::u)) (Ck _)) (iy (41::u) (Rf _)),IL.mk.injEq]
    exact⟨rfl,rfl,rfl,by omega⟩
  ·by_cases h7:o=7
   ·obtain⟨x,rfl⟩:∃x,ks=[x]:=Rh (c:=.mk o 0 0 0 0 ks) (by have:=k2 h7;show ks.length=1;omega)
    have hx:=h2 x (by simp)
    obtain⟨tt,td⟩:=UR o x
    subst h7
    have mP:=KC s x
    unfold N9
    rw[if_neg mI,mP,show L4++C6 s x++u=L4++(C6 s x++u) by simp,show A8 [40] (L4++(C6 s x++u))=(L4++(C6 s x++u),false)from rfl,if_neg Bool.false_ne_true,M5 L4,if_pos rfl]
    dsimp only
    rw[ih x (by simp) hx d (left-1) u (by omega) (by omega) hu,IL.mk.injEq]
    exact⟨rfl,rfl,rfl,by dsimp only;omega⟩
   ·have nW:o=1:=by omega
    have nf:ks=[]:=List.eq_nil_of_length_eq_zero (by have:=k3 (by omega) (by omega) h7;omega)
    subst nW nf
    have mP:=KD s
    unfold N9
    rw[if_neg mI,mP]
    obtain⟨t1,t2⟩:=Fe (n:=u7) (by decide) hu
    rw[show A8 [40] (u7++u)=(u7++u,false)from rfl,if_neg Bool.false_ne_true,show A8 L4 (u7++u)=(u7++u,false)from rfl,if_neg Bool.false_ne_true,t1,if_pos rfl,t2,IL.mk.injEq]
    exact⟨rfl,rfl,rfl,rfl⟩
theorem eM{s:A5}{col:Int}{t:List UInt8}(h:(AL s col t).2.1=true):S9 s col++t=C6 s (AL s col t).1++(AL s col t).2.2:=by
 unfold AL at h ⊢
 by_cases h1:(A8 K3 t).2=true
 ·rw[if_pos h1]at h ⊢
  by_cases hk:(C7 s col).kind=2
  ·rw[if_pos hk]at h ⊢
   dsimp only at h ⊢
   have hf:=Oo (of_decide_eq_true h)
   rw[C6,if_pos rfl,BW,hf,List.append_assoc,List.append_assoc,Hs,←N4 h1]
  ·rw[if_neg hk]at h
   cases h
 ·rw[if_neg h1]at h ⊢
  by_cases h2:(A8 I3 t).2=true
  ·rw[if_pos h2]at h ⊢
   by_cases h3:(U0 (A8 I3 t).1).2.1=true
   ·rw[if_pos h3]at h ⊢
    by_cases h4:(A8 e8 (U0 (A8 I3 t).1).2.2).2=true
    ·rw[if_pos h4]at h ⊢
     dsimp only at h ⊢
     rw[C6,if_neg (by decide),if_pos rfl,List.append_assoc,List.append_assoc,List.append_assoc,List.append_assoc,←UN h,←N4 h4,←UN h3,←N4 h2]
    ·rw[if_neg h4]at h
     cases h
   ·rw[if_neg h3]at h
    cases h
  ·rw[if_neg h2]at h ⊢
   by_cases h5:(A8 S0 t).2=true
   ·rw[if_pos h5]at h ⊢
    dsimp only at h ⊢
    rw[C6,if_neg (by decide),if_neg (by decide),if_pos rfl,List.append_assoc,←N4 h5]
   ·rw[if_neg h5]at h
    cases h
theorem eN{s:A5}{f:Int→List UInt8→IL}(hf:∀l t,(f l t).ok=true→t=C6 s (f l t).c++(f l t).t)(left:Int)(t:List UInt8)(h:(At f left t).ok=true):[40]++t=C6 s (At f left t).c++(At f left t).t:=by
 unfold At at h ⊢
 by_cases h1:(f left t).ok=true
 ·rw[if_pos h1]at h ⊢
  have e1:=hf left t h1
  by_cases h2:(A8 K7 (f left t).t).2=true
  ·rw[if_pos h2]at h ⊢
   by_cases h3:(f (f left t).left (A8 K7 (f left t).t).1).ok=true
   ·rw[if_pos h3]at h ⊢
    dsimp only at h ⊢
    have e2:=hf _ _ h3
    rw[FJ s 5 _ _ K7 (.inl ⟨rfl,rfl⟩)]
    simp only[List.append_assoc]
    rw[←N4 h,←e2,←N4 h2,←e1]
   ·rw[if_neg h3]at h;cases h
  ·rw[if_neg h2]at h ⊢
   by_cases h4:(A8 P1 (f left t).t).2=true
   ·rw[if_pos h4]at h ⊢
    by_cases h3:(f (f left t).left (A8 P1 (f left t).t).1).ok=true
    ·rw[if_pos h3]at h ⊢
     dsimp only at h ⊢
     have e2:=hf _ _ h3
     rw[FJ s 6 _ _ P1 (.inr ⟨rfl,rfl⟩)]
     simp only[List.append_assoc]
     rw[←N4 h,←e2,←N4 h4,←e1]
    ·rw[if_neg h3]at h;cases h
   ·rw[if_neg h4]at h;cases h
 ·rw[if_neg h1]at h;cases h
theorem US(s:A5):∀(d:Nat) (left:Int) (t:List UInt8),(N9 s d left t).ok=true→t=C6 s (N9 s d left t).c++(N9 s d left t).t
 |0,left,t,h=>by unfold N9 at h;cases h
 |d+1,left,t,h=>by
  have ih:=US s d
  unfold N9 at h ⊢
  by_cases h1:left-1<0
  ·rw[if_pos h1]at h;cases h
  rw[if_neg h1]at h ⊢
  by_cases h2:(A8 [40] t).2=true
  ·rw[if_pos h2]at h ⊢
   have:=eN (s:=s) (f:=fun l u=>N9 s d l u) ih (left-1) _ h
   rw[←N4 h2]at this
   exact this
  rw[if_neg h2]at h ⊢
  by_cases h3:(A8 L4 t).2=true
  ·rw[if_pos h3]at h ⊢
   dsimp only at h ⊢
   rw[KC,List.append_assoc,←ih _ _ h,←N4 h3]
  rw[if_neg h3]at h ⊢
  by_cases h4:t.takeWhile L1=u7
  ·rw[if_pos h4]at h ⊢
   dsimp only at h ⊢
   rw[KD,←h4,Hs]
  rw[if_neg h4]at h ⊢
  by_cases h5:F0 s (t.takeWhile L1)<0
  ·rw[if_pos h5]at h;cases h
  rw[if_neg h5]at h ⊢
  dsimp only at h ⊢
  have:=eM h
  rw[(GI (by omega)).1,Hs]at this
  exact this
theorem EA{s:A5}(hr:C8 s=0)(t:List UInt8)(c:A1):K5 s t=(c,0)↔G6 s c=0∧t=C6 s c:=by
 unfold K5
 rw[if_pos hr]
 constructor
 ·intro h
  split at h
  ·rename_i hh
   obtain⟨h1,h2,h3⟩:=hh
   have e:=US s 10 40 t h1
   rw[Prod.mk.injEq]at h
   obtain⟨rfl,_⟩:=h
   rw[h2,List.append_nil]at e
   exact⟨h3,e⟩
  ·rw[Prod.mk.injEq]at h
   exact absurd h.2 (by decide)
 ·rintro ⟨h1,rfl⟩
  obtain⟨_,h3,h4,h5⟩:=CA h1
  have e:=eL hr c h5 10 40 [] h4 (by omega) YB
  rw[List.append_nil]at e
  rw[e,if_pos ⟨rfl,rfl,h1⟩]
theorem YC{s:A5}(hr:C8 s=0)(t:List UInt8):(∃c,K5 s t=(c,0))∨K5 s t=(.mk 0 0 0 0 0 [],11):=by
 unfold K5
 rw[if_pos hr]
 split
 ·exact .inl ⟨_,rfl⟩
 ·exact .inr rfl
abbrev kE:List UInt8:=[59,32]
abbrev iH:List UInt8:=[44,32]
def zX:A1:=.mk 0 0 0 0 0 []
def kF(op:Int):List UInt8 :=
 if op=3 then [99,111,117,110,116]else if op=4 then [115,117,109]else if op=5 then [109,101,97,110]else if op=10 then [116,97,98,108,101]else if op=11 then [109,111,100,101,108]else if op=12 then [99,117,114,118,101]else if op=13 then [104,105,115,116]else [98,111,120]
def kG(op:Int):List UInt8:=if op=6 then [32,43,32]else if op=7 then [32,45,32]else if op=8 then [32,42,32]else [32,47,32]
def I8(kp:List UInt8):List (List UInt8)→List UInt8
 |[]=>[]
 |[x]=>x
 |x::y::r=>x++kp++I8 kp (y::r)
def H6(s:A5)(c:Int):List UInt8:=if c<0 then [45]else S9 s c
def P8(s:A5)(d:Pk):List UInt8:=H6 s d.col++[47]++Lib.itoa d.lev
def kH(s:A5)(o n c:Int)(cs:List Int)(ds:List Pk)(ev:A1):List (List UInt8) :=
 if o=3 then []else if o=10 then [I8 iH (ds.map (P8 s)),H6 s c]else if o=11 then [H6 s c,I8 iH (cs.map (H6 s))]else if o=12 then [H6 s c,C6 s ev]else if o=13 then [H6 s c,Lib.itoa n]else [H6 s c]
mutual
def kI(s:A5):R6→List UInt8
 |.mk o n nm c cs ds cd ev ks =>
  if o=1 then Lib.itoa n else if o=2 then nm
  else if 6≤o∧o≤9 then [40]++(WD s ks).getD 0 []++kG o++(WD s ks).getD 1 []++[41]
  else kF o++[40]++I8 kE (kH s o n c cs ds ev++[C6 s cd])++[41]
def WD(s:A5):List R6→List (List UInt8)
 |[]=>[]
 |x::r=>kI s x::WD s r
end
structure Mid where
 num:Int
 cols:List Int
 evt:A1
def B3(c:UInt8)(b:UInt8):Bool:=!decide (b=c)
theorem k8(kp x:List UInt8){l:List (List UInt8)}(h:l≠[]):I8 kp (x::l)=x++kp++I8 kp l:=by
 cases l with
 |nil=>exact absurd rfl h
 |cons y r=>rfl
structure iI(s:A5)(e:R6):Prop where
 op:1≤e.op∧e.op≤14
 unu:gx e
 par:aJ s e=true
 cnd:Vr e.op→G6 s e.cnd=0
 evt:Vs e.op→G6 s e.evt=0
 pair:HX e.op→e.kids.length=2
 kid:∀k∈e.kids,Vt k.op∧Vu s k=true
theorem iI.col{s:A5}{e:R6}(h:iI s e)(ho:Vq e.op):(e.op=10∧e.col=-1)∨u5 s e.col 3=true:=by
 have hp:=h.par
 have oC:=h.op
 simp only[Vq]at ho
 unfold aJ at hp
 rw[if_neg (by omega),if_neg (by omega)]at hp
 by_cases h4:e.op=4∨e.op=5∨e.op=14
 ·rw[if_pos h4]at hp;exact .inr hp
 rw[if_neg h4]at hp
 by_cases tR:e.op=10
 ·rw[if_pos tR]at hp
  simp only[Bool.and_eq_true,Bool.or_eq_true]at hp
  rcases hp.2 with h|h
  ·exact .inl ⟨tR,of_decide_eq_true h⟩
  ·exact .inr h
 rw[if_neg tR]at hp
 by_cases h11:e.op=11
 ·rw[if_pos h11]at hp
  simp only[Bool.and_eq_true]at hp
  exact .inr hp.1
 rw[if_neg h11]at hp
 by_cases h12:e.op=12
 ·rw[if_pos h12]at hp
  simp only[Bool.and_eq_true]at hp
  exact .inr hp.1
 rw[if_neg h12,if_pos (by omega)]at hp
 simp only[Bool.and_eq_true]at hp
 exact .inr hp.1
end Go.Proofs.YtkcekccdcpmekaaGreatDoor

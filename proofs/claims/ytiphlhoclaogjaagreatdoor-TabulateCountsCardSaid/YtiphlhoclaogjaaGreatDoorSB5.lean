/- The choices: New, Next, Range, One, Mod. The text of a small number; a drawn list of codes. Chapter 1: a made list in which something is another thing. Chapter 1: the lists that can be drawn are few. -/
import Derived.Test.YtiphlhoclaogjaaGreatDoorSAvTy
import Derived.Test.YtiphlhoclaogjaaGreatDoorSE3
import Derived.Test.YtiphlhoclaogjaaGreatDoorSB4
set_option linter.unusedVariables false
set_option linter.unnecessarySimpa false
set_option linter.unusedSimpArgs false
set_option maxHeartbeats 64000000
namespace Go.Proofs.YtiphlhoclaogjaaGreatDoor
open Go Go.Av
attribute [local irreducible] C7 B2 D3 DQ D0 C8 St.le A3 B9
def B8(l:List UInt8)(at':Nat)(n:Int):Nat×Nat :=
 if n<1∨l.length≤at' then (0,at')
 else if 256<n∧at'+1<l.length then (((l.getD at' 0).toNat*256+(l.getD (at'+1) 0).toNat) % n.toNat,at'+2)
 else ((l.getD at' 0).toNat % n.toNat,at'+1)
theorem H1(l:List UInt8)(at':Nat){n:Int}(h:1≤n):((B8 l at' n).1:Int)<n:=by
 unfold B8
 split
 ·simp only;omega
 ·have:∀k:Nat,((k % n.toNat:Nat):Int)<n:=fun k=>by
   have:=Nat.mod_lt k (show 0<n.toNat by omega)
   omega
  split<;>exact this _
theorem Oe{l:List UInt8}{i:Nat}{c:UInt8}(h:l[i]?=some c):l.getD i 0=c:=by rw[List.getD_eq_getElem?_getD,h];rfl
theorem ci{l:List UInt8}{a:Nat}{n:Int}(h:n<1∨l.length≤a):B8 l a n=(0,a):=by rw[B8,if_pos h]
theorem fb{l:List UInt8}{a:Nat}{n:Int}{c:UInt8}(h:1≤n)(hc:l[a]?=some c)(h2:¬(256<n∧a+1<l.length)):B8 l a n=(c.toNat % n.toNat,a+1):=by
 have:=(List.getElem?_eq_some_iff.1 hc).1
 rw[B8,if_neg (by omega),if_neg h2,Oe hc]
theorem fc{l:List UInt8}{a:Nat}{n:Int}{c d:UInt8}(h:256<n)(hc:l[a]?=some c)(hd:l[a+1]?=some d):B8 l a n=((c.toNat*256+d.toNat) % n.toNat,a+2):=by
 have:=(List.getElem?_eq_some_iff.1 hd).1
 rw[B8,if_neg (by omega),if_pos ⟨h,this⟩,Oe hc,Oe hd]
theorem fe{m n:Nat}:((m:Int).tmod n)=((m % n:Nat):Int):=by
 rw[Int.tmod_eq_emod_of_nonneg (by omega)];omega
theorem Vy{m:Nat}{n:Int}(h:1≤n):((m:Int).tmod n)=((m % n.toNat:Nat):Int):=by
 have e:n=(n.toNat:Int):=by omega
 rw[e,fe,Int.toNat_natCast]
theorem Of(k:Int){n:Int}(h:1≤n):-n<k.tmod n∧k.tmod n<n:=⟨by
 have:=Int.lt_tmod_of_pos k (b:=n) (by omega);omega,Int.tmod_lt_of_pos k (by omega)⟩
abbrev R4(l:List UInt8)(a:Nat):Hp:=[(0,some (.box [.sl 1 (l.map N9),.i a]))]
theorem cj(l:List UInt8)(hl:l.length≤9223372036854775807):B9 Tryz.prog 12 0 [] [.sl 1 (l.map N9)] 1 (R4 (l.take 400) 0) (.ref 0 0):=by
 refine V9 Tryz.func12 10 fun E h0=>?_
 repeat'((first|refine S2 ?_|(refine T6 ?_ ?_<;>intro h<;>try exact V1 h)|intro el lU lV|intro el lU|exact T4|refine T5 ?_ ?_|intro ex)<;>try conv=>whnf)
 refine H4 (A9 h0 rfl ⟨rfl,trivial⟩ ⟨congrArg (fun z=>C6.box [AV.sl 1 z,.i 0]) ?_,trivial⟩ rfl rfl rfl)
 rw[show (min (l.length:Int) 400).toNat=min l.length 400 by omega,←List.map_take]
 show _=List.map N9 (List.take (min l.length 400) l)
 congr 1
 by_cases h:l.length≤400
 ·rw[Nat.min_eq_left h,List.take_of_length_le h,List.take_of_length_le (Nat.le_refl _)]
 ·rw[Nat.min_eq_right (by omega)]
theorem H7(l:List UInt8)(a:Nat)(n:Int)(hl:l.length≤400):B9 Tryz.prog 42 1 (R4 l a) [.ref 0 0,.i n] 1 (R4 l (B8 l a n).2) (.i (B8 l a n).1):=by
 refine V9 Tryz.func42 77 fun E h0=>?_
 repeat'((first|(refine B3 ?_ ?_;kernel_rfl) |refine S2 ?_|(refine T6 ?_ ?_<;>intro h<;>try exact V1 h)|intro el lU lV|intro el lU|exact T4|refine T5 ?_ ?_|intro ex)<;>try conv=>whnf)
 all_goals first
  |(rw[ci (by omega)];exact H4 (A6 h0))
  |skip
 ·rename_i el1 xh _ _
  have e1:l[a]?=some el1:=by rw[←xh];congr 1;omega
  have e2:l[a+1]?=some el:=by rw[←lU];congr 1
  rw[fc (by assumption) e1 e2]
  refine H4 (A9 h0 rfl ⟨congrArg (fun z=>some (AV.i z)) ?_,trivial⟩ ⟨congrArg (fun z=>C6.box [AV.sl 1 (l.map N9),.i z]) ?_,trivial⟩ rfl rfl rfl)
  ·rw[←Vy (by omega)];rfl
  ·omega
 all_goals
  have e1:l[a]?=some el:=by rw[←lU];congr 1;omega
  rw[fb (by omega) e1 (by omega)]
  exact H4 (A9 h0 rfl ⟨congrArg (fun z=>some (AV.i z)) ((Vy (m:=el.toNat) (n:=n) (by omega))),trivial⟩ ⟨rfl,trivial⟩ rfl rfl rfl)
theorem Fq(k:Int){n:Int}(h:1≤n):(k.tmod n<0∧k % n=k.tmod n+n)∨(0≤k.tmod n∧k % n=k.tmod n):=by
 have h2:k % n=(k.tmod n) % n:=by
  have:=Int.mul_tdiv_add_tmod k n
  conv=>lhs;rw[←this]
  rw[Int.add_comm,Int.add_mul_emod_self_left]
 have hb:-n<k.tmod n∧k.tmod n<n:=⟨by have:=Int.lt_tmod_of_pos k (b:=n) (by omega);omega,Int.tmod_lt_of_pos k (by omega)⟩
 by_cases ql:k.tmod n<0
 ·left
  refine⟨ql,?_⟩
  rw[h2,←Int.add_emod_right,Int.emod_eq_of_lt (by omega) (by omega)]
 ·right
  refine⟨by omega,?_⟩
  rw[h2,Int.emod_eq_of_lt (by omega) (by omega)]
theorem S8(l:List UInt8)(a:Nat)(lo hi:Int)(hl:l.length≤400)(h1:lo≤hi)(h2:-4000000000000000000≤lo)(h3:hi≤4000000000000000000):B9 Tryz.prog 64 1 (R4 l a) [.ref 0 0,.i lo,.i hi] 1 (R4 l (B8 l a (hi-lo+1)).2) (.i (lo+(B8 l a (hi-lo+1)).1)):=by
 have lY:=H1 l a (n:=hi-lo+1) (by omega)
 refine V9 Tryz.func64 15 fun E h0=>?_
 repeat'((first|refine⟨b5 [0] [0] (H7 _ _ _ hl) rfl rfl rfl rfl rfl ⟨rfl,trivial⟩ rfl rfl rfl rfl rfl ?_⟩ |refine S2 ?_|(refine T6 ?_ ?_<;>intro h<;>try exact V1 h)|intro el lU lV|intro el lU|exact T4|refine T5 ?_ ?_|intro ex)<;>try conv=>whnf)
 exact H4 (A6 h0)
theorem p7(l:List UInt8)(a:Nat)(n:Int)(hl:l.length≤400)(hn:1≤n∧n≤1000000):B9 Tryz.prog 40 1 (R4 l a) [.ref 0 0,.i n] 1 (R4 l (B8 l a n).2) (.b (decide (((B8 l a n).1:Int)=n-1))):=by
 refine V9 Tryz.func40 11 fun E h0=>?_
 repeat'((first|refine⟨b5 [0] [0] (H7 _ _ _ hl) rfl rfl rfl rfl rfl ⟨rfl,trivial⟩ rfl rfl rfl rfl rfl ?_⟩ |refine S2 ?_|(refine T6 ?_ ?_<;>intro h<;>try exact V1 h)|intro el lU lV|intro el lU|exact T4|refine T5 ?_ ?_|intro ex)<;>try conv=>whnf)
 exact H4 (A6 h0)
def XU:Nat→Nat→List UInt8
 |0,_=>[]
 |f+1,n=>if n<10 then [UInt8.ofNat (48+n)]else XU f (n / 10)++[UInt8.ofNat (48+n % 10)]
def P3(n:Nat):List UInt8:=XU 20 n
theorem Zt:∀n:Nat,n<10→(([48,49,50,51,52,53,54,55,56,57,97,98,99,100,101,102,103,104,105,106,107,108,109,110,111,112,113,114,115,116,117,118,119,120,121,122]:List UInt8).take (n+1)).drop n=P3 n:=by decide
def kf:List UInt8:=[48,48,48,49,48,50,48,51,48,52,48,53,48,54,48,55,48,56,48,57,49,48,49,49,49,50,49,51,49,52,49,53,49,54,49,55,49,56,49,57,50,48,50,49,50,50,50,51,50,52,50,53,50,54,50,55,50,56,50,57,51,48,51,49,51,50,51,51,51,52,51,53,51,54,51,55,51,56,51,57,52,48,52,49,52,50,52,51,52,52,52,53,52,54,52,55,52,56,52,57,53,48,53,49,53,50,53,51,53,52,53,53,53,54,53,55,53,56,53,57,54,48,54,49,54,50,54,51,54,52,54,53,54,54,54,55,54,56,54,57,55,48,55,49,55,50,55,51,55,52,55,53,55,54,55,55,55,56,55,57,56,48,56,49,56,50,56,51,56,52,56,53,56,54,56,55,56,56,56,57,57,48,57,49,57,50,57,51,57,52,57,53,57,54,57,55,57,56,57,57]
set_option maxRecDepth 10000 in
theorem Zu:∀n:Nat,n<100→10≤n→(kf.take (n*2+2)).drop (n*2)=P3 n:=by decide
theorem XV(n:Nat)(hn:n<100):A3 Tryz.prog 235 [.i n] (.str (P3 n)):=by
 refine B6 Tryz.func235 15 fun lW E h0=>?_
 repeat'((first|(refine I4 ?_ ?_;(refine⟨by omega,by omega,?_⟩;simp only[List.length_cons,List.length_nil];omega))|(refine I4 ?_ ?_;(refine⟨by omega,by omega,?_⟩;(show _≤((200:Nat):Int));omega)) |refine S2 ?_|(refine T6 ?_ ?_<;>intro h<;>try exact V1 h)|intro el lU lV|intro el lU|exact T4|refine T5 ?_ ?_|intro ex)<;>try conv=>whnf)
 ·refine A0 rfl (congrArg AV.str ?_)
  rw[←Zt n (by omega)]
  congr 1
 ·refine A0 rfl (congrArg AV.str ?_)
  rw[←Zu n hn (by omega)]
  show List.drop ((n:Int)*2).toNat (List.take ((n:Int)*2+2).toNat kf)=_
  congr 2
theorem Og(n:Nat)(hn:n<100):A3 Tryz.prog 218 [.i n,.i 10] (.str (P3 n)):=by
 refine B6 Tryz.func218 54 fun lW E h0=>?_
 repeat'((first|refine A1 (XV _ hn) ?_|(refine B3 ?_ ?_;kernel_rfl) |refine S2 ?_|(refine T6 ?_ ?_<;>intro h<;>try exact V1 h)|intro el lU lV|intro el lU|exact T4|refine T5 ?_ ?_|intro ex)<;>try conv=>whnf)
 all_goals first
  |exact A0 rfl rfl
theorem XW(n:Nat)(hn:n<100):A3 Tryz.prog 174 [.i n] (.str (P3 n)):=by
 refine B6 Tryz.func174 5 fun lW E h0=>?_
 repeat'((first|refine A1 (Og _ hn) ?_ |refine S2 ?_|(refine T6 ?_ ?_<;>intro h<;>try exact V1 h)|intro el lU lV|intro el lU|exact T4|refine T5 ?_ ?_|intro ex)<;>try conv=>whnf)
 exact A0 rfl rfl
theorem Cb(n:Nat)(hn:n<100):A3 Tryz.prog 123 [.i n] (.str (P3 n)):=by
 refine B6 Tryz.func123 5 fun lW E h0=>?_
 repeat'((first|refine A1 (XW _ hn) ?_ |refine S2 ?_|(refine T6 ?_ ?_<;>intro h<;>try exact V1 h)|intro el lU lV|intro el lU|exact T4|refine T5 ?_ ?_|intro ex)<;>try conv=>whnf)
 exact A0 rfl rfl
def eb(i:Nat):Code:=⟨[107]++P3 i,0⟩
def RL(n p:Nat):Code:=⟨[108]++P3 n,1+p⟩
def kw:Code:=⟨[116,111,112],-1⟩
def V2(kids:Nat):List Code:=kw::(List.range kids).map eb
def FH(cs:List Code)(p:Nat):Nat→List Code
 |0=>cs
 |k+1=>FH (cs++[RL cs.length p]) p k
def BG(l:List UInt8):List Code×Nat→Nat→Nat→List Code×Nat
 |s,_,0=>s
 |s,p,k+1=>BG l (FH s.1 p (1+(B8 l s.2 2).1),(B8 l s.2 2).2) (p+1) k
def J3(l:List UInt8)(a:Nat):List Code×Nat :=
 let kids:=1+(B8 l a 3).1
 let b:=B8 l (B8 l a 3).2 2
 if b.1=1 then (V2 kids,b.2)else BG l (V2 kids,b.2) 0 kids
abbrev Px:Nat:=90
abbrev lB(l:List UInt8)(a:Nat)(nm:List UInt8)(cs:List Code):Hp:=[(0,some (.box [.sl 1 (l.map N9),.i a])),(1,some (.box [.str nm,.row 2 0 cs.length])),(2,some (.row Px 2 0 (cs.map cA)))]
theorem Us(i:Nat):(V2 i)++[eb i]=V2 (i+1):=by
 unfold V2
 rw[List.range_succ,List.map_append];rfl
theorem Bz(i:Nat):(V2 i).length=i+1:=by simp[V2]
theorem Kw:∀f n,(XU f n).length≤f
 |0,_=>Nat.le_refl _
 |f+1,n=>by
  unfold XU
  split
  ·simp
  ·have:=Kw f (n / 10)
   simp;omega
theorem v6(n:Nat):(P3 n).length≤20:=Kw 20 n
theorem Py(l:List UInt8)(a:Nat)(nm:List UInt8)(hl:l.length≤400):B9 Tryz.prog 141 1 (R4 l a) [.ref 0 0,.str nm] 3 (lB l (J3 l a).2 nm (J3 l a).1) (.agg [.str nm,.row 2 0 (J3 l a).1.length]):=by
 have pF:=H1 l a (n:=3) (by omega)
 generalize nD:(B8 l a 3).1=b1 at pF
 generalize mC:(B8 l a 3).2=b2
 refine V9 Tryz.func141 58 fun E h0=>?_
 repeat'((first|refine Z9 rfl ?_|refine⟨b5 [0] [0] (S8 _ _ _ _ hl (by omega) (by omega) (by omega)) rfl rfl rfl rfl rfl ⟨rfl,trivial⟩ rfl rfl rfl rfl rfl ?_⟩|refine⟨b5 [0] [0] (p7 _ _ _ hl (by omega)) rfl rfl rfl rfl rfl ⟨rfl,trivial⟩ rfl rfl rfl rfl rfl ?_⟩ |refine S2 ?_|(refine T6 ?_ ?_<;>intro h<;>try exact V1 h)|intro el lU lV|intro el lU|exact T4|refine T5 ?_ ?_|intro ex)<;>try conv=>whnf)
 refine B0 (ι:=Nat) (fun i=>⟨[(0,.ref 0 0),(4,.ref 1 0),(5,.ref 3 0),(6,.i (1+b1:Int)),(7,.i i)],4,[(0,some (.box [.sl 1 (l.map N9),.i b2])),(1,some (.box [.str [],.v (.slice none 0 0)])),(2,some (.row Px 2 0 ((V2 i).map cA))),(3,some (.box [.str nm,.row 2 0 (V2 i).length]))]⟩) (fun i=>i≤1+b1) (fun i=>1+b1-i) 0 (Nat.zero_le _) (A9 h0 rfl ⟨rfl,rfl,rfl,by rw[←nD];rfl,rfl,trivial⟩ ⟨by rw[←mC];rfl,rfl,⟨0,rfl⟩,rfl,trivial⟩ rfl rfl rfl) (fun i hI=>?_)
 have qi:=v6 i
 have lk:=Bz i
 repeat'((first|refine A1 (Cb i (by omega)) ?_|(refine I4 ?_ ?_;(simp only[List.length_cons,List.length_nil];omega))|refine⟨b5 [0] [0] (p7 _ _ _ hl (by omega)) rfl rfl rfl rfl rfl ⟨rfl,trivial⟩ rfl rfl rfl rfl rfl ?_⟩|refine JI ⟨[(0,.ref 0 0),(4,.ref 1 0),(5,.ref 3 0),(6,.i (1+b1:Int)),(7,.i i)],4,[(0,some (.box [.sl 1 (l.map N9),.i b2])),(1,some (.box [.str [],.v (.slice none 0 0)])),(2,some (.row Px 2 0 ((V2 (i+1)).map cA))),(3,some (.box [.str nm,.row 2 0 (V2 (i+1)).length]))]⟩ ?_ ?_ |refine S2 ?_|(refine T6 ?_ ?_<;>intro h<;>try exact V1 h)|intro el lU lV|intro el lU|exact T4|refine T5 ?_ ?_|intro ex)<;>try conv=>whnf)
 case refine_1.refine_2 =>
  exact⟨i+1,by omega,by omega,A9 h0 rfl ⟨rfl,rfl,rfl,rfl,rfl,trivial⟩ ⟨rfl,rfl,⟨0,rfl⟩,rfl,trivial⟩ rfl rfl rfl⟩
 case refine_2.refine_1 =>
  have e:J3 l a=(V2 (1+b1),(B8 l b2 2).2):=by
   have:(B8 l b2 2).1=1:=by omega
   simp[J3,nD,mC,this]
  have ei:i=1+b1:=by omega
  subst ei
  rw[e]
  exact Pj (i:=1) rfl (A9 h0 rfl ⟨rfl,trivial⟩ ⟨rfl,rfl,⟨0,rfl⟩,trivial⟩ rfl rfl rfl) rfl
 case refine_2.refine_2 =>
  have e:J3 l a=BG l (V2 (1+b1),(B8 l b2 2).2) 0 (1+b1):=by
   have:¬(B8 l b2 2).1=1:=by omega
   simp[J3,nD,mC,this]
  have ei:i=1+b1:=by omega
  subst ei
  rw[e]
  clear e h hI qi
  generalize (B8 l b2 2).2=b3
  refine B0 (ι:=Nat×List Code×Nat) (fun x=>⟨[(0,.ref 0 0),(4,.ref 1 0),(5,.ref 3 0),(6,.i (1+b1:Int)),(8,.i x.1)],4,[(0,some (.box [.sl 1 (l.map N9),.i x.2.2])),(1,some (.box [.str [],.v (.slice none 0 0)])),(2,some (.row Px 2 0 (x.2.1.map cA))),(3,some (.box [.str nm,.row 2 0 x.2.1.length]))]⟩)
   (fun x=>x.1≤1+b1∧x.2.1.length≤2+b1+2*x.1∧BG l (V2 (1+b1),b3) 0 (1+b1)=BG l x.2 x.1 (1+b1-x.1)) (fun x=>1+b1-x.1) (0,V2 (1+b1),b3) ⟨Nat.zero_le _,by rw[Bz];omega,rfl⟩
   (A9 h0 rfl ⟨rfl,rfl,rfl,rfl,rfl,trivial⟩ ⟨rfl,rfl,⟨0,rfl⟩,rfl,trivial⟩ rfl rfl rfl) (fun x hJ=>?_)
  obtain⟨p,cs,a2⟩:=x
  obtain⟨hp,ly,hJ⟩:=hJ
  simp only at hp ly hJ
  repeat'((first|refine⟨b5 [0] [0] (S8 _ _ _ _ hl (by omega) (by omega) (by omega)) rfl rfl rfl rfl rfl ⟨rfl,trivial⟩ rfl rfl rfl rfl rfl ?_⟩ |refine S2 ?_|(refine T6 ?_ ?_<;>intro h<;>try exact V1 h)|intro el lU lV|intro el lU|exact T4|refine T5 ?_ ?_|intro ex)<;>try conv=>whnf)
  ·simp only at h
   have lg:=H1 l a2 (n:=2) (by omega)
   generalize ya:(B8 l a2 2).1=r1 at lg
   generalize nP:(B8 l a2 2).2=r2
   refine B0 (ι:=List Code×Nat) (fun y=>⟨[(0,.ref 0 0),(4,.ref 1 0),(5,.ref 3 0),(6,.i (1+b1:Int)),(8,.i p),(9,.i y.2)],4,[(0,some (.box [.sl 1 (l.map N9),.i r2])),(1,some (.box [.str [],.v (.slice none 0 0)])),(2,some (.row Px 2 0 (y.1.map cA))),(3,some (.box [.str nm,.row 2 0 y.1.length]))]⟩)
    (fun y=>y.2≤1+r1∧y.1.length+y.2=cs.length+1+r1∧FH cs p (1+r1)=FH y.1 p y.2) (fun y=>y.2) (cs,1+r1) ⟨Nat.le_refl _,by simp only;omega,rfl⟩
    (A9 h0 rfl ⟨rfl,rfl,rfl,rfl,rfl,by rw[←ya];exact congrArg (fun z=>some (AV.i z)) (by show (1:Int)+((B8 l a2 2).1:Int)=_;simp only;omega),trivial⟩ ⟨by rw[←nP];rfl,rfl,⟨0,rfl⟩,rfl,trivial⟩ rfl rfl rfl) (fun y hK=>?_)
   obtain⟨sV,k⟩:=y
   obtain⟨hk,lX,hK⟩:=hK
   simp only at hk lX hK
   have qi:=v6 sV.length
   repeat'((first|refine A1 (Cb sV.length (by omega)) ?_|(refine I4 ?_ ?_;(simp only[List.length_cons,List.length_nil];omega))|refine JI ⟨[(0,.ref 0 0),(4,.ref 1 0),(5,.ref 3 0),(6,.i (1+b1:Int)),(8,.i p),(9,.i k)],4,[(0,some (.box [.sl 1 (l.map N9),.i r2])),(1,some (.box [.str [],.v (.slice none 0 0)])),(2,some (.row Px 2 0 ((sV++[RL sV.length p]).map cA))),(3,some (.box [.str nm,.row 2 0 (sV++[RL sV.length p]).length]))]⟩ ?_ ?_ |refine S2 ?_|(refine T6 ?_ ?_<;>intro h<;>try exact V1 h)|intro el lU lV|intro el lU|exact T4|refine T5 ?_ ?_|intro ex)<;>try conv=>whnf)
   all_goals first
    |exact A9 h0 rfl ⟨rfl,rfl,rfl,rfl,rfl,rfl,trivial⟩ ⟨rfl,rfl,⟨_,congrArg (C6.row Px 2 _) (by rw[List.map_append];rfl)⟩,congrArg (fun z=>C6.box [AV.str nm,.row 2 0 z]) (by rw[List.length_append];rfl),trivial⟩ rfl rfl rfl
    |skip
   ·simp only at h
    obtain⟨k',rfl⟩:∃k',k=k'+1:=⟨k-1,by omega⟩
    refine⟨(sV++[RL sV.length p],k'),⟨?_,?_,?_⟩,?_,A9 h0 rfl ⟨rfl,rfl,rfl,rfl,rfl,congrArg (fun z=>some (AV.i z)) ?_,trivial⟩ ⟨rfl,rfl,⟨0,rfl⟩,rfl,trivial⟩ rfl rfl rfl⟩
    ·simp only;omega
    ·simp only[List.length_append,List.length_singleton];omega
    ·rw[hK];rfl
    ·simp only;omega
    ·simp only;omega
   ·simp only at h
    have ek:k=0:=by omega
    subst ek
    refine⟨(p+1,sV,r2),⟨?_,?_,?_⟩,?_,A9 h0 rfl ⟨rfl,rfl,rfl,rfl,rfl,trivial⟩ ⟨rfl,rfl,⟨0,rfl⟩,rfl,trivial⟩ rfl rfl rfl⟩
    ·simp only;omega
    ·simp only;omega
    ·obtain⟨q,hq⟩:∃q,1+b1-p=q+1:=⟨b1-p,by omega⟩
     have nC:1+b1-(p+1)=q:=by omega
     rw[hJ,hq]
     simp only[nC,BG,ya,nP,hK]
     rfl
    ·simp only;omega
  ·simp only at h
   have e1:1+b1-p=0:=by omega
   rw[hJ,e1]
   exact Pj (i:=1) rfl (A9 h0 rfl ⟨rfl,trivial⟩ ⟨rfl,rfl,⟨0,rfl⟩,trivial⟩ rfl rfl rfl) rfl
 all_goals exact A9 h0 rfl ⟨rfl,rfl,rfl,rfl,rfl,trivial⟩ ⟨rfl,rfl,⟨_,congrArg (C6.row Px 2 _) (by rw[←Us,List.map_append];rfl)⟩,congrArg (fun z=>C6.box [AV.str nm,.row 2 0 z]) (by rw[Bz,Bz];rfl),trivial⟩ rfl rfl rfl
theorem Ut(cs:List Code)(p:Nat):∀k,(FH cs p k).length=cs.length+k
 |0=>rfl
 |k+1=>by
  unfold FH
  induction k generalizing cs with
  |zero=>simp[FH]
  |succ k ih=>rw[FH,ih];simp;omega
theorem Qp(l:List UInt8):∀(k p:Nat) (s:List Code×Nat),s.1.length≤(BG l s p k).1.length∧(BG l s p k).1.length≤s.1.length+2*k
 |0,p,s=>⟨Nat.le_refl _,Nat.le_refl _⟩
 |k+1,p,s=>by
  unfold BG
  have h:=Qp l k (p+1) (FH s.1 p (1+(B8 l s.2 2).1),(B8 l s.2 2).2)
  have h2:=H1 l s.2 (n:=2) (by omega)
  rw[Ut]at h
  omega
def lF:List Code→Nat→List Nat→List Code
 |cs,_,[]=>cs
 |cs,p,r::rs=>lF (FH cs p r) (p+1) rs
def Sk:Nat→List (List Nat)
 |0=>[[]]
 |k+1=>(Sk k).flatMap fun r=>[1::r,2::r]
theorem NR(l:List UInt8):∀(k p:Nat) (s:List Code×Nat),∃rs∈Sk k,(BG l s p k).1=lF s.1 p rs
 |0,p,s=>⟨[],by simp[Sk],rfl⟩
 |k+1,p,s=>by
  have h2:=H1 l s.2 (n:=2) (by omega)
  obtain⟨rs,h,e⟩:=NR l k (p+1) (FH s.1 p (1+(B8 l s.2 2).1),(B8 l s.2 2).2)
  refine⟨(1+(B8 l s.2 2).1)::rs,?_,?_⟩
  ·rw[Sk,List.mem_flatMap]
   refine⟨rs,h,?_⟩
   rcases(show (B8 l s.2 2).1=0∨(B8 l s.2 2).1=1 by omega)with e|e<;>rw[e]<;>simp
  ·rw[BG,e];rfl
def NS:List (List Code):=[1,2,3].flatMap fun kids=>V2 kids::(Sk kids).map fun rs=>lF (V2 kids) 0 rs
theorem Pz(l:List UInt8)(a:Nat):(J3 l a).1∈NS:=by
 have h3:=H1 l a (n:=3) (by omega)
 unfold NS
 rw[List.mem_flatMap]
 refine⟨1+(B8 l a 3).1,?_,?_⟩
 ·rcases(show (B8 l a 3).1=0∨(B8 l a 3).1=1∨(B8 l a 3).1=2 by omega)with e|e|e<;>rw[e]<;>simp
 ·unfold J3
  simp only
  split
  ·simp
  ·obtain⟨rs,h,e⟩:=NR l (1+(B8 l a 3).1) 0 (V2 (1+(B8 l a 3).1),(B8 l (B8 l a 3).2 2).2)
   rw[e]
   exact List.mem_cons_of_mem _ (List.mem_map.2 ⟨rs,h,rfl⟩)
end Go.Proofs.YtiphlhoclaogjaaGreatDoor

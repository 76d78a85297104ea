/- The choices: New, Next, Range, One, Mod. The text of a small number; a drawn list of codes. Chapter 1: a made list in which something is another thing. Chapter 1: the lists that can be drawn are few. -/
import Derived.Test.YtiphlhoclaogjaaGreatDoorJAvTy
import Derived.Test.YtiphlhoclaogjaaGreatDoorJE3
import Derived.Test.YtiphlhoclaogjaaGreatDoorJB4
set_option linter.unusedVariables false
set_option linter.unnecessarySimpa false
set_option linter.unusedSimpArgs false
set_option maxHeartbeats 64000000
namespace Go.Proofs.YtiphlhoclaogjaaGreatDoor
open Go Go.Av
attribute [local irreducible] C9 B3 C8 DQ D0 C7 St.le A3 B8
def C1(l:List UInt8)(at':Nat)(n:Int):Nat×Nat :=
 if n<1∨l.length≤at' then (0,at')
 else if 256<n∧at'+1<l.length then (((l.getD at' 0).toNat*256+(l.getD (at'+1) 0).toNat) % n.toNat,at'+2)
 else ((l.getD at' 0).toNat % n.toNat,at'+1)
theorem I4(l:List UInt8)(at':Nat){n:Int}(h:1≤n):((C1 l at' n).1:Int)<n:=by
 unfold C1
 split
 ·simp only;omega
 ·have:∀k:Nat,((k % n.toNat:Nat):Int)<n:=fun k=>by
   have:=Nat.mod_lt k (show 0<n.toNat by omega)
   omega
  split<;>exact this _
theorem PZ{l:List UInt8}{i:Nat}{c:UInt8}(h:l[i]?=some c):l.getD i 0=c:=by rw[List.getD_eq_getElem?_getD,h];rfl
theorem dq{l:List UInt8}{a:Nat}{n:Int}(h:n<1∨l.length≤a):C1 l a n=(0,a):=by rw[C1,if_pos h]
theorem iF{l:List UInt8}{a:Nat}{n:Int}{c:UInt8}(h:1≤n)(hc:l[a]?=some c)(h2:¬(256<n∧a+1<l.length)):C1 l a n=(c.toNat % n.toNat,a+1):=by
 have:=(List.getElem?_eq_some_iff.1 hc).1
 rw[C1,if_neg (by omega),if_neg h2,PZ hc]
theorem iG{l:List UInt8}{a:Nat}{n:Int}{c d:UInt8}(h:256<n)(hc:l[a]?=some c)(hd:l[a+1]?=some d):C1 l a n=((c.toNat*256+d.toNat) % n.toNat,a+2):=by
 have:=(List.getElem?_eq_some_iff.1 hd).1
 rw[C1,if_neg (by omega),if_pos ⟨h,this⟩,PZ hc,PZ hd]
theorem iH{m n:Nat}:((m:Int).tmod n)=((m % n:Nat):Int):=by
 rw[Int.tmod_eq_emod_of_nonneg (by omega)];omega
theorem Wo{m:Nat}{n:Int}(h:1≤n):((m:Int).tmod n)=((m % n.toNat:Nat):Int):=by
 have e:n=(n.toNat:Int):=by omega
 rw[e,iH,Int.toNat_natCast]
theorem Kv(k:Int){n:Int}(h:1≤n):-n<k.tmod n∧k.tmod n<n:=⟨by
 have:=Int.lt_tmod_of_pos k (b:=n) (by omega);omega,Int.tmod_lt_of_pos k (by omega)⟩
abbrev X7(l:List UInt8)(a:Nat):Hp:=[(0,some (.box [.sl 1 (l.map P9),.i a]))]
theorem dr(l:List UInt8)(hl:l.length≤9223372036854775807):B8 Tryz.prog 12 0 [] [.sl 1 (l.map P9)] 1 (X7 (l.take 400) 0) (.ref 0 0):=by
 refine c9 Tryz.func12 10 fun E h0=>?_
 repeat'((first|refine S2 ?_|(refine T6 ?_ ?_<;>intro h<;>try exact V1 h)|intro el nJ nK|intro el nJ|exact T4|refine T5 ?_ ?_|intro ex)<;>try conv=>whnf)
 refine H6 (A7 h0 rfl ⟨rfl,trivial⟩ ⟨congrArg (fun z=>C4.box [AV.sl 1 z,.i 0]) ?_,trivial⟩ rfl rfl rfl)
 rw[show (min (l.length:Int) 400).toNat=min l.length 400 by omega,←List.map_take]
 show _=List.map P9 (List.take (min l.length 400) l)
 congr 1
 by_cases h:l.length≤400
 ·rw[Nat.min_eq_left h,List.take_of_length_le h,List.take_of_length_le (Nat.le_refl _)]
 ·rw[Nat.min_eq_right (by omega)]
theorem J8(l:List UInt8)(a:Nat)(n:Int)(hl:l.length≤400):B8 Tryz.prog 42 1 (X7 l a) [.ref 0 0,.i n] 1 (X7 l (C1 l a n).2) (.i (C1 l a n).1):=by
 refine c9 Tryz.func42 77 fun E h0=>?_
 repeat'((first|(refine A9 ?_ ?_;kernel_rfl) |refine S2 ?_|(refine T6 ?_ ?_<;>intro h<;>try exact V1 h)|intro el nJ nK|intro el nJ|exact T4|refine T5 ?_ ?_|intro ex)<;>try conv=>whnf)
 all_goals first
  |(rw[dq (by omega)];exact H6 (A6 h0))
  |skip
 ·rename_i el1 AB1 _ _
  have e1:l[a]?=some el1:=by rw[←AB1];congr 1;omega
  have e2:l[a+1]?=some el:=by rw[←nJ];congr 1
  rw[iG (by assumption) e1 e2]
  refine H6 (A7 h0 rfl ⟨congrArg (fun z=>some (AV.i z)) ?_,trivial⟩ ⟨congrArg (fun z=>C4.box [AV.sl 1 (l.map P9),.i z]) ?_,trivial⟩ rfl rfl rfl)
  ·rw[←Wo (by omega)];rfl
  ·omega
 all_goals
  have e1:l[a]?=some el:=by rw[←nJ];congr 1;omega
  rw[iF (by omega) e1 (by omega)]
  exact H6 (A7 h0 rfl ⟨congrArg (fun z=>some (AV.i z)) ((Wo (m:=el.toNat) (n:=n) (by omega))),trivial⟩ ⟨rfl,trivial⟩ rfl rfl rfl)
def IU(k n:Int):Int:=if n<1 then 0 else k % n
theorem Jq{k n:Int}(h:1≤n):0≤IU k n∧IU k n<n:=by
 rw[IU,if_neg (by omega)]
 exact⟨Int.emod_nonneg _ (by omega),Int.emod_lt_of_pos _ (by omega)⟩
theorem DF(k:Int){n:Int}(h:1≤n):(k.tmod n<0∧k % n=k.tmod n+n)∨(0≤k.tmod n∧k % n=k.tmod n):=by
 have h2:k % n=(k.tmod n) % n:=by
  have:=Int.mul_tdiv_add_tmod k n
  conv=>lhs;rw[←this]
  rw[Int.add_comm,Int.add_mul_emod_self_left]
 have hb:-n<k.tmod n∧k.tmod n<n:=⟨by have:=Int.lt_tmod_of_pos k (b:=n) (by omega);omega,Int.tmod_lt_of_pos k (by omega)⟩
 by_cases tD:k.tmod n<0
 ·left
  refine⟨tD,?_⟩
  rw[h2,←Int.add_emod_right,Int.emod_eq_of_lt (by omega) (by omega)]
 ·right
  refine⟨by omega,?_⟩
  rw[h2,Int.emod_eq_of_lt (by omega) (by omega)]
theorem dt(k n:Int)(hn:n≤9223372036854775807):A3 Tryz.prog 19 [.i k,.i n] (.i (IU k n)):=by
 have hb:=fun h:1≤n=>Kv k h
 refine B5 Tryz.func19 16 fun nL E h0=>?_
 repeat'((first|(refine J0 ?_ ?_;(have:=hb (by omega);omega)) |refine S2 ?_|(refine T6 ?_ ?_<;>intro h<;>try exact V1 h)|intro el nJ nK|intro el nJ|exact T4|refine T5 ?_ ?_|intro ex)<;>try conv=>whnf)
 ·exact A1 rfl (congrArg AV.i (by rw[IU,if_pos h]))
 ·refine A1 rfl (congrArg AV.i ?_)
  have sM:1≤n:=by omega
  have:=DF k sM
  rw[IU,if_neg (by omega)];omega
 ·refine A1 rfl (congrArg AV.i ?_)
  have sM:1≤n:=by omega
  have:=DF k sM
  rw[IU,if_neg (by omega)];omega
theorem u3(l:List UInt8)(a:Nat)(lo hi:Int)(hl:l.length≤400)(h1:lo≤hi)(h2:-4000000000000000000≤lo)(h3:hi≤4000000000000000000):B8 Tryz.prog 64 1 (X7 l a) [.ref 0 0,.i lo,.i hi] 1 (X7 l (C1 l a (hi-lo+1)).2) (.i (lo+(C1 l a (hi-lo+1)).1)):=by
 have nN:=I4 l a (n:=hi-lo+1) (by omega)
 refine c9 Tryz.func64 15 fun E h0=>?_
 repeat'((first|refine⟨l4 [0] [0] (J8 _ _ _ hl) rfl rfl rfl rfl rfl ⟨rfl,trivial⟩ rfl rfl rfl rfl rfl ?_⟩ |refine S2 ?_|(refine T6 ?_ ?_<;>intro h<;>try exact V1 h)|intro el nJ nK|intro el nJ|exact T4|refine T5 ?_ ?_|intro ex)<;>try conv=>whnf)
 exact H6 (A6 h0)
theorem Co(l:List UInt8)(a:Nat)(n:Int)(hl:l.length≤400)(hn:1≤n∧n≤1000000):B8 Tryz.prog 40 1 (X7 l a) [.ref 0 0,.i n] 1 (X7 l (C1 l a n).2) (.b (decide (((C1 l a n).1:Int)=n-1))):=by
 refine c9 Tryz.func40 11 fun E h0=>?_
 repeat'((first|refine⟨l4 [0] [0] (J8 _ _ _ hl) rfl rfl rfl rfl rfl ⟨rfl,trivial⟩ rfl rfl rfl rfl rfl ?_⟩ |refine S2 ?_|(refine T6 ?_ ?_<;>intro h<;>try exact V1 h)|intro el nJ nK|intro el nJ|exact T4|refine T5 ?_ ?_|intro ex)<;>try conv=>whnf)
 exact H6 (A6 h0)
def YL:Nat→Nat→List UInt8
 |0,_=>[]
 |f+1,n=>if n<10 then [UInt8.ofNat (48+n)]else YL f (n / 10)++[UInt8.ofNat (48+n % 10)]
def Cc(n:Nat):List UInt8:=YL 20 n
theorem ao:∀n:Nat,n<10→(([48,49,50,51,52,53,54,55,56,57,97,98,99,100,101,102,103,104,105,106,107,108,109,110,111,112,113,114,115,116,117,118,119,120,121,122]:List UInt8).take (n+1)).drop n=Cc n:=by decide
def mV:List UInt8:=[48,48,48,49,48,50,48,51,48,52,48,53,48,54,48,55,48,56,48,57,49,48,49,49,49,50,49,51,49,52,49,53,49,54,49,55,49,56,49,57,50,48,50,49,50,50,50,51,50,52,50,53,50,54,50,55,50,56,50,57,51,48,51,49,51,50,51,51,51,52,51,53,51,54,51,55,51,56,51,57,52,48,52,49,52,50,52,51,52,52,52,53,52,54,52,55,52,56,52,57,53,48,53,49,53,50,53,51,53,52,53,53,53,54,53,55,53,56,53,57,54,48,54,49,54,50,54,51,54,52,54,53,54,54,54,55,54,56,54,57,55,48,55,49,55,50,55,51,55,52,55,53,55,54,55,55,55,56,55,57,56,48,56,49,56,50,56,51,56,52,56,53,56,54,56,55,56,56,56,57,57,48,57,49,57,50,57,51,57,52,57,53,57,54,57,55,57,56,57,57]
set_option maxRecDepth 10000 in
theorem ap:∀n:Nat,n<100→10≤n→(mV.take (n*2+2)).drop (n*2)=Cc n:=by decide
theorem YM(n:Nat)(hn:n<100):A3 Tryz.prog 235 [.i n] (.str (Cc n)):=by
 refine B5 Tryz.func235 15 fun nL E h0=>?_
 repeat'((first|(refine J0 ?_ ?_;(refine⟨by omega,by omega,?_⟩;simp only[List.length_cons,List.length_nil];omega))|(refine J0 ?_ ?_;(refine⟨by omega,by omega,?_⟩;(show _≤((200:Nat):Int));omega)) |refine S2 ?_|(refine T6 ?_ ?_<;>intro h<;>try exact V1 h)|intro el nJ nK|intro el nJ|exact T4|refine T5 ?_ ?_|intro ex)<;>try conv=>whnf)
 ·refine A1 rfl (congrArg AV.str ?_)
  rw[←ao n (by omega)]
  congr 1
 ·refine A1 rfl (congrArg AV.str ?_)
  rw[←ap n hn (by omega)]
  show List.drop ((n:Int)*2).toNat (List.take ((n:Int)*2+2).toNat mV)=_
  congr 2
theorem Pa(n:Nat)(hn:n<100):A3 Tryz.prog 218 [.i n,.i 10] (.str (Cc n)):=by
 refine B5 Tryz.func218 54 fun nL E h0=>?_
 repeat'((first|refine A0 (YM _ hn) ?_|(refine A9 ?_ ?_;kernel_rfl) |refine S2 ?_|(refine T6 ?_ ?_<;>intro h<;>try exact V1 h)|intro el nJ nK|intro el nJ|exact T4|refine T5 ?_ ?_|intro ex)<;>try conv=>whnf)
 all_goals first
  |exact A1 rfl rfl
theorem YN(n:Nat)(hn:n<100):A3 Tryz.prog 174 [.i n] (.str (Cc n)):=by
 refine B5 Tryz.func174 5 fun nL E h0=>?_
 repeat'((first|refine A0 (Pa _ hn) ?_ |refine S2 ?_|(refine T6 ?_ ?_<;>intro h<;>try exact V1 h)|intro el nJ nK|intro el nJ|exact T4|refine T5 ?_ ?_|intro ex)<;>try conv=>whnf)
 exact A1 rfl rfl
theorem Gc(n:Nat)(hn:n<100):A3 Tryz.prog 123 [.i n] (.str (Cc n)):=by
 refine B5 Tryz.func123 5 fun nL E h0=>?_
 repeat'((first|refine A0 (YN _ hn) ?_ |refine S2 ?_|(refine T6 ?_ ?_<;>intro h<;>try exact V1 h)|intro el nJ nK|intro el nJ|exact T4|refine T5 ?_ ?_|intro ex)<;>try conv=>whnf)
 exact A1 rfl rfl
def gJ(i:Nat):Code:=⟨[107]++Cc i,0⟩
def SE(n p:Nat):Code:=⟨[108]++Cc n,1+p⟩
def mj:Code:=⟨[116,111,112],-1⟩
def W2(kids:Nat):List Code:=mj::(List.range kids).map gJ
def Fz(cs:List Code)(p:Nat):Nat→List Code
 |0=>cs
 |k+1=>Fz (cs++[SE cs.length p]) p k
def Bj(l:List UInt8):List Code×Nat→Nat→Nat→List Code×Nat
 |s,_,0=>s
 |s,p,k+1=>Bj l (Fz s.1 p (1+(C1 l s.2 2).1),(C1 l s.2 2).2) (p+1) k
def J2(l:List UInt8)(a:Nat):List Code×Nat :=
 let kids:=1+(C1 l a 3).1
 let b:=C1 l (C1 l a 3).2 2
 if b.1=1 then (W2 kids,b.2)else Bj l (W2 kids,b.2) 0 kids
abbrev Qo:Nat:=90
abbrev lB(l:List UInt8)(a:Nat)(nm:List UInt8)(cs:List Code):Hp:=[(0,some (.box [.sl 1 (l.map P9),.i a])),(1,some (.box [.str nm,.row 2 0 cs.length])),(2,some (.row Qo 2 0 (cs.map cA)))]
theorem Vk(i:Nat):(W2 i)++[gJ i]=W2 (i+1):=by
 unfold W2
 rw[List.range_succ,List.map_append];rfl
theorem Cd(i:Nat):(W2 i).length=i+1:=by simp[W2]
theorem Lh:∀f n,(YL f n).length≤f
 |0,_=>Nat.le_refl _
 |f+1,n=>by
  unfold YL
  split
  ·simp
  ·have:=Lh f (n / 10)
   simp;omega
theorem Da(n:Nat):(Cc n).length≤20:=Lh 20 n
theorem Qp(l:List UInt8)(a:Nat)(nm:List UInt8)(hl:l.length≤400):B8 Tryz.prog 141 1 (X7 l a) [.ref 0 0,.str nm] 3 (lB l (J2 l a).2 nm (J2 l a).1) (.agg [.str nm,.row 2 0 (J2 l a).1.length]):=by
 have qI:=I4 l a (n:=3) (by omega)
 generalize ou:(C1 l a 3).1=b1 at qI
 generalize nl:(C1 l a 3).2=b2
 refine c9 Tryz.func141 58 fun E h0=>?_
 repeat'((first|refine R5 rfl ?_|refine⟨l4 [0] [0] (u3 _ _ _ _ hl (by omega) (by omega) (by omega)) rfl rfl rfl rfl rfl ⟨rfl,trivial⟩ rfl rfl rfl rfl rfl ?_⟩|refine⟨l4 [0] [0] (Co _ _ _ hl (by omega)) rfl rfl rfl rfl rfl ⟨rfl,trivial⟩ rfl rfl rfl rfl rfl ?_⟩ |refine S2 ?_|(refine T6 ?_ ?_<;>intro h<;>try exact V1 h)|intro el nJ nK|intro el nJ|exact T4|refine T5 ?_ ?_|intro ex)<;>try conv=>whnf)
 refine B0 (ι:=Nat) (fun i=>⟨[(0,.ref 0 0),(4,.ref 1 0),(5,.ref 3 0),(6,.i (1+b1:Int)),(7,.i i)],4,[(0,some (.box [.sl 1 (l.map P9),.i b2])),(1,some (.box [.str [],.v (.slice none 0 0)])),(2,some (.row Qo 2 0 ((W2 i).map cA))),(3,some (.box [.str nm,.row 2 0 (W2 i).length]))]⟩) (fun i=>i≤1+b1) (fun i=>1+b1-i) 0 (Nat.zero_le _) (A7 h0 rfl ⟨rfl,rfl,rfl,by rw[←ou];rfl,rfl,trivial⟩ ⟨by rw[←nl];rfl,rfl,⟨0,rfl⟩,rfl,trivial⟩ rfl rfl rfl) (fun i hI=>?_)
 have qi:=Da i
 have nU:=Cd i
 repeat'((first|refine A0 (Gc i (by omega)) ?_|(refine J0 ?_ ?_;(simp only[List.length_cons,List.length_nil];omega))|refine⟨l4 [0] [0] (Co _ _ _ hl (by omega)) rfl rfl rfl rfl rfl ⟨rfl,trivial⟩ rfl rfl rfl rfl rfl ?_⟩|refine HU ⟨[(0,.ref 0 0),(4,.ref 1 0),(5,.ref 3 0),(6,.i (1+b1:Int)),(7,.i i)],4,[(0,some (.box [.sl 1 (l.map P9),.i b2])),(1,some (.box [.str [],.v (.slice none 0 0)])),(2,some (.row Qo 2 0 ((W2 (i+1)).map cA))),(3,some (.box [.str nm,.row 2 0 (W2 (i+1)).length]))]⟩ ?_ ?_ |refine S2 ?_|(refine T6 ?_ ?_<;>intro h<;>try exact V1 h)|intro el nJ nK|intro el nJ|exact T4|refine T5 ?_ ?_|intro ex)<;>try conv=>whnf)
 case refine_1.refine_2 =>
  exact⟨i+1,by omega,by omega,A7 h0 rfl ⟨rfl,rfl,rfl,rfl,rfl,trivial⟩ ⟨rfl,rfl,⟨0,rfl⟩,rfl,trivial⟩ rfl rfl rfl⟩
 case refine_2.refine_1 =>
  have e:J2 l a=(W2 (1+b1),(C1 l b2 2).2):=by
   have:(C1 l b2 2).1=1:=by omega
   simp[J2,ou,nl,this]
  have ei:i=1+b1:=by omega
  subst ei
  rw[e]
  exact Qb (i:=1) rfl (A7 h0 rfl ⟨rfl,trivial⟩ ⟨rfl,rfl,⟨0,rfl⟩,trivial⟩ rfl rfl rfl) rfl
 case refine_2.refine_2 =>
  have e:J2 l a=Bj l (W2 (1+b1),(C1 l b2 2).2) 0 (1+b1):=by
   have:¬(C1 l b2 2).1=1:=by omega
   simp[J2,ou,nl,this]
  have ei:i=1+b1:=by omega
  subst ei
  rw[e]
  clear e h hI qi
  generalize (C1 l b2 2).2=b3
  refine B0 (ι:=Nat×List Code×Nat) (fun x=>⟨[(0,.ref 0 0),(4,.ref 1 0),(5,.ref 3 0),(6,.i (1+b1:Int)),(8,.i x.1)],4,[(0,some (.box [.sl 1 (l.map P9),.i x.2.2])),(1,some (.box [.str [],.v (.slice none 0 0)])),(2,some (.row Qo 2 0 (x.2.1.map cA))),(3,some (.box [.str nm,.row 2 0 x.2.1.length]))]⟩)
   (fun x=>x.1≤1+b1∧x.2.1.length≤2+b1+2*x.1∧Bj l (W2 (1+b1),b3) 0 (1+b1)=Bj l x.2 x.1 (1+b1-x.1)) (fun x=>1+b1-x.1) (0,W2 (1+b1),b3) ⟨Nat.zero_le _,by rw[Cd];omega,rfl⟩
   (A7 h0 rfl ⟨rfl,rfl,rfl,rfl,rfl,trivial⟩ ⟨rfl,rfl,⟨0,rfl⟩,rfl,trivial⟩ rfl rfl rfl) (fun x hJ=>?_)
  obtain⟨p,cs,a2⟩:=x
  obtain⟨hp,ni,hJ⟩:=hJ
  simp only at hp ni hJ
  repeat'((first|refine⟨l4 [0] [0] (u3 _ _ _ _ hl (by omega) (by omega) (by omega)) rfl rfl rfl rfl rfl ⟨rfl,trivial⟩ rfl rfl rfl rfl rfl ?_⟩ |refine S2 ?_|(refine T6 ?_ ?_<;>intro h<;>try exact V1 h)|intro el nJ nK|intro el nJ|exact T4|refine T5 ?_ ?_|intro ex)<;>try conv=>whnf)
  ·simp only at h
   have nX:=I4 l a2 (n:=2) (by omega)
   generalize hr1:(C1 l a2 2).1=r1 at nX
   generalize pM:(C1 l a2 2).2=r2
   refine B0 (ι:=List Code×Nat) (fun y=>⟨[(0,.ref 0 0),(4,.ref 1 0),(5,.ref 3 0),(6,.i (1+b1:Int)),(8,.i p),(9,.i y.2)],4,[(0,some (.box [.sl 1 (l.map P9),.i r2])),(1,some (.box [.str [],.v (.slice none 0 0)])),(2,some (.row Qo 2 0 (y.1.map cA))),(3,some (.box [.str nm,.row 2 0 y.1.length]))]⟩)
    (fun y=>y.2≤1+r1∧y.1.length+y.2=cs.length+1+r1∧Fz cs p (1+r1)=Fz y.1 p y.2) (fun y=>y.2) (cs,1+r1) ⟨Nat.le_refl _,by simp only;omega,rfl⟩
    (A7 h0 rfl ⟨rfl,rfl,rfl,rfl,rfl,by rw[←hr1];exact congrArg (fun z=>some (AV.i z)) (by show (1:Int)+((C1 l a2 2).1:Int)=_;simp only;omega),trivial⟩ ⟨by rw[←pM];rfl,rfl,⟨0,rfl⟩,rfl,trivial⟩ rfl rfl rfl) (fun y hK=>?_)
   obtain⟨uo,k⟩:=y
   obtain⟨hk,nM,hK⟩:=hK
   simp only at hk nM hK
   have qi:=Da uo.length
   repeat'((first|refine A0 (Gc uo.length (by omega)) ?_|(refine J0 ?_ ?_;(simp only[List.length_cons,List.length_nil];omega))|refine HU ⟨[(0,.ref 0 0),(4,.ref 1 0),(5,.ref 3 0),(6,.i (1+b1:Int)),(8,.i p),(9,.i k)],4,[(0,some (.box [.sl 1 (l.map P9),.i r2])),(1,some (.box [.str [],.v (.slice none 0 0)])),(2,some (.row Qo 2 0 ((uo++[SE uo.length p]).map cA))),(3,some (.box [.str nm,.row 2 0 (uo++[SE uo.length p]).length]))]⟩ ?_ ?_ |refine S2 ?_|(refine T6 ?_ ?_<;>intro h<;>try exact V1 h)|intro el nJ nK|intro el nJ|exact T4|refine T5 ?_ ?_|intro ex)<;>try conv=>whnf)
   all_goals first
    |exact A7 h0 rfl ⟨rfl,rfl,rfl,rfl,rfl,rfl,trivial⟩ ⟨rfl,rfl,⟨_,congrArg (C4.row Qo 2 _) (by rw[List.map_append];rfl)⟩,congrArg (fun z=>C4.box [AV.str nm,.row 2 0 z]) (by rw[List.length_append];rfl),trivial⟩ rfl rfl rfl
    |skip
   ·simp only at h
    obtain⟨k',rfl⟩:∃k',k=k'+1:=⟨k-1,by omega⟩
    refine⟨(uo++[SE uo.length p],k'),⟨?_,?_,?_⟩,?_,A7 h0 rfl ⟨rfl,rfl,rfl,rfl,rfl,congrArg (fun z=>some (AV.i z)) ?_,trivial⟩ ⟨rfl,rfl,⟨0,rfl⟩,rfl,trivial⟩ rfl rfl rfl⟩
    ·simp only;omega
    ·simp only[List.length_append,List.length_singleton];omega
    ·rw[hK];rfl
    ·simp only;omega
    ·simp only;omega
   ·simp only at h
    have ek:k=0:=by omega
    subst ek
    refine⟨(p+1,uo,r2),⟨?_,?_,?_⟩,?_,A7 h0 rfl ⟨rfl,rfl,rfl,rfl,rfl,trivial⟩ ⟨rfl,rfl,⟨0,rfl⟩,rfl,trivial⟩ rfl rfl rfl⟩
    ·simp only;omega
    ·simp only;omega
    ·obtain⟨q,hq⟩:∃q,1+b1-p=q+1:=⟨b1-p,by omega⟩
     have oy:1+b1-(p+1)=q:=by omega
     rw[hJ,hq]
     simp only[oy,Bj,hr1,pM,hK]
     rfl
    ·simp only;omega
  ·simp only at h
   have e1:1+b1-p=0:=by omega
   rw[hJ,e1]
   exact Qb (i:=1) rfl (A7 h0 rfl ⟨rfl,trivial⟩ ⟨rfl,rfl,⟨0,rfl⟩,trivial⟩ rfl rfl rfl) rfl
 all_goals exact A7 h0 rfl ⟨rfl,rfl,rfl,rfl,rfl,trivial⟩ ⟨rfl,rfl,⟨_,congrArg (C4.row Qo 2 _) (by rw[←Vk,List.map_append];rfl)⟩,congrArg (fun z=>C4.box [AV.str nm,.row 2 0 z]) (by rw[Cd,Cd];rfl),trivial⟩ rfl rfl rfl
theorem Vl(cs:List Code)(p:Nat):∀k,(Fz cs p k).length=cs.length+k
 |0=>rfl
 |k+1=>by
  unfold Fz
  induction k generalizing cs with
  |zero=>simp[Fz]
  |succ k ih=>rw[Fz,ih];simp;omega
theorem Rh(l:List UInt8):∀(k p:Nat) (s:List Code×Nat),s.1.length≤(Bj l s p k).1.length∧(Bj l s p k).1.length≤s.1.length+2*k
 |0,p,s=>⟨Nat.le_refl _,Nat.le_refl _⟩
 |k+1,p,s=>by
  unfold Bj
  have h:=Rh l k (p+1) (Fz s.1 p (1+(C1 l s.2 2).1),(C1 l s.2 2).2)
  have h2:=I4 l s.2 (n:=2) (by omega)
  rw[Vl]at h
  omega
def lF:List Code→Nat→List Nat→List Code
 |cs,_,[]=>cs
 |cs,p,r::rs=>lF (Fz cs p r) (p+1) rs
def Tc:Nat→List (List Nat)
 |0=>[[]]
 |k+1=>(Tc k).flatMap fun r=>[1::r,2::r]
theorem OE(l:List UInt8):∀(k p:Nat) (s:List Code×Nat),∃rs∈Tc k,(Bj l s p k).1=lF s.1 p rs
 |0,p,s=>⟨[],by simp[Tc],rfl⟩
 |k+1,p,s=>by
  have h2:=I4 l s.2 (n:=2) (by omega)
  obtain⟨rs,h,e⟩:=OE l k (p+1) (Fz s.1 p (1+(C1 l s.2 2).1),(C1 l s.2 2).2)
  refine⟨(1+(C1 l s.2 2).1)::rs,?_,?_⟩
  ·rw[Tc,List.mem_flatMap]
   refine⟨rs,h,?_⟩
   rcases(show (C1 l s.2 2).1=0∨(C1 l s.2 2).1=1 by omega)with e|e<;>rw[e]<;>simp
  ·rw[Bj,e];rfl
def OG:List (List Code):=[1,2,3].flatMap fun kids=>W2 kids::(Tc kids).map fun rs=>lF (W2 kids) 0 rs
theorem Qq(l:List UInt8)(a:Nat):(J2 l a).1∈OG:=by
 have h3:=I4 l a (n:=3) (by omega)
 unfold OG
 rw[List.mem_flatMap]
 refine⟨1+(C1 l a 3).1,?_,?_⟩
 ·rcases(show (C1 l a 3).1=0∨(C1 l a 3).1=1∨(C1 l a 3).1=2 by omega)with e|e|e<;>rw[e]<;>simp
 ·unfold J2
  simp only
  split
  ·simp
  ·obtain⟨rs,h,e⟩:=OE l (1+(C1 l a 3).1) 0 (W2 (1+(C1 l a 3).1),(C1 l (C1 l a 3).2 2).2)
   rw[e]
   exact List.mem_cons_of_mem _ (List.mem_map.2 ⟨rs,h,rfl⟩)
end Go.Proofs.YtiphlhoclaogjaaGreatDoor

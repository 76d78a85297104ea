/- The choices: New, Next, Range, One, Mod. The text of a small number; a drawn list of codes. Chapter 1: a made list in which something is another thing. Chapter 1: the lists that can be drawn are few. -/
import Derived.Test.YtjkbhaaobhgkdabGreatDoorRAvTy
import Derived.Test.YtjkbhaaobhgkdabGreatDoorRE3
import Derived.Test.YtjkbhaaobhgkdabGreatDoorRB4
set_option linter.unusedVariables false
set_option linter.unnecessarySimpa false
set_option linter.unusedSimpArgs false
set_option maxHeartbeats 64000000
namespace Go.Proofs.YtjkbhaaobhgkdabGreatDoor
open Go Go.Av
attribute [local irreducible] D0 B0 D2 DQ D1 C8 St.le A3 B6
def B3(l:List UInt8)(at':Nat)(n:Int):Nat×Nat :=
 if n<1∨l.length≤at' then (0,at')
 else if 256<n∧at'+1<l.length then (((l.getD at' 0).toNat*256+(l.getD (at'+1) 0).toNat) % n.toNat,at'+2)
 else ((l.getD at' 0).toNat % n.toNat,at'+1)
theorem F9(l:List UInt8)(at':Nat){n:Int}(h:1≤n):((B3 l at' n).1:Int)<n:=by
 unfold B3
 split
 ·simp only;omega
 ·have:∀k:Nat,((k % n.toNat:Nat):Int)<n:=fun k=>by
   have:=Nat.mod_lt k (show 0<n.toNat by omega)
   omega
  split<;>exact this _
theorem Oj{l:List UInt8}{i:Nat}{c:UInt8}(h:l[i]?=some c):l.getD i 0=c:=by rw[List.getD_eq_getElem?_getD,h];rfl
theorem di{l:List UInt8}{a:Nat}{n:Int}(h:n<1∨l.length≤a):B3 l a n=(0,a):=by rw[B3,if_pos h]
theorem gx{l:List UInt8}{a:Nat}{n:Int}{c:UInt8}(h:1≤n)(hc:l[a]?=some c)(h2:¬(256<n∧a+1<l.length)):B3 l a n=(c.toNat % n.toNat,a+1):=by
 have:=(List.getElem?_eq_some_iff.1 hc).1
 rw[B3,if_neg (by omega),if_neg h2,Oj hc]
theorem gy{l:List UInt8}{a:Nat}{n:Int}{c d:UInt8}(h:256<n)(hc:l[a]?=some c)(hd:l[a+1]?=some d):B3 l a n=((c.toNat*256+d.toNat) % n.toNat,a+2):=by
 have:=(List.getElem?_eq_some_iff.1 hd).1
 rw[B3,if_neg (by omega),if_pos ⟨h,this⟩,Oj hc,Oj hd]
theorem gz{m n:Nat}:((m:Int).tmod n)=((m % n:Nat):Int):=by
 rw[Int.tmod_eq_emod_of_nonneg (by omega)];omega
theorem WS{m:Nat}{n:Int}(h:1≤n):((m:Int).tmod n)=((m % n.toNat:Nat):Int):=by
 have e:n=(n.toNat:Int):=by omega
 rw[e,gz,Int.toNat_natCast]
theorem Ok(k:Int){n:Int}(h:1≤n):-n<k.tmod n∧k.tmod n<n:=⟨by
 have:=Int.lt_tmod_of_pos k (b:=n) (by omega);omega,Int.tmod_lt_of_pos k (by omega)⟩
abbrev V3(l:List UInt8)(a:Nat):Hp:=[(0,some (.box [.sl 1 (l.map O2),.i a]))]
theorem dk(l:List UInt8)(hl:l.length≤9223372036854775807):B6 Tryz.prog 4 0 [] [.sl 1 (l.map O2)] 1 (V3 (l.take 400) 0) (.ref 0 0):=by
 refine X6 Tryz.func4 10 fun E h0=>?_
 repeat'((first|refine S2 ?_|(refine T6 ?_ ?_<;>intro h<;>try exact V1 h)|intro el nN nP|intro el nN|exact T4|refine T5 ?_ ?_|intro ex)<;>try conv=>whnf)
 refine G9 (A8 h0 rfl ⟨rfl,trivial⟩ ⟨congrArg (fun z=>C9.box [AV.sl 1 z,.i 0]) ?_,trivial⟩ rfl rfl rfl)
 rw[show (min (l.length:Int) 400).toNat=min l.length 400 by omega,←List.map_take]
 show _=List.map O2 (List.take (min l.length 400) l)
 congr 1
 by_cases h:l.length≤400
 ·rw[Nat.min_eq_left h,List.take_of_length_le h,List.take_of_length_le (Nat.le_refl _)]
 ·rw[Nat.min_eq_right (by omega)]
theorem J2(l:List UInt8)(a:Nat)(n:Int)(hl:l.length≤400):B6 Tryz.prog 38 1 (V3 l a) [.ref 0 0,.i n] 1 (V3 l (B3 l a n).2) (.i (B3 l a n).1):=by
 refine X6 Tryz.func38 77 fun E h0=>?_
 repeat'((first|(refine B8 ?_ ?_;kernel_rfl) |refine S2 ?_|(refine T6 ?_ ?_<;>intro h<;>try exact V1 h)|intro el nN nP|intro el nN|exact T4|refine T5 ?_ ?_|intro ex)<;>try conv=>whnf)
 all_goals first
  |(rw[di (by omega)];exact G9 (A6 h0))
  |skip
 ·rename_i el1 zZ _ _
  have e1:l[a]?=some el1:=by rw[←zZ];congr 1;omega
  have e2:l[a+1]?=some el:=by rw[←nN];congr 1
  rw[gy (by assumption) e1 e2]
  refine G9 (A8 h0 rfl ⟨congrArg (fun z=>some (AV.i z)) ?_,trivial⟩ ⟨congrArg (fun z=>C9.box [AV.sl 1 (l.map O2),.i z]) ?_,trivial⟩ rfl rfl rfl)
  ·rw[←WS (by omega)];rfl
  ·omega
 all_goals
  have e1:l[a]?=some el:=by rw[←nN];congr 1;omega
  rw[gx (by omega) e1 (by omega)]
  exact G9 (A8 h0 rfl ⟨congrArg (fun z=>some (AV.i z)) ((WS (m:=el.toNat) (n:=n) (by omega))),trivial⟩ ⟨rfl,trivial⟩ rfl rfl rfl)
theorem Fw(k:Int){n:Int}(h:1≤n):(k.tmod n<0∧k % n=k.tmod n+n)∨(0≤k.tmod n∧k % n=k.tmod n):=by
 have h2:k % n=(k.tmod n) % n:=by
  have:=Int.mul_tdiv_add_tmod k n
  conv=>lhs;rw[←this]
  rw[Int.add_comm,Int.add_mul_emod_self_left]
 have hb:-n<k.tmod n∧k.tmod n<n:=⟨by have:=Int.lt_tmod_of_pos k (b:=n) (by omega);omega,Int.tmod_lt_of_pos k (by omega)⟩
 by_cases sY:k.tmod n<0
 ·left
  refine⟨sY,?_⟩
  rw[h2,←Int.add_emod_right,Int.emod_eq_of_lt (by omega) (by omega)]
 ·right
  refine⟨by omega,?_⟩
  rw[h2,Int.emod_eq_of_lt (by omega) (by omega)]
theorem l5(l:List UInt8)(a:Nat)(lo hi:Int)(hl:l.length≤400)(h1:lo≤hi)(h2:-4000000000000000000≤lo)(h3:hi≤4000000000000000000):B6 Tryz.prog 50 1 (V3 l a) [.ref 0 0,.i lo,.i hi] 1 (V3 l (B3 l a (hi-lo+1)).2) (.i (lo+(B3 l a (hi-lo+1)).1)):=by
 have nR:=F9 l a (n:=hi-lo+1) (by omega)
 refine X6 Tryz.func50 15 fun E h0=>?_
 repeat'((first|refine⟨Y9 [0] [0] (J2 _ _ _ hl) rfl rfl rfl rfl rfl ⟨rfl,trivial⟩ rfl rfl rfl rfl rfl ?_⟩ |refine S2 ?_|(refine T6 ?_ ?_<;>intro h<;>try exact V1 h)|intro el nN nP|intro el nN|exact T4|refine T5 ?_ ?_|intro ex)<;>try conv=>whnf)
 exact G9 (A6 h0)
theorem Bx(l:List UInt8)(a:Nat)(n:Int)(hl:l.length≤400)(hn:1≤n∧n≤1000000):B6 Tryz.prog 15 1 (V3 l a) [.ref 0 0,.i n] 1 (V3 l (B3 l a n).2) (.b (decide (((B3 l a n).1:Int)=n-1))):=by
 refine X6 Tryz.func15 11 fun E h0=>?_
 repeat'((first|refine⟨Y9 [0] [0] (J2 _ _ _ hl) rfl rfl rfl rfl rfl ⟨rfl,trivial⟩ rfl rfl rfl rfl rfl ?_⟩ |refine S2 ?_|(refine T6 ?_ ?_<;>intro h<;>try exact V1 h)|intro el nN nP|intro el nN|exact T4|refine T5 ?_ ?_|intro ex)<;>try conv=>whnf)
 exact G9 (A6 h0)
def YA:Nat→Nat→List UInt8
 |0,_=>[]
 |f+1,n=>if n<10 then [UInt8.ofNat (48+n)]else YA f (n / 10)++[UInt8.ofNat (48+n % 10)]
def Bk(n:Nat):List UInt8:=YA 20 n
theorem aX:∀n:Nat,n<10→(([48,49,50,51,52,53,54,55,56,57,97,98,99,100,101,102,103,104,105,106,107,108,109,110,111,112,113,114,115,116,117,118,119,120,121,122]:List UInt8).take (n+1)).drop n=Bk n:=by decide
def mT:List UInt8:=[48,48,48,49,48,50,48,51,48,52,48,53,48,54,48,55,48,56,48,57,49,48,49,49,49,50,49,51,49,52,49,53,49,54,49,55,49,56,49,57,50,48,50,49,50,50,50,51,50,52,50,53,50,54,50,55,50,56,50,57,51,48,51,49,51,50,51,51,51,52,51,53,51,54,51,55,51,56,51,57,52,48,52,49,52,50,52,51,52,52,52,53,52,54,52,55,52,56,52,57,53,48,53,49,53,50,53,51,53,52,53,53,53,54,53,55,53,56,53,57,54,48,54,49,54,50,54,51,54,52,54,53,54,54,54,55,54,56,54,57,55,48,55,49,55,50,55,51,55,52,55,53,55,54,55,55,55,56,55,57,56,48,56,49,56,50,56,51,56,52,56,53,56,54,56,55,56,56,56,57,57,48,57,49,57,50,57,51,57,52,57,53,57,54,57,55,57,56,57,57]
set_option maxRecDepth 10000 in
theorem aY:∀n:Nat,n<100→10≤n→(mT.take (n*2+2)).drop (n*2)=Bk n:=by decide
theorem YB(n:Nat)(hn:n<100):A3 Tryz.prog 187 [.i n] (.str (Bk n)):=by
 refine C0 Tryz.func187 15 fun nQ E h0=>?_
 repeat'((first|(refine J4 ?_ ?_;(refine⟨by omega,by omega,?_⟩;simp only[List.length_cons,List.length_nil];omega))|(refine J4 ?_ ?_;(refine⟨by omega,by omega,?_⟩;(show _≤((200:Nat):Int));omega)) |refine S2 ?_|(refine T6 ?_ ?_<;>intro h<;>try exact V1 h)|intro el nN nP|intro el nN|exact T4|refine T5 ?_ ?_|intro ex)<;>try conv=>whnf)
 ·refine A0 rfl (congrArg AV.str ?_)
  rw[←aX n (by omega)]
  congr 1
 ·refine A0 rfl (congrArg AV.str ?_)
  rw[←aY n hn (by omega)]
  show List.drop ((n:Int)*2).toNat (List.take ((n:Int)*2+2).toNat mT)=_
  congr 2
theorem Ol(n:Nat)(hn:n<100):A3 Tryz.prog 158 [.i n,.i 10] (.str (Bk n)):=by
 refine C0 Tryz.func158 54 fun nQ E h0=>?_
 repeat'((first|refine A1 (YB _ hn) ?_|(refine B8 ?_ ?_;kernel_rfl) |refine S2 ?_|(refine T6 ?_ ?_<;>intro h<;>try exact V1 h)|intro el nN nP|intro el nN|exact T4|refine T5 ?_ ?_|intro ex)<;>try conv=>whnf)
 all_goals first
  |exact A0 rfl rfl
theorem YC(n:Nat)(hn:n<100):A3 Tryz.prog 115 [.i n] (.str (Bk n)):=by
 refine C0 Tryz.func115 5 fun nQ E h0=>?_
 repeat'((first|refine A1 (Ol _ hn) ?_ |refine S2 ?_|(refine T6 ?_ ?_<;>intro h<;>try exact V1 h)|intro el nN nP|intro el nN|exact T4|refine T5 ?_ ?_|intro ex)<;>try conv=>whnf)
 exact A0 rfl rfl
theorem Fx(n:Nat)(hn:n<100):A3 Tryz.prog 78 [.i n] (.str (Bk n)):=by
 refine C0 Tryz.func78 5 fun nQ E h0=>?_
 repeat'((first|refine A1 (YC _ hn) ?_ |refine S2 ?_|(refine T6 ?_ ?_<;>intro h<;>try exact V1 h)|intro el nN nP|intro el nN|exact T4|refine T5 ?_ ?_|intro ex)<;>try conv=>whnf)
 exact A0 rfl rfl
def gB(i:Nat):Code:=⟨[107]++Bk i,0⟩
def RW(n p:Nat):Code:=⟨[108]++Bk n,1+p⟩
def mj:Code:=⟨[116,111,112],-1⟩
def T1(kids:Nat):List Code:=mj::(List.range kids).map gB
def FW(cs:List Code)(p:Nat):Nat→List Code
 |0=>cs
 |k+1=>FW (cs++[RW cs.length p]) p k
def Ao(l:List UInt8):List Code×Nat→Nat→Nat→List Code×Nat
 |s,_,0=>s
 |s,p,k+1=>Ao l (FW s.1 p (1+(B3 l s.2 2).1),(B3 l s.2 2).2) (p+1) k
def I9(l:List UInt8)(a:Nat):List Code×Nat :=
 let kids:=1+(B3 l a 3).1
 let b:=B3 l (B3 l a 3).2 2
 if b.1=1 then (T1 kids,b.2)else Ao l (T1 kids,b.2) 0 kids
abbrev QF:Nat:=104
abbrev lB(l:List UInt8)(a:Nat)(nm:List UInt8)(cs:List Code):Hp:=[(0,some (.box [.sl 1 (l.map O2),.i a])),(1,some (.box [.str nm,.row 2 0 cs.length])),(2,some (.row QF 2 0 (cs.map cA)))]
theorem VM(i:Nat):(T1 i)++[gB i]=T1 (i+1):=by
 unfold T1
 rw[List.range_succ,List.map_append];rfl
theorem Bl(i:Nat):(T1 i).length=i+1:=by simp[T1]
theorem LI:∀f n,(YA f n).length≤f
 |0,_=>Nat.le_refl _
 |f+1,n=>by
  unfold YA
  split
  ·simp
  ·have:=LI f (n / 10)
   simp;omega
theorem Cn(n:Nat):(Bk n).length≤20:=LI 20 n
theorem QG(l:List UInt8)(a:Nat)(nm:List UInt8)(hl:l.length≤400):B6 Tryz.prog 76 1 (V3 l a) [.ref 0 0,.str nm] 3 (lB l (I9 l a).2 nm (I9 l a).1) (.agg [.str nm,.row 2 0 (I9 l a).1.length]):=by
 have rT:=F9 l a (n:=3) (by omega)
 generalize oo:(B3 l a 3).1=b1 at rT
 generalize nt:(B3 l a 3).2=b2
 refine X6 Tryz.func76 58 fun E h0=>?_
 repeat'((first|refine Y6 rfl ?_|refine⟨Y9 [0] [0] (l5 _ _ _ _ hl (by omega) (by omega) (by omega)) rfl rfl rfl rfl rfl ⟨rfl,trivial⟩ rfl rfl rfl rfl rfl ?_⟩|refine⟨Y9 [0] [0] (Bx _ _ _ hl (by omega)) rfl rfl rfl rfl rfl ⟨rfl,trivial⟩ rfl rfl rfl rfl rfl ?_⟩ |refine S2 ?_|(refine T6 ?_ ?_<;>intro h<;>try exact V1 h)|intro el nN nP|intro el nN|exact T4|refine T5 ?_ ?_|intro ex)<;>try conv=>whnf)
 refine B2 (ι:=Nat) (fun i=>⟨[(0,.ref 0 0),(4,.ref 1 0),(5,.ref 3 0),(6,.i (1+b1:Int)),(7,.i i)],4,[(0,some (.box [.sl 1 (l.map O2),.i b2])),(1,some (.box [.str [],.v (.slice none 0 0)])),(2,some (.row QF 2 0 ((T1 i).map cA))),(3,some (.box [.str nm,.row 2 0 (T1 i).length]))]⟩) (fun i=>i≤1+b1) (fun i=>1+b1-i) 0 (Nat.zero_le _) (A8 h0 rfl ⟨rfl,rfl,rfl,by rw[←oo];rfl,rfl,trivial⟩ ⟨by rw[←nt];rfl,rfl,⟨0,rfl⟩,rfl,trivial⟩ rfl rfl rfl) (fun i hI=>?_)
 have tZ:=Cn i
 have nZ:=Bl i
 repeat'((first|refine A1 (Fx i (by omega)) ?_|(refine J4 ?_ ?_;(simp only[List.length_cons,List.length_nil];omega))|refine⟨Y9 [0] [0] (Bx _ _ _ hl (by omega)) rfl rfl rfl rfl rfl ⟨rfl,trivial⟩ rfl rfl rfl rfl rfl ?_⟩|refine JN ⟨[(0,.ref 0 0),(4,.ref 1 0),(5,.ref 3 0),(6,.i (1+b1:Int)),(7,.i i)],4,[(0,some (.box [.sl 1 (l.map O2),.i b2])),(1,some (.box [.str [],.v (.slice none 0 0)])),(2,some (.row QF 2 0 ((T1 (i+1)).map cA))),(3,some (.box [.str nm,.row 2 0 (T1 (i+1)).length]))]⟩ ?_ ?_ |refine S2 ?_|(refine T6 ?_ ?_<;>intro h<;>try exact V1 h)|intro el nN nP|intro el nN|exact T4|refine T5 ?_ ?_|intro ex)<;>try conv=>whnf)
 case refine_1.refine_2 =>
  exact⟨i+1,by omega,by omega,A8 h0 rfl ⟨rfl,rfl,rfl,rfl,rfl,trivial⟩ ⟨rfl,rfl,⟨0,rfl⟩,rfl,trivial⟩ rfl rfl rfl⟩
 case refine_2.refine_1 =>
  have e:I9 l a=(T1 (1+b1),(B3 l b2 2).2):=by
   have:(B3 l b2 2).1=1:=by omega
   simp[I9,oo,nt,this]
  have ei:i=1+b1:=by omega
  subst ei
  rw[e]
  exact Pr (i:=1) rfl (A8 h0 rfl ⟨rfl,trivial⟩ ⟨rfl,rfl,⟨0,rfl⟩,trivial⟩ rfl rfl rfl) rfl
 case refine_2.refine_2 =>
  have e:I9 l a=Ao l (T1 (1+b1),(B3 l b2 2).2) 0 (1+b1):=by
   have:¬(B3 l b2 2).1=1:=by omega
   simp[I9,oo,nt,this]
  have ei:i=1+b1:=by omega
  subst ei
  rw[e]
  clear e h hI tZ
  generalize (B3 l b2 2).2=b3
  refine B2 (ι:=Nat×List Code×Nat) (fun x=>⟨[(0,.ref 0 0),(4,.ref 1 0),(5,.ref 3 0),(6,.i (1+b1:Int)),(8,.i x.1)],4,[(0,some (.box [.sl 1 (l.map O2),.i x.2.2])),(1,some (.box [.str [],.v (.slice none 0 0)])),(2,some (.row QF 2 0 (x.2.1.map cA))),(3,some (.box [.str nm,.row 2 0 x.2.1.length]))]⟩)
   (fun x=>x.1≤1+b1∧x.2.1.length≤2+b1+2*x.1∧Ao l (T1 (1+b1),b3) 0 (1+b1)=Ao l x.2 x.1 (1+b1-x.1)) (fun x=>1+b1-x.1) (0,T1 (1+b1),b3) ⟨Nat.zero_le _,by rw[Bl];omega,rfl⟩
   (A8 h0 rfl ⟨rfl,rfl,rfl,rfl,rfl,trivial⟩ ⟨rfl,rfl,⟨0,rfl⟩,rfl,trivial⟩ rfl rfl rfl) (fun x hJ=>?_)
  obtain⟨p,cs,a2⟩:=x
  obtain⟨hp,nl,hJ⟩:=hJ
  simp only at hp nl hJ
  repeat'((first|refine⟨Y9 [0] [0] (l5 _ _ _ _ hl (by omega) (by omega) (by omega)) rfl rfl rfl rfl rfl ⟨rfl,trivial⟩ rfl rfl rfl rfl rfl ?_⟩ |refine S2 ?_|(refine T6 ?_ ?_<;>intro h<;>try exact V1 h)|intro el nN nP|intro el nN|exact T4|refine T5 ?_ ?_|intro ex)<;>try conv=>whnf)
  ·simp only at h
   have ni:=F9 l a2 (n:=2) (by omega)
   generalize hr1:(B3 l a2 2).1=r1 at ni
   generalize pT:(B3 l a2 2).2=r2
   refine B2 (ι:=List Code×Nat) (fun y=>⟨[(0,.ref 0 0),(4,.ref 1 0),(5,.ref 3 0),(6,.i (1+b1:Int)),(8,.i p),(9,.i y.2)],4,[(0,some (.box [.sl 1 (l.map O2),.i r2])),(1,some (.box [.str [],.v (.slice none 0 0)])),(2,some (.row QF 2 0 (y.1.map cA))),(3,some (.box [.str nm,.row 2 0 y.1.length]))]⟩)
    (fun y=>y.2≤1+r1∧y.1.length+y.2=cs.length+1+r1∧FW cs p (1+r1)=FW y.1 p y.2) (fun y=>y.2) (cs,1+r1) ⟨Nat.le_refl _,by simp only;omega,rfl⟩
    (A8 h0 rfl ⟨rfl,rfl,rfl,rfl,rfl,by rw[←hr1];exact congrArg (fun z=>some (AV.i z)) (by show (1:Int)+((B3 l a2 2).1:Int)=_;simp only;omega),trivial⟩ ⟨by rw[←pT];rfl,rfl,⟨0,rfl⟩,rfl,trivial⟩ rfl rfl rfl) (fun y hK=>?_)
   obtain⟨uH,k⟩:=y
   obtain⟨hk,nO,hK⟩:=hK
   simp only at hk nO hK
   have tZ:=Cn uH.length
   repeat'((first|refine A1 (Fx uH.length (by omega)) ?_|(refine J4 ?_ ?_;(simp only[List.length_cons,List.length_nil];omega))|refine JN ⟨[(0,.ref 0 0),(4,.ref 1 0),(5,.ref 3 0),(6,.i (1+b1:Int)),(8,.i p),(9,.i k)],4,[(0,some (.box [.sl 1 (l.map O2),.i r2])),(1,some (.box [.str [],.v (.slice none 0 0)])),(2,some (.row QF 2 0 ((uH++[RW uH.length p]).map cA))),(3,some (.box [.str nm,.row 2 0 (uH++[RW uH.length p]).length]))]⟩ ?_ ?_ |refine S2 ?_|(refine T6 ?_ ?_<;>intro h<;>try exact V1 h)|intro el nN nP|intro el nN|exact T4|refine T5 ?_ ?_|intro ex)<;>try conv=>whnf)
   all_goals first
    |exact A8 h0 rfl ⟨rfl,rfl,rfl,rfl,rfl,rfl,trivial⟩ ⟨rfl,rfl,⟨_,congrArg (C9.row QF 2 _) (by rw[List.map_append];rfl)⟩,congrArg (fun z=>C9.box [AV.str nm,.row 2 0 z]) (by rw[List.length_append];rfl),trivial⟩ rfl rfl rfl
    |skip
   ·simp only at h
    obtain⟨k',rfl⟩:∃k',k=k'+1:=⟨k-1,by omega⟩
    refine⟨(uH++[RW uH.length p],k'),⟨?_,?_,?_⟩,?_,A8 h0 rfl ⟨rfl,rfl,rfl,rfl,rfl,congrArg (fun z=>some (AV.i z)) ?_,trivial⟩ ⟨rfl,rfl,⟨0,rfl⟩,rfl,trivial⟩ rfl rfl rfl⟩
    ·simp only;omega
    ·simp only[List.length_append,List.length_singleton];omega
    ·rw[hK];rfl
    ·simp only;omega
    ·simp only;omega
   ·simp only at h
    have ek:k=0:=by omega
    subst ek
    refine⟨(p+1,uH,r2),⟨?_,?_,?_⟩,?_,A8 h0 rfl ⟨rfl,rfl,rfl,rfl,rfl,trivial⟩ ⟨rfl,rfl,⟨0,rfl⟩,rfl,trivial⟩ rfl rfl rfl⟩
    ·simp only;omega
    ·simp only;omega
    ·obtain⟨q,hq⟩:∃q,1+b1-p=q+1:=⟨b1-p,by omega⟩
     have pI:1+b1-(p+1)=q:=by omega
     rw[hJ,hq]
     simp only[pI,Ao,hr1,pT,hK]
     rfl
    ·simp only;omega
  ·simp only at h
   have e1:1+b1-p=0:=by omega
   rw[hJ,e1]
   exact Pr (i:=1) rfl (A8 h0 rfl ⟨rfl,trivial⟩ ⟨rfl,rfl,⟨0,rfl⟩,trivial⟩ rfl rfl rfl) rfl
 all_goals exact A8 h0 rfl ⟨rfl,rfl,rfl,rfl,rfl,trivial⟩ ⟨rfl,rfl,⟨_,congrArg (C9.row QF 2 _) (by rw[←VM,List.map_append];rfl)⟩,congrArg (fun z=>C9.box [AV.str nm,.row 2 0 z]) (by rw[Bl,Bl];rfl),trivial⟩ rfl rfl rfl
theorem VN(cs:List Code)(p:Nat):∀k,(FW cs p k).length=cs.length+k
 |0=>rfl
 |k+1=>by
  unfold FW
  induction k generalizing cs with
  |zero=>simp[FW]
  |succ k ih=>rw[FW,ih];simp;omega
theorem RB(l:List UInt8):∀(k p:Nat) (s:List Code×Nat),s.1.length≤(Ao l s p k).1.length∧(Ao l s p k).1.length≤s.1.length+2*k
 |0,p,s=>⟨Nat.le_refl _,Nat.le_refl _⟩
 |k+1,p,s=>by
  unfold Ao
  have h:=RB l k (p+1) (FW s.1 p (1+(B3 l s.2 2).1),(B3 l s.2 2).2)
  have h2:=F9 l s.2 (n:=2) (by omega)
  rw[VN]at h
  omega
def lF:List Code→Nat→List Nat→List Code
 |cs,_,[]=>cs
 |cs,p,r::rs=>lF (FW cs p r) (p+1) rs
def Sv:Nat→List (List Nat)
 |0=>[[]]
 |k+1=>(Sv k).flatMap fun r=>[1::r,2::r]
theorem Nb(l:List UInt8):∀(k p:Nat) (s:List Code×Nat),∃rs∈Sv k,(Ao l s p k).1=lF s.1 p rs
 |0,p,s=>⟨[],by simp[Sv],rfl⟩
 |k+1,p,s=>by
  have h2:=F9 l s.2 (n:=2) (by omega)
  obtain⟨rs,h,e⟩:=Nb l k (p+1) (FW s.1 p (1+(B3 l s.2 2).1),(B3 l s.2 2).2)
  refine⟨(1+(B3 l s.2 2).1)::rs,?_,?_⟩
  ·rw[Sv,List.mem_flatMap]
   refine⟨rs,h,?_⟩
   rcases(show (B3 l s.2 2).1=0∨(B3 l s.2 2).1=1 by omega)with e|e<;>rw[e]<;>simp
  ·rw[Ao,e];rfl
def LJ:List (List Code):=[1,2,3].flatMap fun kids=>T1 kids::(Sv kids).map fun rs=>lF (T1 kids) 0 rs
theorem QH(l:List UInt8)(a:Nat):(I9 l a).1∈LJ:=by
 have h3:=F9 l a (n:=3) (by omega)
 unfold LJ
 rw[List.mem_flatMap]
 refine⟨1+(B3 l a 3).1,?_,?_⟩
 ·rcases(show (B3 l a 3).1=0∨(B3 l a 3).1=1∨(B3 l a 3).1=2 by omega)with e|e|e<;>rw[e]<;>simp
 ·unfold I9
  simp only
  split
  ·simp
  ·obtain⟨rs,h,e⟩:=Nb l (1+(B3 l a 3).1) 0 (T1 (1+(B3 l a 3).1),(B3 l (B3 l a 3).2 2).2)
   rw[e]
   exact List.mem_cons_of_mem _ (List.mem_map.2 ⟨rs,h,rfl⟩)
end Go.Proofs.YtjkbhaaobhgkdabGreatDoor

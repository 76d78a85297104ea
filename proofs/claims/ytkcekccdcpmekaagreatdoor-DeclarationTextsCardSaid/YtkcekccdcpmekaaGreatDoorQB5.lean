/- The choices: New, Next, Range, One, Mod. The text of a small number; a drawn list of codes. Chapter 1: a made list in which something is another thing. Chapter 1: the lists that can be drawn are few. -/
import Derived.Test.YtkcekccdcpmekaaGreatDoorQAvTy
import Derived.Test.YtkcekccdcpmekaaGreatDoorQE3
import Derived.Test.YtkcekccdcpmekaaGreatDoorQB4
set_option linter.unusedVariables false
set_option linter.unnecessarySimpa false
set_option linter.unusedSimpArgs false
set_option maxHeartbeats 64000000
namespace Go.Proofs.YtkcekccdcpmekaaGreatDoor
open Go Go.Av
attribute [local irreducible] E8 B5 E5 DQ E7 E9 St.le A4 A9
def B8(l:List UInt8)(at':Nat)(n:Int):Nat×Nat :=
 if n<1∨l.length≤at' then (0,at')
 else if 256<n∧at'+1<l.length then (((l.getD at' 0).toNat*256+(l.getD (at'+1) 0).toNat) % n.toNat,at'+2)
 else ((l.getD at' 0).toNat % n.toNat,at'+1)
theorem I7(l:List UInt8)(at':Nat){n:Int}(h:1≤n):((B8 l at' n).1:Int)<n:=by
 unfold B8
 split
 ·simp only;omega
 ·have:∀k:Nat,((k % n.toNat:Nat):Int)<n:=fun k=>by
   have:=Nat.mod_lt k (show 0<n.toNat by omega)
   omega
  split<;>exact this _
theorem NX{l:List UInt8}{i:Nat}{c:UInt8}(h:l[i]?=some c):l.getD i 0=c:=by rw[List.getD_eq_getElem?_getD,h];rfl
theorem aC{l:List UInt8}{a:Nat}{n:Int}(h:n<1∨l.length≤a):B8 l a n=(0,a):=by rw[B8,if_pos h]
theorem dh{l:List UInt8}{a:Nat}{n:Int}{c:UInt8}(h:1≤n)(hc:l[a]?=some c)(h2:¬(256<n∧a+1<l.length)):B8 l a n=(c.toNat % n.toNat,a+1):=by
 have:=(List.getElem?_eq_some_iff.1 hc).1
 rw[B8,if_neg (by omega),if_neg h2,NX hc]
theorem di{l:List UInt8}{a:Nat}{n:Int}{c d:UInt8}(h:256<n)(hc:l[a]?=some c)(hd:l[a+1]?=some d):B8 l a n=((c.toNat*256+d.toNat) % n.toNat,a+2):=by
 have:=(List.getElem?_eq_some_iff.1 hd).1
 rw[B8,if_neg (by omega),if_pos ⟨h,this⟩,NX hc,NX hd]
theorem dk{m n:Nat}:((m:Int).tmod n)=((m % n:Nat):Int):=by
 rw[Int.tmod_eq_emod_of_nonneg (by omega)];omega
theorem UB{m:Nat}{n:Int}(h:1≤n):((m:Int).tmod n)=((m % n.toNat:Nat):Int):=by
 have e:n=(n.toNat:Int):=by omega
 rw[e,dk,Int.toNat_natCast]
theorem dl(k:Int){n:Int}(h:1≤n):-n<k.tmod n∧k.tmod n<n:=⟨by
 have:=Int.lt_tmod_of_pos k (b:=n) (by omega);omega,Int.tmod_lt_of_pos k (by omega)⟩
abbrev E6(l:List UInt8)(a:Nat):Hp:=[(0,some (.box [.sl 1 (l.map X9),.i a]))]
theorem aD(l:List UInt8)(hl:l.length≤9223372036854775807):A9 Tryz.prog 5 0 [] [.sl 1 (l.map X9)] 1 (E6 (l.take 400) 0) (.ref 0 0):=by
 refine G4 Tryz.func5 10 fun E h0=>?_
 repeat'((first|refine S2 ?_|(refine T6 ?_ ?_<;>intro h<;>try exact V1 h)|intro el ke kg|intro el ke|exact T4|refine T5 ?_ ?_|intro ex)<;>try conv=>whnf)
 refine D9 (B0 h0 rfl ⟨rfl,trivial⟩ ⟨congrArg (fun z=>G1.box [AV.sl 1 z,.i 0]) ?_,trivial⟩ rfl rfl rfl)
 rw[show (min (l.length:Int) 400).toNat=min l.length 400 by omega,←List.map_take]
 show _=List.map X9 (List.take (min l.length 400) l)
 congr 1
 by_cases h:l.length≤400
 ·rw[Nat.min_eq_left h,List.take_of_length_le h,List.take_of_length_le (Nat.le_refl _)]
 ·rw[Nat.min_eq_right (by omega)]
theorem K8(l:List UInt8)(a:Nat)(n:Int)(hl:l.length≤400):A9 Tryz.prog 24 1 (E6 l a) [.ref 0 0,.i n] 1 (E6 l (B8 l a n).2) (.i (B8 l a n).1):=by
 refine G4 Tryz.func24 77 fun E h0=>?_
 repeat'((first|(refine I6 ?_ ?_;kernel_rfl) |refine S2 ?_|(refine T6 ?_ ?_<;>intro h<;>try exact V1 h)|intro el ke kg|intro el ke|exact T4|refine T5 ?_ ?_|intro ex)<;>try conv=>whnf)
 all_goals first
  |(rw[aC (by omega)];exact D9 (B2 h0))
  |skip
 ·rename_i xp vM _ _
  have e1:l[a]?=some xp:=by rw[←vM];congr 1;omega
  have e2:l[a+1]?=some el:=by rw[←ke];congr 1
  rw[di (by assumption) e1 e2]
  refine D9 (B0 h0 rfl ⟨congrArg (fun z=>some (AV.i z)) ?_,trivial⟩ ⟨congrArg (fun z=>G1.box [AV.sl 1 (l.map X9),.i z]) ?_,trivial⟩ rfl rfl rfl)
  ·rw[←UB (by omega)];rfl
  ·omega
 all_goals
  have e1:l[a]?=some el:=by rw[←ke];congr 1;omega
  rw[dh (by omega) e1 (by omega)]
  exact D9 (B0 h0 rfl ⟨congrArg (fun z=>some (AV.i z)) ((UB (m:=el.toNat) (n:=n) (by omega))),trivial⟩ ⟨rfl,trivial⟩ rfl rfl rfl)
def Iz(k n:Int):Int:=if n<1 then 0 else k % n
theorem JA{k n:Int}(h:1≤n):0≤Iz k n∧Iz k n<n:=by
 rw[Iz,if_neg (by omega)]
 exact⟨Int.emod_nonneg _ (by omega),Int.emod_lt_of_pos _ (by omega)⟩
theorem Od(k:Int){n:Int}(h:1≤n):(k.tmod n<0∧k % n=k.tmod n+n)∨(0≤k.tmod n∧k % n=k.tmod n):=by
 have h2:k % n=(k.tmod n) % n:=by
  have:=Int.mul_tdiv_add_tmod k n
  conv=>lhs;rw[←this]
  rw[Int.add_comm,Int.add_mul_emod_self_left]
 have hb:-n<k.tmod n∧k.tmod n<n:=⟨by have:=Int.lt_tmod_of_pos k (b:=n) (by omega);omega,Int.tmod_lt_of_pos k (by omega)⟩
 by_cases vd:k.tmod n<0
 ·left
  refine⟨vd,?_⟩
  rw[h2,←Int.add_emod_right,Int.emod_eq_of_lt (by omega) (by omega)]
 ·right
  refine⟨by omega,?_⟩
  rw[h2,Int.emod_eq_of_lt (by omega) (by omega)]
theorem aE(k n:Int)(hn:n≤9223372036854775807):A4 Tryz.prog 14 [.i k,.i n] (.i (Iz k n)):=by
 have hb:=fun h:1≤n=>dl k h
 refine D0 Tryz.func14 16 fun ki E h0=>?_
 repeat'((first|(refine E0 ?_ ?_;(have:=hb (by omega);omega)) |refine S2 ?_|(refine T6 ?_ ?_<;>intro h<;>try exact V1 h)|intro el ke kg|intro el ke|exact T4|refine T5 ?_ ?_|intro ex)<;>try conv=>whnf)
 ·exact A3 rfl (congrArg AV.i (by rw[Iz,if_pos h]))
 ·refine A3 rfl (congrArg AV.i ?_)
  have nr:1≤n:=by omega
  have:=Od k nr
  rw[Iz,if_neg (by omega)];omega
 ·refine A3 rfl (congrArg AV.i ?_)
  have nr:1≤n:=by omega
  have:=Od k nr
  rw[Iz,if_neg (by omega)];omega
theorem p0(l:List UInt8)(a:Nat)(lo hi:Int)(hl:l.length≤400)(h1:lo≤hi)(h2:-4000000000000000000≤lo)(h3:hi≤4000000000000000000):A9 Tryz.prog 20 1 (E6 l a) [.ref 0 0,.i lo,.i hi] 1 (E6 l (B8 l a (hi-lo+1)).2) (.i (lo+(B8 l a (hi-lo+1)).1)):=by
 have kj:=I7 l a (n:=hi-lo+1) (by omega)
 refine G4 Tryz.func20 15 fun E h0=>?_
 repeat'((first|refine⟨Ct [0] [0] (K8 _ _ _ hl) rfl rfl rfl rfl rfl ⟨rfl,trivial⟩ rfl rfl rfl rfl rfl ?_⟩ |refine S2 ?_|(refine T6 ?_ ?_<;>intro h<;>try exact V1 h)|intro el ke kg|intro el ke|exact T4|refine T5 ?_ ?_|intro ex)<;>try conv=>whnf)
 exact D9 (B2 h0)
theorem Bj(l:List UInt8)(a:Nat)(n:Int)(hl:l.length≤400)(hn:1≤n∧n≤1000000):A9 Tryz.prog 19 1 (E6 l a) [.ref 0 0,.i n] 1 (E6 l (B8 l a n).2) (.b (decide (((B8 l a n).1:Int)=n-1))):=by
 refine G4 Tryz.func19 11 fun E h0=>?_
 repeat'((first|refine⟨Ct [0] [0] (K8 _ _ _ hl) rfl rfl rfl rfl rfl ⟨rfl,trivial⟩ rfl rfl rfl rfl rfl ?_⟩ |refine S2 ?_|(refine T6 ?_ ?_<;>intro h<;>try exact V1 h)|intro el ke kg|intro el ke|exact T4|refine T5 ?_ ?_|intro ex)<;>try conv=>whnf)
 exact D9 (B2 h0)
def Vd:Nat→Nat→List UInt8
 |0,_=>[]
 |f+1,n=>if n<10 then [UInt8.ofNat (48+n)]else Vd f (n / 10)++[UInt8.ofNat (48+n % 10)]
def O0(n:Nat):List UInt8:=Vd 20 n
theorem Xg:∀n:Nat,n<10→(([48,49,50,51,52,53,54,55,56,57,97,98,99,100,101,102,103,104,105,106,107,108,109,110,111,112,113,114,115,116,117,118,119,120,121,122]:List UInt8).take (n+1)).drop n=O0 n:=by decide
def jj:List UInt8:=[48,48,48,49,48,50,48,51,48,52,48,53,48,54,48,55,48,56,48,57,49,48,49,49,49,50,49,51,49,52,49,53,49,54,49,55,49,56,49,57,50,48,50,49,50,50,50,51,50,52,50,53,50,54,50,55,50,56,50,57,51,48,51,49,51,50,51,51,51,52,51,53,51,54,51,55,51,56,51,57,52,48,52,49,52,50,52,51,52,52,52,53,52,54,52,55,52,56,52,57,53,48,53,49,53,50,53,51,53,52,53,53,53,54,53,55,53,56,53,57,54,48,54,49,54,50,54,51,54,52,54,53,54,54,54,55,54,56,54,57,55,48,55,49,55,50,55,51,55,52,55,53,55,54,55,55,55,56,55,57,56,48,56,49,56,50,56,51,56,52,56,53,56,54,56,55,56,56,56,57,57,48,57,49,57,50,57,51,57,52,57,53,57,54,57,55,57,56,57,57]
set_option maxRecDepth 10000 in
theorem Xh:∀n:Nat,n<100→10≤n→(jj.take (n*2+2)).drop (n*2)=O0 n:=by decide
theorem Ve(n:Nat)(hn:n<100):A4 Tryz.prog 145 [.i n] (.str (O0 n)):=by
 refine D0 Tryz.func145 15 fun ki E h0=>?_
 repeat'((first|(refine E0 ?_ ?_;(refine⟨by omega,by omega,?_⟩;simp only[List.length_cons,List.length_nil];omega))|(refine E0 ?_ ?_;(refine⟨by omega,by omega,?_⟩;(show _≤((200:Nat):Int));omega)) |refine S2 ?_|(refine T6 ?_ ?_<;>intro h<;>try exact V1 h)|intro el ke kg|intro el ke|exact T4|refine T5 ?_ ?_|intro ex)<;>try conv=>whnf)
 ·refine A3 rfl (congrArg AV.str ?_)
  rw[←Xg n (by omega)]
  congr 1
 ·refine A3 rfl (congrArg AV.str ?_)
  rw[←Xh n hn (by omega)]
  show List.drop ((n:Int)*2).toNat (List.take ((n:Int)*2+2).toNat jj)=_
  congr 2
theorem NY(n:Nat)(hn:n<100):A4 Tryz.prog 99 [.i n,.i 10] (.str (O0 n)):=by
 refine D0 Tryz.func99 54 fun ki E h0=>?_
 repeat'((first|refine A0 (Ve _ hn) ?_|(refine I6 ?_ ?_;kernel_rfl) |refine S2 ?_|(refine T6 ?_ ?_<;>intro h<;>try exact V1 h)|intro el ke kg|intro el ke|exact T4|refine T5 ?_ ?_|intro ex)<;>try conv=>whnf)
 all_goals first
  |exact A3 rfl rfl
theorem Vf(n:Nat)(hn:n<100):A4 Tryz.prog 52 [.i n] (.str (O0 n)):=by
 refine D0 Tryz.func52 5 fun ki E h0=>?_
 repeat'((first|refine A0 (NY _ hn) ?_ |refine S2 ?_|(refine T6 ?_ ?_<;>intro h<;>try exact V1 h)|intro el ke kg|intro el ke|exact T4|refine T5 ?_ ?_|intro ex)<;>try conv=>whnf)
 exact A3 rfl rfl
theorem Cv(n:Nat)(hn:n<100):A4 Tryz.prog 22 [.i n] (.str (O0 n)):=by
 refine D0 Tryz.func22 5 fun ki E h0=>?_
 repeat'((first|refine A0 (Vf _ hn) ?_ |refine S2 ?_|(refine T6 ?_ ?_<;>intro h<;>try exact V1 h)|intro el ke kg|intro el ke|exact T4|refine T5 ?_ ?_|intro ex)<;>try conv=>whnf)
 exact A3 rfl rfl
def cX(i:Nat):Code:=⟨[107]++O0 i,0⟩
def Pg(n p:Nat):Code:=⟨[108]++O0 n,1+p⟩
def jw:Code:=⟨[116,111,112],-1⟩
def X3(kids:Nat):List Code:=jw::(List.range kids).map cX
def NZ(cs:List Code)(p:Nat):Nat→List Code
 |0=>cs
 |k+1=>NZ (cs++[Pg cs.length p]) p k
def EV(l:List UInt8):List Code×Nat→Nat→Nat→List Code×Nat
 |s,_,0=>s
 |s,p,k+1=>EV l (NZ s.1 p (1+(B8 l s.2 2).1),(B8 l s.2 2).2) (p+1) k
def L6(l:List UInt8)(a:Nat):List Code×Nat :=
 let kids:=1+(B8 l a 3).1
 let b:=B8 l (B8 l a 3).2 2
 if b.1=1 then (X3 kids,b.2)else EV l (X3 kids,b.2) 0 kids
abbrev Oe:Nat:=79
abbrev lB(l:List UInt8)(a:Nat)(nm:List UInt8)(cs:List Code):Hp:=[(0,some (.box [.sl 1 (l.map X9),.i a])),(1,some (.box [.str nm,.row 2 0 cs.length])),(2,some (.row Oe 2 0 (cs.map cA)))]
theorem TD(i:Nat):(X3 i)++[cX i]=X3 (i+1):=by
 unfold X3
 rw[List.range_succ,List.map_append];rfl
theorem CW(i:Nat):(X3 i).length=i+1:=by simp[X3]
theorem Km:∀f n,(Vd f n).length≤f
 |0,_=>Nat.le_refl _
 |f+1,n=>by
  unfold Vd
  split
  ·simp
  ·have:=Km f (n / 10)
   simp;omega
theorem Ak(n:Nat):(O0 n).length≤20:=Km 20 n
theorem Of(l:List UInt8)(a:Nat)(nm:List UInt8)(hl:l.length≤400):A9 Tryz.prog 18 1 (E6 l a) [.ref 0 0,.str nm] 3 (lB l (L6 l a).2 nm (L6 l a).1) (.agg [.str nm,.row 2 0 (L6 l a).1.length]):=by
 have vq:=I7 l a (n:=3) (by omega)
 generalize me:(B8 l a 3).1=b1 at vq
 generalize ll:(B8 l a 3).2=b2
 refine G4 Tryz.func18 58 fun E h0=>?_
 repeat'((first|refine Iy rfl ?_|refine⟨Ct [0] [0] (p0 _ _ _ _ hl (by omega) (by omega) (by omega)) rfl rfl rfl rfl rfl ⟨rfl,trivial⟩ rfl rfl rfl rfl rfl ?_⟩|refine⟨Ct [0] [0] (Bj _ _ _ hl (by omega)) rfl rfl rfl rfl rfl ⟨rfl,trivial⟩ rfl rfl rfl rfl rfl ?_⟩ |refine S2 ?_|(refine T6 ?_ ?_<;>intro h<;>try exact V1 h)|intro el ke kg|intro el ke|exact T4|refine T5 ?_ ?_|intro ex)<;>try conv=>whnf)
 refine D5 (ι:=Nat) (fun i=>⟨[(0,.ref 0 0),(4,.ref 1 0),(5,.ref 3 0),(6,.i (1+b1:Int)),(7,.i i)],4,[(0,some (.box [.sl 1 (l.map X9),.i b2])),(1,some (.box [.str [],.v (.slice none 0 0)])),(2,some (.row Oe 2 0 ((X3 i).map cA))),(3,some (.box [.str nm,.row 2 0 (X3 i).length]))]⟩) (fun i=>i≤1+b1) (fun i=>1+b1-i) 0 (Nat.zero_le _) (B0 h0 rfl ⟨rfl,rfl,rfl,by rw[←me];rfl,rfl,trivial⟩ ⟨by rw[←ll];rfl,rfl,⟨0,rfl⟩,rfl,trivial⟩ rfl rfl rfl) (fun i hI=>?_)
 have sK:=Ak i
 have lJ:=CW i
 repeat'((first|refine A0 (Cv i (by omega)) ?_|(refine E0 ?_ ?_;(simp only[List.length_cons,List.length_nil];omega))|refine⟨Ct [0] [0] (Bj _ _ _ hl (by omega)) rfl rfl rfl rfl rfl ⟨rfl,trivial⟩ rfl rfl rfl rfl rfl ?_⟩|refine Bg ⟨[(0,.ref 0 0),(4,.ref 1 0),(5,.ref 3 0),(6,.i (1+b1:Int)),(7,.i i)],4,[(0,some (.box [.sl 1 (l.map X9),.i b2])),(1,some (.box [.str [],.v (.slice none 0 0)])),(2,some (.row Oe 2 0 ((X3 (i+1)).map cA))),(3,some (.box [.str nm,.row 2 0 (X3 (i+1)).length]))]⟩ ?_ ?_ |refine S2 ?_|(refine T6 ?_ ?_<;>intro h<;>try exact V1 h)|intro el ke kg|intro el ke|exact T4|refine T5 ?_ ?_|intro ex)<;>try conv=>whnf)
 case refine_1.refine_2 =>
  exact⟨i+1,by omega,by omega,B0 h0 rfl ⟨rfl,rfl,rfl,rfl,rfl,trivial⟩ ⟨rfl,rfl,⟨0,rfl⟩,rfl,trivial⟩ rfl rfl rfl⟩
 case refine_2.refine_1 =>
  have e:L6 l a=(X3 (1+b1),(B8 l b2 2).2):=by
   have:(B8 l b2 2).1=1:=by omega
   simp[L6,me,ll,this]
  have ei:i=1+b1:=by omega
  subst ei
  rw[e]
  exact OS (i:=1) rfl (B0 h0 rfl ⟨rfl,trivial⟩ ⟨rfl,rfl,⟨0,rfl⟩,trivial⟩ rfl rfl rfl) rfl
 case refine_2.refine_2 =>
  have e:L6 l a=EV l (X3 (1+b1),(B8 l b2 2).2) 0 (1+b1):=by
   have:¬(B8 l b2 2).1=1:=by omega
   simp[L6,me,ll,this]
  have ei:i=1+b1:=by omega
  subst ei
  rw[e]
  clear e h hI sK
  generalize (B8 l b2 2).2=b3
  refine D5 (ι:=Nat×List Code×Nat) (fun x=>⟨[(0,.ref 0 0),(4,.ref 1 0),(5,.ref 3 0),(6,.i (1+b1:Int)),(8,.i x.1)],4,[(0,some (.box [.sl 1 (l.map X9),.i x.2.2])),(1,some (.box [.str [],.v (.slice none 0 0)])),(2,some (.row Oe 2 0 (x.2.1.map cA))),(3,some (.box [.str nm,.row 2 0 x.2.1.length]))]⟩)
   (fun x=>x.1≤1+b1∧x.2.1.length≤2+b1+2*x.1∧EV l (X3 (1+b1),b3) 0 (1+b1)=EV l x.2 x.1 (1+b1-x.1)) (fun x=>1+b1-x.1) (0,X3 (1+b1),b3) ⟨Nat.zero_le _,by rw[CW];omega,rfl⟩
   (B0 h0 rfl ⟨rfl,rfl,rfl,rfl,rfl,trivial⟩ ⟨rfl,rfl,⟨0,rfl⟩,rfl,trivial⟩ rfl rfl rfl) (fun x hJ=>?_)
  obtain⟨p,cs,a2⟩:=x
  obtain⟨hp,ku,hJ⟩:=hJ
  simp only at hp ku hJ
  repeat'((first|refine⟨Ct [0] [0] (p0 _ _ _ _ hl (by omega) (by omega) (by omega)) rfl rfl rfl rfl rfl ⟨rfl,trivial⟩ rfl rfl rfl rfl rfl ?_⟩ |refine S2 ?_|(refine T6 ?_ ?_<;>intro h<;>try exact V1 h)|intro el ke kg|intro el ke|exact T4|refine T5 ?_ ?_|intro ex)<;>try conv=>whnf)
  ·simp only at h
   have lp:=I7 l a2 (n:=2) (by omega)
   generalize wG:(B8 l a2 2).1=r1 at lp
   generalize oV:(B8 l a2 2).2=r2
   refine D5 (ι:=List Code×Nat) (fun y=>⟨[(0,.ref 0 0),(4,.ref 1 0),(5,.ref 3 0),(6,.i (1+b1:Int)),(8,.i p),(9,.i y.2)],4,[(0,some (.box [.sl 1 (l.map X9),.i r2])),(1,some (.box [.str [],.v (.slice none 0 0)])),(2,some (.row Oe 2 0 (y.1.map cA))),(3,some (.box [.str nm,.row 2 0 y.1.length]))]⟩)
    (fun y=>y.2≤1+r1∧y.1.length+y.2=cs.length+1+r1∧NZ cs p (1+r1)=NZ y.1 p y.2) (fun y=>y.2) (cs,1+r1) ⟨Nat.le_refl _,by simp only;omega,rfl⟩
    (B0 h0 rfl ⟨rfl,rfl,rfl,rfl,rfl,by rw[←wG];exact congrArg (fun z=>some (AV.i z)) (by show (1:Int)+((B8 l a2 2).1:Int)=_;simp only;omega),trivial⟩ ⟨by rw[←oV];rfl,rfl,⟨0,rfl⟩,rfl,trivial⟩ rfl rfl rfl) (fun y hK=>?_)
   obtain⟨qR,k⟩:=y
   obtain⟨hk,kf,hK⟩:=hK
   simp only at hk kf hK
   have sK:=Ak qR.length
   repeat'((first|refine A0 (Cv qR.length (by omega)) ?_|(refine E0 ?_ ?_;(simp only[List.length_cons,List.length_nil];omega))|refine Bg ⟨[(0,.ref 0 0),(4,.ref 1 0),(5,.ref 3 0),(6,.i (1+b1:Int)),(8,.i p),(9,.i k)],4,[(0,some (.box [.sl 1 (l.map X9),.i r2])),(1,some (.box [.str [],.v (.slice none 0 0)])),(2,some (.row Oe 2 0 ((qR++[Pg qR.length p]).map cA))),(3,some (.box [.str nm,.row 2 0 (qR++[Pg qR.length p]).length]))]⟩ ?_ ?_ |refine S2 ?_|(refine T6 ?_ ?_<;>intro h<;>try exact V1 h)|intro el ke kg|intro el ke|exact T4|refine T5 ?_ ?_|intro ex)<;>try conv=>whnf)
   all_goals first
    |exact B0 h0 rfl ⟨rfl,rfl,rfl,rfl,rfl,rfl,trivial⟩ ⟨rfl,rfl,⟨_,congrArg (G1.row Oe 2 _) (by rw[List.map_append];rfl)⟩,congrArg (fun z=>G1.box [AV.str nm,.row 2 0 z]) (by rw[List.length_append];rfl),trivial⟩ rfl rfl rfl
    |skip
   ·simp only at h
    obtain⟨k',rfl⟩:∃k',k=k'+1:=⟨k-1,by omega⟩
    refine⟨(qR++[Pg qR.length p],k'),⟨?_,?_,?_⟩,?_,B0 h0 rfl ⟨rfl,rfl,rfl,rfl,rfl,congrArg (fun z=>some (AV.i z)) ?_,trivial⟩ ⟨rfl,rfl,⟨0,rfl⟩,rfl,trivial⟩ rfl rfl rfl⟩
    ·simp only;omega
    ·simp only[List.length_append,List.length_singleton];omega
    ·rw[hK];rfl
    ·simp only;omega
    ·simp only;omega
   ·simp only at h
    have ek:k=0:=by omega
    subst ek
    refine⟨(p+1,qR,r2),⟨?_,?_,?_⟩,?_,B0 h0 rfl ⟨rfl,rfl,rfl,rfl,rfl,trivial⟩ ⟨rfl,rfl,⟨0,rfl⟩,rfl,trivial⟩ rfl rfl rfl⟩
    ·simp only;omega
    ·simp only;omega
    ·obtain⟨q,hq⟩:∃q,1+b1-p=q+1:=⟨b1-p,by omega⟩
     have ry:1+b1-(p+1)=q:=by omega
     rw[hJ,hq]
     simp only[ry,EV,wG,oV,hK]
     rfl
    ·simp only;omega
  ·simp only at h
   have e1:1+b1-p=0:=by omega
   rw[hJ,e1]
   exact OS (i:=1) rfl (B0 h0 rfl ⟨rfl,trivial⟩ ⟨rfl,rfl,⟨0,rfl⟩,trivial⟩ rfl rfl rfl) rfl
 all_goals exact B0 h0 rfl ⟨rfl,rfl,rfl,rfl,rfl,trivial⟩ ⟨rfl,rfl,⟨_,congrArg (G1.row Oe 2 _) (by rw[←TD,List.map_append];rfl)⟩,congrArg (fun z=>G1.box [AV.str nm,.row 2 0 z]) (by rw[CW,CW];rfl),trivial⟩ rfl rfl rfl
def lF:List Code→Nat→List Nat→List Code
 |cs,_,[]=>cs
 |cs,p,r::rs=>lF (NZ cs p r) (p+1) rs
def Qx:Nat→List (List Nat)
 |0=>[[]]
 |k+1=>(Qx k).flatMap fun r=>[1::r,2::r]
theorem Mh(l:List UInt8):∀(k p:Nat) (s:List Code×Nat),∃rs∈Qx k,(EV l s p k).1=lF s.1 p rs
 |0,p,s=>⟨[],by simp[Qx],rfl⟩
 |k+1,p,s=>by
  have h2:=I7 l s.2 (n:=2) (by omega)
  obtain⟨rs,h,e⟩:=Mh l k (p+1) (NZ s.1 p (1+(B8 l s.2 2).1),(B8 l s.2 2).2)
  refine⟨(1+(B8 l s.2 2).1)::rs,?_,?_⟩
  ·rw[Qx,List.mem_flatMap]
   refine⟨rs,h,?_⟩
   rcases(show (B8 l s.2 2).1=0∨(B8 l s.2 2).1=1 by omega)with e|e<;>rw[e]<;>simp
  ·rw[EV,e];rfl
def Mi:List (List Code):=[1,2,3].flatMap fun kids=>X3 kids::(Qx kids).map fun rs=>lF (X3 kids) 0 rs
theorem Og(l:List UInt8)(a:Nat):(L6 l a).1∈Mi:=by
 have h3:=I7 l a (n:=3) (by omega)
 unfold Mi
 rw[List.mem_flatMap]
 refine⟨1+(B8 l a 3).1,?_,?_⟩
 ·rcases(show (B8 l a 3).1=0∨(B8 l a 3).1=1∨(B8 l a 3).1=2 by omega)with e|e|e<;>rw[e]<;>simp
 ·unfold L6
  simp only
  split
  ·simp
  ·obtain⟨rs,h,e⟩:=Mh l (1+(B8 l a 3).1) 0 (X3 (1+(B8 l a 3).1),(B8 l (B8 l a 3).2 2).2)
   rw[e]
   exact List.mem_cons_of_mem _ (List.mem_map.2 ⟨rs,h,rfl⟩)
end Go.Proofs.YtkcekccdcpmekaaGreatDoor

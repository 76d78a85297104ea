/- Chapters 11 and 12: samples and keys, by the reference. -/
import Derived.Test.YtiphlhoclaogjaaGreatDoorSTc0
import Derived.Test.YtiphlhoclaogjaaGreatDoorSTa0
import Derived.Test.YtiphlhoclaogjaaGreatDoorSB14
import Derived.Test.YtiphlhoclaogjaaGreatDoorSDr8
import Derived.Test.YtiphlhoclaogjaaGreatDoorSQn2
import Derived.Test.YtiphlhoclaogjaaGreatDoorSCe9
set_option linter.unusedVariables false
set_option linter.unnecessarySimpa false
set_option linter.unusedSimpArgs false
set_option maxHeartbeats 64000000
namespace Go.Proofs.YtiphlhoclaogjaaGreatDoor
open Go Go.Av
attribute [local irreducible] C7 B2 D3 C9 DQ D0 C8 St.le A3 B9
set_option maxRecDepth 100000
abbrev uW(z:Int):Int:=IntKind.u64.wrap z
abbrev UO(g:Int)(k:Int):Int:=g.fdiv (2 ^ min k.toNat IntKind.u64.bits)
abbrev jt(a b:Int):Int:=IntKind.u64.wrap ((BitVec.ofInt IntKind.u64.bits a ^^^ BitVec.ofInt IntKind.u64.bits b).toNat:Int)
def Yn(g:Int):Int:=jt (uW (uW (g*6364136223846793005)+1442695040888963407)) (UO (uW (uW (g*6364136223846793005)+1442695040888963407)) 29)
def GF(f:Int→Int):Nat→Int→Int
 |0,g=>g
 |k+1,g=>GF f k (f g)
def RR(seed id:Int):Int:=IntKind.i64.wrap (UO (GF Yn 3 (uW (uW (uW (uW seed*2654435761)+uW (uW id*40503))+97))) 32)
theorem Yo(seed id:Int):A3 Tryz.prog 192 [.i seed,.i id] (.i (RR seed id)):=by
 unfold RR
 generalize hG:GF Yn 3 (uW (uW (uW (uW seed*2654435761)+uW (uW id*40503))+97))=G
 refine B6 Tryz.func192 29 fun lW E h0=>?_
 clear lW
 repeat'((first|refine S2 ?_|(refine T6 ?_ ?_<;>intro h<;>try exact V1 h)|intro el lU lV|intro el lU|exact T4|refine T5 ?_ ?_|intro ex)<;>try conv=>whnf)
 refine B0 (ι:=Nat×Int) (fun x=>⟨[(5,.v (.int .u64 x.2)),(6,.i x.1)],0,[]⟩)
  (fun x=>x.1≤3∧GF Yn (3-x.1) x.2=G) (fun x=>3-x.1) (0,uW (uW (uW (uW seed*2654435761)+uW (uW id*40503))+97)) ⟨Nat.zero_le _,hG⟩ (A6 h0) (fun x hI=>?_)
 obtain⟨k,g⟩:=x
 obtain⟨i1,i2⟩:=hI
 dsimp only at i1 i2 ⊢
 by_cases hk:k<3
 ·rw[show 3-k=(3-(k+1))+1 by omega,GF]at i2
  repeat'((first|refine S2 ?_|(refine T6 ?_ ?_<;>intro h<;>try exact V1 h)|intro el lU lV|intro el lU|exact T4|refine T5 ?_ ?_|intro ex)<;>try conv=>whnf)
  all_goals first
   |(exfalso;omega)
   |exact⟨(k+1,Yn g),⟨by dsimp only;omega,i2⟩,by dsimp only;omega,A6 h0⟩
 ·rw[show 3-k=0 by omega,GF]at i2
  subst i2
  repeat'((first|refine S2 ?_|(refine T6 ?_ ?_<;>intro h<;>try exact V1 h)|intro el lU lV|intro el lU|exact T4|refine T5 ?_ ?_|intro ex)<;>try conv=>whnf)
  all_goals first
   |(exfalso;omega)
   |exact A0 rfl rfl
def PI(part of seed:Int):Int:=if of<1∨1000<of∨part<1∨of<part∨seed<0∨1099511627776<seed then 2 else 0
theorem UP(part of seed:Int):A3 Tryz.prog 191 [.agg [.i part,.i of,.i seed]] (.i (PI part of seed)):=by
 unfold PI
 refine B6 Tryz.func191 33 fun lW E h0=>?_
 clear lW
 repeat'((first|refine S2 ?_|(refine T6 ?_ ?_<;>intro h<;>try exact V1 h)|intro el lU lV|intro el lU|exact T4|refine T5 ?_ ?_|intro ex)<;>try conv=>whnf)
 all_goals first
  |(rw[if_pos (by omega)];exact A0 rfl rfl)
  |(rw[if_neg (by omega)];exact A0 rfl rfl)
def UQ(part of seed id:Int):Bool:=if PI part of seed=0∧1≤id∧id≤1048575 then decide ((RR seed id).tmod of<part)else false
theorem dw(part of seed id:Int):A3 Tryz.prog 147 [.agg [.i part,.i of,.i seed],.i id] (.b (UQ part of seed id)):=by
 have h1:=UP part of seed
 have h2:=Yo seed id
 unfold UQ
 have xj:PI part of seed=0→1≤of:=fun h=>by
  unfold PI at h
  split at h
  ·cases h
  ·omega
 generalize PI part of seed=e at *
 generalize RR seed id=g at *
 by_cases hc:e=0∧1≤id∧id≤1048575
 ·rw[if_pos hc]
  obtain⟨rfl,nt,ng⟩:=hc
  have:=xj rfl
  refine B6 Tryz.func147 28 fun lW E h0=>?_
  clear lW
  repeat'((first|refine A1 h1 ?_|refine A1 h2 ?_|(refine B3 ?_ ?_;kernel_rfl) |refine S2 ?_|(refine T6 ?_ ?_<;>intro h<;>try exact V1 h)|intro el lU lV|intro el lU|exact T4|refine T5 ?_ ?_|intro ex)<;>try conv=>whnf)
  all_goals first
   |(exfalso;omega)
   |exact A0 rfl rfl
 ·rw[if_neg hc]
  refine B6 Tryz.func147 28 fun lW E h0=>?_
  clear lW
  repeat'((first|refine A1 h1 ?_|(refine B3 ?_ ?_;kernel_rfl) |refine S2 ?_|(refine T6 ?_ ?_<;>intro h<;>try exact V1 h)|intro el lU lV|intro el lU|exact T4|refine T5 ?_ ?_|intro ex)<;>try conv=>whnf)
  all_goals first
   |(exfalso;omega)
   |exact A0 rfl rfl
theorem kc(z:Int):0≤uW z∧uW z≤18446744073709551615:=by
 have:uW z=z % 18446744073709551616:=by
  unfold uW IntKind.wrap
  simp[IntKind.signed,IntKind.bits]
 rw[this]
 omega
theorem iG(g:Int):UO g 54=g / 18014398509481984:=by
 show g.fdiv (2 ^ 54)=_
 rw[Int.fdiv_eq_ediv_of_nonneg _ (by decide)]
 rfl
def MM(g:Int):Int:=uW (jt g (UO g 31)*13787848793156543929)
def MN(secret round half:Int):Int :=
 if secret<0∨1152921504606846976≤secret∨round<0∨7<round∨half<0∨1023<half then 0
 else IntKind.i64.wrap (UO (GF MM 3 (uW (uW (uW secret+uW (uW round*11400714819323198485))+uW (uW half*14029467366897019727)))) 54)
theorem iH(secret round half:Int):0≤MN secret round half∧MN secret round half≤1023:=by
 unfold MN
 split
 ·exact⟨by decide,by decide⟩
 ·generalize uW (uW (uW secret+uW (uW round*11400714819323198485))+uW (uW half*14029467366897019727))=g
  have hb:0≤GF MM 3 g∧GF MM 3 g≤18446744073709551615:=kc _
  generalize GF MM 3 g=G at *
  rw[iG,P1 (by omega)]
  omega
theorem Va(secret round half:Int):A3 Tryz.prog 149 [.i secret,.i round,.i half] (.i (MN secret round half)):=by
 unfold MN
 by_cases hc:secret<0∨1152921504606846976≤secret∨round<0∨7<round∨half<0∨1023<half
 ·rw[if_pos hc]
  refine B6 Tryz.func149 54 fun lW E h0=>?_
  clear lW
  repeat'((first|refine S2 ?_|(refine T6 ?_ ?_<;>intro h<;>try exact V1 h)|intro el lU lV|intro el lU|exact T4|refine T5 ?_ ?_|intro ex)<;>try conv=>whnf)
  all_goals first
   |(exfalso;omega)
   |exact A0 rfl rfl
 rw[if_neg hc]
 generalize hG:GF MM 3 (uW (uW (uW secret+uW (uW round*11400714819323198485))+uW (uW half*14029467366897019727)))=G
 refine B6 Tryz.func149 54 fun lW E h0=>?_
 clear lW
 repeat'((first|refine S2 ?_|(refine T6 ?_ ?_<;>intro h<;>try exact V1 h)|intro el lU lV|intro el lU|exact T4|refine T5 ?_ ?_|intro ex)<;>try conv=>whnf)
 all_goals first
  |(exfalso;omega)
  |skip
 refine B0 (ι:=Nat×Int) (fun x=>⟨[(7,.v (.int .u64 x.2)),(8,.i x.1)],0,[]⟩)
  (fun x=>x.1≤3∧GF MM (3-x.1) x.2=G) (fun x=>3-x.1) (0,uW (uW (uW secret+uW (uW round*11400714819323198485))+uW (uW half*14029467366897019727))) ⟨Nat.zero_le _,hG⟩ (A6 h0) (fun x hI=>?_)
 obtain⟨k,g⟩:=x
 obtain⟨i1,i2⟩:=hI
 dsimp only at i1 i2 ⊢
 by_cases hk:k<3
 ·rw[show 3-k=(3-(k+1))+1 by omega,GF]at i2
  repeat'((first|refine S2 ?_|(refine T6 ?_ ?_<;>intro h<;>try exact V1 h)|intro el lU lV|intro el lU|exact T4|refine T5 ?_ ?_|intro ex)<;>try conv=>whnf)
  all_goals first
   |(exfalso;omega)
   |exact⟨(k+1,MM g),⟨by dsimp only;omega,i2⟩,by dsimp only;omega,A6 h0⟩
 ·rw[show 3-k=0 by omega,GF]at i2
  subst i2
  repeat'((first|refine S2 ?_|(refine T6 ?_ ?_<;>intro h<;>try exact V1 h)|intro el lU lV|intro el lU|exact T4|refine T5 ?_ ?_|intro ex)<;>try conv=>whnf)
  all_goals first
   |(exfalso;omega)
   |exact A0 rfl rfl
def UR(secret n:Int):Bool:=decide (0≤secret∧secret<1152921504606846976∧0≤n∧n<1048576)
theorem Qx(secret n:Int):A3 Tryz.prog 148 [.i secret,.i n] (.b (UR secret n)):=by
 unfold UR
 by_cases hc:0≤secret∧secret<1152921504606846976∧0≤n∧n<1048576
 ·rw[decide_eq_true hc]
  refine B6 Tryz.func148 19 fun lW E h0=>?_
  clear lW
  repeat'((first|refine S2 ?_|(refine T6 ?_ ?_<;>intro h<;>try exact V1 h)|intro el lU lV|intro el lU|exact T4|refine T5 ?_ ?_|intro ex)<;>try conv=>whnf)
  all_goals first
   |(exfalso;omega)
   |exact A0 rfl rfl
   |exact A0 rfl (congrArg AV.b (decide_eq_true (by omega)))
 ·rw[decide_eq_false hc]
  refine B6 Tryz.func148 19 fun lW E h0=>?_
  clear lW
  repeat'((first|refine S2 ?_|(refine T6 ?_ ?_<;>intro h<;>try exact V1 h)|intro el lU lV|intro el lU|exact T4|refine T5 ?_ ?_|intro ex)<;>try conv=>whnf)
  all_goals first
   |(exfalso;omega)
   |exact A0 rfl rfl
   |exact A0 rfl (congrArg AV.b (decide_eq_false (by omega)))
abbrev Yp(a b:Int):Int:=IntKind.i64.wrap ((BitVec.ofInt IntKind.i64.bits a ^^^ BitVec.ofInt IntKind.i64.bits b).toNat:Int)
theorem LP{a:Int}(h0:0≤a)(h1:a≤1023):(BitVec.ofInt 64 a).toNat<2 ^ 10:=by
 rw[BitVec.toNat_ofInt]
 omega
theorem iI{a b:Int}(ha:0≤a∧a≤1023)(hb:0≤b∧b≤1023):0≤Yp a b∧Yp a b≤1023:=by
 have h:(BitVec.ofInt 64 a ^^^ BitVec.ofInt 64 b).toNat<2 ^ 10:=by
  rw[BitVec.toNat_xor]
  exact Nat.xor_lt_two_pow (LP ha.1 ha.2) (LP hb.1 hb.2)
 show 0≤IntKind.i64.wrap ((BitVec.ofInt 64 a ^^^ BitVec.ofInt 64 b).toNat:Int)∧IntKind.i64.wrap ((BitVec.ofInt 64 a ^^^ BitVec.ofInt 64 b).toNat:Int)≤1023
 generalize (BitVec.ofInt 64 a ^^^ BitVec.ofInt 64 b).toNat=n at *
 rw[P1 (by omega)]
 omega
def EH(secret id:Int):Nat→Int×Int
 |0=>(id.tdiv 1024,id.tmod 1024)
 |i+1=>((EH secret id i).2,Yp (EH secret id i).1 (MN secret i (EH secret id i).2))
def US(secret id:Int):Int:=if UR secret id=true then (EH secret id 8).1*1024+(EH secret id 8).2 else -1
theorem bL{secret id:Int}(h:0≤id∧id<1048576):∀i,(0≤(EH secret id i).1∧(EH secret id i).1≤1023)∧(0≤(EH secret id i).2∧(EH secret id i).2≤1023)
 |0=>by
  unfold EH
  dsimp only
  rw[Int.tdiv_eq_ediv_of_nonneg h.1,Int.tmod_eq_emod_of_nonneg h.1]
  omega
 |i+1=>by
  have ih:=bL (secret:=secret) h i
  unfold EH
  exact⟨ih.2,iI ih.1 (iH _ _ _)⟩
theorem bM(secret id:Int):A3 Tryz.prog 96 [.i secret,.i id] (.i (US secret id)):=by
 have h1:=Qx secret id
 unfold US
 cases hb:UR secret id with
 |false =>
  rw[if_neg (by decide)]
  rw[hb]at h1
  refine B6 Tryz.func96 31 fun lW E h0=>?_
  clear lW
  repeat'((first|refine A1 h1 ?_ |refine S2 ?_|(refine T6 ?_ ?_<;>intro h<;>try exact V1 h)|intro el lU lV|intro el lU|exact T4|refine T5 ?_ ?_|intro ex)<;>try conv=>whnf)
  all_goals first
   |(exfalso;omega)
   |exact A0 rfl rfl
 |true =>
  rw[if_pos rfl]
  rw[hb]at h1
  unfold UR at hb
  have hb:=of_decide_eq_true hb
  have qY:=bL (secret:=secret) (id:=id) ⟨hb.2.2.1,hb.2.2.2⟩
  have qt:0≤id.tdiv 1024∧id.tdiv 1024≤1023:=by rw[Int.tdiv_eq_ediv_of_nonneg hb.2.2.1];omega
  have h2:=fun (i half:Int)=>Va secret i half
  have hs:∀i:Nat,EH secret id (i+1)=((EH secret id i).2,Yp (EH secret id i).1 (MN secret i (EH secret id i).2)):=fun _=>rfl
  have hz:EH secret id 0=(id.tdiv 1024,id.tmod 1024):=rfl
  generalize EH secret id=K at *
  refine B6 Tryz.func96 31 fun lW E h0=>?_
  clear lW
  repeat'((first|refine A1 h1 ?_|(refine B3 ?_ ?_;kernel_rfl) |refine S2 ?_|(refine T6 ?_ ?_<;>intro h<;>try exact V1 h)|intro el lU lV|intro el lU|exact T4|refine T5 ?_ ?_|intro ex)<;>try conv=>whnf)
  all_goals first
   |(exfalso;omega)
   |skip
  refine B0 (ι:=Nat) (fun i=>⟨[(0,.i secret),(5,.i (K i).1),(6,.i (K i).2),(7,.i i)],0,[]⟩) (fun i=>i≤8) (fun i=>8-i) 0 (Nat.zero_le _)
   (A9 h0 rfl ⟨rfl,congrArg (fun z:Int×Int=>some (AV.i z.1)) hz.symm,congrArg (fun z:Int×Int=>some (AV.i z.2)) hz.symm,rfl,trivial⟩ trivial rfl rfl rfl) (fun i hi=>?_)
  have hbi:=qY i
  have yN:=hs i
  have h3:=h2 i (K i).2
  by_cases hi8:i<8
  ·repeat'((first|refine A1 h3 ?_|(refine B3 ?_ ?_;kernel_rfl) |refine S2 ?_|(refine T6 ?_ ?_<;>intro h<;>try exact V1 h)|intro el lU lV|intro el lU|exact T4|refine T5 ?_ ?_|intro ex)<;>try conv=>whnf)
   all_goals first
    |(exfalso;omega)
    |exact⟨i+1,by omega,by omega,A9 h0 rfl ⟨rfl,congrArg (fun z:Int×Int=>some (AV.i z.1)) yN.symm,congrArg (fun z:Int×Int=>some (AV.i z.2)) yN.symm,rfl,trivial⟩ trivial rfl rfl rfl⟩
  ·obtain rfl:i=8:=by omega
   repeat'((first|refine S2 ?_|(refine T6 ?_ ?_<;>intro h<;>try exact V1 h)|intro el lU lV|intro el lU|exact T4|refine T5 ?_ ?_|intro ex)<;>try conv=>whnf)
   all_goals first
    |(exfalso;omega)
    |exact A0 rfl rfl
def Cg(l:List UInt8)(s:A4):Nat→List (List Int)×Nat→List (List Int)×Nat
 |0,x=>x
 |n+1,x=>Cg l s n (BL x.1 (k5 l x.2 s).1,(k5 l x.2 s).2)
def M4(l:List UInt8)(a:Nat)(most:Int):(A4×List (List Int))×Nat :=
 let r:=Cg l (CO l a).1 (B8 l (CO l a).2 (most+1)).1 ([],(B8 l (CO l a).2 (most+1)).2)
 (((CO l a).1,r.1),r.2)
theorem Wd{s:A4}(hd:E7 s)(l:List UInt8)(a:Nat):(k5 l a s).1≠[]:=by
 have h:=(gL hd l a).1
 have h2:=hd.lens
 intro e
 rw[e]at h
 simp at h;omega
theorem iJ{row:List Int}(hr:row≠[]){q:List (List Int)×Bool}{x:List Int}(hx:x≠[])(hq:∀y∈q.1,y≠[]):∀y∈(r9 row q x).1,y≠[]:=by
 obtain⟨out,done⟩:=q
 simp only[r9]
 split
 ·exact hq
 ·split
  ·intro y hy
   simp only[List.mem_append,List.mem_singleton]at hy
   rcases hy with (hy|rfl)|rfl
   ·exact hq y hy
   ·exact hr
   ·exact hx
  ·intro y hy
   simp only[List.mem_append,List.mem_singleton]at hy
   rcases hy with hy|rfl
   ·exact hq y hy
   ·exact hx
theorem We{l:List (List Int)}{row:List Int}(hr:row≠[])(hl:∀y∈l,y≠[]):∀y∈BL l row,y≠[]:=by
 have key:∀(l:List (List Int)) (q:List (List Int)×Bool),(∀y∈l,y≠[])→(∀y∈q.1,y≠[])→∀y∈(l.foldl (r9 row) q).1,y≠[]:=by
  intro l
  induction l with
  |nil=>intro q _ hq;exact hq
  |cons x r ih=>intro q hl hq;exact ih _ (fun y hy=>hl y (by simp[hy])) (iJ hr (hl x (by simp)) hq)
 have h:=key l ([],false) hl (fun y hy=>by cases hy)
 unfold BL
 dsimp only at h ⊢
 split
 ·exact h
 ·intro y hy
  simp only[List.mem_append,List.mem_singleton]at hy
  rcases hy with hy|rfl
  ·exact h y hy
  ·exact hr
abbrev O6(s:A4)(rows:List (List Int)):List AV:=[.sl 2 (s.lists.map AX),.sl 7 (s.cols.map X0),.sl 1 (rows.map F8),.v (.slice none 0 0),.i 0]
abbrev dz:Nat:=39
theorem eA(l:List UInt8)(a:Nat)(most:Int)(hl:l.length≤400)(hm:0≤most)(pP:most≤1000):B9 Tryz.prog 36 1 (R4 l a) [.ref 0 0,.i most] 1 (R4 l (M4 l a most).2) (.agg (O6 (M4 l a most).1.1 (M4 l a most).1.2)):=by
 have h1:=aS l a hl
 have hd:=Ng l a
 unfold M4
 dsimp only
 generalize CO l a=S at *
 obtain⟨s,a1⟩:=S
 dsimp only at h1 hd ⊢
 have h2:=H7 l a1 (most+1) hl
 have h3:=H1 l a1 (n:=most+1) (by omega)
 generalize B8 l a1 (most+1)=Q at *
 obtain⟨n,a2⟩:=Q
 dsimp only at h2 h3 ⊢
 refine V9 Tryz.func36 28 fun E h0=>?_
 repeat'((first|refine S2 ?_|(refine T6 ?_ ?_<;>intro h<;>try exact V1 h)|intro el lU lV|intro el lU|exact T4|refine T5 ?_ ?_|intro ex|refine nc [0] [0] h1 rfl rfl rfl ⟨rfl,trivial⟩ ?_|refine nc [0] [0] h2 rfl rfl rfl ⟨rfl,trivial⟩ ?_)<;>try conv=>whnf)
 clear h1 h2
 refine B0 (ι:=Nat×List (List Int)×Nat) (fun x=>⟨[(0,.ref 0 0),(4,.ref 1 0),(5,.iptr (sL s)),(6,.ref 3 0),(7,.i x.1)],4,[(0,some (.box [.sl 1 (l.map N9),.i x.2.2])),(1,some (.box [.v (.slice none 0 0),.v (.slice none 0 0),.v (.slice none 0 0),.v (.slice none 0 0),.i 0])),(3,some (.box (O6 s x.2.1)))]⟩)
  (fun x=>x.1≤n∧x.2.1.length≤n-x.1∧(∀y∈x.2.1,y≠[])∧Cg l s n ([],a2)=Cg l s x.1 x.2) (fun x=>x.1) (n,[],a2) ⟨Nat.le_refl _,by simp,(fun y hy=>by cases hy),rfl⟩
  (B5 (Ni 3 (O6 s []) rfl ⟨.refl _,.refl _,.nil 1,.refl _,.refl _,trivial⟩) (A6 h0)) (fun x hI=>?_)
 obtain⟨k,rows,b⟩:=x
 obtain⟨hk,lX,hne,hI⟩:=hI
 dsimp only at hk lX hne hI ⊢
 cases k with
 |zero =>
  rw[hI]
  simp only[Cg]
  repeat'((first|refine S2 ?_|(refine T6 ?_ ?_<;>intro h<;>try exact V1 h)|intro el lU lV|intro el lU|exact T4|refine T5 ?_ ?_|intro ex)<;>try conv=>whnf)
  all_goals first
   |exact I7 (rvs:=[.cell 4 dz]) (vs:=[_]) ⟨1,_,_,rfl,rfl,inferInstance,rfl,rfl,trivial⟩ rfl rfl (A6 h0) rfl
   |(exfalso;omega)
 |succ k =>
  have lu:=aT l b s hd hl
  have oz:=TT rows (k5 l b s).1 (by omega) hne (Wd hd l b)
  have nY:=Lt rows (k5 l b s).1
  have zM:=We (Wd hd l b) hne
  have nW:Cg l s (k+1) (rows,b)=Cg l s k (BL rows (k5 l b s).1,(k5 l b s).2):=rfl
  rw[nW]at hI
  generalize BL rows (k5 l b s).1=sr at *
  generalize k5 l b s=R at *
  obtain⟨r,b2⟩:=R
  dsimp only at lu oz hI nW
  repeat'((first|(refine F6 6 ?_;refine O0 (id:=6) (σ':=⟨[(0,.ref 0 0),(4,.ref 1 0),(5,.iptr (sL s)),(6,.ref 3 0),(7,.i ((k+1:Nat):Int))],4,[(0,some (.box [.sl 1 (l.map N9),.i b])),(1,some (.box [.v (.slice none 0 0),.v (.slice none 0 0),.v (.slice none 0 0),.v (.slice none 0 0),.i 0])),(3,some (.box (O6 s rows)))]⟩) (A6 h0) ?_;refine G9 (id:=6) ⟨[(0,.ref 0 0),(4,.ref 1 0),(5,.iptr (sL s)),(6,.ref 3 0),(7,.i ((k+1:Nat):Int))],4,[(0,some (.box [.sl 1 (l.map N9),.i b2])),(1,some (.box [.v (.slice none 0 0),.v (.slice none 0 0),.v (.slice none 0 0),.v (.slice none 0 0),.i 0])),(3,some (.box (O6 s sr)))]⟩ ?_ ?_) |refine S2 ?_|(refine T6 ?_ ?_<;>intro h<;>try exact V1 h)|intro el lU lV|intro el lU|exact T4|refine T5 ?_ ?_|intro ex|refine nc [0] [0] lu rfl rfl rfl ⟨rfl,trivial⟩ ?_|refine A1 oz ?_)<;>try conv=>whnf)
  all_goals first
   |exact A6 h0
   |exact⟨(k,sr,b2),⟨by dsimp only;omega,by dsimp only;omega,zM,hI⟩,by dsimp only;omega,A9 h0 rfl ⟨rfl,rfl,rfl,rfl,congrArg (fun z:Int=>some (AV.i z)) (by omega),trivial⟩ ⟨rfl,rfl,rfl,trivial⟩ rfl rfl rfl⟩
   |(exfalso;omega)
def MO(rows:List (List Int))(id:Int):Int:=F4 (fun r=>decide (0<r.length) && decide (r.headD 0=id)) rows 0
theorem Vb(s:A4)(rows:List (List Int))(id:Int):A3 Tryz.prog 95 [.agg (O6 s rows),.i id] (.i (MO rows id)):=by
 unfold MO
 generalize hp:(fun r:List Int=>decide (0<r.length) && decide (r.headD 0=id))=p
 have tN:∀r,p r=(decide (0<r.length) && decide (r.headD 0=id)):=fun r=>by rw[←hp]
 refine B6 Tryz.func95 32 fun lW E h0=>?_
 have lX:rows.length≤9223372036854775807:=by
  have:=((lW (.agg (O6 s rows)) (by simp)).agg (.sl 1 (rows.map F8)) (by simp[O6])).sl
  simpa using this
 clear lW
 repeat'((first|refine S2 ?_|(refine T6 ?_ ?_<;>intro h<;>try exact V1 h)|intro el lU lV|intro el lU|exact T4|refine T5 ?_ ?_|intro ex)<;>try conv=>whnf)
 refine B0 (ι:=Nat) (fun k=>⟨[(1,.i id),(2,.ref 0 0),(5,.i k)],1,[(0,some (.box (O6 s rows)))]⟩)
  (fun k=>k≤rows.length∧F4 p rows 0=F4 p (rows.drop k) k) (fun k=>rows.length-k) 0 ⟨Nat.zero_le _,rfl⟩ (A6 h0) (fun k hI=>?_)
 obtain⟨hk,hI⟩:=hI
 by_cases lk:k<rows.length
 ·obtain⟨r,hr⟩:∃r,rows[k]?=some r:=⟨_,List.getElem?_eq_getElem lk⟩
  have nP:rows[((k:Nat):Int).toNat]?=some r:=hr
  rw[G3 hr,F4]at hI
  have uh:=tN r
  cases r with
  |nil =>
   rw[show p []=false from uh,if_neg (by decide)]at hI
   repeat'((first|(refine A2 (x:=([]:List Int)) nP (by omega) ?_)|(refine B3 ?_ ?_;kernel_rfl) |refine S2 ?_|(refine T6 ?_ ?_<;>intro h<;>try exact V1 h)|intro el lU lV|intro el lU|exact T4|refine T5 ?_ ?_|intro ex)<;>try conv=>whnf)
   all_goals first
    |(exfalso;omega)
    |(exfalso;simp at *;done)
    |exact⟨k+1,⟨by omega,hI⟩,by omega,A6 h0⟩
  |cons a t =>
   have yo:(a::t)[((0:Int)).toNat]?=some a:=rfl
   have qu:0<(a::t).length:=by simp
   rw[decide_eq_true qu,Bool.true_and]at uh
   generalize hrr:a::t=r at *
   have hhd:r.headD 0=a:=by rw[←hrr];rfl
   rw[hhd]at uh
   by_cases ha:a=id
   ·rw[uh,decide_eq_true ha,if_pos rfl]at hI
    repeat'((first|(refine A2 (x:=r) nP (by omega) ?_)|(refine A2 (x:=a) yo (by omega) ?_)|(refine B3 ?_ ?_;kernel_rfl) |refine S2 ?_|(refine T6 ?_ ?_<;>intro h<;>try exact V1 h)|intro el lU lV|intro el lU|exact T4|refine T5 ?_ ?_|intro ex)<;>try conv=>whnf)
    all_goals first
     |(exfalso;omega)
     |exact A0 rfl (congrArg AV.i hI.symm)
   ·rw[uh,decide_eq_false ha,if_neg (by decide)]at hI
    repeat'((first|(refine A2 (x:=r) nP (by omega) ?_)|(refine A2 (x:=a) yo (by omega) ?_)|(refine B3 ?_ ?_;kernel_rfl) |refine S2 ?_|(refine T6 ?_ ?_<;>intro h<;>try exact V1 h)|intro el lU lV|intro el lU|exact T4|refine T5 ?_ ?_|intro ex)<;>try conv=>whnf)
    all_goals first
     |(exfalso;omega)
     |exact⟨k+1,⟨by omega,hI⟩,by omega,A6 h0⟩
 ·rw[List.drop_eq_nil_of_le (by omega),F4]at hI
  repeat'((first|refine S2 ?_|(refine T6 ?_ ?_<;>intro h<;>try exact V1 h)|intro el lU lV|intro el lU|exact T4|refine T5 ?_ ?_|intro ex)<;>try conv=>whnf)
  all_goals first
   |(exfalso;omega)
   |exact A0 rfl (congrArg AV.i hI.symm)
end Go.Proofs.YtiphlhoclaogjaaGreatDoor
